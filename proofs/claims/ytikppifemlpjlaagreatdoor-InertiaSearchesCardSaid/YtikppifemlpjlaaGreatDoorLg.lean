import Derived.Test.YtikppifemlpjlaaGreatDoorLf
import Derived.KernelRfl
set_option maxRecDepth 100000
set_option linter.unusedVariables false
set_option linter.unusedSimpArgs false
set_option linter.unusedSectionVars false
set_option linter.defProp false
namespace Go.Vs.F
abbrev DyL:=Bool×(Bool×LI)×Int
def dE (z:Int):DyL:=((mkD z (-1074)).1,((mkD z (-1074)).2.1,(mkD z (-1074)).2.2.1),(mkD z (-1074)).2.2.2.1)
def rowD (n:Nat) (f:Nat->Int):List DyL:=mr n λj=>dE (f j)
def matD (n:Nat) (D:Nat->Nat->Int):List (List DyL):=mr n λi=>rowD n (D i)
def Jt {n:Nat} {D:Nat->Nat->Int}:(matD n D).length=n:=Zh
def q0j {n:Nat} {f:Nat->Int}:(rowD n f).length=n:=Zh
def q1o {n i:Nat} {D:Nat->Nat->Int} (h:i<n):(matD n D).getD i []=rowD n (D i):=q2x h
def qe3 {n j:Nat} {f:Nat->Int} (h:j<n):(rowD n f).getD j qz=dE (f j):=q2x h
def qhu {z e:Int} (h:blen z.natAbs<=10000) (h1: -1074<=e) (h2:e<=0):OkD z e:=Yr.2 (.inr ⟨O,O⟩)
def ex_mk {z e:Int} (h:OkD z e) (hz:z≠0):(mkD z e).2.2.2.1=e+(tz z.natAbs:Int):=by
 rcases Yr.1 h with h|⟨h1,h2⟩
 . exact absurd h hz
 . unfold mkD;rw[iN' hz,iN' O]
def sm1 (l z:Int):Int:=if z=0 then l else if-1074+(tz z.natAbs:Int)<l then-1074+(tz z.natAbs:Int)else l
def mnR (f:Nat->Int):Nat->Int->Int
 |0,l=>l
 |k+1,l=>sm1 (mnR f k l) (f k)
def mnM (n:Nat) (D:Nat->Nat->Int):Nat->Int
 |0=>0
 |i+1=>mnR (D i) n (mnM n D i)
def qsv {l z:Int}:sm1 l z<=l:=by
 unfold sm1
 repeat' split
 all_goals omega
def quk {l z:Int} (h: -1074<=l): -1074<=sm1 l z:=by
 unfold sm1
 repeat' split
 all_goals omega
def sm1_z {l z:Int} (h:z≠0):sm1 l z<= -1074+(tz z.natAbs:Int):=by unfold sm1;rw[iN' h];split<;>omega
def qr7 {f:Nat->Int}: ∀{k:Nat} {l:Int},mnR f k l<=l
 |0,_=>zV4 _
 |k+1,l=>zH4 qsv (qr7 (k:=k))
def qss {f:Nat->Int}: ∀{k:Nat} {l:Int},-1074<=l-> -1074<=mnR f k l
 |0,_,h=>h
 |k+1,l,h=>quk (qss (k:=k) h)
def mnR_z {f:Nat->Int}: ∀{k:Nat} {l:Int} {j:Nat},j<k->f j≠0->mnR f k l<= -1074+(tz (f j).natAbs:Int)
 |0,_,_,h,_=>absurd h (ze1 _)
 |k+1,l,j,h,hz=>by
  by_cases c:j=k
  . subst c;exact sm1_z hz
  . exact zH4 qsv (mnR_z (k:=k) O hz)
def qsl {n:Nat} {D:Nat->Nat->Int}: ∀{i:Nat},mnM n D i<=0
 |0=>zV4 _
 |i+1=>zH4 qr7 (qsl (i:=i))
def qq4 {n:Nat} {D:Nat->Nat->Int}: ∀{i:Nat},-1074<=mnM n D i
 |0=>by show-1074<=0;omega
 |i+1=>qss (qq4 (i:=i))
def mnM_z {n:Nat} {D:Nat->Nat->Int}: ∀{k i j:Nat},i<k->j<n->D i j≠0->mnM n D k<= -1074+(tz (D i j).natAbs:Int)
 |0,_,_,h,_,_=>absurd h (ze1 _)
 |k+1,i,j,h,hj,hz=>by
  by_cases c:i=k
  . subst c;exact mnR_z hj hz
  . exact zH4 qr7 (mnM_z (k:=k) O hj hz)
def kM (n:Nat) (D:Nat->Nat->Int):Nat:=(mnM n D n+1074).toNat
section
variable {m:Nat} (hm:5000000000<=m)
include hm
theorem pSign {z:Int} (h:blen z.natAbs<=10000):g92 m (mkD z (-1074)).1 (mkD z (-1074)).2.1 (mkD z (-1074)).2.2.1 (mkD z (-1074)).2.2.2.1=some (sgn z,(),()):=qja O (qhu h O O)
theorem qsm {z:Int} (h:blen z.natAbs<=10000):g38 m (mkD z (-1074)).1 (mkD z (-1074)).2.1 (mkD z (-1074)).2.2.1 (mkD z (-1074)).2.2.2.1=some (sgn z,(),()):=by
 have ok:(mkD z (-1074)).1=false:=qhu h O O;rw[g38,X5 O,bS,qg9 O ok];dsimp only;rw[ok,cond_false,bS]
theorem qum {z L:Int} (h:blen z.natAbs<=10000) (h1: -1074<=L) (h0:L<=0):g94 m (mkD z (-1074)).1 (mkD z (-1074)).2.1 (mkD z (-1074)).2.2.1 (mkD z (-1074)).2.2.2.1 (wI (0-L))=some (mkD z (-1074-L),(),(),()):=by
 have w:wI (0-L)= -L:=by rw[wQ,wi O O];omega
 rw[qrr O,iP (qhu h O O),w];have:qo4 (-L)= -L:=by unfold qo4;omega
 rw[this,zY2]
theorem qp6 {w f z c:Int} {k:Nat} (e:EqD w f z c) (h:c+(k:Int)<=f):w*2^(f-(c+(k:Int))).toNat=z/2^k:=by
 have h1:=e.low (c:=c) O O;rw[qgc]at h1;unfold sc at h1;have h2:(f-c).toNat=(f-(c+(k:Int))).toNat+k:=O;rw[h2,Int.pow_add,<-Int.mul_assoc]at h1;rw[<-h1,Int.mul_ediv_cancel];have:=q2c k;omega
theorem qu5 {z L:Int} (h:blen z.natAbs<=10000) (h1: -1074<=L) (h0:L<=0) (hz:z≠0->L<= -1074+(tz z.natAbs:Int)):
 g93 m (mkD z (-1074-L)).1 (mkD z (-1074-L)).2.1 (mkD z (-1074-L)).2.2.1 (mkD z (-1074-L)).2.2.2.1=some ((zB (z/2^(L+1074).toNat),true,()),(),()):=by
 have hok:OkD z (-1074-L):=qhu h O O;obtain⟨w,f,k,k1,k2,k3⟩:=Xn hok;rw[g93,qh7 O hok,bS];dsimp only;rw[zJ1,cond_false,k1,k2,k3];by_cases c:z=0
 . subst c;have hf:f=0:=by rw[<-k3];rfl
   have hw:w=0:=by
    have:=k.eq.low (c:=min f (-1074-L)) O O;unfold sc at this;rw[za2]at this;rcases Int.mul_eq_zero.1 this with h|h
    . exact h
    . have:=q2c (f-min f (-1074-L)).toNat;omega
   subst hf hw;rw[show(0:Int)=((0:Nat):Int)from rfl,qea O (Lm_zB _) (by rw[zB_2];simp[Q9]) O,bS,zv_zB]
   rw[nZ,za2,Int.zero_ediv]
 . have hf:f= -1074-L+(tz z.natAbs:Int):=by rw[<-k3];exact ex_mk hok c
   have hz':=hz c;have htz:=q6d (n:=z.natAbs);have n1:=k.len;have hl:=q15 n1;obtain⟨fn,rfl⟩: ∃fn:Nat,f=↑fn:=⟨f.toNat,O⟩;rw[qea O (Lm_zB _) O O,bS,zv_zB];have e:=qp6 (m:=m) hm k.eq (k:=(L+1074).toNat) O;rw[show(↑fn-(-1074-L+↑((L+1074).toNat))).toNat=fn by omega]at e
   rw[e]
theorem qto {z L:Int} (h:blen z.natAbs<=10000) (h1: -1074<=L) (hc:z≠0) (hz:L<= -1074+(tz z.natAbs:Int)):
 g80 m (mkD z (-1074)).2.1 (mkD z (-1074)).2.2.1 (wI ((mkD z (-1074)).2.2.2.1-L))=some (zB (z/2^(L+1074).toNat),(),(),()):=by
 have hok:OkD z (-1074):=qhu h O O;obtain⟨w,f,k,k1,k2,k3⟩:=Xn hok;have hf:f= -1074+(tz z.natAbs:Int):=by rw[<-k3];exact ex_mk hok hc
 have htz:=q6d (n:=z.natAbs);have n1:=k.len;rw[k1,k2,k3,wQ,wi O O,q1f O O O O];have e:=qp6 (m:=m) hm k.eq (k:=(L+1074).toNat) O;rw[<-e];congr 6;omega
variable {n:Nat} (hn:n<=1000) {D:Nat->Nat->Int} (hD: ∀i j,i<n->j<n->blen (D i j).natAbs<=10000)
include hn hD
theorem qr9 {z:Int} {α:Type} {a b:α}:(bif sgn z !=0 then a else b)=if z=0 then b else a:=by
 rw[bif_ne];by_cases c:z=0
 . subst c;rw[iP rfl,iP (by rfl)]
 . rw[iN' c,iN' (λh=>c (Qs.1 h))]
theorem qr4 {l z:Int} (h:blen z.natAbs<=10000) (hz:z≠0):(if(mkD z (-1074)).2.2.2.1<l then(mkD z (-1074)).2.2.2.1 else l)=sm1 l z:=by
 rw[ex_mk (qhu h O O) hz,sm1,iN' hz]
theorem qti (R:List (List DyL)) (t15:List (List DyL)) (t16 t17:Int) {i:Nat} (hi:i<n) (l:Int): ∀(N j:Nat),n-j<N->j<=n->
 g52L1 m N R (mnR (D i) j l) t15 t16 t17 (rowD n (D i)) ↑n ↑j=some (.inl (R,mnR (D i) n l,t15,t16,t17,())):=by
 intro N;induction N with
 |zero=>intro j h;omega
 |succ N ih=>
  intro j h hj;rw[g52L1,q0j,bQ];by_cases c:j<n
  . have hz:=hD i j hi c;rw[iP O,iP O];simp only[tN,qe3 c];rw[show g56 m (dE (D i j)).1 (dE (D i j)).2.1.1 (dE (D i j)).2.1.2 (dE (D i j)).2.2=_ from qs7 O,bS,pSign hm hz,bS]
    dsimp only;rw[wQ,wsucc O,qr9 hm hn hD];by_cases z:D i j=0
    . rw[iP z];have:=ih (j+1) O O;rw[mnR,sm1,iP z]at this;exact this
    . rw[iN' z,qr4 hm hn hD hz z];exact ih (j+1) O O
  . have:j=n:=O;subst this;rw[iN' O]
theorem qsy (R:List (List DyL)): ∀(N i:Nat),n-i<N->i<=n->
 g52L0 m N R (mnM n D i) (matD n D) ↑n ↑i=some (.inl (R,mnM n D n,())):=by
 intro N;induction N with
 |zero=>intro j h;omega
 |succ N ih=>
  intro i h hi;rw[g52L0,Jt,bQ];by_cases c:i<n
  . rw[iP O,iP O];simp only[tN,q1o c,q0j];have e:=qti hm hn hD R (matD n D) ↑n ↑i c (mnM n D i) m 0 O O;rw[nZ]at e;rw[show g52L1 m m R (mnM n D i) (matD n D) ↑n ↑i (rowD n (D i)) ↑n 0=_ from e,bS]
    dsimp only;rw[wQ,wsucc O];exact ih (i+1) O O
  . have:i=n:=O;subst this;rw[iN' O]
theorem qtk {i:Nat} (hi:i<n) (l:Int): ∀(N j:Nat),n-j<N->j<=n->
 g44L1 m N (matD n D) (mnR (D i) j l) ↑i ↑j=some (.inl (matD n D,mnR (D i) n l,↑i,())):=by
 intro N;induction N with
 |zero=>intro j h;omega
 |succ N ih=>
  intro j h hj;rw[g44L1,Jt,iP O,bQ];simp only[tN,q1o hi,q0j];by_cases c:j<n
  . have hz:=hD i j hi c;rw[iP O,iP O,iP O];simp only[qe3 c];rw[show g38 m (dE (D i j)).1 (dE (D i j)).2.1.1 (dE (D i j)).2.1.2 (dE (D i j)).2.2=_ from qsm hm hz,bS]
    dsimp only;rw[wQ,wsucc O,qr9 hm hn hD];by_cases z:D i j=0
    . rw[iP z];have:=ih (j+1) O O;rw[mnR,sm1,iP z]at this;exact this
    . rw[iN' z,iP O,iP O,show g68 m (dE (D i j)).1 (dE (D i j)).2.1.1 (dE (D i j)).2.1.2 (dE (D i j)).2.2=_ from X5 O,bS,qr4 hm hn hD hz z]
      exact ih (j+1) O O
  . have:j=n:=O;subst this;rw[iN' O]
theorem qte: ∀(N i:Nat),n-i<N->i<=n->
 g44L0 m N (matD n D) (mnM n D i) ↑i=some (.inl (matD n D,mnM n D n,())):=by
 intro N;induction N with
 |zero=>intro j h;omega
 |succ N ih=>
  intro i h hi;rw[g44L0,Jt,bQ];by_cases c:i<n
  . have e:=qtk hm hn hD c (mnM n D i) m 0 O O;rw[nZ]at e;rw[iP O,show g44L1 m m (matD n D) (mnM n D i) ↑i 0=_ from e,bS]
    dsimp only;rw[wQ,wsucc O];exact ih (i+1) O O
  . have:i=n:=O;subst this;rw[iN' O]
def qD (n:Nat) (D:Nat->Nat->Int):Nat->Nat->Int:=λi j=>D i j/2^kM n D
theorem qt9 (t41:List (List DyL)) (t42 t43:Int) {i:Nat} (hi:i<n) (out:List (List Bg)) (ho:out.length=n): ∀(N j:Nat) (o:List Bg),n-j<N->j<=n->o=(mr j λj=>BZ (qD n D i j))->
 g52L3 m N (mnM n D n) (out.set i o) ↑i t41 t42 t43 (rowD n (D i)) ↑n ↑j=some (.inl (mnM n D n,out.set i (rowB n (qD n D i)),t41,t42,t43,())):=by
 intro N;induction N with
 |zero=>intro j o h;omega
 |succ N ih=>
  intro j o h hj hoe;rw[g52L3,q0j,bQ];by_cases c:j<n
  . have hz:=hD i j hi c;have hL1:=qq4 (n:=n) (D:=D) (i:=n);have hL0:=qsl (n:=n) (D:=D) (i:=n);have hLz:D i j≠0->mnM n D n<= -1074+(tz (D i j).natAbs:Int):=λhne=>mnM_z hi c hne
    have hg:(out.set i o).getD i []=o:=qby O;have hlen:(out.set i o).length=n:=by rw[zB1];exact ho
    have hol:o.length=j:=by rw[hoe];exact Zh
    have hq:zlen (qD n D i j)<=1000000:=by
     have:(qD n D i j).natAbs<=(D i j).natAbs:=by unfold qD;exact Int.natAbs_ediv_le_natAbs _ _
     refine zK (Q5 this) (zK (Xg hz) O)
    rw[iP O,iP O];simp only[tN,qe3 c,hg,hlen];rw[show g94 m (dE (D i j)).1 (dE (D i j)).2.1.1 (dE (D i j)).2.1.2 (dE (D i j)).2.2 (wI (0-mnM n D n))=_ from qum hm hz hL1 hL0,bS,qu5 hm hz hL1 hL0 hLz,bS]
    dsimp only;rw[iP O,show g95 m (zB (D i j/2^(mnM n D n+1074).toNat)).1 (zB (D i j/2^(mnM n D n+1074).toNat)).2.1=_ from bNorm O hq,bS,hol,iP (by show j+1<=_;omega),iP O,iP trivial,wQ,wsucc O,List.set_set]
    refine ih (j+1) _ O O ?_;rw[hoe];exact q4m (f:=λj=>BZ (qD n D i j))
  . have:j=n:=O;subst this;rw[iN' O,hoe];rfl
theorem qtc: ∀(N i:Nat),n-i<N->i<=n->
 g52L2 m N (mnM n D n) (mr n λk=>if k<i then rowB n (qD n D k)else []) (matD n D) ↑n ↑i=some (.inl (matB n (qD n D),())):=by
 intro N;induction N with
 |zero=>intro j h;omega
 |succ N ih=>
  intro i h hi;rw[g52L2,Jt,bQ];by_cases c:i<n
  . have e:=qt9 hm hn hD (matD n D) ↑n ↑i c (mr n λk=>if k<i then rowB n (qD n D k)else []) Zh m 0 [] O O qco.symm
    have e0:(mr n λk=>if k<i then rowB n (qD n D k)else []).set i []=mr n λk=>if k<i then rowB n (qD n D k)else []:=by
     rw[q62];refine Qd λk hk=> ?_
     by_cases d:k=i
     . rw[iP d,iN' O]
     . rw[iN' d]
    have e1:(mr n λk=>if k<i then rowB n (qD n D k)else []).set i (rowB n (qD n D i))=mr n λk=>if k<i+1 then rowB n (qD n D k)else []:=by
     rw[q62];refine Qd λk hk=> ?_
     by_cases d:k=i
     . subst d;rw[iP rfl,iP O]
     . rw[iN' d];by_cases d2:k<i
       . rw[iP d2,iP O]
       . rw[iN' d2,iN' O]
    rw[e0,e1,nZ]at e;rw[iP O,iP O];simp only[tN,q1o c,q0j];rw[e,bS];dsimp only;rw[wQ,wsucc O];exact ih (i+1) O O
  . have:i=n:=O;subst this;rw[iN' O];congr 3;exact Qd λk hk=>iP hk
theorem qt6:g52 m (matD n D)=some (matB n (qD n D),(),()):=by
 have e0:=qsy hm hn hD (matD n D) m 0 O O;rw[nZ]at e0;have e2:=qtc hm hn hD m 0 O O;rw[show(mr n λk=>if k<0 then rowB n (qD n D k)else [])=List.replicate n [] by rw[q92];exact Qd λk _=>iN' O,nZ]at e2
 rw[g52,Jt,show g52L0 m m (matD n D) 0 (matD n D) ↑n 0=_ from e0,bS]
 dsimp only;rw[Jt,iP O,tN,e2,bS]
theorem qth (out:List (List Bg)) {i:Nat} (hi:i<n): ∀(N j:Nat),n-j<N->j<=n->
 g44L3 m N (matD n D) (mnM n D n) out ↑i (mr j λj=>BZ (qD n D i j)) ↑j=some (.inl (matD n D,mnM n D n,out,↑i,rowB n (qD n D i),())):=by
 intro N;induction N with
 |zero=>intro j h;omega
 |succ N ih=>
  intro j h hj;rw[g44L3,Jt,iP O,bQ];simp only[tN,q1o hi,q0j];by_cases c:j<n
  . have hz:=hD i j hi c;have hL1:=qq4 (n:=n) (D:=D) (i:=n);have hol:(mr j λj=>BZ (qD n D i j)).length=j:=Zh
    rw[iP O,iP O,iP O];simp only[qe3 c];rw[show g68 m (dE (D i j)).1 (dE (D i j)).2.1.1 (dE (D i j)).2.1.2 (dE (D i j)).2.2=_ from X5 O,bS,qsm hm hz,bS]
    dsimp only;rw[wQ,wQ,wsucc O,qr9 hm hn hD];by_cases z:D i j=0
    . rw[iP z,hol,iP (by show j+1<=_;omega)]
      have e1:(mr j λj=>BZ (qD n D i j))++[(false,[])]=mr (j+1) λj=>BZ (qD n D i j):=by
       rw[<-q4m];have:qD n D i j=0:=by unfold qD;rw[z,Int.zero_ediv]
       rw[this,qoz]
      rw[e1];exact ih (j+1) O O
    . rw[iN' z,show g80 m (mkD (D i j) (-1074)).2.1 (mkD (D i j) (-1074)).2.2.1 (IntKind.wrap .i64 ((mkD (D i j) (-1074)).2.2.2.1-mnM n D n))=_ from qto hm hz hL1 z (mnM_z hi c z),bS,hol,iP (by show j+1<=_;omega)]
      have e1:(mr j λj=>BZ (qD n D i j))++[((zB (D i j/2^(mnM n D n+1074).toNat)).1,(zB (D i j/2^(mnM n D n+1074).toNat)).2.1)]=mr (j+1) λj=>BZ (qD n D i j):=q4m (f:=λj=>BZ (qD n D i j))
      rw[e1];exact ih (j+1) O O
  . have:j=n:=O;subst this;rw[iN' O];rfl
theorem qt8: ∀(N i:Nat),n-i<N->i<=n->
 g44L2 m N (matD n D) (mnM n D n) (mr i λi=>rowB n (qD n D i)) ↑i=some (.inl (matB n (qD n D),())):=by
 intro N;induction N with
 |zero=>intro j h;omega
 |succ N ih=>
  intro i h hi;have hol:(mr i λi=>rowB n (qD n D i)).length=i:=Zh
  rw[g44L2,Jt,bQ];by_cases c:i<n
  . have e:=qth hm hn hD (mr i λi=>rowB n (qD n D i)) c m 0 O O
    rw[qco,nZ]at e;rw[iP O,e,bS];dsimp only;rw[hol,iP (by show 0<1/\i+1<=_;omega),wQ,wsucc O]
    have e1:(mr i λi=>rowB n (qD n D i))++[rowB n (qD n D i)]=mr (i+1) λi=>rowB n (qD n D i):=q4m (f:=λi=>rowB n (qD n D i))
    rw[e1];exact ih (i+1) O O
  . have:i=n:=O;subst this;rw[iN' O];rfl
theorem qu3:g44 m (matD n D)=some (matB n (qD n D),(),()):=by
 have e0:=qte hm hn hD m 0 O O;rw[nZ]at e0;have e2:=qt8 hm hn hD m 0 O O;rw[qco,nZ]at e2;rw[g44,show g44L0 m m (matD n D) 0 0=_ from e0,bS]
 dsimp only;rw[e2,bS]
end
end Go.Vs.F
namespace Go.Vs.F
def valF (f:Int):Int:=sc (ofZ f) (ofE f) (-1074)
def q4t {f:Int} (h:FinF f):ofD f=mkD (valF f) (-1074):=by
 have he:=q72 (f:=f);unfold ofD valF;rw[iP h,Ju O]
def val_ok {f:Int} (h:FinF f):OkD (valF f) (-1074):=by
 have he:=q72 (f:=f);have:=qnd h;unfold OkD valF at*
 rwa [Ju O]
def qd5 {m:Nat} (hm:3000000<m) {a b:Int} (ha:FinF a) (hb:FinF b):
 g66 m (ofD a).1 (ofD a).2.1 (ofD a).2.2.1 (ofD a).2.2.2.1 (ofD b).1 (ofD b).2.1 (ofD b).2.2.1 (ofD b).2.2.2.1=some (mkD (valF a-valF b) (-1074),(),(),())/\
 g67 m (ofD a).1 (ofD a).2.1 (ofD a).2.2.1 (ofD a).2.2.2.1 (ofD b).1 (ofD b).2.1 (ofD b).2.2.1 (ofD b).2.2.2.1=some (mkD (valF a-valF b) (-1074),(),(),()):=by
 rw[q4t ha,q4t hb,qh6 hm,qe5 hm,iP ⟨val_ok ha,val_ok hb⟩];exact⟨rfl,rfl⟩
def qcg {f:Int} (h:FinF f):blen (valF f).natAbs<=2098:=by
 have h1:=q80 f;have h2:=qmq h;have h3:=(q72 (f:=f)).1;unfold valF sc;refine zK q53 ?_;omega
def qk7 {a b:Int} {k:Nat} (ha:blen a.natAbs<=k) (hb:blen b.natAbs<=k):blen (a-b).natAbs<=k+1:=by
 rw[zY2];exact q26 ha (by rw[zA2];exact hb)
def FnL (l:LI):Prop:= ∀i,i<l.length->U64 (l.getD i 0)/\FinF (l.getD i 0)
def qiu {n j:Nat} {f:Nat->Int} {v:Int}:(rowD n f).set j (dE v)=rowD n (λk=>if k=j then v else f k):=by
 unfold rowD;rw[q62];refine Qd λk hk=> ?_
 show(if k=j then dE v else dE (f k))=dE (if k=j then v else f k)
 by_cases c:k=j
 . rw[iP c,iP c]
 . rw[iN' c,iN' c]
def qh8 {n:Nat}:List.replicate n (qz:DyL)=rowD n (λ_=>0):=q92
def q1g {n i:Nat} {D:Nat->Nat->Int} {f:Nat->Int}:(matD n D).set i (rowD n f)=matD n (λk=>if k=i then f else D k):=by
 unfold matD;rw[q62];refine Qd λk hk=> ?_
 show(if k=i then rowD n f else rowD n (D k))=rowD n (if k=i then f else D k)
 by_cases c:k=i
 . rw[iP c,iP c]
 . rw[iN' c,iN' c]
def q4n {n j:Nat} {f:Nat->Int} {v:Int}:(rowD n f).set j ((mkD v (-1074)).1,((mkD v (-1074)).2.1,(mkD v (-1074)).2.2.1),(mkD v (-1074)).2.2.2.1)=rowD n (λk=>if k=j then v else f k):=qiu
section
variable {m:Nat} (hm:5000000000<=m) {d e:LI} {x:Int} (hd:FnL d) (he:FnL e) (hle:e.length=d.length-1) (hl:d.length<=1000) (hxU:U64 x) (hx:FinF x)
include hm hd he hle hl hxU hx
end
end Go.Vs.F
namespace Go.Vs.F
def kindN (f:Int):Int:=if fexp f=2047 then(if ffrac f=0 then 2 else 3)else if fexp f=0/\ffrac f=0 then 0 else 1
def qmc {m:Nat} {f:Int} (h:U64 f):g60 m f=some (kindN f,(),())/\g46 m f=some (kindN f,(),()):=by
 have hl:=q2r f;rw[g60,parts_eq h,bS,g46,(q9q h).1,(q9q h).2];simp only[bif_eq,bif_ne];unfold kindN;by_cases c:fexp f=2047
 . by_cases d:ffrac f=0
   . simp[c,d]
   . simp[c,d]
 . by_cases e:fexp f=0
   . by_cases d:ffrac f=0
     . simp[e,d]
     . simp[e,d]
   . simp[c,e]
def Dg.scale {L:List Nat} {A V:Nat->Nat->Rat} {b:Nat->Rat} (c:Rat) (hd:Dg L A V b):Dg L (λi j=>c*A i j) V (λi=>c*b i):=by
 refine⟨λy=> ?_,hd.ind⟩
 have e:sm L (λi=>c*b i*(y i*y i))=c*sm L (λi=>b i*(y i*y i)):=by
  rw[<-qnm];exact qni λi _=>by grind
 rw[e,<-hd.form y];unfold qf;rw[<-qnm];refine qni λi _=> ?_
 rw[<-qnm];exact qni λj _=>by grind
def qof {L:List Nat} {b:Nat->Rat} {c:Rat} (hc:0<c):npos L (λi=>c*b i)=npos L b:=by
 unfold npos;rw[List.filter_congr λi _=> ?_]
 rw[decide_eq_decide];constructor
 . intro h;exact(Rat.mul_pos_iff_of_pos_left hc).1 h
 . intro h;exact zq2 hc h
def qo3 {L:List Nat} {b:Nat->Rat} {c:Rat} (hc:0<c):npos L (λi=> -(c*b i))=npos L (λi=> -b i):=by
 rw[<-qof (b:=λi=> -b i) hc]
 exact qnp λi _=>by grind
def qup {n:Nat} {D:Nat->Nat->Int} {i j:Nat} (hi:i<n) (hj:j<n):D i j=qD n D i j*2^kM n D:=by
 unfold qD;by_cases z:D i j=0
 . rw[z,Int.zero_ediv,za2]
 . have h1:=mnM_z (n:=n) (D:=D) (k:=n) hi hj z;have h2:=qq4 (n:=n) (D:=D) (i:=n);obtain⟨k1,k2,k3⟩:=qgr (n:=(D i j).natAbs) O;have hk:kM n D<=tz (D i j).natAbs:=by unfold kM;omega
   have hd:((2^kM n D:Nat):Int)∣D i j:=by
    rw[Int.ofNat_dvd_left];exact Nat.dvd_trans (Nat.pow_dvd_pow 2 hk) ⟨_,k2⟩
   rw[zc1]at hd;exact(Int.ediv_mul_cancel hd).symm
def quf {n:Nat} {D:Nat->Nat->Int} {i j k:Nat} (h:blen (D i j).natAbs<=k):zlen (qD n D i j)<=k/32+1:=
 zK (Q5 (by unfold qD;exact Int.natAbs_ediv_le_natAbs _ _)) (Xg h)
def qph {m:Nat} (hm:5000000000<=m) {n:Nat} (hn:n<=5) {D:Nat->Nat->Int} (hD: ∀i j,i<n->j<n->blen (D i j).natAbs<=2111) (hs: ∀i j,D i j=D j i):
 ∃V b,Dg (List.range n) (qM D) V b/\
  (g51 m (matB n (qD n D))=some ((↑(npos (List.range n) (λi=> -b i)),↑(n-(npos (List.range n) b+npos (List.range n) (λi=> -b i))),↑(npos (List.range n) b),0,()),(),()))/\
  g43 m (matB n (qD n D))=some ((↑(npos (List.range n) (λi=> -b i)),↑(n-(npos (List.range n) b+npos (List.range n) (λi=> -b i))),↑(npos (List.range n) b),()),(),()):=by
 have hl: ∀i j,i<n->j<n->zlen (qD n D i j)<=66:=λi j hi hj=>quf (hD i j hi hj)
 have hsq: ∀i j,i<n->j<n->qD n D i j=qD n D j i:=λi j _ _=>by unfold qD;rw[hs i j]
 have hsz:4^n*(66+1)<=80000:=by
  have:4^n<=4^5:=zu (by decide) hn
  have:=zQ (66+1) this;omega
 have⟨V,b,d1,d2⟩:=qpt hm (n:=n) O hl dC hsq hsz
 have d3:=qqs (m:=m) O (n:=n) O (M:=qD n D) (e:=66) O hl hsq d1
 have hc:(0:Rat)<((2^kM n D:Int):Rat):=by
  have:=q2c (kM n D);have:=zS3.2 this;exact this
 refine⟨V,λi=>((2^kM n D:Int):Rat)*b i,((d1.scale ((2^kM n D:Int):Rat)).congr λi hi j hj=> ?_),?_,?_⟩
 . show((2^kM n D:Int):Rat)*(qD n D i j:Rat)=(D i j:Rat)
   rw[qup (D:=D) (zT1.1 hi) (zT1.1 hj),z81,zd2]
 . rw[qof hc,qo3 hc];exact d3
 . rw[qof hc,qo3 hc];exact d2
end Go.Vs.F
namespace Go.Vs.F
def q97 (m:Nat) (a:Int) {k:Nat} (h0:0<k) (hk:k<9223372036854775808): ∃r:Nat,r<k/\g14 m a (k:Int)=some ((r:Int),(),(),()):=by
 have w:wJ (k:Int)=(k:Int):=w64n O;obtain⟨x,hx,_⟩:=qmw a;have hx':wJ a=(x:Int):=hx;refine⟨x%k,zX1 _ h0,?_⟩;have:=zX1 x h0;rw[g14,w,hx',iP O,tm,wQ,wi O O]
def wrapU (a:Int):U64 (IntKind.wrap .u64 a):=qg7 a
def qln (m:Nat) {raw:LI} (hl:raw.length<=9223372036854775807) (k:Int): ∃w,g32 m raw k=some (w,(),(),())/\U64 w:=by
 rw[g32,bQ];by_cases c:0<raw.length
 . have⟨r,hr,e⟩:=q97 m k (k:=raw.length) c O;rw[iP O,e,bS];dsimp only;rw[iP O];exact⟨_,rfl,wrapU _⟩
 . rw[iN' O];exact⟨_,rfl,wrapU _⟩
def qks {x M E:Nat} (hx:x<18446744073709551616) (hM:M<18446744073709551616) (hM0:M/4503599627370496%2048=0) (hE:E<2047):
 U64 (b_or_ .u64 (qo .u64 (x:Int) (M:Int)) (shl_ .u64 (wJ (E:Int)) 52))/\FinF (b_or_ .u64 (qo .u64 (x:Int) (M:Int)) (shl_ .u64 (wJ (E:Int)) 52)):=by
 refine⟨wrapU _,?_⟩
 have e2:shl_ .u64 (wJ (E:Int)) 52=((E*2^52:Nat):Int):=by
  rw[w64n O];exact shl64 (a:=E) (k:=52) O (by rw[show(2:Nat)^52=4503599627370496 by decide];omega)
 have ha:x&&&M<18446744073709551616:=zK2 Nat.and_le_left hx;have hp:(2:Nat)^52=4503599627370496:=by decide
 rw[and64 hx hM,e2,or64 ha (by rw[hp];omega)]
 unfold FinF fexp
 have key:(x&&&M|||E*2^52)/2^52%2^11=E:=by
  rw[<-Nat.shiftRight_eq_div_pow,Nat.shiftRight_or_distrib,Nat.or_mod_two_pow,Nat.shiftRight_and_distrib,Nat.and_mod_two_pow,Nat.shiftRight_eq_div_pow M,hp];rw[show(2:Nat)^11=2048 by decide,hM0,Nat.and_zero,Nat.zero_or,Nat.shiftRight_eq_div_pow,hp,zp3 _ dC]
  omega
 rw[hp,show(2:Nat)^11=2048 by decide]at key
 rw[hp];generalize (x&&&M|||E*4503599627370496)=Z at*
 omega
def smT:LI:=[13844628204490326016,13844065254536904704,13842939354630062080,13841813454723219456,13840687554816376832,13839561654909534208,13837309855095848960,13835058055282163712,13830554455654793216,0,4607182418800017408,4611686018427387904,4613937818241073152,4616189618054758400,4617315517961601024,4618441417868443648,4619567317775286272,4620693217682128896,4621256167635550208]
def qjv (j:Nat):((List.range 19).map λr=>g53 (j+100) ((r:Nat):Int))=smT.map λf=>some (f,(),()):=by kernel_rfl
def qn2:(smT.all λf=>decide ((0<=f/\f<18446744073709551616)/\f/4503599627370496%2048≠2047))=true:=by decide+kernel
def qjx {m:Nat} (hm:5000000000<=m) {x:Int} (hx:U64 x): ∃f,g53 m x=some (f,(),())/\U64 f/\FinF f:=by
 obtain⟨j,rfl⟩: ∃j,m=j+100:=⟨m-100,O⟩;obtain⟨y,rfl⟩: ∃y:Nat,x=↑y:=⟨x.toNat,by have:=hx.1;omega⟩
 have hr:y%19<19:=zX1 _ (by decide)
 have e:g53 (j+100) ↑y=g53 (j+100) ↑(y%19):=by
  rw[g53,g53,show(19:Int)=((19:Nat):Int)from rfl,tm,tm,zN3]
 have h1:=congrArg (λl=>l[y%19]?) (qjv j)
 have hl:smT.length=19:=by decide
 simp only[List.getElem?_map,List.getElem?_range hr,List.getElem?_eq_getElem (show y%19<smT.length by omega),zM2,zT]at h1
 have h2:=zG1.1 qn2 smT[y%19] (zL _);have h3:=of_decide_eq_true h2;exact⟨_,by rw[e];exact h1,h3.1,h3.2⟩
def qkj {m:Nat} (hm:5000000000<=m) {x:Int} (hx:U64 x) (style:Int): ∃f,g21 m x style=some (f,(),(),())/\U64 f/\FinF f:=by
 obtain⟨r,hr,e⟩:=q97 m style (k:=4) (by decide) (by decide)
 obtain⟨y,rfl⟩: ∃y:Nat,x=(y:Int):=⟨x.toNat,by have:=hx.1;omega⟩
 have hy:y<18446744073709551616:=by have:=hx.2;omega
 rw[g21,show(4:Int)=((4:Nat):Int)from rfl,e,bS,bif_eq,bif_eq,bif_eq]
 dsimp only;by_cases c1:r=1
 . subst c1
   have e1:qo .u64 (shr_ .u64 (y:Int) 52) 7=((y/4503599627370496%8:Nat):Int):=by
    have h1:shr_ .u64 (y:Int) 52=((y/4503599627370496:Nat):Int):=shr64 (a:=y) (k:=52) O;have h2:qo .u64 ((y/4503599627370496:Nat):Int) ((7:Nat):Int)=((y/4503599627370496&&&7:Nat):Int):=and64 O (by decide)
    rw[h1,show(7:Int)=((7:Nat):Int)from rfl,h2,zP1 _ 3]
   have:=qks (x:=y) (M:=9227875636482146303) (E:=1019+y/4503599627370496%8) hy (by decide) (by decide) O
   rw[iP (by decide),e1,show(1019:Int)+((y/4503599627370496%8:Nat):Int)=((1019+y/4503599627370496%8:Nat):Int) by omega]
   exact⟨_,rfl,this⟩
 . rw[iN' O];by_cases c2:r=2
   . subst c2
     have e1:Int.tmod (shr_ .u64 (y:Int) 8) 81=((y/256%81:Nat):Int):=by
      have h1:shr_ .u64 (y:Int) 8=((y/256:Nat):Int):=shr64 (a:=y) (k:=8) O;rw[h1,show(81:Int)=((81:Nat):Int)from rfl,tm]
     have:=qks (x:=y) (M:=9225623836668461056) (E:=983+y/256%81) hy (by decide) (by decide) O
     rw[iP (by decide),e1,show(983:Int)+((y/256%81:Nat):Int)=((983+y/256%81:Nat):Int) by omega]
     exact⟨_,rfl,this⟩
   . rw[iN' O];by_cases c3:r=3
     . subst c3;rw[iP (by decide),q7r hx,bS]
       dsimp only;by_cases f:FinF (y:Int)
       . rw[decide_eq_true f];exact⟨_,rfl,hx,f⟩
       . rw[decide_eq_false f];exact⟨_,rfl,⟨by decide,by decide⟩,by decide⟩
     . rw[iN' O];obtain⟨f,ef,h1,h2⟩:=qjx hm hx;rw[ef,bS];exact⟨_,rfl,h1,h2⟩
def qfz:FnL []:=λi hi=>absurd hi (ze1 _)
def qk5 {l:LI} (h:FnL l) {f:Int} (h1:U64 f) (h2:FinF f):FnL (l++[f]):=by
 intro i hi;rw[zW,List.length_singleton]at hi;by_cases c:i<l.length
 . have:(l++[f]).getD i 0=l.getD i 0:=by rw[List.getD,List.getElem?_append_left c];rfl
   rw[this];exact h i c
 . have:i=l.length:=O;subst this;have:(l++[f]).getD l.length 0=f:=by simp[List.getD]
   rw[this];exact⟨h1,h2⟩
def qds {x:Int} (h:FinF x):kindN x≠3:=by
 unfold kindN;rw[iN' h];split<;>decide
end Go.Vs.F
namespace Go.Vs.F
def wfu64 {x:Int} (h:(Lit.int .u64 x).wf=true):U64 x:=by
 simp only[Lit.wf,zN,decide_eq_true_eq]at h;exact⟨h.1,by have h2:x<=18446744073709551615:=h.2;omega⟩
def wfLen {t:Ty} {xs:List (Den t)} (h:wfC (.imm t) xs):xs.length<=9223372036854775807:=zK h.2 dC
def qip {a:Int} {k:Nat}:Int.fdiv a (2^k)=a/2^k:=
 Int.fdiv_eq_ediv_of_nonneg _ (by exact Int.le_of_lt (Int.pow_pos O))
def inK (k:Int):Prop:= -9218868437227405312<=k/\k<=9218868437227405312
instance {k:Int}:Decidable (inK k):=inferInstanceAs (Decidable (_/\_))
def fields {f:Int} (h:U64 f):qo .u64 (shr_ .u64 f 52) 2047=f/4503599627370496%2048/\qo .u64 f 4503599627370495=f%4503599627370496:=by
 obtain⟨n,rfl⟩: ∃n:Nat,f=(n:Int):=⟨f.toNat,by have:=h.1;omega⟩
 have hn:n<18446744073709551616:=by have:=h.2;omega
 have e1:shr_ .u64 (n:Int) 52=((n/4503599627370496:Nat):Int):=by
  unfold shr_;rw[show min (52:Int).toNat (IntKind.u64.bits)=52 by decide,qip];rfl
 have e2:=and64 (a:=n/4503599627370496) (b:=2047) O O;have e3:=and64 (a:=n) (b:=4503599627370495) hn O;rw[show((2047:Nat):Int)=2047 from rfl,show(2047:Nat)=2^11-1 by decide,zP1]at e2
 rw[show((4503599627370495:Nat):Int)=4503599627370495 from rfl,show(4503599627370495:Nat)=2^52-1 by decide,zP1]at e3
 rw[e1,e2,e3];constructor<;>omega
end Go.Vs.F
namespace Go.Vs.F
end Go.Vs.F
namespace Go.Vs.F
end Go.Vs.F
