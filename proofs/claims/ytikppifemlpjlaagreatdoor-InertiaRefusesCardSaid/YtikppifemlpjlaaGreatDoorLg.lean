import Derived.Test.YtikppifemlpjlaaGreatDoorLf
import Derived.KernelRfl
set_option linter.unusedVariables false
set_option linter.unusedSimpArgs false
set_option linter.unusedSectionVars false
set_option maxRecDepth 100000
set_option linter.defProp false
namespace Go.Vs.F
abbrev DyL:=Bool×(Bool×LI)×Int
def dE (z:Int):DyL:=((mkD z (-1074)).1,((mkD z (-1074)).2.1,(mkD z (-1074)).2.2.1),(mkD z (-1074)).2.2.2.1)
def rowD (n:Nat) (f:Nat->Int):List DyL:=mr n λj=>dE (f j)
def matD (n:Nat) (D:Nat->Nat->Int):List (List DyL):=mr n λi=>rowD n (D i)
def X8 {n:Nat} {D:Nat->Nat->Int}:(matD n D).length=n:=Q9
def Xl {n:Nat} {f:Nat->Int}:(rowD n f).length=n:=Q9
def Yk {n i:Nat} {D:Nat->Nat->Int} (h:i<n):(matD n D).getD i []=rowD n (D i):=Ql h
def q0q {n j:Nat} {f:Nat->Int} (h:j<n):(rowD n f).getD j qz=dE (f j):=Ql h
def Zu {z e:Int} (h:blen z.natAbs<=10000) (h1: -1074<=e) (h2:e<=0):OkD z e:=Ym.2 (.inr ⟨O,O⟩)
def ex_mk {z e:Int} (h:OkD z e) (hz:z≠0):(mkD z e).2.2.2.1=e+(tz z.natAbs:Int):=by
 rcases Ym.1 h with h|⟨h1,h2⟩
 . exact absurd h hz
 . unfold mkD;rw[iN' hz,iN' O]
def sm1 (l z:Int):Int:=if z=0 then l else if-1074+(tz z.natAbs:Int)<l then-1074+(tz z.natAbs:Int)else l
def mnR (f:Nat->Int):Nat->Int->Int
 |0,l=>l
 |k+1,l=>sm1 (mnR f k l) (f k)
def mnM (n:Nat) (D:Nat->Nat->Int):Nat->Int
 |0=>0
 |i+1=>mnR (D i) n (mnM n D i)
def qng {l z:Int}:sm1 l z<=l:=by
 unfold sm1
 repeat' split
 all_goals omega
def qqs {l z:Int} (h: -1074<=l): -1074<=sm1 l z:=by
 unfold sm1
 repeat' split
 all_goals omega
def sm1_z {l z:Int} (h:z≠0):sm1 l z<= -1074+(tz z.natAbs:Int):=by unfold sm1;rw[iN' h];split<;>omega
def qjw {f:Nat->Int}: ∀{k:Nat} {l:Int},mnR f k l<=l
 |0,_=>zL4 _
 |k+1,l=>zy3 qng (qjw (k:=k))
def qno {f:Nat->Int}: ∀{k:Nat} {l:Int},-1074<=l-> -1074<=mnR f k l
 |0,_,h=>h
 |k+1,l,h=>qqs (qno (k:=k) h)
def mnR_z {f:Nat->Int}: ∀{k:Nat} {l:Int} {j:Nat},j<k->f j≠0->mnR f k l<= -1074+(tz (f j).natAbs:Int)
 |0,_,_,h,_=>absurd h (zS1 _)
 |k+1,l,j,h,hz=>by
  by_cases c:j=k
  . subst c;exact sm1_z hz
  . exact zy3 qng (mnR_z (k:=k) O hz)
def qnr {n:Nat} {D:Nat->Nat->Int}: ∀{i:Nat},mnM n D i<=0
 |0=>zL4 _
 |i+1=>zy3 qjw (qnr (i:=i))
def qfb {n:Nat} {D:Nat->Nat->Int}: ∀{i:Nat},-1074<=mnM n D i
 |0=>by show(-1074:Int)<=0;omega
 |i+1=>qno (qfb (i:=i))
def mnM_z {n:Nat} {D:Nat->Nat->Int}: ∀{k i j:Nat},i<k->j<n->D i j≠0->mnM n D k<= -1074+(tz (D i j).natAbs:Int)
 |0,_,_,h,_,_=>absurd h (zS1 _)
 |k+1,i,j,h,hj,hz=>by
  by_cases c:i=k
  . subst c;exact mnR_z hj hz
  . exact zy3 qjw (mnM_z (k:=k) O hj hz)
def kM (n:Nat) (D:Nat->Nat->Int):Nat:=(mnM n D n+1074).toNat
section
variable {m:Nat} (hm:5000000000<=m)
include hm
theorem pSign {z:Int} (h:blen z.natAbs<=10000):g92 m (mkD z (-1074)).1 (mkD z (-1074)).2.1 (mkD z (-1074)).2.2.1 (mkD z (-1074)).2.2.2.1=some (sgn z,(),()):=qfj O (Zu h O O)
theorem qo2 {z:Int} (h:blen z.natAbs<=10000):g38 m (mkD z (-1074)).1 (mkD z (-1074)).2.1 (mkD z (-1074)).2.2.1 (mkD z (-1074)).2.2.2.1=some (sgn z,(),()):=by
 have ok:(mkD z (-1074)).1=false:=Zu h O O;rw[g38,X0 O,bS,qco O ok];dsimp only;rw[ok,cond_false,bS]
theorem qql {z L:Int} (h:blen z.natAbs<=10000) (h1: -1074<=L) (h0:L<=0):g94 m (mkD z (-1074)).1 (mkD z (-1074)).2.1 (mkD z (-1074)).2.2.1 (mkD z (-1074)).2.2.2.1 (wI (0-L))=some (mkD z (-1074-L),(),(),()):=by
 have w:wI (0-L)= -L:=by rw[wQ,wi O O];omega
 rw[qiz O,iP (Zu h O O),w];have:q04 (-L)= -L:=by unfold q04;omega
 rw[this,zO2]
theorem q83 {w f z c:Int} {k:Nat} (e:EqD w f z c) (h:c+(k:Int)<=f):w*2^(f-(c+(k:Int))).toNat=z/2^k:=by
 have h1:=e.low (c:=c) O O;rw[qdi]at h1;unfold sc at h1;have h2:(f-c).toNat=(f-(c+(k:Int))).toNat+k:=O;rw[h2,Int.pow_add,<-Int.mul_assoc]at h1;rw[<-h1,Int.mul_ediv_cancel];have:=Jd k;omega
theorem qqy {z L:Int} (h:blen z.natAbs<=10000) (h1: -1074<=L) (h0:L<=0) (hz:z≠0->L<= -1074+(tz z.natAbs:Int)):
 g93 m (mkD z (-1074-L)).1 (mkD z (-1074-L)).2.1 (mkD z (-1074-L)).2.2.1 (mkD z (-1074-L)).2.2.2.1=some ((zB (z/2^(L+1074).toNat),true,()),(),()):=by
 have hok:OkD z (-1074-L):=Zu h O O;obtain⟨w,f,k,k1,k2,k3⟩:=Xe hok;rw[g93,qez O hok,bS];dsimp only;rw[zG1,cond_false,k1,k2,k3];by_cases c:z=0
 . subst c;have hf:f=0:=by rw[<-k3];rfl
   have hw:w=0:=by
    have:=k.eq.low (c:=min f (-1074-L)) O O;unfold sc at this;rw[zS3]at this;rcases Int.mul_eq_zero.1 this with h|h
    . exact h
    . have:=Jd (f-min f (-1074-L)).toNat;omega
   subst hf hw;rw[show(0:Int)=((0:Nat):Int)from rfl,q5j O (Lm_zB _) (by rw[zB_2];simp[Q8]) O,bS,zv_zB]
   rw[nZ,zS3,Int.zero_ediv]
 . have hf:f= -1074-L+(tz z.natAbs:Int):=by rw[<-k3];exact ex_mk hok c
   have hz':=hz c;have htz:=q26 (n:=z.natAbs);have n1:=k.len;have hl:=q14 n1;obtain⟨fn,rfl⟩: ∃fn:Nat,f=(fn:Int):=⟨f.toNat,O⟩;rw[q5j O (Lm_zB _) O O,bS,zv_zB];have e:=q83 (m:=m) hm k.eq (k:=(L+1074).toNat) O;rw[show((fn:Int)-(-1074-L+(((L+1074).toNat:Nat):Int))).toNat=fn by omega]at e
   rw[e]
theorem qq1 {z L:Int} (h:blen z.natAbs<=10000) (h1: -1074<=L) (hc:z≠0) (hz:L<= -1074+(tz z.natAbs:Int)):
 g80 m (mkD z (-1074)).2.1 (mkD z (-1074)).2.2.1 (wI ((mkD z (-1074)).2.2.2.1-L))=some (zB (z/2^(L+1074).toNat),(),(),()):=by
 have hok:OkD z (-1074):=Zu h O O;obtain⟨w,f,k,k1,k2,k3⟩:=Xe hok;have hf:f= -1074+(tz z.natAbs:Int):=by rw[<-k3];exact ex_mk hok hc
 have htz:=q26 (n:=z.natAbs);have n1:=k.len;rw[k1,k2,k3,wQ,wi O O,q0p O O O O];have e:=q83 (m:=m) hm k.eq (k:=(L+1074).toNat) O;rw[<-e];congr 6;omega
variable {n:Nat} (hn:n<=1000) {D:Nat->Nat->Int} (hD: ∀i j,i<n->j<n->blen (D i j).natAbs<=10000)
include hn hD
theorem qk5 {z:Int} {α:Type} {a b:α}:(bif sgn z !=0 then a else b)=if z=0 then b else a:=by
 rw[bif_ne];by_cases c:z=0
 . subst c;rw[iP rfl,iP (by rfl)]
 . rw[iN' c,iN' (λh=>c (Qm.1 h))]
theorem qij {l z:Int} (h:blen z.natAbs<=10000) (hz:z≠0):(if(mkD z (-1074)).2.2.2.1<l then(mkD z (-1074)).2.2.2.1 else l)=sm1 l z:=by
 rw[ex_mk (Zu h O O) hz,sm1,iN' hz]
theorem qq3 (R:List (List DyL)) (t15:List (List DyL)) (t16 t17:Int) {i:Nat} (hi:i<n) (l:Int): ∀(N j:Nat),n-j<N->j<=n->
 g52L1 m N R (mnR (D i) j l) t15 t16 t17 (rowD n (D i)) (n:Int) (j:Int)=some (.inl (R,mnR (D i) n l,t15,t16,t17,())):=by
 intro N;induction N with
 |zero=>intro j h;omega
 |succ N ih=>
  intro j h hj;rw[g52L1,Xl,bQ];by_cases c:j<n
  . have hz:=hD i j hi c;rw[iP O,iP O];simp only[tN,q0q c];rw[show g56 m (dE (D i j)).1 (dE (D i j)).2.1.1 (dE (D i j)).2.1.2 (dE (D i j)).2.2=_ from qf7 O,bS,pSign hm hz,bS]
    dsimp only;rw[wQ,wsucc O,qk5 hm hn hD];by_cases z:D i j=0
    . rw[iP z];have:=ih (j+1) O O;rw[mnR,sm1,iP z]at this;exact this
    . rw[iN' z,qij hm hn hD hz z];exact ih (j+1) O O
  . have:j=n:=O;subst this;rw[iN' O]
theorem qop (R:List (List DyL)): ∀(N i:Nat),n-i<N->i<=n->
 g52L0 m N R (mnM n D i) (matD n D) (n:Int) (i:Int)=some (.inl (R,mnM n D n,())):=by
 intro N;induction N with
 |zero=>intro j h;omega
 |succ N ih=>
  intro i h hi;rw[g52L0,X8,bQ];by_cases c:i<n
  . rw[iP O,iP O];simp only[tN,Yk c,Xl];have e:=qq3 hm hn hD R (matD n D) (n:Int) (i:Int) c (mnM n D i) m 0 O O;rw[nZ]at e;rw[show g52L1 m m R (mnM n D i) (matD n D) (n:Int) (i:Int) (rowD n (D i)) (n:Int) 0=_ from e,bS]
    dsimp only;rw[wQ,wsucc O];exact ih (i+1) O O
  . have:i=n:=O;subst this;rw[iN' O]
theorem qpr {i:Nat} (hi:i<n) (l:Int): ∀(N j:Nat),n-j<N->j<=n->
 g44L1 m N (matD n D) (mnR (D i) j l) (i:Int) (j:Int)=some (.inl (matD n D,mnR (D i) n l,(i:Int),())):=by
 intro N;induction N with
 |zero=>intro j h;omega
 |succ N ih=>
  intro j h hj;rw[g44L1,X8,iP O,bQ];simp only[tN,Yk hi,Xl];by_cases c:j<n
  . have hz:=hD i j hi c;rw[iP O,iP O,iP O];simp only[q0q c];rw[show g38 m (dE (D i j)).1 (dE (D i j)).2.1.1 (dE (D i j)).2.1.2 (dE (D i j)).2.2=_ from qo2 hm hz,bS]
    dsimp only;rw[wQ,wsucc O,qk5 hm hn hD];by_cases z:D i j=0
    . rw[iP z];have:=ih (j+1) O O;rw[mnR,sm1,iP z]at this;exact this
    . rw[iN' z,iP O,iP O,show g68 m (dE (D i j)).1 (dE (D i j)).2.1.1 (dE (D i j)).2.1.2 (dE (D i j)).2.2=_ from X0 O,bS,qij hm hn hD hz z]
      exact ih (j+1) O O
  . have:j=n:=O;subst this;rw[iN' O]
theorem qqg: ∀(N i:Nat),n-i<N->i<=n->
 g44L0 m N (matD n D) (mnM n D i) (i:Int)=some (.inl (matD n D,mnM n D n,())):=by
 intro N;induction N with
 |zero=>intro j h;omega
 |succ N ih=>
  intro i h hi;rw[g44L0,X8,bQ];by_cases c:i<n
  . have e:=qpr hm hn hD c (mnM n D i) m 0 O O;rw[nZ]at e;rw[iP O,show g44L1 m m (matD n D) (mnM n D i) (i:Int) 0=_ from e,bS]
    dsimp only;rw[wQ,wsucc O];exact ih (i+1) O O
  . have:i=n:=O;subst this;rw[iN' O]
def qD (n:Nat) (D:Nat->Nat->Int):Nat->Nat->Int:=λi j=>D i j/2^kM n D
theorem qp5 (t41:List (List DyL)) (t42 t43:Int) {i:Nat} (hi:i<n) (out:List (List Bg)) (ho:out.length=n): ∀(N j:Nat) (o:List Bg),n-j<N->j<=n->o=(mr j λj=>BZ (qD n D i j))->
 g52L3 m N (mnM n D n) (out.set i o) (i:Int) t41 t42 t43 (rowD n (D i)) (n:Int) (j:Int)=some (.inl (mnM n D n,out.set i (rowB n (qD n D i)),t41,t42,t43,())):=by
 intro N;induction N with
 |zero=>intro j o h;omega
 |succ N ih=>
  intro j o h hj hoe;rw[g52L3,Xl,bQ];by_cases c:j<n
  . have hz:=hD i j hi c;have hL1:=qfb (n:=n) (D:=D) (i:=n);have hL0:=qnr (n:=n) (D:=D) (i:=n);have hLz:D i j≠0->mnM n D n<= -1074+(tz (D i j).natAbs:Int):=λhne=>mnM_z hi c hne
    have hg:(out.set i o).getD i []=o:=q6o O;have hlen:(out.set i o).length=n:=by rw[zZ];exact ho
    have hol:o.length=j:=by rw[hoe];exact Q9
    have hq:zlen (qD n D i j)<=1000000:=by
     have:(qD n D i j).natAbs<=(D i j).natAbs:=by unfold qD;exact Int.natAbs_ediv_le_natAbs _ _
     refine zK (Q5 this) (zK (X7 hz) O)
    rw[iP O,iP O];simp only[tN,q0q c,hg,hlen];rw[show g94 m (dE (D i j)).1 (dE (D i j)).2.1.1 (dE (D i j)).2.1.2 (dE (D i j)).2.2 (wI (0-mnM n D n))=_ from qql hm hz hL1 hL0,bS,qqy hm hz hL1 hL0 hLz,bS]
    dsimp only;rw[iP O,show g95 m (zB (D i j/2^(mnM n D n+1074).toNat)).1 (zB (D i j/2^(mnM n D n+1074).toNat)).2.1=_ from bNorm O hq,bS,hol,iP (by show j+1<=_;omega),iP O,iP trivial,wQ,wsucc O,List.set_set]
    refine ih (j+1) _ O O ?_;rw[hoe];exact Y8 (f:=λj=>BZ (qD n D i j))
  . have:j=n:=O;subst this;rw[iN' O,hoe];rfl
theorem qpq: ∀(N i:Nat),n-i<N->i<=n->
 g52L2 m N (mnM n D n) (mr n λk=>if k<i then rowB n (qD n D k)else []) (matD n D) (n:Int) (i:Int)=some (.inl (matB n (qD n D),())):=by
 intro N;induction N with
 |zero=>intro j h;omega
 |succ N ih=>
  intro i h hi;rw[g52L2,X8,bQ];by_cases c:i<n
  . have e:=qp5 hm hn hD (matD n D) (n:Int) (i:Int) c (mr n λk=>if k<i then rowB n (qD n D k)else []) Q9 m 0 [] O O Zf.symm
    have e0:(mr n λk=>if k<i then rowB n (qD n D k)else []).set i []=mr n λk=>if k<i then rowB n (qD n D k)else []:=by
     rw[Zi];refine qy λk hk=> ?_
     by_cases d:k=i
     . rw[iP d,iN' O]
     . rw[iN' d]
    have e1:(mr n λk=>if k<i then rowB n (qD n D k)else []).set i (rowB n (qD n D i))=mr n λk=>if k<i+1 then rowB n (qD n D k)else []:=by
     rw[Zi];refine qy λk hk=> ?_
     by_cases d:k=i
     . subst d;rw[iP rfl,iP O]
     . rw[iN' d];by_cases d2:k<i
       . rw[iP d2,iP O]
       . rw[iN' d2,iN' O]
    rw[e0,e1,nZ]at e;rw[iP O,iP O];simp only[tN,Yk c,Xl];rw[e,bS];dsimp only;rw[wQ,wsucc O];exact ih (i+1) O O
  . have:i=n:=O;subst this;rw[iN' O];congr 3;exact qy λk hk=>iP hk
theorem qkj:g52 m (matD n D)=some (matB n (qD n D),(),()):=by
 have e0:=qop hm hn hD (matD n D) m 0 O O;rw[nZ]at e0;have e2:=qpq hm hn hD m 0 O O;rw[show(mr n λk=>if k<0 then rowB n (qD n D k)else [])=List.replicate n [] by rw[q3x];exact qy λk _=>iN' O,nZ]at e2
 rw[g52,X8,show g52L0 m m (matD n D) 0 (matD n D) (n:Int) 0=_ from e0,bS]
 dsimp only;rw[X8,iP O,tN,e2,bS]
theorem qp0 (out:List (List Bg)) {i:Nat} (hi:i<n): ∀(N j:Nat),n-j<N->j<=n->
 g44L3 m N (matD n D) (mnM n D n) out (i:Int) (mr j λj=>BZ (qD n D i j)) (j:Int)=some (.inl (matD n D,mnM n D n,out,(i:Int),rowB n (qD n D i),())):=by
 intro N;induction N with
 |zero=>intro j h;omega
 |succ N ih=>
  intro j h hj;rw[g44L3,X8,iP O,bQ];simp only[tN,Yk hi,Xl];by_cases c:j<n
  . have hz:=hD i j hi c;have hL1:=qfb (n:=n) (D:=D) (i:=n);have hol:(mr j λj=>BZ (qD n D i j)).length=j:=Q9
    rw[iP O,iP O,iP O];simp only[q0q c];rw[show g68 m (dE (D i j)).1 (dE (D i j)).2.1.1 (dE (D i j)).2.1.2 (dE (D i j)).2.2=_ from X0 O,bS,qo2 hm hz,bS]
    dsimp only;rw[wQ,wQ,wsucc O,qk5 hm hn hD];by_cases z:D i j=0
    . rw[iP z,hol,iP (by show j+1<=_;omega)]
      have e1:(mr j λj=>BZ (qD n D i j))++[(false,[])]=mr (j+1) λj=>BZ (qD n D i j):=by
       rw[<-Y8];have:qD n D i j=0:=by unfold qD;rw[z,Int.zero_ediv]
       rw[this,q63]
      rw[e1];exact ih (j+1) O O
    . rw[iN' z,show g80 m (mkD (D i j) (-1074)).2.1 (mkD (D i j) (-1074)).2.2.1 (IntKind.wrap .i64 ((mkD (D i j) (-1074)).2.2.2.1-mnM n D n))=_ from qq1 hm hz hL1 z (mnM_z hi c z),bS,hol,iP (by show j+1<=_;omega)]
      have e1:(mr j λj=>BZ (qD n D i j))++[((zB (D i j/2^(mnM n D n+1074).toNat)).1,(zB (D i j/2^(mnM n D n+1074).toNat)).2.1)]=mr (j+1) λj=>BZ (qD n D i j):=Y8 (f:=λj=>BZ (qD n D i j))
      rw[e1];exact ih (j+1) O O
  . have:j=n:=O;subst this;rw[iN' O];rfl
theorem qom: ∀(N i:Nat),n-i<N->i<=n->
 g44L2 m N (matD n D) (mnM n D n) (mr i λi=>rowB n (qD n D i)) (i:Int)=some (.inl (matB n (qD n D),())):=by
 intro N;induction N with
 |zero=>intro j h;omega
 |succ N ih=>
  intro i h hi;have hol:(mr i λi=>rowB n (qD n D i)).length=i:=Q9
  rw[g44L2,X8,bQ];by_cases c:i<n
  . have e:=qp0 hm hn hD (mr i λi=>rowB n (qD n D i)) c m 0 O O
    rw[Zf,nZ]at e;rw[iP O,e,bS];dsimp only;rw[hol,iP (by show 0<1/\i+1<=_;omega),wQ,wsucc O]
    have e1:(mr i λi=>rowB n (qD n D i))++[rowB n (qD n D i)]=mr (i+1) λi=>rowB n (qD n D i):=Y8 (f:=λi=>rowB n (qD n D i))
    rw[e1];exact ih (i+1) O O
  . have:i=n:=O;subst this;rw[iN' O];rfl
theorem qjk:g44 m (matD n D)=some (matB n (qD n D),(),()):=by
 have e0:=qqg hm hn hD m 0 O O;rw[nZ]at e0;have e2:=qom hm hn hD m 0 O O;rw[Zf,nZ]at e2;rw[g44,show g44L0 m m (matD n D) 0 0=_ from e0,bS]
 dsimp only;rw[e2,bS]
end
end Go.Vs.F
set_option maxRecDepth 100000
namespace Go.Vs.F
def valF (f:Int):Int:=sc (ofZ f) (ofE f) (-1074)
def q6v {f:Int} (h:FinF f):ofD f=mkD (valF f) (-1074):=by
 have he:=q8g (f:=f);unfold ofD valF;rw[iP h,q0s O]
def val_ok {f:Int} (h:FinF f):OkD (valF f) (-1074):=by
 have he:=q8g (f:=f);have:=qr8 h;unfold OkD valF at*
 rwa [q0s O]
def qf5 {m:Nat} (hm:3000000<m) {a b:Int} (ha:FinF a) (hb:FinF b):
 g66 m (ofD a).1 (ofD a).2.1 (ofD a).2.2.1 (ofD a).2.2.2.1 (ofD b).1 (ofD b).2.1 (ofD b).2.2.1 (ofD b).2.2.2.1=some (mkD (valF a-valF b) (-1074),(),(),())/\
 g67 m (ofD a).1 (ofD a).2.1 (ofD a).2.2.1 (ofD a).2.2.2.1 (ofD b).1 (ofD b).2.1 (ofD b).2.2.1 (ofD b).2.2.2.1=some (mkD (valF a-valF b) (-1074),(),(),()):=by
 rw[q6v ha,q6v hb,qiv hm,qgi hm,iP ⟨val_ok ha,val_ok hb⟩];exact⟨rfl,rfl⟩
def qdg {f:Int} (h:FinF f):blen (valF f).natAbs<=2098:=by
 have h1:=qad f;have h2:=qpk h;have h3:=(q8g (f:=f)).1;unfold valF sc;refine zK q7l ?_;omega
def qmy {a b:Int} {k:Nat} (ha:blen a.natAbs<=k) (hb:blen b.natAbs<=k):blen (a-b).natAbs<=k+1:=by
 rw[zO2];exact q3p ha (by rw[zm1];exact hb)
def FnL (l:LI):Prop:= ∀i,i<l.length->U64 (l.getD i 0)/\FinF (l.getD i 0)
def qlt {n j:Nat} {f:Nat->Int} {v:Int}:(rowD n f).set j (dE v)=rowD n (λk=>if k=j then v else f k):=by
 unfold rowD;rw[Zi];refine qy λk hk=> ?_
 show(if k=j then dE v else dE (f k))=dE (if k=j then v else f k)
 by_cases c:k=j
 . rw[iP c,iP c]
 . rw[iN' c,iN' c]
def qig {n:Nat}:List.replicate n (qz:DyL)=rowD n (λ_=>0):=q3x
def q2n {n i:Nat} {D:Nat->Nat->Int} {f:Nat->Int}:(matD n D).set i (rowD n f)=matD n (λk=>if k=i then f else D k):=by
 unfold matD;rw[Zi];refine qy λk hk=> ?_
 show(if k=i then rowD n f else rowD n (D k))=rowD n (if k=i then f else D k)
 by_cases c:k=i
 . rw[iP c,iP c]
 . rw[iN' c,iN' c]
def q6f {n j:Nat} {f:Nat->Int} {v:Int}:(rowD n f).set j ((mkD v (-1074)).1,((mkD v (-1074)).2.1,(mkD v (-1074)).2.2.1),(mkD v (-1074)).2.2.2.1)=rowD n (λk=>if k=j then v else f k):=qlt
section
variable {m:Nat} (hm:5000000000<=m) {d e:LI} {x:Int} (hd:FnL d) (he:FnL e) (hle:e.length=d.length-1) (hl:d.length<=1000) (hxU:U64 x) (hx:FinF x)
include hm hd he hle hl hxU hx
end
end Go.Vs.F
set_option maxRecDepth 100000
namespace Go.Vs.F
def kindN (f:Int):Int:=if fexp f=2047 then(if ffrac f=0 then 2 else 3)else if fexp f=0/\ffrac f=0 then 0 else 1
def qp3 {m:Nat} {f:Int} (h:U64 f):g60 m f=some (kindN f,(),())/\g46 m f=some (kindN f,(),()):=by
 have hl:=q4d f;rw[g60,parts_eq h,bS,g46,(qbq h).1,(qbq h).2];simp only[bif_eq,bif_ne];unfold kindN;by_cases c:fexp f=2047
 . by_cases d:ffrac f=0
   . simp[c,d]
   . simp[c,d]
 . by_cases e:fexp f=0
   . by_cases d:ffrac f=0
     . simp[e,d]
     . simp[e,d]
   . simp[c,e]
def Dg.scale {L:List Nat} {A V:Nat->Nat->Rat} {b:Nat->Rat} (c:Rat) (hd:Dg L A V b):Dg L (λi j=>c*A i j) V (λi=>c*b i):=by
 refine⟨λy=> ?_,hd.ind⟩
 have e:sm L (λi=>c*b i*(y i*y i))=c*sm L (λi=>b i*(y i*y i)):=by
  rw[<-Zy];exact Qa λi _=>by grind
 rw[e,<-hd.form y];unfold qf;rw[<-Zy];refine Qa λi _=> ?_
 rw[<-Zy];exact Qa λj _=>by grind
def q4k {L:List Nat} {b:Nat->Rat} {c:Rat} (hc:0<c):npos L (λi=>c*b i)=npos L b:=by
 unfold npos;rw[List.filter_congr λi _=> ?_]
 rw[decide_eq_decide];constructor
 . intro h;exact(Rat.mul_pos_iff_of_pos_left hc).1 h
 . intro h;exact zN1 hc h
def q2b {L:List Nat} {b:Nat->Rat} {c:Rat} (hc:0<c):npos L (λi=> -(c*b i))=npos L (λi=> -b i):=by
 rw[<-q4k (b:=λi=> -b i) hc]
 exact Yo λi _=>by grind
def qr0 {n:Nat} {D:Nat->Nat->Int} {i j:Nat} (hi:i<n) (hj:j<n):D i j=qD n D i j*2^kM n D:=by
 unfold qD;by_cases z:D i j=0
 . rw[z,Int.zero_ediv,zS3]
 . have h1:=mnM_z (n:=n) (D:=D) (k:=n) hi hj z;have h2:=qfb (n:=n) (D:=D) (i:=n);obtain⟨k1,k2,k3⟩:=qfx (n:=(D i j).natAbs) O;have hk:kM n D<=tz (D i j).natAbs:=by unfold kM;omega
   have hd:((2^kM n D:Nat):Int)∣D i j:=by
    rw[Int.ofNat_dvd_left];exact Nat.dvd_trans (Nat.pow_dvd_pow 2 hk) ⟨_,k2⟩
   rw[zY1]at hd;exact(Int.ediv_mul_cancel hd).symm
def qr3 {n:Nat} {D:Nat->Nat->Int} {i j k:Nat} (h:blen (D i j).natAbs<=k):zlen (qD n D i j)<=k/32+1:=
 zK (Q5 (by unfold qD;exact Int.natAbs_ediv_le_natAbs _ _)) (X7 h)
def q57 {m:Nat} (hm:5000000000<=m) {n:Nat} (hn:n<=3) {D:Nat->Nat->Int} (hD: ∀i j,i<n->j<n->blen (D i j).natAbs<=2111) (hs: ∀i j,D i j=D j i):
 ∃V b,Dg (List.range n) (qM D) V b/\
  (g51 m (matB n (qD n D))=some ((((npos (List.range n) (λi=> -b i):Nat):Int),((n-(npos (List.range n) b+npos (List.range n) (λi=> -b i)):Nat):Int),((npos (List.range n) b:Nat):Int),0,()),(),()))/\
  g43 m (matB n (qD n D))=some ((((npos (List.range n) (λi=> -b i):Nat):Int),((n-(npos (List.range n) b+npos (List.range n) (λi=> -b i)):Nat):Int),((npos (List.range n) b:Nat):Int),()),(),()):=by
 have hl: ∀i j,i<n->j<n->zlen (qD n D i j)<=66:=λi j hi hj=>qr3 (hD i j hi hj)
 have hsq: ∀i j,i<n->j<n->qD n D i j=qD n D j i:=λi j _ _=>by unfold qD;rw[hs i j]
 have hsz:4^n*(66+1)<=80000:=by
  have:4^n<=4^5:=zq (by decide) (show n<=5 by omega)
  have:=zN (66+1) this;omega
 obtain⟨V,b,d1,d2⟩:=qef hm (n:=n) O hl (by decide) hsq hsz
 have d3:=qhl (m:=m) O (n:=n) O (M:=qD n D) (e:=66) O hl hsq d1
 have hc:(0:Rat)<((2^kM n D:Int):Rat):=by
  have:=Jd (kM n D);have:=zE3.2 this;exact this
 refine⟨V,λi=>((2^kM n D:Int):Rat)*b i,((d1.scale ((2^kM n D:Int):Rat)).congr λi hi j hj=> ?_),?_,?_⟩
 . show((2^kM n D:Int):Rat)*(qD n D i j:Rat)=(D i j:Rat)
   rw[qr0 (D:=D) (zJ2.1 hi) (zJ2.1 hj),zu1,zk3]
 . rw[q4k hc,q2b hc];exact d3
 . rw[q4k hc,q2b hc];exact d2
def IsCnt (n:Nat) (D:Nat->Nat->Int) (c:Nat):Prop:= ∃V b,Dg (List.range n) (qM D) V b/\c=n-npos (List.range n) b
abbrev infP:Int:=9218868437227405312
abbrev infM:Int:=18442240474082181120
def qqk {x:Int} (hx:U64 x) (h: ¬FinF x) (h3:kindN x≠3):x=infP\/x=infM:=by
 obtain⟨h1,h2⟩:=hx;have e:fexp x=2047:=zj3.1 h
 have f:ffrac x=0:=by
  unfold kindN at h3;rw[iP e]at h3;by_cases c:ffrac x=0
  . exact c
  . rw[iN' c]at h3;exact absurd rfl h3
 unfold fexp at e;unfold ffrac at f;show x=9218868437227405312\/x=18442240474082181120;omega
end Go.Vs.F
set_option maxRecDepth 100000
namespace Go.Vs.F
def q7g (m:Nat) (a:Int) {k:Nat} (h0:0<k) (hk:k<9223372036854775808): ∃r:Nat,r<k/\g14 m a (k:Int)=some ((r:Int),(),(),()):=by
 have w:wJ (k:Int)=(k:Int):=w64n O;obtain⟨x,hx,_⟩:=qqq a;have hx':wJ a=(x:Int):=hx;refine⟨x%k,zV1 _ h0,?_⟩;have:=zV1 x h0;rw[g14,w,hx',iP O,tm,wQ,wi O O]
def wrapU (a:Int):U64 (IntKind.wrap .u64 a):=qjq a
def qih (m:Nat) {raw:LI} (hl:raw.length<=9223372036854775807) (k:Int): ∃w,g32 m raw k=some (w,(),(),())/\U64 w:=by
 rw[g32,bQ];by_cases c:0<raw.length
 . obtain⟨r,hr,e⟩:=q7g m k (k:=raw.length) c O;rw[iP O,e,bS];dsimp only;rw[iP O];exact⟨_,rfl,wrapU _⟩
 . rw[iN' O];exact⟨_,rfl,wrapU _⟩
def qo4 {x M E:Nat} (hx:x<18446744073709551616) (hM:M<18446744073709551616) (hM0:M/4503599627370496%2048=0) (hE:E<2047):
 U64 (b_or_ .u64 (qp .u64 (x:Int) (M:Int)) (shl_ .u64 (wJ (E:Int)) 52))/\FinF (b_or_ .u64 (qp .u64 (x:Int) (M:Int)) (shl_ .u64 (wJ (E:Int)) 52)):=by
 refine⟨wrapU _,?_⟩
 have e2:shl_ .u64 (wJ (E:Int)) 52=((E*2^52:Nat):Int):=by
  rw[w64n O];exact shl64 (a:=E) (k:=52) O (by rw[show(2:Nat)^52=4503599627370496 by decide];omega)
 have ha:x&&&M<18446744073709551616:=zA2 Nat.and_le_left hx;have hp:(2:Nat)^52=4503599627370496:=by decide
 rw[and64 hx hM,e2,or64 ha (by rw[hp];omega)]
 unfold FinF fexp
 have key:(x&&&M|||E*2^52)/2^52%2^11=E:=by
  rw[<-Nat.shiftRight_eq_div_pow,Nat.shiftRight_or_distrib,Nat.or_mod_two_pow,Nat.shiftRight_and_distrib,Nat.and_mod_two_pow,Nat.shiftRight_eq_div_pow M,hp];rw[show(2:Nat)^11=2048 by decide,hM0,Nat.and_zero,Nat.zero_or,Nat.shiftRight_eq_div_pow,hp,ze3 _ (by decide)]
  omega
 rw[hp,show(2:Nat)^11=2048 by decide]at key
 rw[hp];generalize (x&&&M|||E*4503599627370496)=Z at*
 omega
def smT:LI:=[13844628204490326016,13844065254536904704,13842939354630062080,13841813454723219456,13840687554816376832,13839561654909534208,13837309855095848960,13835058055282163712,13830554455654793216,0,4607182418800017408,4611686018427387904,4613937818241073152,4616189618054758400,4617315517961601024,4618441417868443648,4619567317775286272,4620693217682128896,4621256167635550208]
def qmm (j:Nat):((List.range 19).map λr=>g53 (j+100) ((r:Nat):Int))=smT.map λf=>some (f,(),()):=by kernel_rfl
def qr4:(smT.all λf=>decide ((0<=f/\f<18446744073709551616)/\f/4503599627370496%2048≠2047))=true:=by decide+kernel
def qn3 {m:Nat} (hm:5000000000<=m) {x:Int} (hx:U64 x): ∃f,g53 m x=some (f,(),())/\U64 f/\FinF f:=by
 obtain⟨j,rfl⟩: ∃j,m=j+100:=⟨m-100,O⟩;obtain⟨y,rfl⟩: ∃y:Nat,x=(y:Int):=⟨x.toNat,by have:=hx.1;omega⟩
 have hr:y%19<19:=zV1 _ (by decide)
 have e:g53 (j+100) ((y:Nat):Int)=g53 (j+100) ((y%19:Nat):Int):=by
  rw[g53,g53,show(19:Int)=((19:Nat):Int)from rfl,tm,tm,zA3]
 have h1:=congrArg (λl=>l[y%19]?) (qmm j)
 have hl:smT.length=19:=by decide
 simp only[List.getElem?_map,List.getElem?_range hr,List.getElem?_eq_getElem (show y%19<smT.length by omega),zC2,zS]at h1
 have h2:=zD1.1 qr4 smT[y%19] (zJ _);have h3:=of_decide_eq_true h2;exact⟨_,by rw[e];exact h1,h3.1,h3.2⟩
def qnu {m:Nat} (hm:5000000000<=m) {x:Int} (hx:U64 x) (style:Int): ∃f,g21 m x style=some (f,(),(),())/\U64 f/\FinF f:=by
 obtain⟨r,hr,e⟩:=q7g m style (k:=4) (by decide) (by decide)
 obtain⟨y,rfl⟩: ∃y:Nat,x=(y:Int):=⟨x.toNat,by have:=hx.1;omega⟩
 have hy:y<18446744073709551616:=by have:=hx.2;omega
 rw[g21,show(4:Int)=((4:Nat):Int)from rfl,e,bS,bif_eq,bif_eq,bif_eq]
 dsimp only;by_cases c1:r=1
 . subst c1
   have e1:qp .u64 (shr_ .u64 (y:Int) 52) 7=((y/4503599627370496%8:Nat):Int):=by
    have h1:shr_ .u64 (y:Int) 52=((y/4503599627370496:Nat):Int):=shr64 (a:=y) (k:=52) O;have h2:qp .u64 ((y/4503599627370496:Nat):Int) ((7:Nat):Int)=((y/4503599627370496&&&7:Nat):Int):=and64 O (by decide)
    rw[h1,show(7:Int)=((7:Nat):Int)from rfl,h2,zM1 _ 3]
   have:=qo4 (x:=y) (M:=9227875636482146303) (E:=1019+y/4503599627370496%8) hy (by decide) (by decide) O
   rw[iP (by decide),e1,show(1019:Int)+((y/4503599627370496%8:Nat):Int)=((1019+y/4503599627370496%8:Nat):Int) by omega]
   exact⟨_,rfl,this⟩
 . rw[iN' O];by_cases c2:r=2
   . subst c2
     have e1:Int.tmod (shr_ .u64 (y:Int) 8) 81=((y/256%81:Nat):Int):=by
      have h1:shr_ .u64 (y:Int) 8=((y/256:Nat):Int):=shr64 (a:=y) (k:=8) O;rw[h1,show(81:Int)=((81:Nat):Int)from rfl,tm]
     have:=qo4 (x:=y) (M:=9225623836668461056) (E:=983+y/256%81) hy (by decide) (by decide) O
     rw[iP (by decide),e1,show(983:Int)+((y/256%81:Nat):Int)=((983+y/256%81:Nat):Int) by omega]
     exact⟨_,rfl,this⟩
   . rw[iN' O];by_cases c3:r=3
     . subst c3;rw[iP (by decide),q5n hx,bS]
       dsimp only;by_cases f:FinF (y:Int)
       . rw[decide_eq_true f];exact⟨_,rfl,hx,f⟩
       . rw[decide_eq_false f];exact⟨_,rfl,⟨by decide,by decide⟩,by decide⟩
     . rw[iN' O];obtain⟨f,ef,h1,h2⟩:=qn3 hm hx;rw[ef,bS];exact⟨_,rfl,h1,h2⟩
def qit:FnL []:=λi hi=>absurd hi (zS1 _)
def qmu {l:LI} (h:FnL l) {f:Int} (h1:U64 f) (h2:FinF f):FnL (l++[f]):=by
 intro i hi;rw[zi,List.length_singleton]at hi;by_cases c:i<l.length
 . have:(l++[f]).getD i 0=l.getD i 0:=by rw[List.getD,List.getElem?_append_left c];rfl
   rw[this];exact h i c
 . have:i=l.length:=O;subst this;have:(l++[f]).getD l.length 0=f:=by simp[List.getD]
   rw[this];exact⟨h1,h2⟩
def qa5 {x:Int} (h:FinF x):kindN x≠3:=by
 unfold kindN;rw[iN' h];split<;>decide
end Go.Vs.F
set_option maxRecDepth 100000
namespace Go.Vs.F
def wfu64 {x:Int} (h:(Lit.int .u64 x).wf=true):U64 x:=by
 simp only[Lit.wf,zM,decide_eq_true_eq]at h;exact⟨h.1,by have h2:x<=18446744073709551615:=h.2;omega⟩
def wfLen {t:Ty} {xs:List (Den t)} (h:wfC (.imm t) xs):xs.length<=9223372036854775807:=zK h.2 (by decide)
def qk4 {a:Int} {k:Nat}:Int.fdiv a (2^k)=a/2^k:=
 Int.fdiv_eq_ediv_of_nonneg _ (by exact Int.le_of_lt (Int.pow_pos O))
def inK (k:Int):Prop:= -9218868437227405312<=k/\k<=9218868437227405312
instance {k:Int}:Decidable (inK k):=inferInstanceAs (Decidable (_/\_))
def fields {f:Int} (h:U64 f):qp .u64 (shr_ .u64 f 52) 2047=f/4503599627370496%2048/\qp .u64 f 4503599627370495=f%4503599627370496:=by
 obtain⟨n,rfl⟩: ∃n:Nat,f=(n:Int):=⟨f.toNat,by have:=h.1;omega⟩
 have hn:n<18446744073709551616:=by have:=h.2;omega
 have e1:shr_ .u64 (n:Int) 52=((n/4503599627370496:Nat):Int):=by
  unfold shr_;rw[show min (52:Int).toNat (IntKind.u64.bits)=52 by decide,qk4];rfl
 have e2:=and64 (a:=n/4503599627370496) (b:=2047) O O;have e3:=and64 (a:=n) (b:=4503599627370495) hn O;rw[show((2047:Nat):Int)=2047 from rfl,show(2047:Nat)=2^11-1 by decide,zM1]at e2
 rw[show((4503599627370495:Nat):Int)=4503599627370495 from rfl,show(4503599627370495:Nat)=2^52-1 by decide,zM1]at e3
 rw[e1,e2,e3];constructor<;>omega
end Go.Vs.F
set_option maxRecDepth 100000
namespace Go.Vs.F
end Go.Vs.F
set_option maxRecDepth 100000
namespace Go.Vs.F
end Go.Vs.F
