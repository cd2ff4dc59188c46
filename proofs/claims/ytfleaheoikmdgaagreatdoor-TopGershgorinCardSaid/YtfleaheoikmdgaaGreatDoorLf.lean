import Derived.Test.YtfleaheoikmdgaaGreatDoorLe
import Derived.KernelRfl
set_option linter.unusedVariables false
set_option linter.unusedSimpArgs false
set_option linter.unusedSectionVars false
set_option linter.defProp false
namespace Go.Vs.F
section
variable {m:Nat} (hm:5000000000<=m)
include hm
end
def qni (q:Rat) (s:Nat):Prop:=zlen q.num<=s/\zlen (q.den:Int)<=s
section
variable {m:Nat} (hm:5000000000<=m) {n:Nat} {X:Nat->Nat->Rat} (hX: ∀i j,i<n->j<n->zlen (X i j).num<=1000000) {L:List Nat} (hL: ∀i∈L,i<n) (hl:L.length<=1000)
include hm hX hL hl
end
def pvF (p q:Nat) (b:Rat) (X:Nat->Nat->Rat) (x y:Nat):Rat:=
 if p=q then X x y-X x p*X q y/b else X x y-X x p*X q y/b-X x q*X p y/b
section
variable {m:Nat} (hm:5000000000<=m) {n:Nat} {X:Nat->Nat->Rat} {s:Nat} (hX: ∀i j,i<n->j<n->qni (X i j) s) {R:List Nat} (hR:R.Nodup) (hRn: ∀i∈R,i<n) (hl:R.length<=1000)
 {p q:Nat} (hp:p<n) (hq:q<n) (hpR:p∉R) (hqR:q∉R) {b:Rat} (hb:b≠0) (hbl:qni b s) (hs:s<=80000) (hs2:p≠q->4*s+1<=80000) (hsym: ∀x∈R,∀y∈R,pvF p q b X x y=pvF p q b X y x)
include hm hX hR hRn hl hp hq hpR hqR hb hbl hs hs2 hsym
end
end Go.Vs.F
namespace Go.Vs.F
def keepP (p q i:Nat):Bool:= !decide (i=p)&& !decide (i=q)
def q2k {p q i:Nat}:keepP p q i=true↔i≠p/\i≠q:=by
 unfold keepP;simp
def qhg {L:List Nat} {b c:Nat->Rat} (h: ∀i∈L,b i=c i):npos L b=npos L c:=by
 unfold npos;rw[List.filter_congr λi hi=>by rw[h i hi]]
def qja {L:List Nat}:npos L (λ_=>0)=0:=by
 unfold npos;rw[List.filter_eq_nil_iff.2 (λi _=>by simp)];rfl
def qcz {L:List Nat} (hn:L.Nodup) {p:Nat} (hp:p∈L):L.Perm (p::L.filter (keepP p p)):=by
 rw[List.perm_ext_iff_of_nodup hn (zU.2 ⟨λh=>(q2k.1 (zR1.1 h).2).1 rfl,hn.sublist z92⟩)]
 intro a;rw[zJ,zR1,q2k];constructor
 . intro h;by_cases c:a=p
   . exact .inl c
   . exact .inr ⟨h,c,c⟩
 . rintro (rfl|h)
   . exact hp
   . exact h.1
def qck {L:List Nat} (hn:L.Nodup) {p q:Nat} (hp:p∈L) (hq:q∈L) (hpq:p≠q):L.Perm (p::q::L.filter (keepP p q)):=by
 rw[List.perm_ext_iff_of_nodup hn (zU.2 ⟨λh=> ?_,zU.2 ⟨λh=>(q2k.1 (zR1.1 h).2).2 rfl,hn.sublist z92⟩⟩)]
 . intro a;rw[zJ,zJ,zR1,q2k];constructor
   . intro h;by_cases c:a=p
     . exact .inl c
     . by_cases d:a=q
       . exact .inr (.inl d)
       . exact .inr (.inr ⟨h,c,d⟩)
   . rintro (rfl|rfl|h)
     . exact hp
     . exact hq
     . exact h.1
 . rcases mC h with h|h
   . exact hpq h
   . exact(q2k.1 (zR1.1 h).2).1 rfl
section
variable {m:Nat} (hm:5000000000<=m) {n:Nat} (hn:n<=1000)
include hm hn
end
end Go.Vs.F
set_option maxRecDepth 100000
namespace Go.Vs.F
abbrev DyL:=Bool×(Bool×LI)×Int
def dE (z:Int):DyL:=((mkD z (-1074)).1,((mkD z (-1074)).2.1,(mkD z (-1074)).2.2.1),(mkD z (-1074)).2.2.2.1)
def rowD (n:Nat) (f:Nat->Int):List DyL:=mr n λj=>dE (f j)
def matD (n:Nat) (D:Nat->Nat->Int):List (List DyL):=mr n λi=>rowD n (D i)
def q00 {n:Nat} {D:Nat->Nat->Int}:(matD n D).length=n:=Qi
def Ju {n:Nat} {f:Nat->Int}:(rowD n f).length=n:=Qi
def q2b {n i:Nat} {D:Nat->Nat->Int} (h:i<n):(matD n D).getD i []=rowD n (D i):=Qz h
def q9r {n j:Nat} {f:Nat->Int} (h:j<n):(rowD n f).getD j qz=dE (f j):=Qz h
def Jc {z e:Int} (h:blen z.natAbs<=10000) (h1: -1074<=e) (h2:e<=0):OkD z e:=Jy.2 (.inr ⟨O,O⟩)
def ex_mk {z e:Int} (h:OkD z e) (hz:z≠0):(mkD z e).2.2.2.1=e+(tz z.natAbs:Int):=by
 rcases Jy.1 h with h|⟨h1,h2⟩
 . exact absurd h hz
 . unfold mkD;rw[iN' hz,iN' O]
def sm1 (l z:Int):Int:=if z=0 then l else if-1074+(tz z.natAbs:Int)<l then-1074+(tz z.natAbs:Int)else l
def mnR (f:Nat->Int):Nat->Int->Int
 |0,l=>l
 |k+1,l=>sm1 (mnR f k l) (f k)
def mnM (n:Nat) (D:Nat->Nat->Int):Nat->Int
 |0=>0
 |i+1=>mnR (D i) n (mnM n D i)
def qo6 {l z:Int}:sm1 l z<=l:=by
 unfold sm1
 repeat' split
 all_goals omega
def qra {l z:Int} (h: -1074<=l): -1074<=sm1 l z:=by
 unfold sm1
 repeat' split
 all_goals omega
def sm1_z {l z:Int} (h:z≠0):sm1 l z<= -1074+(tz z.natAbs:Int):=by unfold sm1;rw[iN' h];split<;>omega
def qjx {f:Nat->Int}: ∀{k:Nat} {l:Int},mnR f k l<=l
 |0,_=>zj1 _
 |k+1,l=>zK3 qo6 (qjx (k:=k))
def qng {f:Nat->Int}: ∀{k:Nat} {l:Int},-1074<=l-> -1074<=mnR f k l
 |0,_,h=>h
 |k+1,l,h=>qra (qng (k:=k) h)
def mnR_z {f:Nat->Int}: ∀{k:Nat} {l:Int} {j:Nat},j<k->f j≠0->mnR f k l<= -1074+(tz (f j).natAbs:Int)
 |0,_,_,h,_=>absurd h (zW _)
 |k+1,l,j,h,hz=>by
  by_cases c:j=k
  . subst c;exact sm1_z hz
  . exact zK3 qo6 (mnR_z (k:=k) O hz)
def qo0 {n:Nat} {D:Nat->Nat->Int}: ∀{i:Nat},mnM n D i<=0
 |0=>zj1 _
 |i+1=>zK3 qjx (qo0 (i:=i))
def qlq {n:Nat} {D:Nat->Nat->Int}: ∀{i:Nat},-1074<=mnM n D i
 |0=>by show(-1074:Int)<=0;omega
 |i+1=>qng (qlq (i:=i))
def mnM_z {n:Nat} {D:Nat->Nat->Int}: ∀{k i j:Nat},i<k->j<n->D i j≠0->mnM n D k<= -1074+(tz (D i j).natAbs:Int)
 |0,_,_,h,_,_=>absurd h (zW _)
 |k+1,i,j,h,hj,hz=>by
  by_cases c:i=k
  . subst c;exact mnR_z hj hz
  . exact zK3 qjx (mnM_z (k:=k) O hj hz)
def kM (n:Nat) (D:Nat->Nat->Int):Nat:=(mnM n D n+1074).toNat
section
variable {m:Nat} (hm:5000000000<=m)
include hm
theorem pSign {z:Int} (h:blen z.natAbs<=10000):g52 m (mkD z (-1074)).1 (mkD z (-1074)).2.1 (mkD z (-1074)).2.2.1 (mkD z (-1074)).2.2.2.1=some (sgn z,(),()):=qav O (Jc h O O)
theorem qqs {z L:Int} (h:blen z.natAbs<=10000) (h1: -1074<=L) (h0:L<=0):g104 m (mkD z (-1074)).1 (mkD z (-1074)).2.1 (mkD z (-1074)).2.2.1 (mkD z (-1074)).2.2.2.1 (wI (0-L))=some (mkD z (-1074-L),(),(),()):=by
 have w:wI (0-L)= -L:=by rw[wQ,wi O O];omega
 rw[ql5 O,iP (Jc h O O),w];have:Jk (-L)= -L:=by unfold Jk;omega
 rw[this,zG3]
theorem qir {w f z c:Int} {k:Nat} (e:EqD w f z c) (h:c+(k:Int)<=f):w*2^(f-(c+(k:Int))).toNat=z/2^k:=by
 have h1:=e.low (c:=c) O O;rw[q9v]at h1;unfold sc at h1;have h2:(f-c).toNat=(f-(c+(k:Int))).toNat+k:=O;rw[h2,Int.pow_add,<-Int.mul_assoc]at h1;rw[<-h1,Int.mul_ediv_cancel];have:=Zb k;omega
theorem qre {z L:Int} (h:blen z.natAbs<=10000) (h1: -1074<=L) (h0:L<=0) (hz:z≠0->L<= -1074+(tz z.natAbs:Int)):
 g103 m (mkD z (-1074-L)).1 (mkD z (-1074-L)).2.1 (mkD z (-1074-L)).2.2.1 (mkD z (-1074-L)).2.2.2.1=some ((zB (z/2^(L+1074).toNat),true,()),(),()):=by
 have hok:OkD z (-1074-L):=Jc h O O;obtain⟨w,f,k,k1,k2,k3⟩:=q1u hok;rw[g103,qff O hok,bS];dsimp only;rw[zP2,cond_false,k1,k2,k3];by_cases c:z=0
 . subst c;have hf:f=0:=by rw[<-k3];rfl
   have hw:w=0:=by
    have:=k.eq.low (c:=min f (-1074-L)) O O;unfold sc at this;rw[zy2]at this;rcases Int.mul_eq_zero.1 this with h|h
    . exact h
    . have:=Zb (f-min f (-1074-L)).toNat;omega
   subst hf hw;rw[show(0:Int)=((0:Nat):Int)from rfl,q4p O (Lm_zB _) (by rw[zB_2];simp[Q8]) O,bS,zv_zB]
   rw[nZ,zy2,Int.zero_ediv]
 . have hf:f= -1074-L+(tz z.natAbs:Int):=by rw[<-k3];exact ex_mk hok c
   have hz':=hz c;have htz:=q3x (n:=z.natAbs);have n1:=k.len;have hl:=q8y n1;obtain⟨fn,rfl⟩: ∃fn:Nat,f=(fn:Int):=⟨f.toNat,O⟩;rw[q4p O (Lm_zB _) O O,bS,zv_zB];have e:=qir (m:=m) hm k.eq (k:=(L+1074).toNat) O;rw[show((fn:Int)-(-1074-L+(((L+1074).toNat:Nat):Int))).toNat=fn by omega]at e
   rw[e]
variable {n:Nat} (hn:n<=1000) {D:Nat->Nat->Int} (hD: ∀i j,i<n->j<n->blen (D i j).natAbs<=10000)
include hn hD
theorem qrp {z:Int} {α:Type} {a b:α}:(bif sgn z !=0 then a else b)=if z=0 then b else a:=by
 rw[bif_ne];by_cases c:z=0
 . subst c;rw[iP rfl,iP (by rfl)]
 . rw[iN' c,iN' (λh=>c (Zc.1 h))]
theorem qpk {l z:Int} (h:blen z.natAbs<=10000) (hz:z≠0):(if(mkD z (-1074)).2.2.2.1<l then(mkD z (-1074)).2.2.2.1 else l)=sm1 l z:=by
 rw[ex_mk (Jc h O O) hz,sm1,iN' hz]
theorem qoy (R:List (List DyL)) (t15:List (List DyL)) (t16 t17:Int) {i:Nat} (hi:i<n) (l:Int): ∀(N j:Nat),n-j<N->j<=n->
 g65L1 m N R (mnR (D i) j l) t15 t16 t17 (rowD n (D i)) (n:Int) (j:Int)=some (.inl (R,mnR (D i) n l,t15,t16,t17,())):=by
 intro N;induction N with
 |zero=>intro j h;omega
 |succ N ih=>
  intro j h hj;rw[g65L1,Ju,bQ];by_cases c:j<n
  . have hz:=hD i j hi c;rw[iP O,iP O];simp only[tN,q9r c];rw[show g92 m (dE (D i j)).1 (dE (D i j)).2.1.1 (dE (D i j)).2.1.2 (dE (D i j)).2.2=_ from qge O,bS,pSign hm hz,bS]
    dsimp only;rw[wQ,wsucc O,qrp hm hn hD];by_cases z:D i j=0
    . rw[iP z];have:=ih (j+1) O O;rw[mnR,sm1,iP z]at this;exact this
    . rw[iN' z,qpk hm hn hD hz z];exact ih (j+1) O O
  . have:j=n:=O;subst this;rw[iN' O]
theorem qq0 (R:List (List DyL)): ∀(N i:Nat),n-i<N->i<=n->
 g65L0 m N R (mnM n D i) (matD n D) (n:Int) (i:Int)=some (.inl (R,mnM n D n,())):=by
 intro N;induction N with
 |zero=>intro j h;omega
 |succ N ih=>
  intro i h hi;rw[g65L0,q00,bQ];by_cases c:i<n
  . rw[iP O,iP O];simp only[tN,q2b c,Ju];have e:=qoy hm hn hD R (matD n D) (n:Int) (i:Int) c (mnM n D i) m 0 O O;rw[nZ]at e;rw[show g65L1 m m R (mnM n D i) (matD n D) (n:Int) (i:Int) (rowD n (D i)) (n:Int) 0=_ from e,bS]
    dsimp only;rw[wQ,wsucc O];exact ih (i+1) O O
  . have:i=n:=O;subst this;rw[iN' O]
def qD (n:Nat) (D:Nat->Nat->Int):Nat->Nat->Int:=λi j=>D i j/2^kM n D
theorem qp9 (t41:List (List DyL)) (t42 t43:Int) {i:Nat} (hi:i<n) (out:List (List Bg)) (ho:out.length=n): ∀(N j:Nat) (o:List Bg),n-j<N->j<=n->o=(mr j λj=>BZ (qD n D i j))->
 g65L3 m N (mnM n D n) (out.set i o) (i:Int) t41 t42 t43 (rowD n (D i)) (n:Int) (j:Int)=some (.inl (mnM n D n,out.set i (rowB n (qD n D i)),t41,t42,t43,())):=by
 intro N;induction N with
 |zero=>intro j o h;omega
 |succ N ih=>
  intro j o h hj hoe;rw[g65L3,Ju,bQ];by_cases c:j<n
  . have hz:=hD i j hi c;have hL1:=qlq (n:=n) (D:=D) (i:=n);have hL0:=qo0 (n:=n) (D:=D) (i:=n);have hLz:D i j≠0->mnM n D n<= -1074+(tz (D i j).natAbs:Int):=λhne=>mnM_z hi c hne
    have hg:(out.set i o).getD i []=o:=q1y O;have hlen:(out.set i o).length=n:=by rw[zY];exact ho
    have hol:o.length=j:=by rw[hoe];exact Qi
    have hq:zlen (qD n D i j)<=1000000:=by
     have:(qD n D i j).natAbs<=(D i j).natAbs:=by unfold qD;exact Int.natAbs_ediv_le_natAbs _ _
     refine zT (Qp this) (zT (q0c hz) O)
    rw[iP O,iP O];simp only[tN,q9r c,hg,hlen];rw[show g104 m (dE (D i j)).1 (dE (D i j)).2.1.1 (dE (D i j)).2.1.2 (dE (D i j)).2.2 (wI (0-mnM n D n))=_ from qqs hm hz hL1 hL0,bS,qre hm hz hL1 hL0 hLz,bS]
    dsimp only;rw[iP O,show g105 m (zB (D i j/2^(mnM n D n+1074).toNat)).1 (zB (D i j/2^(mnM n D n+1074).toNat)).2.1=_ from bNorm O hq,bS,hol,iP (by show j+1<=_;omega),iP O,iP trivial,wQ,wsucc O,List.set_set]
    refine ih (j+1) _ O O ?_;rw[hoe];exact q5s (f:=λj=>BZ (qD n D i j))
  . have:j=n:=O;subst this;rw[iN' O,hoe];rfl
theorem qpa: ∀(N i:Nat),n-i<N->i<=n->
 g65L2 m N (mnM n D n) (mr n λk=>if k<i then rowB n (qD n D k)else []) (matD n D) (n:Int) (i:Int)=some (.inl (matB n (qD n D),())):=by
 intro N;induction N with
 |zero=>intro j h;omega
 |succ N ih=>
  intro i h hi;rw[g65L2,q00,bQ];by_cases c:i<n
  . have e:=qp9 hm hn hD (matD n D) (n:Int) (i:Int) c (mr n λk=>if k<i then rowB n (qD n D k)else []) Qi m 0 [] O O q6j.symm
    have e0:(mr n λk=>if k<i then rowB n (qD n D k)else []).set i []=mr n λk=>if k<i then rowB n (qD n D k)else []:=by
     rw[q1g];refine Qg λk hk=> ?_
     by_cases d:k=i
     . rw[iP d,iN' O]
     . rw[iN' d]
    have e1:(mr n λk=>if k<i then rowB n (qD n D k)else []).set i (rowB n (qD n D i))=mr n λk=>if k<i+1 then rowB n (qD n D k)else []:=by
     rw[q1g];refine Qg λk hk=> ?_
     by_cases d:k=i
     . subst d;rw[iP rfl,iP O]
     . rw[iN' d];by_cases d2:k<i
       . rw[iP d2,iP O]
       . rw[iN' d2,iN' O]
    rw[e0,e1,nZ]at e;rw[iP O,iP O];simp only[tN,q2b c,Ju];rw[e,bS];dsimp only;rw[wQ,wsucc O];exact ih (i+1) O O
  . have:i=n:=O;subst this;rw[iN' O];congr 3;exact Qg λk hk=>iP hk
theorem qp6:g65 m (matD n D)=some (matB n (qD n D),(),()):=by
 have e0:=qq0 hm hn hD (matD n D) m 0 O O;rw[nZ]at e0;have e2:=qpa hm hn hD m 0 O O;rw[show(mr n λk=>if k<0 then rowB n (qD n D k)else [])=List.replicate n [] by rw[q8q];exact Qg λk _=>iN' O,nZ]at e2
 rw[g65,q00,show g65L0 m m (matD n D) 0 (matD n D) (n:Int) 0=_ from e0,bS]
 dsimp only;rw[q00,iP O,tN,e2,bS]
end
end Go.Vs.F
set_option maxRecDepth 100000
namespace Go.Vs.F
def valF (f:Int):Int:=sc (ofZ f) (ofE f) (-1074)
def q3o {f:Int} (h:FinF f):ofD f=mkD (valF f) (-1074):=by
 have he:=qcf (f:=f);unfold ofD valF;rw[iP h,qgk O]
def val_ok {f:Int} (h:FinF f):OkD (valF f) (-1074):=by
 have he:=qcf (f:=f);have:=qr8 h;unfold OkD valF at*
 rwa [qgk O]
def q1k {f:Int} (h:FinF f):blen (valF f).natAbs<=2098:=by
 have h1:=qe1 f;have h2:=qpn h;have h3:=(qcf (f:=f)).1;unfold valF sc;refine zT q65 ?_;omega
def qmt {a b:Int} {k:Nat} (ha:blen a.natAbs<=k) (hb:blen b.natAbs<=k):blen (a-b).natAbs<=k+1:=by
 rw[zG3];exact q38 ha (by rw[zb2];exact hb)
def FnL (l:LI):Prop:= ∀i,i<l.length->U64 (l.getD i 0)/\FinF (l.getD i 0)
def qmu {n j:Nat} {f:Nat->Int} {v:Int}:(rowD n f).set j (dE v)=rowD n (λk=>if k=j then v else f k):=by
 unfold rowD;rw[q1g];refine Qg λk hk=> ?_
 show(if k=j then dE v else dE (f k))=dE (if k=j then v else f k)
 by_cases c:k=j
 . rw[iP c,iP c]
 . rw[iN' c,iN' c]
def qjd {n:Nat}:List.replicate n (qz:DyL)=rowD n (λ_=>0):=q8q
def q1v {n i:Nat} {D:Nat->Nat->Int} {f:Nat->Int}:(matD n D).set i (rowD n f)=matD n (λk=>if k=i then f else D k):=by
 unfold matD;rw[q1g];refine Qg λk hk=> ?_
 show(if k=i then rowD n f else rowD n (D k))=rowD n (if k=i then f else D k)
 by_cases c:k=i
 . rw[iP c,iP c]
 . rw[iN' c,iN' c]
def q5a {n j:Nat} {f:Nat->Int} {v:Int}:(rowD n f).set j ((mkD v (-1074)).1,((mkD v (-1074)).2.1,(mkD v (-1074)).2.2.1),(mkD v (-1074)).2.2.2.1)=rowD n (λk=>if k=j then v else f k):=qmu
section
variable {m:Nat} (hm:5000000000<=m) {d e:LI} {x:Int} (hd:FnL d) (he:FnL e) (hle:e.length=d.length-1) (hl:d.length<=1000) (hxU:U64 x) (hx:FinF x)
include hm hd he hle hl hxU hx
end
end Go.Vs.F
set_option maxRecDepth 100000
namespace Go.Vs.F
def kindN (f:Int):Int:=if fexp f=2047 then(if ffrac f=0 then 2 else 3)else if fexp f=0/\ffrac f=0 then 0 else 1
def q0q {m:Nat} {f:Int} (h:U64 f):g63 m f=some (kindN f,(),())/\g55 m f=some (kindN f,(),()):=by
 have hl:=q6p f;rw[g63,parts_eq h,bS,g55,(qo1 h).1,(qo1 h).2];simp only[bif_eq,bif_ne];unfold kindN;by_cases c:fexp f=2047
 . by_cases d:ffrac f=0
   . simp[c,d]
   . simp[c,d]
 . by_cases e:fexp f=0
   . by_cases d:ffrac f=0
     . simp[e,d]
     . simp[e,d]
   . simp[c,e]
def Dg.scale {L:List Nat} {A V:Nat->Nat->Rat} {b:Nat->Rat} (c:Rat) (hd:Dg L A V b):Dg L (λi j=>c*A i j) V (λi=>c*b i):=by
 refine⟨λy=> ?_,hd.ind⟩
 have e:sm L (λi=>c*b i*(y i*y i))=c*sm L (λi=>b i*(y i*y i)):=by
  rw[<-Yz];exact qm λi _=>by grind
 rw[e,<-hd.form y];unfold qf;rw[<-Yz];refine qm λi _=> ?_
 rw[<-Yz];exact qm λj _=>by grind
def q94 {L:List Nat} {b:Nat->Rat} {c:Rat} (hc:0<c):npos L (λi=>c*b i)=npos L b:=by
 unfold npos;rw[List.filter_congr λi _=> ?_]
 rw[decide_eq_decide];constructor
 . intro h;exact(Rat.mul_pos_iff_of_pos_left hc).1 h
 . intro h;exact zy hc h
def q7q {L:List Nat} {b:Nat->Rat} {c:Rat} (hc:0<c):npos L (λi=> -(c*b i))=npos L (λi=> -b i):=by
 rw[<-q94 (b:=λi=> -b i) hc]
 exact qhg λi _=>by grind
def qqp {n:Nat} {D:Nat->Nat->Int} {i j:Nat} (hi:i<n) (hj:j<n):D i j=qD n D i j*2^kM n D:=by
 unfold qD;by_cases z:D i j=0
 . rw[z,Int.zero_ediv,zy2]
 . have h1:=mnM_z (n:=n) (D:=D) (k:=n) hi hj z;have h2:=qlq (n:=n) (D:=D) (i:=n);obtain⟨k1,k2,k3⟩:=qgv (n:=(D i j).natAbs) O;have hk:kM n D<=tz (D i j).natAbs:=by unfold kM;omega
   have hd:((2^kM n D:Nat):Int)∣D i j:=by
    rw[Int.ofNat_dvd_left];exact Nat.dvd_trans (Nat.pow_dvd_pow 2 hk) ⟨_,k2⟩
   rw[zV1]at hd;exact(Int.ediv_mul_cancel hd).symm
def qql {n:Nat} {D:Nat->Nat->Int} {i j k:Nat} (h:blen (D i j).natAbs<=k):zlen (qD n D i j)<=k/32+1:=
 zT (Qp (by unfold qD;exact Int.natAbs_ediv_le_natAbs _ _)) (q0c h)
def IsCnt (n:Nat) (D:Nat->Nat->Int) (c:Nat):Prop:= ∃V b,Dg (List.range n) (qM D) V b/\c=n-npos (List.range n) b
abbrev infP:Int:=9218868437227405312
abbrev infM:Int:=18442240474082181120
end Go.Vs.F
set_option maxRecDepth 100000
namespace Go.Vs.F
def qkq (m:Nat) (a:Int) {k:Nat} (h0:0<k) (hk:k<9223372036854775808): ∃r:Nat,r<k/\g4 m a (k:Int)=some ((r:Int),(),(),()):=by
 have w:wJ (k:Int)=(k:Int):=w64n O;obtain⟨x,hx,_⟩:=qr9 a;have hx':wJ a=(x:Int):=hx;refine⟨x%k,zN2 _ h0,?_⟩;have:=zN2 x h0;rw[g4,w,hx',iP O,tm,wQ,wi O O]
def wrapU (a:Int):U64 (IntKind.wrap .u64 a):=qkz a
def qol (m:Nat) {raw:LI} (hl:raw.length<=9223372036854775807) (k:Int): ∃w,g19 m raw k=some (w,(),(),())/\U64 w:=by
 rw[g19,bQ];by_cases c:0<raw.length
 . obtain⟨r,hr,e⟩:=qkq m k (k:=raw.length) c O;rw[iP O,e,bS];dsimp only;rw[iP O];exact⟨_,rfl,wrapU _⟩
 . rw[iN' O];exact⟨_,rfl,wrapU _⟩
def smT:LI:=[13844628204490326016,13844065254536904704,13842939354630062080,13841813454723219456,13840687554816376832,13839561654909534208,13837309855095848960,13835058055282163712,13830554455654793216,0,4607182418800017408,4611686018427387904,4613937818241073152,4616189618054758400,4617315517961601024,4618441417868443648,4619567317775286272,4620693217682128896,4621256167635550208]
def qnf (j:Nat):((List.range 19).map λr=>g43 (j+100) ((r:Nat):Int))=smT.map λf=>some (f,(),()):=by kernel_rfl
def qkp:FnL []:=λi hi=>absurd hi (zW _)
def qm7 {l:LI} (h:FnL l) {f:Int} (h1:U64 f) (h2:FinF f):FnL (l++[f]):=by
 intro i hi;rw[zO,List.length_singleton]at hi;by_cases c:i<l.length
 . have:(l++[f]).getD i 0=l.getD i 0:=by rw[List.getD,List.getElem?_append_left c];rfl
   rw[this];exact h i c
 . have:i=l.length:=O;subst this;have:(l++[f]).getD l.length 0=f:=by simp[List.getD]
   rw[this];exact⟨h1,h2⟩
def qn3 {x:Int} (h:FinF x):kindN x≠3:=by
 unfold kindN;rw[iN' h];split<;>decide
end Go.Vs.F
set_option maxRecDepth 100000
namespace Go.Vs.F
def wfLen {t:Ty} {xs:List (Den t)} (h:wfC (.imm t) xs):xs.length<=9223372036854775807:=zT h.2 (by decide)
end Go.Vs.F
