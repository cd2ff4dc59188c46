import Derived.Test.YtikppifemlpjlaaGreatDoorVc
set_option linter.unusedVariables false
set_option linter.unusedSimpArgs false
set_option linter.defProp false
namespace Go.Vs.F
def sm {α:Type}:List α->(α->Rat)->Rat
 |[],_=>0
 |i::L,f=>f i+sm L f
variable {α β:Type}
@[simp] def sm_nil {f:α->Rat}:sm [] f=0:=rfl
def Qd {i:α} {L:List α} {f:α->Rat}:sm (i::L) f=f i+sm L f:=rfl
def Qa {L:List α} {f g:α->Rat} (h: ∀i∈L,f i=g i):sm L f=sm L g:=by
 induction L with
 |nil=>rfl
 |cons i L ih=>rw[Qd,Qd,h i mS,ih λj hj=>h j (mT hj)]
def qo0 {L:List α} {f g:α->Rat}:sm L (λi=>f i+g i)=sm L f+sm L g:=by
 induction L with
 |nil=>simp only[sm_nil];grind
 |cons i L ih=>rw[Qd,Qd,Qd,ih];grind
def Zy {L:List α} {f:α->Rat} (c:Rat):sm L (λi=>c*f i)=c*sm L f:=by
 induction L with
 |nil=>simp only[sm_nil];grind
 |cons i L ih=>rw[Qd,Qd,ih];grind
def qkd {L:List α} {f:α->Rat} (c:Rat):sm L (λi=>f i*c)=sm L f*c:=by
 rw[zk3,<-Zy];exact Qa λi _=>zk3 _ _
def sm_sb {L:List α} {f g:α->Rat}:sm L (λi=>f i-g i)=sm L f-sm L g:=by
 induction L with
 |nil=>simp only[sm_nil];grind
 |cons i L ih=>rw[Qd,Qd,Qd,ih];grind
def qll {L:List α}:sm L (λ_=>(0:Rat))=0:=by
 induction L with
 |nil=>rfl
 |cons i L ih=>rw[Qd,ih];grind
def Jc {L:List α} {f:α->Rat} (h: ∀i∈L,f i=0):sm L f=0:=(Qa h).trans qll
def qkz {L:List α} {M:List β} {f:α->β->Rat}:sm L (λi=>sm M (λj=>f i j))=sm M (λj=>sm L (λi=>f i j)):=by
 induction L with
 |nil=>simp only[sm_nil];rw[qll]
 |cons i L ih=>rw[Qd,ih,<-qo0];rfl
def q6x {L M:List α} {f:α->Rat} (h:L.Perm M):sm L f=sm M f:=by
 induction h with
 |nil=>rfl
 |cons x _ ih=>rw[Qd,Qd,ih]
 |swap x y l=>simp only[Qd];grind
 |trans _ _ ih1 ih2=>exact ih1.trans ih2
def qqm {L:List α} {g:α->β} {f:β->Rat}:sm (L.map g) f=sm L (λi=>f (g i)):=by
 induction L with
 |nil=>rfl
 |cons i L ih=>rw[zy1,Qd,Qd,ih]
def qqr {L:List α} (hn:L.Nodup) {i:α} (hi:i∈L) {f:α->Rat} (h: ∀j∈L,j≠i->f j=0):sm L f=f i:=by
 induction L with
 |nil=>cases hi
 |cons j L ih=>
  rw[zA1]at hn;rw[Qd];rcases mC hi with rfl|hi
  . rw[Jc λk hk=>h k (mT hk) (λe=>hn.1 (e▸hk))];grind
  . rw[h j mS (λe=>hn.1 (e▸hi)),ih hn.2 hi λk hk=>h k (mT hk)];grind
def qpu {L:List α} {M:List β} {f:α->Rat} {g:β->Rat}:sm L f*sm M g=sm L (λi=>sm M (λj=>f i*g j)):=by
 rw[<-qkd];exact Qa λi _=>(Zy _).symm
def sq_nonneg (x:Rat):0<=x*x:=by
 rcases zK4 (a:=0) (b:=x)with h|h
 . exact zn1 h h
 . have:=zn1 (a:= -x) (b:= -x) (by grind) (by grind);grind
def sq_pos {x:Rat} (h:x≠0):0<x*x:=by
 have:=sq_nonneg x;by_cases c:x*x=0
 . rcases zt2.1 c with h'|h'<;>exact absurd h' h
 . grind
def hom [DecidableEq α]: ∀(R:List β) (U:List α) (C:β->α->Rat),U.Nodup->R.length<U.length-> ∃y:α->Rat,(∃i∈U,y i≠0)/\ ∀r∈R,sm U (λi=>C r i*y i)=0:=by
 intro R;induction R with
 |nil=>
  intro U C hn h;cases U with
  |nil=>simp at h
  |cons i U=>exact⟨λ_=>1,⟨i,mS,by grind⟩,λr hr=>by cases hr⟩
 |cons r R ih=>
  intro U C hn h;by_cases hz: ∀i∈U,C r i=0
  . obtain⟨y,h1,h2⟩:=ih U C hn (by simp at h;omega)
    refine⟨y,h1,λs hs=> ?_⟩
    rcases mC hs with rfl|hs
    . exact Jc λi hi=>by rw[hz i hi];grind
    . exact h2 s hs
  . simp only[Classical.not_forall]at hz;obtain⟨p,hp,hc⟩:=hz;have hP:U.Perm (p::U.erase p):=List.perm_cons_erase hp;have hn':(p::U.erase p).Nodup:=hP.nodup_iff.1 hn;rw[zA1]at hn';obtain⟨y,⟨i,hi,hy⟩,h2⟩:=ih (U.erase p) (λs i=>C s i-C s p*C r i/C r p) hn'.2 (by rw[List.length_erase_of_mem hp];simp at h;omega)
    let v:= -sm (U.erase p) (λi=>C r i*y i)/C r p
    have hne: ∀j∈U.erase p,j≠p:=λj hj e=>hn'.1 (e▸hj)
    have hs: ∀s:β,sm U (λi=>C s i*(if i=p then v else y i))=C s p*v+sm (U.erase p) (λi=>C s i*y i):=by
     intro s;rw[q6x hP,Qd,iP rfl];congr 1;exact Qa λj hj=>by rw[iN' (hne j hj)]
    refine⟨λi=>if i=p then v else y i,⟨i,hP.mem_iff.2 (mT hi),by show(if i=p then v else y i)≠0;rw[iN' (hne i hi)];exact hy⟩,λs hs'=> ?_⟩
    rw[hs s];rcases mC hs' with rfl|hs'
    . show C s p*(-sm (U.erase p) (λi=>C s i*y i)/C s p)+_=0
      have:C s p*(-sm (U.erase p) (λi=>C s i*y i)/C s p)= -sm (U.erase p) (λi=>C s i*y i):=by grind
      rw[this];grind
    . have h3:=h2 s hs'
      have e:sm (U.erase p) (λi=>(C s i-C s p*C r i/C r p)*y i)=sm (U.erase p) (λi=>C s i*y i)-C s p/C r p*sm (U.erase p) (λi=>C r i*y i):=by
       rw[<-Zy,<-sm_sb];exact Qa λi _=>by grind
      rw[e]at h3;show C s p*(-sm (U.erase p) (λi=>C r i*y i)/C r p)+_=0
      grind
end Go.Vs.F
set_option linter.unusedSectionVars false
namespace Go.Vs.F
variable {α:Type} [DecidableEq α]
def qbn {L:List α} (hn:L.Nodup) {i:α} (hi:i∈L) {f:α->Rat}:sm L (λl=>f l*(if l=i then 1 else 0))=f i:=by
 rw[qqr hn hi]
 . rw[iP rfl];grind
 . intro j _ hj;rw[iN' hj];grind
def lin (K:List α) (V:α->α->Rat) (y:α->Rat) (j:α):Rat:=sm K (λi=>y i*V i j)
def qf (L:List α) (A:α->α->Rat) (x:α->Rat):Rat:=sm L (λi=>sm L (λj=>x i*A i j*x j))
structure Dg (L:List α) (A V:α->α->Rat) (b:α->Rat):Prop where
 form: ∀y,qf L A (lin L V y)=sm L (λi=>b i*(y i*y i))
 ind: ∀y,(∀j∈L,lin L V y j=0)-> ∀i∈L,y i=0
def q3o {L:List α} {A B:α->α->Rat} {x z:α->Rat} (h: ∀i∈L,x i=z i) (hA: ∀i∈L,∀j∈L,A i j=B i j):qf L A x=qf L B z:=
 Qa λi hi=>Qa λj hj=>by rw[h i hi,h j hj,hA i hi j hj]
def qoh {L M:List α} (h:L.Perm M) {A:α->α->Rat} {x:α->Rat}:qf L A x=qf M A x:=by
 unfold qf;rw[q6x h];exact Qa λi _=>q6x h
def qgr {L M:List α} (h:L.Perm M) {V:α->α->Rat} {y:α->Rat} {j:α}:lin L V y j=lin M V y j:=q6x h
def Dg.perm {L M:List α} (h:L.Perm M) {A V:α->α->Rat} {b:α->Rat} (hd:Dg L A V b):Dg M A V b:=by
 refine⟨λy=> ?_,λy hy i hi=> ?_⟩
 . rw[<-q6x h,<-hd.form y,qoh h];exact q3o (λi _=>(qgr h).symm) (λ_ _ _ _=>rfl)
 . exact hd.ind y (λj hj=>(qgr h).trans (hy j (h.mem_iff.1 hj))) i (h.mem_iff.2 hi)
def Dg.congr {L:List α} {A B V:α->α->Rat} {b:α->Rat} (h: ∀i∈L,∀j∈L,A i j=B i j) (hd:Dg L A V b):Dg L B V b:=
 ⟨λy=>by rw[<-hd.form y];exact(q3o (λ_ _=>rfl) h).symm,hd.ind⟩
def qj2 {L:List α} (hn:L.Nodup) {A:α->α->Rat} (h: ∀i∈L,∀j∈L,A i j=0):Dg L A (λi j=>if i=j then 1 else 0) (λ_=>0):=by
 have hl: ∀(y:α->Rat) j,j∈L->lin L (λi j=>if i=j then 1 else 0) y j=y j:=λy j hj=>qbn hn hj
 refine⟨λy=> ?_,λy hy i hi=>by rw[<-hl y i hi];exact hy i hi⟩
 rw[Jc (λi _=>by grind)]
 exact Jc λi hi=>Jc λj hj=>by rw[h i hi j hj];grind
def qds {p:α} {R:List α} {A:α->α->Rat} (hs: ∀i∈p::R,∀j∈p::R,A i j=A j i) {x:α->Rat}:
 qf (p::R) A x=A p p*(x p*x p)+2*x p*sm R (λk=>A p k*x k)+qf R A x:=by
 unfold qf;rw[Qd,Qd]
 have e1:sm R (λj=>x p*A p j*x j)=x p*sm R (λk=>A p k*x k):=by
  rw[<-Zy];exact Qa λj _=>by grind
 have e2:sm R (λi=>sm (p::R) (λj=>x i*A i j*x j))=x p*sm R (λk=>A p k*x k)+sm R (λi=>sm R (λj=>x i*A i j*x j)):=by
  rw[<-Zy,<-qo0];refine Qa λi hi=> ?_
  rw[Qd,hs i (mT hi) p mS];grind
 rw[e1,e2];grind
def q9i {R:List α} {A B:α->α->Rat} {u w:α->Rat} {c:Rat} (h: ∀i∈R,∀j∈R,B i j=A i j-c*(u i*w j)) {x:α->Rat}:
 qf R B x=qf R A x-c*(sm R (λk=>u k*x k)*sm R (λk=>w k*x k)):=by
 rw[qpu,<-Zy];unfold qf;rw[<-sm_sb];refine Qa λi hi=> ?_
 rw[<-Zy,<-sm_sb];refine Qa λj hj=> ?_
 rw[h i hi j hj];grind
def q0t (p:α) (R:List α) (A W:α->α->Rat):α->α->Rat:=λi j=>
 if i=p then(if j=p then 1 else 0)else if j=p then-sm R (λk=>A p k*W i k)/A p p else W i j
def qa8 {R:List α} {W:α->α->Rat} {c y:α->Rat} {b:Rat}:sm R (λi=>y i*(-sm R (λk=>c k*W i k)/b))= -sm R (λk=>c k*lin R W y k)/b:=by
 have e:sm R (λk=>c k*lin R W y k)=sm R (λi=>y i*sm R (λk=>c k*W i k)):=by
  have:sm R (λk=>c k*lin R W y k)=sm R (λk=>sm R (λi=>y i*(c k*W i k))):=by
   refine Qa λk _=> ?_
   unfold lin;rw[<-Zy];exact Qa λi _=>by grind
  rw[this,qkz];exact Qa λi _=>Zy _
 have e2: -sm R (λk=>c k*lin R W y k)/b=(-1/b)*sm R (λk=>c k*lin R W y k):=by grind
 rw[e2,e,<-Zy];exact Qa λi _=>by grind
def qlv {p:α} {R:List α} (hn:(p::R).Nodup) {A B W:α->α->Rat} {g:α->Rat} (hs: ∀i∈p::R,∀j∈p::R,A i j=A j i) (hb:A p p≠0)
 (hB: ∀i∈R,∀j∈R,B i j=A i j-A i p*A p j/A p p) (hd:Dg R B W g):Dg (p::R) A (q0t p R A W) (λi=>if i=p then A p p else g i):=by
 rw[zA1]at hn;have hne: ∀l∈R,l≠p:=λl hl e=>hn.1 (e▸hl)
 have hx: ∀(y:α->Rat) j,j∈R->lin (p::R) (q0t p R A W) y j=lin R W y j:=by
  intro y j hj;unfold lin;rw[Qd];have:q0t p R A W p j=0:=by unfold q0t;rw[iP rfl,iN' (hne j hj)]
  rw[this,Qa (g:=λi=>y i*W i j) λi hi=>by unfold q0t;rw[iN' (hne i hi),iN' (hne j hj)]]
  grind
 have hp: ∀y:α->Rat,lin (p::R) (q0t p R A W) y p=y p-sm R (λk=>A p k*lin R W y k)/A p p:=by
  intro y;unfold lin;rw[Qd];have:q0t p R A W p p=1:=by unfold q0t;rw[iP rfl,iP rfl]
  rw[this,Qa (g:=λi=>y i*(-sm R (λk=>A p k*W i k)/A p p)) λi hi=>by unfold q0t;rw[iN' (hne i hi),iP rfl],qa8]
  unfold lin
  grind
 refine⟨λy=> ?_,λy hy=> ?_⟩
 . have es:sm R (λk=>A p k*lin (p::R) (q0t p R A W) y k)=sm R (λk=>A p k*lin R W y k):=Qa λk hk=>by rw[hx y k hk]
   rw[qds hs,hp y,es];have e1:qf R A (lin (p::R) (q0t p R A W) y)=qf R A (lin R W y):=q3o (λi hi=>hx y i hi) (λ_ _ _ _=>rfl)
   have e2:=q9i (R:=R) (A:=A) (B:=B) (u:=λk=>A p k) (w:=λk=>A p k) (c:=1/A p p) (x:=lin R W y) (λi hi j hj=>by
    rw[hB i hi j hj,hs i (mT hi) p mS];grind)
   rw[hd.form y]at e2;rw[Qd,iP rfl,e1];have e3:sm R (λi=>(if i=p then A p p else g i)*(y i*y i))=sm R (λi=>g i*(y i*y i)):=Qa λi hi=>by rw[iN' (hne i hi)]
   rw[e3,e2];clear e1 e2 e3 es hp hx hs hB hd;generalize sm R (λk=>A p k*lin R W y k)=s
   generalize qf R A (lin R W y)=t
   grind
 . have h0: ∀j∈R,lin R W y j=0:=λj hj=>(hx y j hj).symm.trans (hy j (mT hj))
   have h1:=hd.ind y h0;have h2:=hy p mS;rw[hp y,Jc (λk hk=>by rw[h0 k hk];grind)]at h2
   intro i hi;rcases mC hi with rfl|hi
   . grind
   . exact h1 i hi
def Y0 (p q:α) (R:List α) (A W:α->α->Rat):α->α->Rat:=λi j=>
 if i=p then(if j=p then 1 else if j=q then 1 else 0)else if i=q then(if j=p then 1 else if j=q then-1 else 0)
 else if j=p then-sm R (λk=>A q k*W i k)/A p q else if j=q then-sm R (λk=>A p k*W i k)/A p q else W i j
def qn8 {p q:α} {R:List α} (hn:(p::q::R).Nodup) {A B W:α->α->Rat} {g:α->Rat} (hs: ∀i∈p::q::R,∀j∈p::q::R,A i j=A j i) (hp0:A p p=0) (hq0:A q q=0) (hb:A p q≠0)
 (hB: ∀i∈R,∀j∈R,B i j=A i j-A i p*A q j/A p q-A i q*A p j/A p q) (hd:Dg R B W g):
 Dg (p::q::R) A (Y0 p q R A W) (λi=>if i=p then 2*A p q else if i=q then-(2*A p q)else g i):=by
 rw[zA1,zA1]at hn;obtain⟨hn1,hn2,hn3⟩:=hn;have hpq:q≠p:=λe=>hn1 (e▸mS)
 have hnp: ∀l∈R,l≠p:=λl hl e=>hn1 (mT (e▸hl))
 have hnq: ∀l∈R,l≠q:=λl hl e=>hn2 (e▸hl)
 have hx: ∀(y:α->Rat) j,j∈R->lin (p::q::R) (Y0 p q R A W) y j=lin R W y j:=by
  intro y j hj;unfold lin;rw[Qd,Qd];have e1:Y0 p q R A W p j=0:=by unfold Y0;rw[iP rfl,iN' (hnp j hj),iN' (hnq j hj)]
  have e2:Y0 p q R A W q j=0:=by unfold Y0;rw[iN' hpq,iP rfl,iN' (hnp j hj),iN' (hnq j hj)]
  rw[e1,e2,Qa (g:=λi=>y i*W i j) λi hi=>by unfold Y0;rw[iN' (hnp i hi),iN' (hnq i hi),iN' (hnp j hj),iN' (hnq j hj)]]
  grind
 have hp: ∀y:α->Rat,lin (p::q::R) (Y0 p q R A W) y p=y p+y q-sm R (λk=>A q k*lin R W y k)/A p q:=by
  intro y;unfold lin;rw[Qd,Qd];have e1:Y0 p q R A W p p=1:=by unfold Y0;rw[iP rfl,iP rfl]
  have e2:Y0 p q R A W q p=1:=by unfold Y0;rw[iN' hpq,iP rfl,iP rfl]
  rw[e1,e2,Qa (g:=λi=>y i*(-sm R (λk=>A q k*W i k)/A p q)) λi hi=>by unfold Y0;rw[iN' (hnp i hi),iN' (hnq i hi),iP rfl],qa8]
  unfold lin
  grind
 have hq: ∀y:α->Rat,lin (p::q::R) (Y0 p q R A W) y q=y p-y q-sm R (λk=>A p k*lin R W y k)/A p q:=by
  intro y;unfold lin;rw[Qd,Qd];have e1:Y0 p q R A W p q=1:=by unfold Y0;rw[iP rfl,iN' hpq,iP rfl]
  have e2:Y0 p q R A W q q= -1:=by unfold Y0;rw[iN' hpq,iP rfl,iN' hpq,iP rfl]
  rw[e1,e2,Qa (g:=λi=>y i*(-sm R (λk=>A p k*W i k)/A p q)) λi hi=>by unfold Y0;rw[iN' (hnp i hi),iN' (hnq i hi),iN' hpq,iP rfl],qa8]
  unfold lin
  grind
 have hsp:=hs p mS q (mT mS);refine⟨λy=> ?_,λy hy=> ?_⟩
 . have es: ∀r,sm R (λk=>A r k*lin (p::q::R) (Y0 p q R A W) y k)=sm R (λk=>A r k*lin R W y k):=λr=>Qa λk hk=>by rw[hx y k hk]
   rw[qds hs,qds (λi hi j hj=>hs i (mT hi) j (mT hj)),Qd,hp y,hq y,hp0,hq0,es p,es q]
   have e1:qf R A (lin (p::q::R) (Y0 p q R A W) y)=qf R A (lin R W y):=q3o (λi hi=>hx y i hi) (λ_ _ _ _=>rfl)
   have e2:=q9i (R:=R) (A:=λi j=>A i j-(1/A p q)*(A p i*A q j)) (B:=B) (u:=λk=>A q k) (w:=λk=>A p k) (c:=1/A p q) (x:=lin R W y) (λi hi j hj=>by
    rw[hB i hi j hj,hs i (mT (mT hi)) p mS,hs i (mT (mT hi)) q (mT mS)];grind)
   have e3:=q9i (R:=R) (A:=A) (B:=λi j=>A i j-(1/A p q)*(A p i*A q j)) (u:=λk=>A p k) (w:=λk=>A q k) (c:=1/A p q) (x:=lin R W y) (λi hi j hj=>rfl)
   rw[hd.form y,e3]at e2;rw[Qd,Qd,iP rfl,iN' hpq,iP rfl,e1];have e4:sm R (λi=>(if i=p then 2*A p q else if i=q then-(2*A p q)else g i)*(y i*y i))=sm R (λi=>g i*(y i*y i)):=Qa λi hi=>by rw[iN' (hnp i hi),iN' (hnq i hi)]
   rw[e4,e2];clear e1 e2 e3 e4 es hp hq hx hs hB hd;generalize sm R (λk=>A p k*lin R W y k)=s
   generalize sm R (λk=>A q k*lin R W y k)=r
   generalize qf R A (lin R W y)=t
   grind
 . have h0: ∀j∈R,lin R W y j=0:=λj hj=>(hx y j hj).symm.trans (hy j (mT (mT hj)))
   have h1:=hd.ind y h0;have h2:=hy p mS;have h3:=hy q (mT mS);rw[hp y,Jc (λk hk=>by rw[h0 k hk];grind)]at h2
   rw[hq y,Jc (λk hk=>by rw[h0 k hk];grind)]at h3
   intro i hi;rcases mC hi with rfl|hi
   . grind
   . rcases mC hi with rfl|hi
     . grind
     . exact h1 i hi
def npos (L:List α) (b:α->Rat):Nat:=(L.filter λi=>decide (0<b i)).length
def sgq (x:Rat):Int:=if x<0 then-1 else if x=0 then 0 else 1
def e2 (a b c d e f:Rat):Rat:=(a*b-d*d)+(a*c-e*e)+(b*c-f*f)
def e3 (a b c d e f:Rat):Rat:=a*(b*c-f*f)-d*(d*c-f*e)+e*(d*f-b*e)
def sq3 {x y z:Rat} (h:x≠0\/y≠0\/z≠0):0<x*x+y*y+z*z:=by
 have h1:=sq_nonneg x;have h2:=sq_nonneg y;have h3:=sq_nonneg z;rcases h with h|h|h<;>have:=sq_pos h<;>grind
section
variable {a b c d e f:Rat} {p q r:Rat} {x1 x2 x3 y1 y2 y3 z1 z2 z3:Rat}
def mix1 (ha:a=p*(x1*x1)+q*(y1*y1)+r*(z1*z1)) (hb:b=p*(x2*x2)+q*(y2*y2)+r*(z2*z2)) (hc:c=p*(x3*x3)+q*(y3*y3)+r*(z3*z3))
 (hd:d=p*(x1*x2)+q*(y1*y2)+r*(z1*z2)) (he:e=p*(x1*x3)+q*(y1*y3)+r*(z1*z3)) (hf:f=p*(x2*x3)+q*(y2*y3)+r*(z2*z3))
 (hq:q<=0) (hr:r<=0) (k1:0<=a+b+c) (k2:0<=e2 a b c d e f) (k3:0<e3 a b c d e f) {v1 v2 v3:Rat} (hv:v1≠0\/v2≠0\/v3≠0) {r1 r2 r3 t1 t2 t3:Rat}
 (hr1:r1=a*v1+d*v2+e*v3) (hr2:r2=d*v1+b*v2+f*v3) (hr3:r3=e*v1+f*v2+c*v3)
 (ht1:t1=a*r1+d*r2+e*r3) (ht2:t2=d*r1+b*r2+f*r3) (ht3:t3=e*r1+f*r2+c*r3)
 (hw:x1*(t1+e2 a b c d e f*v1)+x2*(t2+e2 a b c d e f*v2)+x3*(t3+e2 a b c d e f*v3)=0):False:=by
 have g1:a*t1+d*t2+e*t3=(a+b+c)*t1-e2 a b c d e f*r1+e3 a b c d e f*v1:=by unfold e2 e3;grind
 have g2:d*t1+b*t2+f*t3=(a+b+c)*t2-e2 a b c d e f*r2+e3 a b c d e f*v2:=by unfold e2 e3;grind
 have g3:e*t1+f*t2+c*t3=(a+b+c)*t3-e2 a b c d e f*r3+e3 a b c d e f*v3:=by unfold e2 e3;grind
 have g4:t1*v1+t2*v2+t3*v3=r1*r1+r2*r2+r3*r3:=by grind
 generalize e2 a b c d e f=s2 at*
 generalize e3 a b c d e f=s3 at*
 have hz: ∀w1 w2 w3:Rat,w1*(a*w1+d*w2+e*w3)+w2*(d*w1+b*w2+f*w3)+w3*(e*w1+f*w2+c*w3)=p*((x1*w1+x2*w2+x3*w3)*(x1*w1+x2*w2+x3*w3))+q*((y1*w1+y2*w2+y3*w3)*(y1*w1+y2*w2+y3*w3))+r*((z1*w1+z2*w2+z3*w3)*(z1*w1+z2*w2+z3*w3)):=by
  intro w1 w2 w3;subst ha hb hc hd he hf;grind
 have n1:=hz (t1+s2*v1) (t2+s2*v2) (t3+s2*v3);clear hz;have n2:=sq_nonneg (y1*(t1+s2*v1)+y2*(t2+s2*v2)+y3*(t3+s2*v3));have n3:=sq_nonneg (z1*(t1+s2*v1)+z2*(t2+s2*v2)+z3*(t3+s2*v3));generalize (y1*(t1+s2*v1)+y2*(t2+s2*v2)+y3*(t3+s2*v3))*(y1*(t1+s2*v1)+y2*(t2+s2*v2)+y3*(t3+s2*v3))=Y at*;generalize (z1*(t1+s2*v1)+z2*(t2+s2*v2)+z3*(t3+s2*v3))*(z1*(t1+s2*v1)+z2*(t2+s2*v2)+z3*(t3+s2*v3))=Z at*;rw[hw]at n1;have m1:=zn1 (a:= -q) (b:=Y) (by grind) n2
 have m2:=zn1 (a:= -r) (b:=Z) (by grind) n3
 have e1:(t1+s2*v1)*(a*(t1+s2*v1)+d*(t2+s2*v2)+e*(t3+s2*v3))+(t2+s2*v2)*(d*(t1+s2*v1)+b*(t2+s2*v2)+f*(t3+s2*v3))+(t3+s2*v3)*(e*(t1+s2*v1)+f*(t2+s2*v2)+c*(t3+s2*v3))=
  (a+b+c)*(t1*t1+t2*t2+t3*t3)+(s3+(a+b+c)*s2)*(t1*v1+t2*v2+t3*v3)+s2*s3*(v1*v1+v2*v2+v3*v3):=by
  have i1:a*(t1+s2*v1)+d*(t2+s2*v2)+e*(t3+s2*v3)=(a+b+c)*t1+s3*v1:=by grind
  have i2:d*(t1+s2*v1)+b*(t2+s2*v2)+f*(t3+s2*v3)=(a+b+c)*t2+s3*v2:=by grind
  have i3:e*(t1+s2*v1)+f*(t2+s2*v2)+c*(t3+s2*v3)=(a+b+c)*t3+s3*v3:=by grind
  rw[i1,i2,i3];clear g1 g2 g3;grind
 rw[e1,g4]at n1;clear e1
 have hr0:r1≠0\/r2≠0\/r3≠0:=by
  refine zp1 λhn=> ?_
  simp only[not_or,zd2]at hn;obtain⟨o1,o2,o3⟩:=hn;have u1:t1=0:=by rw[ht1,o1,o2,o3];grind
  have u2:t2=0:=by rw[ht2,o1,o2,o3];grind
  have u3:t3=0:=by rw[ht3,o1,o2,o3];grind
  rw[u1,u2,u3,o1]at g1;rw[u1,u2,u3,o2]at g2;rw[u1,u2,u3,o3]at g3;have w1:s3*v1=0:=by grind
  have w2:s3*v2=0:=by grind
  have w3:s3*v3=0:=by grind
  have hs:s3≠0:=by grind
  rcases hv with h|h|h
  . rcases zt2.1 w1 with h'|h'<;>contradiction
  . rcases zt2.1 w2 with h'|h'<;>contradiction
  . rcases zt2.1 w3 with h'|h'<;>contradiction
 have p1:=sq3 hr0;have p2:=sq3 hv
 have p3:0<=t1*t1+t2*t2+t3*t3:=by
  have:=sq_nonneg t1;have:=sq_nonneg t2;have:=sq_nonneg t3;grind
 generalize r1*r1+r2*r2+r3*r3=R at*
 generalize v1*v1+v2*v2+v3*v3=V at*
 generalize t1*t1+t2*t2+t3*t3=T at*
 generalize a+b+c=s1 at*
 have l1:=zn1 k1 p3;have l2:=zN1 k3 p1;have l3:=zn1 (zn1 k1 k2) (show(0:Rat)<=R by grind)
 have l4:=zn1 (zn1 k2 (show(0:Rat)<=s3 by grind)) (show(0:Rat)<=V by grind)
 grind
def mix (ha:a=p*(x1*x1)+q*(y1*y1)+r*(z1*z1)) (hb:b=p*(x2*x2)+q*(y2*y2)+r*(z2*z2)) (hc:c=p*(x3*x3)+q*(y3*y3)+r*(z3*z3))
 (hd:d=p*(x1*x2)+q*(y1*y2)+r*(z1*z2)) (he:e=p*(x1*x3)+q*(y1*y3)+r*(z1*z3)) (hf:f=p*(x2*x3)+q*(y2*y3)+r*(z2*z3))
 (hq:q<=0) (hr:r<=0) (k1:0<=a+b+c) (k2:0<=e2 a b c d e f) (k3:0<e3 a b c d e f):False:=by
 have go:=λv1 v2 v3 hv h=>mix1 ha hb hc hd he hf hq hr k1 k2 k3 (v1:=v1) (v2:=v2) (v3:=v3) hv rfl rfl rfl rfl rfl rfl h
 clear ha hb hc hd he hf;generalize e2 a b c d e f=s2 at*;obtain⟨w1,h1⟩: ∃w,w=a*(a*x1+d*x2+e*x3)+d*(d*x1+b*x2+f*x3)+e*(e*x1+f*x2+c*x3)+s2*x1:=⟨_,rfl⟩;obtain⟨w2,h2⟩: ∃w,w=d*(a*x1+d*x2+e*x3)+b*(d*x1+b*x2+f*x3)+f*(e*x1+f*x2+c*x3)+s2*x2:=⟨_,rfl⟩;by_cases c1:w1=0
 . refine go 1 0 0 (.inl (by grind)) ?_
   rw[c1]at h1;grind
 . exact go w2 (-w1) 0 (.inr (.inl (by grind))) (by grind)
def cb2 (ha:a=p*(x1*x1)+q*(y1*y1)+r*(z1*z1)) (hb:b=p*(x2*x2)+q*(y2*y2)+r*(z2*z2)) (hc:c=p*(x3*x3)+q*(y3*y3)+r*(z3*z3))
 (hd:d=p*(x1*x2)+q*(y1*y2)+r*(z1*z2)) (he:e=p*(x1*x3)+q*(y1*y3)+r*(z1*z3)) (hf:f=p*(x2*x3)+q*(y2*y3)+r*(z2*z3)):
 a+b+c=p*(x1*x1+x2*x2+x3*x3)+q*(y1*y1+y2*y2+y3*y3)+r*(z1*z1+z2*z2+z3*z3)/\
 e2 a b c d e f=p*q*((x1*y2-x2*y1)*(x1*y2-x2*y1)+(x1*y3-x3*y1)*(x1*y3-x3*y1)+(x2*y3-x3*y2)*(x2*y3-x3*y2))+
  p*r*((x1*z2-x2*z1)*(x1*z2-x2*z1)+(x1*z3-x3*z1)*(x1*z3-x3*z1)+(x2*z3-x3*z2)*(x2*z3-x3*z2))+
  q*r*((y1*z2-y2*z1)*(y1*z2-y2*z1)+(y1*z3-y3*z1)*(y1*z3-y3*z1)+(y2*z3-y3*z2)*(y2*z3-y3*z2))/\
 e3 a b c d e f=p*q*r*((x1*(y2*z3-y3*z2)-x2*(y1*z3-y3*z1)+x3*(y1*z2-y2*z1))*(x1*(y2*z3-y3*z2)-x2*(y1*z3-y3*z1)+x3*(y1*z2-y2*z1))):=by
 subst ha hb hc hd he hf;refine⟨by grind,by unfold e2;grind,by unfold e3;grind⟩
def ip (x:Rat):Nat:=if 0<x then 1 else 0
def ip1 {x:Rat} (h:0<x):ip x=1/\ip (-x)=0:=by unfold ip;rw[iP h,iN' (by grind)];exact⟨rfl,rfl⟩
def ip2 {x:Rat} (h:x<0):ip x=0/\ip (-x)=1:=by unfold ip;rw[iN' (by grind),iP (by grind)];exact⟨rfl,rfl⟩
def ip0:ip 0=0/\ip (-0)=0:=by unfold ip;exact⟨iN' (by grind),iN' (by grind)⟩
inductive Sg:Nat->Nat->Rat->Rat->Rat->Prop
 |c30 {s1 s2 s3:Rat}:0<s1->0<s2->0<s3->Sg 3 0 s1 s2 s3
 |c03 {s1 s2 s3:Rat}:s1<0->0<s2->s3<0->Sg 0 3 s1 s2 s3
 |c21 {s1 s2 s3:Rat}:s3<0-> ¬(s1<=0/\0<=s2)->Sg 2 1 s1 s2 s3
 |c12 {s1 s2 s3:Rat}:0<s3-> ¬(0<=s1/\0<=s2)->Sg 1 2 s1 s2 s3
 |c20 {s1 s2 s3:Rat}:0<s1->0<s2->s3=0->Sg 2 0 s1 s2 s3
 |c02 {s1 s2 s3:Rat}:s1<0->0<s2->s3=0->Sg 0 2 s1 s2 s3
 |c11 {s1 s2 s3:Rat}:s2<0->s3=0->Sg 1 1 s1 s2 s3
 |c10 {s1 s2 s3:Rat}:0<s1->s2=0->s3=0->Sg 1 0 s1 s2 s3
 |c01 {s1 s2 s3:Rat}:s1<0->s2=0->s3=0->Sg 0 1 s1 s2 s3
 |c00 {s1 s2 s3:Rat}:s1=0->s2=0->s3=0->Sg 0 0 s1 s2 s3
def mnp {x y:Rat} (hx:x<0) (hy:0<y):x*y<0:=by have:=zN1 (a:= -x) (b:=y) (by grind) hy;grind
def mnn {x y:Rat} (hx:x<0) (hy:y<0):0<x*y:=by have:=zN1 (a:= -x) (b:= -y) (by grind) (by grind);grind
def core (ha:a=p*(x1*x1)+q*(y1*y1)+r*(z1*z1)) (hb:b=p*(x2*x2)+q*(y2*y2)+r*(z2*z2)) (hc:c=p*(x3*x3)+q*(y3*y3)+r*(z3*z3))
 (hd:d=p*(x1*x2)+q*(y1*y2)+r*(z1*z2)) (he:e=p*(x1*x3)+q*(y1*y3)+r*(z1*z3)) (hf:f=p*(x2*x3)+q*(y2*y3)+r*(z2*z3))
 (hD:x1*(y2*z3-y3*z2)-x2*(y1*z3-y3*z1)+x3*(y1*z2-y2*z1)≠0) (h1:q<=p) (h2:r<=q):Sg (ip p+ip q+ip r) (ip (-p)+ip (-q)+ip (-r)) (a+b+c) (e2 a b c d e f) (e3 a b c d e f):=by
 obtain⟨k1,k2,k3⟩:=cb2 ha hb hc hd he hf;have n1:0<x1*x1+x2*x2+x3*x3:=sq3 (zp1 λh=>by simp only[not_or,zd2]at h;obtain⟨rfl,rfl,rfl⟩:=h;grind)
 have n2:0<y1*y1+y2*y2+y3*y3:=sq3 (zp1 λh=>by simp only[not_or,zd2]at h;obtain⟨rfl,rfl,rfl⟩:=h;grind)
 have n3:0<z1*z1+z2*z2+z3*z3:=sq3 (zp1 λh=>by simp only[not_or,zd2]at h;obtain⟨rfl,rfl,rfl⟩:=h;grind)
 have n4:=sq3 (x:=x1*y2-x2*y1) (y:=x1*y3-x3*y1) (z:=x2*y3-x3*y2) (zp1 λh=>by simp only[not_or,zd2]at h;grind)
 have n5:=sq3 (x:=x1*z2-x2*z1) (y:=x1*z3-x3*z1) (z:=x2*z3-x3*z2) (zp1 λh=>by simp only[not_or,zd2]at h;grind)
 have n6:=sq3 (x:=y1*z2-y2*z1) (y:=y1*z3-y3*z1) (z:=y2*z3-y3*z2) (zp1 λh=>by simp only[not_or,zd2]at h;grind)
 have n7:=sq_pos hD;have mx:=λg1 g2 g3 g4 g5=>mix ha hb hc hd he hf (q:=q) (r:=r) g1 g2 g3 g4 g5
 have my:=λg1 g2 g3 g4 g5=>mix (a:= -a) (b:= -b) (c:= -c) (d:= -d) (e:= -e) (f:= -f) (p:= -r) (q:= -p) (r:= -q) (x1:=z1) (x2:=z2) (x3:=z3) (y1:=x1) (y2:=x2) (y3:=x3) (z1:=y1) (z2:=y2) (z3:=y3)
  (by rw[ha];grind) (by rw[hb];grind) (by rw[hc];grind) (by rw[hd];grind) (by rw[he];grind) (by rw[hf];grind) g1 g2 g3 g4 g5
 have q2:e2 (-a) (-b) (-c) (-d) (-e) (-f)=e2 a b c d e f:=by unfold e2;grind
 have q3:e3 (-a) (-b) (-c) (-d) (-e) (-f)= -e3 a b c d e f:=by unfold e3;grind
 rw[q2,q3]at my;clear ha hb hc hd he hf q2 q3 hD;generalize e2 a b c d e f=s2 at*;generalize e3 a b c d e f=s3 at*;generalize x1*x1+x2*x2+x3*x3=X at*;generalize y1*y1+y2*y2+y3*y3=Y at*;generalize z1*z1+z2*z2+z3*z3=Z at*;generalize (x1*y2-x2*y1)*(x1*y2-x2*y1)+(x1*y3-x3*y1)*(x1*y3-x3*y1)+(x2*y3-x3*y2)*(x2*y3-x3*y2)=U at*;generalize (x1*z2-x2*z1)*(x1*z2-x2*z1)+(x1*z3-x3*z1)*(x1*z3-x3*z1)+(x2*z3-x3*z2)*(x2*z3-x3*z2)=V at*;generalize (y1*z2-y2*z1)*(y1*z2-y2*z1)+(y1*z3-y3*z1)*(y1*z3-y3*z1)+(y2*z3-y3*z2)*(y2*z3-y3*z2)=W at*;generalize (x1*(y2*z3-y3*z2)-x2*(y1*z3-y3*z1)+x3*(y1*z2-y2*z1))*(x1*(y2*z3-y3*z2)-x2*(y1*z3-y3*z1)+x3*(y1*z2-y2*z1))=Q at*;have tri: ∀t:Rat,t<0\/t=0\/0<t:=λt=>by grind
 rcases tri r with hr|hr|hr
 . obtain⟨i1,i2⟩:=ip2 hr;rcases tri q with hq|hq|hq
   . obtain⟨j1,j2⟩:=ip2 hq;rcases tri p with hp|hp|hp
     . obtain⟨l1,l2⟩:=ip2 hp;rw[i1,i2,j1,j2,l1,l2];have:=mnp hp n1;have:=mnp hq n2;have:=mnp hr n3;have:=zN1 (mnn hp hq) n4;have:=zN1 (mnn hp hr) n5;have:=zN1 (mnn hq hr) n6;have:=mnp (x:=p*q*r) (by have:=mnp hr (mnn hp hq);grind) n7
       exact .c03 (by grind) (by grind) (by grind)
     . subst hp;obtain⟨l1,l2⟩:=ip0;rw[i1,i2,j1,j2,l1,l2];have:=mnp hq n2;have:=mnp hr n3;have:=zN1 (mnn hq hr) n6;exact .c02 (by grind) (by grind) (by grind)
     . obtain⟨l1,l2⟩:=ip1 hp;rw[i1,i2,j1,j2,l1,l2];have k4:0<s3:=by have:=zN1 (zN1 hp (mnn hq hr)) n7;grind
       exact .c12 k4 λh=>mx (by grind) (by grind) h.1 h.2 k4
   . subst hq;obtain⟨j1,j2⟩:=ip0;rcases tri p with hp|hp|hp
     . grind
     . subst hp;rw[i1,i2,j1,j2];have:=mnp hr n3;exact .c01 (by grind) (by grind) (by grind)
     . obtain⟨l1,l2⟩:=ip1 hp;rw[i1,i2,j1,j2,l1,l2];have:=mnp (x:=p*r) (by have:=mnp hr hp;grind) n5
       exact .c11 (by grind) (by grind)
   . obtain⟨j1,j2⟩:=ip1 hq;obtain⟨l1,l2⟩:=ip1 (x:=p) (by grind)
     rw[i1,i2,j1,j2,l1,l2];have k4:s3<0:=by have:=mnp (x:=p*q*r) (by have:=mnp hr (zN1 (show 0<p by grind) hq);grind) n7;grind
     exact .c21 k4 λh=>my (by grind) (by grind) (by grind) h.2 (by grind)
 . subst hr;obtain⟨i1,i2⟩:=ip0;rcases tri q with hq|hq|hq
   . grind
   . subst hq;rcases tri p with hp|hp|hp
     . grind
     . subst hp;rw[i1,i2];exact .c00 (by grind) (by grind) (by grind)
     . obtain⟨l1,l2⟩:=ip1 hp;rw[i1,i2,l1,l2];have:=zN1 hp n1;exact .c10 (by grind) (by grind) (by grind)
   . have hp:0<p:=by grind
     obtain⟨j1,j2⟩:=ip1 hq;obtain⟨l1,l2⟩:=ip1 hp;rw[i1,i2,j1,j2,l1,l2];have:=zN1 hp n1;have:=zN1 hq n2;have:=zN1 (zN1 hp hq) n4;exact .c20 (by grind) (by grind) (by grind)
 . have hq:0<q:=by grind
   have hp:0<p:=by grind
   obtain⟨i1,i2⟩:=ip1 hr;obtain⟨j1,j2⟩:=ip1 hq;obtain⟨l1,l2⟩:=ip1 hp;rw[i1,i2,j1,j2,l1,l2];have:=zN1 hp n1;have:=zN1 hq n2;have:=zN1 hr n3;have:=zN1 (zN1 hp hq) n4;have:=zN1 (zN1 hp hr) n5;have:=zN1 (zN1 hq hr) n6;have:=zN1 (zN1 (zN1 hp hq) hr) n7;exact .c30 (by grind) (by grind) (by grind)
def sgT (ha:a=p*(x1*x1)+q*(y1*y1)+r*(z1*z1)) (hb:b=p*(x2*x2)+q*(y2*y2)+r*(z2*z2)) (hc:c=p*(x3*x3)+q*(y3*y3)+r*(z3*z3))
 (hd:d=p*(x1*x2)+q*(y1*y2)+r*(z1*z2)) (he:e=p*(x1*x3)+q*(y1*y3)+r*(z1*z3)) (hf:f=p*(x2*x3)+q*(y2*y3)+r*(z2*z3))
 (hD:x1*(y2*z3-y3*z2)-x2*(y1*z3-y3*z1)+x3*(y1*z2-y2*z1)≠0):Sg (ip p+ip q+ip r) (ip (-p)+ip (-q)+ip (-r)) (a+b+c) (e2 a b c d e f) (e3 a b c d e f):=by
 rcases zK4 (a:=p) (b:=q)with h1|h1<;>rcases zK4 (a:=q) (b:=r)with h2|h2<;>rcases zK4 (a:=p) (b:=r)with h3|h3
 . have:=core (a:=a) (b:=b) (c:=c) (d:=d) (e:=e) (f:=f) (x1:=z1) (x2:=z2) (x3:=z3) (y1:=y1) (y2:=y2) (y3:=y3) (z1:=x1) (z2:=x2) (z3:=x3) (by grind) (by grind) (by grind) (by grind) (by grind) (by grind) (by grind) h2 h1
   rwa [show ip r+ip q+ip p=ip p+ip q+ip r by omega,show ip (-r)+ip (-q)+ip (-p)=ip (-p)+ip (-q)+ip (-r) by omega]at this
 . have:=core (a:=a) (b:=b) (c:=c) (d:=d) (e:=e) (f:=f) (x1:=z1) (x2:=z2) (x3:=z3) (y1:=y1) (y2:=y2) (y3:=y3) (z1:=x1) (z2:=x2) (z3:=x3) (by grind) (by grind) (by grind) (by grind) (by grind) (by grind) (by grind) h2 h1
   rwa [show ip r+ip q+ip p=ip p+ip q+ip r by omega,show ip (-r)+ip (-q)+ip (-p)=ip (-p)+ip (-q)+ip (-r) by omega]at this
 . have:=core (a:=a) (b:=b) (c:=c) (d:=d) (e:=e) (f:=f) (x1:=y1) (x2:=y2) (x3:=y3) (y1:=z1) (y2:=z2) (y3:=z3) (z1:=x1) (z2:=x2) (z3:=x3) (by grind) (by grind) (by grind) (by grind) (by grind) (by grind) (by grind) h2 h3
   rwa [show ip q+ip r+ip p=ip p+ip q+ip r by omega,show ip (-q)+ip (-r)+ip (-p)=ip (-p)+ip (-q)+ip (-r) by omega]at this
 . have:=core (a:=a) (b:=b) (c:=c) (d:=d) (e:=e) (f:=f) (x1:=y1) (x2:=y2) (x3:=y3) (y1:=x1) (y2:=x2) (y3:=x3) (z1:=z1) (z2:=z2) (z3:=z3) (by grind) (by grind) (by grind) (by grind) (by grind) (by grind) (by grind) h1 h3
   rwa [show ip q+ip p+ip r=ip p+ip q+ip r by omega,show ip (-q)+ip (-p)+ip (-r)=ip (-p)+ip (-q)+ip (-r) by omega]at this
 . have:=core (a:=a) (b:=b) (c:=c) (d:=d) (e:=e) (f:=f) (x1:=z1) (x2:=z2) (x3:=z3) (y1:=x1) (y2:=x2) (y3:=x3) (z1:=y1) (z2:=y2) (z3:=y3) (by grind) (by grind) (by grind) (by grind) (by grind) (by grind) (by grind) h3 h1
   rwa [show ip r+ip p+ip q=ip p+ip q+ip r by omega,show ip (-r)+ip (-p)+ip (-q)=ip (-p)+ip (-q)+ip (-r) by omega]at this
 . have:=core (a:=a) (b:=b) (c:=c) (d:=d) (e:=e) (f:=f) (x1:=x1) (x2:=x2) (x3:=x3) (y1:=z1) (y2:=z2) (y3:=z3) (z1:=y1) (z2:=y2) (z3:=y3) (by grind) (by grind) (by grind) (by grind) (by grind) (by grind) (by grind) h3 h2
   rwa [show ip p+ip r+ip q=ip p+ip q+ip r by omega,show ip (-p)+ip (-r)+ip (-q)=ip (-p)+ip (-q)+ip (-r) by omega]at this
 . exact core ha hb hc hd he hf hD h1 h2
 . exact core ha hb hc hd he hf hD h1 h2
def detm0 {v1 v2 v3 u1 u2 u3 w1 w2 w3:Rat}:(x1*(y2*z3-y3*z2)-x2*(y1*z3-y3*z1)+x3*(y1*z2-y2*z1))*(v1*(u2*w3-u3*w2)-v2*(u1*w3-u3*w1)+v3*(u1*w2-u2*w1))=
 (x1*v1+y1*u1+z1*w1)*((x2*v2+y2*u2+z2*w2)*(x3*v3+y3*u3+z3*w3)-(x2*v3+y2*u3+z2*w3)*(x3*v2+y3*u2+z3*w2))-
 (x2*v1+y2*u1+z2*w1)*((x1*v2+y1*u2+z1*w2)*(x3*v3+y3*u3+z3*w3)-(x1*v3+y1*u3+z1*w3)*(x3*v2+y3*u2+z3*w2))+
 (x3*v1+y3*u1+z3*w1)*((x1*v2+y1*u2+z1*w2)*(x2*v3+y2*u3+z2*w3)-(x1*v3+y1*u3+z1*w3)*(x2*v2+y2*u2+z2*w2)):=by grind
def detm {v1 v2 v3 u1 u2 u3 w1 w2 w3:Rat} (g1:x1*v1+y1*u1+z1*w1=1) (g2:x1*v2+y1*u2+z1*w2=0) (g3:x1*v3+y1*u3+z1*w3=0)
 (g4:x2*v1+y2*u1+z2*w1=0) (g5:x2*v2+y2*u2+z2*w2=1) (g6:x2*v3+y2*u3+z2*w3=0)
 (g7:x3*v1+y3*u1+z3*w1=0) (g8:x3*v2+y3*u2+z3*w2=0) (g9:x3*v3+y3*u3+z3*w3=1):x1*(y2*z3-y3*z2)-x2*(y1*z3-y3*z1)+x3*(y1*z2-y2*z1)≠0:=by
 intro h
 have key:(x1*(y2*z3-y3*z2)-x2*(y1*z3-y3*z1)+x3*(y1*z2-y2*z1))*(v1*(u2*w3-u3*w2)-v2*(u1*w3-u3*w1)+v3*(u1*w2-u2*w1))=
  (x1*v1+y1*u1+z1*w1)*((x2*v2+y2*u2+z2*w2)*(x3*v3+y3*u3+z3*w3)-(x2*v3+y2*u3+z2*w3)*(x3*v2+y3*u2+z3*w2))-
  (x2*v1+y2*u1+z2*w1)*((x1*v2+y1*u2+z1*w2)*(x3*v3+y3*u3+z3*w3)-(x1*v3+y1*u3+z1*w3)*(x3*v2+y3*u2+z3*w2))+
  (x3*v1+y3*u1+z3*w1)*((x1*v2+y1*u2+z1*w2)*(x2*v3+y2*u3+z2*w3)-(x1*v3+y1*u3+z1*w3)*(x2*v2+y2*u2+z2*w2)):=detm0
 rw[h,g1,g2,g3,g4,g5,g6,g7,g8,g9]at key
 grind
end
def Dg.surj {α:Type} [DecidableEq α] {L:List α} (hn:L.Nodup) {A V:α->α->Rat} {b:α->Rat} (hd:Dg L A V b) (x:α->Rat): ∃y,∀j∈L,lin L V y j=x j:=by
 obtain⟨y,⟨i,hi,hy⟩,h⟩:=hom (β:=α) L (none::L.map some) (λj o=>match o with|none=> -x j|some i=>V i j)
  (by rw[zA1];exact⟨by simp,List.Pairwise.map _ (λa b h e=>h (zt3 e)) hn⟩) (by simp)
 have h': ∀j∈L,lin L V (λi=>y (some i)) j=x j*y none:=by
  intro j hj;have:=h j hj;rw[Qd,qqm]at this;have e:sm L (λi=>V i j*y (some i))=lin L V (λi=>y (some i)) j:=Qa λi _=>zk3 _ _
  dsimp only at this;rw[e]at this;grind
 by_cases c:y none=0
 . exfalso;have h0:=hd.ind (λi=>y (some i)) λj hj=>by rw[h' j hj,c];grind
   rcases mC hi with rfl|hi
   . exact hy c
   . obtain⟨k,hk,rfl⟩:=zk.1 hi;exact hy (h0 k hk)
 . refine⟨λi=>(1/y none)*y (some i),λj hj=> ?_⟩
   have e:lin L V (λi=>(1/y none)*y (some i)) j=(1/y none)*lin L V (λi=>y (some i)) j:=by
    unfold lin;rw[<-Zy];exact Qa λi _=>by rw[Rat.mul_assoc]
   rw[e,h' j hj];grind
def Yc {α:Type} {i:α} {L:List α} {b:α->Rat}:npos (i::L) b=ip (b i)+npos L b:=by
 unfold npos ip;rw[zV3];by_cases c:0<b i
 . rw[iP (decide_eq_true c),iP c,zw1];omega
 . rw[iN' (by rw[decide_eq_true_eq];exact c),iN' c];omega
def gA (n:Nat) (A:Nat->Nat->Rat) (i j:Nat):Rat:=if i<n/\j<n then A i j else 0
def Sg_Dg {n:Nat} (hn:n<=3) {A V:Nat->Nat->Rat} (hs: ∀i j,i<n->j<n->A i j=A j i) {b:Nat->Rat} (hd:Dg (List.range n) A V b):
 Sg (npos (List.range n) b) (npos (List.range n) (λi=> -b i)) (gA n A 0 0+gA n A 1 1+gA n A 2 2) (e2 (gA n A 0 0) (gA n A 1 1) (gA n A 2 2) (gA n A 0 1) (gA n A 0 2) (gA n A 1 2)) (e3 (gA n A 0 0) (gA n A 1 1) (gA n A 2 2) (gA n A 0 1) (gA n A 0 2) (gA n A 1 2)):=by
 have hY:=λj=>hd.surj List.nodup_range (λk=>if k=j then 1 else 0)
 obtain⟨Y,hY⟩: ∃Y:Nat->Nat->Rat,∀j,∀k∈List.range n,lin (List.range n) V (Y j) k=if k=j then 1 else 0:=⟨λj=>Classical.choose (hY j),λj=>Classical.choose_spec (hY j)⟩
 have form:=λy=>hd.form y
 have hq: ∀x:Nat->Rat,qf (List.range n) A x=sm (List.range n) (λk=>b k*(sm (List.range n) (λj=>x j*Y j k)*sm (List.range n) (λj=>x j*Y j k))):=by
  intro x;rw[<-form];refine(q3o (λk hk=> ?_) λ_ _ _ _=>rfl).symm
  unfold lin
  have e1:sm (List.range n) (λi=>sm (List.range n) (λj=>x j*Y j i)*V i k)=sm (List.range n) (λj=>x j*lin (List.range n) V (Y j) k):=by
   rw[show(λi=>sm (List.range n) (λj=>x j*Y j i)*V i k)=λi=>sm (List.range n) (λj=>x j*Y j i*V i k) by funext i;exact(qkd _).symm,qkz]
   refine Qa λj _=> ?_
   unfold lin;rw[<-Zy];exact Qa λi _=>by rw[Rat.mul_assoc]
  rw[e1,Qa λj _=>by rw[hY j k hk],<-qbn List.nodup_range hk (f:=x)]
  exact Qa λj _=>by by_cases c:k=j<;>simp[c,eq_comm]
 match n,hn with
 |0,_=>exact .c00 (by unfold gA;simp;grind) (by unfold gA e2;simp;grind) (by unfold gA e3;simp;grind)
 |1,_=>
  have hx: ∀x0:Rat,x0*A 0 0*x0+0+0=b 0*((x0*Y 0 0+0)*(x0*Y 0 0+0))+0:=λx0=>hq λ_=>x0
  have v0:Y 0 0*V 0 0+0=1:=hY 0 0 (by decide)
  have h1:=hx 1;have g0:gA 1 A 0 0=A 0 0:=iP (by decide)
  have g1:gA 1 A 1 1=0:=iN' (by decide)
  have g2:gA 1 A 2 2=0:=iN' (by decide)
  have g3:gA 1 A 0 1=0:=iN' (by decide)
  have g4:gA 1 A 0 2=0:=iN' (by decide)
  have g5:gA 1 A 1 2=0:=iN' (by decide)
  have:=sgT (a:=A 0 0) (b:=0) (c:=0) (d:=0) (e:=0) (f:=0) (p:=b 0) (q:=0) (r:=0) (x1:=Y 0 0) (x2:=0) (x3:=0) (y1:=0) (y2:=1) (y3:=0) (z1:=0) (z2:=0) (z3:=1)
   (by grind) (by grind) (by grind) (by grind) (by grind) (by grind)
   (detm (v1:=V 0 0) (v2:=0) (v3:=0) (u1:=0) (u2:=1) (u3:=0) (w1:=0) (w2:=0) (w3:=1) (by grind) (by grind) (by grind) (by grind) (by grind) (by grind) (by grind) (by grind) (by grind))
  rw[g0,g1,g2,g3,g4,g5,show List.range 1=[0]from rfl,Yc,Yc]
  rw[ip0.1,ip0.2]at this;exact this
 |2,_=>
  have hx: ∀x0 x1:Rat,x0*A 0 0*x0+(x0*A 0 1*x1+0)+(x1*A 1 0*x0+(x1*A 1 1*x1+0)+0)=b 0*((x0*Y 0 0+(x1*Y 1 0+0))*(x0*Y 0 0+(x1*Y 1 0+0)))+(b 1*((x0*Y 0 1+(x1*Y 1 1+0))*(x0*Y 0 1+(x1*Y 1 1+0)))+0):=λx0 x1=>hq λi=>match i with|0=>x0|_=>x1
  have v00:Y 0 0*V 0 0+(Y 0 1*V 1 0+0)=1:=hY 0 0 (by decide)
  have v01:Y 0 0*V 0 1+(Y 0 1*V 1 1+0)=0:=hY 0 1 (by decide)
  have v10:Y 1 0*V 0 0+(Y 1 1*V 1 0+0)=0:=hY 1 0 (by decide)
  have v11:Y 1 0*V 0 1+(Y 1 1*V 1 1+0)=1:=hY 1 1 (by decide)
  have s1:=hs 0 1 (by decide) (by decide)
  have h1:=hx 1 0;have h2:=hx 0 1;have h3:=hx 1 1;have g0:gA 2 A 0 0=A 0 0:=iP (by decide)
  have g1:gA 2 A 1 1=A 1 1:=iP (by decide)
  have g2:gA 2 A 2 2=0:=iN' (by decide)
  have g3:gA 2 A 0 1=A 0 1:=iP (by decide)
  have g4:gA 2 A 0 2=0:=iN' (by decide)
  have g5:gA 2 A 1 2=0:=iN' (by decide)
  have:=sgT (a:=A 0 0) (b:=A 1 1) (c:=0) (d:=A 0 1) (e:=0) (f:=0) (p:=b 0) (q:=b 1) (r:=0) (x1:=Y 0 0) (x2:=Y 1 0) (x3:=0) (y1:=Y 0 1) (y2:=Y 1 1) (y3:=0) (z1:=0) (z2:=0) (z3:=1)
   (by grind) (by grind) (by grind) (by grind) (by grind) (by grind)
   (detm (v1:=V 0 0) (v2:=V 0 1) (v3:=0) (u1:=V 1 0) (u2:=V 1 1) (u3:=0) (w1:=0) (w2:=0) (w3:=1) (by grind) (by grind) (by grind) (by grind) (by grind) (by grind) (by grind) (by grind) (by grind))
  rw[g0,g1,g2,g3,g4,g5,show List.range 2=[0,1]from rfl,Yc,Yc,Yc,Yc]
  rw[ip0.1,ip0.2]at this;exact this
 |3,_=>
  have hx: ∀x0 x1 x2:Rat,x0*A 0 0*x0+(x0*A 0 1*x1+(x0*A 0 2*x2+0))+(x1*A 1 0*x0+(x1*A 1 1*x1+(x1*A 1 2*x2+0))+(x2*A 2 0*x0+(x2*A 2 1*x1+(x2*A 2 2*x2+0))+0))=
   b 0*((x0*Y 0 0+(x1*Y 1 0+(x2*Y 2 0+0)))*(x0*Y 0 0+(x1*Y 1 0+(x2*Y 2 0+0))))+(b 1*((x0*Y 0 1+(x1*Y 1 1+(x2*Y 2 1+0)))*(x0*Y 0 1+(x1*Y 1 1+(x2*Y 2 1+0))))+(b 2*((x0*Y 0 2+(x1*Y 1 2+(x2*Y 2 2+0)))*(x0*Y 0 2+(x1*Y 1 2+(x2*Y 2 2+0))))+0)):=
   λx0 x1 x2=>hq λi=>match i with|0=>x0|1=>x1|_=>x2
  have v: ∀j k,k<3->Y j 0*V 0 k+(Y j 1*V 1 k+(Y j 2*V 2 k+0))=if k=j then 1 else 0:=λj k hk=>hY j k (zJ2.2 hk)
  have v00:=v 0 0 (by decide)
  have v01:=v 0 1 (by decide)
  have v02:=v 0 2 (by decide)
  have v10:=v 1 0 (by decide)
  have v11:=v 1 1 (by decide)
  have v12:=v 1 2 (by decide)
  have v20:=v 2 0 (by decide)
  have v21:=v 2 1 (by decide)
  have v22:=v 2 2 (by decide)
  have s1:=hs 0 1 (by decide) (by decide)
  have s2:=hs 0 2 (by decide) (by decide)
  have s3:=hs 1 2 (by decide) (by decide)
  have h1:=hx 1 0 0;have h2:=hx 0 1 0;have h3:=hx 0 0 1;have h4:=hx 1 1 0;have h5:=hx 1 0 1;have h6:=hx 0 1 1;have g0:gA 3 A 0 0=A 0 0:=iP (by decide)
  have g1:gA 3 A 1 1=A 1 1:=iP (by decide)
  have g2:gA 3 A 2 2=A 2 2:=iP (by decide)
  have g3:gA 3 A 0 1=A 0 1:=iP (by decide)
  have g4:gA 3 A 0 2=A 0 2:=iP (by decide)
  have g5:gA 3 A 1 2=A 1 2:=iP (by decide)
  clear hx hq v form hY
  have:=sgT (a:=A 0 0) (b:=A 1 1) (c:=A 2 2) (d:=A 0 1) (e:=A 0 2) (f:=A 1 2) (p:=b 0) (q:=b 1) (r:=b 2) (x1:=Y 0 0) (x2:=Y 1 0) (x3:=Y 2 0) (y1:=Y 0 1) (y2:=Y 1 1) (y3:=Y 2 1) (z1:=Y 0 2) (z2:=Y 1 2) (z3:=Y 2 2)
   (by grind) (by grind) (by grind) (by grind) (by grind) (by grind)
   (detm (v1:=V 0 0) (v2:=V 0 1) (v3:=V 0 2) (u1:=V 1 0) (u2:=V 1 1) (u3:=V 1 2) (w1:=V 2 0) (w2:=V 2 1) (w3:=V 2 2) (by grind) (by grind) (by grind) (by grind) (by grind) (by grind) (by grind) (by grind) (by grind))
  rw[g0,g1,g2,g3,g4,g5,show List.range 3=[0,1,2]from rfl,Yc,Yc,Yc,Yc,Yc,Yc]
  have e1:npos ([]:List Nat) b=0:=rfl;have e2:npos ([]:List Nat) (λi=> -b i)=0:=rfl
  rw[e1,e2,zL,zL,<-Nat.add_assoc,<-Nat.add_assoc];exact this
end Go.Vs.F
