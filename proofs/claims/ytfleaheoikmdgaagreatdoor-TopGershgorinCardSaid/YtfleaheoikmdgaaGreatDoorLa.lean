import Derived.Test.YtfleaheoikmdgaaGreatDoorVc
import Derived.Test.YtfleaheoikmdgaaGreatDoorFn
set_option linter.unusedVariables false
set_option linter.unusedSimpArgs false
set_option linter.unusedSectionVars false
set_option linter.defProp false
namespace Go.Vs.F
def sm {α:Type}:List α->(α->Rat)->Rat
 |[],_=>0
 |i::L,f=>f i+sm L f
variable {α β:Type}
@[simp] def sm_nil {f:α->Rat}:sm [] f=0:=rfl
def qw {i:α} {L:List α} {f:α->Rat}:sm (i::L) f=f i+sm L f:=rfl
def qm {L:List α} {f g:α->Rat} (h: ∀i∈L,f i=g i):sm L f=sm L g:=by
 induction L with
 |nil=>rfl
 |cons i L ih=>rw[qw,qw,h i mS,ih λj hj=>h j (mT hj)]
def qch {L:List α} {f g:α->Rat}:sm L (λi=>f i+g i)=sm L f+sm L g:=by
 induction L with
 |nil=>simp only[sm_nil];grind
 |cons i L ih=>rw[qw,qw,qw,ih];grind
def Yz {L:List α} {f:α->Rat} (c:Rat):sm L (λi=>c*f i)=c*sm L f:=by
 induction L with
 |nil=>simp only[sm_nil];grind
 |cons i L ih=>rw[qw,qw,ih];grind
def qf3 {L:List α} {f:α->Rat} (c:Rat):sm L (λi=>f i*c)=sm L f*c:=by
 rw[zZ3,<-Yz];exact qm λi _=>zZ3 _ _
def q8s {L:List α} {f:α->Rat}:sm L (λi=> -f i)= -sm L f:=by
 induction L with
 |nil=>simp only[sm_nil];grind
 |cons i L ih=>rw[qw,qw,ih];grind
def sm_sb {L:List α} {f g:α->Rat}:sm L (λi=>f i-g i)=sm L f-sm L g:=by
 induction L with
 |nil=>simp only[sm_nil];grind
 |cons i L ih=>rw[qw,qw,qw,ih];grind
def qah {L:List α}:sm L (λ_=>(0:Rat))=0:=by
 induction L with
 |nil=>rfl
 |cons i L ih=>rw[qw,ih];grind
def Y9 {L:List α} {f:α->Rat} (h: ∀i∈L,f i=0):sm L f=0:=(qm h).trans qah
def qdv {L:List α} {M:List β} {f:α->β->Rat}:sm L (λi=>sm M (λj=>f i j))=sm M (λj=>sm L (λi=>f i j)):=by
 induction L with
 |nil=>simp only[sm_nil];rw[qah]
 |cons i L ih=>rw[qw,ih,<-qch];rfl
def sm_le {L:List α} {f g:α->Rat} (h: ∀i∈L,f i<=g i):sm L f<=sm L g:=by
 induction L with
 |nil=>simp only[sm_nil];grind
 |cons i L ih=>
  have h1:=h i mS;have h2:=ih λj hj=>h j (mT hj)
  rw[qw,qw];grind
def qlz {L:List α} {f:α->Rat} (h: ∀i∈L,0<=f i):0<=sm L f:=by
 have:=sm_le (L:=L) (f:=λ_=>0) (g:=f) h
 rwa [qah]at this
def le_sm {L:List α} {f:α->Rat} (h: ∀i∈L,0<=f i) {i:α} (hi:i∈L):f i<=sm L f:=by
 induction L with
 |nil=>cases hi
 |cons j L ih=>
  have h1:=h j mS;have h2: ∀k∈L,0<=f k:=λk hk=>h k (mT hk)
  have h3:=qlz h2;rw[qw];rcases mC hi with rfl|hi
  . grind
  . have:=ih h2 hi;grind
def q6i {L M:List α} {f:α->Rat} (h:L.Perm M):sm L f=sm M f:=by
 induction h with
 |nil=>rfl
 |cons x _ ih=>rw[qw,qw,ih]
 |swap x y l=>simp only[qw];grind
 |trans _ _ ih1 ih2=>exact ih1.trans ih2
def qny {L M:List α} {f:α->Rat}:sm (L++M) f=sm L f+sm M f:=by
 induction L with
 |nil=>rw[zT2,sm_nil];grind
 |cons i L ih=>rw[zB2,qw,qw,ih];grind
def qle {L:List α} {g:α->β} {f:β->Rat}:sm (L.map g) f=sm L (λi=>f (g i)):=by
 induction L with
 |nil=>rfl
 |cons i L ih=>rw[zX1,qw,qw,ih]
def qj6 {L:List α} {p:α->Bool} {f:α->Rat}:sm (L.filter p) f=sm L (λi=>if p i then f i else 0):=by
 induction L with
 |nil=>rfl
 |cons i L ih=>
  rw[zr1,qw,<-ih];by_cases h:p i=true
  . rw[iP h,iP h,qw]
  . rw[iN' h,iN' h];grind
def qr0 {L:List α} (hn:L.Nodup) {i:α} (hi:i∈L) {f:α->Rat} (h: ∀j∈L,j≠i->f j=0):sm L f=f i:=by
 induction L with
 |nil=>cases hi
 |cons j L ih=>
  rw[zU]at hn;rw[qw];rcases mC hi with rfl|hi
  . rw[Y9 λk hk=>h k (mT hk) (λe=>hn.1 (e▸hk))];grind
  . rw[h j mS (λe=>hn.1 (e▸hi)),ih hn.2 hi λk hk=>h k (mT hk)];grind
def qq6 {L:List α} {M:List β} {f:α->Rat} {g:β->Rat}:sm L f*sm M g=sm L (λi=>sm M (λj=>f i*g j)):=by
 rw[<-qf3];exact qm λi _=>(Yz _).symm
def sq_nonneg (x:Rat):0<=x*x:=by
 rcases zg3 (a:=0) (b:=x)with h|h
 . exact zb1 h h
 . have:=zb1 (a:= -x) (b:= -x) (by grind) (by grind);grind
def sq_pos {x:Rat} (h:x≠0):0<x*x:=by
 have:=sq_nonneg x;by_cases c:x*x=0
 . rcases zU3.1 c with h'|h'<;>exact absurd h' h
 . grind
def hom [DecidableEq α]: ∀(R:List β) (U:List α) (C:β->α->Rat),U.Nodup->R.length<U.length-> ∃y:α->Rat,(∃i∈U,y i≠0)/\ ∀r∈R,sm U (λi=>C r i*y i)=0:=by
 intro R;induction R with
 |nil=>
  intro U C hn h;cases U with
  |nil=>simp at h
  |cons i U=>exact⟨λ_=>1,⟨i,mS,by grind⟩,λr hr=>by cases hr⟩
 |cons r R ih=>
  intro U C hn h;by_cases hz: ∀i∈U,C r i=0
  . obtain⟨y,h1,h2⟩:=ih U C hn (by simp at h;omega)
    refine⟨y,h1,λs hs=> ?_⟩
    rcases mC hs with rfl|hs
    . exact Y9 λi hi=>by rw[hz i hi];grind
    . exact h2 s hs
  . simp only[Classical.not_forall]at hz;obtain⟨p,hp,hc⟩:=hz;have hP:U.Perm (p::U.erase p):=List.perm_cons_erase hp;have hn':(p::U.erase p).Nodup:=hP.nodup_iff.1 hn;rw[zU]at hn';obtain⟨y,⟨i,hi,hy⟩,h2⟩:=ih (U.erase p) (λs i=>C s i-C s p*C r i/C r p) hn'.2 (by rw[List.length_erase_of_mem hp];simp at h;omega)
    let v:= -sm (U.erase p) (λi=>C r i*y i)/C r p
    have hne: ∀j∈U.erase p,j≠p:=λj hj e=>hn'.1 (e▸hj)
    have hs: ∀s:β,sm U (λi=>C s i*(if i=p then v else y i))=C s p*v+sm (U.erase p) (λi=>C s i*y i):=by
     intro s;rw[q6i hP,qw,iP rfl];congr 1;exact qm λj hj=>by rw[iN' (hne j hj)]
    refine⟨λi=>if i=p then v else y i,⟨i,hP.mem_iff.2 (mT hi),by show(if i=p then v else y i)≠0;rw[iN' (hne i hi)];exact hy⟩,λs hs'=> ?_⟩
    rw[hs s];rcases mC hs' with rfl|hs'
    . show C s p*(-sm (U.erase p) (λi=>C s i*y i)/C s p)+_=0
      have:C s p*(-sm (U.erase p) (λi=>C s i*y i)/C s p)= -sm (U.erase p) (λi=>C s i*y i):=by grind
      rw[this];grind
    . have h3:=h2 s hs'
      have e:sm (U.erase p) (λi=>(C s i-C s p*C r i/C r p)*y i)=sm (U.erase p) (λi=>C s i*y i)-C s p/C r p*sm (U.erase p) (λi=>C r i*y i):=by
       rw[<-Yz,<-sm_sb];exact qm λi _=>by grind
      rw[e]at h3;show C s p*(-sm (U.erase p) (λi=>C r i*y i)/C r p)+_=0
      grind
end Go.Vs.F
namespace Go.Vs.F
variable {α:Type} [DecidableEq α]
def qbo {L:List α} (hn:L.Nodup) {i:α} (hi:i∈L) {f:α->Rat}:sm L (λl=>f l*(if l=i then 1 else 0))=f i:=by
 rw[qr0 hn hi]
 . rw[iP rfl];grind
 . intro j _ hj;rw[iN' hj];grind
def lin (K:List α) (V:α->α->Rat) (y:α->Rat) (j:α):Rat:=sm K (λi=>y i*V i j)
def qf (L:List α) (A:α->α->Rat) (x:α->Rat):Rat:=sm L (λi=>sm L (λj=>x i*A i j*x j))
structure Dg (L:List α) (A V:α->α->Rat) (b:α->Rat):Prop where
 form: ∀y,qf L A (lin L V y)=sm L (λi=>b i*(y i*y i))
 ind: ∀y,(∀j∈L,lin L V y j=0)-> ∀i∈L,y i=0
def q0x {L:List α} {A B:α->α->Rat} {x z:α->Rat} (h: ∀i∈L,x i=z i) (hA: ∀i∈L,∀j∈L,A i j=B i j):qf L A x=qf L B z:=
 qm λi hi=>qm λj hj=>by rw[h i hi,h j hj,hA i hi j hj]
def qp3 {L M:List α} (h:L.Perm M) {A:α->α->Rat} {x:α->Rat}:qf L A x=qf M A x:=by
 unfold qf;rw[q6i h];exact qm λi _=>q6i h
def qgh {L M:List α} (h:L.Perm M) {V:α->α->Rat} {y:α->Rat} {j:α}:lin L V y j=lin M V y j:=q6i h
def Dg.perm {L M:List α} (h:L.Perm M) {A V:α->α->Rat} {b:α->Rat} (hd:Dg L A V b):Dg M A V b:=by
 refine⟨λy=> ?_,λy hy i hi=> ?_⟩
 . rw[<-q6i h,<-hd.form y,qp3 h];exact q0x (λi _=>(qgh h).symm) (λ_ _ _ _=>rfl)
 . exact hd.ind y (λj hj=>(qgh h).trans (hy j (h.mem_iff.1 hj))) i (h.mem_iff.2 hi)
def Dg.congr {L:List α} {A B V:α->α->Rat} {b:α->Rat} (h: ∀i∈L,∀j∈L,A i j=B i j) (hd:Dg L A V b):Dg L B V b:=
 ⟨λy=>by rw[<-hd.form y];exact(q0x (λ_ _=>rfl) h).symm,hd.ind⟩
def qk3 {L:List α} (hn:L.Nodup) {A:α->α->Rat} (h: ∀i∈L,∀j∈L,A i j=0):Dg L A (λi j=>if i=j then 1 else 0) (λ_=>0):=by
 have hl: ∀(y:α->Rat) j,j∈L->lin L (λi j=>if i=j then 1 else 0) y j=y j:=λy j hj=>qbo hn hj
 refine⟨λy=> ?_,λy hy i hi=>by rw[<-hl y i hi];exact hy i hi⟩
 rw[Y9 (λi _=>by grind)]
 exact Y9 λi hi=>Y9 λj hj=>by rw[h i hi j hj];grind
def qds {p:α} {R:List α} {A:α->α->Rat} (hs: ∀i∈p::R,∀j∈p::R,A i j=A j i) {x:α->Rat}:
 qf (p::R) A x=A p p*(x p*x p)+2*x p*sm R (λk=>A p k*x k)+qf R A x:=by
 unfold qf;rw[qw,qw]
 have e1:sm R (λj=>x p*A p j*x j)=x p*sm R (λk=>A p k*x k):=by
  rw[<-Yz];exact qm λj _=>by grind
 have e2:sm R (λi=>sm (p::R) (λj=>x i*A i j*x j))=x p*sm R (λk=>A p k*x k)+sm R (λi=>sm R (λj=>x i*A i j*x j)):=by
  rw[<-Yz,<-qch];refine qm λi hi=> ?_
  rw[qw,hs i (mT hi) p mS];grind
 rw[e1,e2];grind
def q9m {R:List α} {A B:α->α->Rat} {u w:α->Rat} {c:Rat} (h: ∀i∈R,∀j∈R,B i j=A i j-c*(u i*w j)) {x:α->Rat}:
 qf R B x=qf R A x-c*(sm R (λk=>u k*x k)*sm R (λk=>w k*x k)):=by
 rw[qq6,<-Yz];unfold qf;rw[<-sm_sb];refine qm λi hi=> ?_
 rw[<-Yz,<-sm_sb];refine qm λj hj=> ?_
 rw[h i hi j hj];grind
def q0i (p:α) (R:List α) (A W:α->α->Rat):α->α->Rat:=λi j=>
 if i=p then(if j=p then 1 else 0)else if j=p then-sm R (λk=>A p k*W i k)/A p p else W i j
def q98 {R:List α} {W:α->α->Rat} {c y:α->Rat} {b:Rat}:sm R (λi=>y i*(-sm R (λk=>c k*W i k)/b))= -sm R (λk=>c k*lin R W y k)/b:=by
 have e:sm R (λk=>c k*lin R W y k)=sm R (λi=>y i*sm R (λk=>c k*W i k)):=by
  have:sm R (λk=>c k*lin R W y k)=sm R (λk=>sm R (λi=>y i*(c k*W i k))):=by
   refine qm λk _=> ?_
   unfold lin;rw[<-Yz];exact qm λi _=>by grind
  rw[this,qdv];exact qm λi _=>Yz _
 have e2: -sm R (λk=>c k*lin R W y k)/b=(-1/b)*sm R (λk=>c k*lin R W y k):=by grind
 rw[e2,e,<-Yz];exact qm λi _=>by grind
def qn7 {p:α} {R:List α} (hn:(p::R).Nodup) {A B W:α->α->Rat} {g:α->Rat} (hs: ∀i∈p::R,∀j∈p::R,A i j=A j i) (hb:A p p≠0)
 (hB: ∀i∈R,∀j∈R,B i j=A i j-A i p*A p j/A p p) (hd:Dg R B W g):Dg (p::R) A (q0i p R A W) (λi=>if i=p then A p p else g i):=by
 rw[zU]at hn;have hne: ∀l∈R,l≠p:=λl hl e=>hn.1 (e▸hl)
 have hx: ∀(y:α->Rat) j,j∈R->lin (p::R) (q0i p R A W) y j=lin R W y j:=by
  intro y j hj;unfold lin;rw[qw];have:q0i p R A W p j=0:=by unfold q0i;rw[iP rfl,iN' (hne j hj)]
  rw[this,qm (g:=λi=>y i*W i j) λi hi=>by unfold q0i;rw[iN' (hne i hi),iN' (hne j hj)]]
  grind
 have hp: ∀y:α->Rat,lin (p::R) (q0i p R A W) y p=y p-sm R (λk=>A p k*lin R W y k)/A p p:=by
  intro y;unfold lin;rw[qw];have:q0i p R A W p p=1:=by unfold q0i;rw[iP rfl,iP rfl]
  rw[this,qm (g:=λi=>y i*(-sm R (λk=>A p k*W i k)/A p p)) λi hi=>by unfold q0i;rw[iN' (hne i hi),iP rfl],q98]
  unfold lin
  grind
 refine⟨λy=> ?_,λy hy=> ?_⟩
 . have es:sm R (λk=>A p k*lin (p::R) (q0i p R A W) y k)=sm R (λk=>A p k*lin R W y k):=qm λk hk=>by rw[hx y k hk]
   rw[qds hs,hp y,es];have e1:qf R A (lin (p::R) (q0i p R A W) y)=qf R A (lin R W y):=q0x (λi hi=>hx y i hi) (λ_ _ _ _=>rfl)
   have e2:=q9m (R:=R) (A:=A) (B:=B) (u:=λk=>A p k) (w:=λk=>A p k) (c:=1/A p p) (x:=lin R W y) (λi hi j hj=>by
    rw[hB i hi j hj,hs i (mT hi) p mS];grind)
   rw[hd.form y]at e2;rw[qw,iP rfl,e1];have e3:sm R (λi=>(if i=p then A p p else g i)*(y i*y i))=sm R (λi=>g i*(y i*y i)):=qm λi hi=>by rw[iN' (hne i hi)]
   rw[e3,e2];clear e1 e2 e3 es hp hx hs hB hd;generalize sm R (λk=>A p k*lin R W y k)=s
   generalize qf R A (lin R W y)=t
   grind
 . have h0: ∀j∈R,lin R W y j=0:=λj hj=>(hx y j hj).symm.trans (hy j (mT hj))
   have h1:=hd.ind y h0;have h2:=hy p mS;rw[hp y,Y9 (λk hk=>by rw[h0 k hk];grind)]at h2
   intro i hi;rcases mC hi with rfl|hi
   . grind
   . exact h1 i hi
def Xt (p q:α) (R:List α) (A W:α->α->Rat):α->α->Rat:=λi j=>
 if i=p then(if j=p then 1 else if j=q then 1 else 0)else if i=q then(if j=p then 1 else if j=q then-1 else 0)
 else if j=p then-sm R (λk=>A q k*W i k)/A p q else if j=q then-sm R (λk=>A p k*W i k)/A p q else W i j
def qma {p q:α} {R:List α} (hn:(p::q::R).Nodup) {A B W:α->α->Rat} {g:α->Rat} (hs: ∀i∈p::q::R,∀j∈p::q::R,A i j=A j i) (hp0:A p p=0) (hq0:A q q=0) (hb:A p q≠0)
 (hB: ∀i∈R,∀j∈R,B i j=A i j-A i p*A q j/A p q-A i q*A p j/A p q) (hd:Dg R B W g):
 Dg (p::q::R) A (Xt p q R A W) (λi=>if i=p then 2*A p q else if i=q then-(2*A p q)else g i):=by
 rw[zU,zU]at hn;obtain⟨hn1,hn2,hn3⟩:=hn;have hpq:q≠p:=λe=>hn1 (e▸mS)
 have hnp: ∀l∈R,l≠p:=λl hl e=>hn1 (mT (e▸hl))
 have hnq: ∀l∈R,l≠q:=λl hl e=>hn2 (e▸hl)
 have hx: ∀(y:α->Rat) j,j∈R->lin (p::q::R) (Xt p q R A W) y j=lin R W y j:=by
  intro y j hj;unfold lin;rw[qw,qw];have e1:Xt p q R A W p j=0:=by unfold Xt;rw[iP rfl,iN' (hnp j hj),iN' (hnq j hj)]
  have e2:Xt p q R A W q j=0:=by unfold Xt;rw[iN' hpq,iP rfl,iN' (hnp j hj),iN' (hnq j hj)]
  rw[e1,e2,qm (g:=λi=>y i*W i j) λi hi=>by unfold Xt;rw[iN' (hnp i hi),iN' (hnq i hi),iN' (hnp j hj),iN' (hnq j hj)]]
  grind
 have hp: ∀y:α->Rat,lin (p::q::R) (Xt p q R A W) y p=y p+y q-sm R (λk=>A q k*lin R W y k)/A p q:=by
  intro y;unfold lin;rw[qw,qw];have e1:Xt p q R A W p p=1:=by unfold Xt;rw[iP rfl,iP rfl]
  have e2:Xt p q R A W q p=1:=by unfold Xt;rw[iN' hpq,iP rfl,iP rfl]
  rw[e1,e2,qm (g:=λi=>y i*(-sm R (λk=>A q k*W i k)/A p q)) λi hi=>by unfold Xt;rw[iN' (hnp i hi),iN' (hnq i hi),iP rfl],q98]
  unfold lin
  grind
 have hq: ∀y:α->Rat,lin (p::q::R) (Xt p q R A W) y q=y p-y q-sm R (λk=>A p k*lin R W y k)/A p q:=by
  intro y;unfold lin;rw[qw,qw];have e1:Xt p q R A W p q=1:=by unfold Xt;rw[iP rfl,iN' hpq,iP rfl]
  have e2:Xt p q R A W q q= -1:=by unfold Xt;rw[iN' hpq,iP rfl,iN' hpq,iP rfl]
  rw[e1,e2,qm (g:=λi=>y i*(-sm R (λk=>A p k*W i k)/A p q)) λi hi=>by unfold Xt;rw[iN' (hnp i hi),iN' (hnq i hi),iN' hpq,iP rfl],q98]
  unfold lin
  grind
 have hsp:=hs p mS q (mT mS);refine⟨λy=> ?_,λy hy=> ?_⟩
 . have es: ∀r,sm R (λk=>A r k*lin (p::q::R) (Xt p q R A W) y k)=sm R (λk=>A r k*lin R W y k):=λr=>qm λk hk=>by rw[hx y k hk]
   rw[qds hs,qds (λi hi j hj=>hs i (mT hi) j (mT hj)),qw,hp y,hq y,hp0,hq0,es p,es q]
   have e1:qf R A (lin (p::q::R) (Xt p q R A W) y)=qf R A (lin R W y):=q0x (λi hi=>hx y i hi) (λ_ _ _ _=>rfl)
   have e2:=q9m (R:=R) (A:=λi j=>A i j-(1/A p q)*(A p i*A q j)) (B:=B) (u:=λk=>A q k) (w:=λk=>A p k) (c:=1/A p q) (x:=lin R W y) (λi hi j hj=>by
    rw[hB i hi j hj,hs i (mT (mT hi)) p mS,hs i (mT (mT hi)) q (mT mS)];grind)
   have e3:=q9m (R:=R) (A:=A) (B:=λi j=>A i j-(1/A p q)*(A p i*A q j)) (u:=λk=>A p k) (w:=λk=>A q k) (c:=1/A p q) (x:=lin R W y) (λi hi j hj=>rfl)
   rw[hd.form y,e3]at e2;rw[qw,qw,iP rfl,iN' hpq,iP rfl,e1];have e4:sm R (λi=>(if i=p then 2*A p q else if i=q then-(2*A p q)else g i)*(y i*y i))=sm R (λi=>g i*(y i*y i)):=qm λi hi=>by rw[iN' (hnp i hi),iN' (hnq i hi)]
   rw[e4,e2];clear e1 e2 e3 e4 es hp hq hx hs hB hd;generalize sm R (λk=>A p k*lin R W y k)=s
   generalize sm R (λk=>A q k*lin R W y k)=r
   generalize qf R A (lin R W y)=t
   grind
 . have h0: ∀j∈R,lin R W y j=0:=λj hj=>(hx y j hj).symm.trans (hy j (mT (mT hj)))
   have h1:=hd.ind y h0;have h2:=hy p mS;have h3:=hy q (mT mS);rw[hp y,Y9 (λk hk=>by rw[h0 k hk];grind)]at h2
   rw[hq y,Y9 (λk hk=>by rw[h0 k hk];grind)]at h3
   intro i hi;rcases mC hi with rfl|hi
   . grind
   . rcases mC hi with rfl|hi
     . grind
     . exact h1 i hi
def npos (L:List α) (b:α->Rat):Nat:=(L.filter λi=>decide (0<b i)).length
def qbn {L:List α} {p q:α->Bool} (h: ∀i∈L,q i= !p i):(L.filter p).length+(L.filter q).length=L.length:=by
 induction L with
 |nil=>rfl
 |cons i L ih=>
  have h0:=h i mS;have h1:=ih λj hj=>h j (mT hj)
  rw[zr1,zr1,h0];cases p i<;>simp<;>omega
def sm_if {L:List α} {p:α->Bool} {f:α->Rat} {y:α->Rat}:sm (L.filter p) (λi=>f i*y i)=sm L (λi=>f i*(if p i then y i else 0)):=by
 rw[qj6];exact qm λi _=>by split<;>grind
def qkx {L:List α} (hn:L.Nodup) {A B V W:α->α->Rat} {b c:α->Rat} (hA:Dg L A V b) (hB:Dg L B W c) (h: ∀x,qf L A x<=qf L B x):npos L b<=npos L c:=by
 refine zC2 λhlt=> ?_
 let P:α->Bool:=λi=>decide (0<b i)
 let Q:α->Bool:=λi=>decide (¬0<c i)
 have hsplit:npos L c+(L.filter Q).length=L.length:=qbn (p:=λi=>decide (0<c i)) λi _=>by show decide _=_;simp
 let U:List (α⊕α):=(L.filter P).map Sum.inl++(L.filter Q).map Sum.inr
 have hU:U.Nodup:=by
  rw[zG];refine⟨List.Pairwise.map Sum.inl (λa b h h'=>h (Sum.inl.inj h')) (hn.filter _),List.Pairwise.map Sum.inr (λa b h h'=>h (Sum.inr.inj h')) (hn.filter _),?_⟩
  intro a ha b hb;obtain⟨x,_,rfl⟩:=zM.1 ha;obtain⟨z,_,rfl⟩:=zM.1 hb;intro h;cases h
 obtain⟨y,⟨u,hu,hy⟩,hz⟩:=hom L U (λr u=>match u with| .inl i=>V i r| .inr i=> -W i r) hU (by
  rw[zO,zh1,zh1];have:npos L b=(L.filter P).length:=rfl;omega)
 let y1:α->Rat:=λi=>if P i then y (.inl i)else 0
 let y2:α->Rat:=λi=>if Q i then y (.inr i)else 0
 have e1: ∀r∈L,lin L V y1 r=lin L W y2 r:=by
  intro r hr;have h0:=hz r hr;rw[qny,qle,qle]at h0
  have a1:sm (L.filter P) (λi=>V i r*y (.inl i))=lin L V y1 r:=by
   rw[sm_if];exact qm λi _=>zZ3 _ _
  have a2:sm (L.filter Q) (λi=> -W i r*y (.inr i))= -lin L W y2 r:=by
   rw[sm_if];unfold lin;rw[<-q8s];exact qm λi _=>by show-W i r*y2 i=_;grind
  have h1:lin L V y1 r+ -lin L W y2 r=0:=by rw[<-a1,<-a2];exact h0
  grind
 have q1:=hA.form y1;have q2:=hB.form y2;have q3:qf L B (lin L V y1)=qf L B (lin L W y2):=q0x e1 (λ_ _ _ _=>rfl)
 have q4:=h (lin L V y1)
 have n2:sm L (λi=>c i*(y2 i*y2 i))<=0:=by
  have:=sm_le (L:=L) (f:=λi=>c i*(y2 i*y2 i)) (g:=λ_=>0) (λi hi=>by
   show c i*(y2 i*y2 i)<=0
   by_cases hq:Q i=true
   . have h1: ¬0<c i:=of_decide_eq_true hq;have h2:=sq_nonneg (y2 i);have h3:=zb1 (a:= -c i) (b:=y2 i*y2 i) (by grind) h2
     grind
   . have:y2 i=0:=iN' hq;rw[this];grind)
  rwa [qah]at this
 have nn1: ∀i∈L,0<=b i*(y1 i*y1 i):=by
  intro i hi;by_cases hp:P i=true
  . have h1:0<b i:=of_decide_eq_true hp;exact zb1 (by grind) (sq_nonneg _)
  . have:y1 i=0:=iN' hp;rw[this];grind
 have z1: ∀i∈L,y1 i=0:=by
  intro i hi;by_cases hp:P i=true
  . have h1:0<b i:=of_decide_eq_true hp;have h2:=le_sm nn1 hi;by_cases h3:y1 i=0
    . exact h3
    . have:=zy h1 (sq_pos h3)
      grind
  . exact iN' hp
 have z2: ∀i∈L,y2 i=0:=hB.ind y2 λr hr=>by
  rw[<-e1 r hr];exact Y9 λi hi=>by rw[z1 i hi];grind
 rcases zL.1 hu with hu|hu
 . obtain⟨i,hi,rfl⟩:=zM.1 hu;obtain⟨h1,h2⟩:=zR1.1 hi;have:=z1 i h1;have e:y1 i=y (.inl i):=iP h2;exact hy (e▸this)
 . obtain⟨i,hi,rfl⟩:=zM.1 hu;obtain⟨h1,h2⟩:=zR1.1 hi;have:=z2 i h1;have e:y2 i=y (.inr i):=iP h2;exact hy (e▸this)
def e2 (a b c d e f:Rat):Rat:=(a*b-d*d)+(a*c-e*e)+(b*c-f*f)
def e3 (a b c d e f:Rat):Rat:=a*(b*c-f*f)-d*(d*c-f*e)+e*(d*f-b*e)
def sq3 {x y z:Rat} (h:x≠0\/y≠0\/z≠0):0<x*x+y*y+z*z:=by
 have h1:=sq_nonneg x;have h2:=sq_nonneg y;have h3:=sq_nonneg z;rcases h with h|h|h<;>have:=sq_pos h<;>grind
section
variable {a b c d e f:Rat} {p q r:Rat} {x1 x2 x3 y1 y2 y3 z1 z2 z3:Rat}
def mix1 (ha:a=p*(x1*x1)+q*(y1*y1)+r*(z1*z1)) (hb:b=p*(x2*x2)+q*(y2*y2)+r*(z2*z2)) (hc:c=p*(x3*x3)+q*(y3*y3)+r*(z3*z3))
 (hd:d=p*(x1*x2)+q*(y1*y2)+r*(z1*z2)) (he:e=p*(x1*x3)+q*(y1*y3)+r*(z1*z3)) (hf:f=p*(x2*x3)+q*(y2*y3)+r*(z2*z3))
 (hq:q<=0) (hr:r<=0) (k1:0<=a+b+c) (k2:0<=e2 a b c d e f) (k3:0<e3 a b c d e f) {v1 v2 v3:Rat} (hv:v1≠0\/v2≠0\/v3≠0) {r1 r2 r3 t1 t2 t3:Rat}
 (hr1:r1=a*v1+d*v2+e*v3) (hr2:r2=d*v1+b*v2+f*v3) (hr3:r3=e*v1+f*v2+c*v3)
 (ht1:t1=a*r1+d*r2+e*r3) (ht2:t2=d*r1+b*r2+f*r3) (ht3:t3=e*r1+f*r2+c*r3)
 (hw:x1*(t1+e2 a b c d e f*v1)+x2*(t2+e2 a b c d e f*v2)+x3*(t3+e2 a b c d e f*v3)=0):False:=by
 have g1:a*t1+d*t2+e*t3=(a+b+c)*t1-e2 a b c d e f*r1+e3 a b c d e f*v1:=by unfold e2 e3;grind
 have g2:d*t1+b*t2+f*t3=(a+b+c)*t2-e2 a b c d e f*r2+e3 a b c d e f*v2:=by unfold e2 e3;grind
 have g3:e*t1+f*t2+c*t3=(a+b+c)*t3-e2 a b c d e f*r3+e3 a b c d e f*v3:=by unfold e2 e3;grind
 have g4:t1*v1+t2*v2+t3*v3=r1*r1+r2*r2+r3*r3:=by grind
 generalize e2 a b c d e f=s2 at*
 generalize e3 a b c d e f=s3 at*
 have hz: ∀w1 w2 w3:Rat,w1*(a*w1+d*w2+e*w3)+w2*(d*w1+b*w2+f*w3)+w3*(e*w1+f*w2+c*w3)=p*((x1*w1+x2*w2+x3*w3)*(x1*w1+x2*w2+x3*w3))+q*((y1*w1+y2*w2+y3*w3)*(y1*w1+y2*w2+y3*w3))+r*((z1*w1+z2*w2+z3*w3)*(z1*w1+z2*w2+z3*w3)):=by
  intro w1 w2 w3;subst ha hb hc hd he hf;grind
 have n1:=hz (t1+s2*v1) (t2+s2*v2) (t3+s2*v3);clear hz;have n2:=sq_nonneg (y1*(t1+s2*v1)+y2*(t2+s2*v2)+y3*(t3+s2*v3));have n3:=sq_nonneg (z1*(t1+s2*v1)+z2*(t2+s2*v2)+z3*(t3+s2*v3));generalize (y1*(t1+s2*v1)+y2*(t2+s2*v2)+y3*(t3+s2*v3))*(y1*(t1+s2*v1)+y2*(t2+s2*v2)+y3*(t3+s2*v3))=Y at*;generalize (z1*(t1+s2*v1)+z2*(t2+s2*v2)+z3*(t3+s2*v3))*(z1*(t1+s2*v1)+z2*(t2+s2*v2)+z3*(t3+s2*v3))=Z at*;rw[hw]at n1;have m1:=zb1 (a:= -q) (b:=Y) (by grind) n2
 have m2:=zb1 (a:= -r) (b:=Z) (by grind) n3
 have e1:(t1+s2*v1)*(a*(t1+s2*v1)+d*(t2+s2*v2)+e*(t3+s2*v3))+(t2+s2*v2)*(d*(t1+s2*v1)+b*(t2+s2*v2)+f*(t3+s2*v3))+(t3+s2*v3)*(e*(t1+s2*v1)+f*(t2+s2*v2)+c*(t3+s2*v3))=
  (a+b+c)*(t1*t1+t2*t2+t3*t3)+(s3+(a+b+c)*s2)*(t1*v1+t2*v2+t3*v3)+s2*s3*(v1*v1+v2*v2+v3*v3):=by
  have i1:a*(t1+s2*v1)+d*(t2+s2*v2)+e*(t3+s2*v3)=(a+b+c)*t1+s3*v1:=by grind
  have i2:d*(t1+s2*v1)+b*(t2+s2*v2)+f*(t3+s2*v3)=(a+b+c)*t2+s3*v2:=by grind
  have i3:e*(t1+s2*v1)+f*(t2+s2*v2)+c*(t3+s2*v3)=(a+b+c)*t3+s3*v3:=by grind
  rw[i1,i2,i3];clear g1 g2 g3;grind
 rw[e1,g4]at n1;clear e1
 have hr0:r1≠0\/r2≠0\/r3≠0:=by
  refine zx λhn=> ?_
  simp only[not_or,zK2]at hn;obtain⟨o1,o2,o3⟩:=hn;have u1:t1=0:=by rw[ht1,o1,o2,o3];grind
  have u2:t2=0:=by rw[ht2,o1,o2,o3];grind
  have u3:t3=0:=by rw[ht3,o1,o2,o3];grind
  rw[u1,u2,u3,o1]at g1;rw[u1,u2,u3,o2]at g2;rw[u1,u2,u3,o3]at g3;have w1:s3*v1=0:=by grind
  have w2:s3*v2=0:=by grind
  have w3:s3*v3=0:=by grind
  have hs:s3≠0:=by grind
  rcases hv with h|h|h
  . rcases zU3.1 w1 with h'|h'<;>contradiction
  . rcases zU3.1 w2 with h'|h'<;>contradiction
  . rcases zU3.1 w3 with h'|h'<;>contradiction
 have p1:=sq3 hr0;have p2:=sq3 hv
 have p3:0<=t1*t1+t2*t2+t3*t3:=by
  have:=sq_nonneg t1;have:=sq_nonneg t2;have:=sq_nonneg t3;grind
 generalize r1*r1+r2*r2+r3*r3=R at*
 generalize v1*v1+v2*v2+v3*v3=V at*
 generalize t1*t1+t2*t2+t3*t3=T at*
 generalize a+b+c=s1 at*
 have l1:=zb1 k1 p3;have l2:=zy k3 p1;have l3:=zb1 (zb1 k1 k2) (show(0:Rat)<=R by grind)
 have l4:=zb1 (zb1 k2 (show(0:Rat)<=s3 by grind)) (show(0:Rat)<=V by grind)
 grind
def mix (ha:a=p*(x1*x1)+q*(y1*y1)+r*(z1*z1)) (hb:b=p*(x2*x2)+q*(y2*y2)+r*(z2*z2)) (hc:c=p*(x3*x3)+q*(y3*y3)+r*(z3*z3))
 (hd:d=p*(x1*x2)+q*(y1*y2)+r*(z1*z2)) (he:e=p*(x1*x3)+q*(y1*y3)+r*(z1*z3)) (hf:f=p*(x2*x3)+q*(y2*y3)+r*(z2*z3))
 (hq:q<=0) (hr:r<=0) (k1:0<=a+b+c) (k2:0<=e2 a b c d e f) (k3:0<e3 a b c d e f):False:=by
 have go:=λv1 v2 v3 hv h=>mix1 ha hb hc hd he hf hq hr k1 k2 k3 (v1:=v1) (v2:=v2) (v3:=v3) hv rfl rfl rfl rfl rfl rfl h
 clear ha hb hc hd he hf;generalize e2 a b c d e f=s2 at*;obtain⟨w1,h1⟩: ∃w,w=a*(a*x1+d*x2+e*x3)+d*(d*x1+b*x2+f*x3)+e*(e*x1+f*x2+c*x3)+s2*x1:=⟨_,rfl⟩;obtain⟨w2,h2⟩: ∃w,w=d*(a*x1+d*x2+e*x3)+b*(d*x1+b*x2+f*x3)+f*(e*x1+f*x2+c*x3)+s2*x2:=⟨_,rfl⟩;by_cases c1:w1=0
 . refine go 1 0 0 (.inl (by grind)) ?_
   rw[c1]at h1;grind
 . exact go w2 (-w1) 0 (.inr (.inl (by grind))) (by grind)
def cb2 (ha:a=p*(x1*x1)+q*(y1*y1)+r*(z1*z1)) (hb:b=p*(x2*x2)+q*(y2*y2)+r*(z2*z2)) (hc:c=p*(x3*x3)+q*(y3*y3)+r*(z3*z3))
 (hd:d=p*(x1*x2)+q*(y1*y2)+r*(z1*z2)) (he:e=p*(x1*x3)+q*(y1*y3)+r*(z1*z3)) (hf:f=p*(x2*x3)+q*(y2*y3)+r*(z2*z3)):
 a+b+c=p*(x1*x1+x2*x2+x3*x3)+q*(y1*y1+y2*y2+y3*y3)+r*(z1*z1+z2*z2+z3*z3)/\
 e2 a b c d e f=p*q*((x1*y2-x2*y1)*(x1*y2-x2*y1)+(x1*y3-x3*y1)*(x1*y3-x3*y1)+(x2*y3-x3*y2)*(x2*y3-x3*y2))+
  p*r*((x1*z2-x2*z1)*(x1*z2-x2*z1)+(x1*z3-x3*z1)*(x1*z3-x3*z1)+(x2*z3-x3*z2)*(x2*z3-x3*z2))+
  q*r*((y1*z2-y2*z1)*(y1*z2-y2*z1)+(y1*z3-y3*z1)*(y1*z3-y3*z1)+(y2*z3-y3*z2)*(y2*z3-y3*z2))/\
 e3 a b c d e f=p*q*r*((x1*(y2*z3-y3*z2)-x2*(y1*z3-y3*z1)+x3*(y1*z2-y2*z1))*(x1*(y2*z3-y3*z2)-x2*(y1*z3-y3*z1)+x3*(y1*z2-y2*z1))):=by
 subst ha hb hc hd he hf;refine⟨by grind,by unfold e2;grind,by unfold e3;grind⟩
def ip (x:Rat):Nat:=if 0<x then 1 else 0
def ip1 {x:Rat} (h:0<x):ip x=1/\ip (-x)=0:=by unfold ip;rw[iP h,iN' (by grind)];exact⟨rfl,rfl⟩
def ip2 {x:Rat} (h:x<0):ip x=0/\ip (-x)=1:=by unfold ip;rw[iN' (by grind),iP (by grind)];exact⟨rfl,rfl⟩
def ip0:ip 0=0/\ip (-0)=0:=by unfold ip;exact⟨iN' (by grind),iN' (by grind)⟩
inductive Sg:Nat->Nat->Rat->Rat->Rat->Prop
 |c30 {s1 s2 s3:Rat}:0<s1->0<s2->0<s3->Sg 3 0 s1 s2 s3
 |c03 {s1 s2 s3:Rat}:s1<0->0<s2->s3<0->Sg 0 3 s1 s2 s3
 |c21 {s1 s2 s3:Rat}:s3<0-> ¬(s1<=0/\0<=s2)->Sg 2 1 s1 s2 s3
 |c12 {s1 s2 s3:Rat}:0<s3-> ¬(0<=s1/\0<=s2)->Sg 1 2 s1 s2 s3
 |c20 {s1 s2 s3:Rat}:0<s1->0<s2->s3=0->Sg 2 0 s1 s2 s3
 |c02 {s1 s2 s3:Rat}:s1<0->0<s2->s3=0->Sg 0 2 s1 s2 s3
 |c11 {s1 s2 s3:Rat}:s2<0->s3=0->Sg 1 1 s1 s2 s3
 |c10 {s1 s2 s3:Rat}:0<s1->s2=0->s3=0->Sg 1 0 s1 s2 s3
 |c01 {s1 s2 s3:Rat}:s1<0->s2=0->s3=0->Sg 0 1 s1 s2 s3
 |c00 {s1 s2 s3:Rat}:s1=0->s2=0->s3=0->Sg 0 0 s1 s2 s3
def mnp {x y:Rat} (hx:x<0) (hy:0<y):x*y<0:=by have:=zy (a:= -x) (b:=y) (by grind) hy;grind
def mnn {x y:Rat} (hx:x<0) (hy:y<0):0<x*y:=by have:=zy (a:= -x) (b:= -y) (by grind) (by grind);grind
def core (ha:a=p*(x1*x1)+q*(y1*y1)+r*(z1*z1)) (hb:b=p*(x2*x2)+q*(y2*y2)+r*(z2*z2)) (hc:c=p*(x3*x3)+q*(y3*y3)+r*(z3*z3))
 (hd:d=p*(x1*x2)+q*(y1*y2)+r*(z1*z2)) (he:e=p*(x1*x3)+q*(y1*y3)+r*(z1*z3)) (hf:f=p*(x2*x3)+q*(y2*y3)+r*(z2*z3))
 (hD:x1*(y2*z3-y3*z2)-x2*(y1*z3-y3*z1)+x3*(y1*z2-y2*z1)≠0) (h1:q<=p) (h2:r<=q):Sg (ip p+ip q+ip r) (ip (-p)+ip (-q)+ip (-r)) (a+b+c) (e2 a b c d e f) (e3 a b c d e f):=by
 obtain⟨k1,k2,k3⟩:=cb2 ha hb hc hd he hf;have n1:0<x1*x1+x2*x2+x3*x3:=sq3 (zx λh=>by simp only[not_or,zK2]at h;obtain⟨rfl,rfl,rfl⟩:=h;grind)
 have n2:0<y1*y1+y2*y2+y3*y3:=sq3 (zx λh=>by simp only[not_or,zK2]at h;obtain⟨rfl,rfl,rfl⟩:=h;grind)
 have n3:0<z1*z1+z2*z2+z3*z3:=sq3 (zx λh=>by simp only[not_or,zK2]at h;obtain⟨rfl,rfl,rfl⟩:=h;grind)
 have n4:=sq3 (x:=x1*y2-x2*y1) (y:=x1*y3-x3*y1) (z:=x2*y3-x3*y2) (zx λh=>by simp only[not_or,zK2]at h;grind)
 have n5:=sq3 (x:=x1*z2-x2*z1) (y:=x1*z3-x3*z1) (z:=x2*z3-x3*z2) (zx λh=>by simp only[not_or,zK2]at h;grind)
 have n6:=sq3 (x:=y1*z2-y2*z1) (y:=y1*z3-y3*z1) (z:=y2*z3-y3*z2) (zx λh=>by simp only[not_or,zK2]at h;grind)
 have n7:=sq_pos hD;have mx:=λg1 g2 g3 g4 g5=>mix ha hb hc hd he hf (q:=q) (r:=r) g1 g2 g3 g4 g5
 have my:=λg1 g2 g3 g4 g5=>mix (a:= -a) (b:= -b) (c:= -c) (d:= -d) (e:= -e) (f:= -f) (p:= -r) (q:= -p) (r:= -q) (x1:=z1) (x2:=z2) (x3:=z3) (y1:=x1) (y2:=x2) (y3:=x3) (z1:=y1) (z2:=y2) (z3:=y3)
  (by rw[ha];grind) (by rw[hb];grind) (by rw[hc];grind) (by rw[hd];grind) (by rw[he];grind) (by rw[hf];grind) g1 g2 g3 g4 g5
 have q2:e2 (-a) (-b) (-c) (-d) (-e) (-f)=e2 a b c d e f:=by unfold e2;grind
 have q3:e3 (-a) (-b) (-c) (-d) (-e) (-f)= -e3 a b c d e f:=by unfold e3;grind
 rw[q2,q3]at my;clear ha hb hc hd he hf q2 q3 hD;generalize e2 a b c d e f=s2 at*;generalize e3 a b c d e f=s3 at*;generalize x1*x1+x2*x2+x3*x3=X at*;generalize y1*y1+y2*y2+y3*y3=Y at*;generalize z1*z1+z2*z2+z3*z3=Z at*;generalize (x1*y2-x2*y1)*(x1*y2-x2*y1)+(x1*y3-x3*y1)*(x1*y3-x3*y1)+(x2*y3-x3*y2)*(x2*y3-x3*y2)=U at*;generalize (x1*z2-x2*z1)*(x1*z2-x2*z1)+(x1*z3-x3*z1)*(x1*z3-x3*z1)+(x2*z3-x3*z2)*(x2*z3-x3*z2)=V at*;generalize (y1*z2-y2*z1)*(y1*z2-y2*z1)+(y1*z3-y3*z1)*(y1*z3-y3*z1)+(y2*z3-y3*z2)*(y2*z3-y3*z2)=W at*;generalize (x1*(y2*z3-y3*z2)-x2*(y1*z3-y3*z1)+x3*(y1*z2-y2*z1))*(x1*(y2*z3-y3*z2)-x2*(y1*z3-y3*z1)+x3*(y1*z2-y2*z1))=Q at*;have tri: ∀t:Rat,t<0\/t=0\/0<t:=λt=>by grind
 rcases tri r with hr|hr|hr
 . obtain⟨i1,i2⟩:=ip2 hr;rcases tri q with hq|hq|hq
   . obtain⟨j1,j2⟩:=ip2 hq;rcases tri p with hp|hp|hp
     . obtain⟨l1,l2⟩:=ip2 hp;rw[i1,i2,j1,j2,l1,l2];have:=mnp hp n1;have:=mnp hq n2;have:=mnp hr n3;have:=zy (mnn hp hq) n4;have:=zy (mnn hp hr) n5;have:=zy (mnn hq hr) n6;have:=mnp (x:=p*q*r) (by have:=mnp hr (mnn hp hq);grind) n7
       exact .c03 (by grind) (by grind) (by grind)
     . subst hp;obtain⟨l1,l2⟩:=ip0;rw[i1,i2,j1,j2,l1,l2];have:=mnp hq n2;have:=mnp hr n3;have:=zy (mnn hq hr) n6;exact .c02 (by grind) (by grind) (by grind)
     . obtain⟨l1,l2⟩:=ip1 hp;rw[i1,i2,j1,j2,l1,l2];have k4:0<s3:=by have:=zy (zy hp (mnn hq hr)) n7;grind
       exact .c12 k4 λh=>mx (by grind) (by grind) h.1 h.2 k4
   . subst hq;obtain⟨j1,j2⟩:=ip0;rcases tri p with hp|hp|hp
     . grind
     . subst hp;rw[i1,i2,j1,j2];have:=mnp hr n3;exact .c01 (by grind) (by grind) (by grind)
     . obtain⟨l1,l2⟩:=ip1 hp;rw[i1,i2,j1,j2,l1,l2];have:=mnp (x:=p*r) (by have:=mnp hr hp;grind) n5
       exact .c11 (by grind) (by grind)
   . obtain⟨j1,j2⟩:=ip1 hq;obtain⟨l1,l2⟩:=ip1 (x:=p) (by grind)
     rw[i1,i2,j1,j2,l1,l2];have k4:s3<0:=by have:=mnp (x:=p*q*r) (by have:=mnp hr (zy (show 0<p by grind) hq);grind) n7;grind
     exact .c21 k4 λh=>my (by grind) (by grind) (by grind) h.2 (by grind)
 . subst hr;obtain⟨i1,i2⟩:=ip0;rcases tri q with hq|hq|hq
   . grind
   . subst hq;rcases tri p with hp|hp|hp
     . grind
     . subst hp;rw[i1,i2];exact .c00 (by grind) (by grind) (by grind)
     . obtain⟨l1,l2⟩:=ip1 hp;rw[i1,i2,l1,l2];have:=zy hp n1;exact .c10 (by grind) (by grind) (by grind)
   . have hp:0<p:=by grind
     obtain⟨j1,j2⟩:=ip1 hq;obtain⟨l1,l2⟩:=ip1 hp;rw[i1,i2,j1,j2,l1,l2];have:=zy hp n1;have:=zy hq n2;have:=zy (zy hp hq) n4;exact .c20 (by grind) (by grind) (by grind)
 . have hq:0<q:=by grind
   have hp:0<p:=by grind
   obtain⟨i1,i2⟩:=ip1 hr;obtain⟨j1,j2⟩:=ip1 hq;obtain⟨l1,l2⟩:=ip1 hp;rw[i1,i2,j1,j2,l1,l2];have:=zy hp n1;have:=zy hq n2;have:=zy hr n3;have:=zy (zy hp hq) n4;have:=zy (zy hp hr) n5;have:=zy (zy hq hr) n6;have:=zy (zy (zy hp hq) hr) n7;exact .c30 (by grind) (by grind) (by grind)
def sgT (ha:a=p*(x1*x1)+q*(y1*y1)+r*(z1*z1)) (hb:b=p*(x2*x2)+q*(y2*y2)+r*(z2*z2)) (hc:c=p*(x3*x3)+q*(y3*y3)+r*(z3*z3))
 (hd:d=p*(x1*x2)+q*(y1*y2)+r*(z1*z2)) (he:e=p*(x1*x3)+q*(y1*y3)+r*(z1*z3)) (hf:f=p*(x2*x3)+q*(y2*y3)+r*(z2*z3))
 (hD:x1*(y2*z3-y3*z2)-x2*(y1*z3-y3*z1)+x3*(y1*z2-y2*z1)≠0):Sg (ip p+ip q+ip r) (ip (-p)+ip (-q)+ip (-r)) (a+b+c) (e2 a b c d e f) (e3 a b c d e f):=by
 rcases zg3 (a:=p) (b:=q)with h1|h1<;>rcases zg3 (a:=q) (b:=r)with h2|h2<;>rcases zg3 (a:=p) (b:=r)with h3|h3
 . have:=core (a:=a) (b:=b) (c:=c) (d:=d) (e:=e) (f:=f) (x1:=z1) (x2:=z2) (x3:=z3) (y1:=y1) (y2:=y2) (y3:=y3) (z1:=x1) (z2:=x2) (z3:=x3) (by grind) (by grind) (by grind) (by grind) (by grind) (by grind) (by grind) h2 h1
   rwa [show ip r+ip q+ip p=ip p+ip q+ip r by omega,show ip (-r)+ip (-q)+ip (-p)=ip (-p)+ip (-q)+ip (-r) by omega]at this
 . have:=core (a:=a) (b:=b) (c:=c) (d:=d) (e:=e) (f:=f) (x1:=z1) (x2:=z2) (x3:=z3) (y1:=y1) (y2:=y2) (y3:=y3) (z1:=x1) (z2:=x2) (z3:=x3) (by grind) (by grind) (by grind) (by grind) (by grind) (by grind) (by grind) h2 h1
   rwa [show ip r+ip q+ip p=ip p+ip q+ip r by omega,show ip (-r)+ip (-q)+ip (-p)=ip (-p)+ip (-q)+ip (-r) by omega]at this
 . have:=core (a:=a) (b:=b) (c:=c) (d:=d) (e:=e) (f:=f) (x1:=y1) (x2:=y2) (x3:=y3) (y1:=z1) (y2:=z2) (y3:=z3) (z1:=x1) (z2:=x2) (z3:=x3) (by grind) (by grind) (by grind) (by grind) (by grind) (by grind) (by grind) h2 h3
   rwa [show ip q+ip r+ip p=ip p+ip q+ip r by omega,show ip (-q)+ip (-r)+ip (-p)=ip (-p)+ip (-q)+ip (-r) by omega]at this
 . have:=core (a:=a) (b:=b) (c:=c) (d:=d) (e:=e) (f:=f) (x1:=y1) (x2:=y2) (x3:=y3) (y1:=x1) (y2:=x2) (y3:=x3) (z1:=z1) (z2:=z2) (z3:=z3) (by grind) (by grind) (by grind) (by grind) (by grind) (by grind) (by grind) h1 h3
   rwa [show ip q+ip p+ip r=ip p+ip q+ip r by omega,show ip (-q)+ip (-p)+ip (-r)=ip (-p)+ip (-q)+ip (-r) by omega]at this
 . have:=core (a:=a) (b:=b) (c:=c) (d:=d) (e:=e) (f:=f) (x1:=z1) (x2:=z2) (x3:=z3) (y1:=x1) (y2:=x2) (y3:=x3) (z1:=y1) (z2:=y2) (z3:=y3) (by grind) (by grind) (by grind) (by grind) (by grind) (by grind) (by grind) h3 h1
   rwa [show ip r+ip p+ip q=ip p+ip q+ip r by omega,show ip (-r)+ip (-p)+ip (-q)=ip (-p)+ip (-q)+ip (-r) by omega]at this
 . have:=core (a:=a) (b:=b) (c:=c) (d:=d) (e:=e) (f:=f) (x1:=x1) (x2:=x2) (x3:=x3) (y1:=z1) (y2:=z2) (y3:=z3) (z1:=y1) (z2:=y2) (z3:=y3) (by grind) (by grind) (by grind) (by grind) (by grind) (by grind) (by grind) h3 h2
   rwa [show ip p+ip r+ip q=ip p+ip q+ip r by omega,show ip (-p)+ip (-r)+ip (-q)=ip (-p)+ip (-q)+ip (-r) by omega]at this
 . exact core ha hb hc hd he hf hD h1 h2
 . exact core ha hb hc hd he hf hD h1 h2
def detm0 {v1 v2 v3 u1 u2 u3 w1 w2 w3:Rat}:(x1*(y2*z3-y3*z2)-x2*(y1*z3-y3*z1)+x3*(y1*z2-y2*z1))*(v1*(u2*w3-u3*w2)-v2*(u1*w3-u3*w1)+v3*(u1*w2-u2*w1))=
 (x1*v1+y1*u1+z1*w1)*((x2*v2+y2*u2+z2*w2)*(x3*v3+y3*u3+z3*w3)-(x2*v3+y2*u3+z2*w3)*(x3*v2+y3*u2+z3*w2))-
 (x2*v1+y2*u1+z2*w1)*((x1*v2+y1*u2+z1*w2)*(x3*v3+y3*u3+z3*w3)-(x1*v3+y1*u3+z1*w3)*(x3*v2+y3*u2+z3*w2))+
 (x3*v1+y3*u1+z3*w1)*((x1*v2+y1*u2+z1*w2)*(x2*v3+y2*u3+z2*w3)-(x1*v3+y1*u3+z1*w3)*(x2*v2+y2*u2+z2*w2)):=by grind
def detm {v1 v2 v3 u1 u2 u3 w1 w2 w3:Rat} (g1:x1*v1+y1*u1+z1*w1=1) (g2:x1*v2+y1*u2+z1*w2=0) (g3:x1*v3+y1*u3+z1*w3=0)
 (g4:x2*v1+y2*u1+z2*w1=0) (g5:x2*v2+y2*u2+z2*w2=1) (g6:x2*v3+y2*u3+z2*w3=0)
 (g7:x3*v1+y3*u1+z3*w1=0) (g8:x3*v2+y3*u2+z3*w2=0) (g9:x3*v3+y3*u3+z3*w3=1):x1*(y2*z3-y3*z2)-x2*(y1*z3-y3*z1)+x3*(y1*z2-y2*z1)≠0:=by
 intro h
 have key:(x1*(y2*z3-y3*z2)-x2*(y1*z3-y3*z1)+x3*(y1*z2-y2*z1))*(v1*(u2*w3-u3*w2)-v2*(u1*w3-u3*w1)+v3*(u1*w2-u2*w1))=
  (x1*v1+y1*u1+z1*w1)*((x2*v2+y2*u2+z2*w2)*(x3*v3+y3*u3+z3*w3)-(x2*v3+y2*u3+z2*w3)*(x3*v2+y3*u2+z3*w2))-
  (x2*v1+y2*u1+z2*w1)*((x1*v2+y1*u2+z1*w2)*(x3*v3+y3*u3+z3*w3)-(x1*v3+y1*u3+z1*w3)*(x3*v2+y3*u2+z3*w2))+
  (x3*v1+y3*u1+z3*w1)*((x1*v2+y1*u2+z1*w2)*(x2*v3+y2*u3+z2*w3)-(x1*v3+y1*u3+z1*w3)*(x2*v2+y2*u2+z2*w2)):=detm0
 rw[h,g1,g2,g3,g4,g5,g6,g7,g8,g9]at key
 grind
end
def Dg.surj {α:Type} [DecidableEq α] {L:List α} (hn:L.Nodup) {A V:α->α->Rat} {b:α->Rat} (hd:Dg L A V b) (x:α->Rat): ∃y,∀j∈L,lin L V y j=x j:=by
 obtain⟨y,⟨i,hi,hy⟩,h⟩:=hom (β:=α) L (none::L.map some) (λj o=>match o with|none=> -x j|some i=>V i j)
  (by rw[zU];exact⟨by simp,List.Pairwise.map _ (λa b h e=>h (zD3 e)) hn⟩) (by simp)
 have h': ∀j∈L,lin L V (λi=>y (some i)) j=x j*y none:=by
  intro j hj;have:=h j hj;rw[qw,qle]at this;have e:sm L (λi=>V i j*y (some i))=lin L V (λi=>y (some i)) j:=qm λi _=>zZ3 _ _
  dsimp only at this;rw[e]at this;grind
 by_cases c:y none=0
 . exfalso;have h0:=hd.ind (λi=>y (some i)) λj hj=>by rw[h' j hj,c];grind
   rcases mC hi with rfl|hi
   . exact hy c
   . obtain⟨k,hk,rfl⟩:=zM.1 hi;exact hy (h0 k hk)
 . refine⟨λi=>(1/y none)*y (some i),λj hj=> ?_⟩
   have e:lin L V (λi=>(1/y none)*y (some i)) j=(1/y none)*lin L V (λi=>y (some i)) j:=by
    unfold lin;rw[<-Yz];exact qm λi _=>by rw[Rat.mul_assoc]
   rw[e,h' j hj];grind
def Yb {α:Type} {i:α} {L:List α} {b:α->Rat}:npos (i::L) b=ip (b i)+npos L b:=by
 unfold npos ip;rw[zr1];by_cases c:0<b i
 . rw[iP (decide_eq_true c),iP c,za1];omega
 . rw[iN' (by rw[decide_eq_true_eq];exact c),iN' c];omega
def gA (n:Nat) (A:Nat->Nat->Rat) (i j:Nat):Rat:=if i<n/\j<n then A i j else 0
def Sg_Dg {n:Nat} (hn:n<=3) {A V:Nat->Nat->Rat} (hs: ∀i j,i<n->j<n->A i j=A j i) {b:Nat->Rat} (hd:Dg (List.range n) A V b):
 Sg (npos (List.range n) b) (npos (List.range n) (λi=> -b i)) (gA n A 0 0+gA n A 1 1+gA n A 2 2) (e2 (gA n A 0 0) (gA n A 1 1) (gA n A 2 2) (gA n A 0 1) (gA n A 0 2) (gA n A 1 2)) (e3 (gA n A 0 0) (gA n A 1 1) (gA n A 2 2) (gA n A 0 1) (gA n A 0 2) (gA n A 1 2)):=by
 have hY:=λj=>hd.surj zZ2 (λk=>if k=j then 1 else 0)
 obtain⟨Y,hY⟩: ∃Y:Nat->Nat->Rat,∀j,∀k∈List.range n,lin (List.range n) V (Y j) k=if k=j then 1 else 0:=⟨λj=>Classical.choose (hY j),λj=>Classical.choose_spec (hY j)⟩
 have form:=λy=>hd.form y
 have hq: ∀x:Nat->Rat,qf (List.range n) A x=sm (List.range n) (λk=>b k*(sm (List.range n) (λj=>x j*Y j k)*sm (List.range n) (λj=>x j*Y j k))):=by
  intro x;rw[<-form];refine(q0x (λk hk=> ?_) λ_ _ _ _=>rfl).symm
  unfold lin
  have e1:sm (List.range n) (λi=>sm (List.range n) (λj=>x j*Y j i)*V i k)=sm (List.range n) (λj=>x j*lin (List.range n) V (Y j) k):=by
   rw[show(λi=>sm (List.range n) (λj=>x j*Y j i)*V i k)=λi=>sm (List.range n) (λj=>x j*Y j i*V i k) by funext i;exact(qf3 _).symm,qdv]
   refine qm λj _=> ?_
   unfold lin;rw[<-Yz];exact qm λi _=>by rw[Rat.mul_assoc]
  rw[e1,qm λj _=>by rw[hY j k hk],<-qbo zZ2 hk (f:=x)]
  exact qm λj _=>by by_cases c:k=j<;>simp[c,eq_comm]
 match n,hn with
 |0,_=>exact .c00 (by unfold gA;simp;grind) (by unfold gA e2;simp;grind) (by unfold gA e3;simp;grind)
 |1,_=>
  have hx: ∀x0:Rat,x0*A 0 0*x0+0+0=b 0*((x0*Y 0 0+0)*(x0*Y 0 0+0))+0:=λx0=>hq λ_=>x0
  have v0:Y 0 0*V 0 0+0=1:=hY 0 0 (by decide)
  have h1:=hx 1;have g0:gA 1 A 0 0=A 0 0:=iP (by decide)
  have g1:gA 1 A 1 1=0:=iN' (by decide)
  have g2:gA 1 A 2 2=0:=iN' (by decide)
  have g3:gA 1 A 0 1=0:=iN' (by decide)
  have g4:gA 1 A 0 2=0:=iN' (by decide)
  have g5:gA 1 A 1 2=0:=iN' (by decide)
  have:=sgT (a:=A 0 0) (b:=0) (c:=0) (d:=0) (e:=0) (f:=0) (p:=b 0) (q:=0) (r:=0) (x1:=Y 0 0) (x2:=0) (x3:=0) (y1:=0) (y2:=1) (y3:=0) (z1:=0) (z2:=0) (z3:=1)
   (by grind) (by grind) (by grind) (by grind) (by grind) (by grind)
   (detm (v1:=V 0 0) (v2:=0) (v3:=0) (u1:=0) (u2:=1) (u3:=0) (w1:=0) (w2:=0) (w3:=1) (by grind) (by grind) (by grind) (by grind) (by grind) (by grind) (by grind) (by grind) (by grind))
  rw[g0,g1,g2,g3,g4,g5,show List.range 1=[0]from rfl,Yb,Yb]
  rw[ip0.1,ip0.2]at this;exact this
 |2,_=>
  have hx: ∀x0 x1:Rat,x0*A 0 0*x0+(x0*A 0 1*x1+0)+(x1*A 1 0*x0+(x1*A 1 1*x1+0)+0)=b 0*((x0*Y 0 0+(x1*Y 1 0+0))*(x0*Y 0 0+(x1*Y 1 0+0)))+(b 1*((x0*Y 0 1+(x1*Y 1 1+0))*(x0*Y 0 1+(x1*Y 1 1+0)))+0):=λx0 x1=>hq λi=>match i with|0=>x0|_=>x1
  have v00:Y 0 0*V 0 0+(Y 0 1*V 1 0+0)=1:=hY 0 0 (by decide)
  have v01:Y 0 0*V 0 1+(Y 0 1*V 1 1+0)=0:=hY 0 1 (by decide)
  have v10:Y 1 0*V 0 0+(Y 1 1*V 1 0+0)=0:=hY 1 0 (by decide)
  have v11:Y 1 0*V 0 1+(Y 1 1*V 1 1+0)=1:=hY 1 1 (by decide)
  have s1:=hs 0 1 (by decide) (by decide)
  have h1:=hx 1 0;have h2:=hx 0 1;have h3:=hx 1 1;have g0:gA 2 A 0 0=A 0 0:=iP (by decide)
  have g1:gA 2 A 1 1=A 1 1:=iP (by decide)
  have g2:gA 2 A 2 2=0:=iN' (by decide)
  have g3:gA 2 A 0 1=A 0 1:=iP (by decide)
  have g4:gA 2 A 0 2=0:=iN' (by decide)
  have g5:gA 2 A 1 2=0:=iN' (by decide)
  have:=sgT (a:=A 0 0) (b:=A 1 1) (c:=0) (d:=A 0 1) (e:=0) (f:=0) (p:=b 0) (q:=b 1) (r:=0) (x1:=Y 0 0) (x2:=Y 1 0) (x3:=0) (y1:=Y 0 1) (y2:=Y 1 1) (y3:=0) (z1:=0) (z2:=0) (z3:=1)
   (by grind) (by grind) (by grind) (by grind) (by grind) (by grind)
   (detm (v1:=V 0 0) (v2:=V 0 1) (v3:=0) (u1:=V 1 0) (u2:=V 1 1) (u3:=0) (w1:=0) (w2:=0) (w3:=1) (by grind) (by grind) (by grind) (by grind) (by grind) (by grind) (by grind) (by grind) (by grind))
  rw[g0,g1,g2,g3,g4,g5,show List.range 2=[0,1]from rfl,Yb,Yb,Yb,Yb]
  rw[ip0.1,ip0.2]at this;exact this
 |3,_=>
  have hx: ∀x0 x1 x2:Rat,x0*A 0 0*x0+(x0*A 0 1*x1+(x0*A 0 2*x2+0))+(x1*A 1 0*x0+(x1*A 1 1*x1+(x1*A 1 2*x2+0))+(x2*A 2 0*x0+(x2*A 2 1*x1+(x2*A 2 2*x2+0))+0))=
   b 0*((x0*Y 0 0+(x1*Y 1 0+(x2*Y 2 0+0)))*(x0*Y 0 0+(x1*Y 1 0+(x2*Y 2 0+0))))+(b 1*((x0*Y 0 1+(x1*Y 1 1+(x2*Y 2 1+0)))*(x0*Y 0 1+(x1*Y 1 1+(x2*Y 2 1+0))))+(b 2*((x0*Y 0 2+(x1*Y 1 2+(x2*Y 2 2+0)))*(x0*Y 0 2+(x1*Y 1 2+(x2*Y 2 2+0))))+0)):=
   λx0 x1 x2=>hq λi=>match i with|0=>x0|1=>x1|_=>x2
  have v: ∀j k,k<3->Y j 0*V 0 k+(Y j 1*V 1 k+(Y j 2*V 2 k+0))=if k=j then 1 else 0:=λj k hk=>hY j k (zO1.2 hk)
  have v00:=v 0 0 (by decide)
  have v01:=v 0 1 (by decide)
  have v02:=v 0 2 (by decide)
  have v10:=v 1 0 (by decide)
  have v11:=v 1 1 (by decide)
  have v12:=v 1 2 (by decide)
  have v20:=v 2 0 (by decide)
  have v21:=v 2 1 (by decide)
  have v22:=v 2 2 (by decide)
  have s1:=hs 0 1 (by decide) (by decide)
  have s2:=hs 0 2 (by decide) (by decide)
  have s3:=hs 1 2 (by decide) (by decide)
  have h1:=hx 1 0 0;have h2:=hx 0 1 0;have h3:=hx 0 0 1;have h4:=hx 1 1 0;have h5:=hx 1 0 1;have h6:=hx 0 1 1;have g0:gA 3 A 0 0=A 0 0:=iP (by decide)
  have g1:gA 3 A 1 1=A 1 1:=iP (by decide)
  have g2:gA 3 A 2 2=A 2 2:=iP (by decide)
  have g3:gA 3 A 0 1=A 0 1:=iP (by decide)
  have g4:gA 3 A 0 2=A 0 2:=iP (by decide)
  have g5:gA 3 A 1 2=A 1 2:=iP (by decide)
  clear hx hq v form hY
  have:=sgT (a:=A 0 0) (b:=A 1 1) (c:=A 2 2) (d:=A 0 1) (e:=A 0 2) (f:=A 1 2) (p:=b 0) (q:=b 1) (r:=b 2) (x1:=Y 0 0) (x2:=Y 1 0) (x3:=Y 2 0) (y1:=Y 0 1) (y2:=Y 1 1) (y3:=Y 2 1) (z1:=Y 0 2) (z2:=Y 1 2) (z3:=Y 2 2)
   (by grind) (by grind) (by grind) (by grind) (by grind) (by grind)
   (detm (v1:=V 0 0) (v2:=V 0 1) (v3:=V 0 2) (u1:=V 1 0) (u2:=V 1 1) (u3:=V 1 2) (w1:=V 2 0) (w2:=V 2 1) (w3:=V 2 2) (by grind) (by grind) (by grind) (by grind) (by grind) (by grind) (by grind) (by grind) (by grind))
  rw[g0,g1,g2,g3,g4,g5,show List.range 3=[0,1,2]from rfl,Yb,Yb,Yb,Yb,Yb,Yb]
  have e1:npos ([]:List Nat) b=0:=rfl;have e2:npos ([]:List Nat) (λi=> -b i)=0:=rfl
  rw[e1,e2,zV,zV,<-Nat.add_assoc,<-Nat.add_assoc];exact this
end Go.Vs.F
set_option maxRecDepth 100000
namespace Go.Vs.F
section
def qnw {x:Int}:0<=qo .u64 x 2047/\qo .u64 x 2047<2048:=by
 unfold qo
 have h:(BitVec.ofInt IntKind.u64.bits x&&&BitVec.ofInt IntKind.u64.bits 2047).toNat<2048:=by
  rw[BitVec.toNat_and];have:(BitVec.ofInt IntKind.u64.bits 2047).toNat=2047:=by decide
  rw[this];exact zn1 Nat.and_le_right (by decide)
 generalize (BitVec.ofInt IntKind.u64.bits x&&&BitVec.ofInt IntKind.u64.bits 2047).toNat=y at h
 rw[wu O O];omega
def finB (x:Int):Bool:=qo .u64 (shr_ .u64 x 52) 2047 !=2047
def q5k {m:Nat} {x:Int}:g21 m x=some (finB x,(),()):=by
 rw[g21,g44];have:=qnw (x:=shr_ .u64 x 52);simp only[bS,wi (show(-9223372036854775808:Int)<=qo .u64 (shr_ .u64 x 52) 2047 by omega) O]
 rfl
def qcl (m:Nat) (a:LI) (hb:a.length<4611686018427387904): ∀(n k:Nat),a.length-k<n->
 g78L0 m n a (k:Int)=some (bif Qa (λi=>finB (a.getD i 0)) k a.length then .inr (.inl ())else .inl (false,()))
 |0,k,h=>O
 |n+1,k,h=>by
  rw[g78L0];by_cases hk:k<a.length
  . have h1:((k:Int)<(a.length:Int)):=O;simp only[bQ,h1,if_true,tN,z81,and_self,wsucc (show k<4611686018427387904 by omega),g42,bS]
    rw[X6 hk,qcl m a hb n (k+1) O];show(bif !(finB (a.getD k 0))then _ else _)=_
    cases finB (a.getD k 0)<;>simp
  . have h1: ¬((k:Int)<(a.length:Int)):=O;simp only[bQ,h1,if_false];rw[Xm hk];rfl
def finL (a:LI):Bool:=Qa (λi=>finB (a.getD i 0)) 0 a.length
def qlc {m:Nat} {a:LI} (h:a.length<m) (hb:a.length<4611686018427387904):g78 m a=some (finL a,(),()):=by
 rw[g78];have:=qcl m a hb m 0 O;simp only[zG2,nZ,za2]at this;rw[this];unfold finL;cases Qa (λi=>finB (a.getD i 0)) 0 a.length<;>rfl
def q46 (m:Nat) (a:LI) (hb:a.length<4611686018427387904): ∀(n k:Nat),a.length-k<n->
 ∃j:Nat,g96L0 m n a (a.length:Int) (k:Int)=some (bif Qa (λi=>finB (a.getD i 0)) k a.length then .inr (.inl ())else .inl ((j:Int),()))
 |0,k,h=>O
 |n+1,k,h=>by
  rw[g96L0];by_cases hk:k<a.length
  . have h1:((k:Int)<(a.length:Int)):=O;obtain⟨j,hj⟩:=q46 m a hb n (k+1) O;simp only[bQ,h1,if_true,tN,z81,and_self,wsucc (show k<4611686018427387904 by omega),g58,q5k,bS]
    rw[X6 hk,hj];cases finB (a.getD k 0)
    . exact⟨k,by simp⟩
    . exact⟨j,by simp⟩
  . have h1: ¬((k:Int)<(a.length:Int)):=O;simp only[bQ,h1,if_false];rw[Xm hk];exact⟨0,rfl⟩
def q5h {m:Nat} {a:LI} (h:a.length<m) (hb:a.length<4611686018427387904):g57 m a=some (!finL a,(),(),()):=by
 rw[g57,g96];obtain⟨j,this⟩:=q46 m a hb m 0 O;simp only[zG2,nZ,za2]at this;rw[this];unfold finL;cases Qa (λi=>finB (a.getD i 0)) 0 a.length
 . simp
 . simp
end
section
def le2 (S:LI) (i:Nat):Bool:=decide (S.getD i 0<=S.getD (i+1) 0)
def q5j (m:Nat) (S:LI) (hb:S.length<4611686018427387904): ∀(n k:Nat),k<n->k<S.length->
 g95L0 m n S (k:Int)=some (bif Qa (le2 S) 0 k then .inr (.inl ())else .inl (false,()))
 |0,k,h,_=>O
 |n+1,0,h,h0=>by
  rw[g95L0];simp[Qa]
 |n+1,k+1,h,h0=>by
  rw[g95L0];have h1:(((k+1:Nat):Int)>0):=O;have h2:(((k+1:Nat):Int)<(S.length:Int)):=O;have h3:((k:Int)<(S.length:Int)):=O;have hp:IntKind.wrap .i64 (((k+1:Nat):Int)-1)=(k:Int):=by rw[wi O O];omega
  have e1:S.getD (k+1) 0≠S.getD (k+1) 0↔False:=by simp
  simp only[bQ,h1,h2,h3,if_true,hp,tN,z81,and_self,g97,g146,bS,bif_ne];rw[q5j m S hb n k O O]
  have e:Qa (le2 S) 0 (k+1)=(Qa (le2 S) 0 k&&le2 S k):=by
   rw[Bool.eq_iff_iff,zF,qy,qy];constructor
   . intro h;exact⟨λi a b=>h i a O,h k O O⟩
   . rintro ⟨g1,g2⟩ i a b
     rcases zq i k with h|h
     . exact g1 i a h
     . have:i=k:=O;rw[this];exact g2
  rw[e];unfold le2;by_cases hlt:S.getD (k+1) 0<S.getD k 0
  . have: ¬S.getD k 0<=S.getD (k+1) 0:=O;simp[-List.getD_eq_getElem?_getD,hlt,this]
  . have:S.getD k 0<=S.getD (k+1) 0:=O;simp[-List.getD_eq_getElem?_getD,hlt,this]
def qes {m:Nat} {S:LI} (h:S.length<m) (h0:0<S.length) (hb:S.length<4611686018427387904):g95 m S=some (Qa (le2 S) 0 (S.length-1),(),()):=by
 rw[g95,show wI ((S.length:Int)-1)=((S.length-1:Nat):Int) by show IntKind.wrap .i64 _=_;rw[wi O O];omega,q5j m S hb m (S.length-1) O O]
 cases Qa (le2 S) 0 (S.length-1)<;>rfl
def ascB (R:Int):Int->LI->Bool
 |_,[]=>true
 |l,x::xs=>(decide (l<x)&&decide (x<R))&&ascB R x xs
def q97 (m:Nat) (R C:Int) (S I V xs:LI) (a b:Int) (hb:xs.length<4611686018427387904): ∀(n k:Nat) (l:Int),xs.length-k<n->
 g56L1 m n R C S I V l a b xs (xs.length:Int) (k:Int)=some (bif ascB R l (xs.drop k)then .inr (.inl ((R,C,S,I,V,()),a,b,()))else .inl (false,()))
 |0,k,_,h=>O
 |n+1,k,l,h=>by
  rw[g56L1];by_cases hk:k<xs.length
  . have h1:((k:Int)<(xs.length:Int)):=O;simp only[bQ,h1,if_true,tN,z81,and_self,wsucc (show k<4611686018427387904 by omega)]
    rw[drop_cons (d:=0) hk,q97 m R C S I V xs a b hb n (k+1) _ O,ascB];by_cases e1:xs.getD k 0<=l
    . have e2: ¬l<xs.getD k 0:=O;simp[-List.getD_eq_getElem?_getD,e1,e2]
    . have e2:l<xs.getD k 0:=O;by_cases e3:xs.getD k 0>=R
      . have e4: ¬xs.getD k 0<R:=O;simp[-List.getD_eq_getElem?_getD,e1,e2,e3,e4]
      . have e4:xs.getD k 0<R:=O;simp[-List.getD_eq_getElem?_getD,e1,e2,e3,e4]
  . have h1: ¬((k:Int)<(xs.length:Int)):=O;simp only[bQ,h1,if_false];rw[drop_nil' hk];rfl
def colOf (S I:LI) (j:Nat):LI:=(I.drop (S.getD j 0).toNat).take ((S.getD (j+1) 0).toNat-(S.getD j 0).toNat)
structure StartOK (C:Nat) (S I:LI):Prop where
 len:S.length=C+1
 s0:S.getD 0 0=0
 mono: ∀j,j<C->S.getD j 0<=S.getD (j+1) 0
 last:S.getD C 0=(I.length:Int)
def StartOK.le {C:Nat} {S I:LI} (h:StartOK C S I): ∀{i j:Nat},i<=j->j<=C->S.getD i 0<=S.getD j 0
 |i,0,h1,h2=>by have:i=0:=O
                subst this;exact zj1 _
 |i,j+1,h1,h2=>by
  rcases zq i (j+1)with h3|h3
  . exact zK3 (h.le O O) (h.mono j O)
  . have:i=j+1:=O;subst this;exact zj1 _
def StartOK.rng {C:Nat} {S I:LI} (h:StartOK C S I) {j:Nat} (hj:j<=C):0<=S.getD j 0/\S.getD j 0<=(I.length:Int):=by
 have a:=h.le (zc1 j) hj;have b:=h.le hj (zD C);rw[h.s0]at a;rw[h.last]at b;exact⟨a,b⟩
def Yx {C:Nat} {S I:LI} (h:StartOK C S I) {j:Nat} (hj:j<C):(colOf S I j).length=(S.getD (j+1) 0).toNat-(S.getD j 0).toNat:=by
 have a:=h.rng (j:=j) O;have b:=h.rng (j:=j+1) O;unfold colOf;rw[zH1,zq2];omega
def q2r {C:Nat} {S I:LI} (h:StartOK C S I) {j:Nat} (hj:j<C) {k:Nat} (hk:k<(colOf S I j).length):(colOf S I j).getD k 0=I.getD ((S.getD j 0).toNat+k) 0:=by
 rw[Yx h hj]at hk;unfold colOf;rw[getD_take hk,getD_drop]
def q92 (m:Nat) (R C:Int) (c:Nat) (S I V:LI) (hC:C=(c:Int)) (hok:StartOK c S I) (hb:I.length<4611686018427387904) (hc:c<4611686018427387904) (hm:I.length<m): ∀(n k:Nat),c-k<n->k<=c->
 g56L0 m n R C S I V C (k:Int)=some (bif Qa (λj=>ascB R (-1) (colOf S I j)) k c then .inr (.inl ())else .inl (false,()))
 |0,k,h,_=>O
 |n+1,k,h,hk0=>by
  rw[g56L0];subst hC;by_cases hk:k<c
  . have h1:((k:Int)<(c:Int)):=O;have hl:=hok.len;have h2:((k:Int)<(S.length:Int)):=O;have h3:(((k+1:Nat):Int)<(S.length:Int)):=O;have a:=hok.rng (j:=k) O;have b:=hok.rng (j:=k+1) O;have d:=hok.mono k hk;have hlen:(colOf S I k).length<=I.length:=by rw[Yx hok hk];omega
    simp only[bQ,h1,h2,h3,if_true,tN,z81,and_self,wsucc (show k<4611686018427387904 by omega),a.1,b.2,d]
    have e:=q97 m R (c:Int) S I V (colOf S I k) (c:Int) (k:Int) O m 0 (-1) O;simp only[zG2,nZ,za2,zI2]at e;unfold colOf at e⊢;rw[e,X6 hk];cases hA:ascB R (-1) ((I.drop (S.getD k 0).toNat).take ((S.getD (k+1) 0).toNat-(S.getD k 0).toNat))
    . simp
    . have:=q92 m R (c:Int) c S I V rfl hok hb hc hm n (k+1) O O;unfold colOf at this;simp only[cond_true,zz1,bS,wsucc (show k<4611686018427387904 by omega)]
      exact this
  . have h1: ¬((k:Int)<(c:Int)):=O;simp only[bQ,h1,if_false];rw[Xm hk];rfl
def entOK (R:Int) (S I:LI) (j k:Nat):Bool:=
 decide (0<=I.getD k 0)&&decide (I.getD k 0<R)&&(!decide ((S.getD j 0).toNat<k)||decide (I.getD (k-1) 0<I.getD k 0))
def q09 (R:Int) (S I:LI) (j:Nat):Bool:=Qa (entOK R S I j) (S.getD j 0).toNat (S.getD (j+1) 0).toNat
def qgl (R:Int) (I:LI) (s e:Nat) (he:e<=I.length): ∀(d k:Nat) (l:Int),e-k=d->s<=k-> -1<=l->(k=s->l= -1)->(s<k->l=I.getD (k-1) 0)->
 ascB R l ((I.drop k).take (e-k))=Qa (λk=>decide (0<=I.getD k 0)&&decide (I.getD k 0<R)&&(!decide (s<k)||decide (I.getD (k-1) 0<I.getD k 0))) k e
 |0,k,l,hd,hk,hl,h1,h2=>by
  rw[hd,Xm O];simp[ascB]
 |d+1,k,l,hd,hk,hl,h1,h2=>by
  have hke:k<e:=O;have hki:k<I.length:=O;rw[X6 hke,drop_cons (d:=0) hki,hd,List.take_succ_cons,ascB];by_cases hx:l<I.getD k 0
  . have ih:=qgl R I s e he d (k+1) (I.getD k 0) O O O O (λ_=>by simp)
    rw[show e-(k+1)=d by omega]at ih
    rw[ih];have h0:0<=I.getD k 0:=O;by_cases hs:s<k
    . have:=h2 hs;simp[-List.getD_eq_getElem?_getD,hx,h0,hs,<-this]
    . simp[-List.getD_eq_getElem?_getD,hx,h0,hs]
  . by_cases hs:s<k
    . have:=h2 hs;simp[-List.getD_eq_getElem?_getD,hx,hs,<-this]
    . have:l= -1:=h1 O;have h0: ¬0<=I.getD k 0:=O;simp[-List.getD_eq_getElem?_getD,hx,h0]
def qcr {R:Int} {C:Nat} {S I:LI} (h:StartOK C S I) {j:Nat} (hj:j<C):ascB R (-1) (colOf S I j)=q09 R S I j:=by
 have a:=h.rng (j:=j) O;have b:=h.rng (j:=j+1) O;exact qgl R I _ _ O _ _ _ rfl (zD _) O (λ_=>rfl) (λh=>absurd h (Nat.lt_irrefl _))
def strB (R C:Int) (S I V:LI):Bool:=
 decide ((S.length:Int)=C+1)&&decide (S.getD 0 0=0)&&Qa (le2 S) 0 C.toNat&&decide (S.getD C.toNat 0=(I.length:Int))&&decide (I.length=V.length)&&Qa (λj=>q09 R S I j) 0 C.toNat
def qip {m:Nat} {R C:Int} {S I V:LI} (hC:0<=C) (hC2:C<=200) (hI:I.length<=10000) (hS:S.length<m) (hm:11000<m) (hb:S.length<4611686018427387904):
 g56 m R C S I V=some (strB R C S I V,(),()):=by
 obtain⟨c,rfl⟩: ∃c:Nat,C=(c:Int):=⟨C.toNat,O⟩;rw[g56,strB];simp only[bif_ne,wi (show(-9223372036854775808:Int)<=(c:Int)+1 by omega) O,tN]
 by_cases h1:(S.length:Int)=(c:Int)+1
 . have hl:S.length=c+1:=O;have h2:(0:Int)<=0/\(0:Int)<(S.length:Int):=O;simp only[h1,if_true,decide_true,zz1];rw[<-h1,iP h2];by_cases h3:S.getD 0 0=0
   . rw[qes hS O hb];simp only[h3,if_true,decide_true,zz1,bS,show S.length-1=c by omega]
     cases h4:Qa (le2 S) 0 c
     . simp
     . have h5:(0:Int)<=(c:Int)/\(c:Int)<(S.length:Int):=O;simp only[bif_not,cond_true,zz1];rw[iP h5];by_cases h6:S.getD c 0=(I.length:Int)
       . by_cases h7:I.length=V.length
         . have h8:(I.length:Int)=(V.length:Int):=O
           have hok:StartOK c S I:=⟨hl,h3,λj hj=>by
            have:=qy.1 h4 j O hj;simpa [-List.getD_eq_getElem?_getD,le2]using this,h6⟩
           have:=q92 m R (c:Int) c S I V rfl hok O O O m 0 O O;simp only[zG2,nZ,za2]at this;rw[iP h6,iP h8,this,qai (q:=λj=>q09 R S I j) (λj _ hj=>qcr hok hj)]
           simp only[h6,h7,decide_true,zz1];cases Qa (λj=>q09 R S I j) 0 c<;>rfl
         . have h8: ¬(I.length:Int)=(V.length:Int):=O;rw[iP h6,iN' h8];simp[h7]
       . rw[iN' h6];simp[-List.getD_eq_getElem?_getD,h6]
   . rw[iN' h3];simp[-List.getD_eq_getElem?_getD,h3]
 . rw[iN' h1];simp[h1]
def chk (R C:Int) (S I V:LI):Int:=
 if(decide (0<=R)&&decide (R<=200)&&decide (0<=C)&&decide (C<=200)&&decide (I.length<=10000))=false then 6 else if strB R C S I V=false then 1 else if finL V=false then 4 else 0
def q3a {m:Nat} {n lo hi:Int}:g28 m n lo hi=some (decide (lo<=n)&&decide (n<=hi),(),(),(),()):=by
 rw[g28];by_cases h:n>=lo
 . have:lo<=n:=h;simp[h,this]
 . have: ¬lo<=n:=h;simp[h,this]
def g27eq {m:Nat} {R C:Int} {S I V:LI} (hS:S.length<m) (hV:V.length<m) (hm:11000<m) (hb:S.length<4611686018427387904) (hv:V.length<4611686018427387904):
 g27 m R C S I V=some (chk R C S I V,(),()):=by
 rw[g27,chk,q3a,q3a];by_cases h1:0<=R<;>by_cases h2:R<=200<;>by_cases h3:0<=C<;>by_cases h4:C<=200<;>simp[h1,h2,h3,h4];by_cases h5:I.length<=10000
 . have h6: ¬(10000:Int)<(I.length:Int):=O;have h7: ¬10000<I.length:=O;rw[qip h3 h4 h5 hS hm hb,q5h hV hv];simp only[h6,h7,h5,if_false,bS];cases strB R C S I V
   . simp
   . cases finL V<;>simp
 . have h6:(10000:Int)<(I.length:Int):=O;have h7:10000<I.length:=O;simp[h5,h6,h7]
end
section
def q74 (m:Nat) (R C:Int) (c:Nat) (S I V:LI) (hC:C=(c:Int)) (hl:S.length=c+1) (hc:c<4611686018427387904): ∀(n k:Nat),c-k<n->k<=c->
 g41L0 m n R C S I V (k:Int)=some (bif Qa (le2 S) k c then .inr (.inl ((R,C,S,I,V,()),()))else .inl (1,()))
 |0,k,h,_=>O
 |n+1,k,h,h0=>by
  rw[g41L0];subst hC;by_cases hk:k<c
  . have h1:((k:Int)<(c:Int)):=O;have h2:((k:Int)<(S.length:Int)):=O;have h3:(((k+1:Nat):Int)<(S.length:Int)):=O;simp only[bQ,h1,h2,h3,if_true,tN,z81,and_self,wsucc (show k<4611686018427387904 by omega)]
    rw[q74 m R (c:Int) c S I V rfl hl hc n (k+1) O O,X6 hk,le2];by_cases hx:S.getD k 0>S.getD (k+1) 0
    . have: ¬S.getD k 0<=S.getD (k+1) 0:=O;simp[-List.getD_eq_getElem?_getD,hx,this]
    . have:S.getD k 0<=S.getD (k+1) 0:=O;simp[-List.getD_eq_getElem?_getD,hx,this]
  . have h1: ¬((k:Int)<(c:Int)):=O;simp only[bQ,h1,if_false];rw[Xm hk];rfl
def q71 (m:Nat) (R C:Int) (c j:Nat) (S I V:LI) (hC:C=(c:Int)) (hok:StartOK c S I) (hj:j<c) (hc:c<4611686018427387904) (hb:I.length<4611686018427387904): ∀(n k:Nat),(S.getD (j+1) 0).toNat-k<n->(S.getD j 0).toNat<=k->
 g41L2 m n R C S I V (j:Int) (k:Int)=some (bif Qa (entOK R S I j) k (S.getD (j+1) 0).toNat then .inr (.inl ((R,C,S,I,V,()),(j:Int),()))else .inl (1,()))
 |0,k,h,_=>O
 |n+1,k,h,h0=>by
  rw[g41L2];subst hC;have hl:=hok.len;have a:=hok.rng (j:=j) O;have b:=hok.rng (j:=j+1) O;have h2:((j:Int)<(S.length:Int)):=O;have h3:(((j+1:Nat):Int)<(S.length:Int)):=O;simp only[bQ,h2,h3,if_true,tN,z81,and_self,wsucc (show j<4611686018427387904 by omega)]
  by_cases hk:k<(S.getD (j+1) 0).toNat
  . have h1:((k:Int)<S.getD (j+1) 0):=O;have h4:((k:Int)<(I.length:Int)):=O;simp only[h1,h4,if_true,and_self,wsucc (show k<4611686018427387904 by omega)]
    rw[q71 m R (c:Int) c j S I V rfl hok hj hc hb n (k+1) O O,X6 hk,entOK];by_cases e1:I.getD k 0<0
    . have e2: ¬0<=I.getD k 0:=O;simp only[e1,e2,if_true,decide_false,zn2,cond_false]
    . have e2:0<=I.getD k 0:=O;by_cases e3:I.getD k 0>=R
      . have e4: ¬I.getD k 0<R:=O;simp only[e1,e2,e3,e4,if_true,if_false,decide_false,decide_true,zn2,zz1,cond_false]
      . have e4:I.getD k 0<R:=O;simp only[e1,e2,e3,e4,if_false,decide_true,zz1];by_cases e5:(k:Int)>S.getD j 0
        . have e6:(S.getD j 0).toNat<k:=O;have e7:(0:Int)<=((k-1:Nat):Int)/\((k-1:Nat):Int)<(I.length:Int):=O;simp only[e5,e6,if_true,decide_true,zP2,Bool.false_or,wpred (show k<4611686018427387904 by omega) (show 0<k by omega),e7,and_self,tN]
          by_cases e8:I.getD k 0<=I.getD (k-1) 0
          . have e9: ¬I.getD (k-1) 0<I.getD k 0:=O;simp only[e8,e9,if_true,decide_false,zn2,cond_false]
          . have e9:I.getD (k-1) 0<I.getD k 0:=O;simp only[e8,e9,if_false,decide_true,zz1]
        . have e6: ¬(S.getD j 0).toNat<k:=O;simp only[e5,e6,if_false,decide_false,zL3,zh3,zz1]
  . have h1: ¬((k:Int)<S.getD (j+1) 0):=O;simp only[h1,if_false];rw[Xm hk];rfl
def q77 (m:Nat) (R C:Int) (c:Nat) (S I V:LI) (hC:C=(c:Int)) (hok:StartOK c S I) (hc:c<4611686018427387904) (hb:I.length<4611686018427387904) (hm:I.length<m): ∀(n k:Nat),c-k<n->k<=c->
 g41L1 m n R C S I V (k:Int)=some (bif Qa (λj=>q09 R S I j) k c then .inr (.inl ((R,C,S,I,V,()),()))else .inl (1,()))
 |0,k,h,_=>O
 |n+1,k,h,h0=>by
  rw[g41L1];subst hC;have hl:=hok.len;by_cases hk:k<c
  . have h1:((k:Int)<(c:Int)):=O;have h2:((k:Int)<(S.length:Int)):=O;have a:=hok.rng (j:=k) O;have b:=hok.rng (j:=k+1) O;have e:=q71 m R (c:Int) c k S I V rfl hok hk hc hb m (S.getD k 0).toNat O (zD _);rw[show(((S.getD k 0).toNat:Nat):Int)=S.getD k 0 by omega]at e
    simp only[bQ,h1,h2,if_true,tN,z81,and_self];rw[e,X6 hk];show _=some (bif (q09 R S I k&&_)then _ else _)
    rw[q09];cases Qa (entOK R S I k) (S.getD k 0).toNat (S.getD (k+1) 0).toNat
    . rfl
    . simp only[cond_true,zz1,bS,wsucc (show k<4611686018427387904 by omega)]
      exact q77 m R (c:Int) c S I V rfl hok hc hb hm n (k+1) O O
  . have h1: ¬((k:Int)<(c:Int)):=O;simp only[bQ,h1,if_false];rw[Xm hk];rfl
def qb5 {m:Nat} {R C:Int} {S I V:LI} (hV:V.length<m) (hm:11000<m) (hv:V.length<4611686018427387904):
 g41 m R C S I V=some (chk R C S I V,(),()):=by
 rw[g41,chk];by_cases h1:0<=R
 . have h1': ¬R<0:=O;by_cases h2:R<=200
   . have h2': ¬R>200:=O;by_cases h3:0<=C
     . have h3': ¬C<0:=O;by_cases h4:C<=200
       . have h4': ¬C>200:=O;by_cases h5:I.length<=10000
         . have h5': ¬(I.length:Int)>10000:=O;obtain⟨c,rfl⟩: ∃c:Nat,C=(c:Int):=⟨C.toNat,O⟩;simp only[bQ,h1,h1',h2,h2',h3,h3',h4,h4',h5,h5',if_false,decide_true,zf3,Bool.true_eq_false,strB,bif_ne,wi (show(-9223372036854775808:Int)<=(c:Int)+1 by omega) O,tN]
           by_cases g1:I.length=V.length
           . have g1':(V.length:Int)=(I.length:Int):=O;simp only[g1',if_true];by_cases g2:(S.length:Int)=(c:Int)+1
             . have hl:S.length=c+1:=O;have g3:(0:Int)<=0/\(0:Int)<(S.length:Int):=O;simp only[g2,if_true];rw[<-g2,iP g3];by_cases g4:S.getD 0 0=0
               . have g5:(True/\(c:Int)<(S.length:Int)):=⟨trivial,O⟩;simp only[g4,if_true];rw[iP g5];by_cases g6:S.getD c 0=(I.length:Int)
                 . simp only[g6,if_true];have e0:=q74 m R (c:Int) c S I V rfl hl O m 0 O O;simp only[zG2,nZ,za2]at e0;rw[e0];cases h7:Qa (le2 S) 0 c
                   . simp
                   . have hok:StartOK c S I:=⟨hl,g4,λj hj=>by
                      have:=qy.1 h7 j O hj;simpa [-List.getD_eq_getElem?_getD,le2]using this,g6⟩
                     have e1:=q77 m R (c:Int) c S I V rfl hok O O O m 0 O O;simp only[zG2,nZ,za2]at e1;simp only[cond_true,bS];rw[e1];cases h8:Qa (λj=>q09 R S I j) 0 c
                     . simp
                     . simp only[cond_true,bS,qlc hV hv,bif_not];cases finL V<;>simp[g1]
                 . simp[-List.getD_eq_getElem?_getD,g6]
               . simp[-List.getD_eq_getElem?_getD,g4]
             . simp[g2]
           . have g1': ¬(V.length:Int)=(I.length:Int):=O;simp[g1,g1']
         . have h5':(I.length:Int)>10000:=O;simp[h1',h2',h3',h4',h5,h5']
       . have h4':C>200:=O;simp[h1',h2',h3',h4,h4']
     . have h3':C<0:=O;simp[h1',h2',h3,h3']
   . have h2':R>200:=O;simp[h1',h2,h2']
 . have h1':R<0:=O;simp[h1,h1']
end
section
def qrh (R:Nat) (E:List LI):Prop:= ∀j,∀i∈E.getD j [],0<=i/\i<(R:Int)
def big:Nat:=2305843009213693952
end
section
def q0h (C:Nat) (S I:LI):List LI:=(List.range C).map (colOf S I)
def q1w {C:Nat} {S I:LI} {j:Nat} (hj:j<C):(q0h C S I).getD j []=colOf S I j:=by
 simp[q0h,List.getD,hj]
structure MatOK (R C:Nat) (S I:LI):Prop where
 st:StartOK C S I
 ent: ∀j,j<C->q09 (R:Int) S I j=true
 sz:I.length<=10000
 cz:C<=200
 rz:R<=200
def MatOK.row {R C:Nat} {S I:LI} (h:MatOK R C S I) {j:Nat} (hj:j<C) {k:Nat} (h1:(S.getD j 0).toNat<=k) (h2:k<(S.getD (j+1) 0).toNat):0<=I.getD k 0/\I.getD k 0<(R:Int):=by
 have:=qy.1 (h.ent j hj) k h1 h2;simp only[entOK,zF,decide_eq_true_eq]at this;exact this.1
def MatOK.edge {R C:Nat} {S I:LI} (h:MatOK R C S I):qrh R (q0h C S I):=by
 intro j i hi;by_cases hj:j<C
 . rw[q1w hj]at hi;obtain⟨k,hk,e⟩:=q2i (d:=0) hi;rw[q2r h.st hj hk]at e;rw[Yx h.st hj]at hk;rw[<-e];exact h.row hj O O
 . simp[q0h,List.getD,hj]at hi
def MatOK.len {R C:Nat} {S I:LI} (h:MatOK R C S I) (j:Nat):((q0h C S I).getD j []).length<big:=by
 by_cases hj:j<C
 . rw[q1w hj,Yx h.st hj];have:=h.st.rng (j:=j+1) O;have:=h.sz;have hb:(2305843009213693952:Nat)=big:=rfl;omega
 . simp[q0h,List.getD,hj,big]
end
section
def qqu {R C:Int} {S I V:LI} (h:chk R C S I V=0): ∃r c:Nat,R=(r:Int)/\C=(c:Int)/\MatOK r c S I/\V.length=I.length/\finL V=true:=by
 unfold chk at h;split at h
 . omega
 . rename_i h1;split at h
   . omega
   . rename_i h2;split at h
     . omega
     . rename_i h3;simp only[Bool.not_eq_false,zF,decide_eq_true_eq]at h1 h2 h3;obtain⟨⟨⟨⟨a1,a2⟩,a3⟩,a4⟩,a5⟩:=h1;simp only[strB,zF,decide_eq_true_eq]at h2;obtain⟨⟨⟨⟨⟨b1,b2⟩,b3⟩,b4⟩,b5⟩,b6⟩:=h2;refine⟨R.toNat,C.toNat,O,O,⟨⟨O,b2,λj hj=> ?_,b4⟩,λj hj=> ?_,a5,O,O⟩,b5.symm,h3⟩
       . have:=qy.1 b3 j O hj;simpa [-List.getD_eq_getElem?_getD,le2]using this
       . have:=qy.1 b6 j O hj;rw[show((R.toNat:Nat):Int)=R by omega];exact this
end
section
def qcy {xs:LI} {k:Nat} (h:k<xs.length):xs.getD k 0∈xs:=by simp[List.getD,h]
section
variable {E:List LI} {R C:Nat}
end
end
section
def qe5 {R C:Nat} {S I:LI} (h:MatOK R C S I) {j:Nat} (hj:j<C):colOf S I j=(List.range' (S.getD j 0).toNat ((S.getD (j+1) 0).toNat-(S.getD j 0).toNat)).map λt=>I.getD t 0:=by
 refine qne 0 (by rw[Yx h.st hj];simp) λk hk=> ?_
 rw[q2r h.st hj hk];rw[Yx h.st hj]at hk;have e: ∀s n,k<n->(List.range' s n)[k]? =some (s+k):=λs n h=>by rw[List.getElem?_range' h,zo2]
 have e2: ∀l:List Nat,(l.map λt=>I.getD t 0).getD k 0=((l[k]?).map λt=>I.getD t 0).getD 0:=λl=>by rw[List.getD,List.getElem?_map]
 rw[e2,e _ _ hk];rfl
section
variable {R C:Nat} {S I V:LI}
def Yf (S I V:LI) (j k e:Nat):List (Int×Int×Int):=(List.range' k (e-k)).map λt=>(I.getD t 0,(j:Int),V.getD t 0)
def ents (S I V:LI):Nat->Nat->List (Int×Int×Int)
 |0,_=>[]
 |d+1,k=>Yf S I V k (S.getD k 0).toNat (S.getD (k+1) 0).toNat++ents S I V d (k+1)
def q85 {j k e:Nat}:(Yf S I V j k e).length=e-k:=by simp[Yf]
def qfj {j k e:Nat} (h:k<e):Yf S I V j k e=(I.getD k 0,(j:Int),V.getD k 0)::Yf S I V j (k+1) e:=by
 unfold Yf;rw[show e-k=(e-(k+1))+1 by omega,zr2];rfl
def q83 (m:Nat) (hM:MatOK R C S I) (hV:V.length=I.length) {j:Nat} (hj:j<C): ∀(n k:Nat) (out:List (Int×Int×Int)),(S.getD (j+1) 0).toNat-k<n->out.length<=k->
 g17L1 m n (R:Int) (C:Int) S I V out (j:Int) (k:Int)=some (.inl (((R:Int),(C:Int),S,I,V,()),out++Yf S I V j k (S.getD (j+1) 0).toNat,(j:Int),()))
 |0,k,out,h,_=>O
 |n+1,k,out,h,ho=>by
  have hl:=hM.st.len;have hcz:=hM.cz;have hiz:=hM.sz;have b:=hM.st.rng (j:=j+1) O;rw[g17L1];simp only[wsucc (show j<4611686018427387904 by omega),tN,bQ]
  rw[iP O];by_cases hk:k<(S.getD (j+1) 0).toNat
  . rw[iP O,iP O,iP O,iP (by simp;omega),qfj hk]
    simp only[wsucc (show k<4611686018427387904 by omega)]
    rw[q83 m hM hV hj n (k+1) _ O (by simp;omega)]
    simp
  . rw[iN' O];rw[Yf,show(S.getD (j+1) 0).toNat-k=0 by omega];simp
def q93 (m:Nat) (hm:20000<m) (hM:MatOK R C S I) (hV:V.length=I.length): ∀(d n k:Nat) (out:List (Int×Int×Int)),C-k=d->k<=C->d<n->out.length=(S.getD k 0).toNat->
 g17L0 m n (R:Int) (C:Int) S I V out (k:Int)=some (.inl (out++ents S I V d k,()))
 |0,n,k,out,hd,hk0,hn,ho=>by
  obtain⟨n,rfl⟩: ∃n',n=n'+1:=⟨n-1,O⟩;rw[g17L0,bQ,iN' O];simp[ents]
 |d+1,n,k,out,hd,hk0,hn,ho=>by
  have hl:=hM.st.len;have hcz:=hM.cz;have hiz:=hM.sz;have hk:k<C:=O;have a:=hM.st.rng (j:=k) O;have b:=hM.st.rng (j:=k+1) O;have dd:=hM.st.mono k hk;obtain⟨n,rfl⟩: ∃n',n=n'+1:=⟨n-1,O⟩;have e:=q83 (V:=V) m hM hV hk m (S.getD k 0).toNat out O O;rw[show(((S.getD k 0).toNat:Nat):Int)=S.getD k 0 by omega]at e
  rw[g17L0,bQ,iP O,iP O];simp only[tN];rw[e];simp only[bS,wsucc (show k<4611686018427387904 by omega)]
  rw[q93 m hm hM hV d n (k+1) _ O O O (by rw[zO,q85];omega),ents]
  simp
def qif {m:Nat} (hm:20000<m) (hM:MatOK R C S I) (hV:V.length=I.length) (hc:chk (R:Int) (C:Int) S I V=0):g17 m (R:Int) (C:Int) S I V=some (ents S I V C 0,(),()):=by
 have hiz:=hM.sz;rw[g17,qb5 O O O,hc];have:=q93 (V:=V) m hm hM hV C m 0 [] O O (by have:=hM.cz;omega) (by rw[hM.st.s0];rfl)
 simp only[zG2,nZ,za2,zT2]at this;simp only[bS,bif_ne,if_true,this]
def qho {p:Int->Int->Bool} (hM:MatOK R C S I) {j:Nat} (hj:j<C):(Yf S I V j (S.getD j 0).toNat (S.getD (j+1) 0).toNat).all (λe=>p e.1 e.2.1)=(colOf S I j).all (λi=>p i (j:Int)):=by
 rw[qe5 hM hj,Yf,List.all_map,List.all_map];rfl
def qg7 {p:Int->Int->Bool} (hM:MatOK R C S I): ∀(d k:Nat),C-k=d->k<=C->(ents S I V d k).all (λe=>p e.1 e.2.1)=Qa (λj=>((q0h C S I).getD j []).all (λi=>p i (j:Int))) k C
 |0,k,hd,hk=>by rw[Xm O];rfl
 |d+1,k,hd,hk=>by
  rw[ents,List.all_append,qho hM (by omega:k<C),qg7 hM d (k+1) O O,X6 (by omega:k<C),q1w O]
def qfq (hM:MatOK R C S I): ∀(d k:Nat),C-k=d->k<=C->(ents S I V d k).length=(S.getD C 0).toNat-(S.getD k 0).toNat
 |0,k,hd,hk=>by
  have:k=C:=O;subst this;simp[ents]
 |d+1,k,hd,hk=>by
  have a:=hM.st.rng (j:=k) O;have b:=hM.st.rng (j:=k+1) O;have c:=hM.st.rng (j:=C) O;have dd:=hM.st.mono k O;have e:=hM.st.le (i:=k+1) (j:=C) O O;rw[ents,zO,q85,qfq hM d (k+1) O O];omega
end
end
section
def qkz (a:Int):0<=IntKind.wrap .u64 a/\IntKind.wrap .u64 a<18446744073709551616:=by
 have e:IntKind.wrap .u64 a=a%18446744073709551616:=by
  unfold IntKind.wrap;show(if(false&&decide (a%18446744073709551616>=9223372036854775808))=true then a%18446744073709551616-18446744073709551616 else a%18446744073709551616)=_
  simp only[zn2];rfl
 rw[e];omega
def qr9 (a:Int): ∃x:Nat,IntKind.wrap .u64 a=(x:Int)/\x<18446744073709551616:=
 ⟨(IntKind.wrap .u64 a).toNat,by have:=qkz a;omega,by have:=qkz a;omega⟩
def tm (x n:Nat):Int.tmod (x:Int) (n:Int)=((x%n:Nat):Int):=by
 rw[Int.tmod_eq_emod_of_nonneg O];rfl
def td (x n:Nat):Int.tdiv (x:Int) (n:Int)=((x/n:Nat):Int):=by
 rw[Int.tdiv_eq_ediv_of_nonneg O];rfl
end
section
abbrev Ent:=Int×Int×Int
def Q7 (es:List Ent) (i j:Nat):Nat->Nat
 |0=>0
 |t+1=>if(es.getD t (0,(0,0))).1=(i:Int)/\(es.getD t (0,(0,0))).2.1=(j:Int)then t+1 else Q7 es i j t
def q34 (es:List Ent) (i j:Nat): ∀t,Q7 es i j t<=t
 |0=>zD _
 |t+1=>by
  rw[Q7];split
  . exact zD _
  . exact Nat.le_succ_of_le (q34 es i j t)
def EntsOK (r c:Nat) (es:List Ent):Prop:= ∀k,k<es.length->
 (0<=(es.getD k (0,(0,0))).1/\(es.getD k (0,(0,0))).1<(r:Int))/\(0<=(es.getD k (0,(0,0))).2.1/\(es.getD k (0,(0,0))).2.1<(c:Int))/\finB (es.getD k (0,(0,0))).2.2=true
def cell {r c i j:Nat} (hi:i<r) (hj:j<c):j*r+i<r*c:=by
 have h1:(j+1)*r<=c*r:=zN r hj;have h2:=zi3 j r;have h3:=zh r c;simp only[Nat.succ_eq_add_one]at h2;omega
def qm5 {r i j i' j':Nat} (hi:i<r) (hi':i'<r) (h:j*r+i=j'*r+i'):i=i'/\j=j':=by
 rcases zM3 j j' with h1|h1|h1
 . have:=cell (c:=j') hi h1;have:=zh r j';omega
 . subst h1;exact⟨O,rfl⟩
 . have:=cell (c:=j) hi' h1;have:=zh r j;omega
def area {r c:Nat} (hr:r<=200) (hc:c<=200):r*c<=40000:=zD2 hr hc
def wcell {r c i j:Nat} (hr:r<=200) (hc:c<=200) (hi:i<r) (hj:j<c):IntKind.wrap .i64 ((IntKind.wrap .i64 ((j:Int)*(r:Int)))+(i:Int))=((j*r+i:Nat):Int):=by
 have h1:=cell hi hj;have h2:=area hr hc;have e:(j:Int)*(r:Int)=((j*r:Nat):Int):=(zi1 j r).symm;rw[e,wi (n:=((j*r:Nat):Int)) O O,wi O O];omega
variable {es:List Ent} {r c:Nat}
def qlb (m:Nat) (hE:EntsOK r c es) (hr:r<=200) (hc:c<=200) (hl:es.length<=1000000) (a0 a1:Int) (a2 a3 a4:LI) (b0 b1:Int) (b2 b3 b4:LI): ∀(n k:Nat) (pos:LI),es.length-k<n->k<=es.length->pos.length=r*c->
 (∀i j,i<r->j<c->pos.getD (j*r+i) 0=(Q7 es i j k:Int))->
 ∃pos',g18L0 m n (r:Int) (c:Int) es a0 a1 a2 a3 a4 b0 b1 b2 b3 b4 pos (k:Int)=some (.inl ((r:Int),(c:Int),es,(a0,a1,a2,a3,a4,()),(b0,b1,b2,b3,b4,()),pos',()))/\pos'.length=r*c/\ ∀i j,i<r->j<c->pos'.getD (j*r+i) 0=(Q7 es i j es.length:Int)
 |0,k,pos,hn,_,_,_=>absurd hn (zW _)
 |n+1,k,pos,hn,hk,hp,hq=>by
  rw[g18L0];by_cases h:k<es.length
  . have h1:(k:Int)<(es.length:Int):=O;obtain⟨⟨g1,g2⟩,⟨g3,g4⟩,_⟩:=hE k h;obtain⟨i0,hi0⟩: ∃i0:Nat,(es.getD k (0,(0,0))).1=(i0:Int):=⟨_,(Int.toNat_of_nonneg g1).symm⟩;obtain⟨j0,hj0⟩: ∃j0:Nat,(es.getD k (0,(0,0))).2.1=(j0:Int):=⟨_,(Int.toNat_of_nonneg g3).symm⟩;have hi:i0<r:=O;have hj:j0<c:=O;have hce:=cell hi hj;rw[bQ,iP h1];simp only[tN,hi0,hj0,wI,wcell hr hc hi hj,wsucc (k:=k) O,zK];rw[iP (inr h),iP (inr h),iP O];refine qlb m hE hr hc hl a0 a1 a2 a3 a4 b0 b1 b2 b3 b4 n (k+1) _ O O (by simp[hp]) ?_
    intro i j hi' hj';rw[Q7,hi0,hj0];by_cases he:j0*r+i0=j*r+i
    . obtain⟨e1,e2⟩:=qm5 hi hi' he;subst e1;subst e2;rw[q1y O,iP ⟨rfl,rfl⟩]
    . rw[getD_set_ne he,iN',hq i j hi' hj']
      rintro ⟨e1,e2⟩
      exact he (by rw[show i0=i by omega,show j0=j by omega])
  . have h1: ¬(k:Int)<(es.length:Int):=O;have hke:k=es.length:=O;simp only[bQ,h1,if_false];exact⟨pos,rfl,hp,λi j hi hj=>by rw[hq i j hi hj,hke]⟩
def colR (es:List Ent) (j i d:Nat):List Nat:=(List.range' i d).filter λi=>decide (0<Q7 es i j es.length)
def colI (es:List Ent) (j i d:Nat):LI:=(colR es j i d).map λi:Nat=>(i:Int)
def colV (es:List Ent) (j i d:Nat):LI:=(colR es j i d).map λi:Nat=>(es.getD (Q7 es i j es.length-1) (0,(0,0))).2.2
def qmf {j i d:Nat}:(colR es j i d).length<=d:=by
 have:=List.length_filter_le (λi=>decide (0<Q7 es i j es.length)) (List.range' i d)
 simpa [colR]using this
def qdu (m:Nat) (hr:r<=200) (hc:c<=200) (hl:es.length<=1000000) (a0 a1:Int) (a2 a3 a4:LI) (b0 b1:Int) (S:LI) {pos:LI} (hp:pos.length=r*c)
 (hq: ∀i j,i<r->j<c->pos.getD (j*r+i) 0=(Q7 es i j es.length:Int)) {j:Nat} (hj:j<c): ∀(d n i:Nat) (I V:LI),d<n->r-i=d->i<=r->I.length+d<=1000000->V.length+d<=1000000->
 g18L2 m n (r:Int) (c:Int) es a0 a1 a2 a3 a4 b0 b1 S I V pos (j:Int) (i:Int)=some (.inl ((r:Int),(c:Int),es,(a0,a1,a2,a3,a4,()),(b0,b1,S,I++colI es j i d,V++colV es j i d,()),pos,(j:Int),()))
 |d,0,i,I,V,hn,_,_,_,_=>absurd hn (zW _)
 |0,n+1,i,I,V,hn,hd,hi,hI,hV=>by
  rw[g18L2];have h1: ¬(i:Int)<(r:Int):=O;simp[bQ,h1,colI,colV,colR]
 |d+1,n+1,i,I,V,hn,hd,hi,hI,hV=>by
  rw[g18L2];have hir:i<r:=O;have h1:(i:Int)<(r:Int):=O;have hce:=cell hir hj;have hle:=q34 es i j es.length;rw[bQ,iP h1];simp only[bQ,tN,wI,wcell hr hc hir hj,wsucc (k:=i) O,zK,hq i j hir hj];rw[iP O];by_cases hx:0<Q7 es i j es.length
  . have h2:(Q7 es i j es.length:Int)>0:=O;have h3:I.length+([(i:Int)]:LI).length<=1073741824:=by simp;omega
    rw[iP h2,iP h3,wpred O hx,tN];have h4: ∀x:Int,V.length+([x]:LI).length<=1073741824:=by intro x;simp;omega
    rw[iP O,iP (h4 _)];rw[qdu m hr hc hl a0 a1 a2 a3 a4 b0 b1 S hp hq hj d n (i+1) _ _ O O O (by simp;omega) (by simp;omega)]
    have e1:colR es j i (d+1)=i::colR es j (i+1) d:=by
     unfold colR;rw[zr2,zr1,iP (by simpa using hx)]
    simp only[colI,colV,e1,zX1,zG1,zl1]
  . have h2: ¬(Q7 es i j es.length:Int)>0:=O;rw[iN' h2];rw[qdu m hr hc hl a0 a1 a2 a3 a4 b0 b1 S hp hq hj d n (i+1) _ _ O O O O O]
    have e1:colR es j i (d+1)=colR es j (i+1) d:=by
     unfold colR;rw[zr2,zr1,iN' (by simpa using hx)]
    simp only[colI,colV,e1]
def packI (es:List Ent) (r:Nat):Nat->LI
 |0=>[]
 |j+1=>packI es r j++colI es j 0 r
def packV (es:List Ent) (r:Nat):Nat->LI
 |0=>[]
 |j+1=>packV es r j++colV es j 0 r
def packS (es:List Ent) (r j:Nat):LI:=(List.range (j+1)).map λt=>((packI es r t).length:Int)
def Ja (es:List Ent) (r:Nat): ∀j,(packV es r j).length=(packI es r j).length
 |0=>rfl
 |j+1=>by simp[packV,packI,Ja es r j,colI,colV]
def q2e (es:List Ent) (r:Nat): ∀j,(packI es r j).length<=j*r
 |0=>by simp[packI]
 |j+1=>by
  have:=q2e es r j;have h2:=qmf (es:=es) (j:=j) (i:=0) (d:=r);rw[zi3];simp only[packI,zO,colI,zh1];omega
def qhh (es:List Ent) (r j:Nat):packS es r (j+1)=packS es r j++[((packI es r (j+1)).length:Int)]:=by
 simp[packS,List.range_succ]
def qjm (m:Nat) (hm:300<m) (hr:r<=200) (hc:c<=200) (hl:es.length<=1000000) (a0 a1:Int) (a2 a3 a4:LI) (b0 b1:Int) {pos:LI} (hp:pos.length=r*c)
 (hq: ∀i j,i<r->j<c->pos.getD (j*r+i) 0=(Q7 es i j es.length:Int)): ∀(d n j:Nat),d<n->c-j=d->j<=c->
 g18L1 m n (r:Int) (c:Int) es a0 a1 a2 a3 a4 b0 b1 (packS es r j) (packI es r j) (packV es r j) pos (j:Int)=some (.inl ((a0,a1,a2,a3,a4,()),(b0,b1,packS es r c,packI es r c,packV es r c,()),()))
 |d,0,j,hn,_,_=>absurd hn (zW _)
 |0,n+1,j,hn,hd,hj=>by
  rw[g18L1];have h1: ¬(j:Int)<(c:Int):=O;have:j=c:=O;subst this;simp[bQ]
 |d+1,n+1,j,hn,hd,hj=>by
  rw[g18L1];have hjc:j<c:=O;have h1:(j:Int)<(c:Int):=O;have l1:=q2e es r j;have l2:=Ja es r j;have l3:j*r<=40000:=area (r:=j) (c:=r) O hr;have:=qdu m hr hc hl a0 a1 a2 a3 a4 b0 b1 (packS es r j) hp hq hjc r m 0 (packI es r j) (packV es r j) O O O O O;simp only[nZ]at this;simp only[bQ,h1,if_true,this,bS];have h3: ∀x:Int,(packS es r j).length+([x]:LI).length<=1073741824:=by intro x;simp[packS];omega
  rw[iP (h3 _),show wI ((j:Int)+1)=((j+1:Nat):Int)from wsucc O]
  have e:=qjm m hm hr hc hl a0 a1 a2 a3 a4 b0 b1 hp hq d n (j+1) O O O;rw[qhh]at e;simp only[packI,packV]at e;exact e
def qq4 {m:Nat} (hE:EntsOK r c es) (hr:r<=200) (hc:c<=200) (hl:es.length<=1000000) (hm:1000300<m):
 g18 m (r:Int) (c:Int) es=some (((r:Int),(c:Int),packS es r c,packI es r c,packV es r c,()),(),(),(),()):=by
 have ha:=area hr hc;have e:(r:Int)*(c:Int)=((r*c:Nat):Int):=(zi1 r c).symm;rw[g18];simp only[wI,e];rw[wi (n:=((r*c:Nat):Int)) O O,iP O,tN]
 obtain⟨pos,h1,h2,h3⟩:=qlb m hE hr hc hl 0 0 [] [] [] (r:Int) (c:Int) [0] [] [] m 0 (List.replicate (r*c) 0) O O (by simp) (by
  intro i j hi hj;rw[Xh (cell hi hj)];rfl)
 simp only[nZ]at h1;rw[h1];simp only[bS];have:=qjm m O hr hc hl 0 0 [] [] [] (r:Int) (c:Int) h2 h3 c m 0 O O O;simp only[nZ,packI,packV]at this;rw[show([0]:LI)=packS es r 0 from rfl,this]
 rfl
end
section
variable {es:List Ent} {r c:Nat}
def Yp {t:Nat} (h:t<=c):(packS es r c).getD t 0=((packI es r t).length:Int):=by
 have:t<c+1:=O;simp[packS,List.getD,this]
def q3b {t:Nat}: ∀d,∃zs,packI es r (t+d)=packI es r t++zs
 |0=>⟨[],by simp⟩
 |d+1=>by
  obtain⟨zs,h⟩:=q3b (t:=t) d;exact⟨zs++colI es (t+d) 0 r,by rw[<-Nat.add_assoc,packI,h,zG1]⟩
def qic {t u:Nat} (h:t<=u):(packI es r t).length<=(packI es r u).length:=by
 obtain⟨zs,e⟩:=q3b (es:=es) (r:=r) (t:=t) (u-t);rw[show t+(u-t)=u by omega]at e
 rw[e];simp
def qis {j:Nat} (hj:j<c):colOf (packS es r c) (packI es r c) j=colI es j 0 r:=by
 unfold colOf;rw[Yp O,Yp O,tN,tN];obtain⟨zs,e⟩:=q3b (es:=es) (r:=r) (t:=j+1) (c-(j+1));rw[show j+1+(c-(j+1))=c by omega]at e
 rw[e,packI,zG1,List.drop_left,zO,Nat.add_sub_cancel_left,List.take_left]
def q7v:StartOK c (packS es r c) (packI es r c) where
 len:=by simp[packS]
 s0:=by rw[Yp (zc1 _)];rfl
 mono j hj:=by
  rw[Yp O,Yp O];have:=qic (es:=es) (r:=r) (show j<=j+1 by omega)
  omega
 last:=Yp (zD _)
def qgn {R:Int} {j:Nat}: ∀(d i:Nat) (l:Int),l<(i:Int)->((i+d:Nat):Int)<=R->ascB R l (colI es j i d)=true
 |0,i,l,h,hR=>by simp[colI,colR,ascB]
 |d+1,i,l,h,hR=>by
  have ih:=qgn (R:=R) (j:=j) d (i+1);by_cases hx:0<Q7 es i j es.length
  . have e1:colI es j i (d+1)=(i:Int)::colI es j (i+1) d:=by
     unfold colI colR;rw[zr2,zr1,iP (by simpa using hx),zX1]
    have h2:(i:Int)<R:=O;rw[e1,ascB,ih (i:Int) O O];simp[h,h2]
  . have e1:colI es j i (d+1)=colI es j (i+1) d:=by
     unfold colI colR;rw[zr2,zr1,iN' (by simpa using hx)]
    rw[e1,ih l O O]
def qeg (hr:r<=200) (hc:c<=200) (ha:c*r<=10000):MatOK r c (packS es r c) (packI es r c) where
 st:=q7v
 ent j hj:=by
  rw[<-qcr q7v hj,qis hj];exact qgn r 0 (-1) O O
 sz:=zT (q2e es r c) ha
 cz:=hc
 rz:=hr
def qmv (hE:EntsOK r c es) {j i d:Nat} {x:Int} (h:x∈colV es j i d):finB x=true:=by
 obtain⟨i',h1,h2⟩:=zM.1 h;have h3:=zR1.1 h1;have h4:=of_decide_eq_true h3.2;have h5:=q34 es i' j es.length;rw[<-h2];exact(hE _ O).2.2
def qcq (hE:EntsOK r c es) {x:Int}: ∀j,x∈packV es r j->finB x=true
 |0,h=>by cases h
 |j+1,h=>by
  rcases zL.1 h with h|h
  . exact qcq hE j h
  . exact qmv hE h
def qm0 (hE:EntsOK r c es) (hr:r<=200) (hc:c<=200) (ha:c*r<=10000):chk (r:Int) (c:Int) (packS es r c) (packI es r c) (packV es r c)=0:=by
 have hM:=qeg (es:=es) hr hc ha;have hs:=hM.st;have hsz:=hM.sz
 have e1:finL (packV es r c)=true:=by
  unfold finL;refine qy.2 λi _ h=> ?_
  exact qcq hE c (qcy h)
 have e2:strB (r:Int) (c:Int) (packS es r c) (packI es r c) (packV es r c)=true:=by
  unfold strB;simp only[zF,decide_eq_true_eq,tN];refine⟨⟨⟨⟨⟨by rw[hs.len];omega,hs.s0⟩,?_⟩,hs.last⟩,(Ja es r c).symm⟩,?_⟩
  . exact qy.2 λi _ h=>decide_eq_true (hs.mono i h)
  . exact qy.2 λi _ h=>hM.ent i h
 have e0:(decide (0<=(r:Int))&&decide ((r:Int)<=200)&&decide (0<=(c:Int))&&decide ((c:Int)<=200)&&decide ((packI es r c).length<=10000))=true:=by
  simp only[zF,decide_eq_true_eq];omega
 unfold chk;rw[e0,e1,e2];rfl
def EntsOK.snoc (h:EntsOK r c es) {a b v:Int} (h1:0<=a/\a<(r:Int)) (h2:0<=b/\b<(c:Int)) (h3:finB v=true):EntsOK r c (es++[(a,(b,v))]):=by
 intro k hk;rw[zO,List.length_singleton]at hk;by_cases h':k<es.length
 . rw[q3n h'];exact h k h'
 . have:k-es.length=0:=O;rw[q2c O,this];exact⟨h1,h2,h3⟩
end
section
def qh1 {S I V:LI} {R C:Nat} (hM:MatOK R C S I) {e:Ent}: ∀(d k:Nat),C-k=d->k<=C->e∈ents S I V d k-> ∃t,t<I.length/\e.2.2=V.getD t 0
 |0,k,hd,hk,h=>by simp[ents]at h
 |d+1,k,hd,hk,h=>by
  rw[ents,zL]at h;rcases h with h|h
  . obtain⟨t,h1,h2⟩:=zM.1 h;have h3:=zW2.1 h1;have b:=hM.st.rng (j:=k+1) O;have a:=hM.st.rng (j:=k) O;exact⟨t,O,by rw[<-h2]⟩
  . exact qh1 hM d (k+1) O O h
def qqb {S I V:LI} {R C:Nat} (hM:MatOK R C S I) (hV:V.length=I.length) (hf:finL V=true):EntsOK R C (ents S I V C 0):=by
 intro k hk;have hm:(ents S I V C 0).getD k (0,(0,0))∈ents S I V C 0:=by simp[List.getD,hk]
 have h:=qg7 (V:=V) (p:=λa b=>decide (0<=a)&&decide (a<(R:Int))&&decide (0<=b)&&decide (b<(C:Int))) hM C 0 O O
 have h4:Qa (λj'=>((q0h C S I).getD j' []).all (λa=>decide (0<=a)&&decide (a<(R:Int))&&decide (0<=(j':Int))&&decide ((j':Int)<(C:Int)))) 0 C=true:=by
  refine qy.2 λj' _ hj'=>zX.2 λi hi=> ?_
  have:=hM.edge j' i hi;simp only[zF,decide_eq_true_eq];omega
 rw[h4]at h;have h5:=zX.1 h _ hm;simp only[zF,decide_eq_true_eq]at h5;obtain⟨t,ht,ev⟩:=qh1 hM C 0 O O hm;refine⟨⟨h5.1.1.1,h5.1.1.2⟩,⟨h5.1.2,h5.2⟩,?_⟩;rw[ev];exact qy.1 hf t (zc1 _) O
end
section
abbrev zE:Ent:=(0,(0,0))
def ltE (x y:Ent):Bool:=decide (x.2.1<y.2.1)||(decide (x.2.1=y.2.1)&&decide (x.1<y.1))
def qhu {m:Nat} (x y:Int):g160 m x y=some (if x<y then-1 else if x>y then 1 else 0,(),(),()):=by
 simp only[g160,g146,bS,bne_self_eq_false,cond_false,bQ];by_cases h:x<y
 . simp[h]
 . by_cases h2:x>y
   . simp[h,h2]
   . simp[h,h2]
def leE (x y:Ent):Prop:=ltE y x=false
def qqh {x y z:Ent} (h1:leE x y) (h2:leE y z):leE x z:=by
 unfold leE ltE at*;simp only[Bool.or_eq_false_iff,decide_eq_false_iff_not,Bool.and_eq_false_iff]at*;omega
end
section
end
section
def qpo {i j:Nat} (h:i+j<4611686018427387904):wI (shr_ .u64 (wJ (wI ((i:Int)+(j:Int)))) 1)=(((i+j)/2:Nat):Int):=by
 rw[wQ,wQ,wi (n:=(i:Int)+(j:Int)) O O];show IntKind.wrap .i64 (shr_ .u64 (IntKind.wrap .u64 ((i:Int)+(j:Int))) 1)=_;rw[wu O O];unfold shr_
 rw[show((i:Int)+(j:Int)).fdiv (2^(min (1:Int).toNat IntKind.u64.bits))=(((i+j)/2:Nat):Int) by
  rw[show(2:Int)^(min (1:Int).toNat IntKind.u64.bits)=2 by decide,show((i:Int)+(j:Int))=((i+j:Nat):Int) by omega,Int.fdiv_eq_ediv_of_nonneg _ (by decide)];omega]
 rw[wi O O]
section
variable (self:(List (Int×Int×Int))->Int->Int->Int->Option (Unit×(List (Int×Int×Int))×Unit×Unit×Unit×Unit×Unit)) (m:Nat) (hm:2<m)
end
def q2i {l:List Ent} {x:Ent} (h:x∈l): ∃i,i<l.length/\l.getD i zE=x:=by
 obtain⟨i,hi,rfl⟩:=zi h;exact⟨i,hi,by simp[List.getD,hi]⟩
end
section
end
section
end
section
end
section
def canE (es:List Ent) (r j:Nat):List Ent:=(colR es j 0 r).map λi:Nat=>((i:Int),((j:Int),(es.getD (Q7 es i j es.length-1) zE).2.2))
def can (es:List Ent) (r:Nat):Nat->List Ent
 |0=>[]
 |j+1=>can es r j++canE es r j
def DistE (es:List Ent):Prop:= ∀k k',k<es.length->k'<es.length->(es.getD k zE).1=(es.getD k' zE).1->(es.getD k zE).2.1=(es.getD k' zE).2.1->k=k'
section
variable {es:List Ent} {r c:Nat}
def can_V: ∀j,(can es r j).map (·.2.2)=packV es r j
 |0=>rfl
 |j+1=>by simp only[can,packV,zi2,can_V j,canE,colV,zj3];rfl
def q5f {i j:Nat}: ∀{t:Nat},0<Q7 es i j t->Q7 es i j t-1<t/\(es.getD (Q7 es i j t-1) zE).1=(i:Int)/\(es.getD (Q7 es i j t-1) zE).2.1=(j:Int)
 |0,h=>by simp[Q7]at h
 |t+1,h=>by
  rw[Q7]at h⊢;by_cases e:(es.getD t (0,(0,0))).1=(i:Int)/\(es.getD t (0,(0,0))).2.1=(j:Int)
  . rw[iP e];exact⟨O,e⟩
  . rw[iN' e]at h⊢;obtain⟨h1,h2⟩:=q5f h;exact⟨O,h2⟩
def q6x {i j:Nat}: ∀{t k:Nat},k<t->(es.getD k zE).1=(i:Int)->(es.getD k zE).2.1=(j:Int)->0<Q7 es i j t
 |0,k,h,_,_=>absurd h (zW _)
 |t+1,k,h,h1,h2=>by
  rw[Q7];by_cases e:(es.getD t (0,(0,0))).1=(i:Int)/\(es.getD t (0,(0,0))).2.1=(j:Int)
  . rw[iP e];omega
  . rw[iN' e];rcases zq k t with hk|hk
    . exact q6x hk h1 h2
    . have:k=t:=O;subst this;exact absurd ⟨h1,h2⟩ e
def qn6 {j:Nat} {x:Ent}:x∈canE es r j↔ ∃i,i<r/\0<Q7 es i j es.length/\x=((i:Int),((j:Int),(es.getD (Q7 es i j es.length-1) zE).2.2)):=by
 unfold canE colR;simp only[zM,zR1,zW2,decide_eq_true_eq];constructor
 . rintro ⟨i,⟨h1,h2⟩,rfl⟩;exact⟨i,O,h2,rfl⟩
 . rintro ⟨i,h1,h2,rfl⟩;exact⟨i,⟨⟨O,O⟩,h2⟩,rfl⟩
def q5y {x:Ent}: ∀{c:Nat},x∈can es r c↔ ∃i j,i<r/\j<c/\0<Q7 es i j es.length/\x=((i:Int),((j:Int),(es.getD (Q7 es i j es.length-1) zE).2.2))
 |0=>by simp[can]
 |c+1=>by
  simp only[can,zL,q5y (c:=c),qn6];constructor
  . rintro (⟨i,j,h1,h2,h3,h4⟩|⟨i,h1,h3,h4⟩)
    . exact⟨i,j,h1,O,h3,h4⟩
    . exact⟨i,c,h1,O,h3,h4⟩
  . rintro ⟨i,j,h1,h2,h3,h4⟩
    by_cases e:j=c
    . subst e;exact .inr ⟨i,h1,h3,h4⟩
    . exact .inl ⟨i,j,h1,O,h3,h4⟩
end
end
section
section
variable {R C:Nat} {S I V:LI}
def MatOK.asc (hM:MatOK R C S I) {j:Nat} (hj:j<C): ∀(d t:Nat),(S.getD j 0).toNat<=t->t+(d+1)<(S.getD (j+1) 0).toNat->I.getD t 0<I.getD (t+(d+1)) 0
 |0,t,h1,h2=>by
  have:=qy.1 (hM.ent j hj) (t+1) O h2;simp only[entOK,zF,zM2,decide_eq_true_eq]at this;have h:=this.2;simp only[zf2]at h;simp only[zK];rcases h with h|h
  . simp only[Bool.not_eq_true',decide_eq_false_iff_not]at h;omega
  . exact h
 |d+1,t,h1,h2=>by
  have h3:=hM.asc hj d t h1 O;have h4:=hM.asc hj 0 (t+(d+1)) O O;simp only[zK]at h4;rw[show t+(d+1+1)=t+(d+1)+1 by omega];omega
def qf0 (hM:MatOK R C S I) {j:Nat} (hj:j<C):(Yf S I V j (S.getD j 0).toNat (S.getD (j+1) 0).toNat).Pairwise (λa b=>ltE a b=true):=by
 unfold Yf;rw[List.pairwise_map];refine List.Pairwise.imp_of_mem ?_ (List.pairwise_lt_range' (s:=(S.getD j 0).toNat) (n:=(S.getD (j+1) 0).toNat-(S.getD j 0).toNat) (step:=1) O);intro a b ha hb hab;rw[zW2]at ha hb;have:=hM.asc hj (b-a-1) a ha.1 O;rw[show a+(b-a-1+1)=b by omega]at this
 unfold ltE;simp[-List.getD_eq_getElem?_getD,this]
def qgm {x:Ent}: ∀{d k:Nat},x∈ents S I V d k-> ∃j t,k<=j/\j<k+d/\(S.getD j 0).toNat<=t/\t<(S.getD (j+1) 0).toNat/\x=(I.getD t 0,(j:Int),V.getD t 0)
 |0,k,h=>by simp[ents]at h
 |d+1,k,h=>by
  rw[ents,zL]at h;rcases h with h|h
  . unfold Yf at h;obtain⟨t,ht,rfl⟩:=zM.1 h;rw[zW2]at ht;exact⟨k,t,zD _,O,ht.1,O,rfl⟩
  . obtain⟨j,t,h1,h2,h3⟩:=qgm h;exact⟨j,t,O,O,h3⟩
def qd5 (hM:MatOK R C S I): ∀(d k:Nat),k+d=C->(ents S I V d k).Pairwise (λa b=>ltE a b=true)
 |0,k,h=>by simp[ents]
 |d+1,k,h=>by
  rw[ents,List.pairwise_append];refine⟨qf0 hM O,qd5 hM d (k+1) O,λa ha b hb=> ?_⟩
  unfold Yf at ha;obtain⟨t,ht,rfl⟩:=zM.1 ha;obtain⟨j,t',h1,h2,h3,h4,rfl⟩:=qgm hb;unfold ltE;simp[-List.getD_eq_getElem?_getD];omega
def qbb {es:List Ent} (h:es.Pairwise (λa b=>ltE a b=true)):DistE es:=by
 intro k k' hk hk' h1 h2;rw[List.pairwise_iff_getElem]at h;have hg: ∀i (hi:i<es.length),es.getD i zE=es[i]:=λi hi=>by simp[List.getD,hi]
 rcases zM3 k k' with e|e|e
 . have:=h k k' hk hk' e;rw[<-hg k hk,<-hg k' hk']at this;unfold ltE at this;simp[-List.getD_eq_getElem?_getD]at this;omega
 . exact e
 . have:=h k' k hk' hk e;rw[<-hg k hk,<-hg k' hk']at this;unfold ltE at this;simp[-List.getD_eq_getElem?_getD]at this;omega
end
def swE (x:Ent):Ent:=(x.2.1,(x.1,x.2.2))
end
section
end
section
def q7b {α:Type} {L:List α} {i:Nat} {d:α} (h:L.length<=i):L.getD i d=d:=by
 rw[List.getD,List.getElem?_eq_none h];rfl
end
section
end
section
end
section
variable {S I V:LI} {N:Nat}
end
end Go.Vs.F
