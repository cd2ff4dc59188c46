/-Sums over lists of indices,with rational terms. Power series,Newton's identities,and integrality of the characteristic polynomial. Quadratic forms:diagonal form by elimination,Sylvester's law. Orthogonal changes of a symmetric matrix;Jacobi's method with rational rotations. Jacobi's method:a symmetric matrix is,up to orthogonal changes,as near to a diagonal one as we like. Sign changes,and Descartes' rule with room to spare. Products of linear factors:coefficients,Newton's identities,many sign changes. Nearness:powers and coefficients of a matrix that is nearly diagonal. The signs of the coefficients of the characteristic polynomial count the eigenvalues' signs. Descartes' rule of signs counts the eigenvalues of a symmetric matrix. Descartes' rule:the sign changes of the characteristic polynomial of a symmetric matrix count its positive eigenvalues. -/
import Derived.Test.YtikppifemlpjlaaGreatDoorVc
set_option linter.unusedVariables false
set_option linter.unusedSimpArgs false
namespace Go.Vs.F
def sm {α:Type}:List α->(α->Rat)->Rat
 |[],_=>0
 |i::L,f=>f i+sm L f
variable {α β:Type}
@[simp] theorem sm_nil {f:α->Rat}:sm [] f=0:=rfl
theorem qnj {i:α} {L:List α} {f:α->Rat}:sm (i::L) f=f i+sm L f:=rfl
theorem qni {L:List α} {f g:α->Rat} (h: ∀i∈L,f i=g i):sm L f=sm L g:=by
 induction L with
 |nil=>rfl
 |cons i L ih=>rw[qnj,qnj,h i mS,ih fun j hj=>h j (mT hj)]
theorem qoa {L:List α} {f g:α->Rat}:sm L (fun i=>f i+g i)=sm L f+sm L g:=by
 induction L with
 |nil=>simp only[sm_nil];grind
 |cons i L ih=>rw[qnj,qnj,qnj,ih];grind
theorem qnm {L:List α} {f:α->Rat} (c:Rat):sm L (fun i=>c*f i)=c*sm L f:=by
 induction L with
 |nil=>simp only[sm_nil];grind
 |cons i L ih=>rw[qnj,qnj,ih];grind
theorem qnv {L:List α} {f:α->Rat} (c:Rat):sm L (fun i=>f i*c)=sm L f*c:=by
 rw[Rat.mul_comm,<-qnm];exact qni fun i _=>Rat.mul_comm _ _
theorem qp3 {L:List α} {f:α->Rat}:sm L (fun i=> -f i)= -sm L f:=by
 induction L with
 |nil=>simp only[sm_nil];grind
 |cons i L ih=>rw[qnj,qnj,ih];grind
theorem sm_sb {L:List α} {f g:α->Rat}:sm L (fun i=>f i-g i)=sm L f-sm L g:=by
 induction L with
 |nil=>simp only[sm_nil];grind
 |cons i L ih=>rw[qnj,qnj,qnj,ih];grind
theorem qor {L:List α}:sm L (fun _=>(0:Rat))=0:=by
 induction L with
 |nil=>rfl
 |cons i L ih=>rw[qnj,ih];grind
theorem qnl {L:List α} {f:α->Rat} (h: ∀i∈L,f i=0):sm L f=0:=(qni h).trans qor
theorem qnu {L:List α} {M:List β} {f:α->β->Rat}:sm L (fun i=>sm M (fun j=>f i j))=sm M (fun j=>sm L (fun i=>f i j)):=by
 induction L with
 |nil=>simp only[sm_nil];rw[qor]
 |cons i L ih=>rw[qnj,ih,<-qoa];rfl
theorem sm_le {L:List α} {f g:α->Rat} (h: ∀i∈L,f i<=g i):sm L f<=sm L g:=by
 induction L with
 |nil=>simp only[sm_nil];grind
 |cons i L ih=>
  have h1:=h i mS;have h2:=ih fun j hj=>h j (mT hj)
  rw[qnj,qnj];grind
theorem qnq {L:List α} {f:α->Rat} (h: ∀i∈L,0<=f i):0<=sm L f:=by
 have:=sm_le (L:=L) (f:=fun _=>0) (g:=f) h
 rwa [qor]at this
theorem le_sm {L:List α} {f:α->Rat} (h: ∀i∈L,0<=f i) {i:α} (hi:i∈L):f i<=sm L f:=by
 induction L with
 |nil=>cases hi
 |cons j L ih=>
  have h1:=h j mS;have h2: ∀k∈L,0<=f k:=fun k hk=>h k (mT hk)
  have h3:=qnq h2;rw[qnj];rcases mC hi with rfl|hi
  . grind
  . have:=ih h2 hi;grind
theorem qo7 {L M:List α} {f:α->Rat} (h:L.Perm M):sm L f=sm M f:=by
 induction h with
 |nil=>rfl
 |cons x _ ih=>rw[qnj,qnj,ih]
 |swap x y l=>simp only[qnj];grind
 |trans _ _ ih1 ih2=>exact ih1.trans ih2
theorem qsp {L M:List α} {f:α->Rat}:sm (L++M) f=sm L f+sm M f:=by
 induction L with
 |nil=>rw[List.nil_append,sm_nil];grind
 |cons i L ih=>rw[List.cons_append,qnj,qnj,ih];grind
theorem qqz {L:List α} {g:α->β} {f:β->Rat}:sm (L.map g) f=sm L (fun i=>f (g i)):=by
 induction L with
 |nil=>rfl
 |cons i L ih=>rw[List.map_cons,qnj,qnj,ih]
theorem qrg {L:List α} {p:α->Bool} {f:α->Rat}:sm (L.filter p) f=sm L (fun i=>if p i then f i else 0):=by
 induction L with
 |nil=>rfl
 |cons i L ih=>
  rw[List.filter_cons,qnj,<-ih];by_cases h:p i=true
  . rw[iP h,iP h,qnj]
  . rw[iN' h,iN' h];grind
theorem qsq {L:List α} (hn:L.Nodup) {i:α} (hi:i∈L) {f:α->Rat} (h: ∀j∈L,j≠i->f j=0):sm L f=f i:=by
 induction L with
 |nil=>cases hi
 |cons j L ih=>
  rw[List.nodup_cons]at hn;rw[qnj];rcases mC hi with rfl|hi
  . rw[qnl fun k hk=>h k (mT hk) (fun e=>hn.1 (e▸hk))];grind
  . rw[h j mS (fun e=>hn.1 (e▸hi)),ih hn.2 hi fun k hk=>h k (mT hk)];grind
theorem qu4 {L:List α} {M:List β} {f:α->Rat} {g:β->Rat}:sm L f*sm M g=sm L (fun i=>sm M (fun j=>f i*g j)):=by
 rw[<-qnv];exact qni fun i _=>(qnm _).symm
theorem sq_nonneg (x:Rat):0<=x*x:=by
 rcases Rat.le_total (a:=0) (b:=x)with h|h
 . exact Rat.mul_nonneg h h
 . have:=Rat.mul_nonneg (a:= -x) (b:= -x) (by grind) (by grind);grind
theorem sq_pos {x:Rat} (h:x≠0):0<x*x:=by
 have:=sq_nonneg x;by_cases c:x*x=0
 . rcases Rat.mul_eq_zero.1 c with h'|h'<;>exact absurd h' h
 . grind
theorem hom [DecidableEq α]: ∀(R:List β) (U:List α) (C:β->α->Rat),U.Nodup->R.length<U.length-> ∃y:α->Rat,(∃i∈U,y i≠0)/\ ∀r∈R,sm U (fun i=>C r i*y i)=0:=by
 intro R;induction R with
 |nil=>
  intro U C hn h;cases U with
  |nil=>simp at h
  |cons i U=>exact⟨fun _=>1,⟨i,mS,by grind⟩,fun r hr=>by cases hr⟩
 |cons r R ih=>
  intro U C hn h;by_cases hz: ∀i∈U,C r i=0
  . obtain⟨y,h1,h2⟩:=ih U C hn (by simp at h;omega)
    refine⟨y,h1,fun s hs=> ?_⟩
    rcases mC hs with rfl|hs
    . exact qnl fun i hi=>by rw[hz i hi];grind
    . exact h2 s hs
  . simp only[Classical.not_forall]at hz;obtain⟨p,hp,hc⟩:=hz;have hP:U.Perm (p::U.erase p):=List.perm_cons_erase hp;have hn':(p::U.erase p).Nodup:=hP.nodup_iff.1 hn;rw[List.nodup_cons]at hn';obtain⟨y,⟨i,hi,hy⟩,h2⟩:=ih (U.erase p) (fun s i=>C s i-C s p*C r i/C r p) hn'.2 (by rw[List.length_erase_of_mem hp];simp at h;omega)
    let v:= -sm (U.erase p) (fun i=>C r i*y i)/C r p
    have hne: ∀j∈U.erase p,j≠p:=fun j hj e=>hn'.1 (e▸hj)
    have hs: ∀s:β,sm U (fun i=>C s i*(if i=p then v else y i))=C s p*v+sm (U.erase p) (fun i=>C s i*y i):=by
     intro s;rw[qo7 hP,qnj,iP rfl];congr 1;exact qni fun j hj=>by rw[iN' (hne j hj)]
    refine⟨fun i=>if i=p then v else y i,⟨i,hP.mem_iff.2 (mT hi),by show(if i=p then v else y i)≠0;rw[iN' (hne i hi)];exact hy⟩,fun s hs'=> ?_⟩
    rw[hs s];rcases mC hs' with rfl|hs'
    . show C s p*(-sm (U.erase p) (fun i=>C s i*y i)/C s p)+_=0
      have:C s p*(-sm (U.erase p) (fun i=>C s i*y i)/C s p)= -sm (U.erase p) (fun i=>C s i*y i):=by grind
      rw[this];grind
    . have h3:=h2 s hs'
      have e:sm (U.erase p) (fun i=>(C s i-C s p*C r i/C r p)*y i)=sm (U.erase p) (fun i=>C s i*y i)-C s p/C r p*sm (U.erase p) (fun i=>C r i*y i):=by
       rw[<-qnm,<-sm_sb];exact qni fun i _=>by grind
      rw[e]at h3;show C s p*(-sm (U.erase p) (fun i=>C r i*y i)/C r p)+_=0
      grind
end Go.Vs.F
set_option linter.unusedSectionVars false
namespace Go.Vs.F
def cv (g:Nat->Rat):(Nat->Rat)->Nat->Rat
 |f,0=>f 0*g 0
 |f,k+1=>f 0*g (k+1)+cv g (fun i=>f (i+1)) k
variable {α:Type} [DecidableEq α]
def mp (L:List α) (A:α->α->Rat):Nat->α->α->Rat
 |0,i,j=>if i=j then 1 else 0
 |k+1,i,j=>sm L (fun l=>A i l*mp L A k l j)
theorem qom {L:List α} (hn:L.Nodup) {i:α} (hi:i∈L) {f:α->Rat}:sm L (fun l=>f l*(if l=i then 1 else 0))=f i:=by
 rw[qsq hn hi]
 . rw[iP rfl];grind
 . intro j _ hj;rw[iN' hj];grind
def tr (L:List α) (A:α->α->Rat) (k:Nat):Rat:=sm L (fun i=>mp L A k i i)
def sp (L:List α) (A:α->α->Rat) (k:Nat):Rat:=if k=0 then 0 else tr L A k
section
variable (p:α) (R:List α) (A:α->α->Rat)
variable {p R A}
end
variable {α:Type} [DecidableEq α]
def lin (K:List α) (V:α->α->Rat) (y:α->Rat) (j:α):Rat:=sm K (fun i=>y i*V i j)
def qf (L:List α) (A:α->α->Rat) (x:α->Rat):Rat:=sm L (fun i=>sm L (fun j=>x i*A i j*x j))
structure Dg (L:List α) (A V:α->α->Rat) (b:α->Rat):Prop where
 form: ∀y,qf L A (lin L V y)=sm L (fun i=>b i*(y i*y i))
 ind: ∀y,(∀j∈L,lin L V y j=0)-> ∀i∈L,y i=0
theorem qog {L:List α} {A B:α->α->Rat} {x z:α->Rat} (h: ∀i∈L,x i=z i) (hA: ∀i∈L,∀j∈L,A i j=B i j):qf L A x=qf L B z:=
 qni fun i hi=>qni fun j hj=>by rw[h i hi,h j hj,hA i hi j hj]
theorem qu0 {L M:List α} (h:L.Perm M) {A:α->α->Rat} {x:α->Rat}:qf L A x=qf M A x:=by
 unfold qf;rw[qo7 h];exact qni fun i _=>qo7 h
theorem qq7 {L M:List α} (h:L.Perm M) {V:α->α->Rat} {y:α->Rat} {j:α}:lin L V y j=lin M V y j:=qo7 h
theorem Dg.perm {L M:List α} (h:L.Perm M) {A V:α->α->Rat} {b:α->Rat} (hd:Dg L A V b):Dg M A V b:=by
 refine⟨fun y=> ?_,fun y hy i hi=> ?_⟩
 . rw[<-qo7 h,<-hd.form y,qu0 h];exact qog (fun i _=>(qq7 h).symm) (fun _ _ _ _=>rfl)
 . exact hd.ind y (fun j hj=>(qq7 h).trans (hy j (h.mem_iff.1 hj))) i (h.mem_iff.2 hi)
theorem Dg.congr {L:List α} {A B V:α->α->Rat} {b:α->Rat} (h: ∀i∈L,∀j∈L,A i j=B i j) (hd:Dg L A V b):Dg L B V b:=
 ⟨fun y=>by rw[<-hd.form y];exact(qog (fun _ _=>rfl) h).symm,hd.ind⟩
theorem Dg.neg {L:List α} {A V:α->α->Rat} {b:α->Rat} (hd:Dg L A V b):Dg L (fun i j=> -A i j) V (fun i=> -b i):=by
 refine⟨fun y=> ?_,hd.ind⟩
 have e:sm L (fun i=> -b i*(y i*y i))= -sm L (fun i=>b i*(y i*y i)):=by
  rw[<-qp3];exact qni fun i _=>by grind
 rw[e,<-hd.form y];unfold qf;rw[<-qp3];refine qni fun i _=> ?_
 rw[<-qp3];exact qni fun j _=>by grind
theorem qps {L:List α} (hn:L.Nodup) {A:α->α->Rat} (h: ∀i∈L,∀j∈L,A i j=0):Dg L A (fun i j=>if i=j then 1 else 0) (fun _=>0):=by
 have hl: ∀(y:α->Rat) j,j∈L->lin L (fun i j=>if i=j then 1 else 0) y j=y j:=fun y j hj=>qom hn hj
 refine⟨fun y=> ?_,fun y hy i hi=>by rw[<-hl y i hi];exact hy i hi⟩
 rw[qnl (fun i _=>by grind)]
 exact qnl fun i hi=>qnl fun j hj=>by rw[h i hi j hj];grind
theorem qpr {p:α} {R:List α} {A:α->α->Rat} (hs: ∀i∈p::R,∀j∈p::R,A i j=A j i) {x:α->Rat}:
 qf (p::R) A x=A p p*(x p*x p)+2*x p*sm R (fun k=>A p k*x k)+qf R A x:=by
 unfold qf;rw[qnj,qnj]
 have e1:sm R (fun j=>x p*A p j*x j)=x p*sm R (fun k=>A p k*x k):=by
  rw[<-qnm];exact qni fun j _=>by grind
 have e2:sm R (fun i=>sm (p::R) (fun j=>x i*A i j*x j))=x p*sm R (fun k=>A p k*x k)+sm R (fun i=>sm R (fun j=>x i*A i j*x j)):=by
  rw[<-qnm,<-qoa];refine qni fun i hi=> ?_
  rw[qnj,hs i (mT hi) p mS];grind
 rw[e1,e2];grind
theorem qpf {R:List α} {A B:α->α->Rat} {u w:α->Rat} {c:Rat} (h: ∀i∈R,∀j∈R,B i j=A i j-c*(u i*w j)) {x:α->Rat}:
 qf R B x=qf R A x-c*(sm R (fun k=>u k*x k)*sm R (fun k=>w k*x k)):=by
 rw[qu4,<-qnm];unfold qf;rw[<-sm_sb];refine qni fun i hi=> ?_
 rw[<-qnm,<-sm_sb];refine qni fun j hj=> ?_
 rw[h i hi j hj];grind
def qo8 (p:α) (R:List α) (A W:α->α->Rat):α->α->Rat:=fun i j=>
 if i=p then(if j=p then 1 else 0)else if j=p then-sm R (fun k=>A p k*W i k)/A p p else W i j
theorem qpc {R:List α} {W:α->α->Rat} {c y:α->Rat} {b:Rat}:sm R (fun i=>y i*(-sm R (fun k=>c k*W i k)/b))= -sm R (fun k=>c k*lin R W y k)/b:=by
 have e:sm R (fun k=>c k*lin R W y k)=sm R (fun i=>y i*sm R (fun k=>c k*W i k)):=by
  have:sm R (fun k=>c k*lin R W y k)=sm R (fun k=>sm R (fun i=>y i*(c k*W i k))):=by
   refine qni fun k _=> ?_
   unfold lin;rw[<-qnm];exact qni fun i _=>by grind
  rw[this,qnu];exact qni fun i _=>qnm _
 have e2: -sm R (fun k=>c k*lin R W y k)/b=(-1/b)*sm R (fun k=>c k*lin R W y k):=by grind
 rw[e2,e,<-qnm];exact qni fun i _=>by grind
theorem qql {p:α} {R:List α} (hn:(p::R).Nodup) {A B W:α->α->Rat} {g:α->Rat} (hs: ∀i∈p::R,∀j∈p::R,A i j=A j i) (hb:A p p≠0)
 (hB: ∀i∈R,∀j∈R,B i j=A i j-A i p*A p j/A p p) (hd:Dg R B W g):Dg (p::R) A (qo8 p R A W) (fun i=>if i=p then A p p else g i):=by
 rw[List.nodup_cons]at hn;have hne: ∀l∈R,l≠p:=fun l hl e=>hn.1 (e▸hl)
 have hx: ∀(y:α->Rat) j,j∈R->lin (p::R) (qo8 p R A W) y j=lin R W y j:=by
  intro y j hj;unfold lin;rw[qnj];have:qo8 p R A W p j=0:=by unfold qo8;rw[iP rfl,iN' (hne j hj)]
  rw[this,qni (g:=fun i=>y i*W i j) fun i hi=>by unfold qo8;rw[iN' (hne i hi),iN' (hne j hj)]]
  grind
 have hp: ∀y:α->Rat,lin (p::R) (qo8 p R A W) y p=y p-sm R (fun k=>A p k*lin R W y k)/A p p:=by
  intro y;unfold lin;rw[qnj];have:qo8 p R A W p p=1:=by unfold qo8;rw[iP rfl,iP rfl]
  rw[this,qni (g:=fun i=>y i*(-sm R (fun k=>A p k*W i k)/A p p)) fun i hi=>by unfold qo8;rw[iN' (hne i hi),iP rfl],qpc]
  unfold lin
  grind
 refine⟨fun y=> ?_,fun y hy=> ?_⟩
 . have es:sm R (fun k=>A p k*lin (p::R) (qo8 p R A W) y k)=sm R (fun k=>A p k*lin R W y k):=qni fun k hk=>by rw[hx y k hk]
   rw[qpr hs,hp y,es];have e1:qf R A (lin (p::R) (qo8 p R A W) y)=qf R A (lin R W y):=qog (fun i hi=>hx y i hi) (fun _ _ _ _=>rfl)
   have e2:=qpf (R:=R) (A:=A) (B:=B) (u:=fun k=>A p k) (w:=fun k=>A p k) (c:=1/A p p) (x:=lin R W y) (fun i hi j hj=>by
    rw[hB i hi j hj,hs i (mT hi) p mS];grind)
   rw[hd.form y]at e2;rw[qnj,iP rfl,e1];have e3:sm R (fun i=>(if i=p then A p p else g i)*(y i*y i))=sm R (fun i=>g i*(y i*y i)):=qni fun i hi=>by rw[iN' (hne i hi)]
   rw[e3,e2];clear e1 e2 e3 es hp hx hs hB hd;generalize sm R (fun k=>A p k*lin R W y k)=s
   generalize qf R A (lin R W y)=t
   grind
 . have h0: ∀j∈R,lin R W y j=0:=fun j hj=>(hx y j hj).symm.trans (hy j (mT hj))
   have h1:=hd.ind y h0;have h2:=hy p mS;rw[hp y,qnl (fun k hk=>by rw[h0 k hk];grind)]at h2
   intro i hi;rcases mC hi with rfl|hi
   . grind
   . exact h1 i hi
def qns (p q:α) (R:List α) (A W:α->α->Rat):α->α->Rat:=fun i j=>
 if i=p then(if j=p then 1 else if j=q then 1 else 0)else if i=q then(if j=p then 1 else if j=q then-1 else 0)
 else if j=p then-sm R (fun k=>A q k*W i k)/A p q else if j=q then-sm R (fun k=>A p k*W i k)/A p q else W i j
theorem qs9 {p q:α} {R:List α} (hn:(p::q::R).Nodup) {A B W:α->α->Rat} {g:α->Rat} (hs: ∀i∈p::q::R,∀j∈p::q::R,A i j=A j i) (hp0:A p p=0) (hq0:A q q=0) (hb:A p q≠0)
 (hB: ∀i∈R,∀j∈R,B i j=A i j-A i p*A q j/A p q-A i q*A p j/A p q) (hd:Dg R B W g):
 Dg (p::q::R) A (qns p q R A W) (fun i=>if i=p then 2*A p q else if i=q then-(2*A p q)else g i):=by
 rw[List.nodup_cons,List.nodup_cons]at hn;obtain⟨hn1,hn2,hn3⟩:=hn;have hpq:q≠p:=fun e=>hn1 (e▸mS)
 have hnp: ∀l∈R,l≠p:=fun l hl e=>hn1 (mT (e▸hl))
 have hnq: ∀l∈R,l≠q:=fun l hl e=>hn2 (e▸hl)
 have hx: ∀(y:α->Rat) j,j∈R->lin (p::q::R) (qns p q R A W) y j=lin R W y j:=by
  intro y j hj;unfold lin;rw[qnj,qnj];have e1:qns p q R A W p j=0:=by unfold qns;rw[iP rfl,iN' (hnp j hj),iN' (hnq j hj)]
  have e2:qns p q R A W q j=0:=by unfold qns;rw[iN' hpq,iP rfl,iN' (hnp j hj),iN' (hnq j hj)]
  rw[e1,e2,qni (g:=fun i=>y i*W i j) fun i hi=>by unfold qns;rw[iN' (hnp i hi),iN' (hnq i hi),iN' (hnp j hj),iN' (hnq j hj)]]
  grind
 have hp: ∀y:α->Rat,lin (p::q::R) (qns p q R A W) y p=y p+y q-sm R (fun k=>A q k*lin R W y k)/A p q:=by
  intro y;unfold lin;rw[qnj,qnj];have e1:qns p q R A W p p=1:=by unfold qns;rw[iP rfl,iP rfl]
  have e2:qns p q R A W q p=1:=by unfold qns;rw[iN' hpq,iP rfl,iP rfl]
  rw[e1,e2,qni (g:=fun i=>y i*(-sm R (fun k=>A q k*W i k)/A p q)) fun i hi=>by unfold qns;rw[iN' (hnp i hi),iN' (hnq i hi),iP rfl],qpc]
  unfold lin
  grind
 have hq: ∀y:α->Rat,lin (p::q::R) (qns p q R A W) y q=y p-y q-sm R (fun k=>A p k*lin R W y k)/A p q:=by
  intro y;unfold lin;rw[qnj,qnj];have e1:qns p q R A W p q=1:=by unfold qns;rw[iP rfl,iN' hpq,iP rfl]
  have e2:qns p q R A W q q= -1:=by unfold qns;rw[iN' hpq,iP rfl,iN' hpq,iP rfl]
  rw[e1,e2,qni (g:=fun i=>y i*(-sm R (fun k=>A p k*W i k)/A p q)) fun i hi=>by unfold qns;rw[iN' (hnp i hi),iN' (hnq i hi),iN' hpq,iP rfl],qpc]
  unfold lin
  grind
 have hsp:=hs p mS q (mT mS);refine⟨fun y=> ?_,fun y hy=> ?_⟩
 . have es: ∀r,sm R (fun k=>A r k*lin (p::q::R) (qns p q R A W) y k)=sm R (fun k=>A r k*lin R W y k):=fun r=>qni fun k hk=>by rw[hx y k hk]
   rw[qpr hs,qpr (fun i hi j hj=>hs i (mT hi) j (mT hj)),qnj,hp y,hq y,hp0,hq0,es p,es q]
   have e1:qf R A (lin (p::q::R) (qns p q R A W) y)=qf R A (lin R W y):=qog (fun i hi=>hx y i hi) (fun _ _ _ _=>rfl)
   have e2:=qpf (R:=R) (A:=fun i j=>A i j-(1/A p q)*(A p i*A q j)) (B:=B) (u:=fun k=>A q k) (w:=fun k=>A p k) (c:=1/A p q) (x:=lin R W y) (fun i hi j hj=>by
    rw[hB i hi j hj,hs i (mT (mT hi)) p mS,hs i (mT (mT hi)) q (mT mS)];grind)
   have e3:=qpf (R:=R) (A:=A) (B:=fun i j=>A i j-(1/A p q)*(A p i*A q j)) (u:=fun k=>A p k) (w:=fun k=>A q k) (c:=1/A p q) (x:=lin R W y) (fun i hi j hj=>rfl)
   rw[hd.form y,e3]at e2;rw[qnj,qnj,iP rfl,iN' hpq,iP rfl,e1];have e4:sm R (fun i=>(if i=p then 2*A p q else if i=q then-(2*A p q)else g i)*(y i*y i))=sm R (fun i=>g i*(y i*y i)):=qni fun i hi=>by rw[iN' (hnp i hi),iN' (hnq i hi)]
   rw[e4,e2];clear e1 e2 e3 e4 es hp hq hx hs hB hd;generalize sm R (fun k=>A p k*lin R W y k)=s
   generalize sm R (fun k=>A q k*lin R W y k)=r
   generalize qf R A (lin R W y)=t
   grind
 . have h0: ∀j∈R,lin R W y j=0:=fun j hj=>(hx y j hj).symm.trans (hy j (mT (mT hj)))
   have h1:=hd.ind y h0;have h2:=hy p mS;have h3:=hy q (mT mS);rw[hp y,qnl (fun k hk=>by rw[h0 k hk];grind)]at h2
   rw[hq y,qnl (fun k hk=>by rw[h0 k hk];grind)]at h3
   intro i hi;rcases mC hi with rfl|hi
   . grind
   . rcases mC hi with rfl|hi
     . grind
     . exact h1 i hi
def npos (L:List α) (b:α->Rat):Nat:=(L.filter fun i=>decide (0<b i)).length
theorem qod {L:List α} {p q:α->Bool} (h: ∀i∈L,q i= !p i):(L.filter p).length+(L.filter q).length=L.length:=by
 induction L with
 |nil=>rfl
 |cons i L ih=>
  have h0:=h i mS;have h1:=ih fun j hj=>h j (mT hj)
  rw[List.filter_cons,List.filter_cons,h0];cases p i<;>simp<;>omega
theorem sm_if {L:List α} {p:α->Bool} {f:α->Rat} {y:α->Rat}:sm (L.filter p) (fun i=>f i*y i)=sm L (fun i=>f i*(if p i then y i else 0)):=by
 rw[qrg];exact qni fun i _=>by split<;>grind
theorem qpa {L:List α} (hn:L.Nodup) {A B V W:α->α->Rat} {b c:α->Rat} (hA:Dg L A V b) (hB:Dg L B W c) (h: ∀x,qf L A x<=qf L B x):npos L b<=npos L c:=by
 refine Nat.le_of_not_lt fun hlt=> ?_
 let P:α->Bool:=fun i=>decide (0<b i)
 let Q:α->Bool:=fun i=>decide (¬0<c i)
 have hsplit:npos L c+(L.filter Q).length=L.length:=qod (p:=fun i=>decide (0<c i)) fun i _=>by show decide _=_;simp
 let U:List (α⊕α):=(L.filter P).map Sum.inl++(L.filter Q).map Sum.inr
 have hU:U.Nodup:=by
  rw[List.nodup_append];refine⟨List.Pairwise.map Sum.inl (fun a b h h'=>h (Sum.inl.inj h')) (hn.filter _),List.Pairwise.map Sum.inr (fun a b h h'=>h (Sum.inr.inj h')) (hn.filter _),?_⟩
  intro a ha b hb;obtain⟨x,_,rfl⟩:=List.mem_map.1 ha;obtain⟨z,_,rfl⟩:=List.mem_map.1 hb;intro h;cases h
 obtain⟨y,⟨u,hu,hy⟩,hz⟩:=hom L U (fun r u=>match u with| .inl i=>V i r| .inr i=> -W i r) hU (by
  rw[List.length_append,List.length_map,List.length_map];have:npos L b=(L.filter P).length:=rfl;omega)
 let y1:α->Rat:=fun i=>if P i then y (.inl i)else 0
 let y2:α->Rat:=fun i=>if Q i then y (.inr i)else 0
 have e1: ∀r∈L,lin L V y1 r=lin L W y2 r:=by
  intro r hr;have h0:=hz r hr;rw[qsp,qqz,qqz]at h0
  have a1:sm (L.filter P) (fun i=>V i r*y (.inl i))=lin L V y1 r:=by
   rw[sm_if];exact qni fun i _=>Rat.mul_comm _ _
  have a2:sm (L.filter Q) (fun i=> -W i r*y (.inr i))= -lin L W y2 r:=by
   rw[sm_if];unfold lin;rw[<-qp3];exact qni fun i _=>by show-W i r*y2 i=_;grind
  have h1:lin L V y1 r+ -lin L W y2 r=0:=by rw[<-a1,<-a2];exact h0
  grind
 have q1:=hA.form y1;have q2:=hB.form y2;have q3:qf L B (lin L V y1)=qf L B (lin L W y2):=qog e1 (fun _ _ _ _=>rfl)
 have q4:=h (lin L V y1)
 have n2:sm L (fun i=>c i*(y2 i*y2 i))<=0:=by
  have:=sm_le (L:=L) (f:=fun i=>c i*(y2 i*y2 i)) (g:=fun _=>0) (fun i hi=>by
   show c i*(y2 i*y2 i)<=0
   by_cases hq:Q i=true
   . have h1: ¬0<c i:=of_decide_eq_true hq;have h2:=sq_nonneg (y2 i);have h3:=Rat.mul_nonneg (a:= -c i) (b:=y2 i*y2 i) (by grind) h2
     grind
   . have:y2 i=0:=iN' hq;rw[this];grind)
  rwa [qor]at this
 have nn1: ∀i∈L,0<=b i*(y1 i*y1 i):=by
  intro i hi;by_cases hp:P i=true
  . have h1:0<b i:=of_decide_eq_true hp;exact Rat.mul_nonneg (by grind) (sq_nonneg _)
  . have:y1 i=0:=iN' hp;rw[this];grind
 have z1: ∀i∈L,y1 i=0:=by
  intro i hi;by_cases hp:P i=true
  . have h1:0<b i:=of_decide_eq_true hp;have h2:=le_sm nn1 hi;by_cases h3:y1 i=0
    . exact h3
    . have:=Rat.mul_pos h1 (sq_pos h3)
      grind
  . exact iN' hp
 have z2: ∀i∈L,y2 i=0:=hB.ind y2 fun r hr=>by
  rw[<-e1 r hr];exact qnl fun i hi=>by rw[z1 i hi];grind
 rcases List.mem_append.1 hu with hu|hu
 . obtain⟨i,hi,rfl⟩:=List.mem_map.1 hu;obtain⟨h1,h2⟩:=List.mem_filter.1 hi;have:=z1 i h1;have e:y1 i=y (.inl i):=iP h2;exact hy (e▸this)
 . obtain⟨i,hi,rfl⟩:=List.mem_map.1 hu;obtain⟨h1,h2⟩:=List.mem_filter.1 hi;have:=z2 i h1;have e:y2 i=y (.inr i):=iP h2;exact hy (e▸this)
variable {α:Type} [DecidableEq α]
def mm (L:List α) (A B:α->α->Rat) (i j:α):Rat:=sm L (fun k=>A i k*B k j)
def tp (A:α->α->Rat) (i j:α):Rat:=A j i
def cj (L:List α) (Q A:α->α->Rat):α->α->Rat:=mm L (tp Q) (mm L A Q)
section
variable {L R:List α} {p q:α} {c s:Rat}
end
def off (L:List α) (A:α->α->Rat):Rat:=sm L (fun i=>sm L (fun j=>if i=j then 0 else A i j*A i j))
variable {α:Type} [DecidableEq α]
def gg (b d u:Rat):Rat:=2*u*(1-u*u)*d+((1-u*u)*(1-u*u)-4*(u*u))*b
def sgq (x:Rat):Int:=if x<0 then-1 else if x=0 then 0 else 1
def vs:Int->List Rat->Nat
 |_,[]=>0
 |s,x::l=>(if sgq x*s<0 then 1 else 0)+vs (if sgq x=0 then s else sgq x) l
def pd (d:Rat):Nat->Rat
 |0=>0
 |k+1=>d^(k+1)
def sn (k:Nat):Rat:=if k%2=0 then 1 else-1
variable {α:Type} [DecidableEq α]
variable {α:Type} [DecidableEq α]
variable {α:Type} [DecidableEq α]
variable {α:Type} [DecidableEq α]
def cs (c:Nat->Rat) (r:Nat):List Rat:=(List.range r).map fun i=>c (i+1)
end Go.Vs.F
