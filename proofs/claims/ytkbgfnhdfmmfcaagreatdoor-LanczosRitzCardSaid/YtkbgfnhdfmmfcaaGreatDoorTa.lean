/-Sums over lists of indices,with rational terms. Power series,Newton's identities,and integrality of the characteristic polynomial. Quadratic forms:diagonal form by elimination,Sylvester's law. Orthogonal changes of a symmetric matrix;Jacobi's method with rational rotations. Jacobi's method:a symmetric matrix is,up to orthogonal changes,as near to a diagonal one as we like. Sign changes,and Descartes' rule with room to spare. Products of linear factors:coefficients,Newton's identities,many sign changes. Nearness:powers and coefficients of a matrix that is nearly diagonal. The signs of the coefficients of the characteristic polynomial count the eigenvalues' signs. Descartes' rule of signs counts the eigenvalues of a symmetric matrix. Descartes' rule:the sign changes of the characteristic polynomial of a symmetric matrix count its positive eigenvalues. -/
import Derived.Test.YtkbgfnhdfmmfcaaGreatDoorVc
set_option linter.unusedVariables false
set_option linter.unusedSimpArgs false
namespace Go.Vs.F
def sm {α:Type}:List α->(α->Rat)->Rat
 |[],_=>0
 |i::L,f=>f i+sm L f
variable {α β:Type}
@[simp] theorem sm_nil {f:α->Rat}:sm [] f=0:=rfl
theorem qy {i:α} {L:List α} {f:α->Rat}:sm (i::L) f=f i+sm L f:=rfl
theorem qj {L:List α} {f g:α->Rat} (h: ∀i∈L,f i=g i):sm L f=sm L g:=by
 induction L with
 |nil=>rfl
 |cons i L ih=>rw[qy,qy,h i mS,ih fun j hj=>h j (mT hj)]
theorem q0u {L:List α} {f g:α->Rat}:sm L (fun i=>f i+g i)=sm L f+sm L g:=by
 induction L with
 |nil=>simp only[sm_nil];grind
 |cons i L ih=>rw[qy,qy,qy,ih];grind
theorem Qm {L:List α} {f:α->Rat} (c:Rat):sm L (fun i=>c*f i)=c*sm L f:=by
 induction L with
 |nil=>simp only[sm_nil];grind
 |cons i L ih=>rw[qy,qy,ih];grind
theorem Yc {L:List α} {f:α->Rat} (c:Rat):sm L (fun i=>f i*c)=sm L f*c:=by
 rw[zC3,<-Qm];exact qj fun i _=>zC3 _ _
theorem q85 {L:List α} {f:α->Rat}:sm L (fun i=> -f i)= -sm L f:=by
 induction L with
 |nil=>simp only[sm_nil];grind
 |cons i L ih=>rw[qy,qy,ih];grind
theorem sm_sb {L:List α} {f g:α->Rat}:sm L (fun i=>f i-g i)=sm L f-sm L g:=by
 induction L with
 |nil=>simp only[sm_nil];grind
 |cons i L ih=>rw[qy,qy,qy,ih];grind
theorem q5s {L:List α}:sm L (fun _=>(0:Rat))=0:=by
 induction L with
 |nil=>rfl
 |cons i L ih=>rw[qy,ih];grind
theorem Qn {L:List α} {f:α->Rat} (h: ∀i∈L,f i=0):sm L f=0:=(qj h).trans q5s
theorem Yd {L:List α} {M:List β} {f:α->β->Rat}:sm L (fun i=>sm M (fun j=>f i j))=sm M (fun j=>sm L (fun i=>f i j)):=by
 induction L with
 |nil=>simp only[sm_nil];rw[q5s]
 |cons i L ih=>rw[qy,ih,<-q0u];rfl
theorem sm_le {L:List α} {f g:α->Rat} (h: ∀i∈L,f i<=g i):sm L f<=sm L g:=by
 induction L with
 |nil=>simp only[sm_nil];grind
 |cons i L ih=>
  have h1:=h i mS;have h2:=ih fun j hj=>h j (mT hj)
  rw[qy,qy];grind
theorem Xq {L:List α} {f:α->Rat} (h: ∀i∈L,0<=f i):0<=sm L f:=by
 have:=sm_le (L:=L) (f:=fun _=>0) (g:=f) h
 rwa [q5s]at this
theorem le_sm {L:List α} {f:α->Rat} (h: ∀i∈L,0<=f i) {i:α} (hi:i∈L):f i<=sm L f:=by
 induction L with
 |nil=>cases hi
 |cons j L ih=>
  have h1:=h j mS;have h2: ∀k∈L,0<=f k:=fun k hk=>h k (mT hk)
  have h3:=Xq h2;rw[qy];rcases mC hi with rfl|hi
  . grind
  . have:=ih h2 hi;grind
theorem qom {L:List α} {f:α->Rat} (h: ∀i∈L,0<=f i) {i:α} (hi:i∈L) (hp:0<f i):0<sm L f:=by
 have:=le_sm h hi;grind
theorem q0b {L M:List α} {f:α->Rat} (h:L.Perm M):sm L f=sm M f:=by
 induction h with
 |nil=>rfl
 |cons x _ ih=>rw[qy,qy,ih]
 |swap x y l=>simp only[qy];grind
 |trans _ _ ih1 ih2=>exact ih1.trans ih2
theorem qrq {L M:List α} {f:α->Rat}:sm (L++M) f=sm L f+sm M f:=by
 induction L with
 |nil=>rw[zy2,sm_nil];grind
 |cons i L ih=>rw[zO1,qy,qy,ih];grind
theorem qs4 {L:List α} {g:α->β} {f:β->Rat}:sm (L.map g) f=sm L (fun i=>f (g i)):=by
 induction L with
 |nil=>rfl
 |cons i L ih=>rw[zg1,qy,qy,ih]
theorem qjr {L:List α} {p:α->Bool} {f:α->Rat}:sm (L.filter p) f=sm L (fun i=>if p i then f i else 0):=by
 induction L with
 |nil=>rfl
 |cons i L ih=>
  rw[zZ1,qy,<-ih];by_cases h:p i=true
  . rw[iP h,iP h,qy]
  . rw[iN' h,iN' h];grind
theorem qog {L:List α} (hn:L.Nodup) {i:α} (hi:i∈L) {f:α->Rat} (h: ∀j∈L,j≠i->f j=0):sm L f=f i:=by
 induction L with
 |nil=>cases hi
 |cons j L ih=>
  rw[zS]at hn;rw[qy];rcases mC hi with rfl|hi
  . rw[Qn fun k hk=>h k (mT hk) (fun e=>hn.1 (e▸hk))];grind
  . rw[h j mS (fun e=>hn.1 (e▸hi)),ih hn.2 hi fun k hk=>h k (mT hk)];grind
theorem qqk {L:List α} {M:List β} {f:α->Rat} {g:β->Rat}:sm L f*sm M g=sm L (fun i=>sm M (fun j=>f i*g j)):=by
 rw[<-Yc];exact qj fun i _=>(Qm _).symm
theorem qsd {L:List α} {f g:α->Rat} (h: ∀i∈L,-g i<=f i/\f i<=g i): -sm L g<=sm L f/\sm L f<=sm L g:=by
 refine⟨?_,sm_le fun i hi=>(h i hi).2⟩
 rw[<-q85];exact sm_le fun i hi=>(h i hi).1
theorem sq_nonneg (x:Rat):0<=x*x:=by
 rcases Rat.le_total (a:=0) (b:=x)with h|h
 . exact zD h h
 . have:=zD (a:= -x) (b:= -x) (by grind) (by grind);grind
theorem sq_pos {x:Rat} (h:x≠0):0<x*x:=by
 have:=sq_nonneg x;by_cases c:x*x=0
 . rcases Rat.mul_eq_zero.1 c with h'|h'<;>exact absurd h' h
 . grind
theorem hom [DecidableEq α]: ∀(R:List β) (U:List α) (C:β->α->Rat),U.Nodup->R.length<U.length-> ∃y:α->Rat,(∃i∈U,y i≠0)/\ ∀r∈R,sm U (fun i=>C r i*y i)=0:=by
 intro R;induction R with
 |nil=>
  intro U C hn h;cases U with
  |nil=>simp at h
  |cons i U=>exact⟨fun _=>1,⟨i,mS,by grind⟩,fun r hr=>by cases hr⟩
 |cons r R ih=>
  intro U C hn h;by_cases hz: ∀i∈U,C r i=0
  . obtain⟨y,h1,h2⟩:=ih U C hn (by simp at h;omega)
    refine⟨y,h1,fun s hs=> ?_⟩
    rcases mC hs with rfl|hs
    . exact Qn fun i hi=>by rw[hz i hi];grind
    . exact h2 s hs
  . simp only[Classical.not_forall]at hz;obtain⟨p,hp,hc⟩:=hz;have hP:U.Perm (p::U.erase p):=List.perm_cons_erase hp;have hn':(p::U.erase p).Nodup:=hP.nodup_iff.1 hn;rw[zS]at hn';obtain⟨y,⟨i,hi,hy⟩,h2⟩:=ih (U.erase p) (fun s i=>C s i-C s p*C r i/C r p) hn'.2 (by rw[List.length_erase_of_mem hp];simp at h;omega)
    let v:= -sm (U.erase p) (fun i=>C r i*y i)/C r p
    have hne: ∀j∈U.erase p,j≠p:=fun j hj e=>hn'.1 (e▸hj)
    have hs: ∀s:β,sm U (fun i=>C s i*(if i=p then v else y i))=C s p*v+sm (U.erase p) (fun i=>C s i*y i):=by
     intro s;rw[q0b hP,qy,iP rfl];congr 1;exact qj fun j hj=>by rw[iN' (hne j hj)]
    refine⟨fun i=>if i=p then v else y i,⟨i,hP.mem_iff.2 (mT hi),by show(if i=p then v else y i)≠0;rw[iN' (hne i hi)];exact hy⟩,fun s hs'=> ?_⟩
    rw[hs s];rcases mC hs' with rfl|hs'
    . show C s p*(-sm (U.erase p) (fun i=>C s i*y i)/C s p)+_=0
      have:C s p*(-sm (U.erase p) (fun i=>C s i*y i)/C s p)= -sm (U.erase p) (fun i=>C s i*y i):=by grind
      rw[this];grind
    . have h3:=h2 s hs'
      have e:sm (U.erase p) (fun i=>(C s i-C s p*C r i/C r p)*y i)=sm (U.erase p) (fun i=>C s i*y i)-C s p/C r p*sm (U.erase p) (fun i=>C r i*y i):=by
       rw[<-Qm,<-sm_sb];exact qj fun i _=>by grind
      rw[e]at h3;show C s p*(-sm (U.erase p) (fun i=>C r i*y i)/C r p)+_=0
      grind
end Go.Vs.F
set_option linter.unusedSectionVars false
namespace Go.Vs.F
def cv (g:Nat->Rat):(Nat->Rat)->Nat->Rat
 |f,0=>f 0*g 0
 |f,k+1=>f 0*g (k+1)+cv g (fun i=>f (i+1)) k
theorem X4 {f g:Nat->Rat}:cv g f 0=f 0*g 0:=rfl
theorem Qj {f g:Nat->Rat} {k:Nat}:cv g f (k+1)=f 0*g (k+1)+cv g (fun i=>f (i+1)) k:=rfl
theorem qfu {f f' g g':Nat->Rat} {k:Nat} (h1: ∀i,i<=k->f i=f' i) (h2: ∀i,i<=k->g i=g' i):cv g f k=cv g' f' k:=by
 induction k generalizing f f' with
 |zero=>rw[X4,X4,h1 0 O,h2 0 O]
 |succ k ih=>rw[Qj,Qj,h1 0 O,h2 _ (zJ _),ih (fun i hi=>h1 (i+1) O) (fun i hi=>h2 i O)]
theorem Ym {f f' g:Nat->Rat} {k:Nat}:cv g (fun i=>f i+f' i) k=cv g f k+cv g f' k:=by
 induction k generalizing f f' with
 |zero=>simp only[X4];grind
 |succ k ih=>simp only[Qj];rw[ih];grind
theorem Y9 {f g:Nat->Rat} {c:Rat} {k:Nat}:cv g (fun i=>c*f i) k=c*cv g f k:=by
 induction k generalizing f with
 |zero=>simp only[X4];grind
 |succ k ih=>simp only[Qj];rw[ih];grind
theorem q3n {g:Nat->Rat} {k:Nat}:cv g (fun _=>0) k=0:=by
 induction k with
 |zero=>simp only[X4];grind
 |succ k ih=>simp only[Qj];rw[ih];grind
theorem q6t {f g:Nat->Rat} {k:Nat}:cv g f (k+1)=f (k+1)*g 0+cv (fun i=>g (i+1)) f k:=by
 induction k generalizing f with
 |zero=>simp only[Qj,X4];grind
 |succ k ih=>rw[Qj,ih,Qj];grind
theorem q2m {f g:Nat->Rat} {k:Nat}:cv g f k=cv f g k:=by
 induction k generalizing f with
 |zero=>simp only[X4];grind
 |succ k ih=>rw[Qj,q6t,ih];grind
theorem qa8 {f g h:Nat->Rat} {k:Nat}:cv h (cv g f) k=cv (cv h g) f k:=by
 induction k generalizing f with
 |zero=>simp only[X4];grind
 |succ k ih=>
  rw[Qj,Qj];have e:(fun i=>cv g f (i+1))=fun i=>f 0*(fun i=>g (i+1)) i+cv g (fun i=>f (i+1)) i:=rfl
  rw[e,Ym,Y9,ih,X4,Qj]
  grind
theorem qf0 {α:Type} {L:List α} {F:α->Nat->Rat} {g:Nat->Rat} {k:Nat}:cv g (fun i=>sm L (fun a=>F a i)) k=sm L (fun a=>cv g (F a) k):=by
 induction L with
 |nil=>exact q3n
 |cons a L ih=>rw[qy,<-ih,<-Ym];rfl
theorem qm7 {f g:Nat->Rat} {k:Nat}:(k:Rat)*cv g f k=cv g (fun i=>(i:Rat)*f i) k+cv (fun i=>(i:Rat)*g i) f k:=by
 induction k generalizing f with
 |zero=>simp only[X4];grind
 |succ k ih=>
  rw[Qj,Qj,Qj]
  have e:(fun i:Nat=>((i+1:Nat):Rat)*f (i+1))=fun i=>((i:Nat):Rat)*(fun i=>f (i+1)) i+f (i+1):=by
   funext i;rw[zD2];grind
  rw[e,Ym];have:=ih (f:=fun i=>f (i+1))
  rw[zD2]
  grind
def dl0 (k:Nat):Rat:=if k=0 then 1 else 0
theorem qke {g:Nat->Rat} {k:Nat}:cv g dl0 k=g k:=by
 cases k with
 |zero=>rw[X4];show 1*g 0=g 0;grind
 |succ k=>
  rw[Qj];have:(fun i=>dl0 (i+1))=fun _=>0:=by funext i;rfl
  rw[this,q3n];show 1*g (k+1)+0=_;grind
def NW (s f:Nat->Rat):Prop:=f 0=1/\ ∀k:Nat,(k:Rat)*f k+cv f s k=0
variable {α:Type} [DecidableEq α]
def mp (L:List α) (A:α->α->Rat):Nat->α->α->Rat
 |0,i,j=>if i=j then 1 else 0
 |k+1,i,j=>sm L (fun l=>A i l*mp L A k l j)
theorem J7 {L:List α} {A:α->α->Rat} {i j:α}:mp L A 0 i j=if i=j then 1 else 0:=rfl
theorem q07 {L:List α} {A:α->α->Rat} {k:Nat} {i j:α}:mp L A (k+1) i j=sm L (fun l=>A i l*mp L A k l j):=rfl
theorem Za {L:List α} (hn:L.Nodup) {i:α} (hi:i∈L) {f:α->Rat}:sm L (fun l=>(if i=l then 1 else 0)*f l)=f i:=by
 rw[qog hn hi]
 . rw[iP rfl];grind
 . intro j _ hj;rw[iN' (fun h=>hj h.symm)];grind
theorem q3j {L:List α} (hn:L.Nodup) {i:α} (hi:i∈L) {f:α->Rat}:sm L (fun l=>f l*(if l=i then 1 else 0))=f i:=by
 rw[qog hn hi]
 . rw[iP rfl];grind
 . intro j _ hj;rw[iN' hj];grind
theorem qs7 {L:List α} (hn:L.Nodup) {A:α->α->Rat} {a b:Nat}: ∀{i j:α},i∈L->sm L (fun l=>mp L A b i l*mp L A a l j)=mp L A (b+a) i j:=by
 induction b with
 |zero=>
  intro i j hi;rw[zF];exact Za hn hi
 |succ b ih=>
  intro i j hi;rw[show b+1+a=(b+a)+1 by omega,q07]
  have e:sm L (fun l=>mp L A (b+1) i l*mp L A a l j)=sm L (fun m=>A i m*sm L (fun l=>mp L A b m l*mp L A a l j)):=by
   have e1:sm L (fun l=>mp L A (b+1) i l*mp L A a l j)=sm L (fun l=>sm L (fun m=>A i m*(mp L A b m l*mp L A a l j))):=by
    refine qj fun l _=> ?_
    rw[q07,<-Yc];exact qj fun m _=>by grind
   rw[e1,Yd];exact qj fun m _=>Qm _
  rw[e];exact qj fun m hm=>by rw[ih hm]
def tr (L:List α) (A:α->α->Rat) (k:Nat):Rat:=sm L (fun i=>mp L A k i i)
def sp (L:List α) (A:α->α->Rat) (k:Nat):Rat:=if k=0 then 0 else tr L A k
section
variable (p:α) (R:List α) (A:α->α->Rat)
def uu (i:α) (k:Nat):Rat:=sm R (fun l=>mp R A k i l*A l p)
def ww (j:α) (k:Nat):Rat:=sm R (fun l=>A p l*mp R A k l j)
def sgA:Nat->Rat
 |0=>1
 |1=> -A p p
 |k+2=> -sm R (fun l=>A p l*uu p R A l k)
def wz (j:α):Nat->Rat
 |0=>0
 |k+1=>ww p R A j k
def uz (i:α):Nat->Rat
 |0=>0
 |k+1=>uu p R A i k
def uw (i j:α):Nat->Rat
 |0=>0
 |1=>0
 |k+2=>cv (ww p R A j) (uu p R A i) k
def YY (k:Nat) (i j:α):Rat:=
 if i=p then(if j=p then dl0 k else wz p R A j k)else if j=p then uz p R A i k else cv (sgA p R A) (fun k=>mp R A k i j) k+uw p R A i j k
variable {p R A}
theorem qjd {i:α} {k:Nat}:sm R (fun l=>A i l*uu p R A l k)=uu p R A i (k+1):=by
 unfold uu
 have:sm R (fun l=>A i l*sm R (fun m=>mp R A k l m*A m p))=sm R (fun l=>sm R (fun m=>A i l*mp R A k l m*A m p)):=by
  refine qj fun l _=> ?_
  rw[<-Qm];exact qj fun m _=>by grind
 rw[this,Yd];refine qj fun m _=> ?_
 rw[q07,<-Yc]
theorem Zo {F:α->Nat->Rat} {g:Nat->Rat} {k:Nat} {c:α->Rat}:sm R (fun l=>c l*cv g (F l) k)=cv g (fun i=>sm R (fun l=>c l*F l i)) k:=by
 rw[qf0 (F:=fun l i=>c l*F l i)]
 exact qj fun l _=>Y9.symm
theorem qqh {i j:α} (hn:(p::R).Nodup) (hi:i∈p::R) (hj:j∈p::R):YY p R A 0 i j=if i=j then 1 else 0:=by
 unfold YY;by_cases c:i=p
 . rw[iP c];by_cases d:j=p
   . rw[iP d,iP (c.trans d.symm)];rfl
   . rw[iN' d,iN' (fun h=>d (h.symm.trans c))];rfl
 . rw[iN' c];by_cases d:j=p
   . rw[iP d,iN' (fun h=>c (h.trans d))];rfl
   . rw[iN' d,X4,J7];show _*1+0=_
     grind
theorem qoy {i j:α} {k:Nat} (hn:(p::R).Nodup) (hi:i∈p::R) (hj:j∈p::R):
 YY p R A (k+1) i j=(if i=j then 1 else 0)*sgA p R A (k+1)+sm (p::R) (fun l=>A i l*YY p R A k l j):=by
 rw[zS]at hn;have hne: ∀l∈R,l≠p:=fun l hl e=>hn.1 (e▸hl)
 have memR: ∀l,l∈p::R->l≠p->l∈R:=fun l h1 h2=>(mC h1).resolve_left h2
 rw[qy];by_cases d:j=p
 . subst d
   have e1:sm R (fun l=>A i l*YY j R A k l j)=sm R (fun l=>A i l*uz j R A l k):=qj fun l hl=>by
    show _*YY _ _ _ _ _ _=_
    unfold YY;rw[iN' (hne l hl),iP rfl]
   rw[e1];have e2:YY j R A k j j=dl0 k:=by unfold YY;rw[iP rfl,iP rfl]
   rw[e2];by_cases c:i=j
   . subst c;have:YY i R A (k+1) i i=dl0 (k+1):=by unfold YY;rw[iP rfl,iP rfl]
     rw[this,iP rfl];cases k with
     |zero=>
      rw[Qn (fun l _=>show A i l*uz i R A l 0=0 by show A i l*0=0;grind)]
      show(0:Rat)=1*(-A i i)+(A i i*1+0)
      grind
     |succ k=>
      show(0:Rat)=1*(-sm R (fun l=>A i l*uu i R A l k))+(A i i*0+sm R (fun l=>A i l*uu i R A l k))
      grind
   . have:YY j R A (k+1) i j=uu j R A i k:=by unfold YY;rw[iN' c,iP rfl];rfl
     rw[this,iN' c];cases k with
     |zero=>
      rw[Qn (fun l _=>show A i l*uz j R A l 0=0 by show A i l*0=0;grind)]
      show uu j R A i 0=0*_+(A i j*1+0)
      have:uu j R A i 0=A i j:=Za hn.2 (memR i hi c)
      grind
     |succ k=>
      show _=0*_+(A i j*0+sm R (fun l=>A i l*uu j R A l k))
      rw[qjd];grind
 . have hjR:=memR j hj d;have e2:YY p R A k p j=wz p R A j k:=by unfold YY;rw[iP rfl,iN' d]
   have e1:sm R (fun l=>A i l*YY p R A k l j)=cv (sgA p R A) (fun m=>sm R (fun l=>A i l*mp R A m l j)) k+sm R (fun l=>A i l*uw p R A l j k):=by
    rw[<-Zo,<-q0u];refine qj fun l hl=> ?_
    have:YY p R A k l j=cv (sgA p R A) (fun k=>mp R A k l j) k+uw p R A l j k:=by unfold YY;rw[iN' (hne l hl),iN' d]
    rw[this];grind
   rw[e1,e2];by_cases c:i=p
   . subst c;have e3:YY i R A (k+1) i j=ww i R A j k:=by unfold YY;rw[iP rfl,iN' d];rfl
     rw[e3,iN' (fun h=>d h.symm)]
     have e4:(fun m=>sm R (fun l=>A i l*mp R A m l j))=ww i R A j:=rfl
     rw[e4];cases k with
     |zero=>
      rw[Qn (fun l _=>show A i l*uw i R A l j 0=0 by show A i l*0=0;grind),X4]
      show _=0*_+(A i i*0+(ww i R A j 0*1+0))
      grind
     |succ k=>
      rw[q6t];cases k with
      |zero=>
       rw[Qn (fun l _=>show A i l*uw i R A l j 1=0 by show A i l*0=0;grind),X4]
       show _=0*_+(A i i*ww i R A j 0+(ww i R A j 1*1+ww i R A j 0*(-A i i)+0))
       grind
      |succ k=>
       rw[q6t];show _=0*_+(A i i*ww i R A j (k+1)+(ww i R A j (k+2)*1+(ww i R A j (k+1)*(-A i i)+cv (fun m=>sgA i R A (m+1+1)) (ww i R A j) k)+sm R (fun l=>A i l*cv (ww i R A j) (uu i R A l) k)))
       rw[Zo]
       have e5:(fun m=>sgA i R A (m+1+1))=fun m=>(-1)*(fun m=>sm R (fun l=>A i l*uu i R A l m)) m:=by
        funext m;show-sm R _=_;grind
       rw[q2m (f:=ww i R A j),e5,Y9]
       grind
   . have hiR:=memR i hi c;have e3:YY p R A (k+1) i j=cv (sgA p R A) (fun k=>mp R A k i j) (k+1)+uw p R A i j (k+1):=by unfold YY;rw[iN' c,iN' d]
     rw[e3,Qj,J7];have e4:(fun m=>mp R A (m+1) i j)=fun m=>sm R (fun l=>A i l*mp R A m l j):=by funext m;rfl
     rw[e4];cases k with
     |zero=>
      rw[Qn (fun l _=>show A i l*uw p R A l j 0=0 by show A i l*0=0;grind)]
      show _+0=_+(A i p*0+(_+0))
      grind
     |succ k=>
      cases k with
      |zero=>
       rw[Qn (fun l _=>show A i l*uw p R A l j 1=0 by show A i l*0=0;grind)]
       show _+cv (ww p R A j) (uu p R A i) 0=_+(A i p*ww p R A j 0+(_+0))
       rw[X4];have:uu p R A i 0=A i p:=Za hn.2 hiR;rw[this];grind
      |succ k=>
       show _+cv (ww p R A j) (uu p R A i) (k+1)=_+(A i p*ww p R A j (k+1)+(_+sm R (fun l=>A i l*cv (ww p R A j) (uu p R A l) k)))
       rw[Qj (f:=uu p R A i),Zo];have:uu p R A i 0=A i p:=Za hn.2 hiR;have e5:(fun m=>sm R (fun l=>A i l*uu p R A l m))=fun m=>uu p R A i (m+1):=by funext m;exact qjd
       rw[this,e5];grind
theorem YY_eq (hn:(p::R).Nodup): ∀(k:Nat) (i j:α),i∈p::R->j∈p::R->cv (sgA p R A) (fun k=>mp (p::R) A k i j) k=YY p R A k i j:=by
 intro k;induction k with
 |zero=>
  intro i j hi hj;rw[qqh hn hi hj,X4,J7];show _*1=_;grind
 |succ k ih=>
  intro i j hi hj;rw[qoy hn hi hj,Qj,J7];congr 1;have:(fun m=>mp (p::R) A (m+1) i j)=fun m=>sm (p::R) (fun l=>A i l*mp (p::R) A m l j):=by funext m;rfl
  rw[this,<-Zo];exact qj fun l hl=>by rw[ih l j hl hj]
theorem qrj (hn:R.Nodup) {a b:Nat} {j:α}:sm R (fun i=>ww p R A i b*mp R A a i j)=ww p R A j (b+a):=by
 unfold ww
 have:sm R (fun i=>sm R (fun l=>A p l*mp R A b l i)*mp R A a i j)=sm R (fun i=>sm R (fun l=>A p l*(mp R A b l i*mp R A a i j))):=by
  refine qj fun i _=> ?_
  rw[<-Yc];exact qj fun l _=>by grind
 rw[this,Yd];refine qj fun l hl=> ?_
 rw[Qm,qs7 hn hl]
theorem qq7 (hn:R.Nodup) {a b:Nat}:sm R (fun i=>uu p R A i a*ww p R A i b)= -sgA p R A (a+b+2):=by
 show _= - -sm R (fun l=>A p l*uu p R A l (a+b))
 have:sm R (fun i=>uu p R A i a*ww p R A i b)=sm R (fun l=>ww p R A l (b+a)*A l p):=by
  have e:sm R (fun i=>uu p R A i a*ww p R A i b)=sm R (fun i=>sm R (fun l=>ww p R A i b*mp R A a i l*A l p)):=by
   refine qj fun i _=> ?_
   unfold uu;rw[<-Yc];exact qj fun l _=>by grind
  rw[e,Yd];refine qj fun l _=> ?_
  rw[Yc,qrj hn]
 rw[this]
 have e2:sm R (fun l=>A p l*uu p R A l (a+b))=sm R (fun l=>ww p R A l (b+a)*A l p):=by
  unfold uu ww
  have:sm R (fun l=>A p l*sm R (fun m=>mp R A (a+b) l m*A m p))=sm R (fun l=>sm R (fun m=>A p l*mp R A (a+b) l m*A m p)):=by
   refine qj fun l _=> ?_
   rw[<-Qm];exact qj fun m _=>by grind
  rw[this,Yd];refine qj fun m _=> ?_
  rw[Yc,zP2]
 rw[e2];grind
theorem qnb {F:α->Nat->Rat} {G:α->Nat->Rat} {c:Rat} {k:Nat} (h: ∀a b,a+b=k->sm R (fun i=>F i a*G i b)=c):sm R (fun i=>cv (G i) (F i) k)=((k+1:Nat):Rat)*c:=by
 induction k generalizing F with
 |zero=>
  have:=h 0 0 rfl;simp only[X4];rw[this];grind
 |succ k ih=>
  simp only[Qj];rw[q0u,h 0 (k+1) O,ih (F:=fun i m=>F i (m+1)) (fun a b hab=>h (a+1) b O),zD2]
  have:((k+1+1:Nat):Rat)=((k+1:Nat):Rat)+1:=zD2 _ _
  grind
theorem qqe (hn:(p::R).Nodup) (k:Nat):cv (sgA p R A) (tr (p::R) A) k=cv (sgA p R A) (tr R A) k+sgA p R A k-(k:Rat)*sgA p R A k:=by
 have e0:tr (p::R) A=fun k=>sm (p::R) (fun i=>mp (p::R) A k i i):=rfl
 rw[e0,qf0 (F:=fun i k=>mp (p::R) A k i i)]
 have e1:sm (p::R) (fun i=>cv (sgA p R A) (fun k=>mp (p::R) A k i i) k)=sm (p::R) (fun i=>YY p R A k i i):=qj fun i hi=>YY_eq hn k i i hi hi
 rw[e1,qy];rw[zS]at hn;have e2:YY p R A k p p=dl0 k:=by unfold YY;rw[iP rfl,iP rfl]
 have e3:sm R (fun i=>YY p R A k i i)=cv (sgA p R A) (tr R A) k+sm R (fun i=>uw p R A i i k):=by
  have e0:tr R A=fun k=>sm R (fun i=>mp R A k i i):=rfl
  rw[e0,qf0 (F:=fun i k=>mp R A k i i),<-q0u]
  refine qj fun i hi=> ?_
  have:i≠p:=fun e=>hn.1 (e▸hi)
  unfold YY;rw[iN' this,iN' this]
 rw[e2,e3]
 match k with
 |0=>
  rw[Qn (fun l _=>show uw p R A l l 0=0 from rfl)]
  show(1:Rat)+_=_+1-((0:Nat):Rat)*1
  grind
 |1=>
  rw[Qn (fun l _=>show uw p R A l l 1=0 from rfl)]
  show(0:Rat)+_=_
  grind
 |k+2=>
  show(0:Rat)+(_+sm R (fun i=>cv (ww p R A i) (uu p R A i) k))=_
  rw[qnb (c:= -sgA p R A (k+2)) (fun a b hab=>by rw[qq7 hn.2,hab])]
  have:((k+2:Nat):Rat)=((k+1:Nat):Rat)+1:=zD2 (k+1) 1;rw[this];grind
end
theorem qq5 {p:α} {R:List α} {A:α->α->Rat} (hn:(p::R).Nodup) {f:Nat->Rat} (h:NW (sp R A) f):NW (sp (p::R) A) (cv (sgA p R A) f):=by
 refine⟨by rw[X4,h.1];show(1:Rat)*1=1;grind,fun k=> ?_⟩
 let D:Nat->Rat:=fun k=>sp (p::R) A k-sp R A k
 have hD: ∀k:Nat,cv (sgA p R A) D k= -((k:Rat)*sgA p R A k):=by
  intro k
  have h0:tr (p::R) A 0=tr R A 0+1:=by
   unfold tr;rw[qy];have:sm R (fun i=>mp (p::R) A 0 i i)=sm R (fun i=>mp R A 0 i i):=qj fun i _=>rfl
   rw[this,J7,iP rfl];grind
  have e:D=fun k=>tr (p::R) A k+(-1)*(tr R A k+dl0 k):=by
   funext k
   show sp (p::R) A k-sp R A k=_
   unfold sp dl0;by_cases c:k=0
   . subst c;rw[iP rfl,iP rfl,iP rfl,h0];grind
   . rw[iN' c,iN' c,iN' c];grind
  rw[e,Ym,Y9,Ym,qke,qqe hn]
  grind
 have e1:cv (cv (sgA p R A) f) (sp (p::R) A) k=cv (cv (sgA p R A) f) (sp R A) k+cv (cv (sgA p R A) f) D k:=by
  rw[<-Ym];refine qfu (fun i _=> ?_) (fun _ _=>rfl)
  show _=sp R A i+(sp (p::R) A i-sp R A i);grind
 have e2:cv (cv (sgA p R A) f) (sp R A) k=cv (sgA p R A) (cv f (sp R A)) k:=qa8.symm
 have e3:cv f (sp R A)=fun i:Nat=>(-1)*((i:Rat)*f i):=by
  funext i
  have:=h.2 i;grind
 have e4:cv (cv (sgA p R A) f) D k=cv (fun i:Nat=>(i:Rat)*sgA p R A i) (fun i=>(-1)*f i) k:=by
  have a1:cv (cv (sgA p R A) f) D k=cv (sgA p R A) (cv f D) k:=qa8.symm;have a2:cv f D=cv D f:=by funext i;exact q2m
  rw[a1,a2,qa8];have a3:cv (sgA p R A) D=fun k:Nat=> -((k:Rat)*sgA p R A k):=by funext i;exact hD i
  rw[a3];have a4:(fun k:Nat=> -((k:Rat)*sgA p R A k))=fun k:Nat=>(-1)*((k:Rat)*sgA p R A k):=by funext i;grind
  rw[a4,q2m,Y9,Y9,q2m]
 rw[qm7,e1,e2,e3,e4,Y9,Y9]
 grind
def isZ (x:Rat):Prop:= ∃z:Int,x=(z:Rat)
theorem qir {x y:Rat} (h1:isZ x) (h2:isZ y):isZ (x+y):=by
 obtain⟨a,rfl⟩:=h1;obtain⟨b,rfl⟩:=h2;exact⟨a+b,(Rat.intCast_add a b).symm⟩
theorem q6q {x y:Rat} (h1:isZ x) (h2:isZ y):isZ (x*y):=by
 obtain⟨a,rfl⟩:=h1;obtain⟨b,rfl⟩:=h2;exact⟨a*b,(zC2 a b).symm⟩
theorem qkh {x:Rat} (h1:isZ x):isZ (-x):=by
 obtain⟨a,rfl⟩:=h1;exact⟨-a,(Rat.intCast_neg a).symm⟩
theorem qj9 {L:List α} {f:α->Rat} (h: ∀i∈L,isZ (f i)):isZ (sm L f):=by
 induction L with
 |nil=>exact⟨0,rfl⟩
 |cons i L ih=>exact qir (h i mS) (ih fun j hj=>h j (mT hj))
theorem qs8 {f g:Nat->Rat} (hf: ∀k,isZ (f k)) (hg: ∀k,isZ (g k)) (k:Nat):isZ (cv g f k):=by
 induction k generalizing f with
 |zero=>exact q6q (hf 0) (hg 0)
 |succ k ih=>exact qir (q6q (hf 0) (hg _)) (ih fun i=>hf (i+1))
theorem qrt {L:List α} {A:α->α->Rat} (h: ∀i j,isZ (A i j)) (k:Nat): ∀i j,isZ (mp L A k i j):=by
 induction k with
 |zero=>intro i j;rw[J7];(split<;>first|exact⟨1,rfl⟩|exact⟨0,rfl⟩)
 |succ k ih=>intro i j;rw[q07];exact qj9 fun l _=>q6q (h i l) (ih l j)
theorem qry {A:α->α->Rat} (h: ∀i j,isZ (A i j)): ∀L:List α,L.Nodup-> ∃f,NW (sp L A) f/\ ∀k,isZ (f k):=by
 intro L;induction L with
 |nil=>
  intro _;refine⟨dl0,⟨rfl,fun k=> ?_⟩,fun k=>by unfold dl0;(split<;>first|exact⟨1,rfl⟩|exact⟨0,rfl⟩)⟩
  have:sp ([]:List α) A=fun _=>0:=by funext k;unfold sp tr;rw[sm_nil];split<;>rfl
  rw[this,q3n];unfold dl0;by_cases c:k=0
  . subst c;rw[iP rfl];grind
  . rw[iN' c];grind
 |cons p R ih=>
  intro hn;obtain⟨f,h1,h2⟩:=ih (zS.1 hn).2;refine⟨_,qq5 hn h1,qs8 h2 fun k=> ?_⟩
  match k with
  |0=>exact⟨1,rfl⟩
  |1=>exact qkh (h p p)
  |k+2=>exact qkh (qj9 fun l _=>q6q (h p l) (qj9 fun m _=>q6q (qrt h k l m) (h m p)))
variable {α:Type} [DecidableEq α]
def lin (K:List α) (V:α->α->Rat) (y:α->Rat) (j:α):Rat:=sm K (fun i=>y i*V i j)
def qf (L:List α) (A:α->α->Rat) (x:α->Rat):Rat:=sm L (fun i=>sm L (fun j=>x i*A i j*x j))
structure Dg (L:List α) (A V:α->α->Rat) (b:α->Rat):Prop where
 form: ∀y,qf L A (lin L V y)=sm L (fun i=>b i*(y i*y i))
 ind: ∀y,(∀j∈L,lin L V y j=0)-> ∀i∈L,y i=0
theorem q33 {L:List α} {A B:α->α->Rat} {x z:α->Rat} (h: ∀i∈L,x i=z i) (hA: ∀i∈L,∀j∈L,A i j=B i j):qf L A x=qf L B z:=
 qj fun i hi=>qj fun j hj=>by rw[h i hi,h j hj,hA i hi j hj]
theorem qr4 {L M:List α} (h:L.Perm M) {A:α->α->Rat} {x:α->Rat}:qf L A x=qf M A x:=by
 unfold qf;rw[q0b h];exact qj fun i _=>q0b h
theorem qfl {L M:List α} (h:L.Perm M) {V:α->α->Rat} {y:α->Rat} {j:α}:lin L V y j=lin M V y j:=q0b h
theorem Dg.perm {L M:List α} (h:L.Perm M) {A V:α->α->Rat} {b:α->Rat} (hd:Dg L A V b):Dg M A V b:=by
 refine⟨fun y=> ?_,fun y hy i hi=> ?_⟩
 . rw[<-q0b h,<-hd.form y,qr4 h];exact q33 (fun i _=>(qfl h).symm) (fun _ _ _ _=>rfl)
 . exact hd.ind y (fun j hj=>(qfl h).trans (hy j (h.mem_iff.1 hj))) i (h.mem_iff.2 hi)
theorem Dg.congr {L:List α} {A B V:α->α->Rat} {b:α->Rat} (h: ∀i∈L,∀j∈L,A i j=B i j) (hd:Dg L A V b):Dg L B V b:=
 ⟨fun y=>by rw[<-hd.form y];exact(q33 (fun _ _=>rfl) h).symm,hd.ind⟩
theorem Dg.neg {L:List α} {A V:α->α->Rat} {b:α->Rat} (hd:Dg L A V b):Dg L (fun i j=> -A i j) V (fun i=> -b i):=by
 refine⟨fun y=> ?_,hd.ind⟩
 have e:sm L (fun i=> -b i*(y i*y i))= -sm L (fun i=>b i*(y i*y i)):=by
  rw[<-q85];exact qj fun i _=>by grind
 rw[e,<-hd.form y];unfold qf;rw[<-q85];refine qj fun i _=> ?_
 rw[<-q85];exact qj fun j _=>by grind
theorem qjx {L:List α} (hn:L.Nodup) {A:α->α->Rat} (h: ∀i∈L,∀j∈L,A i j=0):Dg L A (fun i j=>if i=j then 1 else 0) (fun _=>0):=by
 have hl: ∀(y:α->Rat) j,j∈L->lin L (fun i j=>if i=j then 1 else 0) y j=y j:=fun y j hj=>q3j hn hj
 refine⟨fun y=> ?_,fun y hy i hi=>by rw[<-hl y i hi];exact hy i hi⟩
 rw[Qn (fun i _=>by grind)]
 exact Qn fun i hi=>Qn fun j hj=>by rw[h i hi j hj];grind
theorem qd0 {p:α} {R:List α} {A:α->α->Rat} (hs: ∀i∈p::R,∀j∈p::R,A i j=A j i) {x:α->Rat}:
 qf (p::R) A x=A p p*(x p*x p)+2*x p*sm R (fun k=>A p k*x k)+qf R A x:=by
 unfold qf;rw[qy,qy]
 have e1:sm R (fun j=>x p*A p j*x j)=x p*sm R (fun k=>A p k*x k):=by
  rw[<-Qm];exact qj fun j _=>by grind
 have e2:sm R (fun i=>sm (p::R) (fun j=>x i*A i j*x j))=x p*sm R (fun k=>A p k*x k)+sm R (fun i=>sm R (fun j=>x i*A i j*x j)):=by
  rw[<-Qm,<-q0u];refine qj fun i hi=> ?_
  rw[qy,hs i (mT hi) p mS];grind
 rw[e1,e2];grind
theorem qaa {R:List α} {A B:α->α->Rat} {u w:α->Rat} {c:Rat} (h: ∀i∈R,∀j∈R,B i j=A i j-c*(u i*w j)) {x:α->Rat}:
 qf R B x=qf R A x-c*(sm R (fun k=>u k*x k)*sm R (fun k=>w k*x k)):=by
 rw[qqk,<-Qm];unfold qf;rw[<-sm_sb];refine qj fun i hi=> ?_
 rw[<-Qm,<-sm_sb];refine qj fun j hj=> ?_
 rw[h i hi j hj];grind
def q0c (p:α) (R:List α) (A W:α->α->Rat):α->α->Rat:=fun i j=>
 if i=p then(if j=p then 1 else 0)else if j=p then-sm R (fun k=>A p k*W i k)/A p p else W i j
theorem q9k {R:List α} {W:α->α->Rat} {c y:α->Rat} {b:Rat}:sm R (fun i=>y i*(-sm R (fun k=>c k*W i k)/b))= -sm R (fun k=>c k*lin R W y k)/b:=by
 have e:sm R (fun k=>c k*lin R W y k)=sm R (fun i=>y i*sm R (fun k=>c k*W i k)):=by
  have:sm R (fun k=>c k*lin R W y k)=sm R (fun k=>sm R (fun i=>y i*(c k*W i k))):=by
   refine qj fun k _=> ?_
   unfold lin;rw[<-Qm];exact qj fun i _=>by grind
  rw[this,Yd];exact qj fun i _=>Qm _
 have e2: -sm R (fun k=>c k*lin R W y k)/b=(-1/b)*sm R (fun k=>c k*lin R W y k):=by grind
 rw[e2,e,<-Qm];exact qj fun i _=>by grind
theorem qng {p:α} {R:List α} (hn:(p::R).Nodup) {A B W:α->α->Rat} {g:α->Rat} (hs: ∀i∈p::R,∀j∈p::R,A i j=A j i) (hb:A p p≠0)
 (hB: ∀i∈R,∀j∈R,B i j=A i j-A i p*A p j/A p p) (hd:Dg R B W g):Dg (p::R) A (q0c p R A W) (fun i=>if i=p then A p p else g i):=by
 rw[zS]at hn;have hne: ∀l∈R,l≠p:=fun l hl e=>hn.1 (e▸hl)
 have hx: ∀(y:α->Rat) j,j∈R->lin (p::R) (q0c p R A W) y j=lin R W y j:=by
  intro y j hj;unfold lin;rw[qy];have:q0c p R A W p j=0:=by unfold q0c;rw[iP rfl,iN' (hne j hj)]
  rw[this,qj (g:=fun i=>y i*W i j) fun i hi=>by unfold q0c;rw[iN' (hne i hi),iN' (hne j hj)]]
  grind
 have hp: ∀y:α->Rat,lin (p::R) (q0c p R A W) y p=y p-sm R (fun k=>A p k*lin R W y k)/A p p:=by
  intro y;unfold lin;rw[qy];have:q0c p R A W p p=1:=by unfold q0c;rw[iP rfl,iP rfl]
  rw[this,qj (g:=fun i=>y i*(-sm R (fun k=>A p k*W i k)/A p p)) fun i hi=>by unfold q0c;rw[iN' (hne i hi),iP rfl],q9k]
  unfold lin
  grind
 refine⟨fun y=> ?_,fun y hy=> ?_⟩
 . have es:sm R (fun k=>A p k*lin (p::R) (q0c p R A W) y k)=sm R (fun k=>A p k*lin R W y k):=qj fun k hk=>by rw[hx y k hk]
   rw[qd0 hs,hp y,es];have e1:qf R A (lin (p::R) (q0c p R A W) y)=qf R A (lin R W y):=q33 (fun i hi=>hx y i hi) (fun _ _ _ _=>rfl)
   have e2:=qaa (R:=R) (A:=A) (B:=B) (u:=fun k=>A p k) (w:=fun k=>A p k) (c:=1/A p p) (x:=lin R W y) (fun i hi j hj=>by
    rw[hB i hi j hj,hs i (mT hi) p mS];grind)
   rw[hd.form y]at e2;rw[qy,iP rfl,e1];have e3:sm R (fun i=>(if i=p then A p p else g i)*(y i*y i))=sm R (fun i=>g i*(y i*y i)):=qj fun i hi=>by rw[iN' (hne i hi)]
   rw[e3,e2];clear e1 e2 e3 es hp hx hs hB hd;generalize sm R (fun k=>A p k*lin R W y k)=s
   generalize qf R A (lin R W y)=t
   grind
 . have h0: ∀j∈R,lin R W y j=0:=fun j hj=>(hx y j hj).symm.trans (hy j (mT hj))
   have h1:=hd.ind y h0;have h2:=hy p mS;rw[hp y,Qn (fun k hk=>by rw[h0 k hk];grind)]at h2
   intro i hi;rcases mC hi with rfl|hi
   . grind
   . exact h1 i hi
def Xx (p q:α) (R:List α) (A W:α->α->Rat):α->α->Rat:=fun i j=>
 if i=p then(if j=p then 1 else if j=q then 1 else 0)else if i=q then(if j=p then 1 else if j=q then-1 else 0)
 else if j=p then-sm R (fun k=>A q k*W i k)/A p q else if j=q then-sm R (fun k=>A p k*W i k)/A p q else W i j
theorem qno {p q:α} {R:List α} (hn:(p::q::R).Nodup) {A B W:α->α->Rat} {g:α->Rat} (hs: ∀i∈p::q::R,∀j∈p::q::R,A i j=A j i) (hp0:A p p=0) (hq0:A q q=0) (hb:A p q≠0)
 (hB: ∀i∈R,∀j∈R,B i j=A i j-A i p*A q j/A p q-A i q*A p j/A p q) (hd:Dg R B W g):
 Dg (p::q::R) A (Xx p q R A W) (fun i=>if i=p then 2*A p q else if i=q then-(2*A p q)else g i):=by
 rw[zS,zS]at hn;obtain⟨hn1,hn2,hn3⟩:=hn;have hpq:q≠p:=fun e=>hn1 (e▸mS)
 have hnp: ∀l∈R,l≠p:=fun l hl e=>hn1 (mT (e▸hl))
 have hnq: ∀l∈R,l≠q:=fun l hl e=>hn2 (e▸hl)
 have hx: ∀(y:α->Rat) j,j∈R->lin (p::q::R) (Xx p q R A W) y j=lin R W y j:=by
  intro y j hj;unfold lin;rw[qy,qy];have e1:Xx p q R A W p j=0:=by unfold Xx;rw[iP rfl,iN' (hnp j hj),iN' (hnq j hj)]
  have e2:Xx p q R A W q j=0:=by unfold Xx;rw[iN' hpq,iP rfl,iN' (hnp j hj),iN' (hnq j hj)]
  rw[e1,e2,qj (g:=fun i=>y i*W i j) fun i hi=>by unfold Xx;rw[iN' (hnp i hi),iN' (hnq i hi),iN' (hnp j hj),iN' (hnq j hj)]]
  grind
 have hp: ∀y:α->Rat,lin (p::q::R) (Xx p q R A W) y p=y p+y q-sm R (fun k=>A q k*lin R W y k)/A p q:=by
  intro y;unfold lin;rw[qy,qy];have e1:Xx p q R A W p p=1:=by unfold Xx;rw[iP rfl,iP rfl]
  have e2:Xx p q R A W q p=1:=by unfold Xx;rw[iN' hpq,iP rfl,iP rfl]
  rw[e1,e2,qj (g:=fun i=>y i*(-sm R (fun k=>A q k*W i k)/A p q)) fun i hi=>by unfold Xx;rw[iN' (hnp i hi),iN' (hnq i hi),iP rfl],q9k]
  unfold lin
  grind
 have hq: ∀y:α->Rat,lin (p::q::R) (Xx p q R A W) y q=y p-y q-sm R (fun k=>A p k*lin R W y k)/A p q:=by
  intro y;unfold lin;rw[qy,qy];have e1:Xx p q R A W p q=1:=by unfold Xx;rw[iP rfl,iN' hpq,iP rfl]
  have e2:Xx p q R A W q q= -1:=by unfold Xx;rw[iN' hpq,iP rfl,iN' hpq,iP rfl]
  rw[e1,e2,qj (g:=fun i=>y i*(-sm R (fun k=>A p k*W i k)/A p q)) fun i hi=>by unfold Xx;rw[iN' (hnp i hi),iN' (hnq i hi),iN' hpq,iP rfl],q9k]
  unfold lin
  grind
 have hsp:=hs p mS q (mT mS);refine⟨fun y=> ?_,fun y hy=> ?_⟩
 . have es: ∀r,sm R (fun k=>A r k*lin (p::q::R) (Xx p q R A W) y k)=sm R (fun k=>A r k*lin R W y k):=fun r=>qj fun k hk=>by rw[hx y k hk]
   rw[qd0 hs,qd0 (fun i hi j hj=>hs i (mT hi) j (mT hj)),qy,hp y,hq y,hp0,hq0,es p,es q]
   have e1:qf R A (lin (p::q::R) (Xx p q R A W) y)=qf R A (lin R W y):=q33 (fun i hi=>hx y i hi) (fun _ _ _ _=>rfl)
   have e2:=qaa (R:=R) (A:=fun i j=>A i j-(1/A p q)*(A p i*A q j)) (B:=B) (u:=fun k=>A q k) (w:=fun k=>A p k) (c:=1/A p q) (x:=lin R W y) (fun i hi j hj=>by
    rw[hB i hi j hj,hs i (mT (mT hi)) p mS,hs i (mT (mT hi)) q (mT mS)];grind)
   have e3:=qaa (R:=R) (A:=A) (B:=fun i j=>A i j-(1/A p q)*(A p i*A q j)) (u:=fun k=>A p k) (w:=fun k=>A q k) (c:=1/A p q) (x:=lin R W y) (fun i hi j hj=>rfl)
   rw[hd.form y,e3]at e2;rw[qy,qy,iP rfl,iN' hpq,iP rfl,e1];have e4:sm R (fun i=>(if i=p then 2*A p q else if i=q then-(2*A p q)else g i)*(y i*y i))=sm R (fun i=>g i*(y i*y i)):=qj fun i hi=>by rw[iN' (hnp i hi),iN' (hnq i hi)]
   rw[e4,e2];clear e1 e2 e3 e4 es hp hq hx hs hB hd;generalize sm R (fun k=>A p k*lin R W y k)=s
   generalize sm R (fun k=>A q k*lin R W y k)=r
   generalize qf R A (lin R W y)=t
   grind
 . have h0: ∀j∈R,lin R W y j=0:=fun j hj=>(hx y j hj).symm.trans (hy j (mT (mT hj)))
   have h1:=hd.ind y h0;have h2:=hy p mS;have h3:=hy q (mT mS);rw[hp y,Qn (fun k hk=>by rw[h0 k hk];grind)]at h2
   rw[hq y,Qn (fun k hk=>by rw[h0 k hk];grind)]at h3
   intro i hi;rcases mC hi with rfl|hi
   . grind
   . rcases mC hi with rfl|hi
     . grind
     . exact h1 i hi
def npos (L:List α) (b:α->Rat):Nat:=(L.filter fun i=>decide (0<b i)).length
theorem q4u {L:List α} {p q:α->Bool} (h: ∀i∈L,q i= !p i):(L.filter p).length+(L.filter q).length=L.length:=by
 induction L with
 |nil=>rfl
 |cons i L ih=>
  have h0:=h i mS;have h1:=ih fun j hj=>h j (mT hj)
  rw[zZ1,zZ1,h0];cases p i<;>simp<;>omega
theorem sm_if {L:List α} {p:α->Bool} {f:α->Rat} {y:α->Rat}:sm (L.filter p) (fun i=>f i*y i)=sm L (fun i=>f i*(if p i then y i else 0)):=by
 rw[qjr];exact qj fun i _=>by split<;>grind
variable {α:Type} [DecidableEq α]
def mm (L:List α) (A B:α->α->Rat) (i j:α):Rat:=sm L (fun k=>A i k*B k j)
def tp (A:α->α->Rat) (i j:α):Rat:=A j i
def cj (L:List α) (Q A:α->α->Rat):α->α->Rat:=mm L (tp Q) (mm L A Q)
theorem q2t {L:List α} {A B C:α->α->Rat} {i j:α}:mm L (mm L A B) C i j=mm L A (mm L B C) i j:=by
 unfold mm
 have e1:sm L (fun k=>sm L (fun l=>A i l*B l k)*C k j)=sm L (fun k=>sm L (fun l=>A i l*(B l k*C k j))):=by
  refine qj fun k _=> ?_
  rw[<-Yc];exact qj fun l _=>by grind
 rw[e1,Yd];exact qj fun l _=>Qm _
theorem q57 {L:List α} {A A' B B':α->α->Rat} {i j:α} (h1: ∀k∈L,A i k=A' i k) (h2: ∀k∈L,B k j=B' k j):mm L A B i j=mm L A' B' i j:=
 qj fun k hk=>by rw[h1 k hk,h2 k hk]
structure Orth (L:List α) (Q:α->α->Rat):Prop where
 col: ∀i∈L,∀j∈L,mm L (tp Q) Q i j=if i=j then 1 else 0
 row: ∀i∈L,∀j∈L,mm L Q (tp Q) i j=if i=j then 1 else 0
theorem qgu {L:List α} (hn:L.Nodup) {I B:α->α->Rat} (h: ∀i∈L,∀j∈L,I i j=if i=j then 1 else 0) {i j:α} (hi:i∈L):mm L I B i j=B i j:=by
 unfold mm;rw[qj (g:=fun k=>(if i=k then 1 else 0)*B k j) fun k hk=>by rw[h i hi k hk]]
 exact Za hn hi
theorem qm3 {L:List α} (hn:L.Nodup) {I B:α->α->Rat} (h: ∀i∈L,∀j∈L,I i j=if i=j then 1 else 0) {i j:α} (hj:j∈L):mm L B I i j=B i j:=by
 unfold mm;rw[qj (g:=fun k=>B i k*(if k=j then 1 else 0)) fun k hk=>by rw[h k hk j hj]]
 exact q3j hn hj
theorem qq9 {L:List α} {A B:α->α->Rat}:sm L (fun i=>mm L A B i i)=sm L (fun i=>mm L B A i i):=by
 unfold mm;rw[Yd];exact qj fun k _=>qj fun i _=>zC3 _ _
theorem mp_cj {L:List α} (hn:L.Nodup) {Q A:α->α->Rat} (hQ:Orth L Q): ∀(k:Nat) (i j:α),i∈L->j∈L->mp L (cj L Q A) k i j=mm L (tp Q) (mm L (mp L A k) Q) i j:=by
 intro k;induction k with
 |zero=>
  intro i j hi hj;rw[J7];have:mm L (tp Q) (mm L (mp L A 0) Q) i j=mm L (tp Q) Q i j:=q57 (fun _ _=>rfl) fun k hk=>qgu hn (fun _ _ _ _=>rfl) hk
  rw[this,hQ.col i hi j hj]
 |succ k ih=>
  intro i j hi hj
  have e1:mp L (cj L Q A) (k+1) i j=mm L (cj L Q A) (mm L (tp Q) (mm L (mp L A k) Q)) i j:=by
   show mm L (cj L Q A) (mp L (cj L Q A) k) i j=_
   exact q57 (fun _ _=>rfl) fun l hl=>ih l j hl hj
  rw[e1];unfold cj;rw[q2t];refine q57 (fun _ _=>rfl) fun l hl=> ?_
  rw[q2t]
  have e2:mm L (mp L A (k+1)) Q l j=mm L A (mm L (mp L A k) Q) l j:=by
   have:mm L (mp L A (k+1)) Q l j=mm L (mm L A (mp L A k)) Q l j:=rfl;rw[this,q2t]
  rw[e2];refine q57 (fun _ _=>rfl) fun m hm=> ?_
  rw[<-q2t];exact qgu hn hQ.row hm
theorem tr_cj {L:List α} (hn:L.Nodup) {Q A:α->α->Rat} (hQ:Orth L Q) (k:Nat):tr L (cj L Q A) k=tr L A k:=by
 unfold tr;rw[qj fun i hi=>mp_cj hn hQ k i i hi hi,qq9]
 refine qj fun i hi=> ?_
 rw[q2t];exact qm3 hn hQ.row hi
theorem qlf {L:List α} {Q A:α->α->Rat} (hs: ∀i∈L,∀j∈L,A i j=A j i): ∀i∈L,∀j∈L,cj L Q A i j=cj L Q A j i:=by
 intro i hi j hj;unfold cj mm tp
 have e: ∀i j,sm L (fun k=>Q k i*sm L (fun l=>A k l*Q l j))=sm L (fun k=>sm L (fun l=>Q k i*A k l*Q l j)):=by
  intro i j;refine qj fun k _=> ?_
  rw[<-Qm];exact qj fun l _=>by grind
 rw[e,e,Yd];exact qj fun k hk=>qj fun l hl=>by rw[hs l hl k hk];grind
def mv (L:List α) (A:α->α->Rat) (x:α->Rat) (i:α):Rat:=sm L (fun k=>A i k*x k)
def ip (L:List α) (x y:α->Rat):Rat:=sm L (fun i=>x i*y i)
theorem ip_mv {L:List α} {A:α->α->Rat} {x y:α->Rat}:ip L (mv L A x) y=ip L x (mv L (tp A) y):=by
 unfold ip mv tp
 have e1:sm L (fun i=>sm L (fun k=>A i k*x k)*y i)=sm L (fun i=>sm L (fun k=>x k*(A i k*y i))):=by
  refine qj fun k _=> ?_
  rw[<-Yc];exact qj fun l _=>by grind
 rw[e1,Yd];exact qj fun k _=>Qm _
theorem mv_mm {L:List α} {A B:α->α->Rat} {x:α->Rat} {i:α}:mv L (mm L A B) x i=mv L A (mv L B x) i:=by
 unfold mv mm
 have e1:sm L (fun k=>sm L (fun l=>A i l*B l k)*x k)=sm L (fun k=>sm L (fun l=>A i l*(B l k*x k))):=by
  refine qj fun k _=> ?_
  rw[<-Yc];exact qj fun l _=>by grind
 rw[e1,Yd];exact qj fun k _=>Qm _
theorem qf_ip {L:List α} {A:α->α->Rat} {x:α->Rat}:qf L A x=ip L x (mv L A x):=by
 unfold qf ip mv;refine qj fun i _=> ?_
 rw[<-Qm];exact qj fun j _=>by grind
theorem qgg {L:List α} {A B:α->α->Rat} {x y:α->Rat} {i:α} (h1: ∀k∈L,A i k=B i k) (h2: ∀k∈L,x k=y k):mv L A x i=mv L B y i:=
 qj fun k hk=>by rw[h1 k hk,h2 k hk]
theorem qfk {L:List α} {x y x' y':α->Rat} (h1: ∀k∈L,x k=x' k) (h2: ∀k∈L,y k=y' k):ip L x y=ip L x' y':=
 qj fun k hk=>by rw[h1 k hk,h2 k hk]
theorem qo8 {L:List α} (hn:L.Nodup) {I:α->α->Rat} (h: ∀i∈L,∀j∈L,I i j=if i=j then 1 else 0) {x:α->Rat} {i:α} (hi:i∈L):mv L I x i=x i:=by
 unfold mv;rw[qj (g:=fun k=>(if i=k then 1 else 0)*x k) fun k hk=>by rw[h i hi k hk]]
 exact Za hn hi
theorem qf_cj {L:List α} {Q A:α->α->Rat} {x:α->Rat}:qf L (cj L Q A) x=qf L A (mv L Q x):=by
 rw[qf_ip,qf_ip,ip_mv];refine qfk (fun _ _=>rfl) fun i _=> ?_
 unfold cj;rw[mv_mm];exact qgg (fun _ _=>rfl) fun k _=>mv_mm
def rotV (L:List α) (Q V:α->α->Rat):α->α->Rat:=fun i j=>mv L (tp Q) (V i) j
theorem qps {L K:List α} {Q V:α->α->Rat} {y:α->Rat} {j:α}:lin K (rotV L Q V) y j=mv L (tp Q) (lin K V y) j:=by
 unfold lin rotV mv
 have e1:sm K (fun i=>y i*sm L (fun k=>tp Q j k*V i k))=sm K (fun i=>sm L (fun k=>tp Q j k*(y i*V i k))):=by
  refine qj fun k _=> ?_
  rw[<-Qm];exact qj fun l _=>by grind
 rw[e1,Yd];exact qj fun k _=>Qm _
theorem Dg_cj {L:List α} (hn:L.Nodup) {Q A V:α->α->Rat} {b:α->Rat} (hQ:Orth L Q) (hd:Dg L A V b):Dg L (cj L Q A) (rotV L Q V) b:=by
 have back: ∀y,∀j∈L,mv L Q (lin L (rotV L Q V) y) j=lin L V y j:=by
  intro y j hj;have e:mv L Q (lin L (rotV L Q V) y) j=mv L Q (mv L (tp Q) (lin L V y)) j:=qgg (fun _ _=>rfl) fun k _=>qps
  rw[e,<-mv_mm];exact qo8 hn hQ.row hj
 refine⟨fun y=> ?_,fun y hy=>hd.ind y fun j hj=> ?_⟩
 . rw[qf_cj,<-hd.form y];exact q33 (fun i hi=>back y i hi) (fun _ _ _ _=>rfl)
 . rw[<-back y j hj];exact Qn fun k hk=>by rw[hy k hk];grind
def vn (L:List α) (V:α->α->Rat):Rat:=sm L (fun i=>ip L (V i) (V i))
theorem qrh {L:List α} (hn:L.Nodup) {Q V:α->α->Rat} (hQ:Orth L Q):vn L (rotV L Q V)=vn L V:=by
 unfold vn;refine qj fun i _=> ?_
 show ip L (mv L (tp Q) (V i)) (mv L (tp Q) (V i))=_
 rw[ip_mv];refine qfk (fun _ _=>rfl) fun k hk=> ?_
 have:mv L (tp (tp Q)) (mv L (tp Q) (V i)) k=mv L (mm L Q (tp Q)) (V i) k:=mv_mm.symm;rw[this];exact qo8 hn hQ.row hk
inductive JR (L:List α):(α->α->Rat)->(α->α->Rat)->Prop
 |refl (A:α->α->Rat):JR L A A
 |step {A B Q:α->α->Rat}:JR L A B->Orth L Q->JR L A (cj L Q B)
theorem JR.inv {L:List α} (hn:L.Nodup) {A B:α->α->Rat} (h:JR L A B) (hs: ∀i∈L,∀j∈L,A i j=A j i) {V:α->α->Rat} {b:α->Rat} (hd:Dg L A V b):
 (∀i∈L,∀j∈L,B i j=B j i)/\(∀k,tr L B k=tr L A k)/\ ∃W,Dg L B W b/\vn L W=vn L V:=by
 induction h with
 |refl=>exact⟨hs,fun _=>rfl,V,hd,rfl⟩
 |step h1 hQ ih=>
  obtain⟨i1,i2,W,i3,i4⟩:=ih;exact⟨qlf i1,fun k=>(tr_cj hn hQ k).trans (i2 k),_,Dg_cj hn hQ i3,(qrh hn hQ).trans i4⟩
def rot (p q:α) (c s:Rat) (i j:α):Rat:=
 if i=p then(if j=p then c else if j=q then s else 0)else if i=q then(if j=p then-s else if j=q then c else 0)else if i=j then 1 else 0
section
variable {L R:List α} {p q:α} {c s:Rat}
theorem qdv (hn:(p::q::R).Nodup) (X:α->Rat) {j:α} (hj:j∈p::q::R):
 sm (p::q::R) (fun l=>X l*rot p q c s l j)=if j=p then X p*c-X q*s else if j=q then X p*s+X q*c else X j:=by
 rw[zS,zS]at hn;obtain⟨hn1,hn2,hn3⟩:=hn;have hpq:q≠p:=fun e=>hn1 (e▸mS)
 have hnp: ∀l∈R,l≠p:=fun l hl e=>hn1 (mT (e▸hl))
 have hnq: ∀l∈R,l≠q:=fun l hl e=>hn2 (e▸hl)
 rw[qy,qy];by_cases cp:j=p
 . subst cp;rw[iP rfl,Qn (fun l hl=>by unfold rot;rw[iN' (hnp l hl),iN' (hnq l hl),iN' (hnp l hl)];grind)]
   unfold rot;rw[iP rfl,iP rfl,iN' hpq,iP rfl,iP rfl];grind
 . by_cases cq:j=q
   . subst cq;rw[iN' cp,iP rfl,Qn (fun l hl=>by unfold rot;rw[iN' (hnp l hl),iN' (hnq l hl),iN' (hnq l hl)];grind)]
     unfold rot;rw[iP rfl,iN' cp,iP rfl,iN' cp,iP rfl,iN' cp,iP rfl];grind
   . have hjR:j∈R:=((mC hj).resolve_left cp|>mC).resolve_left cq
     rw[iN' cp,iN' cq];have e1:rot p q c s p j=0:=by unfold rot;rw[iP rfl,iN' cp,iN' cq]
     have e2:rot p q c s q j=0:=by unfold rot;rw[iN' hpq,iP rfl,iN' cp,iN' cq]
     rw[e1,e2,qj (g:=fun l=>X l*(if l=j then 1 else 0)) fun l hl=>by unfold rot;rw[iN' (hnp l hl),iN' (hnq l hl)],q3j hn3 hjR]
     grind
theorem qrr (hpq:q≠p):tp (rot p q c s)=rot p q c (-s):=by
 funext i j
 unfold tp rot;by_cases h1:i=p<;>by_cases h2:j=p<;>by_cases h3:i=q<;>by_cases h4:j=q<;>by_cases h5:i=j<;>simp_all<;>grind
theorem qfr (hn:(p::q::R).Nodup) (h1:c*c+s*s=1):Orth (p::q::R) (rot p q c s):=by
 have hpq:q≠p:=by
  rw[zS]at hn;exact fun e=>hn.1 (e▸mS)
 have key: ∀(c s:Rat),c*c+s*s=1-> ∀i∈p::q::R,∀j∈p::q::R,mm (p::q::R) (tp (rot p q c s)) (rot p q c s) i j=if i=j then 1 else 0:=by
  intro c s h1 i hi j hj;unfold mm;rw[qdv hn (fun k=>tp (rot p q c s) i k) hj]
  unfold tp rot;by_cases g1:i=p<;>by_cases g2:j=p<;>by_cases g3:i=q<;>by_cases g4:j=q<;>by_cases g5:i=j<;>simp_all<;>grind
 refine⟨key c s h1,fun i hi j hj=> ?_⟩
 have e:=key c (-s) (by grind) i hi j hj
 rw[<-qrr hpq]at e;exact e
end
def frob (L:List α) (A:α->α->Rat):Rat:=sm L (fun i=>sm L (fun j=>A i j*A i j))
def dsq (L:List α) (A:α->α->Rat):Rat:=sm L (fun i=>A i i*A i i)
def off (L:List α) (A:α->α->Rat):Rat:=sm L (fun i=>sm L (fun j=>if i=j then 0 else A i j*A i j))
theorem qnt {L:List α} (hn:L.Nodup) {A:α->α->Rat}:frob L A=dsq L A+off L A:=by
 unfold frob dsq off;rw[<-q0u];refine qj fun i hi=> ?_
 have:sm L (fun j=>A i j*A i j)=sm L (fun j=>(if i=j then 1 else 0)*(A i j*A i j)+(if i=j then 0 else A i j*A i j)):=qj fun j _=>by split<;>grind
 rw[this,q0u,Za hn hi]
theorem q98 {L:List α} (hn:L.Nodup) {A:α->α->Rat} (hs: ∀i∈L,∀j∈L,A i j=A j i):frob L A=tr L A 2:=by
 unfold frob tr;refine qj fun i hi=> ?_
 rw[q07];refine qj fun l hl=> ?_
 rw[q07,qj (g:=fun m=>A l m*(if m=i then 1 else 0)) fun m _=>by rw[J7],q3j hn hi,hs l hl i hi]
theorem qlx {L:List α} (hn:L.Nodup) {p q:α} (hp:p∈L) (hq:q∈L) (hpq:p≠q): ∃R,L.Perm (p::q::R):=by
 have h1:=List.perm_cons_erase hp;have h2:q∈L.erase p:=(List.mem_erase_of_ne (fun e=>hpq e.symm)).2 hq
 exact⟨_,h1.trans (List.Perm.cons _ (List.perm_cons_erase h2))⟩
theorem qdn {L M:List α} (h:L.Perm M) {A B:α->α->Rat}:mm L A B=mm M A B:=by funext i j;exact q0b h
theorem Orth.perm {L M:List α} (h:L.Perm M) {Q:α->α->Rat} (hQ:Orth L Q):Orth M Q:=
 ⟨fun i hi j hj=>by rw[<-qdn h];exact hQ.col i (h.mem_iff.2 hi) j (h.mem_iff.2 hj),fun i hi j hj=>by rw[<-qdn h];exact hQ.row i (h.mem_iff.2 hi) j (h.mem_iff.2 hj)⟩
theorem qnm {L R:List α} {p q:α} (hn:L.Nodup) (hP:L.Perm (p::q::R)) {A:α->α->Rat} {c s:Rat} (hs: ∀i∈L,∀j∈L,A i j=A j i) (h1:c*c+s*s=1):
 off L (cj L (rot p q c s) A)=off L A-2*(A p q*A p q)+2*((c*s*(A p p-A q q)+(c*c-s*s)*A p q)*(c*s*(A p p-A q q)+(c*c-s*s)*A p q)):=by
 have hn':=hP.nodup_iff.1 hn;have hQ:Orth L (rot p q c s):=(qfr hn' h1).perm hP.symm;have f1:=q98 hn (qlf (Q:=rot p q c s) hs);have f2:=q98 hn hs;rw[tr_cj hn hQ,<-f2,qnt hn,qnt hn]at f1;have hpL:p∈L:=hP.mem_iff.2 mS;have hqL:q∈L:=hP.mem_iff.2 (mT mS)
 have hpq:q≠p:=by
  rw[zS]at hn';exact fun e=>hn'.1 (e▸mS)
 have ent: ∀j∈p::q::R,∀i∈p::q::R,cj L (rot p q c s) A i j=if i=p then(mm L A (rot p q c s) p j)*c-(mm L A (rot p q c s) q j)*s else if i=q then(mm L A (rot p q c s) p j)*s+(mm L A (rot p q c s) q j)*c else mm L A (rot p q c s) i j:=by
  intro j hj i hi
  have:cj L (rot p q c s) A i j=sm (p::q::R) (fun l=>mm L A (rot p q c s) l j*rot p q c s l i):=by
   rw[<-q0b hP];exact qj fun l _=>zC3 _ _
  rw[this,qdv hn' _ hi]
 have ent2: ∀k,∀j∈p::q::R,mm L A (rot p q c s) k j=if j=p then A k p*c-A k q*s else if j=q then A k p*s+A k q*c else A k j:=by
  intro k j hj;rw[qdn hP];exact qdv hn' (fun l=>A k l) hj
 have hp':p∈p::q::R:=mS;have hq':q∈p::q::R:=mT mS
 have d1:dsq L (cj L (rot p q c s) A)=(c*c*A p p-2*(c*s*A p q)+s*s*A q q)*(c*c*A p p-2*(c*s*A p q)+s*s*A q q)+((s*s*A p p+2*(c*s*A p q)+c*c*A q q)*(s*s*A p p+2*(c*s*A p q)+c*c*A q q)+sm R (fun i=>A i i*A i i)):=by
  unfold dsq;rw[q0b hP,qy,qy,ent p hp' p hp',ent q hq' q hq',iP rfl,iN' hpq,iP rfl,ent2 p p hp',ent2 q p hp',ent2 p q hq',ent2 q q hq',iP rfl,iP rfl,iN' hpq,iP rfl,iN' hpq,iP rfl,hs q hqL p hpL]
  have e:sm R (fun i=>cj L (rot p q c s) A i i*cj L (rot p q c s) A i i)=sm R (fun i=>A i i*A i i):=by
   refine qj fun i hi=> ?_
   rw[zS,zS]at hn';have h2:i≠p:=fun e=>hn'.1 (mT (e▸hi))
   have h3:i≠q:=fun e=>hn'.2.1 (e▸hi)
   have hi':i∈p::q::R:=mT (mT hi);rw[ent i hi' i hi',iN' h2,iN' h3,ent2 i i hi',iN' h2,iN' h3]
  rw[e];generalize A p p=x;generalize A p q=y;generalize A q q=z
  grind
 have d2:dsq L A=A p p*A p p+(A q q*A q q+sm R (fun i=>A i i*A i i)):=by
  unfold dsq;rw[q0b hP,qy,qy]
 rw[d1,d2]at f1;clear d1 d2 ent ent2 f2;generalize off L (cj L (rot p q c s) A)=o1 at*;generalize off L A=o2 at*;generalize sm R (fun i=>A i i*A i i)=t at*
 generalize A p p=x at*;generalize A p q=y at*;generalize A q q=z at*
 have hc:c*c=1-s*s:=by grind
 have id:(c*c*x-2*(c*s*y)+s*s*z)*(c*c*x-2*(c*s*y)+s*s*z)+(s*s*x+2*(c*s*y)+c*c*z)*(s*s*x+2*(c*s*y)+c*c*z)+2*((c*s*(x-z)+(c*c-s*s)*y)*(c*s*(x-z)+(c*c-s*s)*y))=x*x+z*z+2*(y*y):=by
  have e:(c*c*x-2*(c*s*y)+s*s*z)*(c*c*x-2*(c*s*y)+s*s*z)+(s*s*x+2*(c*s*y)+c*c*z)*(s*s*x+2*(c*s*y)+c*c*z)+2*((c*s*(x-z)+(c*c-s*s)*y)*(c*s*(x-z)+(c*c-s*s)*y))=(c*c+s*s)*(c*c+s*s)*(x*x+z*z+2*(y*y)):=by grind
  rw[e,h1];grind
 grind
variable {α:Type} [DecidableEq α]
theorem arch (x:Rat): ∃N:Nat,0<N/\x<=(N:Rat):=by
 refine⟨(x.floor+1).toNat+1,O,?_⟩;have h1:=Rat.lt_floor_add_one x
 have h2:((x.floor+1:Int):Rat)<=(((x.floor+1).toNat+1:Nat):Rat):=by
  have h3:(x.floor+1:Int)<=(((x.floor+1).toNat+1:Nat):Int):=O;have:=Rat.intCast_le_intCast.2 h3
  rwa [Rat.intCast_natCast]at this
 grind
theorem disc {P:Nat->Prop}: ∀{N:Nat},P 0-> ¬P N-> ∃k,k<N/\P k/\ ¬P (k+1)
 |0,h0,h1=>absurd h0 h1
 |N+1,h0,h1=>by
  by_cases c:P N
  . exact⟨N,O,c,h1⟩
  . obtain⟨k,hk,h⟩:=disc h0 c;exact⟨k,O,h⟩
def gg (b d u:Rat):Rat:=2*u*(1-u*u)*d+((1-u*u)*(1-u*u)-4*(u*u))*b
theorem qpf {b d D u v:Rat} (hb:0<b) (h1: -D<=d) (h2:d<=D) (hu:0<=u) (huv:u<=v) (hv:v<=1):gg b d u-gg b d v<=(v-u)*(12*b+8*D):=by
 have e:gg b d u-gg b d v=(v-u)*(6*b*(u+v)-b*(u+v)*(u*u+v*v)-2*d+2*d*(u*u+u*v+v*v)):=by
  unfold gg;grind
 rw[e];refine zH2 ?_ (by grind)
 have w0:0<=u*u+u*v+v*v:=by
  have:=zD hu hu;have:=zD hu (show 0<=v by grind);have:=sq_nonneg v;grind
 have w1:u*u+u*v+v*v<=3:=by
  have a1:=zD (show 0<=1-u by grind) (show 0<=1+u by grind)
  have a2:=zD (show 0<=1-v by grind) (show 0<=1+v by grind)
  have a3:=zD (show 0<=1-u by grind) (show 0<=v by grind)
  grind
 have t1:=zD (show 0<=b by grind) (show 0<=2-(u+v) by grind)
 have t2:0<=b*(u+v)*(u*u+v*v):=zD (zD (by grind) (by grind)) (by have:=sq_nonneg u;have:=sq_nonneg v;grind)
 have t3:=zD (show 0<=D-d by grind) w0
 have t4:=zD (show 0<=D by grind) (show 0<=3-(u*u+u*v+v*v) by grind)
 generalize u*u+u*v+v*v=w at*
 have t5:d*w<=3*D:=by grind
 generalize b*(u+v)*(u*u+v*v)=z at*
 grind
theorem qbw {b d:Rat} (hb:0<b): ∃c s:Rat,c*c+s*s=1/\4*((c*s*d+(c*c-s*s)*b)*(c*s*d+(c*c-s*s)*b))<=b*b:=by
 have hD: -(d*d+1)<=d/\d<=d*d+1:=by
  have h1:=sq_nonneg (d-1/2);have h2:=sq_nonneg (d+1/2);constructor<;>grind
 obtain⟨N,hN,hNb⟩:=arch (2*(12*b+8*(d*d+1))/b);have hN0:(0:Rat)<(N:Rat):=Rat.natCast_pos.2 hN
 obtain⟨k,hk,p1,p2⟩:=disc (P:=fun k=>0<gg b d ((k:Rat)/(N:Rat))) (N:=N) (by
  show 0<gg b d (((0:Nat):Rat)/(N:Rat))
  have:((0:Nat):Rat)/(N:Rat)=0:=by grind
  rw[this];unfold gg;grind) (by
  show¬0<gg b d (((N:Nat):Rat)/(N:Rat))
  have:((N:Nat):Rat)/(N:Rat)=1:=by grind
  rw[this];unfold gg;grind)
 have hk0:(0:Rat)<=(k:Rat):=zZ2;have hkN:((k+1:Nat):Rat)<=(N:Rat):=Rat.natCast_le_natCast.2 hk;have hk1:((k+1:Nat):Rat)=(k:Rat)+1:=zD2 _ _;rw[hk1]at p2 hkN;have i0:0<(1:Rat)/(N:Rat):=by rw[zt3,Rat.one_mul];exact zu3.2 hN0
 have q1:(0:Rat)<=(k:Rat)/(N:Rat):=by
  have:(k:Rat)/(N:Rat)=(k:Rat)*(1/(N:Rat)):=by grind
  rw[this];exact zD hk0 (by grind)
 have q2:((k:Rat)+1)/(N:Rat)-(k:Rat)/(N:Rat)=1/(N:Rat):=by grind
 have q3:((k:Rat)+1)/(N:Rat)<=1:=by
  have e:1-((k:Rat)+1)/(N:Rat)=((N:Rat)-((k:Rat)+1))*(1/(N:Rat)):=by grind
  have:=zD (show 0<=(N:Rat)-((k:Rat)+1) by grind) (show 0<=1/(N:Rat) by grind)
  grind
 have hnear:=qpf hb hD.1 hD.2 q1 (show(k:Rat)/(N:Rat)<=((k:Rat)+1)/(N:Rat) by grind) q3
 rw[q2]at hnear
 have hb2:1/(N:Rat)*(12*b+8*(d*d+1))<=b/2:=by
  have e1:2*(12*b+8*(d*d+1))=2*(12*b+8*(d*d+1))/b*b:=by grind
  have e2:=Rat.mul_le_mul_of_nonneg_right hNb (show 0<=b by grind)
  rw[<-e1]at e2;have e3:=zH2 e2 (show 0<=1/(N:Rat) by grind)
  have e4:1/(N:Rat)*((N:Rat)*b)=b:=by grind
  rw[e4]at e3;generalize 12*b+8*(d*d+1)=K at*
  grind
 generalize hu:(k:Rat)/(N:Rat)=u at*
 have gle:gg b d u<=b/2:=by
  have: ¬0<gg b d (((k:Rat)+1)/(N:Rat)):=p2
  grind
 have hp:0<1+u*u:=by have:=sq_nonneg u;grind
 refine⟨(1-u*u)/(1+u*u),2*u/(1+u*u),?_,?_⟩
 . grind
 . have e:(1-u*u)/(1+u*u)*(2*u/(1+u*u))*d+((1-u*u)/(1+u*u)*((1-u*u)/(1+u*u))-2*u/(1+u*u)*(2*u/(1+u*u)))*b=gg b d u*(1/(1+u*u)*(1/(1+u*u))):=by
    unfold gg;grind
   rw[e];have i1:0<1/(1+u*u):=by rw[zt3,Rat.one_mul];exact zu3.2 hp
   have i2:1/(1+u*u)<=1:=by
    have h3:1/(1+u*u)*(1+u*u)=1:=by grind
    have h4:=zD (show 0<=1/(1+u*u) by grind) (sq_nonneg u)
    grind
   generalize 1/(1+u*u)=r at*
   have r2:r*r<=1:=by
    have:=zD (show 0<=1-r by grind) (show 0<=1+r by grind);grind
   have r0:0<=r*r:=sq_nonneg r;generalize r*r=t at*;have g0:0<gg b d u:=p1;generalize gg b d u=g at*
   have m1:g*t<=b/2:=by
    have:=zD (show 0<=g by grind) (show 0<=1-t by grind);grind
   have m0:0<=g*t:=zD (by grind) r0
   generalize g*t=z at*
   have:=zD (show 0<=b/2-z by grind) (show 0<=b/2+z by grind)
   grind
theorem angle {b d:Rat} (hb:b≠0): ∃c s:Rat,c*c+s*s=1/\4*((c*s*d+(c*c-s*s)*b)*(c*s*d+(c*c-s*s)*b))<=b*b:=by
 by_cases h:0<b
 . exact qbw h
 . obtain⟨c,s,h1,h2⟩:=qbw (b:= -b) (d:= -d) (by grind)
   refine⟨c,s,h1,?_⟩;have e1:c*s* -d+(c*c-s*s)* -b= -(c*s*d+(c*c-s*s)*b):=by grind
   rw[e1]at h2;generalize c*s*d+(c*c-s*s)*b=z at*
   grind
theorem qon {L:List α} {f:α->Rat} (h:L≠[]): ∃i∈L,sm L f<=(L.length:Rat)*f i:=by
 induction L with
 |nil=>exact absurd rfl h
 |cons i L ih=>
  by_cases c:L=[]
  . subst c;refine⟨i,mS,?_⟩;rw[qy,sm_nil];show _<=((1:Nat):Rat)*f i
    grind
  . obtain⟨j,hj,h1⟩:=ih c;have h0:(0:Rat)<=(L.length:Rat):=zZ2;have hl:(((i::L).length:Nat):Rat)=(L.length:Rat)+1:=by rw[zy];exact zD2 _ _
    rw[hl];by_cases c2:f i<=f j
    . exact⟨j,mT hj,by rw[qy];grind⟩
    . refine⟨i,mS,?_⟩;rw[qy];have:=zD h0 (show 0<=f i-f j by grind)
      grind
theorem qqv {L:List α} {A:α->α->Rat} (h:0<off L A): ∃p∈L,∃q∈L,p≠q/\off L A<=(L.length:Rat)*(L.length:Rat)*(A p q*A p q):=by
 have hL:L≠[]:=by rintro rfl;exact absurd h (by unfold off;rw[sm_nil];grind)
 have h0:(0:Rat)<=(L.length:Rat):=zZ2;obtain⟨p,hp,h1⟩:=qon (f:=fun i=>sm L (fun j=>if i=j then 0 else A i j*A i j)) hL
 obtain⟨q,hq,h2⟩:=qon (f:=fun j=>if p=j then 0 else A p j*A p j) hL
 have h3:=zH2 h2 h0;have h4:off L A<=(L.length:Rat)*((L.length:Rat)*(if p=q then 0 else A p q*A p q)):=z02 h1 h3
 by_cases c:p=q
 . rw[iP c]at h4;grind
 . rw[iN' c]at h4;exact⟨p,hp,q,hq,c,by grind⟩
theorem qs5 {L:List α} (hn:L.Nodup) {A:α->α->Rat} (hs: ∀i∈L,∀j∈L,A i j=A j i) {e:Rat} (he:0<e): ∃B,JR L A B/\off L B<=e:=by
 obtain⟨M,hM,hM1⟩:=arch ((L.length:Rat)*(L.length:Rat));have hM0:(0:Rat)<(M:Rat):=Rat.natCast_pos.2 hM
 let t:Rat:=e/(M:Rat)
 have ht:0<t:=by
  show 0<e/(M:Rat)
  rw[zt3];exact zp2 he (zu3.2 hM0)
 have htM:t*(M:Rat)=e:=by show e/(M:Rat)*(M:Rat)=e;grind
 have main: ∀(N:Nat) (B:α->α->Rat),JR L A B->(∀i∈L,∀j∈L,B i j=B j i)->off L B<=(N:Rat)*t-> ∃B,JR L A B/\off L B<=e:=by
  intro N;induction N with
  |zero=>intro B h1 _ h2;exact⟨B,h1,by grind⟩
  |succ N ih=>
   intro B h1 hsB h2;by_cases c:off L B<=e
   . exact⟨B,h1,c⟩
   . obtain⟨p,hp,q,hq,hpq,h3⟩:=qqv (L:=L) (A:=B) (by grind)
     have hb:t<=B p q*B p q:=by
      have s1:=sq_nonneg (B p q);have s2:=Rat.mul_le_mul_of_nonneg_right hM1 s1;generalize B p q*B p q=y at*;have s3:t*(M:Rat)<=(M:Rat)*y:=by grind
      have s4:(M:Rat)*t<=(M:Rat)*y:=by grind
      exact Rat.le_of_mul_le_mul_left s4 hM0
     have hb0:B p q≠0:=by intro h;rw[h]at hb;grind
     obtain⟨cc,ss,a1,a2⟩:=angle (b:=B p q) (d:=B p p-B q q) hb0;obtain⟨R,hP⟩:=qlx hn hp hq hpq;have hQ:Orth L (rot p q cc ss):=(qfr (hP.nodup_iff.1 hn) a1).perm hP.symm;refine ih _ (JR.step h1 hQ) (qlf hsB) ?_;rw[qnm hn hP hsB a1];have:((N+1:Nat):Rat)=(N:Rat)+1:=zD2 _ _;rw[this]at h2;generalize (cc*ss*(B p p-B q q)+(cc*cc-ss*ss)*B p q)*(cc*ss*(B p p-B q q)+(cc*cc-ss*ss)*B p q)=z at*;generalize B p q*B p q=y at*
     grind
 obtain⟨N,_,hN⟩:=arch (off L A/t);refine main N A (JR.refl A) hs ?_;have:=Rat.mul_le_mul_of_nonneg_right hN (show 0<=t by grind)
 have e1:off L A/t*t=off L A:=by grind
 rwa [e1]at this
def sgq (x:Rat):Int:=if x<0 then-1 else if x=0 then 0 else 1
def vs:Int->List Rat->Nat
 |_,[]=>0
 |s,x::l=>(if sgq x*s<0 then 1 else 0)+vs (if sgq x=0 then s else sgq x) l
theorem qqf {x:Rat}:sgq (-x)= -sgq x:=by
 unfold sgq;by_cases h1:x<0
 . rw[iP h1,iN' (by grind),iN' (by grind)];rfl
 . by_cases h2:x=0
   . subst h2;decide
   . rw[iN' h1,iN' h2,iP (by grind)]
theorem Zl (x:Rat):(sgq x= -1/\x<0)\/(sgq x=0/\x=0)\/(sgq x=1/\0<x):=by
 unfold sgq;by_cases h1:x<0
 . rw[iP h1];exact .inl ⟨rfl,h1⟩
 . by_cases h2:x=0
   . rw[iN' h1,iP h2];exact .inr (.inl ⟨rfl,h2⟩)
   . rw[iN' h1,iN' h2];exact .inr (.inr ⟨rfl,by grind⟩)
inductive Alt:Int->List Rat->Nat->Prop
 |nil (s:Int) (l:List Rat):Alt s l 0
 |skip {s:Int} {x:Rat} {l:List Rat} {v:Nat}:Alt s l v->Alt s (x::l) v
 |take {s:Int} {x:Rat} {l:List Rat} {v:Nat}:sgq x*s<0->Alt (sgq x) l v->Alt s (x::l) (v+1)
theorem Alt.drop {s t:Int} {l:List Rat} {v:Nat} (hs:s=1\/s= -1) (h:Alt s l (v+1)) (ht:t= -s):Alt t l v:=by
 generalize hw:v+1=w at h
 induction h with
 |nil=>omega
 |skip _ ih=>exact .skip (ih hs ht hw)
 | @take s x l u h1 h2 ih=>
   have:u=v:=O;subst this
   have e:sgq x= -s:=by
    rcases Zl x with⟨h,_⟩|⟨h,_⟩|⟨h,_⟩<;>rw[h]at h1⊢ <;>rcases hs with rfl|rfl<;>omega
   subst ht;rw[e]at h2;exact .skip h2
theorem Alt.le_vs {s:Int} {l:List Rat} {v:Nat} (hs:s=1\/s= -1) (h:Alt s l v):v<=vs s l:=by
 induction l generalizing s v with
 |nil=>cases h;exact zG2 _
 |cons x l ih=>
  rw[vs];cases h with
  |nil=>exact zG2 _
  |skip h=>
   rcases Zl x with⟨e,_⟩|⟨e,_⟩|⟨e,_⟩
   . rw[e,iN' (show¬(-1:Int)=0 by decide)]
     rcases hs with rfl|rfl
     . rw[iP (by decide)]
       cases v with
       |zero=>exact zG2 _
       |succ v=>have:=ih (s:= -1) (.inr rfl) (h.drop (.inl rfl) rfl);omega
     . have:=ih (.inr rfl) h;omega
   . rw[e,iP rfl];have:=ih hs h;omega
   . rw[e,iN' (show¬(1:Int)=0 by decide)]
     rcases hs with rfl|rfl
     . have:=ih (.inl rfl) h;omega
     . rw[iP (by decide)]
       cases v with
       |zero=>exact zG2 _
       |succ v=>have:=ih (s:=1) (.inl rfl) (h.drop (.inr rfl) (by decide));omega
  | @take _ _ _ u h1 h2=>
    rw[iP h1];have hne: ¬sgq x=0:=by intro e;rw[e]at h1;omega
    rw[iN' hne]
    have:sgq x=1\/sgq x= -1:=by
     rcases Zl x with⟨h,_⟩|⟨h,_⟩|⟨h,_⟩
     . exact .inr h
     . exact absurd h hne
     . exact .inl h
    have:=ih this h2;omega
def alt:Int->List Rat->List Rat
 |_,[]=>[]
 |e,x::l=>(if e=1 then x else-x)::alt (-e) l
theorem qs6 {l:List Rat}: ∀{s t e:Int} {u:Nat},(s=1\/s= -1)->(e=1\/e= -1)->(t=(if u%2=0 then-(e*s)else e*s))->vs s l+vs t (alt e l)<=u+l.length:=by
 induction l with
 |nil=>intro s t e u _ _ _;exact zG2 _
 |cons x l ih=>
  intro s t e u hs he ht;rw[alt,vs,vs,zy]
  have hx:sgq (if e=1 then x else-x)=e*sgq x:=by
   rcases he with rfl|rfl
   . rw[iP rfl];omega
   . rw[iN' (by decide),qqf];omega
  rw[hx];rcases Zl x with⟨c,_⟩|⟨c,_⟩|⟨c,_⟩
  . rw[c];have h0:=ih (s:= -1) (t:=e* -1) (e:= -e) (u:=0) (.inr rfl) (by rcases he with rfl|rfl<;>simp) (by rcases he with rfl|rfl<;>simp)
    have h1: ¬(e* -1=0):=by rcases he with rfl|rfl<;>decide
    rw[iN' (show¬(-1:Int)=0 by decide),iN' h1]
    subst ht;rcases zK1 u with hu|hu<;>rcases hs with rfl|rfl<;>rcases he with rfl|rfl<;>simp[hu]at h0⊢ <;>omega
  . rw[c]
    have h0:=ih (s:=s) (t:=t) (e:= -e) (u:=u+1) hs (by rcases he with rfl|rfl<;>simp) (by
     rw[ht];rcases zK1 u with hu|hu
     . rw[iP hu,iN' O,zA3]
     . rw[iN' O,iP O,zA3,Int.neg_neg])
    have h1:e*0=0:=zg3 _;rw[iP rfl,iP h1,h1,zK2,zK2];have h2: ¬(0:Int)<0:=by decide
    simp only[h2,if_false];omega
  . rw[c];have h0:=ih (s:=1) (t:=e*1) (e:= -e) (u:=0) (.inl rfl) (by rcases he with rfl|rfl<;>simp) (by rcases he with rfl|rfl<;>simp)
    have h1: ¬(e*1=0):=by rcases he with rfl|rfl<;>decide
    rw[iN' (show¬(1:Int)=0 by decide),iN' h1]
    subst ht;rcases zK1 u with hu|hu<;>rcases hs with rfl|rfl<;>rcases he with rfl|rfl<;>simp[hu]at h0⊢ <;>omega
def ec (d:Rat) (f:Nat->Rat):Nat->Rat
 |0=>f 0
 |k+1=>f (k+1)-d*f k
def EE:List Rat->(Nat->Rat)->Nat->Rat
 |[],f=>f
 |d::l,f=>ec d (EE l f)
theorem qop {d:Rat} {f:Nat->Rat}:(fun i=>ec d f (i+1))=fun i=>(fun i=>f (i+1)) i+(-d)*f i:=by
 funext i;show f (i+1)-d*f i=_;grind
theorem cv_ec {d:Rat} {f s:Nat->Rat} {k:Nat}:cv (ec d f) s (k+1)=cv f s (k+1)-d*cv f s k:=by
 rw[q2m,Qj,qop,Ym,Y9,q2m (f:=s) (k:=k+1),Qj,q2m (f:=s) (k:=k)];show f 0*s (k+1)+_=_
 grind
def pd (d:Rat):Nat->Rat
 |0=>0
 |k+1=>d^(k+1)
theorem qp0 {d:Rat}:(fun i=>pd d (i+1))=fun i=>d*(pd d i+dl0 i):=by
 funext i
 cases i with
 |zero=>show d^(0+1)=d*(0+1);grind
 |succ i=>show d^(i+1+1)=d*(d^(i+1)+0);grind
theorem cv_pd {d:Rat} {f:Nat->Rat} {k:Nat}:cv (ec d f) (pd d) (k+1)=d*f k:=by
 have h:cv f (pd d) (k+1)=d*(cv f (pd d) k+f k):=by
  rw[Qj,qp0,Y9,Ym,qke];show 0*f (k+1)+_=_
  grind
 rw[cv_ec,h];grind
theorem NW_ec {s f:Nat->Rat} {d:Rat} (h:NW s f):NW (fun k=>s k+pd d k) (ec d f):=by
 refine⟨h.1,fun k=> ?_⟩
 have e:(fun k=>s k+pd d k)=fun k=>s k+pd d k:=rfl
 rw[Ym];cases k with
 |zero=>
  have:=h.2 0;rw[X4]at this⊢;rw[X4];show((0:Nat):Rat)*f 0+(s 0*f 0+0*f 0)=0
  grind
 |succ k=>
  rw[cv_ec,cv_pd];have h1:=h.2 (k+1);have h2:=h.2 k;show((k+1:Nat):Rat)*(f (k+1)-d*f k)+_=0;have:((k+1:Nat):Rat)=(k:Rat)+1:=zD2 _ _;rw[this]at h1⊢;generalize cv f s (k+1)=x at*;generalize cv f s k=y at*
  grind
theorem qo6 {l m:List Rat} {f:Nat->Rat}:EE (l++m) f=EE l (EE m f):=by
 induction l with
 |nil=>rfl
 |cons d l ih=>rw[zO1,EE,EE,ih]
theorem qpl {d e:Rat} {f:Nat->Rat}:ec d (ec e f)=ec e (ec d f):=by
 funext k
 match k with
 |0=>rfl
 |1=>show(f 1-e*f 0)-d*f 0=(f 1-d*f 0)-e*f 0;grind
 |k+2=>show(f (k+2)-e*f (k+1))-d*(f (k+1)-e*f k)=(f (k+2)-d*f (k+1))-e*(f (k+1)-d*f k);grind
theorem qii {l m:List Rat} (h:l.Perm m) {f:Nat->Rat}:EE l f=EE m f:=by
 induction h with
 |nil=>rfl
 |cons x _ ih=>rw[EE,EE,ih]
 |swap x y l=>rw[EE,EE,EE,EE,qpl]
 |trans _ _ h1 h2=>exact h1.trans h2
theorem EE_NW: ∀l:List Rat,NW (fun k=>sm l (fun d=>pd d k)) (EE l dl0):=by
 intro l;induction l with
 |nil=>
  refine⟨rfl,fun k=> ?_⟩
  have:(fun k=>sm ([]:List Rat) (fun d=>pd d k))=fun _=>0:=by funext k;rfl
  rw[this,q3n];show(k:Rat)*dl0 k+0=0;unfold dl0;by_cases c:k=0
  . subst c;rw[iP rfl];grind
  . rw[iN' c];grind
 |cons d l ih=>
  have h:=NW_ec (d:=d) ih
  have e:(fun k=>sm (d::l) (fun d=>pd d k))=fun k=>sm l (fun d=>pd d k)+pd d k:=by
   funext k;rw[qy];grind
  rw[e];exact h
theorem qin {l:List Rat} {f:Nat->Rat}:EE l f 0=f 0:=by
 induction l with
 |nil=>rfl
 |cons d l ih=>exact ih
theorem qel {l:List Rat} {f:Nat->Rat} {M:Nat} (h: ∀k,M<k->f k=0): ∀k,M+l.length<k->EE l f k=0:=by
 induction l with
 |nil=>intro k hk;exact h k (by simpa using hk)
 |cons d l ih=>
  intro k hk;rw[zy]at hk
  match k,hk with
  |k+1,hk=>
   show EE l f (k+1)-d*EE l f k=0
   rw[ih _ O,ih _ O];grind
theorem qs3 {l:List Rat} {dd:Rat} (hd:0<dd) (h: ∀x∈l,dd<=x\/x<= -dd):dd^l.length<=EE l dl0 l.length\/EE l dl0 l.length<= -dd^l.length:=by
 induction l with
 |nil=>left;show dd^0<=1;grind
 |cons x l ih=>
  have h0:EE l dl0 (l.length+1)=0:=qel (M:=0) (fun k hk=>by unfold dl0;rw[iN' O]) _ O
  rw[zy];show dd^(l.length+1)<=EE l dl0 (l.length+1)-x*EE l dl0 l.length\/_;have h1:=ih fun y hy=>h y (mT hy)
  have h2:=h x mS;have hp:0<dd^l.length:=zc3 hd
  have e:EE (x::l) dl0 (l.length+1)= -(x*EE l dl0 l.length):=by
   show EE l dl0 (l.length+1)-x*EE l dl0 l.length=_;rw[h0];grind
  rw[e,h0,zd2];generalize EE l dl0 l.length=z at*;generalize dd^l.length=w at*;rcases h1 with h1|h1<;>rcases h2 with h2|h2
  . right;have:=zD (show 0<=z-w by grind) (show 0<=x by grind);have:=zD (show 0<=x-dd by grind) (show 0<=w by grind);grind
  . left;have:=zD (show 0<=z-w by grind) (show 0<= -x by grind);have:=zD (show 0<= -x-dd by grind) (show 0<=w by grind);grind
  . left;have:=zD (show 0<= -z-w by grind) (show 0<=x by grind);have:=zD (show 0<=x-dd by grind) (show 0<=w by grind);grind
  . right;have:=zD (show 0<= -z-w by grind) (show 0<= -x by grind);have:=zD (show 0<= -x-dd by grind) (show 0<=w by grind);grind
def sn (k:Nat):Rat:=if k%2=0 then 1 else-1
theorem qd8 {k:Nat}:sn (k+1)= -sn k:=by
 unfold sn;rcases zK1 k with h|h
 . rw[iN' O,iP h]
 . rw[iP O,iN' O];grind
theorem qrd {l:List Rat} {f g:Nat->Rat} (h: ∀k,g k=sn k*f k): ∀k,EE (l.map fun x=> -x) g k=sn k*EE l f k:=by
 induction l with
 |nil=>exact h
 |cons d l ih=>
  intro k;cases k with
  |zero=>exact ih 0
  |succ k=>
   show EE (l.map fun x=> -x) g (k+1)-(-d)*EE (l.map fun x=> -x) g k=sn (k+1)*(EE l f (k+1)-d*EE l f k)
   rw[ih,ih,qd8];grind
def CH (f:Nat->Rat) (e:Rat):Nat->Nat->Prop
 |0,k=>k=0/\e<=f 0
 |v+1,k=>(∃j,j<k/\CH f e v j)/\e<=sn (v+1)*f k
theorem CH.val {f:Nat->Rat} {e:Rat}: ∀{v k:Nat},CH f e v k->e<=sn v*f k
 |0,k,h=>by obtain⟨rfl,h⟩:=h;show e<=1*f 0;grind
 |v+1,k,h=>h.2
theorem CH.mono {f:Nat->Rat} {e e':Rat} (he:e'<=e): ∀{v k:Nat},CH f e v k->CH f e' v k
 |0,k,h=>⟨h.1,by have:=h.2;grind⟩
 |v+1,k,h=>⟨by obtain⟨j,h1,h2⟩:=h.1;exact⟨j,h1,h2.mono he⟩,by have:=h.2;grind⟩
def GG (R:Rat):Nat->Rat
 |0=>0
 |n+1=>1+R*GG R n
theorem q17 {R:Rat} (hR:0<=R): ∀n,0<=GG R n
 |0=>by show(0:Rat)<=0;grind
 |n+1=>by
  have:=zD hR (q17 hR n);show 0<=1+R*GG R n;grind
theorem qoq {R:Rat} (hR:1<=R) (n:Nat):GG R n<=GG R (n+1):=by
 show _<=1+R*GG R n
 have:=zD (show 0<=R-1 by grind) (q17 (by grind:0<=R) n)
 grind
theorem qq4 {R:Rat} (hR:1<=R) {n m:Nat} (h:n<=m):GG R n<=GG R m:=by
 induction h with
 |refl=>exact zL3
 |step _ ih=>exact z02 ih (qoq hR _)
theorem tele {f:Nat->Rat} {d R th s:Rat} (hd:0<=d) (hdR:d<=R) (hth:0<=th) (j:Nat): ∀n,(∀i,j<i->i<=j+n->s*ec d f i<=th)->s*f (j+n)<=d^n*(s*f j)+th*GG R n
 |0,_=>by show s*f j<=d^0*(s*f j)+th*0;grind
 |n+1,h=>by
  have h1:=tele hd hdR hth j n fun i hi hi2=>h i hi O
  have h2:=h (j+n+1) O O
  have h3:s*ec d f (j+n+1)=s*f (j+n+1)-d*(s*f (j+n)):=by
   show s*(f (j+n+1)-d*f (j+n))=_;grind
  rw[h3]at h2;have h4:=zH2 h1 hd;have h5:=zD (zD hth (q17 (by grind:0<=R) n)) (show 0<=R-d by grind)
  show s*f (j+n+1)<=d^(n+1)*(s*f j)+th*(1+R*GG R n)
  rw[zd2];generalize s*f (j+n+1)=x at*;generalize s*f (j+n)=y at*;generalize s*f j=z at*;generalize d^n=w at*;generalize GG R n=g at*
  grind
def KK (dl R:Rat) (N:Nat):Rat:=dl^(N+1)/(1+GG R (N+1))
theorem q3v {x:Rat} (h0:0<=x) (h1:x<=1): ∀n:Nat,x^n<=1
 |0=>by grind
 |n+1=>by
  have:=q3v h0 h1 n;have h2:0<=x^n:=zv2 h0;have:=zD (show 0<=1-x by grind) h2
  rw[zd2];grind
theorem qf7 (x:Rat) (n k:Nat):x^(n+k)=x^n*x^k:=by
 induction k with
 |zero=>rw[zQ];grind
 |succ k ih=>rw[<-Nat.add_assoc,zd2,zd2,ih];grind
theorem qm1 {x:Rat} (h0:0<=x) (h1:x<=1) {n m:Nat} (h:n<=m):x^m<=x^n:=by
 obtain⟨k,rfl⟩: ∃k,m=n+k:=⟨m-n,O⟩;rw[qf7];have h2:0<=x^n:=zv2 h0;have h3:=zD h2 (show 0<=1-x^k by have:=q3v h0 h1 k;grind)
 grind
theorem q90 {x y:Rat} (h0:0<=x) (h1:x<=y): ∀n:Nat,x^n<=y^n
 |0=>by grind
 |n+1=>by
  have h2:=q90 h0 h1 n;have h3:0<=x^n:=zv2 h0;have:=zD (show 0<=y-x by grind) h3
  have:=zD (show 0<=y by grind) (show 0<=y^n-x^n by grind)
  rw[zd2,zd2];grind
theorem ql5 {dl R:Rat} {N:Nat} (h0:0<dl) (hR:1<=R):0<KK dl R N:=by
 unfold KK;have:=q17 (by grind:0<=R) (N+1)
 rw[zt3];exact zp2 (zc3 h0) (zu3.2 (by grind))
theorem qpm {f:Nat->Rat} {e d dl R:Rat} {N M v k:Nat} (he:0<e) (h0:0<dl) (h1:dl<=1) (hR:1<=R) (hd1:dl<=d) (hd2:d<=R) (hM:M<=N) (hf: ∀i,M<i->f i=0)
 (hk:k<=M) (h:CH f e v k): ∃k',k'<=M+1/\CH (ec d f) (e*KK dl R N) (v+1) k':=by
 have hd0:0<=d:=by grind
 have hg:=q17 (by grind:0<=R) (N+1)
 have hpow:0<dl^(N+1):=zc3 h0;have hpow1:dl^(N+1)<=1:=q3v (by grind) h1 _
 have hK:KK dl R N*(1+GG R (N+1))=dl^(N+1):=by unfold KK;grind
 have hKp:=ql5 (N:=N) h0 hR;have ht0:0<e*KK dl R N:=zp2 he hKp
 have small: ∀n,n<=N+1->e*KK dl R N*GG R n<e*dl^(N+1):=by
  intro n hn;have a1:=zD (show 0<=e*KK dl R N by grind) (show 0<=GG R (N+1)-GG R n by have:=qq4 hR hn;grind)
  have a2:e*(KK dl R N*(1+GG R (N+1)))=e*dl^(N+1):=by rw[hK]
  generalize GG R n=x at*
  generalize GG R (N+1)=y at*
  generalize KK dl R N=z at*
  grind
 have tl1:e*dl^(N+1)<=e:=by
  have:=zD (show 0<=e by grind) (show 0<=1-dl^(N+1) by grind);grind
 have hKe:e*KK dl R N<=e:=by
  have:=small 1 O;have e1:GG R 1=1:=by show 1+R*0=1;grind
  rw[e1]at this;grind
 have step: ∀(s:Rat) (j n:Nat),n<=N+1->e<=s*f (j+n)->s*f j<=0-> ∃i,j<i/\i<=j+n/\e*KK dl R N<=s*ec d f i:=by
  intro s j n hn g1 g2;refine zX2 fun hc=> ?_
  have hall: ∀i,j<i->i<=j+n->s*ec d f i<=e*KK dl R N:=by
   intro i hi hi2;have: ¬(e*KK dl R N<=s*ec d f i):=fun h=>hc ⟨i,hi,hi2,h⟩
   grind
  have t:=tele hd0 hd2 (by grind:0<=e*KK dl R N) j n hall
  have p0:0<=d^n:=zv2 hd0;have:=zD p0 (show 0<= -(s*f j) by grind)
  have:=small n hn;generalize e*KK dl R N*GG R n=x at*;generalize d^n=w at*;generalize s*f j=z at*
  grind
 have main: ∀v k,k<=M->CH f e v k-> ∃k',k'<=k/\CH (ec d f) (e*KK dl R N) v k':=by
  intro v;induction v with
  |zero=>intro k hk h;obtain⟨rfl,h⟩:=h;exact⟨0,zJ _,rfl,by show _<=f 0;grind⟩
  |succ v ih=>
   intro k hk h;obtain⟨⟨j,hj,hc⟩,hv⟩:=h;obtain⟨j',hj',hc'⟩:=ih j O hc;have hval:=hc.val;obtain⟨i,i1,i2,i3⟩:=step (sn (v+1)) j (k-j) O (by rw[show j+(k-j)=k by omega];exact hv) (by rw[qd8];grind)
   exact⟨i,O,⟨j',O,hc'⟩,i3⟩
 obtain⟨k',hk',hc'⟩:=main v k hk h;have hval:=h.val
 have last: ∃i,k<i/\i<=k+(M+1-k)/\e*KK dl R N<=sn (v+1)*ec d f i:=by
  refine zX2 fun hc=> ?_
  have hall: ∀i,k<i->i<=k+(M+1-k)->sn (v+1)*ec d f i<=e*KK dl R N:=by
   intro i hi hi2;have: ¬(e*KK dl R N<=sn (v+1)*ec d f i):=fun h=>hc ⟨i,hi,hi2,h⟩
   grind
  have t:=tele hd0 hd2 (by grind:0<=e*KK dl R N) k (M+1-k) hall
  rw[show k+(M+1-k)=M+1 by omega,hf (M+1) O,qd8]at t
  have p1:dl^(N+1)<=d^(M+1-k):=z02 (qm1 (by grind) h1 O) (q90 (by grind) hd1 _)
  have:=zD (show 0<=d^(M+1-k)-dl^(N+1) by grind) (show 0<=e by grind)
  have:=zD (show 0<=d^(M+1-k) by grind) (show 0<=sn v*f k-e by grind)
  have:=small (M+1-k) O;generalize e*KK dl R N*GG R (M+1-k)=x at*;generalize d^(M+1-k)=w at*;generalize dl^(N+1)=u at*
  grind
 obtain⟨i,i1,i2,i3⟩:=last;exact⟨i,O,⟨k',O,hc'⟩,i3⟩
theorem qoa {dl R:Rat} {N:Nat} (h0:0<dl) (h1:dl<=1) (hR:1<=R) {f:Nat->Rat} {M:Nat} (hf: ∀i,M<i->f i=0) (hf0:f 0=1):
 ∀P:List Rat,(∀x∈P,dl<=x/\x<=R)->M+P.length<=N-> ∃k,k<=M+P.length/\CH (EE P f) (KK dl R N^P.length) P.length k:=by
 intro P;induction P with
 |nil=>
  intro _ _;refine⟨0,zG2 _,rfl,?_⟩;show KK dl R N^0<=f 0;rw[hf0];grind
 |cons d P ih=>
  intro hP hN;rw[zy]at hN;obtain⟨k,hk,hc⟩:=ih (fun x hx=>hP x (mT hx)) O
  have hd:=hP d mS;obtain⟨k',hk',hc'⟩:=qpm (M:=M+P.length) (N:=N) (zc3 (ql5 h0 hR)) h0 h1 hR hd.1 hd.2 O (qel hf) hk hc;refine⟨k',by rw[zy];omega,?_⟩
  rw[zy,zd2];exact hc'
variable {α:Type} [DecidableEq α]
def near (e C x y:Rat):Prop:= -(C*e)<=x-y/\x-y<=C*e
def ab (x:Rat):Rat:=if x<0 then-x else x
theorem q0i (x:Rat):0<=ab x/\ -ab x<=x/\x<=ab x:=by
 unfold ab;by_cases h:x<0
 . rw[iP h];grind
 . rw[iN' h];grind
theorem q4o {a b x y:Rat} (h1: -a<=x) (h2:x<=a) (h3: -b<=y) (h4:y<=b): -(a*b)<=x*y/\x*y<=a*b:=by
 have t1:=zD (show 0<=a-x by grind) (show 0<=b-y by grind)
 have t2:=zD (show 0<=a+x by grind) (show 0<=b+y by grind)
 have t3:=zD (show 0<=a-x by grind) (show 0<=b+y by grind)
 have t4:=zD (show 0<=a+x by grind) (show 0<=b-y by grind)
 constructor<;>grind
theorem qfz {e C D x y x' y':Rat} (he:0<e) (he1:e<=1) (hC:0<=C) (hD:0<=D) (h1:near e C x x') (h2:near e D y y'):near e (ab x*D+(ab y+D)*C) (x*y) (x'*y'):=by
 obtain⟨a1,a2⟩:=h1;obtain⟨b1,b2⟩:=h2;obtain⟨x1,x2,x3⟩:=q0i x;obtain⟨y1,y2,y3⟩:=q0i y;have d1:=zD hD (show 0<=1-e by grind)
 have p1:=q4o x2 x3 b1 b2;have p2:=q4o (a:=ab y+D) (x:=y') (by grind) (by grind) a1 a2
 have e1:x*y-x'*y'=x*(y-y')+y'*(x-x'):=by grind
 unfold near;rw[e1];generalize x*(y-y')=u at*;generalize y'*(x-x')=w at*;generalize ab x=ax at*;generalize ab y=ay at*;constructor<;>grind
theorem qmz {e C D x y x' y':Rat} (h1:near e C x x') (h2:near e D y y'):near e (C+D) (x+y) (x'+y'):=by
 obtain⟨a1,a2⟩:=h1;obtain⟨b1,b2⟩:=h2;constructor<;>grind
theorem qli {e C D x y:Rat} (he:0<e) (h:C<=D) (h1:near e C x y):near e D x y:=by
 have:=zD (show 0<=D-C by grind) (show 0<=e by grind)
 obtain⟨a1,a2⟩:=h1;constructor<;>grind
theorem qpx: ∀(k:Nat) (f g F G:Nat->Rat),(∀i,0<=F i)->(∀i,0<=G i)-> ∃C,0<=C/\ ∀e f' g',0<e->e<=1->(∀i,i<=k->near e (F i) (f i) (f' i))->(∀i,i<=k->near e (G i) (g i) (g' i))->near e C (cv g f k) (cv g' f' k):=by
 intro k;induction k with
 |zero=>
  intro f g F G hF hG;refine⟨ab (f 0)*G 0+(ab (g 0)+G 0)*F 0,?_,fun e f' g' he he1 h1 h2=>qfz he he1 (hF 0) (hG 0) (h1 0 (zJ _)) (h2 0 (zJ _))⟩
  have:=zD (q0i (f 0)).1 (hG 0);have:=zD (show 0<=ab (g 0)+G 0 by have:=(q0i (g 0)).1;have:=hG 0;grind) (hF 0)
  grind
 |succ k ih=>
  intro f g F G hF hG;obtain⟨C,hC,h⟩:=ih (fun i=>f (i+1)) g (fun i=>F (i+1)) G (fun i=>hF _) hG
  refine⟨ab (f 0)*G (k+1)+(ab (g (k+1))+G (k+1))*F 0+C,?_,fun e f' g' he he1 h1 h2=> ?_⟩
  . have:=zD (q0i (f 0)).1 (hG (k+1));have:=zD (show 0<=ab (g (k+1))+G (k+1) by have:=(q0i (g (k+1))).1;have:=hG (k+1);grind) (hF 0)
    grind
  . rw[Qj,Qj];exact qmz (qfz he he1 (hF 0) (hG _) (h1 0 O) (h2 _ (zJ _))) (h e _ g' he he1 (fun i hi=>h1 (i+1) O) (fun i hi=>h2 i O))
theorem qja {s c S:Nat->Rat} (hs0:s 0=0) (hS: ∀i,0<=S i) (h:NW s c): ∀k:Nat,∃C,0<=C/\ ∀e s' c',0<e->e<=1->s' 0=0->NW s' c'->(∀i,near e (S i) (s i) (s' i))->near e C (c k) (c' k):=by
 intro k;induction k using Nat.strongRecOn with
 |ind k ih=>
  cases k with
  |zero=>
   refine⟨0,zL3,fun e s' c' _ _ _ h' _=> ?_⟩
   rw[h.1,h'.1];unfold near;constructor<;>grind
  |succ k=>
   let F:Nat->Rat:=fun i=>if hi:i<k+1 then Classical.choose (ih i hi)else 0
   have hF: ∀i,0<=F i:=by
    intro i;show 0<=(if hi:i<k+1 then Classical.choose (ih i hi)else 0)
    split
    . rename_i hi;exact(z01 (ih i hi)).1
    . exact zL3
   obtain⟨C,hC,hn⟩:=qpx k (fun i=>s (i+1)) c (fun i=>S (i+1)) F (fun i=>hS _) hF
   refine⟨C,hC,fun e s' c' he he1 h0 h' hnear=> ?_⟩
   have hcv:=hn e (fun i=>s' (i+1)) c' he he1 (fun i _=>hnear (i+1)) (fun i hi=>by
    have hi':i<k+1:=O;have:F i=Classical.choose (ih i hi'):=dif_pos hi';rw[this];exact(z01 (ih i hi')).2 e s' c' he he1 h0 h' hnear)
   have e1:=h.2 (k+1);have e2:=h'.2 (k+1);rw[Qj,hs0]at e1;rw[Qj,h0]at e2;obtain⟨a1,a2⟩:=hcv;generalize cv c (fun i=>s (i+1)) k=x at*
   generalize cv c' (fun i=>s' (i+1)) k=y at*
   have hk:(1:Rat)<=((k+1:Nat):Rat):=by
    have:((1:Nat):Rat)<=((k+1:Nat):Rat):=Rat.natCast_le_natCast.2 O;exact this
   generalize ((k+1:Nat):Rat)=K at*
   have hCe:=zD hC (show 0<=e by grind)
   have e3:K*(c (k+1)-c' (k+1))=y-x:=by grind
   show-(C*e)<=c (k+1)-c' (k+1)/\c (k+1)-c' (k+1)<=C*e
   clear hn hF hnear e1 e2;generalize c (k+1)-c' (k+1)=z at*;constructor
   . refine zG4.1 fun hlt=> ?_
     have:=zD (show 0<=K-1 by grind) (show 0<= -z by grind)
     grind
   . refine zG4.1 fun hlt=> ?_
     have:=zD (show 0<=K-1 by grind) (show 0<=z by grind)
     grind
theorem q9c {L:List α} {c:Rat}:sm L (fun _=>c)=(L.length:Rat)*c:=by
 induction L with
 |nil=>rw[sm_nil];show _=((0:Nat):Rat)*c;grind
 |cons i L ih=>
  have hl:(((i::L).length:Nat):Rat)=(L.length:Rat)+1:=by rw[zy];exact zD2 _ _
  rw[qy,ih,hl];grind
theorem sm_bd {L:List α} {f:α->Rat} {c:Rat} (h: ∀i∈L,-c<=f i/\f i<=c): -((L.length:Rat)*c)<=sm L f/\sm L f<=(L.length:Rat)*c:=by
 have:=qsd (g:=fun _=>c) h
 rwa [q9c]at this
structure ND (L:List α) (R e:Rat) (B:α->α->Rat):Prop where
 pos:0<e
 one:e<=1
 bd: ∀i∈L,∀j∈L,-R<=B i j/\B i j<=R
 off: ∀i∈L,∀j∈L,i≠j-> -e<=B i j/\B i j<=e
theorem qp6 {L:List α} (hn:L.Nodup) {R:Rat} (hR:0<=R): ∀k,∃P C,0<=P/\0<=C/\ ∀e B,ND L R e B-> ∀i∈L,∀j∈L,(-P<=mp L B k i j/\mp L B k i j<=P)/\near e C (mp L B k i j) (if i=j then B i i^k else 0):=by
 have hm:(0:Rat)<=(L.length:Rat):=zZ2;intro k;induction k with
 |zero=>
  refine⟨1,0,by grind,zL3,fun e B h i hi j hj=> ?_⟩
  rw[J7];by_cases c:i=j
  . rw[iP c,iP c];unfold near;grind
  . rw[iN' c,iN' c];unfold near;grind
 |succ k ih=>
  obtain⟨P,C,hP,hC,h⟩:=ih;have hRP:=zD hR hP;have hRC:=zD hR hC;refine⟨(L.length:Rat)*(R*P),(L.length:Rat)*(R*C+P),zD hm hRP,zD hm (by grind),fun e B hB i hi j hj=>⟨?_,?_⟩⟩
  . rw[q07];exact sm_bd fun l hl=>q4o (hB.bd i hi l hl).1 (hB.bd i hi l hl).2 (h e B hB l hl j hj).1.1 (h e B hB l hl j hj).1.2
  . have hd:(if i=j then B i i^(k+1)else 0)=sm L (fun l=>(if i=l then 1 else 0)*(B i i*(if l=j then B l l^k else 0))):=by
     rw[Za hn hi];by_cases c:i=j
     . rw[iP c,iP c,zd2];grind
     . rw[iN' c,iN' c];grind
    unfold near;rw[hd,q07,<-sm_sb];have e1:(L.length:Rat)*(R*C+P)*e=(L.length:Rat)*((R*C+P)*e):=by grind
    rw[e1];refine sm_bd fun l hl=> ?_
    obtain⟨⟨p1,p2⟩,q1,q2⟩:=h e B hB l hl j hj;have he:=hB.pos;have z1:=zD hRC (show 0<=e by grind)
    have z2:=zD hP (show 0<=e by grind)
    by_cases c:i=l
    . subst c;rw[iP rfl];have:=q4o (hB.bd i hi i hi).1 (hB.bd i hi i hi).2 q1 q2;generalize mp L B k i j=x at*;generalize (if i=j then B i i^k else 0)=y at*
      have e2:B i i*x-1*(B i i*y)=B i i*(x-y):=by grind
      rw[e2];constructor<;>grind
    . rw[iN' c];have:=q4o (hB.off i hi l hl c).1 (hB.off i hi l hl c).2 p1 p2;constructor<;>grind
theorem qeh {L:List α} (hn:L.Nodup) {R:Rat} (hR:0<=R) (k:Nat): ∃C,0<=C/\ ∀e B,ND L R e B->near e C (sp L B k) (sm (L.map fun i=>B i i) (fun d=>pd d k)):=by
 obtain⟨P,C,hP,hC,h⟩:=qp6 hn hR k;have hm:(0:Rat)<=(L.length:Rat):=zZ2;refine⟨(L.length:Rat)*C,zD hm hC,fun e B hB=> ?_⟩
 rw[qs4];cases k with
 |zero=>
  have hz:sm L (fun i=>pd (B i i) 0)=0:=Qn fun i _=>rfl
  rw[hz];show near e _ 0 0;have:=zD (zD hm hC) (show 0<=e by have:=hB.pos;grind)
  unfold near;constructor<;>grind
 |succ k=>
  show near e _ (tr L B (k+1)) (sm L (fun i=>B i i^(k+1)))
  unfold near tr;rw[<-sm_sb];have e1:(L.length:Rat)*C*e=(L.length:Rat)*(C*e):=by grind
  rw[e1];refine sm_bd fun i hi=> ?_
  have:=(h e B hB i hi i hi).2;rw[iP rfl]at this;exact this
theorem q66 {L:List α} (hn:L.Nodup) {R:Rat} (hR:0<=R) {A:α->α->Rat} {c:Nat->Rat} (hc:NW (sp L A) c) (k:Nat):
 ∃C,0<=C/\ ∀e B,ND L R e B->(∀k,tr L B k=tr L A k)->near e C (c k) (EE (L.map fun i=>B i i) dl0 k):=by
 let S:Nat->Rat:=fun k=>Classical.choose (qeh hn hR k)
 have hS: ∀k,0<=S k:=fun k=>(z01 (qeh hn hR k)).1
 obtain⟨C,hC,h⟩:=qja (show sp L A 0=0 from rfl) hS hc k
 refine⟨C,hC,fun e B hB ht=> ?_⟩
 refine h e _ _ hB.pos hB.one (by show sm _ _=0;exact Qn fun _ _=>rfl) (EE_NW _) fun i=> ?_
 have h1:=(z01 (qeh hn hR i)).2 e B hB;have e1:sp L A i=sp L B i:=by unfold sp;rw[ht i]
 rw[e1];exact h1
theorem qmh {R:Rat} (hR:0<=R): ∀(l:List Rat),(∀x∈l,-R<=x/\x<=R)-> ∀k,-((1+R)^l.length)<=EE l dl0 k/\EE l dl0 k<=(1+R)^l.length:=by
 intro l;induction l with
 |nil=>
  intro _ k;show-((1+R)^0)<=dl0 k/\dl0 k<=(1+R)^0;unfold dl0;split<;>grind
 |cons d l ih=>
  intro h k;have h1:=ih (fun x hx=>h x (mT hx))
  have hd:=h d mS;have hp:0<=(1+R)^l.length:=zv2 (by grind)
  have hRp:=zD hR hp;rw[zy,zd2];cases k with
  |zero=>
   have:=h1 0;show _<=EE l dl0 0/\EE l dl0 0<=_;generalize (1+R)^l.length=w at*;constructor<;>grind
  |succ k=>
   have a1:=h1 (k+1);have a2:=h1 k;have a3:=q4o hd.1 hd.2 a2.1 a2.2;show _<=EE l dl0 (k+1)-d*EE l dl0 k/\EE l dl0 (k+1)-d*EE l dl0 k<=_;generalize (1+R)^l.length=w at*;generalize EE l dl0 (k+1)=x at*;generalize EE l dl0 k=y at*;constructor<;>grind
theorem qm4 (m:Nat):(1:Rat)^m=1:=by
 induction m with
 |zero=>grind
 |succ m ih=>rw[zd2,ih];grind
theorem qmi {R t:Rat} (hR:0<=R) (ht:0<=t) (htR:t<=R) {g:List Rat} (hg: ∀x∈g,-R<=x/\x<=R) {N:Nat}: ∀(l:List Rat),(∀x∈l,-t<=x/\x<=t)->l.length+g.length<=N-> ∀k,-((l.length:Rat)*(t*(1+R)^N))<=EE (l++g) dl0 k-EE g dl0 k/\EE (l++g) dl0 k-EE g dl0 k<=(l.length:Rat)*(t*(1+R)^N):=by
 intro l;induction l with
 |nil=>
  intro _ _ k;rw[zy2];show-(((0:Nat):Rat)*_)<=_/\_<=((0:Nat):Rat)*_;constructor<;>grind
 |cons d l ih=>
  intro h hN k;rw[zy]at hN;have h1:=ih (fun x hx=>h x (mT hx)) O
  have hd:=h d mS
  have hb:=qmh hR (l++g) (fun x hx=>by
   rcases zI.1 hx with hx|hx
   . have:=h x (mT hx);constructor<;>grind
   . exact hg x hx)
  have hw:(1+R)^(l++g).length<=(1+R)^N:=by
   obtain⟨m,hm⟩: ∃m,N=(l++g).length+m:=⟨N-(l++g).length,by rw[zf];omega⟩
   rw[hm,qf7];have p1:0<=(1+R)^(l++g).length:=zv2 (by grind)
   have p2:1<=(1+R)^m:=by
    have:=q90 (x:=1) (y:=1+R) (by grind) (by grind) m
    have e1:(1:Rat)^m=1:=qm4 m
    rwa [e1]at this
   have:=zD p1 (show 0<=(1+R)^m-1 by grind)
   grind
  have hl:(((d::l).length:Nat):Rat)=(l.length:Rat)+1:=by rw[zy];exact zD2 _ _
  rw[hl,zO1];have hW:0<=(1+R)^N:=zv2 (by grind)
  have htW:=zD ht hW;cases k with
  |zero=>
   have:=h1 0;show _<=EE (l++g) dl0 0-EE g dl0 0/\EE (l++g) dl0 0-EE g dl0 0<=_;generalize t*(1+R)^N=w at*;constructor<;>grind
  |succ k=>
   have a1:=h1 (k+1)
   have a2: -((1+R)^N)<=EE (l++g) dl0 k/\EE (l++g) dl0 k<=(1+R)^N:=by
    have h3:=hb k;clear h1 hb;generalize (1+R)^(l++g).length=w1 at*;generalize (1+R)^N=w2 at*;constructor<;>grind
   have a3:=q4o hd.1 hd.2 a2.1 a2.2;show _<=(EE (l++g) dl0 (k+1)-d*EE (l++g) dl0 k)-EE g dl0 (k+1)/\(EE (l++g) dl0 (k+1)-d*EE (l++g) dl0 k)-EE g dl0 (k+1)<=_;generalize t*(1+R)^N=w at*;generalize EE (l++g) dl0 (k+1)=x at*;generalize d*EE (l++g) dl0 k=y at*;constructor<;>grind
variable {α:Type} [DecidableEq α]
theorem qim {L:List α} {x:α->Rat}:0<=ip L x x:=Xq fun i _=>sq_nonneg _
theorem qln {L:List α} (hn:L.Nodup) {R e:Rat} {B:α->α->Rat} (h:ND L R e B) (x:α->Rat):
 sm L (fun i=>B i i*(x i*x i))-e*((L.length:Rat)*ip L x x)<=qf L B x/\qf L B x<=sm L (fun i=>B i i*(x i*x i))+e*((L.length:Rat)*ip L x x):=by
 have he:=h.pos;have d:sm L (fun i=>B i i*(x i*x i))=sm L (fun i=>sm L (fun j=>(if i=j then 1 else 0)*(B i j*(x i*x j)))):=qj fun i hi=>(Za hn hi (f:=fun j=>B i j*(x i*x j))).symm
 have f1:sm L (fun i=>sm L (fun j=>e/2*(x i*x i+x j*x j)))=e*((L.length:Rat)*ip L x x):=by
  have e1: ∀i∈L,sm L (fun j=>e/2*(x i*x i+x j*x j))=e/2*((L.length:Rat)*(x i*x i)+ip L x x):=by
   intro i _;rw[Qm,q0u,q9c];rfl
  rw[qj e1,Qm,q0u,Qm,q9c];unfold ip
  grind
 have term: ∀i∈L,∀j∈L,-(e/2*(x i*x i+x j*x j))<=x i*B i j*x j-(if i=j then 1 else 0)*(B i j*(x i*x j))/\x i*B i j*x j-(if i=j then 1 else 0)*(B i j*(x i*x j))<=e/2*(x i*x i+x j*x j):=by
  intro i hi j hj;by_cases c:i=j
  . subst c;rw[iP rfl];have:=zD (show 0<=e by grind) (sq_nonneg (x i))
    constructor<;>grind
  . rw[iN' c];obtain⟨b1,b2⟩:=h.off i hi j hj c;have t1:=sq_nonneg (x i-x j);have t2:=sq_nonneg (x i+x j);have p: -((x i*x i+x j*x j)/2)<=x i*x j/\x i*x j<=(x i*x i+x j*x j)/2:=by constructor<;>grind
    have q:=q4o b1 b2 p.1 p.2;generalize x i*x i+x j*x j=s at*;have e2:x i*B i j*x j=B i j*(x i*x j):=by grind
    rw[e2];constructor<;>grind
 have hq:qf L B x=sm L (fun i=>sm L (fun j=>x i*B i j*x j)):=rfl
 rw[hq,d,<-f1];constructor
 . have:=sm_le (L:=L) (f:=fun i=>sm L (fun j=> -(e/2*(x i*x i+x j*x j)))) (g:=fun i=>sm L (fun j=>x i*B i j*x j-(if i=j then 1 else 0)*(B i j*(x i*x j)))) fun i hi=>sm_le fun j hj=>(term i hi j hj).1
   rw[qj (g:=fun i=> -sm L (fun j=>e/2*(x i*x i+x j*x j))) fun i _=>q85,q85,qj (g:=fun i=>sm L (fun j=>x i*B i j*x j)-sm L (fun j=>(if i=j then 1 else 0)*(B i j*(x i*x j)))) fun i _=>sm_sb,sm_sb]at this
   grind
 . have:=sm_le (L:=L) (g:=fun i=>sm L (fun j=>(e/2*(x i*x i+x j*x j)))) (f:=fun i=>sm L (fun j=>x i*B i j*x j-(if i=j then 1 else 0)*(B i j*(x i*x j)))) fun i hi=>sm_le fun j hj=>(term i hi j hj).2
   rw[qj (g:=fun i=>sm L (fun j=>x i*B i j*x j)-sm L (fun j=>(if i=j then 1 else 0)*(B i j*(x i*x j)))) fun i _=>sm_sb,sm_sb]at this
   grind
theorem qr7 {L:List α} (a b:α->Rat):sm L (fun i=>a i*b i)*sm L (fun i=>a i*b i)<=sm L (fun i=>a i*a i)*sm L (fun i=>b i*b i):=by
 have h:0<=sm L (fun i=>sm L (fun j=>(a i*b j-a j*b i)*(a i*b j-a j*b i))):=Xq fun i _=>Xq fun j _=>sq_nonneg _
 have e:sm L (fun i=>sm L (fun j=>(a i*b j-a j*b i)*(a i*b j-a j*b i)))=2*(sm L (fun i=>a i*a i)*sm L (fun i=>b i*b i))-2*(sm L (fun i=>a i*b i)*sm L (fun i=>a i*b i)):=by
  have e1: ∀i∈L,sm L (fun j=>(a i*b j-a j*b i)*(a i*b j-a j*b i))=a i*a i*sm L (fun j=>b j*b j)+b i*b i*sm L (fun j=>a j*a j)-2*(a i*b i*sm L (fun j=>a j*b j)):=by
   intro i _;rw[<-Qm,<-Qm,<-Qm,<-Qm,<-q0u,<-sm_sb];exact qj fun j _=>by grind
  rw[qj e1,sm_sb,q0u,Yc,Yc,Qm,Yc]
  grind
 rw[e]at h;generalize sm L (fun i=>a i*b i)*sm L (fun i=>a i*b i)=u at*
 generalize sm L (fun i=>a i*a i)*sm L (fun i=>b i*b i)=v at*
 grind
theorem qre {L:List α} {W:α->α->Rat} {y:α->Rat}:ip L (lin L W y) (lin L W y)<=ip L y y*vn L W:=by
 have e:ip L y y*vn L W=sm L (fun j=>ip L y y*sm L (fun i=>W i j*W i j)):=by
  rw[Qm];congr 1;unfold vn ip;exact Yd
 rw[e];refine sm_le fun j _=> ?_
 exact qr7 y (fun i=>W i j)
theorem qfi {L:List α} (hn:L.Nodup) {R e dl b0:Rat} {B W:α->α->Rat} {b:α->Rat} (h:ND L R e B) (hd:Dg L B W b) (hdl:0<=dl) (hb: ∀i∈L,0<b i->b0<=b i)
 (hs:(dl+e*(L.length:Rat))*vn L W<b0):npos L b<=(L.filter fun i=>decide (dl<B i i)).length:=by
 refine zh1 fun hlt=> ?_
 obtain⟨y,⟨u,hu,hy⟩,hz⟩:=hom (L.filter fun i=>decide (dl<B i i)) (L.filter fun i=>decide (0<b i)) (fun r i=>W i r) (hn.filter _) hlt
 let y1:α->Rat:=fun i=>if decide (0<b i)then y i else 0
 let x:=lin L W y1
 have hx: ∀r∈L,dl<B r r->x r=0:=by
  intro r hr hdr;have:=hz r (zC1.2 ⟨hr,decide_eq_true hdr⟩);rw[sm_if]at this;have e:x r=sm L (fun i=>W i r*(if decide (0<b i)then y i else 0)):=qj fun i _=>zC3 _ _
  rw[e,this]
 have q1:=hd.form y1;have q2:=(qln hn h x).2
 have q3:sm L (fun i=>B i i*(x i*x i))<=dl*ip L x x:=by
  unfold ip;rw[<-Qm];refine sm_le fun i hi=> ?_
  by_cases c:dl<B i i
  . rw[hx i hi c];grind
  . have:=zD (show 0<=dl-B i i by grind) (sq_nonneg (x i));grind
 have q4:b0*ip L y1 y1<=sm L (fun i=>b i*(y1 i*y1 i)):=by
  unfold ip;rw[<-Qm];refine sm_le fun i hi=> ?_
  by_cases c:0<b i
  . have:=zD (show 0<=b i-b0 by have:=hb i hi c;grind) (sq_nonneg (y1 i));grind
  . have:y1 i=0:=iN' (by simpa using c)
    rw[this];grind
 have q5:0<ip L y1 y1:=by
  obtain⟨h1,h2⟩:=zC1.1 hu;have:y1 u=y u:=iP h2;exact qom (fun i _=>sq_nonneg _) h1 (by rw[this];exact sq_pos hy)
 have q6:=qre (L:=L) (W:=W) (y:=y1);have he:=h.pos;have hm:(0:Rat)<=(L.length:Rat):=zZ2;have hem:=zD (show 0<=e by grind) hm
 have q7:=zH2 q6 (show 0<=dl+e*(L.length:Rat) by grind)
 have q8:b0*ip L y1 y1<=(dl+e*(L.length:Rat))*ip L x x:=by
  rw[q1]at q2;generalize ip L x x=s at*
  grind
 have q9:=Rat.mul_lt_mul_of_pos_right hs q5;have q10:ip L x x=ip L (lin L W y1) (lin L W y1):=rfl;rw[<-q10]at q7;generalize ip L x x=s at*;generalize ip L y1 y1=t at*;generalize vn L W=w at*;generalize dl+e*(L.length:Rat)=z at*
 grind
theorem count_le {L:List α} (hn:L.Nodup) {R e t:Rat} {B W:α->α->Rat} {b:α->Rat} (h:ND L R e B) (hd:Dg L B W b) (ht:e*(L.length:Rat)<t):
 (L.filter fun i=>decide (t<B i i)).length<=npos L b:=by
 refine zh1 fun hlt=> ?_
 have s1:npos L b+(L.filter fun i=>decide (¬0<b i)).length=L.length:=q4u (p:=fun i=>decide (0<b i)) fun i _=>by show decide _=_;simp
 have s2:(L.filter fun i=>decide (t<B i i)).length+(L.filter fun i=>decide (¬t<B i i)).length=L.length:=q4u (p:=fun i=>decide (t<B i i)) fun i _=>by show decide _=_;simp
 obtain⟨y,⟨u,hu,hy⟩,hz⟩:=hom (L.filter fun i=>decide (¬t<B i i)) (L.filter fun i=>decide (¬0<b i)) (fun r i=>W i r) (hn.filter _) O
 let y1:α->Rat:=fun i=>if decide (¬0<b i)then y i else 0
 let x:=lin L W y1
 have hx: ∀r∈L,¬t<B r r->x r=0:=by
  intro r hr hdr;have:=hz r (zC1.2 ⟨hr,decide_eq_true hdr⟩);rw[sm_if]at this;have e:x r=sm L (fun i=>W i r*(if decide (¬0<b i)then y i else 0)):=qj fun i _=>zC3 _ _
  rw[e,this]
 have q1:=hd.form y1;have q2:=(qln hn h x).1
 have q3:t*ip L x x<=sm L (fun i=>B i i*(x i*x i)):=by
  unfold ip;rw[<-Qm];refine sm_le fun i hi=> ?_
  by_cases c:t<B i i
  . have:=zD (show 0<=B i i-t by grind) (sq_nonneg (x i));grind
  . rw[hx i hi c];grind
 have q4:sm L (fun i=>b i*(y1 i*y1 i))<=0:=by
  have:=sm_le (L:=L) (f:=fun i=>b i*(y1 i*y1 i)) (g:=fun _=>0) (fun i hi=>by
   show b i*(y1 i*y1 i)<=0
   by_cases c:0<b i
   . have:y1 i=0:=iN' (by simpa using c)
     rw[this];grind
   . have:=zD (show 0<= -b i by grind) (sq_nonneg (y1 i));grind)
  rwa [q5s]at this
 have q5:0<ip L x x:=by
  obtain⟨h1,h2⟩:=zC1.1 hu;have hy1:y1 u=y u:=iP h2;refine zX2 fun hc=> ?_
  have hx0: ∀j∈L,x j=0:=by
   intro j hj;refine zX2 fun hne=>hc ?_
   exact qom (fun i _=>sq_nonneg _) hj (sq_pos hne)
  have:=hd.ind y1 hx0 u h1;rw[hy1]at this;exact hy this
 have hq:qf L B x=sm L (fun i=>b i*(y1 i*y1 i)):=q1
 have q9:=Rat.mul_lt_mul_of_pos_right ht q5;rw[hq]at q2;generalize ip L x x=s at*
 grind
variable {α:Type} [DecidableEq α]
theorem bmin (b:α->Rat): ∀L:List α,∃b0,0<b0/\ ∀i∈L,0<b i->b0<=b i:=by
 intro L;induction L with
 |nil=>exact⟨1,by grind,fun i hi=>by cases hi⟩
 |cons j L ih=>
  obtain⟨b0,h0,h1⟩:=ih;by_cases c:0<b j/\b j<b0
  . exact⟨b j,c.1,fun i hi hb=>by
     rcases mC hi with rfl|hi
     . exact zL3
     . have:=h1 i hi hb;grind⟩
  . exact⟨b0,h0,fun i hi hb=>by
     rcases mC hi with rfl|hi
     . grind
     . exact h1 i hi hb⟩
theorem lin1 {a b z:Rat} (h:0<=(a-b)*z):b*z<=a*z:=by grind
theorem lin2 {c z3 z4 z1 z2 z5 ε:Rat} (a1: -z5<=c-z3) (a2:c-z3<=z5) (a3: -z1<=z3-z4) (a4:z3-z4<=z1) (h1:z1<=z2) (h2:z5+z2<=ε): -ε<=c-z4/\c-z4<=ε:=by constructor<;>grind
theorem lin3 {e Y T t d ε:Rat} (h:e*(1+Y+T)=t) (he:0<e) (h1:0<=e*Y) (h2:0<=e*T) (ht1:t<=ε) (ht2:t<=d/2) (hd:d<=1):Y*e<=ε/\T*e<=d/2/\e<=1:=by
 refine⟨?_,?_,?_⟩<;>grind
theorem lin4 {d b v X:Rat} (hdX:d*X=b) (hX:X=4*(v+1)*(1+b)) (hd:0<d) (hb:0<b) (hv:0<=v):4*(d*(v+1))<=b/\d<=1:=by
 have h0:=zD (show 0<=d by grind) hv
 have h1:=zD (show 0<=4*(d*(v+1)) by grind) (show 0<=b by grind)
 have h3:=zD hv (show 0<=b by grind)
 have hX0:b<=X:=by grind
 refine⟨by rw[hX]at hdX;grind,?_⟩
 refine zG4.1 fun hl=> ?_
 have:=zp2 (show 0<d-1 by grind) (show 0<X by grind)
 grind
theorem lin5 {d e m v b:Rat} (h:4*(d*(v+1))<=b) (h1:e*m<=d/2) (hd:0<d) (hv:0<=v) (hb:0<b):(d+e*m)*v<b:=by
 have h1:=zD (show 0<=d-e*m by grind) hv
 have:=zD (show 0<=d by grind) hv
 grind
theorem lin6 {T e d x:Rat} (h1:d<x) (h2:T*e<=d/2) (hd:0<d):T*e<x:=by grind
theorem lin7 {T e x:Rat} (h1: ¬T*e<x) (h2: ¬T*e< -x): -(T*e)<=x/\x<=T*e:=by constructor<;>grind
theorem lin8 {d x:Rat} (h1:d< -x) (hd:0<d): ¬d<x:=by grind
theorem lin9 {R x:Rat} (h: -R<=x): -x<=R:=by grind
theorem min2 {a b:Rat} (ha:0<a) (hb:0<b): ∃t,0<t/\t<=a/\t<=b:=by
 by_cases c:a<=b
 . exact⟨a,ha,zL3,c⟩
 . exact⟨b,hb,by grind,zL3⟩
theorem coincide {L:List α} {p q:α->Bool} (h: ∀i∈L,p i=true->q i=true) (hl:(L.filter q).length<=(L.filter p).length): ∀i∈L,q i=true->p i=true:=by
 induction L with
 |nil=>intro i hi;cases hi
 |cons j L ih=>
  have h': ∀i∈L,p i=true->q i=true:=fun i hi=>h i (mT hi)
  have hmono:(L.filter p).length<=(L.filter q).length:=by
   clear ih hl h;induction L with
   |nil=>exact zJ _
   |cons k L ih=>
    have:=ih fun i hi=>h' i (mT hi)
    have:=h' k mS;rw[zZ1,zZ1];by_cases c:p k=true
    . rw[iP c,iP (this c)];simp;omega
    . rw[iN' c];split<;>simp<;>omega
  have h0:=h j mS;rw[zZ1,zZ1]at hl;by_cases c:p j=true
  . rw[iP c,iP (h0 c)]at hl;simp at hl;intro i hi hq;rcases mC hi with rfl|hi
    . exact c
    . exact ih h' hl i hi hq
  . rw[iN' c]at hl;by_cases d:q j=true
    . rw[iP d]at hl;simp at hl;omega
    . rw[iN' d]at hl;intro i hi hq;rcases mC hi with rfl|hi
      . exact absurd hq d
      . exact ih h' hl i hi hq
theorem q0f {L:List α} {p q:α->Bool} (h: ∀i∈L,p i=true->q i=true):(L.filter p).length<=(L.filter q).length:=by
 induction L with
 |nil=>exact zJ _
 |cons k L ih=>
  have:=ih fun i hi=>h i (mT hi)
  have:=h k mS;rw[zZ1,zZ1];by_cases c:p k=true
  . rw[iP c,iP (this c)];simp;omega
  . rw[iN' c];split<;>simp<;>omega
theorem qil {x e:Rat} (he:0<e) (h:x*x<=e*e): -e<=x/\x<=e:=by
 constructor
 . refine zG4.1 fun hl=> ?_
   have:=zp2 (show 0< -x-e by grind) (show 0< -x+e by grind)
   grind
 . refine zG4.1 fun hl=> ?_
   have:=zp2 (show 0<x-e by grind) (show 0<x+e by grind)
   grind
theorem ND_of {L:List α} {B:α->α->Rat} {F e:Rat} (he:0<e) (he1:e<=1) (hF:frob L B<=F) (ho:off L B<=e*e):ND L (F+1) e B:=by
 refine⟨he,he1,fun i hi j hj=> ?_,fun i hi j hj hij=> ?_⟩
 . have h1:B i j*B i j<=frob L B:=z02 (le_sm (f:=fun j=>B i j*B i j) (fun _ _=>sq_nonneg _) hj) (le_sm (f:=fun i=>sm L (fun j=>B i j*B i j)) (fun _ _=>Xq fun _ _=>sq_nonneg _) hi)
   have h2:=sq_nonneg (B i j-1/2);have h3:=sq_nonneg (B i j+1/2);generalize B i j=x at*;constructor<;>grind
 . have nn: ∀i∈L,∀j∈L,0<=(if i=j then 0 else B i j*B i j):=by
    intro i _ j _;by_cases c:i=j
    . rw[iP c];grind
    . rw[iN' c];exact sq_nonneg _
   have h1:(if i=j then 0 else B i j*B i j)<=off L B:=z02 (le_sm (f:=fun j=>if i=j then 0 else B i j*B i j) (fun j hj=>nn i hi j hj) hj) (le_sm (f:=fun i=>sm L (fun j=>if i=j then 0 else B i j*B i j)) (fun i hi=>Xq fun j hj=>nn i hi j hj) hi)
   rw[iN' hij]at h1;exact qil he (z02 h1 ho)
theorem ND.neg {L:List α} {B:α->α->Rat} {R e:Rat} (h:ND L R e B):ND L R e (fun i j=> -B i j):=by
 refine⟨h.pos,h.one,fun i hi j hj=> ?_,fun i hi j hj hij=> ?_⟩
 . have:=h.bd i hi j hj;constructor<;>grind
 . have:=h.off i hi j hj hij;constructor<;>grind
theorem factors {L:List α} (hn:L.Nodup) {A:α->α->Rat} (hs: ∀i∈L,∀j∈L,A i j=A j i) {V:α->α->Rat} {b:α->Rat} (hd:Dg L A V b) {c:Nat->Rat} (hc:NW (sp L A) c):
 ∃dl R,0<dl/\dl<=1/\1<=R/\ ∀ε,0<ε-> ∃P Q:List Rat,P.length=npos L b/\Q.length=npos L (fun i=> -b i)/\(∀x∈P,dl<=x/\x<=R)/\(∀x∈Q,dl<= -x/\ -x<=R)/\
  ∀k,k<=L.length-> -ε<=c k-EE (P++Q) dl0 k/\c k-EE (P++Q) dl0 k<=ε:=by
 have hF:0<=frob L A:=Xq fun _ _=>Xq fun _ _=>sq_nonneg _
 obtain⟨b1,hb1,hb1'⟩:=bmin b L;obtain⟨b2,hb2,hb2'⟩:=bmin (fun i=> -b i) L
 obtain⟨b0,hb0,hb01,hb02⟩:=min2 hb1 hb2;have hv:0<=vn L V:=Xq fun _ _=>qim
 have hm:(0:Rat)<=(L.length:Rat):=zZ2
 let X:Rat:=4*(vn L V+1)*(1+b0)
 have hX:0<X:=zp2 (by grind) (by grind)
 let dl:Rat:=b0/X
 have hdlX:dl*X=b0:=by show b0/X*X=b0;grind
 have hdl:0<dl:=by show 0<b0/X;rw[zt3];exact zp2 hb0 (zu3.2 hX)
 have hX1:X=4*(vn L V+1)*(1+b0):=rfl;obtain⟨hdv,hdl1⟩:=lin4 hdlX hX1 hdl hb0 hv
 let R:Rat:=frob L A+1
 have hR:1<=R:=by show 1<=frob L A+1;grind
 refine⟨dl,R,hdl,hdl1,hR,fun ε hε=> ?_⟩
 let Cf:Nat->Rat:=fun k=>Classical.choose (q66 hn (show 0<=R by grind) hc k)
 have hCf: ∀k,0<=Cf k:=fun k=>(z01 (q66 hn (show 0<=R by grind) hc k)).1
 let Cm:Rat:=sm (List.range (L.length+1)) Cf
 have hCm: ∀k,k<=L.length->Cf k<=Cm:=fun k hk=>le_sm (fun i _=>hCf i) (zY1.2 O)
 have hCm0:0<=Cm:=Xq fun i _=>hCf i
 let W0:Rat:=(1+R)^L.length
 have hW0:0<=W0:=zv2 (by grind)
 let T:Rat:=2*(L.length:Rat)+1
 have hT:1<=T:=by show 1<=2*(L.length:Rat)+1;grind
 let Y:Rat:=Cm+(L.length:Rat)*(T*W0)
 have hTW:=zD (show 0<=T by grind) hW0
 have hY:0<=Y:=by have:=zD hm hTW;show 0<=Cm+(L.length:Rat)*(T*W0);grind
 obtain⟨t,ht0,ht1,ht2⟩:=min2 hε (show 0<dl/2 by grind)
 let e:Rat:=t/(1+Y+T)
 have heY:e*(1+Y+T)=t:=by show t/(1+Y+T)*(1+Y+T)=t;grind
 have he:0<e:=by show 0<t/(1+Y+T);rw[zt3];exact zp2 ht0 (zu3.2 (by grind))
 have heY1:=zD (show 0<=e by grind) hY
 have heT1:=zD (show 0<=e by grind) (show 0<=T by grind)
 obtain⟨hYe,hTe,he1⟩:=lin3 heY he heY1 heT1 ht1 ht2 hdl1;obtain⟨B,hB,hoff⟩:=qs5 hn hs (show 0<e*e from zp2 he he)
 obtain⟨hsB,htr,W,hdB,hvW⟩:=hB.inv hn hs hd;have hfr:frob L B=frob L A:=by rw[q98 hn hsB,q98 hn hs,htr]
 have hND:ND L R e B:=ND_of he he1 (by rw[hfr];exact zL3) hoff
 have hem:e*(L.length:Rat)<T*e:=by
  show e*(L.length:Rat)<(2*(L.length:Rat)+1)*e
  have:=zD (show 0<=e by grind) hm
  grind
 have hsm:(dl+e*(L.length:Rat))*vn L W<b0:=by
  rw[hvW];exact lin5 hdv (z02 (Rat.le_of_lt hem) hTe) hdl hv hb0
 have c1:=qfi hn hND hdB (show 0<=dl by grind) (fun i hi h=>z02 hb01 (hb1' i hi h)) hsm
 have c2:=count_le hn hND hdB hem;have c3:=qfi hn hND.neg hdB.neg (show 0<=dl by grind) (fun i hi h=>z02 hb02 (hb2' i hi h)) hsm
 have c4:=count_le hn hND.neg hdB.neg hem
 let p:α->Bool:=fun i=>decide (dl<B i i)
 let q:α->Bool:=fun i=>decide (dl< -B i i)
 have m1: ∀i∈L,p i=true->decide (T*e<B i i)=true:=fun i _ h=>by
  exact decide_eq_true (lin6 (of_decide_eq_true h) hTe hdl)
 have m2: ∀i∈L,q i=true->decide (T*e< -B i i)=true:=fun i _ h=>by
  exact decide_eq_true (lin6 (of_decide_eq_true h) hTe hdl)
 have k1:=q0f m1;have k2:=q0f m2;have i1:=coincide m1 (zK c2 c1);have i2:=coincide m2 (zK c4 c3)
 have lp:(L.filter p).length=npos L b:=by
  have:npos L b<=(L.filter p).length:=c1;omega
 have lq:(L.filter q).length=npos L (fun i=> -b i):=by
  have:npos L (fun i=> -b i)<=(L.filter q).length:=c3
  omega
 have hpq:(L.filter fun i=> !p i).filter q=L.filter q:=by
  rw[List.filter_filter];refine List.filter_congr fun i _=> ?_
  cases hq:q i
  . rfl
  . have h1:dl< -B i i:=of_decide_eq_true hq;have:p i=false:=decide_eq_false (lin8 h1 hdl);rw[this];rfl
 let S:=(L.filter fun i=> !p i).filter fun i=> !q i
 have hperm:L.Perm (S++(L.filter p++L.filter q)):=by
  have a1:(L.filter p++L.filter fun i=> !p i).Perm L:=List.filter_append_perm p L
  have a2:((L.filter fun i=> !p i).filter q++S).Perm (L.filter fun i=> !p i):=List.filter_append_perm q _
  rw[hpq]at a2;have a3:(L.filter p++(L.filter q++S)).Perm L:=(List.Perm.append_left _ a2).trans a1;refine(a3.symm).trans ?_;rw[<-List.append_assoc];exact List.perm_append_comm
 have hlen:S.length+(L.filter p++L.filter q).length=L.length:=by
  have:=hperm.length_eq;rw[zf]at this;omega
 refine⟨(L.filter p).map fun i=>B i i,(L.filter q).map fun i=>B i i,by rw[zW1];exact lp,by rw[zW1];exact lq,?_,?_,?_⟩
 . intro x hx;obtain⟨i,hi,rfl⟩:=zX.1 hx;obtain⟨h1,h2⟩:=zC1.1 hi;have h3:dl<B i i:=of_decide_eq_true h2;exact⟨Rat.le_of_lt h3,(hND.bd i h1 i h1).2⟩
 . intro x hx;obtain⟨i,hi,rfl⟩:=zX.1 hx;obtain⟨h1,h2⟩:=zC1.1 hi;have h3:dl< -B i i:=of_decide_eq_true h2;exact⟨Rat.le_of_lt h3,lin9 (hND.bd i h1 i h1).1⟩
 . intro k hk;have n1:=(z01 (q66 hn (show 0<=R by grind) hc k)).2 e B hND htr
   have n2:near e Cm (c k) (EE (L.map fun i=>B i i) dl0 k):=qli he (hCm k hk) n1
   have e1:EE (L.map fun i=>B i i) dl0=EE (S.map (fun i=>B i i)++((L.filter p).map (fun i=>B i i)++(L.filter q).map fun i=>B i i)) dl0:=by
    have:=qii (f:=dl0) (hperm.map fun i=>B i i)
    rw[this,zn1,zn1]
   have n3:=qmi (R:=R) (t:=T*e) (show 0<=R by grind) (by grind) (by grind) (g:=(L.filter p).map (fun i=>B i i)++(L.filter q).map fun i=>B i i) (N:=L.length) (by
    intro x hx;rw[<-List.map_append]at hx;obtain⟨i,hi,rfl⟩:=zX.1 hx;have hiL:i∈L:=hperm.mem_iff.2 (zx _ hi);exact hND.bd i hiL i hiL) (S.map fun i=>B i i) (by
    intro x hx;obtain⟨i,hi,rfl⟩:=zX.1 hx;obtain⟨h1,h2⟩:=zC1.1 hi;obtain⟨h3,h4⟩:=zC1.1 h1
    have u1: ¬T*e<B i i:=fun h=>by
     have:=i1 i h3 (decide_eq_true h);rw[this]at h4;cases h4
    have u2: ¬T*e< -B i i:=fun h=>by
     have:=i2 i h3 (decide_eq_true h);rw[this]at h2;cases h2
    exact lin7 u1 u2) (by
     rw[zW1,zf,zW1,zW1];rw[zf]at hlen;omega) k
   rw[e1]at n2;obtain⟨a1,a2⟩:=n2;obtain⟨a3,a4⟩:=n3;have hSl:((S.map fun i=>B i i).length:Rat)<=(L.length:Rat):=Rat.natCast_le_natCast.2 (by rw[zW1];omega)
   have hSb:((S.map fun i=>B i i).length:Rat)*(T*e*(1+R)^L.length)<=(L.length:Rat)*(T*W0)*e:=by
    have h1:=zD hTW (show 0<=e by grind)
    have h2:=zD (show 0<=(L.length:Rat)-((S.map fun i=>B i i).length:Rat) by grind) h1
    have h3:T*e*(1+R)^L.length=T*W0*e:=by show T*e*W0=_;rw[Rat.mul_assoc,zC3 e,<-Rat.mul_assoc]
    have h4:(L.length:Rat)*(T*W0)*e=(L.length:Rat)*(T*W0*e):=Rat.mul_assoc _ _ _;rw[h3,h4];exact lin1 h2
   have hYe':Cm*e+(L.length:Rat)*(T*W0)*e<=ε:=by
    have h5:Y*e=Cm*e+(L.length:Rat)*(T*W0)*e:=Rat.add_mul _ _ _;rw[<-h5];exact hYe
   exact lin2 a1 a2 a3 a4 hSb hYe'
variable {α:Type} [DecidableEq α]
def cs (c:Nat->Rat) (r:Nat):List Rat:=(List.range r).map fun i=>c (i+1)
theorem qlp {c:Nat->Rat} {r:Nat}:cs c (r+1)=cs c r++[c (r+1)]:=by
 unfold cs;rw[zy3,zn1];rfl
theorem q76 {c:Nat->Rat} {r:Nat}:(cs c r).length=r:=by unfold cs;rw[zW1,zU2]
theorem cs_le {c:Nat->Rat} {k r:Nat} (h:k<=r): ∃l,cs c r=cs c k++l:=by
 induction h with
 |refl=>exact⟨[],by rw[zi1]⟩
 |step _ ih=>obtain⟨l,hl⟩:=ih;exact⟨l++[_],by rw[qlp,hl,zS1]⟩
theorem Alt.app {s:Int} {l m:List Rat} {v:Nat} (h:Alt s l v):Alt s (l++m) v:=by
 induction h with
 |nil=>exact .nil _ _
 |skip _ ih=>exact .skip ih
 |take h1 _ ih=>exact .take h1 ih
def sAl (v:Nat):Int:=if v%2=0 then 1 else-1
theorem qfb {v:Nat}:sAl (v+1)= -sAl v:=by
 unfold sAl;rcases zK1 v with h|h
 . rw[iN' O,iP h]
 . rw[iP O,iN' O];rfl
theorem Alt.one {s:Int} {x:Rat} (h:sgq x*s<0): ∀l:List Rat,Alt s (l++[x]) 1
 |[]=> .take h (.nil _ _)
 |_::l=> .skip (Alt.one h l)
theorem Alt.snoc {s:Int} {l:List Rat} {v:Nat} (hs:s=1\/s= -1) (h:Alt s l v): ∀{x:Rat},sgq x*(s*sAl v)<0->Alt s (l++[x]) (v+1):=by
 induction h with
 |nil s l=>intro x hx;exact Alt.one (by rw[show sAl 0=1 from rfl,zb3]at hx;exact hx) l
 |skip _ ih=>intro x hx;exact .skip (ih hs hx)
 | @take s y l v h1 _ ih=>
   intro x hx
   have e:sgq y= -s:=by
    rcases Zl y with⟨h,_⟩|⟨h,_⟩|⟨h,_⟩<;>rw[h]at h1⊢ <;>rcases hs with rfl|rfl<;>omega
   refine .take h1 (ih ?_ ?_)
   . rw[e];rcases hs with rfl|rfl<;>simp
   . rw[e];rw[qfb]at hx;rw[zA3,<-Int.mul_neg];exact hx
theorem qh0 {x:Rat} (h:0<x):sgq x=1:=by
 rcases Zl x with⟨e,h'⟩|⟨e,h'⟩|⟨e,h'⟩
 . grind
 . grind
 . exact e
theorem qi7 {x:Rat} (h:x<0):sgq x= -1:=by
 rcases Zl x with⟨e,h'⟩|⟨e,h'⟩|⟨e,h'⟩
 . exact e
 . grind
 . grind
theorem CH.alt {f c:Nat->Rat} {e:Rat} {r:Nat} (hc: ∀k,k<=r-> -e<c k-f k/\c k-f k<e): ∀{v k:Nat},k<=r->CH f e v k->Alt 1 (cs c k) v
 |0,k,hk,h=> .nil _ _
 |v+1,k,hk,h=>by
  obtain⟨⟨j,hj,h1⟩,h2⟩:=h;have ih:=CH.alt hc (by omega:j<=r) h1
  obtain⟨k,rfl⟩: ∃k',k=k'+1:=⟨k-1,O⟩;obtain⟨l,hl⟩:=cs_le (c:=c) (show j<=k by omega)
  rw[qlp];refine Alt.snoc (.inl rfl) (by rw[hl];exact ih.app) ?_
  have h3:=hc (k+1) hk;rw[zC4];unfold sn at h2;unfold sAl;rcases zK1 v with h|h
  . rw[iP h];rw[iN' O]at h2;rw[qi7 (by grind)];decide
  . rw[iN' O];rw[iP O]at h2;rw[qh0 (by grind)];decide
theorem q96 {L:List α} {b:α->Rat}:npos L b+npos L (fun i=> -b i)<=L.length:=by
 unfold npos;induction L with
 |nil=>exact zJ _
 |cons i L ih=>
  rw[zZ1,zZ1,zy];by_cases c:0<b i
  . rw[iP (decide_eq_true c),iN' (by rw[decide_eq_true_eq];grind),zy];omega
  . rw[iN' (by rw[decide_eq_true_eq];exact c)]
    split
    . rw[zy];omega
    . omega
theorem q2l {l:List Rat} {k:Nat} (h:l.length<k):EE l dl0 k=0:=qel (M:=0) (fun k hk=>by unfold dl0;rw[iN' O]) _ O
theorem qsa {c:Nat->Rat} (r:Nat): ∀(s:Nat),Go.Vs.F.alt (-sAl s) ((List.range r).map fun i=>c (s+i+1))=(List.range r).map fun i=>sn (s+i+1)*c (s+i+1):=by
 induction r with
 |zero=>intro s;rfl
 |succ r ih=>
  intro s;rw[List.range_succ_eq_map,zg1,zh3,Go.Vs.F.alt,zg1,zh3,<-qfb];have e1:((fun i=>c (s+i+1))∘Nat.succ)=fun i=>c (s+1+i+1):=by funext i;show c (s+(i+1)+1)=_;congr 1;omega
  have e2:((fun i=>sn (s+i+1)*c (s+i+1))∘Nat.succ)=fun i=>sn (s+1+i+1)*c (s+1+i+1):=by funext i;show sn (s+(i+1)+1)*c (s+(i+1)+1)=_;rw[show s+(i+1)+1=s+1+i+1 by omega]
  rw[e1,e2,<-ih (s+1)];congr 1
  . rw[zQ];unfold sAl sn;rcases zK1 s with h|h
    . have h2: ¬(s+1)%2=0:=O;simp only[h2,if_false];rw[iN' (by decide)];grind
    . have h2:(s+1)%2=0:=O;simp only[h2,if_true]
      grind
theorem qk5 {L:List α} (hn:L.Nodup) {A:α->α->Rat} (hs: ∀i∈L,∀j∈L,A i j=A j i) {V:α->α->Rat} {b:α->Rat} (hd:Dg L A V b) {c:Nat->Rat} (hc:NW (sp L A) c):
 (∀k,npos L b+npos L (fun i=> -b i)<k->k<=L.length->c k=0)/\c (npos L b+npos L (fun i=> -b i))≠0/\vs 1 (cs c (npos L b+npos L (fun i=> -b i)))=npos L b:=by
 obtain⟨dl,R,h0,h1,hR,main⟩:=factors hn hs hd hc;have hle:=q96 (L:=L) (b:=b);generalize hpi:npos L b=π at*;generalize hnu:npos L (fun i=> -b i)=ν at*
 refine⟨fun k hk hkL=> ?_,?_,?_⟩
 . refine zX2 fun hne=> ?_
   have hp:0<ab (c k)/2:=by
    have:=q0i (c k);have:ab (c k)≠0:=by intro h;rw[h]at this;exact hne (by grind)
    grind
   obtain⟨P,Q,hP,hQ,_,_,h5⟩:=main _ hp;have h6:=h5 k hkL;rw[q2l (by rw[zf];omega)]at h6
   have:=q0i (c k);have h7:ab (c k)=c k\/ab (c k)= -c k:=by unfold ab;split<;>simp
   rcases h7 with h7|h7<;>rw[h7]at h6 hp<;>grind
 . have hp:0<dl^(π+ν)/2:=by have:=zc3 (n:=π+ν) h0;grind
   obtain⟨P,Q,hP,hQ,h3,h4,h5⟩:=main _ hp;have h6:=h5 (π+ν) hle
   have h7:=qs3 h0 (l:=P++Q) (fun x hx=>by
    rcases zI.1 hx with hx|hx
    . exact .inl (h3 x hx).1
    . right;have:=(h4 x hx).1;grind)
   rw[zf,hP,hQ]at h7;intro hz;rw[hz]at h6;rcases h7 with h7|h7<;>grind
 . have hKp:=ql5 (N:=L.length) h0 hR;obtain⟨t,ht0,ht1,ht2⟩:=min2 (zc3 (n:=π) hKp) (zc3 (n:=ν) hKp);obtain⟨P,Q,hP,hQ,h3,h4,h5⟩:=main (t/2) (by grind)
   have lo1:π<=vs 1 (cs c (π+ν)):=by
    obtain⟨k,hk,hch⟩:=qoa (N:=L.length) h0 h1 hR (f:=EE Q dl0) (M:=Q.length) (fun i hi=>q2l hi) qin P h3 O
    rw[<-qo6,hP]at hch
    have ha:Alt 1 (cs c k) π:=CH.alt (r:=π+ν) (e:=t) (fun k hk=>by
     have:=h5 k O;constructor<;>grind) O (hch.mono ht1)
    obtain⟨l,hl⟩:=cs_le (c:=c) (show k<=π+ν by omega)
    rw[hl];exact Alt.le_vs (.inl rfl) ha.app
   have lo2:ν<=vs 1 (cs (fun k=>sn k*c k) (π+ν)):=by
    have e1: ∀k,EE (Q.map (fun x=> -x)++P.map fun x=> -x) dl0 k=sn k*EE (P++Q) dl0 k:=by
     intro k
     have:(Q.map (fun x=> -x)++P.map fun x=> -x).Perm ((P++Q).map fun x=> -x):=by
      rw[zn1];exact List.perm_append_comm
     rw[qii this];refine qrd (fun k=> ?_) k
     unfold dl0;by_cases c:k=0
     . subst c;rw[iP rfl];show(1:Rat)=1*1;grind
     . rw[iN' c];grind
    obtain⟨k,hk,hch⟩:=qoa (N:=L.length) h0 h1 hR (f:=EE (P.map fun x=> -x) dl0) (M:=(P.map fun x=> -x).length) (fun i hi=>q2l hi) qin (Q.map fun x=> -x) (fun x hx=>by
     obtain⟨z,hz,rfl⟩:=zX.1 hx;exact h4 z hz) (by rw[zW1,zW1];omega)
    rw[zW1,zW1]at hk;rw[<-qo6,zW1,hQ]at hch
    have ha:Alt 1 (cs (fun k=>sn k*c k) k) ν:=CH.alt (r:=π+ν) (e:=t) (fun k hk=>by
     have h6:=h5 k O;rw[e1];unfold sn;split<;>constructor<;>grind) O (hch.mono ht2)
    obtain⟨l,hl⟩:=cs_le (c:=fun k=>sn k*c k) (show k<=π+ν by omega)
    rw[hl];exact Alt.le_vs (.inl rfl) ha.app
   have up:=qs6 (l:=cs c (π+ν)) (s:=1) (t:=1) (e:= -1) (u:=0) (.inl rfl) (.inr rfl) (by decide)
   have e2:Go.Vs.F.alt (-1) (cs c (π+ν))=cs (fun k=>sn k*c k) (π+ν):=by
    have:=qsa (c:=c) (π+ν) 0;simp only[zF]at this;exact this
   rw[e2,q76]at up;omega
end Go.Vs.F
