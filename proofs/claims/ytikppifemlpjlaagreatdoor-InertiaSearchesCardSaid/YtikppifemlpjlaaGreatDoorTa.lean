import Derived.Test.YtikppifemlpjlaaGreatDoorVc
set_option linter.unusedVariables false
set_option linter.unusedSimpArgs false
set_option linter.defProp false
namespace Go.Vs.F
def sm {α:Type}:List α->(α->Rat)->Rat
 |[],_=>0
 |i::L,f=>f i+sm L f
variable {α β:Type}
@[simp] def sm_nil {f:α->Rat}:sm [] f=0:=rfl
def qnj {i:α} {L:List α} {f:α->Rat}:sm (i::L) f=f i+sm L f:=rfl
def qni {L:List α} {f g:α->Rat} (h: ∀i∈L,f i=g i):sm L f=sm L g:=by
 induction L with
 |nil=>rfl
 |cons i L ih=>rw[qnj,qnj,h i mS,ih λj hj=>h j (mT hj)]
def qoa {L:List α} {f g:α->Rat}:sm L (λi=>f i+g i)=sm L f+sm L g:=by
 induction L with
 |nil=>simp only[sm_nil];grind
 |cons i L ih=>rw[qnj,qnj,qnj,ih];grind
def qnm {L:List α} {f:α->Rat} (c:Rat):sm L (λi=>c*f i)=c*sm L f:=by
 induction L with
 |nil=>simp only[sm_nil];grind
 |cons i L ih=>rw[qnj,qnj,ih];grind
def qnv {L:List α} {f:α->Rat} (c:Rat):sm L (λi=>f i*c)=sm L f*c:=by
 rw[zd2,<-qnm];exact qni λi _=>zd2 _ _
def qp3 {L:List α} {f:α->Rat}:sm L (λi=> -f i)= -sm L f:=by
 induction L with
 |nil=>simp only[sm_nil];grind
 |cons i L ih=>rw[qnj,qnj,ih];grind
def sm_sb {L:List α} {f g:α->Rat}:sm L (λi=>f i-g i)=sm L f-sm L g:=by
 induction L with
 |nil=>simp only[sm_nil];grind
 |cons i L ih=>rw[qnj,qnj,qnj,ih];grind
def qor {L:List α}:sm L (λ_=>(0:Rat))=0:=by
 induction L with
 |nil=>rfl
 |cons i L ih=>rw[qnj,ih];grind
def qnl {L:List α} {f:α->Rat} (h: ∀i∈L,f i=0):sm L f=0:=(qni h).trans qor
def qnu {L:List α} {M:List β} {f:α->β->Rat}:sm L (λi=>sm M (λj=>f i j))=sm M (λj=>sm L (λi=>f i j)):=by
 induction L with
 |nil=>simp only[sm_nil];rw[qor]
 |cons i L ih=>rw[qnj,ih,<-qoa];rfl
def sm_le {L:List α} {f g:α->Rat} (h: ∀i∈L,f i<=g i):sm L f<=sm L g:=by
 induction L with
 |nil=>simp only[sm_nil];grind
 |cons i L ih=>
  have h1:=h i mS;have h2:=ih λj hj=>h j (mT hj)
  rw[qnj,qnj];grind
def qnq {L:List α} {f:α->Rat} (h: ∀i∈L,0<=f i):0<=sm L f:=by
 have:=sm_le (L:=L) (f:=λ_=>0) (g:=f) h
 rwa [qor]at this
def le_sm {L:List α} {f:α->Rat} (h: ∀i∈L,0<=f i) {i:α} (hi:i∈L):f i<=sm L f:=by
 induction L with
 |nil=>cases hi
 |cons j L ih=>
  have h1:=h j mS;have h2: ∀k∈L,0<=f k:=λk hk=>h k (mT hk)
  have h3:=qnq h2;rw[qnj];rcases mC hi with rfl|hi
  . grind
  . have:=ih h2 hi;grind
def qsu {L:List α} {f:α->Rat} (h: ∀i∈L,0<=f i) {i:α} (hi:i∈L) (hp:0<f i):0<sm L f:=by
 have:=le_sm h hi;grind
def qo7 {L M:List α} {f:α->Rat} (h:L.Perm M):sm L f=sm M f:=by
 induction h with
 |nil=>rfl
 |cons x _ ih=>rw[qnj,qnj,ih]
 |swap x y l=>simp only[qnj];grind
 |trans _ _ ih1 ih2=>exact ih1.trans ih2
def qsp {L M:List α} {f:α->Rat}:sm (L++M) f=sm L f+sm M f:=by
 induction L with
 |nil=>rw[zr2,sm_nil];grind
 |cons i L ih=>rw[zm1,qnj,qnj,ih];grind
def qqz {L:List α} {g:α->β} {f:β->Rat}:sm (L.map g) f=sm L (λi=>f (g i)):=by
 induction L with
 |nil=>rfl
 |cons i L ih=>rw[zj1,qnj,qnj,ih]
def qrg {L:List α} {p:α->Bool} {f:α->Rat}:sm (L.filter p) f=sm L (λi=>if p i then f i else 0):=by
 induction L with
 |nil=>rfl
 |cons i L ih=>
  rw[zZ1,qnj,<-ih];by_cases h:p i=true
  . rw[iP h,iP h,qnj]
  . rw[iN' h,iN' h];grind
def qsq {L:List α} (hn:L.Nodup) {i:α} (hi:i∈L) {f:α->Rat} (h: ∀j∈L,j≠i->f j=0):sm L f=f i:=by
 induction L with
 |nil=>cases hi
 |cons j L ih=>
  rw[zZ]at hn;rw[qnj];rcases mC hi with rfl|hi
  . rw[qnl λk hk=>h k (mT hk) (λe=>hn.1 (e▸hk))];grind
  . rw[h j mS (λe=>hn.1 (e▸hi)),ih hn.2 hi λk hk=>h k (mT hk)];grind
def qu4 {L:List α} {M:List β} {f:α->Rat} {g:β->Rat}:sm L f*sm M g=sm L (λi=>sm M (λj=>f i*g j)):=by
 rw[<-qnv];exact qni λi _=>(qnm _).symm
def qur {L:List α} {f g:α->Rat} (h: ∀i∈L,-g i<=f i/\f i<=g i): -sm L g<=sm L f/\sm L f<=sm L g:=by
 refine⟨?_,sm_le λi hi=>(h i hi).2⟩
 rw[<-qp3];exact sm_le λi hi=>(h i hi).1
def sq_nonneg (x:Rat):0<=x*x:=by
 rcases Rat.le_total (a:=0) (b:=x)with h|h
 . exact zA h h
 . have:=zA (a:= -x) (b:= -x) gR gR;grind
def sq_pos {x:Rat} (h:x≠0):0<x*x:=by
 have:=sq_nonneg x;by_cases c:x*x=0
 . rcases Rat.mul_eq_zero.1 c with h'|h'<;>exact absurd h' h
 . grind
def hom [DecidableEq α]: ∀(R:List β) (U:List α) (C:β->α->Rat),U.Nodup->R.length<U.length-> ∃y:α->Rat,(∃i∈U,y i≠0)/\ ∀r∈R,sm U (λi=>C r i*y i)=0:=by
 intro R;induction R with
 |nil=>
  intro U C hn h;cases U with
  |nil=>simp at h
  |cons i U=>exact⟨λ_=>1,⟨i,mS,by grind⟩,λr hr=>by cases hr⟩
 |cons r R ih=>
  intro U C hn h;by_cases hz: ∀i∈U,C r i=0
  . have⟨y,h1,h2⟩:=ih U C hn (by simp at h;omega)
    refine⟨y,h1,λs hs=> ?_⟩
    rcases mC hs with rfl|hs
    . exact qnl λi hi=>by rw[hz i hi];grind
    . exact h2 s hs
  . simp only[Classical.not_forall]at hz;have⟨p,hp,hc⟩:=hz;have hP:=zd3 hp;have hn':=hP.nodup_iff.1 hn;rw[zZ]at hn';have⟨y,⟨i,hi,hy⟩,h2⟩:=ih (U.erase p) (λs i=>C s i-C s p*C r i/C r p) hn'.2 (by rw[List.length_erase_of_mem hp];simp at h;omega)
    let v:= -sm (U.erase p) (λi=>C r i*y i)/C r p
    have hne: ∀j∈U.erase p,j≠p:=λj hj e=>hn'.1 (e▸hj)
    have hs: ∀s:β,sm U (λi=>C s i*(if i=p then v else y i))=C s p*v+sm (U.erase p) (λi=>C s i*y i):=by
     intro s;rw[qo7 hP,qnj,iP rfl];congr 1;exact qni λj hj=>by rw[iN' (hne j hj)]
    refine⟨λi=>if i=p then v else y i,⟨i,hP.mem_iff.2 (mT hi),by show(if i=p then v else y i)≠0;rw[iN' (hne i hi)];exact hy⟩,λs hs'=> ?_⟩
    rw[hs s];rcases mC hs' with rfl|hs'
    . show C s p*(-sm (U.erase p) (λi=>C s i*y i)/C s p)+_=0
      have:C s p*(-sm (U.erase p) (λi=>C s i*y i)/C s p)= -sm (U.erase p) (λi=>C s i*y i):=by grind
      rw[this];grind
    . have h3:=h2 s hs'
      have e:sm (U.erase p) (λi=>(C s i-C s p*C r i/C r p)*y i)=sm (U.erase p) (λi=>C s i*y i)-C s p/C r p*sm (U.erase p) (λi=>C r i*y i):=by
       rw[<-qnm,<-sm_sb];exact qni λi _=>by grind
      rw[e]at h3;show C s p*(-sm (U.erase p) (λi=>C r i*y i)/C r p)+_=0
      grind
end Go.Vs.F
set_option linter.unusedSectionVars false
namespace Go.Vs.F
def cv (g:Nat->Rat):(Nat->Rat)->Nat->Rat
 |f,0=>f 0*g 0
 |f,k+1=>f 0*g (k+1)+cv g (λi=>f (i+1)) k
def qnn {f g:Nat->Rat}:cv g f 0=f 0*g 0:=rfl
def qnk {f g:Nat->Rat} {k:Nat}:cv g f (k+1)=f 0*g (k+1)+cv g (λi=>f (i+1)) k:=rfl
def qqa {f f' g g':Nat->Rat} {k:Nat} (h1: ∀i,i<=k->f i=f' i) (h2: ∀i,i<=k->g i=g' i):cv g f k=cv g' f' k:=by
 induction k generalizing f f' with
 |zero=>rw[qnn,qnn,h1 0 O,h2 0 O]
 |succ k ih=>rw[qnk,qnk,h1 0 O,h2 _ (zH _),ih (λi hi=>h1 (i+1) O) (λi hi=>h2 i O)]
def qnw {f f' g:Nat->Rat} {k:Nat}:cv g (λi=>f i+f' i) k=cv g f k+cv g f' k:=by
 induction k generalizing f f' with
 |zero=>simp only[qnn];grind
 |succ k ih=>simp only[qnk];rw[ih];grind
def qnt {f g:Nat->Rat} {c:Rat} {k:Nat}:cv g (λi=>c*f i) k=c*cv g f k:=by
 induction k generalizing f with
 |zero=>simp only[qnn];grind
 |succ k ih=>simp only[qnk];rw[ih];grind
def qon {g:Nat->Rat} {k:Nat}:cv g (λ_=>0) k=0:=by
 induction k with
 |zero=>simp only[qnn];grind
 |succ k ih=>simp only[qnk];rw[ih];grind
def qoy {f g:Nat->Rat} {k:Nat}:cv g f (k+1)=f (k+1)*g 0+cv (λi=>g (i+1)) f k:=by
 induction k generalizing f with
 |zero=>simp only[qnk,qnn];grind
 |succ k ih=>rw[qnk,ih,qnk];grind
def qoj {f g:Nat->Rat} {k:Nat}:cv g f k=cv f g k:=by
 induction k generalizing f with
 |zero=>simp only[qnn];grind
 |succ k ih=>rw[qnk,qoy,ih];grind
def qpe {f g h:Nat->Rat} {k:Nat}:cv h (cv g f) k=cv (cv h g) f k:=by
 induction k generalizing f with
 |zero=>simp only[qnn];grind
 |succ k ih=>
  rw[qnk,qnk];have e:(λi=>cv g f (i+1))=λi=>f 0*(λi=>g (i+1)) i+cv g (λi=>f (i+1)) i:=rfl
  rw[e,qnw,qnt,ih,qnn,qnk]
  grind
def qq0 {α:Type} {L:List α} {F:α->Nat->Rat} {g:Nat->Rat} {k:Nat}:cv g (λi=>sm L (λa=>F a i)) k=sm L (λa=>cv g (F a) k):=by
 induction L with
 |nil=>exact qon
 |cons a L ih=>rw[qnj,<-ih,<-qnw];rfl
def qrv {f g:Nat->Rat} {k:Nat}:(k:Rat)*cv g f k=cv g (λi=>(i:Rat)*f i) k+cv (λi=>(i:Rat)*g i) f k:=by
 induction k generalizing f with
 |zero=>simp only[qnn];grind
 |succ k ih=>
  rw[qnk,qnk,qnk]
  have e:(λi:Nat=>((i+1:Nat):Rat)*f (i+1))=λi=>((i:Nat):Rat)*(λi=>f (i+1)) i+f (i+1):=by
   funext i;rw[zt2];grind
  rw[e,qnw]
  grind
def dl0 (k:Nat):Rat:=if k=0 then 1 else 0
def qr1 {g:Nat->Rat} {k:Nat}:cv g dl0 k=g k:=by
 cases k with
 |zero=>rw[qnn];show 1*g 0=g 0;grind
 |succ k=>
  rw[qnk];have:(λi=>dl0 (i+1))=λ_=>0:=by funext i;rfl
  rw[this,qon];show 1*g (k+1)+0=_;grind
def NW (s f:Nat->Rat):Prop:=f 0=1/\ ∀k:Nat,(k:Rat)*f k+cv f s k=0
variable {α:Type} [DecidableEq α]
def mp (L:List α) (A:α->α->Rat):Nat->α->α->Rat
 |0,i,j=>if i=j then 1 else 0
 |k+1,i,j=>sm L (λl=>A i l*mp L A k l j)
def qo2 {L:List α} {A:α->α->Rat} {i j:α}:mp L A 0 i j=if i=j then 1 else 0:=rfl
def qo6 {L:List α} {A:α->α->Rat} {k:Nat} {i j:α}:mp L A (k+1) i j=sm L (λl=>A i l*mp L A k l j):=rfl
def qnx {L:List α} (hn:L.Nodup) {i:α} (hi:i∈L) {f:α->Rat}:sm L (λl=>(if i=l then 1 else 0)*f l)=f i:=by
 rw[qsq hn hi]
 . rw[iP rfl];grind
 grind
def qom {L:List α} (hn:L.Nodup) {i:α} (hi:i∈L) {f:α->Rat}:sm L (λl=>f l*(if l=i then 1 else 0))=f i:=by
 rw[qsq hn hi]
 . rw[iP rfl];grind
 grind
def qui {L:List α} (hn:L.Nodup) {A:α->α->Rat} {a b:Nat}: ∀{i j:α},i∈L->sm L (λl=>mp L A b i l*mp L A a l j)=mp L A (b+a) i j:=by
 induction b with
 |zero=>
  intro i j hi;rw[zF];exact qnx hn hi
 |succ b ih=>
  intro i j hi;rw[show b+1+a=(b+a)+1 by omega,qo6]
  have e:sm L (λl=>mp L A (b+1) i l*mp L A a l j)=sm L (λm=>A i m*sm L (λl=>mp L A b m l*mp L A a l j)):=by
   have e1:sm L (λl=>mp L A (b+1) i l*mp L A a l j)=sm L (λl=>sm L (λm=>A i m*(mp L A b m l*mp L A a l j))):=by
    refine qni λl _=> ?_
    rw[qo6,<-qnv];exact qni λm _=>by grind
   rw[e1,qnu];exact qni λm _=>qnm _
  rw[e];exact qni λm hm=>by rw[ih hm]
def tr (L:List α) (A:α->α->Rat) (k:Nat):Rat:=sm L (λi=>mp L A k i i)
def sp (L:List α) (A:α->α->Rat) (k:Nat):Rat:=if k=0 then 0 else tr L A k
section
variable (p:α) (R:List α) (A:α->α->Rat)
def uu (i:α) (k:Nat):Rat:=sm R (λl=>mp R A k i l*A l p)
def ww (j:α) (k:Nat):Rat:=sm R (λl=>A p l*mp R A k l j)
def sgA:Nat->Rat
 |0=>1
 |1=> -A p p
 |k+2=> -sm R (λl=>A p l*uu p R A l k)
def wz (j:α):Nat->Rat
 |0=>0
 |k+1=>ww p R A j k
def uz (i:α):Nat->Rat
 |0=>0
 |k+1=>uu p R A i k
def uw (i j:α):Nat->Rat
 |0=>0
 |1=>0
 |k+2=>cv (ww p R A j) (uu p R A i) k
def YY (k:Nat) (i j:α):Rat:=
 if i=p then(if j=p then dl0 k else wz p R A j k)else if j=p then uz p R A i k else cv (sgA p R A) (λk=>mp R A k i j) k+uw p R A i j k
variable {p R A}
def qrf {i:α} {k:Nat}:sm R (λl=>A i l*uu p R A l k)=uu p R A i (k+1):=by
 unfold uu
 have:sm R (λl=>A i l*sm R (λm=>mp R A k l m*A m p))=sm R (λl=>sm R (λm=>A i l*mp R A k l m*A m p)):=by
  refine qni λl _=> ?_
  rw[<-qnm];exact qni λm _=>by grind
 rw[this,qnu];refine qni λm _=> ?_
 rw[qo6,<-qnv]
def qny {F:α->Nat->Rat} {g:Nat->Rat} {k:Nat} {c:α->Rat}:sm R (λl=>c l*cv g (F l) k)=cv g (λi=>sm R (λl=>c l*F l i)) k:=by
 rw[qq0 (F:=λl i=>c l*F l i)]
 exact qni λl _=>qnt.symm
def qtu {i j:α} (hn:(p::R).Nodup) (hi:i∈p::R) (hj:j∈p::R):YY p R A 0 i j=if i=j then 1 else 0:=by
 unfold YY;by_cases c:i=p
 . rw[iP c];by_cases d:j=p
   . rw[iP d,iP (c.trans d.symm)];rfl
   . rw[iN' d,iN' (λh=>d (h.symm.trans c))];rfl
 . rw[iN' c];by_cases d:j=p
   . rw[iP d,iN' (λh=>c (h.trans d))];rfl
   . rw[iN' d,qnn,qo2];show _*1+0=_
     grind
def qtr {i j:α} {k:Nat} (hn:(p::R).Nodup) (hi:i∈p::R) (hj:j∈p::R):
 YY p R A (k+1) i j=(if i=j then 1 else 0)*sgA p R A (k+1)+sm (p::R) (λl=>A i l*YY p R A k l j):=by
 rw[zZ]at hn;have hne: ∀l∈R,l≠p:=λl hl e=>hn.1 (e▸hl)
 have memR: ∀l,l∈p::R->l≠p->l∈R:=λl h1 h2=>(mC h1).resolve_left h2
 rw[qnj];by_cases d:j=p
 . subst d
   have e1:sm R (λl=>A i l*YY j R A k l j)=sm R (λl=>A i l*uz j R A l k):=qni λl hl=>by
    show _*YY _ _ _ _ _ _=_
    unfold YY;grind
   rw[e1];have e2:YY j R A k j j=dl0 k:=by unfold YY;rw[iP rfl,iP rfl]
   rw[e2];by_cases c:i=j
   . subst c;have:YY i R A (k+1) i i=dl0 (k+1):=by unfold YY;rw[iP rfl,iP rfl]
     rw[this,iP rfl];cases k with
     |zero=>
      rw[qnl (λl _=>show A i l*uz i R A l 0=0 by show A i l*0=0;grind)]
      show(0:Rat)=1*(-A i i)+(A i i*1+0)
      grind
     |succ k=>
      show(0:Rat)=1*(-sm R (λl=>A i l*uu i R A l k))+(A i i*0+sm R (λl=>A i l*uu i R A l k))
      grind
   . have:YY j R A (k+1) i j=uu j R A i k:=by unfold YY;rw[iN' c,iP rfl];rfl
     rw[this,iN' c];cases k with
     |zero=>
      rw[qnl (λl _=>show A i l*uz j R A l 0=0 by show A i l*0=0;grind)]
      show uu j R A i 0=0*_+(A i j*1+0)
      have:uu j R A i 0=A i j:=qnx hn.2 (memR i hi c)
      grind
     |succ k=>
      show _=0*_+(A i j*0+sm R (λl=>A i l*uu j R A l k))
      rw[qrf];grind
 . have hjR:=memR j hj d;have e2:YY p R A k p j=wz p R A j k:=by unfold YY;rw[iP rfl,iN' d]
   have e1:sm R (λl=>A i l*YY p R A k l j)=cv (sgA p R A) (λm=>sm R (λl=>A i l*mp R A m l j)) k+sm R (λl=>A i l*uw p R A l j k):=by
    rw[<-qny,<-qoa];refine qni λl hl=> ?_
    have:YY p R A k l j=cv (sgA p R A) (λk=>mp R A k l j) k+uw p R A l j k:=by unfold YY;rw[iN' (hne l hl),iN' d]
    rw[this];grind
   rw[e1,e2];by_cases c:i=p
   . subst c;have e3:YY i R A (k+1) i j=ww i R A j k:=by unfold YY;rw[iP rfl,iN' d];rfl
     rw[e3,iN' (λh=>d h.symm)]
     have e4:(λm=>sm R (λl=>A i l*mp R A m l j))=ww i R A j:=rfl
     rw[e4];cases k with
     |zero=>
      rw[qnl (λl _=>show A i l*uw i R A l j 0=0 by show A i l*0=0;grind),qnn]
      show _=0*_+(A i i*0+(ww i R A j 0*1+0))
      grind
     |succ k=>
      rw[qoy];cases k with
      |zero=>
       rw[qnl (λl _=>show A i l*uw i R A l j 1=0 by show A i l*0=0;grind),qnn]
       show _=0*_+(A i i*ww i R A j 0+(ww i R A j 1*1+ww i R A j 0*(-A i i)+0))
       grind
      |succ k=>
       rw[qoy];show _=0*_+(A i i*ww i R A j (k+1)+(ww i R A j (k+2)*1+(ww i R A j (k+1)*(-A i i)+cv (λm=>sgA i R A (m+1+1)) (ww i R A j) k)+sm R (λl=>A i l*cv (ww i R A j) (uu i R A l) k)))
       rw[qny]
       have e5:(λm=>sgA i R A (m+1+1))=λm=>(-1)*(λm=>sm R (λl=>A i l*uu i R A l m)) m:=by
        funext m;show-sm R _=_;grind
       rw[qoj (f:=ww i R A j),e5,qnt]
       grind
   . have hiR:=memR i hi c;have e3:YY p R A (k+1) i j=cv (sgA p R A) (λk=>mp R A k i j) (k+1)+uw p R A i j (k+1):=by unfold YY;rw[iN' c,iN' d]
     rw[e3,qnk,qo2];have e4:(λm=>mp R A (m+1) i j)=λm=>sm R (λl=>A i l*mp R A m l j):=by funext m;rfl
     rw[e4];cases k with
     |zero=>
      rw[qnl (λl _=>show A i l*uw p R A l j 0=0 by show A i l*0=0;grind)]
      show _+0=_+(A i p*0+(_+0))
      grind
     |succ k=>
      cases k with
      |zero=>
       rw[qnl (λl _=>show A i l*uw p R A l j 1=0 by show A i l*0=0;grind)]
       show _+cv (ww p R A j) (uu p R A i) 0=_+(A i p*ww p R A j 0+(_+0))
       rw[qnn];have:uu p R A i 0=A i p:=qnx hn.2 hiR;rw[this];grind
      |succ k=>
       show _+cv (ww p R A j) (uu p R A i) (k+1)=_+(A i p*ww p R A j (k+1)+(_+sm R (λl=>A i l*cv (ww p R A j) (uu p R A l) k)))
       rw[qnk (f:=uu p R A i),qny];have:uu p R A i 0=A i p:=qnx hn.2 hiR;have e5:(λm=>sm R (λl=>A i l*uu p R A l m))=λm=>uu p R A i (m+1):=by funext m;exact qrf
       rw[this,e5];grind
def YY_eq (hn:(p::R).Nodup): ∀(k:Nat) (i j:α),i∈p::R->j∈p::R->cv (sgA p R A) (λk=>mp (p::R) A k i j) k=YY p R A k i j:=by
 intro k;induction k with
 |zero=>
  intro i j hi hj;rw[qtu hn hi hj,qnn,qo2];show _*1=_;grind
 |succ k ih=>
  intro i j hi hj;rw[qtr hn hi hj,qnk,qo2];congr 1;have:(λm=>mp (p::R) A (m+1) i j)=λm=>sm (p::R) (λl=>A i l*mp (p::R) A m l j):=by funext m;rfl
  rw[this,<-qny];exact qni λl hl=>by rw[ih l j hl hj]
def qun (hn:R.Nodup) {a b:Nat} {j:α}:sm R (λi=>ww p R A i b*mp R A a i j)=ww p R A j (b+a):=by
 unfold ww
 have:sm R (λi=>sm R (λl=>A p l*mp R A b l i)*mp R A a i j)=sm R (λi=>sm R (λl=>A p l*(mp R A b l i*mp R A a i j))):=by
  refine qni λi _=> ?_
  rw[<-qnv];exact qni λl _=>by grind
 rw[this,qnu];refine qni λl hl=> ?_
 rw[qnm,qui hn hl]
def qts (hn:R.Nodup) {a b:Nat}:sm R (λi=>uu p R A i a*ww p R A i b)= -sgA p R A (a+b+2):=by
 show _= - -sm R (λl=>A p l*uu p R A l (a+b))
 have:sm R (λi=>uu p R A i a*ww p R A i b)=sm R (λl=>ww p R A l (b+a)*A l p):=by
  have e:sm R (λi=>uu p R A i a*ww p R A i b)=sm R (λi=>sm R (λl=>ww p R A i b*mp R A a i l*A l p)):=by
   refine qni λi _=> ?_
   unfold uu;rw[<-qnv];exact qni λl _=>by grind
  rw[e,qnu];refine qni λl _=> ?_
  rw[qnv,qun hn]
 rw[this]
 have e2:sm R (λl=>A p l*uu p R A l (a+b))=sm R (λl=>ww p R A l (b+a)*A l p):=by
  unfold uu ww
  have:sm R (λl=>A p l*sm R (λm=>mp R A (a+b) l m*A m p))=sm R (λl=>sm R (λm=>A p l*mp R A (a+b) l m*A m p)):=by
   refine qni λl _=> ?_
   rw[<-qnm];exact qni λm _=>by grind
  rw[this,qnu];refine qni λm _=> ?_
  rw[qnv,zw1]
 rw[e2];grind
def qs0 {F:α->Nat->Rat} {G:α->Nat->Rat} {c:Rat} {k:Nat} (h: ∀a b,a+b=k->sm R (λi=>F i a*G i b)=c):sm R (λi=>cv (G i) (F i) k)=((k+1:Nat):Rat)*c:=by
 induction k generalizing F with
 |zero=>
  have:=h 0 0 rfl;simp only[qnn];rw[this];grind
 |succ k ih=>
  simp only[qnk];rw[qoa,h 0 (k+1) O,ih (F:=λi m=>F i (m+1)) (λa b hab=>h (a+1) b O),zt2]
  grind
def qt5 (hn:(p::R).Nodup) (k:Nat):cv (sgA p R A) (tr (p::R) A) k=cv (sgA p R A) (tr R A) k+sgA p R A k-(k:Rat)*sgA p R A k:=by
 have e0:tr (p::R) A=λk=>sm (p::R) (λi=>mp (p::R) A k i i):=rfl
 rw[e0,qq0 (F:=λi k=>mp (p::R) A k i i)]
 have e1:sm (p::R) (λi=>cv (sgA p R A) (λk=>mp (p::R) A k i i) k)=sm (p::R) (λi=>YY p R A k i i):=qni λi hi=>YY_eq hn k i i hi hi
 rw[e1,qnj];rw[zZ]at hn;have e2:YY p R A k p p=dl0 k:=by unfold YY;rw[iP rfl,iP rfl]
 have e3:sm R (λi=>YY p R A k i i)=cv (sgA p R A) (tr R A) k+sm R (λi=>uw p R A i i k):=by
  have e0:tr R A=λk=>sm R (λi=>mp R A k i i):=rfl
  rw[e0,qq0 (F:=λi k=>mp R A k i i),<-qoa]
  refine qni λi hi=> ?_
  have:i≠p:=λe=>hn.1 (e▸hi)
  unfold YY;rw[iN' this,iN' this]
 rw[e2,e3]
 match k with
 |0=>
  rw[qnl (λl _=>show uw p R A l l 0=0 from rfl)]
  show(1:Rat)+_=_+1-((0:Nat):Rat)*1
  grind
 |1=>
  rw[qnl (λl _=>show uw p R A l l 1=0 from rfl)]
  show(0:Rat)+_=_
  grind
 |k+2=>
  show(0:Rat)+(_+sm R (λi=>cv (ww p R A i) (uu p R A i) k))=_
  rw[qs0 (c:= -sgA p R A (k+2)) (λa b hab=>by rw[qts hn.2,hab])]
  grind
end
def qt3 {p:α} {R:List α} {A:α->α->Rat} (hn:(p::R).Nodup) {f:Nat->Rat} (h:NW (sp R A) f):NW (sp (p::R) A) (cv (sgA p R A) f):=by
 refine⟨by rw[qnn,h.1];show(1:Rat)*1=1;grind,λk=> ?_⟩
 let D:Nat->Rat:=λk=>sp (p::R) A k-sp R A k
 have hD: ∀k:Nat,cv (sgA p R A) D k= -((k:Rat)*sgA p R A k):=by
  intro k
  have h0:tr (p::R) A 0=tr R A 0+1:=by
   unfold tr;rw[qnj];have:sm R (λi=>mp (p::R) A 0 i i)=sm R (λi=>mp R A 0 i i):=qni λi _=>rfl
   rw[this,qo2,iP rfl];grind
  have e:D=λk=>tr (p::R) A k+(-1)*(tr R A k+dl0 k):=by
   funext k
   show sp (p::R) A k-sp R A k=_
   unfold sp dl0;by_cases c:k=0
   . grind
   . grind
  rw[e,qnw,qnt,qnw,qr1,qt5 hn]
  grind
 have e1:cv (cv (sgA p R A) f) (sp (p::R) A) k=cv (cv (sgA p R A) f) (sp R A) k+cv (cv (sgA p R A) f) D k:=by
  rw[<-qnw];refine qqa (λi _=> ?_) (λ_ _=>rfl)
  grind
 have e2:cv (cv (sgA p R A) f) (sp R A) k=cv (sgA p R A) (cv f (sp R A)) k:=qpe.symm
 have e3:cv f (sp R A)=λi:Nat=>(-1)*((i:Rat)*f i):=by
  funext i
  have:=h.2 i;grind
 have e4:cv (cv (sgA p R A) f) D k=cv (λi:Nat=>(i:Rat)*sgA p R A i) (λi=>(-1)*f i) k:=by
  have a1:cv (cv (sgA p R A) f) D k=cv (sgA p R A) (cv f D) k:=qpe.symm;have a2:cv f D=cv D f:=by funext i;exact qoj
  rw[a1,a2,qpe];have a3:cv (sgA p R A) D=λk:Nat=> -((k:Rat)*sgA p R A k):=by funext i;exact hD i
  rw[a3];have a4:(λk:Nat=> -((k:Rat)*sgA p R A k))=λk:Nat=>(-1)*((k:Rat)*sgA p R A k):=by funext i;grind
  rw[a4,qoj,qnt,qnt,qoj]
 rw[qrv,e1,e2,e3,e4,qnt,qnt]
 grind
def isZ (x:Rat):Prop:= ∃z:Int,x=(z:Rat)
def qrb {x y:Rat} (h1:isZ x) (h2:isZ y):isZ (x+y):=by
 obtain⟨a,rfl⟩:=h1;obtain⟨b,rfl⟩:=h2;exact⟨a+b,(Rat.intCast_add a b).symm⟩
def qp2 {x y:Rat} (h1:isZ x) (h2:isZ y):isZ (x*y):=by
 obtain⟨a,rfl⟩:=h1;obtain⟨b,rfl⟩:=h2;exact⟨a*b,(z81 a b).symm⟩
def qrq {x:Rat} (h1:isZ x):isZ (-x):=by
 obtain⟨a,rfl⟩:=h1;exact⟨-a,(zG4 a).symm⟩
def qrj {L:List α} {f:α->Rat} (h: ∀i∈L,isZ (f i)):isZ (sm L f):=by
 induction L with
 |nil=>exact⟨0,rfl⟩
 |cons i L ih=>exact qrb (h i mS) (ih λj hj=>h j (mT hj))
def qu9 {f g:Nat->Rat} (hf: ∀k,isZ (f k)) (hg: ∀k,isZ (g k)) (k:Nat):isZ (cv g f k):=by
 induction k generalizing f with
 |zero=>exact qp2 (hf 0) (hg 0)
 |succ k ih=>exact qrb (qp2 (hf 0) (hg _)) (ih λi=>hf (i+1))
def qua {L:List α} {A:α->α->Rat} (h: ∀i j,isZ (A i j)) (k:Nat): ∀i j,isZ (mp L A k i j):=by
 induction k with
 |zero=>intro i j;rw[qo2];(split<;>first|exact⟨1,rfl⟩|exact⟨0,rfl⟩)
 |succ k ih=>intro i j;rw[qo6];exact qrj λl _=>qp2 (h i l) (ih l j)
def qu7 {A:α->α->Rat} (h: ∀i j,isZ (A i j)): ∀L:List α,L.Nodup-> ∃f,NW (sp L A) f/\ ∀k,isZ (f k):=by
 intro L;induction L with
 |nil=>
  intro _;refine⟨dl0,⟨rfl,λk=> ?_⟩,λk=>by unfold dl0;(split<;>first|exact⟨1,rfl⟩|exact⟨0,rfl⟩)⟩
  have:sp ([]:List α) A=λ_=>0:=by funext k;unfold sp tr;rw[sm_nil];split<;>rfl
  rw[this,qon];unfold dl0;by_cases c:k=0
  . subst c;rw[iP rfl];grind
  . rw[iN' c];grind
 |cons p R ih=>
  intro hn;have⟨f,h1,h2⟩:=ih (zZ.1 hn).2;refine⟨_,qt3 hn h1,qu9 h2 λk=> ?_⟩
  match k with
  |0=>exact⟨1,rfl⟩
  |1=>exact qrq (h p p)
  |k+2=>exact qrq (qrj λl _=>qp2 (h p l) (qrj λm _=>qp2 (qua h k l m) (h m p)))
variable {α:Type} [DecidableEq α]
def lin (K:List α) (V:α->α->Rat) (y:α->Rat) (j:α):Rat:=sm K (λi=>y i*V i j)
def qf (L:List α) (A:α->α->Rat) (x:α->Rat):Rat:=sm L (λi=>sm L (λj=>x i*A i j*x j))
structure Dg (L:List α) (A V:α->α->Rat) (b:α->Rat):Prop where
 form: ∀y,qf L A (lin L V y)=sm L (λi=>b i*(y i*y i))
 ind: ∀y,(∀j∈L,lin L V y j=0)-> ∀i∈L,y i=0
def qog {L:List α} {A B:α->α->Rat} {x z:α->Rat} (h: ∀i∈L,x i=z i) (hA: ∀i∈L,∀j∈L,A i j=B i j):qf L A x=qf L B z:=
 qni λi hi=>qni λj hj=>by rw[h i hi,h j hj,hA i hi j hj]
def qu0 {L M:List α} (h:L.Perm M) {A:α->α->Rat} {x:α->Rat}:qf L A x=qf M A x:=by
 unfold qf;rw[qo7 h];exact qni λi _=>qo7 h
def qq7 {L M:List α} (h:L.Perm M) {V:α->α->Rat} {y:α->Rat} {j:α}:lin L V y j=lin M V y j:=qo7 h
def Dg.perm {L M:List α} (h:L.Perm M) {A V:α->α->Rat} {b:α->Rat} (hd:Dg L A V b):Dg M A V b:=by
 refine⟨λy=> ?_,λy hy i hi=> ?_⟩
 . rw[<-qo7 h,<-hd.form y,qu0 h];exact qog (λi _=>(qq7 h).symm) (λ_ _ _ _=>rfl)
 . exact hd.ind y (λj hj=>(qq7 h).trans (hy j (h.mem_iff.1 hj))) i (h.mem_iff.2 hi)
def Dg.congr {L:List α} {A B V:α->α->Rat} {b:α->Rat} (h: ∀i∈L,∀j∈L,A i j=B i j) (hd:Dg L A V b):Dg L B V b:=
 ⟨λy=>by rw[<-hd.form y];exact(qog (λ_ _=>rfl) h).symm,hd.ind⟩
def Dg.neg {L:List α} {A V:α->α->Rat} {b:α->Rat} (hd:Dg L A V b):Dg L (λi j=> -A i j) V (λi=> -b i):=by
 refine⟨λy=> ?_,hd.ind⟩
 have e:sm L (λi=> -b i*(y i*y i))= -sm L (λi=>b i*(y i*y i)):=by
  rw[<-qp3];exact qni λi _=>by grind
 rw[e,<-hd.form y];unfold qf;rw[<-qp3];refine qni λi _=> ?_
 rw[<-qp3];exact qni λj _=>by grind
def qps {L:List α} (hn:L.Nodup) {A:α->α->Rat} (h: ∀i∈L,∀j∈L,A i j=0):Dg L A (λi j=>if i=j then 1 else 0) (λ_=>0):=by
 have hl: ∀(y:α->Rat) j,j∈L->lin L (λi j=>if i=j then 1 else 0) y j=y j:=λy j hj=>qom hn hj
 refine⟨λy=> ?_,λy hy i hi=>by rw[<-hl y i hi];exact hy i hi⟩
 rw[qnl (λi _=>by grind)]
 exact qnl λi hi=>qnl λj hj=>by rw[h i hi j hj];grind
def qpr {p:α} {R:List α} {A:α->α->Rat} (hs: ∀i∈p::R,∀j∈p::R,A i j=A j i) {x:α->Rat}:
 qf (p::R) A x=A p p*(x p*x p)+2*x p*sm R (λk=>A p k*x k)+qf R A x:=by
 unfold qf;rw[qnj,qnj]
 have e1:sm R (λj=>x p*A p j*x j)=x p*sm R (λk=>A p k*x k):=by
  rw[<-qnm];exact qni λj _=>by grind
 have e2:sm R (λi=>sm (p::R) (λj=>x i*A i j*x j))=x p*sm R (λk=>A p k*x k)+sm R (λi=>sm R (λj=>x i*A i j*x j)):=by
  rw[<-qnm,<-qoa];refine qni λi hi=> ?_
  rw[qnj,hs i (mT hi) p mS];grind
 rw[e1,e2];grind
def qpf {R:List α} {A B:α->α->Rat} {u w:α->Rat} {c:Rat} (h: ∀i∈R,∀j∈R,B i j=A i j-c*(u i*w j)) {x:α->Rat}:
 qf R B x=qf R A x-c*(sm R (λk=>u k*x k)*sm R (λk=>w k*x k)):=by
 rw[qu4,<-qnm];unfold qf;rw[<-sm_sb];refine qni λi hi=> ?_
 rw[<-qnm,<-sm_sb];refine qni λj hj=> ?_
 rw[h i hi j hj];grind
def qo8 (p:α) (R:List α) (A W:α->α->Rat):α->α->Rat:=λi j=>
 if i=p then(if j=p then 1 else 0)else if j=p then-sm R (λk=>A p k*W i k)/A p p else W i j
def qpc {R:List α} {W:α->α->Rat} {c y:α->Rat} {b:Rat}:sm R (λi=>y i*(-sm R (λk=>c k*W i k)/b))= -sm R (λk=>c k*lin R W y k)/b:=by
 have e:sm R (λk=>c k*lin R W y k)=sm R (λi=>y i*sm R (λk=>c k*W i k)):=by
  have:sm R (λk=>c k*lin R W y k)=sm R (λk=>sm R (λi=>y i*(c k*W i k))):=by
   refine qni λk _=> ?_
   unfold lin;rw[<-qnm];exact qni λi _=>by grind
  rw[this,qnu];exact qni λi _=>qnm _
 have e2: -sm R (λk=>c k*lin R W y k)/b=(-1/b)*sm R (λk=>c k*lin R W y k):=by grind
 rw[e2,e,<-qnm];exact qni λi _=>by grind
def qql {p:α} {R:List α} (hn:(p::R).Nodup) {A B W:α->α->Rat} {g:α->Rat} (hs: ∀i∈p::R,∀j∈p::R,A i j=A j i) (hb:A p p≠0)
 (hB: ∀i∈R,∀j∈R,B i j=A i j-A i p*A p j/A p p) (hd:Dg R B W g):Dg (p::R) A (qo8 p R A W) (λi=>if i=p then A p p else g i):=by
 rw[zZ]at hn;have hne: ∀l∈R,l≠p:=λl hl e=>hn.1 (e▸hl)
 have hx: ∀(y:α->Rat) j,j∈R->lin (p::R) (qo8 p R A W) y j=lin R W y j:=by
  intro y j hj;unfold lin;rw[qnj];have:qo8 p R A W p j=0:=by unfold qo8;rw[iP rfl,iN' (hne j hj)]
  rw[this,qni (g:=λi=>y i*W i j) λi hi=>by unfold qo8;rw[iN' (hne i hi),iN' (hne j hj)]]
  grind
 have hp: ∀y:α->Rat,lin (p::R) (qo8 p R A W) y p=y p-sm R (λk=>A p k*lin R W y k)/A p p:=by
  intro y;unfold lin;rw[qnj];have:qo8 p R A W p p=1:=by unfold qo8;rw[iP rfl,iP rfl]
  rw[this,qni (g:=λi=>y i*(-sm R (λk=>A p k*W i k)/A p p)) λi hi=>by unfold qo8;rw[iN' (hne i hi),iP rfl],qpc]
  unfold lin
  grind
 refine⟨λy=> ?_,λy hy=> ?_⟩
 . have es:sm R (λk=>A p k*lin (p::R) (qo8 p R A W) y k)=sm R (λk=>A p k*lin R W y k):=qni λk hk=>by rw[hx y k hk]
   rw[qpr hs,hp y,es];have e1:qf R A (lin (p::R) (qo8 p R A W) y)=qf R A (lin R W y):=qog (λi hi=>hx y i hi) (λ_ _ _ _=>rfl)
   have e2:=qpf (R:=R) (A:=A) (B:=B) (u:=λk=>A p k) (w:=λk=>A p k) (c:=1/A p p) (x:=lin R W y) (λi hi j hj=>by
    rw[hB i hi j hj,hs i (mT hi) p mS];grind)
   rw[hd.form y]at e2;rw[qnj,iP rfl,e1];have e3:sm R (λi=>(if i=p then A p p else g i)*(y i*y i))=sm R (λi=>g i*(y i*y i)):=qni λi hi=>by rw[iN' (hne i hi)]
   rw[e3,e2];clear e1 e2 e3 es hp hx hs hB hd;generalize sm R (λk=>A p k*lin R W y k)=s
   generalize qf R A (lin R W y)=t
   grind
 . have h0: ∀j∈R,lin R W y j=0:=λj hj=>(hx y j hj).symm.trans (hy j (mT hj))
   have h1:=hd.ind y h0;have h2:=hy p mS;rw[hp y,qnl (λk hk=>by rw[h0 k hk];grind)]at h2
   intro i hi;rcases mC hi with rfl|hi
   . grind
   . exact h1 i hi
def qns (p q:α) (R:List α) (A W:α->α->Rat):α->α->Rat:=λi j=>
 if i=p then(if j=p then 1 else if j=q then 1 else 0)else if i=q then(if j=p then 1 else if j=q then-1 else 0)
 else if j=p then-sm R (λk=>A q k*W i k)/A p q else if j=q then-sm R (λk=>A p k*W i k)/A p q else W i j
def qs9 {p q:α} {R:List α} (hn:(p::q::R).Nodup) {A B W:α->α->Rat} {g:α->Rat} (hs: ∀i∈p::q::R,∀j∈p::q::R,A i j=A j i) (hp0:A p p=0) (hq0:A q q=0) (hb:A p q≠0)
 (hB: ∀i∈R,∀j∈R,B i j=A i j-A i p*A q j/A p q-A i q*A p j/A p q) (hd:Dg R B W g):
 Dg (p::q::R) A (qns p q R A W) (λi=>if i=p then 2*A p q else if i=q then-(2*A p q)else g i):=by
 rw[zZ,zZ]at hn;have⟨hn1,hn2,hn3⟩:=hn;have hpq:q≠p:=λe=>hn1 (e▸mS)
 have hnp: ∀l∈R,l≠p:=λl hl e=>hn1 (mT (e▸hl))
 have hnq: ∀l∈R,l≠q:=λl hl e=>hn2 (e▸hl)
 have hx: ∀(y:α->Rat) j,j∈R->lin (p::q::R) (qns p q R A W) y j=lin R W y j:=by
  intro y j hj;unfold lin;rw[qnj,qnj];have e1:qns p q R A W p j=0:=by unfold qns;rw[iP rfl,iN' (hnp j hj),iN' (hnq j hj)]
  have e2:qns p q R A W q j=0:=by unfold qns;rw[iN' hpq,iP rfl,iN' (hnp j hj),iN' (hnq j hj)]
  rw[e1,e2,qni (g:=λi=>y i*W i j) λi hi=>by unfold qns;rw[iN' (hnp i hi),iN' (hnq i hi),iN' (hnp j hj),iN' (hnq j hj)]]
  grind
 have hp: ∀y:α->Rat,lin (p::q::R) (qns p q R A W) y p=y p+y q-sm R (λk=>A q k*lin R W y k)/A p q:=by
  intro y;unfold lin;rw[qnj,qnj];have e1:qns p q R A W p p=1:=by unfold qns;rw[iP rfl,iP rfl]
  have e2:qns p q R A W q p=1:=by unfold qns;rw[iN' hpq,iP rfl,iP rfl]
  rw[e1,e2,qni (g:=λi=>y i*(-sm R (λk=>A q k*W i k)/A p q)) λi hi=>by unfold qns;rw[iN' (hnp i hi),iN' (hnq i hi),iP rfl],qpc]
  unfold lin
  grind
 have hq: ∀y:α->Rat,lin (p::q::R) (qns p q R A W) y q=y p-y q-sm R (λk=>A p k*lin R W y k)/A p q:=by
  intro y;unfold lin;rw[qnj,qnj];have e1:qns p q R A W p q=1:=by unfold qns;rw[iP rfl,iN' hpq,iP rfl]
  have e2:qns p q R A W q q= -1:=by unfold qns;rw[iN' hpq,iP rfl,iN' hpq,iP rfl]
  rw[e1,e2,qni (g:=λi=>y i*(-sm R (λk=>A p k*W i k)/A p q)) λi hi=>by unfold qns;rw[iN' (hnp i hi),iN' (hnq i hi),iN' hpq,iP rfl],qpc]
  unfold lin
  grind
 have hsp:=hs p mS q (mT mS);refine⟨λy=> ?_,λy hy=> ?_⟩
 . have es: ∀r,sm R (λk=>A r k*lin (p::q::R) (qns p q R A W) y k)=sm R (λk=>A r k*lin R W y k):=λr=>qni λk hk=>by rw[hx y k hk]
   rw[qpr hs,qpr (λi hi j hj=>hs i (mT hi) j (mT hj)),qnj,hp y,hq y,hp0,hq0,es p,es q]
   have e1:qf R A (lin (p::q::R) (qns p q R A W) y)=qf R A (lin R W y):=qog (λi hi=>hx y i hi) (λ_ _ _ _=>rfl)
   have e2:=qpf (R:=R) (A:=λi j=>A i j-(1/A p q)*(A p i*A q j)) (B:=B) (u:=λk=>A q k) (w:=λk=>A p k) (c:=1/A p q) (x:=lin R W y) (λi hi j hj=>by
    rw[hB i hi j hj,hs i (mT (mT hi)) p mS,hs i (mT (mT hi)) q (mT mS)];grind)
   have e3:=qpf (R:=R) (A:=A) (B:=λi j=>A i j-(1/A p q)*(A p i*A q j)) (u:=λk=>A p k) (w:=λk=>A q k) (c:=1/A p q) (x:=lin R W y) (λi hi j hj=>rfl)
   rw[hd.form y,e3]at e2;rw[qnj,qnj,iP rfl,iN' hpq,iP rfl,e1];have e4:sm R (λi=>(if i=p then 2*A p q else if i=q then-(2*A p q)else g i)*(y i*y i))=sm R (λi=>g i*(y i*y i)):=qni λi hi=>by rw[iN' (hnp i hi),iN' (hnq i hi)]
   rw[e4,e2];clear e1 e2 e3 e4 es hp hq hx hs hB hd;generalize sm R (λk=>A p k*lin R W y k)=s
   generalize sm R (λk=>A q k*lin R W y k)=r
   generalize qf R A (lin R W y)=t
   grind
 . have h0: ∀j∈R,lin R W y j=0:=λj hj=>(hx y j hj).symm.trans (hy j (mT (mT hj)))
   have h1:=hd.ind y h0;have h2:=hy p mS;have h3:=hy q (mT mS);rw[hp y,qnl (λk hk=>by rw[h0 k hk];grind)]at h2
   rw[hq y,qnl (λk hk=>by rw[h0 k hk];grind)]at h3
   intro i hi;rcases mC hi with rfl|hi
   . grind
   . rcases mC hi with rfl|hi
     . grind
     . exact h1 i hi
def npos (L:List α) (b:α->Rat):Nat:=(L.filter λi=>decide (0<b i)).length
def qod {L:List α} {p q:α->Bool} (h: ∀i∈L,q i= !p i):(L.filter p).length+(L.filter q).length=L.length:=by
 induction L with
 |nil=>rfl
 |cons i L ih=>
  have h0:=h i mS;have h1:=ih λj hj=>h j (mT hj)
  rw[zZ1,zZ1,h0];cases p i<;>simp<;>omega
def sm_if {L:List α} {p:α->Bool} {f:α->Rat} {y:α->Rat}:sm (L.filter p) (λi=>f i*y i)=sm L (λi=>f i*(if p i then y i else 0)):=by
 rw[qrg];exact qni λi _=>by split<;>grind
def qpa {L:List α} (hn:L.Nodup) {A B V W:α->α->Rat} {b c:α->Rat} (hA:Dg L A V b) (hB:Dg L B W c) (h: ∀x,qf L A x<=qf L B x):npos L b<=npos L c:=by
 refine zn1 λhlt=> ?_
 let P:α->Bool:=λi=>decide (0<b i)
 let Q:α->Bool:=λi=>decide (¬0<c i)
 have hsplit:npos L c+(L.filter Q).length=L.length:=qod (p:=λi=>decide (0<c i)) λi _=>by show decide _=_;simp
 let U:List (α⊕α):=(L.filter P).map Sum.inl++(L.filter Q).map Sum.inr
 have hU:U.Nodup:=by
  rw[zO];refine⟨List.Pairwise.map Sum.inl (λa b h h'=>h (Sum.inl.inj h')) (hn.filter _),List.Pairwise.map Sum.inr (λa b h h'=>h (Sum.inr.inj h')) (hn.filter _),?_⟩
  intro a ha b hb;obtain⟨x,_,rfl⟩:=zi.1 ha;obtain⟨z,_,rfl⟩:=zi.1 hb;intro h;cases h
 obtain⟨y,⟨u,hu,hy⟩,hz⟩:=hom L U (λr u=>match u with| .inl i=>V i r| .inr i=> -W i r) hU (by
  rw[zW,zQ1,zQ1];have:npos L b=(L.filter P).length:=rfl;omega)
 let y1:α->Rat:=λi=>if P i then y (.inl i)else 0
 let y2:α->Rat:=λi=>if Q i then y (.inr i)else 0
 have e1: ∀r∈L,lin L V y1 r=lin L W y2 r:=by
  intro r hr;have h0:=hz r hr;rw[qsp,qqz,qqz]at h0
  have a1:sm (L.filter P) (λi=>V i r*y (.inl i))=lin L V y1 r:=by
   rw[sm_if];exact qni λi _=>zd2 _ _
  have a2:sm (L.filter Q) (λi=> -W i r*y (.inr i))= -lin L W y2 r:=by
   rw[sm_if];unfold lin;rw[<-qp3];exact qni λi _=>by show-W i r*y2 i=_;grind
  have h1:lin L V y1 r+ -lin L W y2 r=0:=by rw[<-a1,<-a2];exact h0
  grind
 have q1:=hA.form y1;have q2:=hB.form y2;have q3:qf L B (lin L V y1)=qf L B (lin L W y2):=qog e1 (λ_ _ _ _=>rfl)
 have q4:=h (lin L V y1)
 have n2:sm L (λi=>c i*(y2 i*y2 i))<=0:=by
  have:=sm_le (L:=L) (f:=λi=>c i*(y2 i*y2 i)) (g:=λ_=>0) (λi hi=>by
   show c i*(y2 i*y2 i)<=0
   by_cases hq:Q i=true
   . have h1: ¬0<c i:=of_decide_eq_true hq;have h2:=sq_nonneg (y2 i);have h3:=zA (a:= -c i) (b:=y2 i*y2 i) (by grind) h2
     grind
   . have:y2 i=0:=iN' hq;rw[this];grind)
  rwa [qor]at this
 have nn1: ∀i∈L,0<=b i*(y1 i*y1 i):=by
  intro i hi;by_cases hp:P i=true
  . have h1:0<b i:=of_decide_eq_true hp;exact zA (by grind) (sq_nonneg _)
  . have:y1 i=0:=iN' hp;rw[this];grind
 have z1: ∀i∈L,y1 i=0:=by
  intro i hi;by_cases hp:P i=true
  . have h1:0<b i:=of_decide_eq_true hp;have h2:=le_sm nn1 hi;by_cases h3:y1 i=0
    . exact h3
    . have:=zq2 h1 (sq_pos h3)
      grind
  . exact iN' hp
 have z2: ∀i∈L,y2 i=0:=hB.ind y2 λr hr=>by
  rw[<-e1 r hr];exact qnl λi hi=>by rw[z1 i hi];grind
 rcases zY.1 hu with hu|hu
 . obtain⟨i,hi,rfl⟩:=zi.1 hu;obtain⟨h1,h2⟩:=zC1.1 hi;have:=z1 i h1;have e:y1 i=y (.inl i):=iP h2;exact hy (e▸this)
 . obtain⟨i,hi,rfl⟩:=zi.1 hu;obtain⟨h1,h2⟩:=zC1.1 hi;have:=z2 i h1;have e:y2 i=y (.inr i):=iP h2;exact hy (e▸this)
variable {α:Type} [DecidableEq α]
def mm (L:List α) (A B:α->α->Rat) (i j:α):Rat:=sm L (λk=>A i k*B k j)
def tp (A:α->α->Rat) (i j:α):Rat:=A j i
def cj (L:List α) (Q A:α->α->Rat):α->α->Rat:=mm L (tp Q) (mm L A Q)
def qol {L:List α} {A B C:α->α->Rat} {i j:α}:mm L (mm L A B) C i j=mm L A (mm L B C) i j:=by
 unfold mm
 have e1:sm L (λk=>sm L (λl=>A i l*B l k)*C k j)=sm L (λk=>sm L (λl=>A i l*(B l k*C k j))):=by
  refine qni λk _=> ?_
  rw[<-qnv];exact qni λl _=>by grind
 rw[e1,qnu];exact qni λl _=>qnm _
def qow {L:List α} {A A' B B':α->α->Rat} {i j:α} (h1: ∀k∈L,A i k=A' i k) (h2: ∀k∈L,B k j=B' k j):mm L A B i j=mm L A' B' i j:=
 qni λk hk=>by rw[h1 k hk,h2 k hk]
structure Orth (L:List α) (Q:α->α->Rat):Prop where
 col: ∀i∈L,∀j∈L,mm L (tp Q) Q i j=if i=j then 1 else 0
 row: ∀i∈L,∀j∈L,mm L Q (tp Q) i j=if i=j then 1 else 0
def qqm {L:List α} (hn:L.Nodup) {I B:α->α->Rat} (h: ∀i∈L,∀j∈L,I i j=if i=j then 1 else 0) {i j:α} (hi:i∈L):mm L I B i j=B i j:=by
 unfold mm;rw[qni (g:=λk=>(if i=k then 1 else 0)*B k j) λk hk=>by rw[h i hi k hk]]
 exact qnx hn hi
def qs1 {L:List α} (hn:L.Nodup) {I B:α->α->Rat} (h: ∀i∈L,∀j∈L,I i j=if i=j then 1 else 0) {i j:α} (hj:j∈L):mm L B I i j=B i j:=by
 unfold mm;rw[qni (g:=λk=>B i k*(if k=j then 1 else 0)) λk hk=>by rw[h k hk j hj]]
 exact qom hn hj
def qtn {L:List α} {A B:α->α->Rat}:sm L (λi=>mm L A B i i)=sm L (λi=>mm L B A i i):=by
 unfold mm;rw[qnu];exact qni λk _=>qni λi _=>zd2 _ _
def mp_cj {L:List α} (hn:L.Nodup) {Q A:α->α->Rat} (hQ:Orth L Q): ∀(k:Nat) (i j:α),i∈L->j∈L->mp L (cj L Q A) k i j=mm L (tp Q) (mm L (mp L A k) Q) i j:=by
 intro k;induction k with
 |zero=>
  intro i j hi hj;rw[qo2];have:mm L (tp Q) (mm L (mp L A 0) Q) i j=mm L (tp Q) Q i j:=qow (λ_ _=>rfl) λk hk=>qqm hn (λ_ _ _ _=>rfl) hk
  rw[this,hQ.col i hi j hj]
 |succ k ih=>
  intro i j hi hj
  have e1:mp L (cj L Q A) (k+1) i j=mm L (cj L Q A) (mm L (tp Q) (mm L (mp L A k) Q)) i j:=by
   show mm L (cj L Q A) (mp L (cj L Q A) k) i j=_
   exact qow (λ_ _=>rfl) λl hl=>ih l j hl hj
  rw[e1];unfold cj;rw[qol];refine qow (λ_ _=>rfl) λl hl=> ?_
  rw[qol]
  have e2:mm L (mp L A (k+1)) Q l j=mm L A (mm L (mp L A k) Q) l j:=by
   have:mm L (mp L A (k+1)) Q l j=mm L (mm L A (mp L A k)) Q l j:=rfl;rw[this,qol]
  rw[e2];refine qow (λ_ _=>rfl) λm hm=> ?_
  rw[<-qol];exact qqm hn hQ.row hm
def tr_cj {L:List α} (hn:L.Nodup) {Q A:α->α->Rat} (hQ:Orth L Q) (k:Nat):tr L (cj L Q A) k=tr L A k:=by
 unfold tr;rw[qni λi hi=>mp_cj hn hQ k i i hi hi,qtn]
 refine qni λi hi=> ?_
 rw[qol];exact qs1 hn hQ.row hi
def qr0 {L:List α} {Q A:α->α->Rat} (hs: ∀i∈L,∀j∈L,A i j=A j i): ∀i∈L,∀j∈L,cj L Q A i j=cj L Q A j i:=by
 intro i hi j hj;unfold cj mm tp
 have e: ∀i j,sm L (λk=>Q k i*sm L (λl=>A k l*Q l j))=sm L (λk=>sm L (λl=>Q k i*A k l*Q l j)):=by
  intro i j;refine qni λk _=> ?_
  rw[<-qnm];exact qni λl _=>by grind
 rw[e,e,qnu];exact qni λk hk=>qni λl hl=>by rw[hs l hl k hk];grind
def mv (L:List α) (A:α->α->Rat) (x:α->Rat) (i:α):Rat:=sm L (λk=>A i k*x k)
def ip (L:List α) (x y:α->Rat):Rat:=sm L (λi=>x i*y i)
def ip_mv {L:List α} {A:α->α->Rat} {x y:α->Rat}:ip L (mv L A x) y=ip L x (mv L (tp A) y):=by
 unfold ip mv tp
 have e1:sm L (λi=>sm L (λk=>A i k*x k)*y i)=sm L (λi=>sm L (λk=>x k*(A i k*y i))):=by
  refine qni λk _=> ?_
  rw[<-qnv];exact qni λl _=>by grind
 rw[e1,qnu];exact qni λk _=>qnm _
def mv_mm {L:List α} {A B:α->α->Rat} {x:α->Rat} {i:α}:mv L (mm L A B) x i=mv L A (mv L B x) i:=by
 unfold mv mm
 have e1:sm L (λk=>sm L (λl=>A i l*B l k)*x k)=sm L (λk=>sm L (λl=>A i l*(B l k*x k))):=by
  refine qni λk _=> ?_
  rw[<-qnv];exact qni λl _=>by grind
 rw[e1,qnu];exact qni λk _=>qnm _
def qf_ip {L:List α} {A:α->α->Rat} {x:α->Rat}:qf L A x=ip L x (mv L A x):=by
 unfold qf ip mv;refine qni λi _=> ?_
 rw[<-qnm];exact qni λj _=>by grind
def qqd {L:List α} {A B:α->α->Rat} {x y:α->Rat} {i:α} (h1: ∀k∈L,A i k=B i k) (h2: ∀k∈L,x k=y k):mv L A x i=mv L B y i:=
 qni λk hk=>by rw[h1 k hk,h2 k hk]
def qqj {L:List α} {x y x' y':α->Rat} (h1: ∀k∈L,x k=x' k) (h2: ∀k∈L,y k=y' k):ip L x y=ip L x' y':=
 qni λk hk=>by rw[h1 k hk,h2 k hk]
def qst {L:List α} (hn:L.Nodup) {I:α->α->Rat} (h: ∀i∈L,∀j∈L,I i j=if i=j then 1 else 0) {x:α->Rat} {i:α} (hi:i∈L):mv L I x i=x i:=by
 unfold mv;rw[qni (g:=λk=>(if i=k then 1 else 0)*x k) λk hk=>by rw[h i hi k hk]]
 exact qnx hn hi
def qf_cj {L:List α} {Q A:α->α->Rat} {x:α->Rat}:qf L (cj L Q A) x=qf L A (mv L Q x):=by
 rw[qf_ip,qf_ip,ip_mv];refine qqj (λ_ _=>rfl) λi _=> ?_
 unfold cj;rw[mv_mm];exact qqd (λ_ _=>rfl) λk _=>mv_mm
def rotV (L:List α) (Q V:α->α->Rat):α->α->Rat:=λi j=>mv L (tp Q) (V i) j
def qtg {L K:List α} {Q V:α->α->Rat} {y:α->Rat} {j:α}:lin K (rotV L Q V) y j=mv L (tp Q) (lin K V y) j:=by
 unfold lin rotV mv
 have e1:sm K (λi=>y i*sm L (λk=>tp Q j k*V i k))=sm K (λi=>sm L (λk=>tp Q j k*(y i*V i k))):=by
  refine qni λk _=> ?_
  rw[<-qnm];exact qni λl _=>by grind
 rw[e1,qnu];exact qni λk _=>qnm _
def Dg_cj {L:List α} (hn:L.Nodup) {Q A V:α->α->Rat} {b:α->Rat} (hQ:Orth L Q) (hd:Dg L A V b):Dg L (cj L Q A) (rotV L Q V) b:=by
 have back: ∀y,∀j∈L,mv L Q (lin L (rotV L Q V) y) j=lin L V y j:=by
  intro y j hj;have e:mv L Q (lin L (rotV L Q V) y) j=mv L Q (mv L (tp Q) (lin L V y)) j:=qqd (λ_ _=>rfl) λk _=>qtg
  rw[e,<-mv_mm];exact qst hn hQ.row hj
 refine⟨λy=> ?_,λy hy=>hd.ind y λj hj=> ?_⟩
 . rw[qf_cj,<-hd.form y];exact qog (λi hi=>back y i hi) (λ_ _ _ _=>rfl)
 . rw[<-back y j hj];exact qnl λk hk=>by rw[hy k hk];grind
def vn (L:List α) (V:α->α->Rat):Rat:=sm L (λi=>ip L (V i) (V i))
def quj {L:List α} (hn:L.Nodup) {Q V:α->α->Rat} (hQ:Orth L Q):vn L (rotV L Q V)=vn L V:=by
 unfold vn;refine qni λi _=> ?_
 show ip L (mv L (tp Q) (V i)) (mv L (tp Q) (V i))=_
 rw[ip_mv];refine qqj (λ_ _=>rfl) λk hk=> ?_
 have:mv L (tp (tp Q)) (mv L (tp Q) (V i)) k=mv L (mm L Q (tp Q)) (V i) k:=mv_mm.symm;rw[this];exact qst hn hQ.row hk
inductive JR (L:List α):(α->α->Rat)->(α->α->Rat)->Prop
 |refl (A:α->α->Rat):JR L A A
 |step {A B Q:α->α->Rat}:JR L A B->Orth L Q->JR L A (cj L Q B)
def JR.inv {L:List α} (hn:L.Nodup) {A B:α->α->Rat} (h:JR L A B) (hs: ∀i∈L,∀j∈L,A i j=A j i) {V:α->α->Rat} {b:α->Rat} (hd:Dg L A V b):
 (∀i∈L,∀j∈L,B i j=B j i)/\(∀k,tr L B k=tr L A k)/\ ∃W,Dg L B W b/\vn L W=vn L V:=by
 induction h with
 |refl=>exact⟨hs,λ_=>rfl,V,hd,rfl⟩
 |step h1 hQ ih=>
  have⟨i1,i2,W,i3,i4⟩:=ih;exact⟨qr0 i1,λk=>(tr_cj hn hQ k).trans (i2 k),_,Dg_cj hn hQ i3,(quj hn hQ).trans i4⟩
def rot (p q:α) (c s:Rat) (i j:α):Rat:=
 if i=p then(if j=p then c else if j=q then s else 0)else if i=q then(if j=p then-s else if j=q then c else 0)else if i=j then 1 else 0
section
variable {L R:List α} {p q:α} {c s:Rat}
def qpw (hn:(p::q::R).Nodup) (X:α->Rat) {j:α} (hj:j∈p::q::R):
 sm (p::q::R) (λl=>X l*rot p q c s l j)=if j=p then X p*c-X q*s else if j=q then X p*s+X q*c else X j:=by
 rw[zZ,zZ]at hn;have⟨hn1,hn2,hn3⟩:=hn;have hpq:q≠p:=λe=>hn1 (e▸mS)
 have hnp: ∀l∈R,l≠p:=λl hl e=>hn1 (mT (e▸hl))
 have hnq: ∀l∈R,l≠q:=λl hl e=>hn2 (e▸hl)
 rw[qnj,qnj];by_cases cp:j=p
 . subst cp;rw[iP rfl,qnl (λl hl=>by unfold rot;rw[iN' (hnp l hl),iN' (hnq l hl),iN' (hnp l hl)];grind)]
   unfold rot;rw[iP rfl,iP rfl,iN' hpq,iP rfl,iP rfl];grind
 . by_cases cq:j=q
   . subst cq;rw[iN' cp,iP rfl,qnl (λl hl=>by unfold rot;rw[iN' (hnp l hl),iN' (hnq l hl),iN' (hnq l hl)];grind)]
     unfold rot;rw[iP rfl,iN' cp,iP rfl,iN' cp,iP rfl,iN' cp,iP rfl];grind
   . have hjR:=((mC hj).resolve_left cp|>mC).resolve_left cq
     rw[iN' cp,iN' cq];have e1:rot p q c s p j=0:=by unfold rot;rw[iP rfl,iN' cp,iN' cq]
     have e2:rot p q c s q j=0:=by unfold rot;rw[iN' hpq,iP rfl,iN' cp,iN' cq]
     rw[e1,e2,qni (g:=λl=>X l*(if l=j then 1 else 0)) λl hl=>by unfold rot;rw[iN' (hnp l hl),iN' (hnq l hl)],qom hn3 hjR]
     grind
def qug (hpq:q≠p):tp (rot p q c s)=rot p q c (-s):=by
 funext i j
 unfold tp rot;by_cases h1:i=p<;>by_cases h2:j=p<;>by_cases h3:i=q<;>by_cases h4:j=q<;>by_cases h5:i=j<;>simp_all<;>grind
def qqb (hn:(p::q::R).Nodup) (h1:c*c+s*s=1):Orth (p::q::R) (rot p q c s):=by
 have hpq:q≠p:=by
  rw[zZ]at hn;exact λe=>hn.1 (e▸mS)
 have key: ∀(c s:Rat),c*c+s*s=1-> ∀i∈p::q::R,∀j∈p::q::R,mm (p::q::R) (tp (rot p q c s)) (rot p q c s) i j=if i=j then 1 else 0:=by
  intro c s h1 i hi j hj;unfold mm;rw[qpw hn (λk=>tp (rot p q c s) i k) hj]
  unfold tp rot;by_cases g1:i=p<;>by_cases g2:j=p<;>by_cases g3:i=q<;>by_cases g4:j=q<;>by_cases g5:i=j<;>simp_all<;>grind
 refine⟨key c s h1,λi hi j hj=> ?_⟩
 have e:=key c (-s) gR i hi j hj
 rw[<-qug hpq]at e;exact e
end
def frob (L:List α) (A:α->α->Rat):Rat:=sm L (λi=>sm L (λj=>A i j*A i j))
def dsq (L:List α) (A:α->α->Rat):Rat:=sm L (λi=>A i i*A i i)
def off (L:List α) (A:α->α->Rat):Rat:=sm L (λi=>sm L (λj=>if i=j then 0 else A i j*A i j))
def qsk {L:List α} (hn:L.Nodup) {A:α->α->Rat}:frob L A=dsq L A+off L A:=by
 unfold frob dsq off;rw[<-qoa];refine qni λi hi=> ?_
 have:sm L (λj=>A i j*A i j)=sm L (λj=>(if i=j then 1 else 0)*(A i j*A i j)+(if i=j then 0 else A i j*A i j)):=qni λj _=>by split<;>grind
 rw[this,qoa,qnx hn hi]
def qpb {L:List α} (hn:L.Nodup) {A:α->α->Rat} (hs: ∀i∈L,∀j∈L,A i j=A j i):frob L A=tr L A 2:=by
 unfold frob tr;refine qni λi hi=> ?_
 rw[qo6];refine qni λl hl=> ?_
 rw[qo6,qni (g:=λm=>A l m*(if m=i then 1 else 0)) λm _=>by rw[qo2],qom hn hi,hs l hl i hi]
def qsb {L:List α} (hn:L.Nodup) {p q:α} (hp:p∈L) (hq:q∈L) (hpq:p≠q): ∃R,L.Perm (p::q::R):=by
 have h1:=zd3 hp;have h2:=(List.mem_erase_of_ne (λe=>hpq e.symm)).2 hq
 exact⟨_,h1.trans (List.Perm.cons _ (zd3 h2))⟩
def qpz {L M:List α} (h:L.Perm M) {A B:α->α->Rat}:mm L A B=mm M A B:=by funext i j;exact qo7 h
def Orth.perm {L M:List α} (h:L.Perm M) {Q:α->α->Rat} (hQ:Orth L Q):Orth M Q:=
 ⟨λi hi j hj=>by rw[<-qpz h];exact hQ.col i (h.mem_iff.2 hi) j (h.mem_iff.2 hj),λi hi j hj=>by rw[<-qpz h];exact hQ.row i (h.mem_iff.2 hi) j (h.mem_iff.2 hj)⟩
def qsh {L R:List α} {p q:α} (hn:L.Nodup) (hP:L.Perm (p::q::R)) {A:α->α->Rat} {c s:Rat} (hs: ∀i∈L,∀j∈L,A i j=A j i) (h1:c*c+s*s=1):
 off L (cj L (rot p q c s) A)=off L A-2*(A p q*A p q)+2*((c*s*(A p p-A q q)+(c*c-s*s)*A p q)*(c*s*(A p p-A q q)+(c*c-s*s)*A p q)):=by
 have hn':=hP.nodup_iff.1 hn;have hQ:=(qqb hn' h1).perm hP.symm;have f1:=qpb hn (qr0 (Q:=rot p q c s) hs);have f2:=qpb hn hs;rw[tr_cj hn hQ,<-f2,qsk hn,qsk hn]at f1;have hpL:=hP.mem_iff.2 mS;have hqL:=hP.mem_iff.2 (mT mS)
 have hpq:q≠p:=by
  rw[zZ]at hn';exact λe=>hn'.1 (e▸mS)
 have ent: ∀j∈p::q::R,∀i∈p::q::R,cj L (rot p q c s) A i j=if i=p then(mm L A (rot p q c s) p j)*c-(mm L A (rot p q c s) q j)*s else if i=q then(mm L A (rot p q c s) p j)*s+(mm L A (rot p q c s) q j)*c else mm L A (rot p q c s) i j:=by
  intro j hj i hi
  have:cj L (rot p q c s) A i j=sm (p::q::R) (λl=>mm L A (rot p q c s) l j*rot p q c s l i):=by
   rw[<-qo7 hP];exact qni λl _=>zd2 _ _
  rw[this,qpw hn' _ hi]
 have ent2: ∀k,∀j∈p::q::R,mm L A (rot p q c s) k j=if j=p then A k p*c-A k q*s else if j=q then A k p*s+A k q*c else A k j:=by
  intro k j hj;rw[qpz hP];exact qpw hn' (λl=>A k l) hj
 have hp':p∈p::q::R:=mS;have hq':q∈p::q::R:=mT mS
 have d1:dsq L (cj L (rot p q c s) A)=(c*c*A p p-2*(c*s*A p q)+s*s*A q q)*(c*c*A p p-2*(c*s*A p q)+s*s*A q q)+((s*s*A p p+2*(c*s*A p q)+c*c*A q q)*(s*s*A p p+2*(c*s*A p q)+c*c*A q q)+sm R (λi=>A i i*A i i)):=by
  unfold dsq;rw[qo7 hP,qnj,qnj,ent p hp' p hp',ent q hq' q hq',iP rfl,iN' hpq,iP rfl,ent2 p p hp',ent2 q p hp',ent2 p q hq',ent2 q q hq',iP rfl,iP rfl,iN' hpq,iP rfl,iN' hpq,iP rfl,hs q hqL p hpL]
  have e:sm R (λi=>cj L (rot p q c s) A i i*cj L (rot p q c s) A i i)=sm R (λi=>A i i*A i i):=by
   refine qni λi hi=> ?_
   rw[zZ,zZ]at hn';have h2:i≠p:=λe=>hn'.1 (mT (e▸hi))
   have h3:i≠q:=λe=>hn'.2.1 (e▸hi)
   have hi':i∈p::q::R:=mT (mT hi);rw[ent i hi' i hi',iN' h2,iN' h3,ent2 i i hi',iN' h2,iN' h3]
  rw[e];generalize A p p=x;generalize A p q=y;generalize A q q=z
  grind
 have d2:dsq L A=A p p*A p p+(A q q*A q q+sm R (λi=>A i i*A i i)):=by
  unfold dsq;rw[qo7 hP,qnj,qnj]
 rw[d1,d2]at f1;clear d1 d2 ent ent2 f2;generalize off L (cj L (rot p q c s) A)=o1 at*;generalize off L A=o2 at*;generalize sm R (λi=>A i i*A i i)=t at*
 generalize A p p=x at*;generalize A p q=y at*;generalize A q q=z at*
 have hc:c*c=1-s*s:=by grind
 have id:(c*c*x-2*(c*s*y)+s*s*z)*(c*c*x-2*(c*s*y)+s*s*z)+(s*s*x+2*(c*s*y)+c*c*z)*(s*s*x+2*(c*s*y)+c*c*z)+2*((c*s*(x-z)+(c*c-s*s)*y)*(c*s*(x-z)+(c*c-s*s)*y))=x*x+z*z+2*(y*y):=by
  have e:(c*c*x-2*(c*s*y)+s*s*z)*(c*c*x-2*(c*s*y)+s*s*z)+(s*s*x+2*(c*s*y)+c*c*z)*(s*s*x+2*(c*s*y)+c*c*z)+2*((c*s*(x-z)+(c*c-s*s)*y)*(c*s*(x-z)+(c*c-s*s)*y))=(c*c+s*s)*(c*c+s*s)*(x*x+z*z+2*(y*y)):=by grind
  rw[e,h1];grind
 grind
variable {α:Type} [DecidableEq α]
def arch (x:Rat): ∃N:Nat,0<N/\x<=(N:Rat):=by
 refine⟨(x.floor+1).toNat+1,O,?_⟩;have h1:=Rat.lt_floor_add_one x
 have h2:((x.floor+1:Int):Rat)<=(((x.floor+1).toNat+1:Nat):Rat):=by
  have h3:(x.floor+1:Int)<=(((x.floor+1).toNat+1:Nat):Int):=O;have:=Rat.intCast_le_intCast.2 h3
  rwa [Rat.intCast_natCast]at this
 grind
def disc {P:Nat->Prop}: ∀{N:Nat},P 0-> ¬P N-> ∃k,k<N/\P k/\ ¬P (k+1)
 |0,h0,h1=>absurd h0 h1
 |N+1,h0,h1=>by
  by_cases c:P N
  . exact⟨N,O,c,h1⟩
  . have⟨k,hk,h⟩:=disc h0 c;exact⟨k,O,h⟩
def gg (b d u:Rat):Rat:=2*u*(1-u*u)*d+((1-u*u)*(1-u*u)-4*(u*u))*b
def qtj {b d D u v:Rat} (hb:0<b) (h1: -D<=d) (h2:d<=D) (hu:0<=u) (huv:u<=v) (hv:v<=1):gg b d u-gg b d v<=(v-u)*(12*b+8*D):=by
 have e:gg b d u-gg b d v=(v-u)*(6*b*(u+v)-b*(u+v)*(u*u+v*v)-2*d+2*d*(u*u+u*v+v*v)):=by
  unfold gg;grind
 rw[e];refine zi1 ?_ gR
 have w0:0<=u*u+u*v+v*v:=by
  have:=zA hu hu;have:=zA hu (show 0<=v by grind);have:=sq_nonneg v;grind
 have w1:u*u+u*v+v*v<=3:=by
  have a1:=zA (show 0<=1-u by grind) (show 0<=1+u by grind)
  have a2:=zA (show 0<=1-v by grind) (show 0<=1+v by grind)
  have a3:=zA (show 0<=1-u by grind) (show 0<=v by grind)
  grind
 have t1:=zA (show 0<=b by grind) (show 0<=2-(u+v) by grind)
 have t2:0<=b*(u+v)*(u*u+v*v):=zA (zA (by grind) (by grind)) (by have:=sq_nonneg u;have:=sq_nonneg v;grind)
 have t3:=zA (show 0<=D-d by grind) w0
 have t4:=zA (show 0<=D by grind) (show 0<=3-(u*u+u*v+v*v) by grind)
 generalize u*u+u*v+v*v=w at*
 have t5:d*w<=3*D:=by grind
 generalize b*(u+v)*(u*u+v*v)=z at*
 grind
def qpl {b d:Rat} (hb:0<b): ∃c s:Rat,c*c+s*s=1/\4*((c*s*d+(c*c-s*s)*b)*(c*s*d+(c*c-s*s)*b))<=b*b:=by
 have hD: -(d*d+1)<=d/\d<=d*d+1:=by
  have h1:=sq_nonneg (d-1/2);have h2:=sq_nonneg (d+1/2);constructor<;>grind
 have⟨N,hN,hNb⟩:=arch (2*(12*b+8*(d*d+1))/b);have hN0:=Rat.natCast_pos.2 hN
 obtain⟨k,hk,p1,p2⟩:=disc (P:=λk=>0<gg b d ((k:Rat)/(N:Rat))) (N:=N) (by
  show 0<gg b d (((0:Nat):Rat)/(N:Rat))
  have:((0:Nat):Rat)/(N:Rat)=0:=by grind
  rw[this];unfold gg;grind) (by
  show¬0<gg b d (((N:Nat):Rat)/(N:Rat))
  have:((N:Nat):Rat)/(N:Rat)=1:=by grind
  rw[this];unfold gg;grind)
 have hk0:(0:Rat)<=(k:Rat):=zk2;have hkN:((k+1:Nat):Rat)<=(N:Rat):=z02.2 hk;have hk1:((k+1:Nat):Rat)=(k:Rat)+1:=zt2 _ _;rw[hk1]at p2 hkN;have i0:0<(1:Rat)/(N:Rat):=by rw[zG2,zX4];exact zc3.2 hN0
 have q1:(0:Rat)<=(k:Rat)/(N:Rat):=by
  have:(k:Rat)/(N:Rat)=(k:Rat)*(1/(N:Rat)):=by grind
  rw[this];exact zA hk0 gR
 have q2:((k:Rat)+1)/(N:Rat)-(k:Rat)/(N:Rat)=1/(N:Rat):=by grind
 have q3:((k:Rat)+1)/(N:Rat)<=1:=by
  have e:1-((k:Rat)+1)/(N:Rat)=((N:Rat)-((k:Rat)+1))*(1/(N:Rat)):=by grind
  have:=zA (show 0<=(N:Rat)-((k:Rat)+1) by grind) (show 0<=1/(N:Rat) by grind)
  grind
 have hnear:=qtj hb hD.1 hD.2 q1 (show(k:Rat)/(N:Rat)<=((k:Rat)+1)/(N:Rat) by grind) q3
 rw[q2]at hnear
 have hb2:1/(N:Rat)*(12*b+8*(d*d+1))<=b/2:=by
  have e1:2*(12*b+8*(d*d+1))=2*(12*b+8*(d*d+1))/b*b:=by grind
  have e2:=zf1 hNb (show 0<=b by grind)
  rw[<-e1]at e2;have e3:=zi1 e2 (show 0<=1/(N:Rat) by grind)
  have e4:1/(N:Rat)*((N:Rat)*b)=b:=by grind
  rw[e4]at e3;generalize 12*b+8*(d*d+1)=K at*
  grind
 generalize hu:(k:Rat)/(N:Rat)=u at*
 have gle:gg b d u<=b/2:=by
  have:=p2
  grind
 have hp:0<1+u*u:=by have:=sq_nonneg u;grind
 refine⟨(1-u*u)/(1+u*u),2*u/(1+u*u),?_,?_⟩
 . grind
 . have e:(1-u*u)/(1+u*u)*(2*u/(1+u*u))*d+((1-u*u)/(1+u*u)*((1-u*u)/(1+u*u))-2*u/(1+u*u)*(2*u/(1+u*u)))*b=gg b d u*(1/(1+u*u)*(1/(1+u*u))):=by
    unfold gg;grind
   rw[e];have i1:0<1/(1+u*u):=by rw[zG2,zX4];exact zc3.2 hp
   have i2:1/(1+u*u)<=1:=by
    have h3:1/(1+u*u)*(1+u*u)=1:=by grind
    have h4:=zA (show 0<=1/(1+u*u) by grind) (sq_nonneg u)
    grind
   generalize 1/(1+u*u)=r at*
   have r2:r*r<=1:=by
    have:=zA (show 0<=1-r by grind) (show 0<=1+r by grind);grind
   have r0:=sq_nonneg r;generalize r*r=t at*;have g0:=p1;generalize gg b d u=g at*
   have m1:g*t<=b/2:=by
    have:=zA (show 0<=g by grind) (show 0<=1-t by grind);grind
   have m0:0<=g*t:=zA (by grind) r0
   generalize g*t=z at*
   have:=zA (show 0<=b/2-z by grind) (show 0<=b/2+z by grind)
   grind
def angle {b d:Rat} (hb:b≠0): ∃c s:Rat,c*c+s*s=1/\4*((c*s*d+(c*c-s*s)*b)*(c*s*d+(c*c-s*s)*b))<=b*b:=by
 by_cases h:0<b
 . exact qpl h
 . have⟨c,s,h1,h2⟩:=qpl (b:= -b) (d:= -d) gR
   refine⟨c,s,h1,?_⟩;have e1:c*s* -d+(c*c-s*s)* -b= -(c*s*d+(c*c-s*s)*b):=by grind
   rw[e1]at h2;generalize c*s*d+(c*c-s*s)*b=z at*
   grind
def qsj {L:List α} {f:α->Rat} (h:L≠[]): ∃i∈L,sm L f<=(L.length:Rat)*f i:=by
 induction L with
 |nil=>exact absurd rfl h
 |cons i L ih=>
  by_cases c:L=[]
  . subst c;refine⟨i,mS,?_⟩;rw[qnj,sm_nil];show _<=((1:Nat):Rat)*f i
    grind
  . obtain⟨j,hj,h1⟩:=ih c;have h0:(0:Rat)<=(L.length:Rat):=zk2;have hl:(((i::L).length:Nat):Rat)=(L.length:Rat)+1:=by rw[zD1];exact zt2 _ _
    rw[hl];by_cases c2:f i<=f j
    . exact⟨j,mT hj,by rw[qnj];grind⟩
    . refine⟨i,mS,?_⟩;rw[qnj];have:=zA h0 (show 0<=f i-f j by grind)
      grind
def qta {L:List α} {A:α->α->Rat} (h:0<off L A): ∃p∈L,∃q∈L,p≠q/\off L A<=(L.length:Rat)*(L.length:Rat)*(A p q*A p q):=by
 have hL:L≠[]:=by rintro rfl;exact absurd h (by unfold off;rw[sm_nil];grind)
 have h0:(0:Rat)<=(L.length:Rat):=zk2;obtain⟨p,hp,h1⟩:=qsj (f:=λi=>sm L (λj=>if i=j then 0 else A i j*A i j)) hL
 obtain⟨q,hq,h2⟩:=qsj (f:=λj=>if p=j then 0 else A p j*A p j) hL
 have h3:=zi1 h2 h0;have h4:off L A<=(L.length:Rat)*((L.length:Rat)*(if p=q then 0 else A p q*A p q)):=zR1 h1 h3
 by_cases c:p=q
 . rw[iP c]at h4;grind
 . rw[iN' c]at h4;exact⟨p,hp,q,hq,c,by grind⟩
def qu6 {L:List α} (hn:L.Nodup) {A:α->α->Rat} (hs: ∀i∈L,∀j∈L,A i j=A j i) {e:Rat} (he:0<e): ∃B,JR L A B/\off L B<=e:=by
 have⟨M,hM,hM1⟩:=arch ((L.length:Rat)*(L.length:Rat));have hM0:=Rat.natCast_pos.2 hM
 let t:Rat:=e/(M:Rat)
 have ht:0<t:=by
  show 0<e/(M:Rat)
  rw[zG2];exact zq2 he (zc3.2 hM0)
 have htM:t*(M:Rat)=e:=by show e/(M:Rat)*(M:Rat)=e;grind
 have main: ∀(N:Nat) (B:α->α->Rat),JR L A B->(∀i∈L,∀j∈L,B i j=B j i)->off L B<=(N:Rat)*t-> ∃B,JR L A B/\off L B<=e:=by
  intro N;induction N with
  |zero=>intro B h1 _ h2;exact⟨B,h1,by grind⟩
  |succ N ih=>
   intro B h1 hsB h2;by_cases c:off L B<=e
   . exact⟨B,h1,c⟩
   . have⟨p,hp,q,hq,hpq,h3⟩:=qta (L:=L) (A:=B) gR
     have hb:t<=B p q*B p q:=by
      have s1:=sq_nonneg (B p q);have s2:=zf1 hM1 s1;generalize B p q*B p q=y at*;have s3:t*(M:Rat)<=(M:Rat)*y:=by grind
      have s4:(M:Rat)*t<=(M:Rat)*y:=by grind
      exact Rat.le_of_mul_le_mul_left s4 hM0
     have hb0:B p q≠0:=by intro h;rw[h]at hb;grind
     obtain⟨cc,ss,a1,a2⟩:=angle (b:=B p q) (d:=B p p-B q q) hb0;obtain⟨R,hP⟩:=qsb hn hp hq hpq;have hQ:Orth L (rot p q cc ss):=(qqb (hP.nodup_iff.1 hn) a1).perm hP.symm;refine ih _ (JR.step h1 hQ) (qr0 hsB) ?_;rw[qsh hn hP hsB a1];have:((N+1:Nat):Rat)=(N:Rat)+1:=zt2 _ _;rw[this]at h2;generalize (cc*ss*(B p p-B q q)+(cc*cc-ss*ss)*B p q)*(cc*ss*(B p p-B q q)+(cc*cc-ss*ss)*B p q)=z at*;generalize B p q*B p q=y at*
     grind
 have⟨N,_,hN⟩:=arch (off L A/t);refine main N A (JR.refl A) hs ?_;have:=zf1 hN (show 0<=t by grind)
 have e1:off L A/t*t=off L A:=by grind
 rwa [e1]at this
def sgq (x:Rat):Int:=if x<0 then-1 else if x=0 then 0 else 1
def vs:Int->List Rat->Nat
 |_,[]=>0
 |s,x::l=>(if sgq x*s<0 then 1 else 0)+vs (if sgq x=0 then s else sgq x) l
def qsz {x:Rat}:sgq (-x)= -sgq x:=by
 unfold sgq;by_cases h1:x<0
 . rw[iP h1,iN' gR,iN' gR];rfl
 . by_cases h2:x=0
   . subst h2;decide
   . rw[iN' h1,iN' h2,iP gR]
def qnz (x:Rat):(sgq x= -1/\x<0)\/(sgq x=0/\x=0)\/(sgq x=1/\0<x):=by
 unfold sgq;by_cases h1:x<0
 . rw[iP h1];exact .inl ⟨rfl,h1⟩
 . by_cases h2:x=0
   . rw[iN' h1,iP h2];exact .inr (.inl ⟨rfl,h2⟩)
   . rw[iN' h1,iN' h2];exact .inr (.inr ⟨rfl,by grind⟩)
inductive Alt:Int->List Rat->Nat->Prop
 |nil (s:Int) (l:List Rat):Alt s l 0
 |skip {s:Int} {x:Rat} {l:List Rat} {v:Nat}:Alt s l v->Alt s (x::l) v
 |take {s:Int} {x:Rat} {l:List Rat} {v:Nat}:sgq x*s<0->Alt (sgq x) l v->Alt s (x::l) (v+1)
def Alt.drop {s t:Int} {l:List Rat} {v:Nat} (hs:s=1\/s= -1) (h:Alt s l (v+1)) (ht:t= -s):Alt t l v:=by
 generalize hw:v+1=w at h
 induction h with
 |nil=>omega
 |skip _ ih=>exact .skip (ih hs ht hw)
 | @take s x l u h1 h2 ih=>
   have:u=v:=O;subst this
   have e:sgq x= -s:=by
    rcases qnz x with⟨h,_⟩|⟨h,_⟩|⟨h,_⟩<;>rw[h]at h1⊢ <;>rcases hs with rfl|rfl<;>omega
   subst ht;rw[e]at h2;exact .skip h2
def Alt.le_vs {s:Int} {l:List Rat} {v:Nat} (hs:s=1\/s= -1) (h:Alt s l v):v<=vs s l:=by
 induction l generalizing s v with
 |nil=>cases h;exact zL2 _
 |cons x l ih=>
  rw[vs];cases h with
  |nil=>exact zL2 _
  |skip h=>
   rcases qnz x with⟨e,_⟩|⟨e,_⟩|⟨e,_⟩
   . rw[e,iN' (show¬-1=0 by decide)]
     rcases hs with rfl|rfl
     . rw[iP dC]
       cases v with
       |zero=>exact zL2 _
       |succ v=>have:=ih (s:= -1) (.inr rfl) (h.drop (.inl rfl) rfl);omega
     . have:=ih (.inr rfl) h;omega
   . rw[e,iP rfl];have:=ih hs h;omega
   . rw[e,iN' (show¬(1:Int)=0 by decide)]
     rcases hs with rfl|rfl
     . have:=ih (.inl rfl) h;omega
     . rw[iP dC]
       cases v with
       |zero=>exact zL2 _
       |succ v=>have:=ih (s:=1) (.inl rfl) (h.drop (.inr rfl) dC);omega
  | @take _ _ _ u h1 h2=>
    rw[iP h1];have hne: ¬sgq x=0:=by intro e;rw[e]at h1;omega
    rw[iN' hne]
    have:sgq x=1\/sgq x= -1:=by
     rcases qnz x with⟨h,_⟩|⟨h,_⟩|⟨h,_⟩
     . exact .inr h
     . exact absurd h hne
     . exact .inl h
    have:=ih this h2;omega
def alt:Int->List Rat->List Rat
 |_,[]=>[]
 |e,x::l=>(if e=1 then x else-x)::alt (-e) l
def qud {l:List Rat}: ∀{s t e:Int} {u:Nat},(s=1\/s= -1)->(e=1\/e= -1)->(t=(if u%2=0 then-(e*s)else e*s))->vs s l+vs t (alt e l)<=u+l.length:=by
 induction l with
 |nil=>intro s t e u _ _ _;exact zL2 _
 |cons x l ih=>
  intro s t e u hs he ht;rw[alt,vs,vs,zD1]
  have hx:sgq (if e=1 then x else-x)=e*sgq x:=by
   rcases he with rfl|rfl
   . rw[iP rfl];omega
   . rw[iN' dC,qsz];omega
  rw[hx];rcases qnz x with⟨c,_⟩|⟨c,_⟩|⟨c,_⟩
  . rw[c];have h0:=ih (s:= -1) (t:=e* -1) (e:= -e) (u:=0) (.inr rfl) (by rcases he with rfl|rfl<;>simp) (by rcases he with rfl|rfl<;>simp)
    have h1: ¬(e* -1=0):=by rcases he with rfl|rfl<;>decide
    rw[iN' (show¬-1=0 by decide),iN' h1]
    subst ht;rcases zB2 u with hu|hu<;>rcases hs with rfl|rfl<;>rcases he with rfl|rfl<;>simp[hu]at h0⊢ <;>omega
  . rw[c]
    have h0:=ih (s:=s) (t:=t) (e:= -e) (u:=u+1) hs (by rcases he with rfl|rfl<;>simp) (by
     rw[ht];rcases zB2 u with hu|hu
     . rw[iP hu,iN' O,zH3]
     . rw[iN' O,iP O,zH3,Int.neg_neg])
    have h1:e*0=0:=zw3 _;rw[iP rfl,iP h1,h1,za2,za2];have h2: ¬(0:Int)<0:=by decide
    simp only[h2,if_false];omega
  . rw[c];have h0:=ih (s:=1) (t:=e*1) (e:= -e) (u:=0) (.inl rfl) (by rcases he with rfl|rfl<;>simp) (by rcases he with rfl|rfl<;>simp)
    have h1: ¬(e*1=0):=by rcases he with rfl|rfl<;>decide
    rw[iN' (show¬(1:Int)=0 by decide),iN' h1]
    subst ht;rcases zB2 u with hu|hu<;>rcases hs with rfl|rfl<;>rcases he with rfl|rfl<;>simp[hu]at h0⊢ <;>omega
def ec (d:Rat) (f:Nat->Rat):Nat->Rat
 |0=>f 0
 |k+1=>f (k+1)-d*f k
def EE:List Rat->(Nat->Rat)->Nat->Rat
 |[],f=>f
 |d::l,f=>ec d (EE l f)
def qtl {d:Rat} {f:Nat->Rat}:(λi=>ec d f (i+1))=λi=>(λi=>f (i+1)) i+(-d)*f i:=by
 funext i;show f (i+1)-d*f i=_;grind
def cv_ec {d:Rat} {f s:Nat->Rat} {k:Nat}:cv (ec d f) s (k+1)=cv f s (k+1)-d*cv f s k:=by
 rw[qoj,qnk,qtl,qnw,qnt,qoj (f:=s) (k:=k+1),qnk,qoj (f:=s) (k:=k)];show f 0*s (k+1)+_=_
 grind
def pd (d:Rat):Nat->Rat
 |0=>0
 |k+1=>d^(k+1)
def qt0 {d:Rat}:(λi=>pd d (i+1))=λi=>d*(pd d i+dl0 i):=by
 funext i
 cases i with
 |zero=>show d^(0+1)=d*(0+1);grind
 |succ i=>show d^(i+1+1)=d*(d^(i+1)+0);grind
def cv_pd {d:Rat} {f:Nat->Rat} {k:Nat}:cv (ec d f) (pd d) (k+1)=d*f k:=by
 have h:cv f (pd d) (k+1)=d*(cv f (pd d) k+f k):=by
  rw[qnk,qt0,qnt,qnw,qr1];show 0*f (k+1)+_=_
  grind
 rw[cv_ec,h];grind
def NW_ec {s f:Nat->Rat} {d:Rat} (h:NW s f):NW (λk=>s k+pd d k) (ec d f):=by
 refine⟨h.1,λk=> ?_⟩
 have e:(λk=>s k+pd d k)=λk=>s k+pd d k:=rfl
 rw[qnw];cases k with
 |zero=>
  have:=h.2 0;rw[qnn]at this⊢;rw[qnn];show((0:Nat):Rat)*f 0+(s 0*f 0+0*f 0)=0
  grind
 |succ k=>
  rw[cv_ec,cv_pd];have h1:=h.2 (k+1);have h2:=h.2 k;show((k+1:Nat):Rat)*(f (k+1)-d*f k)+_=0;have:((k+1:Nat):Rat)=(k:Rat)+1:=zt2 _ _;rw[this]at h1⊢;generalize cv f s (k+1)=x at*;generalize cv f s k=y at*
  grind
def qsn {l m:List Rat} {f:Nat->Rat}:EE (l++m) f=EE l (EE m f):=by
 induction l with
 |nil=>rfl
 |cons d l ih=>rw[zm1,EE,EE,ih]
def qsw {d e:Rat} {f:Nat->Rat}:ec d (ec e f)=ec e (ec d f):=by
 funext k
 match k with
 |0=>rfl
 |1=>show(f 1-e*f 0)-d*f 0=(f 1-d*f 0)-e*f 0;grind
 |k+2=>show(f (k+2)-e*f (k+1))-d*(f (k+1)-e*f k)=(f (k+2)-d*f (k+1))-e*(f (k+1)-d*f k);grind
def qre {l m:List Rat} (h:l.Perm m) {f:Nat->Rat}:EE l f=EE m f:=by
 induction h with
 |nil=>rfl
 |cons x _ ih=>rw[EE,EE,ih]
 |swap x y l=>rw[EE,EE,EE,EE,qsw]
 |trans _ _ h1 h2=>exact h1.trans h2
def EE_NW: ∀l:List Rat,NW (λk=>sm l (λd=>pd d k)) (EE l dl0):=by
 intro l;induction l with
 |nil=>
  refine⟨rfl,λk=> ?_⟩
  have:(λk=>sm ([]:List Rat) (λd=>pd d k))=λ_=>0:=by funext k;rfl
  rw[this,qon];show(k:Rat)*dl0 k+0=0;unfold dl0;by_cases c:k=0
  . subst c;rw[iP rfl];grind
  . rw[iN' c];grind
 |cons d l ih=>
  have h:=NW_ec (d:=d) ih
  have e:(λk=>sm (d::l) (λd=>pd d k))=λk=>sm l (λd=>pd d k)+pd d k:=by
   funext k;rw[qnj];grind
  rw[e];exact h
def qr6 {l:List Rat} {f:Nat->Rat}:EE l f 0=f 0:=by
 induction l with
 |nil=>rfl
 |cons d l ih=>exact ih
def qpu {l:List Rat} {f:Nat->Rat} {M:Nat} (h: ∀k,M<k->f k=0): ∀k,M+l.length<k->EE l f k=0:=by
 induction l with
 |nil=>intro k hk;exact h k (by simpa using hk)
 |cons d l ih=>
  intro k hk;rw[zD1]at hk
  match k,hk with
  |k+1,hk=>
   show EE l f (k+1)-d*EE l f k=0
   rw[ih _ O,ih _ O];grind
def quc {l:List Rat} {dd:Rat} (hd:0<dd) (h: ∀x∈l,dd<=x\/x<= -dd):dd^l.length<=EE l dl0 l.length\/EE l dl0 l.length<= -dd^l.length:=by
 induction l with
 |nil=>left;show dd^0<=1;grind
 |cons x l ih=>
  have h0:EE l dl0 (l.length+1)=0:=qpu (M:=0) (λk hk=>by unfold dl0;rw[iN' O]) _ O
  rw[zD1];show dd^(l.length+1)<=EE l dl0 (l.length+1)-x*EE l dl0 l.length\/_;have h1:=ih λy hy=>h y (mT hy)
  have h2:=h x mS;have hp:0<dd^l.length:=zu3 hd
  have e:EE (x::l) dl0 (l.length+1)= -(x*EE l dl0 l.length):=by
   show EE l dl0 (l.length+1)-x*EE l dl0 l.length=_;rw[h0];grind
  rw[e,h0,zp2];generalize EE l dl0 l.length=z at*;generalize dd^l.length=w at*;rcases h1 with h1|h1<;>rcases h2 with h2|h2
  . right;have:=zA (show 0<=z-w by grind) (show 0<=x by grind);have:=zA (show 0<=x-dd by grind) (show 0<=w by grind);grind
  . left;have:=zA (show 0<=z-w by grind) (show 0<= -x by grind);have:=zA (show 0<= -x-dd by grind) (show 0<=w by grind);grind
  . left;have:=zA (show 0<= -z-w by grind) (show 0<=x by grind);have:=zA (show 0<=x-dd by grind) (show 0<=w by grind);grind
  . right;have:=zA (show 0<= -z-w by grind) (show 0<= -x by grind);have:=zA (show 0<= -x-dd by grind) (show 0<=w by grind);grind
def sn (k:Nat):Rat:=if k%2=0 then 1 else-1
def qpq {k:Nat}:sn (k+1)= -sn k:=by
 unfold sn;rcases zB2 k with h|h
 . rw[iN' O,iP h]
 . rw[iP O,iN' O];grind
def quh {l:List Rat} {f g:Nat->Rat} (h: ∀k,g k=sn k*f k): ∀k,EE (l.map λx=> -x) g k=sn k*EE l f k:=by
 induction l with
 |nil=>exact h
 |cons d l ih=>
  intro k;cases k with
  |zero=>exact ih 0
  |succ k=>
   show EE (l.map λx=> -x) g (k+1)-(-d)*EE (l.map λx=> -x) g k=sn (k+1)*(EE l f (k+1)-d*EE l f k)
   rw[ih,ih,qpq];grind
def CH (f:Nat->Rat) (e:Rat):Nat->Nat->Prop
 |0,k=>k=0/\e<=f 0
 |v+1,k=>(∃j,j<k/\CH f e v j)/\e<=sn (v+1)*f k
def CH.val {f:Nat->Rat} {e:Rat}: ∀{v k:Nat},CH f e v k->e<=sn v*f k
 |0,k,h=>by obtain⟨rfl,h⟩:=h;show e<=1*f 0;grind
 |v+1,k,h=>h.2
def CH.mono {f:Nat->Rat} {e e':Rat} (he:e'<=e): ∀{v k:Nat},CH f e v k->CH f e' v k
 |0,k,h=>⟨h.1,by have:=h.2;grind⟩
 |v+1,k,h=>⟨by have⟨j,h1,h2⟩:=h.1;exact⟨j,h1,h2.mono he⟩,by have:=h.2;grind⟩
def GG (R:Rat):Nat->Rat
 |0=>0
 |n+1=>1+R*GG R n
def qoc {R:Rat} (hR:0<=R): ∀n,0<=GG R n
 |0=>by show(0:Rat)<=0;grind
 |n+1=>by
  have:=zA hR (qoc hR n);show 0<=1+R*GG R n;grind
def qu1 {R:Rat} (hR:1<=R) (n:Nat):GG R n<=GG R (n+1):=by
 show _<=1+R*GG R n
 have:=zA (show 0<=R-1 by grind) (qoc (by grind:0<=R) n)
 grind
def qtq {R:Rat} (hR:1<=R) {n m:Nat} (h:n<=m):GG R n<=GG R m:=by
 induction h with
 |refl=>exact zu1
 |step _ ih=>exact zR1 ih (qu1 hR _)
def tele {f:Nat->Rat} {d R th s:Rat} (hd:0<=d) (hdR:d<=R) (hth:0<=th) (j:Nat): ∀n,(∀i,j<i->i<=j+n->s*ec d f i<=th)->s*f (j+n)<=d^n*(s*f j)+th*GG R n
 |0,_=>by show s*f j<=d^0*(s*f j)+th*0;grind
 |n+1,h=>by
  have h1:=tele hd hdR hth j n λi hi hi2=>h i hi O
  have h2:=h (j+n+1) O O
  have h3:s*ec d f (j+n+1)=s*f (j+n+1)-d*(s*f (j+n)):=by
   show s*(f (j+n+1)-d*f (j+n))=_;grind
  rw[h3]at h2;have h4:=zi1 h1 hd;have h5:=zA (zA hth (qoc (by grind:0<=R) n)) (show 0<=R-d by grind)
  show s*f (j+n+1)<=d^(n+1)*(s*f j)+th*(1+R*GG R n)
  rw[zp2];generalize s*f (j+n+1)=x at*;generalize s*f (j+n)=y at*;generalize s*f j=z at*;generalize d^n=w at*;generalize GG R n=g at*
  grind
def KK (dl R:Rat) (N:Nat):Rat:=dl^(N+1)/(1+GG R (N+1))
def qot {x:Rat} (h0:0<=x) (h1:x<=1): ∀n:Nat,x^n<=1
 |0=>by grind
 |n+1=>by
  have:=qot h0 h1 n;have h2:0<=x^n:=zD3 h0;have:=zA (show 0<=1-x by grind) h2
  rw[zp2];grind
def qq6 (x:Rat) (n k:Nat):x^(n+k)=x^n*x^k:=by
 induction k with
 |zero=>rw[zM];grind
 |succ k ih=>rw[<-Nat.add_assoc,zp2,zp2,ih];grind
def qsi {x:Rat} (h0:0<=x) (h1:x<=1) {n m:Nat} (h:n<=m):x^m<=x^n:=by
 obtain⟨k,rfl⟩: ∃k,m=n+k:=⟨m-n,O⟩;rw[qq6];have h2:0<=x^n:=zD3 h0;have h3:=zA h2 (show 0<=1-x^k by have:=qot h0 h1 k;grind)
 grind
def qp9 {x y:Rat} (h0:0<=x) (h1:x<=y): ∀n:Nat,x^n<=y^n
 |0=>by grind
 |n+1=>by
  have h2:=qp9 h0 h1 n;have h3:0<=x^n:=zD3 h0;have:=zA (show 0<=y-x by grind) h3
  have:=zA (show 0<=y by grind) (show 0<=y^n-x^n by grind)
  rw[zp2,zp2];grind
def qrp {dl R:Rat} {N:Nat} (h0:0<dl) (hR:1<=R):0<KK dl R N:=by
 unfold KK;have:=qoc (by grind:0<=R) (N+1)
 rw[zG2];exact zq2 (zu3 h0) (zc3.2 gR)
def qtb {f:Nat->Rat} {e d dl R:Rat} {N M v k:Nat} (he:0<e) (h0:0<dl) (h1:dl<=1) (hR:1<=R) (hd1:dl<=d) (hd2:d<=R) (hM:M<=N) (hf: ∀i,M<i->f i=0)
 (hk:k<=M) (h:CH f e v k): ∃k',k'<=M+1/\CH (ec d f) (e*KK dl R N) (v+1) k':=by
 have hd0:0<=d:=by grind
 have hg:=qoc (by grind:0<=R) (N+1)
 have hpow:0<dl^(N+1):=zu3 h0;have hpow1:dl^(N+1)<=1:=qot (by grind) h1 _
 have hK:KK dl R N*(1+GG R (N+1))=dl^(N+1):=by unfold KK;grind
 have hKp:=qrp (N:=N) h0 hR;have ht0:0<e*KK dl R N:=zq2 he hKp
 have small: ∀n,n<=N+1->e*KK dl R N*GG R n<e*dl^(N+1):=by
  intro n hn;have a1:=zA (show 0<=e*KK dl R N by grind) (show 0<=GG R (N+1)-GG R n by have:=qtq hR hn;grind)
  have a2:e*(KK dl R N*(1+GG R (N+1)))=e*dl^(N+1):=by rw[hK]
  generalize GG R n=x at*
  generalize GG R (N+1)=y at*
  generalize KK dl R N=z at*
  grind
 have tl1:e*dl^(N+1)<=e:=by
  have:=zA (show 0<=e by grind) (show 0<=1-dl^(N+1) by grind);grind
 have hKe:e*KK dl R N<=e:=by
  have:=small 1 O;have e1:GG R 1=1:=by show 1+R*0=1;grind
  rw[e1]at this;grind
 have step: ∀(s:Rat) (j n:Nat),n<=N+1->e<=s*f (j+n)->s*f j<=0-> ∃i,j<i/\i<=j+n/\e*KK dl R N<=s*ec d f i:=by
  intro s j n hn g1 g2;refine zh2 λhc=> ?_
  have hall: ∀i,j<i->i<=j+n->s*ec d f i<=e*KK dl R N:=by
   intro i hi hi2;have: ¬(e*KK dl R N<=s*ec d f i):=λh=>hc ⟨i,hi,hi2,h⟩
   grind
  have t:=tele hd0 hd2 (by grind:0<=e*KK dl R N) j n hall
  have p0:0<=d^n:=zD3 hd0;have:=zA p0 (show 0<= -(s*f j) by grind)
  have:=small n hn;generalize e*KK dl R N*GG R n=x at*;generalize d^n=w at*;generalize s*f j=z at*
  grind
 have main: ∀v k,k<=M->CH f e v k-> ∃k',k'<=k/\CH (ec d f) (e*KK dl R N) v k':=by
  intro v;induction v with
  |zero=>intro k hk h;obtain⟨rfl,h⟩:=h;exact⟨0,zH _,rfl,by show _<=f 0;grind⟩
  |succ v ih=>
   intro k hk h;obtain⟨⟨j,hj,hc⟩,hv⟩:=h;obtain⟨j',hj',hc'⟩:=ih j O hc;have hval:=hc.val;obtain⟨i,i1,i2,i3⟩:=step (sn (v+1)) j (k-j) O (by rw[show j+(k-j)=k by omega];exact hv) (by rw[qpq];grind)
   exact⟨i,O,⟨j',O,hc'⟩,i3⟩
 obtain⟨k',hk',hc'⟩:=main v k hk h;have hval:=h.val
 have last: ∃i,k<i/\i<=k+(M+1-k)/\e*KK dl R N<=sn (v+1)*ec d f i:=by
  refine zh2 λhc=> ?_
  have hall: ∀i,k<i->i<=k+(M+1-k)->sn (v+1)*ec d f i<=e*KK dl R N:=by
   intro i hi hi2;have: ¬(e*KK dl R N<=sn (v+1)*ec d f i):=λh=>hc ⟨i,hi,hi2,h⟩
   grind
  have t:=tele hd0 hd2 (by grind:0<=e*KK dl R N) k (M+1-k) hall
  rw[show k+(M+1-k)=M+1 by omega,hf (M+1) O,qpq]at t
  have p1:dl^(N+1)<=d^(M+1-k):=zR1 (qsi (by grind) h1 O) (qp9 (by grind) hd1 _)
  have:=zA (show 0<=d^(M+1-k)-dl^(N+1) by grind) (show 0<=e by grind)
  have:=zA (show 0<=d^(M+1-k) by grind) (show 0<=sn v*f k-e by grind)
  have:=small (M+1-k) O;generalize e*KK dl R N*GG R (M+1-k)=x at*;generalize d^(M+1-k)=w at*;generalize dl^(N+1)=u at*
  grind
 obtain⟨i,i1,i2,i3⟩:=last;exact⟨i,O,⟨k',O,hc'⟩,i3⟩
def qso {dl R:Rat} {N:Nat} (h0:0<dl) (h1:dl<=1) (hR:1<=R) {f:Nat->Rat} {M:Nat} (hf: ∀i,M<i->f i=0) (hf0:f 0=1):
 ∀P:List Rat,(∀x∈P,dl<=x/\x<=R)->M+P.length<=N-> ∃k,k<=M+P.length/\CH (EE P f) (KK dl R N^P.length) P.length k:=by
 intro P;induction P with
 |nil=>
  intro _ _;refine⟨0,zL2 _,rfl,?_⟩;show KK dl R N^0<=f 0;rw[hf0];grind
 |cons d P ih=>
  intro hP hN;rw[zD1]at hN;have⟨k,hk,hc⟩:=ih (λx hx=>hP x (mT hx)) O
  have hd:=hP d mS;have⟨k',hk',hc'⟩:=qtb (M:=M+P.length) (N:=N) (zu3 (qrp h0 hR)) h0 h1 hR hd.1 hd.2 O (qpu hf) hk hc;refine⟨k',by rw[zD1];omega,?_⟩
  rw[zD1,zp2];exact hc'
variable {α:Type} [DecidableEq α]
def near (e C x y:Rat):Prop:= -(C*e)<=x-y/\x-y<=C*e
def ab (x:Rat):Rat:=if x<0 then-x else x
def qob (x:Rat):0<=ab x/\ -ab x<=x/\x<=ab x:=by
 unfold ab;by_cases h:x<0
 . rw[iP h];grind
 . rw[iN' h];grind
def qou {a b x y:Rat} (h1: -a<=x) (h2:x<=a) (h3: -b<=y) (h4:y<=b): -(a*b)<=x*y/\x*y<=a*b:=by
 have t1:=zA (show 0<=a-x by grind) (show 0<=b-y by grind)
 have t2:=zA (show 0<=a+x by grind) (show 0<=b+y by grind)
 have t3:=zA (show 0<=a-x by grind) (show 0<=b+y by grind)
 have t4:=zA (show 0<=a+x by grind) (show 0<=b-y by grind)
 constructor<;>grind
def qq1 {e C D x y x' y':Rat} (he:0<e) (he1:e<=1) (hC:0<=C) (hD:0<=D) (h1:near e C x x') (h2:near e D y y'):near e (ab x*D+(ab y+D)*C) (x*y) (x'*y'):=by
 have⟨a1,a2⟩:=h1;have⟨b1,b2⟩:=h2;have⟨x1,x2,x3⟩:=qob x;have⟨y1,y2,y3⟩:=qob y;have d1:=zA hD (show 0<=1-e by grind)
 have p1:=qou x2 x3 b1 b2;have p2:=qou (a:=ab y+D) (x:=y') gR gR a1 a2
 have e1:x*y-x'*y'=x*(y-y')+y'*(x-x'):=by grind
 unfold near;rw[e1];generalize x*(y-y')=u at*;generalize y'*(x-x')=w at*;generalize ab x=ax at*;generalize ab y=ay at*;constructor<;>grind
def qrx {e C D x y x' y':Rat} (h1:near e C x x') (h2:near e D y y'):near e (C+D) (x+y) (x'+y'):=by
 have⟨a1,a2⟩:=h1;have⟨b1,b2⟩:=h2;constructor<;>grind
def qro {e C D x y:Rat} (he:0<e) (h:C<=D) (h1:near e C x y):near e D x y:=by
 have:=zA (show 0<=D-C by grind) (show 0<=e by grind)
 have⟨a1,a2⟩:=h1;constructor<;>grind
def qtw: ∀(k:Nat) (f g F G:Nat->Rat),(∀i,0<=F i)->(∀i,0<=G i)-> ∃C,0<=C/\ ∀e f' g',0<e->e<=1->(∀i,i<=k->near e (F i) (f i) (f' i))->(∀i,i<=k->near e (G i) (g i) (g' i))->near e C (cv g f k) (cv g' f' k):=by
 intro k;induction k with
 |zero=>
  intro f g F G hF hG;refine⟨ab (f 0)*G 0+(ab (g 0)+G 0)*F 0,?_,λe f' g' he he1 h1 h2=>qq1 he he1 (hF 0) (hG 0) (h1 0 (zH _)) (h2 0 (zH _))⟩
  have:=zA (qob (f 0)).1 (hG 0);have:=zA (show 0<=ab (g 0)+G 0 by have:=(qob (g 0)).1;have:=hG 0;grind) (hF 0)
  grind
 |succ k ih=>
  intro f g F G hF hG;have⟨C,hC,h⟩:=ih (λi=>f (i+1)) g (λi=>F (i+1)) G (λi=>hF _) hG
  refine⟨ab (f 0)*G (k+1)+(ab (g (k+1))+G (k+1))*F 0+C,?_,λe f' g' he he1 h1 h2=> ?_⟩
  . have:=zA (qob (f 0)).1 (hG (k+1));have:=zA (show 0<=ab (g (k+1))+G (k+1) by have:=(qob (g (k+1))).1;have:=hG (k+1);grind) (hF 0)
    grind
  . rw[qnk,qnk];exact qrx (qq1 he he1 (hF 0) (hG _) (h1 0 O) (h2 _ (zH _))) (h e _ g' he he1 (λi hi=>h1 (i+1) O) (λi hi=>h2 i O))
def qrh {s c S:Nat->Rat} (hs0:s 0=0) (hS: ∀i,0<=S i) (h:NW s c): ∀k:Nat,∃C,0<=C/\ ∀e s' c',0<e->e<=1->s' 0=0->NW s' c'->(∀i,near e (S i) (s i) (s' i))->near e C (c k) (c' k):=by
 intro k;induction k using Nat.strongRecOn with
 |ind k ih=>
  cases k with
  |zero=>
   refine⟨0,zu1,λe s' c' _ _ _ h' _=> ?_⟩
   rw[h.1,h'.1];unfold near;constructor<;>grind
  |succ k=>
   let F:Nat->Rat:=λi=>if hi:i<k+1 then Classical.choose (ih i hi)else 0
   have hF: ∀i,0<=F i:=by
    intro i;show 0<=(if hi:i<k+1 then Classical.choose (ih i hi)else 0)
    split
    . rename_i hi;exact(zI2 (ih i hi)).1
    . exact zu1
   have⟨C,hC,hn⟩:=qtw k (λi=>s (i+1)) c (λi=>S (i+1)) F (λi=>hS _) hF
   refine⟨C,hC,λe s' c' he he1 h0 h' hnear=> ?_⟩
   have hcv:=hn e (λi=>s' (i+1)) c' he he1 (λi _=>hnear (i+1)) (λi hi=>by
    have hi':i<k+1:=O;have:F i=Classical.choose (ih i hi'):=dif_pos hi';rw[this];exact(zI2 (ih i hi')).2 e s' c' he he1 h0 h' hnear)
   have e1:=h.2 (k+1);have e2:=h'.2 (k+1);rw[qnk,hs0]at e1;rw[qnk,h0]at e2;have⟨a1,a2⟩:=hcv;generalize cv c (λi=>s (i+1)) k=x at*
   generalize cv c' (λi=>s' (i+1)) k=y at*
   have hk:(1:Rat)<=((k+1:Nat):Rat):=by
    have:((1:Nat):Rat)<=((k+1:Nat):Rat):=z02.2 O;exact this
   generalize ((k+1:Nat):Rat)=K at*
   have hCe:=zA hC (show 0<=e by grind)
   have e3:K*(c (k+1)-c' (k+1))=y-x:=by grind
   show-(C*e)<=c (k+1)-c' (k+1)/\c (k+1)-c' (k+1)<=C*e
   clear hn hF hnear e1 e2;generalize c (k+1)-c' (k+1)=z at*;constructor
   . refine zq3.1 λhlt=> ?_
     have:=zA (show 0<=K-1 by grind) (show 0<= -z by grind)
     grind
   . refine zq3.1 λhlt=> ?_
     have:=zA (show 0<=K-1 by grind) (show 0<=z by grind)
     grind
def qp8 {L:List α} {c:Rat}:sm L (λ_=>c)=(L.length:Rat)*c:=by
 induction L with
 |nil=>rw[sm_nil];show _=((0:Nat):Rat)*c;grind
 |cons i L ih=>
  have hl:(((i::L).length:Nat):Rat)=(L.length:Rat)+1:=by rw[zD1];exact zt2 _ _
  rw[qnj,ih,hl];grind
def sm_bd {L:List α} {f:α->Rat} {c:Rat} (h: ∀i∈L,-c<=f i/\f i<=c): -((L.length:Rat)*c)<=sm L f/\sm L f<=(L.length:Rat)*c:=by
 have:=qur (g:=λ_=>c) h
 rwa [qp8]at this
structure ND (L:List α) (R e:Rat) (B:α->α->Rat):Prop where
 pos:0<e
 one:e<=1
 bd: ∀i∈L,∀j∈L,-R<=B i j/\B i j<=R
 off: ∀i∈L,∀j∈L,i≠j-> -e<=B i j/\B i j<=e
def qtf {L:List α} (hn:L.Nodup) {R:Rat} (hR:0<=R): ∀k,∃P C,0<=P/\0<=C/\ ∀e B,ND L R e B-> ∀i∈L,∀j∈L,(-P<=mp L B k i j/\mp L B k i j<=P)/\near e C (mp L B k i j) (if i=j then B i i^k else 0):=by
 have hm:(0:Rat)<=(L.length:Rat):=zk2;intro k;induction k with
 |zero=>
  refine⟨1,0,by grind,zu1,λe B h i hi j hj=> ?_⟩
  rw[qo2];by_cases c:i=j
  . rw[iP c,iP c];unfold near;grind
  . rw[iN' c,iN' c];unfold near;grind
 |succ k ih=>
  have⟨P,C,hP,hC,h⟩:=ih;have hRP:=zA hR hP;have hRC:=zA hR hC;refine⟨(L.length:Rat)*(R*P),(L.length:Rat)*(R*C+P),zA hm hRP,zA hm gR,λe B hB i hi j hj=>⟨?_,?_⟩⟩
  . rw[qo6];exact sm_bd λl hl=>qou (hB.bd i hi l hl).1 (hB.bd i hi l hl).2 (h e B hB l hl j hj).1.1 (h e B hB l hl j hj).1.2
  . have hd:(if i=j then B i i^(k+1)else 0)=sm L (λl=>(if i=l then 1 else 0)*(B i i*(if l=j then B l l^k else 0))):=by
     rw[qnx hn hi];by_cases c:i=j
     . rw[iP c,iP c,zp2];grind
     . rw[iN' c,iN' c];grind
    unfold near;rw[hd,qo6,<-sm_sb];have e1:(L.length:Rat)*(R*C+P)*e=(L.length:Rat)*((R*C+P)*e):=by grind
    rw[e1];refine sm_bd λl hl=> ?_
    have⟨⟨p1,p2⟩,q1,q2⟩:=h e B hB l hl j hj;have he:=hB.pos;have z1:=zA hRC (show 0<=e by grind)
    have z2:=zA hP (show 0<=e by grind)
    by_cases c:i=l
    . subst c;rw[iP rfl];have:=qou (hB.bd i hi i hi).1 (hB.bd i hi i hi).2 q1 q2;generalize mp L B k i j=x at*;generalize (if i=j then B i i^k else 0)=y at*
      have e2:B i i*x-1*(B i i*y)=B i i*(x-y):=by grind
      rw[e2];constructor<;>grind
    . rw[iN' c];have:=qou (hB.off i hi l hl c).1 (hB.off i hi l hl c).2 p1 p2;constructor<;>grind
def qpv {L:List α} (hn:L.Nodup) {R:Rat} (hR:0<=R) (k:Nat): ∃C,0<=C/\ ∀e B,ND L R e B->near e C (sp L B k) (sm (L.map λi=>B i i) (λd=>pd d k)):=by
 obtain⟨P,C,hP,hC,h⟩:=qtf hn hR k;have hm:(0:Rat)<=(L.length:Rat):=zk2;refine⟨(L.length:Rat)*C,zA hm hC,λe B hB=> ?_⟩
 rw[qqz];cases k with
 |zero=>
  have hz:sm L (λi=>pd (B i i) 0)=0:=qnl λi _=>rfl
  rw[hz];show near e _ 0 0;have:=zA (zA hm hC) (show 0<=e by have:=hB.pos;grind)
  unfold near;constructor<;>grind
 |succ k=>
  show near e _ (tr L B (k+1)) (sm L (λi=>B i i^(k+1)))
  unfold near tr;rw[<-sm_sb];have e1:(L.length:Rat)*C*e=(L.length:Rat)*(C*e):=by grind
  rw[e1];refine sm_bd λi hi=> ?_
  have:=(h e B hB i hi i hi).2;rw[iP rfl]at this;exact this
def qp4 {L:List α} (hn:L.Nodup) {R:Rat} (hR:0<=R) {A:α->α->Rat} {c:Nat->Rat} (hc:NW (sp L A) c) (k:Nat):
 ∃C,0<=C/\ ∀e B,ND L R e B->(∀k,tr L B k=tr L A k)->near e C (c k) (EE (L.map λi=>B i i) dl0 k):=by
 let S:Nat->Rat:=λk=>Classical.choose (qpv hn hR k)
 have hS: ∀k,0<=S k:=λk=>(zI2 (qpv hn hR k)).1
 have⟨C,hC,h⟩:=qrh (show sp L A 0=0 from rfl) hS hc k
 refine⟨C,hC,λe B hB ht=> ?_⟩
 refine h e _ _ hB.pos hB.one (by show sm _ _=0;exact qnl λ_ _=>rfl) (EE_NW _) λi=> ?_
 have h1:=(zI2 (qpv hn hR i)).2 e B hB;have e1:sp L A i=sp L B i:=by unfold sp;rw[ht i]
 rw[e1];exact h1
def qrt {R:Rat} (hR:0<=R): ∀(l:List Rat),(∀x∈l,-R<=x/\x<=R)-> ∀k,-((1+R)^l.length)<=EE l dl0 k/\EE l dl0 k<=(1+R)^l.length:=by
 intro l;induction l with
 |nil=>
  intro _ k;show-((1+R)^0)<=dl0 k/\dl0 k<=(1+R)^0;unfold dl0;split<;>grind
 |cons d l ih=>
  intro h k;have h1:=ih (λx hx=>h x (mT hx))
  have hd:=h d mS;have hp:0<=(1+R)^l.length:=zD3 (by grind)
  have hRp:=zA hR hp;rw[zD1,zp2];cases k with
  |zero=>
   have:=h1 0;show _<=EE l dl0 0/\EE l dl0 0<=_;generalize (1+R)^l.length=w at*;constructor<;>grind
  |succ k=>
   have a1:=h1 (k+1);have a2:=h1 k;have a3:=qou hd.1 hd.2 a2.1 a2.2;show _<=EE l dl0 (k+1)-d*EE l dl0 k/\EE l dl0 (k+1)-d*EE l dl0 k<=_;generalize (1+R)^l.length=w at*;generalize EE l dl0 (k+1)=x at*;generalize EE l dl0 k=y at*;constructor<;>grind
def qsd (m:Nat):(1:Rat)^m=1:=by
 induction m with
 |zero=>grind
 |succ m ih=>rw[zp2,ih];grind
def qrs {R t:Rat} (hR:0<=R) (ht:0<=t) (htR:t<=R) {g:List Rat} (hg: ∀x∈g,-R<=x/\x<=R) {N:Nat}: ∀(l:List Rat),(∀x∈l,-t<=x/\x<=t)->l.length+g.length<=N-> ∀k,-((l.length:Rat)*(t*(1+R)^N))<=EE (l++g) dl0 k-EE g dl0 k/\EE (l++g) dl0 k-EE g dl0 k<=(l.length:Rat)*(t*(1+R)^N):=by
 intro l;induction l with
 |nil=>
  intro _ _ k;rw[zr2];show-(((0:Nat):Rat)*_)<=_/\_<=((0:Nat):Rat)*_;constructor<;>grind
 |cons d l ih=>
  intro h hN k;rw[zD1]at hN;have h1:=ih (λx hx=>h x (mT hx)) O
  have hd:=h d mS
  have hb:=qrt hR (l++g) (λx hx=>by
   rcases zY.1 hx with hx|hx
   . have:=h x (mT hx);constructor<;>grind
   . exact hg x hx)
  have hw:(1+R)^(l++g).length<=(1+R)^N:=by
   have⟨m,hm⟩: ∃m,N=(l++g).length+m:=⟨N-(l++g).length,by rw[zW];omega⟩
   rw[hm,qq6];have p1:0<=(1+R)^(l++g).length:=zD3 (by grind)
   have p2:1<=(1+R)^m:=by
    have:=qp9 (x:=1) (y:=1+R) gR gR m
    have e1:=qsd m
    rwa [e1]at this
   have:=zA p1 (show 0<=(1+R)^m-1 by grind)
   grind
  have hl:(((d::l).length:Nat):Rat)=(l.length:Rat)+1:=by rw[zD1];exact zt2 _ _
  rw[hl,zm1];have hW:0<=(1+R)^N:=zD3 (by grind)
  have htW:=zA ht hW;cases k with
  |zero=>
   have:=h1 0;show _<=EE (l++g) dl0 0-EE g dl0 0/\EE (l++g) dl0 0-EE g dl0 0<=_;generalize t*(1+R)^N=w at*;constructor<;>grind
  |succ k=>
   have a1:=h1 (k+1)
   have a2: -((1+R)^N)<=EE (l++g) dl0 k/\EE (l++g) dl0 k<=(1+R)^N:=by
    have h3:=hb k;clear h1 hb;generalize (1+R)^(l++g).length=w1 at*;generalize (1+R)^N=w2 at*;constructor<;>grind
   have a3:=qou hd.1 hd.2 a2.1 a2.2;show _<=(EE (l++g) dl0 (k+1)-d*EE (l++g) dl0 k)-EE g dl0 (k+1)/\(EE (l++g) dl0 (k+1)-d*EE (l++g) dl0 k)-EE g dl0 (k+1)<=_;generalize t*(1+R)^N=w at*;generalize EE (l++g) dl0 (k+1)=x at*;generalize d*EE (l++g) dl0 k=y at*;constructor<;>grind
variable {α:Type} [DecidableEq α]
def qrk {L:List α} {x:α->Rat}:0<=ip L x x:=qnq λi _=>sq_nonneg _
def qrd {L:List α} (hn:L.Nodup) {R e:Rat} {B:α->α->Rat} (h:ND L R e B) (x:α->Rat):
 sm L (λi=>B i i*(x i*x i))-e*((L.length:Rat)*ip L x x)<=qf L B x/\qf L B x<=sm L (λi=>B i i*(x i*x i))+e*((L.length:Rat)*ip L x x):=by
 have he:=h.pos;have d:=qni λi hi=>(qnx hn hi (f:=λj=>B i j*(x i*x j))).symm
 have f1:sm L (λi=>sm L (λj=>e/2*(x i*x i+x j*x j)))=e*((L.length:Rat)*ip L x x):=by
  have e1: ∀i∈L,sm L (λj=>e/2*(x i*x i+x j*x j))=e/2*((L.length:Rat)*(x i*x i)+ip L x x):=by
   intro i _;rw[qnm,qoa,qp8];rfl
  rw[qni e1,qnm,qoa,qnm,qp8];unfold ip
  grind
 have term: ∀i∈L,∀j∈L,-(e/2*(x i*x i+x j*x j))<=x i*B i j*x j-(if i=j then 1 else 0)*(B i j*(x i*x j))/\x i*B i j*x j-(if i=j then 1 else 0)*(B i j*(x i*x j))<=e/2*(x i*x i+x j*x j):=by
  intro i hi j hj;by_cases c:i=j
  . subst c;rw[iP rfl];have:=zA (show 0<=e by grind) (sq_nonneg (x i))
    constructor<;>grind
  . rw[iN' c];have⟨b1,b2⟩:=h.off i hi j hj c;have t1:=sq_nonneg (x i-x j);have t2:=sq_nonneg (x i+x j);have p: -((x i*x i+x j*x j)/2)<=x i*x j/\x i*x j<=(x i*x i+x j*x j)/2:=by constructor<;>grind
    have q:=qou b1 b2 p.1 p.2;generalize x i*x i+x j*x j=s at*;have e2:x i*B i j*x j=B i j*(x i*x j):=by grind
    rw[e2];constructor<;>grind
 have hq:qf L B x=sm L (λi=>sm L (λj=>x i*B i j*x j)):=rfl
 rw[hq,d,<-f1];constructor
 . have:=sm_le (L:=L) (f:=λi=>sm L (λj=> -(e/2*(x i*x i+x j*x j)))) (g:=λi=>sm L (λj=>x i*B i j*x j-(if i=j then 1 else 0)*(B i j*(x i*x j)))) λi hi=>sm_le λj hj=>(term i hi j hj).1
   rw[qni (g:=λi=> -sm L (λj=>e/2*(x i*x i+x j*x j))) λi _=>qp3,qp3,qni (g:=λi=>sm L (λj=>x i*B i j*x j)-sm L (λj=>(if i=j then 1 else 0)*(B i j*(x i*x j)))) λi _=>sm_sb,sm_sb]at this
   grind
 . have:=sm_le (L:=L) (g:=λi=>sm L (λj=>(e/2*(x i*x i+x j*x j)))) (f:=λi=>sm L (λj=>x i*B i j*x j-(if i=j then 1 else 0)*(B i j*(x i*x j)))) λi hi=>sm_le λj hj=>(term i hi j hj).2
   rw[qni (g:=λi=>sm L (λj=>x i*B i j*x j)-sm L (λj=>(if i=j then 1 else 0)*(B i j*(x i*x j)))) λi _=>sm_sb,sm_sb]at this
   grind
def quq {L:List α} (a b:α->Rat):sm L (λi=>a i*b i)*sm L (λi=>a i*b i)<=sm L (λi=>a i*a i)*sm L (λi=>b i*b i):=by
 have h:0<=sm L (λi=>sm L (λj=>(a i*b j-a j*b i)*(a i*b j-a j*b i))):=qnq λi _=>qnq λj _=>sq_nonneg _
 have e:sm L (λi=>sm L (λj=>(a i*b j-a j*b i)*(a i*b j-a j*b i)))=2*(sm L (λi=>a i*a i)*sm L (λi=>b i*b i))-2*(sm L (λi=>a i*b i)*sm L (λi=>a i*b i)):=by
  have e1: ∀i∈L,sm L (λj=>(a i*b j-a j*b i)*(a i*b j-a j*b i))=a i*a i*sm L (λj=>b j*b j)+b i*b i*sm L (λj=>a j*a j)-2*(a i*b i*sm L (λj=>a j*b j)):=by
   intro i _;rw[<-qnm,<-qnm,<-qnm,<-qnm,<-qoa,<-sm_sb];exact qni λj _=>by grind
  rw[qni e1,sm_sb,qoa,qnv,qnv,qnm,qnv]
  grind
 rw[e]at h;generalize sm L (λi=>a i*b i)*sm L (λi=>a i*b i)=u at*
 generalize sm L (λi=>a i*a i)*sm L (λi=>b i*b i)=v at*
 grind
def qul {L:List α} {W:α->α->Rat} {y:α->Rat}:ip L (lin L W y) (lin L W y)<=ip L y y*vn L W:=by
 have e:ip L y y*vn L W=sm L (λj=>ip L y y*sm L (λi=>W i j*W i j)):=by
  rw[qnm];congr 1;unfold vn ip;exact qnu
 rw[e];refine sm_le λj _=> ?_
 exact quq y (λi=>W i j)
def qq3 {L:List α} (hn:L.Nodup) {R e dl b0:Rat} {B W:α->α->Rat} {b:α->Rat} (h:ND L R e B) (hd:Dg L B W b) (hdl:0<=dl) (hb: ∀i∈L,0<b i->b0<=b i)
 (hs:(dl+e*(L.length:Rat))*vn L W<b0):npos L b<=(L.filter λi=>decide (dl<B i i)).length:=by
 refine zn1 λhlt=> ?_
 obtain⟨y,⟨u,hu,hy⟩,hz⟩:=hom (L.filter λi=>decide (dl<B i i)) (L.filter λi=>decide (0<b i)) (λr i=>W i r) (hn.filter _) hlt
 let y1:α->Rat:=λi=>if decide (0<b i)then y i else 0
 let x:=lin L W y1
 have hx: ∀r∈L,dl<B r r->x r=0:=by
  intro r hr hdr;have:=hz r (zC1.2 ⟨hr,decide_eq_true hdr⟩);rw[sm_if]at this;have e:x r=sm L (λi=>W i r*(if decide (0<b i)then y i else 0)):=qni λi _=>zd2 _ _
  rw[e,this]
 have q1:=hd.form y1;have q2:=(qrd hn h x).2
 have q3:sm L (λi=>B i i*(x i*x i))<=dl*ip L x x:=by
  unfold ip;rw[<-qnm];refine sm_le λi hi=> ?_
  by_cases c:dl<B i i
  . rw[hx i hi c];grind
  . have:=zA (show 0<=dl-B i i by grind) (sq_nonneg (x i));grind
 have q4:b0*ip L y1 y1<=sm L (λi=>b i*(y1 i*y1 i)):=by
  unfold ip;rw[<-qnm];refine sm_le λi hi=> ?_
  by_cases c:0<b i
  . have:=zA (show 0<=b i-b0 by have:=hb i hi c;grind) (sq_nonneg (y1 i));grind
  . have:y1 i=0:=iN' (by simpa using c)
    rw[this];grind
 have q5:0<ip L y1 y1:=by
  obtain⟨h1,h2⟩:=zC1.1 hu;have:y1 u=y u:=iP h2;exact qsu (λi _=>sq_nonneg _) h1 (by rw[this];exact sq_pos hy)
 have q6:=qul (L:=L) (W:=W) (y:=y1);have he:=h.pos;have hm:(0:Rat)<=(L.length:Rat):=zk2;have hem:=zA (show 0<=e by grind) hm
 have q7:=zi1 q6 (show 0<=dl+e*(L.length:Rat) by grind)
 have q8:b0*ip L y1 y1<=(dl+e*(L.length:Rat))*ip L x x:=by
  rw[q1]at q2;generalize ip L x x=s at*
  grind
 have q9:=Rat.mul_lt_mul_of_pos_right hs q5;have q10:ip L x x=ip L (lin L W y1) (lin L W y1):=rfl;rw[<-q10]at q7;generalize ip L x x=s at*;generalize ip L y1 y1=t at*;generalize vn L W=w at*;generalize dl+e*(L.length:Rat)=z at*
 grind
def count_le {L:List α} (hn:L.Nodup) {R e t:Rat} {B W:α->α->Rat} {b:α->Rat} (h:ND L R e B) (hd:Dg L B W b) (ht:e*(L.length:Rat)<t):
 (L.filter λi=>decide (t<B i i)).length<=npos L b:=by
 refine zn1 λhlt=> ?_
 have s1:npos L b+(L.filter λi=>decide (¬0<b i)).length=L.length:=qod (p:=λi=>decide (0<b i)) λi _=>by show decide _=_;simp
 have s2:(L.filter λi=>decide (t<B i i)).length+(L.filter λi=>decide (¬t<B i i)).length=L.length:=qod (p:=λi=>decide (t<B i i)) λi _=>by show decide _=_;simp
 obtain⟨y,⟨u,hu,hy⟩,hz⟩:=hom (L.filter λi=>decide (¬t<B i i)) (L.filter λi=>decide (¬0<b i)) (λr i=>W i r) (hn.filter _) O
 let y1:α->Rat:=λi=>if decide (¬0<b i)then y i else 0
 let x:=lin L W y1
 have hx: ∀r∈L,¬t<B r r->x r=0:=by
  intro r hr hdr;have:=hz r (zC1.2 ⟨hr,decide_eq_true hdr⟩);rw[sm_if]at this;have e:x r=sm L (λi=>W i r*(if decide (¬0<b i)then y i else 0)):=qni λi _=>zd2 _ _
  rw[e,this]
 have q1:=hd.form y1;have q2:=(qrd hn h x).1
 have q3:t*ip L x x<=sm L (λi=>B i i*(x i*x i)):=by
  unfold ip;rw[<-qnm];refine sm_le λi hi=> ?_
  by_cases c:t<B i i
  . have:=zA (show 0<=B i i-t by grind) (sq_nonneg (x i));grind
  . rw[hx i hi c];grind
 have q4:sm L (λi=>b i*(y1 i*y1 i))<=0:=by
  have:=sm_le (L:=L) (f:=λi=>b i*(y1 i*y1 i)) (g:=λ_=>0) (λi hi=>by
   show b i*(y1 i*y1 i)<=0
   by_cases c:0<b i
   . have:y1 i=0:=iN' (by simpa using c)
     rw[this];grind
   . have:=zA (show 0<= -b i by grind) (sq_nonneg (y1 i));grind)
  rwa [qor]at this
 have q5:0<ip L x x:=by
  obtain⟨h1,h2⟩:=zC1.1 hu;have hy1:y1 u=y u:=iP h2;refine zh2 λhc=> ?_
  have hx0: ∀j∈L,x j=0:=by
   intro j hj;refine zh2 λhne=>hc ?_
   exact qsu (λi _=>sq_nonneg _) hj (sq_pos hne)
  have:=hd.ind y1 hx0 u h1;rw[hy1]at this;exact hy this
 have hq:qf L B x=sm L (λi=>b i*(y1 i*y1 i)):=q1
 have q9:=Rat.mul_lt_mul_of_pos_right ht q5;rw[hq]at q2;generalize ip L x x=s at*
 grind
variable {α:Type} [DecidableEq α]
def bmin (b:α->Rat): ∀L:List α,∃b0,0<b0/\ ∀i∈L,0<b i->b0<=b i:=by
 intro L;induction L with
 |nil=>exact⟨1,by grind,λi hi=>by cases hi⟩
 |cons j L ih=>
  have⟨b0,h0,h1⟩:=ih;by_cases c:0<b j/\b j<b0
  . exact⟨b j,c.1,λi hi hb=>by
     rcases mC hi with rfl|hi
     . exact zu1
     . have:=h1 i hi hb;grind⟩
  . exact⟨b0,h0,λi hi hb=>by
     rcases mC hi with rfl|hi
     . grind
     . exact h1 i hi hb⟩
def lin1 {a b z:Rat} (h:0<=(a-b)*z):b*z<=a*z:=by grind
def lin2 {c z3 z4 z1 z2 z5 E:Rat} (a1: -z5<=c-z3) (a2:c-z3<=z5) (a3: -z1<=z3-z4) (a4:z3-z4<=z1) (h1:z1<=z2) (h2:z5+z2<=E): -E<=c-z4/\c-z4<=E:=by constructor<;>grind
def lin3 {e Y T t d E:Rat} (h:e*(1+Y+T)=t) (he:0<e) (h1:0<=e*Y) (h2:0<=e*T) (ht1:t<=E) (ht2:t<=d/2) (hd:d<=1):Y*e<=E/\T*e<=d/2/\e<=1:=by
 refine⟨?_,?_,?_⟩<;>grind
def lin4 {d b v X:Rat} (hdX:d*X=b) (hX:X=4*(v+1)*(1+b)) (hd:0<d) (hb:0<b) (hv:0<=v):4*(d*(v+1))<=b/\d<=1:=by
 have h0:=zA (show 0<=d by grind) hv
 have h1:=zA (show 0<=4*(d*(v+1)) by grind) (show 0<=b by grind)
 have h3:=zA hv (show 0<=b by grind)
 have hX0:b<=X:=by grind
 refine⟨by rw[hX]at hdX;grind,?_⟩
 refine zq3.1 λhl=> ?_
 have:=zq2 (show 0<d-1 by grind) (show 0<X by grind)
 grind
def lin5 {d e m v b:Rat} (h:4*(d*(v+1))<=b) (h1:e*m<=d/2) (hd:0<d) (hv:0<=v) (hb:0<b):(d+e*m)*v<b:=by
 have h1:=zA (show 0<=d-e*m by grind) hv
 have:=zA (show 0<=d by grind) hv
 grind
def lin6 {T e d x:Rat} (h1:d<x) (h2:T*e<=d/2) (hd:0<d):T*e<x:=by grind
def lin7 {T e x:Rat} (h1: ¬T*e<x) (h2: ¬T*e< -x): -(T*e)<=x/\x<=T*e:=by constructor<;>grind
def lin8 {d x:Rat} (h1:d< -x) (hd:0<d): ¬d<x:=by grind
def lin9 {R x:Rat} (h: -R<=x): -x<=R:=by grind
def min2 {a b:Rat} (ha:0<a) (hb:0<b): ∃t,0<t/\t<=a/\t<=b:=by
 by_cases c:a<=b
 . exact⟨a,ha,zu1,c⟩
 . exact⟨b,hb,by grind,zu1⟩
def coincide {L:List α} {p q:α->Bool} (h: ∀i∈L,p i=true->q i=true) (hl:(L.filter q).length<=(L.filter p).length): ∀i∈L,q i=true->p i=true:=by
 induction L with
 |nil=>intro i hi;cases hi
 |cons j L ih=>
  have h': ∀i∈L,p i=true->q i=true:=λi hi=>h i (mT hi)
  have hmono:(L.filter p).length<=(L.filter q).length:=by
   clear ih hl h;induction L with
   |nil=>exact zH _
   |cons k L ih=>
    have:=ih λi hi=>h' i (mT hi)
    have:=h' k mS;rw[zZ1,zZ1];by_cases c:p k=true
    . rw[iP c,iP (this c)];simp;omega
    . rw[iN' c];split<;>simp<;>omega
  have h0:=h j mS;rw[zZ1,zZ1]at hl;by_cases c:p j=true
  . rw[iP c,iP (h0 c)]at hl;simp at hl;intro i hi hq;rcases mC hi with rfl|hi
    . exact c
    . exact ih h' hl i hi hq
  . rw[iN' c]at hl;by_cases d:q j=true
    . rw[iP d]at hl;simp at hl;omega
    . rw[iN' d]at hl;intro i hi hq;rcases mC hi with rfl|hi
      . exact absurd hq d
      . exact ih h' hl i hi hq
def qo9 {L:List α} {p q:α->Bool} (h: ∀i∈L,p i=true->q i=true):(L.filter p).length<=(L.filter q).length:=by
 induction L with
 |nil=>exact zH _
 |cons k L ih=>
  have:=ih λi hi=>h i (mT hi)
  have:=h k mS;rw[zZ1,zZ1];by_cases c:p k=true
  . rw[iP c,iP (this c)];simp;omega
  . rw[iN' c];split<;>simp<;>omega
def qr8 {x e:Rat} (he:0<e) (h:x*x<=e*e): -e<=x/\x<=e:=by
 constructor
 . refine zq3.1 λhl=> ?_
   have:=zq2 (show 0< -x-e by grind) (show 0< -x+e by grind)
   grind
 . refine zq3.1 λhl=> ?_
   have:=zq2 (show 0<x-e by grind) (show 0<x+e by grind)
   grind
def ND_of {L:List α} {B:α->α->Rat} {F e:Rat} (he:0<e) (he1:e<=1) (hF:frob L B<=F) (ho:off L B<=e*e):ND L (F+1) e B:=by
 refine⟨he,he1,λi hi j hj=> ?_,λi hi j hj hij=> ?_⟩
 . have h1:B i j*B i j<=frob L B:=zR1 (le_sm (f:=λj=>B i j*B i j) (λ_ _=>sq_nonneg _) hj) (le_sm (f:=λi=>sm L (λj=>B i j*B i j)) (λ_ _=>qnq λ_ _=>sq_nonneg _) hi)
   have h2:=sq_nonneg (B i j-1/2);have h3:=sq_nonneg (B i j+1/2);generalize B i j=x at*;constructor<;>grind
 . have nn: ∀i∈L,∀j∈L,0<=(if i=j then 0 else B i j*B i j):=by
    intro i _ j _;by_cases c:i=j
    . rw[iP c];grind
    . rw[iN' c];exact sq_nonneg _
   have h1:(if i=j then 0 else B i j*B i j)<=off L B:=zR1 (le_sm (f:=λj=>if i=j then 0 else B i j*B i j) (λj hj=>nn i hi j hj) hj) (le_sm (f:=λi=>sm L (λj=>if i=j then 0 else B i j*B i j)) (λi hi=>qnq λj hj=>nn i hi j hj) hi)
   rw[iN' hij]at h1;exact qr8 he (zR1 h1 ho)
def ND.neg {L:List α} {B:α->α->Rat} {R e:Rat} (h:ND L R e B):ND L R e (λi j=> -B i j):=by
 refine⟨h.pos,h.one,λi hi j hj=> ?_,λi hi j hj hij=> ?_⟩
 . have:=h.bd i hi j hj;constructor<;>grind
 . have:=h.off i hi j hj hij;constructor<;>grind
def factors {L:List α} (hn:L.Nodup) {A:α->α->Rat} (hs: ∀i∈L,∀j∈L,A i j=A j i) {V:α->α->Rat} {b:α->Rat} (hd:Dg L A V b) {c:Nat->Rat} (hc:NW (sp L A) c):
 ∃dl R,0<dl/\dl<=1/\1<=R/\ ∀E,0<E-> ∃P Q:List Rat,P.length=npos L b/\Q.length=npos L (λi=> -b i)/\(∀x∈P,dl<=x/\x<=R)/\(∀x∈Q,dl<= -x/\ -x<=R)/\
  ∀k,k<=L.length-> -E<=c k-EE (P++Q) dl0 k/\c k-EE (P++Q) dl0 k<=E:=by
 have hF:0<=frob L A:=qnq λ_ _=>qnq λ_ _=>sq_nonneg _
 obtain⟨b1,hb1,hb1'⟩:=bmin b L;obtain⟨b2,hb2,hb2'⟩:=bmin (λi=> -b i) L
 obtain⟨b0,hb0,hb01,hb02⟩:=min2 hb1 hb2;have hv:0<=vn L V:=qnq λ_ _=>qrk
 have hm:(0:Rat)<=(L.length:Rat):=zk2
 let X:Rat:=4*(vn L V+1)*(1+b0)
 have hX:0<X:=zq2 (by grind) (by grind)
 let dl:Rat:=b0/X
 have hdlX:dl*X=b0:=by show b0/X*X=b0;grind
 have hdl:0<dl:=by show 0<b0/X;rw[zG2];exact zq2 hb0 (zc3.2 hX)
 have hX1:X=4*(vn L V+1)*(1+b0):=rfl;obtain⟨hdv,hdl1⟩:=lin4 hdlX hX1 hdl hb0 hv
 let R:Rat:=frob L A+1
 have hR:1<=R:=by show 1<=frob L A+1;grind
 refine⟨dl,R,hdl,hdl1,hR,λE hε=> ?_⟩
 let Cf:Nat->Rat:=λk=>Classical.choose (qp4 hn (show 0<=R by grind) hc k)
 have hCf: ∀k,0<=Cf k:=λk=>(zI2 (qp4 hn (show 0<=R by grind) hc k)).1
 let Cm:Rat:=sm (List.range (L.length+1)) Cf
 have hCm: ∀k,k<=L.length->Cf k<=Cm:=λk hk=>le_sm (λi _=>hCf i) (zT1.2 O)
 have hCm0:0<=Cm:=qnq λi _=>hCf i
 let W0:Rat:=(1+R)^L.length
 have hW0:0<=W0:=zD3 (by grind)
 let T:Rat:=2*(L.length:Rat)+1
 have hT:1<=T:=by show 1<=2*(L.length:Rat)+1;grind
 let Y:Rat:=Cm+(L.length:Rat)*(T*W0)
 have hTW:=zA (show 0<=T by grind) hW0
 have hY:0<=Y:=by have:=zA hm hTW;show 0<=Cm+(L.length:Rat)*(T*W0);grind
 obtain⟨t,ht0,ht1,ht2⟩:=min2 hε (show 0<dl/2 by grind)
 let e:Rat:=t/(1+Y+T)
 have heY:e*(1+Y+T)=t:=by show t/(1+Y+T)*(1+Y+T)=t;grind
 have he:0<e:=by show 0<t/(1+Y+T);rw[zG2];exact zq2 ht0 (zc3.2 (by grind))
 have heY1:=zA (show 0<=e by grind) hY
 have heT1:=zA (show 0<=e by grind) (show 0<=T by grind)
 obtain⟨hYe,hTe,he1⟩:=lin3 heY he heY1 heT1 ht1 ht2 hdl1;obtain⟨B,hB,hoff⟩:=qu6 hn hs (show 0<e*e from zq2 he he)
 obtain⟨hsB,htr,W,hdB,hvW⟩:=hB.inv hn hs hd;have hfr:frob L B=frob L A:=by rw[qpb hn hsB,qpb hn hs,htr]
 have hND:ND L R e B:=ND_of he he1 (by rw[hfr];exact zu1) hoff
 have hem:e*(L.length:Rat)<T*e:=by
  show e*(L.length:Rat)<(2*(L.length:Rat)+1)*e
  have:=zA (show 0<=e by grind) hm
  grind
 have hsm:(dl+e*(L.length:Rat))*vn L W<b0:=by
  rw[hvW];exact lin5 hdv (zR1 (zz2 hem) hTe) hdl hv hb0
 have c1:=qq3 hn hND hdB (show 0<=dl by grind) (λi hi h=>zR1 hb01 (hb1' i hi h)) hsm
 have c2:=count_le hn hND hdB hem;have c3:=qq3 hn hND.neg hdB.neg (show 0<=dl by grind) (λi hi h=>zR1 hb02 (hb2' i hi h)) hsm
 have c4:=count_le hn hND.neg hdB.neg hem
 let p:α->Bool:=λi=>decide (dl<B i i)
 let q:α->Bool:=λi=>decide (dl< -B i i)
 have m1: ∀i∈L,p i=true->decide (T*e<B i i)=true:=λi _ h=>by
  exact decide_eq_true (lin6 (of_decide_eq_true h) hTe hdl)
 have m2: ∀i∈L,q i=true->decide (T*e< -B i i)=true:=λi _ h=>by
  exact decide_eq_true (lin6 (of_decide_eq_true h) hTe hdl)
 have k1:=qo9 m1;have k2:=qo9 m2;have i1:=coincide m1 (zK c2 c1);have i2:=coincide m2 (zK c4 c3)
 have lp:(L.filter p).length=npos L b:=by
  have:npos L b<=(L.filter p).length:=c1;omega
 have lq:(L.filter q).length=npos L (λi=> -b i):=by
  have:npos L (λi=> -b i)<=(L.filter q).length:=c3
  omega
 have hpq:(L.filter λi=> !p i).filter q=L.filter q:=by
  rw[List.filter_filter];refine List.filter_congr λi _=> ?_
  cases hq:q i
  . rfl
  . have h1:dl< -B i i:=of_decide_eq_true hq;have:p i=false:=decide_eq_false (lin8 h1 hdl);rw[this];rfl
 let S:=(L.filter λi=> !p i).filter λi=> !q i
 have hperm:L.Perm (S++(L.filter p++L.filter q)):=by
  have a1:(L.filter p++L.filter λi=> !p i).Perm L:=List.filter_append_perm p L
  have a2:((L.filter λi=> !p i).filter q++S).Perm (L.filter λi=> !p i):=List.filter_append_perm q _
  rw[hpq]at a2;have a3:(L.filter p++(L.filter q++S)).Perm L:=(List.Perm.append_left _ a2).trans a1;refine(a3.symm).trans ?_;rw[<-List.append_assoc];exact List.perm_append_comm
 have hlen:S.length+(L.filter p++L.filter q).length=L.length:=by
  have:=hperm.length_eq;rw[zW]at this;omega
 refine⟨(L.filter p).map λi=>B i i,(L.filter q).map λi=>B i i,by rw[zQ1];exact lp,by rw[zQ1];exact lq,?_,?_,?_⟩
 . intro x hx;obtain⟨i,hi,rfl⟩:=zi.1 hx;obtain⟨h1,h2⟩:=zC1.1 hi;have h3:dl<B i i:=of_decide_eq_true h2;exact⟨zz2 h3,(hND.bd i h1 i h1).2⟩
 . intro x hx;obtain⟨i,hi,rfl⟩:=zi.1 hx;obtain⟨h1,h2⟩:=zC1.1 hi;have h3:dl< -B i i:=of_decide_eq_true h2;exact⟨zz2 h3,lin9 (hND.bd i h1 i h1).1⟩
 . intro k hk;have n1:=(zI2 (qp4 hn (show 0<=R by grind) hc k)).2 e B hND htr
   have n2:near e Cm (c k) (EE (L.map λi=>B i i) dl0 k):=qro he (hCm k hk) n1
   have e1:EE (L.map λi=>B i i) dl0=EE (S.map (λi=>B i i)++((L.filter p).map (λi=>B i i)++(L.filter q).map λi=>B i i)) dl0:=by
    have:=qre (f:=dl0) (hperm.map λi=>B i i)
    rw[this,z01,z01]
   have n3:=qrs (R:=R) (t:=T*e) (show 0<=R by grind) (by grind) (by grind) (g:=(L.filter p).map (λi=>B i i)++(L.filter q).map λi=>B i i) (N:=L.length) (by
    intro x hx;rw[<-List.map_append]at hx;obtain⟨i,hi,rfl⟩:=zi.1 hx;have hiL:i∈L:=hperm.mem_iff.2 (zI1 _ hi);exact hND.bd i hiL i hiL) (S.map λi=>B i i) (by
    intro x hx;obtain⟨i,hi,rfl⟩:=zi.1 hx;obtain⟨h1,h2⟩:=zC1.1 hi;obtain⟨h3,h4⟩:=zC1.1 h1
    have u1: ¬T*e<B i i:=λh=>by
     have:=i1 i h3 (decide_eq_true h);rw[this]at h4;cases h4
    have u2: ¬T*e< -B i i:=λh=>by
     have:=i2 i h3 (decide_eq_true h);rw[this]at h2;cases h2
    exact lin7 u1 u2) (by
     rw[zQ1,zW,zQ1,zQ1];rw[zW]at hlen;omega) k
   rw[e1]at n2;obtain⟨a1,a2⟩:=n2;obtain⟨a3,a4⟩:=n3;have hSl:((S.map λi=>B i i).length:Rat)<=(L.length:Rat):=z02.2 (by rw[zQ1];omega)
   have hSb:((S.map λi=>B i i).length:Rat)*(T*e*(1+R)^L.length)<=(L.length:Rat)*(T*W0)*e:=by
    have h1:=zA hTW (show 0<=e by grind)
    have h2:=zA (show 0<=(L.length:Rat)-((S.map λi=>B i i).length:Rat) by grind) h1
    have h3:T*e*(1+R)^L.length=T*W0*e:=by show T*e*W0=_;rw[zS4,zd2 e,<-Rat.mul_assoc]
    have h4:(L.length:Rat)*(T*W0)*e=(L.length:Rat)*(T*W0*e):=zS4 _ _ _;rw[h3,h4];exact lin1 h2
   have hYe':Cm*e+(L.length:Rat)*(T*W0)*e<=E:=by
    have h5:Y*e=Cm*e+(L.length:Rat)*(T*W0)*e:=Rat.add_mul _ _ _;rw[<-h5];exact hYe
   exact lin2 a1 a2 a3 a4 hSb hYe'
variable {α:Type} [DecidableEq α]
def cs (c:Nat->Rat) (r:Nat):List Rat:=(List.range r).map λi=>c (i+1)
def qqy {c:Nat->Rat} {r:Nat}:cs c (r+1)=cs c r++[c (r+1)]:=by
 unfold cs;rw[zF4,z01];rfl
def qp1 {c:Nat->Rat} {r:Nat}:(cs c r).length=r:=by unfold cs;rw[zQ1,zP2]
def cs_le {c:Nat->Rat} {k r:Nat} (h:k<=r): ∃l,cs c r=cs c k++l:=by
 induction h with
 |refl=>exact⟨[],by rw[zd1]⟩
 |step _ ih=>have⟨l,hl⟩:=ih;exact⟨l++[_],by rw[qqy,hl,zh1]⟩
def Alt.app {s:Int} {l m:List Rat} {v:Nat} (h:Alt s l v):Alt s (l++m) v:=by
 induction h with
 |nil=>exact .nil _ _
 |skip _ ih=>exact .skip ih
 |take h1 _ ih=>exact .take h1 ih
def sAl (v:Nat):Int:=if v%2=0 then 1 else-1
def qqi {v:Nat}:sAl (v+1)= -sAl v:=by
 unfold sAl;rcases zB2 v with h|h
 . rw[iN' O,iP h]
 . rw[iP O,iN' O];rfl
def Alt.one {s:Int} {x:Rat} (h:sgq x*s<0): ∀l:List Rat,Alt s (l++[x]) 1
 |[]=> .take h (.nil _ _)
 |_::l=> .skip (Alt.one h l)
def Alt.snoc {s:Int} {l:List Rat} {v:Nat} (hs:s=1\/s= -1) (h:Alt s l v): ∀{x:Rat},sgq x*(s*sAl v)<0->Alt s (l++[x]) (v+1):=by
 induction h with
 |nil s l=>intro x hx;exact Alt.one (by rw[show sAl 0=1 from rfl,zt3]at hx;exact hx) l
 |skip _ ih=>intro x hx;exact .skip (ih hs hx)
 | @take s y l v h1 _ ih=>
   intro x hx
   have e:sgq y= -s:=by
    rcases qnz y with⟨h,_⟩|⟨h,_⟩|⟨h,_⟩<;>rw[h]at h1⊢ <;>rcases hs with rfl|rfl<;>omega
   refine .take h1 (ih ?_ ?_)
   . rw[e];rcases hs with rfl|rfl<;>simp
   . rw[e];rw[qqi]at hx;rw[zH3,<-Int.mul_neg];exact hx
def qqn {x:Rat} (h:0<x):sgq x=1:=by
 rcases qnz x with⟨e,h'⟩|⟨e,h'⟩|⟨e,h'⟩
 . grind
 . grind
 . exact e
def qqp {x:Rat} (h:x<0):sgq x= -1:=by
 rcases qnz x with⟨e,h'⟩|⟨e,h'⟩|⟨e,h'⟩
 . exact e
 . grind
 . grind
def CH.alt {f c:Nat->Rat} {e:Rat} {r:Nat} (hc: ∀k,k<=r-> -e<c k-f k/\c k-f k<e): ∀{v k:Nat},k<=r->CH f e v k->Alt 1 (cs c k) v
 |0,k,hk,h=> .nil _ _
 |v+1,k,hk,h=>by
  have⟨⟨j,hj,h1⟩,h2⟩:=h;have ih:=CH.alt hc (by omega:j<=r) h1
  obtain⟨k,rfl⟩: ∃k',k=k'+1:=⟨k-1,O⟩;have⟨l,hl⟩:=cs_le (c:=c) (show j<=k by omega)
  rw[qqy];refine Alt.snoc (.inl rfl) (by rw[hl];exact ih.app) ?_
  have h3:=hc (k+1) hk;rw[zW4];unfold sn at h2;unfold sAl;rcases zB2 v with h|h
  . rw[iP h];rw[iN' O]at h2;rw[qqp gR];decide
  . rw[iN' O];rw[iP O]at h2;rw[qqn gR];decide
def qqc {L:List α} {b:α->Rat}:npos L b+npos L (λi=> -b i)<=L.length:=by
 unfold npos;induction L with
 |nil=>exact zH _
 |cons i L ih=>
  rw[zZ1,zZ1,zD1];by_cases c:0<b i
  . rw[iP (decide_eq_true c),iN' (by rw[decide_eq_true_eq];grind),zD1];omega
  . rw[iN' (by rw[decide_eq_true_eq];exact c)]
    split
    . rw[zD1];omega
    . omega
def qok {l:List Rat} {k:Nat} (h:l.length<k):EE l dl0 k=0:=qpu (M:=0) (λk hk=>by unfold dl0;rw[iN' O]) _ O
def qu8 {c:Nat->Rat} (r:Nat): ∀(s:Nat),Go.Vs.F.alt (-sAl s) ((List.range r).map λi=>c (s+i+1))=(List.range r).map λi=>sn (s+i+1)*c (s+i+1):=by
 induction r with
 |zero=>intro s;rfl
 |succ r ih=>
  intro s;rw[List.range_succ_eq_map,zj1,zx3,Go.Vs.F.alt,zj1,zx3,<-qqi];have e1:((λi=>c (s+i+1))∘Nat.succ)=λi=>c (s+1+i+1):=by funext i;show c (s+(i+1)+1)=_;congr 1;omega
  have e2:((λi=>sn (s+i+1)*c (s+i+1))∘Nat.succ)=λi=>sn (s+1+i+1)*c (s+1+i+1):=by funext i;show sn (s+(i+1)+1)*c (s+(i+1)+1)=_;rw[show s+(i+1)+1=s+1+i+1 by omega]
  rw[e1,e2,<-ih (s+1)];congr 1
  . rw[zM];unfold sAl sn;rcases zB2 s with h|h
    . have h2: ¬(s+1)%2=0:=O;simp only[h2,if_false];rw[iN' (by decide)];grind
    . have h2:(s+1)%2=0:=O;simp only[h2,if_true]
      grind
def qri {L:List α} (hn:L.Nodup) {A:α->α->Rat} (hs: ∀i∈L,∀j∈L,A i j=A j i) {V:α->α->Rat} {b:α->Rat} (hd:Dg L A V b) {c:Nat->Rat} (hc:NW (sp L A) c):
 (∀k,npos L b+npos L (λi=> -b i)<k->k<=L.length->c k=0)/\c (npos L b+npos L (λi=> -b i))≠0/\vs 1 (cs c (npos L b+npos L (λi=> -b i)))=npos L b:=by
 obtain⟨dl,R,h0,h1,hR,main⟩:=factors hn hs hd hc;have hle:=qqc (L:=L) (b:=b);generalize hpi:npos L b=Z at*;generalize hnu:npos L (λi=> -b i)=H at*
 refine⟨λk hk hkL=> ?_,?_,?_⟩
 . refine zh2 λhne=> ?_
   have hp:0<ab (c k)/2:=by
    have:=qob (c k);have:ab (c k)≠0:=by intro h;rw[h]at this;exact hne (by grind)
    grind
   obtain⟨P,Q,hP,hQ,_,_,h5⟩:=main _ hp;have h6:=h5 k hkL;rw[qok (by rw[zW];omega)]at h6
   have:=qob (c k);have h7:ab (c k)=c k\/ab (c k)= -c k:=by unfold ab;split<;>simp
   rcases h7 with h7|h7<;>rw[h7]at h6 hp<;>grind
 . have hp:0<dl^(Z+H)/2:=by have:=zu3 (n:=Z+H) h0;grind
   obtain⟨P,Q,hP,hQ,h3,h4,h5⟩:=main _ hp;have h6:=h5 (Z+H) hle
   have h7:=quc h0 (l:=P++Q) (λx hx=>by
    rcases zY.1 hx with hx|hx
    . exact .inl (h3 x hx).1
    . right;have:=(h4 x hx).1;grind)
   rw[zW,hP,hQ]at h7;intro hz;rw[hz]at h6;rcases h7 with h7|h7<;>grind
 . have hKp:=qrp (N:=L.length) h0 hR;obtain⟨t,ht0,ht1,ht2⟩:=min2 (zu3 (n:=Z) hKp) (zu3 (n:=H) hKp);obtain⟨P,Q,hP,hQ,h3,h4,h5⟩:=main (t/2) (by grind)
   have lo1:Z<=vs 1 (cs c (Z+H)):=by
    obtain⟨k,hk,hch⟩:=qso (N:=L.length) h0 h1 hR (f:=EE Q dl0) (M:=Q.length) (λi hi=>qok hi) qr6 P h3 O
    rw[<-qsn,hP]at hch
    have ha:Alt 1 (cs c k) Z:=CH.alt (r:=Z+H) (e:=t) (λk hk=>by
     have:=h5 k O;constructor<;>grind) O (hch.mono ht1)
    obtain⟨l,hl⟩:=cs_le (c:=c) (show k<=Z+H by omega)
    rw[hl];exact Alt.le_vs (.inl rfl) ha.app
   have lo2:H<=vs 1 (cs (λk=>sn k*c k) (Z+H)):=by
    have e1: ∀k,EE (Q.map (λx=> -x)++P.map λx=> -x) dl0 k=sn k*EE (P++Q) dl0 k:=by
     intro k
     have:(Q.map (λx=> -x)++P.map λx=> -x).Perm ((P++Q).map λx=> -x):=by
      rw[z01];exact List.perm_append_comm
     rw[qre this];refine quh (λk=> ?_) k
     unfold dl0;by_cases c:k=0
     . subst c;rw[iP rfl];show(1:Rat)=1*1;grind
     . rw[iN' c];grind
    obtain⟨k,hk,hch⟩:=qso (N:=L.length) h0 h1 hR (f:=EE (P.map λx=> -x) dl0) (M:=(P.map λx=> -x).length) (λi hi=>qok hi) qr6 (Q.map λx=> -x) (λx hx=>by
     obtain⟨z,hz,rfl⟩:=zi.1 hx;exact h4 z hz) (by rw[zQ1,zQ1];omega)
    rw[zQ1,zQ1]at hk;rw[<-qsn,zQ1,hQ]at hch
    have ha:Alt 1 (cs (λk=>sn k*c k) k) H:=CH.alt (r:=Z+H) (e:=t) (λk hk=>by
     have h6:=h5 k O;rw[e1];unfold sn;split<;>constructor<;>grind) O (hch.mono ht2)
    obtain⟨l,hl⟩:=cs_le (c:=λk=>sn k*c k) (show k<=Z+H by omega)
    rw[hl];exact Alt.le_vs (.inl rfl) ha.app
   have up:=qud (l:=cs c (Z+H)) (s:=1) (t:=1) (e:= -1) (u:=0) (.inl rfl) (.inr rfl) (by decide)
   have e2:Go.Vs.F.alt (-1) (cs c (Z+H))=cs (λk=>sn k*c k) (Z+H):=by
    have:=qu8 (c:=c) (Z+H) 0;simp only[zF]at this;exact this
   rw[e2,qp1]at up;omega
end Go.Vs.F
