import Derived.Test.YtoeiaipcgnjfcaaGreatDoorVc
import Derived.Test.YtoeiaipcgnjfcaaGreatDoorLf
import Derived.Test.YtoeiaipcgnjfcaaGreatDoorLg
import Derived.Test.YtoeiaipcgnjfcaaGreatDoorLe
set_option linter.unusedVariables false
set_option linter.unusedSectionVars false
set_option linter.unusedSimpArgs false
set_option linter.unusedSimpArgs false
set_option linter.defProp false
namespace Go.Vs.F
def sm {α:Type}:List α->(α->Rat)->Rat
 |[],_=>0
 |i::L,f=>f i+sm L f
variable {α β:Type}
@[simp] def sm_nil {f:α->Rat}:sm [] f=0:=rfl
def Yn {i:α} {L:List α} {f:α->Rat}:sm (i::L) f=f i+sm L f:=rfl
def q4g {L:List α} {f g:α->Rat} (h: ∀i∈L,f i=g i):sm L f=sm L g:=by
 induction L with
 |nil=>rfl
 |cons i L ih=>rw[Yn,Yn,h i mS,ih λj hj=>h j (mT hj)]
def qdo {L:List α} {f:α->Rat} (c:Rat):sm L (λi=>c*f i)=c*sm L f:=by
 induction L with
 |nil=>simp only[sm_nil];grind
 |cons i L ih=>rw[Yn,Yn,ih];grind
def sm_sb {L:List α} {f g:α->Rat}:sm L (λi=>f i-g i)=sm L f-sm L g:=by
 induction L with
 |nil=>simp only[sm_nil];grind
 |cons i L ih=>rw[Yn,Yn,Yn,ih];grind
def qlu {L:List α}:sm L (λ_=>(0:Rat))=0:=by
 induction L with
 |nil=>rfl
 |cons i L ih=>rw[Yn,ih];grind
def q95 {L:List α} {f:α->Rat} (h: ∀i∈L,f i=0):sm L f=0:=(q4g h).trans qlu
def qlp {L M:List α} {f:α->Rat} (h:L.Perm M):sm L f=sm M f:=by
 induction h with
 |nil=>rfl
 |cons x _ ih=>rw[Yn,Yn,ih]
 |swap x y l=>simp only[Yn];grind
 |trans _ _ ih1 ih2=>exact ih1.trans ih2
def qnm {L:List α} (hn:L.Nodup) {i:α} (hi:i∈L) {f:α->Rat} (h: ∀j∈L,j≠i->f j=0):sm L f=f i:=by
 induction L with
 |nil=>cases hi
 |cons j L ih=>
  rw[zy]at hn;rw[Yn];rcases mC hi with rfl|hi
  . rw[q95 λk hk=>h k (mT hk) (λe=>hn.1 (e▸hk))];grind
  . rw[h j mS (λe=>hn.1 (e▸hi)),ih hn.2 hi λk hk=>h k (mT hk)];grind
def hom [DecidableEq α]: ∀(R:List β) (U:List α) (C:β->α->Rat),U.Nodup->R.length<U.length-> ∃y:α->Rat,(∃i∈U,y i≠0)/\ ∀r∈R,sm U (λi=>C r i*y i)=0:=by
 intro R;induction R with
 |nil=>
  intro U C hn h;cases U with
  |nil=>simp at h
  |cons i U=>exact⟨λ_=>1,⟨i,mS,by grind⟩,λr hr=>by cases hr⟩
 |cons r R ih=>
  intro U C hn h;by_cases hz: ∀i∈U,C r i=0
  . obtain⟨y,h1,h2⟩:=ih U C hn (by simp at h;omega)
    refine⟨y,h1,λs hs=> ?_⟩
    rcases mC hs with rfl|hs
    . exact q95 λi hi=>by rw[hz i hi];grind
    . exact h2 s hs
  . simp only[Classical.not_forall]at hz;obtain⟨p,hp,hc⟩:=hz;have hP:U.Perm (p::U.erase p):=List.perm_cons_erase hp;have hn':(p::U.erase p).Nodup:=hP.nodup_iff.1 hn;rw[zy]at hn';obtain⟨y,⟨i,hi,hy⟩,h2⟩:=ih (U.erase p) (λs i=>C s i-C s p*C r i/C r p) hn'.2 (by rw[List.length_erase_of_mem hp];simp at h;omega)
    let v:= -sm (U.erase p) (λi=>C r i*y i)/C r p
    have hne: ∀j∈U.erase p,j≠p:=λj hj e=>hn'.1 (e▸hj)
    have hs: ∀s:β,sm U (λi=>C s i*(if i=p then v else y i))=C s p*v+sm (U.erase p) (λi=>C s i*y i):=by
     intro s;rw[qlp hP,Yn,iP rfl];congr 1;exact q4g λj hj=>by rw[iN' (hne j hj)]
    refine⟨λi=>if i=p then v else y i,⟨i,hP.mem_iff.2 (mT hi),by show(if i=p then v else y i)≠0;rw[iN' (hne i hi)];exact hy⟩,λs hs'=> ?_⟩
    rw[hs s];rcases mC hs' with rfl|hs'
    . show C s p*(-sm (U.erase p) (λi=>C s i*y i)/C s p)+_=0
      have:C s p*(-sm (U.erase p) (λi=>C s i*y i)/C s p)= -sm (U.erase p) (λi=>C s i*y i):=by grind
      rw[this];grind
    . have h3:=h2 s hs'
      have e:sm (U.erase p) (λi=>(C s i-C s p*C r i/C r p)*y i)=sm (U.erase p) (λi=>C s i*y i)-C s p/C r p*sm (U.erase p) (λi=>C r i*y i):=by
       rw[<-qdo,<-sm_sb];exact q4g λi _=>by grind
      rw[e]at h3;show C s p*(-sm (U.erase p) (λi=>C r i*y i)/C r p)+_=0
      grind
abbrev Mat:=Nat->Nat->Int
def d2 (M:Mat) (i p j q:Nat):Int:=M i j*M p q-M i q*M p j
def d3 (M:Mat) (i p r j q s:Nat):Int:=M i j*d2 M p r q s-M i q*d2 M p r j s+M i s*d2 M p r j q
def d4 (M:Mat) (i p r u j q s v:Nat):Int:=M i j*d3 M p r u q s v-M i q*d3 M p r u j s v+M i s*d3 M p r u j q v-M i v*d3 M p r u j q s
def chio2 {d n:Int} {t1 t2 f1 a1 a2 f2 b1 b2 x1 x2 y1 y2:Int} (h1:d*x1=n*a1-f1*t1) (h2:d*x2=n*a2-f1*t2) (h3:d*y1=n*b1-f2*t1) (h4:d*y2=n*b2-f2*t2):
 d*d*(x1*y2-x2*y1)=n*(n*(a1*b2-a2*b1)-t1*(f1*b2-a2*f2)+t2*(f1*b1-a1*f2)):=by
 have e:d*d*(x1*y2-x2*y1)=(d*x1)*(d*y2)-(d*x2)*(d*y1):=by grind
 rw[e,h1,h2,h3,h4];grind
def chio3 {d n:Int} {t1 t2 t3 f1 a1 a2 a3 f2 b1 b2 b3 f3 c1 c2 c3 x1 x2 x3 y1 y2 y3 z1 z2 z3:Int} (h1:d*x1=n*a1-f1*t1) (h2:d*x2=n*a2-f1*t2) (h3:d*x3=n*a3-f1*t3)
 (h4:d*y1=n*b1-f2*t1) (h5:d*y2=n*b2-f2*t2) (h6:d*y3=n*b3-f2*t3) (h7:d*z1=n*c1-f3*t1) (h8:d*z2=n*c2-f3*t2) (h9:d*z3=n*c3-f3*t3):
 d*d*d*(x1*(y2*z3-y3*z2)-x2*(y1*z3-y3*z1)+x3*(y1*z2-y2*z1))=
  n*n*(n*(a1*(b2*c3-b3*c2)-a2*(b1*c3-b3*c1)+a3*(b1*c2-b2*c1))-t1*(f1*(b2*c3-b3*c2)-a2*(f2*c3-b3*f3)+a3*(f2*c2-b2*f3))
   +t2*(f1*(b1*c3-b3*c1)-a1*(f2*c3-b3*f3)+a3*(f2*c1-b1*f3))-t3*(f1*(b1*c2-b2*c1)-a1*(f2*c2-b2*f3)+a2*(f2*c1-b1*f3))):=by
 have e:d*d*d*(x1*(y2*z3-y3*z2)-x2*(y1*z3-y3*z1)+x3*(y1*z2-y2*z1))=(d*x1)*((d*y2)*(d*z3)-(d*y3)*(d*z2))-(d*x2)*((d*y1)*(d*z3)-(d*y3)*(d*z1))+(d*x3)*((d*y1)*(d*z2)-(d*y2)*(d*z1)):=by grind
 rw[e,h1,h2,h3,h4,h5,h6,h7,h8,h9];grind
def qm8 {M:Mat} {i p j q:Nat}:d2 M p i j q= -d2 M i p j q:=by unfold d2;grind
def d2_eq {M:Mat} {i j q:Nat}:d2 M i i j q=0:=by unfold d2;grind
def qhf {M:Mat} {i p r j q s:Nat}:d3 M p i r j q s= -d3 M i p r j q s:=by simp only[d3,d2];grind
def qh5 {M:Mat} {i p r j q s:Nat}:d3 M r p i j q s= -d3 M i p r j q s:=by simp only[d3,d2];grind
def ql7 {M:Mat} {i r j q s:Nat}:d3 M i i r j q s=0:=by simp only[d3,d2];grind
def qlr {M:Mat} {i p j q s:Nat}:d3 M i p i j q s=0:=by simp only[d3,d2];grind
def qgq {M:Mat} {i p r u j q s v:Nat}:d4 M p i r u j q s v= -d4 M i p r u j q s v:=by simp only[d4,d3,d2];grind
def qh4 {M:Mat} {i p r u j q s v:Nat}:d4 M r p i u j q s v= -d4 M i p r u j q s v:=by simp only[d4,d3,d2];grind
def qhy {M:Mat} {i p r u j q s v:Nat}:d4 M u p r i j q s v= -d4 M i p r u j q s v:=by simp only[d4,d3,d2];grind
def qfy {M:Mat} {i r u j q s v:Nat}:d4 M i i r u j q s v=0:=by simp only[d4,d3,d2];grind
def qge {M:Mat} {i r u j q s v:Nat}:d4 M i r i u j q s v=0:=by simp only[d4,d3,d2];grind
def qh6 {M:Mat} {i r u j q s v:Nat}:d4 M i r u i j q s v=0:=by simp only[d4,d3,d2];grind
def qla {M:Mat} {i r u j q s v:Nat}:d4 M r i i u j q s v=0:=by simp only[d4,d3,d2];grind
def qmr {M:Mat} {i r u j q s v:Nat}:d4 M r i u i j q s v=0:=by simp only[d4,d3,d2];grind
def qmj {M:Mat} {i r u j q s v:Nat}:d4 M r u i i j q s v=0:=by simp only[d4,d3,d2];grind
def one2 {d n t1 t2 f b1 b2 y1 y2:Int} (h1:d*y1=n*b1-f*t1) (h2:d*y2=n*b2-f*t2):d*(t1*y2-t2*y1)=n*(t1*b2-t2*b1):=by
 have e:d*(t1*y2-t2*y1)=t1*(d*y2)-t2*(d*y1):=by grind
 rw[e,h1,h2];grind
def one3 {d n t1 t2 t3 f b1 b2 b3 g c1 c2 c3 y1 y2 y3 z1 z2 z3:Int} (h1:d*y1=n*b1-f*t1) (h2:d*y2=n*b2-f*t2) (h3:d*y3=n*b3-f*t3)
 (h4:d*z1=n*c1-g*t1) (h5:d*z2=n*c2-g*t2) (h6:d*z3=n*c3-g*t3):
 d*d*(t1*(y2*z3-y3*z2)-t2*(y1*z3-y3*z1)+t3*(y1*z2-y2*z1))=n*n*(t1*(b2*c3-b3*c2)-t2*(b1*c3-b3*c1)+t3*(b1*c2-b2*c1)):=by
 have e:d*d*(t1*(y2*z3-y3*z2)-t2*(y1*z3-y3*z1)+t3*(y1*z2-y2*z1))=t1*((d*y2)*(d*z3)-(d*y3)*(d*z2))-t2*((d*y1)*(d*z3)-(d*y3)*(d*z1))+t3*((d*y1)*(d*z2)-(d*y2)*(d*z1)):=by grind
 rw[e,h1,h2,h3,h4,h5,h6];grind
section
variable {M N:Mat} {d n:Int} {t c:Nat} {f:Nat->Int}
def one4 {p r u:Nat} (ht: ∀j,N t j=M t j) (hp: ∀j,d*N p j=n*M p j-f p*M t j) (hr: ∀j,d*N r j=n*M r j-f r*M t j) (hu: ∀j,d*N u j=n*M u j-f u*M t j) (j q s v:Nat):
 d*d*d*d4 N t p r u j q s v=n*n*n*d4 M t p r u j q s v:=by
 have k: ∀j q s,d*d*d*d3 N p r u j q s=(d*N p j)*((d*N r q)*(d*N u s)-(d*N r s)*(d*N u q))-(d*N p q)*((d*N r j)*(d*N u s)-(d*N r s)*(d*N u j))+(d*N p s)*((d*N r j)*(d*N u q)-(d*N r q)*(d*N u j)):=λj q s=>by
  simp only[d3,d2];grind
 have e:d*d*d*d4 N t p r u j q s v=M t j*(d*d*d*d3 N p r u q s v)-M t q*(d*d*d*d3 N p r u j s v)+M t s*(d*d*d*d3 N p r u j q v)-M t v*(d*d*d*d3 N p r u j q s):=by
  simp only[d4,ht];grind
 rw[e,k,k,k,k];simp only[hp,hr,hu,d4,d3,d2]
 grind
end
structure DivM (R:Nat) (M:Mat) (d:Int):Prop where
 m2: ∀i p j q,i<R->p<R->d∣d2 M i p j q
 m3: ∀i p r j q s,i<R->p<R->r<R->d*d∣d3 M i p r j q s
 m4: ∀i p r u j q s v,i<R->p<R->r<R->u<R->d*d*d∣d4 M i p r u j q s v
def DivM.one (R:Nat) (M:Mat):DivM R M 1:=⟨λ_ _ _ _ _ _=>Int.one_dvd _,λ_ _ _ _ _ _ _ _ _=>Int.one_dvd _,λ_ _ _ _ _ _ _ _ _ _ _ _=>Int.one_dvd _⟩
def stepM (M:Mat) (t c:Nat) (d:Int):Mat:=λi j=>if i=t then M t j else(M t c*M i j-M i c*M t j)/d
def dvd_of_eq {n x y:Int} {k:Int} (hd:k≠0) (h:k*x=n*y) (hy:k∣y):n∣x:=by
 obtain⟨e,rfl⟩:=hy;refine⟨e,?_⟩;have:k*x=k*(n*e):=by rw[h];grind
 exact Int.eq_of_mul_eq_mul_left hd this
section
variable {R:Nat} (hR:R<=4) {M:Mat} {d:Int} (h:DivM R M d) {t c:Nat} (ht:t<R) (hd:d≠0)
include hR h ht hd
theorem step_eq {i j:Nat} (hi:i<R) (hit:i≠t):d*stepM M t c d i j=M t c*M i j-M i c*M t j:=by
 unfold stepM;rw[iN' hit];have e:M t c*M i j-M i c*M t j=d2 M t i c j:=by unfold d2;grind
 rw[e];exact Int.mul_ediv_cancel' (h.m2 t i c j ht hi)
theorem q4i {j:Nat}:stepM M t c d t j=M t j:=iP rfl
theorem step2 {i p j q:Nat} (hi:i<R) (hp:p<R):M t c∣d2 (stepM M t c d) i p j q:=by
 have S:=λ{i j:Nat} (hi:i<R) (hit:i≠t)=>step_eq hR h ht hd (c:=c) (j:=j) hi hit
 have T:=λ(j:Nat)=>q4i hR h ht hd (c:=c) (j:=j)
 by_cases c1:i=t
 . by_cases c2:p=t
   . rw[c1,c2,d2_eq];exact zi2 _
   . subst c1;refine dvd_of_eq (n:=M i c) hd (y:=d2 M i p j q) ?_ (h.m2 _ _ _ _ hi hp);have:=one2 (t1:=M i j) (t2:=M i q) (S hp c2 (j:=j)) (S hp c2 (j:=q));unfold d2;rw[T,T];exact this
 . by_cases c2:p=t
   . subst c2;rw[qm8];refine zM3.2 (dvd_of_eq (n:=M p c) hd (y:=d2 M p i j q) ?_ (h.m2 _ _ _ _ hp hi));have:=one2 (t1:=M p j) (t2:=M p q) (S hi c1 (j:=j)) (S hi c1 (j:=q));unfold d2;rw[T,T];exact this
   . refine dvd_of_eq (k:=d*d) (n:=M t c) (za2 hd hd) (y:=d3 M t i p c j q) ?_ (h.m3 _ _ _ _ _ _ ht hi hp);have:=chio2 (S hi c1 (j:=j)) (S hi c1 (j:=q)) (S hp c2 (j:=j)) (S hp c2 (j:=q));unfold d2 d3;rw[this];unfold d2;grind
theorem qhu {p r j q s:Nat} (hp:p<R) (hr:r<R):M t c*M t c∣d3 (stepM M t c d) t p r j q s:=by
 have S:=λ{i j:Nat} (hi:i<R) (hit:i≠t)=>step_eq hR h ht hd (c:=c) (j:=j) hi hit
 have T:=λ(j:Nat)=>q4i hR h ht hd (c:=c) (j:=j)
 by_cases c1:p=t
 . rw[c1,ql7];exact zi2 _
 by_cases c2:r=t
 . rw[c2,qlr];exact zi2 _
 refine dvd_of_eq (k:=d*d) (n:=M t c*M t c) (za2 hd hd) (y:=d3 M t p r j q s) ?_ (h.m3 _ _ _ _ _ _ ht hp hr);have:=one3 (t1:=M t j) (t2:=M t q) (t3:=M t s) (S hp c1 (j:=j)) (S hp c1 (j:=q)) (S hp c1 (j:=s)) (S hr c2 (j:=j)) (S hr c2 (j:=q)) (S hr c2 (j:=s));unfold d3 d2;rw[T,T,T];exact this
theorem step3 {i p r j q s:Nat} (hi:i<R) (hp:p<R) (hr:r<R):M t c*M t c∣d3 (stepM M t c d) i p r j q s:=by
 have S:=λ{i j:Nat} (hi:i<R) (hit:i≠t)=>step_eq hR h ht hd (c:=c) (j:=j) hi hit
 by_cases c1:i=t
 . rw[c1];exact qhu hR h ht hd hp hr
 by_cases c2:p=t
 . rw[c2,qhf];exact zM3.2 (qhu hR h ht hd hi hr)
 by_cases c3:r=t
 . rw[c3,qh5];exact zM3.2 (qhu hR h ht hd hp hi)
 refine dvd_of_eq (k:=d*d*d) (n:=M t c*M t c) (za2 (za2 hd hd) hd) (y:=d4 M t i p r c j q s) ?_ (h.m4 _ _ _ _ _ _ _ _ ht hi hp hr);have:=chio3 (S hi c1 (j:=j)) (S hi c1 (j:=q)) (S hi c1 (j:=s)) (S hp c2 (j:=j)) (S hp c2 (j:=q)) (S hp c2 (j:=s)) (S hr c3 (j:=j)) (S hr c3 (j:=q)) (S hr c3 (j:=s));unfold d3 d2;rw[this];unfold d4 d3 d2;grind
theorem qdw {p r u j q s v:Nat} (hp:p<R) (hr:r<R) (hu:u<R):M t c*M t c*M t c∣d4 (stepM M t c d) t p r u j q s v:=by
 have S:=λ{i j:Nat} (hi:i<R) (hit:i≠t)=>step_eq hR h ht hd (c:=c) (j:=j) hi hit
 have T:=λ(j:Nat)=>q4i hR h ht hd (c:=c) (j:=j)
 by_cases c1:p=t
 . rw[c1,qfy];exact zi2 _
 by_cases c2:r=t
 . rw[c2,qge];exact zi2 _
 by_cases c3:u=t
 . rw[c3,qh6];exact zi2 _
 exact dvd_of_eq (k:=d*d*d) (n:=M t c*M t c*M t c) (za2 (za2 hd hd) hd) (y:=d4 M t p r u j q s v)
  (one4 (f:=λi=>M i c) T (λj=>S hp c1) (λj=>S hr c2) (λj=>S hu c3) j q s v) (h.m4 _ _ _ _ _ _ _ _ ht hp hr hu)
theorem step4 {i p r u j q s v:Nat} (hi:i<R) (hp:p<R) (hr:r<R) (hu:u<R):M t c*M t c*M t c∣d4 (stepM M t c d) i p r u j q s v:=by
 by_cases c1:i=t
 . rw[c1];exact qdw hR h ht hd hp hr hu
 by_cases c2:p=t
 . rw[c2,qgq];exact zM3.2 (qdw hR h ht hd hi hr hu)
 by_cases c3:r=t
 . rw[c3,qh4];exact zM3.2 (qdw hR h ht hd hp hi hu)
 by_cases c4:u=t
 . rw[c4,qhy];exact zM3.2 (qdw hR h ht hd hp hr hi)
 have hcase:i=p\/i=r\/i=u\/p=r\/p=u\/r=u:=O
 have:d4 (stepM M t c d) i p r u j q s v=0:=by
  rcases hcase with rfl|rfl|rfl|rfl|rfl|rfl
  . exact qfy
  . exact qge
  . exact qh6
  . exact qla
  . exact qmr
  . exact qmj
 rw[this];exact zi2 _
theorem DivM.step:DivM R (stepM M t c d) (M t c):=
 ⟨λ_ _ _ _ hi hp=>step2 hR h ht hd hi hp,λ_ _ _ _ _ _ hi hp hr=>step3 hR h ht hd hi hp hr,λ_ _ _ _ _ _ _ _ hi hp hr hu=>step4 hR h ht hd hi hp hr hu⟩
end
end Go.Vs.F
set_option linter.unusedSectionVars false
namespace Go.Vs.F
def eqs (R:Nat) (M:Mat) (U:List Nat) (y:Nat->Rat):Prop:= ∀i,i<R->sm U (λj=>(M i j:Rat)*y j)=0
def swapR (M:Mat) (a b:Nat):Mat:=λi=>M (if i=a then b else if i=b then a else i)
def PVT (R:Nat) (M:Mat) (ps:List Nat) (d:Int):Prop:= ∀i,i<R-> ∀k (hk:k<ps.length),M i ps[k]=if i=k then d else 0
structure El (R:Nat) (A:Mat) (c:Nat) (M:Mat) (ps:List Nat) (d:Int):Prop where
 div:DivM R M d
 nz:d≠0
 pv:PVT R M ps d
 ker: ∀U y,eqs R A U y->eqs R M U y
 lt: ∀p∈ps,p<c
 nodup:ps.Nodup
 len:ps.length<=R
def El.start (R:Nat) (A:Mat):El R A 0 A [] 1:=
 ⟨DivM.one R A,by decide,λi _ k hk=>absurd hk (zW _),λ_ _ h=>h,(λ_ h=>by cases h),ze1,zU2 _⟩
def El.skip {R:Nat} {A:Mat} {c:Nat} {M:Mat} {ps:List Nat} {d:Int} (h:El R A c M ps d):El R A (c+1) M ps d:=
 {h with lt:=λp hp=>Nat.lt_succ_of_lt (h.lt p hp)}
def swap_lt {R a b i:Nat} (ha:a<R) (hb:b<R) (hi:i<R):(if i=a then b else if i=b then a else i)<R:=by split;exact hb;split;exact ha;exact hi
def El.swap {R:Nat} {A:Mat} {c:Nat} {M:Mat} {ps:List Nat} {d:Int} (h:El R A c M ps d) {a b:Nat} (ha:a<R) (hb:b<R) (ha':ps.length<=a) (hb':ps.length<=b):El R A c (swapR M a b) ps d:=
 {h with
  div:=⟨λi p j q hi hp=>h.div.m2 _ _ j q (swap_lt ha hb hi) (swap_lt ha hb hp),λi p r j q s hi hp hr=>h.div.m3 _ _ _ j q s (swap_lt ha hb hi) (swap_lt ha hb hp) (swap_lt ha hb hr),
   λi p r u j q s v hi hp hr hu=>h.div.m4 _ _ _ _ j q s v (swap_lt ha hb hi) (swap_lt ha hb hp) (swap_lt ha hb hr) (swap_lt ha hb hu)⟩
  pv:=λi hi k hk=>by
   have:=h.pv _ (swap_lt ha hb hi) k hk;show M _ _=_;rw[this]
   grind
  ker:=λU y hy i hi=>h.ker U y hy _ (swap_lt ha hb hi)}
def El.step {R:Nat} (hR:R<=4) {A:Mat} {c:Nat} {M:Mat} {ps:List Nat} {d:Int} (h:El R A c M ps d) (ht:ps.length<R) (hn:M ps.length c≠0):El R A (c+1) (stepM M ps.length c d) (ps++[c]) (M ps.length c):=by
 have S:=λ{i j:Nat} (hi:i<R) (hit:i≠ps.length)=>step_eq hR h.div ht h.nz (c:=c) (j:=j) hi hit
 have T:=λ(j:Nat)=>q4i hR h.div ht h.nz (c:=c) (j:=j)
 refine⟨DivM.step hR h.div ht h.nz,hn,λi hi k hk=> ?_,λU y hy i hi=> ?_,λp hp=> ?_,?_,by simp;omega⟩
 . by_cases ck:k<ps.length
   . have e:(ps++[c])[k]=ps[k]:=zF1 ck;rw[e];by_cases ci:i=ps.length
     . rw[ci,T,h.pv _ ht k ck,iN' O,iN' O]
     . have h1:=S hi ci (j:=ps[k]);rw[h.pv _ hi k ck,h.pv _ ht k ck,iN' (show¬ps.length=k by omega)]at h1
       refine Int.eq_of_mul_eq_mul_left h.nz ?_;rw[h1];split<;>grind
   . have ek:k=ps.length:=by simp at hk;omega
     subst ek;have e:(ps++[c])[ps.length]=c:=by simp
     rw[e];by_cases ci:i=ps.length
     . rw[ci,T,iP rfl]
     . have h1:=S hi ci (j:=c);rw[iN' ci];refine Int.eq_of_mul_eq_mul_left h.nz ?_;rw[h1];grind
 . have k1:=h.ker U y hy;by_cases ci:i=ps.length
   . have:=k1 _ ht;rw[ci];simp only[T];exact this
   . have e1:=k1 i hi;have e2:=k1 _ ht;have hd:(d:Rat)≠0:=by rw[Ne,<-Rat.intCast_zero,Rat.intCast_inj];exact h.nz
     have e:(d:Rat)*sm U (λj=>(stepM M ps.length c d i j:Rat)*y j)=(M ps.length c:Rat)*sm U (λj=>(M i j:Rat)*y j)-(M i c:Rat)*sm U (λj=>(M ps.length j:Rat)*y j):=by
      rw[<-qdo,<-qdo,<-qdo,<-sm_sb];refine q4g λj _=> ?_
      have h1:(d:Rat)*(stepM M ps.length c d i j:Rat)=(M ps.length c:Rat)*(M i j:Rat)-(M i c:Rat)*(M ps.length j:Rat):=by
       rw[<-Rat.intCast_mul,<-Rat.intCast_mul,<-Rat.intCast_mul,<-Rat.intCast_sub,S hi ci]
      grind
     rw[e1,e2]at e
     grind
 . rcases zH.1 hp with hp|hp
   . have:=h.lt p hp;omega
   . rw[zA.1 hp];omega
 . rw[zJ];exact⟨h.nodup,by simp,λa ha b hb e=>by rw[zA.1 hb]at e;have:=h.lt a ha;omega⟩
def q8m {α:Type} [DecidableEq α]: ∀{l m:List α},l.Nodup->(∀x∈l,x∈m)->l.length<=m.length
 |[],m,_,_=>zU2 _
 |x::l,m,hn,h=>by
  have hx:=h x mS;obtain⟨h1,h2⟩:=zy.1 hn;have:=q8m (m:=m.erase x) h2 λz hz=>(List.mem_erase_of_ne (by rintro rfl;exact h1 hz)).2 (h z (mT hz))
  have h3:=List.length_erase_of_mem hx;have h4:=List.length_pos_of_mem hx;rw[zq];omega
def q7h {α:Type} {f:α->Bool}: ∀{l:List α},l.length=(l.filter f).length+(l.filter λx=> !f x).length
 |[]=>rfl
 |x::l=>by
  have:=q7h (f:=f) (l:=l);rw[zH2,zH2];cases h:f x<;>simp<;>omega
def qm4 {R:Nat} {A:Mat} {c:Nat} {M:Mat} {ps:List Nat} {d:Int} (h:El R A c M ps d) {Rc Cc:List Nat} (hc: ∀i j,i<R->j<c->A i j≠0->i∈Rc\/j∈Cc):ps.length<=Rc.length+Cc.length:=by
 refine zB2 λhlt=> ?_
 obtain⟨U,hU⟩: ∃U,U=ps.filter (λp=> !Cc.contains p):=⟨_,rfl⟩
 have hUn:U.Nodup:=by rw[hU];exact h.nodup.sublist List.filter_sublist
 have hle:(ps.filter (λp=>Cc.contains p)).length<=Cc.length:=q8m (h.nodup.sublist List.filter_sublist) λx hx=>by
  simpa using(zd1.1 hx).2
 have hsum:ps.length=(ps.filter (λp=>Cc.contains p)).length+U.length:=by
  rw[hU];exact q7h
 obtain⟨y,⟨p,hp,hy⟩,hz⟩:=hom Rc U (λr i=>(A r i:Rat)) hUn O
 have hA:eqs R A U y:=λi hi=>by
  by_cases hr:i∈Rc
  . exact hz i hr
  . refine q95 λj hj=> ?_
    have hj2:j∉Cc:=by rw[hU]at hj;simpa using(zd1.1 hj).2
    have:A i j=0:=by
     refine Decidable.byContradiction λhne=> ?_
     rcases hc i j hi (h.lt j (by rw[hU]at hj;exact(zd1.1 hj).1)) hne with q|q
     . exact hr q
     . exact hj2 q
    rw[this];simp
 have hM:=h.ker U y hA;have hps:p∈ps:=by rw[hU]at hp;exact(zd1.1 hp).1
 obtain⟨k,hk,rfl⟩:=zV hps;have e:=hM k (by have:=h.len;omega)
 rw[qnm hUn hp (λj hj hne=>by
  have hj2:j∈ps:=by rw[hU]at hj;exact(zd1.1 hj).1
  obtain⟨l,hl,rfl⟩:=zV hj2;rw[h.pv k (by have:=h.len;omega) l hl,iN' (λe=>hne (by subst e;rfl))];simp),h.pv k (by have:=h.len;omega) k hk,iP rfl]at e
 have hd:(d:Rat)≠0:=by rw[Ne,<-Rat.intCast_zero,Rat.intCast_inj];exact h.nz
 rcases Rat.mul_eq_zero.1 e with e|e
 . exact hd e
 . exact hy e
def matR (R C:Nat) (M:Mat):List (List Bg):=mr R λi=>rowB C (M i)
def Yg {R C:Nat} {M:Mat}:(matR R C M).length=R:=q3t
def Ye {R C i:Nat} {M:Mat} (h:i<R):(matR R C M).getD i []=rowB C (M i):=qcc h
def Qw {C:Nat} {f:Nat->Int}:(rowB C f).length=C:=q3t
def Yc {C j:Nat} {f:Nat->Int} (h:j<C):(rowB C f).getD j (false,[])=BZ (f j):=qcc h
def qfx:zlen 0=0:=by unfold zlen;rw[show(0:Int).natAbs=0 from rfl,Qc];rfl
def q0w {z:Int}:zlen (-z)=zlen z:=by unfold zlen;rw[Int.natAbs_neg]
section
variable {m:Nat} (hm:5000000<=m) {R C:Nat} (hR:R<=16) (hC:C<=16)
include hm hR hC
theorem q91 {M:Mat} (h0:0<R):g48 m (matR R C M)=some ((C:Int),(),()):=by
 rw[g48,Yg,bif_eq,iN' O,iP O,Ye h0,Qw]
theorem qhj {M:Mat}: ∀(N i:Nat),R-i<N->i<=R->g197L0 m N (matR R C M) ([(C:Int)],0) (R:Int) (i:Int)=some (.inr (.inl ())):=by
 intro N;induction N with
 |zero=>intro a h;omega
 |succ N ih=>
  intro i h hi;rw[g197L0,Yg];by_cases c:i<R
  . simp only[tN,Ye c];rw[bQ,iP O,iP O,g122,Qw,bS];dsimp only;rw[show([(C:Int)].getD 0 0)=(C:Int)from rfl,bif_ne,iP rfl,wQ,wsucc O]
    exact ih (i+1) O O
  . rw[bQ,iN' O]
theorem qkx {M:Mat} (h0:0<R):g45 m (matR R C M)=some (0,(),()):=by
 rw[g45,q91 hm hR hC h0,bS,g121,g197,Yg];dsimp only;rw[show g197L0 m m (matR R C M) ([(C:Int)],0) (R:Int) 0=_ from qhj hm hR hC m 0 O O,bS]
 dsimp only;rw[bS,bS];dsimp only;rw[bQ,iN' O,bQ,iN' O,bQ,show([(C:Int)].getD 0 0)=(C:Int)from rfl,iN' O]
theorem qje {A:Mat} (h1: ∀i k,i<R->k<C->zlen (A i k)<=1000000): ∀(N i:Nat),R-i<N->i<=R->
 g47L0 m N [] (mr i λi=>rowB C (A i)) (matR R C A) (R:Int) (i:Int)=some (.inl (matR R C A,())):=by
 intro N;induction N with
 |zero=>intro k h;omega
 |succ N ih=>
  intro i h hi;rw[g47L0,Yg];by_cases c:i<R
  . have e0:=qls (m:=m) O (n:=C) O (λk hk=>h1 i k c hk) [] (mr i λi=>rowB C (A i)) (i:Int) (matR R C A) (R:Int) (i:Int) m 0 O O
    rw[qg3]at e0;simp only[tN,Ye c,Qw];rw[bQ,iP O,iP O];rw[show g47L1 m m [] (mr i λi=>rowB C (A i)) (i:Int) [] (matR R C A) (R:Int) (i:Int) (rowB C (A i)) (C:Int) 0=_ from e0,bS]
    dsimp only;have hl:(mr i λi=>rowB C (A i)).length=i:=q3t
    rw[bQ,iN' (by show¬((i:Int)<((0:Nat):Int));omega),hl,iP (by show 0<1/\i+1<=_;omega),wQ,wsucc O]
    have e1:(mr i λi=>rowB C (A i))++[rowB C (A i)]=mr (i+1) λi=>rowB C (A i):=qj2 (f:=λi=>rowB C (A i))
    rw[e1];exact ih (i+1) O O
  . have:i=R:=O;subst this;rw[bQ,iN' O];rfl
theorem twinR {A:Mat} (h1: ∀i k,i<R->k<C->zlen (A i k)<=1000000):g47 m (matR R C A) []=some (matR R C A,(),(),()):=by
 rw[g47,Yg];have e0:=qje hm hR hC h1 m 0 O O;rw[qg3]at e0;rw[show g47L0 m m [] [] (matR R C A) (R:Int) 0=_ from e0,bS]
end
section
variable {m:Nat} (hm:5000000<=m)
include hm
theorem bSub {a b:Int} (ha:zlen a<=1000000) (hb:zlen b<=1000000):g281 m (zB a).1 (zB a).2.1 (zB b).1 (zB b).2.1=some (zB (a-b),(),(),()):=by
 rw[qn6 O (Sz_zB ha) (Sz_zB hb),zv_zB,zv_zB]
theorem bQuo {a b:Int} (hb:b≠0) (ha:zlen a<=400000) (hbl:zlen b<=400000) (hd:b∣a):g53 m (zB a).1 (zB a).2.1 (BZ b).1 (BZ b).2=some ((zB (a/b),0,()),(),(),()):=by
 obtain⟨q,rfl⟩:=hd;rw[Int.mul_ediv_cancel_left _ hb];have hbn:b.natAbs≠0:=O;have e1:(b*q).natAbs/b.natAbs=q.natAbs:=by rw[zq2,Nat.mul_div_cancel_left _ O]
 have e2:(b*q).natAbs%b.natAbs=0:=by rw[zq2,Nat.mul_mod_right]
 have a2:(zB (b*q)).2.1=lim (b*q).natAbs:=rfl;have b2:(BZ b).2=lim b.natAbs:=rfl;have a1:(zB (b*q)).1=decide (b*q<0):=rfl;have b1:(BZ b).1=decide (b<0):=rfl;have hbl':(lim b.natAbs).length≠0:=λh=>hbn (q1e.1 (zv1 h))
 have hal:(lim (b*q).natAbs).length<=400000:=ha;have hbl2:(lim b.natAbs).length<=400000:=hbl;have hq:(lim q.natAbs).length<=1000000:=zn (Qi (by rw[zq2];exact Nat.le_mul_of_pos_left _ O)) (by omega:(lim (b*q).natAbs).length<=1000000)
 rw[g53,g127,a1,a2,b1,b2,Qx (Qk b.natAbs) O O,Ql,bS];dsimp only;rw[bif_eq,iN' O,Qx (Qk (b*q).natAbs) O O,Ql,bS];dsimp only;rw[qa8 hm hbn hal O,bS];dsimp only;rw[e1,e2,Qc]
 have big: ∀neg:Bool,(q≠0->(neg=true↔q<0))->g117 m neg (lim q.natAbs)=some (zB q,(),(),()):=by
  intro neg hneg;rw[bigN O O];congr 2;by_cases hz:q=0
  . rw[hz];cases neg<;>rfl
  . have:=hneg hz;cases neg
    . have: ¬q<0:=λh=>by have:=this.2 h;cases this
      rw[iN' (by decide)];congr 1;omega
    . have:q<0:=this.1 rfl;rw[iP rfl];congr 1;omega
 have bigz:g117 m false []=some (zB 0,(),(),()):=by
  have:=bigN (m:=m) O (n:=0) (by rw[Qc];simp) false
  rw[Qc]at this;exact this
 have z0:(zB 0).2.1=[]:=Qc
 have hsg:q≠0->((!(decide (b*q<0)==decide (b<0)))=true↔q<0):=by
  intro hz;have hm1:(0<b->0<q->0<b*q):=λh1 h2=>Int.mul_pos h1 h2
  have hm2:(0<b->q<0->b*q<0):=λh1 h2=>Int.mul_neg_of_pos_of_neg h1 h2
  have hm3:(b<0->0<q->b*q<0):=λh1 h2=>Int.mul_neg_of_neg_of_pos h1 h2
  have hm4:(b<0->q<0->0<b*q):=λh1 h2=>Int.mul_pos_of_neg_of_neg h1 h2
  generalize b*q=p at*
  by_cases c1:p<0<;>by_cases c2:b<0<;>simp[c1,c2]<;>omega
 generalize (!(decide (b*q<0)==decide (b<0)))=neg at*
 cases hc:decide (b*q<0)
 . rw[cond_false,big neg hsg,bS,bigz,bS,bS];dsimp only;rw[z0];rfl
 . rw[cond_true,bQ];rw[iN' (show¬((([]:LI).length:Nat):Int)>0 by simp),big neg hsg,bS,bigz,bS,bS]
   dsimp only;rw[z0];rfl
end
def Jd {C:Nat} {f g:Nat->Int} (h: ∀j,j<C->f j=g j):rowB C f=rowB C g:=q2v λj hj=>congrArg BZ (h j hj)
def Jq {R C:Nat} {M N:Mat} (h: ∀i,i<R->M i=N i):matR R C M=matR R C N:=q2v λi hi=>congrArg (rowB C) (h i hi)
def q4k {C k:Nat} {f:Nat->Int} {v:Int}:(rowB C f).set k (BZ v)=rowB C (λj=>if j=k then v else f j):=by
 unfold rowB;rw[ql1];exact q2v λj _=>by dsimp only;split<;>rfl
def q4o {R C k:Nat} {M:Mat} {f:Nat->Int}:(matR R C M).set k (rowB C f)=matR R C (λi=>if i=k then f else M i):=by
 unfold matR;rw[ql1];exact q2v λj _=>by dsimp only;split<;>rfl
section
variable {m:Nat} (hm:5000000<=m) {R C:Nat} (hR:R<=16) (hC:C<=16) {L:Nat} (hL:L<=100000)
include hm hR hC hL
theorem qk1 {a t:Nat->Int} {f n d:Int} (hd:d≠0) (ha: ∀j,j<C->zlen (a j)<=L) (ht: ∀j,j<C->zlen (t j)<=L) (hf:zlen f<=L) (hn:zlen n<=L) (hdl:zlen d<=L) (hx: ∀j,j<C->d∣n*a j-f*t j): ∀(N k:Nat),C-k<N->k<=C->
 g198L0 m N (rowB C λj=>if j<k then(n*a j-f*t j)/d else a j) (rowB C t) (BZ f).1 (BZ f).2 (BZ n).1 (BZ n).2 (BZ d).1 (BZ d).2 (C:Int) (k:Int)=some (.inl (rowB C (λj=>(n*a j-f*t j)/d),rowB C t,())):=by
 intro N;induction N with
 |zero=>intro k h;omega
 |succ N ih=>
  intro k h hk;rw[g198L0,bQ,Qw,Qw];by_cases c:k<C
  . have l1:zlen (n*a k)<=2*L:=zn q21 (by have:=ha k c;omega)
    have l2:zlen (f*t k)<=2*L:=zn q21 (by have:=ht k c;omega)
    have l3:zlen (n*a k-f*t k)<=2*L+1:=by rw[Int.sub_eq_add_neg];exact q98 l1 (by rw[q0w];exact l2)
    rw[iP O,iP O,iP O,tN,zI,Yc c,Yc c];rw[iN' (zy2 k),bMul O (by have:=ha k c;omega),bS,bMul O (by have:=ht k c;omega),bS]
    dsimp only;rw[bSub hm O O,bS];dsimp only;rw[bQuo hm hd O O (hx k c),bS];dsimp only;rw[iP O,show wI ((k:Int)+1)=((k+1:Nat):Int)from wsucc O,show((zB ((n*a k-f*t k)/d)).1,(zB ((n*a k-f*t k)/d)).2.1)=BZ ((n*a k-f*t k)/d)from rfl,q4k]
    have e:(rowB C λj=>if j=k then(n*a k-f*t k)/d else if j<k then(n*a j-f*t j)/d else a j)=rowB C λj=>if j<k+1 then(n*a j-f*t j)/d else a j:=by
     refine Jd λj _=> ?_
     by_cases c1:j=k
     . subst c1;rw[iP rfl,iP O]
     . rw[iN' c1];by_cases c2:j<k
       . rw[iP c2,iP O]
       . rw[iN' c2,iN' O]
    rw[e];exact ih (k+1) O O
  . have e:(rowB C λj=>if j<k then(n*a j-f*t j)/d else a j)=rowB C λj=>(n*a j-f*t j)/d:=Jd λj hj=>by rw[iP O]
    rw[iN' O,e]
theorem qni {a t:Nat->Int} {f n d:Int} (hd:d≠0) (ha: ∀j,j<C->zlen (a j)<=L) (ht: ∀j,j<C->zlen (t j)<=L) (hf:zlen f<=L) (hn:zlen n<=L) (hdl:zlen d<=L) (hx: ∀j,j<C->d∣n*a j-f*t j):
 g198 m (rowB C a) (rowB C t) (BZ f).1 (BZ f).2 (BZ n).1 (BZ n).2 (BZ d).1 (BZ d).2=some ((),(rowB C (λj=>(n*a j-f*t j)/d),rowB C t,(),(),(),())):=by
 have h:=qk1 hm hR hC hL hd ha ht hf hn hdl hx m 0 O O;have e:(rowB C λj=>if j<0 then(n*a j-f*t j)/d else a j)=rowB C a:=Jd λj _=>by rw[iN' O]
 rw[e,nZ]at h;rw[g198,Qw,h,bS]
section
variable (hR4:R<=4) {M:Mat} {d:Int} (hdv:DivM R M d) (hd:d≠0) (hs: ∀i j,i<R->j<C->zlen (M i j)<=L) (hdl:zlen d<=L) {t c:Nat} (ht:t<R) (hc:c<C)
include hR4 hdv hd hs hdl ht hc
theorem qjg (ps:LI) (s:Int): ∀(N k:Nat),R-k<N->k<=R->
 g123L0 m N (matR R C λi=>if i<k then stepM M t c d i else M i) ps (BZ d).1 (BZ d).2 s (c:Int) (t:Int) (BZ (M t c)).1 (BZ (M t c)).2 (R:Int) (k:Int)=
  some (.inl ((matR R C (stepM M t c d),ps,(BZ d).1,(BZ d).2,s,()),(c:Int),((BZ (M t c)).1,(BZ (M t c)).2,()),())):=by
 intro N;induction N with
 |zero=>intro k h;omega
 |succ N ih=>
  intro k h hk;rw[g123L0,bQ,Yg];by_cases ck:k<R
  . have ws:wI ((k:Int)+1)=((k+1:Nat):Int):=wsucc O
    have et:(if t<k then stepM M t c d t else M t)=M t:=by
     split
     . funext j;exact iP rfl
     . rfl
    rw[iP O,iP O,bif_ne,ws];by_cases c1:k=t
    . subst c1;rw[iP rfl]
      have e:(matR R C λi=>if i<k then stepM M k c d i else M i)=matR R C λi=>if i<k+1 then stepM M k c d i else M i:=by
       refine Jq λi _=> ?_
       by_cases c2:i<k
       . rw[iP c2,iP O]
       . rw[iN' c2];by_cases c3:i=k
         . subst c3;rw[iP O];exact funext λj=>(iP rfl).symm
         . rw[iN' O]
      rw[e];exact ih (k+1) O O
    . have hsw:=qni hm hR hC hL (a:=M k) (t:=M t) (f:=M k c) (n:=M t c) hd (λj hj=>hs k j ck hj) (λj hj=>hs t j ht hj) (hs k c ck hc) (hs t c ht hc) hdl (λj _=>by
       have:=hdv.m2 t k c j ht ck;unfold d2 at this
       rwa [Int.mul_comm (M t j)]at this)
      simp only[tN,Ye ck,Ye ht,et];rw[iN' O,iN' (zy2 k),Qw,iP O,iP O,iP c1,Yc hc,hsw,bS];dsimp only;rw[q4o,q4o]
      have e:(matR R C λi=>if i=t then M t else if i=k then λj=>(M t c*M k j-M k c*M t j)/d else if i<k then stepM M t c d i else M i)=matR R C λi=>if i<k+1 then stepM M t c d i else M i:=by
       refine Jq λi _=> ?_
       by_cases c2:i=t
       . subst c2;rw[iP rfl];split
         . funext j;exact(iP rfl).symm
         . rfl
       . rw[iN' c2];by_cases c3:i=k
         . subst c3;rw[iP rfl,iP O]
           funext j;exact(iN' c2).symm
         . rw[iN' c3];by_cases c4:i<k
           . rw[iP c4,iP O]
           . rw[iN' c4,iN' O]
      rw[e];exact ih (k+1) O O
  . have e:(matR R C λi=>if i<k then stepM M t c d i else M i)=matR R C (stepM M t c d):=Jq λi hi=>by rw[iP O]
    rw[iN' O,e]
end
end
def nI (ps:List Nat):LI:=ps.map λ(p:Nat)=>(p:Int)
def q5s {ps:List Nat}:(nI ps).length=ps.length:=zc1 ..
def qhl {ps:List Nat} {c:Nat}:nI ps++[(c:Int)]=nI (ps++[c]):=by unfold nI;rw[zy1];rfl
def qmz {ps:List Nat} {k:Nat} (h:k<ps.length):(nI ps).getD k 0=((ps[k]:Nat):Int):=by simp[nI,List.getD,h]
def SzM (R C:Nat) (M:Mat) (d:Int) (L:Nat):Prop:=(∀i j,i<R->j<C->zlen (M i j)<=L)/\zlen d<=L
def SzM.mono {R C:Nat} {M:Mat} {d:Int} {L L':Nat} (h:SzM R C M d L) (hl:L<=L'):SzM R C M d L':=⟨λi j hi hj=>zn (h.1 i j hi hj) hl,zn h.2 hl⟩
def qjv {a b:Int}:zlen (a/b)<=zlen a:=Qi (Int.natAbs_ediv_le_natAbs _ _)
def SzM.step {R C:Nat} {M:Mat} {d:Int} {L:Nat} (h:SzM R C M d L) {t c:Nat} (ht:t<R) (hc:c<C):SzM R C (stepM M t c d) (M t c) (2*L+1):=by
 refine⟨λi j hi hj=> ?_,zn (h.1 t c ht hc) O⟩
 unfold stepM;split
 . exact zn (h.1 t j ht hj) O
 . refine zn qjv ?_;have a1:=h.1 t c ht hc;have a2:=h.1 i j hi hj;have a3:=h.1 i c hi hc;have a4:=h.1 t j ht hj;rw[Int.sub_eq_add_neg];exact q98 (zn q21 O) (by rw[q0w];exact zn q21 O)
section
variable {m:Nat} (hm:5000000<=m) {R C:Nat} (hR:R<=4) (hC:C<=4) {A:Mat}
include hm hR hC
theorem qic {L:Nat} (hL:L<=100000) {M:Mat} {ps:List Nat} {d:Int} {c:Nat} (h:El R A c M ps d) (hs:SzM R C M d L) (hc:c<C) {at':Nat} (h1:ps.length<=at') (h2:at'<R) (hn:M at' c≠0) (s:Int):
 ∃M' d' s',g123 m (matR R C M) (nI ps) (BZ d).1 (BZ d).2 s (c:Int) (ps.length:Int) (at':Int)=some ((),(matR R C M',nI (ps++[c]),(BZ d').1,(BZ d').2,s',()),(),(),(),())/\El R A (c+1) M' (ps++[c]) d'/\SzM R C M' d' (2*L+1):=by
 have ht:ps.length<R:=O
 have go: ∀(N:Mat) (s':Int),El R A c N ps d->SzM R C N d L->N ps.length c≠0->
  g123L0 m m (matR R C N) (nI ps) (BZ d).1 (BZ d).2 s' (c:Int) (ps.length:Int) (BZ (N ps.length c)).1 (BZ (N ps.length c)).2 (R:Int) 0=some (.inl ((matR R C (stepM N ps.length c d),nI ps,(BZ d).1,(BZ d).2,s',()),(c:Int),((BZ (N ps.length c)).1,(BZ (N ps.length c)).2,()),())):=λN s' hN hS hne=>by
  have e:=qjg hm (R:=R) (C:=C) O O hL hR hN.div hN.nz hS.1 hS.2 ht hc (nI ps) s' m 0 O O;have e2:(matR R C λi=>if i<0 then stepM N ps.length c d i else N i)=matR R C N:=Jq λi _=>by rw[iN' O]
  rw[e2,nZ]at e;exact e
 rw[g123,bQ];by_cases ca:at'=ps.length
 . subst ca;rw[iN' O,Yg];simp only[tN,Ye ht,Qw];rw[iP O,iP O,Yc hc,go M s h hs hn,bS];dsimp only;rw[iP (by rw[q5s];show _+1<=_;omega),qhl]
   exact⟨_,_,_,rfl,h.step hR ht hn,hs.step ht hc⟩
 . have hN:El R A c (swapR M ps.length at') ps d:=h.swap ht h2 (zD _) h1;have hS:SzM R C (swapR M ps.length at') d L:=⟨λi j hi hj=>hs.1 _ j (swap_lt ht h2 hi) hj,hs.2⟩
   have et:swapR M ps.length at' ps.length=M at':=by unfold swapR;rw[iP rfl]
   have hne:swapR M ps.length at' ps.length c≠0:=by rw[et];exact hn
   have e1:((matR R C M).set ps.length (rowB C (M at'))).set at' (rowB C (M ps.length))=matR R C (swapR M ps.length at'):=by
    rw[q4o,q4o];refine Jq λi _=> ?_
    unfold swapR;by_cases c1:i=at'
    . subst c1;rw[iP rfl,iN' ca,iP rfl]
    . rw[iN' c1];by_cases c2:i=ps.length
      . rw[iP c2,iP c2]
      . rw[iN' c2,iN' c2,iN' c1]
   rw[iP O];simp only[tN,Ye ht,Ye h2,e1,Yg,Qw,zZ];rw[iP O,iP O,iP O,iP ⟨trivial,O⟩,iP O,iP trivial,iP O,iP O,Yc hc,go _ _ hN hS hne,bS];dsimp only;rw[iP (by rw[q5s];show _+1<=_;omega),qhl]
   exact⟨_,_,_,rfl,hN.step hR ht hne,hS.step ht hc⟩
theorem qm2 {L:Nat} (hL:L<=100000) {M:Mat} {ps:List Nat} {d:Int} {c:Nat} (h:El R A c M ps d) (hs:SzM R C M d L) (hc:c<C) (s:Int) (q0:List (List Bg)) (q1:LI) (q2:Bool) (q3:LI) (q4 t12 t13:Int): ∀(N k:Nat),R-k<N->ps.length<=k->k<=R->
 ∃M' ps' d' s',(g46L1 m N q0 q1 q2 q3 q4 (matR R C M) (nI ps) (BZ d).1 (BZ d).2 s (c:Int) (ps.length:Int) (k:Int) t12 t13=some (.inl ((),(q0,q1,q2,q3,q4,()),(matR R C M',nI ps',(BZ d').1,(BZ d').2,s',()),t12,t13,()))\/
  g46L1 m N q0 q1 q2 q3 q4 (matR R C M) (nI ps) (BZ d).1 (BZ d).2 s (c:Int) (ps.length:Int) (k:Int) t12 t13=some (.inr (.inl ((),(q0,q1,q2,q3,q4,()),(matR R C M',nI ps',(BZ d').1,(BZ d').2,s',()),t12,t13,()))))/\El R A (c+1) M' ps' d'/\SzM R C M' d' (2*L+1):=by
 intro N;induction N with
 |zero=>intro k h;omega
 |succ N ih=>
  intro k hN h1 h2;rw[g46L1,bQ,Yg];by_cases ck:k<R
  . simp only[tN,Ye ck,Qw,Yc hc];rw[iP O,iP O,iP O,bSign O (zn (hs.1 k c ck hc) O),bS,bif_ne];dsimp only;by_cases hz:M k c=0
    . rw[iP (Zb.2 hz),show wI ((k:Int)+1)=((k+1:Nat):Int)from wsucc O]
      exact ih (k+1) O O O
    . obtain⟨M',d',s',e,e1,e2⟩:=qic hm hR hC hL h hs hc h1 ck hz s;rw[iN' (λe=>hz (Zb.1 e)),e,bS]
      exact⟨M',_,d',s',.inl rfl,e1,e2⟩
  . rw[iN' O];exact⟨M,ps,d,s,.inr rfl,h.skip,hs.mono O⟩
def szL (L0:Nat):Nat->Nat
 |0=>L0
 |c+1=>2*szL L0 c+1
theorem qkm {L0:Nat} (h:L0<=5000): ∀{c:Nat},c<=4->szL L0 c<=100000:=λ{c} hc=>by
 rcases(show c=0\/c=1\/c=2\/c=3\/c=4 by omega)with rfl|rfl|rfl|rfl|rfl<;>simp only[szL]<;>omega
theorem qme {L0:Nat} (hL:L0<=5000) (q0:List (List Bg)) (q1:LI) (q2:Bool) (q3:LI) (q4:Int): ∀(N c:Nat) (M:Mat) (ps:List Nat) (d s:Int),C-c<N->c<=C->El R A c M ps d->SzM R C M d (szL L0 c)->
 ∃M' ps' d' s',g46L0 m N q0 q1 q2 q3 q4 (matR R C M) (nI ps) (BZ d).1 (BZ d).2 s (C:Int) (c:Int)=some (.inl ((),(q0,q1,q2,q3,q4,()),(matR R C M',nI ps',(BZ d').1,(BZ d').2,s',()),()))/\El R A C M' ps' d'/\SzM R C M' d' 100000:=by
 intro N;induction N with
 |zero=>intro c M ps d s h;omega
 |succ N ih=>
  intro c M ps d s hN hc h hs;rw[g46L0,bQ];by_cases cc:c<C
  . rw[iP O,q5s];obtain⟨M',ps',d',s',e,e1,e2⟩:=qm2 hm hR hC (qkm hm hR hC hL O) h hs cc s q0 q1 q2 q3 q4 (C:Int) (c:Int) m ps.length O (zD _) h.len;have ws:wI ((c:Int)+1)=((c+1:Nat):Int):=wsucc O;rcases e with e|e
    . rw[e,bS];dsimp only;rw[ws];exact ih (c+1) M' ps' d' s' O O e1 e2
    . rw[e,bS];dsimp only;rw[ws];exact ih (c+1) M' ps' d' s' O O e1 e2
  . have:c=C:=O;subst this;rw[iN' O];exact⟨M,ps,d,s,rfl,h,hs.mono (qkm hm hR hC hL O)⟩
theorem qfl (hA: ∀i j,i<R->j<C->zlen (A i j)<=5000): ∃M ps d s,g46 m (matR R C A) (C:Int)=some ((matR R C M,nI ps,(BZ d).1,(BZ d).2,s,()),(),(),())/\El R A C M ps d/\SzM R C M d 100000:=by
 have h1:g111 m 1=some (zB 1,(),()):=q70 O (by decide) (by decide)
 obtain⟨M,ps,d,s,e,e1,e2⟩:=qme hm hR hC (L0:=5000) O [] [] false [] 0 m 0 A [] 1 1 O O (El.start R A) ⟨hA,by show zlen 1<=5000;exact zn (show zlen 1<=1 from Xc (by decide)) O⟩
 rw[g46,h1,bS];rw[show g46L0 m m [] [] false [] 0 (matR R C A) [] (zB 1).1 (zB 1).2.1 1 (C:Int) 0=_ from e,bS]
 exact⟨M,ps,d,s,rfl,e1,e2⟩
end
def qk5 (n:Nat): ∃P:Nat,∀z:Int,zlen z<=n->z.natAbs<P:=⟨4294967296^n,λz h=>by
 have h1:=vl_lt (Qk z.natAbs);rw[Ql]at h1;exact z81 h1 (zQ1 (by decide) h)⟩
def qh1 {C:Nat}:List.replicate C ((false,[]):Bg)=rowB C (λ_=>0):=by
 rw[qne];exact q2v λj _=>qm7.symm
section
variable {m:Nat} (hm:5000000<=m)
include hm
theorem qnr (t0:Bool) (t1:LI): ∀(N X Y:Nat),Y<N->(lim X).length<=400000->(lim Y).length<=400000->
 g52L0 m N t0 t1 (lim X) (lim Y)=some (.inl ((t0,t1,()),lim (Nat.gcd X Y),())):=by
 intro N;induction N with
 |zero=>intro X Y h;omega
 |succ N ih=>
  intro X Y h hX hY;rw[g52L0,bQ];by_cases c:Y=0
  . subst c;rw[iN' (by rw[Qc];simp),Nat.gcd_zero_right]
  . have hy:(lim Y).length≠0:=λh=>c (q1e.1 (zv1 h))
    rw[iP O,qa8 hm c hX O,bS];dsimp only;have hlt:=zm1 X (show Y>0 by omega)
    rw[ih Y (X%Y) O hY (zn (Qi (zE3 hlt)) hY),Nat.gcd_comm X Y,Nat.gcd_rec Y X,Nat.gcd_comm (X%Y) Y]
theorem bGCD {a b:Int} (ha:zlen a<=400000) (hb:zlen b<=400000) (hf:b.natAbs<m):g52 m (BZ a).1 (BZ a).2 (BZ b).1 (BZ b).2=some (zB ((Nat.gcd a.natAbs b.natAbs:Nat):Int),(),(),()):=by
 have a2:(BZ a).2=lim a.natAbs:=rfl;have b2:(BZ b).2=lim b.natAbs:=rfl;have ha':(lim a.natAbs).length<=400000:=ha;have hb':(lim b.natAbs).length<=400000:=hb
 have hg:(lim (Nat.gcd a.natAbs b.natAbs)).length<=400000:=by
  by_cases c:a.natAbs=0
  . rw[c,Nat.gcd_zero_left];exact hb'
  . exact zn (Qi (Nat.gcd_le_left _ O)) ha'
 rw[g52,a2,b2,Qx (Qk a.natAbs) O O,Ql,bS];dsimp only;rw[q4p O,bS,Qx (Qk b.natAbs) O O,Ql,bS];dsimp only;rw[q4p O,bS];dsimp only;rw[qnr hm false [] m a.natAbs b.natAbs hf ha' hb',bS];dsimp only;rw[bigN O O,iN' (by decide)]
 rfl
end
section
variable {m:Nat} (hm:5000000<=m) (hM: ∀z:Int,zlen z<=100000->z.natAbs<m) {R C:Nat} (hR:R<=4) (hC:C<=4) {A M:Mat} {ps:List Nat} {d s:Int} (h:El R A C M ps d) (hs:SzM R C M d 100000)
include hm hM hR hC h hs
theorem ps_le:ps.length<=C:=by
 have:=q8m (m:=List.range C) h.nodup λx hx=>zM2.2 (h.lt x hx)
 rwa [List.length_range]at this
theorem qiw: ∀(N k:Nat),ps.length-k<N->k<=ps.length-> ∃f,k<=f/\f<=ps.length/\g11L0 m N (C:Int) (matR R C M) (nI ps) (BZ d).1 (BZ d).2 s (k:Int)=some (.inl ((C:Int),(matR R C M,nI ps,(BZ d).1,(BZ d).2,s,()),(f:Int),())):=by
 intro N;induction N with
 |zero=>intro k h;omega
 |succ N ih=>
  intro k hN hk;rw[g11L0,bQ,q5s];by_cases c:k<ps.length
  . rw[iP O,iP O,tN,bif_eq,show wI ((k:Int)+1)=((k+1:Nat):Int)from wsucc (by have:=h.len;omega)]
    split
    . obtain⟨f,f1,f2,f3⟩:=ih (k+1) O O;exact⟨f,O,f2,f3⟩
    . exact⟨k,zD _,O,rfl⟩
  . rw[iN' O];exact⟨k,zD _,hk,rfl⟩
theorem qlo {a:Int} (ha:zlen a<=100000): ∃b:Int,zlen b<=100000/\g51 m (matR R C M) (nI ps) (BZ d).1 (BZ d).2 s (BZ a).1 (BZ a).2=some (zB b,(),(),()):=by
 rw[g51,bSign O (zn hs.2 O),bS,bQ];split
 . rw[bNeg O O,bS];exact⟨-a,by rw[q0w];exact ha,rfl⟩
 . rw[bNorm O O,bS];exact⟨a,ha,rfl⟩
theorem qj0 {f:Nat} (hf:f<C): ∀(N k:Nat) (o:Nat->Int) (g:Int),ps.length-k<N->k<=ps.length->(∀j,j<C->zlen (o j)<=100000/\g∣o j)->zlen g<=100000->g≠0->
 ∃o' g',g11L1 m N (matR R C M) (nI ps) (BZ d).1 (BZ d).2 s (f:Int) (rowB C o) (BZ g).1 (BZ g).2 (nI ps) (ps.length:Int) (k:Int)=some (.inl (rowB C o',((BZ g').1,(BZ g').2,()),()))/\(∀j,j<C->zlen (o' j)<=100000/\g'∣o' j)/\zlen g'<=100000/\g'≠0:=by
 intro N;induction N with
 |zero=>intro k o g h;omega
 |succ N ih=>
  intro k o g hN hk ho hg hg0;rw[g11L1,bQ,q5s,Yg];by_cases c:k<ps.length
  . have hkR:k<R:=by have:=h.len;omega
    have hp:ps[k]<C:=h.lt _ (zM c);obtain⟨b,b1,b2⟩:=qlo hm hM hR hC h hs (s:=s) (hs.1 k f hkR hf);rw[iP O,iP O,iP O];simp only[tN,Ye hkR,Qw,Yc hf,qmz c,zI];rw[iP O,b2,bS];dsimp only;rw[show g50 m (zB b).1 (zB b).2.1=_ from bNeg (m:=m) O (a:=b) O,bS]
    dsimp only;rw[iP O,show((zB (-b)).1,(zB (-b)).2.1)=BZ (-b)from rfl,q4k,Qw,iP O,Yc hp,iP rfl,bGCD hm O (by rw[q0w];omega) (hM _ (by rw[q0w];exact b1)),bS]
    dsimp only;have w:wI ((k:Int)+1)=((k+1:Nat):Int):=wsucc (by have:=h.len;omega)
    rw[w];have gpos:0<Nat.gcd g.natAbs (-b).natAbs:=Nat.gcd_pos_of_pos_left _ O;have d1:((Nat.gcd g.natAbs (-b).natAbs:Nat):Int)∣g:=Int.ofNat_dvd_left.2 (Nat.gcd_dvd_left _ _);have d2:((Nat.gcd g.natAbs (-b).natAbs:Nat):Int)∣ -b:=Int.ofNat_dvd_left.2 (Nat.gcd_dvd_right _ _);have lg:zlen ((Nat.gcd g.natAbs (-b).natAbs:Nat):Int)<=100000:=zn (qld (n:=g.natAbs) (by rw[zY2];exact Nat.gcd_le_left _ O)) hg
    exact ih (k+1) _ _ O O (λj hj=>by
     by_cases cj:j=ps[k]
     . rw[iP cj];exact⟨by rw[q0w];exact b1,d2⟩
     . rw[iN' cj];exact⟨(ho j hj).1,Int.dvd_trans d1 (ho j hj).2⟩) lg O
  . rw[iN' O];exact⟨o,g,rfl,ho,hg,hg0⟩
theorem qhi {o:Nat->Int} {g:Int} (ho: ∀j,j<C->zlen (o j)<=100000/\g∣o j) (hg:zlen g<=100000) (hg0:g≠0): ∀(N k:Nat),C-k<N->k<=C->
 ∃o',g11L2 m N (rowB C λj=>if j<k then o j/g else o j) (BZ g).1 (BZ g).2 (C:Int) (k:Int)=some (.inl (rowB C o',())):=by
 intro N;induction N with
 |zero=>intro k h;omega
 |succ N ih=>
  intro k hN hk;rw[g11L2,bQ,Qw];by_cases c:k<C
  . rw[iP O,iP O,tN,zI,Yc c,iN' (zy2 k)];rw[show g53 m (BZ (o k)).1 (BZ (o k)).2 (BZ g).1 (BZ g).2=_ from bQuo (m:=m) hm hg0 (a:=o k) (by have:=(ho k c).1;omega) O (ho k c).2,bS]
    dsimp only;rw[iP O,show wI ((k:Int)+1)=((k+1:Nat):Int)from wsucc O,show((zB (o k/g)).1,(zB (o k/g)).2.1)=BZ (o k/g)from rfl,q4k]
    have e:(rowB C λj=>if j=k then o k/g else if j<k then o j/g else o j)=rowB C λj=>if j<k+1 then o j/g else o j:=by
     refine Jd λj _=> ?_
     by_cases c1:j=k
     . subst c1;rw[iP rfl,iP O]
     . rw[iN' c1];by_cases c2:j<k
       . rw[iP c2,iP O]
       . rw[iN' c2,iN' O]
    rw[e];exact ih (k+1) O O
  . rw[iN' O];exact⟨_,rfl⟩
end
def qlc {m:Nat} (hm:5000000<=m) {R C:Nat} (hR:R<=4) (hC:C<=4) {A:Mat} (h0:0<R) (hA: ∀i j,i<R->j<C->zlen (A i j)<=5000) {M:Mat} {ps:List Nat} {d s:Int}
 (he:g46 m (matR R C A) (C:Int)=some ((matR R C M,nI ps,(BZ d).1,(BZ d).2,s,()),(),(),())):g10 m (matR R C A)=some (((ps.length:Int),0,()),(),()):=by
 rw[g10,qkx hm O O h0,bS];dsimp only;rw[show((0:Int) !=0)=false from rfl,cond_false,twinR hm O O (λi k hi hk=>zn (hA i k hi hk) O),bS,q91 hm O O h0,bS]
 dsimp only;rw[he,bS];dsimp only;rw[q5s]
def qmi {m:Nat} (hm:5000000<=m) (hM: ∀z:Int,zlen z<=100000->z.natAbs<m) {R C:Nat} (hR:R<=4) (hC:C<=4) {A:Mat} (h0:0<R) (hA: ∀i j,i<R->j<C->zlen (A i j)<=5000) {M:Mat} {ps:List Nat} {d s:Int}
 (he:g46 m (matR R C A) (C:Int)=some ((matR R C M,nI ps,(BZ d).1,(BZ d).2,s,()),(),(),())) (h:El R A C M ps d) (hs:SzM R C M d 100000):
 ∃l,g11 m (matR R C A)=some ((l,0,()),(),())/\(ps.length<C->l.length=C):=by
 have hpl:=ps_le hm hM hR hC h hs;obtain⟨f,f1,f2,f3⟩:=qiw hm hM hR hC h hs (s:=s) m 0 (by have:=h.len;omega) O
 rw[nZ]at f3;rw[g11,qkx hm O O h0,bS];dsimp only;rw[show((0:Int) !=0)=false from rfl,cond_false,q91 hm O O h0,bS,twinR hm O O (λi k hi hk=>zn (hA i k hi hk) O),bS]
 dsimp only;rw[he,bS];dsimp only;rw[f3,bS];dsimp only;rw[bif_eq];by_cases c:f=C
 . rw[iP O];exact⟨[],rfl,λhlt=>O⟩
 . have hf:f<C:=O;rw[iN' O,iP O,tN,qh1,Qw]
   have hab:g49 m (BZ d).1 (BZ d).2=some (zB (d.natAbs:Int),(),()):=by
    have:=qna (m:=m) O (neg:=(zB d).1) (Sz_zB (z:=d) (zn hs.2 O))
    rwa [zv_zB]at this
   rw[hab,bS];dsimp only;rw[iP O,tN,zI,show((zB (d.natAbs:Int)).1,(zB (d.natAbs:Int)).2.1)=BZ (d.natAbs:Int)from rfl,q4k,Qw,iP O,Yc hf,iP rfl,q5s]
   have hdl:zlen (d.natAbs:Int)<=100000:=by unfold zlen;rw[zY2];exact hs.2
   have hd0:(d.natAbs:Int)≠0:=by have:=h.nz;omega
   obtain⟨o',g',e1,e2,e3,e4⟩:=qj0 hm hM hR hC h hs (s:=s) hf m 0 (λj=>if j=f then(d.natAbs:Int)else 0) (d.natAbs:Int) (by have:=h.len;omega) O (λj _=>by
    split
    . exact⟨hdl,Int.dvd_refl _⟩
    . exact⟨by rw[qfx];omega,zi2 _⟩) hdl hd0
   rw[nZ]at e1;rw[e1,bS];dsimp only;obtain⟨o2,e5⟩:=qhi hm hM hR hC h hs e2 e3 e4 m 0 O O;have e6:(rowB C λj=>if j<0 then o' j/g' else o' j)=rowB C o':=Jd λj _=>by rw[iN' O]
   rw[e6,nZ]at e5;rw[Qw,e5,bS];exact⟨_,rfl,λ_=>Qw⟩
end Go.Vs.F
set_option maxRecDepth 100000
namespace Go.Vs.F
def qhc (j:Nat):g6 (j+300)=some (true,()):=by kernel_rfl
def awake15 {m:Nat} (hm:300<=m):g6 m=some (true,()):=by
 obtain⟨j,rfl⟩: ∃j,m=j+300:=⟨m-300,O⟩;exact qhc j
def q3o {p:Nat->Bool}: ∀{n:Nat},((List.range n).filter p).length=cnt p n
 |0=>rfl
 |n+1=>by
  rw[zP3,List.filter_append,zL,q3o,cnt];cases h:p n<;>simp[h]<;>omega
def cnt_lt {p:Nat->Bool} {j:Nat}: ∀{n:Nat},j<n->p j=false->cnt p n<n
 |0,h,_=>absurd h (zW _)
 |n+1,h,hp=>by
  rw[cnt];by_cases c:j=n
  . subst c;have:=cnt_le (p:=p) (n:=j);rw[hp];simp;omega
  . have:=cnt_lt (p:=p) (j:=j) (n:=n) O hp;cases p n<;>simp<;>omega
def qer {p:Nat->Bool}: ∀{n:Nat},cnt p n≠0-> ∃i,i<n/\p i=true
 |0,h=>absurd rfl h
 |n+1,h=>by
  cases c:p n with
  |true=>exact⟨n,O,c⟩
  |false=>
   rw[cnt,c]at h;obtain⟨i,hi,hp⟩:=qer (p:=p) (n:=n) (by simpa using h)
   exact⟨i,O,hp⟩
def qmc {R C:Nat} {S I V:LI} (hM:MatOK R C S I) {j:Nat} (hj:j<C) {x v:Int} (hx:((x,((j:Int),v)):Ent)∈ents S I V C 0):x∈(qy C S I).getD j []:=by
 have h:=q8w (V:=V) (p:=λa b=> !(decide (a=x)&&decide (b=(j:Int)))) hM C 0 O O
 refine Classical.byContradiction λhn=> ?_
 have h4:Qq (λj'=>((qy C S I).getD j' []).all (λi=> !(decide (i=x)&&decide ((j':Int)=(j:Int))))) 0 C=true:=by
  refine Qg.2 λj' _ hj'=>zX.2 λi hi=> ?_
  by_cases e1:i=x
  . by_cases e2:(j':Int)=(j:Int)
    . have:j'=j:=O;subst this;subst e1;exact absurd hi hn
    . simp[e2]
  . simp[e1]
 rw[h4]at h;have:=zX.1 h _ hx;simp at this
def qkh {q e f:Int} (h:EqD q e 0 f):q=0:=by
 have:=h.low (c:=min e f) O O;unfold sc at this;rw[zG3]at this;rcases Int.mul_eq_zero.1 this with h|h
 . exact h
 . have:=q14 (e-min e f).toNat;omega
def qng {R C:Nat} {es:List Ent} {s:Int} {G:List (List BG)} (h:GrOK R C es s G):G=matR R C (qG G)/\(∀i j,i<R->j<C->zlen (qG G i j)<=5000)/\ ∀i j,i<R->j<C->qG G i j≠0-> ∃v,(((i:Int),((j:Int),v)):Ent)∈es:=by
 have key: ∀i j,i<R->j<C-> ∃q:Int,(G.getD i []).getD j (false,[])=BZ q/\blen q.natAbs<=140000/\(q≠0-> ∃v,(((i:Int),((j:Int),v)):Ent)∈es):=λi j hi hj=>by
  by_cases c: ∃v,(((i:Int),((j:Int),v)):Ent)∈es
  . obtain⟨v,hv⟩:=c;obtain⟨q,q1,q2,q3,_⟩:=h.q i j hi hj v (.inl hv);exact⟨q,q2,q3,λ_=>⟨v,hv⟩⟩
  . obtain⟨q,q1,q2,q3,_⟩:=h.q i j hi hj 0 (.inr ⟨rfl,λv hv=>c ⟨v,hv⟩⟩)
    rw[q6d]at q1;exact⟨q,q2,q3,λhq=>absurd (qkh q1) hq⟩
 refine⟨?_,λi j hi hj=> ?_,λi j hi hj hq=> ?_⟩
 . refine zc2 (by rw[h.r,Yg]) λi h1 h2=> ?_
   have hi:i<R:=by rw[h.r]at h1;exact h1
   have e1:G[i]=G.getD i []:=by simp[List.getD,h1]
   have e2:(matR R C (qG G))[i]=rowB C (qG G i):=by
    have:=Ye (C:=C) (M:=qG G) hi;simpa [List.getD,h2]using this
   rw[e1,e2];refine zc2 (by rw[h.c i hi,Qw]) λj h3 h4=> ?_
   have hj:j<C:=by rw[h.c i hi]at h3;exact h3
   obtain⟨q,q1,_,_⟩:=key i j hi hj;have e3:(G.getD i [])[j]=(G.getD i []).getD j (false,[]):=(List.getElem_eq_getD (h:=h3) (false,[]))
   have e4:(rowB C (qG G i))[j]=BZ (qG G i j):=by
    have:=Yc (f:=qG G i) hj;simpa [List.getD,h4]using this
   rw[e3,e4,q1,qG_of (q:=q) q1]
 . obtain⟨q,q1,q2,_⟩:=key i j hi hj;rw[qG_of (q:=q) q1];exact zn (q3w q2) (by decide)
 . obtain⟨q,q1,_,q3⟩:=key i j hi hj;rw[qG_of (q:=q) q1]at hq;exact q3 hq
def qmn {m:Nat} {a b:List Bool} (h:a.length=b.length) (hl:a.length<=1000): ∀(N k:Nat) (out:LI),a.length-k<N->k<=a.length->out.length<=k-> ∃l,g58L0 m N a b out (a.length:Int) (k:Int)=some (.inl (l,())):=by
 intro N;induction N with
 |zero=>intro k out h;omega
 |succ N ih=>
  intro k out hN hk ho;rw[g58L0,bQ];by_cases c:k<a.length
  . have w:wI ((k:Int)+1)=((k+1:Nat):Int):=wsucc O;rw[iP O,iP O,iP O,iP (by show _+1<=_;omega),w]
    cases a.getD (k:Int).toNat false
    . rw[show(!false)=true from rfl,cond_true]
      cases b.getD (k:Int).toNat false
      . rw[show(!false)=true from rfl,cond_true]
        exact ih (k+1) _ O O (by simp;omega)
      . rw[show(!true)=false from rfl,cond_false]
        exact ih (k+1) _ O O O
    . rw[show(!true)=false from rfl,cond_false]
      exact ih (k+1) _ O O O
  . rw[iN' O];exact⟨out,rfl⟩
def qi0 {m:Nat} {a b:List Bool} (h:a.length=b.length) (hl:a.length<=1000) (hm:1001<=m): ∃l,g58 m a b=some (l,(),(),()):=by
 obtain⟨l,e⟩:=qmn (m:=m) h hl m 0 [] O O (zD _);rw[nZ]at e;rw[g58,e];exact⟨l,rfl⟩
def qmy {m:Nat} {C:Nat} {row:LI} (hr:row.length=C) (hC:C<=1000) (t0 t1:Int) (t2 t3 t4:LI) (r:Int) (ke:List (Bool×LI)) (c0 c1 c2 c3 c4 c5:LI): ∀(N k:Nat),C-k<N->k<=C->
 g3L0 m N t0 t1 t2 t3 t4 r ke row c0 c1 c2 c3 c4 c5 ((cnt (mt row) k:Nat):Int) (k:Int)=some (.inl ((t0,t1,t2,t3,t4,()),r,ke,(c0,c1,c2,c3,c4,c5,()),((cnt (mt row) C:Nat):Int),())):=by
 intro N;induction N with
 |zero=>intro k h;omega
 |succ N ih=>
  intro k hN hk;rw[g3L0,bQ,hr];by_cases c:k<C
  . have w:wI ((k:Int)+1)=((k+1:Nat):Int):=wsucc O;have hb:=cnt_le (p:=mt row) (n:=k);rw[iP O,iP O,bQ,zI,tN,w];have i:=ih (k+1) O O;by_cases g:row.getD k 0>=0
    . have e:cnt (mt row) (k+1)=cnt (mt row) k+1:=by
       have:mt row k=true:=decide_eq_true g;rw[cnt,this];simp
      rw[e]at i;rw[iP g,show wI (((cnt (mt row) k:Nat):Int)+1)=((cnt (mt row) k+1:Nat):Int)from wsucc O]
      exact i
    . have e:cnt (mt row) (k+1)=cnt (mt row) k:=by
       have:mt row k=false:=decide_eq_false g;rw[cnt,this];simp
      rw[e]at i;rw[iN' g];exact i
  . have:k=C:=O;subst this;rw[iN' O]
end Go.Vs.F
set_option maxRecDepth 100000
namespace Go.Vs.F
def qdl {E:List LI} {C:Nat} {row col:LI}:(finC E C row col).length=C:=by simp[finC]
def qe0 {E:List LI} {R C:Nat} {row col:LI}:(finR E R C row col).length=R:=by simp[finR]
def Rch.un {E:List LI} {C:Nat} {row col:LI} {j:Nat} (h:Rch E C row col j): ∃k,k<C/\row.getD k 0= -1:=by
 induction h with
 |base h1 h2=>exact⟨_,h1,h2⟩
 |step _ _ _ ih=>exact ih
def qn7 {E:List LI} {C:Nat} {row col:LI} (h:(idxs true 0 (finC E C row col)).length≠0):cnt (mt row) C<C:=by
 classical
 rw[q78]at h;unfold finC at h;rw[q0e]at h;obtain⟨j,hj,hp⟩:=qer h;have hR:Rch E C row col j:=by simpa using hp
 obtain⟨k,hk,hu⟩:=hR.un;exact cnt_lt hk (decide_eq_false (by rw[hu];decide))
def qi6 {R C:Nat} (hR:R<=4) (hC:C<=4) {S I V:LI} (hV:MV R C S I V) (hS:S.length<=1000000) {u:St} (h:All (qy C S I) R C 0 (st0 R C) u):
 ∃M,∀m,M<=m-> ∃c0 c2 c3 c4 c5,g13 m (R:Int) (C:Int) S I V=some (((c0,idxs true 0 (finC (qy C S I) C u.row u.col),c2,c3,c4,c5,()),0,()),(),()):=by
 have hsz:=hV.ok.sz;have hE:=(q44 (m:=2000301) O hV.ok hV.vl hS hV.chk).1;have hT:=qht hE O O (zn (zL2 hR hC) (by decide))
 obtain⟨u2,h2⟩:=All.exists hT.ok.edge R 0 (st0 C R) O O q1w;obtain⟨M1,e1⟩:=q46 (V:=V) hV.ok h;obtain⟨M2,e2⟩:=q46 (V:=packV ((ents S I V C 0).map swE) C R) hT.ok h2;refine⟨M1+M2+2000301,λm hm=> ?_⟩
 have q1:=qdl (E:=qy C S I) (C:=C) (row:=u.row) (col:=u.col);have q2:=qe0 (E:=qy C S I) (R:=R) (C:=C) (row:=u.row) (col:=u.col);have q3:=qdl (E:=qy R (packS ((ents S I V C 0).map swE) C R) (packI ((ents S I V C 0).map swE) C R)) (C:=R) (row:=u2.row) (col:=u2.col);have q4:=qe0 (E:=qy R (packS ((ents S I V C 0).map swE) C R) (packI ((ents S I V C 0).map swE) C R)) (R:=C) (C:=R) (row:=u2.row) (col:=u2.col);rw[g13,(q44 (m:=m) O hV.ok hV.vl hS hV.chk).2,bS];dsimp only;rw[show((0:Int) !=0)=false from rfl,cond_false,e1 m O,bS,e2 m O,bS]
 dsimp only;obtain⟨l1,r1⟩:=qi0 (m:=m) (a:=finR (qy C S I) R C u.row u.col) (b:=finC (qy R (packS ((ents S I V C 0).map swE) C R) (packI ((ents S I V C 0).map swE) C R)) R u2.row u2.col) (by rw[q2,q3]) O O
 obtain⟨l2,r2⟩:=qi0 (m:=m) (a:=finC (qy C S I) C u.row u.col) (b:=finR (qy R (packS ((ents S I V C 0).map swE) C R) (packI ((ents S I V C 0).map swE) C R)) C R u2.row u2.col) (by rw[q1,q4]) O O
 rw[q84 O O,bS,q84 O O,bS,r1,bS,r2,bS,q84 O O,bS,q84 O O,bS];exact⟨_,_,_,_,_,rfl⟩
def qlh {R C:Nat} {S I V:LI} (hV:MV R C S I V) {A M:Mat} {ps:List Nat} {d:Int} (h:El R A C M ps d) (hA: ∀i j,i<R->j<C->A i j≠0-> ∃v,(((i:Int),((j:Int),v)):Ent)∈ents S I V C 0) {u:St} (K:KInv (qy C S I) R C C u):ps.length<=cnt (mt u.row) C:=by
 rw[<-qgt hV.ok.edge K,<-q3o,<-q3o];refine qm4 h (λi j hi hj hne=> ?_)
 obtain⟨v,hv⟩:=hA i j hi hj hne;rcases rCov (u:=u) hV.ok.edge j hj (i:Int) (qmc hV.ok hj hv)with q|q
 . exact .inl (zd1.2 ⟨zM2.2 hi,by simpa using q⟩)
 . exact .inr (zd1.2 ⟨zM2.2 hj,q⟩)
def qfk {R C:Nat} {S I V:LI} (hV:MV R C S I V) (hS:S.length<=1000000) {u:St} (h:All (qy C S I) R C 0 (st0 R C) u): ∃M,∀m,M<=m->g12 m (R:Int) (C:Int) S I V=some ((u.row,0,()),(),()):=by
 obtain⟨M1,e1⟩:=q7l (V:=V) hV.ok h;have hsz:=hV.ok.sz;have hvl:=hV.vl;refine⟨M1+2000301,λm hm=> ?_⟩
 rw[g12,g40eq O O O O O,hV.chk,bS];dsimp only;rw[show((0:Int) !=0)=false from rfl,cond_false,e1 m O]
 rfl
def q36 (rows cols:Int) (l:LI): ∃m,g3 m rows cols l=some (true,(),(),(),()):=by
 by_cases hl:(l.length:Int)>60
 . exact⟨300,by rw[g3,bQ,iP hl,awake15 (zD _)];rfl⟩
 obtain⟨R,hR,pR⟩:=q27 (a:=rows) (n:=5) O O;obtain⟨C,hC,pC⟩:=q27 (a:=cols) (n:=5) O O;obtain⟨es,hE,hSm,hel,hmk⟩:=qap (r:=R) (c:=C) O O (l:=l) O;obtain⟨S,hSe⟩: ∃S,S=packS es R C:=⟨_,rfl⟩;obtain⟨I,hIe⟩: ∃I,I=packI es R C:=⟨_,rfl⟩;obtain⟨V,hVe⟩: ∃V,V=packV es R C:=⟨_,rfl⟩;have hV:MV R C S I V:=by rw[hSe,hIe,hVe];exact qht hE O O (zn (zL2 (show C<=4 by omega) (show R<=4 by omega)) (by decide))
 have hU: ∀x∈V,U64 x:=λx hx=>by
  rw[hVe]at hx;obtain⟨e,he,rfl⟩:=qis hx;exact(hSm e he).u
 have hSl:S.length<=1000000:=by have:=hV.sl;omega
 obtain⟨u,hu⟩:=All.exists hV.ok.edge C 0 (st0 R C) O O q1w;have K:KInv (qy C S I) R C C u:=hu.kinv hV.ok.edge kinv0;obtain⟨M1,e1⟩:=qfk hV hSl hu;obtain⟨M2,e2⟩:=qi6 O O hV hSl hu;obtain⟨P,hP⟩:=qk5 100000;obtain⟨m,hm,m1,m2,m3⟩: ∃m,5000000<=m/\M1<=m/\M2<=m/\P<=m:=⟨5000000+M1+M2+P,O,O,O,O⟩;refine⟨m,?_⟩;obtain⟨G,s,eI,gr,_⟩:=qdd (m:=m) O hV hU O O;rw[g3,bQ,iN' hl,show(5:Int)=((5:Nat):Int)from rfl,pR,bS,pC,bS]
 dsimp only;rw[hmk m O,bS];dsimp only;rw[<-hSe,<-hIe,<-hVe,eI,bS];dsimp only;have aw:=awake15 (m:=m) O;rw[bif_eq];by_cases c1:R=0
 . rw[iP O,show((0:Int)==0)=true from rfl,cond_true,aw];rfl
 . rw[iN' O,bif_eq];by_cases c2:C=0
   . rw[iP O,show((0:Int)==0)=true from rfl,cond_true,aw];rfl
   . rw[iN' O];obtain⟨g1,g2,g3⟩:=qng gr;rw[g1];generalize qG G=A at*;obtain⟨M,ps,d,s',e3,El1,Sz1⟩:=qfl hm (R:=R) (C:=C) O O g2;obtain⟨kl,e4,k4⟩:=qmi hm (λz hz=>z81 (hP z hz) m3) O O O g2 e3 El1 Sz1
     have e5:=qlc hm (R:=R) (C:=C) O O O g2 e3;obtain⟨c0,x2,x3,x4,x5,e6⟩:=e2 m m2;have hrk:=qlh hV El1 g3 K;have hrow:u.row.length=C:=K.good.row;have hz:=qmy (m:=m) hrow O (R:Int) (C:Int) S I V (ps.length:Int) kl c0 (idxs true 0 (finC (qy C S I) C u.row u.col)) x2 x3 x4 x5 m 0 O O;rw[show cnt (mt u.row) 0=0 from rfl,nZ]at hz
     rw[e5,bS,e4,bS,e1 m m1,bS,e6,bS];dsimp only;rw[show((0:Int) !=0)=false from rfl]
     simp only[cond_false];rw[bif_ne,iP O,hz,bS];dsimp only;rw[bQ,iP O,bif_eq];by_cases c3:(idxs true 0 (finC (qy C S I) C u.row u.col)).length=0
     . rw[iP O,aw];rfl
     . have hlt:=qn7 c3;have:=k4 O;rw[iN' O,bif_eq,iP O,aw];rfl
end Go.Vs.F
