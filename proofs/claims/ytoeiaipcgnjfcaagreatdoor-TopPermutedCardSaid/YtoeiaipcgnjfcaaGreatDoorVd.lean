import Derived.Test.YtoeiaipcgnjfcaaGreatDoorVb
import Derived.MapKept
import Derived.Orders
set_option linter.unusedVariables false
set_option linter.unusedSimpArgs false
set_option linter.unusedSectionVars false
set_option linter.defProp false
namespace Go.Vs
def Fr (who who':bg):Prop:= ∀b,who' b=who b\/who' b=none
def Fr.refl (who:bg):Fr who who:=λ_=> .inl rfl
def Fr.trans {a b c:bg} (h:Fr a b) (h':Fr b c):Fr a c:=λx=>by
 rcases h' x with h1|h1
 . rcases h x with h2|h2
   . exact .inl (by rw[h1,h2])
   grind
 . exact .inr h1
def cn (U U':ag):Prop:= ∀s,U'.get s=U.get s\/ab (U'.get s)=[]
def cn.refl (U:ag):cn U U:=λ_=> .inl rfl
def cn.trans {U U1 U2:ag} (h:cn U U1) (h':cn U1 U2):cn U U2:=λs=>by
 rcases h' s with e|e
 . rw[e];exact h s
 . exact .inr e
section
variable {P:Program} {CO:Q5} {T:TT} {E:aN} {D:Nat->Prop} {β:aP} {who:bg} {U U':ag} {hd:List (AV×Value)} {a:Act} {w w':World} {R W:List Nat}
def aC.freezeFr (S:aC E D β who U hd a w) (t:Nat) (hb: ∀o cs,U.get t≠ .bx o cs) (ht: ∀vs,U.get t≠ .tup vs):
 ∃who',Fr who who'/\aC E D β who' (U.set t (Vs.freeze (U.get t))) ((Vs.freeze (U.get t),a.tmps.getD t undef)::hd) a w:=by
 refine⟨unown who (ab (U.get t)),λb=> ?_,?_⟩
 . cases h:who b with
   |none=>exact .inr (Xz h)
   |some n=>
    by_cases hn:n∈ab (U.get t)
    . exact .inr (FU h hn)
    . exact .inl (Jk h hn)
 have hf:=Z2 (ns:=ab (U.get t)) (S.rel t) (λn h=>h) hb ht
 have hn:=Zk hb ht
 have S1:aC E D β (unown who (ab (U.get t))) (U.set t .dead) hd a w:=by
  have S0:=(S.takeAll t).drop rfl
  refine S0.world (λs=> ?_) (λx hx=> ?_) (λb n hb=>S.wsz b n (Yq hb)) (zF _) (λ_ _ _=>rfl) (λb n hb=>S.fr1 b n (Yq hb))
   (λb hb=>Jk (S.fr3 b hb) (λh=>S.dfn (S.occ t _ (qj h))))
  . refine(S0.rel s).keep (cB.unown λn h h'=> ?_)
    by_cases e:s=t
    . subst e;rw[qg]at h;simp[ab,qi,qc]at h
    . rw[qf _ _ e]at h;exact e (S.dis s t n h h')
  . exact(S0.hrel x hx).keep (cB.unown λn h h'=>S.hdis x hx n h t h')
 have S2:=S1.abs (s:=t) (v:=Vs.freeze (U.get t)) hf (λn h=>by rw[hn]at h;cases h) (by grind) (λn h=>S.occ t n (OX h))
 have S3:=S2.take0 hf hn (λn h=>S.occ t n (OX h))
 refine S3.ext λs=> ?_
 by_cases e:s=t
 . subst e;rw[qg,qg]
 . rw[qf _ _ e,qf _ _ e,qf _ _ e]
def aq.rdFFr {x:Operand} {v:AV} (h:aq CO (Vs.rdF x) U v U' R W) (S:aC E D β who U hd a w):
 ab v=[]/\(∀o cs,v≠ .bx o cs)/\cn U U'/\ ∃who',Fr who who'/\aC E D β who' U' ((v,a.eval x)::hd) a w:=by
 cases x with
 |tmp t=>
  obtain⟨av,U1,_,_,_,_,h1,h2⟩:=aq.bind' h;obtain⟨rfl,rfl⟩:=aq.mget' h1;split at h2
  . exact(aq.fail' h2).elim
  . exact(aq.fail' h2).elim
  . exact(aq.fail' h2).elim
  . exact(aq.fail' h2).elim
  . exact(aq.fail' h2).elim
  . exact(aq.fail' h2).elim
  . exact(aq.fail' h2).elim
  . exact(aq.fail' h2).elim
  . rename_i g1 g2 g3 g4 g5 g6 g7 g8;split at h2
    . obtain⟨_,U2,_,_,_,_,h3,h4⟩:=aq.bind' h2;have:=aq.mset' h3;subst this;obtain⟨rfl,rfl⟩:=aq.pure' h4;have hb: ∀o cs,U1.get t≠ .bx o cs:=λo cs e=>g3 o cs e
      refine⟨Zk hb g2,?_,?_,S.freezeFr t hb g2⟩
      . intro o cs e;have hb':=hb;cases hav:U1.get t with
        |bx o' cs'=>exact hb o' cs' hav
        |sl o' t' xs=>rw[hav]at e;cases o'<;>cases e
        |agg cells=>rw[hav]at e;cases e
        |dp n t xs hh=>rw[hav]at e;cases hh<;>cases e
        |dq n t xs hh=>rw[hav]at e;cases hh<;>cases e
        |fd n t xs hh=>rw[hav]at e;cases e
        |mm n t xs o=>rw[hav]at e;cases e
        |_=>rw[hav]at e;cases e
      . intro s;by_cases e:s=t
        . subst e;rw[qg];exact .inr (Zk hb g2)
        . rw[qf _ _ e];exact .inl rfl
    . rename_i hno;obtain⟨rfl,rfl⟩:=aq.pure' h2;exact⟨X5 hno,g3,cn.refl _,who,Fr.refl _,S.take0 (S.rel t) (X5 hno) (S.occ t)⟩
 |const u=>
  obtain⟨rfl,rfl⟩:=aq.pure' h;obtain⟨g1,g2,g3⟩:=SY (β:=β) (who:=who) (w:=w) u;refine⟨g2,?_,cn.refl _,who,Fr.refl _,S.take0 g1 g2 (λn hn=>by rw[g3]at hn;cases hn)⟩
  intro o cs e;cases u<;>cases e
 |global g=>exact(aq.fail' h).elim
 |func f=>
  obtain⟨rfl,rfl⟩:=aq.pure' h;exact⟨rfl,(λo cs e=>by cases e),cn.refl _,who,Fr.refl _,S.take0 (v:= .lit (.func (.func f) #[] #[])) ⟨rfl,rfl⟩ rfl (λn hn=>by cases hn)⟩
def aq.rdP {x:Operand} {v:AV} (h:aq CO (Vs.rdP x) U v U' R W) (S:aC E D β who U hd a w):
 ab v=[]/\(∀o cs,v≠ .bx o cs)/\cn U U'/\ ∃who',Fr who who'/\aC E D β who' U' ((v,a.eval x)::hd) a w:=by
 cases x with
 |tmp t=>
  obtain⟨av,U1,_,_,_,_,h1,h2⟩:=aq.bind' h;obtain⟨rfl,rfl⟩:=aq.mget' h1;split at h2
  . rename_i n cells hg;obtain⟨rfl,rfl⟩:=aq.pure' h2;have hal:cY t (U'.get t)=some (.ptr t n 1 0 0):=by rw[hg];rfl
    obtain⟨g1,g2,g3⟩:=RW hal (S.rel t);exact⟨g2,(λo cs e=>by cases e),cn.refl _,who,Fr.refl _,S.take0 g1 g2 (λn hn=>S.occ t n (g3 n hn))⟩
  . exact aq.rdFFr h2 S
 |const u=>exact aq.rdFFr (x:= .const u) h S
 |global g=>exact aq.rdFFr (x:= .global g) h S
 |func f=>exact aq.rdFFr (x:= .func f) h S
def fY (who:bg) (rn:List Nat) (who':bg):Prop:=(∀b,who b=none->who' b=none)/\ ∀b n,who b=some n->n∈rn->who' b=none
def xk (who:bg) (w:World) (rn:List Nat) (c:AV) (u:Value):Prop:= ∀β' who',fY who rn who'->aO β' who' w c u
def qtd (who:bg) (w:World) (rn:List Nat) (c:AV) (u:Value):Prop:= ∀β' who',fY who rn who'->be β' who' w c u
def fY.sub {rn rn':List Nat} {who':bg} (h:fY who rn' who') (hs: ∀n∈rn,n∈rn'):fY who rn who':=
 ⟨h.1,λb n hb hn=>h.2 b n hb (hs n hn)⟩
def fY.fr {rn:List Nat} {a9 who':bg} (h:fY a9 rn who') (hf:Fr who a9):fY who rn who':=by
 refine⟨λb hb=> ?_,λb n hb hn=> ?_⟩
 . rcases hf b with e|e
   . exact h.1 b (by rw[e,hb])
   . exact h.1 b e
 . rcases hf b with e|e
   . exact h.2 b n (by rw[e,hb]) hn
   . exact h.1 b e
def fB.blk {t:Ty} {xs:List (aM t)} {v:Value} (h:fB who w t xs v): ∀b l c,v= .slice (some b) l c->who b.block=none:=by
 rintro b l c rfl
 rcases h with⟨h,_⟩|⟨b',o,cap,e,h1,_⟩
 . cases h
 . cases e;exact h1
def mq.slI {t:Ty} {xs:List (aM t)} {v:Value} (h:mq who w t xs v) (hb: ∀b l c,v= .slice (some b) l c->who b.block=none):fB who w t xs v:=by
 rcases h with h|⟨b,o,cap,e,h1,h2,h3⟩
 . exact .inl h
 . exact .inr ⟨b,o,cap,e,hb _ _ _ e,h1,h2,h3⟩
def fB.window {t:Ty} {xs:List (aM t)} {base v:Value} {win:Option (Nat×Nat)} (h:fB who w t xs base) (hv:tE base t.size win v):
 fB who w t (Vs.window xs win) v:=by
 refine(mq.window h.sls hv).1.slI λb l c e=> ?_
 cases win with
 |none=>obtain⟨rfl,_⟩:=hv;exact h.blk b l c e
 |some ol=>
  obtain⟨off,len⟩:=ol;obtain⟨ad,L,cap,a',e1,e2,e3,e4,e5,-⟩:=hv;rw[e3]at e;injection e with g1 g2 g3
  subst g1;cases ad with
  |none=>simp at e5
  |some x=>
   simp at e5;rw[e5.1];exact h.blk x L cap e1
def cu.slI {n:Nat} {t:Ty} {xs:List (aM t)} {v:Value} {who':bg} (h:cu β who w n t xs v) (h1: ∀b,who b=none->who' b=none) (h2: ∀b,who b=some n->who' b=none):fB who' w t xs v:=by
 obtain⟨_,h⟩:=h;rcases h with h|⟨b,o,cap,arr,el,e1,e2,e3,e4,e5,e6⟩
 . exact .inl h
 . exact .inr ⟨b,o,cap,e1,h2 b e5,Ze e2,e4,aQ.keep (λb hb _=>⟨h1 b hb,rfl⟩) (zF _) rfl e6⟩
def aq.passC {c c':AV} {u:Value} (h:aq CO (Vs.passC c) U c' U' R W) (S:aC E D β who U hd a w) (hc:aO β who w c u):
 U'=U/\Xv c'=true/\qc c'=[]/\(∀β' who',aO β' who' w c' u->be β' who' w c' u)/\
 bK c'=true/\ab c'=[]/\xk who w (ix c) c' u/\ ∀n∈ix c,n≠FN:=by
 have key: ∀{s n:Nat},aq CO (uy s n) U c' U' R W->u=bX (β n) 0->ix c=[n]->U'=U/\Xv c'=true/\qc c'=[]/\(∀β' who',aO β' who' w c' u->be β' who' w c' u)/\
  bK c'=true/\ab c'=[]/\xk who w (ix c) c' u/\ ∀n∈ix c,n≠FN:=by
  intro s n h k1 hrc;rw[hrc];obtain⟨av,U1,_,_,_,_,h1,h2⟩:=aq.bind' h;obtain⟨hav,rfl⟩:=aq.mget' h1;split at h2
  . rename_i m t xs loc hd;rw[hav]at hd;obtain⟨hmn,⟨v0,hdp⟩,hin⟩:=S.dpA hd
    . subst hmn;obtain⟨rfl,rfl⟩:=aq.pure' h2;refine⟨rfl,rfl,rfl,λ_ _ h=>h,rfl,rfl,λβ' who' hp=> ?_,λx hx=> ?_⟩
      . obtain⟨hv,hd2⟩:=hdp;rw[k1,<-hv];rcases hd2 with⟨e0,rfl⟩|⟨b0,o0,cap1,arr0,el0,e0,e1,e2,e3,e4,hall,_⟩
        . exact .inl ⟨e0,rfl⟩
        refine .inr ⟨b0,o0,cap1,e0,hp.2 b0 m e4 (by simp),Ze e1,e3,λi hi=> ?_⟩
        obtain⟨c1,c2⟩:=hall i hi (by simp)
        refine⟨bX (β m) (i+1),?_,?_⟩
        . have e:aD w b0 (o0+i*(Ty.sl false t).size) 0=aD w b0 o0 i:=by
           unfold aD;simp[Ty.size]
          rw[e];exact c1
        . rcases c2 with hI|⟨bi,oi,ci,arr,el,q1,q2,q3,q4,q5,q6,q7⟩
          . exact .inl hI
          . exact .inr ⟨bi,oi,ci,q1,hp.2 bi m q5 (by simp),Ze q2,q4,aQ.keep (λb hb _=>⟨hp.1 b hb,rfl⟩) (zF _) rfl q7⟩
      . rw[zC]at hx;subst hx;rintro rfl;exact S.dfn (S.occ s _ (qj hin))
  . exact(aq.fail' h2).elim
 unfold Vs.passC at h;split at h
 . obtain⟨rfl,rfl⟩:=aq.pure' h;exact⟨rfl,rfl,rfl,λ_ _ h=>h,rfl,rfl,λ_ _ _=>hc,λn hn=>by cases hn⟩
 . obtain⟨rfl,rfl⟩:=aq.pure' h;exact⟨rfl,rfl,rfl,λ_ _ h=>h,rfl,rfl,λ_ _ _=>hc,λn hn=>by cases hn⟩
 . obtain⟨rfl,rfl⟩:=aq.pure' h;exact⟨rfl,rfl,rfl,λ_ _ h=>h,rfl,rfl,λ_ _ _=>hc,λn hn=>by cases hn⟩
 . obtain⟨rfl,rfl⟩:=aq.pure' h;exact⟨rfl,rfl,rfl,λ_ _ h=>h,rfl,rfl,λ_ who' hp=>fB.keep (λb hb _=>⟨hp.1 b hb,rfl⟩) (zF _) hc,λn hn=>by cases hn⟩
 . obtain⟨rfl,rfl⟩:=aq.pure' h;exact⟨rfl,rfl,rfl,λ_ _ h=>h,rfl,rfl,λ_ who' hp=> .inl hc,λn hn=>by cases hn⟩
 . rename_i s n sz win;obtain⟨y,U1,_,_,_,_,h1,h2⟩:=aq.bind' h;obtain⟨rfl,rfl⟩:=aq.pure' h2;unfold Vs.shown at h1;obtain⟨y,U1,_,_,_,_,h3,h4⟩:=aq.bind' h1;obtain⟨rfl,hsz,g1,g2⟩:=aq.nodeOf h3 S;obtain⟨rfl,rfl⟩:=aq.pure' h4;subst hsz;refine⟨rfl,rfl,rfl,λ_ _ h=>h,rfl,rfl,λβ' who' hp=> ?_,λm hm=> ?_⟩
   . exact fB.window (g1.slI hp.1 (λb hb=>hp.2 b n hb (by simp[ix]))) hc
   . simp only[ix,zC]at hm;subst hm;rintro rfl;exact S.dfn (S.occ s _ (qj g2))
 . rename_i s n i;obtain⟨av,U1,_,_,_,_,h1,h2⟩:=aq.bind' h;obtain⟨hav,rfl⟩:=aq.mget' h1;split at h2
   . rename_i m t xs hh loc hd;rw[hav]at hd;obtain⟨hmn,⟨v0,hdp⟩,hin⟩:=S.dpA hd
     . subst hmn;obtain⟨_,U2,_,_,_,_,h3,h4⟩:=aq.bind' h2;obtain⟨hno,rfl⟩:=aq.noHole' h3;obtain⟨rfl,rfl⟩:=aq.pure' h4;obtain⟨k1,_,ad0,L0,cap0,k2,k3⟩:=hc;obtain⟨ad1,cap1,hb1⟩:=hdp.base;rw[hb1]at k2;injection k2 with _ q1 _
       subst q1;have hrow:=hdp.row k3 hno;have hxi:xs.getD i []=xs[i]:=by simp[List.getD,List.getElem?_eq_getElem k3]
       refine⟨rfl,rfl,rfl,λ_ _ h=>h,rfl,rfl,λβ' who' hp=> ?_,λx hx=> ?_⟩
       . rw[hxi,k1];obtain⟨_,b0,o0,cap0,arr0,el0,_,_,_,_,_,hall,_⟩:=hdp.pos (.inr (Qa k3));rcases(hall i k3 hno).2 with hI|⟨bi,oi,ci,arr,el,e1,e2,e3,e4,e5,e6,e7⟩
         . exact .inl hI
         . exact .inr ⟨bi,oi,ci,e1,hp.2 bi m e5 (by simp[ix]),Ze e2,e4,aQ.keep (λb hb _=>⟨hp.1 b hb,rfl⟩) (zF _) rfl e7⟩
       . simp only[ix,zC]at hx;subst hx;rintro rfl;exact S.dfn (S.occ s _ (qj hin))
   . exact(aq.fail' h2).elim
 . exact key h hc.1 rfl
 . exact key h hc.1 rfl
 . obtain⟨rfl,rfl⟩:=aq.pure' h;obtain⟨b,o,e1,e2,e3,e4,e5⟩:=hc
   exact⟨rfl,rfl,rfl,λ_ _ h=>h,rfl,rfl,
    λβ' who' hp=>⟨b,o,e1,e2,hp.1 b e3,e4,aQ.keep (λb hb _=>⟨hp.1 b hb,rfl⟩) (zF _) rfl e5⟩,λn hn=>by cases hn⟩
 . exact(aq.fail' h).elim
end
abbrev fZ:=AV×Option Nat×List Nat
def iu (β:aP) (m:Nat):AV->Value
 | .dp _ _ _ _=>bX (β m) 0
 |_=>β m
def gA (β:aP) (who:bg) (w:World) (U:ag) (p:fZ) (u:Value):Prop:=
 match p.2.1 with
 |none=>qtd who w p.2.2 p.1 u/\bK p.1=true/\ab p.1=[]/\ ∀n∈p.2.2,n≠FN
 |some s=>p.2.2=[]/\(ab (U.get s)=[]\/ ∃m,Jj (U.get s)=some m/\p.1=ren (aT (ab (U.get s))) (U.get s)/\bK (U.get s)=true/\
   (ab (U.get s)).length<=16/\u=iu β m (U.get s))
section
variable {P:Program} {CO:Q5} {T:TT} {E:aN} {D:Nat->Prop} {β:aP} {who who':bg} {U U':ag} {hd:List (AV×Value)} {a:Act} {w w':World} {R W:List Nat}
def gA.mono {p:fZ} {u:Value} (h:gA β who w U p u) (hf:Fr who who') (hk:cn U U'):gA β who' w U' p u:=by
 obtain⟨av,l,rn⟩:=p;cases l with
 |none=>exact⟨λβ' who'' hp=>h.1 β' who'' (hp.fr hf),h.2⟩
 |some s=>
  obtain⟨h1,h2⟩:=h;rcases hk s with e|e
  . exact⟨h1,by rw[e];exact h2⟩
  . exact⟨h1,.inl e⟩
def qnl (S:aC E D β who U hd a w) (cells:List AV): ∀{cs:List AV} {g:Nat->Value} {U':ag} {R W:List Nat},aq CO (Vs.passL cells) U cs U' R W->
 (∀j (h:j<cells.length),aO β who w cells[j] (g j))->
 U'=U/\cs.length=cells.length/\cs.all Xv=true/\cs.flatMap qc=[]/\(∀j (h:j<cs.length),xk who w (cells.flatMap ix) cs[j] (g j))/\ ∀n∈cells.flatMap ix,n≠FN:=by
 induction cells with
 |nil=>
  intro cs g U' R W h hc;obtain⟨rfl,rfl⟩:=aq.pure' h
  grind
 |cons c cells ih=>
  intro cs g U' R W h hc;obtain⟨c',U1,_,_,_,_,h1,h2⟩:=aq.bind' h;obtain⟨cs',U2,_,_,_,_,h3,h4⟩:=aq.bind' h2;obtain⟨rfl,rfl⟩:=aq.pure' h4;obtain⟨rfl,e1,e2,_,_,_,e3,e4⟩:=aq.passC h1 S (hc 0 (by simp))
  have hc': ∀j (h:j<cells.length),aO β who w cells[j] ((λj=>g (j+1)) j):=λj hj=>by grind
  obtain⟨rfl,f1,f2,f3,f4,f5⟩:=ih h3 hc';refine⟨rfl,by simp[f1],by grind,by simp[e2,f3],λj hj=> ?_,λn hn=> ?_⟩
  . cases j with
    |zero=>exact λβ' who' hp=>e3 β' who' (hp.sub λn hn=>by simp[hn])
    |succ j=>exact λβ' who' hp=>f4 j (by simpa using hj) β' who' (hp.sub λn hn=>by grind)
  . grind
def aq.passA (hT:bm P T) {ty:Nat} {x:Operand} {p:fZ} (h:aq CO (Vs.passA ty T x) U p U' R W) (S:aC E D β who U [] a w):
 cn U U'/\ ∃who',Fr who who'/\aC E D β who' U' [] a w/\gA β who' w U' p (a.eval x):=by
 obtain⟨v,U1,_,_,_,_,h1,h2⟩:=aq.bind' h;obtain⟨g1,g2,g3,a9,g4,S1⟩:=aq.rdP h1 S;have S2:=S1.fix (t:=ty) hT;have hx:=S2.hrel _ mS;have S3:=S2.drop rfl;generalize Zn T ty v=v1 at*;split at h2
 . rename_i cells;obtain⟨cs,U2,_,_,_,_,h3,h4⟩:=aq.bind' h2;obtain⟨rfl,rfl⟩:=aq.pure' h4;obtain⟨arr,e1,e2,e3⟩:=(hx: ∃arr,_);obtain⟨rfl,f1,f2,f3,f4,f5⟩:=qnl (cs:=cs) (g:=λj=>arr.getD j undef) S3 cells h3 e3
   refine⟨g3,a9,g4,S3,⟨λβ' who' hp=> ?_,f2,f3,f5⟩⟩
   exact⟨arr,e1,by rw[e2,f1],λj hj=>f4 j hj β' who' hp⟩
 . rename_i s n sz;obtain⟨av,U2,_,_,_,_,h3,h4⟩:=aq.bind' h2;obtain⟨rfl,rfl⟩:=aq.mget' h3;split at h4
   . rename_i m cells hg;split at h4
     . rename_i hm;obtain⟨rfl,hr,hl⟩:=hm;obtain⟨rfl,rfl⟩:=aq.pure' h4;refine⟨g3,a9,g4,S3,⟨rfl,.inr ⟨m,by rw[hg];rfl,?_,hr,hl,?_⟩⟩⟩
       . rw[hg]
       . have hb:=S3.rel s;rw[hg]at hb;obtain⟨hb0,b,arr,el,hb1,_⟩:=hb;rw[hg];rcases(hx:NO _ _ _ _ _)with⟨b',o,L,cap,q1,_⟩|⟨b',q1,_,q2⟩
         . grind
         . exact q2.trans q1.symm
     . exact(aq.fail' h4).elim
   . exact(aq.fail' h4).elim
 . rename_i hn1 hn2;obtain⟨c,U2,_,_,_,_,h3,h4⟩:=aq.bind' h2;obtain⟨rfl,rfl⟩:=aq.pure' h4
   have hc:aO β a9 w v1 (a.eval x):=by
    cases v1 with
    |tup vs=>exact(aq.fail' h3).elim
    |bx o cs=>exact(aq.fail' h3).elim
    |agg cs=>exact absurd rfl (hn1 cs)
    |dead=>trivial
    |_=>exact hx
   obtain⟨rfl,e1,e2,f1,f2,f3,f4,f5⟩:=aq.passC h3 S3 hc;exact⟨g3,a9,g4,S3,⟨λβ' who' hp=>f1 _ _ (f4 β' who' hp),f2,f3,f5⟩⟩
def aq.lendA {x:Operand} {p:fZ} (h:aq CO (Vs.lendA x) U p U' R W) (S:aC E D β who U [] a w):
 U'=U/\gA β who w U' p (a.eval x):=by
 obtain⟨v,U1,_,_,_,_,h1,h2⟩:=aq.bind' h;obtain⟨rfl,S1⟩:=aq.rd h1 S;have hx:=S1.hrel _ mS;split at h2
 . rename_i s n sz;obtain⟨av,U2,_,_,_,_,h3,h4⟩:=aq.bind' h2;obtain⟨rfl,rfl⟩:=aq.mget' h3;split at h4
   . rename_i m t xs hg;split at h4
     . rename_i hm;subst hm;obtain⟨rfl,rfl⟩:=aq.pure' h4;refine⟨rfl,rfl,.inr ⟨m,by rw[hg];rfl,by rw[hg],by rw[hg];rfl,by rw[hg];exact(by decide:1<=16),?_⟩⟩
       rw[hg];exact(show tE (β m) sz none (a.eval x)from hx).1
     . exact(aq.fail' h4).elim
   . exact(aq.fail' h4).elim
 . rename_i s n;obtain⟨av,U2,_,_,_,_,h3,h4⟩:=aq.bind' h2;obtain⟨rfl,rfl⟩:=aq.mget' h3;split at h4
   . rename_i m t xs hg;split at h4
     . rename_i hm;subst hm;obtain⟨rfl,rfl⟩:=aq.pure' h4;refine⟨rfl,rfl,.inr ⟨m,by rw[hg];rfl,by rw[hg],by rw[hg];rfl,by rw[hg];exact(by decide:1<=16),?_⟩⟩
       rw[hg];exact(show eE (β m) .whole (a.eval x)from hx).1
     . exact(aq.fail' h4).elim
   . exact(aq.fail' h4).elim
 . exact(aq.fail' h2).elim
def aq.passN (hT:bm P T) {ty:Nat} {x:Operand} {p:fZ} (h:aq CO (Vs.passN ty T x) U p U' R W) (S:aC E D β who U [] a w):
 U'=U/\gA β who w U' p (a.eval x):=by
 obtain⟨v,U1,_,_,_,_,h1,h2⟩:=aq.bind' h;obtain⟨rfl,S1⟩:=aq.rd h1 S;have S2:=S1.fix (t:=ty) hT;have hx:=S2.hrel _ mS;generalize Zn T ty v=v1 at*;split at h2
 . rename_i t xs;obtain⟨rfl,rfl⟩:=aq.pure' h2;exact⟨rfl,λβ' who' hp=>hx,rfl,rfl,λn hn=>by cases hn⟩
 . exact(aq.fail' h2).elim
def aq.passX (hT:bm P T) {k ty:Nat} {x:Operand} {p:fZ} (h:aq CO (Vs.passX T k ty x) U p U' R W) (S:aC E D β who U [] a w):
 cn U U'/\ ∃who',Fr who who'/\aC E D β who' U' [] a w/\gA β who' w U' p (a.eval x):=by
 unfold Vs.passX at h;split at h
 . obtain⟨rfl,h2⟩:=aq.passN hT h S;exact⟨cn.refl _,who,Fr.refl _,S,h2⟩
 . split at h
   . obtain⟨rfl,h2⟩:=aq.lendA h S;exact⟨cn.refl _,who,Fr.refl _,S,h2⟩
   . exact aq.passA hT h S
def aq.passAll (hT:bm P T): ∀{k:Nat} {xs:List Operand} {tys:List TypeId} {ps:List fZ} {who:bg} {U U':ag} {R W:List Nat},aq CO (Vs.passAll T k xs tys) U ps U' R W->aC E D β who U [] a w->
 cn U U'/\ ∃who',Fr who who'/\aC E D β who' U' [] a w/\ps.length=xs.length/\ ∀i (h:i<ps.length) (h':i<xs.length),gA β who' w U' ps[i] (a.eval xs[i])
 |k,[],tys,ps,who,U,U',R,W,h,S=>by
  obtain⟨rfl,rfl⟩:=aq.pure' h;exact⟨cn.refl _,who,Fr.refl _,S,rfl,λi hi=>absurd hi (zA _)⟩
 |k,x::xs,[],ps,who,U,U',R,W,h,S=>(aq.fail' h).elim
 |k,x::xs,ty::tys,ps,who,U,U',R,W,h,S=>by
  obtain⟨p,U1,_,_,_,_,h1,h2⟩:=aq.bind' h;obtain⟨ps',U2,_,_,_,_,h3,h4⟩:=aq.bind' h2;obtain⟨rfl,rfl⟩:=aq.pure' h4;obtain⟨e1,a9,e2,S1,e3⟩:=aq.passX hT h1 S;obtain⟨f1,bE,f2,S2,f3,f4⟩:=aq.passAll hT h3 S1;refine⟨e1.trans f1,bE,e2.trans f2,S2,by simp[f3],λi hi hi'=> ?_⟩
  cases i with
  |zero=>exact e3.mono f2 f1
  |succ i=>grind
end
def ZK {c:AV} (h:Xv c=true):aI c=qc c:=by
 cases c with
 |sl o t xs=>cases o<;>rfl
 |ref s n sz w=>cases h
 |ptr s n sz i j=>cases h
 |dr s n k=>cases h
 |wn n t xs=>cases h
 |fd n t xs hh=>cases h
 |_=>rfl
def SU {cells:List AV} (h:cells.all Xv=true):cells.flatMap aI=cells.flatMap qc:=by
 induction cells with
 |nil=>rfl
 |cons c cs ih=>
  simp only[xL,zI]at h;simp[ZK h.1,ih h.2]
def OY {v:AV} (h:Cp v=true):aX v=qi v:=by
 cases v with
 |bx o cells=>
  have:=SU (cells:=cells) h;cases o<;>simp[aX,qi,this]
 |agg cells=>exact SU (cells:=cells) h
 |sl o t xs=>exact ZK (c:= .sl o t xs) h
 |ref s n sz w=>cases h
 |ptr s n sz i j=>cases h
 |dr s n k=>cases h
 |wn n t xs=>cases h
 |fd n t xs hh=>cases h
 |_=>rfl
def Xt {v:AV} (h:bK v=true):Vs.occ v=ab v:=by
 cases v with
 |tup vs=>
  simp only[bK]at h;simp only[Vs.occ,ab];induction vs with
  |nil=>rfl
  |cons c cs ih=>
   simp only[xL,zI]at h;simp[OY h.1,ih h.2]
 |sl o t xs=>exact OY (v:= .sl o t xs) h
 |bx o cells=>exact OY (v:= .bx o cells) h
 |agg cells=>exact OY (v:= .agg cells) h
 |ref s n sz w=>cases h
 |ptr s n sz i j=>cases h
 |dr s n k=>cases h
 |wn n t xs=>cases h
 |fd n t xs hh=>cases h
 |_=>rfl
def VH {o:M2} {cells:List AV} (h:fH (.bx o cells)=true): ∃m k t xs hh cs,o= .nm m/\cells= .fd k t xs hh::cs/\cs.all Xv=true:=by
 cases o with
 |nm m=>
  cases cells with
  |nil=>cases h
  |cons c cs=>
   cases c with
   |fd k t xs hh=>exact⟨m,k,t,xs,hh,cs,rfl,rfl,h⟩
   |_=>cases h
 |_=>cases h
def qmz {v:AV} (h:eh v=true): ∀n∈Vs.occ v,n∈ab v\/n=98:=by
 intro n hn;cases hw:fH v with
 |false=>
  unfold eh at h;rw[hw,NH]at h;rw[Xt h]at hn;exact .inl hn
 |true=>
  cases v with
  |wn m t xs=>
   simp only[Vs.occ,aX,aI,zT,zZ,or_false]at hn;rcases hn with rfl|rfl
   . exact .inl (by simp[ab,qi,qc])
   . exact .inr rfl
  |bx o cells=>
   obtain⟨m,k,t,xs,hh,cs,rfl,rfl,hcs⟩:=VH hw;simp only[Vs.occ,aX,fC,aI,zT,zQ,zZ,or_false,SU hcs]at hn;simp only[ab,qi,fC,qc,zT,zQ,zZ,or_false]
   grind
  |_=>cases hw
section
variable {f:Nat->Nat}
def ZD {c:AV}:qc (du f c)=(qc c).map f:=by
 cases c with
 |sl o t xs=>cases o<;>rfl
 |_=>rfl
def q5e {cells:List AV}:(cells.map (du f)).flatMap qc=(cells.flatMap qc).map f:=by
 induction cells with
 |nil=>rfl
 |cons c cs ih=>simp[ZD,ih]
def OZ {v:AV}:qi (fv f v)=(qi v).map f:=by
 cases v with
 |bx o cells=>
  have:=q5e (f:=f) (cells:=cells);cases o<;>simp[fv,renO,qi,this]
 |agg cells=>exact q5e (f:=f) (cells:=cells)
 |sl o t xs=>have:=ZD (f:=f) (c:= .sl o t xs);cases o<;>exact this
 |_=>rfl
def qy {v:AV}:ab (ren f v)=(ab v).map f:=by
 cases v with
 |tup vs=>
  simp only[ren,ab];induction vs with
  |nil=>rfl
  |cons c cs ih=>simp[OZ,ih]
 |sl o t xs=>have:=OZ (f:=f) (v:= .sl o t xs);cases o<;>exact this
 |bx o cells=>exact OZ (f:=f) (v:= .bx o cells)
 |agg cells=>exact OZ (f:=f) (v:= .agg cells)
 |_=>rfl
def Sq {c:AV}:Xv (du f c)=Xv c:=by
 cases c with
 |sl o t xs=>cases o<;>rfl
 |_=>rfl
def V7 {cells:List AV}:(cells.map (du f)).all Xv=cells.all Xv:=by
 induction cells with
 |nil=>rfl
 |cons c cs ih=>simp only[nV,xL,Sq,ih]
def OV {v:AV}:Cp (fv f v)=Cp v:=by
 cases v with
 |bx o cells=>exact V7 (cells:=cells)
 |agg cells=>exact V7 (cells:=cells)
 |sl o t xs=>have:=Sq (f:=f) (c:= .sl o t xs);cases o<;>exact this
 |_=>rfl
def qi5 {v:AV}:fH (ren f v)=fH v:=by
 cases v with
 |sl o t xs=>cases o<;>rfl
 |bx o cells=>
  cases o with
  |nm n=>
   cases cells with
   |nil=>rfl
   |cons c cells=>
    cases c with
    |fd m t xs hh=>simp only[ren,fv,renO,nV,du,fH,List.all_map];exact congrArg (λg=>cells.all g) (funext λc=>Sq)
    |sl o t xs=>cases o<;>rfl
    |_=>rfl
  |_=>rfl
 |_=>rfl
def Qw {v:AV}:bK (ren f v)=bK v:=by
 cases v with
 |tup vs=>
  simp only[ren,bK];induction vs with
  |nil=>rfl
  |cons c cs ih=>simp only[nV,xL,OV,ih]
 |sl o t xs=>have:=OV (f:=f) (v:= .sl o t xs);cases o<;>exact this
 |bx o cells=>exact OV (f:=f) (v:= .bx o cells)
 |agg cells=>exact OV (f:=f) (v:= .agg cells)
 |_=>rfl
end
def aL.flat {who who':bg} {w:World}: ∀{t:Ty} {x:aM t} {g:Nat->Option Value} {j:Nat},Xa t=false->aL who w t x g j->aL who' w t x g j
 | .int _,_,_,_,_,h=>h
 | .bool,_,_,_,_,h=>h
 | .pr a b,_,_,_,ht,h=>by
   simp only[Xa,Ip]at ht;exact⟨aL.flat ht.1 h.1,aL.flat ht.2 h.2⟩
 | .sl _ t,xs,g,j,ht,h=>by cases ht
section
variable {β β2:aP} {who bE:bg} {w:World} {f:Nat->Nat}
structure fW (β:aP) (who:bg) (w:World) (β2:aP) (bE:bg) (f:Nat->Nat) (ns:List Nat) (im:Bool):Prop where
 beta: ∀n∈ns,β2 (f n)=β n
 own: ∀n∈ns,∀b,who b=some n->bE b=some (f n)
 imm:im=true-> ∀b,who b=none->b<w.heap.size->bE b=none
def fW.mono {ns ns':List Nat} {im im':Bool} (h:fW β who w β2 bE f ns im) (hn: ∀n∈ns',n∈ns) (hi:im'=true->im=true):fW β who w β2 bE f ns' im':=
 ⟨λn hn'=>h.beta n (hn n hn'),λn hn'=>h.own n (hn n hn'),λe=>h.imm (hi e)⟩
def aO.ren {c:AV} {v:Value} (hr:Xv c=true) (k:fW β who w β2 bE f (qc c) (Je c)) (h:aO β who w c v):aO β2 bE w (du f c) v:=by
 cases c with
 |sl o t xs=>
  cases o with
  |imm=>exact fB.keep (λb hb hl=>⟨k.imm rfl b hb hl,rfl⟩) (zF _) h
  |nl=>exact h
  |inn=>exact h
  |nm n=>
   obtain⟨h1,h2⟩:=h;refine⟨by rw[k.beta n (by simp[qc])];exact h1,?_⟩
   rcases h2 with h2|⟨b,o,cap,arr,el,e1,e2,e3,e4,e5,e6⟩
   . exact .inl h2
   . refine .inr ⟨b,o,cap,arr,el,e1,e2,e3,e4,k.own n (by simp[qc]) b e5,?_⟩
     cases ht:Xa t with
     |true=>exact aQ.keep (λb hb hl=>⟨k.imm ht b hb hl,rfl⟩) (zF _) rfl e6
     |false=>exact λi hi=>aL.flat ht (e6 i hi)
 |ref s n sz win=>cases hr
 |ptr s n sz i j=>cases hr
 |dr s n kk=>cases hr
 |wn n t xs=>cases hr
 |mm n t xs o=>
  refine dY.map (k.beta n (by simp[qc])) (λb hb=>⟨k.own n (by simp[qc]) b hb,rfl⟩) (λx g j he=> ?_) h
  cases ht:Xa t with
  |true=>exact aL.keep (λb hb hl=>⟨k.imm ht b hb hl,rfl⟩) (zF _) he
  |false=>exact aL.flat ht he
 |fd n t xs hh=>cases hr
 |dq n t xs hh=>
  exact dZ.map (k.beta n (by simp[qc])) (λb hb=>⟨k.own n (by simp[qc]) b hb,rfl⟩) (λt ys b o _ he=>aQ.keep (λb hb hl=>⟨k.imm rfl b hb hl,rfl⟩) (zF _) rfl he) h
 |dp n t xs hh=>
  refine bh.map (k.beta n (by simp[qc])) (λb hb=>⟨k.own n (by simp[qc]) b hb,rfl⟩) (λys b o _ he=> ?_) h
  cases ht:Xa t with
  |true=>exact aQ.keep (λb hb hl=>⟨k.imm ht b hb hl,rfl⟩) (zF _) rfl he
  |false=>exact λi hi=>aL.flat ht (he i hi)
 |iptr g t xs i j=>
  obtain⟨b,o,e1,e2,e3,e4,e5⟩:=h;exact⟨b,o,e1,e2,k.imm rfl b e3 e4,e4,aQ.keep (λb hb hl=>⟨k.imm rfl b hb hl,rfl⟩) (zF _) rfl e5⟩
 |_=>exact h
def a8.ren {cells:List AV} {arr:Array Value} (hr:cells.all Xv=true) (k:fW β who w β2 bE f (cells.flatMap qc) (cells.any Je))
 (h:a8 β who w cells arr):a8 β2 bE w (cells.map (du f)) arr:=by
 refine⟨by simpa using h.1,λj hj=> ?_⟩
 have hj':j<cells.length:=by simpa using hj
 rw[nw];refine aO.ren (zx.1 hr _ (zN hj')) (k.mono (λn hn=>zH.2 ⟨_,zN hj',hn⟩) λe=> ?_) (h.2 j hj')
 grind
def qu1:AV->Bool
 | .bx _ cells=>cells.any Je
 | .agg cells=>cells.any Je
 |v=>Je v
def bp.ren {v:AV} {c:Value} (hr:Cp v=true) (k:fW β who w β2 bE f (qi v) (qu1 v)) (h:bp β who w v c):bp β2 bE w (fv f v) c:=by
 cases v with
 |bx o cells=>
  cases o with
  |nm n=>
   obtain⟨h0,b,arr,el,e1,e2,e3,e4⟩:=h
   exact⟨by rw[k.beta n (by simp[qi])];exact h0,b,arr,el,e1,e2,k.own n (by simp[qi]) b e3,
    a8.ren hr (k.mono (λn hn=>by simp only[qi];grind) λe=>e) e4⟩
  |_=>exact h.elim
 |agg cells=>
  obtain⟨arr,e1,e2⟩:=h;exact⟨arr,e1,a8.ren hr k e2⟩
 |tup vs=>exact h.elim
 |dead=>trivial
 |bool b=>exact aO.ren (c:= .bool b) hr k h
 |int x n=>exact aO.ren (c:= .int x n) hr k h
 |lit u=>exact aO.ren (c:= .lit u) hr k h
 |sl o t xs=>
  have:=aO.ren (c:= .sl o t xs) hr k h;cases o<;>exact this
 |ref s n sz win=>cases hr
 |ptr s n sz i j=>cases hr
 |iptr g t xs i j=>exact aO.ren (c:= .iptr g t xs i j) hr k h
 |dp n t xs hh=>exact aO.ren (c:= .dp n t xs hh) hr k h
 |dr s n kk=>exact aO.ren (c:= .dr s n kk) hr k h
 |wn n t xs=>exact aO.ren (c:= .wn n t xs) hr k h
 |dq n t xs hh=>exact aO.ren (c:= .dq n t xs hh) hr k h
 |mm n t xs o=>exact aO.ren (c:= .mm n t xs o) hr k h
 |fd n t xs hh=>cases hr
def be.ren {v:AV} {c:Value} (hr:bK v=true) (k:fW β who w β2 bE f (ab v) (Qp v)) (h:be β who w v c):be β2 bE w (Vs.ren f v) c:=by
 cases v with
 |tup vs=>
  obtain⟨arr,e1,e2,e3⟩:=h;refine⟨arr,e1,by simpa using e2,λj hj=> ?_⟩
  have hj':j<vs.length:=by simpa using hj
  rw[nw];refine bp.ren (zx.1 hr _ (zN hj')) (k.mono (λn hn=>zH.2 ⟨_,zN hj',hn⟩) λe=> ?_) (e3 j hj')
  refine Ng.2 ⟨_,zN hj',?_⟩;revert e;generalize vs[j]=u;cases u<;>exact id
 |dead=>trivial
 |bool b=>exact bp.ren (v:= .bool b) hr k h
 |int x n=>exact bp.ren (v:= .int x n) hr k h
 |lit u=>exact bp.ren (v:= .lit u) hr k h
 |sl o t xs=>
  have:=bp.ren (v:= .sl o t xs) hr k h;cases o<;>exact this
 |bx o cells=>exact bp.ren (v:= .bx o cells) hr k h
 |agg cells=>exact bp.ren (v:= .agg cells) hr k h
 |ref s n sz win=>cases hr
 |ptr s n sz i j=>cases hr
 |iptr g t xs i j=>exact bp.ren (v:= .iptr g t xs i j) hr k h
 |dp n t xs hh=>exact bp.ren (v:= .dp n t xs hh) hr k h
 |dr s n kk=>exact bp.ren (v:= .dr s n kk) hr k h
 |wn n t xs=>exact bp.ren (v:= .wn n t xs) hr k h
 |dq n t xs hh=>exact bp.ren (v:= .dq n t xs hh) hr k h
 |mm n t xs o=>exact bp.ren (v:= .mm n t xs o) hr k h
 |fd n t xs hh=>cases hr
def be.renO {v:AV} {c:Value} (ho:eh v=true) (k:fW β who w β2 bE f (ab v) (Qp v)) (h98:β2 98=β 98) (h:be β who w v c):be β2 bE w (Vs.ren f v) c:=by
 cases hw:fH v with
 |false=>
  unfold eh at ho;rw[hw,NH]at ho;exact be.ren ho k h
 |true=>
  cases v with
  |wn n t xs=>
   have h1:be β who w (.sl (.nm n) t xs) c:=h.1;have h2:be β2 bE w (.sl (.nm (f n)) t xs) c:=be.ren (v:= .sl (.nm n) t xs) rfl k h1;obtain⟨arr0,g1,g2⟩:=h.2;exact⟨h2,arr0,by rw[h98];exact g1,g2⟩
  |bx o cells=>
   obtain⟨m,q,t,xs,hh,cs,rfl,rfl,hcs⟩:=VH hw;obtain⟨h0,b,arr,el,e1,e2,e3,e4⟩:=h
   have h1:bp β2 bE w (fv f (.bx (.nm m) (.dp q t xs hh::cs))) c:=bp.ren (v:= .bx (.nm m) (.dp q t xs hh::cs)) (by simpa [Cp,Xv]using hcs) k
    ⟨h0,b,arr,el,e1,e2,e3,e4.1,λj hj=>by
      cases j with
      |zero=>exact(e4.2 0 hj).1
      |succ j=>exact e4.2 (j+1) hj⟩
   obtain⟨g0,b',arr',el',g1,g2,g3,g4⟩:=h1;have hb:b'=b:=by rw[g1]at e1;injection e1 with e1;injection e1 with e1;injection e1 with e1
   subst hb;rw[e2]at g2;injection g2 with g2
   injection g2 with g2 g2'
   subst g2;refine⟨g0,b',arr,el,g1,e2,g3,g4.1,λj hj=> ?_⟩
   cases j with
   |zero=>exact⟨g4.2 0 hj,by rw[h98];exact(e4.2 0 (by simp)).2⟩
   |succ j=>exact g4.2 (j+1) hj
  |_=>cases hw
end
def OR (who:bg) (w:World) (cargs:Array Value) (res:AV) (outs:List AV) (c98:Value) (e:Ending) (w':World):Prop:=
 ∃v β' who',e= .returned v/\β' 98=c98/\be β' who' w' res v/\(∀i (h:i<outs.length),be β' who' w' outs[i] (cargs.getD i undef))/\
  (ab res++outs.flatMap ab).Nodup/\(∀n∈ab res++outs.flatMap ab,n<16)/\bK res=true/\outs.all eh=true/\
  (∀b,b<w.heap.size->who b=none\/who b=some FN->w'.heap[b]? =w.heap[b]?)/\(∀b n,who' b=some n->b<w'.heap.size/\(who b≠none\/w.heap.size<=b))/\
  w.heap.size<=w'.heap.size/\(∀b,who b=some FN->who' b=some FN)/\w'.os=w.os/\w'.output=w.output
def Xc (P:Program) (f:FuncId) (args:List AV) (res:AV) (outs:List AV):Prop:=
 (∃fn,P.funcs[f]? =some fn∧fn.body.isNone=false∧(fn.name== "runtime.NumGoroutine")=false)∧
 ∀β who w (cargs:Array Value),cargs.size=args.length->(∀i (h:i<args.length),be β who w args[i] (cargs.getD i undef))->
  (args.flatMap ab).Nodup->(∀n∈args.flatMap ab,n<99)->args.all eh=true->(∀b n,who b=some n->b<w.heap.size/\(n∈args.flatMap ab\/n=FN))->ct P who w->
  Calls P f cargs w (OR who w cargs res outs (β 98))
def Yc {l:List AV} (h:l.all bK=true):l.all eh=true:=zx.2 λx hx=>by
 unfold eh;grind
def SF {v:AV} (h:eh v=true) (hw:fH v=false):bK v=true:=by
 unfold eh at h;grind
def ct.whoC {P:Program} {who:bg} {w:World} (h:ct P who w) {who':bg} (hw: ∀b,who b=none->who' b=none):ct P who' w:=λx hx=>⟨hw _ (h x hx).1,(h x hx).2⟩
def X7 {ns:List Nat} {n:Nat} (h:n∈ns):aT ns n<ns.length:=by
 induction ns with
 |nil=>cases h
 |cons m ms ih=>
  simp only[aT,j8]
  grind
def Jd {ns:List Nat} {n:Nat} (h:n∈ns):ns.getD (aT ns n) 0=n:=by
 induction ns with
 |nil=>cases h
 |cons m ms ih=>
  simp only[aT]
  grind
def J2 {ns:List Nat} {n m:Nat} (hn:n∈ns) (hm:m∈ns) (h:aT ns n=aT ns m):n=m:=by
 rw[<-Jd hn,<-Jd hm,h]
def Qo {f:Nat->Nat} {l:List Nat} (hf: ∀a∈l,∀b∈l,f a=f b->a=b) (h:l.Nodup):(l.map f).Nodup:=by
 induction l with
 |nil=>simp
 |cons x l ih=>
  grind
def whoC (who:bg) (ln rn:List Nat):bg:=λb=>match who b with
 |none=>none
 |some n=>if n∈ln then some (aT ln n)else if n∈rn then none else some FN
def bE (who who':bg) (idx:Nat) (ln ns:List Nat):bg:=λb=>match who' b with
 |none=>(match who b with
  |none=>none
  |some n=>if n∈ln then none else some n)
 |some m=>if m=FN then who b else if m∈ns then some (ae idx m)else none
def fU (β β':aP) (idx:Nat):aP:=λn=>if ae idx 0<=n/\n<=ae idx 15 then β' (n-ae idx 0)else β n
section
variable {P:Program} {CO:Q5} {T:TT} {E:aN} {D:Nat->Prop} {β β':aP} {who who':bg} {U U':ag} {hd:List (AV×Value)} {a:Act} {w w':World} {R W:List Nat}
def Y4 {idx:Nat} {ln rn ns:List Nat} {im:Bool} (S:aC E D β who U [] a w) (hf: ∀k,k<16-> ¬D (ae idx k))
 (hln: ∀n∈ln,n≠FN/\ ∀s,n∉ab (U.get s)) (hrn: ∀n∈rn,n≠FN) (hlen:ln.length<=16)
 (hfr: ∀b,b<w.heap.size->whoC who ln rn b=none\/whoC who ln rn b=some FN->w'.heap[b]? =w.heap[b]?)
 (hw: ∀b n,who' b=some n->b<w'.heap.size/\(whoC who ln rn b≠none\/w.heap.size<=b)) (hsz:w.heap.size<=w'.heap.size)
 (hFN: ∀b,whoC who ln rn b=some FN->who' b=some FN) (hns: ∀n∈ns,n<16) (him:im=true->rn=[]) (h4:w'.os=w.os/\w'.output=w.output):
 aC E (Dn D idx) (fU β β' idx) (bE who who' idx ln ns) U [] a w'/\fW β' who' w' (fU β β' idx) (bE who who' idx ln ns) (ae idx) ns im:=by
 have cnone: ∀b,who b=none->whoC who ln rn b=none:=λb h=>by simp[whoC,h]
 have pnone: ∀b,b<w.heap.size->whoC who ln rn b=none->who' b=none:=λb hb h=>by
  cases e:who' b with
  |none=>rfl
  |some n=>
   grind
 have keepo: ∀b n,who b=some n->n∉ln->bE who who' idx ln ns b=some n/\w'.heap[b]? =w.heap[b]? :=λb n hb hn=>by
  have hlt:=S.wsz b n hb;by_cases hr:n∈rn
  . have hc:whoC who ln rn b=none:=by simp[whoC,hb,hn,hr]
    exact⟨by simp[bE,pnone b hlt hc,hb,hn],hfr b hlt (.inl hc)⟩
  . have hc:whoC who ln rn b=some FN:=by simp[whoC,hb,hn,hr]
    exact⟨by simp[bE,hFN b hc,hb],hfr b hlt (.inr hc)⟩
 have immo: ∀b,who b=none->b<w.heap.size->bE who who' idx ln ns b=none/\w'.heap[b]? =w.heap[b]? :=λb hb hlt=>by
  have hc:=cnone b hb;exact⟨by simp[bE,pnone b hlt hc,hb],hfr b hlt (.inl hc)⟩
 have hβ: ∀n,D n->fU β β' idx n=β n:=λn hn=>by
  simp only[fU];rw[ao]
  rintro ⟨h1,h2⟩
  refine hf (n-ae idx 0) (by simp only[ae]at*;omega) ?_
  rwa [show ae idx (n-ae idx 0)=n by simp only[ae]at*;omega]
 have hFl:FN∉ln:=λh=>(hln _ h).1 rfl
 have S1:aC E D (fU β β' idx) (bE who who' idx ln ns) U [] a w':=by
  refine S.world (λs=>(S.rel s).keep ⟨λn hn=>hβ n (S.occ s n hn),λn hn b hb=>keepo b n hb λh=>(hln n h).2 s hn,immo,hsz⟩)
   (λx hx=>by cases hx) (λb n hb=> ?_) hsz (λb hb h0=> ?_) (λb n hb=> ?_) (λb hb=> ?_) h4 (hβ 98 S.d98)
  . simp only[bE]at hb;split at hb
    . split at hb
      . cases hb
      . rename_i m hm;have:=S.wsz b m hm;omega
    grind
  . have hb':b<w.heap.size:=tL hb S.fr2;rcases h0 with h0|h0
    . cases hwb:who b with
      |none=>exact(immo b hwb hb').2
      |some n=>
       rcases S.fr1 b n hwb with h|h
       . exact absurd h0 h
       . omega
    . exact(keepo b FN (S.fr3 b h0) hFl).2
  . simp only[bE]at hb;split at hb
    . split at hb
      . cases hb
      . rename_i m hm;exact S.fr1 b m hm
    . rename_i m hm;split at hb
      . exact S.fr1 b n hb
      . rcases(hw b m hm).2 with h|h
        . cases hwb:who b with
          |none=>grind
          |some n'=>exact S.fr1 b n' hwb
        . exact .inr (zf S.fr2 h)
  . exact(keepo b FN (S.fr3 b hb) hFl).1
 refine⟨S1.mono (λn h=> .inl h) (dh S.dfn),⟨λn hn=> ?_,λn hn b hb=> ?_,λhi b hb hlt=> ?_⟩⟩
 . have:=hns n hn;simp only[fU];rw[iP (by simp only[ae];omega)]
   congr 1;simp only[ae];omega
 . have:=hns n hn;simp only[bE,hb];rw[ao (by simp only[FN];omega),iP hn]
 . simp only[bE,hb];split
   . rfl
   . rename_i n hn;split
     . rfl
     . rename_i hnl;exfalso;have hc:whoC who ln rn b=some FN:=by simp[whoC,hn,hnl,him hi]
       grind
def aC.add {new:List (AV×Value)} {D':Nat->Prop} (S:aC E D' β who U [] a w) (hr: ∀x∈new,be β who w x.1 x.2) (hnd:(new.flatMap λx=>ab x.1).Nodup)
 (hdis: ∀x∈new,∀n∈ab x.1,∀s,n∉ab (U.get s)) (ho: ∀x∈new,∀n∈Vs.occ x.1,D' n):aC E D' β who U new a w:=
 {S with hrel:=hr,hnod:=hnd,hdis:=hdis,hocc:=ho}
def x5 (U:ag) (p:fZ):Prop:=match p.2.1 with
 |none=>ab p.1=[]/\bK p.1=true
 |some s=>p.1=ren (aT (ab (U.get s))) (U.get s)/\bK (U.get s)=true
def Zr {v:AV} {m:Nat} (h:Jj v=some m):m∈ab v:=by
 unfold Jj at h;split at h
 . cases h;simp[ab,qi]
 . cases h;simp[ab,qi,qc]
 . cases h;simp[ab,qi,qc]
 . cases h
def Sj {v:AV} {m:Nat} {u:Value} (h:Jj v=some m) (hr:be β who w v u):u=iu β m v:=by
 unfold Jj at h;split at h
 . cases h;exact hr.1
 . cases h;exact hr.1
 . cases h;exact hr.1
 . cases h
def gA.passOK {p:fZ} {u:Value} (h:gA β who w U p u) (hs: ∀s,p.2.1=some s->ab (U.get s)≠[]):x5 U p:=by
 obtain⟨av,l,rn⟩:=p;cases l with
 |none=>exact⟨h.2.2.1,h.2.1⟩
 |some s=>
  obtain⟨_,h⟩:=h;rcases h with h|⟨m,_,h3,h4,_⟩
  . exact absurd h (hs s rfl)
  . exact⟨h3,h4⟩
def Yv {ps:List fZ} (h: ∀p∈ps,x5 U p):
 (ps.map (·.1)).flatMap ab=(Xr ps).flatMap λs=>(ab (U.get s)).map (aT (ab (U.get s))):=by
 induction ps with
 |nil=>rfl
 |cons p ps ih=>
  obtain⟨av,l,rn⟩:=p;have h0:=h _ mS;have ih':=ih λp hp=>h p (mT hp)
  cases l with
  |none=>simp only[nV,fC,Xr,ih',h0.1,n5]
  |some s=>
   have e:av=ren (aT (ab (U.get s))) (U.get s):=h0.1;simp only[nV,fC,Xr,ih',e,qy]
def Yo {ps:List fZ} (h: ∀p∈ps,x5 U p):(ps.map (·.1)).all bK=true:=by
 refine zx.2 λx hx=> ?_
 obtain⟨p,hp,rfl⟩:=zV.1 hx;obtain⟨av,l,rn⟩:=p;have:=h _ hp;cases l with
 |none=>exact this.2
 |some s=>
  have e:av=ren (aT (ab (U.get s))) (U.get s):=this.1;subst e;show bK (ren _ _)=true;rw[Qw];exact this.2
def q8y {outs:List AV} {o:AV}: ∀{ps:List fZ} {k:Nat} {s:Nat},uA outs ps k=some o->Xr ps=[s]->
 ∃i,∃h:i<ps.length,ps[i].2.1=some s/\outs[k+i]? =some o
 |[],k,s,h,_=>by cases h
 |(av,some s',rn)::ps,k,s,h,hl=>by
  simp only[Xr,Fv]at hl;exact⟨0,by simp,by simp[hl.1],h⟩
 |(av,none,rn)::ps,k,s,h,hl=>by
  obtain⟨i,hi,h1,h2⟩:=q8y (ps:=ps) (k:=k+1) h hl;exact⟨i+1,by simpa using hi,h1,by rw[<-h2];congr 1;omega⟩
def Qn {ps:List fZ} {p:fZ} {s:Nat} (hp:p∈ps) (h:p.2.1=some s):s∈Xr ps:=by
 induction ps with
 |nil=>cases hp
 |cons q ps ih=>
  obtain⟨av,l,rn⟩:=q;rcases mC hp with rfl|hp'
  . simp only at h;subst h;simp[Xr]
  . cases l with
    |none=>exact ih hp'
    |some s'=>exact mT (ih hp')
def qkd {l1 l2:List Nat} {n:Nat} (h:n∈l1):aT (l1++l2) n=aT l1 n:=by
 induction l1 with
 |nil=>cases h
 |cons m ms ih=>
  simp only[qX,aT]
  grind
def qhb {l1 l2:List Nat} {n:Nat} (h:n∉l1):aT (l1++l2) n=aT l2 n+l1.length:=by
 induction l1 with
 |nil=>simp
 |cons m ms ih=>
  simp only[zT,not_or]at h;simp only[qX,aT,j8]
  grind
def YQ {f g:Nat->Nat} {c:AV}:du g (du f c)=du (λn=>g (f n)) c:=by
 cases c with
 |sl o t xs=>cases o<;>rfl
 |_=>rfl
def WC {f g:Nat->Nat} {cells:List AV}:(cells.map (du f)).map (du g)=cells.map (du λn=>g (f n)):=by
 rw[Is];exact tl λc _=>YQ
def OS {f g:Nat->Nat} {v:AV}:fv g (fv f v)=fv (λn=>g (f n)) v:=by
 cases v with
 |bx o cells=>
  have:=WC (f:=f) (g:=g) (cells:=cells);cases o<;>simp only[fv,renO,this]
 |agg cells=>simp only[fv,WC]
 |sl o t xs=>have:=YQ (f:=f) (g:=g) (c:= .sl o t xs);cases o<;>exact this
 |_=>rfl
def qt5 {f g:Nat->Nat} {v:AV}:ren g (ren f v)=ren (λn=>g (f n)) v:=by
 cases v with
 |tup vs=>
  simp only[ren,Is];congr 1;exact tl λc _=>OS
 |sl o t xs=>have:=OS (f:=f) (g:=g) (v:= .sl o t xs);cases o<;>exact this
 |bx o cells=>exact OS (f:=f) (g:=g) (v:= .bx o cells)
 |agg cells=>exact OS (f:=f) (g:=g) (v:= .agg cells)
 |_=>rfl
def Zh {f g:Nat->Nat} {c:AV} (h: ∀n∈qc c,f n=g n):du f c=du g c:=by
 cases c with
 |sl o t xs=>
  cases o with
  |nm n=>simp only[du,h n (by simp[qc])]
  |_=>rfl
 |dp n t xs hh=>simp only[du,h n (by simp[qc])]
 |wn n t xs=>simp only[du,h n (by simp[qc])]
 |dq n t xs hh=>simp only[du,h n (by simp[qc])]
 |fd n t xs hh=>simp only[du,h n (by simp[qc])]
 |mm n t xs o=>simp only[du,h n (by simp[qc])]
 |_=>rfl
def S6 {f g:Nat->Nat} {cells:List AV} (h: ∀n∈cells.flatMap qc,f n=g n):cells.map (du f)=cells.map (du g):=
 tl λc hc=>Zh λn hn=>h n (zH.2 ⟨c,hc,hn⟩)
def Y0 {f g:Nat->Nat} {v:AV} (h: ∀n∈qi v,f n=g n):fv f v=fv g v:=by
 cases v with
 |bx o cells=>
  cases o with
  |nm m=>
   simp only[qi,zT]at h;simp only[fv,renO,h m (.inl rfl),S6 λn hn=>h n (.inr hn)]
  |_=>simp only[fv,renO,S6 (cells:=cells) h]
 |agg cells=>simp only[fv,S6 (cells:=cells) h]
 |sl o t xs=>exact Zh (c:= .sl o t xs) h
 |dp n t xs hh=>exact Zh (c:= .dp n t xs hh) h
 |wn n t xs=>exact Zh (c:= .wn n t xs) h
 |dq n t xs hh=>exact Zh (c:= .dq n t xs hh) h
 |fd n t xs hh=>exact Zh (c:= .fd n t xs hh) h
 |mm n t xs o=>exact Zh (c:= .mm n t xs o) h
 |_=>rfl
def qoo {f g:Nat->Nat} {v:AV} (h: ∀n∈ab v,f n=g n):ren f v=ren g v:=by
 cases v with
 |tup vs=>
  simp only[ren];congr 1;exact tl λc hc=>Y0 λn hn=>h n (zH.2 ⟨c,hc,hn⟩)
 |sl o t xs=>exact Y0 (v:= .sl o t xs) h
 |bx o cells=>exact Y0 (v:= .bx o cells) h
 |agg cells=>exact Y0 (v:= .agg cells) h
 |dp n t xs hh=>exact Y0 (v:= .dp n t xs hh) h
 |wn n t xs=>exact Y0 (v:= .wn n t xs) h
 |dq n t xs hh=>exact Y0 (v:= .dq n t xs hh) h
 |fd n t xs hh=>exact Y0 (v:= .fd n t xs hh) h
 |mm n t xs o=>exact Y0 (v:= .mm n t xs o) h
 |_=>rfl
def qh5 {ps:List fZ} {k s:Nat} (h: ∀p∈ps,x5 U p):
 (ps.map (uu k s)).flatMap ab=(Xr ps).flatMap λs'=>(ab (U.get s')).map λn=>if s'=s then aT (ab (U.get s')) n+k else aT (ab (U.get s')) n:=by
 induction ps with
 |nil=>rfl
 |cons p ps ih=>
  obtain⟨av,l,rn⟩:=p;have h0:=h _ mS;have ih':=ih λp hp=>h p (mT hp)
  cases l with
  |none=>simp only[nV,fC,Xr,ih',uu,h0.1,n5]
  |some s'=>
   have e:av=ren (aT (ab (U.get s'))) (U.get s'):=h0.1;simp only[nV,fC,Xr,ih',uu,e];congr 1;split
   . rw[qy,qy,Is];rfl
   . rw[qy]
def qgu {ps:List fZ} {k s:Nat} (h: ∀p∈ps,x5 U p):(ps.map (uu k s)).all bK=true:=by
 refine zx.2 λx hx=> ?_
 obtain⟨p,hp,rfl⟩:=zV.1 hx;obtain⟨av,l,rn⟩:=p;have:=h _ hp;cases l with
 |none=>exact this.2
 |some s'=>
  have e:av=ren (aT (ab (U.get s'))) (U.get s'):=this.1;subst e;simp only[uu];split
  . rw[Qw,Qw];exact this.2
  . rw[Qw];exact this.2
def OW {outs:List AV} {o:AV} {s:Nat}: ∀{ps:List fZ} {k:Nat},mv s outs ps k=some o-> ∃i,∃h:i<ps.length,ps[i].2.1=some s/\outs[k+i]? =some o
 |[],k,h=>by cases h
 |(av,some s',rn)::ps,k,h=>by
  simp only[mv]at h;split at h
  . rename_i e;exact⟨0,by simp,by simp[e],h⟩
  . obtain⟨i,hi,h1,h2⟩:=OW (ps:=ps) (k:=k+1) h;exact⟨i+1,by simpa using hi,h1,by rw[<-h2];congr 1;omega⟩
 |(av,none,rn)::ps,k,h=>by
  obtain⟨i,hi,h1,h2⟩:=OW (ps:=ps) (k:=k+1) h;exact⟨i+1,by simpa using hi,h1,by rw[<-h2];congr 1;omega⟩
def WM: ∀{outs:List AV} {i j:Nat} (hi:i<outs.length) (hj:j<outs.length),i≠j->(outs.flatMap ab).Nodup->
 (ab outs[i]++ab outs[j]).Nodup
 |[],i,j,hi,hj,hne,h=>absurd hi (zA _)
 |x::xs,i,j,hi,hj,hne,h=>by
  simp only[fC]at h;obtain⟨h1,h2,h3⟩:=zK.1 h
  have nd: ∀{k:Nat} (hk:k<xs.length),(ab xs[k]).Nodup:=λ{k} hk=>by
   grind
  match i,j with
  |0,0=>exact absurd rfl hne
  |0,j+1=>
   grind
  |i+1,0=>
   grind
  |i+1,j+1=>
   simp only[List.getElem_cons_succ];exact WM (by simpa using hi) (by simpa using hj) (λe=>hne O) h2
end
def Yy {P:Program} {f:FuncId} (h: ∃fn,P.funcs[f]? =some fn∧fn.body.isNone=false∧(fn.name== "runtime.NumGoroutine")=false) (args:Array Value) (w:World):
 (callFunc f args).run P w= .ok (.enter f args) w:=by
 obtain⟨fn,h1,h2,h3⟩:=h;have h2':fn.body≠none:=λe=>by rw[e]at h2;cases h2
 have h3':fn.name≠ "runtime.NumGoroutine" :=by simpa using h3
 simp[callFunc,h1,h2',h3']
section
variable {P:Program} {CO:Q5} {T:TT} {E:aN} {D:Nat->Prop} {β β':aP} {who who':bg} {U U':ag} {hd:List (AV×Value)} {a:Act} {w w':World} {R W:List Nat}
def qW (P:Program) (E:aN) (D:Nat->Prop) (idx:Nat) (U':ag) (v:AV) (o:Oper) (a:Act) (w:World):Prop:=
 ∀(next:Act->World->Prop) (Q:Exit->Act->World->Prop),
  (∀c w' β' who',aC E (Dn D idx) β' who' U' [(v,c)] a w'->next (a.put o.dst c) w')->o.wp P a w next Q
def bJ.wp {idx:Nat} {v:AV} {o:Oper} (h:bJ P E D idx U' v a ((execOp a.eval o).run P w)):qW P E D idx U' v o a w:=by
 intro next Q hn
 obtain⟨c,w',β',who',hr|⟨hr,rfl⟩,S⟩:=h
 . unfold Oper.wp;rw[hr];exact hn c w' β' who' S
 . unfold Oper.wp;rw[hr];exact hn undef w' β' who' S
def Yb {res o:AV} {outs:List AV} (h:(ab res++outs.flatMap ab).Nodup) (ho:o∈outs):(ab o++ab res).Nodup/\ ∀n∈ab o,n∈outs.flatMap ab:=by
 have hsub:(ab o).Sublist (outs.flatMap ab):=by
  induction outs with
  |nil=>cases ho
  |cons x xs ih=>
   simp only[fC];rcases mC ho with rfl|ho
   . exact List.sublist_append_left _ _
   . refine(ih ?_ ho).trans (List.sublist_append_right _ _);simp only[fC]at h;exact h.sublist (List.Sublist.append (List.Sublist.refl _) (List.sublist_append_right _ _))
 have h2:=h.sublist (List.Sublist.append (List.Sublist.refl (ab res)) hsub);exact⟨(List.perm_append_comm.nodup_iff).1 h2,λn hn=>hsub.subset hn⟩
def qox (hT:bm P T) (hC: ∀f as r os,CO f as r os->Xc P f as r os) (hEP:E.prog=P) {idx f:Nat} {o:Oper} {args:List Operand} {tys:List TypeId} {v:AV} {et:Ty} {xs:List (aM et)} {i0 j0:Nat} {pv:Value} (hpv:be β who w (.iptr none et xs i0 j0) pv)
 (h:aq CO (Fc T idx f args tys (.iptr none et xs i0 j0)) U v U' R W) (S:aC E D β who U [] a w) (hf: ∀k,k<16-> ¬D (ae idx k))
 (hop:execOp a.eval o=callFunc f (args.map a.eval++[pv]).toArray):qW P E D idx U' v o a w:=by
 intro next Q hnext
 obtain⟨ps,U1,_,_,_,_,h1,h2⟩:=aq.bind' h;obtain⟨_,a9,hfr,S1,hlen,hargs⟩:=aq.passAll hT h1 S
 have hpoX:(∀s∈Xr ps,ab (U1.get s)≠[])-> ∀p∈ps,x5 U1 p:=λhs p hp=>by
  obtain⟨i,hi,rfl⟩:=l9 hp;exact(hargs i hi (by rw[<-hlen];exact hi)).passOK λs e=>hs s (Qn hp e)
 have hrnF: ∀n∈ps.flatMap (·.2.2),n≠FN:=λn hn=>by
  obtain⟨p,hp,hn⟩:=zH.1 hn;obtain⟨i,hi,rfl⟩:=l9 hp;have ha:=hargs i hi (by rw[<-hlen];exact hi)
  generalize ps[i]=p at*
  obtain⟨av,l,rn⟩:=p;cases l with
  |none=>exact ha.2.2.2 n hn
  |some s=>have e:rn=[]:=ha.1;subst e;cases hn
 have hpure: ∀(ln:List Nat) (βc:aP),(∀n∈ps.flatMap (·.2.2),n∉ln)-> ∀i (hi:i<ps.length),ps[i].2.1=none->be βc (whoC a9 ln (ps.flatMap (·.2.2))) w ps[i].1 (a.eval (args[i]'(by rw[<-hlen];exact hi))):=λln βc hd i hi hl=>by
  have ha:=hargs i hi (by rw[<-hlen];exact hi)
  have hsub: ∀n∈ps[i].2.2,n∈ps.flatMap (·.2.2):=λn hn=>zH.2 ⟨_,zN hi,hn⟩
  generalize ps[i]=p at*
  obtain⟨av,l,rn⟩:=p;simp only at hl;subst hl;refine ha.1 βc _ ⟨λb hb=>by simp[whoC,hb],λb n hb hn=> ?_⟩
  simp[whoC,hb,hd n (hsub n hn),hsub n hn]
 split at h2
 ·
  rename_i hl;have hpo:=hpoX (λs hs=>by rw[hl]at hs;cases hs)
  have hnoref:=Yo hpo;have hnames:=Yv hpo;obtain⟨⟨r,os⟩,U2,_,_,_,_,h3,h4⟩:=aq.bind' h2;obtain⟨hco,rfl⟩:=aq.mcall' h3;obtain⟨hen,hcall⟩:=hC _ _ _ _ hco;dsimp only at h4;have hnil:(ps.map (·.1)).flatMap ab=[]:=by rw[hnames,hl];rfl
  have him:Qp r=true->ps.flatMap (·.2.2)=[]:=λhi=>by
   split at h4
   . exact(aq.fail' h4).elim
   . rename_i hc;simp only[hi,HJ,Bool.not_eq_true']at hc;simpa using hc
  have hv:v=ren (ae idx) r/\U'=U2:=by
   split at h4
   . exact(aq.fail' h4).elim
   . exact aq.pure' h4
  obtain⟨rfl,rfl⟩:=hv
  have hpv1: ∀βc,be βc (whoC a9 [] (ps.flatMap (·.2.2))) w (.iptr none et xs i0 j0) pv:=λβc=>by
   obtain⟨b,o',q1,q2,q3,q4,q5⟩:=hpv
   have im: ∀b,who b=none->b<w.heap.size->whoC a9 [] (ps.flatMap (·.2.2)) b=none/\w.heap[b]? =w.heap[b]? :=λb hb _=>⟨by
    have hz:a9 b=none:=(hfr b).elim (λh=>h.trans hb) id
    simp[whoC,hz],rfl⟩
   exact⟨b,o',q1,q2,(im b q3 q4).1,q4,aQ.keep im (zF _) rfl q5⟩
  have hnoref':(ps.map (·.1)++[AV.iptr none et xs i0 j0]).all bK=true:=by rw[List.all_append,hnoref];rfl
  have hnil':(ps.map (·.1)++[AV.iptr none et xs i0 j0]).flatMap ab=[]:=by rw[xy,hnil];rfl
  have hcalls:=hcall (λ_=>undef) (whoC a9 [] (ps.flatMap (·.2.2))) w (args.map a.eval++[pv]).toArray (by simp[hlen]) (λi hi=>by
   by_cases hi':i<ps.length
   . have ha:i<args.length:=by rw[<-hlen];exact hi'
     have e1:(ps.map (·.1)++[AV.iptr none et xs i0 j0])[i]=ps[i].1:=by rw[tO (by simpa using hi'),nw]
     have e2:(args.map a.eval++[pv]).toArray.getD i undef=a.eval args[i]:=by
      simp[Array.getD,ha];intro h;omega
     rw[e1,e2];refine hpure [] _ (λ_ _ h=>by cases h) i hi' ?_
     cases e:ps[i].2.1 with
     |none=>rfl
     |some s=>have:=Qn (zN hi') e;rw[hl]at this;cases this
   . have hi2:i=ps.length:=by simp at hi;omega
     subst hi2;have e1:(ps.map (·.1)++[AV.iptr none et xs i0 j0])[ps.length]= .iptr none et xs i0 j0:=by simp
     have e2:(args.map a.eval++[pv]).toArray.getD ps.length undef=pv:=by simp[Array.getD,hlen]
     rw[e1,e2];exact hpv1 _) (by rw[hnil'];exact tP) (by rw[hnil'];simp) (Yc hnoref')
   (fun b n hb=>by
     simp only[whoC]at hb;split at hb
     . cases hb
     . rename_i m hm;simp only[zZ,if_false]at hb;split at hb
       . cases hb
       . injection hb with hb;exact⟨S1.wsz b m hm,.inr hb.symm⟩)
  unfold Oper.wp;rw[hop,Yy hen,Oper.upon_enter];refine Calls.mono (hcalls ((hEP▸S1.glob:ct P a9 w).whoC (λb h=>by simp[whoC,h]))) λe w' hp=> ?_
  obtain⟨c,β',who',rfl,_,p1,p2,p3,p4,p5,p6,p7,p8,p9,p10,p11⟩:=hp;have hnd:=(zK.1 p3).1
  obtain⟨S2,k⟩:=Y4 (β':=β') (who':=who') (w':=w') (ln:=[]) (rn:=ps.flatMap (·.2.2)) (ns:=ab r) (im:=Qp r) S1 hf (λn hn=>by cases hn) hrnF (by simp) p7 p8 p9 p10
   (λn hn=>p4 n (zY _ hn)) him p11
  refine hnext c w' _ _ (S2.add (new:=[(ren (ae idx) r,c)]) ?_ ?_ ?_ ?_)
  . intro x hx;obtain rfl:=zC.1 hx;exact be.ren p5 k p1
  . simp only[fC,tw,jg,qy];exact Qo (λ_ _ _ _ h=>X6 h) hnd
  . intro x hx n hn s hs;obtain rfl:=zC.1 hx;simp only[qy,zV]at hn;obtain⟨m,hm,rfl⟩:=hn;exact hf m (p4 m (zY _ hm)) (S1.occ s _ (qj hs))
  . intro x hx n hn;obtain rfl:=zC.1 hx;rw[Xt (by rw[Qw];exact p5),qy,zV]at hn
    obtain⟨m,hm,rfl⟩:=hn;exact .inr ⟨m,p4 m (zY _ hm),rfl⟩
 . exact(aq.fail' h2).elim
def YX (hT:bm P T) (hC: ∀f as r os,CO f as r os->Xc P f as r os) (hEP:E.prog=P) {idx mode f:Nat} {o:Oper} {args:List Operand} {tys:List TypeId} {v:AV}
 (h:aq CO (P8 T idx mode f args tys) U v U' R W) (S:aC E D β who U [] a w) (hf: ∀k,k<16-> ¬D (ae idx k))
 (hop:execOp a.eval o=callFunc f (args.map a.eval).toArray):qW P E D idx U' v o a w:=by
 intro next Q hnext
 obtain⟨ps,U1,_,_,_,_,h1,h2⟩:=aq.bind' h;obtain⟨_,a9,_,S1,hlen,hargs⟩:=aq.passAll hT h1 S
 have hpoX:(∀s∈Xr ps,ab (U1.get s)≠[])-> ∀p∈ps,x5 U1 p:=λhs p hp=>by
  obtain⟨i,hi,rfl⟩:=l9 hp;exact(hargs i hi (by rw[<-hlen];exact hi)).passOK λs e=>hs s (Qn hp e)
 have hcg: ∀i (hi:i<args.length),(args.map a.eval).toArray.getD i undef=a.eval args[i]:=λi hi=>by simp[Array.getD,hi]
 have hrnF: ∀n∈ps.flatMap (·.2.2),n≠FN:=λn hn=>by
  obtain⟨p,hp,hn⟩:=zH.1 hn;obtain⟨i,hi,rfl⟩:=l9 hp;have ha:=hargs i hi (by rw[<-hlen];exact hi)
  generalize ps[i]=p at*
  obtain⟨av,l,rn⟩:=p;cases l with
  |none=>exact ha.2.2.2 n hn
  |some s=>have e:rn=[]:=ha.1;subst e;cases hn
 have hpure: ∀(ln:List Nat) (βc:aP),(∀n∈ps.flatMap (·.2.2),n∉ln)-> ∀i (hi:i<ps.length),ps[i].2.1=none->be βc (whoC a9 ln (ps.flatMap (·.2.2))) w ps[i].1 (a.eval (args[i]'(by rw[<-hlen];exact hi))):=λln βc hd i hi hl=>by
  have ha:=hargs i hi (by rw[<-hlen];exact hi)
  have hsub: ∀n∈ps[i].2.2,n∈ps.flatMap (·.2.2):=λn hn=>zH.2 ⟨_,zN hi,hn⟩
  generalize ps[i]=p at*
  obtain⟨av,l,rn⟩:=p;simp only at hl;subst hl;refine ha.1 βc _ ⟨λb hb=>by simp[whoC,hb],λb n hb hn=> ?_⟩
  simp[whoC,hb,hd n (hsub n hn),hsub n hn]
 split at h2
 ·
  rename_i hl;have hpo:=hpoX (λs hs=>by rw[hl]at hs;cases hs)
  have hnoref:=Yo hpo;have hnames:=Yv hpo;obtain⟨⟨r,os⟩,U2,_,_,_,_,h3,h4⟩:=aq.bind' h2;obtain⟨hco,rfl⟩:=aq.mcall' h3;obtain⟨hen,hcall⟩:=hC _ _ _ _ hco;dsimp only at h4;have hnil:(ps.map (·.1)).flatMap ab=[]:=by rw[hnames,hl];rfl
  have him:Qp r=true->ps.flatMap (·.2.2)=[]:=λhi=>by
   split at h4
   . exact(aq.fail' h4).elim
   . rename_i hc;simp only[hi,HJ,Bool.not_eq_true']at hc;simpa using hc
  have hv:v=ren (ae idx) r/\U'=U2:=by
   split at h4
   . exact(aq.fail' h4).elim
   . exact aq.pure' h4
  obtain⟨rfl,rfl⟩:=hv
  have hcalls:=hcall (λ_=>undef) (whoC a9 [] (ps.flatMap (·.2.2))) w (args.map a.eval).toArray (by simp[hlen]) (λi hi=>by
   have hi':i<ps.length:=by simpa using hi
   rw[hcg i (by rw[<-hlen];exact hi'),nw]
   refine hpure [] _ (λ_ _ h=>by cases h) i hi' ?_
   cases e:ps[i].2.1 with
   |none=>rfl
   |some s=>have:=Qn (zN hi') e;rw[hl]at this;cases this) (by rw[hnil];exact tP) (by rw[hnil];simp) (Yc hnoref)
   (fun b n hb=>by
     simp only[whoC]at hb;split at hb
     . cases hb
     . rename_i m hm;simp only[zZ,if_false]at hb;split at hb
       . cases hb
       . injection hb with hb;exact⟨S1.wsz b m hm,.inr hb.symm⟩)
  unfold Oper.wp;rw[hop,Yy hen,Oper.upon_enter];refine Calls.mono (hcalls ((hEP▸S1.glob:ct P a9 w).whoC (λb h=>by simp[whoC,h]))) λe w' hp=> ?_
  obtain⟨c,β',who',rfl,_,p1,p2,p3,p4,p5,p6,p7,p8,p9,p10,p11⟩:=hp;have hnd:=(zK.1 p3).1
  obtain⟨S2,k⟩:=Y4 (β':=β') (who':=who') (w':=w') (ln:=[]) (rn:=ps.flatMap (·.2.2)) (ns:=ab r) (im:=Qp r) S1 hf (λn hn=>by cases hn) hrnF (by simp) p7 p8 p9 p10
   (λn hn=>p4 n (zY _ hn)) him p11
  refine hnext c w' _ _ (S2.add (new:=[(ren (ae idx) r,c)]) ?_ ?_ ?_ ?_)
  . intro x hx;obtain rfl:=zC.1 hx;exact be.ren p5 k p1
  . simp only[fC,tw,jg,qy];exact Qo (λ_ _ _ _ h=>X6 h) hnd
  . intro x hx n hn s hs;obtain rfl:=zC.1 hx;simp only[qy,zV]at hn;obtain⟨m,hm,rfl⟩:=hn;exact hf m (p4 m (zY _ hm)) (S1.occ s _ (qj hs))
  . intro x hx n hn;obtain rfl:=zC.1 hx;rw[Xt (by rw[Qw];exact p5),qy,zV]at hn
    obtain⟨m,hm,rfl⟩:=hn;exact .inr ⟨m,p4 m (zY _ hm),rfl⟩
 ·
  rename_i s hl;obtain⟨av,U2,_,_,_,_,h3,h4⟩:=aq.bind' h2;obtain⟨rfl,rfl⟩:=aq.mget' h3;split at h4
  . exact(aq.fail' h4).elim
  rename_i hdis;simp only[tv,not_or]at hdis;obtain⟨hhd,hdis⟩:=hdis
  have hpo:=hpoX (λs' hs=>by
   rw[hl,zC]at hs;subst hs;intro e;cases e2:Jj (U2.get s')with
   |none=>rw[e2]at hhd;exact hhd rfl
   |some m=>have:=Zr e2;rw[e]at this;cases this)
  have hnoref:=Yo hpo;have hnames:=Yv hpo;obtain⟨⟨r,os⟩,U3,_,_,_,_,h5,h6⟩:=aq.bind' h4;obtain⟨hco,rfl⟩:=aq.mcall' h5;obtain⟨hen,hcall⟩:=hC _ _ _ _ hco;dsimp only at h6;split at h6
  case h_2=>exact(aq.fail' h6).elim
  rename_i ov hov;split at h6
  . exact(aq.fail' h6).elim
  rename_i hc
  have hwn:fH ov=false:=by
   cases e:fH ov with
   |false=>rfl
   |true=>exact absurd (by rw[e,B8]) hc
  have hc: ¬(!(ps.flatMap (·.2.2)).isEmpty&&(Qp r||Qp ov))=true:=λe=>hc (by rw[e];rfl)
  obtain⟨_,U4,_,_,_,_,h7,h8⟩:=aq.bind' h6;have:=aq.mset' h7;subst this;obtain⟨rfl,rfl⟩:=aq.pure' h8;obtain⟨i,hi,hps,hos⟩:=q8y hov hl;simp only[zG]at hos;have hai:=hargs i hi (by rw[<-hlen];exact hi)
  obtain⟨m,hbx,hln,hnr,hu⟩: ∃m,Jj (U3.get s)=some m/\(ab (U3.get s)).length<=16/\bK (U3.get s)=true/\a.eval (args[i]'(by rw[<-hlen];exact hi))=iu β m (U3.get s):=by
   generalize ps[i]=p at*
   obtain⟨av,l,rn⟩:=p;simp only at hps;subst hps;obtain⟨_,hai⟩:=hai;rcases hai with hai|⟨m,q1,q2,q3,q4,q5⟩
   . cases e2:Jj (U3.get s)with
     |none=>rw[e2]at hhd;exact absurd rfl hhd
     |some m=>have:=Zr e2;rw[hai]at this;cases this
   . exact⟨m,q1,q4,q3,q5⟩
  have htmp:a.tmps.getD s undef=iu β m (U3.get s):=Sj hbx (S1.rel s);generalize hlnn:ab (U3.get s)=ln at*
  have hdis': ∀n∈ps.flatMap (·.2.2),n∉ln:=λn hn hn'=>by
   apply hdis;exact Ng.2 ⟨n,hn,si.2 hn'⟩
  have him:(Qp r||Qp ov)=true->ps.flatMap (·.2.2)=[]:=λhi=>by
   simp only[hi,HJ,Bool.not_eq_true']at hc;simpa using hc
  have hnd0:ln.Nodup:=hlnn▸S1.nod s;have hnam:(ps.map (·.1)).flatMap ab=ln.map (aT ln):=by rw[hnames,hl];simp[hlnn]
  have hlnD: ∀n∈ln,D n:=λn hn=>S1.occ s n (qj (hlnn▸hn))
  have hcalls:=hcall (λk=>β (ln.getD k 0)) (whoC a9 ln (ps.flatMap (·.2.2))) w (args.map a.eval).toArray (by simp[hlen]) (λj hj=>by
   have hj':j<ps.length:=by simpa using hj
   rw[hcg j (by rw[<-hlen];exact hj'),nw]
   cases e:ps[j].2.1 with
   |none=>exact hpure ln _ hdis' j hj' e
   |some s'=>
    have:=Qn (zN hj') e;rw[hl,zC]at this;subst this;have haj:=hargs j hj' (by rw[<-hlen];exact hj')
    generalize ps[j]=p at*
    obtain⟨av,l,rn⟩:=p;simp only at e;subst e;obtain⟨_,haj⟩:=haj;obtain⟨m',q1,q2,q3,q4,q5⟩:=haj.resolve_left λe=>by have:=Zr hbx;rw[e]at this;cases this
    simp only at q2;rw[q2,q5,hlnn];have hrel:=S1.rel s';have e2:iu β m' (U3.get s')=a.tmps.getD s' undef:=(Sj q1 hrel).symm;rw[e2];refine be.ren q3 ⟨λn hn=> ?_,λn hn b hb=> ?_,λ_ b hb _=>by simp[whoC,hb]⟩ hrel
    . rw[hlnn]at hn;simp only[Jd hn]
    . rw[hlnn]at hn;simp[whoC,hb,hn]) (by rw[hnam];exact Qo (λ_ h1 _ h2 h=>J2 h1 h2 h) hnd0)
   (by
     rw[hnam];intro n' hn';obtain⟨n,hn,rfl⟩:=zV.1 hn';have:=X7 hn;omega) (Yc hnoref)
   (fun b n hb=>by
     simp only[whoC]at hb;split at hb
     . cases hb
     . rename_i n' hn';refine⟨S1.wsz b n' hn',?_⟩;split at hb
       . rename_i hin;injection hb with hb
         exact .inl (by rw[hnam,<-hb];exact zV.2 ⟨n',hin,rfl⟩)
       . split at hb
         . cases hb
         . injection hb with hb;exact .inr hb.symm)
  unfold Oper.wp;rw[hop,Yy hen,Oper.upon_enter];refine Calls.mono (hcalls ((hEP▸S1.glob:ct P a9 w).whoC (λb h=>by simp[whoC,h]))) λe w' hp=> ?_
  obtain⟨c,β',who',rfl,_,p1,p2,p3,p4,p5,p6,p7,p8,p9,p10,p11⟩:=hp;have hov':ov∈os:=List.mem_of_getElem? hos;obtain⟨hnd,hovn⟩:=Yb p3 hov';have hS0:aC E D β a9 (U3.set s .dead) [] a w:=(S1.takeAll s).drop rfl
  obtain⟨S2,k⟩:=Y4 (β':=β') (who':=who') (w':=w') (ln:=ln) (rn:=ps.flatMap (·.2.2)) (ns:=ab r++ab ov) (im:=Qp r||Qp ov) hS0 hf
   (fun n hn=>⟨λe=>S1.dfn (e▸hlnD n hn),λs' hs'=>by
     by_cases e:s'=s
     . subst e;rw[qg]at hs';simp[ab,qi,qc]at hs'
     . rw[qf _ _ e]at hs';exact e (S1.dis s' s n hs' (hlnn▸hn))⟩) hrnF hln p7 p8 p9 p10
   (fun n hn=>by
     rcases zQ.1 hn with h|h
     . exact p4 n (zY _ h)
     . exact p4 n (n6 _ (hovn n h))) him p11
  have p6':bK ov=true:=SF (zx.1 p6 _ hov') hwn
  have hrov:be β' who' w' ov (a.tmps.getD s undef):=by
   obtain⟨hi2,e2⟩:=List.getElem?_eq_some_iff.1 hos;have:=p2 i hi2;rw[hcg i (by rw[<-hlen];exact hi),hu,<-htmp,e2]at this
   exact this
  have h16: ∀n,n∈ab ov\/n∈ab r->n<16:=λn hn=>by
   rcases hn with h|h
   . exact p4 n (n6 _ (hovn n h))
   . exact p4 n (zY _ h)
  have hfreshσ: ∀m,m<16-> ∀t,ae idx m∉ab ((U3.set s .dead).get t):=λm hm t ht=>hf m hm (hS0.occ t _ (qj ht))
  have S3:=S2.add (new:=[(ren (ae idx) ov,a.tmps.getD s undef),(ren (ae idx) r,c)])
   (fun x hx=>by
     rcases mC hx with rfl|hx
     . exact be.ren p6' (k.mono (λn hn=>n6 _ hn) λe=>by simp[e]) hrov
     . obtain rfl:=zC.1 hx;exact be.ren p5 (k.mono (λn hn=>zY _ hn) λe=>by simp[e]) p1)
   (by
     simp only[fC,tw,jg,qy,<-List.map_append];exact Qo (λ_ _ _ _ h=>X6 h) hnd)
   (fun x hx n hn t ht=>by
     have: ∃m,m<16/\n=ae idx m:=by
      rcases mC hx with rfl|hx
      . simp only[qy,zV]at hn;obtain⟨m,hm,rfl⟩:=hn;exact⟨m,h16 m (.inl hm),rfl⟩
      . obtain rfl:=zC.1 hx;simp only[qy,zV]at hn;obtain⟨m,hm,rfl⟩:=hn;exact⟨m,h16 m (.inr hm),rfl⟩
     obtain⟨m,hm,rfl⟩:=this;exact hfreshσ m hm t ht)
   (fun x hx n hn=>by
     rcases mC hx with rfl|hx
     . rw[Xt (by rw[Qw];exact p6'),qy,zV]at hn
       obtain⟨m,hm,rfl⟩:=hn;exact .inr ⟨m,h16 m (.inl hm),rfl⟩
     . obtain rfl:=zC.1 hx;rw[Xt (by rw[Qw];exact p5),qy,zV]at hn
       obtain⟨m,hm,rfl⟩:=hn;exact .inr ⟨m,h16 m (.inr hm),rfl⟩)
  have S4:=S3.putBack (by rw[qg];rfl)
  refine hnext c w' _ _ (S4.ext λt=> ?_)
  by_cases e:t=s
  . subst e;rw[qg,qg]
  . rw[qf _ _ e,qf _ _ e,qf _ _ e]
 ·
  rename_i s t hl;obtain⟨av,U2,_,_,_,_,h3,h4⟩:=aq.bind' h2;obtain⟨rfl,rfl⟩:=aq.mget' h3;obtain⟨bv,U2',_,_,_,_,h3',h4'⟩:=aq.bind' h4;obtain⟨rfl,rfl⟩:=aq.mget' h3';split at h4'
  . exact(aq.fail' h4').elim
  rename_i hdis;simp only[tv,not_or]at hdis;obtain⟨⟨⟨⟨hst,hhd⟩,hhd2⟩,h16'⟩,hdis⟩:=hdis;have hst:s≠t:=λe=>hst (by rw[e];exact Nat.beq_refl t)
  have h16l:(ab (U2'.get s)).length+(ab (U2'.get t)).length<=16:=by
   have: ¬(16<(ab (U2'.get s)).length+(ab (U2'.get t)).length):=λh=>h16' (by simpa [Nat.blt_eq]using h)
   omega
  have hsome: ∀s',s'∈Xr ps-> ∃m,Jj (U2'.get s')=some m:=λs' hs=>by
   rw[hl]at hs;simp only[zT,zZ,or_false]at hs;rcases hs with rfl|rfl
   . cases e2:Jj (U2'.get s')with
     |none=>rw[e2]at hhd;exact absurd rfl hhd
     |some m=>exact⟨m,rfl⟩
   . cases e2:Jj (U2'.get s')with
     |none=>rw[e2]at hhd2;exact absurd rfl hhd2
     |some m=>exact⟨m,rfl⟩
  have hpo:=hpoX (λs' hs e=>by
   obtain⟨m,hm⟩:=hsome s' hs;have:=Zr hm;rw[e]at this;cases this)
  have hnoref:=qgu (k:=(ab (U2'.get s)).length) (s:=t) hpo;have hnames:=qh5 (k:=(ab (U2'.get s)).length) (s:=t) hpo;obtain⟨⟨r,os⟩,U3,_,_,_,_,h5,h6⟩:=aq.bind' h4';obtain⟨hco,rfl⟩:=aq.mcall' h5;obtain⟨hen,hcall⟩:=hC _ _ _ _ hco;dsimp only at h6;split at h6
  case h_2=>exact(aq.fail' h6).elim
  rename_i o1 o2 hov1 hov2;split at h6
  . exact(aq.fail' h6).elim
  rename_i hc
  have hwn1:fH o1=false:=by
   cases e:fH o1 with
   |false=>rfl
   |true=>exact absurd (by rw[e,NG,B8]) hc
  have hwn2:fH o2=false:=by
   cases e:fH o2 with
   |false=>rfl
   |true=>exact absurd (by rw[e,B8,B8]) hc
  have hc: ¬(!(ps.flatMap (·.2.2)).isEmpty&&(Qp r||Qp o1||Qp o2))=true:=λe=>hc (by rw[e];rfl)
  obtain⟨_,U4,_,_,_,_,h7,h8⟩:=aq.bind' h6;have:=aq.mset' h7;subst this;obtain⟨_,U5,_,_,_,_,h9,h10⟩:=aq.bind' h8;have:=aq.mset' h9;subst this;obtain⟨rfl,rfl⟩:=aq.pure' h10;obtain⟨i1,hi1,hps1,hos1⟩:=OW hov1;obtain⟨i2,hi2,hps2,hos2⟩:=OW hov2;simp only[zG]at hos1 hos2;have hi12:i1≠i2:=by rintro rfl;rw[hps1]at hps2;injection hps2 with e;exact hst e
  have hlent: ∀j (hj:j<ps.length) s',ps[j].2.1=some s'-> ∃m,Jj (U3.get s')=some m/\ps[j].1=ren (aT (ab (U3.get s'))) (U3.get s')/\bK (U3.get s')=true/\
   a.eval (args[j]'(by rw[<-hlen];exact hj))=a.tmps.getD s' undef:=λj hj s' e=>by
   obtain⟨m0,hm0⟩:=hsome s' (Qn (zN hj) e);have haj:=hargs j hj (by rw[<-hlen];exact hj)
   generalize ps[j]=p at*
   obtain⟨av,l,rn⟩:=p;simp only at e;subst e;obtain⟨_,haj⟩:=haj;obtain⟨m',q1,q2,q3,q4,q5⟩:=haj.resolve_left λe=>by have:=Zr hm0;rw[e]at this;cases this
   exact⟨m',q1,q2,q3,by rw[q5];exact(Sj q1 (S1.rel s')).symm⟩
  obtain⟨ln,hlnn⟩: ∃ln,ln=ab (U3.get s)++ab (U3.get t):=⟨_,rfl⟩;have hd12: ∀n,n∈ab (U3.get s)->n∉ab (U3.get t):=λn h1 h2=>hst (S1.dis s t n h1 h2)
  have hln16:ln.length<=16:=by rw[hlnn,zJ];exact h16l
  have hdis': ∀n∈ps.flatMap (·.2.2),n∉ln:=λn hn hn'=>by
   apply hdis;exact Ng.2 ⟨n,hn,si.2 (hlnn▸hn')⟩
  have him:(Qp r||(Qp o1||Qp o2))=true->ps.flatMap (·.2.2)=[]:=λhi=>by
   rw[<-Bool.or_assoc]at hi;simp only[hi,HJ,Bool.not_eq_true']at hc;simpa using hc
  have hnd0:ln.Nodup:=by
   rw[hlnn];exact zK.2 ⟨S1.nod s,S1.nod t,λx hx y hy e=>hd12 x hx (e▸hy)⟩
  have hsub: ∀s',s'=s\/s'=t-> ∀n∈ab (U3.get s'),n∈ln:=λs' h n hn=>by
   rw[hlnn];rcases h with rfl|rfl
   . exact zY _ hn
   . exact n6 _ hn
  have hidx: ∀s',s'=s\/s'=t-> ∀n∈ab (U3.get s'),(if s'=t then aT (ab (U3.get s')) n+(ab (U3.get s)).length else aT (ab (U3.get s')) n)=aT ln n:=λs' h n hn=>by
   rw[hlnn];rcases h with rfl|rfl
   . rw[ao hst,qkd hn]
   . rw[iP rfl,qhb (λh=>hd12 n h hn)]
  have hnam:(ps.map (uu (ab (U3.get s)).length t)).flatMap ab=ln.map (aT ln):=by
   rw[hnames,hl];rw[fC,fC,tw,jg];rw[tl (hidx s (.inl rfl)),tl (hidx t (.inr rfl)),<-List.map_append,<-hlnn]
  have hlnD: ∀n∈ln,D n:=λn hn=>by
   rw[hlnn]at hn;rcases zQ.1 hn with hn|hn
   . exact S1.occ s n (qj hn)
   . exact S1.occ t n (qj hn)
  have hmem2: ∀s',s'∈Xr ps->s'=s\/s'=t:=λs' h=>by rw[hl]at h;simpa using h
  have hcalls:=hcall (λk=>β (ln.getD k 0)) (whoC a9 ln (ps.flatMap (·.2.2))) w (args.map a.eval).toArray (by simp[hlen]) (λj hj=>by
   have hj':j<ps.length:=by simpa using hj
   rw[hcg j (by rw[<-hlen];exact hj'),nw]
   cases e:ps[j].2.1 with
   |none=>
    have:uu (ab (U3.get s)).length t ps[j]=ps[j].1:=by simp only[uu,e]
    rw[this];exact hpure ln _ hdis' j hj' e
   |some s'=>
    have hs':=hmem2 s' (Qn (zN hj') e);obtain⟨m',q1,q2,q3,q5⟩:=hlent j hj' s' e
    have:uu (ab (U3.get s)).length t ps[j]=ren (aT ln) (U3.get s'):=by
     simp only[uu,e];rw[q2,<-qoo (hidx s' hs')];split
     . rw[qt5]
     . rfl
    rw[this,q5];refine be.ren q3 ⟨λn hn=> ?_,λn hn b hb=> ?_,λ_ b hb _=>by simp[whoC,hb]⟩ (S1.rel s')
    . simp only[Jd (hsub s' hs' n hn)]
    . simp[whoC,hb,hsub s' hs' n hn]) (by rw[hnam];exact Qo (λ_ h1 _ h2 h=>J2 h1 h2 h) hnd0)
   (by
     rw[hnam];intro n' hn';obtain⟨n,hn,rfl⟩:=zV.1 hn';have:=X7 hn;omega) (Yc hnoref)
   (fun b n hb=>by
     simp only[whoC]at hb;split at hb
     . cases hb
     . rename_i n' hn';refine⟨S1.wsz b n' hn',?_⟩;split at hb
       . rename_i hin;injection hb with hb
         exact .inl (by rw[hnam,<-hb];exact zV.2 ⟨n',hin,rfl⟩)
       . split at hb
         . cases hb
         . injection hb with hb;exact .inr hb.symm)
  unfold Oper.wp;rw[hop,Yy hen,Oper.upon_enter];refine Calls.mono (hcalls ((hEP▸S1.glob:ct P a9 w).whoC (λb h=>by simp[whoC,h]))) λe w' hp=> ?_
  obtain⟨c,β',who',rfl,_,p1,p2,p3,p4,p5,p6,p7,p8,p9,p10,p11⟩:=hp;obtain⟨ho1,eo1⟩:=List.getElem?_eq_some_iff.1 hos1;obtain⟨ho2,eo2⟩:=List.getElem?_eq_some_iff.1 hos2;have hov1':o1∈os:=List.mem_of_getElem? hos1;have hov2':o2∈os:=List.mem_of_getElem? hos2;have hovn1:=(Yb p3 hov1').2;have hovn2:=(Yb p3 hov2').2
  have hnd:(ab o1++(ab o2++ab r)).Nodup:=by
   have k1:=WM ho1 ho2 hi12 (zK.1 p3).2.1;rw[eo1,eo2]at k1;rw[<-List.append_assoc];refine zK.2 ⟨k1,(zK.1 p3).1,λx hx y hy e=> ?_⟩
   refine(zK.1 p3).2.2 y hy x ?_ e.symm;rcases zQ.1 hx with h|h
   . exact hovn1 x h
   . exact hovn2 x h
  have hS00:aC E D β a9 (U3.set s .dead) [] a w:=(S1.takeAll s).drop rfl;have hS0:aC E D β a9 ((U3.set s .dead).set t .dead) [] a w:=(hS00.takeAll t).drop rfl
  obtain⟨S2,k⟩:=Y4 (β':=β') (who':=who') (w':=w') (ln:=ln) (rn:=ps.flatMap (·.2.2)) (ns:=ab r++(ab o1++ab o2)) (im:=Qp r||(Qp o1||Qp o2)) hS0 hf
   (fun n hn=>⟨λe=>S1.dfn (e▸hlnD n hn),λs' hs'=>by
     by_cases e2:s'=t
     . subst e2;rw[qg]at hs';simp[ab,qi,qc]at hs'
     . rw[qf _ _ e2]at hs';by_cases e:s'=s
       . subst e;rw[qg]at hs';simp[ab,qi,qc]at hs'
       . rw[qf _ _ e]at hs';rw[hlnn]at hn;rcases zQ.1 hn with hn|hn
         . exact e (S1.dis s' s n hs' hn)
         . exact e2 (S1.dis s' t n hs' hn)⟩) hrnF hln16 p7 p8 p9 p10
   (fun n hn=>by
     rcases zQ.1 hn with h|h
     . exact p4 n (zY _ h)
     . rcases zQ.1 h with h|h
       . exact p4 n (n6 _ (hovn1 n h))
       . exact p4 n (n6 _ (hovn2 n h))) him p11
  have p61:bK o1=true:=SF (zx.1 p6 _ hov1') hwn1;have p62:bK o2=true:=SF (zx.1 p6 _ hov2') hwn2
  have hrov1:be β' who' w' o1 (a.tmps.getD s undef):=by
   obtain⟨_,_,_,_,q5⟩:=hlent i1 hi1 s hps1;have:=p2 i1 ho1;rw[hcg i1 (by rw[<-hlen];exact hi1),q5,eo1]at this
   exact this
  have hrov2:be β' who' w' o2 (a.tmps.getD t undef):=by
   obtain⟨_,_,_,_,q5⟩:=hlent i2 hi2 t hps2;have:=p2 i2 ho2;rw[hcg i2 (by rw[<-hlen];exact hi2),q5,eo2]at this
   exact this
  have h16: ∀n,n∈ab o1\/n∈ab o2\/n∈ab r->n<16:=λn hn=>by
   rcases hn with h|h|h
   . exact p4 n (n6 _ (hovn1 n h))
   . exact p4 n (n6 _ (hovn2 n h))
   . exact p4 n (zY _ h)
  have hfreshσ: ∀m,m<16-> ∀t',ae idx m∉ab (((U3.set s .dead).set t .dead).get t'):=λm hm t' ht=>hf m hm (hS0.occ t' _ (qj ht))
  have hmemN: ∀x∈[(ren (ae idx) o1,a.tmps.getD s undef),(ren (ae idx) o2,a.tmps.getD t undef),(ren (ae idx) r,c)],∀n∈ab x.1,∃m,m<16/\n=ae idx m:=by
   intro x hx n hn;simp only[zT,zZ,or_false]at hx;rcases hx with rfl|rfl|rfl<;>(simp only[qy,zV]at hn;obtain⟨m,hm,rfl⟩:=hn)
   . exact⟨m,h16 m (.inl hm),rfl⟩
   . exact⟨m,h16 m (.inr (.inl hm)),rfl⟩
   . exact⟨m,h16 m (.inr (.inr hm)),rfl⟩
  have S3:=S2.add (new:=[(ren (ae idx) o1,a.tmps.getD s undef),(ren (ae idx) o2,a.tmps.getD t undef),(ren (ae idx) r,c)])
   (fun x hx=>by
     simp only[zT,zZ,or_false]at hx;rcases hx with rfl|rfl|rfl
     . exact be.ren p61 (k.mono (λn hn=>n6 _ (zY _ hn)) λe=>by simp[e]) hrov1
     . exact be.ren p62 (k.mono (λn hn=>n6 _ (n6 _ hn)) λe=>by simp[e]) hrov2
     . exact be.ren p5 (k.mono (λn hn=>zY _ hn) λe=>by simp[e]) p1)
   (by
     simp only[fC,tw,jg,qy,<-List.map_append];exact Qo (λ_ _ _ _ h=>X6 h) hnd)
   (fun x hx n hn t' ht=>by
     obtain⟨m,hm,rfl⟩:=hmemN x hx n hn;exact hfreshσ m hm t' ht)
   (fun x hx n hn=>by
     have hnr:bK x.1=true:=by
      simp only[zT,zZ,or_false]at hx;rcases hx with rfl|rfl|rfl<;>rw[Qw]
      . exact p61
      . exact p62
      . exact p5
     rw[Xt hnr]at hn;obtain⟨m,hm,rfl⟩:=hmemN x hx n hn;exact .inr ⟨m,hm,rfl⟩)
  have S4:=S3.putBack (by
   rw[qf _ _ hst,qg];rfl)
  have S5:=S4.putBack (by
   rw[qf _ _ (λe=>hst e.symm),qg];rfl)
  refine hnext c w' _ _ (S5.ext λt'=> ?_)
  by_cases e2:t'=t
  . subst e2;rw[qg,qg]
  . rw[qf _ _ e2,qf _ _ e2];by_cases e:t'=s
    . subst e;rw[qg,qg]
    . rw[qf _ _ e,qf _ _ e,qf _ _ e2,qf _ _ e]
 . exact(aq.fail' h2).elim
end
def aL.flatW {who who':bg} {w w':World}: ∀{t:Ty} {x:aM t} {g g':Nat->Option Value} {j j':Nat},Xa t=false->(∀i,i<t.size->g' (j'+i)=g (j+i))->aL who w t x g j->aL who' w' t x g' j'
 | .int _,_,g,g',j,j',_,hg,h=>by
   have:=hg 0 (by simp[Ty.size])
   exact this.trans h
 | .bool,_,g,g',j,j',_,hg,h=>by
   have:=hg 0 (by simp[Ty.size])
   exact this.trans h
 | .pr a b,_,g,g',j,j',ht,hg,h=>by
   simp only[Xa,Ip]at ht;refine⟨aL.flatW ht.1 (λi hi=>hg i (by simp only[Ty.size];omega)) h.1,aL.flatW ht.2 (λi hi=> ?_) h.2⟩
   have:=hg (a.size+i) (by simp only[Ty.size];omega)
   grind
 | .sl _ t,xs,g,g',j,j',ht,hg,h=>by cases ht
def q94 {α:Type} {xs ys:List α} {off len:Nat} (hy:ys.length=len) (h:off+len<=xs.length) {i:Nat} (hi:i<(xs.take off++(ys++xs.drop (off+len))).length):
 (∀(_:i<off) (h2:i<xs.length),(xs.take off++(ys++xs.drop (off+len)))[i]=xs[i])/\
 (∀(h1:off<=i) (h2:i-off<ys.length),(xs.take off++(ys++xs.drop (off+len)))[i]=ys[i-off])/\
 (∀(h1:off+len<=i) (h2:i<xs.length),(xs.take off++(ys++xs.drop (off+len)))[i]=xs[i]):=by
 grind
section
variable {P:Program} {CO:Q5} {T:TT} {E:aN} {D:Nat->Prop} {β β':aP} {who who':bg} {U U':ag} {hd:List (AV×Value)} {a:Act} {w w':World} {R W:List Nat}
def qnw (hT:bm P T) (hC: ∀f as r os,CO f as r os->Xc P f as r os) (hEP:E.prog=P) {idx f:Nat} {o:Oper} {args:List Operand} {tys:List TypeId} {v:AV}
 (h:aq CO (tT T idx f args tys) U v U' R W) (S:aC E D β who U [] a w) (hf: ∀k,k<16-> ¬D (ae idx k))
 (hop:execOp a.eval o=callFunc f (args.map a.eval).toArray):qW P E D idx U' v o a w:=by
 intro next Q hnext
 unfold tT at h;split at h
 case h_2=>exact(aq.fail' h).elim
 rename_i x rest ty tys';obtain⟨ps,U1,_,_,_,_,h1,h2⟩:=aq.bind' h;obtain⟨_,a9,_,S1,hlen,hargs⟩:=aq.passAll hT h1 S;split at h2
 case h_2=>exact(aq.fail' h2).elim
 rename_i hl;obtain⟨rv,U2,_,_,_,_,h3,h4⟩:=aq.bind' h2;obtain⟨rfl,Sr⟩:=aq.rd h3 S1;have hx:=Sr.hrel _ mS;split at h4
 case h_2=>exact(aq.fail' h4).elim
 rename_i s n sz off len;obtain⟨av,U3,_,_,_,_,h5,h6⟩:=aq.bind' h4;obtain⟨rfl,rfl⟩:=aq.mget' h5;split at h6
 case h_2=>exact(aq.fail' h6).elim
 rename_i m t xs hg;split at h6
 case isFalse=>exact(aq.fail' h6).elim
 rename_i hcnd;obtain⟨rfl,rfl,hflat,hnr⟩:=hcnd;obtain⟨_,U4,_,_,_,_,h7,h8⟩:=aq.bind' h6;obtain⟨hpos,rfl⟩:=aq.mask' h7;obtain⟨⟨r,os⟩,U5,_,_,_,_,h9,h10⟩:=aq.bind' h8;obtain⟨hco,rfl⟩:=aq.mcall' h9;obtain⟨hen,hcall⟩:=hC _ _ _ _ hco;dsimp only at h10;split at h10
 case h_2=>exact(aq.fail' h10).elim
 rename_i k z t' ys os';split at h10
 case isFalse=>exact(aq.fail' h10).elim
 rename_i ht;subst ht;obtain⟨_,U6,_,_,_,_,h11,h12⟩:=aq.bind' h10;have:=aq.mset' h11;subst this;obtain⟨rfl,rfl⟩:=aq.pure' h12
 have hpo: ∀p∈ps,x5 U5 p:=λp hp=>by
  obtain⟨i,hi,rfl⟩:=l9 hp;exact(hargs i hi (by rw[<-hlen];exact hi)).passOK λs e=>by have:=Qn hp e;rw[hl]at this;cases this
 have hnoref:=Yo hpo;have hnil:(ps.map (·.1)).flatMap ab=[]:=by rw[Yv hpo,hl];rfl
 have hrnF: ∀n∈ps.flatMap (·.2.2),n≠FN:=λn hn=>by
  obtain⟨p,hp,hn⟩:=zH.1 hn;obtain⟨i,hi,rfl⟩:=l9 hp;have ha:=hargs i hi (by rw[<-hlen];exact hi)
  generalize ps[i]=p at*
  obtain⟨av,l,rn⟩:=p;cases l with
  |none=>exact ha.2.2.2 n hn
  |some s=>have e:rn=[]:=ha.1;subst e;cases hn
 have hdis': ∀n'∈ps.flatMap (·.2.2),n'∉[m]:=λn' hn' hc=>by
  obtain rfl:=zC.1 hc;have:=si.2 hn';rw[hnr]at this;cases this
 have hpure: ∀(βc:aP),∀i (hi:i<ps.length),be βc (whoC a9 [m] (ps.flatMap (·.2.2))) w ps[i].1 (a.eval (rest[i]'(by rw[<-hlen];exact hi))):=λβc i hi=>by
  have hl':ps[i].2.1=none:=by
   cases e:ps[i].2.1 with
   |none=>rfl
   |some s=>have:=Qn (zN hi) e;rw[hl]at this;cases this
  have ha:=hargs i hi (by rw[<-hlen];exact hi)
  have hsub: ∀n∈ps[i].2.2,n∈ps.flatMap (·.2.2):=λn hn=>zH.2 ⟨_,zN hi,hn⟩
  generalize ps[i]=p at*
  obtain⟨av,l,rn⟩:=p;simp only at hl';subst hl';refine ha.1 βc _ ⟨λb hb=>by simp[whoC,hb],λb n hb hn=> ?_⟩
  simp[whoC,hb,hdis' n (hsub n hn),hsub n hn]
 have hrel:=S1.rel s;rw[hg]at hrel;obtain⟨hβ,hrel⟩:=(hrel:cu β a9 w m t' xs (a.tmps.getD s undef));obtain⟨A,L,cap,A',hb1,hb2,hb3,hb4,-⟩:=(hx:tE (β m) t'.size (some (off,len)) (a.eval x))
 obtain⟨b,o',cap',arr,el,e1,e2,e3,e4,e5,e6⟩: ∃b o cap arr el,a.tmps.getD s undef= .slice (some ⟨b,o,none⟩) xs.length cap/\w.heap[b]? =some (.cells arr el (0,0))/\o+cap*t'.size<=arr.size/\
  xs.length<=cap/\a9 b=some m/\aQ a9 w t' xs b o:=by
  rcases hrel with⟨q1,q2⟩|q
  . rw[hβ,hb1]at q1;injection q1 with _ q1 _
    omega
  . exact q
 have hbb:β m= .slice (some ⟨b,o',none⟩) xs.length cap':=by rw[<-hβ];exact e1
 rw[hbb]at hb1;injection hb1 with hA hL hcap
 subst hL hcap hA;have hA':=hb4 O
 have hv:a.eval x= .slice (some ⟨b,o'+off*t'.size,none⟩) len (cap'-off):=(hb3:a.eval x= .slice A' len (cap'-off)).trans (by
  rw[hA',sm];unfold Addr.add;split
  . rename_i z;rw[z,zU]
  . rfl)
 have hwl:((xs.drop off).take len).length=len:=by rw[zk,pI];omega
 have hmul:o'+off*t'.size+(cap'-off)*t'.size<=arr.size:=by
  have:off*t'.size+(cap'-off)*t'.size=cap'*t'.size:=by rw[<-Nat.add_mul];congr 1;omega
  omega
 let βc:aP:=λk=>if k=98 then .agg arr else a.eval x
 have hcnone: ∀b,a9 b=none->whoC a9 [m] (ps.flatMap (·.2.2)) b=none:=λb hb=>by simp[whoC,hb]
 have hcb:whoC a9 [m] (ps.flatMap (·.2.2)) b=some 0:=by simp[whoC,e5,aT]
 have hwin:be βc (whoC a9 [m] (ps.flatMap (·.2.2))) w (.wn 0 t' ((xs.drop off).take len)) (a.eval x):=by
  refine⟨⟨rfl,.inr ⟨b,o'+off*t'.size,cap'-off,arr,el,by rw[hwl];exact hv,e2,hmul,O,hcb,λi hi=> ?_⟩⟩,arr,rfl,λb2 o2 L2 cap2 arr2 el2 q1 q2=> ?_⟩
  . rw[hwl]at hi;have hi2:off+i<xs.length:=O;have:=e6 (off+i) hi2;have ge:((xs.drop off).take len)[i]'(by rw[hwl];exact hi)=xs[off+i]:=by rw[HA,Nl]
    rw[ge];refine aL.flatW hflat (λj hj=> ?_) this
    rw[show o'+off*t'.size+i*t'.size=o'+(off+i)*t'.size by rw[ir];omega]
  . rw[hv]at q1;injection q1 with q1 _ _
    injection q1 with q1
    injection q1 with q1 _ _
    subst q1;rw[e2]at q2;injection q2 with q2
    injection q2 with q2 _ _
    subst q2;exact⟨rfl,λ_ _=>rfl⟩
 have hnames:(AV.wn 0 t' ((xs.drop off).take len)::ps.map (·.1)).flatMap ab=[0]:=by rw[fC,hnil];rfl
 have hcalls:=hcall βc (whoC a9 [m] (ps.flatMap (·.2.2))) w ((x::rest).map a.eval).toArray (by simp[hlen]) (λj hj=>by
  cases j with
  |zero=>exact hwin
  |succ j=>
   have hj':j<ps.length:=by simpa using hj
   have hjr:j<rest.length:=by rw[<-hlen];exact hj'
   have q1:((x::rest).map a.eval).toArray.getD (j+1) undef=a.eval rest[j]:=by simp[Array.getD,hjr]
   rw[q1,List.getElem_cons_succ,nw];exact hpure βc j hj') (by rw[hnames];simp) (by rw[hnames];simp) (by
  rw[xL,Yc hnoref];rfl)
  (fun b n hb=>by
    rw[hnames];simp only[whoC]at hb;split at hb
    . cases hb
    . rename_i n' hn';refine⟨S1.wsz b n' hn',?_⟩;split at hb
      . rename_i hin;obtain rfl:=zC.1 hin;injection hb with hb
        exact .inl (by rw[<-hb];simp[aT])
      . split at hb
        . cases hb
        . injection hb with hb;exact .inr hb.symm)
 unfold Oper.wp;rw[hop,Yy hen,Oper.upon_enter];refine Calls.mono (hcalls ((hEP▸S1.glob:ct P a9 w).whoC (λb h=>by simp[whoC,h]))) λe w' hp=> ?_
 obtain⟨c,β',who',rfl,p0,p1,p2,p3,p4,p5,p6,p7,p8,p9,p10,p11⟩:=hp;have hout:=p2 0 (by simp)
 have q1:((x::rest).map a.eval).toArray.getD 0 undef=a.eval x:=by simp[Array.getD]
 rw[q1]at hout;obtain⟨⟨y0,hout⟩,arr0,y1,y2⟩:=(hout:cu β' who' w' 0 t' ys (a.eval x)/\BR (β' 98) w' t'.size (a.eval x))
 obtain⟨b2,o2,cap2,arr2,el2,z1,z2,z3,z4,z5,z6⟩: ∃b o cap arr el,a.eval x= .slice (some ⟨b,o,none⟩) ys.length cap/\w'.heap[b]? =some (.cells arr el (0,0))/\o+cap*t'.size<=arr.size/\
  ys.length<=cap/\who' b=some 0/\aQ who' w' t' ys b o:=by
  rcases hout with⟨q1,q2⟩|q
  . rw[hv]at q1;cases q1
  . exact q
 have hyl:ys.length=len/\b2=b/\o2=o'+off*t'.size:=by
  rw[hv]at z1;injection z1 with z1 zl _
  injection z1 with z1
  injection z1 with zb zo _
  exact⟨zl.symm,zb.symm,zo.symm⟩
 obtain⟨hyl,rfl,rfl⟩:=hyl;rw[p0]at y1
 have harr:arr0=arr:=by
  have:βc 98= .agg arr:=iP rfl;rw[this]at y1;injection y1 with y1
  exact y1.symm
 subst harr;obtain⟨hsz2,hout2⟩:=y2 b2 _ _ _ arr2 el2 hv z2;have hS0:aC E D β a9 (U5.set s .dead) [] a w:=(S1.takeAll s).drop rfl;have hmD:D m:=S1.occ s m (by rw[hg];simp[Vs.occ,aX,aI])
 obtain⟨S2,kk⟩:=Y4 (β':=λk=>if k=0 then β m else β' k) (who':=who') (w':=w') (ln:=[m]) (rn:=ps.flatMap (·.2.2)) (ns:=[0]) (im:=false) hS0 hf
  (fun n hn=>by
    obtain rfl:=zC.1 hn;refine⟨λe=>S1.dfn (e▸hmD),λs' hs'=> ?_⟩
    by_cases e:s'=s
    . subst e;rw[qg]at hs';simp[ab,qi,qc]at hs'
    . rw[qf _ _ e]at hs';exact e (S1.dis s' s n hs' (by rw[hg];simp[ab,qi,qc]))) hrnF (by simp) p7 p8 p9 p10
  (λn hn=>by obtain rfl:=zC.1 hn;omega) (λh=>by cases h) p11
 generalize hβ2:fU β (λk=>if k=0 then β m else β' k) idx=β2 at*
 generalize hw2:bE a9 who' idx [m] [0]=wh2 at*
 have hb0:β2 (ae idx 0)=β m:=by
  rw[<-hβ2];simp only[fU];rw[iP (by simp only[ae];omega),Ir,iP rfl]
 have hwb:wh2 b2=some (ae idx 0):=by
  rw[<-hw2];simp only[bE,z5];rw[ao (by simp only[FN];omega),iP (by simp)]
 have hcell: ∀j i,(j+i<o'+off*t'.size\/o'+off*t'.size+len*t'.size<=j+i)->aD w' b2 j i=aD w b2 j i:=λj i hj=>by
  simp only[aD,World.cell?,z2,e2];exact hout2 (j+i) hj
 have hzl:(xs.take off++(ys++xs.drop (off+len))).length=xs.length:=by
  rw[zJ,zJ,zk,pI];omega
 have hnew:be β2 wh2 w' (.sl (.nm (ae idx 0)) t' (xs.take off++(ys++xs.drop (off+len)))) (a.tmps.getD s undef):=by
  refine⟨by rw[hb0];exact hβ,.inr ⟨b2,o',cap',arr2,el2,by rw[hzl];exact e1,z2,O,by rw[hzl];exact e4,hwb,λi hi=> ?_⟩⟩
  rw[hzl]at hi;obtain⟨g1,g2,g3⟩:=q94 (xs:=xs) (ys:=ys) (off:=off) (len:=len) hyl hb2 (i:=i) (by rw[hzl];exact hi)
  by_cases c1:i<off
  . rw[g1 c1 hi];refine aL.flatW hflat (λj hj=> ?_) (e6 i hi)
    refine hcell _ _ (.inl ?_);have:(i+1)*t'.size<=off*t'.size:=zO _ O;rw[IH]at this;omega
  . by_cases c2:i<off+len
    . rw[g2 O O];refine aL.flatW hflat (λj hj=> ?_) (z6 (i-off) O)
      rw[show o'+off*t'.size+(i-off)*t'.size=o'+i*t'.size by
       have:off*t'.size+(i-off)*t'.size=i*t'.size:=by rw[<-Nat.add_mul];congr 1;omega
       omega]
    . rw[g3 O hi];refine aL.flatW hflat (λj hj=> ?_) (e6 i hi)
      refine hcell _ _ (.inr ?_);have:(off+len)*t'.size<=i*t'.size:=zO _ O;rw[ir]at this;omega
 have S3:=S2.add (new:=[(.sl (.nm (ae idx 0)) t' (xs.take off++(ys++xs.drop (off+len))),a.tmps.getD s undef),(.int k z,c)])
  (fun y hy=>by
    rcases mC hy with rfl|hy
    . exact hnew
    . obtain rfl:=zC.1 hy;exact p1)
  (by simp[ab,qi,qc])
  (fun y hy n hn t ht=>by
    rcases mC hy with rfl|hy
    . have:n=ae idx 0:=by simpa [ab,qi,qc]using hn
      subst this;exact hf 0 O (hS0.occ t _ (qj ht))
    . obtain rfl:=zC.1 hy;simp[ab,qi,qc]at hn)
  (fun y hy n hn=>by
    rcases mC hy with rfl|hy
    . have:n=ae idx 0:=by simpa [Vs.occ,aX,aI]using hn
      exact .inr ⟨0,O,this⟩
    . obtain rfl:=zC.1 hy;simp[Vs.occ,aX,aI]at hn)
 have S4:=S3.putBack (by rw[qg];rfl)
 refine hnext c w' _ _ (S4.ext λt=> ?_)
 by_cases e:t=s
 . subst e;rw[qg,qg]
 . rw[qf _ _ e,qf _ _ e,qf _ _ e]
end
section
variable {P:Program} {CO:Q5} {T:TT} {E:aN} {D:Nat->Prop} {β β':aP} {who who':bg} {U U':ag} {hd:List (AV×Value)} {a:Act} {w w':World} {R W:List Nat}
def qoh (hT:bm P T) (hC: ∀f as r os,CO f as r os->Xc P f as r os) (hEP:E.prog=P) {idx f:Nat} {o:Oper} {args:List Operand} {tys:List TypeId} {v:AV}
 (h:aq CO (uk T idx f args tys) U v U' R W) (S:aC E D β who U [] a w) (hf: ∀k,k<16-> ¬D (ae idx k))
 (hop:execOp a.eval o=callFunc f (args.map a.eval).toArray):qW P E D idx U' v o a w:=by
 classical
 intro next Q hnext
 unfold uk at h;split at h
 case h_2=>exact(aq.fail' h).elim
 rename_i x rest ty tys';obtain⟨ps,U1,_,_,_,_,h1,h2⟩:=aq.bind' h;obtain⟨_,a9,_,S1,hlen,hargs⟩:=aq.passAll hT h1 S;split at h2
 case h_2=>exact(aq.fail' h2).elim
 rename_i hl;obtain⟨rv,U2,_,_,_,_,h3,h4⟩:=aq.bind' h2;obtain⟨rfl,Sr⟩:=aq.rd h3 S1;have hx:=Sr.hrel _ mS;split at h4
 case h_2=>exact(aq.fail' h4).elim
 rename_i s n i;obtain⟨av,U3,_,_,_,_,h5,h6⟩:=aq.bind' h4;obtain⟨rfl,rfl⟩:=aq.mget' h5;split at h6
 case h_2=>exact(aq.fail' h6).elim
 rename_i m t xs hg;split at h6
 case isFalse=>exact(aq.fail' h6).elim
 rename_i hcnd;obtain⟨rfl,hnr,hnr15⟩:=hcnd;obtain⟨⟨r,os⟩,U5,_,_,_,_,h9,h10⟩:=aq.bind' h6;obtain⟨hco,rfl⟩:=aq.mcall' h9;obtain⟨hen,hcall⟩:=hC _ _ _ _ hco;dsimp only at h10;split at h10
 case h_2=>exact(aq.fail' h10).elim
 rename_i q t' ys os';split at h10
 case isFalse=>exact(aq.fail' h10).elim
 rename_i ht;subst ht;split at h10
 . exact(aq.fail' h10).elim
 rename_i himm;obtain⟨_,U6,_,_,_,_,h11,h12⟩:=aq.bind' h10;have:=aq.mset' h11;subst this;obtain⟨rfl,rfl⟩:=aq.pure' h12
 have hpo: ∀p∈ps,x5 U5 p:=λp hp=>by
  obtain⟨i,hi,rfl⟩:=l9 hp;exact(hargs i hi (by rw[<-hlen];exact hi)).passOK λs e=>by have:=Qn hp e;rw[hl]at this;cases this
 have hnoref:=Yo hpo;have hnil:(ps.map (·.1)).flatMap ab=[]:=by rw[Yv hpo,hl];rfl
 have hrnF: ∀n∈ps.flatMap (·.2.2),n≠FN:=λn hn=>by
  obtain⟨p,hp,hn⟩:=zH.1 hn;obtain⟨i,hi,rfl⟩:=l9 hp;have ha:=hargs i hi (by rw[<-hlen];exact hi)
  generalize ps[i]=p at*
  obtain⟨av,l,rn⟩:=p;cases l with
  |none=>exact ha.2.2.2 n hn
  |some s=>have e:rn=[]:=ha.1;subst e;cases hn
 have him:(Qp r||Xa t')=true->ps.flatMap (·.2.2)=[]:=λhi=>by
  simp only[hi,HJ,Bool.not_eq_true']at himm;simpa using himm
 generalize hrn:ps.flatMap (·.2.2)=rn at*
 have hmr:m∉rn:=λh=>by have:=si.2 h;rw[hnr]at this;cases this
 have h15r:ae idx 15∉rn:=λh=>by have:=si.2 h;rw[hnr15]at this;cases this
 have hmD:D m:=S1.occ s m (by rw[hg];simp[Vs.occ,aX,aI])
 have hmF:m≠FN:=λe=>S1.dfn (e▸hmD)
 have h15D: ¬D (ae idx 15):=hf 15 O;have h15m:ae idx 15≠m:=λe=>h15D (e▸hmD)
 have h15F:ae idx 15≠FN:=by simp only[ae,FN];omega
 have hdp:=S1.dp hg;obtain⟨hx1,-,a0,L0,c0,hx2,hx3⟩:=(hx:eE (β m) (.row i) (a.eval x));replace hx1:a.eval x=bX (β m) (i+1):=hx1;obtain⟨ad1,cap1,hb1⟩:=hdp.base;rw[hb1]at hx2;injection hx2 with _ hL _
 subst hL;obtain⟨d1,b0,o0,cap,arr,el,e1,e2,e3,e4,e5,e6,e7⟩:=hdp.pos (.inr (Qa hx3));have hxi:xs.getD i []=xs[i]:=by simp[List.getD,List.getElem?_eq_getElem hx3]
 rw[hxi]at hcall
 let G:Nat->Prop:=λb'=> ∃oi li ci,bX (β m) (i+1)= .slice (some ⟨b',oi,none⟩) li ci
 have hG: ∀b',G b'->a9 b'=some m/\b'≠b0:=by
  rintro b' ⟨oi,li,ci,hg'⟩
  rcases(e6 i hx3 (by simp)).2 with⟨q,_⟩|⟨bi,oi',ci',ar,l,k1,k2,k3,k4,k5,k6,k7⟩
  . rw[q]at hg';cases hg'
  . grind
 let whoR:bg:=λb'=>if G b' then some (ae idx 15)else a9 b'
 have hRG: ∀b',G b'->whoR b'=some (ae idx 15):=λb' g=>iP g
 have hRn: ∀b',¬G b'->whoR b'=a9 b':=λb' g=>ao g
 have hRnone: ∀b',a9 b'=none->whoR b'=none:=λb' hb=>by
  rw[hRn b' (λg=>by rw[(hG b' g).1]at hb;cases hb)];exact hb
 have hRnone': ∀b',whoR b'=none->a9 b'=none:=λb' hb=>by
  by_cases g:G b'
  . rw[hRG b' g]at hb;cases hb
  . rw[hRn b' g]at hb;exact hb
 have hS0:aC E D β whoR (U5.set s .dead) [] a w:=by
  refine((S1.takeAll s).drop rfl).shift (X:=[m]) (by simpa using λe=>hmF e.symm) (λ_ _=>rfl)
   (fun b' x hb hx=>⟨by
     rw[hRn b' (λg=>by
      rw[(hG b' g).1]at hb;injection hb with hb;exact hx (by simp[hb]))];exact hb,rfl⟩)
   (fun b' hb=>⟨hRnone b' hb,rfl⟩) (λb' x hb=>by
     by_cases g:G b'
     . exact⟨_,(hG b' g).1⟩
     . rw[hRn b' g]at hb;exact⟨_,hb⟩) rfl (λs' x hx hs=>by
     obtain rfl:=zC.1 hx;by_cases e:s'=s
     . subst e;rw[qg]at hs;simp[ab,qi,qc]at hs
     . rw[qf _ _ e]at hs;exact absurd (S1.dis s' s _ hs (by rw[hg];simp[ab,qi,qc])) e) (λz hz=>by cases hz) ⟨rfl,rfl⟩
 let whoK:bg:=whoC whoR [ae idx 15] rn
 have hKG: ∀b',G b'->whoK b'=some 0:=λb' g=>by simp[whoK,whoC,hRG b' g,aT]
 have hKnone: ∀b',a9 b'=none->whoK b'=none:=λb' hb=>by simp[whoK,whoC,hRnone b' hb]
 have hKm: ∀b',a9 b'=some m-> ¬G b'->whoK b'=some FN:=λb' hb g=>by
  have: ¬(m=ae idx 15):=λe=>h15m e.symm
  simp[whoK,whoC,hRn b' g,hb,this,hmr]
 let βc:aP:=λ_=>a.eval x
 have hpure: ∀i (hi:i<ps.length),be βc whoK w ps[i].1 (a.eval (rest[i]'(by rw[<-hlen];exact hi))):=λi hi=>by
  have hl':ps[i].2.1=none:=by
   cases e:ps[i].2.1 with
   |none=>rfl
   |some s=>have:=Qn (zN hi) e;rw[hl]at this;cases this
  have ha:=hargs i hi (by rw[<-hlen];exact hi)
  have hsub: ∀n∈ps[i].2.2,n∈rn:=λn hn=>hrn▸zH.2 ⟨_,zN hi,hn⟩
  generalize ps[i]=p at*
  obtain⟨av,l,rn'⟩:=p;simp only at hl';subst hl';refine ha.1 βc _ ⟨λb hb=>hKnone b hb,λb n hb hn=> ?_⟩
  have hnr:=hsub n hn;have g: ¬G b:=λg=>by rw[(hG b g).1]at hb;injection hb with hb;exact hmr (hb▸hnr)
  have n15: ¬(n=ae idx 15):=λe=>h15r (e▸hnr)
  simp[whoK,whoC,hRn b g,hb,n15,hnr]
 have hE1: ∀(zs:List (aM t')) b o,aQ a9 w t' zs b o->aQ whoK w t' zs b o:=λzs b o he=>
  he.keep (λb' hb _=>⟨hKnone b' hb,rfl⟩) (zF _) rfl
 have hrow:be βc whoK w (.sl (.nm 0) t' xs[i]) (a.eval x):=by
  refine⟨rfl,?_⟩;rw[hx1];rcases(e6 i hx3 (by simp)).2 with⟨q1,q2⟩|⟨bi,oi,ci,ar,l,k1,k2,k3,k4,k5,k6,k7⟩
  . exact .inl ⟨q1,q2⟩
  . exact .inr ⟨bi,oi,ci,ar,l,k1,k2,k3,k4,hKG bi ⟨_,_,_,k1⟩,hE1 _ _ _ k7⟩
 have hnames:(AV.sl (.nm 0) t' xs[i]::ps.map (·.1)).flatMap ab=[0]:=by rw[fC,hnil];rfl
 have hcalls:=hcall βc whoK w ((x::rest).map a.eval).toArray (by simp[hlen]) (λj hj=>by
  cases j with
  |zero=>exact hrow
  |succ j=>
   have hj':j<ps.length:=by simpa using hj
   have hjr:j<rest.length:=by rw[<-hlen];exact hj'
   have q1:((x::rest).map a.eval).toArray.getD (j+1) undef=a.eval rest[j]:=by simp[Array.getD,hjr]
   rw[q1,List.getElem_cons_succ,nw];exact hpure j hj') (by rw[hnames];simp) (by rw[hnames];simp) (by
  rw[xL,Yc hnoref];rfl)
  (fun b n hb=>by
    rw[hnames];simp only[whoK,whoC]at hb;split at hb
    . cases hb
    . rename_i n' hn';refine⟨hS0.wsz b n' hn',?_⟩;split at hb
      . rename_i hin;obtain rfl:=zC.1 hin;injection hb with hb
        exact .inl (by rw[<-hb];simp[aT])
      . split at hb
        . cases hb
        . injection hb with hb;exact .inr hb.symm)
 unfold Oper.wp;rw[hop,Yy hen,Oper.upon_enter];refine Calls.mono (hcalls ((hEP▸S1.glob:ct P a9 w).whoC (λb h=>hKnone b h))) λe w' hp=> ?_
 obtain⟨c,β',who',rfl,p0,p1,p2,p3,p4,p5,p6,p7,p8,p9,p10,p11⟩:=hp;have hout:=p2 0 (by simp)
 have q1:((x::rest).map a.eval).toArray.getD 0 undef=a.eval x:=by simp[Array.getD]
 rw[q1]at hout;obtain⟨y0,hout⟩:=(hout:cu β' who' w' q t' ys (a.eval x));have hq16:q<16:=p4 q (n6 _ (by simp[ab,qi,qc]))
 have hqr:q∉ab r:=λhq=>by
  have:=(zK.1 p3).2.2 q hq q (by simp[ab,qi,qc])
  exact this rfl
 have hnd:=(zK.1 p3).1
 obtain⟨S2,kk⟩:=Y4 (β':=β') (who':=who') (w':=w') (ln:=[ae idx 15]) (rn:=rn) (ns:=ab r++[q]) (im:=Qp r||Xa t') hS0 hf
  (fun n hn=>by
    obtain rfl:=zC.1 hn;exact⟨h15F,λs' hs'=>h15D (hS0.occ s' _ (qj hs'))⟩) hrnF (by simp) p7 p8 p9 p10
  (fun n hn=>by
    rcases zQ.1 hn with h|h
    . exact p4 n (zY _ h)
    . obtain rfl:=zC.1 h;exact hq16) him p11
 have hin15: ∀n,D n-> ¬(ae idx 0<=n/\n<=ae idx 15):=λn hn ⟨h1,h2⟩=>by
  refine hf (n-ae idx 0) (by simp only[ae]at*;omega) ?_
  rwa [show ae idx (n-ae idx 0)=n by simp only[ae]at*;omega]
 have hβm:fU β β' idx m=β m:=by simp only[fU];rw[ao (hin15 m hmD)]
 have hw2m: ∀b',a9 b'=some m-> ¬G b'->bE whoR who' idx [ae idx 15] (ab r++[q]) b'=some m/\w'.heap[b']? =w.heap[b']? :=λb' hb g=>by
  have hk:=hKm b' hb g;refine⟨?_,p7 b' (S1.wsz b' m hb) (.inr hk)⟩;simp only[bE,p10 b' hk];rw[iP trivial,hRn b' g,hb]
 have hw2none: ∀b',a9 b'=none->b'<w.heap.size->bE whoR who' idx [ae idx 15] (ab r++[q]) b'=none/\w'.heap[b']? =w.heap[b']? :=λb' hb hlt=>by
  have hk:=hKnone b' hb;refine⟨?_,p7 b' hlt (.inl hk)⟩
  have:who' b'=none:=by
   cases e:who' b' with
   |none=>rfl
   |some n=>
    rcases(p8 b' n e).2 with h|h
    . exact absurd hk h
    . omega
  simp only[bE,this,hRnone b' hb]
 generalize hβ2:fU β β' idx=β2 at*
 have hw2q: ∀b',who' b'=some q->bE whoR who' idx [ae idx 15] (ab r++[q]) b'=some (ae idx q):=λb' hb=>kk.own q (by simp) b' hb
 generalize hw2:bE whoR who' idx [ae idx 15] (ab r++[q])=wh2 at*
 have hqD: ¬D (ae idx q):=hf q hq16;have hqm:ae idx q≠m:=λe=>hqD (e▸hmD)
 have hqF:ae idx q≠FN:=by simp only[ae,FN];omega
 let who3:bg:=λb'=>if wh2 b'=some (ae idx q)then some m else wh2 b'
 have h3q: ∀b',wh2 b'=some (ae idx q)->who3 b'=some m:=λb' g=>iP g
 have h3n: ∀b',wh2 b'≠some (ae idx q)->who3 b'=wh2 b':=λb' g=>ao g
 have h3none: ∀b',wh2 b'=none->who3 b'=none:=λb' hb=>by rw[h3n b' (by rw[hb];simp)];exact hb
 have h3m: ∀b',wh2 b'=some m->who3 b'=some m:=λb' hb=>by
  rw[h3n b' (by rw[hb];intro e;injection e with e;exact hqm e.symm)];exact hb
 have hqS: ∀s',ae idx q∉ab ((U5.set s .dead).get s'):=λs' hs=>hqD (hS0.occ s' _ (qj hs))
 have S3:aC E (Dn D idx) β2 who3 (U5.set s .dead) [] a w':=by
  refine S2.shift (X:=[ae idx q]) (by simpa using λe=>hqF e.symm) (λ_ _=>rfl)
   (fun b' x hb hx=>⟨by
     rw[h3n b' (by rw[hb];intro e;injection e with e;exact hx (by simp[e]))];exact hb,rfl⟩)
   (fun b' hb=>⟨h3none b' hb,rfl⟩) (λb' x hb=>by
     by_cases g:wh2 b'=some (ae idx q)
     . exact⟨_,g⟩
     . rw[h3n b' g]at hb;exact⟨_,hb⟩) rfl (λs' x hx hs=>by
     obtain rfl:=zC.1 hx;exact absurd hs (hqS s')) (λz hz=>by cases hz) ⟨rfl,rfl⟩
 have hE3: ∀(zs:List (aM t')) b o,w'.heap[b]? =w.heap[b]? ->aQ a9 w t' zs b o->aQ who3 w' t' zs b o:=λzs b o hb he=>
  he.keep (λb' hb hlt=>⟨h3none b' (hw2none b' hb hlt).1,(hw2none b' hb hlt).2⟩) p9 hb
 have hE4: ∀(zs:List (aM t')) b o,aQ who' w' t' zs b o->aQ who3 w' t' zs b o:=λzs b o he=>by
  cases ht:Xa t' with
  |true=>exact he.keep (λb' hb hl=>⟨h3none b' (kk.imm (by rw[ht,B8]) b' hb hl),rfl⟩) (zF _) rfl
  |false=>exact λi hi=>aL.flat ht (he i hi)
 have hyl:ys.length=xs[i].length:=by
  rw[hx1]at hout;rcases(e6 i hx3 (by simp)).2 with⟨q1,q2⟩|⟨bi,oi,ci,ar,l,k1,k2,k3,k4,k5,k6,k7⟩
  . rcases hout with⟨z1,z2⟩|⟨b2,o2,cap2,arr2,el2,z1,_⟩
    . rw[q2,z2]
    . rw[q1]at z1;cases z1
  . rcases hout with⟨z1,z2⟩|⟨b2,o2,cap2,arr2,el2,z1,_⟩
    . rw[k1]at z1;cases z1
    . rw[k1]at z1;injection z1 with _ z _;exact z.symm
 have hnew:bh β2 who3 w' m t' (xs.set i ys) none (a.tmps.getD s undef):=by
  obtain⟨g0,g1⟩:=hw2m b0 e5 (λg=>(hG b0 g).2 rfl)
  refine⟨by rw[hβm];exact d1,.inr ⟨b0,o0,cap,arr,el,by simpa using e1,by rw[g1];exact e2,e3,by simpa using e4,h3m b0 g0,λj hj _=> ?_,?_⟩⟩
  . have hj':j<xs.length:=by simpa using hj
    obtain⟨f1,f2⟩:=e6 j hj' (by simp)
    rw[hβm];refine⟨by rw[Yw g1];exact f1,?_⟩
    by_cases e:j=i
    . subst e;rw[tr];rw[hx1]at hout;rcases hout with⟨z1,z2⟩|⟨b2,o2,cap2,arr2,el2,z1,z2,z3,z4,z5,z6⟩
      . exact .inl ⟨z1,z2⟩
      . exact .inr ⟨b2,o2,cap2,arr2,el2,z1,z2,z3,z4,h3q b2 (hw2q b2 z5),(hG b2 ⟨_,_,_,z1⟩).2,hE4 _ _ _ z6⟩
    . rw[tk (λh=>e h.symm)]
      rcases f2 with f2|⟨bi,oi,ci,ar,l,k1,k2,k3,k4,k5,k6,k7⟩
      . exact .inl f2
      . have hng: ¬G bi:=by
         rintro ⟨oi',li',ci',hg'⟩
         exact e (e7 j i _ _ _ _ _ _ hj' hx3 (by simp) (by simp) k1 hg' rfl)
        obtain⟨m1,m2⟩:=hw2m bi k5 hng;exact .inr ⟨bi,oi,ci,ar,l,k1,by rw[m2];exact k2,k3,k4,h3m bi m1,k6,hE3 _ _ _ m2 k7⟩
  . rw[hβm];simpa using e7
 have S4:=S3.recast (s:=s) (v:= .dp m t' (xs.set i ys) none) (qg ..) hnew (by simp[ab,qi,qc])
  (fun x hx s' hs=>by
    simp only[ab,qi,qc,zC]at hx;subst hx;by_cases e:s'=s
    . subst e;rw[qg]at hs;simp[ab,qi,qc]at hs
    . rw[qf _ _ e]at hs;exact e (S1.dis s' s _ hs (by rw[hg];simp[ab,qi,qc])))
  (fun x hx=>by
    simp only[Vs.occ,aX,aI,zC]at hx;subst hx;exact .inl hmD)
 have k3:fW β' who' w' β2 who3 (ae idx) (ab r) (Qp r):=
  ⟨fun n hn=>kk.beta n (zY _ hn),λn hn b hb=>by
    have:=kk.own n (zY _ hn) b hb
    rw[h3n b (by
     rw[this];intro e;injection e with e
     have:=X6 e;exact hqr (this▸hn))]
    exact this,λhi b hb hl=>h3none b (kk.imm (by rw[hi];rfl) b hb hl)⟩
 have S5:=S4.add (new:=[(ren (ae idx) r,c)])
  (fun y hy=>by
    obtain rfl:=zC.1 hy;exact be.ren p5 k3 p1)
  (by
    simp only[fC,tw,jg,qy];exact Qo (λ_ _ _ _ h=>X6 h) hnd)
  (fun y hy n hn s' hs=>by
    obtain rfl:=zC.1 hy;simp only[qy,zV]at hn;obtain⟨k,hk,rfl⟩:=hn;have hkD:=hf k (p4 k (zY _ hk));by_cases e:s'=s
    . subst e;rw[qg]at hs;simp only[ab,qi,qc,zC]at hs;exact hkD (hs▸hmD)
    . rw[qf _ _ e]at hs;exact hkD (hS0.occ s' _ (qj hs)))
  (fun y hy n hn=>by
    obtain rfl:=zC.1 hy;rw[Xt (by rw[Qw];exact p5),qy,zV]at hn
    obtain⟨k,hk,rfl⟩:=hn;exact .inr ⟨k,p4 k (zY _ hk),rfl⟩)
 refine hnext c w' _ _ (S5.ext λt=> ?_)
 by_cases e:t=s
 . subst e;rw[qg,qg]
 . rw[qf _ _ e,qf _ _ e,qf _ _ e]
end
section
variable {α:Type}
def qlq {ys:List (Int×α)} {k:Int} (h:aZ ys k=none):eO ys k=ys.length:=by
 induction ys with
 |nil=>rfl
 |cons p r ih=>
  obtain⟨k',x⟩:=p;simp only[aZ]at h;simp only[eO];split at h
  . cases h
  . rename_i e;rw[ao e,ih h];rfl
def RG {ys:List (Int×α)} {k:Int} {x:α} (h:aZ ys k=some x): ∃hl:eO ys k<ys.length,ys[eO ys k]=(k,x):=by
 induction ys with
 |nil=>cases h
 |cons p r ih=>
  obtain⟨k',y⟩:=p;simp only[aZ]at h;by_cases e:k'=k
  . rw[iP e]at h;cases h;subst e;have:eO ((k',x)::r) k'=0:=by simp[eO]
    exact⟨by rw[this];simp,by simp[this]⟩
  . rw[ao e]at h;obtain⟨h1,h2⟩:=ih h;have:eO ((k',y)::r) k=eO r k+1:=by simp[eO,e]
    exact⟨by rw[this];simpa using h1,by simp[this,h2]⟩
def OL {ys:List (Int×α)} {k:Int} {x:α} (h:aZ ys k=none):bY ys k x=ys++[(k,x)]:=by
 induction ys with
 |nil=>rfl
 |cons p r ih=>
  obtain⟨k',y⟩:=p;simp only[aZ]at h;split at h
  . cases h
  . rename_i e;simp[bY,e,ih h]
def RM {ys:List (Int×α)} {k:Int} {x y:α} (h:aZ ys k=some y):bY ys k x=ys.set (eO ys k) (k,x):=by
 induction ys with
 |nil=>cases h
 |cons p r ih=>
  obtain⟨k',z⟩:=p;simp only[aZ]at h;by_cases e:k'=k
  . simp[bY,eO,e]
  . rw[ao e]at h;simp[bY,eO,e,ih h]
def ql3 {ys:List (Int×α)} {i:Nat} {y:α} (h:i<ys.length):xI ys i y=ys.set i (ys[i].1,y):=by
 induction ys generalizing i with
 |nil=>simp at h
 |cons p r ih=>
  cases i with
  |zero=>rfl
  |succ i=>simp[xI,ih (by simpa using h)]
end
section
variable {P:Program} {who:bg} {w:World} {t:Ty}
def qe0 {ys:List (Int×aM t)} {es:List MapEntry} (k:Int) (hl:es.length=ys.length) (hk: ∀i (h:i<ys.length),∃e,es[i]? =some e/\e.key= .int .i64 ys[i].1) (n:Nat):
 Instr.findNow (.int .i64) (.int .i64 k) es n=some (match aZ ys k with
  |none=>none
  |some _=>(es[eO ys k]?).map λe=>(n+eO ys k,e.val)):=by
 induction ys generalizing es n with
 |nil=>
  have:es=[]:=HM hl;subst this;rfl
 |cons p r ih=>
  obtain⟨k',x⟩:=p;cases es with
  |nil=>simp at hl
  |cons e es=>
   obtain⟨e',h1,h2⟩:=hk 0 (by simp)
   simp only[List.getElem?_cons_zero,zM]at h1;subst h1;simp only[FA]at h2;have hr:=ih (es:=es) (by simpa using hl) (λi hi=>by have:=hk (i+1) (by simpa using hi);simpa using this) (n+1)
   unfold Instr.findNow;rw[h2];simp only[Instr.sameNow,if_true,aZ,eO];by_cases e:k'=k
   . subst e;simp
   . have hb:(k==k')=false:=by simpa using λh=>e h.symm
     rw[hb];simp only[hr,ao e,zM];cases aZ r k with
     |none=>rfl
     |some _=>
      have:n+1+eO r k=n+(eO r k+1):=O;simp[this]
structure se (P:Program) (m e:TypeId) (t:Ty):Prop where
 ok: ∃kt i arr,P.underlying m=some (.map kt e)/\P.underlying kt=some (.int .i64)/\P.info? e=some i/\i.zero=some (.agg arr)/\arr.toList=Qm t
def Xg {kt:TypeId} (hk:P.underlying kt=some (.int .i64)) (em:Bool) (k:Int) (w:World):(Instr.checkKey em 10000 kt (.int .i64 k)).run P w= .ok () w:=by
 unfold Instr.checkKey;simp[run_underlying hk]
def Xx {kt:TypeId} (hk:P.underlying kt=some (.int .i64)) {k:Int} {es:List MapEntry} {r:Option (Nat×Value)} (h:Instr.findNow (.int .i64) (.int .i64 k) es 0=some r) (w:World):
 (Instr.findKey kt (.int .i64 k) es).run P w= .ok r w:=by
 unfold Instr.findKey;simp[run_underlying hk,h]
def gh.find {ys:List (Int×aM t)} {es:List MapEntry} (h:gh who w t ys es) (k:Int):
 (aZ ys k=none/\Instr.findNow (.int .i64) (.int .i64 k) es 0=some none)\/
 ∃x arr,aZ ys k=some x/\es[eO ys k]? =some ⟨.int .i64 k,.agg arr,eO ys k⟩/\Instr.findNow (.int .i64) (.int .i64 k) es 0=some (some (eO ys k,.agg arr))/\arr.size=t.size/\aL who w t x (λj=>arr[j]?) 0:=by
 have hf:=qe0 k h.1 (λi hi=>let ⟨arr,h1,_⟩:=h.2 i hi;⟨_,h1,rfl⟩) 0
 cases hg:aZ ys k with
 |none=>left;rw[hg]at hf;exact⟨rfl,hf⟩
 |some x=>
  right;obtain⟨hl,hx⟩:=RG hg;obtain⟨arr,h1,h2,h3⟩:=h.2 _ hl;rw[hx]at h1 h3;rw[hg]at hf;simp only[h1,sm,zG]at hf;exact⟨x,arr,rfl,h1,hf,h2,h3⟩
def RJ {arr:Array Value} (h:arr.toList=Qm t):arr.size=t.size/\aL who w t t.zero (λj=>arr[j]?) 0:=by
 refine⟨by rw[<-Array.length_toList,h,Ql],JX t _ 0 λj hj=> ?_⟩
 have:arr[0+j]? =arr.toList[j]? :=by simp
 rw[this,h,List.getElem?_eq_getElem hj]
def Wj {β:aP} {arr:Array Value} {x:aM t} (h:arr.size=t.size) (hr:aL who w t x (λj=>arr[j]?) 0):bp β who w (tB t x) (.agg arr):=by
 obtain⟨hl,hu⟩:=J0 (β:=β) hr;refine⟨arr,rfl,by simp[hl,h],λj hj=> ?_⟩
 have hj':j<(bf t x).length:=by simpa using hj
 obtain⟨v,h1,h2⟩:=hu j hj';rw[nw];simp only[zG]at h1;rw[Array.getD_eq_getD_getElem?,h1];exact h2
def q8z {x:aM t}:ab (tB t x)=[]/\Vs.occ (tB t x)=[]:=
 ⟨Q7 λc hc=>(J1 hc).1,Q7 λc hc=>(J1 hc).2.1⟩
def qjy {m e:TypeId} (hm:se P m e t) {v:Value} {ys:List (Int×aM t)}
 (hv:(v= .map none/\ys=[])\/ ∃b es c,v= .map (some b)/\w.heap[b]? =some (.map es c)/\gh who w t ys es.toList) (k:Int) (ok:Bool):
 ∃arr,(Instr.lookup m v (.int .i64 k) ok).run P w= .ok (if ok then .tuple #[.agg arr,.bool (aZ ys k).isSome]else .agg arr) w/\arr.size=t.size/\aL who w t ((aZ ys k).getD t.zero) (λj=>arr[j]?) 0:=by
 obtain⟨kt,i,za,h1,h2,h3,h4,h5⟩:=hm.ok;have hz:=H6 (P:=P) h3 h4 w;rcases hv with⟨rfl,rfl⟩|⟨b,es,c,rfl,hb,hE⟩
 . obtain⟨z1,z2⟩:=RJ (who:=who) (w:=w) h5;refine⟨za,?_,z1,z2⟩;have hf:Instr.findNow (.int .i64) (.int .i64 k) [] 0=some none:=rfl;simp[Instr.lookup,run_underlying h1,Xg h2,Xx h2 hf,hz,aZ,Result.andThen]
 . rcases hE.find k with⟨g1,g2⟩|⟨x,arr,g1,g2,g3,g4,g5⟩
   . obtain⟨z1,z2⟩:=RJ (who:=who) (w:=w) h5;refine⟨za,?_,z1,by rw[g1];exact z2⟩
     simp[Instr.lookup,run_underlying h1,MapKept.run_getObj_map hb,Xg h2,Xx h2 g2,hz,g1,Result.andThen]
   . refine⟨arr,?_,g4,by rw[g1];exact g5⟩
     simp[Instr.lookup,run_underlying h1,MapKept.run_getObj_map hb,Xg h2,Xx h2 g3,g1,Result.andThen]
def World.putMap (w:World) (b:Nat) (es:Array MapEntry) (c:Nat):World:={w with heap:=w.heap.setIfInBounds b (.map es c)}
def qkz {m e:TypeId} (hm:se P m e t) {ys:List (Int×aM t)} {b:Nat} {es:Array MapEntry} (hb:w.heap[b]? =some (.map es ys.length)) (hE:gh who w t ys es.toList) (k:Int)
 {arr:Array Value} {y:aM t} (ha:arr.size=t.size) (hy:aL who w t y (λj=>arr[j]?) 0):
 ∃es',(Instr.mapUpdate m (.map (some b)) (.int .i64 k) (.agg arr)).run P w= .ok () (World.putMap w b es' (bY ys k y).length)/\gh who w t (bY ys k y) es'.toList:=by
 obtain⟨kt,i,za,h1,h2,h3,h4,h5⟩:=hm.ok;rcases hE.find k with⟨g1,g2⟩|⟨x,arr0,g1,g2,g3,g4,g5⟩
 . refine⟨es.push ⟨.int .i64 k,.agg arr,ys.length⟩,?_,?_⟩
   . have hl:(bY ys k y).length=ys.length+1:=by rw[OL g1];simp
     rw[hl];simp[Instr.mapUpdate,run_underlying h1,MapKept.run_getObj_map hb,Xg h2,Xx h2 g2,MapKept.run_setObj_map _ hb,Result.andThen,World.putMap]
   . rw[OL g1];refine⟨by simp[hE.1],λj hj=> ?_⟩
     by_cases e:j<ys.length
     . obtain⟨a1,q1,q2,q3⟩:=hE.2 j e;refine⟨a1,?_,q2,by rw[tO e];exact q3⟩
       rw[tO e,Nk,List.getElem?_append_left (by rw[hE.1];exact e)]
       exact q1
     . have:j=ys.length:=by simp at hj;omega
       subst this;refine⟨arr,?_,ha,by simpa using hy⟩
       rw[Nk,List.getElem?_append_right (by rw[hE.1];omega),hE.1]
       simp
 . obtain⟨hl,hx⟩:=RG g1;have hgs:es[eO ys k]? =some ⟨.int .i64 k,.agg arr0,eO ys k⟩:=by simpa using g2
   refine⟨es.modify (eO ys k) λe=>{e with key:= .int .i64 k,val:= .agg arr},?_,?_⟩
   . have hl:(bY ys k y).length=ys.length:=by rw[RM g1];simp
     rw[hl];simp[Instr.mapUpdate,run_underlying h1,MapKept.run_getObj_map hb,Xg h2,Xx h2 g3,MapKept.run_setObj_map _ hb,Result.andThen,World.putMap,hgs,Instr.keyThatStays,Instr.sameBits]
   . rw[RM g1];refine⟨by simp[hE.1],λj hj=> ?_⟩
     have hj':j<ys.length:=by simpa using hj
     obtain⟨a1,q1,q2,q3⟩:=hE.2 j hj';by_cases e:eO ys k=j
     . subst e;refine⟨arr,?_,ha,by rw[tr];exact hy⟩
       rw[tr];simp[hgs]
     . refine⟨a1,?_,q2,by rw[tk e];exact q3⟩
       rw[tk e];have:es[j]? =some ⟨.int .i64 ys[j].1,.agg a1,j⟩:=by simpa using q1
       simp[e,this]
def qdt {m e:TypeId} (hm:se P m e t) {ys:List (Int×aM t)} {b:Nat} {es:Array MapEntry} (hb:w.heap[b]? =some (.map es ys.length)) (hE:gh who w t ys es.toList) (k:Int):
 ∃es' arr,(Instr.mapEntry m (.map (some b)) (.int .i64 k)).run P w= .ok (.tuple #[.agg arr,.int .i64 (eO ys k:Nat)]) (World.putMap w b es' (bY ys k ((aZ ys k).getD t.zero)).length)/\
  gh who w t (bY ys k ((aZ ys k).getD t.zero)) es'.toList/\arr.size=t.size/\aL who w t ((aZ ys k).getD t.zero) (λj=>arr[j]?) 0:=by
 obtain⟨kt,i,za,h1,h2,h3,h4,h5⟩:=hm.ok;have hz:=H6 (P:=P) h3 h4 w;obtain⟨z1,z2⟩:=RJ (who:=who) (w:=w) h5;rcases hE.find k with⟨g1,g2⟩|⟨x,arr0,g1,g2,g3,g4,g5⟩
 . refine⟨es.push ⟨.int .i64 k,.agg za,ys.length⟩,za,?_,?_,z1,by rw[g1];exact z2⟩
   . have hl:(bY ys k ((aZ ys k).getD t.zero)).length=ys.length+1:=by rw[OL g1];simp
     rw[hl,qlq g1];simp[Instr.mapEntry,run_underlying h1,MapKept.run_getObj_map hb,Xg h2,Xx h2 g2,MapKept.run_setObj_map _ hb,Result.andThen,World.putMap,hz,goInt]
   . rw[OL g1];refine⟨by simp[hE.1],λj hj=> ?_⟩
     by_cases e:j<ys.length
     . obtain⟨a1,q1,q2,q3⟩:=hE.2 j e;refine⟨a1,?_,q2,by rw[tO e];exact q3⟩
       rw[tO e,Nk,List.getElem?_append_left (by rw[hE.1];exact e)]
       exact q1
     . have:j=ys.length:=by simp at hj;omega
       subst this;refine⟨za,?_,z1,by simpa [g1]using z2⟩
       rw[Nk,List.getElem?_append_right (by rw[hE.1];omega),hE.1]
       simp
 . obtain⟨hl,hx⟩:=RG g1;have hgs:es[eO ys k]? =some ⟨.int .i64 k,.agg arr0,eO ys k⟩:=by simpa using g2
   have hp:bY ys k ((aZ ys k).getD t.zero)=ys:=by
    rw[RM g1,g1];simp only[pP];rw[<-hx];exact Fy hl
   rw[hp];refine⟨es.modify (eO ys k) λe=>{e with key:= .int .i64 k},arr0,?_,?_,g4,by rw[g1];exact g5⟩
   . simp[Instr.mapEntry,run_underlying h1,MapKept.run_getObj_map hb,Xg h2,Xx h2 g3,MapKept.run_setObj_map _ hb,Result.andThen,World.putMap,hgs,Instr.keyThatStays,Instr.sameBits,goInt]
   . refine⟨by simp[hE.1],λj hj=> ?_⟩
     obtain⟨a1,q1,q2,q3⟩:=hE.2 j hj;refine⟨a1,?_,q2,q3⟩;have hj2:es[j]? =some ⟨.int .i64 ys[j].1,.agg a1,j⟩:=by simpa using q1
     by_cases e:eO ys k=j
     . subst e;rw[hx]at hj2⊢;simp[hj2]
     . simp[e,hj2]
def nQ {es:List MapEntry} {n i:Nat} (hb: ∀j,j<es.length-> ∃e,es[j]? =some e/\e.born=n+j) (hi:i<es.length):
 es.findIdx? (λe=>((e.born:Nat):Int)==((n+i:Nat):Int))=some i:=by
 induction es generalizing n i with
 |nil=>simp at hi
 |cons e es ih=>
  obtain⟨e',h1,h2⟩:=hb 0 (by simp)
  simp only[List.getElem?_cons_zero,zM]at h1;subst h1;cases i with
  |zero=>simp[List.findIdx?_cons,h2]
  |succ i=>
   have:=ih (n:=n+1) (i:=i) (λj hj=>by
    obtain⟨e',h1,h2⟩:=hb (j+1) (by simpa using hj)
    exact⟨e',by simpa using h1,O⟩) (by simpa using hi)
   have e1:n+1+i=n+(i+1):=O;rw[e1]at this;rw[List.findIdx?_cons,ao (by simp only[h2,beq_iff_eq];omega),this]
   rfl
def q8t {m e:TypeId} {ys:List (Int×aM t)} {b:Nat} {es:Array MapEntry} (hb:w.heap[b]? =some (.map es ys.length)) (hE:gh who w t ys es.toList) (z:Int) (h0:0<=z) (h1:z<ys.length)
 {arr:Array Value} {y:aM t} (ha:arr.size=t.size) (hy:aL who w t y (λj=>arr[j]?) 0):
 ∃es',(Instr.entryStore m (.map (some b)) (.int .i64 z) (.agg arr)).run P w= .ok () (World.putMap w b es' (xI ys z.toNat y).length)/\gh who w t (xI ys z.toNat y) es'.toList:=by
 obtain⟨i,rfl⟩: ∃i:Nat,z=i:=⟨z.toNat,O⟩;have hi:i<ys.length:=O
 have hf:=nQ (es:=es.toList) (n:=0) (i:=i) (λj hj=>by
  obtain⟨a1,q1,_⟩:=hE.2 j (by rw[<-hE.1];exact hj)
  exact⟨_,q1,by simp⟩) (by rw[hE.1];exact hi)
 simp only[zG]at hf
 have hf':es.findIdx? (λe=>((e.born:Nat):Int)==(i:Int))=some i:=by
  rw[<-hf,<-List.findIdx?_toArray,Array.toArray_toList]
 simp only[tN];rw[ql3 hi];obtain⟨a0,q1,q2,q3⟩:=hE.2 i hi;have hgs:es[i]? =some ⟨.int .i64 ys[i].1,.agg a0,i⟩:=by simpa using q1
 refine⟨es.modify i λe=>{e with val:= .agg arr},?_,?_⟩
 . simp only[zS];simp[Instr.entryStore,MapKept.run_getObj_map hb,MapKept.run_setObj_map _ hb,Result.andThen,World.putMap,asInt,asIntOf,hf']
 . refine⟨by simp[hE.1],λj hj=> ?_⟩
   have hj':j<ys.length:=by simpa using hj
   obtain⟨a1,p1,p2,p3⟩:=hE.2 j hj';by_cases e:i=j
   . subst e;refine⟨arr,?_,ha,by rw[tr];exact hy⟩
     rw[tr];simp[hgs]
   . refine⟨a1,?_,p2,by rw[tk e];exact p3⟩
     rw[tk e];have:es[j]? =some ⟨.int .i64 ys[j].1,.agg a1,j⟩:=by simpa using p1
     simp[e,this]
end
section
variable {P:Program} {CO:Q5} {T:TT} {E:aN} {D:Nat->Prop} {β:aP} {who:bg} {U U':ag} {hd:List (AV×Value)} {a:Act} {w w':World} {R W:List Nat}
def Zm {b b':Nat} {es:Array MapEntry} {c:Nat} (h:b'≠b):(World.putMap w b es c).heap[b']? =w.heap[b']? :=by
 simp[World.putMap,Ne.symm h]
def q79 {b:Nat} {o:Obj} {es:Array MapEntry} {c:Nat} (h:w.heap[b]? =some o):(World.putMap w b es c).heap[b]? =some (.map es c):=by
 have:=NY h;simp[World.putMap,this]
def Zd {b:Nat} {es:Array MapEntry} {c:Nat}:(World.putMap w b es c).heap.size=w.heap.size:=by simp[World.putMap]
def aC.putMap (S:aC E D β who U [] a w) {s n b c:Nat} {v':AV} {o:Obj} {es:Array MapEntry} (hb:w.heap[b]? =some o) (ho:who b=some n) (hn:n∈ab (U.get s))
 (hrel:be β who (World.putMap w b es c) v' (a.tmps.getD s undef)) (hnm:ab v'=ab (U.get s)) (hoc:Vs.occ v'=Vs.occ (U.get s)):aC E D β who (U.set s v') [] a (World.putMap w b es c):=by
 have hDn:D n:=S.occ s n (qj hn);have S1:=(S.takeAll s).drop rfl
 have hdead: ∀x s',x∈ab ((U.set s .dead).get s')->s'≠s/\x∈ab (U.get s'):=λx s' h=>by
  by_cases e:s'=s
  . subst e;rw[qg]at h;simp[ab,qi,qc]at h
  . rw[qf _ _ e]at h;exact⟨e,h⟩
 have S2:=S1.shift (β':=β) (who':=who) (w':=World.putMap w b es c) (X:=[n]) (λh=>by
  simp only[zT,zZ,or_false]at h;exact S.dfn (by rw[h];exact hDn)) (λ_ _=>rfl)
  (λb' x hb' hx=>⟨hb',Zm (by rintro rfl;rw[ho]at hb';injection hb' with e;exact hx (by simp[e]))⟩)
  (fun b' hb'=>⟨hb',Zm (by rintro rfl;rw[ho]at hb';cases hb')⟩) (λb' x h=>⟨x,h⟩) Zd (λs' x hx hs=>by
    obtain⟨g1,g2⟩:=hdead x s' hs;simp only[zT,zZ,or_false]at hx;subst hx;exact absurd (S.dis s' s x g2 hn) g1) (λz hz=>by cases hz) ⟨rfl,rfl⟩
 have S4:=S2.recast (s:=s) (v:=v') (qg ..) hrel (by rw[hnm];exact S.nod s)
  (fun x hx s' hs=>by
    obtain⟨g1,g2⟩:=hdead x s' hs;rw[hnm]at hx;exact g1 (S.dis s' s x g2 hx))
  (λx hx=>S.occ s x (by rw[<-hoc];exact hx))
 refine S4.ext λs'=> ?_
 by_cases e:s'=s
 . subst e;rw[qg,qg]
 . rw[qf _ _ e,qf _ _ e,qf _ _ e]
def qmv {n j:Nat} {av:AV} {t:Ty} {xs:List (Option (List (Int×aM t)))} (h:FY n j av=some ⟨t,xs⟩): ∃m cells,av= .bx (.nm m) cells/\ ∃hj:j<cells.length,cells[j]= .mm n t xs false:=by
 unfold FY at h;split at h
 . rename_i m cells;split at h
   . rename_i m' t' xs' hc;split at h
     . rename_i e;subst e;cases h;obtain⟨hj,e⟩:=List.getElem?_eq_some_iff.1 hc;exact⟨m,cells,rfl,hj,e⟩
     . cases h
   . cases h
 . cases h
def q87 {j i m n:Nat} {t:Ty} {y:Option (List (Int×aM t))} {av bv:AV} (h:fillMm j i m n t y av=some bv):
 ∃mb cells xs,av= .bx (.nm mb) cells/\ ∃hj:j<cells.length,cells[j]= .mm n t xs false/\bv= .bx (.nm mb) (cells.set j (.mm m t (xs.set i y) false)):=by
 unfold fillMm at h;split at h
 . rename_i mb cells;split at h
   . rename_i n' t' xs hc;split at h
     . rename_i e;subst e;split at h
       . rename_i e;subst e;cases h;obtain⟨hj,e⟩:=List.getElem?_eq_some_iff.1 hc;exact⟨mb,cells,xs,rfl,hj,e,rfl⟩
       . cases h
     . cases h
   . cases h
 . cases h
def ZP {m n j k:Nat} {cells:List AV} (hnd:(m::cells.flatMap qc).Nodup) (hj:j<cells.length) (hn:n∈qc cells[j]):n≠m/\ ∀(hk:k<cells.length),k≠j->n∉qc cells[k]:=by
 obtain⟨h1,h2⟩:=jN.1 hnd;refine⟨λe=>h1 (e▸zH.2 ⟨_,zN hj,hn⟩),λhk hkj hx=> ?_⟩
 have hs:cells.set j cells[j]=cells:=Fy hj;rw[<-hs,Xj hj]at h2;obtain⟨q1,q2,q3⟩:=zK.1 h2;obtain⟨p1,p2,p3⟩:=zK.1 q2;rcases zq k j with hl|hl
 . refine q3 n (zH.2 ⟨cells[k],?_,hx⟩) n (zY _ hn) rfl;rw[IK];exact⟨k,by simp;omega,by simp⟩
 . refine p3 n hn n (zH.2 ⟨cells[k],?_,hx⟩) rfl;rw[IK];exact⟨k-(j+1),by simp;omega,by simp;congr 1;omega⟩
def Jr {need:Bool} {x:Operand} {e:Sigma λt:Ty=>List (Int×aM t)} (h:aq CO (HT need x) U e U' R W) (S:aC E D β who U hd a w):
 U'=U/\((need=false/\a.eval x= .map none/\e.2=[])\/ ∃n b es,a.eval x= .map (some b)/\w.heap[b]? =some (.map es e.2.length)/\who b=some n/\gh who w e.1 e.2 es.toList/\
  ∀ys' (es':Array MapEntry) u U2 R2 W2,aq CO (HU x e.1 ys') U u U2 R2 W2->gh who w e.1 ys' es'.toList->hd=[]->aC E D β who U2 [] a (World.putMap w b es' ys'.length)):=by
 unfold HT at h;split at h
 case h_2=>exact(aq.fail' h).elim
 rename_i s;obtain⟨av,U1,_,_,_,_,h1,h2⟩:=aq.bind' h;obtain⟨hav,rfl⟩:=aq.mget' h1
 have himm: ∀{b n:Nat} {es:Array MapEntry} {c:Nat},who b=some n-> ∀b',who b'=none->b'<w.heap.size->who b'=none/\(World.putMap w b es c).heap[b']? =w.heap[b']? :=λho b' hb' _=>
  ⟨hb',Zm (by rintro rfl;rw[ho]at hb';cases hb')⟩
 split at h2
 . rename_i n t ys;obtain⟨rfl,rfl⟩:=aq.pure' h2;refine⟨rfl,.inr ?_⟩;have hr:=S.rel s;rw[<-hav]at hr;obtain⟨ys0,q0,q1,b,es,k1,k2,k3,_,k5⟩:=(hr:dY β who w n t [some ys] true _);simp only[Fv,zM,and_true]at q0;subst q0;refine⟨n,b,es,k1,k2,k3,k5,λys' es' u U2 R2 W2 hs hE' hhd=> ?_⟩
   subst hhd;unfold HU at hs;obtain⟨av2,U3,_,_,_,_,h3,h4⟩:=aq.bind' hs;obtain⟨rfl,rfl⟩:=aq.mget' h3;rw[<-hav]at h4;simp only at h4;have:=aq.mset' h4;subst this;refine S.putMap k2 k3 (by rw[<-hav];simp[ab,qi,qc]) ?_ (by rw[<-hav];rfl) (by rw[<-hav];rfl)
   refine⟨ys',rfl,q1,b,es',k1,q79 k2,k3,trivial,hE'.map λx g j hi=>hi.keep (himm k3) (by rw[Zd];exact zF _)⟩
 . rename_i s' n j i;obtain⟨bv,U2,_,_,_,_,h3,h4⟩:=aq.bind' h2;obtain⟨hbv,rfl⟩:=aq.mget' h3;split at h4
   case h_2=>exact(aq.fail' h4).elim
   rename_i t xs hm;obtain⟨u,U3,_,_,_,_,h5,h6⟩:=aq.bind' h4;obtain⟨rfl,rfl⟩:=aq.pure' h6
   have hσ:U'=U2/\(need=true->(xs.getD i none).isSome=true):=by
    cases need with
    |true=>obtain⟨g,rfl⟩:=aq.mask' h5;exact⟨rfl,λ_=>g⟩
    |false=>obtain⟨_,rfl⟩:=aq.pure' h5;exact⟨rfl,λh=>by cases h⟩
   obtain⟨rfl,hneed⟩:=hσ;refine⟨rfl,?_⟩;rw[hbv]at hm;obtain⟨m,cells,hbx,hj,hcj⟩:=qmv hm;have hr:=S.rel s';rw[hbx]at hr;obtain⟨r0,bb,arr,el,r1,r2,r3,r4⟩:=hr;have hmm:=r4.2 j hj;rw[hcj]at hmm;obtain⟨m1,b1,o1,cap1,arr1,el1,e1,e2,e3,e4,e5,e6,e7⟩:=(hmm:dY β who w n t xs false _);have hlook:=S.rel s;rw[<-hav]at hlook;obtain⟨l1,_,a0,L0,c0,l2,l3⟩:=(hlook:eE (β n) (.mrow j i) _);have hev:a.eval (.tmp s)=bX (β n) (i+1):=l1;have hil:i<xs.length:=by rw[<-m1,e1]at l2;injection l2 with _ q _;omega
   have hxi:xs.getD i none=xs[i]:=by simp[List.getD,List.getElem?_eq_getElem hil]
   obtain⟨f1,f2⟩:=e6 i hil;rw[hxi]at hneed⊢;cases hx:xs[i]with
   |none=>
    left;rw[hx]at f2 hneed;refine⟨?_,by rw[hev];exact f2,rfl⟩
    cases need with
    |true=>have:=hneed rfl;cases this
    |false=>rfl
   |some ys=>
    right;rw[hx]at f2;obtain⟨b,es,k1,k2,k3,k4,k5⟩:=f2;refine⟨n,b,es,by rw[hev];exact k1,k2,k3,k5,λys' es' u U2 R2 W2 hs hE' hhd=> ?_⟩
    subst hhd;unfold HU at hs;obtain⟨av2,U3,_,_,_,_,h3,h4⟩:=aq.bind' hs;obtain⟨rfl,rfl⟩:=aq.mget' h3;rw[<-hav]at h4;simp only at h4;obtain⟨v',hk,rfl⟩:=aq.mupd' h4;obtain⟨mb,cells',xs',hb1,hj',hc',rfl⟩:=q87 hk;rw[hbx]at hb1;cases hb1;rw[hcj]at hc';cases hc';have hnd:=S.nod s';rw[hbx]at hnd;have hnm:n∈qc cells[j]:=by rw[hcj];simp[qc]
    have hap:=λk=>ZP (k:=k) (hnd:(m::cells.flatMap qc).Nodup) hj hnm
    have hheap: ∀b',b'≠b->(World.putMap w b es' ys'.length).heap[b']? =w.heap[b']? :=λb' h=>Zm h
    have hbb:bb≠b:=by rintro rfl;rw[k2]at r2;cases r2
    have hset:cells.set j (.mm n t xs false)=cells:=by rw[<-hcj];exact Fy hj
    refine S.putMap k2 k3 (by rw[hbx];exact mT (zH.2 ⟨_,zN hj,hnm⟩)) ?_ ?_ ?_
    . refine⟨r0,bb,arr,el,r1,by rw[hheap bb hbb];exact r2,r3,by rw[zS];exact r4.1,λk hk=> ?_⟩
      have hk':k<cells.length:=by simpa using hk
      rw[HK];split
      . rename_i ejk;subst ejk
        refine⟨m1,b1,o1,cap1,arr1,el1,by rw[zS];exact e1,by rw[hheap b1 (λe=>k4 e.symm)];exact e2,e3,by rw[zS];exact e4,e5,λi' hi'=> ?_,λp q bi hp hq=>by
         simp only[zS]at hp hq;exact e7 p q bi hp hq⟩
        have hi2:i'<xs.length:=by simpa using hi'
        obtain⟨g1,g2⟩:=e6 i' hi2;refine⟨by rw[Yw (hheap b1 (λe=>k4 e.symm))];exact g1,?_⟩
        by_cases ei:i=i'
        . subst ei;rw[tr];exact⟨b,es',k1,q79 k2,k3,k4,hE'.map λx g j hi=>hi.keep (himm k3) (by rw[Zd];exact zF _)⟩
        . rw[tk ei];cases hxi':xs[i']with
          |none=>rw[hxi']at g2;exact g2
          |some zs=>
           rw[hxi']at g2;obtain⟨b2,es2,p1,p2,p3,p4,p5⟩:=g2;have:b2≠b:=by rintro rfl;exact ei (e7 i i' b2 hil hi2 k1 p1)
           exact⟨b2,es2,p1,by rw[hheap b2 this];exact p2,p3,p4,p5.map λx g j hi=>hi.keep (himm k3) (by rw[Zd];exact zF _)⟩
      . rename_i ejk;refine(r4.2 k hk').keep ⟨λ_ _=>rfl,λx hx b' hb'=>⟨hb',hheap b' ?_⟩,himm k3,by rw[Zd];exact zF _⟩
        rintro rfl
        rw[k3]at hb';injection hb' with hb'
        subst hb';exact(hap k).2 hk' (λe=>ejk e.symm) hx
    . rw[hbx];show m::_=m::_;rw[<-hset,List.set_set,Xj hj,Xj hj];rfl
    . rw[hbx];show m::_=m::_
      have: ∀d:AV,(cells.set j d).flatMap aI=(cells.take j).flatMap aI++(aI d++(cells.drop (j+1)).flatMap aI):=λd=>by
       rw[HE,iP hj];simp
      rw[this];conv=>rhs;rw[<-hset,this]
      rfl
 . exact(aq.fail' h2).elim
end
section
variable {P:Program} {CO:Q5} {T:TT} {E:aN} {D:Nat->Prop} {β:aP} {who:bg} {U U':ag} {hd:List (AV×Value)} {a:Act} {w w':World} {R W:List Nat}
def SQ (hT:bm P T) {m:Nat} {t:Ty} (h:f7 T m t=true): ∃e,se P m e t:=by
 unfold f7 at h;split at h
 . rename_i e t' cells hti;have:t'=t:=by simpa using h
   subst this;obtain⟨kt,i,arr,h1,h2,h3,h4,h5⟩:=(hT m _ hti).desc;exact⟨e,⟨kt,i,arr,h1,h2,h3,h4,h5⟩⟩
 . cases h
def qkf {t:Ty} {cells:List AV} {y:aM t} {c:Value} (h:be β who w (.agg cells) c) (hp:cells.all bC=true) (hk:Yr t cells=some (y,[])):
 ∃arr,c= .agg arr/\arr.size=t.size/\aL who w t y (λj=>arr[j]?) 0:=by
 obtain⟨arr,rfl,h1,h2⟩:=h;have hpl: ∀x∈cells,bC x=true:=zx.1 hp
 have hlen:t.size<=cells.length/\cells.drop t.size=[]->t.size=cells.length:=λ⟨q1,q2⟩=>by
  have:=congrArg List.length q2;simp at this;omega
 obtain⟨g1,g2,g3⟩:=JP (β:=β) (who:=who) (w:=w) (f:=λi=>arr.getD i undef) (g:=λj=>some (arr.getD j undef)) (j:=0) hk (λi hi=>O0 (hpl _ (zN hi)) (h2 i hi)) (λi hi=>by simp)
 have hsz:=hlen ⟨g3,g2.symm⟩;refine⟨arr,rfl,by rw[h1];exact hsz.symm,aL.ext' (λi hi=> ?_) g1⟩
 have:i<arr.size:=O;simp[Array.getD,this]
def qe1 (hT:bm P T) {idx t:Nat} {l c v:AV} {cl cc:Value} (h:aq CO (PV T idx t l c) U v U' R W) (S:aC E D β who U hd a w)
 (hl:be β who w l cl) (hc:be β who w c cc) (hf: ∀k,k<16-> ¬D (ae idx k)):
 ∃r w' β' who',(Instr.makeSlice t cl cc).run P w= .ok r w'/\aC E (Dn D idx) β' who' U' ((v,r)::hd) a w':=by
 unfold PV at h;split at h
 . rename_i e ty cells l c hti;have hl':cl= .int .i64 l:=hl;have hc':cc= .int .i64 c:=hc;subst hl' hc';obtain⟨_,U1,_,_,_,_,h1,h2⟩:=aq.bind' h;obtain⟨⟨m0,m1,m2⟩,rfl⟩:=aq.mask' h1;obtain⟨rfl,rfl⟩:=aq.pure' h2;obtain⟨hu,ei,he,hes,hb,hb0,hz⟩:=(hT t _ hti).desc
   have hbb:(ei.bytes:Int)*c<=4096*1073741824:=by
    have h1:(ei.bytes:Int)<=4096:=O
    calc (ei.bytes:Int)*c<=(ei.bytes:Int)*1073741824:=Int.mul_le_mul_of_nonneg_left m2 O
     _<=4096*1073741824:=Int.mul_le_mul_of_nonneg_right h1 O
   have hrun:=run_make (P:=P) w t e ei _ hu he hz .i64 .i64 l c m0 m1 O O;rw[hes,iw]at hrun
   have hri: ∀i,i<l.toNat->bX (.tuple ((.slice (some ⟨w.heap.size,0,none⟩) l.toNat c.toNat::List.replicate l.toNat (.map none)).toArray)) (i+1)= .map none:=by
    intro i hi;simp[bX,Array.getD,hi]
   obtain⟨β',who',S'⟩:=aC.make (idx:=idx) (v:= .mm (ae idx 15) ty (List.replicate l.toNat none) false) (c:= .slice (some ⟨w.heap.size,0,none⟩) l.toNat c.toNat)
    (c1:= .tuple ((.slice (some ⟨w.heap.size,0,none⟩) l.toNat c.toNat::List.replicate l.toNat (.map none)).toArray))
    (w':=w.alloc (.cells (madeCells (Value.map none).cells c.toNat) e)) S.take_dead hf rfl
    (fun β' who' g1 g2 g3 g4 _=>by
      refine⟨by rw[g2];rfl,w.heap.size,0,c.toNat,madeCells (Value.map none).cells c.toNat,e,by simp,heap_alloc_new w _,by simp[madeCells],by simp;omega,g3,λi hi=> ?_,λi j bi hi _ q=> ?_⟩
      . have hi':i<l.toNat:=by simpa using hi
        rw[g2,hri i hi'];refine⟨?_,by simp only[List.getElem_replicate];rfl⟩
        have hlt:i<c.toNat:=O;have hh:=heap_alloc_new w (Obj.cells (madeCells (Value.map none).cells c.toNat) e);simp only[aD,World.cell?,hh];simp[madeCells,hlt,Value.cells,Nw]
      . have hi':i<l.toNat:=by simpa using hi
        rw[g2,hri i hi']at q;cases q)
    (λn hn=> .inr ⟨15,O,by simpa [ab,qi,qc]using hn⟩) (by simp[ab,qi,qc])
    (λn hn=> .inr ⟨15,O,by simpa [Vs.occ,aX,aI]using hn⟩)
   exact⟨_,_,β',who',hrun,S'⟩
 . exact(aq.fail' h).elim
def qbh (hT:bm P T) {idx t:Nat} {v:AV} (h:aq CO (RO T idx t) U v U' R W) (S:aC E D β who U hd a w) (hf: ∀k,k<16-> ¬D (ae idx k)):
 ∃r w' β' who',(Instr.makeMap t none).run P w= .ok r w'/\aC E (Dn D idx) β' who' U' ((v,r)::hd) a w':=by
 unfold RO at h;split at h
 . rename_i e ty cells hti;obtain⟨rfl,rfl⟩:=aq.pure' h
   obtain⟨β',who',S'⟩:=aC.make (idx:=idx) (v:= .mm (ae idx 15) ty [some []] true) (c:= .map (some w.heap.size)) (c1:= .map (some w.heap.size)) (w':=w.alloc (.map #[] 0)) S.take_dead hf rfl
    (λβ' who' g1 g2 g3 g4 _=>⟨[],rfl,g2.symm,w.heap.size,#[],rfl,heap_alloc_new w _,g3,trivial,rfl,λi hi=>absurd hi (zA _)⟩)
    (λn hn=> .inr ⟨15,O,by simpa [ab,qi,qc]using hn⟩) (by simp[ab,qi,qc])
    (λn hn=> .inr ⟨15,O,by simpa [Vs.occ,aX,aI]using hn⟩)
   exact⟨_,_,β',who',rfl,S'⟩
 . exact(aq.fail' h).elim
def aC.fillMm {idx s n k i j m:Nat} {t:Ty} {cells:List AV} {xs:List (Option (List (Int×aM t)))} {ys:List (Int×aM t)} {cv:Value} (S:aC E D β who U [(.mm k t [some ys] true,cv)] a w)
 (hav:U.get s= .bx (.nm m) cells) (hj:j<cells.length) (hcj:cells[j]= .mm n t xs false) (hi:i<xs.length) (hf: ∀k,k<16-> ¬D (ae idx k)):
 ∃b o L cap arr el,bX (β n) 0= .slice (some ⟨b,o,none⟩) L cap/\w.heap[b]? =some (.cells arr el (0,0))/\o+i+1<=arr.size/\who b=some n/\
 ∃β' who',aC E (Dn D idx) β' who' (U.set s (.bx (.nm m) (cells.set j (.mm (ae idx 15) t (xs.set i (some ys)) false)))) [] a (w.setRow b (qm arr (o+i) [cv])):=by
 classical
 have hr:=S.rel s;rw[hav]at hr;obtain⟨r0,bb,arr0,el0,r1,r2,r3,r4⟩:=hr;have hmm:=r4.2 j hj;rw[hcj]at hmm;obtain⟨h1,b,o,cap,arr,el,e1,e2,e3,e4,e5,e6,e7⟩:=(hmm:dY β who w n t xs false _);have hnm:n∈qc cells[j]:=by rw[hcj];simp[qc]
 have hnd:=S.nod s;rw[hav]at hnd;have hnd':(m::cells.flatMap qc).Nodup:=hnd;have hap:=λk=>ZP (k:=k) hnd' hj hnm
 have hns:n∈ab (U.get s):=by rw[hav];exact mT (zH.2 ⟨_,zN hj,hnm⟩)
 have hms:m∈ab (U.get s):=by rw[hav];exact mS
 have hmD: ¬D (ae idx 15):=hf 15 O;have hDn:D n:=S.occ s n (qj hns);have hDm:D m:=S.occ s m (qj hms);have hDk:D k:=S.hocc _ mS k (by simp[Vs.occ,aX,aI])
 have hk0: ∀s',k∉ab (U.get s'):=λs'=>S.hdis _ mS k (by simp[ab,qi,qc]) s'
 have hkn:k≠n:=by rintro rfl;exact hk0 s hns
 have hkm:k≠m:=by rintro rfl;exact hk0 s hms
 have hvR:dY β who w k t [some ys] true cv:=S.hrel _ mS;obtain⟨ys0,q0,q1,bk,esk,k1,k2,k3,_,k5⟩:=hvR;simp only[Fv,zM,and_true]at q0;subst q0;refine⟨b,o,xs.length,cap,arr,el,by rw[<-h1];exact e1,e2,O,e5,?_⟩
 let base:Value:= .tuple ((bX (β n) 0::(List.range xs.length).map λj=>if j=i then cv else bX (β n) (j+1)).toArray)
 have hb0:bX base 0=bX (β n) 0:=rfl
 have hbj: ∀j,j<xs.length->bX base (j+1)=if j=i then cv else bX (β n) (j+1):=by
  intro j hj;simp[base,bX,Array.getD,hj]
 let β':aP:=λx=>if x=ae idx 15 then base else β x
 let who':bg:=λb'=>if who b'=some n\/who b'=some k then some (ae idx 15)else who b'
 obtain⟨w',hw'⟩: ∃w',w'=w.setRow b (qm arr (o+i) [cv]):=⟨_,rfl⟩;rw[<-hw'];have hfit:o+i+[cv].length<=arr.size:=by simp;omega
 have hheapb:w'.heap[b]? =some (.cells (qm arr (o+i) [cv]) el (0,0)):=by rw[hw'];exact setRow_heap w b arr _ el _ e2
 have hoth: ∀b',b'≠b->w'.heap[b']? =w.heap[b']? :=λb' hb=>by rw[hw'];exact setRow_other w b b' _ hb
 have hβ: ∀x,D x->β' x=β x:=λx hx=>by grind
 have hβm:β' (ae idx 15)=base:=by simp[β']
 have hnone: ∀b',who b'=none->who' b'=none/\w'.heap[b']? =w.heap[b']? :=λb' hb=>by
  grind
 have hsz:w'.heap.size=w.heap.size:=by rw[hw'];simp
 have hI: ∀(x:aM t) g j,aL who w t x g j->aL who' w' t x g j:=λx g j hi=>hi.keep (λb' hb _=>hnone b' hb) O
 have hwn: ∀b',who b'=some n->who' b'=some (ae idx 15):=λb' hb=>by grind
 have hwk: ∀b',who b'=some k->who' b'=some (ae idx 15):=λb' hb=>by grind
 have hwo: ∀b' x,who b'=some x->x≠n->x≠k->who' b'=some x:=λb' x hb h1 h2=>by grind
 have hcell: ∀j,aD w' b o j=if j=i then some cv else aD w b o j:=by
  intro j;have c1:w'.cell? ⟨b,o+j,none⟩=(qm arr (o+i) [cv])[o+j]? :=by simp[World.cell?,hheapb]
  have c2:w.cell? ⟨b,o+j,none⟩=arr[o+j]? :=by simp[World.cell?,e2]
  simp only[aD,c1,c2];rw[Qh hfit];by_cases e:j=i
  . subst e;simp
  . grind
 have hbk:bk≠b:=by rintro rfl;rw[k2]at e2;cases e2
 have hnew:dY β' who' w' (ae idx 15) t (xs.set i (some ys)) false (arr0.getD j undef):=by
  refine⟨by rw[hβm,hb0];exact h1,b,o,cap,qm arr (o+i) [cv],el,by rw[zS];exact e1,hheapb,by rw[Qg hfit];exact e3,by rw[zS];exact e4,hwn b e5,λj' hj'=> ?_,λp q bi hp hq hp1 hq1=> ?_⟩
  . have hj2:j'<xs.length:=by simpa using hj'
    rw[hβm,hbj j' hj2,hcell];by_cases e:j'=i
    . subst e;rw[iP rfl,iP rfl];refine⟨rfl,?_⟩;rw[tr];exact⟨bk,esk,k1,by rw[hoth bk hbk];exact k2,hwk bk k3,hbk,k5.map hI⟩
    . rw[ao e,ao e,tk (λh=>e h.symm)]
      obtain⟨g1,g2⟩:=e6 j' hj2;refine⟨g1,?_⟩;cases hx:xs[j']with
      |none=>rw[hx]at g2;exact g2
      |some zs=>
       rw[hx]at g2;obtain⟨b2,es2,p1,p2,p3,p4,p5⟩:=g2;exact⟨b2,es2,p1,by rw[hoth b2 p4];exact p2,hwn b2 p3,p4,p5.map hI⟩
  . have hp2:p<xs.length:=by simpa using hp
    have hq2:q<xs.length:=by simpa using hq
    rw[hβm,hbj p hp2]at hp1;rw[hβm,hbj q hq2]at hq1
    have hblk: ∀j',j'<xs.length->bX (β n) (j'+1)= .map (some bi)->who bi=some n:=λj' hj' e=>by
     obtain⟨_,g2⟩:=e6 j' hj';cases hx:xs[j']with
     |none=>rw[hx]at g2;have g2:bX (β n) (j'+1)= .map none:=g2;rw[g2]at e;cases e
     |some zs=>
      rw[hx]at g2;obtain⟨b2,es2,p1,p2,p3,_⟩:=g2;rw[p1]at e;cases e;exact p3
    have hcv:cv= .map (some bi)->who bi=some k:=λe=>by rw[k1]at e;cases e;exact k3
    by_cases ep:p=i<;>by_cases eq:q=i
    . rw[ep,eq]
    . rw[iP ep]at hp1;rw[ao eq]at hq1;have:=hblk q hq2 hq1;rw[hcv hp1]at this;injection this with this;exact absurd this hkn
    . rw[ao ep]at hp1;rw[iP eq]at hq1;have:=hblk p hp2 hp1;rw[hcv hq1]at this;injection this with this;exact absurd this hkn
    . rw[ao ep]at hp1;rw[ao eq]at hq1;exact e7 p q bi hp2 hq2 hp1 hq1
 have hDfr: ∀x,x∈(cells.set j .dead).flatMap qc->x∈ab (U.get s)/\x≠n:=λx hx=>by
  rw[X9 hj]at hx;have hs:cells.set j cells[j]=cells:=Fy hj;have hsub:x∈cells.flatMap qc:=by rw[<-hs,Xj hj];grind
  refine⟨by rw[hav];exact mT hsub,?_⟩
  rintro rfl
  have h2:=(jN.1 hnd').2;rw[<-hs,Xj hj,hcj]at h2;obtain⟨q1,q2,q3⟩:=zK.1 h2;obtain⟨p1,p2,p3⟩:=zK.1 q2;rcases zQ.1 hx with hx|hx
  . exact q3 x hx x (by simp[qc]) rfl
  . exact p3 x (by simp[qc]) x hx rfl
 have hbb:bb≠b:=by
  rintro rfl
  rw[e5]at r3;injection r3 with r3
  exact(hap 0).1 r3
 have S0:=S.drop rfl;have S1:=(S0.takeAll s).drop rfl
 have hdead: ∀x s',x∈ab ((U.set s .dead).get s')->s'≠s/\x∈ab (U.get s'):=λx s' h=>by
  by_cases e:s'=s
  . subst e;rw[qg]at h;simp[ab,qi,qc]at h
  . rw[qf _ _ e]at h;exact⟨e,h⟩
 have S2:=S1.shift (β':=β') (who':=who') (w':=w') (X:=[n,k]) (λh=>by
  simp only[zT,zZ,or_false]at h;rcases h with h|h
  . exact S.dfn (by rw[h];exact hDn)
  . exact S.dfn (by rw[h];exact hDk)) hβ
  (fun b' x hb hx=>by
    simp only[zT,zZ,or_false,not_or]at hx;exact⟨hwo b' x hb hx.1 hx.2,hoth b' (by rintro rfl;rw[e5]at hb;injection hb with hb;exact hx.1 hb.symm)⟩)
  hnone (λb' x h=>by
   grind) hsz (λs' x hx hs=>by
   obtain⟨g1,g2⟩:=hdead x s' hs;simp only[zT,zZ,or_false]at hx;rcases hx with rfl|rfl
   . exact absurd (S.dis s' s x g2 hns) g1
   . exact absurd g2 (hk0 s')) (λz hz=>by cases hz) (by simp_all)
 have S3:=S2.mono (D':=Dn D idx) (λn h=> .inl h) (dh S2.dfn)
 have S4:=S3.recast (s:=s) (v:= .bx (.nm m) (cells.set j (.mm (ae idx 15) t (xs.set i (some ys)) false))) (qg ..) (by
  refine⟨by rw[hβ m hDm];exact r0,bb,arr0,el0,r1,by rw[hoth bb hbb];exact r2,hwo bb m r3 (λe=>(hap 0).1 e.symm) hkm.symm,by rw[zS];exact r4.1,λp hp=> ?_⟩
  have hp':p<cells.length:=by simpa using hp
  rw[HK];split
  . rename_i e;subst e;exact hnew
  . rename_i e;refine(r4.2 p hp').keep ⟨λx hx=>hβ x (S.occ s x ?_),λx hx b' hb'=> ?_,λb' hb' _=>hnone b' hb',O⟩
    . rw[hav];exact mT (zH.2 ⟨_,zN hp',hx⟩)
    . have hxn:x≠n:=by rintro rfl;exact(hap p).2 hp' (λh=>e h.symm) hx
      have hxk:x≠k:=by
       rintro rfl
       refine hk0 s ?_;rw[hav];exact mT (zH.2 ⟨_,zN hp',hx⟩)
      exact⟨hwo b' x hb' hxn hxk,hoth b' (by rintro rfl;rw[e5]at hb';injection hb' with hb';exact hxn hb'.symm)⟩)
  (by
    show(m::(cells.set j _).flatMap qc).Nodup
    have hfr:ae idx 15∉m::(cells.set j .dead).flatMap qc:=by
     intro hx;rcases mC hx with hx|hx
     . exact hmD (hx▸hDm)
     . exact hmD (S.occ s _ (qj (hDfr _ hx).1))
    obtain⟨p1,p2⟩:=jN.1 hnd';have hs:cells.set j cells[j]=cells:=Fy hj;rw[<-hs,Xj hj]at p1 p2;rw[X9 hj]at hfr;rw[Xj hj];simp only[zT,zQ,not_or]at p1 hfr;obtain⟨q1,q2,q3⟩:=zK.1 p2;obtain⟨z1,z2,z3⟩:=zK.1 q2;simp only[qc,qX,n5];refine jN.2 ⟨?_,zK.2 ⟨q1,jN.2 ⟨hfr.2.2,z2⟩,λx hx y hy=> ?_⟩⟩
    . simp only[zQ,zT,not_or];exact⟨p1.1,λe=>hfr.1 e.symm,p1.2.2⟩
    . rcases mC hy with rfl|hy
      . rintro rfl;exact hfr.2.1 hx
      . exact q3 x hx y (n6 _ hy))
  (fun x hx s' hs=>by
    obtain⟨g1,g2⟩:=hdead x s' hs;have hx:x∈m::(cells.set j (.mm (ae idx 15) t (xs.set i (some ys)) false)).flatMap qc:=hx;rcases mC hx with rfl|hx
    . exact g1 (S.dis s' s x g2 hms)
    . rcases rA hj hx with hx|hx
      . simp only[qc,zC]at hx;subst hx;exact hmD (S.occ s' _ (qj g2))
      . exact g1 (S.dis s' s x g2 (hDfr x hx).1))
  (fun x hx=>by
    have hx:x∈m::(cells.set j (.mm (ae idx 15) t (xs.set i (some ys)) false)).flatMap aI:=hx;rcases mC hx with rfl|hx
    . exact .inl hDm
    . rcases Vz hj hx with hx|hx
      . simp only[aI,zC]at hx;subst hx;exact .inr ⟨15,O,rfl⟩
      . refine .inl (S.occ s x ?_);rw[hav];obtain⟨c,hc,hx⟩:=zH.1 hx;rcases List.mem_or_eq_of_mem_set hc with hc|rfl
        . exact mT (zH.2 ⟨c,hc,hx⟩)
        . cases hx)
 refine⟨β',who',S4.ext λs'=> ?_⟩
 by_cases e:s'=s
 . subst e;rw[qg,qg]
 . rw[qf _ _ e,qf _ _ e,qf _ _ e]
end
section
variable {P:Program} {CO:Q5} {T:TT} {E:aN} {D:Nat->Prop} {β:aP} {who:bg} {U U':ag} {hd:List (AV×Value)} {a:Act} {w w':World} {R W:List Nat}
def Va {x:Operand} {v:AV} {cells:List AV} {t:Ty} {y:aM t} (h1:aq CO (rdF x) U v U' R W) (S:aC E D β who U [] a w) (hv:v= .agg cells) (hp:cells.all bC=true) (hk:Yr t cells=some (y,[])):
 ∃who',aC E D β who' U' [] a w/\ ∃arr,a.eval x= .agg arr/\arr.size=t.size/\aL who' w t y (λj=>arr[j]?) 0:=by
 obtain⟨_,_,who',S1⟩:=aq.rdF h1 S;subst hv;exact⟨who',S1.drop rfl,qkf (S1.hrel _ mS) hp hk⟩
def q52 (hT:bm P T) {idx ty:Nat} {m k x:Operand} {v:AV} (h:aq CO (OD T ty m k x) U v U' R W) (S:aC E D β who U [] a w):
 v= .dead/\ ∃w' who',(Instr.mapUpdate ty (a.eval m) (a.eval k) (a.eval x)).run P w= .ok () w'/\aC E D β who' U' [] a w':=by
 unfold OD at h;obtain⟨u,U1,_,_,_,_,h1,h2⟩:=aq.bind' h;obtain⟨kv,U2,_,_,_,_,h3,h4⟩:=aq.bind' h2;obtain⟨e,U3,_,_,_,_,h5,h6⟩:=aq.bind' h4;split at h6
 case h_2=>exact(aq.fail' h6).elim
 rename_i kz cells;split at h6
 case isFalse=>exact(aq.fail' h6).elim
 rename_i hc;obtain⟨hme,hp⟩:=hc;split at h6
 case h_2=>exact(aq.fail' h6).elim
 rename_i y hpk;obtain⟨u2,U4,_,_,_,_,h7,h8⟩:=aq.bind' h6;obtain⟨rfl,rfl⟩:=aq.pure' h8;obtain⟨a9,S1,arr,ea,ha,hy⟩:=Va h1 S rfl hp hpk;obtain⟨rfl,S2⟩:=aq.rd h3 S1;have ek:a.eval k= .int .i64 kz:=S2.hrel _ mS;obtain⟨rfl,hm⟩:=Jr h5 S1;obtain⟨el,hmt⟩:=SQ hT hme;rcases hm with⟨hn,_⟩|⟨n,b,es,em,hb,ho,hE,hset⟩
 . cases hn
 . obtain⟨es',hr,hE'⟩:=qkz hmt hb hE kz ha hy;exact⟨rfl,_,a9,by rw[em,ek,ea];exact hr,hset _ es' _ _ _ _ h7 hE' rfl⟩
def qkv (hT:bm P T) {idx ty:Nat} {x k:Operand} {ok:Bool} {v:AV} (h:aq CO (P9 T ty x k ok) U v U' R W) (S:aC E D β who U [] a w):
 ∃r,(Instr.lookup ty (a.eval x) (a.eval k) ok).run P w= .ok r w/\aC E D β who U' [(v,r)] a w:=by
 unfold P9 at h;obtain⟨e,U3,_,_,_,_,h5,h6⟩:=aq.bind' h;obtain⟨kv,U2,_,_,_,_,h3,h4⟩:=aq.bind' h6;split at h4
 case h_2=>exact(aq.fail' h4).elim
 rename_i kz;split at h4
 case isFalse=>exact(aq.fail' h4).elim
 rename_i hme;obtain⟨rfl,hm⟩:=Jr h5 S;obtain⟨rfl,S2⟩:=aq.rd h3 S;have ek:a.eval k= .int .i64 kz:=S2.hrel _ mS;obtain⟨el,hmt⟩:=SQ hT hme
 have hv:(a.eval x= .map none/\e.2=[])\/ ∃b es c,a.eval x= .map (some b)/\w.heap[b]? =some (.map es c)/\gh who w e.1 e.2 es.toList:=by
  rcases hm with⟨_,q1,q2⟩|⟨n,b,es,em,hb,ho,hE,hset⟩
  . exact .inl ⟨q1,q2⟩
  . exact .inr ⟨b,es,_,em,hb,hE⟩
 obtain⟨arr,hr,hs,hi⟩:=qjy hmt hv kz ok;have hel:=Wj (β:=β) hs hi;obtain⟨n1,n2⟩:=q8z (t:=e.1) (x:=(aZ e.2 kz).getD e.1.zero);rw[ek];cases ok with
 |true=>
  obtain⟨rfl,rfl⟩:=aq.pure' h4;refine⟨_,hr,S.take0 ?_ ?_ ?_⟩
  . exact⟨_,rfl,rfl,λj hj=>by
     match j,hj with
     |0,_=>exact hel
     |1,_=>exact(rfl:(_:Value)=_)⟩
  . show List.flatMap qi [_,_]=[]
    simp only[fC,tw,jg];rw[show qi (tB e.1 ((aZ e.2 kz).getD e.1.zero))=[]from n1];rfl
  . intro n hn;have hn:n∈List.flatMap aX [tB e.1 ((aZ e.2 kz).getD e.1.zero),.bool (aZ e.2 kz).isSome]:=hn;simp only[fC,tw,jg]at hn;rw[show aX (tB e.1 ((aZ e.2 kz).getD e.1.zero))=[]from n2]at hn
    cases hn
 |false=>
  obtain⟨rfl,rfl⟩:=aq.pure' h4;exact⟨_,hr,S.take0 hel n1 (λn hn=>by rw[n2]at hn;cases hn)⟩
def qhm (hT:bm P T) {idx ty:Nat} {m k:Operand} {v:AV} (h:aq CO (QY T ty m k) U v U' R W) (S:aC E D β who U [] a w):
 ∃r w',(Instr.mapEntry ty (a.eval m) (a.eval k)).run P w= .ok r w'/\aC E D β who U' [(v,r)] a w':=by
 unfold QY at h;obtain⟨e,U3,_,_,_,_,h5,h6⟩:=aq.bind' h;obtain⟨kv,U2,_,_,_,_,h3,h4⟩:=aq.bind' h6;split at h4
 case h_2=>exact(aq.fail' h4).elim
 rename_i kz;split at h4
 case isFalse=>exact(aq.fail' h4).elim
 rename_i hme;obtain⟨u2,U4,_,_,_,_,h7,h8⟩:=aq.bind' h4;obtain⟨rfl,rfl⟩:=aq.pure' h8;obtain⟨rfl,hm⟩:=Jr h5 S;obtain⟨rfl,S2⟩:=aq.rd h3 S;have ek:a.eval k= .int .i64 kz:=S2.hrel _ mS;obtain⟨el,hmt⟩:=SQ hT hme;rcases hm with⟨hn,_⟩|⟨n,b,es,em,hb,ho,hE,hset⟩
 . cases hn
 . obtain⟨es',arr,hr,hE',hs,hi⟩:=qdt hmt hb hE kz;have S3:=hset _ es' _ _ _ _ h7 hE' rfl
   have hel:=Wj (β:=β) hs (hi.keep (who':=who) (w':=World.putMap w b es' (bY e.2 kz ((aZ e.2 kz).getD e.1.zero)).length)
    (λb' hb' _=>⟨hb',Zm (by rintro rfl;rw[ho]at hb';cases hb')⟩) (by rw[Zd];exact zF _))
   obtain⟨n1,n2⟩:=q8z (t:=e.1) (x:=(aZ e.2 kz).getD e.1.zero);refine⟨_,_,by rw[em,ek];exact hr,S3.take0 ?_ ?_ ?_⟩
   . exact⟨_,rfl,rfl,λj hj=>by
      match j,hj with
      |0,_=>exact hel
      |1,_=>exact(rfl:(_:Value)=_)⟩
   . show List.flatMap qi [_,_]=[]
     simp only[fC,tw,jg];rw[show qi (tB e.1 ((aZ e.2 kz).getD e.1.zero))=[]from n1];rfl
   . intro n hn;have hn:n∈List.flatMap aX [tB e.1 ((aZ e.2 kz).getD e.1.zero),.int .i64 (eO e.2 kz:Nat)]:=hn;simp only[fC,tw,jg]at hn;rw[show aX (tB e.1 ((aZ e.2 kz).getD e.1.zero))=[]from n2]at hn
     cases hn
def q8w (hT:bm P T) {idx ty:Nat} {m z x:Operand} {v:AV} (h:aq CO (Si T ty m z x) U v U' R W) (S:aC E D β who U [] a w):
 v= .dead/\ ∃w' who',(Instr.entryStore ty (a.eval m) (a.eval z) (a.eval x)).run P w= .ok () w'/\aC E D β who' U' [] a w':=by
 unfold Si at h;obtain⟨u,U1,_,_,_,_,h1,h2⟩:=aq.bind' h;obtain⟨kv,U2,_,_,_,_,h3,h4⟩:=aq.bind' h2;obtain⟨e,U3,_,_,_,_,h5,h6⟩:=aq.bind' h4;split at h6
 case h_2=>exact(aq.fail' h6).elim
 rename_i kz cells;split at h6
 case isFalse=>exact(aq.fail' h6).elim
 rename_i hc;obtain⟨hme,hp⟩:=hc;split at h6
 case h_2=>exact(aq.fail' h6).elim
 rename_i y hpk;obtain⟨u0,U5,_,_,_,_,h9,h10⟩:=aq.bind' h6;obtain⟨⟨z0,z1⟩,rfl⟩:=aq.mask' h9;obtain⟨u2,U4,_,_,_,_,h7,h8⟩:=aq.bind' h10;obtain⟨rfl,rfl⟩:=aq.pure' h8;obtain⟨a9,S1,arr,ea,ha,hy⟩:=Va h1 S rfl hp hpk;obtain⟨rfl,S2⟩:=aq.rd h3 S1;have ek:a.eval z= .int .i64 kz:=S2.hrel _ mS;obtain⟨rfl,hm⟩:=Jr h5 S1;rcases hm with⟨hn,_⟩|⟨n,b,es,em,hb,ho,hE,hset⟩
 . cases hn
 . obtain⟨es',hr,hE'⟩:=q8t (P:=P) (m:=ty) (e:=0) hb hE kz z0 z1 ha hy;exact⟨rfl,_,a9,by rw[em,ek,ea];exact hr,hset _ es' _ _ _ _ h7 hE' rfl⟩
def qo8 {s j m:Nat} {s0 n0 z0 i0 j0 l s1:Nat} {av:AV} (h1:cr s 1 av=some (.ptr s0 n0 z0 i0 j0)) (h2:cr s (j+2) av=some (.dr s1 m (.mlen l))):
 ∃mb cells t xs,av= .bx (.nm mb) cells/\ ∃hj:j<cells.length,cells[j]= .mm m t xs false/\l=xs.length:=by
 simp only[cr]at h1 h2;split at h2
 case isFalse=>cases h2
 unfold df at h2;split at h2
 . rename_i mb cells;cases hc:cells[j]? with
   |none=>rw[hc]at h2;cases h2
   |some c=>
    rw[hc]at h2;obtain⟨hj,e⟩:=List.getElem?_eq_some_iff.1 hc;simp only[sm,zM]at h2;cases c with
    |mm n t xs o=>
     cases o with
     |false=>simp only[Qv,AV.dr.injEq,DK.mlen.injEq]at h2;obtain⟨_,rfl,rfl⟩:=h2;exact⟨mb,cells,t,xs,rfl,hj,e,rfl⟩
     |true=>cases h2
    |dr s n k=>cases k<;>cases h2
    |sl o t xs=>cases o<;>cases h2
    |_=>cases h2
 . cases h1
 . cases h1
 . cases h2
def qf2 (hT:bm P T) {j t:Nat} {p v:AV} {c:Value} (h:aq CO (PN T j t p) U v U' R W) (S:aC E D β who U [] a w) (hp:be β who w p c) (ho: ∀n∈Vs.occ p,D n):
 ∃r,(Instr.loadAt t c).run P w= .ok r w/\aC E D β who U' [(v,r)] a w:=by
 unfold PN at h;split at h
 case h_2=>exact(aq.fail' h).elim
 rename_i e ty c0 s n i hti';have hti:=hT t _ hti';obtain⟨b1,U1,_,_,_,_,h1,h2⟩:=aq.bind' h;obtain⟨hb1,rfl⟩:=aq.mview' h1;obtain⟨c1,U2,_,_,_,_,h3,h4⟩:=aq.bind' h2;obtain⟨hc1,rfl⟩:=aq.mview' h3;split at h4
 case h_2=>exact(aq.fail' h4).elim
 rename_i s0 n0 z0 i0 j0 s1 m l;split at h4
 case isFalse=>exact(aq.fail' h4).elim
 rename_i hmn;subst hmn;obtain⟨rfl,rfl⟩:=aq.pure' h4;obtain⟨mb,cells,t',xs,hbx,hj,hcj,rfl⟩:=qo8 hb1.symm hc1.symm;obtain⟨b,o,L,cap,hb,hi,rfl⟩:=(hp:eE (β m) (.mcell i) c);have hr:=S.rel s;rw[hbx]at hr;obtain⟨r0,bb,arr,el,r1,r2,r3,r4⟩:=hr;have hmm:=r4.2 j hj;rw[hcj]at hmm;obtain⟨m1,b1,o1,cap1,arr1,el1,e1,e2,e3,e4,e5,e6,e7⟩:=(hmm:dY β who w m t' xs false _);rw[<-m1,e1]at hb;injection hb with q1 q2 q3
 injection q1 with q1;injection q1 with q1 q1' _
 subst q1 q1' q2;obtain⟨f1,f2⟩:=e6 i hi
 have hrun:=Xh hti (b:=b1) (o:=o1+i) (f:=λ_=>bX (β m) (i+1)) w (λk hk=>by
  have hk0:k=0:=by simp at hk;exact hk
  subst hk0;exact f1) (λ_=>rfl)
 refine⟨bX (β m) (i+1),by simpa [Q8]using hrun,S.take0 (v:= .dr s m (.mrow j i)) ⟨rfl,?_,_,_,_,by rw[<-m1,e1],hi⟩ rfl (λx hx=>ho x hx)⟩
 cases hx:xs[i]with
 |none=>rw[hx]at f2;exact⟨none,f2⟩
 |some ys=>rw[hx]at f2;obtain⟨b,es,k1,_⟩:=f2;exact⟨some b,k1⟩
def qbk (hT:bm P T) {idx j t:Nat} {p v:AV} {cp cv:Value} {u:Unit} (h:aq CO (QI T idx j t p v) U u U' R W) (S:aC E D β who U [(v,cv)] a w)
 (hp:be β who w p cp) (hf: ∀k,k<16-> ¬D (ae idx k)):
 ∃w' β' who',(Instr.storeAt t cp cv).run P w= .ok () w'/\aC E (Dn D idx) β' who' U' [] a w':=by
 unfold QI at h;split at h
 case h_2=>exact(aq.fail' h).elim
 rename_i e ty c0 s n i k t' ys hti';have hti:=hT t _ hti';obtain⟨v',hk,rfl⟩:=aq.mupd' h;obtain⟨mb,cells,xs,hbx,hj,hcj,rfl⟩:=q87 hk;obtain⟨b,o,L,cap,hb,hi,rfl⟩:=(hp:eE (β n) (.mcell i) cp);have hr:=S.rel s;rw[hbx]at hr;obtain⟨r0,bb,arr,el,r1,r2,r3,r4⟩:=hr;have hmm:=r4.2 j hj;rw[hcj]at hmm;obtain⟨m1,b1,o1,cap1,arr1,el1,e1,_⟩:=(hmm:dY β who w n t' xs false _);have hil:i<xs.length:=by rw[<-m1,e1]at hb;injection hb with _ q _;omega
 obtain⟨b',o',L',cap',arr',el',g1,g2,g3,g4,β',who',S'⟩:=S.fillMm (idx:=idx) hbx hj hcj hil hf;rw[hb]at g1;injection g1 with g1 _ _;injection g1 with g1;injection g1 with g1 g1' _
 subst g1 g1';have hone:cv.oneCell'=true:=Zj (β:=β) (who:=who) (w:=w) (c:= .mm k t' [some ys] true) (S.hrel _ mS) (by simp)
 have hc1:cv.cells.toList=[cv]:=by rw[Xb hone]
 have hsz1:cv.cells.size=1:=by rw[Xb hone];rfl
 have hrun:=Xu hti (c:=cv) (o:=o+i) g2 (by rw[hsz1];rfl) (by rw[hsz1];exact g3) (by grind)
 rw[hc1]at hrun;exact⟨_,β',who',hrun,S'⟩
def qko (hT:bm P T) {idx j:Nat} {o:Oper} {v:AV} (h:aq CO (FW T idx j o) U v U' R W) (S:aC E D β who U [] a w) (hf: ∀k,k<16-> ¬D (ae idx k)):
 bJ P E D idx U' v a ((execOp a.eval o).run P w):=by
 have up: ∀{β' who' w' a'} {U':ag} {hd},aC E D β' who' U' hd a' w'->aC E (Dn D idx) β' who' U' hd a' w':=λS=>S.mono (λn h=> .inl h) (dh S.dfn)
 unfold FW at h;cases ho:o.op with
 |makeSlice t l c=>
  simp only[ho]at h;obtain⟨u,U1,_,_,_,_,h1,h2⟩:=aq.bind' h;obtain⟨rfl,S1⟩:=aq.rd h1 S;obtain⟨q,U2,_,_,_,_,h3,h4⟩:=aq.bind' h2;obtain⟨rfl,S2⟩:=aq.rd h3 S1;obtain⟨r,w1,β',who',g1,g2⟩:=qe1 hT h4 S (S1.hrel _ mS) (S2.hrel _ mS) hf;exact⟨r,w1,β',who',.inl (by unfold execOp;simp_all),g2⟩
 |makeMap t rs=>
  cases rs with
  |some r=>simp only[ho]at h;exact(aq.fail' h).elim
  |none=>
   simp only[ho]at h;obtain⟨r,w1,β',who',g1,g2⟩:=qbh hT h S hf;exact⟨r,w1,β',who',.inl (by unfold execOp;simp_all),g2⟩
 |call c=>
  obtain⟨callee,args,tys⟩:=c;simp only[ho]at h;split at h
  case h_2=>exact(aq.fail' h).elim
  rename_i q0 q1 q2 x t hargs ht;have hargs':args= #[x]:=by apply Array.ext';simpa using hargs
  subst hargs';obtain⟨u,U1,_,_,_,_,h1,h2⟩:=aq.bind' h;obtain⟨rfl,S1⟩:=aq.rd h1 S;unfold CN at h2;split at h2
  case h_2=>exact(aq.fail' h2).elim
  rename_i e ty cells s n l hti;obtain⟨rfl,rfl⟩:=aq.pure' h2;have hu:=(hT t _ hti).desc.1;have hDr:eE (β n) (.mlen l) (a.eval x):=S1.hrel _ mS;obtain⟨_,b,o',cap,hc⟩:=hDr;have ht':tys[0]? =some t:=ht
  have hlen:(Builtin.len_ tys o.type #[a.eval x]).run P w= .ok (.int .i64 l) w:=by
   rw[hc];simp[Builtin.len_,ht',run_underlying hu,goInt]
  exact bJ.same (c:= .int .i64 l) (by
   unfold execOp;simp only[ho,resolve,Sem.run_bind,Sem.run_pure,Result.andThen_ok,invoke,builtin];simp_all) (S.take0 (v:= .int .i64 l) rfl rfl (λn hn=>by cases hn))
 |indexAddr t x i=>
  simp only[ho]at h;obtain⟨u,U1,_,_,_,_,h1,h2⟩:=aq.bind' h;obtain⟨rfl,S1⟩:=aq.rd h1 S;obtain⟨q,U2,_,_,_,_,h3,h4⟩:=aq.bind' h2;obtain⟨rfl,S2⟩:=aq.rd h3 S1;unfold VT at h4;split at h4
  case h_2=>exact(aq.fail' h4).elim
  rename_i e ty cells s n l ik iz hti;obtain⟨_,U3,_,_,_,_,h5,h6⟩:=aq.bind' h4;obtain⟨⟨i0,i1⟩,rfl⟩:=aq.mask' h5;obtain⟨rfl,rfl⟩:=aq.pure' h6;obtain⟨hu,ei,he,hes,_⟩:=(hT t _ hti).desc;have hDr:eE (β n) (.mlen l) (a.eval x):=S1.hrel _ mS;obtain⟨hc0,b,o',cap,hc⟩:=hDr;have hi:a.eval i= .int ik iz:=S2.hrel _ mS;have hrun:=cw (P:=P) hu he b o' l cap ik iz i0 i1 w;rw[hes,iw]at hrun;have hil:iz.toNat<l:=O;refine bJ.same (c:= .pointer (some ⟨b,o'+iz.toNat,none⟩)) (by unfold execOp;simp_all) (S.take0 (v:= .dr s n (.mcell iz.toNat)) ⟨b,o',l,cap,by rw[<-hc0,hc],hil,rfl⟩ rfl (λx hx=>S1.hocc _ mS x hx))
 |load t p=>
  simp only[ho]at h;obtain⟨u,U1,_,_,_,_,h1,h2⟩:=aq.bind' h;obtain⟨rfl,S1⟩:=aq.rd h1 S;obtain⟨r,g1,g2⟩:=qf2 hT h2 S (S1.hrel _ mS) (S1.hocc _ mS);exact bJ.same (by unfold execOp;simp_all) g2
 |store t p x=>
  simp only[ho]at h;obtain⟨u,U1,_,_,_,_,h1,h2⟩:=aq.bind' h;have S1:=aq.rdT h1 S;obtain⟨q,U2,_,_,_,_,h3,h4⟩:=aq.bind' h2;obtain⟨rfl,S2⟩:=aq.rd h3 S1;obtain⟨_,U3,_,_,_,_,h5,h6⟩:=aq.bind' h4;obtain⟨w1,β',who',g1,g2⟩:=qbk hT h5 S1 (S2.hrel _ mS) hf;obtain⟨rfl,rfl⟩:=aq.pure' h6;exact⟨undef,w1,β',who',.inr ⟨by unfold execOp;simp_all,rfl⟩,g2.take_dead⟩
 |mapUpdate t m k x=>
  simp only[ho]at h;obtain⟨rfl,w1,who',g1,g2⟩:=q52 (idx:=idx) hT h S;exact⟨undef,w1,β,who',.inr ⟨by unfold execOp;simp_all,rfl⟩,(up g2).take_dead⟩
 |insert t m k x=>
  simp only[ho]at h;obtain⟨rfl,w1,who',g1,g2⟩:=q52 (idx:=idx) hT h S;exact⟨undef,w1,β,who',.inr ⟨by unfold execOp;simp_all,rfl⟩,(up g2).take_dead⟩
 |lookup t x k ok=>
  simp only[ho]at h;obtain⟨r,g1,g2⟩:=qkv (idx:=idx) hT h S;exact bJ.same (by unfold execOp;simp_all) g2
 |mapEntry t m k=>
  simp only[ho]at h;obtain⟨r,w1,g1,g2⟩:=qhm (idx:=idx) hT h S;exact bJ.same (by unfold execOp;simp_all) g2
 |entryStore t m z x=>
  simp only[ho]at h;obtain⟨rfl,w1,who',g1,g2⟩:=q8w (idx:=idx) hT h S;exact⟨undef,w1,β,who',.inr ⟨by unfold execOp;simp_all,rfl⟩,(up g2).take_dead⟩
 |_=>simp only[ho]at h;exact(aq.fail' h).elim
end
section
variable {P:Program} {CO:Q5} {T:TT} {E:aN} {D:Nat->Prop} {β β':aP} {who who':bg} {U U':ag} {hd:List (AV×Value)} {a:Act} {w w':World} {R W:List Nat}
def qbo {c:Call} {o:Oper} {t f:Nat} {as bs:Array Value} (hop:o.op= .call c) (hc:c.callee= .value (.tmp t))
 (ht:a.eval (.tmp t)= .func (.func f) as bs) (h1:as.size=0) (h2:bs.size=0):execOp a.eval o=callFunc f (c.args.map a.eval):=by
 have e1:as= #[]:=Nj h1;have e2:bs= #[]:=Nj h2;subst e1 e2;unfold execOp;simp[hop,resolve,hc,Deferred.ofValue,invoke,ht]
def qbp {c:Call} {o:Oper} {t f:Nat} {pv:Value} (hop:o.op= .call c) (hc:c.callee= .value (.tmp t))
 (ht:a.eval (.tmp t)= .func (.func f) #[] #[pv]):execOp a.eval o=callFunc f (c.args.map a.eval++ #[pv]):=by
 unfold execOp;simp[hop,resolve,hc,Deferred.ofValue,invoke,ht]
def q1k {c:Call} {o:Oper} {f:Nat} (hop:o.op= .call c) (hc:c.callee= .value (.func f)):execOp a.eval o=callFunc f (c.args.map a.eval):=by
 have ef:a.eval (.func f)= .func (.func f) #[] #[]:=rfl;unfold execOp;simp[hop,resolve,hc,Deferred.ofValue,invoke,ef]
def Rl (hT:bm P T) (hC: ∀f as r os,CO f as r os->Xc P f as r os) (hEP:E.prog=P) {idx mode:Nat} {o:Oper} {v:AV} (h:aq CO (pW T idx mode o) U v U' R W) (S:aC E D β who U [] a w)
 (hf: ∀k,k<16-> ¬D (ae idx k)):qW P E D idx U' v o a w:=by
 cases hn:OB o.op with
 |false=>exact(qqc hT hEP hn h S hf).wp
 |true=>
  cases ho:o.op with
  |call c=>
   unfold pW at h;simp only[ho]at h;cases hc:c.callee with
   |builtin b=>rw[ho]at hn;obtain⟨callee,args,tys⟩:=c;simp only at hc;subst hc;cases hn
   |invoke r m=>simp only[hc]at h;exact(aq.fail' h).elim
   |value x=>
    simp only[hc]at h;cases x with
    |func f=>
     simp only at h
     have hop:execOp a.eval o=callFunc f (c.args.toList.map a.eval).toArray:=by
      rw[q1k ho hc];congr 1;simp[<-Array.toList_map]
     unfold Fe at h;split at h
     . exact qnw hT hC hEP h S hf hop
     . split at h
       . exact qoh hT hC hEP h S hf hop
       . exact YX (mode:=mode) hT hC hEP h S hf hop
    |tmp t=>
     simp only at h;obtain⟨av,U1,_,_,_,_,h1,h2⟩:=aq.bind' h;obtain⟨rfl,rfl⟩:=aq.mget' h1;split at h2
     . rename_i f as bs hg;split at h2
       . rename_i hs;refine YX (mode:=mode) hT hC hEP h2 S hf ?_;have hr:=S.rel t;rw[hg]at hr;rw[qbo ho hc (by rw[Act.eval];exact hr.1) hs.1 hs.2]
         congr 1;simp[<-Array.toList_map]
       . exact(aq.fail' h2).elim
     . rename_i f et xs i j hg;have hr:=S.rel t;rw[hg]at hr;obtain⟨b,o',e1,e2⟩:=hr;refine qox (pv:= .pointer (some ⟨b,o'+i*et.size+j,none⟩)) hT hC hEP ⟨b,o',rfl,e2⟩ h2 S hf ?_;rw[qbp ho hc (by rw[Act.eval];exact e1)]
       congr 1;apply Array.ext';simp
     . exact(aq.fail' h2).elim
    |const u=>exact(aq.fail' h).elim
    |global g=>exact(aq.fail' h).elim
  |_=>rw[ho]at hn;cases hn
end
section
variable {P:Program} {CO:Q5} {T:TT} {E:aN} {D:Nat->Prop} {β β':aP} {who who':bg} {U U':ag} {hd:List (AV×Value)} {a:Act} {w w':World} {R W:List Nat}
variable {N:Nat} {pins:List Nat}
def jX (P:Program) (E:aN) (N:Nat) (pins:List Nat):Prop:=E.N=N/\(∀p∈E.pins,p.1∈pins)/\E.prog=P
def SP (hE:jX P E N pins) {dst:Option Tmp} {v:AV} {c:Value} {u:Unit} (h:aq CO (FO N pins dst v) U u U' R W) (S:aC E D β who U [(v,c)] a w):
 aC E D β who U' [] (a.put dst c) w:=by
 cases dst with
 |none=>
  obtain⟨_,rfl⟩:=aq.pure' h;exact S.putNone
 |some d=>
  simp only[FO]at h;split at h
  . rename_i hd;have:=aq.mset' h;subst this;exact S.put (by rw[hE.1];exact hd.1) (λp hp e=>hd.2 (e▸hE.2.1 p hp))
  . exact(aq.fail' h).elim
def W4 (hT:bm P T) (hC: ∀f as r os,CO f as r os->Xc P f as r os) (hEP:E.prog=P) {idx mode:Nat} {o:Oper} {v:AV} (h:aq CO (O4 T idx mode o) U v U' R W) (S:aC E D β who U [] a w)
 (hf: ∀k,k<16-> ¬D (ae idx k)):qW P E D idx U' v o a w:=by
 unfold O4 at h;split at h
 . split at h
   . exact(qko hT h S hf).wp
   split at h
   . obtain⟨av,U1,_,_,_,_,h1,h2⟩:=aq.bind' h;obtain⟨rfl,rfl⟩:=aq.mget' h1;split at h2
     . obtain⟨u,U2,_,_,_,_,h3,h4⟩:=aq.bind' h2;obtain⟨a9,S1⟩:=q65 h3 S;exact Rl hT hC hEP h4 S1 hf
     . exact(aq.fail' h2).elim
   . obtain⟨u,U1,_,_,_,_,h1,h2⟩:=aq.bind' h;obtain⟨g1,_,a9,S1⟩:=aq.rdF h1 S;exact Rl hT hC hEP h2 (S1.drop rfl) hf
 . exact Rl hT hC hEP h S hf
def Z1 (hT:bm P T) (hC: ∀f as r os,CO f as r os->Xc P f as r os) (hE:jX P E N pins) {ops:Array Oper} {idx mode:Nat} {o:Oper} {u:Unit}
 (h:aq CO (nq T N pins ops idx mode o) U u U' R W) (S:aC E D β who U [] a w) (hf: ∀k,k<16-> ¬D (ae idx k))
 {next:Act->World->Prop} {Q:Exit->Act->World->Prop} (hn: ∀a' w' β' who',aC E (Dn D idx) β' who' U' [] a' w'->next a' w'):
 if Region.wanted o (yielded ops a.tmps)then o.wp P a w next Q\/(o.asks P a w/\LetsOut Q)else next (a.put o.dst undef) w:=by
 unfold nq at h;cases hg:o.guard with
 |none=>
  simp only[hg]at h;obtain⟨v,U1,_,_,_,_,h1,h2⟩:=aq.bind' h;rw[iP (by simp[Region.wanted,hg])]
  exact .inl (W4 hT hC hE.2.2 h1 S hf next Q λc w' β' who' S1=>hn _ _ _ _ (SP hE h2 S1))
 |some jw=>
  obtain⟨j,want⟩:=jw;simp only[hg]at h;split at h
  . exact(aq.fail' h).elim
  . rename_i g hgo;obtain⟨av,U0,_,_,_,_,h0,h9⟩:=aq.bind' h;obtain⟨hav,rfl⟩:=aq.mget' h0;clear h
    have skip: ∀{U1 U2:ag} {R W:List Nat} {u:Unit},aq CO (FO N pins o.dst (.tup [])) U1 u U2 R W->U2=U'->aC E D β who U1 [] a w->next (a.put o.dst undef) w:=by
     intro U1 U2 R W u h2 e S;subst e;have S1:aC E D β who U1 [(.tup [],undef)] a w:=S.take0 (v:= .tup []) (c:=undef) ⟨#[],rfl,rfl,λj h=>absurd h (zA _)⟩ rfl (λn hn=>by cases hn)
     exact hn _ _ _ _ ((SP hE h2 S1).mono (λn h=> .inl h) (dh S.dfn))
    cases hu:Qt av with
    |true=>
     rw[hu]at h9;have hr:=S.rel g;rw[<-hav]at hr
     have hnb: ∀b,a.tmps.getD g undef≠ .bool b:=λb hb=>by
      unfold Qt at hu;split at hu
      . obtain⟨arr,hr,_⟩:=hr;rw[hr]at hb;cases hb
      . cases hu
     have hy:yielded ops a.tmps j=none:=by
      unfold yielded;unfold j4 at hgo;rw[hgo];cases hx:a.tmps[g]? with
      |none=>simp[hx]
      |some x=>
       simp_all
     rw[ao (by simp[Region.wanted,hg,hy])]
     exact skip h9 rfl S
    |false=>
    rw[hu]at h9;obtain⟨b,U1,_,_,_,_,h1,h2⟩:=aq.bind' h9;obtain⟨hb,rfl⟩:=aq.mknow' h1;have hr:=S.rel g;rw[hb]at hr;have hr:a.tmps.getD g undef= .bool b:=hr
    have hlt:g<a.tmps.size:=by
     rcases zq g a.tmps.size with h|h
     . exact h
     . simp[Array.getD,Nat.not_lt.2 h,undef]at hr
    have hy:yielded ops a.tmps j=some b:=by
     unfold yielded;unfold j4 at hgo;rw[hgo];have:a.tmps[g]? =some (.bool b):=by rw[<-hr];simp[Array.getD,hlt]
     simp[this]
    by_cases e:b=want
    . rw[iP (by simp[Region.wanted,hg,hy,e])]
      rw[iP (by simpa using e)]at h2
      obtain⟨v,U1,_,_,_,_,h3,h4⟩:=aq.bind' h2;exact .inl (W4 hT hC hE.2.2 h3 S hf next Q λc w' β' who' S1=>hn _ _ _ _ (SP hE h4 S1))
    . rw[ao (by simp[Region.wanted,hg,hy,e])]
      grind
def Fp (D:Nat->Prop) (i:Nat):Nat->Prop:=λn=>D n\/ ∃j k,j<i/\k<16/\n=ae j k
def YY {i j k l:Nat} (hk:k<16) (hl:l<16) (h:ae i k=ae j l):i=j/\k=l:=by simp only[ae]at h;omega
def qoi {i k:Nat} (hD: ∀n,D n->n<100) (hk:k<16): ¬Fp D i (ae i k):=by
 rintro (h|⟨j,l,h1,h2,h3⟩)
 . have:=hD _ h;simp only[ae]at this;omega
 . have:=YY hk h2 h3;omega
def qr4 {i n:Nat} (h:Dn (Fp D i) i n):Fp D (i+1) n:=by
 rcases h with(h|⟨j,k,h1,h2,h3⟩)|⟨k,hk,h⟩
 . exact .inl h
 . exact .inr ⟨j,k,O,h2,h3⟩
 . exact .inr ⟨i,k,O,hk,h⟩
def Vb {i:Nat} (h: ¬D FN): ¬Fp D i FN:=by
 rintro (h'|⟨j,k,_,hk,e⟩)
 . exact h h'
 . simp only[FN,ae]at e;omega
inductive d5 (CO:Q5) (T:TT) (N:Nat) (pins:List Nat) (ops:Array Oper) (md:List (Nat×Nat)):List Oper->Nat->ag->List (List Nat×List Nat)->ag->Prop where
 |nil {i:Nat} {U:ag}:d5 CO T N pins ops md [] i U [] U
 |cons {o:Oper} {r:List Oper} {i:Nat} {U U1 U2:ag} {u:Unit} {R W:List Nat} {Ls:List (List Nat×List Nat)}:
   aq CO (nq T N pins ops i (mD md i) o) U u U1 R W->d5 CO T N pins ops md r (i+1) U1 Ls U2->d5 CO T N pins ops md (o::r) i U ((R,W)::Ls) U2
def pF:List pD->List (List Nat×List Nat)->Prop
 |[],[]=>True
 |L::Ls,F::Fs=>(∀s∈F.1,s∈L.1)/\(∀s∈F.2,s∈L.2)/\pF Ls Fs
 |_,_=>False
def d5.seq {ops:Array Oper} {md:List (Nat×Nat)} {l:List Oper} {i:Nat} {U U':ag} {Fs:List (List Nat×List Nat)} (h:d5 CO T N pins ops md l i U Fs U'):
 ∀τ,pz U τ-> ∃τ',d5 CO T N pins ops md l i τ Fs τ'/\pz U' τ':=by
 induction h with
 |nil=>exact λτ h=>⟨τ,.nil,h⟩
 |cons h1 _ ih=>
  intro τ e;obtain⟨τ1,g1,g2⟩:=h1.seq e;obtain⟨τ2,g3,g4⟩:=ih τ1 g2;exact⟨τ2,.cons g1 g3,g4⟩
def pz.symm {U τ:ag} (h:pz U τ):pz τ U:=λs=>(h s).symm
def pz.trans {U τ ρ:ag} (h:pz U τ) (h':pz τ ρ):pz U ρ:=λs=>(h' s).trans (h s)
def qqf {ρT:Type} {C:Nat->List AV->(AV->List AV->Option ρT)->Option ρT} {ρ:ρT}
 (hC: ∀f as k,C f as k=some ρ-> ∃r os,CO f as r os/\k r os=some ρ) {ops:Array Oper} {md:List (Nat×Nat)} (l:List Oper):
 ∀(i:Nat) (U:ag) (Ls:List pD) (K:ag->List pD->Option ρT),uB C T N pins ops md l i U Ls K=some ρ->
  ∃Fs U' U'' Ls',d5 CO T N pins ops md l i U Fs U'/\pz U' U''/\pF Ls' Fs/\K U'' (Ls++Ls')=some ρ:=by
 induction l with
 |nil=>exact λi U Ls K h=>⟨[],U,U,[],.nil,λ_=>rfl,trivial,by simpa [uB]using h⟩
 |cons o r ih=>
  intro i U Ls K h;simp only[uB]at h;obtain⟨u,U1,R,W,h1,U1',L',e1,e2,e3,e4⟩:=qr1 hC _ _ _ _ h;obtain⟨Fs,U2,U2',Ls',g1,g2,g3,g4⟩:=ih _ _ _ _ e4;obtain⟨τ,q1,q2⟩:=g1.seq U1 e1.symm;refine⟨(R,W)::Fs,τ,U2',L'::Ls',.cons h1 q1,q2.symm.trans g2,⟨λs hs=>e2 s (.inl hs),λs hs=>e3 s (.inl hs),g3⟩,by simpa using g4⟩
def qm4 (hT:bm P T) (hC: ∀f as r os,CO f as r os->Xc P f as r os) (hE:jX P E N pins) {ops:Array Oper} {md:List (Nat×Nat)} (hD: ∀n,D n->n<100)
 {Q:Exit->Act->World->Prop} {l:List Oper} {i:Nat} {Fs:List (List Nat×List Nat)} (h:d5 CO T N pins ops md l i U Fs U'):
 ∀{β who a w},aC E (Fp D i) β who U [] a w->(∀a' w' β' who',aC E (Fp D (i+l.length)) β' who' U' [] a' w'->Q .normal a' w')->wpList P ops Q l a w:=by
 induction h with
 |nil=>exact λS hn=>hn _ _ _ _ S
 | @cons o r i U U1 U2 u R W Ls h1 _ ih=>
   intro β who a w S hn;refine Z1 hT hC hE h1 S (λk hk=>qoi hD hk) λa' w' β' who' S'=> ?_
   refine ih (S'.mono (λn h=>qr4 h) (λh=> ?_)) λa'' w'' β'' who'' S''=>hn _ _ _ _ (by
    rw[show i+(o::r).length=i+1+r.length by simp;omega];exact S'')
   rcases h with h|⟨j,k,_,hk,e⟩
   . have:=S.dfn;exact this (.inl h)
   . simp only[FN,ae]at e;omega
end
section
variable {P:Program} {CO:Q5} {T:TT} {E:aN} {D:Nat->Prop} {β β':aP} {who who':bg} {U U':ag} {a:Act} {w w':World}
variable {N:Nat} {pins:List Nat}
def gS (st:Nat->ag) (Wg:Nat->List Nat) (n:Nat) (S:Nat->Prop) (s:Nat) (v:Option AV):Prop:=
 (∃i,i<n/\S i/\s∈Wg i/\(∀j,j<n->S j->s∈Wg j->j<=i)/\v=vw (st (i+1)) s)\/((∀j,j<n->S j->s∉Wg j)/\v=vw (st 0) s)
variable {st:Nat->ag} {Rg Wg:Nat->List Nat} {n:Nat} {S S':Nat->Prop} {s:Nat} {v u:Option AV}
def gS.uniq (h:gS st Wg n S s v) (h':gS st Wg n S s u):v=u:=by
 rcases h with⟨i,h1,h2,h3,h4,rfl⟩|⟨h1,rfl⟩<;>rcases h' with⟨j,g1,g2,g3,g4,rfl⟩|⟨g1,rfl⟩
 . grind
 . grind
 . grind
 . rfl
def gS.congr (h:gS st Wg n S s v) (he: ∀j,j<n->s∈Wg j->(S j↔S' j)):gS st Wg n S' s v:=by
 rcases h with⟨i,h1,h2,h3,h4,rfl⟩|⟨h1,rfl⟩
 . exact .inl ⟨i,h1,(he i h1 h3).1 h2,h3,λj hj hs hw=>h4 j hj ((he j hj hw).2 hs) hw,rfl⟩
 . exact .inr ⟨λj hj hs hw=>h1 j hj ((he j hj hw).2 hs) hw,rfl⟩
def gS.canon (hfr: ∀j,j<n-> ∀s,s∉Wg j->vw (st (j+1)) s=vw (st j) s): ∀i,i<=n->gS st Wg n (λj=>j<i) s (vw (st i) s)
 |0,_=> .inr ⟨λj _ h=>absurd h (zA _),rfl⟩
 |i+1,hi=>by
  by_cases hs:s∈Wg i
  . exact .inl ⟨i,O,O,hs,λj _ h _=>O,rfl⟩
  . rw[hfr i O s hs];refine(gS.canon hfr i O).congr λj hj hw=> ?_
    grind
def qov {m:M Unit} {i:Nat} {u:Unit} {τ:ag} {anc:Nat->List Nat} (hi:i<n) (hrun:aq CO m (st i) u (st (i+1)) (Rg i) (Wg i))
 (hfr: ∀j,j<n-> ∀s,s∉Wg j->vw (st (j+1)) s=vw (st j) s)
 (hconf: ∀i j,i<j->j<n->i∈anc j\/((∀s∈Rg i,s∉Wg j)/\ ∀s∈Rg j,s∉Wg i))
 (hS: ¬S i) (ha: ∀k∈anc i,S k) (hb: ∀j,S j->i∉anc j) (hτ: ∀s,gS st Wg n S s (vw τ s)):
 ∃τ',aq CO m τ u τ' (Rg i) (Wg i)/\ ∀s,gS st Wg n (λj=>S j\/j=i) s (vw τ' s):=by
 have key: ∀s∈Rg i,∀j,j<n->s∈Wg j->(S j↔j<i):=λs hs j hj hw=>by
  grind
 have agree: ∀s∈Rg i,vw τ s=vw (st i) s:=λs hs=>
  ((hτ s).congr (key s hs)).uniq (gS.canon hfr i O)
 obtain⟨τ',h1,h2⟩:=hrun.local τ (λ_=>False) (λs h=>agree s (h.resolve_right id))
 refine⟨τ',h1,λs=> ?_⟩
 by_cases hs:s∈Wg i
 . have hr:=hrun.subW s hs;rw[h2 s (.inl hr)];refine .inl ⟨i,hi,.inr rfl,hs,λj hj hj' hw=> ?_,rfl⟩
   grind
 . rw[h1.frame s hs];refine(hτ s).congr λj hj hw=>⟨λh=> .inl h,λh=> ?_⟩
   grind
def x8 (ops:List Oper) (i:Nat):List Nat:=match ops[i]? with
 |some o=>gW o i
 |none=>[]
def XQ (S:Nat->Prop) (all:List Oper) (hS: ∀j,j<all.length->S j-> ∀k∈x8 all j,S k): ∀(r:List Oper) (i:Nat) (acc:List (List Nat)),
 (∀j,r[j]? =all[i+j]?)->acc.length=i->(∀j,j<i->(∀k∈x8 all j,S k)-> ∀k∈acc.getD j [],S k)->all.length=i+r.length->
 ∀j,j<all.length->(∀k∈x8 all j,S k)-> ∀k∈(qT r i acc).getD j [],S k
 |[],i,acc,hr,hl,hacc,hn,j,hj,hp=>hacc j (by simpa [hn]using hj) hp
 |o::r,i,acc,hr,hl,hacc,hn,j,hj,hp=>by
  have ho:all[i]? =some o:=by have:=hr 0;simpa using this.symm
  simp only[qT]
  refine XQ S all hS r (i+1) _ (λj=>by have:=hr (j+1);grind) (by simp[hl]) (λj hj hp k hk=> ?_)
   (by rw[hn];simp;omega) j hj hp
  rcases zq j i with h|h
  . refine hacc j h hp k ?_
    grind
  . have:j=i:=O;subst this;simp only[List.getD,List.getElem?_append_right (show acc.length<=j by omega),hl,Ir,List.getElem?_cons_zero,pP]at hk
    obtain⟨p,hp',hk⟩:=zH.1 hk;have hpp:p∈x8 all j:=by simp only[x8,ho];exact hp'
    have hpj:p<j:=by
     simp only[gW,zV,pH,zI,decide_eq_true_eq]at hp';obtain⟨e,⟨_,_,h⟩,rfl⟩:=hp';exact h
    rcases mC hk with rfl|hk
    . exact hp k hpp
    . exact hacc p hpj (hS p O (hp p hpp)) k hk
end
end Go.Vs
