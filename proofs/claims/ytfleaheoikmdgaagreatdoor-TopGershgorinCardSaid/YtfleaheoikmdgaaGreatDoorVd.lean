import Derived.Test.YtfleaheoikmdgaaGreatDoorVb
import Derived.MapKept
import Derived.Orders
set_option linter.unusedVariables false
set_option linter.unusedSimpArgs false
set_option linter.unusedSectionVars false
set_option linter.defProp false
namespace Go.Vs
def Fr (who who':Who):Prop:= ∀b,who' b=who b\/who' b=none
def Fr.refl (who:Who):Fr who who:=λ_=> .inl rfl
def Fr.trans {a b c:Who} (h:Fr a b) (h':Fr b c):Fr a c:=λx=>by
 rcases h' x with h1|h1
 . rcases h x with h2|h2
   . exact .inl (by rw[h1,h2])
   grind
 . exact .inr h1
def KeepBx (U U':Slots):Prop:= ∀s,U'.get s=U.get s\/names (U'.get s)=[]
def KeepBx.refl (U:Slots):KeepBx U U:=λ_=> .inl rfl
def KeepBx.trans {U U1 U2:Slots} (h:KeepBx U U1) (h':KeepBx U1 U2):KeepBx U U2:=λs=>by
 rcases h' s with e|e
 . rw[e];exact h s
 . exact .inr e
section
variable {P:Program} {CO:qx} {T:TT} {E:Entry} {D:Nat->Prop} {β:Beta} {who:Who} {U U':Slots} {hd:List (AV×Value)} {a:Act} {w w':World} {R W:List Nat}
def Sim.freezeFr (S:Sim E D β who U hd a w) (t:Nat) (hb: ∀o cs,U.get t≠ .bx o cs) (ht: ∀vs,U.get t≠ .tup vs):
 ∃who',Fr who who'/\Sim E D β who' (U.set t (Vs.freeze (U.get t))) ((Vs.freeze (U.get t),a.tmps.getD t undef)::hd) a w:=by
 refine⟨unown who (names (U.get t)),λb=> ?_,?_⟩
 . cases h:who b with
   |none=>exact .inr (Xq h)
   |some n=>
    by_cases hn:n∈names (U.get t)
    . exact .inr (Jq h hn)
    . exact .inl (Zq h hn)
 have hf:=q7t (ns:=names (U.get t)) (S.rel t) (λn h=>h) hb ht
 have hn:=Yw hb ht
 have S1:Sim E D β (unown who (names (U.get t))) (U.set t .dead) hd a w:=by
  have S0:=(S.takeAll t).drop rfl
  refine S0.world (λs=> ?_) (λx hx=> ?_) (λb n hb=>S.wsz b n (Y3 hb)) (zD _) (λ_ _ _=>rfl) (λb n hb=>S.fr1 b n (Y3 hb))
   (λb hb=>Zq (S.fr3 b hb) (λh=>S.dfn (S.occ t _ (qj h))))
  . refine(S0.rel s).keep (Keeps.unown λn h h'=> ?_)
    by_cases e:s=t
    . subst e;rw[qh]at h;simp[names,qi,qc]at h
    . rw[qg _ _ e]at h;exact e (S.dis s t n h h')
  . exact(S0.hrel x hx).keep (Keeps.unown λn h h'=>S.hdis x hx n h t h')
 have S2:=S1.abs (s:=t) (v:=Vs.freeze (U.get t)) hf (λn h=>by rw[hn]at h;cases h) (by grind) (λn h=>S.occ t n (q14 h))
 have S3:=S2.take0 hf hn (λn h=>S.occ t n (q14 h))
 refine S3.ext λs=> ?_
 by_cases e:s=t
 . subst e;rw[qh,qh]
 . rw[qg _ _ e,qg _ _ e,qg _ _ e]
def Run.rdFFr {x:Operand} {v:AV} (h:Run CO (Vs.rdF x) U v U' R W) (S:Sim E D β who U hd a w):
 names v=[]/\(∀o cs,v≠ .bx o cs)/\KeepBx U U'/\ ∃who',Fr who who'/\Sim E D β who' U' ((v,a.eval x)::hd) a w:=by
 cases x with
 |tmp t=>
  obtain⟨av,U1,_,_,_,_,h1,h2⟩:=Run.bind' h;obtain⟨rfl,rfl⟩:=Run.mget' h1;split at h2
  . exact(Run.fail' h2).elim
  . exact(Run.fail' h2).elim
  . exact(Run.fail' h2).elim
  . exact(Run.fail' h2).elim
  . exact(Run.fail' h2).elim
  . exact(Run.fail' h2).elim
  . exact(Run.fail' h2).elim
  . rename_i g2 g3 g4 g5 g6 g7 g8;split at h2
    . obtain⟨_,U2,_,_,_,_,h3,h4⟩:=Run.bind' h2;have:=Run.mset' h3;subst this;obtain⟨rfl,rfl⟩:=Run.pure' h4;have hb: ∀o cs,U1.get t≠ .bx o cs:=λo cs e=>g3 o cs e
      refine⟨Yw hb g2,?_,?_,S.freezeFr t hb g2⟩
      . intro o cs e;have hb':=hb;cases hav:U1.get t with
        |bx o' cs'=>exact hb o' cs' hav
        |sl o' t' xs=>rw[hav]at e;cases o'<;>cases e
        |agg cells=>rw[hav]at e;cases e
        |dp n t xs hh=>rw[hav]at e;cases hh<;>cases e
        |dq n t xs hh=>rw[hav]at e;cases hh<;>cases e
        |fd n t xs hh=>rw[hav]at e;cases e
        |mm n t xs o=>rw[hav]at e;cases e
        |_=>rw[hav]at e;cases e
      . intro s;by_cases e:s=t
        . subst e;rw[qh];exact .inr (Yw hb g2)
        . rw[qg _ _ e];exact .inl rfl
    . rename_i hno;obtain⟨rfl,rfl⟩:=Run.pure' h2;exact⟨Qw hno,g3,KeepBx.refl _,who,Fr.refl _,S.take0 (S.rel t) (Qw hno) (S.occ t)⟩
 |const u=>
  obtain⟨rfl,rfl⟩:=Run.pure' h;obtain⟨g1,g2,g3⟩:=q1x (β:=β) (who:=who) (w:=w) u;refine⟨g2,?_,KeepBx.refl _,who,Fr.refl _,S.take0 g1 g2 (λn hn=>by rw[g3]at hn;cases hn)⟩
  intro o cs e;cases u<;>cases e
 |global g=>exact(Run.fail' h).elim
 |func f=>
  obtain⟨rfl,rfl⟩:=Run.pure' h;exact⟨rfl,(λo cs e=>by cases e),KeepBx.refl _,who,Fr.refl _,S.take0 (v:= .lit (.func (.func f) #[] #[])) ⟨rfl,rfl⟩ rfl (λn hn=>by cases hn)⟩
def Run.rdP {x:Operand} {v:AV} (h:Run CO (Vs.rdP x) U v U' R W) (S:Sim E D β who U hd a w):
 names v=[]/\(∀o cs,v≠ .bx o cs)/\KeepBx U U'/\ ∃who',Fr who who'/\Sim E D β who' U' ((v,a.eval x)::hd) a w:=by
 cases x with
 |tmp t=>
  obtain⟨av,U1,_,_,_,_,h1,h2⟩:=Run.bind' h;obtain⟨rfl,rfl⟩:=Run.mget' h1;split at h2
  . rename_i n cells hg;obtain⟨rfl,rfl⟩:=Run.pure' h2;have hal:alias t (U'.get t)=some (.ptr t n 1 0 0):=by rw[hg];rfl
    obtain⟨g1,g2,g3⟩:=q61 hal (S.rel t);exact⟨g2,(λo cs e=>by cases e),KeepBx.refl _,who,Fr.refl _,S.take0 g1 g2 (λn hn=>S.occ t n (g3 n hn))⟩
  . exact Run.rdFFr h2 S
 |const u=>exact Run.rdFFr (x:= .const u) h S
 |global g=>exact Run.rdFFr (x:= .global g) h S
 |func f=>exact Run.rdFFr (x:= .func f) h S
def PureIn (who:Who) (rn:List Nat) (who':Who):Prop:=(∀b,who b=none->who' b=none)/\ ∀b n,who b=some n->n∈rn->who' b=none
def PureC (who:Who) (w:World) (rn:List Nat) (c:AV) (u:Value):Prop:= ∀β' who',PureIn who rn who'->RelC β' who' w c u
def qq9 (who:Who) (w:World) (rn:List Nat) (c:AV) (u:Value):Prop:= ∀β' who',PureIn who rn who'->Rel β' who' w c u
def PureIn.sub {rn rn':List Nat} {who':Who} (h:PureIn who rn' who') (hs: ∀n∈rn,n∈rn'):PureIn who rn who':=
 ⟨h.1,λb n hb hn=>h.2 b n hb (hs n hn)⟩
def PureIn.fr {rn:List Nat} {who1 who':Who} (h:PureIn who1 rn who') (hf:Fr who who1):PureIn who rn who':=by
 refine⟨λb hb=> ?_,λb n hb hn=> ?_⟩
 . rcases hf b with e|e
   . exact h.1 b (by rw[e,hb])
   . exact h.1 b e
 . rcases hf b with e|e
   . exact h.2 b n (by rw[e,hb]) hn
   . exact h.1 b e
def SlI.blk {t:Ty} {xs:List (Den t)} {v:Value} (h:SlI who w t xs v): ∀b l c,v= .slice (some b) l c->who b.block=none:=by
 rintro b l c rfl
 rcases h with⟨h,_⟩|⟨b',o,cap,e,h1,_⟩
 . cases h
 . cases e;exact h1
def SlS.slI {t:Ty} {xs:List (Den t)} {v:Value} (h:SlS who w t xs v) (hb: ∀b l c,v= .slice (some b) l c->who b.block=none):SlI who w t xs v:=by
 rcases h with h|⟨b,o,cap,e,h1,h2,h3⟩
 . exact .inl h
 . exact .inr ⟨b,o,cap,e,hb _ _ _ e,h1,h2,h3⟩
def SlI.window {t:Ty} {xs:List (Den t)} {base v:Value} {win:Option (Nat×Nat)} (h:SlI who w t xs base) (hv:q03 base t.size win v):
 SlI who w t (Vs.window xs win) v:=by
 refine(SlS.window h.sls hv).1.slI λb l c e=> ?_
 cases win with
 |none=>obtain⟨rfl,_⟩:=hv;exact h.blk b l c e
 |some ol=>
  obtain⟨off,len⟩:=ol;obtain⟨ad,L,cap,a',e1,e2,e3,e4,e5,-⟩:=hv;rw[e3]at e;injection e with g1 g2 g3
  subst g1;cases ad with
  |none=>simp at e5
  |some x=>
   simp at e5;rw[e5.1];exact h.blk x L cap e1
def RelN.slI {n:Nat} {t:Ty} {xs:List (Den t)} {v:Value} {who':Who} (h:RelN β who w n t xs v) (h1: ∀b,who b=none->who' b=none) (h2: ∀b,who b=some n->who' b=none):SlI who' w t xs v:=by
 obtain⟨_,h⟩:=h;rcases h with h|⟨b,o,cap,arr,el,e1,e2,e3,e4,e5,e6⟩
 . exact .inl h
 . exact .inr ⟨b,o,cap,e1,h2 b e5,Yh e2,e4,Elems.keep (λb hb _=>⟨h1 b hb,rfl⟩) (zD _) rfl e6⟩
def Run.passC {c c':AV} {u:Value} (h:Run CO (Vs.passC c) U c' U' R W) (S:Sim E D β who U hd a w) (hc:RelC β who w c u):
 U'=U/\Yd c'=true/\qc c'=[]/\(∀β' who',RelC β' who' w c' u->Rel β' who' w c' u)/\
 noRef c'=true/\names c'=[]/\PureC who w (refC c) c' u/\ ∀n∈refC c,n≠FN:=by
 have key: ∀{s n:Nat},Run CO (passW s n) U c' U' R W->u=dpv (β n) 0->refC c=[n]->U'=U/\Yd c'=true/\qc c'=[]/\(∀β' who',RelC β' who' w c' u->Rel β' who' w c' u)/\
  noRef c'=true/\names c'=[]/\PureC who w (refC c) c' u/\ ∀n∈refC c,n≠FN:=by
  intro s n h k1 hrc;rw[hrc];obtain⟨av,U1,_,_,_,_,h1,h2⟩:=Run.bind' h;obtain⟨hav,rfl⟩:=Run.mget' h1;split at h2
  . rename_i m t xs loc hd;rw[hav]at hd;obtain⟨hmn,⟨v0,hdp⟩,hin⟩:=S.dpA hd
    . subst hmn;obtain⟨rfl,rfl⟩:=Run.pure' h2;refine⟨rfl,rfl,rfl,λ_ _ h=>h,rfl,rfl,λβ' who' hp=> ?_,λx hx=> ?_⟩
      . obtain⟨hv,hd2⟩:=hdp;rw[k1,<-hv];rcases hd2 with⟨e0,rfl⟩|⟨b0,o0,cap1,arr0,el0,e0,e1,e2,e3,e4,hall,_⟩
        . exact .inl ⟨e0,rfl⟩
        refine .inr ⟨b0,o0,cap1,e0,hp.2 b0 m e4 (by simp),Yh e1,e3,λi hi=> ?_⟩
        obtain⟨c1,c2⟩:=hall i hi (by simp)
        refine⟨dpv (β m) (i+1),?_,?_⟩
        . have e:cellAt w b0 (o0+i*(Ty.sl false t).size) 0=cellAt w b0 o0 i:=by
           unfold cellAt;simp[Ty.size]
          rw[e];exact c1
        . rcases c2 with hI|⟨bi,oi,ci,arr,el,q1,q2,q3,q4,q5,q6,q7⟩
          . exact .inl hI
          . exact .inr ⟨bi,oi,ci,q1,hp.2 bi m q5 (by simp),Yh q2,q4,Elems.keep (λb hb _=>⟨hp.1 b hb,rfl⟩) (zD _) rfl q7⟩
      . rw[zA]at hx;subst hx;rintro rfl;exact S.dfn (S.occ s _ (qj hin))
  . exact(Run.fail' h2).elim
 unfold Vs.passC at h;split at h
 . obtain⟨rfl,rfl⟩:=Run.pure' h;exact⟨rfl,rfl,rfl,λ_ _ h=>h,rfl,rfl,λ_ _ _=>hc,λn hn=>by cases hn⟩
 . obtain⟨rfl,rfl⟩:=Run.pure' h;exact⟨rfl,rfl,rfl,λ_ _ h=>h,rfl,rfl,λ_ _ _=>hc,λn hn=>by cases hn⟩
 . obtain⟨rfl,rfl⟩:=Run.pure' h;exact⟨rfl,rfl,rfl,λ_ _ h=>h,rfl,rfl,λ_ _ _=>hc,λn hn=>by cases hn⟩
 . obtain⟨rfl,rfl⟩:=Run.pure' h;exact⟨rfl,rfl,rfl,λ_ _ h=>h,rfl,rfl,λ_ who' hp=>SlI.keep (λb hb _=>⟨hp.1 b hb,rfl⟩) (zD _) hc,λn hn=>by cases hn⟩
 . obtain⟨rfl,rfl⟩:=Run.pure' h;exact⟨rfl,rfl,rfl,λ_ _ h=>h,rfl,rfl,λ_ who' hp=> .inl hc,λn hn=>by cases hn⟩
 . rename_i s n sz win;obtain⟨y,U1,_,_,_,_,h1,h2⟩:=Run.bind' h;obtain⟨rfl,rfl⟩:=Run.pure' h2;unfold Vs.shown at h1;obtain⟨y,U1,_,_,_,_,h3,h4⟩:=Run.bind' h1;obtain⟨rfl,hsz,g1,g2⟩:=Run.nodeOf h3 S;obtain⟨rfl,rfl⟩:=Run.pure' h4;subst hsz;refine⟨rfl,rfl,rfl,λ_ _ h=>h,rfl,rfl,λβ' who' hp=> ?_,λm hm=> ?_⟩
   . exact SlI.window (g1.slI hp.1 (λb hb=>hp.2 b n hb (by simp[refC]))) hc
   . simp only[refC,zA]at hm;subst hm;rintro rfl;exact S.dfn (S.occ s _ (qj g2))
 . rename_i s n i;obtain⟨av,U1,_,_,_,_,h1,h2⟩:=Run.bind' h;obtain⟨hav,rfl⟩:=Run.mget' h1;split at h2
   . rename_i m t xs hh loc hd;rw[hav]at hd;obtain⟨hmn,⟨v0,hdp⟩,hin⟩:=S.dpA hd
     . subst hmn;obtain⟨_,U2,_,_,_,_,h3,h4⟩:=Run.bind' h2;obtain⟨hno,rfl⟩:=Run.noHole' h3;obtain⟨rfl,rfl⟩:=Run.pure' h4;obtain⟨k1,_,ad0,L0,cap0,k2,k3⟩:=hc;obtain⟨ad1,cap1,hb1⟩:=hdp.base;rw[hb1]at k2;injection k2 with _ q1 _
       subst q1;have hrow:=hdp.row k3 hno;have hxi:xs.getD i []=xs[i]:=by simp[List.getD,List.getElem?_eq_getElem k3]
       refine⟨rfl,rfl,rfl,λ_ _ h=>h,rfl,rfl,λβ' who' hp=> ?_,λx hx=> ?_⟩
       . rw[hxi,k1];obtain⟨_,b0,o0,cap0,arr0,el0,_,_,_,_,_,hall,_⟩:=hdp.pos (.inr (Ql k3));rcases(hall i k3 hno).2 with hI|⟨bi,oi,ci,arr,el,e1,e2,e3,e4,e5,e6,e7⟩
         . exact .inl hI
         . exact .inr ⟨bi,oi,ci,e1,hp.2 bi m e5 (by simp[refC]),Yh e2,e4,Elems.keep (λb hb _=>⟨hp.1 b hb,rfl⟩) (zD _) rfl e7⟩
       . simp only[refC,zA]at hx;subst hx;rintro rfl;exact S.dfn (S.occ s _ (qj hin))
   . exact(Run.fail' h2).elim
 . exact key h hc.1 rfl
 . exact key h hc.1 rfl
 . obtain⟨rfl,rfl⟩:=Run.pure' h;obtain⟨b,o,e1,e2,e3,e4,e5⟩:=hc
   exact⟨rfl,rfl,rfl,λ_ _ h=>h,rfl,rfl,
    λβ' who' hp=>⟨b,o,e1,e2,hp.1 b e3,e4,Elems.keep (λb hb _=>⟨hp.1 b hb,rfl⟩) (zD _) rfl e5⟩,λn hn=>by cases hn⟩
 . obtain⟨rfl,rfl⟩:=Run.pure' h;exact⟨rfl,rfl,rfl,λ_ _ h=>h,rfl,rfl,λ_ _ _=>trivial,λn hn=>by cases hn⟩
 . exact(Run.fail' h).elim
end
abbrev Pass:=AV×Option Nat×List Nat
def hvl (β:Beta) (m:Nat):AV->Value
 | .dp _ _ _ _=>dpv (β m) 0
 |_=>β m
def ArgOK (β:Beta) (who:Who) (w:World) (U:Slots) (p:Pass) (u:Value):Prop:=
 match p.2.1 with
 |none=>qq9 who w p.2.2 p.1 u/\noRef p.1=true/\names p.1=[]/\ ∀n∈p.2.2,n≠FN
 |some s=>p.2.2=[]/\(names (U.get s)=[]\/ ∃m,Zn (U.get s)=some m/\p.1=ren (idxIn (names (U.get s))) (U.get s)/\noRef (U.get s)=true/\
   (names (U.get s)).length<=16/\u=hvl β m (U.get s))
section
variable {P:Program} {CO:qx} {T:TT} {E:Entry} {D:Nat->Prop} {β:Beta} {who who':Who} {U U':Slots} {hd:List (AV×Value)} {a:Act} {w w':World} {R W:List Nat}
def ArgOK.mono {p:Pass} {u:Value} (h:ArgOK β who w U p u) (hf:Fr who who') (hk:KeepBx U U'):ArgOK β who' w U' p u:=by
 obtain⟨av,l,rn⟩:=p;cases l with
 |none=>exact⟨λβ' who'' hp=>h.1 β' who'' (hp.fr hf),h.2⟩
 |some s=>
  obtain⟨h1,h2⟩:=h;rcases hk s with e|e
  . exact⟨h1,by rw[e];exact h2⟩
  . exact⟨h1,.inl e⟩
def qjz (S:Sim E D β who U hd a w) (cells:List AV): ∀{cs:List AV} {g:Nat->Value} {U':Slots} {R W:List Nat},Run CO (Vs.passL cells) U cs U' R W->
 (∀j (h:j<cells.length),RelC β who w cells[j] (g j))->
 U'=U/\cs.length=cells.length/\cs.all Yd=true/\cs.flatMap qc=[]/\(∀j (h:j<cs.length),PureC who w (cells.flatMap refC) cs[j] (g j))/\ ∀n∈cells.flatMap refC,n≠FN:=by
 induction cells with
 |nil=>
  intro cs g U' R W h hc;obtain⟨rfl,rfl⟩:=Run.pure' h
  grind
 |cons c cells ih=>
  intro cs g U' R W h hc;obtain⟨c',U1,_,_,_,_,h1,h2⟩:=Run.bind' h;obtain⟨cs',U2,_,_,_,_,h3,h4⟩:=Run.bind' h2;obtain⟨rfl,rfl⟩:=Run.pure' h4;obtain⟨rfl,e1,e2,_,_,_,e3,e4⟩:=Run.passC h1 S (hc 0 (by simp))
  have hc': ∀j (h:j<cells.length),RelC β who w cells[j] ((λj=>g (j+1)) j):=λj hj=>by grind
  obtain⟨rfl,f1,f2,f3,f4,f5⟩:=ih h3 hc';refine⟨rfl,by simp[f1],by grind,by simp[e2,f3],λj hj=> ?_,λn hn=> ?_⟩
  . cases j with
    |zero=>exact λβ' who' hp=>e3 β' who' (hp.sub λn hn=>by simp[hn])
    |succ j=>exact λβ' who' hp=>f4 j (by simpa using hj) β' who' (hp.sub λn hn=>by grind)
  . grind
def Run.passA (hT:TTok P T) {ty:Nat} {x:Operand} {p:Pass} (h:Run CO (Vs.passA ty T x) U p U' R W) (S:Sim E D β who U [] a w):
 KeepBx U U'/\ ∃who',Fr who who'/\Sim E D β who' U' [] a w/\ArgOK β who' w U' p (a.eval x):=by
 obtain⟨v,U1,_,_,_,_,h1,h2⟩:=Run.bind' h;obtain⟨g1,g2,g3,who1,g4,S1⟩:=Run.rdP h1 S;have S2:=S1.fix (t:=ty) hT;have hx:=S2.hrel _ mS;have S3:=S2.drop rfl;generalize Yy T ty v=v1 at*;split at h2
 . rename_i cells;obtain⟨cs,U2,_,_,_,_,h3,h4⟩:=Run.bind' h2;obtain⟨rfl,rfl⟩:=Run.pure' h4;obtain⟨arr,e1,e2,e3⟩:=(hx: ∃arr,_);obtain⟨rfl,f1,f2,f3,f4,f5⟩:=qjz (cs:=cs) (g:=λj=>arr.getD j undef) S3 cells h3 e3
   refine⟨g3,who1,g4,S3,⟨λβ' who' hp=> ?_,f2,f3,f5⟩⟩
   exact⟨arr,e1,by rw[e2,f1],λj hj=>f4 j hj β' who' hp⟩
 . rename_i s n sz;obtain⟨av,U2,_,_,_,_,h3,h4⟩:=Run.bind' h2;obtain⟨rfl,rfl⟩:=Run.mget' h3;split at h4
   . rename_i m cells hg;split at h4
     . rename_i hm;obtain⟨rfl,hr,hl⟩:=hm;obtain⟨rfl,rfl⟩:=Run.pure' h4;refine⟨g3,who1,g4,S3,⟨rfl,.inr ⟨m,by rw[hg];rfl,?_,hr,hl,?_⟩⟩⟩
       . rw[hg]
       . have hb:=S3.rel s;rw[hg]at hb;obtain⟨hb0,b,arr,el,hb1,_⟩:=hb;rw[hg];rcases(hx:qbw _ _ _ _ _)with⟨b',o,L,cap,q1,_⟩|⟨b',q1,_,q2⟩
         . grind
         . exact q2.trans q1.symm
     . exact(Run.fail' h4).elim
   . exact(Run.fail' h4).elim
 . rename_i hn1 hn2;obtain⟨c,U2,_,_,_,_,h3,h4⟩:=Run.bind' h2;obtain⟨rfl,rfl⟩:=Run.pure' h4
   have hc:RelC β who1 w v1 (a.eval x):=by
    cases v1 with
    |tup vs=>exact(Run.fail' h3).elim
    |bx o cs=>exact(Run.fail' h3).elim
    |agg cs=>exact absurd rfl (hn1 cs)
    |dead=>trivial
    |_=>exact hx
   obtain⟨rfl,e1,e2,f1,f2,f3,f4,f5⟩:=Run.passC h3 S3 hc;exact⟨g3,who1,g4,S3,⟨λβ' who' hp=>f1 _ _ (f4 β' who' hp),f2,f3,f5⟩⟩
def Run.lendA {x:Operand} {p:Pass} (h:Run CO (Vs.lendA x) U p U' R W) (S:Sim E D β who U [] a w):
 U'=U/\ArgOK β who w U' p (a.eval x):=by
 obtain⟨v,U1,_,_,_,_,h1,h2⟩:=Run.bind' h;obtain⟨rfl,S1⟩:=Run.rd h1 S;have hx:=S1.hrel _ mS;split at h2
 . rename_i s n sz;obtain⟨av,U2,_,_,_,_,h3,h4⟩:=Run.bind' h2;obtain⟨rfl,rfl⟩:=Run.mget' h3;split at h4
   . rename_i m t xs hg;split at h4
     . rename_i hm;subst hm;obtain⟨rfl,rfl⟩:=Run.pure' h4;refine⟨rfl,rfl,.inr ⟨m,by rw[hg];rfl,by rw[hg],by rw[hg];rfl,by rw[hg];exact(by decide:1<=16),?_⟩⟩
       rw[hg];exact(show q03 (β m) sz none (a.eval x)from hx).1
     . exact(Run.fail' h4).elim
   . exact(Run.fail' h4).elim
 . rename_i s n;obtain⟨av,U2,_,_,_,_,h3,h4⟩:=Run.bind' h2;obtain⟨rfl,rfl⟩:=Run.mget' h3;split at h4
   . rename_i m t xs hg;split at h4
     . rename_i hm;subst hm;obtain⟨rfl,rfl⟩:=Run.pure' h4;refine⟨rfl,rfl,.inr ⟨m,by rw[hg];rfl,by rw[hg],by rw[hg];rfl,by rw[hg];exact(by decide:1<=16),?_⟩⟩
       rw[hg];exact(show DrVal (β m) .whole (a.eval x)from hx).1
     . exact(Run.fail' h4).elim
   . exact(Run.fail' h4).elim
 . exact(Run.fail' h2).elim
def Run.passN (hT:TTok P T) {ty:Nat} {x:Operand} {p:Pass} (h:Run CO (Vs.passN ty T x) U p U' R W) (S:Sim E D β who U [] a w):
 U'=U/\ArgOK β who w U' p (a.eval x):=by
 obtain⟨v,U1,_,_,_,_,h1,h2⟩:=Run.bind' h;obtain⟨rfl,S1⟩:=Run.rd h1 S;have S2:=S1.fix (t:=ty) hT;have hx:=S2.hrel _ mS;generalize Yy T ty v=v1 at*;split at h2
 . rename_i t xs;obtain⟨rfl,rfl⟩:=Run.pure' h2;exact⟨rfl,λβ' who' hp=>hx,rfl,rfl,λn hn=>by cases hn⟩
 . exact(Run.fail' h2).elim
def Run.passX (hT:TTok P T) {k ty:Nat} {x:Operand} {p:Pass} (h:Run CO (Vs.passX T k ty x) U p U' R W) (S:Sim E D β who U [] a w):
 KeepBx U U'/\ ∃who',Fr who who'/\Sim E D β who' U' [] a w/\ArgOK β who' w U' p (a.eval x):=by
 unfold Vs.passX at h;split at h
 . obtain⟨rfl,h2⟩:=Run.passN hT h S;exact⟨KeepBx.refl _,who,Fr.refl _,S,h2⟩
 . split at h
   . obtain⟨rfl,h2⟩:=Run.lendA h S;exact⟨KeepBx.refl _,who,Fr.refl _,S,h2⟩
   . exact Run.passA hT h S
def Run.passAll (hT:TTok P T): ∀{k:Nat} {xs:List Operand} {tys:List TypeId} {ps:List Pass} {who:Who} {U U':Slots} {R W:List Nat},Run CO (Vs.passAll T k xs tys) U ps U' R W->Sim E D β who U [] a w->
 KeepBx U U'/\ ∃who',Fr who who'/\Sim E D β who' U' [] a w/\ps.length=xs.length/\ ∀i (h:i<ps.length) (h':i<xs.length),ArgOK β who' w U' ps[i] (a.eval xs[i])
 |k,[],tys,ps,who,U,U',R,W,h,S=>by
  obtain⟨rfl,rfl⟩:=Run.pure' h;exact⟨KeepBx.refl _,who,Fr.refl _,S,rfl,λi hi=>absurd hi (zW _)⟩
 |k,x::xs,[],ps,who,U,U',R,W,h,S=>(Run.fail' h).elim
 |k,x::xs,ty::tys,ps,who,U,U',R,W,h,S=>by
  obtain⟨p,U1,_,_,_,_,h1,h2⟩:=Run.bind' h;obtain⟨ps',U2,_,_,_,_,h3,h4⟩:=Run.bind' h2;obtain⟨rfl,rfl⟩:=Run.pure' h4;obtain⟨e1,who1,e2,S1,e3⟩:=Run.passX hT h1 S;obtain⟨f1,who2,f2,S2,f3,f4⟩:=Run.passAll hT h3 S1;refine⟨e1.trans f1,who2,e2.trans f2,S2,by simp[f3],λi hi hi'=> ?_⟩
  cases i with
  |zero=>exact e3.mono f2 f1
  |succ i=>grind
end
def q90 {c:AV} (h:Yd c=true):occC c=qc c:=by
 cases c with
 |sl o t xs=>cases o<;>rfl
 |ref s n sz w=>cases h
 |ptr s n sz i j=>cases h
 |dr s n k=>cases h
 |wn n t xs=>cases h
 |fd n t xs hh=>cases h
 |_=>rfl
def q0k {cells:List AV} (h:cells.all Yd=true):cells.flatMap occC=cells.flatMap qc:=by
 induction cells with
 |nil=>rfl
 |cons c cs ih=>
  simp only[zQ2,zF]at h;simp[q90 h.1,ih h.2]
def q19 {v:AV} (h:q4a v=true):occA v=qi v:=by
 cases v with
 |bx o cells=>
  have:=q0k (cells:=cells) h;cases o<;>simp[occA,qi,this]
 |agg cells=>exact q0k (cells:=cells) h
 |sl o t xs=>exact q90 (c:= .sl o t xs) h
 |ref s n sz w=>cases h
 |ptr s n sz i j=>cases h
 |dr s n k=>cases h
 |wn n t xs=>cases h
 |fd n t xs hh=>cases h
 |_=>rfl
def Zl {v:AV} (h:noRef v=true):Vs.occ v=names v:=by
 cases v with
 |tup vs=>
  simp only[noRef]at h;simp only[Vs.occ,names];induction vs with
  |nil=>rfl
  |cons c cs ih=>
   simp only[zQ2,zF]at h;simp[q19 h.1,ih h.2]
 |sl o t xs=>exact q19 (v:= .sl o t xs) h
 |bx o cells=>exact q19 (v:= .bx o cells) h
 |agg cells=>exact q19 (v:= .agg cells) h
 |ref s n sz w=>cases h
 |ptr s n sz i j=>cases h
 |dr s n k=>cases h
 |wn n t xs=>cases h
 |fd n t xs hh=>cases h
 |_=>rfl
def qjk {o:Own} {cells:List AV} (h:isWn (.bx o cells)=true): ∃m k t xs hh cs,o= .nm m/\cells= .fd k t xs hh::cs/\cs.all Yd=true:=by
 cases o with
 |nm m=>
  cases cells with
  |nil=>cases h
  |cons c cs=>
   cases c with
   |fd k t xs hh=>exact⟨m,k,t,xs,hh,cs,rfl,rfl,h⟩
   |_=>cases h
 |_=>cases h
def qji {v:AV} (h:okOut v=true): ∀n∈Vs.occ v,n∈names v\/n=98:=by
 intro n hn;cases hw:isWn v with
 |false=>
  unfold okOut at h;rw[hw,Bool.or_false]at h;rw[Zl h]at hn;exact .inl hn
 |true=>
  cases v with
  |wn m t xs=>
   simp only[Vs.occ,occA,occC,zJ,zS,or_false]at hn;rcases hn with rfl|rfl
   . exact .inl (by simp[names,qi,qc])
   . exact .inr rfl
  |bx o cells=>
   obtain⟨m,k,t,xs,hh,cs,rfl,rfl,hcs⟩:=qjk hw;simp only[Vs.occ,occA,fC,occC,zJ,zL,zS,or_false,q0k hcs]at hn;simp only[names,qi,fC,qc,zJ,zL,zS,or_false]
   grind
  |_=>cases hw
section
variable {f:Nat->Nat}
def q8l {c:AV}:qc (renC f c)=(qc c).map f:=by
 cases c with
 |sl o t xs=>cases o<;>rfl
 |_=>rfl
def q4g {cells:List AV}:(cells.map (renC f)).flatMap qc=(cells.flatMap qc).map f:=by
 induction cells with
 |nil=>rfl
 |cons c cs ih=>simp[q8l,ih]
def q1a {v:AV}:qi (renA f v)=(qi v).map f:=by
 cases v with
 |bx o cells=>
  have:=q4g (f:=f) (cells:=cells);cases o<;>simp[renA,renO,qi,this]
 |agg cells=>exact q4g (f:=f) (cells:=cells)
 |sl o t xs=>have:=q8l (f:=f) (c:= .sl o t xs);cases o<;>exact this
 |_=>rfl
def Qe {v:AV}:names (ren f v)=(names v).map f:=by
 cases v with
 |tup vs=>
  simp only[ren,names];induction vs with
  |nil=>rfl
  |cons c cs ih=>simp[q1a,ih]
 |sl o t xs=>have:=q1a (f:=f) (v:= .sl o t xs);cases o<;>exact this
 |bx o cells=>exact q1a (f:=f) (v:= .bx o cells)
 |agg cells=>exact q1a (f:=f) (v:= .agg cells)
 |_=>rfl
def q42 {c:AV}:Yd (renC f c)=Yd c:=by
 cases c with
 |sl o t xs=>cases o<;>rfl
 |_=>rfl
def qgf {cells:List AV}:(cells.map (renC f)).all Yd=cells.all Yd:=by
 induction cells with
 |nil=>rfl
 |cons c cs ih=>simp only[zX1,zQ2,q42,ih]
def q0y {v:AV}:q4a (renA f v)=q4a v:=by
 cases v with
 |bx o cells=>exact qgf (cells:=cells)
 |agg cells=>exact qgf (cells:=cells)
 |sl o t xs=>have:=q42 (f:=f) (c:= .sl o t xs);cases o<;>exact this
 |_=>rfl
def qmq {v:AV}:isWn (ren f v)=isWn v:=by
 cases v with
 |sl o t xs=>cases o<;>rfl
 |bx o cells=>
  cases o with
  |nm n=>
   cases cells with
   |nil=>rfl
   |cons c cells=>
    cases c with
    |fd m t xs hh=>simp only[ren,renA,renO,zX1,renC,isWn,List.all_map];exact congrArg (λg=>cells.all g) (funext λc=>q42)
    |sl o t xs=>cases o<;>rfl
    |_=>rfl
  |_=>rfl
 |_=>rfl
def Xc {v:AV}:noRef (ren f v)=noRef v:=by
 cases v with
 |tup vs=>
  simp only[ren,noRef];induction vs with
  |nil=>rfl
  |cons c cs ih=>simp only[zX1,zQ2,q0y,ih]
 |sl o t xs=>have:=q0y (f:=f) (v:= .sl o t xs);cases o<;>exact this
 |bx o cells=>exact q0y (f:=f) (v:= .bx o cells)
 |agg cells=>exact q0y (f:=f) (v:= .agg cells)
 |_=>rfl
end
def RelI.flat {who who':Who} {w:World}: ∀{t:Ty} {x:Den t} {g:Nat->Option Value} {j:Nat},X7 t=false->RelI who w t x g j->RelI who' w t x g j
 | .int _,_,_,_,_,h=>h
 | .bool,_,_,_,_,h=>h
 | .pr a b,_,_,_,ht,h=>by
   simp only[X7,Bool.or_eq_false_iff]at ht;exact⟨RelI.flat ht.1 h.1,RelI.flat ht.2 h.2⟩
 | .sl _ t,xs,g,j,ht,h=>by cases ht
 | .opq,_,_,_,_,h=>h
section
variable {β β2:Beta} {who who2:Who} {w:World} {f:Nat->Nat}
structure RenOK (β:Beta) (who:Who) (w:World) (β2:Beta) (who2:Who) (f:Nat->Nat) (ns:List Nat) (im:Bool):Prop where
 beta: ∀n∈ns,β2 (f n)=β n
 own: ∀n∈ns,∀b,who b=some n->who2 b=some (f n)
 imm:im=true-> ∀b,who b=none->b<w.heap.size->who2 b=none
def RenOK.mono {ns ns':List Nat} {im im':Bool} (h:RenOK β who w β2 who2 f ns im) (hn: ∀n∈ns',n∈ns) (hi:im'=true->im=true):RenOK β who w β2 who2 f ns' im':=
 ⟨λn hn'=>h.beta n (hn n hn'),λn hn'=>h.own n (hn n hn'),λe=>h.imm (hi e)⟩
def RelC.ren {c:AV} {v:Value} (hr:Yd c=true) (k:RenOK β who w β2 who2 f (qc c) (Zh c)) (h:RelC β who w c v):RelC β2 who2 w (renC f c) v:=by
 cases c with
 |sl o t xs=>
  cases o with
  |imm=>exact SlI.keep (λb hb hl=>⟨k.imm rfl b hb hl,rfl⟩) (zD _) h
  |nl=>exact h
  |inn=>exact h
  |nm n=>
   obtain⟨h1,h2⟩:=h;refine⟨by rw[k.beta n (by simp[qc])];exact h1,?_⟩
   rcases h2 with h2|⟨b,o,cap,arr,el,e1,e2,e3,e4,e5,e6⟩
   . exact .inl h2
   . refine .inr ⟨b,o,cap,arr,el,e1,e2,e3,e4,k.own n (by simp[qc]) b e5,?_⟩
     cases ht:X7 t with
     |true=>exact Elems.keep (λb hb hl=>⟨k.imm ht b hb hl,rfl⟩) (zD _) rfl e6
     |false=>exact λi hi=>RelI.flat ht (e6 i hi)
 |ref s n sz win=>cases hr
 |ptr s n sz i j=>cases hr
 |dr s n kk=>cases hr
 |wn n t xs=>cases hr
 |mm n t xs o=>
  refine RelMm.map (k.beta n (by simp[qc])) (λb hb=>⟨k.own n (by simp[qc]) b hb,rfl⟩) (λx g j he=> ?_) h
  cases ht:X7 t with
  |true=>exact RelI.keep (λb hb hl=>⟨k.imm ht b hb hl,rfl⟩) (zD _) he
  |false=>exact RelI.flat ht he
 |fd n t xs hh=>cases hr
 |dq n t xs hh=>
  exact RelDq.map (k.beta n (by simp[qc])) (λb hb=>⟨k.own n (by simp[qc]) b hb,rfl⟩) (λt ys b o _ he=>Elems.keep (λb hb hl=>⟨k.imm rfl b hb hl,rfl⟩) (zD _) rfl he) h
 |dp n t xs hh=>
  refine RelDp.map (k.beta n (by simp[qc])) (λb hb=>⟨k.own n (by simp[qc]) b hb,rfl⟩) (λys b o _ he=> ?_) h
  cases ht:X7 t with
  |true=>exact Elems.keep (λb hb hl=>⟨k.imm ht b hb hl,rfl⟩) (zD _) rfl he
  |false=>exact λi hi=>RelI.flat ht (he i hi)
 |iptr g t xs i j=>
  obtain⟨b,o,e1,e2,e3,e4,e5⟩:=h;exact⟨b,o,e1,e2,k.imm rfl b e3 e4,e4,Elems.keep (λb hb hl=>⟨k.imm rfl b hb hl,rfl⟩) (zD _) rfl e5⟩
 |_=>exact h
def CellsRel.ren {cells:List AV} {arr:Array Value} (hr:cells.all Yd=true) (k:RenOK β who w β2 who2 f (cells.flatMap qc) (cells.any Zh))
 (h:CellsRel β who w cells arr):CellsRel β2 who2 w (cells.map (renC f)) arr:=by
 refine⟨by simpa using h.1,λj hj=> ?_⟩
 have hj':j<cells.length:=by simpa using hj
 rw[zA1];refine RelC.ren (zX.1 hr _ (zI hj')) (k.mono (λn hn=>zC.2 ⟨_,zI hj',hn⟩) λe=> ?_) (h.2 j hj')
 grind
def qpz:AV->Bool
 | .bx _ cells=>cells.any Zh
 | .agg cells=>cells.any Zh
 |v=>Zh v
def RelA.ren {v:AV} {c:Value} (hr:q4a v=true) (k:RenOK β who w β2 who2 f (qi v) (qpz v)) (h:RelA β who w v c):RelA β2 who2 w (renA f v) c:=by
 cases v with
 |bx o cells=>
  cases o with
  |nm n=>
   obtain⟨h0,b,arr,el,e1,e2,e3,e4⟩:=h
   exact⟨by rw[k.beta n (by simp[qi])];exact h0,b,arr,el,e1,e2,k.own n (by simp[qi]) b e3,
    CellsRel.ren hr (k.mono (λn hn=>by simp only[qi];grind) λe=>e) e4⟩
  |_=>exact h.elim
 |agg cells=>
  obtain⟨arr,e1,e2⟩:=h;exact⟨arr,e1,CellsRel.ren hr k e2⟩
 |tup vs=>exact h.elim
 |dead=>trivial
 |bool b=>exact RelC.ren (c:= .bool b) hr k h
 |int x n=>exact RelC.ren (c:= .int x n) hr k h
 |lit u=>exact RelC.ren (c:= .lit u) hr k h
 |sl o t xs=>
  have:=RelC.ren (c:= .sl o t xs) hr k h;cases o<;>exact this
 |ref s n sz win=>cases hr
 |ptr s n sz i j=>cases hr
 |iptr g t xs i j=>exact RelC.ren (c:= .iptr g t xs i j) hr k h
 |dp n t xs hh=>exact RelC.ren (c:= .dp n t xs hh) hr k h
 |dr s n kk=>exact RelC.ren (c:= .dr s n kk) hr k h
 |wn n t xs=>exact RelC.ren (c:= .wn n t xs) hr k h
 |dq n t xs hh=>exact RelC.ren (c:= .dq n t xs hh) hr k h
 |mm n t xs o=>exact RelC.ren (c:= .mm n t xs o) hr k h
 |fd n t xs hh=>cases hr
def Rel.ren {v:AV} {c:Value} (hr:noRef v=true) (k:RenOK β who w β2 who2 f (names v) (Qs v)) (h:Rel β who w v c):Rel β2 who2 w (Vs.ren f v) c:=by
 cases v with
 |tup vs=>
  obtain⟨arr,e1,e2,e3⟩:=h;refine⟨arr,e1,by simpa using e2,λj hj=> ?_⟩
  have hj':j<vs.length:=by simpa using hj
  rw[zA1];refine RelA.ren (zX.1 hr _ (zI hj')) (k.mono (λn hn=>zC.2 ⟨_,zI hj',hn⟩) λe=> ?_) (e3 j hj')
  refine List.any_eq_true.2 ⟨_,zI hj',?_⟩;revert e;generalize vs[j]=u;cases u<;>exact id
 |dead=>trivial
 |bool b=>exact RelA.ren (v:= .bool b) hr k h
 |int x n=>exact RelA.ren (v:= .int x n) hr k h
 |lit u=>exact RelA.ren (v:= .lit u) hr k h
 |sl o t xs=>
  have:=RelA.ren (v:= .sl o t xs) hr k h;cases o<;>exact this
 |bx o cells=>exact RelA.ren (v:= .bx o cells) hr k h
 |agg cells=>exact RelA.ren (v:= .agg cells) hr k h
 |ref s n sz win=>cases hr
 |ptr s n sz i j=>cases hr
 |iptr g t xs i j=>exact RelA.ren (v:= .iptr g t xs i j) hr k h
 |dp n t xs hh=>exact RelA.ren (v:= .dp n t xs hh) hr k h
 |dr s n kk=>exact RelA.ren (v:= .dr s n kk) hr k h
 |wn n t xs=>exact RelA.ren (v:= .wn n t xs) hr k h
 |dq n t xs hh=>exact RelA.ren (v:= .dq n t xs hh) hr k h
 |mm n t xs o=>exact RelA.ren (v:= .mm n t xs o) hr k h
 |fd n t xs hh=>cases hr
def Rel.renO {v:AV} {c:Value} (ho:okOut v=true) (k:RenOK β who w β2 who2 f (names v) (Qs v)) (h98:β2 98=β 98) (h:Rel β who w v c):Rel β2 who2 w (Vs.ren f v) c:=by
 cases hw:isWn v with
 |false=>
  unfold okOut at ho;rw[hw,Bool.or_false]at ho;exact Rel.ren ho k h
 |true=>
  cases v with
  |wn n t xs=>
   have h1:Rel β who w (.sl (.nm n) t xs) c:=h.1;have h2:Rel β2 who2 w (.sl (.nm (f n)) t xs) c:=Rel.ren (v:= .sl (.nm n) t xs) rfl k h1;obtain⟨arr0,g1,g2⟩:=h.2;exact⟨h2,arr0,by rw[h98];exact g1,g2⟩
  |bx o cells=>
   obtain⟨m,q,t,xs,hh,cs,rfl,rfl,hcs⟩:=qjk hw;obtain⟨h0,b,arr,el,e1,e2,e3,e4⟩:=h
   have h1:RelA β2 who2 w (renA f (.bx (.nm m) (.dp q t xs hh::cs))) c:=RelA.ren (v:= .bx (.nm m) (.dp q t xs hh::cs)) (by simpa [q4a,Yd]using hcs) k
    ⟨h0,b,arr,el,e1,e2,e3,e4.1,λj hj=>by
      cases j with
      |zero=>exact(e4.2 0 hj).1
      |succ j=>exact e4.2 (j+1) hj⟩
   obtain⟨g0,b',arr',el',g1,g2,g3,g4⟩:=h1;have hb:b'=b:=by rw[g1]at e1;injection e1 with e1;injection e1 with e1;injection e1 with e1
   subst hb;rw[e2]at g2;injection g2 with g2
   injection g2 with g2 g2'
   subst g2;refine⟨g0,b',arr,el,g1,e2,g3,g4.1,λj hj=> ?_⟩
   cases j with
   |zero=>exact⟨g4.2 0 hj,by rw[h98];exact(e4.2 0 (by simp)).2⟩
   |succ j=>exact g4.2 (j+1) hj
  |_=>cases hw
end
def q4r (who:Who) (w:World) (cargs:Array Value) (res:AV) (outs:List AV) (c98:Value) (e:Ending) (w':World):Prop:=
 ∃v β' who',e= .returned v/\β' 98=c98/\Rel β' who' w' res v/\(∀i (h:i<outs.length),Rel β' who' w' outs[i] (cargs.getD i undef))/\
  (names res++outs.flatMap names).Nodup/\(∀n∈names res++outs.flatMap names,n<16)/\noRef res=true/\outs.all okOut=true/\
  (∀b,b<w.heap.size->who b=none\/who b=some FN->w'.heap[b]? =w.heap[b]?)/\(∀b n,who' b=some n->b<w'.heap.size/\(who b≠none\/w.heap.size<=b))/\
  w.heap.size<=w'.heap.size/\(∀b,who b=some FN->who' b=some FN)/\w'.os=w.os/\w'.output=w.output
def Xl (P:Program) (f:FuncId) (args:List AV) (res:AV) (outs:List AV):Prop:=
 (∃fn,P.funcs[f]? =some fn∧fn.body.isNone=false∧(fn.name== "runtime.NumGoroutine")=false)∧
 ∀β who w (cargs:Array Value),cargs.size=args.length->(∀i (h:i<args.length),Rel β who w args[i] (cargs.getD i undef))->
  (args.flatMap names).Nodup->(∀n∈args.flatMap names,n<99)->args.all okOut=true->(∀b n,who b=some n->b<w.heap.size/\(n∈args.flatMap names\/n=FN))->GlobOK P who w->
  Calls P f cargs w (q4r who w cargs res outs (β 98))
def Zg {l:List AV} (h:l.all noRef=true):l.all okOut=true:=zX.2 λx hx=>by
 unfold okOut;grind
def q1s {v:AV} (h:okOut v=true) (hw:isWn v=false):noRef v=true:=by
 unfold okOut at h;grind
def GlobOK.whoC {P:Program} {who:Who} {w:World} (h:GlobOK P who w) {who':Who} (hw: ∀b,who b=none->who' b=none):GlobOK P who' w:=λx hx=>⟨hw _ (h x hx).1,(h x hx).2⟩
def X8 {ns:List Nat} {n:Nat} (h:n∈ns):idxIn ns n<ns.length:=by
 induction ns with
 |nil=>cases h
 |cons m ms ih=>
  simp only[idxIn,za1]
  grind
def Jl {ns:List Nat} {n:Nat} (h:n∈ns):ns.getD (idxIn ns n) 0=n:=by
 induction ns with
 |nil=>cases h
 |cons m ms ih=>
  simp only[idxIn]
  grind
def q0t {ns:List Nat} {n m:Nat} (hn:n∈ns) (hm:m∈ns) (h:idxIn ns n=idxIn ns m):n=m:=by
 rw[<-Jl hn,<-Jl hm,h]
def Qy {f:Nat->Nat} {l:List Nat} (hf: ∀a∈l,∀b∈l,f a=f b->a=b) (h:l.Nodup):(l.map f).Nodup:=by
 induction l with
 |nil=>simp
 |cons x l ih=>
  grind
def whoC (who:Who) (ln rn:List Nat):Who:=λb=>match who b with
 |none=>none
 |some n=>if n∈ln then some (idxIn ln n)else if n∈rn then none else some FN
def who2 (who who':Who) (idx:Nat) (ln ns:List Nat):Who:=λb=>match who' b with
 |none=>(match who b with
  |none=>none
  |some n=>if n∈ln then none else some n)
 |some m=>if m=FN then who b else if m∈ns then some (fresh idx m)else none
def beta2 (β β':Beta) (idx:Nat):Beta:=λn=>if fresh idx 0<=n/\n<=fresh idx 15 then β' (n-fresh idx 0)else β n
section
variable {P:Program} {CO:qx} {T:TT} {E:Entry} {D:Nat->Prop} {β β':Beta} {who who':Who} {U U':Slots} {hd:List (AV×Value)} {a:Act} {w w':World} {R W:List Nat}
def Zf {idx:Nat} {ln rn ns:List Nat} {im:Bool} (S:Sim E D β who U [] a w) (hf: ∀k,k<16-> ¬D (fresh idx k))
 (hln: ∀n∈ln,n≠FN/\ ∀s,n∉names (U.get s)) (hrn: ∀n∈rn,n≠FN) (hlen:ln.length<=16)
 (hfr: ∀b,b<w.heap.size->whoC who ln rn b=none\/whoC who ln rn b=some FN->w'.heap[b]? =w.heap[b]?)
 (hw: ∀b n,who' b=some n->b<w'.heap.size/\(whoC who ln rn b≠none\/w.heap.size<=b)) (hsz:w.heap.size<=w'.heap.size)
 (hFN: ∀b,whoC who ln rn b=some FN->who' b=some FN) (hns: ∀n∈ns,n<16) (him:im=true->rn=[]) (h4:w'.os=w.os/\w'.output=w.output):
 Sim E (Dn D idx) (beta2 β β' idx) (who2 who who' idx ln ns) U [] a w'/\RenOK β' who' w' (beta2 β β' idx) (who2 who who' idx ln ns) (fresh idx) ns im:=by
 have cnone: ∀b,who b=none->whoC who ln rn b=none:=λb h=>by simp[whoC,h]
 have pnone: ∀b,b<w.heap.size->whoC who ln rn b=none->who' b=none:=λb hb h=>by
  cases e:who' b with
  |none=>rfl
  |some n=>
   grind
 have keepo: ∀b n,who b=some n->n∉ln->who2 who who' idx ln ns b=some n/\w'.heap[b]? =w.heap[b]? :=λb n hb hn=>by
  have hlt:=S.wsz b n hb;by_cases hr:n∈rn
  . have hc:whoC who ln rn b=none:=by simp[whoC,hb,hn,hr]
    exact⟨by simp[who2,pnone b hlt hc,hb,hn],hfr b hlt (.inl hc)⟩
  . have hc:whoC who ln rn b=some FN:=by simp[whoC,hb,hn,hr]
    exact⟨by simp[who2,hFN b hc,hb],hfr b hlt (.inr hc)⟩
 have immo: ∀b,who b=none->b<w.heap.size->who2 who who' idx ln ns b=none/\w'.heap[b]? =w.heap[b]? :=λb hb hlt=>by
  have hc:=cnone b hb;exact⟨by simp[who2,pnone b hlt hc,hb],hfr b hlt (.inl hc)⟩
 have hβ: ∀n,D n->beta2 β β' idx n=β n:=λn hn=>by
  simp only[beta2];rw[iN']
  rintro ⟨h1,h2⟩
  refine hf (n-fresh idx 0) (by simp only[fresh]at*;omega) ?_
  rwa [show fresh idx (n-fresh idx 0)=n by simp only[fresh]at*;omega]
 have hFl:FN∉ln:=λh=>(hln _ h).1 rfl
 have S1:Sim E D (beta2 β β' idx) (who2 who who' idx ln ns) U [] a w':=by
  refine S.world (λs=>(S.rel s).keep ⟨λn hn=>hβ n (S.occ s n hn),λn hn b hb=>keepo b n hb λh=>(hln n h).2 s hn,immo,hsz⟩)
   (λx hx=>by cases hx) (λb n hb=> ?_) hsz (λb hb h0=> ?_) (λb n hb=> ?_) (λb hb=> ?_) h4 (hβ 98 S.d98)
  . simp only[who2]at hb;split at hb
    . split at hb
      . cases hb
      . rename_i m hm;have:=S.wsz b m hm;omega
    grind
  . have hb':b<w.heap.size:=zA2 hb S.fr2;rcases h0 with h0|h0
    . cases hwb:who b with
      |none=>exact(immo b hwb hb').2
      |some n=>
       rcases S.fr1 b n hwb with h|h
       . exact absurd h0 h
       . omega
    . exact(keepo b FN (S.fr3 b h0) hFl).2
  . simp only[who2]at hb;split at hb
    . split at hb
      . cases hb
      . rename_i m hm;exact S.fr1 b m hm
    . rename_i m hm;split at hb
      . exact S.fr1 b n hb
      . rcases(hw b m hm).2 with h|h
        . cases hwb:who b with
          |none=>grind
          |some n'=>exact S.fr1 b n' hwb
        . exact .inr (zT S.fr2 h)
  . exact(keepo b FN (S.fr3 b hb) hFl).1
 refine⟨S1.mono (λn h=> .inl h) (Dn_fn S.dfn),⟨λn hn=> ?_,λn hn b hb=> ?_,λhi b hb hlt=> ?_⟩⟩
 . have:=hns n hn;simp only[beta2];rw[iP (by simp only[fresh];omega)]
   congr 1;simp only[fresh];omega
 . have:=hns n hn;simp only[who2,hb];rw[iN' (by simp only[FN];omega),iP hn]
 . simp only[who2,hb];split
   . rfl
   . rename_i n hn;split
     . rfl
     . rename_i hnl;exfalso;have hc:whoC who ln rn b=some FN:=by simp[whoC,hn,hnl,him hi]
       grind
def Sim.add {new:List (AV×Value)} {D':Nat->Prop} (S:Sim E D' β who U [] a w) (hr: ∀x∈new,Rel β who w x.1 x.2) (hnd:(new.flatMap λx=>names x.1).Nodup)
 (hdis: ∀x∈new,∀n∈names x.1,∀s,n∉names (U.get s)) (ho: ∀x∈new,∀n∈Vs.occ x.1,D' n):Sim E D' β who U new a w:=
 {S with hrel:=hr,hnod:=hnd,hdis:=hdis,hocc:=ho}
def q2f (U:Slots) (p:Pass):Prop:=match p.2.1 with
 |none=>names p.1=[]/\noRef p.1=true
 |some s=>p.1=ren (idxIn (names (U.get s))) (U.get s)/\noRef (U.get s)=true
def Yr {v:AV} {m:Nat} (h:Zn v=some m):m∈names v:=by
 unfold Zn at h;split at h
 . cases h;simp[names,qi]
 . cases h;simp[names,qi,qc]
 . cases h;simp[names,qi,qc]
 . cases h
def q3u {v:AV} {m:Nat} {u:Value} (h:Zn v=some m) (hr:Rel β who w v u):u=hvl β m v:=by
 unfold Zn at h;split at h
 . cases h;exact hr.1
 . cases h;exact hr.1
 . cases h;exact hr.1
 . cases h
def ArgOK.passOK {p:Pass} {u:Value} (h:ArgOK β who w U p u) (hs: ∀s,p.2.1=some s->names (U.get s)≠[]):q2f U p:=by
 obtain⟨av,l,rn⟩:=p;cases l with
 |none=>exact⟨h.2.2.1,h.2.1⟩
 |some s=>
  obtain⟨_,h⟩:=h;rcases h with h|⟨m,_,h3,h4,_⟩
  . exact absurd h (hs s rfl)
  . exact⟨h3,h4⟩
def J9 {ps:List Pass} (h: ∀p∈ps,q2f U p):
 (ps.map (·.1)).flatMap names=(Y8 ps).flatMap λs=>(names (U.get s)).map (idxIn (names (U.get s))):=by
 induction ps with
 |nil=>rfl
 |cons p ps ih=>
  obtain⟨av,l,rn⟩:=p;have h0:=h _ mS;have ih':=ih λp hp=>h p (mT hp)
  cases l with
  |none=>simp only[zX1,fC,Y8,ih',h0.1,zT2]
  |some s=>
   have e:av=ren (idxIn (names (U.get s))) (U.get s):=h0.1;simp only[zX1,fC,Y8,ih',e,Qe]
def J8 {ps:List Pass} (h: ∀p∈ps,q2f U p):(ps.map (·.1)).all noRef=true:=by
 refine zX.2 λx hx=> ?_
 obtain⟨p,hp,rfl⟩:=zM.1 hx;obtain⟨av,l,rn⟩:=p;have:=h _ hp;cases l with
 |none=>exact this.2
 |some s=>
  have e:av=ren (idxIn (names (U.get s))) (U.get s):=this.1;subst e;show noRef (ren _ _)=true;rw[Xc];exact this.2
def q7s {outs:List AV} {o:AV}: ∀{ps:List Pass} {k:Nat} {s:Nat},outAt outs ps k=some o->Y8 ps=[s]->
 ∃i,∃h:i<ps.length,ps[i].2.1=some s/\outs[k+i]? =some o
 |[],k,s,h,_=>by cases h
 |(av,some s',rn)::ps,k,s,h,hl=>by
  simp only[Y8,zl2]at hl;exact⟨0,by simp,by simp[hl.1],h⟩
 |(av,none,rn)::ps,k,s,h,hl=>by
  obtain⟨i,hi,h1,h2⟩:=q7s (ps:=ps) (k:=k+1) h hl;exact⟨i+1,by simpa using hi,h1,by rw[<-h2];congr 1;omega⟩
def X5 {ps:List Pass} {p:Pass} {s:Nat} (hp:p∈ps) (h:p.2.1=some s):s∈Y8 ps:=by
 induction ps with
 |nil=>cases hp
 |cons q ps ih=>
  obtain⟨av,l,rn⟩:=q;rcases mC hp with rfl|hp'
  . simp only at h;subst h;simp[Y8]
  . cases l with
    |none=>exact ih hp'
    |some s'=>exact mT (ih hp')
def qhn {l1 l2:List Nat} {n:Nat} (h:n∈l1):idxIn (l1++l2) n=idxIn l1 n:=by
 induction l1 with
 |nil=>cases h
 |cons m ms ih=>
  simp only[zB2,idxIn]
  grind
def qfh {l1 l2:List Nat} {n:Nat} (h:n∉l1):idxIn (l1++l2) n=idxIn l2 n+l1.length:=by
 induction l1 with
 |nil=>simp
 |cons m ms ih=>
  simp only[zJ,not_or]at h;simp only[zB2,idxIn,za1]
  grind
def qb9 {f g:Nat->Nat} {c:AV}:renC g (renC f c)=renC (λn=>g (f n)) c:=by
 cases c with
 |sl o t xs=>cases o<;>rfl
 |_=>rfl
def qfw {f g:Nat->Nat} {cells:List AV}:(cells.map (renC f)).map (renC g)=cells.map (renC λn=>g (f n)):=by
 rw[zj3];exact zx1 λc _=>qb9
def q2y {f g:Nat->Nat} {v:AV}:renA g (renA f v)=renA (λn=>g (f n)) v:=by
 cases v with
 |bx o cells=>
  have:=qfw (f:=f) (g:=g) (cells:=cells);cases o<;>simp only[renA,renO,this]
 |agg cells=>simp only[renA,qfw]
 |sl o t xs=>have:=qb9 (f:=f) (g:=g) (c:= .sl o t xs);cases o<;>exact this
 |_=>rfl
def qow {f g:Nat->Nat} {v:AV}:ren g (ren f v)=ren (λn=>g (f n)) v:=by
 cases v with
 |tup vs=>
  simp only[ren,zj3];congr 1;exact zx1 λc _=>q2y
 |sl o t xs=>have:=q2y (f:=f) (g:=g) (v:= .sl o t xs);cases o<;>exact this
 |bx o cells=>exact q2y (f:=f) (g:=g) (v:= .bx o cells)
 |agg cells=>exact q2y (f:=f) (g:=g) (v:= .agg cells)
 |_=>rfl
def Yi {f g:Nat->Nat} {c:AV} (h: ∀n∈qc c,f n=g n):renC f c=renC g c:=by
 cases c with
 |sl o t xs=>
  cases o with
  |nm n=>simp only[renC,h n (by simp[qc])]
  |_=>rfl
 |dp n t xs hh=>simp only[renC,h n (by simp[qc])]
 |wn n t xs=>simp only[renC,h n (by simp[qc])]
 |dq n t xs hh=>simp only[renC,h n (by simp[qc])]
 |fd n t xs hh=>simp only[renC,h n (by simp[qc])]
 |mm n t xs o=>simp only[renC,h n (by simp[qc])]
 |_=>rfl
def J6 {f g:Nat->Nat} {cells:List AV} (h: ∀n∈cells.flatMap qc,f n=g n):cells.map (renC f)=cells.map (renC g):=
 zx1 λc hc=>Yi λn hn=>h n (zC.2 ⟨c,hc,hn⟩)
def Xo {f g:Nat->Nat} {v:AV} (h: ∀n∈qi v,f n=g n):renA f v=renA g v:=by
 cases v with
 |bx o cells=>
  cases o with
  |nm m=>
   simp only[qi,zJ]at h;simp only[renA,renO,h m (.inl rfl),J6 λn hn=>h n (.inr hn)]
  |_=>simp only[renA,renO,J6 (cells:=cells) h]
 |agg cells=>simp only[renA,J6 (cells:=cells) h]
 |sl o t xs=>exact Yi (c:= .sl o t xs) h
 |dp n t xs hh=>exact Yi (c:= .dp n t xs hh) h
 |wn n t xs=>exact Yi (c:= .wn n t xs) h
 |dq n t xs hh=>exact Yi (c:= .dq n t xs hh) h
 |fd n t xs hh=>exact Yi (c:= .fd n t xs hh) h
 |mm n t xs o=>exact Yi (c:= .mm n t xs o) h
 |_=>rfl
def qiu {f g:Nat->Nat} {v:AV} (h: ∀n∈names v,f n=g n):ren f v=ren g v:=by
 cases v with
 |tup vs=>
  simp only[ren];congr 1;exact zx1 λc hc=>Xo λn hn=>h n (zC.2 ⟨c,hc,hn⟩)
 |sl o t xs=>exact Xo (v:= .sl o t xs) h
 |bx o cells=>exact Xo (v:= .bx o cells) h
 |agg cells=>exact Xo (v:= .agg cells) h
 |dp n t xs hh=>exact Xo (v:= .dp n t xs hh) h
 |wn n t xs=>exact Xo (v:= .wn n t xs) h
 |dq n t xs hh=>exact Xo (v:= .dq n t xs hh) h
 |fd n t xs hh=>exact Xo (v:= .fd n t xs hh) h
 |mm n t xs o=>exact Xo (v:= .mm n t xs o) h
 |_=>rfl
def qfa {ps:List Pass} {k s:Nat} (h: ∀p∈ps,q2f U p):
 (ps.map (q08 k s)).flatMap names=(Y8 ps).flatMap λs'=>(names (U.get s')).map λn=>if s'=s then idxIn (names (U.get s')) n+k else idxIn (names (U.get s')) n:=by
 induction ps with
 |nil=>rfl
 |cons p ps ih=>
  obtain⟨av,l,rn⟩:=p;have h0:=h _ mS;have ih':=ih λp hp=>h p (mT hp)
  cases l with
  |none=>simp only[zX1,fC,Y8,ih',q08,h0.1,zT2]
  |some s'=>
   have e:av=ren (idxIn (names (U.get s'))) (U.get s'):=h0.1;simp only[zX1,fC,Y8,ih',q08,e];congr 1;split
   . rw[Qe,Qe,zj3];rfl
   . rw[Qe]
def qdo {ps:List Pass} {k s:Nat} (h: ∀p∈ps,q2f U p):(ps.map (q08 k s)).all noRef=true:=by
 refine zX.2 λx hx=> ?_
 obtain⟨p,hp,rfl⟩:=zM.1 hx;obtain⟨av,l,rn⟩:=p;have:=h _ hp;cases l with
 |none=>exact this.2
 |some s'=>
  have e:av=ren (idxIn (names (U.get s'))) (U.get s'):=this.1;subst e;simp only[q08];split
  . rw[Xc,Xc];exact this.2
  . rw[Xc];exact this.2
def q0w {outs:List AV} {o:AV} {s:Nat}: ∀{ps:List Pass} {k:Nat},outOf s outs ps k=some o-> ∃i,∃h:i<ps.length,ps[i].2.1=some s/\outs[k+i]? =some o
 |[],k,h=>by cases h
 |(av,some s',rn)::ps,k,h=>by
  simp only[outOf]at h;split at h
  . rename_i e;exact⟨0,by simp,by simp[e],h⟩
  . obtain⟨i,hi,h1,h2⟩:=q0w (ps:=ps) (k:=k+1) h;exact⟨i+1,by simpa using hi,h1,by rw[<-h2];congr 1;omega⟩
 |(av,none,rn)::ps,k,h=>by
  obtain⟨i,hi,h1,h2⟩:=q0w (ps:=ps) (k:=k+1) h;exact⟨i+1,by simpa using hi,h1,by rw[<-h2];congr 1;omega⟩
def qgz: ∀{outs:List AV} {i j:Nat} (hi:i<outs.length) (hj:j<outs.length),i≠j->(outs.flatMap names).Nodup->
 (names outs[i]++names outs[j]).Nodup
 |[],i,j,hi,hj,hne,h=>absurd hi (zW _)
 |x::xs,i,j,hi,hj,hne,h=>by
  simp only[fC]at h;obtain⟨h1,h2,h3⟩:=zG.1 h
  have nd: ∀{k:Nat} (hk:k<xs.length),(names xs[k]).Nodup:=λ{k} hk=>by
   grind
  match i,j with
  |0,0=>exact absurd rfl hne
  |0,j+1=>
   grind
  |i+1,0=>
   grind
  |i+1,j+1=>
   simp only[zh2];exact qgz (by simpa using hi) (by simpa using hj) (λe=>hne O) h2
end
def Jj {P:Program} {f:FuncId} (h: ∃fn,P.funcs[f]? =some fn∧fn.body.isNone=false∧(fn.name== "runtime.NumGoroutine")=false) (args:Array Value) (w:World):
 (callFunc f args).run P w= .ok (.enter f args) w:=by
 obtain⟨fn,h1,h2,h3⟩:=h;have h2':fn.body≠none:=λe=>by rw[e]at h2;cases h2
 have h3':fn.name≠ "runtime.NumGoroutine" :=by simpa using h3
 simp[callFunc,h1,h2',h3']
section
variable {P:Program} {CO:qx} {T:TT} {E:Entry} {D:Nat->Prop} {β β':Beta} {who who':Who} {U U':Slots} {hd:List (AV×Value)} {a:Act} {w w':World} {R W:List Nat}
def OpWp (P:Program) (E:Entry) (D:Nat->Prop) (idx:Nat) (U':Slots) (v:AV) (o:Oper) (a:Act) (w:World):Prop:=
 ∀(next:Act->World->Prop) (Q:Exit->Act->World->Prop),
  (∀c w' β' who',Sim E (Dn D idx) β' who' U' [(v,c)] a w'->next (a.put o.dst c) w')->o.wp P a w next Q
def OpOut.wp {idx:Nat} {v:AV} {o:Oper} (h:OpOut P E D idx U' v a ((execOp a.eval o).run P w)):OpWp P E D idx U' v o a w:=by
 intro next Q hn
 obtain⟨c,w',β',who',hr|⟨hr,rfl⟩,S⟩:=h
 . unfold Oper.wp;rw[hr];exact hn c w' β' who' S
 . unfold Oper.wp;rw[hr];exact hn undef w' β' who' S
def J5 {res o:AV} {outs:List AV} (h:(names res++outs.flatMap names).Nodup) (ho:o∈outs):(names o++names res).Nodup/\ ∀n∈names o,n∈outs.flatMap names:=by
 have hsub:(names o).Sublist (outs.flatMap names):=by
  induction outs with
  |nil=>cases ho
  |cons x xs ih=>
   simp only[fC];rcases mC ho with rfl|ho
   . exact List.sublist_append_left _ _
   . refine(ih ?_ ho).trans (List.sublist_append_right _ _);simp only[fC]at h;exact h.sublist (List.Sublist.append (List.Sublist.refl _) (List.sublist_append_right _ _))
 have h2:=h.sublist (List.Sublist.append (List.Sublist.refl (names res)) hsub);exact⟨(List.perm_append_comm.nodup_iff).1 h2,λn hn=>hsub.subset hn⟩
def qjv (hT:TTok P T) (hC: ∀f as r os,CO f as r os->Xl P f as r os) (hEP:E.prog=P) {idx f:Nat} {o:Oper} {args:List Operand} {tys:List TypeId} {v:AV} {et:Ty} {xs:List (Den et)} {i0 j0:Nat} {pv:Value} (hpv:Rel β who w (.iptr none et xs i0 j0) pv)
 (h:Run CO (cloAV T idx f args tys (.iptr none et xs i0 j0)) U v U' R W) (S:Sim E D β who U [] a w) (hf: ∀k,k<16-> ¬D (fresh idx k))
 (hop:execOp a.eval o=callFunc f (args.map a.eval++[pv]).toArray):OpWp P E D idx U' v o a w:=by
 intro next Q hnext
 obtain⟨ps,U1,_,_,_,_,h1,h2⟩:=Run.bind' h;obtain⟨_,who1,hfr,S1,hlen,hargs⟩:=Run.passAll hT h1 S
 have hpoX:(∀s∈Y8 ps,names (U1.get s)≠[])-> ∀p∈ps,q2f U1 p:=λhs p hp=>by
  obtain⟨i,hi,rfl⟩:=zi hp;exact(hargs i hi (by rw[<-hlen];exact hi)).passOK λs e=>hs s (X5 hp e)
 have hrnF: ∀n∈ps.flatMap (·.2.2),n≠FN:=λn hn=>by
  obtain⟨p,hp,hn⟩:=zC.1 hn;obtain⟨i,hi,rfl⟩:=zi hp;have ha:=hargs i hi (by rw[<-hlen];exact hi)
  generalize ps[i]=p at*
  obtain⟨av,l,rn⟩:=p;cases l with
  |none=>exact ha.2.2.2 n hn
  |some s=>have e:rn=[]:=ha.1;subst e;cases hn
 have hpure: ∀(ln:List Nat) (βc:Beta),(∀n∈ps.flatMap (·.2.2),n∉ln)-> ∀i (hi:i<ps.length),ps[i].2.1=none->Rel βc (whoC who1 ln (ps.flatMap (·.2.2))) w ps[i].1 (a.eval (args[i]'(by rw[<-hlen];exact hi))):=λln βc hd i hi hl=>by
  have ha:=hargs i hi (by rw[<-hlen];exact hi)
  have hsub: ∀n∈ps[i].2.2,n∈ps.flatMap (·.2.2):=λn hn=>zC.2 ⟨_,zI hi,hn⟩
  generalize ps[i]=p at*
  obtain⟨av,l,rn⟩:=p;simp only at hl;subst hl;refine ha.1 βc _ ⟨λb hb=>by simp[whoC,hb],λb n hb hn=> ?_⟩
  simp[whoC,hb,hd n (hsub n hn),hsub n hn]
 split at h2
 ·
  rename_i hl;have hpo:=hpoX (λs hs=>by rw[hl]at hs;cases hs)
  have hnoref:=J8 hpo;have hnames:=J9 hpo;obtain⟨⟨r,os⟩,U2,_,_,_,_,h3,h4⟩:=Run.bind' h2;obtain⟨hco,rfl⟩:=Run.mcall' h3;obtain⟨hen,hcall⟩:=hC _ _ _ _ hco;dsimp only at h4;have hnil:(ps.map (·.1)).flatMap names=[]:=by rw[hnames,hl];rfl
  have him:Qs r=true->ps.flatMap (·.2.2)=[]:=λhi=>by
   split at h4
   . exact(Run.fail' h4).elim
   . rename_i hc;simp only[hi,zA3,Bool.not_eq_true']at hc;simpa using hc
  have hv:v=ren (fresh idx) r/\U'=U2:=by
   split at h4
   . exact(Run.fail' h4).elim
   . exact Run.pure' h4
  obtain⟨rfl,rfl⟩:=hv
  have hpv1: ∀βc,Rel βc (whoC who1 [] (ps.flatMap (·.2.2))) w (.iptr none et xs i0 j0) pv:=λβc=>by
   obtain⟨b,o',q1,q2,q3,q4,q5⟩:=hpv
   have im: ∀b,who b=none->b<w.heap.size->whoC who1 [] (ps.flatMap (·.2.2)) b=none/\w.heap[b]? =w.heap[b]? :=λb hb _=>⟨by
    have hz:who1 b=none:=(hfr b).elim (λh=>h.trans hb) id
    simp[whoC,hz],rfl⟩
   exact⟨b,o',q1,q2,(im b q3 q4).1,q4,Elems.keep im (zD _) rfl q5⟩
  have hnoref':(ps.map (·.1)++[AV.iptr none et xs i0 j0]).all noRef=true:=by rw[List.all_append,hnoref];rfl
  have hnil':(ps.map (·.1)++[AV.iptr none et xs i0 j0]).flatMap names=[]:=by rw[ze1,hnil];rfl
  have hcalls:=hcall (λ_=>undef) (whoC who1 [] (ps.flatMap (·.2.2))) w (args.map a.eval++[pv]).toArray (by simp[hlen]) (λi hi=>by
   by_cases hi':i<ps.length
   . have ha:i<args.length:=by rw[<-hlen];exact hi'
     have e1:(ps.map (·.1)++[AV.iptr none et xs i0 j0])[i]=ps[i].1:=by rw[zC1 (by simpa using hi'),zA1]
     have e2:(args.map a.eval++[pv]).toArray.getD i undef=a.eval args[i]:=by
      simp[Array.getD,ha];intro h;omega
     rw[e1,e2];refine hpure [] _ (λ_ _ h=>by cases h) i hi' ?_
     cases e:ps[i].2.1 with
     |none=>rfl
     |some s=>have:=X5 (zI hi') e;rw[hl]at this;cases this
   . have hi2:i=ps.length:=by simp at hi;omega
     subst hi2;have e1:(ps.map (·.1)++[AV.iptr none et xs i0 j0])[ps.length]= .iptr none et xs i0 j0:=by simp
     have e2:(args.map a.eval++[pv]).toArray.getD ps.length undef=pv:=by simp[Array.getD,hlen]
     rw[e1,e2];exact hpv1 _) (by rw[hnil'];exact z01) (by rw[hnil'];simp) (Zg hnoref')
   (fun b n hb=>by
     simp only[whoC]at hb;split at hb
     . cases hb
     . rename_i m hm;simp only[zS,if_false]at hb;split at hb
       . cases hb
       . injection hb with hb;exact⟨S1.wsz b m hm,.inr hb.symm⟩)
  unfold Oper.wp;rw[hop,Jj hen,Oper.upon_enter];refine Calls.mono (hcalls ((hEP▸S1.glob:GlobOK P who1 w).whoC (λb h=>by simp[whoC,h]))) λe w' hp=> ?_
  obtain⟨c,β',who',rfl,_,p1,p2,p3,p4,p5,p6,p7,p8,p9,p10,p11⟩:=hp;have hnd:=(zG.1 p3).1
  obtain⟨S2,k⟩:=Zf (β':=β') (who':=who') (w':=w') (ln:=[]) (rn:=ps.flatMap (·.2.2)) (ns:=names r) (im:=Qs r) S1 hf (λn hn=>by cases hn) hrnF (by simp) p7 p8 p9 p10
   (λn hn=>p4 n (zQ _ hn)) him p11
  refine hnext c w' _ _ (S2.add (new:=[(ren (fresh idx) r,c)]) ?_ ?_ ?_ ?_)
  . intro x hx;obtain rfl:=zA.1 hx;exact Rel.ren p5 k p1
  . simp only[fC,zg1,zL1,Qe];exact Qy (λ_ _ _ _ h=>Yu h) hnd
  . intro x hx n hn s hs;obtain rfl:=zA.1 hx;simp only[Qe,zM]at hn;obtain⟨m,hm,rfl⟩:=hn;exact hf m (p4 m (zQ _ hm)) (S1.occ s _ (qj hs))
  . intro x hx n hn;obtain rfl:=zA.1 hx;rw[Zl (by rw[Xc];exact p5),Qe,zM]at hn
    obtain⟨m,hm,rfl⟩:=hn;exact .inr ⟨m,p4 m (zQ _ hm),rfl⟩
 . exact(Run.fail' h2).elim
def q8t (hT:TTok P T) (hC: ∀f as r os,CO f as r os->Xl P f as r os) (hEP:E.prog=P) {idx mode f:Nat} {o:Oper} {args:List Operand} {tys:List TypeId} {v:AV}
 (h:Run CO (qlo T idx mode f args tys) U v U' R W) (S:Sim E D β who U [] a w) (hf: ∀k,k<16-> ¬D (fresh idx k))
 (hop:execOp a.eval o=callFunc f (args.map a.eval).toArray):OpWp P E D idx U' v o a w:=by
 intro next Q hnext
 obtain⟨ps,U1,_,_,_,_,h1,h2⟩:=Run.bind' h;obtain⟨_,who1,_,S1,hlen,hargs⟩:=Run.passAll hT h1 S
 have hpoX:(∀s∈Y8 ps,names (U1.get s)≠[])-> ∀p∈ps,q2f U1 p:=λhs p hp=>by
  obtain⟨i,hi,rfl⟩:=zi hp;exact(hargs i hi (by rw[<-hlen];exact hi)).passOK λs e=>hs s (X5 hp e)
 have hcg: ∀i (hi:i<args.length),(args.map a.eval).toArray.getD i undef=a.eval args[i]:=λi hi=>by simp[Array.getD,hi]
 have hrnF: ∀n∈ps.flatMap (·.2.2),n≠FN:=λn hn=>by
  obtain⟨p,hp,hn⟩:=zC.1 hn;obtain⟨i,hi,rfl⟩:=zi hp;have ha:=hargs i hi (by rw[<-hlen];exact hi)
  generalize ps[i]=p at*
  obtain⟨av,l,rn⟩:=p;cases l with
  |none=>exact ha.2.2.2 n hn
  |some s=>have e:rn=[]:=ha.1;subst e;cases hn
 have hpure: ∀(ln:List Nat) (βc:Beta),(∀n∈ps.flatMap (·.2.2),n∉ln)-> ∀i (hi:i<ps.length),ps[i].2.1=none->Rel βc (whoC who1 ln (ps.flatMap (·.2.2))) w ps[i].1 (a.eval (args[i]'(by rw[<-hlen];exact hi))):=λln βc hd i hi hl=>by
  have ha:=hargs i hi (by rw[<-hlen];exact hi)
  have hsub: ∀n∈ps[i].2.2,n∈ps.flatMap (·.2.2):=λn hn=>zC.2 ⟨_,zI hi,hn⟩
  generalize ps[i]=p at*
  obtain⟨av,l,rn⟩:=p;simp only at hl;subst hl;refine ha.1 βc _ ⟨λb hb=>by simp[whoC,hb],λb n hb hn=> ?_⟩
  simp[whoC,hb,hd n (hsub n hn),hsub n hn]
 split at h2
 ·
  rename_i hl;have hpo:=hpoX (λs hs=>by rw[hl]at hs;cases hs)
  have hnoref:=J8 hpo;have hnames:=J9 hpo;obtain⟨⟨r,os⟩,U2,_,_,_,_,h3,h4⟩:=Run.bind' h2;obtain⟨hco,rfl⟩:=Run.mcall' h3;obtain⟨hen,hcall⟩:=hC _ _ _ _ hco;dsimp only at h4;have hnil:(ps.map (·.1)).flatMap names=[]:=by rw[hnames,hl];rfl
  have him:Qs r=true->ps.flatMap (·.2.2)=[]:=λhi=>by
   split at h4
   . exact(Run.fail' h4).elim
   . rename_i hc;simp only[hi,zA3,Bool.not_eq_true']at hc;simpa using hc
  have hv:v=ren (fresh idx) r/\U'=U2:=by
   split at h4
   . exact(Run.fail' h4).elim
   . exact Run.pure' h4
  obtain⟨rfl,rfl⟩:=hv
  have hcalls:=hcall (λ_=>undef) (whoC who1 [] (ps.flatMap (·.2.2))) w (args.map a.eval).toArray (by simp[hlen]) (λi hi=>by
   have hi':i<ps.length:=by simpa using hi
   rw[hcg i (by rw[<-hlen];exact hi'),zA1]
   refine hpure [] _ (λ_ _ h=>by cases h) i hi' ?_
   cases e:ps[i].2.1 with
   |none=>rfl
   |some s=>have:=X5 (zI hi') e;rw[hl]at this;cases this) (by rw[hnil];exact z01) (by rw[hnil];simp) (Zg hnoref)
   (fun b n hb=>by
     simp only[whoC]at hb;split at hb
     . cases hb
     . rename_i m hm;simp only[zS,if_false]at hb;split at hb
       . cases hb
       . injection hb with hb;exact⟨S1.wsz b m hm,.inr hb.symm⟩)
  unfold Oper.wp;rw[hop,Jj hen,Oper.upon_enter];refine Calls.mono (hcalls ((hEP▸S1.glob:GlobOK P who1 w).whoC (λb h=>by simp[whoC,h]))) λe w' hp=> ?_
  obtain⟨c,β',who',rfl,_,p1,p2,p3,p4,p5,p6,p7,p8,p9,p10,p11⟩:=hp;have hnd:=(zG.1 p3).1
  obtain⟨S2,k⟩:=Zf (β':=β') (who':=who') (w':=w') (ln:=[]) (rn:=ps.flatMap (·.2.2)) (ns:=names r) (im:=Qs r) S1 hf (λn hn=>by cases hn) hrnF (by simp) p7 p8 p9 p10
   (λn hn=>p4 n (zQ _ hn)) him p11
  refine hnext c w' _ _ (S2.add (new:=[(ren (fresh idx) r,c)]) ?_ ?_ ?_ ?_)
  . intro x hx;obtain rfl:=zA.1 hx;exact Rel.ren p5 k p1
  . simp only[fC,zg1,zL1,Qe];exact Qy (λ_ _ _ _ h=>Yu h) hnd
  . intro x hx n hn s hs;obtain rfl:=zA.1 hx;simp only[Qe,zM]at hn;obtain⟨m,hm,rfl⟩:=hn;exact hf m (p4 m (zQ _ hm)) (S1.occ s _ (qj hs))
  . intro x hx n hn;obtain rfl:=zA.1 hx;rw[Zl (by rw[Xc];exact p5),Qe,zM]at hn
    obtain⟨m,hm,rfl⟩:=hn;exact .inr ⟨m,p4 m (zQ _ hm),rfl⟩
 ·
  rename_i s hl;obtain⟨av,U2,_,_,_,_,h3,h4⟩:=Run.bind' h2;obtain⟨rfl,rfl⟩:=Run.mget' h3;split at h4
  . exact(Run.fail' h4).elim
  rename_i hdis;simp only[zM2,not_or]at hdis;obtain⟨hhd,hdis⟩:=hdis
  have hpo:=hpoX (λs' hs=>by
   rw[hl,zA]at hs;subst hs;intro e;cases e2:Zn (U2.get s')with
   |none=>rw[e2]at hhd;exact hhd rfl
   |some m=>have:=Yr e2;rw[e]at this;cases this)
  have hnoref:=J8 hpo;have hnames:=J9 hpo;obtain⟨⟨r,os⟩,U3,_,_,_,_,h5,h6⟩:=Run.bind' h4;obtain⟨hco,rfl⟩:=Run.mcall' h5;obtain⟨hen,hcall⟩:=hC _ _ _ _ hco;dsimp only at h6;split at h6
  case h_2=>exact(Run.fail' h6).elim
  rename_i ov hov;split at h6
  . exact(Run.fail' h6).elim
  rename_i hc
  have hwn:isWn ov=false:=by
   cases e:isWn ov with
   |false=>rfl
   |true=>exact absurd (by rw[e,zQ3]) hc
  have hc: ¬(!(ps.flatMap (·.2.2)).isEmpty&&(Qs r||Qs ov))=true:=λe=>hc (by rw[e];rfl)
  obtain⟨_,U4,_,_,_,_,h7,h8⟩:=Run.bind' h6;have:=Run.mset' h7;subst this;obtain⟨rfl,rfl⟩:=Run.pure' h8;obtain⟨i,hi,hps,hos⟩:=q7s hov hl;simp only[zK]at hos;have hai:=hargs i hi (by rw[<-hlen];exact hi)
  obtain⟨m,hbx,hln,hnr,hu⟩: ∃m,Zn (U3.get s)=some m/\(names (U3.get s)).length<=16/\noRef (U3.get s)=true/\a.eval (args[i]'(by rw[<-hlen];exact hi))=hvl β m (U3.get s):=by
   generalize ps[i]=p at*
   obtain⟨av,l,rn⟩:=p;simp only at hps;subst hps;obtain⟨_,hai⟩:=hai;rcases hai with hai|⟨m,q1,q2,q3,q4,q5⟩
   . cases e2:Zn (U3.get s)with
     |none=>rw[e2]at hhd;exact absurd rfl hhd
     |some m=>have:=Yr e2;rw[hai]at this;cases this
   . exact⟨m,q1,q4,q3,q5⟩
  have htmp:a.tmps.getD s undef=hvl β m (U3.get s):=q3u hbx (S1.rel s);generalize hlnn:names (U3.get s)=ln at*
  have hdis': ∀n∈ps.flatMap (·.2.2),n∉ln:=λn hn hn'=>by
   apply hdis;exact List.any_eq_true.2 ⟨n,hn,zB1.2 hn'⟩
  have him:(Qs r||Qs ov)=true->ps.flatMap (·.2.2)=[]:=λhi=>by
   simp only[hi,zA3,Bool.not_eq_true']at hc;simpa using hc
  have hnd0:ln.Nodup:=hlnn▸S1.nod s;have hnam:(ps.map (·.1)).flatMap names=ln.map (idxIn ln):=by rw[hnames,hl];simp[hlnn]
  have hlnD: ∀n∈ln,D n:=λn hn=>S1.occ s n (qj (hlnn▸hn))
  have hcalls:=hcall (λk=>β (ln.getD k 0)) (whoC who1 ln (ps.flatMap (·.2.2))) w (args.map a.eval).toArray (by simp[hlen]) (λj hj=>by
   have hj':j<ps.length:=by simpa using hj
   rw[hcg j (by rw[<-hlen];exact hj'),zA1]
   cases e:ps[j].2.1 with
   |none=>exact hpure ln _ hdis' j hj' e
   |some s'=>
    have:=X5 (zI hj') e;rw[hl,zA]at this;subst this;have haj:=hargs j hj' (by rw[<-hlen];exact hj')
    generalize ps[j]=p at*
    obtain⟨av,l,rn⟩:=p;simp only at e;subst e;obtain⟨_,haj⟩:=haj;obtain⟨m',q1,q2,q3,q4,q5⟩:=haj.resolve_left λe=>by have:=Yr hbx;rw[e]at this;cases this
    simp only at q2;rw[q2,q5,hlnn];have hrel:=S1.rel s';have e2:hvl β m' (U3.get s')=a.tmps.getD s' undef:=(q3u q1 hrel).symm;rw[e2];refine Rel.ren q3 ⟨λn hn=> ?_,λn hn b hb=> ?_,λ_ b hb _=>by simp[whoC,hb]⟩ hrel
    . rw[hlnn]at hn;simp only[Jl hn]
    . rw[hlnn]at hn;simp[whoC,hb,hn]) (by rw[hnam];exact Qy (λ_ h1 _ h2 h=>q0t h1 h2 h) hnd0)
   (by
     rw[hnam];intro n' hn';obtain⟨n,hn,rfl⟩:=zM.1 hn';have:=X8 hn;omega) (Zg hnoref)
   (fun b n hb=>by
     simp only[whoC]at hb;split at hb
     . cases hb
     . rename_i n' hn';refine⟨S1.wsz b n' hn',?_⟩;split at hb
       . rename_i hin;injection hb with hb
         exact .inl (by rw[hnam,<-hb];exact zM.2 ⟨n',hin,rfl⟩)
       . split at hb
         . cases hb
         . injection hb with hb;exact .inr hb.symm)
  unfold Oper.wp;rw[hop,Jj hen,Oper.upon_enter];refine Calls.mono (hcalls ((hEP▸S1.glob:GlobOK P who1 w).whoC (λb h=>by simp[whoC,h]))) λe w' hp=> ?_
  obtain⟨c,β',who',rfl,_,p1,p2,p3,p4,p5,p6,p7,p8,p9,p10,p11⟩:=hp;have hov':ov∈os:=List.mem_of_getElem? hos;obtain⟨hnd,hovn⟩:=J5 p3 hov';have hS0:Sim E D β who1 (U3.set s .dead) [] a w:=(S1.takeAll s).drop rfl
  obtain⟨S2,k⟩:=Zf (β':=β') (who':=who') (w':=w') (ln:=ln) (rn:=ps.flatMap (·.2.2)) (ns:=names r++names ov) (im:=Qs r||Qs ov) hS0 hf
   (fun n hn=>⟨λe=>S1.dfn (e▸hlnD n hn),λs' hs'=>by
     by_cases e:s'=s
     . subst e;rw[qh]at hs';simp[names,qi,qc]at hs'
     . rw[qg _ _ e]at hs';exact e (S1.dis s' s n hs' (hlnn▸hn))⟩) hrnF hln p7 p8 p9 p10
   (fun n hn=>by
     rcases zL.1 hn with h|h
     . exact p4 n (zQ _ h)
     . exact p4 n (zf _ (hovn n h))) him p11
  have p6':noRef ov=true:=q1s (zX.1 p6 _ hov') hwn
  have hrov:Rel β' who' w' ov (a.tmps.getD s undef):=by
   obtain⟨hi2,e2⟩:=List.getElem?_eq_some_iff.1 hos;have:=p2 i hi2;rw[hcg i (by rw[<-hlen];exact hi),hu,<-htmp,e2]at this
   exact this
  have h16: ∀n,n∈names ov\/n∈names r->n<16:=λn hn=>by
   rcases hn with h|h
   . exact p4 n (zf _ (hovn n h))
   . exact p4 n (zQ _ h)
  have hfreshσ: ∀m,m<16-> ∀t,fresh idx m∉names ((U3.set s .dead).get t):=λm hm t ht=>hf m hm (hS0.occ t _ (qj ht))
  have S3:=S2.add (new:=[(ren (fresh idx) ov,a.tmps.getD s undef),(ren (fresh idx) r,c)])
   (fun x hx=>by
     rcases mC hx with rfl|hx
     . exact Rel.ren p6' (k.mono (λn hn=>zf _ hn) λe=>by simp[e]) hrov
     . obtain rfl:=zA.1 hx;exact Rel.ren p5 (k.mono (λn hn=>zQ _ hn) λe=>by simp[e]) p1)
   (by
     simp only[fC,zg1,zL1,Qe,<-List.map_append];exact Qy (λ_ _ _ _ h=>Yu h) hnd)
   (fun x hx n hn t ht=>by
     have: ∃m,m<16/\n=fresh idx m:=by
      rcases mC hx with rfl|hx
      . simp only[Qe,zM]at hn;obtain⟨m,hm,rfl⟩:=hn;exact⟨m,h16 m (.inl hm),rfl⟩
      . obtain rfl:=zA.1 hx;simp only[Qe,zM]at hn;obtain⟨m,hm,rfl⟩:=hn;exact⟨m,h16 m (.inr hm),rfl⟩
     obtain⟨m,hm,rfl⟩:=this;exact hfreshσ m hm t ht)
   (fun x hx n hn=>by
     rcases mC hx with rfl|hx
     . rw[Zl (by rw[Xc];exact p6'),Qe,zM]at hn
       obtain⟨m,hm,rfl⟩:=hn;exact .inr ⟨m,h16 m (.inl hm),rfl⟩
     . obtain rfl:=zA.1 hx;rw[Zl (by rw[Xc];exact p5),Qe,zM]at hn
       obtain⟨m,hm,rfl⟩:=hn;exact .inr ⟨m,h16 m (.inr hm),rfl⟩)
  have S4:=S3.putBack (by rw[qh];rfl)
  refine hnext c w' _ _ (S4.ext λt=> ?_)
  by_cases e:t=s
  . subst e;rw[qh,qh]
  . rw[qg _ _ e,qg _ _ e,qg _ _ e]
 ·
  rename_i s t hl;obtain⟨av,U2,_,_,_,_,h3,h4⟩:=Run.bind' h2;obtain⟨rfl,rfl⟩:=Run.mget' h3;obtain⟨bv,U2',_,_,_,_,h3',h4'⟩:=Run.bind' h4;obtain⟨rfl,rfl⟩:=Run.mget' h3';split at h4'
  . exact(Run.fail' h4').elim
  rename_i hdis;simp only[zM2,not_or]at hdis;obtain⟨⟨⟨⟨hst,hhd⟩,hhd2⟩,h16'⟩,hdis⟩:=hdis;have hst:s≠t:=λe=>hst (by rw[e];exact Nat.beq_refl t)
  have h16l:(names (U2'.get s)).length+(names (U2'.get t)).length<=16:=by
   have: ¬(16<(names (U2'.get s)).length+(names (U2'.get t)).length):=λh=>h16' (by simpa [Nat.blt_eq]using h)
   omega
  have hsome: ∀s',s'∈Y8 ps-> ∃m,Zn (U2'.get s')=some m:=λs' hs=>by
   rw[hl]at hs;simp only[zJ,zS,or_false]at hs;rcases hs with rfl|rfl
   . cases e2:Zn (U2'.get s')with
     |none=>rw[e2]at hhd;exact absurd rfl hhd
     |some m=>exact⟨m,rfl⟩
   . cases e2:Zn (U2'.get s')with
     |none=>rw[e2]at hhd2;exact absurd rfl hhd2
     |some m=>exact⟨m,rfl⟩
  have hpo:=hpoX (λs' hs e=>by
   obtain⟨m,hm⟩:=hsome s' hs;have:=Yr hm;rw[e]at this;cases this)
  have hnoref:=qdo (k:=(names (U2'.get s)).length) (s:=t) hpo;have hnames:=qfa (k:=(names (U2'.get s)).length) (s:=t) hpo;obtain⟨⟨r,os⟩,U3,_,_,_,_,h5,h6⟩:=Run.bind' h4';obtain⟨hco,rfl⟩:=Run.mcall' h5;obtain⟨hen,hcall⟩:=hC _ _ _ _ hco;dsimp only at h6;split at h6
  case h_2=>exact(Run.fail' h6).elim
  rename_i o1 o2 hov1 hov2;split at h6
  . exact(Run.fail' h6).elim
  rename_i hc
  have hwn1:isWn o1=false:=by
   cases e:isWn o1 with
   |false=>rfl
   |true=>exact absurd (by rw[e,zh3,zQ3]) hc
  have hwn2:isWn o2=false:=by
   cases e:isWn o2 with
   |false=>rfl
   |true=>exact absurd (by rw[e,zQ3,zQ3]) hc
  have hc: ¬(!(ps.flatMap (·.2.2)).isEmpty&&(Qs r||Qs o1||Qs o2))=true:=λe=>hc (by rw[e];rfl)
  obtain⟨_,U4,_,_,_,_,h7,h8⟩:=Run.bind' h6;have:=Run.mset' h7;subst this;obtain⟨_,U5,_,_,_,_,h9,h10⟩:=Run.bind' h8;have:=Run.mset' h9;subst this;obtain⟨rfl,rfl⟩:=Run.pure' h10;obtain⟨i1,hi1,hps1,hos1⟩:=q0w hov1;obtain⟨i2,hi2,hps2,hos2⟩:=q0w hov2;simp only[zK]at hos1 hos2;have hi12:i1≠i2:=by rintro rfl;rw[hps1]at hps2;injection hps2 with e;exact hst e
  have hlent: ∀j (hj:j<ps.length) s',ps[j].2.1=some s'-> ∃m,Zn (U3.get s')=some m/\ps[j].1=ren (idxIn (names (U3.get s'))) (U3.get s')/\noRef (U3.get s')=true/\
   a.eval (args[j]'(by rw[<-hlen];exact hj))=a.tmps.getD s' undef:=λj hj s' e=>by
   obtain⟨m0,hm0⟩:=hsome s' (X5 (zI hj) e);have haj:=hargs j hj (by rw[<-hlen];exact hj)
   generalize ps[j]=p at*
   obtain⟨av,l,rn⟩:=p;simp only at e;subst e;obtain⟨_,haj⟩:=haj;obtain⟨m',q1,q2,q3,q4,q5⟩:=haj.resolve_left λe=>by have:=Yr hm0;rw[e]at this;cases this
   exact⟨m',q1,q2,q3,by rw[q5];exact(q3u q1 (S1.rel s')).symm⟩
  obtain⟨ln,hlnn⟩: ∃ln,ln=names (U3.get s)++names (U3.get t):=⟨_,rfl⟩;have hd12: ∀n,n∈names (U3.get s)->n∉names (U3.get t):=λn h1 h2=>hst (S1.dis s t n h1 h2)
  have hln16:ln.length<=16:=by rw[hlnn,zO];exact h16l
  have hdis': ∀n∈ps.flatMap (·.2.2),n∉ln:=λn hn hn'=>by
   apply hdis;exact List.any_eq_true.2 ⟨n,hn,zB1.2 (hlnn▸hn')⟩
  have him:(Qs r||(Qs o1||Qs o2))=true->ps.flatMap (·.2.2)=[]:=λhi=>by
   rw[<-Bool.or_assoc]at hi;simp only[hi,zA3,Bool.not_eq_true']at hc;simpa using hc
  have hnd0:ln.Nodup:=by
   rw[hlnn];exact zG.2 ⟨S1.nod s,S1.nod t,λx hx y hy e=>hd12 x hx (e▸hy)⟩
  have hsub: ∀s',s'=s\/s'=t-> ∀n∈names (U3.get s'),n∈ln:=λs' h n hn=>by
   rw[hlnn];rcases h with rfl|rfl
   . exact zQ _ hn
   . exact zf _ hn
  have hidx: ∀s',s'=s\/s'=t-> ∀n∈names (U3.get s'),(if s'=t then idxIn (names (U3.get s')) n+(names (U3.get s)).length else idxIn (names (U3.get s')) n)=idxIn ln n:=λs' h n hn=>by
   rw[hlnn];rcases h with rfl|rfl
   . rw[iN' hst,qhn hn]
   . rw[iP rfl,qfh (λh=>hd12 n h hn)]
  have hnam:(ps.map (q08 (names (U3.get s)).length t)).flatMap names=ln.map (idxIn ln):=by
   rw[hnames,hl];rw[fC,fC,zg1,zL1];rw[zx1 (hidx s (.inl rfl)),zx1 (hidx t (.inr rfl)),<-List.map_append,<-hlnn]
  have hlnD: ∀n∈ln,D n:=λn hn=>by
   rw[hlnn]at hn;rcases zL.1 hn with hn|hn
   . exact S1.occ s n (qj hn)
   . exact S1.occ t n (qj hn)
  have hmem2: ∀s',s'∈Y8 ps->s'=s\/s'=t:=λs' h=>by rw[hl]at h;simpa using h
  have hcalls:=hcall (λk=>β (ln.getD k 0)) (whoC who1 ln (ps.flatMap (·.2.2))) w (args.map a.eval).toArray (by simp[hlen]) (λj hj=>by
   have hj':j<ps.length:=by simpa using hj
   rw[hcg j (by rw[<-hlen];exact hj'),zA1]
   cases e:ps[j].2.1 with
   |none=>
    have:q08 (names (U3.get s)).length t ps[j]=ps[j].1:=by simp only[q08,e]
    rw[this];exact hpure ln _ hdis' j hj' e
   |some s'=>
    have hs':=hmem2 s' (X5 (zI hj') e);obtain⟨m',q1,q2,q3,q5⟩:=hlent j hj' s' e
    have:q08 (names (U3.get s)).length t ps[j]=ren (idxIn ln) (U3.get s'):=by
     simp only[q08,e];rw[q2,<-qiu (hidx s' hs')];split
     . rw[qow]
     . rfl
    rw[this,q5];refine Rel.ren q3 ⟨λn hn=> ?_,λn hn b hb=> ?_,λ_ b hb _=>by simp[whoC,hb]⟩ (S1.rel s')
    . simp only[Jl (hsub s' hs' n hn)]
    . simp[whoC,hb,hsub s' hs' n hn]) (by rw[hnam];exact Qy (λ_ h1 _ h2 h=>q0t h1 h2 h) hnd0)
   (by
     rw[hnam];intro n' hn';obtain⟨n,hn,rfl⟩:=zM.1 hn';have:=X8 hn;omega) (Zg hnoref)
   (fun b n hb=>by
     simp only[whoC]at hb;split at hb
     . cases hb
     . rename_i n' hn';refine⟨S1.wsz b n' hn',?_⟩;split at hb
       . rename_i hin;injection hb with hb
         exact .inl (by rw[hnam,<-hb];exact zM.2 ⟨n',hin,rfl⟩)
       . split at hb
         . cases hb
         . injection hb with hb;exact .inr hb.symm)
  unfold Oper.wp;rw[hop,Jj hen,Oper.upon_enter];refine Calls.mono (hcalls ((hEP▸S1.glob:GlobOK P who1 w).whoC (λb h=>by simp[whoC,h]))) λe w' hp=> ?_
  obtain⟨c,β',who',rfl,_,p1,p2,p3,p4,p5,p6,p7,p8,p9,p10,p11⟩:=hp;obtain⟨ho1,eo1⟩:=List.getElem?_eq_some_iff.1 hos1;obtain⟨ho2,eo2⟩:=List.getElem?_eq_some_iff.1 hos2;have hov1':o1∈os:=List.mem_of_getElem? hos1;have hov2':o2∈os:=List.mem_of_getElem? hos2;have hovn1:=(J5 p3 hov1').2;have hovn2:=(J5 p3 hov2').2
  have hnd:(names o1++(names o2++names r)).Nodup:=by
   have k1:=qgz ho1 ho2 hi12 (zG.1 p3).2.1;rw[eo1,eo2]at k1;rw[<-List.append_assoc];refine zG.2 ⟨k1,(zG.1 p3).1,λx hx y hy e=> ?_⟩
   refine(zG.1 p3).2.2 y hy x ?_ e.symm;rcases zL.1 hx with h|h
   . exact hovn1 x h
   . exact hovn2 x h
  have hS00:Sim E D β who1 (U3.set s .dead) [] a w:=(S1.takeAll s).drop rfl;have hS0:Sim E D β who1 ((U3.set s .dead).set t .dead) [] a w:=(hS00.takeAll t).drop rfl
  obtain⟨S2,k⟩:=Zf (β':=β') (who':=who') (w':=w') (ln:=ln) (rn:=ps.flatMap (·.2.2)) (ns:=names r++(names o1++names o2)) (im:=Qs r||(Qs o1||Qs o2)) hS0 hf
   (fun n hn=>⟨λe=>S1.dfn (e▸hlnD n hn),λs' hs'=>by
     by_cases e2:s'=t
     . subst e2;rw[qh]at hs';simp[names,qi,qc]at hs'
     . rw[qg _ _ e2]at hs';by_cases e:s'=s
       . subst e;rw[qh]at hs';simp[names,qi,qc]at hs'
       . rw[qg _ _ e]at hs';rw[hlnn]at hn;rcases zL.1 hn with hn|hn
         . exact e (S1.dis s' s n hs' hn)
         . exact e2 (S1.dis s' t n hs' hn)⟩) hrnF hln16 p7 p8 p9 p10
   (fun n hn=>by
     rcases zL.1 hn with h|h
     . exact p4 n (zQ _ h)
     . rcases zL.1 h with h|h
       . exact p4 n (zf _ (hovn1 n h))
       . exact p4 n (zf _ (hovn2 n h))) him p11
  have p61:noRef o1=true:=q1s (zX.1 p6 _ hov1') hwn1;have p62:noRef o2=true:=q1s (zX.1 p6 _ hov2') hwn2
  have hrov1:Rel β' who' w' o1 (a.tmps.getD s undef):=by
   obtain⟨_,_,_,_,q5⟩:=hlent i1 hi1 s hps1;have:=p2 i1 ho1;rw[hcg i1 (by rw[<-hlen];exact hi1),q5,eo1]at this
   exact this
  have hrov2:Rel β' who' w' o2 (a.tmps.getD t undef):=by
   obtain⟨_,_,_,_,q5⟩:=hlent i2 hi2 t hps2;have:=p2 i2 ho2;rw[hcg i2 (by rw[<-hlen];exact hi2),q5,eo2]at this
   exact this
  have h16: ∀n,n∈names o1\/n∈names o2\/n∈names r->n<16:=λn hn=>by
   rcases hn with h|h|h
   . exact p4 n (zf _ (hovn1 n h))
   . exact p4 n (zf _ (hovn2 n h))
   . exact p4 n (zQ _ h)
  have hfreshσ: ∀m,m<16-> ∀t',fresh idx m∉names (((U3.set s .dead).set t .dead).get t'):=λm hm t' ht=>hf m hm (hS0.occ t' _ (qj ht))
  have hmemN: ∀x∈[(ren (fresh idx) o1,a.tmps.getD s undef),(ren (fresh idx) o2,a.tmps.getD t undef),(ren (fresh idx) r,c)],∀n∈names x.1,∃m,m<16/\n=fresh idx m:=by
   intro x hx n hn;simp only[zJ,zS,or_false]at hx;rcases hx with rfl|rfl|rfl<;>(simp only[Qe,zM]at hn;obtain⟨m,hm,rfl⟩:=hn)
   . exact⟨m,h16 m (.inl hm),rfl⟩
   . exact⟨m,h16 m (.inr (.inl hm)),rfl⟩
   . exact⟨m,h16 m (.inr (.inr hm)),rfl⟩
  have S3:=S2.add (new:=[(ren (fresh idx) o1,a.tmps.getD s undef),(ren (fresh idx) o2,a.tmps.getD t undef),(ren (fresh idx) r,c)])
   (fun x hx=>by
     simp only[zJ,zS,or_false]at hx;rcases hx with rfl|rfl|rfl
     . exact Rel.ren p61 (k.mono (λn hn=>zf _ (zQ _ hn)) λe=>by simp[e]) hrov1
     . exact Rel.ren p62 (k.mono (λn hn=>zf _ (zf _ hn)) λe=>by simp[e]) hrov2
     . exact Rel.ren p5 (k.mono (λn hn=>zQ _ hn) λe=>by simp[e]) p1)
   (by
     simp only[fC,zg1,zL1,Qe,<-List.map_append];exact Qy (λ_ _ _ _ h=>Yu h) hnd)
   (fun x hx n hn t' ht=>by
     obtain⟨m,hm,rfl⟩:=hmemN x hx n hn;exact hfreshσ m hm t' ht)
   (fun x hx n hn=>by
     have hnr:noRef x.1=true:=by
      simp only[zJ,zS,or_false]at hx;rcases hx with rfl|rfl|rfl<;>rw[Xc]
      . exact p61
      . exact p62
      . exact p5
     rw[Zl hnr]at hn;obtain⟨m,hm,rfl⟩:=hmemN x hx n hn;exact .inr ⟨m,hm,rfl⟩)
  have S4:=S3.putBack (by
   rw[qg _ _ hst,qh];rfl)
  have S5:=S4.putBack (by
   rw[qg _ _ (λe=>hst e.symm),qh];rfl)
  refine hnext c w' _ _ (S5.ext λt'=> ?_)
  by_cases e2:t'=t
  . subst e2;rw[qh,qh]
  . rw[qg _ _ e2,qg _ _ e2];by_cases e:t'=s
    . subst e;rw[qh,qh]
    . rw[qg _ _ e,qg _ _ e,qg _ _ e2,qg _ _ e]
 . exact(Run.fail' h2).elim
end
def RelI.flatW {who who':Who} {w w':World}: ∀{t:Ty} {x:Den t} {g g':Nat->Option Value} {j j':Nat},X7 t=false->(∀i,i<t.size->g' (j'+i)=g (j+i))->RelI who w t x g j->RelI who' w' t x g' j'
 | .int _,_,g,g',j,j',_,hg,h=>by
   have:=hg 0 (by simp[Ty.size])
   exact this.trans h
 | .bool,_,g,g',j,j',_,hg,h=>by
   have:=hg 0 (by simp[Ty.size])
   exact this.trans h
 | .pr a b,_,g,g',j,j',ht,hg,h=>by
   simp only[X7,Bool.or_eq_false_iff]at ht;refine⟨RelI.flatW ht.1 (λi hi=>hg i (by simp only[Ty.size];omega)) h.1,RelI.flatW ht.2 (λi hi=> ?_) h.2⟩
   have:=hg (a.size+i) (by simp only[Ty.size];omega)
   grind
 | .sl _ t,xs,g,g',j,j',ht,hg,h=>by cases ht
 | .opq,_,g,g',j,j',_,hg,h=>by
   have:=hg 0 (by simp[Ty.size])
   obtain⟨v,h1,h2⟩:=h;exact⟨v,this.trans h1,h2⟩
def qih {α:Type} {xs ys:List α} {off len:Nat} (hy:ys.length=len) (h:off+len<=xs.length) {i:Nat} (hi:i<(xs.take off++(ys++xs.drop (off+len))).length):
 (∀(_:i<off) (h2:i<xs.length),(xs.take off++(ys++xs.drop (off+len)))[i]=xs[i])/\
 (∀(h1:off<=i) (h2:i-off<ys.length),(xs.take off++(ys++xs.drop (off+len)))[i]=ys[i-off])/\
 (∀(h1:off+len<=i) (h2:i<xs.length),(xs.take off++(ys++xs.drop (off+len)))[i]=xs[i]):=by
 grind
section
variable {P:Program} {CO:qx} {T:TT} {E:Entry} {D:Nat->Prop} {β β':Beta} {who who':Who} {U U':Slots} {hd:List (AV×Value)} {a:Act} {w w':World} {R W:List Nat}
def qlj (hT:TTok P T) (hC: ∀f as r os,CO f as r os->Xl P f as r os) (hEP:E.prog=P) {idx f:Nat} {o:Oper} {args:List Operand} {tys:List TypeId} {v:AV}
 (h:Run CO (winAV T idx f args tys) U v U' R W) (S:Sim E D β who U [] a w) (hf: ∀k,k<16-> ¬D (fresh idx k))
 (hop:execOp a.eval o=callFunc f (args.map a.eval).toArray):OpWp P E D idx U' v o a w:=by
 intro next Q hnext
 unfold winAV at h;split at h
 case h_2=>exact(Run.fail' h).elim
 rename_i x rest ty tys';obtain⟨ps,U1,_,_,_,_,h1,h2⟩:=Run.bind' h;obtain⟨_,who1,_,S1,hlen,hargs⟩:=Run.passAll hT h1 S;split at h2
 case h_2=>exact(Run.fail' h2).elim
 rename_i hl;obtain⟨rv,U2,_,_,_,_,h3,h4⟩:=Run.bind' h2;obtain⟨rfl,Sr⟩:=Run.rd h3 S1;have hx:=Sr.hrel _ mS;split at h4
 case h_2=>exact(Run.fail' h4).elim
 rename_i s n sz off len;obtain⟨av,U3,_,_,_,_,h5,h6⟩:=Run.bind' h4;obtain⟨rfl,rfl⟩:=Run.mget' h5;split at h6
 case h_2=>exact(Run.fail' h6).elim
 rename_i m t xs hg;split at h6
 case isFalse=>exact(Run.fail' h6).elim
 rename_i hcnd;obtain⟨rfl,rfl,hflat,hnr⟩:=hcnd;obtain⟨_,U4,_,_,_,_,h7,h8⟩:=Run.bind' h6;obtain⟨hpos,rfl⟩:=Run.mask' h7;obtain⟨⟨r,os⟩,U5,_,_,_,_,h9,h10⟩:=Run.bind' h8;obtain⟨hco,rfl⟩:=Run.mcall' h9;obtain⟨hen,hcall⟩:=hC _ _ _ _ hco;dsimp only at h10;split at h10
 case h_2=>exact(Run.fail' h10).elim
 rename_i k z t' ys os';split at h10
 case isFalse=>exact(Run.fail' h10).elim
 rename_i ht;subst ht;obtain⟨_,U6,_,_,_,_,h11,h12⟩:=Run.bind' h10;have:=Run.mset' h11;subst this;obtain⟨rfl,rfl⟩:=Run.pure' h12
 have hpo: ∀p∈ps,q2f U5 p:=λp hp=>by
  obtain⟨i,hi,rfl⟩:=zi hp;exact(hargs i hi (by rw[<-hlen];exact hi)).passOK λs e=>by have:=X5 hp e;rw[hl]at this;cases this
 have hnoref:=J8 hpo;have hnil:(ps.map (·.1)).flatMap names=[]:=by rw[J9 hpo,hl];rfl
 have hrnF: ∀n∈ps.flatMap (·.2.2),n≠FN:=λn hn=>by
  obtain⟨p,hp,hn⟩:=zC.1 hn;obtain⟨i,hi,rfl⟩:=zi hp;have ha:=hargs i hi (by rw[<-hlen];exact hi)
  generalize ps[i]=p at*
  obtain⟨av,l,rn⟩:=p;cases l with
  |none=>exact ha.2.2.2 n hn
  |some s=>have e:rn=[]:=ha.1;subst e;cases hn
 have hdis': ∀n'∈ps.flatMap (·.2.2),n'∉[m]:=λn' hn' hc=>by
  obtain rfl:=zA.1 hc;have:=zB1.2 hn';rw[hnr]at this;cases this
 have hpure: ∀(βc:Beta),∀i (hi:i<ps.length),Rel βc (whoC who1 [m] (ps.flatMap (·.2.2))) w ps[i].1 (a.eval (rest[i]'(by rw[<-hlen];exact hi))):=λβc i hi=>by
  have hl':ps[i].2.1=none:=by
   cases e:ps[i].2.1 with
   |none=>rfl
   |some s=>have:=X5 (zI hi) e;rw[hl]at this;cases this
  have ha:=hargs i hi (by rw[<-hlen];exact hi)
  have hsub: ∀n∈ps[i].2.2,n∈ps.flatMap (·.2.2):=λn hn=>zC.2 ⟨_,zI hi,hn⟩
  generalize ps[i]=p at*
  obtain⟨av,l,rn⟩:=p;simp only at hl';subst hl';refine ha.1 βc _ ⟨λb hb=>by simp[whoC,hb],λb n hb hn=> ?_⟩
  simp[whoC,hb,hdis' n (hsub n hn),hsub n hn]
 have hrel:=S1.rel s;rw[hg]at hrel;obtain⟨hβ,hrel⟩:=(hrel:RelN β who1 w m t' xs (a.tmps.getD s undef));obtain⟨A,L,cap,A',hb1,hb2,hb3,hb4,-⟩:=(hx:q03 (β m) t'.size (some (off,len)) (a.eval x))
 obtain⟨b,o',cap',arr,el,e1,e2,e3,e4,e5,e6⟩: ∃b o cap arr el,a.tmps.getD s undef= .slice (some ⟨b,o,none⟩) xs.length cap/\w.heap[b]? =some (.cells arr el (0,0))/\o+cap*t'.size<=arr.size/\
  xs.length<=cap/\who1 b=some m/\Elems who1 w t' xs b o:=by
  rcases hrel with⟨q1,q2⟩|q
  . rw[hβ,hb1]at q1;injection q1 with _ q1 _
    omega
  . exact q
 have hbb:β m= .slice (some ⟨b,o',none⟩) xs.length cap':=by rw[<-hβ];exact e1
 rw[hbb]at hb1;injection hb1 with hA hL hcap
 subst hL hcap hA;have hA':=hb4 O
 have hv:a.eval x= .slice (some ⟨b,o'+off*t'.size,none⟩) len (cap'-off):=(hb3:a.eval x= .slice A' len (cap'-off)).trans (by
  rw[hA',zf1];unfold Addr.add;split
  . rename_i z;rw[z,zV]
  . rfl)
 have hwl:((xs.drop off).take len).length=len:=by rw[zH1,zq2];omega
 have hmul:o'+off*t'.size+(cap'-off)*t'.size<=arr.size:=by
  have:off*t'.size+(cap'-off)*t'.size=cap'*t'.size:=by rw[<-Nat.add_mul];congr 1;omega
  omega
 let βc:Beta:=λk=>if k=98 then .agg arr else a.eval x
 have hcnone: ∀b,who1 b=none->whoC who1 [m] (ps.flatMap (·.2.2)) b=none:=λb hb=>by simp[whoC,hb]
 have hcb:whoC who1 [m] (ps.flatMap (·.2.2)) b=some 0:=by simp[whoC,e5,idxIn]
 have hwin:Rel βc (whoC who1 [m] (ps.flatMap (·.2.2))) w (.wn 0 t' ((xs.drop off).take len)) (a.eval x):=by
  refine⟨⟨rfl,.inr ⟨b,o'+off*t'.size,cap'-off,arr,el,by rw[hwl];exact hv,e2,hmul,O,hcb,λi hi=> ?_⟩⟩,arr,rfl,λb2 o2 L2 cap2 arr2 el2 q1 q2=> ?_⟩
  . rw[hwl]at hi;have hi2:off+i<xs.length:=O;have:=e6 (off+i) hi2;have ge:((xs.drop off).take len)[i]'(by rw[hwl];exact hi)=xs[off+i]:=by rw[zX2,List.getElem_drop]
    rw[ge];refine RelI.flatW hflat (λj hj=> ?_) this
    rw[show o'+off*t'.size+i*t'.size=o'+(off+i)*t'.size by rw[zP1];omega]
  . rw[hv]at q1;injection q1 with q1 _ _
    injection q1 with q1
    injection q1 with q1 _ _
    subst q1;rw[e2]at q2;injection q2 with q2
    injection q2 with q2 _ _
    subst q2;exact⟨rfl,λ_ _=>rfl⟩
 have hnames:(AV.wn 0 t' ((xs.drop off).take len)::ps.map (·.1)).flatMap names=[0]:=by rw[fC,hnil];rfl
 have hcalls:=hcall βc (whoC who1 [m] (ps.flatMap (·.2.2))) w ((x::rest).map a.eval).toArray (by simp[hlen]) (λj hj=>by
  cases j with
  |zero=>exact hwin
  |succ j=>
   have hj':j<ps.length:=by simpa using hj
   have hjr:j<rest.length:=by rw[<-hlen];exact hj'
   have q1:((x::rest).map a.eval).toArray.getD (j+1) undef=a.eval rest[j]:=by simp[Array.getD,hjr]
   rw[q1,zh2,zA1];exact hpure βc j hj') (by rw[hnames];simp) (by rw[hnames];simp) (by
  rw[zQ2,Zg hnoref];rfl)
  (fun b n hb=>by
    rw[hnames];simp only[whoC]at hb;split at hb
    . cases hb
    . rename_i n' hn';refine⟨S1.wsz b n' hn',?_⟩;split at hb
      . rename_i hin;obtain rfl:=zA.1 hin;injection hb with hb
        exact .inl (by rw[<-hb];simp[idxIn])
      . split at hb
        . cases hb
        . injection hb with hb;exact .inr hb.symm)
 unfold Oper.wp;rw[hop,Jj hen,Oper.upon_enter];refine Calls.mono (hcalls ((hEP▸S1.glob:GlobOK P who1 w).whoC (λb h=>by simp[whoC,h]))) λe w' hp=> ?_
 obtain⟨c,β',who',rfl,p0,p1,p2,p3,p4,p5,p6,p7,p8,p9,p10,p11⟩:=hp;have hout:=p2 0 (by simp)
 have q1:((x::rest).map a.eval).toArray.getD 0 undef=a.eval x:=by simp[Array.getD]
 rw[q1]at hout;obtain⟨⟨y0,hout⟩,arr0,y1,y2⟩:=(hout:RelN β' who' w' 0 t' ys (a.eval x)/\RelW (β' 98) w' t'.size (a.eval x))
 obtain⟨b2,o2,cap2,arr2,el2,z1,z2,z3,z4,z5,z6⟩: ∃b o cap arr el,a.eval x= .slice (some ⟨b,o,none⟩) ys.length cap/\w'.heap[b]? =some (.cells arr el (0,0))/\o+cap*t'.size<=arr.size/\
  ys.length<=cap/\who' b=some 0/\Elems who' w' t' ys b o:=by
  rcases hout with⟨q1,q2⟩|q
  . rw[hv]at q1;cases q1
  . exact q
 have hyl:ys.length=len/\b2=b/\o2=o'+off*t'.size:=by
  rw[hv]at z1;injection z1 with z1 zl _
  injection z1 with z1
  injection z1 with zb zo _
  exact⟨zl.symm,zb.symm,zo.symm⟩
 obtain⟨hyl,rfl,rfl⟩:=hyl;rw[p0]at y1
 have harr:arr0=arr:=by
  have:βc 98= .agg arr:=iP rfl;rw[this]at y1;injection y1 with y1
  exact y1.symm
 subst harr;obtain⟨hsz2,hout2⟩:=y2 b2 _ _ _ arr2 el2 hv z2;have hS0:Sim E D β who1 (U5.set s .dead) [] a w:=(S1.takeAll s).drop rfl;have hmD:D m:=S1.occ s m (by rw[hg];simp[Vs.occ,occA,occC])
 obtain⟨S2,kk⟩:=Zf (β':=λk=>if k=0 then β m else β' k) (who':=who') (w':=w') (ln:=[m]) (rn:=ps.flatMap (·.2.2)) (ns:=[0]) (im:=false) hS0 hf
  (fun n hn=>by
    obtain rfl:=zA.1 hn;refine⟨λe=>S1.dfn (e▸hmD),λs' hs'=> ?_⟩
    by_cases e:s'=s
    . subst e;rw[qh]at hs';simp[names,qi,qc]at hs'
    . rw[qg _ _ e]at hs';exact e (S1.dis s' s n hs' (by rw[hg];simp[names,qi,qc]))) hrnF (by simp) p7 p8 p9 p10
  (λn hn=>by obtain rfl:=zA.1 hn;omega) (λh=>by cases h) p11
 generalize hβ2:beta2 β (λk=>if k=0 then β m else β' k) idx=β2 at*
 generalize hw2:who2 who1 who' idx [m] [0]=wh2 at*
 have hb0:β2 (fresh idx 0)=β m:=by
  rw[<-hβ2];simp only[beta2];rw[iP (by simp only[fresh];omega),zw2,iP rfl]
 have hwb:wh2 b2=some (fresh idx 0):=by
  rw[<-hw2];simp only[who2,z5];rw[iN' (by simp only[FN];omega),iP (by simp)]
 have hcell: ∀j i,(j+i<o'+off*t'.size\/o'+off*t'.size+len*t'.size<=j+i)->cellAt w' b2 j i=cellAt w b2 j i:=λj i hj=>by
  simp only[cellAt,World.cell?,z2,e2];exact hout2 (j+i) hj
 have hzl:(xs.take off++(ys++xs.drop (off+len))).length=xs.length:=by
  rw[zO,zO,zH1,zq2];omega
 have hnew:Rel β2 wh2 w' (.sl (.nm (fresh idx 0)) t' (xs.take off++(ys++xs.drop (off+len)))) (a.tmps.getD s undef):=by
  refine⟨by rw[hb0];exact hβ,.inr ⟨b2,o',cap',arr2,el2,by rw[hzl];exact e1,z2,O,by rw[hzl];exact e4,hwb,λi hi=> ?_⟩⟩
  rw[hzl]at hi;obtain⟨g1,g2,g3⟩:=qih (xs:=xs) (ys:=ys) (off:=off) (len:=len) hyl hb2 (i:=i) (by rw[hzl];exact hi)
  by_cases c1:i<off
  . rw[g1 c1 hi];refine RelI.flatW hflat (λj hj=> ?_) (e6 i hi)
    refine hcell _ _ (.inl ?_);have:(i+1)*t'.size<=off*t'.size:=zN _ O;rw[zi3]at this;omega
  . by_cases c2:i<off+len
    . rw[g2 O O];refine RelI.flatW hflat (λj hj=> ?_) (z6 (i-off) O)
      rw[show o'+off*t'.size+(i-off)*t'.size=o'+i*t'.size by
       have:off*t'.size+(i-off)*t'.size=i*t'.size:=by rw[<-Nat.add_mul];congr 1;omega
       omega]
    . rw[g3 O hi];refine RelI.flatW hflat (λj hj=> ?_) (e6 i hi)
      refine hcell _ _ (.inr ?_);have:(off+len)*t'.size<=i*t'.size:=zN _ O;rw[zP1]at this;omega
 have S3:=S2.add (new:=[(.sl (.nm (fresh idx 0)) t' (xs.take off++(ys++xs.drop (off+len))),a.tmps.getD s undef),(.int k z,c)])
  (fun y hy=>by
    rcases mC hy with rfl|hy
    . exact hnew
    . obtain rfl:=zA.1 hy;exact p1)
  (by simp[names,qi,qc])
  (fun y hy n hn t ht=>by
    rcases mC hy with rfl|hy
    . have:n=fresh idx 0:=by simpa [names,qi,qc]using hn
      subst this;exact hf 0 O (hS0.occ t _ (qj ht))
    . obtain rfl:=zA.1 hy;simp[names,qi,qc]at hn)
  (fun y hy n hn=>by
    rcases mC hy with rfl|hy
    . have:n=fresh idx 0:=by simpa [Vs.occ,occA,occC]using hn
      exact .inr ⟨0,O,this⟩
    . obtain rfl:=zA.1 hy;simp[Vs.occ,occA,occC]at hn)
 have S4:=S3.putBack (by rw[qh];rfl)
 refine hnext c w' _ _ (S4.ext λt=> ?_)
 by_cases e:t=s
 . subst e;rw[qh,qh]
 . rw[qg _ _ e,qg _ _ e,qg _ _ e]
end
section
variable {P:Program} {CO:qx} {T:TT} {E:Entry} {D:Nat->Prop} {β β':Beta} {who who':Who} {U U':Slots} {hd:List (AV×Value)} {a:Act} {w w':World} {R W:List Nat}
def qkh (hT:TTok P T) (hC: ∀f as r os,CO f as r os->Xl P f as r os) (hEP:E.prog=P) {idx f:Nat} {o:Oper} {args:List Operand} {tys:List TypeId} {v:AV}
 (h:Run CO (rowAV T idx f args tys) U v U' R W) (S:Sim E D β who U [] a w) (hf: ∀k,k<16-> ¬D (fresh idx k))
 (hop:execOp a.eval o=callFunc f (args.map a.eval).toArray):OpWp P E D idx U' v o a w:=by
 classical
 intro next Q hnext
 unfold rowAV at h;split at h
 case h_2=>exact(Run.fail' h).elim
 rename_i x rest ty tys';obtain⟨ps,U1,_,_,_,_,h1,h2⟩:=Run.bind' h;obtain⟨_,who1,_,S1,hlen,hargs⟩:=Run.passAll hT h1 S;split at h2
 case h_2=>exact(Run.fail' h2).elim
 rename_i hl;obtain⟨rv,U2,_,_,_,_,h3,h4⟩:=Run.bind' h2;obtain⟨rfl,Sr⟩:=Run.rd h3 S1;have hx:=Sr.hrel _ mS;split at h4
 case h_2=>exact(Run.fail' h4).elim
 rename_i s n i;obtain⟨av,U3,_,_,_,_,h5,h6⟩:=Run.bind' h4;obtain⟨rfl,rfl⟩:=Run.mget' h5;split at h6
 case h_2=>exact(Run.fail' h6).elim
 rename_i m t xs hg;split at h6
 case isFalse=>exact(Run.fail' h6).elim
 rename_i hcnd;obtain⟨rfl,hnr,hnr15⟩:=hcnd;obtain⟨⟨r,os⟩,U5,_,_,_,_,h9,h10⟩:=Run.bind' h6;obtain⟨hco,rfl⟩:=Run.mcall' h9;obtain⟨hen,hcall⟩:=hC _ _ _ _ hco;dsimp only at h10;split at h10
 case h_2=>exact(Run.fail' h10).elim
 rename_i q t' ys os';split at h10
 case isFalse=>exact(Run.fail' h10).elim
 rename_i ht;subst ht;split at h10
 . exact(Run.fail' h10).elim
 rename_i himm;obtain⟨_,U6,_,_,_,_,h11,h12⟩:=Run.bind' h10;have:=Run.mset' h11;subst this;obtain⟨rfl,rfl⟩:=Run.pure' h12
 have hpo: ∀p∈ps,q2f U5 p:=λp hp=>by
  obtain⟨i,hi,rfl⟩:=zi hp;exact(hargs i hi (by rw[<-hlen];exact hi)).passOK λs e=>by have:=X5 hp e;rw[hl]at this;cases this
 have hnoref:=J8 hpo;have hnil:(ps.map (·.1)).flatMap names=[]:=by rw[J9 hpo,hl];rfl
 have hrnF: ∀n∈ps.flatMap (·.2.2),n≠FN:=λn hn=>by
  obtain⟨p,hp,hn⟩:=zC.1 hn;obtain⟨i,hi,rfl⟩:=zi hp;have ha:=hargs i hi (by rw[<-hlen];exact hi)
  generalize ps[i]=p at*
  obtain⟨av,l,rn⟩:=p;cases l with
  |none=>exact ha.2.2.2 n hn
  |some s=>have e:rn=[]:=ha.1;subst e;cases hn
 have him:(Qs r||X7 t')=true->ps.flatMap (·.2.2)=[]:=λhi=>by
  simp only[hi,zA3,Bool.not_eq_true']at himm;simpa using himm
 generalize hrn:ps.flatMap (·.2.2)=rn at*
 have hmr:m∉rn:=λh=>by have:=zB1.2 h;rw[hnr]at this;cases this
 have h15r:fresh idx 15∉rn:=λh=>by have:=zB1.2 h;rw[hnr15]at this;cases this
 have hmD:D m:=S1.occ s m (by rw[hg];simp[Vs.occ,occA,occC])
 have hmF:m≠FN:=λe=>S1.dfn (e▸hmD)
 have h15D: ¬D (fresh idx 15):=hf 15 O;have h15m:fresh idx 15≠m:=λe=>h15D (e▸hmD)
 have h15F:fresh idx 15≠FN:=by simp only[fresh,FN];omega
 have hdp:=S1.dp hg;obtain⟨hx1,-,a0,L0,c0,hx2,hx3⟩:=(hx:DrVal (β m) (.row i) (a.eval x));replace hx1:a.eval x=dpv (β m) (i+1):=hx1;obtain⟨ad1,cap1,hb1⟩:=hdp.base;rw[hb1]at hx2;injection hx2 with _ hL _
 subst hL;obtain⟨d1,b0,o0,cap,arr,el,e1,e2,e3,e4,e5,e6,e7⟩:=hdp.pos (.inr (Ql hx3));have hxi:xs.getD i []=xs[i]:=by simp[List.getD,List.getElem?_eq_getElem hx3]
 rw[hxi]at hcall
 let G:Nat->Prop:=λb'=> ∃oi li ci,dpv (β m) (i+1)= .slice (some ⟨b',oi,none⟩) li ci
 have hG: ∀b',G b'->who1 b'=some m/\b'≠b0:=by
  rintro b' ⟨oi,li,ci,hg'⟩
  rcases(e6 i hx3 (by simp)).2 with⟨q,_⟩|⟨bi,oi',ci',ar,l,k1,k2,k3,k4,k5,k6,k7⟩
  . rw[q]at hg';cases hg'
  . grind
 let whoR:Who:=λb'=>if G b' then some (fresh idx 15)else who1 b'
 have hRG: ∀b',G b'->whoR b'=some (fresh idx 15):=λb' g=>iP g
 have hRn: ∀b',¬G b'->whoR b'=who1 b':=λb' g=>iN' g
 have hRnone: ∀b',who1 b'=none->whoR b'=none:=λb' hb=>by
  rw[hRn b' (λg=>by rw[(hG b' g).1]at hb;cases hb)];exact hb
 have hRnone': ∀b',whoR b'=none->who1 b'=none:=λb' hb=>by
  by_cases g:G b'
  . rw[hRG b' g]at hb;cases hb
  . rw[hRn b' g]at hb;exact hb
 have hS0:Sim E D β whoR (U5.set s .dead) [] a w:=by
  refine((S1.takeAll s).drop rfl).shift (X:=[m]) (by simpa using λe=>hmF e.symm) (λ_ _=>rfl)
   (fun b' x hb hx=>⟨by
     rw[hRn b' (λg=>by
      rw[(hG b' g).1]at hb;injection hb with hb;exact hx (by simp[hb]))];exact hb,rfl⟩)
   (fun b' hb=>⟨hRnone b' hb,rfl⟩) (λb' x hb=>by
     by_cases g:G b'
     . exact⟨_,(hG b' g).1⟩
     . rw[hRn b' g]at hb;exact⟨_,hb⟩) rfl (λs' x hx hs=>by
     obtain rfl:=zA.1 hx;by_cases e:s'=s
     . subst e;rw[qh]at hs;simp[names,qi,qc]at hs
     . rw[qg _ _ e]at hs;exact absurd (S1.dis s' s _ hs (by rw[hg];simp[names,qi,qc])) e) (λz hz=>by cases hz) ⟨rfl,rfl⟩
 let whoK:Who:=whoC whoR [fresh idx 15] rn
 have hKG: ∀b',G b'->whoK b'=some 0:=λb' g=>by simp[whoK,whoC,hRG b' g,idxIn]
 have hKnone: ∀b',who1 b'=none->whoK b'=none:=λb' hb=>by simp[whoK,whoC,hRnone b' hb]
 have hKm: ∀b',who1 b'=some m-> ¬G b'->whoK b'=some FN:=λb' hb g=>by
  have: ¬(m=fresh idx 15):=λe=>h15m e.symm
  simp[whoK,whoC,hRn b' g,hb,this,hmr]
 let βc:Beta:=λ_=>a.eval x
 have hpure: ∀i (hi:i<ps.length),Rel βc whoK w ps[i].1 (a.eval (rest[i]'(by rw[<-hlen];exact hi))):=λi hi=>by
  have hl':ps[i].2.1=none:=by
   cases e:ps[i].2.1 with
   |none=>rfl
   |some s=>have:=X5 (zI hi) e;rw[hl]at this;cases this
  have ha:=hargs i hi (by rw[<-hlen];exact hi)
  have hsub: ∀n∈ps[i].2.2,n∈rn:=λn hn=>hrn▸zC.2 ⟨_,zI hi,hn⟩
  generalize ps[i]=p at*
  obtain⟨av,l,rn'⟩:=p;simp only at hl';subst hl';refine ha.1 βc _ ⟨λb hb=>hKnone b hb,λb n hb hn=> ?_⟩
  have hnr:=hsub n hn;have g: ¬G b:=λg=>by rw[(hG b g).1]at hb;injection hb with hb;exact hmr (hb▸hnr)
  have n15: ¬(n=fresh idx 15):=λe=>h15r (e▸hnr)
  simp[whoK,whoC,hRn b g,hb,n15,hnr]
 have hE1: ∀(zs:List (Den t')) b o,Elems who1 w t' zs b o->Elems whoK w t' zs b o:=λzs b o he=>
  he.keep (λb' hb _=>⟨hKnone b' hb,rfl⟩) (zD _) rfl
 have hrow:Rel βc whoK w (.sl (.nm 0) t' xs[i]) (a.eval x):=by
  refine⟨rfl,?_⟩;rw[hx1];rcases(e6 i hx3 (by simp)).2 with⟨q1,q2⟩|⟨bi,oi,ci,ar,l,k1,k2,k3,k4,k5,k6,k7⟩
  . exact .inl ⟨q1,q2⟩
  . exact .inr ⟨bi,oi,ci,ar,l,k1,k2,k3,k4,hKG bi ⟨_,_,_,k1⟩,hE1 _ _ _ k7⟩
 have hnames:(AV.sl (.nm 0) t' xs[i]::ps.map (·.1)).flatMap names=[0]:=by rw[fC,hnil];rfl
 have hcalls:=hcall βc whoK w ((x::rest).map a.eval).toArray (by simp[hlen]) (λj hj=>by
  cases j with
  |zero=>exact hrow
  |succ j=>
   have hj':j<ps.length:=by simpa using hj
   have hjr:j<rest.length:=by rw[<-hlen];exact hj'
   have q1:((x::rest).map a.eval).toArray.getD (j+1) undef=a.eval rest[j]:=by simp[Array.getD,hjr]
   rw[q1,zh2,zA1];exact hpure j hj') (by rw[hnames];simp) (by rw[hnames];simp) (by
  rw[zQ2,Zg hnoref];rfl)
  (fun b n hb=>by
    rw[hnames];simp only[whoK,whoC]at hb;split at hb
    . cases hb
    . rename_i n' hn';refine⟨hS0.wsz b n' hn',?_⟩;split at hb
      . rename_i hin;obtain rfl:=zA.1 hin;injection hb with hb
        exact .inl (by rw[<-hb];simp[idxIn])
      . split at hb
        . cases hb
        . injection hb with hb;exact .inr hb.symm)
 unfold Oper.wp;rw[hop,Jj hen,Oper.upon_enter];refine Calls.mono (hcalls ((hEP▸S1.glob:GlobOK P who1 w).whoC (λb h=>hKnone b h))) λe w' hp=> ?_
 obtain⟨c,β',who',rfl,p0,p1,p2,p3,p4,p5,p6,p7,p8,p9,p10,p11⟩:=hp;have hout:=p2 0 (by simp)
 have q1:((x::rest).map a.eval).toArray.getD 0 undef=a.eval x:=by simp[Array.getD]
 rw[q1]at hout;obtain⟨y0,hout⟩:=(hout:RelN β' who' w' q t' ys (a.eval x));have hq16:q<16:=p4 q (zf _ (by simp[names,qi,qc]))
 have hqr:q∉names r:=λhq=>by
  have:=(zG.1 p3).2.2 q hq q (by simp[names,qi,qc])
  exact this rfl
 have hnd:=(zG.1 p3).1
 obtain⟨S2,kk⟩:=Zf (β':=β') (who':=who') (w':=w') (ln:=[fresh idx 15]) (rn:=rn) (ns:=names r++[q]) (im:=Qs r||X7 t') hS0 hf
  (fun n hn=>by
    obtain rfl:=zA.1 hn;exact⟨h15F,λs' hs'=>h15D (hS0.occ s' _ (qj hs'))⟩) hrnF (by simp) p7 p8 p9 p10
  (fun n hn=>by
    rcases zL.1 hn with h|h
    . exact p4 n (zQ _ h)
    . obtain rfl:=zA.1 h;exact hq16) him p11
 have hin15: ∀n,D n-> ¬(fresh idx 0<=n/\n<=fresh idx 15):=λn hn ⟨h1,h2⟩=>by
  refine hf (n-fresh idx 0) (by simp only[fresh]at*;omega) ?_
  rwa [show fresh idx (n-fresh idx 0)=n by simp only[fresh]at*;omega]
 have hβm:beta2 β β' idx m=β m:=by simp only[beta2];rw[iN' (hin15 m hmD)]
 have hw2m: ∀b',who1 b'=some m-> ¬G b'->who2 whoR who' idx [fresh idx 15] (names r++[q]) b'=some m/\w'.heap[b']? =w.heap[b']? :=λb' hb g=>by
  have hk:=hKm b' hb g;refine⟨?_,p7 b' (S1.wsz b' m hb) (.inr hk)⟩;simp only[who2,p10 b' hk];rw[iP trivial,hRn b' g,hb]
 have hw2none: ∀b',who1 b'=none->b'<w.heap.size->who2 whoR who' idx [fresh idx 15] (names r++[q]) b'=none/\w'.heap[b']? =w.heap[b']? :=λb' hb hlt=>by
  have hk:=hKnone b' hb;refine⟨?_,p7 b' hlt (.inl hk)⟩
  have:who' b'=none:=by
   cases e:who' b' with
   |none=>rfl
   |some n=>
    rcases(p8 b' n e).2 with h|h
    . exact absurd hk h
    . omega
  simp only[who2,this,hRnone b' hb]
 generalize hβ2:beta2 β β' idx=β2 at*
 have hw2q: ∀b',who' b'=some q->who2 whoR who' idx [fresh idx 15] (names r++[q]) b'=some (fresh idx q):=λb' hb=>kk.own q (by simp) b' hb
 generalize hw2:who2 whoR who' idx [fresh idx 15] (names r++[q])=wh2 at*
 have hqD: ¬D (fresh idx q):=hf q hq16;have hqm:fresh idx q≠m:=λe=>hqD (e▸hmD)
 have hqF:fresh idx q≠FN:=by simp only[fresh,FN];omega
 let who3:Who:=λb'=>if wh2 b'=some (fresh idx q)then some m else wh2 b'
 have h3q: ∀b',wh2 b'=some (fresh idx q)->who3 b'=some m:=λb' g=>iP g
 have h3n: ∀b',wh2 b'≠some (fresh idx q)->who3 b'=wh2 b':=λb' g=>iN' g
 have h3none: ∀b',wh2 b'=none->who3 b'=none:=λb' hb=>by rw[h3n b' (by rw[hb];simp)];exact hb
 have h3m: ∀b',wh2 b'=some m->who3 b'=some m:=λb' hb=>by
  rw[h3n b' (by rw[hb];intro e;injection e with e;exact hqm e.symm)];exact hb
 have hqS: ∀s',fresh idx q∉names ((U5.set s .dead).get s'):=λs' hs=>hqD (hS0.occ s' _ (qj hs))
 have S3:Sim E (Dn D idx) β2 who3 (U5.set s .dead) [] a w':=by
  refine S2.shift (X:=[fresh idx q]) (by simpa using λe=>hqF e.symm) (λ_ _=>rfl)
   (fun b' x hb hx=>⟨by
     rw[h3n b' (by rw[hb];intro e;injection e with e;exact hx (by simp[e]))];exact hb,rfl⟩)
   (fun b' hb=>⟨h3none b' hb,rfl⟩) (λb' x hb=>by
     by_cases g:wh2 b'=some (fresh idx q)
     . exact⟨_,g⟩
     . rw[h3n b' g]at hb;exact⟨_,hb⟩) rfl (λs' x hx hs=>by
     obtain rfl:=zA.1 hx;exact absurd hs (hqS s')) (λz hz=>by cases hz) ⟨rfl,rfl⟩
 have hE3: ∀(zs:List (Den t')) b o,w'.heap[b]? =w.heap[b]? ->Elems who1 w t' zs b o->Elems who3 w' t' zs b o:=λzs b o hb he=>
  he.keep (λb' hb hlt=>⟨h3none b' (hw2none b' hb hlt).1,(hw2none b' hb hlt).2⟩) p9 hb
 have hE4: ∀(zs:List (Den t')) b o,Elems who' w' t' zs b o->Elems who3 w' t' zs b o:=λzs b o he=>by
  cases ht:X7 t' with
  |true=>exact he.keep (λb' hb hl=>⟨h3none b' (kk.imm (by rw[ht,zQ3]) b' hb hl),rfl⟩) (zD _) rfl
  |false=>exact λi hi=>RelI.flat ht (he i hi)
 have hyl:ys.length=xs[i].length:=by
  rw[hx1]at hout;rcases(e6 i hx3 (by simp)).2 with⟨q1,q2⟩|⟨bi,oi,ci,ar,l,k1,k2,k3,k4,k5,k6,k7⟩
  . rcases hout with⟨z1,z2⟩|⟨b2,o2,cap2,arr2,el2,z1,_⟩
    . rw[q2,z2]
    . rw[q1]at z1;cases z1
  . rcases hout with⟨z1,z2⟩|⟨b2,o2,cap2,arr2,el2,z1,_⟩
    . rw[k1]at z1;cases z1
    . rw[k1]at z1;injection z1 with _ z _;exact z.symm
 have hnew:RelDp β2 who3 w' m t' (xs.set i ys) none (a.tmps.getD s undef):=by
  obtain⟨g0,g1⟩:=hw2m b0 e5 (λg=>(hG b0 g).2 rfl)
  refine⟨by rw[hβm];exact d1,.inr ⟨b0,o0,cap,arr,el,by simpa using e1,by rw[g1];exact e2,e3,by simpa using e4,h3m b0 g0,λj hj _=> ?_,?_⟩⟩
  . have hj':j<xs.length:=by simpa using hj
    obtain⟨f1,f2⟩:=e6 j hj' (by simp)
    rw[hβm];refine⟨by rw[Yn g1];exact f1,?_⟩
    by_cases e:j=i
    . subst e;rw[zF1];rw[hx1]at hout;rcases hout with⟨z1,z2⟩|⟨b2,o2,cap2,arr2,el2,z1,z2,z3,z4,z5,z6⟩
      . exact .inl ⟨z1,z2⟩
      . exact .inr ⟨b2,o2,cap2,arr2,el2,z1,z2,z3,z4,h3q b2 (hw2q b2 z5),(hG b2 ⟨_,_,_,z1⟩).2,hE4 _ _ _ z6⟩
    . rw[zS1 (λh=>e h.symm)]
      rcases f2 with f2|⟨bi,oi,ci,ar,l,k1,k2,k3,k4,k5,k6,k7⟩
      . exact .inl f2
      . have hng: ¬G bi:=by
         rintro ⟨oi',li',ci',hg'⟩
         exact e (e7 j i _ _ _ _ _ _ hj' hx3 (by simp) (by simp) k1 hg' rfl)
        obtain⟨m1,m2⟩:=hw2m bi k5 hng;exact .inr ⟨bi,oi,ci,ar,l,k1,by rw[m2];exact k2,k3,k4,h3m bi m1,k6,hE3 _ _ _ m2 k7⟩
  . rw[hβm];simpa using e7
 have S4:=S3.recast (s:=s) (v:= .dp m t' (xs.set i ys) none) (qh ..) hnew (by simp[names,qi,qc])
  (fun x hx s' hs=>by
    simp only[names,qi,qc,zA]at hx;subst hx;by_cases e:s'=s
    . subst e;rw[qh]at hs;simp[names,qi,qc]at hs
    . rw[qg _ _ e]at hs;exact e (S1.dis s' s _ hs (by rw[hg];simp[names,qi,qc])))
  (fun x hx=>by
    simp only[Vs.occ,occA,occC,zA]at hx;subst hx;exact .inl hmD)
 have k3:RenOK β' who' w' β2 who3 (fresh idx) (names r) (Qs r):=
  ⟨fun n hn=>kk.beta n (zQ _ hn),λn hn b hb=>by
    have:=kk.own n (zQ _ hn) b hb
    rw[h3n b (by
     rw[this];intro e;injection e with e
     have:=Yu e;exact hqr (this▸hn))]
    exact this,λhi b hb hl=>h3none b (kk.imm (by rw[hi];rfl) b hb hl)⟩
 have S5:=S4.add (new:=[(ren (fresh idx) r,c)])
  (fun y hy=>by
    obtain rfl:=zA.1 hy;exact Rel.ren p5 k3 p1)
  (by
    simp only[fC,zg1,zL1,Qe];exact Qy (λ_ _ _ _ h=>Yu h) hnd)
  (fun y hy n hn s' hs=>by
    obtain rfl:=zA.1 hy;simp only[Qe,zM]at hn;obtain⟨k,hk,rfl⟩:=hn;have hkD:=hf k (p4 k (zQ _ hk));by_cases e:s'=s
    . subst e;rw[qh]at hs;simp only[names,qi,qc,zA]at hs;exact hkD (hs▸hmD)
    . rw[qg _ _ e]at hs;exact hkD (hS0.occ s' _ (qj hs)))
  (fun y hy n hn=>by
    obtain rfl:=zA.1 hy;rw[Zl (by rw[Xc];exact p5),Qe,zM]at hn
    obtain⟨k,hk,rfl⟩:=hn;exact .inr ⟨k,p4 k (zQ _ hk),rfl⟩)
 refine hnext c w' _ _ (S5.ext λt=> ?_)
 by_cases e:t=s
 . subst e;rw[qh,qh]
 . rw[qg _ _ e,qg _ _ e,qg _ _ e]
end
section
variable {α:Type}
def qkr {ys:List (Int×α)} {k:Int} (h:mGet ys k=none):mAt ys k=ys.length:=by
 induction ys with
 |nil=>rfl
 |cons p r ih=>
  obtain⟨k',x⟩:=p;simp only[mGet]at h;simp only[mAt];split at h
  . cases h
  . rename_i e;rw[iN' e,ih h];rfl
def q55 {ys:List (Int×α)} {k:Int} {x:α} (h:mGet ys k=some x): ∃hl:mAt ys k<ys.length,ys[mAt ys k]=(k,x):=by
 induction ys with
 |nil=>cases h
 |cons p r ih=>
  obtain⟨k',y⟩:=p;simp only[mGet]at h;by_cases e:k'=k
  . rw[iP e]at h;cases h;subst e;have:mAt ((k',x)::r) k'=0:=by simp[mAt]
    exact⟨by rw[this];simp,by simp[this]⟩
  . rw[iN' e]at h;obtain⟨h1,h2⟩:=ih h;have:mAt ((k',y)::r) k=mAt r k+1:=by simp[mAt,e]
    exact⟨by rw[this];simpa using h1,by simp[this,h2]⟩
def q2o {ys:List (Int×α)} {k:Int} {x:α} (h:mGet ys k=none):mPut ys k x=ys++[(k,x)]:=by
 induction ys with
 |nil=>rfl
 |cons p r ih=>
  obtain⟨k',y⟩:=p;simp only[mGet]at h;split at h
  . cases h
  . rename_i e;simp[mPut,e,ih h]
def q4x {ys:List (Int×α)} {k:Int} {x y:α} (h:mGet ys k=some y):mPut ys k x=ys.set (mAt ys k) (k,x):=by
 induction ys with
 |nil=>cases h
 |cons p r ih=>
  obtain⟨k',z⟩:=p;simp only[mGet]at h;by_cases e:k'=k
  . simp[mPut,mAt,e]
  . rw[iN' e]at h;simp[mPut,mAt,e,ih h]
def qi1 {ys:List (Int×α)} {i:Nat} {y:α} (h:i<ys.length):q8f ys i y=ys.set i (ys[i].1,y):=by
 induction ys generalizing i with
 |nil=>simp at h
 |cons p r ih=>
  cases i with
  |zero=>rfl
  |succ i=>simp[q8f,ih (by simpa using h)]
end
section
variable {P:Program} {who:Who} {w:World} {t:Ty}
def qcp {ys:List (Int×Den t)} {es:List MapEntry} (k:Int) (hl:es.length=ys.length) (hk: ∀i (h:i<ys.length),∃e,es[i]? =some e/\e.key= .int .i64 ys[i].1) (n:Nat):
 Instr.findNow (.int .i64) (.int .i64 k) es n=some (match mGet ys k with
  |none=>none
  |some _=>(es[mAt ys k]?).map λe=>(n+mAt ys k,e.val)):=by
 induction ys generalizing es n with
 |nil=>
  have:es=[]:=zJ2 hl;subst this;rfl
 |cons p r ih=>
  obtain⟨k',x⟩:=p;cases es with
  |nil=>simp at hl
  |cons e es=>
   obtain⟨e',h1,h2⟩:=hk 0 (by simp)
   simp only[List.getElem?_cons_zero,zH]at h1;subst h1;simp only[zv1]at h2;have hr:=ih (es:=es) (by simpa using hl) (λi hi=>by have:=hk (i+1) (by simpa using hi);simpa using this) (n+1)
   unfold Instr.findNow;rw[h2];simp only[Instr.sameNow,if_true,mGet,mAt];by_cases e:k'=k
   . subst e;simp
   . have hb:(k==k')=false:=by simpa using λh=>e h.symm
     rw[hb];simp only[hr,iN' e,zH];cases mGet r k with
     |none=>rfl
     |some _=>
      have:n+1+mAt r k=n+(mAt r k+1):=O;simp[this]
structure MapTy (P:Program) (m e:TypeId) (t:Ty):Prop where
 ok: ∃kt i arr,P.underlying m=some (.map kt e)/\P.underlying kt=some (.int .i64)/\P.info? e=some i/\i.zero=some (mval t arr)/\arr.toList=Qb t
def X9 {kt:TypeId} (hk:P.underlying kt=some (.int .i64)) (em:Bool) (k:Int) (w:World):(Instr.checkKey em 10000 kt (.int .i64 k)).run P w= .ok () w:=by
 unfold Instr.checkKey;simp[run_underlying hk]
def Xn {kt:TypeId} (hk:P.underlying kt=some (.int .i64)) {k:Int} {es:List MapEntry} {r:Option (Nat×Value)} (h:Instr.findNow (.int .i64) (.int .i64 k) es 0=some r) (w:World):
 (Instr.findKey kt (.int .i64 k) es).run P w= .ok r w:=by
 unfold Instr.findKey;simp[run_underlying hk,h]
def Ents.find {ys:List (Int×Den t)} {es:List MapEntry} (h:Ents who w t ys es) (k:Int):
 (mGet ys k=none/\Instr.findNow (.int .i64) (.int .i64 k) es 0=some none)\/
 ∃x arr,mGet ys k=some x/\es[mAt ys k]? =some ⟨.int .i64 k,mval t arr,mAt ys k⟩/\Instr.findNow (.int .i64) (.int .i64 k) es 0=some (some (mAt ys k,mval t arr))/\arr.size=t.size/\RelI who w t x (λj=>arr[j]?) 0:=by
 have hf:=qcp k h.1 (λi hi=>let ⟨arr,h1,_⟩:=h.2 i hi;⟨_,h1,rfl⟩) 0
 cases hg:mGet ys k with
 |none=>left;rw[hg]at hf;exact⟨rfl,hf⟩
 |some x=>
  right;obtain⟨hl,hx⟩:=q55 hg;obtain⟨arr,h1,h2,h3⟩:=h.2 _ hl;rw[hx]at h1 h3;rw[hg]at hf;simp only[h1,zf1,zK]at hf;exact⟨x,arr,rfl,h1,hf,h2,h3⟩
def q64 {arr:Array Value} (h:arr.toList=Qb t):arr.size=t.size/\RelI who w t t.zero (λj=>arr[j]?) 0:=by
 refine⟨by rw[<-Array.length_toList,h,Qj],q0e t _ 0 λj hj=> ?_⟩
 have:arr[0+j]? =arr.toList[j]? :=by simp
 rw[this,h,List.getElem?_eq_getElem hj]
def qh0 {β:Beta} {arr:Array Value} {x:Den t} (h:arr.size=t.size) (hr:RelI who w t x (λj=>arr[j]?) 0):RelA β who w (Z8 t x) (mval t arr):=by
 obtain⟨hl,hu⟩:=Jo (β:=β) hr;cases hsl:isSlT t with
 |true=>
  cases t with
  |sl b t'=>
   obtain⟨v,h1,h2⟩:=hu 0 (by simp[unpack])
   simp only[zV]at h1;show RelC β who w (.sl .imm t' x) (arr.getD 0 undef);rw[Array.getD_eq_getD_getElem?,h1];exact h2
  |_=>cases hsl
 |false=>
 unfold Z8 mval;rw[hsl];refine⟨arr,rfl,by simp[hl,h],λj hj=> ?_⟩
 have hj':j<(unpack t x).length:=by simpa using hj
 obtain⟨v,h1,h2⟩:=hu j hj';rw[zA1];simp only[zK]at h1;rw[Array.getD_eq_getD_getElem?,h1];exact h2
def q8u {x:Den t}:names (Z8 t x)=[]/\Vs.occ (Z8 t x)=[]:=by
 cases hsl:isSlT t with
 |true=>
  cases t with
  |sl b t'=>exact⟨rfl,rfl⟩
  |_=>cases hsl
 |false=>
  unfold Z8;rw[hsl];exact⟨Q9 λc hc=>(Jd hc).1,Q9 λc hc=>(Jd hc).2.1⟩
def q0o {x:Den t}: ∀vs,Z8 t x≠ .tup vs:=by
 intro vs h;cases hsl:isSlT t with
 |true=>
  cases t with
  |sl b t'=>cases h
  |_=>cases hsl
 |false=>
  unfold Z8 at h;rw[hsl]at h;cases h
def nA_eq {v:AV} (h: ∀vs,v≠ .tup vs):names v=qi v/\Vs.occ v=occA v/\ ∀(β:Beta) (who:Who) (w:World) (c:Value),Rel β who w v c=RelA β who w v c:=by
 cases v with
 |tup vs=>exact absurd rfl (h vs)
 |_=>exact⟨rfl,rfl,λ_ _ _ _=>rfl⟩
def qim {m e:TypeId} (hm:MapTy P m e t) {v:Value} {ys:List (Int×Den t)}
 (hv:(v= .map none/\ys=[])\/ ∃b es c,v= .map (some b)/\w.heap[b]? =some (.map es c)/\Ents who w t ys es.toList) (k:Int) (ok:Bool):
 ∃arr,(Instr.lookup m v (.int .i64 k) ok).run P w= .ok (if ok then .tuple #[mval t arr,.bool (mGet ys k).isSome]else mval t arr) w/\arr.size=t.size/\RelI who w t ((mGet ys k).getD t.zero) (λj=>arr[j]?) 0:=by
 obtain⟨kt,i,za,h1,h2,h3,h4,h5⟩:=hm.ok;have hz:=Zr (P:=P) h3 h4 w;rcases hv with⟨rfl,rfl⟩|⟨b,es,c,rfl,hb,hE⟩
 . obtain⟨z1,z2⟩:=q64 (who:=who) (w:=w) h5;refine⟨za,?_,z1,z2⟩;have hf:Instr.findNow (.int .i64) (.int .i64 k) [] 0=some none:=rfl;simp[Instr.lookup,run_underlying h1,X9 h2,Xn h2 hf,hz,mGet,Result.andThen]
 . rcases hE.find k with⟨g1,g2⟩|⟨x,arr,g1,g2,g3,g4,g5⟩
   . obtain⟨z1,z2⟩:=q64 (who:=who) (w:=w) h5;refine⟨za,?_,z1,by rw[g1];exact z2⟩
     simp[Instr.lookup,run_underlying h1,MapKept.run_getObj_map hb,X9 h2,Xn h2 g2,hz,g1,Result.andThen]
   . refine⟨arr,?_,g4,by rw[g1];exact g5⟩
     simp[Instr.lookup,run_underlying h1,MapKept.run_getObj_map hb,X9 h2,Xn h2 g3,g1,Result.andThen]
def World.putMap (w:World) (b:Nat) (es:Array MapEntry) (c:Nat):World:={w with heap:=w.heap.setIfInBounds b (.map es c)}
def qhr {m e:TypeId} (hm:MapTy P m e t) {ys:List (Int×Den t)} {b:Nat} {es:Array MapEntry} (hb:w.heap[b]? =some (.map es ys.length)) (hE:Ents who w t ys es.toList) (k:Int)
 {arr:Array Value} {y:Den t} (ha:arr.size=t.size) (hy:RelI who w t y (λj=>arr[j]?) 0):
 ∃es',(Instr.mapUpdate m (.map (some b)) (.int .i64 k) (mval t arr)).run P w= .ok () (World.putMap w b es' (mPut ys k y).length)/\Ents who w t (mPut ys k y) es'.toList:=by
 obtain⟨kt,i,za,h1,h2,h3,h4,h5⟩:=hm.ok;rcases hE.find k with⟨g1,g2⟩|⟨x,arr0,g1,g2,g3,g4,g5⟩
 . refine⟨es.push ⟨.int .i64 k,mval t arr,ys.length⟩,?_,?_⟩
   . have hl:(mPut ys k y).length=ys.length+1:=by rw[q2o g1];simp
     rw[hl];simp[Instr.mapUpdate,run_underlying h1,MapKept.run_getObj_map hb,X9 h2,Xn h2 g2,MapKept.run_setObj_map _ hb,Result.andThen,World.putMap]
   . rw[q2o g1];refine⟨by simp[hE.1],λj hj=> ?_⟩
     by_cases e:j<ys.length
     . obtain⟨a1,q1,q2,q3⟩:=hE.2 j e;refine⟨a1,?_,q2,by rw[zC1 e];exact q3⟩
       rw[zC1 e,zR3,List.getElem?_append_left (by rw[hE.1];exact e)]
       exact q1
     . have:j=ys.length:=by simp at hj;omega
       subst this;refine⟨arr,?_,ha,by simpa using hy⟩
       rw[zR3,List.getElem?_append_right (by rw[hE.1];omega),hE.1]
       simp
 . obtain⟨hl,hx⟩:=q55 g1;have hgs:es[mAt ys k]? =some ⟨.int .i64 k,mval t arr0,mAt ys k⟩:=by simpa using g2
   refine⟨es.modify (mAt ys k) λe=>{e with key:= .int .i64 k,val:=mval t arr},?_,?_⟩
   . have hl:(mPut ys k y).length=ys.length:=by rw[q4x g1];simp
     rw[hl];simp[Instr.mapUpdate,run_underlying h1,MapKept.run_getObj_map hb,X9 h2,Xn h2 g3,MapKept.run_setObj_map _ hb,Result.andThen,World.putMap,hgs,Instr.keyThatStays,Instr.sameBits]
   . rw[q4x g1];refine⟨by simp[hE.1],λj hj=> ?_⟩
     have hj':j<ys.length:=by simpa using hj
     obtain⟨a1,q1,q2,q3⟩:=hE.2 j hj';by_cases e:mAt ys k=j
     . subst e;refine⟨arr,?_,ha,by rw[zF1];exact hy⟩
       rw[zF1];simp[hgs]
     . refine⟨a1,?_,q2,by rw[zS1 e];exact q3⟩
       rw[zS1 e];have:es[j]? =some ⟨.int .i64 ys[j].1,mval t a1,j⟩:=by simpa using q1
       simp[e,this]
def qbg {m e:TypeId} (hm:MapTy P m e t) {ys:List (Int×Den t)} {b:Nat} {es:Array MapEntry} (hb:w.heap[b]? =some (.map es ys.length)) (hE:Ents who w t ys es.toList) (k:Int):
 ∃es' arr,(Instr.mapEntry m (.map (some b)) (.int .i64 k)).run P w= .ok (.tuple #[mval t arr,.int .i64 (mAt ys k:Nat)]) (World.putMap w b es' (mPut ys k ((mGet ys k).getD t.zero)).length)/\
  Ents who w t (mPut ys k ((mGet ys k).getD t.zero)) es'.toList/\arr.size=t.size/\RelI who w t ((mGet ys k).getD t.zero) (λj=>arr[j]?) 0:=by
 obtain⟨kt,i,za,h1,h2,h3,h4,h5⟩:=hm.ok;have hz:=Zr (P:=P) h3 h4 w;obtain⟨z1,z2⟩:=q64 (who:=who) (w:=w) h5;rcases hE.find k with⟨g1,g2⟩|⟨x,arr0,g1,g2,g3,g4,g5⟩
 . refine⟨es.push ⟨.int .i64 k,mval t za,ys.length⟩,za,?_,?_,z1,by rw[g1];exact z2⟩
   . have hl:(mPut ys k ((mGet ys k).getD t.zero)).length=ys.length+1:=by rw[q2o g1];simp
     rw[hl,qkr g1];simp[Instr.mapEntry,run_underlying h1,MapKept.run_getObj_map hb,X9 h2,Xn h2 g2,MapKept.run_setObj_map _ hb,Result.andThen,World.putMap,hz,goInt]
   . rw[q2o g1];refine⟨by simp[hE.1],λj hj=> ?_⟩
     by_cases e:j<ys.length
     . obtain⟨a1,q1,q2,q3⟩:=hE.2 j e;refine⟨a1,?_,q2,by rw[zC1 e];exact q3⟩
       rw[zC1 e,zR3,List.getElem?_append_left (by rw[hE.1];exact e)]
       exact q1
     . have:j=ys.length:=by simp at hj;omega
       subst this;refine⟨za,?_,z1,by simpa [g1]using z2⟩
       rw[zR3,List.getElem?_append_right (by rw[hE.1];omega),hE.1]
       simp
 . obtain⟨hl,hx⟩:=q55 g1;have hgs:es[mAt ys k]? =some ⟨.int .i64 k,mval t arr0,mAt ys k⟩:=by simpa using g2
   have hp:mPut ys k ((mGet ys k).getD t.zero)=ys:=by
    rw[q4x g1,g1];simp only[zu1];rw[<-hx];exact zy1 hl
   rw[hp];refine⟨es.modify (mAt ys k) λe=>{e with key:= .int .i64 k},arr0,?_,?_,g4,by rw[g1];exact g5⟩
   . simp[Instr.mapEntry,run_underlying h1,MapKept.run_getObj_map hb,X9 h2,Xn h2 g3,MapKept.run_setObj_map _ hb,Result.andThen,World.putMap,hgs,Instr.keyThatStays,Instr.sameBits,goInt]
   . refine⟨by simp[hE.1],λj hj=> ?_⟩
     obtain⟨a1,q1,q2,q3⟩:=hE.2 j hj;refine⟨a1,?_,q2,q3⟩;have hj2:es[j]? =some ⟨.int .i64 ys[j].1,mval t a1,j⟩:=by simpa using q1
     by_cases e:mAt ys k=j
     . subst e;rw[hx]at hj2⊢;simp[hj2]
     . simp[e,hj2]
def findIdx_born {es:List MapEntry} {n i:Nat} (hb: ∀j,j<es.length-> ∃e,es[j]? =some e/\e.born=n+j) (hi:i<es.length):
 es.findIdx? (λe=>((e.born:Nat):Int)==((n+i:Nat):Int))=some i:=by
 induction es generalizing n i with
 |nil=>simp at hi
 |cons e es ih=>
  obtain⟨e',h1,h2⟩:=hb 0 (by simp)
  simp only[List.getElem?_cons_zero,zH]at h1;subst h1;cases i with
  |zero=>simp[List.findIdx?_cons,h2]
  |succ i=>
   have:=ih (n:=n+1) (i:=i) (λj hj=>by
    obtain⟨e',h1,h2⟩:=hb (j+1) (by simpa using hj)
    exact⟨e',by simpa using h1,O⟩) (by simpa using hi)
   have e1:n+1+i=n+(i+1):=O;rw[e1]at this;rw[List.findIdx?_cons,iN' (by simp only[h2,beq_iff_eq];omega),this]
   rfl
def q7l {m e:TypeId} {ys:List (Int×Den t)} {b:Nat} {es:Array MapEntry} (hb:w.heap[b]? =some (.map es ys.length)) (hE:Ents who w t ys es.toList) (z:Int) (h0:0<=z) (h1:z<ys.length)
 {arr:Array Value} {y:Den t} (ha:arr.size=t.size) (hy:RelI who w t y (λj=>arr[j]?) 0):
 ∃es',(Instr.entryStore m (.map (some b)) (.int .i64 z) (mval t arr)).run P w= .ok () (World.putMap w b es' (q8f ys z.toNat y).length)/\Ents who w t (q8f ys z.toNat y) es'.toList:=by
 obtain⟨i,rfl⟩: ∃i:Nat,z=i:=⟨z.toNat,O⟩;have hi:i<ys.length:=O
 have hf:=findIdx_born (es:=es.toList) (n:=0) (i:=i) (λj hj=>by
  obtain⟨a1,q1,_⟩:=hE.2 j (by rw[<-hE.1];exact hj)
  exact⟨_,q1,by simp⟩) (by rw[hE.1];exact hi)
 simp only[zK]at hf
 have hf':es.findIdx? (λe=>((e.born:Nat):Int)==(i:Int))=some i:=by
  rw[<-hf,<-List.findIdx?_toArray,Array.toArray_toList]
 simp only[tN];rw[qi1 hi];obtain⟨a0,q1,q2,q3⟩:=hE.2 i hi;have hgs:es[i]? =some ⟨.int .i64 ys[i].1,mval t a0,i⟩:=by simpa using q1
 refine⟨es.modify i λe=>{e with val:=mval t arr},?_,?_⟩
 . simp only[zY];simp[Instr.entryStore,MapKept.run_getObj_map hb,MapKept.run_setObj_map _ hb,Result.andThen,World.putMap,asInt,asIntOf,hf']
 . refine⟨by simp[hE.1],λj hj=> ?_⟩
   have hj':j<ys.length:=by simpa using hj
   obtain⟨a1,p1,p2,p3⟩:=hE.2 j hj';by_cases e:i=j
   . subst e;refine⟨arr,?_,ha,by rw[zF1];exact hy⟩
     rw[zF1];simp[hgs]
   . refine⟨a1,?_,p2,by rw[zS1 e];exact p3⟩
     rw[zS1 e];have:es[j]? =some ⟨.int .i64 ys[j].1,mval t a1,j⟩:=by simpa using p1
     simp[e,this]
end
section
variable {P:Program} {CO:qx} {T:TT} {E:Entry} {D:Nat->Prop} {β:Beta} {who:Who} {U U':Slots} {hd:List (AV×Value)} {a:Act} {w w':World} {R W:List Nat}
def Y5 {b b':Nat} {es:Array MapEntry} {c:Nat} (h:b'≠b):(World.putMap w b es c).heap[b']? =w.heap[b']? :=by
 simp[World.putMap,Ne.symm h]
def q25 {b:Nat} {o:Obj} {es:Array MapEntry} {c:Nat} (h:w.heap[b]? =some o):(World.putMap w b es c).heap[b]? =some (.map es c):=by
 have:=qfs h;simp[World.putMap,this]
def Xk {b:Nat} {es:Array MapEntry} {c:Nat}:(World.putMap w b es c).heap.size=w.heap.size:=by simp[World.putMap]
def Sim.putMap (S:Sim E D β who U [] a w) {s n b c:Nat} {v':AV} {o:Obj} {es:Array MapEntry} (hb:w.heap[b]? =some o) (ho:who b=some n) (hn:n∈names (U.get s))
 (hrel:Rel β who (World.putMap w b es c) v' (a.tmps.getD s undef)) (hnm:names v'=names (U.get s)) (hoc:Vs.occ v'=Vs.occ (U.get s)):Sim E D β who (U.set s v') [] a (World.putMap w b es c):=by
 have hDn:D n:=S.occ s n (qj hn);have S1:=(S.takeAll s).drop rfl
 have hdead: ∀x s',x∈names ((U.set s .dead).get s')->s'≠s/\x∈names (U.get s'):=λx s' h=>by
  by_cases e:s'=s
  . subst e;rw[qh]at h;simp[names,qi,qc]at h
  . rw[qg _ _ e]at h;exact⟨e,h⟩
 have S2:=S1.shift (β':=β) (who':=who) (w':=World.putMap w b es c) (X:=[n]) (λh=>by
  simp only[zJ,zS,or_false]at h;exact S.dfn (by rw[h];exact hDn)) (λ_ _=>rfl)
  (λb' x hb' hx=>⟨hb',Y5 (by rintro rfl;rw[ho]at hb';injection hb' with e;exact hx (by simp[e]))⟩)
  (fun b' hb'=>⟨hb',Y5 (by rintro rfl;rw[ho]at hb';cases hb')⟩) (λb' x h=>⟨x,h⟩) Xk (λs' x hx hs=>by
    obtain⟨g1,g2⟩:=hdead x s' hs;simp only[zJ,zS,or_false]at hx;subst hx;exact absurd (S.dis s' s x g2 hn) g1) (λz hz=>by cases hz) ⟨rfl,rfl⟩
 have S4:=S2.recast (s:=s) (v:=v') (qh ..) hrel (by rw[hnm];exact S.nod s)
  (fun x hx s' hs=>by
    obtain⟨g1,g2⟩:=hdead x s' hs;rw[hnm]at hx;exact g1 (S.dis s' s x g2 hx))
  (λx hx=>S.occ s x (by rw[<-hoc];exact hx))
 refine S4.ext λs'=> ?_
 by_cases e:s'=s
 . subst e;rw[qh,qh]
 . rw[qg _ _ e,qg _ _ e,qg _ _ e]
def ql1 {n j:Nat} {av:AV} {t:Ty} {xs:List (Option (List (Int×Den t)))} (h:mmAt n j av=some ⟨t,xs⟩): ∃m cells,av= .bx (.nm m) cells/\ ∃hj:j<cells.length,cells[j]= .mm n t xs false:=by
 unfold mmAt at h;split at h
 . rename_i m cells;split at h
   . rename_i m' t' xs' hc;split at h
     . rename_i e;subst e;cases h;obtain⟨hj,e⟩:=List.getElem?_eq_some_iff.1 hc;exact⟨m,cells,rfl,hj,e⟩
     . cases h
   . cases h
 . cases h
def q78 {j i m n:Nat} {t:Ty} {y:Option (List (Int×Den t))} {av bv:AV} (h:fillMm j i m n t y av=some bv):
 ∃mb cells xs,av= .bx (.nm mb) cells/\ ∃hj:j<cells.length,cells[j]= .mm n t xs false/\bv= .bx (.nm mb) (cells.set j (.mm m t (xs.set i y) false)):=by
 unfold fillMm at h;split at h
 . rename_i mb cells;split at h
   . rename_i n' t' xs hc;split at h
     . rename_i e;subst e;split at h
       . rename_i e;subst e;cases h;obtain⟨hj,e⟩:=List.getElem?_eq_some_iff.1 hc;exact⟨mb,cells,xs,rfl,hj,e,rfl⟩
       . cases h
     . cases h
   . cases h
 . cases h
def q3q {m n j k:Nat} {cells:List AV} (hnd:(m::cells.flatMap qc).Nodup) (hj:j<cells.length) (hn:n∈qc cells[j]):n≠m/\ ∀(hk:k<cells.length),k≠j->n∉qc cells[k]:=by
 obtain⟨h1,h2⟩:=zU.1 hnd;refine⟨λe=>h1 (e▸zC.2 ⟨_,zI hj,hn⟩),λhk hkj hx=> ?_⟩
 have hs:cells.set j cells[j]=cells:=zy1 hj;rw[<-hs,Qx hj]at h2;obtain⟨q1,q2,q3⟩:=zG.1 h2;obtain⟨p1,p2,p3⟩:=zG.1 q2;rcases zq k j with hl|hl
 . refine q3 n (zC.2 ⟨cells[k],?_,hx⟩) n (zQ _ hn) rfl;rw[List.mem_iff_getElem];exact⟨k,by simp;omega,by simp⟩
 . refine p3 n hn n (zC.2 ⟨cells[k],?_,hx⟩) rfl;rw[List.mem_iff_getElem];exact⟨k-(j+1),by simp;omega,by simp;congr 1;omega⟩
def q6l {n:Nat}: ∀{cells:List AV} {k j:Nat},q5o n cells k=some j->k<=j/\ ∃h:j-k<cells.length,isMo n cells[j-k]=true
 |[],_,_,h=>by cases h
 |c::cs,k,j,h=>by
  simp only[q5o]at h;split at h
  . rename_i hc;cases h;exact⟨zD _,by simp,by simpa using hc⟩
  . obtain⟨h1,h2,h3⟩:=q6l h;have e:j-k=(j-(k+1))+1:=O;refine⟨O,by simp only[za1];omega,?_⟩
    simp only[e,zh2];exact h3
def qlx {n:Nat} {av:AV} {e:Sigma λt:Ty=>List (Int×Den t)} (h:moAt n av=some e):
 ∃m cells j,av= .bx (.nm m) cells/\q5o n cells 0=some j/\ ∃hj:j<cells.length,cells[j]= .mm n e.1 [some e.2] true:=by
 unfold moAt at h;split at h
 . rename_i m cells;split at h
   . rename_i j hj;obtain⟨_,h1,_⟩:=q6l hj;have hlt:j<cells.length:=by simpa using h1
     split at h
     . rename_i m' t ys hc;split at h
       . rename_i e0;subst e0;cases h;refine⟨m,cells,j,rfl,hj,hlt,?_⟩;rw[List.getD_eq_getElem?_getD,List.getElem?_eq_getElem hlt]at hc;exact hc
       . cases h
     . cases h
   . cases h
 . cases h
def qdq {n j:Nat} {t:Ty} {y:List (Int×Den t)} {av bv:AV} {m:Nat} {cells:List AV} (h:qcs n t y av=some bv) (ha:av= .bx (.nm m) cells) (hj:q5o n cells 0=some j):
 bv= .bx (.nm m) (cells.set j (.mm n t [some y] true)):=by
 subst ha;unfold qcs at h;simp only[hj]at h;split at h
 . split at h
   . split at h
     . cases h;rfl
     . cases h
   . cases h
 . cases h
def Zu {need:Bool} {x:Operand} {e:Sigma λt:Ty=>List (Int×Den t)} (h:Run CO (q87 need x) U e U' R W) (S:Sim E D β who U hd a w):
 U'=U/\((need=false/\a.eval x= .map none/\e.2=[])\/ ∃n b es,a.eval x= .map (some b)/\w.heap[b]? =some (.map es e.2.length)/\who b=some n/\Ents who w e.1 e.2 es.toList/\
  ∀ys' (es':Array MapEntry) u U2 R2 W2,Run CO (q52 x e.1 ys') U u U2 R2 W2->Ents who w e.1 ys' es'.toList->hd=[]->Sim E D β who U2 [] a (World.putMap w b es' ys'.length)):=by
 unfold q87 at h;split at h
 case h_2=>exact(Run.fail' h).elim
 rename_i s;obtain⟨av,U1,_,_,_,_,h1,h2⟩:=Run.bind' h;obtain⟨hav,rfl⟩:=Run.mget' h1
 have himm: ∀{b n:Nat} {es:Array MapEntry} {c:Nat},who b=some n-> ∀b',who b'=none->b'<w.heap.size->who b'=none/\(World.putMap w b es c).heap[b']? =w.heap[b']? :=λho b' hb' _=>
  ⟨hb',Y5 (by rintro rfl;rw[ho]at hb';cases hb')⟩
 split at h2
 . rename_i n t ys;obtain⟨rfl,rfl⟩:=Run.pure' h2;refine⟨rfl,.inr ?_⟩;have hr:=S.rel s;rw[<-hav]at hr;obtain⟨ys0,q0,q1,b,es,k1,k2,k3,_,k5⟩:=(hr:RelMm β who w n t [some ys] true _);simp only[zl2,zH,and_true]at q0;subst q0;refine⟨n,b,es,k1,k2,k3,k5,λys' es' u U2 R2 W2 hs hE' hhd=> ?_⟩
   subst hhd;unfold q52 at hs;obtain⟨av2,U3,_,_,_,_,h3,h4⟩:=Run.bind' hs;obtain⟨rfl,rfl⟩:=Run.mget' h3;rw[<-hav]at h4;simp only at h4;have:=Run.mset' h4;subst this;refine S.putMap k2 k3 (by rw[<-hav];simp[names,qi,qc]) ?_ (by rw[<-hav];rfl) (by rw[<-hav];rfl)
   refine⟨ys',rfl,q1,b,es',k1,q25 k2,k3,trivial,hE'.map λx g j hi=>hi.keep (himm k3) (by rw[Xk];exact zD _)⟩
 . rename_i s' n j i;obtain⟨bv,U2,_,_,_,_,h3,h4⟩:=Run.bind' h2;obtain⟨hbv,rfl⟩:=Run.mget' h3;split at h4
   case h_2=>exact(Run.fail' h4).elim
   rename_i t xs hm;obtain⟨u,U3,_,_,_,_,h5,h6⟩:=Run.bind' h4;obtain⟨rfl,rfl⟩:=Run.pure' h6
   have hσ:U'=U2/\(need=true->(xs.getD i none).isSome=true):=by
    cases need with
    |true=>obtain⟨g,rfl⟩:=Run.mask' h5;exact⟨rfl,λ_=>g⟩
    |false=>obtain⟨_,rfl⟩:=Run.pure' h5;exact⟨rfl,λh=>by cases h⟩
   obtain⟨rfl,hneed⟩:=hσ;refine⟨rfl,?_⟩;rw[hbv]at hm;obtain⟨m,cells,hbx,hj,hcj⟩:=ql1 hm;have hr:=S.rel s';rw[hbx]at hr;obtain⟨r0,bb,arr,el,r1,r2,r3,r4⟩:=hr;have hmm:=r4.2 j hj;rw[hcj]at hmm;obtain⟨m1,b1,o1,cap1,arr1,el1,e1,e2,e3,e4,e5,e6,e7⟩:=(hmm:RelMm β who w n t xs false _);have hlook:=S.rel s;rw[<-hav]at hlook;obtain⟨l1,_,a0,L0,c0,l2,l3⟩:=(hlook:DrVal (β n) (.mrow j i) _);have hev:a.eval (.tmp s)=dpv (β n) (i+1):=l1;have hil:i<xs.length:=by rw[<-m1,e1]at l2;injection l2 with _ q _;omega
   have hxi:xs.getD i none=xs[i]:=by simp[List.getD,List.getElem?_eq_getElem hil]
   obtain⟨f1,f2⟩:=e6 i hil;rw[hxi]at hneed⊢;cases hx:xs[i]with
   |none=>
    left;rw[hx]at f2 hneed;refine⟨?_,by rw[hev];exact f2,rfl⟩
    cases need with
    |true=>have:=hneed rfl;cases this
    |false=>rfl
   |some ys=>
    right;rw[hx]at f2;obtain⟨b,es,k1,k2,k3,k4,k5⟩:=f2;refine⟨n,b,es,by rw[hev];exact k1,k2,k3,k5,λys' es' u U2 R2 W2 hs hE' hhd=> ?_⟩
    subst hhd;unfold q52 at hs;obtain⟨av2,U3,_,_,_,_,h3,h4⟩:=Run.bind' hs;obtain⟨rfl,rfl⟩:=Run.mget' h3;rw[<-hav]at h4;simp only at h4;obtain⟨v',hk,rfl⟩:=Run.mupd' h4;obtain⟨mb,cells',xs',hb1,hj',hc',rfl⟩:=q78 hk;rw[hbx]at hb1;cases hb1;rw[hcj]at hc';cases hc';have hnd:=S.nod s';rw[hbx]at hnd;have hnm:n∈qc cells[j]:=by rw[hcj];simp[qc]
    have hap:=λk=>q3q (k:=k) (hnd:(m::cells.flatMap qc).Nodup) hj hnm
    have hheap: ∀b',b'≠b->(World.putMap w b es' ys'.length).heap[b']? =w.heap[b']? :=λb' h=>Y5 h
    have hbb:bb≠b:=by rintro rfl;rw[k2]at r2;cases r2
    have hset:cells.set j (.mm n t xs false)=cells:=by rw[<-hcj];exact zy1 hj
    refine S.putMap k2 k3 (by rw[hbx];exact mT (zC.2 ⟨_,zI hj,hnm⟩)) ?_ ?_ ?_
    . refine⟨r0,bb,arr,el,r1,by rw[hheap bb hbb];exact r2,r3,by rw[zY];exact r4.1,λk hk=> ?_⟩
      have hk':k<cells.length:=by simpa using hk
      rw[zc2];split
      . rename_i ejk;subst ejk
        refine⟨m1,b1,o1,cap1,arr1,el1,by rw[zY];exact e1,by rw[hheap b1 (λe=>k4 e.symm)];exact e2,e3,by rw[zY];exact e4,e5,λi' hi'=> ?_,λp q bi hp hq=>by
         simp only[zY]at hp hq;exact e7 p q bi hp hq⟩
        have hi2:i'<xs.length:=by simpa using hi'
        obtain⟨g1,g2⟩:=e6 i' hi2;refine⟨by rw[Yn (hheap b1 (λe=>k4 e.symm))];exact g1,?_⟩
        by_cases ei:i=i'
        . subst ei;rw[zF1];exact⟨b,es',k1,q25 k2,k3,k4,hE'.map λx g j hi=>hi.keep (himm k3) (by rw[Xk];exact zD _)⟩
        . rw[zS1 ei];cases hxi':xs[i']with
          |none=>rw[hxi']at g2;exact g2
          |some zs=>
           rw[hxi']at g2;obtain⟨b2,es2,p1,p2,p3,p4,p5⟩:=g2;have:b2≠b:=by rintro rfl;exact ei (e7 i i' b2 hil hi2 k1 p1)
           exact⟨b2,es2,p1,by rw[hheap b2 this];exact p2,p3,p4,p5.map λx g j hi=>hi.keep (himm k3) (by rw[Xk];exact zD _)⟩
      . rename_i ejk;refine(r4.2 k hk').keep ⟨λ_ _=>rfl,λx hx b' hb'=>⟨hb',hheap b' ?_⟩,himm k3,by rw[Xk];exact zD _⟩
        rintro rfl
        rw[k3]at hb';injection hb' with hb'
        subst hb';exact(hap k).2 hk' (λe=>ejk e.symm) hx
    . rw[hbx];show m::_=m::_;rw[<-hset,List.set_set,Qx hj,Qx hj];rfl
    . rw[hbx];show m::_=m::_
      have: ∀d:AV,(cells.set j d).flatMap occC=(cells.take j).flatMap occC++(occC d++(cells.drop (j+1)).flatMap occC):=λd=>by
       rw[zN1,iP hj];simp
      rw[this];conv=>rhs;rw[<-hset,this]
      rfl
 . rename_i s' n;obtain⟨bv,U2,_,_,_,_,h3,h4⟩:=Run.bind' h2;obtain⟨hbv,rfl⟩:=Run.mget' h3;split at h4
   case h_2=>exact(Run.fail' h4).elim
   rename_i e0 hm;obtain⟨rfl,rfl⟩:=Run.pure' h4;refine⟨rfl,.inr ?_⟩;rw[hbv]at hm;obtain⟨m,cells,j,hbx,hmc,hj,hcj⟩:=qlx hm;have hr:=S.rel s';rw[hbx]at hr;obtain⟨r0,bb,arr,el,r1,r2,r3,r4⟩:=hr;have hmm:=r4.2 j hj;rw[hcj]at hmm;obtain⟨ys0,q0,q1,b,es,k1,k2,k3,_,k5⟩:=(hmm:RelMm β who w n e.1 [some e.2] true _);simp only[zl2,zH,and_true]at q0;subst q0;have hlook:=S.rel s;rw[<-hav]at hlook;obtain⟨l1,_⟩:=(hlook:DrVal (β n) .mown _)
   have hev:a.eval (.tmp s)= .map (some b):=by
    show a.tmps.getD s undef=_
    rw[l1,<-q1,k1]
   refine⟨n,b,es,hev,k2,k3,k5,λys' es' u U2 R2 W2 hs hE' hhd=> ?_⟩
   subst hhd;unfold q52 at hs;obtain⟨av2,U3,_,_,_,_,h5,h6⟩:=Run.bind' hs;obtain⟨rfl,rfl⟩:=Run.mget' h5;rw[<-hav]at h6;simp only at h6;obtain⟨v',hk,rfl⟩:=Run.mupd' h6;have:=qdq hk hbx hmc;subst this;have hnd:=S.nod s';rw[hbx]at hnd;have hnm:n∈qc cells[j]:=by rw[hcj];simp[qc]
   have hap:=λk=>q3q (k:=k) (hnd:(m::cells.flatMap qc).Nodup) hj hnm
   have hheap: ∀b',b'≠b->(World.putMap w b es' ys'.length).heap[b']? =w.heap[b']? :=λb' h=>Y5 h
   have hbb:bb≠b:=by rintro rfl;rw[k2]at r2;cases r2
   have hset:cells.set j (.mm n e.1 [some e.2] true)=cells:=by rw[<-hcj];exact zy1 hj
   refine S.putMap k2 k3 (by rw[hbx];exact mT (zC.2 ⟨_,zI hj,hnm⟩)) ?_ ?_ ?_
   . refine⟨r0,bb,arr,el,r1,by rw[hheap bb hbb];exact r2,r3,by rw[zY];exact r4.1,λk hk=> ?_⟩
     have hk':k<cells.length:=by simpa using hk
     rw[zc2];split
     . rename_i ejk;subst ejk;exact⟨ys',rfl,q1,b,es',k1,q25 k2,k3,trivial,hE'.map λx g j hi=>hi.keep (himm k3) (by rw[Xk];exact zD _)⟩
     . rename_i ejk;refine(r4.2 k hk').keep ⟨λ_ _=>rfl,λx hx b' hb'=>⟨hb',hheap b' ?_⟩,himm k3,by rw[Xk];exact zD _⟩
       rintro rfl
       rw[k3]at hb';injection hb' with hb'
       subst hb';exact(hap k).2 hk' (λe=>ejk e.symm) hx
   . rw[hbx];show m::_=m::_;rw[<-hset,List.set_set,Qx hj,Qx hj];rfl
   . rw[hbx];show m::_=m::_
     have: ∀d:AV,(cells.set j d).flatMap occC=(cells.take j).flatMap occC++(occC d++(cells.drop (j+1)).flatMap occC):=λd=>by
      rw[zN1,iP hj];simp
     rw[this];conv=>rhs;rw[<-hset,this]
     rfl
 . exact(Run.fail' h2).elim
end
section
variable {P:Program} {CO:qx} {T:TT} {E:Entry} {D:Nat->Prop} {β:Beta} {who:Who} {U U':Slots} {hd:List (AV×Value)} {a:Act} {w w':World} {R W:List Nat}
def q0b (hT:TTok P T) {m:Nat} {t:Ty} (h:mapElem T m t=true): ∃e,MapTy P m e t:=by
 unfold mapElem at h;split at h
 . rename_i e t' cells hti;have:t'=t:=by simpa using h
   subst this;obtain⟨kt,i,arr,h1,h2,h3,h4,h5⟩:=(hT m _ hti).desc;exact⟨e,⟨kt,i,arr,h1,h2,h3,h4,h5⟩⟩
 . cases h
def qhq {t:Ty} {v:AV} {cells:List AV} {y:Den t} {c:Value} (h:Rel β who w v c) (hm:mArg t v=some cells) (hp:cells.all plainCell=true) (hk:Zt t cells=some (y,[])):
 ∃arr,c=mval t arr/\arr.size=t.size/\RelI who w t y (λj=>arr[j]?) 0:=by
 have hca: ∃arr,c=mval t arr/\CellsRel β who w cells arr:=by
  unfold mArg at hm;split at hm
  . split at hm
    . cases hm
    . rename_i hs;cases hm;obtain⟨arr,rfl,h1⟩:=h;exact⟨arr,by unfold mval;rw[hs],h1⟩
  . split at hm
    . rename_i hs;cases hm;have hpv:plainCell v=true:=by simpa using hp
      refine⟨#[c],by unfold mval;rw[hs];rfl,rfl,λj hj=> ?_⟩
      have:j=0:=by simp at hj;exact hj
      subst this;cases v with
      |tup vs=>cases hpv
      |bx o cs=>cases hpv
      |agg cs=>cases hpv
      |_=>exact h
    . cases hm
 obtain⟨arr,rfl,h1,h2⟩:=hca;have hpl: ∀x∈cells,plainCell x=true:=zX.1 hp
 have hlen:t.size<=cells.length/\cells.drop t.size=[]->t.size=cells.length:=λ⟨q1,q2⟩=>by
  have:=congrArg List.length q2;simp at this;omega
 obtain⟨g1,g2,g3⟩:=q33 (β:=β) (who:=who) (w:=w) (f:=λi=>arr.getD i undef) (g:=λj=>some (arr.getD j undef)) (j:=0) hk (λi hi=>q2a (hpl _ (zI hi)) (h2 i hi)) (λi hi=>by simp)
 have hsz:=hlen ⟨g3,g2.symm⟩;refine⟨arr,rfl,by rw[h1];exact hsz.symm,RelI.ext' (λi hi=> ?_) g1⟩
 have:i<arr.size:=O;simp[Array.getD,this]
def qb7 (hT:TTok P T) {idx t:Nat} {l c v:AV} {cl cc:Value} (h:Run CO (qka T idx t l c) U v U' R W) (S:Sim E D β who U hd a w)
 (hl:Rel β who w l cl) (hc:Rel β who w c cc) (hf: ∀k,k<16-> ¬D (fresh idx k)):
 ∃r w' β' who',(Instr.makeSlice t cl cc).run P w= .ok r w'/\Sim E (Dn D idx) β' who' U' ((v,r)::hd) a w':=by
 unfold qka at h;split at h
 . rename_i e ty cells l c hti;have hl':cl= .int .i64 l:=hl;have hc':cc= .int .i64 c:=hc;subst hl' hc';obtain⟨_,U1,_,_,_,_,h1,h2⟩:=Run.bind' h;obtain⟨⟨m0,m1,m2⟩,rfl⟩:=Run.mask' h1;obtain⟨rfl,rfl⟩:=Run.pure' h2;obtain⟨hu,ei,he,hes,hb,hb0,hz⟩:=(hT t _ hti).desc
   have hbb:(ei.bytes:Int)*c<=4096*1073741824:=by
    have h1:(ei.bytes:Int)<=4096:=O
    calc (ei.bytes:Int)*c<=(ei.bytes:Int)*1073741824:=Int.mul_le_mul_of_nonneg_left m2 O
     _<=4096*1073741824:=Int.mul_le_mul_of_nonneg_right h1 O
   have hrun:=run_make (P:=P) w t e ei _ hu he hz .i64 .i64 l c m0 m1 O O;rw[hes,zk1]at hrun
   have hri: ∀i,i<l.toNat->dpv (.tuple ((.slice (some ⟨w.heap.size,0,none⟩) l.toNat c.toNat::List.replicate l.toNat (.map none)).toArray)) (i+1)= .map none:=by
    intro i hi;simp[dpv,Array.getD,hi]
   obtain⟨β',who',S'⟩:=Sim.make (idx:=idx) (v:= .mm (fresh idx 15) ty (List.replicate l.toNat none) false) (c:= .slice (some ⟨w.heap.size,0,none⟩) l.toNat c.toNat)
    (c1:= .tuple ((.slice (some ⟨w.heap.size,0,none⟩) l.toNat c.toNat::List.replicate l.toNat (.map none)).toArray))
    (w':=w.alloc (.cells (madeCells (Value.map none).cells c.toNat) e)) S.take_dead hf rfl
    (fun β' who' g1 g2 g3 g4 _=>by
      refine⟨by rw[g2];rfl,w.heap.size,0,c.toNat,madeCells (Value.map none).cells c.toNat,e,by simp,heap_alloc_new w _,by simp[madeCells],by simp;omega,g3,λi hi=> ?_,λi j bi hi _ q=> ?_⟩
      . have hi':i<l.toNat:=by simpa using hi
        rw[g2,hri i hi'];refine⟨?_,by simp only[List.getElem_replicate];rfl⟩
        have hlt:i<c.toNat:=O;have hh:=heap_alloc_new w (Obj.cells (madeCells (Value.map none).cells c.toNat) e);simp only[cellAt,World.cell?,hh];simp[madeCells,hlt,Value.cells,Nat.mod_one]
      . have hi':i<l.toNat:=by simpa using hi
        rw[g2,hri i hi']at q;cases q)
    (λn hn=> .inr ⟨15,O,by simpa [names,qi,qc]using hn⟩) (by simp[names,qi,qc])
    (λn hn=> .inr ⟨15,O,by simpa [Vs.occ,occA,occC]using hn⟩)
   exact⟨_,_,β',who',hrun,S'⟩
 . exact(Run.fail' h).elim
def q9x (hT:TTok P T) {idx t:Nat} {v:AV} (h:Run CO (q6n T idx t) U v U' R W) (S:Sim E D β who U hd a w) (hf: ∀k,k<16-> ¬D (fresh idx k)):
 ∃r w' β' who',(Instr.makeMap t none).run P w= .ok r w'/\Sim E (Dn D idx) β' who' U' ((v,r)::hd) a w':=by
 unfold q6n at h;split at h
 . rename_i e ty cells hti;obtain⟨rfl,rfl⟩:=Run.pure' h
   obtain⟨β',who',S'⟩:=Sim.make (idx:=idx) (v:= .mm (fresh idx 15) ty [some []] true) (c:= .map (some w.heap.size)) (c1:= .map (some w.heap.size)) (w':=w.alloc (.map #[] 0)) S.take_dead hf rfl
    (λβ' who' g1 g2 g3 g4 _=>⟨[],rfl,g2.symm,w.heap.size,#[],rfl,heap_alloc_new w _,g3,trivial,rfl,λi hi=>absurd hi (zW _)⟩)
    (λn hn=> .inr ⟨15,O,by simpa [names,qi,qc]using hn⟩) (by simp[names,qi,qc])
    (λn hn=> .inr ⟨15,O,by simpa [Vs.occ,occA,occC]using hn⟩)
   exact⟨_,_,β',who',rfl,S'⟩
 . exact(Run.fail' h).elim
def Sim.fillMm {idx s n k i j m:Nat} {t:Ty} {cells:List AV} {xs:List (Option (List (Int×Den t)))} {ys:List (Int×Den t)} {cv:Value} (S:Sim E D β who U [(.mm k t [some ys] true,cv)] a w)
 (hav:U.get s= .bx (.nm m) cells) (hj:j<cells.length) (hcj:cells[j]= .mm n t xs false) (hi:i<xs.length) (hf: ∀k,k<16-> ¬D (fresh idx k)):
 ∃b o L cap arr el,dpv (β n) 0= .slice (some ⟨b,o,none⟩) L cap/\w.heap[b]? =some (.cells arr el (0,0))/\o+i+1<=arr.size/\who b=some n/\
 ∃β' who',Sim E (Dn D idx) β' who' (U.set s (.bx (.nm m) (cells.set j (.mm (fresh idx 15) t (xs.set i (some ys)) false)))) [] a (w.setRow b (ql arr (o+i) [cv])):=by
 classical
 have hr:=S.rel s;rw[hav]at hr;obtain⟨r0,bb,arr0,el0,r1,r2,r3,r4⟩:=hr;have hmm:=r4.2 j hj;rw[hcj]at hmm;obtain⟨h1,b,o,cap,arr,el,e1,e2,e3,e4,e5,e6,e7⟩:=(hmm:RelMm β who w n t xs false _);have hnm:n∈qc cells[j]:=by rw[hcj];simp[qc]
 have hnd:=S.nod s;rw[hav]at hnd;have hnd':(m::cells.flatMap qc).Nodup:=hnd;have hap:=λk=>q3q (k:=k) hnd' hj hnm
 have hns:n∈names (U.get s):=by rw[hav];exact mT (zC.2 ⟨_,zI hj,hnm⟩)
 have hms:m∈names (U.get s):=by rw[hav];exact mS
 have hmD: ¬D (fresh idx 15):=hf 15 O;have hDn:D n:=S.occ s n (qj hns);have hDm:D m:=S.occ s m (qj hms);have hDk:D k:=S.hocc _ mS k (by simp[Vs.occ,occA,occC])
 have hk0: ∀s',k∉names (U.get s'):=λs'=>S.hdis _ mS k (by simp[names,qi,qc]) s'
 have hkn:k≠n:=by rintro rfl;exact hk0 s hns
 have hkm:k≠m:=by rintro rfl;exact hk0 s hms
 have hvR:RelMm β who w k t [some ys] true cv:=S.hrel _ mS;obtain⟨ys0,q0,q1,bk,esk,k1,k2,k3,_,k5⟩:=hvR;simp only[zl2,zH,and_true]at q0;subst q0;refine⟨b,o,xs.length,cap,arr,el,by rw[<-h1];exact e1,e2,O,e5,?_⟩
 let base:Value:= .tuple ((dpv (β n) 0::(List.range xs.length).map λj=>if j=i then cv else dpv (β n) (j+1)).toArray)
 have hb0:dpv base 0=dpv (β n) 0:=rfl
 have hbj: ∀j,j<xs.length->dpv base (j+1)=if j=i then cv else dpv (β n) (j+1):=by
  intro j hj;simp[base,dpv,Array.getD,hj]
 let β':Beta:=λx=>if x=fresh idx 15 then base else β x
 let who':Who:=λb'=>if who b'=some n\/who b'=some k then some (fresh idx 15)else who b'
 obtain⟨w',hw'⟩: ∃w',w'=w.setRow b (ql arr (o+i) [cv]):=⟨_,rfl⟩;rw[<-hw'];have hfit:o+i+[cv].length<=arr.size:=by simp;omega
 have hheapb:w'.heap[b]? =some (.cells (ql arr (o+i) [cv]) el (0,0)):=by rw[hw'];exact setRow_heap w b arr _ el _ e2
 have hoth: ∀b',b'≠b->w'.heap[b']? =w.heap[b']? :=λb' hb=>by rw[hw'];exact setRow_other w b b' _ hb
 have hβ: ∀x,D x->β' x=β x:=λx hx=>by grind
 have hβm:β' (fresh idx 15)=base:=by simp[β']
 have hnone: ∀b',who b'=none->who' b'=none/\w'.heap[b']? =w.heap[b']? :=λb' hb=>by
  grind
 have hsz:w'.heap.size=w.heap.size:=by rw[hw'];simp
 have hI: ∀(x:Den t) g j,RelI who w t x g j->RelI who' w' t x g j:=λx g j hi=>hi.keep (λb' hb _=>hnone b' hb) O
 have hwn: ∀b',who b'=some n->who' b'=some (fresh idx 15):=λb' hb=>by grind
 have hwk: ∀b',who b'=some k->who' b'=some (fresh idx 15):=λb' hb=>by grind
 have hwo: ∀b' x,who b'=some x->x≠n->x≠k->who' b'=some x:=λb' x hb h1 h2=>by grind
 have hcell: ∀j,cellAt w' b o j=if j=i then some cv else cellAt w b o j:=by
  intro j;have c1:w'.cell? ⟨b,o+j,none⟩=(ql arr (o+i) [cv])[o+j]? :=by simp[World.cell?,hheapb]
  have c2:w.cell? ⟨b,o+j,none⟩=arr[o+j]? :=by simp[World.cell?,e2]
  simp only[cellAt,c1,c2];rw[Qk hfit];by_cases e:j=i
  . subst e;simp
  . grind
 have hbk:bk≠b:=by rintro rfl;rw[k2]at e2;cases e2
 have hnew:RelMm β' who' w' (fresh idx 15) t (xs.set i (some ys)) false (arr0.getD j undef):=by
  refine⟨by rw[hβm,hb0];exact h1,b,o,cap,ql arr (o+i) [cv],el,by rw[zY];exact e1,hheapb,by rw[Qm hfit];exact e3,by rw[zY];exact e4,hwn b e5,λj' hj'=> ?_,λp q bi hp hq hp1 hq1=> ?_⟩
  . have hj2:j'<xs.length:=by simpa using hj'
    rw[hβm,hbj j' hj2,hcell];by_cases e:j'=i
    . subst e;rw[iP rfl,iP rfl];refine⟨rfl,?_⟩;rw[zF1];exact⟨bk,esk,k1,by rw[hoth bk hbk];exact k2,hwk bk k3,hbk,k5.map hI⟩
    . rw[iN' e,iN' e,zS1 (λh=>e h.symm)]
      obtain⟨g1,g2⟩:=e6 j' hj2;refine⟨g1,?_⟩;cases hx:xs[j']with
      |none=>rw[hx]at g2;exact g2
      |some zs=>
       rw[hx]at g2;obtain⟨b2,es2,p1,p2,p3,p4,p5⟩:=g2;exact⟨b2,es2,p1,by rw[hoth b2 p4];exact p2,hwn b2 p3,p4,p5.map hI⟩
  . have hp2:p<xs.length:=by simpa using hp
    have hq2:q<xs.length:=by simpa using hq
    rw[hβm,hbj p hp2]at hp1;rw[hβm,hbj q hq2]at hq1
    have hblk: ∀j',j'<xs.length->dpv (β n) (j'+1)= .map (some bi)->who bi=some n:=λj' hj' e=>by
     obtain⟨_,g2⟩:=e6 j' hj';cases hx:xs[j']with
     |none=>rw[hx]at g2;have g2:dpv (β n) (j'+1)= .map none:=g2;rw[g2]at e;cases e
     |some zs=>
      rw[hx]at g2;obtain⟨b2,es2,p1,p2,p3,_⟩:=g2;rw[p1]at e;cases e;exact p3
    have hcv:cv= .map (some bi)->who bi=some k:=λe=>by rw[k1]at e;cases e;exact k3
    by_cases ep:p=i<;>by_cases eq:q=i
    . rw[ep,eq]
    . rw[iP ep]at hp1;rw[iN' eq]at hq1;have:=hblk q hq2 hq1;rw[hcv hp1]at this;injection this with this;exact absurd this hkn
    . rw[iN' ep]at hp1;rw[iP eq]at hq1;have:=hblk p hp2 hp1;rw[hcv hq1]at this;injection this with this;exact absurd this hkn
    . rw[iN' ep]at hp1;rw[iN' eq]at hq1;exact e7 p q bi hp2 hq2 hp1 hq1
 have hDfr: ∀x,x∈(cells.set j .dead).flatMap qc->x∈names (U.get s)/\x≠n:=λx hx=>by
  rw[X0 hj]at hx;have hs:cells.set j cells[j]=cells:=zy1 hj;have hsub:x∈cells.flatMap qc:=by rw[<-hs,Qx hj];grind
  refine⟨by rw[hav];exact mT hsub,?_⟩
  rintro rfl
  have h2:=(zU.1 hnd').2;rw[<-hs,Qx hj,hcj]at h2;obtain⟨q1,q2,q3⟩:=zG.1 h2;obtain⟨p1,p2,p3⟩:=zG.1 q2;rcases zL.1 hx with hx|hx
  . exact q3 x hx x (by simp[qc]) rfl
  . exact p3 x (by simp[qc]) x hx rfl
 have hbb:bb≠b:=by
  rintro rfl
  rw[e5]at r3;injection r3 with r3
  exact(hap 0).1 r3
 have S0:=S.drop rfl;have S1:=(S0.takeAll s).drop rfl
 have hdead: ∀x s',x∈names ((U.set s .dead).get s')->s'≠s/\x∈names (U.get s'):=λx s' h=>by
  by_cases e:s'=s
  . subst e;rw[qh]at h;simp[names,qi,qc]at h
  . rw[qg _ _ e]at h;exact⟨e,h⟩
 have S2:=S1.shift (β':=β') (who':=who') (w':=w') (X:=[n,k]) (λh=>by
  simp only[zJ,zS,or_false]at h;rcases h with h|h
  . exact S.dfn (by rw[h];exact hDn)
  . exact S.dfn (by rw[h];exact hDk)) hβ
  (fun b' x hb hx=>by
    simp only[zJ,zS,or_false,not_or]at hx;exact⟨hwo b' x hb hx.1 hx.2,hoth b' (by rintro rfl;rw[e5]at hb;injection hb with hb;exact hx.1 hb.symm)⟩)
  hnone (λb' x h=>by
   grind) hsz (λs' x hx hs=>by
   obtain⟨g1,g2⟩:=hdead x s' hs;simp only[zJ,zS,or_false]at hx;rcases hx with rfl|rfl
   . exact absurd (S.dis s' s x g2 hns) g1
   . exact absurd g2 (hk0 s')) (λz hz=>by cases hz) (by simp_all)
 have S3:=S2.mono (D':=Dn D idx) (λn h=> .inl h) (Dn_fn S2.dfn)
 have S4:=S3.recast (s:=s) (v:= .bx (.nm m) (cells.set j (.mm (fresh idx 15) t (xs.set i (some ys)) false))) (qh ..) (by
  refine⟨by rw[hβ m hDm];exact r0,bb,arr0,el0,r1,by rw[hoth bb hbb];exact r2,hwo bb m r3 (λe=>(hap 0).1 e.symm) hkm.symm,by rw[zY];exact r4.1,λp hp=> ?_⟩
  have hp':p<cells.length:=by simpa using hp
  rw[zc2];split
  . rename_i e;subst e;exact hnew
  . rename_i e;refine(r4.2 p hp').keep ⟨λx hx=>hβ x (S.occ s x ?_),λx hx b' hb'=> ?_,λb' hb' _=>hnone b' hb',O⟩
    . rw[hav];exact mT (zC.2 ⟨_,zI hp',hx⟩)
    . have hxn:x≠n:=by rintro rfl;exact(hap p).2 hp' (λh=>e h.symm) hx
      have hxk:x≠k:=by
       rintro rfl
       refine hk0 s ?_;rw[hav];exact mT (zC.2 ⟨_,zI hp',hx⟩)
      exact⟨hwo b' x hb' hxn hxk,hoth b' (by rintro rfl;rw[e5]at hb';injection hb' with hb';exact hxn hb'.symm)⟩)
  (by
    show(m::(cells.set j _).flatMap qc).Nodup
    have hfr:fresh idx 15∉m::(cells.set j .dead).flatMap qc:=by
     intro hx;rcases mC hx with hx|hx
     . exact hmD (hx▸hDm)
     . exact hmD (S.occ s _ (qj (hDfr _ hx).1))
    obtain⟨p1,p2⟩:=zU.1 hnd';have hs:cells.set j cells[j]=cells:=zy1 hj;rw[<-hs,Qx hj]at p1 p2;rw[X0 hj]at hfr;rw[Qx hj];simp only[zJ,zL,not_or]at p1 hfr;obtain⟨q1,q2,q3⟩:=zG.1 p2;obtain⟨z1,z2,z3⟩:=zG.1 q2;simp only[qc,zB2,zT2];refine zU.2 ⟨?_,zG.2 ⟨q1,zU.2 ⟨hfr.2.2,z2⟩,λx hx y hy=> ?_⟩⟩
    . simp only[zL,zJ,not_or];exact⟨p1.1,λe=>hfr.1 e.symm,p1.2.2⟩
    . rcases mC hy with rfl|hy
      . rintro rfl;exact hfr.2.1 hx
      . exact q3 x hx y (zf _ hy))
  (fun x hx s' hs=>by
    obtain⟨g1,g2⟩:=hdead x s' hs;have hx:x∈m::(cells.set j (.mm (fresh idx 15) t (xs.set i (some ys)) false)).flatMap qc:=hx;rcases mC hx with rfl|hx
    . exact g1 (S.dis s' s x g2 hms)
    . rcases mem_set hj hx with hx|hx
      . simp only[qc,zA]at hx;subst hx;exact hmD (S.occ s' _ (qj g2))
      . exact g1 (S.dis s' s x g2 (hDfr x hx).1))
  (fun x hx=>by
    have hx:x∈m::(cells.set j (.mm (fresh idx 15) t (xs.set i (some ys)) false)).flatMap occC:=hx;rcases mC hx with rfl|hx
    . exact .inl hDm
    . rcases ql2 hj hx with hx|hx
      . simp only[occC,zA]at hx;subst hx;exact .inr ⟨15,O,rfl⟩
      . refine .inl (S.occ s x ?_);rw[hav];obtain⟨c,hc,hx⟩:=zC.1 hx;rcases List.mem_or_eq_of_mem_set hc with hc|rfl
        . exact mT (zC.2 ⟨c,hc,hx⟩)
        . cases hx)
 refine⟨β',who',S4.ext λs'=> ?_⟩
 by_cases e:s'=s
 . subst e;rw[qh,qh]
 . rw[qg _ _ e,qg _ _ e,qg _ _ e]
end
section
variable {P:Program} {CO:qx} {T:TT} {E:Entry} {D:Nat->Prop} {β:Beta} {who:Who} {U U':Slots} {hd:List (AV×Value)} {a:Act} {w w':World} {R W:List Nat}
def qno {x:Operand} {v:AV} {cells:List AV} {t:Ty} {y:Den t} (h1:Run CO (rdF x) U v U' R W) (S:Sim E D β who U [] a w) (hv:mArg t v=some cells) (hp:cells.all plainCell=true) (hk:Zt t cells=some (y,[])):
 ∃who',Sim E D β who' U' [] a w/\ ∃arr,a.eval x=mval t arr/\arr.size=t.size/\RelI who' w t y (λj=>arr[j]?) 0:=by
 obtain⟨_,_,who',S1⟩:=Run.rdF h1 S;exact⟨who',S1.drop rfl,qhq (S1.hrel _ mS) hv hp hk⟩
def q4c (hT:TTok P T) {idx ty:Nat} {m k x:Operand} {v:AV} (h:Run CO (q4t T ty m k x) U v U' R W) (S:Sim E D β who U [] a w):
 v= .dead/\ ∃w' who',(Instr.mapUpdate ty (a.eval m) (a.eval k) (a.eval x)).run P w= .ok () w'/\Sim E D β who' U' [] a w':=by
 unfold q4t at h;obtain⟨u,U1,_,_,_,_,h1,h2⟩:=Run.bind' h;obtain⟨kv,U2,_,_,_,_,h3,h4⟩:=Run.bind' h2;obtain⟨e,U3,_,_,_,_,h5,h6⟩:=Run.bind' h4;split at h6
 case h_2=>exact(Run.fail' h6).elim
 rename_i kz cells hma;split at h6
 case isFalse=>exact(Run.fail' h6).elim
 rename_i hc;obtain⟨hme,hp⟩:=hc;split at h6
 case h_2=>exact(Run.fail' h6).elim
 rename_i y hpk;obtain⟨u2,U4,_,_,_,_,h7,h8⟩:=Run.bind' h6;obtain⟨rfl,rfl⟩:=Run.pure' h8;obtain⟨who1,S1,arr,ea,ha,hy⟩:=qno h1 S hma hp hpk;obtain⟨rfl,S2⟩:=Run.rd h3 S1;have ek:a.eval k= .int .i64 kz:=S2.hrel _ mS;obtain⟨rfl,hm⟩:=Zu h5 S1;obtain⟨el,hmt⟩:=q0b hT hme;rcases hm with⟨hn,_⟩|⟨n,b,es,em,hb,ho,hE,hset⟩
 . cases hn
 . obtain⟨es',hr,hE'⟩:=qhr hmt hb hE kz ha hy;exact⟨rfl,_,who1,by rw[em,ek,ea];exact hr,hset _ es' _ _ _ _ h7 hE' rfl⟩
def qhz (hT:TTok P T) {idx ty:Nat} {x k:Operand} {ok:Bool} {v:AV} (h:Run CO (qlg T ty x k ok) U v U' R W) (S:Sim E D β who U [] a w):
 ∃r,(Instr.lookup ty (a.eval x) (a.eval k) ok).run P w= .ok r w/\Sim E D β who U' [(v,r)] a w:=by
 unfold qlg at h;obtain⟨e,U3,_,_,_,_,h5,h6⟩:=Run.bind' h;obtain⟨kv,U2,_,_,_,_,h3,h4⟩:=Run.bind' h6;split at h4
 case h_2=>exact(Run.fail' h4).elim
 rename_i kz;split at h4
 case isFalse=>exact(Run.fail' h4).elim
 rename_i hme;obtain⟨rfl,hm⟩:=Zu h5 S;obtain⟨rfl,S2⟩:=Run.rd h3 S;have ek:a.eval k= .int .i64 kz:=S2.hrel _ mS;obtain⟨el,hmt⟩:=q0b hT hme
 have hv:(a.eval x= .map none/\e.2=[])\/ ∃b es c,a.eval x= .map (some b)/\w.heap[b]? =some (.map es c)/\Ents who w e.1 e.2 es.toList:=by
  rcases hm with⟨_,q1,q2⟩|⟨n,b,es,em,hb,ho,hE,hset⟩
  . exact .inl ⟨q1,q2⟩
  . exact .inr ⟨b,es,_,em,hb,hE⟩
 obtain⟨arr,hr,hs,hi⟩:=qim hmt hv kz ok;have hel:=qh0 (β:=β) hs hi;obtain⟨n1,n2⟩:=q8u (t:=e.1) (x:=(mGet e.2 kz).getD e.1.zero);rw[ek];cases ok with
 |true=>
  obtain⟨rfl,rfl⟩:=Run.pure' h4;refine⟨_,hr,S.take0 ?_ ?_ ?_⟩
  . exact⟨_,rfl,rfl,λj hj=>by
     match j,hj with
     |0,_=>exact hel
     |1,_=>exact(rfl:(_:Value)=_)⟩
  . show List.flatMap qi [_,_]=[]
    simp only[fC,zg1,zL1];rw[show qi (Z8 e.1 ((mGet e.2 kz).getD e.1.zero))=[]from by rw[<-(nA_eq q0o).1];exact n1];rfl
  . intro n hn;have hn:n∈List.flatMap occA [Z8 e.1 ((mGet e.2 kz).getD e.1.zero),.bool (mGet e.2 kz).isSome]:=hn;simp only[fC,zg1,zL1]at hn;rw[show occA (Z8 e.1 ((mGet e.2 kz).getD e.1.zero))=[]from by rw[<-(nA_eq q0o).2.1];exact n2]at hn
    cases hn
 |false=>
  obtain⟨rfl,rfl⟩:=Run.pure' h4;exact⟨_,hr,S.take0 (by rw[(nA_eq q0o).2.2];exact hel) n1 (λn hn=>by rw[n2]at hn;cases hn)⟩
def qez (hT:TTok P T) {idx ty:Nat} {m k:Operand} {v:AV} (h:Run CO (qe8 T ty m k) U v U' R W) (S:Sim E D β who U [] a w):
 ∃r w',(Instr.mapEntry ty (a.eval m) (a.eval k)).run P w= .ok r w'/\Sim E D β who U' [(v,r)] a w':=by
 unfold qe8 at h;obtain⟨e,U3,_,_,_,_,h5,h6⟩:=Run.bind' h;obtain⟨kv,U2,_,_,_,_,h3,h4⟩:=Run.bind' h6;split at h4
 case h_2=>exact(Run.fail' h4).elim
 rename_i kz;split at h4
 case isFalse=>exact(Run.fail' h4).elim
 rename_i hme;obtain⟨u2,U4,_,_,_,_,h7,h8⟩:=Run.bind' h4;obtain⟨rfl,rfl⟩:=Run.pure' h8;obtain⟨rfl,hm⟩:=Zu h5 S;obtain⟨rfl,S2⟩:=Run.rd h3 S;have ek:a.eval k= .int .i64 kz:=S2.hrel _ mS;obtain⟨el,hmt⟩:=q0b hT hme;rcases hm with⟨hn,_⟩|⟨n,b,es,em,hb,ho,hE,hset⟩
 . cases hn
 . obtain⟨es',arr,hr,hE',hs,hi⟩:=qbg hmt hb hE kz;have S3:=hset _ es' _ _ _ _ h7 hE' rfl
   have hel:=qh0 (β:=β) hs (hi.keep (who':=who) (w':=World.putMap w b es' (mPut e.2 kz ((mGet e.2 kz).getD e.1.zero)).length)
    (λb' hb' _=>⟨hb',Y5 (by rintro rfl;rw[ho]at hb';cases hb')⟩) (by rw[Xk];exact zD _))
   obtain⟨n1,n2⟩:=q8u (t:=e.1) (x:=(mGet e.2 kz).getD e.1.zero);refine⟨_,_,by rw[em,ek];exact hr,S3.take0 ?_ ?_ ?_⟩
   . exact⟨_,rfl,rfl,λj hj=>by
      match j,hj with
      |0,_=>exact hel
      |1,_=>exact(rfl:(_:Value)=_)⟩
   . show List.flatMap qi [_,_]=[]
     simp only[fC,zg1,zL1];rw[show qi (Z8 e.1 ((mGet e.2 kz).getD e.1.zero))=[]from by rw[<-(nA_eq q0o).1];exact n1];rfl
   . intro n hn;have hn:n∈List.flatMap occA [Z8 e.1 ((mGet e.2 kz).getD e.1.zero),.int .i64 (mAt e.2 kz:Nat)]:=hn;simp only[fC,zg1,zL1]at hn;rw[show occA (Z8 e.1 ((mGet e.2 kz).getD e.1.zero))=[]from by rw[<-(nA_eq q0o).2.1];exact n2]at hn
     cases hn
def q7o (hT:TTok P T) {idx ty:Nat} {m z x:Operand} {v:AV} (h:Run CO (q3h T ty m z x) U v U' R W) (S:Sim E D β who U [] a w):
 v= .dead/\ ∃w' who',(Instr.entryStore ty (a.eval m) (a.eval z) (a.eval x)).run P w= .ok () w'/\Sim E D β who' U' [] a w':=by
 unfold q3h at h;obtain⟨u,U1,_,_,_,_,h1,h2⟩:=Run.bind' h;obtain⟨kv,U2,_,_,_,_,h3,h4⟩:=Run.bind' h2;obtain⟨e,U3,_,_,_,_,h5,h6⟩:=Run.bind' h4;split at h6
 case h_2=>exact(Run.fail' h6).elim
 rename_i kz cells hma;split at h6
 case isFalse=>exact(Run.fail' h6).elim
 rename_i hc;obtain⟨hme,hp⟩:=hc;split at h6
 case h_2=>exact(Run.fail' h6).elim
 rename_i y hpk;obtain⟨u0,U5,_,_,_,_,h9,h10⟩:=Run.bind' h6;obtain⟨⟨z0,z1⟩,rfl⟩:=Run.mask' h9;obtain⟨u2,U4,_,_,_,_,h7,h8⟩:=Run.bind' h10;obtain⟨rfl,rfl⟩:=Run.pure' h8;obtain⟨who1,S1,arr,ea,ha,hy⟩:=qno h1 S hma hp hpk;obtain⟨rfl,S2⟩:=Run.rd h3 S1;have ek:a.eval z= .int .i64 kz:=S2.hrel _ mS;obtain⟨rfl,hm⟩:=Zu h5 S1;rcases hm with⟨hn,_⟩|⟨n,b,es,em,hb,ho,hE,hset⟩
 . cases hn
 . obtain⟨es',hr,hE'⟩:=q7l (P:=P) (m:=ty) (e:=0) hb hE kz z0 z1 ha hy;exact⟨rfl,_,who1,by rw[em,ek,ea];exact hr,hset _ es' _ _ _ _ h7 hE' rfl⟩
def qk4 {s j m:Nat} {s0 n0 z0 i0 j0 l s1:Nat} {av:AV} (h1:vwf s 1 av=some (.ptr s0 n0 z0 i0 j0)) (h2:vwf s (j+2) av=some (.dr s1 m (.mlen l))):
 ∃mb cells t xs,av= .bx (.nm mb) cells/\ ∃hj:j<cells.length,cells[j]= .mm m t xs false/\l=xs.length:=by
 simp only[vwf]at h1 h2;split at h2
 case isFalse=>cases h2
 unfold cellV at h2;split at h2
 . rename_i mb cells;cases hc:cells[j]? with
   |none=>rw[hc]at h2;cases h2
   |some c=>
    rw[hc]at h2;obtain⟨hj,e⟩:=List.getElem?_eq_some_iff.1 hc;simp only[zf1,zH]at h2;cases c with
    |mm n t xs o=>
     cases o with
     |false=>simp only[Qr,AV.dr.injEq,DK.mlen.injEq]at h2;obtain⟨_,rfl,rfl⟩:=h2;exact⟨mb,cells,t,xs,rfl,hj,e,rfl⟩
     |true=>cases h2
    |dr s n k=>cases k<;>cases h2
    |sl o t xs=>cases o<;>cases h2
    |_=>cases h2
 . cases h1
 . cases h1
 . cases h2
def qdd (hT:TTok P T) {j t:Nat} {p v:AV} {c:Value} (h:Run CO (qit T j t p) U v U' R W) (S:Sim E D β who U [] a w) (hp:Rel β who w p c) (ho: ∀n∈Vs.occ p,D n):
 ∃r,(Instr.loadAt t c).run P w= .ok r w/\Sim E D β who U' [(v,r)] a w:=by
 unfold qit at h;split at h
 case h_2=>exact(Run.fail' h).elim
 rename_i e ty c0 s n i hti';have hti:=hT t _ hti';obtain⟨b1,U1,_,_,_,_,h1,h2⟩:=Run.bind' h;obtain⟨hb1,rfl⟩:=Run.mview' h1;obtain⟨c1,U2,_,_,_,_,h3,h4⟩:=Run.bind' h2;obtain⟨hc1,rfl⟩:=Run.mview' h3;split at h4
 case h_2=>exact(Run.fail' h4).elim
 rename_i s0 n0 z0 i0 j0 s1 m l;split at h4
 case isFalse=>exact(Run.fail' h4).elim
 rename_i hmn;subst hmn;obtain⟨rfl,rfl⟩:=Run.pure' h4;obtain⟨mb,cells,t',xs,hbx,hj,hcj,rfl⟩:=qk4 hb1.symm hc1.symm;obtain⟨b,o,L,cap,hb,hi,rfl⟩:=(hp:DrVal (β m) (.mcell i) c);have hr:=S.rel s;rw[hbx]at hr;obtain⟨r0,bb,arr,el,r1,r2,r3,r4⟩:=hr;have hmm:=r4.2 j hj;rw[hcj]at hmm;obtain⟨m1,b1,o1,cap1,arr1,el1,e1,e2,e3,e4,e5,e6,e7⟩:=(hmm:RelMm β who w m t' xs false _);rw[<-m1,e1]at hb;injection hb with q1 q2 q3
 injection q1 with q1;injection q1 with q1 q1' _
 subst q1 q1' q2;obtain⟨f1,f2⟩:=e6 i hi
 have hrun:=Y0 hti (b:=b1) (o:=o1+i) (f:=λ_=>dpv (β m) (i+1)) w (λk hk=>by
  have hk0:k=0:=by simp at hk;exact hk
  subst hk0;exact f1) (λ_=>rfl)
 refine⟨dpv (β m) (i+1),by simpa [Q5]using hrun,S.take0 (v:= .dr s m (.mrow j i)) ⟨rfl,?_,_,_,_,by rw[<-m1,e1],hi⟩ rfl (λx hx=>ho x hx)⟩
 cases hx:xs[i]with
 |none=>rw[hx]at f2;exact⟨none,f2⟩
 |some ys=>rw[hx]at f2;obtain⟨b,es,k1,_⟩:=f2;exact⟨some b,k1⟩
def qab (hT:TTok P T) {idx j t:Nat} {p v:AV} {cp cv:Value} {u:Unit} (h:Run CO (qdh T idx j t p v) U u U' R W) (S:Sim E D β who U [(v,cv)] a w)
 (hp:Rel β who w p cp) (hf: ∀k,k<16-> ¬D (fresh idx k)):
 ∃w' β' who',(Instr.storeAt t cp cv).run P w= .ok () w'/\Sim E (Dn D idx) β' who' U' [] a w':=by
 unfold qdh at h;split at h
 case h_2=>exact(Run.fail' h).elim
 rename_i e ty c0 s n i k t' ys hti';have hti:=hT t _ hti';obtain⟨v',hk,rfl⟩:=Run.mupd' h;obtain⟨mb,cells,xs,hbx,hj,hcj,rfl⟩:=q78 hk;obtain⟨b,o,L,cap,hb,hi,rfl⟩:=(hp:DrVal (β n) (.mcell i) cp);have hr:=S.rel s;rw[hbx]at hr;obtain⟨r0,bb,arr,el,r1,r2,r3,r4⟩:=hr;have hmm:=r4.2 j hj;rw[hcj]at hmm;obtain⟨m1,b1,o1,cap1,arr1,el1,e1,_⟩:=(hmm:RelMm β who w n t' xs false _);have hil:i<xs.length:=by rw[<-m1,e1]at hb;injection hb with _ q _;omega
 obtain⟨b',o',L',cap',arr',el',g1,g2,g3,g4,β',who',S'⟩:=S.fillMm (idx:=idx) hbx hj hcj hil hf;rw[hb]at g1;injection g1 with g1 _ _;injection g1 with g1;injection g1 with g1 g1' _
 subst g1 g1';have hone:cv.oneCell'=true:=Za (β:=β) (who:=who) (w:=w) (c:= .mm k t' [some ys] true) (S.hrel _ mS) (by simp)
 have hc1:cv.cells.toList=[cv]:=by rw[Xb hone]
 have hsz1:cv.cells.size=1:=by rw[Xb hone];rfl
 have hrun:=Zj hti (c:=cv) (o:=o+i) g2 (by rw[hsz1];rfl) (by rw[hsz1];exact g3) (by grind)
 rw[hc1]at hrun;exact⟨_,β',who',hrun,S'⟩
def qlk (hT:TTok P T) {idx t:Nat} {u v:AV} {c:Value} (h:Run CO (opqAV T idx t u) U v U' R W) (S:Sim E D β who U [(u,c)] a w) (hf: ∀k,k<16-> ¬D (fresh idx k)):
 ∃r w' β' who',(Instr.buildSlice t 1 #[(0,c)]).run P w= .ok r w'/\Sim E (Dn D idx) β' who' U' [(v,r)] a w':=by
 unfold opqAV at h;split at h
 case h_2=>exact(Run.fail' h).elim
 rename_i e cells n ty ys hti;obtain⟨rfl,rfl⟩:=Run.pure' h;obtain⟨hu,⟨ei,z,he,hes,hb,hb0,hz,hzc⟩⟩:=(hT t _ hti).desc;obtain⟨ys0,q0,q1,b,es,k1,k2,k3,_,k5⟩:=(S.hrel _ mS:RelMm β who w n ty [some ys] true _);have hsz:ei.size=1:=hes;have k1:c= .map (some b):=k1
 have hrun:(Instr.buildSlice t 1 #[(0,c)]).run P w= .ok (.slice (some ⟨w.heap.size,0,none⟩) 1 1) (w.alloc (.cells #[c] e)):=by
  unfold Instr.buildSlice;simp only[Sem.run_bind,run_underlying hu,Result.andThen_ok,Xj he,hsz,Zr he hz,Sem.run_pure];rw[k1];simp[Instr.fill,Value.cells,newRow,Zr he hz,Result.andThen,Array.range];congr 2
 obtain⟨β',who',S'⟩:=Sim.make (idx:=idx) (v:= .sl (.nm (fresh idx 15)) .opq [()]) (c:= .slice (some ⟨w.heap.size,0,none⟩) 1 1)
  (c1:= .slice (some ⟨w.heap.size,0,none⟩) 1 1) (w':=w.alloc (.cells #[c] e)) (o:= .cells #[c] e) ((S.drop rfl).take_dead) hf rfl
  (fun β' who' q1 q2 q3 q4 _=>by
    have hnew:=heap_alloc_new w (.cells #[c] e);refine⟨q2.symm,.inr ⟨w.heap.size,0,1,#[c],e,rfl,hnew,by simp[Ty.size],by simp,q3,λi hi=> ?_⟩⟩
    have hi0:i=0:=by simp at hi;exact hi
    subst hi0;refine⟨c,?_,by rw[k1];rfl⟩
    simp only[cellAt,World.cell?,hnew];rfl)
  (λn hn=> .inr ⟨15,O,by simpa [names,qi,qc]using hn⟩) (by simp[names,qi,qc])
  (λn hn=> .inr ⟨15,O,by simpa [Vs.occ,occA,occC]using hn⟩)
 exact⟨_,_,β',who',hrun,S'⟩
def qhe (hT:TTok P T) {idx j:Nat} {o:Oper} {v:AV} (h:Run CO (opMm T idx j o) U v U' R W) (S:Sim E D β who U [] a w) (hf: ∀k,k<16-> ¬D (fresh idx k)):
 OpOut P E D idx U' v a ((execOp a.eval o).run P w):=by
 have up: ∀{β' who' w' a'} {U':Slots} {hd},Sim E D β' who' U' hd a' w'->Sim E (Dn D idx) β' who' U' hd a' w':=λS=>S.mono (λn h=> .inl h) (Dn_fn S.dfn)
 unfold opMm at h;cases ho:o.op with
 |buildSlice t n ps=>
  simp only[ho]at h;split at h
  case h_2=>exact(Run.fail' h).elim
  rename_i q0 x hps;obtain⟨u,U1,_,_,_,_,h1,h2⟩:=Run.bind' h;have S1:=Run.rdT h1 S;obtain⟨r,w1,β',who',g1,g2⟩:=qlk hT h2 S1 hf;have hps':ps= #[(0,x)]:=by apply Array.ext';simpa using hps
  exact⟨r,w1,β',who',.inl (by unfold execOp;simp[ho,hps',g1]),g2⟩
 |makeSlice t l c=>
  simp only[ho]at h;obtain⟨u,U1,_,_,_,_,h1,h2⟩:=Run.bind' h;obtain⟨rfl,S1⟩:=Run.rd h1 S;obtain⟨q,U2,_,_,_,_,h3,h4⟩:=Run.bind' h2;obtain⟨rfl,S2⟩:=Run.rd h3 S1;obtain⟨r,w1,β',who',g1,g2⟩:=qb7 hT h4 S (S1.hrel _ mS) (S2.hrel _ mS) hf;exact⟨r,w1,β',who',.inl (by unfold execOp;simp_all),g2⟩
 |makeMap t rs=>
  cases rs with
  |some r=>simp only[ho]at h;exact(Run.fail' h).elim
  |none=>
   simp only[ho]at h;obtain⟨r,w1,β',who',g1,g2⟩:=q9x hT h S hf;exact⟨r,w1,β',who',.inl (by unfold execOp;simp_all),g2⟩
 |call c=>
  obtain⟨callee,args,tys⟩:=c;simp only[ho]at h;split at h
  case h_2=>exact(Run.fail' h).elim
  rename_i q0 q1 q2 x t hargs ht;have hargs':args= #[x]:=by apply Array.ext';simpa using hargs
  subst hargs';obtain⟨u,U1,_,_,_,_,h1,h2⟩:=Run.bind' h;obtain⟨rfl,S1⟩:=Run.rd h1 S;unfold lenMm at h2;split at h2
  case h_2=>exact(Run.fail' h2).elim
  rename_i e ty cells s n l hti;obtain⟨rfl,rfl⟩:=Run.pure' h2;have hu:=(hT t _ hti).desc.1;have hDr:DrVal (β n) (.mlen l) (a.eval x):=S1.hrel _ mS;obtain⟨_,b,o',cap,hc⟩:=hDr;have ht':tys[0]? =some t:=ht
  have hlen:(Builtin.len_ tys o.type #[a.eval x]).run P w= .ok (.int .i64 l) w:=by
   rw[hc];simp[Builtin.len_,ht',run_underlying hu,goInt]
  exact OpOut.same (c:= .int .i64 l) (by
   unfold execOp;simp only[ho,resolve,Sem.run_bind,Sem.run_pure,Result.andThen_ok,invoke,builtin];simp_all) (S.take0 (v:= .int .i64 l) rfl rfl (λn hn=>by cases hn))
 |indexAddr t x i=>
  simp only[ho]at h;obtain⟨u,U1,_,_,_,_,h1,h2⟩:=Run.bind' h;obtain⟨rfl,S1⟩:=Run.rd h1 S;obtain⟨q,U2,_,_,_,_,h3,h4⟩:=Run.bind' h2;obtain⟨rfl,S2⟩:=Run.rd h3 S1;unfold qlm at h4;split at h4
  case h_2=>exact(Run.fail' h4).elim
  rename_i e ty cells s n l ik iz hti;obtain⟨_,U3,_,_,_,_,h5,h6⟩:=Run.bind' h4;obtain⟨⟨i0,i1⟩,rfl⟩:=Run.mask' h5;obtain⟨rfl,rfl⟩:=Run.pure' h6;obtain⟨hu,ei,he,hes,_⟩:=(hT t _ hti).desc;have hDr:DrVal (β n) (.mlen l) (a.eval x):=S1.hrel _ mS;obtain⟨hc0,b,o',cap,hc⟩:=hDr;have hi:a.eval i= .int ik iz:=S2.hrel _ mS;have hrun:=run_indexAt (P:=P) hu he b o' l cap ik iz i0 i1 w;rw[hes,zk1]at hrun;have hil:iz.toNat<l:=O;refine OpOut.same (c:= .pointer (some ⟨b,o'+iz.toNat,none⟩)) (by unfold execOp;simp_all) (S.take0 (v:= .dr s n (.mcell iz.toNat)) ⟨b,o',l,cap,by rw[<-hc0,hc],hil,rfl⟩ rfl (λx hx=>S1.hocc _ mS x hx))
 |load t p=>
  simp only[ho]at h;obtain⟨u,U1,_,_,_,_,h1,h2⟩:=Run.bind' h;obtain⟨rfl,S1⟩:=Run.rd h1 S;obtain⟨r,g1,g2⟩:=qdd hT h2 S (S1.hrel _ mS) (S1.hocc _ mS);exact OpOut.same (by unfold execOp;simp_all) g2
 |store t p x=>
  simp only[ho]at h;obtain⟨u,U1,_,_,_,_,h1,h2⟩:=Run.bind' h;have S1:=Run.rdT h1 S;obtain⟨q,U2,_,_,_,_,h3,h4⟩:=Run.bind' h2;obtain⟨rfl,S2⟩:=Run.rd h3 S1;obtain⟨_,U3,_,_,_,_,h5,h6⟩:=Run.bind' h4;obtain⟨w1,β',who',g1,g2⟩:=qab hT h5 S1 (S2.hrel _ mS) hf;obtain⟨rfl,rfl⟩:=Run.pure' h6;exact⟨undef,w1,β',who',.inr ⟨by unfold execOp;simp_all,rfl⟩,g2.take_dead⟩
 |mapUpdate t m k x=>
  simp only[ho]at h;obtain⟨rfl,w1,who',g1,g2⟩:=q4c (idx:=idx) hT h S;exact⟨undef,w1,β,who',.inr ⟨by unfold execOp;simp_all,rfl⟩,(up g2).take_dead⟩
 |insert t m k x=>
  simp only[ho]at h;obtain⟨rfl,w1,who',g1,g2⟩:=q4c (idx:=idx) hT h S;exact⟨undef,w1,β,who',.inr ⟨by unfold execOp;simp_all,rfl⟩,(up g2).take_dead⟩
 |lookup t x k ok=>
  simp only[ho]at h;obtain⟨r,g1,g2⟩:=qhz (idx:=idx) hT h S;exact OpOut.same (by unfold execOp;simp_all) g2
 |mapEntry t m k=>
  simp only[ho]at h;obtain⟨r,w1,g1,g2⟩:=qez (idx:=idx) hT h S;exact OpOut.same (by unfold execOp;simp_all) g2
 |entryStore t m z x=>
  simp only[ho]at h;obtain⟨rfl,w1,who',g1,g2⟩:=q7o (idx:=idx) hT h S;exact⟨undef,w1,β,who',.inr ⟨by unfold execOp;simp_all,rfl⟩,(up g2).take_dead⟩
 |_=>simp only[ho]at h;exact(Run.fail' h).elim
end
section
variable {P:Program} {CO:qx} {T:TT} {E:Entry} {D:Nat->Prop} {β β':Beta} {who who':Who} {U U':Slots} {hd:List (AV×Value)} {a:Act} {w w':World} {R W:List Nat}
def qaj {c:Call} {o:Oper} {t f:Nat} {as bs:Array Value} (hop:o.op= .call c) (hc:c.callee= .value (.tmp t))
 (ht:a.eval (.tmp t)= .func (.func f) as bs) (h1:as.size=0) (h2:bs.size=0):execOp a.eval o=callFunc f (c.args.map a.eval):=by
 have e1:as= #[]:=zH2 h1;have e2:bs= #[]:=zH2 h2;subst e1 e2;unfold execOp;simp[hop,resolve,hc,Deferred.ofValue,invoke,ht]
def qa7 {c:Call} {o:Oper} {t f:Nat} {pv:Value} (hop:o.op= .call c) (hc:c.callee= .value (.tmp t))
 (ht:a.eval (.tmp t)= .func (.func f) #[] #[pv]):execOp a.eval o=callFunc f (c.args.map a.eval++ #[pv]):=by
 unfold execOp;simp[hop,resolve,hc,Deferred.ofValue,invoke,ht]
def qb3 {c:Call} {o:Oper} {f:Nat} (hop:o.op= .call c) (hc:c.callee= .value (.func f)):execOp a.eval o=callFunc f (c.args.map a.eval):=by
 have ef:a.eval (.func f)= .func (.func f) #[] #[]:=rfl;unfold execOp;simp[hop,resolve,hc,Deferred.ofValue,invoke,ef]
def qal (hT:TTok P T) (hC: ∀f as r os,CO f as r os->Xl P f as r os) (hEP:E.prog=P) {idx mode:Nat} {o:Oper} {v:AV} (h:Run CO (opAV T idx mode o) U v U' R W) (S:Sim E D β who U [] a w)
 (hf: ∀k,k<16-> ¬D (fresh idx k)):OpWp P E D idx U' v o a w:=by
 cases hn:q4u o.op with
 |false=>exact(qmn hT hEP hn h S hf).wp
 |true=>
  cases ho:o.op with
  |call c=>
   unfold opAV at h;simp only[ho]at h;cases hc:c.callee with
   |builtin b=>rw[ho]at hn;obtain⟨callee,args,tys⟩:=c;simp only at hc;subst hc;cases hn
   |invoke r m=>simp only[hc]at h;exact(Run.fail' h).elim
   |value x=>
    simp only[hc]at h;cases x with
    |func f=>
     simp only at h
     have hop:execOp a.eval o=callFunc f (c.args.toList.map a.eval).toArray:=by
      rw[qb3 ho hc];congr 1;simp[<-Array.toList_map]
     unfold callW at h;split at h
     . exact qlj hT hC hEP h S hf hop
     . split at h
       . exact qkh hT hC hEP h S hf hop
       . exact q8t (mode:=mode) hT hC hEP h S hf hop
    |tmp t=>
     simp only at h;obtain⟨av,U1,_,_,_,_,h1,h2⟩:=Run.bind' h;obtain⟨rfl,rfl⟩:=Run.mget' h1;split at h2
     . rename_i f as bs hg;split at h2
       . rename_i hs;refine q8t (mode:=mode) hT hC hEP h2 S hf ?_;have hr:=S.rel t;rw[hg]at hr;rw[qaj ho hc (by rw[Act.eval];exact hr.1) hs.1 hs.2]
         congr 1;simp[<-Array.toList_map]
       . exact(Run.fail' h2).elim
     . rename_i f et xs i j hg;have hr:=S.rel t;rw[hg]at hr;obtain⟨b,o',e1,e2⟩:=hr;refine qjv (pv:= .pointer (some ⟨b,o'+i*et.size+j,none⟩)) hT hC hEP ⟨b,o',rfl,e2⟩ h2 S hf ?_;rw[qa7 ho hc (by rw[Act.eval];exact e1)]
       congr 1;apply Array.ext';simp
     . exact(Run.fail' h2).elim
    |const u=>exact(Run.fail' h).elim
    |global g=>exact(Run.fail' h).elim
  |_=>rw[ho]at hn;cases hn
end
section
variable {P:Program} {CO:qx} {T:TT} {E:Entry} {D:Nat->Prop} {β β':Beta} {who who':Who} {U U':Slots} {hd:List (AV×Value)} {a:Act} {w w':World} {R W:List Nat}
variable {N:Nat} {pins:List Nat}
def EOf (P:Program) (E:Entry) (N:Nat) (pins:List Nat):Prop:=E.N=N/\(∀p∈E.pins,p.1∈pins)/\E.prog=P
def q0s (hE:EOf P E N pins) {dst:Option Tmp} {v:AV} {c:Value} {u:Unit} (h:Run CO (q5p N pins dst v) U u U' R W) (S:Sim E D β who U [(v,c)] a w):
 Sim E D β who U' [] (a.put dst c) w:=by
 cases dst with
 |none=>
  obtain⟨_,rfl⟩:=Run.pure' h;exact S.putNone
 |some d=>
  simp only[q5p]at h;split at h
  . rename_i hd;have:=Run.mset' h;subst this;exact S.put (by rw[hE.1];exact hd.1) (λp hp e=>hd.2 (e▸hE.2.1 p hp))
  . exact(Run.fail' h).elim
def qcn (hT:TTok P T) (hC: ∀f as r os,CO f as r os->Xl P f as r os) (hEP:E.prog=P) {idx mode:Nat} {o:Oper} {v:AV} (h:Run CO (opG T idx mode o) U v U' R W) (S:Sim E D β who U [] a w)
 (hf: ∀k,k<16-> ¬D (fresh idx k)):OpWp P E D idx U' v o a w:=by
 unfold opG at h;split at h
 . split at h
   . exact(qhe hT h S hf).wp
   split at h
   . obtain⟨av,U1,_,_,_,_,h1,h2⟩:=Run.bind' h;obtain⟨rfl,rfl⟩:=Run.mget' h1;split at h2
     . obtain⟨u,U2,_,_,_,_,h3,h4⟩:=Run.bind' h2;obtain⟨who1,S1⟩:=q6r h3 S;exact qal hT hC hEP h4 S1 hf
     . exact(Run.fail' h2).elim
   . obtain⟨u,U1,_,_,_,_,h1,h2⟩:=Run.bind' h;obtain⟨g1,_,who1,S1⟩:=Run.rdF h1 S;exact qal hT hC hEP h2 (S1.drop rfl) hf
 . exact qal hT hC hEP h S hf
def q8o (hT:TTok P T) (hC: ∀f as r os,CO f as r os->Xl P f as r os) (hE:EOf P E N pins) {ops:Array Oper} {idx mode:Nat} {o:Oper} {u:Unit}
 (h:Run CO (fullM T N pins ops idx mode o) U u U' R W) (S:Sim E D β who U [] a w) (hf: ∀k,k<16-> ¬D (fresh idx k))
 {next:Act->World->Prop} {Q:Exit->Act->World->Prop} (hn: ∀a' w' β' who',Sim E (Dn D idx) β' who' U' [] a' w'->next a' w'):
 if Region.wanted o (yielded ops a.tmps)then o.wp P a w next Q\/(o.asks P a w/\LetsOut Q)else next (a.put o.dst undef) w:=by
 unfold fullM at h;cases hg:o.guard with
 |none=>
  simp only[hg]at h;obtain⟨v,U1,_,_,_,_,h1,h2⟩:=Run.bind' h;rw[iP (by simp[Region.wanted,hg])]
  exact .inl (qcn hT hC hE.2.2 h1 S hf next Q λc w' β' who' S1=>hn _ _ _ _ (q0s hE h2 S1))
 |some jw=>
  obtain⟨j,want⟩:=jw;simp only[hg]at h;split at h
  . exact(Run.fail' h).elim
  . rename_i g hgo;obtain⟨av,U0,_,_,_,_,h0,h9⟩:=Run.bind' h;obtain⟨hav,rfl⟩:=Run.mget' h0;clear h
    have skip: ∀{U1 U2:Slots} {R W:List Nat} {u:Unit},Run CO (q5p N pins o.dst (.tup [])) U1 u U2 R W->U2=U'->Sim E D β who U1 [] a w->next (a.put o.dst undef) w:=by
     intro U1 U2 R W u h2 e S;subst e;have S1:Sim E D β who U1 [(.tup [],undef)] a w:=S.take0 (v:= .tup []) (c:=undef) ⟨#[],rfl,rfl,λj h=>absurd h (zW _)⟩ rfl (λn hn=>by cases hn)
     exact hn _ _ _ _ ((q0s hE h2 S1).mono (λn h=> .inl h) (Dn_fn S.dfn))
    cases hu:qfc av with
    |true=>
     rw[hu]at h9;have hr:=S.rel g;rw[<-hav]at hr
     have hnb: ∀b,a.tmps.getD g undef≠ .bool b:=λb hb=>by
      unfold qfc at hu;split at hu
      . obtain⟨arr,hr,_⟩:=hr;rw[hr]at hb;cases hb
      . cases hu
     have hy:yielded ops a.tmps j=none:=by
      unfold yielded;unfold guardOf at hgo;rw[hgo];cases hx:a.tmps[g]? with
      |none=>simp[hx]
      |some x=>
       simp_all
     rw[iN' (by simp[Region.wanted,hg,hy])]
     exact skip h9 rfl S
    |false=>
    rw[hu]at h9;obtain⟨b,U1,_,_,_,_,h1,h2⟩:=Run.bind' h9;obtain⟨hb,rfl⟩:=Run.mknow' h1;have hr:=S.rel g;rw[hb]at hr;have hr:a.tmps.getD g undef= .bool b:=hr
    have hlt:g<a.tmps.size:=by
     rcases zq g a.tmps.size with h|h
     . exact h
     . simp[Array.getD,Nat.not_lt.2 h,undef]at hr
    have hy:yielded ops a.tmps j=some b:=by
     unfold yielded;unfold guardOf at hgo;rw[hgo];have:a.tmps[g]? =some (.bool b):=by rw[<-hr];simp[Array.getD,hlt]
     simp[this]
    by_cases e:b=want
    . rw[iP (by simp[Region.wanted,hg,hy,e])]
      rw[iP (by simpa using e)]at h2
      obtain⟨v,U1,_,_,_,_,h3,h4⟩:=Run.bind' h2;exact .inl (qcn hT hC hE.2.2 h3 S hf next Q λc w' β' who' S1=>hn _ _ _ _ (q0s hE h4 S1))
    . rw[iN' (by simp[Region.wanted,hg,hy,e])]
      grind
def Dlt (D:Nat->Prop) (i:Nat):Nat->Prop:=λn=>D n\/ ∃j k,j<i/\k<16/\n=fresh j k
def q8m {i j k l:Nat} (hk:k<16) (hl:l<16) (h:fresh i k=fresh j l):i=j/\k=l:=by simp only[fresh]at h;omega
def qkc {i k:Nat} (hD: ∀n,D n->n<100) (hk:k<16): ¬Dlt D i (fresh i k):=by
 rintro (h|⟨j,l,h1,h2,h3⟩)
 . have:=hD _ h;simp only[fresh]at this;omega
 . have:=q8m hk h2 h3;omega
def qm1 {i n:Nat} (h:Dn (Dlt D i) i n):Dlt D (i+1) n:=by
 rcases h with(h|⟨j,k,h1,h2,h3⟩)|⟨k,hk,h⟩
 . exact .inl h
 . exact .inr ⟨j,k,O,h2,h3⟩
 . exact .inr ⟨i,k,O,hk,h⟩
def qoa {i:Nat} (h: ¬D FN): ¬Dlt D i FN:=by
 rintro (h'|⟨j,k,_,hk,e⟩)
 . exact h h'
 . simp only[FN,fresh]at e;omega
inductive OpsRun (CO:qx) (T:TT) (N:Nat) (pins:List Nat) (ops:Array Oper) (md:List (Nat×Nat)):List Oper->Nat->Slots->List (List Nat×List Nat)->Slots->Prop where
 |nil {i:Nat} {U:Slots}:OpsRun CO T N pins ops md [] i U [] U
 |cons {o:Oper} {r:List Oper} {i:Nat} {U U1 U2:Slots} {u:Unit} {R W:List Nat} {Ls:List (List Nat×List Nat)}:
   Run CO (fullM T N pins ops i (lookD md i) o) U u U1 R W->OpsRun CO T N pins ops md r (i+1) U1 Ls U2->OpsRun CO T N pins ops md (o::r) i U ((R,W)::Ls) U2
def Holds:List Log->List (List Nat×List Nat)->Prop
 |[],[]=>True
 |L::Ls,F::Fs=>(∀s∈F.1,s∈L.1)/\(∀s∈F.2,s∈L.2)/\Holds Ls Fs
 |_,_=>False
def OpsRun.seq {ops:Array Oper} {md:List (Nat×Nat)} {l:List Oper} {i:Nat} {U U':Slots} {Fs:List (List Nat×List Nat)} (h:OpsRun CO T N pins ops md l i U Fs U'):
 ∀τ,SEq U τ-> ∃τ',OpsRun CO T N pins ops md l i τ Fs τ'/\SEq U' τ':=by
 induction h with
 |nil=>exact λτ h=>⟨τ,.nil,h⟩
 |cons h1 _ ih=>
  intro τ e;obtain⟨τ1,g1,g2⟩:=h1.seq e;obtain⟨τ2,g3,g4⟩:=ih τ1 g2;exact⟨τ2,.cons g1 g3,g4⟩
def SEq.symm {U τ:Slots} (h:SEq U τ):SEq τ U:=λs=>(h s).symm
def SEq.trans {U τ ρ:Slots} (h:SEq U τ) (h':SEq τ ρ):SEq U ρ:=λs=>(h' s).trans (h s)
def qna {ρT:Type} {C:Nat->List AV->(AV->List AV->Option ρT)->Option ρT} {ρ:ρT}
 (hC: ∀f as k,C f as k=some ρ-> ∃r os,CO f as r os/\k r os=some ρ) {ops:Array Oper} {md:List (Nat×Nat)} (l:List Oper):
 ∀(i:Nat) (U:Slots) (Ls:List Log) (K:Slots->List Log->Option ρT),opsK C T N pins ops md l i U Ls K=some ρ->
  ∃Fs U' U'' Ls',OpsRun CO T N pins ops md l i U Fs U'/\SEq U' U''/\Holds Ls' Fs/\K U'' (Ls++Ls')=some ρ:=by
 induction l with
 |nil=>exact λi U Ls K h=>⟨[],U,U,[],.nil,λ_=>rfl,trivial,by simpa [opsK]using h⟩
 |cons o r ih=>
  intro i U Ls K h;simp only[opsK]at h;obtain⟨u,U1,R,W,h1,U1',L',e1,e2,e3,e4⟩:=qmb hC _ _ _ _ h;obtain⟨Fs,U2,U2',Ls',g1,g2,g3,g4⟩:=ih _ _ _ _ e4;obtain⟨τ,q1,q2⟩:=g1.seq U1 e1.symm;refine⟨(R,W)::Fs,τ,U2',L'::Ls',.cons h1 q1,q2.symm.trans g2,⟨λs hs=>e2 s (.inl hs),λs hs=>e3 s (.inl hs),g3⟩,by simpa using g4⟩
def qj7 (hT:TTok P T) (hC: ∀f as r os,CO f as r os->Xl P f as r os) (hE:EOf P E N pins) {ops:Array Oper} {md:List (Nat×Nat)} (hD: ∀n,D n->n<100)
 {Q:Exit->Act->World->Prop} {l:List Oper} {i:Nat} {Fs:List (List Nat×List Nat)} (h:OpsRun CO T N pins ops md l i U Fs U'):
 ∀{β who a w},Sim E (Dlt D i) β who U [] a w->(∀a' w' β' who',Sim E (Dlt D (i+l.length)) β' who' U' [] a' w'->Q .normal a' w')->wpList P ops Q l a w:=by
 induction h with
 |nil=>exact λS hn=>hn _ _ _ _ S
 | @cons o r i U U1 U2 u R W Ls h1 _ ih=>
   intro β who a w S hn;refine q8o hT hC hE h1 S (λk hk=>qkc hD hk) λa' w' β' who' S'=> ?_
   refine ih (S'.mono (λn h=>qm1 h) (λh=> ?_)) λa'' w'' β'' who'' S''=>hn _ _ _ _ (by
    rw[show i+(o::r).length=i+1+r.length by simp;omega];exact S'')
   rcases h with h|⟨j,k,_,hk,e⟩
   . have:=S.dfn;exact this (.inl h)
   . simp only[FN,fresh]at e;omega
end
section
variable {P:Program} {CO:qx} {T:TT} {E:Entry} {D:Nat->Prop} {β β':Beta} {who who':Who} {U U':Slots} {a:Act} {w w':World}
variable {N:Nat} {pins:List Nat}
def Last (st:Nat->Slots) (Wg:Nat->List Nat) (n:Nat) (S:Nat->Prop) (s:Nat) (v:Option AV):Prop:=
 (∃i,i<n/\S i/\s∈Wg i/\(∀j,j<n->S j->s∈Wg j->j<=i)/\v=vw (st (i+1)) s)\/((∀j,j<n->S j->s∉Wg j)/\v=vw (st 0) s)
variable {st:Nat->Slots} {Rg Wg:Nat->List Nat} {n:Nat} {S S':Nat->Prop} {s:Nat} {v u:Option AV}
def Last.uniq (h:Last st Wg n S s v) (h':Last st Wg n S s u):v=u:=by
 rcases h with⟨i,h1,h2,h3,h4,rfl⟩|⟨h1,rfl⟩<;>rcases h' with⟨j,g1,g2,g3,g4,rfl⟩|⟨g1,rfl⟩
 . grind
 . grind
 . grind
 . rfl
def Last.congr (h:Last st Wg n S s v) (he: ∀j,j<n->s∈Wg j->(S j↔S' j)):Last st Wg n S' s v:=by
 rcases h with⟨i,h1,h2,h3,h4,rfl⟩|⟨h1,rfl⟩
 . exact .inl ⟨i,h1,(he i h1 h3).1 h2,h3,λj hj hs hw=>h4 j hj ((he j hj hw).2 hs) hw,rfl⟩
 . exact .inr ⟨λj hj hs hw=>h1 j hj ((he j hj hw).2 hs) hw,rfl⟩
def Last.canon (hfr: ∀j,j<n-> ∀s,s∉Wg j->vw (st (j+1)) s=vw (st j) s): ∀i,i<=n->Last st Wg n (λj=>j<i) s (vw (st i) s)
 |0,_=> .inr ⟨λj _ h=>absurd h (zW _),rfl⟩
 |i+1,hi=>by
  by_cases hs:s∈Wg i
  . exact .inl ⟨i,O,O,hs,λj _ h _=>O,rfl⟩
  . rw[hfr i O s hs];refine(Last.canon hfr i O).congr λj hj hw=> ?_
    grind
def qj1 {m:M Unit} {i:Nat} {u:Unit} {τ:Slots} {anc:Nat->List Nat} (hi:i<n) (hrun:Run CO m (st i) u (st (i+1)) (Rg i) (Wg i))
 (hfr: ∀j,j<n-> ∀s,s∉Wg j->vw (st (j+1)) s=vw (st j) s)
 (hconf: ∀i j,i<j->j<n->i∈anc j\/((∀s∈Rg i,s∉Wg j)/\ ∀s∈Rg j,s∉Wg i))
 (hS: ¬S i) (ha: ∀k∈anc i,S k) (hb: ∀j,S j->i∉anc j) (hτ: ∀s,Last st Wg n S s (vw τ s)):
 ∃τ',Run CO m τ u τ' (Rg i) (Wg i)/\ ∀s,Last st Wg n (λj=>S j\/j=i) s (vw τ' s):=by
 have key: ∀s∈Rg i,∀j,j<n->s∈Wg j->(S j↔j<i):=λs hs j hj hw=>by
  grind
 have agree: ∀s∈Rg i,vw τ s=vw (st i) s:=λs hs=>
  ((hτ s).congr (key s hs)).uniq (Last.canon hfr i O)
 obtain⟨τ',h1,h2⟩:=hrun.local τ (λ_=>False) (λs h=>agree s (h.resolve_right id))
 refine⟨τ',h1,λs=> ?_⟩
 by_cases hs:s∈Wg i
 . have hr:=hrun.subW s hs;rw[h2 s (.inl hr)];refine .inl ⟨i,hi,.inr rfl,hs,λj hj hj' hw=> ?_,rfl⟩
   grind
 . rw[h1.frame s hs];refine(hτ s).congr λj hj hw=>⟨λh=> .inl h,λh=> ?_⟩
   grind
def prs (ops:List Oper) (i:Nat):List Nat:=match ops[i]? with
 |some o=>preds o i
 |none=>[]
def qdc (S:Nat->Prop) (all:List Oper) (hS: ∀j,j<all.length->S j-> ∀k∈prs all j,S k): ∀(r:List Oper) (i:Nat) (acc:List (List Nat)),
 (∀j,r[j]? =all[i+j]?)->acc.length=i->(∀j,j<i->(∀k∈prs all j,S k)-> ∀k∈acc.getD j [],S k)->all.length=i+r.length->
 ∀j,j<all.length->(∀k∈prs all j,S k)-> ∀k∈(ancs r i acc).getD j [],S k
 |[],i,acc,hr,hl,hacc,hn,j,hj,hp=>hacc j (by simpa [hn]using hj) hp
 |o::r,i,acc,hr,hl,hacc,hn,j,hj,hp=>by
  have ho:all[i]? =some o:=by have:=hr 0;simpa using this.symm
  simp only[ancs]
  refine qdc S all hS r (i+1) _ (λj=>by have:=hr (j+1);grind) (by simp[hl]) (λj hj hp k hk=> ?_)
   (by rw[hn];simp;omega) j hj hp
  rcases zq j i with h|h
  . refine hacc j h hp k ?_
    grind
  . have:j=i:=O;subst this;simp only[List.getD,List.getElem?_append_right (show acc.length<=j by omega),hl,zw2,List.getElem?_cons_zero,zu1]at hk
    obtain⟨p,hp',hk⟩:=zC.1 hk;have hpp:p∈prs all j:=by simp only[prs,ho];exact hp'
    have hpj:p<j:=by
     simp only[preds,zM,zR1,zF,decide_eq_true_eq]at hp';obtain⟨e,⟨_,_,h⟩,rfl⟩:=hp';exact h
    rcases mC hk with rfl|hk
    . exact hp k hpp
    . exact hacc p hpj (hS p O (hp p hpp)) k hk
end
end Go.Vs
