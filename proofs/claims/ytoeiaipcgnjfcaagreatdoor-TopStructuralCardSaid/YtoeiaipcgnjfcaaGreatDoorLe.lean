import Derived.Test.YtoeiaipcgnjfcaaGreatDoorLa
import Derived.Test.YtoeiaipcgnjfcaaGreatDoorLd
set_option linter.unusedSectionVars false
set_option linter.unusedVariables false
set_option linter.unusedSectionVars false
set_option linter.unusedSimpArgs false
set_option maxRecDepth 100000
set_option linter.defProp false
namespace Go.Vs.F
def valC (m:Nat) (a e:Int):Option (Int×Unit×Unit):=
 (g60 m a).bind λy2=>
 (g106 m y2.1.1 y2.1.2.1 y2.1.2.2.1 y2.1.2.2.2.1 e).bind λy3=>
 (g64 m y3.1.1 y3.1.2.1 y3.1.2.2.1 y3.1.2.2.2.1 0).bind λy4=>
 some (y4.1,((),()))
end Go.Vs.F
set_option linter.unusedSimpArgs false
set_option maxRecDepth 100000
namespace Go.Vs.F
variable {r c:Nat} {es:List Ent}
def qht (hE:EntsOK r c es) (hr:r<=200) (hc:c<=200) (ha:c*r<=10000):MV r c (packS es r c) (packI es r c) (packV es r c):=⟨qij hr hc ha,q2p _ _ _,qk3 hE hr hc ha⟩
end Go.Vs.F
set_option maxRecDepth 100000
namespace Go.Vs.F
section
variable {R C:Nat} {S I V:LI}
end
end Go.Vs.F
set_option maxRecDepth 100000
namespace Go.Vs.F
section
variable {R C:Nat} {S I V:LI}
end
end Go.Vs.F
set_option maxRecDepth 100000
namespace Go.Vs.F
section
variable {R C:Nat} {S I V:LI}
def q8c (hM:MatOK R C S I) (hV:V.length=I.length): ∀(d k:Nat),k+d=C-> ∀e∈ents S I V d k,e.2.2∈V
 |0,k,h=>by intro e he;cases he
 |d+1,k,h=>by
  intro e he;rw[ents]at he;rcases zH.1 he with he|he
  . unfold Zo at he;obtain⟨t,ht,rfl⟩:=zQ.1 he;rw[zo2]at ht;have h1:=hM.st.rng (j:=k+1) O;have h2:=hM.st.rng (j:=k) O;exact q2s O
  . exact q8c hM hV d (k+1) O e he
end
end Go.Vs.F
set_option maxRecDepth 100000
namespace Go.Vs.F
def valF (f:Int):Int:=sc (ofZ f) (ofE f) (-1074)
def qcd {f:Int} (h:FinF f):ofD f=mkD (valF f) (-1074):=by
 have he:=qec (f:=f);unfold ofD valF;rw[iP h,qem O]
def val_ok {f:Int} (h:FinF f):OkD (valF f) (-1074):=by
 have he:=qec (f:=f);have:=qnq h;unfold OkD valF at*
 rwa [qem O]
section
variable {R C:Nat} {S I V:LI}
def MV.valU (h:MV R C S I V) (hU: ∀x∈V,U64 x) {e:Ent} (he:e∈Go.Vs.F.ents S I V C 0):U64 e.2.2/\FinF e.2.2:=by
 have h1:=hU _ (q8c h.ok h.vl C 0 O e he);obtain⟨_,_,h3⟩:=q75 h.ents e he;rw[qct h1]at h3;exact⟨h1,of_decide_eq_true h3⟩
end
open Go.Vs
end Go.Vs.F
set_option maxRecDepth 100000
namespace Go.Vs.F
structure SmV (v:Int):Prop where
 u:U64 v
 f:FinF v
 k: ∃k:Int,EqD (ofZ v) (ofE v) k (-6)/\ -32768<=k/\k<=32768
def SmV.fin {v:Int} (h:SmV v):finB v=true:=by rw[qct h.u];exact decide_eq_true h.f
def smB (v:Int):Bool:=decide (0<=v)&&(decide (v<18446744073709551616)&&(decide (fexp v≠2047)&&(decide (ofE v<= -6)&&(decide (ofZ v%2^(-6-ofE v).toNat=0)&&(decide (-32768<=ofZ v/2^(-6-ofE v).toNat)&&decide (ofZ v/2^(-6-ofE v).toNat<=32768))))))
def qnb {v:Int} (h:smB v=true):SmV v:=by
 simp only[smB,zF,decide_eq_true_eq]at h;obtain⟨h1,h2,h3,h4,h5,h6,h7⟩:=h;refine⟨⟨h1,h2⟩,h3,ofZ v/2^(-6-ofE v).toNat,⟨ofE v,zX3 _,h4,?_⟩,h6,h7⟩;rw[q9a];unfold sc;exact(Int.ediv_mul_cancel (Int.dvd_of_emod_eq_zero h5)).symm
def eqS:Option (Int×Unit×Unit)->Option (Int×Unit×Unit)->Bool
 |some v,some w=>v.1==w.1&&smB v.1
 |_,_=>false
def qmk {a e:Int} (h: ∀j,eqS (valC 100 a e) (valC (j+100) a e)=true): ∃v,SmV v/\ ∀m,100<=m->valC m a e=some (v,(),()):=by
 cases e0:valC 100 a e with
 |none=>have:=h 0;rw[e0]at this;cases this
 |some v=>
  have hv: ∀j,∃w,valC (j+100) a e=some w/\v.1=w.1/\smB v.1=true:=by
   intro j;have hj:=h j;rw[e0]at hj;cases e1:valC (j+100) a e with
   |none=>rw[e1]at hj;cases hj
   |some w=>
    rw[e1]at hj;simp only[eqS,zF,beq_iff_eq]at hj;exact⟨w,rfl,hj.1,hj.2⟩
  obtain⟨w0,_,_,hf⟩:=hv 0;refine⟨v.1,qnb hf,λm hm=> ?_⟩
  obtain⟨j,rfl⟩: ∃j,m=j+100:=⟨m-100,O⟩;obtain⟨w,g1,g2,_⟩:=hv j;rw[g1,g2]
def rowS (j k:Nat):Bool:=(List.range 13).all λe=>eqS (valC 100 ((k:Int)-8) ((e:Int)-6)) (valC (j+100) ((k:Int)-8) ((e:Int)-6))
def qnk (j:Nat):rowS j 0=true:=by kernel_rfl
def qnj (j:Nat):rowS j 1=true:=by kernel_rfl
def qnn (j:Nat):rowS j 2=true:=by kernel_rfl
def qnf (j:Nat):rowS j 3=true:=by kernel_rfl
def qnp (j:Nat):rowS j 4=true:=by kernel_rfl
def qmt (j:Nat):rowS j 5=true:=by kernel_rfl
def qno (j:Nat):rowS j 6=true:=by kernel_rfl
def qnc (j:Nat):rowS j 7=true:=by kernel_rfl
def qnh (j:Nat):rowS j 8=true:=by kernel_rfl
def qnd (j:Nat):rowS j 9=true:=by kernel_rfl
def qle (j:Nat):rowS j 10=true:=by kernel_rfl
def qmm (j:Nat):rowS j 11=true:=by kernel_rfl
def qlx (j:Nat):rowS j 12=true:=by kernel_rfl
def qlz (j:Nat):rowS j 13=true:=by kernel_rfl
def qmq (j:Nat):rowS j 14=true:=by kernel_rfl
def qlf (j:Nat):rowS j 15=true:=by kernel_rfl
def qlg (j:Nat):rowS j 16=true:=by kernel_rfl
def qjz (j:Nat): ∀k,k<17->rowS j k=true
 |0,_=>qnk j
 |1,_=>qnj j
 |2,_=>qnn j
 |3,_=>qnf j
 |4,_=>qnp j
 |5,_=>qmt j
 |6,_=>qno j
 |7,_=>qnc j
 |8,_=>qnh j
 |9,_=>qnd j
 |10,_=>qle j
 |11,_=>qmm j
 |12,_=>qlx j
 |13,_=>qlz j
 |14,_=>qmq j
 |15,_=>qlf j
 |16,_=>qlg j
 |k+17,h=>O
def qjt (n:Int): ∃v,SmV v/\ ∀m,3000000<m->g38 m n=some (v,(),()):=by
 obtain⟨k,hk,hp⟩:=q27 (a:=n) (n:=17) O O;obtain⟨x,hx,hxl⟩:=qko n;have e17:Int.tdiv (x:Int) 17=((x/17:Nat):Int):=td x 17;have e3:Int.tdiv ((x/17:Nat):Int) 3=((x/17/3:Nat):Int):=td _ 3;have e13:Int.tmod ((x/17/3:Nat):Int) 13=((x/17/3%13:Nat):Int):=tm _ 13;have l1:x/17<9223372036854775808:=O;have l2:x/17/3%13<13:=O
 have key: ∀m,g38 m n=if Int.tmod ((x/17:Nat):Int) 3=0 then valC m ((k:Int)-8) (((x/17/3%13:Nat):Int)-6)else valC m ((k:Int)-8) 0:=by
  intro m;rw[g38];rw[show g8 m n 17=some ((k:Int),(),(),())from hp m]
  simp only[bS,wJ,wI,hx,e17];rw[wu O O,wi (n:=((x/17:Nat):Int)) O O,wi (n:=(k:Int)-8) O O,e3,wi (n:=((x/17/3:Nat):Int)) O O,e13,wi (n:=((x/17/3%13:Nat):Int)-6) O O,bif_eq];rfl
 have hv: ∀e:Nat,e<13-> ∃v,SmV v/\ ∀m,100<=m->valC m ((k:Int)-8) ((e:Int)-6)=some (v,(),()):=λe he=>qmk λj=>by
  have:=qjz j k hk;unfold rowS at this;exact zX.1 this e (zM2.2 he)
 by_cases h:Int.tmod ((x/17:Nat):Int) 3=0
 . obtain⟨v,h1,h2⟩:=hv (x/17/3%13) l2;exact⟨v,h1,λm hm=>by rw[key,iP h,h2 m O]⟩
 . obtain⟨v,h1,h2⟩:=hv 6 O;exact⟨v,h1,λm hm=>by rw[key,iN' h];exact h2 m O⟩
section
variable {R C:Nat} {S I V:LI}
def LookV (es:List Ent) (i j:Int) (v:Int):Prop:=((i,(j,v)):Ent)∈es\/(v=0/\ ∀v',((i,(j,v')):Ent)∉es)
end
end Go.Vs.F
set_option maxRecDepth 100000
namespace Go.Vs.F
def qis {es:List Ent} {r c:Nat} {x:Int} (h:x∈packV es r c): ∃e∈es,e.2.2=x:=by
 rw[<-can_V]at h;obtain⟨e,he,rfl⟩:=zQ.1 h;obtain⟨i,j,_,_,hl,rfl⟩:=q5p.1 he;exact⟨_,qew hl,rfl⟩
section
variable {R C:Nat} {S I V:LI}
end
end Go.Vs.F
set_option maxRecDepth 100000
namespace Go.Vs.F
section
variable {N:Nat} {S0 I0 V0 S1 I1 V1 S2 I2 V2:LI} {s:Int}
end
end Go.Vs.F
set_option maxRecDepth 100000
namespace Go.Vs.F
def fx (v:Int):Int:=(ofD v).2.2.2.1
abbrev BG:=Bool×LI
def zG (q:Int):BG:=((zB q).1,(zB q).2.1)
def qlq:zG 0=(false,[]):=by unfold zG;rw[zB_1,zB_2,show(0:Int).natAbs=0 from rfl,Qc];rfl
def ql6 {v:Int} (h:FinF v): ∃w,NF (valF v) (-1074) w (fx v)/\(ofD v).1=false/\(ofD v).2.1=(zB w).1/\(ofD v).2.2.1=(zB w).2.1:=by
 obtain⟨w,f,k,k1,k2,k3⟩:=qgg (val_ok h);have hv:=qcd h;have:fx v=f:=by unfold fx;rw[hv,k3]
 rw[this,hv];exact⟨w,k,val_ok h,k1,k2⟩
structure ShfOK (l:LI) (s:Int) (fst:Bool):Prop where
 a:fst=true->s=0/\ ∀v∈l,valF v=0
 b:fst=false->(∃v∈l,valF v≠0/\fx v=s)/\ ∀v∈l,valF v≠0->s<=fx v
def fx_bd {v:Int} (h:FinF v): -65536<=fx v/\fx v<=65536:=by
 obtain⟨w,k,_⟩:=ql6 h;have:=k.lo;have:=k.hi;omega
def Zu {m:Nat} (hm:3000000<m) {V:LI} (hl:V.length<=100000) (hU: ∀v∈V,U64 v/\FinF v) (a0 a1:Int) (a2 a3 a4:LI): ∀(n k:Nat) (s:Int) (fst:Bool),V.length-k<n->k<=V.length->ShfOK (V.take k) s fst->
 ∃s',g9L0 m n a0 a1 a2 a3 a4 s fst V (V.length:Int) (k:Int)=some (.inl ((a0,a1,a2,a3,a4,()),s',()))/\ ∃f',ShfOK V s' f'
 |0,k,s,fst,h,_,_=>O
 |n+1,k,s,fst,h,hk0,hS=>by
  rw[g9L0,bQ];by_cases hk:k<V.length
  . have hmem:V.getD k 0∈V:=q2s hk;obtain⟨hu,hf⟩:=hU _ hmem;have ht:=take_snoc (l:=V) hk (x:=V.getD k 0) rfl;have ws:wI ((k:Int)+1)=((k+1:Nat):Int):=wsucc O;have hsg:=qe4 hm (val_ok hf);rw[iP O,iP O,tN,ws];obtain⟨v,hv⟩: ∃v,v=V.getD k 0:=⟨_,rfl⟩;rw[<-hv]at hu hf ht hsg hmem⊢;rw[Of_eq hm hu,bS];dsimp only;have hfx:(ofD v).2.2.2.1=fx v:=rfl;rw[<-qcd hf]at hsg;rw[hsg,bS,bif_ne,hfx];dsimp only;by_cases z:sgn (valF v)=0
    . have z0:=Zb.1 z;rw[iP z];refine Zu hm hl hU a0 a1 a2 a3 a4 n (k+1) s fst O O ?_;rw[ht];refine⟨λh=>⟨(hS.a h).1,λx hx=> ?_⟩,λh=>⟨?_,λx hx hx0=> ?_⟩⟩
      . rcases zH.1 hx with hx|hx
        . exact(hS.a h).2 x hx
        . rw[zA]at hx;subst hx;exact z0
      . obtain⟨y,y1,y2⟩:=(hS.b h).1;exact⟨y,zH.2 (.inl y1),y2⟩
      . rcases zH.1 hx with hx|hx
        . exact(hS.b h).2 x hx hx0
        . rw[zA]at hx;subst hx;exact absurd z0 hx0
    . have z0:valF v≠0:=λh=>z (Zb.2 h)
      rw[iN' z];cases fst with
      |true=>
       rw[cond_true];refine Zu hm hl hU a0 a1 a2 a3 a4 n (k+1) (fx v) false O O ?_;rw[ht];refine⟨λh=>Bool.noConfusion h,λ_=>⟨⟨v,zH.2 (.inr (zA.2 rfl)),z0,rfl⟩,λx hx hx0=> ?_⟩⟩
       rcases zH.1 hx with hx|hx
       . exact absurd ((hS.a rfl).2 x hx) hx0
       . rw[zA]at hx;subst hx;exact zX3 _
      |false=>
       obtain⟨⟨y,y1,y2,y3⟩,y4⟩:=hS.b rfl;rw[cond_false,bQ];by_cases c:fx v<s
       . rw[iP c];refine Zu hm hl hU a0 a1 a2 a3 a4 n (k+1) (fx v) false O O ?_;rw[ht];refine⟨λh=>Bool.noConfusion h,λ_=>⟨⟨v,zH.2 (.inr (zA.2 rfl)),z0,rfl⟩,λx hx hx0=> ?_⟩⟩
         rcases zH.1 hx with hx|hx
         . have:=y4 x hx hx0;omega
         . rw[zA]at hx;subst hx;exact zX3 _
       . rw[iN' c];refine Zu hm hl hU a0 a1 a2 a3 a4 n (k+1) s false O O ?_;rw[ht];refine⟨λh=>Bool.noConfusion h,λ_=>⟨⟨y,zH.2 (.inl y1),y2,y3⟩,λx hx hx0=> ?_⟩⟩
         rcases zH.1 hx with hx|hx
         . exact y4 x hx hx0
         . rw[zA]at hx;subst hx;omega
  . rw[iN' O];rw[zr1 O]at hS;exact⟨s,rfl,fst,hS⟩
def q5d (m:Nat) {R C:Nat} (hR:R<=200) (hC:C<=200) (S I V:LI) (s:Int): ∀(n k:Nat) (G:List (List BG)),R-k<n->k<=R->G.length=R->(∀i,i<k->G.getD i []=List.replicate C (false,[]))->
 ∃G',g9L1 m n (R:Int) (C:Int) S I V G s (R:Int) (k:Int)=some (.inl (((R:Int),(C:Int),S,I,V,()),G',s,()))/\G'.length=R/\ ∀i,i<R->G'.getD i []=List.replicate C (false,[])
 |0,k,G,h,_,_,_=>O
 |n+1,k,G,h,hk0,hG,hi=>by
  rw[g9L1,bQ];by_cases hk:k<R
  . rw[iP O,iP O,iP O,tN,tN,show wI ((k:Int)+1)=((k+1:Nat):Int)from wsucc O]
    refine q5d m hR hC S I V s n (k+1) _ O O (by rw[zZ];exact hG) (λi hi2=> ?_)
    rw[Jp O];by_cases e:i=k
    . rw[iP e]
    . rw[iN' e];exact hi i O
  . rw[iN' O];exact⟨G,rfl,hG,λi h=>hi i O⟩
structure GrOK (R C:Nat) (es:List Ent) (s:Int) (G:List (List BG)):Prop where
 r:G.length=R
 c: ∀i,i<R->(G.getD i []).length=C
 q: ∀(i j:Nat),i<R->j<C-> ∀v,LookV es (i:Int) (j:Int) v-> ∃q:Int,EqD q s (valF v) (-1074)/\(G.getD i []).getD j (false,[])=zG q/\blen q.natAbs<=140000/\(valF v≠0->fx v=s->q.natAbs%2=1)
def q1l {m:Nat} (hm:3000000<m) {R C:Nat} (hR:R<=200) (hC:C<=200) {es:List Ent} (hE:EntsOK R C es) (hD:DistE es) (hl:es.length<=100000) (hU: ∀e∈es,U64 e.2.2/\FinF e.2.2) {s:Int} (hs: ∀e∈es,valF e.2.2≠0->s<=fx e.2.2/\ -65536<=s): ∀(n k:Nat) (G:List (List BG)),es.length-k<n->k<=es.length->GrOK R C (es.take k) s G->
 ∃G',g9L2 m n G s es (es.length:Int) (k:Int)=some (.inl (G',s,()))/\GrOK R C es s G'
 |0,k,G,h,_,_=>O
 |n+1,k,G,h,hk0,hG=>by
  rw[g9L2,bQ];by_cases hk:k<es.length
  . have hmem:es.getD k zE∈es:=qho hk;have ht:=q1d hk;have ws:wI ((k:Int)+1)=((k+1:Nat):Int):=wsucc O;obtain⟨⟨i,j,v⟩,hv⟩: ∃e,e=es.getD k zE:=⟨_,rfl⟩;have hv':es.getD k (0,(0,0))=(i,j,v):=hv.symm;rw[<-hv]at hmem ht;obtain⟨hi,hj,_⟩:=q75 hE _ hmem;obtain⟨hu,hf⟩:=hU _ hmem;have hs1:=hs _ hmem;dsimp only at hi hj hu hf hs1
    have hnew: ∀v',((i,(j,v')):Ent)∉es.take k:=λv' hx=>by
     obtain⟨t,ht2,e⟩:=zV hx;rw[zA1]at ht2;rw[zn1]at e;have g1:es.getD t zE=(i,(j,v')):=by rw[<-e];simp[List.getD,show t<es.length by omega]
     have:=hD t k O hk (by rw[g1,<-hv]) (by rw[g1,<-hv])
     omega
    have look: ∀(a b:Int) v',LookV (es.take (k+1)) a b v'->(a=i/\b=j->v'=v)/\(¬(a=i/\b=j)->LookV (es.take k) a b v'):=by
     intro a b v' hl';rw[ht]at hl';constructor
     . rintro ⟨rfl,rfl⟩
       rcases hl' with h1|⟨_,h1⟩
       . rcases zH.1 h1 with h1|h1
         . exact absurd h1 (hnew v')
         . rw[zA]at h1;simp only[zL3,true_and]at h1;exact h1
       . exact absurd (zH.2 (.inr (zA.2 rfl))) (h1 v)
     . intro hne;rcases hl' with h1|⟨h0,h1⟩
       . rcases zH.1 h1 with h1|h1
         . exact .inl h1
         . rw[zA]at h1;simp only[zL3]at h1;exact absurd ⟨h1.1,h1.2.1⟩ hne
       . exact .inr ⟨h0,λw hw=>h1 w (zH.2 (.inl hw))⟩
    rw[iP O,iP O,tN,zI,hv',ws,Of_eq hm hu,bS];dsimp only;obtain⟨w,kn,d1,d2,d3⟩:=ql6 hf;have hsg:=qe4 hm (val_ok hf);rw[<-qcd hf]at hsg;rw[hsg,bS,bif_ne];dsimp only;obtain⟨i',rfl⟩: ∃k:Nat,i=(k:Int):=⟨i.toNat,O⟩;obtain⟨j',rfl⟩: ∃k:Nat,j=(k:Int):=⟨j.toNat,O⟩;by_cases z:sgn (valF v)=0
    . have z0:=Zb.1 z;rw[iP z];refine q1l hm hR hC hE hD hl hU hs n (k+1) G O O ⟨hG.r,hG.c,λa b ha hb v' hv'=> ?_⟩
      obtain⟨g1,g2⟩:=look _ _ _ hv';by_cases e:((a:Int)=(i':Int)/\(b:Int)=(j':Int))
      . have:=g1 e;subst this;have ea:a=i':=O;have eb:b=j':=O;subst ea eb;obtain⟨q,q1,q2,q3,_⟩:=hG.q a b ha hb 0 (.inr ⟨rfl,hnew⟩)
        have zz:valF 0=0:=by
         have:ofZ 0=0:=by unfold ofZ fexp ffrac fneg;decide
         unfold valF sc;rw[this,zG3]
        rw[zz]at q1;exact⟨q,by rw[z0];exact q1,q2,q3,λh=>absurd z0 h⟩
      . exact hG.q a b ha hb v' (g2 e)
    . have z0:valF v≠0:=λh=>z (Zb.2 h)
      obtain⟨s1,s2⟩:=hs1 z0;have hfb:=fx_bd hf;have wd:wI (fx v-s)=fx v-s:=by rw[wQ,wi O O]
      have hfx:(ofD v).2.2.2.1=fx v:=rfl;have hlw:=kn.lim;obtain⟨d,hd⟩: ∃d:Nat,fx v-s=(d:Int):=⟨(fx v-s).toNat,O⟩
      have hsh:g44 m (zB w).1 (zB w).2.1 (d:Int)=some ((zB (w*2^d),0,()),(),(),()):=by
       rw[qdy hm (Lm_zB w) O O,zv_zB]
      have hscd:w*2^d=sc w (fx v) s:=by unfold sc;rw[hd,tN]
      have hc1:=hG.c i' O;have hr:=hG.r;rw[iN' z,iP O,hfx,wd,d2,d3,hd,hsh,bS];simp only[tN];rw[iP O];refine q1l hm hR hC hE hD hl hU hs n (k+1) _ O O ⟨by rw[zZ];exact hG.r,λa ha=> ?_,λa b ha hb v' hv'=> ?_⟩
      . rw[Jp O];by_cases e:a=i'
        . rw[iP e,zZ,<-e];exact hG.c a ha
        . rw[iN' e];exact hG.c a ha
      . obtain⟨g1,g2⟩:=look _ _ _ hv';by_cases e:((a:Int)=(i':Int)/\(b:Int)=(j':Int))
        . have:=g1 e;subst this;have ea:a=i':=O;have eb:b=j':=O;subst ea eb;refine⟨sc w (fx v') s,(EqD.sc s1).trans kn.eq,?_,?_,λ_ e2=> ?_⟩
          . rw[Jp O,iP rfl,Jp O,iP rfl,<-hscd];rfl
          . have:=qjs (w:=w) s1;have:=kn.hi;have:=kn.lo;omega
          . rw[<-e2,q9a];refine kn.odd λh=>z0 ?_
            subst h;have:=kn.eq.sgn;rw[show sgn 0=0 from rfl]at this
            exact Zb.1 this.symm
        . obtain⟨q,q1,q2,q3,q4⟩:=hG.q a b ha hb v' (g2 e);refine⟨q,q1,?_,q3,q4⟩;rw[Jp O];by_cases ea:a=i'
          . subst ea;rw[iP rfl,Jp O,iN' O];exact q2
          . rw[iN' ea];exact q2
  . rw[iN' O];rw[zr1 O]at hG;exact⟨G,rfl,hG⟩
end Go.Vs.F
set_option maxRecDepth 100000
namespace Go.Vs.F
def q6d:valF 0=0:=by
 have:ofZ 0=0:=by unfold ofZ fexp ffrac fneg;decide
 unfold valF sc;rw[this,zG3]
section
variable {R C:Nat} {S I V:LI}
def qdd {m:Nat} (hm:3000000<m) (h:MV R C S I V) (hU: ∀x∈V,U64 x) (hR:R<=16) (hC:C<=16):
 ∃G s,g9 m (R:Int) (C:Int) S I V=some ((G,s,0,()),(),())/\GrOK R C (ents S I V C 0) s G/\(∃f',ShfOK V s f')/\ -65536<=s/\s<=65536:=by
 have hsz:=h.ok.sz;have hv:=h.vl;have hsl:=h.sl;have hl:=h.len
 have hfin: ∀v∈V,U64 v/\FinF v:=λv hv2=>by
  have h1:=hU v hv2;obtain⟨_,_,_,_,_,_,hf⟩:=qiv h.chk;obtain⟨i,hi,rfl⟩:=zV hv2;have:=Qg.1 hf i O hi;rw[show V.getD i 0=V[i] by simp[List.getD,hi],qct h1]at this
  exact⟨h1,of_decide_eq_true this⟩
 obtain⟨s,e0,f',hS⟩:=Zu hm O hfin (R:Int) (C:Int) S I V m 0 0 true O O ⟨λ_=>⟨rfl,λv hv=>by cases hv⟩,λh=>Bool.noConfusion h⟩
 rw[nZ]at e0
 have sb: -65536<=s/\s<=65536:=by
  cases f' with
  |true=>have:=(hS.a rfl).1;omega
  |false=>
   obtain⟨⟨v,v1,v2,v3⟩,_⟩:=hS.b rfl;have:=fx_bd (hfin v v1).2;omega
 obtain⟨G1,e1,r1,g1⟩:=q5d m (R:=R) (C:=C) O O S I V s m 0 (List.replicate R []) O O (by simp) (λi hi=>O)
 rw[nZ]at e1;have hE:=h.ents;have hD:=h.dist;have hem: ∀e∈Go.Vs.F.ents S I V C 0,U64 e.2.2/\FinF e.2.2:=λe he=>h.valU hU he
 obtain⟨G2,e2,g2⟩:=q1l hm (R:=R) (C:=C) O O hE hD O hem (s:=s) (λe he hz=>by
  have hev:=q8c h.ok h.vl C 0 O e he;cases f' with
  |true=>exact absurd ((hS.a rfl).2 _ hev) hz
  |false=>exact⟨(hS.b rfl).2 _ hev hz,sb.1⟩) m 0 G1 O O ⟨r1,λi hi=>by rw[g1 i hi];simp,λi j hi hj v hv=>by
   rcases hv with hv|⟨rfl,_⟩
   . cases hv
   . refine⟨0,by rw[q6d];exact EqD.zero _ _,?_,by decide,λh=>absurd q6d h⟩
     rw[g1 i hi,qx hj,qlq]⟩
 rw[nZ]at e2;refine⟨G2,s,?_,g2,⟨f',hS⟩,sb⟩;rw[g9,g40eq O O O O O,h.chk];simp only[bS,bif_ne,if_true,bQ];rw[iN' O,iN' O,e0,bS];dsimp only;rw[iP O,tN,zN1,e1,bS];dsimp only;rw[q6b O h.ok h.vl,bS];dsimp only;rw[e2,bS]
end
def qG (G:List (List BG)) (i j:Nat):Int:=zv ((G.getD i []).getD j (false,[])).1 ((G.getD i []).getD j (false,[])).2
def qG_of {G:List (List BG)} {i j:Nat} {q:Int} (h:(G.getD i []).getD j (false,[])=zG q):qG G i j=q:=by
 unfold qG;rw[h];exact zv_zB q
section
variable {R C:Nat} {S I V:LI}
end
def q73 {r c:Nat} (hr:r<=200) (hc:c<=200) (l:LI) (hl:l.length<=100000) (a0 a1:Int) (a2 a3 a4:LI): ∀(d k:Nat) (es:List Ent),l.length-k<=d->k<=l.length+2->EntsOK r c es->(∀e∈es,SmV e.2.2)->es.length<=k->
 ∃es',EntsOK r c es'/\(∀e∈es',SmV e.2.2)/\es'.length<=l.length+2/\ ∀m n,3000000<m->d<n->g7L0 m n (r:Int) (c:Int) l a0 a1 a2 a3 a4 es (k:Int)=some (.inl ((r:Int),(c:Int),(a0,a1,a2,a3,a4,()),es',()))
 |d,k,es,hn,hk,hE,hG,hk2=>by
  have e2:wI ((k:Int)+2)=((k+2:Nat):Int):=wi O O;have e1:wI ((k:Int)+1)=((k+1:Nat):Int):=wsucc O;have e3:wI ((k:Int)+3)=((k+3:Nat):Int):=wi O O;by_cases h:k+2<l.length
  . by_cases h1:0<r
    . by_cases h2:0<c
      . obtain⟨i,hi,ei⟩:=q27 (a:=l.getD k 0) (n:=r) h1 O;obtain⟨j,hj,ej⟩:=q27 (a:=l.getD (k+1) 0) (n:=c) h2 O;obtain⟨v,hv,ev⟩:=qjt (l.getD (k+2) 0);cases d with
        |zero=>omega
        |succ d=>
        obtain⟨es',g1,g0,g2,g3⟩:=q73 hr hc l hl a0 a1 a2 a3 a4 d (k+3) (es++[((i:Int),((j:Int),v))]) O O (hE.snoc O O hv.fin) (λe he=>by
         rcases zH.1 he with he|he
         . exact hG e he
         . rw[zA]at he;subst he;exact hv) (by simp;omega)
        refine⟨es',g1,g0,g2,λm n hm hdn=> ?_⟩
        obtain⟨n,rfl⟩: ∃n',n=n'+1:=⟨n-1,O⟩;rw[g7L0,bQ,e2,e1,e3,bQ,bQ];rw[iP O,iP O,iP O,iP O,tN,tN,tN,ei,ej,ev m hm];simp only[bS];rw[iP O,iP O,iP (by simp;omega)]
        exact g3 m n hm O
      . refine⟨es,hE,hG,O,λm n hm hdn=> ?_⟩
        obtain⟨n,rfl⟩: ∃n',n=n'+1:=⟨n-1,O⟩;rw[g7L0,bQ,e2,e1,e3,bQ,bQ,iP O,iP O,iN' O]
    . refine⟨es,hE,hG,O,λm n hm hdn=> ?_⟩
      obtain⟨n,rfl⟩: ∃n',n=n'+1:=⟨n-1,O⟩;rw[g7L0,bQ,e2,e1,e3,bQ,bQ,iP O,iN' O]
  . refine⟨es,hE,hG,O,λm n hm hdn=> ?_⟩
    obtain⟨n,rfl⟩: ∃n',n=n'+1:=⟨n-1,O⟩;rw[g7L0,bQ,e2,e1,e3,bQ,bQ,iN' O]
def qap {r c:Nat} (hr:r<=100) (hc:c<=100) {l:LI} (hl:l.length<=100000): ∃es,EntsOK r c es/\(∀e∈es,SmV e.2.2)/\es.length<=l.length+2/\ ∀m,3000000<m->
 g7 m (r:Int) (c:Int) l=some (((r:Int),(c:Int),packS es r c,packI es r c,packV es r c,()),(),(),(),()):=by
 obtain⟨es,h2,h0,h3,h1⟩:=q73 (r:=r) (c:=c) O O l hl 0 0 [] [] [] l.length 0 [] O O (λk hk=>absurd hk (zW _)) (λe he=>by cases he) (zD _)
 refine⟨es,h2,h0,h3,λm hm=> ?_⟩
 have h1:=h1 m m O O;simp only[nZ]at h1;rw[g7,h1];simp only[bS];rw[qm1 h2 O O O O];rfl
end Go.Vs.F
