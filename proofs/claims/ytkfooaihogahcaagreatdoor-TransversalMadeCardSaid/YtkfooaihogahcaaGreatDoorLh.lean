/-The edges of a matrix;Maximum,as a whole. The document's best weight:it tries all transversals. The document's assignment:the lexicographically least transversal of greatest weight. The document's assignment,column by column. Maximum:the program's and the document's. Check:the program's and the document's,for any lists. Check:both give the same. Scaling by the duals:one value. Scaling by the duals:both give the same. The laws TransversalExact and TransversalMade. -/
import Derived.Test.YtkfooaihogahcaaGreatDoorLg
import Derived.Test.YtkfooaihogahcaaGreatDoorLf
import Derived.Test.YtkfooaihogahcaaGreatDoorLb
set_option linter.unusedVariables false
set_option linter.unusedSimpArgs false
namespace Go.Vs.F
variable {N:Nat} {S I V:LI}
theorem MatOK.uniq {R C:Nat} (hM:MatOK R C S I) {j:Nat} (hj:j<C) {t t':Nat} (h1:(S.getD j 0).toNat<=t) (h2:t<(S.getD (j+1) 0).toNat) (h3:(S.getD j 0).toNat<=t') (h4:t'<(S.getD (j+1) 0).toNat) (e:I.getD t 0=I.getD t' 0):t=t':=by
 rcases Nat.lt_trichotomy t t' with h|h|h
 . have:=hM.asc hj (t'-t-1) t h1 O;rw[show t+(t'-t-1+1)=t' by omega]at this;omega
 . exact h
 . have:=hM.asc hj (t-t'-1) t' h3 O;rw[show t'+(t-t'-1+1)=t by omega]at this;omega
structure MG (N:Nat) (S I V:LI):Prop where
 ok:MatOK N N S I
 vl:V.length=I.length
 chk:chk (N:Int) (N:Int) S I V=0
 good: ∀t,t<V.length->GoodV (V.getD t 0)
 il:I.length<=200
def edg1 (j:Nat) (e:Ent):Option (Int×Int):=if e.2.1=(j:Int)/\(expOf e.2.2).2=true then some (e.1,(expOf e.2.2).1)else none
def edg (es:List Ent) (j:Nat):List (Int×Int):=es.filterMap (edg1 j)
theorem q1h (m:Nat) {es:List Ent} (hm:3000000<m) (hg: ∀e∈es,GoodV e.2.2/\0<=e.2.1/\e.2.1<(N:Int)) (hl:es.length<=1000): ∀(n k:Nat) (out:List (List (Int×Int))),es.length-k<n->k<=es.length->out.length=N->
 (∀j,j<N->out.getD j []=edg (es.take k) j)->
 ∃E,g39L0 m n out es (es.length:Int) (k:Int)=some (.inl (E,()))/\E.length=N/\ ∀j,j<N->E.getD j []=edg es j
 |0,k,out,h,_,_,_=>O
 |n+1,k,out,h,hk0,ho,hq=>by
  rw[g39L0];by_cases hk:k<es.length
  . have h1:((k:Int)<(es.length:Int)):=O;have c1:(0:Int)<=(k:Int)/\(k:Int)<(es.length:Int):=O;have hmem:es.getD k (0,(0,0))∈es:=X8 hk;obtain⟨g,g1,g2⟩:=hg _ hmem
    have htk:es.take (k+1)=es.take k++[es.getD k (0,(0,0))]:=by
     rw[List.take_add_one];congr 1;rw[List.getElem?_eq_getElem hk,List.getD,List.getElem?_eq_getElem hk];rfl
    have hed: ∀j,edg (es.take (k+1)) j=edg (es.take k) j++(edg1 j (es.getD k (0,(0,0)))).toList:=fun j=>by
     unfold edg;rw[htk,List.filterMap_append];congr 1
    simp only[bQ,h1,if_true,c1,and_self,tN,Nat.zero_add,wQ,wsucc (show k<4611686018427387904 by omega)]
    generalize es.getD k (0,(0,0))=y at*
    rw[g.float hm];simp only[bS];rcases Bool.eq_false_or_eq_true (expOf y.2.2).2 with hx|hx
    . rw[hx];simp only[cond_true];have c2:(0:Int)<=y.2.1/\y.2.1<(out.length:Int):=O;have hjN:y.2.1.toNat<N:=O
      have c3:(out.getD y.2.1.toNat []).length+([(y.1,(expOf y.2.2).1)]:List (Int×Int)).length<=1073741824:=by
       rw[hq _ hjN];have:(edg (es.take k) y.2.1.toNat).length<=(es.take k).length:=List.length_filterMap_le ..;rw[List.length_take]at this;show _+1<=_;omega
      simp only[c2,c3,and_self,if_true];refine q1h m hm hg hl n (k+1) _ O O (by simp[ho]) fun j hj=> ?_
      rw[hed,Q8 O];split
      . rename_i e;rw[hq _ hjN,<-e,edg1,iP ⟨O,hx⟩];rfl
      . rename_i e;rw[hq j hj,edg1,iN' (fun c=>e O)];simp
    . rw[hx];simp only[cond_false];refine q1h m hm hg hl n (k+1) _ O O ho fun j hj=> ?_
      rw[hed,hq j hj,edg1,iN' (fun c=>by rw[hx]at c;cases c.2)];simp
  . have h1: ¬((k:Int)<(es.length:Int)):=O;simp only[bQ,h1,if_false];refine⟨out,rfl,ho,fun j hj=> ?_⟩
    rw[hq j hj,List.take_of_length_le O]
theorem qkf (hM:MG N S I V) {j:Nat} (hj:j<N) {x:Int×Int}:x∈edg (ents S I V N 0) j↔ ∃t,(S.getD j 0).toNat<=t/\t<(S.getD (j+1) 0).toNat/\x.1=I.getD t 0/\(expOf (V.getD t 0)).2=true/\x.2=(expOf (V.getD t 0)).1:=by
 unfold edg;rw[List.mem_filterMap];constructor
 . rintro ⟨e,he,hx⟩
   obtain⟨j',t,_,_,h1,h2,rfl⟩:=Qw.1 he;unfold edg1 at hx;split at hx
   . rename_i c;obtain⟨c1,c2⟩:=c;cases hx;have:j'=j:=by simp only at c1;omega
     subst this;exact⟨t,h1,h2,rfl,c2,rfl⟩
   . cases hx
 . rintro ⟨t,h1,h2,h3,h4,h5⟩
   refine⟨(I.getD t 0,(j:Int),V.getD t 0),Qw.2 ⟨j,t,Nat.zero_le _,O,h1,h2,rfl⟩,?_⟩;unfold edg1;rw[iP ⟨rfl,h4⟩];obtain⟨x1,x2⟩:=x;simp only at h3 h5;rw[h3,h5]
theorem qm2 (hM:MG N S I V) {j:Nat} (hj:j<N) {t:Nat} (h2:t<(S.getD (j+1) 0).toNat):t<V.length:=by
 have:=hM.ok.st.rng (j:=j+1) O;rw[hM.vl];omega
theorem q5h (hM:MG N S I V): ∀e∈ents S I V N 0,GoodV e.2.2/\0<=e.2.1/\e.2.1<(N:Int):=by
 intro e he;obtain⟨j,t,_,h0,h1,h2,rfl⟩:=Qw.1 he;exact⟨hM.good t (qm2 hM O h2),by simp only;omega,by simp only;omega⟩
theorem qme (hM:MG N S I V):(ents S I V N 0).length<=200:=by
 rw[q9l hM.ok N 0 O O];have:=hM.ok.st.last;have:=hM.il;omega
theorem qkh (hM:MG N S I V) {j:Nat} (hj:j<N):(edg (ents S I V N 0) j).Pairwise fun x y=>x.1<y.1:=by
 unfold edg;rw[List.pairwise_filterMap]
 have key: ∀(d k:Nat),k+d=N->(ents S I V d k).Pairwise fun a b=> ∀x,edg1 j a=some x-> ∀y,edg1 j b=some y->x.1<y.1:=by
  intro d;induction d with
  |zero=>intro k _;exact List.Pairwise.nil
  |succ d ih=>
   intro k hk;rw[ents,List.pairwise_append];refine⟨?_,ih (k+1) O,?_⟩
   . unfold Qy;rw[List.pairwise_map];refine List.Pairwise.imp_of_mem ?_ (List.pairwise_lt_range' (s:=(S.getD k 0).toNat) (n:=(S.getD (k+1) 0).toNat-(S.getD k 0).toNat));intro a b ha hb hab x hx y hy;rw[List.mem_range'_1]at ha hb;unfold edg1 at hx hy;split at hx
     . rename_i c;split at hy
       . cases hx;cases hy
         have hkj:k=j:=by have:=c.1;simp only at this;omega
         subst hkj;have:=hM.ok.asc (j:=k) hj (b-a-1) a O O;rw[show a+(b-a-1+1)=b by omega]at this
         exact this
       . cases hy
     . cases hx
   . intro a ha b hb x hx y hy;unfold Qy at ha;obtain⟨t,_,rfl⟩:=List.mem_map.1 ha;obtain⟨j',t',h1,_,_,_,rfl⟩:=Qw.1 hb;unfold edg1 at hx hy;split at hx
     . rename_i c;split at hy
       . rename_i c';have:=c.1;have:=c'.1;simp only at*;omega
       . cases hy
     . cases hx
 exact key N 0 O
theorem q8u (m:Nat) (hm:3000000<m) (hM:MG N S I V): ∃E,g39 m (N:Int) (N:Int) S I V=some (E,(),())/\EOK N E/\ ∀j,j<N->E.getD j []=edg (ents S I V N 0) j:=by
 have hN:=hM.ok.cz;have hsl:S.length<=201:=by rw[hM.ok.st.len];omega
 have hvl:V.length<=200:=by rw[hM.vl];exact hM.il
 rw[g39,g87,g29eq O O O O O,hM.chk];have c1:(0:Int)<=(N:Int)/\(N:Int)<=(N:Int)/\(N:Int)<=1073741824:=O;have hel:=qme hM;obtain⟨E,e,h1,h2⟩:=q1h m (es:=ents S I V N 0) O (q5h hM) O m 0 (List.replicate N []) O O (by simp) (fun j hj=>by rw[qo hj];rfl)
 rw[nZ]at e;simp only[c1,and_self,if_true,bS,bif_ne,q6y (m:=m) O hM.ok hM.vl,tN,e];refine⟨E,rfl,?_,h2⟩;have hz: ∀j,¬j<N->E.getD j []=[]:=fun j hj=>Qc O
 have hmem: ∀j,∀x∈E.getD j [],j<N/\ ∃t,(S.getD j 0).toNat<=t/\t<(S.getD (j+1) 0).toNat/\x.1=I.getD t 0/\(expOf (V.getD t 0)).2=true/\x.2=(expOf (V.getD t 0)).1:=fun j x hx=>by
  by_cases hj:j<N
  . rw[h2 j hj]at hx;exact⟨hj,(qkf hM hj).1 hx⟩
  . rw[hz j hj]at hx;cases hx
 refine⟨h1,hN,fun j x hx=> ?_,fun j x hx=> ?_,fun j=> ?_,fun j x hx y hy e=> ?_⟩
 . obtain⟨hj,t,q1,q2,q3,_⟩:=hmem j x hx;rw[q3];exact hM.ok.row hj q1 q2
 . obtain⟨hj,t,q1,q2,q3,q4,q5⟩:=hmem j x hx;have:=hM.good t (qm2 hM hj q2);rw[q5];exact this.lo
 . by_cases hj:j<N
   . rw[h2 j hj];have:(edg (ents S I V N 0) j).length<=(ents S I V N 0).length:=List.length_filterMap_le ..;omega
   . rw[hz j hj];simp
 . obtain⟨hj,t,q1,q2,q3,q4,q5⟩:=hmem j x hx;obtain⟨_,t',r1,r2,r3,r4,r5⟩:=hmem j y hy;have:=hM.ok.uniq hj q1 q2 r1 r2 (by rw[<-q3,<-r3,e])
   subst this;rw[q5,r5]
structure TrvM (N:Nat) (E:Edges) (row U V:LI):Prop where
 tv:Tv N E row U V
 lex:LexA N E fun j=>(row.getD j 0).toNat
 lv:LV N E row fun k=>V.getD k 0
 u: ∀j,j<N->U.getD (row.getD j 0).toNat 0=wE E j (row.getD j 0)-V.getD j 0
theorem no_ag {E:Edges} (h: ∀s,¬Trv N E s): ∀s,¬Ag N (Ed E) s:=fun s hs=>h s ⟨fun j hj=>by
 obtain⟨x,hx,e⟩:=(hs.ok j hj).2;exact⟨x,hx,O⟩,hs.inj⟩
theorem qgq (m:Nat) (hm:4000000000<m) (hN5:N<=5) (hM:MG N S I V) {E:Edges} (hE: ∀j,j<N->E.getD j []=edg (ents S I V N 0) j) (hEl:E.length=N):
 (∃row U W,g12 m (N:Int) (N:Int) S I V=some (((row,U,W,()),0,()),(),())/\TrvM N E row U W)\/
 (g12 m (N:Int) (N:Int) S I V=some ((([],[],[],()),9,()),(),())/\ ∀s,¬Ag N (Ed E) s):=by
 have hN:=hM.ok.cz;have hsl:S.length<=201:=by rw[hM.ok.st.len];omega
 have hvl:V.length<=200:=by rw[hM.vl];exact hM.il
 obtain⟨E',e,hE',hq⟩:=q8u m O hM;have:E'=E:=Yl [] (by rw[hE'.len,hEl]) fun k hk=>by rw[hq k (by rw[hE'.len]at hk;exact hk),hE k (by rw[hE'.len]at hk;exact hk)]
 subst this;rw[g12,g37,g29eq O O O O O,hM.chk];simp only[bS,bif_eq,bif_ne,if_true,e];rcases qnd m O hE' hN5 with⟨u,v,row,col,e2,B⟩|⟨e2,hno⟩
 . rw[e2];simp only[bS];obtain⟨row',col',e3,hP,ht,hL⟩:=qkx m O hE' (fun j hj=>by rw[hq j hj];exact qkh hM hj) B
   rw[e3];simp only[bS];obtain⟨U,W,e4,hT,hc,hl,hu⟩:=qkq m hm hN5 hE' hP ht B.vb B.mt.feas;rw[e4];simp only[bS];exact .inl ⟨row',U,W,rfl,hT,ql4 hE' B.mt.feas hP ht hL,⟨fun k _=>hT.vn k,hc,hl⟩,hu⟩
 . rw[e2];exact .inr ⟨rfl,no_ag hno⟩
theorem qgi {l:List Bool} {i:Nat} (h:l.getD i false=true) (hi:i<l.length):(l.set i false).set i true=l:=by
 rw[List.set_set];refine Yl false (by simp) fun k hk=> ?_
 rw[Q8 hi];split
 . rename_i e;rw[e,h]
 . rfl
structure WtsOK (N:Nat) (E:Edges) (rows wts:List LI):Prop where
 rl:rows.length=N
 wl:wts.length=N
 r: ∀j,j<N->rows.getD j []=(E.getD j []).map (·.1)
 w: ∀j,j<N->wts.getD j []=(E.getD j []).map (·.2)
theorem qaq {l:List (Int×Int)} {k:Nat} (hk:k<l.length) (f:Int×Int->Int):(l.map f).getD k 0=f (l.getD k (0,0)):=by simp[List.getD,hk]
theorem WtsOK.get {N:Nat} {E:Edges} {rows wts:List LI} (h:WtsOK N E rows wts) {j k:Nat} (hj:j<N) (hk:k<(E.getD j []).length):
 (rows.getD j []).getD k 0=((E.getD j []).getD k (0,0)).1/\(wts.getD j []).getD k 0=((E.getD j []).getD k (0,0)).2:=by
 rw[h.r j hj,h.w j hj];exact⟨qaq hk _,qaq hk _⟩
theorem WtsOK.len {N:Nat} {E:Edges} {rows wts:List LI} (h:WtsOK N E rows wts) {j:Nat} (hj:j<N):
 (rows.getD j []).length=(E.getD j []).length/\(wts.getD j []).length=(E.getD j []).length:=by
 rw[h.r j hj,h.w j hj,List.length_map,List.length_map];exact⟨rfl,rfl⟩
theorem Yu (self:List LI->List LI->Int->List Bool->Option ((Int×Bool×Unit)×Unit×Unit×Unit×List Bool×Unit)) (m:Nat)
 {N:Nat} {E:Edges} {rows wts:List LI} (hE:EOK N E) (hW:WtsOK N E rows wts) {free:List Bool} {j:Nat} (hj:j<N) (hf:free.length=N)
 (hself: ∀f:List Bool,f.length=N-> ∃b ok,self rows wts ((j+1:Nat):Int) f=some ((b,ok,()),((),(),(),f,()))/\BestS N E f (j+1) b ok):
 ∀(n k:Nat) (b:Int) (ok:Bool),(E.getD j []).length-k<n->BestK N E free j k b ok->
 ∃b' ok',g92L0 self m n rows wts (j:Int) free b ok (k:Int)=some (.inl (free,b',ok',()))/\BestS N E free j b' ok'
 |0,k,b,ok,h,_=>O
 |n+1,k,b,ok,h,hK=>by
  have hN:=hE.small;have hlens:=hE.lens j;have c0:(0:Int)<=(j:Int)/\(j:Int)<(rows.length:Int):=by rw[hW.rl];omega
  have c0':(0:Int)<=(j:Int)/\(j:Int)<(wts.length:Int):=by rw[hW.wl];omega
  obtain⟨l1,l2⟩:=hW.len hj;rw[g92L0];simp only[c0,c0',and_self,if_true,bQ,tN,l1,l2];by_cases hk:k<(E.getD j []).length
  . have h1:((k:Int)<((E.getD j []).length:Int)):=O;have c1:(0:Int)<=(k:Int)/\(k:Int)<((E.getD j []).length:Int):=O;have hmem:(E.getD j []).getD k (0,0)∈E.getD j []:=X8 hk;obtain⟨t1,t2⟩:=hE.row j _ hmem;have tw:=hE.wt j _ hmem;obtain⟨g1,g2⟩:=hW.get hj hk;obtain⟨i,hi⟩: ∃i:Nat,((E.getD j []).getD k (0,0)).1=(i:Int):=⟨_,(Int.toNat_of_nonneg t1).symm⟩;have hiN:i<N:=O;have c2:(0:Int)<=(i:Int)/\(i:Int)<(free.length:Int):=O;have c3: ∀f:List Bool,f.length=N->(0:Int)<=(i:Int)/\(i:Int)<(f.length:Int):=fun f h=>O
    simp only[h1,c1,and_self,if_true,g1,g2,hi,c2,tN,Nat.zero_add,bif_not,wQ,wsucc (show k<4611686018427387904 by omega),wsucc (show j<4611686018427387904 by omega)]
    rcases Bool.eq_false_or_eq_true (free.getD i false)with hfi|hfi
    . simp only[hfi,cond_true];obtain⟨b2,ok2,e,B⟩:=hself (free.set i false) (by simp[hf])
      have hT:=hK.tail hE hj hk hi hfi B;have c4:=c3 (free.set i false) (by simp[hf])
      simp only[e,bS,c4,and_self,if_true,qgi hfi (show i<free.length by omega)]
      cases ok2 with
      |false=>
       simp only[cond_false];rw[iN' (fun c=>by cases c.1),Bool.or_false]at hT
       exact Yu self m hE hW hj hf hself n (k+1) b ok O hT
      |true=>
       obtain⟨s,a1,a2⟩:=B.yes rfl;have hb:=wS_bd hE a1;have hNk:((N-(j+1):Nat):Int)*1100<=220000:=O;have w1:IntKind.wrap .i64 (b2+((E.getD j []).getD k (0,0)).2)=b2+((E.getD j []).getD k (0,0)).2:=wi O O;simp only[cond_true,w1];cases ok with
       |false=>
        simp only[cond_false];rw[iP ⟨rfl,.inl rfl⟩]at hT;exact Yu self m hE hW hj hf hself n (k+1) _ true O hT
       |true=>
        simp only[cond_true];by_cases hgt:b2+((E.getD j []).getD k (0,0)).2>b
        . rw[iP hgt];rw[iP ⟨rfl,.inr hgt⟩]at hT;exact Yu self m hE hW hj hf hself n (k+1) _ true O hT
        . rw[iN' hgt];rw[iN' (fun c=>c.2.elim (fun d=>Bool.noConfusion d) hgt)]at hT
          exact Yu self m hE hW hj hf hself n (k+1) b true O hT
    . simp only[hfi,cond_false];refine Yu self m hE hW hj hf hself n (k+1) b ok O (hK.skip hj fun s hs e=> ?_)
      have:=(hs.ok j (Nat.le_refl _) hj).2;rw[hi]at e;have e':i=s j:=O;rw[<-e',hfi]at this;cases this
  . have h1: ¬((k:Int)<((E.getD j []).length:Int)):=O;simp only[h1,if_false];exact⟨b,ok,rfl,hK.all hj O⟩
theorem q9s {N:Nat} {E:Edges} {rows wts:List LI} (hE:EOK N E) (hW:WtsOK N E rows wts): ∀(M j:Nat) (free:List Bool),N-j+300<M->j<=N->free.length=N->
 ∃b ok,g92 M rows wts (j:Int) free=some ((b,ok,()),((),(),(),free,()))/\BestS N E free j b ok
 |0,j,free,h,_,_=>O
 |M+1,j,free,h,hjN,hf=>by
  rw[g92,bif_eq,hW.rl];by_cases e:j=N
  . subst e;rw[iP rfl];exact⟨0,true,rfl,⟨fun _=>⟨fun _=>0,⟨fun k h1 h2=>absurd h2 O,fun a b h1 h2=>absurd h2 O⟩,by unfold wS;rw[Nat.sub_self];rfl⟩,fun s _=>⟨rfl,by unfold wS;rw[Nat.sub_self];exact Int.le_refl _⟩⟩⟩
  . rw[iN' O];have hlens:=hE.lens j;obtain⟨b,ok,e1,B⟩:=Yu (fun a0 a1 a2 a3=>g92 M a0 a1 a2 a3) M hE hW (show j<N by omega) hf (fun f hf=>q9s hE hW M (j+1) f O O hf) M 0 0 false O BestK.zero
    rw[nZ]at e1;rw[e1];exact⟨b,ok,rfl,B⟩
variable {N:Nat} {S I V:LI}
def colF (I V:LI) (a e:Nat):List (Int×Int):=(List.range' a (e-a)).filterMap fun t=>if(expOf (V.getD t 0)).2=true then some (I.getD t 0,(expOf (V.getD t 0)).1)else none
theorem qj5 {a e:Nat} (h:a<e):colF I V a e=if(expOf (V.getD a 0)).2=true then(I.getD a 0,(expOf (V.getD a 0)).1)::colF I V (a+1) e else colF I V (a+1) e:=by
 unfold colF;rw[show e-a=(e-(a+1))+1 by omega,List.range'_succ,List.filterMap_cons]
 split
 . rename_i h;split at h
   . cases h
   . rename_i c;rw[iN' c]
 . rename_i h;split at h
   . rename_i c;cases h;rw[iP c]
   . cases h
theorem qkr {a e:Nat} (h: ¬a<e):colF I V a e=[]:=by
 unfold colF;rw[show e-a=0 by omega];rfl
theorem qhy {j:Nat}: ∀(d k:Nat),edg (ents S I V d k) j=if k<=j/\j<k+d then colF I V (S.getD j 0).toNat (S.getD (j+1) 0).toNat else []
 |0,k=>by rw[iN' O];rfl
 |d+1,k=>by
  have ih:=qhy (j:=j) d (k+1);unfold edg at ih⊢;rw[ents,List.filterMap_append,ih]
  have hc:(Qy S I V k (S.getD k 0).toNat (S.getD (k+1) 0).toNat).filterMap (edg1 j)=if k=j then colF I V (S.getD j 0).toNat (S.getD (j+1) 0).toNat else []:=by
   unfold Qy colF;rw[List.filterMap_map];by_cases e:k=j
   . subst e;rw[iP rfl];congr 1
     funext t
     simp only[Function.comp,edg1,true_and]
   . rw[iN' e];refine List.filterMap_eq_nil_iff.2 fun t _=> ?_
     simp only[Function.comp,edg1];rw[iN' (fun c=>e (by have:=c.1;omega))]
  rw[hc];by_cases e:k=j
  . subst e;rw[iP rfl,iN' O,iP O,List.append_nil]
  . rw[iN' e,List.nil_append];by_cases c:k+1<=j/\j<k+1+d
    . rw[iP c,iP O]
    . rw[iN' c,iN' O]
theorem Jb (m:Nat) (hm:3000000<m) (hM:MG N S I V) {j:Nat} (hj:j<N) (R C:Int) (rs ws:List LI): ∀(n k:Nat) (r w:LI),(S.getD (j+1) 0).toNat-k<n->r.length+(V.length-k)<=1000->w.length+(V.length-k)<=1000->
 g91L1 m n R C S I V rs ws (j:Int) r w (k:Int)=
  some (.inl ((R,C,S,I,V,()),rs,ws,(j:Int),r++(colF I V k (S.getD (j+1) 0).toNat).map (·.1),w++(colF I V k (S.getD (j+1) 0).toNat).map (·.2),()))
 |0,k,r,w,h,_,_=>O
 |n+1,k,r,w,h,hr,hw=>by
  have hl:=hM.ok.st.len;have hsz:=hM.ok.cz;have a:=hM.ok.st.rng (j:=j+1) O;have hvl:=hM.vl;have hil:=hM.il;rw[g91L1];have c0:(0:Int)<=((j+1:Nat):Int)/\((j+1:Nat):Int)<(S.length:Int):=O;simp only[wQ,wsucc (show j<4611686018427387904 by omega),c0,and_self,if_true,bQ,tN]
  by_cases hk:k<(S.getD (j+1) 0).toNat
  . have c1:(k:Int)<S.getD (j+1) 0:=O;have c2:(0:Int)<=(k:Int)/\(k:Int)<(V.length:Int):=O;have c3:(0:Int)<=(k:Int)/\(k:Int)<(I.length:Int):=O;have g:=hM.good k O;rw[qj5 hk];simp only[c1,c2,c3,and_self,if_true,tN,g.ref hm,bS,wsucc (show k<4611686018427387904 by omega)]
    rcases Bool.eq_false_or_eq_true (expOf (V.getD k 0)).2 with hx|hx
    . have c4:r.length+([I.getD k 0]:LI).length<=1073741824:=by show r.length+1<=_;omega
      have c5:w.length+([(expOf (V.getD k 0)).1]:LI).length<=1073741824:=by show w.length+1<=_;omega
      simp only[hx,cond_true,c4,c5,if_true];rw[Jb m hm hM hj R C rs ws n (k+1) _ _ O (by rw[List.length_append];show r.length+1+_<=_;omega) (by rw[List.length_append];show w.length+1+_<=_;omega)]
      simp
    . have hne: ¬((expOf (V.getD k 0)).2=true):=by rw[hx];exact Bool.false_ne_true
      simp only[hx,cond_false,Bool.false_eq_true,if_false];rw[Jb m hm hM hj R C rs ws n (k+1) _ _ O O O]
  . have c1: ¬((k:Int)<S.getD (j+1) 0):=O;simp only[c1,if_false];rw[qkr hk];simp
theorem q2k (m:Nat) (hm:3000000<m) (hM:MG N S I V): ∀(n j:Nat) (rs ws:List LI),N-j<n->j<=N->rs.length=j->ws.length=j->
 (∀k,k<j->rs.getD k []=(edg (ents S I V N 0) k).map (·.1)/\ws.getD k []=(edg (ents S I V N 0) k).map (·.2))->
 ∃rs' ws',g91L0 m n (N:Int) (N:Int) S I V rs ws (j:Int)=some (.inl (rs',ws',()))/\rs'.length=N/\ws'.length=N/\
  ∀k,k<N->rs'.getD k []=(edg (ents S I V N 0) k).map (·.1)/\ws'.getD k []=(edg (ents S I V N 0) k).map (·.2)
 |0,j,rs,ws,h,_,_,_,_=>O
 |n+1,j,rs,ws,h,hj0,hr,hw,hq=>by
  have hl:=hM.ok.st.len;have hsz:=hM.ok.cz;have hvl:=hM.vl;have hil:=hM.il;rw[g91L0,bQ];by_cases hj:j<N
  . have a:=hM.ok.st.rng (j:=j) O;have a2:=hM.ok.st.rng (j:=j+1) O;have c1:(0:Int)<=(j:Int)/\(j:Int)<(S.length:Int):=O;rw[iP O,iP c1];have e:=Jb m hm hM hj (N:Int) (N:Int) rs ws m (S.getD j 0).toNat [] [] O (by simp;omega) (by simp;omega)
    rw[Int.toNat_of_nonneg a.1]at e;have hcol:colF I V (S.getD j 0).toNat (S.getD (j+1) 0).toNat=edg (ents S I V N 0) j:=by rw[qhy,iP O]
    rw[tN,e,hcol];simp only[bS,List.nil_append,List.length_singleton,Nat.zero_lt_one,true_and,wQ,wsucc (show j<4611686018427387904 by omega)]
    rw[iP O,iP O]
    have hap: ∀(l:List LI) (x:LI) (k:Nat),l.length=j->(l++[x]).getD k []=if k=j then x else l.getD k []:=fun l x k hl=>by
     by_cases e:k=j
     . subst e;rw[iP rfl,<-hl];simp[List.getD]
     . rw[iN' e];by_cases c:k<j
       . simp[List.getD,List.getElem?_append_left (show k<l.length by omega)]
       . rw[Qc (by simp;omega),Qc O]
    refine q2k m hm hM n (j+1) _ _ O O (by simp[hr]) (by simp[hw]) fun k hk=> ?_
    rw[hap _ _ _ hr,hap _ _ _ hw];by_cases e:k=j
    . subst e;rw[iP rfl,iP rfl];exact⟨rfl,rfl⟩
    . rw[iN' e,iN' e];exact hq k O
  . rw[iN' O];have:j=N:=O;subst this;exact⟨rs,ws,rfl,hr,hw,hq⟩
theorem qgw (m:Nat) (hm:3000000<m) (hM:MG N S I V) {E:Edges} (hE: ∀j,j<N->E.getD j []=edg (ents S I V N 0) j):
 ∃rows wts,g91 m (N:Int) (N:Int) S I V=some ((rows,wts,()),(),())/\WtsOK N E rows wts:=by
 have hsz:=hM.ok.cz;obtain⟨rs,ws,e,h1,h2,h3⟩:=q2k m hm hM m 0 [] [] O O rfl rfl (fun k h=>absurd h (Nat.not_lt_zero _))
 rw[nZ]at e;rw[g91,e];exact⟨rs,ws,rfl,h1,h2,fun j hj=>by rw[hE j hj];exact(h3 j hj).1,fun j hj=>by rw[hE j hj];exact(h3 j hj).2⟩
variable {N:Nat} {S I V:LI}
theorem Ag.congr {E:Edges} {s t:Nat->Nat} (h:Ag N (Ed E) s) (e: ∀k,k<N->s k=t k):Ag N (Ed E) t:=
 ⟨fun k hk=>by rw[<-e k hk];exact h.ok k hk,fun a b ha hb q=>h.inj a b ha hb (by rw[e a ha,e b hb,q])⟩
theorem MaxA.congr {E:Edges} {s t:Nat->Nat} (h:MaxA N E s) (e: ∀k,k<N->s k=t k):MaxA N E t:=
 ⟨h.ag.congr e,fun u hu=>by
   rw[<-q4o (f:=fun j=>wE E j (s j)) (g:=fun j=>wE E j (t j)) (fun j hj=>by rw[e j hj])]
   exact h.top u hu⟩
structure Fre (N:Nat) (s:Nat->Nat) (j:Nat) (free:List Bool):Prop where
 fl:free.length=N
 fr: ∀i,i<N->(free.getD i false=true↔ ∀k,k<j->s k≠i)
theorem Ag.asg {E:Edges} {s:Nat->Nat} (h:Ag N (Ed E) s) {j:Nat} (hj:j<=N) {free:List Bool} (hf:Fre N s j free):Asg N E free j s:=
 ⟨fun k h1 h2=>⟨(h.ok k h2).2,(hf.fr _ (h.ok k h2).1).2 fun k' hk' e=>by have:=h.inj k' k O h2 e;omega⟩,fun a b _ h2 _ h4=>h.inj a b h2 h4⟩
def glue (j:Nat) (s t:Nat->Nat) (k:Nat):Nat:=if k<j then s k else t k
theorem qkn {E:Edges} (hE:EOK N E) {s t:Nat->Nat} (h:Ag N (Ed E) s) {j:Nat} (hj:j<=N) {free:List Bool} (hf:Fre N s j free) (ht:Asg N E free j t):
 Ag N (Ed E) (glue j s t)/\sm (fun k=>wE E k (glue j s t k)) N=sm (fun k=>wE E k (s k)) j+wS N E j t:=by
 have hrow: ∀k,j<=k->k<N->t k<N:=fun k h1 h2=>by
  obtain⟨x,hx,e⟩:=(ht.ok k h1 h2).1;have:=hE.row k x hx;omega
 have hne: ∀k k',k'<j->j<=k->k<N->s k'≠t k:=fun k k' h1 h2 h3=>(hf.fr _ (hrow k h2 h3)).1 (ht.ok k h2 h3).2 k' h1
 refine⟨⟨fun k hk=> ?_,fun a b ha hb e=> ?_⟩,?_⟩
 . unfold glue;split
   . exact h.ok k hk
   . exact⟨hrow k O hk,(ht.ok k O hk).1⟩
 . unfold glue at e;split at e
   . split at e
     . exact h.inj a b ha hb e
     . exact absurd e (hne b a O O hb)
   . split at e
     . exact absurd e.symm (hne a b O O ha)
     . exact ht.inj a b O ha O hb e
 . have e:=sm_sf (f:=fun k=>wE E k (glue j s t k)) (N-j) j
   rw[show j+(N-j)=N by omega]at e
   rw[e];congr 1
   . exact q4o fun k hk=>by unfold glue;rw[iP hk]
   . exact q8w fun k h1 h2=>by unfold glue;rw[iN' O]
theorem sm_wS {E:Edges} {s:Nat->Nat} {j:Nat} (hj:j<=N):sm (fun k=>wE E k (s k)) N=sm (fun k=>wE E k (s k)) j+wS N E j s:=by
 have e:=sm_sf (f:=fun k=>wE E k (s k)) (N-j) j
 rw[show j+(N-j)=N by omega]at e
 exact e
structure AInv (N:Nat) (E:Edges) (out:LI) (free:List Bool) (j:Nat):Prop where
 ol:out.length=j
 fl:free.length=N
 fr: ∀i,i<N->(free.getD i false=true↔ ∀k,k<j->out.getD k 0≠(i:Int))
 ex: ∃s,MaxA N E s/\ ∀k,k<j->(s k:Int)=out.getD k 0
 lx: ∀j',j'<j-> ∀t,MaxA N E t->(∀k,k<j'->(t k:Int)=out.getD k 0)->out.getD j' 0<=(t j':Int)
theorem AInv.fre {E:Edges} {out:LI} {free:List Bool} {j:Nat} (h:AInv N E out free j) {s:Nat->Nat} (hs: ∀k,k<j->(s k:Int)=out.getD k 0):Fre N s j free:=
 ⟨h.fl,fun i hi=>by
   rw[h.fr i hi];constructor
   . intro q k hk e;exact q k hk (by rw[<-hs k hk,e])
   . intro q k hk e;rw[<-hs k hk]at e;exact q k hk O⟩
theorem AInv.best {E:Edges} (hE:EOK N E) {out:LI} {free:List Bool} {j:Nat} (hj:j<=N) (h:AInv N E out free j) {b:Int} {ok:Bool} (B:BestS N E free j b ok):
 ∀s,MaxA N E s->(∀k,k<j->(s k:Int)=out.getD k 0)->wS N E j s=b:=by
 intro s hs hag;have hf:=h.fre hag;obtain⟨o,w⟩:=B.top s (hs.ag.asg hj hf);obtain⟨t,t1,t2⟩:=B.yes o;obtain⟨g1,g2⟩:=qkn hE hs.ag hj hf t1;have:=hs.top _ g1;rw[g2,sm_wS hj]at this;omega
theorem AInv.make {E:Edges} (hE:EOK N E) {out:LI} {free:List Bool} {j:Nat} (hj:j<=N) (h:AInv N E out free j) {b:Int} {ok:Bool} (B:BestS N E free j b ok) {t:Nat->Nat} (ht:Asg N E free j t) (hw:wS N E j t=b):
 ∃s,MaxA N E s/\(∀k,k<j->(s k:Int)=out.getD k 0)/\ ∀k,j<=k->s k=t k:=by
 obtain⟨s,hs,hag⟩:=h.ex;have hf:=h.fre hag;obtain⟨g1,g2⟩:=qkn hE hs.ag hj hf ht;have hb:=h.best hE hj B s hs hag;refine⟨glue j s t,⟨g1,fun u hu=> ?_⟩,fun k hk=> ?_,fun k hk=> ?_⟩
 . have:=hs.top u hu;rw[sm_wS (s:=s) hj]at this;rw[g2];omega
 . unfold glue;rw[iP hk];exact hag k hk
 . unfold glue;rw[iN' O]
theorem Zk (m:Nat) (hm:1000<m) {E:Edges} {rows wts:List LI} (hE:EOK N E) (hA: ∀j,j<N->(E.getD j []).Pairwise fun x y=>x.1<y.1) (hW:WtsOK N E rows wts) (R C:Int) {out:LI} {free:List Bool} {j:Nat} (hj:j<N) (h:AInv N E out free j) {b:Int} {ok:Bool} (B:BestS N E free j b ok):
 ∀(n k:Nat),(E.getD j []).length-k<n->(∀t,t<k->t<(E.getD j []).length-> ∀s,MaxA N E s->(∀k,k<j->(s k:Int)=out.getD k 0)->(s j:Int)≠((E.getD j []).getD t (0,0)).1)->
 ∃out' free',g46L2 m n R C S I V rows wts free out (j:Int) b (k:Int)=some (.inl ((R,C,S,I,V,()),rows,wts,free',out',(j:Int),()))/\AInv N E out' free' (j+1)
 |0,k,h,_=>O
 |n+1,k,hn,hex=>by
  have hN:=hE.small;have hlens:=hE.lens j;have c0:(0:Int)<=(j:Int)/\(j:Int)<(rows.length:Int):=by rw[hW.rl];omega
  have c0':(0:Int)<=(j:Int)/\(j:Int)<(wts.length:Int):=by rw[hW.wl];omega
  obtain⟨l1,l2⟩:=hW.len hj;have hjN:j<=N:=O;rw[g46L2];simp only[c0,c0',and_self,if_true,bQ,tN,l1,l2]
  have hge: ∀s,MaxA N E s->(∀k,k<j->(s k:Int)=out.getD k 0)-> ∃t,k<=t/\t<(E.getD j []).length/\((E.getD j []).getD t (0,0)).1=(s j:Int):=fun s hs hag=>by
   obtain⟨x,hx,e⟩:=(hs.ag.ok j hj).2;obtain⟨t,ht,rfl⟩:=List.getElem_of_mem hx;have e2:((E.getD j []).getD t (0,0)).1=(s j:Int):=by rw[q9z ht rfl];exact e
   refine⟨t,?_,ht,e2⟩;refine Classical.byContradiction fun c=>hex t O ht s hs hag e2.symm
  by_cases hk:k<(E.getD j []).length
  . have h1:((k:Int)<((E.getD j []).length:Int)):=O;have c1:(0:Int)<=(k:Int)/\(k:Int)<((E.getD j []).length:Int):=O;have hmem:(E.getD j []).getD k (0,0)∈E.getD j []:=X8 hk;obtain⟨t1,t2⟩:=hE.row j _ hmem;have tw:=hE.wt j _ hmem;obtain⟨g1,g2⟩:=hW.get hj hk;obtain⟨i,hi⟩: ∃i:Nat,((E.getD j []).getD k (0,0)).1=(i:Int):=⟨_,(Int.toNat_of_nonneg t1).symm⟩;have hw:wE E j (i:Int)=((E.getD j []).getD k (0,0)).2:=by rw[<-hi,wE_eq hE hmem]
    have hiN:i<N:=O;have hfl:=h.fl;have c2:(0:Int)<=(i:Int)/\(i:Int)<(free.length:Int):=O
    have hnext:(∀s,MaxA N E s->(∀k,k<j->(s k:Int)=out.getD k 0)->s j≠i)-> ∀t,t<k+1->t<(E.getD j []).length-> ∀s,MaxA N E s->(∀k,k<j->(s k:Int)=out.getD k 0)->(s j:Int)≠((E.getD j []).getD t (0,0)).1:=fun hx t h1 h2 s hs hag=>by
     by_cases e:t=k
     . subst e;rw[hi];have:=hx s hs hag;omega
     . exact hex t O h2 s hs hag
    simp only[h1,c1,and_self,if_true,g1,g2,hi,c2,tN,Nat.zero_add,bif_not,wQ,wsucc (show k<4611686018427387904 by omega),wsucc (show j<4611686018427387904 by omega)]
    rcases Bool.eq_false_or_eq_true (free.getD i false)with hfi|hfi
    . simp only[hfi,cond_true];obtain⟨b2,ok2,e,B2⟩:=q9s hE hW m (j+1) (free.set i false) O O (by simp[hfl])
      have c4:(0:Int)<=(i:Int)/\(i:Int)<((free.set i false).length:Int):=by simp;omega
      simp only[e,bS,c4,and_self,if_true,qgi hfi (show i<free.length by omega)]
      have htake: ∀s,MaxA N E s->(∀k,k<j->(s k:Int)=out.getD k 0)->s j=i->ok2=true/\b2+((E.getD j []).getD k (0,0)).2=b:=fun s hs hag es=>by
       have hasg:=hs.ag.asg hjN (h.fre hag);have hb:=h.best hE hjN B s hs hag;obtain⟨o2,w2⟩:=B2.top s (es▸hasg.tail hj);obtain⟨t,ta,tb⟩:=B2.yes o2;have hc:=Asg.cons hj ⟨_,hmem,hi⟩ hfi ta;have:=(B.top _ hc).2;rw[qes hj,hw,tb]at this;rw[qeq hj,es,hw]at hb;exact⟨o2,O⟩
      cases ok2 with
      |false=>
       simp only[cond_false];exact Zk m hm hE hA hW R C hj h B n (k+1) O (hnext fun s hs hag es=>by cases (htake s hs hag es).1)
      |true=>
       obtain⟨s2,a1,a2⟩:=B2.yes rfl;have hb:=wS_bd hE a1;have w1:IntKind.wrap .i64 (b2+((E.getD j []).getD k (0,0)).2)=b2+((E.getD j []).getD k (0,0)).2:=wi O O;simp only[cond_true,w1,bif_eq];by_cases heq:b2+((E.getD j []).getD k (0,0)).2=b
       . have hol:=h.ol;have c5:out.length+([(i:Int)]:LI).length<=1073741824:=by show out.length+1<=_;omega
         rw[iP heq,iP c5]
         have hap: ∀k',(out++[(i:Int)]).getD k' 0=if k'=j then(i:Int)else out.getD k' 0:=fun k'=>by
          by_cases e:k'=j
          . subst e;rw[iP rfl,<-hol];simp[List.getD]
          . rw[iN' e];by_cases c:k'<j
            . simp[List.getD,List.getElem?_append_left (show k'<out.length by omega)]
            . rw[Qc (by simp;omega),Qc O]
         have hc:=Asg.cons hj ⟨_,hmem,hi⟩ hfi a1;obtain⟨s,m1,m2,m3⟩:=h.make hE hjN B hc (by rw[qes hj,hw,a2];omega)
         refine⟨_,_,rfl,by simp[hol],by simp[hfl],fun i' hi'=> ?_,⟨s,m1,fun k' hk'=> ?_⟩,fun j' hj' t ht hag=> ?_⟩
         . rw[Q8 O];constructor
           . intro q k' hk';rw[hap];split at q
             . cases q
             . rename_i c;split
               . omega
               . exact(h.fr i' hi').1 q k' O
           . intro q;have q1:=q j O;rw[hap,iP rfl]at q1;rw[iN' O]
             exact(h.fr i' hi').2 fun k' hk'=>by
              have:=q k' O
              rwa [hap,iN' O]at this
         . rw[hap];split
           . rename_i e;subst e;rw[m3 _ (Nat.le_refl _),iP rfl]
           . exact m2 k' O
         . rw[hap]
           have hag': ∀k,k<j'->(t k:Int)=out.getD k 0:=fun k' hk'=>by
            rw[hag k' hk',hap,iN' O]
           split
           . rename_i e;subst e;obtain⟨t',q1,q2,q3⟩:=hge t ht hag';rw[<-q3,<-hi];by_cases e:t'=k
             . subst e;exact Int.le_refl _
             . refine Int.le_of_lt ?_;have:=List.pairwise_iff_getElem.1 (hA _ hj) k t' hk q2 O
               rwa [<-q9z (d:=(0,0)) hk rfl,<-q9z (d:=(0,0)) q2 rfl]at this
           . exact h.lx j' O t ht hag'
       . rw[iN' heq];exact Zk m hm hE hA hW R C hj h B n (k+1) O (hnext fun s hs hag es=>heq (htake s hs hag es).2)
    . simp only[hfi,cond_false];refine Zk m hm hE hA hW R C hj h B n (k+1) O (hnext fun s hs hag es=> ?_)
      have:=((hs.ag.asg hjN (h.fre hag)).ok j (Nat.le_refl _) hj).2;rw[es,hfi]at this;cases this
  . exfalso;obtain⟨s,hs,hag⟩:=h.ex;obtain⟨t,q1,q2,_⟩:=hge s hs hag;omega
theorem q3w (m:Nat) (hm:1000<m) {E:Edges} {rows wts:List LI} (hE:EOK N E) (hA: ∀j,j<N->(E.getD j []).Pairwise fun x y=>x.1<y.1) (hW:WtsOK N E rows wts) (R:Int):
 ∀(n j:Nat) (out:LI) (free:List Bool),N-j<n->j<=N->AInv N E out free j->
 ∃out' free',g46L1 m n R (N:Int) S I V rows wts free out (j:Int)=some (.inl (out',()))/\AInv N E out' free' N
 |0,j,out,free,h,_,_=>O
 |n+1,j,out,free,h,hj0,hI=>by
  have hN:=hE.small;rw[g46L1,bQ];by_cases hj:j<N
  . rw[iP O];obtain⟨b,ok,e,B⟩:=q9s hE hW m j free O O hI.fl;obtain⟨out',free',e2,hI'⟩:=Zk (S:=S) (I:=I) (V:=V) m hm hE hA hW R (N:Int) hj hI B m 0 (by have:=hE.lens j;omega) (fun t h=>absurd h (Nat.not_lt_zero _))
    rw[nZ]at e2;simp only[e,bS,e2,wQ,wsucc (show j<4611686018427387904 by omega)]
    exact q3w m hm hE hA hW R n (j+1) out' free' O O hI'
  . rw[iN' O];have:j=N:=O;subst this;exact⟨out,free,rfl,hI⟩
theorem q46 (m:Nat) (R:Nat) (hR:R<=1000) (C:Int) (rows wts:List LI): ∀(n k:Nat) (free:List Bool),R-k<n->k<=R->free.length=R->(∀i,i<k->free.getD i false=true)->
 ∃free',g46L0 m n (R:Int) C S I V rows wts free (k:Int)=some (.inl (((R:Int),C,S,I,V,()),rows,wts,free',()))/\free'.length=R/\ ∀i,i<R->free'.getD i false=true
 |0,k,free,h,_,_,_=>O
 |n+1,k,free,h,hk0,hl,hf=>by
  rw[g46L0,bQ];by_cases hk:k<R
  . have c1:(0:Int)<=(k:Int)/\(k:Int)<(free.length:Int):=O;rw[iP O,iP c1];simp only[tN,Nat.zero_add,wQ,wsucc (show k<4611686018427387904 by omega)]
    refine q46 m R hR C rows wts n (k+1) _ O O (by simp[hl]) fun i hi=> ?_
    rw[Q8 O];split
    . rfl
    . exact hf i O
  . rw[iN' O];have:k=R:=O;subst this;exact⟨free,rfl,hl,hf⟩
theorem qcz (m:Nat) (hm:3000000<m) (hM:MG N S I V) {E:Edges} (hE:EOK N E) (hq: ∀j,j<N->E.getD j []=edg (ents S I V N 0) j):
 (∃row,g46 m (N:Int) (N:Int) S I V=some ((row,true,()),(),())/\row.length=N/\LexA N E (fun j=>(row.getD j 0).toNat)/\ ∀j,j<N->0<=row.getD j 0)\/
 (g46 m (N:Int) (N:Int) S I V=some (([],false,()),(),())/\ ∀s,¬Ag N (Ed E) s):=by
 have hN:=hE.small;have hA: ∀j,j<N->(E.getD j []).Pairwise fun x y=>x.1<y.1:=fun j hj=>by rw[hq j hj];exact qkh hM hj
 obtain⟨rows,wts,e1,hW⟩:=qgw m hm hM hq;have c1:(0:Int)<=(N:Int)/\(N:Int)<=(N:Int)/\(N:Int)<=1073741824:=O;obtain⟨free,e2,f1,f2⟩:=q46 (S:=S) (I:=I) (V:=V) m N O (N:Int) rows wts m 0 (List.replicate N false) O O (by simp) (fun i h=>absurd h (Nat.not_lt_zero _))
 rw[nZ]at e2;obtain⟨b,ok,e3,B⟩:=q9s hE hW m 0 free O O f1;rw[nZ]at e3;rw[g46,e1];simp only[bS,c1,and_self,if_true,tN,e2,e3,bif_not];have hfre: ∀s,Fre N s 0 free:=fun s=>⟨f1,fun i hi=>⟨fun _ k hk=>absurd hk (Nat.not_lt_zero _),fun _=>f2 i hi⟩⟩
 have hz: ∀s,sm (fun k=>wE E k (s k)) N=wS N E 0 s:=fun s=>by
  have:=sm_wS (N:=N) (E:=E) (s:=s) (j:=0) O;simp only[sm,Int.zero_add]at this;exact this
 cases ok with
 |false=>
  refine .inr ⟨rfl,fun s hs=> ?_⟩
  cases (B.top s (hs.asg O (hfre s))).1
 |true=>
  obtain⟨s,s1,s2⟩:=B.yes rfl
  have hs:Ag N (Ed E) s:=⟨fun k hk=>⟨by
   obtain⟨x,hx,e⟩:=(s1.ok k (Nat.zero_le _) hk).1;have:=hE.row k x hx;omega,(s1.ok k (Nat.zero_le _) hk).1⟩,fun a b ha hb=>s1.inj a b (Nat.zero_le _) ha (Nat.zero_le _) hb⟩
  have hI:AInv N E [] free 0:=⟨rfl,f1,fun i hi=>⟨fun _ k hk=>absurd hk (Nat.not_lt_zero _),fun _=>f2 i hi⟩,⟨s,⟨hs,fun t ht=>by
   rw[hz,hz,s2];exact(B.top t (ht.asg O (hfre t))).2⟩,fun k hk=>absurd hk (Nat.not_lt_zero _)⟩,fun j hj=>absurd hj (Nat.not_lt_zero _)⟩
  obtain⟨out,free',e4,hI'⟩:=q3w (S:=S) (I:=I) (V:=V) m O hE hA hW (N:Int) m 0 [] free O O hI;rw[nZ]at e4;simp only[cond_true,e4,bS];obtain⟨s',m1,m2⟩:=hI'.ex;have hnn: ∀j,j<N->s' j=(out.getD j 0).toNat:=fun j hj=>by have:=m2 j hj;omega
  refine .inl ⟨out,rfl,hI'.ol,⟨m1.congr hnn,fun j hj t ht hag=> ?_⟩,fun j hj=>by have:=m2 j hj;omega⟩
  have:=hI'.lx j hj t ht fun k hk=>by
   have h1:=hag k hk;have h2:=m2 k O;have h3:=hnn k O;omega
  omega
variable {N:Nat} {S I V:LI}
theorem MG.mv (h:MG N S I V):MV N N S I V:=⟨h.ok,h.vl,h.chk⟩
theorem Z5 {m:Nat} (hm:3000000<m) (hM:MG N S I V) (i:Int) {k:Nat} (hk:k<N):
 ∃w ok,g47 m (N:Int) (N:Int) S I V i (k:Int)=some ((w,ok,()),(),(),(),())/\(ok=true->(i,w)∈edg (ents S I V N 0) k)/\(ok=false-> ∀x∈edg (ents S I V N 0) k,x.1≠i):=by
 obtain⟨v,b,_,e2,e3⟩:=qnt hm hM.mv (i:=i) hk
 have hg:GoodV v:=by
  rcases e3 with⟨_,g⟩|⟨_,g,_⟩
  . exact(q5h hM _ g).1
  . rw[g];exact qke
 rw[g47,e2,bS,hg.ref hm,bS];refine⟨_,_,rfl,fun ho=> ?_,fun ho x hx ex=> ?_⟩
 . rcases e3 with⟨_,g⟩|⟨_,g,_⟩
   . unfold edg;exact List.mem_filterMap.2 ⟨_,g,by unfold edg1;rw[iP ⟨rfl,ho⟩]⟩
   . rw[g,qkz]at ho;cases ho
 . unfold edg at hx;obtain⟨e,he,hx⟩:=List.mem_filterMap.1 hx;unfold edg1 at hx;split at hx
   . rename_i c;cases hx;simp only at ex;obtain⟨a1,a2,a3⟩:=e;simp only at c ex he;obtain⟨rfl,c2⟩:=c;subst ex;rcases e3 with⟨_,g⟩|⟨_,_,g⟩
     . have:=hM.mv.dist.val he g;have ho':(expOf v).2=false:=ho;rw[this,ho']at c2;cases c2
     . exact g _ he
   . cases hx
structure Rr (N:Nat) (E:Edges) (row:LI):Prop where
 rl:row.length=N
 r: ∀j,j<N->0<=row.getD j 0/\row.getD j 0<(N:Int)/\ ∃x∈E.getD j [],x.1=row.getD j 0
theorem q5p {m:Nat} (hm:3000000<m) (hM:MG N S I V) {E:Edges} (hE:EOK N E) (hq: ∀j,j<N->E.getD j []=edg (ents S I V N 0) j) {row:LI} (hr:Rr N E row) {B:LI} (hB: ∀k,k<N->0<=B.getD k 0/\B.getD k 0<=600000000) (hC:Clo N E row fun k=>B.getD k 0)
 (t0 t1 t2:LI) (t9:Int) {j:Nat} (hj:j<N): ∀(n k:Nat) (v:LI),N-k<n->k<=N->v.length=N->(∀k,k<N->0<=v.getD k 0/\v.getD k 0<=B.getD k 0)->
 ∃v',g18L2 m n (N:Int) (N:Int) S I V t0 t1 t2 row (N:Int) v t9 (j:Int) (wE E j (row.getD j 0)) (k:Int)=some (.inl (((N:Int),(N:Int),S,I,V,()),(t0,t1,t2,()),row,(N:Int),v',t9,(j:Int),()))/\v'.length=N/\
  (∀k,k<N->v.getD k 0<=v'.getD k 0/\v'.getD k 0<=B.getD k 0)/\ ∀k',k<=k'->k'<N-> ∀x∈E.getD k' [],x.1=row.getD j 0->v.getD j 0+x.2-wE E j x.1<=v'.getD k' 0
 |0,k,v,h,_,_,_=>O
 |n+1,k,v,h,hk0,hl,hv=>by
  have hN:=hE.small;have hrl:=hr.rl;rw[g18L2,bQ];by_cases hk:k<N
  . have c1:(0:Int)<=(j:Int)/\(j:Int)<(row.length:Int):=O;have c2:(0:Int)<=(k:Int)/\(k:Int)<(v.length:Int):=O;have c3:(0:Int)<=(j:Int)/\(j:Int)<(v.length:Int):=O;obtain⟨w,ok,e,o1,o2⟩:=Z5 hm hM (row.getD j 0) hk;rw[iP O];simp only[c1,c2,c3,and_self,if_true,tN,Nat.zero_add,e,bS,wQ,wsucc (show k<4611686018427387904 by omega)]
    cases ok with
    |false=>
     simp only[cond_false];obtain⟨v',g1,g2,g3,g4⟩:=q5p hm hM hE hq hr hB hC t0 t1 t2 t9 hj n (k+1) v O O hl hv;refine⟨v',g1,g2,g3,fun k' h1 h2 x hx ex=> ?_⟩
     by_cases ek:k'=k
     . subst ek;rw[hq _ hk]at hx;exact absurd ex (o2 rfl x hx)
     . exact g4 k' O h2 x hx ex
    |true=>
     simp only[cond_true];have hmem:=o1 rfl;rw[<-hq k hk]at hmem;have hw:=hE.wt k _ hmem;obtain⟨_,_,y,hy,ey⟩:=hr.r j hj;have hwe:wE E j (row.getD j 0)=y.2:=by rw[<-ey,wE_eq hE hy]
     have hw2:=hE.wt j y hy;have hb1:=hv j hj;have hb2:=hB j hj;have hb3:=hv k hk;have hb4:=hB k hk;have hcl:B.getD j 0+w-wE E j (row.getD j 0)<=B.getD k 0:=hC j k hj hk _ hmem rfl;simp only at hw;rw[hwe]at hcl⊢;have w1:IntKind.wrap .i64 (v.getD j 0+w)=v.getD j 0+w:=wi O O;have w2:IntKind.wrap .i64 (v.getD j 0+w-y.2)=v.getD j 0+w-y.2:=wi O O;simp only[w1,w2];generalize hz:(if v.getD j 0+w-y.2>v.getD k 0 then v.getD j 0+w-y.2 else v.getD k 0)=z
     have z1:v.getD k 0<=z:=by rw[<-hz];split<;>omega
     have z2:v.getD j 0+w-y.2<=z:=by rw[<-hz];split<;>omega
     have z3:z<=B.getD k 0:=by rw[<-hz];split<;>omega
     have hs: ∀i,(v.set k z).getD i 0=if i=k then z else v.getD i 0:=fun i=>Q8 O
     obtain⟨v',g1,g2,g3,g4⟩:=q5p hm hM hE hq hr hB hC t0 t1 t2 t9 hj n (k+1) (v.set k z) O O (by simp[hl]) (fun i hi=>by
      rw[hs];split
      . rename_i e;subst e;omega
      . exact hv i hi)
     rw[hwe]at g1
     have hup: ∀i,v.getD i 0<=(v.set k z).getD i 0:=fun i=>by
      rw[hs];split
      . rename_i e;subst e;exact z1
      . exact Int.le_refl _
     refine⟨v',g1,g2,fun i hi=>⟨Int.le_trans (hup i) (g3 i hi).1,(g3 i hi).2⟩,fun k' h1 h2 x hx ex=> ?_⟩
     by_cases ek:k'=k
     . subst ek;have e2:x.2=w:=hE.fn _ x hx _ hmem ex;have g5:=(g3 _ hk).1;rw[hs,iP rfl]at g5;rw[ex,hwe,e2];omega
     . have g5:=g4 k' O h2 x hx ex;have:=hup j;omega
  . rw[iN' O];exact⟨v,rfl,hl,fun i hi=>⟨Int.le_refl _,(hv i hi).2⟩,fun k' h1 h2=>absurd h2 O⟩
theorem qam {m:Nat} (hm:3000000<m) (hM:MG N S I V) {E:Edges} (hE:EOK N E) (hq: ∀j,j<N->E.getD j []=edg (ents S I V N 0) j) {row:LI} (hr:Rr N E row) {B:LI} (hB: ∀k,k<N->0<=B.getD k 0/\B.getD k 0<=600000000) (hC:Clo N E row fun k=>B.getD k 0)
 (t0 t1 t2:LI) (t9:Int): ∀(n j:Nat) (v:LI),N-j<n->j<=N->v.length=N->(∀k,k<N->0<=v.getD k 0/\v.getD k 0<=B.getD k 0)->
 ∃v',g18L1 m n (N:Int) (N:Int) S I V t0 t1 t2 row (N:Int) v t9 (j:Int)=some (.inl (((N:Int),(N:Int),S,I,V,()),(t0,t1,t2,()),row,(N:Int),v',t9,()))/\v'.length=N/\
  (∀k,k<N->v.getD k 0<=v'.getD k 0/\v'.getD k 0<=B.getD k 0)/\ ∀j',j<=j'->j'<N-> ∀k',k'<N-> ∀x∈E.getD k' [],x.1=row.getD j' 0->v.getD j' 0+x.2-wE E j' x.1<=v'.getD k' 0
 |0,j,v,h,_,_,_=>O
 |n+1,j,v,h,hj0,hl,hv=>by
  have hN:=hE.small;have hrl:=hr.rl;rw[g18L1,bQ];by_cases hj:j<N
  . have c1:(0:Int)<=(j:Int)/\(j:Int)<(row.length:Int):=O;obtain⟨r1,r2,y,hy,ey⟩:=hr.r j hj;obtain⟨w,ok,e,o1,o2⟩:=Z5 hm hM (row.getD j 0) hj
    have hw:w=wE E j (row.getD j 0):=by
     cases ok with
     |false=>rw[hq j hj]at hy;exact absurd ey (o2 rfl y hy)
     |true=>
      have:=o1 rfl;rw[<-hq j hj]at this;exact(wE_eq hE this).symm
    obtain⟨v',g1,g2,g3,g4⟩:=q5p hm hM hE hq hr hB hC t0 t1 t2 t9 hj m 0 v O O hl hv;rw[nZ]at g1;rw[iP O];simp only[c1,and_self,if_true,tN,Nat.zero_add,e,bS,hw,g1,wQ,wsucc (show j<4611686018427387904 by omega)]
    obtain⟨v2,f1,f2,f3,f4⟩:=qam hm hM hE hq hr hB hC t0 t1 t2 t9 n (j+1) v' O O g2 (fun k hk=>⟨Int.le_trans (hv k hk).1 (g3 k hk).1,(g3 k hk).2⟩)
    refine⟨v2,f1,f2,fun k hk=>⟨Int.le_trans (g3 k hk).1 (f3 k hk).1,(f3 k hk).2⟩,fun j' h1 h2 k' hk' x hx ex=> ?_⟩
    by_cases ej:j'=j
    . subst ej;exact Int.le_trans (g4 k' (Nat.zero_le _) hk' x hx ex) (f3 k' hk').1
    . have q1:=f4 j' O h2 k' hk' x hx ex;have q2:=(g3 j' h2).1;omega
  . rw[iN' O];exact⟨v,rfl,hl,fun i hi=>⟨Int.le_refl _,(hv i hi).2⟩,fun j' h1 h2=>absurd h2 O⟩
theorem qct {m:Nat} (hm:3000000<m) (hM:MG N S I V) {E:Edges} (hE:EOK N E) (hq: ∀j,j<N->E.getD j []=edg (ents S I V N 0) j) {row:LI} (hr:Rr N E row) {B:LI} (hB: ∀k,k<N->0<=B.getD k 0/\B.getD k 0<=600000000) (hL:LV N E row fun k=>B.getD k 0)
 (t0 t1 t2:LI): ∀(n c:Nat) (v:LI),N+1-c<n->c<=N+1->v.length=N->(∀k,k<N->0<=v.getD k 0/\v.getD k 0<=B.getD k 0)->min c N<=cntP (fun k=>decide (v.getD k 0=B.getD k 0)) N->
 ∃v',g18L0 m n (N:Int) (N:Int) S I V t0 t1 t2 row (N:Int) v (c:Int)=some (.inl (((N:Int),(N:Int),S,I,V,()),(t0,t1,t2,()),row,(N:Int),v',()))/\v'.length=N/\ ∀k,k<N->v'.getD k 0=B.getD k 0
 |0,c,v,h,_,_,_,_=>O
 |n+1,c,v,h,hc0,hl,hv,hcnt=>by
  have hN:=hE.small;rw[g18L0,bQ];by_cases hc:c<=N
  . rw[iP O];obtain⟨v',g1,g2,g3,g4⟩:=qam hm hM hE hq hr hB hL.clo t0 t1 t2 (c:Int) m 0 v O O hl hv;rw[nZ]at g1;simp only[g1,bS,wQ,wsucc (show c<4611686018427387904 by omega)]
    refine qct hm hM hE hq hr hB hL t0 t1 t2 n (c+1) v' O O g2 (fun k hk=>⟨Int.le_trans (hv k hk).1 (g3 k hk).1,(g3 k hk).2⟩) ?_
    have hR:Rd N E row (fun k=>B.getD k 0) (fun k=>v.getD k 0) (fun k=>v'.getD k 0):=⟨fun k hk=>(g3 k hk).1,fun k hk=>(g3 k hk).2,fun j k hj hk x hx ex=>g4 j (Nat.zero_le _) hj k hk x hx ex⟩
    by_cases hcN:c<N
    . have:=hR.step hL hv (c:=c) O hcN;omega
    . have:cntP (fun k=>decide (v.getD k 0=B.getD k 0)) N<=cntP (fun k=>decide (v'.getD k 0=B.getD k 0)) N:=q2x N fun k hk e=>by
       have e:=of_decide_eq_true e;have:=g3 k hk;exact decide_eq_true O
      omega
  . rw[iN' O];have hcl:=q9i (p:=fun k=>decide (v.getD k 0=B.getD k 0)) N
    exact⟨v,rfl,hl,fun k hk=>of_decide_eq_true (qf9 (p:=fun k=>decide (v.getD k 0=B.getD k 0)) N O k hk)⟩
theorem qbb {m:Nat} (hm:3000000<m) (hM:MG N S I V) {E:Edges} (hE:EOK N E) (hq: ∀j,j<N->E.getD j []=edg (ents S I V N 0) j) {row:LI} (hr:Rr N E row) (hi: ∀j k,j<N->k<N->row.getD j 0=row.getD k 0->j=k) {B:LI} (hl:B.length=N) (hB: ∀k,k<N->0<=B.getD k 0/\B.getD k 0<=600000000)
 (t0 t1 t2:LI): ∀(n j:Nat) (u:LI),N-j<n->j<=N->u.length=N->(∀i,i<j->u.getD (row.getD i 0).toNat 0=wE E i (row.getD i 0)-B.getD i 0)->
 ∃u',g18L3 m n (N:Int) (N:Int) S I V t0 t1 t2 row (N:Int) B u (j:Int)=some (.inl ((t0,t1,t2,()),row,B,u',()))/\u'.length=N/\ ∀i,i<N->u'.getD (row.getD i 0).toNat 0=wE E i (row.getD i 0)-B.getD i 0
 |0,j,u,h,_,_,_=>O
 |n+1,j,u,h,hj0,hul,hu=>by
  have hN:=hE.small;have hrl:=hr.rl;rw[g18L3,bQ];by_cases hj:j<N
  . obtain⟨r1,r2,y,hy,ey⟩:=hr.r j hj;have c1:(0:Int)<=(j:Int)/\(j:Int)<(row.length:Int):=O;have c2:(0:Int)<=(j:Int)/\(j:Int)<(B.length:Int):=O;have c3:(0:Int)<=row.getD j 0/\row.getD j 0<(u.length:Int):=O;obtain⟨w,ok,e,o1,o2⟩:=Z5 hm hM (row.getD j 0) hj
    have hw:w=wE E j (row.getD j 0):=by
     cases ok with
     |false=>rw[hq j hj]at hy;exact absurd ey (o2 rfl y hy)
     |true=>
      have:=o1 rfl;rw[<-hq j hj]at this;exact(wE_eq hE this).symm
    have hwe:wE E j (row.getD j 0)=y.2:=by rw[<-ey,wE_eq hE hy]
    have hw2:=hE.wt j y hy;have hb:=hB j hj;have w1:IntKind.wrap .i64 (wE E j (row.getD j 0)-B.getD j 0)=wE E j (row.getD j 0)-B.getD j 0:=wi O O;rw[iP O];simp only[c1,c2,c3,and_self,if_true,tN,Nat.zero_add,e,bS,hw,wQ,w1,wsucc (show j<4611686018427387904 by omega)]
    refine qbb hm hM hE hq hr hi hl hB t0 t1 t2 n (j+1) _ O O (by simp[hul]) fun i hi2=> ?_
    rw[Q8 O];split
    . rename_i ei;have hri:=hr.r i O;have:i=j:=hi i j O hj O;rw[this]
    . rename_i ei;have:i≠j:=by rintro rfl;exact ei rfl
      exact hu i O
  . rw[iN' O];exact⟨u,rfl,hul,fun i hi2=>hu i O⟩
theorem qcl {m:Nat} (hm:4000000000<m) (hN5:N<=5) (hM:MG N S I V) {E:Edges} (hE:EOK N E) (hq: ∀j,j<N->E.getD j []=edg (ents S I V N 0) j):
 (∃row U W,g12 m (N:Int) (N:Int) S I V=some (((row,U,W,()),0,()),(),())/\g18 m (N:Int) (N:Int) S I V=some (((row,U,W,()),0,()),(),())/\TrvM N E row U W)\/
 (g12 m (N:Int) (N:Int) S I V=some ((([],[],[],()),9,()),(),())/\g18 m (N:Int) (N:Int) S I V=some ((([],[],[],()),9,()),(),())/\ ∀s,¬Ag N (Ed E) s):=by
 have hN:=hM.ok.cz;have hsl:S.length<=201:=by rw[hM.ok.st.len];omega
 have hvl:V.length<=200:=by rw[hM.vl];exact hM.il
 have c1:(0:Int)<=(N:Int)/\(N:Int)<=(N:Int)/\(N:Int)<=1073741824:=O;rw[g18,Xm O O O,hM.chk];simp only[bS,bif_ne,if_true];rcases qgq m hm hN5 hM hq hE.len with⟨row,U,W,e1,T⟩|⟨e1,hno⟩
 . rcases qcz m O hM hE hq with⟨row',e2,l2,L2,n2⟩|⟨_,hno⟩
   . have hrow:row'=row:=Yl 0 (by rw[l2,T.tv.rl]) fun j hj=>by
      have h1:=T.lex.uniq L2 j O;have h2:=T.tv.rr j O;have h3:=n2 j O;omega
     subst hrow
     have hr:Rr N E row':=⟨l2,fun j hj=>by
      obtain⟨x,hx,e,_⟩:=T.tv.tight j hj;exact⟨(T.tv.rr j hj).1,(T.tv.rr j hj).2,x,hx,e⟩⟩
     have hB: ∀k,k<N->0<=W.getD k 0/\W.getD k 0<=600000000:=fun k _=>⟨T.tv.vn k,T.tv.vb k⟩
     have hrep: ∀{n:Nat} (i:Nat),(List.replicate n (0:Int)).getD i 0=0:=fun{n} i=>by
      by_cases h:i<n
      . rw[qo h]
      . rw[Qc (by simpa using h)]
     obtain⟨v,f1,f2,f3⟩:=qct (m:=m) O hM hE hq hr hB T.lv [] [] [] m 0 (List.replicate N 0) O O (by simp) (fun k hk=>by rw[hrep];exact⟨Int.le_refl _,(hB k hk).1⟩) O
     have hvW:v=W:=Yl 0 (by rw[f2,T.tv.vl]) fun k hk=>f3 k O
     subst hvW;obtain⟨u,g1,g2,g3⟩:=qbb (m:=m) O hM hE hq hr T.tv.inj f2 hB [] [] [] m 0 (List.replicate N 0) O O (by simp) (fun i h=>absurd h (Nat.not_lt_zero _))
     rw[nZ]at f1 g1
     have huU:u=U:=Yl 0 (by rw[g2,T.tv.ul]) fun i hi=>by
      obtain⟨j,hj,ej⟩: ∃j,j<N/\(row'.getD j 0).toNat=i:=by
       refine Classical.byContradiction fun hn=> ?_
       have hnd:((List.range N).map fun j=>(row'.getD j 0).toNat).Nodup:=Xu (fun a ha b hb e=>by
        have h1:=T.tv.rr a (List.mem_range.1 ha);have h2:=T.tv.rr b (List.mem_range.1 hb);exact T.tv.inj a b (List.mem_range.1 ha) (List.mem_range.1 hb) O) List.nodup_range
       have:=Z9 (l:=i::(List.range N).map fun j=>(row'.getD j 0).toNat) (l':=List.range N) (List.nodup_cons.2 ⟨fun hmem=>by
        obtain⟨j,hj,e⟩:=List.mem_map.1 hmem;exact hn ⟨j,List.mem_range.1 hj,e⟩,hnd⟩) (fun x hx=>by
        rcases mC hx with rfl|hx
        . exact List.mem_range.2 O
        . obtain⟨j,hj,rfl⟩:=List.mem_map.1 hx;have:=T.tv.rr j (List.mem_range.1 hj);exact List.mem_range.2 O)
       simp only[List.length_cons,List.length_map,List.length_range]at this;omega
      rw[<-ej,g3 j hj,T.u j hj]
     subst huU;refine .inl ⟨row',u,v,e1,?_,T⟩;simp only[e2,bS,Bool.not_true,cond_false,c1,and_self,if_true,tN,f1,g1]
   . exact absurd T.lex.mx.ag (hno _)
 . rcases qcz m O hM hE hq with⟨row',e2,l2,L2,n2⟩|⟨e2,_⟩
   . exact absurd L2.mx.ag (hno _)
   . refine .inr ⟨e1,?_,hno⟩;simp only[e2,bS,Bool.not_false,cond_true]
variable {N:Nat} {S I V:LI}
def sumT (a b:Int):Int:=if a+b>=9223372036854775808 then 1099511627776 else if a+b< -9223372036854775808 then-1099511627776 else a+b
theorem qki {m:Nat} {a b:Int} (ha:I64 a) (hb:I64 b):g51 m a b=some (sumT a b,(),(),()):=by
 have hw:=qnf (a:=a) (b:=b);unfold I64 at ha hb;rw[g51];generalize wI (a+b)=w at hw;have h1: -9223372036854775808<=a+b->a+b<9223372036854775808->w=a+b:=fun h1 h2=>O
 have h2:a+b>=9223372036854775808->w<0:=fun h=>O
 have h3:a+b< -9223372036854775808->w>=0:=fun h=>O
 clear hw;simp only[bQ];unfold sumT;by_cases g1:a+b>=9223372036854775808
 . rw[iP g1,iP O,iP O,iP (h2 g1)]
 . rw[iN' g1];by_cases g2:a+b< -9223372036854775808
   . rw[iP g2,iN' O,iP O,iP O,iP (h3 g2)]
   . rw[iN' g2];have hw:=h1 O O;subst hw;by_cases p1:a>0
     . rw[iP p1];by_cases p2:b>0
       . rw[iP p2,iN' O,iN' O]
       . rw[iN' p2,iN' O]
     . rw[iN' p1];by_cases p3:a<0
       . rw[iP p3];by_cases p4:b<0
         . rw[iP p4,iN' O]
         . rw[iN' p4]
       . rw[iN' p3]
def Dx (R U W:LI) (j:Nat) (x:Int×Int):Prop:=x.2<=U.getD x.1.toNat 0+W.getD j 0/\(x.1=R.getD j 0->U.getD x.1.toNat 0+W.getD j 0<=x.2)
def q14 (N:Nat) (E:Edges) (R U W:LI):Prop:= ∀j,j<N-> ∀x∈E.getD j [],Dx R U W j x
theorem qn6 {a b w:Int} (h1: -1100<=w) (h2:w<=1100):(sumT a b<w↔a+b<w)/\(sumT a b>w↔a+b>w):=by
 unfold sumT;split
 . omega
 . split<;>omega
structure TL (N:Nat) (R U W:LI):Prop where
 rl:R.length=N
 ul:U.length=N
 wl:W.length=N
 u: ∀x∈U,I64 x
 w: ∀x∈W,I64 x
theorem Ze {l:LI} (h: ∀x∈l,I64 x) (k:Nat):I64 (l.getD k 0):=by
 by_cases c:k<l.length
 . exact h _ (X8 c)
 . rw[Qc O];unfold I64;omega
theorem q3p (m:Nat) {E E2:Edges} {R U W:LI} (hE:EOK N E) (hT:TL N R U W) {j:Nat} (hj:j<N) (a b:Int): ∀(n k:Nat),(E.getD j []).length-k<n->
 (g62L1 m n R U W (j:Int) E2 a b (E.getD j []) ((E.getD j []).length:Int) (k:Int)=some (.inr (.inl ((R,U,W,()),E2,a,b,())))/\ ∀x∈(E.getD j []).drop k,Dx R U W j x)\/
 (g62L1 m n R U W (j:Int) E2 a b (E.getD j []) ((E.getD j []).length:Int) (k:Int)=some (.inl (false,()))/\ ∃x∈E.getD j [],¬Dx R U W j x)
 |0,k,h=>O
 |n+1,k,h=>by
  have hN:=hE.small;have hlens:=hE.lens j;obtain⟨h1,h2,h3,h4,h5⟩:=hT;rw[g62L1,bQ];by_cases hk:k<(E.getD j []).length
  . have c1:(0:Int)<=(k:Int)/\(k:Int)<((E.getD j []).length:Int):=O;have hmem:(E.getD j []).getD k (0,0)∈E.getD j []:=X8 hk;have hr:=hE.row j _ hmem;have hw:=hE.wt j _ hmem;have ih:=q3p m (E2:=E2) hE ⟨h1,h2,h3,h4,h5⟩ hj a b n (k+1) O;rw[drop_cons (d:=(0,0)) hk,iP O,iP c1];obtain⟨y,hy⟩: ∃y,(E.getD j []).getD k (0,0)=y:=⟨_,rfl⟩;rw[hy]at hmem hr hw;simp only[tN,hy,wQ,wsucc (show k<4611686018427387904 by omega)]
    have c2:(0:Int)<=y.1/\y.1<(U.length:Int):=O;have c3:(0:Int)<=(j:Int)/\(j:Int)<(W.length:Int):=O;have c4:(0:Int)<=(j:Int)/\(j:Int)<(R.length:Int):=O;rw[iP c2,iP c3,qki (Ze h4 _) (Ze h5 _)];obtain⟨s1,s2⟩:=qn6 (a:=U.getD y.1.toNat 0) (b:=W.getD j 0) hw.1 hw.2;simp only[bS,bQ,s1,s2,c4,and_self,if_true,bif_eq]
    have next:Dx R U W j y->(g62L1 m n R U W (j:Int) E2 a b (E.getD j []) ((E.getD j []).length:Int) ((k+1:Nat):Int)=some (.inr (.inl ((R,U,W,()),E2,a,b,())))/\ ∀x∈y::(E.getD j []).drop (k+1),Dx R U W j x)\/
     (g62L1 m n R U W (j:Int) E2 a b (E.getD j []) ((E.getD j []).length:Int) ((k+1:Nat):Int)=some (.inl (false,()))/\ ∃x∈E.getD j [],¬Dx R U W j x):=fun hy=>by
     rcases ih with⟨e,q⟩|q
     . exact .inl ⟨e,fun x hx=>by
        rcases mC hx with rfl|hx
        . exact hy
        . exact q x hx⟩
     . exact .inr q
    by_cases g1:U.getD y.1.toNat 0+W.getD j 0<y.2
    . rw[iP g1];exact .inr ⟨rfl,y,hmem,fun d=>by have:=d.1;omega⟩
    . rw[iN' g1];by_cases g2:U.getD y.1.toNat 0+W.getD j 0>y.2
      . rw[iP g2];by_cases g3:y.1=R.getD j 0
        . rw[iP g3];exact .inr ⟨rfl,y,hmem,fun d=>by have:=d.2 g3;omega⟩
        . rw[iN' g3];exact next ⟨O,fun c=>absurd c g3⟩
      . rw[iN' g2];exact next ⟨O,fun _=>O⟩
  . rw[iN' O];exact .inl ⟨rfl,fun x hx=>by rw[drop_nil' hk]at hx;cases hx⟩
theorem q48 (m:Nat) (hm:1000<m) {E:Edges} {R U W:LI} (hE:EOK N E) (hT:TL N R U W): ∀(n j:Nat),N-j<n->j<=N->(∀k,k<j-> ∀x∈E.getD k [],Dx R U W k x)->
 (g62L0 m n R U W E (N:Int) (j:Int)=some (.inr (.inl ()))/\q14 N E R U W)\/
 (g62L0 m n R U W E (N:Int) (j:Int)=some (.inl (false,()))/\ ¬q14 N E R U W)
 |0,j,h,_,_=>O
 |n+1,j,h,hj0,hq=>by
  have hN:=hE.small;have hl:=hE.len;rw[g62L0,bQ];by_cases hj:j<N
  . have c1:(0:Int)<=(j:Int)/\(j:Int)<(E.length:Int):=O;rw[iP O,iP c1];simp only[tN,wQ,wsucc (show j<4611686018427387904 by omega)]
    have hlens:=hE.lens j;rcases q3p m (E2:=E) hE hT hj (N:Int) (j:Int) m 0 O with⟨e,q⟩|⟨e,x,hx,q⟩
    . rw[nZ]at e;simp only[e,bS,wsucc (show j<4611686018427387904 by omega)]
      exact q48 m hm hE hT n (j+1) O O fun k hk=>by
       by_cases e:k=j
       . subst e;exact q
       . exact hq k O
    . rw[nZ]at e;simp only[e,bS];exact .inr ⟨by first|trivial|rfl,fun d=>q (d j hj x hx)⟩
  . rw[iN' O];exact .inl ⟨rfl,fun k hk=>hq k O⟩
theorem qil (m:Nat) (hm:1000<m) {E:Edges} {R U W:LI} (hE:EOK N E) (hT:TL N R U W):
 ∃b,g62 m E R U W=some (b,(),(),())/\(b=true↔q14 N E R U W):=by
 have hN:=hE.small;rw[g62,hE.len];rcases q48 m hm hE hT m 0 O O (fun k h=>absurd h (Nat.not_lt_zero _))with⟨e,q⟩|⟨e,q⟩
 . rw[nZ]at e;rw[e];exact⟨true,rfl,fun _=>q,fun _=>rfl⟩
 . rw[nZ]at e;rw[e];exact⟨false,rfl,(fun h=>by cases h),fun h=>absurd h q⟩
def Mtc (N:Nat) (E:Edges) (R:LI):Prop:=(∀j,j<N-> ∃x∈E.getD j [],x.1=R.getD j 0)/\ ∀a b,a<N->b<N->R.getD a 0=R.getD b 0->a=b
theorem Ja (m:Nat) (E:Edges) (us:List Bool) (i:Int) (R:LI) (a b:Int) (xs:List (Int×Int)) (hl:xs.length<=200): ∀(n k:Nat) (f:Bool),xs.length-k<n->
 ∃f',g61L1 m n E us i f R a b xs (xs.length:Int) (k:Int)=some (.inl (E,us,i,f',R,a,b,()))/\(f'=true↔f=true\/ ∃x∈xs.drop k,x.1=i)
 |0,k,f,h=>O
 |n+1,k,f,h=>by
  rw[g61L1,bQ];by_cases hk:k<xs.length
  . have c1:(0:Int)<=(k:Int)/\(k:Int)<(xs.length:Int):=O;rw[iP O,iP c1,drop_cons (d:=(0,0)) hk];obtain⟨y,hy⟩: ∃y,xs.getD k (0,0)=y:=⟨_,rfl⟩;simp only[tN,hy,wQ,wsucc (show k<4611686018427387904 by omega)]
    cases f with
    |true=>
     obtain⟨f',e,q⟩:=Ja m E us i R a b xs hl n (k+1) true O;refine⟨f',e,?_⟩;rw[q];simp
    |false=>
     obtain⟨f',e,q⟩:=Ja m E us i R a b xs hl n (k+1) (y.1==i) O;refine⟨f',e,?_⟩;rw[q];simp only[Bool.false_eq_true,false_or,List.mem_cons,exists_eq_or_imp,beq_iff_eq]
  . rw[iN' O,drop_nil' hk];exact⟨f,rfl,by simp⟩
theorem q1y (m:Nat) (hm:1000<m) {E:Edges} {R:LI} (hE:EOK N E) (hr:R.length=N): ∀(n j:Nat) (us:List Bool),N-j<n->j<=N->us.length=N->
 (∀k,k<j-> ∃x∈E.getD k [],x.1=R.getD k 0)->(∀a b,a<j->b<j->R.getD a 0=R.getD b 0->a=b)->(∀i,us.getD i false=true↔ ∃k,k<j/\R.getD k 0=(i:Int))->
 (g61L0 m n E us R (N:Int) (j:Int)=some (.inr (.inl ()))/\Mtc N E R)\/
 (g61L0 m n E us R (N:Int) (j:Int)=some (.inl (false,()))/\ ¬Mtc N E R)
 |0,j,us,h,_,_,_,_,_=>O
 |n+1,j,us,h,hj0,hu,h1,h2,h3=>by
  have hN:=hE.small;have hl:=hE.len;rw[g61L0,bQ];by_cases hj:j<N
  . have c1:(0:Int)<=(j:Int)/\(j:Int)<(E.length:Int):=O;have c2:(0:Int)<=(j:Int)/\(j:Int)<(R.length:Int):=O;rw[iP O,iP c2,iP c1];have hlens:=hE.lens j;obtain⟨f',e,q⟩:=Ja m E us (R.getD j 0) R (N:Int) (j:Int) (E.getD j []) hlens m 0 false O;rw[nZ]at e;simp only[tN,e,bS,wQ,wsucc (show j<4611686018427387904 by omega),Nat.zero_add]
    simp only[Bool.false_eq_true,false_or,List.drop_zero]at q;cases f' with
    |false=>
     simp only[Bool.not_false,cond_true];exact .inr ⟨by first|trivial|rfl,fun d=>by obtain⟨x,hx⟩:=d.1 j hj;exact Bool.noConfusion (q.2 ⟨x,hx.1,hx.2⟩)⟩
    |true=>
     obtain⟨x,hx,ex⟩:=q.1 rfl;have hrow:=hE.row j x hx;rw[ex]at hrow;have c3:(0:Int)<=R.getD j 0/\R.getD j 0<(us.length:Int):=O;simp only[Bool.not_true,cond_false,c3,and_self,if_true];have h3':=h3 (R.getD j 0).toNat;rcases Bool.eq_false_or_eq_true (us.getD (R.getD j 0).toNat false)with hus|hus
     . rw[hus];simp only[cond_true];obtain⟨k,k1,k2⟩:=h3'.1 hus
       exact .inr ⟨by first|trivial|rfl,fun d=>by
        have:=d.2 k j O hj O;omega⟩
     . rw[hus];simp only[cond_false]
       have hnew: ∀k,k<j->R.getD k 0≠R.getD j 0:=fun k hk e=>by
        rw[h3'.2 ⟨k,hk,O⟩]at hus;cases hus
       clear q h3';refine q1y m hm hE hr n (j+1) _ O O (by simp[hu]) (fun k hk=> ?_) (fun a b ha hb eab=> ?_) fun i=> ?_
       . by_cases ek:k=j
         . subst ek;exact⟨x,hx,ex⟩
         . exact h1 k O
       . by_cases ea:a=j
         . by_cases eb:b=j
           . omega
           . subst ea;exact absurd eab.symm (hnew b O)
         . by_cases eb:b=j
           . subst eb;exact absurd eab (hnew a O)
           . exact h2 a b O O eab
       . rw[Q8 O];split
         . rename_i ei;exact⟨fun _=>⟨j,O,O⟩,fun _=>rfl⟩
         . rename_i ei;rw[h3];constructor
           . rintro ⟨k,k1,k2⟩;exact⟨k,O,k2⟩
           . rintro ⟨k,k1,k2⟩
             exact⟨k,by
              have:k≠j:=by rintro rfl;omega
              omega,k2⟩
  . rw[iN' O];have:j=N:=O;subst this;exact .inl ⟨rfl,h1,h2⟩
theorem qgy (m:Nat) (hm:1000<m) {E:Edges} {R:LI} (hE:EOK N E) (hr:R.length=N): ∃b,g61 m E R=some (b,(),(),())/\(b=true↔Mtc N E R):=by
 have hN:=hE.small;have c1:(0:Int)<=(N:Int)/\(N:Int)<=(N:Int)/\(N:Int)<=1073741824:=O;rw[g61,hE.len,iP c1,hr,tN]
 have hrep: ∀i,(List.replicate N false).getD i false=false:=fun i=>by
  by_cases h:i<N
  . rw[qo h]
  . rw[Qc (by simpa using h)]
 rcases q1y m hm hE hr m 0 (List.replicate N false) O O (by simp) (fun k h=>absurd h (Nat.not_lt_zero _)) (fun a b h=>absurd h (Nat.not_lt_zero _)) (fun i=>by
  rw[hrep];exact⟨(fun h=>by cases h),fun⟨k,h,_⟩=>absurd h (Nat.not_lt_zero _)⟩)with⟨e,q⟩|⟨e,q⟩
 . rw[nZ]at e;rw[e];exact⟨true,rfl,fun _=>q,fun _=>rfl⟩
 . rw[nZ]at e;rw[e];exact⟨false,rfl,(fun h=>by cases h),fun h=>absurd h q⟩
theorem qg7 (m:Nat) {l:LI} (hl:l.length=N) (hN:N<=1000): ∀(n j:Nat) (us:List Bool),N-j<n->j<=N->us.length=N->
 (∀k,k<j->0<=l.getD k 0/\l.getD k 0<(N:Int))->(∀a b,a<j->b<j->l.getD a 0=l.getD b 0->a=b)->(∀i,us.getD i false=true↔ ∃k,k<j/\l.getD k 0=(i:Int))->
 (g63L0 m n l (N:Int) us (j:Int)=some (.inr (.inl ()))/\(∀k,k<N->0<=l.getD k 0/\l.getD k 0<(N:Int))/\ ∀a b,a<N->b<N->l.getD a 0=l.getD b 0->a=b)\/
 (g63L0 m n l (N:Int) us (j:Int)=some (.inl (false,()))/\ ¬((∀k,k<N->0<=l.getD k 0/\l.getD k 0<(N:Int))/\ ∀a b,a<N->b<N->l.getD a 0=l.getD b 0->a=b))
 |0,j,us,h,_,_,_,_,_=>O
 |n+1,j,us,h,hj0,hu,h1,h2,h3=>by
  rw[g63L0,bQ];by_cases hj:j<N
  . have c1:(0:Int)<=(j:Int)/\(j:Int)<(l.length:Int):=O;rw[iP O];simp only[c1,and_self,if_true,tN,bQ,Nat.zero_add,wQ,wsucc (show j<4611686018427387904 by omega)]
    by_cases g1:l.getD j 0<0
    . rw[iP g1];exact .inr ⟨by first|trivial|rfl,fun d=>by have:=d.1 j hj;omega⟩
    rw[iN' g1];by_cases g2:l.getD j 0>=(N:Int)
    . rw[iP g2];exact .inr ⟨by first|trivial|rfl,fun d=>by have:=d.1 j hj;omega⟩
    rw[iN' g2];have c3:(0:Int)<=l.getD j 0/\l.getD j 0<(us.length:Int):=O;simp only[c3,and_self,if_true];have h3':=h3 (l.getD j 0).toNat;rcases Bool.eq_false_or_eq_true (us.getD (l.getD j 0).toNat false)with hus|hus
    . rw[hus];simp only[cond_true];obtain⟨k,k1,k2⟩:=h3'.1 hus
      exact .inr ⟨by first|trivial|rfl,fun d=>by
       have:=d.2 k j O hj O;omega⟩
    . rw[hus];simp only[cond_false]
      have hnew: ∀k,k<j->l.getD k 0≠l.getD j 0:=fun k hk e=>by
       rw[h3'.2 ⟨k,hk,O⟩]at hus;cases hus
      clear h3';refine qg7 m hl hN n (j+1) _ O O (by simp[hu]) (fun k hk=> ?_) (fun a b ha hb eab=> ?_) fun i=> ?_
      . by_cases ek:k=j
        . subst ek;omega
        . exact h1 k O
      . by_cases ea:a=j
        . by_cases eb:b=j
          . omega
          . subst ea;exact absurd eab.symm (hnew b O)
        . by_cases eb:b=j
          . subst eb;exact absurd eab (hnew a O)
          . exact h2 a b O O eab
      . rw[Q8 O];split
        . rename_i ei;exact⟨fun _=>⟨j,O,O⟩,fun _=>rfl⟩
        . rename_i ei;rw[h3];constructor
          . rintro ⟨k,k1,k2⟩;exact⟨k,O,k2⟩
          . rintro ⟨k,k1,k2⟩
            exact⟨k,by
             have:k≠j:=by rintro rfl;omega
             omega,k2⟩
  . rw[iN' O];have:j=N:=O;subst this;exact .inl ⟨rfl,h1,h2⟩
theorem ql1 (m:Nat) (hm:2000<m) {l:LI} (hl:l.length=N) (hN:N<=1000):
 ∃b,g63 m l (N:Int)=some (b,(),(),())/\(b=true↔(∀k,k<N->0<=l.getD k 0/\l.getD k 0<(N:Int))/\ ∀a b,a<N->b<N->l.getD a 0=l.getD b 0->a=b):=by
 have c1:(0:Int)<=(N:Int)/\(N:Int)<=(N:Int)/\(N:Int)<=1073741824:=O
 have hrep: ∀i,(List.replicate N false).getD i false=false:=fun i=>by
  by_cases h:i<N
  . rw[qo h]
  . rw[Qc (by simpa using h)]
 rw[g63,hl];simp only[bif_ne,if_true,c1,and_self,tN]
 rcases qg7 m hl hN m 0 (List.replicate N false) O O (by simp) (fun k h=>absurd h (Nat.not_lt_zero _)) (fun a b h=>absurd h (Nat.not_lt_zero _)) (fun i=>by
  rw[hrep];exact⟨(fun h=>by cases h),fun⟨k,h,_⟩=>absurd h (Nat.not_lt_zero _)⟩)with⟨e,q⟩|⟨e,q⟩
 . rw[nZ]at e;rw[e];exact⟨true,rfl,fun _=>q,fun _=>rfl⟩
 . rw[nZ]at e;rw[e];exact⟨false,rfl,(fun h=>by cases h),fun h=>absurd h q⟩
variable {N:Nat} {S I V:LI}
theorem q7d {z:Int} (h:z.natAbs<2^70):blen z.natAbs<=300000:=Nat.le_trans (X6 h) O
theorem SzI {z:Int} (h:z.natAbs<2^70):Sz (zB z).2.1:=SzB (Nat.le_trans (X6 h) O)
theorem qj0 {a b:Int}:(cmpZ a b<0↔a<b)/\(cmpZ a b>0↔a>b):=by
 unfold cmpZ;split
 . omega
 . split<;>omega
theorem qkm {m:Nat} (hm:3000000<m) (hM:MG N S I V) {E:Edges} (hE:EOK N E) (hq: ∀j,j<N->E.getD j []=edg (ents S I V N 0) j) {R U W:LI} (hT:TL N R U W) {i:Nat} (hi:i<N):
 ∀(n k:Nat),N-k<n->k<=N->
 (g22L2 m n (N:Int) (N:Int) S I V R U W (N:Int) (i:Int) (k:Int)=some (.inr (.inl (((N:Int),(N:Int),S,I,V,()),(R,U,W,()),(N:Int),(i:Int),())))/\ ∀k',k<=k'->k'<N-> ∀x∈E.getD k' [],x.1=(i:Int)->Dx R U W k' x)\/
 (g22L2 m n (N:Int) (N:Int) S I V R U W (N:Int) (i:Int) (k:Int)=some (.inl (140,()))/\ ¬q14 N E R U W)
 |0,k,h,_=>O
 |n+1,k,h,hk0=>by
  have hN:=hE.small;have hT':=hT;obtain⟨h1,h2,h3,h4,h5⟩:=hT';rw[g22L2,bQ];by_cases hk:k<N
  . have ih:=qkm hm hM hE hq hT hi n (k+1) O O;have c1:(0:Int)<=(i:Int)/\(i:Int)<(U.length:Int):=O;have c2:(0:Int)<=(k:Int)/\(k:Int)<(W.length:Int):=O;have c3:(0:Int)<=(k:Int)/\(k:Int)<(R.length:Int):=O;obtain⟨w,ok,e,o1,o2⟩:=Z5 hm hM (i:Int) hk
    have next:(∀x∈E.getD k [],x.1=(i:Int)->Dx R U W k x)->(g22L2 m n (N:Int) (N:Int) S I V R U W (N:Int) (i:Int) ((k+1:Nat):Int)=some (.inr (.inl (((N:Int),(N:Int),S,I,V,()),(R,U,W,()),(N:Int),(i:Int),())))/\ ∀k',k<=k'->k'<N-> ∀x∈E.getD k' [],x.1=(i:Int)->Dx R U W k' x)\/
     (g22L2 m n (N:Int) (N:Int) S I V R U W (N:Int) (i:Int) ((k+1:Nat):Int)=some (.inl (140,()))/\ ¬q14 N E R U W):=fun hx=>by
     rcases ih with⟨e,q⟩|q
     . exact .inl ⟨e,fun k' a b=>by
        by_cases ek:k'=k
        . subst ek;exact hx
        . exact q k' O b⟩
     . exact .inr q
    rw[iP O];simp only[e,bS,wQ,wsucc (show k<4611686018427387904 by omega)]
    cases ok with
    |false=>
     simp only[Bool.not_false,cond_true];refine next fun x hx ex=> ?_
     rw[hq k hk]at hx;exact absurd ex (o2 rfl x hx)
    |true=>
     have hmem:=o1 rfl;rw[<-hq k hk]at hmem;have hw:=hE.wt k _ hmem;simp only at hw;have hu:=Ze h4 i;have hv:=Ze h5 k
     have huniq: ∀x∈E.getD k [],x.1=(i:Int)->x=((i:Int),w):=fun x hx ex=>by
      have:=hE.fn k x hx _ hmem ex;obtain⟨x1,x2⟩:=x;simp only at this ex;rw[ex,this]
     simp only[Bool.not_true,cond_false,c1,c2,c3,and_self,if_true,tN];obtain⟨a,ha⟩: ∃a,U.getD i 0=a:=⟨_,rfl⟩;obtain⟨b,hb⟩: ∃b,W.getD k 0=b:=⟨_,rfl⟩
     have hdx:Dx R U W k ((i:Int),w)↔w<=a+b/\((i:Int)=R.getD k 0->a+b<=w):=by
      unfold Dx;simp only[tN,ha,hb]
     rw[ha]at hu;rw[hb]at hv;simp only[ha,hb];unfold I64 at hu hv;have e1:=X4 (m:=m) O hu.1 hu.2;have e2:=X4 (m:=m) O hv.1 hv.2;have e3:=X4 (m:=m) (n:=w) O O O;have e4:=q6r (m:=m) O (SzI (z:=a) O) (n1:=(zB a).1) (SzI (z:=b) O) (n2:=(zB b).1);rw[zv_zB,zv_zB]at e4;have e5:=qjo (m:=m) O (q7d (z:=a+b) O) (q7d (z:=w) O);simp only[e1,e2,e3,e4,e5,bS,bQ,qj0.1,qj0.2,bif_eq];by_cases g1:a+b<w
     . rw[iP g1];exact .inr ⟨by first|trivial|rfl,fun d=>by have:=(hdx.1 (d k hk _ hmem)).1;omega⟩
     . rw[iN' g1];by_cases g2:a+b>w
       . rw[iP g2];by_cases g3:R.getD k 0=(i:Int)
         . rw[iP g3];exact .inr ⟨by first|trivial|rfl,fun d=>by have:=(hdx.1 (d k hk _ hmem)).2 g3.symm;omega⟩
         . rw[iN' g3];exact next fun x hx ex=>by rw[huniq x hx ex];exact hdx.2 ⟨O,fun c=>absurd c.symm g3⟩
       . rw[iN' g2];exact next fun x hx ex=>by rw[huniq x hx ex];exact hdx.2 ⟨O,fun _=>O⟩
  . rw[iN' O];exact .inl ⟨rfl,fun k' a b=>absurd b O⟩
theorem qiy {m:Nat} (hm:3000000<m) (hM:MG N S I V) {E:Edges} (hE:EOK N E) (hq: ∀j,j<N->E.getD j []=edg (ents S I V N 0) j) {R U W:LI} (hT:TL N R U W):
 ∀(n i:Nat),N-i<n->i<=N->(∀i',i'<i-> ∀k,k<N-> ∀x∈E.getD k [],x.1=(i':Int)->Dx R U W k x)->
 (g22L1 m n (N:Int) (N:Int) S I V R U W (N:Int) (i:Int)=some (.inr (.inl ()))/\q14 N E R U W)\/
 (g22L1 m n (N:Int) (N:Int) S I V R U W (N:Int) (i:Int)=some (.inl (140,()))/\ ¬q14 N E R U W)
 |0,i,h,_,_=>O
 |n+1,i,h,hi0,hd=>by
  have hN:=hE.small;rw[g22L1,bQ];by_cases hi:i<N
  . rw[iP O];rcases qkm hm hM hE hq hT hi m 0 O O with⟨e,q⟩|⟨e,q⟩
    . rw[nZ]at e;simp only[e,bS,wQ,wsucc (show i<4611686018427387904 by omega)]
      exact qiy hm hM hE hq hT n (i+1) O O fun i' hi' k hk x hx ex=>by
       by_cases ei:i'=i
       . subst ei;exact q k (Nat.zero_le _) hk x hx ex
       . exact hd i' O k hk x hx ex
    . rw[nZ]at e;simp only[e,bS];exact .inr ⟨by first|trivial|rfl,q⟩
  . rw[iN' O];refine .inl ⟨rfl,fun j hj x hx=> ?_⟩
    have hr:=hE.row j x hx;exact hd x.1.toNat O j hj x hx O
theorem qdg {m:Nat} (hm:3000000<m) (hM:MG N S I V) {E:Edges} (hE:EOK N E) (hq: ∀j,j<N->E.getD j []=edg (ents S I V N 0) j) {R U W:LI} (hT:TL N R U W):
 ∀(n j:Nat),N-j<n->j<=N->(∀k,k<j-> ∃x∈E.getD k [],x.1=R.getD k 0)->
 (g22L0 m n (N:Int) (N:Int) S I V R U W (N:Int) (j:Int)=some (.inr (.inl (((N:Int),(N:Int),S,I,V,()),(R,U,W,()),(N:Int),())))/\ ∀k,k<N-> ∃x∈E.getD k [],x.1=R.getD k 0)\/
 (g22L0 m n (N:Int) (N:Int) S I V R U W (N:Int) (j:Int)=some (.inl (130,()))/\ ¬ ∀k,k<N-> ∃x∈E.getD k [],x.1=R.getD k 0)
 |0,j,h,_,_=>O
 |n+1,j,h,hj0,hd=>by
  have hN:=hE.small;have hrl:=hT.rl;rw[g22L0,bQ];by_cases hj:j<N
  . have c1:(0:Int)<=(j:Int)/\(j:Int)<(R.length:Int):=O;rw[iP O,iP c1];obtain⟨w,ok,e,o1,o2⟩:=Z5 hm hM (R.getD j 0) hj;simp only[tN,e,bS,wQ,wsucc (show j<4611686018427387904 by omega)]
    cases ok with
    |false=>
     simp only[Bool.not_false,cond_true];refine .inr ⟨by first|trivial|rfl,fun d=> ?_⟩
     obtain⟨x,hx,ex⟩:=d j hj;rw[hq j hj]at hx;exact o2 rfl x hx ex
    |true=>
     simp only[Bool.not_true,cond_false];have hmem:=o1 rfl;rw[<-hq j hj]at hmem
     exact qdg hm hM hE hq hT n (j+1) O O fun k hk=>by
      by_cases ek:k=j
      . subst ek;exact⟨_,hmem,rfl⟩
      . exact hd k O
  . rw[iN' O];exact .inl ⟨rfl,fun k hk=>hd k O⟩
theorem q7g {m:Nat} (hm:3000000<m) (hM:MG N S I V) {E:Edges} (hE:EOK N E) (hq: ∀j,j<N->E.getD j []=edg (ents S I V N 0) j) {R U W:LI} (hu: ∀x∈U,I64 x) (hw: ∀x∈W,I64 x):
 ∃c,g21 m (N:Int) (N:Int) S I V R U W=some (c,(),(),())/\g22 m (N:Int) (N:Int) S I V R U W=some (c,(),(),())/\
  (c=0->TL N R U W/\Mtc N E R/\q14 N E R U W)/\(TL N R U W->Mtc N E R->q14 N E R U W->c=0):=by
 have hN:=hM.ok.cz;have hsl:S.length<=201:=by rw[hM.ok.st.len];omega
 have hvl:V.length<=200:=by rw[hM.vl];exact hM.il
 rw[g21,g22,Xm O O O,g37,g29eq O O O O O,hM.chk];simp only[bS,bif_ne,bif_eq,if_true];by_cases l1:(R.length:Int)=(N:Int)
 . by_cases l2:(U.length:Int)=(N:Int)
   . by_cases l3:(W.length:Int)=(N:Int)
     . have hT:TL N R U W:=⟨O,O,O,hu,hw⟩;simp only[l1,l2,l3,if_true];obtain⟨E',eE,hE',hq'⟩:=q8u m hm hM;have:E'=E:=Yl [] (by rw[hE'.len,hE.len]) fun k hk=>by rw[hE'.len]at hk;rw[hq' k hk,hq k hk]
       subst this;obtain⟨b1,e1,q1⟩:=qgy m O hE hT.rl;obtain⟨b2,e2,q2⟩:=qil m O hE hT;obtain⟨b3,e3,q3⟩:=ql1 m O hT.rl O;rw[eE];simp only[bS,e1,e2,e3]
       have hrow:Mtc N E' R-> ∀k,k<N->0<=R.getD k 0/\R.getD k 0<(N:Int):=fun h k hk=>by
        obtain⟨x,hx,ex⟩:=h.1 k hk;have:=hE.row k x hx;omega
       cases b1 with
       |false=>
        simp only[Bool.not_false,cond_true];have hno: ¬Mtc N E' R:=fun d=>Bool.noConfusion (q1.2 d)
        refine⟨130,rfl,?_,(fun h=>by cases h),fun _ d _=>absurd d hno⟩
        cases b3 with
        |false=>simp only[Bool.not_false,cond_true]
        |true=>
         simp only[Bool.not_true,cond_false];have hp:=q3.1 rfl;rcases qdg hm hM hE hq hT m 0 O O (fun k h=>absurd h (Nat.not_lt_zero _))with⟨e,q⟩|⟨e,q⟩
         . exact absurd ⟨q,hp.2⟩ hno
         . rw[nZ]at e;rw[e];rfl
       |true=>
        have hmt:=q1.1 rfl;have hb3:b3=true:=q3.2 ⟨hrow hmt,hmt.2⟩;subst hb3;simp only[Bool.not_true,cond_false];rcases qdg hm hM hE hq hT m 0 O O (fun k h=>absurd h (Nat.not_lt_zero _))with⟨e,q⟩|⟨e,q⟩
        . rw[nZ]at e;simp only[e,bS];rcases qiy hm hM hE hq hT m 0 O O (fun k h=>absurd h (Nat.not_lt_zero _))with⟨e4,q4⟩|⟨e4,q4⟩
          . rw[nZ]at e4;have hb2:b2=true:=q2.2 q4;subst hb2;simp only[e4,bS,Bool.not_true,cond_false];exact⟨0,rfl,rfl,fun _=>⟨hT,hmt,q4⟩,fun _ _ _=>rfl⟩
          . rw[nZ]at e4
            have hb2:b2=false:=by
             cases b2 with
             |false=>rfl
             |true=>exact absurd (q2.1 rfl) q4
            subst hb2;simp only[e4,bS,Bool.not_false,cond_true];exact⟨140,rfl,rfl,(fun h=>by cases h),fun _ _ d=>absurd d q4⟩
        . exact absurd hmt.1 q
     . simp only[l1,l2,l3,if_true,if_false];exact⟨2,rfl,rfl,(fun h=>by cases h),fun h=>absurd (by rw[h.wl]) l3⟩
   . simp only[l1,l2,if_true,if_false];exact⟨2,rfl,rfl,(fun h=>by cases h),fun h=>absurd (by rw[h.ul]) l2⟩
 . simp only[l1,if_false];exact⟨2,rfl,rfl,(fun h=>by cases h),fun h=>absurd (by rw[h.rl]) l1⟩
end Go.Vs.F
set_option maxRecDepth 100000
namespace Go.Vs.F
variable {N:Nat} {S I V:LI}
def scV (v n:Int):Option Int:=if ofZ v=0 then some v else if exB (ofZ v) (ofE v+Qd n)=true then some (Qv (mkD (ofZ v) (ofE v+Qd n)) 0)else none
theorem qli {v n w:Int} (h:GoodV v) (e:scV v n=some w):GoodV w:=by
 unfold scV at e;split at e
 . cases e;exact h
 . split at e
   . rename_i hx;cases e;have hU:=q0q (d:=mkD (ofZ v) (ofE v+Qd n)) (mode:=0);have hf:=qii hx;rw[q5c hU]at hf;exact⟨hU,of_decide_eq_true hf⟩
   . cases e
theorem qo9 {v:Int}:(expOf v).2=true↔ofZ v≠0:=by
 unfold expOf;split
 . rename_i h;exact⟨(fun c=>by cases c),fun c=>absurd h c⟩
 . rename_i h;exact⟨fun _=>h,fun _=>rfl⟩
theorem qq5 {m:Nat} (hm:3000000<m) {z e:Int}:g32 m (mkD z e).1 (mkD z e).2.1 (mkD z e).2.2.1 (mkD z e).2.2.2.1=some ((Qv (mkD z e) 0,exB z e,()),(),()):=by
 have hU:=q0q (d:=mkD z e) (mode:=0);rw[g32,q98 hm,bS];dsimp only;rw[Of_eq hm hU,bS];dsimp only;unfold exB ofD;generalize Qv (mkD z e) 0=f at*;by_cases hf:FinF f
 . rw[iP hf];have e1:mkD (ofZ f) (ofE f)=mkD (sc (ofZ f) (ofE f) (min (ofE f) e)) (min (ofE f) e):=(q80 O).symm;have e2:mkD z e=mkD (sc z e (min (ofE f) e)) (min (ofE f) e):=(q80 O).symm;have o2:OkD z e↔OkD (sc z e (min (ofE f) e)) (min (ofE f) e):=by unfold OkD;rw[<-e2]
   have o1:OkD (sc (ofZ f) (ofE f) (min (ofE f) e)) (min (ofE f) e):=by have:=qb3 hf;unfold OkD at*;rwa [<-e1]
   rw[e1,e2,qj7 hm];by_cases hz:OkD z e
   . have h2:=o2.1 hz;rw[iP ⟨o1,h2⟩];simp only[bS,cond_true]
     have:(cmpZ (sc (ofZ f) (ofE f) (min (ofE f) e)) (sc z e (min (ofE f) e))==0)=decide (FinF f/\OkD z e/\sc (ofZ f) (ofE f) (min (ofE f) e)=sc z e (min (ofE f) e)):=by
      by_cases c:sc (ofZ f) (ofE f) (min (ofE f) e)=sc z e (min (ofE f) e)
      . rw[qbg.2 c,decide_eq_true ⟨hf,hz,c⟩];rfl
      . rw[decide_eq_false (fun h=>c h.2.2)]
        have:=mt qbg.1 c;simpa using this
     rw[this]
   . rw[iN' (fun h=>hz (o2.2 h.2)),decide_eq_false (fun h=>hz h.2.1)]
     rfl
 . rw[iN' hf,decide_eq_false (fun h=>hf h.1)]
   have b0:((true,false,[],0,()):Bool×Bool×LI×Int×Unit)=mkD 1 100000:=by
    rw[q27];rw[Xy];rintro (h|⟨h,_⟩)
    . omega
    . omega
   have hn: ¬OkD 1 100000:=by rw[Xy];rintro (h|⟨h,_⟩)<;>omega
   have e0:mkD 1 100000=mkD (sc 1 100000 (min 100000 e)) (min 100000 e):=(q80 O).symm;have e2:mkD z e=mkD (sc z e (min 100000 e)) (min 100000 e):=(q80 O).symm;have n2: ¬OkD (sc 1 100000 (min 100000 e)) (min 100000 e):=by unfold OkD at*;rwa [<-e0]
   rw[b0,e0,e2,qj7 hm,iN' (fun h=>n2 h.1)]
   rfl
theorem qdh {m:Nat} (hm:3000000<m) {z e:Int}: ∃c ok,(g34 m (Qv (mkD z e) 0)=some (ofD (Qv (mkD z e) 0),(),()))/\
 g53 m (ofD (Qv (mkD z e) 0)).1 (ofD (Qv (mkD z e) 0)).2.1 (ofD (Qv (mkD z e) 0)).2.2.1 (ofD (Qv (mkD z e) 0)).2.2.2.1 (mkD z e).1 (mkD z e).2.1 (mkD z e).2.2.1 (mkD z e).2.2.2.1=some ((c,ok,()),(),(),())/\
 (exB z e=true↔ok=true/\c=0):=by
 have hU:=q0q (d:=mkD z e) (mode:=0);have h:=qq5 (z:=z) (e:=e) hm;rw[g32,q98 hm,bS]at h;dsimp only at h;have hO:=Of_eq hm hU;rw[hO,bS]at h;dsimp only at h;cases hc:g53 m (ofD (Qv (mkD z e) 0)).1 (ofD (Qv (mkD z e) 0)).2.1 (ofD (Qv (mkD z e) 0)).2.2.1 (ofD (Qv (mkD z e) 0)).2.2.2.1 (mkD z e).1 (mkD z e).2.1 (mkD z e).2.2.1 (mkD z e).2.2.2.1 with
 |none=>rw[hc]at h;cases h
 |some r=>
  rw[hc,bS]at h;obtain⟨⟨c,ok,u⟩,u1,u2,u3⟩:=r;refine⟨c,ok,hO,rfl,?_⟩;cases ok with
  |false=>
   simp only[cond_false,Option.some.injEq,Prod.mk.injEq]at h;rw[<-h.1.2.1];simp
  |true=>
   simp only[cond_true,Option.some.injEq,Prod.mk.injEq]at h;rw[<-h.1.2.1];simp
theorem qh7 {a b:Int} (h: -1100<=a+b):Qd (wI (0-sumT a b))=Qd (-(a+b)):=by
 unfold sumT;split
 . rw[wQ,wi O O];unfold Qd;omega
 . split
   . omega
   . rw[wQ,wi O O];unfold Qd;omega
theorem chk1 {v:Int} (h:finB v=true):chk ((1:Nat):Int) ((1:Nat):Int) [0,1] [0] [v]=0:=by
 have e:finL [v]=true:=by
  unfold finL;refine Qe.2 fun i _ hi=> ?_
  have:i=0:=by simpa using hi
  subst this;exact h
 unfold chk;rw[e];rfl
theorem qo3 {m:Nat} (hm:3000000<m) {v n:Int} (hv:GoodV v) (hz:ofZ v≠0) (hn:I64 n):
 ∃x,g60 m 1 1 [0,1] [0] [v] [n] [0]=some (x,(),(),(),())/\((∃w,scV v n=some w/\x=((1,1,[0,1],[0],[w],()),0,()))\/(scV v n=none/\x=((0,0,[],[],[],()),3,()))):=by
 have hfb:finB v=true:=by rw[q5c hv.u];exact decide_eq_true hv.f
 have hc:=chk1 hfb;obtain⟨r,c,er,ec,hM,hvl,hfin⟩:=qg9 hc;have hr:r=1:=O;have hcc:c=1:=O;subst hr;subst hcc;have hents:ents [0,1] [0] [v] 1 0=[((0,(0,v)):Ent)]:=rfl;have hk:kindN v≠0:=fun h=>hz (q29.2 (q4t.1 h))
 have e1:=q8a (m:=m) O hM hvl hc;rw[hents]at e1;have e2:=Xm (m:=m) (R:=((1:Nat):Int)) (C:=((1:Nat):Int)) (S:=[0,1]) (I:=[0]) (V:=[v]) (by simp;omega) O (by simp)
 rw[hc]at e2;have e2':g45 m 1 1 [0,1] [0] [v]=some (0,(),()):=e2;have e1':g54 m 1 1 [0,1] [0] [v]=some ([((0,(0,v)):Ent)],(),()):=e1;rw[g60,e2',e1'];simp only[bS,bif_ne,if_true,List.length_singleton,Int.natCast_one];obtain⟨m',rfl⟩: ∃m',m=m'+2:=⟨m-2,O⟩;have hD:=qb3 hv.f;have hof:ofD v=mkD (ofZ v) (ofE v):=iP hv.f
 have step: ∀(v':Int),g60L0 (m'+2) (m'+1) [n] [0] 1 1 [0,1] [0] [v] 0 0 [] [] [] [((0,(0,v')):Ent)] 1=some (.inr (.inl ((1,1,[0,1],[0],[v],()),(0,0,[],[],[],()),[((0,(0,v')):Ent)],()))):=fun v'=>by
  rw[g60L0];rfl
 have hkk:=(qeh (m:=m'+2) hv.u).2;have b0:blen (0:Int).natAbs<=1000:=by decide
 have bn:blen n.natAbs<=1000:=Nat.le_trans (X6 (k:=64) (by unfold I64 at hn;omega)) O
 have f1:=X4 (m:=m'+2) O hn.1 hn.2;have f2:=X4 (m:=m'+2) (n:=0) O O O;have f3:=q6r (m:=m'+2) O (SzB (z:=n) O) (n1:=(zB n).1) (SzB (z:=0) O) (n2:=(zB 0).1);rw[zv_zB,zv_zB,Int.add_zero]at f3;have f4:=qd8 (m:=m'+2) O (neg:=(zB n).1) (SzB (z:=n) O);rw[zv_zB]at f4;have hfit:fitI n=(n,true,()):=by unfold fitI;exact iP hn
 rw[hfit]at f4
 have efar:g112 (m'+2) n=some (farN n,(),()):=by
  rw[g112]
  have:(if(if n<100000 then n else 100000)>(-100000)then(if n<100000 then n else 100000)else(-100000))=farN n:=by
   unfold farN;repeat' split
   all_goals omega
  rw[this]
 obtain⟨g1,g2⟩:=qly (n:=n) hv.f hz;have f5:=qhq (m:=m'+2) O hv.u;rw[hof]at f5;have f6:=qhk (m:=m'+2) O (a:=ofZ v) (B:=ofE v) (n:=farN n);rw[iP hD]at f6;have f7:=(q7h (m:=m'+2) O (z:=ofZ v) (e:=ofE v+Qd (farN n))).2;rw[<-g1,<-g2]at f7;rw[<-g1]at f6;have hgd:([((0,(0,v)):Ent)]:List Ent).getD (0:Int).toNat (0,(0,0))=(0,(0,v)):=rfl
 rw[show g60L0 (m'+2) (m'+2) [n] [0] 1 1 [0,1] [0] [v] 0 0 [] [] [] [((0,(0,v)):Ent)] 0=(if exB (ofZ v) (ofE v+Qd n)=true then g60L0 (m'+2) (m'+1) [n] [0] 1 1 [0,1] [0] [v] 0 0 [] [] [] [((0,(0,Qv (mkD (ofZ v) (ofE v+Qd n)) 0)):Ent)] 1 else some (.inl ((0,0,[],[],[],()),3,())))from by
  rw[g60L0];have z0:(0:Int).toNat=0:=rfl;have l1:(([((0,(0,v)):Ent)]:List Ent).length:Int)=1:=rfl;have l2:(([n]:LI).length:Int)=1:=rfl;have l3:(([0]:LI).length:Int)=1:=rfl;have q1:(0:Int)<=0/\(0:Int)<1:=by decide
  have gd: ∀(x:Ent),([x]:List Ent).getD (0+0) (0,(0,0))=x:=fun _=>rfl
  have gi: ∀(x:Int),([x]:LI).getD 0 0=x:=fun _=>rfl
  simp only[bQ,l1,l2,l3,q1,z0,gd,gi,if_true,and_self,Int.zero_lt_one,hkk,bS,bif_eq,hk,if_false,f1,f2,f3,f4,f5,efar,f6,f7,Bool.not_true,cond_false];by_cases hx:exB (ofZ v) (ofE v+Qd n)=true
  . rw[iP hx,hx];rfl
  . rw[iN' hx,Bool.not_eq_true _|>.mp hx]
    rfl]
 unfold scV;rw[iN' hz];by_cases hx:exB (ofZ v) (ofE v+Qd n)=true
 . simp only[hx,if_true,step,bS];have hfw:=qii hx;generalize Qv (mkD (ofZ v) (ofE v+Qd n)) 0=w at*
   have hE:EntsOK 1 1 [((0,(0,w)):Ent)]:=qgt fun e he=>by
    rw[List.mem_singleton]at he;subst he;exact⟨⟨Int.le_refl 0,(show(0:Int)<1 by decide)⟩,⟨Int.le_refl 0,(show(0:Int)<1 by decide)⟩,hfw⟩
   have hp:=qi3 (m:=m'+2) hE O O (by simp) O
   have hp':g28 (m'+2) 1 1 [((0,(0,w)):Ent)]=some ((1,1,[0,1],[0],[w],()),(),(),(),()):=hp;rw[hp'];exact⟨_,rfl,.inl ⟨w,rfl,rfl⟩⟩
 . simp only[hx,if_false,bS];exact⟨_,rfl,.inr ⟨rfl,rfl⟩⟩
end Go.Vs.F
set_option maxRecDepth 100000
namespace Go.Vs.F
variable {N:Nat} {S I V:LI}
def nnE (U W:LI) (i j:Int):Int:= -(U.getD i.toNat 0+W.getD j.toNat 0)
def gE (U W:LI) (e:Ent):Option Int:=scV e.2.2 (nnE U W e.1 e.2.1)
def GE (U W:LI) (e:Ent):Ent:=(e.1,(e.2.1,(gE U W e).getD e.2.2))
def SOK (N:Nat) (U W:LI) (e:Ent):Prop:=GoodV e.2.2/\(0<=e.1/\e.1<(N:Int))/\(0<=e.2.1/\e.2.1<(N:Int))/\(ofZ e.2.2≠0-> -1100<=U.getD e.1.toNat 0+W.getD e.2.1.toNat 0)
theorem qnb {U W:LI} {e:Ent} (h:ofZ e.2.2=0):gE U W e=some e.2.2/\GE U W e=e:=by
 have:gE U W e=some e.2.2:=by unfold gE scV;rw[iP h]
 exact⟨this,by unfold GE;rw[this];rfl⟩
theorem qm5 {m:Nat} (hm:3000000<m) {R U W:LI} (hT:TL N R U W) (a0 a1:Int) (a2 a3 a4:LI) {es:List Ent} (hl:es.length<=100000) (hs: ∀e∈es,SOK N U W e): ∀(n k:Nat),es.length-k<n->k<=es.length->
 (g20L0 m n a0 a1 a2 a3 a4 R U W 0 0 [] [] [] ((es.take k).map (GE U W)++es.drop k) (k:Int)=some (.inr (.inl ((a0,a1,a2,a3,a4,()),(0,0,[],[],[],()),es.map (GE U W),())))/\ ∀e∈es.drop k,gE U W e≠none)\/
 (g20L0 m n a0 a1 a2 a3 a4 R U W 0 0 [] [] [] ((es.take k).map (GE U W)++es.drop k) (k:Int)=some (.inl ((0,0,[],[],[],()),3,()))/\ ∃e∈es,gE U W e=none)
 |0,k,h,_=>O
 |n+1,k,h,hk0=>by
  obtain⟨h1,h2,h3,h4,h5⟩:=hT;have ih:=qm5 hm ⟨h1,h2,h3,h4,h5⟩ a0 a1 a2 a3 a4 hl hs n (k+1)
  have hlen:((es.take k).map (GE U W)++es.drop k).length=es.length:=by
   rw[List.length_append,List.length_map,List.length_take,List.length_drop];omega
  rw[g20L0,hlen,bQ];by_cases hk:k<es.length
  . obtain⟨x,hx⟩: ∃x,es.getD k zE=x:=⟨_,rfl⟩;have hmem:x∈es:=by rw[<-hx];exact qap hk
    have hdrop:es.drop k=x::es.drop (k+1):=by rw[drop_cons (d:=zE) hk,hx]
    have htake:(es.take (k+1)).map (GE U W)=(es.take k).map (GE U W)++[GE U W x]:=by
     rw[q0x hk,hx,List.map_append];rfl
    have hA:((es.take k).map (GE U W)).length=k:=by rw[List.length_map,List.length_take];omega
    rw[htake,List.append_assoc,List.singleton_append]at ih;rw[hdrop];generalize hAe:(es.take k).map (GE U W)=A at*;generalize hDe:es.drop (k+1)=D at*;have hget:(A++x::D).getD k (0,(0,0))=x:=by rw[<-hA];simp[List.getD]
    have hset: ∀y,(A++x::D).set k y=A++y::D:=fun y=>by rw[<-hA];simp
    obtain⟨g,r1,r2,r3⟩:=hs x hmem;have c1:(0:Int)<=(k:Int)/\(k:Int)<(es.length:Int):=O;have hlen':((A++x::D).length:Int)=(es.length:Int):=by rw[<-hdrop,hlen]
    have c2:(0:Int)<=x.1/\x.1<(U.length:Int):=O;have c3:(0:Int)<=x.2.1/\x.2.1<(W.length:Int):=O;rw[iP O];simp only[hlen',c1,c2,c3,and_self,if_true,tN,Nat.zero_add,hget,(qeh (m:=m) g.u).2,bS,bif_eq,wQ,wsucc (show k<4611686018427387904 by omega),hset]
    have next:gE U W x≠none-> ∀y,y=GE U W x->(g20L0 m n a0 a1 a2 a3 a4 R U W 0 0 [] [] [] (A++y::D) ((k+1:Nat):Int)=some (.inr (.inl ((a0,a1,a2,a3,a4,()),(0,0,[],[],[],()),es.map (GE U W),())))/\ ∀e∈x::D,gE U W e≠none)\/
     (g20L0 m n a0 a1 a2 a3 a4 R U W 0 0 [] [] [] (A++y::D) ((k+1:Nat):Int)=some (.inl ((0,0,[],[],[],()),3,()))/\ ∃e∈es,gE U W e=none):=fun hg y hy=>by
     subst hy;rcases ih O O with⟨e,q⟩|q
     . exact .inl ⟨e,fun z hz=>by
        rcases mC hz with rfl|hz
        . exact hg
        . exact q z hz⟩
     . exact .inr q
    by_cases hz:kindN x.2.2=0
    . rw[iP hz];obtain⟨z1,z2⟩:=qnb (U:=U) (W:=W) (q29.2 (q4t.1 hz));exact next (by rw[z1];simp) x z2.symm
    . rw[iN' hz];have hzn:ofZ x.2.2≠0:=fun h=>hz (q4t.2 (q29.1 h))
      have hsum:=r3 hzn;have hu:=Ze h4 x.1.toNat;have hv:=Ze h5 x.2.1.toNat;obtain⟨a,ha⟩: ∃a,U.getD x.1.toNat 0=a:=⟨_,rfl⟩;obtain⟨b,hb⟩: ∃b,W.getD x.2.1.toNat 0=b:=⟨_,rfl⟩;have hnn:nnE U W x.1 x.2.1= -(a+b):=by unfold nnE;rw[ha,hb]
      rw[ha]at hu hsum;rw[hb]at hv hsum;unfold I64 at hu hv;have e1:=X4 (m:=m) O hu.1 hu.2;have e2:=X4 (m:=m) O hv.1 hv.2;have e4:=q6r (m:=m) O (SzI (z:=a) O) (n1:=(zB a).1) (SzI (z:=b) O) (n2:=(zB b).1);rw[zv_zB,zv_zB]at e4;have e5:=qja (m:=m) O (SzI (z:=a+b) O) (neg:=(zB (a+b)).1);rw[zv_zB]at e5;have e6:=qd8 (m:=m) O (SzI (z:= -(a+b)) O) (neg:=(zB (-(a+b))).1);rw[zv_zB]at e6;simp only[ha,hb,e1,e2,e4,e5,e6,bS];unfold fitI;by_cases fit: -9223372036854775808<= -(a+b)/\ -(a+b)<9223372036854775808
      . rw[iP fit];simp only[Bool.not_true,cond_false];obtain⟨y,e7,q7⟩:=qo3 hm g hzn (n:= -(a+b)) fit;rw[e7];rcases q7 with⟨w,w1,w2⟩|⟨w1,w2⟩
        . subst w2;have hgx:gE U W x=some w:=by unfold gE;rw[hnn];exact w1
          simp only[bS,bif_ne,if_true];have c5:(0:Int)<=0/\(0:Int)<(([w]:LI).length:Int):=by simp
          have c6:([w]:LI).getD (0+0) 0=w:=rfl;simp only[c5,and_self,if_true,Nat.add_zero];refine next (by rw[hgx];simp) _ ?_
          unfold GE;rw[hgx];rfl
        . subst w2;have hgx:gE U W x=none:=by unfold gE;rw[hnn];exact w1
          simp only[bS,bif_ne];exact .inr ⟨by first|trivial|rfl,x,hmem,hgx⟩
      . rw[iN' fit];simp only[Bool.not_false,cond_true];refine .inr ⟨by first|trivial|rfl,x,hmem,?_⟩
        unfold gE scV;have hbad:=qdq (f:=x.2.2) (n:=Qd (-(a+b))) g.f hzn (by unfold Qd;omega)
        rw[hnn,iN' hzn,qez hbad];rfl
  . rw[iN' O];have hk2:k=es.length:=O;subst hk2;rw[List.take_length,List.drop_length,List.append_nil];exact .inl ⟨rfl,fun e he=>by cases he⟩
theorem qmj {m:Nat} (hm:3000000<m) (hM:MG N S I V) {R U W:LI} (hT:TL N R U W) (hs: ∀e∈ents S I V N 0,SOK N U W e) (b0 b1:Int) (b2 b3 b4:LI) (R0 C0:Int) (x34 x35:Int) {j:Nat} (hj:j<N):
 ∀(n t:Nat) (Vc:LI),(S.getD (j+1) 0).toNat-t<n->(S.getD j 0).toNat<=t->Vc.length=V.length->(∀s,t<=s->Vc.getD s 0=V.getD s 0)->
 (∃V',g19L1 m n R U W b0 b1 b2 b3 b4 R0 C0 S I Vc (j:Int) (t:Int) x34 x35=some (.inr (.inl ((R,U,W,()),(b0,b1,b2,b3,b4,()),(R0,C0,S,I,V',()),x34,x35,())))/\V'.length=V.length/\
   (∀s,t<=s->s<(S.getD (j+1) 0).toNat->scV (V.getD s 0) (nnE U W (I.getD s 0) (j:Int))=some (V'.getD s 0))/\ ∀s,(s<t\/(S.getD (j+1) 0).toNat<=s)->V'.getD s 0=Vc.getD s 0)\/
 (g19L1 m n R U W b0 b1 b2 b3 b4 R0 C0 S I Vc (j:Int) (t:Int) x34 x35=some (.inl ((0,0,[],[],[],()),3,()))/\ ∃e∈ents S I V N 0,gE U W e=none)
 |0,t,Vc,h,_,_,_=>O
 |n+1,t,Vc,h,ht,hvc,hvs=>by
  have hl:=hM.ok.st.len;have hsz:=hM.ok.cz;have a1:=hM.ok.st.rng (j:=j+1) O;have hvl:=hM.vl;have hil:=hM.il;have hT0:=hT;obtain⟨h1,h2,h3,h4,h5⟩:=hT0;have c0:(0:Int)<=((j+1:Nat):Int)/\((j+1:Nat):Int)<(S.length:Int):=O;rw[g19L1];simp only[wQ,wsucc (show j<4611686018427387904 by omega),c0,and_self,if_true,bQ,tN,Nat.zero_add]
  by_cases hk:t<(S.getD (j+1) 0).toNat
  . have c1:(t:Int)<S.getD (j+1) 0:=O;have c2:(0:Int)<=(t:Int)/\(t:Int)<(Vc.length:Int):=O;have c3:(0:Int)<=(t:Int)/\(t:Int)<(I.length:Int):=O;have hmem:((I.getD t 0,((j:Int),V.getD t 0)):Ent)∈ents S I V N 0:=Qw.2 ⟨j,t,Nat.zero_le _,O,ht,hk,rfl⟩;obtain⟨g,r1,r2,r3⟩:=hs _ hmem;simp only at g r1 r2 r3;have hv0:=hvs t (Nat.le_refl _);have hof:ofD (V.getD t 0)=mkD (ofZ (V.getD t 0)) (ofE (V.getD t 0)):=iP g.f;have hD:=qb3 g.f;simp only[c1,c2,c3,and_self,if_true,hv0,Of_eq hm g.u,bS,hof,qg1 hm hD,bif_eq,Qs,wsucc (show t<4611686018427387904 by omega)]
    have next: ∀(w:Int),scV (V.getD t 0) (nnE U W (I.getD t 0) (j:Int))=some w-> ∀Vc2:LI,Vc2.length=V.length->Vc2.getD t 0=w->(∀s,s≠t->Vc2.getD s 0=Vc.getD s 0)->
     (∃V',g19L1 m n R U W b0 b1 b2 b3 b4 R0 C0 S I Vc2 (j:Int) ((t+1:Nat):Int) x34 x35=some (.inr (.inl ((R,U,W,()),(b0,b1,b2,b3,b4,()),(R0,C0,S,I,V',()),x34,x35,())))/\V'.length=V.length/\
       (∀s,t<=s->s<(S.getD (j+1) 0).toNat->scV (V.getD s 0) (nnE U W (I.getD s 0) (j:Int))=some (V'.getD s 0))/\ ∀s,(s<t\/(S.getD (j+1) 0).toNat<=s)->V'.getD s 0=Vc.getD s 0)\/
     (g19L1 m n R U W b0 b1 b2 b3 b4 R0 C0 S I Vc2 (j:Int) ((t+1:Nat):Int) x34 x35=some (.inl ((0,0,[],[],[],()),3,()))/\ ∃e∈ents S I V N 0,gE U W e=none):=fun w hw Vc2 q1 q2 q3=>by
     rcases qmj hm hM hT hs b0 b1 b2 b3 b4 R0 C0 x34 x35 hj n (t+1) Vc2 O O q1 (fun s hs=>by rw[q3 s O,hvs s O])with⟨V',e,p1,p2,p3⟩|q
     . refine .inl ⟨V',e,p1,fun s s1 s2=> ?_,fun s hs=> ?_⟩
       . by_cases es:s=t
         . subst es;rw[hw,p3 s O,q2]
         . exact p2 s O s2
       . rw[p3 s O,q3 s O]
     . exact .inr q
    by_cases hz:ofZ (V.getD t 0)=0
    . rw[iP hz];exact next (V.getD t 0) (by unfold scV;rw[iP hz]) Vc hvc hv0 (fun _ _=>rfl)
    . rw[iN' hz];have c4:(0:Int)<=I.getD t 0/\I.getD t 0<(U.length:Int):=O;have c5:(0:Int)<=(j:Int)/\(j:Int)<(W.length:Int):=O;have hsum:=r3 hz;rw[tN]at hsum;have hcl:=qh7 hsum;have hnn:nnE U W (I.getD t 0) (j:Int)= -(U.getD (I.getD t 0).toNat 0+W.getD j 0):=by unfold nnE;rw[tN]
      simp only[c4,c5,and_self,if_true,qki (Ze h4 _) (Ze h5 _),bS];have hDS:=qiu (m:=m) hm (a:=ofZ (V.getD t 0)) (B:=ofE (V.getD t 0)) (n:=wI (0-sumT (U.getD (I.getD t 0).toNat 0) (W.getD j 0)));rw[iP hD,hcl,<-hnn,wQ]at hDS;rw[hDS];simp only[bS];rw[q98 hm];simp only[bS];obtain⟨c,ok,x1,x2,x3⟩:=qdh (m:=m) hm (z:=ofZ (V.getD t 0)) (e:=ofE (V.getD t 0)+Qd (nnE U W (I.getD t 0) (j:Int)));rw[x1];simp only[bS];rw[x2];simp only[bS]
      have hsc:scV (V.getD t 0) (nnE U W (I.getD t 0) (j:Int))=if exB (ofZ (V.getD t 0)) (ofE (V.getD t 0)+Qd (nnE U W (I.getD t 0) (j:Int)))=true then some (Qv (mkD (ofZ (V.getD t 0)) (ofE (V.getD t 0)+Qd (nnE U W (I.getD t 0) (j:Int)))) 0)else none:=by
       unfold scV;rw[iN' hz]
      cases ok with
      |false=>
       simp only[Bool.not_false,cond_true];exact .inr ⟨by first|trivial|rfl,_,hmem,by unfold gE;rw[hsc,iN' (fun q=>by have:=(x3.1 q).1;cases this)]⟩
      |true=>
       simp only[Bool.not_true,cond_false,bif_ne];by_cases hc:c=0
       . rw[iP hc];rw[iP (x3.2 ⟨rfl,hc⟩)]at hsc;exact next _ hsc _ (by simp[hvc]) (qp O) (fun s hs=>getD_set_ne (Ne.symm hs))
       . rw[iN' hc];exact .inr ⟨by first|trivial|rfl,_,hmem,by unfold gE;rw[hsc,iN' (fun q=>hc (x3.1 q).2)]⟩
  . have c1: ¬((t:Int)<S.getD (j+1) 0):=O;simp only[c1,if_false];exact .inl ⟨Vc,rfl,hvc,fun s s1 s2=>O,fun s _=>rfl⟩
theorem qm1 (hM:MG N S I V) {a:Nat}: ∀(d:Nat),a+d<=N->S.getD a 0<=S.getD (a+d) 0
 |0,_=>Int.le_refl _
 |d+1,h=>by
  have:=qm1 hM (a:=a) d O;have:=hM.ok.st.mono (a+d) O;rw[show a+(d+1)=a+d+1 by omega]
  omega
theorem qmi {m:Nat} (hm:3000000<m) (hM:MG N S I V) {R U W:LI} (hT:TL N R U W) (hs: ∀e∈ents S I V N 0,SOK N U W e) (b0 b1:Int) (b2 b3 b4:LI) (R0:Int):
 ∀(n j:Nat) (Vc:LI),N-j<n->j<=N->Vc.length=V.length->(∀s,(S.getD j 0).toNat<=s->Vc.getD s 0=V.getD s 0)->
 (∀j',j'<j-> ∀s,(S.getD j' 0).toNat<=s->s<(S.getD (j'+1) 0).toNat->scV (V.getD s 0) (nnE U W (I.getD s 0) (j':Int))=some (Vc.getD s 0))->
 (∃V',g19L0 m n R U W b0 b1 b2 b3 b4 R0 (N:Int) S I Vc (N:Int) (j:Int)=some (.inr (.inl ((b0,b1,b2,b3,b4,()),(R0,(N:Int),S,I,V',()),())))/\V'.length=V.length/\
   ∀j',j'<N-> ∀s,(S.getD j' 0).toNat<=s->s<(S.getD (j'+1) 0).toNat->scV (V.getD s 0) (nnE U W (I.getD s 0) (j':Int))=some (V'.getD s 0))\/
 (g19L0 m n R U W b0 b1 b2 b3 b4 R0 (N:Int) S I Vc (N:Int) (j:Int)=some (.inl ((0,0,[],[],[],()),3,()))/\ ∃e∈ents S I V N 0,gE U W e=none)
 |0,j,Vc,h,_,_,_,_=>O
 |n+1,j,Vc,h,hj0,hvc,hvs,hd=>by
  have hl:=hM.ok.st.len;have hsz:=hM.ok.cz;have hil:=hM.il;rw[g19L0,bQ];by_cases hj:j<N
  . have a0:=hM.ok.st.rng (j:=j) O;have a1:=hM.ok.st.rng (j:=j+1) O;have mo:=hM.ok.st.mono j hj;have c1:(0:Int)<=(j:Int)/\(j:Int)<(S.length:Int):=O;rw[iP O,iP c1];simp only[tN,Nat.zero_add,wQ,wsucc (show j<4611686018427387904 by omega)]
    have hst:S.getD j 0=((S.getD j 0).toNat:Int):=(Int.toNat_of_nonneg a0.1).symm;rcases qmj hm hM hT hs b0 b1 b2 b3 b4 R0 (N:Int) (N:Int) (j:Int) hj m (S.getD j 0).toNat Vc O (Nat.le_refl _) hvc (fun s hs=>hvs s hs)with⟨V',e,p1,p2,p3⟩|⟨e,q⟩
    . rw[<-hst]at e;simp only[e,bS,wsucc (show j<4611686018427387904 by omega)]
      refine qmi hm hM hT hs b0 b1 b2 b3 b4 R0 n (j+1) V' O O p1 (fun s hs=>by rw[p3 s (.inr hs)];exact hvs s O) fun j' hj' s s1 s2=> ?_
      by_cases ej:j'=j
      . subst ej;exact p2 s s1 s2
      . have:=qm1 hM (a:=j'+1) (j-(j'+1)) O;rw[show j'+1+(j-(j'+1))=j by omega]at this
        rw[p3 s (.inl O)];exact hd j' O s s1 s2
    . rw[<-hst]at e;simp only[e,bS];exact .inr ⟨by first|trivial|rfl,q⟩
  . rw[iN' O];exact .inl ⟨Vc,rfl,hvc,fun j' hj'=>hd j' O⟩
theorem q5f {U W V':LI} (h: ∀j',j'<N-> ∀s,(S.getD j' 0).toNat<=s->s<(S.getD (j'+1) 0).toNat->scV (V.getD s 0) (nnE U W (I.getD s 0) (j':Int))=some (V'.getD s 0)):
 ∀(d k:Nat),k+d=N->ents S I V' d k=(ents S I V d k).map (GE U W)
 |0,k,_=>rfl
 |d+1,k,hk=>by
  rw[ents,ents,List.map_append,q5f h d (k+1) O];congr 1;unfold Qy;rw[List.map_map];refine List.map_congr_left fun t ht=> ?_
  rw[List.mem_range'_1]at ht;have:=h k O t O O;simp only[Function.comp,GE,gE];rw[this];rfl
theorem q74 (m:Nat) (hN:N<=1000): ∀(n k:Nat) (l:LI),N-k<n->k<=N->l.length=N->(∀i,i<k->l.getD i 0=(i:Int))->g49L0 m n l (N:Int) (k:Int)=some (.inl (idn N,()))
 |0,k,l,h,_,_,_=>O
 |n+1,k,l,h,hk0,hl,hq=>by
  rw[g49L0,bQ];by_cases hk:k<N
  . have c1:(0:Int)<=(k:Int)/\(k:Int)<(l.length:Int):=O;rw[iP O,iP c1];simp only[tN,Nat.zero_add,wQ,wsucc (show k<4611686018427387904 by omega)]
    refine q74 m hN n (k+1) _ O O (by simp[hl]) fun i hi=> ?_
    rw[Q8 O];split
    . rename_i e;rw[e]
    . exact hq i O
  . rw[iN' O]
    have:l=idn N:=Yl 0 (by rw[hl,qjr]) fun i hi=>by
     rw[hq i O];simp[idn,List.getD,show i<N by omega]
    rw[this]
theorem qe1 {m:Nat} (hm:2000<m) (hN:N<=1000):g49 m (N:Int)=some (idn N,(),()):=by
 rw[g49,q0f m O hN];simp only[bS,List.length_replicate];have:=q74 m hN m 0 (List.replicate N 0) O O (by simp) (fun i h=>absurd h (Nat.not_lt_zero _))
 rw[nZ]at this;rw[this];rfl
theorem qn1 {i:Nat} (h:i<N):(idn N).getD i 0=(i:Int):=by simp[idn,List.getD,h]
theorem qcu {m:Nat} (hm:3000000<m) (hM:MG N S I V):g48 m (N:Int) (N:Int) S I V (idn N) (idn N)=some ((((N:Int),(N:Int),S,I,V,()),0,()),(),(),(),()):=by
 have hN:=hM.ok.cz;have hP:q43 N (idn N):=qo4 (List.Perm.refl _);obtain⟨row,col,r1,r2,_,_,_,e⟩:=qhj hM.ok hM.vl (by rw[hM.ok.st.len];omega) hM.chk hP hP
 have hmap:(ents S I V N 0).map (pmE row col)=ents S I V N 0:=by
  conv=>rhs;rw[<-List.map_id (ents S I V N 0)]
  refine List.map_congr_left fun x hx=> ?_
  obtain⟨j,t,_,h1,h2,h3,rfl⟩:=Qw.1 hx;have hr:=hM.ok.row (j:=j) O h2 h3;have q1:=r1 (I.getD t 0).toNat O;have q2:=r2 j O;rw[qn1 O,tN]at q1 q2;unfold pmE;simp only[tN,q1,q2,id];rw[Int.toNat_of_nonneg hr.1]
 rw[hmap]at e;obtain⟨p1,p2,p3⟩:=qac hM.ok hM.vl hM.mv.ents;rw[p1,p2,p3]at e;exact e m O
theorem qgk {m:Nat} (hm:3000000<m) (hN5:N<=5) (hM:MG N S I V) {E:Edges} (hE:EOK N E) (hq: ∀j,j<N->E.getD j []=edg (ents S I V N 0) j) {R U W:LI} (hu: ∀x∈U,I64 x) (hw: ∀x∈W,I64 x):
 ∃x:MRes,q51 x/\g19 m (N:Int) (N:Int) S I V R U W=some (x,(),(),())/\g20 m (N:Int) (N:Int) S I V R U W=some (x,(),(),())/\
  (TL N R U W->Mtc N E R->q14 N E R U W->(∀e∈ents S I V N 0,gE U W e≠none)-> ∃V',x=(((N:Int),(N:Int),S,I,V',()),0,())/\V'.length=V.length/\
    ∀j',j'<N-> ∀s,(S.getD j' 0).toNat<=s->s<(S.getD (j'+1) 0).toNat->scV (V.getD s 0) (nnE U W (I.getD s 0) (j':Int))=some (V'.getD s 0)):=by
 have hN:=hM.ok.cz;have hil:=hM.il;obtain⟨c,e1,e2,q1,q2⟩:=q7g (m:=m) hm hM hE hq (R:=R) hu hw;rw[g19,g20,e1,e2];simp only[bS,bif_ne];by_cases hc:c=0
 . subst hc;simp only[if_true];obtain⟨hT,hMt,hDu⟩:=q1 rfl
   have hs: ∀e∈ents S I V N 0,SOK N U W e:=fun e he=>by
    obtain⟨g,g1,g2⟩:=q5h hM e he;obtain⟨j,t,_,h1,h2,h3,rfl⟩:=Qw.1 he;have hr:=hM.ok.row (j:=j) O h2 h3;refine⟨g,hr,⟨g1,g2⟩,fun hz=> ?_⟩
    have hmem:=(qkf hM (j:=j) O (x:=(I.getD t 0,(expOf (V.getD t 0)).1))).2 ⟨t,h2,h3,rfl,qo9.2 hz,rfl⟩;rw[<-hq j O]at hmem;have hd:=(hDu j O _ hmem).1;have hlo:=g.lo;simp only at hd hlo⊢;rw[tN];omega
   have hel:=qme hM;rw[qe1 O O];simp only[bS];rw[qcu hm hM,q8a O hM.ok hM.vl hM.chk];simp only[bS];have hr0:=qm5 hm hT (N:Int) (N:Int) S I V (es:=ents S I V N 0) O hs m 0 O (Nat.zero_le _);rw[List.take_zero,List.map_nil,List.nil_append,List.drop_zero,nZ]at hr0;have hp0:=qmi hm hM hT hs 0 0 [] [] [] (N:Int) m 0 V O O rfl (fun _ _=>rfl) (fun j h=>absurd h (Nat.not_lt_zero _))
   rw[nZ]at hp0;rcases hp0 with⟨V',p1,p2,p3⟩|⟨p1,e,he,hn⟩
   . rw[p1]
     have hsome: ∀e∈ents S I V N 0,gE U W e≠none:=fun e he=>by
      obtain⟨j,t,_,h1,h2,h3,rfl⟩:=Qw.1 he;have:=p3 j O t h2 h3;unfold gE;simp only[this];simp
     have hgood: ∀t,t<V'.length->GoodV (V'.getD t 0):=fun t ht=>by
      have hl: ∀(d k:Nat),k+d=N->(S.getD k 0).toNat<=t-> ∃j,j<N/\(S.getD j 0).toNat<=t/\t<(S.getD (j+1) 0).toNat:=by
       intro d;induction d with
       |zero=>
        intro k hk h;have hk:k=N:=O;subst hk;have:=hM.ok.st.last;have:=hM.vl;omega
       |succ d ih=>
        intro k hk h;by_cases c:t<(S.getD (k+1) 0).toNat
        . exact⟨k,O,h,c⟩
        . exact ih (k+1) O O
      obtain⟨j,h1,h2,h3⟩:=hl N 0 O (by rw[hM.ok.st.s0];exact Nat.zero_le _)
      exact qli (hM.good t O) (p3 j h1 t h2 h3)
     have hfin:finL V'=true:=by
      unfold finL;refine Qe.2 fun i _ hi=> ?_
      have g:=hgood i O;rw[q5c g.u];exact decide_eq_true g.f
     have hents:=q5f p3 N 0 O;have hvl':V'.length=I.length:=by rw[p2,hM.vl]
     have hE':EntsOK N N (ents S I V' N 0):=qeb hM.ok hvl' hfin;obtain⟨k1,k2,k3⟩:=qac hM.ok hvl' hE';rcases hr0 with⟨r1,_⟩|⟨_,e,he,hn⟩
     . rw[r1,<-hents];simp only[bS]
       have hle:(ents S I V' N 0).length<=1000000:=by
        rw[hents,List.length_map];omega
       rw[qi3 hE' O O hle O,k1,k2,k3];refine⟨_,?_,rfl,rfl,fun _ _ _ _=>⟨V',rfl,p2,p3⟩⟩
       have:=hM.ok.st.len;have:=hM.vl;exact⟨by show S.length<=_;omega,by show I.length<=_;omega,by show V'.length<=_;omega⟩
     . exact absurd hn (hsome e he)
   . rw[p1];rcases hr0 with⟨_,r2⟩|⟨r1,_⟩
     . exact absurd hn (r2 e he)
     . rw[r1];exact⟨_,by simp[q51],rfl,rfl,fun _ _ _ d=>absurd hn (d e he)⟩
 . simp only[hc,if_false];exact⟨_,by simp[q51],rfl,rfl,fun h1 h2 h3 _=>absurd (q2 h1 h2 h3) hc⟩
end Go.Vs.F
set_option maxRecDepth 100000
namespace Go.Vs.F
theorem q6v (m:Nat) (a:LI) (hb:a.length<=1000000000): ∀(n k:Nat),k<=a.length->a.length-k<n->g42L0 m n a (a.take k) (k:Int)=some (.inl (a,()))
 |0,k,_,h=>O
 |n+1,k,hk0,h=>by
  rw[g42L0];by_cases hk:k<a.length
  . have h1:((k:Int)<(a.length:Int)):=O;have h2:(a.take k).length+1<=1073741824:=by rw[List.length_take];omega
    simp only[bQ,h1,if_true,tN,Int.natCast_nonneg,and_self,wsucc (show k<4611686018427387904 by omega),List.length_singleton,h2]
    rw[<-take_snoc hk rfl,q6v m a hb n (k+1) hk O]
  . have h1: ¬((k:Int)<(a.length:Int)):=O;simp only[bQ,h1,if_false];rw[List.take_of_length_le O]
theorem q5n {m:Nat} {a:LI} (h:a.length<m) (hb:a.length<=1000000000):g42 m a=some (a,(),()):=by
 rw[g42];have:=q6v m a hb m 0 O O;simp only[Int.cast_ofNat_Int,List.take_zero,nZ,Int.ofNat_zero]at this;rw[this];rfl
theorem q25 (m:Nat) (a:LI) (hb:a.length<=1000000000): ∀(n k:Nat),k<=a.length->a.length-k<n->g43L0 m n a (a.take k) (k:Int)=some (.inl (a,()))
 |0,k,_,h=>O
 |n+1,k,hk0,h=>by
  rw[g43L0];by_cases hk:k<a.length
  . have h1:((k:Int)<(a.length:Int)):=O;have h2:(a.take k).length+1<=1073741824:=by rw[List.length_take];omega
    simp only[bQ,h1,if_true,tN,Int.natCast_nonneg,and_self,wsucc (show k<4611686018427387904 by omega),List.length_singleton,h2]
    rw[<-take_snoc hk rfl,q25 m a hb n (k+1) hk O]
  . have h1: ¬((k:Int)<(a.length:Int)):=O;simp only[bQ,h1,if_false];rw[List.take_of_length_le O]
theorem q92 {m:Nat} {a:LI} (h:a.length<m) (hb:a.length<=1000000000):g43 m a=some (a,(),()):=by
 rw[g43];have:=q25 m a hb m 0 O O;simp only[Int.cast_ofNat_Int,List.take_zero,nZ,Int.ofNat_zero]at this;rw[this];rfl
theorem qa8 {m:Nat} {a b:Int} {S I V:LI} (h1:S.length<m) (h2:I.length<m) (h3:V.length<m) (h4:S.length<=1000000000) (h5:I.length<=1000000000) (h6:V.length<=1000000000):
 g13 m a b S I V=some ((a,b,S,I,V,()),(),()):=by
 rw[g13,q5n h1 h4,q5n h2 h5,q92 h3 h6];rfl
theorem qlu (k:Nat):sparselaw14_awake (k+100)=some (true,()):=by kernel_rfl
theorem qat {m:Nat} (h:100<=m):sparselaw14_awake m=some (true,()):=by
 obtain⟨k,rfl⟩: ∃k,m=k+100:=⟨m-100,O⟩;exact qlu k
theorem qkc {m:Nat} {a b c:LI} (h1:a.length<m) (h2:b.length<m) (h3:c.length<m) (h4:m<4611686018427387904):sparselaw14_same m a b c a b c=some (true,(),(),()):=by
 rw[sparselaw14_same,q08 h1 O,q08 h2 O,q08 h3 O];rfl
theorem qnc (m:Nat) (R C:Int) (S I V:LI): ∃s,sparselaw14_small m R C S I V=some (s,(),())/\(s=true->(I.length<=60/\V.length<=60/\S.length<=20)/\(R<=5\/R>200)):=by
 rw[sparselaw14_small];simp only[bQ];by_cases h1:(I.length:Int)<=60
 . rw[iP h1];by_cases h2:(V.length:Int)<=60
   . rw[iP h2];by_cases h3:(S.length:Int)<=20
     . rw[iP h3];have hl:I.length<=60/\V.length<=60/\S.length<=20:=O;by_cases h4:R<=5
       . rw[iP h4];split<;>exact⟨_,rfl,fun _=>⟨hl,.inl h4⟩⟩
       . rw[iN' h4];by_cases h5:R>200
         . rw[iP h5];split<;>exact⟨_,rfl,fun _=>⟨hl,.inr h5⟩⟩
         . rw[iN' h5];exact⟨_,rfl,fun h=>Bool.noConfusion h⟩
     . rw[iN' h3];exact⟨_,rfl,fun h=>Bool.noConfusion h⟩
   . rw[iN' h2];exact⟨_,rfl,fun h=>Bool.noConfusion h⟩
 . rw[iN' h1];exact⟨_,rfl,fun h=>Bool.noConfusion h⟩
abbrev TRes:=((LI×LI×LI×Unit)×Int×Unit)
def qay (x:TRes):Prop:=x.1.1.length<=100000/\x.1.2.1.length<=100000/\x.1.2.2.1.length<=100000
theorem mk_MG {c:Nat} {S I V:LI} (hM:MatOK c c S I) (hvl:V.length=I.length) (hc:chk (c:Int) (c:Int) S I V=0) (hfin:finL V=true) (hU: ∀x∈V,U64 x) (hil:I.length<=200):MG c S I V:=
 ⟨hM,hvl,hc,fun t ht=>by
   have hu:=hU _ (X8 (d:=(0:Int)) ht);have hf:=Qe.1 hfin t (Nat.zero_le _) ht;rw[q5c hu]at hf;exact⟨hu,of_decide_eq_true hf⟩,hil⟩
theorem qlr {m:Nat} (hm:3000000<m) {N:Nat} {S I V:LI} (hM:MG N S I V): ∃E,EOK N E/\ ∀j,j<N->E.getD j []=edg (ents S I V N 0) j:=by
 obtain⟨E,_,h1,h2⟩:=q8u m hm hM;exact⟨E,h1,h2⟩
theorem q0s (R C:Int) (S I V P U W:LI) (hU: ∀x∈V,U64 x) (hu: ∀x∈U,I64 x) (hw: ∀x∈W,I64 x): ∃m,sparselaw14_TransversalExact m R C S I V P U W=some (true,(),(),()):=by
 refine⟨5000000000,?_⟩;generalize hm0:(5000000000:Nat)=m;have hm:4000000000<m:=O;have hm2:m<4611686018427387904:=O;clear hm0;obtain⟨z,es,hz⟩:=qnc m R C S I V;rw[sparselaw14_TransversalExact,es];simp only[bS];cases z with
 |false=>
  simp only[Bool.not_false,cond_true];rw[qat O];rfl
 |true=>
  obtain⟨⟨l1,l2,l3⟩,hr5⟩:=hz rfl;simp only[Bool.not_true,cond_false,bQ];by_cases g1:(P.length:Int)>20
  . rw[iP g1,qat O];rfl
  rw[iN' g1];by_cases g2:(U.length:Int)>20
  . rw[iP g2,qat O];rfl
  rw[iN' g2];by_cases g3:(W.length:Int)>20
  . rw[iP g3,qat O];rfl
  rw[iN' g3,qa8 O O O O O O];simp only[bS]
  have fin: ∀(x:TRes) (y:MRes) (c:Int),qay x->q51 y->g12 m R C S I V=some (x,(),())->g18 m R C S I V=some (x,(),())->g19 m R C S I V P U W=some (y,(),(),())->g20 m R C S I V P U W=some (y,(),(),())->
   g21 m R C S I V P U W=some (c,(),(),())->g22 m R C S I V P U W=some (c,(),(),())->
   ((g12 m R C S I V).bind fun y7=>
     (g18 m R C S I V).bind fun y8=>
     (g19 m R C S I V P U W).bind fun y9=>
     (g20 m R C S I V P U W).bind fun y10=>
     (sparselaw14_same m y7.1.1.1 y7.1.1.2.1 y7.1.1.2.2.1 y8.1.1.1 y8.1.1.2.1 y8.1.1.2.2.1).bind fun y11=>
     bif y11.1 then
      bif y7.1.2.1==y8.1.2.1 then
       (g21 m R C S I V P U W).bind fun y12=>
       (g22 m R C S I V P U W).bind fun y13=>
       bif y12.1==y13.1 then
        (g23 m y9.1.1.1 y9.1.1.2.1 y9.1.1.2.2.1 y9.1.1.2.2.2.1 y9.1.1.2.2.2.2.1 y10.1.1.1 y10.1.1.2.1 y10.1.1.2.2.1 y10.1.1.2.2.2.1 y10.1.1.2.2.2.2.1).bind fun y14=>
        bif y14.1 then
         bif y9.1.2.1==y10.1.2.1 then
          (g23 m R C S I V R C S I V).bind fun y15=>
          bif y15.1 then
           (sparselaw14_awake m).bind fun y16=>
           some (y16.1,((),(),()))
          else
           some (false,((),(),()))
         else
          some (false,((),(),()))
        else
         some (false,((),(),()))
       else
        some (false,((),(),()))
      else
       some (false,((),(),()))
     else
      some (false,((),(),())))=some (true,(),(),()):=by
   intro x y c hx hy q1 q2 q3 q4 q5 q6;unfold qay at hx;unfold q51 at hy;rw[q1,q2,q3,q4];simp only[bS];rw[qkc O O O hm2];simp only[bS,cond_true,bif_eq,if_true,q5,q6];rw[q73 O O O hm2];simp only[bS,cond_true];rw[q73 O O O hm2];simp only[bS,cond_true];rw[qat O];rfl
  have e1:=g29eq (m:=m) (R:=R) (C:=C) (S:=S) (I:=I) (V:=V) O O O O O;have e2:=Xm (m:=m) (R:=R) (C:=C) (S:=S) (I:=I) (V:=V) O O O;by_cases hk:chk R C S I V=0
  . obtain⟨r,c,rfl,rfl,hM,hvl,hfin⟩:=qg9 hk;by_cases hrc:(r:Int)=(c:Int)
    . have:r=c:=O;subst this;have hr200:=hM.rz;have hN5:r<=5:=O;have hG:=mk_MG hM hvl hk hfin hU O;obtain⟨E,hE,hq⟩:=qlr (m:=m) O hG;obtain⟨y,y1,y2,y3,_⟩:=qgk (m:=m) O hN5 hG hE hq (R:=P) hu hw;obtain⟨cc,c1,c2,_⟩:=q7g (m:=m) O hG hE hq (R:=P) hu hw;rcases qcl hm hN5 hG hE hq with⟨row,U',W',m1,m2,T⟩|⟨m1,m2,_⟩
      . exact fin _ y cc ⟨by show row.length<=_;rw[T.tv.rl];omega,by show U'.length<=_;rw[T.tv.ul];omega,by show W'.length<=_;rw[T.tv.vl];omega⟩ y1 m1 m2 y2 y3 c1 c2
      . exact fin _ y cc (by simp[qay]) y1 m1 m2 y2 y3 c1 c2
    . have hsq:g37 m (r:Int) (c:Int) S I V=some (5,(),()):=by
       rw[g37,e1,hk];simp only[bS,bif_eq,bif_ne,if_true,iN' hrc]
      have h1:g21 m (r:Int) (c:Int) S I V P U W=some (5,(),(),()):=by
       rw[g21,hsq];rfl
      have h2:g22 m (r:Int) (c:Int) S I V P U W=some (5,(),(),()):=by
       rw[g22,e2,hk];simp only[bS,bif_ne,if_true,iN' hrc]
      refine fin (([],[],[],()),5,()) ((0,0,[],[],[],()),5,()) 5 (by simp[qay]) (by simp[q51]) ?_ ?_ ?_ ?_ h1 h2
      . rw[g12,hsq];rfl
      . rw[g18,e2,hk];simp only[bS,bif_ne,if_true,iN' hrc]
      . rw[g19,h1];rfl
      . rw[g20,h2];rfl
  . have hsq:g37 m R C S I V=some (chk R C S I V,(),()):=by
     rw[g37,e1];simp only[bS,bif_eq,iN' hk]
    have h1:g21 m R C S I V P U W=some (chk R C S I V,(),(),()):=by
     rw[g21,hsq,bS,bif_ne,iN' hk]
    have h2:g22 m R C S I V P U W=some (chk R C S I V,(),(),()):=by
     rw[g22,e2,bS,bif_ne,iN' hk]
    refine fin (([],[],[],()),chk R C S I V,()) ((0,0,[],[],[],()),chk R C S I V,()) (chk R C S I V) (by simp[qay]) (by simp[q51]) ?_ ?_ ?_ ?_ h1 h2
    . rw[g12,hsq,bS,bif_ne,iN' hk]
    . rw[g18,e2,bS,bif_ne,iN' hk]
    . rw[g19,h1,bS,bif_ne,iN' hk]
    . rw[g20,h2,bS,bif_ne,iN' hk]
theorem TrvM.chk {N:Nat} {E:Edges} {row U W:LI} (hE:EOK N E) (h:TrvM N E row U W):TL N row U W/\Mtc N E row/\q14 N E row U W:=by
 have ha: ∀{l:LI} {x:Int},x∈l->(∀j,-9223372036854775808<=l.getD j 0/\l.getD j 0<9223372036854775808)->I64 x:=fun{l x} hx hl=>by
  obtain⟨t,ht,rfl⟩:=List.getElem_of_mem hx;have:=hl t;rw[q9z ht rfl]at this;exact this
 refine⟨⟨h.tv.rl,h.tv.ul,h.tv.vl,fun x hx=>ha hx fun j=>by have:=h.tv.ub j;omega,fun x hx=>ha hx fun j=>by have:=h.tv.vn j;have:=h.tv.vb j;omega⟩,⟨fun j hj=> ?_,h.tv.inj⟩,fun j hj x hx=>⟨h.tv.feas j hj x hx,fun e=> ?_⟩⟩
 . obtain⟨x,hx,e,_⟩:=h.tv.tight j hj;exact⟨x,hx,e⟩
 . obtain⟨y,hy,e1,e2⟩:=h.tv.tight j hj;have:=hE.fn j x hx y hy (by rw[e,e1])
   rw[this,e2,e,<-e1];exact Int.le_refl _
theorem SmV.goodV {v:Int} (h:SmV v):GoodV v:=⟨h.u,h.f⟩
theorem qpk {N:Nat} {es:List Ent} (hE:EntsOK N N es) (hs: ∀e∈es,SmV e.2.2) (hN:N<=5):MG N (packS es N N) (packI es N N) (packV es N N):=by
 have ha:N*N<=5*5:=Nat.mul_le_mul hN hN;have h1:=qcq es N N;refine⟨qp7 O O O,q4r _ _ _,qom hE O O O,fun t ht=> ?_,O⟩
 obtain⟨e,he,e2⟩:=qoq (X8 (d:=(0:Int)) ht);rw[<-e2];exact(hs e he).goodV
theorem qpo (n:Int) (l:LI): ∃m,sparselaw14_TransversalMade m n l=some (true,(),(),()):=by
 refine⟨5000000000,?_⟩;generalize hm0:(5000000000:Nat)=m;have hm:4000000000<m:=O;have hm2:m<4611686018427387904:=O;clear hm0;rw[sparselaw14_TransversalMade,bQ];by_cases hl:(l.length:Int)>60
 . rw[iP hl,qat O];rfl
 rw[iN' hl];obtain⟨N,hN,eP⟩:=qoh (a:=n) (n:=6) O O;rw[show g8 m n 6=some ((N:Int),(),(),())from eP m]
 simp only[bS];obtain⟨es,hE0,hs,eS⟩:=qot (N:=N) (l:=l) O O;rw[eS m O];simp only[bS];have hN5:N<=5:=O;have hG:=qpk hE0 hs hN5;obtain⟨E,hE,hq⟩:=qlr (m:=m) O hG;generalize packS es N N=S at*;generalize packI es N N=I at*;generalize packV es N N=V at*;rcases qcl hm hN5 hG hE hq with⟨row,U,W,m1,m2,T⟩|⟨m1,m2,_⟩
 . obtain⟨t1,t2,t3⟩:=T.chk hE;obtain⟨y,y1,y2,y3,_⟩:=qgk (m:=m) O hN5 hG hE hq (R:=row) t1.u t1.w;obtain⟨cc,c1,c2,_,c3⟩:=q7g (m:=m) O hG hE hq (R:=row) t1.u t1.w;have hc0:=c3 t1 t2 t3;subst hc0;unfold q51 at y1;have r1:=t1.rl;have r2:=t1.ul;have r3:=t1.wl;rw[m1,m2];simp only[bS,bif_ne,if_true];rw[qkc O O O hm2];simp only[bS,Bool.not_true,cond_false,bif_ne,if_true,y2,y3,c1,bif_eq];rw[q73 O O O hm2];simp only[bS,cond_true];rw[qat O];rfl
 . rw[m1,m2];simp only[bS,bif_ne,if_true];rw[qkc (by simp;omega) (by simp;omega) (by simp;omega) hm2]
   simp only[bS,Bool.not_true,cond_false];rw[qat O];rfl
end Go.Vs.F
