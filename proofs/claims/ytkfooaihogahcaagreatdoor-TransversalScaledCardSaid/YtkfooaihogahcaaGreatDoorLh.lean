/-The edges of a matrix;Maximum,as a whole. The document's best weight:it tries all transversals. The document's assignment:the lexicographically least transversal of greatest weight. The document's assignment,column by column. Maximum:the program's and the document's. Check:the program's and the document's,for any lists. Check:both give the same. Scaling by the duals:one value. Scaling by the duals:both give the same. The laws TransversalExact and TransversalMade. The law TransversalInvariant. Check and Scale of the program,where they succeed. The law TransversalScaled. -/
import Derived.Test.YtkfooaihogahcaaGreatDoorLg
import Derived.Test.YtkfooaihogahcaaGreatDoorLf
import Derived.Test.YtkfooaihogahcaaGreatDoorLb
set_option linter.unusedVariables false
set_option linter.unusedSimpArgs false
namespace Go.Vs.F
variable {N:Nat} {S I V:List Int}
theorem MatOK.uniq {R C:Nat} (hM:MatOK R C S I) {j:Nat} (hj:j<C) {t t':Nat} (h1:(S.getD j 0).toNat≤t) (h2:t<(S.getD (j+1) 0).toNat) (h3:(S.getD j 0).toNat≤t') (h4:t'<(S.getD (j+1) 0).toNat) (e:I.getD t 0=I.getD t' 0):t=t':=by
 rcases Nat.lt_trichotomy t t' with h|h|h
 · have:=hM.asc hj (t'-t-1) t h1 O
   rw[show t+(t'-t-1+1)=t' by omega]at this;omega
 · exact h
 · have:=hM.asc hj (t-t'-1) t' h3 O
   rw[show t'+(t-t'-1+1)=t by omega]at this;omega
structure MG (N:Nat) (S I V:List Int):Prop where
 ok:MatOK N N S I
 vl:V.length=I.length
 chk:chk (N:Int) (N:Int) S I V=0
 good: ∀t,t<V.length→GoodV (V.getD t 0)
 il:I.length≤200
def edg1 (j:Nat) (e:Ent):Option (Int×Int):=if e.2.1=(j:Int)∧(expOf e.2.2).2=true then some (e.1,(expOf e.2.2).1)else none
def edg (es:List Ent) (j:Nat):List (Int×Int):=es.filterMap (edg1 j)
theorem q1h (m:Nat) {es:List Ent} (hm:3000000<m) (hg: ∀e∈es,GoodV e.2.2∧0≤e.2.1∧e.2.1<(N:Int)) (hl:es.length≤1000): ∀(n k:Nat) (out:List (List (Int×Int))),es.length-k<n→k≤es.length→out.length=N→
 (∀j,j<N→out.getD j []=edg (es.take k) j)→
 ∃E,g39_L0 m n out es (es.length:Int) (k:Int)=some (.inl (E,()))∧E.length=N∧ ∀j,j<N→E.getD j []=edg es j
 |0,k,out,h,_,_,_=>O
 |n+1,k,out,h,hk0,ho,hq=>by
  rw[g39_L0]
  by_cases hk:k<es.length
  · have h1:((k:Int)<(es.length:Int)):=O
    have c1:(0:Int)≤(k:Int)∧(k:Int)<(es.length:Int):=O
    have hmem:es.getD k (0,(0,0))∈es:=X8 hk
    obtain⟨g,g1,g2⟩:=hg _ hmem
    have htk:es.take (k+1)=es.take k++[es.getD k (0,(0,0))]:=by
     rw[List.take_add_one]
     congr 1
     rw[List.getElem?_eq_getElem hk,List.getD,List.getElem?_eq_getElem hk];rfl
    have hed: ∀j,edg (es.take (k+1)) j=edg (es.take k) j++(edg1 j (es.getD k (0,(0,0)))).toList:=fun j=>by
     unfold edg;rw[htk,List.filterMap_append]
     congr 1
    simp only[bif_decide,h1,if_true,c1,and_self,Int.toNat_natCast,Nat.zero_add,w_i64_eq,wsucc (show k<4611686018427387904 by omega)]
    generalize es.getD k (0,(0,0))=y at*
    rw[g.float hm]
    simp only[Option.bind_some]
    rcases Bool.eq_false_or_eq_true (expOf y.2.2).2 with hx|hx
    · rw[hx]
      simp only[cond_true]
      have c2:(0:Int)≤y.2.1∧y.2.1<(out.length:Int):=O
      have hjN:y.2.1.toNat<N:=O
      have c3:(out.getD y.2.1.toNat []).length+([(y.1,(expOf y.2.2).1)]:List (Int×Int)).length≤1073741824:=by
       rw[hq _ hjN]
       have:(edg (es.take k) y.2.1.toNat).length≤(es.take k).length:=List.length_filterMap_le ..
       rw[List.length_take]at this
       show _+1≤_
       omega
      simp only[c2,c3,and_self,if_true]
      refine q1h m hm hg hl n (k+1) _ O O (by simp[ho]) fun j hj=> ?_
      rw[hed,Q8 O]
      split
      · rename_i e
        rw[hq _ hjN,←e,edg1,if_pos ⟨O,hx⟩];rfl
      · rename_i e
        rw[hq j hj,edg1,if_neg (fun c=>e O)];simp
    · rw[hx]
      simp only[cond_false]
      refine q1h m hm hg hl n (k+1) _ O O ho fun j hj=> ?_
      rw[hed,hq j hj,edg1,if_neg (fun c=>by rw[hx]at c;cases c.2)];simp
  · have h1: ¬((k:Int)<(es.length:Int)):=O
    simp only[bif_decide,h1,if_false]
    refine⟨out,rfl,ho,fun j hj=> ?_⟩
    rw[hq j hj,List.take_of_length_le O]
theorem qkf (hM:MG N S I V) {j:Nat} (hj:j<N) {x:Int×Int}:x∈edg (ents S I V N 0) j↔ ∃t,(S.getD j 0).toNat≤t∧t<(S.getD (j+1) 0).toNat∧x.1=I.getD t 0∧(expOf (V.getD t 0)).2=true∧x.2=(expOf (V.getD t 0)).1:=by
 unfold edg
 rw[List.mem_filterMap]
 constructor
 · rintro ⟨e,he,hx⟩
   obtain⟨j',t,_,_,h1,h2,rfl⟩:=Qw.1 he
   unfold edg1 at hx
   split at hx
   · rename_i c
     obtain⟨c1,c2⟩:=c
     cases hx
     have:j'=j:=by simp only at c1;omega
     subst this
     exact⟨t,h1,h2,rfl,c2,rfl⟩
   · cases hx
 · rintro ⟨t,h1,h2,h3,h4,h5⟩
   refine⟨(I.getD t 0,(j:Int),V.getD t 0),Qw.2 ⟨j,t,Nat.zero_le _,O,h1,h2,rfl⟩,?_⟩
   unfold edg1
   rw[if_pos ⟨rfl,h4⟩]
   obtain⟨x1,x2⟩:=x
   simp only at h3 h5
   rw[h3,h5]
theorem qm2 (hM:MG N S I V) {j:Nat} (hj:j<N) {t:Nat} (h2:t<(S.getD (j+1) 0).toNat):t<V.length:=by
 have:=hM.ok.st.rng (j:=j+1) O
 rw[hM.vl];omega
theorem q5h (hM:MG N S I V): ∀e∈ents S I V N 0,GoodV e.2.2∧0≤e.2.1∧e.2.1<(N:Int):=by
 intro e he
 obtain⟨j,t,_,h0,h1,h2,rfl⟩:=Qw.1 he
 exact⟨hM.good t (qm2 hM O h2),by simp only;omega,by simp only;omega⟩
theorem qme (hM:MG N S I V):(ents S I V N 0).length≤200:=by
 rw[q9l hM.ok N 0 O O]
 have:=hM.ok.st.last
 have:=hM.il
 omega
theorem qkh (hM:MG N S I V) {j:Nat} (hj:j<N):(edg (ents S I V N 0) j).Pairwise fun x y=>x.1<y.1:=by
 unfold edg
 rw[List.pairwise_filterMap]
 have key: ∀(d k:Nat),k+d=N→(ents S I V d k).Pairwise fun a b=> ∀x,edg1 j a=some x→ ∀y,edg1 j b=some y→x.1<y.1:=by
  intro d
  induction d with
  |zero=>intro k _;exact List.Pairwise.nil
  |succ d ih=>
   intro k hk
   rw[ents,List.pairwise_append]
   refine⟨?_,ih (k+1) O,?_⟩
   · unfold Qy
     rw[List.pairwise_map]
     refine List.Pairwise.imp_of_mem ?_ (List.pairwise_lt_range' (s:=(S.getD k 0).toNat) (n:=(S.getD (k+1) 0).toNat-(S.getD k 0).toNat))
     intro a b ha hb hab x hx y hy
     rw[List.mem_range'_1]at ha hb
     unfold edg1 at hx hy
     split at hx
     · rename_i c
       split at hy
       · cases hx;cases hy
         have hkj:k=j:=by have:=c.1;simp only at this;omega
         subst hkj
         have:=hM.ok.asc (j:=k) hj (b-a-1) a O O
         rw[show a+(b-a-1+1)=b by omega]at this
         exact this
       · cases hy
     · cases hx
   · intro a ha b hb x hx y hy
     unfold Qy at ha
     obtain⟨t,_,rfl⟩:=List.mem_map.1 ha
     obtain⟨j',t',h1,_,_,_,rfl⟩:=Qw.1 hb
     unfold edg1 at hx hy
     split at hx
     · rename_i c
       split at hy
       · rename_i c'
         have:=c.1;have:=c'.1
         simp only at*
         omega
       · cases hy
     · cases hx
 exact key N 0 O
theorem q8u (m:Nat) (hm:3000000<m) (hM:MG N S I V): ∃E,g39 m (N:Int) (N:Int) S I V=some (E,(),())∧EOK N E∧ ∀j,j<N→E.getD j []=edg (ents S I V N 0) j:=by
 have hN:=hM.ok.cz
 have hsl:S.length≤201:=by rw[hM.ok.st.len];omega
 have hvl:V.length≤200:=by rw[hM.vl];exact hM.il
 rw[g39,g87,g29_eq O O O O O,hM.chk]
 have c1:(0:Int)≤(N:Int)∧(N:Int)≤(N:Int)∧(N:Int)≤1073741824:=O
 have hel:=qme hM
 obtain⟨E,e,h1,h2⟩:=q1h m (es:=ents S I V N 0) O (q5h hM) O m 0 (List.replicate N []) O O (by simp) (fun j hj=>by rw[qo hj];rfl)
 rw[Int.natCast_zero]at e
 simp only[c1,and_self,if_true,Option.bind_some,bif_ne,q6y (m:=m) O hM.ok hM.vl,Int.toNat_natCast,e]
 refine⟨E,rfl,?_,h2⟩
 have hz: ∀j,¬j<N→E.getD j []=[]:=fun j hj=>Qc O
 have hmem: ∀j,∀x∈E.getD j [],j<N∧ ∃t,(S.getD j 0).toNat≤t∧t<(S.getD (j+1) 0).toNat∧x.1=I.getD t 0∧(expOf (V.getD t 0)).2=true∧x.2=(expOf (V.getD t 0)).1:=fun j x hx=>by
  by_cases hj:j<N
  · rw[h2 j hj]at hx
    exact⟨hj,(qkf hM hj).1 hx⟩
  · rw[hz j hj]at hx;cases hx
 refine⟨h1,hN,fun j x hx=> ?_,fun j x hx=> ?_,fun j=> ?_,fun j x hx y hy e=> ?_⟩
 · obtain⟨hj,t,q1,q2,q3,_⟩:=hmem j x hx
   rw[q3];exact hM.ok.row hj q1 q2
 · obtain⟨hj,t,q1,q2,q3,q4,q5⟩:=hmem j x hx
   have:=hM.good t (qm2 hM hj q2)
   rw[q5];exact this.lo
 · by_cases hj:j<N
   · rw[h2 j hj]
     have:(edg (ents S I V N 0) j).length≤(ents S I V N 0).length:=List.length_filterMap_le ..
     omega
   · rw[hz j hj];simp
 · obtain⟨hj,t,q1,q2,q3,q4,q5⟩:=hmem j x hx
   obtain⟨_,t',r1,r2,r3,r4,r5⟩:=hmem j y hy
   have:=hM.ok.uniq hj q1 q2 r1 r2 (by rw[←q3,←r3,e])
   subst this
   rw[q5,r5]
structure TrvM (N:Nat) (E:Edges) (row U V:List Int):Prop where
 tv:Tv N E row U V
 lex:LexA N E fun j=>(row.getD j 0).toNat
 lv:LV N E row fun k=>V.getD k 0
 u: ∀j,j<N→U.getD (row.getD j 0).toNat 0=wE E j (row.getD j 0)-V.getD j 0
theorem no_ag {E:Edges} (h: ∀s,¬Trv N E s): ∀s,¬Ag N (Ed E) s:=fun s hs=>h s ⟨fun j hj=>by
 obtain⟨x,hx,e⟩:=(hs.ok j hj).2
 exact⟨x,hx,O⟩,hs.inj⟩
theorem qgq (m:Nat) (hm:4000000000<m) (hN5:N≤5) (hM:MG N S I V) {E:Edges} (hE: ∀j,j<N→E.getD j []=edg (ents S I V N 0) j) (hEl:E.length=N):
 (∃row U W,g12 m (N:Int) (N:Int) S I V=some (((row,U,W,()),0,()),(),())∧TrvM N E row U W)∨
 (g12 m (N:Int) (N:Int) S I V=some ((([],[],[],()),9,()),(),())∧ ∀s,¬Ag N (Ed E) s):=by
 have hN:=hM.ok.cz
 have hsl:S.length≤201:=by rw[hM.ok.st.len];omega
 have hvl:V.length≤200:=by rw[hM.vl];exact hM.il
 obtain⟨E',e,hE',hq⟩:=q8u m O hM
 have:E'=E:=Yl [] (by rw[hE'.len,hEl]) fun k hk=>by rw[hq k (by rw[hE'.len]at hk;exact hk),hE k (by rw[hE'.len]at hk;exact hk)]
 subst this
 rw[g12,g37,g29_eq O O O O O,hM.chk]
 simp only[Option.bind_some,bif_eq,bif_ne,if_true,e]
 rcases qnd m O hE' hN5 with⟨u,v,row,col,e2,B⟩|⟨e2,hno⟩
 · rw[e2]
   simp only[Option.bind_some]
   obtain⟨row',col',e3,hP,ht,hL⟩:=qkx m O hE' (fun j hj=>by rw[hq j hj];exact qkh hM hj) B
   rw[e3]
   simp only[Option.bind_some]
   obtain⟨U,W,e4,hT,hc,hl,hu⟩:=qkq m hm hN5 hE' hP ht B.vb B.mt.feas
   rw[e4]
   simp only[Option.bind_some]
   exact .inl ⟨row',U,W,rfl,hT,ql4 hE' B.mt.feas hP ht hL,⟨fun k _=>hT.vn k,hc,hl⟩,hu⟩
 · rw[e2]
   exact .inr ⟨rfl,no_ag hno⟩
variable {N:Nat} {S I V:List Int}
variable {N:Nat} {S I V:List Int}
variable {N:Nat} {S I V:List Int}
theorem MG.mv (h:MG N S I V):MV N N S I V:=⟨h.ok,h.vl,h.chk⟩
variable {N:Nat} {S I V:List Int}
def sumT (a b:Int):Int:=if a+b≥9223372036854775808 then 1099511627776 else if a+b< -9223372036854775808 then-1099511627776 else a+b
theorem qki {m:Nat} {a b:Int} (ha:I64 a) (hb:I64 b):g51 m a b=some (sumT a b,(),(),()):=by
 have hw:=qnf (a:=a) (b:=b)
 unfold I64 at ha hb
 rw[g51]
 generalize w_i64 (a+b)=w at hw
 have h1: -9223372036854775808≤a+b→a+b<9223372036854775808→w=a+b:=fun h1 h2=>O
 have h2:a+b≥9223372036854775808→w<0:=fun h=>O
 have h3:a+b< -9223372036854775808→w≥0:=fun h=>O
 clear hw
 simp only[bif_decide]
 unfold sumT
 by_cases g1:a+b≥9223372036854775808
 · rw[if_pos g1,if_pos O,if_pos O,if_pos (h2 g1)]
 · rw[if_neg g1]
   by_cases g2:a+b< -9223372036854775808
   · rw[if_pos g2,if_neg O,if_pos O,if_pos O,if_pos (h3 g2)]
   · rw[if_neg g2]
     have hw:=h1 O O
     subst hw
     by_cases p1:a>0
     · rw[if_pos p1]
       by_cases p2:b>0
       · rw[if_pos p2,if_neg O,if_neg O]
       · rw[if_neg p2,if_neg O]
     · rw[if_neg p1]
       by_cases p3:a<0
       · rw[if_pos p3]
         by_cases p4:b<0
         · rw[if_pos p4,if_neg O]
         · rw[if_neg p4]
       · rw[if_neg p3]
def Dx (R U W:List Int) (j:Nat) (x:Int×Int):Prop:=x.2≤U.getD x.1.toNat 0+W.getD j 0∧(x.1=R.getD j 0→U.getD x.1.toNat 0+W.getD j 0≤x.2)
def q14 (N:Nat) (E:Edges) (R U W:List Int):Prop:= ∀j,j<N→ ∀x∈E.getD j [],Dx R U W j x
theorem qn6 {a b w:Int} (h1: -1100≤w) (h2:w≤1100):(sumT a b<w↔a+b<w)∧(sumT a b>w↔a+b>w):=by
 unfold sumT
 split
 · omega
 · split<;>omega
structure TL (N:Nat) (R U W:List Int):Prop where
 rl:R.length=N
 ul:U.length=N
 wl:W.length=N
 u: ∀x∈U,I64 x
 w: ∀x∈W,I64 x
theorem Ze {l:List Int} (h: ∀x∈l,I64 x) (k:Nat):I64 (l.getD k 0):=by
 by_cases c:k<l.length
 · exact h _ (X8 c)
 · rw[Qc O];unfold I64;omega
theorem q3p (m:Nat) {E E2:Edges} {R U W:List Int} (hE:EOK N E) (hT:TL N R U W) {j:Nat} (hj:j<N) (a b:Int): ∀(n k:Nat),(E.getD j []).length-k<n→
 (g62_L1 m n R U W (j:Int) E2 a b (E.getD j []) ((E.getD j []).length:Int) (k:Int)=some (.inr (.inl ((R,U,W,()),E2,a,b,())))∧ ∀x∈(E.getD j []).drop k,Dx R U W j x)∨
 (g62_L1 m n R U W (j:Int) E2 a b (E.getD j []) ((E.getD j []).length:Int) (k:Int)=some (.inl (false,()))∧ ∃x∈E.getD j [],¬Dx R U W j x)
 |0,k,h=>O
 |n+1,k,h=>by
  have hN:=hE.small
  have hlens:=hE.lens j
  obtain⟨h1,h2,h3,h4,h5⟩:=hT
  rw[g62_L1,bif_decide]
  by_cases hk:k<(E.getD j []).length
  · have c1:(0:Int)≤(k:Int)∧(k:Int)<((E.getD j []).length:Int):=O
    have hmem:(E.getD j []).getD k (0,0)∈E.getD j []:=X8 hk
    have hr:=hE.row j _ hmem
    have hw:=hE.wt j _ hmem
    have ih:=q3p m (E2:=E2) hE ⟨h1,h2,h3,h4,h5⟩ hj a b n (k+1) O
    rw[drop_cons (d:=(0,0)) hk,if_pos O,if_pos c1]
    obtain⟨y,hy⟩: ∃y,(E.getD j []).getD k (0,0)=y:=⟨_,rfl⟩
    rw[hy]at hmem hr hw
    simp only[Int.toNat_natCast,hy,w_i64_eq,wsucc (show k<4611686018427387904 by omega)]
    have c2:(0:Int)≤y.1∧y.1<(U.length:Int):=O
    have c3:(0:Int)≤(j:Int)∧(j:Int)<(W.length:Int):=O
    have c4:(0:Int)≤(j:Int)∧(j:Int)<(R.length:Int):=O
    rw[if_pos c2,if_pos c3,qki (Ze h4 _) (Ze h5 _)]
    obtain⟨s1,s2⟩:=qn6 (a:=U.getD y.1.toNat 0) (b:=W.getD j 0) hw.1 hw.2
    simp only[Option.bind_some,bif_decide,s1,s2,c4,and_self,if_true,bif_eq]
    have next:Dx R U W j y→(g62_L1 m n R U W (j:Int) E2 a b (E.getD j []) ((E.getD j []).length:Int) ((k+1:Nat):Int)=some (.inr (.inl ((R,U,W,()),E2,a,b,())))∧ ∀x∈y::(E.getD j []).drop (k+1),Dx R U W j x)∨
     (g62_L1 m n R U W (j:Int) E2 a b (E.getD j []) ((E.getD j []).length:Int) ((k+1:Nat):Int)=some (.inl (false,()))∧ ∃x∈E.getD j [],¬Dx R U W j x):=fun hy=>by
     rcases ih with⟨e,q⟩|q
     · exact .inl ⟨e,fun x hx=>by
        rcases List.mem_cons.1 hx with rfl|hx
        · exact hy
        · exact q x hx⟩
     · exact .inr q
    by_cases g1:U.getD y.1.toNat 0+W.getD j 0<y.2
    · rw[if_pos g1]
      exact .inr ⟨rfl,y,hmem,fun d=>by have:=d.1;omega⟩
    · rw[if_neg g1]
      by_cases g2:U.getD y.1.toNat 0+W.getD j 0>y.2
      · rw[if_pos g2]
        by_cases g3:y.1=R.getD j 0
        · rw[if_pos g3]
          exact .inr ⟨rfl,y,hmem,fun d=>by have:=d.2 g3;omega⟩
        · rw[if_neg g3]
          exact next ⟨O,fun c=>absurd c g3⟩
      · rw[if_neg g2]
        exact next ⟨O,fun _=>O⟩
  · rw[if_neg O]
    exact .inl ⟨rfl,fun x hx=>by rw[drop_nil' hk]at hx;cases hx⟩
theorem q48 (m:Nat) (hm:1000<m) {E:Edges} {R U W:List Int} (hE:EOK N E) (hT:TL N R U W): ∀(n j:Nat),N-j<n→j≤N→(∀k,k<j→ ∀x∈E.getD k [],Dx R U W k x)→
 (g62_L0 m n R U W E (N:Int) (j:Int)=some (.inr (.inl ()))∧q14 N E R U W)∨
 (g62_L0 m n R U W E (N:Int) (j:Int)=some (.inl (false,()))∧ ¬q14 N E R U W)
 |0,j,h,_,_=>O
 |n+1,j,h,hj0,hq=>by
  have hN:=hE.small
  have hl:=hE.len
  rw[g62_L0,bif_decide]
  by_cases hj:j<N
  · have c1:(0:Int)≤(j:Int)∧(j:Int)<(E.length:Int):=O
    rw[if_pos O,if_pos c1]
    simp only[Int.toNat_natCast,w_i64_eq,wsucc (show j<4611686018427387904 by omega)]
    have hlens:=hE.lens j
    rcases q3p m (E2:=E) hE hT hj (N:Int) (j:Int) m 0 O with⟨e,q⟩|⟨e,x,hx,q⟩
    · rw[Int.natCast_zero]at e
      simp only[e,Option.bind_some,wsucc (show j<4611686018427387904 by omega)]
      exact q48 m hm hE hT n (j+1) O O fun k hk=>by
       by_cases e:k=j
       · subst e;exact q
       · exact hq k O
    · rw[Int.natCast_zero]at e
      simp only[e,Option.bind_some]
      exact .inr ⟨by first|trivial|rfl,fun d=>q (d j hj x hx)⟩
  · rw[if_neg O]
    exact .inl ⟨rfl,fun k hk=>hq k O⟩
theorem qil (m:Nat) (hm:1000<m) {E:Edges} {R U W:List Int} (hE:EOK N E) (hT:TL N R U W):
 ∃b,g62 m E R U W=some (b,(),(),())∧(b=true↔q14 N E R U W):=by
 have hN:=hE.small
 rw[g62,hE.len]
 rcases q48 m hm hE hT m 0 O O (fun k h=>absurd h (Nat.not_lt_zero _))with⟨e,q⟩|⟨e,q⟩
 · rw[Int.natCast_zero]at e
   rw[e];exact⟨true,rfl,fun _=>q,fun _=>rfl⟩
 · rw[Int.natCast_zero]at e
   rw[e];exact⟨false,rfl,(fun h=>by cases h),fun h=>absurd h q⟩
def Mtc (N:Nat) (E:Edges) (R:List Int):Prop:=(∀j,j<N→ ∃x∈E.getD j [],x.1=R.getD j 0)∧ ∀a b,a<N→b<N→R.getD a 0=R.getD b 0→a=b
theorem Ja (m:Nat) (E:Edges) (us:List Bool) (i:Int) (R:List Int) (a b:Int) (xs:List (Int×Int)) (hl:xs.length≤200): ∀(n k:Nat) (f:Bool),xs.length-k<n→
 ∃f',g61_L1 m n E us i f R a b xs (xs.length:Int) (k:Int)=some (.inl (E,us,i,f',R,a,b,()))∧(f'=true↔f=true∨ ∃x∈xs.drop k,x.1=i)
 |0,k,f,h=>O
 |n+1,k,f,h=>by
  rw[g61_L1,bif_decide]
  by_cases hk:k<xs.length
  · have c1:(0:Int)≤(k:Int)∧(k:Int)<(xs.length:Int):=O
    rw[if_pos O,if_pos c1,drop_cons (d:=(0,0)) hk]
    obtain⟨y,hy⟩: ∃y,xs.getD k (0,0)=y:=⟨_,rfl⟩
    simp only[Int.toNat_natCast,hy,w_i64_eq,wsucc (show k<4611686018427387904 by omega)]
    cases f with
    |true=>
     obtain⟨f',e,q⟩:=Ja m E us i R a b xs hl n (k+1) true O
     refine⟨f',e,?_⟩
     rw[q];simp
    |false=>
     obtain⟨f',e,q⟩:=Ja m E us i R a b xs hl n (k+1) (y.1==i) O
     refine⟨f',e,?_⟩
     rw[q]
     simp only[Bool.false_eq_true,false_or,List.mem_cons,exists_eq_or_imp,beq_iff_eq]
  · rw[if_neg O,drop_nil' hk]
    exact⟨f,rfl,by simp⟩
theorem q1y (m:Nat) (hm:1000<m) {E:Edges} {R:List Int} (hE:EOK N E) (hr:R.length=N): ∀(n j:Nat) (us:List Bool),N-j<n→j≤N→us.length=N→
 (∀k,k<j→ ∃x∈E.getD k [],x.1=R.getD k 0)→(∀a b,a<j→b<j→R.getD a 0=R.getD b 0→a=b)→(∀i,us.getD i false=true↔ ∃k,k<j∧R.getD k 0=(i:Int))→
 (g61_L0 m n E us R (N:Int) (j:Int)=some (.inr (.inl ()))∧Mtc N E R)∨
 (g61_L0 m n E us R (N:Int) (j:Int)=some (.inl (false,()))∧ ¬Mtc N E R)
 |0,j,us,h,_,_,_,_,_=>O
 |n+1,j,us,h,hj0,hu,h1,h2,h3=>by
  have hN:=hE.small
  have hl:=hE.len
  rw[g61_L0,bif_decide]
  by_cases hj:j<N
  · have c1:(0:Int)≤(j:Int)∧(j:Int)<(E.length:Int):=O
    have c2:(0:Int)≤(j:Int)∧(j:Int)<(R.length:Int):=O
    rw[if_pos O,if_pos c2,if_pos c1]
    have hlens:=hE.lens j
    obtain⟨f',e,q⟩:=Ja m E us (R.getD j 0) R (N:Int) (j:Int) (E.getD j []) hlens m 0 false O
    rw[Int.natCast_zero]at e
    simp only[Int.toNat_natCast,e,Option.bind_some,w_i64_eq,wsucc (show j<4611686018427387904 by omega),Nat.zero_add]
    simp only[Bool.false_eq_true,false_or,List.drop_zero]at q
    cases f' with
    |false=>
     simp only[Bool.not_false,cond_true]
     exact .inr ⟨by first|trivial|rfl,fun d=>by obtain⟨x,hx⟩:=d.1 j hj;exact Bool.noConfusion (q.2 ⟨x,hx.1,hx.2⟩)⟩
    |true=>
     obtain⟨x,hx,ex⟩:=q.1 rfl
     have hrow:=hE.row j x hx
     rw[ex]at hrow
     have c3:(0:Int)≤R.getD j 0∧R.getD j 0<(us.length:Int):=O
     simp only[Bool.not_true,cond_false,c3,and_self,if_true]
     have h3':=h3 (R.getD j 0).toNat
     rcases Bool.eq_false_or_eq_true (us.getD (R.getD j 0).toNat false)with hus|hus
     · rw[hus]
       simp only[cond_true]
       obtain⟨k,k1,k2⟩:=h3'.1 hus
       exact .inr ⟨by first|trivial|rfl,fun d=>by
        have:=d.2 k j O hj O
        omega⟩
     · rw[hus]
       simp only[cond_false]
       have hnew: ∀k,k<j→R.getD k 0≠R.getD j 0:=fun k hk e=>by
        rw[h3'.2 ⟨k,hk,O⟩]at hus;cases hus
       clear q h3'
       refine q1y m hm hE hr n (j+1) _ O O (by simp[hu]) (fun k hk=> ?_) (fun a b ha hb eab=> ?_) fun i=> ?_
       · by_cases ek:k=j
         · subst ek;exact⟨x,hx,ex⟩
         · exact h1 k O
       · by_cases ea:a=j
         · by_cases eb:b=j
           · omega
           · subst ea;exact absurd eab.symm (hnew b O)
         · by_cases eb:b=j
           · subst eb;exact absurd eab (hnew a O)
           · exact h2 a b O O eab
       · rw[Q8 O]
         split
         · rename_i ei
           exact⟨fun _=>⟨j,O,O⟩,fun _=>rfl⟩
         · rename_i ei
           rw[h3]
           constructor
           · rintro ⟨k,k1,k2⟩;exact⟨k,O,k2⟩
           · rintro ⟨k,k1,k2⟩
             exact⟨k,by
              have:k≠j:=by rintro rfl;omega
              omega,k2⟩
  · rw[if_neg O]
    have:j=N:=O
    subst this
    exact .inl ⟨rfl,h1,h2⟩
theorem qgy (m:Nat) (hm:1000<m) {E:Edges} {R:List Int} (hE:EOK N E) (hr:R.length=N): ∃b,g61 m E R=some (b,(),(),())∧(b=true↔Mtc N E R):=by
 have hN:=hE.small
 have c1:(0:Int)≤(N:Int)∧(N:Int)≤(N:Int)∧(N:Int)≤1073741824:=O
 rw[g61,hE.len,if_pos c1,hr,Int.toNat_natCast]
 have hrep: ∀i,(List.replicate N false).getD i false=false:=fun i=>by
  by_cases h:i<N
  · rw[qo h]
  · rw[Qc (by simpa using h)]
 rcases q1y m hm hE hr m 0 (List.replicate N false) O O (by simp) (fun k h=>absurd h (Nat.not_lt_zero _)) (fun a b h=>absurd h (Nat.not_lt_zero _)) (fun i=>by
  rw[hrep]
  exact⟨(fun h=>by cases h),fun⟨k,h,_⟩=>absurd h (Nat.not_lt_zero _)⟩)with⟨e,q⟩|⟨e,q⟩
 · rw[Int.natCast_zero]at e
   rw[e];exact⟨true,rfl,fun _=>q,fun _=>rfl⟩
 · rw[Int.natCast_zero]at e
   rw[e];exact⟨false,rfl,(fun h=>by cases h),fun h=>absurd h q⟩
variable {N:Nat} {S I V:List Int}
end Go.Vs.F
set_option maxRecDepth 100000
namespace Go.Vs.F
variable {N:Nat} {S I V:List Int}
def scV (v n:Int):Option Int:=if ofZ v=0 then some v else if exB (ofZ v) (ofE v+Qd n)=true then some (Qv (mkD (ofZ v) (ofE v+Qd n)) 0)else none
theorem qo9 {v:Int}:(expOf v).2=true↔ofZ v≠0:=by
 unfold expOf
 split
 · rename_i h;exact⟨(fun c=>by cases c),fun c=>absurd h c⟩
 · rename_i h;exact⟨fun _=>h,fun _=>rfl⟩
theorem qq5 {m:Nat} (hm:3000000<m) {z e:Int}:g32 m (mkD z e).1 (mkD z e).2.1 (mkD z e).2.2.1 (mkD z e).2.2.2.1=some ((Qv (mkD z e) 0,exB z e,()),(),()):=by
 have hU:=q0q (d:=mkD z e) (mode:=0)
 rw[g32,q98 hm,Option.bind_some]
 dsimp only
 rw[Of_eq hm hU,Option.bind_some]
 dsimp only
 unfold exB ofD
 generalize Qv (mkD z e) 0=f at*
 by_cases hf:FinF f
 · rw[if_pos hf]
   have e1:mkD (ofZ f) (ofE f)=mkD (sc (ofZ f) (ofE f) (min (ofE f) e)) (min (ofE f) e):=(q80 O).symm
   have e2:mkD z e=mkD (sc z e (min (ofE f) e)) (min (ofE f) e):=(q80 O).symm
   have o2:OkD z e↔OkD (sc z e (min (ofE f) e)) (min (ofE f) e):=by unfold OkD;rw[←e2]
   have o1:OkD (sc (ofZ f) (ofE f) (min (ofE f) e)) (min (ofE f) e):=by have:=qb3 hf;unfold OkD at*;rwa [←e1]
   rw[e1,e2,qj7 hm]
   by_cases hz:OkD z e
   · have h2:=o2.1 hz
     rw[if_pos ⟨o1,h2⟩]
     simp only[Option.bind_some,cond_true]
     have:(cmpZ (sc (ofZ f) (ofE f) (min (ofE f) e)) (sc z e (min (ofE f) e))==0)=decide (FinF f∧OkD z e∧sc (ofZ f) (ofE f) (min (ofE f) e)=sc z e (min (ofE f) e)):=by
      by_cases c:sc (ofZ f) (ofE f) (min (ofE f) e)=sc z e (min (ofE f) e)
      · rw[qbg.2 c,decide_eq_true ⟨hf,hz,c⟩];rfl
      · rw[decide_eq_false (fun h=>c h.2.2)]
        have:=mt qbg.1 c
        simpa using this
     rw[this]
   · rw[if_neg (fun h=>hz (o2.2 h.2)),decide_eq_false (fun h=>hz h.2.1)]
     rfl
 · rw[if_neg hf,decide_eq_false (fun h=>hf h.1)]
   have b0:((true,false,[],0,()):Bool×Bool×List Int×Int×Unit)=mkD 1 100000:=by
    rw[q27];rw[Xy];rintro (h|⟨h,_⟩)
    · omega
    · omega
   have hn: ¬OkD 1 100000:=by rw[Xy];rintro (h|⟨h,_⟩)<;>omega
   have e0:mkD 1 100000=mkD (sc 1 100000 (min 100000 e)) (min 100000 e):=(q80 O).symm
   have e2:mkD z e=mkD (sc z e (min 100000 e)) (min 100000 e):=(q80 O).symm
   have n2: ¬OkD (sc 1 100000 (min 100000 e)) (min 100000 e):=by unfold OkD at*;rwa [←e0]
   rw[b0,e0,e2,qj7 hm,if_neg (fun h=>n2 h.1)]
   rfl
theorem qdh {m:Nat} (hm:3000000<m) {z e:Int}: ∃c ok,(g34 m (Qv (mkD z e) 0)=some (ofD (Qv (mkD z e) 0),(),()))∧
 g53 m (ofD (Qv (mkD z e) 0)).1 (ofD (Qv (mkD z e) 0)).2.1 (ofD (Qv (mkD z e) 0)).2.2.1 (ofD (Qv (mkD z e) 0)).2.2.2.1 (mkD z e).1 (mkD z e).2.1 (mkD z e).2.2.1 (mkD z e).2.2.2.1=some ((c,ok,()),(),(),())∧
 (exB z e=true↔ok=true∧c=0):=by
 have hU:=q0q (d:=mkD z e) (mode:=0)
 have h:=qq5 (z:=z) (e:=e) hm
 rw[g32,q98 hm,Option.bind_some]at h
 dsimp only at h
 have hO:=Of_eq hm hU
 rw[hO,Option.bind_some]at h
 dsimp only at h
 cases hc:g53 m (ofD (Qv (mkD z e) 0)).1 (ofD (Qv (mkD z e) 0)).2.1 (ofD (Qv (mkD z e) 0)).2.2.1 (ofD (Qv (mkD z e) 0)).2.2.2.1 (mkD z e).1 (mkD z e).2.1 (mkD z e).2.2.1 (mkD z e).2.2.2.1 with
 |none=>rw[hc]at h;cases h
 |some r=>
  rw[hc,Option.bind_some]at h
  obtain⟨⟨c,ok,u⟩,u1,u2,u3⟩:=r
  refine⟨c,ok,hO,rfl,?_⟩
  cases ok with
  |false=>
   simp only[cond_false,Option.some.injEq,Prod.mk.injEq]at h
   rw[←h.1.2.1];simp
  |true=>
   simp only[cond_true,Option.some.injEq,Prod.mk.injEq]at h
   rw[←h.1.2.1];simp
theorem qh7 {a b:Int} (h: -1100≤a+b):Qd (w_i64 (0-sumT a b))=Qd (-(a+b)):=by
 unfold sumT
 split
 · rw[w_i64_eq,wi O O];unfold Qd;omega
 · split
   · omega
   · rw[w_i64_eq,wi O O];unfold Qd;omega
end Go.Vs.F
set_option maxRecDepth 100000
namespace Go.Vs.F
variable {N:Nat} {S I V:List Int}
def nnE (U W:List Int) (i j:Int):Int:= -(U.getD i.toNat 0+W.getD j.toNat 0)
def gE (U W:List Int) (e:Ent):Option Int:=scV e.2.2 (nnE U W e.1 e.2.1)
def SOK (N:Nat) (U W:List Int) (e:Ent):Prop:=GoodV e.2.2∧(0≤e.1∧e.1<(N:Int))∧(0≤e.2.1∧e.2.1<(N:Int))∧(ofZ e.2.2≠0→ -1100≤U.getD e.1.toNat 0+W.getD e.2.1.toNat 0)
theorem qmj {m:Nat} (hm:3000000<m) (hM:MG N S I V) {R U W:List Int} (hT:TL N R U W) (hs: ∀e∈ents S I V N 0,SOK N U W e) (b0 b1:Int) (b2 b3 b4:List Int) (R0 C0:Int) (x34 x35:Int) {j:Nat} (hj:j<N):
 ∀(n t:Nat) (Vc:List Int),(S.getD (j+1) 0).toNat-t<n→(S.getD j 0).toNat≤t→Vc.length=V.length→(∀s,t≤s→Vc.getD s 0=V.getD s 0)→
 (∃V',g19_L1 m n R U W b0 b1 b2 b3 b4 R0 C0 S I Vc (j:Int) (t:Int) x34 x35=some (.inr (.inl ((R,U,W,()),(b0,b1,b2,b3,b4,()),(R0,C0,S,I,V',()),x34,x35,())))∧V'.length=V.length∧
   (∀s,t≤s→s<(S.getD (j+1) 0).toNat→scV (V.getD s 0) (nnE U W (I.getD s 0) (j:Int))=some (V'.getD s 0))∧ ∀s,(s<t∨(S.getD (j+1) 0).toNat≤s)→V'.getD s 0=Vc.getD s 0)∨
 (g19_L1 m n R U W b0 b1 b2 b3 b4 R0 C0 S I Vc (j:Int) (t:Int) x34 x35=some (.inl ((0,0,[],[],[],()),3,()))∧ ∃e∈ents S I V N 0,gE U W e=none)
 |0,t,Vc,h,_,_,_=>O
 |n+1,t,Vc,h,ht,hvc,hvs=>by
  have hl:=hM.ok.st.len
  have hsz:=hM.ok.cz
  have a1:=hM.ok.st.rng (j:=j+1) O
  have hvl:=hM.vl
  have hil:=hM.il
  have hT0:=hT
  obtain⟨h1,h2,h3,h4,h5⟩:=hT0
  have c0:(0:Int)≤((j+1:Nat):Int)∧((j+1:Nat):Int)<(S.length:Int):=O
  rw[g19_L1]
  simp only[w_i64_eq,wsucc (show j<4611686018427387904 by omega),c0,and_self,if_true,bif_decide,Int.toNat_natCast,Nat.zero_add]
  by_cases hk:t<(S.getD (j+1) 0).toNat
  · have c1:(t:Int)<S.getD (j+1) 0:=O
    have c2:(0:Int)≤(t:Int)∧(t:Int)<(Vc.length:Int):=O
    have c3:(0:Int)≤(t:Int)∧(t:Int)<(I.length:Int):=O
    have hmem:((I.getD t 0,((j:Int),V.getD t 0)):Ent)∈ents S I V N 0:=Qw.2 ⟨j,t,Nat.zero_le _,O,ht,hk,rfl⟩
    obtain⟨g,r1,r2,r3⟩:=hs _ hmem
    simp only at g r1 r2 r3
    have hv0:=hvs t (Nat.le_refl _)
    have hof:ofD (V.getD t 0)=mkD (ofZ (V.getD t 0)) (ofE (V.getD t 0)):=if_pos g.f
    have hD:=qb3 g.f
    simp only[c1,c2,c3,and_self,if_true,hv0,Of_eq hm g.u,Option.bind_some,hof,qg1 hm hD,bif_eq,Qs,wsucc (show t<4611686018427387904 by omega)]
    have next: ∀(w:Int),scV (V.getD t 0) (nnE U W (I.getD t 0) (j:Int))=some w→ ∀Vc2:List Int,Vc2.length=V.length→Vc2.getD t 0=w→(∀s,s≠t→Vc2.getD s 0=Vc.getD s 0)→
     (∃V',g19_L1 m n R U W b0 b1 b2 b3 b4 R0 C0 S I Vc2 (j:Int) ((t+1:Nat):Int) x34 x35=some (.inr (.inl ((R,U,W,()),(b0,b1,b2,b3,b4,()),(R0,C0,S,I,V',()),x34,x35,())))∧V'.length=V.length∧
       (∀s,t≤s→s<(S.getD (j+1) 0).toNat→scV (V.getD s 0) (nnE U W (I.getD s 0) (j:Int))=some (V'.getD s 0))∧ ∀s,(s<t∨(S.getD (j+1) 0).toNat≤s)→V'.getD s 0=Vc.getD s 0)∨
     (g19_L1 m n R U W b0 b1 b2 b3 b4 R0 C0 S I Vc2 (j:Int) ((t+1:Nat):Int) x34 x35=some (.inl ((0,0,[],[],[],()),3,()))∧ ∃e∈ents S I V N 0,gE U W e=none):=fun w hw Vc2 q1 q2 q3=>by
     rcases qmj hm hM hT hs b0 b1 b2 b3 b4 R0 C0 x34 x35 hj n (t+1) Vc2 O O q1 (fun s hs=>by rw[q3 s O,hvs s O])with⟨V',e,p1,p2,p3⟩|q
     · refine .inl ⟨V',e,p1,fun s s1 s2=> ?_,fun s hs=> ?_⟩
       · by_cases es:s=t
         · subst es
           rw[hw,p3 s O,q2]
         · exact p2 s O s2
       · rw[p3 s O,q3 s O]
     · exact .inr q
    by_cases hz:ofZ (V.getD t 0)=0
    · rw[if_pos hz]
      exact next (V.getD t 0) (by unfold scV;rw[if_pos hz]) Vc hvc hv0 (fun _ _=>rfl)
    · rw[if_neg hz]
      have c4:(0:Int)≤I.getD t 0∧I.getD t 0<(U.length:Int):=O
      have c5:(0:Int)≤(j:Int)∧(j:Int)<(W.length:Int):=O
      have hsum:=r3 hz
      rw[Int.toNat_natCast]at hsum
      have hcl:=qh7 hsum
      have hnn:nnE U W (I.getD t 0) (j:Int)= -(U.getD (I.getD t 0).toNat 0+W.getD j 0):=by unfold nnE;rw[Int.toNat_natCast]
      simp only[c4,c5,and_self,if_true,qki (Ze h4 _) (Ze h5 _),Option.bind_some]
      have hDS:=qiu (m:=m) hm (a:=ofZ (V.getD t 0)) (B:=ofE (V.getD t 0)) (n:=w_i64 (0-sumT (U.getD (I.getD t 0).toNat 0) (W.getD j 0)))
      rw[if_pos hD,hcl,←hnn,w_i64_eq]at hDS
      rw[hDS]
      simp only[Option.bind_some]
      rw[q98 hm]
      simp only[Option.bind_some]
      obtain⟨c,ok,x1,x2,x3⟩:=qdh (m:=m) hm (z:=ofZ (V.getD t 0)) (e:=ofE (V.getD t 0)+Qd (nnE U W (I.getD t 0) (j:Int)))
      rw[x1]
      simp only[Option.bind_some]
      rw[x2]
      simp only[Option.bind_some]
      have hsc:scV (V.getD t 0) (nnE U W (I.getD t 0) (j:Int))=if exB (ofZ (V.getD t 0)) (ofE (V.getD t 0)+Qd (nnE U W (I.getD t 0) (j:Int)))=true then some (Qv (mkD (ofZ (V.getD t 0)) (ofE (V.getD t 0)+Qd (nnE U W (I.getD t 0) (j:Int)))) 0)else none:=by
       unfold scV;rw[if_neg hz]
      cases ok with
      |false=>
       simp only[Bool.not_false,cond_true]
       exact .inr ⟨by first|trivial|rfl,_,hmem,by unfold gE;rw[hsc,if_neg (fun q=>by have:=(x3.1 q).1;cases this)]⟩
      |true=>
       simp only[Bool.not_true,cond_false,bif_ne]
       by_cases hc:c=0
       · rw[if_pos hc]
         rw[if_pos (x3.2 ⟨rfl,hc⟩)]at hsc
         exact next _ hsc _ (by simp[hvc]) (qp O) (fun s hs=>getD_set_ne (Ne.symm hs))
       · rw[if_neg hc]
         exact .inr ⟨by first|trivial|rfl,_,hmem,by unfold gE;rw[hsc,if_neg (fun q=>hc (x3.1 q).2)]⟩
  · have c1: ¬((t:Int)<S.getD (j+1) 0):=O
    simp only[c1,if_false]
    exact .inl ⟨Vc,rfl,hvc,fun s s1 s2=>O,fun s _=>rfl⟩
theorem qm1 (hM:MG N S I V) {a:Nat}: ∀(d:Nat),a+d≤N→S.getD a 0≤S.getD (a+d) 0
 |0,_=>Int.le_refl _
 |d+1,h=>by
  have:=qm1 hM (a:=a) d O
  have:=hM.ok.st.mono (a+d) O
  rw[show a+(d+1)=a+d+1 by omega]
  omega
theorem qmi {m:Nat} (hm:3000000<m) (hM:MG N S I V) {R U W:List Int} (hT:TL N R U W) (hs: ∀e∈ents S I V N 0,SOK N U W e) (b0 b1:Int) (b2 b3 b4:List Int) (R0:Int):
 ∀(n j:Nat) (Vc:List Int),N-j<n→j≤N→Vc.length=V.length→(∀s,(S.getD j 0).toNat≤s→Vc.getD s 0=V.getD s 0)→
 (∀j',j'<j→ ∀s,(S.getD j' 0).toNat≤s→s<(S.getD (j'+1) 0).toNat→scV (V.getD s 0) (nnE U W (I.getD s 0) (j':Int))=some (Vc.getD s 0))→
 (∃V',g19_L0 m n R U W b0 b1 b2 b3 b4 R0 (N:Int) S I Vc (N:Int) (j:Int)=some (.inr (.inl ((b0,b1,b2,b3,b4,()),(R0,(N:Int),S,I,V',()),())))∧V'.length=V.length∧
   ∀j',j'<N→ ∀s,(S.getD j' 0).toNat≤s→s<(S.getD (j'+1) 0).toNat→scV (V.getD s 0) (nnE U W (I.getD s 0) (j':Int))=some (V'.getD s 0))∨
 (g19_L0 m n R U W b0 b1 b2 b3 b4 R0 (N:Int) S I Vc (N:Int) (j:Int)=some (.inl ((0,0,[],[],[],()),3,()))∧ ∃e∈ents S I V N 0,gE U W e=none)
 |0,j,Vc,h,_,_,_,_=>O
 |n+1,j,Vc,h,hj0,hvc,hvs,hd=>by
  have hl:=hM.ok.st.len
  have hsz:=hM.ok.cz
  have hil:=hM.il
  rw[g19_L0,bif_decide]
  by_cases hj:j<N
  · have a0:=hM.ok.st.rng (j:=j) O
    have a1:=hM.ok.st.rng (j:=j+1) O
    have mo:=hM.ok.st.mono j hj
    have c1:(0:Int)≤(j:Int)∧(j:Int)<(S.length:Int):=O
    rw[if_pos O,if_pos c1]
    simp only[Int.toNat_natCast,Nat.zero_add,w_i64_eq,wsucc (show j<4611686018427387904 by omega)]
    have hst:S.getD j 0=((S.getD j 0).toNat:Int):=(Int.toNat_of_nonneg a0.1).symm
    rcases qmj hm hM hT hs b0 b1 b2 b3 b4 R0 (N:Int) (N:Int) (j:Int) hj m (S.getD j 0).toNat Vc O (Nat.le_refl _) hvc (fun s hs=>hvs s hs)with⟨V',e,p1,p2,p3⟩|⟨e,q⟩
    · rw[←hst]at e
      simp only[e,Option.bind_some,wsucc (show j<4611686018427387904 by omega)]
      refine qmi hm hM hT hs b0 b1 b2 b3 b4 R0 n (j+1) V' O O p1 (fun s hs=>by rw[p3 s (.inr hs)];exact hvs s O) fun j' hj' s s1 s2=> ?_
      by_cases ej:j'=j
      · subst ej;exact p2 s s1 s2
      · have:=qm1 hM (a:=j'+1) (j-(j'+1)) O
        rw[show j'+1+(j-(j'+1))=j by omega]at this
        rw[p3 s (.inl O)]
        exact hd j' O s s1 s2
    · rw[←hst]at e
      simp only[e,Option.bind_some]
      exact .inr ⟨by first|trivial|rfl,q⟩
  · rw[if_neg O]
    exact .inl ⟨Vc,rfl,hvc,fun j' hj'=>hd j' O⟩
theorem q74 (m:Nat) (hN:N≤1000): ∀(n k:Nat) (l:List Int),N-k<n→k≤N→l.length=N→(∀i,i<k→l.getD i 0=(i:Int))→g49_L0 m n l (N:Int) (k:Int)=some (.inl (idn N,()))
 |0,k,l,h,_,_,_=>O
 |n+1,k,l,h,hk0,hl,hq=>by
  rw[g49_L0,bif_decide]
  by_cases hk:k<N
  · have c1:(0:Int)≤(k:Int)∧(k:Int)<(l.length:Int):=O
    rw[if_pos O,if_pos c1]
    simp only[Int.toNat_natCast,Nat.zero_add,w_i64_eq,wsucc (show k<4611686018427387904 by omega)]
    refine q74 m hN n (k+1) _ O O (by simp[hl]) fun i hi=> ?_
    rw[Q8 O]
    split
    · rename_i e;rw[e]
    · exact hq i O
  · rw[if_neg O]
    have:l=idn N:=Yl 0 (by rw[hl,qjr]) fun i hi=>by
     rw[hq i O]
     simp[idn,List.getD,show i<N by omega]
    rw[this]
theorem qe1 {m:Nat} (hm:2000<m) (hN:N≤1000):g49 m (N:Int)=some (idn N,(),()):=by
 rw[g49,q0f m O hN]
 simp only[Option.bind_some,List.length_replicate]
 have:=q74 m hN m 0 (List.replicate N 0) O O (by simp) (fun i h=>absurd h (Nat.not_lt_zero _))
 rw[Int.natCast_zero]at this
 rw[this];rfl
theorem qn1 {i:Nat} (h:i<N):(idn N).getD i 0=(i:Int):=by simp[idn,List.getD,h]
theorem qcu {m:Nat} (hm:3000000<m) (hM:MG N S I V):g48 m (N:Int) (N:Int) S I V (idn N) (idn N)=some ((((N:Int),(N:Int),S,I,V,()),0,()),(),(),(),()):=by
 have hN:=hM.ok.cz
 have hP:q43 N (idn N):=qo4 (List.Perm.refl _)
 obtain⟨row,col,r1,r2,_,_,_,e⟩:=qhj hM.ok hM.vl (by rw[hM.ok.st.len];omega) hM.chk hP hP
 have hmap:(ents S I V N 0).map (pmE row col)=ents S I V N 0:=by
  conv=>rhs;rw[←List.map_id (ents S I V N 0)]
  refine List.map_congr_left fun x hx=> ?_
  obtain⟨j,t,_,h1,h2,h3,rfl⟩:=Qw.1 hx
  have hr:=hM.ok.row (j:=j) O h2 h3
  have q1:=r1 (I.getD t 0).toNat O
  have q2:=r2 j O
  rw[qn1 O,Int.toNat_natCast]at q1 q2
  unfold pmE
  simp only[Int.toNat_natCast,q1,q2,id]
  rw[Int.toNat_of_nonneg hr.1]
 rw[hmap]at e
 obtain⟨p1,p2,p3⟩:=qac hM.ok hM.vl hM.mv.ents
 rw[p1,p2,p3]at e
 exact e m O
end Go.Vs.F
set_option maxRecDepth 100000
namespace Go.Vs.F
theorem qlu (k:Nat):sparselaw14_awake (k+100)=some (true,()):=by kernel_rfl
theorem qat {m:Nat} (h:100≤m):sparselaw14_awake m=some (true,()):=by
 obtain⟨k,rfl⟩: ∃k,m=k+100:=⟨m-100,O⟩
 exact qlu k
theorem qlr {m:Nat} (hm:3000000<m) {N:Nat} {S I V:List Int} (hM:MG N S I V): ∃E,EOK N E∧ ∀j,j<N→E.getD j []=edg (ents S I V N 0) j:=by
 obtain⟨E,_,h1,h2⟩:=q8u m hm hM
 exact⟨E,h1,h2⟩
theorem TrvM.chk {N:Nat} {E:Edges} {row U W:List Int} (hE:EOK N E) (h:TrvM N E row U W):TL N row U W∧Mtc N E row∧q14 N E row U W:=by
 have ha: ∀{l:List Int} {x:Int},x∈l→(∀j,-9223372036854775808≤l.getD j 0∧l.getD j 0<9223372036854775808)→I64 x:=fun{l x} hx hl=>by
  obtain⟨t,ht,rfl⟩:=List.getElem_of_mem hx
  have:=hl t
  rw[q9z ht rfl]at this
  exact this
 refine⟨⟨h.tv.rl,h.tv.ul,h.tv.vl,fun x hx=>ha hx fun j=>by have:=h.tv.ub j;omega,fun x hx=>ha hx fun j=>by have:=h.tv.vn j;have:=h.tv.vb j;omega⟩,⟨fun j hj=> ?_,h.tv.inj⟩,fun j hj x hx=>⟨h.tv.feas j hj x hx,fun e=> ?_⟩⟩
 · obtain⟨x,hx,e,_⟩:=h.tv.tight j hj
   exact⟨x,hx,e⟩
 · obtain⟨y,hy,e1,e2⟩:=h.tv.tight j hj
   have:=hE.fn j x hx y hy (by rw[e,e1])
   rw[this,e2,e,←e1]
   exact Int.le_refl _
theorem SmV.goodV {v:Int} (h:SmV v):GoodV v:=⟨h.u,h.f⟩
theorem qpk {N:Nat} {es:List Ent} (hE:EntsOK N N es) (hs: ∀e∈es,SmV e.2.2) (hN:N≤5):MG N (packS es N N) (packI es N N) (packV es N N):=by
 have ha:N*N≤5*5:=Nat.mul_le_mul hN hN
 have h1:=qcq es N N
 refine⟨qp7 O O O,q4r _ _ _,qom hE O O O,fun t ht=> ?_,O⟩
 obtain⟨e,he,e2⟩:=qoq (X8 (d:=(0:Int)) ht)
 rw[←e2];exact(hs e he).goodV
end Go.Vs.F
set_option maxRecDepth 100000
namespace Go.Vs.F
theorem EqD.nz {z e w f:Int} (h:EqD z e w f) (hz:z≠0):w≠0:=fun e0=>by
 subst e0
 have:=h.sgn
 rw[show Vs.F.sgn 0=0 from rfl,Qs]at this
 exact hz this
theorem qpn {v:Int} (h:SmV v): -6≤(expOf v).1∧(expOf v).1≤9:=by
 unfold expOf
 split
 · exact⟨by decide,by decide⟩
 · rename_i hz
   obtain⟨k,h1,h2,h3⟩:=h.k
   have hl:=h1.log hz
   have hk:=h1.nz hz
   have hb:blen k.natAbs≤16:=X6 O
   have hb0:1≤blen k.natAbs:=by
    rcases Nat.eq_zero_or_pos (blen k.natAbs)with h0|h0
    · have:=q90 (n:=k.natAbs) O
      have h5:=(qfg (n:=k.natAbs) O).1
      have:blen (k.natAbs/2^tz k.natAbs)=0:=O
      have h6:=qlz (n:=k.natAbs/2^tz k.natAbs) (k:=0)
      exfalso
      unfold blen at this
      have hp:0<k.natAbs/2^tz k.natAbs:=Nat.pos_of_ne_zero h5
      split at this<;>omega
    · exact h0
   simp only
   omega
theorem sm_sc {v n:Int} (h:SmV v) (hn: -1000≤n∧n≤800): ∃w,scV v n=some w∧GoodV w∧(ofZ v≠0→expOf w=((expOf v).1+n,true))∧(ofZ v=0→w=v):=by
 have hc:Qd n=n:=by unfold Qd;omega
 by_cases hz:ofZ v=0
 · exact⟨v,by unfold scV;rw[if_pos hz],h.goodV,fun c=>absurd hz c,fun _=>rfl⟩
 · obtain⟨k,h1,h2,h3⟩:=h.k
   have hE:EqD k (-6+n) (ofZ v) (ofE v+n):=by
    have:=h1.symm.mul (EqD.refl 1 n)
    rwa [Int.mul_one,Int.mul_one]at this
   have hR:Rep (ofZ v) (ofE v+n):=Rep.of_mul hE (Nat.le_trans (X6 (k:=16) O) O) O O
   obtain⟨g1,g2,g3⟩:=qoi hR 0
   have hnz:=g3.symm.nz hz
   refine⟨_,by unfold scV;rw[if_neg hz,hc,if_pos hR.ex],⟨g1,g2⟩,fun _=> ?_,fun c=>absurd c hz⟩
   have hl:=g3.log hnz
   unfold expOf
   rw[if_neg hnz,if_neg hz]
   simp only[Prod.mk.injEq,and_true]
   omega
variable {N:Nat} {S I V:List Int}
end Go.Vs.F
set_option maxRecDepth 100000
namespace Go.Vs.F
variable {N:Nat} {S I V:List Int}
theorem qq3 {m:Nat} (hm:3000000<m) (hM:MG N S I V) {E:Edges} (hE:EOK N E) (hq: ∀j,j<N→E.getD j []=edg (ents S I V N 0) j) {R U W:List Int} (hT:TL N R U W) (hMt:Mtc N E R) (hD:q14 N E R U W):
 g21 m (N:Int) (N:Int) S I V R U W=some (0,(),(),()):=by
 have hN:=hM.ok.cz
 have hsl:S.length≤201:=by rw[hM.ok.st.len];omega
 have hvl:V.length≤200:=by rw[hM.vl];exact hM.il
 have l1:(R.length:Int)=(N:Int):=by rw[hT.rl]
 have l2:(U.length:Int)=(N:Int):=by rw[hT.ul]
 have l3:(W.length:Int)=(N:Int):=by rw[hT.wl]
 rw[g21,g37,g29_eq O O O O O,hM.chk]
 simp only[Option.bind_some,bif_ne,bif_eq,if_true,l1,l2,l3]
 obtain⟨E',eE,hE',hq'⟩:=q8u m hm hM
 have:E'=E:=Yl [] (by rw[hE'.len,hE.len]) fun k hk=>by rw[hE'.len]at hk;rw[hq' k hk,hq k hk]
 subst this
 obtain⟨b1,e1,q1⟩:=qgy m O hE hT.rl
 obtain⟨b2,e2,q2⟩:=qil m O hE hT
 rw[eE]
 simp only[Option.bind_some,e1,e2,q1.2 hMt,q2.2 hD,Bool.not_true,cond_false]
theorem qq4 {m:Nat} (hm:3000000<m) (hN5:N≤5) (hM:MG N S I V) {E:Edges} (hE:EOK N E) (hq: ∀j,j<N→E.getD j []=edg (ents S I V N 0) j) {R U W:List Int} (hT:TL N R U W) (hMt:Mtc N E R) (hD:q14 N E R U W)
 (hg: ∀e∈ents S I V N 0,gE U W e≠none): ∃V',g19 m (N:Int) (N:Int) S I V R U W=some ((((N:Int),(N:Int),S,I,V',()),0,()),(),(),())∧V'.length=V.length∧
    ∀j',j'<N→ ∀s,(S.getD j' 0).toNat≤s→s<(S.getD (j'+1) 0).toNat→scV (V.getD s 0) (nnE U W (I.getD s 0) (j':Int))=some (V'.getD s 0):=by
 have hN:=hM.ok.cz
 rw[g19,qq3 hm hM hE hq hT hMt hD]
 simp only[Option.bind_some,bif_ne,if_true]
 have hs: ∀e∈ents S I V N 0,SOK N U W e:=fun e he=>by
  obtain⟨g,g1,g2⟩:=q5h hM e he
  obtain⟨j,t,_,h1,h2,h3,rfl⟩:=Qw.1 he
  have hr:=hM.ok.row (j:=j) O h2 h3
  refine⟨g,hr,⟨g1,g2⟩,fun hz=> ?_⟩
  have hmem:=(qkf hM (j:=j) O (x:=(I.getD t 0,(expOf (V.getD t 0)).1))).2 ⟨t,h2,h3,rfl,qo9.2 hz,rfl⟩
  rw[←hq j O]at hmem
  have hd:=(hD j O _ hmem).1
  have hlo:=g.lo
  simp only at hd hlo⊢
  rw[Int.toNat_natCast]
  omega
 rw[qe1 O O]
 simp only[Option.bind_some]
 rw[qcu hm hM]
 simp only[Option.bind_some]
 have hp0:=qmi hm hM hT hs 0 0 [] [] [] (N:Int) m 0 V O O rfl (fun _ _=>rfl) (fun j h=>absurd h (Nat.not_lt_zero _))
 rw[Int.natCast_zero]at hp0
 rcases hp0 with⟨V',p1,p2,p3⟩|⟨p1,e,he,hn⟩
 · rw[p1]
   exact⟨V',rfl,p2,p3⟩
 · exact absurd hn (hg e he)
end Go.Vs.F
set_option maxRecDepth 100000
namespace Go.Vs.F
variable {N:Nat} {S I V:List Int}
def absF (f:Int):Int:=f%9223372036854775808
theorem qpr {n:Nat} (h:n<18446744073709551616):qpp .u64 (n:Int) 9223372036854775808=((n%9223372036854775808:Nat):Int):=by
 unfold qpp
 show IntKind.wrap .u64 ((BitVec.ofInt 64 (n:Int)&&& ~~~(BitVec.ofInt 64 ((9223372036854775808:Nat):Int))).toNat:Int)=_
 rw[BitVec.toNat_and,BitVec.toNat_not,ofInt64 h,ofInt64 O]
 have e:n&&&(2^64-1-9223372036854775808)=n%9223372036854775808:=by
  rw[show(2:Nat)^64-1-9223372036854775808=2^63-1 by decide,Nat.and_two_pow_sub_one_eq_mod]
 rw[e,wu O O]
theorem nan1 {m:Nat} (hm:10<m) {f:Int} (h:GoodV f):g66 m [f]=some (false,(),()):=by
 obtain⟨k,rfl⟩: ∃k,m=k+3:=⟨m-3,O⟩
 have hk: ¬kindN f=3:=by unfold kindN;rw[if_neg h.f];split<;>decide
 have e:=(qeh (m:=k+3) h.u).1
 have l1:(([f]:List Int).length:Int)=1:=rfl
 have g0:([f]:List Int).getD (0:Int).toNat 0=f:=rfl
 rw[g66,g66_L0,g66_L0]
 simp only[l1,bif_decide,Int.zero_lt_one,if_true,Int.le_refl,and_self,g0,e,Option.bind_some,bif_eq,hk,if_false,w_i64_eq,wi (n:=(0:Int)+1) O O]
 rfl
theorem nan2 {m:Nat} (hm:10<m) {f g:Int} (h:GoodV f) (h2:GoodV g):g66 m [f,g]=some (false,(),()):=by
 obtain⟨k,rfl⟩: ∃k,m=k+4:=⟨m-4,O⟩
 have hk: ¬kindN f=3:=by unfold kindN;rw[if_neg h.f];split<;>decide
 have hk2: ¬kindN g=3:=by unfold kindN;rw[if_neg h2.f];split<;>decide
 have e:=(qeh (m:=k+4) h.u).1
 have e2:=(qeh (m:=k+4) h2.u).1
 have l1:(([f,g]:List Int).length:Int)=2:=rfl
 have g0:([f,g]:List Int).getD (0:Int).toNat 0=f:=rfl
 have g1:([f,g]:List Int).getD (1:Int).toNat 0=g:=rfl
 have w0:IntKind.wrap .i64 ((0:Int)+1)=1:=wi O O
 have w1:IntKind.wrap .i64 ((1:Int)+1)=2:=wi O O
 have c0:(0:Int)<2:=O
 have c1:(1:Int)<2:=O
 have c2:(0:Int)≤1:=O
 have c3: ¬(2:Int)<2:=O
 rw[g66,g66_L0]
 simp only[l1,bif_decide,c0,if_true,Int.le_refl,and_self,g0,e,Option.bind_some,bif_eq,hk,if_false,w_i64_eq,w0]
 rw[g66_L0]
 simp only[l1,bif_decide,c1,c2,if_true,and_self,g1,e2,Option.bind_some,bif_eq,hk2,if_false,w_i64_eq,w1]
 rw[g66_L0]
 simp only[bif_decide,c3,if_false]
 rfl
theorem qpt {f:Int} (h:GoodV f):GoodV (absF f)∧fneg (absF f)=false∧expOf (absF f)=expOf f:=by
 have hu:=h.u
 have hf:=h.f
 unfold U64 at hu
 have h1:fexp (absF f)=fexp f:=by unfold fexp absF;omega
 have h2:ffrac (absF f)=ffrac f:=by unfold ffrac absF;omega
 have h3:fneg (absF f)=false:=by unfold fneg absF;rw[decide_eq_false_iff_not];omega
 refine⟨⟨by unfold U64 absF;omega,by unfold FinF;rw[h1];exact hf⟩,h3,?_⟩
 have o2:ofE (absF f)=ofE f:=by unfold ofE;rw[h1]
 have o1:(ofZ (absF f)).natAbs=(ofZ f).natAbs:=by
  unfold ofZ;rw[h1,h2,h3]
  cases fneg f<;>simp<;>omega
 unfold expOf
 rw[o1,o2]
 by_cases hz:ofZ f=0
 · rw[if_pos hz,if_pos O]
 · rw[if_neg hz,if_neg O]
theorem qpz {m:Nat} (hm:10<m) {f:Int} (h:GoodV f):g25 m f=some (absF f,(),()):=by
 have hu:=h.u
 obtain⟨n,rfl⟩: ∃n:Nat,f=(n:Int):=⟨f.toNat,by have:=hu.1;omega⟩
 have hn:n<18446744073709551616:=by have:=hu.2;omega
 rw[g25,nan1 hm h]
 simp only[Option.bind_some,cond_false,qpr hn]
 unfold absF
 rw[Int.natCast_emod];rfl
theorem qps {m:Nat} {f:Int} (h:U64 f) (hn:fneg f=false):g67 m f=some (f,(),()):=by
 obtain⟨n,rfl⟩: ∃n:Nat,f=(n:Int):=⟨f.toNat,by have:=h.1;omega⟩
 have hn':n<9223372036854775808:=by unfold fneg at hn;rw[decide_eq_false_iff_not]at hn;omega
 rw[g67,q6t h,hn]
 simp only[Option.bind_some,cond_false,qpr (show n<18446744073709551616 by omega),w_i64_eq]
 rw[Nat.mod_eq_of_lt hn',wi O O]
def cmpI (a b:Int):Int:=if a<b then-1 else if a>b then 1 else 0
theorem qpy {m:Nat} (hm:10<m) {f g:Int} (h:GoodV f) (h2:GoodV g) (hn:fneg f=false) (hn2:fneg g=false):g24 m f g=some ((cmpI f g,true,()),(),(),()):=by
 rw[g24,nan2 hm h h2,qps h.u hn,qps h2.u hn2]
 simp only[Option.bind_some,cond_false,bif_decide]
 unfold cmpI
 split
 · rfl
 · split<;>rfl
theorem qpu {f:Int} (h:GoodV f) (hn:fneg f=false):(((expOf f).2=true→(expOf f).1≤0)→f<4611686018427387904)∧((expOf f)=(0,true)→4607182418800017408≤f):=by
 have hu:=h.u
 have hf:=h.f
 unfold U64 at hu
 unfold fneg at hn
 rw[decide_eq_false_iff_not]at hn
 have hfe:fexp f=f/4503599627370496%2048:=rfl
 have hff:ffrac f=f%4503599627370496:=rfl
 have hz:ofZ f=if fexp f=0 then ffrac f else ffrac f+4503599627370496:=by
  unfold ofZ fneg;rw[decide_eq_false hn];simp
 have hb:fexp f≠0→blen (ofZ f).natAbs=53:=fun c=>by
  rw[hz,if_neg c]
  exact qix O O
 constructor
 · intro hx
   refine Classical.byContradiction fun c=> ?_
   have hne:fexp f≠0:=O
   have hnz:ofZ f≠0:=by rw[hz,if_neg hne];omega
   have hb:=hb hne
   have he:expOf f=(ofE f+53-1,true):=by unfold expOf;rw[if_neg hnz,hb];rfl
   have hE:ofE f=fexp f-1075:=by unfold ofE;rw[if_neg hne]
   have:=hx (by rw[he])
   rw[he]at this
   simp only at this
   omega
 · intro hx
   refine Classical.byContradiction fun c=> ?_
   unfold expOf at hx
   split at hx
   · cases hx
   · have h1:ofE f+(blen (ofZ f).natAbs:Int)-1=0:=by injection hx
     by_cases h0:fexp f=0
     · have:=q5o f
       have:ofE f= -1074:=by unfold ofE;rw[if_pos h0]
       omega
     · have hb:=hb h0
       have hE:ofE f=fexp f-1075:=by unfold ofE;rw[if_neg h0]
       omega
theorem qpv:GoodV 4611686018427387904∧fneg 4611686018427387904=false:=⟨⟨by unfold U64;omega,by unfold FinF fexp;omega⟩,by unfold fneg;decide⟩
theorem qpw:GoodV 4607182418800017408∧fneg 4607182418800017408=false:=⟨⟨by unfold U64;omega,by unfold FinF fexp;omega⟩,by unfold fneg;decide⟩
theorem Sd_L0 (m:Nat) (hm:10<m) (n0 a0 a1:Int) (b0 b1 b2 a2 a3:List Int) {V':List Int} (hl:V'.length≤100000) (hV: ∀t,t<V'.length→GoodV (V'.getD t 0)∧((expOf (V'.getD t 0)).2=true→(expOf (V'.getD t 0)).1≤0)):
 ∀(n k:Nat),V'.length-k<n→sparselaw14_TransversalScaled_L0 m n n0 b0 b1 b2 a0 a1 a2 a3 V' (k:Int)=some (.inr (.inl (n0,(b0,b1,b2,()),(a0,a1,a2,a3,V',()),())))
 |0,k,h=>O
 |n+1,k,h=>by
  rw[sparselaw14_TransversalScaled_L0,bif_decide]
  by_cases hk:k<V'.length
  · have q1:(0:Int)≤(k:Int)∧(k:Int)<(V'.length:Int):=O
    obtain⟨g,gx⟩:=hV k hk
    obtain⟨g1,g2,g3⟩:=qpt g
    have hb:=(qpu g1 g2).1 (by rw[g3];exact gx)
    have hc: ¬cmpI (absF (V'.getD k 0)) 4611686018427387904≥0:=by unfold cmpI;rw[if_pos hb];omega
    rw[if_pos O]
    simp only[q1,and_self,if_true,Int.toNat_natCast,Nat.zero_add,qpz hm g,Option.bind_some,qpy hm g1 qpv.1 g2 qpv.2,Bool.not_true,cond_false,bif_decide,hc,if_false,w_i64_eq,wsucc (show k<4611686018427387904 by omega)]
    exact Sd_L0 m hm n0 a0 a1 b0 b1 b2 a2 a3 hl hV n (k+1) O
  · rw[if_neg O]
theorem Sd_L1 (m:Nat) (hm:3000000<m) (hM:MG N S I V) {R U W:List Int} (hR:R.length=N) (hRr: ∀j,j<N→0≤R.getD j 0∧R.getD j 0<(N:Int)) (hV: ∀j,j<N→ ∃t,(S.getD j 0).toNat≤t∧t<(S.getD (j+1) 0).toNat∧I.getD t 0=R.getD j 0∧expOf (V.getD t 0)=(0,true)):
 ∀(n k:Nat),N-k<n→sparselaw14_TransversalScaled_L1 m n (N:Int) R U W (N:Int) (N:Int) S I V (k:Int)=some (.inr (.inl ()))
 |0,k,h=>O
 |n+1,k,h=>by
  have hcz:=hM.ok.cz
  rw[sparselaw14_TransversalScaled_L1,bif_decide]
  by_cases hk:k<N
  · have q1:(0:Int)≤(k:Int)∧(k:Int)<(R.length:Int):=O
    obtain⟨t,h1,h2,h3,h4⟩:=hV k hk
    obtain⟨r1,r2⟩:=hRr k hk
    obtain⟨i,hi⟩: ∃i:Nat,R.getD k 0=(i:Int):=⟨_,(Int.toNat_of_nonneg r1).symm⟩
    have htl:=qm2 hM hk h2
    have hmem:((R.getD k 0,((k:Int),V.getD t 0)):Ent)∈ents S I V N 0:=Qw.2 ⟨k,t,Nat.zero_le _,O,h1,h2,by rw[h3]⟩
    obtain⟨v,hv,e1,_⟩:=qq1 hm hM.mv (i:=i) (j:=k) O hk
    rw[←hi]at hv e1
    have hvt:v=V.getD t 0:=hv.uniq hM.mv.dist (.inl hmem)
    subst hvt
    have g:=hM.good t htl
    obtain⟨g1,g2,g3⟩:=qpt g
    have hb:=(qpu g1 g2).2 (by rw[g3];exact h4)
    have hc: ¬cmpI (absF (V.getD t 0)) 4607182418800017408<0:=by unfold cmpI;rw[if_neg O];split<;>omega
    rw[if_pos O]
    simp only[q1,and_self,if_true,Int.toNat_natCast,Nat.zero_add,e1,Option.bind_some,qpz (m:=m) O g,qpy (m:=m) O g1 qpw.1 g2 qpw.2,Bool.not_true,cond_false,bif_decide,hc,if_false,w_i64_eq,wsucc (show k<4611686018427387904 by omega)]
    exact Sd_L1 m hm hM hR hRr hV n (k+1) O
  · rw[if_neg O]
theorem Tv.surj {E:Edges} {row U W:List Int} (h:Tv N E row U W) {i:Nat} (hi:i<N): ∃j,j<N∧(row.getD j 0).toNat=i:=by
 refine Classical.byContradiction fun hn=> ?_
 have hnd:((List.range N).map fun j=>(row.getD j 0).toNat).Nodup:=Xu (fun a ha b hb e=>by
  have h1:=h.rr a (List.mem_range.1 ha)
  have h2:=h.rr b (List.mem_range.1 hb)
  exact h.inj a b (List.mem_range.1 ha) (List.mem_range.1 hb) O) List.nodup_range
 have:=Z9 (l:=i::(List.range N).map fun j=>(row.getD j 0).toNat) (l':=List.range N) (List.nodup_cons.2 ⟨fun hmem=>by
  obtain⟨j,hj,e⟩:=List.mem_map.1 hmem
  exact hn ⟨j,List.mem_range.1 hj,e⟩,hnd⟩) (fun x hx=>by
  rcases List.mem_cons.1 hx with rfl|hx
  · exact List.mem_range.2 hi
  · obtain⟨j,hj,rfl⟩:=List.mem_map.1 hx
    have:=h.rr j (List.mem_range.1 hj)
    exact List.mem_range.2 O)
 simp only[List.length_cons,List.length_map,List.length_range]at this
 omega
theorem qq0 (hM:MG N S I V) {t:Nat} (ht:t<V.length): ∀(d k:Nat),k+d=N→(S.getD k 0).toNat≤t→ ∃j,j<N∧(S.getD j 0).toNat≤t∧t<(S.getD (j+1) 0).toNat
 |0,k,hk,h=>by
  have hk:k=N:=O
  subst hk
  have:=hM.ok.st.last
  have:=hM.vl
  omega
 |d+1,k,hk,h=>by
  by_cases c:t<(S.getD (k+1) 0).toNat
  · exact⟨k,O,h,c⟩
  · exact qq0 hM ht d (k+1) O O
theorem qpx (hN5:N≤5) (hG:MG N S I V) (hsm: ∀t,t<V.length→SmV (V.getD t 0)) {E:Edges} (hE:EOK N E) (hq: ∀j,j<N→E.getD j []=edg (ents S I V N 0) j) {row U W:List Int} (T:TrvM N E row U W):
 (∀j,j<N→0≤W.getD j 0∧W.getD j 0≤75)∧ ∀i,i<N→ -81≤U.getD i 0∧U.getD i 0≤9:=by
 have hw: ∀j,j<N→ ∀x∈E.getD j [],-6≤x.2∧x.2≤9:=fun j hj x hx=>by
  rw[hq j hj]at hx
  obtain⟨t,h1,h2,h3,h4,h5⟩:=(qkf hG hj).1 hx
  rw[h5];exact qpn (hsm t (qm2 hG hj h2))
 have hown: ∀j,j<N→ -6≤wE E j (row.getD j 0)∧wE E j (row.getD j 0)≤9:=fun j hj=>by
  obtain⟨x,hx,e,_⟩:=T.tv.tight j hj
  rw[←e,wE_eq hE hx];exact hw j hj x hx
 have hW:=T.lv.bd (W:=15) O (fun j k hj hk x hx e=>by
  have h1:=hw k hk x hx
  have h2:=hown j hj
  rw[e];omega)
 have hW2: ∀j,j<N→0≤W.getD j 0∧W.getD j 0≤75:=fun j hj=>by
  have h1:=hW j hj
  have h2:=T.lv.lo j hj
  omega
 refine⟨hW2,fun i hi=> ?_⟩
 obtain⟨j,hj,e⟩:=T.tv.surj hi
 have h1:=T.u j hj
 rw[e]at h1
 have h2:=hown j hj
 have h3:=hW2 j hj
 omega
theorem qpq (n:Int) (l:List Int): ∃m,sparselaw14_TransversalScaled m n l=some (true,(),(),()):=by
 refine⟨5000000000,?_⟩
 generalize hm0:(5000000000:Nat)=m
 have hm:4000000000<m:=O
 have hm2:m<4611686018427387904:=O
 clear hm0
 rw[sparselaw14_TransversalScaled,bif_decide]
 by_cases hl:(l.length:Int)>60
 · rw[if_pos hl,qat O];rfl
 rw[if_neg hl]
 obtain⟨N,hN,eP⟩:=qoh (a:=n) (n:=6) O O
 rw[show g8 m n 6=some ((N:Int),(),(),())from eP m]
 simp only[Option.bind_some]
 obtain⟨es,hE0,hs,eS⟩:=qot (N:=N) (l:=l) O O
 rw[eS m O]
 simp only[Option.bind_some]
 have hN5:N≤5:=O
 have hG:=qpk hE0 hs hN5
 have hsm: ∀t,t<(packV es N N).length→SmV ((packV es N N).getD t 0):=fun t ht=>by
  obtain⟨e,he,e2⟩:=qoq (X8 (d:=(0:Int)) ht)
  rw[←e2];exact hs e he
 obtain⟨E,hE,hq⟩:=qlr (m:=m) O hG
 generalize packS es N N=S at*
 generalize packI es N N=I at*
 generalize packV es N N=V at*
 have hil:=hG.il
 have hvl:=hG.vl
 rcases qgq m hm hN5 hG hq hE.len with⟨row,U,W,m1,T⟩|⟨m1,_⟩
 · obtain⟨t1,t2,t3⟩:=T.chk hE
   obtain⟨hW,hU⟩:=qpx hN5 hG hsm hE hq T
   have hstep: ∀j,j<N→ ∀t,(S.getD j 0).toNat≤t→t<(S.getD (j+1) 0).toNat→ ∃w,scV (V.getD t 0) (nnE U W (I.getD t 0) (j:Int))=some w∧GoodV w∧(ofZ (V.getD t 0)≠0→expOf w=((expOf (V.getD t 0)).1+nnE U W (I.getD t 0) (j:Int),true))∧(ofZ (V.getD t 0)=0→w=V.getD t 0):=fun j hj t h1 h2=>by
    have hr:=hG.ok.row hj h1 h2
    have b1:=hU (I.getD t 0).toNat O
    have b2:=hW j hj
    exact sm_sc (hsm t (qm2 hG hj h2)) (by unfold nnE;rw[Int.toNat_natCast];omega)
   obtain⟨V',y2,v1,v2⟩:=qq4 (m:=m) O hN5 hG hE hq t1 t2 t3 (fun e he=>by
    obtain⟨j,t,_,h1,h2,h3,rfl⟩:=Qw.1 he
    obtain⟨w,w1,_⟩:=hstep j O t h2 h3
    unfold gE
    simp only[w1]
    simp)
   have hx: ∀j,j<N→ ∀t,(S.getD j 0).toNat≤t→t<(S.getD (j+1) 0).toNat→GoodV (V'.getD t 0)∧((expOf (V'.getD t 0)).2=true→(expOf (V'.getD t 0)).1≤0)∧(ofZ (V.getD t 0)≠0→expOf (V'.getD t 0)=((expOf (V.getD t 0)).1+nnE U W (I.getD t 0) (j:Int),true)):=fun j hj t h1 h2=>by
    obtain⟨w,w1,w2,w3,w4⟩:=hstep j hj t h1 h2
    have hv:=v2 j hj t h1 h2
    rw[w1,Option.some.injEq]at hv
    rw[←hv]
    refine⟨w2,fun hw=> ?_,w3⟩
    by_cases hz:ofZ (V.getD t 0)=0
    · rw[w4 hz]at hw
      exact absurd hz (qo9.1 hw)
    · have hmem:=(qkf hG hj (x:=(I.getD t 0,(expOf (V.getD t 0)).1))).2 ⟨t,h1,h2,rfl,qo9.2 hz,rfl⟩
      rw[←hq j hj]at hmem
      have hf:=T.tv.feas j hj _ hmem
      simp only at hf
      rw[w3 hz]
      unfold nnE
      simp only[Int.toNat_natCast]
      omega
   have hV': ∀t,t<V'.length→GoodV (V'.getD t 0)∧((expOf (V'.getD t 0)).2=true→(expOf (V'.getD t 0)).1≤0):=fun t ht=>by
    obtain⟨j,hj,h1,h2⟩:=qq0 hG (t:=t) O N 0 O (by rw[hG.ok.st.s0];exact Nat.zero_le _)
    exact⟨(hx j hj t h1 h2).1,(hx j hj t h1 h2).2.1⟩
   have hG':MG N S I V':=by
    have hfin:finL V'=true:=by
     unfold finL
     refine Qe.2 fun i _ hi=> ?_
     have g:=(hV' i hi).1
     rw[q5c g.u];exact decide_eq_true g.f
    have hvl':V'.length=I.length:=by rw[v1,hvl]
    have hE2:EntsOK N N (ents S I V' N 0):=qeb hG.ok hvl' hfin
    obtain⟨k1,k2,k3⟩:=qac hG.ok hvl' hE2
    have ha:N*N≤5*5:=Nat.mul_le_mul hN5 hN5
    have hchk:=qom hE2 O O O
    rw[k1,k2,k3]at hchk
    exact⟨hG.ok,hvl',hchk,fun t ht=>(hV' t ht).1,hil⟩
   have hL0:=Sd_L0 m O (N:Int) (N:Int) (N:Int) row U W S I (V':=V') O hV' m 0 O
   have hL1:=Sd_L1 m O hG' (U:=U) (W:=W) T.tv.rl T.tv.rr (fun j hj=>by
    obtain⟨x,hx1,hx2,hx3⟩:=T.tv.tight j hj
    have hx1':=hx1
    rw[hq j hj]at hx1'
    obtain⟨t,h1,h2,h3,h4,h5⟩:=(qkf hG hj).1 hx1'
    refine⟨t,h1,h2,by rw[←h3,hx2],?_⟩
    rw[(hx j hj t h1 h2).2.2 (qo9.1 h4)]
    unfold nnE
    simp only[Int.toNat_natCast,Prod.mk.injEq,and_true]
    rw[←h5,←h3];omega) m 0 O
   rw[Int.natCast_zero]at hL0 hL1
   have r1:(row.length:Int)=(N:Int):=by rw[T.tv.rl]
   have r2:(V'.length:Int)=(V.length:Int):=by rw[v1]
   rw[m1]
   simp only[Option.bind_some,bif_ne,if_true]
   rw[y2]
   simp only[Option.bind_some,bif_ne,if_true,r1]
   rw[if_pos r2,hL0]
   simp only[Option.bind_some]
   rw[hL1]
   simp only[Option.bind_some]
   rw[qat O];rfl
 · rw[m1]
   simp only[Option.bind_some,bif_ne,bif_eq]
   rw[if_neg O,if_pos trivial,qat O];rfl
end Go.Vs.F
