/-The edges of a matrix;Maximum,as a whole. The document's best weight:it tries all transversals. The document's assignment:the lexicographically least transversal of greatest weight. The document's assignment,column by column. Maximum:the program's and the document's. Check:the program's and the document's,for any lists. Check:both give the same. Scaling by the duals:one value. Scaling by the duals:both give the same. The laws TransversalExact and TransversalMade. The law TransversalInvariant. The law TransversalInvariant,as a whole. -/
import Derived.Test.YtkfooaihogahcaaGreatDoorLg
import Derived.Test.YtkfooaihogahcaaGreatDoorLf
import Derived.Test.YtkfooaihogahcaaGreatDoorLb
set_option linter.unusedVariables false
set_option linter.unusedSimpArgs false
namespace Go.Vs.F
variable {N:Nat} {S I V:List Int}
theorem MatOK.uniq {R C:Nat} (hM:MatOK R C S I) {j:Nat} (hj:j<C) {t t':Nat} (h1:(S.getD j 0).toNat≤t) (h2:t<(S.getD (j+1) 0).toNat) (h3:(S.getD j 0).toNat≤t') (h4:t'<(S.getD (j+1) 0).toNat) (e:I.getD t 0=I.getD t' 0):t=t':=by
 rcases Nat.lt_trichotomy t t' with h|h|h
 · have:=hM.asc hj (t'-t-1) t h1 (by omega)
   rw[show t+(t'-t-1+1)=t' by omega]at this;omega
 · exact h
 · have:=hM.asc hj (t-t'-1) t' h3 (by omega)
   rw[show t'+(t-t'-1+1)=t by omega]at this;omega
structure MG (N:Nat) (S I V:List Int):Prop where
 ok:MatOK N N S I
 vl:V.length=I.length
 chk:chk (N:Int) (N:Int) S I V=0
 good: ∀t,t<V.length→GoodV (V.getD t 0)
 il:I.length≤200
def edg1 (j:Nat) (e:Ent):Option (Int×Int):=if e.2.1=(j:Int)∧(expOf e.2.2).2=true then some (e.1,(expOf e.2.2).1)else none
def edg (es:List Ent) (j:Nat):List (Int×Int):=es.filterMap (edg1 j)
theorem q1h (m:Nat) {es:List Ent} (hm:3000000<m) (hg: ∀e∈es,GoodV e.2.2∧0≤e.2.1∧e.2.1<(N:Int)) (hl:es.length≤1000): ∀(n k:Nat) (out:List (List (Int×Int))),es.length-k<n→k≤es.length→out.length=N→
 (∀j,j<N→out.getD j []=edg (es.take k) j)→
 ∃E,g39_L0 m n out es (es.length:Int) (k:Int)=some (.inl (E,()))∧E.length=N∧ ∀j,j<N→E.getD j []=edg es j
 |0,k,out,h,_,_,_=>by omega
 |n+1,k,out,h,hk0,ho,hq=>by
  rw[g39_L0]
  by_cases hk:k<es.length
  · have h1:((k:Int)<(es.length:Int)):=by omega
    have c1:(0:Int)≤(k:Int)∧(k:Int)<(es.length:Int):=by omega
    have hmem:es.getD k (0,(0,0))∈es:=X8 hk
    obtain⟨g,g1,g2⟩:=hg _ hmem
    have htk:es.take (k+1)=es.take k++[es.getD k (0,(0,0))]:=by
     rw[List.take_add_one]
     congr 1
     rw[List.getElem?_eq_getElem hk,List.getD,List.getElem?_eq_getElem hk];rfl
    have hed: ∀j,edg (es.take (k+1)) j=edg (es.take k) j++(edg1 j (es.getD k (0,(0,0)))).toList:=fun j=>by
     unfold edg;rw[htk,List.filterMap_append]
     congr 1
    simp only[bif_decide,h1,if_true,c1,and_self,Int.toNat_natCast,Nat.zero_add,w_i64_eq,wsucc (show k<4611686018427387904 by omega)]
    generalize es.getD k (0,(0,0))=y at*
    rw[g.float hm]
    simp only[Option.bind_some]
    rcases Bool.eq_false_or_eq_true (expOf y.2.2).2 with hx|hx
    · rw[hx]
      simp only[cond_true]
      have c2:(0:Int)≤y.2.1∧y.2.1<(out.length:Int):=by omega
      have hjN:y.2.1.toNat<N:=by omega
      have c3:(out.getD y.2.1.toNat []).length+([(y.1,(expOf y.2.2).1)]:List (Int×Int)).length≤1073741824:=by
       rw[hq _ hjN]
       have:(edg (es.take k) y.2.1.toNat).length≤(es.take k).length:=List.length_filterMap_le ..
       rw[List.length_take]at this
       show _+1≤_
       omega
      simp only[c2,c3,and_self,if_true]
      refine q1h m hm hg hl n (k+1) _ (by omega) (by omega) (by simp[ho]) fun j hj=> ?_
      rw[hed,Q8 (by omega)]
      split
      · rename_i e
        rw[hq _ hjN,←e,edg1,if_pos ⟨by omega,hx⟩];rfl
      · rename_i e
        rw[hq j hj,edg1,if_neg (fun c=>e (by omega))];simp
    · rw[hx]
      simp only[cond_false]
      refine q1h m hm hg hl n (k+1) _ (by omega) (by omega) ho fun j hj=> ?_
      rw[hed,hq j hj,edg1,if_neg (fun c=>by rw[hx]at c;cases c.2)];simp
  · have h1: ¬((k:Int)<(es.length:Int)):=by omega
    simp only[bif_decide,h1,if_false]
    refine⟨out,rfl,ho,fun j hj=> ?_⟩
    rw[hq j hj,List.take_of_length_le (by omega)]
theorem qkf (hM:MG N S I V) {j:Nat} (hj:j<N) {x:Int×Int}:x∈edg (ents S I V N 0) j↔ ∃t,(S.getD j 0).toNat≤t∧t<(S.getD (j+1) 0).toNat∧x.1=I.getD t 0∧(expOf (V.getD t 0)).2=true∧x.2=(expOf (V.getD t 0)).1:=by
 unfold edg
 rw[List.mem_filterMap]
 constructor
 · rintro ⟨e,he,hx⟩
   obtain⟨j',t,_,_,h1,h2,rfl⟩:=Qw.1 he
   unfold edg1 at hx
   split at hx
   · rename_i c
     obtain⟨c1,c2⟩:=c
     cases hx
     have:j'=j:=by simp only at c1;omega
     subst this
     exact⟨t,h1,h2,rfl,c2,rfl⟩
   · cases hx
 · rintro ⟨t,h1,h2,h3,h4,h5⟩
   refine⟨(I.getD t 0,(j:Int),V.getD t 0),Qw.2 ⟨j,t,Nat.zero_le _,by omega,h1,h2,rfl⟩,?_⟩
   unfold edg1
   rw[if_pos ⟨rfl,h4⟩]
   obtain⟨x1,x2⟩:=x
   simp only at h3 h5
   rw[h3,h5]
theorem qm2 (hM:MG N S I V) {j:Nat} (hj:j<N) {t:Nat} (h2:t<(S.getD (j+1) 0).toNat):t<V.length:=by
 have:=hM.ok.st.rng (j:=j+1) (by omega)
 rw[hM.vl];omega
theorem q5h (hM:MG N S I V): ∀e∈ents S I V N 0,GoodV e.2.2∧0≤e.2.1∧e.2.1<(N:Int):=by
 intro e he
 obtain⟨j,t,_,h0,h1,h2,rfl⟩:=Qw.1 he
 exact⟨hM.good t (qm2 hM (by omega) h2),by simp only;omega,by simp only;omega⟩
theorem qme (hM:MG N S I V):(ents S I V N 0).length≤200:=by
 rw[q9l hM.ok N 0 (by omega) (by omega)]
 have:=hM.ok.st.last
 have:=hM.il
 omega
theorem qkh (hM:MG N S I V) {j:Nat} (hj:j<N):(edg (ents S I V N 0) j).Pairwise fun x y=>x.1<y.1:=by
 unfold edg
 rw[List.pairwise_filterMap]
 have key: ∀(d k:Nat),k+d=N→(ents S I V d k).Pairwise fun a b=> ∀x,edg1 j a=some x→ ∀y,edg1 j b=some y→x.1<y.1:=by
  intro d
  induction d with
  |zero=>intro k _;exact List.Pairwise.nil
  |succ d ih=>
   intro k hk
   rw[ents,List.pairwise_append]
   refine⟨?_,ih (k+1) (by omega),?_⟩
   · unfold Qy
     rw[List.pairwise_map]
     refine List.Pairwise.imp_of_mem ?_ (List.pairwise_lt_range' (s:=(S.getD k 0).toNat) (n:=(S.getD (k+1) 0).toNat-(S.getD k 0).toNat))
     intro a b ha hb hab x hx y hy
     rw[List.mem_range'_1]at ha hb
     unfold edg1 at hx hy
     split at hx
     · rename_i c
       split at hy
       · cases hx;cases hy
         have hkj:k=j:=by have:=c.1;simp only at this;omega
         subst hkj
         have:=hM.ok.asc (j:=k) hj (b-a-1) a (by omega) (by omega)
         rw[show a+(b-a-1+1)=b by omega]at this
         exact this
       · cases hy
     · cases hx
   · intro a ha b hb x hx y hy
     unfold Qy at ha
     obtain⟨t,_,rfl⟩:=List.mem_map.1 ha
     obtain⟨j',t',h1,_,_,_,rfl⟩:=Qw.1 hb
     unfold edg1 at hx hy
     split at hx
     · rename_i c
       split at hy
       · rename_i c'
         have:=c.1;have:=c'.1
         simp only at*
         omega
       · cases hy
     · cases hx
 exact key N 0 (by omega)
theorem q8u (m:Nat) (hm:3000000<m) (hM:MG N S I V): ∃E,g39 m (N:Int) (N:Int) S I V=some (E,(),())∧EOK N E∧ ∀j,j<N→E.getD j []=edg (ents S I V N 0) j:=by
 have hN:=hM.ok.cz
 have hsl:S.length≤201:=by rw[hM.ok.st.len];omega
 have hvl:V.length≤200:=by rw[hM.vl];exact hM.il
 rw[g39,g87,g29_eq (by omega) (by omega) (by omega) (by omega) (by omega),hM.chk]
 have c1:(0:Int)≤(N:Int)∧(N:Int)≤(N:Int)∧(N:Int)≤1073741824:=by omega
 have hel:=qme hM
 obtain⟨E,e,h1,h2⟩:=q1h m (es:=ents S I V N 0) (by omega) (q5h hM) (by omega) m 0 (List.replicate N []) (by omega) (by omega) (by simp) (fun j hj=>by rw[qo hj];rfl)
 rw[Int.natCast_zero]at e
 simp only[c1,and_self,if_true,Option.bind_some,bif_ne,q6y (m:=m) (by omega) hM.ok hM.vl,Int.toNat_natCast,e]
 refine⟨E,rfl,?_,h2⟩
 have hz: ∀j,¬j<N→E.getD j []=[]:=fun j hj=>Qc (by omega)
 have hmem: ∀j,∀x∈E.getD j [],j<N∧ ∃t,(S.getD j 0).toNat≤t∧t<(S.getD (j+1) 0).toNat∧x.1=I.getD t 0∧(expOf (V.getD t 0)).2=true∧x.2=(expOf (V.getD t 0)).1:=fun j x hx=>by
  by_cases hj:j<N
  · rw[h2 j hj]at hx
    exact⟨hj,(qkf hM hj).1 hx⟩
  · rw[hz j hj]at hx;cases hx
 refine⟨h1,hN,fun j x hx=> ?_,fun j x hx=> ?_,fun j=> ?_,fun j x hx y hy e=> ?_⟩
 · obtain⟨hj,t,q1,q2,q3,_⟩:=hmem j x hx
   rw[q3];exact hM.ok.row hj q1 q2
 · obtain⟨hj,t,q1,q2,q3,q4,q5⟩:=hmem j x hx
   have:=hM.good t (qm2 hM hj q2)
   rw[q5];exact this.lo
 · by_cases hj:j<N
   · rw[h2 j hj]
     have:(edg (ents S I V N 0) j).length≤(ents S I V N 0).length:=List.length_filterMap_le ..
     omega
   · rw[hz j hj];simp
 · obtain⟨hj,t,q1,q2,q3,q4,q5⟩:=hmem j x hx
   obtain⟨_,t',r1,r2,r3,r4,r5⟩:=hmem j y hy
   have:=hM.ok.uniq hj q1 q2 r1 r2 (by rw[←q3,←r3,e])
   subst this
   rw[q5,r5]
structure TrvM (N:Nat) (E:Edges) (row U V:List Int):Prop where
 tv:Tv N E row U V
 lex:LexA N E fun j=>(row.getD j 0).toNat
 lv:LV N E row fun k=>V.getD k 0
 u: ∀j,j<N→U.getD (row.getD j 0).toNat 0=wE E j (row.getD j 0)-V.getD j 0
theorem no_ag {E:Edges} (h: ∀s,¬Trv N E s): ∀s,¬Ag N (Ed E) s:=fun s hs=>h s ⟨fun j hj=>by
 obtain⟨x,hx,e⟩:=(hs.ok j hj).2
 exact⟨x,hx,by omega⟩,hs.inj⟩
theorem qgq (m:Nat) (hm:4000000000<m) (hN5:N≤5) (hM:MG N S I V) {E:Edges} (hE: ∀j,j<N→E.getD j []=edg (ents S I V N 0) j) (hEl:E.length=N):
 (∃row U W,g12 m (N:Int) (N:Int) S I V=some (((row,U,W,()),0,()),(),())∧TrvM N E row U W)∨
 (g12 m (N:Int) (N:Int) S I V=some ((([],[],[],()),9,()),(),())∧ ∀s,¬Ag N (Ed E) s):=by
 have hN:=hM.ok.cz
 have hsl:S.length≤201:=by rw[hM.ok.st.len];omega
 have hvl:V.length≤200:=by rw[hM.vl];exact hM.il
 obtain⟨E',e,hE',hq⟩:=q8u m (by omega) hM
 have:E'=E:=Yl [] (by rw[hE'.len,hEl]) fun k hk=>by rw[hq k (by rw[hE'.len]at hk;exact hk),hE k (by rw[hE'.len]at hk;exact hk)]
 subst this
 rw[g12,g37,g29_eq (by omega) (by omega) (by omega) (by omega) (by omega),hM.chk]
 simp only[Option.bind_some,bif_eq,bif_ne,if_true,e]
 rcases qnd m (by omega) hE' hN5 with⟨u,v,row,col,e2,B⟩|⟨e2,hno⟩
 · rw[e2]
   simp only[Option.bind_some]
   obtain⟨row',col',e3,hP,ht,hL⟩:=qkx m (by omega) hE' (fun j hj=>by rw[hq j hj];exact qkh hM hj) B
   rw[e3]
   simp only[Option.bind_some]
   obtain⟨U,W,e4,hT,hc,hl,hu⟩:=qkq m hm hN5 hE' hP ht B.vb B.mt.feas
   rw[e4]
   simp only[Option.bind_some]
   exact .inl ⟨row',U,W,rfl,hT,ql4 hE' B.mt.feas hP ht hL,⟨fun k _=>hT.vn k,hc,hl⟩,hu⟩
 · rw[e2]
   exact .inr ⟨rfl,no_ag hno⟩
variable {N:Nat} {S I V:List Int}
def colF (I V:List Int) (a e:Nat):List (Int×Int):=(List.range' a (e-a)).filterMap fun t=>if(expOf (V.getD t 0)).2=true then some (I.getD t 0,(expOf (V.getD t 0)).1)else none
theorem qhy {j:Nat}: ∀(d k:Nat),edg (ents S I V d k) j=if k≤j∧j<k+d then colF I V (S.getD j 0).toNat (S.getD (j+1) 0).toNat else []
 |0,k=>by rw[if_neg (by omega)];rfl
 |d+1,k=>by
  have ih:=qhy (j:=j) d (k+1)
  unfold edg at ih⊢
  rw[ents,List.filterMap_append,ih]
  have hc:(Qy S I V k (S.getD k 0).toNat (S.getD (k+1) 0).toNat).filterMap (edg1 j)=if k=j then colF I V (S.getD j 0).toNat (S.getD (j+1) 0).toNat else []:=by
   unfold Qy colF
   rw[List.filterMap_map]
   by_cases e:k=j
   · subst e
     rw[if_pos rfl]
     congr 1
     funext t
     simp only[Function.comp,edg1,true_and]
   · rw[if_neg e]
     refine List.filterMap_eq_nil_iff.2 fun t _=> ?_
     simp only[Function.comp,edg1]
     rw[if_neg (fun c=>e (by have:=c.1;omega))]
  rw[hc]
  by_cases e:k=j
  · subst e
    rw[if_pos rfl,if_neg (by omega),if_pos (by omega),List.append_nil]
  · rw[if_neg e,List.nil_append]
    by_cases c:k+1≤j∧j<k+1+d
    · rw[if_pos c,if_pos (by omega)]
    · rw[if_neg c,if_neg (by omega)]
variable {N:Nat} {S I V:List Int}
variable {N:Nat} {S I V:List Int}
theorem MG.mv (h:MG N S I V):MV N N S I V:=⟨h.ok,h.vl,h.chk⟩
variable {N:Nat} {S I V:List Int}
variable {N:Nat} {S I V:List Int}
end Go.Vs.F
set_option maxRecDepth 100000
namespace Go.Vs.F
variable {N:Nat} {S I V:List Int}
def scV (v n:Int):Option Int:=if ofZ v=0 then some v else if exB (ofZ v) (ofE v+Qd n)=true then some (Qv (mkD (ofZ v) (ofE v+Qd n)) 0)else none
theorem qo9 {v:Int}:(expOf v).2=true↔ofZ v≠0:=by
 unfold expOf
 split
 · rename_i h;exact⟨(fun c=>by cases c),fun c=>absurd h c⟩
 · rename_i h;exact⟨fun _=>h,fun _=>rfl⟩
end Go.Vs.F
set_option maxRecDepth 100000
namespace Go.Vs.F
variable {N:Nat} {S I V:List Int}
end Go.Vs.F
set_option maxRecDepth 100000
namespace Go.Vs.F
theorem q6v (m:Nat) (a:List Int) (hb:a.length≤1000000000): ∀(n k:Nat),k≤a.length→a.length-k<n→g42_L0 m n a (a.take k) (k:Int)=some (.inl (a,()))
 |0,k,_,h=>by omega
 |n+1,k,hk0,h=>by
  rw[g42_L0]
  by_cases hk:k<a.length
  · have h1:((k:Int)<(a.length:Int)):=by omega
    have h2:(a.take k).length+1≤1073741824:=by rw[List.length_take];omega
    simp only[bif_decide,h1,if_true,Int.toNat_natCast,Int.natCast_nonneg,and_self,wsucc (show k<4611686018427387904 by omega),List.length_singleton,h2]
    rw[←take_snoc hk rfl,q6v m a hb n (k+1) hk (by omega)]
  · have h1: ¬((k:Int)<(a.length:Int)):=by omega
    simp only[bif_decide,h1,if_false]
    rw[List.take_of_length_le (by omega)]
theorem q5n {m:Nat} {a:List Int} (h:a.length<m) (hb:a.length≤1000000000):g42 m a=some (a,(),()):=by
 rw[g42]
 have:=q6v m a hb m 0 (by omega) (by omega)
 simp only[Int.cast_ofNat_Int,List.take_zero,Int.natCast_zero,Int.ofNat_zero]at this
 rw[this];rfl
theorem q25 (m:Nat) (a:List Int) (hb:a.length≤1000000000): ∀(n k:Nat),k≤a.length→a.length-k<n→g43_L0 m n a (a.take k) (k:Int)=some (.inl (a,()))
 |0,k,_,h=>by omega
 |n+1,k,hk0,h=>by
  rw[g43_L0]
  by_cases hk:k<a.length
  · have h1:((k:Int)<(a.length:Int)):=by omega
    have h2:(a.take k).length+1≤1073741824:=by rw[List.length_take];omega
    simp only[bif_decide,h1,if_true,Int.toNat_natCast,Int.natCast_nonneg,and_self,wsucc (show k<4611686018427387904 by omega),List.length_singleton,h2]
    rw[←take_snoc hk rfl,q25 m a hb n (k+1) hk (by omega)]
  · have h1: ¬((k:Int)<(a.length:Int)):=by omega
    simp only[bif_decide,h1,if_false]
    rw[List.take_of_length_le (by omega)]
theorem q92 {m:Nat} {a:List Int} (h:a.length<m) (hb:a.length≤1000000000):g43 m a=some (a,(),()):=by
 rw[g43]
 have:=q25 m a hb m 0 (by omega) (by omega)
 simp only[Int.cast_ofNat_Int,List.take_zero,Int.natCast_zero,Int.ofNat_zero]at this
 rw[this];rfl
theorem qa8 {m:Nat} {a b:Int} {S I V:List Int} (h1:S.length<m) (h2:I.length<m) (h3:V.length<m) (h4:S.length≤1000000000) (h5:I.length≤1000000000) (h6:V.length≤1000000000):
 g13 m a b S I V=some ((a,b,S,I,V,()),(),()):=by
 rw[g13,q5n h1 h4,q5n h2 h5,q92 h3 h6];rfl
theorem qlu (k:Nat):sparselaw14_awake (k+100)=some (true,()):=by kernel_rfl
theorem qat {m:Nat} (h:100≤m):sparselaw14_awake m=some (true,()):=by
 obtain⟨k,rfl⟩: ∃k,m=k+100:=⟨m-100,by omega⟩
 exact qlu k
theorem qkc {m:Nat} {a b c:List Int} (h1:a.length<m) (h2:b.length<m) (h3:c.length<m) (h4:m<4611686018427387904):sparselaw14_same m a b c a b c=some (true,(),(),()):=by
 rw[sparselaw14_same,q08 h1 (by omega),q08 h2 (by omega),q08 h3 (by omega)];rfl
theorem qlr {m:Nat} (hm:3000000<m) {N:Nat} {S I V:List Int} (hM:MG N S I V): ∃E,EOK N E∧ ∀j,j<N→E.getD j []=edg (ents S I V N 0) j:=by
 obtain⟨E,_,h1,h2⟩:=q8u m hm hM
 exact⟨E,h1,h2⟩
theorem SmV.goodV {v:Int} (h:SmV v):GoodV v:=⟨h.u,h.f⟩
theorem qpk {N:Nat} {es:List Ent} (hE:EntsOK N N es) (hs: ∀e∈es,SmV e.2.2) (hN:N≤5):MG N (packS es N N) (packI es N N) (packV es N N):=by
 have ha:N*N≤5*5:=Nat.mul_le_mul hN hN
 have h1:=qcq es N N
 refine⟨qp7 (by omega) (by omega) (by omega),q4r _ _ _,qom hE (by omega) (by omega) (by omega),fun t ht=> ?_,by omega⟩
 obtain⟨e,he,e2⟩:=qoq (X8 (d:=(0:Int)) ht)
 rw[←e2];exact(hs e he).goodV
end Go.Vs.F
set_option maxRecDepth 100000
namespace Go.Vs.F
theorem EqD.nz {z e w f:Int} (h:EqD z e w f) (hz:z≠0):w≠0:=fun e0=>by
 subst e0
 have:=h.sgn
 rw[show Vs.F.sgn 0=0 from rfl,Qs]at this
 exact hz this
theorem qpn {v:Int} (h:SmV v): -6≤(expOf v).1∧(expOf v).1≤9:=by
 unfold expOf
 split
 · exact⟨by decide,by decide⟩
 · rename_i hz
   obtain⟨k,h1,h2,h3⟩:=h.k
   have hl:=h1.log hz
   have hk:=h1.nz hz
   have hb:blen k.natAbs≤16:=X6 (by omega)
   have hb0:1≤blen k.natAbs:=by
    rcases Nat.eq_zero_or_pos (blen k.natAbs)with h0|h0
    · have:=q90 (n:=k.natAbs) (by omega)
      have h5:=(qfg (n:=k.natAbs) (by omega)).1
      have:blen (k.natAbs/2^tz k.natAbs)=0:=by omega
      have h6:=qlz (n:=k.natAbs/2^tz k.natAbs) (k:=0)
      exfalso
      unfold blen at this
      have hp:0<k.natAbs/2^tz k.natAbs:=Nat.pos_of_ne_zero h5
      split at this<;>omega
    · exact h0
   simp only
   omega
theorem sm_sc {v n:Int} (h:SmV v) (hn: -1000≤n∧n≤800): ∃w,scV v n=some w∧GoodV w∧(ofZ v≠0→expOf w=((expOf v).1+n,true))∧(ofZ v=0→w=v):=by
 have hc:Qd n=n:=by unfold Qd;omega
 by_cases hz:ofZ v=0
 · exact⟨v,by unfold scV;rw[if_pos hz],h.goodV,fun c=>absurd hz c,fun _=>rfl⟩
 · obtain⟨k,h1,h2,h3⟩:=h.k
   have hE:EqD k (-6+n) (ofZ v) (ofE v+n):=by
    have:=h1.symm.mul (EqD.refl 1 n)
    rwa [Int.mul_one,Int.mul_one]at this
   have hR:Rep (ofZ v) (ofE v+n):=Rep.of_mul hE (Nat.le_trans (X6 (k:=16) (by omega)) (by omega)) (by omega) (by omega)
   obtain⟨g1,g2,g3⟩:=qoi hR 0
   have hnz:=g3.symm.nz hz
   refine⟨_,by unfold scV;rw[if_neg hz,hc,if_pos hR.ex],⟨g1,g2⟩,fun _=> ?_,fun c=>absurd c hz⟩
   have hl:=g3.log hnz
   unfold expOf
   rw[if_neg hnz,if_neg hz]
   simp only[Prod.mk.injEq,and_true]
   omega
def gS (p q:List Int) (e:Ent):Option Int:=scV e.2.2 (p.getD e.1.toNat 0+q.getD e.2.1.toNat 0)
def GS (p q:List Int) (e:Ent):Ent:=(e.1,(e.2.1,(gS p q e).getD e.2.2))
def SmL (p:List Int):Prop:= ∀i,-10≤p.getD i 0∧p.getD i 0≤10
theorem qp9 {m:Nat} (hm:3000000<m) {p q:List Int} (hp:SmL p) (hq:SmL q) (a0 a1:Int) (a2 a3 a4:List Int) {es:List Ent} (hl:es.length≤100000)
 (hs: ∀e∈es,SmV e.2.2∧(0≤e.1∧e.1<(p.length:Int))∧(0≤e.2.1∧e.2.1<(q.length:Int))): ∀(n k:Nat),es.length-k<n→k≤es.length→
 g11_L0 m n p q a0 a1 a2 a3 a4 0 0 [] [] [] ((es.take k).map (GS p q)++es.drop k) (es.length:Int) (k:Int)=some (.inr (.inl ((a0,a1,a2,a3,a4,()),(0,0,[],[],[],()),es.map (GS p q),())))
 |0,k,h,_=>by omega
 |n+1,k,h,hk0=>by
  have ih:=qp9 hm hp hq a0 a1 a2 a3 a4 hl hs n (k+1)
  have hlen:((es.take k).map (GS p q)++es.drop k).length=es.length:=by
   rw[List.length_append,List.length_map,List.length_take,List.length_drop];omega
  rw[g11_L0,hlen,bif_decide]
  by_cases hk:k<es.length
  · obtain⟨x,hx⟩: ∃x,es.getD k zE=x:=⟨_,rfl⟩
    have hmem:x∈es:=by rw[←hx];exact qap hk
    have hdrop:es.drop k=x::es.drop (k+1):=by rw[drop_cons (d:=zE) hk,hx]
    have htake:(es.take (k+1)).map (GS p q)=(es.take k).map (GS p q)++[GS p q x]:=by
     rw[q0x hk,hx,List.map_append];rfl
    have hA:((es.take k).map (GS p q)).length=k:=by rw[List.length_map,List.length_take];omega
    rw[htake,List.append_assoc,List.singleton_append]at ih
    rw[hdrop]
    generalize hAe:(es.take k).map (GS p q)=A at*
    generalize hDe:es.drop (k+1)=D at*
    have hget:(A++x::D).getD k (0,(0,0))=x:=by rw[←hA];simp[List.getD]
    have hset: ∀y,(A++x::D).set k y=A++y::D:=fun y=>by rw[←hA];simp
    obtain⟨g,r1,r2⟩:=hs x hmem
    have c1:(0:Int)≤(k:Int)∧(k:Int)<(es.length:Int):=by omega
    have hlen':((A++x::D).length:Int)=(es.length:Int):=by rw[←hdrop,hlen]
    rw[if_pos (by omega)]
    have hb1:=hp x.1.toNat
    have hb2:=hq x.2.1.toNat
    have mp:I64 (p.getD x.1.toNat 0):=by unfold I64;omega
    have mq:I64 (q.getD x.2.1.toNat 0):=by unfold I64;omega
    have hsat:satA (p.getD x.1.toNat 0) (q.getD x.2.1.toNat 0)=p.getD x.1.toNat 0+q.getD x.2.1.toNat 0:=by unfold satA;rw[if_neg (by omega),if_neg (by omega)]
    obtain⟨w,w1,w2,w3,w4⟩:=sm_sc g (n:=p.getD x.1.toNat 0+q.getD x.2.1.toNat 0) (by omega)
    have hGx:GS p q x=(x.1,(x.2.1,w)):=by unfold GS gS;rw[w1];rfl
    rw[hGx]at ih
    simp only[hlen',c1,r1,r2,and_self,if_true,Int.toNat_natCast,Nat.zero_add,hget,(qeh (m:=m) g.u).1,Option.bind_some,bif_eq,w_i64_eq,wsucc (show k<4611686018427387904 by omega),hset]
    by_cases hz:kindN x.2.2=0
    · rw[if_pos hz]
      have hwv:=w4 (q29.2 (q4t.1 hz))
      rw[hwv]at ih
      exact ih (by omega) (by omega)
    · rw[if_neg hz]
      have hzn:ofZ x.2.2≠0:=fun h=>hz (q4t.2 (q29.1 h))
      have hof:ofD x.2.2=mkD (ofZ x.2.2) (ofE x.2.2):=if_pos g.f
      have hD:=qb3 g.f
      have hDS:=qiu (m:=m) hm (a:=ofZ x.2.2) (B:=ofE x.2.2) (n:=p.getD x.1.toNat 0+q.getD x.2.1.toNat 0)
      rw[if_pos hD]at hDS
      unfold scV at w1
      rw[if_neg hzn]at w1
      split at w1
      · rename_i hex
        cases w1
        simp only[Of_eq hm g.u,hof,Option.bind_some,qpc mp mq,hsat]
        rw[hDS]
        simp only[Option.bind_some]
        rw[(q7h hm).1]
        simp only[Option.bind_some,hex,Bool.not_true,cond_false]
        exact ih (by omega) (by omega)
      · cases w1
  · rw[if_neg (by omega)]
    have hk2:k=es.length:=by omega
    subst hk2
    rw[List.take_length,List.drop_length,List.append_nil]
variable {N:Nat} {S I V:List Int}
theorem qox {V':List Int} {f:Ent→Ent} (h: ∀j',j'<N→ ∀s,(S.getD j' 0).toNat≤s→s<(S.getD (j'+1) 0).toNat→f (I.getD s 0,((j':Int),V.getD s 0))=(I.getD s 0,((j':Int),V'.getD s 0))):
 ∀(d k:Nat),k+d=N→ents S I V' d k=(ents S I V d k).map f
 |0,k,_=>rfl
 |d+1,k,hk=>by
  rw[ents,ents,List.map_append,qox h d (k+1) (by omega)]
  congr 1
  unfold Qy
  rw[List.map_map]
  refine List.map_congr_left fun t ht=> ?_
  rw[List.mem_range'_1]at ht
  exact(h k (by omega) t (by omega) (by omega)).symm
structure Shf (N:Nat) (E E':Edges) (p q:List Int):Prop where
 to: ∀j,j<N→ ∀x∈E.getD j [],(x.1,x.2+(p.getD x.1.toNat 0+q.getD j 0))∈E'.getD j []
 back: ∀j,j<N→ ∀x∈E'.getD j [],(x.1,x.2-(p.getD x.1.toNat 0+q.getD j 0))∈E.getD j []
theorem Shf.ag {E E':Edges} {p q:List Int} (h:Shf N E E' p q) (s:Nat→Nat):Ag N (Ed E) s↔Ag N (Ed E') s:=
 ⟨fun a=>⟨fun k hk=>⟨(a.ok k hk).1,by
   obtain⟨x,hx,e⟩:=(a.ok k hk).2
   exact⟨_,h.to k hk x hx,e⟩⟩,a.inj⟩,fun a=>⟨fun k hk=>⟨(a.ok k hk).1,by
   obtain⟨x,hx,e⟩:=(a.ok k hk).2
   exact⟨_,h.back k hk x hx,e⟩⟩,a.inj⟩⟩
theorem Shf.sum {E E':Edges} {p q:List Int} (hE:EOK N E) (hE':EOK N E') (h:Shf N E E' p q) {s:Nat→Nat} (hs:Ag N (Ed E) s):
 sm (fun j=>wE E' j (s j)) N=sm (fun j=>wE E j (s j)) N+(sm (fun i=>p.getD i 0) N+sm (fun j=>q.getD j 0) N):=by
 have e1:sm (fun j=>wE E' j (s j)) N=sm (fun j=>wE E j (s j)+(p.getD (s j) 0+q.getD j 0)) N:=q4o fun j hj=>by
  obtain⟨x,hx,e⟩:=(hs.ok j hj).2
  have h1:=wE_eq hE' (h.to j hj x hx)
  have h2:=wE_eq hE hx
  simp only at h1
  rw[←e,h1,h2,e,Int.toNat_natCast]
 rw[e1,qm6,qm6,qnu (p:=s) (g:=fun i=>p.getD i 0) (fun j hj=>(hs.ok j hj).1) (fun j k hj hk=>hs.inj j k hj hk)]
theorem Shf.lex {E E':Edges} {p q:List Int} (hE:EOK N E) (hE':EOK N E') (h:Shf N E E' p q) {s:Nat→Nat} (hs:LexA N E' s):LexA N E s:=by
 have hM: ∀t,MaxA N E t↔MaxA N E' t:=fun t=>
  ⟨fun a=>⟨(h.ag t).1 a.ag,fun u hu=>by
    have hu':=(h.ag u).2 hu
    rw[h.sum hE hE' hu',h.sum hE hE' a.ag]
    have:=a.top u hu'
    omega⟩,fun a=>⟨(h.ag t).2 a.ag,fun u hu=>by
    have:=a.top u ((h.ag u).1 hu)
    rw[h.sum hE hE' hu,h.sum hE hE' ((h.ag t).2 a.ag)]at this
    omega⟩⟩
 exact⟨(hM s).2 hs.mx,fun j hj t ht hag=>hs.lx j hj t ((hM t).1 ht) hag⟩
theorem TrvM.uniq {E:Edges} {r U W r2 U2 W2:List Int} (h:TrvM N E r U W) (h2:TrvM N E r2 U2 W2):r=r2∧U=U2∧W=W2:=by
 have hr:r=r2:=Yl 0 (by rw[h.tv.rl,h2.tv.rl]) fun j hj=>by
  have hj':j<N:=by rw[h.tv.rl]at hj;exact hj
  have h1:=h.lex.uniq h2.lex j hj'
  have h3:=h.tv.rr j hj'
  have h4:=h2.tv.rr j hj'
  omega
 subst hr
 have hW:W=W2:=Yl 0 (by rw[h.tv.vl,h2.tv.vl]) fun j hj=>by
  have hj':j<N:=by rw[h.tv.vl]at hj;exact hj
  have h1:=h.lv.least _ h2.lv.lo h2.lv.clo j hj'
  have h3:=h2.lv.least _ h.lv.lo h.lv.clo j hj'
  omega
 subst hW
 refine⟨rfl,?_,rfl⟩
 refine Yl 0 (by rw[h.tv.ul,h2.tv.ul]) fun i hi=> ?_
 have hi':i<N:=by rw[h.tv.ul]at hi;exact hi
 obtain⟨j,hj,ej⟩: ∃j,j<N∧(r.getD j 0).toNat=i:=by
  refine Classical.byContradiction fun hn=> ?_
  have hnd:((List.range N).map fun j=>(r.getD j 0).toNat).Nodup:=Xu (fun a ha b hb e=>by
   have h1:=h.tv.rr a (List.mem_range.1 ha)
   have h2:=h.tv.rr b (List.mem_range.1 hb)
   exact h.tv.inj a b (List.mem_range.1 ha) (List.mem_range.1 hb) (by omega)) List.nodup_range
  have:=Z9 (l:=i::(List.range N).map fun j=>(r.getD j 0).toNat) (l':=List.range N) (List.nodup_cons.2 ⟨fun hmem=>by
   obtain⟨j,hj,e⟩:=List.mem_map.1 hmem
   exact hn ⟨j,List.mem_range.1 hj,e⟩,hnd⟩) (fun x hx=>by
   rcases List.mem_cons.1 hx with rfl|hx
   · exact List.mem_range.2 hi'
   · obtain⟨j,hj,rfl⟩:=List.mem_map.1 hx
     have:=h.tv.rr j (List.mem_range.1 hj)
     exact List.mem_range.2 (by omega))
  simp only[List.length_cons,List.length_map,List.length_range]at this
  omega
 rw[←ej,h.u j hj,h2.u j hj]
theorem qpl {m:Nat} {f:Int} (h:U64 f) (hf:FinF f):g14 m f=some (negF f,(),()):=by
 obtain⟨n,rfl⟩: ∃n:Nat,f=(n:Int):=⟨f.toNat,by have:=h.1;omega⟩
 have hn:n<18446744073709551616:=by have:=h.2;omega
 have hk: ¬kindN (n:Int)=3:=by unfold kindN;rw[if_neg hf];split<;>decide
 rw[g14,g44,(qeh (m:=m) h).2]
 simp only[Option.bind_some,bif_eq,if_neg hk]
 rw[qpi hn]
theorem qon {v:Int} (h:GoodV v):GoodV (negF v)∧expOf (negF v)=expOf v:=by
 obtain⟨h1,h2,h3,h4⟩:=qp3 h.u
 have o1:ofZ (negF v)= -ofZ v:=by unfold ofZ;rw[h2,h3,h4];cases fneg v<;>simp
 have o2:ofE (negF v)=ofE v:=by unfold ofE;rw[h2]
 refine⟨⟨h1,by unfold FinF;rw[h2];exact h.f⟩,?_⟩
 unfold expOf
 rw[o1,o2,Int.natAbs_neg]
 by_cases hz:ofZ v=0
 · rw[if_pos hz,if_pos (by omega)]
 · rw[if_neg hz,if_neg (by omega)]
theorem qpe (m:Nat) (hV: ∀t,t<V.length→GoodV (V.getD t 0)) (hl:V.length≤100000) (n0 v14 v16 v18 a0 a1:Int) (b0 b1 b2 c0 c1 c2 a2 a3:List Int): ∀(n k:Nat) (Vc:List Int),V.length-k<n→k≤V.length→Vc.length=V.length→(∀i,i<k→Vc.getD i 0=negF (V.getD i 0))→(∀i,k≤i→Vc.getD i 0=V.getD i 0)→
 sparselaw14_TransversalInvariant_L1 m n n0 v14 b0 b1 b2 v16 c0 c1 c2 v18 a0 a1 a2 a3 Vc (k:Int)=some (.inl (n0,v14,(b0,b1,b2,()),v16,(c0,c1,c2,()),v18,(a0,a1,a2,a3,V.map negF,()),()))
 |0,k,Vc,h,_,_,_,_=>by omega
 |n+1,k,Vc,h,hk0,hvc,h1,h2=>by
  rw[sparselaw14_TransversalInvariant_L1,bif_decide,hvc]
  by_cases hk:k<V.length
  · have q1:(0:Int)≤(k:Int)∧(k:Int)<(V.length:Int):=by omega
    have g:=hV k hk
    rw[if_pos (by omega)]
    simp only[q1,and_self,if_true,Int.toNat_natCast,Nat.zero_add,h2 k (Nat.le_refl _),qpl g.u g.f,Option.bind_some,w_i64_eq,wsucc (show k<4611686018427387904 by omega)]
    refine qpe m hV hl n0 v14 v16 v18 a0 a1 b0 b1 b2 c0 c1 c2 a2 a3 n (k+1) _ (by omega) (by omega) (by simp[hvc]) (fun i hi=> ?_) fun i hi=> ?_
    · rw[Q8 (by omega)]
      split
      · rename_i e;rw[e]
      · exact h1 i (by omega)
    · rw[getD_set_ne (by omega)];exact h2 i (by omega)
  · rw[if_neg (by omega)]
    have:Vc=V.map negF:=Yl 0 (by rw[hvc,List.length_map]) fun i hi=>by
     rw[h1 i (by omega)]
     simp[List.getD,show i<V.length by omega]
    rw[this]
theorem qpd (m:Nat) (l2 l3:List Int) (b0 b1:Int) (b2 b3 b4:List Int) (hN:N≤5): ∀(n k:Nat) (p q:List Int),N-k<n→k≤N→p.length=k→q.length=k→SmL p→SmL q→
 ∃p' q',sparselaw14_TransversalInvariant_L0 m n (N:Int) l2 l3 b0 b1 b2 b3 b4 p q (k:Int)=some (.inl ((N:Int),(b0,b1,b2,b3,b4,()),p',q',()))∧p'.length=N∧q'.length=N∧SmL p'∧SmL q'
 |0,k,p,q,h,_,_,_,_,_=>by omega
 |n+1,k,p,q,h,hk0,hp,hq,sp,sq=>by
  rw[sparselaw14_TransversalInvariant_L0,bif_decide]
  by_cases hk:k<N
  · rw[if_pos (by omega)]
    have hAt: ∀l:List Int,∃x,g10 m l (k:Int)=some (x,(),(),()):=fun l=>by
     rw[g10,bif_decide]
     by_cases c:(k:Int)<(l.length:Int)
     · rw[if_pos c,if_pos (by omega)];exact⟨_,rfl⟩
     · rw[if_neg c];exact⟨_,rfl⟩
    obtain⟨x,ex⟩:=hAt l2
    obtain⟨y,ey⟩:=hAt l3
    obtain⟨a,ha,ea⟩:=qoh (a:=x) (n:=21) (by omega) (by omega)
    obtain⟨b,hb,eb⟩:=qoh (a:=y) (n:=21) (by omega) (by omega)
    have ea':g8 m x 21=some ((a:Int),(),(),()):=ea m
    have eb':g8 m y 21=some ((b:Int),(),(),()):=eb m
    have w1:IntKind.wrap .i64 ((a:Int)-10)=(a:Int)-10:=wi (by omega) (by omega)
    have w2:IntKind.wrap .i64 ((b:Int)-10)=(b:Int)-10:=wi (by omega) (by omega)
    have c1:p.length+([(a:Int)-10]:List Int).length≤1073741824:=by show p.length+1≤_;omega
    have c2:q.length+([(b:Int)-10]:List Int).length≤1073741824:=by show q.length+1≤_;omega
    simp only[ex,ey,ea',eb',Option.bind_some,w_i64_eq,w1,w2,c1,c2,if_true,wsucc (show k<4611686018427387904 by omega)]
    have hap: ∀(l:List Int) (z:Int),SmL l→ -10≤z→z≤10→SmL (l++[z]):=fun l z hl h1 h2 i=>by
     by_cases c:i<l.length
     · simp only[List.getD,List.getElem?_append_left c];exact hl i
     · by_cases c2:i=l.length
       · subst c2;simp[List.getD];omega
       · rw[Qc (by simp;omega)];omega
    exact qpd m l2 l3 b0 b1 b2 b3 b4 hN n (k+1) _ _ (by omega) (by omega) (by simp[hp]) (by simp[hq]) (hap _ _ sp (by omega) (by omega)) (hap _ _ sq (by omega) (by omega))
  · rw[if_neg (by omega)]
    have:k=N:=by omega
    subst this
    exact⟨p,q,rfl,hp,hq,sp,sq⟩
end Go.Vs.F
set_option maxRecDepth 100000
namespace Go.Vs.F
variable {N:Nat} {S I V:List Int}
theorem qog {f g:Nat→Option (Int×Int)}: ∀{l:List Nat},(∀x∈l,f x=g x)→l.filterMap f=l.filterMap g
 |[],_=>rfl
 |x::l,h=>by
  rw[List.filterMap_cons,List.filterMap_cons,h x (List.mem_cons_self ..),qog fun y hy=>h y (List.mem_cons_of_mem _ hy)]
theorem qou {m:Nat} (hm:3000000<m) (hN5:N≤5) (hG:MG N S I V) (hsm: ∀t,t<V.length→SmV (V.getD t 0)) {E:Edges} (hq0: ∀j,j<N→E.getD j []=edg (ents S I V N 0) j) {p q:List Int} (hpl:p.length=N) (hql:q.length=N) (hp:SmL p) (hq:SmL q):
 ∃V',g11 m (N:Int) (N:Int) S I V p q=some ((((N:Int),(N:Int),S,I,V',()),0,()),(),(),(),())∧MG N S I V'∧ ∀E':Edges,(∀j,j<N→E'.getD j []=edg (ents S I V' N 0) j)→Shf N E E' p q:=by
 have hcz:=hG.ok.cz
 have hvl:=hG.vl
 have hil:=hG.il
 have hsl:S.length≤201:=by rw[hG.ok.st.len];omega
 have hel:=qme hG
 have hs: ∀e∈ents S I V N 0,SmV e.2.2∧(0≤e.1∧e.1<(p.length:Int))∧(0≤e.2.1∧e.2.1<(q.length:Int)):=fun e he=>by
  obtain⟨j,t,_,h1,h2,h3,rfl⟩:=Qw.1 he
  have hr:=hG.ok.row (j:=j) (by omega) h2 h3
  have:=qm2 hG (j:=j) (by omega) h3
  exact⟨hsm t this,by simp only;omega,by simp only;omega⟩
 let col:Nat→Nat:=fun t=>((List.range N).find? fun j=>decide ((S.getD j 0).toNat≤t∧t<(S.getD (j+1) 0).toNat)).getD 0
 have hcol: ∀j,j<N→ ∀t,(S.getD j 0).toNat≤t→t<(S.getD (j+1) 0).toNat→col t=j:=fun j hj t h1 h2=>by
  have hex: ∃x,(List.range N).find? (fun j=>decide ((S.getD j 0).toNat≤t∧t<(S.getD (j+1) 0).toNat))=some x:=by
   cases hf:(List.range N).find? (fun j=>decide ((S.getD j 0).toNat≤t∧t<(S.getD (j+1) 0).toNat))with
   |none=>
    have:=List.find?_eq_none.1 hf j (List.mem_range.2 hj)
    exact absurd (decide_eq_true ⟨h1,h2⟩) this
   |some x=>exact⟨x,rfl⟩
  obtain⟨x,hx⟩:=hex
  have hxm:=List.mem_range.1 (List.mem_of_find?_eq_some hx)
  have hxp0:=List.find?_some hx
  have hxp:=of_decide_eq_true hxp0
  show(((List.range N).find? fun j=>decide ((S.getD j 0).toNat≤t∧t<(S.getD (j+1) 0).toNat)).getD 0)=j
  rw[hx,Option.getD_some]
  have a1:=hG.ok.st.rng (j:=x+1) (by omega)
  have a2:=hG.ok.st.rng (j:=j+1) (by omega)
  have a3:=hG.ok.st.rng (j:=j) (by omega)
  have a4:=hG.ok.st.rng (j:=x) (by omega)
  rcases Nat.lt_trichotomy x j with c|c|c
  · have:=hG.ok.st.le (i:=x+1) (j:=j) (by omega) (by omega)
    omega
  · exact c
  · have:=hG.ok.st.le (i:=j+1) (j:=x) (by omega) (by omega)
    omega
 let V':List Int:=(List.range V.length).map fun t=>(gS p q (I.getD t 0,((col t:Int),V.getD t 0))).getD (V.getD t 0)
 have hV':V'.length=V.length:=by simp[V']
 have hVg: ∀t,t<V.length→V'.getD t 0=(gS p q (I.getD t 0,((col t:Int),V.getD t 0))).getD (V.getD t 0):=fun t ht=>by simp[V',List.getD,ht]
 have hmap:=qox (N:=N) (S:=S) (I:=I) (V:=V) (V':=V') (f:=GS p q) (fun j hj t h1 h2=>by
  have ht:=qm2 hG hj h2
  rw[hVg t ht,hcol j hj t h1 h2]
  rfl) N 0 (by omega)
 have hval: ∀t,t<V.length→ ∀n,scV (V.getD t 0) n=none∨True:=fun _ _ _=> .inr trivial
 have hgood: ∀t,t<V'.length→GoodV (V'.getD t 0):=fun t ht=>by
  rw[hV']at ht
  rw[hVg t ht]
  have b1:=hp (I.getD t 0).toNat
  have b2:=hq (col t)
  obtain⟨w,w1,w2,_⟩:=sm_sc (hsm t ht) (n:=p.getD (I.getD t 0).toNat 0+q.getD (col t) 0) (by omega)
  have:gS p q (I.getD t 0,((col t:Int),V.getD t 0))=some w:=by
   unfold gS;simp only[Int.toNat_natCast];exact w1
  rw[this];exact w2
 have hfin:finL V'=true:=by
  unfold finL
  refine Qe.2 fun i _ hi=> ?_
  have g:=hgood i hi
  rw[q5c g.u];exact decide_eq_true g.f
 have hvl':V'.length=I.length:=by rw[hV',hvl]
 have hE':EntsOK N N (ents S I V' N 0):=qeb hG.ok hvl' hfin
 obtain⟨k1,k2,k3⟩:=qac hG.ok hvl' hE'
 have hchk:chk (N:Int) (N:Int) S I V'=0:=by
  have ha:N*N≤5*5:=Nat.mul_le_mul hN5 hN5
  have:=qom hE' (by omega) (by omega) (by omega)
  rwa [k1,k2,k3]at this
 have hG':MG N S I V':=⟨hG.ok,hvl',hchk,hgood,hil⟩
 refine⟨V',?_,hG',fun E' hq'=>⟨fun j hj x hx=> ?_,fun j hj x hx=> ?_⟩⟩
 · have l1:(p.length:Int)=(N:Int):=by omega
   have l2:(q.length:Int)=(N:Int):=by omega
   have h0:=qp9 hm hp hq (N:Int) (N:Int) S I V (es:=ents S I V N 0) (by omega) hs m 0 (by omega) (Nat.zero_le _)
   rw[List.take_zero,List.map_nil,List.nil_append,List.drop_zero,Int.natCast_zero]at h0
   rw[g11,g29_eq (by omega) (by omega) (by omega) (by omega) (by omega),hG.chk]
   simp only[Option.bind_some,bif_ne,if_true,l1,l2]
   rw[q6y (by omega) hG.ok hG.vl]
   simp only[Option.bind_some]
   rw[h0,←hmap]
   simp only[Option.bind_some]
   have hle:(ents S I V' N 0).length≤1000000:=by rw[hmap,List.length_map];omega
   rw[qky hE' hG'.mv.dist (by omega) (by omega) hle (by omega),k1,k2,k3]
   rfl
 · rw[hq0 j hj]at hx
   obtain⟨t,h1,h2,h3,h4,h5⟩:=(qkf hG hj).1 hx
   have ht:=qm2 hG hj h2
   have b1:=hp (I.getD t 0).toNat
   have b2:=hq j
   obtain⟨w,w1,w2,w3,_⟩:=sm_sc (hsm t ht) (n:=p.getD (I.getD t 0).toNat 0+q.getD j 0) (by omega)
   have hv:V'.getD t 0=w:=by
    rw[hVg t ht,hcol j hj t h1 h2]
    unfold gS;simp only[Int.toNat_natCast];rw[w1];rfl
   have he:=w3 (qo9.1 h4)
   rw[hq' j hj]
   refine(qkf hG' hj).2 ⟨t,h1,h2,h3,?_,?_⟩
   · rw[hv,he]
   · rw[hv,he,h3,h5]
 · rw[hq' j hj]at hx
   obtain⟨t,h1,h2,h3,h4,h5⟩:=(qkf hG' hj).1 hx
   have ht:=qm2 hG hj h2
   have b1:=hp (I.getD t 0).toNat
   have b2:=hq j
   obtain⟨w,w1,w2,w3,w4⟩:=sm_sc (hsm t ht) (n:=p.getD (I.getD t 0).toNat 0+q.getD j 0) (by omega)
   have hv:V'.getD t 0=w:=by
    rw[hVg t ht,hcol j hj t h1 h2]
    unfold gS;simp only[Int.toNat_natCast];rw[w1];rfl
   have hnz:ofZ (V.getD t 0)≠0:=fun hz=>by
    have:=w4 hz
    rw[hv,this]at h4
    exact qo9.1 h4 hz
   have he:=w3 hnz
   rw[hq0 j hj]
   refine(qkf hG hj).2 ⟨t,h1,h2,h3,qo9.2 hnz,?_⟩
   rw[h5,hv,he,h3]
   simp only
   omega
theorem qof (n:Int) (l p q:List Int): ∃m,sparselaw14_TransversalInvariant m n l p q=some (true,(),(),(),(),()):=by
 refine⟨5000000000,?_⟩
 generalize hm0:(5000000000:Nat)=m
 have hm:4000000000<m:=by omega
 have hm2:m<4611686018427387904:=by omega
 clear hm0
 rw[sparselaw14_TransversalInvariant,bif_decide]
 by_cases hl:(l.length:Int)>60
 · rw[if_pos hl,qat (by omega)];rfl
 rw[if_neg hl]
 obtain⟨N,hN,eP⟩:=qoh (a:=n) (n:=6) (by omega) (by omega)
 rw[show g8 m n 6=some ((N:Int),(),(),())from eP m]
 simp only[Option.bind_some]
 obtain⟨es,hE0,hs,eS⟩:=qot (N:=N) (l:=l) (by omega) (by omega)
 rw[eS m (by omega)]
 simp only[Option.bind_some]
 have hN5:N≤5:=by omega
 have hG:=qpk hE0 hs hN5
 have hsm: ∀t,t<(packV es N N).length→SmV ((packV es N N).getD t 0):=fun t ht=>by
  obtain⟨e,he,e2⟩:=qoq (X8 (d:=(0:Int)) ht)
  rw[←e2];exact hs e he
 obtain⟨E,hE,hq⟩:=qlr (m:=m) (by omega) hG
 generalize packS es N N=S at*
 generalize packI es N N=I at*
 generalize packV es N N=V at*
 have hil:=hG.il
 have hvl:=hG.vl
 have hsl:S.length≤201:=by rw[hG.ok.st.len];omega
 obtain⟨p',q',e0,p1,q1,p2,q2⟩:=qpd (N:=N) m p q (N:Int) (N:Int) S I V hN5 m 0 [] [] (by omega) (by omega) rfl rfl (fun i=>by simp[List.getD]) (fun i=>by simp[List.getD])
 rw[Int.natCast_zero]at e0
 rw[e0]
 simp only[Option.bind_some]
 obtain⟨V',e1,hG',hShf⟩:=qou (m:=m) (by omega) hN5 hG hsm hq p1 q1 p2 q2
 obtain⟨E',hE',hq'⟩:=qlr (m:=m) (by omega) hG'
 have hSh:=hShf E' hq'
 rw[e1]
 simp only[Option.bind_some]
 have hG2:MG N S I (V.map negF):=by
  have hgood: ∀t,t<(V.map negF).length→GoodV ((V.map negF).getD t 0):=fun t ht=>by
   rw[List.length_map]at ht
   have:(V.map negF).getD t 0=negF (V.getD t 0):=by simp[List.getD,ht]
   rw[this];exact(qon (hG.good t ht)).1
  have hfin:finL (V.map negF)=true:=by
   unfold finL
   refine Qe.2 fun i _ hi=> ?_
   have g:=hgood i hi
   rw[q5c g.u];exact decide_eq_true g.f
  have hvl2:(V.map negF).length=I.length:=by rw[List.length_map,hvl]
  have hE2:EntsOK N N (ents S I (V.map negF) N 0):=qeb hG.ok hvl2 hfin
  obtain⟨k1,k2,k3⟩:=qac hG.ok hvl2 hE2
  have ha:N*N≤5*5:=Nat.mul_le_mul hN5 hN5
  have hchk:=qom hE2 (by omega) (by omega) (by omega)
  rw[k1,k2,k3]at hchk
  exact⟨hG.ok,hvl2,hchk,hgood,hil⟩
 have hq2: ∀j,j<N→E.getD j []=edg (ents S I (V.map negF) N 0) j:=fun j hj=>by
  rw[hq j hj,qhy,qhy]
  by_cases c:0≤j∧j<0+N
  · rw[if_pos c,if_pos c]
    unfold colF
    refine qog fun t ht=> ?_
    rw[List.mem_range'_1]at ht
    have a1:=hG.ok.st.rng (j:=j+1) (by omega)
    have htl:t<V.length:=by omega
    have:(V.map negF).getD t 0=negF (V.getD t 0):=by simp[List.getD,htl]
    rw[this,(qon (hG.good t htl)).2]
  · rw[if_neg c,if_neg c]
 have hTw:=qa8 (m:=m) (a:=(N:Int)) (b:=(N:Int)) (S:=S) (I:=I) (V:=V) (by omega) (by omega) (by omega) (by omega) (by omega) (by omega)
 have fin: ∀(row row' U W U' W':List Int) (c:Int),row.length≤100→U.length≤100→W.length≤100→row=row'→(c=0→row.length=N)→g12 m (N:Int) (N:Int) S I V=some (((row,U,W,()),c,()),(),())→g12 m (N:Int) (N:Int) S I V'=some (((row',U',W',()),c,()),(),())→
  g12 m (N:Int) (N:Int) S I (V.map negF)=some (((row,U,W,()),c,()),(),())→
  ((g12 m (N:Int) (N:Int) S I V).bind fun y7=>
  (g12 m (N:Int) (N:Int) S I V').bind fun y8=>
  (g13 m (N:Int) (N:Int) S I V).bind fun y9=>
  (sparselaw14_TransversalInvariant_L1 m m (N:Int) 0 y7.1.1.1 y7.1.1.2.1 y7.1.1.2.2.1 y7.1.2.1 y8.1.1.1 y8.1.1.2.1 y8.1.1.2.2.1 y8.1.2.1 y9.1.1 y9.1.2.1 y9.1.2.2.1 y9.1.2.2.2.1 y9.1.2.2.2.2.1 0).bind fun y10=>
  match y10 with
  | .inl z11=>
    (g12 m z11.2.2.2.2.2.2.1.1 z11.2.2.2.2.2.2.1.2.1 z11.2.2.2.2.2.2.1.2.2.1 z11.2.2.2.2.2.2.1.2.2.2.1 z11.2.2.2.2.2.2.1.2.2.2.2.1).bind fun y12=>
    bif z11.2.1==0 then
     bif z11.2.2.2.1==z11.2.2.2.2.2.1 then
      bif z11.2.2.2.1==y12.1.2.1 then
       (g15 m z11.2.2.1.1 z11.2.2.2.2.1.1).bind fun y13=>
       bif y13.1 then
        (sparselaw14_same m z11.2.2.1.1 z11.2.2.1.2.1 z11.2.2.1.2.2.1 y12.1.1.1 y12.1.1.2.1 y12.1.1.2.2.1).bind fun y14=>
        bif y14.1 then
         bif z11.2.2.2.1 !=0 then
          (sparselaw14_awake m).bind fun y15=>
          some (y15.1,((),(),(),(),()))
         else
          bif (z11.2.2.1.1.length:Int)==z11.1 then
           (sparselaw14_awake m).bind fun y16=>
           some (y16.1,((),(),(),(),()))
          else
           some (false,((),(),(),(),()))
        else
         some (false,((),(),(),(),()))
       else
        some (false,((),(),(),(),()))
      else
       some (false,((),(),(),(),()))
     else
      some (false,((),(),(),(),()))
    else
     some (false,((),(),(),(),()))
  | .inr e=>
    e.elim)=some (true,(),(),(),(),()):=by
  intro row row' U W U' W' c hr hu hw hrr hc m1 m2 m3
  subst hrr
  have hL1:=qpe (V:=V) m hG.good (by omega) (N:Int) 0 c c (N:Int) (N:Int) row U W row U' W' S I m 0 V (by omega) (by omega) rfl (fun i h=>absurd h (Nat.not_lt_zero _)) (fun _ _=>rfl)
  rw[Int.natCast_zero]at hL1
  rw[m1,m2,hTw]
  simp only[Option.bind_some]
  rw[hL1]
  simp only[Option.bind_some]
  rw[m3]
  simp only[Option.bind_some,bif_eq,if_true]
  rw[q08 (by omega) (by omega)]
  simp only[Option.bind_some,cond_true]
  rw[qkc (by omega) (by omega) (by omega) hm2]
  simp only[Option.bind_some,cond_true,bif_ne,bif_eq]
  by_cases c0:c=0
  · have:=hc c0
    rw[if_pos c0,if_pos (by omega),qat (by omega)];rfl
  · rw[if_neg c0,qat (by omega)];rfl
 rcases qgq m hm hN5 hG hq hE.len with⟨row,U,W,m1,T1⟩|⟨m1,n1⟩
 · rcases qgq m hm hN5 hG' hq' hE'.len with⟨row',U',W',m2,T2⟩|⟨m2,n2⟩
   · rcases qgq m hm hN5 hG2 hq2 hE.len with⟨r3,U3,W3,m3,T3⟩|⟨m3,n3⟩
     · obtain⟨a1,a2,a3⟩:=T1.uniq T3
       subst a1;subst a2;subst a3
       have hL2:=hSh.lex hE hE' T2.lex
       have hrow:row=row':=Yl 0 (by rw[T1.tv.rl,T2.tv.rl]) fun j hj=>by
        have hj':j<N:=by rw[T1.tv.rl]at hj;exact hj
        have h1:=T1.lex.uniq hL2 j hj'
        have h3:=T1.tv.rr j hj'
        have h4:=T2.tv.rr j hj'
        omega
       exact fin row row' U W U' W' 0 (by rw[T1.tv.rl];omega) (by rw[T1.tv.ul];omega) (by rw[T1.tv.vl];omega) hrow (fun _=>T1.tv.rl) m1 m2 m3
     · exact absurd T1.lex.mx.ag (n3 _)
   · exact absurd ((hSh.ag _).1 T1.lex.mx.ag) (n2 _)
 · rcases qgq m hm hN5 hG' hq' hE'.len with⟨row',U',W',m2,T2⟩|⟨m2,n2⟩
   · exact absurd ((hSh.ag _).2 T2.lex.mx.ag) (n1 _)
   · rcases qgq m hm hN5 hG2 hq2 hE.len with⟨r3,U3,W3,m3,T3⟩|⟨m3,n3⟩
     · exact absurd T3.lex.mx.ag (n1 _)
     · exact fin [] [] [] [] [] [] 9 (by simp) (by simp) (by simp) rfl (fun h=>by cases h) m1 m2 m3
end Go.Vs.F
