/-Matrices and their entries:what is packed depends on the set of entries alone;packing the entries of a matrix gives it back. Moves of a matrix:transposing,the lower triangle,permuting and selecting;the program's and the document's. Lists of indices:places,ranges,doubles,permutations. The law MatrixMoves. The made values:rounding the sum of one of them gives it back (closed evaluations). Building from entries at different positions;made matrices. The law MatrixRound. Looking up by bisection;comparing a float with itself;symmetric made matrices. -/
import Derived.Test.YtkfooaihogahcaaGreatDoorLa
set_option linter.unusedVariables false
set_option linter.unusedSimpArgs false
namespace Go.Vs.F
section
variable {es es':List Ent} {r c:Nat}
theorem DistE.val (hD:DistE es) {i j v v':Int} (h:((i,(j,v)):Ent)∈es) (h':((i,(j,v')):Ent)∈es):v=v':=by
 obtain⟨k,hk,e⟩:=Xk h;obtain⟨k',hk',e'⟩:=Xk h';have:=hD k k' hk hk' (by rw[e,e']) (by rw[e,e'])
 subst this;rw[e]at e';cases e';rfl
theorem qp2 {i j:Nat} (h:0<Qq es i j es.length):(((i:Int),((j:Int),(es.getD (Qq es i j es.length-1) zE).2.2)):Ent)∈es:=by
 obtain⟨g1,g2,g3⟩:=q5a h;rw[show((i:Int),((j:Int),(es.getD (Qq es i j es.length-1) zE).2.2))=es.getD (Qq es i j es.length-1) zE by rw[<-g2,<-g3]]
 simp[List.getD,g1]
theorem q47 {α:Type} {A B D:List α} {k:Nat} {d:α} (hk:k<B.length):(A++B++D).getD (A.length+k) d=B.getD k d:=by
 have: ¬A.length+k<A.length:=O;simp[List.getD,List.getElem?_append,hk,this]
theorem qe3 {j:Nat} (hj:j<c): ∃zs,packI es r c=packI es r j++colI es j 0 r++zs:=by
 obtain⟨zs,e⟩:=qbj (es:=es) (r:=r) (t:=j+1) (c-(j+1));rw[show j+1+(c-(j+1))=c by omega]at e
 exact⟨zs,by rw[e,packI]⟩
theorem qd2 {t:Nat}: ∀d,∃zs,packV es r (t+d)=packV es r t++zs
 |0=>⟨[],by simp⟩
 |d+1=>by
  obtain⟨zs,h⟩:=qd2 (t:=t) d;exact⟨zs++colV es (t+d) 0 r,by rw[<-Nat.add_assoc,packV,h,List.append_assoc]⟩
theorem qdu {j:Nat} (hj:j<c): ∃zs,packV es r c=packV es r j++colV es j 0 r++zs:=by
 obtain⟨zs,e⟩:=qd2 (es:=es) (r:=r) (t:=j+1) (c-(j+1));rw[show j+1+(c-(j+1))=c by omega]at e
 exact⟨zs,by rw[e,packV]⟩
theorem qe0 {j:Nat} (hj:j<c):Qy (packS es r c) (packI es r c) (packV es r c) j ((packS es r c).getD j 0).toNat ((packS es r c).getD (j+1) 0).toNat=canE es r j:=by
 rw[qd3 O,qd3 O,tN,tN]
 have hl:(packI es r (j+1)).length-(packI es r j).length=(colR es j 0 r).length:=by
  rw[packI,List.length_append];simp[colI]
 unfold Qy canE;rw[hl];obtain⟨zs,e⟩:=qe3 (es:=es) (r:=r) hj;obtain⟨ws,e'⟩:=qdu (es:=es) (r:=r) hj;refine List.ext_getElem (by simp) fun k h1 h2=> ?_
 simp only[List.length_map,List.length_range']at h1;have hk:k<(colR es j 0 r).length:=h1;simp only[List.getElem_map,List.getElem_range',Nat.one_mul]
 have eI:(packI es r c).getD ((packI es r j).length+k) 0=((colR es j 0 r)[k]:Int):=by
  rw[e,q47 (by simp[colI];exact hk)]
  simp[colI,List.getD,hk]
 have eV:(packV es r c).getD ((packI es r j).length+k) 0=(es.getD (Qq es ((colR es j 0 r)[k]) j es.length-1) zE).2.2:=by
  rw[e',<-q4r es r j,q47 (by simp[colV];exact hk)]
  simp[colV,List.getD,hk]
 rw[eI,eV]
theorem qk4: ∀(d k:Nat),k+d=c->can es r k++ents (packS es r c) (packI es r c) (packV es r c) d k=can es r c
 |0,k,h=>by
  have:k=c:=O;subst this;simp[ents]
 |d+1,k,h=>by
  have ih:=qk4 d (k+1) O;rw[ents,qe0 O,<-List.append_assoc];exact ih
end
section
variable {R C:Nat} {S I V:LI}
theorem q87 (a n k:Nat):List.range' a n++List.range' (a+n) k=List.range' a (n+k):=by
 rw[<-List.range'_append];simp
theorem qmp (hM:MatOK R C S I): ∀(d k:Nat),k+d=C->(ents S I V d k).map (·.1)=(List.range' (S.getD k 0).toNat (I.length-(S.getD k 0).toNat)).map fun t=>I.getD t 0
 |0,k,h=>by
  have hk:k=C:=O;subst hk;have:=hM.st.last;rw[this];simp[ents]
 |d+1,k,h=>by
  have a:=hM.st.rng (j:=k) O;have b:=hM.st.rng (j:=k+1) O;have m:=hM.st.mono k O;rw[ents,List.map_append,qmp hM d (k+1) O,Qy,List.map_map]
  have e:List.range' (S.getD k 0).toNat (I.length-(S.getD k 0).toNat)=List.range' (S.getD k 0).toNat ((S.getD (k+1) 0).toNat-(S.getD k 0).toNat)++List.range' (S.getD (k+1) 0).toNat (I.length-(S.getD (k+1) 0).toNat):=by
   rw[show(S.getD (k+1) 0).toNat=(S.getD k 0).toNat+((S.getD (k+1) 0).toNat-(S.getD k 0).toNat) by omega]
   rw[Nat.add_sub_cancel_left,q87];congr 1;omega
  rw[e,List.map_append];rfl
theorem qi8 (hM:MatOK R C S I): ∀(d k:Nat),k+d=C->(ents S I V d k).map (·.2.2)=(List.range' (S.getD k 0).toNat (I.length-(S.getD k 0).toNat)).map fun t=>V.getD t 0
 |0,k,h=>by
  have hk:k=C:=O;subst hk;have:=hM.st.last;rw[this];simp[ents]
 |d+1,k,h=>by
  have a:=hM.st.rng (j:=k) O;have b:=hM.st.rng (j:=k+1) O;have m:=hM.st.mono k O;rw[ents,List.map_append,qi8 hM d (k+1) O,Qy,List.map_map]
  have e:List.range' (S.getD k 0).toNat (I.length-(S.getD k 0).toNat)=List.range' (S.getD k 0).toNat ((S.getD (k+1) 0).toNat-(S.getD k 0).toNat)++List.range' (S.getD (k+1) 0).toNat (I.length-(S.getD (k+1) 0).toNat):=by
   rw[show(S.getD (k+1) 0).toNat=(S.getD k 0).toNat+((S.getD (k+1) 0).toNat-(S.getD k 0).toNat) by omega]
   rw[Nat.add_sub_cancel_left,q87];congr 1;omega
  rw[e,List.map_append];rfl
theorem q0u {l:LI}:(List.range' 0 l.length).map (fun t=>l.getD t 0)=l:=by
 refine List.ext_getElem (by simp) fun k h1 h2=> ?_
 simp[List.getD,h2]
theorem qfi (hM:MatOK R C S I) {t:Nat} (ht:t<=C): ∀(d k:Nat),k+d=C->cLt (ents S I V d k) t=(S.getD t 0).toNat-(S.getD k 0).toNat
 |0,k,h=>by
  have hk:k=C:=O;subst hk;have:=hM.st.le (i:=t) (j:=k) ht (Nat.le_refl _);show([]:List Ent).countP _=_;rw[List.countP_nil];omega
 |d+1,k,h=>by
  have a:=hM.st.rng (j:=k) O;have b:=hM.st.rng (j:=k+1) O;have m:=hM.st.mono k O;have ih:=qfi hM ht d (k+1) O;have tr:=hM.st.rng (j:=t) ht;unfold cLt at ih⊢;rw[ents,List.countP_append,ih];by_cases hk:k<t
  . have le:=hM.st.le (i:=k+1) (j:=t) O ht
    rw[List.countP_eq_length.2 fun x hx=>by
     unfold Qy at hx;obtain⟨s,_,rfl⟩:=List.mem_map.1 hx;simp;omega,q0h]
    omega
  . have le:=hM.st.le (i:=t) (j:=k) O O;have le2:=hM.st.le (i:=t) (j:=k+1) O O
    rw[List.countP_eq_zero.2 fun x hx=>by
     unfold Qy at hx;obtain⟨s,_,rfl⟩:=List.mem_map.1 hx;simp;omega]
    omega
theorem qac (hM:MatOK R C S I) (hV:V.length=I.length) (hE:EntsOK R C (ents S I V C 0)):packS (ents S I V C 0) R C=S/\packI (ents S I V C 0) R C=I/\packV (ents S I V C 0) R C=V:=by
 have hD:DistE (ents S I V C 0):=Ju (Jk hM C 0 O);have hs:Srt (ents S I V C 0):=(Jk hM C 0 O).imp fun h=>Zx h
 have hc:=q82 hE hD hs (List.Perm.refl _);have s0:=hM.st.s0;have eI:=qmp (V:=V) hM C 0 O;have eV:=qi8 (V:=V) hM C 0 O;rw[s0]at eI eV;simp only[Int.toNat_zero,Nat.sub_zero]at eI eV;rw[q0u]at eI;rw[<-hV,q0u]at eV;have hI:packI (ents S I V C 0) R C=I:=by rw[<-can_I,<-hc,eI]
 refine⟨?_,hI,by rw[<-can_V,<-hc,eV]⟩
 have hl:=hM.st.len;refine List.ext_getElem (by simp[packS,hl]) fun t h1 h2=> ?_
 have htC:t<=C:=O;have e:=qdl (es:=ents S I V C 0) (r:=R) htC;rw[<-hc,qfi hM htC C 0 O,s0]at e;have hr:=hM.st.rng (j:=t) htC;have e2:S.getD t 0=S[t]:=by simp[List.getD,h2]
 simp only[packS,List.getElem_map,List.getElem_range,<-e];simp only[Int.toNat_zero,Nat.sub_zero];omega
end
end Go.Vs.F
set_option maxRecDepth 100000
namespace Go.Vs.F
theorem qap {es:List Ent} {k:Nat} (h:k<es.length):es.getD k zE∈es:=by simp[List.getD,h]
theorem qgt {r c:Nat} {es:List Ent} (h: ∀e∈es,(0<=e.1/\e.1<(r:Int))/\(0<=e.2.1/\e.2.1<(c:Int))/\finB e.2.2=true):EntsOK r c es:=fun k hk=>h _ (qap hk)
theorem qbk (m:Nat) (a:LI) (hb:a.length<4611686018427387904): ∀(n k:Nat),a.length-k<n->g65L0 m n a a (k:Int)=some (.inr (.inl ()))
 |0,k,h=>O
 |n+1,k,h=>by
  rw[g65L0];by_cases hk:k<a.length
  . have h1:((k:Int)<(a.length:Int)):=O;have c1:(0:Int)<=(k:Int)/\(k:Int)<(a.length:Int):=O;simp only[bQ,h1,if_true,c1,and_self,bif_ne,wQ,wsucc (show k<4611686018427387904 by omega)]
    exact qbk m a hb n (k+1) O
  . have h1: ¬((k:Int)<(a.length:Int)):=O;simp only[bQ,h1,if_false]
theorem qdj {m:Nat} {a:LI} (h:a.length<m) (hb:a.length<4611686018427387904):g65 m a a=some (true,(),(),()):=by
 have e:=qbk m a hb m 0 O;rw[nZ]at e;rw[g65,bif_ne,iP rfl,e];rfl
theorem q08 {m:Nat} {a:LI} (h:a.length<m) (hb:a.length<4611686018427387904):g15 m a a=some (true,(),(),()):=by rw[qnr h hb];simp
theorem q73 {m:Nat} {a b:Int} {S I V:LI} (h1:S.length<m) (h2:I.length<m) (h3:V.length<m) (h4:m<4611686018427387904):g23 m a b S I V a b S I V=some (true,(),(),()):=by
 rw[g23,bif_eq,iP rfl,bif_eq,iP rfl,q08 h1 O];simp only[bS,cond_true];rw[q08 h2 O];simp only[bS,cond_true];rw[qdj h3 O];rfl
structure MV (R C:Nat) (S I V:LI):Prop where
 ok:MatOK R C S I
 vl:V.length=I.length
 chk:chk (R:Int) (C:Int) S I V=0
section
variable {R C:Nat} {S I V:LI}
theorem MV.ents (h:MV R C S I V):EntsOK R C (ents S I V C 0):=by
 obtain⟨_,_,_,_,_,_,hfin⟩:=qg9 h.chk;exact qeb h.ok h.vl hfin
theorem MV.dist (h:MV R C S I V):DistE (Go.Vs.F.ents S I V C 0):=Ju (Jk h.ok C 0 O)
theorem q0x {es:List Ent} {k:Nat} (hk:k<es.length):es.take (k+1)=es.take k++[es.getD k zE]:=by
 rw[List.take_add_one];congr 1;rw[List.getElem?_eq_getElem hk,List.getD,List.getElem?_eq_getElem hk];rfl
end
theorem getD_take {α:Type} {l:List α} {j k:Nat} {d:α} (h:j<k):(l.take k).getD j d=l.getD j d:=by
 simp[List.getD,List.getElem?_take,h]
end Go.Vs.F
set_option maxRecDepth 100000
namespace Go.Vs.F
section
variable {R C:Nat} {S I V:LI}
def Sel (es:List Ent) (rows cols:LI) (x:Ent):Prop:= ∃(i j:Nat) (v:Int),x=((i:Int),((j:Int),v))/\i<rows.length/\j<cols.length/\((rows.getD i 0,(cols.getD j 0,v)):Ent)∈es
theorem Qw {x:Ent}: ∀{d k:Nat},x∈ents S I V d k↔ ∃j t,k<=j/\j<k+d/\(S.getD j 0).toNat<=t/\t<(S.getD (j+1) 0).toNat/\x=(I.getD t 0,(j:Int),V.getD t 0)
 |0,k=>by
  constructor
  . intro h;simp[ents]at h
  . rintro ⟨j,t,h1,h2,_⟩;omega
 |d+1,k=>by
  rw[ents,List.mem_append,Qw (d:=d) (k:=k+1)];constructor
  . rintro (h|⟨j,t,h1,h2,h3⟩)
    . unfold Qy at h;obtain⟨t,ht,rfl⟩:=List.mem_map.1 h;rw[List.mem_range'_1]at ht;exact⟨k,t,Nat.le_refl _,O,ht.1,O,rfl⟩
    . exact⟨j,t,O,O,h3⟩
  . rintro ⟨j,t,h1,h2,h3,h4,h5⟩
    by_cases e:j=k
    . subst e;left;unfold Qy;exact List.mem_map.2 ⟨t,List.mem_range'_1.2 ⟨h3,O⟩,h5.symm⟩
    . right;exact⟨j,t,O,O,h3,h4,h5⟩
structure PK (es:List Ent) (rows cols:LI) (l:List Ent) (i j:Nat):Prop where
 mem: ∀x,x∈l↔Sel es rows cols x/\(x.1<(i:Int)\/(x.1=(i:Int)/\x.2.1<(j:Int)))
 pw:l.Pairwise fun a b=>a.1<b.1\/(a.1=b.1/\a.2.1<b.2.1)
 len:l.length<=i*1000+j
end
end Go.Vs.F
set_option maxRecDepth 100000
namespace Go.Vs.F
def valC (m:Nat) (a e:Int):Option (Int×Unit×Unit):=
 (g72 m a).bind fun y2=>
 (g71 m y2.1.1 y2.1.2.1 y2.1.2.2.1 y2.1.2.2.2.1 e).bind fun y3=>
 (g70 m y3.1.1 y3.1.2.1 y3.1.2.2.1 y3.1.2.2.2.1 0).bind fun y4=>
 some (y4.1,((),()))
end Go.Vs.F
set_option maxRecDepth 100000
namespace Go.Vs.F
variable {r c:Nat} {es:List Ent}
end Go.Vs.F
set_option maxRecDepth 100000
namespace Go.Vs.F
section
variable {R C:Nat} {S I V:LI}
end
end Go.Vs.F
set_option maxRecDepth 100000
namespace Go.Vs.F
theorem BS_L0 (m:Nat) {xs:LI} {t a:Int} (hl:xs.length<=100000) (ha: ∀i j,i<j->j<xs.length->xs.getD i 0<xs.getD j 0): ∀(n i j:Nat),j-i<n->i<=j->j<=xs.length->(∀k,k<i->xs.getD k 0<t)->(∀k,j<=k->k<xs.length->t<=xs.getD k 0)->
 ∃r:Nat,g115L0 m n xs t a (i:Int) (j:Int)=some (.inl (xs,t,a,(r:Int),()))/\r<=xs.length/\(∀k,k<r->xs.getD k 0<t)/\ ∀k,r<=k->k<xs.length->t<=xs.getD k 0
 |0,i,j,h,_,_,_,_=>O
 |n+1,i,j,h,hij,hj,h1,h2=>by
  rw[g115L0,q5l O,bQ];by_cases hlt:i<j
  . have c1:(0:Int)<=(((i+j)/2:Nat):Int)/\(((i+j)/2:Nat):Int)<(xs.length:Int):=O;rw[iP O,iP c1,tN,g150];simp only[g163,bS,bif_ne,if_true];by_cases hp:xs.getD ((i+j)/2) 0<t
    . rw[decide_eq_true hp];simp only[cond_true];rw[show wI ((((i+j)/2:Nat):Int)+1)=(((i+j)/2+1:Nat):Int)from wsucc O]
      refine BS_L0 m hl ha n _ _ O O hj (fun k hk=> ?_) h2
      by_cases e:k=(i+j)/2
      . subst e;exact hp
      . have:=ha k ((i+j)/2) O O;omega
    . rw[decide_eq_false hp];simp only[cond_false];refine BS_L0 m hl ha n _ _ O O O h1 (fun k hk hkl=> ?_)
      by_cases e:k=(i+j)/2
      . subst e;omega
      . have:=ha ((i+j)/2) k O hkl;omega
  . rw[iN' O];have:i=j:=O;subst this;exact⟨i,rfl,hj,h1,h2⟩
theorem qks {m:Nat} {xs:LI} {k:Nat} (hl:xs.length<=100000) (hm:100001<m) (ha: ∀i j,i<j->j<xs.length->xs.getD i 0<xs.getD j 0) (hk:k<xs.length):g115 m xs (xs.getD k 0)=some (((k:Int),true,()),(),(),()):=by
 obtain⟨r,e,h1,h2,h3⟩:=BS_L0 m (t:=xs.getD k 0) (a:=(xs.length:Int)) hl ha m 0 xs.length O O (Nat.le_refl _) (fun k hk=>absurd hk (Nat.not_lt_zero _)) (fun k a b=>O)
 rw[nZ]at e
 have:r=k:=by
  rcases Nat.lt_trichotomy r k with q|q|q
  . have g1:=h3 r (Nat.le_refl _) O;have g2:=ha r k q hk;omega
  . exact q
  . have:=h2 k q;omega
 subst this;have c1:(0:Int)<=(r:Int)/\(r:Int)<(xs.length:Int):=O;rw[g115,e,bS];dsimp only;rw[bQ,iP O,iP c1,tN,bif_eq,iP rfl]
section
variable {R C:Nat} {S I V:LI}
theorem qm0 {m:Nat} (hm:3000000<m) (h:MV R C S I V) {i j v:Int} (he:((i,(j,v)):Ent)∈ents S I V C 0):g69 m (R:Int) (C:Int) S I V i j=some ((v,true,()),(),(),(),()):=by
 obtain⟨j',t,_,hj,t1,t2,e⟩:=Qw.1 he;simp only[Prod.mk.injEq]at e;obtain⟨e1,e2,e3⟩:=e;subst e2;have hjC:j'<C:=O;have hl:=h.ok.st.len;have hsz:=h.ok.sz;have hcz:=h.ok.cz;have hvl:=h.vl;have a:=h.ok.st.rng (j:=j') O;have b:=h.ok.st.rng (j:=j'+1) O;have mo:=h.ok.st.mono j' hjC;have c1:(0:Int)<=(j':Int)/\(j':Int)<(S.length:Int):=O;have c2:(0:Int)<=((j'+1:Nat):Int)/\((j'+1:Nat):Int)<(S.length:Int):=O;have c3:(0:Int)<=S.getD j' 0/\S.getD j' 0<=S.getD (j'+1) 0/\S.getD (j'+1) 0<=(I.length:Int):=O;have hcl:=Yz h.ok.st hjC;have hk:t-(S.getD j' 0).toNat<(colOf S I j').length:=O;have hcg: ∀k,k<(colOf S I j').length->(colOf S I j').getD k 0=I.getD ((S.getD j' 0).toNat+k) 0:=fun k hk=>q1x h.ok.st hjC hk
 have hbs:=qks (m:=m) (xs:=colOf S I j') (k:=t-(S.getD j' 0).toNat) O O (fun x y hxy hy=>by
  rw[hcg x O,hcg y hy];have:=h.ok.asc hjC (y-x-1) ((S.getD j' 0).toNat+x) O O;rw[show(S.getD j' 0).toNat+x+(y-x-1+1)=(S.getD j' 0).toNat+y by omega]at this
  exact this) hk
 rw[hcg _ hk,show(S.getD j' 0).toNat+(t-(S.getD j' 0).toNat)=t by omega,<-e1]at hbs
 have w1:wI (S.getD j' 0+((t-(S.getD j' 0).toNat:Nat):Int))=(t:Int):=by rw[wQ,wi O O];omega
 have c4:(0:Int)<=(t:Int)/\(t:Int)<(V.length:Int):=O;rw[g69,iP c1,show wI ((j':Int)+1)=((j'+1:Nat):Int)from wsucc O,iP c2]
 simp only[tN];rw[iP c3];have hbs':g115 m ((I.drop (S.getD j' 0).toNat).take ((S.getD (j'+1) 0).toNat-(S.getD j' 0).toNat)) i=some ((((t-(S.getD j' 0).toNat:Nat):Int),true,()),(),(),()):=hbs;rw[hbs',bS];simp only[Bool.not_true,cond_false];rw[iP c1,w1,iP c4,tN,<-e3]
end
theorem qpm (l:LI) (k:Nat): ∃x,∀m,g10 m l (k:Int)=some (x,(),(),()):=by
 by_cases h:(k:Int)<(l.length:Int)
 . exact⟨_,fun m=>by rw[g10,bQ,iP h,iP O]⟩
 . exact⟨_,fun m=>by rw[g10,bQ,iN' h]⟩
end Go.Vs.F
