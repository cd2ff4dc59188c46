/-Matrices and their entries:what is packed depends on the set of entries alone;packing the entries of a matrix gives it back. Moves of a matrix:transposing,the lower triangle,permuting and selecting;the program's and the document's. Lists of indices:places,ranges,doubles,permutations. The law MatrixMoves. The made values:rounding the sum of one of them gives it back (closed evaluations). Building from entries at different positions;made matrices. The law MatrixRound. Looking up by bisection;comparing a float with itself;symmetric made matrices. -/
import Derived.Test.YtkfooaihogahcaaGreatDoorLa
set_option linter.unusedVariables false
set_option linter.unusedSimpArgs false
namespace Go.Vs.F
section
variable {es es':List Ent} {r c:Nat}
theorem DistE.val (hD:DistE es) {i j v v':Int} (h:((i,(j,v)):Ent)∈es) (h':((i,(j,v')):Ent)∈es):v=v':=by
 obtain⟨k,hk,e⟩:=Xk h
 obtain⟨k',hk',e'⟩:=Xk h'
 have:=hD k k' hk hk' (by rw[e,e']) (by rw[e,e'])
 subst this
 rw[e]at e'
 cases e';rfl
theorem qp2 {i j:Nat} (h:0<Qq es i j es.length):(((i:Int),((j:Int),(es.getD (Qq es i j es.length-1) zE).2.2)):Ent)∈es:=by
 obtain⟨g1,g2,g3⟩:=q5a h
 rw[show((i:Int),((j:Int),(es.getD (Qq es i j es.length-1) zE).2.2))=es.getD (Qq es i j es.length-1) zE by rw[←g2,←g3]]
 simp[List.getD,g1]
theorem q47 {α:Type} {A B D:List α} {k:Nat} {d:α} (hk:k<B.length):(A++B++D).getD (A.length+k) d=B.getD k d:=by
 have: ¬A.length+k<A.length:=by omega
 simp[List.getD,List.getElem?_append,hk,this]
theorem qe3 {j:Nat} (hj:j<c): ∃zs,packI es r c=packI es r j++colI es j 0 r++zs:=by
 obtain⟨zs,e⟩:=qbj (es:=es) (r:=r) (t:=j+1) (c-(j+1))
 rw[show j+1+(c-(j+1))=c by omega]at e
 exact⟨zs,by rw[e,packI]⟩
theorem qd2 {t:Nat}: ∀d,∃zs,packV es r (t+d)=packV es r t++zs
 |0=>⟨[],by simp⟩
 |d+1=>by
  obtain⟨zs,h⟩:=qd2 (t:=t) d
  exact⟨zs++colV es (t+d) 0 r,by rw[←Nat.add_assoc,packV,h,List.append_assoc]⟩
theorem qdu {j:Nat} (hj:j<c): ∃zs,packV es r c=packV es r j++colV es j 0 r++zs:=by
 obtain⟨zs,e⟩:=qd2 (es:=es) (r:=r) (t:=j+1) (c-(j+1))
 rw[show j+1+(c-(j+1))=c by omega]at e
 exact⟨zs,by rw[e,packV]⟩
theorem qe0 {j:Nat} (hj:j<c):Qy (packS es r c) (packI es r c) (packV es r c) j ((packS es r c).getD j 0).toNat ((packS es r c).getD (j+1) 0).toNat=canE es r j:=by
 rw[qd3 (by omega),qd3 (by omega),Int.toNat_natCast,Int.toNat_natCast]
 have hl:(packI es r (j+1)).length-(packI es r j).length=(colR es j 0 r).length:=by
  rw[packI,List.length_append];simp[colI]
 unfold Qy canE
 rw[hl]
 obtain⟨zs,e⟩:=qe3 (es:=es) (r:=r) hj
 obtain⟨ws,e'⟩:=qdu (es:=es) (r:=r) hj
 refine List.ext_getElem (by simp) fun k h1 h2=> ?_
 simp only[List.length_map,List.length_range']at h1
 have hk:k<(colR es j 0 r).length:=h1
 simp only[List.getElem_map,List.getElem_range',Nat.one_mul]
 have eI:(packI es r c).getD ((packI es r j).length+k) 0=((colR es j 0 r)[k]:Int):=by
  rw[e,q47 (by simp[colI];exact hk)]
  simp[colI,List.getD,hk]
 have eV:(packV es r c).getD ((packI es r j).length+k) 0=(es.getD (Qq es ((colR es j 0 r)[k]) j es.length-1) zE).2.2:=by
  rw[e',←q4r es r j,q47 (by simp[colV];exact hk)]
  simp[colV,List.getD,hk]
 rw[eI,eV]
theorem qk4: ∀(d k:Nat),k+d=c→can es r k++ents (packS es r c) (packI es r c) (packV es r c) d k=can es r c
 |0,k,h=>by
  have:k=c:=by omega
  subst this;simp[ents]
 |d+1,k,h=>by
  have ih:=qk4 d (k+1) (by omega)
  rw[ents,qe0 (by omega),←List.append_assoc]
  exact ih
end
section
variable {R C:Nat} {S I V:List Int}
theorem q87 (a n k:Nat):List.range' a n++List.range' (a+n) k=List.range' a (n+k):=by
 rw[←List.range'_append];simp
theorem qmp (hM:MatOK R C S I): ∀(d k:Nat),k+d=C→(ents S I V d k).map (·.1)=(List.range' (S.getD k 0).toNat (I.length-(S.getD k 0).toNat)).map fun t=>I.getD t 0
 |0,k,h=>by
  have hk:k=C:=by omega
  subst hk
  have:=hM.st.last
  rw[this];simp[ents]
 |d+1,k,h=>by
  have a:=hM.st.rng (j:=k) (by omega)
  have b:=hM.st.rng (j:=k+1) (by omega)
  have m:=hM.st.mono k (by omega)
  rw[ents,List.map_append,qmp hM d (k+1) (by omega),Qy,List.map_map]
  have e:List.range' (S.getD k 0).toNat (I.length-(S.getD k 0).toNat)=List.range' (S.getD k 0).toNat ((S.getD (k+1) 0).toNat-(S.getD k 0).toNat)++List.range' (S.getD (k+1) 0).toNat (I.length-(S.getD (k+1) 0).toNat):=by
   rw[show(S.getD (k+1) 0).toNat=(S.getD k 0).toNat+((S.getD (k+1) 0).toNat-(S.getD k 0).toNat) by omega]
   rw[Nat.add_sub_cancel_left,q87]
   congr 1;omega
  rw[e,List.map_append];rfl
theorem qi8 (hM:MatOK R C S I): ∀(d k:Nat),k+d=C→(ents S I V d k).map (·.2.2)=(List.range' (S.getD k 0).toNat (I.length-(S.getD k 0).toNat)).map fun t=>V.getD t 0
 |0,k,h=>by
  have hk:k=C:=by omega
  subst hk
  have:=hM.st.last
  rw[this];simp[ents]
 |d+1,k,h=>by
  have a:=hM.st.rng (j:=k) (by omega)
  have b:=hM.st.rng (j:=k+1) (by omega)
  have m:=hM.st.mono k (by omega)
  rw[ents,List.map_append,qi8 hM d (k+1) (by omega),Qy,List.map_map]
  have e:List.range' (S.getD k 0).toNat (I.length-(S.getD k 0).toNat)=List.range' (S.getD k 0).toNat ((S.getD (k+1) 0).toNat-(S.getD k 0).toNat)++List.range' (S.getD (k+1) 0).toNat (I.length-(S.getD (k+1) 0).toNat):=by
   rw[show(S.getD (k+1) 0).toNat=(S.getD k 0).toNat+((S.getD (k+1) 0).toNat-(S.getD k 0).toNat) by omega]
   rw[Nat.add_sub_cancel_left,q87]
   congr 1;omega
  rw[e,List.map_append];rfl
theorem q0u {l:List Int}:(List.range' 0 l.length).map (fun t=>l.getD t 0)=l:=by
 refine List.ext_getElem (by simp) fun k h1 h2=> ?_
 simp[List.getD,h2]
theorem qfi (hM:MatOK R C S I) {t:Nat} (ht:t≤C): ∀(d k:Nat),k+d=C→cLt (ents S I V d k) t=(S.getD t 0).toNat-(S.getD k 0).toNat
 |0,k,h=>by
  have hk:k=C:=by omega
  subst hk
  have:=hM.st.le (i:=t) (j:=k) ht (Nat.le_refl _)
  show([]:List Ent).countP _=_
  rw[List.countP_nil];omega
 |d+1,k,h=>by
  have a:=hM.st.rng (j:=k) (by omega)
  have b:=hM.st.rng (j:=k+1) (by omega)
  have m:=hM.st.mono k (by omega)
  have ih:=qfi hM ht d (k+1) (by omega)
  have tr:=hM.st.rng (j:=t) ht
  unfold cLt at ih⊢
  rw[ents,List.countP_append,ih]
  by_cases hk:k<t
  · have le:=hM.st.le (i:=k+1) (j:=t) (by omega) ht
    rw[List.countP_eq_length.2 fun x hx=>by
     unfold Qy at hx
     obtain⟨s,_,rfl⟩:=List.mem_map.1 hx
     simp;omega,q0h]
    omega
  · have le:=hM.st.le (i:=t) (j:=k) (by omega) (by omega)
    have le2:=hM.st.le (i:=t) (j:=k+1) (by omega) (by omega)
    rw[List.countP_eq_zero.2 fun x hx=>by
     unfold Qy at hx
     obtain⟨s,_,rfl⟩:=List.mem_map.1 hx
     simp;omega]
    omega
theorem qac (hM:MatOK R C S I) (hV:V.length=I.length) (hE:EntsOK R C (ents S I V C 0)):packS (ents S I V C 0) R C=S∧packI (ents S I V C 0) R C=I∧packV (ents S I V C 0) R C=V:=by
 have hD:DistE (ents S I V C 0):=Ju (Jk hM C 0 (by omega))
 have hs:Srt (ents S I V C 0):=(Jk hM C 0 (by omega)).imp fun h=>Zx h
 have hc:=q82 hE hD hs (List.Perm.refl _)
 have s0:=hM.st.s0
 have eI:=qmp (V:=V) hM C 0 (by omega)
 have eV:=qi8 (V:=V) hM C 0 (by omega)
 rw[s0]at eI eV
 simp only[Int.toNat_zero,Nat.sub_zero]at eI eV
 rw[q0u]at eI
 rw[←hV,q0u]at eV
 have hI:packI (ents S I V C 0) R C=I:=by rw[←can_I,←hc,eI]
 refine⟨?_,hI,by rw[←can_V,←hc,eV]⟩
 have hl:=hM.st.len
 refine List.ext_getElem (by simp[packS,hl]) fun t h1 h2=> ?_
 have htC:t≤C:=by omega
 have e:=qdl (es:=ents S I V C 0) (r:=R) htC
 rw[←hc,qfi hM htC C 0 (by omega),s0]at e
 have hr:=hM.st.rng (j:=t) htC
 have e2:S.getD t 0=S[t]:=by simp[List.getD,h2]
 simp only[packS,List.getElem_map,List.getElem_range,←e]
 simp only[Int.toNat_zero,Nat.sub_zero]
 omega
end
end Go.Vs.F
set_option maxRecDepth 100000
namespace Go.Vs.F
theorem qap {es:List Ent} {k:Nat} (h:k<es.length):es.getD k zE∈es:=by simp[List.getD,h]
theorem q08 {m:Nat} {a:List Int} (h:a.length<m) (hb:a.length<4611686018427387904):g15 m a a=some (true,(),(),()):=by rw[qnr h hb];simp
structure MV (R C:Nat) (S I V:List Int):Prop where
 ok:MatOK R C S I
 vl:V.length=I.length
 chk:chk (R:Int) (C:Int) S I V=0
section
variable {R C:Nat} {S I V:List Int}
theorem MV.dist (h:MV R C S I V):DistE (Go.Vs.F.ents S I V C 0):=Ju (Jk h.ok C 0 (by omega))
theorem q0x {es:List Ent} {k:Nat} (hk:k<es.length):es.take (k+1)=es.take k++[es.getD k zE]:=by
 rw[List.take_add_one]
 congr 1
 rw[List.getElem?_eq_getElem hk,List.getD,List.getElem?_eq_getElem hk];rfl
end
theorem getD_take {α:Type} {l:List α} {j k:Nat} {d:α} (h:j<k):(l.take k).getD j d=l.getD j d:=by
 simp[List.getD,List.getElem?_take,h]
end Go.Vs.F
set_option maxRecDepth 100000
namespace Go.Vs.F
section
variable {R C:Nat} {S I V:List Int}
def Sel (es:List Ent) (rows cols:List Int) (x:Ent):Prop:= ∃(i j:Nat) (v:Int),x=((i:Int),((j:Int),v))∧i<rows.length∧j<cols.length∧((rows.getD i 0,(cols.getD j 0,v)):Ent)∈es
theorem Qw {x:Ent}: ∀{d k:Nat},x∈ents S I V d k↔ ∃j t,k≤j∧j<k+d∧(S.getD j 0).toNat≤t∧t<(S.getD (j+1) 0).toNat∧x=(I.getD t 0,(j:Int),V.getD t 0)
 |0,k=>by
  constructor
  · intro h;simp[ents]at h
  · rintro ⟨j,t,h1,h2,_⟩;omega
 |d+1,k=>by
  rw[ents,List.mem_append,Qw (d:=d) (k:=k+1)]
  constructor
  · rintro (h|⟨j,t,h1,h2,h3⟩)
    · unfold Qy at h
      obtain⟨t,ht,rfl⟩:=List.mem_map.1 h
      rw[List.mem_range'_1]at ht
      exact⟨k,t,Nat.le_refl _,by omega,ht.1,by omega,rfl⟩
    · exact⟨j,t,by omega,by omega,h3⟩
  · rintro ⟨j,t,h1,h2,h3,h4,h5⟩
    by_cases e:j=k
    · subst e
      left;unfold Qy
      exact List.mem_map.2 ⟨t,List.mem_range'_1.2 ⟨h3,by omega⟩,h5.symm⟩
    · right;exact⟨j,t,by omega,by omega,h3,h4,h5⟩
structure PK (es:List Ent) (rows cols:List Int) (l:List Ent) (i j:Nat):Prop where
 mem: ∀x,x∈l↔Sel es rows cols x∧(x.1<(i:Int)∨(x.1=(i:Int)∧x.2.1<(j:Int)))
 pw:l.Pairwise fun a b=>a.1<b.1∨(a.1=b.1∧a.2.1<b.2.1)
 len:l.length≤i*1000+j
end
end Go.Vs.F
set_option maxRecDepth 100000
namespace Go.Vs.F
def valC (m:Nat) (a e:Int):Option (Int×Unit×Unit):=
 (g72 m a).bind fun y2=>
 (g71 m y2.1.1 y2.1.2.1 y2.1.2.2.1 y2.1.2.2.2.1 e).bind fun y3=>
 (g70 m y3.1.1 y3.1.2.1 y3.1.2.2.1 y3.1.2.2.2.1 0).bind fun y4=>
 some (y4.1,((),()))
end Go.Vs.F
set_option maxRecDepth 100000
namespace Go.Vs.F
variable {r c:Nat} {es:List Ent}
end Go.Vs.F
set_option maxRecDepth 100000
namespace Go.Vs.F
section
variable {R C:Nat} {S I V:List Int}
end
end Go.Vs.F
set_option maxRecDepth 100000
namespace Go.Vs.F
section
variable {R C:Nat} {S I V:List Int}
end
theorem qpm (l:List Int) (k:Nat): ∃x,∀m,g10 m l (k:Int)=some (x,(),(),()):=by
 by_cases h:(k:Int)<(l.length:Int)
 · exact⟨_,fun m=>by rw[g10,bif_decide,if_pos h,if_pos (by omega)]⟩
 · exact⟨_,fun m=>by rw[g10,bif_decide,if_neg h]⟩
end Go.Vs.F
