/-Matrices and their entries:what is packed depends on the set of entries alone;packing the entries of a matrix gives it back. Moves of a matrix:transposing,the lower triangle,permuting and selecting;the program's and the document's. Lists of indices:places,ranges,doubles,permutations. The law MatrixMoves. The made values:rounding the sum of one of them gives it back (closed evaluations). Building from entries at different positions;made matrices. The law MatrixRound. Looking up by bisection;comparing a float with itself;symmetric made matrices. -/
import Derived.Test.YtjjndhlkoehkdaaGreatDoorLa
set_option linter.unusedVariables false
set_option linter.unusedSimpArgs false
namespace Go.Vs.F
section
variable {es es':List Ent} {r c:Nat}
theorem DistE.val (hD:DistE es) {i j v v':Int} (h:((i,(j,v)):Ent)∈es) (h':((i,(j,v')):Ent)∈es):v=v':=by
 obtain⟨k,hk,e⟩:=q0r h
 obtain⟨k',hk',e'⟩:=q0r h'
 have:=hD k k' hk hk' (by rw[e,e']) (by rw[e,e'])
 subst this
 rw[e]at e'
 cases e';rfl
end
section
variable {R C:Nat} {S I V:List Int}
end
end Go.Vs.F
set_option maxRecDepth 100000
namespace Go.Vs.F
theorem qja (k:Nat):sparselaw09_awake (k+100)=some (true,()):=by kernel_rfl
theorem qfw {m:Nat} (h:100≤m):sparselaw09_awake m=some (true,()):=by
 obtain⟨k,rfl⟩: ∃k,m=k+100:=⟨m-100,O⟩
 exact qja k
theorem q1s {es:List Ent} {k:Nat} (h:k<es.length):es.getD k zE∈es:=by simp[List.getD,h]
theorem Zg {r c:Nat} {es:List Ent} (h:qkp r c es): ∀e∈es,(0≤e.1∧e.1<(r:Int))∧(0≤e.2.1∧e.2.1<(c:Int))∧finB e.2.2=true:=fun e he=>by
 obtain⟨k,hk,rfl⟩:=q0r he
 exact h k hk
theorem q83 (m:Nat) (a:List Int) (hb:a.length<4611686018427387904): ∀(n k:Nat),a.length-k<n→g19_L0 m n a a (k:Int)=some (.inr (.inl ()))
 |0,k,h=>O
 |n+1,k,h=>by
  rw[g19_L0]
  by_cases hk:k<a.length
  · have h1:((k:Int)<(a.length:Int)):=O
    have c1:(0:Int)≤(k:Int)∧(k:Int)<(a.length:Int):=O
    simp only[bif_decide,h1,if_true,c1,and_self,bif_ne,w_i64_eq,wsucc (show k<4611686018427387904 by omega)]
    exact q83 m a hb n (k+1) O
  · have h1: ¬((k:Int)<(a.length:Int)):=O
    simp only[bif_decide,h1,if_false]
theorem q4d {m:Nat} {a:List Int} (h:a.length<m) (hb:a.length<4611686018427387904):g19 m a a=some (true,(),(),()):=by
 have e:=q83 m a hb m 0 O
 rw[Int.natCast_zero]at e
 rw[g19,bif_ne,if_pos rfl,e];rfl
theorem qkn {m:Nat} {a:List Int} (h:a.length<m) (hb:a.length<4611686018427387904):g56 m a a=some (true,(),(),()):=by rw[qlf h hb];simp
theorem qks {m:Nat} {a b:Int} {S I V:List Int} (h1:S.length<m) (h2:I.length<m) (h3:V.length<m) (h4:m<4611686018427387904):g52 m a b S I V a b S I V=some (true,(),(),()):=by
 rw[g52,bif_eq,if_pos rfl,bif_eq,if_pos rfl,qkn h1 O]
 simp only[Option.bind_some,cond_true]
 rw[qkn h2 O]
 simp only[Option.bind_some,cond_true]
 rw[q4d h3 O];rfl
structure MV (R C:Nat) (S I V:List Int):Prop where
 ok:MatOK R C S I
 vl:V.length=I.length
 chk:chk (R:Int) (C:Int) S I V=0
section
variable {R C:Nat} {S I V:List Int}
theorem MV.ents (h:MV R C S I V):qkp R C (ents S I V C 0):=by
 obtain⟨_,_,_,_,_,_,hfin⟩:=qid h.chk
 exact qio h.ok h.vl hfin
theorem MV.dist (h:MV R C S I V):DistE (Go.Vs.F.ents S I V C 0):=q9q (q8d h.ok C 0 O)
theorem MV.len (h:MV R C S I V):(Go.Vs.F.ents S I V C 0).length≤10000:=by
 rw[qcs h.ok C 0 O O]
 have:=h.ok.st.rng (j:=C) (Nat.le_refl _)
 have:=h.ok.sz
 omega
theorem MV.sl (h:MV R C S I V):S.length≤201:=by
 have:=h.ok.st.len
 have:=h.ok.cz
 omega
theorem Yz {es:List Ent} {k:Nat} (hk:k<es.length):es.take (k+1)=es.take k++[es.getD k zE]:=by
 rw[List.take_add_one]
 congr 1
 rw[List.getElem?_eq_getElem hk,List.getD,List.getElem?_eq_getElem hk];rfl
end
theorem getD_take {α:Type} {l:List α} {j k:Nat} {d:α} (h:j<k):(l.take k).getD j d=l.getD j d:=by
 simp[List.getD,List.getElem?_take,h]
end Go.Vs.F
set_option maxRecDepth 100000
namespace Go.Vs.F
section
variable {R C:Nat} {S I V:List Int}
theorem qk0 {x:Ent}: ∀{d k:Nat},x∈ents S I V d k↔ ∃j t,k≤j∧j<k+d∧(S.getD j 0).toNat≤t∧t<(S.getD (j+1) 0).toNat∧x=(I.getD t 0,(j:Int),V.getD t 0)
 |0,k=>by
  constructor
  · intro h;simp[ents]at h
  · rintro ⟨j,t,h1,h2,_⟩;omega
 |d+1,k=>by
  rw[ents,List.mem_append,qk0 (d:=d) (k:=k+1)]
  constructor
  · rintro (h|⟨j,t,h1,h2,h3⟩)
    · unfold Xl at h
      obtain⟨t,ht,rfl⟩:=List.mem_map.1 h
      rw[List.mem_range'_1]at ht
      exact⟨k,t,Nat.le_refl _,O,ht.1,O,rfl⟩
    · exact⟨j,t,O,O,h3⟩
  · rintro ⟨j,t,h1,h2,h3,h4,h5⟩
    by_cases e:j=k
    · subst e
      left;unfold Xl
      exact List.mem_map.2 ⟨t,List.mem_range'_1.2 ⟨h3,O⟩,h5.symm⟩
    · right;exact⟨j,t,O,O,h3,h4,h5⟩
end
end Go.Vs.F
set_option maxRecDepth 100000
namespace Go.Vs.F
end Go.Vs.F
set_option maxRecDepth 100000
namespace Go.Vs.F
variable {r c:Nat} {es:List Ent}
end Go.Vs.F
set_option maxRecDepth 100000
namespace Go.Vs.F
section
variable {R C:Nat} {S I V:List Int}
end
end Go.Vs.F
set_option maxRecDepth 100000
namespace Go.Vs.F
theorem BS_L0 (m:Nat) {xs:List Int} {t a:Int} (hl:xs.length≤100000) (ha: ∀i j,i<j→j<xs.length→xs.getD i 0<xs.getD j 0): ∀(n i j:Nat),j-i<n→i≤j→j≤xs.length→(∀k,k<i→xs.getD k 0<t)→(∀k,j≤k→k<xs.length→t≤xs.getD k 0)→
 ∃r:Nat,g143_L0 m n xs t a (i:Int) (j:Int)=some (.inl (xs,t,a,(r:Int),()))∧r≤xs.length∧(∀k,k<r→xs.getD k 0<t)∧ ∀k,r≤k→k<xs.length→t≤xs.getD k 0
 |0,i,j,h,_,_,_,_=>O
 |n+1,i,j,h,hij,hj,h1,h2=>by
  rw[g143_L0,qlb O,bif_decide]
  by_cases hlt:i<j
  · have c1:(0:Int)≤(((i+j)/2:Nat):Int)∧(((i+j)/2:Nat):Int)<(xs.length:Int):=O
    rw[if_pos O,if_pos c1,Int.toNat_natCast,g186]
    simp only[g168,Option.bind_some,bif_ne,if_true]
    by_cases hp:xs.getD ((i+j)/2) 0<t
    · rw[decide_eq_true hp]
      simp only[cond_true]
      rw[show w_i64 ((((i+j)/2:Nat):Int)+1)=(((i+j)/2+1:Nat):Int)from wsucc O]
      refine BS_L0 m hl ha n _ _ O O hj (fun k hk=> ?_) h2
      by_cases e:k=(i+j)/2
      · subst e;exact hp
      · have:=ha k ((i+j)/2) O O;omega
    · rw[decide_eq_false hp]
      simp only[cond_false]
      refine BS_L0 m hl ha n _ _ O O O h1 (fun k hk hkl=> ?_)
      by_cases e:k=(i+j)/2
      · subst e;omega
      · have:=ha ((i+j)/2) k O hkl;omega
  · rw[if_neg O]
    have:i=j:=O
    subst this
    exact⟨i,rfl,hj,h1,h2⟩
theorem ql9 {m:Nat} {xs:List Int} {k:Nat} (hl:xs.length≤100000) (hm:100001<m) (ha: ∀i j,i<j→j<xs.length→xs.getD i 0<xs.getD j 0) (hk:k<xs.length):g143 m xs (xs.getD k 0)=some (((k:Int),true,()),(),(),()):=by
 obtain⟨r,e,h1,h2,h3⟩:=BS_L0 m (t:=xs.getD k 0) (a:=(xs.length:Int)) hl ha m 0 xs.length O O (Nat.le_refl _) (fun k hk=>absurd hk (Nat.not_lt_zero _)) (fun k a b=>O)
 rw[Int.natCast_zero]at e
 have:r=k:=by
  rcases Nat.lt_trichotomy r k with q|q|q
  · have g1:=h3 r (Nat.le_refl _) O
    have g2:=ha r k q hk
    omega
  · exact q
  · have:=h2 k q;omega
 subst this
 have c1:(0:Int)≤(r:Int)∧(r:Int)<(xs.length:Int):=O
 rw[g143,e,Option.bind_some]
 dsimp only
 rw[bif_decide,if_pos O,if_pos c1,Int.toNat_natCast,bif_eq,if_pos rfl]
section
variable {R C:Nat} {S I V:List Int}
theorem ql7 {m:Nat} (hm:3000000<m) (h:MV R C S I V) {i j v:Int} (he:((i,(j,v)):Ent)∈ents S I V C 0):g85 m (R:Int) (C:Int) S I V i j=some ((v,true,()),(),(),(),()):=by
 obtain⟨j',t,_,hj,t1,t2,e⟩:=qk0.1 he
 simp only[Prod.mk.injEq]at e
 obtain⟨e1,e2,e3⟩:=e
 subst e2
 have hjC:j'<C:=O
 have hl:=h.ok.st.len
 have hsz:=h.ok.sz
 have hcz:=h.ok.cz
 have hvl:=h.vl
 have a:=h.ok.st.rng (j:=j') O
 have b:=h.ok.st.rng (j:=j'+1) O
 have mo:=h.ok.st.mono j' hjC
 have c1:(0:Int)≤(j':Int)∧(j':Int)<(S.length:Int):=O
 have c2:(0:Int)≤((j'+1:Nat):Int)∧((j'+1:Nat):Int)<(S.length:Int):=O
 have c3:(0:Int)≤S.getD j' 0∧S.getD j' 0≤S.getD (j'+1) 0∧S.getD (j'+1) 0≤(I.length:Int):=O
 have hcl:=Zb h.ok.st hjC
 have hk:t-(S.getD j' 0).toNat<(colOf S I j').length:=O
 have hcg: ∀k,k<(colOf S I j').length→(colOf S I j').getD k 0=I.getD ((S.getD j' 0).toNat+k) 0:=fun k hk=>q9i h.ok.st hjC hk
 have hbs:=ql9 (m:=m) (xs:=colOf S I j') (k:=t-(S.getD j' 0).toNat) O O (fun x y hxy hy=>by
  rw[hcg x O,hcg y hy]
  have:=h.ok.asc hjC (y-x-1) ((S.getD j' 0).toNat+x) O O
  rw[show(S.getD j' 0).toNat+x+(y-x-1+1)=(S.getD j' 0).toNat+y by omega]at this
  exact this) hk
 rw[hcg _ hk,show(S.getD j' 0).toNat+(t-(S.getD j' 0).toNat)=t by omega,←e1]at hbs
 have w1:w_i64 (S.getD j' 0+((t-(S.getD j' 0).toNat:Nat):Int))=(t:Int):=by rw[w_i64_eq,wi O O];omega
 have c4:(0:Int)≤(t:Int)∧(t:Int)<(V.length:Int):=O
 rw[g85,if_pos c1,show w_i64 ((j':Int)+1)=((j'+1:Nat):Int)from wsucc O,if_pos c2]
 simp only[Int.toNat_natCast]
 rw[if_pos c3]
 have hbs':g143 m ((I.drop (S.getD j' 0).toNat).take ((S.getD (j'+1) 0).toNat-(S.getD j' 0).toNat)) i=some ((((t-(S.getD j' 0).toNat:Nat):Int),true,()),(),(),()):=hbs
 rw[hbs',Option.bind_some]
 simp only[Bool.not_true,cond_false]
 rw[if_pos c1,w1,if_pos c4,Int.toNat_natCast,←e3]
end
end Go.Vs.F
