/- Matrices and their entries: what is packed depends on the set of entries alone; packing the entries of a matrix gives it back. Moves of a matrix: transposing, the lower triangle, permuting and selecting; the program's and the document's. Lists of indices: places, ranges, doubles, permutations. The law MatrixMoves. The made values: rounding the sum of one of them gives it back (closed evaluations). Building from entries at different positions; made matrices. The law MatrixRound. Looking up by bisection; comparing a float with itself; symmetric made matrices. -/
import Derived.Test.YtjjndhlkoehkdaaGreatDoorLa

/-! MzTa -/
set_option linter.unusedVariables false
set_option linter.unusedSimpArgs false
namespace Go.Vs.F
section
variable {es es' : List Ent} {r c : Nat}
theorem DistE.val (hD : DistE es) {i j v v' : Int} (h : ((i,(j,v)) : Ent) ∈ es) (h' : ((i,(j,v')) : Ent) ∈ es) : v = v' := by
  obtain ⟨k,hk,e⟩ := q0r h
  obtain ⟨k',hk',e'⟩ := q0r h'
  have := hD k k' hk hk' (by rw [e,e']) (by rw [e,e'])
  subst this
  rw [e] at e'
  cases e'; rfl
theorem q1x {i j : Nat} (h : 0 < Qd es i j es.length) : (((i : Int),((j : Int),(es.getD (Qd es i j es.length - 1) zE).2.2)) : Ent) ∈ es := by
  obtain ⟨g1,g2,g3⟩ := q15 h
  rw [show ((i : Int),((j : Int),(es.getD (Qd es i j es.length - 1) zE).2.2)) = es.getD (Qd es i j es.length - 1) zE by rw [← g2,← g3]]
  simp [List.getD,g1]
theorem q5p {i j : Nat} : 0 < Qd es i j es.length ↔ ∃ v,(((i : Int),((j : Int),v)) : Ent) ∈ es := by
  constructor
  · intro h; exact ⟨_,q1x h⟩
  · rintro ⟨v,h⟩
    obtain ⟨k,hk,e⟩ := q0r h
    exact q0h hk (by rw [e]) (by rw [e])
theorem qdx (hD : DistE es) (hp : ∀ x,x ∈ es ↔ x ∈ es') (hD' : DistE es') (j : Nat) : canE es r j = canE es' r j := by
  have hx : ∀ i : Nat,0 < Qd es i j es.length ↔ 0 < Qd es' i j es'.length := fun i => by
    rw [q5p,q5p]
    exact ⟨fun ⟨v,h⟩ => ⟨v,(hp _).1 h⟩,fun ⟨v,h⟩ => ⟨v,(hp _).2 h⟩⟩
  have hc : colR es j 0 r = colR es' j 0 r := List.filter_congr fun i _ => by rw [decide_eq_decide]; exact hx i
  unfold canE
  rw [← hc]
  refine List.map_congr_left fun i hi => ?_
  have h1 := of_decide_eq_true (List.mem_filter.1 hi).2
  have h2 := (hx i).1 h1
  rw [hD.val (q1x h1) ((hp _).2 (q1x h2))]
theorem qem (hD : DistE es) (hp : ∀ x,x ∈ es ↔ x ∈ es') (hD' : DistE es') : ∀ j,can es r j = can es' r j
  | 0 => rfl
  | j + 1 => by rw [can,can,qem hD hp hD' j,qdx hD hp hD' j]
/- What is packed depends on the set of the entries. -/
/-! ### The entries of what is packed -/
theorem q2r {α : Type} {A B D : List α} {k : Nat} {d : α} (hk : k < B.length) : (A ++ B ++ D).getD (A.length + k) d = B.getD k d := by
  have : ¬ A.length + k < A.length := by omega
  simp [List.getD,List.getElem?_append,hk,this]
theorem qae {j : Nat} (hj : j < c) : ∃ zs,packI es r c = packI es r j ++ colI es j 0 r ++ zs := by
  obtain ⟨zs,e⟩ := q1t (es := es) (r := r) (t := j + 1) (c - (j + 1))
  rw [show j + 1 + (c - (j + 1)) = c by omega] at e
  exact ⟨zs,by rw [e,packI]⟩
theorem q8f {t : Nat} : ∀ d,∃ zs,packV es r (t + d) = packV es r t ++ zs
  | 0 => ⟨[],by simp⟩
  | d + 1 => by
    obtain ⟨zs,h⟩ := q8f (t := t) d
    exact ⟨zs ++ colV es (t + d) 0 r,by rw [← Nat.add_assoc,packV,h,List.append_assoc]⟩
theorem q9z {j : Nat} (hj : j < c) : ∃ zs,packV es r c = packV es r j ++ colV es j 0 r ++ zs := by
  obtain ⟨zs,e⟩ := q8f (es := es) (r := r) (t := j + 1) (c - (j + 1))
  rw [show j + 1 + (c - (j + 1)) = c by omega] at e
  exact ⟨zs,by rw [e,packV]⟩
theorem qa6 {j : Nat} (hj : j < c) : Xl (packS es r c) (packI es r c) (packV es r c) j ((packS es r c).getD j 0).toNat ((packS es r c).getD (j + 1) 0).toNat = canE es r j := by
  rw [Y7 (by omega),Y7 (by omega),Int.toNat_natCast,Int.toNat_natCast]
  have hl : (packI es r (j + 1)).length - (packI es r j).length = (colR es j 0 r).length := by
    rw [packI,List.length_append]; simp [colI]
  unfold Xl canE
  rw [hl]
  obtain ⟨zs,e⟩ := qae (es := es) (r := r) hj
  obtain ⟨ws,e'⟩ := q9z (es := es) (r := r) hj
  refine List.ext_getElem (by simp) fun k h1 h2 => ?_
  simp only [List.length_map,List.length_range'] at h1
  have hk : k < (colR es j 0 r).length := h1
  simp only [List.getElem_map,List.getElem_range',Nat.one_mul]
  have eI : (packI es r c).getD ((packI es r j).length + k) 0 = ((colR es j 0 r)[k] : Int) := by
    rw [e,q2r (by simp [colI]; exact hk)]
    simp [colI,List.getD,hk]
  have eV : (packV es r c).getD ((packI es r j).length + k) 0 = (es.getD (Qd es ((colR es j 0 r)[k]) j es.length - 1) zE).2.2 := by
    rw [e',← Jc es r j,q2r (by simp [colV]; exact hk)]
    simp [colV,List.getD,hk]
  rw [eI,eV]
theorem q9u : ∀ (d k : Nat),k + d = c → can es r k ++ ents (packS es r c) (packI es r c) (packV es r c) d k = can es r c
  | 0,k,h => by
    have : k = c := by omega
    subst this; simp [ents]
  | d + 1,k,h => by
    have ih := q9u d (k + 1) (by omega)
    rw [ents,qa6 (by omega),← List.append_assoc]
    exact ih
theorem qbh : ents (packS es r c) (packI es r c) (packV es r c) c 0 = can es r c := by
  have := q9u (es := es) (r := r) (c := c) c 0 (by omega)
  simpa [can] using this
end
/-! ### Packing the entries of a matrix -/
section
variable {R C : Nat} {S I V : List Int}
end
end Go.Vs.F

/-! MzTb -/
set_option linter.unusedVariables false
set_option linter.unusedSimpArgs false
set_option maxRecDepth 100000
namespace Go.Vs.F
theorem qja (k : Nat) : sparselaw09_awake (k + 100) = some (true,()) := by kernel_rfl
theorem qfw {m : Nat} (h : 100 ≤ m) : sparselaw09_awake m = some (true,()) := by
  obtain ⟨k,rfl⟩ : ∃ k,m = k + 100 := ⟨m - 100,by omega⟩
  exact qja k
theorem q1s {es : List Ent} {k : Nat} (h : k < es.length) : es.getD k zE ∈ es := by simp [List.getD,h]
theorem qdg {r c : Nat} {es : List Ent} (h : ∀ e ∈ es,(0 ≤ e.1 ∧ e.1 < (r : Int)) ∧ (0 ≤ e.2.1 ∧ e.2.1 < (c : Int)) ∧ finB e.2.2 = true) : EntsOK r c es := fun k hk => h _ (q1s hk)
theorem Zg {r c : Nat} {es : List Ent} (h : EntsOK r c es) : ∀ e ∈ es,(0 ≤ e.1 ∧ e.1 < (r : Int)) ∧ (0 ≤ e.2.1 ∧ e.2.1 < (c : Int)) ∧ finB e.2.2 = true := fun e he => by
  obtain ⟨k,hk,rfl⟩ := q0r he
  exact h k hk
/-! ### Comparing -/
theorem q83 (m : Nat) (a : List Int) (hb : a.length < 4611686018427387904) : ∀ (n k : Nat),a.length - k < n → g19_L0 m n a a (k : Int) = some (.inr (.inl ()))
  | 0,k,h => by omega
  | n + 1,k,h => by
    rw [g19_L0]
    by_cases hk : k < a.length
    · have h1 : ((k : Int) < (a.length : Int)) := by omega
      have c1 : (0 : Int) ≤ (k : Int) ∧ (k : Int) < (a.length : Int) := by omega
      simp only [bif_decide,h1,if_true,c1,and_self,bif_ne,w_i64_eq,wsucc (show k < 4611686018427387904 by omega)]
      exact q83 m a hb n (k + 1) (by omega)
    · have h1 : ¬ ((k : Int) < (a.length : Int)) := by omega
      simp only [bif_decide,h1,if_false]
theorem q4d {m : Nat} {a : List Int} (h : a.length < m) (hb : a.length < 4611686018427387904) : g19 m a a = some (true,(),(),()) := by
  have e := q83 m a hb m 0 (by omega)
  rw [Int.natCast_zero] at e
  rw [g19,bif_ne,if_pos rfl,e]; rfl
/-! ### Transposing, as the document does -/
/-! ### A valid matrix -/
structure MV (R C : Nat) (S I V : List Int) : Prop where
  ok : MatOK R C S I
  vl : V.length = I.length
  chk : chk (R : Int) (C : Int) S I V = 0
section
variable {R C : Nat} {S I V : List Int}
theorem MV.ents (h : MV R C S I V) : EntsOK R C (ents S I V C 0) := by
  obtain ⟨_,_,_,_,_,_,hfin⟩ := qid h.chk
  exact qio h.ok h.vl hfin
theorem MV.dist (h : MV R C S I V) : DistE (Go.Vs.F.ents S I V C 0) := q9q (q8d h.ok C 0 (by omega))
theorem MV.len (h : MV R C S I V) : (Go.Vs.F.ents S I V C 0).length ≤ 10000 := by
  rw [qcs h.ok C 0 (by omega) (by omega)]
  have := h.ok.st.rng (j := C) (Nat.le_refl _)
  have := h.ok.sz
  omega
theorem MV.sl (h : MV R C S I V) : S.length ≤ 201 := by
  have := h.ok.st.len
  have := h.ok.cz
  omega
/-! ### The lower triangle -/
theorem Yz {es : List Ent} {k : Nat} (hk : k < es.length) : es.take (k + 1) = es.take k ++ [es.getD k zE] := by
  rw [List.take_add_one]
  congr 1
  rw [List.getElem?_eq_getElem hk,List.getD,List.getElem?_eq_getElem hk]; rfl
end
end Go.Vs.F

/-! MzTc -/
set_option linter.unusedVariables false
set_option linter.unusedSimpArgs false
namespace Go.Vs.F
/- The places of the indices of a list. -/
/-! ### The document's tests -/
theorem getD_take {α : Type} {l : List α} {j k : Nat} {d : α} (h : j < k) : (l.take k).getD j d = l.getD j d := by
  simp [List.getD,List.getElem?_take,h]
end Go.Vs.F

/-! MzTd -/
set_option linter.unusedVariables false
set_option linter.unusedSimpArgs false
set_option maxRecDepth 100000
namespace Go.Vs.F
section
variable {R C : Nat} {S I V : List Int}
/- The chosen entries, and where they go. -/
/- What is chosen: by rows and columns. -/
/-! ### The document's choice -/
/- The list that grows, row by row. -/
/- Both choices are packed alike. -/
end
end Go.Vs.F

/-! MzPa -/
set_option linter.unusedVariables false
set_option maxRecDepth 100000
namespace Go.Vs.F
/- A value that is the sum of itself alone. -/
end Go.Vs.F

/-! MzTf -/
set_option linter.unusedVariables false
set_option linter.unusedSimpArgs false
set_option maxRecDepth 100000
namespace Go.Vs.F
variable {r c : Nat} {es : List Ent}
def posE (e : Ent) : Int × Int := (e.1,e.2.1)
theorem qcn : DistE es ↔ (es.map posE).Nodup := by
  rw [List.nodup_iff_pairwise_ne,List.pairwise_iff_getElem]
  have hg : ∀ i (hi : i < es.length),es.getD i zE = es[i] := fun i hi => by simp [List.getD,hi]
  constructor
  · intro h i j hi hj hij e
    simp only [List.length_map] at hi hj
    simp only [List.getElem_map,posE,Prod.mk.injEq] at e
    have := h i j hi hj (by rw [hg i hi,hg j hj]; exact e.1) (by rw [hg i hi,hg j hj]; exact e.2)
    omega
  · intro h k k' hk hk' h1 h2
    rw [hg k hk,hg k' hk'] at h1 h2
    rcases Nat.lt_trichotomy k k' with q | q | q
    · exact (h k k' (by simpa using hk) (by simpa using hk') q (by rw [List.getElem_map,List.getElem_map,posE,posE,h1,h2])).elim
    · exact q
    · exact (h k' k (by simpa using hk') (by simpa using hk) q (by rw [List.getElem_map,List.getElem_map,posE,posE,h1,h2])).elim
/-! ### FromEntries -/
/- One entry alone at its position. -/
/-! ### Made matrices -/
/- What is packed is a valid matrix. -/
theorem qil (hE : EntsOK r c es) (hr : r ≤ 200) (hc : c ≤ 200) (ha : c * r ≤ 10000) : MV r c (packS es r c) (packI es r c) (packV es r c) := ⟨qg4 hr hc ha,Jc _ _ _,qhm hE hr hc ha⟩
end Go.Vs.F

/-! MzTg -/
set_option linter.unusedVariables false
set_option linter.unusedSimpArgs false
set_option maxRecDepth 100000
namespace Go.Vs.F
section
variable {R C : Nat} {S I V : List Int}
/- Packing what is a permutation of the entries gives the matrix back. -/
end
end Go.Vs.F

/-! MzTh -/
set_option linter.unusedVariables false
set_option linter.unusedSimpArgs false
set_option maxRecDepth 100000
namespace Go.Vs.F
/-! ### Bisection -/
section
variable {R C : Nat} {S I V : List Int}
end
/-! ### Symmetric made matrices -/
end Go.Vs.F
