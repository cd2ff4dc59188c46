/- Matrices and their entries: what is packed depends on the set of entries alone; packing the entries of a matrix gives it back. Moves of a matrix: transposing, the lower triangle, permuting and selecting; the program's and the document's. Lists of indices: places, ranges, doubles, permutations. The law MatrixMoves. The made values: rounding the sum of one of them gives it back (closed evaluations). Building from entries at different positions; made matrices. The law MatrixRound. Looking up by bisection; comparing a float with itself; symmetric made matrices. -/
import Derived.Test.YtjjndhlkoehkdaaGreatDoorLa

/-! MxTa -/
set_option linter.unusedVariables false
set_option linter.unusedSimpArgs false
namespace Go.Vs.F
section
variable {es es' : List Ent} {r c : Nat}
theorem DistE.val (hD : DistE es) {i j v v' : Int} (h : ((i,(j,v)) : Ent) ∈ es) (h' : ((i,(j,v')) : Ent) ∈ es) : v = v' := by
  obtain ⟨k,hk,e⟩ := X4 h
  obtain ⟨k',hk',e'⟩ := X4 h'
  have := hD k k' hk hk' (by rw [e,e']) (by rw [e,e'])
  subst this
  rw [e] at e'
  cases e'; rfl
theorem Zh {i j : Nat} (h : 0 < Qc es i j es.length) : (((i : Int),((j : Int),(es.getD (Qc es i j es.length - 1) zE).2.2)) : Ent) ∈ es := by
  obtain ⟨g1,g2,g3⟩ := q18 h
  rw [show ((i : Int),((j : Int),(es.getD (Qc es i j es.length - 1) zE).2.2)) = es.getD (Qc es i j es.length - 1) zE by rw [← g2,← g3]]
  simp [List.getD,g1]
theorem q5s {i j : Nat} : 0 < Qc es i j es.length ↔ ∃ v,(((i : Int),((j : Int),v)) : Ent) ∈ es := by
  constructor
  · intro h; exact ⟨_,Zh h⟩
  · rintro ⟨v,h⟩
    obtain ⟨k,hk,e⟩ := X4 h
    exact q0m hk (by rw [e]) (by rw [e])
theorem qdx (hD : DistE es) (hp : ∀ x,x ∈ es ↔ x ∈ es') (hD' : DistE es') (j : Nat) : canE es r j = canE es' r j := by
  have hx : ∀ i : Nat,0 < Qc es i j es.length ↔ 0 < Qc es' i j es'.length := fun i => by
    rw [q5s,q5s]
    exact ⟨fun ⟨v,h⟩ => ⟨v,(hp _).1 h⟩,fun ⟨v,h⟩ => ⟨v,(hp _).2 h⟩⟩
  have hc : colR es j 0 r = colR es' j 0 r := List.filter_congr fun i _ => by rw [decide_eq_decide]; exact hx i
  unfold canE
  rw [← hc]
  refine List.map_congr_left fun i hi => ?_
  have h1 := of_decide_eq_true (List.mem_filter.1 hi).2
  have h2 := (hx i).1 h1
  rw [hD.val (Zh h1) ((hp _).2 (Zh h2))]
theorem qh4 (hD : DistE es) (hp : ∀ x,x ∈ es ↔ x ∈ es') (hD' : DistE es') : ∀ j,can es r j = can es' r j
  | 0 => rfl
  | j + 1 => by rw [can,can,qh4 hD hp hD' j,qdx hD hp hD' j]
/- What is packed depends on the set of the entries. -/
/-! ### The entries of what is packed -/
theorem qk0 (j : Nat) : (can es r j).length = (packI es r j).length := by rw [← can_I]; simp
theorem q2s {α : Type} {A B D : List α} {k : Nat} {d : α} (hk : k < B.length) : (A ++ B ++ D).getD (A.length + k) d = B.getD k d := by
  have : ¬ A.length + k < A.length := by omega
  simp [List.getD,List.getElem?_append,hk,this]
theorem qb7 {j : Nat} (hj : j < c) : ∃ zs,packI es r c = packI es r j ++ colI es j 0 r ++ zs := by
  obtain ⟨zs,e⟩ := q1l (es := es) (r := r) (t := j + 1) (c - (j + 1))
  rw [show j + 1 + (c - (j + 1)) = c by omega] at e
  exact ⟨zs,by rw [e,packI]⟩
theorem q8v {t : Nat} : ∀ d,∃ zs,packV es r (t + d) = packV es r t ++ zs
  | 0 => ⟨[],by simp⟩
  | d + 1 => by
    obtain ⟨zs,h⟩ := q8v (t := t) d
    exact ⟨zs ++ colV es (t + d) 0 r,by rw [← Nat.add_assoc,packV,h,List.append_assoc]⟩
theorem qbh {j : Nat} (hj : j < c) : ∃ zs,packV es r c = packV es r j ++ colV es j 0 r ++ zs := by
  obtain ⟨zs,e⟩ := q8v (es := es) (r := r) (t := j + 1) (c - (j + 1))
  rw [show j + 1 + (c - (j + 1)) = c by omega] at e
  exact ⟨zs,by rw [e,packV]⟩
theorem qcf {j : Nat} (hj : j < c) : Xe (packS es r c) (packI es r c) (packV es r c) j ((packS es r c).getD j 0).toNat ((packS es r c).getD (j + 1) 0).toNat = canE es r j := by
  rw [Y8 (by omega),Y8 (by omega),Int.toNat_natCast,Int.toNat_natCast]
  have hl : (packI es r (j + 1)).length - (packI es r j).length = (colR es j 0 r).length := by
    rw [packI,List.length_append]; simp [colI]
  unfold Xe canE
  rw [hl]
  obtain ⟨zs,e⟩ := qb7 (es := es) (r := r) hj
  obtain ⟨ws,e'⟩ := qbh (es := es) (r := r) hj
  refine List.ext_getElem (by simp) fun k h1 h2 => ?_
  simp only [List.length_map,List.length_range'] at h1
  have hk : k < (colR es j 0 r).length := h1
  simp only [List.getElem_map,List.getElem_range',Nat.one_mul]
  have eI : (packI es r c).getD ((packI es r j).length + k) 0 = ((colR es j 0 r)[k] : Int) := by
    rw [e,q2s (by simp [colI]; exact hk)]
    simp [colI,List.getD,hk]
  have eV : (packV es r c).getD ((packI es r j).length + k) 0 = (es.getD (Qc es ((colR es j 0 r)[k]) j es.length - 1) zE).2.2 := by
    rw [e',← Ji es r j,q2s (by simp [colV]; exact hk)]
    simp [colV,List.getD,hk]
  rw [eI,eV]
theorem q8r : ∀ (d k : Nat),k + d = c → can es r k ++ ents (packS es r c) (packI es r c) (packV es r c) d k = can es r c
  | 0,k,h => by
    have : k = c := by omega
    subst this; simp [ents]
  | d + 1,k,h => by
    have ih := q8r d (k + 1) (by omega)
    rw [ents,qcf (by omega),← List.append_assoc]
    exact ih
theorem q0w : ents (packS es r c) (packI es r c) (packV es r c) c 0 = can es r c := by
  have := q8r (es := es) (r := r) (c := c) c 0 (by omega)
  simpa [can] using this
end
/-! ### Packing the entries of a matrix -/
section
variable {R C : Nat} {S I V : List Int}
end
end Go.Vs.F

/-! MxTb -/
set_option linter.unusedVariables false
set_option linter.unusedSimpArgs false
set_option maxRecDepth 100000
namespace Go.Vs.F
theorem qja (k : Nat) : sparselaw09_awake (k + 100) = some (true,()) := by kernel_rfl
theorem qij {m : Nat} (h : 100 ≤ m) : sparselaw09_awake m = some (true,()) := by
  obtain ⟨k,rfl⟩ : ∃ k,m = k + 100 := ⟨m - 100,by omega⟩
  exact qja k
theorem q8a {es : List Ent} {k : Nat} (h : k < es.length) : es.getD k zE ∈ es := by simp [List.getD,h]
theorem Jy {r c : Nat} {es : List Ent} (h : EntsOK r c es) : ∀ e ∈ es,(0 ≤ e.1 ∧ e.1 < (r : Int)) ∧ (0 ≤ e.2.1 ∧ e.2.1 < (c : Int)) ∧ finB e.2.2 = true := fun e he => by
  obtain ⟨k,hk,rfl⟩ := X4 he
  exact h k hk
/-! ### Comparing -/
theorem qa8 (m : Nat) (a : List Int) (hb : a.length < 4611686018427387904) : ∀ (n k : Nat),a.length - k < n → g19_L0 m n a a (k : Int) = some (.inr (.inl ()))
  | 0,k,h => by omega
  | n + 1,k,h => by
    rw [g19_L0]
    by_cases hk : k < a.length
    · have h1 : ((k : Int) < (a.length : Int)) := by omega
      have c1 : (0 : Int) ≤ (k : Int) ∧ (k : Int) < (a.length : Int) := by omega
      simp only [bif_decide,h1,if_true,c1,and_self,bif_ne,w_i64_eq,wsucc (show k < 4611686018427387904 by omega)]
      exact qa8 m a hb n (k + 1) (by omega)
    · have h1 : ¬ ((k : Int) < (a.length : Int)) := by omega
      simp only [bif_decide,h1,if_false]
theorem qc0 {m : Nat} {a : List Int} (h : a.length < m) (hb : a.length < 4611686018427387904) : g19 m a a = some (true,(),(),()) := by
  have e := qa8 m a hb m 0 (by omega)
  rw [Int.natCast_zero] at e
  rw [g19,bif_ne,if_pos rfl,e]; rfl
/-! ### Transposing, as the document does -/
/-! ### A valid matrix -/
structure MV (R C : Nat) (S I V : List Int) : Prop where
  ok : MatOK R C S I
  vl : V.length = I.length
  chk : chk (R : Int) (C : Int) S I V = 0
section
variable {R C : Nat} {S I V : List Int}
theorem MV.ents (h : MV R C S I V) : EntsOK R C (ents S I V C 0) := by
  obtain ⟨_,_,_,_,_,_,hfin⟩ := qg6 h.chk
  exact qby h.ok h.vl hfin
theorem MV.dist (h : MV R C S I V) : DistE (Go.Vs.F.ents S I V C 0) := Jl (q1b h.ok C 0 (by omega))
theorem MV.len (h : MV R C S I V) : (Go.Vs.F.ents S I V C 0).length ≤ 10000 := by
  rw [q3c h.ok C 0 (by omega) (by omega)]
  have := h.ok.st.rng (j := C) (Nat.le_refl _)
  have := h.ok.sz
  omega
theorem MV.sl (h : MV R C S I V) : S.length ≤ 201 := by
  have := h.ok.st.len
  have := h.ok.cz
  omega
/-! ### The lower triangle -/
theorem Yz {es : List Ent} {k : Nat} (hk : k < es.length) : es.take (k + 1) = es.take k ++ [es.getD k zE] := by
  rw [List.take_add_one]
  congr 1
  rw [List.getElem?_eq_getElem hk,List.getD,List.getElem?_eq_getElem hk]; rfl
end
end Go.Vs.F

/-! MxTc -/
set_option linter.unusedVariables false
set_option linter.unusedSimpArgs false
namespace Go.Vs.F
/- The places of the indices of a list. -/
/-! ### The document's tests -/
theorem getD_take {α : Type} {l : List α} {j k : Nat} {d : α} (h : j < k) : (l.take k).getD j d = l.getD j d := by
  simp [List.getD,List.getElem?_take,h]
end Go.Vs.F

/-! MxTd -/
set_option linter.unusedVariables false
set_option linter.unusedSimpArgs false
set_option maxRecDepth 100000
namespace Go.Vs.F
section
variable {R C : Nat} {S I V : List Int}
/- The chosen entries, and where they go. -/
/- What is chosen: by rows and columns. -/
/-! ### The document's choice -/
/- The list that grows, row by row. -/
/- Both choices are packed alike. -/
end
end Go.Vs.F

/-! MxPa -/
set_option linter.unusedVariables false
set_option maxRecDepth 100000
namespace Go.Vs.F
def valC (m : Nat) (a e : Int) : Option (Int × Unit × Unit) :=
  (g89 m a).bind fun y2 =>
  (g88 m y2.1.1 y2.1.2.1 y2.1.2.2.1 y2.1.2.2.2.1 e).bind fun y3 =>
  (g64 m y3.1.1 y3.1.2.1 y3.1.2.2.1 y3.1.2.2.2.1 0).bind fun y4 =>
  some (y4.1,((),()))
/- A value that is the sum of itself alone. -/
end Go.Vs.F

/-! MxTf -/
set_option linter.unusedVariables false
set_option linter.unusedSimpArgs false
set_option maxRecDepth 100000
namespace Go.Vs.F
variable {r c : Nat} {es : List Ent}
/-! ### FromEntries -/
/- One entry alone at its position. -/
/-! ### Made matrices -/
/- What is packed is a valid matrix. -/
theorem qcg (hE : EntsOK r c es) (hr : r ≤ 200) (hc : c ≤ 200) (ha : c * r ≤ 10000) : MV r c (packS es r c) (packI es r c) (packV es r c) := ⟨qfv hr hc ha,Ji _ _ _,qhi hE hr hc ha⟩
end Go.Vs.F

/-! MxTg -/
set_option linter.unusedVariables false
set_option linter.unusedSimpArgs false
set_option maxRecDepth 100000
namespace Go.Vs.F
section
variable {R C : Nat} {S I V : List Int}
/- Packing what is a permutation of the entries gives the matrix back. -/
end
end Go.Vs.F

/-! MxTh -/
set_option linter.unusedVariables false
set_option linter.unusedSimpArgs false
set_option maxRecDepth 100000
namespace Go.Vs.F
/-! ### Bisection -/
section
variable {R C : Nat} {S I V : List Int}
end
/-! ### Symmetric made matrices -/
theorem qka (l : List Int) (k : Nat) : ∃ x,∀ m,g74 m l (k : Int) = some (x,(),(),()) := by
  by_cases h : (k : Int) < (l.length : Int)
  · exact ⟨_,fun m => by rw [g74,bif_decide,if_pos h,if_pos (by omega)]⟩
  · exact ⟨_,fun m => by rw [g74,bif_decide,if_neg h]⟩
end Go.Vs.F
