/- Matrices and their entries: what is packed depends on the set of entries alone; packing the entries of a matrix gives it back. Moves of a matrix: transposing, the lower triangle, permuting and selecting; the program's and the document's. Lists of indices: places, ranges, doubles, permutations. The law MatrixMoves. The made values: rounding the sum of one of them gives it back (closed evaluations). Building from entries at different positions; made matrices. The law MatrixRound. Looking up by bisection; comparing a float with itself; symmetric made matrices. -/
import Derived.Test.YtjjndhlkoehkdaaGreatDoorLa

/-! MyTa -/
set_option linter.unusedVariables false
set_option linter.unusedSimpArgs false
namespace Go.Vs.F
section
variable {es es' : List Ent} {r c : Nat}
theorem DistE.val (hD : DistE es) {i j v v' : Int} (h : ((i,(j,v)) : Ent) ∈ es) (h' : ((i,(j,v')) : Ent) ∈ es) : v = v' := by
  obtain ⟨k,hk,e⟩ := Yd h
  obtain ⟨k',hk',e'⟩ := Yd h'
  have := hD k k' hk hk' (by rw [e,e']) (by rw [e,e'])
  subst this
  rw [e] at e'
  cases e'; rfl
theorem q1t {i j : Nat} (h : 0 < Qi es i j es.length) : (((i : Int),((j : Int),(es.getD (Qi es i j es.length - 1) zE).2.2)) : Ent) ∈ es := by
  obtain ⟨g1,g2,g3⟩ := q0l h
  rw [show ((i : Int),((j : Int),(es.getD (Qi es i j es.length - 1) zE).2.2)) = es.getD (Qi es i j es.length - 1) zE by rw [← g2,← g3]]
  simp [List.getD,g1]
theorem q5k {i j : Nat} : 0 < Qi es i j es.length ↔ ∃ v,(((i : Int),((j : Int),v)) : Ent) ∈ es := by
  constructor
  · intro h; exact ⟨_,q1t h⟩
  · rintro ⟨v,h⟩
    obtain ⟨k,hk,e⟩ := Yd h
    exact q0d hk (by rw [e]) (by rw [e])
theorem qcx (hD : DistE es) (hp : ∀ x,x ∈ es ↔ x ∈ es') (hD' : DistE es') (j : Nat) : canE es r j = canE es' r j := by
  have hx : ∀ i : Nat,0 < Qi es i j es.length ↔ 0 < Qi es' i j es'.length := fun i => by
    rw [q5k,q5k]
    exact ⟨fun ⟨v,h⟩ => ⟨v,(hp _).1 h⟩,fun ⟨v,h⟩ => ⟨v,(hp _).2 h⟩⟩
  have hc : colR es j 0 r = colR es' j 0 r := List.filter_congr fun i _ => by rw [decide_eq_decide]; exact hx i
  unfold canE
  rw [← hc]
  refine List.map_congr_left fun i hi => ?_
  have h1 := of_decide_eq_true (List.mem_filter.1 hi).2
  have h2 := (hx i).1 h1
  rw [hD.val (q1t h1) ((hp _).2 (q1t h2))]
theorem q41 (hD : DistE es) (hp : ∀ x,x ∈ es ↔ x ∈ es') (hD' : DistE es') : ∀ j,can es r j = can es' r j
  | 0 => rfl
  | j + 1 => by rw [can,can,q41 hD hp hD' j,qcx hD hp hD' j]
/- What is packed depends on the set of the entries. -/
theorem q48 (hD : DistE es) (hp : ∀ x,x ∈ es ↔ x ∈ es') (hD' : DistE es') (j : Nat) : packI es r j = packI es' r j := by rw [← can_I,← can_I,q41 hD hp hD']
theorem q9a (hD : DistE es) (hp : ∀ x,x ∈ es ↔ x ∈ es') (hD' : DistE es') (j : Nat) : packV es r j = packV es' r j := by rw [← can_V,← can_V,q41 hD hp hD']
theorem qai (hD : DistE es) (hp : ∀ x,x ∈ es ↔ x ∈ es') (hD' : DistE es') (j : Nat) : packS es r j = packS es' r j := by
  unfold packS
  exact List.map_congr_left fun t _ => by rw [q48 hD hp hD']
/-! ### The entries of what is packed -/
end
/-! ### Packing the entries of a matrix -/
section
variable {R C : Nat} {S I V : List Int}
end
end Go.Vs.F

/-! MyTb -/
set_option linter.unusedVariables false
set_option linter.unusedSimpArgs false
set_option maxRecDepth 100000
namespace Go.Vs.F
theorem qi2 (k : Nat) : sparselaw09_awake (k + 100) = some (true,()) := by kernel_rfl
theorem qff {m : Nat} (h : 100 ≤ m) : sparselaw09_awake m = some (true,()) := by
  obtain ⟨k,rfl⟩ : ∃ k,m = k + 100 := ⟨m - 100,by omega⟩
  exact qi2 k
theorem q3p {es : List Ent} {k : Nat} (h : k < es.length) : es.getD k zE ∈ es := by simp [List.getD,h]
theorem q5p {r c : Nat} {es : List Ent} (h : ∀ e ∈ es,(0 ≤ e.1 ∧ e.1 < (r : Int)) ∧ (0 ≤ e.2.1 ∧ e.2.1 < (c : Int)) ∧ finB e.2.2 = true) : EntsOK r c es := fun k hk => h _ (q3p hk)
/-! ### Comparing -/
theorem q7p (m : Nat) (a : List Int) (hb : a.length < 4611686018427387904) : ∀ (n k : Nat),a.length - k < n → g19_L0 m n a a (k : Int) = some (.inr (.inl ()))
  | 0,k,h => by omega
  | n + 1,k,h => by
    rw [g19_L0]
    by_cases hk : k < a.length
    · have h1 : ((k : Int) < (a.length : Int)) := by omega
      have c1 : (0 : Int) ≤ (k : Int) ∧ (k : Int) < (a.length : Int) := by omega
      simp only [bif_decide,h1,if_true,c1,and_self,bif_ne,w_i64_eq,wsucc (show k < 4611686018427387904 by omega)]
      exact q7p m a hb n (k + 1) (by omega)
    · have h1 : ¬ ((k : Int) < (a.length : Int)) := by omega
      simp only [bif_decide,h1,if_false]
theorem q9v {m : Nat} {a : List Int} (h : a.length < m) (hb : a.length < 4611686018427387904) : g19 m a a = some (true,(),(),()) := by
  have e := q7p m a hb m 0 (by omega)
  rw [Int.natCast_zero] at e
  rw [g19,bif_ne,if_pos rfl,e]; rfl
theorem q90 {m : Nat} {a : List Int} (h : a.length < m) (hb : a.length < 4611686018427387904) : g56 m a a = some (true,(),(),()) := by rw [qh9 h hb]; simp
theorem q9d {m : Nat} {a b : Int} {S I V : List Int} (h1 : S.length < m) (h2 : I.length < m) (h3 : V.length < m) (h4 : m < 4611686018427387904) : g52 m a b S I V a b S I V = some (true,(),(),()) := by
  rw [g52,bif_eq,if_pos rfl,bif_eq,if_pos rfl,q90 h1 (by omega)]
  simp only [Option.bind_some,cond_true]
  rw [q90 h2 (by omega)]
  simp only [Option.bind_some,cond_true]
  rw [q9v h3 (by omega)]; rfl
theorem qd1 {m : Nat} {a b e : Int} {S I V : List Int} (h1 : S.length < m) (h2 : I.length < m) (h3 : V.length < m) (h4 : m < 4611686018427387904) : sparselaw09_alike m a b S I V e a b S I V e = some (true,(),(),(),(),()) := by
  rw [sparselaw09_alike,bif_eq,if_pos rfl,q9d h1 h2 h3 h4]; rfl
/-! ### Transposing, as the document does -/
/-! ### A valid matrix -/
section
variable {R C : Nat} {S I V : List Int}
/-! ### The lower triangle -/
end
end Go.Vs.F

/-! MyTc -/
set_option linter.unusedVariables false
set_option linter.unusedSimpArgs false
namespace Go.Vs.F
/- The places of the indices of a list. -/
/-! ### The document's tests -/
end Go.Vs.F

/-! MyTd -/
set_option linter.unusedVariables false
set_option linter.unusedSimpArgs false
set_option maxRecDepth 100000
namespace Go.Vs.F
section
variable {R C : Nat} {S I V : List Int}
/- The chosen entries, and where they go. -/
/- What is chosen: by rows and columns. -/
/-! ### The document's choice -/
/- The list that grows, row by row. -/
/- Both choices are packed alike. -/
end
end Go.Vs.F

/-! MyPa -/
set_option linter.unusedVariables false
set_option maxRecDepth 100000
namespace Go.Vs.F
/- A value that is the sum of itself alone. -/
end Go.Vs.F

/-! MyTf -/
set_option linter.unusedVariables false
set_option linter.unusedSimpArgs false
set_option maxRecDepth 100000
namespace Go.Vs.F
variable {r c : Nat} {es : List Ent}
def posE (e : Ent) : Int × Int := (e.1,e.2.1)
theorem qbm : DistE es ↔ (es.map posE).Nodup := by
  rw [List.nodup_iff_pairwise_ne,List.pairwise_iff_getElem]
  have hg : ∀ i (hi : i < es.length),es.getD i zE = es[i] := fun i hi => by simp [List.getD,hi]
  constructor
  · intro h i j hi hj hij e
    simp only [List.length_map] at hi hj
    simp only [List.getElem_map,posE,Prod.mk.injEq] at e
    have := h i j hi hj (by rw [hg i hi,hg j hj]; exact e.1) (by rw [hg i hi,hg j hj]; exact e.2)
    omega
  · intro h k k' hk hk' h1 h2
    rw [hg k hk,hg k' hk'] at h1 h2
    rcases Nat.lt_trichotomy k k' with q | q | q
    · exact (h k k' (by simpa using hk) (by simpa using hk') q (by rw [List.getElem_map,List.getElem_map,posE,posE,h1,h2])).elim
    · exact q
    · exact (h k' k (by simpa using hk') (by simpa using hk) q (by rw [List.getElem_map,List.getElem_map,posE,posE,h1,h2])).elim
/-! ### FromEntries -/
/- One entry alone at its position. -/
/-! ### Made matrices -/
/- What is packed is a valid matrix. -/
end Go.Vs.F

/-! MyTg -/
set_option linter.unusedVariables false
set_option linter.unusedSimpArgs false
set_option maxRecDepth 100000
namespace Go.Vs.F
section
variable {R C : Nat} {S I V : List Int}
/- Packing what is a permutation of the entries gives the matrix back. -/
end
end Go.Vs.F

/-! MyTh -/
set_option linter.unusedVariables false
set_option linter.unusedSimpArgs false
set_option maxRecDepth 100000
namespace Go.Vs.F
/-! ### Bisection -/
section
variable {R C : Nat} {S I V : List Int}
end
/-! ### Symmetric made matrices -/
end Go.Vs.F
