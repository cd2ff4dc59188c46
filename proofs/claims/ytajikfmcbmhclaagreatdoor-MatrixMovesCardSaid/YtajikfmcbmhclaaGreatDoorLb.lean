/- Matrices and their entries: what is packed depends on the set of entries alone; packing the entries of a matrix gives it back. Moves of a matrix: transposing, the lower triangle, permuting and selecting; the program's and the document's. Lists of indices: places, ranges, doubles, permutations. The law MatrixMoves. The law MatrixMoves, joined. -/
import Derived.Test.YtajikfmcbmhclaaGreatDoorLa

/-! MwTa -/
set_option linter.unusedVariables false
set_option linter.unusedSimpArgs false
namespace Go.Vs.F
section
variable {es es' : List Ent} {r c : Nat}
theorem DistE.val (hD : DistE es) {i j v v' : Int} (h : ((i, (j, v)) : Ent) ∈ es) (h' : ((i, (j, v')) : Ent) ∈ es) : v = v' := by
  obtain ⟨k, hk, e⟩ := mem_getD h
  obtain ⟨k', hk', e'⟩ := mem_getD h'
  have := hD k k' hk hk' (by rw [e, e']) (by rw [e, e'])
  subst this
  rw [e] at e'
  cases e'; rfl
theorem lastIx_mem {i j : Nat} (h : 0 < lastIx es i j es.length) : (((i : Int), ((j : Int), (es.getD (lastIx es i j es.length - 1) zE).2.2)) : Ent) ∈ es := by
  obtain ⟨g1, g2, g3⟩ := lastIx_at h
  rw [show ((i : Int), ((j : Int), (es.getD (lastIx es i j es.length - 1) zE).2.2)) = es.getD (lastIx es i j es.length - 1) zE by rw [← g2, ← g3]]
  simp [List.getD, g1]
theorem lastIx_iff {i j : Nat} : 0 < lastIx es i j es.length ↔ ∃ v, (((i : Int), ((j : Int), v)) : Ent) ∈ es := by
  constructor
  · intro h; exact ⟨_, lastIx_mem h⟩
  · rintro ⟨v, h⟩
    obtain ⟨k, hk, e⟩ := mem_getD h
    exact lastIx_pos' hk (by rw [e]) (by rw [e])
theorem canE_congr (hD : DistE es) (hp : ∀ x, x ∈ es ↔ x ∈ es') (hD' : DistE es') (j : Nat) : canE es r j = canE es' r j := by
  have hx : ∀ i : Nat, 0 < lastIx es i j es.length ↔ 0 < lastIx es' i j es'.length := fun i => by
    rw [lastIx_iff, lastIx_iff]
    exact ⟨fun ⟨v, h⟩ => ⟨v, (hp _).1 h⟩, fun ⟨v, h⟩ => ⟨v, (hp _).2 h⟩⟩
  have hc : colR es j 0 r = colR es' j 0 r := List.filter_congr fun i _ => by rw [decide_eq_decide]; exact hx i
  unfold canE
  rw [← hc]
  refine List.map_congr_left fun i hi => ?_
  have h1 := of_decide_eq_true (List.mem_filter.1 hi).2
  have h2 := (hx i).1 h1
  rw [hD.val (lastIx_mem h1) ((hp _).2 (lastIx_mem h2))]
theorem can_congr (hD : DistE es) (hp : ∀ x, x ∈ es ↔ x ∈ es') (hD' : DistE es') : ∀ j, can es r j = can es' r j
  | 0 => rfl
  | j + 1 => by rw [can, can, can_congr hD hp hD' j, canE_congr hD hp hD' j]
/- What is packed depends on the set of the entries. -/
theorem packI_congr (hD : DistE es) (hp : ∀ x, x ∈ es ↔ x ∈ es') (hD' : DistE es') (j : Nat) : packI es r j = packI es' r j := by rw [← can_I, ← can_I, can_congr hD hp hD']
theorem packV_congr (hD : DistE es) (hp : ∀ x, x ∈ es ↔ x ∈ es') (hD' : DistE es') (j : Nat) : packV es r j = packV es' r j := by rw [← can_V, ← can_V, can_congr hD hp hD']
theorem packS_congr (hD : DistE es) (hp : ∀ x, x ∈ es ↔ x ∈ es') (hD' : DistE es') (j : Nat) : packS es r j = packS es' r j := by
  unfold packS
  exact List.map_congr_left fun t _ => by rw [packI_congr hD hp hD']
/-! ### The entries of what is packed -/
end
/-! ### Packing the entries of a matrix -/
section
variable {R C : Nat} {S I V : List Int}
end
end Go.Vs.F

/-! MwTb -/
set_option linter.unusedVariables false
set_option linter.unusedSimpArgs false
set_option maxRecDepth 100000
namespace Go.Vs.F
theorem awake9' (k : Nat) : sparselaw09_awake (k + 100) = some (true, ()) := by kernel_rfl
theorem awakeN {m : Nat} (h : 100 ≤ m) : sparselaw09_awake m = some (true, ()) := by
  obtain ⟨k, rfl⟩ : ∃ k, m = k + 100 := ⟨m - 100, by omega⟩
  exact awake9' k
theorem getD_memE {es : List Ent} {k : Nat} (h : k < es.length) : es.getD k zE ∈ es := by simp [List.getD, h]
theorem entsOK_mem {r c : Nat} {es : List Ent} (h : ∀ e ∈ es, (0 ≤ e.1 ∧ e.1 < (r : Int)) ∧ (0 ≤ e.2.1 ∧ e.2.1 < (c : Int)) ∧ finB e.2.2 = true) : EntsOK r c es := fun k hk => h _ (getD_memE hk)
theorem mem_entsOK {r c : Nat} {es : List Ent} (h : EntsOK r c es) : ∀ e ∈ es, (0 ≤ e.1 ∧ e.1 < (r : Int)) ∧ (0 ≤ e.2.1 ∧ e.2.1 < (c : Int)) ∧ finB e.2.2 = true := fun e he => by
  obtain ⟨k, hk, rfl⟩ := mem_getD he
  exact h k hk
/-! ### Comparing -/
theorem Floats_L0 (m : Nat) (a : List Int) (hb : a.length < 4611686018427387904) : ∀ (n k : Nat), a.length - k < n → g41_L0 m n a a (k : Int) = some (.inr (.inl ()))
  | 0, k, h => by omega
  | n + 1, k, h => by
    rw [g41_L0]
    by_cases hk : k < a.length
    · have h1 : ((k : Int) < (a.length : Int)) := by omega
      have c1 : (0 : Int) ≤ (k : Int) ∧ (k : Int) < (a.length : Int) := by omega
      simp only [bif_decide, h1, if_true, c1, and_self, bif_ne, w_i64_eq, wsucc (show k < 4611686018427387904 by omega)]
      exact Floats_L0 m a hb n (k + 1) (by omega)
    · have h1 : ¬ ((k : Int) < (a.length : Int)) := by omega
      simp only [bif_decide, h1, if_false]
theorem Floats_self {m : Nat} {a : List Int} (h : a.length < m) (hb : a.length < 4611686018427387904) : g41 m a a = some (true, (), (), ()) := by
  have e := Floats_L0 m a hb m 0 (by omega)
  rw [Int.natCast_zero] at e
  rw [g41, bif_ne, if_pos rfl, e]; rfl
theorem Ints_same {m : Nat} {a : List Int} (h : a.length < m) (hb : a.length < 4611686018427387904) : g27 m a a = some (true, (), (), ()) := by rw [Ints_eq h hb]; simp
theorem Matrix_self {m : Nat} {a b : Int} {S I V : List Int} (h1 : S.length < m) (h2 : I.length < m) (h3 : V.length < m) (h4 : m < 4611686018427387904) : g15 m a b S I V a b S I V = some (true, (), (), ()) := by
  rw [g15, bif_eq, if_pos rfl, bif_eq, if_pos rfl, Ints_same h1 (by omega)]
  simp only [Option.bind_some, cond_true]
  rw [Ints_same h2 (by omega)]
  simp only [Option.bind_some, cond_true]
  rw [Floats_self h3 (by omega)]; rfl
theorem alike_self {m : Nat} {a b e : Int} {S I V : List Int} (h1 : S.length < m) (h2 : I.length < m) (h3 : V.length < m) (h4 : m < 4611686018427387904) : sparselaw09_alike m a b S I V e a b S I V e = some (true, (), (), (), (), ()) := by
  rw [sparselaw09_alike, bif_eq, if_pos rfl, Matrix_self h1 h2 h3 h4]; rfl
/-! ### Transposing, as the document does -/
theorem refTranspose_L0 (m : Nat) (r c : Int) (S I V : List Int) (b0 b1 : Int) (b2 b3 b4 : List Int) : ∀ (L2 L1 : List Ent) (n : Nat), L2.length < n → L1.length + L2.length < 1000000000 →
    g17_L0 m n r c S I V b0 b1 b2 b3 b4 (L1.map swE ++ L2) (L1.length : Int) = some (.inl ((r, c, S, I, V, ()), (b0, b1, b2, b3, b4, ()), (L1 ++ L2).map swE, ()))
  | L2, L1, 0, h, _ => absurd h (Nat.not_lt_zero _)
  | [], L1, n + 1, _, hb => by
    rw [g17_L0, bif_decide, if_neg (by simp)]
    simp
  | x :: L2, L1, n + 1, h, hb => by
    simp only [List.length_cons] at h hb
    have hlen : (L1.map swE ++ x :: L2).length = L1.length + 1 + L2.length := by simp; omega
    have gx : (L1.map swE ++ x :: L2).getD (0 + (L1.length : Int).toNat) zE = x := getD_at (by simp)
    have hs : ∀ y : Ent, (L1.map swE ++ x :: L2).set (0 + (L1.length : Int).toNat) y = L1.map swE ++ y :: L2 := fun y => set_at (by simp)
    have hs2 : ∀ y z : Ent, (L1.map swE ++ y :: L2).set (0 + (L1.length : Int).toNat) z = L1.map swE ++ z :: L2 := fun y z => set_at (by simp)
    have gy : ∀ y : Ent, (L1.map swE ++ y :: L2).getD (0 + (L1.length : Int).toNat) zE = y := fun y => getD_at (by simp)
    rw [g17_L0, bif_decide, if_pos (by omega)]
    simp only [gx, hs, gy, hs2]
    rw [if_pos (by omega), if_pos (by omega), if_pos (by omega), if_pos (by simp; omega)]
    have ih := refTranspose_L0 m r c S I V b0 b1 b2 b3 b4 L2 (L1 ++ [x]) n (by omega) (by simp; omega)
    rw [show w_i64 ((L1.length : Int) + 1) = ((L1 ++ [x]).length : Int) by rw [w_i64_eq, wi (by omega) (by omega)]; simp,
      show L1.map swE ++ (x.2.1, (x.1, x.2.2)) :: L2 = (L1 ++ [x]).map swE ++ L2 by simp [swE], ih]
    simp
/-! ### A valid matrix -/
structure MV (R C : Nat) (S I V : List Int) : Prop where
  ok : MatOK R C S I
  vl : V.length = I.length
  chk : chk (R : Int) (C : Int) S I V = 0
section
variable {R C : Nat} {S I V : List Int}
theorem MV.ents (h : MV R C S I V) : EntsOK R C (ents S I V C 0) := by
  obtain ⟨_, _, _, _, _, _, hfin⟩ := chk_ok h.chk
  exact ents_ok h.ok h.vl hfin
theorem MV.dist (h : MV R C S I V) : DistE (Go.Vs.F.ents S I V C 0) := dist_of_pair (ents_pair h.ok C 0 (by omega))
theorem MV.len (h : MV R C S I V) : (Go.Vs.F.ents S I V C 0).length ≤ 10000 := by
  rw [ents_len h.ok C 0 (by omega) (by omega)]
  have := h.ok.st.rng (j := C) (Nat.le_refl _)
  have := h.ok.sz
  omega
theorem MV.sl (h : MV R C S I V) : S.length ≤ 201 := by
  have := h.ok.st.len
  have := h.ok.cz
  omega
theorem refTranspose_eq {m : Nat} (hm : 3000000 < m) (h : MV R C S I V) :
    g17 m (R : Int) (C : Int) S I V = some ((((C : Int), (R : Int), packS ((ents S I V C 0).map swE) C R, packI ((ents S I V C 0).map swE) C R, packV ((ents S I V C 0).map swE) C R, ()), 0, ()), (), ()) := by
  have hE := (Transpose_eq (m := 3000001) (by omega) h.ok h.vl (by have := h.sl; omega) h.chk).1
  have hsz := h.ok.sz
  have hl := h.len
  have hv := h.vl
  have e := refTranspose_L0 m (R : Int) (C : Int) S I V 0 0 [] [] [] (ents S I V C 0) [] m (by omega) (by simp; omega)
  simp only [List.map_nil, List.nil_append, List.length_nil, Int.natCast_zero] at e
  rw [g17, ref_Check_eq (by omega) (by omega) (by omega), h.chk]
  simp only [Option.bind_some, bif_ne, if_true]
  rw [Entries_eq (by omega) h.ok h.vl h.chk]
  simp only [Option.bind_some, e]
  rw [Pack_eq hE h.ok.cz h.ok.rz (by simp; omega) (by omega)]
  rfl
/-! ### The lower triangle -/
def lowE (e : Ent) : Bool := decide (e.1 ≥ e.2.1)
theorem take_succ_getD {es : List Ent} {k : Nat} (hk : k < es.length) : es.take (k + 1) = es.take k ++ [es.getD k zE] := by
  rw [List.take_add_one]
  congr 1
  rw [List.getElem?_eq_getElem hk, List.getD, List.getElem?_eq_getElem hk]; rfl
theorem filter_snoc {es : List Ent} {p : Ent → Bool} {k : Nat} (hk : k < es.length) : (es.take (k + 1)).filter p = (es.take k).filter p ++ (if p (es.getD k zE) then [es.getD k zE] else []) := by
  rw [take_succ_getD hk, List.filter_append, List.filter_cons]
  split <;> rfl
theorem filter_len {es : List Ent} {p : Ent → Bool} {k : Nat} : ((es.take k).filter p).length ≤ k := by
  have h := List.length_filter_le p (es.take k)
  rw [List.length_take] at h
  omega
theorem Lower_L0 (m : Nat) (r c : Int) (S I V : List Int) (b0 b1 : Int) (b2 b3 b4 : List Int) {es : List Ent} (hl : es.length ≤ 100000) : ∀ (n k : Nat), es.length - k < n → k ≤ es.length →
    g18_L0 m n r c S I V b0 b1 b2 b3 b4 ((es.take k).filter lowE) es (es.length : Int) (k : Int) = some (.inl ((r, c, S, I, V, ()), (b0, b1, b2, b3, b4, ()), es.filter lowE, ())) ∧
    g19_L0 m n r c S I V b0 b1 b2 b3 b4 ((es.take k).filter lowE) es (k : Int) = some (.inl ((r, c, S, I, V, ()), (b0, b1, b2, b3, b4, ()), es.filter lowE, ()))
  | 0, k, h, _ => absurd h (Nat.not_lt_zero _)
  | n + 1, k, h, hk0 => by
    rw [g18_L0, g19_L0]
    by_cases hk : k < es.length
    · have h1 : ((k : Int) < (es.length : Int)) := by omega
      have c1 : (0 : Int) ≤ (k : Int) ∧ (k : Int) < (es.length : Int) := by omega
      have hlen := filter_len (es := es) (p := lowE) (k := k)
      have c2 : ∀ y : Ent, ((es.take k).filter lowE).length + ([y] : List Ent).length ≤ 1073741824 := fun y => by show _ + 1 ≤ _; omega
      obtain ⟨i1, i2⟩ := Lower_L0 m r c S I V b0 b1 b2 b3 b4 hl n (k + 1) (by omega) (by omega)
      rw [filter_snoc hk] at i1 i2
      simp only [bif_decide, h1, if_true, c1, c2, and_self, Int.toNat_natCast, Nat.zero_add, w_i64_eq, wsucc (show k < 4611686018427387904 by omega)]
      by_cases hp : (es.getD k zE).1 ≥ (es.getD k zE).2.1
      · have hp' : lowE (es.getD k zE) = true := decide_eq_true hp
        rw [if_pos hp'] at i1 i2
        rw [if_pos hp, if_pos hp]
        exact ⟨i1, i2⟩
      · have hp' : ¬ lowE (es.getD k zE) = true := fun h => hp (of_decide_eq_true h)
        rw [if_neg hp', List.append_nil] at i1 i2
        rw [if_neg hp, if_neg hp]
        exact ⟨i1, i2⟩
    · have h1 : ¬ ((k : Int) < (es.length : Int)) := by omega
      simp only [bif_decide, h1, if_false]
      rw [List.take_of_length_le (by omega)]
      exact ⟨rfl, rfl⟩
theorem MV.filter (h : MV R C S I V) (p : Ent → Bool) : EntsOK R C ((Go.Vs.F.ents S I V C 0).filter p) ∧ DistE ((Go.Vs.F.ents S I V C 0).filter p) ∧ ((Go.Vs.F.ents S I V C 0).filter p).length ≤ 10000 := by
  refine ⟨entsOK_mem fun e he => mem_entsOK h.ents e (List.mem_filter.1 he).1, dist_of_pair ((ents_pair h.ok C 0 (by omega)).filter _), Nat.le_trans (List.length_filter_le ..) h.len⟩
theorem Lower_both {m : Nat} (hm : 3000000 < m) (h : MV R C S I V) :
    g18 m (R : Int) (C : Int) S I V = some ((((R : Int), (C : Int), packS ((ents S I V C 0).filter lowE) R C, packI ((ents S I V C 0).filter lowE) R C, packV ((ents S I V C 0).filter lowE) R C, ()), 0, ()), (), ()) ∧
    g19 m (R : Int) (C : Int) S I V = some ((((R : Int), (C : Int), packS ((ents S I V C 0).filter lowE) R C, packI ((ents S I V C 0).filter lowE) R C, packV ((ents S I V C 0).filter lowE) R C, ()), 0, ()), (), ()) := by
  obtain ⟨hE, hD, hfl⟩ := h.filter lowE
  have hsz := h.ok.sz
  have hl := h.len
  have hv := h.vl
  have hs := h.sl
  obtain ⟨i1, i2⟩ := Lower_L0 m (R : Int) (C : Int) S I V 0 0 [] [] [] (es := ents S I V C 0) (by omega) m 0 (by omega) (by omega)
  simp only [List.take_zero, List.filter_nil, Int.natCast_zero] at i1 i2
  constructor
  · rw [g18, g28_eq (by omega) (by omega) (by omega) (by omega) (by omega), h.chk]
    simp only [Option.bind_some, bif_ne, if_true]
    rw [mEntries_eq (by omega) h.ok h.vl]
    simp only [Option.bind_some, i1]
    rw [build_eq hE hD h.ok.rz h.ok.cz (by omega) (by omega)]
    rfl
  · rw [g19, ref_Check_eq (by omega) (by omega) (by omega), h.chk]
    simp only [Option.bind_some, bif_ne, if_true]
    rw [Entries_eq (by omega) h.ok h.vl h.chk]
    simp only [Option.bind_some, i2]
    rw [Pack_eq hE h.ok.rz h.ok.cz (by omega) (by omega)]
    rfl
end
end Go.Vs.F

/-! MwTc -/
set_option linter.unusedVariables false
set_option linter.unusedSimpArgs false
namespace Go.Vs.F
def InR (l : List Int) (N : Nat) : Prop := ∀ k, k < l.length → 0 ≤ l.getD k 0 ∧ l.getD k 0 < (N : Int)
def Dst (l : List Int) : Prop := ∀ j k, j < l.length → k < l.length → l.getD j 0 = l.getD k 0 → j = k
/- The places of the indices of a list. -/
structure PlOK (l : List Int) (N : Nat) (out : List Int) : Prop where
  len : out.length = N
  at_ : ∀ k, k < l.length → out.getD (l.getD k 0).toNat 0 = (k : Int)
  no : ∀ i : Nat, i < N → (∀ k, k < l.length → l.getD k 0 ≠ (i : Int)) → out.getD i 0 = -1
theorem places_L1g (m : Nat) (l out : List Int) {N : Nat} (hN : N ≤ 1000) (hl : l.length ≤ 1000) : ∀ (n k : Nat), l.length - k < n →
    (g39_L1 m n l (N : Int) out l (l.length : Int) (k : Int) = some (.inr (.inl (l, out, ()))) ∧ ∀ j, k ≤ j → j < l.length → 0 ≤ l.getD j 0 ∧ l.getD j 0 < (N : Int)) ∨
    (g39_L1 m n l (N : Int) out l (l.length : Int) (k : Int) = some (.inl ([], 3, ())) ∧ ¬ InR l N)
  | 0, k, h => absurd h (Nat.not_lt_zero _)
  | n + 1, k, h => by
    rw [g39_L1]
    by_cases e : k < l.length
    · have h1 : ((k : Int) < (l.length : Int)) := by omega
      have c1 : (0 : Int) ≤ (k : Int) ∧ (k : Int) < (l.length : Int) := by omega
      have ih := places_L1g m l out hN hl n (k + 1) (by omega)
      have w1 : IntKind.wrap .i64 ((N : Int) - 1) = (N : Int) - 1 := wi (by omega) (by omega)
      simp only [bif_decide, h1, if_true, c1, and_self, Int.toNat_natCast, within_eq, Option.bind_some, w_i64_eq, w1, wsucc (show k < 4611686018427387904 by omega)]
      by_cases hr : 0 ≤ l.getD k 0 ∧ l.getD k 0 ≤ (N : Int) - 1
      · have : (decide (0 ≤ l.getD k 0) && decide (l.getD k 0 ≤ (N : Int) - 1)) = true := by simp only [hr, decide_true, Bool.and_self]
        rw [this]
        simp only [Bool.not_true, cond_false]
        rcases ih with ⟨i1, i2⟩ | ih
        · refine .inl ⟨i1, fun j a b => ?_⟩
          by_cases ej : j = k
          · subst ej; omega
          · exact i2 j (by omega) b
        · exact .inr ih
      · have : (decide (0 ≤ l.getD k 0) && decide (l.getD k 0 ≤ (N : Int) - 1)) = false := by
          rw [Bool.and_eq_false_iff, decide_eq_false_iff_not, decide_eq_false_iff_not]; omega
        rw [this]
        simp only [Bool.not_false, cond_true]
        exact .inr ⟨by trivial, fun hR => by have := hR k e; omega⟩
    · have h1 : ¬ ((k : Int) < (l.length : Int)) := by omega
      simp only [bif_decide, h1, if_false]
      exact .inl ⟨by trivial, fun j a b => by omega⟩
theorem places_L2g (m : Nat) (l : List Int) {N : Nat} (hN : N ≤ 1000) (hl : l.length ≤ 1000) (hR : InR l N) : ∀ (n k : Nat) (out : List Int), l.length - k < n → k ≤ l.length → out.length = N →
    (∀ t, t < k → out.getD (l.getD t 0).toNat 0 = (t : Int)) → (∀ i : Nat, i < N → (∀ t, t < k → l.getD t 0 ≠ (i : Int)) → out.getD i 0 = -1) →
    (∃ out', g39_L2 m n out l (l.length : Int) (k : Int) = some (.inr (.inl (out', ()))) ∧ PlOK l N out' ∧ Dst l) ∨ (g39_L2 m n out l (l.length : Int) (k : Int) = some (.inl ([], 90, ())) ∧ ¬ Dst l)
  | 0, k, out, h, _, _, _, _ => absurd h (Nat.not_lt_zero _)
  | n + 1, k, out, h, hk0, ho, h1, h2 => by
    rw [g39_L2]
    by_cases e : k < l.length
    · obtain ⟨r1, r2⟩ := hR k e
      have q1 : ((k : Int) < (l.length : Int)) := by omega
      have c1 : (0 : Int) ≤ (k : Int) ∧ (k : Int) < (l.length : Int) := by omega
      have c2 : (0 : Int) ≤ l.getD k 0 ∧ l.getD k 0 < (out.length : Int) := by omega
      simp only [bif_decide, q1, if_true, c1, c2, and_self, Int.toNat_natCast, Nat.zero_add, w_i64_eq, wsucc (show k < 4611686018427387904 by omega)]
      by_cases hd : ∃ t, t < k ∧ l.getD t 0 = l.getD k 0
      · obtain ⟨t, ht, et⟩ := hd
        have := h1 t ht
        rw [et] at this
        rw [if_pos (by omega)]
        exact .inr ⟨by trivial, fun hD => by have := hD t k (by omega) e et; omega⟩
      · have hn : ∀ t, t < k → l.getD t 0 ≠ ((l.getD k 0).toNat : Int) := fun t ht et => hd ⟨t, ht, by omega⟩
        have := h2 (l.getD k 0).toNat (by omega) hn
        rw [if_neg (by omega)]
        refine places_L2g m l hN hl hR n (k + 1) _ (by omega) (by omega) (by simp [ho]) (fun t ht => ?_) (fun i hi hni => ?_)
        · rw [getD_set' (by omega)]
          by_cases et : t = k
          · subst et; rw [if_pos rfl]
          · have := hn t (by omega)
            have rt := hR t (by omega)
            rw [if_neg (by omega)]; exact h1 t (by omega)
        · have := hni k (by omega)
          rw [getD_set' (by omega), if_neg (by omega)]
          exact h2 i hi fun t ht => hni t (by omega)
    · have q1 : ¬ ((k : Int) < (l.length : Int)) := by omega
      have hk : k = l.length := by omega
      simp only [bif_decide, q1, if_false]
      refine .inl ⟨out, rfl, ⟨ho, fun t ht => h1 t (by omega), fun i hi hn => h2 i hi fun t ht => hn t (by omega)⟩, fun a b ha hb eab => ?_⟩
      have g1 := h1 a (by omega)
      have g2 := h1 b (by omega)
      rw [eab, g2] at g1
      omega
theorem places_gen {m : Nat} (hm : 3000 < m) (l : List Int) {N : Nat} (hN : N ≤ 1000) (hl : l.length ≤ 1000) :
    (∃ out, g39 m l (N : Int) = some ((out, 0, ()), (), (), ()) ∧ PlOK l N out ∧ InR l N ∧ Dst l) ∨ (g39 m l (N : Int) = some (([], 3, ()), (), (), ()) ∧ ¬ InR l N) ∨
    (g39 m l (N : Int) = some (([], 90, ()), (), (), ()) ∧ InR l N ∧ ¬ Dst l) := by
  obtain ⟨o1, e1, e2, e3⟩ := places_L0 m l (N := N) (by omega) m 0 (List.replicate N 0) (by omega) (by omega) (by simp) (fun i hi => absurd hi (Nat.not_lt_zero _))
  rw [Int.natCast_zero] at e1
  rw [g39, if_pos (by omega)]
  simp only [Int.toNat_natCast, List.length_replicate, e1, Option.bind_some]
  rcases places_L1g m l o1 hN hl m 0 (by omega) with ⟨f1, f2⟩ | ⟨f1, f2⟩
  · rw [Int.natCast_zero] at f1
    have hR : InR l N := fun k hk => f2 k (Nat.zero_le _) hk
    rw [f1]
    simp only [Option.bind_some]
    rcases places_L2g m l hN hl hR m 0 o1 (by omega) (by omega) e2 (fun t ht => absurd ht (Nat.not_lt_zero _)) (fun i hi _ => e3 i hi) with ⟨out, g1, g2, g3⟩ | ⟨g1, g2⟩
    · rw [Int.natCast_zero] at g1
      rw [g1]; exact .inl ⟨out, rfl, g2, hR, g3⟩
    · rw [Int.natCast_zero] at g1
      rw [g1]; exact .inr (.inr ⟨rfl, hR, g2⟩)
  · rw [Int.natCast_zero] at f1
    rw [f1]; exact .inr (.inl ⟨rfl, f2⟩)
/-! ### The document's tests -/
theorem Range_L0g (m : Nat) (l : List Int) {N : Nat} (hl : l.length ≤ 1000) : ∀ (n k : Nat), l.length - k < n →
    (g46_L0 m n l (N : Int) (k : Int) = some (.inr (.inl ())) ∧ ∀ j, k ≤ j → j < l.length → 0 ≤ l.getD j 0 ∧ l.getD j 0 < (N : Int)) ∨
    (g46_L0 m n l (N : Int) (k : Int) = some (.inl (false, ())) ∧ ¬ InR l N)
  | 0, k, h => absurd h (Nat.not_lt_zero _)
  | n + 1, k, h => by
    rw [g46_L0]
    by_cases e : k < l.length
    · have h1 : ((k : Int) < (l.length : Int)) := by omega
      have c1 : (0 : Int) ≤ (k : Int) ∧ (k : Int) < (l.length : Int) := by omega
      have ih := Range_L0g m l (N := N) hl n (k + 1) (by omega)
      simp only [bif_decide, h1, if_true, c1, and_self, Int.toNat_natCast, w_i64_eq, wsucc (show k < 4611686018427387904 by omega)]
      by_cases a : l.getD k 0 < 0
      · rw [if_pos a]
        exact .inr ⟨rfl, fun hR => by have := hR k e; omega⟩
      · rw [if_neg a]
        by_cases b : l.getD k 0 ≥ (N : Int)
        · rw [if_pos b]
          exact .inr ⟨rfl, fun hR => by have := hR k e; omega⟩
        · rw [if_neg b]
          rcases ih with ⟨i1, i2⟩ | ih
          · refine .inl ⟨i1, fun j q1 q2 => ?_⟩
            by_cases ej : j = k
            · subst ej; omega
            · exact i2 j (by omega) q2
          · exact .inr ih
    · have h1 : ¬ ((k : Int) < (l.length : Int)) := by omega
      simp only [bif_decide, h1, if_false]
      exact .inl ⟨by trivial, fun j a b => by omega⟩
theorem Range_gen {m : Nat} (hm : 3000 < m) (l : List Int) {N : Nat} (hl : l.length ≤ 1000) :
    (g46 m l (N : Int) = some (true, (), (), ()) ∧ InR l N) ∨ (g46 m l (N : Int) = some (false, (), (), ()) ∧ ¬ InR l N) := by
  rw [g46]
  rcases Range_L0g m l (N := N) hl m 0 (by omega) with ⟨e, h⟩ | ⟨e, h⟩
  · rw [Int.natCast_zero] at e
    rw [e]; exact .inl ⟨rfl, fun k hk => h k (Nat.zero_le _) hk⟩
  · rw [Int.natCast_zero] at e
    rw [e]; exact .inr ⟨rfl, h⟩
theorem In_L0g (m : Nat) (l : List Int) (v : Int) (hl : l.length ≤ 1000) : ∀ (n k : Nat), l.length - k < n →
    (g80_L0 m n l v (k : Int) = some (.inr (.inl ())) ∧ ∀ j, k ≤ j → j < l.length → l.getD j 0 ≠ v) ∨ (g80_L0 m n l v (k : Int) = some (.inl (true, ())) ∧ ∃ j, j < l.length ∧ l.getD j 0 = v)
  | 0, k, h => absurd h (Nat.not_lt_zero _)
  | n + 1, k, h => by
    rw [g80_L0]
    by_cases e : k < l.length
    · have h1 : ((k : Int) < (l.length : Int)) := by omega
      have c1 : (0 : Int) ≤ (k : Int) ∧ (k : Int) < (l.length : Int) := by omega
      have ih := In_L0g m l v hl n (k + 1) (by omega)
      simp only [bif_decide, h1, if_true, c1, and_self, Int.toNat_natCast, w_i64_eq, wsucc (show k < 4611686018427387904 by omega), bif_eq]
      by_cases a : l.getD k 0 = v
      · rw [if_pos a]
        exact .inr ⟨rfl, k, e, a⟩
      · rw [if_neg a]
        rcases ih with ⟨i1, i2⟩ | ih
        · refine .inl ⟨i1, fun j q1 q2 => ?_⟩
          by_cases ej : j = k
          · subst ej; exact a
          · exact i2 j (by omega) q2
        · exact .inr ih
    · have h1 : ¬ ((k : Int) < (l.length : Int)) := by omega
      simp only [bif_decide, h1, if_false]
      exact .inl ⟨by trivial, fun j a b => by omega⟩
theorem In_gen {m : Nat} (hm : 3000 < m) (l : List Int) (v : Int) (hl : l.length ≤ 1000) :
    (g80 m l v = some (false, (), (), ()) ∧ ∀ j, j < l.length → l.getD j 0 ≠ v) ∨ (g80 m l v = some (true, (), (), ()) ∧ ∃ j, j < l.length ∧ l.getD j 0 = v) := by
  rw [g80]
  rcases In_L0g m l v hl m 0 (by omega) with ⟨e, h⟩ | ⟨e, h⟩
  · rw [Int.natCast_zero] at e
    rw [e]; exact .inl ⟨rfl, fun k hk => h k (Nat.zero_le _) hk⟩
  · rw [Int.natCast_zero] at e
    rw [e]; exact .inr ⟨rfl, h⟩
theorem getD_take {α : Type} {l : List α} {j k : Nat} {d : α} (h : j < k) : (l.take k).getD j d = l.getD j d := by
  simp [List.getD, List.getElem?_take, h]
theorem Twice_L0g (m : Nat) (hm : 3000 < m) (l : List Int) (hl : l.length ≤ 1000) : ∀ (n k : Nat), l.length - k < n → k ≤ l.length → (∀ i j, i < j → j < k → l.getD i 0 ≠ l.getD j 0) →
    (g47_L0 m n l (k : Int) = some (.inr (.inl ())) ∧ Dst l) ∨ (g47_L0 m n l (k : Int) = some (.inl (true, ())) ∧ ¬ Dst l)
  | 0, k, h, _, _ => absurd h (Nat.not_lt_zero _)
  | n + 1, k, h, hk0, hd => by
    rw [g47_L0]
    by_cases e : k < l.length
    · have h1 : ((k : Int) < (l.length : Int)) := by omega
      have c1 : (0 : Int) ≤ (k : Int) ∧ (k : Int) < (l.length : Int) := by omega
      have c2 : (0 : Int) ≤ 0 ∧ (0 : Int) ≤ (k : Int) ∧ (k : Int) ≤ (l.length : Int) := by omega
      have hlen : (l.take k).length = k := by rw [List.length_take]; omega
      simp only [bif_decide, h1, if_true, c1, c2, and_self, Int.toNat_natCast, w_i64_eq, wsucc (show k < 4611686018427387904 by omega)]
      rcases In_gen hm (l.take k) (l.getD k 0) (by omega) with ⟨ei, g⟩ | ⟨ei, j, hj, g⟩
      · rw [ei]
        simp only [Option.bind_some, cond_false]
        refine Twice_L0g m hm l hl n (k + 1) (by omega) (by omega) fun i j hij hjk => ?_
        by_cases ej : j = k
        · subst ej
          have := g i (by omega)
          rwa [getD_take (by omega)] at this
        · exact hd i j hij (by omega)
      · rw [ei]
        simp only [Option.bind_some, cond_true]
        rw [hlen] at hj
        rw [getD_take hj] at g
        exact .inr ⟨by trivial, fun hD => by have := hD j k (by omega) e g; omega⟩
    · have h1 : ¬ ((k : Int) < (l.length : Int)) := by omega
      simp only [bif_decide, h1, if_false]
      refine .inl ⟨by trivial, fun i j hi hj eij => ?_⟩
      rcases Nat.lt_trichotomy i j with q | q | q
      · exact absurd eij (hd i j q (by omega))
      · exact q
      · exact absurd eij.symm (hd j i q (by omega))
theorem Twice_gen {m : Nat} (hm : 3000 < m) (l : List Int) (hl : l.length ≤ 1000) :
    (g47 m l = some (false, (), ()) ∧ Dst l) ∨ (g47 m l = some (true, (), ()) ∧ ¬ Dst l) := by
  rw [g47]
  rcases Twice_L0g m hm l hl m 0 (by omega) (by omega) (fun i j _ h => absurd h (Nat.not_lt_zero _)) with ⟨e, h⟩ | ⟨e, h⟩
  · rw [Int.natCast_zero] at e
    rw [e]; exact .inl ⟨rfl, h⟩
  · rw [Int.natCast_zero] at e
    rw [e]; exact .inr ⟨rfl, h⟩
theorem Perm_L0g (m : Nat) {N : Nat} {l : List Int} (hl : l.length = N) (hN : N ≤ 1000) : ∀ (n k : Nat) (seen : List Bool), N - k < n → k ≤ N → seen.length = N →
    (∀ j, j < k → 0 ≤ l.getD j 0 ∧ l.getD j 0 < (N : Int)) → (∀ i j, i < j → j < k → l.getD i 0 ≠ l.getD j 0) → (∀ i : Nat, i < N → (seen.getD i false = true ↔ ∃ j, j < k ∧ l.getD j 0 = (i : Int))) →
    (g44_L0 m n l (N : Int) seen (k : Int) = some (.inr (.inl ())) ∧ InR l N ∧ Dst l) ∨ (g44_L0 m n l (N : Int) seen (k : Int) = some (.inl (false, ())) ∧ ¬ (InR l N ∧ Dst l))
  | 0, k, seen, h, _, _, _, _, _ => by omega
  | n + 1, k, seen, h, hk0, hs, h1, h2, h3 => by
    rw [g44_L0]
    by_cases hk : k < N
    · have l1 : ((k : Int) < (N : Int)) := by omega
      have c1 : (0 : Int) ≤ (k : Int) ∧ (k : Int) < (l.length : Int) := by omega
      simp only [bif_decide, l1, if_true, c1, and_self, Int.toNat_natCast, Nat.zero_add, w_i64_eq, wsucc (show k < 4611686018427387904 by omega)]
      by_cases a : l.getD k 0 < 0
      · rw [if_pos a]
        exact .inr ⟨rfl, fun hR => by have := hR.1 k (by omega); omega⟩
      · rw [if_neg a]
        by_cases b : l.getD k 0 ≥ (N : Int)
        · rw [if_pos b]
          exact .inr ⟨rfl, fun hR => by have := hR.1 k (by omega); omega⟩
        · rw [if_neg b]
          have c2 : (0 : Int) ≤ l.getD k 0 ∧ l.getD k 0 < (seen.length : Int) := by omega
          simp only [c2, and_self, if_true]
          rcases Bool.eq_false_or_eq_true (seen.getD (l.getD k 0).toNat false) with hd | hd
          · rw [hd]
            simp only [cond_true]
            obtain ⟨j, hj, e⟩ := (h3 _ (by omega)).1 hd
            exact .inr ⟨by trivial, fun hR => by have := hR.2 j k (by omega) (by omega) (by omega); omega⟩
          · rw [hd]
            simp only [cond_false]
            have hnew : ∀ j, j < k → l.getD j 0 ≠ l.getD k 0 := fun j hj e => by
              rw [(h3 _ (by omega)).2 ⟨j, hj, by omega⟩] at hd; cases hd
            refine Perm_L0g m hl hN n (k + 1) _ (by omega) (by omega) (by simp [hs]) (fun j hj => ?_) (fun i j hij hjk => ?_) (fun i hi => ?_)
            · by_cases ej : j = k
              · subst ej; omega
              · exact h1 j (by omega)
            · by_cases ej : j = k
              · subst ej; exact hnew i hij
              · exact h2 i j hij (by omega)
            · rw [getD_set' (by omega)]
              split
              · rename_i ei
                exact ⟨fun _ => ⟨k, by omega, by omega⟩, fun _ => rfl⟩
              · rename_i ei
                rw [h3 i hi]
                constructor
                · rintro ⟨j, hj, e⟩; exact ⟨j, by omega, e⟩
                · rintro ⟨j, hj, e⟩
                  refine ⟨j, ?_, e⟩
                  have : j ≠ k := by rintro rfl; omega
                  omega
    · have l1 : ¬ ((k : Int) < (N : Int)) := by omega
      simp only [bif_decide, l1, if_false]
      refine .inl ⟨by trivial, fun j hj => h1 j (by omega), fun i j hi hj eij => ?_⟩
      rcases Nat.lt_trichotomy i j with q | q | q
      · exact absurd eij (h2 i j q (by omega))
      · exact q
      · exact absurd eij.symm (h2 j i q (by omega))
theorem Perm_gen {m : Nat} (hm : 3000 < m) {N : Nat} {l : List Int} (hl : l.length = N) (hN : N ≤ 1000) :
    (g44 m l (N : Int) = some (true, (), (), ()) ∧ InR l N ∧ Dst l) ∨ (g44 m l (N : Int) = some (false, (), (), ()) ∧ ¬ (InR l N ∧ Dst l)) := by
  have c1 : (0 : Int) ≤ (N : Int) ∧ (N : Int) ≤ (N : Int) ∧ (N : Int) ≤ 1073741824 := by omega
  rw [g44]
  simp only [bif_ne, hl, if_true, c1, and_self, Int.toNat_natCast]
  rcases Perm_L0g m hl hN m 0 (List.replicate N false) (by omega) (by omega) (by simp) (fun j hj => absurd hj (Nat.not_lt_zero _)) (fun i j _ h => absurd h (Nat.not_lt_zero _)) (fun i hi => by
    rw [getD_replicate hi]
    constructor
    · intro h; cases h
    · rintro ⟨j, hj, _⟩; exact absurd hj (Nat.not_lt_zero _)) with ⟨e, h⟩ | ⟨e, h⟩
  · rw [Int.natCast_zero] at e
    rw [e]; exact .inl ⟨rfl, h⟩
  · rw [Int.natCast_zero] at e
    rw [e]; exact .inr ⟨rfl, h⟩
end Go.Vs.F

/-! MwTd -/
set_option linter.unusedVariables false
set_option linter.unusedSimpArgs false
set_option maxRecDepth 100000
namespace Go.Vs.F
section
variable {R C : Nat} {S I V : List Int}
/- The chosen entries, and where they go. -/
def selP (row col : List Int) (e : Ent) : Bool := decide (0 ≤ row.getD e.1.toNat 0) && decide (0 ≤ col.getD e.2.1.toNat 0)
theorem selected_L0g (m : Nat) (rows cols row col : List Int) (b0 b1 : Int) (b2 b3 b4 : List Int) {es : List Ent} (hl : es.length ≤ 100000) (hx : ∀ x ∈ es, (0 ≤ x.1 ∧ x.1 < (row.length : Int)) ∧ (0 ≤ x.2.1 ∧ x.2.1 < (col.length : Int))) :
    ∀ (n k : Nat), es.length - k < n → k ≤ es.length →
    g40_L0 m n rows cols row col b0 b1 b2 b3 b4 (((es.take k).filter (selP row col)).map (pmE row col)) es (es.length : Int) (k : Int) = some (.inl (rows, cols, (b0, b1, b2, b3, b4, ()), (es.filter (selP row col)).map (pmE row col), ()))
  | 0, k, h, _ => absurd h (Nat.not_lt_zero _)
  | n + 1, k, h, hk0 => by
    rw [g40_L0]
    by_cases hk : k < es.length
    · have h1 : ((k : Int) < (es.length : Int)) := by omega
      have c1 : (0 : Int) ≤ (k : Int) ∧ (k : Int) < (es.length : Int) := by omega
      obtain ⟨x1, x2⟩ := hx _ (getD_memE hk)
      have hlen := filter_len (es := es) (p := selP row col) (k := k)
      have c2 : ∀ y : Ent, (((es.take k).filter (selP row col)).map (pmE row col)).length + ([y] : List Ent).length ≤ 1073741824 := fun y => by rw [List.length_map]; show _ + 1 ≤ _; omega
      have ih := selected_L0g m rows cols row col b0 b1 b2 b3 b4 hl hx n (k + 1) (by omega) (by omega)
      rw [filter_snoc hk] at ih
      simp only [bif_decide, h1, if_true, c1, c2, and_self, Int.toNat_natCast, Nat.zero_add, w_i64_eq, wsucc (show k < 4611686018427387904 by omega), x1, x2]
      by_cases p1 : row.getD (es.getD k zE).1.toNat 0 ≥ 0
      · rw [if_pos p1]
        by_cases p2 : col.getD (es.getD k zE).2.1.toNat 0 ≥ 0
        · rw [if_pos p2]
          have hp : selP row col (es.getD k zE) = true := by unfold selP; rw [decide_eq_true p1, decide_eq_true p2]; rfl
          rw [if_pos hp, List.map_append] at ih
          exact ih
        · rw [if_neg p2]
          have hp : ¬ selP row col (es.getD k zE) = true := fun h => by
            unfold selP at h
            exact p2 (of_decide_eq_true (Bool.and_eq_true_iff.1 h).2)
          rw [if_neg hp, List.append_nil] at ih
          exact ih
      · rw [if_neg p1]
        have hp : ¬ selP row col (es.getD k zE) = true := fun h => by
          unfold selP at h
          exact p1 (of_decide_eq_true (Bool.and_eq_true_iff.1 h).1)
        rw [if_neg hp, List.append_nil] at ih
        exact ih
    · have h1 : ¬ ((k : Int) < (es.length : Int)) := by omega
      simp only [bif_decide, h1, if_false]
      rw [List.take_of_length_le (by omega)]
/- What is chosen: by rows and columns. -/
def Sel (es : List Ent) (rows cols : List Int) (x : Ent) : Prop := ∃ (i j : Nat) (v : Int), x = ((i : Int), ((j : Int), v)) ∧ i < rows.length ∧ j < cols.length ∧ ((rows.getD i 0, (cols.getD j 0, v)) : Ent) ∈ es
theorem PlOK.inv {l out : List Int} {N : Nat} (h : PlOK l N out) (hR : InR l N) {i : Int} (h0 : 0 ≤ i) (h1 : i < (N : Int)) : (0 ≤ out.getD i.toNat 0 ∧ ∃ k, k < l.length ∧ l.getD k 0 = i ∧ out.getD i.toNat 0 = (k : Int)) ∨ (¬ 0 ≤ out.getD i.toNat 0 ∧ ∀ k, k < l.length → l.getD k 0 ≠ i) := by
  by_cases hx : ∃ k, k < l.length ∧ l.getD k 0 = i
  · obtain ⟨k, hk, e⟩ := hx
    have := h.at_ k hk
    rw [e] at this
    exact .inl ⟨by omega, k, hk, e, this⟩
  · have hn : ∀ k, k < l.length → l.getD k 0 ≠ i := fun k hk e => hx ⟨k, hk, e⟩
    have := h.no i.toNat (by omega) (fun k hk e => hn k hk (by omega))
    exact .inr ⟨by omega, hn⟩
theorem sel_mem (h : MV R C S I V) {rows cols row col : List Int} (pr : PlOK rows R row) (pc : PlOK cols C col) (rr : InR rows R) (rc : InR cols C) (x : Ent) :
    x ∈ ((ents S I V C 0).filter (selP row col)).map (pmE row col) ↔ Sel (ents S I V C 0) rows cols x := by
  rw [List.mem_map]
  constructor
  · rintro ⟨e, he, rfl⟩
    obtain ⟨he, hp⟩ := List.mem_filter.1 he
    obtain ⟨e1, e2, _⟩ := mem_entsOK h.ents e he
    unfold selP at hp
    obtain ⟨p1, p2⟩ := Bool.and_eq_true_iff.1 hp
    have p1 := of_decide_eq_true p1
    have p2 := of_decide_eq_true p2
    rcases pr.inv rr e1.1 e1.2 with ⟨_, i, hi, i1, i2⟩ | ⟨q, _⟩
    · rcases pc.inv rc e2.1 e2.2 with ⟨_, j, hj, j1, j2⟩ | ⟨q, _⟩
      · refine ⟨i, j, e.2.2, by rw [pmE, i2, j2], hi, hj, ?_⟩
        rw [i1, j1]; exact he
      · exact absurd p2 q
    · exact absurd p1 q
  · rintro ⟨i, j, v, rfl, hi, hj, hm⟩
    refine ⟨_, List.mem_filter.2 ⟨hm, ?_⟩, ?_⟩
    · unfold selP
      simp only
      rw [pr.at_ i hi, pc.at_ j hj]
      simp
    · simp only [pmE]
      rw [pr.at_ i hi, pc.at_ j hj]
theorem sel_ok (h : MV R C S I V) {rows cols row col : List Int} (pr : PlOK rows R row) (pc : PlOK cols C col) (rr : InR rows R) (rc : InR cols C) :
    EntsOK rows.length cols.length (((ents S I V C 0).filter (selP row col)).map (pmE row col)) ∧ DistE (((ents S I V C 0).filter (selP row col)).map (pmE row col)) ∧ (((ents S I V C 0).filter (selP row col)).map (pmE row col)).length ≤ 10000 := by
  obtain ⟨f1, f2, f3⟩ := h.filter (selP row col)
  refine ⟨entsOK_mem fun e he => ?_, dist_map f2 fun a ha b hb h1 h2 => ?_, by rw [List.length_map]; exact f3⟩
  · obtain ⟨i, j, v, rfl, hi, hj, hm⟩ := (sel_mem h pr pc rr rc e).1 he
    exact ⟨⟨by simp only; omega, by simp only; omega⟩, ⟨by simp only; omega, by simp only; omega⟩, (mem_entsOK h.ents _ hm).2.2⟩
  · obtain ⟨ha, pa⟩ := List.mem_filter.1 ha
    obtain ⟨hb, pb⟩ := List.mem_filter.1 hb
    unfold selP at pa pb
    obtain ⟨a1, a2⟩ := Bool.and_eq_true_iff.1 pa
    obtain ⟨b1, b2⟩ := Bool.and_eq_true_iff.1 pb
    have a1 := of_decide_eq_true a1
    have a2 := of_decide_eq_true a2
    have b1 := of_decide_eq_true b1
    have b2 := of_decide_eq_true b2
    obtain ⟨ea1, ea2, _⟩ := mem_entsOK h.ents a ha
    obtain ⟨eb1, eb2, _⟩ := mem_entsOK h.ents b hb
    simp only [pmE] at h1 h2
    constructor
    · rcases pr.inv rr ea1.1 ea1.2 with ⟨_, i, hi, i1, i2⟩ | ⟨q, _⟩
      · rcases pr.inv rr eb1.1 eb1.2 with ⟨_, i', hi', i1', i2'⟩ | ⟨q, _⟩
        · have : i = i' := by omega
          subst this
          rw [← i1, ← i1']
        · exact absurd b1 q
      · exact absurd a1 q
    · rcases pc.inv rc ea2.1 ea2.2 with ⟨_, i, hi, i1, i2⟩ | ⟨q, _⟩
      · rcases pc.inv rc eb2.1 eb2.2 with ⟨_, i', hi', i1', i2'⟩ | ⟨q, _⟩
        · have : i = i' := by omega
          subst this
          rw [← i1, ← i1']
        · exact absurd b2 q
      · exact absurd a2 q
/-! ### The document's choice -/
theorem Stored_L0g (m : Nat) (h : MV R C S I V) {j : Nat} (hj : j < C) (i a b : Int) : ∀ (n k : Nat), (S.getD (j + 1) 0).toNat - k < n →
    (∃ t, k ≤ t ∧ t < (S.getD (j + 1) 0).toNat ∧ I.getD t 0 = i ∧ g78_L0 m n i (j : Int) a b S I V (k : Int) = some (.inl (true, ())) ∧ g79_L0 m n i (j : Int) a b S I V (k : Int) = some (.inl (V.getD t 0, ()))) ∨
    ((∀ t, k ≤ t → t < (S.getD (j + 1) 0).toNat → I.getD t 0 ≠ i) ∧ g78_L0 m n i (j : Int) a b S I V (k : Int) = some (.inr (.inl ())))
  | 0, k, h => by omega
  | n + 1, k, hn => by
    have hl := h.ok.st.len
    have hc := h.ok.cz
    have hv := h.vl
    have hil := h.ok.sz
    have b' := h.ok.st.rng (j := j + 1) (by omega)
    rw [g78_L0, g79_L0]
    have c1 : (0 : Int) ≤ ((j + 1 : Nat) : Int) ∧ ((j + 1 : Nat) : Int) < (S.length : Int) := by omega
    by_cases hk : k < (S.getD (j + 1) 0).toNat
    · have h1 : ((k : Int) < S.getD (j + 1) 0) := by omega
      have c2 : (0 : Int) ≤ (k : Int) ∧ (k : Int) < (I.length : Int) := by omega
      have c3 : (0 : Int) ≤ (k : Int) ∧ (k : Int) < (V.length : Int) := by omega
      simp only [w_i64_eq, wsucc (show j < 4611686018427387904 by omega), c1, and_self, if_true, Int.toNat_natCast, bif_decide, h1, c2, c3, bif_eq, wsucc (show k < 4611686018427387904 by omega)]
      by_cases hi : I.getD k 0 = i
      · rw [if_pos hi, if_pos hi]
        exact .inl ⟨k, Nat.le_refl _, hk, hi, rfl, rfl⟩
      · rw [if_neg hi, if_neg hi]
        rcases Stored_L0g m h hj i a b n (k + 1) (by omega) with ⟨t, h1, h2, h3, h4⟩ | ⟨h1, h2⟩
        · exact .inl ⟨t, by omega, h2, h3, h4⟩
        · refine .inr ⟨fun t q1 q2 => ?_, h2⟩
          by_cases e : t = k
          · subst e; exact hi
          · exact h1 t (by omega) q2
    · have h1 : ¬ ((k : Int) < S.getD (j + 1) 0) := by omega
      simp only [w_i64_eq, wsucc (show j < 4611686018427387904 by omega), c1, and_self, if_true, Int.toNat_natCast, bif_decide, h1, if_false]
      exact .inr ⟨fun t q1 q2 => by omega, by trivial⟩
theorem mem_ents2 {x : Ent} : ∀ {d k : Nat}, x ∈ ents S I V d k ↔ ∃ j t, k ≤ j ∧ j < k + d ∧ (S.getD j 0).toNat ≤ t ∧ t < (S.getD (j + 1) 0).toNat ∧ x = (I.getD t 0, (j : Int), V.getD t 0)
  | 0, k => by
    constructor
    · intro h; simp [ents] at h
    · rintro ⟨j, t, h1, h2, _⟩; omega
  | d + 1, k => by
    rw [ents, List.mem_append, mem_ents2 (d := d) (k := k + 1)]
    constructor
    · rintro (h | ⟨j, t, h1, h2, h3⟩)
      · unfold entCol at h
        obtain ⟨t, ht, rfl⟩ := List.mem_map.1 h
        rw [List.mem_range'_1] at ht
        exact ⟨k, t, Nat.le_refl _, by omega, ht.1, by omega, rfl⟩
      · exact ⟨j, t, by omega, by omega, h3⟩
    · rintro ⟨j, t, h1, h2, h3, h4, h5⟩
      by_cases e : j = k
      · subst e
        left; unfold entCol
        exact List.mem_map.2 ⟨t, List.mem_range'_1.2 ⟨h3, by omega⟩, h5.symm⟩
      · right; exact ⟨j, t, by omega, by omega, h3, h4, h5⟩
theorem StAt {m : Nat} (hm : 3000000 < m) (h : MV R C S I V) {i j : Int} (hi : 0 ≤ i ∧ i < (R : Int)) (hj : 0 ≤ j ∧ j < (C : Int)) :
    (∃ v, ((i, (j, v)) : Ent) ∈ ents S I V C 0 ∧ g78 m (R : Int) (C : Int) S I V i j = some (true, (), (), (), ()) ∧ g79 m (R : Int) (C : Int) S I V i j = some (v, (), (), (), ())) ∨
    ((∀ v, ((i, (j, v)) : Ent) ∉ ents S I V C 0) ∧ g78 m (R : Int) (C : Int) S I V i j = some (false, (), (), (), ())) := by
  obtain ⟨j, rfl⟩ : ∃ j' : Nat, j = (j' : Int) := ⟨j.toNat, by omega⟩
  have hjC : j < C := by omega
  have hl := h.ok.st.len
  have hsz := h.ok.sz
  have hcz := h.ok.cz
  have hvl := h.vl
  have a := h.ok.st.rng (j := j) (by omega)
  have b := h.ok.st.rng (j := j + 1) (by omega)
  have h1 : ¬ i < 0 := by omega
  have h2 : ¬ i ≥ (R : Int) := by omega
  have h3 : ¬ (j : Int) < 0 := by omega
  have h4 : ¬ (j : Int) ≥ (C : Int) := by omega
  have c1 : (0 : Int) ≤ (j : Int) ∧ (j : Int) < (S.length : Int) := by omega
  have hx := Stored_L0g m h hjC i (R : Int) (C : Int) m (S.getD j 0).toNat (by omega)
  rw [show (((S.getD j 0).toNat : Nat) : Int) = S.getD j 0 by omega] at hx
  rw [g78, g79, ref_Check_eq (by omega) (by omega) (by omega), h.chk]
  simp only [Option.bind_some, bif_ne, if_true, bif_decide, h1, h2, h3, h4, if_false, c1, and_self, Int.toNat_natCast]
  rcases hx with ⟨t, q1, q2, q3, e1, e2⟩ | ⟨q, e1⟩
  · rw [e1, e2]
    exact .inl ⟨V.getD t 0, mem_ents2.2 ⟨j, t, Nat.zero_le _, by omega, q1, q2, by rw [q3]⟩, rfl, rfl⟩
  · rw [e1]
    refine .inr ⟨fun v hv => ?_, rfl⟩
    obtain ⟨j', t, _, _, r1, r2, r3⟩ := mem_ents2.1 hv
    simp only [Prod.mk.injEq] at r3
    obtain ⟨r3, r4, _⟩ := r3
    have : j' = j := by omega
    subst this
    exact q t r1 r2 r3.symm
/- The list that grows, row by row. -/
structure PK (es : List Ent) (rows cols : List Int) (l : List Ent) (i j : Nat) : Prop where
  mem : ∀ x, x ∈ l ↔ Sel es rows cols x ∧ (x.1 < (i : Int) ∨ (x.1 = (i : Int) ∧ x.2.1 < (j : Int)))
  pw : l.Pairwise fun a b => a.1 < b.1 ∨ (a.1 = b.1 ∧ a.2.1 < b.2.1)
  len : l.length ≤ i * 1000 + j
theorem pick_L1g (m : Nat) (hm : 3000000 < m) (h : MV R C S I V) {rows cols : List Int} (rr : InR rows R) (rc : InR cols C) (hr : rows.length ≤ 1000) (hc : cols.length ≤ 1000) (b0 b1 : Int) (b2 b3 b4 : List Int) {i : Nat} (hi : i < rows.length) :
    ∀ (n j : Nat) (l : List Ent), cols.length - j < n → j ≤ cols.length → PK (ents S I V C 0) rows cols l i j →
    ∃ l', g45_L1 m n rows cols (R : Int) (C : Int) S I V b0 b1 b2 b3 b4 l (i : Int) (j : Int) = some (.inl (rows, cols, ((R : Int), (C : Int), S, I, V, ()), (b0, b1, b2, b3, b4, ()), l', (i : Int), ())) ∧ PK (ents S I V C 0) rows cols l' i cols.length
  | 0, j, l, h, _, _ => absurd h (Nat.not_lt_zero _)
  | n + 1, j, l, hn, hj0, P => by
    rw [g45_L1]
    by_cases hj : j < cols.length
    · have h1 : ((j : Int) < (cols.length : Int)) := by omega
      have c1 : (0 : Int) ≤ (i : Int) ∧ (i : Int) < (rows.length : Int) := by omega
      have c2 : (0 : Int) ≤ (j : Int) ∧ (j : Int) < (cols.length : Int) := by omega
      have hlen := P.len
      have hi1000 : i * 1000 ≤ 1000 * 1000 := Nat.mul_le_mul_right _ (by omega)
      have c3 : ∀ y : Ent, l.length + ([y] : List Ent).length ≤ 1073741824 := fun y => by show l.length + 1 ≤ _; omega
      simp only [bif_decide, h1, if_true, c1, c2, and_self, Int.toNat_natCast, w_i64_eq, wsucc (show j < 4611686018427387904 by omega)]
      rcases StAt hm h (rr i hi) (rc j hj) with ⟨v, hv, e1, e2⟩ | ⟨hno, e1⟩
      · rw [e1]
        simp only [Option.bind_some, cond_true, e2, c3, if_true]
        refine pick_L1g m hm h rr rc hr hc b0 b1 b2 b3 b4 hi n (j + 1) _ (by omega) (by omega) ⟨fun x => ?_, ?_, by rw [List.length_append, List.length_singleton]; omega⟩
        · rw [List.mem_append, List.mem_singleton, P.mem]
          constructor
          · rintro (⟨g1, g2⟩ | rfl)
            · exact ⟨g1, by omega⟩
            · exact ⟨⟨i, j, v, rfl, hi, hj, hv⟩, .inr ⟨rfl, by simp only; omega⟩⟩
          · rintro ⟨g1, g2⟩
            by_cases e : x.1 = (i : Int) ∧ x.2.1 = (j : Int)
            · right
              obtain ⟨i', j', v', rfl, _, _, hm'⟩ := g1
              simp only at e
              have ei : i' = i := by omega
              have ej : j' = j := by omega
              subst ei; subst ej
              rw [h.dist.val hm' hv]
            · left; exact ⟨g1, by omega⟩
        · rw [List.pairwise_append]
          refine ⟨P.pw, List.pairwise_singleton .., fun a ha b hb => ?_⟩
          rw [List.mem_singleton] at hb
          subst hb
          have := ((P.mem a).1 ha).2
          exact this
      · rw [e1]
        simp only [Option.bind_some, cond_false]
        refine pick_L1g m hm h rr rc hr hc b0 b1 b2 b3 b4 hi n (j + 1) _ (by omega) (by omega) ⟨fun x => ?_, P.pw, by omega⟩
        rw [P.mem]
        constructor
        · rintro ⟨g1, g2⟩; exact ⟨g1, by omega⟩
        · rintro ⟨g1, g2⟩
          refine ⟨g1, ?_⟩
          by_cases e : x.1 = (i : Int) ∧ x.2.1 = (j : Int)
          · exfalso
            obtain ⟨i', j', v', rfl, _, _, hm'⟩ := g1
            simp only at e
            have ei : i' = i := by omega
            have ej : j' = j := by omega
            subst ei; subst ej
            exact hno _ hm'
          · omega
    · have h1 : ¬ ((j : Int) < (cols.length : Int)) := by omega
      simp only [bif_decide, h1, if_false]
      have : j = cols.length := by omega
      subst this
      exact ⟨l, rfl, P⟩
theorem pick_L0g (m : Nat) (hm : 3000000 < m) (h : MV R C S I V) {rows cols : List Int} (rr : InR rows R) (rc : InR cols C) (hr : rows.length ≤ 1000) (hc : cols.length ≤ 1000) (b0 b1 : Int) (b2 b3 b4 : List Int) :
    ∀ (n i : Nat) (l : List Ent), rows.length - i < n → i ≤ rows.length → PK (ents S I V C 0) rows cols l i 0 →
    ∃ l', g45_L0 m n rows cols (R : Int) (C : Int) S I V b0 b1 b2 b3 b4 l (i : Int) = some (.inl (rows, cols, (b0, b1, b2, b3, b4, ()), l', ())) ∧ PK (ents S I V C 0) rows cols l' rows.length 0
  | 0, i, l, h, _, _ => absurd h (Nat.not_lt_zero _)
  | n + 1, i, l, hn, hi0, P => by
    rw [g45_L0]
    by_cases hi : i < rows.length
    · have h1 : ((i : Int) < (rows.length : Int)) := by omega
      obtain ⟨l1, e, P1⟩ := pick_L1g m hm h rr rc hr hc b0 b1 b2 b3 b4 hi m 0 l (by omega) (by omega) P
      rw [Int.natCast_zero] at e
      simp only [bif_decide, h1, if_true, e, Option.bind_some, w_i64_eq, wsucc (show i < 4611686018427387904 by omega)]
      refine pick_L0g m hm h rr rc hr hc b0 b1 b2 b3 b4 n (i + 1) l1 (by omega) (by omega) ⟨fun x => ?_, P1.pw, by have := P1.len; omega⟩
      rw [P1.mem]
      constructor
      · rintro ⟨g1, g2⟩; exact ⟨g1, by omega⟩
      · rintro ⟨g1, g2⟩
        refine ⟨g1, ?_⟩
        obtain ⟨i', j', v', rfl, _, hj', _⟩ := g1
        simp only at g2 ⊢
        omega
    · have h1 : ¬ ((i : Int) < (rows.length : Int)) := by omega
      simp only [bif_decide, h1, if_false]
      have : i = rows.length := by omega
      subst this
      exact ⟨l, rfl, P⟩
theorem pk0 {es : List Ent} {rows cols : List Int} : PK es rows cols [] 0 0 := by
  refine ⟨fun x => ⟨fun h => (by cases h), fun ⟨g1, g2⟩ => ?_⟩, List.Pairwise.nil, by simp⟩
  obtain ⟨i, j, v, rfl, _⟩ := g1
  simp only at g2
  omega
/- Both choices are packed alike. -/
theorem choose_both {m : Nat} (hm : 3000000 < m) (h : MV R C S I V) {rows cols row col : List Int} (pr : PlOK rows R row) (pc : PlOK cols C col) (rr : InR rows R) (rc : InR cols C) (hr : rows.length ≤ 200) (hc : cols.length ≤ 200) :
    ∃ es, (packS es rows.length cols.length).length ≤ 1000 ∧ (packI es rows.length cols.length).length ≤ 100000 ∧ (packV es rows.length cols.length).length ≤ 100000 ∧
    g40 m (R : Int) (C : Int) S I V rows cols row col = some (((rows.length : Int), (cols.length : Int), packS es rows.length cols.length, packI es rows.length cols.length, packV es rows.length cols.length, ()), (), (), (), (), (), ()) ∧
    g45 m (R : Int) (C : Int) S I V rows cols = some (((rows.length : Int), (cols.length : Int), packS es rows.length cols.length, packI es rows.length cols.length, packV es rows.length cols.length, ()), (), (), (), ()) := by
  obtain ⟨s1, s2, s3⟩ := sel_ok h pr pc rr rc
  have hl := h.len
  have hx : ∀ x ∈ ents S I V C 0, (0 ≤ x.1 ∧ x.1 < (row.length : Int)) ∧ (0 ≤ x.2.1 ∧ x.2.1 < (col.length : Int)) := fun x hx => by
    obtain ⟨a, b, _⟩ := mem_entsOK h.ents x hx
    have := pr.len
    have := pc.len
    omega
  have e1 := selected_L0g m rows cols row col 0 0 [] [] [] (by omega) hx m 0 (by omega) (by omega)
  simp only [List.take_zero, List.filter_nil, List.map_nil, Int.natCast_zero] at e1
  obtain ⟨l', e2, P⟩ := pick_L0g m hm h rr rc (by omega) (by omega) 0 0 [] [] [] m 0 [] (by omega) (by omega) pk0
  rw [Int.natCast_zero] at e2
  have hmem : ∀ x, x ∈ ((ents S I V C 0).filter (selP row col)).map (pmE row col) ↔ x ∈ l' := fun x => by
    rw [sel_mem h pr pc rr rc, P.mem]
    constructor
    · intro g
      refine ⟨g, ?_⟩
      obtain ⟨i, j, v, rfl, hi, _⟩ := g
      simp only; omega
    · exact fun g => g.1
  have hD' : DistE l' := by
    intro k k' hk hk' q1 q2
    have hp := P.pw
    rw [List.pairwise_iff_getElem] at hp
    have hg : ∀ i (hi : i < l'.length), l'.getD i zE = l'[i] := fun i hi => by simp [List.getD, hi]
    rw [hg k hk, hg k' hk'] at q1 q2
    rcases Nat.lt_trichotomy k k' with q | q | q
    · have := hp k k' hk hk' q; omega
    · exact q
    · have := hp k' k hk' hk q; omega
  have hE' : EntsOK rows.length cols.length l' := entsOK_mem fun e he => mem_entsOK s1 e ((hmem e).2 he)
  have hlen' : l'.length ≤ 1000000 := by
    have := P.len
    have : rows.length * 1000 ≤ 200 * 1000 := Nat.mul_le_mul_right _ hr
    omega
  have eS := packS_congr (r := rows.length) hD' (fun x => (hmem x).symm) s2 cols.length
  have eI := packI_congr (r := rows.length) hD' (fun x => (hmem x).symm) s2 cols.length
  have eV := packV_congr (r := rows.length) hD' (fun x => (hmem x).symm) s2 cols.length
  have lI := packI_len (((ents S I V C 0).filter (selP row col)).map (pmE row col)) rows.length cols.length
  have lm : cols.length * rows.length ≤ 200 * 200 := Nat.mul_le_mul hc hr
  refine ⟨((ents S I V C 0).filter (selP row col)).map (pmE row col), by simp [packS]; omega, by omega, by rw [packV_len]; omega, ?_, ?_⟩
  · rw [g40, mEntries_eq (by omega) h.ok h.vl]
    simp only [Option.bind_some, e1]
    rw [build_eq s1 s2 hr hc (by omega) (by omega)]
    rfl
  · rw [g45, e2]
    simp only [Option.bind_some]
    rw [Pack_eq hE' hr hc hlen' (by omega), eS, eI, eV]
    rfl
end
end Go.Vs.F

/-! MwTe -/
set_option linter.unusedVariables false
set_option linter.unusedSimpArgs false
set_option maxRecDepth 100000
namespace Go.Vs.F
section
variable {R C : Nat} {S I V : List Int}
theorem Permute_both {m : Nat} (hm : 3000000 < m) (h : MV R C S I V) {rows cols : List Int} (hr : rows.length ≤ 200) (hc : cols.length ≤ 200) :
    ∃ a b S' I' V' e, S'.length ≤ 100000 ∧ I'.length ≤ 100000 ∧ V'.length ≤ 100000 ∧ g13 m (R : Int) (C : Int) S I V rows cols = some (((a, b, S', I', V', ()), e, ()), (), (), (), ()) ∧
      g20 m (R : Int) (C : Int) S I V rows cols = some (((a, b, S', I', V', ()), e, ()), (), (), (), ()) := by
  have hsz := h.ok.sz
  have hrz := h.ok.rz
  have hcz := h.ok.cz
  have hv := h.vl
  have hs := h.sl
  rw [g13, g20, g28_eq (by omega) (by omega) (by omega) (by omega) (by omega), ref_Check_eq (by omega) (by omega) (by omega), h.chk]
  simp only [Option.bind_some, bif_ne, if_true]
  by_cases l1 : (rows.length : Int) = (R : Int)
  · by_cases l2 : (cols.length : Int) = (C : Int)
    · simp only [l1, l2, if_true]
      have p1 := places_gen (m := m) (by omega) rows (N := R) (by omega) (by omega)
      have p2 := places_gen (m := m) (by omega) cols (N := C) (by omega) (by omega)
      have q1 := Perm_gen (m := m) (l := rows) (N := R) (by omega) (by omega) (by omega)
      have q2 := Perm_gen (m := m) (l := cols) (N := C) (by omega) (by omega) (by omega)
      have fin3 : ∀ {A B : Option (((Int × Int × List Int × List Int × List Int × Unit) × Int × Unit) × Unit × Unit × Unit × Unit)} (e : Int), A = some (((0, 0, [], [], [], ()), e, ()), (), (), (), ()) → B = some (((0, 0, [], [], [], ()), e, ()), (), (), (), ()) →
          ∃ a b S' I' V' e, S'.length ≤ 100000 ∧ I'.length ≤ 100000 ∧ V'.length ≤ 100000 ∧ A = some (((a, b, S', I', V', ()), e, ()), (), (), (), ()) ∧ B = some (((a, b, S', I', V', ()), e, ()), (), (), (), ()) :=
        fun e h1 h2 => ⟨0, 0, [], [], [], e, by simp, by simp, by simp, h1, h2⟩
      rcases q1 with ⟨f1, rr, dr⟩ | ⟨f1, n1⟩
      · rcases q2 with ⟨f2, rc, dc⟩ | ⟨f2, n2⟩
        · rcases p1 with ⟨row, g1, pr, _, _⟩ | ⟨_, n⟩ | ⟨_, _, n⟩
          · rcases p2 with ⟨col, g2, pc, _, _⟩ | ⟨_, n⟩ | ⟨_, _, n⟩
            · obtain ⟨es, a1, a2, a3, a4, a5⟩ := choose_both hm h pr pc rr rc hr hc
              refine ⟨(rows.length : Int), (cols.length : Int), packS es rows.length cols.length, packI es rows.length cols.length, packV es rows.length cols.length, 0, by omega, a2, a3, ?_, ?_⟩
              · rw [g1, g2]
                simp only [Option.bind_some, if_true, a4]
              · rw [f1, f2]
                simp only [Option.bind_some, Bool.not_true, cond_false, a5]
            · exact absurd rc n
            · exact absurd dc n
          · exact absurd rr n
          · exact absurd dr n
        · refine fin3 90 ?_ (by rw [f1, f2]; rfl)
          rcases p1 with ⟨row, g1, pr, _, _⟩ | ⟨_, n⟩ | ⟨_, _, n⟩
          · rcases p2 with ⟨col, g2, pc, rc, dc⟩ | ⟨g2, n⟩ | ⟨g2, _, n⟩
            · exact absurd ⟨rc, dc⟩ n2
            · rw [g1, g2]; rfl
            · rw [g1, g2]; rfl
          · exact absurd rr n
          · exact absurd dr n
      · refine fin3 90 ?_ (by rw [f1]; rfl)
        rcases p1 with ⟨row, g1, pr, rr, dr⟩ | ⟨g1, n⟩ | ⟨g1, _, n⟩
        · exact absurd ⟨rr, dr⟩ n1
        · rcases p2 with ⟨col, g2, _⟩ | ⟨g2, _⟩ | ⟨g2, _⟩
          · rw [g1, g2]; rfl
          · rw [g1, g2]; rfl
          · rw [g1, g2]; rfl
        · rcases p2 with ⟨col, g2, _⟩ | ⟨g2, _⟩ | ⟨g2, _⟩
          · rw [g1, g2]; rfl
          · rw [g1, g2]; rfl
          · rw [g1, g2]; rfl
    · simp only [l1, l2, if_true, if_false]
      exact ⟨0, 0, [], [], [], 2, by simp, by simp, by simp, rfl, rfl⟩
  · simp only [l1, if_false]
    exact ⟨0, 0, [], [], [], 2, by simp, by simp, by simp, rfl, rfl⟩
theorem Select_both {m : Nat} (hm : 3000000 < m) (h : MV R C S I V) {rows cols : List Int} (hr : rows.length ≤ 200) (hc : cols.length ≤ 200) :
    ∃ a b S' I' V' e, S'.length ≤ 100000 ∧ I'.length ≤ 100000 ∧ V'.length ≤ 100000 ∧ g21 m (R : Int) (C : Int) S I V rows cols = some (((a, b, S', I', V', ()), e, ()), (), (), (), ()) ∧
      g22 m (R : Int) (C : Int) S I V rows cols = some (((a, b, S', I', V', ()), e, ()), (), (), (), ()) := by
  have hsz := h.ok.sz
  have hrz := h.ok.rz
  have hcz := h.ok.cz
  have hv := h.vl
  have hs := h.sl
  rw [g21, g22, g28_eq (by omega) (by omega) (by omega) (by omega) (by omega), ref_Check_eq (by omega) (by omega) (by omega), h.chk]
  simp only [Option.bind_some, bif_ne, bif_eq, if_true]
  have p1 := places_gen (m := m) (by omega) rows (N := R) (by omega) (by omega)
  have p2 := places_gen (m := m) (by omega) cols (N := C) (by omega) (by omega)
  have r1 := Range_gen (m := m) (by omega) rows (N := R) (by omega)
  have r2 := Range_gen (m := m) (by omega) cols (N := C) (by omega)
  have t1 := Twice_gen (m := m) (by omega) rows (by omega)
  have t2 := Twice_gen (m := m) (by omega) cols (by omega)
  have fin3 : ∀ {A B : Option (((Int × Int × List Int × List Int × List Int × Unit) × Int × Unit) × Unit × Unit × Unit × Unit)} (e : Int), A = some (((0, 0, [], [], [], ()), e, ()), (), (), (), ()) → B = some (((0, 0, [], [], [], ()), e, ()), (), (), (), ()) →
      ∃ a b S' I' V' e, S'.length ≤ 100000 ∧ I'.length ≤ 100000 ∧ V'.length ≤ 100000 ∧ A = some (((a, b, S', I', V', ()), e, ()), (), (), (), ()) ∧ B = some (((a, b, S', I', V', ()), e, ()), (), (), (), ()) :=
    fun e h1 h2 => ⟨0, 0, [], [], [], e, by simp, by simp, by simp, h1, h2⟩
  rcases r1 with ⟨e1, rr⟩ | ⟨e1, nr⟩
  · rcases r2 with ⟨e2, rc⟩ | ⟨e2, nc⟩
    · rcases t1 with ⟨e3, dr⟩ | ⟨e3, ndr⟩
      · rcases t2 with ⟨e4, dc⟩ | ⟨e4, ndc⟩
        · rcases p1 with ⟨row, g1, pr, _, _⟩ | ⟨_, n⟩ | ⟨_, _, n⟩
          · rcases p2 with ⟨col, g2, pc, _, _⟩ | ⟨_, n⟩ | ⟨_, _, n⟩
            · obtain ⟨es, a1, a2, a3, a4, a5⟩ := choose_both hm h pr pc rr rc hr hc
              refine ⟨(rows.length : Int), (cols.length : Int), packS es rows.length cols.length, packI es rows.length cols.length, packV es rows.length cols.length, 0, by omega, a2, a3, ?_, ?_⟩
              · rw [g1, g2]
                simp only [Option.bind_some, if_true, a4]
                rfl
              · rw [e1, e2, e3, e4]
                simp only [Option.bind_some, Bool.not_true, cond_false, a5]
            · exact absurd rc n
            · exact absurd dc n
          · exact absurd rr n
          · exact absurd dr n
        · refine fin3 90 ?_ (by rw [e1, e2, e3, e4]; rfl)
          rcases p1 with ⟨row, g1, pr, _, _⟩ | ⟨_, n⟩ | ⟨_, _, n⟩
          · rcases p2 with ⟨col, g2, pc, _, n⟩ | ⟨_, n⟩ | ⟨g2, _, n⟩
            · exact absurd n ndc
            · exact absurd rc n
            · rw [g1, g2]; rfl
          · exact absurd rr n
          · exact absurd dr n
      · refine fin3 90 ?_ (by rw [e1, e2, e3]; rfl)
        rcases p1 with ⟨row, g1, pr, _, n⟩ | ⟨_, n⟩ | ⟨g1, _, n⟩
        · exact absurd n ndr
        · exact absurd rr n
        · rcases p2 with ⟨col, g2, pc, _, n⟩ | ⟨_, n⟩ | ⟨g2, _, n⟩
          · rw [g1, g2]; rfl
          · exact absurd rc n
          · rw [g1, g2]; rfl
    · refine fin3 3 ?_ (by rw [e1, e2]; rfl)
      rcases p2 with ⟨col, _, _, n, _⟩ | ⟨g2, n⟩ | ⟨_, n, _⟩
      · exact absurd n nc
      · rcases p1 with ⟨row, g1, _⟩ | ⟨g1, _⟩ | ⟨g1, _⟩
        · rw [g1, g2]; rfl
        · rw [g1, g2]; rfl
        · rw [g1, g2]; rfl
      · exact absurd n nc
  · refine fin3 3 ?_ (by rw [e1]; rfl)
    rcases p1 with ⟨row, _, _, n, _⟩ | ⟨g1, n⟩ | ⟨_, n, _⟩
    · exact absurd n nr
    · rcases p2 with ⟨row, g2, _⟩ | ⟨g2, _⟩ | ⟨g2, _⟩
      · rw [g1, g2]; rfl
      · rw [g1, g2]; rfl
      · rw [g1, g2]; rfl
    · exact absurd n nr
end
theorem small_eq (m : Nat) (R C : Int) (S I V : List Int) : ∃ s, sparselaw09_small m R C S I V = some (s, (), ()) ∧ (s = true → I.length ≤ 60 ∧ V.length ≤ 60 ∧ S.length ≤ 20) := by
  rw [sparselaw09_small]
  simp only [bif_decide]
  by_cases h1 : (I.length : Int) ≤ 60
  · rw [if_pos h1]
    by_cases h2 : (V.length : Int) ≤ 60
    · rw [if_pos h2]
      by_cases h3 : (S.length : Int) ≤ 20
      · rw [if_pos h3]
        have hl : I.length ≤ 60 ∧ V.length ≤ 60 ∧ S.length ≤ 20 := by omega
        split
        · split <;> exact ⟨_, rfl, fun _ => hl⟩
        · split
          · split <;> exact ⟨_, rfl, fun _ => hl⟩
          · exact ⟨_, rfl, fun h => by cases h⟩
      · rw [if_neg h3]; exact ⟨_, rfl, fun h => by cases h⟩
    · rw [if_neg h2]; exact ⟨_, rfl, fun h => by cases h⟩
  · rw [if_neg h1]; exact ⟨_, rfl, fun h => by cases h⟩
theorem MatrixMoves_law (R C : Int) (S I V rows cols : List Int) : ∃ m, sparselaw09_MatrixMoves m R C S I V rows cols = some (true, (), (), (), ()) := by
  refine ⟨4000000, ?_⟩
  generalize hm0 : (4000000 : Nat) = m
  have hm : 3000000 < m := by omega
  have hm2 : m < 4611686018427387904 := by omega
  clear hm0
  obtain ⟨s, es, hs⟩ := small_eq m R C S I V
  rw [sparselaw09_MatrixMoves, es]
  simp only [Option.bind_some]
  cases s with
  | false =>
    simp only [Bool.not_false, cond_true]
    rw [awakeN (by omega)]; rfl
  | true =>
    obtain ⟨l1, l2, l3⟩ := hs rfl
    simp only [Bool.not_true, cond_false, bif_decide]
    by_cases hr : (rows.length : Int) > 20
    · rw [if_pos hr, awakeN (by omega)]; rfl
    rw [if_neg hr]
    by_cases hc : (cols.length : Int) > 20
    · rw [if_pos hc, awakeN (by omega)]; rfl
    rw [if_neg hc]
    by_cases hk : chk R C S I V = 0
    · obtain ⟨r, c, rfl, rfl, hM, hvl, hfin⟩ := chk_ok hk
      have h : MV r c S I V := ⟨hM, hvl, hk⟩
      have eT := (Transpose_eq (m := m) (by omega) hM hvl (by omega) hk).2
      have eT2 := refTranspose_eq hm h
      obtain ⟨eL, eL2⟩ := Lower_both hm h
      obtain ⟨p1, p2, p3, p4, p5, p6, q1, q2, q3, eP, eP2⟩ := Permute_both hm h (rows := rows) (cols := cols) (by omega) (by omega)
      obtain ⟨u1, u2, u3, u4, u5, u6, v1, v2, v3, eS, eS2⟩ := Select_both hm h (rows := rows) (cols := cols) (by omega) (by omega)
      have hrz := hM.rz
      have hcz := hM.cz
      have ha : c * r ≤ 200 * 200 := Nat.mul_le_mul hcz hrz
      have ha' : r * c ≤ 200 * 200 := Nat.mul_le_mul hrz hcz
      have b1 := packI_len ((ents S I V c 0).map swE) c r
      have b2 := packV_len ((ents S I V c 0).map swE) c r
      have b3 := packI_len ((ents S I V c 0).filter lowE) r c
      have b4 := packV_len ((ents S I V c 0).filter lowE) r c
      have b5 : (packS ((ents S I V c 0).map swE) c r).length = r + 1 := by simp [packS]
      have b6 : (packS ((ents S I V c 0).filter lowE) r c).length = c + 1 := by simp [packS]
      rw [eT, Option.bind_some, eT2, Option.bind_some, eL, Option.bind_some, eL2, Option.bind_some, eP, Option.bind_some, eP2, Option.bind_some, eS, Option.bind_some, eS2, Option.bind_some]
      dsimp only
      rw [alike_self (by omega) (by omega) (by omega) hm2]
      simp only [Option.bind_some, cond_true]
      rw [alike_self (by omega) (by omega) (by omega) hm2]
      simp only [Option.bind_some, cond_true]
      rw [alike_self (by omega) (by omega) (by omega) hm2]
      simp only [Option.bind_some, cond_true]
      rw [alike_self (by omega) (by omega) (by omega) hm2]
      simp only [Option.bind_some, cond_true]
      rw [awakeN (by omega)]; rfl
    · have e1 := g28_eq (m := m) (R := R) (C := C) (S := S) (I := I) (V := V) (by omega) (by omega) (by omega) (by omega) (by omega)
      have e2 := ref_Check_eq (m := m) (R := R) (C := C) (S := S) (I := I) (V := V) (by omega) (by omega) (by omega)
      have f0 : g11 m R C S I V = some (((0, 0, [], [], [], ()), chk R C S I V, ()), (), ()) := by
        rw [g11, e1, Option.bind_some, bif_ne, if_neg hk]
      have f1 : g17 m R C S I V = some (((0, 0, [], [], [], ()), chk R C S I V, ()), (), ()) := by
        rw [g17, e2, Option.bind_some, bif_ne, if_neg hk]
      have f2 : g18 m R C S I V = some (((0, 0, [], [], [], ()), chk R C S I V, ()), (), ()) := by
        rw [g18, e1, Option.bind_some, bif_ne, if_neg hk]
      have f3 : g19 m R C S I V = some (((0, 0, [], [], [], ()), chk R C S I V, ()), (), ()) := by
        rw [g19, e2, Option.bind_some, bif_ne, if_neg hk]
      have f4 : g13 m R C S I V rows cols = some (((0, 0, [], [], [], ()), chk R C S I V, ()), (), (), (), ()) := by
        rw [g13, e1, Option.bind_some, bif_ne, if_neg hk]
      have f5 : g20 m R C S I V rows cols = some (((0, 0, [], [], [], ()), chk R C S I V, ()), (), (), (), ()) := by
        rw [g20, e2, Option.bind_some, bif_ne, if_neg hk]
      have f6 : g21 m R C S I V rows cols = some (((0, 0, [], [], [], ()), chk R C S I V, ()), (), (), (), ()) := by
        rw [g21, e1, Option.bind_some, bif_ne, if_neg hk]
      have f7 : g22 m R C S I V rows cols = some (((0, 0, [], [], [], ()), chk R C S I V, ()), (), (), (), ()) := by
        rw [g22, e2, Option.bind_some, bif_ne, if_neg hk]
      rw [f0, Option.bind_some, f1, Option.bind_some, f2, Option.bind_some, f3, Option.bind_some, f4, Option.bind_some, f5, Option.bind_some, f6, Option.bind_some, f7, Option.bind_some]
      dsimp only
      have eA := alike_self (m := m) (a := 0) (b := 0) (e := chk R C S I V) (S := []) (I := []) (V := []) (by simp; omega) (by simp; omega) (by simp; omega) hm2
      rw [eA, Option.bind_some]
      dsimp only [cond_true, Option.bind_some]
      rw [awakeN (by omega)]; rfl
end Go.Vs.F
