/- Matrices and their entries: what is packed depends on the set of entries alone; packing the entries of a matrix gives it back. Moves of a matrix: transposing, the lower triangle, permuting and selecting; the program's and the document's. Lists of indices: places, ranges, doubles, permutations. The law MatrixMoves. The law MatrixMoves, joined. -/
import Derived.Test.YtajikfmcbmhclaaGreatDoorLa

/-! MwTa -/
set_option linter.unusedVariables false
set_option linter.unusedSimpArgs false
namespace Go.Vs.F
section
variable {es es' : List Ent} {r c : Nat}
theorem DistE.val (hD : DistE es) {i j v v' : Int} (h : ((i, (j, v)) : Ent) ∈ es) (h' : ((i, (j, v')) : Ent) ∈ es) : v = v' := by
  obtain ⟨k, hk, e⟩ := mem_getD h
  obtain ⟨k', hk', e'⟩ := mem_getD h'
  have := hD k k' hk hk' (by rw [e, e']) (by rw [e, e'])
  subst this
  rw [e] at e'
  cases e'; rfl
theorem lastIx_mem {i j : Nat} (h : 0 < lastIx es i j es.length) : (((i : Int), ((j : Int), (es.getD (lastIx es i j es.length - 1) zE).2.2)) : Ent) ∈ es := by
  obtain ⟨g1, g2, g3⟩ := lastIx_at h
  rw [show ((i : Int), ((j : Int), (es.getD (lastIx es i j es.length - 1) zE).2.2)) = es.getD (lastIx es i j es.length - 1) zE by rw [← g2, ← g3]]
  simp [List.getD, g1]
theorem lastIx_iff {i j : Nat} : 0 < lastIx es i j es.length ↔ ∃ v, (((i : Int), ((j : Int), v)) : Ent) ∈ es := by
  constructor
  · intro h; exact ⟨_, lastIx_mem h⟩
  · rintro ⟨v, h⟩
    obtain ⟨k, hk, e⟩ := mem_getD h
    exact lastIx_pos' hk (by rw [e]) (by rw [e])
theorem canE_congr (hD : DistE es) (hp : ∀ x, x ∈ es ↔ x ∈ es') (hD' : DistE es') (j : Nat) : canE es r j = canE es' r j := by
  have hx : ∀ i : Nat, 0 < lastIx es i j es.length ↔ 0 < lastIx es' i j es'.length := fun i => by
    rw [lastIx_iff, lastIx_iff]
    exact ⟨fun ⟨v, h⟩ => ⟨v, (hp _).1 h⟩, fun ⟨v, h⟩ => ⟨v, (hp _).2 h⟩⟩
  have hc : colR es j 0 r = colR es' j 0 r := List.filter_congr fun i _ => by rw [decide_eq_decide]; exact hx i
  unfold canE
  rw [← hc]
  refine List.map_congr_left fun i hi => ?_
  have h1 := of_decide_eq_true (List.mem_filter.1 hi).2
  have h2 := (hx i).1 h1
  rw [hD.val (lastIx_mem h1) ((hp _).2 (lastIx_mem h2))]
theorem can_congr (hD : DistE es) (hp : ∀ x, x ∈ es ↔ x ∈ es') (hD' : DistE es') : ∀ j, can es r j = can es' r j
  | 0 => rfl
  | j + 1 => by rw [can, can, can_congr hD hp hD' j, canE_congr hD hp hD' j]
/- What is packed depends on the set of the entries. -/
theorem packI_congr (hD : DistE es) (hp : ∀ x, x ∈ es ↔ x ∈ es') (hD' : DistE es') (j : Nat) : packI es r j = packI es' r j := by rw [← can_I, ← can_I, can_congr hD hp hD']
theorem packV_congr (hD : DistE es) (hp : ∀ x, x ∈ es ↔ x ∈ es') (hD' : DistE es') (j : Nat) : packV es r j = packV es' r j := by rw [← can_V, ← can_V, can_congr hD hp hD']
theorem packS_congr (hD : DistE es) (hp : ∀ x, x ∈ es ↔ x ∈ es') (hD' : DistE es') (j : Nat) : packS es r j = packS es' r j := by
  unfold packS
  exact List.map_congr_left fun t _ => by rw [packI_congr hD hp hD']
/-! ### The entries of what is packed -/
theorem getD_app_mid {α : Type} {A B D : List α} {k : Nat} {d : α} (hk : k < B.length) : (A ++ B ++ D).getD (A.length + k) d = B.getD k d := by
  have : ¬ A.length + k < A.length := by omega
  simp [List.getD, List.getElem?_append, hk, this]
theorem packI_split {j : Nat} (hj : j < c) : ∃ zs, packI es r c = packI es r j ++ colI es j 0 r ++ zs := by
  obtain ⟨zs, e⟩ := packI_pre (es := es) (r := r) (t := j + 1) (c - (j + 1))
  rw [show j + 1 + (c - (j + 1)) = c by omega] at e
  exact ⟨zs, by rw [e, packI]⟩
theorem packV_pre {t : Nat} : ∀ d, ∃ zs, packV es r (t + d) = packV es r t ++ zs
  | 0 => ⟨[], by simp⟩
  | d + 1 => by
    obtain ⟨zs, h⟩ := packV_pre (t := t) d
    exact ⟨zs ++ colV es (t + d) 0 r, by rw [← Nat.add_assoc, packV, h, List.append_assoc]⟩
theorem packV_split {j : Nat} (hj : j < c) : ∃ zs, packV es r c = packV es r j ++ colV es j 0 r ++ zs := by
  obtain ⟨zs, e⟩ := packV_pre (es := es) (r := r) (t := j + 1) (c - (j + 1))
  rw [show j + 1 + (c - (j + 1)) = c by omega] at e
  exact ⟨zs, by rw [e, packV]⟩
theorem entCol_pack {j : Nat} (hj : j < c) : entCol (packS es r c) (packI es r c) (packV es r c) j ((packS es r c).getD j 0).toNat ((packS es r c).getD (j + 1) 0).toNat = canE es r j := by
  rw [packS_get (by omega), packS_get (by omega), Int.toNat_natCast, Int.toNat_natCast]
  have hl : (packI es r (j + 1)).length - (packI es r j).length = (colR es j 0 r).length := by
    rw [packI, List.length_append]; simp [colI]
  unfold entCol canE
  rw [hl]
  obtain ⟨zs, e⟩ := packI_split (es := es) (r := r) hj
  obtain ⟨ws, e'⟩ := packV_split (es := es) (r := r) hj
  refine List.ext_getElem (by simp) fun k h1 h2 => ?_
  simp only [List.length_map, List.length_range'] at h1
  have hk : k < (colR es j 0 r).length := h1
  simp only [List.getElem_map, List.getElem_range', Nat.one_mul]
  have eI : (packI es r c).getD ((packI es r j).length + k) 0 = ((colR es j 0 r)[k] : Int) := by
    rw [e, getD_app_mid (by simp [colI]; exact hk)]
    simp [colI, List.getD, hk]
  have eV : (packV es r c).getD ((packI es r j).length + k) 0 = (es.getD (lastIx es ((colR es j 0 r)[k]) j es.length - 1) zE).2.2 := by
    rw [e', ← packV_len es r j, getD_app_mid (by simp [colV]; exact hk)]
    simp [colV, List.getD, hk]
  rw [eI, eV]
theorem ents_pack : ∀ (d k : Nat), k + d = c → can es r k ++ ents (packS es r c) (packI es r c) (packV es r c) d k = can es r c
  | 0, k, h => by
    have : k = c := by omega
    subst this; simp [ents]
  | d + 1, k, h => by
    have ih := ents_pack d (k + 1) (by omega)
    rw [ents, entCol_pack (by omega), ← List.append_assoc]
    exact ih
theorem ents_packed : ents (packS es r c) (packI es r c) (packV es r c) c 0 = can es r c := by
  have := ents_pack (es := es) (r := r) (c := c) c 0 (by omega)
  simpa [can] using this
end
/-! ### Packing the entries of a matrix -/
section
variable {R C : Nat} {S I V : List Int}
theorem range'_app (a n k : Nat) : List.range' a n ++ List.range' (a + n) k = List.range' a (n + k) := by
  rw [← List.range'_append]; simp
theorem ents_I (hM : MatOK R C S I) : ∀ (d k : Nat), k + d = C → (ents S I V d k).map (·.1) = (List.range' (S.getD k 0).toNat (I.length - (S.getD k 0).toNat)).map fun t => I.getD t 0
  | 0, k, h => by
    have hk : k = C := by omega
    subst hk
    have := hM.st.last
    rw [this]; simp [ents]
  | d + 1, k, h => by
    have a := hM.st.rng (j := k) (by omega)
    have b := hM.st.rng (j := k + 1) (by omega)
    have m := hM.st.mono k (by omega)
    rw [ents, List.map_append, ents_I hM d (k + 1) (by omega), entCol, List.map_map]
    have e : List.range' (S.getD k 0).toNat (I.length - (S.getD k 0).toNat) = List.range' (S.getD k 0).toNat ((S.getD (k + 1) 0).toNat - (S.getD k 0).toNat) ++ List.range' (S.getD (k + 1) 0).toNat (I.length - (S.getD (k + 1) 0).toNat) := by
      rw [show (S.getD (k + 1) 0).toNat = (S.getD k 0).toNat + ((S.getD (k + 1) 0).toNat - (S.getD k 0).toNat) by omega]
      rw [Nat.add_sub_cancel_left, range'_app]
      congr 1; omega
    rw [e, List.map_append]; rfl
theorem ents_Vm (hM : MatOK R C S I) : ∀ (d k : Nat), k + d = C → (ents S I V d k).map (·.2.2) = (List.range' (S.getD k 0).toNat (I.length - (S.getD k 0).toNat)).map fun t => V.getD t 0
  | 0, k, h => by
    have hk : k = C := by omega
    subst hk
    have := hM.st.last
    rw [this]; simp [ents]
  | d + 1, k, h => by
    have a := hM.st.rng (j := k) (by omega)
    have b := hM.st.rng (j := k + 1) (by omega)
    have m := hM.st.mono k (by omega)
    rw [ents, List.map_append, ents_Vm hM d (k + 1) (by omega), entCol, List.map_map]
    have e : List.range' (S.getD k 0).toNat (I.length - (S.getD k 0).toNat) = List.range' (S.getD k 0).toNat ((S.getD (k + 1) 0).toNat - (S.getD k 0).toNat) ++ List.range' (S.getD (k + 1) 0).toNat (I.length - (S.getD (k + 1) 0).toNat) := by
      rw [show (S.getD (k + 1) 0).toNat = (S.getD k 0).toNat + ((S.getD (k + 1) 0).toNat - (S.getD k 0).toNat) by omega]
      rw [Nat.add_sub_cancel_left, range'_app]
      congr 1; omega
    rw [e, List.map_append]; rfl
theorem map_getD_range {l : List Int} : (List.range' 0 l.length).map (fun t => l.getD t 0) = l := by
  refine List.ext_getElem (by simp) fun k h1 h2 => ?_
  simp [List.getD, h2]
theorem cLt_ents (hM : MatOK R C S I) {t : Nat} (ht : t ≤ C) : ∀ (d k : Nat), k + d = C → cLt (ents S I V d k) t = (S.getD t 0).toNat - (S.getD k 0).toNat
  | 0, k, h => by
    have hk : k = C := by omega
    subst hk
    have := hM.st.le (i := t) (j := k) ht (Nat.le_refl _)
    show ([] : List Ent).countP _ = _
    rw [List.countP_nil]; omega
  | d + 1, k, h => by
    have a := hM.st.rng (j := k) (by omega)
    have b := hM.st.rng (j := k + 1) (by omega)
    have m := hM.st.mono k (by omega)
    have ih := cLt_ents hM ht d (k + 1) (by omega)
    have tr := hM.st.rng (j := t) ht
    unfold cLt at ih ⊢
    rw [ents, List.countP_append, ih]
    by_cases hk : k < t
    · have le := hM.st.le (i := k + 1) (j := t) (by omega) ht
      rw [List.countP_eq_length.2 fun x hx => by
        unfold entCol at hx
        obtain ⟨s, _, rfl⟩ := List.mem_map.1 hx
        simp; omega, entCol_len]
      omega
    · have le := hM.st.le (i := t) (j := k) (by omega) (by omega)
      have le2 := hM.st.le (i := t) (j := k + 1) (by omega) (by omega)
      rw [List.countP_eq_zero.2 fun x hx => by
        unfold entCol at hx
        obtain ⟨s, _, rfl⟩ := List.mem_map.1 hx
        simp; omega]
      omega
theorem pack_ents (hM : MatOK R C S I) (hV : V.length = I.length) (hE : EntsOK R C (ents S I V C 0)) : packS (ents S I V C 0) R C = S ∧ packI (ents S I V C 0) R C = I ∧ packV (ents S I V C 0) R C = V := by
  have hD : DistE (ents S I V C 0) := dist_of_pair (ents_pair hM C 0 (by omega))
  have hs : Srt (ents S I V C 0) := (ents_pair hM C 0 (by omega)).imp fun h => leE_of_lt h
  have hc := sorted_can hE hD hs (List.Perm.refl _)
  have s0 := hM.st.s0
  have eI := ents_I (V := V) hM C 0 (by omega)
  have eV := ents_Vm (V := V) hM C 0 (by omega)
  rw [s0] at eI eV
  simp only [Int.toNat_zero, Nat.sub_zero] at eI eV
  rw [map_getD_range] at eI
  rw [← hV, map_getD_range] at eV
  have hI : packI (ents S I V C 0) R C = I := by rw [← can_I, ← hc, eI]
  refine ⟨?_, hI, by rw [← can_V, ← hc, eV]⟩
  have hl := hM.st.len
  refine List.ext_getElem (by simp [packS, hl]) fun t h1 h2 => ?_
  have htC : t ≤ C := by omega
  have e := can_cLt (es := ents S I V C 0) (r := R) htC
  rw [← hc, cLt_ents hM htC C 0 (by omega), s0] at e
  have hr := hM.st.rng (j := t) htC
  have e2 : S.getD t 0 = S[t] := by simp [List.getD, h2]
  simp only [packS, List.getElem_map, List.getElem_range, ← e]
  simp only [Int.toNat_zero, Nat.sub_zero]
  omega
end
end Go.Vs.F

/-! MwTb -/
set_option linter.unusedVariables false
set_option linter.unusedSimpArgs false
set_option maxRecDepth 100000
namespace Go.Vs.F
theorem awake9' (k : Nat) : sparselaw09_awake (k + 100) = some (true, ()) := by kernel_rfl
theorem awakeN {m : Nat} (h : 100 ≤ m) : sparselaw09_awake m = some (true, ()) := by
  obtain ⟨k, rfl⟩ : ∃ k, m = k + 100 := ⟨m - 100, by omega⟩
  exact awake9' k
theorem getD_memE {es : List Ent} {k : Nat} (h : k < es.length) : es.getD k zE ∈ es := by simp [List.getD, h]
theorem entsOK_mem {r c : Nat} {es : List Ent} (h : ∀ e ∈ es, (0 ≤ e.1 ∧ e.1 < (r : Int)) ∧ (0 ≤ e.2.1 ∧ e.2.1 < (c : Int)) ∧ finB e.2.2 = true) : EntsOK r c es := fun k hk => h _ (getD_memE hk)
theorem mem_entsOK {r c : Nat} {es : List Ent} (h : EntsOK r c es) : ∀ e ∈ es, (0 ≤ e.1 ∧ e.1 < (r : Int)) ∧ (0 ≤ e.2.1 ∧ e.2.1 < (c : Int)) ∧ finB e.2.2 = true := fun e he => by
  obtain ⟨k, hk, rfl⟩ := mem_getD he
  exact h k hk
/-! ### Comparing -/
theorem Floats_L0 (m : Nat) (a : List Int) (hb : a.length < 4611686018427387904) : ∀ (n k : Nat), a.length - k < n → g41_L0 m n a a (k : Int) = some (.inr (.inl ()))
  | 0, k, h => by omega
  | n + 1, k, h => by
    rw [g41_L0]
    by_cases hk : k < a.length
    · have h1 : ((k : Int) < (a.length : Int)) := by omega
      have c1 : (0 : Int) ≤ (k : Int) ∧ (k : Int) < (a.length : Int) := by omega
      simp only [bif_decide, h1, if_true, c1, and_self, bif_ne, w_i64_eq, wsucc (show k < 4611686018427387904 by omega)]
      exact Floats_L0 m a hb n (k + 1) (by omega)
    · have h1 : ¬ ((k : Int) < (a.length : Int)) := by omega
      simp only [bif_decide, h1, if_false]
theorem Floats_self {m : Nat} {a : List Int} (h : a.length < m) (hb : a.length < 4611686018427387904) : g41 m a a = some (true, (), (), ()) := by
  have e := Floats_L0 m a hb m 0 (by omega)
  rw [Int.natCast_zero] at e
  rw [g41, bif_ne, if_pos rfl, e]; rfl
theorem Ints_same {m : Nat} {a : List Int} (h : a.length < m) (hb : a.length < 4611686018427387904) : g27 m a a = some (true, (), (), ()) := by rw [Ints_eq h hb]; simp
theorem Matrix_self {m : Nat} {a b : Int} {S I V : List Int} (h1 : S.length < m) (h2 : I.length < m) (h3 : V.length < m) (h4 : m < 4611686018427387904) : g15 m a b S I V a b S I V = some (true, (), (), ()) := by
  rw [g15, bif_eq, if_pos rfl, bif_eq, if_pos rfl, Ints_same h1 (by omega)]
  simp only [Option.bind_some, cond_true]
  rw [Ints_same h2 (by omega)]
  simp only [Option.bind_some, cond_true]
  rw [Floats_self h3 (by omega)]; rfl
/-! ### Transposing, as the document does -/
theorem refTranspose_L0 (m : Nat) (r c : Int) (S I V : List Int) (b0 b1 : Int) (b2 b3 b4 : List Int) : ∀ (L2 L1 : List Ent) (n : Nat), L2.length < n → L1.length + L2.length < 1000000000 →
    g17_L0 m n r c S I V b0 b1 b2 b3 b4 (L1.map swE ++ L2) (L1.length : Int) = some (.inl ((r, c, S, I, V, ()), (b0, b1, b2, b3, b4, ()), (L1 ++ L2).map swE, ()))
  | L2, L1, 0, h, _ => absurd h (Nat.not_lt_zero _)
  | [], L1, n + 1, _, hb => by
    rw [g17_L0, bif_decide, if_neg (by simp)]
    simp
  | x :: L2, L1, n + 1, h, hb => by
    simp only [List.length_cons] at h hb
    have hlen : (L1.map swE ++ x :: L2).length = L1.length + 1 + L2.length := by simp; omega
    have gx : (L1.map swE ++ x :: L2).getD (0 + (L1.length : Int).toNat) zE = x := getD_at (by simp)
    have hs : ∀ y : Ent, (L1.map swE ++ x :: L2).set (0 + (L1.length : Int).toNat) y = L1.map swE ++ y :: L2 := fun y => set_at (by simp)
    have hs2 : ∀ y z : Ent, (L1.map swE ++ y :: L2).set (0 + (L1.length : Int).toNat) z = L1.map swE ++ z :: L2 := fun y z => set_at (by simp)
    have gy : ∀ y : Ent, (L1.map swE ++ y :: L2).getD (0 + (L1.length : Int).toNat) zE = y := fun y => getD_at (by simp)
    rw [g17_L0, bif_decide, if_pos (by omega)]
    simp only [gx, hs, gy, hs2]
    rw [if_pos (by omega), if_pos (by omega), if_pos (by omega), if_pos (by simp; omega)]
    have ih := refTranspose_L0 m r c S I V b0 b1 b2 b3 b4 L2 (L1 ++ [x]) n (by omega) (by simp; omega)
    rw [show w_i64 ((L1.length : Int) + 1) = ((L1 ++ [x]).length : Int) by rw [w_i64_eq, wi (by omega) (by omega)]; simp,
      show L1.map swE ++ (x.2.1, (x.1, x.2.2)) :: L2 = (L1 ++ [x]).map swE ++ L2 by simp [swE], ih]
    simp
/-! ### A valid matrix -/
structure MV (R C : Nat) (S I V : List Int) : Prop where
  ok : MatOK R C S I
  vl : V.length = I.length
  chk : chk (R : Int) (C : Int) S I V = 0
section
variable {R C : Nat} {S I V : List Int}
theorem MV.ents (h : MV R C S I V) : EntsOK R C (ents S I V C 0) := by
  obtain ⟨_, _, _, _, _, _, hfin⟩ := chk_ok h.chk
  exact ents_ok h.ok h.vl hfin
theorem MV.dist (h : MV R C S I V) : DistE (Go.Vs.F.ents S I V C 0) := dist_of_pair (ents_pair h.ok C 0 (by omega))
theorem MV.len (h : MV R C S I V) : (Go.Vs.F.ents S I V C 0).length ≤ 10000 := by
  rw [ents_len h.ok C 0 (by omega) (by omega)]
  have := h.ok.st.rng (j := C) (Nat.le_refl _)
  have := h.ok.sz
  omega
theorem MV.sl (h : MV R C S I V) : S.length ≤ 201 := by
  have := h.ok.st.len
  have := h.ok.cz
  omega
theorem refTranspose_eq {m : Nat} (hm : 3000000 < m) (h : MV R C S I V) :
    g17 m (R : Int) (C : Int) S I V = some ((((C : Int), (R : Int), packS ((ents S I V C 0).map swE) C R, packI ((ents S I V C 0).map swE) C R, packV ((ents S I V C 0).map swE) C R, ()), 0, ()), (), ()) := by
  have hE := (Transpose_eq (m := 3000001) (by omega) h.ok h.vl (by have := h.sl; omega) h.chk).1
  have hsz := h.ok.sz
  have hl := h.len
  have hv := h.vl
  have e := refTranspose_L0 m (R : Int) (C : Int) S I V 0 0 [] [] [] (ents S I V C 0) [] m (by omega) (by simp; omega)
  simp only [List.map_nil, List.nil_append, List.length_nil, Int.natCast_zero] at e
  rw [g17, ref_Check_eq (by omega) (by omega) (by omega), h.chk]
  simp only [Option.bind_some, bif_ne, if_true]
  rw [Entries_eq (by omega) h.ok h.vl h.chk]
  simp only [Option.bind_some, e]
  rw [Pack_eq hE h.ok.cz h.ok.rz (by simp; omega) (by omega)]
  rfl
/-! ### The lower triangle -/
def lowE (e : Ent) : Bool := decide (e.1 ≥ e.2.1)
theorem take_succ_getD {es : List Ent} {k : Nat} (hk : k < es.length) : es.take (k + 1) = es.take k ++ [es.getD k zE] := by
  rw [List.take_add_one]
  congr 1
  rw [List.getElem?_eq_getElem hk, List.getD, List.getElem?_eq_getElem hk]; rfl
theorem filter_snoc {es : List Ent} {p : Ent → Bool} {k : Nat} (hk : k < es.length) : (es.take (k + 1)).filter p = (es.take k).filter p ++ (if p (es.getD k zE) then [es.getD k zE] else []) := by
  rw [take_succ_getD hk, List.filter_append, List.filter_cons]
  split <;> rfl
theorem filter_len {es : List Ent} {p : Ent → Bool} {k : Nat} : ((es.take k).filter p).length ≤ k := by
  have h := List.length_filter_le p (es.take k)
  rw [List.length_take] at h
  omega
theorem Lower_L0 (m : Nat) (r c : Int) (S I V : List Int) (b0 b1 : Int) (b2 b3 b4 : List Int) {es : List Ent} (hl : es.length ≤ 100000) : ∀ (n k : Nat), es.length - k < n → k ≤ es.length →
    g18_L0 m n r c S I V b0 b1 b2 b3 b4 ((es.take k).filter lowE) es (es.length : Int) (k : Int) = some (.inl ((r, c, S, I, V, ()), (b0, b1, b2, b3, b4, ()), es.filter lowE, ())) ∧
    g19_L0 m n r c S I V b0 b1 b2 b3 b4 ((es.take k).filter lowE) es (k : Int) = some (.inl ((r, c, S, I, V, ()), (b0, b1, b2, b3, b4, ()), es.filter lowE, ()))
  | 0, k, h, _ => absurd h (Nat.not_lt_zero _)
  | n + 1, k, h, hk0 => by
    rw [g18_L0, g19_L0]
    by_cases hk : k < es.length
    · have h1 : ((k : Int) < (es.length : Int)) := by omega
      have c1 : (0 : Int) ≤ (k : Int) ∧ (k : Int) < (es.length : Int) := by omega
      have hlen := filter_len (es := es) (p := lowE) (k := k)
      have c2 : ∀ y : Ent, ((es.take k).filter lowE).length + ([y] : List Ent).length ≤ 1073741824 := fun y => by show _ + 1 ≤ _; omega
      obtain ⟨i1, i2⟩ := Lower_L0 m r c S I V b0 b1 b2 b3 b4 hl n (k + 1) (by omega) (by omega)
      rw [filter_snoc hk] at i1 i2
      simp only [bif_decide, h1, if_true, c1, c2, and_self, Int.toNat_natCast, Nat.zero_add, w_i64_eq, wsucc (show k < 4611686018427387904 by omega)]
      by_cases hp : (es.getD k zE).1 ≥ (es.getD k zE).2.1
      · have hp' : lowE (es.getD k zE) = true := decide_eq_true hp
        rw [if_pos hp'] at i1 i2
        rw [if_pos hp, if_pos hp]
        exact ⟨i1, i2⟩
      · have hp' : ¬ lowE (es.getD k zE) = true := fun h => hp (of_decide_eq_true h)
        rw [if_neg hp', List.append_nil] at i1 i2
        rw [if_neg hp, if_neg hp]
        exact ⟨i1, i2⟩
    · have h1 : ¬ ((k : Int) < (es.length : Int)) := by omega
      simp only [bif_decide, h1, if_false]
      rw [List.take_of_length_le (by omega)]
      exact ⟨rfl, rfl⟩
theorem MV.filter (h : MV R C S I V) (p : Ent → Bool) : EntsOK R C ((Go.Vs.F.ents S I V C 0).filter p) ∧ DistE ((Go.Vs.F.ents S I V C 0).filter p) ∧ ((Go.Vs.F.ents S I V C 0).filter p).length ≤ 10000 := by
  refine ⟨entsOK_mem fun e he => mem_entsOK h.ents e (List.mem_filter.1 he).1, dist_of_pair ((ents_pair h.ok C 0 (by omega)).filter _), Nat.le_trans (List.length_filter_le ..) h.len⟩
theorem Lower_both {m : Nat} (hm : 3000000 < m) (h : MV R C S I V) :
    g18 m (R : Int) (C : Int) S I V = some ((((R : Int), (C : Int), packS ((ents S I V C 0).filter lowE) R C, packI ((ents S I V C 0).filter lowE) R C, packV ((ents S I V C 0).filter lowE) R C, ()), 0, ()), (), ()) ∧
    g19 m (R : Int) (C : Int) S I V = some ((((R : Int), (C : Int), packS ((ents S I V C 0).filter lowE) R C, packI ((ents S I V C 0).filter lowE) R C, packV ((ents S I V C 0).filter lowE) R C, ()), 0, ()), (), ()) := by
  obtain ⟨hE, hD, hfl⟩ := h.filter lowE
  have hsz := h.ok.sz
  have hl := h.len
  have hv := h.vl
  have hs := h.sl
  obtain ⟨i1, i2⟩ := Lower_L0 m (R : Int) (C : Int) S I V 0 0 [] [] [] (es := ents S I V C 0) (by omega) m 0 (by omega) (by omega)
  simp only [List.take_zero, List.filter_nil, Int.natCast_zero] at i1 i2
  constructor
  · rw [g18, g28_eq (by omega) (by omega) (by omega) (by omega) (by omega), h.chk]
    simp only [Option.bind_some, bif_ne, if_true]
    rw [mEntries_eq (by omega) h.ok h.vl]
    simp only [Option.bind_some, i1]
    rw [build_eq hE hD h.ok.rz h.ok.cz (by omega) (by omega)]
    rfl
  · rw [g19, ref_Check_eq (by omega) (by omega) (by omega), h.chk]
    simp only [Option.bind_some, bif_ne, if_true]
    rw [Entries_eq (by omega) h.ok h.vl h.chk]
    simp only [Option.bind_some, i2]
    rw [Pack_eq hE h.ok.rz h.ok.cz (by omega) (by omega)]
    rfl
end
end Go.Vs.F

/-! MwTc -/
set_option linter.unusedVariables false
set_option linter.unusedSimpArgs false
namespace Go.Vs.F
/- The places of the indices of a list. -/
/-! ### The document's tests -/
theorem getD_take {α : Type} {l : List α} {j k : Nat} {d : α} (h : j < k) : (l.take k).getD j d = l.getD j d := by
  simp [List.getD, List.getElem?_take, h]
end Go.Vs.F

/-! MwTd -/
set_option linter.unusedVariables false
set_option linter.unusedSimpArgs false
set_option maxRecDepth 100000
namespace Go.Vs.F
section
variable {R C : Nat} {S I V : List Int}
/- The chosen entries, and where they go. -/
/- What is chosen: by rows and columns. -/
/-! ### The document's choice -/
theorem mem_ents2 {x : Ent} : ∀ {d k : Nat}, x ∈ ents S I V d k ↔ ∃ j t, k ≤ j ∧ j < k + d ∧ (S.getD j 0).toNat ≤ t ∧ t < (S.getD (j + 1) 0).toNat ∧ x = (I.getD t 0, (j : Int), V.getD t 0)
  | 0, k => by
    constructor
    · intro h; simp [ents] at h
    · rintro ⟨j, t, h1, h2, _⟩; omega
  | d + 1, k => by
    rw [ents, List.mem_append, mem_ents2 (d := d) (k := k + 1)]
    constructor
    · rintro (h | ⟨j, t, h1, h2, h3⟩)
      · unfold entCol at h
        obtain ⟨t, ht, rfl⟩ := List.mem_map.1 h
        rw [List.mem_range'_1] at ht
        exact ⟨k, t, Nat.le_refl _, by omega, ht.1, by omega, rfl⟩
      · exact ⟨j, t, by omega, by omega, h3⟩
    · rintro ⟨j, t, h1, h2, h3, h4, h5⟩
      by_cases e : j = k
      · subst e
        left; unfold entCol
        exact List.mem_map.2 ⟨t, List.mem_range'_1.2 ⟨h3, by omega⟩, h5.symm⟩
      · right; exact ⟨j, t, by omega, by omega, h3, h4, h5⟩
/- The list that grows, row by row. -/
/- Both choices are packed alike. -/
end
end Go.Vs.F

/-! MwTe -/
set_option linter.unusedVariables false
set_option linter.unusedSimpArgs false
set_option maxRecDepth 100000
namespace Go.Vs.F
section
variable {R C : Nat} {S I V : List Int}
end
end Go.Vs.F
