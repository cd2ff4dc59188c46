/- The law MatchingEntry: weak duality; what Pack stores. The law MatchingEntry. -/
import Derived.Test.YtokemaifpclkcaaDoorLd

/-! MbNg -/
set_option linter.unusedVariables false
set_option linter.unusedSimpArgs false
set_option maxRecDepth 100000
namespace Go.Vs.F
/- No matching is greater than a cover. -/
theorem weak {E : List (List Int)} {R C : Nat} {row col : List Int} {pr pc : Nat → Bool} (hc : Cons E R C row col) (hok : ∀ j, j < C → row.getD j 0 = -1 ∨ (0 ≤ row.getD j 0 ∧ row.getD j 0 < (R : Int)))
    (hcov : ∀ j, j < C → ∀ i ∈ E.getD j [], pr i.toNat = true ∨ pc j = true) : cnt (mt row) C ≤ cnt pr R + cnt pc C := by
  rw [cnt_split (mt row) pc C]
  have a1 : cnt (fun i => mt row i && pc i) C ≤ cnt pc C := cnt_mono fun i _ h => (Bool.and_eq_true_iff.1 h).2
  have a2 : cnt (fun i => mt row i && !pc i) C ≤ cnt pr R := by
    refine cnt_inj (f := fun j => (row.getD j 0).toNat) (fun j hj hp => ?_) (fun i j hi hj hp hq e => ?_)
    · simp only [Bool.and_eq_true, Bool.not_eq_true'] at hp
      have hm : 0 ≤ row.getD j 0 := of_decide_eq_true hp.1
      rcases hok j hj with h | h
      · omega
      · refine ⟨by omega, ?_⟩
        rcases hcov j hj _ (hc.e j hj hm) with g | g
        · exact g
        · rw [g] at hp; cases hp.2
    · simp only [Bool.and_eq_true] at hp hq
      have hm : 0 ≤ row.getD i 0 := of_decide_eq_true hp.1
      have hn : 0 ≤ row.getD j 0 := of_decide_eq_true hq.1
      have b1 := hc.b i hi hm
      have b2 := hc.b j hj hn
      have e' : (row.getD i 0).toNat = (row.getD j 0).toNat := e
      rw [e', b2] at b1; omega
  omega
theorem lastIx_pos {es : List Ent} {i j : Nat} : ∀ {t : Nat}, 0 < lastIx es i j t ↔ ∃ k, k < t ∧ (es.getD k (0, (0, 0))).1 = (i : Int) ∧ (es.getD k (0, (0, 0))).2.1 = (j : Int)
  | 0 => by simp [lastIx]
  | t + 1 => by
    rw [lastIx]
    by_cases h : (es.getD t (0, (0, 0))).1 = (i : Int) ∧ (es.getD t (0, (0, 0))).2.1 = (j : Int)
    · rw [if_pos h]; exact ⟨fun _ => ⟨t, by omega, h⟩, fun _ => by omega⟩
    · rw [if_neg h, lastIx_pos]
      constructor
      · rintro ⟨k, a, b⟩; exact ⟨k, by omega, b⟩
      · rintro ⟨k, a, b⟩
        by_cases e : k = t
        · subst e; exact absurd b h
        · exact ⟨k, by omega, b⟩
theorem pack_edge {es : List Ent} {r c j : Nat} (hE : EntsOK r c es) (hj : j < c) {x : Int} : x ∈ (edgesOf c (packS es r c) (packI es r c)).getD j [] ↔ ∃ k, k < es.length ∧ (es.getD k (0, (0, 0))).1 = x ∧ (es.getD k (0, (0, 0))).2.1 = (j : Int) := by
  rw [edgesOf_get hj, pack_colOf hj]
  unfold colI colR
  simp only [List.mem_map, List.mem_filter, List.mem_range'_1, decide_eq_true_eq]
  constructor
  · rintro ⟨i, ⟨h1, h2⟩, rfl⟩
    exact lastIx_pos.1 h2
  · rintro ⟨k, h1, h2, h3⟩
    obtain ⟨⟨a, b⟩, _⟩ := hE k h1
    refine ⟨x.toNat, ⟨⟨by omega, by omega⟩, lastIx_pos.2 ⟨k, h1, ?_, h3⟩⟩, by omega⟩
    omega
theorem ents_edge {R C : Nat} {S I V : List Int} (hM : MatOK R C S I) {j : Nat} (hj : j < C) {x : Int} : (∃ k, k < (ents S I V C 0).length ∧ ((ents S I V C 0).getD k (0, (0, 0))).1 = x ∧ ((ents S I V C 0).getD k (0, (0, 0))).2.1 = (j : Int)) ↔ x ∈ (edgesOf C S I).getD j [] := by
  have h := ents_all (V := V) (p := fun a b => !(decide (a = x) && decide (b = (j : Int)))) hM C 0 (by omega) (by omega)
  constructor
  · rintro ⟨k, h1, h2, h3⟩
    refine Classical.byContradiction fun hn => ?_
    have h4 : allFrom (fun j' => ((edgesOf C S I).getD j' []).all (fun i => !(decide (i = x) && decide ((j' : Int) = (j : Int))))) 0 C = true := by
      refine allFrom_iff.2 fun j' _ hj' => List.all_eq_true.2 fun i hi => ?_
      by_cases e1 : i = x
      · by_cases e2 : (j' : Int) = (j : Int)
        · have : j' = j := by omega
          subst this; subst e1; exact absurd hi hn
        · simp [e2]
      · simp [e1]
    rw [h4] at h
    have hm : (ents S I V C 0).getD k (0, (0, 0)) ∈ ents S I V C 0 := by
      simp [List.getD, h1]
    have := List.all_eq_true.1 h _ hm
    simp [-List.getD_eq_getElem?_getD, h2, h3] at this
  · intro hx
    refine Classical.byContradiction fun hn => ?_
    have h4 : (ents S I V C 0).all (fun e => !(decide (e.1 = x) && decide (e.2.1 = (j : Int)))) = true := by
      refine List.all_eq_true.2 fun e he => ?_
      obtain ⟨k, hk, ek⟩ := mem_getD (d := (0, (0, 0))) he
      by_cases e1 : e.1 = x
      · by_cases e2 : e.2.1 = (j : Int)
        · exact absurd ⟨k, hk, by rw [ek]; exact e1, by rw [ek]; exact e2⟩ hn
        · simp [e2]
      · simp [e1]
    rw [h4] at h
    have := List.all_eq_true.1 (allFrom_iff.1 h.symm j (Nat.zero_le _) hj) x hx
    simp at this
theorem ents_val {S I V : List Int} {R C : Nat} (hM : MatOK R C S I) {e : Ent} : ∀ (d k : Nat), C - k = d → k ≤ C → e ∈ ents S I V d k → ∃ t, t < I.length ∧ e.2.2 = V.getD t 0
  | 0, k, hd, hk, h => by simp [ents] at h
  | d + 1, k, hd, hk, h => by
    rw [ents, List.mem_append] at h
    rcases h with h | h
    · obtain ⟨t, h1, h2⟩ := List.mem_map.1 h
      have h3 := List.mem_range'_1.1 h1
      have b := hM.st.rng (j := k + 1) (by omega)
      have a := hM.st.rng (j := k) (by omega)
      exact ⟨t, by omega, by rw [← h2]⟩
    · exact ents_val hM d (k + 1) (by omega) (by omega) h
theorem ents_ok {S I V : List Int} {R C : Nat} (hM : MatOK R C S I) (hV : V.length = I.length) (hf : finL V = true) : EntsOK R C (ents S I V C 0) := by
  intro k hk
  have hm : (ents S I V C 0).getD k (0, (0, 0)) ∈ ents S I V C 0 := by simp [List.getD, hk]
  have h := ents_all (V := V) (p := fun a b => decide (0 ≤ a) && decide (a < (R : Int)) && decide (0 ≤ b) && decide (b < (C : Int))) hM C 0 (by omega) (by omega)
  have h4 : allFrom (fun j' => ((edgesOf C S I).getD j' []).all (fun a => decide (0 ≤ a) && decide (a < (R : Int)) && decide (0 ≤ (j' : Int)) && decide ((j' : Int) < (C : Int)))) 0 C = true := by
    refine allFrom_iff.2 fun j' _ hj' => List.all_eq_true.2 fun i hi => ?_
    have := hM.edge j' i hi
    simp only [Bool.and_eq_true, decide_eq_true_eq]; omega
  rw [h4] at h
  have h5 := List.all_eq_true.1 h _ hm
  simp only [Bool.and_eq_true, decide_eq_true_eq] at h5
  obtain ⟨t, ht, ev⟩ := ents_val hM C 0 (by omega) (by omega) hm
  refine ⟨⟨h5.1.1.1, h5.1.1.2⟩, ⟨h5.1.2, h5.2⟩, ?_⟩
  rw [ev]; exact allFrom_iff.1 hf t (Nat.zero_le _) (by omega)
end Go.Vs.F

/-! MbNh -/
set_option linter.unusedVariables false
set_option linter.unusedSimpArgs false
set_option maxRecDepth 100000
namespace Go.Vs.F
theorem fin_one : finB 4607182418800017408 = true := by decide
theorem cnt_or_one {p : Nat → Bool} {a : Nat} : ∀ {n : Nat}, cnt (fun i => p i || i == a) n ≤ cnt p n + (bif decide (a < n) then 1 else 0)
  | 0 => Nat.zero_le _
  | n + 1 => by
    have ih := cnt_or_one (p := p) (a := a) (n := n)
    simp only [cnt]
    by_cases e : n = a
    · subst e
      have h1 : decide (n < n) = false := by simp
      have h2 : decide (n < n + 1) = true := by simp
      rw [h1] at ih; rw [h2]
      simp only [cond_false, Nat.add_zero, beq_self_eq_true, Bool.or_true, cond_true] at ih ⊢
      omega
    · have h1 : (n == a) = false := by simpa using e
      rw [h1, Bool.or_false]
      by_cases h : a < n
      · have h2 : decide (a < n) = true := by simpa using h
        have h3 : decide (a < n + 1) = true := by simp; omega
        rw [h2] at ih; rw [h3]; omega
      · have h2 : decide (a < n) = false := by simpa using h
        have h3 : decide (a < n + 1) = false := by simp; omega
        rw [h2] at ih; rw [h3]; omega
theorem MatchingEntry_law (R C : Int) (l : List Int) (p q : Int) : ∃ m, sparselaw13_MatchingEntry m R C l p q = some (true, (), (), (), (), (), ()) := by
  by_cases hl : l.length ≤ 90
  · obtain ⟨r, c, es, hr, hc, hE, hes, hmk⟩ := made_eq R C (l := l) (by omega)
    by_cases hr0 : r = 0
    · subst hr0
      refine ⟨3000060, ?_⟩
      rw [sparselaw13_MatchingEntry, bif_decide, if_neg (by omega), hmk _ (by omega)]
      simp only [Option.bind_some, Int.natCast_zero, bif_eq, if_true]
      rw [awakeM (by omega)]; rfl
    by_cases hc0 : c = 0
    · subst hc0
      refine ⟨3000060, ?_⟩
      rw [sparselaw13_MatchingEntry, bif_decide, if_neg (by omega), hmk _ (by omega)]
      simp only [Option.bind_some, Int.natCast_zero, bif_eq, if_true]
      rw [if_neg (by omega), awakeM (by omega)]; rfl
    have ha : c * r ≤ 10000 := Nat.le_trans (Nat.mul_le_mul (show c ≤ 100 by omega) (show r ≤ 100 by omega)) (by decide)
    have hk := pack_chk hE (by omega) (by omega) ha
    have hM := pack_ok (es := es) (r := r) (c := c) (by omega) (by omega) ha
    have hsl := hM.st.len
    have hil := hM.sz
    have hvl := packV_len es r c
    obtain ⟨r', c', er, ec, _, _, hfin⟩ := chk_ok hk
    obtain ⟨i0, hi0, ei⟩ := Place_eq (a := p) (n := r) (by omega) (by omega)
    obtain ⟨j0, hj0, ej⟩ := Place_eq (a := q) (n := c) (by omega) (by omega)
    have hE1 := ents_ok hM hvl hfin
    have hlen := ents_len (V := packV es r c) hM c 0 (by omega) (by omega)
    have hlast := hM.st.last
    obtain ⟨e1, he1⟩ : ∃ e1, ents (packS es r c) (packI es r c) (packV es r c) c 0 = e1 := ⟨_, rfl⟩
    have hedge : ∀ j, j < c → ∀ x, x ∈ (edgesOf c (packS es r c) (packI es r c)).getD j [] ↔ ∃ k, k < e1.length ∧ (e1.getD k (0, (0, 0))).1 = x ∧ (e1.getD k (0, (0, 0))).2.1 = (j : Int) := fun j hj x => by
      rw [← he1]; exact (ents_edge hM hj).symm
    rw [he1] at hE1 hlen
    have hE2 : EntsOK r c (e1 ++ [((i0 : Int), ((j0 : Int), 4607182418800017408))]) := hE1.snoc (by omega) (by omega) fin_one
    obtain ⟨e2, he2⟩ : ∃ e2, e1 ++ [((i0 : Int), ((j0 : Int), (4607182418800017408 : Int)))] = e2 := ⟨_, rfl⟩
    have hl2 : e2.length = e1.length + 1 := by rw [← he2]; simp
    rw [he2] at hE2
    have hk2 := pack_chk hE2 (by omega) (by omega) ha
    have hM2 := pack_ok (es := e2) (r := r) (c := c) (by omega) (by omega) ha
    have hsl2 := hM2.st.len
    have hil2 := hM2.sz
    have hvl2 := packV_len e2 r c
    have up : ∀ j, j < c → ∀ x ∈ (edgesOf c (packS es r c) (packI es r c)).getD j [], x ∈ (edgesOf c (packS e2 r c) (packI e2 r c)).getD j [] := fun j hj x hx => by
      obtain ⟨k, h1, h2, h3⟩ := (hedge j hj x).1 hx
      refine (pack_edge hE2 hj).2 ⟨k, by omega, ?_, ?_⟩
      · rw [← he2, getD_append_left' h1]; exact h2
      · rw [← he2, getD_append_left' h1]; exact h3
    have down : ∀ j, j < c → ∀ x ∈ (edgesOf c (packS e2 r c) (packI e2 r c)).getD j [], x ∈ (edgesOf c (packS es r c) (packI es r c)).getD j [] ∨ x = (i0 : Int) := fun j hj x hx => by
      obtain ⟨k, h1, h2, h3⟩ := (pack_edge hE2 hj).1 hx
      by_cases h : k < e1.length
      · rw [← he2, getD_append_left' h] at h2 h3
        exact .inl ((hedge j hj x).2 ⟨k, h, h2, h3⟩)
      · have : k - e1.length = 0 := by omega
        rw [← he2, getD_append_right' (by omega), this] at h2
        exact .inr h2.symm
    obtain ⟨u, hu, g, M, hB⟩ := bothOK hk hM hvl (by omega) (by omega)
    have K := hu.kinv hM.edge kinv0
    obtain ⟨u2, hu2, g2, M2, hB2⟩ := bothOK hk2 hM2 hvl2 (by omega) (by omega)
    have K2 := hu2.kinv hM2.edge kinv0
    obtain ⟨m, hm1, hm2, hm3⟩ : ∃ m, M ≤ m ∧ M2 ≤ m ∧ 3000060 ≤ m := ⟨M + M2 + 3000060, by omega, by omega, by omega⟩
    refine ⟨m, ?_⟩
    obtain ⟨b1, _, _, _⟩ := hB m hm1
    obtain ⟨c1, _, _, _⟩ := hB2 m hm2
    have l0 : u.row.length = c := g.row
    have l2 : u2.row.length = c := g2.row
    have hle : cnt (mt u.row) c ≤ cnt (mt u2.row) c := by
      rw [← konig_cnt hM2.edge K2]
      exact weak (E := edgesOf c (packS e2 r c) (packI e2 r c)) ⟨K.cons.a, K.cons.b, fun j hj h => up j hj _ (K.cons.e j hj h)⟩ K.good.rok (rCov hM2.edge)
    have hge : cnt (mt u2.row) c ≤ cnt (mt u.row) c + 1 := by
      rw [← konig_cnt hM.edge K]
      have h1 := weak (E := edgesOf c (packS e2 r c) (packI e2 r c)) (pr := fun i => rRow (edgesOf c (packS es r c) (packI es r c)) c u i || i == i0) (pc := fun j => !rCol (edgesOf c (packS es r c) (packI es r c)) c u j) K2.cons K2.good.rok (fun j hj x hx => by
        rcases down j hj x hx with h | h
        · rcases rCov (u := u) hM.edge j hj x h with h | h
          · left; rw [h]; rfl
          · exact .inr h
        · left; rw [h, Int.toNat_natCast]; simp)
      have h2 := cnt_or_one (p := rRow (edgesOf c (packS es r c) (packI es r c)) c u) (a := i0) (n := r)
      have h3 : (bif decide (i0 < r) then 1 else 0) ≤ 1 := by cases decide (i0 < r) <;> simp
      omega
    have hb1 := cnt_le (p := mt u.row) (n := c)
    have hb2 := cnt_le (p := mt u2.row) (n := c)
    rw [sparselaw13_MatchingEntry, bif_decide, if_neg (by omega), hmk _ (by omega)]
    simp only [Option.bind_some]
    rw [bif_eq, if_neg (by omega), bif_eq, if_neg (by omega), Entries_eq (by omega) hM hvl hk, he1, ei, ej]
    simp only [Option.bind_some]
    rw [he2, if_pos (by simp; omega), Pack_eq hE2 (by omega) (by omega) (by omega) (by omega)]
    simp only [Option.bind_some, b1, c1]
    rw [size_eq (by omega) (by omega), size_eq (by omega) (by omega), l0, l2]
    simp only [Option.bind_some, bif_eq, if_true]
    rw [show w_i64 (((cnt (mt u2.row) c : Nat) : Int) - ((cnt (mt u.row) c : Nat) : Int)) = ((cnt (mt u2.row) c : Nat) : Int) - ((cnt (mt u.row) c : Nat) : Int) from wi (by omega) (by omega), awakeM (by omega)]
    by_cases hz : ((cnt (mt u2.row) c : Nat) : Int) - ((cnt (mt u.row) c : Nat) : Int) = 0
    · rw [if_pos hz]; rfl
    · rw [if_neg hz, if_pos (by omega)]; rfl
  · refine ⟨60, ?_⟩
    rw [sparselaw13_MatchingEntry, bif_decide, if_pos (by omega), awakeM (Nat.le_refl _)]; rfl
end Go.Vs.F
