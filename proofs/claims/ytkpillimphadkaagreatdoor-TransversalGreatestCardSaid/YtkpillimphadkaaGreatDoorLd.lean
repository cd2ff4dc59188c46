/- The document's check and entries, the entries of the program, orders made of numbers (turned from the matching laws). The edges of a matrix with made values; the weight of an order. The weight of an order; sums over orders; what is made is good. The law TransversalGreatest. -/
import Derived.Test.YtkpillimphadkaaGreatDoorLb
import Derived.Test.YtkpillimphadkaaGreatDoorLc

/-! TzRa -/
set_option linter.unusedVariables false
set_option linter.unusedSimpArgs false
set_option maxRecDepth 100000
namespace Go.Vs.F
variable {R C : Nat} {S I V : List Int}
theorem Finite_L0 (m : Nat) (a : List Int) (hb : a.length < 4611686018427387904) : ∀ (n k : Nat), a.length - k < n →
    sparseref06_Finite_L0 m n a (k : Int) = some (bif allFrom (fun i => finB (a.getD i 0)) k a.length then .inr (.inl ()) else .inl (false, ()))
  | 0, k, h => by omega
  | n + 1, k, h => by
    rw [sparseref06_Finite_L0]
    by_cases hk : k < a.length
    · have h1 : ((k : Int) < (a.length : Int)) := by omega
      simp only [bif_decide, h1, if_true, Int.toNat_natCast, Int.natCast_nonneg, and_self, wsucc (show k < 4611686018427387904 by omega), sparseref03_IsFinite, Option.bind_some]
      rw [allFrom_step hk, Finite_L0 m a hb n (k + 1) (by omega)]
      show (bif !(finB (a.getD k 0)) then _ else _) = _
      cases finB (a.getD k 0) <;> simp
    · have h1 : ¬ ((k : Int) < (a.length : Int)) := by omega
      simp only [bif_decide, h1, if_false]
      rw [allFrom_end hk]; rfl
theorem Finite_eq {m : Nat} {a : List Int} (h : a.length < m) (hb : a.length < 4611686018427387904) : sparseref06_Finite m a = some (finL a, (), ()) := by
  rw [sparseref06_Finite]
  have := Finite_L0 m a hb m 0 (by omega)
  simp only [Int.cast_ofNat_Int, Int.natCast_zero, Int.ofNat_zero] at this
  rw [this]
  unfold finL
  cases allFrom (fun i => finB (a.getD i 0)) 0 a.length <;> rfl
theorem refCheck_L0 (m : Nat) (R C : Int) (c : Nat) (S I V : List Int) (hC : C = (c : Int)) (hl : S.length = c + 1) (hc : c < 4611686018427387904) : ∀ (n k : Nat), c - k < n → k ≤ c →
    sparseref09_Check_L0 m n R C S I V (k : Int) = some (bif allFrom (le2 S) k c then .inr (.inl ((R, C, S, I, V, ()), ())) else .inl (1, ()))
  | 0, k, h, _ => by omega
  | n + 1, k, h, h0 => by
    rw [sparseref09_Check_L0]
    subst hC
    by_cases hk : k < c
    · have h1 : ((k : Int) < (c : Int)) := by omega
      have h2 : ((k : Int) < (S.length : Int)) := by omega
      have h3 : (((k + 1 : Nat) : Int) < (S.length : Int)) := by omega
      simp only [bif_decide, h1, h2, h3, if_true, Int.toNat_natCast, Int.natCast_nonneg, and_self, wsucc (show k < 4611686018427387904 by omega)]
      rw [refCheck_L0 m R (c : Int) c S I V rfl hl hc n (k + 1) (by omega) (by omega), allFrom_step hk, le2]
      by_cases hx : S.getD k 0 > S.getD (k + 1) 0
      · have : ¬ S.getD k 0 ≤ S.getD (k + 1) 0 := by omega
        simp [-List.getD_eq_getElem?_getD, hx, this]
      · have : S.getD k 0 ≤ S.getD (k + 1) 0 := by omega
        simp [-List.getD_eq_getElem?_getD, hx, this]
    · have h1 : ¬ ((k : Int) < (c : Int)) := by omega
      simp only [bif_decide, h1, if_false]
      rw [allFrom_end hk]; rfl
theorem refCheck_L2 (m : Nat) (R C : Int) (c j : Nat) (S I V : List Int) (hC : C = (c : Int)) (hok : StartOK c S I) (hj : j < c) (hc : c < 4611686018427387904) (hb : I.length < 4611686018427387904) : ∀ (n k : Nat), (S.getD (j + 1) 0).toNat - k < n → (S.getD j 0).toNat ≤ k →
    sparseref09_Check_L2 m n R C S I V (j : Int) (k : Int) = some (bif allFrom (entOK R S I j) k (S.getD (j + 1) 0).toNat then .inr (.inl ((R, C, S, I, V, ()), (j : Int), ())) else .inl (1, ()))
  | 0, k, h, _ => by omega
  | n + 1, k, h, h0 => by
    rw [sparseref09_Check_L2]
    subst hC
    have hl := hok.len
    have a := hok.rng (j := j) (by omega)
    have b := hok.rng (j := j + 1) (by omega)
    have h2 : ((j : Int) < (S.length : Int)) := by omega
    have h3 : (((j + 1 : Nat) : Int) < (S.length : Int)) := by omega
    simp only [bif_decide, h2, h3, if_true, Int.toNat_natCast, Int.natCast_nonneg, and_self, wsucc (show j < 4611686018427387904 by omega)]
    by_cases hk : k < (S.getD (j + 1) 0).toNat
    · have h1 : ((k : Int) < S.getD (j + 1) 0) := by omega
      have h4 : ((k : Int) < (I.length : Int)) := by omega
      simp only [h1, h4, if_true, and_self, wsucc (show k < 4611686018427387904 by omega)]
      rw [refCheck_L2 m R (c : Int) c j S I V rfl hok hj hc hb n (k + 1) (by omega) (by omega), allFrom_step hk, entOK]
      by_cases e1 : I.getD k 0 < 0
      · have e2 : ¬ 0 ≤ I.getD k 0 := by omega
        simp only [e1, e2, if_true, decide_false, Bool.false_and, cond_false]
      · have e2 : 0 ≤ I.getD k 0 := by omega
        by_cases e3 : I.getD k 0 ≥ R
        · have e4 : ¬ I.getD k 0 < R := by omega
          simp only [e1, e2, e3, e4, if_true, if_false, decide_false, decide_true, Bool.false_and, Bool.true_and, cond_false]
        · have e4 : I.getD k 0 < R := by omega
          simp only [e1, e2, e3, e4, if_false, decide_true, Bool.true_and]
          by_cases e5 : (k : Int) > S.getD j 0
          · have e6 : (S.getD j 0).toNat < k := by omega
            have e7 : (0 : Int) ≤ ((k - 1 : Nat) : Int) ∧ ((k - 1 : Nat) : Int) < (I.length : Int) := by omega
            simp only [e5, e6, if_true, decide_true, Bool.not_true, Bool.false_or, wpred (show k < 4611686018427387904 by omega) (show 0 < k by omega), e7, and_self, Int.toNat_natCast]
            by_cases e8 : I.getD k 0 ≤ I.getD (k - 1) 0
            · have e9 : ¬ I.getD (k - 1) 0 < I.getD k 0 := by omega
              simp only [e8, e9, if_true, decide_false, Bool.false_and, cond_false]
            · have e9 : I.getD (k - 1) 0 < I.getD k 0 := by omega
              simp only [e8, e9, if_false, decide_true, Bool.true_and]
          · have e6 : ¬ (S.getD j 0).toNat < k := by omega
            simp only [e5, e6, if_false, decide_false, Bool.not_false, Bool.true_or, Bool.true_and]
    · have h1 : ¬ ((k : Int) < S.getD (j + 1) 0) := by omega
      simp only [h1, if_false]
      rw [allFrom_end hk]; rfl
theorem refCheck_L1 (m : Nat) (R C : Int) (c : Nat) (S I V : List Int) (hC : C = (c : Int)) (hok : StartOK c S I) (hc : c < 4611686018427387904) (hb : I.length < 4611686018427387904) (hm : I.length < m) : ∀ (n k : Nat), c - k < n → k ≤ c →
    sparseref09_Check_L1 m n R C S I V (k : Int) = some (bif allFrom (fun j => colEnt R S I j) k c then .inr (.inl ((R, C, S, I, V, ()), ())) else .inl (1, ()))
  | 0, k, h, _ => by omega
  | n + 1, k, h, h0 => by
    rw [sparseref09_Check_L1]
    subst hC
    have hl := hok.len
    by_cases hk : k < c
    · have h1 : ((k : Int) < (c : Int)) := by omega
      have h2 : ((k : Int) < (S.length : Int)) := by omega
      have a := hok.rng (j := k) (by omega)
      have b := hok.rng (j := k + 1) (by omega)
      have e := refCheck_L2 m R (c : Int) c k S I V rfl hok hk hc hb m (S.getD k 0).toNat (by omega) (Nat.le_refl _)
      rw [show (((S.getD k 0).toNat : Nat) : Int) = S.getD k 0 by omega] at e
      simp only [bif_decide, h1, h2, if_true, Int.toNat_natCast, Int.natCast_nonneg, and_self]
      rw [e, allFrom_step hk]
      show _ = some (bif (colEnt R S I k && _) then _ else _)
      rw [colEnt]
      cases allFrom (entOK R S I k) (S.getD k 0).toNat (S.getD (k + 1) 0).toNat
      · rfl
      · simp only [cond_true, Bool.true_and, Option.bind_some, wsucc (show k < 4611686018427387904 by omega)]
        exact refCheck_L1 m R (c : Int) c S I V rfl hok hc hb hm n (k + 1) (by omega) (by omega)
    · have h1 : ¬ ((k : Int) < (c : Int)) := by omega
      simp only [bif_decide, h1, if_false]
      rw [allFrom_end hk]; rfl
theorem ref_Check_eq {m : Nat} {R C : Int} {S I V : List Int} (hV : V.length < m) (hm : 11000 < m) (hv : V.length < 4611686018427387904) :
    sparseref09_Check m R C S I V = some (chk R C S I V, (), ()) := by
  rw [sparseref09_Check, chk]
  by_cases h1 : 0 ≤ R
  · have h1' : ¬ R < 0 := by omega
    by_cases h2 : R ≤ 200
    · have h2' : ¬ R > 200 := by omega
      by_cases h3 : 0 ≤ C
      · have h3' : ¬ C < 0 := by omega
        by_cases h4 : C ≤ 200
        · have h4' : ¬ C > 200 := by omega
          by_cases h5 : I.length ≤ 10000
          · have h5' : ¬ (I.length : Int) > 10000 := by omega
            obtain ⟨c, rfl⟩ : ∃ c : Nat, C = (c : Int) := ⟨C.toNat, by omega⟩
            simp only [bif_decide, h1, h1', h2, h2', h3, h3', h4, h4', h5, h5', if_false, decide_true, Bool.and_self, Bool.true_eq_false, strB, bif_ne, wi (show (-9223372036854775808 : Int) ≤ (c : Int) + 1 by omega) (by omega), Int.toNat_natCast]
            by_cases g1 : I.length = V.length
            · have g1' : (V.length : Int) = (I.length : Int) := by omega
              simp only [g1', if_true]
              by_cases g2 : (S.length : Int) = (c : Int) + 1
              · have hl : S.length = c + 1 := by omega
                have g3 : (0 : Int) ≤ 0 ∧ (0 : Int) < (S.length : Int) := by omega
                simp only [g2, if_true]
                rw [← g2, if_pos g3]
                by_cases g4 : S.getD 0 0 = 0
                · have g5 : (True ∧ (c : Int) < (S.length : Int)) := ⟨trivial, by omega⟩
                  simp only [g4, if_true]
                  rw [if_pos g5]
                  by_cases g6 : S.getD c 0 = (I.length : Int)
                  · simp only [g6, if_true]
                    have e0 := refCheck_L0 m R (c : Int) c S I V rfl hl (by omega) m 0 (by omega) (by omega)
                    simp only [Int.cast_ofNat_Int, Int.natCast_zero, Int.ofNat_zero] at e0
                    rw [e0]
                    cases h7 : allFrom (le2 S) 0 c
                    · simp
                    · have hok : StartOK c S I := ⟨hl, g4, fun j hj => by
                        have := allFrom_iff.1 h7 j (by omega) hj
                        simpa [-List.getD_eq_getElem?_getD, le2] using this, g6⟩
                      have e1 := refCheck_L1 m R (c : Int) c S I V rfl hok (by omega) (by omega) (by omega) m 0 (by omega) (by omega)
                      simp only [Int.cast_ofNat_Int, Int.natCast_zero, Int.ofNat_zero] at e1
                      simp only [cond_true, Option.bind_some]
                      rw [e1]
                      cases h8 : allFrom (fun j => colEnt R S I j) 0 c
                      · simp
                      · simp only [cond_true, Option.bind_some, Finite_eq hV hv, bif_not]
                        cases finL V <;> simp [g1]
                  · simp [-List.getD_eq_getElem?_getD, g6]
                · simp [-List.getD_eq_getElem?_getD, g4]
              · simp [g2]
            · have g1' : ¬ (V.length : Int) = (I.length : Int) := by omega
              simp [g1, g1']
          · have h5' : (I.length : Int) > 10000 := by omega
            simp [h1', h2', h3', h4', h5, h5']
        · have h4' : C > 200 := by omega
          simp [h1', h2', h3', h4, h4']
      · have h3' : C < 0 := by omega
        simp [h1', h2', h3, h3']
    · have h2' : R > 200 := by omega
      simp [h1', h2, h2']
  · have h1' : R < 0 := by omega
    simp [h1, h1']
theorem Entries_L1 (m : Nat) (hM : MatOK R C S I) (hV : V.length = I.length) {j : Nat} (hj : j < C) : ∀ (n k : Nat) (out : List (Int × Int × Int)), (S.getD (j + 1) 0).toNat - k < n → out.length ≤ k →
    sparseref09_Entries_L1 m n (R : Int) (C : Int) S I V out (j : Int) (k : Int) = some (.inl (((R : Int), (C : Int), S, I, V, ()), out ++ entCol S I V j k (S.getD (j + 1) 0).toNat, (j : Int), ()))
  | 0, k, out, h, _ => by omega
  | n + 1, k, out, h, ho => by
    have hl := hM.st.len
    have hcz := hM.cz
    have hiz := hM.sz
    have b := hM.st.rng (j := j + 1) (by omega)
    rw [sparseref09_Entries_L1]
    simp only [wsucc (show j < 4611686018427387904 by omega), Int.toNat_natCast, bif_decide]
    rw [if_pos (by omega)]
    by_cases hk : k < (S.getD (j + 1) 0).toNat
    · rw [if_pos (by omega), if_pos (by omega), if_pos (by omega), if_pos (by simp; omega), entCol_step hk]
      simp only [wsucc (show k < 4611686018427387904 by omega)]
      rw [Entries_L1 m hM hV hj n (k + 1) _ (by omega) (by simp; omega)]
      simp
    · rw [if_neg (by omega)]
      rw [entCol, show (S.getD (j + 1) 0).toNat - k = 0 by omega]; simp
theorem mEntries_L1 (m : Nat) (hM : MatOK R C S I) (hV : V.length = I.length) (t7 t8 : Int) {j : Nat} (hj : j < C) : ∀ (n k : Nat) (out : List Ent), (S.getD (j + 1) 0).toNat - k < n → out.length ≤ k →
    matrix_entries_L1 m n (R : Int) (C : Int) S I V out (j : Int) (k : Int) t7 t8 = some (.inl (((R : Int), (C : Int), S, I, V, ()), out ++ entCol S I V j k (S.getD (j + 1) 0).toNat, t7, t8, ()))
  | 0, k, out, h, _ => by omega
  | n + 1, k, out, h, ho => by
    have hl := hM.st.len
    have hcz := hM.cz
    have hiz := hM.sz
    have b := hM.st.rng (j := j + 1) (by omega)
    rw [matrix_entries_L1]
    simp only [w_i64_eq, wsucc (show j < 4611686018427387904 by omega), Int.toNat_natCast, bif_decide]
    rw [if_pos (by omega)]
    by_cases hk : k < (S.getD (j + 1) 0).toNat
    · rw [if_pos (by omega), if_pos (by omega), if_pos (by omega), if_pos (by simp; omega), entCol_step hk]
      simp only [wsucc (show k < 4611686018427387904 by omega)]
      rw [mEntries_L1 m hM hV t7 t8 hj n (k + 1) _ (by omega) (by simp; omega)]
      simp
    · rw [if_neg (by omega)]
      rw [entCol, show (S.getD (j + 1) 0).toNat - k = 0 by omega]; simp
theorem mEntries_L0 (m : Nat) (hm : 20000 < m) (hM : MatOK R C S I) (hV : V.length = I.length) : ∀ (d n k : Nat) (out : List Ent), C - k = d → k ≤ C → d < n → out.length = (S.getD k 0).toNat →
    matrix_entries_L0 m n (R : Int) (C : Int) S I V out (C : Int) (k : Int) = some (.inl (out ++ ents S I V d k, ()))
  | 0, n, k, out, hd, hk0, hn, ho => by
    obtain ⟨n, rfl⟩ : ∃ n', n = n' + 1 := ⟨n - 1, by omega⟩
    rw [matrix_entries_L0, bif_decide, if_neg (by omega)]; simp [ents]
  | d + 1, n, k, out, hd, hk0, hn, ho => by
    have hl := hM.st.len
    have hcz := hM.cz
    have hiz := hM.sz
    have hk : k < C := by omega
    have a := hM.st.rng (j := k) (by omega)
    have b := hM.st.rng (j := k + 1) (by omega)
    have dd := hM.st.mono k hk
    obtain ⟨n, rfl⟩ : ∃ n', n = n' + 1 := ⟨n - 1, by omega⟩
    have e := mEntries_L1 (V := V) m hM hV (C : Int) (k : Int) hk m (S.getD k 0).toNat out (by omega) (by omega)
    rw [show (((S.getD k 0).toNat : Nat) : Int) = S.getD k 0 by omega] at e
    rw [matrix_entries_L0, bif_decide, if_pos (by omega), if_pos (by omega)]
    simp only [Int.toNat_natCast]
    rw [e]
    simp only [Option.bind_some, w_i64_eq, wsucc (show k < 4611686018427387904 by omega)]
    rw [mEntries_L0 m hm hM hV d n (k + 1) _ (by omega) (by omega) (by omega) (by rw [List.length_append, entCol_len]; omega), ents]
    simp
theorem mEntries_eq {m : Nat} (hm : 20000 < m) (hM : MatOK R C S I) (hV : V.length = I.length) : matrix_entries m (R : Int) (C : Int) S I V = some (ents S I V C 0, (), ()) := by
  have hcz := hM.cz
  have h := mEntries_L0 (V := V) m hm hM hV C m 0 [] (by omega) (by omega) (by omega) (by rw [hM.st.s0]; rfl)
  rw [matrix_entries, show (0 : Int) = ((0 : Nat) : Int) from rfl, h]; rfl
def idn (n : Nat) : List Int := (List.range n).map fun i : Nat => (i : Int)
theorem idn_len {n : Nat} : (idn n).length = n := by simp [idn]
theorem mem_idn {n : Nat} {x : Int} : x ∈ idn n ↔ 0 ≤ x ∧ x < (n : Int) := by
  unfold idn
  simp only [List.mem_map, List.mem_range]
  constructor
  · rintro ⟨i, hi, rfl⟩; omega
  · intro h; exact ⟨x.toNat, by omega, by omega⟩
theorem idn_nodup {n : Nat} : (idn n).Nodup := by
  unfold idn
  rw [List.nodup_iff_pairwise_ne, List.pairwise_map]
  exact (List.pairwise_lt_range (n := n)).imp fun h => by omega
structure PermOK (n : Nat) (l : List Int) : Prop where
  len : l.length = n
  rng : ∀ k, k < n → 0 ≤ l.getD k 0 ∧ l.getD k 0 < (n : Int)
  inj : ∀ k k', k < n → k' < n → l.getD k 0 = l.getD k' 0 → k = k'
  sur : ∀ i, i < n → ∃ k, k < n ∧ l.getD k 0 = (i : Int)
theorem permOK {n : Nat} {l : List Int} (h : List.Perm l (idn n)) : PermOK n l := by
  have hl : l.length = n := by rw [h.length_eq, idn_len]
  have hnd : l.Nodup := h.nodup_iff.2 idn_nodup
  have hg : ∀ k (hk : k < l.length), l.getD k 0 = l[k] := fun k hk => by simp [List.getD, hk]
  refine ⟨hl, fun k hk => ?_, fun k k' hk hk' e => ?_, fun i hi => ?_⟩
  · rw [hg k (by omega)]; exact mem_idn.1 (h.mem_iff.1 (List.getElem_mem _))
  · rw [hg k (by omega), hg k' (by omega)] at e
    rw [List.nodup_iff_pairwise_ne, List.pairwise_iff_getElem] at hnd
    rcases Nat.lt_trichotomy k k' with h1 | h1 | h1
    · exact absurd e (hnd k k' (by omega) (by omega) h1)
    · exact h1
    · exact absurd e.symm (hnd k' k (by omega) (by omega) h1)
  · have : (i : Int) ∈ l := h.mem_iff.2 (mem_idn.2 (by omega))
    obtain ⟨k, hk, e⟩ := List.getElem_of_mem this
    exact ⟨k, by omega, by rw [hg k hk, e]⟩
theorem Shuffle_L0 (m : Nat) (l : List Int) {N : Nat} (hN : N < 1000000) : ∀ (n k : Nat), N - k < n → k ≤ N → sparsekit_Shuffle_L0 m n l (N : Int) (idn k) (k : Int) = some (.inl (l, (N : Int), idn N, ()))
  | 0, k, h, _ => absurd h (Nat.not_lt_zero _)
  | n + 1, k, h, hk => by
    rw [sparsekit_Shuffle_L0, bif_decide]
    by_cases e : k < N
    · rw [if_pos (by omega), if_pos (by simp [idn_len]; omega)]
      rw [show idn k ++ ([(k : Int)] : List Int) = idn (k + 1) by simp [idn, List.range_succ], show w_i64 ((k : Int) + 1) = ((k + 1 : Nat) : Int) from wsucc (by omega)]
      exact Shuffle_L0 m l hN n (k + 1) (by omega) (by omega)
    · rw [if_neg (by omega)]
      have : k = N := by omega
      rw [this]
theorem Shuffle_L1 (l : List Int) {N : Nat} (hN : N < 1000000) : ∀ (d k : Nat) (left out : List Int), N - k = d → k ≤ N → out.length = k → List.Perm (out ++ left) (idn N) →
    ∃ p, List.Perm p (idn N) ∧ ∀ m n, d < n → sparsekit_Shuffle_L1 m n l (N : Int) left out (k : Int) = some (.inl (p, ()))
  | 0, k, left, out, h, hk, ho, hp => by
    have hlen := hp.length_eq
    rw [List.length_append, idn_len, ho] at hlen
    have : left = [] := List.length_eq_zero_iff.1 (by omega)
    subst this
    refine ⟨out, by simpa using hp, fun m n hn => ?_⟩
    obtain ⟨n, rfl⟩ : ∃ n', n = n' + 1 := ⟨n - 1, by omega⟩
    rw [sparsekit_Shuffle_L1, bif_decide, if_neg (by omega)]
  | d + 1, k, left, out, h, hk, ho, hp => by
    have hlen := hp.length_eq
    rw [List.length_append, idn_len, ho] at hlen
    have step : ∀ a : Nat, a < left.length → ∃ p, List.Perm p (idn N) ∧ ∀ m n, d < n → sparsekit_Shuffle_L1 m n l (N : Int) (left.take a ++ ((left.drop (a + 1)).take (left.length - (a + 1)))) (out ++ ([left.getD a 0] : List Int)) (w_i64 ((k : Int) + 1)) = some (.inl (p, ())) := fun a ha => by
      rw [show w_i64 ((k : Int) + 1) = ((k + 1 : Nat) : Int) from wsucc (by omega)]
      have e1 : (left.drop (a + 1)).take (left.length - (a + 1)) = left.drop (a + 1) := List.take_of_length_le (by simp)
      rw [e1]
      refine Shuffle_L1 l hN d (k + 1) _ _ (by omega) (by omega) (by simp [ho]) (List.Perm.trans ?_ hp)
      have e2 : left = left.take a ++ left.getD a 0 :: left.drop (a + 1) := by
        conv => lhs; rw [← List.take_append_drop a left, drop_cons (d := (0 : Int)) ha]
      conv => rhs; rw [e2]
      rw [List.append_assoc]
      refine List.Perm.append_left _ ?_
      show List.Perm (left.getD a 0 :: (left.take a ++ left.drop (a + 1))) _
      exact List.perm_middle.symm
    by_cases g : (k : Int) < (l.length : Int)
    · obtain ⟨a, ha, ea⟩ := Place_eq (a := l.getD (k : Int).toNat 0) (n := left.length) (by omega) (by omega)
      obtain ⟨p, hp1, hp2⟩ := step a ha
      refine ⟨p, hp1, fun m n hn => ?_⟩
      obtain ⟨n, rfl⟩ : ∃ n', n = n' + 1 := ⟨n - 1, by omega⟩
      rw [sparsekit_Shuffle_L1, bif_decide, bif_decide, if_pos (by omega), if_pos g, if_pos (by omega)]
      rw [ea m]
      simp only [Option.bind_some]
      rw [if_pos (by omega), if_pos (by simp; omega), if_pos (by omega)]
      rw [show w_i64 ((a : Int) + 1) = ((a + 1 : Nat) : Int) from wsucc (by omega)]
      rw [if_pos (by omega), if_pos (by simp; omega)]
      simp only [Int.toNat_natCast, Nat.zero_add, Nat.sub_zero]
      exact hp2 m n (by omega)
    · obtain ⟨p, hp1, hp2⟩ := step 0 (by omega)
      refine ⟨p, hp1, fun m n hn => ?_⟩
      obtain ⟨n, rfl⟩ : ∃ n', n = n' + 1 := ⟨n - 1, by omega⟩
      rw [sparsekit_Shuffle_L1, bif_decide, bif_decide, if_pos (by omega), if_neg g, if_pos (by omega), if_pos (by simp; omega), if_pos (by omega), if_pos (by omega), if_pos (by simp; omega)]
      exact hp2 m n (by omega)
theorem Shuffle_eq (l : List Int) {N : Nat} (hN : N < 1000000) : ∃ p, PermOK N p ∧ ∀ m, N < m → sparsekit_Shuffle m l (N : Int) = some (p, (), (), ()) := by
  obtain ⟨p, h1, h2⟩ := Shuffle_L1 l hN N 0 (idn N) [] (by omega) (by omega) rfl (by simp)
  refine ⟨p, permOK h1, fun m hm => ?_⟩
  have h0 := Shuffle_L0 m l hN m 0 (by omega) (by omega)
  rw [sparsekit_Shuffle, show sparsekit_Shuffle_L0 m m l (N : Int) [] 0 = _ from h0]
  simp only [Option.bind_some]
  rw [show sparsekit_Shuffle_L1 m m l (N : Int) (idn N) [] 0 = _ from h2 m m hm]
  rfl
end Go.Vs.F

/-! TzRb -/
set_option linter.unusedVariables false
set_option linter.unusedSimpArgs false
namespace Go.Vs.F
variable {R C : Nat} {S I V : List Int}
theorem MatOK.asc (hM : MatOK R C S I) {j : Nat} (hj : j < C) : ∀ (d t : Nat), (S.getD j 0).toNat ≤ t → t + (d + 1) < (S.getD (j + 1) 0).toNat → I.getD t 0 < I.getD (t + (d + 1)) 0
  | 0, t, h1, h2 => by
    have := allFrom_iff.1 (hM.ent j hj) (t + 1) (by omega) h2
    simp only [entOK, Bool.and_eq_true, Bool.or_eq_true, decide_eq_true_eq] at this
    have h := this.2
    simp only [Nat.add_sub_cancel] at h
    simp only [Nat.zero_add]
    rcases h with h | h
    · simp only [Bool.not_eq_true', decide_eq_false_iff_not] at h; omega
    · exact h
  | d + 1, t, h1, h2 => by
    have h3 := hM.asc hj d t h1 (by omega)
    have h4 := hM.asc hj 0 (t + (d + 1)) (by omega) (by omega)
    simp only [Nat.zero_add] at h4
    rw [show t + (d + 1 + 1) = t + (d + 1) + 1 by omega]; omega
theorem MatOK.uniq (hM : MatOK R C S I) {j : Nat} (hj : j < C) {t t' : Nat} (h1 : (S.getD j 0).toNat ≤ t) (h2 : t < (S.getD (j + 1) 0).toNat) (h3 : (S.getD j 0).toNat ≤ t') (h4 : t' < (S.getD (j + 1) 0).toNat) (e : I.getD t 0 = I.getD t' 0) : t = t' := by
  rcases Nat.lt_trichotomy t t' with h | h | h
  · have := hM.asc hj (t' - t - 1) t h1 (by omega)
    rw [show t + (t' - t - 1 + 1) = t' by omega] at this; omega
  · exact h
  · have := hM.asc hj (t - t' - 1) t' h3 (by omega)
    rw [show t' + (t - t' - 1 + 1) = t by omega] at this; omega
theorem mem_ents' {x : Ent} : ∀ {d k : Nat}, x ∈ ents S I V d k ↔ ∃ j t, k ≤ j ∧ j < k + d ∧ (S.getD j 0).toNat ≤ t ∧ t < (S.getD (j + 1) 0).toNat ∧ x = (I.getD t 0, (j : Int), V.getD t 0)
  | 0, k => by
    constructor
    · intro h; simp [ents] at h
    · rintro ⟨j, t, h1, h2, _⟩; omega
  | d + 1, k => by
    rw [ents, List.mem_append, mem_ents' (d := d) (k := k + 1)]
    constructor
    · rintro (h | ⟨j, t, h1, h2, h3⟩)
      · unfold entCol at h
        obtain ⟨t, ht, rfl⟩ := List.mem_map.1 h
        rw [List.mem_range'_1] at ht
        exact ⟨k, t, Nat.le_refl _, by omega, ht.1, by omega, rfl⟩
      · exact ⟨j, t, by omega, by omega, h3⟩
    · rintro ⟨j, t, h1, h2, h3, h4, h5⟩
      by_cases e : j = k
      · subst e
        left; unfold entCol
        exact List.mem_map.2 ⟨t, List.mem_range'_1.2 ⟨h3, by omega⟩, h5.symm⟩
      · right; exact ⟨j, t, by omega, by omega, h3, h4, h5⟩
/- A valid square matrix with made values. -/
structure MG (N : Nat) (S I V : List Int) : Prop where
  ok : MatOK N N S I
  vl : V.length = I.length
  chk : chk (N : Int) (N : Int) S I V = 0
  good : ∀ t, t < V.length → GoodV (V.getD t 0)
  il : I.length ≤ 200
def edg1 (j : Nat) (e : Ent) : Option (Int × Int) := if e.2.1 = (j : Int) ∧ (expOf e.2.2).2 = true then some (e.1, (expOf e.2.2).1) else none
def edg (es : List Ent) (j : Nat) : List (Int × Int) := es.filterMap (edg1 j)
theorem edges_L0_ok (m : Nat) {N : Nat} {es : List Ent} (hm : 100 ≤ m) (hg : ∀ e ∈ es, GoodV e.2.2 ∧ 0 ≤ e.2.1 ∧ e.2.1 < (N : Int)) (hl : es.length ≤ 1000) : ∀ (n k : Nat) (out : List (List (Int × Int))), es.length - k < n → k ≤ es.length → out.length = N →
    (∀ j, j < N → out.getD j [] = edg (es.take k) j) →
    ∃ E, transversal_edges_L0 m n out es (es.length : Int) (k : Int) = some (.inl (E, ())) ∧ E.length = N ∧ ∀ j, j < N → E.getD j [] = edg es j
  | 0, k, out, h, _, _, _ => by omega
  | n + 1, k, out, h, hk0, ho, hq => by
    rw [transversal_edges_L0]
    by_cases hk : k < es.length
    · have h1 : ((k : Int) < (es.length : Int)) := by omega
      have c1 : (0 : Int) ≤ (k : Int) ∧ (k : Int) < (es.length : Int) := by omega
      have hmem : es.getD k (0, (0, 0)) ∈ es := getD_mem' hk
      obtain ⟨g, g1, g2⟩ := hg _ hmem
      have htk : es.take (k + 1) = es.take k ++ [es.getD k (0, (0, 0))] := by
        rw [List.take_add_one]
        congr 1
        rw [List.getElem?_eq_getElem hk, List.getD, List.getElem?_eq_getElem hk]; rfl
      have hed : ∀ j, edg (es.take (k + 1)) j = edg (es.take k) j ++ (edg1 j (es.getD k (0, (0, 0)))).toList := fun j => by
        unfold edg; rw [htk, List.filterMap_append]
        congr 1
      simp only [bif_decide, h1, if_true, c1, and_self, Int.toNat_natCast, Nat.zero_add, w_i64_eq, wsucc (show k < 4611686018427387904 by omega)]
      generalize es.getD k (0, (0, 0)) = y at *
      rw [g.float m hm]
      simp only [Option.bind_some]
      rcases Bool.eq_false_or_eq_true (expOf y.2.2).2 with hx | hx
      · rw [hx]
        simp only [cond_true]
        have c2 : (0 : Int) ≤ y.2.1 ∧ y.2.1 < (out.length : Int) := by omega
        have hjN : y.2.1.toNat < N := by omega
        have c3 : (out.getD y.2.1.toNat []).length + ([(y.1, (expOf y.2.2).1)] : List (Int × Int)).length ≤ 1073741824 := by
          rw [hq _ hjN]
          have : (edg (es.take k) y.2.1.toNat).length ≤ (es.take k).length := List.length_filterMap_le ..
          rw [List.length_take] at this
          show _ + 1 ≤ _
          omega
        simp only [c2, c3, and_self, if_true]
        refine edges_L0_ok m hm hg hl n (k + 1) _ (by omega) (by omega) (by simp [ho]) fun j hj => ?_
        rw [hed, getD_set' (by omega)]
        split
        · rename_i e
          rw [hq _ hjN, ← e, edg1, if_pos ⟨by omega, hx⟩]; rfl
        · rename_i e
          rw [hq j hj, edg1, if_neg (fun c => e (by omega))]; simp
      · rw [hx]
        simp only [cond_false]
        refine edges_L0_ok m hm hg hl n (k + 1) _ (by omega) (by omega) ho fun j hj => ?_
        rw [hed, hq j hj, edg1, if_neg (fun c => by rw [hx] at c; cases c.2)]; simp
    · have h1 : ¬ ((k : Int) < (es.length : Int)) := by omega
      simp only [bif_decide, h1, if_false]
      refine ⟨out, rfl, ho, fun j hj => ?_⟩
      rw [hq j hj, List.take_of_length_le (by omega)]
/- An edge: an entry whose value is not zero. -/
theorem mem_edg {N : Nat} (hM : MG N S I V) {j : Nat} (hj : j < N) {x : Int × Int} : x ∈ edg (ents S I V N 0) j ↔ ∃ t, (S.getD j 0).toNat ≤ t ∧ t < (S.getD (j + 1) 0).toNat ∧ x.1 = I.getD t 0 ∧ (expOf (V.getD t 0)).2 = true ∧ x.2 = (expOf (V.getD t 0)).1 := by
  unfold edg
  rw [List.mem_filterMap]
  constructor
  · rintro ⟨e, he, hx⟩
    obtain ⟨j', t, _, _, h1, h2, rfl⟩ := mem_ents'.1 he
    unfold edg1 at hx
    split at hx
    · rename_i c
      obtain ⟨c1, c2⟩ := c
      cases hx
      have : j' = j := by simp only at c1; omega
      subst this
      exact ⟨t, h1, h2, rfl, c2, rfl⟩
    · cases hx
  · rintro ⟨t, h1, h2, h3, h4, h5⟩
    refine ⟨(I.getD t 0, (j : Int), V.getD t 0), mem_ents'.2 ⟨j, t, Nat.zero_le _, by omega, h1, h2, rfl⟩, ?_⟩
    unfold edg1
    rw [if_pos ⟨rfl, h4⟩]
    obtain ⟨x1, x2⟩ := x
    simp only at h3 h5
    rw [h3, h5]
theorem col_lt {N : Nat} (hM : MG N S I V) {j : Nat} (hj : j < N) {t : Nat} (h2 : t < (S.getD (j + 1) 0).toNat) : t < V.length := by
  have := hM.ok.st.rng (j := j + 1) (by omega)
  rw [hM.vl]; omega
theorem ents_good {N : Nat} (hM : MG N S I V) : ∀ e ∈ ents S I V N 0, GoodV e.2.2 ∧ 0 ≤ e.2.1 ∧ e.2.1 < (N : Int) := by
  intro e he
  obtain ⟨j, t, _, h0, h1, h2, rfl⟩ := mem_ents'.1 he
  exact ⟨hM.good t (col_lt hM (by omega) h2), by simp only; omega, by simp only; omega⟩
theorem ents_l {N : Nat} (hM : MG N S I V) : (ents S I V N 0).length ≤ 200 := by
  rw [ents_len hM.ok N 0 (by omega) (by omega)]
  have := hM.ok.st.last
  have := hM.il
  omega
theorem edges_ok (m : Nat) {N : Nat} (hm : 20000 < m) (hM : MG N S I V) : ∃ E, transversal_edges m (N : Int) (N : Int) S I V = some (E, (), ()) ∧ EOK N E ∧ ∀ j, j < N → E.getD j [] = edg (ents S I V N 0) j := by
  have hN := hM.ok.cz
  have hsl : S.length ≤ 201 := by rw [hM.ok.st.len]; omega
  have hvl : V.length ≤ 200 := by rw [hM.vl]; exact hM.il
  rw [transversal_edges, matrix_Entries, matrix_Check_eq (by omega) (by omega) (by omega) (by omega) (by omega), hM.chk]
  have c1 : (0 : Int) ≤ (N : Int) ∧ (N : Int) ≤ (N : Int) ∧ (N : Int) ≤ 1073741824 := by omega
  have hel := ents_l hM
  obtain ⟨E, e, h1, h2⟩ := edges_L0_ok m (es := ents S I V N 0) (by omega) (ents_good hM) (by omega) m 0 (List.replicate N []) (by omega) (by omega) (by simp) (fun j hj => by rw [getD_replicate hj]; rfl)
  rw [Int.natCast_zero] at e
  simp only [c1, and_self, if_true, Option.bind_some, bif_ne, mEntries_eq hm hM.ok hM.vl, Int.toNat_natCast, e]
  refine ⟨E, rfl, ?_, h2⟩
  have hz : ∀ j, ¬ j < N → E.getD j [] = [] := fun j hj => getD_ge (by omega)
  have hmem : ∀ j, ∀ x ∈ E.getD j [], j < N ∧ ∃ t, (S.getD j 0).toNat ≤ t ∧ t < (S.getD (j + 1) 0).toNat ∧ x.1 = I.getD t 0 ∧ (expOf (V.getD t 0)).2 = true ∧ x.2 = (expOf (V.getD t 0)).1 := fun j x hx => by
    by_cases hj : j < N
    · rw [h2 j hj] at hx
      exact ⟨hj, (mem_edg hM hj).1 hx⟩
    · rw [hz j hj] at hx; cases hx
  refine ⟨h1, hN, fun j x hx => ?_, fun j x hx => ?_, fun j => ?_, fun j x hx y hy e => ?_⟩
  · obtain ⟨hj, t, q1, q2, q3, _⟩ := hmem j x hx
    rw [q3]; exact hM.ok.row hj q1 q2
  · obtain ⟨hj, t, q1, q2, q3, q4, q5⟩ := hmem j x hx
    have := hM.good t (col_lt hM hj q2)
    rw [q5]; exact ⟨this.lo, this.hi⟩
  · by_cases hj : j < N
    · rw [h2 j hj]
      have : (edg (ents S I V N 0) j).length ≤ (ents S I V N 0).length := List.length_filterMap_le ..
      omega
    · rw [hz j hj]; simp
  · obtain ⟨hj, t, q1, q2, q3, q4, q5⟩ := hmem j x hx
    obtain ⟨_, t', r1, r2, r3, r4, r5⟩ := hmem j y hy
    have := hM.ok.uniq hj q1 q2 r1 r2 (by rw [← q3, ← r3, e])
    subst this
    rw [q5, r5]
/- Maximum, as a whole. -/
theorem Maximum_ok (m : Nat) {N : Nat} (hm : 200000000 < m) (hN5 : N ≤ 5) (hM : MG N S I V) {E : Edges} (hE : ∀ j, j < N → E.getD j [] = edg (ents S I V N 0) j) (hEl : E.length = N) :
    (∃ row U W, transversal_Maximum m (N : Int) (N : Int) S I V = some (((row, U, W, ()), 0, ()), (), ()) ∧ Tv N E row U W) ∨
    (transversal_Maximum m (N : Int) (N : Int) S I V = some ((([], [], [], ()), 9, ()), (), ()) ∧ ∀ s, ¬ Trv N E s) := by
  have hN := hM.ok.cz
  have hsl : S.length ≤ 201 := by rw [hM.ok.st.len]; omega
  have hvl : V.length ≤ 200 := by rw [hM.vl]; exact hM.il
  obtain ⟨E', e, hE', hq⟩ := edges_ok m (by omega) hM
  have : E' = E := ext_getD [] (by rw [hE'.len, hEl]) fun k hk => by rw [hq k (by rw [hE'.len] at hk; exact hk), hE k (by rw [hE'.len] at hk; exact hk)]
  subst this
  rw [transversal_Maximum, transversal_square, matrix_Check_eq (by omega) (by omega) (by omega) (by omega) (by omega), hM.chk]
  simp only [Option.bind_some, bif_eq, bif_ne, if_true, e]
  rcases best_ok m (by omega) hE' hN5 with ⟨u, v, row, col, e2, B⟩ | ⟨e2, hno⟩
  · rw [e2]
    simp only [Option.bind_some]
    obtain ⟨row', col', e3, hP, ht⟩ := least_ok m (by omega) hE' B
    rw [e3]
    simp only [Option.bind_some]
    obtain ⟨U, W, e4, hT⟩ := duals_ok m hm hN5 hE' hP ht B.vb B.mt.feas
    rw [e4]
    simp only [Option.bind_some]
    exact .inl ⟨row', U, W, rfl, hT⟩
  · rw [e2]
    exact .inr ⟨rfl, hno⟩
end Go.Vs.F

/-! TzRc -/
set_option linter.unusedVariables false
set_option linter.unusedSimpArgs false
set_option maxRecDepth 100000
namespace Go.Vs.F
variable {S I V : List Int} {N : Nat}
theorem good_zero : GoodV 0 := expB_good (by decide) fun j => by kernel_rfl
theorem exp_zero : (expOf 0).2 = false := by kernel_rfl
theorem At_L0_ok (m : Nat) (hM : MG N S I V) {j : Nat} (hj : j < N) (i : Int) : ∀ (n k : Nat), (S.getD (j + 1) 0).toNat - k < n → k ≤ 100000 →
    (∃ t, k ≤ t ∧ t < (S.getD (j + 1) 0).toNat ∧ I.getD t 0 = i ∧ sparseref09_At_L0 m n i (j : Int) (N : Int) (N : Int) S I V (k : Int) = some (.inl (V.getD t 0, ()))) ∨
    ((∀ t, k ≤ t → t < (S.getD (j + 1) 0).toNat → I.getD t 0 ≠ i) ∧ sparseref09_At_L0 m n i (j : Int) (N : Int) (N : Int) S I V (k : Int) = some (.inr (.inl ())))
  | 0, k, h, _ => by omega
  | n + 1, k, h, hkb => by
    have hl := hM.ok.st.len
    have hc := hM.ok.cz
    have hv := hM.vl
    have hil := hM.il
    have b := hM.ok.st.rng (j := j + 1) (by omega)
    rw [sparseref09_At_L0]
    have c1 : (0 : Int) ≤ ((j + 1 : Nat) : Int) ∧ ((j + 1 : Nat) : Int) < (S.length : Int) := by omega
    simp only [w_i64_eq, wsucc (show j < 4611686018427387904 by omega), c1, and_self, if_true, Int.toNat_natCast, bif_decide]
    by_cases hk : k < (S.getD (j + 1) 0).toNat
    · have h1 : ((k : Int) < S.getD (j + 1) 0) := by omega
      have c2 : (0 : Int) ≤ (k : Int) ∧ (k : Int) < (I.length : Int) := by omega
      have c3 : (0 : Int) ≤ (k : Int) ∧ (k : Int) < (V.length : Int) := by omega
      simp only [h1, if_true, c2, c3, and_self, bif_eq, wsucc (show k < 4611686018427387904 by omega)]
      by_cases hi : I.getD k 0 = i
      · rw [if_pos hi]
        exact .inl ⟨k, Nat.le_refl _, hk, hi, rfl⟩
      · rw [if_neg hi]
        rcases At_L0_ok m hM hj i n (k + 1) (by omega) (by omega) with ⟨t, h1, h2, h3, h4⟩ | ⟨h1, h2⟩
        · exact .inl ⟨t, by omega, h2, h3, h4⟩
        · refine .inr ⟨fun t q1 q2 => ?_, h2⟩
          by_cases e : t = k
          · subst e; exact hi
          · exact h1 t (by omega) q2
    · have h1 : ¬ ((k : Int) < S.getD (j + 1) 0) := by omega
      simp only [h1, if_false]
      exact .inr ⟨fun t q1 q2 => by omega, trivial⟩
theorem At_ok (m : Nat) (hm : 20000 < m) (hM : MG N S I V) {j : Nat} (hj : j < N) (i : Int) : ∃ v, sparseref09_At m (N : Int) (N : Int) S I V i (j : Int) = some (v, (), (), (), ()) ∧ GoodV v ∧
    ((expOf v).2 = true → (i, (expOf v).1) ∈ edg (ents S I V N 0) j) ∧ ((expOf v).2 = false → ∀ x ∈ edg (ents S I V N 0) j, x.1 ≠ i) := by
  have hl := hM.ok.st.len
  have hc := hM.ok.cz
  have hvl : V.length ≤ 200 := by rw [hM.vl]; exact hM.il
  have hil := hM.il
  have a := hM.ok.st.rng (j := j) (by omega)
  have b := hM.ok.st.rng (j := j + 1) (by omega)
  have h1 : ¬ ((j : Int) < 0) := by omega
  have h2 : ¬ ((j : Int) ≥ (N : Int)) := by omega
  have c1 : (0 : Int) ≤ (j : Int) ∧ (j : Int) < (S.length : Int) := by omega
  rw [sparseref09_At, ref_Check_eq (by omega) (by omega) (by omega), hM.chk]
  simp only [Option.bind_some, bif_ne, if_true, bif_decide, h1, h2, if_false, c1, and_self, Int.toNat_natCast]
  have h := At_L0_ok m hM hj i m (S.getD j 0).toNat (by omega) (by omega)
  rw [show (((S.getD j 0).toNat : Nat) : Int) = S.getD j 0 by omega] at h
  rcases h with ⟨t, q1, q2, q3, e⟩ | ⟨q, e⟩
  · rw [e]
    refine ⟨V.getD t 0, rfl, hM.good t (col_lt hM hj q2), fun hx => (mem_edg hM hj).2 ⟨t, q1, q2, q3.symm, hx, rfl⟩, fun hx x hxm e => ?_⟩
    obtain ⟨t', r1, r2, r3, r4, _⟩ := (mem_edg hM hj).1 hxm
    have := hM.ok.uniq hj q1 q2 r1 r2 (by rw [q3, ← r3, e])
    subst this
    rw [hx] at r4; cases r4
  · rw [e]
    refine ⟨0, rfl, good_zero, (fun hx => by rw [exp_zero] at hx; cases hx), fun _ x hxm e => ?_⟩
    obtain ⟨t', r1, r2, r3, r4, _⟩ := (mem_edg hM hj).1 hxm
    exact q t' r1 r2 (by rw [← r3, e])
theorem weight_L0_ok (m : Nat) (hm : 20000 < m) (hM : MG N S I V) {l : List Int} (hl : l.length = N) : ∀ (n k : Nat) (acc : Int) (f : Nat → Int), N - k < n → k ≤ N → (∀ j, j < k → (l.getD j 0, f j) ∈ edg (ents S I V N 0) j) → acc = sm f k → -(40 * (k : Int)) ≤ acc → acc ≤ 40 * (k : Int) →
    (∃ g, sparselaw14_weight_L0 m n l (N : Int) (N : Int) S I V acc (k : Int) = some (.inr (.inl (sm g N, ()))) ∧ ∀ j, j < N → (l.getD j 0, g j) ∈ edg (ents S I V N 0) j) ∨
    (sparselaw14_weight_L0 m n l (N : Int) (N : Int) S I V acc (k : Int) = some (.inl (0, false, ())) ∧ ∃ j, j < N ∧ ∀ x ∈ edg (ents S I V N 0) j, x.1 ≠ l.getD j 0)
  | 0, k, acc, f, h, _, _, _, _, _ => by omega
  | n + 1, k, acc, f, h, hk0, hf, ha, hb1, hb2 => by
    have hc := hM.ok.cz
    rw [sparselaw14_weight_L0]
    by_cases hk : k < N
    · have h1 : ((k : Int) < (l.length : Int)) := by omega
      have c1 : (0 : Int) ≤ (k : Int) ∧ (k : Int) < (l.length : Int) := by omega
      obtain ⟨v, e, g, g1, g2⟩ := At_ok m hm hM hk (l.getD k 0)
      obtain ⟨x, ex, hx⟩ := g.ref m (by omega)
      simp only [bif_decide, h1, if_true, c1, and_self, Int.toNat_natCast, e, Option.bind_some, ex, w_i64_eq, wsucc (show k < 4611686018427387904 by omega)]
      rcases Bool.eq_false_or_eq_true (expOf v).2 with hv | hv
      · rw [hv]
        simp only [Bool.not_true, cond_false]
        rw [hx hv]
        have lo := g.lo
        have hi := g.hi
        rw [wi (by omega) (by omega)]
        have hfk : ∀ j, j < k → (fun j => if j = k then (expOf v).1 else f j) j = f j := fun j hj => by simp only; rw [if_neg (by omega)]
        refine weight_L0_ok m hm hM hl n (k + 1) _ (fun j => if j = k then (expOf v).1 else f j) (by omega) (by omega) (fun j hj => ?_) ?_ (by omega) (by omega)
        · by_cases e : j = k
          · subst e; rw [if_pos rfl]; exact g1 hv
          · rw [if_neg e]; exact hf j (by omega)
        · simp only [sm]
          rw [sm_congr hfk, if_pos trivial, ha]
      · rw [hv]
        simp only [Bool.not_false, cond_true]
        exact .inr ⟨trivial, k, hk, g2 hv⟩
    · have h1 : ¬ ((k : Int) < (l.length : Int)) := by omega
      simp only [bif_decide, h1, if_false]
      have : k = N := by omega
      subst this
      exact .inl ⟨f, by rw [ha], hf⟩
theorem weight_ok (m : Nat) (hm : 20000 < m) (hM : MG N S I V) {l : List Int} (hl : l.length = N) :
    (∃ g, sparselaw14_weight m (N : Int) (N : Int) S I V l = some ((sm g N, true, ()), (), (), ()) ∧ ∀ j, j < N → (l.getD j 0, g j) ∈ edg (ents S I V N 0) j) ∨
    (sparselaw14_weight m (N : Int) (N : Int) S I V l = some ((0, false, ()), (), (), ()) ∧ ∃ j, j < N ∧ ∀ x ∈ edg (ents S I V N 0) j, x.1 ≠ l.getD j 0) := by
  have hc := hM.ok.cz
  rw [sparselaw14_weight]
  rcases weight_L0_ok m hm hM hl m 0 0 (fun _ => 0) (by omega) (by omega) (fun j hj => by omega) rfl (by omega) (by omega) with ⟨g, e, h⟩ | ⟨e, h⟩
  · rw [Int.natCast_zero] at e
    rw [e]; exact .inl ⟨g, rfl, h⟩
  · rw [Int.natCast_zero] at e
    rw [e]; exact .inr ⟨rfl, h⟩
/-! ### Sums over orders -/
def sumL : List Int → Int
  | [] => 0
  | x :: xs => x + sumL xs
theorem sumL_app : ∀ {a b : List Int}, sumL (a ++ b) = sumL a + sumL b
  | [], b => by simp [sumL]
  | x :: a, b => by simp only [List.cons_append, sumL, sumL_app (a := a)]; omega
theorem sumL_perm {a b : List Int} (h : List.Perm a b) : sumL a = sumL b := by
  induction h with
  | nil => rfl
  | cons x _ ih => simp only [sumL, ih]
  | swap x y l => simp only [sumL]; omega
  | trans _ _ i1 i2 => rw [i1, i2]
theorem sm_sumL {f : Nat → Int} : ∀ {n : Nat}, sm f n = sumL ((List.range n).map f)
  | 0 => rfl
  | n + 1 => by
    rw [List.range_succ, List.map_append, sumL_app, ← sm_sumL]
    simp only [sm, List.map_cons, List.map_nil, sumL]; omega
theorem sm_perm {p : Nat → Nat} {g : Nat → Int} {n : Nat} (hp : ∀ j, j < n → p j < n) (hi : ∀ j k, j < n → k < n → p j = p k → j = k) : sm (fun j => g (p j)) n = sm g n := by
  rw [sm_sumL, sm_sumL, show (fun j => g (p j)) = g ∘ p from rfl, ← List.map_map]
  refine sumL_perm (List.Perm.map _ ?_)
  have hnd : ((List.range n).map p).Nodup := nodup_mapf (fun a ha b hb e => hi a b (List.mem_range.1 ha) (List.mem_range.1 hb) e) List.nodup_range
  refine (List.perm_ext_iff_of_nodup hnd List.nodup_range).2 fun a => ?_
  constructor
  · intro h
    obtain ⟨j, hj, rfl⟩ := List.mem_map.1 h
    exact List.mem_range.2 (hp j (List.mem_range.1 hj))
  · intro h
    refine Classical.byContradiction fun hn => ?_
    have := nodup_len (l := a :: (List.range n).map p) (l' := List.range n) (List.nodup_cons.2 ⟨hn, hnd⟩) (fun x hx => by
      rcases List.mem_cons.1 hx with rfl | hx
      · exact h
      · obtain ⟨j, hj, rfl⟩ := List.mem_map.1 hx
        exact List.mem_range.2 (hp j (List.mem_range.1 hj)))
    simp at this
    omega
theorem sm_add {f g : Nat → Int} : ∀ {n : Nat}, sm (fun i => f i + g i) n = sm f n + sm g n
  | 0 => rfl
  | n + 1 => by simp only [sm, sm_add (n := n)]; omega
/-! ### Perm -/
theorem Perm_L0_ok (m : Nat) {l : List Int} (hl : l.length = N) (hN : N ≤ 1000) (hr : ∀ j, j < N → 0 ≤ l.getD j 0 ∧ l.getD j 0 < (N : Int)) (hi : ∀ j k, j < N → k < N → l.getD j 0 = l.getD k 0 → j = k) : ∀ (n k : Nat) (seen : List Bool), N - k < n → seen.length = N →
    (∀ i, seen.getD i false = true → ∃ j, j < k ∧ l.getD j 0 = (i : Int)) → sparsekit_Perm_L0 m n l (N : Int) seen (k : Int) = some (.inr (.inl ()))
  | 0, k, seen, h, _, _ => by omega
  | n + 1, k, seen, h, hs, hq => by
    rw [sparsekit_Perm_L0]
    by_cases hk : k < N
    · have h1 : ((k : Int) < (N : Int)) := by omega
      obtain ⟨r1, r2⟩ := hr k hk
      have c1 : (0 : Int) ≤ (k : Int) ∧ (k : Int) < (l.length : Int) := by omega
      have h2 : ¬ (l.getD k 0 < 0) := by omega
      have h3 : ¬ (l.getD k 0 ≥ (N : Int)) := by omega
      have c2 : (0 : Int) ≤ l.getD k 0 ∧ l.getD k 0 < (seen.length : Int) := by omega
      have h4 : seen.getD (l.getD k 0).toNat false = false := by
        rcases Bool.eq_false_or_eq_true (seen.getD (l.getD k 0).toNat false) with h | h
        · obtain ⟨j, hj, e⟩ := hq _ h
          have := hi j k (by omega) hk (by omega)
          omega
        · exact h
      simp only [bif_decide, h1, if_true, c1, c2, and_self, Int.toNat_natCast, h2, h3, if_false, Nat.zero_add, h4, cond_false, w_i64_eq, wsucc (show k < 4611686018427387904 by omega)]
      refine Perm_L0_ok m hl hN hr hi n (k + 1) _ (by omega) (by simp [hs]) fun i h => ?_
      rw [getD_set' (by omega)] at h
      split at h
      · rename_i e; exact ⟨k, by omega, by omega⟩
      · obtain ⟨j, hj, e⟩ := hq i h
        exact ⟨j, by omega, e⟩
    · have h1 : ¬ ((k : Int) < (N : Int)) := by omega
      simp only [bif_decide, h1, if_false]
theorem Perm_ok (m : Nat) (hm : 20000 < m) {l : List Int} (hl : l.length = N) (hN : N ≤ 1000) (hr : ∀ j, j < N → 0 ≤ l.getD j 0 ∧ l.getD j 0 < (N : Int)) (hi : ∀ j k, j < N → k < N → l.getD j 0 = l.getD k 0 → j = k) :
    sparsekit_Perm m l (N : Int) = some (true, (), (), ()) := by
  rw [sparsekit_Perm]
  have e := Perm_L0_ok m hl hN hr hi m 0 (List.replicate N false) (by omega) (by simp) (fun i h => by
    by_cases hi : i < N
    · rw [getD_replicate hi] at h; cases h
    · rw [getD_ge (by simpa using hi)] at h; cases h)
  rw [Int.natCast_zero] at e
  have c1 : (0 : Int) ≤ (N : Int) ∧ (N : Int) ≤ (N : Int) ∧ (N : Int) ≤ 1073741824 := by omega
  simp only [bif_ne, hl, if_true, c1, and_self, Int.toNat_natCast, e, Option.bind_some]
/-! ### Made matrices are good -/
theorem colV_good {es : List Ent} {r c : Nat} (hE : EntsOK r c es) {j i d : Nat} {x : Int} (h : x ∈ colV es j i d) : GoodV x := by
  obtain ⟨i', h1, h2⟩ := List.mem_map.1 h
  have h3 := List.mem_filter.1 h1
  have h4 := of_decide_eq_true h3.2
  have h5 := lastIx_le es i' j es.length
  rw [← h2]; exact (hE _ (by omega)).2.2
theorem packV_good {es : List Ent} {r c : Nat} (hE : EntsOK r c es) {x : Int} : ∀ j, x ∈ packV es r j → GoodV x
  | 0, h => by cases h
  | j + 1, h => by
    rcases List.mem_append.1 h with h | h
    · exact packV_good hE j h
    · exact colV_good hE h
theorem pack_MG {es : List Ent} (hE : EntsOK N N es) (hN : N ≤ 5) : MG N (packS es N N) (packI es N N) (packV es N N) := by
  have h25 : N * N ≤ 5 * 5 := Nat.mul_le_mul hN hN
  refine ⟨pack_ok (by omega) (by omega) (by omega), packV_len _ _ _, pack_chk hE (by omega) (by omega) (by omega), fun t ht => packV_good hE N (getD_mem' ht), ?_⟩
  have := packI_len es N N
  omega
theorem awake14 (k : Nat) : sparselaw14_awake (k + 100) = some (true, ()) := by rfl
theorem awakeT {m : Nat} (h : 100 ≤ m) : sparselaw14_awake m = some (true, ()) := by
  obtain ⟨k, rfl⟩ : ∃ k, m = k + 100 := ⟨m - 100, by omega⟩
  exact awake14 k
end Go.Vs.F

/-! TzSa -/
set_option linter.unusedVariables false
set_option linter.unusedSimpArgs false
set_option maxRecDepth 100000
namespace Go.Vs.F
theorem Greatest14_L0 (m : Nat) {N : Nat} {a : List Int} {U V : List Int} {x y : Int} {b c : Bool} (hN : N ≤ 5) (hu : U.length = N) (hv : V.length = N) (hub : ∀ j, -20000040 ≤ U.getD j 0 ∧ U.getD j 0 ≤ 40) (hvn : ∀ j, 0 ≤ V.getD j 0) (hvb : ∀ j, V.getD j 0 ≤ 20000000) :
    ∀ (n k : Nat) (acc : Int), N - k < n → k ≤ N → acc = sm (fun i => U.getD i 0 + V.getD i 0) k → -(100000000 * (k : Int)) ≤ acc → acc ≤ 100000000 * (k : Int) →
    sparselaw14_TransversalGreatest_L0 m n (N : Int) a U V x b y c acc (k : Int) = some (.inl (x, b, y, c, sm (fun i => U.getD i 0 + V.getD i 0) N, ()))
  | 0, k, acc, h, _, _, _, _ => by omega
  | n + 1, k, acc, h, hk0, ha, h1, h2 => by
    rw [sparselaw14_TransversalGreatest_L0]
    by_cases hk : k < N
    · have l1 : ((k : Int) < (N : Int)) := by omega
      have c1 : (0 : Int) ≤ (k : Int) ∧ (k : Int) < (U.length : Int) := by omega
      have c2 : (0 : Int) ≤ (k : Int) ∧ (k : Int) < (V.length : Int) := by omega
      have g1 := hub k
      have g2 := hvn k
      have g3 := hvb k
      have w1 : IntKind.wrap .i64 (acc + U.getD k 0) = acc + U.getD k 0 := wi (by omega) (by omega)
      have w2 : IntKind.wrap .i64 (acc + U.getD k 0 + V.getD k 0) = acc + U.getD k 0 + V.getD k 0 := wi (by omega) (by omega)
      simp only [bif_decide, l1, if_true, c1, c2, and_self, Int.toNat_natCast, Nat.zero_add, w_i64_eq, w1, w2, wsucc (show k < 4611686018427387904 by omega)]
      refine Greatest14_L0 m hN hu hv hub hvn hvb n (k + 1) _ (by omega) (by omega) ?_ (by omega) (by omega)
      simp only [sm]; omega
    · have l1 : ¬ ((k : Int) < (N : Int)) := by omega
      have : k = N := by omega
      subst this
      simp only [bif_decide, l1, if_false]
      rw [ha]
theorem TransversalGreatest_law (x1 x2 x3 : _) : ∃ m, sparselaw14_TransversalGreatest m x1 x2 x3 = some (true, (), (), (), ()) := by
  refine ⟨300000000, ?_⟩
  rw [sparselaw14_TransversalGreatest]
  generalize hm : (300000000 : Nat) = m
  have hm1 : 200000000 < m := by omega
  clear hm
  rw [bif_decide]
  by_cases hl : (x2.length : Int) > 60
  · rw [if_pos hl, awakeT (by omega)]; rfl
  rw [if_neg hl]
  obtain ⟨N, hN, eP⟩ := Place_eq (a := x1) (n := 6) (by omega) (by omega)
  rw [show sparsekit_Place m x1 6 = some ((N : Int), (), (), ()) from eP m]
  simp only [Option.bind_some]
  obtain ⟨es, hE, _, _, eS⟩ := Square_eq (N := N) (l := x2) (by omega) (by omega)
  rw [eS m (by omega)]
  simp only [Option.bind_some]
  have hM := pack_MG hE (show N ≤ 5 by omega)
  obtain ⟨E, eE, hEO, hEd⟩ := edges_ok m (by omega) hM
  obtain ⟨p, hp, eS2⟩ := Shuffle_eq x3 (N := N) (by omega)
  rcases Maximum_ok m hm1 (by omega) hM hEd hEO.len with ⟨row, U, W, eM, T⟩ | ⟨eM, hno⟩
  · rw [eM]
    simp only [Option.bind_some]
    rw [eS2 m (by omega)]
    simp only [Option.bind_some]
    have tg : ∀ j, j < N → ∀ x ∈ edg (ents (packS es N N) (packI es N N) (packV es N N) N 0) j, x.2 ≤ U.getD x.1.toNat 0 + W.getD j 0 := fun j hj x hx => T.feas j hj x (by rw [hEd j hj]; exact hx)
    have eP2 := Perm_ok m (by omega) T.rl (by omega) T.rr T.inj
    have hsum : ∀ q : List Int, (∀ j, j < N → 0 ≤ q.getD j 0 ∧ q.getD j 0 < (N : Int)) → (∀ j k, j < N → k < N → q.getD j 0 = q.getD k 0 → j = k) → sm (fun j => U.getD (q.getD j 0).toNat 0 + W.getD j 0) N = sm (fun i => U.getD i 0 + W.getD i 0) N := fun q h1 h2 => by
      rw [sm_add, sm_add, sm_perm (p := fun j => (q.getD j 0).toNat) (g := fun i => U.getD i 0) (fun j hj => by have := h1 j hj; omega) (fun j k hj hk e => h2 j k hj hk (by have := h1 j hj; have := h1 k hk; omega))]
    have hbest : ∀ g, (∀ j, j < N → (row.getD j 0, g j) ∈ edg (ents (packS es N N) (packI es N N) (packV es N N) N 0) j) → sm g N = sm (fun i => U.getD i 0 + W.getD i 0) N := fun g hg => by
      rw [← hsum row T.rr T.inj]
      refine sm_congr fun j hj => ?_
      obtain ⟨x, hx, h1, h2⟩ := T.tight j hj
      have hgj := hg j hj
      rw [← hEd j hj] at hgj
      have := hEO.fn j _ hgj x hx (by simp only; exact h1.symm)
      simp only at this
      rw [this, h2, h1]
    have hle : ∀ g, (∀ j, j < N → (p.getD j 0, g j) ∈ edg (ents (packS es N N) (packI es N N) (packV es N N) N 0) j) → sm g N ≤ sm (fun i => U.getD i 0 + W.getD i 0) N := fun g hg => by
      rw [← hsum p hp.rng hp.inj]
      exact sm_le fun j hj => tg j hj _ (hg j hj)
    rcases weight_ok m (by omega) hM T.rl with ⟨g, eg, hg⟩ | ⟨_, j, hj, hj2⟩
    · have hb := hbest g hg
      have eL := fun x b => Greatest14_L0 m (a := row) (x := x) (b := b) (y := sm g N) (c := true) (by omega) T.ul T.vl T.ub T.vn T.vb m 0 0 (by omega) (by omega) rfl (by omega) (by omega)
      simp only [Int.natCast_zero] at eL
      have u1 : (U.length : Int) = (N : Int) := by rw [T.ul]
      have u2 : (W.length : Int) = (N : Int) := by rw [T.vl]
      rcases weight_ok m (by omega) hM hp.len with ⟨f, ef, hf⟩ | ⟨ef, _⟩
      · have hl := hle f hf
        rw [ef]
        simp only [Option.bind_some, bif_eq, bif_ne, eP2, Bool.not_true, cond_false, u1, u2, if_true, eg, eL, cond_true, bif_decide]
        rw [if_neg (by omega), if_pos (by omega), if_pos hb.symm, awakeT (by omega)]
        rfl
      · rw [ef]
        simp only [Option.bind_some, bif_eq, bif_ne, eP2, Bool.not_true, cond_false, u1, u2, if_true, eg, eL, cond_true, bif_decide, Bool.not_false]
        rw [if_neg (by omega), if_pos hb.symm, awakeT (by omega)]
        rfl
    · obtain ⟨x, hx, h1, _⟩ := T.tight j hj
      rw [hEd j hj] at hx
      exact absurd h1 (hj2 x hx)
  · rw [eM]
    simp only [Option.bind_some]
    rw [eS2 m (by omega)]
    simp only [Option.bind_some]
    rcases weight_ok m (by omega) hM hp.len with ⟨f, ef, hf⟩ | ⟨ef, _⟩
    · exfalso
      refine hno (fun j => (p.getD j 0).toNat) ⟨fun j hj => ⟨_, by rw [hEd j hj]; exact hf j hj, rfl⟩, fun j k hj hk e => hp.inj j k hj hk ?_⟩
      have := hp.rng j hj
      have := hp.rng k hk
      simp only at e
      omega
    · rw [ef]
      simp only [Option.bind_some, bif_eq, if_true, Bool.not_false, cond_true]
      rw [awakeT (by omega)]
      rfl
end Go.Vs.F
