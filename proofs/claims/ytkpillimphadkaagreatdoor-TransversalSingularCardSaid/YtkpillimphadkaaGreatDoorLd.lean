/- The document's check and entries, the entries of the program, orders made of numbers (turned from the matching laws). The edges of a matrix with made values; the weight of an order. The weight of an order; sums over orders; what is made is good. The law TransversalSingular. -/
import Derived.Test.YtkpillimphadkaaGreatDoorLb
import Derived.Test.YtkpillimphadkaaGreatDoorLc

/-! TzRa -/
set_option linter.unusedVariables false
set_option linter.unusedSimpArgs false
set_option maxRecDepth 100000
namespace Go.Vs.F
variable {R C : Nat} {S I V : List Int}
theorem Finite_L0 (m : Nat) (a : List Int) (hb : a.length < 4611686018427387904) : ∀ (n k : Nat), a.length - k < n →
    g43_L0 m n a (k : Int) = some (bif allFrom (fun i => finB (a.getD i 0)) k a.length then .inr (.inl ()) else .inl (false, ()))
  | 0, k, h => by omega
  | n + 1, k, h => by
    rw [g43_L0]
    by_cases hk : k < a.length
    · have h1 : ((k : Int) < (a.length : Int)) := by omega
      simp only [bif_decide, h1, if_true, Int.toNat_natCast, Int.natCast_nonneg, and_self, wsucc (show k < 4611686018427387904 by omega), g66, Option.bind_some]
      rw [allFrom_step hk, Finite_L0 m a hb n (k + 1) (by omega)]
      show (bif !(finB (a.getD k 0)) then _ else _) = _
      cases finB (a.getD k 0) <;> simp
    · have h1 : ¬ ((k : Int) < (a.length : Int)) := by omega
      simp only [bif_decide, h1, if_false]
      rw [allFrom_end hk]; rfl
theorem Finite_eq {m : Nat} {a : List Int} (h : a.length < m) (hb : a.length < 4611686018427387904) : g43 m a = some (finL a, (), ()) := by
  rw [g43]
  have := Finite_L0 m a hb m 0 (by omega)
  simp only [Int.cast_ofNat_Int, Int.natCast_zero, Int.ofNat_zero] at this
  rw [this]
  unfold finL
  cases allFrom (fun i => finB (a.getD i 0)) 0 a.length <;> rfl
theorem refCheck_L0 (m : Nat) (R C : Int) (c : Nat) (S I V : List Int) (hC : C = (c : Int)) (hl : S.length = c + 1) (hc : c < 4611686018427387904) : ∀ (n k : Nat), c - k < n → k ≤ c →
    g28_L0 m n R C S I V (k : Int) = some (bif allFrom (le2 S) k c then .inr (.inl ((R, C, S, I, V, ()), ())) else .inl (1, ()))
  | 0, k, h, _ => by omega
  | n + 1, k, h, h0 => by
    rw [g28_L0]
    subst hC
    by_cases hk : k < c
    · have h1 : ((k : Int) < (c : Int)) := by omega
      have h2 : ((k : Int) < (S.length : Int)) := by omega
      have h3 : (((k + 1 : Nat) : Int) < (S.length : Int)) := by omega
      simp only [bif_decide, h1, h2, h3, if_true, Int.toNat_natCast, Int.natCast_nonneg, and_self, wsucc (show k < 4611686018427387904 by omega)]
      rw [refCheck_L0 m R (c : Int) c S I V rfl hl hc n (k + 1) (by omega) (by omega), allFrom_step hk, le2]
      by_cases hx : S.getD k 0 > S.getD (k + 1) 0
      · have : ¬ S.getD k 0 ≤ S.getD (k + 1) 0 := by omega
        simp [-List.getD_eq_getElem?_getD, hx, this]
      · have : S.getD k 0 ≤ S.getD (k + 1) 0 := by omega
        simp [-List.getD_eq_getElem?_getD, hx, this]
    · have h1 : ¬ ((k : Int) < (c : Int)) := by omega
      simp only [bif_decide, h1, if_false]
      rw [allFrom_end hk]; rfl
theorem refCheck_L2 (m : Nat) (R C : Int) (c j : Nat) (S I V : List Int) (hC : C = (c : Int)) (hok : StartOK c S I) (hj : j < c) (hc : c < 4611686018427387904) (hb : I.length < 4611686018427387904) : ∀ (n k : Nat), (S.getD (j + 1) 0).toNat - k < n → (S.getD j 0).toNat ≤ k →
    g28_L2 m n R C S I V (j : Int) (k : Int) = some (bif allFrom (entOK R S I j) k (S.getD (j + 1) 0).toNat then .inr (.inl ((R, C, S, I, V, ()), (j : Int), ())) else .inl (1, ()))
  | 0, k, h, _ => by omega
  | n + 1, k, h, h0 => by
    rw [g28_L2]
    subst hC
    have hl := hok.len
    have a := hok.rng (j := j) (by omega)
    have b := hok.rng (j := j + 1) (by omega)
    have h2 : ((j : Int) < (S.length : Int)) := by omega
    have h3 : (((j + 1 : Nat) : Int) < (S.length : Int)) := by omega
    simp only [bif_decide, h2, h3, if_true, Int.toNat_natCast, Int.natCast_nonneg, and_self, wsucc (show j < 4611686018427387904 by omega)]
    by_cases hk : k < (S.getD (j + 1) 0).toNat
    · have h1 : ((k : Int) < S.getD (j + 1) 0) := by omega
      have h4 : ((k : Int) < (I.length : Int)) := by omega
      simp only [h1, h4, if_true, and_self, wsucc (show k < 4611686018427387904 by omega)]
      rw [refCheck_L2 m R (c : Int) c j S I V rfl hok hj hc hb n (k + 1) (by omega) (by omega), allFrom_step hk, entOK]
      by_cases e1 : I.getD k 0 < 0
      · have e2 : ¬ 0 ≤ I.getD k 0 := by omega
        simp only [e1, e2, if_true, decide_false, Bool.false_and, cond_false]
      · have e2 : 0 ≤ I.getD k 0 := by omega
        by_cases e3 : I.getD k 0 ≥ R
        · have e4 : ¬ I.getD k 0 < R := by omega
          simp only [e1, e2, e3, e4, if_true, if_false, decide_false, decide_true, Bool.false_and, Bool.true_and, cond_false]
        · have e4 : I.getD k 0 < R := by omega
          simp only [e1, e2, e3, e4, if_false, decide_true, Bool.true_and]
          by_cases e5 : (k : Int) > S.getD j 0
          · have e6 : (S.getD j 0).toNat < k := by omega
            have e7 : (0 : Int) ≤ ((k - 1 : Nat) : Int) ∧ ((k - 1 : Nat) : Int) < (I.length : Int) := by omega
            simp only [e5, e6, if_true, decide_true, Bool.not_true, Bool.false_or, wpred (show k < 4611686018427387904 by omega) (show 0 < k by omega), e7, and_self, Int.toNat_natCast]
            by_cases e8 : I.getD k 0 ≤ I.getD (k - 1) 0
            · have e9 : ¬ I.getD (k - 1) 0 < I.getD k 0 := by omega
              simp only [e8, e9, if_true, decide_false, Bool.false_and, cond_false]
            · have e9 : I.getD (k - 1) 0 < I.getD k 0 := by omega
              simp only [e8, e9, if_false, decide_true, Bool.true_and]
          · have e6 : ¬ (S.getD j 0).toNat < k := by omega
            simp only [e5, e6, if_false, decide_false, Bool.not_false, Bool.true_or, Bool.true_and]
    · have h1 : ¬ ((k : Int) < S.getD (j + 1) 0) := by omega
      simp only [h1, if_false]
      rw [allFrom_end hk]; rfl
theorem refCheck_L1 (m : Nat) (R C : Int) (c : Nat) (S I V : List Int) (hC : C = (c : Int)) (hok : StartOK c S I) (hc : c < 4611686018427387904) (hb : I.length < 4611686018427387904) (hm : I.length < m) : ∀ (n k : Nat), c - k < n → k ≤ c →
    g28_L1 m n R C S I V (k : Int) = some (bif allFrom (fun j => colEnt R S I j) k c then .inr (.inl ((R, C, S, I, V, ()), ())) else .inl (1, ()))
  | 0, k, h, _ => by omega
  | n + 1, k, h, h0 => by
    rw [g28_L1]
    subst hC
    have hl := hok.len
    by_cases hk : k < c
    · have h1 : ((k : Int) < (c : Int)) := by omega
      have h2 : ((k : Int) < (S.length : Int)) := by omega
      have a := hok.rng (j := k) (by omega)
      have b := hok.rng (j := k + 1) (by omega)
      have e := refCheck_L2 m R (c : Int) c k S I V rfl hok hk hc hb m (S.getD k 0).toNat (by omega) (Nat.le_refl _)
      rw [show (((S.getD k 0).toNat : Nat) : Int) = S.getD k 0 by omega] at e
      simp only [bif_decide, h1, h2, if_true, Int.toNat_natCast, Int.natCast_nonneg, and_self]
      rw [e, allFrom_step hk]
      show _ = some (bif (colEnt R S I k && _) then _ else _)
      rw [colEnt]
      cases allFrom (entOK R S I k) (S.getD k 0).toNat (S.getD (k + 1) 0).toNat
      · rfl
      · simp only [cond_true, Bool.true_and, Option.bind_some, wsucc (show k < 4611686018427387904 by omega)]
        exact refCheck_L1 m R (c : Int) c S I V rfl hok hc hb hm n (k + 1) (by omega) (by omega)
    · have h1 : ¬ ((k : Int) < (c : Int)) := by omega
      simp only [bif_decide, h1, if_false]
      rw [allFrom_end hk]; rfl
theorem ref_Check_eq {m : Nat} {R C : Int} {S I V : List Int} (hV : V.length < m) (hm : 11000 < m) (hv : V.length < 4611686018427387904) :
    g28 m R C S I V = some (chk R C S I V, (), ()) := by
  rw [g28, chk]
  by_cases h1 : 0 ≤ R
  · have h1' : ¬ R < 0 := by omega
    by_cases h2 : R ≤ 200
    · have h2' : ¬ R > 200 := by omega
      by_cases h3 : 0 ≤ C
      · have h3' : ¬ C < 0 := by omega
        by_cases h4 : C ≤ 200
        · have h4' : ¬ C > 200 := by omega
          by_cases h5 : I.length ≤ 10000
          · have h5' : ¬ (I.length : Int) > 10000 := by omega
            obtain ⟨c, rfl⟩ : ∃ c : Nat, C = (c : Int) := ⟨C.toNat, by omega⟩
            simp only [bif_decide, h1, h1', h2, h2', h3, h3', h4, h4', h5, h5', if_false, decide_true, Bool.and_self, Bool.true_eq_false, strB, bif_ne, wi (show (-9223372036854775808 : Int) ≤ (c : Int) + 1 by omega) (by omega), Int.toNat_natCast]
            by_cases g1 : I.length = V.length
            · have g1' : (V.length : Int) = (I.length : Int) := by omega
              simp only [g1', if_true]
              by_cases g2 : (S.length : Int) = (c : Int) + 1
              · have hl : S.length = c + 1 := by omega
                have g3 : (0 : Int) ≤ 0 ∧ (0 : Int) < (S.length : Int) := by omega
                simp only [g2, if_true]
                rw [← g2, if_pos g3]
                by_cases g4 : S.getD 0 0 = 0
                · have g5 : (True ∧ (c : Int) < (S.length : Int)) := ⟨trivial, by omega⟩
                  simp only [g4, if_true]
                  rw [if_pos g5]
                  by_cases g6 : S.getD c 0 = (I.length : Int)
                  · simp only [g6, if_true]
                    have e0 := refCheck_L0 m R (c : Int) c S I V rfl hl (by omega) m 0 (by omega) (by omega)
                    simp only [Int.cast_ofNat_Int, Int.natCast_zero, Int.ofNat_zero] at e0
                    rw [e0]
                    cases h7 : allFrom (le2 S) 0 c
                    · simp
                    · have hok : StartOK c S I := ⟨hl, g4, fun j hj => by
                        have := allFrom_iff.1 h7 j (by omega) hj
                        simpa [-List.getD_eq_getElem?_getD, le2] using this, g6⟩
                      have e1 := refCheck_L1 m R (c : Int) c S I V rfl hok (by omega) (by omega) (by omega) m 0 (by omega) (by omega)
                      simp only [Int.cast_ofNat_Int, Int.natCast_zero, Int.ofNat_zero] at e1
                      simp only [cond_true, Option.bind_some]
                      rw [e1]
                      cases h8 : allFrom (fun j => colEnt R S I j) 0 c
                      · simp
                      · simp only [cond_true, Option.bind_some, Finite_eq hV hv, bif_not]
                        cases finL V <;> simp [g1]
                  · simp [-List.getD_eq_getElem?_getD, g6]
                · simp [-List.getD_eq_getElem?_getD, g4]
              · simp [g2]
            · have g1' : ¬ (V.length : Int) = (I.length : Int) := by omega
              simp [g1, g1']
          · have h5' : (I.length : Int) > 10000 := by omega
            simp [h1', h2', h3', h4', h5, h5']
        · have h4' : C > 200 := by omega
          simp [h1', h2', h3', h4, h4']
      · have h3' : C < 0 := by omega
        simp [h1', h2', h3, h3']
    · have h2' : R > 200 := by omega
      simp [h1', h2, h2']
  · have h1' : R < 0 := by omega
    simp [h1, h1']
theorem Entries_L1 (m : Nat) (hM : MatOK R C S I) (hV : V.length = I.length) {j : Nat} (hj : j < C) : ∀ (n k : Nat) (out : List (Int × Int × Int)), (S.getD (j + 1) 0).toNat - k < n → out.length ≤ k →
    g13_L1 m n (R : Int) (C : Int) S I V out (j : Int) (k : Int) = some (.inl (((R : Int), (C : Int), S, I, V, ()), out ++ entCol S I V j k (S.getD (j + 1) 0).toNat, (j : Int), ()))
  | 0, k, out, h, _ => by omega
  | n + 1, k, out, h, ho => by
    have hl := hM.st.len
    have hcz := hM.cz
    have hiz := hM.sz
    have b := hM.st.rng (j := j + 1) (by omega)
    rw [g13_L1]
    simp only [wsucc (show j < 4611686018427387904 by omega), Int.toNat_natCast, bif_decide]
    rw [if_pos (by omega)]
    by_cases hk : k < (S.getD (j + 1) 0).toNat
    · rw [if_pos (by omega), if_pos (by omega), if_pos (by omega), if_pos (by simp; omega), entCol_step hk]
      simp only [wsucc (show k < 4611686018427387904 by omega)]
      rw [Entries_L1 m hM hV hj n (k + 1) _ (by omega) (by simp; omega)]
      simp
    · rw [if_neg (by omega)]
      rw [entCol, show (S.getD (j + 1) 0).toNat - k = 0 by omega]; simp
theorem Entries_L0 (m : Nat) (hm : 20000 < m) (hM : MatOK R C S I) (hV : V.length = I.length) : ∀ (d n k : Nat) (out : List (Int × Int × Int)), C - k = d → k ≤ C → d < n → out.length = (S.getD k 0).toNat →
    g13_L0 m n (R : Int) (C : Int) S I V out (k : Int) = some (.inl (out ++ ents S I V d k, ()))
  | 0, n, k, out, hd, hk0, hn, ho => by
    obtain ⟨n, rfl⟩ : ∃ n', n = n' + 1 := ⟨n - 1, by omega⟩
    rw [g13_L0, bif_decide, if_neg (by omega)]; simp [ents]
  | d + 1, n, k, out, hd, hk0, hn, ho => by
    have hl := hM.st.len
    have hcz := hM.cz
    have hiz := hM.sz
    have hk : k < C := by omega
    have a := hM.st.rng (j := k) (by omega)
    have b := hM.st.rng (j := k + 1) (by omega)
    have dd := hM.st.mono k hk
    obtain ⟨n, rfl⟩ : ∃ n', n = n' + 1 := ⟨n - 1, by omega⟩
    have e := Entries_L1 (V := V) m hM hV hk m (S.getD k 0).toNat out (by omega) (by omega)
    rw [show (((S.getD k 0).toNat : Nat) : Int) = S.getD k 0 by omega] at e
    rw [g13_L0, bif_decide, if_pos (by omega), if_pos (by omega)]
    simp only [Int.toNat_natCast]
    rw [e]
    simp only [Option.bind_some, wsucc (show k < 4611686018427387904 by omega)]
    rw [Entries_L0 m hm hM hV d n (k + 1) _ (by omega) (by omega) (by omega) (by rw [List.length_append, entCol_len]; omega), ents]
    simp
theorem Entries_eq {m : Nat} (hm : 20000 < m) (hM : MatOK R C S I) (hV : V.length = I.length) (hc : chk (R : Int) (C : Int) S I V = 0) : g13 m (R : Int) (C : Int) S I V = some (ents S I V C 0, (), ()) := by
  have hiz := hM.sz
  rw [g13, ref_Check_eq (by omega) (by omega) (by omega), hc]
  have := Entries_L0 (V := V) m hm hM hV C m 0 [] (by omega) (by omega) (by have := hM.cz; omega) (by rw [hM.st.s0]; rfl)
  simp only [Int.cast_ofNat_Int, Int.natCast_zero, Int.ofNat_zero, List.nil_append] at this
  simp only [Option.bind_some, bif_ne, if_true, this]
theorem mEntries_L1 (m : Nat) (hM : MatOK R C S I) (hV : V.length = I.length) (t7 t8 : Int) {j : Nat} (hj : j < C) : ∀ (n k : Nat) (out : List Ent), (S.getD (j + 1) 0).toNat - k < n → out.length ≤ k →
    g62_L1 m n (R : Int) (C : Int) S I V out (j : Int) (k : Int) t7 t8 = some (.inl (((R : Int), (C : Int), S, I, V, ()), out ++ entCol S I V j k (S.getD (j + 1) 0).toNat, t7, t8, ()))
  | 0, k, out, h, _ => by omega
  | n + 1, k, out, h, ho => by
    have hl := hM.st.len
    have hcz := hM.cz
    have hiz := hM.sz
    have b := hM.st.rng (j := j + 1) (by omega)
    rw [g62_L1]
    simp only [w_i64_eq, wsucc (show j < 4611686018427387904 by omega), Int.toNat_natCast, bif_decide]
    rw [if_pos (by omega)]
    by_cases hk : k < (S.getD (j + 1) 0).toNat
    · rw [if_pos (by omega), if_pos (by omega), if_pos (by omega), if_pos (by simp; omega), entCol_step hk]
      simp only [wsucc (show k < 4611686018427387904 by omega)]
      rw [mEntries_L1 m hM hV t7 t8 hj n (k + 1) _ (by omega) (by simp; omega)]
      simp
    · rw [if_neg (by omega)]
      rw [entCol, show (S.getD (j + 1) 0).toNat - k = 0 by omega]; simp
theorem mEntries_L0 (m : Nat) (hm : 20000 < m) (hM : MatOK R C S I) (hV : V.length = I.length) : ∀ (d n k : Nat) (out : List Ent), C - k = d → k ≤ C → d < n → out.length = (S.getD k 0).toNat →
    g62_L0 m n (R : Int) (C : Int) S I V out (C : Int) (k : Int) = some (.inl (out ++ ents S I V d k, ()))
  | 0, n, k, out, hd, hk0, hn, ho => by
    obtain ⟨n, rfl⟩ : ∃ n', n = n' + 1 := ⟨n - 1, by omega⟩
    rw [g62_L0, bif_decide, if_neg (by omega)]; simp [ents]
  | d + 1, n, k, out, hd, hk0, hn, ho => by
    have hl := hM.st.len
    have hcz := hM.cz
    have hiz := hM.sz
    have hk : k < C := by omega
    have a := hM.st.rng (j := k) (by omega)
    have b := hM.st.rng (j := k + 1) (by omega)
    have dd := hM.st.mono k hk
    obtain ⟨n, rfl⟩ : ∃ n', n = n' + 1 := ⟨n - 1, by omega⟩
    have e := mEntries_L1 (V := V) m hM hV (C : Int) (k : Int) hk m (S.getD k 0).toNat out (by omega) (by omega)
    rw [show (((S.getD k 0).toNat : Nat) : Int) = S.getD k 0 by omega] at e
    rw [g62_L0, bif_decide, if_pos (by omega), if_pos (by omega)]
    simp only [Int.toNat_natCast]
    rw [e]
    simp only [Option.bind_some, w_i64_eq, wsucc (show k < 4611686018427387904 by omega)]
    rw [mEntries_L0 m hm hM hV d n (k + 1) _ (by omega) (by omega) (by omega) (by rw [List.length_append, entCol_len]; omega), ents]
    simp
theorem mEntries_eq {m : Nat} (hm : 20000 < m) (hM : MatOK R C S I) (hV : V.length = I.length) : g62 m (R : Int) (C : Int) S I V = some (ents S I V C 0, (), ()) := by
  have hcz := hM.cz
  have h := mEntries_L0 (V := V) m hm hM hV C m 0 [] (by omega) (by omega) (by omega) (by rw [hM.st.s0]; rfl)
  rw [g62, show (0 : Int) = ((0 : Nat) : Int) from rfl, h]; rfl
end Go.Vs.F

/-! TzRb -/
set_option linter.unusedVariables false
set_option linter.unusedSimpArgs false
namespace Go.Vs.F
variable {R C : Nat} {S I V : List Int}
theorem MatOK.asc (hM : MatOK R C S I) {j : Nat} (hj : j < C) : ∀ (d t : Nat), (S.getD j 0).toNat ≤ t → t + (d + 1) < (S.getD (j + 1) 0).toNat → I.getD t 0 < I.getD (t + (d + 1)) 0
  | 0, t, h1, h2 => by
    have := allFrom_iff.1 (hM.ent j hj) (t + 1) (by omega) h2
    simp only [entOK, Bool.and_eq_true, Bool.or_eq_true, decide_eq_true_eq] at this
    have h := this.2
    simp only [Nat.add_sub_cancel] at h
    simp only [Nat.zero_add]
    rcases h with h | h
    · simp only [Bool.not_eq_true', decide_eq_false_iff_not] at h; omega
    · exact h
  | d + 1, t, h1, h2 => by
    have h3 := hM.asc hj d t h1 (by omega)
    have h4 := hM.asc hj 0 (t + (d + 1)) (by omega) (by omega)
    simp only [Nat.zero_add] at h4
    rw [show t + (d + 1 + 1) = t + (d + 1) + 1 by omega]; omega
theorem MatOK.uniq (hM : MatOK R C S I) {j : Nat} (hj : j < C) {t t' : Nat} (h1 : (S.getD j 0).toNat ≤ t) (h2 : t < (S.getD (j + 1) 0).toNat) (h3 : (S.getD j 0).toNat ≤ t') (h4 : t' < (S.getD (j + 1) 0).toNat) (e : I.getD t 0 = I.getD t' 0) : t = t' := by
  rcases Nat.lt_trichotomy t t' with h | h | h
  · have := hM.asc hj (t' - t - 1) t h1 (by omega)
    rw [show t + (t' - t - 1 + 1) = t' by omega] at this; omega
  · exact h
  · have := hM.asc hj (t - t' - 1) t' h3 (by omega)
    rw [show t' + (t - t' - 1 + 1) = t by omega] at this; omega
theorem mem_ents' {x : Ent} : ∀ {d k : Nat}, x ∈ ents S I V d k ↔ ∃ j t, k ≤ j ∧ j < k + d ∧ (S.getD j 0).toNat ≤ t ∧ t < (S.getD (j + 1) 0).toNat ∧ x = (I.getD t 0, (j : Int), V.getD t 0)
  | 0, k => by
    constructor
    · intro h; simp [ents] at h
    · rintro ⟨j, t, h1, h2, _⟩; omega
  | d + 1, k => by
    rw [ents, List.mem_append, mem_ents' (d := d) (k := k + 1)]
    constructor
    · rintro (h | ⟨j, t, h1, h2, h3⟩)
      · unfold entCol at h
        obtain ⟨t, ht, rfl⟩ := List.mem_map.1 h
        rw [List.mem_range'_1] at ht
        exact ⟨k, t, Nat.le_refl _, by omega, ht.1, by omega, rfl⟩
      · exact ⟨j, t, by omega, by omega, h3⟩
    · rintro ⟨j, t, h1, h2, h3, h4, h5⟩
      by_cases e : j = k
      · subst e
        left; unfold entCol
        exact List.mem_map.2 ⟨t, List.mem_range'_1.2 ⟨h3, by omega⟩, h5.symm⟩
      · right; exact ⟨j, t, by omega, by omega, h3, h4, h5⟩
/- A valid square matrix with made values. -/
structure MG (N : Nat) (S I V : List Int) : Prop where
  ok : MatOK N N S I
  vl : V.length = I.length
  chk : chk (N : Int) (N : Int) S I V = 0
  good : ∀ t, t < V.length → GoodV (V.getD t 0)
  il : I.length ≤ 200
def edg1 (j : Nat) (e : Ent) : Option (Int × Int) := if e.2.1 = (j : Int) ∧ (expOf e.2.2).2 = true then some (e.1, (expOf e.2.2).1) else none
def edg (es : List Ent) (j : Nat) : List (Int × Int) := es.filterMap (edg1 j)
theorem edges_L0_ok (m : Nat) {N : Nat} {es : List Ent} (hm : 100 ≤ m) (hg : ∀ e ∈ es, GoodV e.2.2 ∧ 0 ≤ e.2.1 ∧ e.2.1 < (N : Int)) (hl : es.length ≤ 1000) : ∀ (n k : Nat) (out : List (List (Int × Int))), es.length - k < n → k ≤ es.length → out.length = N →
    (∀ j, j < N → out.getD j [] = edg (es.take k) j) →
    ∃ E, g23_L0 m n out es (es.length : Int) (k : Int) = some (.inl (E, ())) ∧ E.length = N ∧ ∀ j, j < N → E.getD j [] = edg es j
  | 0, k, out, h, _, _, _ => by omega
  | n + 1, k, out, h, hk0, ho, hq => by
    rw [g23_L0]
    by_cases hk : k < es.length
    · have h1 : ((k : Int) < (es.length : Int)) := by omega
      have c1 : (0 : Int) ≤ (k : Int) ∧ (k : Int) < (es.length : Int) := by omega
      have hmem : es.getD k (0, (0, 0)) ∈ es := getD_mem' hk
      obtain ⟨g, g1, g2⟩ := hg _ hmem
      have htk : es.take (k + 1) = es.take k ++ [es.getD k (0, (0, 0))] := by
        rw [List.take_add_one]
        congr 1
        rw [List.getElem?_eq_getElem hk, List.getD, List.getElem?_eq_getElem hk]; rfl
      have hed : ∀ j, edg (es.take (k + 1)) j = edg (es.take k) j ++ (edg1 j (es.getD k (0, (0, 0)))).toList := fun j => by
        unfold edg; rw [htk, List.filterMap_append]
        congr 1
      simp only [bif_decide, h1, if_true, c1, and_self, Int.toNat_natCast, Nat.zero_add, w_i64_eq, wsucc (show k < 4611686018427387904 by omega)]
      generalize es.getD k (0, (0, 0)) = y at *
      rw [g.float m hm]
      simp only [Option.bind_some]
      rcases Bool.eq_false_or_eq_true (expOf y.2.2).2 with hx | hx
      · rw [hx]
        simp only [cond_true]
        have c2 : (0 : Int) ≤ y.2.1 ∧ y.2.1 < (out.length : Int) := by omega
        have hjN : y.2.1.toNat < N := by omega
        have c3 : (out.getD y.2.1.toNat []).length + ([(y.1, (expOf y.2.2).1)] : List (Int × Int)).length ≤ 1073741824 := by
          rw [hq _ hjN]
          have : (edg (es.take k) y.2.1.toNat).length ≤ (es.take k).length := List.length_filterMap_le ..
          rw [List.length_take] at this
          show _ + 1 ≤ _
          omega
        simp only [c2, c3, and_self, if_true]
        refine edges_L0_ok m hm hg hl n (k + 1) _ (by omega) (by omega) (by simp [ho]) fun j hj => ?_
        rw [hed, getD_set' (by omega)]
        split
        · rename_i e
          rw [hq _ hjN, ← e, edg1, if_pos ⟨by omega, hx⟩]; rfl
        · rename_i e
          rw [hq j hj, edg1, if_neg (fun c => e (by omega))]; simp
      · rw [hx]
        simp only [cond_false]
        refine edges_L0_ok m hm hg hl n (k + 1) _ (by omega) (by omega) ho fun j hj => ?_
        rw [hed, hq j hj, edg1, if_neg (fun c => by rw [hx] at c; cases c.2)]; simp
    · have h1 : ¬ ((k : Int) < (es.length : Int)) := by omega
      simp only [bif_decide, h1, if_false]
      refine ⟨out, rfl, ho, fun j hj => ?_⟩
      rw [hq j hj, List.take_of_length_le (by omega)]
/- An edge: an entry whose value is not zero. -/
theorem mem_edg {N : Nat} (hM : MG N S I V) {j : Nat} (hj : j < N) {x : Int × Int} : x ∈ edg (ents S I V N 0) j ↔ ∃ t, (S.getD j 0).toNat ≤ t ∧ t < (S.getD (j + 1) 0).toNat ∧ x.1 = I.getD t 0 ∧ (expOf (V.getD t 0)).2 = true ∧ x.2 = (expOf (V.getD t 0)).1 := by
  unfold edg
  rw [List.mem_filterMap]
  constructor
  · rintro ⟨e, he, hx⟩
    obtain ⟨j', t, _, _, h1, h2, rfl⟩ := mem_ents'.1 he
    unfold edg1 at hx
    split at hx
    · rename_i c
      obtain ⟨c1, c2⟩ := c
      cases hx
      have : j' = j := by simp only at c1; omega
      subst this
      exact ⟨t, h1, h2, rfl, c2, rfl⟩
    · cases hx
  · rintro ⟨t, h1, h2, h3, h4, h5⟩
    refine ⟨(I.getD t 0, (j : Int), V.getD t 0), mem_ents'.2 ⟨j, t, Nat.zero_le _, by omega, h1, h2, rfl⟩, ?_⟩
    unfold edg1
    rw [if_pos ⟨rfl, h4⟩]
    obtain ⟨x1, x2⟩ := x
    simp only at h3 h5
    rw [h3, h5]
theorem col_lt {N : Nat} (hM : MG N S I V) {j : Nat} (hj : j < N) {t : Nat} (h2 : t < (S.getD (j + 1) 0).toNat) : t < V.length := by
  have := hM.ok.st.rng (j := j + 1) (by omega)
  rw [hM.vl]; omega
theorem ents_good {N : Nat} (hM : MG N S I V) : ∀ e ∈ ents S I V N 0, GoodV e.2.2 ∧ 0 ≤ e.2.1 ∧ e.2.1 < (N : Int) := by
  intro e he
  obtain ⟨j, t, _, h0, h1, h2, rfl⟩ := mem_ents'.1 he
  exact ⟨hM.good t (col_lt hM (by omega) h2), by simp only; omega, by simp only; omega⟩
theorem ents_l {N : Nat} (hM : MG N S I V) : (ents S I V N 0).length ≤ 200 := by
  rw [ents_len hM.ok N 0 (by omega) (by omega)]
  have := hM.ok.st.last
  have := hM.il
  omega
theorem edges_ok (m : Nat) {N : Nat} (hm : 20000 < m) (hM : MG N S I V) : ∃ E, g23 m (N : Int) (N : Int) S I V = some (E, (), ()) ∧ EOK N E ∧ ∀ j, j < N → E.getD j [] = edg (ents S I V N 0) j := by
  have hN := hM.ok.cz
  have hsl : S.length ≤ 201 := by rw [hM.ok.st.len]; omega
  have hvl : V.length ≤ 200 := by rw [hM.vl]; exact hM.il
  rw [g23, g38, g29_eq (by omega) (by omega) (by omega) (by omega) (by omega), hM.chk]
  have c1 : (0 : Int) ≤ (N : Int) ∧ (N : Int) ≤ (N : Int) ∧ (N : Int) ≤ 1073741824 := by omega
  have hel := ents_l hM
  obtain ⟨E, e, h1, h2⟩ := edges_L0_ok m (es := ents S I V N 0) (by omega) (ents_good hM) (by omega) m 0 (List.replicate N []) (by omega) (by omega) (by simp) (fun j hj => by rw [getD_replicate hj]; rfl)
  rw [Int.natCast_zero] at e
  simp only [c1, and_self, if_true, Option.bind_some, bif_ne, mEntries_eq hm hM.ok hM.vl, Int.toNat_natCast, e]
  refine ⟨E, rfl, ?_, h2⟩
  have hz : ∀ j, ¬ j < N → E.getD j [] = [] := fun j hj => getD_ge (by omega)
  have hmem : ∀ j, ∀ x ∈ E.getD j [], j < N ∧ ∃ t, (S.getD j 0).toNat ≤ t ∧ t < (S.getD (j + 1) 0).toNat ∧ x.1 = I.getD t 0 ∧ (expOf (V.getD t 0)).2 = true ∧ x.2 = (expOf (V.getD t 0)).1 := fun j x hx => by
    by_cases hj : j < N
    · rw [h2 j hj] at hx
      exact ⟨hj, (mem_edg hM hj).1 hx⟩
    · rw [hz j hj] at hx; cases hx
  refine ⟨h1, hN, fun j x hx => ?_, fun j x hx => ?_, fun j => ?_, fun j x hx y hy e => ?_⟩
  · obtain ⟨hj, t, q1, q2, q3, _⟩ := hmem j x hx
    rw [q3]; exact hM.ok.row hj q1 q2
  · obtain ⟨hj, t, q1, q2, q3, q4, q5⟩ := hmem j x hx
    have := hM.good t (col_lt hM hj q2)
    rw [q5]; exact ⟨this.lo, this.hi⟩
  · by_cases hj : j < N
    · rw [h2 j hj]
      have : (edg (ents S I V N 0) j).length ≤ (ents S I V N 0).length := List.length_filterMap_le ..
      omega
    · rw [hz j hj]; simp
  · obtain ⟨hj, t, q1, q2, q3, q4, q5⟩ := hmem j x hx
    obtain ⟨_, t', r1, r2, r3, r4, r5⟩ := hmem j y hy
    have := hM.ok.uniq hj q1 q2 r1 r2 (by rw [← q3, ← r3, e])
    subst this
    rw [q5, r5]
/- Maximum, as a whole. -/
theorem Maximum_ok (m : Nat) {N : Nat} (hm : 200000000 < m) (hN5 : N ≤ 5) (hM : MG N S I V) {E : Edges} (hE : ∀ j, j < N → E.getD j [] = edg (ents S I V N 0) j) (hEl : E.length = N) :
    (∃ row U W, g8 m (N : Int) (N : Int) S I V = some (((row, U, W, ()), 0, ()), (), ()) ∧ Tv N E row U W) ∨
    (g8 m (N : Int) (N : Int) S I V = some ((([], [], [], ()), 9, ()), (), ()) ∧ ∀ s, ¬ Trv N E s) := by
  have hN := hM.ok.cz
  have hsl : S.length ≤ 201 := by rw [hM.ok.st.len]; omega
  have hvl : V.length ≤ 200 := by rw [hM.vl]; exact hM.il
  obtain ⟨E', e, hE', hq⟩ := edges_ok m (by omega) hM
  have : E' = E := ext_getD [] (by rw [hE'.len, hEl]) fun k hk => by rw [hq k (by rw [hE'.len] at hk; exact hk), hE k (by rw [hE'.len] at hk; exact hk)]
  subst this
  rw [g8, g21, g29_eq (by omega) (by omega) (by omega) (by omega) (by omega), hM.chk]
  simp only [Option.bind_some, bif_eq, bif_ne, if_true, e]
  rcases best_ok m (by omega) hE' hN5 with ⟨u, v, row, col, e2, B⟩ | ⟨e2, hno⟩
  · rw [e2]
    simp only [Option.bind_some]
    obtain ⟨row', col', e3, hP, ht⟩ := least_ok m (by omega) hE' B
    rw [e3]
    simp only [Option.bind_some]
    obtain ⟨U, W, e4, hT⟩ := duals_ok m hm hN5 hE' hP ht B.vb B.mt.feas
    rw [e4]
    simp only [Option.bind_some]
    exact .inl ⟨row', U, W, rfl, hT⟩
  · rw [e2]
    exact .inr ⟨rfl, hno⟩
end Go.Vs.F

/-! TzRc -/
set_option linter.unusedVariables false
set_option linter.unusedSimpArgs false
set_option maxRecDepth 100000
namespace Go.Vs.F
variable {S I V : List Int} {N : Nat}
/-! ### Sums over orders -/
/-! ### Perm -/
/-! ### Made matrices are good -/
theorem colV_good {es : List Ent} {r c : Nat} (hE : EntsOK r c es) {j i d : Nat} {x : Int} (h : x ∈ colV es j i d) : GoodV x := by
  obtain ⟨i', h1, h2⟩ := List.mem_map.1 h
  have h3 := List.mem_filter.1 h1
  have h4 := of_decide_eq_true h3.2
  have h5 := lastIx_le es i' j es.length
  rw [← h2]; exact (hE _ (by omega)).2.2
theorem packV_good {es : List Ent} {r c : Nat} (hE : EntsOK r c es) {x : Int} : ∀ j, x ∈ packV es r j → GoodV x
  | 0, h => by cases h
  | j + 1, h => by
    rcases List.mem_append.1 h with h | h
    · exact packV_good hE j h
    · exact colV_good hE h
theorem pack_MG {es : List Ent} (hE : EntsOK N N es) (hN : N ≤ 5) : MG N (packS es N N) (packI es N N) (packV es N N) := by
  have h25 : N * N ≤ 5 * 5 := Nat.mul_le_mul hN hN
  refine ⟨pack_ok (by omega) (by omega) (by omega), packV_len _ _ _, pack_chk hE (by omega) (by omega) (by omega), fun t ht => packV_good hE N (getD_mem' ht), ?_⟩
  have := packI_len es N N
  omega
theorem awake14 (k : Nat) : sparselaw14_awake (k + 100) = some (true, ()) := by rfl
theorem awakeT {m : Nat} (h : 100 ≤ m) : sparselaw14_awake m = some (true, ()) := by
  obtain ⟨k, rfl⟩ : ∃ k, m = k + 100 := ⟨m - 100, by omega⟩
  exact awake14 k
end Go.Vs.F

/-! TzSb -/
set_option linter.unusedVariables false
set_option linter.unusedSimpArgs false
set_option maxRecDepth 100000
namespace Go.Vs.F
theorem cnt_true : ∀ n, cnt (fun _ => true) n = n
  | 0 => rfl
  | n + 1 => by rw [cnt, cnt_true n]; rfl
theorem cnt_full {p : Nat → Bool} : ∀ {n : Nat}, cnt p n = n → ∀ i, i < n → p i = true
  | 0, _, i, h => absurd h (Nat.not_lt_zero _)
  | n + 1, h, i, hi => by
    have := cnt_le (p := p) (n := n)
    rw [cnt] at h
    cases hp : p n with
    | false => rw [hp] at h; simp only [cond_false] at h; omega
    | true =>
      rw [hp] at h; simp only [cond_true] at h
      by_cases e : i = n
      · subst e; exact hp
      · exact cnt_full (n := n) (by omega) i (by omega)
theorem weak2 {E : List (List Int)} {N : Nat} {s : Nat → Nat} {pr pc : Nat → Bool} (h1 : ∀ j, j < N → s j < N ∧ (s j : Int) ∈ E.getD j []) (h2 : ∀ j k, j < N → k < N → s j = s k → j = k)
    (hcov : ∀ j, j < N → ∀ i ∈ E.getD j [], pr i.toNat = true ∨ pc j = true) : N ≤ cnt pr N + cnt pc N := by
  have e := cnt_split (fun _ => true) pc N
  rw [cnt_true] at e
  have a1 : cnt (fun i => true && pc i) N ≤ cnt pc N := cnt_mono fun i _ h => (Bool.and_eq_true_iff.1 h).2
  have a2 : cnt (fun i => true && !pc i) N ≤ cnt pr N := by
    refine cnt_inj (f := s) (fun j hj hp => ⟨(h1 j hj).1, ?_⟩) (fun i j hi hj _ _ e => h2 i j hi hj e)
    simp only [Bool.true_and, Bool.not_eq_true'] at hp
    rcases hcov j hj _ (h1 j hj).2 with g | g
    · simpa using g
    · rw [g] at hp; cases hp
  omega
theorem Singular_L1 (m : Nat) {r : List Int} {x y : Int} {a b c : List Int} {w : Int} (hl : r.length ≤ 1000) : ∀ (n k : Nat) (f : Bool), r.length - k < n →
    ∃ f', sparselaw14_TransversalSingular_L1 m n x r y a b c w f (k : Int) = some (.inl (x, y, (a, b, c, ()), w, f', ())) ∧ (f' = true ↔ f = true ∧ ∀ j, k ≤ j → j < r.length → 0 ≤ r.getD j 0)
  | 0, k, f, h => by omega
  | n + 1, k, f, h => by
    rw [sparselaw14_TransversalSingular_L1]
    by_cases hk : k < r.length
    · have h1 : ((k : Int) < (r.length : Int)) := by omega
      have c1 : (0 : Int) ≤ (k : Int) ∧ (k : Int) < (r.length : Int) := by omega
      simp only [bif_decide, h1, if_true, c1, and_self, Int.toNat_natCast, Nat.zero_add, w_i64_eq, wsucc (show k < 4611686018427387904 by omega)]
      cases f with
      | true =>
        simp only [cond_true]
        obtain ⟨f', e, q⟩ := Singular_L1 m (r := r) (x := x) (y := y) (a := a) (b := b) (c := c) (w := w) hl n (k + 1) (decide (r.getD k 0 ≥ 0)) (by omega)
        refine ⟨f', e, q.trans ?_⟩
        constructor
        · rintro ⟨q1, q2⟩
          refine ⟨by trivial, fun j a b => ?_⟩
          by_cases e : j = k
          · subst e; exact of_decide_eq_true q1
          · exact q2 j (by omega) b
        · rintro ⟨_, q2⟩
          exact ⟨decide_eq_true (q2 k (Nat.le_refl _) hk), fun j a b => q2 j (by omega) b⟩
      | false =>
        simp only [cond_false]
        obtain ⟨f', e, q⟩ := Singular_L1 m (r := r) (x := x) (y := y) (a := a) (b := b) (c := c) (w := w) hl n (k + 1) false (by omega)
        refine ⟨f', e, q.trans ?_⟩
        constructor
        · rintro ⟨q1, _⟩; cases q1
        · rintro ⟨q1, _⟩; cases q1
    · have h1 : ¬ ((k : Int) < (r.length : Int)) := by omega
      simp only [bif_decide, h1, if_false]
      exact ⟨f, rfl, ⟨fun h => ⟨h, fun j a b => by omega⟩, fun h => h.1⟩⟩
theorem Singular_L0 (m : Nat) (hm : 100 ≤ m) {x : Int} {a b : Int} {c d e : List Int} {es : List Ent} (hl : es.length ≤ 1000) (hg : ∀ e ∈ es, GoodV e.2.2) : ∀ (n k : Nat) (out : List Ent), es.length - k < n → out = (es.take k).filter (fun e => (expOf e.2.2).2) →
    sparselaw14_TransversalSingular_L0 m n x a b c d e out es (k : Int) = some (.inl (x, (a, b, c, d, e, ()), es.filter (fun e => (expOf e.2.2).2), ()))
  | 0, k, out, h, _ => by omega
  | n + 1, k, out, h, ho => by
    rw [sparselaw14_TransversalSingular_L0]
    by_cases hk : k < es.length
    · have h1 : ((k : Int) < (es.length : Int)) := by omega
      have c1 : (0 : Int) ≤ (k : Int) ∧ (k : Int) < (es.length : Int) := by omega
      have hmem : es.getD k (0, (0, 0)) ∈ es := getD_mem' hk
      have g := hg _ hmem
      have htk : es.take (k + 1) = es.take k ++ [es.getD k (0, (0, 0))] := by
        rw [List.take_add_one]
        congr 1
        rw [List.getElem?_eq_getElem hk, List.getD, List.getElem?_eq_getElem hk]; rfl
      have hlo : out.length ≤ 1000 := by
        rw [ho]
        have h1 := List.length_filter_le (fun e : Ent => (expOf e.2.2).2) (es.take k)
        rw [List.length_take] at h1
        omega
      obtain ⟨v, ev, hv⟩ := g.kind m hm
      simp only [bif_decide, h1, if_true, c1, and_self, Int.toNat_natCast, Nat.zero_add, w_i64_eq, wsucc (show k < 4611686018427387904 by omega), ev, Option.bind_some, hv]
      have c2 : ∀ y : Ent, out.length + ([y] : List Ent).length ≤ 1073741824 := fun y => by show out.length + 1 ≤ _; omega
      rcases Bool.eq_false_or_eq_true (expOf (es.getD k (0, (0, 0))).2.2).2 with hx | hx
      · simp only [hx, cond_true, c2, if_true]
        refine Singular_L0 m hm hl hg n (k + 1) _ (by omega) ?_
        rw [htk, List.filter_append, ho, List.filter_cons, if_pos hx, List.filter_nil]
      · simp only [hx, cond_false]
        refine Singular_L0 m hm hl hg n (k + 1) _ (by omega) ?_
        rw [htk, List.filter_append, ho, List.filter_cons, if_neg (by rw [hx]; exact Bool.false_ne_true), List.filter_nil, List.append_nil]
    · have h1 : ¬ ((k : Int) < (es.length : Int)) := by omega
      simp only [bif_decide, h1, if_false]
      rw [ho, List.take_of_length_le (by omega)]
theorem ents_mem_ok {N : Nat} {S I V : List Int} (hM : MG N S I V) : ∀ e ∈ ents S I V N 0, (0 ≤ e.1 ∧ e.1 < (N : Int)) ∧ (0 ≤ e.2.1 ∧ e.2.1 < (N : Int)) ∧ GoodV e.2.2 := by
  intro e he
  obtain ⟨j, t, _, h0, h1, h2, rfl⟩ := mem_ents'.1 he
  exact ⟨hM.ok.row (by omega) h1 h2, ⟨by simp only; omega, by simp only; omega⟩, hM.good t (col_lt hM (by omega) h2)⟩
theorem TransversalSingular_law (x1 x2 : _) : ∃ m, sparselaw14_TransversalSingular m x1 x2 = some (true, (), (), ()) := by
  by_cases hl : (x2.length : Int) > 60
  · refine ⟨100, ?_⟩
    rw [sparselaw14_TransversalSingular, bif_decide, if_pos hl, awakeT (Nat.le_refl _)]; rfl
  obtain ⟨N, hN, eP⟩ := Place_eq (a := x1) (n := 6) (by omega) (by omega)
  obtain ⟨es, hE, hel, eS⟩ := make_Matrix_eq (r := N) (c := N) (l := x2) (by omega) (by omega) (by omega)
  have hM := pack_MG hE (show N ≤ 5 by omega)
  have hentl := ents_l hM
  have hfl : ((ents (packS es N N) (packI es N N) (packV es N N) N 0).filter (fun e => (expOf e.2.2).2)).length ≤ 200 := Nat.le_trans (List.length_filter_le ..) hentl
  have hF : EntsOK N N ((ents (packS es N N) (packI es N N) (packV es N N) N 0).filter (fun e => (expOf e.2.2).2)) := fun k hk => by
    have hm := getD_mem' (d := ((0, (0, 0)) : Ent)) hk
    exact ents_mem_ok hM _ (List.mem_filter.1 hm).1
  have hfmem : ∀ e, e ∈ (ents (packS es N N) (packI es N N) (packV es N N) N 0).filter (fun e => (expOf e.2.2).2) ↔ e ∈ ents (packS es N N) (packI es N N) (packV es N N) N 0 ∧ (expOf e.2.2).2 = true := fun e => List.mem_filter
  have hSL := fun m (hm : 300 ≤ m) x a b c d e => Singular_L0 m (by omega) (x := x) (a := a) (b := b) (c := c) (d := d) (e := e) (es := ents (packS es N N) (packI es N N) (packV es N N) N 0) (by omega) (fun e he => (ents_mem_ok hM e he).2.2) m 0 [] (by omega) rfl
  generalize hfi : (ents (packS es N N) (packI es N N) (packV es N N) N 0).filter (fun e => (expOf e.2.2).2) = fil at *
  have h25 : N * N ≤ 5 * 5 := Nat.mul_le_mul (by omega) (by omega)
  have hk2 := pack_chk hF (by omega) (by omega) (by omega)
  have hM2 := pack_ok (es := fil) (r := N) (c := N) (by omega) (by omega) (by omega)
  have hv2 := packV_len fil N N
  have hi2 := packI_len fil N N
  have hs2 := hM2.st.len
  obtain ⟨u, hu⟩ := All.exists hM2.edge _ 0 (st0 N N) rfl (Nat.zero_le _) st0_good
  have g := hu.good hM2.edge st0_good
  have K := hu.kinv hM2.edge kinv0
  obtain ⟨M1, h1⟩ := matched_eq (V := packV fil N N) hM2 hu
  obtain ⟨m, hm1, hm2⟩ : ∃ m, M1 ≤ m ∧ 200000000 < m := ⟨M1 + 200000001, by omega, by omega⟩
  refine ⟨m, ?_⟩
  have eMM : g15 m (N : Int) (N : Int) (packS fil N N) (packI fil N N) (packV fil N N) = some ((u.row, 0, ()), (), ()) := by
    rw [g15, g29_eq (by omega) (by omega) (by omega) (by omega) (by omega), hk2]
    simp only [Option.bind_some, bif_ne, if_true, h1 m (by omega), stE]
  have hrow : u.row.length = N := g.row
  rw [sparselaw14_TransversalSingular, bif_decide, if_neg hl, show g6 m x1 6 = some ((N : Int), (), (), ()) from eP m]
  simp only [Option.bind_some]
  rw [eS m (by omega)]
  simp only [Option.bind_some]
  rw [Entries_eq (by omega) hM.ok hM.vl hM.chk]
  simp only [Option.bind_some]
  have eL0 := hSL m (by omega) (N : Int) (N : Int) (N : Int) (packS es N N) (packI es N N) (packV es N N)
  rw [Int.natCast_zero] at eL0
  rw [eL0]
  simp only [Option.bind_some]
  rw [Pack_eq hF (by omega) (by omega) (by omega) (by omega)]
  simp only [Option.bind_some, eMM]
  obtain ⟨E, eE, hEO, hEd⟩ := edges_ok m (by omega) hM
  -- the edges are the same
  have hedge : ∀ j, j < N → ∀ x : Int, x ∈ (edgesOf N (packS fil N N) (packI fil N N)).getD j [] ↔ ∃ w, (x, w) ∈ E.getD j [] := by
    intro j hj x
    rw [pack_edge hF hj, hEd j hj]
    unfold edg
    constructor
    · rintro ⟨k, hk, e1, e2⟩
      have hm := (hfmem _).1 (getD_mem' (d := ((0, (0, 0)) : Ent)) hk)
      refine ⟨(expOf (fil.getD k ((0, (0, 0)) : Ent)).2.2).1, List.mem_filterMap.2 ⟨_, hm.1, ?_⟩⟩
      unfold edg1
      rw [if_pos ⟨e2, hm.2⟩, e1]
    · rintro ⟨w, hw⟩
      obtain ⟨e, he, h⟩ := List.mem_filterMap.1 hw
      unfold edg1 at h
      split at h
      · rename_i c
        cases h
        obtain ⟨k, hk, ek⟩ := mem_getD (d := ((0, (0, 0)) : Ent)) ((hfmem e).2 ⟨he, c.2⟩)
        exact ⟨k, hk, by rw [ek], by rw [ek]; exact c.1⟩
      · cases h
  have hfull : ∀ s, Trv N E s → ∀ j, j < N → 0 ≤ u.row.getD j 0 := by
    intro s hs
    have hw := weak2 (E := edgesOf N (packS fil N N) (packI fil N N)) (s := s) (fun j hj => by
      obtain ⟨x, hx, e⟩ := hs.1 j hj
      have hr := hEO.row j x hx
      refine ⟨by omega, (hedge j hj _).2 ⟨x.2, ?_⟩⟩
      rw [show ((s j : Nat) : Int) = x.1 by omega]; exact hx) hs.2 (rCov (u := u) hM2.edge)
    rw [konig_cnt hM2.edge K] at hw
    have hle := cnt_le (p := mt u.row) (n := N)
    intro j hj
    exact of_decide_eq_true (cnt_full (p := mt u.row) (n := N) (by omega) j hj)
  have htrv : (∀ j, j < N → 0 ≤ u.row.getD j 0) → ∃ s, Trv N E s := by
    intro h
    refine ⟨fun j => (u.row.getD j 0).toNat, fun j hj => ?_, fun j k hj hk e => ?_⟩
    · obtain ⟨w, hw⟩ := (hedge j hj _).1 (K.cons.e j hj (h j hj))
      exact ⟨_, hw, rfl⟩
    · have b1 := K.cons.b j hj (h j hj)
      have b2 := K.cons.b k hk (h k hk)
      simp only at e
      rw [e, b2] at b1; omega
  rcases Maximum_ok m hm2 (by omega) hM hEd hEO.len with ⟨row, U, W, eM, T⟩ | ⟨eM, hno⟩
  · rw [eM]
    simp only [Option.bind_some]
    obtain ⟨f', eL, hf⟩ := Singular_L1 m (r := u.row) (x := (N : Int)) (y := 0) (a := row) (b := U) (c := W) (w := 0) (by omega) m 0 true (by omega)
    rw [Int.natCast_zero] at eL
    rw [eL]
    have ht : Trv N E fun j => (row.getD j 0).toNat := by
      refine ⟨fun j hj => ?_, fun j k hj hk e => ?_⟩
      · obtain ⟨x, hx, h1, _⟩ := T.tight j hj
        exact ⟨x, hx, by rw [h1]⟩
      · have := T.rr j hj
        have := T.rr k hk
        simp only at e
        exact T.inj j k hj hk (by omega)
    have : f' = true := hf.2 ⟨rfl, fun j _ hj => hfull _ ht j (by omega)⟩
    subst this
    simp only [Option.bind_some, Bool.not_true, cond_false, bif_eq, if_true]
    rw [if_pos (by rw [T.rl]), awakeT (by omega)]; rfl
  · rw [eM]
    simp only [Option.bind_some]
    obtain ⟨f', eL, hf⟩ := Singular_L1 m (r := u.row) (x := (N : Int)) (y := 0) (a := []) (b := []) (c := []) (w := 9) (by omega) m 0 true (by omega)
    rw [Int.natCast_zero] at eL
    rw [eL]
    have : f' = false := by
      rcases Bool.eq_false_or_eq_true f' with h | h
      · obtain ⟨s, hs⟩ := htrv fun j hj => (hf.1 h).2 j (Nat.zero_le _) (by omega)
        exact absurd hs (hno s)
      · exact h
    subst this
    simp only [Option.bind_some, Bool.not_false, cond_true, bif_eq, if_true]
    rw [awakeT (by omega)]; rfl
end Go.Vs.F
