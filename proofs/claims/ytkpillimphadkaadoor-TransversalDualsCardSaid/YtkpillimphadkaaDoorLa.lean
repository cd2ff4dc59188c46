/- Plain laws: lists compared and copied; the check of a matrix. Plain laws: the check of a matrix. Plain laws: the document's check of a matrix. Kuhn's algorithm as a relation; the program's and the document's searches compute it. The document's search computes Kuhn's relation; the whole matching. The whole matching, of the program and of the document. What is reachable: of the program and of the document. The program's and the document's searches for what is reachable. The document's search for what is reachable; the lists of indices; covers. The check of a matching and a cover: the program's. The check of a matching and a cover: the document's; the law. The law MatchingExact. The made values: each is a finite float (closed evaluations), for every number. The made values have exponents, on which both functions agree (closed evaluations). The document's Pack, as a plain function of the entries. What Pack gives is a valid matrix; made matrices. The law MatchingMade. -/
import Derived.Test.YtkpillimphadkaaDoorVc
import Derived.Test.YtkpillimphadkaaDoorFn

/-! TdLa -/
set_option linter.unusedVariables false
set_option linter.unusedSimpArgs false
namespace Go.Vs.F
/-! ### Lists of numbers -/
theorem Ints_L0 (m : Nat) (a b : List Int) (hl : a.length = b.length) (hb : a.length < 4611686018427387904) : ∀ (n k : Nat), a.length - k < n →
    g10_L0 m n a b (k : Int) = some (if a.drop k = b.drop k then .inr (.inl ()) else .inl (false, ()))
  | 0, k, h => by omega
  | n + 1, k, h => by
    rw [g10_L0]
    by_cases hk : k < a.length
    · have hk' : k < b.length := by omega
      have h1 : ((k : Int) < (a.length : Int)) := by omega
      have h2 : ((k : Int) < (b.length : Int)) := by omega
      simp only [bif_decide, h1, h2, if_true, bif_ne, Int.toNat_natCast, Int.natCast_nonneg, and_self, wsucc (show k < 4611686018427387904 by omega)]
      rw [drop_cons (d := 0) hk, drop_cons (d := 0) hk', Ints_L0 m a b hl hb n (k + 1) (by omega)]
      by_cases e : a.getD k 0 = b.getD k 0
      · simp only [e, if_true, List.cons.injEq, true_and]
      · simp only [e, if_false, List.cons.injEq, false_and]
    · have h1 : ¬ ((k : Int) < (a.length : Int)) := by omega
      simp only [bif_decide, h1, if_false]
      rw [drop_nil' hk, drop_nil' (by omega : ¬ k < b.length)]; simp
/-! ### Finite floats -/
theorem and_lt {x : Int} : 0 ≤ b_and_ .u64 x 2047 ∧ b_and_ .u64 x 2047 < 2048 := by
  unfold b_and_
  have h : (BitVec.ofInt IntKind.u64.bits x &&& BitVec.ofInt IntKind.u64.bits 2047).toNat < 2048 := by
    rw [BitVec.toNat_and]
    have : (BitVec.ofInt IntKind.u64.bits 2047).toNat = 2047 := by decide
    rw [this]
    exact Nat.lt_of_le_of_lt Nat.and_le_right (by decide)
  generalize (BitVec.ofInt IntKind.u64.bits x &&& BitVec.ofInt IntKind.u64.bits 2047).toNat = y at h
  rw [wu (by omega) (by omega)]; omega
def finB (x : Int) : Bool := b_and_ .u64 (shr_ .u64 x 52) 2047 != 2047
theorem IsFinite_eq {m : Nat} {x : Int} : g42 m x = some (finB x, (), ()) := by
  rw [g42, g60]
  have := and_lt (x := shr_ .u64 x 52)
  simp only [Option.bind_some, wi (show (-9223372036854775808 : Int) ≤ b_and_ .u64 (shr_ .u64 x 52) 2047 by omega) (by omega)]
  rfl
def finL (a : List Int) : Bool := allFrom (fun i => finB (a.getD i 0)) 0 a.length
theorem IndexFunc_L0 (m : Nat) (a : List Int) (hb : a.length < 4611686018427387904) : ∀ (n k : Nat), a.length - k < n →
    ∃ j : Nat, g59_L0 m n a (a.length : Int) (k : Int) = some (bif allFrom (fun i => finB (a.getD i 0)) k a.length then .inr (.inl ()) else .inl ((j : Int), ()))
  | 0, k, h => by omega
  | n + 1, k, h => by
    rw [g59_L0]
    by_cases hk : k < a.length
    · have h1 : ((k : Int) < (a.length : Int)) := by omega
      obtain ⟨j, hj⟩ := IndexFunc_L0 m a hb n (k + 1) (by omega)
      simp only [bif_decide, h1, if_true, Int.toNat_natCast, Int.natCast_nonneg, and_self, wsucc (show k < 4611686018427387904 by omega), g41, IsFinite_eq, Option.bind_some]
      rw [allFrom_step hk, hj]
      cases finB (a.getD k 0)
      · exact ⟨k, by simp⟩
      · exact ⟨j, by simp⟩
    · have h1 : ¬ ((k : Int) < (a.length : Int)) := by omega
      simp only [bif_decide, h1, if_false]
      rw [allFrom_end hk]; exact ⟨0, rfl⟩
theorem ContainsFunc_eq {m : Nat} {a : List Int} (h : a.length < m) (hb : a.length < 4611686018427387904) : g40 m a = some (!finL a, (), (), ()) := by
  rw [g40, g59]
  obtain ⟨j, this⟩ := IndexFunc_L0 m a hb m 0 (by omega)
  simp only [Int.cast_ofNat_Int, Int.natCast_zero, Int.ofNat_zero] at this
  rw [this]
  unfold finL
  cases allFrom (fun i => finB (a.getD i 0)) 0 a.length
  · simp
  · simp
end Go.Vs.F

/-! TdLb -/
set_option linter.unusedVariables false
set_option linter.unusedSimpArgs false
namespace Go.Vs.F
/-! ### Sorted -/
def le2 (S : List Int) (i : Nat) : Bool := decide (S.getD i 0 ≤ S.getD (i + 1) 0)
theorem IsSorted_L0 (m : Nat) (S : List Int) (hb : S.length < 4611686018427387904) : ∀ (n k : Nat), k < n → k < S.length →
    g58_L0 m n S (k : Int) = some (bif allFrom (le2 S) 0 k then .inr (.inl ()) else .inl (false, ()))
  | 0, k, h, _ => by omega
  | n + 1, 0, h, h0 => by
    rw [g58_L0]
    simp [allFrom]
  | n + 1, k + 1, h, h0 => by
    rw [g58_L0]
    have h1 : (((k + 1 : Nat) : Int) > 0) := by omega
    have h2 : (((k + 1 : Nat) : Int) < (S.length : Int)) := by omega
    have h3 : ((k : Int) < (S.length : Int)) := by omega
    have hp : IntKind.wrap .i64 (((k + 1 : Nat) : Int) - 1) = (k : Int) := by rw [wi (by omega) (by omega)]; omega
    have e1 : S.getD (k + 1) 0 ≠ S.getD (k + 1) 0 ↔ False := by simp
    simp only [bif_decide, h1, h2, h3, if_true, hp, Int.toNat_natCast, Int.natCast_nonneg, and_self, g77, g90, Option.bind_some, bif_ne]
    rw [IsSorted_L0 m S hb n k (by omega) (by omega)]
    have e : allFrom (le2 S) 0 (k + 1) = (allFrom (le2 S) 0 k && le2 S k) := by
      rw [Bool.eq_iff_iff, Bool.and_eq_true, allFrom_iff, allFrom_iff]
      constructor
      · intro h; exact ⟨fun i a b => h i a (by omega), h k (by omega) (by omega)⟩
      · rintro ⟨g1, g2⟩ i a b
        rcases Nat.lt_or_ge i k with h | h
        · exact g1 i a h
        · have : i = k := by omega
          rw [this]; exact g2
    rw [e]
    unfold le2
    by_cases hlt : S.getD (k + 1) 0 < S.getD k 0
    · have : ¬ S.getD k 0 ≤ S.getD (k + 1) 0 := by omega
      simp [-List.getD_eq_getElem?_getD, hlt, this]
    · have : S.getD k 0 ≤ S.getD (k + 1) 0 := by omega
      simp [-List.getD_eq_getElem?_getD, hlt, this]
theorem IsSorted_eq {m : Nat} {S : List Int} (h : S.length < m) (h0 : 0 < S.length) (hb : S.length < 4611686018427387904) : g58 m S = some (allFrom (le2 S) 0 (S.length - 1), (), ()) := by
  rw [g58, show w_i64 ((S.length : Int) - 1) = ((S.length - 1 : Nat) : Int) by show IntKind.wrap .i64 _ = _; rw [wi (by omega) (by omega)]; omega, IsSorted_L0 m S hb m (S.length - 1) (by omega) (by omega)]
  cases allFrom (le2 S) 0 (S.length - 1) <;> rfl
/-! ### Rows of a column ascend -/
def ascB (R : Int) : Int → List Int → Bool
  | _, [] => true
  | l, x :: xs => (decide (l < x) && decide (x < R)) && ascB R x xs
theorem columns_L1 (m : Nat) (R C : Int) (S I V xs : List Int) (a b : Int) (hb : xs.length < 4611686018427387904) : ∀ (n k : Nat) (l : Int), xs.length - k < n →
    g39_L1 m n R C S I V l a b xs (xs.length : Int) (k : Int) = some (bif ascB R l (xs.drop k) then .inr (.inl ((R, C, S, I, V, ()), a, b, ())) else .inl (false, ()))
  | 0, k, _, h => by omega
  | n + 1, k, l, h => by
    rw [g39_L1]
    by_cases hk : k < xs.length
    · have h1 : ((k : Int) < (xs.length : Int)) := by omega
      simp only [bif_decide, h1, if_true, Int.toNat_natCast, Int.natCast_nonneg, and_self, wsucc (show k < 4611686018427387904 by omega)]
      rw [drop_cons (d := 0) hk, columns_L1 m R C S I V xs a b hb n (k + 1) _ (by omega), ascB]
      by_cases e1 : xs.getD k 0 ≤ l
      · have e2 : ¬ l < xs.getD k 0 := by omega
        simp [-List.getD_eq_getElem?_getD, e1, e2]
      · have e2 : l < xs.getD k 0 := by omega
        by_cases e3 : xs.getD k 0 ≥ R
        · have e4 : ¬ xs.getD k 0 < R := by omega
          simp [-List.getD_eq_getElem?_getD, e1, e2, e3, e4]
        · have e4 : xs.getD k 0 < R := by omega
          simp [-List.getD_eq_getElem?_getD, e1, e2, e3, e4]
    · have h1 : ¬ ((k : Int) < (xs.length : Int)) := by omega
      simp only [bif_decide, h1, if_false]
      rw [drop_nil' hk]; rfl
/- The rows of column j. -/
def colOf (S I : List Int) (j : Nat) : List Int := (I.drop (S.getD j 0).toNat).take ((S.getD (j + 1) 0).toNat - (S.getD j 0).toNat)
structure StartOK (C : Nat) (S I : List Int) : Prop where
  len : S.length = C + 1
  s0 : S.getD 0 0 = 0
  mono : ∀ j, j < C → S.getD j 0 ≤ S.getD (j + 1) 0
  last : S.getD C 0 = (I.length : Int)
theorem StartOK.le {C : Nat} {S I : List Int} (h : StartOK C S I) : ∀ {i j : Nat}, i ≤ j → j ≤ C → S.getD i 0 ≤ S.getD j 0
  | i, 0, h1, h2 => by have : i = 0 := by omega
                       subst this; exact Int.le_refl _
  | i, j + 1, h1, h2 => by
    rcases Nat.lt_or_ge i (j + 1) with h3 | h3
    · exact Int.le_trans (h.le (by omega) (by omega)) (h.mono j (by omega))
    · have : i = j + 1 := by omega
      subst this; exact Int.le_refl _
theorem StartOK.rng {C : Nat} {S I : List Int} (h : StartOK C S I) {j : Nat} (hj : j ≤ C) : 0 ≤ S.getD j 0 ∧ S.getD j 0 ≤ (I.length : Int) := by
  have a := h.le (Nat.zero_le j) hj
  have b := h.le hj (Nat.le_refl C)
  rw [h.s0] at a; rw [h.last] at b
  exact ⟨a, b⟩
theorem colOf_len {C : Nat} {S I : List Int} (h : StartOK C S I) {j : Nat} (hj : j < C) : (colOf S I j).length = (S.getD (j + 1) 0).toNat - (S.getD j 0).toNat := by
  have a := h.rng (j := j) (by omega)
  have b := h.rng (j := j + 1) (by omega)
  unfold colOf
  rw [List.length_take, List.length_drop]; omega
theorem colOf_get {C : Nat} {S I : List Int} (h : StartOK C S I) {j : Nat} (hj : j < C) {k : Nat} (hk : k < (colOf S I j).length) : (colOf S I j).getD k 0 = I.getD ((S.getD j 0).toNat + k) 0 := by
  rw [colOf_len h hj] at hk
  unfold colOf
  rw [getD_take hk, getD_drop]
theorem columns_L0 (m : Nat) (R C : Int) (c : Nat) (S I V : List Int) (hC : C = (c : Int)) (hok : StartOK c S I) (hb : I.length < 4611686018427387904) (hc : c < 4611686018427387904) (hm : I.length < m) : ∀ (n k : Nat), c - k < n → k ≤ c →
    g39_L0 m n R C S I V C (k : Int) = some (bif allFrom (fun j => ascB R (-1) (colOf S I j)) k c then .inr (.inl ()) else .inl (false, ()))
  | 0, k, h, _ => by omega
  | n + 1, k, h, hk0 => by
    rw [g39_L0]
    subst hC
    by_cases hk : k < c
    · have h1 : ((k : Int) < (c : Int)) := by omega
      have hl := hok.len
      have h2 : ((k : Int) < (S.length : Int)) := by omega
      have h3 : (((k + 1 : Nat) : Int) < (S.length : Int)) := by omega
      have a := hok.rng (j := k) (by omega)
      have b := hok.rng (j := k + 1) (by omega)
      have d := hok.mono k hk
      have hlen : (colOf S I k).length ≤ I.length := by rw [colOf_len hok hk]; omega
      simp only [bif_decide, h1, h2, h3, if_true, Int.toNat_natCast, Int.natCast_nonneg, and_self, wsucc (show k < 4611686018427387904 by omega), a.1, b.2, d]
      have e := columns_L1 m R (c : Int) S I V (colOf S I k) (c : Int) (k : Int) (by omega) m 0 (-1) (by omega)
      simp only [Int.cast_ofNat_Int, Int.natCast_zero, Int.ofNat_zero, List.drop_zero] at e
      unfold colOf at e ⊢
      rw [e, allFrom_step hk]
      cases hA : ascB R (-1) ((I.drop (S.getD k 0).toNat).take ((S.getD (k + 1) 0).toNat - (S.getD k 0).toNat))
      · simp
      · have := columns_L0 m R (c : Int) c S I V rfl hok hb hc hm n (k + 1) (by omega) (by omega)
        unfold colOf at this
        simp only [cond_true, Bool.true_and, Option.bind_some, wsucc (show k < 4611686018427387904 by omega)]
        exact this
    · have h1 : ¬ ((k : Int) < (c : Int)) := by omega
      simp only [bif_decide, h1, if_false]
      rw [allFrom_end hk]; rfl
/-! ### The program's check of the structure -/
def entOK (R : Int) (S I : List Int) (j k : Nat) : Bool :=
  decide (0 ≤ I.getD k 0) && decide (I.getD k 0 < R) && (!decide ((S.getD j 0).toNat < k) || decide (I.getD (k - 1) 0 < I.getD k 0))
def colEnt (R : Int) (S I : List Int) (j : Nat) : Bool := allFrom (entOK R S I j) (S.getD j 0).toNat (S.getD (j + 1) 0).toNat
theorem ascB_iff (R : Int) (I : List Int) (s e : Nat) (he : e ≤ I.length) : ∀ (d k : Nat) (l : Int), e - k = d → s ≤ k → -1 ≤ l → (k = s → l = -1) → (s < k → l = I.getD (k - 1) 0) →
    ascB R l ((I.drop k).take (e - k)) = allFrom (fun k => decide (0 ≤ I.getD k 0) && decide (I.getD k 0 < R) && (!decide (s < k) || decide (I.getD (k - 1) 0 < I.getD k 0))) k e
  | 0, k, l, hd, hk, hl, h1, h2 => by
    rw [hd, allFrom_end (by omega)]; simp [ascB]
  | d + 1, k, l, hd, hk, hl, h1, h2 => by
    have hke : k < e := by omega
    have hki : k < I.length := by omega
    rw [allFrom_step hke, drop_cons (d := 0) hki, hd, List.take_succ_cons, ascB]
    by_cases hx : l < I.getD k 0
    · have ih := ascB_iff R I s e he d (k + 1) (I.getD k 0) (by omega) (by omega) (by omega) (by omega) (fun _ => by simp)
      rw [show e - (k + 1) = d by omega] at ih
      rw [ih]
      have h0 : 0 ≤ I.getD k 0 := by omega
      by_cases hs : s < k
      · have := h2 hs
        simp [-List.getD_eq_getElem?_getD, hx, h0, hs, ← this]
      · simp [-List.getD_eq_getElem?_getD, hx, h0, hs]
    · by_cases hs : s < k
      · have := h2 hs
        simp [-List.getD_eq_getElem?_getD, hx, hs, ← this]
      · have : l = -1 := h1 (by omega)
        have h0 : ¬ 0 ≤ I.getD k 0 := by omega
        simp [-List.getD_eq_getElem?_getD, hx, h0]
theorem colEnt_eq {R : Int} {C : Nat} {S I : List Int} (h : StartOK C S I) {j : Nat} (hj : j < C) : ascB R (-1) (colOf S I j) = colEnt R S I j := by
  have a := h.rng (j := j) (by omega)
  have b := h.rng (j := j + 1) (by omega)
  exact ascB_iff R I _ _ (by omega) _ _ _ rfl (Nat.le_refl _) (by omega) (fun _ => rfl) (fun h => absurd h (Nat.lt_irrefl _))
/- The structure is valid (the sizes are). -/
def strB (R C : Int) (S I V : List Int) : Bool :=
  decide ((S.length : Int) = C + 1) && decide (S.getD 0 0 = 0) && allFrom (le2 S) 0 C.toNat && decide (S.getD C.toNat 0 = (I.length : Int)) && decide (I.length = V.length) && allFrom (fun j => colEnt R S I j) 0 C.toNat
theorem columns_eq {m : Nat} {R C : Int} {S I V : List Int} (hC : 0 ≤ C) (hC2 : C ≤ 200) (hI : I.length ≤ 10000) (hS : S.length < m) (hm : 11000 < m) (hb : S.length < 4611686018427387904) :
    g39 m R C S I V = some (strB R C S I V, (), ()) := by
  obtain ⟨c, rfl⟩ : ∃ c : Nat, C = (c : Int) := ⟨C.toNat, by omega⟩
  rw [g39, strB]
  simp only [bif_ne, wi (show (-9223372036854775808 : Int) ≤ (c : Int) + 1 by omega) (by omega), Int.toNat_natCast]
  by_cases h1 : (S.length : Int) = (c : Int) + 1
  · have hl : S.length = c + 1 := by omega
    have h2 : (0 : Int) ≤ 0 ∧ (0 : Int) < (S.length : Int) := by omega
    simp only [h1, if_true, decide_true, Bool.true_and]
    rw [← h1, if_pos h2]
    by_cases h3 : S.getD 0 0 = 0
    · rw [IsSorted_eq hS (by omega) hb]
      simp only [h3, if_true, decide_true, Bool.true_and, Option.bind_some, show S.length - 1 = c by omega]
      cases h4 : allFrom (le2 S) 0 c
      · simp
      · have h5 : (0 : Int) ≤ (c : Int) ∧ (c : Int) < (S.length : Int) := by omega
        simp only [bif_not, cond_true, Bool.true_and]
        rw [if_pos h5]
        by_cases h6 : S.getD c 0 = (I.length : Int)
        · by_cases h7 : I.length = V.length
          · have h8 : (I.length : Int) = (V.length : Int) := by omega
            have hok : StartOK c S I := ⟨hl, h3, fun j hj => by
              have := allFrom_iff.1 h4 j (by omega) hj
              simpa [-List.getD_eq_getElem?_getD, le2] using this, h6⟩
            have := columns_L0 m R (c : Int) c S I V rfl hok (by omega) (by omega) (by omega) m 0 (by omega) (by omega)
            simp only [Int.cast_ofNat_Int, Int.natCast_zero, Int.ofNat_zero] at this
            rw [if_pos h6, if_pos h8, this, allFrom_congr (q := fun j => colEnt R S I j) (fun j _ hj => colEnt_eq hok hj)]
            simp only [h6, h7, decide_true, Bool.true_and]
            cases allFrom (fun j => colEnt R S I j) 0 c <;> rfl
          · have h8 : ¬ (I.length : Int) = (V.length : Int) := by omega
            rw [if_pos h6, if_neg h8]
            simp [h7]
        · rw [if_neg h6]
          simp [-List.getD_eq_getElem?_getD, h6]
    · rw [if_neg h3]
      simp [-List.getD_eq_getElem?_getD, h3]
  · rw [if_neg h1]
    simp [h1]
/- The check's answer. -/
def chk (R C : Int) (S I V : List Int) : Int :=
  if (decide (0 ≤ R) && decide (R ≤ 200) && decide (0 ≤ C) && decide (C ≤ 200) && decide (I.length ≤ 10000)) = false then 6 else if strB R C S I V = false then 1 else if finL V = false then 4 else 0
theorem within_eq {m : Nat} {n lo hi : Int} : g38 m n lo hi = some (decide (lo ≤ n) && decide (n ≤ hi), (), (), (), ()) := by
  rw [g38]
  by_cases h : n ≥ lo
  · have : lo ≤ n := h
    simp [h, this]
  · have : ¬ lo ≤ n := h
    simp [h, this]
theorem g24_eq {m : Nat} {R C : Int} {S I V : List Int} (hS : S.length < m) (hV : V.length < m) (hm : 11000 < m) (hb : S.length < 4611686018427387904) (hv : V.length < 4611686018427387904) :
    g24 m R C S I V = some (chk R C S I V, (), ()) := by
  rw [g24, chk, within_eq, within_eq]
  by_cases h1 : 0 ≤ R <;> by_cases h2 : R ≤ 200 <;> by_cases h3 : 0 ≤ C <;> by_cases h4 : C ≤ 200 <;> simp [h1, h2, h3, h4]
  by_cases h5 : I.length ≤ 10000
  · have h6 : ¬ (10000 : Int) < (I.length : Int) := by omega
    have h7 : ¬ 10000 < I.length := by omega
    rw [columns_eq h3 h4 h5 hS hm hb, ContainsFunc_eq hV hv]
    simp only [h6, h7, h5, if_false, Option.bind_some]
    cases strB R C S I V
    · simp
    · cases finL V <;> simp
  · have h6 : (10000 : Int) < (I.length : Int) := by omega
    have h7 : 10000 < I.length := by omega
    simp [h5, h6, h7]
end Go.Vs.F

/-! TdLc -/
set_option linter.unusedVariables false
set_option linter.unusedSimpArgs false
namespace Go.Vs.F
end Go.Vs.F

/-! TdLd -/
set_option linter.unusedVariables false
set_option linter.unusedSimpArgs false
namespace Go.Vs.F
structure St where
  row : List Int
  col : List Int
  mr : List Bool
/-! ### It ends -/
/-! ### The program's search -/
end Go.Vs.F

/-! TdLe -/
set_option linter.unusedVariables false
set_option linter.unusedSimpArgs false
namespace Go.Vs.F
/- The edges of a matrix. -/
def edgesOf (C : Nat) (S I : List Int) : List (List Int) := (List.range C).map (colOf S I)
theorem edgesOf_get {C : Nat} {S I : List Int} {j : Nat} (hj : j < C) : (edgesOf C S I).getD j [] = colOf S I j := by
  simp [edgesOf, List.getD, hj]
/- A valid structure. -/
structure MatOK (R C : Nat) (S I : List Int) : Prop where
  st : StartOK C S I
  ent : ∀ j, j < C → colEnt (R : Int) S I j = true
  sz : I.length ≤ 10000
  cz : C ≤ 200
  rz : R ≤ 200
theorem MatOK.row {R C : Nat} {S I : List Int} (h : MatOK R C S I) {j : Nat} (hj : j < C) {k : Nat} (h1 : (S.getD j 0).toNat ≤ k) (h2 : k < (S.getD (j + 1) 0).toNat) : 0 ≤ I.getD k 0 ∧ I.getD k 0 < (R : Int) := by
  have := allFrom_iff.1 (h.ent j hj) k h1 h2
  simp only [entOK, Bool.and_eq_true, decide_eq_true_eq] at this
  exact this.1
end Go.Vs.F

/-! TdLf -/
set_option linter.unusedVariables false
set_option linter.unusedSimpArgs false
namespace Go.Vs.F
/-! ### The program's -/
/- One column, by the program. -/
/-! ### The document's -/
/-! ### The check tells -/
end Go.Vs.F

/-! TdLg -/
set_option linter.unusedVariables false
set_option linter.unusedSimpArgs false
namespace Go.Vs.F
inductive Rch (E : List (List Int)) (C : Nat) (row col : List Int) : Nat → Prop
  | base {j : Nat} : j < C → row.getD j 0 = -1 → Rch E C row col j
  | step {j : Nat} {i : Int} : Rch E C row col j → i ∈ E.getD j [] → col.getD i.toNat 0 ≠ -1 → Rch E C row col (col.getD i.toNat 0).toNat
open Classical in
noncomputable def finC (E : List (List Int)) (C : Nat) (row col : List Int) : List Bool := (List.range C).map fun j => decide (Rch E C row col j)
open Classical in
structure Q where
  rw_ : List Bool
  cl : List Bool
  td : List Int
/- Sizes. -/
/- What holds between two columns. -/
section
variable {E : List (List Int)} {R C : Nat} {row col : List Int}
end
end Go.Vs.F

/-! TdLh -/
set_option linter.unusedVariables false
set_option linter.unusedSimpArgs false
namespace Go.Vs.F
theorem getD_memI {xs : List Int} {k : Nat} (h : k < xs.length) : xs.getD k 0 ∈ xs := by simp [List.getD, h]
section
variable {E : List (List Int)} {R C : Nat}
/-! ### The program's -/
/- The start: the columns that are not matched. -/
end
end Go.Vs.F

/-! TdLi -/
set_option linter.unusedVariables false
set_option linter.unusedSimpArgs false
namespace Go.Vs.F
section
variable {R C : Nat} {S I V : List Int}
end
/-! ### The indices that have a value -/
/-! ### Maximum and Cover -/
/- What both answer. -/
end Go.Vs.F

/-! TdLj -/
set_option linter.unusedVariables false
set_option linter.unusedSimpArgs false
namespace Go.Vs.F
/- How many columns are matched, if it is a matching. -/
/-! ### The cover -/
/- Each edge has its row or its column in the cover. -/
/- What both checks answer of a valid matrix. -/
end Go.Vs.F

/-! TdLk -/
set_option linter.unusedVariables false
set_option linter.unusedSimpArgs false
namespace Go.Vs.F
theorem colOf_range {R C : Nat} {S I : List Int} (h : MatOK R C S I) {j : Nat} (hj : j < C) : colOf S I j = (List.range' (S.getD j 0).toNat ((S.getD (j + 1) 0).toNat - (S.getD j 0).toNat)).map fun t => I.getD t 0 := by
  refine ext_getD 0 (by rw [colOf_len h.st hj]; simp) fun k hk => ?_
  rw [colOf_get h.st hj hk]
  rw [colOf_len h.st hj] at hk
  have e : ∀ s n, k < n → (List.range' s n)[k]? = some (s + k) := fun s n h => by rw [List.getElem?_range' h, Nat.one_mul]
  have e2 : ∀ l : List Nat, (l.map fun t => I.getD t 0).getD k 0 = ((l[k]?).map fun t => I.getD t 0).getD 0 := fun l => by rw [List.getD, List.getElem?_map]
  rw [e2, e _ _ hk]; rfl
section
variable {R C : Nat} {S I V : List Int}
/- The matched columns, counted as the document does. -/
/-! ### Ascending and in range -/
/-! ### Entries -/
def entCol (S I V : List Int) (j k e : Nat) : List (Int × Int × Int) := (List.range' k (e - k)).map fun t => (I.getD t 0, (j : Int), V.getD t 0)
def ents (S I V : List Int) : Nat → Nat → List (Int × Int × Int)
  | 0, _ => []
  | d + 1, k => entCol S I V k (S.getD k 0).toNat (S.getD (k + 1) 0).toNat ++ ents S I V d (k + 1)
theorem entCol_len {j k e : Nat} : (entCol S I V j k e).length = e - k := by simp [entCol]
theorem entCol_step {j k e : Nat} (h : k < e) : entCol S I V j k e = (I.getD k 0, (j : Int), V.getD k 0) :: entCol S I V j (k + 1) e := by
  unfold entCol
  rw [show e - k = (e - (k + 1)) + 1 by omega, List.range'_succ]; rfl
theorem entCol_all {p : Int → Int → Bool} (hM : MatOK R C S I) {j : Nat} (hj : j < C) : (entCol S I V j (S.getD j 0).toNat (S.getD (j + 1) 0).toNat).all (fun e => p e.1 e.2.1) = (colOf S I j).all (fun i => p i (j : Int)) := by
  rw [colOf_range hM hj, entCol, List.all_map, List.all_map]; rfl
theorem ents_all {p : Int → Int → Bool} (hM : MatOK R C S I) : ∀ (d k : Nat), C - k = d → k ≤ C → (ents S I V d k).all (fun e => p e.1 e.2.1) = allFrom (fun j => ((edgesOf C S I).getD j []).all (fun i => p i (j : Int))) k C
  | 0, k, hd, hk => by rw [allFrom_end (by omega)]; rfl
  | d + 1, k, hd, hk => by
    rw [ents, List.all_append, entCol_all hM (by omega : k < C), ents_all hM d (k + 1) (by omega) (by omega), allFrom_step (by omega : k < C), edgesOf_get (by omega)]
theorem ents_len (hM : MatOK R C S I) : ∀ (d k : Nat), C - k = d → k ≤ C → (ents S I V d k).length = (S.getD C 0).toNat - (S.getD k 0).toNat
  | 0, k, hd, hk => by
    have : k = C := by omega
    subst this; simp [ents]
  | d + 1, k, hd, hk => by
    have a := hM.st.rng (j := k) (by omega)
    have b := hM.st.rng (j := k + 1) (by omega)
    have c := hM.st.rng (j := C) (by omega)
    have dd := hM.st.mono k (by omega)
    have e := hM.st.le (i := k + 1) (j := C) (by omega) (by omega)
    rw [ents, List.length_append, entCol_len, ents_len hM d (k + 1) (by omega) (by omega)]; omega
end
end Go.Vs.F

/-! TdLm -/
set_option linter.unusedVariables false
set_option linter.unusedSimpArgs false
set_option maxRecDepth 100000
namespace Go.Vs.F
end Go.Vs.F

/-! TdMa -/
set_option linter.unusedVariables false
set_option maxRecDepth 100000
namespace Go.Vs.F
def valC (m : Nat) (a e : Int) : Option (Int × Unit × Unit) :=
  (g23 m a).bind fun y2 =>
  (g22 m y2.1.1 y2.1.2.1 y2.1.2.2.1 y2.1.2.2.2.1 e).bind fun y3 =>
  (g21 m y3.1.1 y3.1.2.1 y3.1.2.2.1 y3.1.2.2.2.1 0).bind fun y4 =>
  some (y4.1, ((), ()))
def eqV : Option (Int × Unit × Unit) → Option (Int × Unit × Unit) → Bool
  | some v, some w => v.1 == w.1 && finB v.1
  | _, _ => false
theorem wu_rng (a : Int) : 0 ≤ IntKind.wrap .u64 a ∧ IntKind.wrap .u64 a < 18446744073709551616 := by
  have e : IntKind.wrap .u64 a = a % 18446744073709551616 := by
    unfold IntKind.wrap
    show (if (false && decide (a % 18446744073709551616 ≥ 9223372036854775808)) = true then a % 18446744073709551616 - 18446744073709551616 else a % 18446744073709551616) = _
    simp only [Bool.false_and]; rfl
  rw [e]; omega
theorem wu_nat (a : Int) : ∃ x : Nat, IntKind.wrap .u64 a = (x : Int) ∧ x < 18446744073709551616 :=
  ⟨(IntKind.wrap .u64 a).toNat, by have := wu_rng a; omega, by have := wu_rng a; omega⟩
theorem tm (x n : Nat) : Int.tmod (x : Int) (n : Int) = ((x % n : Nat) : Int) := by
  rw [Int.tmod_eq_emod_of_nonneg (by omega)]; rfl
theorem td (x n : Nat) : Int.tdiv (x : Int) (n : Int) = ((x / n : Nat) : Int) := by
  rw [Int.tdiv_eq_ediv_of_nonneg (by omega)]; rfl
theorem Place_eq {a : Int} {n : Nat} (h0 : 0 < n) (hn : n < 4611686018427387904) : ∃ k : Nat, k < n ∧ ∀ m, g5 m a (n : Int) = some ((k : Int), (), (), ()) := by
  obtain ⟨x, hx, _⟩ := wu_nat a
  refine ⟨x % n, Nat.mod_lt _ h0, fun m => ?_⟩
  have hl := Nat.mod_lt x h0
  rw [g5]
  simp only [w_u64, w_i64, hx, wu (n := (n : Int)) (by omega) (by omega)]
  rw [if_pos (by omega), tm, wi (by omega) (by omega)]
end Go.Vs.F

/-! TdPa -/
set_option linter.unusedVariables false
set_option maxRecDepth 100000
namespace Go.Vs.F
def expB (j : Nat) (v : Int) : Bool := match g28 (j + 100) v, g28 100 v with
  | some a, some c => (a.1.1 == c.1.1) && ((a.1.2.1 == c.1.2.1) && (decide (-40 ≤ c.1.1) && decide (c.1.1 ≤ 40)))
  | _, _ => false
def expOf (v : Int) : Int × Bool := match g28 100 v with
  | some c => (c.1.1, c.1.2.1)
  | none => (0, false)
structure GoodV (v : Int) : Prop where
  fin : finB v = true
  lo : -40 ≤ (expOf v).1
  hi : (expOf v).1 ≤ 40
  float : ∀ m, 100 ≤ m → g28 m v = some (((expOf v).1, (expOf v).2, ()), (), ())
def eqW (j : Nat) : Option (Int × Unit × Unit) → Option (Int × Unit × Unit) → Bool
  | some v, some w => v.1 == w.1 && (finB v.1 && expB j v.1)
  | _, _ => false
theorem expB_good {v : Int} (hf : finB v = true) (h : ∀ j, expB j v = true) : GoodV v := by
  have key : ∀ j, ∃ a c, g28 (j + 100) v = some a ∧ g28 100 v = some c ∧ a.1.1 = c.1.1 ∧ a.1.2.1 = c.1.2.1 ∧ -40 ≤ c.1.1 ∧ c.1.1 ≤ 40 := by
    intro j
    have hj := h j
    unfold expB at hj
    split at hj
    · rename_i a c e1 e3
      simp only [Bool.and_eq_true, beq_iff_eq, decide_eq_true_eq] at hj
      obtain ⟨h1, h2, h5, h6⟩ := hj
      exact ⟨a, c, e1, e3, h1, h2, h5, h6⟩
    · cases hj
  obtain ⟨a0, c, _, ec, _, _, lo, hi⟩ := key 0
  have eo : expOf v = (c.1.1, c.1.2.1) := by simp only [expOf, ec]
  refine ⟨hf, by rw [eo]; exact lo, by rw [eo]; exact hi, fun m hm => ?_⟩
  obtain ⟨j, rfl⟩ : ∃ j, m = j + 100 := ⟨m - 100, by omega⟩
  obtain ⟨a, c', e1, e3, h1, h2, _, _⟩ := key j
  rw [ec] at e3; cases e3
  rw [e1, eo]
  obtain ⟨⟨a1, a2, a3⟩, a4, a5⟩ := a
  simp only at h1 h2
  rw [h1, h2]
theorem eqW_all {a e : Int} (h : ∀ j, eqW j (valC 100 a e) (valC (j + 100) a e) = true) : ∃ v, GoodV v ∧ ∀ m, 100 ≤ m → valC m a e = some (v, (), ()) := by
  cases e0 : valC 100 a e with
  | none => have := h 0; rw [e0] at this; cases this
  | some v =>
    have hv : ∀ j, ∃ w, valC (j + 100) a e = some w ∧ v.1 = w.1 ∧ finB v.1 = true ∧ expB j v.1 = true := by
      intro j
      have hj := h j
      rw [e0] at hj
      cases e1 : valC (j + 100) a e with
      | none => rw [e1] at hj; cases hj
      | some w =>
        rw [e1] at hj
        simp only [eqW, Bool.and_eq_true, beq_iff_eq] at hj
        exact ⟨w, rfl, hj.1, hj.2.1, hj.2.2⟩
    obtain ⟨w0, _, _, hf, _⟩ := hv 0
    refine ⟨v.1, expB_good hf (fun j => by obtain ⟨_, _, _, _, g⟩ := hv j; exact g), fun m hm => ?_⟩
    obtain ⟨j, rfl⟩ : ∃ j, m = j + 100 := ⟨m - 100, by omega⟩
    obtain ⟨w, g1, g2, _⟩ := hv j
    rw [g1, g2]
def rowW (j k : Nat) : Bool := (List.range 13).all fun e => eqW j (valC 100 ((k : Int) - 8) ((e : Int) - 6)) (valC (j + 100) ((k : Int) - 8) ((e : Int) - 6))
theorem rowW_0 (j : Nat) : rowW j 0 = true := by kernel_rfl
theorem rowW_1 (j : Nat) : rowW j 1 = true := by kernel_rfl
theorem rowW_2 (j : Nat) : rowW j 2 = true := by kernel_rfl
theorem rowW_3 (j : Nat) : rowW j 3 = true := by kernel_rfl
theorem rowW_4 (j : Nat) : rowW j 4 = true := by kernel_rfl
theorem rowW_5 (j : Nat) : rowW j 5 = true := by kernel_rfl
theorem rowW_6 (j : Nat) : rowW j 6 = true := by kernel_rfl
theorem rowW_7 (j : Nat) : rowW j 7 = true := by kernel_rfl
theorem rowW_8 (j : Nat) : rowW j 8 = true := by kernel_rfl
theorem rowW_9 (j : Nat) : rowW j 9 = true := by kernel_rfl
theorem rowW_10 (j : Nat) : rowW j 10 = true := by kernel_rfl
theorem rowW_11 (j : Nat) : rowW j 11 = true := by kernel_rfl
theorem rowW_12 (j : Nat) : rowW j 12 = true := by kernel_rfl
theorem rowW_13 (j : Nat) : rowW j 13 = true := by kernel_rfl
theorem rowW_14 (j : Nat) : rowW j 14 = true := by kernel_rfl
theorem rowW_15 (j : Nat) : rowW j 15 = true := by kernel_rfl
theorem rowW_16 (j : Nat) : rowW j 16 = true := by kernel_rfl
theorem rowW_all (j : Nat) : ∀ k, k < 17 → rowW j k = true
  | 0, _ => rowW_0 j
  | 1, _ => rowW_1 j
  | 2, _ => rowW_2 j
  | 3, _ => rowW_3 j
  | 4, _ => rowW_4 j
  | 5, _ => rowW_5 j
  | 6, _ => rowW_6 j
  | 7, _ => rowW_7 j
  | 8, _ => rowW_8 j
  | 9, _ => rowW_9 j
  | 10, _ => rowW_10 j
  | 11, _ => rowW_11 j
  | 12, _ => rowW_12 j
  | 13, _ => rowW_13 j
  | 14, _ => rowW_14 j
  | 15, _ => rowW_15 j
  | 16, _ => rowW_16 j
  | k + 17, h => absurd h (by omega)
theorem valW_zero (j : Nat) : ((List.range 17).all fun k => eqW j (valC 100 ((k : Int) - 8) 0) (valC (j + 100) ((k : Int) - 8) 0)) = true := by kernel_rfl
theorem valW_ok {k e : Nat} (hk : k < 17) (he : e < 13) : ∃ v, GoodV v ∧ ∀ m, 100 ≤ m → valC m ((k : Int) - 8) ((e : Int) - 6) = some (v, (), ()) :=
  eqW_all fun j => List.all_eq_true.1 (rowW_all j k hk) e (List.mem_range.2 he)
theorem valWZ_ok {k : Nat} (hk : k < 17) : ∃ v, GoodV v ∧ ∀ m, 100 ≤ m → valC m ((k : Int) - 8) 0 = some (v, (), ()) :=
  eqW_all fun j => List.all_eq_true.1 (valW_zero j) k (List.mem_range.2 hk)
theorem Value_good (n : Int) : ∃ v, GoodV v ∧ ∀ m, 100 ≤ m → g11 m n = some (v, (), ()) := by
  obtain ⟨k, hk, hp⟩ := Place_eq (a := n) (n := 17) (by omega) (by omega)
  obtain ⟨x, hx, hxl⟩ := wu_nat n
  have e17 : Int.tdiv (x : Int) 17 = ((x / 17 : Nat) : Int) := td x 17
  have e3 : Int.tdiv ((x / 17 : Nat) : Int) 3 = ((x / 17 / 3 : Nat) : Int) := td _ 3
  have e13 : Int.tmod ((x / 17 / 3 : Nat) : Int) 13 = ((x / 17 / 3 % 13 : Nat) : Int) := tm _ 13
  have l1 : x / 17 < 9223372036854775808 := by omega
  have l2 : x / 17 / 3 % 13 < 13 := by omega
  obtain ⟨v, hf, hv⟩ := valW_ok hk l2
  obtain ⟨v0, hf0, hv0⟩ := valWZ_ok hk
  have key : ∀ m, g11 m n = if Int.tmod ((x / 17 : Nat) : Int) 3 = 0 then valC m ((k : Int) - 8) (((x / 17 / 3 % 13 : Nat) : Int) - 6) else valC m ((k : Int) - 8) 0 := by
    intro m
    rw [g11]
    rw [show g5 m n 17 = some ((k : Int), (), (), ()) from hp m]
    simp only [Option.bind_some, w_u64, w_i64, hx, e17]
    rw [wu (by omega) (by omega), wi (n := ((x / 17 : Nat) : Int)) (by omega) (by omega), wi (n := (k : Int) - 8) (by omega) (by omega), e3, wi (n := ((x / 17 / 3 : Nat) : Int)) (by omega) (by omega), e13, wi (n := ((x / 17 / 3 % 13 : Nat) : Int) - 6) (by omega) (by omega), bif_eq]
    rfl
  by_cases h : Int.tmod ((x / 17 : Nat) : Int) 3 = 0
  · exact ⟨v, hf, fun m hm => by rw [key, if_pos h, hv m hm]⟩
  · exact ⟨v0, hf0, fun m hm => by rw [key, if_neg h, hv0 m hm]⟩
end Go.Vs.F

/-! TdMb -/
set_option linter.unusedVariables false
set_option linter.unusedSimpArgs false
set_option maxRecDepth 100000
namespace Go.Vs.F
abbrev Ent := Int × Int × Int
/- One more than the last index among the first t entries of cell (i, j), or 0. -/
def lastIx (es : List Ent) (i j : Nat) : Nat → Nat
  | 0 => 0
  | t + 1 => if (es.getD t (0, (0, 0))).1 = (i : Int) ∧ (es.getD t (0, (0, 0))).2.1 = (j : Int) then t + 1 else lastIx es i j t
theorem lastIx_le (es : List Ent) (i j : Nat) : ∀ t, lastIx es i j t ≤ t
  | 0 => Nat.le_refl _
  | t + 1 => by
    rw [lastIx]; split
    · exact Nat.le_refl _
    · exact Nat.le_succ_of_le (lastIx_le es i j t)
def EntsOK (r c : Nat) (es : List Ent) : Prop := ∀ k, k < es.length →
  (0 ≤ (es.getD k (0, (0, 0))).1 ∧ (es.getD k (0, (0, 0))).1 < (r : Int)) ∧ (0 ≤ (es.getD k (0, (0, 0))).2.1 ∧ (es.getD k (0, (0, 0))).2.1 < (c : Int)) ∧ GoodV (es.getD k (0, (0, 0))).2.2
theorem cell {r c i j : Nat} (hi : i < r) (hj : j < c) : j * r + i < r * c := by
  have h1 : (j + 1) * r ≤ c * r := Nat.mul_le_mul_right r hj
  have h2 := Nat.succ_mul j r
  have h3 := Nat.mul_comm r c
  simp only [Nat.succ_eq_add_one] at h2
  omega
theorem cell_inj {r i j i' j' : Nat} (hi : i < r) (hi' : i' < r) (h : j * r + i = j' * r + i') : i = i' ∧ j = j' := by
  rcases Nat.lt_trichotomy j j' with h1 | h1 | h1
  · have := cell (c := j') hi h1
    have := Nat.mul_comm r j'
    omega
  · subst h1; exact ⟨by omega, rfl⟩
  · have := cell (c := j) hi' h1
    have := Nat.mul_comm r j
    omega
theorem area {r c : Nat} (hr : r ≤ 200) (hc : c ≤ 200) : r * c ≤ 40000 := Nat.mul_le_mul hr hc
theorem wcell {r c i j : Nat} (hr : r ≤ 200) (hc : c ≤ 200) (hi : i < r) (hj : j < c) : IntKind.wrap .i64 ((IntKind.wrap .i64 ((j : Int) * (r : Int))) + (i : Int)) = ((j * r + i : Nat) : Int) := by
  have h1 := cell hi hj
  have h2 := area hr hc
  have e : (j : Int) * (r : Int) = ((j * r : Nat) : Int) := (Int.natCast_mul j r).symm
  rw [e, wi (n := ((j * r : Nat) : Int)) (by omega) (by omega), wi (by omega) (by omega)]; omega
variable {es : List Ent} {r c : Nat}
theorem Pack_L0 (m : Nat) (hE : EntsOK r c es) (hr : r ≤ 200) (hc : c ≤ 200) (hl : es.length ≤ 1000000) (a0 a1 : Int) (a2 a3 a4 : List Int) (b0 b1 : Int) (b2 b3 b4 : List Int) : ∀ (n k : Nat) (pos : List Int), es.length - k < n → k ≤ es.length → pos.length = r * c →
    (∀ i j, i < r → j < c → pos.getD (j * r + i) 0 = (lastIx es i j k : Int)) →
    ∃ pos', g13_L0 m n (r : Int) (c : Int) es a0 a1 a2 a3 a4 b0 b1 b2 b3 b4 pos (k : Int) = some (.inl ((r : Int), (c : Int), es, (a0, a1, a2, a3, a4, ()), (b0, b1, b2, b3, b4, ()), pos', ())) ∧ pos'.length = r * c ∧ ∀ i j, i < r → j < c → pos'.getD (j * r + i) 0 = (lastIx es i j es.length : Int)
  | 0, k, pos, hn, _, _, _ => absurd hn (Nat.not_lt_zero _)
  | n + 1, k, pos, hn, hk, hp, hq => by
    rw [g13_L0]
    by_cases h : k < es.length
    · have h1 : (k : Int) < (es.length : Int) := by omega
      obtain ⟨⟨g1, g2⟩, ⟨g3, g4⟩, _⟩ := hE k h
      obtain ⟨i0, hi0⟩ : ∃ i0 : Nat, (es.getD k (0, (0, 0))).1 = (i0 : Int) := ⟨_, (Int.toNat_of_nonneg g1).symm⟩
      obtain ⟨j0, hj0⟩ : ∃ j0 : Nat, (es.getD k (0, (0, 0))).2.1 = (j0 : Int) := ⟨_, (Int.toNat_of_nonneg g3).symm⟩
      have hi : i0 < r := by omega
      have hj : j0 < c := by omega
      have hce := cell hi hj
      rw [bif_decide, if_pos h1]
      simp only [Int.toNat_natCast, hi0, hj0, w_i64, wcell hr hc hi hj, wsucc (k := k) (by omega), Nat.zero_add]
      rw [if_pos (inr h), if_pos (inr h), if_pos (by omega)]
      refine Pack_L0 m hE hr hc hl a0 a1 a2 a3 a4 b0 b1 b2 b3 b4 n (k + 1) _ (by omega) (by omega) (by simp [hp]) ?_
      intro i j hi' hj'
      rw [lastIx, hi0, hj0]
      by_cases he : j0 * r + i0 = j * r + i
      · obtain ⟨e1, e2⟩ := cell_inj hi hi' he
        subst e1; subst e2
        rw [getD_set_eq (by omega), if_pos ⟨rfl, rfl⟩]
      · rw [getD_set_ne he, if_neg, hq i j hi' hj']
        rintro ⟨e1, e2⟩
        exact he (by rw [show i0 = i by omega, show j0 = j by omega])
    · have h1 : ¬ (k : Int) < (es.length : Int) := by omega
      have hke : k = es.length := by omega
      simp only [bif_decide, h1, if_false]
      exact ⟨pos, rfl, hp, fun i j hi hj => by rw [hq i j hi hj, hke]⟩
/- The rows of column j from row i on, and their values. -/
def colR (es : List Ent) (j i d : Nat) : List Nat := (List.range' i d).filter fun i => decide (0 < lastIx es i j es.length)
def colI (es : List Ent) (j i d : Nat) : List Int := (colR es j i d).map fun i : Nat => (i : Int)
def colV (es : List Ent) (j i d : Nat) : List Int := (colR es j i d).map fun i : Nat => (es.getD (lastIx es i j es.length - 1) (0, (0, 0))).2.2
theorem colR_len {j i d : Nat} : (colR es j i d).length ≤ d := by
  have := List.length_filter_le (fun i => decide (0 < lastIx es i j es.length)) (List.range' i d)
  simpa [colR] using this
theorem Pack_L2 (m : Nat) (hr : r ≤ 200) (hc : c ≤ 200) (hl : es.length ≤ 1000000) (a0 a1 : Int) (a2 a3 a4 : List Int) (b0 b1 : Int) (S : List Int) {pos : List Int} (hp : pos.length = r * c)
    (hq : ∀ i j, i < r → j < c → pos.getD (j * r + i) 0 = (lastIx es i j es.length : Int)) {j : Nat} (hj : j < c) : ∀ (d n i : Nat) (I V : List Int), d < n → r - i = d → i ≤ r → I.length + d ≤ 1000000 → V.length + d ≤ 1000000 →
    g13_L2 m n (r : Int) (c : Int) es a0 a1 a2 a3 a4 b0 b1 S I V pos (j : Int) (i : Int) = some (.inl ((r : Int), (c : Int), es, (a0, a1, a2, a3, a4, ()), (b0, b1, S, I ++ colI es j i d, V ++ colV es j i d, ()), pos, (j : Int), ()))
  | d, 0, i, I, V, hn, _, _, _, _ => absurd hn (Nat.not_lt_zero _)
  | 0, n + 1, i, I, V, hn, hd, hi, hI, hV => by
    rw [g13_L2]
    have h1 : ¬ (i : Int) < (r : Int) := by omega
    simp [bif_decide, h1, colI, colV, colR]
  | d + 1, n + 1, i, I, V, hn, hd, hi, hI, hV => by
    rw [g13_L2]
    have hir : i < r := by omega
    have h1 : (i : Int) < (r : Int) := by omega
    have hce := cell hir hj
    have hle := lastIx_le es i j es.length
    rw [bif_decide, if_pos h1]
    simp only [bif_decide, Int.toNat_natCast, w_i64, wcell hr hc hir hj, wsucc (k := i) (by omega), Nat.zero_add, hq i j hir hj]
    rw [if_pos (by omega)]
    by_cases hx : 0 < lastIx es i j es.length
    · have h2 : (lastIx es i j es.length : Int) > 0 := by omega
      have h3 : I.length + ([(i : Int)] : List Int).length ≤ 1073741824 := by simp; omega
      rw [if_pos h2, if_pos h3, wpred (by omega) hx, Int.toNat_natCast]
      have h4 : ∀ x : Int, V.length + ([x] : List Int).length ≤ 1073741824 := by intro x; simp; omega
      rw [if_pos (by omega), if_pos (h4 _)]
      rw [Pack_L2 m hr hc hl a0 a1 a2 a3 a4 b0 b1 S hp hq hj d n (i + 1) _ _ (by omega) (by omega) (by omega) (by simp; omega) (by simp; omega)]
      have e1 : colR es j i (d + 1) = i :: colR es j (i + 1) d := by
        unfold colR; rw [List.range'_succ, List.filter_cons, if_pos (by simpa using hx)]
      simp only [colI, colV, e1, List.map_cons, List.append_assoc, List.singleton_append]
    · have h2 : ¬ (lastIx es i j es.length : Int) > 0 := by omega
      rw [if_neg h2]
      rw [Pack_L2 m hr hc hl a0 a1 a2 a3 a4 b0 b1 S hp hq hj d n (i + 1) _ _ (by omega) (by omega) (by omega) (by omega) (by omega)]
      have e1 : colR es j i (d + 1) = colR es j (i + 1) d := by
        unfold colR; rw [List.range'_succ, List.filter_cons, if_neg (by simpa using hx)]
      simp only [colI, colV, e1]
def packI (es : List Ent) (r : Nat) : Nat → List Int
  | 0 => []
  | j + 1 => packI es r j ++ colI es j 0 r
def packV (es : List Ent) (r : Nat) : Nat → List Int
  | 0 => []
  | j + 1 => packV es r j ++ colV es j 0 r
def packS (es : List Ent) (r j : Nat) : List Int := (List.range (j + 1)).map fun t => ((packI es r t).length : Int)
theorem packV_len (es : List Ent) (r : Nat) : ∀ j, (packV es r j).length = (packI es r j).length
  | 0 => rfl
  | j + 1 => by simp [packV, packI, packV_len es r j, colI, colV]
theorem packI_len (es : List Ent) (r : Nat) : ∀ j, (packI es r j).length ≤ j * r
  | 0 => by simp [packI]
  | j + 1 => by
    have := packI_len es r j
    have h2 := colR_len (es := es) (j := j) (i := 0) (d := r)
    rw [Nat.succ_mul]
    simp only [packI, List.length_append, colI, List.length_map]; omega
theorem packS_succ (es : List Ent) (r j : Nat) : packS es r (j + 1) = packS es r j ++ [((packI es r (j + 1)).length : Int)] := by
  simp [packS, List.range_succ]
theorem Pack_L1 (m : Nat) (hm : 300 < m) (hr : r ≤ 200) (hc : c ≤ 200) (hl : es.length ≤ 1000000) (a0 a1 : Int) (a2 a3 a4 : List Int) (b0 b1 : Int) {pos : List Int} (hp : pos.length = r * c)
    (hq : ∀ i j, i < r → j < c → pos.getD (j * r + i) 0 = (lastIx es i j es.length : Int)) : ∀ (d n j : Nat), d < n → c - j = d → j ≤ c →
    g13_L1 m n (r : Int) (c : Int) es a0 a1 a2 a3 a4 b0 b1 (packS es r j) (packI es r j) (packV es r j) pos (j : Int) = some (.inl ((a0, a1, a2, a3, a4, ()), (b0, b1, packS es r c, packI es r c, packV es r c, ()), ()))
  | d, 0, j, hn, _, _ => absurd hn (Nat.not_lt_zero _)
  | 0, n + 1, j, hn, hd, hj => by
    rw [g13_L1]
    have h1 : ¬ (j : Int) < (c : Int) := by omega
    have : j = c := by omega
    subst this
    simp [bif_decide]
  | d + 1, n + 1, j, hn, hd, hj => by
    rw [g13_L1]
    have hjc : j < c := by omega
    have h1 : (j : Int) < (c : Int) := by omega
    have l1 := packI_len es r j
    have l2 := packV_len es r j
    have l3 : j * r ≤ 40000 := area (r := j) (c := r) (by omega) hr
    have := Pack_L2 m hr hc hl a0 a1 a2 a3 a4 b0 b1 (packS es r j) hp hq hjc r m 0 (packI es r j) (packV es r j) (by omega) (by omega) (by omega) (by omega) (by omega)
    simp only [Int.natCast_zero] at this
    simp only [bif_decide, h1, if_true, this, Option.bind_some]
    have h3 : ∀ x : Int, (packS es r j).length + ([x] : List Int).length ≤ 1073741824 := by intro x; simp [packS]; omega
    rw [if_pos (h3 _), show w_i64 ((j : Int) + 1) = ((j + 1 : Nat) : Int) from wsucc (by omega)]
    have e := Pack_L1 m hm hr hc hl a0 a1 a2 a3 a4 b0 b1 hp hq d n (j + 1) (by omega) (by omega) (by omega)
    rw [packS_succ] at e
    simp only [packI, packV] at e
    exact e
theorem Pack_eq {m : Nat} (hE : EntsOK r c es) (hr : r ≤ 200) (hc : c ≤ 200) (hl : es.length ≤ 1000000) (hm : 1000300 < m) :
    g13 m (r : Int) (c : Int) es = some (((r : Int), (c : Int), packS es r c, packI es r c, packV es r c, ()), (), (), (), ()) := by
  have ha := area hr hc
  have e : (r : Int) * (c : Int) = ((r * c : Nat) : Int) := (Int.natCast_mul r c).symm
  rw [g13]
  simp only [w_i64, e]
  rw [wi (n := ((r * c : Nat) : Int)) (by omega) (by omega), if_pos (by omega), Int.toNat_natCast]
  obtain ⟨pos, h1, h2, h3⟩ := Pack_L0 m hE hr hc hl 0 0 [] [] [] (r : Int) (c : Int) [0] [] [] m 0 (List.replicate (r * c) 0) (by omega) (by omega) (by simp) (by
    intro i j hi hj
    rw [getD_replicate (cell hi hj)]; rfl)
  simp only [Int.natCast_zero] at h1
  rw [h1]
  simp only [Option.bind_some]
  have := Pack_L1 m (by omega) hr hc hl 0 0 [] [] [] (r : Int) (c : Int) h2 h3 c m 0 (by omega) (by omega) (by omega)
  simp only [Int.natCast_zero, packI, packV] at this
  rw [show ([0] : List Int) = packS es r 0 from rfl, this]
  rfl
end Go.Vs.F

/-! TdMc -/
set_option linter.unusedVariables false
set_option linter.unusedSimpArgs false
set_option maxRecDepth 100000
namespace Go.Vs.F
variable {es : List Ent} {r c : Nat}
theorem packS_get {t : Nat} (h : t ≤ c) : (packS es r c).getD t 0 = ((packI es r t).length : Int) := by
  have : t < c + 1 := by omega
  simp [packS, List.getD, this]
theorem packI_pre {t : Nat} : ∀ d, ∃ zs, packI es r (t + d) = packI es r t ++ zs
  | 0 => ⟨[], by simp⟩
  | d + 1 => by
    obtain ⟨zs, h⟩ := packI_pre (t := t) d
    exact ⟨zs ++ colI es (t + d) 0 r, by rw [← Nat.add_assoc, packI, h, List.append_assoc]⟩
theorem packI_mono {t u : Nat} (h : t ≤ u) : (packI es r t).length ≤ (packI es r u).length := by
  obtain ⟨zs, e⟩ := packI_pre (es := es) (r := r) (t := t) (u - t)
  rw [show t + (u - t) = u by omega] at e
  rw [e]; simp
theorem pack_colOf {j : Nat} (hj : j < c) : colOf (packS es r c) (packI es r c) j = colI es j 0 r := by
  unfold colOf
  rw [packS_get (by omega), packS_get (by omega), Int.toNat_natCast, Int.toNat_natCast]
  obtain ⟨zs, e⟩ := packI_pre (es := es) (r := r) (t := j + 1) (c - (j + 1))
  rw [show j + 1 + (c - (j + 1)) = c by omega] at e
  rw [e, packI, List.append_assoc, List.drop_left, List.length_append, Nat.add_sub_cancel_left, List.take_left]
theorem pack_start : StartOK c (packS es r c) (packI es r c) where
  len := by simp [packS]
  s0 := by rw [packS_get (Nat.zero_le _)]; rfl
  mono j hj := by
    rw [packS_get (by omega), packS_get (by omega)]
    have := packI_mono (es := es) (r := r) (show j ≤ j + 1 by omega)
    omega
  last := packS_get (Nat.le_refl _)
theorem ascB_col {R : Int} {j : Nat} : ∀ (d i : Nat) (l : Int), l < (i : Int) → ((i + d : Nat) : Int) ≤ R → ascB R l (colI es j i d) = true
  | 0, i, l, h, hR => by simp [colI, colR, ascB]
  | d + 1, i, l, h, hR => by
    have ih := ascB_col (R := R) (j := j) d (i + 1)
    by_cases hx : 0 < lastIx es i j es.length
    · have e1 : colI es j i (d + 1) = (i : Int) :: colI es j (i + 1) d := by
        unfold colI colR; rw [List.range'_succ, List.filter_cons, if_pos (by simpa using hx), List.map_cons]
      have h2 : (i : Int) < R := by omega
      rw [e1, ascB, ih (i : Int) (by omega) (by omega)]
      simp [h, h2]
    · have e1 : colI es j i (d + 1) = colI es j (i + 1) d := by
        unfold colI colR; rw [List.range'_succ, List.filter_cons, if_neg (by simpa using hx)]
      rw [e1, ih l (by omega) (by omega)]
theorem pack_ok (hr : r ≤ 200) (hc : c ≤ 200) (ha : c * r ≤ 10000) : MatOK r c (packS es r c) (packI es r c) where
  st := pack_start
  ent j hj := by
    rw [← colEnt_eq pack_start hj, pack_colOf hj]
    exact ascB_col r 0 (-1) (by omega) (by omega)
  sz := Nat.le_trans (packI_len es r c) ha
  cz := hc
  rz := hr
theorem colV_fin (hE : EntsOK r c es) {j i d : Nat} {x : Int} (h : x ∈ colV es j i d) : finB x = true := by
  obtain ⟨i', h1, h2⟩ := List.mem_map.1 h
  have h3 := List.mem_filter.1 h1
  have h4 := of_decide_eq_true h3.2
  have h5 := lastIx_le es i' j es.length
  rw [← h2]; exact (hE _ (by omega)).2.2.fin
theorem packV_fin (hE : EntsOK r c es) {x : Int} : ∀ j, x ∈ packV es r j → finB x = true
  | 0, h => by cases h
  | j + 1, h => by
    rcases List.mem_append.1 h with h | h
    · exact packV_fin hE j h
    · exact colV_fin hE h
theorem pack_chk (hE : EntsOK r c es) (hr : r ≤ 200) (hc : c ≤ 200) (ha : c * r ≤ 10000) : chk (r : Int) (c : Int) (packS es r c) (packI es r c) (packV es r c) = 0 := by
  have hM := pack_ok (es := es) hr hc ha
  have hs := hM.st
  have hsz := hM.sz
  have e1 : finL (packV es r c) = true := by
    unfold finL
    refine allFrom_iff.2 fun i _ h => ?_
    exact packV_fin hE c (getD_memI h)
  have e2 : strB (r : Int) (c : Int) (packS es r c) (packI es r c) (packV es r c) = true := by
    unfold strB
    simp only [Bool.and_eq_true, decide_eq_true_eq, Int.toNat_natCast]
    refine ⟨⟨⟨⟨⟨by rw [hs.len]; omega, hs.s0⟩, ?_⟩, hs.last⟩, (packV_len es r c).symm⟩, ?_⟩
    · exact allFrom_iff.2 fun i _ h => decide_eq_true (hs.mono i h)
    · exact allFrom_iff.2 fun i _ h => hM.ent i h
  have e0 : (decide (0 ≤ (r : Int)) && decide ((r : Int) ≤ 200) && decide (0 ≤ (c : Int)) && decide ((c : Int) ≤ 200) && decide ((packI es r c).length ≤ 10000)) = true := by
    simp only [Bool.and_eq_true, decide_eq_true_eq]
    omega
  unfold chk
  rw [e0, e1, e2]; rfl
/-! ### The made matrix -/
theorem EntsOK.snoc (h : EntsOK r c es) {a b v : Int} (h1 : 0 ≤ a ∧ a < (r : Int)) (h2 : 0 ≤ b ∧ b < (c : Int)) (h3 : GoodV v) : EntsOK r c (es ++ [(a, (b, v))]) := by
  intro k hk
  rw [List.length_append, List.length_singleton] at hk
  by_cases h' : k < es.length
  · rw [getD_append_left' h']; exact h k h'
  · have : k - es.length = 0 := by omega
    rw [getD_append_right' (by omega), this]; exact ⟨h1, h2, h3⟩
end Go.Vs.F

/-! TdMd -/
set_option linter.unusedVariables false
set_option linter.unusedSimpArgs false
set_option maxRecDepth 100000
namespace Go.Vs.F
/- The cover of what is reachable. -/
end Go.Vs.F
