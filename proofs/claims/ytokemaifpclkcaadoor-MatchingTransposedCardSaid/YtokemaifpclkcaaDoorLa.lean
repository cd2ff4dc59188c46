/- Plain laws: lists compared and copied; the check of a matrix. Plain laws: the check of a matrix. Plain laws: the document's check of a matrix. Kuhn's algorithm as a relation; the program's and the document's searches compute it. The document's search computes Kuhn's relation; the whole matching. The whole matching, of the program and of the document. What is reachable: of the program and of the document. The program's and the document's searches for what is reachable. The document's search for what is reachable; the lists of indices; covers. The check of a matching and a cover: the program's. The check of a matching and a cover: the document's; the law. The law MatchingExact. -/
import Derived.Test.YtokemaifpclkcaaDoorVb
import Derived.Test.YtokemaifpclkcaaDoorFn

/-! MbLa -/
set_option linter.unusedVariables false
set_option linter.unusedSimpArgs false
namespace Go.Vs.F

/-! ### Lists of numbers -/
theorem Ints_L0 (m : Nat) (a b : List Int) (hl : a.length = b.length) (hb : a.length < 4611686018427387904) : ∀ (n k : Nat), a.length - k < n →
    sparsekit_Ints_L0 m n a b (k : Int) = some (if a.drop k = b.drop k then .inr (.inl ()) else .inl (false, ()))
  | 0, k, h => by omega
  | n + 1, k, h => by
    rw [sparsekit_Ints_L0]
    by_cases hk : k < a.length
    · have hk' : k < b.length := by omega
      have h1 : ((k : Int) < (a.length : Int)) := by omega
      have h2 : ((k : Int) < (b.length : Int)) := by omega
      simp only [bif_decide, h1, h2, if_true, bif_ne, Int.toNat_natCast, Int.natCast_nonneg, and_self, wsucc (show k < 4611686018427387904 by omega)]
      rw [drop_cons (d := 0) hk, drop_cons (d := 0) hk', Ints_L0 m a b hl hb n (k + 1) (by omega)]
      by_cases e : a.getD k 0 = b.getD k 0
      · simp only [e, if_true, List.cons.injEq, true_and]
      · simp only [e, if_false, List.cons.injEq, false_and]
    · have h1 : ¬ ((k : Int) < (a.length : Int)) := by omega
      simp only [bif_decide, h1, if_false]
      rw [drop_nil' hk, drop_nil' (by omega : ¬ k < b.length)]; simp
theorem Ints_eq {m : Nat} {a b : List Int} (h : a.length < m) (hb : a.length < 4611686018427387904) : sparsekit_Ints m a b = some (decide (a = b), (), (), ()) := by
  rw [sparsekit_Ints]
  by_cases hl : a.length = b.length
  · have := Ints_L0 m a b hl hb m 0 (by omega)
    simp only [Int.natCast_zero, Int.ofNat_zero, Int.cast_ofNat_Int] at this
    have h1 : (a.length : Int) = (b.length : Int) := by omega
    simp only [h1, bif_ne, if_true, List.drop_zero] at this ⊢
    rw [this]
    by_cases e : a = b <;> simp [e]
  · have h1 : ¬ (a.length : Int) = (b.length : Int) := by omega
    have e : ¬ a = b := fun e => hl (by rw [e])
    simp only [bif_ne, h1, if_false, e, decide_false]
/-! ### Finite floats -/
theorem and_lt {x : Int} : 0 ≤ b_and_ .u64 x 2047 ∧ b_and_ .u64 x 2047 < 2048 := by
  unfold b_and_
  have h : (BitVec.ofInt IntKind.u64.bits x &&& BitVec.ofInt IntKind.u64.bits 2047).toNat < 2048 := by
    rw [BitVec.toNat_and]
    have : (BitVec.ofInt IntKind.u64.bits 2047).toNat = 2047 := by decide
    rw [this]
    exact Nat.lt_of_le_of_lt Nat.and_le_right (by decide)
  generalize (BitVec.ofInt IntKind.u64.bits x &&& BitVec.ofInt IntKind.u64.bits 2047).toNat = y at h
  rw [wu (by omega) (by omega)]; omega
def finB (x : Int) : Bool := b_and_ .u64 (shr_ .u64 x 52) 2047 != 2047
theorem IsFinite_eq {m : Nat} {x : Int} : float_IsFinite m x = some (finB x, (), ()) := by
  rw [float_IsFinite, float_parts]
  have := and_lt (x := shr_ .u64 x 52)
  simp only [Option.bind_some, wi (show (-9223372036854775808 : Int) ≤ b_and_ .u64 (shr_ .u64 x 52) 2047 by omega) (by omega)]
  rfl
def finL (a : List Int) : Bool := allFrom (fun i => finB (a.getD i 0)) 0 a.length
theorem IndexFunc_L0 (m : Nat) (a : List Int) (hb : a.length < 4611686018427387904) : ∀ (n k : Nat), a.length - k < n →
    ∃ j : Nat, slices_IndexFunc_L0 m n a (a.length : Int) (k : Int) = some (bif allFrom (fun i => finB (a.getD i 0)) k a.length then .inr (.inl ()) else .inl ((j : Int), ()))
  | 0, k, h => by omega
  | n + 1, k, h => by
    rw [slices_IndexFunc_L0]
    by_cases hk : k < a.length
    · have h1 : ((k : Int) < (a.length : Int)) := by omega
      obtain ⟨j, hj⟩ := IndexFunc_L0 m a hb n (k + 1) (by omega)
      simp only [bif_decide, h1, if_true, Int.toNat_natCast, Int.natCast_nonneg, and_self, wsucc (show k < 4611686018427387904 by omega), matrix_Check_1, IsFinite_eq, Option.bind_some]
      rw [allFrom_step hk, hj]
      cases finB (a.getD k 0)
      · exact ⟨k, by simp⟩
      · exact ⟨j, by simp⟩
    · have h1 : ¬ ((k : Int) < (a.length : Int)) := by omega
      simp only [bif_decide, h1, if_false]
      rw [allFrom_end hk]; exact ⟨0, rfl⟩
theorem ContainsFunc_eq {m : Nat} {a : List Int} (h : a.length < m) (hb : a.length < 4611686018427387904) : slices_ContainsFunc m a = some (!finL a, (), (), ()) := by
  rw [slices_ContainsFunc, slices_IndexFunc]
  obtain ⟨j, this⟩ := IndexFunc_L0 m a hb m 0 (by omega)
  simp only [Int.cast_ofNat_Int, Int.natCast_zero, Int.ofNat_zero] at this
  rw [this]
  unfold finL
  cases allFrom (fun i => finB (a.getD i 0)) 0 a.length
  · simp
  · simp
end Go.Vs.F

/-! MbLb -/
set_option linter.unusedVariables false
set_option linter.unusedSimpArgs false
namespace Go.Vs.F

/-! ### Sorted -/
def le2 (S : List Int) (i : Nat) : Bool := decide (S.getD i 0 ≤ S.getD (i + 1) 0)
theorem IsSorted_L0 (m : Nat) (S : List Int) (hb : S.length < 4611686018427387904) : ∀ (n k : Nat), k < n → k < S.length →
    slices_IsSorted_L0 m n S (k : Int) = some (bif allFrom (le2 S) 0 k then .inr (.inl ()) else .inl (false, ()))
  | 0, k, h, _ => by omega
  | n + 1, 0, h, h0 => by
    rw [slices_IsSorted_L0]
    simp [allFrom]
  | n + 1, k + 1, h, h0 => by
    rw [slices_IsSorted_L0]
    have h1 : (((k + 1 : Nat) : Int) > 0) := by omega
    have h2 : (((k + 1 : Nat) : Int) < (S.length : Int)) := by omega
    have h3 : ((k : Int) < (S.length : Int)) := by omega
    have hp : IntKind.wrap .i64 (((k + 1 : Nat) : Int) - 1) = (k : Int) := by rw [wi (by omega) (by omega)]; omega
    have e1 : S.getD (k + 1) 0 ≠ S.getD (k + 1) 0 ↔ False := by simp
    simp only [bif_decide, h1, h2, h3, if_true, hp, Int.toNat_natCast, Int.natCast_nonneg, and_self, cmp_Less, cmp_isNaN, Option.bind_some, bif_ne]
    rw [IsSorted_L0 m S hb n k (by omega) (by omega)]
    have e : allFrom (le2 S) 0 (k + 1) = (allFrom (le2 S) 0 k && le2 S k) := by
      rw [Bool.eq_iff_iff, Bool.and_eq_true, allFrom_iff, allFrom_iff]
      constructor
      · intro h; exact ⟨fun i a b => h i a (by omega), h k (by omega) (by omega)⟩
      · rintro ⟨g1, g2⟩ i a b
        rcases Nat.lt_or_ge i k with h | h
        · exact g1 i a h
        · have : i = k := by omega
          rw [this]; exact g2
    rw [e]
    unfold le2
    by_cases hlt : S.getD (k + 1) 0 < S.getD k 0
    · have : ¬ S.getD k 0 ≤ S.getD (k + 1) 0 := by omega
      simp [-List.getD_eq_getElem?_getD, hlt, this]
    · have : S.getD k 0 ≤ S.getD (k + 1) 0 := by omega
      simp [-List.getD_eq_getElem?_getD, hlt, this]
theorem IsSorted_eq {m : Nat} {S : List Int} (h : S.length < m) (h0 : 0 < S.length) (hb : S.length < 4611686018427387904) : slices_IsSorted m S = some (allFrom (le2 S) 0 (S.length - 1), (), ()) := by
  rw [slices_IsSorted, show w_i64 ((S.length : Int) - 1) = ((S.length - 1 : Nat) : Int) by show IntKind.wrap .i64 _ = _; rw [wi (by omega) (by omega)]; omega, IsSorted_L0 m S hb m (S.length - 1) (by omega) (by omega)]
  cases allFrom (le2 S) 0 (S.length - 1) <;> rfl

/-! ### Rows of a column ascend -/
def ascB (R : Int) : Int → List Int → Bool
  | _, [] => true
  | l, x :: xs => (decide (l < x) && decide (x < R)) && ascB R x xs
theorem columns_L1 (m : Nat) (R C : Int) (S I V xs : List Int) (a b : Int) (hb : xs.length < 4611686018427387904) : ∀ (n k : Nat) (l : Int), xs.length - k < n →
    matrix_columns_L1 m n R C S I V l a b xs (xs.length : Int) (k : Int) = some (bif ascB R l (xs.drop k) then .inr (.inl ((R, C, S, I, V, ()), a, b, ())) else .inl (false, ()))
  | 0, k, _, h => by omega
  | n + 1, k, l, h => by
    rw [matrix_columns_L1]
    by_cases hk : k < xs.length
    · have h1 : ((k : Int) < (xs.length : Int)) := by omega
      simp only [bif_decide, h1, if_true, Int.toNat_natCast, Int.natCast_nonneg, and_self, wsucc (show k < 4611686018427387904 by omega)]
      rw [drop_cons (d := 0) hk, columns_L1 m R C S I V xs a b hb n (k + 1) _ (by omega), ascB]
      by_cases e1 : xs.getD k 0 ≤ l
      · have e2 : ¬ l < xs.getD k 0 := by omega
        simp [-List.getD_eq_getElem?_getD, e1, e2]
      · have e2 : l < xs.getD k 0 := by omega
        by_cases e3 : xs.getD k 0 ≥ R
        · have e4 : ¬ xs.getD k 0 < R := by omega
          simp [-List.getD_eq_getElem?_getD, e1, e2, e3, e4]
        · have e4 : xs.getD k 0 < R := by omega
          simp [-List.getD_eq_getElem?_getD, e1, e2, e3, e4]
    · have h1 : ¬ ((k : Int) < (xs.length : Int)) := by omega
      simp only [bif_decide, h1, if_false]
      rw [drop_nil' hk]; rfl

/- The rows of column j. -/
def colOf (S I : List Int) (j : Nat) : List Int := (I.drop (S.getD j 0).toNat).take ((S.getD (j + 1) 0).toNat - (S.getD j 0).toNat)

structure StartOK (C : Nat) (S I : List Int) : Prop where
  len : S.length = C + 1
  s0 : S.getD 0 0 = 0
  mono : ∀ j, j < C → S.getD j 0 ≤ S.getD (j + 1) 0
  last : S.getD C 0 = (I.length : Int)
theorem StartOK.le {C : Nat} {S I : List Int} (h : StartOK C S I) : ∀ {i j : Nat}, i ≤ j → j ≤ C → S.getD i 0 ≤ S.getD j 0
  | i, 0, h1, h2 => by have : i = 0 := by omega
                       subst this; exact Int.le_refl _
  | i, j + 1, h1, h2 => by
    rcases Nat.lt_or_ge i (j + 1) with h3 | h3
    · exact Int.le_trans (h.le (by omega) (by omega)) (h.mono j (by omega))
    · have : i = j + 1 := by omega
      subst this; exact Int.le_refl _
theorem StartOK.rng {C : Nat} {S I : List Int} (h : StartOK C S I) {j : Nat} (hj : j ≤ C) : 0 ≤ S.getD j 0 ∧ S.getD j 0 ≤ (I.length : Int) := by
  have a := h.le (Nat.zero_le j) hj
  have b := h.le hj (Nat.le_refl C)
  rw [h.s0] at a; rw [h.last] at b
  exact ⟨a, b⟩
theorem colOf_len {C : Nat} {S I : List Int} (h : StartOK C S I) {j : Nat} (hj : j < C) : (colOf S I j).length = (S.getD (j + 1) 0).toNat - (S.getD j 0).toNat := by
  have a := h.rng (j := j) (by omega)
  have b := h.rng (j := j + 1) (by omega)
  unfold colOf
  rw [List.length_take, List.length_drop]; omega
theorem colOf_get {C : Nat} {S I : List Int} (h : StartOK C S I) {j : Nat} (hj : j < C) {k : Nat} (hk : k < (colOf S I j).length) : (colOf S I j).getD k 0 = I.getD ((S.getD j 0).toNat + k) 0 := by
  rw [colOf_len h hj] at hk
  unfold colOf
  rw [getD_take hk, getD_drop]

theorem columns_L0 (m : Nat) (R C : Int) (c : Nat) (S I V : List Int) (hC : C = (c : Int)) (hok : StartOK c S I) (hb : I.length < 4611686018427387904) (hc : c < 4611686018427387904) (hm : I.length < m) : ∀ (n k : Nat), c - k < n → k ≤ c →
    matrix_columns_L0 m n R C S I V C (k : Int) = some (bif allFrom (fun j => ascB R (-1) (colOf S I j)) k c then .inr (.inl ()) else .inl (false, ()))
  | 0, k, h, _ => by omega
  | n + 1, k, h, hk0 => by
    rw [matrix_columns_L0]
    subst hC
    by_cases hk : k < c
    · have h1 : ((k : Int) < (c : Int)) := by omega
      have hl := hok.len
      have h2 : ((k : Int) < (S.length : Int)) := by omega
      have h3 : (((k + 1 : Nat) : Int) < (S.length : Int)) := by omega
      have a := hok.rng (j := k) (by omega)
      have b := hok.rng (j := k + 1) (by omega)
      have d := hok.mono k hk
      have hlen : (colOf S I k).length ≤ I.length := by rw [colOf_len hok hk]; omega
      simp only [bif_decide, h1, h2, h3, if_true, Int.toNat_natCast, Int.natCast_nonneg, and_self, wsucc (show k < 4611686018427387904 by omega), a.1, b.2, d]
      have e := columns_L1 m R (c : Int) S I V (colOf S I k) (c : Int) (k : Int) (by omega) m 0 (-1) (by omega)
      simp only [Int.cast_ofNat_Int, Int.natCast_zero, Int.ofNat_zero, List.drop_zero] at e
      unfold colOf at e ⊢
      rw [e, allFrom_step hk]
      cases hA : ascB R (-1) ((I.drop (S.getD k 0).toNat).take ((S.getD (k + 1) 0).toNat - (S.getD k 0).toNat))
      · simp
      · have := columns_L0 m R (c : Int) c S I V rfl hok hb hc hm n (k + 1) (by omega) (by omega)
        unfold colOf at this
        simp only [cond_true, Bool.true_and, Option.bind_some, wsucc (show k < 4611686018427387904 by omega)]
        exact this
    · have h1 : ¬ ((k : Int) < (c : Int)) := by omega
      simp only [bif_decide, h1, if_false]
      rw [allFrom_end hk]; rfl

/-! ### The program's check of the structure -/
def entOK (R : Int) (S I : List Int) (j k : Nat) : Bool :=
  decide (0 ≤ I.getD k 0) && decide (I.getD k 0 < R) && (!decide ((S.getD j 0).toNat < k) || decide (I.getD (k - 1) 0 < I.getD k 0))
def colEnt (R : Int) (S I : List Int) (j : Nat) : Bool := allFrom (entOK R S I j) (S.getD j 0).toNat (S.getD (j + 1) 0).toNat

theorem ascB_iff (R : Int) (I : List Int) (s e : Nat) (he : e ≤ I.length) : ∀ (d k : Nat) (l : Int), e - k = d → s ≤ k → -1 ≤ l → (k = s → l = -1) → (s < k → l = I.getD (k - 1) 0) →
    ascB R l ((I.drop k).take (e - k)) = allFrom (fun k => decide (0 ≤ I.getD k 0) && decide (I.getD k 0 < R) && (!decide (s < k) || decide (I.getD (k - 1) 0 < I.getD k 0))) k e
  | 0, k, l, hd, hk, hl, h1, h2 => by
    rw [hd, allFrom_end (by omega)]; simp [ascB]
  | d + 1, k, l, hd, hk, hl, h1, h2 => by
    have hke : k < e := by omega
    have hki : k < I.length := by omega
    rw [allFrom_step hke, drop_cons (d := 0) hki, hd, List.take_succ_cons, ascB]
    by_cases hx : l < I.getD k 0
    · have ih := ascB_iff R I s e he d (k + 1) (I.getD k 0) (by omega) (by omega) (by omega) (by omega) (fun _ => by simp)
      rw [show e - (k + 1) = d by omega] at ih
      rw [ih]
      have h0 : 0 ≤ I.getD k 0 := by omega
      by_cases hs : s < k
      · have := h2 hs
        simp [-List.getD_eq_getElem?_getD, hx, h0, hs, ← this]
      · simp [-List.getD_eq_getElem?_getD, hx, h0, hs]
    · by_cases hs : s < k
      · have := h2 hs
        simp [-List.getD_eq_getElem?_getD, hx, hs, ← this]
      · have : l = -1 := h1 (by omega)
        have h0 : ¬ 0 ≤ I.getD k 0 := by omega
        simp [-List.getD_eq_getElem?_getD, hx, h0]
theorem colEnt_eq {R : Int} {C : Nat} {S I : List Int} (h : StartOK C S I) {j : Nat} (hj : j < C) : ascB R (-1) (colOf S I j) = colEnt R S I j := by
  have a := h.rng (j := j) (by omega)
  have b := h.rng (j := j + 1) (by omega)
  exact ascB_iff R I _ _ (by omega) _ _ _ rfl (Nat.le_refl _) (by omega) (fun _ => rfl) (fun h => absurd h (Nat.lt_irrefl _))

/- The structure is valid (the sizes are). -/
def strB (R C : Int) (S I V : List Int) : Bool :=
  decide ((S.length : Int) = C + 1) && decide (S.getD 0 0 = 0) && allFrom (le2 S) 0 C.toNat && decide (S.getD C.toNat 0 = (I.length : Int)) && decide (I.length = V.length) && allFrom (fun j => colEnt R S I j) 0 C.toNat

theorem columns_eq {m : Nat} {R C : Int} {S I V : List Int} (hC : 0 ≤ C) (hC2 : C ≤ 200) (hI : I.length ≤ 10000) (hS : S.length < m) (hm : 11000 < m) (hb : S.length < 4611686018427387904) :
    matrix_columns m R C S I V = some (strB R C S I V, (), ()) := by
  obtain ⟨c, rfl⟩ : ∃ c : Nat, C = (c : Int) := ⟨C.toNat, by omega⟩
  rw [matrix_columns, strB]
  simp only [bif_ne, wi (show (-9223372036854775808 : Int) ≤ (c : Int) + 1 by omega) (by omega), Int.toNat_natCast]
  by_cases h1 : (S.length : Int) = (c : Int) + 1
  · have hl : S.length = c + 1 := by omega
    have h2 : (0 : Int) ≤ 0 ∧ (0 : Int) < (S.length : Int) := by omega
    simp only [h1, if_true, decide_true, Bool.true_and]
    rw [← h1, if_pos h2]
    by_cases h3 : S.getD 0 0 = 0
    · rw [IsSorted_eq hS (by omega) hb]
      simp only [h3, if_true, decide_true, Bool.true_and, Option.bind_some, show S.length - 1 = c by omega]
      cases h4 : allFrom (le2 S) 0 c
      · simp
      · have h5 : (0 : Int) ≤ (c : Int) ∧ (c : Int) < (S.length : Int) := by omega
        simp only [bif_not, cond_true, Bool.true_and]
        rw [if_pos h5]
        by_cases h6 : S.getD c 0 = (I.length : Int)
        · by_cases h7 : I.length = V.length
          · have h8 : (I.length : Int) = (V.length : Int) := by omega
            have hok : StartOK c S I := ⟨hl, h3, fun j hj => by
              have := allFrom_iff.1 h4 j (by omega) hj
              simpa [-List.getD_eq_getElem?_getD, le2] using this, h6⟩
            have := columns_L0 m R (c : Int) c S I V rfl hok (by omega) (by omega) (by omega) m 0 (by omega) (by omega)
            simp only [Int.cast_ofNat_Int, Int.natCast_zero, Int.ofNat_zero] at this
            rw [if_pos h6, if_pos h8, this, allFrom_congr (q := fun j => colEnt R S I j) (fun j _ hj => colEnt_eq hok hj)]
            simp only [h6, h7, decide_true, Bool.true_and]
            cases allFrom (fun j => colEnt R S I j) 0 c <;> rfl
          · have h8 : ¬ (I.length : Int) = (V.length : Int) := by omega
            rw [if_pos h6, if_neg h8]
            simp [h7]
        · rw [if_neg h6]
          simp [-List.getD_eq_getElem?_getD, h6]
    · rw [if_neg h3]
      simp [-List.getD_eq_getElem?_getD, h3]
  · rw [if_neg h1]
    simp [h1]

/- The check's answer. -/
def chk (R C : Int) (S I V : List Int) : Int :=
  if (decide (0 ≤ R) && decide (R ≤ 200) && decide (0 ≤ C) && decide (C ≤ 200) && decide (I.length ≤ 10000)) = false then 6 else if strB R C S I V = false then 1 else if finL V = false then 4 else 0

theorem within_eq {m : Nat} {n lo hi : Int} : matrix_within m n lo hi = some (decide (lo ≤ n) && decide (n ≤ hi), (), (), (), ()) := by
  rw [matrix_within]
  by_cases h : n ≥ lo
  · have : lo ≤ n := h
    simp [h, this]
  · have : ¬ lo ≤ n := h
    simp [h, this]
theorem matrix_Check_eq {m : Nat} {R C : Int} {S I V : List Int} (hS : S.length < m) (hV : V.length < m) (hm : 11000 < m) (hb : S.length < 4611686018427387904) (hv : V.length < 4611686018427387904) :
    matrix_Check m R C S I V = some (chk R C S I V, (), ()) := by
  rw [matrix_Check, chk, within_eq, within_eq]
  by_cases h1 : 0 ≤ R <;> by_cases h2 : R ≤ 200 <;> by_cases h3 : 0 ≤ C <;> by_cases h4 : C ≤ 200 <;> simp [h1, h2, h3, h4]
  by_cases h5 : I.length ≤ 10000
  · have h6 : ¬ (10000 : Int) < (I.length : Int) := by omega
    have h7 : ¬ 10000 < I.length := by omega
    rw [columns_eq h3 h4 h5 hS hm hb, ContainsFunc_eq hV hv]
    simp only [h6, h7, h5, if_false, Option.bind_some]
    cases strB R C S I V
    · simp
    · cases finL V <;> simp
  · have h6 : (10000 : Int) < (I.length : Int) := by omega
    have h7 : 10000 < I.length := by omega
    simp [h5, h6, h7]
end Go.Vs.F

/-! MbLc -/
set_option linter.unusedVariables false
set_option linter.unusedSimpArgs false
namespace Go.Vs.F

end Go.Vs.F

/-! MbLd -/
set_option linter.unusedVariables false
set_option linter.unusedSimpArgs false
namespace Go.Vs.F

structure St where
  row : List Int
  col : List Int
  mr : List Bool
def St.mark (s : St) (i : Int) : St := { s with mr := s.mr.set i.toNat true }
def St.put (s : St) (j i : Int) : St := { s with row := s.row.set j.toNat i, col := s.col.set i.toNat j }

inductive Loop (E : List (List Int)) : Int → List Int → St → Bool → St → Prop
  | nil {j : Int} {s : St} : Loop E j [] s false s
  | skip {j i : Int} {xs : List Int} {s t : St} {b : Bool} : s.mr.getD i.toNat false = true → Loop E j xs s b t → Loop E j (i :: xs) s b t
  | free {j i : Int} {xs : List Int} {s : St} : s.mr.getD i.toNat false = false → s.col.getD i.toNat 0 = -1 → Loop E j (i :: xs) s true ((s.mark i).put j i)
  | found {j i : Int} {xs : List Int} {s t : St} : s.mr.getD i.toNat false = false → s.col.getD i.toNat 0 ≠ -1 →
      Loop E (s.col.getD i.toNat 0) (E.getD (s.col.getD i.toNat 0).toNat []) (s.mark i) true t → Loop E j (i :: xs) s true (t.put j i)
  | lost {j i : Int} {xs : List Int} {s t u : St} {b : Bool} : s.mr.getD i.toNat false = false → s.col.getD i.toNat 0 ≠ -1 →
      Loop E (s.col.getD i.toNat 0) (E.getD (s.col.getD i.toNat 0).toNat []) (s.mark i) false t → Loop E j xs t b u → Loop E j (i :: xs) s b u

structure Good (R C : Nat) (s : St) : Prop where
  row : s.row.length = C
  col : s.col.length = R
  mr : s.mr.length = R
  ok : ∀ i, i < R → s.col.getD i 0 = -1 ∨ (0 ≤ s.col.getD i 0 ∧ s.col.getD i 0 < (C : Int))
  rok : ∀ j, j < C → s.row.getD j 0 = -1 ∨ (0 ≤ s.row.getD j 0 ∧ s.row.getD j 0 < (R : Int))
def EdgeOK (R : Nat) (E : List (List Int)) : Prop := ∀ j, ∀ i ∈ E.getD j [], 0 ≤ i ∧ i < (R : Int)

theorem Good.mark {R C : Nat} {s : St} (h : Good R C s) (i : Int) : Good R C (s.mark i) := ⟨h.row, h.col, by simp [St.mark, h.mr], h.ok, h.rok⟩
theorem Good.put {R C : Nat} {s : St} (h : Good R C s) {j i : Int} (hj : 0 ≤ j ∧ j < (C : Int)) (hi : 0 ≤ i ∧ i < (R : Int)) : Good R C (s.put j i) := by
  refine ⟨by simp [St.put, h.row], by simp [St.put, h.col], h.mr, fun k hk => ?_, fun k hk => ?_⟩
  · simp only [St.put]
    by_cases e : i.toNat = k
    · subst e
      rw [getD_set_eq (by rw [h.col]; exact hk)]; exact .inr hj
    · rw [getD_set_ne e]; exact h.ok k hk
  · simp only [St.put]
    by_cases e : j.toNat = k
    · subst e
      rw [getD_set_eq (by rw [h.row]; exact hk)]; exact .inr hi
    · rw [getD_set_ne e]; exact h.rok k hk

theorem Loop.good {E : List (List Int)} {R C : Nat} (hE : EdgeOK R E) {j : Int} {xs : List Int} {s t : St} {b : Bool} (h : Loop E j xs s b t) :
    Good R C s → 0 ≤ j ∧ j < (C : Int) → (∀ i ∈ xs, 0 ≤ i ∧ i < (R : Int)) → Good R C t := by
  induction h with
  | nil => exact fun g _ _ => g
  | skip _ _ ih => exact fun g hj hx => ih g hj (fun i hi => hx i (List.mem_cons_of_mem _ hi))
  | free _ _ => exact fun g hj hx => (g.mark _).put hj (hx _ (List.mem_cons_self ..))
  | found _ h2 _ ih =>
    intro g hj hx
    have hi := hx _ (List.mem_cons_self ..)
    have hc := (g.ok _ (by omega)).resolve_left h2
    exact (ih (g.mark _) hc (hE _)).put hj hi
  | lost _ h2 _ _ ih1 ih2 =>
    intro g hj hx
    have hi := hx _ (List.mem_cons_self ..)
    have hc := (g.ok _ (by omega)).resolve_left h2
    exact ih2 (ih1 (g.mark _) hc (hE _)) hj (fun i hi => hx i (List.mem_cons_of_mem _ hi))

/-! ### It ends -/
theorem count_set {l : List Bool} {k : Nat} (hk : k < l.length) (h : l.getD k false = false) : (l.set k true).count false + 1 = l.count false := by
  induction l generalizing k with
  | nil => simp at hk
  | cons x l ih =>
    cases k with
    | zero =>
      have : x = false := by simpa using h
      subst this
      simp
    | succ k =>
      have := ih (k := k) (by simpa using hk) (by simpa [List.getD] using h)
      simp only [List.set_cons_succ, List.count_cons]
      omega
theorem count_le {l : List Bool} {k : Nat} : (l.set k true).count false ≤ l.count false := by
  induction l generalizing k with
  | nil => simp
  | cons x l ih =>
    cases k with
    | zero => simp [List.count_cons]
    | succ k => simp only [List.set_cons_succ, List.count_cons]; have := ih (k := k); omega
theorem Loop.count {E : List (List Int)} {j : Int} {xs : List Int} {s t : St} {b : Bool} (h : Loop E j xs s b t) : t.mr.count false ≤ s.mr.count false := by
  induction h with
  | nil => exact Nat.le_refl _
  | skip _ _ ih => exact ih
  | free _ _ => exact count_le
  | found _ _ _ ih => exact Nat.le_trans ih count_le
  | lost _ _ _ _ ih1 ih2 => exact Nat.le_trans ih2 (Nat.le_trans ih1 count_le)

theorem Loop.exists {E : List (List Int)} {R C : Nat} (hE : EdgeOK R E) : ∀ (d : Nat) (xs : List Int) (j : Int) (s : St), s.mr.count false ≤ d → Good R C s → 0 ≤ j ∧ j < (C : Int) → (∀ i ∈ xs, 0 ≤ i ∧ i < (R : Int)) →
    ∃ b t, Loop E j xs s b t := by
  intro d
  induction d with
  | zero =>
    intro xs
    induction xs with
    | nil => exact fun j s _ _ _ _ => ⟨_, _, .nil⟩
    | cons i xs ih =>
      intro j s hd g hj hx
      have hi := hx _ (List.mem_cons_self ..)
      by_cases hm : s.mr.getD i.toNat false = true
      · obtain ⟨b, t, h⟩ := ih j s hd g hj (fun i hi => hx i (List.mem_cons_of_mem _ hi))
        exact ⟨b, t, .skip hm h⟩
      · have := count_set (l := s.mr) (k := i.toNat) (by rw [g.mr]; omega) (by simpa using hm)
        omega
  | succ d ihd =>
    intro xs
    induction xs with
    | nil => exact fun j s _ _ _ _ => ⟨_, _, .nil⟩
    | cons i xs ih =>
      intro j s hd g hj hx
      have hi := hx _ (List.mem_cons_self ..)
      have hx' : ∀ i ∈ xs, 0 ≤ i ∧ i < (R : Int) := fun i hi => hx i (List.mem_cons_of_mem _ hi)
      by_cases hm : s.mr.getD i.toNat false = true
      · obtain ⟨b, t, h⟩ := ih j s hd g hj hx'
        exact ⟨b, t, .skip hm h⟩
      · have hm : s.mr.getD i.toNat false = false := by simpa using hm
        have hcount := count_set (l := s.mr) (k := i.toNat) (by rw [g.mr]; omega) hm
        by_cases hc : s.col.getD i.toNat 0 = -1
        · exact ⟨_, _, .free hm hc⟩
        · have hcc := (g.ok _ (by omega)).resolve_left hc
          obtain ⟨b, t, h⟩ := ihd (E.getD (s.col.getD i.toNat 0).toNat []) _ (s.mark i) (by show (s.mr.set i.toNat true).count false ≤ d; omega) (g.mark i) hcc (hE _)
          cases b with
          | true => exact ⟨_, _, .found hm hc h⟩
          | false =>
            have g' := h.good hE (g.mark i) hcc (hE _)
            have hc' := h.count
            obtain ⟨b, u, h'⟩ := ih j t (by have : (s.mark i).mr.count false ≤ s.mr.count false := count_le; omega) g' hj hx'
            exact ⟨_, _, .lost hm hc h h'⟩

/-! ### The program's search -/
def big : Nat := 2305843009213693952
def stE (E : List (List Int)) (t : St) : List (List Int) × List Int × List Int × List Bool × Unit := (E, t.row, t.col, t.mr, ())

theorem prog_loop {E : List (List Int)} {R C : Nat} (hE : EdgeOK R E) (hlen : E.length = C) (hs : ∀ j, (E.getD j []).length < big) {j : Int} {xs : List Int} {s t : St} {b : Bool} (h : Loop E j xs s b t) :
    Good R C s → 0 ≤ j ∧ j < (C : Int) → (∀ i ∈ xs, 0 ≤ i ∧ i < (R : Int)) →
    ∃ M, ∀ m m' n, M ≤ m → M ≤ n → ∀ (ys : List Int) (k : Nat), ys.length < big → k ≤ ys.length → ys.drop k = xs →
      matching_kuhn_try_L0 (fun a0 a1 a2 a3 a4 => matching_kuhn_try m a0 a1 a2 a3 a4) m' n E s.row s.col s.mr j ys (ys.length : Int) (k : Int) =
        some (bif b then .inl (stE E t, true, ()) else .inr (.inl (stE E t, ()))) := by
  have enter : ∀ {c : Int} {s t : St} {b : Bool}, 0 ≤ c ∧ c < (C : Int) → (∃ M, ∀ m m' n, M ≤ m → M ≤ n → ∀ (ys : List Int) (k : Nat), ys.length < big → k ≤ ys.length → ys.drop k = E.getD c.toNat [] →
      matching_kuhn_try_L0 (fun a0 a1 a2 a3 a4 => matching_kuhn_try m a0 a1 a2 a3 a4) m' n E s.row s.col s.mr c ys (ys.length : Int) (k : Int) =
        some (bif b then .inl (stE E t, true, ()) else .inr (.inl (stE E t, ())))) → ∃ M, ∀ m, M ≤ m → matching_kuhn_try m E s.row s.col s.mr c = some (b, stE E t, (), ()) := by
    rintro c s t b hc ⟨M, hM⟩
    refine ⟨M + 1, fun m hm => ?_⟩
    obtain ⟨m, rfl⟩ : ∃ m', m = m' + 1 := ⟨m - 1, by omega⟩
    rw [matching_kuhn_try, if_pos (by rw [hlen]; exact hc), Nat.zero_add]
    have := hM m m m (by omega) (by omega) (E.getD c.toNat []) 0 (hs _) (Nat.zero_le _) (by simp)
    simp only [Int.cast_ofNat_Int, Int.natCast_zero, Int.ofNat_zero] at this
    rw [this]
    cases b <;> rfl
  -- one step of the loop
  have head : ∀ {i : Int} {xs : List Int} {ys : List Int} {k : Nat}, ys.length < big → k ≤ ys.length → ys.drop k = i :: xs → k < ys.length ∧ ys.getD k 0 = i ∧ ys.drop (k + 1) = xs := by
    intro i xs ys k _ hk e
    have hlt : k < ys.length := by
      rcases Nat.lt_or_ge k ys.length with h | h
      · exact h
      · rw [List.drop_eq_nil_of_le h] at e; cases e
    rw [drop_cons (d := 0) hlt] at e
    injection e with e1 e2
    exact ⟨hlt, e1, e2⟩
  induction h with
  | nil =>
    intro g hj hx
    refine ⟨1, fun m m' n hm hn ys k hy hk e => ?_⟩
    obtain ⟨n, rfl⟩ : ∃ n', n = n' + 1 := ⟨n - 1, by omega⟩
    have hge : ¬ (k : Int) < (ys.length : Int) := by
      have := congrArg List.length e
      simp at this; omega
    rw [matching_kuhn_try_L0, bif_decide, if_neg hge]; rfl
  | @skip j i xs s t b h1 h2 ih =>
    intro g hj hx
    obtain ⟨M, hM⟩ := ih g hj (fun i hi => hx i (List.mem_cons_of_mem _ hi))
    refine ⟨M + 1, fun m m' n hm hn ys k hy hk e => ?_⟩
    obtain ⟨n, rfl⟩ : ∃ n', n = n' + 1 := ⟨n - 1, by omega⟩
    obtain ⟨hlt, e1, e2⟩ := head hy hk e
    have hi := hx i (List.mem_cons_self ..)
    have hb : (2305843009213693952 : Nat) = big := rfl
    rw [matching_kuhn_try_L0, bif_decide, if_pos (by omega), if_pos (by omega)]
    simp only [Int.toNat_natCast, e1, Nat.zero_add, h1, cond_true, wsucc (show k < 4611686018427387904 by omega)]
    rw [if_pos (by rw [g.mr]; exact hi)]
    exact hM m m' n (by omega) (by omega) ys (k + 1) hy (by omega) e2
  | @free j i xs s h1 h2 =>
    intro g hj hx
    refine ⟨1, fun m m' n hm hn ys k hy hk e => ?_⟩
    obtain ⟨n, rfl⟩ : ∃ n', n = n' + 1 := ⟨n - 1, by omega⟩
    obtain ⟨hlt, e1, e2⟩ := head hy hk e
    have hi := hx i (List.mem_cons_self ..)
    rw [matching_kuhn_try_L0, bif_decide, if_pos (by omega), if_pos (by omega)]
    simp only [Int.toNat_natCast, e1, Nat.zero_add, h1, cond_false, h2, bif_eq, if_true]
    rw [if_pos (by rw [g.mr]; exact hi), if_pos (by rw [g.mr]; exact hi), if_pos (by rw [g.col]; exact hi), if_pos (by rw [g.row]; exact hj), if_pos (by rw [g.col]; exact hi)]
    rfl
  | @found j i xs s t h1 h2 h3 ih =>
    intro g hj hx
    have hi := hx i (List.mem_cons_self ..)
    have hc := (g.ok i.toNat (by omega)).resolve_left h2
    obtain ⟨M, hM⟩ := enter hc (ih (g.mark i) hc (hE _))
    have g' := h3.good hE (g.mark i) hc (hE _)
    refine ⟨M + 1, fun m m' n hm hn ys k hy hk e => ?_⟩
    obtain ⟨n, rfl⟩ : ∃ n', n = n' + 1 := ⟨n - 1, by omega⟩
    obtain ⟨hlt, e1, e2⟩ := head hy hk e
    have hM := hM m (by omega)
    simp only [St.mark] at hM
    rw [matching_kuhn_try_L0, bif_decide, if_pos (by omega), if_pos (by omega)]
    simp only [Int.toNat_natCast, e1, Nat.zero_add, h1, cond_false, h2, bif_eq, if_false]
    rw [if_pos (by rw [g.mr]; exact hi), if_pos (by rw [g.mr]; exact hi), if_pos (by rw [g.col]; exact hi), if_pos (by rw [g.col]; exact hi), hM]
    simp only [Option.bind_some, cond_true, stE]
    rw [if_pos (by rw [g'.row]; exact hj), if_pos (by rw [g'.col]; exact hi)]
    rfl
  | @lost j i xs s t u b h1 h2 h3 h4 ih1 ih2 =>
    intro g hj hx
    have hi := hx i (List.mem_cons_self ..)
    have hc := (g.ok i.toNat (by omega)).resolve_left h2
    obtain ⟨M, hM⟩ := enter hc (ih1 (g.mark i) hc (hE _))
    have g' := h3.good hE (g.mark i) hc (hE _)
    obtain ⟨M2, hM2⟩ := ih2 g' hj (fun i hi => hx i (List.mem_cons_of_mem _ hi))
    refine ⟨M + M2 + 1, fun m m' n hm hn ys k hy hk e => ?_⟩
    obtain ⟨n, rfl⟩ : ∃ n', n = n' + 1 := ⟨n - 1, by omega⟩
    obtain ⟨hlt, e1, e2⟩ := head hy hk e
    have hM := hM m (by omega)
    have hb : (2305843009213693952 : Nat) = big := rfl
    simp only [St.mark] at hM
    rw [matching_kuhn_try_L0, bif_decide, if_pos (by omega), if_pos (by omega)]
    simp only [Int.toNat_natCast, e1, Nat.zero_add, h1, cond_false, h2, bif_eq, if_false, wsucc (show k < 4611686018427387904 by omega)]
    rw [if_pos (by rw [g.mr]; exact hi), if_pos (by rw [g.mr]; exact hi), if_pos (by rw [g.col]; exact hi), if_pos (by rw [g.col]; exact hi), hM]
    simp only [Option.bind_some, cond_false, stE]
    exact hM2 m m' n (by omega) (by omega) ys (k + 1) hy (by omega) e2
end Go.Vs.F

/-! MbLe -/
set_option linter.unusedVariables false
set_option linter.unusedSimpArgs false
namespace Go.Vs.F

/- The edges of a matrix. -/
def edgesOf (C : Nat) (S I : List Int) : List (List Int) := (List.range C).map (colOf S I)
theorem edgesOf_len {C : Nat} {S I : List Int} : (edgesOf C S I).length = C := by simp [edgesOf]
theorem edgesOf_get {C : Nat} {S I : List Int} {j : Nat} (hj : j < C) : (edgesOf C S I).getD j [] = colOf S I j := by
  simp [edgesOf, List.getD, hj]

/- A valid structure. -/
structure MatOK (R C : Nat) (S I : List Int) : Prop where
  st : StartOK C S I
  ent : ∀ j, j < C → colEnt (R : Int) S I j = true
  sz : I.length ≤ 10000
  cz : C ≤ 200
  rz : R ≤ 200
theorem MatOK.row {R C : Nat} {S I : List Int} (h : MatOK R C S I) {j : Nat} (hj : j < C) {k : Nat} (h1 : (S.getD j 0).toNat ≤ k) (h2 : k < (S.getD (j + 1) 0).toNat) : 0 ≤ I.getD k 0 ∧ I.getD k 0 < (R : Int) := by
  have := allFrom_iff.1 (h.ent j hj) k h1 h2
  simp only [entOK, Bool.and_eq_true, decide_eq_true_eq] at this
  exact this.1
theorem MatOK.edge {R C : Nat} {S I : List Int} (h : MatOK R C S I) : EdgeOK R (edgesOf C S I) := by
  intro j i hi
  by_cases hj : j < C
  · rw [edgesOf_get hj] at hi
    obtain ⟨k, hk, e⟩ := mem_getD (d := 0) hi
    rw [colOf_get h.st hj hk] at e
    rw [colOf_len h.st hj] at hk
    rw [← e]; exact h.row hj (by omega) (by omega)
  · simp [edgesOf, List.getD, hj] at hi
theorem MatOK.len {R C : Nat} {S I : List Int} (h : MatOK R C S I) (j : Nat) : ((edgesOf C S I).getD j []).length < big := by
  by_cases hj : j < C
  · rw [edgesOf_get hj, colOf_len h.st hj]
    have := h.st.rng (j := j + 1) (by omega)
    have := h.sz
    have hb : (2305843009213693952 : Nat) = big := rfl
    omega
  · simp [edgesOf, List.getD, hj, big]

def stR (R C : Nat) (S I V : List Int) (t : St) : Int × Int × List Int × List Int × List Int × List Int × List Int × List Bool × Unit := ((R : Int), (C : Int), S, I, V, t.col, t.row, t.mr, ())

end Go.Vs.F

/-! MbLf -/
set_option linter.unusedVariables false
set_option linter.unusedSimpArgs false
namespace Go.Vs.F

def St.fresh (R : Nat) (s : St) : St := { s with mr := List.replicate R false }
def st0 (R C : Nat) : St := ⟨List.replicate C (-1), List.replicate R (-1), []⟩

inductive All (E : List (List Int)) (R C : Nat) : Nat → St → St → Prop
  | done {s : St} : All E R C C s s
  | step {k : Nat} {s t u : St} {b : Bool} : k < C → Loop E (k : Int) (E.getD k []) (s.fresh R) b t → All E R C (k + 1) t u → All E R C k s u

theorem Good.fresh {R C : Nat} {s : St} (h : Good R C s) : Good R C (s.fresh R) := ⟨h.row, h.col, by simp [St.fresh], h.ok, h.rok⟩
theorem All.exists {E : List (List Int)} {R C : Nat} (hE : EdgeOK R E) : ∀ (d k : Nat) (s : St), C - k = d → k ≤ C → Good R C (s.fresh R) → ∃ t, All E R C k s t
  | 0, k, s, hd, hk, g => by
    have : k = C := by omega
    subst this; exact ⟨s, .done⟩
  | d + 1, k, s, hd, hk, g => by
    obtain ⟨b, t, h⟩ := Loop.exists hE _ (E.getD k []) (k : Int) (s.fresh R) (Nat.le_refl _) g (by omega) (hE k)
    have g' := h.good hE g (by omega) (hE k)
    obtain ⟨u, h'⟩ := All.exists hE d (k + 1) t (by omega) (by omega) g'.fresh
    exact ⟨u, .step (by omega) h h'⟩
theorem All.good {E : List (List Int)} {R C : Nat} (hE : EdgeOK R E) {k : Nat} {s t : St} (h : All E R C k s t) : Good R C (s.fresh R) → Good R C (t.fresh R) := by
  induction h with
  | done => exact id
  | step hk h _ ih => exact fun g => ih (h.good hE g (by omega) (hE _)).fresh
theorem st0_good {R C : Nat} : Good R C ((st0 R C).fresh R) := by
  refine ⟨by simp [St.fresh, st0], by simp [St.fresh, st0], by simp [St.fresh], fun i hi => .inl ?_, fun i hi => .inl ?_⟩
  · exact getD_replicate hi
  · exact getD_replicate hi

/-! ### The program's -/
theorem Edges_L0 (m : Nat) {R C : Nat} {S I V : List Int} (hM : MatOK R C S I) : ∀ (n k : Nat) (out : List (List Int)), C - k < n → k ≤ C → out.length = C → (∀ j, j < k → out.getD j [] = colOf S I j) →
    matching_Edges_L0 m n (R : Int) (C : Int) S I V out (C : Int) (k : Int) = some (.inl (edgesOf C S I, ()))
  | 0, k, out, h, _, _, _ => by omega
  | n + 1, k, out, h, hk0, hl, ho => by
    rw [matching_Edges_L0]
    have hlen := hM.st.len
    have hcz := hM.cz
    by_cases hk : k < C
    · have a := hM.st.rng (j := k) (by omega)
      have b := hM.st.rng (j := k + 1) (by omega)
      have d := hM.st.mono k hk
      have h1 : (k : Int) < (C : Int) := by omega
      have h2 : (k : Int) < (S.length : Int) := by omega
      have h3 : ((k + 1 : Nat) : Int) < (S.length : Int) := by omega
      have h4 : (k : Int) < (out.length : Int) := by omega
      simp only [bif_decide, h1, h2, h3, h4, if_true, Int.toNat_natCast, Int.natCast_nonneg, and_self, wsucc (show k < 4611686018427387904 by omega), a.1, b.2, d, Nat.zero_add]
      refine Edges_L0 m hM n (k + 1) _ (by omega) (by omega) (by simp [hl]) fun j hj => ?_
      by_cases e : k = j
      · subst e; rw [getD_set_eq (by omega)]; rfl
      · rw [getD_set_ne e]; exact ho j (by omega)
    · have h1 : ¬ (k : Int) < (C : Int) := by omega
      simp only [bif_decide, h1, if_false]
      have : out = edgesOf C S I := ext_getD [] (by rw [hl, edgesOf_len]) fun j hj => by
        rw [ho j (by omega), edgesOf_get (by omega)]
      rw [this]
theorem Edges_eq {m : Nat} {R C : Nat} {S I V : List Int} (hM : MatOK R C S I) (hm : 200 < m) : matching_Edges m (R : Int) (C : Int) S I V = some (edgesOf C S I, (), ()) := by
  have hcz := hM.cz
  rw [matching_Edges, if_pos (by omega)]
  have := Edges_L0 (V := V) m hM m 0 (List.replicate C []) (by omega) (by omega) (by simp) (fun j hj => absurd hj (Nat.not_lt_zero _))
  simp only [Int.toNat_natCast, List.length_replicate]
  simp only [Int.cast_ofNat_Int, Int.natCast_zero, Int.ofNat_zero] at this
  rw [this]; rfl
theorem full_L0 (m : Nat) {N : Nat} {v : Int} (hN : N < 4611686018427387904) : ∀ (n k : Nat) (out : List Int), N - k < n → k ≤ N → out.length = N → (∀ j, j < k → out.getD j 0 = v) →
    matching_full_L0 m n v out (N : Int) (k : Int) = some (.inl (List.replicate N v, ()))
  | 0, k, out, h, _, _, _ => by omega
  | n + 1, k, out, h, hk0, hl, ho => by
    rw [matching_full_L0]
    by_cases hk : k < N
    · have h1 : (k : Int) < (N : Int) := by omega
      have h4 : (k : Int) < (out.length : Int) := by omega
      simp only [bif_decide, h1, h4, if_true, Int.toNat_natCast, Int.natCast_nonneg, and_self, wsucc (show k < 4611686018427387904 by omega), Nat.zero_add]
      refine full_L0 m hN n (k + 1) _ (by omega) (by omega) (by simp [hl]) fun j hj => ?_
      by_cases e : k = j
      · subst e; rw [getD_set_eq (by omega)]
      · rw [getD_set_ne e]; exact ho j (by omega)
    · have h1 : ¬ (k : Int) < (N : Int) := by omega
      simp only [bif_decide, h1, if_false]
      have : out = List.replicate N v := ext_getD 0 (by rw [hl]; simp) fun j hj => by
        rw [ho j (by omega), getD_replicate (by omega)]
      rw [this]
theorem full_eq {m N : Nat} {v : Int} (hN : N < m) (hN2 : N ≤ 1073741824) : matching_full m (N : Int) v = some (List.replicate N v, (), (), ()) := by
  rw [matching_full, if_pos (by omega)]
  have := full_L0 m (N := N) (v := v) (by omega) m 0 (List.replicate N 0) (by omega) (by omega) (by simp) (fun j hj => absurd hj (Nat.not_lt_zero _))
  simp only [Int.toNat_natCast, List.length_replicate]
  simp only [Int.cast_ofNat_Int, Int.natCast_zero, Int.ofNat_zero] at this
  rw [this]; rfl

/- One column, by the program. -/
theorem prog_try {E : List (List Int)} {R C : Nat} (hE : EdgeOK R E) (hlen : E.length = C) (hs : ∀ j, (E.getD j []).length < big) {k : Nat} (hk : k < C) {s t : St} {b : Bool} (h : Loop E (k : Int) (E.getD k []) s b t) (g : Good R C s) :
    ∃ M, ∀ m, M ≤ m → matching_kuhn_try m E s.row s.col s.mr (k : Int) = some (b, stE E t, (), ()) := by
  obtain ⟨M, hM⟩ := prog_loop hE hlen hs h g (by omega) (hE k)
  refine ⟨M + 1, fun m hm => ?_⟩
  obtain ⟨m, rfl⟩ : ∃ m', m = m' + 1 := ⟨m - 1, by omega⟩
  rw [matching_kuhn_try, if_pos (by omega), Nat.zero_add]
  have := hM m m m (by omega) (by omega) (E.getD k []) 0 (hs _) (Nat.zero_le _) (by simp)
  simp only [Int.cast_ofNat_Int, Int.natCast_zero, Int.ofNat_zero] at this
  simp only [Int.toNat_natCast]
  rw [this]
  cases b <;> rfl
theorem matched_L0 {E : List (List Int)} {R C : Nat} {S I V : List Int} (hE : EdgeOK R E) (hlen : E.length = C) (hs : ∀ j, (E.getD j []).length < big) (hR : R ≤ 200) (hC : C ≤ 200) {k : Nat} {s u : St} (h : All E R C k s u) : Good R C (s.fresh R) →
    ∃ M, ∀ m n, M ≤ m → M ≤ n → matching_matched_L0 m n (R : Int) (C : Int) S I V E s.row s.col s.mr (C : Int) (k : Int) = some (.inl (stE E u, ())) := by
  induction h with
  | done =>
    intro g
    refine ⟨1, fun m n hm hn => ?_⟩
    obtain ⟨n, rfl⟩ : ∃ n', n = n' + 1 := ⟨n - 1, by omega⟩
    rw [matching_matched_L0, bif_decide, if_neg (by omega)]; rfl
  | @step k s t u b hk h _ ih =>
    intro g
    have g' := h.good hE g (by omega) (hE k)
    obtain ⟨M, hM⟩ := prog_try hE hlen hs hk h g
    obtain ⟨M2, hM2⟩ := ih g'.fresh
    refine ⟨M + M2 + 1, fun m n hm hn => ?_⟩
    obtain ⟨n, rfl⟩ : ∃ n', n = n' + 1 := ⟨n - 1, by omega⟩
    have hM := hM m (by omega)
    simp only [St.fresh] at hM
    rw [matching_matched_L0, bif_decide, if_pos (by omega), if_pos (by omega)]
    simp only [Int.toNat_natCast, hM, Option.bind_some, stE, wsucc (show k < 4611686018427387904 by omega)]
    exact hM2 m n (by omega) (by omega)
theorem matched_eq {R C : Nat} {S I V : List Int} (hM : MatOK R C S I) {u : St} (h : All (edgesOf C S I) R C 0 (st0 R C) u) :
    ∃ M, ∀ m, M ≤ m → matching_matched m (R : Int) (C : Int) S I V = some (stE (edgesOf C S I) u, (), ()) := by
  obtain ⟨M, hL⟩ := matched_L0 (S := S) (I := I) (V := V) hM.edge edgesOf_len hM.len hM.rz hM.cz h st0_good
  have hcz := hM.cz
  have hrz := hM.rz
  refine ⟨M + 201, fun m hm => ?_⟩
  rw [matching_matched, Edges_eq hM (by omega), full_eq (by omega) (by omega), full_eq (by omega) (by omega)]
  have := hL m m (by omega) (by omega)
  simp only [st0, Int.cast_ofNat_Int, Int.natCast_zero, Int.ofNat_zero] at this
  simp only [Option.bind_some, this]

/-! ### The document's -/
/-! ### The check tells -/
theorem chk_ok {R C : Int} {S I V : List Int} (h : chk R C S I V = 0) : ∃ r c : Nat, R = (r : Int) ∧ C = (c : Int) ∧ MatOK r c S I ∧ V.length = I.length ∧ finL V = true := by
  unfold chk at h
  split at h
  · omega
  · rename_i h1
    split at h
    · omega
    · rename_i h2
      split at h
      · omega
      · rename_i h3
        simp only [Bool.not_eq_false, Bool.and_eq_true, decide_eq_true_eq] at h1 h2 h3
        obtain ⟨⟨⟨⟨a1, a2⟩, a3⟩, a4⟩, a5⟩ := h1
        simp only [strB, Bool.and_eq_true, decide_eq_true_eq] at h2
        obtain ⟨⟨⟨⟨⟨b1, b2⟩, b3⟩, b4⟩, b5⟩, b6⟩ := h2
        refine ⟨R.toNat, C.toNat, by omega, by omega, ⟨⟨by omega, b2, fun j hj => ?_, b4⟩, fun j hj => ?_, a5, by omega, by omega⟩, b5.symm, h3⟩
        · have := allFrom_iff.1 b3 j (by omega) hj
          simpa [-List.getD_eq_getElem?_getD, le2] using this
        · have := allFrom_iff.1 b6 j (by omega) hj
          rw [show ((R.toNat : Nat) : Int) = R by omega]; exact this
end Go.Vs.F

/-! MbLg -/
set_option linter.unusedVariables false
set_option linter.unusedSimpArgs false
namespace Go.Vs.F

inductive Rch (E : List (List Int)) (C : Nat) (row col : List Int) : Nat → Prop
  | base {j : Nat} : j < C → row.getD j 0 = -1 → Rch E C row col j
  | step {j : Nat} {i : Int} : Rch E C row col j → i ∈ E.getD j [] → col.getD i.toNat 0 ≠ -1 → Rch E C row col (col.getD i.toNat 0).toNat

open Classical in
noncomputable def finC (E : List (List Int)) (C : Nat) (row col : List Int) : List Bool := (List.range C).map fun j => decide (Rch E C row col j)
open Classical in
noncomputable def finR (E : List (List Int)) (R C : Nat) (row col : List Int) : List Bool := (List.range R).map fun i : Nat => decide (∃ j, Rch E C row col j ∧ ((i : Nat) : Int) ∈ E.getD j [])
theorem finC_get {E : List (List Int)} {C : Nat} {row col : List Int} {j : Nat} (hj : j < C) : (finC E C row col).getD j false = true ↔ Rch E C row col j := by
  simp [finC, List.getD, hj]
theorem finR_get {E : List (List Int)} {R C : Nat} {row col : List Int} {i : Nat} (hi : i < R) : (finR E R C row col).getD i false = true ↔ ∃ j, Rch E C row col j ∧ (i : Int) ∈ E.getD j [] := by
  unfold finR
  rw [List.getD, List.getElem?_map, List.getElem?_range hi]
  simp only [Option.map_some, Option.getD_some, decide_eq_true_eq]

structure Q where
  rw_ : List Bool
  cl : List Bool
  td : List Int

def scan (col : List Int) : List Int → Q → Q
  | [], q => q
  | i :: xs, q =>
    if col.getD i.toNat 0 = -1 then scan col xs { q with rw_ := q.rw_.set i.toNat true }
    else if q.cl.getD (col.getD i.toNat 0).toNat false = true then scan col xs { q with rw_ := q.rw_.set i.toNat true }
    else scan col xs ⟨q.rw_.set i.toNat true, q.cl.set (col.getD i.toNat 0).toNat true, q.td ++ [col.getD i.toNat 0]⟩

/- Sizes. -/
structure QOK (R C : Nat) (q : Q) : Prop where
  rl : q.rw_.length = R
  cll : q.cl.length = C
  td : ∀ c ∈ q.td, 0 ≤ c ∧ c < (C : Int) ∧ q.cl.getD c.toNat false = true

structure ScanOK (R C : Nat) (col xs : List Int) (q q' : Q) : Prop where
  ok : QOK R C q'
  rows : ∀ i, i < R → (q'.rw_.getD i false = true ↔ q.rw_.getD i false = true ∨ (i : Int) ∈ xs)
  cols : ∀ c, c < C → (q'.cl.getD c false = true ↔ q.cl.getD c false = true ∨ ∃ x ∈ xs, col.getD x.toNat 0 ≠ -1 ∧ (col.getD x.toNat 0).toNat = c)
  keep : ∀ c ∈ q.td, c ∈ q'.td
  new : ∀ c, c < C → q'.cl.getD c false = true → q.cl.getD c false = true ∨ (c : Int) ∈ q'.td
  mu : 2 * q'.cl.count false + q'.td.length ≤ 2 * q.cl.count false + q.td.length

theorem scan_ok {R C : Nat} {col : List Int} (hcol : ∀ i, i < R → col.getD i 0 = -1 ∨ (0 ≤ col.getD i 0 ∧ col.getD i 0 < (C : Int))) : ∀ (xs : List Int) (q : Q), QOK R C q → (∀ i ∈ xs, 0 ≤ i ∧ i < (R : Int)) →
    ScanOK R C col xs q (scan col xs q)
  | [], q, h, _ => ⟨h, fun i hi => by simp [scan], fun c hc => by simp [scan], fun c hc => hc, fun c hc h => .inl h, Nat.le_refl _⟩
  | i :: xs, q, h, hx => by
    have hi := hx i (List.mem_cons_self ..)
    have hx' : ∀ i ∈ xs, 0 ≤ i ∧ i < (R : Int) := fun i hi => hx i (List.mem_cons_of_mem _ hi)
    have hrow : ∀ k, k < R → ((q.rw_.set i.toNat true).getD k false = true ↔ q.rw_.getD k false = true ∨ (k : Int) = i) := fun k hk => by
      by_cases e : i.toNat = k
      · subst e
        rw [getD_set_eq (by rw [h.rl]; exact hk)]
        simp; right; omega
      · rw [getD_set_ne e]
        have : ¬ (k : Int) = i := by omega
        simp [this]
    rw [scan]
    by_cases h1 : col.getD i.toNat 0 = -1
    · rw [if_pos h1]
      have ih := scan_ok hcol xs { q with rw_ := q.rw_.set i.toNat true } ⟨by simp [h.rl], h.cll, h.td⟩ hx'
      refine ⟨ih.ok, fun k hk => ?_, fun c hc => ?_, ih.keep, ih.new, ih.mu⟩
      · rw [ih.rows k hk, hrow k hk, List.mem_cons, or_assoc]
      · rw [ih.cols c hc]
        constructor
        · rintro (g | ⟨x, g1, g2⟩)
          · exact .inl g
          · exact .inr ⟨x, List.mem_cons_of_mem _ g1, g2⟩
        · rintro (g | ⟨x, g1, g2⟩)
          · exact .inl g
          · rcases List.mem_cons.1 g1 with rfl | g1
            · exact absurd h1 g2.1
            · exact .inr ⟨x, g1, g2⟩
    · rw [if_neg h1]
      have hc := (hcol i.toNat (by omega)).resolve_left h1
      by_cases h2 : q.cl.getD (col.getD i.toNat 0).toNat false = true
      · rw [if_pos h2]
        have ih := scan_ok hcol xs { q with rw_ := q.rw_.set i.toNat true } ⟨by simp [h.rl], h.cll, h.td⟩ hx'
        refine ⟨ih.ok, fun k hk => ?_, fun c hc => ?_, ih.keep, ih.new, ih.mu⟩
        · rw [ih.rows k hk, hrow k hk, List.mem_cons, or_assoc]
        · rw [ih.cols c hc]
          constructor
          · rintro (g | ⟨x, g1, g2⟩)
            · exact .inl g
            · exact .inr ⟨x, List.mem_cons_of_mem _ g1, g2⟩
          · rintro (g | ⟨x, g1, g2⟩)
            · exact .inl g
            · rcases List.mem_cons.1 g1 with rfl | g1
              · exact .inl (g2.2 ▸ h2)
              · exact .inr ⟨x, g1, g2⟩
      · rw [if_neg h2]
        have h2 : q.cl.getD (col.getD i.toNat 0).toNat false = false := by simpa using h2
        have hlt : (col.getD i.toNat 0).toNat < q.cl.length := by rw [h.cll]; omega
        have hcl : ∀ k, k < C → ((q.cl.set (col.getD i.toNat 0).toNat true).getD k false = true ↔ q.cl.getD k false = true ∨ (col.getD i.toNat 0).toNat = k) := fun k hk => by
          by_cases e : (col.getD i.toNat 0).toNat = k
          · rw [← e, getD_set_eq hlt]; simp
          · rw [getD_set_ne e]; simp only [e, or_false]
        have ih := scan_ok hcol xs ⟨q.rw_.set i.toNat true, q.cl.set (col.getD i.toNat 0).toNat true, q.td ++ [col.getD i.toNat 0]⟩ ⟨by simp [h.rl], by simp [h.cll], fun c hm => by
          rcases List.mem_append.1 hm with hm | hm
          · obtain ⟨a, b, d⟩ := h.td c hm
            exact ⟨a, b, (hcl _ (by omega)).2 (.inl d)⟩
          · obtain rfl := List.mem_singleton.1 hm
            exact ⟨hc.1, hc.2, (hcl _ (by omega)).2 (.inr rfl)⟩⟩ hx'
        refine ⟨ih.ok, fun k hk => ?_, fun c hc => ?_, fun c hm => ih.keep c (List.mem_append_left _ hm), fun c hc hm => ?_, ?_⟩
        · rw [ih.rows k hk, hrow k hk, List.mem_cons, or_assoc]
        · rw [ih.cols c hc, hcl c hc, or_assoc]
          constructor
          · rintro (g | g | ⟨x, g1, g2⟩)
            · exact .inl g
            · exact .inr ⟨i, List.mem_cons_self .., h1, g⟩
            · exact .inr ⟨x, List.mem_cons_of_mem _ g1, g2⟩
          · rintro (g | ⟨x, g1, g2⟩)
            · exact .inl g
            · rcases List.mem_cons.1 g1 with rfl | g1
              · exact .inr (.inl g2.2)
              · exact .inr (.inr ⟨x, g1, g2⟩)
        · rcases ih.new c hc hm with g | g
          · rcases (hcl c hc).1 g with g | g
            · exact .inl g
            · exact .inr (ih.keep _ (List.mem_append_right _ (List.mem_singleton.2 (by omega))))
          · exact .inr g
        · have := ih.mu
          have := count_set hlt h2
          simp only [List.length_append, List.length_singleton] at *
          omega

/- What holds between two columns. -/
structure Inv (E : List (List Int)) (R C : Nat) (row col : List Int) (q : Q) : Prop where
  ok : QOK R C q
  snd : ∀ j, j < C → q.cl.getD j false = true → Rch E C row col j
  rows : ∀ i, i < R → q.rw_.getD i false = true → ∃ j, Rch E C row col j ∧ (i : Int) ∈ E.getD j []
  base : ∀ j, j < C → row.getD j 0 = -1 → q.cl.getD j false = true
  done : ∀ j, j < C → q.cl.getD j false = true → (j : Int) ∈ q.td ∨ ∀ i ∈ E.getD j [], q.rw_.getD i.toNat false = true ∧ (col.getD i.toNat 0 ≠ -1 → q.cl.getD (col.getD i.toNat 0).toNat false = true)

section
variable {E : List (List Int)} {R C : Nat} {row col : List Int}
theorem Inv.step (hE : EdgeOK R E) (hcol : ∀ i, i < R → col.getD i 0 = -1 ∨ (0 ≤ col.getD i 0 ∧ col.getD i 0 < (C : Int))) {q : Q} (h : Inv E R C row col q) {c : Int} {td : List Int} (hc : c ∈ q.td) (htd : ∀ x, x ∈ q.td ↔ x = c ∨ x ∈ td) (hlen : td.length + 1 = q.td.length) :
    Inv E R C row col (scan col (E.getD c.toNat []) { q with td := td }) ∧ 2 * (scan col (E.getD c.toNat []) { q with td := td }).cl.count false + (scan col (E.getD c.toNat []) { q with td := td }).td.length < 2 * q.cl.count false + q.td.length := by
  obtain ⟨hc1, hc2, hc3⟩ := h.ok.td c hc
  have s := scan_ok hcol (E.getD c.toNat []) { q with td := td } ⟨h.ok.rl, h.ok.cll, fun x hx => h.ok.td x ((htd x).2 (.inr hx))⟩ (hE _)
  have hrc := h.snd c.toNat (by omega) hc3
  refine ⟨⟨s.ok, fun j hj hm => ?_, fun i hi hm => ?_, fun j hj hb => (s.cols j hj).2 (.inl (h.base j hj hb)), fun j hj hm => ?_⟩, by have := s.mu; simp only at this; omega⟩
  · rcases (s.cols j hj).1 hm with g | ⟨x, g1, g2, rfl⟩
    · exact h.snd j hj g
    · exact .step hrc g1 g2
  · rcases (s.rows i hi).1 hm with g | g
    · exact h.rows i hi g
    · exact ⟨_, hrc, g⟩
  · by_cases e : (j : Int) = c
    · right
      intro i hi
      have hir := hE _ i hi
      rw [show j = c.toNat by omega] at hi
      refine ⟨(s.rows i.toNat (by omega)).2 (.inr (by rw [show ((i.toNat : Nat) : Int) = i by omega]; exact hi)), fun g => ?_⟩
      have := (hcol i.toNat (by omega)).resolve_left g
      exact (s.cols _ (by omega)).2 (.inr ⟨i, hi, g, rfl⟩)
    · rcases s.new j hj hm with g | g
      · rcases h.done j hj g with g' | g'
        · exact .inl (s.keep _ (((htd _).1 g').resolve_left e))
        · right
          intro i hi
          have hir := hE _ i hi
          obtain ⟨a, b⟩ := g' i hi
          refine ⟨(s.rows i.toNat (by omega)).2 (.inl a), fun g => ?_⟩
          have := (hcol i.toNat (by omega)).resolve_left g
          exact (s.cols _ (by omega)).2 (.inl (b g))
      · exact .inl g
theorem Inv.fin (hE : EdgeOK R E) (hcol : ∀ i, i < R → col.getD i 0 = -1 ∨ (0 ≤ col.getD i 0 ∧ col.getD i 0 < (C : Int))) {q : Q} (h : Inv E R C row col q) (htd : q.td = []) : q.rw_ = finR E R C row col ∧ q.cl = finC E C row col := by
  have key : ∀ j, Rch E C row col j → j < C ∧ q.cl.getD j false = true := by
    intro j hj
    induction hj with
    | base h1 h2 => exact ⟨h1, h.base _ h1 h2⟩
    | @step j i hr hi hne ih =>
      have hir := hE _ i hi
      have := (hcol i.toNat (by omega)).resolve_left hne
      rcases h.done _ ih.1 ih.2 with g | g
      · rw [htd] at g; cases g
      · exact ⟨by omega, (g i hi).2 hne⟩
  constructor
  · refine ext_getD false (by simp [h.ok.rl, finR]) fun i hi => ?_
    rw [h.ok.rl] at hi
    rw [Bool.eq_iff_iff, finR_get hi]
    constructor
    · exact h.rows i hi
    · rintro ⟨j, hj, hm⟩
      obtain ⟨a, b⟩ := key j hj
      rcases h.done _ a b with g | g
      · rw [htd] at g; cases g
      · simpa using (g _ hm).1
  · refine ext_getD false (by simp [h.ok.cll, finC]) fun j hj => ?_
    rw [h.ok.cll] at hj
    rw [Bool.eq_iff_iff, finC_get hj]
    exact ⟨h.snd j hj, fun hr => (key j hr).2⟩
end
end Go.Vs.F

/-! MbLh -/
set_option linter.unusedVariables false
set_option linter.unusedSimpArgs false
namespace Go.Vs.F
theorem getD_memI {xs : List Int} {k : Nat} (h : k < xs.length) : xs.getD k 0 ∈ xs := by simp [List.getD, h]
section
variable {E : List (List Int)} {R C : Nat}

/-! ### The program's -/
theorem Reachable_L2 (m : Nat) (row col : List Int) (mr : List Bool) (hcl : col.length = R) (hcol : ∀ i, i < R → col.getD i 0 = -1 ∨ (0 ≤ col.getD i 0 ∧ col.getD i 0 < (C : Int))) (hC : C ≤ 200) (xs : List Int) (hxl : xs.length < big) (hx : ∀ i ∈ xs, 0 ≤ i ∧ i < (R : Int)) :
    ∀ (n k : Nat) (q : Q), xs.length - k < n → QOK R C q → q.td.length + q.cl.count false ≤ 100000 →
      matching_Reachable_L2 m n q.rw_ q.cl E row col mr q.td xs (xs.length : Int) (k : Int) = some (.inl ((scan col (xs.drop k) q).rw_, (scan col (xs.drop k) q).cl, (E, row, col, mr, ()), (scan col (xs.drop k) q).td, ()))
  | 0, k, q, h, _, _ => by omega
  | n + 1, k, q, h, hq, hsz => by
    rw [matching_Reachable_L2]
    by_cases hk : k < xs.length
    · have h1 : (k : Int) < (xs.length : Int) := by omega
      have hb : (2305843009213693952 : Nat) = big := rfl
      have hi := hx _ (getD_memI hk)
      have hi' : (xs.getD k 0).toNat < R := by omega
      have hd := drop_cons (d := 0) hk
      simp only [bif_decide, h1, if_true, Int.toNat_natCast, Int.natCast_nonneg, and_self, Nat.zero_add, bif_ne, wsucc (show k < 4611686018427387904 by omega)]
      rw [if_pos (by rw [hq.rl]; exact hi), if_pos (by rw [hcl]; exact hi)]
      by_cases e1 : col.getD (xs.getD k 0).toNat 0 = -1
      · rw [if_pos e1, show scan col (xs.drop k) q = scan col (xs.drop (k + 1)) { q with rw_ := q.rw_.set (xs.getD k 0).toNat true } by rw [hd, scan, if_pos e1]]
        exact Reachable_L2 m row col mr hcl hcol hC xs hxl hx n (k + 1) { q with rw_ := q.rw_.set (xs.getD k 0).toNat true } (by omega) ⟨by simp [hq.rl], hq.cll, hq.td⟩ hsz
      · have hc := (hcol _ hi').resolve_left e1
        rw [if_neg e1, if_pos (by rw [hq.cll]; exact hc)]
        by_cases e2 : q.cl.getD (col.getD (xs.getD k 0).toNat 0).toNat false = true
        · rw [e2, show scan col (xs.drop k) q = scan col (xs.drop (k + 1)) { q with rw_ := q.rw_.set (xs.getD k 0).toNat true } by rw [hd, scan, if_neg e1, if_pos e2]]
          exact Reachable_L2 m row col mr hcl hcol hC xs hxl hx n (k + 1) { q with rw_ := q.rw_.set (xs.getD k 0).toNat true } (by omega) ⟨by simp [hq.rl], hq.cll, hq.td⟩ hsz
        · have e2' : q.cl.getD (col.getD (xs.getD k 0).toNat 0).toNat false = false := by simpa using e2
          have hlt : (col.getD (xs.getD k 0).toNat 0).toNat < q.cl.length := by rw [hq.cll]; omega
          have hcs := count_set hlt e2'
          rw [e2', show scan col (xs.drop k) q = scan col (xs.drop (k + 1)) ⟨q.rw_.set (xs.getD k 0).toNat true, q.cl.set (col.getD (xs.getD k 0).toNat 0).toNat true, q.td ++ [col.getD (xs.getD k 0).toNat 0]⟩ by rw [hd, scan, if_neg e1, if_neg e2]]
          simp only [bif_not, cond_false]
          rw [if_pos (by rw [hq.cll]; exact hc), if_pos (by simp; omega)]
          refine Reachable_L2 m row col mr hcl hcol hC xs hxl hx n (k + 1) ⟨q.rw_.set (xs.getD k 0).toNat true, q.cl.set (col.getD (xs.getD k 0).toNat 0).toNat true, q.td ++ [col.getD (xs.getD k 0).toNat 0]⟩ (by omega) ⟨by simp [hq.rl], by simp [hq.cll], fun c hm => ?_⟩ (by simp only [List.length_append, List.length_singleton]; omega)
          have hset : ∀ k', q.cl.getD k' false = true ∨ (col.getD (xs.getD k 0).toNat 0).toNat = k' → (q.cl.set (col.getD (xs.getD k 0).toNat 0).toNat true).getD k' false = true := fun k' g => by
            by_cases e : (col.getD (xs.getD k 0).toNat 0).toNat = k'
            · rw [← e, getD_set_eq hlt]
            · rw [getD_set_ne e]; exact g.resolve_right e
          rcases List.mem_append.1 hm with hm | hm
          · obtain ⟨a, b, d⟩ := hq.td c hm
            exact ⟨a, b, hset _ (.inl d)⟩
          · obtain rfl := List.mem_singleton.1 hm
            exact ⟨hc.1, hc.2, hset _ (.inr rfl)⟩
    · have h1 : ¬ (k : Int) < (xs.length : Int) := by omega
      simp only [bif_decide, h1, if_false]
      rw [drop_nil' hk]; rfl

theorem Reachable_L1 (hE : EdgeOK R E) (hlen : E.length = C) (hs : ∀ j, (E.getD j []).length < 20000) (row col : List Int) (mr : List Bool) (hcl : col.length = R) (hcol : ∀ i, i < R → col.getD i 0 = -1 ∨ (0 ≤ col.getD i 0 ∧ col.getD i 0 < (C : Int))) (hC : C ≤ 200) (m : Nat) (hm : 20000 < m) :
    ∀ (n : Nat) (q : Q), Inv E R C row col q → 2 * q.cl.count false + q.td.length < n → 2 * q.cl.count false + q.td.length ≤ 100000 →
      matching_Reachable_L1 m n q.rw_ q.cl E row col mr q.td = some (.inl (finR E R C row col, finC E C row col, ()))
  | 0, q, h, hn, _ => by omega
  | n + 1, q, h, hn, hsz => by
    rw [matching_Reachable_L1]
    cases htd : q.td with
    | nil =>
      obtain ⟨e1, e2⟩ := h.fin hE hcol htd
      simp [e1, e2]
    | cons c td =>
      obtain ⟨a1, a2, a3⟩ := h.ok.td c (by rw [htd]; exact List.mem_cons_self ..)
      have hst := h.step hE hcol (c := c) (td := td) (by rw [htd]; exact List.mem_cons_self ..) (fun x => by rw [htd]; exact List.mem_cons) (by rw [htd]; rfl)
      rw [htd] at hn hsz hst
      have hle := List.count_le_length (a := false) (l := q.cl)
      rw [h.ok.cll] at hle
      simp only [List.length_cons] at hn hsz hst
      have hb : (2305843009213693952 : Nat) = big := rfl
      have e2 := Reachable_L2 (E := E) m row col mr hcl hcol hC (E.getD c.toNat []) (by have := hs c.toNat; omega) (hE _) m 0 { q with td := td } (by have := hs c.toNat; omega) ⟨h.ok.rl, h.ok.cll, fun x hx => h.ok.td x (by rw [htd]; exact List.mem_cons_of_mem _ hx)⟩ (by simp only; omega)
      simp only [Int.cast_ofNat_Int, Int.natCast_zero, Int.ofNat_zero, List.drop_zero] at e2
      simp only [List.length_cons, bif_decide, Nat.zero_add, List.getD_cons_zero, List.drop_one, List.tail_cons]
      rw [if_pos (by omega), if_pos (by omega), if_pos (by omega), if_pos (by omega), e2]
      exact Reachable_L1 hE hlen hs row col mr hcl hcol hC m hm n _ hst.1 (by omega) (by omega)

/- The start: the columns that are not matched. -/
structure Ini (C : Nat) (row : List Int) (k : Nat) (cl : List Bool) (td : List Int) : Prop where
  len : cl.length = C
  mem : ∀ j, j < C → (cl.getD j false = true ↔ j < k ∧ row.getD j 0 = -1)
  tdm : ∀ x : Int, x ∈ td ↔ ∃ j : Nat, x = (j : Int) ∧ j < k ∧ row.getD j 0 = -1
  sz : td.length ≤ k
theorem Ini.zero {row : List Int} : Ini C row 0 (List.replicate C false) [] := ⟨by simp, fun j hj => by rw [getD_replicate hj]; simp, fun x => by simp, Nat.le_refl _⟩
theorem Ini.yes {row : List Int} {k : Nat} {cl : List Bool} {td : List Int} (h : Ini C row k cl td) (hk : k < C) (e : row.getD k 0 = -1) : Ini C row (k + 1) (cl.set k true) (td ++ [(k : Int)]) := by
  refine ⟨by simp [h.len], fun j hj => ?_, fun x => ?_, by simp; exact h.sz⟩
  · by_cases g : k = j
    · subst g; rw [getD_set_eq (by rw [h.len]; exact hk)]; simp only [e]; simp
    · rw [getD_set_ne g, h.mem j hj]
      constructor
      · rintro ⟨a, b⟩; exact ⟨by omega, b⟩
      · rintro ⟨a, b⟩; exact ⟨by omega, b⟩
  · rw [List.mem_append, h.tdm, List.mem_singleton]
    constructor
    · rintro (⟨j, a, b, d⟩ | a)
      · exact ⟨j, a, by omega, d⟩
      · exact ⟨k, a, by omega, e⟩
    · rintro ⟨j, a, b, d⟩
      by_cases g : k = j
      · subst g; exact .inr a
      · exact .inl ⟨j, a, by omega, d⟩
theorem Ini.no {row : List Int} {k : Nat} {cl : List Bool} {td : List Int} (h : Ini C row k cl td) (e : row.getD k 0 ≠ -1) : Ini C row (k + 1) cl td := by
  refine ⟨h.len, fun j hj => ?_, fun x => ?_, Nat.le_succ_of_le h.sz⟩
  · rw [h.mem j hj]
    constructor
    · rintro ⟨a, b⟩; exact ⟨by omega, b⟩
    · rintro ⟨a, b⟩
      refine ⟨?_, b⟩
      by_cases g : k = j
      · subst g; exact absurd b e
      · omega
  · rw [h.tdm]
    constructor
    · rintro ⟨j, a, b, d⟩; exact ⟨j, a, by omega, d⟩
    · rintro ⟨j, a, b, d⟩
      refine ⟨j, a, ?_, d⟩
      by_cases g : k = j
      · subst g; exact absurd d e
      · omega
theorem Ini.inv {row col : List Int} {cl : List Bool} {td : List Int} (h : Ini C row C cl td) : Inv E R C row col ⟨List.replicate R false, cl, td⟩ := by
  refine ⟨⟨by simp, h.len, fun c hc => ?_⟩, fun j hj hm => ?_, fun i hi hm => ?_, fun j hj e => (h.mem j hj).2 ⟨hj, e⟩, fun j hj hm => ?_⟩
  · obtain ⟨j, rfl, a, b⟩ := (h.tdm c).1 hc
    exact ⟨by omega, by omega, (h.mem _ (by simpa using a)).2 ⟨by simpa using a, by simpa using b⟩⟩
  · exact .base hj ((h.mem j hj).1 hm).2
  · rw [getD_replicate hi] at hm; cases hm
  · obtain ⟨a, b⟩ := (h.mem j hj).1 hm
    exact .inl ((h.tdm _).2 ⟨j, rfl, a, b⟩)

theorem Reachable_L0 (m : Nat) (rw0 : List Bool) (row col : List Int) (mr : List Bool) (hrl : row.length = C) (hC : C ≤ 200) : ∀ (d k : Nat) (cl : List Bool) (td : List Int), C - k = d → k ≤ C → Ini C row k cl td →
    ∃ cl' td', Ini C row C cl' td' ∧ ∀ n, d < n → matching_Reachable_L0 m n rw0 cl E row col mr td (C : Int) (k : Int) = some (.inl (rw0, cl', (E, row, col, mr, ()), td', ()))
  | 0, k, cl, td, hd, hk0, hi => by
    have : k = C := by omega
    subst this
    refine ⟨cl, td, hi, fun n hn => ?_⟩
    obtain ⟨n, rfl⟩ : ∃ n', n = n' + 1 := ⟨n - 1, by omega⟩
    rw [matching_Reachable_L0, bif_decide, if_neg (by omega)]
  | d + 1, k, cl, td, hd, hk0, hi => by
    have hk : k < C := by omega
    have hl := hi.len
    have hsz := hi.sz
    by_cases e : row.getD k 0 = -1
    · obtain ⟨cl', td', g1, g2⟩ := Reachable_L0 m rw0 row col mr hrl hC d (k + 1) _ _ (by omega) (by omega) (hi.yes hk e)
      refine ⟨cl', td', g1, fun n hn => ?_⟩
      obtain ⟨n, rfl⟩ : ∃ n', n = n' + 1 := ⟨n - 1, by omega⟩
      rw [matching_Reachable_L0, bif_decide, if_pos (by omega), if_pos (by omega)]
      simp only [Nat.zero_add, Int.toNat_natCast, bif_eq, e, if_true, wsucc (show k < 4611686018427387904 by omega)]
      rw [if_pos (by omega), if_pos (by simp; omega)]
      exact g2 n (by omega)
    · obtain ⟨cl', td', g1, g2⟩ := Reachable_L0 m rw0 row col mr hrl hC d (k + 1) _ _ (by omega) (by omega) (hi.no e)
      refine ⟨cl', td', g1, fun n hn => ?_⟩
      obtain ⟨n, rfl⟩ : ∃ n', n = n' + 1 := ⟨n - 1, by omega⟩
      rw [matching_Reachable_L0, bif_decide, if_pos (by omega), if_pos (by omega)]
      simp only [Nat.zero_add, Int.toNat_natCast, bif_eq, e, if_false, wsucc (show k < 4611686018427387904 by omega)]
      exact g2 n (by omega)
end

theorem MatOK.len2 {R C : Nat} {S I : List Int} (h : MatOK R C S I) (j : Nat) : ((edgesOf C S I).getD j []).length < 20000 := by
  by_cases hj : j < C
  · rw [edgesOf_get hj, colOf_len h.st hj]
    have := h.st.rng (j := j + 1) (by omega)
    have := h.sz
    omega
  · simp [edgesOf, List.getD, hj]

theorem Reachable_eq {R C : Nat} {S I V : List Int} (hM : MatOK R C S I) {u : St} (h : All (edgesOf C S I) R C 0 (st0 R C) u) :
    ∃ M, ∀ m, M ≤ m → matching_Reachable m (R : Int) (C : Int) S I V = some ((finR (edgesOf C S I) R C u.row u.col, finC (edgesOf C S I) C u.row u.col, ()), (), ()) := by
  obtain ⟨M, hL⟩ := matched_eq (V := V) hM h
  have g := h.good hM.edge st0_good
  have hcz := hM.cz
  have hrz := hM.rz
  refine ⟨M + 100001, fun m hm => ?_⟩
  obtain ⟨cl, td, g1, g2⟩ := Reachable_L0 (E := edgesOf C S I) m (List.replicate R false) u.row u.col u.mr g.row hM.cz C 0 _ _ (by omega) (by omega) Ini.zero
  have g2 := g2 m (by omega)
  simp only [Int.cast_ofNat_Int, Int.natCast_zero, Int.ofNat_zero] at g2
  have hle := List.count_le_length (a := false) (l := cl)
  have hl := g1.len
  have hsz := g1.sz
  rw [matching_Reachable, hL m (by omega)]
  simp only [Option.bind_some, stE, Int.toNat_natCast]
  rw [if_pos (by omega), if_pos (by omega), show u.row.length = C from g.row, g2]
  simp only [Option.bind_some]
  rw [Reachable_L1 hM.edge edgesOf_len hM.len2 u.row u.col u.mr g.col g.ok hM.cz m (by omega) m ⟨List.replicate R false, cl, td⟩ g1.inv (by simp only; omega) (by simp only; omega)]
  rfl
end Go.Vs.F

/-! MbLi -/
set_option linter.unusedVariables false
set_option linter.unusedSimpArgs false
namespace Go.Vs.F
section
variable {R C : Nat} {S I V : List Int}

theorem last_of {xs : List Int} {n : Nat} (h : xs.length = n + 1) : xs = xs.take n ++ [xs.getD n 0] := by
  rw [← take_succ_getD (by omega), List.take_of_length_le (by omega)]

end

/-! ### The indices that have a value -/
def idxs (v : Bool) : Nat → List Bool → List Int
  | _, [] => []
  | k, b :: l => if b = v then (k : Int) :: idxs v (k + 1) l else idxs v (k + 1) l
theorem idxs_len {v : Bool} : ∀ {l : List Bool} {k : Nat}, (idxs v k l).length ≤ l.length
  | [], _ => Nat.le_refl _
  | b :: l, k => by
    rw [idxs]
    have := idxs_len (v := v) (l := l) (k := k + 1)
    split <;> simp <;> omega
theorem bif_beq {α : Type} {x y : Bool} {a b : α} : (bif x == y then a else b) = if x = y then a else b := by cases x <;> cases y <;> rfl
theorem List_L0 (m : Nat) (v : Bool) (l : List Bool) (hl : l.length ≤ 1000000000) : ∀ (n k : Nat) (out : List Int), l.length - k < n → out.length ≤ k →
    matching_List_L0 m n v out l (l.length : Int) (k : Int) = some (.inl (out ++ idxs v k (l.drop k), ()))
  | 0, k, out, h, _ => by omega
  | n + 1, k, out, h, ho => by
    rw [matching_List_L0]
    by_cases hk : k < l.length
    · rw [bif_decide, if_pos (by omega), if_pos (by omega)]
      simp only [Int.toNat_natCast, bif_beq, wsucc (show k < 4611686018427387904 by omega)]
      rw [drop_cons (d := false) hk, idxs]
      by_cases e : l.getD k false = v
      · rw [if_pos e, if_pos e, if_pos (by simp; omega), List_L0 m v l hl n (k + 1) _ (by omega) (by simp; omega)]
        simp
      · rw [if_neg e, if_neg e, List_L0 m v l hl n (k + 1) _ (by omega) (by omega)]
    · rw [bif_decide, if_neg (by omega), drop_nil' hk]; simp [idxs]
theorem List_eq {m : Nat} {v : Bool} {l : List Bool} (h : l.length < m) (hl : l.length ≤ 1000000000) : matching_List m l v = some (idxs v 0 l, (), (), ()) := by
  rw [matching_List]
  have := List_L0 m v l hl m 0 [] (by omega) (Nat.le_refl _)
  simp only [Int.cast_ofNat_Int, Int.natCast_zero, Int.ofNat_zero, List.drop_zero, List.nil_append] at this
  rw [this]; rfl
/-! ### Maximum and Cover -/
/- What both answer. -/
structure Ans (R C : Int) (S I V : List Int) where
  e : Int
  row : List Int
  cr : List Int
  cc : List Int
end Go.Vs.F

/-! MbLj -/
set_option linter.unusedVariables false
set_option linter.unusedSimpArgs false
namespace Go.Vs.F

theorem contains_cons' {x v : Int} {l : List Int} : (x :: l).contains v = (decide (x = v) || l.contains v) := by
  rw [List.contains_cons]
  by_cases h : x = v
  · subst h; simp
  · rw [show (v == x) = false by simpa using Ne.symm h]; simp [h]
theorem contains_L0 (m : Nat) (v : Int) (l : List Int) (hl : l.length < big) : ∀ (n k : Nat), l.length - k < n →
    matching_contains_L0 m n v l (l.length : Int) (k : Int) = some (bif (l.drop k).contains v then .inl (true, ()) else .inr (.inl ()))
  | 0, k, h => by omega
  | n + 1, k, h => by
    have hb : (2305843009213693952 : Nat) = big := rfl
    rw [matching_contains_L0]
    by_cases hk : k < l.length
    · rw [bif_decide, if_pos (by omega), if_pos (by omega), drop_cons (d := 0) hk, contains_cons']
      simp only [Int.toNat_natCast, bif_eq, wsucc (show k < 4611686018427387904 by omega)]
      by_cases e : l.getD k 0 = v
      · simp only [e, if_true, decide_true, Bool.true_or, cond_true]
      · simp only [e, if_false, decide_false, Bool.false_or]
        exact contains_L0 m v l hl n (k + 1) (by omega)
    · rw [bif_decide, if_neg (by omega), drop_nil' hk]; rfl
theorem contains_eq {m : Nat} {v : Int} {l : List Int} (h : l.length < m) (hl : l.length < big) : matching_contains m l v = some (l.contains v, (), (), ()) := by
  rw [matching_contains]
  have := contains_L0 m v l hl m 0 (by omega)
  simp only [Int.cast_ofNat_Int, Int.natCast_zero, Int.ofNat_zero, List.drop_zero] at this
  rw [this]
  cases l.contains v <;> rfl
/- How many columns are matched, if it is a matching. -/
def mat (E : List (List Int)) (R : Int) : List Int → Nat → List Bool → Int → Option Int
  | [], _, _, n => some n
  | i :: xs, k, used, n => if i = -1 then mat E R xs (k + 1) used n else
    if (decide (0 ≤ i) && decide (i < R) && !used.getD i.toNat false && (E.getD k []).contains i) = true then mat E R xs (k + 1) (used.set i.toNat true) (n + 1) else none

theorem matching_L0 (m : Nat) (E : List (List Int)) (R : Nat) (xs : List Int) (hE : ∀ j, (E.getD j []).length < m) (hE2 : ∀ j, (E.getD j []).length < big) (hx : xs.length ≤ E.length) (hl : xs.length < big) : ∀ (n k : Nat) (used : List Bool) (c : Nat), xs.length - k < n → used.length = R → c ≤ k →
    matching_matching_L0 m n E (R : Int) used (c : Int) xs (xs.length : Int) (k : Int) = some (match mat E (R : Int) (xs.drop k) k used (c : Int) with
      | some s => .inr (.inl (s, ()))
      | none => .inl (0, false, ()))
  | 0, k, used, c, h, _, _ => by omega
  | n + 1, k, used, c, h, hu, hc => by
    have hb : (2305843009213693952 : Nat) = big := rfl
    rw [matching_matching_L0]
    by_cases hk : k < xs.length
    · rw [bif_decide, if_pos (by omega), if_pos (by omega), drop_cons (d := 0) hk, mat]
      simp only [Int.toNat_natCast, bif_eq, bif_decide, Nat.zero_add, wsucc (show k < 4611686018427387904 by omega), wsucc (show c < 4611686018427387904 by omega), contains_eq (hE k) (hE2 k), Option.bind_some, bif_not]
      obtain ⟨i, hi⟩ : ∃ i, xs.getD k 0 = i := ⟨_, rfl⟩
      simp only [hi]
      by_cases e : i = -1
      · rw [if_pos e, if_pos e]
        exact matching_L0 m E R xs hE hE2 hx hl n (k + 1) used c (by omega) hu (by omega)
      · rw [if_neg e, if_neg e]
        by_cases e1 : i < 0
        · have : ¬ 0 ≤ i := by omega
          simp [e1, this]
        · have e1' : 0 ≤ i := by omega
          rw [if_neg e1]
          by_cases e2 : i ≥ (R : Int)
          · have : ¬ i < (R : Int) := by omega
            simp [e2, this]
          · have e2' : i < (R : Int) := by omega
            rw [if_neg e2, if_pos (by rw [hu]; omega), if_pos (by omega)]
            cases e3 : used.getD i.toNat false
            · simp only [cond_false, e1', e2', decide_true, Bool.true_and, Bool.not_false]
              cases e4 : (E.getD k []).contains i
              · simp
              · simp only [cond_true, if_true]
                rw [if_pos (by rw [hu]; exact ⟨trivial, e2'⟩)]
                exact matching_L0 m E R xs hE hE2 hx hl n (k + 1) (used.set i.toNat true) (c + 1) (by omega) (by simp [hu]) (by omega)
            · simp
    · rw [bif_decide, if_neg (by omega), drop_nil' hk]; rfl
theorem matching_eq {m : Nat} {E : List (List Int)} {R : Nat} {xs : List Int} (hE : ∀ j, (E.getD j []).length < m) (hE2 : ∀ j, (E.getD j []).length < big) (hx : xs.length ≤ E.length) (hl : xs.length < big) (hm : xs.length < m) (hR : R ≤ 200) :
    matching_matching m E (R : Int) xs = some (match mat E (R : Int) xs 0 (List.replicate R false) 0 with
      | some s => ((s, true, ()), (), (), (), ())
      | none => ((0, false, ()), (), (), (), ())) := by
  rw [matching_matching, if_pos (by omega)]
  have := matching_L0 m E R xs hE hE2 hx hl m 0 (List.replicate R false) 0 (by omega) (by simp) (Nat.le_refl _)
  simp only [Int.cast_ofNat_Int, Int.natCast_zero, Int.ofNat_zero, List.drop_zero] at this
  simp only [Int.toNat_natCast]
  rw [this]
  cases mat E (R : Int) xs 0 (List.replicate R false) 0 <;> rfl

/-! ### The cover -/
def setAll (out : List Bool) : List Int → List Bool
  | [] => out
  | i :: xs => setAll (out.set i.toNat true) xs
theorem setAll_len {xs : List Int} : ∀ {out : List Bool}, (setAll out xs).length = out.length := by
  induction xs with
  | nil => exact rfl
  | cons i xs ih => intro out; rw [setAll, ih]; simp
theorem setAll_get {N : Int} : ∀ {xs : List Int} {out : List Bool} {l : Int} {k : Nat}, -1 ≤ l → ascB N l xs = true → k < out.length → (out.length : Int) = N → (setAll out xs).getD k false = (out.getD k false || xs.contains (k : Int))
  | [], out, l, k, _, _, _, _ => by simp [setAll]
  | i :: xs, out, l, k, hl, ha, hk, hN => by
    simp only [ascB, Bool.and_eq_true, decide_eq_true_eq] at ha
    rw [setAll, setAll_get (l := i) (by omega) ha.2 (by simpa using hk) (by simpa using hN), contains_cons']
    by_cases e : i.toNat = k
    · rw [← e, getD_set_eq (by rw [e]; exact hk)]
      have : i = ((i.toNat : Nat) : Int) := by omega
      simp [← this]
    · rw [getD_set_ne e]
      have : ¬ i = (k : Int) := by omega
      simp [this]
theorem chosen_L0 (m : Nat) (N : Nat) (xs : List Int) (hx : xs.length < big) : ∀ (n k : Nat) (out : List Bool) (l : Int), xs.length - k < n → -1 ≤ l → out.length = N →
    matching_chosen_L0 m n (N : Int) out l xs (xs.length : Int) (k : Int) = some (bif ascB (N : Int) l (xs.drop k) then .inr (.inl (setAll out (xs.drop k), ())) else .inl ([], false, ()))
  | 0, k, out, l, h, _, _ => by omega
  | n + 1, k, out, l, h, hl, ho => by
    have hb : (2305843009213693952 : Nat) = big := rfl
    rw [matching_chosen_L0]
    by_cases hk : k < xs.length
    · rw [bif_decide, if_pos (by omega), if_pos (by omega), drop_cons (d := 0) hk, ascB, setAll]
      simp only [Int.toNat_natCast, bif_decide, Nat.zero_add, wsucc (show k < 4611686018427387904 by omega)]
      obtain ⟨i, hi⟩ : ∃ i, xs.getD k 0 = i := ⟨_, rfl⟩
      simp only [hi]
      by_cases e1 : i ≤ l
      · have : ¬ l < i := by omega
        simp [e1, this]
      · have e1' : l < i := by omega
        rw [if_neg e1]
        by_cases e2 : i ≥ (N : Int)
        · have : ¬ i < (N : Int) := by omega
          simp [e2, this]
        · have e2' : i < (N : Int) := by omega
          rw [if_neg e2, if_pos (by rw [ho]; omega)]
          simp only [e1', e2', decide_true, Bool.true_and]
          exact chosen_L0 m N xs hx n (k + 1) (out.set i.toNat true) i (by omega) (by omega) (by simp [ho])
    · rw [bif_decide, if_neg (by omega), drop_nil' hk]; rfl
theorem chosen_eq {m N : Nat} {xs : List Int} (hx : xs.length < big) (hm : xs.length < m) (hN : N ≤ 200) : matching_chosen m xs (N : Int) = some (bif ascB (N : Int) (-1) xs then ((setAll (List.replicate N false) xs, true, ()), (), (), ()) else (([], false, ()), (), (), ())) := by
  rw [matching_chosen, if_pos (by omega)]
  have := chosen_L0 m N xs hx m 0 (List.replicate N false) (-1) (by omega) (by omega) (by simp)
  simp only [Int.cast_ofNat_Int, Int.natCast_zero, Int.ofNat_zero, List.drop_zero] at this
  simp only [Int.toNat_natCast]
  rw [this]
  cases ascB (N : Int) (-1) xs <;> rfl

theorem covers_L1 (m : Nat) (row col : List Bool) (R C j : Nat) (E : List (List Int)) (a : Int) (xs : List Int) (hl : xs.length < big) (hr : row.length = R) (hc : col.length = C) (hj : j < C) (hx : ∀ i ∈ xs, 0 ≤ i ∧ i < (R : Int)) : ∀ (n k : Nat), xs.length - k < n →
    matching_covers_L1 m n row col (j : Int) E a (j : Int) xs (xs.length : Int) (k : Int) = some (bif (xs.drop k).all (fun i => row.getD i.toNat false || col.getD j false) then .inr (.inl (row, col, E, a, (j : Int), ())) else .inl (false, ()))
  | 0, k, h => by omega
  | n + 1, k, h => by
    have hb : (2305843009213693952 : Nat) = big := rfl
    rw [matching_covers_L1]
    by_cases hk : k < xs.length
    · have hi := hx _ (getD_memI hk)
      rw [bif_decide, if_pos (by omega), if_pos (by omega), drop_cons (d := 0) hk, List.all_cons]
      simp only [Int.toNat_natCast, Nat.zero_add, bif_not, wsucc (show k < 4611686018427387904 by omega)]
      rw [if_pos (by rw [hr]; exact hi), if_pos (by rw [hc]; omega), covers_L1 m row col R C j E a xs hl hr hc hj hx n (k + 1) (by omega)]
      cases row.getD (xs.getD k 0).toNat false <;> cases col.getD j false <;> simp
    · rw [bif_decide, if_neg (by omega), drop_nil' hk]; rfl
theorem covers_L0 (m : Nat) (row col : List Bool) (R C : Nat) (E : List (List Int)) (hE : EdgeOK R E) (hEl : E.length = C) (hl : ∀ j, (E.getD j []).length < m) (hl2 : ∀ j, (E.getD j []).length < big) (hr : row.length = R) (hc : col.length = C) (hC : C ≤ 200) : ∀ (n k : Nat), C - k < n →
    matching_covers_L0 m n row col E (C : Int) (k : Int) = some (bif allFrom (fun j => (E.getD j []).all (fun i => row.getD i.toNat false || col.getD j false)) k C then .inr (.inl ()) else .inl (false, ()))
  | 0, k, h => by omega
  | n + 1, k, h => by
    rw [matching_covers_L0]
    by_cases hk : k < C
    · have e := covers_L1 m row col R C k E (C : Int) (E.getD k []) (hl2 k) hr hc hk (hE k) m 0 (by have := hl k; omega)
      simp only [Int.cast_ofNat_Int, Int.natCast_zero, Int.ofNat_zero, List.drop_zero] at e
      rw [bif_decide, if_pos (by omega), if_pos (by omega), allFrom_step hk]
      simp only [Int.toNat_natCast]
      rw [e]
      cases (E.getD k []).all (fun i => row.getD i.toNat false || col.getD k false)
      · rfl
      · simp only [cond_true, Option.bind_some, Bool.true_and, wsucc (show k < 4611686018427387904 by omega)]
        exact covers_L0 m row col R C E hE hEl hl hl2 hr hc hC n (k + 1) (by omega)
    · rw [bif_decide, if_neg (by omega), allFrom_end hk]; rfl

/- Each edge has its row or its column in the cover. -/
def cov (E : List (List Int)) (C : Nat) (cr cc : List Int) : Bool := allFrom (fun j => (E.getD j []).all (fun i => cr.contains i || cc.contains (j : Int))) 0 C
theorem all_congr {α : Type} {p q : α → Bool} {l : List α} (h : ∀ x ∈ l, p x = q x) : l.all p = l.all q := by
  induction l with
  | nil => rfl
  | cons x l ih => simp [h x (List.mem_cons_self ..), ih (fun y hy => h y (List.mem_cons_of_mem _ hy))]
theorem covers_eq {m R C : Nat} {E : List (List Int)} {cr cc : List Int} (hE : EdgeOK R E) (hEl : E.length = C) (hl : ∀ j, (E.getD j []).length < m) (hl2 : ∀ j, (E.getD j []).length < big) (hR : R ≤ 200) (hC : C ≤ 200) (h1 : cr.length < m) (h2 : cc.length < m) (g1 : cr.length < big) (g2 : cc.length < big) (hm : 200 < m) :
    matching_covers m E (R : Int) cr cc = some (ascB (R : Int) (-1) cr && ascB (C : Int) (-1) cc && cov E C cr cc, (), (), (), ()) := by
  rw [matching_covers, hEl, chosen_eq g1 h1 hR, chosen_eq g2 h2 hC]
  cases ea : ascB (R : Int) (-1) cr
  · simp
  · cases eb : ascB (C : Int) (-1) cc
    · simp
    · simp only [cond_true, Option.bind_some, Bool.not_true, cond_false, Bool.true_and]
      have := covers_L0 m (setAll (List.replicate R false) cr) (setAll (List.replicate C false) cc) R C E hE hEl hl hl2 (by rw [setAll_len]; simp) (by rw [setAll_len]; simp) hC m 0 (by omega)
      simp only [Int.cast_ofNat_Int, Int.natCast_zero, Int.ofNat_zero] at this
      rw [this]
      have e : allFrom (fun j => (E.getD j []).all (fun i => (setAll (List.replicate R false) cr).getD i.toNat false || (setAll (List.replicate C false) cc).getD j false)) 0 C = cov E C cr cc := by
        unfold cov
        refine allFrom_congr fun j _ hj => all_congr fun i hi => ?_
        have hir := hE j i hi
        rw [setAll_get (N := (R : Int)) (l := -1) (by omega) ea (by simp; omega) (by simp), setAll_get (N := (C : Int)) (l := -1) (by omega) eb (by simp; omega) (by simp), getD_replicate (by omega), getD_replicate hj]
        rw [show ((i.toNat : Nat) : Int) = i by omega]
        simp
      rw [e]
      cases cov E C cr cc <;> rfl

/- What both checks answer of a valid matrix. -/
def chkM (E : List (List Int)) (R C : Nat) (xs cr cc : List Int) : Int :=
  if (xs.length : Int) = (C : Int) then
    match mat E (R : Int) xs 0 (List.replicate R false) 0 with
    | none => 130
    | some n => if (ascB (R : Int) (-1) cr && ascB (C : Int) (-1) cc && cov E C cr cc) = true ∧ ((cr.length : Int) + (cc.length : Int) = n) then 0 else 131
  else 2
theorem matching_Check_eq {m R C : Nat} {S I V xs cr cc : List Int} (hM : MatOK R C S I) (hc : chk (R : Int) (C : Int) S I V = 0) (hS : S.length ≤ 1000000) (hV : V.length ≤ 1000000) (hx : xs.length ≤ 1000000) (h1 : cr.length ≤ 1000000) (h2 : cc.length ≤ 1000000) (hm : 2000000 < m) :
    matching_Check m (R : Int) (C : Int) S I V xs cr cc = some (chkM (edgesOf C S I) R C xs cr cc, (), (), (), ()) := by
  have hb : (2305843009213693952 : Nat) = big := rfl
  have hcz := hM.cz
  have hrz := hM.rz
  have hl : ∀ j, ((edgesOf C S I).getD j []).length < m := fun j => by have := hM.len2 j; omega
  rw [matching_Check, matrix_Check_eq (by omega) (by omega) (by omega) (by omega) (by omega), hc, chkM]
  simp only [Option.bind_some, bif_ne, if_true]
  by_cases e : (xs.length : Int) = (C : Int)
  · rw [if_pos e, if_pos e, Edges_eq hM (by omega)]
    simp only [Option.bind_some]
    rw [matching_eq hl hM.len (by rw [edgesOf_len]; omega) (by omega) (by omega) hrz]
    cases mat (edgesOf C S I) (R : Int) xs 0 (List.replicate R false) 0 with
    | none => rfl
    | some n =>
      simp only [Option.bind_some, Bool.not_true, cond_false]
      rw [covers_eq hM.edge edgesOf_len hl hM.len hrz hcz (by omega) (by omega) (by omega) (by omega) (by omega)]
      simp only [Option.bind_some, wi (show (-9223372036854775808 : Int) ≤ (cr.length : Int) + (cc.length : Int) by omega) (by omega), bif_not]
      cases (ascB (R : Int) (-1) cr && ascB (C : Int) (-1) cc && cov (edgesOf C S I) C cr cc)
      · simp
      · by_cases g : (cr.length : Int) + (cc.length : Int) = n
        · simp [g]
        · simp [g]
  · rw [if_neg e, if_neg e]
end Go.Vs.F

/-! MbLk -/
set_option linter.unusedVariables false
set_option linter.unusedSimpArgs false
namespace Go.Vs.F

theorem colOf_range {R C : Nat} {S I : List Int} (h : MatOK R C S I) {j : Nat} (hj : j < C) : colOf S I j = (List.range' (S.getD j 0).toNat ((S.getD (j + 1) 0).toNat - (S.getD j 0).toNat)).map fun t => I.getD t 0 := by
  refine ext_getD 0 (by rw [colOf_len h.st hj]; simp) fun k hk => ?_
  rw [colOf_get h.st hj hk]
  rw [colOf_len h.st hj] at hk
  have e : ∀ s n, k < n → (List.range' s n)[k]? = some (s + k) := fun s n h => by rw [List.getElem?_range' h, Nat.one_mul]
  have e2 : ∀ l : List Nat, (l.map fun t => I.getD t 0).getD k 0 = ((l[k]?).map fun t => I.getD t 0).getD 0 := fun l => by rw [List.getD, List.getElem?_map]
  rw [e2, e _ _ hk]; rfl

section
variable {R C : Nat} {S I V : List Int}
theorem Stored_L0 (m : Nat) (hM : MatOK R C S I) (i : Int) {j : Nat} (hj : j < C) : ∀ (n k : Nat), (S.getD (j + 1) 0).toNat - k < n → (S.getD j 0).toNat ≤ k →
    sparseref09_Stored_L0 m n i (j : Int) (R : Int) (C : Int) S I V (k : Int) = some (bif ((I.drop k).take ((S.getD (j + 1) 0).toNat - k)).contains i then .inl (true, ()) else .inr (.inl ()))
  | 0, k, h, _ => by omega
  | n + 1, k, h, h0 => by
    have hl := hM.st.len
    have hcz := hM.cz
    have hiz := hM.sz
    have b := hM.st.rng (j := j + 1) (by omega)
    rw [sparseref09_Stored_L0]
    simp only [wsucc (show j < 4611686018427387904 by omega), Int.toNat_natCast, bif_decide]
    rw [if_pos (by omega)]
    by_cases hk : k < (S.getD (j + 1) 0).toNat
    · have hki : k < I.length := by omega
      rw [if_pos (by omega), if_pos (by omega), drop_cons (d := 0) hki, show (S.getD (j + 1) 0).toNat - k = ((S.getD (j + 1) 0).toNat - (k + 1)) + 1 by omega, List.take_succ_cons, contains_cons']
      simp only [bif_eq, wsucc (show k < 4611686018427387904 by omega)]
      by_cases e : I.getD k 0 = i
      · simp only [e, if_true, decide_true, Bool.true_or, cond_true]
      · simp only [e, if_false, decide_false, Bool.false_or]
        exact Stored_L0 m hM i hj n (k + 1) (by omega) (by omega)
    · rw [if_neg (by omega), show (S.getD (j + 1) 0).toNat - k = 0 by omega]; rfl
theorem Stored_eq {m : Nat} (hM : MatOK R C S I) (i : Int) {j : Nat} (hj : j < C) (hm : 20000 < m) : sparseref09_Stored m (R : Int) (C : Int) S I V i (j : Int) = some (decide (0 ≤ i) && decide (i < (R : Int)) && ((edgesOf C S I).getD j []).contains i, (), (), (), ()) := by
  have hl := hM.st.len
  have a := hM.st.rng (j := j) (by omega)
  have b := hM.st.rng (j := j + 1) (by omega)
  have hiz := hM.sz
  rw [sparseref09_Stored]
  by_cases e1 : i < 0
  · have : ¬ 0 ≤ i := by omega
    simp [e1, this]
  · have e1' : 0 ≤ i := by omega
    by_cases e2 : i ≥ (R : Int)
    · have : ¬ i < (R : Int) := by omega
      simp [e1, e2, this]
    · have e2' : i < (R : Int) := by omega
      simp only [bif_decide]
      rw [if_neg e1, if_neg e2, if_neg (by omega), if_neg (by omega), if_pos (by omega)]
      have := Stored_L0 (V := V) m hM i hj m (S.getD j 0).toNat (by omega) (Nat.le_refl _)
      rw [show (((S.getD j 0).toNat : Nat) : Int) = S.getD j 0 by omega] at this
      simp only [Int.toNat_natCast]
      rw [this, edgesOf_get hj]
      unfold colOf
      cases ((I.drop (S.getD j 0).toNat).take ((S.getD (j + 1) 0).toNat - (S.getD j 0).toNat)).contains i
      · simp [e1', e2']
      · simp [e1', e2']

/- The matched columns, counted as the document does. -/
/-! ### Ascending and in range -/
theorem asc_iff {R : Int} : ∀ {l : List Int} {b : Int}, -1 ≤ b → (ascB R b l = true ↔ (∀ k, k < l.length → b < l.getD k 0 ∧ l.getD k 0 < R) ∧ ∀ k, k + 1 < l.length → l.getD k 0 < l.getD (k + 1) 0)
  | [], b, _ => by simp [ascB]
  | x :: l, b, hb => by
    simp only [ascB, Bool.and_eq_true, decide_eq_true_eq]
    constructor
    · rintro ⟨⟨h1, h2⟩, h3⟩
      obtain ⟨g1, g2⟩ := (asc_iff (l := l) (b := x) (by omega)).1 h3
      refine ⟨fun k hk => ?_, fun k hk => ?_⟩
      · cases k with
        | zero => exact ⟨h1, h2⟩
        | succ k =>
          have := g1 k (by simpa using hk)
          rw [List.getD_cons_succ]; omega
      · cases k with
        | zero =>
          have := g1 0 (by simpa using hk)
          rw [List.getD_cons_succ, List.getD_cons_zero]; exact this.1
        | succ k =>
          rw [List.getD_cons_succ, List.getD_cons_succ]
          exact g2 k (by simpa using hk)
    · rintro ⟨h1, h2⟩
      have h0 := h1 0 (by simp)
      rw [List.getD_cons_zero] at h0
      refine ⟨h0, (asc_iff (l := l) (b := x) (by omega)).2 ⟨fun k hk => ?_, fun k hk => ?_⟩⟩
      · have g1 := h1 (k + 1) (by simpa using hk)
        rw [List.getD_cons_succ] at g1
        refine ⟨?_, g1.2⟩
        induction k with
        | zero =>
          have := h2 0 (by simpa using hk)
          rwa [List.getD_cons_succ, List.getD_cons_zero] at this
        | succ k ih =>
          have := h2 (k + 1) (by simpa using hk)
          rw [List.getD_cons_succ, List.getD_cons_succ] at this
          have g2 := h1 (k + 1) (by simp at hk ⊢; omega)
          rw [List.getD_cons_succ] at g2
          have := ih (by omega) g2
          omega
      · have := h2 (k + 1) (by simpa using hk)
        rwa [List.getD_cons_succ, List.getD_cons_succ] at this
def lt2 (l : List Int) (k : Nat) : Bool := decide (l.getD (k - 1) 0 < l.getD k 0)
def ascL (l : List Int) : Bool := allFrom (lt2 l) 1 l.length
def rngB (N : Int) (l : List Int) (k : Nat) : Bool := decide (0 ≤ l.getD k 0) && decide (l.getD k 0 < N)
theorem ascB_split {N : Int} {l : List Int} : ascB N (-1) l = (ascL l && allFrom (rngB N l) 0 l.length) := by
  rw [Bool.eq_iff_iff, asc_iff (by omega), Bool.and_eq_true, ascL, allFrom_iff, allFrom_iff]
  constructor
  · rintro ⟨h1, h2⟩
    refine ⟨fun k a b => ?_, fun k a b => ?_⟩
    · have := h2 (k - 1) (by omega)
      rw [show k - 1 + 1 = k by omega] at this
      simpa [-List.getD_eq_getElem?_getD, lt2] using this
    · have := h1 k b
      simp only [rngB, Bool.and_eq_true, decide_eq_true_eq]; omega
  · rintro ⟨h1, h2⟩
    refine ⟨fun k b => ?_, fun k b => ?_⟩
    · have := h2 k (Nat.zero_le _) b
      simp only [rngB, Bool.and_eq_true, decide_eq_true_eq] at this; omega
    · have := h1 (k + 1) (by omega) b
      simpa [-List.getD_eq_getElem?_getD, lt2] using this

/-! ### Entries -/
def entCol (S I V : List Int) (j k e : Nat) : List (Int × Int × Int) := (List.range' k (e - k)).map fun t => (I.getD t 0, (j : Int), V.getD t 0)
def ents (S I V : List Int) : Nat → Nat → List (Int × Int × Int)
  | 0, _ => []
  | d + 1, k => entCol S I V k (S.getD k 0).toNat (S.getD (k + 1) 0).toNat ++ ents S I V d (k + 1)
theorem entCol_len {j k e : Nat} : (entCol S I V j k e).length = e - k := by simp [entCol]
theorem entCol_step {j k e : Nat} (h : k < e) : entCol S I V j k e = (I.getD k 0, (j : Int), V.getD k 0) :: entCol S I V j (k + 1) e := by
  unfold entCol
  rw [show e - k = (e - (k + 1)) + 1 by omega, List.range'_succ]; rfl
theorem entCol_all {p : Int → Int → Bool} (hM : MatOK R C S I) {j : Nat} (hj : j < C) : (entCol S I V j (S.getD j 0).toNat (S.getD (j + 1) 0).toNat).all (fun e => p e.1 e.2.1) = (colOf S I j).all (fun i => p i (j : Int)) := by
  rw [colOf_range hM hj, entCol, List.all_map, List.all_map]; rfl
theorem ents_all {p : Int → Int → Bool} (hM : MatOK R C S I) : ∀ (d k : Nat), C - k = d → k ≤ C → (ents S I V d k).all (fun e => p e.1 e.2.1) = allFrom (fun j => ((edgesOf C S I).getD j []).all (fun i => p i (j : Int))) k C
  | 0, k, hd, hk => by rw [allFrom_end (by omega)]; rfl
  | d + 1, k, hd, hk => by
    rw [ents, List.all_append, entCol_all hM (by omega : k < C), ents_all hM d (k + 1) (by omega) (by omega), allFrom_step (by omega : k < C), edgesOf_get (by omega)]
theorem ents_len (hM : MatOK R C S I) : ∀ (d k : Nat), C - k = d → k ≤ C → (ents S I V d k).length = (S.getD C 0).toNat - (S.getD k 0).toNat
  | 0, k, hd, hk => by
    have : k = C := by omega
    subst this; simp [ents]
  | d + 1, k, hd, hk => by
    have a := hM.st.rng (j := k) (by omega)
    have b := hM.st.rng (j := k + 1) (by omega)
    have c := hM.st.rng (j := C) (by omega)
    have dd := hM.st.mono k (by omega)
    have e := hM.st.le (i := k + 1) (j := C) (by omega) (by omega)
    rw [ents, List.length_append, entCol_len, ents_len hM d (k + 1) (by omega) (by omega)]; omega
end
end Go.Vs.F

/-! MbLm -/
set_option linter.unusedVariables false
set_option linter.unusedSimpArgs false
set_option maxRecDepth 100000
namespace Go.Vs.F
theorem awake13 (k : Nat) : sparselaw13_awake (k + 60) = some (true, ()) := by rfl

end Go.Vs.F
