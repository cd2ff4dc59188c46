/- The made values: each is a finite float (closed evaluations), for every number. The document's Pack, as a plain function of the entries. What Pack gives is a valid matrix; made matrices. The law MatchingMade. -/
import Derived.Test.YtokemaifpclkcaaDoorVc
import Derived.Test.YtokemaifpclkcaaDoorLa

/-! MbMa -/
set_option linter.unusedVariables false
set_option maxRecDepth 100000
namespace Go.Vs.F
def valC (m : Nat) (a e : Int) : Option (Int × Unit × Unit) :=
  (sparseref02_FromInt m a).bind fun y2 =>
  (sparseref02_Scale m y2.1.1 y2.1.2.1 y2.1.2.2.1 y2.1.2.2.2.1 e).bind fun y3 =>
  (sparseref03_Round m y3.1.1 y3.1.2.1 y3.1.2.2.1 y3.1.2.2.2.1 0).bind fun y4 =>
  some (y4.1, ((), ()))
def eqV : Option (Int × Unit × Unit) → Option (Int × Unit × Unit) → Bool
  | some v, some w => v.1 == w.1 && finB v.1
  | _, _ => false
theorem eqV_some {o p : Option (Int × Unit × Unit)} (h : eqV o p = true) : ∃ v, o = some (v, (), ()) ∧ p = some (v, (), ()) ∧ finB v = true := by
  cases o with
  | none => cases h
  | some v => cases p with
    | none => cases h
    | some w =>
      have h := Bool.and_eq_true_iff.1 h
      exact ⟨v.1, rfl, by rw [show v.1 = w.1 by simpa using h.1], h.2⟩
def rowV (j k : Nat) : Bool := (List.range 13).all fun e => eqV (valC 100 ((k : Int) - 8) ((e : Int) - 6)) (valC (j + 100) ((k : Int) - 8) ((e : Int) - 6))
theorem rowV_0 (j : Nat) : rowV j 0 = true := by kernel_rfl
theorem rowV_1 (j : Nat) : rowV j 1 = true := by kernel_rfl
theorem rowV_2 (j : Nat) : rowV j 2 = true := by kernel_rfl
theorem rowV_3 (j : Nat) : rowV j 3 = true := by kernel_rfl
theorem rowV_4 (j : Nat) : rowV j 4 = true := by kernel_rfl
theorem rowV_5 (j : Nat) : rowV j 5 = true := by kernel_rfl
theorem rowV_6 (j : Nat) : rowV j 6 = true := by kernel_rfl
theorem rowV_7 (j : Nat) : rowV j 7 = true := by kernel_rfl
theorem rowV_8 (j : Nat) : rowV j 8 = true := by kernel_rfl
theorem rowV_9 (j : Nat) : rowV j 9 = true := by kernel_rfl
theorem rowV_10 (j : Nat) : rowV j 10 = true := by kernel_rfl
theorem rowV_11 (j : Nat) : rowV j 11 = true := by kernel_rfl
theorem rowV_12 (j : Nat) : rowV j 12 = true := by kernel_rfl
theorem rowV_13 (j : Nat) : rowV j 13 = true := by kernel_rfl
theorem rowV_14 (j : Nat) : rowV j 14 = true := by kernel_rfl
theorem rowV_15 (j : Nat) : rowV j 15 = true := by kernel_rfl
theorem rowV_16 (j : Nat) : rowV j 16 = true := by kernel_rfl
theorem valC_all (j : Nat) : ∀ k, k < 17 → rowV j k = true
  | 0, _ => rowV_0 j
  | 1, _ => rowV_1 j
  | 2, _ => rowV_2 j
  | 3, _ => rowV_3 j
  | 4, _ => rowV_4 j
  | 5, _ => rowV_5 j
  | 6, _ => rowV_6 j
  | 7, _ => rowV_7 j
  | 8, _ => rowV_8 j
  | 9, _ => rowV_9 j
  | 10, _ => rowV_10 j
  | 11, _ => rowV_11 j
  | 12, _ => rowV_12 j
  | 13, _ => rowV_13 j
  | 14, _ => rowV_14 j
  | 15, _ => rowV_15 j
  | 16, _ => rowV_16 j
  | k + 17, h => absurd h (by omega)
theorem valC_zero (j : Nat) : ((List.range 17).all fun k => eqV (valC 100 ((k : Int) - 8) 0) (valC (j + 100) ((k : Int) - 8) 0)) = true := by kernel_rfl
theorem eqV_all {a e : Int} (h : ∀ j, eqV (valC 100 a e) (valC (j + 100) a e) = true) : ∃ v, finB v = true ∧ ∀ m, 100 ≤ m → valC m a e = some (v, (), ()) := by
  obtain ⟨v, h1, _, h3⟩ := eqV_some (h 0)
  refine ⟨v, h3, fun m hm => ?_⟩
  obtain ⟨j, rfl⟩ : ∃ j, m = j + 100 := ⟨m - 100, by omega⟩
  obtain ⟨w, g1, g2, _⟩ := eqV_some (h j)
  rw [h1] at g1; rw [g2, ← g1]
theorem valC_ok {k e : Nat} (hk : k < 17) (he : e < 13) : ∃ v, finB v = true ∧ ∀ m, 100 ≤ m → valC m ((k : Int) - 8) ((e : Int) - 6) = some (v, (), ()) :=
  eqV_all fun j => List.all_eq_true.1 (valC_all j k hk) e (List.mem_range.2 he)
theorem valZ_ok {k : Nat} (hk : k < 17) : ∃ v, finB v = true ∧ ∀ m, 100 ≤ m → valC m ((k : Int) - 8) 0 = some (v, (), ()) :=
  eqV_all fun j => List.all_eq_true.1 (valC_zero j) k (List.mem_range.2 hk)
theorem wu_rng (a : Int) : 0 ≤ IntKind.wrap .u64 a ∧ IntKind.wrap .u64 a < 18446744073709551616 := by
  have e : IntKind.wrap .u64 a = a % 18446744073709551616 := by
    unfold IntKind.wrap
    show (if (false && decide (a % 18446744073709551616 ≥ 9223372036854775808)) = true then a % 18446744073709551616 - 18446744073709551616 else a % 18446744073709551616) = _
    simp only [Bool.false_and]; rfl
  rw [e]; omega
theorem wu_nat (a : Int) : ∃ x : Nat, IntKind.wrap .u64 a = (x : Int) ∧ x < 18446744073709551616 :=
  ⟨(IntKind.wrap .u64 a).toNat, by have := wu_rng a; omega, by have := wu_rng a; omega⟩
theorem tm (x n : Nat) : Int.tmod (x : Int) (n : Int) = ((x % n : Nat) : Int) := by
  rw [Int.tmod_eq_emod_of_nonneg (by omega)]; rfl
theorem td (x n : Nat) : Int.tdiv (x : Int) (n : Int) = ((x / n : Nat) : Int) := by
  rw [Int.tdiv_eq_ediv_of_nonneg (by omega)]; rfl
theorem Place_eq {a : Int} {n : Nat} (h0 : 0 < n) (hn : n < 4611686018427387904) : ∃ k : Nat, k < n ∧ ∀ m, sparsekit_Place m a (n : Int) = some ((k : Int), (), (), ()) := by
  obtain ⟨x, hx, _⟩ := wu_nat a
  refine ⟨x % n, Nat.mod_lt _ h0, fun m => ?_⟩
  have hl := Nat.mod_lt x h0
  rw [sparsekit_Place]
  simp only [w_u64, w_i64, hx, wu (n := (n : Int)) (by omega) (by omega)]
  rw [if_pos (by omega), tm, wi (by omega) (by omega)]
theorem Value_eq (n : Int) : ∃ v, finB v = true ∧ ∀ m, 100 ≤ m → sparsemake_Value m n = some (v, (), ()) := by
  obtain ⟨k, hk, hp⟩ := Place_eq (a := n) (n := 17) (by omega) (by omega)
  obtain ⟨x, hx, hxl⟩ := wu_nat n
  have e17 : Int.tdiv (x : Int) 17 = ((x / 17 : Nat) : Int) := td x 17
  have e3 : Int.tdiv ((x / 17 : Nat) : Int) 3 = ((x / 17 / 3 : Nat) : Int) := td _ 3
  have e13 : Int.tmod ((x / 17 / 3 : Nat) : Int) 13 = ((x / 17 / 3 % 13 : Nat) : Int) := tm _ 13
  have l1 : x / 17 < 9223372036854775808 := by omega
  have l2 : x / 17 / 3 % 13 < 13 := by omega
  obtain ⟨v, hf, hv⟩ := valC_ok hk l2
  obtain ⟨v0, hf0, hv0⟩ := valZ_ok hk
  have key : ∀ m, sparsemake_Value m n = if Int.tmod ((x / 17 : Nat) : Int) 3 = 0 then valC m ((k : Int) - 8) (((x / 17 / 3 % 13 : Nat) : Int) - 6) else valC m ((k : Int) - 8) 0 := by
    intro m
    rw [sparsemake_Value]
    rw [show sparsekit_Place m n 17 = some ((k : Int), (), (), ()) from hp m]
    simp only [Option.bind_some, w_u64, w_i64, hx, e17]
    rw [wu (by omega) (by omega), wi (n := ((x / 17 : Nat) : Int)) (by omega) (by omega), wi (n := (k : Int) - 8) (by omega) (by omega), e3, wi (n := ((x / 17 / 3 : Nat) : Int)) (by omega) (by omega), e13, wi (n := ((x / 17 / 3 % 13 : Nat) : Int) - 6) (by omega) (by omega), bif_eq]
    rfl
  by_cases h : Int.tmod ((x / 17 : Nat) : Int) 3 = 0
  · exact ⟨v, hf, fun m hm => by rw [key, if_pos h, hv m hm]⟩
  · exact ⟨v0, hf0, fun m hm => by rw [key, if_neg h, hv0 m hm]⟩
end Go.Vs.F

/-! MbMb -/
set_option linter.unusedVariables false
set_option linter.unusedSimpArgs false
set_option maxRecDepth 100000
namespace Go.Vs.F
abbrev Ent := Int × Int × Int
/- One more than the last index among the first t entries of cell (i, j), or 0. -/
def lastIx (es : List Ent) (i j : Nat) : Nat → Nat
  | 0 => 0
  | t + 1 => if (es.getD t (0, (0, 0))).1 = (i : Int) ∧ (es.getD t (0, (0, 0))).2.1 = (j : Int) then t + 1 else lastIx es i j t
theorem lastIx_le (es : List Ent) (i j : Nat) : ∀ t, lastIx es i j t ≤ t
  | 0 => Nat.le_refl _
  | t + 1 => by
    rw [lastIx]; split
    · exact Nat.le_refl _
    · exact Nat.le_succ_of_le (lastIx_le es i j t)
def EntsOK (r c : Nat) (es : List Ent) : Prop := ∀ k, k < es.length →
  (0 ≤ (es.getD k (0, (0, 0))).1 ∧ (es.getD k (0, (0, 0))).1 < (r : Int)) ∧ (0 ≤ (es.getD k (0, (0, 0))).2.1 ∧ (es.getD k (0, (0, 0))).2.1 < (c : Int)) ∧ finB (es.getD k (0, (0, 0))).2.2 = true
theorem cell {r c i j : Nat} (hi : i < r) (hj : j < c) : j * r + i < r * c := by
  have h1 : (j + 1) * r ≤ c * r := Nat.mul_le_mul_right r hj
  have h2 := Nat.succ_mul j r
  have h3 := Nat.mul_comm r c
  simp only [Nat.succ_eq_add_one] at h2
  omega
theorem cell_inj {r i j i' j' : Nat} (hi : i < r) (hi' : i' < r) (h : j * r + i = j' * r + i') : i = i' ∧ j = j' := by
  rcases Nat.lt_trichotomy j j' with h1 | h1 | h1
  · have := cell (c := j') hi h1
    have := Nat.mul_comm r j'
    omega
  · subst h1; exact ⟨by omega, rfl⟩
  · have := cell (c := j) hi' h1
    have := Nat.mul_comm r j
    omega
theorem area {r c : Nat} (hr : r ≤ 200) (hc : c ≤ 200) : r * c ≤ 40000 := Nat.mul_le_mul hr hc
theorem wcell {r c i j : Nat} (hr : r ≤ 200) (hc : c ≤ 200) (hi : i < r) (hj : j < c) : IntKind.wrap .i64 ((IntKind.wrap .i64 ((j : Int) * (r : Int))) + (i : Int)) = ((j * r + i : Nat) : Int) := by
  have h1 := cell hi hj
  have h2 := area hr hc
  have e : (j : Int) * (r : Int) = ((j * r : Nat) : Int) := (Int.natCast_mul j r).symm
  rw [e, wi (n := ((j * r : Nat) : Int)) (by omega) (by omega), wi (by omega) (by omega)]; omega

variable {es : List Ent} {r c : Nat}
theorem Pack_L0 (m : Nat) (hE : EntsOK r c es) (hr : r ≤ 200) (hc : c ≤ 200) (hl : es.length ≤ 1000000) (a0 a1 : Int) (a2 a3 a4 : List Int) (b0 b1 : Int) (b2 b3 b4 : List Int) : ∀ (n k : Nat) (pos : List Int), es.length - k < n → k ≤ es.length → pos.length = r * c →
    (∀ i j, i < r → j < c → pos.getD (j * r + i) 0 = (lastIx es i j k : Int)) →
    ∃ pos', sparseref09_Pack_L0 m n (r : Int) (c : Int) es a0 a1 a2 a3 a4 b0 b1 b2 b3 b4 pos (k : Int) = some (.inl ((r : Int), (c : Int), es, (a0, a1, a2, a3, a4, ()), (b0, b1, b2, b3, b4, ()), pos', ())) ∧ pos'.length = r * c ∧ ∀ i j, i < r → j < c → pos'.getD (j * r + i) 0 = (lastIx es i j es.length : Int)
  | 0, k, pos, hn, _, _, _ => absurd hn (Nat.not_lt_zero _)
  | n + 1, k, pos, hn, hk, hp, hq => by
    rw [sparseref09_Pack_L0]
    by_cases h : k < es.length
    · have h1 : (k : Int) < (es.length : Int) := by omega
      obtain ⟨⟨g1, g2⟩, ⟨g3, g4⟩, _⟩ := hE k h
      obtain ⟨i0, hi0⟩ : ∃ i0 : Nat, (es.getD k (0, (0, 0))).1 = (i0 : Int) := ⟨_, (Int.toNat_of_nonneg g1).symm⟩
      obtain ⟨j0, hj0⟩ : ∃ j0 : Nat, (es.getD k (0, (0, 0))).2.1 = (j0 : Int) := ⟨_, (Int.toNat_of_nonneg g3).symm⟩
      have hi : i0 < r := by omega
      have hj : j0 < c := by omega
      have hce := cell hi hj
      rw [bif_decide, if_pos h1]
      simp only [Int.toNat_natCast, hi0, hj0, w_i64, wcell hr hc hi hj, wsucc (k := k) (by omega), Nat.zero_add]
      rw [if_pos (inr h), if_pos (inr h), if_pos (by omega)]
      refine Pack_L0 m hE hr hc hl a0 a1 a2 a3 a4 b0 b1 b2 b3 b4 n (k + 1) _ (by omega) (by omega) (by simp [hp]) ?_
      intro i j hi' hj'
      rw [lastIx, hi0, hj0]
      by_cases he : j0 * r + i0 = j * r + i
      · obtain ⟨e1, e2⟩ := cell_inj hi hi' he
        subst e1; subst e2
        rw [getD_set_eq (by omega), if_pos ⟨rfl, rfl⟩]
      · rw [getD_set_ne he, if_neg, hq i j hi' hj']
        rintro ⟨e1, e2⟩
        exact he (by rw [show i0 = i by omega, show j0 = j by omega])
    · have h1 : ¬ (k : Int) < (es.length : Int) := by omega
      have hke : k = es.length := by omega
      simp only [bif_decide, h1, if_false]
      exact ⟨pos, rfl, hp, fun i j hi hj => by rw [hq i j hi hj, hke]⟩

/- The rows of column j from row i on, and their values. -/
def colR (es : List Ent) (j i d : Nat) : List Nat := (List.range' i d).filter fun i => decide (0 < lastIx es i j es.length)
def colI (es : List Ent) (j i d : Nat) : List Int := (colR es j i d).map fun i : Nat => (i : Int)
def colV (es : List Ent) (j i d : Nat) : List Int := (colR es j i d).map fun i : Nat => (es.getD (lastIx es i j es.length - 1) (0, (0, 0))).2.2
theorem colR_len {j i d : Nat} : (colR es j i d).length ≤ d := by
  have := List.length_filter_le (fun i => decide (0 < lastIx es i j es.length)) (List.range' i d)
  simpa [colR] using this
theorem Pack_L2 (m : Nat) (hr : r ≤ 200) (hc : c ≤ 200) (hl : es.length ≤ 1000000) (a0 a1 : Int) (a2 a3 a4 : List Int) (b0 b1 : Int) (S : List Int) {pos : List Int} (hp : pos.length = r * c)
    (hq : ∀ i j, i < r → j < c → pos.getD (j * r + i) 0 = (lastIx es i j es.length : Int)) {j : Nat} (hj : j < c) : ∀ (d n i : Nat) (I V : List Int), d < n → r - i = d → i ≤ r → I.length + d ≤ 1000000 → V.length + d ≤ 1000000 →
    sparseref09_Pack_L2 m n (r : Int) (c : Int) es a0 a1 a2 a3 a4 b0 b1 S I V pos (j : Int) (i : Int) = some (.inl ((r : Int), (c : Int), es, (a0, a1, a2, a3, a4, ()), (b0, b1, S, I ++ colI es j i d, V ++ colV es j i d, ()), pos, (j : Int), ()))
  | d, 0, i, I, V, hn, _, _, _, _ => absurd hn (Nat.not_lt_zero _)
  | 0, n + 1, i, I, V, hn, hd, hi, hI, hV => by
    rw [sparseref09_Pack_L2]
    have h1 : ¬ (i : Int) < (r : Int) := by omega
    simp [bif_decide, h1, colI, colV, colR]
  | d + 1, n + 1, i, I, V, hn, hd, hi, hI, hV => by
    rw [sparseref09_Pack_L2]
    have hir : i < r := by omega
    have h1 : (i : Int) < (r : Int) := by omega
    have hce := cell hir hj
    have hle := lastIx_le es i j es.length
    rw [bif_decide, if_pos h1]
    simp only [bif_decide, Int.toNat_natCast, w_i64, wcell hr hc hir hj, wsucc (k := i) (by omega), Nat.zero_add, hq i j hir hj]
    rw [if_pos (by omega)]
    by_cases hx : 0 < lastIx es i j es.length
    · have h2 : (lastIx es i j es.length : Int) > 0 := by omega
      have h3 : I.length + ([(i : Int)] : List Int).length ≤ 1073741824 := by simp; omega
      rw [if_pos h2, if_pos h3, wpred (by omega) hx, Int.toNat_natCast]
      have h4 : ∀ x : Int, V.length + ([x] : List Int).length ≤ 1073741824 := by intro x; simp; omega
      rw [if_pos (by omega), if_pos (h4 _)]
      rw [Pack_L2 m hr hc hl a0 a1 a2 a3 a4 b0 b1 S hp hq hj d n (i + 1) _ _ (by omega) (by omega) (by omega) (by simp; omega) (by simp; omega)]
      have e1 : colR es j i (d + 1) = i :: colR es j (i + 1) d := by
        unfold colR; rw [List.range'_succ, List.filter_cons, if_pos (by simpa using hx)]
      simp only [colI, colV, e1, List.map_cons, List.append_assoc, List.singleton_append]
    · have h2 : ¬ (lastIx es i j es.length : Int) > 0 := by omega
      rw [if_neg h2]
      rw [Pack_L2 m hr hc hl a0 a1 a2 a3 a4 b0 b1 S hp hq hj d n (i + 1) _ _ (by omega) (by omega) (by omega) (by omega) (by omega)]
      have e1 : colR es j i (d + 1) = colR es j (i + 1) d := by
        unfold colR; rw [List.range'_succ, List.filter_cons, if_neg (by simpa using hx)]
      simp only [colI, colV, e1]
def packI (es : List Ent) (r : Nat) : Nat → List Int
  | 0 => []
  | j + 1 => packI es r j ++ colI es j 0 r
def packV (es : List Ent) (r : Nat) : Nat → List Int
  | 0 => []
  | j + 1 => packV es r j ++ colV es j 0 r
def packS (es : List Ent) (r j : Nat) : List Int := (List.range (j + 1)).map fun t => ((packI es r t).length : Int)
theorem packV_len (es : List Ent) (r : Nat) : ∀ j, (packV es r j).length = (packI es r j).length
  | 0 => rfl
  | j + 1 => by simp [packV, packI, packV_len es r j, colI, colV]
theorem packI_len (es : List Ent) (r : Nat) : ∀ j, (packI es r j).length ≤ j * r
  | 0 => by simp [packI]
  | j + 1 => by
    have := packI_len es r j
    have h2 := colR_len (es := es) (j := j) (i := 0) (d := r)
    rw [Nat.succ_mul]
    simp only [packI, List.length_append, colI, List.length_map]; omega
theorem packS_succ (es : List Ent) (r j : Nat) : packS es r (j + 1) = packS es r j ++ [((packI es r (j + 1)).length : Int)] := by
  simp [packS, List.range_succ]
theorem Pack_L1 (m : Nat) (hm : 300 < m) (hr : r ≤ 200) (hc : c ≤ 200) (hl : es.length ≤ 1000000) (a0 a1 : Int) (a2 a3 a4 : List Int) (b0 b1 : Int) {pos : List Int} (hp : pos.length = r * c)
    (hq : ∀ i j, i < r → j < c → pos.getD (j * r + i) 0 = (lastIx es i j es.length : Int)) : ∀ (d n j : Nat), d < n → c - j = d → j ≤ c →
    sparseref09_Pack_L1 m n (r : Int) (c : Int) es a0 a1 a2 a3 a4 b0 b1 (packS es r j) (packI es r j) (packV es r j) pos (j : Int) = some (.inl ((a0, a1, a2, a3, a4, ()), (b0, b1, packS es r c, packI es r c, packV es r c, ()), ()))
  | d, 0, j, hn, _, _ => absurd hn (Nat.not_lt_zero _)
  | 0, n + 1, j, hn, hd, hj => by
    rw [sparseref09_Pack_L1]
    have h1 : ¬ (j : Int) < (c : Int) := by omega
    have : j = c := by omega
    subst this
    simp [bif_decide]
  | d + 1, n + 1, j, hn, hd, hj => by
    rw [sparseref09_Pack_L1]
    have hjc : j < c := by omega
    have h1 : (j : Int) < (c : Int) := by omega
    have l1 := packI_len es r j
    have l2 := packV_len es r j
    have l3 : j * r ≤ 40000 := area (r := j) (c := r) (by omega) hr
    have := Pack_L2 m hr hc hl a0 a1 a2 a3 a4 b0 b1 (packS es r j) hp hq hjc r m 0 (packI es r j) (packV es r j) (by omega) (by omega) (by omega) (by omega) (by omega)
    simp only [Int.natCast_zero] at this
    simp only [bif_decide, h1, if_true, this, Option.bind_some]
    have h3 : ∀ x : Int, (packS es r j).length + ([x] : List Int).length ≤ 1073741824 := by intro x; simp [packS]; omega
    rw [if_pos (h3 _), show w_i64 ((j : Int) + 1) = ((j + 1 : Nat) : Int) from wsucc (by omega)]
    have e := Pack_L1 m hm hr hc hl a0 a1 a2 a3 a4 b0 b1 hp hq d n (j + 1) (by omega) (by omega) (by omega)
    rw [packS_succ] at e
    simp only [packI, packV] at e
    exact e
theorem Pack_eq {m : Nat} (hE : EntsOK r c es) (hr : r ≤ 200) (hc : c ≤ 200) (hl : es.length ≤ 1000000) (hm : 1000300 < m) :
    sparseref09_Pack m (r : Int) (c : Int) es = some (((r : Int), (c : Int), packS es r c, packI es r c, packV es r c, ()), (), (), (), ()) := by
  have ha := area hr hc
  have e : (r : Int) * (c : Int) = ((r * c : Nat) : Int) := (Int.natCast_mul r c).symm
  rw [sparseref09_Pack]
  simp only [w_i64, e]
  rw [wi (n := ((r * c : Nat) : Int)) (by omega) (by omega), if_pos (by omega), Int.toNat_natCast]
  obtain ⟨pos, h1, h2, h3⟩ := Pack_L0 m hE hr hc hl 0 0 [] [] [] (r : Int) (c : Int) [0] [] [] m 0 (List.replicate (r * c) 0) (by omega) (by omega) (by simp) (by
    intro i j hi hj
    rw [getD_replicate (cell hi hj)]; rfl)
  simp only [Int.natCast_zero] at h1
  rw [h1]
  simp only [Option.bind_some]
  have := Pack_L1 m (by omega) hr hc hl 0 0 [] [] [] (r : Int) (c : Int) h2 h3 c m 0 (by omega) (by omega) (by omega)
  simp only [Int.natCast_zero, packI, packV] at this
  rw [show ([0] : List Int) = packS es r 0 from rfl, this]
  rfl
end Go.Vs.F

/-! MbMc -/
set_option linter.unusedVariables false
set_option linter.unusedSimpArgs false
set_option maxRecDepth 100000
namespace Go.Vs.F
variable {es : List Ent} {r c : Nat}
theorem packS_get {t : Nat} (h : t ≤ c) : (packS es r c).getD t 0 = ((packI es r t).length : Int) := by
  have : t < c + 1 := by omega
  simp [packS, List.getD, this]
theorem packI_pre {t : Nat} : ∀ d, ∃ zs, packI es r (t + d) = packI es r t ++ zs
  | 0 => ⟨[], by simp⟩
  | d + 1 => by
    obtain ⟨zs, h⟩ := packI_pre (t := t) d
    exact ⟨zs ++ colI es (t + d) 0 r, by rw [← Nat.add_assoc, packI, h, List.append_assoc]⟩
theorem packI_mono {t u : Nat} (h : t ≤ u) : (packI es r t).length ≤ (packI es r u).length := by
  obtain ⟨zs, e⟩ := packI_pre (es := es) (r := r) (t := t) (u - t)
  rw [show t + (u - t) = u by omega] at e
  rw [e]; simp
theorem pack_colOf {j : Nat} (hj : j < c) : colOf (packS es r c) (packI es r c) j = colI es j 0 r := by
  unfold colOf
  rw [packS_get (by omega), packS_get (by omega), Int.toNat_natCast, Int.toNat_natCast]
  obtain ⟨zs, e⟩ := packI_pre (es := es) (r := r) (t := j + 1) (c - (j + 1))
  rw [show j + 1 + (c - (j + 1)) = c by omega] at e
  rw [e, packI, List.append_assoc, List.drop_left, List.length_append, Nat.add_sub_cancel_left, List.take_left]
theorem pack_start : StartOK c (packS es r c) (packI es r c) where
  len := by simp [packS]
  s0 := by rw [packS_get (Nat.zero_le _)]; rfl
  mono j hj := by
    rw [packS_get (by omega), packS_get (by omega)]
    have := packI_mono (es := es) (r := r) (show j ≤ j + 1 by omega)
    omega
  last := packS_get (Nat.le_refl _)
theorem ascB_col {R : Int} {j : Nat} : ∀ (d i : Nat) (l : Int), l < (i : Int) → ((i + d : Nat) : Int) ≤ R → ascB R l (colI es j i d) = true
  | 0, i, l, h, hR => by simp [colI, colR, ascB]
  | d + 1, i, l, h, hR => by
    have ih := ascB_col (R := R) (j := j) d (i + 1)
    by_cases hx : 0 < lastIx es i j es.length
    · have e1 : colI es j i (d + 1) = (i : Int) :: colI es j (i + 1) d := by
        unfold colI colR; rw [List.range'_succ, List.filter_cons, if_pos (by simpa using hx), List.map_cons]
      have h2 : (i : Int) < R := by omega
      rw [e1, ascB, ih (i : Int) (by omega) (by omega)]
      simp [h, h2]
    · have e1 : colI es j i (d + 1) = colI es j (i + 1) d := by
        unfold colI colR; rw [List.range'_succ, List.filter_cons, if_neg (by simpa using hx)]
      rw [e1, ih l (by omega) (by omega)]
theorem pack_ok (hr : r ≤ 200) (hc : c ≤ 200) (ha : c * r ≤ 10000) : MatOK r c (packS es r c) (packI es r c) where
  st := pack_start
  ent j hj := by
    rw [← colEnt_eq pack_start hj, pack_colOf hj]
    exact ascB_col r 0 (-1) (by omega) (by omega)
  sz := Nat.le_trans (packI_len es r c) ha
  cz := hc
  rz := hr
theorem colV_fin (hE : EntsOK r c es) {j i d : Nat} {x : Int} (h : x ∈ colV es j i d) : finB x = true := by
  obtain ⟨i', h1, h2⟩ := List.mem_map.1 h
  have h3 := List.mem_filter.1 h1
  have h4 := of_decide_eq_true h3.2
  have h5 := lastIx_le es i' j es.length
  rw [← h2]; exact (hE _ (by omega)).2.2
theorem packV_fin (hE : EntsOK r c es) {x : Int} : ∀ j, x ∈ packV es r j → finB x = true
  | 0, h => by cases h
  | j + 1, h => by
    rcases List.mem_append.1 h with h | h
    · exact packV_fin hE j h
    · exact colV_fin hE h
theorem pack_chk (hE : EntsOK r c es) (hr : r ≤ 200) (hc : c ≤ 200) (ha : c * r ≤ 10000) : chk (r : Int) (c : Int) (packS es r c) (packI es r c) (packV es r c) = 0 := by
  have hM := pack_ok (es := es) hr hc ha
  have hs := hM.st
  have hsz := hM.sz
  have e1 : finL (packV es r c) = true := by
    unfold finL
    refine allFrom_iff.2 fun i _ h => ?_
    exact packV_fin hE c (getD_memI h)
  have e2 : strB (r : Int) (c : Int) (packS es r c) (packI es r c) (packV es r c) = true := by
    unfold strB
    simp only [Bool.and_eq_true, decide_eq_true_eq, Int.toNat_natCast]
    refine ⟨⟨⟨⟨⟨by rw [hs.len]; omega, hs.s0⟩, ?_⟩, hs.last⟩, (packV_len es r c).symm⟩, ?_⟩
    · exact allFrom_iff.2 fun i _ h => decide_eq_true (hs.mono i h)
    · exact allFrom_iff.2 fun i _ h => hM.ent i h
  have e0 : (decide (0 ≤ (r : Int)) && decide ((r : Int) ≤ 200) && decide (0 ≤ (c : Int)) && decide ((c : Int) ≤ 200) && decide ((packI es r c).length ≤ 10000)) = true := by
    simp only [Bool.and_eq_true, decide_eq_true_eq]
    omega
  unfold chk
  rw [e0, e1, e2]; rfl

/-! ### The made matrix -/
theorem EntsOK.snoc (h : EntsOK r c es) {a b v : Int} (h1 : 0 ≤ a ∧ a < (r : Int)) (h2 : 0 ≤ b ∧ b < (c : Int)) (h3 : finB v = true) : EntsOK r c (es ++ [(a, (b, v))]) := by
  intro k hk
  rw [List.length_append, List.length_singleton] at hk
  by_cases h' : k < es.length
  · rw [getD_append_left' h']; exact h k h'
  · have : k - es.length = 0 := by omega
    rw [getD_append_right' (by omega), this]; exact ⟨h1, h2, h3⟩
theorem Matrix_L0 (hr : r ≤ 200) (hc : c ≤ 200) (l : List Int) (hl : l.length ≤ 100000) (a0 a1 : Int) (a2 a3 a4 : List Int) : ∀ (d k : Nat) (es : List Ent), l.length - k ≤ d → k ≤ l.length + 2 → EntsOK r c es → es.length ≤ k →
    ∃ es', EntsOK r c es' ∧ es'.length ≤ l.length + 2 ∧ ∀ m n, 100 ≤ m → d < n → sparsemake_Matrix_L0 m n (r : Int) (c : Int) l a0 a1 a2 a3 a4 es (k : Int) = some (.inl ((r : Int), (c : Int), (a0, a1, a2, a3, a4, ()), es', ()))
  | d, k, es, hn, hk, hE, hk2 => by
    have e2 : w_i64 ((k : Int) + 2) = ((k + 2 : Nat) : Int) := wi (by omega) (by omega)
    have e1 : w_i64 ((k : Int) + 1) = ((k + 1 : Nat) : Int) := wsucc (by omega)
    have e3 : w_i64 ((k : Int) + 3) = ((k + 3 : Nat) : Int) := wi (by omega) (by omega)
    by_cases h : k + 2 < l.length
    · by_cases h1 : 0 < r
      · by_cases h2 : 0 < c
        · obtain ⟨i, hi, ei⟩ := Place_eq (a := l.getD k 0) (n := r) h1 (by omega)
          obtain ⟨j, hj, ej⟩ := Place_eq (a := l.getD (k + 1) 0) (n := c) h2 (by omega)
          obtain ⟨v, hv, ev⟩ := Value_eq (l.getD (k + 2) 0)
          cases d with
          | zero => omega
          | succ d =>
          obtain ⟨es', g1, g2, g3⟩ := Matrix_L0 hr hc l hl a0 a1 a2 a3 a4 d (k + 3) (es ++ [((i : Int), ((j : Int), v))]) (by omega) (by omega) (hE.snoc (by omega) (by omega) hv) (by simp; omega)
          refine ⟨es', g1, g2, fun m n hm hdn => ?_⟩
          obtain ⟨n, rfl⟩ : ∃ n', n = n' + 1 := ⟨n - 1, by omega⟩
          rw [sparsemake_Matrix_L0, bif_decide, e2, e1, e3, bif_decide, bif_decide]
          rw [if_pos (by omega), if_pos (by omega), if_pos (by omega), if_pos (by omega), Int.toNat_natCast, Int.toNat_natCast, Int.toNat_natCast, ei, ej, ev m hm]
          simp only [Option.bind_some]
          rw [if_pos (by omega), if_pos (by omega), if_pos (by simp; omega)]
          exact g3 m n hm (by omega)
        · refine ⟨es, hE, by omega, fun m n hm hdn => ?_⟩
          obtain ⟨n, rfl⟩ : ∃ n', n = n' + 1 := ⟨n - 1, by omega⟩
          rw [sparsemake_Matrix_L0, bif_decide, e2, e1, e3, bif_decide, bif_decide, if_pos (by omega), if_pos (by omega), if_neg (by omega)]
      · refine ⟨es, hE, by omega, fun m n hm hdn => ?_⟩
        obtain ⟨n, rfl⟩ : ∃ n', n = n' + 1 := ⟨n - 1, by omega⟩
        rw [sparsemake_Matrix_L0, bif_decide, e2, e1, e3, bif_decide, bif_decide, if_pos (by omega), if_neg (by omega)]
    · refine ⟨es, hE, by omega, fun m n hm hdn => ?_⟩
      obtain ⟨n, rfl⟩ : ∃ n', n = n' + 1 := ⟨n - 1, by omega⟩
      rw [sparsemake_Matrix_L0, bif_decide, e2, e1, e3, bif_decide, bif_decide, if_neg (by omega)]
theorem make_Matrix_eq (hr : r ≤ 100) (hc : c ≤ 100) {l : List Int} (hl : l.length ≤ 100000) : ∃ es, EntsOK r c es ∧ es.length ≤ l.length + 2 ∧ ∀ m, 2000000 < m →
    sparsemake_Matrix m (r : Int) (c : Int) l = some (((r : Int), (c : Int), packS es r c, packI es r c, packV es r c, ()), (), (), (), ()) := by
  obtain ⟨es, h2, h3, h1⟩ := Matrix_L0 (r := r) (c := c) (by omega) (by omega) l hl 0 0 [] [] [] l.length 0 [] (by omega) (by omega) (fun k hk => absurd hk (Nat.not_lt_zero _)) (Nat.le_refl _)
  refine ⟨es, h2, h3, fun m hm => ?_⟩
  have h1 := h1 m m (by omega) (by omega)
  simp only [Int.natCast_zero] at h1
  rw [sparsemake_Matrix, h1]
  simp only [Option.bind_some]
  rw [Pack_eq h2 (by omega) (by omega) (by omega) (by omega)]
  rfl
theorem made_eq (R C : Int) {l : List Int} (hl : l.length ≤ 100000) : ∃ (r c : Nat) (es : List Ent), r < 7 ∧ c < 7 ∧ EntsOK r c es ∧ es.length ≤ l.length + 2 ∧ ∀ m, 2000000 < m →
    sparselaw13_made m R C l = some (((r : Int), (c : Int), packS es r c, packI es r c, packV es r c, ()), (), (), (), ()) := by
  obtain ⟨r, hr, er⟩ := Place_eq (a := R) (n := 7) (by omega) (by omega)
  obtain ⟨c, hc, ec⟩ := Place_eq (a := C) (n := 7) (by omega) (by omega)
  obtain ⟨es, h1, h2, h3⟩ := make_Matrix_eq (r := r) (c := c) (by omega) (by omega) hl
  refine ⟨r, c, es, hr, hc, h1, h2, fun m hm => ?_⟩
  rw [sparselaw13_made, show sparsekit_Place m R 7 = _ from er m, show sparsekit_Place m C 7 = _ from ec m]
  simp only [Option.bind_some]
  rw [h3 m hm]; rfl
end Go.Vs.F

/-! MtMd -/
set_option linter.unusedVariables false
set_option linter.unusedSimpArgs false
set_option maxRecDepth 100000
namespace Go.Vs.F
theorem awakeM {m : Nat} (h : 60 ≤ m) : sparselaw13_awake m = some (true, ()) := by
  obtain ⟨k, rfl⟩ : ∃ k, m = k + 60 := ⟨m - 60, by omega⟩
  exact awake13 k
theorem Ints_self {m : Nat} {a : List Int} (h : a.length < m) (hb : a.length < 4611686018427387904) : sparsekit_Ints m a a = some (true, (), (), ()) := by
  rw [Ints_eq h hb]; simp
/- The cover of what is reachable. -/
noncomputable def covR (r c : Nat) (S I : List Int) (u : St) : List Int := idxs true 0 (finR (edgesOf c S I) r c u.row u.col)
noncomputable def covC (c : Nat) (S I : List Int) (u : St) : List Int := idxs false 0 (finC (edgesOf c S I) c u.row u.col)
theorem covR_len {r c : Nat} {S I : List Int} {u : St} : (covR r c S I u).length ≤ r := by
  have l1 : (finR (edgesOf c S I) r c u.row u.col).length = r := by simp [finR]
  exact Nat.le_trans idxs_len (by omega)
theorem covC_len {c : Nat} {S I : List Int} {u : St} : (covC c S I u).length ≤ c := by
  have l2 : (finC (edgesOf c S I) c u.row u.col).length = c := by simp [finC]
  exact Nat.le_trans idxs_len (by omega)
end Go.Vs.F
