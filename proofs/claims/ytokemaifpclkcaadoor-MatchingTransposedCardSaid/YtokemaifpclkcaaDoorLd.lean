/- Sorting: comparing, exchanging, insertion. Sorting: rotation; merging in place. Sorting: merging in place. Sorting: merging in place, proved. Sorting: merging in place; the stable sort. Sorting: the stable sort sorts. The matrix of entries at different positions, by sorting: the same as by cells. Entries, transposing, permuting. Permutations: made of numbers; places; permuting a matrix. The law MatchingTransposed. -/
import Derived.Test.YtokemaifpclkcaaDoorLb
import Derived.Test.YtokemaifpclkcaaDoorLc

/-! MbSa -/
set_option linter.unusedVariables false
set_option linter.unusedSimpArgs false
namespace Go.Vs.F
abbrev zE : Ent := (0, (0, 0))
def ltE (x y : Ent) : Bool := decide (x.2.1 < y.2.1) || (decide (x.2.1 = y.2.1) && decide (x.1 < y.1))
theorem Compare_eq {m : Nat} (x y : Int) : cmp_Compare m x y = some (if x < y then -1 else if x > y then 1 else 0, (), (), ()) := by
  simp only [cmp_Compare, cmp_isNaN, Option.bind_some, bne_self_eq_false, cond_false, bif_decide]
  by_cases h : x < y
  · simp [h]
  · by_cases h2 : x > y
    · simp [h, h2]
    · simp [h, h2]
theorem Or_eq {m : Nat} (hm : 2 < m) (a b : Int) : cmp_Or m [a, b] = some (if a = 0 then b else a, (), ()) := by
  obtain ⟨n, rfl⟩ : ∃ n, m = n + 3 := ⟨m - 3, by omega⟩
  have e1 : w_i64 1 = 1 := by decide
  have e2 : w_i64 2 = 2 := by decide
  by_cases h : a = 0
  · subst h
    by_cases h2 : b = 0
    · subst h2
      simp [cmp_Or, cmp_Or_L0, -w_i64_eq, e1, e2]
    · simp [cmp_Or, cmp_Or_L0, -w_i64_eq, e1, e2, h2]
  · simp [cmp_Or, cmp_Or_L0, h]
theorem sorted_1_eq {m : Nat} (hm : 2 < m) (x y : Ent) : ∃ c, matrix_sorted_1 m x.1 x.2.1 x.2.2 y.1 y.2.1 y.2.2 = some (c, (), (), ()) ∧ decide (c < 0) = ltE x y := by
  rw [matrix_sorted_1, Compare_eq, Option.bind_some, Compare_eq, Option.bind_some, Or_eq hm]
  refine ⟨_, rfl, ?_⟩
  unfold ltE
  rcases Int.lt_trichotomy x.2.1 y.2.1 with h | h | h
  · simp [h]
  · have h1 : ¬ x.2.1 < y.2.1 := by omega
    have h2 : ¬ x.2.1 > y.2.1 := by omega
    rcases Int.lt_trichotomy x.1 y.1 with g | g | g
    · simp [h, g]
    · simp [h, g]
    · have g1 : ¬ x.1 < y.1 := by omega
      simp [h, g, g1]
  · have h1 : ¬ x.2.1 < y.2.1 := by omega
    have h2 : ¬ x.2.1 = y.2.1 := by omega
    simp [h, h1, h2]

/-! ### Places in lists -/
theorem getD_at {α : Type} {P Q : List α} {x z : α} {k : Nat} (h : k = P.length) : (P ++ x :: Q).getD k z = x := by
  subst h; simp [List.getD]
theorem set_at {α : Type} {P Q : List α} {x y : α} {k : Nat} (h : k = P.length) : (P ++ x :: Q).set k y = P ++ y :: Q := by
  subst h; simp
/-- The order of entries. -/
def leE (x y : Ent) : Prop := ltE y x = false
theorem leE_trans {x y z : Ent} (h1 : leE x y) (h2 : leE y z) : leE x z := by
  unfold leE ltE at *
  simp only [Bool.or_eq_false_iff, decide_eq_false_iff_not, Bool.and_eq_false_iff] at *
  omega
theorem leE_of_lt {x y : Ent} (h : ltE x y = true) : leE x y := by
  unfold leE ltE at *
  simp only [Bool.or_eq_false_iff, decide_eq_false_iff_not, Bool.and_eq_false_iff, Bool.or_eq_true, decide_eq_true_eq, Bool.and_eq_true] at *
  omega
theorem leE_refl (x : Ent) : leE x x := by
  unfold leE ltE
  simp
abbrev Srt (l : List Ent) : Prop := l.Pairwise leE

/-! ### Insertion -/
def insRev (x : Ent) : List Ent → List Ent
  | [] => [x]
  | y :: r => if ltE x y = true then y :: insRev x r else x :: y :: r
theorem insRev_perm (x : Ent) : ∀ r, List.Perm (insRev x r) (x :: r)
  | [] => List.Perm.refl _
  | y :: r => by
    unfold insRev
    split
    · exact ((insRev_perm x r).cons y).trans (List.Perm.swap ..)
    · exact List.Perm.refl _
theorem insRev_srt (x : Ent) : ∀ r : List Ent, r.Pairwise (fun a b => leE b a) → (insRev x r).Pairwise (fun a b => leE b a)
  | [], _ => by simp [insRev]
  | y :: r, h => by
    rw [List.pairwise_cons] at h
    unfold insRev
    split
    · rename_i hlt
      refine List.pairwise_cons.2 ⟨fun a ha => ?_, insRev_srt x r h.2⟩
      rcases List.mem_cons.1 ((insRev_perm x r).mem_iff.1 ha) with rfl | ha
      · exact leE_of_lt hlt
      · exact h.1 a ha
    · rename_i hlt
      have hle : leE y x := by simpa [leE] using hlt
      refine List.pairwise_cons.2 ⟨fun a ha => ?_, List.pairwise_cons.2 h⟩
      rcases List.mem_cons.1 ha with rfl | ha
      · exact hle
      · exact leE_trans (h.1 a ha) hle
theorem ins_L1 (m : Nat) (hm : 2 < m) (P : List Ent) (x : Ent) (b i : Int) : ∀ (r Q : List Ent) (n : Nat), r.length < n → P.length + r.length + Q.length < 1000000000 →
    slices_insertionSortCmpFunc_L1 m n (P ++ r.reverse ++ x :: Q) (P.length : Int) b i ((P.length + r.length : Nat) : Int) = some (.inl (P ++ (insRev x r).reverse ++ Q, (P.length : Int), b, (), i, ()))
  | r, Q, 0, h, _ => absurd h (Nat.not_lt_zero _)
  | [], Q, n + 1, _, hb => by
    simp only [slices_insertionSortCmpFunc_L1, bif_decide]
    rw [if_neg (by simp)]
    simp [insRev]
  | y :: r, Q, n + 1, h, hb => by
    simp only [List.length_cons] at h hb
    have hd : P ++ (y :: r).reverse ++ x :: Q = (P ++ r.reverse) ++ y :: x :: Q := by simp
    have hd2 : P ++ (y :: r).reverse ++ x :: Q = (P ++ (y :: r).reverse) ++ x :: Q := rfl
    have hl1 : (P ++ r.reverse).length = P.length + r.length := by simp
    have hl2 : (P ++ (y :: r).reverse).length = P.length + r.length + 1 := by simp; omega
    have hlen : (P ++ (y :: r).reverse ++ x :: Q).length = P.length + r.length + 2 + Q.length := by simp; omega
    have ej : ((P.length + (y :: r).length : Nat) : Int) = ((P.length + r.length + 1 : Nat) : Int) := by simp; omega
    have ew : w_i64 (((P.length + r.length + 1 : Nat) : Int) - 1) = ((P.length + r.length : Nat) : Int) := by rw [w_i64_eq, wi (by omega) (by omega)]; omega
    have gx : (P ++ (y :: r).reverse ++ x :: Q).getD (0 + ((P.length + r.length + 1 : Nat) : Int).toNat) zE = x := getD_at (by rw [hl2]; omega)
    have gy : (P ++ (y :: r).reverse ++ x :: Q).getD (0 + ((P.length + r.length : Nat) : Int).toNat) zE = y := by rw [hd]; exact getD_at (by rw [hl1]; omega)
    obtain ⟨c, hc1, hc2⟩ := sorted_1_eq hm x y
    rw [ej]
    simp only [slices_insertionSortCmpFunc_L1, ew, gx, gy, hc1, Option.bind_some, List.length_set]
    rw [hlen, hc2]
    simp only [bif_decide]
    rw [if_pos (by omega), if_pos (by omega), if_pos (by omega)]
    cases hlt : ltE x y with
    | false =>
      simp only [cond_false, insRev, hlt]
      simp
    | true =>
      simp only [cond_true]
      rw [if_pos (by omega), if_pos (by omega), if_pos (by omega), if_pos (by omega)]
      have hs : ((P ++ (y :: r).reverse ++ x :: Q).set (0 + ((P.length + r.length + 1 : Nat) : Int).toNat) y).set (0 + ((P.length + r.length : Nat) : Int).toNat) x = P ++ r.reverse ++ x :: (y :: Q) := by
        rw [set_at (by rw [hl2]; omega)]
        rw [show P ++ (y :: r).reverse ++ y :: Q = (P ++ r.reverse) ++ y :: y :: Q by simp]
        rw [set_at (by rw [hl1]; omega)]
      show slices_insertionSortCmpFunc_L1 m n (((P ++ (y :: r).reverse ++ x :: Q).set (0 + ((P.length + r.length + 1 : Nat) : Int).toNat) y).set (0 + ((P.length + r.length : Nat) : Int).toNat) x) _ _ _ _ = _
      rw [hs, ins_L1 m hm P x b i r (y :: Q) n (by omega) (by simp only [List.length_cons]; omega)]
      simp [insRev, hlt]
theorem ins_L0 (m : Nat) (hm2 : 2 < m) (P Q : List Ent) (hb : P.length + Q.length < 400000000) : ∀ (T S : List Ent) (n : Nat), T.length < n → S.length + T.length < m → S.length + T.length < 400000000 → Srt S →
    ∃ S', slices_insertionSortCmpFunc_L0 m n (P ++ S ++ T ++ Q) (P.length : Int) ((P.length + S.length + T.length : Nat) : Int) ((P.length + S.length : Nat) : Int) = some (.inl (P ++ S' ++ Q, ())) ∧ Srt S' ∧ List.Perm S' (S ++ T)
  | T, S, 0, h, _, _, _ => absurd h (Nat.not_lt_zero _)
  | [], S, n + 1, _, _, _, hS => by
    refine ⟨S, ?_, hS, by simp⟩
    simp only [slices_insertionSortCmpFunc_L0, bif_decide]
    rw [if_neg (by simp)]
    simp
  | x :: T, S, n + 1, h, hm, hl, hS => by
    simp only [List.length_cons] at h hm hl
    have hs := insRev_srt x S.reverse (List.pairwise_reverse.2 hS)
    have hp := insRev_perm x S.reverse
    have hlen : (insRev x S.reverse).length = S.length + 1 := by rw [hp.length_eq]; simp
    obtain ⟨S', e1, e2, e3⟩ := ins_L0 m hm2 P Q hb T (insRev x S.reverse).reverse n (by omega) (by simp [hlen]; omega) (by simp [hlen]; omega) (List.pairwise_reverse.2 hs)
    refine ⟨S', ?_, e2, e3.trans ?_⟩
    · simp only [slices_insertionSortCmpFunc_L0, bif_decide]
      rw [if_pos (by simp only [List.length_cons]; omega)]
      have h1 := ins_L1 m hm2 P x ((P.length + S.length + (x :: T).length : Nat) : Int) ((P.length + S.length : Nat) : Int) S.reverse (T ++ Q) m (by simp; omega) (by simp; omega)
      simp only [List.reverse_reverse, List.length_reverse] at h1
      rw [show P ++ S ++ (x :: T) ++ Q = P ++ S ++ x :: (T ++ Q) by simp, h1]
      simp only [Option.bind_some]
      rw [show w_i64 (((P.length + S.length : Nat) : Int) + 1) = ((P.length + (insRev x S.reverse).reverse.length : Nat) : Int) by
        rw [w_i64_eq, wi (by omega) (by omega)]; simp [hlen]; omega]
      rw [show P ++ (insRev x S.reverse).reverse ++ (T ++ Q) = P ++ (insRev x S.reverse).reverse ++ T ++ Q by simp]
      rw [show ((P.length + S.length + (x :: T).length : Nat) : Int) = ((P.length + (insRev x S.reverse).reverse.length + T.length : Nat) : Int) by simp [hlen]; omega]
      exact e1
    · refine List.Perm.append ((List.reverse_perm _).trans hp) (List.Perm.refl T) |>.trans ?_
      simp only [List.cons_append]
      exact (List.perm_middle.symm).trans (List.Perm.append (List.reverse_perm S) (List.Perm.refl _)) |>.trans (List.Perm.refl _)
theorem insertion_eq {m : Nat} (P T Q : List Ent) (hb : P.length + Q.length < 400000000) (hm : T.length + 1 < m) (hl : T.length < 400000000) (h0 : T ≠ []) :
    ∃ S', slices_insertionSortCmpFunc m (P ++ T ++ Q) (P.length : Int) ((P.length + T.length : Nat) : Int) = some ((), (P ++ S' ++ Q, (), (), (), ())) ∧ Srt S' ∧ List.Perm S' T := by
  cases T with
  | nil => exact absurd rfl h0
  | cons x T =>
    simp only [List.length_cons] at hm hl
    obtain ⟨S', e1, e2, e3⟩ := ins_L0 m (by omega) P Q hb T [x] m (by omega) (by simp; omega) (by simp; omega) (by simp)
    refine ⟨S', ?_, e2, e3⟩
    rw [slices_insertionSortCmpFunc]
    rw [show w_i64 ((P.length : Int) + 1) = ((P.length + [x].length : Nat) : Int) by rw [w_i64_eq, wi (by omega) (by omega)]; simp]
    rw [show P ++ (x :: T) ++ Q = P ++ [x] ++ T ++ Q by simp]
    rw [show ((P.length + (x :: T).length : Nat) : Int) = ((P.length + [x].length + T.length : Nat) : Int) by simp; omega, e1]
    rfl
end Go.Vs.F

/-! MbSb -/
set_option linter.unusedVariables false
set_option linter.unusedSimpArgs false
namespace Go.Vs.F
theorem swap2 {P M Q : List Ent} {x y : Ent} {i j : Nat} (hi : i = P.length) (hj : j = P.length + 1 + M.length) :
    ((P ++ x :: (M ++ y :: Q)).set i y).set j x = P ++ y :: (M ++ x :: Q) := by
  rw [set_at hi, show P ++ y :: (M ++ y :: Q) = (P ++ y :: M) ++ y :: Q by simp, set_at (by simp; omega)]
  simp
theorem get2 {P M Q : List Ent} {x y : Ent} {j : Nat} (hj : j = P.length + 1 + M.length) : (P ++ x :: (M ++ y :: Q)).getD j zE = y := by
  rw [show P ++ x :: (M ++ y :: Q) = (P ++ x :: M) ++ y :: Q by simp]
  exact getD_at (by simp; omega)
theorem swapRange_L0 (m : Nat) (P M Q : List Ent) : ∀ (A2 B2 A1 B1 : List Ent) (n : Nat), A2.length < n → A1.length = B1.length → A2.length = B2.length →
    P.length + 2 * (A1.length + A2.length) + M.length + Q.length < 1000000000 →
    slices_swapRangeCmpFunc_L0 m n (P ++ B1 ++ A2 ++ M ++ A1 ++ B2 ++ Q) (P.length : Int) ((P.length + A1.length + A2.length + M.length : Nat) : Int) ((A1.length + A2.length : Nat) : Int) (A1.length : Int) =
      some (.inl (P ++ (B1 ++ B2) ++ M ++ (A1 ++ A2) ++ Q, ()))
  | A2, B2, A1, B1, 0, h, _, _, _ => absurd h (Nat.not_lt_zero _)
  | [], B2, A1, B1, n + 1, _, h1, h2, _ => by
    have : B2 = [] := List.length_eq_zero_iff.1 h2.symm
    subst this
    simp only [slices_swapRangeCmpFunc_L0, bif_decide]
    rw [if_neg (by simp)]
    simp
  | x :: A2, [], A1, B1, n + 1, _, _, h2, _ => by simp at h2
  | x :: A2, y :: B2, A1, B1, n + 1, h, h1, h2, hb => by
    simp only [List.length_cons] at h h2 hb
    have hd : P ++ B1 ++ x :: A2 ++ M ++ A1 ++ y :: B2 ++ Q = (P ++ B1) ++ x :: ((A2 ++ M ++ A1) ++ y :: (B2 ++ Q)) := by simp
    have hlen : ((P ++ B1) ++ x :: ((A2 ++ M ++ A1) ++ y :: (B2 ++ Q))).length = P.length + 2 * (A1.length + (A2.length + 1)) + M.length + Q.length := by simp; omega
    have ea : w_i64 ((P.length : Int) + (A1.length : Int)) = ((P.length + A1.length : Nat) : Int) := by rw [w_i64_eq, wi (by omega) (by omega)]; omega
    have eb : w_i64 (((P.length + A1.length + (x :: A2).length + M.length : Nat) : Int) + (A1.length : Int)) = ((P.length + A1.length + (A2.length + 1) + M.length + A1.length : Nat) : Int) := by
      rw [w_i64_eq, wi (by simp only [List.length_cons]; omega) (by simp only [List.length_cons]; omega)]; simp only [List.length_cons]; omega
    have ei : w_i64 ((A1.length : Int) + 1) = ((A1 ++ [x]).length : Int) := by rw [w_i64_eq, wi (by omega) (by omega)]; simp
    have gx : ((P ++ B1) ++ x :: ((A2 ++ M ++ A1) ++ y :: (B2 ++ Q))).getD (0 + ((P.length + A1.length : Nat) : Int).toNat) zE = x := getD_at (by simp; omega)
    have gy : ((P ++ B1) ++ x :: ((A2 ++ M ++ A1) ++ y :: (B2 ++ Q))).getD (0 + ((P.length + A1.length + (A2.length + 1) + M.length + A1.length : Nat) : Int).toNat) zE = y := get2 (by simp; omega)
    have hs := swap2 (P := P ++ B1) (M := A2 ++ M ++ A1) (Q := B2 ++ Q) (x := x) (y := y) (i := 0 + ((P.length + A1.length : Nat) : Int).toNat) (j := 0 + ((P.length + A1.length + (A2.length + 1) + M.length + A1.length : Nat) : Int).toNat) (by simp; omega) (by simp; omega)
    rw [hd]
    simp only [slices_swapRangeCmpFunc_L0, bif_decide, ea, eb, ei, gx, gy, List.length_set]
    rw [hlen, if_pos (by simp only [List.length_cons]; omega), if_pos (by omega), if_pos (by omega), if_pos (by omega), if_pos (by omega)]
    show slices_swapRangeCmpFunc_L0 m n ((((P ++ B1) ++ x :: ((A2 ++ M ++ A1) ++ y :: (B2 ++ Q))).set (0 + ((P.length + A1.length : Nat) : Int).toNat) y).set (0 + ((P.length + A1.length + (A2.length + 1) + M.length + A1.length : Nat) : Int).toNat) x) _ _ _ _ = _
    rw [hs]
    have ih := swapRange_L0 m P M Q A2 B2 (A1 ++ [x]) (B1 ++ [y]) n (by omega) (by simp [h1]) (by omega) (by simp; omega)
    rw [show P ++ B1 ++ y :: (A2 ++ M ++ A1 ++ x :: (B2 ++ Q)) = P ++ (B1 ++ [y]) ++ A2 ++ M ++ (A1 ++ [x]) ++ B2 ++ Q by simp]
    rw [show ((P.length + A1.length + (x :: A2).length + M.length : Nat) : Int) = ((P.length + (A1 ++ [x]).length + A2.length + M.length : Nat) : Int) by simp; omega]
    rw [show ((A1.length + (x :: A2).length : Nat) : Int) = (((A1 ++ [x]).length + A2.length : Nat) : Int) by simp; omega]
    rw [ih]
    simp
theorem swapRange_eq {m : Nat} (P A M B Q : List Ent) (h : A.length = B.length) (hm : A.length < m) (hb : P.length + 2 * A.length + M.length + Q.length < 1000000000) {a b n : Int}
    (ha : a = (P.length : Int)) (hbb : b = ((P.length + A.length + M.length : Nat) : Int)) (hn : n = (A.length : Int)) :
    slices_swapRangeCmpFunc m (P ++ A ++ M ++ B ++ Q) a b n = some ((), (P ++ B ++ M ++ A ++ Q, (), (), (), (), ())) := by
  subst ha hbb hn
  have := swapRange_L0 m P M Q A B [] [] m hm rfl h (by simpa using hb)
  simp only [List.append_nil, List.nil_append, List.length_nil, Nat.add_zero, Nat.zero_add] at this
  rw [slices_swapRangeCmpFunc, show ((0 : Int)) = ((0 : Nat) : Int) from rfl, this]
  rfl
/-- The loop of the rotation: A and B change places. -/
theorem rotate_L0 (m : Nat) : ∀ (n : Nat) (P A B Q : List Ent), A.length + B.length < n → A.length + B.length < m → 0 < A.length → 0 < B.length → P.length + A.length + B.length + Q.length < 1000000000 →
    ∃ (P' A' B' Q' : List Ent), slices_rotateCmpFunc_L0 m n (P ++ A ++ B ++ Q) ((P.length + A.length : Nat) : Int) (A.length : Int) (B.length : Int) = some (.inl (P' ++ A' ++ B' ++ Q', ((P.length + A.length : Nat) : Int), (), (A'.length : Int), ())) ∧
      A'.length = B'.length ∧ 0 < A'.length ∧ P'.length + A'.length = P.length + A.length ∧ P' ++ B' ++ A' ++ Q' = P ++ B ++ A ++ Q ∧ A'.length ≤ A.length
  | 0, P, A, B, Q, h, _, _, _, _ => absurd h (Nat.not_lt_zero _)
  | n + 1, P, A, B, Q, h, hm, hA, hB, hb => by
    simp only [slices_rotateCmpFunc_L0, bif_ne, bif_decide]
    by_cases e : (A.length : Int) = (B.length : Int)
    · rw [if_pos e]
      exact ⟨P, A, B, Q, rfl, by omega, hA, rfl, rfl, Nat.le_refl _⟩
    · rw [if_neg e]
      by_cases hgt : (A.length : Int) > (B.length : Int)
      · rw [if_pos hgt]
        have hsp : A = A.take B.length ++ A.drop B.length := (List.take_append_drop _ _).symm
        have l1 : (A.take B.length).length = B.length := by simp; omega
        have l2 : (A.drop B.length).length = A.length - B.length := by simp
        generalize A.take B.length = A1 at *
        generalize A.drop B.length = A2 at *
        subst hsp
        simp only [List.length_append] at *
        have hsw := swapRange_eq (m := m) P A1 A2 B Q l1 (by omega) (by omega) (a := w_i64 (((P.length + (A1.length + A2.length) : Nat) : Int) - ((A1.length + A2.length : Nat) : Int))) (b := ((P.length + (A1.length + A2.length) : Nat) : Int)) (n := (B.length : Int))
          (by rw [w_i64_eq, wi (by omega) (by omega)]; omega) (by omega) (by omega)
        rw [show P ++ (A1 ++ A2) ++ B ++ Q = P ++ A1 ++ A2 ++ B ++ Q by simp, hsw]
        simp only [Option.bind_some]
        obtain ⟨P', A', B', Q', e1, e2, e3, e4, e5, e6⟩ := rotate_L0 m n (P ++ B) A2 A1 Q (by omega) (by omega) (by omega) (by omega) (by simp; omega)
        refine ⟨P', A', B', Q', ?_, e2, e3, by simp at e4; omega, ?_, by omega⟩
        · rw [show w_i64 (((A1.length + A2.length : Nat) : Int) - (B.length : Int)) = (A2.length : Int) by rw [w_i64_eq, wi (by omega) (by omega)]; omega]
          rw [show ((P.length + (A1.length + A2.length) : Nat) : Int) = (((P ++ B).length + A2.length : Nat) : Int) by simp; omega, show (B.length : Int) = (A1.length : Int) by omega]
          exact e1
        · rw [e5]; simp
      · rw [if_neg hgt]
        have hsp : B = B.take (B.length - A.length) ++ B.drop (B.length - A.length) := (List.take_append_drop _ _).symm
        have l1 : (B.take (B.length - A.length)).length = B.length - A.length := by simp
        have l2 : (B.drop (B.length - A.length)).length = A.length := by simp; omega
        generalize B.take (B.length - A.length) = B1 at *
        generalize B.drop (B.length - A.length) = B2 at *
        subst hsp
        simp only [List.length_append] at *
        have hsw := swapRange_eq (m := m) P A B1 B2 Q l2.symm (by omega) (by omega) (a := w_i64 (((P.length + A.length : Nat) : Int) - (A.length : Int))) (b := w_i64 (w_i64 (((P.length + A.length : Nat) : Int) + ((B1.length + B2.length : Nat) : Int)) - (A.length : Int))) (n := (A.length : Int))
          (by rw [w_i64_eq, wi (by omega) (by omega)]; omega) (by rw [w_i64_eq, w_i64_eq, wi (n := ((P.length + A.length : Nat) : Int) + _) (by omega) (by omega), wi (by omega) (by omega)]; omega) rfl
        rw [show P ++ A ++ (B1 ++ B2) ++ Q = P ++ A ++ B1 ++ B2 ++ Q by simp, hsw]
        simp only [Option.bind_some]
        obtain ⟨P', A', B', Q', e1, e2, e3, e4, e5, e6⟩ := rotate_L0 m n P B2 B1 (A ++ Q) (by omega) (by omega) (by omega) (by omega) (by simp; omega)
        refine ⟨P', A', B', Q', ?_, e2, e3, by omega, ?_, by omega⟩
        · rw [show w_i64 (((B1.length + B2.length : Nat) : Int) - (A.length : Int)) = (B1.length : Int) by rw [w_i64_eq, wi (by omega) (by omega)]; omega]
          rw [show P ++ B2 ++ B1 ++ A ++ Q = P ++ B2 ++ B1 ++ (A ++ Q) by simp, show (A.length : Int) = (B2.length : Int) by omega, show ((P.length + A.length : Nat) : Int) = ((P.length + B2.length : Nat) : Int) by omega]
          exact e1
        · rw [e5]; simp
theorem rotate_eq {m : Nat} (P A B Q : List Ent) (hA : 0 < A.length) (hB : 0 < B.length) (hm : A.length + B.length < m) (hb : P.length + A.length + B.length + Q.length < 400000000) {a c b : Int}
    (ha : a = (P.length : Int)) (hc : c = ((P.length + A.length : Nat) : Int)) (hbb : b = ((P.length + A.length + B.length : Nat) : Int)) :
    slices_rotateCmpFunc m (P ++ A ++ B ++ Q) a c b = some ((), (P ++ B ++ A ++ Q, (), (), (), (), ())) := by
  subst ha hc hbb
  obtain ⟨P', A', B', Q', e1, e2, e3, e4, e5, e6⟩ := rotate_L0 m m P A B Q hm hm hA hB (by omega)
  rw [slices_rotateCmpFunc]
  rw [show w_i64 (((P.length + A.length : Nat) : Int) - (P.length : Int)) = (A.length : Int) by rw [w_i64_eq, wi (by omega) (by omega)]; omega]
  rw [show w_i64 (((P.length + A.length + B.length : Nat) : Int) - ((P.length + A.length : Nat) : Int)) = (B.length : Int) by rw [w_i64_eq, wi (by omega) (by omega)]; omega, e1]
  simp only [Option.bind_some]
  have hl := congrArg List.length e5
  simp only [List.length_append] at hl
  have hsw := swapRange_eq (m := m) P' A' [] B' Q' e2 (by omega) (by simp; omega) (a := w_i64 (((P.length + A.length : Nat) : Int) - (A'.length : Int))) (b := ((P.length + A.length : Nat) : Int)) (n := (A'.length : Int))
    (by rw [w_i64_eq, wi (by omega) (by omega)]; omega) (by simp; omega) rfl
  simp only [List.append_nil] at hsw
  rw [hsw]
  simp only [Option.bind_some]
  rw [e5]
end Go.Vs.F

/-! MbSc -/
set_option linter.unusedVariables false
set_option linter.unusedSimpArgs false
namespace Go.Vs.F
theorem half_eq {i j : Nat} (h : i + j < 4611686018427387904) : w_i64 (shr_ .u64 (w_u64 (w_i64 ((i : Int) + (j : Int)))) 1) = (((i + j) / 2 : Nat) : Int) := by
  rw [w_i64_eq, w_i64_eq, wi (n := (i : Int) + (j : Int)) (by omega) (by omega)]
  show IntKind.wrap .i64 (shr_ .u64 (IntKind.wrap .u64 ((i : Int) + (j : Int))) 1) = _
  rw [wu (by omega) (by omega)]
  unfold shr_
  rw [show ((i : Int) + (j : Int)).fdiv (2 ^ (min (1 : Int).toNat IntKind.u64.bits)) = (((i + j) / 2 : Nat) : Int) by
    rw [show (2 : Int) ^ (min (1 : Int).toNat IntKind.u64.bits) = 2 by decide, show ((i : Int) + (j : Int)) = ((i + j : Nat) : Int) by omega, Int.fdiv_eq_ediv_of_nonneg _ (by decide)]; omega]
  rw [wi (by omega) (by omega)]
/-- What a binary search finds. -/
def BS (test : Nat → Bool) (lo hi r : Nat) : Prop := lo ≤ r ∧ r ≤ hi ∧ (r = lo ∨ test (r - 1) = true) ∧ (r = hi ∨ test r = false)
theorem bif_and {α : Type} {a b : Bool} {x y : α} : (bif a then (bif b then x else y) else y) = bif (a && b) then x else y := by cases a <;> cases b <;> rfl
theorem bif_da {α : Type} {p q : Prop} [Decidable p] [Decidable q] {x y : α} : (bif (decide p && decide q) then x else y) = if p ∧ q then x else y := by
  by_cases h1 : p <;> by_cases h2 : q <;> simp [h1, h2]
section
variable (self : (List (Int × Int × Int)) → Int → Int → Int → Option (Unit × (List (Int × Int × Int)) × Unit × Unit × Unit × Unit × Unit)) (m : Nat) (hm : 2 < m)
theorem sm_L0 (hm : 2 < m) (d : List Ent) (hd : d.length < 1000000000) {a lo hi : Nat} (ha : a < d.length) (hh : hi ≤ d.length) : ∀ (n i j : Nat), j - i < n → i ≤ j → lo ≤ i → j ≤ hi →
    (i = lo ∨ ltE (d.getD (i - 1) zE) (d.getD a zE) = true) → (j = hi ∨ ltE (d.getD j zE) (d.getD a zE) = false) →
    ∃ r : Nat, slices_symMergeCmpFunc_L0 self m n d (a : Int) (i : Int) (j : Int) = some (.inl (d, (a : Int), (r : Int), ())) ∧ BS (fun k => ltE (d.getD k zE) (d.getD a zE)) lo hi r
  | 0, i, j, h, _, _, _, _, _ => absurd h (Nat.not_lt_zero _)
  | n + 1, i, j, h, hij, hlo, hhi, h1, h2 => by
    simp only [slices_symMergeCmpFunc_L0, bif_decide]
    by_cases e : i < j
    · rw [if_pos (by omega)]
      simp only [half_eq (i := i) (j := j) (by omega)]
      have b1 : i ≤ (i + j) / 2 := by omega
      have b2 : (i + j) / 2 < j := by omega
      generalize (i + j) / 2 = c at *
      rw [if_pos (by omega), if_pos (by omega)]
      obtain ⟨x, hx1, hx2⟩ := sorted_1_eq hm (d.getD (0 + (c : Int).toNat) zE) (d.getD (0 + (a : Int).toNat) zE)
      rw [hx1]
      simp only [Option.bind_some]
      by_cases g : x < 0
      · rw [if_pos g]
        have g' : ltE (d.getD c zE) (d.getD a zE) = true := by
          rw [show 0 + (c : Int).toNat = c by omega, show 0 + (a : Int).toNat = a by omega] at hx2
          rw [← hx2]; exact decide_eq_true g
        rw [show w_i64 ((c : Int) + 1) = ((c + 1 : Nat) : Int) by rw [w_i64_eq, wi (by omega) (by omega)]; omega]
        exact sm_L0 hm d hd ha hh n (c + 1) j (by omega) (by omega) (by omega) hhi (.inr (by simpa using g')) h2
      · rw [if_neg g]
        have g' : ltE (d.getD c zE) (d.getD a zE) = false := by
          rw [show 0 + (c : Int).toNat = c by omega, show 0 + (a : Int).toNat = a by omega] at hx2
          rw [← hx2]; exact decide_eq_false g
        exact sm_L0 hm d hd ha hh n i c (by omega) (by omega) hlo (by omega) h1 (.inr g')
    · rw [if_neg (by omega)]
      have : i = j := by omega
      subst this
      exact ⟨i, rfl, hlo, hhi, h1, h2⟩
theorem sm_L2 (hm : 2 < m) (d : List Ent) (hd : d.length < 1000000000) {a lo hi : Nat} (ha : a < d.length) (hh : hi ≤ d.length) : ∀ (n i j : Nat), j - i < n → i ≤ j → lo ≤ i → j ≤ hi →
    (i = lo ∨ (!ltE (d.getD a zE) (d.getD (i - 1) zE)) = true) → (j = hi ∨ (!ltE (d.getD a zE) (d.getD j zE)) = false) →
    ∃ r : Nat, slices_symMergeCmpFunc_L2 self m n d (a : Int) (i : Int) (j : Int) = some (.inl (d, (a : Int), (r : Int), ())) ∧ BS (fun k => !ltE (d.getD a zE) (d.getD k zE)) lo hi r
  | 0, i, j, h, _, _, _, _, _ => absurd h (Nat.not_lt_zero _)
  | n + 1, i, j, h, hij, hlo, hhi, h1, h2 => by
    simp only [slices_symMergeCmpFunc_L2, bif_decide, bif_not]
    by_cases e : i < j
    · rw [if_pos (by omega)]
      simp only [half_eq (i := i) (j := j) (by omega)]
      have b1 : i ≤ (i + j) / 2 := by omega
      have b2 : (i + j) / 2 < j := by omega
      generalize (i + j) / 2 = c at *
      rw [if_pos (by omega), if_pos (by omega)]
      obtain ⟨x, hx1, hx2⟩ := sorted_1_eq hm (d.getD (0 + (a : Int).toNat) zE) (d.getD (0 + (c : Int).toNat) zE)
      rw [hx1]
      simp only [Option.bind_some]
      by_cases g : x < 0
      · rw [if_pos g]
        have g' : ltE (d.getD a zE) (d.getD c zE) = true := by
          rw [show 0 + (c : Int).toNat = c by omega, show 0 + (a : Int).toNat = a by omega] at hx2
          rw [← hx2]; exact decide_eq_true g
        exact sm_L2 hm d hd ha hh n i c (by omega) (by omega) hlo (by omega) h1 (.inr (by rw [g']; rfl))
      · rw [if_neg g]
        have g' : ltE (d.getD a zE) (d.getD c zE) = false := by
          rw [show 0 + (c : Int).toNat = c by omega, show 0 + (a : Int).toNat = a by omega] at hx2
          rw [← hx2]; exact decide_eq_false g
        rw [show w_i64 ((c : Int) + 1) = ((c + 1 : Nat) : Int) by rw [w_i64_eq, wi (by omega) (by omega)]; omega]
        exact sm_L2 hm d hd ha hh n (c + 1) j (by omega) (by omega) (by omega) hhi (.inr (by rw [Nat.add_sub_cancel, g']; rfl)) h2
    · rw [if_neg (by omega)]
      have : i = j := by omega
      subst this
      exact ⟨i, rfl, hlo, hhi, h1, h2⟩
theorem sm_L4 (hm : 2 < m) (d : List Ent) (hd : d.length < 1000000000) {p lo hi : Nat} (hh : hi ≤ d.length) (hp : ∀ c, lo ≤ c → c < hi → c ≤ p ∧ p - c < d.length) (hpb : p < 1000000000000) (t1 t2 t3 t18 t19 : Int) : ∀ (n i j : Nat), j - i < n → i ≤ j → lo ≤ i → j ≤ hi →
    (i = lo ∨ (!ltE (d.getD (p - (i - 1)) zE) (d.getD (i - 1) zE)) = true) → (j = hi ∨ (!ltE (d.getD (p - j) zE) (d.getD j zE)) = false) →
    ∃ r : Nat, slices_symMergeCmpFunc_L4 self m n d t1 t2 t3 t18 t19 (i : Int) (j : Int) (p : Int) = some (.inl (d, t1, t2, t3, (), t18, t19, (r : Int), ())) ∧ BS (fun k => !ltE (d.getD (p - k) zE) (d.getD k zE)) lo hi r
  | 0, i, j, h, _, _, _, _, _ => absurd h (Nat.not_lt_zero _)
  | n + 1, i, j, h, hij, hlo, hhi, h1, h2 => by
    simp only [slices_symMergeCmpFunc_L4, bif_decide, bif_not]
    by_cases e : i < j
    · rw [if_pos (by omega)]
      simp only [half_eq (i := i) (j := j) (by omega)]
      have b1 : i ≤ (i + j) / 2 := by omega
      have b2 : (i + j) / 2 < j := by omega
      generalize (i + j) / 2 = c at *
      obtain ⟨q1, q2⟩ := hp c (by omega) (by omega)
      simp only [show w_i64 ((p : Int) - (c : Int)) = ((p - c : Nat) : Int) by rw [w_i64_eq, wi (by omega) (by omega)]; omega]
      rw [if_pos (by omega), if_pos (by omega)]
      obtain ⟨x, hx1, hx2⟩ := sorted_1_eq hm (d.getD (0 + ((p - c : Nat) : Int).toNat) zE) (d.getD (0 + (c : Int).toNat) zE)
      rw [hx1]
      simp only [Option.bind_some]
      by_cases g : x < 0
      · rw [if_pos g]
        have g' : ltE (d.getD (p - c) zE) (d.getD c zE) = true := by
          rw [show 0 + (c : Int).toNat = c by omega, show 0 + ((p - c : Nat) : Int).toNat = p - c by omega] at hx2
          rw [← hx2]; exact decide_eq_true g
        exact sm_L4 hm d hd hh hp hpb t1 t2 t3 t18 t19 n i c (by omega) (by omega) hlo (by omega) h1 (.inr (by rw [g']; rfl))
      · rw [if_neg g]
        have g' : ltE (d.getD (p - c) zE) (d.getD c zE) = false := by
          rw [show 0 + (c : Int).toNat = c by omega, show 0 + ((p - c : Nat) : Int).toNat = p - c by omega] at hx2
          rw [← hx2]; exact decide_eq_false g
        rw [show w_i64 ((c : Int) + 1) = ((c + 1 : Nat) : Int) by rw [w_i64_eq, wi (by omega) (by omega)]; omega]
        exact sm_L4 hm d hd hh hp hpb t1 t2 t3 t18 t19 n (c + 1) j (by omega) (by omega) (by omega) hhi (.inr (by rw [Nat.add_sub_cancel, g']; rfl)) h2
    · rw [if_neg (by omega)]
      have : i = j := by omega
      subst this
      exact ⟨i, rfl, hlo, hhi, h1, h2⟩
theorem sm_L1 (x : Ent) (R : List Ent) : ∀ (B P : List Ent) (n : Nat), B.length < n → P.length + B.length + R.length < 1000000000 →
    slices_symMergeCmpFunc_L1 self m n (P ++ x :: (B ++ R)) ((P.length + 1 + B.length : Nat) : Int) (P.length : Int) = some (.inl (P ++ B ++ x :: R, ()))
  | B, P, 0, h, _ => absurd h (Nat.not_lt_zero _)
  | [], P, n + 1, _, hb => by
    simp only [slices_symMergeCmpFunc_L1, bif_decide]
    rw [if_neg (by rw [w_i64_eq, wi (by simp <;> omega) (by simp <;> omega)]; simp)]
    simp
  | y :: B, P, n + 1, h, hb => by
    simp only [List.length_cons] at h hb
    have hlen : (P ++ x :: (y :: B ++ R)).length = P.length + 2 + B.length + R.length := by simp <;> omega
    have e1 : w_i64 ((P.length : Int) + 1) = ((P.length + 1 : Nat) : Int) := by rw [w_i64_eq, wi (by omega) (by omega)]; omega
    have gx : (P ++ x :: (y :: B ++ R)).getD (0 + (P.length : Int).toNat) zE = x := getD_at (by omega)
    have gy : (P ++ x :: (y :: B ++ R)).getD (0 + ((P.length + 1 : Nat) : Int).toNat) zE = y := by
      rw [show P ++ x :: (y :: B ++ R) = (P ++ [x]) ++ y :: (B ++ R) by simp]; exact getD_at (by simp <;> omega)
    have hs : ((P ++ x :: (y :: B ++ R)).set (0 + (P.length : Int).toNat) y).set (0 + ((P.length + 1 : Nat) : Int).toNat) x = (P ++ [y]) ++ x :: (B ++ R) := by
      rw [set_at (by omega), show P ++ y :: (y :: B ++ R) = (P ++ [y]) ++ y :: (B ++ R) by simp, set_at (by simp <;> omega)]
    simp only [slices_symMergeCmpFunc_L1, bif_decide, e1, gx, gy, List.length_set]
    rw [if_pos (by rw [w_i64_eq, wi (by simp <;> omega) (by simp <;> omega)]; simp; omega), hlen, if_pos (by omega), if_pos (by omega), if_pos (by omega), if_pos (by omega)]
    show slices_symMergeCmpFunc_L1 self m n (((P ++ x :: (y :: B ++ R)).set (0 + (P.length : Int).toNat) y).set (0 + ((P.length + 1 : Nat) : Int).toNat) x) _ _ = _
    rw [hs]
    have ih := sm_L1 x R B (P ++ [y]) n (by omega) (by simp <;> omega)
    rw [show ((P.length + 1 + (y :: B).length : Nat) : Int) = (((P ++ [y]).length + 1 + B.length : Nat) : Int) by simp <;> omega, show ((P.length + 1 : Nat) : Int) = ((P ++ [y]).length : Int) by simp, ih]
    simp
theorem sm_L3 (y : Ent) (P : List Ent) : ∀ (r R : List Ent) (n : Nat), r.length < n → P.length + r.length + R.length < 1000000000 →
    slices_symMergeCmpFunc_L3 self m n (P ++ r.reverse ++ y :: R) (P.length : Int) ((P.length + r.length : Nat) : Int) = some (.inl (P ++ y :: (r.reverse ++ R), ()))
  | r, R, 0, h, _ => absurd h (Nat.not_lt_zero _)
  | [], R, n + 1, _, hb => by
    simp only [slices_symMergeCmpFunc_L3, bif_decide]
    rw [if_neg (by simp)]
    simp
  | x :: r, R, n + 1, h, hb => by
    simp only [List.length_cons] at h hb
    have hd : P ++ (x :: r).reverse ++ y :: R = (P ++ r.reverse) ++ x :: y :: R := by simp
    have hlen : ((P ++ r.reverse) ++ x :: y :: R).length = P.length + r.length + 2 + R.length := by simp <;> omega
    have ej : ((P.length + (x :: r).length : Nat) : Int) = ((P.length + r.length + 1 : Nat) : Int) := by simp <;> omega
    have ew : w_i64 (((P.length + r.length + 1 : Nat) : Int) - 1) = ((P.length + r.length : Nat) : Int) := by rw [w_i64_eq, wi (by omega) (by omega)]; omega
    have gx : ((P ++ r.reverse) ++ x :: y :: R).getD (0 + ((P.length + r.length : Nat) : Int).toNat) zE = x := getD_at (by simp <;> omega)
    have gy : ((P ++ r.reverse) ++ x :: y :: R).getD (0 + ((P.length + r.length + 1 : Nat) : Int).toNat) zE = y := by
      rw [show (P ++ r.reverse) ++ x :: y :: R = (P ++ r.reverse ++ [x]) ++ y :: R by simp]; exact getD_at (by simp <;> omega)
    have hs : (((P ++ r.reverse) ++ x :: y :: R).set (0 + ((P.length + r.length + 1 : Nat) : Int).toNat) x).set (0 + ((P.length + r.length : Nat) : Int).toNat) y = P ++ r.reverse ++ y :: (x :: R) := by
      rw [show (P ++ r.reverse) ++ x :: y :: R = (P ++ r.reverse ++ [x]) ++ y :: R by simp, set_at (by simp <;> omega), show P ++ r.reverse ++ [x] ++ x :: R = (P ++ r.reverse) ++ x :: x :: R by simp, set_at (by simp <;> omega)]
    rw [hd, ej]
    simp only [slices_symMergeCmpFunc_L3, bif_decide, ew, gx, gy, List.length_set]
    rw [if_pos (by omega), hlen, if_pos (by omega), if_pos (by omega), if_pos (by omega), if_pos (by omega)]
    show slices_symMergeCmpFunc_L3 self m n ((((P ++ r.reverse) ++ x :: y :: R).set (0 + ((P.length + r.length + 1 : Nat) : Int).toNat) x).set (0 + ((P.length + r.length : Nat) : Int).toNat) y) _ _ = _
    rw [hs, sm_L3 y P r (x :: R) n (by omega) (by simp <;> omega)]
    simp
end
theorem srt_get {l : List Ent} (h : Srt l) {i j : Nat} (hij : i ≤ j) (hj : j < l.length) : leE (l.getD i zE) (l.getD j zE) := by
  rcases Nat.eq_or_lt_of_le hij with rfl | hlt
  · exact leE_refl _
  · have := List.pairwise_iff_getElem.1 h i j (by omega) hj hlt
    simpa [List.getD, hj, show i < l.length by omega] using this
theorem mem_getD {l : List Ent} {x : Ent} (h : x ∈ l) : ∃ i, i < l.length ∧ l.getD i zE = x := by
  obtain ⟨i, hi, rfl⟩ := List.getElem_of_mem h
  exact ⟨i, hi, by simp [List.getD, hi]⟩
theorem mem_take_getD {l : List Ent} {x : Ent} {k : Nat} (h : x ∈ l.take k) : ∃ i, i < k ∧ i < l.length ∧ l.getD i zE = x := by
  obtain ⟨i, hi, rfl⟩ := List.getElem_of_mem h
  have h1 : i < k ∧ i < l.length := by simp at hi; omega
  exact ⟨i, h1.1, h1.2, by simp [List.getD, h1.2]⟩
theorem mem_drop_getD {l : List Ent} {x : Ent} {k : Nat} (h : x ∈ l.drop k) : ∃ i, k ≤ i ∧ i < l.length ∧ l.getD i zE = x := by
  obtain ⟨i, hi, rfl⟩ := List.getElem_of_mem h
  have h1 : k + i < l.length := by simp at hi; omega
  exact ⟨k + i, by omega, h1, by simp [List.getD, h1]⟩
theorem getD_mid {P A R : List Ent} {i k : Nat} (hi : i < A.length) (hk : k = P.length + i) : (P ++ A ++ R).getD k zE = A.getD i zE := by
  subst hk
  simp [List.getD, List.getElem?_append_left, List.getElem?_append_right, hi]
end Go.Vs.F

/-! MbSd -/
set_option linter.unusedVariables false
set_option linter.unusedSimpArgs false
namespace Go.Vs.F
theorem Srt_app {l r : List Ent} (h1 : Srt l) (h2 : Srt r) (h : ∀ a ∈ l, ∀ b ∈ r, leE a b) : Srt (l ++ r) := List.pairwise_append.2 ⟨h1, h2, h⟩
abbrev smRes (d : List Ent) : Option (Unit × (List Ent) × Unit × Unit × Unit × Unit × Unit) := some ((), (d, (), (), (), (), ()))
/-- What the merging of sorted A and B does. -/
def SmOK (m : Nat) : Prop := ∀ (P A B Q : List Ent), P.length + A.length + B.length + Q.length + 3 + (A.length + B.length) ≤ m → 0 < A.length → 0 < B.length → Srt A → Srt B → P.length + A.length + B.length + Q.length < 100000000 →
  ∃ C, slices_symMergeCmpFunc m (P ++ A ++ B ++ Q) (P.length : Int) ((P.length + A.length : Nat) : Int) ((P.length + A.length + B.length : Nat) : Int) = smRes (P ++ C ++ Q) ∧ Srt C ∧ List.Perm C (A ++ B)
theorem symMerge_gen (m : Nat) (ih : SmOK m) (P A B Q : List Ent) (hm : P.length + A.length + B.length + Q.length + 3 + (A.length + B.length) ≤ m + 1) (hA : 2 ≤ A.length) (hB : 2 ≤ B.length) (sA : Srt A) (sB : Srt B)
    (hb : P.length + A.length + B.length + Q.length < 100000000) (s h : Nat) (hh : h = (A.length + B.length) / 2) (hs1 : s ≤ A.length) (hs2 : s ≤ h) (hs3 : h - s ≤ B.length)
    (c1 : s = 0 ∨ h - s = B.length ∨ leE (A.getD (s - 1) zE) (B.getD (h - s) zE)) (c2 : s = A.length ∨ s = h ∨ leE (B.getD (h - s - 1) zE) (A.getD s zE)) :
    ∃ C, (if ((P.length + s : Nat) : Int) < ((P.length + A.length : Nat) : Int) ∧ ((P.length + A.length : Nat) : Int) < ((P.length + A.length + (h - s) : Nat) : Int) then
        (slices_rotateCmpFunc m (P ++ A ++ B ++ Q) ((P.length + s : Nat) : Int) ((P.length + A.length : Nat) : Int) ((P.length + A.length + (h - s) : Nat) : Int)).bind fun y11 =>
          if (P.length : Int) < ((P.length + s : Nat) : Int) ∧ ((P.length + s : Nat) : Int) < ((P.length + h : Nat) : Int) then
            (slices_symMergeCmpFunc m y11.2.1 (P.length : Int) ((P.length + s : Nat) : Int) ((P.length + h : Nat) : Int)).bind fun y12 =>
              if ((P.length + h : Nat) : Int) < ((P.length + A.length + (h - s) : Nat) : Int) ∧ ((P.length + A.length + (h - s) : Nat) : Int) < ((P.length + A.length + B.length : Nat) : Int) then
                (slices_symMergeCmpFunc m y12.2.1 ((P.length + h : Nat) : Int) ((P.length + A.length + (h - s) : Nat) : Int) ((P.length + A.length + B.length : Nat) : Int)).bind fun y13 => smRes y13.2.1
              else smRes y12.2.1
          else
            if ((P.length + h : Nat) : Int) < ((P.length + A.length + (h - s) : Nat) : Int) ∧ ((P.length + A.length + (h - s) : Nat) : Int) < ((P.length + A.length + B.length : Nat) : Int) then
              (slices_symMergeCmpFunc m y11.2.1 ((P.length + h : Nat) : Int) ((P.length + A.length + (h - s) : Nat) : Int) ((P.length + A.length + B.length : Nat) : Int)).bind fun y13 => smRes y13.2.1
            else smRes y11.2.1
      else
        if (P.length : Int) < ((P.length + s : Nat) : Int) ∧ ((P.length + s : Nat) : Int) < ((P.length + h : Nat) : Int) then
            (slices_symMergeCmpFunc m (P ++ A ++ B ++ Q) (P.length : Int) ((P.length + s : Nat) : Int) ((P.length + h : Nat) : Int)).bind fun y12 =>
              if ((P.length + h : Nat) : Int) < ((P.length + A.length + (h - s) : Nat) : Int) ∧ ((P.length + A.length + (h - s) : Nat) : Int) < ((P.length + A.length + B.length : Nat) : Int) then
                (slices_symMergeCmpFunc m y12.2.1 ((P.length + h : Nat) : Int) ((P.length + A.length + (h - s) : Nat) : Int) ((P.length + A.length + B.length : Nat) : Int)).bind fun y13 => smRes y13.2.1
              else smRes y12.2.1
          else
            if ((P.length + h : Nat) : Int) < ((P.length + A.length + (h - s) : Nat) : Int) ∧ ((P.length + A.length + (h - s) : Nat) : Int) < ((P.length + A.length + B.length : Nat) : Int) then
              (slices_symMergeCmpFunc m (P ++ A ++ B ++ Q) ((P.length + h : Nat) : Int) ((P.length + A.length + (h - s) : Nat) : Int) ((P.length + A.length + B.length : Nat) : Int)).bind fun y13 => smRes y13.2.1
            else smRes (P ++ A ++ B ++ Q)) = smRes (P ++ C ++ Q) ∧ Srt C ∧ List.Perm C (A ++ B) := by
  -- the four parts
  have x1 : ∀ a ∈ A.take s, ∀ b ∈ B.drop (h - s), leE a b := fun a ha b hb => by
    obtain ⟨i, i1, i2, rfl⟩ := mem_take_getD ha
    obtain ⟨j, j1, j2, rfl⟩ := mem_drop_getD hb
    rcases c1 with c | c | c
    · omega
    · omega
    · exact leE_trans (leE_trans (srt_get sA (show i ≤ s - 1 by omega) (by omega)) c) (srt_get sB j1 j2)
  have x2 : ∀ b ∈ B.take (h - s), ∀ a ∈ A.drop s, leE b a := fun b hb a ha => by
    obtain ⟨i, i1, i2, rfl⟩ := mem_take_getD hb
    obtain ⟨j, j1, j2, rfl⟩ := mem_drop_getD ha
    rcases c2 with c | c | c
    · omega
    · omega
    · exact leE_trans (leE_trans (srt_get sB (show i ≤ h - s - 1 by omega) (by omega)) c) (srt_get sA j1 j2)
  have hAs := (List.take_append_drop s A).symm
  have hBs := (List.take_append_drop (h - s) B).symm
  have sA' : Srt (A.take s ++ A.drop s) := by rw [← hAs]; exact sA
  have sB' : Srt (B.take (h - s) ++ B.drop (h - s)) := by rw [← hBs]; exact sB
  have l1 : (A.take s).length = s := by simp; omega
  have l2 : (A.drop s).length = A.length - s := by simp
  have l3 : (B.take (h - s)).length = h - s := by simp; omega
  have l4 : (B.drop (h - s)).length = B.length - (h - s) := by simp
  generalize A.take s = A1 at *
  generalize A.drop s = A2 at *
  generalize B.take (h - s) = B1 at *
  generalize B.drop (h - s) = B2 at *
  obtain ⟨sA1, sA2, xA⟩ := List.pairwise_append.1 sA'
  obtain ⟨sB1, sB2, xB⟩ := List.pairwise_append.1 sB'
  have eA : A.length = A1.length + A2.length := by rw [hAs]; simp
  have eB : B.length = B1.length + B2.length := by rw [hBs]; simp
  -- the right half
  have right : ∀ C1 : List Ent, C1.length = h → ∃ C2, (if ((P.length + h : Nat) : Int) < ((P.length + A.length + (h - s) : Nat) : Int) ∧ ((P.length + A.length + (h - s) : Nat) : Int) < ((P.length + A.length + B.length : Nat) : Int) then
        (slices_symMergeCmpFunc m (P ++ C1 ++ A2 ++ B2 ++ Q) ((P.length + h : Nat) : Int) ((P.length + A.length + (h - s) : Nat) : Int) ((P.length + A.length + B.length : Nat) : Int)).bind fun y13 => smRes y13.2.1
      else smRes (P ++ C1 ++ A2 ++ B2 ++ Q)) = smRes (P ++ C1 ++ C2 ++ Q) ∧ Srt C2 ∧ List.Perm C2 (A2 ++ B2) := fun C1 hC1 => by
    by_cases e : 0 < A2.length ∧ 0 < B2.length
    · obtain ⟨C2, e1, e2, e3⟩ := ih (P ++ C1) A2 B2 Q (by simp; omega) e.1 e.2 sA2 sB2 (by simp; omega)
      refine ⟨C2, ?_, e2, e3⟩
      rw [if_pos (by omega)]
      rw [show ((P.length + h : Nat) : Int) = ((P ++ C1).length : Int) by simp; omega, show ((P.length + A.length + (h - s) : Nat) : Int) = (((P ++ C1).length + A2.length : Nat) : Int) by simp; omega,
        show ((P.length + A.length + B.length : Nat) : Int) = (((P ++ C1).length + A2.length + B2.length : Nat) : Int) by simp; omega, e1]
      rfl
    · refine ⟨A2 ++ B2, ?_, ?_, List.Perm.refl _⟩
      · rw [if_neg (by omega)]; simp
      · have : A2 = [] ∨ B2 = [] := by
          rcases Nat.eq_zero_or_pos A2.length with h0 | h0
          · exact .inl (List.length_eq_zero_iff.1 h0)
          · exact .inr (List.length_eq_zero_iff.1 (by omega))
        rcases this with rfl | rfl
        · simpa using sB2
        · simpa using sA2
  have join : ∀ C1 C2 : List Ent, Srt C1 → List.Perm C1 (A1 ++ B1) → Srt C2 → List.Perm C2 (A2 ++ B2) → Srt (C1 ++ C2) ∧ List.Perm (C1 ++ C2) (A ++ B) := fun C1 C2 s1 p1 s2 p2 => by
    refine ⟨Srt_app s1 s2 fun a ha b hb => ?_, ?_⟩
    · have ha := p1.mem_iff.1 ha
      have hb := p2.mem_iff.1 hb
      rcases List.mem_append.1 ha with ha | ha <;> rcases List.mem_append.1 hb with hb | hb
      · exact xA a ha b hb
      · exact x1 a ha b hb
      · exact x2 a ha b hb
      · exact xB a ha b hb
    · rw [hAs, hBs]
      refine (List.Perm.append p1 p2).trans ?_
      rw [List.append_assoc, List.append_assoc]
      refine List.Perm.append_left _ ?_
      rw [← List.append_assoc, ← List.append_assoc]
      exact List.Perm.append_right _ List.perm_append_comm
  have fin : ∀ d : List Ent, d = P ++ A1 ++ B1 ++ A2 ++ B2 ++ Q → ∃ C, (if (P.length : Int) < ((P.length + s : Nat) : Int) ∧ ((P.length + s : Nat) : Int) < ((P.length + h : Nat) : Int) then
            (slices_symMergeCmpFunc m d (P.length : Int) ((P.length + s : Nat) : Int) ((P.length + h : Nat) : Int)).bind fun y12 =>
              if ((P.length + h : Nat) : Int) < ((P.length + A.length + (h - s) : Nat) : Int) ∧ ((P.length + A.length + (h - s) : Nat) : Int) < ((P.length + A.length + B.length : Nat) : Int) then
                (slices_symMergeCmpFunc m y12.2.1 ((P.length + h : Nat) : Int) ((P.length + A.length + (h - s) : Nat) : Int) ((P.length + A.length + B.length : Nat) : Int)).bind fun y13 => smRes y13.2.1
              else smRes y12.2.1
          else
            if ((P.length + h : Nat) : Int) < ((P.length + A.length + (h - s) : Nat) : Int) ∧ ((P.length + A.length + (h - s) : Nat) : Int) < ((P.length + A.length + B.length : Nat) : Int) then
              (slices_symMergeCmpFunc m d ((P.length + h : Nat) : Int) ((P.length + A.length + (h - s) : Nat) : Int) ((P.length + A.length + B.length : Nat) : Int)).bind fun y13 => smRes y13.2.1
            else smRes d) = smRes (P ++ C ++ Q) ∧ Srt C ∧ List.Perm C (A ++ B) := fun d hd => by
    subst hd
    by_cases e : 0 < s ∧ s < h
    · obtain ⟨C1, e1, e2, e3⟩ := ih P A1 B1 (A2 ++ B2 ++ Q) (by simp; omega) (by omega) (by omega) sA1 sB1 (by simp; omega)
      have hl := e3.length_eq
      simp only [List.length_append] at hl
      obtain ⟨C2, f1, f2, f3⟩ := right C1 (by omega)
      obtain ⟨j1, j2⟩ := join C1 C2 e2 e3 f2 f3
      refine ⟨C1 ++ C2, ?_, j1, j2⟩
      rw [if_pos (by omega)]
      rw [show P ++ A1 ++ B1 ++ A2 ++ B2 ++ Q = P ++ A1 ++ B1 ++ (A2 ++ B2 ++ Q) by simp, show ((P.length + s : Nat) : Int) = ((P.length + A1.length : Nat) : Int) by omega, show (slices_symMergeCmpFunc m (P ++ A1 ++ B1 ++ (A2 ++ B2 ++ Q)) (P.length : Int) ((P.length + A1.length : Nat) : Int) ((P.length + h : Nat) : Int)) = smRes (P ++ C1 ++ (A2 ++ B2 ++ Q)) by
        rw [← e1]; congr 1; omega]
      show (if ((P.length + h : Nat) : Int) < ((P.length + A.length + (h - s) : Nat) : Int) ∧ ((P.length + A.length + (h - s) : Nat) : Int) < ((P.length + A.length + B.length : Nat) : Int) then
                (slices_symMergeCmpFunc m (P ++ C1 ++ (A2 ++ B2 ++ Q)) ((P.length + h : Nat) : Int) ((P.length + A.length + (h - s) : Nat) : Int) ((P.length + A.length + B.length : Nat) : Int)).bind fun y13 => smRes y13.2.1
              else smRes (P ++ C1 ++ (A2 ++ B2 ++ Q))) = _
      rw [show P ++ C1 ++ (A2 ++ B2 ++ Q) = P ++ C1 ++ A2 ++ B2 ++ Q by simp, f1]
      simp
    · obtain ⟨C2, f1, f2, f3⟩ := right (A1 ++ B1) (by simp; omega)
      have hs : Srt (A1 ++ B1) := by
        have : A1 = [] ∨ B1 = [] := by
          rcases Nat.eq_zero_or_pos A1.length with h0 | h0
          · exact .inl (List.length_eq_zero_iff.1 h0)
          · exact .inr (List.length_eq_zero_iff.1 (by omega))
        rcases this with rfl | rfl
        · simpa using sB1
        · simpa using sA1
      obtain ⟨j1, j2⟩ := join (A1 ++ B1) C2 hs (List.Perm.refl _) f2 f3
      refine ⟨(A1 ++ B1) ++ C2, ?_, j1, j2⟩
      rw [if_neg (by omega), show P ++ A1 ++ B1 ++ A2 ++ B2 ++ Q = P ++ (A1 ++ B1) ++ A2 ++ B2 ++ Q by simp, f1]
      simp
  have hd0 : P ++ A ++ B ++ Q = (P ++ A1) ++ A2 ++ B1 ++ (B2 ++ Q) := by rw [hAs, hBs]; simp
  by_cases e : 0 < A2.length ∧ 0 < B1.length
  · rw [if_pos (by omega), hd0, rotate_eq (m := m) (P ++ A1) A2 B1 (B2 ++ Q) e.1 e.2 (by omega) (by simp; omega) (by simp; omega) (by simp; omega) (by simp; omega)]
    exact fin _ (by simp)
  · rw [if_neg (by omega)]
    refine fin _ ?_
    have : A2 = [] ∨ B1 = [] := by
      rcases Nat.eq_zero_or_pos A2.length with h0 | h0
      · exact .inl (List.length_eq_zero_iff.1 h0)
      · exact .inr (List.length_eq_zero_iff.1 (by omega))
    rcases this with rfl | rfl
    · rw [hAs, hBs]; simp
    · rw [hAs, hBs]; simp
end Go.Vs.F

/-! MbSe -/
set_option linter.unusedVariables false
set_option linter.unusedSimpArgs false
namespace Go.Vs.F
theorem symMerge_eq : ∀ m, SmOK m
  | 0 => fun P A B Q h => by omega
  | m + 1 => fun P A B Q hm hA hB sA sB hb => by
    have ih := symMerge_eq m
    have hlen : (P ++ A ++ B ++ Q).length = P.length + A.length + B.length + Q.length := by simp; omega
    rw [slices_symMergeCmpFunc]
    simp only [bif_eq]
    by_cases h1 : A.length = 1
    · -- one element on the left
      obtain ⟨x, rfl⟩ := List.length_eq_one_iff.1 h1
      rw [if_pos (by rw [w_i64_eq, wi (by simp <;> omega) (by simp <;> omega)]; simp <;> omega)]
      simp only [List.length_cons, List.length_nil, Nat.zero_add] at *
      have gx : (P ++ [x] ++ B ++ Q).getD P.length zE = x := by rw [show P ++ [x] ++ B ++ Q = P ++ x :: (B ++ Q) by simp]; exact getD_at rfl
      have gb : ∀ i, i < B.length → (P ++ [x] ++ B ++ Q).getD (P.length + 1 + i) zE = B.getD i zE := fun i hi => getD_mid hi (by simp)
      obtain ⟨r, e1, b1, b2, b3, b4⟩ := sm_L0 (fun a0 a1 a2 a3 => slices_symMergeCmpFunc m a0 a1 a2 a3) m (by omega) (P ++ [x] ++ B ++ Q) (by omega) (a := P.length) (lo := P.length + 1) (hi := P.length + 1 + B.length) (by omega) (by omega) m (P.length + 1) (P.length + 1 + B.length) (by omega) (by omega) (Nat.le_refl _) (Nat.le_refl _) (.inl rfl) (.inl rfl)
      obtain ⟨k, rfl⟩ : ∃ k, r = P.length + 1 + k := ⟨r - (P.length + 1), by omega⟩
      have hk : k ≤ B.length := by omega
      dsimp only at b3 b4
      rw [gx] at b3 b4
      have hBs := (List.take_append_drop k B).symm
      have l1 : (B.take k).length = k := by simp; omega
      have y1 : ∀ b ∈ B.take k, leE b x := fun b hb => by
        obtain ⟨i, i1, i2, rfl⟩ := mem_take_getD hb
        rcases b3 with c | c
        · omega
        · rw [show P.length + 1 + k - 1 = P.length + 1 + (k - 1) by omega, gb (k - 1) (by omega)] at c
          exact leE_trans (srt_get sB (show i ≤ k - 1 by omega) (by omega)) (leE_of_lt c)
      have y2 : ∀ b ∈ B.drop k, leE x b := fun b hb => by
        obtain ⟨i, i1, i2, rfl⟩ := mem_drop_getD hb
        rcases b4 with c | c
        · omega
        · rw [gb k (by omega)] at c
          exact leE_trans (show leE x (B.getD k zE) from c) (srt_get sB i1 i2)
      have sB' : Srt (B.take k ++ B.drop k) := by rw [← hBs]; exact sB
      generalize B.take k = B1 at *
      generalize B.drop k = B2 at *
      obtain ⟨s1, s2, s3⟩ := List.pairwise_append.1 sB'
      refine ⟨B1 ++ x :: B2, ?_, Srt_app s1 (List.pairwise_cons.2 ⟨y2, s2⟩) (fun a ha b hb => ?_), ?_⟩
      · rw [show ((P.length : Nat) : Int) = ((P.length : Nat) : Int) from rfl, e1]
        simp only [Option.bind_some]
        have h3 := sm_L1 (fun a0 a1 a2 a3 => slices_symMergeCmpFunc m a0 a1 a2 a3) m x (B2 ++ Q) B1 P m (by omega) (by rw [hBs] at hb; simp at hb ⊢; omega)
        rw [show P ++ [x] ++ B ++ Q = P ++ x :: (B1 ++ (B2 ++ Q)) by rw [hBs]; simp, show ((P.length + 1 + k : Nat) : Int) = ((P.length + 1 + B1.length : Nat) : Int) by omega, h3]
        simp
      · rcases List.mem_cons.1 hb with rfl | hb
        · exact y1 a ha
        · exact s3 a ha b hb
      · rw [hBs]
        exact (List.perm_middle).trans (by simp)
    · rw [if_neg (by rw [w_i64_eq, wi (by omega) (by omega)]; omega)]
      by_cases h2 : B.length = 1
      · obtain ⟨y, rfl⟩ := List.length_eq_one_iff.1 h2
        rw [if_pos (by rw [w_i64_eq, wi (by simp <;> omega) (by simp <;> omega)]; simp <;> omega)]
        simp only [List.length_cons, List.length_nil, Nat.zero_add] at *
        have gy : (P ++ A ++ [y] ++ Q).getD (P.length + A.length) zE = y := by rw [show P ++ A ++ [y] ++ Q = (P ++ A) ++ y :: Q by simp]; exact getD_at (by simp)
        have ga : ∀ i, i < A.length → (P ++ A ++ [y] ++ Q).getD (P.length + i) zE = A.getD i zE := fun i hi => by
          rw [show P ++ A ++ [y] ++ Q = P ++ A ++ ([y] ++ Q) by simp]; exact getD_mid hi rfl
        obtain ⟨r, e1, b1, b2, b3, b4⟩ := sm_L2 (fun a0 a1 a2 a3 => slices_symMergeCmpFunc m a0 a1 a2 a3) m (by omega) (P ++ A ++ [y] ++ Q) (by omega) (a := P.length + A.length) (lo := P.length) (hi := P.length + A.length) (by omega) (by omega) m P.length (P.length + A.length) (by omega) (by omega) (Nat.le_refl _) (Nat.le_refl _) (.inl rfl) (.inl rfl)
        obtain ⟨k, rfl⟩ : ∃ k, r = P.length + k := ⟨r - P.length, by omega⟩
        have hk : k ≤ A.length := by omega
        dsimp only at b3 b4
        rw [gy] at b3 b4
        have hAs := (List.take_append_drop k A).symm
        have l1 : (A.take k).length = k := by simp; omega
        have l2 : (A.drop k).length = A.length - k := by simp
        have y1 : ∀ a ∈ A.take k, leE a y := fun a ha => by
          obtain ⟨i, i1, i2, rfl⟩ := mem_take_getD ha
          rcases b3 with c | c
          · omega
          · rw [show P.length + k - 1 = P.length + (k - 1) by omega, ga (k - 1) (by omega)] at c
            exact leE_trans (srt_get sA (show i ≤ k - 1 by omega) (by omega)) (by simpa [leE] using c)
        have y2 : ∀ a ∈ A.drop k, leE y a := fun a ha => by
          obtain ⟨i, i1, i2, rfl⟩ := mem_drop_getD ha
          rcases b4 with c | c
          · omega
          · rw [ga k (by omega)] at c
            exact leE_trans (leE_of_lt (by simpa using c)) (srt_get sA i1 i2)
        have sA' : Srt (A.take k ++ A.drop k) := by rw [← hAs]; exact sA
        generalize A.take k = A1 at *
        generalize A.drop k = A2 at *
        obtain ⟨s1, s2, s3⟩ := List.pairwise_append.1 sA'
        refine ⟨A1 ++ y :: A2, ?_, Srt_app s1 (List.pairwise_cons.2 ⟨y2, s2⟩) (fun a ha b hb => ?_), ?_⟩
        · rw [e1]
          simp only [Option.bind_some]
          have h3 := sm_L3 (fun a0 a1 a2 a3 => slices_symMergeCmpFunc m a0 a1 a2 a3) m y (P ++ A1) A2.reverse Q m (by simp; omega) (by simp; omega)
          simp only [List.reverse_reverse, List.length_reverse] at h3
          rw [show P ++ A ++ [y] ++ Q = P ++ A1 ++ A2 ++ y :: Q by rw [hAs]; simp, show ((P.length + k : Nat) : Int) = ((P ++ A1).length : Int) by simp; omega, show ((P.length + A.length : Nat) : Int) = (((P ++ A1).length + A2.length : Nat) : Int) by simp; omega, h3]
          simp
        · rcases List.mem_cons.1 hb with rfl | hb
          · exact y1 a ha
          · exact s3 a ha b hb
        · rw [hAs]
          refine (List.perm_middle).trans ?_
          exact (List.perm_append_singleton y (A1 ++ A2)).symm
      · rw [if_neg (by rw [w_i64_eq, wi (by omega) (by omega)]; omega)]
        -- the general case
        obtain ⟨h, hh⟩ : ∃ h, h = (A.length + B.length) / 2 := ⟨_, rfl⟩
        have emid : w_i64 (shr_ .u64 (w_u64 (w_i64 ((P.length : Int) + ((P.length + A.length + B.length : Nat) : Int)))) 1) = ((P.length + h : Nat) : Int) := by
          rw [half_eq (by omega)]; omega
        have en : w_i64 (((P.length + h : Nat) : Int) + ((P.length + A.length : Nat) : Int)) = ((2 * P.length + h + A.length : Nat) : Int) := by rw [w_i64_eq, wi (by omega) (by omega)]; omega
        have ep : w_i64 (((2 * P.length + h + A.length : Nat) : Int) - 1) = ((2 * P.length + h + A.length - 1 : Nat) : Int) := by rw [w_i64_eq, wi (by omega) (by omega)]; omega
        have ga : ∀ i, i < A.length → (P ++ A ++ B ++ Q).getD (P.length + i) zE = A.getD i zE := fun i hi => by
          rw [show P ++ A ++ B ++ Q = P ++ A ++ (B ++ Q) by simp]; exact getD_mid hi rfl
        have gb : ∀ i, i < B.length → (P ++ A ++ B ++ Q).getD (P.length + A.length + i) zE = B.getD i zE := fun i hi => getD_mid hi (by simp)
        have eend : ∀ s, s ≤ h → w_i64 (((2 * P.length + h + A.length : Nat) : Int) - ((P.length + s : Nat) : Int)) = ((P.length + A.length + (h - s) : Nat) : Int) := fun s hs => by rw [w_i64_eq, wi (by omega) (by omega)]; omega
        have done : ∀ lo hi, lo ≤ hi → hi ≤ h → hi ≤ A.length → h - lo ≤ B.length → (lo = 0 ∨ h - lo = B.length) → (hi = A.length ∨ hi = h) →
          ∃ s, slices_symMergeCmpFunc_L4 (fun a0 a1 a2 a3 => slices_symMergeCmpFunc m a0 a1 a2 a3) m m (P ++ A ++ B ++ Q) (P.length : Int) ((P.length + A.length : Nat) : Int) ((P.length + A.length + B.length : Nat) : Int) ((P.length + h : Nat) : Int) ((2 * P.length + h + A.length : Nat) : Int) ((P.length + lo : Nat) : Int) ((P.length + hi : Nat) : Int) ((2 * P.length + h + A.length - 1 : Nat) : Int) =
              some (.inl (P ++ A ++ B ++ Q, (P.length : Int), ((P.length + A.length : Nat) : Int), ((P.length + A.length + B.length : Nat) : Int), (), ((P.length + h : Nat) : Int), ((2 * P.length + h + A.length : Nat) : Int), ((P.length + s : Nat) : Int), ())) ∧ s ≤ A.length ∧ s ≤ h ∧ h - s ≤ B.length ∧
              (s = 0 ∨ h - s = B.length ∨ leE (A.getD (s - 1) zE) (B.getD (h - s) zE)) ∧ (s = A.length ∨ s = h ∨ leE (B.getD (h - s - 1) zE) (A.getD s zE)) := fun lo hi g1 g2 g3 g4 g5 g6 => by
          obtain ⟨r, e1, b1, b2, b3, b4⟩ := sm_L4 (fun a0 a1 a2 a3 => slices_symMergeCmpFunc m a0 a1 a2 a3) m (by omega) (P ++ A ++ B ++ Q) (by omega) (p := 2 * P.length + h + A.length - 1) (lo := P.length + lo) (hi := P.length + hi) (by omega) (fun c hc1 hc2 => by omega) (by omega)
            (P.length : Int) ((P.length + A.length : Nat) : Int) ((P.length + A.length + B.length : Nat) : Int) ((P.length + h : Nat) : Int) ((2 * P.length + h + A.length : Nat) : Int) m (P.length + lo) (P.length + hi) (by omega) (by omega) (Nat.le_refl _) (Nat.le_refl _) (.inl rfl) (.inl rfl)
          obtain ⟨s, rfl⟩ : ∃ s, r = P.length + s := ⟨r - P.length, by omega⟩
          dsimp only at b3 b4
          refine ⟨s, e1, by omega, by omega, by omega, ?_, ?_⟩
          · rcases b3 with c | c
            · omega
            · by_cases q1 : s = 0
              · exact .inl q1
              · by_cases q2 : h - s = B.length
                · exact .inr (.inl q2)
                · have e3 : 2 * P.length + h + A.length - 1 - (P.length + s - 1) = P.length + A.length + (h - s) := by omega
                  rw [e3, show P.length + s - 1 = P.length + (s - 1) by omega, gb (h - s) (by omega), ga (s - 1) (by omega)] at c
                  exact .inr (.inr (by simpa [leE] using c))
          · rcases b4 with c | c
            · omega
            · by_cases q1 : s = A.length
              · exact .inl q1
              · by_cases q2 : s = h
                · exact .inr (.inl q2)
                · have e3 : 2 * P.length + h + A.length - 1 - (P.length + s) = P.length + A.length + (h - s - 1) := by omega
                  rw [e3, gb (h - s - 1) (by omega), ga s (by omega)] at c
                  exact .inr (.inr (leE_of_lt (by simpa using c)))
        have fin : ∀ s, s ≤ A.length → s ≤ h → h - s ≤ B.length → (s = 0 ∨ h - s = B.length ∨ leE (A.getD (s - 1) zE) (B.getD (h - s) zE)) → (s = A.length ∨ s = h ∨ leE (B.getD (h - s - 1) zE) (A.getD s zE)) → _ :=
          fun s q1 q2 q3 q4 q5 => symMerge_gen m ih P A B Q hm (by omega) (by omega) sA sB hb s h hh q1 q2 q3 q4 q5
        simp only [emid, en, ep, bif_decide]
        by_cases g : ((P.length + A.length : Nat) : Int) > ((P.length + h : Nat) : Int)
        · rw [if_pos g]
          obtain ⟨s, e1, q1, q2, q3, q4, q5⟩ := done (h - B.length) h (by omega) (Nat.le_refl _) (by omega) (by omega) (by omega) (.inr rfl)
          obtain ⟨C, f1, f2, f3⟩ := fin s q1 q2 q3 q4 q5
          refine ⟨C, ?_, f2, f3⟩
          rw [show w_i64 (((2 * P.length + h + A.length : Nat) : Int) - ((P.length + A.length + B.length : Nat) : Int)) = ((P.length + (h - B.length) : Nat) : Int) by rw [w_i64_eq, wi (by omega) (by omega)]; omega, e1]
          simp only [Option.bind_some, ← bif_decide]
          simp only [bif_and, bif_da, eend s q2]
          exact f1
        · rw [if_neg g]
          obtain ⟨s, e1, q1, q2, q3, q4, q5⟩ := done 0 A.length (by omega) (by omega) (Nat.le_refl _) (by omega) (.inl rfl) (.inl rfl)
          obtain ⟨C, f1, f2, f3⟩ := fin s q1 q2 q3 q4 q5
          refine ⟨C, ?_, f2, f3⟩
          rw [show (((P.length + 0 : Nat) : Int)) = (P.length : Int) by simp] at e1
          rw [e1]
          simp only [Option.bind_some, ← bif_decide]
          simp only [bif_and, bif_da, eend s q2]
          exact f1
end Go.Vs.F

/-! MbSf -/
set_option linter.unusedVariables false
set_option linter.unusedSimpArgs false
namespace Go.Vs.F
inductive Full (k : Nat) : List Ent → Prop where
  | nil : Full k []
  | cons {A r : List Ent} : A.length = k → Srt A → Full k r → Full k (A ++ r)
inductive Blk (k : Nat) : List Ent → Prop where
  | last {l : List Ent} : l.length ≤ k → Srt l → Blk k l
  | cons {A r : List Ent} : A.length = k → Srt A → Blk k r → Blk k (A ++ r)
theorem Full.snoc {k : Nat} {X A : List Ent} (h : Full k X) (h1 : A.length = k) (h2 : Srt A) : Full k (X ++ A) := by
  induction h with
  | nil => have := Full.cons h1 h2 .nil; simpa using this
  | cons a b _ ih => rw [List.append_assoc]; exact .cons a b ih
theorem Full.blk {k : Nat} {X Y : List Ent} (h : Full k X) (hY : Blk k Y) : Blk k (X ++ Y) := by
  induction h with
  | nil => simpa using hY
  | cons a b _ ih => rw [List.append_assoc]; exact .cons a b ih
theorem Blk.split {k : Nat} {Y : List Ent} (h : Blk k Y) (hl : k ≤ Y.length) : ∃ A r, Y = A ++ r ∧ A.length = k ∧ Srt A ∧ Blk k r := by
  cases h with
  | last h1 h2 => exact ⟨Y, [], by simp, by omega, h2, .last (by simp) (by simp)⟩
  | cons h1 h2 h3 => exact ⟨_, _, rfl, h1, h2, h3⟩
theorem Blk.short {k : Nat} {Y : List Ent} (h : Blk k Y) (hl : Y.length ≤ k) : Srt Y := by
  cases h with
  | last h1 h2 => exact h2
  | cons h1 h2 h3 =>
    rename_i A r
    have : r = [] := List.length_eq_zero_iff.1 (by simp at hl; omega)
    subst this
    simpa using h2
theorem insertion_any {m : Nat} (P T Q : List Ent) (hb : P.length + Q.length < 400000000) (hm : T.length + 1 < m) (hl : T.length < 400000000) :
    ∃ S', slices_insertionSortCmpFunc m (P ++ T ++ Q) (P.length : Int) ((P.length + T.length : Nat) : Int) = some ((), (P ++ S' ++ Q, (), (), (), ())) ∧ Srt S' ∧ List.Perm S' T := by
  by_cases h : T = []
  · subst h
    refine ⟨[], ?_, by simp, List.Perm.refl _⟩
    obtain ⟨n, rfl⟩ : ∃ n, m = n + 1 := ⟨m - 1, by omega⟩
    rw [slices_insertionSortCmpFunc, slices_insertionSortCmpFunc_L0]
    simp only [bif_decide]
    rw [if_neg (by rw [w_i64_eq, wi (by omega) (by omega)]; simp <;> omega)]
    rfl
  · exact insertion_eq P T Q hb hm hl h
theorem stable_L0 (m N : Nat) (hm : N + 30 ≤ m) (hN : N < 100000000) : ∀ (n : Nat) (Y X : List Ent), Y.length < n → X.length + Y.length = N → Full 20 X →
    ∃ X' Y' : List Ent, slices_stableCmpFunc_L0 m n (X ++ Y) (N : Int) 20 (X.length : Int) ((X.length + 20 : Nat) : Int) = some (.inl (X' ++ Y', (N : Int), (), 20, (X'.length : Int), ())) ∧ Full 20 X' ∧ Y'.length < 20 ∧ X'.length + Y'.length = N ∧ List.Perm (X' ++ Y') (X ++ Y)
  | 0, Y, X, h, _, _ => absurd h (Nat.not_lt_zero _)
  | n + 1, Y, X, h, hl, hF => by
    simp only [slices_stableCmpFunc_L0, bif_decide]
    by_cases e : X.length + 20 ≤ N
    · rw [if_pos (by omega)]
      have hY := (List.take_append_drop 20 Y).symm
      have l1 : (Y.take 20).length = 20 := by simp; omega
      have l2 : (Y.drop 20).length = Y.length - 20 := by simp
      generalize Y.take 20 = A at *
      generalize Y.drop 20 = Y1 at *
      obtain ⟨S, e1, e2, e3⟩ := insertion_any (m := m) X A Y1 (by omega) (by omega) (by omega)
      have hSl := e3.length_eq
      obtain ⟨X', Y', f1, f2, f3, f4, f5⟩ := stable_L0 m N hm hN n Y1 (X ++ S) (by omega) (by simp; omega) (hF.snoc (by omega) e2)
      refine ⟨X', Y', ?_, f2, f3, f4, f5.trans ?_⟩
      · rw [hY, show X ++ (A ++ Y1) = X ++ A ++ Y1 by simp, show ((X.length + 20 : Nat) : Int) = ((X.length + A.length : Nat) : Int) by omega, e1]
        simp only [Option.bind_some]
        rw [show w_i64 (((X.length + A.length : Nat) : Int) + 20) = (((X ++ S).length + 20 : Nat) : Int) by rw [w_i64_eq, wi (by omega) (by omega)]; simp; omega, show ((X.length + A.length : Nat) : Int) = ((X ++ S).length : Int) by simp; omega]
        exact f1
      · rw [hY, List.append_assoc]
        exact List.Perm.append_left _ (List.Perm.append_right _ e3)
    · rw [if_neg (by omega)]
      exact ⟨X, Y, rfl, hF, by omega, hl, List.Perm.refl _⟩
theorem stable_L2 (m N k : Nat) (hk : 0 < k) (hm : 2 * N + 10 ≤ m) (hN : N < 50000000) (hkN : k < N) : ∀ (n : Nat) (Y X : List Ent), Y.length < n → X.length + Y.length = N → Full (2 * k) X → Blk k Y →
    ∃ X' Y' : List Ent, slices_stableCmpFunc_L2 m n (X ++ Y) (N : Int) (k : Int) (X.length : Int) ((X.length + 2 * k : Nat) : Int) = some (.inl (X' ++ Y', (N : Int), (), (k : Int), (X'.length : Int), ())) ∧ Full (2 * k) X' ∧ Blk k Y' ∧ Y'.length < 2 * k ∧ X'.length + Y'.length = N ∧ List.Perm (X' ++ Y') (X ++ Y)
  | 0, Y, X, h, _, _, _ => absurd h (Nat.not_lt_zero _)
  | n + 1, Y, X, h, hl, hF, hB => by
    simp only [slices_stableCmpFunc_L2, bif_decide]
    by_cases e : X.length + 2 * k ≤ N
    · rw [if_pos (by omega)]
      obtain ⟨A, Y1, rfl, a1, a2, a3⟩ := hB.split (by omega)
      simp only [List.length_append] at *
      obtain ⟨B, Y2, rfl, b1, b2, b3⟩ := a3.split (by omega)
      simp only [List.length_append] at *
      obtain ⟨C, e1, e2, e3⟩ := symMerge_eq m X A B Y2 (by omega) (by omega) (by omega) a2 b2 (by omega)
      have hSl := e3.length_eq
      simp only [List.length_append] at hSl
      obtain ⟨X', Y', f1, f2, f3, f4, f5, f6⟩ := stable_L2 m N k hk hm hN hkN n Y2 (X ++ C) (by omega) (by simp; omega) (hF.snoc (by omega) e2) b3
      refine ⟨X', Y', ?_, f2, f3, f4, f5, f6.trans ?_⟩
      · rw [show X ++ (A ++ (B ++ Y2)) = X ++ A ++ B ++ Y2 by simp, show w_i64 ((X.length : Int) + (k : Int)) = ((X.length + A.length : Nat) : Int) by rw [w_i64_eq, wi (by omega) (by omega)]; omega, show ((X.length + 2 * k : Nat) : Int) = ((X.length + A.length + B.length : Nat) : Int) by omega, e1]
        simp only [Option.bind_some]
        rw [show w_i64 (((X.length + A.length + B.length : Nat) : Int) + w_i64 (2 * (k : Int))) = (((X ++ C).length + 2 * k : Nat) : Int) by
          rw [w_i64_eq, w_i64_eq, wi (n := 2 * (k : Int)) (by omega) (by omega), wi (by omega) (by omega)]; simp; omega, show ((X.length + A.length + B.length : Nat) : Int) = ((X ++ C).length : Int) by simp; omega]
        exact f1
      · rw [List.append_assoc]
        refine List.Perm.append_left _ ?_
        rw [← List.append_assoc]
        exact List.Perm.append_right _ e3
    · rw [if_neg (by omega)]
      exact ⟨X, Y, rfl, hF, hB, by omega, hl, List.Perm.refl _⟩
theorem stable_L1 (m N : Nat) (hm : 2 * N + 10 ≤ m) (hN : N < 50000000) : ∀ (n k : Nat) (D : List Ent), N - k < n → 0 < k → k < 100000000 → D.length = N → Blk k D →
    ∃ D', slices_stableCmpFunc_L1 m n D (N : Int) (k : Int) = some (.inl (D', ())) ∧ Srt D' ∧ List.Perm D' D
  | 0, k, D, h, _, _, _, _ => absurd h (Nat.not_lt_zero _)
  | n + 1, k, D, h, hk, hk2, hD, hB => by
    simp only [slices_stableCmpFunc_L1, bif_decide]
    by_cases e : k < N
    · rw [if_pos (by omega)]
      obtain ⟨X', Y', f1, f2, f3, f4, f5, f6⟩ := stable_L2 m N k hk hm hN e m D [] (by omega) (by simpa using hD) .nil hB
      simp only [List.nil_append, List.length_nil, Nat.zero_add] at f1 f6
      rw [show w_i64 (2 * (k : Int)) = ((2 * k : Nat) : Int) by rw [w_i64_eq, wi (by omega) (by omega)]; omega, show (0 : Int) = ((0 : Nat) : Int) from rfl, f1]
      simp only [Option.bind_some]
      rw [show w_i64 ((k : Int) * 2) = ((2 * k : Nat) : Int) by rw [w_i64_eq, wi (by omega) (by omega)]; omega]
      rw [show w_i64 ((X'.length : Int) + (k : Int)) = ((X'.length + k : Nat) : Int) by rw [w_i64_eq, wi (by omega) (by omega)]; omega]
      by_cases g : X'.length + k < N
      · rw [if_pos (by omega)]
        obtain ⟨A, r, rfl, a1, a2, a3⟩ := f3.split (by omega)
        simp only [List.length_append] at *
        have hr := a3.short (by omega)
        obtain ⟨C, e1, e2, e3⟩ := symMerge_eq m X' A r [] (by simp; omega) (by omega) (by omega) a2 hr (by simp; omega)
        simp only [List.append_nil] at e1
        have hSl := e3.length_eq
        simp only [List.length_append] at hSl
        obtain ⟨D', g1, g2, g3⟩ := stable_L1 m N hm hN n (2 * k) (X' ++ C) (by omega) (by omega) (by omega) (by simp; omega) (f2.blk (.last (by omega) e2))
        refine ⟨D', ?_, g2, g3.trans ?_⟩
        · rw [show X' ++ (A ++ r) = X' ++ A ++ r by simp, show ((X'.length + k : Nat) : Int) = ((X'.length + A.length : Nat) : Int) by omega, show (N : Int) = ((X'.length + A.length + r.length : Nat) : Int) by omega, e1]
          simp only [Option.bind_some]
          rw [show ((X'.length + A.length + r.length : Nat) : Int) = (N : Int) by omega]
          exact g1
        · exact (List.Perm.append_left _ e3).trans f6
      · rw [if_neg (by omega)]
        have hs := f3.short (by omega)
        obtain ⟨D', g1, g2, g3⟩ := stable_L1 m N hm hN n (2 * k) (X' ++ Y') (by omega) (by omega) (by omega) (by simp; omega) (f2.blk (.last (by omega) hs))
        exact ⟨D', g1, g2, g3.trans f6⟩
    · rw [if_neg (by omega)]
      exact ⟨D, rfl, hB.short (by omega), List.Perm.refl _⟩
theorem SortStable_eq {m : Nat} (D : List Ent) (hm : 2 * D.length + 60 ≤ m) (hN : D.length < 50000000) : ∃ D', slices_SortStableFunc m D = some ((), (D', (), ())) ∧ Srt D' ∧ List.Perm D' D := by
  obtain ⟨X, Y, f1, f2, f3, f4, f5⟩ := stable_L0 m D.length (by omega) (by omega) m D [] (by omega) (by simp) .nil
  simp only [List.nil_append, List.length_nil, Nat.zero_add] at f1 f5
  obtain ⟨S, e1, e2, e3⟩ := insertion_any (m := m) X Y [] (by simp; omega) (by omega) (by omega)
  simp only [List.append_nil] at e1
  have hSl := e3.length_eq
  obtain ⟨D', g1, g2, g3⟩ := stable_L1 m D.length (by omega) hN m 20 (X ++ S) (by omega) (by omega) (by omega) (by simp; omega) (f2.blk (.last (by omega) e2))
  refine ⟨D', ?_, g2, g3.trans ((List.Perm.append_left _ e3).trans f5)⟩
  rw [slices_SortStableFunc, slices_stableCmpFunc, show slices_stableCmpFunc_L0 m m D (D.length : Int) 20 0 20 = _ from f1]
  simp only [Option.bind_some]
  rw [show (D.length : Int) = ((X.length + Y.length : Nat) : Int) by omega, e1]
  simp only [Option.bind_some]
  rw [show ((X.length + Y.length : Nat) : Int) = (D.length : Int) by omega, show slices_stableCmpFunc_L1 m m (X ++ S) (D.length : Int) 20 = _ from g1]
  rfl
theorem matrix_sorted_eq {m : Nat} (D : List Ent) (hm : 2 * D.length + 60 ≤ m) (hN : D.length < 50000000) : ∃ D', matrix_sorted m D = some (D', (), ()) ∧ Srt D' ∧ List.Perm D' D := by
  obtain ⟨D', h1, h2, h3⟩ := SortStable_eq D hm hN
  refine ⟨D', ?_, h2, h3⟩
  rw [matrix_sorted, slices_Clone, if_pos (by simp; omega)]
  simp only [Option.bind_some]
  rw [h1]; rfl
end Go.Vs.F

/-! MbSg -/
set_option linter.unusedVariables false
set_option linter.unusedSimpArgs false
namespace Go.Vs.F
def canE (es : List Ent) (r j : Nat) : List Ent := (colR es j 0 r).map fun i : Nat => ((i : Int), ((j : Int), (es.getD (lastIx es i j es.length - 1) zE).2.2))
def can (es : List Ent) (r : Nat) : Nat → List Ent
  | 0 => []
  | j + 1 => can es r j ++ canE es r j
def DistE (es : List Ent) : Prop := ∀ k k', k < es.length → k' < es.length → (es.getD k zE).1 = (es.getD k' zE).1 → (es.getD k zE).2.1 = (es.getD k' zE).2.1 → k = k'
section
variable {es : List Ent} {r c : Nat}
theorem can_I : ∀ j, (can es r j).map (·.1) = packI es r j
  | 0 => rfl
  | j + 1 => by simp only [can, packI, List.map_append, can_I j, canE, colI, List.map_map]; rfl
theorem can_V : ∀ j, (can es r j).map (·.2.2) = packV es r j
  | 0 => rfl
  | j + 1 => by simp only [can, packV, List.map_append, can_V j, canE, colV, List.map_map]; rfl
theorem EntsOK.at (hE : EntsOK r c es) {k : Nat} (hk : k < es.length) : (0 ≤ (es.getD k zE).1 ∧ (es.getD k zE).1 < (r : Int)) ∧ (0 ≤ (es.getD k zE).2.1 ∧ (es.getD k zE).2.1 < (c : Int)) ∧ finB (es.getD k zE).2.2 = true := hE k hk
theorem lastIx_at {i j : Nat} : ∀ {t : Nat}, 0 < lastIx es i j t → lastIx es i j t - 1 < t ∧ (es.getD (lastIx es i j t - 1) zE).1 = (i : Int) ∧ (es.getD (lastIx es i j t - 1) zE).2.1 = (j : Int)
  | 0, h => by simp [lastIx] at h
  | t + 1, h => by
    rw [lastIx] at h ⊢
    by_cases e : (es.getD t (0, (0, 0))).1 = (i : Int) ∧ (es.getD t (0, (0, 0))).2.1 = (j : Int)
    · rw [if_pos e]; exact ⟨by omega, e⟩
    · rw [if_neg e] at h ⊢
      obtain ⟨h1, h2⟩ := lastIx_at h
      exact ⟨by omega, h2⟩
theorem lastIx_pos' {i j : Nat} : ∀ {t k : Nat}, k < t → (es.getD k zE).1 = (i : Int) → (es.getD k zE).2.1 = (j : Int) → 0 < lastIx es i j t
  | 0, k, h, _, _ => absurd h (Nat.not_lt_zero _)
  | t + 1, k, h, h1, h2 => by
    rw [lastIx]
    by_cases e : (es.getD t (0, (0, 0))).1 = (i : Int) ∧ (es.getD t (0, (0, 0))).2.1 = (j : Int)
    · rw [if_pos e]; omega
    · rw [if_neg e]
      rcases Nat.lt_or_ge k t with hk | hk
      · exact lastIx_pos' hk h1 h2
      · have : k = t := by omega
        subst this
        exact absurd ⟨h1, h2⟩ e
theorem mem_canE {j : Nat} {x : Ent} : x ∈ canE es r j ↔ ∃ i, i < r ∧ 0 < lastIx es i j es.length ∧ x = ((i : Int), ((j : Int), (es.getD (lastIx es i j es.length - 1) zE).2.2)) := by
  unfold canE colR
  simp only [List.mem_map, List.mem_filter, List.mem_range'_1, decide_eq_true_eq]
  constructor
  · rintro ⟨i, ⟨h1, h2⟩, rfl⟩; exact ⟨i, by omega, h2, rfl⟩
  · rintro ⟨i, h1, h2, rfl⟩; exact ⟨i, ⟨⟨by omega, by omega⟩, h2⟩, rfl⟩
theorem mem_can {x : Ent} : ∀ {c : Nat}, x ∈ can es r c ↔ ∃ i j, i < r ∧ j < c ∧ 0 < lastIx es i j es.length ∧ x = ((i : Int), ((j : Int), (es.getD (lastIx es i j es.length - 1) zE).2.2))
  | 0 => by simp [can]
  | c + 1 => by
    simp only [can, List.mem_append, mem_can (c := c), mem_canE]
    constructor
    · rintro (⟨i, j, h1, h2, h3, h4⟩ | ⟨i, h1, h3, h4⟩)
      · exact ⟨i, j, h1, by omega, h3, h4⟩
      · exact ⟨i, c, h1, by omega, h3, h4⟩
    · rintro ⟨i, j, h1, h2, h3, h4⟩
      by_cases e : j = c
      · subst e; exact .inr ⟨i, h1, h3, h4⟩
      · exact .inl ⟨i, j, h1, by omega, h3, h4⟩
theorem canE_pair (j : Nat) : (canE es r j).Pairwise (fun a b => a.2.1 = b.2.1 ∧ a.1 < b.1) := by
  unfold canE
  rw [List.pairwise_map]
  have : (colR es j 0 r).Pairwise (· < ·) := by
    unfold colR
    exact List.Pairwise.filter _ (List.pairwise_lt_range' (s := 0) (n := r) (step := 1) (by omega))
  exact this.imp fun h => ⟨rfl, by simpa using h⟩
theorem can_pair : ∀ c, (can es r c).Pairwise (fun a b => ltE a b = true)
  | 0 => by simp [can]
  | c + 1 => by
    rw [can, List.pairwise_append]
    refine ⟨can_pair c, (canE_pair c).imp fun h => ?_, fun a ha b hb => ?_⟩
    · unfold ltE; simp [h.1, h.2]
    · obtain ⟨i, j, h1, h2, h3, rfl⟩ := mem_can.1 ha
      obtain ⟨i', g1, g3, rfl⟩ := mem_canE.1 hb
      unfold ltE; simp; omega
theorem can_srt (c : Nat) : Srt (can es r c) := (can_pair c).imp fun h => leE_of_lt h
theorem ltE_ne {a b : Ent} (h : ltE a b = true) : a ≠ b := by rintro rfl; unfold ltE at h; simp at h
theorem can_nodup (c : Nat) : (can es r c).Nodup := (can_pair c).imp fun h => ltE_ne h
theorem dist_nodup (hD : DistE es) : es.Nodup := by
  rw [List.nodup_iff_pairwise_ne, List.pairwise_iff_getElem]
  intro i j hi hj hij e
  have := hD i j hi hj (by simp [List.getD, hi, hj, e]) (by simp [List.getD, hi, hj, e])
  omega
theorem can_perm (hE : EntsOK r c es) (hD : DistE es) : List.Perm es (can es r c) := by
  rw [List.perm_ext_iff_of_nodup (dist_nodup hD) (can_nodup c)]
  intro x
  rw [mem_can]
  constructor
  · intro hx
    obtain ⟨k, hk, rfl⟩ := mem_getD hx
    obtain ⟨⟨a1, a2⟩, ⟨b1, b2⟩, _⟩ := hE.at hk
    have e1 : ((es.getD k zE).1.toNat : Int) = (es.getD k zE).1 := by omega
    have e2 : ((es.getD k zE).2.1.toNat : Int) = (es.getD k zE).2.1 := by omega
    have hp := lastIx_pos' (t := es.length) hk e1.symm e2.symm
    obtain ⟨h1, h2, h3⟩ := lastIx_at hp
    refine ⟨_, _, by omega, by omega, hp, ?_⟩
    have := hD k _ hk h1 (by rw [h2, e1]) (by rw [h3, e2])
    rw [← this, e1, e2]
  · rintro ⟨i, j, h1, h2, h3, rfl⟩
    obtain ⟨g1, g2, g3⟩ := lastIx_at h3
    rw [show ((i : Int), ((j : Int), (es.getD (lastIx es i j es.length - 1) zE).2.2)) = es.getD (lastIx es i j es.length - 1) zE by rw [← g2, ← g3]]
    simp [List.getD, g1]
/-- What sorting gives. -/
theorem sorted_can (hE : EntsOK r c es) (hD : DistE es) {L : List Ent} (h1 : Srt L) (h2 : List.Perm L es) : L = can es r c := by
  refine List.Perm.eq_of_pairwise (le := leE) (fun a b ha hb h3 h4 => ?_) h1 (can_srt c) (h2.trans (can_perm hE hD))
  have ha := h2.mem_iff.1 ha
  have hb := (can_perm hE hD).mem_iff.2 hb
  obtain ⟨k, hk, rfl⟩ := mem_getD ha
  obtain ⟨k', hk', rfl⟩ := mem_getD hb
  unfold leE ltE at h3 h4
  simp only [Bool.or_eq_false_iff, decide_eq_false_iff_not, Bool.and_eq_false_iff] at h3 h4
  rw [hD k k' hk hk' (by omega) (by omega)]

/-! ### The loops -/
def cEq (L : List Ent) (j : Nat) : Nat := L.countP fun x => decide (x.2.1 = (j : Int))
def cLt (L : List Ent) (j : Nat) : Nat := L.countP fun x => decide (x.2.1 < (j : Int))
theorem cEq_snoc {L : List Ent} {x : Ent} {j : Nat} : cEq (L ++ [x]) j = cEq L j + (if x.2.1 = (j : Int) then 1 else 0) := by
  unfold cEq; rw [List.countP_append]; simp [List.countP_cons]
theorem cLt_succ {L : List Ent} (hx : ∀ x ∈ L, 0 ≤ x.2.1) : ∀ {j : Nat}, cLt L (j + 1) = cLt L j + cEq L j := by
  intro j
  unfold cLt cEq
  induction L with
  | nil => rfl
  | cons x L ih =>
    have h0 := hx x (List.mem_cons_self ..)
    rw [List.countP_cons, List.countP_cons, List.countP_cons, ih fun y hy => hx y (List.mem_cons_of_mem _ hy)]
    rcases Int.lt_trichotomy x.2.1 (j : Int) with h | h | h
    · have a : x.2.1 < ((j + 1 : Nat) : Int) := by omega
      have b : ¬ x.2.1 = (j : Int) := by omega
      simp only [a, h, b, decide_true, decide_false, if_true, Bool.false_eq_true, if_false]; omega
    · have a : x.2.1 < ((j + 1 : Nat) : Int) := by omega
      have b : ¬ x.2.1 < (j : Int) := by omega
      rw [if_pos (decide_eq_true a), if_neg (by simpa using b), if_pos (decide_eq_true h)]; omega
    · have a : ¬ x.2.1 < ((j + 1 : Nat) : Int) := by omega
      have b : ¬ x.2.1 = (j : Int) := by omega
      have d : ¬ x.2.1 < (j : Int) := by omega
      simp only [a, d, b, decide_false, Bool.false_eq_true, if_false]; omega
theorem build_L0 (m : Nat) (t1 a0 a1 : Int) (a2 a3 a4 : List Int) (b0 b1 : Int) {L : List Ent} (hc : c ≤ 200) (hL : L.length ≤ 1000000) (hx : ∀ x ∈ L, 0 ≤ x.2.1 ∧ x.2.1 < (c : Int)) : ∀ (L2 L1 : List Ent) (n : Nat) (S I V : List Int), L = L1 ++ L2 → L2.length < n →
    S.length = c + 1 → S.getD 0 0 = 0 → (∀ j, j < c → S.getD (j + 1) 0 = (cEq L1 j : Int)) → I = L1.map (·.1) → V = L1.map (·.2.2) →
    ∃ S', matrix_build_L0 m n t1 a0 a1 a2 a3 a4 b0 b1 S I V L (L.length : Int) (L1.length : Int) = some (.inl (t1, (a0, a1, a2, a3, a4, ()), (b0, b1, S', L.map (·.1), L.map (·.2.2), ()), ())) ∧
      S'.length = c + 1 ∧ S'.getD 0 0 = 0 ∧ ∀ j, j < c → S'.getD (j + 1) 0 = (cEq L j : Int)
  | L2, L1, 0, S, I, V, _, h, _, _, _, _, _ => absurd h (Nat.not_lt_zero _)
  | [], L1, n + 1, S, I, V, hd, _, h1, h2, h3, h4, h5 => by
    have : L = L1 := by simpa using hd
    subst this
    refine ⟨S, ?_, h1, h2, h3⟩
    rw [matrix_build_L0, bif_decide, if_neg (by omega), h4, h5]
  | x :: L2, L1, n + 1, S, I, V, hd, h, h1, h2, h3, h4, h5 => by
    have hlen : L.length = L1.length + 1 + L2.length := by rw [hd]; simp; omega
    have gx : L.getD (0 + (L1.length : Int).toNat) zE = x := by rw [hd]; exact getD_at (by omega)
    obtain ⟨x1, x2⟩ := hx x (by rw [hd]; simp)
    have ex : w_i64 (x.2.1 + 1) = ((x.2.1.toNat + 1 : Nat) : Int) := by rw [w_i64_eq, wi (by omega) (by omega)]; omega
    have il : I.length = L1.length := by rw [h4]; simp
    have vl : V.length = L1.length := by rw [h5]; simp
    have hcnt := h3 x.2.1.toNat (by omega)
    have hcb : cEq L1 x.2.1.toNat ≤ L1.length := List.countP_le_length
    obtain ⟨S', e1, e2, e3, e4⟩ := build_L0 m t1 a0 a1 a2 a3 a4 b0 b1 hc hL hx L2 (L1 ++ [x]) n (S.set (x.2.1.toNat + 1) ((cEq L1 x.2.1.toNat : Int) + 1)) (I ++ [x.1]) (V ++ [x.2.2]) (by rw [hd]; simp) (by simp at h; omega)
      (by simpa using h1) (by rw [List.getD_eq_getElem?_getD, List.getElem?_set_ne (by omega), ← List.getD_eq_getElem?_getD]; exact h2)
      (fun j hj => by
        rw [cEq_snoc]
        by_cases e : x.2.1.toNat = j
        · subst e
          rw [if_pos (by omega), List.getD_eq_getElem?_getD, List.getElem?_set_self (by omega)]; simp
        · rw [if_neg (by omega), List.getD_eq_getElem?_getD, List.getElem?_set_ne (by omega), ← List.getD_eq_getElem?_getD, h3 j hj]; simp)
      (by rw [h4]; simp) (by rw [h5]; simp)
    refine ⟨S', ?_, e2, e3, e4⟩
    rw [matrix_build_L0, bif_decide, if_pos (by omega)]
    simp only [gx, ex]
    rw [if_pos (by omega), if_pos (by simp; omega), if_pos (by simp; omega), if_pos (by omega), if_pos (by omega)]
    rw [show 0 + ((x.2.1.toNat + 1 : Nat) : Int).toNat = x.2.1.toNat + 1 by omega, hcnt, show w_i64 ((cEq L1 x.2.1.toNat : Int) + 1) = (cEq L1 x.2.1.toNat : Int) + 1 by rw [w_i64_eq, wi (by omega) (by omega)]]
    rw [show w_i64 ((L1.length : Int) + 1) = ((L1 ++ [x]).length : Int) by rw [w_i64_eq, wi (by omega) (by omega)]; simp]
    exact e1
theorem build_L1 (m : Nat) (a0 a1 : Int) (a2 a3 a4 : List Int) (b0 b1 : Int) (b3 b4 : List Int) {L : List Ent} (hc : c ≤ 200) (hL : L.length ≤ 1000000) (hx : ∀ x ∈ L, 0 ≤ x.2.1) : ∀ (n j : Nat) (S : List Int), c - j < n → j ≤ c → S.length = c + 1 →
    (∀ t, t ≤ j → S.getD t 0 = (cLt L t : Int)) → (∀ t, j ≤ t → t < c → S.getD (t + 1) 0 = (cEq L t : Int)) →
    ∃ S', matrix_build_L1 m n a0 a1 a2 a3 a4 b0 b1 S b3 b4 (c : Int) (j : Int) = some (.inl ((a0, a1, a2, a3, a4, ()), (b0, b1, S', b3, b4, ()), ())) ∧ S'.length = c + 1 ∧ ∀ t, t ≤ c → S'.getD t 0 = (cLt L t : Int)
  | 0, j, S, h, _, _, _, _ => absurd h (Nat.not_lt_zero _)
  | n + 1, j, S, h, hj, hS, h1, h2 => by
    rw [matrix_build_L1, bif_decide]
    by_cases e : j < c
    · have c1 : cLt L j ≤ L.length := List.countP_le_length
      have c2 : cEq L j ≤ L.length := List.countP_le_length
      rw [if_pos (by omega)]
      simp only [show w_i64 ((j : Int) + 1) = ((j + 1 : Nat) : Int) by rw [w_i64_eq, wi (by omega) (by omega)]; omega]
      rw [if_pos (by omega), if_pos (by omega), if_pos (by omega)]
      rw [show 0 + ((j + 1 : Nat) : Int).toNat = j + 1 by omega, show 0 + (j : Int).toNat = j by omega, h1 j (Nat.le_refl _), h2 j (Nat.le_refl _) e]
      rw [show w_i64 ((cEq L j : Int) + (cLt L j : Int)) = (cLt L (j + 1) : Int) by rw [w_i64_eq, wi (by omega) (by omega), cLt_succ hx]; omega]
      refine build_L1 m a0 a1 a2 a3 a4 b0 b1 b3 b4 hc hL hx n (j + 1) _ (by omega) (by omega) (by simpa using hS) (fun t ht => ?_) (fun t ht htc => ?_)
      · by_cases g : t = j + 1
        · subst g; rw [List.getD_eq_getElem?_getD, List.getElem?_set_self (by omega)]; rfl
        · rw [List.getD_eq_getElem?_getD, List.getElem?_set_ne (by omega), ← List.getD_eq_getElem?_getD]; exact h1 t (by omega)
      · rw [List.getD_eq_getElem?_getD, List.getElem?_set_ne (by omega), ← List.getD_eq_getElem?_getD]; exact h2 t (by omega) htc
    · rw [if_neg (by omega)]
      exact ⟨S, rfl, hS, fun t ht => h1 t (by omega)⟩
theorem can_cLt : ∀ {c t : Nat}, t ≤ c → cLt (can es r c) t = (packI es r t).length
  | 0, t, h => by
    have : t = 0 := by omega
    subst this; rfl
  | c + 1, t, h => by
    unfold cLt
    rw [can, List.countP_append]
    by_cases e : t = c + 1
    · subst e
      have h1 : (can es r c).countP (fun x => decide (x.2.1 < ((c + 1 : Nat) : Int))) = (can es r c).length := List.countP_eq_length.2 fun x hx => by
        obtain ⟨i, j, _, h2, _, rfl⟩ := mem_can.1 hx
        simp; omega
      have h2 : (canE es r c).countP (fun x => decide (x.2.1 < ((c + 1 : Nat) : Int))) = (canE es r c).length := List.countP_eq_length.2 fun x hx => by
        obtain ⟨i, _, _, rfl⟩ := mem_canE.1 hx
        simp; omega
      rw [h1, h2, ← List.length_append, ← can_I (c + 1), can]; simp
    · have h2 : (canE es r c).countP (fun x => decide (x.2.1 < (t : Int))) = 0 := List.countP_eq_zero.2 fun x hx => by
        obtain ⟨i, _, _, rfl⟩ := mem_canE.1 hx
        simp; omega
      rw [h2, Nat.add_zero]
      exact can_cLt (c := c) (by omega)
theorem build_eq {m : Nat} (hE : EntsOK r c es) (hD : DistE es) (hr : r ≤ 200) (hc : c ≤ 200) (hl : es.length ≤ 1000000) (hm : 2000300 < m) :
    matrix_build m (r : Int) (c : Int) es = some (((r : Int), (c : Int), packS es r c, packI es r c, packV es r c, ()), ((), (), (), ())) := by
  obtain ⟨L, h1, h2, h3⟩ := matrix_sorted_eq (m := m) es (by omega) (by omega)
  have hL := sorted_can hE hD h2 h3
  have hlen := h3.length_eq
  have hmem : ∀ x ∈ L, 0 ≤ x.2.1 ∧ x.2.1 < (c : Int) := fun x hx => by
    obtain ⟨k, hk, rfl⟩ := mem_getD (h3.mem_iff.1 hx)
    exact (hE.at hk).2.1
  obtain ⟨S1, e1, e2, e3, e4⟩ := build_L0 m (c : Int) 0 0 [] [] [] (r : Int) (c : Int) hc (by omega) hmem L [] m (List.replicate (c + 1) 0) [] [] rfl (by omega) (by simp) (by simp) (fun j hj => by simp [cEq, List.getD, hj]) rfl rfl
  obtain ⟨S2, f1, f2, f3⟩ := build_L1 m 0 0 [] [] [] (r : Int) (c : Int) (L.map (·.1)) (L.map (·.2.2)) hc (by omega) (fun x hx => (hmem x hx).1) m 0 S1 (by omega) (by omega) e2
    (fun t ht => by
      have : t = 0 := by omega
      subst this
      rw [e3]
      have : cLt L 0 = 0 := List.countP_eq_zero.2 fun x hx => by have := (hmem x hx).1; simp; omega
      rw [this]; rfl) (fun t _ ht => e4 t ht)
  have hS : S2 = packS es r c := by
    refine List.ext_getElem (by rw [f2]; simp [packS]) fun t ht ht' => ?_
    have htc : t ≤ c := by omega
    have := f3 t htc
    rw [List.getD_eq_getElem?_getD, List.getElem?_eq_getElem ht, Option.getD_some] at this
    rw [this, hL, can_cLt htc]
    simp [packS]
  rw [matrix_build, if_pos (by rw [w_i64_eq, wi (by omega) (by omega)]; omega), h1]
  simp only [Option.bind_some]
  rw [show (w_i64 ((c : Int) + 1)).toNat = c + 1 by rw [w_i64_eq, wi (by omega) (by omega)]; omega]
  have e1' : matrix_build_L0 m m (c : Int) 0 0 [] [] [] (r : Int) (c : Int) (List.replicate (c + 1) 0) [] [] L (L.length : Int) 0 = _ := e1
  have f1' : matrix_build_L1 m m 0 0 [] [] [] (r : Int) (c : Int) S1 (L.map (·.1)) (L.map (·.2.2)) (c : Int) 0 = _ := f1
  rw [e1']
  simp only [Option.bind_some]
  rw [f1']
  simp only [Option.bind_some]
  rw [hS, hL, can_I, can_V]
end
end Go.Vs.F

/-! MbSh -/
set_option linter.unusedVariables false
set_option linter.unusedSimpArgs false
namespace Go.Vs.F
section
variable {R C : Nat} {S I V : List Int}
theorem mEntries_L1 (m : Nat) (hM : MatOK R C S I) (hV : V.length = I.length) (t7 t8 : Int) {j : Nat} (hj : j < C) : ∀ (n k : Nat) (out : List Ent), (S.getD (j + 1) 0).toNat - k < n → out.length ≤ k →
    matrix_entries_L1 m n (R : Int) (C : Int) S I V out (j : Int) (k : Int) t7 t8 = some (.inl (((R : Int), (C : Int), S, I, V, ()), out ++ entCol S I V j k (S.getD (j + 1) 0).toNat, t7, t8, ()))
  | 0, k, out, h, _ => by omega
  | n + 1, k, out, h, ho => by
    have hl := hM.st.len
    have hcz := hM.cz
    have hiz := hM.sz
    have b := hM.st.rng (j := j + 1) (by omega)
    rw [matrix_entries_L1]
    simp only [w_i64_eq, wsucc (show j < 4611686018427387904 by omega), Int.toNat_natCast, bif_decide]
    rw [if_pos (by omega)]
    by_cases hk : k < (S.getD (j + 1) 0).toNat
    · rw [if_pos (by omega), if_pos (by omega), if_pos (by omega), if_pos (by simp; omega), entCol_step hk]
      simp only [wsucc (show k < 4611686018427387904 by omega)]
      rw [mEntries_L1 m hM hV t7 t8 hj n (k + 1) _ (by omega) (by simp; omega)]
      simp
    · rw [if_neg (by omega)]
      rw [entCol, show (S.getD (j + 1) 0).toNat - k = 0 by omega]; simp
theorem mEntries_L0 (m : Nat) (hm : 20000 < m) (hM : MatOK R C S I) (hV : V.length = I.length) : ∀ (d n k : Nat) (out : List Ent), C - k = d → k ≤ C → d < n → out.length = (S.getD k 0).toNat →
    matrix_entries_L0 m n (R : Int) (C : Int) S I V out (C : Int) (k : Int) = some (.inl (out ++ ents S I V d k, ()))
  | 0, n, k, out, hd, hk0, hn, ho => by
    obtain ⟨n, rfl⟩ : ∃ n', n = n' + 1 := ⟨n - 1, by omega⟩
    rw [matrix_entries_L0, bif_decide, if_neg (by omega)]; simp [ents]
  | d + 1, n, k, out, hd, hk0, hn, ho => by
    have hl := hM.st.len
    have hcz := hM.cz
    have hiz := hM.sz
    have hk : k < C := by omega
    have a := hM.st.rng (j := k) (by omega)
    have b := hM.st.rng (j := k + 1) (by omega)
    have dd := hM.st.mono k hk
    obtain ⟨n, rfl⟩ : ∃ n', n = n' + 1 := ⟨n - 1, by omega⟩
    have e := mEntries_L1 (V := V) m hM hV (C : Int) (k : Int) hk m (S.getD k 0).toNat out (by omega) (by omega)
    rw [show (((S.getD k 0).toNat : Nat) : Int) = S.getD k 0 by omega] at e
    rw [matrix_entries_L0, bif_decide, if_pos (by omega), if_pos (by omega)]
    simp only [Int.toNat_natCast]
    rw [e]
    simp only [Option.bind_some, w_i64_eq, wsucc (show k < 4611686018427387904 by omega)]
    rw [mEntries_L0 m hm hM hV d n (k + 1) _ (by omega) (by omega) (by omega) (by rw [List.length_append, entCol_len]; omega), ents]
    simp
theorem mEntries_eq {m : Nat} (hm : 20000 < m) (hM : MatOK R C S I) (hV : V.length = I.length) : matrix_entries m (R : Int) (C : Int) S I V = some (ents S I V C 0, (), ()) := by
  have hcz := hM.cz
  have h := mEntries_L0 (V := V) m hm hM hV C m 0 [] (by omega) (by omega) (by omega) (by rw [hM.st.s0]; rfl)
  rw [matrix_entries, show (0 : Int) = ((0 : Nat) : Int) from rfl, h]; rfl
/-! ### They lie at different positions -/
theorem MatOK.asc (hM : MatOK R C S I) {j : Nat} (hj : j < C) : ∀ (d t : Nat), (S.getD j 0).toNat ≤ t → t + (d + 1) < (S.getD (j + 1) 0).toNat → I.getD t 0 < I.getD (t + (d + 1)) 0
  | 0, t, h1, h2 => by
    have := allFrom_iff.1 (hM.ent j hj) (t + 1) (by omega) h2
    simp only [entOK, Bool.and_eq_true, Bool.or_eq_true, decide_eq_true_eq] at this
    have h := this.2
    simp only [Nat.add_sub_cancel] at h
    simp only [Nat.zero_add]
    rcases h with h | h
    · simp only [Bool.not_eq_true', decide_eq_false_iff_not] at h; omega
    · exact h
  | d + 1, t, h1, h2 => by
    have h3 := hM.asc hj d t h1 (by omega)
    have h4 := hM.asc hj 0 (t + (d + 1)) (by omega) (by omega)
    simp only [Nat.zero_add] at h4
    rw [show t + (d + 1 + 1) = t + (d + 1) + 1 by omega]; omega
theorem entCol_pair (hM : MatOK R C S I) {j : Nat} (hj : j < C) : (entCol S I V j (S.getD j 0).toNat (S.getD (j + 1) 0).toNat).Pairwise (fun a b => ltE a b = true) := by
  unfold entCol
  rw [List.pairwise_map]
  refine List.Pairwise.imp_of_mem ?_ (List.pairwise_lt_range' (s := (S.getD j 0).toNat) (n := (S.getD (j + 1) 0).toNat - (S.getD j 0).toNat) (step := 1) (by omega))
  intro a b ha hb hab
  rw [List.mem_range'_1] at ha hb
  have := hM.asc hj (b - a - 1) a ha.1 (by omega)
  rw [show a + (b - a - 1 + 1) = b by omega] at this
  unfold ltE; simp [-List.getD_eq_getElem?_getD, this]
theorem mem_ents {x : Ent} : ∀ {d k : Nat}, x ∈ ents S I V d k → ∃ j t, k ≤ j ∧ j < k + d ∧ (S.getD j 0).toNat ≤ t ∧ t < (S.getD (j + 1) 0).toNat ∧ x = (I.getD t 0, (j : Int), V.getD t 0)
  | 0, k, h => by simp [ents] at h
  | d + 1, k, h => by
    rw [ents, List.mem_append] at h
    rcases h with h | h
    · unfold entCol at h
      obtain ⟨t, ht, rfl⟩ := List.mem_map.1 h
      rw [List.mem_range'_1] at ht
      exact ⟨k, t, Nat.le_refl _, by omega, ht.1, by omega, rfl⟩
    · obtain ⟨j, t, h1, h2, h3⟩ := mem_ents h
      exact ⟨j, t, by omega, by omega, h3⟩
theorem ents_pair (hM : MatOK R C S I) : ∀ (d k : Nat), k + d = C → (ents S I V d k).Pairwise (fun a b => ltE a b = true)
  | 0, k, h => by simp [ents]
  | d + 1, k, h => by
    rw [ents, List.pairwise_append]
    refine ⟨entCol_pair hM (by omega), ents_pair hM d (k + 1) (by omega), fun a ha b hb => ?_⟩
    unfold entCol at ha
    obtain ⟨t, ht, rfl⟩ := List.mem_map.1 ha
    obtain ⟨j, t', h1, h2, h3, h4, rfl⟩ := mem_ents hb
    unfold ltE; simp [-List.getD_eq_getElem?_getD]; omega
theorem dist_of_pair {es : List Ent} (h : es.Pairwise (fun a b => ltE a b = true)) : DistE es := by
  intro k k' hk hk' h1 h2
  rw [List.pairwise_iff_getElem] at h
  have hg : ∀ i (hi : i < es.length), es.getD i zE = es[i] := fun i hi => by simp [List.getD, hi]
  rcases Nat.lt_trichotomy k k' with e | e | e
  · have := h k k' hk hk' e
    rw [← hg k hk, ← hg k' hk'] at this
    unfold ltE at this; simp [-List.getD_eq_getElem?_getD] at this; omega
  · exact e
  · have := h k' k hk' hk e
    rw [← hg k hk, ← hg k' hk'] at this
    unfold ltE at this; simp [-List.getD_eq_getElem?_getD] at this; omega
theorem dist_map {es : List Ent} {f : Ent → Ent} (hD : DistE es) (hf : ∀ a ∈ es, ∀ b ∈ es, (f a).1 = (f b).1 → (f a).2.1 = (f b).2.1 → a.1 = b.1 ∧ a.2.1 = b.2.1) : DistE (es.map f) := by
  intro k k' hk hk' h1 h2
  simp only [List.length_map] at hk hk'
  have hg : ∀ i, i < es.length → (es.map f).getD i zE = f (es.getD i zE) := fun i hi => by simp [List.getD, hi]
  have hm : ∀ i, i < es.length → es.getD i zE ∈ es := fun i hi => by simp [List.getD, hi]
  rw [hg k hk, hg k' hk'] at h1 h2
  obtain ⟨a, b⟩ := hf _ (hm k hk) _ (hm k' hk') h1 h2
  exact hD k k' hk hk' a b
end
/-! ### Transposing -/
def swE (x : Ent) : Ent := (x.2.1, (x.1, x.2.2))
theorem Transpose_L0 (m : Nat) (r c : Int) (S I V : List Int) (b0 b1 : Int) (b2 b3 b4 : List Int) : ∀ (L2 L1 : List Ent) (n : Nat), L2.length < n → L1.length + L2.length < 1000000000 →
    matrix_Transpose_L0 m n r c S I V b0 b1 b2 b3 b4 (L1.map swE ++ L2) ((L1.length + L2.length : Nat) : Int) (L1.length : Int) = some (.inl ((r, c, S, I, V, ()), (b0, b1, b2, b3, b4, ()), (L1 ++ L2).map swE, ()))
  | L2, L1, 0, h, _ => absurd h (Nat.not_lt_zero _)
  | [], L1, n + 1, _, hb => by
    rw [matrix_Transpose_L0, bif_decide, if_neg (by simp)]
    simp
  | x :: L2, L1, n + 1, h, hb => by
    simp only [List.length_cons] at h hb
    have hlen : (L1.map swE ++ x :: L2).length = L1.length + 1 + L2.length := by simp; omega
    have gx : (L1.map swE ++ x :: L2).getD (0 + (L1.length : Int).toNat) zE = x := getD_at (by simp)
    have hs : ∀ y : Ent, (L1.map swE ++ x :: L2).set (0 + (L1.length : Int).toNat) y = L1.map swE ++ y :: L2 := fun y => set_at (by simp)
    have hs2 : ∀ y z : Ent, (L1.map swE ++ y :: L2).set (0 + (L1.length : Int).toNat) z = L1.map swE ++ z :: L2 := fun y z => set_at (by simp)
    have gy : ∀ y : Ent, (L1.map swE ++ y :: L2).getD (0 + (L1.length : Int).toNat) zE = y := fun y => getD_at (by simp)
    rw [matrix_Transpose_L0, bif_decide, if_pos (by simp only [List.length_cons]; omega)]
    simp only [gx, hs, gy, hs2]
    rw [if_pos (by omega), if_pos (by omega), if_pos (by simp; omega)]
    have ih := Transpose_L0 m r c S I V b0 b1 b2 b3 b4 L2 (L1 ++ [x]) n (by omega) (by simp; omega)
    rw [show w_i64 ((L1.length : Int) + 1) = ((L1 ++ [x]).length : Int) by rw [w_i64_eq, wi (by omega) (by omega)]; simp,
      show ((L1.length + (x :: L2).length : Nat) : Int) = (((L1 ++ [x]).length + L2.length : Nat) : Int) by simp; omega,
      show L1.map swE ++ (x.2.1, (x.1, x.2.2)) :: L2 = (L1 ++ [x]).map swE ++ L2 by simp [swE], ih]
    simp
theorem map_ok {r c r' c' : Nat} {es : List Ent} {f : Ent → Ent} (hf : ∀ x ∈ es, (0 ≤ (f x).1 ∧ (f x).1 < (r' : Int)) ∧ (0 ≤ (f x).2.1 ∧ (f x).2.1 < (c' : Int)) ∧ finB (f x).2.2 = true) : EntsOK r' c' (es.map f) := by
  intro k hk
  simp only [List.length_map] at hk
  have hg : (es.map f).getD k zE = f (es.getD k zE) := by simp [List.getD, hk]
  show (0 ≤ ((es.map f).getD k zE).1 ∧ _) ∧ _
  rw [show (es.map f).getD k (0, (0, 0)) = f (es.getD k zE) from hg]
  exact hf _ (by simp [List.getD, hk])
theorem Transpose_eq {R C : Nat} {S I V : List Int} {m : Nat} (hm : 2000300 < m) (hM : MatOK R C S I) (hV : V.length = I.length) (hS : S.length ≤ 1000000) (hc : chk (R : Int) (C : Int) S I V = 0) :
    EntsOK C R ((ents S I V C 0).map swE) ∧ matrix_Transpose m (R : Int) (C : Int) S I V = some ((((C : Int), (R : Int), packS ((ents S I V C 0).map swE) C R, packI ((ents S I V C 0).map swE) C R, packV ((ents S I V C 0).map swE) C R, ()), 0, ()), (), ()) := by
  have hsz := hM.sz
  obtain ⟨_, _, _, _, _, _, hfin⟩ := chk_ok hc
  have hE := ents_ok hM hV hfin
  have hD : DistE (ents S I V C 0) := dist_of_pair (ents_pair hM C 0 (by omega))
  have hl := ents_len (V := V) hM C 0 (by omega) (by omega)
  have hr := hM.st.rng (j := C) (Nat.le_refl _)
  have hE2 : EntsOK C R ((ents S I V C 0).map swE) := map_ok (r := R) (c := C) fun x hx => by
    obtain ⟨k, hk, rfl⟩ := mem_getD hx
    obtain ⟨a, b, d⟩ := hE.at hk
    exact ⟨b, a, d⟩
  have hD2 : DistE ((ents S I V C 0).map swE) := dist_map hD fun a _ b _ h1 h2 => ⟨h2, h1⟩
  refine ⟨hE2, ?_⟩
  rw [matrix_Transpose, matrix_Check_eq (by omega) (by omega) (by omega) (by omega) (by omega), hc]
  simp only [Option.bind_some, bif_ne, if_true]
  rw [mEntries_eq (by omega) hM hV]
  simp only [Option.bind_some]
  have h0 := Transpose_L0 m (R : Int) (C : Int) S I V 0 0 [] [] [] (ents S I V C 0) [] m (by omega) (by simp; omega)
  simp only [List.map_nil, List.nil_append, List.length_nil, Nat.zero_add] at h0
  rw [show matrix_Transpose_L0 m m (R : Int) (C : Int) S I V 0 0 [] [] [] (ents S I V C 0) ((ents S I V C 0).length : Int) 0 = _ from h0]
  simp only [Option.bind_some]
  rw [build_eq hE2 hD2 hM.cz hM.rz (by simp; omega) hm]
  simp only [Option.bind_some]
end Go.Vs.F

/-! MbSi -/
set_option linter.unusedVariables false
set_option linter.unusedSimpArgs false
namespace Go.Vs.F
/-- 0, 1, .., n - 1. -/
def idn (n : Nat) : List Int := (List.range n).map fun i : Nat => (i : Int)
theorem idn_len {n : Nat} : (idn n).length = n := by simp [idn]
theorem mem_idn {n : Nat} {x : Int} : x ∈ idn n ↔ 0 ≤ x ∧ x < (n : Int) := by
  unfold idn
  simp only [List.mem_map, List.mem_range]
  constructor
  · rintro ⟨i, hi, rfl⟩; omega
  · intro h; exact ⟨x.toNat, by omega, by omega⟩
theorem idn_nodup {n : Nat} : (idn n).Nodup := by
  unfold idn
  rw [List.nodup_iff_pairwise_ne, List.pairwise_map]
  exact (List.pairwise_lt_range (n := n)).imp fun h => by omega
structure PermOK (n : Nat) (l : List Int) : Prop where
  len : l.length = n
  rng : ∀ k, k < n → 0 ≤ l.getD k 0 ∧ l.getD k 0 < (n : Int)
  inj : ∀ k k', k < n → k' < n → l.getD k 0 = l.getD k' 0 → k = k'
  sur : ∀ i, i < n → ∃ k, k < n ∧ l.getD k 0 = (i : Int)
theorem permOK {n : Nat} {l : List Int} (h : List.Perm l (idn n)) : PermOK n l := by
  have hl : l.length = n := by rw [h.length_eq, idn_len]
  have hnd : l.Nodup := h.nodup_iff.2 idn_nodup
  have hg : ∀ k (hk : k < l.length), l.getD k 0 = l[k] := fun k hk => by simp [List.getD, hk]
  refine ⟨hl, fun k hk => ?_, fun k k' hk hk' e => ?_, fun i hi => ?_⟩
  · rw [hg k (by omega)]; exact mem_idn.1 (h.mem_iff.1 (List.getElem_mem _))
  · rw [hg k (by omega), hg k' (by omega)] at e
    rw [List.nodup_iff_pairwise_ne, List.pairwise_iff_getElem] at hnd
    rcases Nat.lt_trichotomy k k' with h1 | h1 | h1
    · exact absurd e (hnd k k' (by omega) (by omega) h1)
    · exact h1
    · exact absurd e.symm (hnd k' k (by omega) (by omega) h1)
  · have : (i : Int) ∈ l := h.mem_iff.2 (mem_idn.2 (by omega))
    obtain ⟨k, hk, e⟩ := List.getElem_of_mem this
    exact ⟨k, by omega, by rw [hg k hk, e]⟩
theorem Shuffle_L0 (m : Nat) (l : List Int) {N : Nat} (hN : N < 1000000) : ∀ (n k : Nat), N - k < n → k ≤ N → sparsekit_Shuffle_L0 m n l (N : Int) (idn k) (k : Int) = some (.inl (l, (N : Int), idn N, ()))
  | 0, k, h, _ => absurd h (Nat.not_lt_zero _)
  | n + 1, k, h, hk => by
    rw [sparsekit_Shuffle_L0, bif_decide]
    by_cases e : k < N
    · rw [if_pos (by omega), if_pos (by simp [idn_len]; omega)]
      rw [show idn k ++ ([(k : Int)] : List Int) = idn (k + 1) by simp [idn, List.range_succ], show w_i64 ((k : Int) + 1) = ((k + 1 : Nat) : Int) from wsucc (by omega)]
      exact Shuffle_L0 m l hN n (k + 1) (by omega) (by omega)
    · rw [if_neg (by omega)]
      have : k = N := by omega
      rw [this]
theorem Shuffle_L1 (l : List Int) {N : Nat} (hN : N < 1000000) : ∀ (d k : Nat) (left out : List Int), N - k = d → k ≤ N → out.length = k → List.Perm (out ++ left) (idn N) →
    ∃ p, List.Perm p (idn N) ∧ ∀ m n, d < n → sparsekit_Shuffle_L1 m n l (N : Int) left out (k : Int) = some (.inl (p, ()))
  | 0, k, left, out, h, hk, ho, hp => by
    have hlen := hp.length_eq
    rw [List.length_append, idn_len, ho] at hlen
    have : left = [] := List.length_eq_zero_iff.1 (by omega)
    subst this
    refine ⟨out, by simpa using hp, fun m n hn => ?_⟩
    obtain ⟨n, rfl⟩ : ∃ n', n = n' + 1 := ⟨n - 1, by omega⟩
    rw [sparsekit_Shuffle_L1, bif_decide, if_neg (by omega)]
  | d + 1, k, left, out, h, hk, ho, hp => by
    have hlen := hp.length_eq
    rw [List.length_append, idn_len, ho] at hlen
    have step : ∀ a : Nat, a < left.length → ∃ p, List.Perm p (idn N) ∧ ∀ m n, d < n → sparsekit_Shuffle_L1 m n l (N : Int) (left.take a ++ ((left.drop (a + 1)).take (left.length - (a + 1)))) (out ++ ([left.getD a 0] : List Int)) (w_i64 ((k : Int) + 1)) = some (.inl (p, ())) := fun a ha => by
      rw [show w_i64 ((k : Int) + 1) = ((k + 1 : Nat) : Int) from wsucc (by omega)]
      have e1 : (left.drop (a + 1)).take (left.length - (a + 1)) = left.drop (a + 1) := List.take_of_length_le (by simp)
      rw [e1]
      refine Shuffle_L1 l hN d (k + 1) _ _ (by omega) (by omega) (by simp [ho]) (List.Perm.trans ?_ hp)
      have e2 : left = left.take a ++ left.getD a 0 :: left.drop (a + 1) := by
        conv => lhs; rw [← List.take_append_drop a left, drop_cons (d := (0 : Int)) ha]
      conv => rhs; rw [e2]
      rw [List.append_assoc]
      refine List.Perm.append_left _ ?_
      show List.Perm (left.getD a 0 :: (left.take a ++ left.drop (a + 1))) _
      exact List.perm_middle.symm
    by_cases g : (k : Int) < (l.length : Int)
    · obtain ⟨a, ha, ea⟩ := Place_eq (a := l.getD (k : Int).toNat 0) (n := left.length) (by omega) (by omega)
      obtain ⟨p, hp1, hp2⟩ := step a ha
      refine ⟨p, hp1, fun m n hn => ?_⟩
      obtain ⟨n, rfl⟩ : ∃ n', n = n' + 1 := ⟨n - 1, by omega⟩
      rw [sparsekit_Shuffle_L1, bif_decide, bif_decide, if_pos (by omega), if_pos g, if_pos (by omega)]
      rw [ea m]
      simp only [Option.bind_some]
      rw [if_pos (by omega), if_pos (by simp; omega), if_pos (by omega)]
      rw [show w_i64 ((a : Int) + 1) = ((a + 1 : Nat) : Int) from wsucc (by omega)]
      rw [if_pos (by omega), if_pos (by simp; omega)]
      simp only [Int.toNat_natCast, Nat.zero_add, Nat.sub_zero]
      exact hp2 m n (by omega)
    · obtain ⟨p, hp1, hp2⟩ := step 0 (by omega)
      refine ⟨p, hp1, fun m n hn => ?_⟩
      obtain ⟨n, rfl⟩ : ∃ n', n = n' + 1 := ⟨n - 1, by omega⟩
      rw [sparsekit_Shuffle_L1, bif_decide, bif_decide, if_pos (by omega), if_neg g, if_pos (by omega), if_pos (by simp; omega), if_pos (by omega), if_pos (by omega), if_pos (by simp; omega)]
      exact hp2 m n (by omega)
theorem Shuffle_eq (l : List Int) {N : Nat} (hN : N < 1000000) : ∃ p, PermOK N p ∧ ∀ m, N < m → sparsekit_Shuffle m l (N : Int) = some (p, (), (), ()) := by
  obtain ⟨p, h1, h2⟩ := Shuffle_L1 l hN N 0 (idn N) [] (by omega) (by omega) rfl (by simp)
  refine ⟨p, permOK h1, fun m hm => ?_⟩
  have h0 := Shuffle_L0 m l hN m 0 (by omega) (by omega)
  rw [sparsekit_Shuffle, show sparsekit_Shuffle_L0 m m l (N : Int) [] 0 = _ from h0]
  simp only [Option.bind_some]
  rw [show sparsekit_Shuffle_L1 m m l (N : Int) (idn N) [] 0 = _ from h2 m m hm]
  rfl
/-! ### Places -/
theorem places_L0 (m : Nat) (l : List Int) {N : Nat} (hN : N < 1000000) : ∀ (n k : Nat) (out : List Int), N - k < n → k ≤ N → out.length = N → (∀ i, i < k → out.getD i 0 = -1) →
    ∃ out', matrix_places_L0 m n l (N : Int) out (N : Int) (k : Int) = some (.inl (l, (N : Int), out', ())) ∧ out'.length = N ∧ ∀ i, i < N → out'.getD i 0 = -1
  | 0, k, out, h, _, _, _ => absurd h (Nat.not_lt_zero _)
  | n + 1, k, out, h, hk, ho, hq => by
    rw [matrix_places_L0, bif_decide]
    by_cases e : k < N
    · rw [if_pos (by omega), if_pos (by omega)]
      rw [show w_i64 ((k : Int) + 1) = ((k + 1 : Nat) : Int) from wsucc (by omega), show 0 + (k : Int).toNat = k by omega]
      refine places_L0 m l hN n (k + 1) _ (by omega) (by omega) (by simpa using ho) (fun i hi => ?_)
      by_cases g : i = k
      · subst g; rw [List.getD_eq_getElem?_getD, List.getElem?_set_self (by omega)]; rfl
      · rw [List.getD_eq_getElem?_getD, List.getElem?_set_ne (by omega), ← List.getD_eq_getElem?_getD]; exact hq i (by omega)
    · rw [if_neg (by omega)]
      exact ⟨out, rfl, ho, fun i hi => hq i (by omega)⟩
theorem places_L1 (m : Nat) (l out : List Int) {N : Nat} (hN : N < 1000000) (hP : PermOK N l) : ∀ (n k : Nat), N - k < n → k ≤ N → matrix_places_L1 m n l (N : Int) out l (N : Int) (k : Int) = some (.inr (.inl (l, out, ())))
  | 0, k, h, _ => absurd h (Nat.not_lt_zero _)
  | n + 1, k, h, hk => by
    have hl := hP.len
    rw [matrix_places_L1, bif_decide]
    by_cases e : k < N
    · obtain ⟨a, b⟩ := hP.rng k e
      rw [if_pos (by omega), if_pos (by omega), within_eq]
      simp only [Option.bind_some, Int.toNat_natCast]
      rw [show w_i64 ((N : Int) - 1) = (N : Int) - 1 by rw [w_i64_eq, wi (by omega) (by omega)]]
      rw [show (decide (0 ≤ l.getD k 0) && decide (l.getD k 0 ≤ (N : Int) - 1)) = true by simp [-List.getD_eq_getElem?_getD]; omega]
      simp only [Bool.not_true, cond_false]
      rw [show w_i64 ((k : Int) + 1) = ((k + 1 : Nat) : Int) from wsucc (by omega)]
      exact places_L1 m l out hN hP n (k + 1) (by omega) (by omega)
    · rw [if_neg (by omega)]
theorem places_L2 (m : Nat) (l : List Int) {N : Nat} (hN : N < 1000000) (hP : PermOK N l) : ∀ (n k : Nat) (out : List Int), N - k < n → k ≤ N → out.length = N → (∀ t, t < k → out.getD (l.getD t 0).toNat 0 = (t : Int)) → (∀ t, k ≤ t → t < N → out.getD (l.getD t 0).toNat 0 = -1) →
    ∃ out', matrix_places_L2 m n out l (N : Int) (k : Int) = some (.inr (.inl (out', ()))) ∧ out'.length = N ∧ ∀ t, t < N → out'.getD (l.getD t 0).toNat 0 = (t : Int)
  | 0, k, out, h, _, _, _, _ => absurd h (Nat.not_lt_zero _)
  | n + 1, k, out, h, hk, ho, h1, h2 => by
    have hl := hP.len
    rw [matrix_places_L2, bif_decide, bif_decide]
    by_cases e : k < N
    · obtain ⟨a, b⟩ := hP.rng k e
      have h3 := h2 k (Nat.le_refl _) e
      rw [if_pos (by omega), if_pos (by omega)]
      simp only [Int.toNat_natCast, Nat.zero_add]
      rw [if_pos (by omega), h3, if_neg (by decide), if_pos (by omega)]
      rw [show w_i64 ((k : Int) + 1) = ((k + 1 : Nat) : Int) from wsucc (by omega)]
      have ne : ∀ t, t < N → t ≠ k → (l.getD t 0).toNat ≠ (l.getD k 0).toNat := fun t ht hne he => by
        obtain ⟨a', b'⟩ := hP.rng t ht
        exact hne (hP.inj t k ht e (by omega))
      refine places_L2 m l hN hP n (k + 1) _ (by omega) (by omega) (by simpa using ho) (fun t ht => ?_) (fun t ht htN => ?_)
      · by_cases g : t = k
        · subst g; rw [List.getD_eq_getElem?_getD, List.getElem?_set_self (by omega)]; rfl
        · have := ne t (by omega) g
          rw [List.getD_eq_getElem?_getD, List.getElem?_set_ne (Ne.symm this), ← List.getD_eq_getElem?_getD]; exact h1 t (by omega)
      · have := ne t htN (by omega)
        rw [List.getD_eq_getElem?_getD, List.getElem?_set_ne (Ne.symm this), ← List.getD_eq_getElem?_getD]; exact h2 t (by omega) htN
    · rw [if_neg (by omega)]
      exact ⟨out, rfl, ho, fun t ht => h1 t (by omega)⟩
theorem places_eq {m : Nat} (l : List Int) {N : Nat} (hN : N < 1000000) (hP : PermOK N l) (hm : N < m) :
    ∃ out, matrix_places m l (N : Int) = some ((out, 0, ()), (), (), ()) ∧ out.length = N ∧ ∀ t, t < N → out.getD (l.getD t 0).toNat 0 = (t : Int) := by
  obtain ⟨o1, e1, e2, e3⟩ := places_L0 m l hN m 0 (List.replicate N 0) (by omega) (by omega) (by simp) (fun i hi => absurd hi (Nat.not_lt_zero _))
  obtain ⟨o2, f1, f2, f3⟩ := places_L2 m l hN hP m 0 o1 (by omega) (by omega) e2 (fun t ht => absurd ht (Nat.not_lt_zero _)) (fun t _ ht => e3 _ (by have := hP.rng t ht; omega))
  refine ⟨o2, ?_, f2, f3⟩
  have hl := hP.len
  rw [matrix_places, if_pos (by omega)]
  simp only [Int.toNat_natCast, List.length_replicate]
  rw [show matrix_places_L0 m m l (N : Int) (List.replicate N 0) (N : Int) 0 = _ from e1]
  simp only [Option.bind_some]
  rw [hl, show matrix_places_L1 m m l (N : Int) o1 l (N : Int) 0 = _ from places_L1 m l o1 hN hP m 0 (by omega) (by omega)]
  simp only [Option.bind_some]
  rw [hl, show matrix_places_L2 m m o1 l (N : Int) 0 = _ from f1]
  rfl
theorem places_all (l : List Int) {N : Nat} (hN : N < 1000000) (hP : PermOK N l) :
    ∃ out : List Int, out.length = N ∧ (∀ t, t < N → out.getD (l.getD t 0).toNat 0 = (t : Int)) ∧ ∀ m, N < m → matrix_places m l (N : Int) = some ((out, 0, ()), (), (), ()) := by
  obtain ⟨o, _, h2, h3⟩ := places_eq (m := N + 1) l hN hP (by omega)
  refine ⟨o, h2, h3, fun m hm => ?_⟩
  obtain ⟨o', g1, g2, g3⟩ := places_eq (m := m) l hN hP hm
  rw [g1]
  have : o' = o := by
    refine List.ext_getElem (by omega) fun i hi hi' => ?_
    obtain ⟨t, ht, e⟩ := hP.sur i (by omega)
    have a := h3 t ht
    have b := g3 t ht
    rw [e, Int.toNat_natCast] at a b
    have e1 : o'.getD i 0 = o'[i] := by simp [List.getD, hi]
    have e2 : o.getD i 0 = o[i] := by simp [List.getD, hi']
    rw [← e1, ← e2, a, b]
  rw [this]
/-! ### Permuting -/
def pmE (row col : List Int) (x : Ent) : Ent := (row.getD x.1.toNat 0, (col.getD x.2.1.toNat 0, x.2.2))
theorem selected_L0 (m : Nat) (rows cols row col : List Int) (b0 b1 : Int) (b2 b3 b4 : List Int) {L : List Ent} (hL : L.length ≤ 1000000) (hx : ∀ x ∈ L, (0 ≤ x.1 ∧ x.1 < (row.length : Int)) ∧ (0 ≤ x.2.1 ∧ x.2.1 < (col.length : Int)) ∧ 0 ≤ row.getD x.1.toNat 0 ∧ 0 ≤ col.getD x.2.1.toNat 0) :
    ∀ (L2 L1 : List Ent) (n : Nat), L = L1 ++ L2 → L2.length < n → matrix_selected_L0 m n rows cols row col b0 b1 b2 b3 b4 (L1.map (pmE row col)) L (L.length : Int) (L1.length : Int) = some (.inl (rows, cols, (b0, b1, b2, b3, b4, ()), L.map (pmE row col), ()))
  | L2, L1, 0, _, h => absurd h (Nat.not_lt_zero _)
  | [], L1, n + 1, hd, _ => by
    have : L = L1 := by simpa using hd
    subst this
    rw [matrix_selected_L0, bif_decide, if_neg (by omega)]
  | x :: L2, L1, n + 1, hd, h => by
    have hlen : L.length = L1.length + 1 + L2.length := by rw [hd]; simp; omega
    have gx : L.getD (0 + (L1.length : Int).toNat) zE = x := by rw [hd]; exact getD_at (by omega)
    obtain ⟨a, b, c, d⟩ := hx x (by rw [hd]; simp)
    rw [matrix_selected_L0, bif_decide, if_pos (by omega)]
    simp only [gx, bif_decide]
    rw [if_pos (by omega), if_pos a, if_pos c, if_pos b, if_pos d, if_pos a, if_pos b, if_pos (by simp; omega)]
    rw [show w_i64 ((L1.length : Int) + 1) = ((L1 ++ [x]).length : Int) by rw [w_i64_eq, wi (by omega) (by omega)]; simp]
    have ih := selected_L0 m rows cols row col b0 b1 b2 b3 b4 hL hx L2 (L1 ++ [x]) n (by rw [hd]; simp) (by simp at h; omega)
    rw [List.map_append] at ih
    exact ih
theorem Permute_eq {R C : Nat} {S I V p q : List Int} (hM : MatOK R C S I) (hV : V.length = I.length) (hS : S.length ≤ 1000000) (hc : chk (R : Int) (C : Int) S I V = 0) (hp : PermOK R p) (hq : PermOK C q) :
    ∃ row col : List Int, (∀ t, t < R → row.getD (p.getD t 0).toNat 0 = (t : Int)) ∧ (∀ t, t < C → col.getD (q.getD t 0).toNat 0 = (t : Int)) ∧ EntsOK R C ((ents S I V C 0).map (pmE row col)) ∧
      (∀ i : Int, 0 ≤ i → i < (R : Int) → ∃ t, t < R ∧ row.getD i.toNat 0 = (t : Int) ∧ p.getD t 0 = i) ∧ (∀ i : Int, 0 ≤ i → i < (C : Int) → ∃ t, t < C ∧ col.getD i.toNat 0 = (t : Int) ∧ q.getD t 0 = i) ∧
      ∀ m, 2000300 < m → matrix_Permute m (R : Int) (C : Int) S I V p q = some ((((R : Int), (C : Int), packS ((ents S I V C 0).map (pmE row col)) R C, packI ((ents S I V C 0).map (pmE row col)) R C, packV ((ents S I V C 0).map (pmE row col)) R C, ()), 0, ()), (), (), (), ()) := by
  have hsz := hM.sz
  have hrz := hM.rz
  have hcz := hM.cz
  obtain ⟨_, _, _, _, _, _, hfin⟩ := chk_ok hc
  have hE := ents_ok hM hV hfin
  have hD : DistE (ents S I V C 0) := dist_of_pair (ents_pair hM C 0 (by omega))
  have hl := ents_len (V := V) hM C 0 (by omega) (by omega)
  have hr := hM.st.rng (j := C) (Nat.le_refl _)
  obtain ⟨row, r2, r3, r1⟩ := places_all p (by omega) hp
  obtain ⟨col, c2, c3, c1⟩ := places_all q (by omega) hq
  have hrow : ∀ i : Int, 0 ≤ i → i < (R : Int) → ∃ t, t < R ∧ row.getD i.toNat 0 = (t : Int) ∧ p.getD t 0 = i := fun i h0 h1 => by
    obtain ⟨t, ht, e⟩ := hp.sur i.toNat (by omega)
    have := r3 t ht
    rw [e, Int.toNat_natCast] at this
    exact ⟨t, ht, this, by omega⟩
  have hcol : ∀ i : Int, 0 ≤ i → i < (C : Int) → ∃ t, t < C ∧ col.getD i.toNat 0 = (t : Int) ∧ q.getD t 0 = i := fun i h0 h1 => by
    obtain ⟨t, ht, e⟩ := hq.sur i.toNat (by omega)
    have := c3 t ht
    rw [e, Int.toNat_natCast] at this
    exact ⟨t, ht, this, by omega⟩
  have hE2 : EntsOK R C ((ents S I V C 0).map (pmE row col)) := map_ok (r := R) (c := C) fun x hx => by
    obtain ⟨k, hk, rfl⟩ := mem_getD hx
    obtain ⟨a, b, d⟩ := hE.at hk
    obtain ⟨t, t1, t2, _⟩ := hrow _ a.1 a.2
    obtain ⟨s, s1, s2, _⟩ := hcol _ b.1 b.2
    refine ⟨?_, ?_, d⟩
    · show 0 ≤ row.getD _ 0 ∧ row.getD _ 0 < _
      rw [t2]; omega
    · show 0 ≤ col.getD _ 0 ∧ col.getD _ 0 < _
      rw [s2]; omega
  have hD2 : DistE ((ents S I V C 0).map (pmE row col)) := dist_map hD fun a ha b hb h1 h2 => by
    obtain ⟨k, hk, rfl⟩ := mem_getD ha
    obtain ⟨k', hk', rfl⟩ := mem_getD hb
    obtain ⟨a1, b1, _⟩ := hE.at hk
    obtain ⟨a2, b2, _⟩ := hE.at hk'
    obtain ⟨t, _, t2, t3⟩ := hrow _ a1.1 a1.2
    obtain ⟨t', _, t2', t3'⟩ := hrow _ a2.1 a2.2
    obtain ⟨s, _, s2, s3⟩ := hcol _ b1.1 b1.2
    obtain ⟨s', _, s2', s3'⟩ := hcol _ b2.1 b2.2
    have h1' : row.getD _ 0 = row.getD _ 0 := h1
    have h2' : col.getD _ 0 = col.getD _ 0 := h2
    rw [t2, t2'] at h1'
    rw [s2, s2'] at h2'
    have e1 : t = t' := by omega
    have e2 : s = s' := by omega
    subst e1 e2
    exact ⟨by rw [← t3, ← t3'], by rw [← s3, ← s3']⟩
  refine ⟨row, col, r3, c3, hE2, hrow, hcol, fun m hm => ?_⟩
  have hpl := hp.len
  have hql := hq.len
  rw [matrix_Permute, matrix_Check_eq (by omega) (by omega) (by omega) (by omega) (by omega), hc]
  simp only [Option.bind_some, bif_ne, if_true]
  rw [if_pos (by omega), if_pos (by omega), r1 m (by omega)]
  simp only [Option.bind_some, bif_ne, if_true]
  rw [c1 m (by omega)]
  simp only [Option.bind_some, bif_ne, if_true]
  rw [matrix_selected, mEntries_eq (by omega) hM hV]
  simp only [Option.bind_some]
  have h0 := selected_L0 m p q row col 0 0 [] [] [] (L := ents S I V C 0) (by omega) (fun x hx => by
    obtain ⟨k, hk, rfl⟩ := mem_getD hx
    obtain ⟨a, b, _⟩ := hE.at hk
    obtain ⟨t, t1, t2, _⟩ := hrow _ a.1 a.2
    obtain ⟨s, s1, s2, _⟩ := hcol _ b.1 b.2
    exact ⟨by omega, by omega, by omega, by omega⟩) (ents S I V C 0) [] m rfl (by omega)
  rw [show matrix_selected_L0 m m p q row col 0 0 [] [] [] [] (ents S I V C 0) ((ents S I V C 0).length : Int) 0 = _ from h0]
  simp only [Option.bind_some]
  rw [hpl, hql, build_eq hE2 hD2 hrz hcz (by simp; omega) hm]
  simp only [Option.bind_some]
end Go.Vs.F

/-! MbSj -/
set_option linter.unusedVariables false
set_option linter.unusedSimpArgs false
set_option maxRecDepth 100000
namespace Go.Vs.F
theorem maxOK {r c : Nat} {S I V : List Int} (h : chk (r : Int) (c : Int) S I V = 0) (hM : MatOK r c S I) (hVl : V.length = I.length) (hS : S.length ≤ 1000000) (hV : V.length ≤ 1000000) :
    ∃ u, KInv (edgesOf c S I) r c c u ∧ ∃ M, ∀ m, M ≤ m → matching_Maximum m (r : Int) (c : Int) S I V = some ((u.row, 0, ()), (), ()) := by
  obtain ⟨u, hu⟩ := All.exists hM.edge _ 0 (st0 r c) rfl (Nat.zero_le _) st0_good
  obtain ⟨M1, h1⟩ := matched_eq (V := V) hM hu
  have hcz := hM.cz
  have hrz := hM.rz
  refine ⟨u, hu.kinv hM.edge kinv0, M1 + 2000002, fun m hm => ?_⟩
  rw [matching_Maximum, matrix_Check_eq (by omega) (by omega) (by omega) (by omega) (by omega), h]
  simp only [Option.bind_some, bif_ne, if_true, h1 m (by omega), stE]
theorem KInv.rowOK {E : List (List Int)} {R C : Nat} {u : St} (K : KInv E R C C u) : ∀ j, j < C → u.row.getD j 0 = -1 ∨ (0 ≤ u.row.getD j 0 ∧ u.row.getD j 0 < (R : Int)) := K.good.rok
/-- A cover by maps: the size of the one matching is at most that of the other. -/
theorem size_map {E E' : List (List Int)} {R C R' C' : Nat} {u u' : St} (hE : EdgeOK R E) (K : KInv E R C C u) (K' : KInv E' R' C' C' u') (pr pc : Nat → Bool)
    (hcov : ∀ j, j < C' → ∀ i ∈ E'.getD j [], pr i.toNat = true ∨ pc j = true) (h1 : cnt pr R' + cnt pc C' ≤ cnt (rRow E C u) R + cnt (fun j => !rCol E C u j) C) : cnt (mt u'.row) C' ≤ cnt (mt u.row) C := by
  have := weak K'.cons K'.rowOK hcov
  have := konig_cnt hE K
  omega
theorem MatchingTransposed_law (R C : Int) (l p q : List Int) : ∃ m, sparselaw13_MatchingTransposed m R C l p q = some (true, (), (), (), (), (), ()) := by
  by_cases hl : l.length ≤ 90
  · obtain ⟨r, c, es, hr, hc, hE, hes, hmk⟩ := made_eq R C (l := l) (by omega)
    have ha : c * r ≤ 10000 := Nat.le_trans (Nat.mul_le_mul (show c ≤ 100 by omega) (show r ≤ 100 by omega)) (by decide)
    have ha' : r * c ≤ 10000 := Nat.le_trans (Nat.mul_le_mul (show r ≤ 100 by omega) (show c ≤ 100 by omega)) (by decide)
    have hk := pack_chk hE (by omega) (by omega) ha
    have hM := pack_ok (es := es) (r := r) (c := c) (by omega) (by omega) ha
    have hsl := hM.st.len
    have hil := hM.sz
    have hvl := packV_len es r c
    generalize packS es r c = S at *
    generalize packI es r c = I at *
    generalize packV es r c = V at *
    obtain ⟨u, K, M1, h1⟩ := maxOK hk hM hvl (by omega) (by omega)
    have hel := ents_len (V := V) hM c 0 (by omega) (by omega)
    have hedge : ∀ j, j < c → ∀ x : Int, x ∈ (edgesOf c S I).getD j [] ↔ ∃ k, k < (ents S I V c 0).length ∧ ((ents S I V c 0).getD k (0, (0, 0))).1 = x ∧ ((ents S I V c 0).getD k (0, (0, 0))).2.1 = (j : Int) := fun j hj x => (ents_edge (V := V) hM hj).symm
    have hgm : ∀ (f : Ent → Ent) k, k < (ents S I V c 0).length → ((ents S I V c 0).map f).getD k (0, (0, 0)) = f ((ents S I V c 0).getD k (0, (0, 0))) := fun f k hk => by simp [List.getD, hk]
    have hEn := ents_ok hM hvl (chk_ok hk).choose_spec.choose_spec.2.2.2.2
    -- the transpose
    have hEt := (Transpose_eq (m := 2000301) (by omega) hM hvl (by omega) hk).1
    have ht := fun m (hm : 2000300 < m) => (Transpose_eq (m := m) hm hM hvl (by omega) hk).2
    have hkt := pack_chk hEt (by omega) (by omega) ha'
    have hMt := pack_ok (es := (ents S I V c 0).map swE) (r := c) (c := r) (by omega) (by omega) ha'
    have hlt := hMt.st.len
    have hilt := hMt.sz
    have hvt := packV_len ((ents S I V c 0).map swE) c r
    obtain ⟨ut, Kt, M2, h2⟩ := maxOK hkt hMt hvt (by omega) (by omega)
    have het : ∀ i j, i < r → j < c → ((j : Int) ∈ (edgesOf r (packS ((ents S I V c 0).map swE) c r) (packI ((ents S I V c 0).map swE) c r)).getD i [] ↔ (i : Int) ∈ (edgesOf c S I).getD j []) := fun i j hi hj => by
      rw [pack_edge hEt hi, hedge j hj]
      simp only [List.length_map]
      constructor
      · rintro ⟨k, k1, k2, k3⟩
        rw [hgm swE k k1] at k2 k3
        exact ⟨k, k1, k3, k2⟩
      · rintro ⟨k, k1, k2, k3⟩
        refine ⟨k, k1, ?_, ?_⟩
        · rw [hgm swE k k1]; exact k3
        · rw [hgm swE k k1]; exact k2
    generalize packS ((ents S I V c 0).map swE) c r = St' at *
    generalize packI ((ents S I V c 0).map swE) c r = It' at *
    generalize packV ((ents S I V c 0).map swE) c r = Vt' at *
    have st : cnt (mt ut.row) r = cnt (mt u.row) c := by
      refine Nat.le_antisymm ?_ ?_
      · refine size_map hM.edge K Kt (fun j => !rCol (edgesOf c S I) c u j) (rRow (edgesOf c S I) c u) (fun i hi x hx => ?_) (by omega)
        have hx2 := hMt.edge i x hx
        have := (het i x.toNat hi (by omega)).1 (by rw [show ((x.toNat : Nat) : Int) = x by omega]; exact hx)
        rcases rCov hM.edge x.toNat (by omega) _ this with h | h
        · exact .inr (by simpa using h)
        · exact .inl h
      · refine size_map hMt.edge Kt K (fun i => !rCol (edgesOf r St' It') r ut i) (rRow (edgesOf r St' It') r ut) (fun j hj x hx => ?_) (by omega)
        have hx2 := hM.edge j x hx
        have := (het x.toNat j (by omega) hj).2 (by rw [show ((x.toNat : Nat) : Int) = x by omega]; exact hx)
        rcases rCov hMt.edge x.toNat (by omega) _ this with h | h
        · exact .inr (by simpa using h)
        · exact .inl h
    -- the permuted one
    obtain ⟨p', hp, hps⟩ := Shuffle_eq p (N := r) (by omega)
    obtain ⟨q', hq, hqs⟩ := Shuffle_eq q (N := c) (by omega)
    obtain ⟨row, col, hr1, hc1, hEp, hrow, hcol, hpm⟩ := Permute_eq hM hvl (by omega) hk hp hq
    have hkp := pack_chk hEp (by omega) (by omega) ha
    have hMp := pack_ok (es := (ents S I V c 0).map (pmE row col)) (r := r) (c := c) (by omega) (by omega) ha
    have hlp := hMp.st.len
    have hilp := hMp.sz
    have hvp := packV_len ((ents S I V c 0).map (pmE row col)) r c
    obtain ⟨up, Kp, M3, h3⟩ := maxOK hkp hMp hvp (by omega) (by omega)
    have hep : ∀ i j, i < r → j < c → ((i : Int) ∈ (edgesOf c (packS ((ents S I V c 0).map (pmE row col)) r c) (packI ((ents S I V c 0).map (pmE row col)) r c)).getD j [] ↔ p'.getD i 0 ∈ (edgesOf c S I).getD (q'.getD j 0).toNat []) := fun i j hi hj => by
      obtain ⟨qa, qb⟩ := hq.rng j hj
      rw [pack_edge hEp hj, hedge _ (by omega)]
      simp only [List.length_map]
      constructor
      · rintro ⟨k, k1, k2, k3⟩
        rw [hgm (pmE row col) k k1] at k2 k3
        obtain ⟨⟨a1, a2⟩, ⟨b1, b2⟩, _⟩ := hEn k k1
        obtain ⟨t, t1, t2, t3⟩ := hrow _ a1 a2
        obtain ⟨s, s1, s2, s3⟩ := hcol _ b1 b2
        have e1 : row.getD _ 0 = (i : Int) := k2
        have e2 : col.getD _ 0 = (j : Int) := k3
        rw [t2] at e1
        rw [s2] at e2
        have e1' : t = i := by omega
        have e2' : s = j := by omega
        subst e1' e2'
        exact ⟨k, k1, t3.symm, by omega⟩
      · rintro ⟨k, k1, k2, k3⟩
        refine ⟨k, k1, ?_, ?_⟩
        · rw [hgm (pmE row col) k k1]
          show row.getD _ 0 = _
          rw [k2]; exact hr1 i hi
        · rw [hgm (pmE row col) k k1]
          show col.getD _ 0 = _
          rw [k3, Int.toNat_natCast]; exact hc1 j hj
    generalize packS ((ents S I V c 0).map (pmE row col)) r c = Sp at *
    generalize packI ((ents S I V c 0).map (pmE row col)) r c = Ip at *
    generalize packV ((ents S I V c 0).map (pmE row col)) r c = Vp at *
    have sp : cnt (mt up.row) c = cnt (mt u.row) c := by
      refine Nat.le_antisymm ?_ ?_
      · refine size_map hM.edge K Kp (fun i => rRow (edgesOf c S I) c u (p'.getD i 0).toNat) (fun j => !rCol (edgesOf c S I) c u (q'.getD j 0).toNat) (fun j hj x hx => ?_) (Nat.add_le_add ?_ ?_)
        · have hx2 := hMp.edge j x hx
          have := (hep x.toNat j (by omega) hj).1 (by rw [show ((x.toNat : Nat) : Int) = x by omega]; exact hx)
          obtain ⟨qa, qb⟩ := hq.rng j hj
          exact rCov hM.edge (q'.getD j 0).toNat (by omega) _ this
        · exact cnt_inj (f := fun i => (p'.getD i 0).toNat) (fun i hi h => ⟨by have := hp.rng i hi; omega, h⟩) (fun i j hi hj _ _ e => hp.inj i j hi hj (by
            have a := hp.rng i hi
            have b := hp.rng j hj
            have e' : (p'.getD i 0).toNat = (p'.getD j 0).toNat := e
            omega))
        · exact cnt_inj (f := fun i => (q'.getD i 0).toNat) (fun i hi h => ⟨by have := hq.rng i hi; omega, h⟩) (fun i j hi hj _ _ e => hq.inj i j hi hj (by
            have a := hq.rng i hi
            have b := hq.rng j hj
            have e' : (q'.getD i 0).toNat = (q'.getD j 0).toNat := e
            omega))
      · refine size_map hMp.edge Kp K (fun i => rRow (edgesOf c Sp Ip) c up (row.getD i 0).toNat) (fun j => !rCol (edgesOf c Sp Ip) c up (col.getD j 0).toNat) (fun j hj x hx => ?_) (Nat.add_le_add ?_ ?_)
        · have hx2 := hM.edge j x hx
          obtain ⟨t, t1, t2, t3⟩ := hrow x hx2.1 hx2.2
          obtain ⟨s, s1, s2, s3⟩ := hcol (j : Int) (by omega) (by omega)
          have := (hep t s t1 s1).2 (by rw [t3, s3]; exact hx)
          rw [Int.toNat_natCast] at s2
          rw [t2, s2, Int.toNat_natCast, Int.toNat_natCast]
          exact rCov hMp.edge s s1 _ this
        · exact cnt_inj (f := fun i => (row.getD i 0).toNat) (fun i hi h => ⟨by obtain ⟨t, t1, t2, _⟩ := hrow (i : Int) (by omega) (by omega); rw [Int.toNat_natCast] at t2; omega, h⟩) (fun i j hi hj _ _ e => by
            obtain ⟨t, t1, t2, t3⟩ := hrow (i : Int) (by omega) (by omega)
            obtain ⟨s, s1, s2, s3⟩ := hrow (j : Int) (by omega) (by omega)
            have e' : (row.getD i 0).toNat = (row.getD j 0).toNat := e
            rw [Int.toNat_natCast] at t2 s2
            rw [t2, s2] at e'
            have : t = s := by omega
            subst this
            omega)
        · exact cnt_inj (f := fun i => (col.getD i 0).toNat) (fun i hi h => ⟨by obtain ⟨t, t1, t2, _⟩ := hcol (i : Int) (by omega) (by omega); rw [Int.toNat_natCast] at t2; omega, h⟩) (fun i j hi hj _ _ e => by
            obtain ⟨t, t1, t2, t3⟩ := hcol (i : Int) (by omega) (by omega)
            obtain ⟨s, s1, s2, s3⟩ := hcol (j : Int) (by omega) (by omega)
            have e' : (col.getD i 0).toNat = (col.getD j 0).toNat := e
            rw [Int.toNat_natCast] at t2 s2
            rw [t2, s2] at e'
            have : t = s := by omega
            subst this
            omega)
    -- together
    have l1 : u.row.length = c := K.good.row
    have l2 : ut.row.length = r := Kt.good.row
    have l3 : up.row.length = c := Kp.good.row
    refine ⟨M1 + M2 + M3 + 2000302, ?_⟩
    obtain ⟨m, hm⟩ : ∃ m, m = M1 + M2 + M3 + 2000302 := ⟨_, rfl⟩
    rw [← hm, sparselaw13_MatchingTransposed, bif_decide, if_neg (by omega), hmk m (by omega)]
    simp only [Option.bind_some]
    rw [ht m (by omega)]
    simp only [Option.bind_some]
    rw [hps m (by omega)]
    simp only [Option.bind_some]
    rw [hqs m (by omega)]
    simp only [Option.bind_some]
    rw [hpm m (by omega)]
    simp only [Option.bind_some]
    rw [h1 m (by omega)]
    simp only [Option.bind_some]
    rw [h2 m (by omega)]
    simp only [Option.bind_some]
    rw [h3 m (by omega)]
    simp only [Option.bind_some, bif_eq, if_true]
    rw [if_pos (by omega), size_eq (by omega) (by omega)]
    simp only [Option.bind_some]
    rw [size_eq (by omega) (by omega)]
    simp only [Option.bind_some]
    rw [l1, l2, if_pos (by omega)]
    rw [size_eq (by omega) (by omega)]
    simp only [Option.bind_some]
    rw [l3, if_pos (by omega), awakeM (by omega)]; rfl
  · refine ⟨60, ?_⟩
    rw [sparselaw13_MatchingTransposed, bif_decide, if_pos (by omega), awakeM (by omega)]; rfl
end Go.Vs.F
