/- Kuhn's algorithm is right: failing searches change nothing and close a set of rows; a successful one augments. Kuhn's algorithm is right: a successful search augments the matching. Koenig: the matching is consistent, no free row is reachable, and the cover has the matching's size. Koenig's theorem for Kuhn's matching and the cover of what is reachable; the laws' helpers; the law MatchingKonig. The law MatchingKonig. The law MatchingGreatest. The law MatchingEntry: weak duality; what Pack stores. Square made matrices: each has its diagonal. -/
import Derived.Test.YtkpillimphadkaaDoorLa

/-! TdNa -/
set_option linter.unusedVariables false
set_option linter.unusedSimpArgs false
namespace Go.Vs.F
variable {E : List (List Int)} {R C : Nat}
/- A failing search marks a closed set. -/
/- A closed set of rows: each is matched, and its column's rows are in the set. -/
end Go.Vs.F

/-! TdNb -/
set_option linter.unusedVariables false
set_option linter.unusedSimpArgs false
namespace Go.Vs.F
variable {E : List (List Int)} {R C : Nat}
end Go.Vs.F

/-! TdNc -/
set_option linter.unusedVariables false
set_option linter.unusedSimpArgs false
namespace Go.Vs.F
variable {E : List (List Int)} {R C : Nat}
/-! ### Counting -/
def cnt (p : Nat → Bool) : Nat → Nat
  | 0 => 0
  | n + 1 => cnt p n + (bif p n then 1 else 0)
/- Setting one more. -/
end Go.Vs.F

/-! TdNd -/
set_option linter.unusedVariables false
set_option linter.unusedSimpArgs false
namespace Go.Vs.F
variable {E : List (List Int)} {R C : Nat} {u : St}
/- A reachable row is matched, and its column is reachable. -/
open Classical in
open Classical in
open Classical in
open Classical in
def mt (row : List Int) (j : Nat) : Bool := decide (0 ≤ row.getD j 0)
/- The matching and the cover prove one another. -/
end Go.Vs.F

/-! TdNe -/
set_option linter.unusedVariables false
set_option linter.unusedSimpArgs false
set_option maxRecDepth 100000
namespace Go.Vs.F
end Go.Vs.F

/-! TdNf -/
set_option linter.unusedVariables false
set_option linter.unusedSimpArgs false
set_option maxRecDepth 100000
namespace Go.Vs.F
end Go.Vs.F

/-! TdNg -/
set_option linter.unusedVariables false
set_option linter.unusedSimpArgs false
set_option maxRecDepth 100000
namespace Go.Vs.F
/- No matching is greater than a cover. -/
end Go.Vs.F

/-! TdNi -/
set_option linter.unusedVariables false
set_option linter.unusedSimpArgs false
set_option maxRecDepth 100000
namespace Go.Vs.F
def Diag (k : Nat) (es : List Ent) : Prop := ∀ i : Nat, i < k → ∃ t, t < es.length ∧ (es.getD t (0, (0, 0))).1 = (i : Int) ∧ (es.getD t (0, (0, 0))).2.1 = (i : Int)
theorem Diag.app {k : Nat} {es zs : List Ent} (h : Diag k es) : Diag k (es ++ zs) := fun i hi => by
  obtain ⟨t, a, b⟩ := h i hi
  refine ⟨t, by simp; omega, ?_⟩
  rw [getD_append_left' a]; exact b
theorem At_eq (l : List Int) (k : Nat) : ∃ x, ∀ m, g12 m l (k : Int) = some (x, (), (), ()) := by
  by_cases h : k < l.length
  · exact ⟨l.getD k 0, fun m => by rw [g12, bif_decide, if_pos (by omega), if_pos (by omega), Int.toNat_natCast]⟩
  · exact ⟨0, fun m => by rw [g12, bif_decide, if_neg (by omega)]⟩
theorem Square_L0 {N : Nat} (hN : N ≤ 100) (l : List Int) (a0 a1 : Int) (a2 a3 a4 : List Int) : ∀ (d k : Nat) (es : List Ent), N - k = d → k ≤ N → EntsOK N N es → es.length = k → Diag k es →
    ∃ es', EntsOK N N es' ∧ es'.length = N ∧ Diag N es' ∧ ∀ m n, 100 ≤ m → d < n → g6_L0 m n (N : Int) l a0 a1 a2 a3 a4 es (k : Int) = some (.inl ((N : Int), l, (a0, a1, a2, a3, a4, ()), es', ()))
  | 0, k, es, hd, hk, hE, hl, hD => by
    have : k = N := by omega
    subst this
    refine ⟨es, hE, hl, hD, fun m n hm hdn => ?_⟩
    obtain ⟨n, rfl⟩ : ∃ n', n = n' + 1 := ⟨n - 1, by omega⟩
    rw [g6_L0, bif_decide, if_neg (by omega)]
  | d + 1, k, es, hd, hk, hE, hl, hD => by
    obtain ⟨x, hx⟩ := At_eq l k
    obtain ⟨v, hv, ev⟩ := Value_good (w_i64 (x + 1))
    obtain ⟨es', g1, g2, g3, g4⟩ := Square_L0 hN l a0 a1 a2 a3 a4 d (k + 1) (es ++ [((k : Int), ((k : Int), v))]) (by omega) (by omega) (hE.snoc (by omega) (by omega) hv) (by simp [hl]) (fun i hi => by
      by_cases e : i = k
      · subst e
        refine ⟨i, by simp; omega, ?_⟩
        rw [getD_append_right' (by omega), show i - es.length = 0 by omega]; exact ⟨rfl, rfl⟩
      · exact hD.app i (by omega))
    refine ⟨es', g1, g2, g3, fun m n hm hdn => ?_⟩
    obtain ⟨n, rfl⟩ : ∃ n', n = n' + 1 := ⟨n - 1, by omega⟩
    rw [g6_L0, bif_decide, if_pos (by omega), hx, show w_i64 ((k : Int) + 1) = ((k + 1 : Nat) : Int) from wsucc (by omega)]
    simp only [Option.bind_some]
    rw [ev m hm]
    simp only [Option.bind_some]
    rw [if_pos (by simp; omega)]
    exact g4 m n hm (by omega)
theorem Square_L1 {N : Nat} (hN : N ≤ 100) (l : List Int) (hl : l.length ≤ 100000) (a0 a1 : Int) (a2 a3 a4 : List Int) : ∀ (d k : Nat) (es : List Ent), l.length - k ≤ d → k ≤ l.length + 200 → EntsOK N N es → es.length ≤ k → Diag N es →
    ∃ es', EntsOK N N es' ∧ es'.length ≤ l.length + 200 ∧ Diag N es' ∧ ∀ m n, 100 ≤ m → d < n → g6_L1 m n (N : Int) l a0 a1 a2 a3 a4 es (k : Int) = some (.inl ((N : Int), (a0, a1, a2, a3, a4, ()), es', ()))
  | d, k, es, hn, hk, hE, hk2, hD => by
    have e2 : w_i64 ((k : Int) + 2) = ((k + 2 : Nat) : Int) := wi (by omega) (by omega)
    have e1 : w_i64 ((k : Int) + 1) = ((k + 1 : Nat) : Int) := wsucc (by omega)
    have e3 : w_i64 ((k : Int) + 3) = ((k + 3 : Nat) : Int) := wi (by omega) (by omega)
    by_cases h : k + 2 < l.length
    · by_cases h1 : 0 < N
      · obtain ⟨i, hi, ei⟩ := Place_eq (a := l.getD k 0) (n := N) h1 (by omega)
        obtain ⟨j, hj, ej⟩ := Place_eq (a := l.getD (k + 1) 0) (n := N) h1 (by omega)
        obtain ⟨v, hv, ev⟩ := Value_good (l.getD (k + 2) 0)
        cases d with
        | zero => omega
        | succ d =>
        obtain ⟨es', g1, g2, g3, g4⟩ := Square_L1 hN l hl a0 a1 a2 a3 a4 d (k + 3) (es ++ [((i : Int), ((j : Int), v))]) (by omega) (by omega) (hE.snoc (by omega) (by omega) hv) (by simp; omega) hD.app
        refine ⟨es', g1, g2, g3, fun m n hm hdn => ?_⟩
        obtain ⟨n, rfl⟩ : ∃ n', n = n' + 1 := ⟨n - 1, by omega⟩
        rw [g6_L1, bif_decide, e2, e1, e3, bif_decide]
        rw [if_pos (by omega), if_pos (by omega), if_pos (by omega), Int.toNat_natCast, Int.toNat_natCast, Int.toNat_natCast, ei, ej, ev m hm]
        simp only [Option.bind_some]
        rw [if_pos (by omega), if_pos (by omega), if_pos (by simp; omega)]
        exact g4 m n hm (by omega)
      · refine ⟨es, hE, by omega, hD, fun m n hm hdn => ?_⟩
        obtain ⟨n, rfl⟩ : ∃ n', n = n' + 1 := ⟨n - 1, by omega⟩
        rw [g6_L1, bif_decide, e2, e1, e3, bif_decide, if_pos (by omega), if_neg (by omega)]
    · refine ⟨es, hE, by omega, hD, fun m n hm hdn => ?_⟩
      obtain ⟨n, rfl⟩ : ∃ n', n = n' + 1 := ⟨n - 1, by omega⟩
      rw [g6_L1, bif_decide, e2, e1, e3, bif_decide, if_neg (by omega)]
theorem Square_eq {N : Nat} (hN : N ≤ 100) {l : List Int} (hl : l.length ≤ 100000) : ∃ es, EntsOK N N es ∧ es.length ≤ l.length + 200 ∧ Diag N es ∧ ∀ m, 2000000 < m →
    g6 m (N : Int) l = some (((N : Int), (N : Int), packS es N N, packI es N N, packV es N N, ()), (), (), ()) := by
  obtain ⟨e1, h1, h2, h3, h4⟩ := Square_L0 hN l 0 0 [] [] [] N 0 [] (by omega) (by omega) (fun k hk => absurd hk (Nat.not_lt_zero _)) rfl (fun i hi => absurd hi (Nat.not_lt_zero _))
  obtain ⟨e2, g1, g2, g3, g4⟩ := Square_L1 hN l hl 0 0 [] [] [] l.length N e1 (by omega) (by omega) h1 (by omega) h3
  refine ⟨e2, g1, g2, g3, fun m hm => ?_⟩
  have h4 := h4 m m (by omega) (by omega)
  simp only [Int.natCast_zero] at h4
  rw [g6, h4]
  simp only [Option.bind_some]
  rw [g4 m m (by omega) (by omega)]
  simp only [Option.bind_some]
  rw [Pack_eq g1 (by omega) (by omega) (by omega) (by omega)]
  rfl
end Go.Vs.F
