/- Kuhn's algorithm is right: failing searches change nothing and close a set of rows; a successful one augments. Kuhn's algorithm is right: a successful search augments the matching. Koenig: the matching is consistent, no free row is reachable, and the cover has the matching's size. Koenig's theorem for Kuhn's matching and the cover of what is reachable; the laws' helpers; the law MatchingKonig. The law MatchingKonig. The law MatchingGreatest. The law MatchingEntry: weak duality; what Pack stores. Square made matrices: each has its diagonal. -/
import Derived.Test.YtkpillimphadkaaGreatDoorLa

/-! TzNa -/
set_option linter.unusedVariables false
set_option linter.unusedSimpArgs false
namespace Go.Vs.F
variable {E : List (List Int)} {R C : Nat}
theorem Loop.keep {j : Int} {xs : List Int} {s t : St} {b : Bool} (h : Loop E j xs s b t) : b = false → t.row = s.row ∧ t.col = s.col := by
  induction h with
  | nil => exact fun _ => ⟨rfl, rfl⟩
  | skip _ _ ih => exact ih
  | free _ _ => exact fun h => by cases h
  | found _ _ _ _ => exact fun h => by cases h
  | lost _ _ _ _ ih1 ih2 =>
    intro hb
    obtain ⟨a, b⟩ := ih1 rfl
    obtain ⟨c, d⟩ := ih2 hb
    exact ⟨by rw [c, a]; rfl, by rw [d, b]; rfl⟩
theorem set_true_mono {l : List Bool} {k i : Nat} (h : l.getD i false = true) : (l.set k true).getD i false = true := by
  by_cases e : k = i
  · subst e
    by_cases hk : k < l.length
    · rw [getD_set_eq hk]
    · simp [List.getD, List.getElem?_eq_none (Nat.le_of_not_lt hk)] at h
  · rw [getD_set_ne e]; exact h
theorem Loop.marks {j : Int} {xs : List Int} {s t : St} {b : Bool} (h : Loop E j xs s b t) : ∀ i : Nat, s.mr.getD i false = true → t.mr.getD i false = true := by
  induction h with
  | nil => exact fun _ h => h
  | skip _ _ ih => exact ih
  | free _ _ => exact fun i h => set_true_mono h
  | found _ _ _ ih => exact fun i h => ih i (set_true_mono h)
  | lost _ _ _ _ ih1 ih2 => exact fun i h => ih2 i (ih1 i (set_true_mono h))
/- A failing search marks a closed set. -/
theorem Loop.closed {j : Int} {xs : List Int} {s t : St} {b : Bool} (hE : EdgeOK R E) (h : Loop E j xs s b t) : b = false → s.mr.length = R → (∀ i ∈ xs, 0 ≤ i ∧ i < (R : Int)) → s.col.length = R → (∀ i, i < R → s.col.getD i 0 = -1 ∨ 0 ≤ s.col.getD i 0) →
    t.mr.length = R ∧ (∀ i ∈ xs, t.mr.getD i.toNat false = true) ∧ ∀ i : Nat, t.mr.getD i false = true → s.mr.getD i false = true ∨ (s.col.getD i 0 ≠ -1 ∧ ∀ x ∈ E.getD (s.col.getD i 0).toNat [], t.mr.getD x.toNat false = true) := by
  induction h with
  | nil => exact fun _ hl _ _ _ => ⟨hl, fun i hi => (by cases hi), fun i h => .inl h⟩
  | skip h1 h2 ih =>
    intro hb hl hx hc ho
    obtain ⟨a, b, c⟩ := ih hb hl (fun i hi => hx i (List.mem_cons_of_mem _ hi)) hc ho
    refine ⟨a, fun i hi => ?_, c⟩
    rcases List.mem_cons.1 hi with rfl | hi
    · exact h2.marks _ h1
    · exact b i hi
  | free _ _ => exact fun h => by cases h
  | found _ _ _ _ => exact fun h => by cases h
  | @lost j i xs s t u b h1 h2 h3 h4 ih1 ih2 =>
    intro hb hl hx hc ho
    have hi := hx i (List.mem_cons_self ..)
    obtain ⟨k1, k2⟩ := h3.keep rfl
    have hE' : ∀ x ∈ E.getD (s.col.getD i.toNat 0).toNat [], 0 ≤ x ∧ x < (R : Int) := hE _
    obtain ⟨a, b, c⟩ := ih1 rfl (by simp [St.mark, hl]) hE' hc ho
    have hcol : t.col = s.col := k2
    obtain ⟨a', b', c'⟩ := ih2 hb a (fun i hi => hx i (List.mem_cons_of_mem _ hi)) (by rw [hcol]; exact hc) (by rw [hcol]; exact ho)
    rw [hcol] at c'
    have hmi : t.mr.getD i.toNat false = true := h3.marks _ (getD_set_eq (by omega))
    refine ⟨a', fun x hx' => ?_, fun x hx' => ?_⟩
    · rcases List.mem_cons.1 hx' with rfl | hx'
      · exact h4.marks _ hmi
      · exact b' x hx'
    · rcases c' x hx' with h | h
      · rcases c x h with h' | ⟨h', h''⟩
        · by_cases e : i.toNat = x
          · subst e
            exact .inr ⟨h2, fun y hy => h4.marks _ (b y hy)⟩
          · left
            simpa only [St.mark, getD_set_ne e] using h'
        · exact .inr ⟨h', fun y hy => h4.marks _ (h'' y hy)⟩
      · exact .inr h
/- A closed set of rows: each is matched, and its column's rows are in the set. -/
def Closed (E : List (List Int)) (R : Nat) (col : List Int) (Z : Nat → Prop) : Prop := ∀ i, Z i → col.getD i 0 ≠ -1 ∧ ∀ x ∈ E.getD (col.getD i 0).toNat [], Z x.toNat
theorem Loop.closed_false {Z : Nat → Prop} {j : Int} {xs : List Int} {s t : St} {b : Bool} (h : Loop E j xs s b t) : Closed E R s.col Z → (∀ i ∈ xs, Z i.toNat) → b = false := by
  induction h with
  | nil => exact fun _ _ => rfl
  | skip _ _ ih => exact fun hZ hx => ih hZ (fun i hi => hx i (List.mem_cons_of_mem _ hi))
  | free _ h2 => exact fun hZ hx => absurd h2 (hZ _ (hx _ (List.mem_cons_self ..))).1
  | found _ h2 _ ih => exact fun hZ hx => ih hZ (hZ _ (hx _ (List.mem_cons_self ..))).2
  | lost _ h2 h3 _ ih1 ih2 =>
    intro hZ hx
    obtain ⟨k1, k2⟩ := h3.keep rfl
    exact ih2 (by rw [k2]; exact hZ) (fun i hi => hx i (List.mem_cons_of_mem _ hi))
theorem Loop.closed_keep {Z : Nat → Prop} {j : Int} {xs : List Int} {s t : St} {b : Bool} (h : Loop E j xs s b t) : Closed E R s.col Z → ∀ i, Z i → t.col.getD i 0 = s.col.getD i 0 := by
  induction h with
  | nil => exact fun _ _ _ => rfl
  | skip _ _ ih => exact ih
  | @free j i xs s h1 h2 =>
    intro hZ x hx
    by_cases e : i.toNat = x
    · subst e; exact absurd h2 (hZ _ hx).1
    · simp only [St.put, St.mark, getD_set_ne e]
  | @found j i xs s t h1 h2 h3 ih =>
    intro hZ x hx
    by_cases e : i.toNat = x
    · subst e
      exact absurd (h3.closed_false (R := R) (Z := Z) hZ (hZ _ hx).2) (by simp)
    · simp only [St.put, getD_set_ne e]
      exact ih hZ x hx
  | @lost j i xs s t u b h1 h2 h3 h4 ih1 ih2 =>
    intro hZ x hx
    obtain ⟨k1, k2⟩ := h3.keep rfl
    rw [ih2 (by rw [k2]; exact hZ) x hx, k2]; rfl
end Go.Vs.F

/-! TzNb -/
set_option linter.unusedVariables false
set_option linter.unusedSimpArgs false
namespace Go.Vs.F
variable {E : List (List Int)} {R C : Nat}
structure Cons (E : List (List Int)) (R C : Nat) (row col : List Int) : Prop where
  a : ∀ i : Nat, i < R → 0 ≤ col.getD i 0 → row.getD (col.getD i 0).toNat 0 = (i : Int)
  b : ∀ j : Nat, j < C → 0 ≤ row.getD j 0 → col.getD (row.getD j 0).toNat 0 = (j : Int)
  e : ∀ j : Nat, j < C → 0 ≤ row.getD j 0 → row.getD j 0 ∈ E.getD j []
structure Aug (E : List (List Int)) (R C : Nat) (j : Nat) (s t : St) : Prop where
  a : ∀ i : Nat, i < R → 0 ≤ t.col.getD i 0 → t.row.getD (t.col.getD i 0).toNat 0 = (i : Int) ∨ (s.row.getD j 0 = (i : Int) ∧ t.col.getD i 0 = (j : Int))
  b : ∀ y : Nat, y < C → 0 ≤ t.row.getD y 0 → t.col.getD (t.row.getD y 0).toNat 0 = (y : Int)
  e : ∀ y : Nat, y < C → 0 ≤ t.row.getD y 0 → t.row.getD y 0 ∈ E.getD y []
  m : ∀ i : Nat, i < R → s.mr.getD i false = true → t.col.getD i 0 = s.col.getD i 0
  n : 0 ≤ t.row.getD j 0 ∧ s.mr.getD (t.row.getD j 0).toNat false = false
  r : ∀ y : Nat, y < C → y ≠ j → (s.row.getD y 0 = -1 ∨ s.mr.getD (s.row.getD y 0).toNat false = true) → t.row.getD y 0 = s.row.getD y 0
  q : ∀ y : Nat, y < C → 0 ≤ s.row.getD y 0 → 0 ≤ t.row.getD y 0
theorem put_row_eq {s : St} {j i : Int} (h : j.toNat < s.row.length) : (s.put j i).row.getD j.toNat 0 = i := by
  simp only [St.put]; exact getD_set_eq h
theorem put_row_ne {s : St} {j i : Int} {k : Nat} (h : j.toNat ≠ k) : (s.put j i).row.getD k 0 = s.row.getD k 0 := by
  simp only [St.put]; exact getD_set_ne h
theorem put_col_eq {s : St} {j i : Int} (h : i.toNat < s.col.length) : (s.put j i).col.getD i.toNat 0 = j := by
  simp only [St.put]; exact getD_set_eq h
theorem put_col_ne {s : St} {j i : Int} {k : Nat} (h : i.toNat ≠ k) : (s.put j i).col.getD k 0 = s.col.getD k 0 := by
  simp only [St.put]; exact getD_set_ne h
theorem Loop.aug {j : Int} {xs : List Int} {s t : St} {b : Bool} (hE : EdgeOK R E) (h : Loop E j xs s b t) : b = true → Good R C s → Cons E R C s.row s.col → 0 ≤ j ∧ j < (C : Int) → (∀ i ∈ xs, 0 ≤ i ∧ i < (R : Int)) → (∀ i ∈ xs, i ∈ E.getD j.toNat []) →
    (s.row.getD j.toNat 0 = -1 ∨ s.mr.getD (s.row.getD j.toNat 0).toNat false = true) → Aug E R C j.toNat s t := by
  induction h with
  | nil => exact fun h => by cases h
  | skip h1 h2 ih =>
    intro hb g c hj hx hm hp
    exact ih hb g c hj (fun i hi => hx i (List.mem_cons_of_mem _ hi)) (fun i hi => hm i (List.mem_cons_of_mem _ hi)) hp
  | @free j i xs s h1 h2 =>
    intro _ g c hj hx hm hp
    have hi := hx i (List.mem_cons_self ..)
    have hmi := hm i (List.mem_cons_self ..)
    have lr : j.toNat < (s.mark i).row.length := by show j.toNat < s.row.length; rw [g.row]; omega
    have lc : i.toNat < (s.mark i).col.length := by show i.toNat < s.col.length; rw [g.col]; omega
    have ej : ((j.toNat : Nat) : Int) = j := by omega
    have ei : ((i.toNat : Nat) : Int) = i := by omega
    refine ⟨?_, ?_, ?_, ?_, ?_, ?_, ?_⟩
    · intro x hx h0
      by_cases ex : i.toNat = x
      · subst ex
        left; rw [put_col_eq lc, put_row_eq lr, ei]
      · rw [put_col_ne ex] at h0 ⊢
        have h0' : 0 ≤ s.col.getD x 0 := h0
        have ha := c.a x hx h0'
        by_cases ey : j.toNat = ((s.mark i).col.getD x 0).toNat
        · right
          have ey' : j.toNat = (s.col.getD x 0).toNat := ey
          refine ⟨by rw [ey']; exact ha, ?_⟩
          show s.col.getD x 0 = _
          omega
        · left; rw [put_row_ne ey]; exact ha
    · intro y hy h0
      by_cases ey : j.toNat = y
      · subst ey
        rw [put_row_eq lr, put_col_eq lc, ej]
      · rw [put_row_ne ey] at h0 ⊢
        have h0' : 0 ≤ s.row.getD y 0 := h0
        have hb := c.b y hy h0'
        by_cases ex : i.toNat = ((s.mark i).row.getD y 0).toNat
        · have ex' : i.toNat = (s.row.getD y 0).toNat := ex
          rw [← ex', h2] at hb; omega
        · rw [put_col_ne ex]; exact hb
    · intro y hy h0
      by_cases ey : j.toNat = y
      · subst ey; rw [put_row_eq lr]; exact hmi
      · rw [put_row_ne ey] at h0 ⊢; exact c.e y hy h0
    · intro x hx hmx
      have ex : i.toNat ≠ x := fun e => by subst e; rw [h1] at hmx; cases hmx
      rw [put_col_ne ex]; rfl
    · rw [put_row_eq lr]; exact ⟨hi.1, h1⟩
    · intro y hy hyj _
      rw [put_row_ne (Ne.symm hyj)]; rfl
    · intro y hy h0
      by_cases ey : j.toNat = y
      · subst ey; rw [put_row_eq lr]; exact hi.1
      · rw [put_row_ne ey]; exact h0
  | @found j i xs s t h1 h2 h3 ih =>
    intro _ g c hj hx hm hp
    have hi := hx i (List.mem_cons_self ..)
    have hmi := hm i (List.mem_cons_self ..)
    have hc1 := (g.ok i.toNat (by omega)).resolve_left h2
    have gt := h3.good hE (g.mark i) hc1 (hE _)
    have lr : j.toNat < t.row.length := by rw [gt.row]; omega
    have lc : i.toNat < t.col.length := by rw [gt.col]; omega
    have ej : ((j.toNat : Nat) : Int) = j := by omega
    have ei : ((i.toNat : Nat) : Int) = i := by omega
    have r1 : s.row.getD (s.col.getD i.toNat 0).toNat 0 = i := by rw [c.a i.toNat (by omega) hc1.1, ei]
    have mi : (s.mark i).mr.getD i.toNat false = true := by
      show (s.mr.set i.toNat true).getD i.toNat false = true
      exact getD_set_eq (by rw [g.mr]; omega)
    have mm : ∀ x : Nat, s.mr.getD x false = true → (s.mark i).mr.getD x false = true := fun x h => set_true_mono h
    have n1 : (s.col.getD i.toNat 0).toNat ≠ j.toNat := by
      intro e
      rw [e] at r1
      rcases hp with h | h
      · omega
      · rw [r1, h1] at h; cases h
    have A := ih rfl (g.mark i) c hc1 (hE _) (fun _ h => h) (.inr (by show (s.mark i).mr.getD (s.row.getD _ 0).toNat false = true; rw [r1]; exact mi))
    refine ⟨?_, ?_, ?_, ?_, ?_, ?_, ?_⟩
    · intro x hx h0
      by_cases ex : i.toNat = x
      · subst ex
        left; rw [put_col_eq lc, put_row_eq lr, ei]
      · rw [put_col_ne ex] at h0 ⊢
        rcases A.a x hx h0 with ha | ⟨ha, _⟩
        · by_cases ey : j.toNat = (t.col.getD x 0).toNat
          · right
            have hr := A.r j.toNat (by omega) (Ne.symm n1) (hp.imp id (mm _))
            refine ⟨?_, by omega⟩
            rw [← ha, ← ey]; exact hr.symm
          · left; rw [put_row_ne ey]; exact ha
        · have : s.row.getD (s.col.getD i.toNat 0).toNat 0 = (x : Int) := ha
          omega
    · intro y hy h0
      by_cases ey : j.toNat = y
      · subst ey
        rw [put_row_eq lr, put_col_eq lc, ej]
      · rw [put_row_ne ey] at h0 ⊢
        have hb := A.b y hy h0
        by_cases ex : i.toNat = (t.row.getD y 0).toNat
        · have hcm : t.col.getD i.toNat 0 = s.col.getD i.toNat 0 := A.m i.toNat (by omega) mi
          rw [← ex, hcm] at hb
          have hn := A.n.2
          rw [hb, Int.toNat_natCast, ← ex, mi] at hn; cases hn
        · rw [put_col_ne ex]; exact hb
    · intro y hy h0
      by_cases ey : j.toNat = y
      · subst ey; rw [put_row_eq lr]; exact hmi
      · rw [put_row_ne ey] at h0 ⊢; exact A.e y hy h0
    · intro x hx hmx
      have ex : i.toNat ≠ x := fun e => by subst e; rw [h1] at hmx; cases hmx
      rw [put_col_ne ex]; exact A.m x hx (mm x hmx)
    · rw [put_row_eq lr]; exact ⟨hi.1, h1⟩
    · intro y hy hyj hcond
      rw [put_row_ne (Ne.symm hyj)]
      refine A.r y hy (fun e => ?_) (hcond.imp id (mm _))
      rw [e, r1] at hcond
      rcases hcond with h | h
      · omega
      · rw [h1] at h; cases h
    · intro y hy h0
      by_cases ey : j.toNat = y
      · subst ey; rw [put_row_eq lr]; exact hi.1
      · rw [put_row_ne ey]; exact A.q y hy h0
  | @lost j i xs s t u b h1 h2 h3 h4 ih1 ih2 =>
    intro hb g c hj hx hm hp
    have hi := hx i (List.mem_cons_self ..)
    have hc1 := (g.ok i.toNat (by omega)).resolve_left h2
    have gt := h3.good hE (g.mark i) hc1 (hE _)
    obtain ⟨k1, k2⟩ := h3.keep rfl
    have k1' : t.row = s.row := k1
    have k2' : t.col = s.col := k2
    have mm : ∀ x : Nat, s.mr.getD x false = true → t.mr.getD x false = true := fun x h => h3.marks x (set_true_mono h)
    have A := ih2 hb gt (by rw [k1', k2']; exact c) hj (fun i hi => hx i (List.mem_cons_of_mem _ hi)) (fun i hi => hm i (List.mem_cons_of_mem _ hi)) (by rw [k1']; exact hp.imp id (mm _))
    refine ⟨?_, A.b, A.e, ?_, ⟨A.n.1, ?_⟩, ?_, ?_⟩
    · have := A.a; rwa [k1'] at this
    · intro x hx h; rw [A.m x hx (mm x h), k2']
    · have h := A.n.2
      cases hq : s.mr.getD (u.row.getD j.toNat 0).toNat false with
      | false => rfl
      | true => rw [mm _ hq] at h; cases h
    · have := A.r; rw [k1'] at this
      exact fun y hy hyj hc => this y hy hyj (hc.imp id (mm _))
    · have := A.q; rwa [k1'] at this
end Go.Vs.F

/-! TzNc -/
set_option linter.unusedVariables false
set_option linter.unusedSimpArgs false
namespace Go.Vs.F
variable {E : List (List Int)} {R C : Nat}
structure KInv (E : List (List Int)) (R C k : Nat) (s : St) : Prop where
  good : Good R C (s.fresh R)
  cons : Cons E R C s.row s.col
  un : ∀ j : Nat, k ≤ j → j < C → s.row.getD j 0 = -1
  z : ∃ Z : Nat → Prop, Closed E R s.col Z ∧ ∀ j : Nat, j < k → s.row.getD j 0 = -1 → ∀ x ∈ E.getD j [], Z x.toNat
theorem KInv.step (hE : EdgeOK R E) {k : Nat} (hk : k < C) {s t : St} {b : Bool} (I : KInv E R C k s) (h : Loop E (k : Int) (E.getD k []) (s.fresh R) b t) : KInv E R C (k + 1) t := by
  have g := I.good
  have gt := h.good hE g (by omega) (hE _)
  obtain ⟨Z, z1, z2⟩ := I.z
  have un := I.un k (Nat.le_refl _) hk
  cases b with
  | false =>
    obtain ⟨k1, k2⟩ := h.keep rfl
    have k1' : t.row = s.row := k1
    have k2' : t.col = s.col := k2
    obtain ⟨a, b, c⟩ := h.closed hE rfl g.mr (hE _) g.col (fun i hi => (g.ok i hi).imp id (fun h => h.1))
    have nof : ∀ i : Nat, (s.fresh R).mr.getD i false = false := fun i => by
      show (List.replicate R false).getD i false = false
      by_cases hi : i < R
      · exact getD_replicate hi
      · simp [List.getD, hi]
    have c' : ∀ i : Nat, t.mr.getD i false = true → s.col.getD i 0 ≠ -1 ∧ ∀ x ∈ E.getD (s.col.getD i 0).toNat [], t.mr.getD x.toNat false = true := fun i hi => by
      rcases c i hi with h | h
      · rw [nof i] at h; cases h
      · exact h
    refine ⟨gt.fresh, by rw [k1', k2']; exact I.cons, fun j h1 h2 => by rw [k1']; exact I.un j (by omega) h2, fun i => Z i ∨ t.mr.getD i false = true, ?_, ?_⟩
    · intro i hi
      rw [k2']
      rcases hi with hi | hi
      · exact ⟨(z1 i hi).1, fun x hx => .inl ((z1 i hi).2 x hx)⟩
      · exact ⟨(c' i hi).1, fun x hx => .inr ((c' i hi).2 x hx)⟩
    · intro j hj hr x hx
      rw [k1'] at hr
      by_cases e : j = k
      · subst e; exact .inr (b x hx)
      · exact .inl (z2 j (by omega) hr x hx)
  | true =>
    have A := h.aug hE rfl g I.cons (by omega) (hE _) (fun _ h => h) (.inl un)
    simp only [Int.toNat_natCast] at A
    refine ⟨gt.fresh, ⟨fun i hi h0 => ?_, A.b, A.e⟩, fun j h1 h2 => ?_, Z, ?_, ?_⟩
    · rcases A.a i hi h0 with h | ⟨h, _⟩
      · exact h
      · have : s.row.getD k 0 = (i : Int) := h
        omega
    · have := I.un j (by omega) h2
      rw [A.r j h2 (by omega) (.inl this)]; exact this
    · intro i hi
      have : t.col.getD i 0 = s.col.getD i 0 := h.closed_keep (R := R) (Z := Z) z1 i hi
      rw [this]; exact z1 i hi
    · intro j hj hr x hx
      by_cases e : j = k
      · subst e; have := A.n.1; omega
      · refine z2 j (by omega) ?_ x hx
        rcases g.rok j (by omega) with h | h
        · exact h
        · have := A.q j (by omega) h.1; omega
theorem All.kinv (hE : EdgeOK R E) {k : Nat} {s u : St} (h : All E R C k s u) : KInv E R C k s → KInv E R C C u := by
  induction h with
  | done => exact id
  | step hk h _ ih => exact fun I => ih (I.step hE hk h)
theorem kinv0 : KInv E R C 0 (st0 R C) := by
  refine ⟨st0_good, ⟨fun i hi h => ?_, fun j hj h => ?_, fun j hj h => ?_⟩, fun j _ hj => getD_replicate hj, fun _ => False, fun i h => h.elim, fun j hj => absurd hj (Nat.not_lt_zero _)⟩
  · rw [show (st0 R C).col.getD i 0 = -1 from getD_replicate hi] at h; omega
  · rw [show (st0 R C).row.getD j 0 = -1 from getD_replicate hj] at h; omega
  · rw [show (st0 R C).row.getD j 0 = -1 from getD_replicate hj] at h; omega
/-! ### Counting -/
def cnt (p : Nat → Bool) : Nat → Nat
  | 0 => 0
  | n + 1 => cnt p n + (bif p n then 1 else 0)
theorem cnt_congr {p q : Nat → Bool} : ∀ {n : Nat}, (∀ i, i < n → p i = q i) → cnt p n = cnt q n
  | 0, _ => rfl
  | n + 1, h => by rw [cnt, cnt, cnt_congr fun i hi => h i (by omega), h n (by omega)]
theorem cnt_mono {p q : Nat → Bool} : ∀ {n : Nat}, (∀ i, i < n → p i = true → q i = true) → cnt p n ≤ cnt q n
  | 0, _ => Nat.le_refl _
  | n + 1, h => by
    have := cnt_mono (p := p) (q := q) (n := n) fun i hi => h i (by omega)
    have h' := h n (by omega)
    rw [cnt, cnt]
    cases hp : p n <;> cases hq : q n <;> simp_all <;> omega
theorem cnt_le {p : Nat → Bool} : ∀ {n : Nat}, cnt p n ≤ n
  | 0 => Nat.le_refl _
  | n + 1 => by have := cnt_le (p := p) (n := n); rw [cnt]; cases p n <;> simp <;> omega
theorem cnt_split (p q : Nat → Bool) : ∀ n, cnt p n = cnt (fun i => p i && q i) n + cnt (fun i => p i && !q i) n
  | 0 => rfl
  | n + 1 => by
    have := cnt_split p q n
    simp only [cnt]
    cases p n <;> cases q n <;> simp <;> omega
/- Setting one more. -/
theorem cnt_set {p : Nat → Bool} {a : Nat} : ∀ {n : Nat}, a < n → p a = true → cnt (fun i => p i && !(i == a)) n + 1 = cnt p n
  | 0, h, _ => absurd h (Nat.not_lt_zero _)
  | n + 1, h, hp => by
    simp only [cnt]
    by_cases e : a = n
    · subst e
      have : cnt (fun i => p i && !(i == a)) a = cnt p a := cnt_congr fun i hi => by
        have : (i == a) = false := by simp; omega
        simp [this]
      rw [this]; simp [hp]
    · have ih := cnt_set (p := p) (a := a) (n := n) (by omega) hp
      have : (n == a) = false := by simp; omega
      simp only [this, Bool.not_false, Bool.and_true]
      omega
theorem cnt_inj {f : Nat → Nat} {m : Nat} {p : Nat → Bool} : ∀ {n : Nat} {q : Nat → Bool}, (∀ i, i < n → p i = true → f i < m ∧ q (f i) = true) → (∀ i j, i < n → j < n → p i = true → p j = true → f i = f j → i = j) → cnt p n ≤ cnt q m
  | 0, q, _, _ => Nat.zero_le _
  | n + 1, q, h1, h2 => by
    rw [cnt]
    cases hp : p n with
    | false => exact cnt_inj (fun i hi => h1 i (by omega)) (fun i j hi hj => h2 i j (by omega) (by omega))
    | true =>
      obtain ⟨g1, g2⟩ := h1 n (by omega) hp
      have := cnt_set g1 g2
      have ih := cnt_inj (f := f) (m := m) (p := p) (n := n) (q := fun i => q i && !(i == f n)) (fun i hi hpi => by
        obtain ⟨a, b⟩ := h1 i (by omega) hpi
        refine ⟨a, ?_⟩
        have : f i ≠ f n := fun e => by have := h2 i n (by omega) (by omega) hpi hp e; omega
        simp [b, this]) (fun i j hi hj => h2 i j (by omega) (by omega))
      simp only [cond_true]
      omega
end Go.Vs.F

/-! TzNd -/
set_option linter.unusedVariables false
set_option linter.unusedSimpArgs false
namespace Go.Vs.F
variable {E : List (List Int)} {R C : Nat} {u : St}
theorem KInv.closedRch (I : KInv E R C C u) : ∃ Z : Nat → Prop, Closed E R u.col Z ∧ ∀ j, Rch E C u.row u.col j → ∀ x ∈ E.getD j [], Z x.toNat := by
  obtain ⟨Z, z1, z2⟩ := I.z
  refine ⟨Z, z1, fun j h => ?_⟩
  induction h with
  | base h1 h2 => exact z2 _ h1 h2
  | step h1 h2 h3 ih => exact (z1 _ (ih _ h2)).2
/- A reachable row is matched, and its column is reachable. -/
theorem KInv.reach (hE : EdgeOK R E) (I : KInv E R C C u) {j : Nat} (h : Rch E C u.row u.col j) {x : Int} (hx : x ∈ E.getD j []) : (0 ≤ u.col.getD x.toNat 0 ∧ u.col.getD x.toNat 0 < (C : Int)) ∧ Rch E C u.row u.col (u.col.getD x.toNat 0).toNat := by
  obtain ⟨Z, z1, z2⟩ := I.closedRch
  have hr := hE j x hx
  have h1 := (z1 _ (z2 j h x hx)).1
  exact ⟨(I.good.ok x.toNat (by omega)).resolve_left h1, .step h hx h1⟩
open Classical in
noncomputable def rRow (E : List (List Int)) (C : Nat) (u : St) (i : Nat) : Bool := decide (∃ j, Rch E C u.row u.col j ∧ (i : Int) ∈ E.getD j [])
open Classical in
noncomputable def rCol (E : List (List Int)) (C : Nat) (u : St) (j : Nat) : Bool := decide (Rch E C u.row u.col j)
open Classical in
theorem rRow_iff {i : Nat} : rRow E C u i = true ↔ ∃ j, Rch E C u.row u.col j ∧ (i : Int) ∈ E.getD j [] := by unfold rRow; exact decide_eq_true_iff
open Classical in
theorem rCol_iff {j : Nat} : rCol E C u j = true ↔ Rch E C u.row u.col j := by unfold rCol; exact decide_eq_true_iff
def mt (row : List Int) (j : Nat) : Bool := decide (0 ≤ row.getD j 0)
theorem konig_cnt (hE : EdgeOK R E) (I : KInv E R C C u) : cnt (rRow E C u) R + cnt (fun j => !rCol E C u j) C = cnt (mt u.row) C := by
  rw [cnt_split (mt u.row) (rCol E C u) C]
  have e2 : cnt (fun i => mt u.row i && !rCol E C u i) C = cnt (fun j => !rCol E C u j) C := cnt_congr fun j hj => by
    cases hr : rCol E C u j with
    | true => simp
    | false =>
      have : mt u.row j = true := by
        unfold mt; rw [decide_eq_true_eq]
        rcases I.good.rok j hj with h | h
        · have : Rch E C u.row u.col j := .base hj h
          have h2 : rCol E C u j = true := rCol_iff.2 this
          rw [h2] at hr; cases hr
        · exact h.1
      simp [this]
  have a1 : cnt (rRow E C u) R ≤ cnt (fun i => mt u.row i && rCol E C u i) C := by
    refine cnt_inj (f := fun i => (u.col.getD i 0).toNat) (fun i hi hp => ?_) (fun i j hi hj hp hq e => ?_)
    · obtain ⟨j, h1, h2⟩ := rRow_iff.1 hp
      obtain ⟨g1, g2⟩ := I.reach hE h1 h2
      simp only [Int.toNat_natCast] at g1 g2
      refine ⟨by omega, ?_⟩
      simp only [Bool.and_eq_true]
      refine ⟨?_, rCol_iff.2 g2⟩
      unfold mt; rw [decide_eq_true_eq, I.cons.a i hi g1.1]; omega
    · obtain ⟨j1, h1, h2⟩ := rRow_iff.1 hp
      obtain ⟨j2, h3, h4⟩ := rRow_iff.1 hq
      obtain ⟨g1, _⟩ := I.reach hE h1 h2
      obtain ⟨g2, _⟩ := I.reach hE h3 h4
      simp only [Int.toNat_natCast] at g1 g2
      have b1 := I.cons.a i hi g1.1
      have b2 := I.cons.a j hj g2.1
      have e' : (u.col.getD i 0).toNat = (u.col.getD j 0).toNat := e
      rw [e', b2] at b1; omega
  have a2 : cnt (fun i => mt u.row i && rCol E C u i) C ≤ cnt (rRow E C u) R := by
    refine cnt_inj (f := fun j => (u.row.getD j 0).toNat) (fun j hj hp => ?_) (fun i j hi hj hp hq e => ?_)
    · simp only [Bool.and_eq_true] at hp
      have hm : 0 ≤ u.row.getD j 0 := of_decide_eq_true hp.1
      have hr : Rch E C u.row u.col j := rCol_iff.1 hp.2
      have hlt : u.row.getD j 0 < (R : Int) := by
        rcases I.good.rok j hj with h | h
        · have h' : u.row.getD j 0 = -1 := h
          omega
        · exact h.2
      refine ⟨by omega, ?_⟩
      cases hr with
      | base _ h2 => omega
      | @step j' i h1 h2 h3 =>
        have hi := hE j' i h2
        obtain ⟨g1, _⟩ := I.reach hE h1 h2
        have := I.cons.a i.toNat (by omega) g1.1
        refine rRow_iff.2 ⟨j', h1, ?_⟩
        rw [this, Int.toNat_natCast, show ((i.toNat : Nat) : Int) = i by omega]
        exact h2
    · simp only [Bool.and_eq_true] at hp hq
      have hm : 0 ≤ u.row.getD i 0 := of_decide_eq_true hp.1
      have hn : 0 ≤ u.row.getD j 0 := of_decide_eq_true hq.1
      have b1 := I.cons.b i hi hm
      have b2 := I.cons.b j hj hn
      have e' : (u.row.getD i 0).toNat = (u.row.getD j 0).toNat := e
      rw [e', b2] at b1; omega
  rw [e2]; omega
/- The matching and the cover prove one another. -/
end Go.Vs.F

/-! TzNe -/
set_option linter.unusedVariables false
set_option linter.unusedSimpArgs false
set_option maxRecDepth 100000
namespace Go.Vs.F
end Go.Vs.F

/-! TzNf -/
set_option linter.unusedVariables false
set_option linter.unusedSimpArgs false
set_option maxRecDepth 100000
namespace Go.Vs.F
theorem rCov {r c : Nat} {S I : List Int} {u : St} (hE : EdgeOK r (edgesOf c S I)) : ∀ j, j < c → ∀ i ∈ (edgesOf c S I).getD j [], rRow (edgesOf c S I) c u i.toNat = true ∨ (!rCol (edgesOf c S I) c u j) = true := fun j hj i hi => by
  have hr := hE j i hi
  by_cases h : Rch (edgesOf c S I) c u.row u.col j
  · exact .inl (rRow_iff.2 ⟨j, h, by rw [show ((i.toNat : Nat) : Int) = i by omega]; exact hi⟩)
  · right
    cases e : rCol (edgesOf c S I) c u j with
    | false => rfl
    | true => exact absurd (rCol_iff.1 e) h
end Go.Vs.F

/-! TzNg -/
set_option linter.unusedVariables false
set_option linter.unusedSimpArgs false
set_option maxRecDepth 100000
namespace Go.Vs.F
/- No matching is greater than a cover. -/
theorem lastIx_pos {es : List Ent} {i j : Nat} : ∀ {t : Nat}, 0 < lastIx es i j t ↔ ∃ k, k < t ∧ (es.getD k (0, (0, 0))).1 = (i : Int) ∧ (es.getD k (0, (0, 0))).2.1 = (j : Int)
  | 0 => by simp [lastIx]
  | t + 1 => by
    rw [lastIx]
    by_cases h : (es.getD t (0, (0, 0))).1 = (i : Int) ∧ (es.getD t (0, (0, 0))).2.1 = (j : Int)
    · rw [if_pos h]; exact ⟨fun _ => ⟨t, by omega, h⟩, fun _ => by omega⟩
    · rw [if_neg h, lastIx_pos]
      constructor
      · rintro ⟨k, a, b⟩; exact ⟨k, by omega, b⟩
      · rintro ⟨k, a, b⟩
        by_cases e : k = t
        · subst e; exact absurd b h
        · exact ⟨k, by omega, b⟩
theorem pack_edge {es : List Ent} {r c j : Nat} (hE : EntsOK r c es) (hj : j < c) {x : Int} : x ∈ (edgesOf c (packS es r c) (packI es r c)).getD j [] ↔ ∃ k, k < es.length ∧ (es.getD k (0, (0, 0))).1 = x ∧ (es.getD k (0, (0, 0))).2.1 = (j : Int) := by
  rw [edgesOf_get hj, pack_colOf hj]
  unfold colI colR
  simp only [List.mem_map, List.mem_filter, List.mem_range'_1, decide_eq_true_eq]
  constructor
  · rintro ⟨i, ⟨h1, h2⟩, rfl⟩
    exact lastIx_pos.1 h2
  · rintro ⟨k, h1, h2, h3⟩
    obtain ⟨⟨a, b⟩, _⟩ := hE k h1
    refine ⟨x.toNat, ⟨⟨by omega, by omega⟩, lastIx_pos.2 ⟨k, h1, ?_, h3⟩⟩, by omega⟩
    omega
end Go.Vs.F

/-! TzNi -/
set_option linter.unusedVariables false
set_option linter.unusedSimpArgs false
set_option maxRecDepth 100000
namespace Go.Vs.F
end Go.Vs.F
