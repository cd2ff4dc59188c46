/- The law MatchingGreatest. -/
import Derived.Test.YtokemaifpclkcaaDoorLc

/-! MbNf -/
set_option linter.unusedVariables false
set_option linter.unusedSimpArgs false
set_option maxRecDepth 100000
namespace Go.Vs.F
theorem cnt_grow {p : Nat → Bool} {j n : Nat} (h : j ≤ n) : cnt p j ≤ cnt p n := by
  induction n with
  | zero => have : j = 0 := by omega
            subst this; exact Nat.le_refl _
  | succ n ih =>
    by_cases e : j = n + 1
    · subst e; exact Nat.le_refl _
    · have := ih (by omega); rw [cnt]; omega
theorem cnt_used {r a : Nat} {used : List Bool} {pr : Nat → Bool} (ha : a < r) (hl : used.length = r) (hf : used.getD a false = false) :
    cnt (fun i => (used.set a true).getD i false && pr i) r = cnt (fun i => used.getD i false && pr i) r + (bif pr a then 1 else 0) := by
  have e2 : ∀ i, i < r → ((used.set a true).getD i false && pr i && !(i == a)) = (used.getD i false && pr i) := fun i _ => by
    by_cases e : i = a
    · subst e; rw [hf]; simp
    · rw [getD_set_ne (Ne.symm e)]
      have : (i == a) = false := by simpa using e
      rw [this]; simp
  cases hp : pr a with
  | true =>
    have := cnt_set (p := fun i => (used.set a true).getD i false && pr i) ha (by simp only [getD_set_eq (show a < used.length by omega), hp, Bool.and_self])
    rw [← this, cnt_congr e2]; rfl
  | false =>
    rw [← cnt_congr e2]
    refine cnt_congr fun i hi => ?_
    by_cases e : i = a
    · subst e; rw [hp]; simp
    · have : (i == a) = false := by simpa using e
      rw [this]; simp
theorem Greatest_L0 (m : Nat) (hm : 20000 < m) {r c : Nat} {S I V row : List Int} (hM : MatOK r c S I) (ts : List Int) {pr pc : Nat → Bool} (hcov : ∀ j, j < c → ∀ i ∈ (edgesOf c S I).getD j [], pr i.toNat = true ∨ pc j = true) :
    ∀ (n j n0 : Nat) (used : List Bool), c - j < n → j ≤ c → used.length = r → n0 ≤ cnt (fun i => used.getD i false && pr i) r + cnt pc j →
    ∃ n1 : Nat, sparselaw13_MatchingGreatest_L0 m n ts (r : Int) (c : Int) S I V row used (n0 : Int) (j : Int) = some (.inl (row, (n1 : Int), ())) ∧ n1 ≤ cnt pr r + cnt pc c
  | 0, j, n0, used, h, _, _, _ => absurd h (Nat.not_lt_zero _)
  | n + 1, j, n0, used, h, hj, hl, hn => by
    have hcz := hM.cz
    have hrz := hM.rz
    have hfin : n0 ≤ cnt pr r + cnt pc c := by
      have h1 := cnt_mono (p := fun i => used.getD i false && pr i) (q := pr) (n := r) (fun i _ h => (Bool.and_eq_true_iff.1 h).2)
      have h2 := cnt_grow (p := pc) hj
      omega
    have hlt : n0 ≤ 1000 := by
      have h1 := cnt_le (p := pr) (n := r)
      have h2 := cnt_le (p := pc) (n := c)
      omega
    have g1 := cnt_grow (p := pc) (show j ≤ j + 1 by omega)
    rw [sparselaw13_MatchingGreatest_L0, bif_decide, bif_decide, bif_decide]
    by_cases h1 : j < c
    · rw [if_pos (by omega)]
      by_cases h2 : j < ts.length
      · rw [if_pos (by omega)]
        by_cases h3 : 0 < r
        · obtain ⟨a, ha, ea⟩ := Place_eq (a := ts.getD j 0) (n := r) h3 (by omega)
          rw [if_pos (by omega), if_pos (by omega), Int.toNat_natCast, ea, show w_i64 ((j : Int) + 1) = ((j + 1 : Nat) : Int) from wsucc (by omega), show w_i64 ((n0 : Int) + 1) = ((n0 + 1 : Nat) : Int) from wsucc (by omega)]
          simp only [Option.bind_some, Int.toNat_natCast, Nat.zero_add]
          rw [if_pos (by omega), bif_not]
          cases hu : used.getD a false with
          | true => exact Greatest_L0 m hm hM ts hcov n (j + 1) n0 used (by omega) (by omega) hl (by omega)
          | false =>
            simp only [cond_false]
            rw [Stored_eq hM _ h1 hm]
            simp only [Option.bind_some]
            cases hs : (decide (0 ≤ (a : Int)) && decide ((a : Int) < (r : Int)) && ((edgesOf c S I).getD j []).contains (a : Int)) with
            | false => exact Greatest_L0 m hm hM ts hcov n (j + 1) n0 used (by omega) (by omega) hl (by omega)
            | true =>
              simp only [cond_true]
              rw [if_pos (by omega)]
              refine Greatest_L0 m hm hM ts hcov n (j + 1) (n0 + 1) (used.set a true) (by omega) (by omega) (by simp [hl]) ?_
              rw [cnt_used ha hl hu]
              have hin := List.contains_iff_mem.1 (Bool.and_eq_true_iff.1 hs).2
              have e : cnt pc (j + 1) = cnt pc j + (bif pc j then 1 else 0) := rfl
              rcases hcov j h1 _ hin with h | h
              · rw [Int.toNat_natCast] at h
                rw [h]; simp only [cond_true]; omega
              · rw [e, h]; simp only [cond_true]; omega
        · rw [if_neg (by omega)]; exact ⟨n0, rfl, hfin⟩
      · rw [if_neg (by omega)]; exact ⟨n0, rfl, hfin⟩
    · rw [if_neg (by omega)]; exact ⟨n0, rfl, hfin⟩
theorem rCov {r c : Nat} {S I : List Int} {u : St} (hE : EdgeOK r (edgesOf c S I)) : ∀ j, j < c → ∀ i ∈ (edgesOf c S I).getD j [], rRow (edgesOf c S I) c u i.toNat = true ∨ (!rCol (edgesOf c S I) c u j) = true := fun j hj i hi => by
  have hr := hE j i hi
  by_cases h : Rch (edgesOf c S I) c u.row u.col j
  · exact .inl (rRow_iff.2 ⟨j, h, by rw [show ((i.toNat : Nat) : Int) = i by omega]; exact hi⟩)
  · right
    cases e : rCol (edgesOf c S I) c u j with
    | false => rfl
    | true => exact absurd (rCol_iff.1 e) h
theorem MatchingGreatest_law (R C : Int) (l ts : List Int) : ∃ m, sparselaw13_MatchingGreatest m R C l ts = some (true, (), (), (), (), ()) := by
  by_cases hl : l.length ≤ 90
  · obtain ⟨r, c, es, hr, hc, hE, hes, hmk⟩ := made_eq R C (l := l) (by omega)
    have ha : c * r ≤ 10000 := Nat.le_trans (Nat.mul_le_mul (show c ≤ 100 by omega) (show r ≤ 100 by omega)) (by decide)
    have hk := pack_chk hE (by omega) (by omega) ha
    have hM := pack_ok (es := es) (r := r) (c := c) (by omega) (by omega) ha
    have hsl := hM.st.len
    have hil := hM.sz
    have hvl := packV_len es r c
    obtain ⟨u, hu, g, M, hB⟩ := bothOK hk hM hvl (by omega) (by omega)
    have K := hu.kinv hM.edge kinv0
    obtain ⟨m, hm1, hm2⟩ : ∃ m, M ≤ m ∧ 3000060 ≤ m := ⟨M + 3000060, by omega, by omega⟩
    refine ⟨m, ?_⟩
    obtain ⟨b1, b2, b3, b4⟩ := hB m hm1
    have l0 : u.row.length = c := g.row
    obtain ⟨n1, hL, hn1⟩ := Greatest_L0 m (by omega) (V := packV es r c) (row := u.row) hM ts (rCov (u := u) hM.edge) m 0 0 (List.replicate r false) (by omega) (by omega) (by simp) (Nat.zero_le _)
    rw [konig_cnt hM.edge K] at hn1
    simp only [Int.natCast_zero] at hL
    rw [sparselaw13_MatchingGreatest, bif_decide, if_neg (by omega), hmk _ (by omega)]
    simp only [Option.bind_some, b1, bif_ne, if_true, l0]
    rw [if_pos (by omega), Int.toNat_natCast, hL]
    simp only [Option.bind_some]
    rw [size_eq (by omega) (by omega), l0]
    simp only [Option.bind_some]
    rw [bif_decide, if_pos (by omega), awakeM (by omega)]; rfl
  · refine ⟨60, ?_⟩
    rw [sparselaw13_MatchingGreatest, bif_decide, if_pos (by omega), awakeM (Nat.le_refl _)]; rfl
end Go.Vs.F
