/- Square made matrices: each has its diagonal. The law MatchingProof. The law MatchingProof. -/
import Derived.Test.YtokemaifpclkcaaDoorLe

/-! MbNi -/
set_option linter.unusedVariables false
set_option linter.unusedSimpArgs false
set_option maxRecDepth 100000
namespace Go.Vs.F
def Diag (k : Nat) (es : List Ent) : Prop := ∀ i : Nat, i < k → ∃ t, t < es.length ∧ (es.getD t (0, (0, 0))).1 = (i : Int) ∧ (es.getD t (0, (0, 0))).2.1 = (i : Int)
theorem Diag.app {k : Nat} {es zs : List Ent} (h : Diag k es) : Diag k (es ++ zs) := fun i hi => by
  obtain ⟨t, a, b⟩ := h i hi
  refine ⟨t, by simp; omega, ?_⟩
  rw [getD_append_left' a]; exact b
theorem At_eq (l : List Int) (k : Nat) : ∃ x, ∀ m, sparsemake_At m l (k : Int) = some (x, (), (), ()) := by
  by_cases h : k < l.length
  · exact ⟨l.getD k 0, fun m => by rw [sparsemake_At, bif_decide, if_pos (by omega), if_pos (by omega), Int.toNat_natCast]⟩
  · exact ⟨0, fun m => by rw [sparsemake_At, bif_decide, if_neg (by omega)]⟩
theorem Square_L0 {N : Nat} (hN : N ≤ 100) (l : List Int) (a0 a1 : Int) (a2 a3 a4 : List Int) : ∀ (d k : Nat) (es : List Ent), N - k = d → k ≤ N → EntsOK N N es → es.length = k → Diag k es →
    ∃ es', EntsOK N N es' ∧ es'.length = N ∧ Diag N es' ∧ ∀ m n, 100 ≤ m → d < n → sparsemake_Square_L0 m n (N : Int) l a0 a1 a2 a3 a4 es (k : Int) = some (.inl ((N : Int), l, (a0, a1, a2, a3, a4, ()), es', ()))
  | 0, k, es, hd, hk, hE, hl, hD => by
    have : k = N := by omega
    subst this
    refine ⟨es, hE, hl, hD, fun m n hm hdn => ?_⟩
    obtain ⟨n, rfl⟩ : ∃ n', n = n' + 1 := ⟨n - 1, by omega⟩
    rw [sparsemake_Square_L0, bif_decide, if_neg (by omega)]
  | d + 1, k, es, hd, hk, hE, hl, hD => by
    obtain ⟨x, hx⟩ := At_eq l k
    obtain ⟨v, hv, ev⟩ := Value_eq (w_i64 (x + 1))
    obtain ⟨es', g1, g2, g3, g4⟩ := Square_L0 hN l a0 a1 a2 a3 a4 d (k + 1) (es ++ [((k : Int), ((k : Int), v))]) (by omega) (by omega) (hE.snoc (by omega) (by omega) hv) (by simp [hl]) (fun i hi => by
      by_cases e : i = k
      · subst e
        refine ⟨i, by simp; omega, ?_⟩
        rw [getD_append_right' (by omega), show i - es.length = 0 by omega]; exact ⟨rfl, rfl⟩
      · exact hD.app i (by omega))
    refine ⟨es', g1, g2, g3, fun m n hm hdn => ?_⟩
    obtain ⟨n, rfl⟩ : ∃ n', n = n' + 1 := ⟨n - 1, by omega⟩
    rw [sparsemake_Square_L0, bif_decide, if_pos (by omega), hx, show w_i64 ((k : Int) + 1) = ((k + 1 : Nat) : Int) from wsucc (by omega)]
    simp only [Option.bind_some]
    rw [ev m hm]
    simp only [Option.bind_some]
    rw [if_pos (by simp; omega)]
    exact g4 m n hm (by omega)
theorem Square_L1 {N : Nat} (hN : N ≤ 100) (l : List Int) (hl : l.length ≤ 100000) (a0 a1 : Int) (a2 a3 a4 : List Int) : ∀ (d k : Nat) (es : List Ent), l.length - k ≤ d → k ≤ l.length + 200 → EntsOK N N es → es.length ≤ k → Diag N es →
    ∃ es', EntsOK N N es' ∧ es'.length ≤ l.length + 200 ∧ Diag N es' ∧ ∀ m n, 100 ≤ m → d < n → sparsemake_Square_L1 m n (N : Int) l a0 a1 a2 a3 a4 es (k : Int) = some (.inl ((N : Int), (a0, a1, a2, a3, a4, ()), es', ()))
  | d, k, es, hn, hk, hE, hk2, hD => by
    have e2 : w_i64 ((k : Int) + 2) = ((k + 2 : Nat) : Int) := wi (by omega) (by omega)
    have e1 : w_i64 ((k : Int) + 1) = ((k + 1 : Nat) : Int) := wsucc (by omega)
    have e3 : w_i64 ((k : Int) + 3) = ((k + 3 : Nat) : Int) := wi (by omega) (by omega)
    by_cases h : k + 2 < l.length
    · by_cases h1 : 0 < N
      · obtain ⟨i, hi, ei⟩ := Place_eq (a := l.getD k 0) (n := N) h1 (by omega)
        obtain ⟨j, hj, ej⟩ := Place_eq (a := l.getD (k + 1) 0) (n := N) h1 (by omega)
        obtain ⟨v, hv, ev⟩ := Value_eq (l.getD (k + 2) 0)
        cases d with
        | zero => omega
        | succ d =>
        obtain ⟨es', g1, g2, g3, g4⟩ := Square_L1 hN l hl a0 a1 a2 a3 a4 d (k + 3) (es ++ [((i : Int), ((j : Int), v))]) (by omega) (by omega) (hE.snoc (by omega) (by omega) hv) (by simp; omega) hD.app
        refine ⟨es', g1, g2, g3, fun m n hm hdn => ?_⟩
        obtain ⟨n, rfl⟩ : ∃ n', n = n' + 1 := ⟨n - 1, by omega⟩
        rw [sparsemake_Square_L1, bif_decide, e2, e1, e3, bif_decide]
        rw [if_pos (by omega), if_pos (by omega), if_pos (by omega), Int.toNat_natCast, Int.toNat_natCast, Int.toNat_natCast, ei, ej, ev m hm]
        simp only [Option.bind_some]
        rw [if_pos (by omega), if_pos (by omega), if_pos (by simp; omega)]
        exact g4 m n hm (by omega)
      · refine ⟨es, hE, by omega, hD, fun m n hm hdn => ?_⟩
        obtain ⟨n, rfl⟩ : ∃ n', n = n' + 1 := ⟨n - 1, by omega⟩
        rw [sparsemake_Square_L1, bif_decide, e2, e1, e3, bif_decide, if_pos (by omega), if_neg (by omega)]
    · refine ⟨es, hE, by omega, hD, fun m n hm hdn => ?_⟩
      obtain ⟨n, rfl⟩ : ∃ n', n = n' + 1 := ⟨n - 1, by omega⟩
      rw [sparsemake_Square_L1, bif_decide, e2, e1, e3, bif_decide, if_neg (by omega)]
theorem Square_eq {N : Nat} (hN : N ≤ 100) {l : List Int} (hl : l.length ≤ 100000) : ∃ es, EntsOK N N es ∧ es.length ≤ l.length + 200 ∧ Diag N es ∧ ∀ m, 2000000 < m →
    sparsemake_Square m (N : Int) l = some (((N : Int), (N : Int), packS es N N, packI es N N, packV es N N, ()), (), (), ()) := by
  obtain ⟨e1, h1, h2, h3, h4⟩ := Square_L0 hN l 0 0 [] [] [] N 0 [] (by omega) (by omega) (fun k hk => absurd hk (Nat.not_lt_zero _)) rfl (fun i hi => absurd hi (Nat.not_lt_zero _))
  obtain ⟨e2, g1, g2, g3, g4⟩ := Square_L1 hN l hl 0 0 [] [] [] l.length N e1 (by omega) (by omega) h1 (by omega) h3
  refine ⟨e2, g1, g2, g3, fun m hm => ?_⟩
  have h4 := h4 m m (by omega) (by omega)
  simp only [Int.natCast_zero] at h4
  rw [sparsemake_Square, h4]
  simp only [Option.bind_some]
  rw [g4 m m (by omega) (by omega)]
  simp only [Option.bind_some]
  rw [Pack_eq g1 (by omega) (by omega) (by omega) (by omega)]
  rfl
end Go.Vs.F

/-! MbNj -/
set_option linter.unusedVariables false
set_option linter.unusedSimpArgs false
set_option maxRecDepth 100000
namespace Go.Vs.F
theorem cnt_true : ∀ n, cnt (fun _ => true) n = n
  | 0 => rfl
  | n + 1 => by rw [cnt, cnt_true n]; rfl
theorem cnt_full {p : Nat → Bool} : ∀ {n : Nat}, cnt p n = n → ∀ i, i < n → p i = true
  | 0, _, i, h => absurd h (Nat.not_lt_zero _)
  | n + 1, h, i, hi => by
    have := cnt_le (p := p) (n := n)
    rw [cnt] at h
    cases hp : p n with
    | false => rw [hp] at h; simp only [cond_false] at h; omega
    | true =>
      rw [hp] at h; simp only [cond_true] at h
      by_cases e : i = n
      · subst e; exact hp
      · exact cnt_full (n := n) (by omega) i (by omega)
theorem mat_of' {E : List (List Int)} {R C : Nat} {row col : List Int} (hb' : ∀ j : Nat, j < C → 0 ≤ row.getD j 0 → col.getD (row.getD j 0).toNat 0 = (j : Int)) (he : ∀ j : Nat, j < C → 0 ≤ row.getD j 0 → row.getD j 0 ∈ E.getD j []) (hrow : row.length = C) (hok : ∀ j, j < C → row.getD j 0 = -1 ∨ (0 ≤ row.getD j 0 ∧ row.getD j 0 < (R : Int))) : ∀ (d k : Nat) (used : List Bool), C - k = d → k ≤ C → used.length = R →
    (∀ i : Nat, used.getD i false = true → ∃ j : Nat, j < k ∧ row.getD j 0 = (i : Int)) → mat E (R : Int) (row.drop k) k used (cnt (mt row) k : Int) = some (cnt (mt row) C : Int)
  | 0, k, used, hd, hk, hl, hu => by
    have : k = C := by omega
    subst this
    rw [drop_nil' (by omega)]; rfl
  | d + 1, k, used, hd, hk, hl, hu => by
    have hkc : k < C := by omega
    rw [drop_cons (d := 0) (by omega), mat]
    rcases hok k hkc with h | h
    · rw [if_pos h]
      have e : cnt (mt row) (k + 1) = cnt (mt row) k := by rw [cnt]; simp [-List.getD_eq_getElem?_getD, mt, h]
      have := mat_of' hb' he hrow hok d (k + 1) used (by omega) (by omega) hl (fun i hi => by obtain ⟨j, a, b⟩ := hu i hi; exact ⟨j, by omega, b⟩)
      rwa [e] at this
    · have hne : ¬ row.getD k 0 = -1 := by omega
      have hb := hb' k hkc h.1
      have hun : used.getD (row.getD k 0).toNat false = false := by
        cases e : used.getD (row.getD k 0).toNat false with
        | false => rfl
        | true =>
          obtain ⟨j, a, b⟩ := hu _ e
          have h0 : 0 ≤ row.getD j 0 := by omega
          have := hb' j (by omega) h0
          rw [show (row.getD j 0).toNat = (row.getD k 0).toNat by omega, hb] at this; omega
      rw [if_neg hne, if_pos (by
        simp only [Bool.and_eq_true, decide_eq_true_eq, hun, Bool.not_false, and_true]
        exact ⟨h, List.contains_iff_mem.2 (he k hkc h.1)⟩)]
      have e : cnt (mt row) (k + 1) = cnt (mt row) k + 1 := by rw [cnt]; simp [-List.getD_eq_getElem?_getD, mt, h.1]
      have := mat_of' hb' he hrow hok d (k + 1) (used.set (row.getD k 0).toNat true) (by omega) (by omega) (by simp [hl]) (fun i hi => by
        by_cases ei : (row.getD k 0).toNat = i
        · exact ⟨k, by omega, by omega⟩
        · rw [getD_set_ne ei] at hi
          obtain ⟨j, a, b⟩ := hu i hi; exact ⟨j, by omega, b⟩)
      rw [e] at this
      rw [← this]; congr 1
/- A matching uses each row once. -/
theorem mat_inj {E : List (List Int)} {R : Nat} : ∀ {xs : List Int} {k : Nat} {used : List Bool} {n s : Int}, used.length = R → mat E (R : Int) xs k used n = some s →
    (∀ p, p < xs.length → xs.getD p 0 ≠ -1 → used.getD (xs.getD p 0).toNat false = false) ∧ ∀ p q, p < q → q < xs.length → xs.getD p 0 ≠ -1 → xs.getD p 0 ≠ xs.getD q 0
  | [], k, used, n, s, _, _ => ⟨fun p h => absurd h (Nat.not_lt_zero _), fun p q _ h => absurd h (Nat.not_lt_zero _)⟩
  | x :: xs, k, used, n, s, hl, h => by
    rw [mat] at h
    by_cases hx : x = -1
    · rw [if_pos hx] at h
      obtain ⟨a, b⟩ := mat_inj hl h
      refine ⟨fun p hp hne => ?_, fun p q hpq hq hne => ?_⟩
      · cases p with
        | zero => exact absurd hx hne
        | succ p => exact a p (by simpa using hp) hne
      · cases p with
        | zero => exact absurd hx hne
        | succ p =>
          cases q with
          | zero => omega
          | succ q => exact b p q (by omega) (by simpa using hq) hne
    · rw [if_neg hx] at h
      split at h
      · rename_i hc
        simp only [Bool.and_eq_true, decide_eq_true_eq, Bool.not_eq_true'] at hc
        obtain ⟨⟨⟨c1, c2⟩, c3⟩, c4⟩ := hc
        obtain ⟨a, b⟩ := mat_inj (by simpa using hl) h
        have key : ∀ p, p < xs.length → xs.getD p 0 ≠ -1 → xs.getD p 0 ≠ x ∧ used.getD (xs.getD p 0).toNat false = false := fun p hp hne => by
          have h1 := a p hp hne
          by_cases e : x.toNat = (xs.getD p 0).toNat
          · rw [← e, getD_set_eq (by omega)] at h1; cases h1
          · rw [getD_set_ne e] at h1
            exact ⟨fun e' => e (by rw [e']), h1⟩
        refine ⟨fun p hp hne => ?_, fun p q hpq hq hne => ?_⟩
        · cases p with
          | zero => exact c3
          | succ p => exact (key p (by simpa using hp) hne).2
        · cases q with
          | zero => omega
          | succ q =>
            cases p with
            | zero =>
              intro e
              have e' : x = xs.getD q 0 := e
              exact (key q (by simpa using hq) (by rw [← e']; exact hx)).1 e'.symm
            | succ p => exact b p q (by omega) (by simpa using hq) hne
      · cases h
theorem proof_chk {E : List (List Int)} {N : Nat} {u : St} {cr cc : List Int} (hE : EdgeOK N E) (K : KInv E N N N u) (hf : cnt (mt u.row) N = N) (hs : cr.length + cc.length = N) (hN : 2 ≤ N) {k k' : Nat} (hk : k < N) (hk' : k' < N) (hne : k ≠ k') :
    chkM E N N (u.row.set k (-1)) cr cc = 131 ∧ chkM E N N (u.row.set k (u.row.getD k' 0)) cr cc = 130 ∧ ∀ cr' cc' : List Int, cr'.length + cc'.length ≠ N → chkM E N N u.row cr' cc' = 131 := by
  have hrow : u.row.length = N := K.good.row
  have hall := cnt_full hf
  have hpos : ∀ j, j < N → 0 ≤ u.row.getD j 0 := fun j hj => of_decide_eq_true (hall j hj)
  have fresh : ∀ i : Nat, (List.replicate N false).getD i false = true → ∃ j : Nat, j < 0 ∧ (0 : Int) = (i : Int) := fun i hi => by
    by_cases h : i < N
    · rw [getD_replicate h] at hi; cases hi
    · simp [List.getD, h] at hi
  refine ⟨?_, ?_, ?_⟩
  · have hget : ∀ j, j ≠ k → (u.row.set k (-1)).getD j 0 = u.row.getD j 0 := fun j h => getD_set_ne (Ne.symm h)
    have hgk : (u.row.set k (-1)).getD k 0 = -1 := getD_set_eq (by omega)
    have := mat_of' (E := E) (R := N) (C := N) (row := u.row.set k (-1)) (col := u.col) (fun j hj h => by
      by_cases e : j = k
      · subst e; omega
      · rw [hget j e] at h ⊢; exact K.cons.b j hj h) (fun j hj h => by
      by_cases e : j = k
      · subst e; omega
      · rw [hget j e] at h ⊢; exact K.cons.e j hj h) (by simp [hrow]) (fun j hj => by
      by_cases e : j = k
      · subst e; exact .inl hgk
      · rw [hget j e]; exact K.good.rok j hj) N 0 (List.replicate N false) (by omega) (by omega) (by simp) (fun i hi => by obtain ⟨j, h, _⟩ := fresh i hi; omega)
    simp only [List.drop_zero] at this
    have hc : cnt (mt (u.row.set k (-1))) N + 1 = cnt (mt u.row) N := by
      rw [← cnt_set (p := mt u.row) hk (hall k hk)]
      congr 1
      refine cnt_congr fun i hi => ?_
      by_cases e : i = k
      · subst e; unfold mt; rw [hgk]; simp
      · unfold mt; rw [hget i e]; simp [e]
    unfold chkM
    rw [if_pos (by simp [hrow]), show mat E (N : Int) (u.row.set k (-1)) 0 (List.replicate N false) 0 = some ((cnt (mt (u.row.set k (-1))) N : Nat) : Int) from this]
    simp only
    rw [if_neg (fun h => by have := h.2; omega)]
  · unfold chkM
    rw [if_pos (by simp [hrow])]
    cases hm : mat E (N : Int) (u.row.set k (u.row.getD k' 0)) 0 (List.replicate N false) 0 with
    | none => rfl
    | some s =>
      exfalso
      obtain ⟨_, b⟩ := mat_inj (by simp) hm
      have g1 : (u.row.set k (u.row.getD k' 0)).getD k 0 = u.row.getD k' 0 := getD_set_eq (by omega)
      have g2 : (u.row.set k (u.row.getD k' 0)).getD k' 0 = u.row.getD k' 0 := getD_set_ne hne
      have := hpos k' hk'
      rcases Nat.lt_or_gt_of_ne hne with h | h
      · exact b k k' h (by simp; omega) (by rw [g1]; omega) (by rw [g1, g2])
      · exact b k' k h (by simp; omega) (by rw [g2]; omega) (by rw [g1, g2])
  · intro cr' cc' h
    unfold chkM
    have := mat_of K.cons hrow K.good.rok N 0 (List.replicate N false) (by omega) (by omega) (by simp) (fun i hi => by obtain ⟨j, h, _⟩ := fresh i hi; omega)
    simp only [List.drop_zero] at this
    rw [if_pos (by omega), show mat E (N : Int) u.row 0 (List.replicate N false) 0 = some ((cnt (mt u.row) N : Nat) : Int) from this]
    simp only
    rw [if_neg (fun g => by have := g.2; omega)]
theorem diag_full {N : Nat} {es : List Ent} {u : St} (hE : EntsOK N N es) (hD : Diag N es) (hM : MatOK N N (packS es N N) (packI es N N)) (K : KInv (edgesOf N (packS es N N) (packI es N N)) N N N u) : cnt (mt u.row) N = N := by
  have hd : ∀ j, j < N → ((List.range N).map fun i : Nat => (i : Int)).getD j 0 = (j : Int) := fun j hj => by simp [List.getD, hj]
  have h1 := weak (E := edgesOf N (packS es N N) (packI es N N)) (R := N) (C := N) (row := (List.range N).map fun i : Nat => (i : Int)) (col := (List.range N).map fun i : Nat => (i : Int)) ⟨fun i hi _ => by rw [hd i hi, Int.toNat_natCast, hd i hi], fun i hi _ => by rw [hd i hi, Int.toNat_natCast, hd i hi], fun j hj _ => by
    rw [hd j hj]
    obtain ⟨t, a, b, c⟩ := hD j hj
    exact (pack_edge hE hj).2 ⟨t, a, b, c⟩⟩ (fun j hj => by rw [hd j hj]; omega) (rCov (u := u) hM.edge)
  rw [konig_cnt hM.edge K] at h1
  have h2 : cnt (mt ((List.range N).map fun i : Nat => (i : Int))) N = N := by
    rw [cnt_congr (q := fun _ => true) fun i hi => ?_, cnt_true]
    unfold mt; rw [hd i hi]; simp
  have := cnt_le (p := mt u.row) (n := N)
  omega
end Go.Vs.F

/-! MbNk -/
set_option linter.unusedVariables false
set_option linter.unusedSimpArgs false
set_option maxRecDepth 100000
namespace Go.Vs.F
theorem MatchingProof_law (n0 : Int) (l : List Int) (q : Int) : ∃ m, sparselaw13_MatchingProof m n0 l q = some (true, (), (), (), ()) := by
  by_cases hl : l.length ≤ 90
  · obtain ⟨p, hp, ep⟩ := Place_eq (a := n0) (n := 4) (by omega) (by omega)
    obtain ⟨N, hN⟩ : ∃ N, N = 2 + p := ⟨_, rfl⟩
    obtain ⟨es, hE, hes, hD, hmk⟩ := Square_eq (N := N) (by omega) (l := l) (by omega)
    have ha : N * N ≤ 10000 := Nat.le_trans (Nat.mul_le_mul (show N ≤ 100 by omega) (show N ≤ 100 by omega)) (by decide)
    have hk := pack_chk hE (by omega) (by omega) ha
    have hM := pack_ok (es := es) (r := N) (c := N) (by omega) (by omega) ha
    have hsl := hM.st.len
    have hil := hM.sz
    have hvl := packV_len es N N
    obtain ⟨u, hu, g, M, hB⟩ := bothOK hk hM hvl (by omega) (by omega)
    have K := hu.kinv hM.edge kinv0
    obtain ⟨k, hkN, ek⟩ := Place_eq (a := q) (n := N) (by omega) (by omega)
    obtain ⟨m, hm1, hm2⟩ : ∃ m, M ≤ m ∧ 3000060 ≤ m := ⟨M + 3000060, by omega, by omega⟩
    refine ⟨m, ?_⟩
    obtain ⟨b1, b2, b3, b4⟩ := hB m hm1
    have l0 : u.row.length = N := g.row
    have hf := diag_full hE hD hM K
    have hsum : (covR N N (packS es N N) (packI es N N) u).length + (covC N (packS es N N) (packI es N N) u).length = N := by
      rw [covR_count, covC_count, konig_cnt hM.edge K, hf]
    have hz := konig_chk hM K
    have hk' : (k + 1) % N < N := Nat.mod_lt _ (by omega)
    have hne : k ≠ (k + 1) % N := by
      by_cases e : k + 1 = N
      · rw [e, Nat.mod_self]; omega
      · rw [Nat.mod_eq_of_lt (by omega)]; omega
    obtain ⟨q1, q2, q3⟩ := proof_chk hM.edge K hf hsum (by omega) hkN hk' hne
    have eN : w_i64 (2 + (p : Int)) = (N : Int) := by rw [show w_i64 (2 + (p : Int)) = 2 + (p : Int) from wi (by omega) (by omega)]; omega
    have ek1 : Int.tmod (w_i64 ((k : Int) + 1)) (N : Int) = (((k + 1) % N : Nat) : Int) := by rw [show w_i64 ((k : Int) + 1) = ((k + 1 : Nat) : Int) from wsucc (by omega)]; exact tm _ _
    have CE : ∀ xs cr cc : List Int, xs.length ≤ 1000 → cr.length ≤ 1000 → cc.length ≤ 1000 → matching_Check m (N : Int) (N : Int) (packS es N N) (packI es N N) (packV es N N) xs cr cc = some (chkM (edgesOf N (packS es N N) (packI es N N)) N N xs cr cc, (), (), (), ()) := fun xs cr cc h1 h2 h3 =>
      matching_Check_eq hM hk (by omega) (by omega) (by omega) (by omega) (by omega) (by omega)
    obtain ⟨cr, hcr⟩ : ∃ cr, covR N N (packS es N N) (packI es N N) u = cr := ⟨_, rfl⟩
    obtain ⟨cc, hcc⟩ : ∃ cc, covC N (packS es N N) (packI es N N) u = cc := ⟨_, rfl⟩
    rw [hcr, hcc] at b3 hsum hz q1 q2
    have q4 : chkM (edgesOf N (packS es N N) (packI es N N)) N N ((u.row.drop 1).take (u.row.length - 1)) cr cc = 2 := by
      unfold chkM; rw [if_neg (by simp; omega)]
    rw [sparselaw13_MatchingProof, bif_decide, if_neg (by omega), show sparsekit_Place m n0 4 = _ from ep m]
    simp only [Option.bind_some, eN]
    rw [hmk m (by omega)]
    simp only [Option.bind_some, b1, b3, bif_ne, if_true, l0]
    rw [size_eq (by omega) (by omega), l0, hf]
    simp only [Option.bind_some, bif_ne, if_true]
    rw [CE u.row cr cc (by omega) (by omega) (by omega), hz]
    simp only [Option.bind_some, bif_ne, if_true]
    rw [ek m, TwinInts_eq (by omega) (by omega)]
    simp only [Option.bind_some, Int.toNat_natCast, Nat.zero_add]
    rw [if_pos (by omega), if_pos (by omega), ek1, if_pos (by omega), if_pos (by omega), bif_decide, bif_decide, Int.toNat_natCast]
    rw [l0] at q4
    rw [CE _ cr cc (by simp; omega) (by omega) (by omega), CE _ cr cc (by simp; omega) (by omega) (by omega), CE _ cr cc (by simp; omega) (by omega) (by omega), q1, q2, q4]
    simp only [Option.bind_some, bif_eq, if_true]
    rw [awakeM (by omega)]
    by_cases h1 : 0 < cr.length
    · rw [if_pos (by omega), if_pos (by omega), CE u.row (cr.drop 1) cc (by omega) (by simp; omega) (by omega), q3 _ _ (by simp; omega)]
      simp only [Option.bind_some, if_true]
      rw [if_pos (by omega)]
    · rw [if_neg (by omega), if_pos (by omega), if_pos (by omega), CE u.row cr (cc.drop 1) (by omega) (by omega) (by simp; omega), q3 _ _ (by simp; omega)]
      simp only [Option.bind_some, if_true]
      rw [if_pos (by omega)]
  · refine ⟨60, ?_⟩
    rw [sparselaw13_MatchingProof, bif_decide, if_pos (by omega), awakeM (Nat.le_refl _)]; rfl
end Go.Vs.F
