/- The document's check and entries, the entries of the program, orders made of numbers (turned from the matching laws). The edges of a matrix with made values; the weight of an order. The weight of an order; sums over orders; what is made is good. The law TransversalDuals. -/
import Derived.Test.YtkpillimphadkaaDoorLb
import Derived.Test.YtkpillimphadkaaDoorLc

/-! TdRa -/
set_option linter.unusedVariables false
set_option linter.unusedSimpArgs false
set_option maxRecDepth 100000
namespace Go.Vs.F
variable {R C : Nat} {S I V : List Int}
theorem mEntries_L1 (m : Nat) (hM : MatOK R C S I) (hV : V.length = I.length) (t7 t8 : Int) {j : Nat} (hj : j < C) : ∀ (n k : Nat) (out : List Ent), (S.getD (j + 1) 0).toNat - k < n → out.length ≤ k →
    g45_L1 m n (R : Int) (C : Int) S I V out (j : Int) (k : Int) t7 t8 = some (.inl (((R : Int), (C : Int), S, I, V, ()), out ++ entCol S I V j k (S.getD (j + 1) 0).toNat, t7, t8, ()))
  | 0, k, out, h, _ => by omega
  | n + 1, k, out, h, ho => by
    have hl := hM.st.len
    have hcz := hM.cz
    have hiz := hM.sz
    have b := hM.st.rng (j := j + 1) (by omega)
    rw [g45_L1]
    simp only [w_i64_eq, wsucc (show j < 4611686018427387904 by omega), Int.toNat_natCast, bif_decide]
    rw [if_pos (by omega)]
    by_cases hk : k < (S.getD (j + 1) 0).toNat
    · rw [if_pos (by omega), if_pos (by omega), if_pos (by omega), if_pos (by simp; omega), entCol_step hk]
      simp only [wsucc (show k < 4611686018427387904 by omega)]
      rw [mEntries_L1 m hM hV t7 t8 hj n (k + 1) _ (by omega) (by simp; omega)]
      simp
    · rw [if_neg (by omega)]
      rw [entCol, show (S.getD (j + 1) 0).toNat - k = 0 by omega]; simp
theorem mEntries_L0 (m : Nat) (hm : 20000 < m) (hM : MatOK R C S I) (hV : V.length = I.length) : ∀ (d n k : Nat) (out : List Ent), C - k = d → k ≤ C → d < n → out.length = (S.getD k 0).toNat →
    g45_L0 m n (R : Int) (C : Int) S I V out (C : Int) (k : Int) = some (.inl (out ++ ents S I V d k, ()))
  | 0, n, k, out, hd, hk0, hn, ho => by
    obtain ⟨n, rfl⟩ : ∃ n', n = n' + 1 := ⟨n - 1, by omega⟩
    rw [g45_L0, bif_decide, if_neg (by omega)]; simp [ents]
  | d + 1, n, k, out, hd, hk0, hn, ho => by
    have hl := hM.st.len
    have hcz := hM.cz
    have hiz := hM.sz
    have hk : k < C := by omega
    have a := hM.st.rng (j := k) (by omega)
    have b := hM.st.rng (j := k + 1) (by omega)
    have dd := hM.st.mono k hk
    obtain ⟨n, rfl⟩ : ∃ n', n = n' + 1 := ⟨n - 1, by omega⟩
    have e := mEntries_L1 (V := V) m hM hV (C : Int) (k : Int) hk m (S.getD k 0).toNat out (by omega) (by omega)
    rw [show (((S.getD k 0).toNat : Nat) : Int) = S.getD k 0 by omega] at e
    rw [g45_L0, bif_decide, if_pos (by omega), if_pos (by omega)]
    simp only [Int.toNat_natCast]
    rw [e]
    simp only [Option.bind_some, w_i64_eq, wsucc (show k < 4611686018427387904 by omega)]
    rw [mEntries_L0 m hm hM hV d n (k + 1) _ (by omega) (by omega) (by omega) (by rw [List.length_append, entCol_len]; omega), ents]
    simp
theorem mEntries_eq {m : Nat} (hm : 20000 < m) (hM : MatOK R C S I) (hV : V.length = I.length) : g45 m (R : Int) (C : Int) S I V = some (ents S I V C 0, (), ()) := by
  have hcz := hM.cz
  have h := mEntries_L0 (V := V) m hm hM hV C m 0 [] (by omega) (by omega) (by omega) (by rw [hM.st.s0]; rfl)
  rw [g45, show (0 : Int) = ((0 : Nat) : Int) from rfl, h]; rfl
end Go.Vs.F

/-! TdRb -/
set_option linter.unusedVariables false
set_option linter.unusedSimpArgs false
namespace Go.Vs.F
variable {R C : Nat} {S I V : List Int}
theorem MatOK.asc (hM : MatOK R C S I) {j : Nat} (hj : j < C) : ∀ (d t : Nat), (S.getD j 0).toNat ≤ t → t + (d + 1) < (S.getD (j + 1) 0).toNat → I.getD t 0 < I.getD (t + (d + 1)) 0
  | 0, t, h1, h2 => by
    have := allFrom_iff.1 (hM.ent j hj) (t + 1) (by omega) h2
    simp only [entOK, Bool.and_eq_true, Bool.or_eq_true, decide_eq_true_eq] at this
    have h := this.2
    simp only [Nat.add_sub_cancel] at h
    simp only [Nat.zero_add]
    rcases h with h | h
    · simp only [Bool.not_eq_true', decide_eq_false_iff_not] at h; omega
    · exact h
  | d + 1, t, h1, h2 => by
    have h3 := hM.asc hj d t h1 (by omega)
    have h4 := hM.asc hj 0 (t + (d + 1)) (by omega) (by omega)
    simp only [Nat.zero_add] at h4
    rw [show t + (d + 1 + 1) = t + (d + 1) + 1 by omega]; omega
theorem MatOK.uniq (hM : MatOK R C S I) {j : Nat} (hj : j < C) {t t' : Nat} (h1 : (S.getD j 0).toNat ≤ t) (h2 : t < (S.getD (j + 1) 0).toNat) (h3 : (S.getD j 0).toNat ≤ t') (h4 : t' < (S.getD (j + 1) 0).toNat) (e : I.getD t 0 = I.getD t' 0) : t = t' := by
  rcases Nat.lt_trichotomy t t' with h | h | h
  · have := hM.asc hj (t' - t - 1) t h1 (by omega)
    rw [show t + (t' - t - 1 + 1) = t' by omega] at this; omega
  · exact h
  · have := hM.asc hj (t - t' - 1) t' h3 (by omega)
    rw [show t' + (t - t' - 1 + 1) = t by omega] at this; omega
theorem mem_ents' {x : Ent} : ∀ {d k : Nat}, x ∈ ents S I V d k ↔ ∃ j t, k ≤ j ∧ j < k + d ∧ (S.getD j 0).toNat ≤ t ∧ t < (S.getD (j + 1) 0).toNat ∧ x = (I.getD t 0, (j : Int), V.getD t 0)
  | 0, k => by
    constructor
    · intro h; simp [ents] at h
    · rintro ⟨j, t, h1, h2, _⟩; omega
  | d + 1, k => by
    rw [ents, List.mem_append, mem_ents' (d := d) (k := k + 1)]
    constructor
    · rintro (h | ⟨j, t, h1, h2, h3⟩)
      · unfold entCol at h
        obtain ⟨t, ht, rfl⟩ := List.mem_map.1 h
        rw [List.mem_range'_1] at ht
        exact ⟨k, t, Nat.le_refl _, by omega, ht.1, by omega, rfl⟩
      · exact ⟨j, t, by omega, by omega, h3⟩
    · rintro ⟨j, t, h1, h2, h3, h4, h5⟩
      by_cases e : j = k
      · subst e
        left; unfold entCol
        exact List.mem_map.2 ⟨t, List.mem_range'_1.2 ⟨h3, by omega⟩, h5.symm⟩
      · right; exact ⟨j, t, by omega, by omega, h3, h4, h5⟩
/- A valid square matrix with made values. -/
structure MG (N : Nat) (S I V : List Int) : Prop where
  ok : MatOK N N S I
  vl : V.length = I.length
  chk : chk (N : Int) (N : Int) S I V = 0
  good : ∀ t, t < V.length → GoodV (V.getD t 0)
  il : I.length ≤ 200
def edg1 (j : Nat) (e : Ent) : Option (Int × Int) := if e.2.1 = (j : Int) ∧ (expOf e.2.2).2 = true then some (e.1, (expOf e.2.2).1) else none
def edg (es : List Ent) (j : Nat) : List (Int × Int) := es.filterMap (edg1 j)
theorem edges_L0_ok (m : Nat) {N : Nat} {es : List Ent} (hm : 100 ≤ m) (hg : ∀ e ∈ es, GoodV e.2.2 ∧ 0 ≤ e.2.1 ∧ e.2.1 < (N : Int)) (hl : es.length ≤ 1000) : ∀ (n k : Nat) (out : List (List (Int × Int))), es.length - k < n → k ≤ es.length → out.length = N →
    (∀ j, j < N → out.getD j [] = edg (es.take k) j) →
    ∃ E, g16_L0 m n out es (es.length : Int) (k : Int) = some (.inl (E, ())) ∧ E.length = N ∧ ∀ j, j < N → E.getD j [] = edg es j
  | 0, k, out, h, _, _, _ => by omega
  | n + 1, k, out, h, hk0, ho, hq => by
    rw [g16_L0]
    by_cases hk : k < es.length
    · have h1 : ((k : Int) < (es.length : Int)) := by omega
      have c1 : (0 : Int) ≤ (k : Int) ∧ (k : Int) < (es.length : Int) := by omega
      have hmem : es.getD k (0, (0, 0)) ∈ es := getD_mem' hk
      obtain ⟨g, g1, g2⟩ := hg _ hmem
      have htk : es.take (k + 1) = es.take k ++ [es.getD k (0, (0, 0))] := by
        rw [List.take_add_one]
        congr 1
        rw [List.getElem?_eq_getElem hk, List.getD, List.getElem?_eq_getElem hk]; rfl
      have hed : ∀ j, edg (es.take (k + 1)) j = edg (es.take k) j ++ (edg1 j (es.getD k (0, (0, 0)))).toList := fun j => by
        unfold edg; rw [htk, List.filterMap_append]
        congr 1
      simp only [bif_decide, h1, if_true, c1, and_self, Int.toNat_natCast, Nat.zero_add, w_i64_eq, wsucc (show k < 4611686018427387904 by omega)]
      generalize es.getD k (0, (0, 0)) = y at *
      rw [g.float m hm]
      simp only [Option.bind_some]
      rcases Bool.eq_false_or_eq_true (expOf y.2.2).2 with hx | hx
      · rw [hx]
        simp only [cond_true]
        have c2 : (0 : Int) ≤ y.2.1 ∧ y.2.1 < (out.length : Int) := by omega
        have hjN : y.2.1.toNat < N := by omega
        have c3 : (out.getD y.2.1.toNat []).length + ([(y.1, (expOf y.2.2).1)] : List (Int × Int)).length ≤ 1073741824 := by
          rw [hq _ hjN]
          have : (edg (es.take k) y.2.1.toNat).length ≤ (es.take k).length := List.length_filterMap_le ..
          rw [List.length_take] at this
          show _ + 1 ≤ _
          omega
        simp only [c2, c3, and_self, if_true]
        refine edges_L0_ok m hm hg hl n (k + 1) _ (by omega) (by omega) (by simp [ho]) fun j hj => ?_
        rw [hed, getD_set' (by omega)]
        split
        · rename_i e
          rw [hq _ hjN, ← e, edg1, if_pos ⟨by omega, hx⟩]; rfl
        · rename_i e
          rw [hq j hj, edg1, if_neg (fun c => e (by omega))]; simp
      · rw [hx]
        simp only [cond_false]
        refine edges_L0_ok m hm hg hl n (k + 1) _ (by omega) (by omega) ho fun j hj => ?_
        rw [hed, hq j hj, edg1, if_neg (fun c => by rw [hx] at c; cases c.2)]; simp
    · have h1 : ¬ ((k : Int) < (es.length : Int)) := by omega
      simp only [bif_decide, h1, if_false]
      refine ⟨out, rfl, ho, fun j hj => ?_⟩
      rw [hq j hj, List.take_of_length_le (by omega)]
/- An edge: an entry whose value is not zero. -/
theorem mem_edg {N : Nat} (hM : MG N S I V) {j : Nat} (hj : j < N) {x : Int × Int} : x ∈ edg (ents S I V N 0) j ↔ ∃ t, (S.getD j 0).toNat ≤ t ∧ t < (S.getD (j + 1) 0).toNat ∧ x.1 = I.getD t 0 ∧ (expOf (V.getD t 0)).2 = true ∧ x.2 = (expOf (V.getD t 0)).1 := by
  unfold edg
  rw [List.mem_filterMap]
  constructor
  · rintro ⟨e, he, hx⟩
    obtain ⟨j', t, _, _, h1, h2, rfl⟩ := mem_ents'.1 he
    unfold edg1 at hx
    split at hx
    · rename_i c
      obtain ⟨c1, c2⟩ := c
      cases hx
      have : j' = j := by simp only at c1; omega
      subst this
      exact ⟨t, h1, h2, rfl, c2, rfl⟩
    · cases hx
  · rintro ⟨t, h1, h2, h3, h4, h5⟩
    refine ⟨(I.getD t 0, (j : Int), V.getD t 0), mem_ents'.2 ⟨j, t, Nat.zero_le _, by omega, h1, h2, rfl⟩, ?_⟩
    unfold edg1
    rw [if_pos ⟨rfl, h4⟩]
    obtain ⟨x1, x2⟩ := x
    simp only at h3 h5
    rw [h3, h5]
theorem col_lt {N : Nat} (hM : MG N S I V) {j : Nat} (hj : j < N) {t : Nat} (h2 : t < (S.getD (j + 1) 0).toNat) : t < V.length := by
  have := hM.ok.st.rng (j := j + 1) (by omega)
  rw [hM.vl]; omega
theorem ents_good {N : Nat} (hM : MG N S I V) : ∀ e ∈ ents S I V N 0, GoodV e.2.2 ∧ 0 ≤ e.2.1 ∧ e.2.1 < (N : Int) := by
  intro e he
  obtain ⟨j, t, _, h0, h1, h2, rfl⟩ := mem_ents'.1 he
  exact ⟨hM.good t (col_lt hM (by omega) h2), by simp only; omega, by simp only; omega⟩
theorem ents_l {N : Nat} (hM : MG N S I V) : (ents S I V N 0).length ≤ 200 := by
  rw [ents_len hM.ok N 0 (by omega) (by omega)]
  have := hM.ok.st.last
  have := hM.il
  omega
theorem edges_ok (m : Nat) {N : Nat} (hm : 20000 < m) (hM : MG N S I V) : ∃ E, g16 m (N : Int) (N : Int) S I V = some (E, (), ()) ∧ EOK N E ∧ ∀ j, j < N → E.getD j [] = edg (ents S I V N 0) j := by
  have hN := hM.ok.cz
  have hsl : S.length ≤ 201 := by rw [hM.ok.st.len]; omega
  have hvl : V.length ≤ 200 := by rw [hM.vl]; exact hM.il
  rw [g16, g27, g24_eq (by omega) (by omega) (by omega) (by omega) (by omega), hM.chk]
  have c1 : (0 : Int) ≤ (N : Int) ∧ (N : Int) ≤ (N : Int) ∧ (N : Int) ≤ 1073741824 := by omega
  have hel := ents_l hM
  obtain ⟨E, e, h1, h2⟩ := edges_L0_ok m (es := ents S I V N 0) (by omega) (ents_good hM) (by omega) m 0 (List.replicate N []) (by omega) (by omega) (by simp) (fun j hj => by rw [getD_replicate hj]; rfl)
  rw [Int.natCast_zero] at e
  simp only [c1, and_self, if_true, Option.bind_some, bif_ne, mEntries_eq hm hM.ok hM.vl, Int.toNat_natCast, e]
  refine ⟨E, rfl, ?_, h2⟩
  have hz : ∀ j, ¬ j < N → E.getD j [] = [] := fun j hj => getD_ge (by omega)
  have hmem : ∀ j, ∀ x ∈ E.getD j [], j < N ∧ ∃ t, (S.getD j 0).toNat ≤ t ∧ t < (S.getD (j + 1) 0).toNat ∧ x.1 = I.getD t 0 ∧ (expOf (V.getD t 0)).2 = true ∧ x.2 = (expOf (V.getD t 0)).1 := fun j x hx => by
    by_cases hj : j < N
    · rw [h2 j hj] at hx
      exact ⟨hj, (mem_edg hM hj).1 hx⟩
    · rw [hz j hj] at hx; cases hx
  refine ⟨h1, hN, fun j x hx => ?_, fun j x hx => ?_, fun j => ?_, fun j x hx y hy e => ?_⟩
  · obtain ⟨hj, t, q1, q2, q3, _⟩ := hmem j x hx
    rw [q3]; exact hM.ok.row hj q1 q2
  · obtain ⟨hj, t, q1, q2, q3, q4, q5⟩ := hmem j x hx
    have := hM.good t (col_lt hM hj q2)
    rw [q5]; exact ⟨this.lo, this.hi⟩
  · by_cases hj : j < N
    · rw [h2 j hj]
      have : (edg (ents S I V N 0) j).length ≤ (ents S I V N 0).length := List.length_filterMap_le ..
      omega
    · rw [hz j hj]; simp
  · obtain ⟨hj, t, q1, q2, q3, q4, q5⟩ := hmem j x hx
    obtain ⟨_, t', r1, r2, r3, r4, r5⟩ := hmem j y hy
    have := hM.ok.uniq hj q1 q2 r1 r2 (by rw [← q3, ← r3, e])
    subst this
    rw [q5, r5]
/- Maximum, as a whole. -/
theorem Maximum_ok (m : Nat) {N : Nat} (hm : 200000000 < m) (hN5 : N ≤ 5) (hM : MG N S I V) {E : Edges} (hE : ∀ j, j < N → E.getD j [] = edg (ents S I V N 0) j) (hEl : E.length = N) :
    (∃ row U W, g7 m (N : Int) (N : Int) S I V = some (((row, U, W, ()), 0, ()), (), ()) ∧ Tv N E row U W) ∨
    (g7 m (N : Int) (N : Int) S I V = some ((([], [], [], ()), 9, ()), (), ()) ∧ ∀ s, ¬ Trv N E s) := by
  have hN := hM.ok.cz
  have hsl : S.length ≤ 201 := by rw [hM.ok.st.len]; omega
  have hvl : V.length ≤ 200 := by rw [hM.vl]; exact hM.il
  obtain ⟨E', e, hE', hq⟩ := edges_ok m (by omega) hM
  have : E' = E := ext_getD [] (by rw [hE'.len, hEl]) fun k hk => by rw [hq k (by rw [hE'.len] at hk; exact hk), hE k (by rw [hE'.len] at hk; exact hk)]
  subst this
  rw [g7, g14, g24_eq (by omega) (by omega) (by omega) (by omega) (by omega), hM.chk]
  simp only [Option.bind_some, bif_eq, bif_ne, if_true, e]
  rcases best_ok m (by omega) hE' hN5 with ⟨u, v, row, col, e2, B⟩ | ⟨e2, hno⟩
  · rw [e2]
    simp only [Option.bind_some]
    obtain ⟨row', col', e3, hP, ht⟩ := least_ok m (by omega) hE' B
    rw [e3]
    simp only [Option.bind_some]
    obtain ⟨U, W, e4, hT⟩ := duals_ok m hm hN5 hE' hP ht B.vb B.mt.feas
    rw [e4]
    simp only [Option.bind_some]
    exact .inl ⟨row', U, W, rfl, hT⟩
  · rw [e2]
    exact .inr ⟨rfl, hno⟩
end Go.Vs.F

/-! TdRc -/
set_option linter.unusedVariables false
set_option linter.unusedSimpArgs false
set_option maxRecDepth 100000
namespace Go.Vs.F
variable {S I V : List Int} {N : Nat}
/-! ### Sums over orders -/
/-! ### Perm -/
/-! ### Made matrices are good -/
theorem colV_good {es : List Ent} {r c : Nat} (hE : EntsOK r c es) {j i d : Nat} {x : Int} (h : x ∈ colV es j i d) : GoodV x := by
  obtain ⟨i', h1, h2⟩ := List.mem_map.1 h
  have h3 := List.mem_filter.1 h1
  have h4 := of_decide_eq_true h3.2
  have h5 := lastIx_le es i' j es.length
  rw [← h2]; exact (hE _ (by omega)).2.2
theorem packV_good {es : List Ent} {r c : Nat} (hE : EntsOK r c es) {x : Int} : ∀ j, x ∈ packV es r j → GoodV x
  | 0, h => by cases h
  | j + 1, h => by
    rcases List.mem_append.1 h with h | h
    · exact packV_good hE j h
    · exact colV_good hE h
theorem pack_MG {es : List Ent} (hE : EntsOK N N es) (hN : N ≤ 5) : MG N (packS es N N) (packI es N N) (packV es N N) := by
  have h25 : N * N ≤ 5 * 5 := Nat.mul_le_mul hN hN
  refine ⟨pack_ok (by omega) (by omega) (by omega), packV_len _ _ _, pack_chk hE (by omega) (by omega) (by omega), fun t ht => packV_good hE N (getD_mem' ht), ?_⟩
  have := packI_len es N N
  omega
theorem awake14 (k : Nat) : sparselaw14_awake (k + 100) = some (true, ()) := by rfl
theorem awakeT {m : Nat} (h : 100 ≤ m) : sparselaw14_awake m = some (true, ()) := by
  obtain ⟨k, rfl⟩ : ∃ k, m = k + 100 := ⟨m - 100, by omega⟩
  exact awake14 k
end Go.Vs.F

/-! TdSa -/
set_option linter.unusedVariables false
set_option linter.unusedSimpArgs false
set_option maxRecDepth 100000
namespace Go.Vs.F
theorem matched_L1_ok (m : Nat) {l : Edges} {used : List Bool} {i : Int} {a : List Int} {b c : Int} {xs : List (Int × Int)} (hxl : xs.length ≤ 200) : ∀ (n k : Nat) (f : Bool), xs.length - k < n →
    ∃ f', g19_L1 m n l used i f a b c xs (xs.length : Int) (k : Int) = some (.inl (l, used, i, f', a, b, c, ())) ∧ (f' = true ↔ f = true ∨ ∃ x ∈ xs.drop k, x.1 = i)
  | 0, k, f, h => by omega
  | n + 1, k, f, h => by
    rw [g19_L1]
    by_cases hk : k < xs.length
    · have h1 : ((k : Int) < (xs.length : Int)) := by omega
      have c1 : (0 : Int) ≤ (k : Int) ∧ (k : Int) < (xs.length : Int) := by omega
      rw [drop_cons (d := (0, 0)) hk]
      simp only [bif_decide, h1, if_true, c1, and_self, Int.toNat_natCast, w_i64_eq, wsucc (show k < 4611686018427387904 by omega)]
      generalize xs.getD k (0, 0) = y at *
      cases f with
      | true =>
        simp only [cond_true]
        obtain ⟨f', e, q⟩ := matched_L1_ok m (l := l) (used := used) (i := i) (a := a) (b := b) (c := c) hxl n (k + 1) true (by omega)
        refine ⟨f', e, ?_⟩
        constructor
        · intro _; exact .inl (by trivial)
        · intro _; exact q.2 (.inl rfl)
      | false =>
        simp only [cond_false]
        obtain ⟨f', e, q⟩ := matched_L1_ok m (l := l) (used := used) (i := i) (a := a) (b := b) (c := c) hxl n (k + 1) (y.1 == i) (by omega)
        refine ⟨f', e, q.trans ?_⟩
        constructor
        · rintro (h | ⟨x, hx, h⟩)
          · exact .inr ⟨y, List.mem_cons_self .., eq_of_beq h⟩
          · exact .inr ⟨x, List.mem_cons_of_mem _ hx, h⟩
        · rintro (h | ⟨x, hx, h⟩)
          · cases h
          · rcases List.mem_cons.1 hx with rfl | hx
            · exact .inl (beq_iff_eq.2 h)
            · exact .inr ⟨x, hx, h⟩
    · have h1 : ¬ ((k : Int) < (xs.length : Int)) := by omega
      simp only [bif_decide, h1, if_false]
      refine ⟨f, rfl, ?_⟩
      rw [drop_nil' hk]
      constructor
      · exact .inl
      · rintro (h | ⟨x, hx, _⟩)
        · exact h
        · cases hx
/- A transversal among the edges. -/
def Mtd (N : Nat) (E : Edges) (r : List Int) : Prop := (∀ j, j < N → ∃ x ∈ E.getD j [], x.1 = r.getD j 0) ∧ ∀ j k, j < N → k < N → r.getD j 0 = r.getD k 0 → j = k
theorem matched_L0_ok (m : Nat) {N : Nat} {E : Edges} {r : List Int} (hm : 400 < m) (hE : EOK N E) (hr : r.length = N) : ∀ (n k : Nat) (used : List Bool), N - k < n → k ≤ N → used.length = N →
    (∀ j, j < k → ∃ x ∈ E.getD j [], x.1 = r.getD j 0) → (∀ j k', j < k → k' < k → r.getD j 0 = r.getD k' 0 → j = k') → (∀ i : Nat, used.getD i false = true ↔ ∃ j, j < k ∧ r.getD j 0 = (i : Int)) →
    (g19_L0 m n E used r (N : Int) (k : Int) = some (.inr (.inl ())) ∧ Mtd N E r) ∨ (g19_L0 m n E used r (N : Int) (k : Int) = some (.inl (false, ())) ∧ ¬ Mtd N E r)
  | 0, k, used, h, _, _, _, _, _ => by omega
  | n + 1, k, used, h, hk0, hul, h1, h2, hu => by
    have hEl := hE.len
    have hN := hE.small
    rw [g19_L0]
    by_cases hk : k < N
    · have l1 : ((k : Int) < (N : Int)) := by omega
      have c1 : (0 : Int) ≤ (k : Int) ∧ (k : Int) < (r.length : Int) := by omega
      have c2 : (0 : Int) ≤ (k : Int) ∧ (k : Int) < (E.length : Int) := by omega
      obtain ⟨f, e, q⟩ := matched_L1_ok m (l := E) (used := used) (i := r.getD k 0) (a := r) (b := (N : Int)) (c := (k : Int)) (hE.lens k) m 0 false (by have := hE.lens k; omega)
      rw [Int.natCast_zero] at e
      rw [List.drop_zero] at q
      simp only [bif_decide, l1, if_true, c1, c2, and_self, Int.toNat_natCast, e, Option.bind_some, w_i64_eq, wsucc (show k < 4611686018427387904 by omega)]
      cases f with
      | false =>
        simp only [Bool.not_false, cond_true]
        refine .inr ⟨by trivial, fun hM => ?_⟩
        have := q.2 (.inr (hM.1 k hk))
        cases this
      | true =>
        simp only [Bool.not_true, cond_false]
        obtain ⟨x, hx, hxe⟩ := (q.1 rfl).resolve_left (fun h => by cases h)
        have hxr := hE.row k x hx
        have c3 : (0 : Int) ≤ r.getD k 0 ∧ r.getD k 0 < (used.length : Int) := by omega
        simp only [c3, and_self, if_true, Nat.zero_add]
        rcases Bool.eq_false_or_eq_true (used.getD (r.getD k 0).toNat false) with hd | hd
        · rw [hd]
          simp only [cond_true]
          refine .inr ⟨by trivial, fun hM => ?_⟩
          obtain ⟨j, hj, e⟩ := (hu _).1 hd
          have := hM.2 j k (by omega) hk (by omega)
          omega
        · rw [hd]
          simp only [cond_false]
          have hnew : ∀ j, j < k → r.getD j 0 ≠ r.getD k 0 := fun j hj e => by
            rw [(hu _).2 ⟨j, hj, by omega⟩] at hd; cases hd
          refine matched_L0_ok m hm hE hr n (k + 1) _ (by omega) (by omega) (by simp [hul]) (fun j hj => ?_) (fun j k' hj hk' e => ?_) (fun i => ?_)
          · by_cases ej : j = k
            · subst ej; exact ⟨x, hx, hxe⟩
            · exact h1 j (by omega)
          · by_cases ej : j = k
            · by_cases ek : k' = k
              · omega
              · rw [ej] at e; exact absurd e.symm (hnew k' (by omega))
            · by_cases ek : k' = k
              · rw [ek] at e; exact absurd e (hnew j (by omega))
              · exact h2 j k' (by omega) (by omega) e
          · rw [getD_set' (by omega)]
            split
            · rename_i ei
              exact ⟨fun _ => ⟨k, by omega, by omega⟩, fun _ => rfl⟩
            · rename_i ei
              rw [hu]
              constructor
              · rintro ⟨j, hj, e⟩; exact ⟨j, by omega, e⟩
              · rintro ⟨j, hj, e⟩
                refine ⟨j, ?_, e⟩
                have : j ≠ k := by rintro rfl; omega
                omega
    · have l1 : ¬ ((k : Int) < (N : Int)) := by omega
      simp only [bif_decide, l1, if_false]
      have : k = N := by omega
      subst this
      exact .inl ⟨by trivial, h1, h2⟩
theorem matched_ok (m : Nat) {N : Nat} {E : Edges} {r : List Int} (hm : 400 < m) (hE : EOK N E) (hr : r.length = N) :
    (g19 m E r = some (true, (), (), ()) ∧ Mtd N E r) ∨ (g19 m E r = some (false, (), (), ()) ∧ ¬ Mtd N E r) := by
  have hN := hE.small
  have c1 : (0 : Int) ≤ (N : Int) ∧ (N : Int) ≤ (N : Int) ∧ (N : Int) ≤ 1073741824 := by omega
  rw [g19, hE.len, hr]
  simp only [c1, and_self, if_true, Int.toNat_natCast]
  rcases matched_L0_ok m hm hE hr m 0 (List.replicate N false) (by omega) (by omega) (by simp) (fun j hj => by omega) (fun j k hj => by omega) (fun i => by
    constructor
    · intro h
      by_cases hi : i < N
      · rw [getD_replicate hi] at h; cases h
      · rw [getD_ge (by simpa using hi)] at h; cases h
    · rintro ⟨j, hj, _⟩; omega) with ⟨e, h⟩ | ⟨e, h⟩
  · rw [Int.natCast_zero] at e
    rw [e]; exact .inl ⟨rfl, h⟩
  · rw [Int.natCast_zero] at e
    rw [e]; exact .inr ⟨rfl, h⟩
def R64 (a : Int) : Prop := -9223372036854775808 ≤ a ∧ a < 9223372036854775808
def sumZ (a b : Int) : Int := if 9223372036854775808 ≤ a + b then 1099511627776 else if a + b < -9223372036854775808 then -1099511627776 else a + b
theorem wrap_hi {n : Int} (h1 : 9223372036854775808 ≤ n) (h2 : n < 18446744073709551616) : IntKind.wrap .i64 n = n - 18446744073709551616 := by
  unfold IntKind.wrap
  show (if (true && decide (n % 18446744073709551616 ≥ 9223372036854775808)) = true then n % 18446744073709551616 - 18446744073709551616 else n % 18446744073709551616) = _
  rw [if_pos (by simp; omega)]; omega
theorem wrap_lo {n : Int} (h1 : -18446744073709551616 ≤ n) (h2 : n < -9223372036854775808) : IntKind.wrap .i64 n = n + 18446744073709551616 := by
  unfold IntKind.wrap
  show (if (true && decide (n % 18446744073709551616 ≥ 9223372036854775808)) = true then n % 18446744073709551616 - 18446744073709551616 else n % 18446744073709551616) = _
  rw [if_neg (by simp; omega)]; omega
theorem sum_eq {m : Nat} {a b : Int} (ha : R64 a) (hb : R64 b) : g30 m a b = some (sumZ a b, (), (), ()) := by
  obtain ⟨a1, a2⟩ := ha
  obtain ⟨b1, b2⟩ := hb
  rw [g30, sumZ]
  by_cases h1 : 9223372036854775808 ≤ a + b
  · have hw : w_i64 (a + b) = a + b - 18446744073709551616 := wrap_hi h1 (by omega)
    simp only [bif_decide, hw]
    rw [if_pos h1, if_pos (by omega), if_pos (by omega), if_pos (by omega)]
  · rw [if_neg h1]
    by_cases h2 : a + b < -9223372036854775808
    · have hw : w_i64 (a + b) = a + b + 18446744073709551616 := wrap_lo (by omega) h2
      simp only [bif_decide, hw]
      rw [if_pos h2, if_neg (by omega), if_pos (by omega), if_pos (by omega), if_pos (by omega)]
    · have hw : w_i64 (a + b) = a + b := wi (by omega) (by omega)
      simp only [bif_decide, hw]
      rw [if_neg h2]
      by_cases p : a > 0
      · rw [if_pos p]
        by_cases q : b > 0
        · rw [if_pos q, if_neg (by omega), if_neg (by omega)]
        · rw [if_neg q, if_neg (by omega)]
      · rw [if_neg p]
        by_cases p' : a < 0
        · rw [if_pos p']
          by_cases q : b < 0
          · rw [if_pos q, if_neg (by omega)]
          · rw [if_neg q]
        · rw [if_neg p']
/- An edge that the duals prove. -/
def okE (r U V : List Int) (j : Nat) (x : Int × Int) : Prop := x.2 ≤ sumZ (U.getD x.1.toNat 0) (V.getD j 0) ∧ (x.1 = r.getD j 0 → sumZ (U.getD x.1.toNat 0) (V.getD j 0) ≤ x.2)
theorem proved_L1_ok (m : Nat) {N : Nat} {E : Edges} {r U V : List Int} {j : Nat} {b c : Int} {xs : List (Int × Int)} (hr : r.length = N) (hu : U.length = N) (hv : V.length = N) (hU : ∀ i, R64 (U.getD i 0)) (hV : ∀ i, R64 (V.getD i 0)) (hj : j < N) (hxl : xs.length ≤ 200)
    (hx : ∀ x ∈ xs, 0 ≤ x.1 ∧ x.1 < (N : Int)) : ∀ (n k : Nat), xs.length - k < n →
    (g20_L1 m n r U V (j : Int) E b c xs (xs.length : Int) (k : Int) = some (.inr (.inl ((r, U, V, ()), E, b, c, ()))) ∧ ∀ x ∈ xs.drop k, okE r U V j x) ∨
    (g20_L1 m n r U V (j : Int) E b c xs (xs.length : Int) (k : Int) = some (.inl (false, ())) ∧ ∃ x ∈ xs.drop k, ¬ okE r U V j x)
  | 0, k, h => by omega
  | n + 1, k, h => by
    rw [g20_L1]
    by_cases hk : k < xs.length
    · have h1 : ((k : Int) < (xs.length : Int)) := by omega
      have c1 : (0 : Int) ≤ (k : Int) ∧ (k : Int) < (xs.length : Int) := by omega
      have hmem : xs.getD k (0, 0) ∈ xs := getD_mem' hk
      have hxr := hx _ hmem
      have ih := proved_L1_ok m (E := E) (b := b) (c := c) hr hu hv hU hV hj hxl hx n (k + 1) (by omega)
      rw [drop_cons (d := (0, 0)) hk]
      obtain ⟨y, hy⟩ : ∃ y, xs.getD k (0, 0) = y := ⟨_, rfl⟩
      rw [hy] at hmem hxr
      simp only [bif_decide, h1, if_true, c1, and_self, Int.toNat_natCast, w_i64_eq, wsucc (show k < 4611686018427387904 by omega), hy]
      have c2 : (0 : Int) ≤ y.1 ∧ y.1 < (U.length : Int) := by rw [hu]; exact hxr
      have c3 : (0 : Int) ≤ (j : Int) ∧ (j : Int) < (V.length : Int) := by omega
      have c4 : (0 : Int) ≤ (j : Int) ∧ (j : Int) < (r.length : Int) := by omega
      simp only [c2, c3, c4, and_self, if_true, sum_eq (hU _) (hV _), Option.bind_some, bif_eq]
      have good : okE r U V j y → (g20_L1 m n r U V (j : Int) E b c xs (xs.length : Int) ((k + 1 : Nat) : Int) = some (.inr (.inl ((r, U, V, ()), E, b, c, ()))) ∧ ∀ x ∈ y :: xs.drop (k + 1), okE r U V j x) ∨
          (g20_L1 m n r U V (j : Int) E b c xs (xs.length : Int) ((k + 1 : Nat) : Int) = some (.inl (false, ())) ∧ ∃ x ∈ y :: xs.drop (k + 1), ¬ okE r U V j x) := fun hy => by
        rcases ih with ⟨e, h⟩ | ⟨e, x, hx, h⟩
        · refine .inl ⟨e, fun x hx => ?_⟩
          rcases List.mem_cons.1 hx with rfl | hx
          · exact hy
          · exact h x hx
        · exact .inr ⟨e, x, List.mem_cons_of_mem _ hx, h⟩
      by_cases g1 : sumZ (U.getD y.1.toNat 0) (V.getD j 0) < y.2
      · simp only [g1, if_true]
        exact .inr ⟨by trivial, y, List.mem_cons_self .., fun h => by have := h.1; omega⟩
      · simp only [g1, if_false]
        by_cases g2 : sumZ (U.getD y.1.toNat 0) (V.getD j 0) > y.2
        · simp only [g2, if_true]
          by_cases g3 : y.1 = r.getD j 0
          · simp only [g3, if_true]
            exact .inr ⟨by trivial, y, List.mem_cons_self .., fun h => by have := h.2 g3; omega⟩
          · simp only [g3, if_false]
            exact good ⟨by omega, fun h => absurd h g3⟩
        · simp only [g2, if_false]
          exact good ⟨by omega, fun _ => by omega⟩
    · have h1 : ¬ ((k : Int) < (xs.length : Int)) := by omega
      simp only [bif_decide, h1, if_false]
      refine .inl ⟨by trivial, ?_⟩
      rw [drop_nil' hk]; intro x hx; cases hx
theorem proved_L0_ok (m : Nat) {N : Nat} {E : Edges} {r U V : List Int} (hm : 400 < m) (hE : EOK N E) (hr : r.length = N) (hu : U.length = N) (hv : V.length = N) (hU : ∀ i, R64 (U.getD i 0)) (hV : ∀ i, R64 (V.getD i 0)) : ∀ (n k : Nat), N - k < n →
    (g20_L0 m n r U V E (N : Int) (k : Int) = some (.inr (.inl ())) ∧ ∀ j, k ≤ j → j < N → ∀ x ∈ E.getD j [], okE r U V j x) ∨
    (g20_L0 m n r U V E (N : Int) (k : Int) = some (.inl (false, ())) ∧ ∃ j, j < N ∧ ∃ x ∈ E.getD j [], ¬ okE r U V j x)
  | 0, k, h => by omega
  | n + 1, k, h => by
    have hEl := hE.len
    have hN := hE.small
    rw [g20_L0]
    by_cases hk : k < N
    · have l1 : ((k : Int) < (N : Int)) := by omega
      have c2 : (0 : Int) ≤ (k : Int) ∧ (k : Int) < (E.length : Int) := by omega
      have ih := proved_L0_ok m hm hE hr hu hv hU hV n (k + 1) (by omega)
      simp only [bif_decide, l1, if_true, c2, and_self, Int.toNat_natCast, w_i64_eq]
      rcases proved_L1_ok m (E := E) (b := (N : Int)) (c := (k : Int)) (xs := E.getD k []) hr hu hv hU hV hk (hE.lens k) (hE.row k) m 0 (by have := hE.lens k; omega) with ⟨e, h⟩ | ⟨e, h⟩
      · rw [Int.natCast_zero] at e
        rw [e]
        simp only [Option.bind_some, wsucc (show k < 4611686018427387904 by omega)]
        rcases ih with ⟨e2, g⟩ | ⟨e2, g⟩
        · refine .inl ⟨e2, fun j a b => ?_⟩
          by_cases ej : j = k
          · subst ej; rw [List.drop_zero] at h; exact h
          · exact g j (by omega) b
        · exact .inr ⟨e2, g⟩
      · rw [Int.natCast_zero] at e
        rw [e]
        rw [List.drop_zero] at h
        exact .inr ⟨rfl, k, hk, h⟩
    · have l1 : ¬ ((k : Int) < (N : Int)) := by omega
      simp only [bif_decide, l1, if_false]
      exact .inl ⟨by trivial, fun j a b => by omega⟩
theorem proved_ok (m : Nat) {N : Nat} {E : Edges} {r U V : List Int} (hm : 400 < m) (hE : EOK N E) (hr : r.length = N) (hu : U.length = N) (hv : V.length = N) (hU : ∀ i, R64 (U.getD i 0)) (hV : ∀ i, R64 (V.getD i 0)) :
    (g20 m E r U V = some (true, (), (), ()) ∧ ∀ j, j < N → ∀ x ∈ E.getD j [], okE r U V j x) ∨
    (g20 m E r U V = some (false, (), (), ()) ∧ ∃ j, j < N ∧ ∃ x ∈ E.getD j [], ¬ okE r U V j x) := by
  have hN := hE.small
  rw [g20, hE.len]
  rcases proved_L0_ok m hm hE hr hu hv hU hV m 0 (by omega) with ⟨e, h⟩ | ⟨e, h⟩
  · rw [Int.natCast_zero] at e
    rw [e]; exact .inl ⟨rfl, fun j => h j (Nat.zero_le _)⟩
  · rw [Int.natCast_zero] at e
    rw [e]; exact .inr ⟨rfl, h⟩
theorem Check_all (m : Nat) {N : Nat} {S I V : List Int} (hm : 20000 < m) (hM : MG N S I V) {r U W : List Int} (hl : r.length = N ∧ U.length = N ∧ W.length = N) {E : Edges} (eE : g16 m (N : Int) (N : Int) S I V = some (E, (), ())) :
    g9 m (N : Int) (N : Int) S I V r U W = (g19 m E r).bind fun y3 => bif !y3.1 then some (130, ((), (), ())) else (g20 m E r U W).bind fun y4 => bif !y4.1 then some (140, ((), (), ())) else some (0, ((), (), ())) := by
  have hN := hM.ok.cz
  have hsl : S.length ≤ 201 := by rw [hM.ok.st.len]; omega
  have hvl : V.length ≤ 200 := by rw [hM.vl]; exact hM.il
  rw [g9, g14, g24_eq (by omega) (by omega) (by omega) (by omega) (by omega), hM.chk]
  simp only [Option.bind_some, bif_eq, bif_ne, if_true, hl.1, hl.2.1, hl.2.2, eE]
theorem Check_len (m : Nat) {N : Nat} {S I V : List Int} (hm : 20000 < m) (hM : MG N S I V) {r U : List Int} (hr : r.length = N) (hu : U.length = N) (hN0 : 0 < N) : g9 m (N : Int) (N : Int) S I V r U [] = some (2, (), (), ()) := by
  have hN := hM.ok.cz
  have hsl : S.length ≤ 201 := by rw [hM.ok.st.len]; omega
  have hvl : V.length ≤ 200 := by rw [hM.vl]; exact hM.il
  rw [g9, g14, g24_eq (by omega) (by omega) (by omega) (by omega) (by omega), hM.chk]
  simp only [Option.bind_some, bif_eq, bif_ne, if_true, hr, hu]
  rw [if_neg (by simp; omega)]
theorem Twin_L0 (m : Nat) {a : List Int} (hl : a.length ≤ 1000) : ∀ (n k : Nat) (out : List Int), a.length - k < n → out = a.take k → g8_L0 m n a out (k : Int) = some (.inl (a, ()))
  | 0, k, out, h, _ => by omega
  | n + 1, k, out, h, ho => by
    rw [g8_L0]
    by_cases hk : k < a.length
    · have h1 : ((k : Int) < (a.length : Int)) := by omega
      have c1 : (0 : Int) ≤ (k : Int) ∧ (k : Int) < (a.length : Int) := by omega
      have hlo : out.length ≤ 1000 := by rw [ho, List.length_take]; omega
      have c2 : ∀ y : Int, out.length + ([y] : List Int).length ≤ 1073741824 := fun y => by show out.length + 1 ≤ _; omega
      simp only [bif_decide, h1, if_true, c1, c2, and_self, Int.toNat_natCast, w_i64_eq, wsucc (show k < 4611686018427387904 by omega)]
      refine Twin_L0 m hl n (k + 1) _ (by omega) ?_
      rw [ho, List.take_add_one]
      congr 1
      rw [List.getElem?_eq_getElem hk, List.getD, List.getElem?_eq_getElem hk]; rfl
    · have h1 : ¬ ((k : Int) < (a.length : Int)) := by omega
      simp only [bif_decide, h1, if_false]
      rw [ho, List.take_of_length_le (by omega)]
theorem Twin_eq {m : Nat} {a : List Int} (hl : a.length ≤ 1000) (hm : 2000 < m) : g8 m a = some (a, (), ()) := by
  have e := Twin_L0 m hl m 0 [] (by omega) rfl
  rw [Int.natCast_zero] at e
  rw [g8, e]; rfl
theorem Duals_L0 (m : Nat) {N : Nat} {x y : Int} {a b : Int} {c d e : List Int} {r U W : List Int} (hN : N ≤ 1000) (hl : W.length = N) (hw : ∀ j, 0 ≤ W.getD j 0) : ∀ (n k : Nat), N - k < n →
    sparselaw14_TransversalDuals_L0 m n (N : Int) x y a b c d e r U W (k : Int) = some (.inr (.inl ((N : Int), x, y, (a, b, c, d, e, ()), (r, U, W, ()), ())))
  | 0, k, h => by omega
  | n + 1, k, h => by
    rw [sparselaw14_TransversalDuals_L0]
    by_cases hk : k < N
    · have h1 : ((k : Int) < (N : Int)) := by omega
      have c1 : (0 : Int) ≤ (k : Int) ∧ (k : Int) < (W.length : Int) := by omega
      have h2 : ¬ W.getD k 0 < 0 := by have := hw k; omega
      simp only [bif_decide, h1, if_true, c1, and_self, Int.toNat_natCast, h2, if_false, w_i64_eq, wsucc (show k < 4611686018427387904 by omega)]
      exact Duals_L0 m hN hl hw n (k + 1) (by omega)
    · have h1 : ¬ ((k : Int) < (N : Int)) := by omega
      simp only [bif_decide, h1, if_false]
theorem surj {N : Nat} {l : List Int} (hr : ∀ j, j < N → 0 ≤ l.getD j 0 ∧ l.getD j 0 < (N : Int)) (hi : ∀ j k, j < N → k < N → l.getD j 0 = l.getD k 0 → j = k) {a : Nat} (ha : a < N) : ∃ j, j < N ∧ l.getD j 0 = (a : Int) := by
  refine Classical.byContradiction fun hn => ?_
  have hnd : ((List.range N).map fun j => (l.getD j 0).toNat).Nodup := nodup_mapf (fun x hx y hy e => hi x y (List.mem_range.1 hx) (List.mem_range.1 hy) (by
    have := hr x (List.mem_range.1 hx)
    have := hr y (List.mem_range.1 hy)
    omega)) List.nodup_range
  have := nodup_len (l := a :: (List.range N).map fun j => (l.getD j 0).toNat) (l' := List.range N) (List.nodup_cons.2 ⟨fun h => by
    obtain ⟨j, hj, e⟩ := List.mem_map.1 h
    have := hr j (List.mem_range.1 hj)
    exact hn ⟨j, List.mem_range.1 hj, by omega⟩, hnd⟩) (fun x hx => by
    rcases List.mem_cons.1 hx with rfl | hx
    · exact List.mem_range.2 ha
    · obtain ⟨j, hj, rfl⟩ := List.mem_map.1 hx
      have := hr j (List.mem_range.1 hj)
      exact List.mem_range.2 (by omega))
  simp at this
  omega
theorem TransversalDuals_law (x1 : Int) (x2 : List Int) (x3 x4 : Int) (h4 : R64 x4) : ∃ m, sparselaw14_TransversalDuals m x1 x2 x3 x4 = some (true, (), (), (), (), ()) := by
  refine ⟨300000000, ?_⟩
  generalize hm : (300000000 : Nat) = m
  have hm1 : 200000000 < m := by omega
  clear hm
  by_cases hl : (x2.length : Int) > 60
  · rw [sparselaw14_TransversalDuals, bif_decide, if_pos hl, awakeT (by omega)]; rfl
  obtain ⟨N0, hN0, eP⟩ := Place_eq (a := x1) (n := 5) (by omega) (by omega)
  obtain ⟨N, hN, eN⟩ : ∃ N, N = N0 + 1 ∧ w_i64 (1 + (N0 : Int)) = (N : Int) := ⟨N0 + 1, rfl, by rw [w_i64_eq, wi (by omega) (by omega)]; omega⟩
  obtain ⟨es, hE, _, _, eS⟩ := Square_eq (N := N) (l := x2) (by omega) (by omega)
  have hM := pack_MG hE (show N ≤ 5 by omega)
  obtain ⟨E, eE, hEO, hEd⟩ := edges_ok m (by omega) hM
  rw [sparselaw14_TransversalDuals, bif_decide, if_neg hl, show g5 m x1 5 = some ((N0 : Int), (), (), ()) from eP m]
  simp only [Option.bind_some, eN]
  rw [eS m (by omega)]
  simp only [Option.bind_some]
  rcases Maximum_ok m hm1 (by omega) hM hEd hEO.len with ⟨row, U, W, eM, T⟩ | ⟨eM, _⟩
  · rw [eM]
    obtain ⟨a, ha, ePa⟩ := Place_eq (a := x3) (n := N) (by omega) (by omega)
    have eL := fun x y a b c d e => Duals_L0 m (x := x) (y := y) (a := a) (b := b) (c := c) (d := d) (e := e) (r := row) (U := U) (by omega) T.vl T.vn m 0 (by omega)
    simp only [Int.natCast_zero] at eL
    have hrl := T.rl
    have hul := T.ul
    have hvl := T.vl
    have hUr : ∀ i, R64 (U.getD i 0) := fun i => by have := T.ub i; unfold R64; omega
    have hVr : ∀ i, R64 (W.getD i 0) := fun i => by have := T.vb i; have := T.vn i; unfold R64; omega
    have u1 : (row.length : Int) = (N : Int) := by omega
    have u2 : (U.length : Int) = (N : Int) := by omega
    have u3 : (W.length : Int) = (N : Int) := by omega
    simp only [Option.bind_some, bif_ne, if_true, u1, u2, u3, eL, ePa]
    rw [Twin_eq (by omega) (by omega)]
    have c1 : (0 : Int) ≤ (a : Int) ∧ (a : Int) < (N : Int) := by omega
    simp only [Option.bind_some, u2, c1, and_self, if_true, Int.toNat_natCast, Nat.zero_add]
    rw [Twin_eq (by omega) (by omega)]
    have hMtd : Mtd N E row := ⟨fun j hj => by obtain ⟨x, hx, h, _⟩ := T.tight j hj; exact ⟨x, hx, h⟩, T.inj⟩
    have eMt : g19 m E row = some (true, (), (), ()) := by
      rcases matched_ok m (by omega) hEO T.rl with ⟨e, _⟩ | ⟨_, h⟩
      · exact e
      · exact absurd hMtd h
    have eC : g9 m (N : Int) (N : Int) (packS es N N) (packI es N N) (packV es N N) row U W = some (0, (), (), ()) := by
      rw [Check_all m (by omega) hM ⟨hrl, hul, hvl⟩ eE, eMt]
      simp only [Option.bind_some, Bool.not_true, cond_false]
      rcases proved_ok m (by omega) hEO hrl hul hvl hUr hVr with ⟨e, _⟩ | ⟨_, j, hj, x, hx, h⟩
      · rw [e]; rfl
      · refine absurd ?_ h
        have f := T.feas j hj x hx
        have g1 := T.ub x.1.toNat
        have g2 := T.vb j
        have g3 := T.vn j
        have e : sumZ (U.getD x.1.toNat 0) (W.getD j 0) = U.getD x.1.toNat 0 + W.getD j 0 := by rw [sumZ, if_neg (by omega), if_neg (by omega)]
        refine ⟨by rw [e]; exact f, fun hxr => ?_⟩
        obtain ⟨y, hy, q1, q2⟩ := T.tight j hj
        have := hEO.fn j x hx y hy (by rw [hxr, q1])
        rw [e, this, q2, q1, hxr]; exact Int.le_refl _
    have eC2 := Check_len m (by omega) hM hrl hul (by omega)
    have eD : x4 ≠ U.getD a 0 → g9 m (N : Int) (N : Int) (packS es N N) (packI es N N) (packV es N N) row (U.set a x4) W = some (140, (), (), ()) := by
      intro hne
      rw [Check_all m (by omega) hM ⟨hrl, by simp [hul], hvl⟩ eE, eMt]
      simp only [Option.bind_some, Bool.not_true, cond_false]
      have hU' : ∀ i, R64 ((U.set a x4).getD i 0) := fun i => by
        rw [getD_set' (by omega)]; split
        · exact h4
        · exact hUr i
      rcases proved_ok m (by omega) hEO hrl (by simp [hul]) hvl hU' hVr with ⟨_, h⟩ | ⟨e, _⟩
      · exfalso
        obtain ⟨j, hj, hja⟩ := surj T.rr T.inj ha
        obtain ⟨x, hx, q1, q2⟩ := T.tight j hj
        obtain ⟨k1, k2⟩ := h j hj x hx
        have k2 := k2 q1
        have hw := hEO.wt j x hx
        rw [q1, hja, Int.toNat_natCast] at q2 k1 k2
        rw [getD_set_eq (by omega)] at k1 k2
        have g2 := T.vb j
        have g3 := T.vn j
        have : sumZ x4 (W.getD j 0) = x.2 := by omega
        rw [sumZ] at this
        split at this
        · omega
        · split at this
          · omega
          · omega
      · rw [e]; rfl
    have eT : N ≠ 1 → g9 m (N : Int) (N : Int) (packS es N N) (packI es N N) (packV es N N) (row.set a (row.getD ((a + 1) % N) 0)) U W = some (130, (), (), ()) := by
      intro hN1
      rw [Check_all m (by omega) hM ⟨by simp [hrl], hul, hvl⟩ eE]
      rcases matched_ok m (r := row.set a (row.getD ((a + 1) % N) 0)) (by omega) hEO (by simp [hrl]) with ⟨_, h⟩ | ⟨e, _⟩
      · exfalso
        have hlt : (a + 1) % N < N := Nat.mod_lt _ (by omega)
        have hne : (a + 1) % N ≠ a := by
          by_cases q : a + 1 = N
          · rw [q, Nat.mod_self]; omega
          · rw [Nat.mod_eq_of_lt (by omega)]; omega
        have := h.2 a ((a + 1) % N) ha hlt (by rw [getD_set_eq (by omega), getD_set_ne (Ne.symm hne)])
        omega
      · rw [e]; rfl
    have c0 : (N : Int) ≠ 0 := by omega
    have em : Int.tmod (w_i64 ((a : Int) + 1)) (N : Int) = (((a + 1) % N : Nat) : Int) := by
      rw [w_i64_eq, wsucc (by omega), tm]
    have hlt : (a + 1) % N < N := Nat.mod_lt _ (by omega)
    have c2 : (0 : Int) ≤ (((a + 1) % N : Nat) : Int) ∧ (((a + 1) % N : Nat) : Int) < (N : Int) := by omega
    have c3 := c1
    by_cases hne : x4 = U.getD a 0
    · rw [if_pos hne]
      simp only [Option.bind_some, ne_eq, c0, not_false_eq_true, if_true, em, u1, c2, c3, and_self, Int.toNat_natCast, Nat.zero_add]
      by_cases hN1 : N = 1
      · have hN1' : (N : Int) = 1 := by omega
        obtain ⟨y, hy⟩ : ∃ y, g9 m (N : Int) (N : Int) (packS es N N) (packI es N N) (packV es N N) (row.set a (row.getD ((a + 1) % N) 0)) U W = some (y, (), (), ()) := by
          rw [Check_all m (by omega) hM ⟨by simp [hrl], hul, hvl⟩ eE]
          rcases matched_ok m (r := row.set a (row.getD ((a + 1) % N) 0)) (by omega) hEO (by simp [hrl]) with ⟨e, _⟩ | ⟨e, _⟩
          · rw [e]
            simp only [Option.bind_some, Bool.not_true, cond_false]
            rcases proved_ok m (r := row.set a (row.getD ((a + 1) % N) 0)) (by omega) hEO (by simp [hrl]) hul hvl hUr hVr with ⟨e, _⟩ | ⟨e, _⟩
            · rw [e]; exact ⟨_, rfl⟩
            · rw [e]; exact ⟨_, rfl⟩
          · rw [e]; exact ⟨_, rfl⟩
        rw [hy]
        simp only [Option.bind_some, bif_eq, hN1', if_true]
        rw [← hN1', eC2]
        simp only [Option.bind_some, if_true, eC]
        rw [awakeT (by omega)]; rfl
      · have hN1' : ¬ (N : Int) = 1 := by omega
        rw [eT hN1]
        simp only [Option.bind_some, bif_eq, hN1', if_false, if_true, eC2, eC]
        rw [awakeT (by omega)]; rfl
    · rw [if_neg hne, eD hne]
      simp only [Option.bind_some, if_true, ne_eq, c0, not_false_eq_true, em, u1, c2, c3, and_self, Int.toNat_natCast, Nat.zero_add]
      by_cases hN1 : N = 1
      · have hN1' : (N : Int) = 1 := by omega
        obtain ⟨y, hy⟩ : ∃ y, g9 m (N : Int) (N : Int) (packS es N N) (packI es N N) (packV es N N) (row.set a (row.getD ((a + 1) % N) 0)) U W = some (y, (), (), ()) := by
          rw [Check_all m (by omega) hM ⟨by simp [hrl], hul, hvl⟩ eE]
          rcases matched_ok m (r := row.set a (row.getD ((a + 1) % N) 0)) (by omega) hEO (by simp [hrl]) with ⟨e, _⟩ | ⟨e, _⟩
          · rw [e]
            simp only [Option.bind_some, Bool.not_true, cond_false]
            rcases proved_ok m (r := row.set a (row.getD ((a + 1) % N) 0)) (by omega) hEO (by simp [hrl]) hul hvl hUr hVr with ⟨e, _⟩ | ⟨e, _⟩
            · rw [e]; exact ⟨_, rfl⟩
            · rw [e]; exact ⟨_, rfl⟩
          · rw [e]; exact ⟨_, rfl⟩
        rw [hy]
        simp only [Option.bind_some, bif_eq, hN1', if_true]
        rw [← hN1', eC2]
        simp only [Option.bind_some, if_true, eC]
        rw [awakeT (by omega)]; rfl
      · have hN1' : ¬ (N : Int) = 1 := by omega
        rw [eT hN1]
        simp only [Option.bind_some, bif_eq, hN1', if_false, if_true, eC2, eC]
        rw [awakeT (by omega)]; rfl
  · rw [eM]
    simp only [Option.bind_some, bif_ne, bif_eq]
    rw [if_neg (by omega), if_pos trivial, awakeT (by omega)]; rfl
end Go.Vs.F
