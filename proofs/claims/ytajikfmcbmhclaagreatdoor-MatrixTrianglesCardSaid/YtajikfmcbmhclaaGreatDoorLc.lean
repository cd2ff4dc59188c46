/- The made values: rounding the sum of one of them gives it back (closed evaluations). Building from entries at different positions; made matrices. The law MatrixRound. Looking up by bisection; comparing a float with itself; symmetric made matrices. The law MatrixTriangles. -/
import Derived.Test.YtajikfmcbmhclaaGreatDoorLb

/-! MwPa -/
set_option linter.unusedVariables false
set_option maxRecDepth 100000
namespace Go.Vs.F
def valC (m : Nat) (a e : Int) : Option (Int × Unit × Unit) :=
  (g58 m a).bind fun y2 =>
  (g57 m y2.1.1 y2.1.2.1 y2.1.2.2.1 y2.1.2.2.2.1 e).bind fun y3 =>
  (g56 m y3.1.1 y3.1.2.1 y3.1.2.2.1 y3.1.2.2.2.1 0).bind fun y4 =>
  some (y4.1, ((), ()))
def rsB (j : Nat) (v : Int) : Bool := match g34 (j + 100) v with
  | some a => match g36 (j + 100) [(a.1.1, ((a.1.2.1, a.1.2.2.1), a.1.2.2.2.1))] with
    | some s => match g35 (j + 100) s.1.1 s.1.2.1 s.1.2.2.1 s.1.2.2.2.1 0 with
      | some r => r.1 == v
      | none => false
    | none => false
  | none => false
/- A value that is the sum of itself alone. -/
structure GoodR (v : Int) : Prop where
  fin : finB v = true
  rs : ∀ m, 100 ≤ m → ∃ a s r, g34 m v = some a ∧ g36 m [(a.1.1, ((a.1.2.1, a.1.2.2.1), a.1.2.2.2.1))] = some s ∧ g35 m s.1.1 s.1.2.1 s.1.2.2.1 s.1.2.2.2.1 0 = some r ∧ r.1 = v
def eqW (j : Nat) : Option (Int × Unit × Unit) → Option (Int × Unit × Unit) → Bool
  | some v, some w => v.1 == w.1 && (finB v.1 && rsB j v.1)
  | _, _ => false
theorem rsB_good {v : Int} (hf : finB v = true) (h : ∀ j, rsB j v = true) : GoodR v := by
  refine ⟨hf, fun m hm => ?_⟩
  obtain ⟨j, rfl⟩ : ∃ j, m = j + 100 := ⟨m - 100, by omega⟩
  have hj := h j
  unfold rsB at hj
  split at hj
  · rename_i a ea
    split at hj
    · rename_i s es
      split at hj
      · rename_i r er
        exact ⟨a, s, r, ea, es, er, eq_of_beq hj⟩
      · cases hj
    · cases hj
  · cases hj
theorem eqW_all {a e : Int} (h : ∀ j, eqW j (valC 100 a e) (valC (j + 100) a e) = true) : ∃ v, GoodR v ∧ ∀ m, 100 ≤ m → valC m a e = some (v, (), ()) := by
  cases e0 : valC 100 a e with
  | none => have := h 0; rw [e0] at this; cases this
  | some v =>
    have hv : ∀ j, ∃ w, valC (j + 100) a e = some w ∧ v.1 = w.1 ∧ finB v.1 = true ∧ rsB j v.1 = true := by
      intro j
      have hj := h j
      rw [e0] at hj
      cases e1 : valC (j + 100) a e with
      | none => rw [e1] at hj; cases hj
      | some w =>
        rw [e1] at hj
        simp only [eqW, Bool.and_eq_true, beq_iff_eq] at hj
        exact ⟨w, rfl, hj.1, hj.2.1, hj.2.2⟩
    obtain ⟨w0, _, _, hf, _⟩ := hv 0
    refine ⟨v.1, rsB_good hf (fun j => by obtain ⟨_, _, _, _, g⟩ := hv j; exact g), fun m hm => ?_⟩
    obtain ⟨j, rfl⟩ : ∃ j, m = j + 100 := ⟨m - 100, by omega⟩
    obtain ⟨w, g1, g2, _⟩ := hv j
    rw [g1, g2]
def rowW (j k : Nat) : Bool := (List.range 13).all fun e => eqW j (valC 100 ((k : Int) - 8) ((e : Int) - 6)) (valC (j + 100) ((k : Int) - 8) ((e : Int) - 6))
theorem rowW_0 (j : Nat) : rowW j 0 = true := by kernel_rfl
theorem rowW_1 (j : Nat) : rowW j 1 = true := by kernel_rfl
theorem rowW_2 (j : Nat) : rowW j 2 = true := by kernel_rfl
theorem rowW_3 (j : Nat) : rowW j 3 = true := by kernel_rfl
theorem rowW_4 (j : Nat) : rowW j 4 = true := by kernel_rfl
theorem rowW_5 (j : Nat) : rowW j 5 = true := by kernel_rfl
theorem rowW_6 (j : Nat) : rowW j 6 = true := by kernel_rfl
theorem rowW_7 (j : Nat) : rowW j 7 = true := by kernel_rfl
theorem rowW_8 (j : Nat) : rowW j 8 = true := by kernel_rfl
theorem rowW_9 (j : Nat) : rowW j 9 = true := by kernel_rfl
theorem rowW_10 (j : Nat) : rowW j 10 = true := by kernel_rfl
theorem rowW_11 (j : Nat) : rowW j 11 = true := by kernel_rfl
theorem rowW_12 (j : Nat) : rowW j 12 = true := by kernel_rfl
theorem rowW_13 (j : Nat) : rowW j 13 = true := by kernel_rfl
theorem rowW_14 (j : Nat) : rowW j 14 = true := by kernel_rfl
theorem rowW_15 (j : Nat) : rowW j 15 = true := by kernel_rfl
theorem rowW_16 (j : Nat) : rowW j 16 = true := by kernel_rfl
theorem rowW_all (j : Nat) : ∀ k, k < 17 → rowW j k = true
  | 0, _ => rowW_0 j
  | 1, _ => rowW_1 j
  | 2, _ => rowW_2 j
  | 3, _ => rowW_3 j
  | 4, _ => rowW_4 j
  | 5, _ => rowW_5 j
  | 6, _ => rowW_6 j
  | 7, _ => rowW_7 j
  | 8, _ => rowW_8 j
  | 9, _ => rowW_9 j
  | 10, _ => rowW_10 j
  | 11, _ => rowW_11 j
  | 12, _ => rowW_12 j
  | 13, _ => rowW_13 j
  | 14, _ => rowW_14 j
  | 15, _ => rowW_15 j
  | 16, _ => rowW_16 j
  | k + 17, h => absurd h (by omega)
theorem valW_zero (j : Nat) : ((List.range 17).all fun k => eqW j (valC 100 ((k : Int) - 8) 0) (valC (j + 100) ((k : Int) - 8) 0)) = true := by kernel_rfl
theorem valW_ok {k e : Nat} (hk : k < 17) (he : e < 13) : ∃ v, GoodR v ∧ ∀ m, 100 ≤ m → valC m ((k : Int) - 8) ((e : Int) - 6) = some (v, (), ()) :=
  eqW_all fun j => List.all_eq_true.1 (rowW_all j k hk) e (List.mem_range.2 he)
theorem valWZ_ok {k : Nat} (hk : k < 17) : ∃ v, GoodR v ∧ ∀ m, 100 ≤ m → valC m ((k : Int) - 8) 0 = some (v, (), ()) :=
  eqW_all fun j => List.all_eq_true.1 (valW_zero j) k (List.mem_range.2 hk)
theorem Value_good (n : Int) : ∃ v, GoodR v ∧ ∀ m, 100 ≤ m → g29 m n = some (v, (), ()) := by
  obtain ⟨k, hk, hp⟩ := Place_eq (a := n) (n := 17) (by omega) (by omega)
  obtain ⟨x, hx, hxl⟩ := wu_nat n
  have e17 : Int.tdiv (x : Int) 17 = ((x / 17 : Nat) : Int) := td x 17
  have e3 : Int.tdiv ((x / 17 : Nat) : Int) 3 = ((x / 17 / 3 : Nat) : Int) := td _ 3
  have e13 : Int.tmod ((x / 17 / 3 : Nat) : Int) 13 = ((x / 17 / 3 % 13 : Nat) : Int) := tm _ 13
  have l1 : x / 17 < 9223372036854775808 := by omega
  have l2 : x / 17 / 3 % 13 < 13 := by omega
  obtain ⟨v, hf, hv⟩ := valW_ok hk l2
  obtain ⟨v0, hf0, hv0⟩ := valWZ_ok hk
  have key : ∀ m, g29 m n = if Int.tmod ((x / 17 : Nat) : Int) 3 = 0 then valC m ((k : Int) - 8) (((x / 17 / 3 % 13 : Nat) : Int) - 6) else valC m ((k : Int) - 8) 0 := by
    intro m
    rw [g29]
    rw [show g7 m n 17 = some ((k : Int), (), (), ()) from hp m]
    simp only [Option.bind_some, w_u64, w_i64, hx, e17]
    rw [wu (by omega) (by omega), wi (n := ((x / 17 : Nat) : Int)) (by omega) (by omega), wi (n := (k : Int) - 8) (by omega) (by omega), e3, wi (n := ((x / 17 / 3 : Nat) : Int)) (by omega) (by omega), e13, wi (n := ((x / 17 / 3 % 13 : Nat) : Int) - 6) (by omega) (by omega), bif_eq]
    rfl
  by_cases h : Int.tmod ((x / 17 : Nat) : Int) 3 = 0
  · exact ⟨v, hf, fun m hm => by rw [key, if_pos h, hv m hm]⟩
  · exact ⟨v0, hf0, fun m hm => by rw [key, if_neg h, hv0 m hm]⟩
end Go.Vs.F

/-! MwTf -/
set_option linter.unusedVariables false
set_option linter.unusedSimpArgs false
set_option maxRecDepth 100000
namespace Go.Vs.F
variable {r c : Nat} {es : List Ent}
def posE (e : Ent) : Int × Int := (e.1, e.2.1)
theorem dist_iff : DistE es ↔ (es.map posE).Nodup := by
  rw [List.nodup_iff_pairwise_ne, List.pairwise_iff_getElem]
  have hg : ∀ i (hi : i < es.length), es.getD i zE = es[i] := fun i hi => by simp [List.getD, hi]
  constructor
  · intro h i j hi hj hij e
    simp only [List.length_map] at hi hj
    simp only [List.getElem_map, posE, Prod.mk.injEq] at e
    have := h i j hi hj (by rw [hg i hi, hg j hj]; exact e.1) (by rw [hg i hi, hg j hj]; exact e.2)
    omega
  · intro h k k' hk hk' h1 h2
    rw [hg k hk, hg k' hk'] at h1 h2
    rcases Nat.lt_trichotomy k k' with q | q | q
    · exact (h k k' (by simpa using hk) (by simpa using hk') q (by rw [List.getElem_map, List.getElem_map, posE, posE, h1, h2])).elim
    · exact q
    · exact (h k' k (by simpa using hk') (by simpa using hk) q (by rw [List.getElem_map, List.getElem_map, posE, posE, h1, h2])).elim
theorem dist_perm {l : List Ent} (hp : List.Perm l es) (hD : DistE es) : DistE l := dist_iff.2 ((hp.map posE).nodup_iff.2 (dist_iff.1 hD))
theorem entsOK_perm {l : List Ent} (hp : List.Perm l es) (hE : EntsOK r c es) : EntsOK r c l := entsOK_mem fun e he => mem_entsOK hE e (hp.mem_iff.1 he)
/-! ### FromEntries -/
theorem From_L0 (m : Nat) (hr : r ≤ 200) (hc : c ≤ 200) (hl : es.length ≤ 10000) (hE : EntsOK r c es) (L : List Ent) (a0 a1 : Int) (a2 a3 a4 : List Int) : ∀ (n k : Nat), es.length - k < n →
    g9_L0 m n (r : Int) (c : Int) L a0 a1 a2 a3 a4 es (es.length : Int) (k : Int) = some (.inr (.inl ((r : Int), (c : Int), L, (a0, a1, a2, a3, a4, ()), ())))
  | 0, k, h => by omega
  | n + 1, k, h => by
    rw [g9_L0]
    by_cases hk : k < es.length
    · have h1 : ((k : Int) < (es.length : Int)) := by omega
      have c1 : (0 : Int) ≤ (k : Int) ∧ (k : Int) < (es.length : Int) := by omega
      obtain ⟨⟨p1, p2⟩, ⟨p3, p4⟩, _⟩ := hE k hk
      have w1 : IntKind.wrap .i64 ((r : Int) - 1) = (r : Int) - 1 := wi (by omega) (by omega)
      have w2 : IntKind.wrap .i64 ((c : Int) - 1) = (c : Int) - 1 := wi (by omega) (by omega)
      have b1 : (decide (0 ≤ (es.getD k (0, (0, 0))).1) && decide ((es.getD k (0, (0, 0))).1 ≤ (r : Int) - 1)) = true := by
        rw [Bool.and_eq_true, decide_eq_true_eq, decide_eq_true_eq]; omega
      have b2 : (decide (0 ≤ (es.getD k (0, (0, 0))).2.1) && decide ((es.getD k (0, (0, 0))).2.1 ≤ (c : Int) - 1)) = true := by
        rw [Bool.and_eq_true, decide_eq_true_eq, decide_eq_true_eq]; omega
      simp only [bif_decide, h1, if_true, c1, and_self, Int.toNat_natCast, within_eq, Option.bind_some, w_i64_eq, w1, w2, b1, b2, Bool.not_true, cond_false, wsucc (show k < 4611686018427387904 by omega)]
      exact From_L0 m hr hc hl hE L a0 a1 a2 a3 a4 n (k + 1) (by omega)
    · have h1 : ¬ ((k : Int) < (es.length : Int)) := by omega
      simp only [bif_decide, h1, if_false]
theorem From_L1 (m : Nat) (hl : es.length ≤ 10000) (hE : EntsOK r c es) (x y : Int) (L : List Ent) (a0 a1 : Int) (a2 a3 a4 : List Int) : ∀ (n k : Nat), es.length - k < n →
    g9_L1 m n x y L a0 a1 a2 a3 a4 es (es.length : Int) (k : Int) = some (.inr (.inl (x, y, L, (a0, a1, a2, a3, a4, ()), ())))
  | 0, k, h => by omega
  | n + 1, k, h => by
    rw [g9_L1]
    by_cases hk : k < es.length
    · have h1 : ((k : Int) < (es.length : Int)) := by omega
      have c1 : (0 : Int) ≤ (k : Int) ∧ (k : Int) < (es.length : Int) := by omega
      have p5 := (hE k hk).2.2
      simp only [bif_decide, h1, if_true, c1, and_self, Int.toNat_natCast, IsFinite_eq, Option.bind_some, p5, Bool.not_true, cond_false, w_i64_eq, wsucc (show k < 4611686018427387904 by omega)]
      exact From_L1 m hl hE x y L a0 a1 a2 a3 a4 n (k + 1) (by omega)
    · have h1 : ¬ ((k : Int) < (es.length : Int)) := by omega
      simp only [bif_decide, h1, if_false]
/- One entry alone at its position. -/
theorem From_L3 (m n : Nat) (x y : Int) (a0 a1 : Int) (a2 a3 a4 : List Int) (out : List Ent) (e : Ent) (D : List Ent) {a : (Bool × Bool × List Int × Int × Unit) × Unit × Unit} (ha : g34 m e.2.2 = some a) (hD : ∀ e' ∈ D, ¬ (e'.1 = e.1 ∧ e'.2.1 = e.2.1)) :
    g9_L3 m (n + 2) x y (e :: D) a0 a1 a2 a3 a4 out e.1 e.2.1 e.2.2 [] = some (.inl (x, y, D, (a0, a1, a2, a3, a4, ()), out, (e.1, e.2.1, e.2.2, ()), [(a.1.1, ((a.1.2.1, a.1.2.2.1), a.1.2.2.2.1))], ())) := by
  have g0 : (e :: D).getD 0 ((0, (0, 0)) : Ent) = e := rfl
  have l0 : ((e :: D).length : Int) > 0 := by simp only [List.length_cons]; omega
  have c1 : (0 : Int) ≤ 0 ∧ (0 : Int) < ((e :: D).length : Int) := ⟨by omega, l0⟩
  have c2 : (0 : Int) ≤ 1 ∧ (1 : Int) ≤ ((e :: D).length : Int) ∧ ((e :: D).length : Int) ≤ ((e :: D).length : Int) := ⟨by omega, by omega, Int.le_refl _⟩
  rw [g9_L3, bif_decide, if_pos l0, if_pos c1, g0, bif_eq, if_pos rfl, if_pos c1, bif_eq, if_pos rfl, if_pos c1, ha, Option.bind_some, if_pos (by simp), if_pos c2]
  show g9_L3 m (n + 1) x y D a0 a1 a2 a3 a4 out e.1 e.2.1 e.2.2 [(a.1.1, ((a.1.2.1, a.1.2.2.1), a.1.2.2.2.1))] = _
  rw [g9_L3]
  cases D with
  | nil => rfl
  | cons e' D' =>
    have l1 : ((e' :: D').length : Int) > 0 := by simp only [List.length_cons]; omega
    have c3 : (0 : Int) ≤ 0 ∧ (0 : Int) < ((e' :: D').length : Int) := ⟨by omega, l1⟩
    have g1 : (e' :: D').getD 0 ((0, (0, 0)) : Ent) = e' := rfl
    have hne := hD e' (List.mem_cons_self ..)
    rw [bif_decide, if_pos l1, if_pos c3, g1, bif_eq]
    by_cases q : e'.1 = e.1
    · rw [if_pos q, if_pos c3, bif_eq, if_neg (fun q2 => hne ⟨q, q2⟩)]
    · rw [if_neg q]
theorem From_L2 (m : Nat) (hm : 100 ≤ m) (x y : Int) (a0 a1 : Int) (a2 a3 a4 : List Int) : ∀ (D : List Ent) (n : Nat) (out : List Ent), D.length < n → out.length + D.length ≤ 1000000 → (∀ e ∈ D, GoodR e.2.2) → D.Pairwise (fun a b => ltE a b = true) →
    g9_L2 m n x y D a0 a1 a2 a3 a4 out = some (.inr (.inl (x, y, (a0, a1, a2, a3, a4, ()), out ++ D, ())))
  | D, 0, out, h, _, _, _ => by omega
  | [], n + 1, out, h, _, _, _ => by
    rw [g9_L2, bif_decide, if_neg (by simp), List.append_nil]
  | e :: D, n + 1, out, h, hlen, hg, hp => by
    simp only [List.length_cons] at h hlen
    obtain ⟨a, s, v, e1, e2, e3, e4⟩ := (hg e (List.mem_cons_self ..)).rs m hm
    have hfin := (hg e (List.mem_cons_self ..)).fin
    obtain ⟨hp1, hp2⟩ := List.pairwise_cons.1 hp
    have l0 : ((e :: D).length : Int) > 0 := by simp only [List.length_cons]; omega
    have c1 : (0 : Int) ≤ 0 ∧ (0 : Int) < ((e :: D).length : Int) := ⟨by omega, l0⟩
    have g0 : (e :: D).getD 0 ((0, (0, 0)) : Ent) = e := rfl
    obtain ⟨n3, rfl⟩ : ∃ n3, m = n3 + 2 := ⟨m - 2, by omega⟩
    have h3 := From_L3 (n3 + 2) n3 x y a0 a1 a2 a3 a4 out e D e1 (fun e' he' q => by
      have := hp1 e' he'
      unfold ltE at this
      simp only [Bool.or_eq_true, decide_eq_true_eq, Bool.and_eq_true] at this
      omega)
    rw [g9_L2, bif_decide, if_pos l0, if_pos c1, g0, h3, Option.bind_some]
    dsimp only
    rw [e2, Option.bind_some, e3, Option.bind_some, IsFinite_eq, Option.bind_some, e4]
    dsimp only
    rw [hfin, Bool.not_true, cond_false, if_pos (by show out.length + 1 ≤ _; omega)]
    have ih := From_L2 (n3 + 2) hm x y a0 a1 a2 a3 a4 D n (out ++ [e]) (by omega) (by rw [List.length_append, List.length_singleton]; omega) (fun e' he' => hg e' (List.mem_cons_of_mem _ he')) hp2
    rw [List.append_assoc] at ih
    exact ih
theorem FromEntries_eq {m : Nat} (hm : 3000000 < m) (hE : EntsOK r c es) (hD : DistE es) (hg : ∀ e ∈ es, GoodR e.2.2) (hr : r ≤ 200) (hc : c ≤ 200) (hl : es.length ≤ 10000) :
    g9 m (r : Int) (c : Int) es = some ((((r : Int), (c : Int), packS es r c, packI es r c, packV es r c, ()), 0, ()), (), (), (), ()) := by
  obtain ⟨D, d1, d2, d3⟩ := g33_eq (m := m) es (by omega) (by omega)
  have hDc := sorted_can hE hD d2 d3
  have hlen := d3.length_eq
  have hpw : D.Pairwise (fun a b => ltE a b = true) := by rw [hDc]; exact can_pair c
  have hED : EntsOK r c D := entsOK_perm d3 hE
  have hDD : DistE D := dist_perm d3 hD
  have w1 : (decide (0 ≤ (r : Int)) && decide ((r : Int) ≤ 200)) = true := by rw [Bool.and_eq_true, decide_eq_true_eq, decide_eq_true_eq]; omega
  have w2 : (decide (0 ≤ (c : Int)) && decide ((c : Int) ≤ 200)) = true := by rw [Bool.and_eq_true, decide_eq_true_eq, decide_eq_true_eq]; omega
  have f0 := From_L0 m hr hc hl hE es 0 0 [] [] [] m 0 (by omega)
  have f1 := From_L1 m hl hE (r : Int) (c : Int) es 0 0 [] [] [] m 0 (by omega)
  have f2 := From_L2 m (by omega) (r : Int) (c : Int) 0 0 [] [] [] D m [] (by omega) (by simp; omega) (fun e he => hg e (d3.mem_iff.1 he)) hpw
  rw [Int.natCast_zero] at f0 f1
  rw [List.nil_append] at f2
  rw [g9, within_eq, Option.bind_some, w1, Bool.not_true, cond_false, within_eq, Option.bind_some, w2, Bool.not_true, cond_false, bif_decide, if_neg (by omega), f0, Option.bind_some]
  dsimp only
  rw [f1, Option.bind_some]
  dsimp only
  rw [d1, Option.bind_some]
  dsimp only
  rw [f2, Option.bind_some]
  dsimp only
  rw [build_eq hED hDD hr hc (by omega) (by omega), Option.bind_some]
  dsimp only
  rw [packS_congr hDD (fun x => d3.mem_iff) hD, packI_congr hDD (fun x => d3.mem_iff) hD, packV_congr hDD (fun x => d3.mem_iff) hD]
/-! ### Made matrices -/
/- What is packed is a valid matrix. -/
theorem pack_MV (hE : EntsOK r c es) (hr : r ≤ 200) (hc : c ≤ 200) (ha : c * r ≤ 10000) : MV r c (packS es r c) (packI es r c) (packV es r c) := ⟨pack_ok hr hc ha, packV_len _ _ _, pack_chk hE hr hc ha⟩
theorem can_good (hg : ∀ e ∈ es, GoodR e.2.2) : ∀ e ∈ can es r c, GoodR e.2.2 := fun e he => by
  obtain ⟨i, j, _, _, h3, rfl⟩ := mem_can.1 he
  exact hg _ (lastIx_mem h3)
end Go.Vs.F

/-! MwTg -/
set_option linter.unusedVariables false
set_option linter.unusedSimpArgs false
set_option maxRecDepth 100000
namespace Go.Vs.F
section
variable {R C : Nat} {S I V : List Int}
/- Packing what is a permutation of the entries gives the matrix back. -/
theorem pack_back (h : MV R C S I V) {l : List Ent} (hp : List.Perm l (ents S I V C 0)) : packS l R C = S ∧ packI l R C = I ∧ packV l R C = V := by
  obtain ⟨a, b, c⟩ := pack_ents h.ok h.vl h.ents
  have hD := dist_perm hp h.dist
  exact ⟨by rw [packS_congr hD (fun x => hp.mem_iff) h.dist, a], by rw [packI_congr hD (fun x => hp.mem_iff) h.dist, b], by rw [packV_congr hD (fun x => hp.mem_iff) h.dist, c]⟩
end
end Go.Vs.F

/-! MwTh -/
set_option linter.unusedVariables false
set_option linter.unusedSimpArgs false
set_option maxRecDepth 100000
namespace Go.Vs.F
/-! ### Bisection -/
theorem BS_L0 (m : Nat) {xs : List Int} {t a : Int} (hl : xs.length ≤ 100000) (ha : ∀ i j, i < j → j < xs.length → xs.getD i 0 < xs.getD j 0) : ∀ (n i j : Nat), j - i < n → i ≤ j → j ≤ xs.length → (∀ k, k < i → xs.getD k 0 < t) → (∀ k, j ≤ k → k < xs.length → t ≤ xs.getD k 0) →
    ∃ r : Nat, g81_L0 m n xs t a (i : Int) (j : Int) = some (.inl (xs, t, a, (r : Int), ())) ∧ r ≤ xs.length ∧ (∀ k, k < r → xs.getD k 0 < t) ∧ ∀ k, r ≤ k → k < xs.length → t ≤ xs.getD k 0
  | 0, i, j, h, _, _, _, _ => by omega
  | n + 1, i, j, h, hij, hj, h1, h2 => by
    rw [g81_L0, half_eq (by omega), bif_decide]
    by_cases hlt : i < j
    · have c1 : (0 : Int) ≤ (((i + j) / 2 : Nat) : Int) ∧ (((i + j) / 2 : Nat) : Int) < (xs.length : Int) := by omega
      rw [if_pos (by omega), if_pos c1, Int.toNat_natCast, g115]
      simp only [g95, Option.bind_some, bif_ne, if_true]
      by_cases hp : xs.getD ((i + j) / 2) 0 < t
      · rw [decide_eq_true hp]
        simp only [cond_true]
        rw [show w_i64 ((((i + j) / 2 : Nat) : Int) + 1) = (((i + j) / 2 + 1 : Nat) : Int) from wsucc (by omega)]
        refine BS_L0 m hl ha n _ _ (by omega) (by omega) hj (fun k hk => ?_) h2
        by_cases e : k = (i + j) / 2
        · subst e; exact hp
        · have := ha k ((i + j) / 2) (by omega) (by omega); omega
      · rw [decide_eq_false hp]
        simp only [cond_false]
        refine BS_L0 m hl ha n _ _ (by omega) (by omega) (by omega) h1 (fun k hk hkl => ?_)
        by_cases e : k = (i + j) / 2
        · subst e; omega
        · have := ha ((i + j) / 2) k (by omega) hkl; omega
    · rw [if_neg (by omega)]
      have : i = j := by omega
      subst this
      exact ⟨i, rfl, hj, h1, h2⟩
theorem BS_found {m : Nat} {xs : List Int} {k : Nat} (hl : xs.length ≤ 100000) (hm : 100001 < m) (ha : ∀ i j, i < j → j < xs.length → xs.getD i 0 < xs.getD j 0) (hk : k < xs.length) : g81 m xs (xs.getD k 0) = some (((k : Int), true, ()), (), (), ()) := by
  obtain ⟨r, e, h1, h2, h3⟩ := BS_L0 m (t := xs.getD k 0) (a := (xs.length : Int)) hl ha m 0 xs.length (by omega) (by omega) (Nat.le_refl _) (fun k hk => absurd hk (Nat.not_lt_zero _)) (fun k a b => by omega)
  rw [Int.natCast_zero] at e
  have : r = k := by
    rcases Nat.lt_trichotomy r k with q | q | q
    · have g1 := h3 r (Nat.le_refl _) (by omega)
      have g2 := ha r k q hk
      omega
    · exact q
    · have := h2 k q; omega
  subst this
  have c1 : (0 : Int) ≤ (r : Int) ∧ (r : Int) < (xs.length : Int) := by omega
  rw [g81, e, Option.bind_some]
  dsimp only
  rw [bif_decide, if_pos (by omega), if_pos c1, Int.toNat_natCast, bif_eq, if_pos rfl]
section
variable {R C : Nat} {S I V : List Int}
theorem at_found {m : Nat} (hm : 3000000 < m) (h : MV R C S I V) {i j v : Int} (he : ((i, (j, v)) : Ent) ∈ ents S I V C 0) : g49 m (R : Int) (C : Int) S I V i j = some ((v, true, ()), (), (), (), ()) := by
  obtain ⟨j', t, _, hj, t1, t2, e⟩ := mem_ents2.1 he
  simp only [Prod.mk.injEq] at e
  obtain ⟨e1, e2, e3⟩ := e
  subst e2
  have hjC : j' < C := by omega
  have hl := h.ok.st.len
  have hsz := h.ok.sz
  have hcz := h.ok.cz
  have hvl := h.vl
  have a := h.ok.st.rng (j := j') (by omega)
  have b := h.ok.st.rng (j := j' + 1) (by omega)
  have mo := h.ok.st.mono j' hjC
  have c1 : (0 : Int) ≤ (j' : Int) ∧ (j' : Int) < (S.length : Int) := by omega
  have c2 : (0 : Int) ≤ ((j' + 1 : Nat) : Int) ∧ ((j' + 1 : Nat) : Int) < (S.length : Int) := by omega
  have c3 : (0 : Int) ≤ S.getD j' 0 ∧ S.getD j' 0 ≤ S.getD (j' + 1) 0 ∧ S.getD (j' + 1) 0 ≤ (I.length : Int) := by omega
  have hcl := colOf_len h.ok.st hjC
  have hk : t - (S.getD j' 0).toNat < (colOf S I j').length := by omega
  have hcg : ∀ k, k < (colOf S I j').length → (colOf S I j').getD k 0 = I.getD ((S.getD j' 0).toNat + k) 0 := fun k hk => colOf_get h.ok.st hjC hk
  have hbs := BS_found (m := m) (xs := colOf S I j') (k := t - (S.getD j' 0).toNat) (by omega) (by omega) (fun x y hxy hy => by
    rw [hcg x (by omega), hcg y hy]
    have := h.ok.asc hjC (y - x - 1) ((S.getD j' 0).toNat + x) (by omega) (by omega)
    rw [show (S.getD j' 0).toNat + x + (y - x - 1 + 1) = (S.getD j' 0).toNat + y by omega] at this
    exact this) hk
  rw [hcg _ hk, show (S.getD j' 0).toNat + (t - (S.getD j' 0).toNat) = t by omega, ← e1] at hbs
  have w1 : w_i64 (S.getD j' 0 + ((t - (S.getD j' 0).toNat : Nat) : Int)) = (t : Int) := by rw [w_i64_eq, wi (by omega) (by omega)]; omega
  have c4 : (0 : Int) ≤ (t : Int) ∧ (t : Int) < (V.length : Int) := by omega
  rw [g49, if_pos c1, show w_i64 ((j' : Int) + 1) = ((j' + 1 : Nat) : Int) from wsucc (by omega), if_pos c2]
  simp only [Int.toNat_natCast]
  rw [if_pos c3]
  have hbs' : g81 m ((I.drop (S.getD j' 0).toNat).take ((S.getD (j' + 1) 0).toNat - (S.getD j' 0).toNat)) i = some ((((t - (S.getD j' 0).toNat : Nat) : Int), true, ()), (), (), ()) := hbs
  rw [hbs', Option.bind_some]
  simp only [Bool.not_true, cond_false]
  rw [if_pos c1, w1, if_pos c4, Int.toNat_natCast, ← e3]
theorem Kind_some (m : Nat) (v : Int) : ∃ k, g117 m v = some (k, (), ()) := by
  rw [g117, g59, Option.bind_some]
  simp only [bif_eq, bif_ne]
  repeat (first | exact ⟨_, rfl⟩ | split)
theorem place_some (m : Nat) (v : Int) : ∃ k, g83 m v = some (k, (), ()) := by
  rw [g83]
  obtain ⟨b, e⟩ : ∃ b, g66 m v = some (b, (), ()) := ⟨_, rfl⟩
  rw [e, Option.bind_some]
  cases b <;> exact ⟨_, rfl⟩
theorem nan_some {m : Nat} (hm : 10 < m) (v : Int) : ∃ b, g82 m [v, v] = some (b, (), ()) := by
  obtain ⟨k, e⟩ := Kind_some m v
  obtain ⟨n, rfl⟩ : ∃ n, m = n + 3 := ⟨m - 3, by omega⟩
  have e0 : ([v, v] : List Int).getD (0 : Int).toNat 0 = v := rfl
  have e1 : ([v, v] : List Int).getD (w_i64 (0 + 1)).toNat 0 = v := rfl
  have c0 : (0 : Int) ≤ 0 ∧ (0 : Int) < (([v, v] : List Int).length : Int) := ⟨by decide, show (0 : Int) < 2 by decide⟩
  have c1 : (0 : Int) ≤ w_i64 (0 + 1) ∧ w_i64 (0 + 1) < (([v, v] : List Int).length : Int) := ⟨by decide, show (1 : Int) < 2 by decide⟩
  rw [g82]
  show ∃ b, ((g82_L0 (n + 3) (n + 2 + 1) [v, v] 2 0).bind _) = _
  rw [g82_L0, bif_decide, if_pos (by omega), if_pos c0, e0, e, Option.bind_some, bif_eq]
  by_cases hk : k = 3
  · rw [if_pos hk]; exact ⟨_, rfl⟩
  · rw [if_neg hk, g82_L0, bif_decide, if_pos (by decide), if_pos c1, e1, e, Option.bind_some, bif_eq, if_neg hk]
    exact ⟨_, rfl⟩
theorem Cmp_self {m : Nat} (hm : 10 < m) (v : Int) : ∃ b, g50 m v v = some ((0, b, ()), (), (), ()) := by
  obtain ⟨b, e⟩ := nan_some hm v
  obtain ⟨k, e2⟩ := place_some m v
  rw [g50, e, Option.bind_some]
  cases b with
  | true => exact ⟨_, rfl⟩
  | false =>
    simp only [cond_false]
    rw [e2, Option.bind_some, Option.bind_some, bif_decide, if_neg (Int.lt_irrefl _), bif_decide, if_neg (Int.lt_irrefl _)]
    exact ⟨_, rfl⟩
theorem Symmetric_L0 {m : Nat} (hm : 3000000 < m) (h : MV R C S I V) (hs : ∀ e ∈ ents S I V C 0, swE e ∈ ents S I V C 0) : ∀ (n k : Nat), (ents S I V C 0).length - k < n →
    g25_L0 m n (R : Int) (C : Int) S I V (ents S I V C 0) ((ents S I V C 0).length : Int) (k : Int) = some (.inr (.inl ()))
  | 0, k, hn => by omega
  | n + 1, k, hn => by
    have hlen := h.len
    rw [g25_L0]
    by_cases hk : k < (ents S I V C 0).length
    · have h1 : ((k : Int) < ((ents S I V C 0).length : Int)) := by omega
      have c1 : (0 : Int) ≤ (k : Int) ∧ (k : Int) < ((ents S I V C 0).length : Int) := by omega
      have hmem := hs _ (getD_memE hk)
      have ea := at_found hm h (i := ((ents S I V C 0).getD k zE).2.1) (j := ((ents S I V C 0).getD k zE).1) (v := ((ents S I V C 0).getD k zE).2.2) hmem
      obtain ⟨b, eb⟩ := Cmp_self (m := m) (by omega) ((ents S I V C 0).getD k zE).2.2
      rw [bif_decide, if_pos h1, if_pos c1, Int.toNat_natCast, Nat.zero_add]
      show ((g49 m (R : Int) (C : Int) S I V ((ents S I V C 0).getD k zE).2.1 ((ents S I V C 0).getD k zE).1).bind fun y1 => (g50 m ((ents S I V C 0).getD k zE).2.2 y1.1.1).bind fun y2 => bif y2.1.1 != 0 then some (.inl (false, ())) else g25_L0 m n (R : Int) (C : Int) S I V (ents S I V C 0) ((ents S I V C 0).length : Int) (w_i64 ((k : Int) + 1))) = _
      rw [ea, Option.bind_some, eb, Option.bind_some, bif_ne, if_pos rfl, show w_i64 ((k : Int) + 1) = ((k + 1 : Nat) : Int) from wsucc (by omega)]
      exact Symmetric_L0 hm h hs n (k + 1) (by omega)
    · rw [bif_decide, if_neg (by omega)]
end
theorem Symmetric_ok {m N : Nat} {S I V : List Int} (hm : 3000000 < m) (h : MV N N S I V) (hs : ∀ e ∈ ents S I V N 0, swE e ∈ ents S I V N 0) : g25 m (N : Int) (N : Int) S I V = some (true, (), ()) := by
  have hlen := h.len
  have hsl := h.sl
  have hvl := h.vl
  have hsz := h.ok.sz
  have e := Symmetric_L0 hm h hs m 0 (by omega)
  rw [Int.natCast_zero] at e
  rw [g25, g28_eq (by omega) (by omega) (by omega) (by omega) (by omega), h.chk, Option.bind_some, bif_ne, if_pos rfl, bif_ne, if_pos rfl, mEntries_eq (by omega) h.ok h.vl, Option.bind_some]
  dsimp only
  rw [e]; rfl
/-! ### Symmetric made matrices -/
def vlE (es : List Ent) (i j : Nat) : Option Int := if 0 < lastIx es i j es.length then some (es.getD (lastIx es i j es.length - 1) zE).2.2 else none
theorem lastIx_app {es zs : List Ent} {i j : Nat} : ∀ {t : Nat}, t ≤ es.length → lastIx (es ++ zs) i j t = lastIx es i j t
  | 0, _ => rfl
  | t + 1, h => by
    have hg : (es ++ zs).getD t ((0, (0, 0)) : Ent) = es.getD t (0, (0, 0)) := by simp [List.getD, List.getElem?_append, show t < es.length by omega]
    rw [lastIx, lastIx, hg, lastIx_app (t := t) (by omega)]
theorem vlE_snoc {es : List Ent} {e : Ent} {i j : Nat} : vlE (es ++ [e]) i j = if e.1 = (i : Int) ∧ e.2.1 = (j : Int) then some e.2.2 else vlE es i j := by
  have hg : (es ++ [e]).getD es.length ((0, (0, 0)) : Ent) = e := by simp [List.getD]
  unfold vlE
  rw [List.length_append, List.length_singleton, lastIx, hg]
  split
  · rw [if_pos (by omega), Nat.add_sub_cancel]
    rw [show (es ++ [e]).getD es.length zE = e from hg]
  · rw [lastIx_app (Nat.le_refl _)]
    split
    · rename_i h1 h2
      have hle := lastIx_le es i j es.length
      have : (es ++ [e]).getD (lastIx es i j es.length - 1) zE = es.getD (lastIx es i j es.length - 1) zE := by simp [List.getD, List.getElem?_append, show lastIx es i j es.length - 1 < es.length by omega]
      rw [this]
    · rfl
def SymV (es : List Ent) : Prop := ∀ i j, vlE es i j = vlE es j i
theorem SymV.diag {es : List Ent} (h : SymV es) {i v : Int} : SymV (es ++ [(i, (i, v))]) := fun a b => by
  rw [vlE_snoc, vlE_snoc, h a b]
  by_cases q : i = (a : Int) ∧ i = (b : Int)
  · rw [if_pos q, if_pos ⟨q.2, q.1⟩]
  · rw [if_neg q, if_neg (fun q' => q ⟨q'.2, q'.1⟩)]
theorem SymV.pair {es : List Ent} (h : SymV es) {i j v : Int} (hne : i ≠ j) : SymV (es ++ [(i, (j, v)), (j, (i, v))]) := fun a b => by
  have e : es ++ [(i, (j, v)), (j, (i, v))] = (es ++ [((i, (j, v)) : Ent)]) ++ [((j, (i, v)) : Ent)] := by simp
  rw [e, vlE_snoc, vlE_snoc, vlE_snoc, vlE_snoc, h a b]
  simp only
  by_cases q1 : j = (a : Int) ∧ i = (b : Int)
  · rw [if_pos q1, if_neg (show ¬ (j = (b : Int) ∧ i = (a : Int)) by omega), if_pos ⟨q1.2, q1.1⟩]
  · rw [if_neg q1]
    by_cases q2 : i = (a : Int) ∧ j = (b : Int)
    · rw [if_pos q2, if_pos ⟨q2.2, q2.1⟩]
    · rw [if_neg q2, if_neg (fun q => q2 ⟨q.2, q.1⟩), if_neg (fun q => q1 ⟨q.2, q.1⟩)]
theorem SymV.can {es : List Ent} {N : Nat} (h : SymV es) : ∀ e ∈ can es N N, swE e ∈ can es N N := fun e he => by
  obtain ⟨i, j, hi, hj, hp, rfl⟩ := mem_can.1 he
  have h1 := h i j
  have e1 : vlE es i j = some (es.getD (lastIx es i j es.length - 1) zE).2.2 := by unfold vlE; rw [if_pos hp]
  rw [e1] at h1
  have h2 : 0 < lastIx es j i es.length := by
    refine Classical.byContradiction fun hn => ?_
    unfold vlE at h1; rw [if_neg hn] at h1; cases h1
  have h3 : (es.getD (lastIx es i j es.length - 1) zE).2.2 = (es.getD (lastIx es j i es.length - 1) zE).2.2 := by
    unfold vlE at h1; rw [if_pos h2] at h1; exact Option.some.inj h1
  exact mem_can.2 ⟨j, i, hj, hi, h2, by simp only [swE]; rw [h3]⟩
theorem At_eqM (l : List Int) (k : Nat) : ∃ x, ∀ m, g48 m l (k : Int) = some (x, (), (), ()) := by
  by_cases h : (k : Int) < (l.length : Int)
  · exact ⟨_, fun m => by rw [g48, bif_decide, if_pos h, if_pos (by omega)]⟩
  · exact ⟨_, fun m => by rw [g48, bif_decide, if_neg h]⟩
theorem SymMake_L0 {N : Nat} (hN : N ≤ 100) (l : List Int) (a0 a1 : Int) (a2 a3 a4 : List Int) : ∀ (d k : Nat) (es : List Ent), N - k = d → k ≤ N → EntsOK N N es → (∀ e ∈ es, GoodR e.2.2) → SymV es → es.length = k →
    ∃ es', EntsOK N N es' ∧ (∀ e ∈ es', GoodR e.2.2) ∧ SymV es' ∧ es'.length = N ∧ ∀ m n, 100 ≤ m → d < n → g24_L0 m n (N : Int) l a0 a1 a2 a3 a4 es (k : Int) = some (.inl ((N : Int), l, (a0, a1, a2, a3, a4, ()), es', ()))
  | 0, k, es, hd, hk, hE, hG, hS, hl => by
    refine ⟨es, hE, hG, hS, by omega, fun m n hm hn => ?_⟩
    obtain ⟨n, rfl⟩ : ∃ n', n = n' + 1 := ⟨n - 1, by omega⟩
    rw [g24_L0, bif_decide, if_neg (by omega)]
  | d + 1, k, es, hd, hk, hE, hG, hS, hl => by
    obtain ⟨x, hx⟩ := At_eqM l k
    obtain ⟨v, hv, ev⟩ := Value_good x
    obtain ⟨es', g1, g2, g3, g4, g5⟩ := SymMake_L0 hN l a0 a1 a2 a3 a4 d (k + 1) (es ++ [((k : Int), ((k : Int), v))]) (by omega) (by omega) (hE.snoc (by omega) (by omega) hv.fin) (fun e he => by
      rcases List.mem_append.1 he with he | he
      · exact hG e he
      · rw [List.mem_singleton] at he; subst he; exact hv) hS.diag (by simp [hl])
    refine ⟨es', g1, g2, g3, g4, fun m n hm hn => ?_⟩
    obtain ⟨n, rfl⟩ : ∃ n', n = n' + 1 := ⟨n - 1, by omega⟩
    rw [g24_L0, bif_decide, if_pos (by omega), hx m, Option.bind_some, ev m hm, Option.bind_some, if_pos (by simp; omega), show w_i64 ((k : Int) + 1) = ((k + 1 : Nat) : Int) from wsucc (by omega)]
    exact g5 m n hm (by omega)
theorem SymMake_L1 {N : Nat} (hN : N ≤ 100) (l : List Int) (hl : l.length ≤ 100000) (a0 a1 : Int) (a2 a3 a4 : List Int) : ∀ (d k : Nat) (es : List Ent), l.length - k ≤ d → k ≤ l.length + 200 → EntsOK N N es → (∀ e ∈ es, GoodR e.2.2) → SymV es → es.length ≤ k →
    ∃ es', EntsOK N N es' ∧ (∀ e ∈ es', GoodR e.2.2) ∧ SymV es' ∧ es'.length ≤ l.length + 200 ∧ ∀ m n, 100 ≤ m → d < n → g24_L1 m n (N : Int) l a0 a1 a2 a3 a4 es (k : Int) = some (.inl ((N : Int), (a0, a1, a2, a3, a4, ()), es', ()))
  | d, k, es, hn, hk, hE, hG, hS, hk2 => by
    have e2 : w_i64 ((k : Int) + 2) = ((k + 2 : Nat) : Int) := wi (by omega) (by omega)
    have e1 : w_i64 ((k : Int) + 1) = ((k + 1 : Nat) : Int) := wsucc (by omega)
    have e3 : w_i64 ((k : Int) + 3) = ((k + 3 : Nat) : Int) := wi (by omega) (by omega)
    by_cases h : k + 2 < l.length
    · by_cases h1 : 0 < N
      · obtain ⟨i, hi, ei⟩ := Place_eq (a := l.getD k 0) (n := N) h1 (by omega)
        obtain ⟨j, hj, ej⟩ := Place_eq (a := l.getD (k + 1) 0) (n := N) h1 (by omega)
        obtain ⟨v, hv, ev⟩ := Value_good (l.getD (k + 2) 0)
        cases d with
        | zero => omega
        | succ d =>
        by_cases hne : (i : Int) = (j : Int)
        · obtain ⟨es', g1, g2, g3, g4, g5⟩ := SymMake_L1 hN l hl a0 a1 a2 a3 a4 d (k + 3) es (by omega) (by omega) hE hG hS (by omega)
          refine ⟨es', g1, g2, g3, g4, fun m n hm hdn => ?_⟩
          obtain ⟨n, rfl⟩ : ∃ n', n = n' + 1 := ⟨n - 1, by omega⟩
          rw [g24_L1, bif_decide, e2, e1, e3, bif_decide]
          rw [if_pos (by omega), if_pos (by omega), if_pos (by omega), Int.toNat_natCast, Int.toNat_natCast, Int.toNat_natCast, ei, ej, ev m hm]
          simp only [Option.bind_some]
          rw [if_pos (by omega), if_pos (by omega), bif_ne, if_pos hne]
          exact g5 m n hm (by omega)
        · obtain ⟨es', g1, g2, g3, g4, g5⟩ := SymMake_L1 hN l hl a0 a1 a2 a3 a4 d (k + 3) (es ++ [((i : Int), ((j : Int), v)), ((j : Int), ((i : Int), v))]) (by omega) (by omega) (by
            have := (hE.snoc (a := (i : Int)) (b := (j : Int)) (by omega) (by omega) hv.fin).snoc (a := (j : Int)) (b := (i : Int)) (by omega) (by omega) hv.fin
            rw [List.append_assoc] at this
            exact this) (fun e he => by
              rcases List.mem_append.1 he with he | he
              · exact hG e he
              · rcases List.mem_cons.1 he with rfl | he
                · exact hv
                · rw [List.mem_singleton] at he; subst he; exact hv) (hS.pair hne) (by simp; omega)
          refine ⟨es', g1, g2, g3, g4, fun m n hm hdn => ?_⟩
          obtain ⟨n, rfl⟩ : ∃ n', n = n' + 1 := ⟨n - 1, by omega⟩
          rw [g24_L1, bif_decide, e2, e1, e3, bif_decide]
          rw [if_pos (by omega), if_pos (by omega), if_pos (by omega), Int.toNat_natCast, Int.toNat_natCast, Int.toNat_natCast, ei, ej, ev m hm]
          simp only [Option.bind_some]
          rw [if_pos (by omega), if_pos (by omega), bif_ne, if_neg hne, if_pos (by simp; omega)]
          exact g5 m n hm (by omega)
      · refine ⟨es, hE, hG, hS, by omega, fun m n hm hdn => ?_⟩
        obtain ⟨n, rfl⟩ : ∃ n', n = n' + 1 := ⟨n - 1, by omega⟩
        rw [g24_L1, bif_decide, e2, e1, e3, bif_decide, if_pos (by omega), if_neg (by omega)]
    · refine ⟨es, hE, hG, hS, by omega, fun m n hm hdn => ?_⟩
      obtain ⟨n, rfl⟩ : ∃ n', n = n' + 1 := ⟨n - 1, by omega⟩
      rw [g24_L1, bif_decide, e2, e1, e3, bif_decide, if_neg (by omega)]
theorem SymMake_eq {N : Nat} (hN : N ≤ 100) {l : List Int} (hl : l.length ≤ 100000) : ∃ es, EntsOK N N es ∧ (∀ e ∈ es, GoodR e.2.2) ∧ SymV es ∧ ∀ m, 2000000 < m →
    g24 m (N : Int) l = some (((N : Int), (N : Int), packS es N N, packI es N N, packV es N N, ()), (), (), ()) := by
  obtain ⟨e1, h1, h2, h3, h4, h5⟩ := SymMake_L0 hN l 0 0 [] [] [] N 0 [] (by omega) (by omega) (fun k hk => absurd hk (Nat.not_lt_zero _)) (fun e he => by cases he) (fun i j => rfl) rfl
  obtain ⟨e2, g1, g2, g3, g4, g5⟩ := SymMake_L1 hN l hl 0 0 [] [] [] l.length N e1 (by omega) (by omega) h1 h2 h3 (by omega)
  refine ⟨e2, g1, g2, g3, fun m hm => ?_⟩
  have h5 := h5 m m (by omega) (by omega)
  simp only [Int.natCast_zero] at h5
  rw [g24, h5]
  simp only [Option.bind_some]
  rw [g5 m m (by omega) (by omega)]
  simp only [Option.bind_some]
  rw [Pack_eq g1 (by omega) (by omega) (by omega) (by omega)]
  rfl
end Go.Vs.F

/-! MwTi -/
set_option linter.unusedVariables false
set_option linter.unusedSimpArgs false
set_option maxRecDepth 100000
namespace Go.Vs.F
/- An entry of the lower triangle, and its mirror image. -/
def mirE (e : Ent) : List Ent := if e.1 = e.2.1 then [e] else [e, swE e]
theorem Triangles_L0 (m : Nat) {x : Int} {a0 a1 : Int} {a2 a3 a4 : List Int} {es : List Ent} (hl : es.length ≤ 100000) (hlow : ∀ e ∈ es, ¬ e.1 < e.2.1) : ∀ (n k : Nat) (out : List Ent), es.length - k < n → k ≤ es.length → out.length ≤ 2 * k → out = (es.take k).flatMap mirE →
    sparselaw09_MatrixTriangles_L0 m n x a0 a1 a2 a3 a4 es out (k : Int) = some (.inr (.inl (x, (a0, a1, a2, a3, a4, ()), es.flatMap mirE, ())))
  | 0, k, out, h, _, _, _ => by omega
  | n + 1, k, out, h, hk0, hol, ho => by
    rw [sparselaw09_MatrixTriangles_L0]
    by_cases hk : k < es.length
    · have h1 : ((k : Int) < (es.length : Int)) := by omega
      have c1 : (0 : Int) ≤ (k : Int) ∧ (k : Int) < (es.length : Int) := by omega
      have hlk := hlow _ (getD_memE hk)
      have c2 : ∀ y : Ent, out.length + ([y] : List Ent).length ≤ 1073741824 := fun y => by show out.length + 1 ≤ _; omega
      have c3 : ∀ y z : Ent, (out ++ ([y] : List Ent)).length + ([z] : List Ent).length ≤ 1073741824 := fun y z => by rw [List.length_append]; show out.length + 1 + 1 ≤ _; omega
      have htk : (es.take (k + 1)).flatMap mirE = (es.take k).flatMap mirE ++ mirE (es.getD k zE) := by
        rw [take_succ_getD hk, List.flatMap_append]; simp
      rw [bif_decide, if_pos h1, if_pos c1, Int.toNat_natCast, Nat.zero_add]
      show (bif decide ((es.getD k zE).1 < (es.getD k zE).2.1) then _ else if out.length + ([((es.getD k zE).1, ((es.getD k zE).2.1, (es.getD k zE).2.2))] : List Ent).length ≤ 1073741824 then
        bif (es.getD k zE).1 != (es.getD k zE).2.1 then
          if (out ++ ([((es.getD k zE).1, ((es.getD k zE).2.1, (es.getD k zE).2.2))] : List Ent)).length + ([((es.getD k zE).2.1, ((es.getD k zE).1, (es.getD k zE).2.2))] : List Ent).length ≤ 1073741824 then
          sparselaw09_MatrixTriangles_L0 m n x a0 a1 a2 a3 a4 es ((out ++ ([es.getD k zE] : List Ent)) ++ ([swE (es.getD k zE)] : List Ent)) (w_i64 ((k : Int) + 1))
          else none
        else sparselaw09_MatrixTriangles_L0 m n x a0 a1 a2 a3 a4 es (out ++ ([es.getD k zE] : List Ent)) (w_i64 ((k : Int) + 1))
        else none) = _
      rw [bif_decide, if_neg hlk, if_pos (c2 _), bif_ne, show w_i64 ((k : Int) + 1) = ((k + 1 : Nat) : Int) from wsucc (by omega)]
      by_cases e : (es.getD k zE).1 = (es.getD k zE).2.1
      · rw [if_pos e]
        refine Triangles_L0 m hl hlow n (k + 1) _ (by omega) (by omega) (by rw [List.length_append, List.length_singleton]; omega) ?_
        rw [htk, ← ho, mirE, if_pos e]
      · rw [if_neg e, if_pos (c3 _ _)]
        refine Triangles_L0 m hl hlow n (k + 1) _ (by omega) (by omega) (by rw [List.length_append, List.length_append, List.length_singleton, List.length_singleton]; omega) ?_
        rw [htk, ← ho, mirE, if_neg e]
        simp
    · rw [bif_decide, if_neg (by omega), ho, List.take_of_length_le (by omega)]
section
variable {N : Nat} {E D : List Ent}
/- The mirrored lower triangle of a symmetric set of entries. -/
theorem mir_perm (hD : DistE E) (hs : ∀ e ∈ E, swE e ∈ E) (hp : List.Perm D (E.filter lowE)) : List.Perm (D.flatMap mirE) E := by
  have hmD : ∀ e, e ∈ D ↔ e ∈ E ∧ e.1 ≥ e.2.1 := fun e => by
    rw [hp.mem_iff, List.mem_filter]
    exact ⟨fun h => ⟨h.1, of_decide_eq_true h.2⟩, fun h => ⟨h.1, decide_eq_true h.2⟩⟩
  have hnE := dist_nodup hD
  have hnD : D.Nodup := hp.nodup_iff.2 (hnE.filter _)
  have hnd : (D.flatMap mirE).Nodup := by
    rw [List.nodup_iff_pairwise_ne, List.pairwise_flatMap]
    constructor
    · intro a ha
      unfold mirE
      split
      · exact List.pairwise_singleton ..
      · rename_i hne
        rw [List.pairwise_pair]
        intro e
        have : a.1 = (swE a).1 := by rw [← e]
        exact hne this
    · rw [List.nodup_iff_pairwise_ne] at hnD
      refine List.Pairwise.imp_of_mem ?_ hnD
      intro a b ha hb hab x hx y hy
      have la := ((hmD a).1 ha).2
      have lb := ((hmD b).1 hb).2
      have hxa : x = a ∨ (x = swE a ∧ a.1 ≠ a.2.1) := by
        unfold mirE at hx
        split at hx
        · exact .inl (List.mem_singleton.1 hx)
        · rename_i q
          rcases List.mem_cons.1 hx with h | h
          · exact .inl h
          · exact .inr ⟨List.mem_singleton.1 h, q⟩
      have hyb : y = b ∨ (y = swE b ∧ b.1 ≠ b.2.1) := by
        unfold mirE at hy
        split at hy
        · exact .inl (List.mem_singleton.1 hy)
        · rename_i q
          rcases List.mem_cons.1 hy with h | h
          · exact .inl h
          · exact .inr ⟨List.mem_singleton.1 h, q⟩
      rintro rfl
      rcases hxa with rfl | ⟨h1, q1⟩
      · rcases hyb with h2 | ⟨h2, q2⟩
        · exact hab h2
        · have e1 : x.1 = b.2.1 := by rw [h2]; rfl
          have e2 : x.2.1 = b.1 := by rw [h2]; rfl
          omega
      · rcases hyb with h2 | ⟨h2, q2⟩
        · have e1 : b.1 = a.2.1 := by rw [← h2, h1]; rfl
          have e2 : b.2.1 = a.1 := by rw [← h2, h1]; rfl
          omega
        · rw [h1] at h2
          have : swE (swE a) = swE (swE b) := by rw [h2]
          exact hab this
  rw [List.perm_ext_iff_of_nodup hnd hnE]
  intro x
  rw [List.mem_flatMap]
  constructor
  · rintro ⟨a, ha, hx⟩
    have hE := ((hmD a).1 ha).1
    unfold mirE at hx
    split at hx
    · rw [List.mem_singleton.1 hx]; exact hE
    · rcases List.mem_cons.1 hx with rfl | h
      · exact hE
      · rw [List.mem_singleton.1 h]; exact hs _ hE
  · intro hx
    by_cases q : x.1 ≥ x.2.1
    · refine ⟨x, (hmD x).2 ⟨hx, q⟩, ?_⟩
      unfold mirE
      split <;> exact List.mem_cons_self ..
    · refine ⟨swE x, (hmD _).2 ⟨hs x hx, by simp only [swE]; omega⟩, ?_⟩
      unfold mirE
      rw [if_neg (by simp only [swE]; omega)]
      exact List.mem_cons_of_mem _ (List.mem_singleton.2 rfl)
end
theorem MatrixTriangles_law (x1 : Int) (l : List Int) : ∃ m, sparselaw09_MatrixTriangles m x1 l = some (true, (), (), ()) := by
  refine ⟨4000000, ?_⟩
  generalize hm0 : (4000000 : Nat) = m
  have hm : 3000000 < m := by omega
  have hm2 : m < 4611686018427387904 := by omega
  clear hm0
  rw [sparselaw09_MatrixTriangles, bif_decide]
  by_cases hl : (l.length : Int) > 60
  · rw [if_pos hl, awakeN (by omega)]; rfl
  rw [if_neg hl]
  obtain ⟨N, hN, eN⟩ := Place_eq (a := x1) (n := 7) (by omega) (by omega)
  obtain ⟨es, hE, hG, hS, eM⟩ := SymMake_eq (N := N) (l := l) (by omega) (by omega)
  have ha : N * N ≤ 10000 := Nat.le_trans (Nat.mul_le_mul (show N ≤ 7 by omega) (show N ≤ 7 by omega)) (by decide)
  have h := pack_MV hE (by omega) (by omega) ha
  have hEn : ents (packS es N N) (packI es N N) (packV es N N) N 0 = can es N N := ents_packed
  have hs : ∀ e ∈ ents (packS es N N) (packI es N N) (packV es N N) N 0, swE e ∈ ents (packS es N N) (packI es N N) (packV es N N) N 0 := by rw [hEn]; exact hS.can
  have hgc : ∀ e ∈ ents (packS es N N) (packI es N N) (packV es N N) N 0, GoodR e.2.2 := by rw [hEn]; exact can_good hG
  obtain ⟨hET, eT⟩ := Transpose_eq (m := m) (by omega) h.ok h.vl (by have := h.sl; omega) h.chk
  have hnE := dist_nodup h.dist
  have hpT : List.Perm ((ents (packS es N N) (packI es N N) (packV es N N) N 0).map swE) (ents (packS es N N) (packI es N N) (packV es N N) N 0) := by
    have hnm : ((ents (packS es N N) (packI es N N) (packV es N N) N 0).map swE).Nodup := dist_nodup (dist_map h.dist fun a _ b _ h1 h2 => ⟨h2, h1⟩)
    rw [List.perm_ext_iff_of_nodup hnm hnE]
    intro x
    rw [List.mem_map]
    constructor
    · rintro ⟨e, he, rfl⟩; exact hs e he
    · intro hx; exact ⟨swE x, hs x hx, rfl⟩
  obtain ⟨t1, t2, t3⟩ := pack_back h hpT
  rw [t1, t2, t3] at eT
  obtain ⟨eL, _⟩ := Lower_both hm h
  obtain ⟨lE, lD, lL⟩ := h.filter lowE
  have hL := pack_MV lE (by omega) (by omega) ha
  have hSy := Symmetric_ok hm h hs
  have hlen := h.len
  have hsl := h.sl
  have hvl := h.vl
  have hsz := h.ok.sz
  have hLlen := hL.len
  have hLsl := hL.sl
  have hLvl := hL.vl
  have hLsz := hL.ok.sz
  have eX := Matrix_self (m := m) (a := (N : Int)) (b := (N : Int)) (S := packS es N N) (I := packI es N N) (V := packV es N N) (by omega) (by omega) (by omega) hm2
  generalize hF : (ents (packS es N N) (packI es N N) (packV es N N) N 0).filter lowE = F at *
  have hD : List.Perm (ents (packS F N N) (packI F N N) (packV F N N) N 0) F := by rw [ents_packed]; exact (can_perm lE lD).symm
  have eEnt : g10 m (N : Int) (N : Int) (packS F N N) (packI F N N) (packV F N N) = some (ents (packS F N N) (packI F N N) (packV F N N) N 0, (), ()) := by
    rw [g10, g28_eq (by omega) (by omega) (by omega) (by omega) (by omega), hL.chk, Option.bind_some, bif_ne, if_pos rfl, mEntries_eq (by omega) hL.ok hL.vl]; rfl
  generalize hDD : ents (packS F N N) (packI F N N) (packV F N N) N 0 = D at *
  have hlow : ∀ e ∈ D, ¬ e.1 < e.2.1 := fun e he => by
    have := hD.mem_iff.1 he
    rw [← hF] at this
    have := of_decide_eq_true (List.mem_filter.1 this).2
    omega
  have hperm := mir_perm h.dist hs (D := D) (by rw [hF]; exact hD)
  have eL0 := Triangles_L0 m (x := (N : Int)) (a0 := (N : Int)) (a1 := (N : Int)) (a2 := packS es N N) (a3 := packI es N N) (a4 := packV es N N) (es := D) (by omega) hlow m 0 [] (by omega) (by omega) (by simp) (by simp)
  rw [Int.natCast_zero] at eL0
  have eF := FromEntries_eq (m := m) (r := N) (c := N) (es := D.flatMap mirE) hm (entsOK_perm hperm h.ents) (dist_perm hperm h.dist) (fun e he => hgc e (hperm.mem_iff.1 he)) (by omega) (by omega) (by rw [hperm.length_eq]; exact hlen)
  obtain ⟨f1, f2, f3⟩ := pack_back h hperm
  rw [f1, f2, f3] at eF
  rw [show g7 m x1 7 = some ((N : Int), (), (), ()) from eN m, Option.bind_some]
  dsimp only
  rw [eM m (by omega), Option.bind_some]
  dsimp only
  rw [eT, Option.bind_some, eL, Option.bind_some]
  dsimp only
  rw [bif_ne, if_pos rfl, bif_ne, if_pos rfl, hSy, Option.bind_some, Bool.not_true, cond_false, eX, Option.bind_some, Bool.not_true, cond_false, eEnt, Option.bind_some, eL0, Option.bind_some]
  dsimp only
  rw [eF, Option.bind_some]
  dsimp only
  rw [bif_eq, if_pos rfl, eX, Option.bind_some, cond_true, awakeN (by omega)]; rfl
end Go.Vs.F
