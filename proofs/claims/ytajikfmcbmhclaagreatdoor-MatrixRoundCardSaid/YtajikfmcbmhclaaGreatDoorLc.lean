/- The made values: rounding the sum of one of them gives it back (closed evaluations). Building from entries at different positions; made matrices. The law MatrixRound. -/
import Derived.Test.YtajikfmcbmhclaaGreatDoorLb

/-! MwPa -/
set_option linter.unusedVariables false
set_option maxRecDepth 100000
namespace Go.Vs.F
def valC (m : Nat) (a e : Int) : Option (Int × Unit × Unit) :=
  (g58 m a).bind fun y2 =>
  (g57 m y2.1.1 y2.1.2.1 y2.1.2.2.1 y2.1.2.2.2.1 e).bind fun y3 =>
  (g56 m y3.1.1 y3.1.2.1 y3.1.2.2.1 y3.1.2.2.2.1 0).bind fun y4 =>
  some (y4.1, ((), ()))
def rsB (j : Nat) (v : Int) : Bool := match g34 (j + 100) v with
  | some a => match g36 (j + 100) [(a.1.1, ((a.1.2.1, a.1.2.2.1), a.1.2.2.2.1))] with
    | some s => match g35 (j + 100) s.1.1 s.1.2.1 s.1.2.2.1 s.1.2.2.2.1 0 with
      | some r => r.1 == v
      | none => false
    | none => false
  | none => false
/- A value that is the sum of itself alone. -/
structure GoodR (v : Int) : Prop where
  fin : finB v = true
  rs : ∀ m, 100 ≤ m → ∃ a s r, g34 m v = some a ∧ g36 m [(a.1.1, ((a.1.2.1, a.1.2.2.1), a.1.2.2.2.1))] = some s ∧ g35 m s.1.1 s.1.2.1 s.1.2.2.1 s.1.2.2.2.1 0 = some r ∧ r.1 = v
def eqW (j : Nat) : Option (Int × Unit × Unit) → Option (Int × Unit × Unit) → Bool
  | some v, some w => v.1 == w.1 && (finB v.1 && rsB j v.1)
  | _, _ => false
theorem rsB_good {v : Int} (hf : finB v = true) (h : ∀ j, rsB j v = true) : GoodR v := by
  refine ⟨hf, fun m hm => ?_⟩
  obtain ⟨j, rfl⟩ : ∃ j, m = j + 100 := ⟨m - 100, by omega⟩
  have hj := h j
  unfold rsB at hj
  split at hj
  · rename_i a ea
    split at hj
    · rename_i s es
      split at hj
      · rename_i r er
        exact ⟨a, s, r, ea, es, er, eq_of_beq hj⟩
      · cases hj
    · cases hj
  · cases hj
theorem eqW_all {a e : Int} (h : ∀ j, eqW j (valC 100 a e) (valC (j + 100) a e) = true) : ∃ v, GoodR v ∧ ∀ m, 100 ≤ m → valC m a e = some (v, (), ()) := by
  cases e0 : valC 100 a e with
  | none => have := h 0; rw [e0] at this; cases this
  | some v =>
    have hv : ∀ j, ∃ w, valC (j + 100) a e = some w ∧ v.1 = w.1 ∧ finB v.1 = true ∧ rsB j v.1 = true := by
      intro j
      have hj := h j
      rw [e0] at hj
      cases e1 : valC (j + 100) a e with
      | none => rw [e1] at hj; cases hj
      | some w =>
        rw [e1] at hj
        simp only [eqW, Bool.and_eq_true, beq_iff_eq] at hj
        exact ⟨w, rfl, hj.1, hj.2.1, hj.2.2⟩
    obtain ⟨w0, _, _, hf, _⟩ := hv 0
    refine ⟨v.1, rsB_good hf (fun j => by obtain ⟨_, _, _, _, g⟩ := hv j; exact g), fun m hm => ?_⟩
    obtain ⟨j, rfl⟩ : ∃ j, m = j + 100 := ⟨m - 100, by omega⟩
    obtain ⟨w, g1, g2, _⟩ := hv j
    rw [g1, g2]
def rowW (j k : Nat) : Bool := (List.range 13).all fun e => eqW j (valC 100 ((k : Int) - 8) ((e : Int) - 6)) (valC (j + 100) ((k : Int) - 8) ((e : Int) - 6))
theorem rowW_0 (j : Nat) : rowW j 0 = true := by kernel_rfl
theorem rowW_1 (j : Nat) : rowW j 1 = true := by kernel_rfl
theorem rowW_2 (j : Nat) : rowW j 2 = true := by kernel_rfl
theorem rowW_3 (j : Nat) : rowW j 3 = true := by kernel_rfl
theorem rowW_4 (j : Nat) : rowW j 4 = true := by kernel_rfl
theorem rowW_5 (j : Nat) : rowW j 5 = true := by kernel_rfl
theorem rowW_6 (j : Nat) : rowW j 6 = true := by kernel_rfl
theorem rowW_7 (j : Nat) : rowW j 7 = true := by kernel_rfl
theorem rowW_8 (j : Nat) : rowW j 8 = true := by kernel_rfl
theorem rowW_9 (j : Nat) : rowW j 9 = true := by kernel_rfl
theorem rowW_10 (j : Nat) : rowW j 10 = true := by kernel_rfl
theorem rowW_11 (j : Nat) : rowW j 11 = true := by kernel_rfl
theorem rowW_12 (j : Nat) : rowW j 12 = true := by kernel_rfl
theorem rowW_13 (j : Nat) : rowW j 13 = true := by kernel_rfl
theorem rowW_14 (j : Nat) : rowW j 14 = true := by kernel_rfl
theorem rowW_15 (j : Nat) : rowW j 15 = true := by kernel_rfl
theorem rowW_16 (j : Nat) : rowW j 16 = true := by kernel_rfl
theorem rowW_all (j : Nat) : ∀ k, k < 17 → rowW j k = true
  | 0, _ => rowW_0 j
  | 1, _ => rowW_1 j
  | 2, _ => rowW_2 j
  | 3, _ => rowW_3 j
  | 4, _ => rowW_4 j
  | 5, _ => rowW_5 j
  | 6, _ => rowW_6 j
  | 7, _ => rowW_7 j
  | 8, _ => rowW_8 j
  | 9, _ => rowW_9 j
  | 10, _ => rowW_10 j
  | 11, _ => rowW_11 j
  | 12, _ => rowW_12 j
  | 13, _ => rowW_13 j
  | 14, _ => rowW_14 j
  | 15, _ => rowW_15 j
  | 16, _ => rowW_16 j
  | k + 17, h => absurd h (by omega)
theorem valW_zero (j : Nat) : ((List.range 17).all fun k => eqW j (valC 100 ((k : Int) - 8) 0) (valC (j + 100) ((k : Int) - 8) 0)) = true := by kernel_rfl
theorem valW_ok {k e : Nat} (hk : k < 17) (he : e < 13) : ∃ v, GoodR v ∧ ∀ m, 100 ≤ m → valC m ((k : Int) - 8) ((e : Int) - 6) = some (v, (), ()) :=
  eqW_all fun j => List.all_eq_true.1 (rowW_all j k hk) e (List.mem_range.2 he)
theorem valWZ_ok {k : Nat} (hk : k < 17) : ∃ v, GoodR v ∧ ∀ m, 100 ≤ m → valC m ((k : Int) - 8) 0 = some (v, (), ()) :=
  eqW_all fun j => List.all_eq_true.1 (valW_zero j) k (List.mem_range.2 hk)
theorem Value_good (n : Int) : ∃ v, GoodR v ∧ ∀ m, 100 ≤ m → g29 m n = some (v, (), ()) := by
  obtain ⟨k, hk, hp⟩ := Place_eq (a := n) (n := 17) (by omega) (by omega)
  obtain ⟨x, hx, hxl⟩ := wu_nat n
  have e17 : Int.tdiv (x : Int) 17 = ((x / 17 : Nat) : Int) := td x 17
  have e3 : Int.tdiv ((x / 17 : Nat) : Int) 3 = ((x / 17 / 3 : Nat) : Int) := td _ 3
  have e13 : Int.tmod ((x / 17 / 3 : Nat) : Int) 13 = ((x / 17 / 3 % 13 : Nat) : Int) := tm _ 13
  have l1 : x / 17 < 9223372036854775808 := by omega
  have l2 : x / 17 / 3 % 13 < 13 := by omega
  obtain ⟨v, hf, hv⟩ := valW_ok hk l2
  obtain ⟨v0, hf0, hv0⟩ := valWZ_ok hk
  have key : ∀ m, g29 m n = if Int.tmod ((x / 17 : Nat) : Int) 3 = 0 then valC m ((k : Int) - 8) (((x / 17 / 3 % 13 : Nat) : Int) - 6) else valC m ((k : Int) - 8) 0 := by
    intro m
    rw [g29]
    rw [show g7 m n 17 = some ((k : Int), (), (), ()) from hp m]
    simp only [Option.bind_some, w_u64, w_i64, hx, e17]
    rw [wu (by omega) (by omega), wi (n := ((x / 17 : Nat) : Int)) (by omega) (by omega), wi (n := (k : Int) - 8) (by omega) (by omega), e3, wi (n := ((x / 17 / 3 : Nat) : Int)) (by omega) (by omega), e13, wi (n := ((x / 17 / 3 % 13 : Nat) : Int) - 6) (by omega) (by omega), bif_eq]
    rfl
  by_cases h : Int.tmod ((x / 17 : Nat) : Int) 3 = 0
  · exact ⟨v, hf, fun m hm => by rw [key, if_pos h, hv m hm]⟩
  · exact ⟨v0, hf0, fun m hm => by rw [key, if_neg h, hv0 m hm]⟩
end Go.Vs.F

/-! MwTf -/
set_option linter.unusedVariables false
set_option linter.unusedSimpArgs false
set_option maxRecDepth 100000
namespace Go.Vs.F
variable {r c : Nat} {es : List Ent}
def posE (e : Ent) : Int × Int := (e.1, e.2.1)
theorem dist_iff : DistE es ↔ (es.map posE).Nodup := by
  rw [List.nodup_iff_pairwise_ne, List.pairwise_iff_getElem]
  have hg : ∀ i (hi : i < es.length), es.getD i zE = es[i] := fun i hi => by simp [List.getD, hi]
  constructor
  · intro h i j hi hj hij e
    simp only [List.length_map] at hi hj
    simp only [List.getElem_map, posE, Prod.mk.injEq] at e
    have := h i j hi hj (by rw [hg i hi, hg j hj]; exact e.1) (by rw [hg i hi, hg j hj]; exact e.2)
    omega
  · intro h k k' hk hk' h1 h2
    rw [hg k hk, hg k' hk'] at h1 h2
    rcases Nat.lt_trichotomy k k' with q | q | q
    · exact (h k k' (by simpa using hk) (by simpa using hk') q (by rw [List.getElem_map, List.getElem_map, posE, posE, h1, h2])).elim
    · exact q
    · exact (h k' k (by simpa using hk') (by simpa using hk) q (by rw [List.getElem_map, List.getElem_map, posE, posE, h1, h2])).elim
theorem dist_perm {l : List Ent} (hp : List.Perm l es) (hD : DistE es) : DistE l := dist_iff.2 ((hp.map posE).nodup_iff.2 (dist_iff.1 hD))
theorem entsOK_perm {l : List Ent} (hp : List.Perm l es) (hE : EntsOK r c es) : EntsOK r c l := entsOK_mem fun e he => mem_entsOK hE e (hp.mem_iff.1 he)
/-! ### FromEntries -/
theorem From_L0 (m : Nat) (hr : r ≤ 200) (hc : c ≤ 200) (hl : es.length ≤ 10000) (hE : EntsOK r c es) (L : List Ent) (a0 a1 : Int) (a2 a3 a4 : List Int) : ∀ (n k : Nat), es.length - k < n →
    g9_L0 m n (r : Int) (c : Int) L a0 a1 a2 a3 a4 es (es.length : Int) (k : Int) = some (.inr (.inl ((r : Int), (c : Int), L, (a0, a1, a2, a3, a4, ()), ())))
  | 0, k, h => by omega
  | n + 1, k, h => by
    rw [g9_L0]
    by_cases hk : k < es.length
    · have h1 : ((k : Int) < (es.length : Int)) := by omega
      have c1 : (0 : Int) ≤ (k : Int) ∧ (k : Int) < (es.length : Int) := by omega
      obtain ⟨⟨p1, p2⟩, ⟨p3, p4⟩, _⟩ := hE k hk
      have w1 : IntKind.wrap .i64 ((r : Int) - 1) = (r : Int) - 1 := wi (by omega) (by omega)
      have w2 : IntKind.wrap .i64 ((c : Int) - 1) = (c : Int) - 1 := wi (by omega) (by omega)
      have b1 : (decide (0 ≤ (es.getD k (0, (0, 0))).1) && decide ((es.getD k (0, (0, 0))).1 ≤ (r : Int) - 1)) = true := by
        rw [Bool.and_eq_true, decide_eq_true_eq, decide_eq_true_eq]; omega
      have b2 : (decide (0 ≤ (es.getD k (0, (0, 0))).2.1) && decide ((es.getD k (0, (0, 0))).2.1 ≤ (c : Int) - 1)) = true := by
        rw [Bool.and_eq_true, decide_eq_true_eq, decide_eq_true_eq]; omega
      simp only [bif_decide, h1, if_true, c1, and_self, Int.toNat_natCast, within_eq, Option.bind_some, w_i64_eq, w1, w2, b1, b2, Bool.not_true, cond_false, wsucc (show k < 4611686018427387904 by omega)]
      exact From_L0 m hr hc hl hE L a0 a1 a2 a3 a4 n (k + 1) (by omega)
    · have h1 : ¬ ((k : Int) < (es.length : Int)) := by omega
      simp only [bif_decide, h1, if_false]
theorem From_L1 (m : Nat) (hl : es.length ≤ 10000) (hE : EntsOK r c es) (x y : Int) (L : List Ent) (a0 a1 : Int) (a2 a3 a4 : List Int) : ∀ (n k : Nat), es.length - k < n →
    g9_L1 m n x y L a0 a1 a2 a3 a4 es (es.length : Int) (k : Int) = some (.inr (.inl (x, y, L, (a0, a1, a2, a3, a4, ()), ())))
  | 0, k, h => by omega
  | n + 1, k, h => by
    rw [g9_L1]
    by_cases hk : k < es.length
    · have h1 : ((k : Int) < (es.length : Int)) := by omega
      have c1 : (0 : Int) ≤ (k : Int) ∧ (k : Int) < (es.length : Int) := by omega
      have p5 := (hE k hk).2.2
      simp only [bif_decide, h1, if_true, c1, and_self, Int.toNat_natCast, IsFinite_eq, Option.bind_some, p5, Bool.not_true, cond_false, w_i64_eq, wsucc (show k < 4611686018427387904 by omega)]
      exact From_L1 m hl hE x y L a0 a1 a2 a3 a4 n (k + 1) (by omega)
    · have h1 : ¬ ((k : Int) < (es.length : Int)) := by omega
      simp only [bif_decide, h1, if_false]
/- One entry alone at its position. -/
theorem From_L3 (m n : Nat) (x y : Int) (a0 a1 : Int) (a2 a3 a4 : List Int) (out : List Ent) (e : Ent) (D : List Ent) {a : (Bool × Bool × List Int × Int × Unit) × Unit × Unit} (ha : g34 m e.2.2 = some a) (hD : ∀ e' ∈ D, ¬ (e'.1 = e.1 ∧ e'.2.1 = e.2.1)) :
    g9_L3 m (n + 2) x y (e :: D) a0 a1 a2 a3 a4 out e.1 e.2.1 e.2.2 [] = some (.inl (x, y, D, (a0, a1, a2, a3, a4, ()), out, (e.1, e.2.1, e.2.2, ()), [(a.1.1, ((a.1.2.1, a.1.2.2.1), a.1.2.2.2.1))], ())) := by
  have g0 : (e :: D).getD 0 ((0, (0, 0)) : Ent) = e := rfl
  have l0 : ((e :: D).length : Int) > 0 := by simp only [List.length_cons]; omega
  have c1 : (0 : Int) ≤ 0 ∧ (0 : Int) < ((e :: D).length : Int) := ⟨by omega, l0⟩
  have c2 : (0 : Int) ≤ 1 ∧ (1 : Int) ≤ ((e :: D).length : Int) ∧ ((e :: D).length : Int) ≤ ((e :: D).length : Int) := ⟨by omega, by omega, Int.le_refl _⟩
  rw [g9_L3, bif_decide, if_pos l0, if_pos c1, g0, bif_eq, if_pos rfl, if_pos c1, bif_eq, if_pos rfl, if_pos c1, ha, Option.bind_some, if_pos (by simp), if_pos c2]
  show g9_L3 m (n + 1) x y D a0 a1 a2 a3 a4 out e.1 e.2.1 e.2.2 [(a.1.1, ((a.1.2.1, a.1.2.2.1), a.1.2.2.2.1))] = _
  rw [g9_L3]
  cases D with
  | nil => rfl
  | cons e' D' =>
    have l1 : ((e' :: D').length : Int) > 0 := by simp only [List.length_cons]; omega
    have c3 : (0 : Int) ≤ 0 ∧ (0 : Int) < ((e' :: D').length : Int) := ⟨by omega, l1⟩
    have g1 : (e' :: D').getD 0 ((0, (0, 0)) : Ent) = e' := rfl
    have hne := hD e' (List.mem_cons_self ..)
    rw [bif_decide, if_pos l1, if_pos c3, g1, bif_eq]
    by_cases q : e'.1 = e.1
    · rw [if_pos q, if_pos c3, bif_eq, if_neg (fun q2 => hne ⟨q, q2⟩)]
    · rw [if_neg q]
theorem From_L2 (m : Nat) (hm : 100 ≤ m) (x y : Int) (a0 a1 : Int) (a2 a3 a4 : List Int) : ∀ (D : List Ent) (n : Nat) (out : List Ent), D.length < n → out.length + D.length ≤ 1000000 → (∀ e ∈ D, GoodR e.2.2) → D.Pairwise (fun a b => ltE a b = true) →
    g9_L2 m n x y D a0 a1 a2 a3 a4 out = some (.inr (.inl (x, y, (a0, a1, a2, a3, a4, ()), out ++ D, ())))
  | D, 0, out, h, _, _, _ => by omega
  | [], n + 1, out, h, _, _, _ => by
    rw [g9_L2, bif_decide, if_neg (by simp), List.append_nil]
  | e :: D, n + 1, out, h, hlen, hg, hp => by
    simp only [List.length_cons] at h hlen
    obtain ⟨a, s, v, e1, e2, e3, e4⟩ := (hg e (List.mem_cons_self ..)).rs m hm
    have hfin := (hg e (List.mem_cons_self ..)).fin
    obtain ⟨hp1, hp2⟩ := List.pairwise_cons.1 hp
    have l0 : ((e :: D).length : Int) > 0 := by simp only [List.length_cons]; omega
    have c1 : (0 : Int) ≤ 0 ∧ (0 : Int) < ((e :: D).length : Int) := ⟨by omega, l0⟩
    have g0 : (e :: D).getD 0 ((0, (0, 0)) : Ent) = e := rfl
    obtain ⟨n3, rfl⟩ : ∃ n3, m = n3 + 2 := ⟨m - 2, by omega⟩
    have h3 := From_L3 (n3 + 2) n3 x y a0 a1 a2 a3 a4 out e D e1 (fun e' he' q => by
      have := hp1 e' he'
      unfold ltE at this
      simp only [Bool.or_eq_true, decide_eq_true_eq, Bool.and_eq_true] at this
      omega)
    rw [g9_L2, bif_decide, if_pos l0, if_pos c1, g0, h3, Option.bind_some]
    dsimp only
    rw [e2, Option.bind_some, e3, Option.bind_some, IsFinite_eq, Option.bind_some, e4]
    dsimp only
    rw [hfin, Bool.not_true, cond_false, if_pos (by show out.length + 1 ≤ _; omega)]
    have ih := From_L2 (n3 + 2) hm x y a0 a1 a2 a3 a4 D n (out ++ [e]) (by omega) (by rw [List.length_append, List.length_singleton]; omega) (fun e' he' => hg e' (List.mem_cons_of_mem _ he')) hp2
    rw [List.append_assoc] at ih
    exact ih
theorem FromEntries_eq {m : Nat} (hm : 3000000 < m) (hE : EntsOK r c es) (hD : DistE es) (hg : ∀ e ∈ es, GoodR e.2.2) (hr : r ≤ 200) (hc : c ≤ 200) (hl : es.length ≤ 10000) :
    g9 m (r : Int) (c : Int) es = some ((((r : Int), (c : Int), packS es r c, packI es r c, packV es r c, ()), 0, ()), (), (), (), ()) := by
  obtain ⟨D, d1, d2, d3⟩ := g33_eq (m := m) es (by omega) (by omega)
  have hDc := sorted_can hE hD d2 d3
  have hlen := d3.length_eq
  have hpw : D.Pairwise (fun a b => ltE a b = true) := by rw [hDc]; exact can_pair c
  have hED : EntsOK r c D := entsOK_perm d3 hE
  have hDD : DistE D := dist_perm d3 hD
  have w1 : (decide (0 ≤ (r : Int)) && decide ((r : Int) ≤ 200)) = true := by rw [Bool.and_eq_true, decide_eq_true_eq, decide_eq_true_eq]; omega
  have w2 : (decide (0 ≤ (c : Int)) && decide ((c : Int) ≤ 200)) = true := by rw [Bool.and_eq_true, decide_eq_true_eq, decide_eq_true_eq]; omega
  have f0 := From_L0 m hr hc hl hE es 0 0 [] [] [] m 0 (by omega)
  have f1 := From_L1 m hl hE (r : Int) (c : Int) es 0 0 [] [] [] m 0 (by omega)
  have f2 := From_L2 m (by omega) (r : Int) (c : Int) 0 0 [] [] [] D m [] (by omega) (by simp; omega) (fun e he => hg e (d3.mem_iff.1 he)) hpw
  rw [Int.natCast_zero] at f0 f1
  rw [List.nil_append] at f2
  rw [g9, within_eq, Option.bind_some, w1, Bool.not_true, cond_false, within_eq, Option.bind_some, w2, Bool.not_true, cond_false, bif_decide, if_neg (by omega), f0, Option.bind_some]
  dsimp only
  rw [f1, Option.bind_some]
  dsimp only
  rw [d1, Option.bind_some]
  dsimp only
  rw [f2, Option.bind_some]
  dsimp only
  rw [build_eq hED hDD hr hc (by omega) (by omega), Option.bind_some]
  dsimp only
  rw [packS_congr hDD (fun x => d3.mem_iff) hD, packI_congr hDD (fun x => d3.mem_iff) hD, packV_congr hDD (fun x => d3.mem_iff) hD]
/-! ### Made matrices -/
theorem Matrix_L0r (hr : r ≤ 200) (hc : c ≤ 200) (l : List Int) (hl : l.length ≤ 100000) (a0 a1 : Int) (a2 a3 a4 : List Int) : ∀ (d k : Nat) (es : List Ent), l.length - k ≤ d → k ≤ l.length + 2 → EntsOK r c es → (∀ e ∈ es, GoodR e.2.2) → es.length ≤ k →
    ∃ es', EntsOK r c es' ∧ (∀ e ∈ es', GoodR e.2.2) ∧ es'.length ≤ l.length + 2 ∧ ∀ m n, 100 ≤ m → d < n → g8_L0 m n (r : Int) (c : Int) l a0 a1 a2 a3 a4 es (k : Int) = some (.inl ((r : Int), (c : Int), (a0, a1, a2, a3, a4, ()), es', ()))
  | d, k, es, hn, hk, hE, hG, hk2 => by
    have e2 : w_i64 ((k : Int) + 2) = ((k + 2 : Nat) : Int) := wi (by omega) (by omega)
    have e1 : w_i64 ((k : Int) + 1) = ((k + 1 : Nat) : Int) := wsucc (by omega)
    have e3 : w_i64 ((k : Int) + 3) = ((k + 3 : Nat) : Int) := wi (by omega) (by omega)
    by_cases h : k + 2 < l.length
    · by_cases h1 : 0 < r
      · by_cases h2 : 0 < c
        · obtain ⟨i, hi, ei⟩ := Place_eq (a := l.getD k 0) (n := r) h1 (by omega)
          obtain ⟨j, hj, ej⟩ := Place_eq (a := l.getD (k + 1) 0) (n := c) h2 (by omega)
          obtain ⟨v, hv, ev⟩ := Value_good (l.getD (k + 2) 0)
          cases d with
          | zero => omega
          | succ d =>
          obtain ⟨es', g1, g0, g2, g3⟩ := Matrix_L0r hr hc l hl a0 a1 a2 a3 a4 d (k + 3) (es ++ [((i : Int), ((j : Int), v))]) (by omega) (by omega) (hE.snoc (by omega) (by omega) hv.fin) (fun e he => by
            rcases List.mem_append.1 he with he | he
            · exact hG e he
            · rw [List.mem_singleton] at he; subst he; exact hv) (by simp; omega)
          refine ⟨es', g1, g0, g2, fun m n hm hdn => ?_⟩
          obtain ⟨n, rfl⟩ : ∃ n', n = n' + 1 := ⟨n - 1, by omega⟩
          rw [g8_L0, bif_decide, e2, e1, e3, bif_decide, bif_decide]
          rw [if_pos (by omega), if_pos (by omega), if_pos (by omega), if_pos (by omega), Int.toNat_natCast, Int.toNat_natCast, Int.toNat_natCast, ei, ej, ev m hm]
          simp only [Option.bind_some]
          rw [if_pos (by omega), if_pos (by omega), if_pos (by simp; omega)]
          exact g3 m n hm (by omega)
        · refine ⟨es, hE, hG, by omega, fun m n hm hdn => ?_⟩
          obtain ⟨n, rfl⟩ : ∃ n', n = n' + 1 := ⟨n - 1, by omega⟩
          rw [g8_L0, bif_decide, e2, e1, e3, bif_decide, bif_decide, if_pos (by omega), if_pos (by omega), if_neg (by omega)]
      · refine ⟨es, hE, hG, by omega, fun m n hm hdn => ?_⟩
        obtain ⟨n, rfl⟩ : ∃ n', n = n' + 1 := ⟨n - 1, by omega⟩
        rw [g8_L0, bif_decide, e2, e1, e3, bif_decide, bif_decide, if_pos (by omega), if_neg (by omega)]
    · refine ⟨es, hE, hG, by omega, fun m n hm hdn => ?_⟩
      obtain ⟨n, rfl⟩ : ∃ n', n = n' + 1 := ⟨n - 1, by omega⟩
      rw [g8_L0, bif_decide, e2, e1, e3, bif_decide, bif_decide, if_neg (by omega)]
theorem make_MatrixR (hr : r ≤ 100) (hc : c ≤ 100) {l : List Int} (hl : l.length ≤ 100000) : ∃ es, EntsOK r c es ∧ (∀ e ∈ es, GoodR e.2.2) ∧ es.length ≤ l.length + 2 ∧ ∀ m, 2000000 < m →
    g8 m (r : Int) (c : Int) l = some (((r : Int), (c : Int), packS es r c, packI es r c, packV es r c, ()), (), (), (), ()) := by
  obtain ⟨es, h2, h0, h3, h1⟩ := Matrix_L0r (r := r) (c := c) (by omega) (by omega) l hl 0 0 [] [] [] l.length 0 [] (by omega) (by omega) (fun k hk => absurd hk (Nat.not_lt_zero _)) (fun e he => by cases he) (Nat.le_refl _)
  refine ⟨es, h2, h0, h3, fun m hm => ?_⟩
  have h1 := h1 m m (by omega) (by omega)
  simp only [Int.natCast_zero] at h1
  rw [g8, h1]
  simp only [Option.bind_some]
  rw [Pack_eq h2 (by omega) (by omega) (by omega) (by omega)]
  rfl
/- What is packed is a valid matrix. -/
theorem pack_MV (hE : EntsOK r c es) (hr : r ≤ 200) (hc : c ≤ 200) (ha : c * r ≤ 10000) : MV r c (packS es r c) (packI es r c) (packV es r c) := ⟨pack_ok hr hc ha, packV_len _ _ _, pack_chk hE hr hc ha⟩
theorem can_good (hg : ∀ e ∈ es, GoodR e.2.2) : ∀ e ∈ can es r c, GoodR e.2.2 := fun e he => by
  obtain ⟨i, j, _, _, h3, rfl⟩ := mem_can.1 he
  exact hg _ (lastIx_mem h3)
end Go.Vs.F

/-! MwTg -/
set_option linter.unusedVariables false
set_option linter.unusedSimpArgs false
set_option maxRecDepth 100000
namespace Go.Vs.F
theorem Invert_L0 (m : Nat) {N : Nat} {p : List Int} (hN : N ≤ 1000) (hP : PermOK N p) : ∀ (n k : Nat) (out : List Int), N - k < n → k ≤ N → out.length = N → (∀ t, t < k → out.getD (p.getD t 0).toNat 0 = (t : Int)) →
    ∃ q, g14_L0 m n p out (k : Int) = some (.inl (q, ())) ∧ q.length = N ∧ ∀ t, t < N → q.getD (p.getD t 0).toNat 0 = (t : Int)
  | 0, k, out, h, _, _, _ => by omega
  | n + 1, k, out, h, hk0, ho, hq => by
    have hl := hP.len
    rw [g14_L0]
    by_cases hk : k < N
    · have h1 : ((k : Int) < (p.length : Int)) := by omega
      have c1 : (0 : Int) ≤ (k : Int) ∧ (k : Int) < (p.length : Int) := by omega
      obtain ⟨a, b⟩ := hP.rng k hk
      have c2 : (0 : Int) ≤ p.getD k 0 ∧ p.getD k 0 < (out.length : Int) := by omega
      simp only [bif_decide, h1, if_true, c1, c2, and_self, Int.toNat_natCast, Nat.zero_add, w_i64_eq, wsucc (show k < 4611686018427387904 by omega)]
      refine Invert_L0 m hN hP n (k + 1) _ (by omega) (by omega) (by simp [ho]) fun t ht => ?_
      rw [getD_set' (by omega)]
      split
      · rename_i e
        have ht' := hP.rng t (by omega)
        rw [hP.inj t k (by omega) hk (by omega)]
      · rename_i e
        have : t ≠ k := by rintro rfl; exact e rfl
        exact hq t (by omega)
    · have h1 : ¬ ((k : Int) < (p.length : Int)) := by omega
      simp only [bif_decide, h1, if_false]
      exact ⟨out, rfl, ho, fun t ht => hq t (by omega)⟩
theorem Invert_ok {N : Nat} {p : List Int} (hN : N ≤ 1000) (hP : PermOK N p) {m : Nat} (hm : 3000 < m) : ∃ q, PermOK N q ∧ (∀ t, t < N → q.getD (p.getD t 0).toNat 0 = (t : Int)) ∧ g14 m p = some (q, (), ()) := by
  have hl := hP.len
  obtain ⟨q, e, ql, qq⟩ := Invert_L0 m hN hP m 0 (List.replicate N 0) (by omega) (by omega) (by simp) (fun t ht => absurd ht (Nat.not_lt_zero _))
  rw [Int.natCast_zero] at e
  refine ⟨q, ⟨ql, fun k hk => ?_, fun k k' hk hk' e => ?_, fun i hi => ?_⟩, qq, ?_⟩
  · obtain ⟨t, ht, et⟩ := hP.sur k hk
    have := qq t ht
    rw [et, Int.toNat_natCast] at this
    omega
  · obtain ⟨t, ht, et⟩ := hP.sur k hk
    obtain ⟨t', ht', et'⟩ := hP.sur k' hk'
    have g1 := qq t ht
    have g2 := qq t' ht'
    rw [et, Int.toNat_natCast] at g1
    rw [et', Int.toNat_natCast] at g2
    have : t = t' := by omega
    subst this
    omega
  · have := hP.rng i hi
    exact ⟨(p.getD i 0).toNat, by omega, qq i hi⟩
  · have c1 : (0 : Int) ≤ (N : Int) ∧ (N : Int) ≤ (N : Int) ∧ (N : Int) ≤ 1073741824 := by omega
    rw [g14, hl]
    simp only [c1, and_self, if_true, Int.toNat_natCast, e, Option.bind_some]
section
variable {R C : Nat} {S I V : List Int}
/- Packing what is a permutation of the entries gives the matrix back. -/
theorem pack_back (h : MV R C S I V) {l : List Ent} (hp : List.Perm l (ents S I V C 0)) : packS l R C = S ∧ packI l R C = I ∧ packV l R C = V := by
  obtain ⟨a, b, c⟩ := pack_ents h.ok h.vl h.ents
  have hD := dist_perm hp h.dist
  exact ⟨by rw [packS_congr hD (fun x => hp.mem_iff) h.dist, a], by rw [packI_congr hD (fun x => hp.mem_iff) h.dist, b], by rw [packV_congr hD (fun x => hp.mem_iff) h.dist, c]⟩
theorem Transpose_twice {m : Nat} (hm : 3000000 < m) (h : MV R C S I V) (ha : C * R ≤ 10000) :
    ∃ S1 I1 V1, g11 m (R : Int) (C : Int) S I V = some ((((C : Int), (R : Int), S1, I1, V1, ()), 0, ()), (), ()) ∧ g11 m (C : Int) (R : Int) S1 I1 V1 = some ((((R : Int), (C : Int), S, I, V, ()), 0, ()), (), ()) := by
  obtain ⟨hE, eT⟩ := Transpose_eq (m := m) (by omega) h.ok h.vl (by have := h.sl; omega) h.chk
  have hD : DistE ((ents S I V C 0).map swE) := dist_map h.dist fun a _ b _ h1 h2 => ⟨h2, h1⟩
  have h1 := pack_MV hE h.ok.cz h.ok.rz (by rw [Nat.mul_comm]; exact ha)
  obtain ⟨_, eT2⟩ := Transpose_eq (m := m) (by omega) h1.ok h1.vl (by have := h1.sl; omega) h1.chk
  have hp : List.Perm ((ents (packS ((ents S I V C 0).map swE) C R) (packI ((ents S I V C 0).map swE) C R) (packV ((ents S I V C 0).map swE) C R) R 0).map swE) (ents S I V C 0) := by
    rw [ents_packed]
    refine ((can_perm hE hD).symm.map swE).trans ?_
    rw [List.map_map]
    exact List.Perm.of_eq (List.map_id _)
  obtain ⟨a, b, c⟩ := pack_back h hp
  rw [a, b, c] at eT2
  exact ⟨_, _, _, eT, eT2⟩
theorem Permute_twice {m : Nat} (hm : 3000000 < m) (h : MV R C S I V) (ha : C * R ≤ 10000) {p q p' q' : List Int} (hp : PermOK R p) (hq : PermOK C q) (hp' : PermOK R p') (hq' : PermOK C q') (ip : ∀ t, t < R → p'.getD (p.getD t 0).toNat 0 = (t : Int)) (iq : ∀ t, t < C → q'.getD (q.getD t 0).toNat 0 = (t : Int)) :
    ∃ S1 I1 V1, g13 m (R : Int) (C : Int) S I V p q = some ((((R : Int), (C : Int), S1, I1, V1, ()), 0, ()), (), (), (), ()) ∧ g13 m (R : Int) (C : Int) S1 I1 V1 p' q' = some ((((R : Int), (C : Int), S, I, V, ()), 0, ()), (), (), (), ()) := by
  obtain ⟨row, col, r1, r2, hE, r3, r4, eP⟩ := Permute_eq h.ok h.vl (by have := h.sl; omega) h.chk hp hq
  have hEe := mem_entsOK h.ents
  have h1 := pack_MV hE h.ok.rz h.ok.cz ha
  obtain ⟨row', col', r1', r2', hE', r3', r4', eP'⟩ := Permute_eq h1.ok h1.vl (by have := h1.sl; omega) h1.chk hp' hq'
  -- moved back
  have hback : ∀ e ∈ ents S I V C 0, pmE row' col' (pmE row col e) = e := by
    intro e he
    obtain ⟨a, b, _⟩ := hEe e he
    obtain ⟨t, ht, t1, t2⟩ := r3 e.1 a.1 a.2
    obtain ⟨s, hs, s1, s2⟩ := r4 e.2.1 b.1 b.2
    have g1 := ip t ht
    have g2 := iq s hs
    rw [t2] at g1
    rw [s2] at g2
    have g3 := r1' e.1.toNat (by omega)
    have g4 := r2' e.2.1.toNat (by omega)
    rw [g1, Int.toNat_natCast] at g3
    rw [g2, Int.toNat_natCast] at g4
    obtain ⟨e1, e2, e3⟩ := e
    simp only [pmE] at *
    rw [t1, s1]
    simp only [Int.toNat_natCast]
    rw [g3, g4, Int.toNat_of_nonneg a.1, Int.toNat_of_nonneg b.1]
  have hD : DistE ((ents S I V C 0).map (pmE row col)) := dist_map h.dist fun a ha b hb h1 h2 => by
    have e1 := hback a ha
    have e2 := hback b hb
    have : (pmE row' col' (pmE row col a)).1 = (pmE row' col' (pmE row col b)).1 := by simp only [pmE] at h1 ⊢; rw [h1]
    have g : (pmE row' col' (pmE row col a)).2.1 = (pmE row' col' (pmE row col b)).2.1 := by simp only [pmE] at h2 ⊢; rw [h2]
    rw [e1, e2] at this g
    exact ⟨this, g⟩
  have hperm : List.Perm ((ents (packS ((ents S I V C 0).map (pmE row col)) R C) (packI ((ents S I V C 0).map (pmE row col)) R C) (packV ((ents S I V C 0).map (pmE row col)) R C) C 0).map (pmE row' col')) (ents S I V C 0) := by
    rw [ents_packed]
    refine ((can_perm hE hD).symm.map _).trans ?_
    rw [List.map_map]
    refine List.Perm.of_eq ?_
    conv => rhs; rw [← List.map_id (ents S I V C 0)]
    exact List.map_congr_left fun e he => hback e he
  obtain ⟨a, b, c⟩ := pack_back h hperm
  have e2 := eP' m (by omega)
  rw [a, b, c] at e2
  exact ⟨_, _, _, eP m (by omega), e2⟩
end
theorem MatrixRound_law (x1 x2 : Int) (l p q : List Int) : ∃ m, sparselaw09_MatrixRound m x1 x2 l p q = some (true, (), (), (), (), (), ()) := by
  refine ⟨4000000, ?_⟩
  generalize hm0 : (4000000 : Nat) = m
  have hm : 3000000 < m := by omega
  have hm2 : m < 4611686018427387904 := by omega
  clear hm0
  rw [sparselaw09_MatrixRound, bif_decide]
  by_cases hl : (l.length : Int) > 60
  · rw [if_pos hl, awakeN (by omega)]; rfl
  rw [if_neg hl]
  obtain ⟨r, hr, er⟩ := Place_eq (a := x1) (n := 7) (by omega) (by omega)
  obtain ⟨c, hc, ec⟩ := Place_eq (a := x2) (n := 7) (by omega) (by omega)
  obtain ⟨es, hE, hG, hel, eM⟩ := make_MatrixR (r := r) (c := c) (l := l) (by omega) (by omega) (by omega)
  have ha : c * r ≤ 10000 := Nat.le_trans (Nat.mul_le_mul (show c ≤ 7 by omega) (show r ≤ 7 by omega)) (by decide)
  have h := pack_MV hE (by omega) (by omega) ha
  obtain ⟨P, hP, eS1⟩ := Shuffle_eq p (N := r) (by omega)
  obtain ⟨Q, hQ, eS2⟩ := Shuffle_eq q (N := c) (by omega)
  obtain ⟨P', hP', iP, eI1⟩ := Invert_ok (by omega) hP (m := m) (by omega)
  obtain ⟨Q', hQ', iQ, eI2⟩ := Invert_ok (by omega) hQ (m := m) (by omega)
  obtain ⟨S1, I1, V1, eT1, eT2⟩ := Transpose_twice hm h ha
  obtain ⟨S2, I2, V2, eP1, eP2⟩ := Permute_twice hm h ha hP hQ hP' hQ' iP iQ
  have hlen := h.len
  have hgc : ∀ e ∈ ents (packS es r c) (packI es r c) (packV es r c) c 0, GoodR e.2.2 := by rw [ents_packed]; exact can_good hG
  have eF := FromEntries_eq (m := m) hm h.ents h.dist hgc (by omega) (by omega) hlen
  obtain ⟨f1, f2, f3⟩ := pack_ents h.ok h.vl h.ents
  rw [f1, f2, f3] at eF
  have hsl := h.sl
  have hvl := h.vl
  have hsz := h.ok.sz
  have eEnt : g10 m (r : Int) (c : Int) (packS es r c) (packI es r c) (packV es r c) = some (ents (packS es r c) (packI es r c) (packV es r c) c 0, (), ()) := by
    rw [g10, g28_eq (by omega) (by omega) (by omega) (by omega) (by omega), h.chk, Option.bind_some, bif_ne, if_pos rfl, mEntries_eq (by omega) h.ok h.vl]; rfl
  have eX := Matrix_self (m := m) (a := (r : Int)) (b := (c : Int)) (S := packS es r c) (I := packI es r c) (V := packV es r c) (by omega) (by omega) (by omega) hm2
  rw [show g7 m x1 7 = some ((r : Int), (), (), ()) from er m, Option.bind_some, show g7 m x2 7 = some ((c : Int), (), (), ()) from ec m, Option.bind_some]
  dsimp only
  rw [eM m (by omega), Option.bind_some]
  dsimp only
  rw [eEnt, Option.bind_some, eF, Option.bind_some, eT1, Option.bind_some]
  dsimp only
  rw [eT2, Option.bind_some, eS1 m (by omega), Option.bind_some, eS2 m (by omega), Option.bind_some, eP1, Option.bind_some]
  dsimp only
  rw [eI1, Option.bind_some, eI2, Option.bind_some]
  dsimp only
  rw [eP2, Option.bind_some]
  simp only [bif_eq, if_true, eX, Option.bind_some, cond_true]
  rw [awakeN (by omega)]; rfl
end Go.Vs.F
