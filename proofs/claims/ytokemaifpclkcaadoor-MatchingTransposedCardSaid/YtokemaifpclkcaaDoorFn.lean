/- The plain functions of the program, as the evaluator computes them (by program: gen.py). -/
import Derived.Test.YtokemaifpclkcaaDoorVb

/-! MbFn -/
set_option linter.unusedVariables false
namespace Go.Vs.F
def tab32_0 : List Int := [0, 1, 28, 2, 29, 14, 24, 3, 30, 22, 20, 15, 25, 17, 4, 8, 31, 27, 13, 23, 21, 19, 16, 7, 26, 12, 18, 6, 11, 5, 10, 9]
def tab256_1 : List Int := [0, 1, 2, 2, 3, 3, 3, 3, 4, 4, 4, 4, 4, 4, 4, 4, 5, 5, 5, 5, 5, 5, 5, 5, 5, 5, 5, 5, 5, 5, 5, 5, 6, 6, 6, 6, 6, 6, 6, 6, 6, 6, 6, 6, 6, 6, 6, 6, 6, 6, 6, 6, 6, 6, 6, 6, 6, 6, 6, 6, 6, 6, 6, 6, 7, 7, 7, 7, 7, 7, 7, 7, 7, 7, 7, 7, 7, 7, 7, 7, 7, 7, 7, 7, 7, 7, 7, 7, 7, 7, 7, 7, 7, 7, 7, 7, 7, 7, 7, 7, 7, 7, 7, 7, 7, 7, 7, 7, 7, 7, 7, 7, 7, 7, 7, 7, 7, 7, 7, 7, 7, 7, 7, 7, 7, 7, 7, 7, 8, 8, 8, 8, 8, 8, 8, 8, 8, 8, 8, 8, 8, 8, 8, 8, 8, 8, 8, 8, 8, 8, 8, 8, 8, 8, 8, 8, 8, 8, 8, 8, 8, 8, 8, 8, 8, 8, 8, 8, 8, 8, 8, 8, 8, 8, 8, 8, 8, 8, 8, 8, 8, 8, 8, 8, 8, 8, 8, 8, 8, 8, 8, 8, 8, 8, 8, 8, 8, 8, 8, 8, 8, 8, 8, 8, 8, 8, 8, 8, 8, 8, 8, 8, 8, 8, 8, 8, 8, 8, 8, 8, 8, 8, 8, 8, 8, 8, 8, 8, 8, 8, 8, 8, 8, 8, 8, 8, 8, 8, 8, 8, 8, 8, 8, 8, 8, 8, 8, 8, 8, 8, 8, 8, 8, 8, 8, 8]
/-! 46 sparse/matrix.within -/
def matrix_within (m : Nat) (v_n : Int) (v_lo : Int) (v_hi : Int) : Option (Bool × Unit × Unit × Unit × Unit) :=
  bif decide (v_n ≥ v_lo) then
    some (decide (v_n ≤ v_hi), ((), (), (), ()))
  else
    some (false, ((), (), (), ()))
/-! 90 cmp.isNaN_int_ -/
def cmp_isNaN (m : Nat) (v_x : Int) : Option (Bool × Unit × Unit) :=
  some (v_x != v_x, ((), ()))
/-! 78 cmp.Less_int_ -/
def cmp_Less (m : Nat) (v_x : Int) (v_y : Int) : Option (Bool × Unit × Unit × Unit) :=
  (cmp_isNaN m v_x).bind fun y1 =>
  bif y1.1 then
    (cmp_isNaN m v_y).bind fun y2 =>
    bif !y2.1 then
      some (true, ((), (), ()))
    else
      some (decide (v_x < v_y), ((), (), ()))
  else
    some (decide (v_x < v_y), ((), (), ()))
/-! 62 slices.IsSorted___int_int_ -/
def slices_IsSorted_L0 (m : Nat) : Nat → List Int → Int → Option ((Bool × Unit) ⊕ Unit ⊕ Empty)
  | 0, _, _ => none
  | n + 1, v_x, v_i =>
    bif decide (v_i > 0) then
      if (0 : Int) ≤ v_i ∧ v_i < (v_x.length : Int) then
      if (0 : Int) ≤ (w_i64 (v_i - 1)) ∧ (w_i64 (v_i - 1)) < (v_x.length : Int) then
      (cmp_Less m (v_x.getD v_i.toNat 0) (v_x.getD (w_i64 (v_i - 1)).toNat 0)).bind fun y1 =>
      bif y1.1 then
        some (.inl (false, ()))
      else
        slices_IsSorted_L0 m n v_x (w_i64 (v_i - 1))
      else none
      else none
    else
      some (.inr (.inl ()))
def slices_IsSorted (m : Nat) (v_x : List Int) : Option (Bool × Unit × Unit) :=
  (slices_IsSorted_L0 m m v_x (w_i64 ((v_x.length : Int) - 1))).bind fun y1 =>
  match y1 with
  | .inl z2 =>
    some (z2.1, ((), ()))
  | .inr (.inl z3) =>
    some (true, ((), ()))
  | .inr (.inr e) =>
    e.elim
/-! 47 sparse/matrix.columns -/
def matrix_columns_L1 (m : Nat) : Nat → Int → Int → List Int → List Int → List Int → Int → Int → Int → List Int → Int → Int → Option ((Bool × Unit) ⊕ ((Int × Int × List Int × List Int × List Int × Unit) × Int × Int × Unit) ⊕ Empty)
  | 0, _, _, _, _, _, _, _, _, _, _, _ => none
  | n + 1, v_t1_0, v_t1_1, v_t1_2, v_t1_3, v_t1_4, v_t4, v_t49, v_t50, v_t66, v_t67, v_t68 =>
    bif decide (v_t68 < v_t67) then
      if (0 : Int) ≤ v_t68 ∧ v_t68 < (v_t66.length : Int) then
      bif decide ((v_t66.getD v_t68.toNat 0) ≤ v_t4) then
        some (.inl (false, ()))
      else
        bif decide ((v_t66.getD v_t68.toNat 0) ≥ v_t1_0) then
          some (.inl (false, ()))
        else
          matrix_columns_L1 m n v_t1_0 v_t1_1 v_t1_2 v_t1_3 v_t1_4 (v_t66.getD v_t68.toNat 0) v_t49 v_t50 v_t66 v_t67 (w_i64 (v_t68 + 1))
      else none
    else
      some (.inr (.inl ((v_t1_0, v_t1_1, v_t1_2, v_t1_3, v_t1_4, ()), v_t49, v_t50, ())))
def matrix_columns_L0 (m : Nat) : Nat → Int → Int → List Int → List Int → List Int → Int → Int → Option ((Bool × Unit) ⊕ Unit ⊕ Empty)
  | 0, _, _, _, _, _, _, _ => none
  | n + 1, v_t1_0, v_t1_1, v_t1_2, v_t1_3, v_t1_4, v_t49, v_t50 =>
    bif decide (v_t50 < v_t49) then
      if (0 : Int) ≤ v_t50 ∧ v_t50 < (v_t1_2.length : Int) then
      if (0 : Int) ≤ (w_i64 (v_t50 + 1)) ∧ (w_i64 (v_t50 + 1)) < (v_t1_2.length : Int) then
      if (0 : Int) ≤ (v_t1_2.getD v_t50.toNat 0) ∧ (v_t1_2.getD v_t50.toNat 0) ≤ (v_t1_2.getD (w_i64 (v_t50 + 1)).toNat 0) ∧ (v_t1_2.getD (w_i64 (v_t50 + 1)).toNat 0) ≤ (v_t1_3.length : Int) then
      (matrix_columns_L1 m m v_t1_0 v_t1_1 v_t1_2 v_t1_3 v_t1_4 (-1) v_t49 v_t50 ((v_t1_3.drop (v_t1_2.getD v_t50.toNat 0).toNat).take ((v_t1_2.getD (w_i64 (v_t50 + 1)).toNat 0).toNat - (v_t1_2.getD v_t50.toNat 0).toNat)) (((v_t1_3.drop (v_t1_2.getD v_t50.toNat 0).toNat).take ((v_t1_2.getD (w_i64 (v_t50 + 1)).toNat 0).toNat - (v_t1_2.getD v_t50.toNat 0).toNat)).length : Int) 0).bind fun y1 =>
      match y1 with
      | .inl z2 =>
        some (.inl (z2.1, ()))
      | .inr (.inl z3) =>
        matrix_columns_L0 m n z3.1.1 z3.1.2.1 z3.1.2.2.1 z3.1.2.2.2.1 z3.1.2.2.2.2.1 z3.2.1 (w_i64 (z3.2.2.1 + 1))
      | .inr (.inr e) =>
        e.elim
      else none
      else none
      else none
    else
      some (.inr (.inl ()))
def matrix_columns (m : Nat) (v_m_0 : Int) (v_m_1 : Int) (v_m_2 : List Int) (v_m_3 : List Int) (v_m_4 : List Int) : Option (Bool × Unit × Unit) :=
  bif (v_m_2.length : Int) != (w_i64 (v_m_1 + 1)) then
    some (false, ((), ()))
  else
    if (0 : Int) ≤ 0 ∧ 0 < (v_m_2.length : Int) then
    bif (v_m_2.getD 0 0) != 0 then
      some (false, ((), ()))
    else
      (slices_IsSorted m v_m_2).bind fun y1 =>
      bif !y1.1 then
        some (false, ((), ()))
      else
        if (0 : Int) ≤ v_m_1 ∧ v_m_1 < (v_m_2.length : Int) then
        bif (v_m_2.getD v_m_1.toNat 0) != (v_m_3.length : Int) then
          some (false, ((), ()))
        else
          bif (v_m_3.length : Int) != (v_m_4.length : Int) then
            some (false, ((), ()))
          else
            (matrix_columns_L0 m m v_m_0 v_m_1 v_m_2 v_m_3 v_m_4 v_m_1 0).bind fun y2 =>
            match y2 with
            | .inl z3 =>
              some (z3.1, ((), ()))
            | .inr (.inl z4) =>
              some (true, ((), ()))
            | .inr (.inr e) =>
              e.elim
        else none
    else none
/-! 64 sparse/float.parts -/
def float_parts (m : Nat) (v_f : Int) : Option ((Int × Int × Unit) × Unit × Unit) :=
  some ((w_i64 (b_and_ .u64 (shr_ .u64 v_f 52) 2047), b_and_ .u64 v_f 4503599627370495, ()), ((), ()))
/-! 50 sparse/float.IsFinite -/
def float_IsFinite (m : Nat) (v_f : Int) : Option (Bool × Unit × Unit) :=
  (float_parts m v_f).bind fun y1 =>
  some (y1.1.1 != 2047, ((), ()))
/-! 49 sparse/matrix.Check_1 -/
def matrix_Check_1 (m : Nat) (v_f : Int) : Option (Bool × Unit × Unit) :=
  (float_IsFinite m v_f).bind fun y1 =>
  some (!y1.1, ((), ()))
/-! 63 slices.IndexFunc___sparse/api.Float_sparse/api.Float_ -/
def slices_IndexFunc_L0 (m : Nat) : Nat → List Int → Int → Int → Option ((Int × Unit) ⊕ Unit ⊕ Empty)
  | 0, _, _, _ => none
  | n + 1, v_s, v_t7, v_t8 =>
    bif decide (v_t8 < v_t7) then
      if (0 : Int) ≤ v_t8 ∧ v_t8 < (v_s.length : Int) then
      (matrix_Check_1 m (v_s.getD v_t8.toNat 0)).bind fun y1 =>
      bif y1.1 then
        some (.inl (v_t8, ()))
      else
        slices_IndexFunc_L0 m n v_s v_t7 (w_i64 (v_t8 + 1))
      else none
    else
      some (.inr (.inl ()))
def slices_IndexFunc (m : Nat) (v_s : List Int) : Option (Int × Unit × Unit × Unit) :=
  (slices_IndexFunc_L0 m m v_s (v_s.length : Int) 0).bind fun y1 =>
  match y1 with
  | .inl z2 =>
    some (z2.1, ((), (), ()))
  | .inr (.inl z3) =>
    some ((-1), ((), (), ()))
  | .inr (.inr e) =>
    e.elim
/-! 48 slices.ContainsFunc___sparse/api.Float_sparse/api.Float_ -/
def slices_ContainsFunc (m : Nat) (v_s : List Int) : Option (Bool × Unit × Unit × Unit) :=
  (slices_IndexFunc m v_s).bind fun y1 =>
  some (decide (y1.1 ≥ 0), ((), (), ()))
/-! 29 sparse/matrix.Check -/
def matrix_Check (m : Nat) (v_m_0 : Int) (v_m_1 : Int) (v_m_2 : List Int) (v_m_3 : List Int) (v_m_4 : List Int) : Option (Int × Unit × Unit) :=
  (matrix_within m v_m_0 0 200).bind fun y1 =>
  bif !y1.1 then
    some (6, ((), ()))
  else
    (matrix_within m v_m_1 0 200).bind fun y2 =>
    bif !y2.1 then
      some (6, ((), ()))
    else
      bif decide ((v_m_3.length : Int) > 10000) then
        some (6, ((), ()))
      else
        (matrix_columns m v_m_0 v_m_1 v_m_2 v_m_3 v_m_4).bind fun y3 =>
        bif !y3.1 then
          some (1, ((), ()))
        else
          (slices_ContainsFunc m v_m_4).bind fun y4 =>
          bif y4.1 then
            some (4, ((), ()))
          else
            some (0, ((), ()))
/-! 38 sparse/matching.Edges -/
def matching_Edges_L0 (m : Nat) : Nat → Int → Int → List Int → List Int → List Int → List (List Int) → Int → Int → Option ((List (List Int) × Unit) ⊕ Empty)
  | 0, _, _, _, _, _, _, _, _ => none
  | n + 1, v_m_0, v_m_1, v_m_2, v_m_3, v_m_4, v_out, v_t9, v_t10 =>
    bif decide (v_t10 < v_t9) then
      if (0 : Int) ≤ v_t10 ∧ v_t10 < (v_m_2.length : Int) then
      if (0 : Int) ≤ (w_i64 (v_t10 + 1)) ∧ (w_i64 (v_t10 + 1)) < (v_m_2.length : Int) then
      if (0 : Int) ≤ (v_m_2.getD v_t10.toNat 0) ∧ (v_m_2.getD v_t10.toNat 0) ≤ (v_m_2.getD (w_i64 (v_t10 + 1)).toNat 0) ∧ (v_m_2.getD (w_i64 (v_t10 + 1)).toNat 0) ≤ (v_m_3.length : Int) then
      if (0 : Int) ≤ v_t10 ∧ v_t10 < (v_out.length : Int) then
      matching_Edges_L0 m n v_m_0 v_m_1 v_m_2 v_m_3 v_m_4 (v_out.set (0 + v_t10.toNat) ((v_m_3.drop (v_m_2.getD v_t10.toNat 0).toNat).take ((v_m_2.getD (w_i64 (v_t10 + 1)).toNat 0).toNat - (v_m_2.getD v_t10.toNat 0).toNat))) v_t9 (w_i64 (v_t10 + 1))
      else none
      else none
      else none
      else none
    else
      some (.inl (v_out, ()))
def matching_Edges (m : Nat) (v_m_0 : Int) (v_m_1 : Int) (v_m_2 : List Int) (v_m_3 : List Int) (v_m_4 : List Int) : Option (List (List Int) × Unit × Unit) :=
  if (0 : Int) ≤ v_m_1 ∧ v_m_1 ≤ v_m_1 ∧ v_m_1 ≤ 1073741824 then
  (matching_Edges_L0 m m v_m_0 v_m_1 v_m_2 v_m_3 v_m_4 (List.replicate v_m_1.toNat ([] : List Int)) ((List.replicate v_m_1.toNat ([] : List Int)).length : Int) 0).bind fun y1 =>
  match y1 with
  | .inl z2 =>
    some (z2.1, ((), ()))
  | .inr e =>
    e.elim
  else none
/-! 51 sparse/matching.full -/
def matching_full_L0 (m : Nat) : Nat → Int → List Int → Int → Int → Option ((List Int × Unit) ⊕ Empty)
  | 0, _, _, _, _ => none
  | n + 1, v_v, v_out, v_t10, v_t11 =>
    bif decide (v_t11 < v_t10) then
      if (0 : Int) ≤ v_t11 ∧ v_t11 < (v_out.length : Int) then
      matching_full_L0 m n v_v (v_out.set (0 + v_t11.toNat) v_v) v_t10 (w_i64 (v_t11 + 1))
      else none
    else
      some (.inl (v_out, ()))
def matching_full (m : Nat) (v_n : Int) (v_v : Int) : Option (List Int × Unit × Unit × Unit) :=
  if (0 : Int) ≤ v_n ∧ v_n ≤ v_n ∧ v_n ≤ 1073741824 then
  (matching_full_L0 m m v_v (List.replicate v_n.toNat (0 : Int)) ((List.replicate v_n.toNat (0 : Int)).length : Int) 0).bind fun y1 =>
  match y1 with
  | .inl z2 =>
    some (z2.1, ((), (), ()))
  | .inr e =>
    e.elim
  else none
/-! 52 __sparse/matching.kuhn_.try -/
def matching_kuhn_try_L0 (self : List (List Int) → List Int → List Int → List Bool → Int → Option (Bool × (List (List Int) × List Int × List Int × List Bool × Unit) × Unit × Unit)) (m : Nat) : Nat → List (List Int) → List Int → List Int → List Bool → Int → List Int → Int → Int → Option (((List (List Int) × List Int × List Int × List Bool × Unit) × Bool × Unit) ⊕ ((List (List Int) × List Int × List Int × List Bool × Unit) × Unit) ⊕ Empty)
  | 0, _, _, _, _, _, _, _, _ => none
  | n + 1, v_k_0, v_k_1, v_k_2, v_k_3, v_t1, v_t13, v_t14, v_t15 =>
    bif decide (v_t15 < v_t14) then
      if (0 : Int) ≤ v_t15 ∧ v_t15 < (v_t13.length : Int) then
      if (0 : Int) ≤ (v_t13.getD v_t15.toNat 0) ∧ (v_t13.getD v_t15.toNat 0) < (v_k_3.length : Int) then
      bif v_k_3.getD (0 + (v_t13.getD v_t15.toNat 0).toNat) false then
        matching_kuhn_try_L0 self m n v_k_0 v_k_1 v_k_2 v_k_3 v_t1 v_t13 v_t14 (w_i64 (v_t15 + 1))
      else
        if (0 : Int) ≤ (v_t13.getD v_t15.toNat 0) ∧ (v_t13.getD v_t15.toNat 0) < (v_k_3.length : Int) then
        if (0 : Int) ≤ (v_t13.getD v_t15.toNat 0) ∧ (v_t13.getD v_t15.toNat 0) < (v_k_2.length : Int) then
        bif (v_k_2.getD (0 + (v_t13.getD v_t15.toNat 0).toNat) 0) == (-1) then
          if (0 : Int) ≤ v_t1 ∧ v_t1 < (v_k_1.length : Int) then
          if (0 : Int) ≤ (v_t13.getD v_t15.toNat 0) ∧ (v_t13.getD v_t15.toNat 0) < (v_k_2.length : Int) then
          some (.inl ((v_k_0, v_k_1.set (0 + v_t1.toNat) (v_t13.getD v_t15.toNat 0), v_k_2.set (0 + (v_t13.getD v_t15.toNat 0).toNat) v_t1, v_k_3.set (0 + (v_t13.getD v_t15.toNat 0).toNat) true, ()), true, ()))
          else none
          else none
        else
          if (0 : Int) ≤ (v_t13.getD v_t15.toNat 0) ∧ (v_t13.getD v_t15.toNat 0) < (v_k_2.length : Int) then
          (self v_k_0 v_k_1 v_k_2 (v_k_3.set (0 + (v_t13.getD v_t15.toNat 0).toNat) true) (v_k_2.getD (0 + (v_t13.getD v_t15.toNat 0).toNat) 0)).bind fun y1 =>
          bif y1.1 then
            if (0 : Int) ≤ v_t1 ∧ v_t1 < (y1.2.1.2.1.length : Int) then
            if (0 : Int) ≤ (v_t13.getD v_t15.toNat 0) ∧ (v_t13.getD v_t15.toNat 0) < (y1.2.1.2.2.1.length : Int) then
            some (.inl ((y1.2.1.1, y1.2.1.2.1.set (0 + v_t1.toNat) (v_t13.getD v_t15.toNat 0), y1.2.1.2.2.1.set (0 + (v_t13.getD v_t15.toNat 0).toNat) v_t1, y1.2.1.2.2.2.1, ()), true, ()))
            else none
            else none
          else
            matching_kuhn_try_L0 self m n y1.2.1.1 y1.2.1.2.1 y1.2.1.2.2.1 y1.2.1.2.2.2.1 v_t1 v_t13 v_t14 (w_i64 (v_t15 + 1))
          else none
        else none
        else none
      else none
      else none
    else
      some (.inr (.inl ((v_k_0, v_k_1, v_k_2, v_k_3, ()), ())))
def matching_kuhn_try : Nat → List (List Int) → List Int → List Int → List Bool → Int → Option (Bool × (List (List Int) × List Int × List Int × List Bool × Unit) × Unit × Unit)
  | 0, _, _, _, _, _ => none
  | m + 1, v_k_0, v_k_1, v_k_2, v_k_3, v_t1 =>
    if (0 : Int) ≤ v_t1 ∧ v_t1 < (v_k_0.length : Int) then
    (matching_kuhn_try_L0 (fun a0 a1 a2 a3 a4 => matching_kuhn_try m a0 a1 a2 a3 a4) m m v_k_0 v_k_1 v_k_2 v_k_3 v_t1 (v_k_0.getD (0 + v_t1.toNat) ([] : List Int)) ((v_k_0.getD (0 + v_t1.toNat) ([] : List Int)).length : Int) 0).bind fun y1 =>
    match y1 with
    | .inl z2 =>
      some (z2.2.1, ((z2.1.1, z2.1.2.1, z2.1.2.2.1, z2.1.2.2.2.1, ()), (), ()))
    | .inr (.inl z3) =>
      some (false, ((z3.1.1, z3.1.2.1, z3.1.2.2.1, z3.1.2.2.2.1, ()), (), ()))
    | .inr (.inr e) =>
      e.elim
    else none
/-! 30 sparse/matching.matched -/
def matching_matched_L0 (m : Nat) : Nat → Int → Int → List Int → List Int → List Int → List (List Int) → List Int → List Int → List Bool → Int → Int → Option (((List (List Int) × List Int × List Int × List Bool × Unit) × Unit) ⊕ Empty)
  | 0, _, _, _, _, _, _, _, _, _, _, _ => none
  | n + 1, v_m_0, v_m_1, v_m_2, v_m_3, v_m_4, v_k_0, v_k_1, v_k_2, v_k_3, v_t16, v_t17 =>
    bif decide (v_t17 < v_t16) then
      if (0 : Int) ≤ v_m_0 ∧ v_m_0 ≤ v_m_0 ∧ v_m_0 ≤ 1073741824 then
      (matching_kuhn_try m v_k_0 v_k_1 v_k_2 (List.replicate v_m_0.toNat false) v_t17).bind fun y1 =>
      matching_matched_L0 m n v_m_0 v_m_1 v_m_2 v_m_3 v_m_4 y1.2.1.1 y1.2.1.2.1 y1.2.1.2.2.1 y1.2.1.2.2.2.1 v_t16 (w_i64 (v_t17 + 1))
      else none
    else
      some (.inl ((v_k_0, v_k_1, v_k_2, v_k_3, ()), ()))
def matching_matched (m : Nat) (v_m_0 : Int) (v_m_1 : Int) (v_m_2 : List Int) (v_m_3 : List Int) (v_m_4 : List Int) : Option ((List (List Int) × List Int × List Int × List Bool × Unit) × Unit × Unit) :=
  (matching_Edges m v_m_0 v_m_1 v_m_2 v_m_3 v_m_4).bind fun y1 =>
  (matching_full m v_m_1 (-1)).bind fun y2 =>
  (matching_full m v_m_0 (-1)).bind fun y3 =>
  (matching_matched_L0 m m v_m_0 v_m_1 v_m_2 v_m_3 v_m_4 y1.1 y2.1 y3.1 ([] : List Bool) v_m_1 0).bind fun y4 =>
  match y4 with
  | .inl z5 =>
    some ((z5.1.1, z5.1.2.1, z5.1.2.2.1, z5.1.2.2.2.1, ()), ((), ()))
  | .inr e =>
    e.elim
/-! 11 sparse/matching.Maximum -/
def matching_Maximum (m : Nat) (v_m_0 : Int) (v_m_1 : Int) (v_m_2 : List Int) (v_m_3 : List Int) (v_m_4 : List Int) : Option ((List Int × Int × Unit) × Unit × Unit) :=
  (matrix_Check m v_m_0 v_m_1 v_m_2 v_m_3 v_m_4).bind fun y1 =>
  bif y1.1 != 0 then
    some ((([] : List Int), y1.1, ()), ((), ()))
  else
    (matching_matched m v_m_0 v_m_1 v_m_2 v_m_3 v_m_4).bind fun y2 =>
    some ((y2.1.2.1, 0, ()), ((), ()))
/-! 33 sparse/matching.Reachable -/
def matching_Reachable_L2 (m : Nat) : Nat → List Bool → List Bool → List (List Int) → List Int → List Int → List Bool → List Int → List Int → Int → Int → Option ((List Bool × List Bool × (List (List Int) × List Int × List Int × List Bool × Unit) × List Int × Unit) ⊕ Empty)
  | 0, _, _, _, _, _, _, _, _, _, _ => none
  | n + 1, v_t2, v_t3, v_t4_0, v_t4_1, v_t4_2, v_t4_3, v_t5, v_t54, v_t55, v_t56 =>
    bif decide (v_t56 < v_t55) then
      if (0 : Int) ≤ v_t56 ∧ v_t56 < (v_t54.length : Int) then
      if (0 : Int) ≤ (v_t54.getD v_t56.toNat 0) ∧ (v_t54.getD v_t56.toNat 0) < (v_t2.length : Int) then
      if (0 : Int) ≤ (v_t54.getD v_t56.toNat 0) ∧ (v_t54.getD v_t56.toNat 0) < (v_t4_2.length : Int) then
      bif (v_t4_2.getD (0 + (v_t54.getD v_t56.toNat 0).toNat) 0) != (-1) then
        if (0 : Int) ≤ (v_t4_2.getD (0 + (v_t54.getD v_t56.toNat 0).toNat) 0) ∧ (v_t4_2.getD (0 + (v_t54.getD v_t56.toNat 0).toNat) 0) < (v_t3.length : Int) then
        bif !(v_t3.getD (0 + (v_t4_2.getD (0 + (v_t54.getD v_t56.toNat 0).toNat) 0).toNat) false) then
          if (0 : Int) ≤ (v_t4_2.getD (0 + (v_t54.getD v_t56.toNat 0).toNat) 0) ∧ (v_t4_2.getD (0 + (v_t54.getD v_t56.toNat 0).toNat) 0) < (v_t3.length : Int) then
          if v_t5.length + ([v_t4_2.getD (0 + (v_t54.getD v_t56.toNat 0).toNat) 0] : List Int).length ≤ 1073741824 then
          matching_Reachable_L2 m n (v_t2.set (0 + (v_t54.getD v_t56.toNat 0).toNat) true) (v_t3.set (0 + (v_t4_2.getD (0 + (v_t54.getD v_t56.toNat 0).toNat) 0).toNat) true) v_t4_0 v_t4_1 v_t4_2 v_t4_3 (v_t5 ++ ([v_t4_2.getD (0 + (v_t54.getD v_t56.toNat 0).toNat) 0] : List Int)) v_t54 v_t55 (w_i64 (v_t56 + 1))
          else none
          else none
        else
          matching_Reachable_L2 m n (v_t2.set (0 + (v_t54.getD v_t56.toNat 0).toNat) true) v_t3 v_t4_0 v_t4_1 v_t4_2 v_t4_3 v_t5 v_t54 v_t55 (w_i64 (v_t56 + 1))
        else none
      else
        matching_Reachable_L2 m n (v_t2.set (0 + (v_t54.getD v_t56.toNat 0).toNat) true) v_t3 v_t4_0 v_t4_1 v_t4_2 v_t4_3 v_t5 v_t54 v_t55 (w_i64 (v_t56 + 1))
      else none
      else none
      else none
    else
      some (.inl (v_t2, v_t3, (v_t4_0, v_t4_1, v_t4_2, v_t4_3, ()), v_t5, ()))
def matching_Reachable_L1 (m : Nat) : Nat → List Bool → List Bool → List (List Int) → List Int → List Int → List Bool → List Int → Option ((List Bool × List Bool × Unit) ⊕ Empty)
  | 0, _, _, _, _, _, _, _ => none
  | n + 1, v_t2, v_t3, v_t4_0, v_t4_1, v_t4_2, v_t4_3, v_t5 =>
    bif decide ((v_t5.length : Int) > 0) then
      if (0 : Int) ≤ 0 ∧ 0 < (v_t5.length : Int) then
      if (0 : Int) ≤ 1 ∧ 1 ≤ (v_t5.length : Int) ∧ (v_t5.length : Int) ≤ (v_t5.length : Int) then
      if (0 : Int) ≤ (v_t5.getD (0 + 0) 0) ∧ (v_t5.getD (0 + 0) 0) < (v_t4_0.length : Int) then
      (matching_Reachable_L2 m m v_t2 v_t3 v_t4_0 v_t4_1 v_t4_2 v_t4_3 (v_t5.drop 1) (v_t4_0.getD (0 + (v_t5.getD (0 + 0) 0).toNat) ([] : List Int)) ((v_t4_0.getD (0 + (v_t5.getD (0 + 0) 0).toNat) ([] : List Int)).length : Int) 0).bind fun y1 =>
      match y1 with
      | .inl z2 =>
        matching_Reachable_L1 m n z2.1 z2.2.1 z2.2.2.1.1 z2.2.2.1.2.1 z2.2.2.1.2.2.1 z2.2.2.1.2.2.2.1 z2.2.2.2.1
      | .inr e =>
        e.elim
      else none
      else none
      else none
    else
      some (.inl (v_t2, v_t3, ()))
def matching_Reachable_L0 (m : Nat) : Nat → List Bool → List Bool → List (List Int) → List Int → List Int → List Bool → List Int → Int → Int → Option ((List Bool × List Bool × (List (List Int) × List Int × List Int × List Bool × Unit) × List Int × Unit) ⊕ Empty)
  | 0, _, _, _, _, _, _, _, _, _ => none
  | n + 1, v_t2, v_t3, v_t4_0, v_t4_1, v_t4_2, v_t4_3, v_t5, v_t24, v_t25 =>
    bif decide (v_t25 < v_t24) then
      if (0 : Int) ≤ v_t25 ∧ v_t25 < (v_t4_1.length : Int) then
      bif (v_t4_1.getD (0 + v_t25.toNat) 0) == (-1) then
        if (0 : Int) ≤ v_t25 ∧ v_t25 < (v_t3.length : Int) then
        if v_t5.length + ([v_t25] : List Int).length ≤ 1073741824 then
        matching_Reachable_L0 m n v_t2 (v_t3.set (0 + v_t25.toNat) true) v_t4_0 v_t4_1 v_t4_2 v_t4_3 (v_t5 ++ ([v_t25] : List Int)) v_t24 (w_i64 (v_t25 + 1))
        else none
        else none
      else
        matching_Reachable_L0 m n v_t2 v_t3 v_t4_0 v_t4_1 v_t4_2 v_t4_3 v_t5 v_t24 (w_i64 (v_t25 + 1))
      else none
    else
      some (.inl (v_t2, v_t3, (v_t4_0, v_t4_1, v_t4_2, v_t4_3, ()), v_t5, ()))
def matching_Reachable (m : Nat) (v_m_0 : Int) (v_m_1 : Int) (v_m_2 : List Int) (v_m_3 : List Int) (v_m_4 : List Int) : Option ((List Bool × List Bool × Unit) × Unit × Unit) :=
  (matching_matched m v_m_0 v_m_1 v_m_2 v_m_3 v_m_4).bind fun y1 =>
  if (0 : Int) ≤ v_m_0 ∧ v_m_0 ≤ v_m_0 ∧ v_m_0 ≤ 1073741824 then
  if (0 : Int) ≤ v_m_1 ∧ v_m_1 ≤ v_m_1 ∧ v_m_1 ≤ 1073741824 then
  (matching_Reachable_L0 m m (List.replicate v_m_0.toNat false) (List.replicate v_m_1.toNat false) y1.1.1 y1.1.2.1 y1.1.2.2.1 y1.1.2.2.2.1 ([] : List Int) (y1.1.2.1.length : Int) 0).bind fun y2 =>
  match y2 with
  | .inl z3 =>
    (matching_Reachable_L1 m m z3.1 z3.2.1 z3.2.2.1.1 z3.2.2.1.2.1 z3.2.2.1.2.2.1 z3.2.2.1.2.2.2.1 z3.2.2.2.1).bind fun y4 =>
    match y4 with
    | .inl z5 =>
      some ((z5.1, z5.2.1, ()), ((), ()))
    | .inr e =>
      e.elim
  | .inr e =>
    e.elim
  else none
  else none
/-! 34 sparse/matching.List -/
def matching_List_L0 (m : Nat) : Nat → Bool → List Int → List Bool → Int → Int → Option ((List Int × Unit) ⊕ Empty)
  | 0, _, _, _, _, _ => none
  | n + 1, v_value, v_out, v_t8, v_t9, v_t10 =>
    bif decide (v_t10 < v_t9) then
      if (0 : Int) ≤ v_t10 ∧ v_t10 < (v_t8.length : Int) then
      bif (v_t8.getD v_t10.toNat false) == v_value then
        if v_out.length + ([v_t10] : List Int).length ≤ 1073741824 then
        matching_List_L0 m n v_value (v_out ++ ([v_t10] : List Int)) v_t8 v_t9 (w_i64 (v_t10 + 1))
        else none
      else
        matching_List_L0 m n v_value v_out v_t8 v_t9 (w_i64 (v_t10 + 1))
      else none
    else
      some (.inl (v_out, ()))
def matching_List (m : Nat) (v_l : List Bool) (v_value : Bool) : Option (List Int × Unit × Unit × Unit) :=
  (matching_List_L0 m m v_value ([] : List Int) v_l (v_l.length : Int) 0).bind fun y1 =>
  match y1 with
  | .inl z2 =>
    some (z2.1, ((), (), ()))
  | .inr e =>
    e.elim
/-! 13 sparse/matching.Cover -/
def matching_Cover (m : Nat) (v_m_0 : Int) (v_m_1 : Int) (v_m_2 : List Int) (v_m_3 : List Int) (v_m_4 : List Int) : Option (((List Int × List Int × Unit) × Int × Unit) × Unit × Unit) :=
  (matrix_Check m v_m_0 v_m_1 v_m_2 v_m_3 v_m_4).bind fun y1 =>
  bif y1.1 != 0 then
    some (((([] : List Int), ([] : List Int), ()), y1.1, ()), ((), ()))
  else
    (matching_Reachable m v_m_0 v_m_1 v_m_2 v_m_3 v_m_4).bind fun y2 =>
    (matching_List m y2.1.1 true).bind fun y3 =>
    (matching_List m y2.1.2.1 false).bind fun y4 =>
    some (((y3.1, y4.1, ()), 0, ()), ((), ()))
/-! 15 sparse/sparsekit.Ints -/
def sparsekit_Ints_L0 (m : Nat) : Nat → List Int → List Int → Int → Option ((Bool × Unit) ⊕ Unit ⊕ Empty)
  | 0, _, _, _ => none
  | n + 1, v_a, v_b, v_i =>
    bif decide (v_i < (v_a.length : Int)) then
      if (0 : Int) ≤ v_i ∧ v_i < (v_a.length : Int) then
      if (0 : Int) ≤ v_i ∧ v_i < (v_b.length : Int) then
      bif (v_a.getD v_i.toNat 0) != (v_b.getD v_i.toNat 0) then
        some (.inl (false, ()))
      else
        sparsekit_Ints_L0 m n v_a v_b (w_i64 (v_i + 1))
      else none
      else none
    else
      some (.inr (.inl ()))
def sparsekit_Ints (m : Nat) (v_a : List Int) (v_b : List Int) : Option (Bool × Unit × Unit × Unit) :=
  bif (v_a.length : Int) != (v_b.length : Int) then
    some (false, ((), (), ()))
  else
    (sparsekit_Ints_L0 m m v_a v_b 0).bind fun y1 =>
    match y1 with
    | .inl z2 =>
      some (z2.1, ((), (), ()))
    | .inr (.inl z3) =>
      some (true, ((), (), ()))
    | .inr (.inr e) =>
      e.elim
/-! 56 sparse/matching.contains -/
def matching_contains_L0 (m : Nat) : Nat → Int → List Int → Int → Int → Option ((Bool × Unit) ⊕ Unit ⊕ Empty)
  | 0, _, _, _, _ => none
  | n + 1, v_v, v_t7, v_t8, v_t9 =>
    bif decide (v_t9 < v_t8) then
      if (0 : Int) ≤ v_t9 ∧ v_t9 < (v_t7.length : Int) then
      bif (v_t7.getD v_t9.toNat 0) == v_v then
        some (.inl (true, ()))
      else
        matching_contains_L0 m n v_v v_t7 v_t8 (w_i64 (v_t9 + 1))
      else none
    else
      some (.inr (.inl ()))
def matching_contains (m : Nat) (v_l : List Int) (v_v : Int) : Option (Bool × Unit × Unit × Unit) :=
  (matching_contains_L0 m m v_v v_l (v_l.length : Int) 0).bind fun y1 =>
  match y1 with
  | .inl z2 =>
    some (z2.1, ((), (), ()))
  | .inr (.inl z3) =>
    some (false, ((), (), ()))
  | .inr (.inr e) =>
    e.elim
/-! 37 sparse/matching.matching -/
def matching_matching_L0 (m : Nat) : Nat → List (List Int) → Int → List Bool → Int → List Int → Int → Int → Option ((Int × Bool × Unit) ⊕ (Int × Unit) ⊕ Empty)
  | 0, _, _, _, _, _, _, _ => none
  | n + 1, v_edges, v_rows, v_used, v_n, v_t14, v_t15, v_t16 =>
    bif decide (v_t16 < v_t15) then
      if (0 : Int) ≤ v_t16 ∧ v_t16 < (v_t14.length : Int) then
      bif (v_t14.getD v_t16.toNat 0) == (-1) then
        matching_matching_L0 m n v_edges v_rows v_used v_n v_t14 v_t15 (w_i64 (v_t16 + 1))
      else
        bif decide ((v_t14.getD v_t16.toNat 0) < 0) then
          some (.inl (0, false, ()))
        else
          bif decide ((v_t14.getD v_t16.toNat 0) ≥ v_rows) then
            some (.inl (0, false, ()))
          else
            if (0 : Int) ≤ (v_t14.getD v_t16.toNat 0) ∧ (v_t14.getD v_t16.toNat 0) < (v_used.length : Int) then
            bif v_used.getD (0 + (v_t14.getD v_t16.toNat 0).toNat) false then
              some (.inl (0, false, ()))
            else
              if (0 : Int) ≤ v_t16 ∧ v_t16 < (v_edges.length : Int) then
              (matching_contains m (v_edges.getD v_t16.toNat ([] : List Int)) (v_t14.getD v_t16.toNat 0)).bind fun y1 =>
              bif !y1.1 then
                some (.inl (0, false, ()))
              else
                if (0 : Int) ≤ (v_t14.getD v_t16.toNat 0) ∧ (v_t14.getD v_t16.toNat 0) < (v_used.length : Int) then
                matching_matching_L0 m n v_edges v_rows (v_used.set (0 + (v_t14.getD v_t16.toNat 0).toNat) true) (w_i64 (v_n + 1)) v_t14 v_t15 (w_i64 (v_t16 + 1))
                else none
              else none
            else none
      else none
    else
      some (.inr (.inl (v_n, ())))
def matching_matching (m : Nat) (v_edges : List (List Int)) (v_rows : Int) (v_rowOf : List Int) : Option ((Int × Bool × Unit) × Unit × Unit × Unit × Unit) :=
  if (0 : Int) ≤ v_rows ∧ v_rows ≤ v_rows ∧ v_rows ≤ 1073741824 then
  (matching_matching_L0 m m v_edges v_rows (List.replicate v_rows.toNat false) 0 v_rowOf (v_rowOf.length : Int) 0).bind fun y1 =>
  match y1 with
  | .inl z2 =>
    some ((z2.1, z2.2.1, ()), ((), (), (), ()))
  | .inr (.inl z3) =>
    some ((z3.1, true, ()), ((), (), (), ()))
  | .inr (.inr e) =>
    e.elim
  else none
/-! 57 sparse/matching.chosen -/
def matching_chosen_L0 (m : Nat) : Nat → Int → List Bool → Int → List Int → Int → Int → Option ((List Bool × Bool × Unit) ⊕ (List Bool × Unit) ⊕ Empty)
  | 0, _, _, _, _, _, _ => none
  | n + 1, v_n, v_out, v_last, v_t12, v_t13, v_t14 =>
    bif decide (v_t14 < v_t13) then
      if (0 : Int) ≤ v_t14 ∧ v_t14 < (v_t12.length : Int) then
      bif decide ((v_t12.getD v_t14.toNat 0) ≤ v_last) then
        some (.inl (([] : List Bool), false, ()))
      else
        bif decide ((v_t12.getD v_t14.toNat 0) ≥ v_n) then
          some (.inl (([] : List Bool), false, ()))
        else
          if (0 : Int) ≤ (v_t12.getD v_t14.toNat 0) ∧ (v_t12.getD v_t14.toNat 0) < (v_out.length : Int) then
          matching_chosen_L0 m n v_n (v_out.set (0 + (v_t12.getD v_t14.toNat 0).toNat) true) (v_t12.getD v_t14.toNat 0) v_t12 v_t13 (w_i64 (v_t14 + 1))
          else none
      else none
    else
      some (.inr (.inl (v_out, ())))
def matching_chosen (m : Nat) (v_l : List Int) (v_n : Int) : Option ((List Bool × Bool × Unit) × Unit × Unit × Unit) :=
  if (0 : Int) ≤ v_n ∧ v_n ≤ v_n ∧ v_n ≤ 1073741824 then
  (matching_chosen_L0 m m v_n (List.replicate v_n.toNat false) (-1) v_l (v_l.length : Int) 0).bind fun y1 =>
  match y1 with
  | .inl z2 =>
    some ((z2.1, z2.2.1, ()), ((), (), ()))
  | .inr (.inl z3) =>
    some ((z3.1, true, ()), ((), (), ()))
  | .inr (.inr e) =>
    e.elim
  else none
/-! 39 sparse/matching.covers -/
def matching_covers_L1 (m : Nat) : Nat → List Bool → List Bool → Int → List (List Int) → Int → Int → List Int → Int → Int → Option ((Bool × Unit) ⊕ (List Bool × List Bool × List (List Int) × Int × Int × Unit) ⊕ Empty)
  | 0, _, _, _, _, _, _, _, _, _ => none
  | n + 1, v_row, v_col, v_j, v_t36, v_t37, v_t38, v_t43, v_t44, v_t45 =>
    bif decide (v_t45 < v_t44) then
      if (0 : Int) ≤ v_t45 ∧ v_t45 < (v_t43.length : Int) then
      if (0 : Int) ≤ (v_t43.getD v_t45.toNat 0) ∧ (v_t43.getD v_t45.toNat 0) < (v_row.length : Int) then
      bif !(v_row.getD (0 + (v_t43.getD v_t45.toNat 0).toNat) false) then
        if (0 : Int) ≤ v_j ∧ v_j < (v_col.length : Int) then
        bif !(v_col.getD (0 + v_j.toNat) false) then
          some (.inl (false, ()))
        else
          matching_covers_L1 m n v_row v_col v_j v_t36 v_t37 v_t38 v_t43 v_t44 (w_i64 (v_t45 + 1))
        else none
      else
        matching_covers_L1 m n v_row v_col v_j v_t36 v_t37 v_t38 v_t43 v_t44 (w_i64 (v_t45 + 1))
      else none
      else none
    else
      some (.inr (.inl (v_row, v_col, v_t36, v_t37, v_t38, ())))
def matching_covers_L0 (m : Nat) : Nat → List Bool → List Bool → List (List Int) → Int → Int → Option ((Bool × Unit) ⊕ Unit ⊕ Empty)
  | 0, _, _, _, _, _ => none
  | n + 1, v_row, v_col, v_t36, v_t37, v_t38 =>
    bif decide (v_t38 < v_t37) then
      if (0 : Int) ≤ v_t38 ∧ v_t38 < (v_t36.length : Int) then
      (matching_covers_L1 m m v_row v_col v_t38 v_t36 v_t37 v_t38 (v_t36.getD v_t38.toNat ([] : List Int)) ((v_t36.getD v_t38.toNat ([] : List Int)).length : Int) 0).bind fun y1 =>
      match y1 with
      | .inl z2 =>
        some (.inl (z2.1, ()))
      | .inr (.inl z3) =>
        matching_covers_L0 m n z3.1 z3.2.1 z3.2.2.1 z3.2.2.2.1 (w_i64 (z3.2.2.2.2.1 + 1))
      | .inr (.inr e) =>
        e.elim
      else none
    else
      some (.inr (.inl ()))
def matching_covers (m : Nat) (v_edges : List (List Int)) (v_rows : Int) (v_c_0 : List Int) (v_c_1 : List Int) : Option (Bool × Unit × Unit × Unit × Unit) :=
  (matching_chosen m v_c_0 v_rows).bind fun y1 =>
  (matching_chosen m v_c_1 (v_edges.length : Int)).bind fun y2 =>
  bif !y1.1.2.1 then
    some (false, ((), (), (), ()))
  else
    bif !y2.1.2.1 then
      some (false, ((), (), (), ()))
    else
      (matching_covers_L0 m m y1.1.1 y2.1.1 v_edges (v_edges.length : Int) 0).bind fun y3 =>
      match y3 with
      | .inl z4 =>
        some (z4.1, ((), (), (), ()))
      | .inr (.inl z5) =>
        some (true, ((), (), (), ()))
      | .inr (.inr e) =>
        e.elim
/-! 18 sparse/matching.Check -/
def matching_Check (m : Nat) (v_m_0 : Int) (v_m_1 : Int) (v_m_2 : List Int) (v_m_3 : List Int) (v_m_4 : List Int) (v_rowOf : List Int) (v_c_0 : List Int) (v_c_1 : List Int) : Option (Int × Unit × Unit × Unit × Unit) :=
  (matrix_Check m v_m_0 v_m_1 v_m_2 v_m_3 v_m_4).bind fun y1 =>
  bif y1.1 != 0 then
    some (y1.1, ((), (), (), ()))
  else
    bif (v_rowOf.length : Int) != v_m_1 then
      some (2, ((), (), (), ()))
    else
      (matching_Edges m v_m_0 v_m_1 v_m_2 v_m_3 v_m_4).bind fun y2 =>
      (matching_matching m y2.1 v_m_0 v_rowOf).bind fun y3 =>
      bif !y3.1.2.1 then
        some (130, ((), (), (), ()))
      else
        (matching_Edges m v_m_0 v_m_1 v_m_2 v_m_3 v_m_4).bind fun y4 =>
        (matching_covers m y4.1 v_m_0 v_c_0 v_c_1).bind fun y5 =>
        bif !y5.1 then
          some (131, ((), (), (), ()))
        else
          bif (w_i64 ((v_c_0.length : Int) + (v_c_1.length : Int))) != y3.1.1 then
            some (131, ((), (), (), ()))
          else
            some (0, ((), (), (), ()))
/-! 9 sparse/sparselaw13.awake -/
def sparselaw13_awake (m : Nat) : Option (Bool × Unit) :=
  (matching_Maximum m 2 2 ([0, 2, 3] : List Int) ([0, 1, 0] : List Int) ([0, 0, 0] : List Int)).bind fun y1 =>
  (matching_Cover m 2 2 ([0, 2, 3] : List Int) ([0, 1, 0] : List Int) ([0, 0, 0] : List Int)).bind fun y2 =>
  bif y1.1.2.1 == 0 then
    bif y2.1.2.1 == 0 then
      (sparsekit_Ints m y1.1.1 ([1, 0] : List Int)).bind fun y3 =>
      bif y3.1 then
        bif (w_i64 ((y2.1.1.1.length : Int) + (y2.1.1.2.1.length : Int))) == 2 then
          (matching_Check m 2 2 ([0, 2, 3] : List Int) ([0, 1, 0] : List Int) ([0, 0, 0] : List Int) y1.1.1 y2.1.1.1 y2.1.1.2.1).bind fun y4 =>
          some (y4.1 == 0, ())
        else
          some (false, ())
      else
        some (false, ())
    else
      some (false, ())
  else
    some (false, ())
/-! 19 sparse/sparsekit.Place -/
def sparsekit_Place (m : Nat) (v_a : Int) (v_n : Int) : Option (Int × Unit × Unit × Unit) :=
  if (w_u64 v_n) ≠ 0 then
  some (w_i64 (Int.tmod (w_u64 v_a) (w_u64 v_n)), ((), (), ()))
  else none
/-! 91 sparse/sparseref01.trim -/
def sparseref01_trim_L1 (m : Nat) : Nat → List Int → Int → List Int → Int → Option ((List Int × Unit) ⊕ Empty)
  | 0, _, _, _, _ => none
  | n + 1, v_m, v_n, v_out, v_i =>
    bif decide (v_i < v_n) then
      if (0 : Int) ≤ v_i ∧ v_i < (v_m.length : Int) then
      if v_out.length + ([v_m.getD v_i.toNat 0] : List Int).length ≤ 1073741824 then
      sparseref01_trim_L1 m n v_m v_n (v_out ++ ([v_m.getD v_i.toNat 0] : List Int)) (w_i64 (v_i + 1))
      else none
      else none
    else
      some (.inl (v_out, ()))
def sparseref01_trim_L0 (m : Nat) : Nat → List Int → Int → Option ((List Int × Int × Unit) ⊕ Empty)
  | 0, _, _ => none
  | n + 1, v_m, v_n =>
    bif decide (v_n > 0) then
      if (0 : Int) ≤ (w_i64 (v_n - 1)) ∧ (w_i64 (v_n - 1)) < (v_m.length : Int) then
      bif (v_m.getD (w_i64 (v_n - 1)).toNat 0) == 0 then
        sparseref01_trim_L0 m n v_m (w_i64 (v_n - 1))
      else
        some (.inl (v_m, v_n, ()))
      else none
    else
      some (.inl (v_m, v_n, ()))
def sparseref01_trim (m : Nat) (v_m : List Int) : Option (List Int × Unit × Unit) :=
  (sparseref01_trim_L0 m m v_m (v_m.length : Int)).bind fun y1 =>
  match y1 with
  | .inl z2 =>
    (sparseref01_trim_L1 m m z2.1 z2.2.1 ([] : List Int) 0).bind fun y3 =>
    match y3 with
    | .inl z4 =>
      some (z4.1, ((), ()))
    | .inr e =>
      e.elim
  | .inr e =>
    e.elim
/-! 86 sparse/sparseref01.make1 -/
def sparseref01_make1 (m : Nat) (v_neg : Bool) (v_m : List Int) : Option ((Bool × List Int × Unit) × Unit × Unit × Unit) :=
  (sparseref01_trim m v_m).bind fun y1 =>
  bif v_neg then
    some ((decide ((y1.1.length : Int) > 0), y1.1, ()), ((), (), ()))
  else
    some ((false, y1.1, ()), ((), (), ()))
/-! 72 sparse/sparseref01.FromInt -/
def sparseref01_FromInt (m : Nat) (v_n : Int) : Option ((Bool × List Int × Unit) × Unit × Unit) :=
  bif decide (v_n < 0) then
    (sparseref01_make1 m (decide (v_n < 0)) ([w_u32 (w_u64 ((w_u64 (w_i64 (0 - (w_i64 (v_n + 1))))) + 1)), w_u32 (shr_ .u64 (w_u64 ((w_u64 (w_i64 (0 - (w_i64 (v_n + 1))))) + 1)) 32)] : List Int)).bind fun y1 =>
    some ((y1.1.1, y1.1.2.1, ()), ((), ()))
  else
    (sparseref01_make1 m (decide (v_n < 0)) ([w_u32 (w_u64 v_n), w_u32 (shr_ .u64 (w_u64 v_n) 32)] : List Int)).bind fun y2 =>
    some ((y2.1.1, y2.1.2.1, ()), ((), ()))
/-! 79 sparse/sparseref01.Norm -/
def sparseref01_Norm (m : Nat) (v_a_0 : Bool) (v_a_1 : List Int) : Option ((Bool × List Int × Unit) × Unit × Unit) :=
  (sparseref01_make1 m v_a_0 v_a_1).bind fun y1 =>
  some ((y1.1.1, y1.1.2.1, ()), ((), ()))
/-! 70 sparse/sparseref02.Bad -/
def sparseref02_Bad (m : Nat) : Option ((Bool × Bool × List Int × Int × Unit) × Unit) :=
  some ((true, false, ([] : List Int), 0, ()), ())
/-! 99 math/bits.TrailingZeros32 -/
def math_bits_TrailingZeros32 (m : Nat) (v_x : Int) : Option (Int × Unit × Unit) :=
  bif v_x == 0 then
    some (32, ((), ()))
  else
    if (0 : Int) ≤ 27 then
    if (0 : Int) ≤ (shr_ .u32 (w_u32 ((b_and_ .u32 v_x (w_u32 (0 - v_x))) * 125613361)) 27) ∧ (shr_ .u32 (w_u32 ((b_and_ .u32 v_x (w_u32 (0 - v_x))) * 125613361)) 27) < (tab32_0.length : Int) then
    some (w_i64 (tab32_0.getD (shr_ .u32 (w_u32 ((b_and_ .u32 v_x (w_u32 (0 - v_x))) * 125613361)) 27).toNat 0), ((), ()))
    else none
    else none
/-! 87 sparse/sparseref01.TrailingZeros -/
def sparseref01_TrailingZeros_L0 (m : Nat) : Nat → List Int → Int → Option ((Int × Unit) ⊕ Unit ⊕ Empty)
  | 0, _, _ => none
  | n + 1, v_m, v_i =>
    bif decide (v_i < (v_m.length : Int)) then
      if (0 : Int) ≤ v_i ∧ v_i < (v_m.length : Int) then
      bif (v_m.getD (0 + v_i.toNat) 0) != 0 then
        if (0 : Int) ≤ v_i ∧ v_i < (v_m.length : Int) then
        (math_bits_TrailingZeros32 m (v_m.getD (0 + v_i.toNat) 0)).bind fun y1 =>
        some (.inl (w_i64 ((w_i64 (32 * v_i)) + y1.1), ()))
        else none
      else
        sparseref01_TrailingZeros_L0 m n v_m (w_i64 (v_i + 1))
      else none
    else
      some (.inr (.inl ()))
def sparseref01_TrailingZeros (m : Nat) (v_a_0 : Bool) (v_a_1 : List Int) : Option (Int × Unit × Unit) :=
  (sparseref01_trim m v_a_1).bind fun y1 =>
  (sparseref01_TrailingZeros_L0 m m y1.1 0).bind fun y2 =>
  match y2 with
  | .inl z3 =>
    some (z3.1, ((), ()))
  | .inr (.inl z4) =>
    some (0, ((), ()))
  | .inr (.inr e) =>
    e.elim
/-! 69 sparse/sparseref01.Abs -/
def sparseref01_Abs (m : Nat) (v_a_0 : Bool) (v_a_1 : List Int) : Option ((Bool × List Int × Unit) × Unit × Unit) :=
  (sparseref01_make1 m false v_a_1).bind fun y1 =>
  some ((y1.1.1, y1.1.2.1, ()), ((), ()))
/-! 96 sparse/sparseref01.shl -/
def sparseref01_shl_L0 (m : Nat) : Nat → List Int → Int → List Int → Int → Int → Option ((List Int × Int × Unit) ⊕ Empty)
  | 0, _, _, _, _, _ => none
  | n + 1, v_m, v_n, v_out, v_c, v_i =>
    bif decide (v_i < (v_m.length : Int)) then
      if (0 : Int) ≤ v_i ∧ v_i < (v_m.length : Int) then
      if (0 : Int) ≤ (Int.tmod v_n 32) then
      if v_out.length + ([w_u32 (b_or_ .u64 v_c (shl_ .u64 (w_u64 (v_m.getD v_i.toNat 0)) (Int.tmod v_n 32)))] : List Int).length ≤ 1073741824 then
      sparseref01_shl_L0 m n v_m v_n (v_out ++ ([w_u32 (b_or_ .u64 v_c (shl_ .u64 (w_u64 (v_m.getD v_i.toNat 0)) (Int.tmod v_n 32)))] : List Int)) (shr_ .u64 (b_or_ .u64 v_c (shl_ .u64 (w_u64 (v_m.getD v_i.toNat 0)) (Int.tmod v_n 32))) 32) (w_i64 (v_i + 1))
      else none
      else none
      else none
    else
      some (.inl (v_out, v_c, ()))
def sparseref01_shl (m : Nat) (v_m : List Int) (v_n : Int) : Option (List Int × Unit × Unit × Unit) :=
  if (0 : Int) ≤ (w_i64 (Int.tdiv v_n 32)) ∧ (w_i64 (Int.tdiv v_n 32)) ≤ (w_i64 (Int.tdiv v_n 32)) ∧ (w_i64 (Int.tdiv v_n 32)) ≤ 1073741824 then
  (sparseref01_shl_L0 m m v_m v_n (List.replicate (w_i64 (Int.tdiv v_n 32)).toNat (0 : Int)) 0 0).bind fun y1 =>
  match y1 with
  | .inl z2 =>
    if z2.1.length + ([w_u32 z2.2.1] : List Int).length ≤ 1073741824 then
    some (z2.1 ++ ([w_u32 z2.2.1] : List Int), ((), (), ()))
    else none
  | .inr e =>
    e.elim
  else none
/-! 97 sparse/sparseref01.shr -/
def sparseref01_shr_L1 (m : Nat) : Nat → List Int → Int → Bool → List Int → Int → Int → Option ((Bool × List Int × Unit) ⊕ Empty)
  | 0, _, _, _, _, _, _ => none
  | n + 1, v_m, v_t1, v_t6, v_t8, v_t9, v_t10 =>
    bif decide (v_t10 < (v_m.length : Int)) then
      if (0 : Int) ≤ v_t10 ∧ v_t10 < (v_m.length : Int) then
      bif decide ((w_i64 (v_t10 + 1)) < (v_m.length : Int)) then
        if (0 : Int) ≤ (w_i64 (v_t10 + 1)) ∧ (w_i64 (v_t10 + 1)) < (v_m.length : Int) then
        bif v_t10 == (w_i64 (Int.tdiv v_t1 32)) then
          if (0 : Int) ≤ v_t10 ∧ v_t10 < (v_m.length : Int) then
          if (0 : Int) ≤ v_t9 then
          bif (b_and_ .u32 (v_m.getD v_t10.toNat 0) (w_u32 ((shl_ .u32 1 v_t9) - 1))) != 0 then
            if (0 : Int) ≤ v_t9 then
            if v_t8.length + ([w_u32 (shr_ .u64 (b_or_ .u64 (w_u64 (v_m.getD v_t10.toNat 0)) (shl_ .u64 (w_u64 (v_m.getD (w_i64 (v_t10 + 1)).toNat 0)) 32)) v_t9)] : List Int).length ≤ 1073741824 then
            sparseref01_shr_L1 m n v_m v_t1 true (v_t8 ++ ([w_u32 (shr_ .u64 (b_or_ .u64 (w_u64 (v_m.getD v_t10.toNat 0)) (shl_ .u64 (w_u64 (v_m.getD (w_i64 (v_t10 + 1)).toNat 0)) 32)) v_t9)] : List Int)) v_t9 (w_i64 (v_t10 + 1))
            else none
            else none
          else
            if (0 : Int) ≤ v_t9 then
            if v_t8.length + ([w_u32 (shr_ .u64 (b_or_ .u64 (w_u64 (v_m.getD v_t10.toNat 0)) (shl_ .u64 (w_u64 (v_m.getD (w_i64 (v_t10 + 1)).toNat 0)) 32)) v_t9)] : List Int).length ≤ 1073741824 then
            sparseref01_shr_L1 m n v_m v_t1 v_t6 (v_t8 ++ ([w_u32 (shr_ .u64 (b_or_ .u64 (w_u64 (v_m.getD v_t10.toNat 0)) (shl_ .u64 (w_u64 (v_m.getD (w_i64 (v_t10 + 1)).toNat 0)) 32)) v_t9)] : List Int)) v_t9 (w_i64 (v_t10 + 1))
            else none
            else none
          else none
          else none
        else
          if (0 : Int) ≤ v_t9 then
          if v_t8.length + ([w_u32 (shr_ .u64 (b_or_ .u64 (w_u64 (v_m.getD v_t10.toNat 0)) (shl_ .u64 (w_u64 (v_m.getD (w_i64 (v_t10 + 1)).toNat 0)) 32)) v_t9)] : List Int).length ≤ 1073741824 then
          sparseref01_shr_L1 m n v_m v_t1 v_t6 (v_t8 ++ ([w_u32 (shr_ .u64 (b_or_ .u64 (w_u64 (v_m.getD v_t10.toNat 0)) (shl_ .u64 (w_u64 (v_m.getD (w_i64 (v_t10 + 1)).toNat 0)) 32)) v_t9)] : List Int)) v_t9 (w_i64 (v_t10 + 1))
          else none
          else none
        else none
      else
        bif v_t10 == (w_i64 (Int.tdiv v_t1 32)) then
          if (0 : Int) ≤ v_t10 ∧ v_t10 < (v_m.length : Int) then
          if (0 : Int) ≤ v_t9 then
          bif (b_and_ .u32 (v_m.getD v_t10.toNat 0) (w_u32 ((shl_ .u32 1 v_t9) - 1))) != 0 then
            if (0 : Int) ≤ v_t9 then
            if v_t8.length + ([w_u32 (shr_ .u64 (w_u64 (v_m.getD v_t10.toNat 0)) v_t9)] : List Int).length ≤ 1073741824 then
            sparseref01_shr_L1 m n v_m v_t1 true (v_t8 ++ ([w_u32 (shr_ .u64 (w_u64 (v_m.getD v_t10.toNat 0)) v_t9)] : List Int)) v_t9 (w_i64 (v_t10 + 1))
            else none
            else none
          else
            if (0 : Int) ≤ v_t9 then
            if v_t8.length + ([w_u32 (shr_ .u64 (w_u64 (v_m.getD v_t10.toNat 0)) v_t9)] : List Int).length ≤ 1073741824 then
            sparseref01_shr_L1 m n v_m v_t1 v_t6 (v_t8 ++ ([w_u32 (shr_ .u64 (w_u64 (v_m.getD v_t10.toNat 0)) v_t9)] : List Int)) v_t9 (w_i64 (v_t10 + 1))
            else none
            else none
          else none
          else none
        else
          if (0 : Int) ≤ v_t9 then
          if v_t8.length + ([w_u32 (shr_ .u64 (w_u64 (v_m.getD v_t10.toNat 0)) v_t9)] : List Int).length ≤ 1073741824 then
          sparseref01_shr_L1 m n v_m v_t1 v_t6 (v_t8 ++ ([w_u32 (shr_ .u64 (w_u64 (v_m.getD v_t10.toNat 0)) v_t9)] : List Int)) v_t9 (w_i64 (v_t10 + 1))
          else none
          else none
      else none
    else
      some (.inl (v_t6, v_t8, ()))
def sparseref01_shr_L0 (m : Nat) : Nat → List Int → Int → Bool → Int → Option ((List Int × Int × Bool × Unit) ⊕ Empty)
  | 0, _, _, _, _ => none
  | n + 1, v_m, v_t1, v_t6, v_t7 =>
    bif decide (v_t7 < (w_i64 (Int.tdiv v_t1 32))) then
      bif decide (v_t7 < (v_m.length : Int)) then
        bif v_t6 then
          sparseref01_shr_L0 m n v_m v_t1 true (w_i64 (v_t7 + 1))
        else
          if (0 : Int) ≤ v_t7 ∧ v_t7 < (v_m.length : Int) then
          sparseref01_shr_L0 m n v_m v_t1 ((v_m.getD v_t7.toNat 0) != 0) (w_i64 (v_t7 + 1))
          else none
      else
        some (.inl (v_m, v_t1, v_t6, ()))
    else
      some (.inl (v_m, v_t1, v_t6, ()))
def sparseref01_shr (m : Nat) (v_m : List Int) (v_t1 : Int) : Option ((List Int × Bool × Unit) × Unit × Unit × Unit) :=
  (sparseref01_shr_L0 m m v_m v_t1 false 0).bind fun y1 =>
  match y1 with
  | .inl z2 =>
    (sparseref01_shr_L1 m m z2.1 z2.2.1 z2.2.2.1 ([] : List Int) (Int.tmod z2.2.1 32) (w_i64 (Int.tdiv z2.2.1 32))).bind fun y3 =>
    match y3 with
    | .inl z4 =>
      some ((z4.2.1, z4.1, ()), ((), (), ()))
    | .inr e =>
      e.elim
  | .inr e =>
    e.elim
/-! 105 sparse/sparseref01.Neg -/
def sparseref01_Neg (m : Nat) (v_a_0 : Bool) (v_a_1 : List Int) : Option ((Bool × List Int × Unit) × Unit × Unit) :=
  (sparseref01_make1 m (!v_a_0) v_a_1).bind fun y1 =>
  some ((y1.1.1, y1.1.2.1, ()), ((), ()))
/-! 102 sparse/sparseref01.addMag -/
def sparseref01_addMag_L0 (m : Nat) : Nat → List Int → List Int → List Int → Int → Int → Option ((List Int × Int × Unit) ⊕ Empty)
  | 0, _, _, _, _, _ => none
  | n + 1, v_a, v_b, v_out, v_c, v_i =>
    bif decide (v_i < (if (v_b.length : Int) > (v_a.length : Int) then (v_b.length : Int) else (v_a.length : Int))) then
      bif decide (v_i < (v_a.length : Int)) then
        if (0 : Int) ≤ v_i ∧ v_i < (v_a.length : Int) then
        bif decide (v_i < (v_b.length : Int)) then
          if (0 : Int) ≤ v_i ∧ v_i < (v_b.length : Int) then
          if v_out.length + ([w_u32 (w_u64 ((w_u64 (v_c + (w_u64 (v_a.getD v_i.toNat 0)))) + (w_u64 (v_b.getD v_i.toNat 0))))] : List Int).length ≤ 1073741824 then
          sparseref01_addMag_L0 m n v_a v_b (v_out ++ ([w_u32 (w_u64 ((w_u64 (v_c + (w_u64 (v_a.getD v_i.toNat 0)))) + (w_u64 (v_b.getD v_i.toNat 0))))] : List Int)) (shr_ .u64 (w_u64 ((w_u64 (v_c + (w_u64 (v_a.getD v_i.toNat 0)))) + (w_u64 (v_b.getD v_i.toNat 0)))) 32) (w_i64 (v_i + 1))
          else none
          else none
        else
          if v_out.length + ([w_u32 (w_u64 (v_c + (w_u64 (v_a.getD v_i.toNat 0))))] : List Int).length ≤ 1073741824 then
          sparseref01_addMag_L0 m n v_a v_b (v_out ++ ([w_u32 (w_u64 (v_c + (w_u64 (v_a.getD v_i.toNat 0))))] : List Int)) (shr_ .u64 (w_u64 (v_c + (w_u64 (v_a.getD v_i.toNat 0)))) 32) (w_i64 (v_i + 1))
          else none
        else none
      else
        bif decide (v_i < (v_b.length : Int)) then
          if (0 : Int) ≤ v_i ∧ v_i < (v_b.length : Int) then
          if v_out.length + ([w_u32 (w_u64 (v_c + (w_u64 (v_b.getD v_i.toNat 0))))] : List Int).length ≤ 1073741824 then
          sparseref01_addMag_L0 m n v_a v_b (v_out ++ ([w_u32 (w_u64 (v_c + (w_u64 (v_b.getD v_i.toNat 0))))] : List Int)) (shr_ .u64 (w_u64 (v_c + (w_u64 (v_b.getD v_i.toNat 0)))) 32) (w_i64 (v_i + 1))
          else none
          else none
        else
          if v_out.length + ([w_u32 v_c] : List Int).length ≤ 1073741824 then
          sparseref01_addMag_L0 m n v_a v_b (v_out ++ ([w_u32 v_c] : List Int)) (shr_ .u64 v_c 32) (w_i64 (v_i + 1))
          else none
    else
      some (.inl (v_out, v_c, ()))
def sparseref01_addMag (m : Nat) (v_a : List Int) (v_b : List Int) : Option (List Int × Unit × Unit × Unit) :=
  (sparseref01_addMag_L0 m m v_a v_b ([] : List Int) 0 0).bind fun y1 =>
  match y1 with
  | .inl z2 =>
    if z2.1.length + ([w_u32 z2.2.1] : List Int).length ≤ 1073741824 then
    some (z2.1 ++ ([w_u32 z2.2.1] : List Int), ((), (), ()))
    else none
  | .inr e =>
    e.elim
/-! 103 sparse/sparseref01.cmpMag -/
def sparseref01_cmpMag_L0 (m : Nat) : Nat → List Int → List Int → Int → Option ((Int × Unit) ⊕ Unit ⊕ Empty)
  | 0, _, _, _ => none
  | n + 1, v_a, v_b, v_i =>
    bif decide (v_i ≥ 0) then
      if (0 : Int) ≤ v_i ∧ v_i < (v_a.length : Int) then
      if (0 : Int) ≤ v_i ∧ v_i < (v_b.length : Int) then
      bif (v_a.getD v_i.toNat 0) != (v_b.getD v_i.toNat 0) then
        if (0 : Int) ≤ v_i ∧ v_i < (v_a.length : Int) then
        if (0 : Int) ≤ v_i ∧ v_i < (v_b.length : Int) then
        bif decide ((v_a.getD v_i.toNat 0) < (v_b.getD v_i.toNat 0)) then
          some (.inl ((-1), ()))
        else
          some (.inl (1, ()))
        else none
        else none
      else
        sparseref01_cmpMag_L0 m n v_a v_b (w_i64 (v_i - 1))
      else none
      else none
    else
      some (.inr (.inl ()))
def sparseref01_cmpMag (m : Nat) (v_a : List Int) (v_b : List Int) : Option (Int × Unit × Unit × Unit) :=
  bif (v_a.length : Int) != (v_b.length : Int) then
    bif decide ((v_a.length : Int) < (v_b.length : Int)) then
      some ((-1), ((), (), ()))
    else
      some (1, ((), (), ()))
  else
    (sparseref01_cmpMag_L0 m m v_a v_b (w_i64 ((v_a.length : Int) - 1))).bind fun y1 =>
    match y1 with
    | .inl z2 =>
      some (z2.1, ((), (), ()))
    | .inr (.inl z3) =>
      some (0, ((), (), ()))
    | .inr (.inr e) =>
      e.elim
/-! 104 sparse/sparseref01.subMag -/
def sparseref01_subMag_L0 (m : Nat) : Nat → List Int → List Int → List Int → Int → Int → Option ((List Int × Unit) ⊕ Empty)
  | 0, _, _, _, _, _ => none
  | n + 1, v_a, v_b, v_out, v_borrow, v_i =>
    bif decide (v_i < (v_a.length : Int)) then
      if (0 : Int) ≤ v_i ∧ v_i < (v_a.length : Int) then
      bif decide (v_i < (v_b.length : Int)) then
        if (0 : Int) ≤ v_i ∧ v_i < (v_b.length : Int) then
        if v_out.length + ([w_u32 (w_u64 ((w_u64 ((w_u64 (v_a.getD v_i.toNat 0)) - v_borrow)) - (w_u64 (v_b.getD v_i.toNat 0))))] : List Int).length ≤ 1073741824 then
        sparseref01_subMag_L0 m n v_a v_b (v_out ++ ([w_u32 (w_u64 ((w_u64 ((w_u64 (v_a.getD v_i.toNat 0)) - v_borrow)) - (w_u64 (v_b.getD v_i.toNat 0))))] : List Int)) (shr_ .u64 (w_u64 ((w_u64 ((w_u64 (v_a.getD v_i.toNat 0)) - v_borrow)) - (w_u64 (v_b.getD v_i.toNat 0)))) 63) (w_i64 (v_i + 1))
        else none
        else none
      else
        if v_out.length + ([w_u32 (w_u64 ((w_u64 (v_a.getD v_i.toNat 0)) - v_borrow))] : List Int).length ≤ 1073741824 then
        sparseref01_subMag_L0 m n v_a v_b (v_out ++ ([w_u32 (w_u64 ((w_u64 (v_a.getD v_i.toNat 0)) - v_borrow))] : List Int)) (shr_ .u64 (w_u64 ((w_u64 (v_a.getD v_i.toNat 0)) - v_borrow)) 63) (w_i64 (v_i + 1))
        else none
      else none
    else
      some (.inl (v_out, ()))
def sparseref01_subMag (m : Nat) (v_a : List Int) (v_b : List Int) : Option (List Int × Unit × Unit × Unit) :=
  (sparseref01_subMag_L0 m m v_a v_b ([] : List Int) 0 0).bind fun y1 =>
  match y1 with
  | .inl z2 =>
    some (z2.1, ((), (), ()))
  | .inr e =>
    e.elim
/-! 95 sparse/sparseref01.Add -/
def sparseref01_Add (m : Nat) (v_a_0 : Bool) (v_a_1 : List Int) (v_b_0 : Bool) (v_b_1 : List Int) : Option ((Bool × List Int × Unit) × Unit × Unit × Unit) :=
  (sparseref01_trim m v_a_1).bind fun y1 =>
  (sparseref01_trim m v_b_1).bind fun y2 =>
  bif v_a_0 == v_b_0 then
    (sparseref01_addMag m y1.1 y2.1).bind fun y3 =>
    (sparseref01_make1 m v_a_0 y3.1).bind fun y4 =>
    some ((y4.1.1, y4.1.2.1, ()), ((), (), ()))
  else
    (sparseref01_cmpMag m y1.1 y2.1).bind fun y5 =>
    bif decide (y5.1 ≥ 0) then
      (sparseref01_subMag m y1.1 y2.1).bind fun y6 =>
      (sparseref01_make1 m v_a_0 y6.1).bind fun y7 =>
      some ((y7.1.1, y7.1.2.1, ()), ((), (), ()))
    else
      (sparseref01_subMag m y2.1 y1.1).bind fun y8 =>
      (sparseref01_make1 m v_b_0 y8.1).bind fun y9 =>
      some ((y9.1.1, y9.1.2.1, ()), ((), (), ()))
/-! 98 sparse/sparseref01.Sub -/
def sparseref01_Sub (m : Nat) (v_a_0 : Bool) (v_a_1 : List Int) (v_b_0 : Bool) (v_b_1 : List Int) : Option ((Bool × List Int × Unit) × Unit × Unit × Unit) :=
  (sparseref01_Neg m v_b_0 v_b_1).bind fun y1 =>
  (sparseref01_Add m v_a_0 v_a_1 y1.1.1 y1.1.2.1).bind fun y2 =>
  some ((y2.1.1, y2.1.2.1, ()), ((), (), ()))
/-! 83 sparse/sparseref01.Shift -/
def sparseref01_Shift (m : Nat) (v_a_0 : Bool) (v_a_1 : List Int) (v_n : Int) : Option ((Bool × List Int × Unit) × Unit × Unit × Unit) :=
  (sparseref01_Norm m v_a_0 v_a_1).bind fun y1 =>
  bif decide (v_n ≥ 0) then
    (sparseref01_shl m y1.1.2.1 v_n).bind fun y2 =>
    (sparseref01_make1 m y1.1.1 y2.1).bind fun y3 =>
    some ((y3.1.1, y3.1.2.1, ()), ((), (), ()))
  else
    (sparseref01_shr m y1.1.2.1 (w_i64 (0 - v_n))).bind fun y4 =>
    (sparseref01_make1 m y1.1.1 y4.1.1).bind fun y5 =>
    bif y1.1.1 then
      bif y4.1.2.1 then
        (sparseref01_FromInt m 1).bind fun y6 =>
        (sparseref01_Sub m y5.1.1 y5.1.2.1 y6.1.1 y6.1.2.1).bind fun y7 =>
        some ((y7.1.1, y7.1.2.1, ()), ((), (), ()))
      else
        some ((y5.1.1, y5.1.2.1, ()), ((), (), ()))
    else
      some ((y5.1.1, y5.1.2.1, ()), ((), (), ()))
/-! 88 sparse/sparseref02.down -/
def sparseref02_down_L0 (m : Nat) : Nat → Int → Bool → List Int → Bool → List Int → Option ((Int × (Bool × List Int × Unit) × (Bool × List Int × Unit) × Unit) ⊕ Empty)
  | 0, _, _, _, _, _ => none
  | n + 1, v_n, v_m_0, v_m_1, v_t4_0, v_t4_1 =>
    bif decide (v_n > 1048576) then
      (sparseref01_Shift m v_m_0 v_m_1 (-1048576)).bind fun y1 =>
      sparseref02_down_L0 m n (w_i64 (v_n - 1048576)) y1.1.1 y1.1.2.1 v_t4_0 v_t4_1
    else
      some (.inl (v_n, (v_m_0, v_m_1, ()), (v_t4_0, v_t4_1, ()), ()))
def sparseref02_down (m : Nat) (v_m_0 : Bool) (v_m_1 : List Int) (v_n : Int) : Option ((Bool × List Int × Unit) × Unit × Unit × Unit) :=
  (sparseref02_down_L0 m m v_n v_m_0 v_m_1 false ([] : List Int)).bind fun y1 =>
  match y1 with
  | .inl z2 =>
    (sparseref01_Shift m z2.2.1.1 z2.2.1.2.1 (w_i64 (0 - z2.1))).bind fun y3 =>
    some ((y3.1.1, y3.1.2.1, ()), ((), (), ()))
  | .inr e =>
    e.elim
/-! 92 math/bits.Len32 -/
def math_bits_Len32 (m : Nat) (v_x : Int) : Option (Int × Unit × Unit) :=
  bif decide (v_x ≥ 65536) then
    bif decide ((shr_ .u32 v_x 16) ≥ 256) then
      if (0 : Int) ≤ (w_u8 (shr_ .u32 (shr_ .u32 v_x 16) 8)) ∧ (w_u8 (shr_ .u32 (shr_ .u32 v_x 16) 8)) < (tab256_1.length : Int) then
      some (w_i64 (24 + (w_i64 (tab256_1.getD (w_u8 (shr_ .u32 (shr_ .u32 v_x 16) 8)).toNat 0))), ((), ()))
      else none
    else
      if (0 : Int) ≤ (w_u8 (shr_ .u32 v_x 16)) ∧ (w_u8 (shr_ .u32 v_x 16)) < (tab256_1.length : Int) then
      some (w_i64 (16 + (w_i64 (tab256_1.getD (w_u8 (shr_ .u32 v_x 16)).toNat 0))), ((), ()))
      else none
  else
    bif decide (v_x ≥ 256) then
      if (0 : Int) ≤ (w_u8 (shr_ .u32 v_x 8)) ∧ (w_u8 (shr_ .u32 v_x 8)) < (tab256_1.length : Int) then
      some (w_i64 (8 + (w_i64 (tab256_1.getD (w_u8 (shr_ .u32 v_x 8)).toNat 0))), ((), ()))
      else none
    else
      if (0 : Int) ≤ (w_u8 v_x) ∧ (w_u8 v_x) < (tab256_1.length : Int) then
      some (w_i64 (0 + (w_i64 (tab256_1.getD (w_u8 v_x).toNat 0))), ((), ()))
      else none
/-! 80 sparse/sparseref01.BitLen -/
def sparseref01_BitLen (m : Nat) (v_a_0 : Bool) (v_a_1 : List Int) : Option (Int × Unit × Unit) :=
  (sparseref01_trim m v_a_1).bind fun y1 =>
  bif (y1.1.length : Int) == 0 then
    some (0, ((), ()))
  else
    if (0 : Int) ≤ (w_i64 ((y1.1.length : Int) - 1)) ∧ (w_i64 ((y1.1.length : Int) - 1)) < (y1.1.length : Int) then
    (math_bits_Len32 m (y1.1.getD (0 + (w_i64 ((y1.1.length : Int) - 1)).toNat) 0)).bind fun y2 =>
    some (w_i64 ((w_i64 (32 * (w_i64 ((y1.1.length : Int) - 1)))) + y2.1), ((), ()))
    else none
/-! 71 sparse/sparseref02.Make -/
def sparseref02_Make (m : Nat) (v_man_0 : Bool) (v_man_1 : List Int) (v_exp : Int) : Option ((Bool × Bool × List Int × Int × Unit) × Unit × Unit × Unit) :=
  (sparseref01_Norm m v_man_0 v_man_1).bind fun y1 =>
  bif (y1.1.2.1.length : Int) == 0 then
    some ((false, false, ([] : List Int), 0, ()), ((), (), ()))
  else
    bif decide (v_exp > 65536) then
      (sparseref02_Bad m).bind fun y2 =>
      some ((y2.1.1, y2.1.2.1, y2.1.2.2.1, y2.1.2.2.2.1, ()), ((), (), ()))
    else
      (sparseref01_TrailingZeros m y1.1.1 y1.1.2.1).bind fun y3 =>
      (sparseref01_Abs m y1.1.1 y1.1.2.1).bind fun y4 =>
      (sparseref02_down m y4.1.1 y4.1.2.1 y3.1).bind fun y5 =>
      bif decide ((w_i64 (v_exp + y3.1)) < (-65536)) then
        (sparseref02_Bad m).bind fun y6 =>
        some ((y6.1.1, y6.1.2.1, y6.1.2.2.1, y6.1.2.2.2.1, ()), ((), (), ()))
      else
        (sparseref01_BitLen m y5.1.1 y5.1.2.1).bind fun y7 =>
        bif decide ((w_i64 ((w_i64 (v_exp + y3.1)) + y7.1)) > 65536) then
          (sparseref02_Bad m).bind fun y8 =>
          some ((y8.1.1, y8.1.2.1, y8.1.2.2.1, y8.1.2.2.2.1, ()), ((), (), ()))
        else
          some ((false, v_man_0, y5.1.2.1, w_i64 (v_exp + y3.1), ()), ((), (), ()))
/-! 60 sparse/sparseref02.FromInt -/
def sparseref02_FromInt (m : Nat) (v_n : Int) : Option ((Bool × Bool × List Int × Int × Unit) × Unit × Unit) :=
  (sparseref01_FromInt m v_n).bind fun y1 =>
  (sparseref02_Make m y1.1.1 y1.1.2.1 0).bind fun y2 =>
  some ((y2.1.1, y2.1.2.1, y2.1.2.2.1, y2.1.2.2.2.1, ()), ((), ()))
/-! 66 sparse/sparseref02.Norm -/
def sparseref02_Norm (m : Nat) (v_d_0 : Bool) (v_d_1 : Bool) (v_d_2 : List Int) (v_d_3 : Int) : Option ((Bool × Bool × List Int × Int × Unit) × Unit × Unit) :=
  bif v_d_0 then
    (sparseref02_Bad m).bind fun y1 =>
    some ((y1.1.1, y1.1.2.1, y1.1.2.2.1, y1.1.2.2.2.1, ()), ((), ()))
  else
    (sparseref02_Make m v_d_1 v_d_2 v_d_3).bind fun y2 =>
    some ((y2.1.1, y2.1.2.1, y2.1.2.2.1, y2.1.2.2.2.1, ()), ((), ()))
/-! 67 sparse/sparseref01.Sign -/
def sparseref01_Sign (m : Nat) (v_a_0 : Bool) (v_a_1 : List Int) : Option (Int × Unit × Unit) :=
  (sparseref01_Norm m v_a_0 v_a_1).bind fun y1 =>
  bif (y1.1.2.1.length : Int) == 0 then
    some (0, ((), ()))
  else
    bif y1.1.1 then
      some ((-1), ((), ()))
    else
      some (1, ((), ()))
/-! 59 sparse/sparseref02.Scale -/
def sparseref02_Scale (m : Nat) (v_d_0 : Bool) (v_d_1 : Bool) (v_d_2 : List Int) (v_d_3 : Int) (v_n : Int) : Option ((Bool × Bool × List Int × Int × Unit) × Unit × Unit × Unit) :=
  (sparseref02_Norm m v_d_0 v_d_1 v_d_2 v_d_3).bind fun y1 =>
  bif y1.1.1 then
    some ((y1.1.1, y1.1.2.1, y1.1.2.2.1, y1.1.2.2.2.1, ()), ((), (), ()))
  else
    (sparseref01_Sign m y1.1.2.1 y1.1.2.2.1).bind fun y2 =>
    bif y2.1 == 0 then
      some ((y1.1.1, y1.1.2.1, y1.1.2.2.1, y1.1.2.2.2.1, ()), ((), (), ()))
    else
      bif decide (v_n > 262144) then
        (sparseref02_Bad m).bind fun y3 =>
        some ((y3.1.1, y3.1.2.1, y3.1.2.2.1, y3.1.2.2.2.1, ()), ((), (), ()))
      else
        bif decide (v_n < (-262144)) then
          (sparseref02_Bad m).bind fun y4 =>
          some ((y4.1.1, y4.1.2.1, y4.1.2.2.1, y4.1.2.2.2.1, ()), ((), (), ()))
        else
          (sparseref02_Make m y1.1.2.1 y1.1.2.2.1 (w_i64 (y1.1.2.2.2.1 + v_n))).bind fun y5 =>
          some ((y5.1.1, y5.1.2.1, y5.1.2.2.1, y5.1.2.2.2.1, ()), ((), (), ()))
/-! 85 sparse/sparseref03.signed -/
def sparseref03_signed (m : Nat) (v_neg : Bool) (v_f : Int) : Option (Int × Unit × Unit × Unit) :=
  bif v_neg then
    some (b_or_ .u64 v_f 9223372036854775808, ((), (), ()))
  else
    some (v_f, ((), (), ()))
/-! 81 sparse/sparseref03.over -/
def sparseref03_over (m : Nat) (v_neg : Bool) (v_mode : Int) : Option (Int × Unit × Unit × Unit) :=
  bif v_mode == 3 then
    (sparseref03_signed m v_neg 9218868437227405311).bind fun y1 =>
    some (y1.1, ((), (), ()))
  else
    bif v_mode == 1 then
      bif !v_neg then
        (sparseref03_signed m v_neg 9218868437227405311).bind fun y2 =>
        some (y2.1, ((), (), ()))
      else
        bif v_mode == 2 then
          bif v_neg then
            (sparseref03_signed m v_neg 9218868437227405311).bind fun y3 =>
            some (y3.1, ((), (), ()))
          else
            (sparseref03_signed m v_neg 9218868437227405312).bind fun y4 =>
            some (y4.1, ((), (), ()))
        else
          (sparseref03_signed m v_neg 9218868437227405312).bind fun y5 =>
          some (y5.1, ((), (), ()))
    else
      bif v_mode == 2 then
        bif v_neg then
          (sparseref03_signed m v_neg 9218868437227405311).bind fun y6 =>
          some (y6.1, ((), (), ()))
        else
          (sparseref03_signed m v_neg 9218868437227405312).bind fun y7 =>
          some (y7.1, ((), (), ()))
      else
        (sparseref03_signed m v_neg 9218868437227405312).bind fun y8 =>
        some (y8.1, ((), (), ()))
/-! 93 sparse/sparseref01.Lost -/
def sparseref01_Lost (m : Nat) (v_a_0 : Bool) (v_a_1 : List Int) (v_n : Int) : Option (Bool × Unit × Unit × Unit) :=
  (sparseref01_trim m v_a_1).bind fun y1 =>
  (sparseref01_shr m y1.1 v_n).bind fun y2 =>
  some (y2.1.2.1, ((), (), ()))
/-! 94 sparse/sparseref02.Up -/
def sparseref02_Up (m : Nat) (v_neg : Bool) (v_half : Int) (v_odd : Bool) (v_mode : Int) : Option (Bool × Unit × Unit × Unit × Unit × Unit) :=
  bif v_mode == 1 then
    some (v_neg, ((), (), (), (), ()))
  else
    bif v_mode == 2 then
      some (!v_neg, ((), (), (), (), ()))
    else
      bif v_mode == 3 then
        some (false, ((), (), (), (), ()))
      else
        bif decide (v_half > 0) then
          some (true, ((), (), (), (), ()))
        else
          bif v_half == 0 then
            some (v_odd, ((), (), (), (), ()))
          else
            some (false, ((), (), (), (), ()))
/-! 82 sparse/sparseref02.Cut -/
def sparseref02_Cut (m : Nat) (v_neg : Bool) (v_t1_0 : Bool) (v_t1_1 : List Int) (v_t2 : Int) (v_t3 : Bool) (v_t4 : Int) : Option ((Bool × List Int × Unit) × Unit × Unit × Unit × Unit × Unit × Unit) :=
  (sparseref02_down m v_t1_0 v_t1_1 v_t2).bind fun y1 =>
  (sparseref01_Lost m v_t1_0 v_t1_1 v_t2).bind fun y2 =>
  bif !y2.1 then
    bif !v_t3 then
      some ((y1.1.1, y1.1.2.1, ()), ((), (), (), (), (), ()))
    else
      bif decide (v_t2 > 0) then
        (sparseref02_down m v_t1_0 v_t1_1 (w_i64 (v_t2 - 1))).bind fun y3 =>
        (sparseref01_TrailingZeros m y3.1.1 y3.1.2.1).bind fun y4 =>
        bif y4.1 == 0 then
          (sparseref01_Sign m y3.1.1 y3.1.2.1).bind fun y5 =>
          bif y5.1 != 0 then
            bif v_t3 then
              (sparseref01_Sign m y1.1.1 y1.1.2.1).bind fun y6 =>
              bif y6.1 != 0 then
                (sparseref01_TrailingZeros m y1.1.1 y1.1.2.1).bind fun y7 =>
                (sparseref02_Up m v_neg 1 (y7.1 == 0) v_t4).bind fun y8 =>
                bif y8.1 then
                  (sparseref01_FromInt m 1).bind fun y9 =>
                  (sparseref01_Add m y1.1.1 y1.1.2.1 y9.1.1 y9.1.2.1).bind fun y10 =>
                  some ((y10.1.1, y10.1.2.1, ()), ((), (), (), (), (), ()))
                else
                  some ((y1.1.1, y1.1.2.1, ()), ((), (), (), (), (), ()))
              else
                (sparseref02_Up m v_neg 1 false v_t4).bind fun y11 =>
                bif y11.1 then
                  (sparseref01_FromInt m 1).bind fun y12 =>
                  (sparseref01_Add m y1.1.1 y1.1.2.1 y12.1.1 y12.1.2.1).bind fun y13 =>
                  some ((y13.1.1, y13.1.2.1, ()), ((), (), (), (), (), ()))
                else
                  some ((y1.1.1, y1.1.2.1, ()), ((), (), (), (), (), ()))
            else
              (sparseref01_Lost m v_t1_0 v_t1_1 (w_i64 (v_t2 - 1))).bind fun y14 =>
              bif y14.1 then
                (sparseref01_Sign m y1.1.1 y1.1.2.1).bind fun y15 =>
                bif y15.1 != 0 then
                  (sparseref01_TrailingZeros m y1.1.1 y1.1.2.1).bind fun y16 =>
                  (sparseref02_Up m v_neg 1 (y16.1 == 0) v_t4).bind fun y17 =>
                  bif y17.1 then
                    (sparseref01_FromInt m 1).bind fun y18 =>
                    (sparseref01_Add m y1.1.1 y1.1.2.1 y18.1.1 y18.1.2.1).bind fun y19 =>
                    some ((y19.1.1, y19.1.2.1, ()), ((), (), (), (), (), ()))
                  else
                    some ((y1.1.1, y1.1.2.1, ()), ((), (), (), (), (), ()))
                else
                  (sparseref02_Up m v_neg 1 false v_t4).bind fun y20 =>
                  bif y20.1 then
                    (sparseref01_FromInt m 1).bind fun y21 =>
                    (sparseref01_Add m y1.1.1 y1.1.2.1 y21.1.1 y21.1.2.1).bind fun y22 =>
                    some ((y22.1.1, y22.1.2.1, ()), ((), (), (), (), (), ()))
                  else
                    some ((y1.1.1, y1.1.2.1, ()), ((), (), (), (), (), ()))
              else
                (sparseref01_Sign m y1.1.1 y1.1.2.1).bind fun y23 =>
                bif y23.1 != 0 then
                  (sparseref01_TrailingZeros m y1.1.1 y1.1.2.1).bind fun y24 =>
                  (sparseref02_Up m v_neg 0 (y24.1 == 0) v_t4).bind fun y25 =>
                  bif y25.1 then
                    (sparseref01_FromInt m 1).bind fun y26 =>
                    (sparseref01_Add m y1.1.1 y1.1.2.1 y26.1.1 y26.1.2.1).bind fun y27 =>
                    some ((y27.1.1, y27.1.2.1, ()), ((), (), (), (), (), ()))
                  else
                    some ((y1.1.1, y1.1.2.1, ()), ((), (), (), (), (), ()))
                else
                  (sparseref02_Up m v_neg 0 false v_t4).bind fun y28 =>
                  bif y28.1 then
                    (sparseref01_FromInt m 1).bind fun y29 =>
                    (sparseref01_Add m y1.1.1 y1.1.2.1 y29.1.1 y29.1.2.1).bind fun y30 =>
                    some ((y30.1.1, y30.1.2.1, ()), ((), (), (), (), (), ()))
                  else
                    some ((y1.1.1, y1.1.2.1, ()), ((), (), (), (), (), ()))
          else
            (sparseref01_Sign m y1.1.1 y1.1.2.1).bind fun y31 =>
            bif y31.1 != 0 then
              (sparseref01_TrailingZeros m y1.1.1 y1.1.2.1).bind fun y32 =>
              (sparseref02_Up m v_neg (-1) (y32.1 == 0) v_t4).bind fun y33 =>
              bif y33.1 then
                (sparseref01_FromInt m 1).bind fun y34 =>
                (sparseref01_Add m y1.1.1 y1.1.2.1 y34.1.1 y34.1.2.1).bind fun y35 =>
                some ((y35.1.1, y35.1.2.1, ()), ((), (), (), (), (), ()))
              else
                some ((y1.1.1, y1.1.2.1, ()), ((), (), (), (), (), ()))
            else
              (sparseref02_Up m v_neg (-1) false v_t4).bind fun y36 =>
              bif y36.1 then
                (sparseref01_FromInt m 1).bind fun y37 =>
                (sparseref01_Add m y1.1.1 y1.1.2.1 y37.1.1 y37.1.2.1).bind fun y38 =>
                some ((y38.1.1, y38.1.2.1, ()), ((), (), (), (), (), ()))
              else
                some ((y1.1.1, y1.1.2.1, ()), ((), (), (), (), (), ()))
        else
          (sparseref01_Sign m y1.1.1 y1.1.2.1).bind fun y39 =>
          bif y39.1 != 0 then
            (sparseref01_TrailingZeros m y1.1.1 y1.1.2.1).bind fun y40 =>
            (sparseref02_Up m v_neg (-1) (y40.1 == 0) v_t4).bind fun y41 =>
            bif y41.1 then
              (sparseref01_FromInt m 1).bind fun y42 =>
              (sparseref01_Add m y1.1.1 y1.1.2.1 y42.1.1 y42.1.2.1).bind fun y43 =>
              some ((y43.1.1, y43.1.2.1, ()), ((), (), (), (), (), ()))
            else
              some ((y1.1.1, y1.1.2.1, ()), ((), (), (), (), (), ()))
          else
            (sparseref02_Up m v_neg (-1) false v_t4).bind fun y44 =>
            bif y44.1 then
              (sparseref01_FromInt m 1).bind fun y45 =>
              (sparseref01_Add m y1.1.1 y1.1.2.1 y45.1.1 y45.1.2.1).bind fun y46 =>
              some ((y46.1.1, y46.1.2.1, ()), ((), (), (), (), (), ()))
            else
              some ((y1.1.1, y1.1.2.1, ()), ((), (), (), (), (), ()))
      else
        (sparseref01_Sign m y1.1.1 y1.1.2.1).bind fun y47 =>
        bif y47.1 != 0 then
          (sparseref01_TrailingZeros m y1.1.1 y1.1.2.1).bind fun y48 =>
          (sparseref02_Up m v_neg (-1) (y48.1 == 0) v_t4).bind fun y49 =>
          bif y49.1 then
            (sparseref01_FromInt m 1).bind fun y50 =>
            (sparseref01_Add m y1.1.1 y1.1.2.1 y50.1.1 y50.1.2.1).bind fun y51 =>
            some ((y51.1.1, y51.1.2.1, ()), ((), (), (), (), (), ()))
          else
            some ((y1.1.1, y1.1.2.1, ()), ((), (), (), (), (), ()))
        else
          (sparseref02_Up m v_neg (-1) false v_t4).bind fun y52 =>
          bif y52.1 then
            (sparseref01_FromInt m 1).bind fun y53 =>
            (sparseref01_Add m y1.1.1 y1.1.2.1 y53.1.1 y53.1.2.1).bind fun y54 =>
            some ((y54.1.1, y54.1.2.1, ()), ((), (), (), (), (), ()))
          else
            some ((y1.1.1, y1.1.2.1, ()), ((), (), (), (), (), ()))
  else
    bif decide (v_t2 > 0) then
      (sparseref02_down m v_t1_0 v_t1_1 (w_i64 (v_t2 - 1))).bind fun y55 =>
      (sparseref01_TrailingZeros m y55.1.1 y55.1.2.1).bind fun y56 =>
      bif y56.1 == 0 then
        (sparseref01_Sign m y55.1.1 y55.1.2.1).bind fun y57 =>
        bif y57.1 != 0 then
          bif v_t3 then
            (sparseref01_Sign m y1.1.1 y1.1.2.1).bind fun y58 =>
            bif y58.1 != 0 then
              (sparseref01_TrailingZeros m y1.1.1 y1.1.2.1).bind fun y59 =>
              (sparseref02_Up m v_neg 1 (y59.1 == 0) v_t4).bind fun y60 =>
              bif y60.1 then
                (sparseref01_FromInt m 1).bind fun y61 =>
                (sparseref01_Add m y1.1.1 y1.1.2.1 y61.1.1 y61.1.2.1).bind fun y62 =>
                some ((y62.1.1, y62.1.2.1, ()), ((), (), (), (), (), ()))
              else
                some ((y1.1.1, y1.1.2.1, ()), ((), (), (), (), (), ()))
            else
              (sparseref02_Up m v_neg 1 false v_t4).bind fun y63 =>
              bif y63.1 then
                (sparseref01_FromInt m 1).bind fun y64 =>
                (sparseref01_Add m y1.1.1 y1.1.2.1 y64.1.1 y64.1.2.1).bind fun y65 =>
                some ((y65.1.1, y65.1.2.1, ()), ((), (), (), (), (), ()))
              else
                some ((y1.1.1, y1.1.2.1, ()), ((), (), (), (), (), ()))
          else
            (sparseref01_Lost m v_t1_0 v_t1_1 (w_i64 (v_t2 - 1))).bind fun y66 =>
            bif y66.1 then
              (sparseref01_Sign m y1.1.1 y1.1.2.1).bind fun y67 =>
              bif y67.1 != 0 then
                (sparseref01_TrailingZeros m y1.1.1 y1.1.2.1).bind fun y68 =>
                (sparseref02_Up m v_neg 1 (y68.1 == 0) v_t4).bind fun y69 =>
                bif y69.1 then
                  (sparseref01_FromInt m 1).bind fun y70 =>
                  (sparseref01_Add m y1.1.1 y1.1.2.1 y70.1.1 y70.1.2.1).bind fun y71 =>
                  some ((y71.1.1, y71.1.2.1, ()), ((), (), (), (), (), ()))
                else
                  some ((y1.1.1, y1.1.2.1, ()), ((), (), (), (), (), ()))
              else
                (sparseref02_Up m v_neg 1 false v_t4).bind fun y72 =>
                bif y72.1 then
                  (sparseref01_FromInt m 1).bind fun y73 =>
                  (sparseref01_Add m y1.1.1 y1.1.2.1 y73.1.1 y73.1.2.1).bind fun y74 =>
                  some ((y74.1.1, y74.1.2.1, ()), ((), (), (), (), (), ()))
                else
                  some ((y1.1.1, y1.1.2.1, ()), ((), (), (), (), (), ()))
            else
              (sparseref01_Sign m y1.1.1 y1.1.2.1).bind fun y75 =>
              bif y75.1 != 0 then
                (sparseref01_TrailingZeros m y1.1.1 y1.1.2.1).bind fun y76 =>
                (sparseref02_Up m v_neg 0 (y76.1 == 0) v_t4).bind fun y77 =>
                bif y77.1 then
                  (sparseref01_FromInt m 1).bind fun y78 =>
                  (sparseref01_Add m y1.1.1 y1.1.2.1 y78.1.1 y78.1.2.1).bind fun y79 =>
                  some ((y79.1.1, y79.1.2.1, ()), ((), (), (), (), (), ()))
                else
                  some ((y1.1.1, y1.1.2.1, ()), ((), (), (), (), (), ()))
              else
                (sparseref02_Up m v_neg 0 false v_t4).bind fun y80 =>
                bif y80.1 then
                  (sparseref01_FromInt m 1).bind fun y81 =>
                  (sparseref01_Add m y1.1.1 y1.1.2.1 y81.1.1 y81.1.2.1).bind fun y82 =>
                  some ((y82.1.1, y82.1.2.1, ()), ((), (), (), (), (), ()))
                else
                  some ((y1.1.1, y1.1.2.1, ()), ((), (), (), (), (), ()))
        else
          (sparseref01_Sign m y1.1.1 y1.1.2.1).bind fun y83 =>
          bif y83.1 != 0 then
            (sparseref01_TrailingZeros m y1.1.1 y1.1.2.1).bind fun y84 =>
            (sparseref02_Up m v_neg (-1) (y84.1 == 0) v_t4).bind fun y85 =>
            bif y85.1 then
              (sparseref01_FromInt m 1).bind fun y86 =>
              (sparseref01_Add m y1.1.1 y1.1.2.1 y86.1.1 y86.1.2.1).bind fun y87 =>
              some ((y87.1.1, y87.1.2.1, ()), ((), (), (), (), (), ()))
            else
              some ((y1.1.1, y1.1.2.1, ()), ((), (), (), (), (), ()))
          else
            (sparseref02_Up m v_neg (-1) false v_t4).bind fun y88 =>
            bif y88.1 then
              (sparseref01_FromInt m 1).bind fun y89 =>
              (sparseref01_Add m y1.1.1 y1.1.2.1 y89.1.1 y89.1.2.1).bind fun y90 =>
              some ((y90.1.1, y90.1.2.1, ()), ((), (), (), (), (), ()))
            else
              some ((y1.1.1, y1.1.2.1, ()), ((), (), (), (), (), ()))
      else
        (sparseref01_Sign m y1.1.1 y1.1.2.1).bind fun y91 =>
        bif y91.1 != 0 then
          (sparseref01_TrailingZeros m y1.1.1 y1.1.2.1).bind fun y92 =>
          (sparseref02_Up m v_neg (-1) (y92.1 == 0) v_t4).bind fun y93 =>
          bif y93.1 then
            (sparseref01_FromInt m 1).bind fun y94 =>
            (sparseref01_Add m y1.1.1 y1.1.2.1 y94.1.1 y94.1.2.1).bind fun y95 =>
            some ((y95.1.1, y95.1.2.1, ()), ((), (), (), (), (), ()))
          else
            some ((y1.1.1, y1.1.2.1, ()), ((), (), (), (), (), ()))
        else
          (sparseref02_Up m v_neg (-1) false v_t4).bind fun y96 =>
          bif y96.1 then
            (sparseref01_FromInt m 1).bind fun y97 =>
            (sparseref01_Add m y1.1.1 y1.1.2.1 y97.1.1 y97.1.2.1).bind fun y98 =>
            some ((y98.1.1, y98.1.2.1, ()), ((), (), (), (), (), ()))
          else
            some ((y1.1.1, y1.1.2.1, ()), ((), (), (), (), (), ()))
    else
      (sparseref01_Sign m y1.1.1 y1.1.2.1).bind fun y99 =>
      bif y99.1 != 0 then
        (sparseref01_TrailingZeros m y1.1.1 y1.1.2.1).bind fun y100 =>
        (sparseref02_Up m v_neg (-1) (y100.1 == 0) v_t4).bind fun y101 =>
        bif y101.1 then
          (sparseref01_FromInt m 1).bind fun y102 =>
          (sparseref01_Add m y1.1.1 y1.1.2.1 y102.1.1 y102.1.2.1).bind fun y103 =>
          some ((y103.1.1, y103.1.2.1, ()), ((), (), (), (), (), ()))
        else
          some ((y1.1.1, y1.1.2.1, ()), ((), (), (), (), (), ()))
      else
        (sparseref02_Up m v_neg (-1) false v_t4).bind fun y104 =>
        bif y104.1 then
          (sparseref01_FromInt m 1).bind fun y105 =>
          (sparseref01_Add m y1.1.1 y1.1.2.1 y105.1.1 y105.1.2.1).bind fun y106 =>
          some ((y106.1.1, y106.1.2.1, ()), ((), (), (), (), (), ()))
        else
          some ((y1.1.1, y1.1.2.1, ()), ((), (), (), (), (), ()))
/-! 84 sparse/sparseref01.Int -/
def sparseref01_Int_L0 (m : Nat) : Nat → Bool → List Int → Int → Int → Option (((Bool × List Int × Unit) × Int × Unit) ⊕ Empty)
  | 0, _, _, _, _ => none
  | n + 1, v_a_0, v_a_1, v_u, v_i =>
    bif decide (v_i < (v_a_1.length : Int)) then
      if (0 : Int) ≤ v_i ∧ v_i < (v_a_1.length : Int) then
      if (0 : Int) ≤ (w_i64 (32 * v_i)) then
      sparseref01_Int_L0 m n v_a_0 v_a_1 (b_or_ .u64 v_u (shl_ .u64 (w_u64 (v_a_1.getD (0 + v_i.toNat) 0)) (w_i64 (32 * v_i)))) (w_i64 (v_i + 1))
      else none
      else none
    else
      some (.inl ((v_a_0, v_a_1, ()), v_u, ()))
def sparseref01_Int (m : Nat) (v_a_0 : Bool) (v_a_1 : List Int) : Option ((Int × Bool × Unit) × Unit × Unit) :=
  (sparseref01_Norm m v_a_0 v_a_1).bind fun y1 =>
  bif decide ((y1.1.2.1.length : Int) > 2) then
    some ((0, false, ()), ((), ()))
  else
    (sparseref01_Int_L0 m m y1.1.1 y1.1.2.1 0 0).bind fun y2 =>
    match y2 with
    | .inl z3 =>
      bif z3.1.1 then
        bif decide (z3.2.1 > 9223372036854775808) then
          some ((0, false, ()), ((), ()))
        else
          some ((w_i64 ((w_i64 (0 - (w_i64 (w_u64 (z3.2.1 - 1))))) - 1), true, ()), ((), ()))
      else
        bif decide (z3.2.1 > 9223372036854775807) then
          some ((0, false, ()), ((), ()))
        else
          some ((w_i64 z3.2.1, true, ()), ((), ()))
    | .inr e =>
      e.elim
/-! 68 sparse/sparseref03.rounded -/
def sparseref03_rounded (m : Nat) (v_neg : Bool) (v_t1_0 : Bool) (v_t1_1 : List Int) (v_t2 : Int) (v_t3 : Bool) (v_t4 : Int) : Option (Int × Unit × Unit × Unit × Unit × Unit × Unit) :=
  (sparseref01_BitLen m v_t1_0 v_t1_1).bind fun y1 =>
  bif decide ((w_i64 ((w_i64 (v_t2 + y1.1)) - 1)) ≥ 1024) then
    (sparseref03_over m v_neg v_t4).bind fun y2 =>
    some (y2.1, ((), (), (), (), (), ()))
  else
    bif decide ((if (-1074) > (w_i64 ((w_i64 ((w_i64 (v_t2 + y1.1)) - 1)) - 52)) then (-1074) else (w_i64 ((w_i64 ((w_i64 (v_t2 + y1.1)) - 1)) - 52))) ≥ v_t2) then
      (sparseref02_Cut m v_neg v_t1_0 v_t1_1 (w_i64 ((if (-1074) > (w_i64 ((w_i64 ((w_i64 (v_t2 + y1.1)) - 1)) - 52)) then (-1074) else (w_i64 ((w_i64 ((w_i64 (v_t2 + y1.1)) - 1)) - 52))) - v_t2)) v_t3 v_t4).bind fun y3 =>
      (sparseref01_Int m y3.1.1 y3.1.2.1).bind fun y4 =>
      bif y4.1.1 == 9007199254740992 then
        bif decide ((w_i64 ((w_i64 ((if (-1074) > (w_i64 ((w_i64 ((w_i64 (v_t2 + y1.1)) - 1)) - 52)) then (-1074) else (w_i64 ((w_i64 ((w_i64 (v_t2 + y1.1)) - 1)) - 52))) + 1)) + 53)) > 1024) then
          (sparseref03_over m v_neg v_t4).bind fun y5 =>
          some (y5.1, ((), (), (), (), (), ()))
        else
          (sparseref03_signed m v_neg (b_or_ .u64 (shl_ .u64 (w_u64 (w_i64 ((w_i64 ((if (-1074) > (w_i64 ((w_i64 ((w_i64 (v_t2 + y1.1)) - 1)) - 52)) then (-1074) else (w_i64 ((w_i64 ((w_i64 (v_t2 + y1.1)) - 1)) - 52))) + 1)) + 1075))) 52) 0)).bind fun y6 =>
          some (y6.1, ((), (), (), (), (), ()))
      else
        bif decide (y4.1.1 ≥ 4503599627370496) then
          bif decide ((w_i64 ((if (-1074) > (w_i64 ((w_i64 ((w_i64 (v_t2 + y1.1)) - 1)) - 52)) then (-1074) else (w_i64 ((w_i64 ((w_i64 (v_t2 + y1.1)) - 1)) - 52))) + 53)) > 1024) then
            (sparseref03_over m v_neg v_t4).bind fun y7 =>
            some (y7.1, ((), (), (), (), (), ()))
          else
            bif decide (y4.1.1 ≥ 4503599627370496) then
              (sparseref03_signed m v_neg (b_or_ .u64 (shl_ .u64 (w_u64 (w_i64 ((if (-1074) > (w_i64 ((w_i64 ((w_i64 (v_t2 + y1.1)) - 1)) - 52)) then (-1074) else (w_i64 ((w_i64 ((w_i64 (v_t2 + y1.1)) - 1)) - 52))) + 1075))) 52) (w_u64 (w_i64 (y4.1.1 - 4503599627370496))))).bind fun y8 =>
              some (y8.1, ((), (), (), (), (), ()))
            else
              (sparseref03_signed m v_neg (w_u64 y4.1.1)).bind fun y9 =>
              some (y9.1, ((), (), (), (), (), ()))
        else
          bif decide (y4.1.1 ≥ 4503599627370496) then
            (sparseref03_signed m v_neg (b_or_ .u64 (shl_ .u64 (w_u64 (w_i64 ((if (-1074) > (w_i64 ((w_i64 ((w_i64 (v_t2 + y1.1)) - 1)) - 52)) then (-1074) else (w_i64 ((w_i64 ((w_i64 (v_t2 + y1.1)) - 1)) - 52))) + 1075))) 52) (w_u64 (w_i64 (y4.1.1 - 4503599627370496))))).bind fun y10 =>
            some (y10.1, ((), (), (), (), (), ()))
          else
            (sparseref03_signed m v_neg (w_u64 y4.1.1)).bind fun y11 =>
            some (y11.1, ((), (), (), (), (), ()))
    else
      (sparseref01_Shift m v_t1_0 v_t1_1 (w_i64 (v_t2 - (if (-1074) > (w_i64 ((w_i64 ((w_i64 (v_t2 + y1.1)) - 1)) - 52)) then (-1074) else (w_i64 ((w_i64 ((w_i64 (v_t2 + y1.1)) - 1)) - 52)))))).bind fun y12 =>
      (sparseref01_Int m y12.1.1 y12.1.2.1).bind fun y13 =>
      bif y13.1.1 == 9007199254740992 then
        bif decide ((w_i64 ((w_i64 ((if (-1074) > (w_i64 ((w_i64 ((w_i64 (v_t2 + y1.1)) - 1)) - 52)) then (-1074) else (w_i64 ((w_i64 ((w_i64 (v_t2 + y1.1)) - 1)) - 52))) + 1)) + 53)) > 1024) then
          (sparseref03_over m v_neg v_t4).bind fun y14 =>
          some (y14.1, ((), (), (), (), (), ()))
        else
          (sparseref03_signed m v_neg (b_or_ .u64 (shl_ .u64 (w_u64 (w_i64 ((w_i64 ((if (-1074) > (w_i64 ((w_i64 ((w_i64 (v_t2 + y1.1)) - 1)) - 52)) then (-1074) else (w_i64 ((w_i64 ((w_i64 (v_t2 + y1.1)) - 1)) - 52))) + 1)) + 1075))) 52) 0)).bind fun y15 =>
          some (y15.1, ((), (), (), (), (), ()))
      else
        bif decide (y13.1.1 ≥ 4503599627370496) then
          bif decide ((w_i64 ((if (-1074) > (w_i64 ((w_i64 ((w_i64 (v_t2 + y1.1)) - 1)) - 52)) then (-1074) else (w_i64 ((w_i64 ((w_i64 (v_t2 + y1.1)) - 1)) - 52))) + 53)) > 1024) then
            (sparseref03_over m v_neg v_t4).bind fun y16 =>
            some (y16.1, ((), (), (), (), (), ()))
          else
            bif decide (y13.1.1 ≥ 4503599627370496) then
              (sparseref03_signed m v_neg (b_or_ .u64 (shl_ .u64 (w_u64 (w_i64 ((if (-1074) > (w_i64 ((w_i64 ((w_i64 (v_t2 + y1.1)) - 1)) - 52)) then (-1074) else (w_i64 ((w_i64 ((w_i64 (v_t2 + y1.1)) - 1)) - 52))) + 1075))) 52) (w_u64 (w_i64 (y13.1.1 - 4503599627370496))))).bind fun y17 =>
              some (y17.1, ((), (), (), (), (), ()))
            else
              (sparseref03_signed m v_neg (w_u64 y13.1.1)).bind fun y18 =>
              some (y18.1, ((), (), (), (), (), ()))
        else
          bif decide (y13.1.1 ≥ 4503599627370496) then
            (sparseref03_signed m v_neg (b_or_ .u64 (shl_ .u64 (w_u64 (w_i64 ((if (-1074) > (w_i64 ((w_i64 ((w_i64 (v_t2 + y1.1)) - 1)) - 52)) then (-1074) else (w_i64 ((w_i64 ((w_i64 (v_t2 + y1.1)) - 1)) - 52))) + 1075))) 52) (w_u64 (w_i64 (y13.1.1 - 4503599627370496))))).bind fun y19 =>
            some (y19.1, ((), (), (), (), (), ()))
          else
            (sparseref03_signed m v_neg (w_u64 y13.1.1)).bind fun y20 =>
            some (y20.1, ((), (), (), (), (), ()))
/-! 58 sparse/sparseref03.Round -/
def sparseref03_Round (m : Nat) (v_d_0 : Bool) (v_d_1 : Bool) (v_d_2 : List Int) (v_d_3 : Int) (v_mode : Int) : Option (Int × Unit × Unit × Unit) :=
  (sparseref02_Norm m v_d_0 v_d_1 v_d_2 v_d_3).bind fun y1 =>
  bif y1.1.1 then
    some (9221120237041090560, ((), (), ()))
  else
    (sparseref01_Sign m y1.1.2.1 y1.1.2.2.1).bind fun y2 =>
    bif y2.1 == 0 then
      some (0, ((), (), ()))
    else
      (sparseref01_Abs m y1.1.2.1 y1.1.2.2.1).bind fun y3 =>
      (sparseref03_rounded m y1.1.2.1 y3.1.1 y3.1.2.1 y1.1.2.2.2.1 false v_mode).bind fun y4 =>
      some (y4.1, ((), (), ()))
/-! 40 sparse/sparsemake.Value -/
def sparsemake_Value (m : Nat) (v_n : Int) : Option (Int × Unit × Unit) :=
  (sparsekit_Place m v_n 17).bind fun y1 =>
  bif (Int.tmod (w_i64 (w_u64 (Int.tdiv (w_u64 v_n) 17))) 3) == 0 then
    (sparseref02_FromInt m (w_i64 (y1.1 - 8))).bind fun y2 =>
    (sparseref02_Scale m y2.1.1 y2.1.2.1 y2.1.2.2.1 y2.1.2.2.2.1 (w_i64 ((Int.tmod (w_i64 (Int.tdiv (w_i64 (w_u64 (Int.tdiv (w_u64 v_n) 17))) 3)) 13) - 6))).bind fun y3 =>
    (sparseref03_Round m y3.1.1 y3.1.2.1 y3.1.2.2.1 y3.1.2.2.2.1 0).bind fun y4 =>
    some (y4.1, ((), ()))
  else
    (sparseref02_FromInt m (w_i64 (y1.1 - 8))).bind fun y5 =>
    (sparseref02_Scale m y5.1.1 y5.1.2.1 y5.1.2.2.1 y5.1.2.2.2.1 0).bind fun y6 =>
    (sparseref03_Round m y6.1.1 y6.1.2.1 y6.1.2.2.1 y6.1.2.2.2.1 0).bind fun y7 =>
    some (y7.1, ((), ()))
/-! 22 sparse/sparseref09.Pack -/
def sparseref09_Pack_L2 (m : Nat) : Nat → Int → Int → (List (Int × Int × Int)) → Int → Int → List Int → List Int → List Int → Int → Int → List Int → List Int → List Int → List Int → Int → Int → Option ((Int × Int × (List (Int × Int × Int)) × (Int × Int × List Int × List Int × List Int × Unit) × (Int × Int × List Int × List Int × List Int × Unit) × List Int × Int × Unit) ⊕ Empty)
  | 0, _, _, _, _, _, _, _, _, _, _, _, _, _, _, _, _ => none
  | n + 1, v_rows, v_t1, v_t2, v_t6_0, v_t6_1, v_t6_2, v_t6_3, v_t6_4, v_t7_0, v_t7_1, v_t7_2, v_t7_3, v_t7_4, v_t8, v_t10, v_t11 =>
    bif decide (v_t11 < v_rows) then
      if (0 : Int) ≤ (w_i64 ((w_i64 (v_t10 * v_rows)) + v_t11)) ∧ (w_i64 ((w_i64 (v_t10 * v_rows)) + v_t11)) < (v_t8.length : Int) then
      bif decide ((v_t8.getD (0 + (w_i64 ((w_i64 (v_t10 * v_rows)) + v_t11)).toNat) 0) > 0) then
        if v_t7_3.length + ([v_t11] : List Int).length ≤ 1073741824 then
        if (0 : Int) ≤ (w_i64 ((v_t8.getD (0 + (w_i64 ((w_i64 (v_t10 * v_rows)) + v_t11)).toNat) 0) - 1)) ∧ (w_i64 ((v_t8.getD (0 + (w_i64 ((w_i64 (v_t10 * v_rows)) + v_t11)).toNat) 0) - 1)) < (v_t2.length : Int) then
        if v_t7_4.length + ([(v_t2.getD (w_i64 ((v_t8.getD (0 + (w_i64 ((w_i64 (v_t10 * v_rows)) + v_t11)).toNat) 0) - 1)).toNat (0, (0, 0))).2.2] : List Int).length ≤ 1073741824 then
        sparseref09_Pack_L2 m n v_rows v_t1 v_t2 v_t6_0 v_t6_1 v_t6_2 v_t6_3 v_t6_4 v_t7_0 v_t7_1 v_t7_2 (v_t7_3 ++ ([v_t11] : List Int)) (v_t7_4 ++ ([(v_t2.getD (w_i64 ((v_t8.getD (0 + (w_i64 ((w_i64 (v_t10 * v_rows)) + v_t11)).toNat) 0) - 1)).toNat (0, (0, 0))).2.2] : List Int)) v_t8 v_t10 (w_i64 (v_t11 + 1))
        else none
        else none
        else none
      else
        sparseref09_Pack_L2 m n v_rows v_t1 v_t2 v_t6_0 v_t6_1 v_t6_2 v_t6_3 v_t6_4 v_t7_0 v_t7_1 v_t7_2 v_t7_3 v_t7_4 v_t8 v_t10 (w_i64 (v_t11 + 1))
      else none
    else
      some (.inl (v_rows, v_t1, v_t2, (v_t6_0, v_t6_1, v_t6_2, v_t6_3, v_t6_4, ()), (v_t7_0, v_t7_1, v_t7_2, v_t7_3, v_t7_4, ()), v_t8, v_t10, ()))
def sparseref09_Pack_L1 (m : Nat) : Nat → Int → Int → (List (Int × Int × Int)) → Int → Int → List Int → List Int → List Int → Int → Int → List Int → List Int → List Int → List Int → Int → Option (((Int × Int × List Int × List Int × List Int × Unit) × (Int × Int × List Int × List Int × List Int × Unit) × Unit) ⊕ Empty)
  | 0, _, _, _, _, _, _, _, _, _, _, _, _, _, _, _ => none
  | n + 1, v_rows, v_t1, v_t2, v_t6_0, v_t6_1, v_t6_2, v_t6_3, v_t6_4, v_t7_0, v_t7_1, v_t7_2, v_t7_3, v_t7_4, v_t8, v_t10 =>
    bif decide (v_t10 < v_t1) then
      (sparseref09_Pack_L2 m m v_rows v_t1 v_t2 v_t6_0 v_t6_1 v_t6_2 v_t6_3 v_t6_4 v_t7_0 v_t7_1 v_t7_2 v_t7_3 v_t7_4 v_t8 v_t10 0).bind fun y1 =>
      match y1 with
      | .inl z2 =>
        if z2.2.2.2.2.1.2.2.1.length + ([(z2.2.2.2.2.1.2.2.2.1.length : Int)] : List Int).length ≤ 1073741824 then
        sparseref09_Pack_L1 m n z2.1 z2.2.1 z2.2.2.1 z2.2.2.2.1.1 z2.2.2.2.1.2.1 z2.2.2.2.1.2.2.1 z2.2.2.2.1.2.2.2.1 z2.2.2.2.1.2.2.2.2.1 z2.2.2.2.2.1.1 z2.2.2.2.2.1.2.1 (z2.2.2.2.2.1.2.2.1 ++ ([(z2.2.2.2.2.1.2.2.2.1.length : Int)] : List Int)) z2.2.2.2.2.1.2.2.2.1 z2.2.2.2.2.1.2.2.2.2.1 z2.2.2.2.2.2.1 (w_i64 (z2.2.2.2.2.2.2.1 + 1))
        else none
      | .inr e =>
        e.elim
    else
      some (.inl ((v_t6_0, v_t6_1, v_t6_2, v_t6_3, v_t6_4, ()), (v_t7_0, v_t7_1, v_t7_2, v_t7_3, v_t7_4, ()), ()))
def sparseref09_Pack_L0 (m : Nat) : Nat → Int → Int → (List (Int × Int × Int)) → Int → Int → List Int → List Int → List Int → Int → Int → List Int → List Int → List Int → List Int → Int → Option ((Int × Int × (List (Int × Int × Int)) × (Int × Int × List Int × List Int × List Int × Unit) × (Int × Int × List Int × List Int × List Int × Unit) × List Int × Unit) ⊕ Empty)
  | 0, _, _, _, _, _, _, _, _, _, _, _, _, _, _, _ => none
  | n + 1, v_rows, v_t1, v_t2, v_t6_0, v_t6_1, v_t6_2, v_t6_3, v_t6_4, v_t7_0, v_t7_1, v_t7_2, v_t7_3, v_t7_4, v_t8, v_t9 =>
    bif decide (v_t9 < (v_t2.length : Int)) then
      if (0 : Int) ≤ v_t9 ∧ v_t9 < (v_t2.length : Int) then
      if (0 : Int) ≤ v_t9 ∧ v_t9 < (v_t2.length : Int) then
      if (0 : Int) ≤ (w_i64 ((w_i64 ((v_t2.getD v_t9.toNat (0, (0, 0))).2.1 * v_rows)) + (v_t2.getD v_t9.toNat (0, (0, 0))).1)) ∧ (w_i64 ((w_i64 ((v_t2.getD v_t9.toNat (0, (0, 0))).2.1 * v_rows)) + (v_t2.getD v_t9.toNat (0, (0, 0))).1)) < (v_t8.length : Int) then
      sparseref09_Pack_L0 m n v_rows v_t1 v_t2 v_t6_0 v_t6_1 v_t6_2 v_t6_3 v_t6_4 v_t7_0 v_t7_1 v_t7_2 v_t7_3 v_t7_4 (v_t8.set (0 + (w_i64 ((w_i64 ((v_t2.getD v_t9.toNat (0, (0, 0))).2.1 * v_rows)) + (v_t2.getD v_t9.toNat (0, (0, 0))).1)).toNat) (w_i64 (v_t9 + 1))) (w_i64 (v_t9 + 1))
      else none
      else none
      else none
    else
      some (.inl (v_rows, v_t1, v_t2, (v_t6_0, v_t6_1, v_t6_2, v_t6_3, v_t6_4, ()), (v_t7_0, v_t7_1, v_t7_2, v_t7_3, v_t7_4, ()), v_t8, ()))
def sparseref09_Pack (m : Nat) (v_rows : Int) (v_t1 : Int) (v_t2 : List (Int × Int × Int)) : Option ((Int × Int × List Int × List Int × List Int × Unit) × Unit × Unit × Unit × Unit) :=
  if (0 : Int) ≤ (w_i64 (v_rows * v_t1)) ∧ (w_i64 (v_rows * v_t1)) ≤ (w_i64 (v_rows * v_t1)) ∧ (w_i64 (v_rows * v_t1)) ≤ 1073741824 then
  (sparseref09_Pack_L0 m m v_rows v_t1 v_t2 0 0 ([] : List Int) ([] : List Int) ([] : List Int) v_rows v_t1 ([0] : List Int) ([] : List Int) ([] : List Int) (List.replicate (w_i64 (v_rows * v_t1)).toNat (0 : Int)) 0).bind fun y1 =>
  match y1 with
  | .inl z2 =>
    (sparseref09_Pack_L1 m m z2.1 z2.2.1 z2.2.2.1 z2.2.2.2.1.1 z2.2.2.2.1.2.1 z2.2.2.2.1.2.2.1 z2.2.2.2.1.2.2.2.1 z2.2.2.2.1.2.2.2.2.1 z2.2.2.2.2.1.1 z2.2.2.2.2.1.2.1 z2.2.2.2.2.1.2.2.1 z2.2.2.2.2.1.2.2.2.1 z2.2.2.2.2.1.2.2.2.2.1 z2.2.2.2.2.2.1 0).bind fun y3 =>
    match y3 with
    | .inl z4 =>
      some ((z4.2.1.1, z4.2.1.2.1, z4.2.1.2.2.1, z4.2.1.2.2.2.1, z4.2.1.2.2.2.2.1, ()), ((), (), (), ()))
    | .inr e =>
      e.elim
  | .inr e =>
    e.elim
  else none
/-! 28 sparse/sparsemake.Matrix -/
def sparsemake_Matrix_L0 (m : Nat) : Nat → Int → Int → List Int → Int → Int → List Int → List Int → List Int → (List (Int × Int × Int)) → Int → Option ((Int × Int × (Int × Int × List Int × List Int × List Int × Unit) × (List (Int × Int × Int)) × Unit) ⊕ Empty)
  | 0, _, _, _, _, _, _, _, _, _, _ => none
  | n + 1, v_rows, v_cols, v_l, v_t6_0, v_t6_1, v_t6_2, v_t6_3, v_t6_4, v_e, v_i =>
    bif decide ((w_i64 (v_i + 2)) < (v_l.length : Int)) then
      bif decide (v_rows > 0) then
        bif decide (v_cols > 0) then
          if (0 : Int) ≤ v_i ∧ v_i < (v_l.length : Int) then
          (sparsekit_Place m (v_l.getD v_i.toNat 0) v_rows).bind fun y1 =>
          if (0 : Int) ≤ (w_i64 (v_i + 1)) ∧ (w_i64 (v_i + 1)) < (v_l.length : Int) then
          (sparsekit_Place m (v_l.getD (w_i64 (v_i + 1)).toNat 0) v_cols).bind fun y2 =>
          if (0 : Int) ≤ (w_i64 (v_i + 2)) ∧ (w_i64 (v_i + 2)) < (v_l.length : Int) then
          (sparsemake_Value m (v_l.getD (w_i64 (v_i + 2)).toNat 0)).bind fun y3 =>
          if v_e.length + ([(y1.1, (y2.1, y3.1))] : List (Int × Int × Int)).length ≤ 1073741824 then
          sparsemake_Matrix_L0 m n v_rows v_cols v_l v_t6_0 v_t6_1 v_t6_2 v_t6_3 v_t6_4 (v_e ++ ([(y1.1, (y2.1, y3.1))] : List (Int × Int × Int))) (w_i64 (v_i + 3))
          else none
          else none
          else none
          else none
        else
          some (.inl (v_rows, v_cols, (v_t6_0, v_t6_1, v_t6_2, v_t6_3, v_t6_4, ()), v_e, ()))
      else
        some (.inl (v_rows, v_cols, (v_t6_0, v_t6_1, v_t6_2, v_t6_3, v_t6_4, ()), v_e, ()))
    else
      some (.inl (v_rows, v_cols, (v_t6_0, v_t6_1, v_t6_2, v_t6_3, v_t6_4, ()), v_e, ()))
def sparsemake_Matrix (m : Nat) (v_rows : Int) (v_cols : Int) (v_l : List Int) : Option ((Int × Int × List Int × List Int × List Int × Unit) × Unit × Unit × Unit × Unit) :=
  (sparsemake_Matrix_L0 m m v_rows v_cols v_l 0 0 ([] : List Int) ([] : List Int) ([] : List Int) ([] : List (Int × Int × Int)) 0).bind fun y1 =>
  match y1 with
  | .inl z2 =>
    (sparseref09_Pack m z2.1 z2.2.1 z2.2.2.2.1).bind fun y3 =>
    some ((y3.1.1, y3.1.2.1, y3.1.2.2.1, y3.1.2.2.2.1, y3.1.2.2.2.2.1, ()), ((), (), (), ()))
  | .inr e =>
    e.elim
/-! 10 sparse/sparselaw13.made -/
def sparselaw13_made (m : Nat) (v_rows : Int) (v_cols : Int) (v_l : List Int) : Option ((Int × Int × List Int × List Int × List Int × Unit) × Unit × Unit × Unit × Unit) :=
  (sparsekit_Place m v_rows 7).bind fun y1 =>
  (sparsekit_Place m v_cols 7).bind fun y2 =>
  (sparsemake_Matrix m y1.1 y2.1 v_l).bind fun y3 =>
  some ((y3.1.1, y3.1.2.1, y3.1.2.2.1, y3.1.2.2.2.1, y3.1.2.2.2.2.1, ()), ((), (), (), ()))
/-! 20 sparse/sparseref09.Stored -/
def sparseref09_Stored_L0 (m : Nat) : Nat → Int → Int → Int → Int → List Int → List Int → List Int → Int → Option ((Bool × Unit) ⊕ Unit ⊕ Empty)
  | 0, _, _, _, _, _, _, _, _ => none
  | n + 1, v_i, v_j, v_m_0, v_m_1, v_m_2, v_m_3, v_m_4, v_k =>
    if (0 : Int) ≤ (w_i64 (v_j + 1)) ∧ (w_i64 (v_j + 1)) < (v_m_2.length : Int) then
    bif decide (v_k < (v_m_2.getD (w_i64 (v_j + 1)).toNat 0)) then
      if (0 : Int) ≤ v_k ∧ v_k < (v_m_3.length : Int) then
      bif (v_m_3.getD v_k.toNat 0) == v_i then
        some (.inl (true, ()))
      else
        sparseref09_Stored_L0 m n v_i v_j v_m_0 v_m_1 v_m_2 v_m_3 v_m_4 (w_i64 (v_k + 1))
      else none
    else
      some (.inr (.inl ()))
    else none
def sparseref09_Stored (m : Nat) (v_m_0 : Int) (v_m_1 : Int) (v_m_2 : List Int) (v_m_3 : List Int) (v_m_4 : List Int) (v_i : Int) (v_j : Int) : Option (Bool × Unit × Unit × Unit × Unit) :=
  bif decide (v_i < 0) then
    some (false, ((), (), (), ()))
  else
    bif decide (v_i ≥ v_m_0) then
      some (false, ((), (), (), ()))
    else
      bif decide (v_j < 0) then
        some (false, ((), (), (), ()))
      else
        bif decide (v_j ≥ v_m_1) then
          some (false, ((), (), (), ()))
        else
          if (0 : Int) ≤ v_j ∧ v_j < (v_m_2.length : Int) then
          (sparseref09_Stored_L0 m m v_i v_j v_m_0 v_m_1 v_m_2 v_m_3 v_m_4 (v_m_2.getD v_j.toNat 0)).bind fun y1 =>
          match y1 with
          | .inl z2 =>
            some (z2.1, ((), (), (), ()))
          | .inr (.inl z3) =>
            some (false, ((), (), (), ()))
          | .inr (.inr e) =>
            e.elim
          else none
/-! 16 sparse/sparselaw13.size -/
def sparselaw13_size_L0 (m : Nat) : Nat → List Int → Int → Int → Option ((Int × Unit) ⊕ Empty)
  | 0, _, _, _ => none
  | n + 1, v_rowOf, v_n, v_j =>
    bif decide (v_j < (v_rowOf.length : Int)) then
      if (0 : Int) ≤ v_j ∧ v_j < (v_rowOf.length : Int) then
      bif decide ((v_rowOf.getD v_j.toNat 0) ≥ 0) then
        sparselaw13_size_L0 m n v_rowOf (w_i64 (v_n + 1)) (w_i64 (v_j + 1))
      else
        sparselaw13_size_L0 m n v_rowOf v_n (w_i64 (v_j + 1))
      else none
    else
      some (.inl (v_n, ()))
def sparselaw13_size (m : Nat) (v_rowOf : List Int) : Option (Int × Unit × Unit) :=
  (sparselaw13_size_L0 m m v_rowOf 0 0).bind fun y1 =>
  match y1 with
  | .inl z2 =>
    some (z2.1, ((), ()))
  | .inr e =>
    e.elim
/-! 5 sparse/sparselaw13.MatchingGreatest -/
def sparselaw13_MatchingGreatest_L0 (m : Nat) : Nat → List Int → Int → Int → List Int → List Int → List Int → List Int → List Bool → Int → Int → Option ((List Int × Int × Unit) ⊕ Empty)
  | 0, _, _, _, _, _, _, _, _, _, _ => none
  | n + 1, v_t3, v_t9_0, v_t9_1, v_t9_2, v_t9_3, v_t9_4, v_t10, v_t12, v_t13, v_t14 =>
    bif decide (v_t14 < v_t9_1) then
      bif decide (v_t14 < (v_t3.length : Int)) then
        bif decide (v_t9_0 > 0) then
          if (0 : Int) ≤ v_t14 ∧ v_t14 < (v_t3.length : Int) then
          (sparsekit_Place m (v_t3.getD v_t14.toNat 0) v_t9_0).bind fun y1 =>
          if (0 : Int) ≤ y1.1 ∧ y1.1 < (v_t12.length : Int) then
          bif !(v_t12.getD (0 + y1.1.toNat) false) then
            (sparseref09_Stored m v_t9_0 v_t9_1 v_t9_2 v_t9_3 v_t9_4 y1.1 v_t14).bind fun y2 =>
            bif y2.1 then
              if (0 : Int) ≤ y1.1 ∧ y1.1 < (v_t12.length : Int) then
              sparselaw13_MatchingGreatest_L0 m n v_t3 v_t9_0 v_t9_1 v_t9_2 v_t9_3 v_t9_4 v_t10 (v_t12.set (0 + y1.1.toNat) true) (w_i64 (v_t13 + 1)) (w_i64 (v_t14 + 1))
              else none
            else
              sparselaw13_MatchingGreatest_L0 m n v_t3 v_t9_0 v_t9_1 v_t9_2 v_t9_3 v_t9_4 v_t10 v_t12 v_t13 (w_i64 (v_t14 + 1))
          else
            sparselaw13_MatchingGreatest_L0 m n v_t3 v_t9_0 v_t9_1 v_t9_2 v_t9_3 v_t9_4 v_t10 v_t12 v_t13 (w_i64 (v_t14 + 1))
          else none
          else none
        else
          some (.inl (v_t10, v_t13, ()))
      else
        some (.inl (v_t10, v_t13, ()))
    else
      some (.inl (v_t10, v_t13, ()))
def sparselaw13_MatchingGreatest (m : Nat) (v_rows : Int) (v_t1 : Int) (v_t2 : List Int) (v_t3 : List Int) : Option (Bool × Unit × Unit × Unit × Unit × Unit) :=
  bif decide ((v_t2.length : Int) > 90) then
    (sparselaw13_awake m).bind fun y1 =>
    some (y1.1, ((), (), (), (), ()))
  else
    (sparselaw13_made m v_rows v_t1 v_t2).bind fun y2 =>
    (matching_Maximum m y2.1.1 y2.1.2.1 y2.1.2.2.1 y2.1.2.2.2.1 y2.1.2.2.2.2.1).bind fun y3 =>
    bif y3.1.2.1 != 0 then
      some (false, ((), (), (), (), ()))
    else
      bif (y3.1.1.length : Int) != y2.1.2.1 then
        some (false, ((), (), (), (), ()))
      else
        if (0 : Int) ≤ y2.1.1 ∧ y2.1.1 ≤ y2.1.1 ∧ y2.1.1 ≤ 1073741824 then
        (sparselaw13_MatchingGreatest_L0 m m v_t3 y2.1.1 y2.1.2.1 y2.1.2.2.1 y2.1.2.2.2.1 y2.1.2.2.2.2.1 y3.1.1 (List.replicate y2.1.1.toNat false) 0 0).bind fun y4 =>
        match y4 with
        | .inl z5 =>
          (sparselaw13_size m z5.1).bind fun y6 =>
          bif decide (z5.2.1 ≤ y6.1) then
            (sparselaw13_awake m).bind fun y7 =>
            some (y7.1, ((), (), (), (), ()))
          else
            some (false, ((), (), (), (), ()))
        | .inr e =>
          e.elim
        else none
/-! 42 sparse/matrix.entries -/
def matrix_entries_L1 (m : Nat) : Nat → Int → Int → List Int → List Int → List Int → (List (Int × Int × Int)) → Int → Int → Int → Int → Option (((Int × Int × List Int × List Int × List Int × Unit) × (List (Int × Int × Int)) × Int × Int × Unit) ⊕ Empty)
  | 0, _, _, _, _, _, _, _, _, _, _ => none
  | n + 1, v_m_0, v_m_1, v_m_2, v_m_3, v_m_4, v_out, v_j, v_k, v_t7, v_t8 =>
    if (0 : Int) ≤ (w_i64 (v_j + 1)) ∧ (w_i64 (v_j + 1)) < (v_m_2.length : Int) then
    bif decide (v_k < (v_m_2.getD (w_i64 (v_j + 1)).toNat 0)) then
      if (0 : Int) ≤ v_k ∧ v_k < (v_m_3.length : Int) then
      if (0 : Int) ≤ v_k ∧ v_k < (v_m_4.length : Int) then
      if v_out.length + ([(v_m_3.getD v_k.toNat 0, (v_j, v_m_4.getD v_k.toNat 0))] : List (Int × Int × Int)).length ≤ 1073741824 then
      matrix_entries_L1 m n v_m_0 v_m_1 v_m_2 v_m_3 v_m_4 (v_out ++ ([(v_m_3.getD v_k.toNat 0, (v_j, v_m_4.getD v_k.toNat 0))] : List (Int × Int × Int))) v_j (w_i64 (v_k + 1)) v_t7 v_t8
      else none
      else none
      else none
    else
      some (.inl ((v_m_0, v_m_1, v_m_2, v_m_3, v_m_4, ()), v_out, v_t7, v_t8, ()))
    else none
def matrix_entries_L0 (m : Nat) : Nat → Int → Int → List Int → List Int → List Int → (List (Int × Int × Int)) → Int → Int → Option (((List (Int × Int × Int)) × Unit) ⊕ Empty)
  | 0, _, _, _, _, _, _, _, _ => none
  | n + 1, v_m_0, v_m_1, v_m_2, v_m_3, v_m_4, v_out, v_t7, v_t8 =>
    bif decide (v_t8 < v_t7) then
      if (0 : Int) ≤ v_t8 ∧ v_t8 < (v_m_2.length : Int) then
      (matrix_entries_L1 m m v_m_0 v_m_1 v_m_2 v_m_3 v_m_4 v_out v_t8 (v_m_2.getD v_t8.toNat 0) v_t7 v_t8).bind fun y1 =>
      match y1 with
      | .inl z2 =>
        matrix_entries_L0 m n z2.1.1 z2.1.2.1 z2.1.2.2.1 z2.1.2.2.2.1 z2.1.2.2.2.2.1 z2.2.1 z2.2.2.1 (w_i64 (z2.2.2.2.1 + 1))
      | .inr e =>
        e.elim
      else none
    else
      some (.inl (v_out, ()))
def matrix_entries (m : Nat) (v_m_0 : Int) (v_m_1 : Int) (v_m_2 : List Int) (v_m_3 : List Int) (v_m_4 : List Int) : Option ((List (Int × Int × Int)) × Unit × Unit) :=
  (matrix_entries_L0 m m v_m_0 v_m_1 v_m_2 v_m_3 v_m_4 ([] : List (Int × Int × Int)) v_m_1 0).bind fun y1 =>
  match y1 with
  | .inl z2 =>
    some (z2.1, ((), ()))
  | .inr e =>
    e.elim
/-! 73 slices.Clone___sparse/api.Entry_sparse/api.Entry_ -/
def slices_Clone (m : Nat) (v_s : List (Int × Int × Int)) : Option (List (Int × Int × Int) × Unit × Unit) :=
  if ([] : List (Int × Int × Int)).length + v_s.length ≤ 1073741824 then some (v_s, ((), ())) else none
/-! 77 cmp.Compare_int_ -/
def cmp_Compare (m : Nat) (v_x : Int) (v_y : Int) : Option (Int × Unit × Unit × Unit) :=
  (cmp_isNaN m v_x).bind fun y1 =>
  (cmp_isNaN m v_y).bind fun y2 =>
  bif y1.1 then
    bif y2.1 then
      some (0, ((), (), ()))
    else
      some ((-1), ((), (), ()))
  else
    bif y2.1 then
      some (1, ((), (), ()))
    else
      bif decide (v_x < v_y) then
        some ((-1), ((), (), ()))
      else
        bif decide (v_x > v_y) then
          some (1, ((), (), ()))
        else
          some (0, ((), (), ()))
/-! 76 cmp.Or_int_ -/
def cmp_Or_L0 (m : Nat) : Nat → Int → List Int → Int → Int → Option ((Int × Unit) ⊕ (Int × Unit) ⊕ Empty)
  | 0, _, _, _, _ => none
  | n + 1, v_zero, v_t6, v_t7, v_t8 =>
    bif decide (v_t8 < v_t7) then
      if (0 : Int) ≤ v_t8 ∧ v_t8 < (v_t6.length : Int) then
      bif (v_t6.getD v_t8.toNat 0) != v_zero then
        some (.inl (v_t6.getD v_t8.toNat 0, ()))
      else
        cmp_Or_L0 m n v_zero v_t6 v_t7 (w_i64 (v_t8 + 1))
      else none
    else
      some (.inr (.inl (v_zero, ())))
def cmp_Or (m : Nat) (v_vals : List Int) : Option (Int × Unit × Unit) :=
  (cmp_Or_L0 m m 0 v_vals (v_vals.length : Int) 0).bind fun y1 =>
  match y1 with
  | .inl z2 =>
    some (z2.1, ((), ()))
  | .inr (.inl z3) =>
    some (z3.1, ((), ()))
  | .inr (.inr e) =>
    e.elim
/-! 75 sparse/matrix.sorted_1 -/
def matrix_sorted_1 (m : Nat) (v_a_0 : Int) (v_a_1 : Int) (v_a_2 : Int) (v_b_0 : Int) (v_b_1 : Int) (v_b_2 : Int) : Option (Int × Unit × Unit × Unit) :=
  (cmp_Compare m v_a_1 v_b_1).bind fun y1 =>
  (cmp_Compare m v_a_0 v_b_0).bind fun y2 =>
  (cmp_Or m ([y1.1, y2.1] : List Int)).bind fun y3 =>
  some (y3.1, ((), (), ()))
/-! 100 slices.insertionSortCmpFunc_sparse/api.Entry_ -/
def slices_insertionSortCmpFunc_L1 (m : Nat) : Nat → (List (Int × Int × Int)) → Int → Int → Int → Int → Option (((List (Int × Int × Int)) × Int × Int × Unit × Int × Unit) ⊕ Empty)
  | 0, _, _, _, _, _ => none
  | n + 1, v_data, v_a, v_b, v_i, v_j =>
    bif decide (v_j > v_a) then
      if (0 : Int) ≤ v_j ∧ v_j < (v_data.length : Int) then
      if (0 : Int) ≤ (w_i64 (v_j - 1)) ∧ (w_i64 (v_j - 1)) < (v_data.length : Int) then
      (matrix_sorted_1 m (v_data.getD (0 + v_j.toNat) (0, (0, 0))).1 (v_data.getD (0 + v_j.toNat) (0, (0, 0))).2.1 (v_data.getD (0 + v_j.toNat) (0, (0, 0))).2.2 (v_data.getD (0 + (w_i64 (v_j - 1)).toNat) (0, (0, 0))).1 (v_data.getD (0 + (w_i64 (v_j - 1)).toNat) (0, (0, 0))).2.1 (v_data.getD (0 + (w_i64 (v_j - 1)).toNat) (0, (0, 0))).2.2).bind fun y1 =>
      bif decide (y1.1 < 0) then
        if (0 : Int) ≤ (w_i64 (v_j - 1)) ∧ (w_i64 (v_j - 1)) < (v_data.length : Int) then
        if (0 : Int) ≤ v_j ∧ v_j < (v_data.length : Int) then
        if (0 : Int) ≤ v_j ∧ v_j < (v_data.length : Int) then
        if (0 : Int) ≤ (w_i64 (v_j - 1)) ∧ (w_i64 (v_j - 1)) < ((v_data.set (0 + v_j.toNat) ((v_data.getD (0 + (w_i64 (v_j - 1)).toNat) (0, (0, 0))).1, ((v_data.getD (0 + (w_i64 (v_j - 1)).toNat) (0, (0, 0))).2.1, (v_data.getD (0 + (w_i64 (v_j - 1)).toNat) (0, (0, 0))).2.2))).length : Int) then
        slices_insertionSortCmpFunc_L1 m n ((v_data.set (0 + v_j.toNat) ((v_data.getD (0 + (w_i64 (v_j - 1)).toNat) (0, (0, 0))).1, ((v_data.getD (0 + (w_i64 (v_j - 1)).toNat) (0, (0, 0))).2.1, (v_data.getD (0 + (w_i64 (v_j - 1)).toNat) (0, (0, 0))).2.2))).set (0 + (w_i64 (v_j - 1)).toNat) ((v_data.getD (0 + v_j.toNat) (0, (0, 0))).1, ((v_data.getD (0 + v_j.toNat) (0, (0, 0))).2.1, (v_data.getD (0 + v_j.toNat) (0, (0, 0))).2.2))) v_a v_b v_i (w_i64 (v_j - 1))
        else none
        else none
        else none
        else none
      else
        some (.inl (v_data, v_a, v_b, (), v_i, ()))
      else none
      else none
    else
      some (.inl (v_data, v_a, v_b, (), v_i, ()))
def slices_insertionSortCmpFunc_L0 (m : Nat) : Nat → (List (Int × Int × Int)) → Int → Int → Int → Option (((List (Int × Int × Int)) × Unit) ⊕ Empty)
  | 0, _, _, _, _ => none
  | n + 1, v_data, v_a, v_b, v_i =>
    bif decide (v_i < v_b) then
      (slices_insertionSortCmpFunc_L1 m m v_data v_a v_b v_i v_i).bind fun y1 =>
      match y1 with
      | .inl z2 =>
        slices_insertionSortCmpFunc_L0 m n z2.1 z2.2.1 z2.2.2.1 (w_i64 (z2.2.2.2.2.1 + 1))
      | .inr e =>
        e.elim
    else
      some (.inl (v_data, ()))
def slices_insertionSortCmpFunc (m : Nat) (v_data : List (Int × Int × Int)) (v_a : Int) (v_b : Int) : Option (Unit × (List (Int × Int × Int)) × Unit × Unit × Unit × Unit) :=
  (slices_insertionSortCmpFunc_L0 m m v_data v_a v_b (w_i64 (v_a + 1))).bind fun y1 =>
  match y1 with
  | .inl z2 =>
    some ((), (z2.1, (), (), (), ()))
  | .inr e =>
    e.elim
/-! 107 slices.swapRangeCmpFunc_sparse/api.Entry_ -/
def slices_swapRangeCmpFunc_L0 (m : Nat) : Nat → (List (Int × Int × Int)) → Int → Int → Int → Int → Option (((List (Int × Int × Int)) × Unit) ⊕ Empty)
  | 0, _, _, _, _, _ => none
  | n + 1, v_data, v_a, v_b, v_n, v_i =>
    bif decide (v_i < v_n) then
      if (0 : Int) ≤ (w_i64 (v_b + v_i)) ∧ (w_i64 (v_b + v_i)) < (v_data.length : Int) then
      if (0 : Int) ≤ (w_i64 (v_a + v_i)) ∧ (w_i64 (v_a + v_i)) < (v_data.length : Int) then
      if (0 : Int) ≤ (w_i64 (v_a + v_i)) ∧ (w_i64 (v_a + v_i)) < (v_data.length : Int) then
      if (0 : Int) ≤ (w_i64 (v_b + v_i)) ∧ (w_i64 (v_b + v_i)) < ((v_data.set (0 + (w_i64 (v_a + v_i)).toNat) ((v_data.getD (0 + (w_i64 (v_b + v_i)).toNat) (0, (0, 0))).1, ((v_data.getD (0 + (w_i64 (v_b + v_i)).toNat) (0, (0, 0))).2.1, (v_data.getD (0 + (w_i64 (v_b + v_i)).toNat) (0, (0, 0))).2.2))).length : Int) then
      slices_swapRangeCmpFunc_L0 m n ((v_data.set (0 + (w_i64 (v_a + v_i)).toNat) ((v_data.getD (0 + (w_i64 (v_b + v_i)).toNat) (0, (0, 0))).1, ((v_data.getD (0 + (w_i64 (v_b + v_i)).toNat) (0, (0, 0))).2.1, (v_data.getD (0 + (w_i64 (v_b + v_i)).toNat) (0, (0, 0))).2.2))).set (0 + (w_i64 (v_b + v_i)).toNat) ((v_data.getD (0 + (w_i64 (v_a + v_i)).toNat) (0, (0, 0))).1, ((v_data.getD (0 + (w_i64 (v_a + v_i)).toNat) (0, (0, 0))).2.1, (v_data.getD (0 + (w_i64 (v_a + v_i)).toNat) (0, (0, 0))).2.2))) v_a v_b v_n (w_i64 (v_i + 1))
      else none
      else none
      else none
      else none
    else
      some (.inl (v_data, ()))
def slices_swapRangeCmpFunc (m : Nat) (v_data : List (Int × Int × Int)) (v_a : Int) (v_b : Int) (v_n : Int) : Option (Unit × (List (Int × Int × Int)) × Unit × Unit × Unit × Unit × Unit) :=
  (slices_swapRangeCmpFunc_L0 m m v_data v_a v_b v_n 0).bind fun y1 =>
  match y1 with
  | .inl z2 =>
    some ((), (z2.1, (), (), (), (), ()))
  | .inr e =>
    e.elim
/-! 106 slices.rotateCmpFunc_sparse/api.Entry_ -/
def slices_rotateCmpFunc_L0 (m : Nat) : Nat → (List (Int × Int × Int)) → Int → Int → Int → Option (((List (Int × Int × Int)) × Int × Unit × Int × Unit) ⊕ Empty)
  | 0, _, _, _, _ => none
  | n + 1, v_data, v_m, v_i, v_j =>
    bif v_i != v_j then
      bif decide (v_i > v_j) then
        (slices_swapRangeCmpFunc m v_data (w_i64 (v_m - v_i)) v_m v_j).bind fun y1 =>
        slices_rotateCmpFunc_L0 m n y1.2.1 v_m (w_i64 (v_i - v_j)) v_j
      else
        (slices_swapRangeCmpFunc m v_data (w_i64 (v_m - v_i)) (w_i64 ((w_i64 (v_m + v_j)) - v_i)) v_i).bind fun y2 =>
        slices_rotateCmpFunc_L0 m n y2.2.1 v_m v_i (w_i64 (v_j - v_i))
    else
      some (.inl (v_data, v_m, (), v_i, ()))
def slices_rotateCmpFunc (m : Nat) (v_data : List (Int × Int × Int)) (v_a : Int) (v_m : Int) (v_b : Int) : Option (Unit × (List (Int × Int × Int)) × Unit × Unit × Unit × Unit × Unit) :=
  (slices_rotateCmpFunc_L0 m m v_data v_m (w_i64 (v_m - v_a)) (w_i64 (v_b - v_m))).bind fun y1 =>
  match y1 with
  | .inl z2 =>
    (slices_swapRangeCmpFunc m z2.1 (w_i64 (z2.2.1 - z2.2.2.2.1)) z2.2.1 z2.2.2.2.1).bind fun y3 =>
    some ((), (y3.2.1, (), (), (), (), ()))
  | .inr e =>
    e.elim
/-! 101 slices.symMergeCmpFunc_sparse/api.Entry_ -/
def slices_symMergeCmpFunc_L4 (self : (List (Int × Int × Int)) → Int → Int → Int → Option (Unit × (List (Int × Int × Int)) × Unit × Unit × Unit × Unit × Unit)) (m : Nat) : Nat → (List (Int × Int × Int)) → Int → Int → Int → Int → Int → Int → Int → Int → Option (((List (Int × Int × Int)) × Int × Int × Int × Unit × Int × Int × Int × Unit) ⊕ Empty)
  | 0, _, _, _, _, _, _, _, _, _ => none
  | n + 1, v_data, v_t1, v_t2, v_t3, v_t18, v_t19, v_t20, v_t21, v_t22 =>
    bif decide (v_t20 < v_t21) then
      if (0 : Int) ≤ (w_i64 (v_t22 - (w_i64 (shr_ .u64 (w_u64 (w_i64 (v_t20 + v_t21))) 1)))) ∧ (w_i64 (v_t22 - (w_i64 (shr_ .u64 (w_u64 (w_i64 (v_t20 + v_t21))) 1)))) < (v_data.length : Int) then
      if (0 : Int) ≤ (w_i64 (shr_ .u64 (w_u64 (w_i64 (v_t20 + v_t21))) 1)) ∧ (w_i64 (shr_ .u64 (w_u64 (w_i64 (v_t20 + v_t21))) 1)) < (v_data.length : Int) then
      (matrix_sorted_1 m (v_data.getD (0 + (w_i64 (v_t22 - (w_i64 (shr_ .u64 (w_u64 (w_i64 (v_t20 + v_t21))) 1)))).toNat) (0, (0, 0))).1 (v_data.getD (0 + (w_i64 (v_t22 - (w_i64 (shr_ .u64 (w_u64 (w_i64 (v_t20 + v_t21))) 1)))).toNat) (0, (0, 0))).2.1 (v_data.getD (0 + (w_i64 (v_t22 - (w_i64 (shr_ .u64 (w_u64 (w_i64 (v_t20 + v_t21))) 1)))).toNat) (0, (0, 0))).2.2 (v_data.getD (0 + (w_i64 (shr_ .u64 (w_u64 (w_i64 (v_t20 + v_t21))) 1)).toNat) (0, (0, 0))).1 (v_data.getD (0 + (w_i64 (shr_ .u64 (w_u64 (w_i64 (v_t20 + v_t21))) 1)).toNat) (0, (0, 0))).2.1 (v_data.getD (0 + (w_i64 (shr_ .u64 (w_u64 (w_i64 (v_t20 + v_t21))) 1)).toNat) (0, (0, 0))).2.2).bind fun y1 =>
      bif !(decide (y1.1 < 0)) then
        slices_symMergeCmpFunc_L4 self m n v_data v_t1 v_t2 v_t3 v_t18 v_t19 (w_i64 ((w_i64 (shr_ .u64 (w_u64 (w_i64 (v_t20 + v_t21))) 1)) + 1)) v_t21 v_t22
      else
        slices_symMergeCmpFunc_L4 self m n v_data v_t1 v_t2 v_t3 v_t18 v_t19 v_t20 (w_i64 (shr_ .u64 (w_u64 (w_i64 (v_t20 + v_t21))) 1)) v_t22
      else none
      else none
    else
      some (.inl (v_data, v_t1, v_t2, v_t3, (), v_t18, v_t19, v_t20, ()))
def slices_symMergeCmpFunc_L3 (self : (List (Int × Int × Int)) → Int → Int → Int → Option (Unit × (List (Int × Int × Int)) × Unit × Unit × Unit × Unit × Unit)) (m : Nat) : Nat → (List (Int × Int × Int)) → Int → Int → Option (((List (Int × Int × Int)) × Unit) ⊕ Empty)
  | 0, _, _, _ => none
  | n + 1, v_data, v_t14, v_t17 =>
    bif decide (v_t17 > v_t14) then
      if (0 : Int) ≤ (w_i64 (v_t17 - 1)) ∧ (w_i64 (v_t17 - 1)) < (v_data.length : Int) then
      if (0 : Int) ≤ v_t17 ∧ v_t17 < (v_data.length : Int) then
      if (0 : Int) ≤ v_t17 ∧ v_t17 < (v_data.length : Int) then
      if (0 : Int) ≤ (w_i64 (v_t17 - 1)) ∧ (w_i64 (v_t17 - 1)) < ((v_data.set (0 + v_t17.toNat) ((v_data.getD (0 + (w_i64 (v_t17 - 1)).toNat) (0, (0, 0))).1, ((v_data.getD (0 + (w_i64 (v_t17 - 1)).toNat) (0, (0, 0))).2.1, (v_data.getD (0 + (w_i64 (v_t17 - 1)).toNat) (0, (0, 0))).2.2))).length : Int) then
      slices_symMergeCmpFunc_L3 self m n ((v_data.set (0 + v_t17.toNat) ((v_data.getD (0 + (w_i64 (v_t17 - 1)).toNat) (0, (0, 0))).1, ((v_data.getD (0 + (w_i64 (v_t17 - 1)).toNat) (0, (0, 0))).2.1, (v_data.getD (0 + (w_i64 (v_t17 - 1)).toNat) (0, (0, 0))).2.2))).set (0 + (w_i64 (v_t17 - 1)).toNat) ((v_data.getD (0 + v_t17.toNat) (0, (0, 0))).1, ((v_data.getD (0 + v_t17.toNat) (0, (0, 0))).2.1, (v_data.getD (0 + v_t17.toNat) (0, (0, 0))).2.2))) v_t14 (w_i64 (v_t17 - 1))
      else none
      else none
      else none
      else none
    else
      some (.inl (v_data, ()))
def slices_symMergeCmpFunc_L2 (self : (List (Int × Int × Int)) → Int → Int → Int → Option (Unit × (List (Int × Int × Int)) × Unit × Unit × Unit × Unit × Unit)) (m : Nat) : Nat → (List (Int × Int × Int)) → Int → Int → Int → Option (((List (Int × Int × Int)) × Int × Int × Unit) ⊕ Empty)
  | 0, _, _, _, _ => none
  | n + 1, v_data, v_t2, v_t14, v_t15 =>
    bif decide (v_t14 < v_t15) then
      if (0 : Int) ≤ v_t2 ∧ v_t2 < (v_data.length : Int) then
      if (0 : Int) ≤ (w_i64 (shr_ .u64 (w_u64 (w_i64 (v_t14 + v_t15))) 1)) ∧ (w_i64 (shr_ .u64 (w_u64 (w_i64 (v_t14 + v_t15))) 1)) < (v_data.length : Int) then
      (matrix_sorted_1 m (v_data.getD (0 + v_t2.toNat) (0, (0, 0))).1 (v_data.getD (0 + v_t2.toNat) (0, (0, 0))).2.1 (v_data.getD (0 + v_t2.toNat) (0, (0, 0))).2.2 (v_data.getD (0 + (w_i64 (shr_ .u64 (w_u64 (w_i64 (v_t14 + v_t15))) 1)).toNat) (0, (0, 0))).1 (v_data.getD (0 + (w_i64 (shr_ .u64 (w_u64 (w_i64 (v_t14 + v_t15))) 1)).toNat) (0, (0, 0))).2.1 (v_data.getD (0 + (w_i64 (shr_ .u64 (w_u64 (w_i64 (v_t14 + v_t15))) 1)).toNat) (0, (0, 0))).2.2).bind fun y1 =>
      bif !(decide (y1.1 < 0)) then
        slices_symMergeCmpFunc_L2 self m n v_data v_t2 (w_i64 ((w_i64 (shr_ .u64 (w_u64 (w_i64 (v_t14 + v_t15))) 1)) + 1)) v_t15
      else
        slices_symMergeCmpFunc_L2 self m n v_data v_t2 v_t14 (w_i64 (shr_ .u64 (w_u64 (w_i64 (v_t14 + v_t15))) 1))
      else none
      else none
    else
      some (.inl (v_data, v_t2, v_t14, ()))
def slices_symMergeCmpFunc_L1 (self : (List (Int × Int × Int)) → Int → Int → Int → Option (Unit × (List (Int × Int × Int)) × Unit × Unit × Unit × Unit × Unit)) (m : Nat) : Nat → (List (Int × Int × Int)) → Int → Int → Option (((List (Int × Int × Int)) × Unit) ⊕ Empty)
  | 0, _, _, _ => none
  | n + 1, v_data, v_t10, v_t13 =>
    bif decide (v_t13 < (w_i64 (v_t10 - 1))) then
      if (0 : Int) ≤ (w_i64 (v_t13 + 1)) ∧ (w_i64 (v_t13 + 1)) < (v_data.length : Int) then
      if (0 : Int) ≤ v_t13 ∧ v_t13 < (v_data.length : Int) then
      if (0 : Int) ≤ v_t13 ∧ v_t13 < (v_data.length : Int) then
      if (0 : Int) ≤ (w_i64 (v_t13 + 1)) ∧ (w_i64 (v_t13 + 1)) < ((v_data.set (0 + v_t13.toNat) ((v_data.getD (0 + (w_i64 (v_t13 + 1)).toNat) (0, (0, 0))).1, ((v_data.getD (0 + (w_i64 (v_t13 + 1)).toNat) (0, (0, 0))).2.1, (v_data.getD (0 + (w_i64 (v_t13 + 1)).toNat) (0, (0, 0))).2.2))).length : Int) then
      slices_symMergeCmpFunc_L1 self m n ((v_data.set (0 + v_t13.toNat) ((v_data.getD (0 + (w_i64 (v_t13 + 1)).toNat) (0, (0, 0))).1, ((v_data.getD (0 + (w_i64 (v_t13 + 1)).toNat) (0, (0, 0))).2.1, (v_data.getD (0 + (w_i64 (v_t13 + 1)).toNat) (0, (0, 0))).2.2))).set (0 + (w_i64 (v_t13 + 1)).toNat) ((v_data.getD (0 + v_t13.toNat) (0, (0, 0))).1, ((v_data.getD (0 + v_t13.toNat) (0, (0, 0))).2.1, (v_data.getD (0 + v_t13.toNat) (0, (0, 0))).2.2))) v_t10 (w_i64 (v_t13 + 1))
      else none
      else none
      else none
      else none
    else
      some (.inl (v_data, ()))
def slices_symMergeCmpFunc_L0 (self : (List (Int × Int × Int)) → Int → Int → Int → Option (Unit × (List (Int × Int × Int)) × Unit × Unit × Unit × Unit × Unit)) (m : Nat) : Nat → (List (Int × Int × Int)) → Int → Int → Int → Option (((List (Int × Int × Int)) × Int × Int × Unit) ⊕ Empty)
  | 0, _, _, _, _ => none
  | n + 1, v_data, v_t1, v_t10, v_t11 =>
    bif decide (v_t10 < v_t11) then
      if (0 : Int) ≤ (w_i64 (shr_ .u64 (w_u64 (w_i64 (v_t10 + v_t11))) 1)) ∧ (w_i64 (shr_ .u64 (w_u64 (w_i64 (v_t10 + v_t11))) 1)) < (v_data.length : Int) then
      if (0 : Int) ≤ v_t1 ∧ v_t1 < (v_data.length : Int) then
      (matrix_sorted_1 m (v_data.getD (0 + (w_i64 (shr_ .u64 (w_u64 (w_i64 (v_t10 + v_t11))) 1)).toNat) (0, (0, 0))).1 (v_data.getD (0 + (w_i64 (shr_ .u64 (w_u64 (w_i64 (v_t10 + v_t11))) 1)).toNat) (0, (0, 0))).2.1 (v_data.getD (0 + (w_i64 (shr_ .u64 (w_u64 (w_i64 (v_t10 + v_t11))) 1)).toNat) (0, (0, 0))).2.2 (v_data.getD (0 + v_t1.toNat) (0, (0, 0))).1 (v_data.getD (0 + v_t1.toNat) (0, (0, 0))).2.1 (v_data.getD (0 + v_t1.toNat) (0, (0, 0))).2.2).bind fun y1 =>
      bif decide (y1.1 < 0) then
        slices_symMergeCmpFunc_L0 self m n v_data v_t1 (w_i64 ((w_i64 (shr_ .u64 (w_u64 (w_i64 (v_t10 + v_t11))) 1)) + 1)) v_t11
      else
        slices_symMergeCmpFunc_L0 self m n v_data v_t1 v_t10 (w_i64 (shr_ .u64 (w_u64 (w_i64 (v_t10 + v_t11))) 1))
      else none
      else none
    else
      some (.inl (v_data, v_t1, v_t10, ()))
def slices_symMergeCmpFunc : Nat → (List (Int × Int × Int)) → Int → Int → Int → Option (Unit × (List (Int × Int × Int)) × Unit × Unit × Unit × Unit × Unit)
  | 0, _, _, _, _ => none
  | m + 1, v_data, v_t1, v_t2, v_t3 =>
    bif (w_i64 (v_t2 - v_t1)) == 1 then
      (slices_symMergeCmpFunc_L0 (fun a0 a1 a2 a3 => slices_symMergeCmpFunc m a0 a1 a2 a3) m m v_data v_t1 v_t2 v_t3).bind fun y1 =>
      match y1 with
      | .inl z2 =>
        (slices_symMergeCmpFunc_L1 (fun a0 a1 a2 a3 => slices_symMergeCmpFunc m a0 a1 a2 a3) m m z2.1 z2.2.2.1 z2.2.1).bind fun y3 =>
        match y3 with
        | .inl z4 =>
          some ((), (z4.1, (), (), (), (), ()))
        | .inr e =>
          e.elim
      | .inr e =>
        e.elim
    else
      bif (w_i64 (v_t3 - v_t2)) == 1 then
        (slices_symMergeCmpFunc_L2 (fun a0 a1 a2 a3 => slices_symMergeCmpFunc m a0 a1 a2 a3) m m v_data v_t2 v_t1 v_t2).bind fun y5 =>
        match y5 with
        | .inl z6 =>
          (slices_symMergeCmpFunc_L3 (fun a0 a1 a2 a3 => slices_symMergeCmpFunc m a0 a1 a2 a3) m m z6.1 z6.2.2.1 z6.2.1).bind fun y7 =>
          match y7 with
          | .inl z8 =>
            some ((), (z8.1, (), (), (), (), ()))
          | .inr e =>
            e.elim
        | .inr e =>
          e.elim
      else
        bif decide (v_t2 > (w_i64 (shr_ .u64 (w_u64 (w_i64 (v_t1 + v_t3))) 1))) then
          (slices_symMergeCmpFunc_L4 (fun a0 a1 a2 a3 => slices_symMergeCmpFunc m a0 a1 a2 a3) m m v_data v_t1 v_t2 v_t3 (w_i64 (shr_ .u64 (w_u64 (w_i64 (v_t1 + v_t3))) 1)) (w_i64 ((w_i64 (shr_ .u64 (w_u64 (w_i64 (v_t1 + v_t3))) 1)) + v_t2)) (w_i64 ((w_i64 ((w_i64 (shr_ .u64 (w_u64 (w_i64 (v_t1 + v_t3))) 1)) + v_t2)) - v_t3)) (w_i64 (shr_ .u64 (w_u64 (w_i64 (v_t1 + v_t3))) 1)) (w_i64 ((w_i64 ((w_i64 (shr_ .u64 (w_u64 (w_i64 (v_t1 + v_t3))) 1)) + v_t2)) - 1))).bind fun y9 =>
          match y9 with
          | .inl z10 =>
            bif decide (z10.2.2.2.2.2.2.2.1 < z10.2.2.1) then
              bif decide (z10.2.2.1 < (w_i64 (z10.2.2.2.2.2.2.1 - z10.2.2.2.2.2.2.2.1))) then
                (slices_rotateCmpFunc m z10.1 z10.2.2.2.2.2.2.2.1 z10.2.2.1 (w_i64 (z10.2.2.2.2.2.2.1 - z10.2.2.2.2.2.2.2.1))).bind fun y11 =>
                bif decide (z10.2.1 < z10.2.2.2.2.2.2.2.1) then
                  bif decide (z10.2.2.2.2.2.2.2.1 < z10.2.2.2.2.2.1) then
                    (slices_symMergeCmpFunc m y11.2.1 z10.2.1 z10.2.2.2.2.2.2.2.1 z10.2.2.2.2.2.1).bind fun y12 =>
                    bif decide (z10.2.2.2.2.2.1 < (w_i64 (z10.2.2.2.2.2.2.1 - z10.2.2.2.2.2.2.2.1))) then
                      bif decide ((w_i64 (z10.2.2.2.2.2.2.1 - z10.2.2.2.2.2.2.2.1)) < z10.2.2.2.1) then
                        (slices_symMergeCmpFunc m y12.2.1 z10.2.2.2.2.2.1 (w_i64 (z10.2.2.2.2.2.2.1 - z10.2.2.2.2.2.2.2.1)) z10.2.2.2.1).bind fun y13 =>
                        some ((), (y13.2.1, (), (), (), (), ()))
                      else
                        some ((), (y12.2.1, (), (), (), (), ()))
                    else
                      some ((), (y12.2.1, (), (), (), (), ()))
                  else
                    bif decide (z10.2.2.2.2.2.1 < (w_i64 (z10.2.2.2.2.2.2.1 - z10.2.2.2.2.2.2.2.1))) then
                      bif decide ((w_i64 (z10.2.2.2.2.2.2.1 - z10.2.2.2.2.2.2.2.1)) < z10.2.2.2.1) then
                        (slices_symMergeCmpFunc m y11.2.1 z10.2.2.2.2.2.1 (w_i64 (z10.2.2.2.2.2.2.1 - z10.2.2.2.2.2.2.2.1)) z10.2.2.2.1).bind fun y14 =>
                        some ((), (y14.2.1, (), (), (), (), ()))
                      else
                        some ((), (y11.2.1, (), (), (), (), ()))
                    else
                      some ((), (y11.2.1, (), (), (), (), ()))
                else
                  bif decide (z10.2.2.2.2.2.1 < (w_i64 (z10.2.2.2.2.2.2.1 - z10.2.2.2.2.2.2.2.1))) then
                    bif decide ((w_i64 (z10.2.2.2.2.2.2.1 - z10.2.2.2.2.2.2.2.1)) < z10.2.2.2.1) then
                      (slices_symMergeCmpFunc m y11.2.1 z10.2.2.2.2.2.1 (w_i64 (z10.2.2.2.2.2.2.1 - z10.2.2.2.2.2.2.2.1)) z10.2.2.2.1).bind fun y15 =>
                      some ((), (y15.2.1, (), (), (), (), ()))
                    else
                      some ((), (y11.2.1, (), (), (), (), ()))
                  else
                    some ((), (y11.2.1, (), (), (), (), ()))
              else
                bif decide (z10.2.1 < z10.2.2.2.2.2.2.2.1) then
                  bif decide (z10.2.2.2.2.2.2.2.1 < z10.2.2.2.2.2.1) then
                    (slices_symMergeCmpFunc m z10.1 z10.2.1 z10.2.2.2.2.2.2.2.1 z10.2.2.2.2.2.1).bind fun y16 =>
                    bif decide (z10.2.2.2.2.2.1 < (w_i64 (z10.2.2.2.2.2.2.1 - z10.2.2.2.2.2.2.2.1))) then
                      bif decide ((w_i64 (z10.2.2.2.2.2.2.1 - z10.2.2.2.2.2.2.2.1)) < z10.2.2.2.1) then
                        (slices_symMergeCmpFunc m y16.2.1 z10.2.2.2.2.2.1 (w_i64 (z10.2.2.2.2.2.2.1 - z10.2.2.2.2.2.2.2.1)) z10.2.2.2.1).bind fun y17 =>
                        some ((), (y17.2.1, (), (), (), (), ()))
                      else
                        some ((), (y16.2.1, (), (), (), (), ()))
                    else
                      some ((), (y16.2.1, (), (), (), (), ()))
                  else
                    bif decide (z10.2.2.2.2.2.1 < (w_i64 (z10.2.2.2.2.2.2.1 - z10.2.2.2.2.2.2.2.1))) then
                      bif decide ((w_i64 (z10.2.2.2.2.2.2.1 - z10.2.2.2.2.2.2.2.1)) < z10.2.2.2.1) then
                        (slices_symMergeCmpFunc m z10.1 z10.2.2.2.2.2.1 (w_i64 (z10.2.2.2.2.2.2.1 - z10.2.2.2.2.2.2.2.1)) z10.2.2.2.1).bind fun y18 =>
                        some ((), (y18.2.1, (), (), (), (), ()))
                      else
                        some ((), (z10.1, (), (), (), (), ()))
                    else
                      some ((), (z10.1, (), (), (), (), ()))
                else
                  bif decide (z10.2.2.2.2.2.1 < (w_i64 (z10.2.2.2.2.2.2.1 - z10.2.2.2.2.2.2.2.1))) then
                    bif decide ((w_i64 (z10.2.2.2.2.2.2.1 - z10.2.2.2.2.2.2.2.1)) < z10.2.2.2.1) then
                      (slices_symMergeCmpFunc m z10.1 z10.2.2.2.2.2.1 (w_i64 (z10.2.2.2.2.2.2.1 - z10.2.2.2.2.2.2.2.1)) z10.2.2.2.1).bind fun y19 =>
                      some ((), (y19.2.1, (), (), (), (), ()))
                    else
                      some ((), (z10.1, (), (), (), (), ()))
                  else
                    some ((), (z10.1, (), (), (), (), ()))
            else
              bif decide (z10.2.1 < z10.2.2.2.2.2.2.2.1) then
                bif decide (z10.2.2.2.2.2.2.2.1 < z10.2.2.2.2.2.1) then
                  (slices_symMergeCmpFunc m z10.1 z10.2.1 z10.2.2.2.2.2.2.2.1 z10.2.2.2.2.2.1).bind fun y20 =>
                  bif decide (z10.2.2.2.2.2.1 < (w_i64 (z10.2.2.2.2.2.2.1 - z10.2.2.2.2.2.2.2.1))) then
                    bif decide ((w_i64 (z10.2.2.2.2.2.2.1 - z10.2.2.2.2.2.2.2.1)) < z10.2.2.2.1) then
                      (slices_symMergeCmpFunc m y20.2.1 z10.2.2.2.2.2.1 (w_i64 (z10.2.2.2.2.2.2.1 - z10.2.2.2.2.2.2.2.1)) z10.2.2.2.1).bind fun y21 =>
                      some ((), (y21.2.1, (), (), (), (), ()))
                    else
                      some ((), (y20.2.1, (), (), (), (), ()))
                  else
                    some ((), (y20.2.1, (), (), (), (), ()))
                else
                  bif decide (z10.2.2.2.2.2.1 < (w_i64 (z10.2.2.2.2.2.2.1 - z10.2.2.2.2.2.2.2.1))) then
                    bif decide ((w_i64 (z10.2.2.2.2.2.2.1 - z10.2.2.2.2.2.2.2.1)) < z10.2.2.2.1) then
                      (slices_symMergeCmpFunc m z10.1 z10.2.2.2.2.2.1 (w_i64 (z10.2.2.2.2.2.2.1 - z10.2.2.2.2.2.2.2.1)) z10.2.2.2.1).bind fun y22 =>
                      some ((), (y22.2.1, (), (), (), (), ()))
                    else
                      some ((), (z10.1, (), (), (), (), ()))
                  else
                    some ((), (z10.1, (), (), (), (), ()))
              else
                bif decide (z10.2.2.2.2.2.1 < (w_i64 (z10.2.2.2.2.2.2.1 - z10.2.2.2.2.2.2.2.1))) then
                  bif decide ((w_i64 (z10.2.2.2.2.2.2.1 - z10.2.2.2.2.2.2.2.1)) < z10.2.2.2.1) then
                    (slices_symMergeCmpFunc m z10.1 z10.2.2.2.2.2.1 (w_i64 (z10.2.2.2.2.2.2.1 - z10.2.2.2.2.2.2.2.1)) z10.2.2.2.1).bind fun y23 =>
                    some ((), (y23.2.1, (), (), (), (), ()))
                  else
                    some ((), (z10.1, (), (), (), (), ()))
                else
                  some ((), (z10.1, (), (), (), (), ()))
          | .inr e =>
            e.elim
        else
          (slices_symMergeCmpFunc_L4 (fun a0 a1 a2 a3 => slices_symMergeCmpFunc m a0 a1 a2 a3) m m v_data v_t1 v_t2 v_t3 (w_i64 (shr_ .u64 (w_u64 (w_i64 (v_t1 + v_t3))) 1)) (w_i64 ((w_i64 (shr_ .u64 (w_u64 (w_i64 (v_t1 + v_t3))) 1)) + v_t2)) v_t1 v_t2 (w_i64 ((w_i64 ((w_i64 (shr_ .u64 (w_u64 (w_i64 (v_t1 + v_t3))) 1)) + v_t2)) - 1))).bind fun y24 =>
          match y24 with
          | .inl z25 =>
            bif decide (z25.2.2.2.2.2.2.2.1 < z25.2.2.1) then
              bif decide (z25.2.2.1 < (w_i64 (z25.2.2.2.2.2.2.1 - z25.2.2.2.2.2.2.2.1))) then
                (slices_rotateCmpFunc m z25.1 z25.2.2.2.2.2.2.2.1 z25.2.2.1 (w_i64 (z25.2.2.2.2.2.2.1 - z25.2.2.2.2.2.2.2.1))).bind fun y26 =>
                bif decide (z25.2.1 < z25.2.2.2.2.2.2.2.1) then
                  bif decide (z25.2.2.2.2.2.2.2.1 < z25.2.2.2.2.2.1) then
                    (slices_symMergeCmpFunc m y26.2.1 z25.2.1 z25.2.2.2.2.2.2.2.1 z25.2.2.2.2.2.1).bind fun y27 =>
                    bif decide (z25.2.2.2.2.2.1 < (w_i64 (z25.2.2.2.2.2.2.1 - z25.2.2.2.2.2.2.2.1))) then
                      bif decide ((w_i64 (z25.2.2.2.2.2.2.1 - z25.2.2.2.2.2.2.2.1)) < z25.2.2.2.1) then
                        (slices_symMergeCmpFunc m y27.2.1 z25.2.2.2.2.2.1 (w_i64 (z25.2.2.2.2.2.2.1 - z25.2.2.2.2.2.2.2.1)) z25.2.2.2.1).bind fun y28 =>
                        some ((), (y28.2.1, (), (), (), (), ()))
                      else
                        some ((), (y27.2.1, (), (), (), (), ()))
                    else
                      some ((), (y27.2.1, (), (), (), (), ()))
                  else
                    bif decide (z25.2.2.2.2.2.1 < (w_i64 (z25.2.2.2.2.2.2.1 - z25.2.2.2.2.2.2.2.1))) then
                      bif decide ((w_i64 (z25.2.2.2.2.2.2.1 - z25.2.2.2.2.2.2.2.1)) < z25.2.2.2.1) then
                        (slices_symMergeCmpFunc m y26.2.1 z25.2.2.2.2.2.1 (w_i64 (z25.2.2.2.2.2.2.1 - z25.2.2.2.2.2.2.2.1)) z25.2.2.2.1).bind fun y29 =>
                        some ((), (y29.2.1, (), (), (), (), ()))
                      else
                        some ((), (y26.2.1, (), (), (), (), ()))
                    else
                      some ((), (y26.2.1, (), (), (), (), ()))
                else
                  bif decide (z25.2.2.2.2.2.1 < (w_i64 (z25.2.2.2.2.2.2.1 - z25.2.2.2.2.2.2.2.1))) then
                    bif decide ((w_i64 (z25.2.2.2.2.2.2.1 - z25.2.2.2.2.2.2.2.1)) < z25.2.2.2.1) then
                      (slices_symMergeCmpFunc m y26.2.1 z25.2.2.2.2.2.1 (w_i64 (z25.2.2.2.2.2.2.1 - z25.2.2.2.2.2.2.2.1)) z25.2.2.2.1).bind fun y30 =>
                      some ((), (y30.2.1, (), (), (), (), ()))
                    else
                      some ((), (y26.2.1, (), (), (), (), ()))
                  else
                    some ((), (y26.2.1, (), (), (), (), ()))
              else
                bif decide (z25.2.1 < z25.2.2.2.2.2.2.2.1) then
                  bif decide (z25.2.2.2.2.2.2.2.1 < z25.2.2.2.2.2.1) then
                    (slices_symMergeCmpFunc m z25.1 z25.2.1 z25.2.2.2.2.2.2.2.1 z25.2.2.2.2.2.1).bind fun y31 =>
                    bif decide (z25.2.2.2.2.2.1 < (w_i64 (z25.2.2.2.2.2.2.1 - z25.2.2.2.2.2.2.2.1))) then
                      bif decide ((w_i64 (z25.2.2.2.2.2.2.1 - z25.2.2.2.2.2.2.2.1)) < z25.2.2.2.1) then
                        (slices_symMergeCmpFunc m y31.2.1 z25.2.2.2.2.2.1 (w_i64 (z25.2.2.2.2.2.2.1 - z25.2.2.2.2.2.2.2.1)) z25.2.2.2.1).bind fun y32 =>
                        some ((), (y32.2.1, (), (), (), (), ()))
                      else
                        some ((), (y31.2.1, (), (), (), (), ()))
                    else
                      some ((), (y31.2.1, (), (), (), (), ()))
                  else
                    bif decide (z25.2.2.2.2.2.1 < (w_i64 (z25.2.2.2.2.2.2.1 - z25.2.2.2.2.2.2.2.1))) then
                      bif decide ((w_i64 (z25.2.2.2.2.2.2.1 - z25.2.2.2.2.2.2.2.1)) < z25.2.2.2.1) then
                        (slices_symMergeCmpFunc m z25.1 z25.2.2.2.2.2.1 (w_i64 (z25.2.2.2.2.2.2.1 - z25.2.2.2.2.2.2.2.1)) z25.2.2.2.1).bind fun y33 =>
                        some ((), (y33.2.1, (), (), (), (), ()))
                      else
                        some ((), (z25.1, (), (), (), (), ()))
                    else
                      some ((), (z25.1, (), (), (), (), ()))
                else
                  bif decide (z25.2.2.2.2.2.1 < (w_i64 (z25.2.2.2.2.2.2.1 - z25.2.2.2.2.2.2.2.1))) then
                    bif decide ((w_i64 (z25.2.2.2.2.2.2.1 - z25.2.2.2.2.2.2.2.1)) < z25.2.2.2.1) then
                      (slices_symMergeCmpFunc m z25.1 z25.2.2.2.2.2.1 (w_i64 (z25.2.2.2.2.2.2.1 - z25.2.2.2.2.2.2.2.1)) z25.2.2.2.1).bind fun y34 =>
                      some ((), (y34.2.1, (), (), (), (), ()))
                    else
                      some ((), (z25.1, (), (), (), (), ()))
                  else
                    some ((), (z25.1, (), (), (), (), ()))
            else
              bif decide (z25.2.1 < z25.2.2.2.2.2.2.2.1) then
                bif decide (z25.2.2.2.2.2.2.2.1 < z25.2.2.2.2.2.1) then
                  (slices_symMergeCmpFunc m z25.1 z25.2.1 z25.2.2.2.2.2.2.2.1 z25.2.2.2.2.2.1).bind fun y35 =>
                  bif decide (z25.2.2.2.2.2.1 < (w_i64 (z25.2.2.2.2.2.2.1 - z25.2.2.2.2.2.2.2.1))) then
                    bif decide ((w_i64 (z25.2.2.2.2.2.2.1 - z25.2.2.2.2.2.2.2.1)) < z25.2.2.2.1) then
                      (slices_symMergeCmpFunc m y35.2.1 z25.2.2.2.2.2.1 (w_i64 (z25.2.2.2.2.2.2.1 - z25.2.2.2.2.2.2.2.1)) z25.2.2.2.1).bind fun y36 =>
                      some ((), (y36.2.1, (), (), (), (), ()))
                    else
                      some ((), (y35.2.1, (), (), (), (), ()))
                  else
                    some ((), (y35.2.1, (), (), (), (), ()))
                else
                  bif decide (z25.2.2.2.2.2.1 < (w_i64 (z25.2.2.2.2.2.2.1 - z25.2.2.2.2.2.2.2.1))) then
                    bif decide ((w_i64 (z25.2.2.2.2.2.2.1 - z25.2.2.2.2.2.2.2.1)) < z25.2.2.2.1) then
                      (slices_symMergeCmpFunc m z25.1 z25.2.2.2.2.2.1 (w_i64 (z25.2.2.2.2.2.2.1 - z25.2.2.2.2.2.2.2.1)) z25.2.2.2.1).bind fun y37 =>
                      some ((), (y37.2.1, (), (), (), (), ()))
                    else
                      some ((), (z25.1, (), (), (), (), ()))
                  else
                    some ((), (z25.1, (), (), (), (), ()))
              else
                bif decide (z25.2.2.2.2.2.1 < (w_i64 (z25.2.2.2.2.2.2.1 - z25.2.2.2.2.2.2.2.1))) then
                  bif decide ((w_i64 (z25.2.2.2.2.2.2.1 - z25.2.2.2.2.2.2.2.1)) < z25.2.2.2.1) then
                    (slices_symMergeCmpFunc m z25.1 z25.2.2.2.2.2.1 (w_i64 (z25.2.2.2.2.2.2.1 - z25.2.2.2.2.2.2.2.1)) z25.2.2.2.1).bind fun y38 =>
                    some ((), (y38.2.1, (), (), (), (), ()))
                  else
                    some ((), (z25.1, (), (), (), (), ()))
                else
                  some ((), (z25.1, (), (), (), (), ()))
          | .inr e =>
            e.elim
/-! 89 slices.stableCmpFunc_sparse/api.Entry_ -/
def slices_stableCmpFunc_L2 (m : Nat) : Nat → (List (Int × Int × Int)) → Int → Int → Int → Int → Option (((List (Int × Int × Int)) × Int × Unit × Int × Int × Unit) ⊕ Empty)
  | 0, _, _, _, _, _ => none
  | n + 1, v_data, v_n, v_blockSize, v_a, v_b =>
    bif decide (v_b ≤ v_n) then
      (slices_symMergeCmpFunc m v_data v_a (w_i64 (v_a + v_blockSize)) v_b).bind fun y1 =>
      slices_stableCmpFunc_L2 m n y1.2.1 v_n v_blockSize v_b (w_i64 (v_b + (w_i64 (2 * v_blockSize))))
    else
      some (.inl (v_data, v_n, (), v_blockSize, v_a, ()))
def slices_stableCmpFunc_L1 (m : Nat) : Nat → (List (Int × Int × Int)) → Int → Int → Option (((List (Int × Int × Int)) × Unit) ⊕ Empty)
  | 0, _, _, _ => none
  | n + 1, v_data, v_n, v_blockSize =>
    bif decide (v_blockSize < v_n) then
      (slices_stableCmpFunc_L2 m m v_data v_n v_blockSize 0 (w_i64 (2 * v_blockSize))).bind fun y1 =>
      match y1 with
      | .inl z2 =>
        bif decide ((w_i64 (z2.2.2.2.2.1 + z2.2.2.2.1)) < z2.2.1) then
          (slices_symMergeCmpFunc m z2.1 z2.2.2.2.2.1 (w_i64 (z2.2.2.2.2.1 + z2.2.2.2.1)) z2.2.1).bind fun y3 =>
          slices_stableCmpFunc_L1 m n y3.2.1 z2.2.1 (w_i64 (z2.2.2.2.1 * 2))
        else
          slices_stableCmpFunc_L1 m n z2.1 z2.2.1 (w_i64 (z2.2.2.2.1 * 2))
      | .inr e =>
        e.elim
    else
      some (.inl (v_data, ()))
def slices_stableCmpFunc_L0 (m : Nat) : Nat → (List (Int × Int × Int)) → Int → Int → Int → Int → Option (((List (Int × Int × Int)) × Int × Unit × Int × Int × Unit) ⊕ Empty)
  | 0, _, _, _, _, _ => none
  | n + 1, v_data, v_n, v_blockSize, v_a, v_b =>
    bif decide (v_b ≤ v_n) then
      (slices_insertionSortCmpFunc m v_data v_a v_b).bind fun y1 =>
      slices_stableCmpFunc_L0 m n y1.2.1 v_n v_blockSize v_b (w_i64 (v_b + v_blockSize))
    else
      some (.inl (v_data, v_n, (), v_blockSize, v_a, ()))
def slices_stableCmpFunc (m : Nat) (v_data : List (Int × Int × Int)) (v_n : Int) : Option (Unit × (List (Int × Int × Int)) × Unit × Unit × Unit) :=
  (slices_stableCmpFunc_L0 m m v_data v_n 20 0 20).bind fun y1 =>
  match y1 with
  | .inl z2 =>
    (slices_insertionSortCmpFunc m z2.1 z2.2.2.2.2.1 z2.2.1).bind fun y3 =>
    (slices_stableCmpFunc_L1 m m y3.2.1 z2.2.1 z2.2.2.2.1).bind fun y4 =>
    match y4 with
    | .inl z5 =>
      some ((), (z5.1, (), (), ()))
    | .inr e =>
      e.elim
  | .inr e =>
    e.elim
/-! 74 slices.SortStableFunc___sparse/api.Entry_sparse/api.Entry_ -/
def slices_SortStableFunc (m : Nat) (v_x : List (Int × Int × Int)) : Option (Unit × (List (Int × Int × Int)) × Unit × Unit) :=
  (slices_stableCmpFunc m v_x (v_x.length : Int)).bind fun y1 =>
  some ((), (y1.2.1, (), ()))
/-! 61 sparse/matrix.sorted -/
def matrix_sorted (m : Nat) (v_l : List (Int × Int × Int)) : Option ((List (Int × Int × Int)) × Unit × Unit) :=
  (slices_Clone m v_l).bind fun y1 =>
  (slices_SortStableFunc m y1.1).bind fun y2 =>
  some (y2.2.1, ((), ()))
/-! 43 sparse/matrix.build -/
def matrix_build_L1 (m : Nat) : Nat → Int → Int → List Int → List Int → List Int → Int → Int → List Int → List Int → List Int → Int → Int → Option (((Int × Int × List Int × List Int × List Int × Unit) × (Int × Int × List Int × List Int × List Int × Unit) × Unit) ⊕ Empty)
  | 0, _, _, _, _, _, _, _, _, _, _, _, _ => none
  | n + 1, v_t6_0, v_t6_1, v_t6_2, v_t6_3, v_t6_4, v_t7_0, v_t7_1, v_t7_2, v_t7_3, v_t7_4, v_t48, v_t49 =>
    bif decide (v_t49 < v_t48) then
      if (0 : Int) ≤ (w_i64 (v_t49 + 1)) ∧ (w_i64 (v_t49 + 1)) < (v_t7_2.length : Int) then
      if (0 : Int) ≤ v_t49 ∧ v_t49 < (v_t7_2.length : Int) then
      if (0 : Int) ≤ (w_i64 (v_t49 + 1)) ∧ (w_i64 (v_t49 + 1)) < (v_t7_2.length : Int) then
      matrix_build_L1 m n v_t6_0 v_t6_1 v_t6_2 v_t6_3 v_t6_4 v_t7_0 v_t7_1 (v_t7_2.set (0 + (w_i64 (v_t49 + 1)).toNat) (w_i64 ((v_t7_2.getD (0 + (w_i64 (v_t49 + 1)).toNat) 0) + (v_t7_2.getD (0 + v_t49.toNat) 0)))) v_t7_3 v_t7_4 v_t48 (w_i64 (v_t49 + 1))
      else none
      else none
      else none
    else
      some (.inl ((v_t6_0, v_t6_1, v_t6_2, v_t6_3, v_t6_4, ()), (v_t7_0, v_t7_1, v_t7_2, v_t7_3, v_t7_4, ()), ()))
def matrix_build_L0 (m : Nat) : Nat → Int → Int → Int → List Int → List Int → List Int → Int → Int → List Int → List Int → List Int → (List (Int × Int × Int)) → Int → Int → Option ((Int × (Int × Int × List Int × List Int × List Int × Unit) × (Int × Int × List Int × List Int × List Int × Unit) × Unit) ⊕ Empty)
  | 0, _, _, _, _, _, _, _, _, _, _, _, _, _, _ => none
  | n + 1, v_t1, v_t6_0, v_t6_1, v_t6_2, v_t6_3, v_t6_4, v_t7_0, v_t7_1, v_t7_2, v_t7_3, v_t7_4, v_t18, v_t19, v_t20 =>
    bif decide (v_t20 < v_t19) then
      if (0 : Int) ≤ v_t20 ∧ v_t20 < (v_t18.length : Int) then
      if v_t7_3.length + ([(v_t18.getD (0 + v_t20.toNat) (0, (0, 0))).1] : List Int).length ≤ 1073741824 then
      if v_t7_4.length + ([(v_t18.getD (0 + v_t20.toNat) (0, (0, 0))).2.2] : List Int).length ≤ 1073741824 then
      if (0 : Int) ≤ (w_i64 ((v_t18.getD (0 + v_t20.toNat) (0, (0, 0))).2.1 + 1)) ∧ (w_i64 ((v_t18.getD (0 + v_t20.toNat) (0, (0, 0))).2.1 + 1)) < (v_t7_2.length : Int) then
      if (0 : Int) ≤ (w_i64 ((v_t18.getD (0 + v_t20.toNat) (0, (0, 0))).2.1 + 1)) ∧ (w_i64 ((v_t18.getD (0 + v_t20.toNat) (0, (0, 0))).2.1 + 1)) < (v_t7_2.length : Int) then
      matrix_build_L0 m n v_t1 v_t6_0 v_t6_1 v_t6_2 v_t6_3 v_t6_4 v_t7_0 v_t7_1 (v_t7_2.set (0 + (w_i64 ((v_t18.getD (0 + v_t20.toNat) (0, (0, 0))).2.1 + 1)).toNat) (w_i64 ((v_t7_2.getD (0 + (w_i64 ((v_t18.getD (0 + v_t20.toNat) (0, (0, 0))).2.1 + 1)).toNat) 0) + 1))) (v_t7_3 ++ ([(v_t18.getD (0 + v_t20.toNat) (0, (0, 0))).1] : List Int)) (v_t7_4 ++ ([(v_t18.getD (0 + v_t20.toNat) (0, (0, 0))).2.2] : List Int)) v_t18 v_t19 (w_i64 (v_t20 + 1))
      else none
      else none
      else none
      else none
      else none
    else
      some (.inl (v_t1, (v_t6_0, v_t6_1, v_t6_2, v_t6_3, v_t6_4, ()), (v_t7_0, v_t7_1, v_t7_2, v_t7_3, v_t7_4, ()), ()))
def matrix_build (m : Nat) (v_rows : Int) (v_t1 : Int) (v_t2 : List (Int × Int × Int)) : Option ((Int × Int × List Int × List Int × List Int × Unit) × Unit × Unit × Unit × Unit) :=
  if (0 : Int) ≤ (w_i64 (v_t1 + 1)) ∧ (w_i64 (v_t1 + 1)) ≤ (w_i64 (v_t1 + 1)) ∧ (w_i64 (v_t1 + 1)) ≤ 1073741824 then
  (matrix_sorted m v_t2).bind fun y1 =>
  (matrix_build_L0 m m v_t1 0 0 ([] : List Int) ([] : List Int) ([] : List Int) v_rows v_t1 (List.replicate (w_i64 (v_t1 + 1)).toNat (0 : Int)) ([] : List Int) ([] : List Int) y1.1 (y1.1.length : Int) 0).bind fun y2 =>
  match y2 with
  | .inl z3 =>
    (matrix_build_L1 m m z3.2.1.1 z3.2.1.2.1 z3.2.1.2.2.1 z3.2.1.2.2.2.1 z3.2.1.2.2.2.2.1 z3.2.2.1.1 z3.2.2.1.2.1 z3.2.2.1.2.2.1 z3.2.2.1.2.2.2.1 z3.2.2.1.2.2.2.2.1 z3.1 0).bind fun y4 =>
    match y4 with
    | .inl z5 =>
      some ((z5.2.1.1, z5.2.1.2.1, z5.2.1.2.2.1, z5.2.1.2.2.2.1, z5.2.1.2.2.2.2.1, ()), ((), (), (), ()))
    | .inr e =>
      e.elim
  | .inr e =>
    e.elim
  else none
/-! 25 sparse/matrix.Transpose -/
def matrix_Transpose_L0 (m : Nat) : Nat → Int → Int → List Int → List Int → List Int → Int → Int → List Int → List Int → List Int → (List (Int × Int × Int)) → Int → Int → Option (((Int × Int × List Int × List Int × List Int × Unit) × (Int × Int × List Int × List Int × List Int × Unit) × (List (Int × Int × Int)) × Unit) ⊕ Empty)
  | 0, _, _, _, _, _, _, _, _, _, _, _, _, _ => none
  | n + 1, v_m_0, v_m_1, v_m_2, v_m_3, v_m_4, v_t2_0, v_t2_1, v_t2_2, v_t2_3, v_t2_4, v_l, v_t17, v_t18 =>
    bif decide (v_t18 < v_t17) then
      if (0 : Int) ≤ v_t18 ∧ v_t18 < (v_l.length : Int) then
      if (0 : Int) ≤ v_t18 ∧ v_t18 < (v_l.length : Int) then
      if (0 : Int) ≤ v_t18 ∧ v_t18 < ((v_l.set (0 + v_t18.toNat) ((v_l.getD (0 + v_t18.toNat) (0, (0, 0))).2.1, ((v_l.getD (0 + v_t18.toNat) (0, (0, 0))).2.1, (v_l.getD (0 + v_t18.toNat) (0, (0, 0))).2.2))).length : Int) then
      matrix_Transpose_L0 m n v_m_0 v_m_1 v_m_2 v_m_3 v_m_4 v_t2_0 v_t2_1 v_t2_2 v_t2_3 v_t2_4 ((v_l.set (0 + v_t18.toNat) ((v_l.getD (0 + v_t18.toNat) (0, (0, 0))).2.1, ((v_l.getD (0 + v_t18.toNat) (0, (0, 0))).2.1, (v_l.getD (0 + v_t18.toNat) (0, (0, 0))).2.2))).set (0 + v_t18.toNat) (((v_l.set (0 + v_t18.toNat) ((v_l.getD (0 + v_t18.toNat) (0, (0, 0))).2.1, ((v_l.getD (0 + v_t18.toNat) (0, (0, 0))).2.1, (v_l.getD (0 + v_t18.toNat) (0, (0, 0))).2.2))).getD (0 + v_t18.toNat) (0, (0, 0))).1, ((v_l.getD (0 + v_t18.toNat) (0, (0, 0))).1, ((v_l.set (0 + v_t18.toNat) ((v_l.getD (0 + v_t18.toNat) (0, (0, 0))).2.1, ((v_l.getD (0 + v_t18.toNat) (0, (0, 0))).2.1, (v_l.getD (0 + v_t18.toNat) (0, (0, 0))).2.2))).getD (0 + v_t18.toNat) (0, (0, 0))).2.2))) v_t17 (w_i64 (v_t18 + 1))
      else none
      else none
      else none
    else
      some (.inl ((v_m_0, v_m_1, v_m_2, v_m_3, v_m_4, ()), (v_t2_0, v_t2_1, v_t2_2, v_t2_3, v_t2_4, ()), v_l, ()))
def matrix_Transpose (m : Nat) (v_m_0 : Int) (v_m_1 : Int) (v_m_2 : List Int) (v_m_3 : List Int) (v_m_4 : List Int) : Option (((Int × Int × List Int × List Int × List Int × Unit) × Int × Unit) × Unit × Unit) :=
  (matrix_Check m v_m_0 v_m_1 v_m_2 v_m_3 v_m_4).bind fun y1 =>
  bif y1.1 != 0 then
    some (((0, 0, ([] : List Int), ([] : List Int), ([] : List Int), ()), y1.1, ()), ((), ()))
  else
    (matrix_entries m v_m_0 v_m_1 v_m_2 v_m_3 v_m_4).bind fun y2 =>
    (matrix_Transpose_L0 m m v_m_0 v_m_1 v_m_2 v_m_3 v_m_4 0 0 ([] : List Int) ([] : List Int) ([] : List Int) y2.1 (y2.1.length : Int) 0).bind fun y3 =>
    match y3 with
    | .inl z4 =>
      (matrix_build m z4.1.2.1 z4.1.1 z4.2.2.1).bind fun y5 =>
      some (((y5.1.1, y5.1.2.1, y5.1.2.2.1, y5.1.2.2.2.1, y5.1.2.2.2.2.1, ()), 0, ()), ((), ()))
    | .inr e =>
      e.elim
/-! 27 sparse/sparsekit.Shuffle -/
def sparsekit_Shuffle_L1 (m : Nat) : Nat → List Int → Int → List Int → List Int → Int → Option ((List Int × Unit) ⊕ Empty)
  | 0, _, _, _, _, _ => none
  | n + 1, v_l, v_n, v_left, v_out, v_k =>
    bif decide (v_k < v_n) then
      bif decide (v_k < (v_l.length : Int)) then
        if (0 : Int) ≤ v_k ∧ v_k < (v_l.length : Int) then
        (sparsekit_Place m (v_l.getD v_k.toNat 0) (v_left.length : Int)).bind fun y1 =>
        if (0 : Int) ≤ y1.1 ∧ y1.1 < (v_left.length : Int) then
        if v_out.length + ([v_left.getD (0 + y1.1.toNat) 0] : List Int).length ≤ 1073741824 then
        if (0 : Int) ≤ 0 ∧ 0 ≤ y1.1 ∧ y1.1 ≤ (v_left.length : Int) then
        if (0 : Int) ≤ (w_i64 (y1.1 + 1)) ∧ (w_i64 (y1.1 + 1)) ≤ (v_left.length : Int) ∧ (v_left.length : Int) ≤ (v_left.length : Int) then
        if 0 = 0 ∧ (y1.1.toNat - 0) ≤ v_left.length ∧ 0 < v_left.length ∧ (y1.1.toNat - 0) + ((v_left.drop (0 + (w_i64 (y1.1 + 1)).toNat)).take (v_left.length - (w_i64 (y1.1 + 1)).toNat)).length ≤ 1073741824 then
        sparsekit_Shuffle_L1 m n v_l v_n (v_left.take (y1.1.toNat - 0) ++ ((v_left.drop (0 + (w_i64 (y1.1 + 1)).toNat)).take (v_left.length - (w_i64 (y1.1 + 1)).toNat))) (v_out ++ ([v_left.getD (0 + y1.1.toNat) 0] : List Int)) (w_i64 (v_k + 1))
        else none
        else none
        else none
        else none
        else none
        else none
      else
        if (0 : Int) ≤ 0 ∧ 0 < (v_left.length : Int) then
        if v_out.length + ([v_left.getD (0 + 0) 0] : List Int).length ≤ 1073741824 then
        if (0 : Int) ≤ 0 ∧ 0 ≤ 0 ∧ 0 ≤ (v_left.length : Int) then
        if (0 : Int) ≤ 1 ∧ 1 ≤ (v_left.length : Int) ∧ (v_left.length : Int) ≤ (v_left.length : Int) then
        if 0 = 0 ∧ 0 ≤ v_left.length ∧ 0 < v_left.length ∧ 0 + ((v_left.drop 1).take (v_left.length - 1)).length ≤ 1073741824 then
        sparsekit_Shuffle_L1 m n v_l v_n (v_left.take 0 ++ ((v_left.drop 1).take (v_left.length - 1))) (v_out ++ ([v_left.getD (0 + 0) 0] : List Int)) (w_i64 (v_k + 1))
        else none
        else none
        else none
        else none
        else none
    else
      some (.inl (v_out, ()))
def sparsekit_Shuffle_L0 (m : Nat) : Nat → List Int → Int → List Int → Int → Option ((List Int × Int × List Int × Unit) ⊕ Empty)
  | 0, _, _, _, _ => none
  | n + 1, v_l, v_n, v_left, v_i =>
    bif decide (v_i < v_n) then
      if v_left.length + ([v_i] : List Int).length ≤ 1073741824 then
      sparsekit_Shuffle_L0 m n v_l v_n (v_left ++ ([v_i] : List Int)) (w_i64 (v_i + 1))
      else none
    else
      some (.inl (v_l, v_n, v_left, ()))
def sparsekit_Shuffle (m : Nat) (v_l : List Int) (v_n : Int) : Option (List Int × Unit × Unit × Unit) :=
  (sparsekit_Shuffle_L0 m m v_l v_n ([] : List Int) 0).bind fun y1 =>
  match y1 with
  | .inl z2 =>
    (sparsekit_Shuffle_L1 m m z2.1 z2.2.1 z2.2.2.1 ([] : List Int) 0).bind fun y3 =>
    match y3 with
    | .inl z4 =>
      some (z4.1, ((), (), ()))
    | .inr e =>
      e.elim
  | .inr e =>
    e.elim
/-! 44 sparse/matrix.places -/
def matrix_places_L2 (m : Nat) : Nat → List Int → List Int → Int → Int → Option ((List Int × Int × Unit) ⊕ (List Int × Unit) ⊕ Empty)
  | 0, _, _, _, _ => none
  | n + 1, v_out, v_t35, v_t36, v_t37 =>
    bif decide (v_t37 < v_t36) then
      if (0 : Int) ≤ v_t37 ∧ v_t37 < (v_t35.length : Int) then
      if (0 : Int) ≤ (v_t35.getD v_t37.toNat 0) ∧ (v_t35.getD v_t37.toNat 0) < (v_out.length : Int) then
      bif decide ((v_out.getD (0 + (v_t35.getD v_t37.toNat 0).toNat) 0) ≥ 0) then
        some (.inl (([] : List Int), 90, ()))
      else
        if (0 : Int) ≤ (v_t35.getD v_t37.toNat 0) ∧ (v_t35.getD v_t37.toNat 0) < (v_out.length : Int) then
        matrix_places_L2 m n (v_out.set (0 + (v_t35.getD v_t37.toNat 0).toNat) v_t37) v_t35 v_t36 (w_i64 (v_t37 + 1))
        else none
      else none
      else none
    else
      some (.inr (.inl (v_out, ())))
def matrix_places_L1 (m : Nat) : Nat → List Int → Int → List Int → List Int → Int → Int → Option ((List Int × Int × Unit) ⊕ (List Int × List Int × Unit) ⊕ Empty)
  | 0, _, _, _, _, _, _ => none
  | n + 1, v_l, v_n, v_out, v_t23, v_t24, v_t25 =>
    bif decide (v_t25 < v_t24) then
      if (0 : Int) ≤ v_t25 ∧ v_t25 < (v_t23.length : Int) then
      (matrix_within m (v_t23.getD v_t25.toNat 0) 0 (w_i64 (v_n - 1))).bind fun y1 =>
      bif !y1.1 then
        some (.inl (([] : List Int), 3, ()))
      else
        matrix_places_L1 m n v_l v_n v_out v_t23 v_t24 (w_i64 (v_t25 + 1))
      else none
    else
      some (.inr (.inl (v_l, v_out, ())))
def matrix_places_L0 (m : Nat) : Nat → List Int → Int → List Int → Int → Int → Option ((List Int × Int × List Int × Unit) ⊕ Empty)
  | 0, _, _, _, _, _ => none
  | n + 1, v_l, v_n, v_out, v_t15, v_t16 =>
    bif decide (v_t16 < v_t15) then
      if (0 : Int) ≤ v_t16 ∧ v_t16 < (v_out.length : Int) then
      matrix_places_L0 m n v_l v_n (v_out.set (0 + v_t16.toNat) (-1)) v_t15 (w_i64 (v_t16 + 1))
      else none
    else
      some (.inl (v_l, v_n, v_out, ()))
def matrix_places (m : Nat) (v_l : List Int) (v_n : Int) : Option ((List Int × Int × Unit) × Unit × Unit × Unit) :=
  if (0 : Int) ≤ v_n ∧ v_n ≤ v_n ∧ v_n ≤ 1073741824 then
  (matrix_places_L0 m m v_l v_n (List.replicate v_n.toNat (0 : Int)) ((List.replicate v_n.toNat (0 : Int)).length : Int) 0).bind fun y1 =>
  match y1 with
  | .inl z2 =>
    (matrix_places_L1 m m z2.1 z2.2.1 z2.2.2.1 z2.1 (z2.1.length : Int) 0).bind fun y3 =>
    match y3 with
    | .inl z4 =>
      some ((z4.1, z4.2.1, ()), ((), (), ()))
    | .inr (.inl z5) =>
      (matrix_places_L2 m m z5.2.1 z5.1 (z5.1.length : Int) 0).bind fun y6 =>
      match y6 with
      | .inl z7 =>
        some ((z7.1, z7.2.1, ()), ((), (), ()))
      | .inr (.inl z8) =>
        some ((z8.1, 0, ()), ((), (), ()))
      | .inr (.inr e) =>
        e.elim
    | .inr (.inr e) =>
      e.elim
  | .inr e =>
    e.elim
  else none
/-! 45 sparse/matrix.selected -/
def matrix_selected_L0 (m : Nat) : Nat → List Int → List Int → List Int → List Int → Int → Int → List Int → List Int → List Int → (List (Int × Int × Int)) → (List (Int × Int × Int)) → Int → Int → Option ((List Int × List Int × (Int × Int × List Int × List Int × List Int × Unit) × (List (Int × Int × Int)) × Unit) ⊕ Empty)
  | 0, _, _, _, _, _, _, _, _, _, _, _, _, _ => none
  | n + 1, v_rows, v_cols, v_row, v_col, v_t10_0, v_t10_1, v_t10_2, v_t10_3, v_t10_4, v_out, v_t15, v_t16, v_t17 =>
    bif decide (v_t17 < v_t16) then
      if (0 : Int) ≤ v_t17 ∧ v_t17 < (v_t15.length : Int) then
      if (0 : Int) ≤ (v_t15.getD (0 + v_t17.toNat) (0, (0, 0))).1 ∧ (v_t15.getD (0 + v_t17.toNat) (0, (0, 0))).1 < (v_row.length : Int) then
      bif decide ((v_row.getD (v_t15.getD (0 + v_t17.toNat) (0, (0, 0))).1.toNat 0) ≥ 0) then
        if (0 : Int) ≤ (v_t15.getD (0 + v_t17.toNat) (0, (0, 0))).2.1 ∧ (v_t15.getD (0 + v_t17.toNat) (0, (0, 0))).2.1 < (v_col.length : Int) then
        bif decide ((v_col.getD (v_t15.getD (0 + v_t17.toNat) (0, (0, 0))).2.1.toNat 0) ≥ 0) then
          if (0 : Int) ≤ (v_t15.getD (0 + v_t17.toNat) (0, (0, 0))).1 ∧ (v_t15.getD (0 + v_t17.toNat) (0, (0, 0))).1 < (v_row.length : Int) then
          if (0 : Int) ≤ (v_t15.getD (0 + v_t17.toNat) (0, (0, 0))).2.1 ∧ (v_t15.getD (0 + v_t17.toNat) (0, (0, 0))).2.1 < (v_col.length : Int) then
          if v_out.length + ([(v_row.getD (v_t15.getD (0 + v_t17.toNat) (0, (0, 0))).1.toNat 0, (v_col.getD (v_t15.getD (0 + v_t17.toNat) (0, (0, 0))).2.1.toNat 0, (v_t15.getD (0 + v_t17.toNat) (0, (0, 0))).2.2))] : List (Int × Int × Int)).length ≤ 1073741824 then
          matrix_selected_L0 m n v_rows v_cols v_row v_col v_t10_0 v_t10_1 v_t10_2 v_t10_3 v_t10_4 (v_out ++ ([(v_row.getD (v_t15.getD (0 + v_t17.toNat) (0, (0, 0))).1.toNat 0, (v_col.getD (v_t15.getD (0 + v_t17.toNat) (0, (0, 0))).2.1.toNat 0, (v_t15.getD (0 + v_t17.toNat) (0, (0, 0))).2.2))] : List (Int × Int × Int))) v_t15 v_t16 (w_i64 (v_t17 + 1))
          else none
          else none
          else none
        else
          matrix_selected_L0 m n v_rows v_cols v_row v_col v_t10_0 v_t10_1 v_t10_2 v_t10_3 v_t10_4 v_out v_t15 v_t16 (w_i64 (v_t17 + 1))
        else none
      else
        matrix_selected_L0 m n v_rows v_cols v_row v_col v_t10_0 v_t10_1 v_t10_2 v_t10_3 v_t10_4 v_out v_t15 v_t16 (w_i64 (v_t17 + 1))
      else none
      else none
    else
      some (.inl (v_rows, v_cols, (v_t10_0, v_t10_1, v_t10_2, v_t10_3, v_t10_4, ()), v_out, ()))
def matrix_selected (m : Nat) (v_m_0 : Int) (v_m_1 : Int) (v_m_2 : List Int) (v_m_3 : List Int) (v_m_4 : List Int) (v_rows : List Int) (v_cols : List Int) (v_row : List Int) (v_col : List Int) : Option ((Int × Int × List Int × List Int × List Int × Unit) × Unit × Unit × Unit × Unit × Unit × Unit) :=
  (matrix_entries m v_m_0 v_m_1 v_m_2 v_m_3 v_m_4).bind fun y1 =>
  (matrix_selected_L0 m m v_rows v_cols v_row v_col 0 0 ([] : List Int) ([] : List Int) ([] : List Int) ([] : List (Int × Int × Int)) y1.1 (y1.1.length : Int) 0).bind fun y2 =>
  match y2 with
  | .inl z3 =>
    (matrix_build m (z3.1.length : Int) (z3.2.1.length : Int) z3.2.2.2.1).bind fun y4 =>
    some ((y4.1.1, y4.1.2.1, y4.1.2.2.1, y4.1.2.2.2.1, y4.1.2.2.2.2.1, ()), ((), (), (), (), (), ()))
  | .inr e =>
    e.elim
/-! 26 sparse/matrix.Permute -/
def matrix_Permute (m : Nat) (v_m_0 : Int) (v_m_1 : Int) (v_m_2 : List Int) (v_m_3 : List Int) (v_m_4 : List Int) (v_rows : List Int) (v_cols : List Int) : Option (((Int × Int × List Int × List Int × List Int × Unit) × Int × Unit) × Unit × Unit × Unit × Unit) :=
  (matrix_Check m v_m_0 v_m_1 v_m_2 v_m_3 v_m_4).bind fun y1 =>
  bif y1.1 != 0 then
    some (((0, 0, ([] : List Int), ([] : List Int), ([] : List Int), ()), y1.1, ()), ((), (), (), ()))
  else
    bif (v_rows.length : Int) != v_m_0 then
      some (((0, 0, ([] : List Int), ([] : List Int), ([] : List Int), ()), 2, ()), ((), (), (), ()))
    else
      bif (v_cols.length : Int) != v_m_1 then
        some (((0, 0, ([] : List Int), ([] : List Int), ([] : List Int), ()), 2, ()), ((), (), (), ()))
      else
        (matrix_places m v_rows v_m_0).bind fun y2 =>
        (matrix_places m v_cols v_m_1).bind fun y3 =>
        bif y2.1.2.1 != 0 then
          some (((0, 0, ([] : List Int), ([] : List Int), ([] : List Int), ()), 90, ()), ((), (), (), ()))
        else
          bif y3.1.2.1 != 0 then
            some (((0, 0, ([] : List Int), ([] : List Int), ([] : List Int), ()), 90, ()), ((), (), (), ()))
          else
            (matrix_selected m v_m_0 v_m_1 v_m_2 v_m_3 v_m_4 v_rows v_cols y2.1.1 y3.1.1).bind fun y4 =>
            some (((y4.1.1, y4.1.2.1, y4.1.2.2.1, y4.1.2.2.2.1, y4.1.2.2.2.2.1, ()), 0, ()), ((), (), (), ()))
/-! 8 sparse/sparselaw13.MatchingTransposed -/
def sparselaw13_MatchingTransposed (m : Nat) (v_rows : Int) (v_t1 : Int) (v_t2 : List Int) (v_t3 : List Int) (v_t4 : List Int) : Option (Bool × Unit × Unit × Unit × Unit × Unit × Unit) :=
  bif decide ((v_t2.length : Int) > 90) then
    (sparselaw13_awake m).bind fun y1 =>
    some (y1.1, ((), (), (), (), (), ()))
  else
    (sparselaw13_made m v_rows v_t1 v_t2).bind fun y2 =>
    (matrix_Transpose m y2.1.1 y2.1.2.1 y2.1.2.2.1 y2.1.2.2.2.1 y2.1.2.2.2.2.1).bind fun y3 =>
    (sparsekit_Shuffle m v_t3 y2.1.1).bind fun y4 =>
    (sparsekit_Shuffle m v_t4 y2.1.2.1).bind fun y5 =>
    (matrix_Permute m y2.1.1 y2.1.2.1 y2.1.2.2.1 y2.1.2.2.2.1 y2.1.2.2.2.2.1 y4.1 y5.1).bind fun y6 =>
    (matching_Maximum m y2.1.1 y2.1.2.1 y2.1.2.2.1 y2.1.2.2.2.1 y2.1.2.2.2.2.1).bind fun y7 =>
    (matching_Maximum m y3.1.1.1 y3.1.1.2.1 y3.1.1.2.2.1 y3.1.1.2.2.2.1 y3.1.1.2.2.2.2.1).bind fun y8 =>
    (matching_Maximum m y6.1.1.1 y6.1.1.2.1 y6.1.1.2.2.1 y6.1.1.2.2.2.1 y6.1.1.2.2.2.2.1).bind fun y9 =>
    bif y3.1.2.1 == 0 then
      bif y6.1.2.1 == 0 then
        bif y7.1.2.1 == 0 then
          bif y8.1.2.1 == 0 then
            bif y9.1.2.1 == 0 then
              bif (y7.1.1.length : Int) == y2.1.2.1 then
                (sparselaw13_size m y7.1.1).bind fun y10 =>
                (sparselaw13_size m y8.1.1).bind fun y11 =>
                bif y10.1 == y11.1 then
                  (sparselaw13_size m y7.1.1).bind fun y12 =>
                  (sparselaw13_size m y9.1.1).bind fun y13 =>
                  bif y12.1 == y13.1 then
                    (sparselaw13_awake m).bind fun y14 =>
                    some (y14.1, ((), (), (), (), (), ()))
                  else
                    some (false, ((), (), (), (), (), ()))
                else
                  some (false, ((), (), (), (), (), ()))
              else
                some (false, ((), (), (), (), (), ()))
            else
              some (false, ((), (), (), (), (), ()))
          else
            some (false, ((), (), (), (), (), ()))
        else
          some (false, ((), (), (), (), (), ()))
      else
        some (false, ((), (), (), (), (), ()))
    else
      some (false, ((), (), (), (), (), ()))
end Go.Vs.F
