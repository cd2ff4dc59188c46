/- The plain functions of the program, as the evaluator computes them (by program: gen.py). -/
import Derived.Test.YtokemaifpclkcaaVb

/-! MaFn -/
set_option linter.unusedVariables false
namespace Go.Vs.F
/-! 4 sparse/sparselaw13.small -/
def sparselaw13_small (m : Nat) (v_m_0 : Int) (v_m_1 : Int) (v_m_2 : List Int) (v_m_3 : List Int) (v_m_4 : List Int) : Option (Bool × Unit × Unit) :=
  bif decide ((v_m_3.length : Int) ≤ 60) then
    bif decide ((v_m_4.length : Int) ≤ 60) then
      bif decide ((v_m_2.length : Int) ≤ 20) then
        bif decide (v_m_0 ≤ 12) then
          bif decide (v_m_1 ≤ 12) then
            some (true, ((), ()))
          else
            some (decide (v_m_1 > 200), ((), ()))
        else
          bif decide (v_m_0 > 200) then
            bif decide (v_m_1 ≤ 12) then
              some (true, ((), ()))
            else
              some (decide (v_m_1 > 200), ((), ()))
          else
            some (false, ((), ()))
      else
        some (false, ((), ()))
    else
      some (false, ((), ()))
  else
    some (false, ((), ()))
/-! 34 sparse/matrix.within -/
def matrix_within (m : Nat) (v_n : Int) (v_lo : Int) (v_hi : Int) : Option (Bool × Unit × Unit × Unit × Unit) :=
  bif decide (v_n ≥ v_lo) then
    some (decide (v_n ≤ v_hi), ((), (), (), ()))
  else
    some (false, ((), (), (), ()))
/-! 51 cmp.isNaN_int_ -/
def cmp_isNaN (m : Nat) (v_x : Int) : Option (Bool × Unit × Unit) :=
  some (v_x != v_x, ((), ()))
/-! 50 cmp.Less_int_ -/
def cmp_Less (m : Nat) (v_x : Int) (v_y : Int) : Option (Bool × Unit × Unit × Unit) :=
  (cmp_isNaN m v_x).bind fun y1 =>
  bif y1.1 then
    (cmp_isNaN m v_y).bind fun y2 =>
    bif !y2.1 then
      some (true, ((), (), ()))
    else
      some (decide (v_x < v_y), ((), (), ()))
  else
    some (decide (v_x < v_y), ((), (), ()))
/-! 46 slices.IsSorted___int_int_ -/
def slices_IsSorted_L0 (m : Nat) : Nat → List Int → Int → Option ((Bool × Unit) ⊕ Unit ⊕ Empty)
  | 0, _, _ => none
  | n + 1, v_x, v_i =>
    bif decide (v_i > 0) then
      if (0 : Int) ≤ v_i ∧ v_i < (v_x.length : Int) then
      if (0 : Int) ≤ (w_i64 (v_i - 1)) ∧ (w_i64 (v_i - 1)) < (v_x.length : Int) then
      (cmp_Less m (v_x.getD v_i.toNat 0) (v_x.getD (w_i64 (v_i - 1)).toNat 0)).bind fun y1 =>
      bif y1.1 then
        some (.inl (false, ()))
      else
        slices_IsSorted_L0 m n v_x (w_i64 (v_i - 1))
      else none
      else none
    else
      some (.inr (.inl ()))
def slices_IsSorted (m : Nat) (v_x : List Int) : Option (Bool × Unit × Unit) :=
  (slices_IsSorted_L0 m m v_x (w_i64 ((v_x.length : Int) - 1))).bind fun y1 =>
  match y1 with
  | .inl z2 =>
    some (z2.1, ((), ()))
  | .inr (.inl z3) =>
    some (true, ((), ()))
  | .inr (.inr e) =>
    e.elim
/-! 35 sparse/matrix.columns -/
def matrix_columns_L1 (m : Nat) : Nat → Int → Int → List Int → List Int → List Int → Int → Int → Int → List Int → Int → Int → Option ((Bool × Unit) ⊕ ((Int × Int × List Int × List Int × List Int × Unit) × Int × Int × Unit) ⊕ Empty)
  | 0, _, _, _, _, _, _, _, _, _, _, _ => none
  | n + 1, v_t1_0, v_t1_1, v_t1_2, v_t1_3, v_t1_4, v_t4, v_t49, v_t50, v_t66, v_t67, v_t68 =>
    bif decide (v_t68 < v_t67) then
      if (0 : Int) ≤ v_t68 ∧ v_t68 < (v_t66.length : Int) then
      bif decide ((v_t66.getD v_t68.toNat 0) ≤ v_t4) then
        some (.inl (false, ()))
      else
        bif decide ((v_t66.getD v_t68.toNat 0) ≥ v_t1_0) then
          some (.inl (false, ()))
        else
          matrix_columns_L1 m n v_t1_0 v_t1_1 v_t1_2 v_t1_3 v_t1_4 (v_t66.getD v_t68.toNat 0) v_t49 v_t50 v_t66 v_t67 (w_i64 (v_t68 + 1))
      else none
    else
      some (.inr (.inl ((v_t1_0, v_t1_1, v_t1_2, v_t1_3, v_t1_4, ()), v_t49, v_t50, ())))
def matrix_columns_L0 (m : Nat) : Nat → Int → Int → List Int → List Int → List Int → Int → Int → Option ((Bool × Unit) ⊕ Unit ⊕ Empty)
  | 0, _, _, _, _, _, _, _ => none
  | n + 1, v_t1_0, v_t1_1, v_t1_2, v_t1_3, v_t1_4, v_t49, v_t50 =>
    bif decide (v_t50 < v_t49) then
      if (0 : Int) ≤ v_t50 ∧ v_t50 < (v_t1_2.length : Int) then
      if (0 : Int) ≤ (w_i64 (v_t50 + 1)) ∧ (w_i64 (v_t50 + 1)) < (v_t1_2.length : Int) then
      if (0 : Int) ≤ (v_t1_2.getD v_t50.toNat 0) ∧ (v_t1_2.getD v_t50.toNat 0) ≤ (v_t1_2.getD (w_i64 (v_t50 + 1)).toNat 0) ∧ (v_t1_2.getD (w_i64 (v_t50 + 1)).toNat 0) ≤ (v_t1_3.length : Int) then
      (matrix_columns_L1 m m v_t1_0 v_t1_1 v_t1_2 v_t1_3 v_t1_4 (-1) v_t49 v_t50 ((v_t1_3.drop (v_t1_2.getD v_t50.toNat 0).toNat).take ((v_t1_2.getD (w_i64 (v_t50 + 1)).toNat 0).toNat - (v_t1_2.getD v_t50.toNat 0).toNat)) (((v_t1_3.drop (v_t1_2.getD v_t50.toNat 0).toNat).take ((v_t1_2.getD (w_i64 (v_t50 + 1)).toNat 0).toNat - (v_t1_2.getD v_t50.toNat 0).toNat)).length : Int) 0).bind fun y1 =>
      match y1 with
      | .inl z2 =>
        some (.inl (z2.1, ()))
      | .inr (.inl z3) =>
        matrix_columns_L0 m n z3.1.1 z3.1.2.1 z3.1.2.2.1 z3.1.2.2.2.1 z3.1.2.2.2.2.1 z3.2.1 (w_i64 (z3.2.2.1 + 1))
      | .inr (.inr e) =>
        e.elim
      else none
      else none
      else none
    else
      some (.inr (.inl ()))
def matrix_columns (m : Nat) (v_m_0 : Int) (v_m_1 : Int) (v_m_2 : List Int) (v_m_3 : List Int) (v_m_4 : List Int) : Option (Bool × Unit × Unit) :=
  bif (v_m_2.length : Int) != (w_i64 (v_m_1 + 1)) then
    some (false, ((), ()))
  else
    if (0 : Int) ≤ 0 ∧ 0 < (v_m_2.length : Int) then
    bif (v_m_2.getD 0 0) != 0 then
      some (false, ((), ()))
    else
      (slices_IsSorted m v_m_2).bind fun y1 =>
      bif !y1.1 then
        some (false, ((), ()))
      else
        if (0 : Int) ≤ v_m_1 ∧ v_m_1 < (v_m_2.length : Int) then
        bif (v_m_2.getD v_m_1.toNat 0) != (v_m_3.length : Int) then
          some (false, ((), ()))
        else
          bif (v_m_3.length : Int) != (v_m_4.length : Int) then
            some (false, ((), ()))
          else
            (matrix_columns_L0 m m v_m_0 v_m_1 v_m_2 v_m_3 v_m_4 v_m_1 0).bind fun y2 =>
            match y2 with
            | .inl z3 =>
              some (z3.1, ((), ()))
            | .inr (.inl z4) =>
              some (true, ((), ()))
            | .inr (.inr e) =>
              e.elim
        else none
    else none
/-! 48 sparse/float.parts -/
def float_parts (m : Nat) (v_f : Int) : Option ((Int × Int × Unit) × Unit × Unit) :=
  some ((w_i64 (b_and_ .u64 (shr_ .u64 v_f 52) 2047), b_and_ .u64 v_f 4503599627370495, ()), ((), ()))
/-! 38 sparse/float.IsFinite -/
def float_IsFinite (m : Nat) (v_f : Int) : Option (Bool × Unit × Unit) :=
  (float_parts m v_f).bind fun y1 =>
  some (y1.1.1 != 2047, ((), ()))
/-! 37 sparse/matrix.Check_1 -/
def matrix_Check_1 (m : Nat) (v_f : Int) : Option (Bool × Unit × Unit) :=
  (float_IsFinite m v_f).bind fun y1 =>
  some (!y1.1, ((), ()))
/-! 47 slices.IndexFunc___sparse/api.Float_sparse/api.Float_ -/
def slices_IndexFunc_L0 (m : Nat) : Nat → List Int → Int → Int → Option ((Int × Unit) ⊕ Unit ⊕ Empty)
  | 0, _, _, _ => none
  | n + 1, v_s, v_t7, v_t8 =>
    bif decide (v_t8 < v_t7) then
      if (0 : Int) ≤ v_t8 ∧ v_t8 < (v_s.length : Int) then
      (matrix_Check_1 m (v_s.getD v_t8.toNat 0)).bind fun y1 =>
      bif y1.1 then
        some (.inl (v_t8, ()))
      else
        slices_IndexFunc_L0 m n v_s v_t7 (w_i64 (v_t8 + 1))
      else none
    else
      some (.inr (.inl ()))
def slices_IndexFunc (m : Nat) (v_s : List Int) : Option (Int × Unit × Unit × Unit) :=
  (slices_IndexFunc_L0 m m v_s (v_s.length : Int) 0).bind fun y1 =>
  match y1 with
  | .inl z2 =>
    some (z2.1, ((), (), ()))
  | .inr (.inl z3) =>
    some ((-1), ((), (), ()))
  | .inr (.inr e) =>
    e.elim
/-! 36 slices.ContainsFunc___sparse/api.Float_sparse/api.Float_ -/
def slices_ContainsFunc (m : Nat) (v_s : List Int) : Option (Bool × Unit × Unit × Unit) :=
  (slices_IndexFunc m v_s).bind fun y1 =>
  some (decide (y1.1 ≥ 0), ((), (), ()))
/-! 17 sparse/matrix.Check -/
def matrix_Check (m : Nat) (v_m_0 : Int) (v_m_1 : Int) (v_m_2 : List Int) (v_m_3 : List Int) (v_m_4 : List Int) : Option (Int × Unit × Unit) :=
  (matrix_within m v_m_0 0 200).bind fun y1 =>
  bif !y1.1 then
    some (6, ((), ()))
  else
    (matrix_within m v_m_1 0 200).bind fun y2 =>
    bif !y2.1 then
      some (6, ((), ()))
    else
      bif decide ((v_m_3.length : Int) > 10000) then
        some (6, ((), ()))
      else
        (matrix_columns m v_m_0 v_m_1 v_m_2 v_m_3 v_m_4).bind fun y3 =>
        bif !y3.1 then
          some (1, ((), ()))
        else
          (slices_ContainsFunc m v_m_4).bind fun y4 =>
          bif y4.1 then
            some (4, ((), ()))
          else
            some (0, ((), ()))
/-! 26 sparse/matching.Edges -/
def matching_Edges_L0 (m : Nat) : Nat → Int → Int → List Int → List Int → List Int → List (List Int) → Int → Int → Option ((List (List Int) × Unit) ⊕ Empty)
  | 0, _, _, _, _, _, _, _, _ => none
  | n + 1, v_m_0, v_m_1, v_m_2, v_m_3, v_m_4, v_out, v_t9, v_t10 =>
    bif decide (v_t10 < v_t9) then
      if (0 : Int) ≤ v_t10 ∧ v_t10 < (v_m_2.length : Int) then
      if (0 : Int) ≤ (w_i64 (v_t10 + 1)) ∧ (w_i64 (v_t10 + 1)) < (v_m_2.length : Int) then
      if (0 : Int) ≤ (v_m_2.getD v_t10.toNat 0) ∧ (v_m_2.getD v_t10.toNat 0) ≤ (v_m_2.getD (w_i64 (v_t10 + 1)).toNat 0) ∧ (v_m_2.getD (w_i64 (v_t10 + 1)).toNat 0) ≤ (v_m_3.length : Int) then
      if (0 : Int) ≤ v_t10 ∧ v_t10 < (v_out.length : Int) then
      matching_Edges_L0 m n v_m_0 v_m_1 v_m_2 v_m_3 v_m_4 (v_out.set (0 + v_t10.toNat) ((v_m_3.drop (v_m_2.getD v_t10.toNat 0).toNat).take ((v_m_2.getD (w_i64 (v_t10 + 1)).toNat 0).toNat - (v_m_2.getD v_t10.toNat 0).toNat))) v_t9 (w_i64 (v_t10 + 1))
      else none
      else none
      else none
      else none
    else
      some (.inl (v_out, ()))
def matching_Edges (m : Nat) (v_m_0 : Int) (v_m_1 : Int) (v_m_2 : List Int) (v_m_3 : List Int) (v_m_4 : List Int) : Option (List (List Int) × Unit × Unit) :=
  if (0 : Int) ≤ v_m_1 ∧ v_m_1 ≤ v_m_1 ∧ v_m_1 ≤ 1073741824 then
  (matching_Edges_L0 m m v_m_0 v_m_1 v_m_2 v_m_3 v_m_4 (List.replicate v_m_1.toNat ([] : List Int)) ((List.replicate v_m_1.toNat ([] : List Int)).length : Int) 0).bind fun y1 =>
  match y1 with
  | .inl z2 =>
    some (z2.1, ((), ()))
  | .inr e =>
    e.elim
  else none
/-! 39 sparse/matching.full -/
def matching_full_L0 (m : Nat) : Nat → Int → List Int → Int → Int → Option ((List Int × Unit) ⊕ Empty)
  | 0, _, _, _, _ => none
  | n + 1, v_v, v_out, v_t10, v_t11 =>
    bif decide (v_t11 < v_t10) then
      if (0 : Int) ≤ v_t11 ∧ v_t11 < (v_out.length : Int) then
      matching_full_L0 m n v_v (v_out.set (0 + v_t11.toNat) v_v) v_t10 (w_i64 (v_t11 + 1))
      else none
    else
      some (.inl (v_out, ()))
def matching_full (m : Nat) (v_n : Int) (v_v : Int) : Option (List Int × Unit × Unit × Unit) :=
  if (0 : Int) ≤ v_n ∧ v_n ≤ v_n ∧ v_n ≤ 1073741824 then
  (matching_full_L0 m m v_v (List.replicate v_n.toNat (0 : Int)) ((List.replicate v_n.toNat (0 : Int)).length : Int) 0).bind fun y1 =>
  match y1 with
  | .inl z2 =>
    some (z2.1, ((), (), ()))
  | .inr e =>
    e.elim
  else none
/-! 40 __sparse/matching.kuhn_.try -/
def matching_kuhn_try_L0 (self : List (List Int) → List Int → List Int → List Bool → Int → Option (Bool × (List (List Int) × List Int × List Int × List Bool × Unit) × Unit × Unit)) (m : Nat) : Nat → List (List Int) → List Int → List Int → List Bool → Int → List Int → Int → Int → Option (((List (List Int) × List Int × List Int × List Bool × Unit) × Bool × Unit) ⊕ ((List (List Int) × List Int × List Int × List Bool × Unit) × Unit) ⊕ Empty)
  | 0, _, _, _, _, _, _, _, _ => none
  | n + 1, v_k_0, v_k_1, v_k_2, v_k_3, v_t1, v_t13, v_t14, v_t15 =>
    bif decide (v_t15 < v_t14) then
      if (0 : Int) ≤ v_t15 ∧ v_t15 < (v_t13.length : Int) then
      if (0 : Int) ≤ (v_t13.getD v_t15.toNat 0) ∧ (v_t13.getD v_t15.toNat 0) < (v_k_3.length : Int) then
      bif v_k_3.getD (0 + (v_t13.getD v_t15.toNat 0).toNat) false then
        matching_kuhn_try_L0 self m n v_k_0 v_k_1 v_k_2 v_k_3 v_t1 v_t13 v_t14 (w_i64 (v_t15 + 1))
      else
        if (0 : Int) ≤ (v_t13.getD v_t15.toNat 0) ∧ (v_t13.getD v_t15.toNat 0) < (v_k_3.length : Int) then
        if (0 : Int) ≤ (v_t13.getD v_t15.toNat 0) ∧ (v_t13.getD v_t15.toNat 0) < (v_k_2.length : Int) then
        bif (v_k_2.getD (0 + (v_t13.getD v_t15.toNat 0).toNat) 0) == (-1) then
          if (0 : Int) ≤ v_t1 ∧ v_t1 < (v_k_1.length : Int) then
          if (0 : Int) ≤ (v_t13.getD v_t15.toNat 0) ∧ (v_t13.getD v_t15.toNat 0) < (v_k_2.length : Int) then
          some (.inl ((v_k_0, v_k_1.set (0 + v_t1.toNat) (v_t13.getD v_t15.toNat 0), v_k_2.set (0 + (v_t13.getD v_t15.toNat 0).toNat) v_t1, v_k_3.set (0 + (v_t13.getD v_t15.toNat 0).toNat) true, ()), true, ()))
          else none
          else none
        else
          if (0 : Int) ≤ (v_t13.getD v_t15.toNat 0) ∧ (v_t13.getD v_t15.toNat 0) < (v_k_2.length : Int) then
          (self v_k_0 v_k_1 v_k_2 (v_k_3.set (0 + (v_t13.getD v_t15.toNat 0).toNat) true) (v_k_2.getD (0 + (v_t13.getD v_t15.toNat 0).toNat) 0)).bind fun y1 =>
          bif y1.1 then
            if (0 : Int) ≤ v_t1 ∧ v_t1 < (y1.2.1.2.1.length : Int) then
            if (0 : Int) ≤ (v_t13.getD v_t15.toNat 0) ∧ (v_t13.getD v_t15.toNat 0) < (y1.2.1.2.2.1.length : Int) then
            some (.inl ((y1.2.1.1, y1.2.1.2.1.set (0 + v_t1.toNat) (v_t13.getD v_t15.toNat 0), y1.2.1.2.2.1.set (0 + (v_t13.getD v_t15.toNat 0).toNat) v_t1, y1.2.1.2.2.2.1, ()), true, ()))
            else none
            else none
          else
            matching_kuhn_try_L0 self m n y1.2.1.1 y1.2.1.2.1 y1.2.1.2.2.1 y1.2.1.2.2.2.1 v_t1 v_t13 v_t14 (w_i64 (v_t15 + 1))
          else none
        else none
        else none
      else none
      else none
    else
      some (.inr (.inl ((v_k_0, v_k_1, v_k_2, v_k_3, ()), ())))
def matching_kuhn_try : Nat → List (List Int) → List Int → List Int → List Bool → Int → Option (Bool × (List (List Int) × List Int × List Int × List Bool × Unit) × Unit × Unit)
  | 0, _, _, _, _, _ => none
  | m + 1, v_k_0, v_k_1, v_k_2, v_k_3, v_t1 =>
    if (0 : Int) ≤ v_t1 ∧ v_t1 < (v_k_0.length : Int) then
    (matching_kuhn_try_L0 (fun a0 a1 a2 a3 a4 => matching_kuhn_try m a0 a1 a2 a3 a4) m m v_k_0 v_k_1 v_k_2 v_k_3 v_t1 (v_k_0.getD (0 + v_t1.toNat) ([] : List Int)) ((v_k_0.getD (0 + v_t1.toNat) ([] : List Int)).length : Int) 0).bind fun y1 =>
    match y1 with
    | .inl z2 =>
      some (z2.2.1, ((z2.1.1, z2.1.2.1, z2.1.2.2.1, z2.1.2.2.2.1, ()), (), ()))
    | .inr (.inl z3) =>
      some (false, ((z3.1.1, z3.1.2.1, z3.1.2.2.1, z3.1.2.2.2.1, ()), (), ()))
    | .inr (.inr e) =>
      e.elim
    else none
/-! 18 sparse/matching.matched -/
def matching_matched_L0 (m : Nat) : Nat → Int → Int → List Int → List Int → List Int → List (List Int) → List Int → List Int → List Bool → Int → Int → Option (((List (List Int) × List Int × List Int × List Bool × Unit) × Unit) ⊕ Empty)
  | 0, _, _, _, _, _, _, _, _, _, _, _ => none
  | n + 1, v_m_0, v_m_1, v_m_2, v_m_3, v_m_4, v_k_0, v_k_1, v_k_2, v_k_3, v_t16, v_t17 =>
    bif decide (v_t17 < v_t16) then
      if (0 : Int) ≤ v_m_0 ∧ v_m_0 ≤ v_m_0 ∧ v_m_0 ≤ 1073741824 then
      (matching_kuhn_try m v_k_0 v_k_1 v_k_2 (List.replicate v_m_0.toNat false) v_t17).bind fun y1 =>
      matching_matched_L0 m n v_m_0 v_m_1 v_m_2 v_m_3 v_m_4 y1.2.1.1 y1.2.1.2.1 y1.2.1.2.2.1 y1.2.1.2.2.2.1 v_t16 (w_i64 (v_t17 + 1))
      else none
    else
      some (.inl ((v_k_0, v_k_1, v_k_2, v_k_3, ()), ()))
def matching_matched (m : Nat) (v_m_0 : Int) (v_m_1 : Int) (v_m_2 : List Int) (v_m_3 : List Int) (v_m_4 : List Int) : Option ((List (List Int) × List Int × List Int × List Bool × Unit) × Unit × Unit) :=
  (matching_Edges m v_m_0 v_m_1 v_m_2 v_m_3 v_m_4).bind fun y1 =>
  (matching_full m v_m_1 (-1)).bind fun y2 =>
  (matching_full m v_m_0 (-1)).bind fun y3 =>
  (matching_matched_L0 m m v_m_0 v_m_1 v_m_2 v_m_3 v_m_4 y1.1 y2.1 y3.1 ([] : List Bool) v_m_1 0).bind fun y4 =>
  match y4 with
  | .inl z5 =>
    some ((z5.1.1, z5.1.2.1, z5.1.2.2.1, z5.1.2.2.2.1, ()), ((), ()))
  | .inr e =>
    e.elim
/-! 7 sparse/matching.Maximum -/
def matching_Maximum (m : Nat) (v_m_0 : Int) (v_m_1 : Int) (v_m_2 : List Int) (v_m_3 : List Int) (v_m_4 : List Int) : Option ((List Int × Int × Unit) × Unit × Unit) :=
  (matrix_Check m v_m_0 v_m_1 v_m_2 v_m_3 v_m_4).bind fun y1 =>
  bif y1.1 != 0 then
    some ((([] : List Int), y1.1, ()), ((), ()))
  else
    (matching_matched m v_m_0 v_m_1 v_m_2 v_m_3 v_m_4).bind fun y2 =>
    some ((y2.1.2.1, 0, ()), ((), ()))
/-! 21 sparse/matching.Reachable -/
def matching_Reachable_L2 (m : Nat) : Nat → List Bool → List Bool → List (List Int) → List Int → List Int → List Bool → List Int → List Int → Int → Int → Option ((List Bool × List Bool × (List (List Int) × List Int × List Int × List Bool × Unit) × List Int × Unit) ⊕ Empty)
  | 0, _, _, _, _, _, _, _, _, _, _ => none
  | n + 1, v_t2, v_t3, v_t4_0, v_t4_1, v_t4_2, v_t4_3, v_t5, v_t54, v_t55, v_t56 =>
    bif decide (v_t56 < v_t55) then
      if (0 : Int) ≤ v_t56 ∧ v_t56 < (v_t54.length : Int) then
      if (0 : Int) ≤ (v_t54.getD v_t56.toNat 0) ∧ (v_t54.getD v_t56.toNat 0) < (v_t2.length : Int) then
      if (0 : Int) ≤ (v_t54.getD v_t56.toNat 0) ∧ (v_t54.getD v_t56.toNat 0) < (v_t4_2.length : Int) then
      bif (v_t4_2.getD (0 + (v_t54.getD v_t56.toNat 0).toNat) 0) != (-1) then
        if (0 : Int) ≤ (v_t4_2.getD (0 + (v_t54.getD v_t56.toNat 0).toNat) 0) ∧ (v_t4_2.getD (0 + (v_t54.getD v_t56.toNat 0).toNat) 0) < (v_t3.length : Int) then
        bif !(v_t3.getD (0 + (v_t4_2.getD (0 + (v_t54.getD v_t56.toNat 0).toNat) 0).toNat) false) then
          if (0 : Int) ≤ (v_t4_2.getD (0 + (v_t54.getD v_t56.toNat 0).toNat) 0) ∧ (v_t4_2.getD (0 + (v_t54.getD v_t56.toNat 0).toNat) 0) < (v_t3.length : Int) then
          if v_t5.length + ([v_t4_2.getD (0 + (v_t54.getD v_t56.toNat 0).toNat) 0] : List Int).length ≤ 1073741824 then
          matching_Reachable_L2 m n (v_t2.set (0 + (v_t54.getD v_t56.toNat 0).toNat) true) (v_t3.set (0 + (v_t4_2.getD (0 + (v_t54.getD v_t56.toNat 0).toNat) 0).toNat) true) v_t4_0 v_t4_1 v_t4_2 v_t4_3 (v_t5 ++ ([v_t4_2.getD (0 + (v_t54.getD v_t56.toNat 0).toNat) 0] : List Int)) v_t54 v_t55 (w_i64 (v_t56 + 1))
          else none
          else none
        else
          matching_Reachable_L2 m n (v_t2.set (0 + (v_t54.getD v_t56.toNat 0).toNat) true) v_t3 v_t4_0 v_t4_1 v_t4_2 v_t4_3 v_t5 v_t54 v_t55 (w_i64 (v_t56 + 1))
        else none
      else
        matching_Reachable_L2 m n (v_t2.set (0 + (v_t54.getD v_t56.toNat 0).toNat) true) v_t3 v_t4_0 v_t4_1 v_t4_2 v_t4_3 v_t5 v_t54 v_t55 (w_i64 (v_t56 + 1))
      else none
      else none
      else none
    else
      some (.inl (v_t2, v_t3, (v_t4_0, v_t4_1, v_t4_2, v_t4_3, ()), v_t5, ()))
def matching_Reachable_L1 (m : Nat) : Nat → List Bool → List Bool → List (List Int) → List Int → List Int → List Bool → List Int → Option ((List Bool × List Bool × Unit) ⊕ Empty)
  | 0, _, _, _, _, _, _, _ => none
  | n + 1, v_t2, v_t3, v_t4_0, v_t4_1, v_t4_2, v_t4_3, v_t5 =>
    bif decide ((v_t5.length : Int) > 0) then
      if (0 : Int) ≤ 0 ∧ 0 < (v_t5.length : Int) then
      if (0 : Int) ≤ 1 ∧ 1 ≤ (v_t5.length : Int) ∧ (v_t5.length : Int) ≤ (v_t5.length : Int) then
      if (0 : Int) ≤ (v_t5.getD (0 + 0) 0) ∧ (v_t5.getD (0 + 0) 0) < (v_t4_0.length : Int) then
      (matching_Reachable_L2 m m v_t2 v_t3 v_t4_0 v_t4_1 v_t4_2 v_t4_3 (v_t5.drop 1) (v_t4_0.getD (0 + (v_t5.getD (0 + 0) 0).toNat) ([] : List Int)) ((v_t4_0.getD (0 + (v_t5.getD (0 + 0) 0).toNat) ([] : List Int)).length : Int) 0).bind fun y1 =>
      match y1 with
      | .inl z2 =>
        matching_Reachable_L1 m n z2.1 z2.2.1 z2.2.2.1.1 z2.2.2.1.2.1 z2.2.2.1.2.2.1 z2.2.2.1.2.2.2.1 z2.2.2.2.1
      | .inr e =>
        e.elim
      else none
      else none
      else none
    else
      some (.inl (v_t2, v_t3, ()))
def matching_Reachable_L0 (m : Nat) : Nat → List Bool → List Bool → List (List Int) → List Int → List Int → List Bool → List Int → Int → Int → Option ((List Bool × List Bool × (List (List Int) × List Int × List Int × List Bool × Unit) × List Int × Unit) ⊕ Empty)
  | 0, _, _, _, _, _, _, _, _, _ => none
  | n + 1, v_t2, v_t3, v_t4_0, v_t4_1, v_t4_2, v_t4_3, v_t5, v_t24, v_t25 =>
    bif decide (v_t25 < v_t24) then
      if (0 : Int) ≤ v_t25 ∧ v_t25 < (v_t4_1.length : Int) then
      bif (v_t4_1.getD (0 + v_t25.toNat) 0) == (-1) then
        if (0 : Int) ≤ v_t25 ∧ v_t25 < (v_t3.length : Int) then
        if v_t5.length + ([v_t25] : List Int).length ≤ 1073741824 then
        matching_Reachable_L0 m n v_t2 (v_t3.set (0 + v_t25.toNat) true) v_t4_0 v_t4_1 v_t4_2 v_t4_3 (v_t5 ++ ([v_t25] : List Int)) v_t24 (w_i64 (v_t25 + 1))
        else none
        else none
      else
        matching_Reachable_L0 m n v_t2 v_t3 v_t4_0 v_t4_1 v_t4_2 v_t4_3 v_t5 v_t24 (w_i64 (v_t25 + 1))
      else none
    else
      some (.inl (v_t2, v_t3, (v_t4_0, v_t4_1, v_t4_2, v_t4_3, ()), v_t5, ()))
def matching_Reachable (m : Nat) (v_m_0 : Int) (v_m_1 : Int) (v_m_2 : List Int) (v_m_3 : List Int) (v_m_4 : List Int) : Option ((List Bool × List Bool × Unit) × Unit × Unit) :=
  (matching_matched m v_m_0 v_m_1 v_m_2 v_m_3 v_m_4).bind fun y1 =>
  if (0 : Int) ≤ v_m_0 ∧ v_m_0 ≤ v_m_0 ∧ v_m_0 ≤ 1073741824 then
  if (0 : Int) ≤ v_m_1 ∧ v_m_1 ≤ v_m_1 ∧ v_m_1 ≤ 1073741824 then
  (matching_Reachable_L0 m m (List.replicate v_m_0.toNat false) (List.replicate v_m_1.toNat false) y1.1.1 y1.1.2.1 y1.1.2.2.1 y1.1.2.2.2.1 ([] : List Int) (y1.1.2.1.length : Int) 0).bind fun y2 =>
  match y2 with
  | .inl z3 =>
    (matching_Reachable_L1 m m z3.1 z3.2.1 z3.2.2.1.1 z3.2.2.1.2.1 z3.2.2.1.2.2.1 z3.2.2.1.2.2.2.1 z3.2.2.2.1).bind fun y4 =>
    match y4 with
    | .inl z5 =>
      some ((z5.1, z5.2.1, ()), ((), ()))
    | .inr e =>
      e.elim
  | .inr e =>
    e.elim
  else none
  else none
/-! 22 sparse/matching.List -/
def matching_List_L0 (m : Nat) : Nat → Bool → List Int → List Bool → Int → Int → Option ((List Int × Unit) ⊕ Empty)
  | 0, _, _, _, _, _ => none
  | n + 1, v_value, v_out, v_t8, v_t9, v_t10 =>
    bif decide (v_t10 < v_t9) then
      if (0 : Int) ≤ v_t10 ∧ v_t10 < (v_t8.length : Int) then
      bif (v_t8.getD v_t10.toNat false) == v_value then
        if v_out.length + ([v_t10] : List Int).length ≤ 1073741824 then
        matching_List_L0 m n v_value (v_out ++ ([v_t10] : List Int)) v_t8 v_t9 (w_i64 (v_t10 + 1))
        else none
      else
        matching_List_L0 m n v_value v_out v_t8 v_t9 (w_i64 (v_t10 + 1))
      else none
    else
      some (.inl (v_out, ()))
def matching_List (m : Nat) (v_l : List Bool) (v_value : Bool) : Option (List Int × Unit × Unit × Unit) :=
  (matching_List_L0 m m v_value ([] : List Int) v_l (v_l.length : Int) 0).bind fun y1 =>
  match y1 with
  | .inl z2 =>
    some (z2.1, ((), (), ()))
  | .inr e =>
    e.elim
/-! 9 sparse/matching.Cover -/
def matching_Cover (m : Nat) (v_m_0 : Int) (v_m_1 : Int) (v_m_2 : List Int) (v_m_3 : List Int) (v_m_4 : List Int) : Option (((List Int × List Int × Unit) × Int × Unit) × Unit × Unit) :=
  (matrix_Check m v_m_0 v_m_1 v_m_2 v_m_3 v_m_4).bind fun y1 =>
  bif y1.1 != 0 then
    some (((([] : List Int), ([] : List Int), ()), y1.1, ()), ((), ()))
  else
    (matching_Reachable m v_m_0 v_m_1 v_m_2 v_m_3 v_m_4).bind fun y2 =>
    (matching_List m y2.1.1 true).bind fun y3 =>
    (matching_List m y2.1.2.1 false).bind fun y4 =>
    some (((y3.1, y4.1, ()), 0, ()), ((), ()))
/-! 11 sparse/sparsekit.Ints -/
def sparsekit_Ints_L0 (m : Nat) : Nat → List Int → List Int → Int → Option ((Bool × Unit) ⊕ Unit ⊕ Empty)
  | 0, _, _, _ => none
  | n + 1, v_a, v_b, v_i =>
    bif decide (v_i < (v_a.length : Int)) then
      if (0 : Int) ≤ v_i ∧ v_i < (v_a.length : Int) then
      if (0 : Int) ≤ v_i ∧ v_i < (v_b.length : Int) then
      bif (v_a.getD v_i.toNat 0) != (v_b.getD v_i.toNat 0) then
        some (.inl (false, ()))
      else
        sparsekit_Ints_L0 m n v_a v_b (w_i64 (v_i + 1))
      else none
      else none
    else
      some (.inr (.inl ()))
def sparsekit_Ints (m : Nat) (v_a : List Int) (v_b : List Int) : Option (Bool × Unit × Unit × Unit) :=
  bif (v_a.length : Int) != (v_b.length : Int) then
    some (false, ((), (), ()))
  else
    (sparsekit_Ints_L0 m m v_a v_b 0).bind fun y1 =>
    match y1 with
    | .inl z2 =>
      some (z2.1, ((), (), ()))
    | .inr (.inl z3) =>
      some (true, ((), (), ()))
    | .inr (.inr e) =>
      e.elim
/-! 44 sparse/matching.contains -/
def matching_contains_L0 (m : Nat) : Nat → Int → List Int → Int → Int → Option ((Bool × Unit) ⊕ Unit ⊕ Empty)
  | 0, _, _, _, _ => none
  | n + 1, v_v, v_t7, v_t8, v_t9 =>
    bif decide (v_t9 < v_t8) then
      if (0 : Int) ≤ v_t9 ∧ v_t9 < (v_t7.length : Int) then
      bif (v_t7.getD v_t9.toNat 0) == v_v then
        some (.inl (true, ()))
      else
        matching_contains_L0 m n v_v v_t7 v_t8 (w_i64 (v_t9 + 1))
      else none
    else
      some (.inr (.inl ()))
def matching_contains (m : Nat) (v_l : List Int) (v_v : Int) : Option (Bool × Unit × Unit × Unit) :=
  (matching_contains_L0 m m v_v v_l (v_l.length : Int) 0).bind fun y1 =>
  match y1 with
  | .inl z2 =>
    some (z2.1, ((), (), ()))
  | .inr (.inl z3) =>
    some (false, ((), (), ()))
  | .inr (.inr e) =>
    e.elim
/-! 25 sparse/matching.matching -/
def matching_matching_L0 (m : Nat) : Nat → List (List Int) → Int → List Bool → Int → List Int → Int → Int → Option ((Int × Bool × Unit) ⊕ (Int × Unit) ⊕ Empty)
  | 0, _, _, _, _, _, _, _ => none
  | n + 1, v_edges, v_rows, v_used, v_n, v_t14, v_t15, v_t16 =>
    bif decide (v_t16 < v_t15) then
      if (0 : Int) ≤ v_t16 ∧ v_t16 < (v_t14.length : Int) then
      bif (v_t14.getD v_t16.toNat 0) == (-1) then
        matching_matching_L0 m n v_edges v_rows v_used v_n v_t14 v_t15 (w_i64 (v_t16 + 1))
      else
        bif decide ((v_t14.getD v_t16.toNat 0) < 0) then
          some (.inl (0, false, ()))
        else
          bif decide ((v_t14.getD v_t16.toNat 0) ≥ v_rows) then
            some (.inl (0, false, ()))
          else
            if (0 : Int) ≤ (v_t14.getD v_t16.toNat 0) ∧ (v_t14.getD v_t16.toNat 0) < (v_used.length : Int) then
            bif v_used.getD (0 + (v_t14.getD v_t16.toNat 0).toNat) false then
              some (.inl (0, false, ()))
            else
              if (0 : Int) ≤ v_t16 ∧ v_t16 < (v_edges.length : Int) then
              (matching_contains m (v_edges.getD v_t16.toNat ([] : List Int)) (v_t14.getD v_t16.toNat 0)).bind fun y1 =>
              bif !y1.1 then
                some (.inl (0, false, ()))
              else
                if (0 : Int) ≤ (v_t14.getD v_t16.toNat 0) ∧ (v_t14.getD v_t16.toNat 0) < (v_used.length : Int) then
                matching_matching_L0 m n v_edges v_rows (v_used.set (0 + (v_t14.getD v_t16.toNat 0).toNat) true) (w_i64 (v_n + 1)) v_t14 v_t15 (w_i64 (v_t16 + 1))
                else none
              else none
            else none
      else none
    else
      some (.inr (.inl (v_n, ())))
def matching_matching (m : Nat) (v_edges : List (List Int)) (v_rows : Int) (v_rowOf : List Int) : Option ((Int × Bool × Unit) × Unit × Unit × Unit × Unit) :=
  if (0 : Int) ≤ v_rows ∧ v_rows ≤ v_rows ∧ v_rows ≤ 1073741824 then
  (matching_matching_L0 m m v_edges v_rows (List.replicate v_rows.toNat false) 0 v_rowOf (v_rowOf.length : Int) 0).bind fun y1 =>
  match y1 with
  | .inl z2 =>
    some ((z2.1, z2.2.1, ()), ((), (), (), ()))
  | .inr (.inl z3) =>
    some ((z3.1, true, ()), ((), (), (), ()))
  | .inr (.inr e) =>
    e.elim
  else none
/-! 45 sparse/matching.chosen -/
def matching_chosen_L0 (m : Nat) : Nat → Int → List Bool → Int → List Int → Int → Int → Option ((List Bool × Bool × Unit) ⊕ (List Bool × Unit) ⊕ Empty)
  | 0, _, _, _, _, _, _ => none
  | n + 1, v_n, v_out, v_last, v_t12, v_t13, v_t14 =>
    bif decide (v_t14 < v_t13) then
      if (0 : Int) ≤ v_t14 ∧ v_t14 < (v_t12.length : Int) then
      bif decide ((v_t12.getD v_t14.toNat 0) ≤ v_last) then
        some (.inl (([] : List Bool), false, ()))
      else
        bif decide ((v_t12.getD v_t14.toNat 0) ≥ v_n) then
          some (.inl (([] : List Bool), false, ()))
        else
          if (0 : Int) ≤ (v_t12.getD v_t14.toNat 0) ∧ (v_t12.getD v_t14.toNat 0) < (v_out.length : Int) then
          matching_chosen_L0 m n v_n (v_out.set (0 + (v_t12.getD v_t14.toNat 0).toNat) true) (v_t12.getD v_t14.toNat 0) v_t12 v_t13 (w_i64 (v_t14 + 1))
          else none
      else none
    else
      some (.inr (.inl (v_out, ())))
def matching_chosen (m : Nat) (v_l : List Int) (v_n : Int) : Option ((List Bool × Bool × Unit) × Unit × Unit × Unit) :=
  if (0 : Int) ≤ v_n ∧ v_n ≤ v_n ∧ v_n ≤ 1073741824 then
  (matching_chosen_L0 m m v_n (List.replicate v_n.toNat false) (-1) v_l (v_l.length : Int) 0).bind fun y1 =>
  match y1 with
  | .inl z2 =>
    some ((z2.1, z2.2.1, ()), ((), (), ()))
  | .inr (.inl z3) =>
    some ((z3.1, true, ()), ((), (), ()))
  | .inr (.inr e) =>
    e.elim
  else none
/-! 27 sparse/matching.covers -/
def matching_covers_L1 (m : Nat) : Nat → List Bool → List Bool → Int → List (List Int) → Int → Int → List Int → Int → Int → Option ((Bool × Unit) ⊕ (List Bool × List Bool × List (List Int) × Int × Int × Unit) ⊕ Empty)
  | 0, _, _, _, _, _, _, _, _, _ => none
  | n + 1, v_row, v_col, v_j, v_t36, v_t37, v_t38, v_t43, v_t44, v_t45 =>
    bif decide (v_t45 < v_t44) then
      if (0 : Int) ≤ v_t45 ∧ v_t45 < (v_t43.length : Int) then
      if (0 : Int) ≤ (v_t43.getD v_t45.toNat 0) ∧ (v_t43.getD v_t45.toNat 0) < (v_row.length : Int) then
      bif !(v_row.getD (0 + (v_t43.getD v_t45.toNat 0).toNat) false) then
        if (0 : Int) ≤ v_j ∧ v_j < (v_col.length : Int) then
        bif !(v_col.getD (0 + v_j.toNat) false) then
          some (.inl (false, ()))
        else
          matching_covers_L1 m n v_row v_col v_j v_t36 v_t37 v_t38 v_t43 v_t44 (w_i64 (v_t45 + 1))
        else none
      else
        matching_covers_L1 m n v_row v_col v_j v_t36 v_t37 v_t38 v_t43 v_t44 (w_i64 (v_t45 + 1))
      else none
      else none
    else
      some (.inr (.inl (v_row, v_col, v_t36, v_t37, v_t38, ())))
def matching_covers_L0 (m : Nat) : Nat → List Bool → List Bool → List (List Int) → Int → Int → Option ((Bool × Unit) ⊕ Unit ⊕ Empty)
  | 0, _, _, _, _, _ => none
  | n + 1, v_row, v_col, v_t36, v_t37, v_t38 =>
    bif decide (v_t38 < v_t37) then
      if (0 : Int) ≤ v_t38 ∧ v_t38 < (v_t36.length : Int) then
      (matching_covers_L1 m m v_row v_col v_t38 v_t36 v_t37 v_t38 (v_t36.getD v_t38.toNat ([] : List Int)) ((v_t36.getD v_t38.toNat ([] : List Int)).length : Int) 0).bind fun y1 =>
      match y1 with
      | .inl z2 =>
        some (.inl (z2.1, ()))
      | .inr (.inl z3) =>
        matching_covers_L0 m n z3.1 z3.2.1 z3.2.2.1 z3.2.2.2.1 (w_i64 (z3.2.2.2.2.1 + 1))
      | .inr (.inr e) =>
        e.elim
      else none
    else
      some (.inr (.inl ()))
def matching_covers (m : Nat) (v_edges : List (List Int)) (v_rows : Int) (v_c_0 : List Int) (v_c_1 : List Int) : Option (Bool × Unit × Unit × Unit × Unit) :=
  (matching_chosen m v_c_0 v_rows).bind fun y1 =>
  (matching_chosen m v_c_1 (v_edges.length : Int)).bind fun y2 =>
  bif !y1.1.2.1 then
    some (false, ((), (), (), ()))
  else
    bif !y2.1.2.1 then
      some (false, ((), (), (), ()))
    else
      (matching_covers_L0 m m y1.1.1 y2.1.1 v_edges (v_edges.length : Int) 0).bind fun y3 =>
      match y3 with
      | .inl z4 =>
        some (z4.1, ((), (), (), ()))
      | .inr (.inl z5) =>
        some (true, ((), (), (), ()))
      | .inr (.inr e) =>
        e.elim
/-! 12 sparse/matching.Check -/
def matching_Check (m : Nat) (v_m_0 : Int) (v_m_1 : Int) (v_m_2 : List Int) (v_m_3 : List Int) (v_m_4 : List Int) (v_rowOf : List Int) (v_c_0 : List Int) (v_c_1 : List Int) : Option (Int × Unit × Unit × Unit × Unit) :=
  (matrix_Check m v_m_0 v_m_1 v_m_2 v_m_3 v_m_4).bind fun y1 =>
  bif y1.1 != 0 then
    some (y1.1, ((), (), (), ()))
  else
    bif (v_rowOf.length : Int) != v_m_1 then
      some (2, ((), (), (), ()))
    else
      (matching_Edges m v_m_0 v_m_1 v_m_2 v_m_3 v_m_4).bind fun y2 =>
      (matching_matching m y2.1 v_m_0 v_rowOf).bind fun y3 =>
      bif !y3.1.2.1 then
        some (130, ((), (), (), ()))
      else
        (matching_Edges m v_m_0 v_m_1 v_m_2 v_m_3 v_m_4).bind fun y4 =>
        (matching_covers m y4.1 v_m_0 v_c_0 v_c_1).bind fun y5 =>
        bif !y5.1 then
          some (131, ((), (), (), ()))
        else
          bif (w_i64 ((v_c_0.length : Int) + (v_c_1.length : Int))) != y3.1.1 then
            some (131, ((), (), (), ()))
          else
            some (0, ((), (), (), ()))
/-! 5 sparse/sparselaw13.awake -/
def sparselaw13_awake (m : Nat) : Option (Bool × Unit) :=
  (matching_Maximum m 2 2 ([0, 2, 3] : List Int) ([0, 1, 0] : List Int) ([0, 0, 0] : List Int)).bind fun y1 =>
  (matching_Cover m 2 2 ([0, 2, 3] : List Int) ([0, 1, 0] : List Int) ([0, 0, 0] : List Int)).bind fun y2 =>
  bif y1.1.2.1 == 0 then
    bif y2.1.2.1 == 0 then
      (sparsekit_Ints m y1.1.1 ([1, 0] : List Int)).bind fun y3 =>
      bif y3.1 then
        bif (w_i64 ((y2.1.1.1.length : Int) + (y2.1.1.2.1.length : Int))) == 2 then
          (matching_Check m 2 2 ([0, 2, 3] : List Int) ([0, 1, 0] : List Int) ([0, 0, 0] : List Int) y1.1.1 y2.1.1.1 y2.1.1.2.1).bind fun y4 =>
          some (y4.1 == 0, ())
        else
          some (false, ())
      else
        some (false, ())
    else
      some (false, ())
  else
    some (false, ())
/-! 15 sparse/sparsekit.TwinInts -/
def sparsekit_TwinInts_L0 (m : Nat) : Nat → List Int → List Int → Int → Option ((List Int × Unit) ⊕ Empty)
  | 0, _, _, _ => none
  | n + 1, v_a, v_out, v_i =>
    bif decide (v_i < (v_a.length : Int)) then
      if (0 : Int) ≤ v_i ∧ v_i < (v_a.length : Int) then
      if v_out.length + ([v_a.getD v_i.toNat 0] : List Int).length ≤ 1073741824 then
      sparsekit_TwinInts_L0 m n v_a (v_out ++ ([v_a.getD v_i.toNat 0] : List Int)) (w_i64 (v_i + 1))
      else none
      else none
    else
      some (.inl (v_out, ()))
def sparsekit_TwinInts (m : Nat) (v_a : List Int) : Option (List Int × Unit × Unit) :=
  (sparsekit_TwinInts_L0 m m v_a ([] : List Int) 0).bind fun y1 =>
  match y1 with
  | .inl z2 =>
    some (z2.1, ((), ()))
  | .inr e =>
    e.elim
/-! 16 sparse/sparsekit.TwinFloats -/
def sparsekit_TwinFloats_L0 (m : Nat) : Nat → List Int → List Int → Int → Option ((List Int × Unit) ⊕ Empty)
  | 0, _, _, _ => none
  | n + 1, v_a, v_out, v_i =>
    bif decide (v_i < (v_a.length : Int)) then
      if (0 : Int) ≤ v_i ∧ v_i < (v_a.length : Int) then
      if v_out.length + ([v_a.getD v_i.toNat 0] : List Int).length ≤ 1073741824 then
      sparsekit_TwinFloats_L0 m n v_a (v_out ++ ([v_a.getD v_i.toNat 0] : List Int)) (w_i64 (v_i + 1))
      else none
      else none
    else
      some (.inl (v_out, ()))
def sparsekit_TwinFloats (m : Nat) (v_a : List Int) : Option (List Int × Unit × Unit) :=
  (sparsekit_TwinFloats_L0 m m v_a ([] : List Int) 0).bind fun y1 =>
  match y1 with
  | .inl z2 =>
    some (z2.1, ((), ()))
  | .inr e =>
    e.elim
/-! 6 sparse/sparsekit.TwinMatrix -/
def sparsekit_TwinMatrix (m : Nat) (v_a_0 : Int) (v_a_1 : Int) (v_a_2 : List Int) (v_a_3 : List Int) (v_a_4 : List Int) : Option ((Int × Int × List Int × List Int × List Int × Unit) × Unit × Unit) :=
  (sparsekit_TwinInts m v_a_2).bind fun y1 =>
  (sparsekit_TwinInts m v_a_3).bind fun y2 =>
  (sparsekit_TwinFloats m v_a_4).bind fun y3 =>
  some ((v_a_0, v_a_1, y1.1, y2.1, y3.1, ()), ((), ()))
/-! 49 sparse/sparseref03.IsFinite -/
def sparseref03_IsFinite (m : Nat) (v_f : Int) : Option (Bool × Unit × Unit) :=
  some ((b_and_ .u64 (shr_ .u64 v_f 52) 2047) != 2047, ((), ()))
/-! 41 sparse/sparseref06.Finite -/
def sparseref06_Finite_L0 (m : Nat) : Nat → List Int → Int → Option ((Bool × Unit) ⊕ Unit ⊕ Empty)
  | 0, _, _ => none
  | n + 1, v_l, v_i =>
    bif decide (v_i < (v_l.length : Int)) then
      if (0 : Int) ≤ v_i ∧ v_i < (v_l.length : Int) then
      (sparseref03_IsFinite m (v_l.getD v_i.toNat 0)).bind fun y1 =>
      bif !y1.1 then
        some (.inl (false, ()))
      else
        sparseref06_Finite_L0 m n v_l (w_i64 (v_i + 1))
      else none
    else
      some (.inr (.inl ()))
def sparseref06_Finite (m : Nat) (v_l : List Int) : Option (Bool × Unit × Unit) :=
  (sparseref06_Finite_L0 m m v_l 0).bind fun y1 =>
  match y1 with
  | .inl z2 =>
    some (z2.1, ((), ()))
  | .inr (.inl z3) =>
    some (true, ((), ()))
  | .inr (.inr e) =>
    e.elim
/-! 19 sparse/sparseref09.Check -/
def sparseref09_Check_L2 (m : Nat) : Nat → Int → Int → List Int → List Int → List Int → Int → Int → Option ((Int × Unit) ⊕ ((Int × Int × List Int × List Int × List Int × Unit) × Int × Unit) ⊕ Empty)
  | 0, _, _, _, _, _, _, _ => none
  | n + 1, v_t1_0, v_t1_1, v_t1_2, v_t1_3, v_t1_4, v_t5, v_t6 =>
    if (0 : Int) ≤ (w_i64 (v_t5 + 1)) ∧ (w_i64 (v_t5 + 1)) < (v_t1_2.length : Int) then
    bif decide (v_t6 < (v_t1_2.getD (w_i64 (v_t5 + 1)).toNat 0)) then
      if (0 : Int) ≤ v_t6 ∧ v_t6 < (v_t1_3.length : Int) then
      bif decide ((v_t1_3.getD v_t6.toNat 0) < 0) then
        some (.inl (1, ()))
      else
        if (0 : Int) ≤ v_t6 ∧ v_t6 < (v_t1_3.length : Int) then
        bif decide ((v_t1_3.getD v_t6.toNat 0) ≥ v_t1_0) then
          some (.inl (1, ()))
        else
          if (0 : Int) ≤ v_t5 ∧ v_t5 < (v_t1_2.length : Int) then
          bif decide (v_t6 > (v_t1_2.getD v_t5.toNat 0)) then
            if (0 : Int) ≤ v_t6 ∧ v_t6 < (v_t1_3.length : Int) then
            if (0 : Int) ≤ (w_i64 (v_t6 - 1)) ∧ (w_i64 (v_t6 - 1)) < (v_t1_3.length : Int) then
            bif decide ((v_t1_3.getD v_t6.toNat 0) ≤ (v_t1_3.getD (w_i64 (v_t6 - 1)).toNat 0)) then
              some (.inl (1, ()))
            else
              sparseref09_Check_L2 m n v_t1_0 v_t1_1 v_t1_2 v_t1_3 v_t1_4 v_t5 (w_i64 (v_t6 + 1))
            else none
            else none
          else
            sparseref09_Check_L2 m n v_t1_0 v_t1_1 v_t1_2 v_t1_3 v_t1_4 v_t5 (w_i64 (v_t6 + 1))
          else none
        else none
      else none
    else
      some (.inr (.inl ((v_t1_0, v_t1_1, v_t1_2, v_t1_3, v_t1_4, ()), v_t5, ())))
    else none
def sparseref09_Check_L1 (m : Nat) : Nat → Int → Int → List Int → List Int → List Int → Int → Option ((Int × Unit) ⊕ ((Int × Int × List Int × List Int × List Int × Unit) × Unit) ⊕ Empty)
  | 0, _, _, _, _, _, _ => none
  | n + 1, v_t1_0, v_t1_1, v_t1_2, v_t1_3, v_t1_4, v_t5 =>
    bif decide (v_t5 < v_t1_1) then
      if (0 : Int) ≤ v_t5 ∧ v_t5 < (v_t1_2.length : Int) then
      (sparseref09_Check_L2 m m v_t1_0 v_t1_1 v_t1_2 v_t1_3 v_t1_4 v_t5 (v_t1_2.getD v_t5.toNat 0)).bind fun y1 =>
      match y1 with
      | .inl z2 =>
        some (.inl (z2.1, ()))
      | .inr (.inl z3) =>
        sparseref09_Check_L1 m n z3.1.1 z3.1.2.1 z3.1.2.2.1 z3.1.2.2.2.1 z3.1.2.2.2.2.1 (w_i64 (z3.2.1 + 1))
      | .inr (.inr e) =>
        e.elim
      else none
    else
      some (.inr (.inl ((v_t1_0, v_t1_1, v_t1_2, v_t1_3, v_t1_4, ()), ())))
def sparseref09_Check_L0 (m : Nat) : Nat → Int → Int → List Int → List Int → List Int → Int → Option ((Int × Unit) ⊕ ((Int × Int × List Int × List Int × List Int × Unit) × Unit) ⊕ Empty)
  | 0, _, _, _, _, _, _ => none
  | n + 1, v_t1_0, v_t1_1, v_t1_2, v_t1_3, v_t1_4, v_t4 =>
    bif decide (v_t4 < v_t1_1) then
      if (0 : Int) ≤ v_t4 ∧ v_t4 < (v_t1_2.length : Int) then
      if (0 : Int) ≤ (w_i64 (v_t4 + 1)) ∧ (w_i64 (v_t4 + 1)) < (v_t1_2.length : Int) then
      bif decide ((v_t1_2.getD v_t4.toNat 0) > (v_t1_2.getD (w_i64 (v_t4 + 1)).toNat 0)) then
        some (.inl (1, ()))
      else
        sparseref09_Check_L0 m n v_t1_0 v_t1_1 v_t1_2 v_t1_3 v_t1_4 (w_i64 (v_t4 + 1))
      else none
      else none
    else
      some (.inr (.inl ((v_t1_0, v_t1_1, v_t1_2, v_t1_3, v_t1_4, ()), ())))
def sparseref09_Check (m : Nat) (v_m_0 : Int) (v_m_1 : Int) (v_m_2 : List Int) (v_m_3 : List Int) (v_m_4 : List Int) : Option (Int × Unit × Unit) :=
  bif decide (v_m_0 < 0) then
    some (6, ((), ()))
  else
    bif decide (v_m_0 > 200) then
      some (6, ((), ()))
    else
      bif decide (v_m_1 < 0) then
        some (6, ((), ()))
      else
        bif decide (v_m_1 > 200) then
          some (6, ((), ()))
        else
          bif decide ((v_m_3.length : Int) > 10000) then
            some (6, ((), ()))
          else
            bif (v_m_4.length : Int) != (v_m_3.length : Int) then
              some (1, ((), ()))
            else
              bif (v_m_2.length : Int) != (w_i64 (v_m_1 + 1)) then
                some (1, ((), ()))
              else
                if (0 : Int) ≤ 0 ∧ 0 < (v_m_2.length : Int) then
                bif (v_m_2.getD 0 0) != 0 then
                  some (1, ((), ()))
                else
                  if (0 : Int) ≤ v_m_1 ∧ v_m_1 < (v_m_2.length : Int) then
                  bif (v_m_2.getD v_m_1.toNat 0) != (v_m_3.length : Int) then
                    some (1, ((), ()))
                  else
                    (sparseref09_Check_L0 m m v_m_0 v_m_1 v_m_2 v_m_3 v_m_4 0).bind fun y1 =>
                    match y1 with
                    | .inl z2 =>
                      some (z2.1, ((), ()))
                    | .inr (.inl z3) =>
                      (sparseref09_Check_L1 m m z3.1.1 z3.1.2.1 z3.1.2.2.1 z3.1.2.2.2.1 z3.1.2.2.2.2.1 0).bind fun y4 =>
                      match y4 with
                      | .inl z5 =>
                        some (z5.1, ((), ()))
                      | .inr (.inl z6) =>
                        (sparseref06_Finite m z6.1.2.2.2.2.1).bind fun y7 =>
                        bif !y7.1 then
                          some (4, ((), ()))
                        else
                          some (0, ((), ()))
                      | .inr (.inr e) =>
                        e.elim
                    | .inr (.inr e) =>
                      e.elim
                  else none
                else none
/-! 42 sparse/sparseref13.none -/
def sparseref13_none_L0 (m : Nat) : Nat → Int → List Int → Int → Option ((List Int × Unit) ⊕ Empty)
  | 0, _, _, _ => none
  | n + 1, v_n, v_out, v_i =>
    bif decide (v_i < v_n) then
      if v_out.length + ([(-1)] : List Int).length ≤ 1073741824 then
      sparseref13_none_L0 m n v_n (v_out ++ ([(-1)] : List Int)) (w_i64 (v_i + 1))
      else none
    else
      some (.inl (v_out, ()))
def sparseref13_none (m : Nat) (v_n : Int) : Option (List Int × Unit × Unit) :=
  (sparseref13_none_L0 m m v_n ([] : List Int) 0).bind fun y1 =>
  match y1 with
  | .inl z2 =>
    some (z2.1, ((), ()))
  | .inr e =>
    e.elim
/-! 43 __sparse/sparseref13.Search_.Try -/
def sparseref13_Search_Try_L0 (self : Int → Int → List Int → List Int → List Int → List Int → List Int → List Bool → Int → Option (Bool × (Int × Int × List Int × List Int × List Int × List Int × List Int × List Bool × Unit) × Unit × Unit)) (m : Nat) : Nat → Int → Int → List Int → List Int → List Int → List Int → List Int → List Bool → Int → Int → Option (((Int × Int × List Int × List Int × List Int × List Int × List Int × List Bool × Unit) × Bool × Unit) ⊕ ((Int × Int × List Int × List Int × List Int × List Int × List Int × List Bool × Unit) × Unit) ⊕ Empty)
  | 0, _, _, _, _, _, _, _, _, _, _ => none
  | n + 1, v_s_0, v_s_1, v_s_2, v_s_3, v_s_4, v_s_5, v_s_6, v_s_7, v_t1, v_t5 =>
    if (0 : Int) ≤ (w_i64 (v_t1 + 1)) ∧ (w_i64 (v_t1 + 1)) < (v_s_2.length : Int) then
    bif decide (v_t5 < (v_s_2.getD (w_i64 (v_t1 + 1)).toNat 0)) then
      if (0 : Int) ≤ v_t5 ∧ v_t5 < (v_s_3.length : Int) then
      if (0 : Int) ≤ (v_s_3.getD v_t5.toNat 0) ∧ (v_s_3.getD v_t5.toNat 0) < (v_s_7.length : Int) then
      bif v_s_7.getD (0 + (v_s_3.getD v_t5.toNat 0).toNat) false then
        sparseref13_Search_Try_L0 self m n v_s_0 v_s_1 v_s_2 v_s_3 v_s_4 v_s_5 v_s_6 v_s_7 v_t1 (w_i64 (v_t5 + 1))
      else
        if (0 : Int) ≤ (v_s_3.getD v_t5.toNat 0) ∧ (v_s_3.getD v_t5.toNat 0) < (v_s_7.length : Int) then
        if (0 : Int) ≤ (v_s_3.getD v_t5.toNat 0) ∧ (v_s_3.getD v_t5.toNat 0) < (v_s_5.length : Int) then
        bif decide ((v_s_5.getD (0 + (v_s_3.getD v_t5.toNat 0).toNat) 0) < 0) then
          if (0 : Int) ≤ (v_s_3.getD v_t5.toNat 0) ∧ (v_s_3.getD v_t5.toNat 0) < (v_s_5.length : Int) then
          if (0 : Int) ≤ v_t1 ∧ v_t1 < (v_s_6.length : Int) then
          some (.inl ((v_s_0, v_s_1, v_s_2, v_s_3, v_s_4, v_s_5.set (0 + (v_s_3.getD v_t5.toNat 0).toNat) v_t1, v_s_6.set (0 + v_t1.toNat) (v_s_3.getD v_t5.toNat 0), v_s_7.set (0 + (v_s_3.getD v_t5.toNat 0).toNat) true, ()), true, ()))
          else none
          else none
        else
          if (0 : Int) ≤ (v_s_3.getD v_t5.toNat 0) ∧ (v_s_3.getD v_t5.toNat 0) < (v_s_5.length : Int) then
          (self v_s_0 v_s_1 v_s_2 v_s_3 v_s_4 v_s_5 v_s_6 (v_s_7.set (0 + (v_s_3.getD v_t5.toNat 0).toNat) true) (v_s_5.getD (0 + (v_s_3.getD v_t5.toNat 0).toNat) 0)).bind fun y1 =>
          bif y1.1 then
            if (0 : Int) ≤ (v_s_3.getD v_t5.toNat 0) ∧ (v_s_3.getD v_t5.toNat 0) < (y1.2.1.2.2.2.2.2.1.length : Int) then
            if (0 : Int) ≤ v_t1 ∧ v_t1 < (y1.2.1.2.2.2.2.2.2.1.length : Int) then
            some (.inl ((y1.2.1.1, y1.2.1.2.1, y1.2.1.2.2.1, y1.2.1.2.2.2.1, y1.2.1.2.2.2.2.1, y1.2.1.2.2.2.2.2.1.set (0 + (v_s_3.getD v_t5.toNat 0).toNat) v_t1, y1.2.1.2.2.2.2.2.2.1.set (0 + v_t1.toNat) (v_s_3.getD v_t5.toNat 0), y1.2.1.2.2.2.2.2.2.2.1, ()), true, ()))
            else none
            else none
          else
            sparseref13_Search_Try_L0 self m n y1.2.1.1 y1.2.1.2.1 y1.2.1.2.2.1 y1.2.1.2.2.2.1 y1.2.1.2.2.2.2.1 y1.2.1.2.2.2.2.2.1 y1.2.1.2.2.2.2.2.2.1 y1.2.1.2.2.2.2.2.2.2.1 v_t1 (w_i64 (v_t5 + 1))
          else none
        else none
        else none
      else none
      else none
    else
      some (.inr (.inl ((v_s_0, v_s_1, v_s_2, v_s_3, v_s_4, v_s_5, v_s_6, v_s_7, ()), ())))
    else none
def sparseref13_Search_Try : Nat → Int → Int → List Int → List Int → List Int → List Int → List Int → List Bool → Int → Option (Bool × (Int × Int × List Int × List Int × List Int × List Int × List Int × List Bool × Unit) × Unit × Unit)
  | 0, _, _, _, _, _, _, _, _, _ => none
  | m + 1, v_s_0, v_s_1, v_s_2, v_s_3, v_s_4, v_s_5, v_s_6, v_s_7, v_t1 =>
    if (0 : Int) ≤ v_t1 ∧ v_t1 < (v_s_2.length : Int) then
    (sparseref13_Search_Try_L0 (fun a0 a1 a2 a3 a4 a5 a6 a7 a8 => sparseref13_Search_Try m a0 a1 a2 a3 a4 a5 a6 a7 a8) m m v_s_0 v_s_1 v_s_2 v_s_3 v_s_4 v_s_5 v_s_6 v_s_7 v_t1 (v_s_2.getD v_t1.toNat 0)).bind fun y1 =>
    match y1 with
    | .inl z2 =>
      some (z2.2.1, ((z2.1.1, z2.1.2.1, z2.1.2.2.1, z2.1.2.2.2.1, z2.1.2.2.2.2.1, z2.1.2.2.2.2.2.1, z2.1.2.2.2.2.2.2.1, z2.1.2.2.2.2.2.2.2.1, ()), (), ()))
    | .inr (.inl z3) =>
      some (false, ((z3.1.1, z3.1.2.1, z3.1.2.2.1, z3.1.2.2.2.1, z3.1.2.2.2.2.1, z3.1.2.2.2.2.2.1, z3.1.2.2.2.2.2.2.1, z3.1.2.2.2.2.2.2.2.1, ()), (), ()))
    | .inr (.inr e) =>
      e.elim
    else none
/-! 20 sparse/sparseref13.Find -/
def sparseref13_Find_L0 (m : Nat) : Nat → Int → Int → List Int → List Int → List Int → Int → Int → List Int → List Int → List Int → List Int → List Int → List Bool → Int → Option (((Int × Int × List Int × List Int × List Int × List Int × List Int × List Bool × Unit) × Unit) ⊕ Empty)
  | 0, _, _, _, _, _, _, _, _, _, _, _, _, _, _ => none
  | n + 1, v_m_0, v_m_1, v_m_2, v_m_3, v_m_4, v_s_0, v_s_1, v_s_2, v_s_3, v_s_4, v_s_5, v_s_6, v_s_7, v_j =>
    bif decide (v_j < v_m_1) then
      if (0 : Int) ≤ v_m_0 ∧ v_m_0 ≤ v_m_0 ∧ v_m_0 ≤ 1073741824 then
      (sparseref13_Search_Try m v_s_0 v_s_1 v_s_2 v_s_3 v_s_4 v_s_5 v_s_6 (List.replicate v_m_0.toNat false) v_j).bind fun y1 =>
      sparseref13_Find_L0 m n v_m_0 v_m_1 v_m_2 v_m_3 v_m_4 y1.2.1.1 y1.2.1.2.1 y1.2.1.2.2.1 y1.2.1.2.2.2.1 y1.2.1.2.2.2.2.1 y1.2.1.2.2.2.2.2.1 y1.2.1.2.2.2.2.2.2.1 y1.2.1.2.2.2.2.2.2.2.1 (w_i64 (v_j + 1))
      else none
    else
      some (.inl ((v_s_0, v_s_1, v_s_2, v_s_3, v_s_4, v_s_5, v_s_6, v_s_7, ()), ()))
def sparseref13_Find (m : Nat) (v_m_0 : Int) (v_m_1 : Int) (v_m_2 : List Int) (v_m_3 : List Int) (v_m_4 : List Int) : Option ((Int × Int × List Int × List Int × List Int × List Int × List Int × List Bool × Unit) × Unit × Unit) :=
  (sparseref13_none m v_m_0).bind fun y1 =>
  (sparseref13_none m v_m_1).bind fun y2 =>
  (sparseref13_Find_L0 m m v_m_0 v_m_1 v_m_2 v_m_3 v_m_4 v_m_0 v_m_1 v_m_2 v_m_3 v_m_4 y1.1 y2.1 ([] : List Bool) 0).bind fun y3 =>
  match y3 with
  | .inl z4 =>
    some ((z4.1.1, z4.1.2.1, z4.1.2.2.1, z4.1.2.2.2.1, z4.1.2.2.2.2.1, z4.1.2.2.2.2.2.1, z4.1.2.2.2.2.2.2.1, z4.1.2.2.2.2.2.2.2.1, ()), ((), ()))
  | .inr e =>
    e.elim
/-! 8 sparse/sparseref13.Maximum -/
def sparseref13_Maximum (m : Nat) (v_m_0 : Int) (v_m_1 : Int) (v_m_2 : List Int) (v_m_3 : List Int) (v_m_4 : List Int) : Option ((List Int × Int × Unit) × Unit × Unit) :=
  (sparseref09_Check m v_m_0 v_m_1 v_m_2 v_m_3 v_m_4).bind fun y1 =>
  bif y1.1 != 0 then
    some ((([] : List Int), y1.1, ()), ((), ()))
  else
    (sparseref13_Find m v_m_0 v_m_1 v_m_2 v_m_3 v_m_4).bind fun y2 =>
    some ((y2.1.2.2.2.2.2.2.1, 0, ()), ((), ()))
/-! 23 sparse/sparseref13.Reach -/
def sparseref13_Reach_L2 (m : Nat) : Nat → Int → Int → List Int → List Int → List Int → List Int → List Int → List Bool → List Bool → List Bool → List Int → Int → Int → Option (((Int × Int × List Int × List Int × List Int × List Int × List Int × List Bool × Unit) × List Bool × List Bool × List Int × Unit) ⊕ Empty)
  | 0, _, _, _, _, _, _, _, _, _, _, _, _, _ => none
  | n + 1, v_s_0, v_s_1, v_s_2, v_s_3, v_s_4, v_s_5, v_s_6, v_s_7, v_t4, v_t5, v_t6, v_t8, v_t9 =>
    if (0 : Int) ≤ (w_i64 (v_t8 + 1)) ∧ (w_i64 (v_t8 + 1)) < (v_s_2.length : Int) then
    bif decide (v_t9 < (v_s_2.getD (w_i64 (v_t8 + 1)).toNat 0)) then
      if (0 : Int) ≤ v_t9 ∧ v_t9 < (v_s_3.length : Int) then
      if (0 : Int) ≤ (v_s_3.getD v_t9.toNat 0) ∧ (v_s_3.getD v_t9.toNat 0) < (v_t4.length : Int) then
      if (0 : Int) ≤ (v_s_3.getD v_t9.toNat 0) ∧ (v_s_3.getD v_t9.toNat 0) < (v_s_5.length : Int) then
      bif decide ((v_s_5.getD (0 + (v_s_3.getD v_t9.toNat 0).toNat) 0) ≥ 0) then
        if (0 : Int) ≤ (v_s_5.getD (0 + (v_s_3.getD v_t9.toNat 0).toNat) 0) ∧ (v_s_5.getD (0 + (v_s_3.getD v_t9.toNat 0).toNat) 0) < (v_t5.length : Int) then
        bif !(v_t5.getD (0 + (v_s_5.getD (0 + (v_s_3.getD v_t9.toNat 0).toNat) 0).toNat) false) then
          if (0 : Int) ≤ (v_s_5.getD (0 + (v_s_3.getD v_t9.toNat 0).toNat) 0) ∧ (v_s_5.getD (0 + (v_s_3.getD v_t9.toNat 0).toNat) 0) < (v_t5.length : Int) then
          if v_t6.length + ([v_s_5.getD (0 + (v_s_3.getD v_t9.toNat 0).toNat) 0] : List Int).length ≤ 1073741824 then
          sparseref13_Reach_L2 m n v_s_0 v_s_1 v_s_2 v_s_3 v_s_4 v_s_5 v_s_6 v_s_7 (v_t4.set (0 + (v_s_3.getD v_t9.toNat 0).toNat) true) (v_t5.set (0 + (v_s_5.getD (0 + (v_s_3.getD v_t9.toNat 0).toNat) 0).toNat) true) (v_t6 ++ ([v_s_5.getD (0 + (v_s_3.getD v_t9.toNat 0).toNat) 0] : List Int)) v_t8 (w_i64 (v_t9 + 1))
          else none
          else none
        else
          sparseref13_Reach_L2 m n v_s_0 v_s_1 v_s_2 v_s_3 v_s_4 v_s_5 v_s_6 v_s_7 (v_t4.set (0 + (v_s_3.getD v_t9.toNat 0).toNat) true) v_t5 v_t6 v_t8 (w_i64 (v_t9 + 1))
        else none
      else
        sparseref13_Reach_L2 m n v_s_0 v_s_1 v_s_2 v_s_3 v_s_4 v_s_5 v_s_6 v_s_7 (v_t4.set (0 + (v_s_3.getD v_t9.toNat 0).toNat) true) v_t5 v_t6 v_t8 (w_i64 (v_t9 + 1))
      else none
      else none
      else none
    else
      some (.inl ((v_s_0, v_s_1, v_s_2, v_s_3, v_s_4, v_s_5, v_s_6, v_s_7, ()), v_t4, v_t5, v_t6, ()))
    else none
def sparseref13_Reach_L1 (m : Nat) : Nat → Int → Int → List Int → List Int → List Int → List Int → List Int → List Bool → List Bool → List Bool → List Int → Option (((Int × Int × List Int × List Int × List Int × List Int × List Int × List Bool × Unit) × List Bool × List Bool × Unit) ⊕ Empty)
  | 0, _, _, _, _, _, _, _, _, _, _, _ => none
  | n + 1, v_s_0, v_s_1, v_s_2, v_s_3, v_s_4, v_s_5, v_s_6, v_s_7, v_t4, v_t5, v_t6 =>
    bif decide ((v_t6.length : Int) > 0) then
      if (0 : Int) ≤ (w_i64 ((v_t6.length : Int) - 1)) ∧ (w_i64 ((v_t6.length : Int) - 1)) < (v_t6.length : Int) then
      if (0 : Int) ≤ 0 ∧ 0 ≤ (w_i64 ((v_t6.length : Int) - 1)) ∧ (w_i64 ((v_t6.length : Int) - 1)) ≤ (v_t6.length : Int) then
      if (0 : Int) ≤ (v_t6.getD (0 + (w_i64 ((v_t6.length : Int) - 1)).toNat) 0) ∧ (v_t6.getD (0 + (w_i64 ((v_t6.length : Int) - 1)).toNat) 0) < (v_s_2.length : Int) then
      (sparseref13_Reach_L2 m m v_s_0 v_s_1 v_s_2 v_s_3 v_s_4 v_s_5 v_s_6 v_s_7 v_t4 v_t5 (v_t6.take (w_i64 ((v_t6.length : Int) - 1)).toNat) (v_t6.getD (0 + (w_i64 ((v_t6.length : Int) - 1)).toNat) 0) (v_s_2.getD (v_t6.getD (0 + (w_i64 ((v_t6.length : Int) - 1)).toNat) 0).toNat 0)).bind fun y1 =>
      match y1 with
      | .inl z2 =>
        sparseref13_Reach_L1 m n z2.1.1 z2.1.2.1 z2.1.2.2.1 z2.1.2.2.2.1 z2.1.2.2.2.2.1 z2.1.2.2.2.2.2.1 z2.1.2.2.2.2.2.2.1 z2.1.2.2.2.2.2.2.2.1 z2.2.1 z2.2.2.1 z2.2.2.2.1
      | .inr e =>
        e.elim
      else none
      else none
      else none
    else
      some (.inl ((v_s_0, v_s_1, v_s_2, v_s_3, v_s_4, v_s_5, v_s_6, v_s_7, ()), v_t4, v_t5, ()))
def sparseref13_Reach_L0 (m : Nat) : Nat → Int → Int → List Int → List Int → List Int → List Int → List Int → List Bool → List Bool → List Bool → List Int → Int → Option (((Int × Int × List Int × List Int × List Int × List Int × List Int × List Bool × Unit) × List Bool × List Bool × List Int × Unit) ⊕ Empty)
  | 0, _, _, _, _, _, _, _, _, _, _, _, _ => none
  | n + 1, v_s_0, v_s_1, v_s_2, v_s_3, v_s_4, v_s_5, v_s_6, v_s_7, v_t4, v_t5, v_t6, v_t7 =>
    bif decide (v_t7 < v_s_1) then
      if (0 : Int) ≤ v_t7 ∧ v_t7 < (v_s_6.length : Int) then
      bif decide ((v_s_6.getD (0 + v_t7.toNat) 0) < 0) then
        if (0 : Int) ≤ v_t7 ∧ v_t7 < (v_t5.length : Int) then
        if v_t6.length + ([v_t7] : List Int).length ≤ 1073741824 then
        sparseref13_Reach_L0 m n v_s_0 v_s_1 v_s_2 v_s_3 v_s_4 v_s_5 v_s_6 v_s_7 v_t4 (v_t5.set (0 + v_t7.toNat) true) (v_t6 ++ ([v_t7] : List Int)) (w_i64 (v_t7 + 1))
        else none
        else none
      else
        sparseref13_Reach_L0 m n v_s_0 v_s_1 v_s_2 v_s_3 v_s_4 v_s_5 v_s_6 v_s_7 v_t4 v_t5 v_t6 (w_i64 (v_t7 + 1))
      else none
    else
      some (.inl ((v_s_0, v_s_1, v_s_2, v_s_3, v_s_4, v_s_5, v_s_6, v_s_7, ()), v_t4, v_t5, v_t6, ()))
def sparseref13_Reach (m : Nat) (v_s_0 : Int) (v_s_1 : Int) (v_s_2 : List Int) (v_s_3 : List Int) (v_s_4 : List Int) (v_s_5 : List Int) (v_s_6 : List Int) (v_s_7 : List Bool) : Option ((List Bool × List Bool × Unit) × (Int × Int × List Int × List Int × List Int × List Int × List Int × List Bool × Unit) × Unit) :=
  if (0 : Int) ≤ v_s_0 ∧ v_s_0 ≤ v_s_0 ∧ v_s_0 ≤ 1073741824 then
  if (0 : Int) ≤ v_s_1 ∧ v_s_1 ≤ v_s_1 ∧ v_s_1 ≤ 1073741824 then
  (sparseref13_Reach_L0 m m v_s_0 v_s_1 v_s_2 v_s_3 v_s_4 v_s_5 v_s_6 v_s_7 (List.replicate v_s_0.toNat false) (List.replicate v_s_1.toNat false) ([] : List Int) 0).bind fun y1 =>
  match y1 with
  | .inl z2 =>
    (sparseref13_Reach_L1 m m z2.1.1 z2.1.2.1 z2.1.2.2.1 z2.1.2.2.2.1 z2.1.2.2.2.2.1 z2.1.2.2.2.2.2.1 z2.1.2.2.2.2.2.2.1 z2.1.2.2.2.2.2.2.2.1 z2.2.1 z2.2.2.1 z2.2.2.2.1).bind fun y3 =>
    match y3 with
    | .inl z4 =>
      some ((z4.2.1, z4.2.2.1, ()), ((z4.1.1, z4.1.2.1, z4.1.2.2.1, z4.1.2.2.2.1, z4.1.2.2.2.2.1, z4.1.2.2.2.2.2.1, z4.1.2.2.2.2.2.2.1, z4.1.2.2.2.2.2.2.2.1, ()), ()))
    | .inr e =>
      e.elim
  | .inr e =>
    e.elim
  else none
  else none
/-! 24 sparse/sparseref13.Chosen -/
def sparseref13_Chosen_L0 (m : Nat) : Nat → List Bool → Bool → List Int → Int → Option ((List Int × Unit) ⊕ Empty)
  | 0, _, _, _, _ => none
  | n + 1, v_l, v_is, v_out, v_i =>
    bif decide (v_i < (v_l.length : Int)) then
      if (0 : Int) ≤ v_i ∧ v_i < (v_l.length : Int) then
      bif (v_l.getD v_i.toNat false) == v_is then
        if v_out.length + ([v_i] : List Int).length ≤ 1073741824 then
        sparseref13_Chosen_L0 m n v_l v_is (v_out ++ ([v_i] : List Int)) (w_i64 (v_i + 1))
        else none
      else
        sparseref13_Chosen_L0 m n v_l v_is v_out (w_i64 (v_i + 1))
      else none
    else
      some (.inl (v_out, ()))
def sparseref13_Chosen (m : Nat) (v_l : List Bool) (v_is : Bool) : Option (List Int × Unit × Unit × Unit) :=
  (sparseref13_Chosen_L0 m m v_l v_is ([] : List Int) 0).bind fun y1 =>
  match y1 with
  | .inl z2 =>
    some (z2.1, ((), (), ()))
  | .inr e =>
    e.elim
/-! 10 sparse/sparseref13.Cover -/
def sparseref13_Cover (m : Nat) (v_m_0 : Int) (v_m_1 : Int) (v_m_2 : List Int) (v_m_3 : List Int) (v_m_4 : List Int) : Option (((List Int × List Int × Unit) × Int × Unit) × Unit × Unit) :=
  (sparseref09_Check m v_m_0 v_m_1 v_m_2 v_m_3 v_m_4).bind fun y1 =>
  bif y1.1 != 0 then
    some (((([] : List Int), ([] : List Int), ()), y1.1, ()), ((), ()))
  else
    (sparseref13_Find m v_m_0 v_m_1 v_m_2 v_m_3 v_m_4).bind fun y2 =>
    (sparseref13_Reach m y2.1.1 y2.1.2.1 y2.1.2.2.1 y2.1.2.2.2.1 y2.1.2.2.2.2.1 y2.1.2.2.2.2.2.1 y2.1.2.2.2.2.2.2.1 y2.1.2.2.2.2.2.2.2.1).bind fun y3 =>
    (sparseref13_Chosen m y3.1.1 true).bind fun y4 =>
    (sparseref13_Chosen m y3.1.2.1 false).bind fun y5 =>
    some (((y4.1, y5.1, ()), 0, ()), ((), ()))
/-! 28 sparse/sparseref09.Stored -/
def sparseref09_Stored_L0 (m : Nat) : Nat → Int → Int → Int → Int → List Int → List Int → List Int → Int → Option ((Bool × Unit) ⊕ Unit ⊕ Empty)
  | 0, _, _, _, _, _, _, _, _ => none
  | n + 1, v_i, v_j, v_m_0, v_m_1, v_m_2, v_m_3, v_m_4, v_k =>
    if (0 : Int) ≤ (w_i64 (v_j + 1)) ∧ (w_i64 (v_j + 1)) < (v_m_2.length : Int) then
    bif decide (v_k < (v_m_2.getD (w_i64 (v_j + 1)).toNat 0)) then
      if (0 : Int) ≤ v_k ∧ v_k < (v_m_3.length : Int) then
      bif (v_m_3.getD v_k.toNat 0) == v_i then
        some (.inl (true, ()))
      else
        sparseref09_Stored_L0 m n v_i v_j v_m_0 v_m_1 v_m_2 v_m_3 v_m_4 (w_i64 (v_k + 1))
      else none
    else
      some (.inr (.inl ()))
    else none
def sparseref09_Stored (m : Nat) (v_m_0 : Int) (v_m_1 : Int) (v_m_2 : List Int) (v_m_3 : List Int) (v_m_4 : List Int) (v_i : Int) (v_j : Int) : Option (Bool × Unit × Unit × Unit × Unit) :=
  bif decide (v_i < 0) then
    some (false, ((), (), (), ()))
  else
    bif decide (v_i ≥ v_m_0) then
      some (false, ((), (), (), ()))
    else
      bif decide (v_j < 0) then
        some (false, ((), (), (), ()))
      else
        bif decide (v_j ≥ v_m_1) then
          some (false, ((), (), (), ()))
        else
          if (0 : Int) ≤ v_j ∧ v_j < (v_m_2.length : Int) then
          (sparseref09_Stored_L0 m m v_i v_j v_m_0 v_m_1 v_m_2 v_m_3 v_m_4 (v_m_2.getD v_j.toNat 0)).bind fun y1 =>
          match y1 with
          | .inl z2 =>
            some (z2.1, ((), (), (), ()))
          | .inr (.inl z3) =>
            some (false, ((), (), (), ()))
          | .inr (.inr e) =>
            e.elim
          else none
/-! 29 sparse/sparsekit.Ascending -/
def sparsekit_Ascending_L0 (m : Nat) : Nat → List Int → Int → Option ((Bool × Unit) ⊕ Unit ⊕ Empty)
  | 0, _, _ => none
  | n + 1, v_l, v_i =>
    bif decide (v_i < (v_l.length : Int)) then
      if (0 : Int) ≤ v_i ∧ v_i < (v_l.length : Int) then
      if (0 : Int) ≤ (w_i64 (v_i - 1)) ∧ (w_i64 (v_i - 1)) < (v_l.length : Int) then
      bif decide ((v_l.getD v_i.toNat 0) ≤ (v_l.getD (w_i64 (v_i - 1)).toNat 0)) then
        some (.inl (false, ()))
      else
        sparsekit_Ascending_L0 m n v_l (w_i64 (v_i + 1))
      else none
      else none
    else
      some (.inr (.inl ()))
def sparsekit_Ascending (m : Nat) (v_l : List Int) : Option (Bool × Unit × Unit) :=
  (sparsekit_Ascending_L0 m m v_l 1).bind fun y1 =>
  match y1 with
  | .inl z2 =>
    some (z2.1, ((), ()))
  | .inr (.inl z3) =>
    some (true, ((), ()))
  | .inr (.inr e) =>
    e.elim
/-! 30 sparse/sparseref09.Range -/
def sparseref09_Range_L0 (m : Nat) : Nat → List Int → Int → Int → Option ((Bool × Unit) ⊕ Unit ⊕ Empty)
  | 0, _, _, _ => none
  | n + 1, v_l, v_n, v_i =>
    bif decide (v_i < (v_l.length : Int)) then
      if (0 : Int) ≤ v_i ∧ v_i < (v_l.length : Int) then
      bif decide ((v_l.getD v_i.toNat 0) < 0) then
        some (.inl (false, ()))
      else
        if (0 : Int) ≤ v_i ∧ v_i < (v_l.length : Int) then
        bif decide ((v_l.getD v_i.toNat 0) ≥ v_n) then
          some (.inl (false, ()))
        else
          sparseref09_Range_L0 m n v_l v_n (w_i64 (v_i + 1))
        else none
      else none
    else
      some (.inr (.inl ()))
def sparseref09_Range (m : Nat) (v_l : List Int) (v_n : Int) : Option (Bool × Unit × Unit × Unit) :=
  (sparseref09_Range_L0 m m v_l v_n 0).bind fun y1 =>
  match y1 with
  | .inl z2 =>
    some (z2.1, ((), (), ()))
  | .inr (.inl z3) =>
    some (true, ((), (), ()))
  | .inr (.inr e) =>
    e.elim
/-! 31 sparse/sparseref09.Entries -/
def sparseref09_Entries_L1 (m : Nat) : Nat → Int → Int → List Int → List Int → List Int → (List (Int × Int × Int)) → Int → Int → Option (((Int × Int × List Int × List Int × List Int × Unit) × (List (Int × Int × Int)) × Int × Unit) ⊕ Empty)
  | 0, _, _, _, _, _, _, _, _ => none
  | n + 1, v_m_0, v_m_1, v_m_2, v_m_3, v_m_4, v_out, v_j, v_k =>
    if (0 : Int) ≤ (w_i64 (v_j + 1)) ∧ (w_i64 (v_j + 1)) < (v_m_2.length : Int) then
    bif decide (v_k < (v_m_2.getD (w_i64 (v_j + 1)).toNat 0)) then
      if (0 : Int) ≤ v_k ∧ v_k < (v_m_3.length : Int) then
      if (0 : Int) ≤ v_k ∧ v_k < (v_m_4.length : Int) then
      if v_out.length + ([(v_m_3.getD v_k.toNat 0, (v_j, v_m_4.getD v_k.toNat 0))] : List (Int × Int × Int)).length ≤ 1073741824 then
      sparseref09_Entries_L1 m n v_m_0 v_m_1 v_m_2 v_m_3 v_m_4 (v_out ++ ([(v_m_3.getD v_k.toNat 0, (v_j, v_m_4.getD v_k.toNat 0))] : List (Int × Int × Int))) v_j (w_i64 (v_k + 1))
      else none
      else none
      else none
    else
      some (.inl ((v_m_0, v_m_1, v_m_2, v_m_3, v_m_4, ()), v_out, v_j, ()))
    else none
def sparseref09_Entries_L0 (m : Nat) : Nat → Int → Int → List Int → List Int → List Int → (List (Int × Int × Int)) → Int → Option (((List (Int × Int × Int)) × Unit) ⊕ Empty)
  | 0, _, _, _, _, _, _, _ => none
  | n + 1, v_m_0, v_m_1, v_m_2, v_m_3, v_m_4, v_out, v_j =>
    bif decide (v_j < v_m_1) then
      if (0 : Int) ≤ v_j ∧ v_j < (v_m_2.length : Int) then
      (sparseref09_Entries_L1 m m v_m_0 v_m_1 v_m_2 v_m_3 v_m_4 v_out v_j (v_m_2.getD v_j.toNat 0)).bind fun y1 =>
      match y1 with
      | .inl z2 =>
        sparseref09_Entries_L0 m n z2.1.1 z2.1.2.1 z2.1.2.2.1 z2.1.2.2.2.1 z2.1.2.2.2.2.1 z2.2.1 (w_i64 (z2.2.2.1 + 1))
      | .inr e =>
        e.elim
      else none
    else
      some (.inl (v_out, ()))
def sparseref09_Entries (m : Nat) (v_m_0 : Int) (v_m_1 : Int) (v_m_2 : List Int) (v_m_3 : List Int) (v_m_4 : List Int) : Option ((List (Int × Int × Int)) × Unit × Unit) :=
  (sparseref09_Check m v_m_0 v_m_1 v_m_2 v_m_3 v_m_4).bind fun y1 =>
  bif y1.1 != 0 then
    some (([] : List (Int × Int × Int)), ((), ()))
  else
    (sparseref09_Entries_L0 m m v_m_0 v_m_1 v_m_2 v_m_3 v_m_4 ([] : List (Int × Int × Int)) 0).bind fun y2 =>
    match y2 with
    | .inl z3 =>
      some (z3.1, ((), ()))
    | .inr e =>
      e.elim
/-! 32 sparse/sparsekit.In -/
def sparsekit_In_L0 (m : Nat) : Nat → List Int → Int → Int → Option ((Bool × Unit) ⊕ Unit ⊕ Empty)
  | 0, _, _, _ => none
  | n + 1, v_l, v_v, v_i =>
    bif decide (v_i < (v_l.length : Int)) then
      if (0 : Int) ≤ v_i ∧ v_i < (v_l.length : Int) then
      bif (v_l.getD v_i.toNat 0) == v_v then
        some (.inl (true, ()))
      else
        sparsekit_In_L0 m n v_l v_v (w_i64 (v_i + 1))
      else none
    else
      some (.inr (.inl ()))
def sparsekit_In (m : Nat) (v_l : List Int) (v_v : Int) : Option (Bool × Unit × Unit × Unit) :=
  (sparsekit_In_L0 m m v_l v_v 0).bind fun y1 =>
  match y1 with
  | .inl z2 =>
    some (z2.1, ((), (), ()))
  | .inr (.inl z3) =>
    some (false, ((), (), ()))
  | .inr (.inr e) =>
    e.elim
/-! 13 sparse/sparseref13.Check -/
def sparseref13_Check_L1 (m : Nat) : Nat → List Int → List Int → (List (Int × Int × Int)) → Int → Option ((Int × Unit) ⊕ Unit ⊕ Empty)
  | 0, _, _, _, _ => none
  | n + 1, v_t5_0, v_t5_1, v_t12, v_t13 =>
    bif decide (v_t13 < (v_t12.length : Int)) then
      if (0 : Int) ≤ v_t13 ∧ v_t13 < (v_t12.length : Int) then
      (sparsekit_In m v_t5_0 (v_t12.getD (0 + v_t13.toNat) (0, (0, 0))).1).bind fun y1 =>
      bif !y1.1 then
        if (0 : Int) ≤ v_t13 ∧ v_t13 < (v_t12.length : Int) then
        (sparsekit_In m v_t5_1 (v_t12.getD (0 + v_t13.toNat) (0, (0, 0))).2.1).bind fun y2 =>
        bif !y2.1 then
          some (.inl (131, ()))
        else
          sparseref13_Check_L1 m n v_t5_0 v_t5_1 v_t12 (w_i64 (v_t13 + 1))
        else none
      else
        sparseref13_Check_L1 m n v_t5_0 v_t5_1 v_t12 (w_i64 (v_t13 + 1))
      else none
    else
      some (.inr (.inl ()))
def sparseref13_Check_L0 (m : Nat) : Nat → List Int → Int → Int → List Int → List Int → List Int → List Int → List Int → Int → List Bool → Int → Option ((Int × Unit) ⊕ ((Int × Int × List Int × List Int × List Int × Unit) × (List Int × List Int × Unit) × Int × Unit) ⊕ Empty)
  | 0, _, _, _, _, _, _, _, _, _, _, _ => none
  | n + 1, v_t1, v_t3_0, v_t3_1, v_t3_2, v_t3_3, v_t3_4, v_t5_0, v_t5_1, v_t8, v_t9, v_t10 =>
    bif decide (v_t10 < v_t3_1) then
      if (0 : Int) ≤ v_t10 ∧ v_t10 < (v_t1.length : Int) then
      bif (v_t1.getD v_t10.toNat 0) == (-1) then
        sparseref13_Check_L0 m n v_t1 v_t3_0 v_t3_1 v_t3_2 v_t3_3 v_t3_4 v_t5_0 v_t5_1 v_t8 v_t9 (w_i64 (v_t10 + 1))
      else
        (sparseref09_Stored m v_t3_0 v_t3_1 v_t3_2 v_t3_3 v_t3_4 (v_t1.getD v_t10.toNat 0) v_t10).bind fun y1 =>
        bif !y1.1 then
          some (.inl (130, ()))
        else
          if (0 : Int) ≤ (v_t1.getD v_t10.toNat 0) ∧ (v_t1.getD v_t10.toNat 0) < (v_t9.length : Int) then
          bif v_t9.getD (0 + (v_t1.getD v_t10.toNat 0).toNat) false then
            some (.inl (130, ()))
          else
            if (0 : Int) ≤ (v_t1.getD v_t10.toNat 0) ∧ (v_t1.getD v_t10.toNat 0) < (v_t9.length : Int) then
            sparseref13_Check_L0 m n v_t1 v_t3_0 v_t3_1 v_t3_2 v_t3_3 v_t3_4 v_t5_0 v_t5_1 (w_i64 (v_t8 + 1)) (v_t9.set (0 + (v_t1.getD v_t10.toNat 0).toNat) true) (w_i64 (v_t10 + 1))
            else none
          else none
      else none
    else
      some (.inr (.inl ((v_t3_0, v_t3_1, v_t3_2, v_t3_3, v_t3_4, ()), (v_t5_0, v_t5_1, ()), v_t8, ())))
def sparseref13_Check (m : Nat) (v_m_0 : Int) (v_m_1 : Int) (v_m_2 : List Int) (v_m_3 : List Int) (v_m_4 : List Int) (v_t1 : List Int) (v_t2_0 : List Int) (v_t2_1 : List Int) : Option (Int × Unit × Unit × Unit × Unit) :=
  (sparseref09_Check m v_m_0 v_m_1 v_m_2 v_m_3 v_m_4).bind fun y1 =>
  bif y1.1 != 0 then
    some (y1.1, ((), (), (), ()))
  else
    bif (v_t1.length : Int) != v_m_1 then
      some (2, ((), (), (), ()))
    else
      if (0 : Int) ≤ v_m_0 ∧ v_m_0 ≤ v_m_0 ∧ v_m_0 ≤ 1073741824 then
      (sparseref13_Check_L0 m m v_t1 v_m_0 v_m_1 v_m_2 v_m_3 v_m_4 v_t2_0 v_t2_1 0 (List.replicate v_m_0.toNat false) 0).bind fun y2 =>
      match y2 with
      | .inl z3 =>
        some (z3.1, ((), (), (), ()))
      | .inr (.inl z4) =>
        (sparsekit_Ascending m z4.2.1.1).bind fun y5 =>
        bif !y5.1 then
          some (131, ((), (), (), ()))
        else
          (sparsekit_Ascending m z4.2.1.2.1).bind fun y6 =>
          bif !y6.1 then
            some (131, ((), (), (), ()))
          else
            (sparseref09_Range m z4.2.1.1 z4.1.1).bind fun y7 =>
            bif !y7.1 then
              some (131, ((), (), (), ()))
            else
              (sparseref09_Range m z4.2.1.2.1 z4.1.2.1).bind fun y8 =>
              bif !y8.1 then
                some (131, ((), (), (), ()))
              else
                bif (w_i64 ((z4.2.1.1.length : Int) + (z4.2.1.2.1.length : Int))) != z4.2.2.1 then
                  some (131, ((), (), (), ()))
                else
                  (sparseref09_Entries m z4.1.1 z4.1.2.1 z4.1.2.2.1 z4.1.2.2.2.1 z4.1.2.2.2.2.1).bind fun y9 =>
                  (sparseref13_Check_L1 m m z4.2.1.1 z4.2.1.2.1 y9.1 0).bind fun y10 =>
                  match y10 with
                  | .inl z11 =>
                    some (z11.1, ((), (), (), ()))
                  | .inr (.inl z12) =>
                    some (0, ((), (), (), ()))
                  | .inr (.inr e) =>
                    e.elim
      | .inr (.inr e) =>
        e.elim
      else none
/-! 33 sparse/sparsekit.Floats -/
def sparsekit_Floats_L0 (m : Nat) : Nat → List Int → List Int → Int → Option ((Bool × Unit) ⊕ Unit ⊕ Empty)
  | 0, _, _, _ => none
  | n + 1, v_a, v_b, v_i =>
    bif decide (v_i < (v_a.length : Int)) then
      if (0 : Int) ≤ v_i ∧ v_i < (v_a.length : Int) then
      if (0 : Int) ≤ v_i ∧ v_i < (v_b.length : Int) then
      bif (v_a.getD v_i.toNat 0) != (v_b.getD v_i.toNat 0) then
        some (.inl (false, ()))
      else
        sparsekit_Floats_L0 m n v_a v_b (w_i64 (v_i + 1))
      else none
      else none
    else
      some (.inr (.inl ()))
def sparsekit_Floats (m : Nat) (v_a : List Int) (v_b : List Int) : Option (Bool × Unit × Unit × Unit) :=
  bif (v_a.length : Int) != (v_b.length : Int) then
    some (false, ((), (), ()))
  else
    (sparsekit_Floats_L0 m m v_a v_b 0).bind fun y1 =>
    match y1 with
    | .inl z2 =>
      some (z2.1, ((), (), ()))
    | .inr (.inl z3) =>
      some (true, ((), (), ()))
    | .inr (.inr e) =>
      e.elim
/-! 14 sparse/sparsekit.Matrix -/
def sparsekit_Matrix (m : Nat) (v_a_0 : Int) (v_a_1 : Int) (v_a_2 : List Int) (v_a_3 : List Int) (v_a_4 : List Int) (v_b_0 : Int) (v_b_1 : Int) (v_b_2 : List Int) (v_b_3 : List Int) (v_b_4 : List Int) : Option (Bool × Unit × Unit × Unit) :=
  bif v_a_0 == v_b_0 then
    bif v_a_1 == v_b_1 then
      (sparsekit_Ints m v_a_2 v_b_2).bind fun y1 =>
      bif y1.1 then
        (sparsekit_Ints m v_a_3 v_b_3).bind fun y2 =>
        bif y2.1 then
          (sparsekit_Floats m v_a_4 v_b_4).bind fun y3 =>
          some (y3.1, ((), (), ()))
        else
          some (false, ((), (), ()))
      else
        some (false, ((), (), ()))
    else
      some (false, ((), (), ()))
  else
    some (false, ((), (), ()))
/-! 3 sparse/sparselaw13.MatchingExact -/
def sparselaw13_MatchingExact (m : Nat) (v_m_0 : Int) (v_m_1 : Int) (v_m_2 : List Int) (v_m_3 : List Int) (v_m_4 : List Int) (v_t1 : List Int) (v_t2_0 : List Int) (v_t2_1 : List Int) : Option (Bool × Unit × Unit × Unit × Unit) :=
  (sparselaw13_small m v_m_0 v_m_1 v_m_2 v_m_3 v_m_4).bind fun y1 =>
  bif !y1.1 then
    (sparselaw13_awake m).bind fun y2 =>
    some (y2.1, ((), (), (), ()))
  else
    bif decide ((v_t1.length : Int) > 20) then
      (sparselaw13_awake m).bind fun y3 =>
      some (y3.1, ((), (), (), ()))
    else
      bif decide ((v_t2_0.length : Int) > 20) then
        (sparselaw13_awake m).bind fun y4 =>
        some (y4.1, ((), (), (), ()))
      else
        bif decide ((v_t2_1.length : Int) > 20) then
          (sparselaw13_awake m).bind fun y5 =>
          some (y5.1, ((), (), (), ()))
        else
          (sparsekit_TwinMatrix m v_m_0 v_m_1 v_m_2 v_m_3 v_m_4).bind fun y6 =>
          (matching_Maximum m y6.1.1 y6.1.2.1 y6.1.2.2.1 y6.1.2.2.2.1 y6.1.2.2.2.2.1).bind fun y7 =>
          (sparseref13_Maximum m v_m_0 v_m_1 v_m_2 v_m_3 v_m_4).bind fun y8 =>
          (matching_Cover m y6.1.1 y6.1.2.1 y6.1.2.2.1 y6.1.2.2.2.1 y6.1.2.2.2.2.1).bind fun y9 =>
          (sparseref13_Cover m v_m_0 v_m_1 v_m_2 v_m_3 v_m_4).bind fun y10 =>
          (sparsekit_Ints m y7.1.1 y8.1.1).bind fun y11 =>
          bif y11.1 then
            bif y7.1.2.1 == y8.1.2.1 then
              (sparsekit_Ints m y9.1.1.1 y10.1.1.1).bind fun y12 =>
              bif y12.1 then
                (sparsekit_Ints m y9.1.1.2.1 y10.1.1.2.1).bind fun y13 =>
                bif y13.1 then
                  bif y9.1.2.1 == y10.1.2.1 then
                    (matching_Check m y6.1.1 y6.1.2.1 y6.1.2.2.1 y6.1.2.2.2.1 y6.1.2.2.2.2.1 v_t1 v_t2_0 v_t2_1).bind fun y14 =>
                    (sparseref13_Check m v_m_0 v_m_1 v_m_2 v_m_3 v_m_4 v_t1 v_t2_0 v_t2_1).bind fun y15 =>
                    bif y14.1 == y15.1 then
                      (sparsekit_Matrix m y6.1.1 y6.1.2.1 y6.1.2.2.1 y6.1.2.2.2.1 y6.1.2.2.2.2.1 v_m_0 v_m_1 v_m_2 v_m_3 v_m_4).bind fun y16 =>
                      bif y16.1 then
                        (sparselaw13_awake m).bind fun y17 =>
                        some (y17.1, ((), (), (), ()))
                      else
                        some (false, ((), (), (), ()))
                    else
                      some (false, ((), (), (), ()))
                  else
                    some (false, ((), (), (), ()))
                else
                  some (false, ((), (), (), ()))
              else
                some (false, ((), (), (), ()))
            else
              some (false, ((), (), (), ()))
          else
            some (false, ((), (), (), ()))
end Go.Vs.F
