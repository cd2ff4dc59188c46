/- The plain functions of the program, as the evaluator computes them (by program: gen.py). -/
import Derived.Test.YtajikfmcbmhclaaGreatDoorVc

/-! MwFn -/
set_option linter.unusedVariables false
namespace Go.Vs.F
def tab32_0 : List Int := [0, 1, 28, 2, 29, 14, 24, 3, 30, 22, 20, 15, 25, 17, 4, 8, 31, 27, 13, 23, 21, 19, 16, 7, 26, 12, 18, 6, 11, 5, 10, 9]
def tab256_1 : List Int := [0, 1, 2, 2, 3, 3, 3, 3, 4, 4, 4, 4, 4, 4, 4, 4, 5, 5, 5, 5, 5, 5, 5, 5, 5, 5, 5, 5, 5, 5, 5, 5, 6, 6, 6, 6, 6, 6, 6, 6, 6, 6, 6, 6, 6, 6, 6, 6, 6, 6, 6, 6, 6, 6, 6, 6, 6, 6, 6, 6, 6, 6, 6, 6, 7, 7, 7, 7, 7, 7, 7, 7, 7, 7, 7, 7, 7, 7, 7, 7, 7, 7, 7, 7, 7, 7, 7, 7, 7, 7, 7, 7, 7, 7, 7, 7, 7, 7, 7, 7, 7, 7, 7, 7, 7, 7, 7, 7, 7, 7, 7, 7, 7, 7, 7, 7, 7, 7, 7, 7, 7, 7, 7, 7, 7, 7, 7, 7, 8, 8, 8, 8, 8, 8, 8, 8, 8, 8, 8, 8, 8, 8, 8, 8, 8, 8, 8, 8, 8, 8, 8, 8, 8, 8, 8, 8, 8, 8, 8, 8, 8, 8, 8, 8, 8, 8, 8, 8, 8, 8, 8, 8, 8, 8, 8, 8, 8, 8, 8, 8, 8, 8, 8, 8, 8, 8, 8, 8, 8, 8, 8, 8, 8, 8, 8, 8, 8, 8, 8, 8, 8, 8, 8, 8, 8, 8, 8, 8, 8, 8, 8, 8, 8, 8, 8, 8, 8, 8, 8, 8, 8, 8, 8, 8, 8, 8, 8, 8, 8, 8, 8, 8, 8, 8, 8, 8, 8, 8, 8, 8, 8, 8, 8, 8, 8, 8, 8, 8, 8, 8, 8, 8, 8, 8, 8, 8]
/-! 31 sparse/matrix.within -/
def g31 (m : Nat) (v_n : Int) (v_lo : Int) (v_hi : Int) : Option (Bool × Unit × Unit × Unit × Unit) :=
  bif decide (v_n ≥ v_lo) then
    some (decide (v_n ≤ v_hi), ((), (), (), ()))
  else
    some (false, ((), (), (), ()))
/-! 59 sparse/float.parts -/
def g59 (m : Nat) (v_f : Int) : Option ((Int × Int × Unit) × Unit × Unit) :=
  some ((w_i64 (b_and_ .u64 (shr_ .u64 v_f 52) 2047), b_and_ .u64 v_f 4503599627370495, ()), ((), ()))
/-! 32 sparse/float.IsFinite -/
def g32 (m : Nat) (v_f : Int) : Option (Bool × Unit × Unit) :=
  (g59 m v_f).bind fun y1 =>
  some (y1.1.1 != 2047, ((), ()))
/-! 60 slices.Clone___sparse/api.Entry_sparse/api.Entry_ -/
def g60 (m : Nat) (v_s : List (Int × Int × Int)) : Option (List (Int × Int × Int) × Unit × Unit) :=
  if ([] : List (Int × Int × Int)).length + v_s.length ≤ 1073741824 then some (v_s, ((), ())) else none
/-! 95 cmp.isNaN_int_ -/
def g95 (m : Nat) (v_x : Int) : Option (Bool × Unit × Unit) :=
  some (v_x != v_x, ((), ()))
/-! 64 cmp.Compare_int_ -/
def g64 (m : Nat) (v_x : Int) (v_y : Int) : Option (Int × Unit × Unit × Unit) :=
  (g95 m v_x).bind fun y1 =>
  (g95 m v_y).bind fun y2 =>
  bif y1.1 then
    bif y2.1 then
      some (0, ((), (), ()))
    else
      some ((-1), ((), (), ()))
  else
    bif y2.1 then
      some (1, ((), (), ()))
    else
      bif decide (v_x < v_y) then
        some ((-1), ((), (), ()))
      else
        bif decide (v_x > v_y) then
          some (1, ((), (), ()))
        else
          some (0, ((), (), ()))
/-! 63 cmp.Or_int_ -/
def g63_L0 (m : Nat) : Nat → Int → List Int → Int → Int → Option ((Int × Unit) ⊕ (Int × Unit) ⊕ Empty)
  | 0, _, _, _, _ => none
  | n + 1, v_zero, v_t6, v_t7, v_t8 =>
    bif decide (v_t8 < v_t7) then
      if (0 : Int) ≤ v_t8 ∧ v_t8 < (v_t6.length : Int) then
      bif (v_t6.getD v_t8.toNat 0) != v_zero then
        some (.inl (v_t6.getD v_t8.toNat 0, ()))
      else
        g63_L0 m n v_zero v_t6 v_t7 (w_i64 (v_t8 + 1))
      else none
    else
      some (.inr (.inl (v_zero, ())))
def g63 (m : Nat) (v_vals : List Int) : Option (Int × Unit × Unit) :=
  (g63_L0 m m 0 v_vals (v_vals.length : Int) 0).bind fun y1 =>
  match y1 with
  | .inl z2 =>
    some (z2.1, ((), ()))
  | .inr (.inl z3) =>
    some (z3.1, ((), ()))
  | .inr (.inr e) =>
    e.elim
/-! 62 sparse/matrix.sorted_1 -/
def g62 (m : Nat) (v_a_0 : Int) (v_a_1 : Int) (v_a_2 : Int) (v_b_0 : Int) (v_b_1 : Int) (v_b_2 : Int) : Option (Int × Unit × Unit × Unit) :=
  (g64 m v_a_1 v_b_1).bind fun y1 =>
  (g64 m v_a_0 v_b_0).bind fun y2 =>
  (g63 m ([y1.1, y2.1] : List Int)).bind fun y3 =>
  some (y3.1, ((), (), ()))
/-! 130 slices.insertionSortCmpFunc_sparse/api.Entry_ -/
def g130_L1 (m : Nat) : Nat → (List (Int × Int × Int)) → Int → Int → Int → Int → Option (((List (Int × Int × Int)) × Int × Int × Unit × Int × Unit) ⊕ Empty)
  | 0, _, _, _, _, _ => none
  | n + 1, v_data, v_a, v_b, v_i, v_j =>
    bif decide (v_j > v_a) then
      if (0 : Int) ≤ v_j ∧ v_j < (v_data.length : Int) then
      if (0 : Int) ≤ (w_i64 (v_j - 1)) ∧ (w_i64 (v_j - 1)) < (v_data.length : Int) then
      (g62 m (v_data.getD (0 + v_j.toNat) (0, (0, 0))).1 (v_data.getD (0 + v_j.toNat) (0, (0, 0))).2.1 (v_data.getD (0 + v_j.toNat) (0, (0, 0))).2.2 (v_data.getD (0 + (w_i64 (v_j - 1)).toNat) (0, (0, 0))).1 (v_data.getD (0 + (w_i64 (v_j - 1)).toNat) (0, (0, 0))).2.1 (v_data.getD (0 + (w_i64 (v_j - 1)).toNat) (0, (0, 0))).2.2).bind fun y1 =>
      bif decide (y1.1 < 0) then
        if (0 : Int) ≤ (w_i64 (v_j - 1)) ∧ (w_i64 (v_j - 1)) < (v_data.length : Int) then
        if (0 : Int) ≤ v_j ∧ v_j < (v_data.length : Int) then
        if (0 : Int) ≤ v_j ∧ v_j < (v_data.length : Int) then
        if (0 : Int) ≤ (w_i64 (v_j - 1)) ∧ (w_i64 (v_j - 1)) < ((v_data.set (0 + v_j.toNat) ((v_data.getD (0 + (w_i64 (v_j - 1)).toNat) (0, (0, 0))).1, ((v_data.getD (0 + (w_i64 (v_j - 1)).toNat) (0, (0, 0))).2.1, (v_data.getD (0 + (w_i64 (v_j - 1)).toNat) (0, (0, 0))).2.2))).length : Int) then
        g130_L1 m n ((v_data.set (0 + v_j.toNat) ((v_data.getD (0 + (w_i64 (v_j - 1)).toNat) (0, (0, 0))).1, ((v_data.getD (0 + (w_i64 (v_j - 1)).toNat) (0, (0, 0))).2.1, (v_data.getD (0 + (w_i64 (v_j - 1)).toNat) (0, (0, 0))).2.2))).set (0 + (w_i64 (v_j - 1)).toNat) ((v_data.getD (0 + v_j.toNat) (0, (0, 0))).1, ((v_data.getD (0 + v_j.toNat) (0, (0, 0))).2.1, (v_data.getD (0 + v_j.toNat) (0, (0, 0))).2.2))) v_a v_b v_i (w_i64 (v_j - 1))
        else none
        else none
        else none
        else none
      else
        some (.inl (v_data, v_a, v_b, (), v_i, ()))
      else none
      else none
    else
      some (.inl (v_data, v_a, v_b, (), v_i, ()))
def g130_L0 (m : Nat) : Nat → (List (Int × Int × Int)) → Int → Int → Int → Option (((List (Int × Int × Int)) × Unit) ⊕ Empty)
  | 0, _, _, _, _ => none
  | n + 1, v_data, v_a, v_b, v_i =>
    bif decide (v_i < v_b) then
      (g130_L1 m m v_data v_a v_b v_i v_i).bind fun y1 =>
      match y1 with
      | .inl z2 =>
        g130_L0 m n z2.1 z2.2.1 z2.2.2.1 (w_i64 (z2.2.2.2.2.1 + 1))
      | .inr e =>
        e.elim
    else
      some (.inl (v_data, ()))
def g130 (m : Nat) (v_data : List (Int × Int × Int)) (v_a : Int) (v_b : Int) : Option (Unit × (List (Int × Int × Int)) × Unit × Unit × Unit × Unit) :=
  (g130_L0 m m v_data v_a v_b (w_i64 (v_a + 1))).bind fun y1 =>
  match y1 with
  | .inl z2 =>
    some ((), (z2.1, (), (), (), ()))
  | .inr e =>
    e.elim
/-! 157 slices.swapRangeCmpFunc_sparse/api.Entry_ -/
def g157_L0 (m : Nat) : Nat → (List (Int × Int × Int)) → Int → Int → Int → Int → Option (((List (Int × Int × Int)) × Unit) ⊕ Empty)
  | 0, _, _, _, _, _ => none
  | n + 1, v_data, v_a, v_b, v_n, v_i =>
    bif decide (v_i < v_n) then
      if (0 : Int) ≤ (w_i64 (v_b + v_i)) ∧ (w_i64 (v_b + v_i)) < (v_data.length : Int) then
      if (0 : Int) ≤ (w_i64 (v_a + v_i)) ∧ (w_i64 (v_a + v_i)) < (v_data.length : Int) then
      if (0 : Int) ≤ (w_i64 (v_a + v_i)) ∧ (w_i64 (v_a + v_i)) < (v_data.length : Int) then
      if (0 : Int) ≤ (w_i64 (v_b + v_i)) ∧ (w_i64 (v_b + v_i)) < ((v_data.set (0 + (w_i64 (v_a + v_i)).toNat) ((v_data.getD (0 + (w_i64 (v_b + v_i)).toNat) (0, (0, 0))).1, ((v_data.getD (0 + (w_i64 (v_b + v_i)).toNat) (0, (0, 0))).2.1, (v_data.getD (0 + (w_i64 (v_b + v_i)).toNat) (0, (0, 0))).2.2))).length : Int) then
      g157_L0 m n ((v_data.set (0 + (w_i64 (v_a + v_i)).toNat) ((v_data.getD (0 + (w_i64 (v_b + v_i)).toNat) (0, (0, 0))).1, ((v_data.getD (0 + (w_i64 (v_b + v_i)).toNat) (0, (0, 0))).2.1, (v_data.getD (0 + (w_i64 (v_b + v_i)).toNat) (0, (0, 0))).2.2))).set (0 + (w_i64 (v_b + v_i)).toNat) ((v_data.getD (0 + (w_i64 (v_a + v_i)).toNat) (0, (0, 0))).1, ((v_data.getD (0 + (w_i64 (v_a + v_i)).toNat) (0, (0, 0))).2.1, (v_data.getD (0 + (w_i64 (v_a + v_i)).toNat) (0, (0, 0))).2.2))) v_a v_b v_n (w_i64 (v_i + 1))
      else none
      else none
      else none
      else none
    else
      some (.inl (v_data, ()))
def g157 (m : Nat) (v_data : List (Int × Int × Int)) (v_a : Int) (v_b : Int) (v_n : Int) : Option (Unit × (List (Int × Int × Int)) × Unit × Unit × Unit × Unit × Unit) :=
  (g157_L0 m m v_data v_a v_b v_n 0).bind fun y1 =>
  match y1 with
  | .inl z2 =>
    some ((), (z2.1, (), (), (), (), ()))
  | .inr e =>
    e.elim
/-! 147 slices.rotateCmpFunc_sparse/api.Entry_ -/
def g147_L0 (m : Nat) : Nat → (List (Int × Int × Int)) → Int → Int → Int → Option (((List (Int × Int × Int)) × Int × Unit × Int × Unit) ⊕ Empty)
  | 0, _, _, _, _ => none
  | n + 1, v_data, v_m, v_i, v_j =>
    bif v_i != v_j then
      bif decide (v_i > v_j) then
        (g157 m v_data (w_i64 (v_m - v_i)) v_m v_j).bind fun y1 =>
        g147_L0 m n y1.2.1 v_m (w_i64 (v_i - v_j)) v_j
      else
        (g157 m v_data (w_i64 (v_m - v_i)) (w_i64 ((w_i64 (v_m + v_j)) - v_i)) v_i).bind fun y2 =>
        g147_L0 m n y2.2.1 v_m v_i (w_i64 (v_j - v_i))
    else
      some (.inl (v_data, v_m, (), v_i, ()))
def g147 (m : Nat) (v_data : List (Int × Int × Int)) (v_a : Int) (v_m : Int) (v_b : Int) : Option (Unit × (List (Int × Int × Int)) × Unit × Unit × Unit × Unit × Unit) :=
  (g147_L0 m m v_data v_m (w_i64 (v_m - v_a)) (w_i64 (v_b - v_m))).bind fun y1 =>
  match y1 with
  | .inl z2 =>
    (g157 m z2.1 (w_i64 (z2.2.1 - z2.2.2.2.1)) z2.2.1 z2.2.2.2.1).bind fun y3 =>
    some ((), (y3.2.1, (), (), (), (), ()))
  | .inr e =>
    e.elim
/-! 131 slices.symMergeCmpFunc_sparse/api.Entry_ -/
def g131_L4 (self : (List (Int × Int × Int)) → Int → Int → Int → Option (Unit × (List (Int × Int × Int)) × Unit × Unit × Unit × Unit × Unit)) (m : Nat) : Nat → (List (Int × Int × Int)) → Int → Int → Int → Int → Int → Int → Int → Int → Option (((List (Int × Int × Int)) × Int × Int × Int × Unit × Int × Int × Int × Unit) ⊕ Empty)
  | 0, _, _, _, _, _, _, _, _, _ => none
  | n + 1, v_data, v_t1, v_t2, v_t3, v_t18, v_t19, v_t20, v_t21, v_t22 =>
    bif decide (v_t20 < v_t21) then
      if (0 : Int) ≤ (w_i64 (v_t22 - (w_i64 (shr_ .u64 (w_u64 (w_i64 (v_t20 + v_t21))) 1)))) ∧ (w_i64 (v_t22 - (w_i64 (shr_ .u64 (w_u64 (w_i64 (v_t20 + v_t21))) 1)))) < (v_data.length : Int) then
      if (0 : Int) ≤ (w_i64 (shr_ .u64 (w_u64 (w_i64 (v_t20 + v_t21))) 1)) ∧ (w_i64 (shr_ .u64 (w_u64 (w_i64 (v_t20 + v_t21))) 1)) < (v_data.length : Int) then
      (g62 m (v_data.getD (0 + (w_i64 (v_t22 - (w_i64 (shr_ .u64 (w_u64 (w_i64 (v_t20 + v_t21))) 1)))).toNat) (0, (0, 0))).1 (v_data.getD (0 + (w_i64 (v_t22 - (w_i64 (shr_ .u64 (w_u64 (w_i64 (v_t20 + v_t21))) 1)))).toNat) (0, (0, 0))).2.1 (v_data.getD (0 + (w_i64 (v_t22 - (w_i64 (shr_ .u64 (w_u64 (w_i64 (v_t20 + v_t21))) 1)))).toNat) (0, (0, 0))).2.2 (v_data.getD (0 + (w_i64 (shr_ .u64 (w_u64 (w_i64 (v_t20 + v_t21))) 1)).toNat) (0, (0, 0))).1 (v_data.getD (0 + (w_i64 (shr_ .u64 (w_u64 (w_i64 (v_t20 + v_t21))) 1)).toNat) (0, (0, 0))).2.1 (v_data.getD (0 + (w_i64 (shr_ .u64 (w_u64 (w_i64 (v_t20 + v_t21))) 1)).toNat) (0, (0, 0))).2.2).bind fun y1 =>
      bif !(decide (y1.1 < 0)) then
        g131_L4 self m n v_data v_t1 v_t2 v_t3 v_t18 v_t19 (w_i64 ((w_i64 (shr_ .u64 (w_u64 (w_i64 (v_t20 + v_t21))) 1)) + 1)) v_t21 v_t22
      else
        g131_L4 self m n v_data v_t1 v_t2 v_t3 v_t18 v_t19 v_t20 (w_i64 (shr_ .u64 (w_u64 (w_i64 (v_t20 + v_t21))) 1)) v_t22
      else none
      else none
    else
      some (.inl (v_data, v_t1, v_t2, v_t3, (), v_t18, v_t19, v_t20, ()))
def g131_L3 (self : (List (Int × Int × Int)) → Int → Int → Int → Option (Unit × (List (Int × Int × Int)) × Unit × Unit × Unit × Unit × Unit)) (m : Nat) : Nat → (List (Int × Int × Int)) → Int → Int → Option (((List (Int × Int × Int)) × Unit) ⊕ Empty)
  | 0, _, _, _ => none
  | n + 1, v_data, v_t14, v_t17 =>
    bif decide (v_t17 > v_t14) then
      if (0 : Int) ≤ (w_i64 (v_t17 - 1)) ∧ (w_i64 (v_t17 - 1)) < (v_data.length : Int) then
      if (0 : Int) ≤ v_t17 ∧ v_t17 < (v_data.length : Int) then
      if (0 : Int) ≤ v_t17 ∧ v_t17 < (v_data.length : Int) then
      if (0 : Int) ≤ (w_i64 (v_t17 - 1)) ∧ (w_i64 (v_t17 - 1)) < ((v_data.set (0 + v_t17.toNat) ((v_data.getD (0 + (w_i64 (v_t17 - 1)).toNat) (0, (0, 0))).1, ((v_data.getD (0 + (w_i64 (v_t17 - 1)).toNat) (0, (0, 0))).2.1, (v_data.getD (0 + (w_i64 (v_t17 - 1)).toNat) (0, (0, 0))).2.2))).length : Int) then
      g131_L3 self m n ((v_data.set (0 + v_t17.toNat) ((v_data.getD (0 + (w_i64 (v_t17 - 1)).toNat) (0, (0, 0))).1, ((v_data.getD (0 + (w_i64 (v_t17 - 1)).toNat) (0, (0, 0))).2.1, (v_data.getD (0 + (w_i64 (v_t17 - 1)).toNat) (0, (0, 0))).2.2))).set (0 + (w_i64 (v_t17 - 1)).toNat) ((v_data.getD (0 + v_t17.toNat) (0, (0, 0))).1, ((v_data.getD (0 + v_t17.toNat) (0, (0, 0))).2.1, (v_data.getD (0 + v_t17.toNat) (0, (0, 0))).2.2))) v_t14 (w_i64 (v_t17 - 1))
      else none
      else none
      else none
      else none
    else
      some (.inl (v_data, ()))
def g131_L2 (self : (List (Int × Int × Int)) → Int → Int → Int → Option (Unit × (List (Int × Int × Int)) × Unit × Unit × Unit × Unit × Unit)) (m : Nat) : Nat → (List (Int × Int × Int)) → Int → Int → Int → Option (((List (Int × Int × Int)) × Int × Int × Unit) ⊕ Empty)
  | 0, _, _, _, _ => none
  | n + 1, v_data, v_t2, v_t14, v_t15 =>
    bif decide (v_t14 < v_t15) then
      if (0 : Int) ≤ v_t2 ∧ v_t2 < (v_data.length : Int) then
      if (0 : Int) ≤ (w_i64 (shr_ .u64 (w_u64 (w_i64 (v_t14 + v_t15))) 1)) ∧ (w_i64 (shr_ .u64 (w_u64 (w_i64 (v_t14 + v_t15))) 1)) < (v_data.length : Int) then
      (g62 m (v_data.getD (0 + v_t2.toNat) (0, (0, 0))).1 (v_data.getD (0 + v_t2.toNat) (0, (0, 0))).2.1 (v_data.getD (0 + v_t2.toNat) (0, (0, 0))).2.2 (v_data.getD (0 + (w_i64 (shr_ .u64 (w_u64 (w_i64 (v_t14 + v_t15))) 1)).toNat) (0, (0, 0))).1 (v_data.getD (0 + (w_i64 (shr_ .u64 (w_u64 (w_i64 (v_t14 + v_t15))) 1)).toNat) (0, (0, 0))).2.1 (v_data.getD (0 + (w_i64 (shr_ .u64 (w_u64 (w_i64 (v_t14 + v_t15))) 1)).toNat) (0, (0, 0))).2.2).bind fun y1 =>
      bif !(decide (y1.1 < 0)) then
        g131_L2 self m n v_data v_t2 (w_i64 ((w_i64 (shr_ .u64 (w_u64 (w_i64 (v_t14 + v_t15))) 1)) + 1)) v_t15
      else
        g131_L2 self m n v_data v_t2 v_t14 (w_i64 (shr_ .u64 (w_u64 (w_i64 (v_t14 + v_t15))) 1))
      else none
      else none
    else
      some (.inl (v_data, v_t2, v_t14, ()))
def g131_L1 (self : (List (Int × Int × Int)) → Int → Int → Int → Option (Unit × (List (Int × Int × Int)) × Unit × Unit × Unit × Unit × Unit)) (m : Nat) : Nat → (List (Int × Int × Int)) → Int → Int → Option (((List (Int × Int × Int)) × Unit) ⊕ Empty)
  | 0, _, _, _ => none
  | n + 1, v_data, v_t10, v_t13 =>
    bif decide (v_t13 < (w_i64 (v_t10 - 1))) then
      if (0 : Int) ≤ (w_i64 (v_t13 + 1)) ∧ (w_i64 (v_t13 + 1)) < (v_data.length : Int) then
      if (0 : Int) ≤ v_t13 ∧ v_t13 < (v_data.length : Int) then
      if (0 : Int) ≤ v_t13 ∧ v_t13 < (v_data.length : Int) then
      if (0 : Int) ≤ (w_i64 (v_t13 + 1)) ∧ (w_i64 (v_t13 + 1)) < ((v_data.set (0 + v_t13.toNat) ((v_data.getD (0 + (w_i64 (v_t13 + 1)).toNat) (0, (0, 0))).1, ((v_data.getD (0 + (w_i64 (v_t13 + 1)).toNat) (0, (0, 0))).2.1, (v_data.getD (0 + (w_i64 (v_t13 + 1)).toNat) (0, (0, 0))).2.2))).length : Int) then
      g131_L1 self m n ((v_data.set (0 + v_t13.toNat) ((v_data.getD (0 + (w_i64 (v_t13 + 1)).toNat) (0, (0, 0))).1, ((v_data.getD (0 + (w_i64 (v_t13 + 1)).toNat) (0, (0, 0))).2.1, (v_data.getD (0 + (w_i64 (v_t13 + 1)).toNat) (0, (0, 0))).2.2))).set (0 + (w_i64 (v_t13 + 1)).toNat) ((v_data.getD (0 + v_t13.toNat) (0, (0, 0))).1, ((v_data.getD (0 + v_t13.toNat) (0, (0, 0))).2.1, (v_data.getD (0 + v_t13.toNat) (0, (0, 0))).2.2))) v_t10 (w_i64 (v_t13 + 1))
      else none
      else none
      else none
      else none
    else
      some (.inl (v_data, ()))
def g131_L0 (self : (List (Int × Int × Int)) → Int → Int → Int → Option (Unit × (List (Int × Int × Int)) × Unit × Unit × Unit × Unit × Unit)) (m : Nat) : Nat → (List (Int × Int × Int)) → Int → Int → Int → Option (((List (Int × Int × Int)) × Int × Int × Unit) ⊕ Empty)
  | 0, _, _, _, _ => none
  | n + 1, v_data, v_t1, v_t10, v_t11 =>
    bif decide (v_t10 < v_t11) then
      if (0 : Int) ≤ (w_i64 (shr_ .u64 (w_u64 (w_i64 (v_t10 + v_t11))) 1)) ∧ (w_i64 (shr_ .u64 (w_u64 (w_i64 (v_t10 + v_t11))) 1)) < (v_data.length : Int) then
      if (0 : Int) ≤ v_t1 ∧ v_t1 < (v_data.length : Int) then
      (g62 m (v_data.getD (0 + (w_i64 (shr_ .u64 (w_u64 (w_i64 (v_t10 + v_t11))) 1)).toNat) (0, (0, 0))).1 (v_data.getD (0 + (w_i64 (shr_ .u64 (w_u64 (w_i64 (v_t10 + v_t11))) 1)).toNat) (0, (0, 0))).2.1 (v_data.getD (0 + (w_i64 (shr_ .u64 (w_u64 (w_i64 (v_t10 + v_t11))) 1)).toNat) (0, (0, 0))).2.2 (v_data.getD (0 + v_t1.toNat) (0, (0, 0))).1 (v_data.getD (0 + v_t1.toNat) (0, (0, 0))).2.1 (v_data.getD (0 + v_t1.toNat) (0, (0, 0))).2.2).bind fun y1 =>
      bif decide (y1.1 < 0) then
        g131_L0 self m n v_data v_t1 (w_i64 ((w_i64 (shr_ .u64 (w_u64 (w_i64 (v_t10 + v_t11))) 1)) + 1)) v_t11
      else
        g131_L0 self m n v_data v_t1 v_t10 (w_i64 (shr_ .u64 (w_u64 (w_i64 (v_t10 + v_t11))) 1))
      else none
      else none
    else
      some (.inl (v_data, v_t1, v_t10, ()))
def g131 : Nat → (List (Int × Int × Int)) → Int → Int → Int → Option (Unit × (List (Int × Int × Int)) × Unit × Unit × Unit × Unit × Unit)
  | 0, _, _, _, _ => none
  | m + 1, v_data, v_t1, v_t2, v_t3 =>
    bif (w_i64 (v_t2 - v_t1)) == 1 then
      (g131_L0 (fun a0 a1 a2 a3 => g131 m a0 a1 a2 a3) m m v_data v_t1 v_t2 v_t3).bind fun y1 =>
      match y1 with
      | .inl z2 =>
        (g131_L1 (fun a0 a1 a2 a3 => g131 m a0 a1 a2 a3) m m z2.1 z2.2.2.1 z2.2.1).bind fun y3 =>
        match y3 with
        | .inl z4 =>
          some ((), (z4.1, (), (), (), (), ()))
        | .inr e =>
          e.elim
      | .inr e =>
        e.elim
    else
      bif (w_i64 (v_t3 - v_t2)) == 1 then
        (g131_L2 (fun a0 a1 a2 a3 => g131 m a0 a1 a2 a3) m m v_data v_t2 v_t1 v_t2).bind fun y5 =>
        match y5 with
        | .inl z6 =>
          (g131_L3 (fun a0 a1 a2 a3 => g131 m a0 a1 a2 a3) m m z6.1 z6.2.2.1 z6.2.1).bind fun y7 =>
          match y7 with
          | .inl z8 =>
            some ((), (z8.1, (), (), (), (), ()))
          | .inr e =>
            e.elim
        | .inr e =>
          e.elim
      else
        bif decide (v_t2 > (w_i64 (shr_ .u64 (w_u64 (w_i64 (v_t1 + v_t3))) 1))) then
          (g131_L4 (fun a0 a1 a2 a3 => g131 m a0 a1 a2 a3) m m v_data v_t1 v_t2 v_t3 (w_i64 (shr_ .u64 (w_u64 (w_i64 (v_t1 + v_t3))) 1)) (w_i64 ((w_i64 (shr_ .u64 (w_u64 (w_i64 (v_t1 + v_t3))) 1)) + v_t2)) (w_i64 ((w_i64 ((w_i64 (shr_ .u64 (w_u64 (w_i64 (v_t1 + v_t3))) 1)) + v_t2)) - v_t3)) (w_i64 (shr_ .u64 (w_u64 (w_i64 (v_t1 + v_t3))) 1)) (w_i64 ((w_i64 ((w_i64 (shr_ .u64 (w_u64 (w_i64 (v_t1 + v_t3))) 1)) + v_t2)) - 1))).bind fun y9 =>
          match y9 with
          | .inl z10 =>
            bif decide (z10.2.2.2.2.2.2.2.1 < z10.2.2.1) then
              bif decide (z10.2.2.1 < (w_i64 (z10.2.2.2.2.2.2.1 - z10.2.2.2.2.2.2.2.1))) then
                (g147 m z10.1 z10.2.2.2.2.2.2.2.1 z10.2.2.1 (w_i64 (z10.2.2.2.2.2.2.1 - z10.2.2.2.2.2.2.2.1))).bind fun y11 =>
                bif decide (z10.2.1 < z10.2.2.2.2.2.2.2.1) then
                  bif decide (z10.2.2.2.2.2.2.2.1 < z10.2.2.2.2.2.1) then
                    (g131 m y11.2.1 z10.2.1 z10.2.2.2.2.2.2.2.1 z10.2.2.2.2.2.1).bind fun y12 =>
                    bif decide (z10.2.2.2.2.2.1 < (w_i64 (z10.2.2.2.2.2.2.1 - z10.2.2.2.2.2.2.2.1))) then
                      bif decide ((w_i64 (z10.2.2.2.2.2.2.1 - z10.2.2.2.2.2.2.2.1)) < z10.2.2.2.1) then
                        (g131 m y12.2.1 z10.2.2.2.2.2.1 (w_i64 (z10.2.2.2.2.2.2.1 - z10.2.2.2.2.2.2.2.1)) z10.2.2.2.1).bind fun y13 =>
                        some ((), (y13.2.1, (), (), (), (), ()))
                      else
                        some ((), (y12.2.1, (), (), (), (), ()))
                    else
                      some ((), (y12.2.1, (), (), (), (), ()))
                  else
                    bif decide (z10.2.2.2.2.2.1 < (w_i64 (z10.2.2.2.2.2.2.1 - z10.2.2.2.2.2.2.2.1))) then
                      bif decide ((w_i64 (z10.2.2.2.2.2.2.1 - z10.2.2.2.2.2.2.2.1)) < z10.2.2.2.1) then
                        (g131 m y11.2.1 z10.2.2.2.2.2.1 (w_i64 (z10.2.2.2.2.2.2.1 - z10.2.2.2.2.2.2.2.1)) z10.2.2.2.1).bind fun y14 =>
                        some ((), (y14.2.1, (), (), (), (), ()))
                      else
                        some ((), (y11.2.1, (), (), (), (), ()))
                    else
                      some ((), (y11.2.1, (), (), (), (), ()))
                else
                  bif decide (z10.2.2.2.2.2.1 < (w_i64 (z10.2.2.2.2.2.2.1 - z10.2.2.2.2.2.2.2.1))) then
                    bif decide ((w_i64 (z10.2.2.2.2.2.2.1 - z10.2.2.2.2.2.2.2.1)) < z10.2.2.2.1) then
                      (g131 m y11.2.1 z10.2.2.2.2.2.1 (w_i64 (z10.2.2.2.2.2.2.1 - z10.2.2.2.2.2.2.2.1)) z10.2.2.2.1).bind fun y15 =>
                      some ((), (y15.2.1, (), (), (), (), ()))
                    else
                      some ((), (y11.2.1, (), (), (), (), ()))
                  else
                    some ((), (y11.2.1, (), (), (), (), ()))
              else
                bif decide (z10.2.1 < z10.2.2.2.2.2.2.2.1) then
                  bif decide (z10.2.2.2.2.2.2.2.1 < z10.2.2.2.2.2.1) then
                    (g131 m z10.1 z10.2.1 z10.2.2.2.2.2.2.2.1 z10.2.2.2.2.2.1).bind fun y16 =>
                    bif decide (z10.2.2.2.2.2.1 < (w_i64 (z10.2.2.2.2.2.2.1 - z10.2.2.2.2.2.2.2.1))) then
                      bif decide ((w_i64 (z10.2.2.2.2.2.2.1 - z10.2.2.2.2.2.2.2.1)) < z10.2.2.2.1) then
                        (g131 m y16.2.1 z10.2.2.2.2.2.1 (w_i64 (z10.2.2.2.2.2.2.1 - z10.2.2.2.2.2.2.2.1)) z10.2.2.2.1).bind fun y17 =>
                        some ((), (y17.2.1, (), (), (), (), ()))
                      else
                        some ((), (y16.2.1, (), (), (), (), ()))
                    else
                      some ((), (y16.2.1, (), (), (), (), ()))
                  else
                    bif decide (z10.2.2.2.2.2.1 < (w_i64 (z10.2.2.2.2.2.2.1 - z10.2.2.2.2.2.2.2.1))) then
                      bif decide ((w_i64 (z10.2.2.2.2.2.2.1 - z10.2.2.2.2.2.2.2.1)) < z10.2.2.2.1) then
                        (g131 m z10.1 z10.2.2.2.2.2.1 (w_i64 (z10.2.2.2.2.2.2.1 - z10.2.2.2.2.2.2.2.1)) z10.2.2.2.1).bind fun y18 =>
                        some ((), (y18.2.1, (), (), (), (), ()))
                      else
                        some ((), (z10.1, (), (), (), (), ()))
                    else
                      some ((), (z10.1, (), (), (), (), ()))
                else
                  bif decide (z10.2.2.2.2.2.1 < (w_i64 (z10.2.2.2.2.2.2.1 - z10.2.2.2.2.2.2.2.1))) then
                    bif decide ((w_i64 (z10.2.2.2.2.2.2.1 - z10.2.2.2.2.2.2.2.1)) < z10.2.2.2.1) then
                      (g131 m z10.1 z10.2.2.2.2.2.1 (w_i64 (z10.2.2.2.2.2.2.1 - z10.2.2.2.2.2.2.2.1)) z10.2.2.2.1).bind fun y19 =>
                      some ((), (y19.2.1, (), (), (), (), ()))
                    else
                      some ((), (z10.1, (), (), (), (), ()))
                  else
                    some ((), (z10.1, (), (), (), (), ()))
            else
              bif decide (z10.2.1 < z10.2.2.2.2.2.2.2.1) then
                bif decide (z10.2.2.2.2.2.2.2.1 < z10.2.2.2.2.2.1) then
                  (g131 m z10.1 z10.2.1 z10.2.2.2.2.2.2.2.1 z10.2.2.2.2.2.1).bind fun y20 =>
                  bif decide (z10.2.2.2.2.2.1 < (w_i64 (z10.2.2.2.2.2.2.1 - z10.2.2.2.2.2.2.2.1))) then
                    bif decide ((w_i64 (z10.2.2.2.2.2.2.1 - z10.2.2.2.2.2.2.2.1)) < z10.2.2.2.1) then
                      (g131 m y20.2.1 z10.2.2.2.2.2.1 (w_i64 (z10.2.2.2.2.2.2.1 - z10.2.2.2.2.2.2.2.1)) z10.2.2.2.1).bind fun y21 =>
                      some ((), (y21.2.1, (), (), (), (), ()))
                    else
                      some ((), (y20.2.1, (), (), (), (), ()))
                  else
                    some ((), (y20.2.1, (), (), (), (), ()))
                else
                  bif decide (z10.2.2.2.2.2.1 < (w_i64 (z10.2.2.2.2.2.2.1 - z10.2.2.2.2.2.2.2.1))) then
                    bif decide ((w_i64 (z10.2.2.2.2.2.2.1 - z10.2.2.2.2.2.2.2.1)) < z10.2.2.2.1) then
                      (g131 m z10.1 z10.2.2.2.2.2.1 (w_i64 (z10.2.2.2.2.2.2.1 - z10.2.2.2.2.2.2.2.1)) z10.2.2.2.1).bind fun y22 =>
                      some ((), (y22.2.1, (), (), (), (), ()))
                    else
                      some ((), (z10.1, (), (), (), (), ()))
                  else
                    some ((), (z10.1, (), (), (), (), ()))
              else
                bif decide (z10.2.2.2.2.2.1 < (w_i64 (z10.2.2.2.2.2.2.1 - z10.2.2.2.2.2.2.2.1))) then
                  bif decide ((w_i64 (z10.2.2.2.2.2.2.1 - z10.2.2.2.2.2.2.2.1)) < z10.2.2.2.1) then
                    (g131 m z10.1 z10.2.2.2.2.2.1 (w_i64 (z10.2.2.2.2.2.2.1 - z10.2.2.2.2.2.2.2.1)) z10.2.2.2.1).bind fun y23 =>
                    some ((), (y23.2.1, (), (), (), (), ()))
                  else
                    some ((), (z10.1, (), (), (), (), ()))
                else
                  some ((), (z10.1, (), (), (), (), ()))
          | .inr e =>
            e.elim
        else
          (g131_L4 (fun a0 a1 a2 a3 => g131 m a0 a1 a2 a3) m m v_data v_t1 v_t2 v_t3 (w_i64 (shr_ .u64 (w_u64 (w_i64 (v_t1 + v_t3))) 1)) (w_i64 ((w_i64 (shr_ .u64 (w_u64 (w_i64 (v_t1 + v_t3))) 1)) + v_t2)) v_t1 v_t2 (w_i64 ((w_i64 ((w_i64 (shr_ .u64 (w_u64 (w_i64 (v_t1 + v_t3))) 1)) + v_t2)) - 1))).bind fun y24 =>
          match y24 with
          | .inl z25 =>
            bif decide (z25.2.2.2.2.2.2.2.1 < z25.2.2.1) then
              bif decide (z25.2.2.1 < (w_i64 (z25.2.2.2.2.2.2.1 - z25.2.2.2.2.2.2.2.1))) then
                (g147 m z25.1 z25.2.2.2.2.2.2.2.1 z25.2.2.1 (w_i64 (z25.2.2.2.2.2.2.1 - z25.2.2.2.2.2.2.2.1))).bind fun y26 =>
                bif decide (z25.2.1 < z25.2.2.2.2.2.2.2.1) then
                  bif decide (z25.2.2.2.2.2.2.2.1 < z25.2.2.2.2.2.1) then
                    (g131 m y26.2.1 z25.2.1 z25.2.2.2.2.2.2.2.1 z25.2.2.2.2.2.1).bind fun y27 =>
                    bif decide (z25.2.2.2.2.2.1 < (w_i64 (z25.2.2.2.2.2.2.1 - z25.2.2.2.2.2.2.2.1))) then
                      bif decide ((w_i64 (z25.2.2.2.2.2.2.1 - z25.2.2.2.2.2.2.2.1)) < z25.2.2.2.1) then
                        (g131 m y27.2.1 z25.2.2.2.2.2.1 (w_i64 (z25.2.2.2.2.2.2.1 - z25.2.2.2.2.2.2.2.1)) z25.2.2.2.1).bind fun y28 =>
                        some ((), (y28.2.1, (), (), (), (), ()))
                      else
                        some ((), (y27.2.1, (), (), (), (), ()))
                    else
                      some ((), (y27.2.1, (), (), (), (), ()))
                  else
                    bif decide (z25.2.2.2.2.2.1 < (w_i64 (z25.2.2.2.2.2.2.1 - z25.2.2.2.2.2.2.2.1))) then
                      bif decide ((w_i64 (z25.2.2.2.2.2.2.1 - z25.2.2.2.2.2.2.2.1)) < z25.2.2.2.1) then
                        (g131 m y26.2.1 z25.2.2.2.2.2.1 (w_i64 (z25.2.2.2.2.2.2.1 - z25.2.2.2.2.2.2.2.1)) z25.2.2.2.1).bind fun y29 =>
                        some ((), (y29.2.1, (), (), (), (), ()))
                      else
                        some ((), (y26.2.1, (), (), (), (), ()))
                    else
                      some ((), (y26.2.1, (), (), (), (), ()))
                else
                  bif decide (z25.2.2.2.2.2.1 < (w_i64 (z25.2.2.2.2.2.2.1 - z25.2.2.2.2.2.2.2.1))) then
                    bif decide ((w_i64 (z25.2.2.2.2.2.2.1 - z25.2.2.2.2.2.2.2.1)) < z25.2.2.2.1) then
                      (g131 m y26.2.1 z25.2.2.2.2.2.1 (w_i64 (z25.2.2.2.2.2.2.1 - z25.2.2.2.2.2.2.2.1)) z25.2.2.2.1).bind fun y30 =>
                      some ((), (y30.2.1, (), (), (), (), ()))
                    else
                      some ((), (y26.2.1, (), (), (), (), ()))
                  else
                    some ((), (y26.2.1, (), (), (), (), ()))
              else
                bif decide (z25.2.1 < z25.2.2.2.2.2.2.2.1) then
                  bif decide (z25.2.2.2.2.2.2.2.1 < z25.2.2.2.2.2.1) then
                    (g131 m z25.1 z25.2.1 z25.2.2.2.2.2.2.2.1 z25.2.2.2.2.2.1).bind fun y31 =>
                    bif decide (z25.2.2.2.2.2.1 < (w_i64 (z25.2.2.2.2.2.2.1 - z25.2.2.2.2.2.2.2.1))) then
                      bif decide ((w_i64 (z25.2.2.2.2.2.2.1 - z25.2.2.2.2.2.2.2.1)) < z25.2.2.2.1) then
                        (g131 m y31.2.1 z25.2.2.2.2.2.1 (w_i64 (z25.2.2.2.2.2.2.1 - z25.2.2.2.2.2.2.2.1)) z25.2.2.2.1).bind fun y32 =>
                        some ((), (y32.2.1, (), (), (), (), ()))
                      else
                        some ((), (y31.2.1, (), (), (), (), ()))
                    else
                      some ((), (y31.2.1, (), (), (), (), ()))
                  else
                    bif decide (z25.2.2.2.2.2.1 < (w_i64 (z25.2.2.2.2.2.2.1 - z25.2.2.2.2.2.2.2.1))) then
                      bif decide ((w_i64 (z25.2.2.2.2.2.2.1 - z25.2.2.2.2.2.2.2.1)) < z25.2.2.2.1) then
                        (g131 m z25.1 z25.2.2.2.2.2.1 (w_i64 (z25.2.2.2.2.2.2.1 - z25.2.2.2.2.2.2.2.1)) z25.2.2.2.1).bind fun y33 =>
                        some ((), (y33.2.1, (), (), (), (), ()))
                      else
                        some ((), (z25.1, (), (), (), (), ()))
                    else
                      some ((), (z25.1, (), (), (), (), ()))
                else
                  bif decide (z25.2.2.2.2.2.1 < (w_i64 (z25.2.2.2.2.2.2.1 - z25.2.2.2.2.2.2.2.1))) then
                    bif decide ((w_i64 (z25.2.2.2.2.2.2.1 - z25.2.2.2.2.2.2.2.1)) < z25.2.2.2.1) then
                      (g131 m z25.1 z25.2.2.2.2.2.1 (w_i64 (z25.2.2.2.2.2.2.1 - z25.2.2.2.2.2.2.2.1)) z25.2.2.2.1).bind fun y34 =>
                      some ((), (y34.2.1, (), (), (), (), ()))
                    else
                      some ((), (z25.1, (), (), (), (), ()))
                  else
                    some ((), (z25.1, (), (), (), (), ()))
            else
              bif decide (z25.2.1 < z25.2.2.2.2.2.2.2.1) then
                bif decide (z25.2.2.2.2.2.2.2.1 < z25.2.2.2.2.2.1) then
                  (g131 m z25.1 z25.2.1 z25.2.2.2.2.2.2.2.1 z25.2.2.2.2.2.1).bind fun y35 =>
                  bif decide (z25.2.2.2.2.2.1 < (w_i64 (z25.2.2.2.2.2.2.1 - z25.2.2.2.2.2.2.2.1))) then
                    bif decide ((w_i64 (z25.2.2.2.2.2.2.1 - z25.2.2.2.2.2.2.2.1)) < z25.2.2.2.1) then
                      (g131 m y35.2.1 z25.2.2.2.2.2.1 (w_i64 (z25.2.2.2.2.2.2.1 - z25.2.2.2.2.2.2.2.1)) z25.2.2.2.1).bind fun y36 =>
                      some ((), (y36.2.1, (), (), (), (), ()))
                    else
                      some ((), (y35.2.1, (), (), (), (), ()))
                  else
                    some ((), (y35.2.1, (), (), (), (), ()))
                else
                  bif decide (z25.2.2.2.2.2.1 < (w_i64 (z25.2.2.2.2.2.2.1 - z25.2.2.2.2.2.2.2.1))) then
                    bif decide ((w_i64 (z25.2.2.2.2.2.2.1 - z25.2.2.2.2.2.2.2.1)) < z25.2.2.2.1) then
                      (g131 m z25.1 z25.2.2.2.2.2.1 (w_i64 (z25.2.2.2.2.2.2.1 - z25.2.2.2.2.2.2.2.1)) z25.2.2.2.1).bind fun y37 =>
                      some ((), (y37.2.1, (), (), (), (), ()))
                    else
                      some ((), (z25.1, (), (), (), (), ()))
                  else
                    some ((), (z25.1, (), (), (), (), ()))
              else
                bif decide (z25.2.2.2.2.2.1 < (w_i64 (z25.2.2.2.2.2.2.1 - z25.2.2.2.2.2.2.2.1))) then
                  bif decide ((w_i64 (z25.2.2.2.2.2.2.1 - z25.2.2.2.2.2.2.2.1)) < z25.2.2.2.1) then
                    (g131 m z25.1 z25.2.2.2.2.2.1 (w_i64 (z25.2.2.2.2.2.2.1 - z25.2.2.2.2.2.2.2.1)) z25.2.2.2.1).bind fun y38 =>
                    some ((), (y38.2.1, (), (), (), (), ()))
                  else
                    some ((), (z25.1, (), (), (), (), ()))
                else
                  some ((), (z25.1, (), (), (), (), ()))
          | .inr e =>
            e.elim
/-! 94 slices.stableCmpFunc_sparse/api.Entry_ -/
def g94_L2 (m : Nat) : Nat → (List (Int × Int × Int)) → Int → Int → Int → Int → Option (((List (Int × Int × Int)) × Int × Unit × Int × Int × Unit) ⊕ Empty)
  | 0, _, _, _, _, _ => none
  | n + 1, v_data, v_n, v_blockSize, v_a, v_b =>
    bif decide (v_b ≤ v_n) then
      (g131 m v_data v_a (w_i64 (v_a + v_blockSize)) v_b).bind fun y1 =>
      g94_L2 m n y1.2.1 v_n v_blockSize v_b (w_i64 (v_b + (w_i64 (2 * v_blockSize))))
    else
      some (.inl (v_data, v_n, (), v_blockSize, v_a, ()))
def g94_L1 (m : Nat) : Nat → (List (Int × Int × Int)) → Int → Int → Option (((List (Int × Int × Int)) × Unit) ⊕ Empty)
  | 0, _, _, _ => none
  | n + 1, v_data, v_n, v_blockSize =>
    bif decide (v_blockSize < v_n) then
      (g94_L2 m m v_data v_n v_blockSize 0 (w_i64 (2 * v_blockSize))).bind fun y1 =>
      match y1 with
      | .inl z2 =>
        bif decide ((w_i64 (z2.2.2.2.2.1 + z2.2.2.2.1)) < z2.2.1) then
          (g131 m z2.1 z2.2.2.2.2.1 (w_i64 (z2.2.2.2.2.1 + z2.2.2.2.1)) z2.2.1).bind fun y3 =>
          g94_L1 m n y3.2.1 z2.2.1 (w_i64 (z2.2.2.2.1 * 2))
        else
          g94_L1 m n z2.1 z2.2.1 (w_i64 (z2.2.2.2.1 * 2))
      | .inr e =>
        e.elim
    else
      some (.inl (v_data, ()))
def g94_L0 (m : Nat) : Nat → (List (Int × Int × Int)) → Int → Int → Int → Int → Option (((List (Int × Int × Int)) × Int × Unit × Int × Int × Unit) ⊕ Empty)
  | 0, _, _, _, _, _ => none
  | n + 1, v_data, v_n, v_blockSize, v_a, v_b =>
    bif decide (v_b ≤ v_n) then
      (g130 m v_data v_a v_b).bind fun y1 =>
      g94_L0 m n y1.2.1 v_n v_blockSize v_b (w_i64 (v_b + v_blockSize))
    else
      some (.inl (v_data, v_n, (), v_blockSize, v_a, ()))
def g94 (m : Nat) (v_data : List (Int × Int × Int)) (v_n : Int) : Option (Unit × (List (Int × Int × Int)) × Unit × Unit × Unit) :=
  (g94_L0 m m v_data v_n 20 0 20).bind fun y1 =>
  match y1 with
  | .inl z2 =>
    (g130 m z2.1 z2.2.2.2.2.1 z2.2.1).bind fun y3 =>
    (g94_L1 m m y3.2.1 z2.2.1 z2.2.2.2.1).bind fun y4 =>
    match y4 with
    | .inl z5 =>
      some ((), (z5.1, (), (), ()))
    | .inr e =>
      e.elim
  | .inr e =>
    e.elim
/-! 61 slices.SortStableFunc___sparse/api.Entry_sparse/api.Entry_ -/
def g61 (m : Nat) (v_x : List (Int × Int × Int)) : Option (Unit × (List (Int × Int × Int)) × Unit × Unit) :=
  (g94 m v_x (v_x.length : Int)).bind fun y1 =>
  some ((), (y1.2.1, (), ()))
/-! 33 sparse/matrix.sorted -/
def g33 (m : Nat) (v_l : List (Int × Int × Int)) : Option ((List (Int × Int × Int)) × Unit × Unit) :=
  (g60 m v_l).bind fun y1 =>
  (g61 m y1.1).bind fun y2 =>
  some (y2.2.1, ((), ()))
/-! 109 sparse/integer.trim -/
def g109_L0 (m : Nat) : Nat → List Int → Int → Option ((List Int × Int × Unit) ⊕ Empty)
  | 0, _, _ => none
  | n + 1, v_l, v_n =>
    bif decide (v_n > 0) then
      if (0 : Int) ≤ (w_i64 (v_n - 1)) ∧ (w_i64 (v_n - 1)) < (v_l.length : Int) then
      bif (v_l.getD (w_i64 (v_n - 1)).toNat 0) == 0 then
        g109_L0 m n v_l (w_i64 (v_n - 1))
      else
        some (.inl (v_l, v_n, ()))
      else none
    else
      some (.inl (v_l, v_n, ()))
def g109 (m : Nat) (v_l : List Int) : Option (List Int × Unit × Unit) :=
  (g109_L0 m m v_l (v_l.length : Int)).bind fun y1 =>
  match y1 with
  | .inl z2 =>
    if (0 : Int) ≤ 0 ∧ 0 ≤ z2.2.1 ∧ z2.2.1 ≤ (z2.1.length : Int) then
    some (z2.1.take z2.2.1.toNat, ((), ()))
    else none
  | .inr e =>
    e.elim
/-! 96 sparse/integer.big -/
def g96 (m : Nat) (v_neg : Bool) (v_mag : List Int) : Option ((Bool × List Int × Unit) × Unit × Unit × Unit) :=
  (g109 m v_mag).bind fun y1 =>
  bif (y1.1.length : Int) == 0 then
    some ((false, ([] : List Int), ()), ((), (), ()))
  else
    some ((v_neg, y1.1, ()), ((), (), ()))
/-! 65 sparse/integer.FromInt -/
def g65 (m : Nat) (v_n : Int) : Option ((Bool × List Int × Unit) × Unit × Unit) :=
  bif decide (v_n < 0) then
    (g96 m (decide (v_n < 0)) ([w_u32 (b_and_ .u64 (w_u64 (0 - (w_u64 v_n))) 4294967295), w_u32 (shr_ .u64 (w_u64 (0 - (w_u64 v_n))) 32)] : List Int)).bind fun y1 =>
    some ((y1.1.1, y1.1.2.1, ()), ((), ()))
  else
    (g96 m (decide (v_n < 0)) ([w_u32 (b_and_ .u64 (w_u64 v_n) 4294967295), w_u32 (shr_ .u64 (w_u64 v_n) 32)] : List Int)).bind fun y2 =>
    some ((y2.1.1, y2.1.2.1, ()), ((), ()))
/-! 66 sparse/float.negative -/
def g66 (m : Nat) (v_f : Int) : Option (Bool × Unit × Unit) :=
  some ((b_and_ .u64 v_f 9223372036854775808) != 0, ((), ()))
/-! 97 slices.Clone___uint32_uint32_ -/
def g97 (m : Nat) (v_s : List Int) : Option (List Int × Unit × Unit) :=
  if ([] : List Int).length + v_s.length ≤ 1073741824 then some (v_s, ((), ())) else none
/-! 67 sparse/integer.Neg -/
def g67 (m : Nat) (v_a_0 : Bool) (v_a_1 : List Int) : Option ((Bool × List Int × Unit) × Unit × Unit) :=
  (g97 m v_a_1).bind fun y1 =>
  (g96 m (!v_a_0) y1.1).bind fun y2 =>
  some ((y2.1.1, y2.1.2.1, ()), ((), ()))
/-! 74 sparse/dyad.bad -/
def g74 (m : Nat) : Option ((Bool × Bool × List Int × Int × Unit) × Unit) :=
  some ((true, false, ([] : List Int), 0, ()), ())
/-! 105 sparse/integer.Norm -/
def g105 (m : Nat) (v_a_0 : Bool) (v_a_1 : List Int) : Option ((Bool × List Int × Unit) × Unit × Unit) :=
  (g97 m v_a_1).bind fun y1 =>
  (g96 m v_a_0 y1.1).bind fun y2 =>
  some ((y2.1.1, y2.1.2.1, ()), ((), ()))
/-! 98 sparse/integer.Sign -/
def g98 (m : Nat) (v_a_0 : Bool) (v_a_1 : List Int) : Option (Int × Unit × Unit) :=
  (g109 m v_a_1).bind fun y1 =>
  bif (y1.1.length : Int) == 0 then
    some (0, ((), ()))
  else
    bif v_a_0 then
      some ((-1), ((), ()))
    else
      some (1, ((), ()))
/-! 133 math/bits.TrailingZeros32 -/
def g133 (m : Nat) (v_x : Int) : Option (Int × Unit × Unit) :=
  bif v_x == 0 then
    some (32, ((), ()))
  else
    if (0 : Int) ≤ 27 then
    if (0 : Int) ≤ (shr_ .u32 (w_u32 ((b_and_ .u32 v_x (w_u32 (0 - v_x))) * 125613361)) 27) ∧ (shr_ .u32 (w_u32 ((b_and_ .u32 v_x (w_u32 (0 - v_x))) * 125613361)) 27) < (tab32_0.length : Int) then
    some (w_i64 (tab32_0.getD (shr_ .u32 (w_u32 ((b_and_ .u32 v_x (w_u32 (0 - v_x))) * 125613361)) 27).toNat 0), ((), ()))
    else none
    else none
/-! 106 sparse/integer.TrailingZeros -/
def g106_L0 (m : Nat) : Nat → List Int → Int → Int → Option ((Int × Unit) ⊕ Unit ⊕ Empty)
  | 0, _, _, _ => none
  | n + 1, v_t6, v_t7, v_t8 =>
    bif decide (v_t8 < v_t7) then
      if (0 : Int) ≤ v_t8 ∧ v_t8 < (v_t6.length : Int) then
      bif (v_t6.getD v_t8.toNat 0) != 0 then
        (g133 m (v_t6.getD v_t8.toNat 0)).bind fun y1 =>
        some (.inl (w_i64 ((w_i64 (v_t8 * 32)) + y1.1), ()))
      else
        g106_L0 m n v_t6 v_t7 (w_i64 (v_t8 + 1))
      else none
    else
      some (.inr (.inl ()))
def g106 (m : Nat) (v_a_0 : Bool) (v_a_1 : List Int) : Option (Int × Unit × Unit) :=
  (g106_L0 m m v_a_1 (v_a_1.length : Int) 0).bind fun y1 =>
  match y1 with
  | .inl z2 =>
    some (z2.1, ((), ()))
  | .inr (.inl z3) =>
    some (0, ((), ()))
  | .inr (.inr e) =>
    e.elim
/-! 140 math/bits.Len32 -/
def g140 (m : Nat) (v_x : Int) : Option (Int × Unit × Unit) :=
  bif decide (v_x ≥ 65536) then
    bif decide ((shr_ .u32 v_x 16) ≥ 256) then
      if (0 : Int) ≤ (w_u8 (shr_ .u32 (shr_ .u32 v_x 16) 8)) ∧ (w_u8 (shr_ .u32 (shr_ .u32 v_x 16) 8)) < (tab256_1.length : Int) then
      some (w_i64 (24 + (w_i64 (tab256_1.getD (w_u8 (shr_ .u32 (shr_ .u32 v_x 16) 8)).toNat 0))), ((), ()))
      else none
    else
      if (0 : Int) ≤ (w_u8 (shr_ .u32 v_x 16)) ∧ (w_u8 (shr_ .u32 v_x 16)) < (tab256_1.length : Int) then
      some (w_i64 (16 + (w_i64 (tab256_1.getD (w_u8 (shr_ .u32 v_x 16)).toNat 0))), ((), ()))
      else none
  else
    bif decide (v_x ≥ 256) then
      if (0 : Int) ≤ (w_u8 (shr_ .u32 v_x 8)) ∧ (w_u8 (shr_ .u32 v_x 8)) < (tab256_1.length : Int) then
      some (w_i64 (8 + (w_i64 (tab256_1.getD (w_u8 (shr_ .u32 v_x 8)).toNat 0))), ((), ()))
      else none
    else
      if (0 : Int) ≤ (w_u8 v_x) ∧ (w_u8 v_x) < (tab256_1.length : Int) then
      some (w_i64 (0 + (w_i64 (tab256_1.getD (w_u8 v_x).toNat 0))), ((), ()))
      else none
/-! 134 sparse/integer.length -/
def g134 (m : Nat) (v_a : List Int) : Option (Int × Unit × Unit) :=
  bif (v_a.length : Int) == 0 then
    some (0, ((), ()))
  else
    if (0 : Int) ≤ (w_i64 ((v_a.length : Int) - 1)) ∧ (w_i64 ((v_a.length : Int) - 1)) < (v_a.length : Int) then
    (g140 m (v_a.getD (w_i64 ((v_a.length : Int) - 1)).toNat 0)).bind fun y1 =>
    some (w_i64 ((w_i64 ((w_i64 ((v_a.length : Int) - 1)) * 32)) + y1.1), ((), ()))
    else none
/-! 107 sparse/integer.BitLen -/
def g107 (m : Nat) (v_a_0 : Bool) (v_a_1 : List Int) : Option (Int × Unit × Unit) :=
  (g109 m v_a_1).bind fun y1 =>
  (g134 m y1.1).bind fun y2 =>
  some (y2.1, ((), ()))
/-! 136 sparse/integer.up -/
def g136_L0 (m : Nat) : Nat → Int → Int → List Int → List Int → Int → Int → Option ((List Int × Unit) ⊕ Empty)
  | 0, _, _, _, _, _, _ => none
  | n + 1, v_whole, v_part, v_out, v_t25, v_t26, v_t27 =>
    bif decide (v_t27 < v_t26) then
      if (0 : Int) ≤ v_t27 ∧ v_t27 < (v_t25.length : Int) then
      if (0 : Int) ≤ v_part then
      if (0 : Int) ≤ (w_i64 (v_whole + v_t27)) ∧ (w_i64 (v_whole + v_t27)) < (v_out.length : Int) then
      if (0 : Int) ≤ (w_i64 (v_whole + v_t27)) ∧ (w_i64 (v_whole + v_t27)) < (v_out.length : Int) then
      if (0 : Int) ≤ (w_i64 ((w_i64 (v_whole + v_t27)) + 1)) ∧ (w_i64 ((w_i64 (v_whole + v_t27)) + 1)) < ((v_out.set (0 + (w_i64 (v_whole + v_t27)).toNat) (b_or_ .u32 (v_out.getD (0 + (w_i64 (v_whole + v_t27)).toNat) 0) (w_u32 (b_and_ .u64 (shl_ .u64 (w_u64 (v_t25.getD v_t27.toNat 0)) v_part) 4294967295)))).length : Int) then
      g136_L0 m n v_whole v_part ((v_out.set (0 + (w_i64 (v_whole + v_t27)).toNat) (b_or_ .u32 (v_out.getD (0 + (w_i64 (v_whole + v_t27)).toNat) 0) (w_u32 (b_and_ .u64 (shl_ .u64 (w_u64 (v_t25.getD v_t27.toNat 0)) v_part) 4294967295)))).set (0 + (w_i64 ((w_i64 (v_whole + v_t27)) + 1)).toNat) (w_u32 (shr_ .u64 (shl_ .u64 (w_u64 (v_t25.getD v_t27.toNat 0)) v_part) 32))) v_t25 v_t26 (w_i64 (v_t27 + 1))
      else none
      else none
      else none
      else none
      else none
    else
      some (.inl (v_out, ()))
def g136 (m : Nat) (v_a : List Int) (v_n : Int) : Option (List Int × Unit × Unit × Unit) :=
  bif (v_a.length : Int) == 0 then
    some (([] : List Int), ((), (), ()))
  else
    if (0 : Int) ≤ (w_i64 ((w_i64 ((w_i64 (Int.tdiv v_n 32)) + (v_a.length : Int))) + 1)) ∧ (w_i64 ((w_i64 ((w_i64 (Int.tdiv v_n 32)) + (v_a.length : Int))) + 1)) ≤ (w_i64 ((w_i64 ((w_i64 (Int.tdiv v_n 32)) + (v_a.length : Int))) + 1)) ∧ (w_i64 ((w_i64 ((w_i64 (Int.tdiv v_n 32)) + (v_a.length : Int))) + 1)) ≤ 1073741824 then
    (g136_L0 m m (w_i64 (Int.tdiv v_n 32)) (w_u64 (Int.tmod v_n 32)) (List.replicate (w_i64 ((w_i64 ((w_i64 (Int.tdiv v_n 32)) + (v_a.length : Int))) + 1)).toNat (0 : Int)) v_a (v_a.length : Int) 0).bind fun y1 =>
    match y1 with
    | .inl z2 =>
      (g109 m z2.1).bind fun y3 =>
      some (y3.1, ((), (), ()))
    | .inr e =>
      e.elim
    else none
/-! 152 sparse/integer.down_1 -/
def g152 (m : Nat) (v_x : Int) : Option (Bool × Unit × Unit) :=
  some (v_x != 0, ((), ()))
/-! 158 slices.IndexFunc___uint32_uint32_ -/
def g158_L0 (m : Nat) : Nat → List Int → Int → Int → Option ((Int × Unit) ⊕ Unit ⊕ Empty)
  | 0, _, _, _ => none
  | n + 1, v_s, v_t7, v_t8 =>
    bif decide (v_t8 < v_t7) then
      if (0 : Int) ≤ v_t8 ∧ v_t8 < (v_s.length : Int) then
      (g152 m (v_s.getD v_t8.toNat 0)).bind fun y1 =>
      bif y1.1 then
        some (.inl (v_t8, ()))
      else
        g158_L0 m n v_s v_t7 (w_i64 (v_t8 + 1))
      else none
    else
      some (.inr (.inl ()))
def g158 (m : Nat) (v_s : List Int) : Option (Int × Unit × Unit × Unit) :=
  (g158_L0 m m v_s (v_s.length : Int) 0).bind fun y1 =>
  match y1 with
  | .inl z2 =>
    some (z2.1, ((), (), ()))
  | .inr (.inl z3) =>
    some ((-1), ((), (), ()))
  | .inr (.inr e) =>
    e.elim
/-! 151 slices.ContainsFunc___uint32_uint32_ -/
def g151 (m : Nat) (v_s : List Int) : Option (Bool × Unit × Unit × Unit) :=
  (g158 m v_s).bind fun y1 =>
  some (decide (y1.1 ≥ 0), ((), (), ()))
/-! 137 sparse/integer.down -/
def g137_L0 (m : Nat) : Nat → List Int → Int → Int → Bool → List Int → Int → Int → Option ((Bool × List Int × Unit) ⊕ Empty)
  | 0, _, _, _, _, _, _, _ => none
  | n + 1, v_a, v_t6, v_t7, v_t8, v_t9, v_t45, v_t46 =>
    bif decide (v_t46 < v_t45) then
      if (0 : Int) ≤ (w_i64 (v_t6 + v_t46)) ∧ (w_i64 (v_t6 + v_t46)) < (v_a.length : Int) then
      bif decide ((w_i64 ((w_i64 (v_t6 + v_t46)) + 1)) < (v_a.length : Int)) then
        if (0 : Int) ≤ (w_i64 ((w_i64 (v_t6 + v_t46)) + 1)) ∧ (w_i64 ((w_i64 (v_t6 + v_t46)) + 1)) < (v_a.length : Int) then
        if (0 : Int) ≤ v_t7 then
        if (0 : Int) ≤ v_t46 ∧ v_t46 < (v_t9.length : Int) then
        g137_L0 m n v_a v_t6 v_t7 v_t8 (v_t9.set (0 + v_t46.toNat) (w_u32 (b_and_ .u64 (shr_ .u64 (b_or_ .u64 (w_u64 (v_a.getD (w_i64 (v_t6 + v_t46)).toNat 0)) (shl_ .u64 (w_u64 (v_a.getD (w_i64 ((w_i64 (v_t6 + v_t46)) + 1)).toNat 0)) 32)) v_t7) 4294967295))) v_t45 (w_i64 (v_t46 + 1))
        else none
        else none
        else none
      else
        if (0 : Int) ≤ v_t7 then
        if (0 : Int) ≤ v_t46 ∧ v_t46 < (v_t9.length : Int) then
        g137_L0 m n v_a v_t6 v_t7 v_t8 (v_t9.set (0 + v_t46.toNat) (w_u32 (b_and_ .u64 (shr_ .u64 (w_u64 (v_a.getD (w_i64 (v_t6 + v_t46)).toNat 0)) v_t7) 4294967295))) v_t45 (w_i64 (v_t46 + 1))
        else none
        else none
      else none
    else
      some (.inl (v_t8, v_t9, ()))
def g137 (m : Nat) (v_a : List Int) (v_t1 : Int) : Option ((List Int × Bool × Unit) × Unit × Unit × Unit) :=
  bif decide ((w_i64 (Int.tdiv v_t1 32)) ≥ (v_a.length : Int)) then
    some ((([] : List Int), decide ((v_a.length : Int) > 0), ()), ((), (), ()))
  else
    if (0 : Int) ≤ 0 ∧ 0 ≤ (w_i64 (Int.tdiv v_t1 32)) ∧ (w_i64 (Int.tdiv v_t1 32)) ≤ (v_a.length : Int) then
    (g151 m (v_a.take (w_i64 (Int.tdiv v_t1 32)).toNat)).bind fun y1 =>
    bif y1.1 then
      if (0 : Int) ≤ (w_i64 ((v_a.length : Int) - (w_i64 (Int.tdiv v_t1 32)))) ∧ (w_i64 ((v_a.length : Int) - (w_i64 (Int.tdiv v_t1 32)))) ≤ (w_i64 ((v_a.length : Int) - (w_i64 (Int.tdiv v_t1 32)))) ∧ (w_i64 ((v_a.length : Int) - (w_i64 (Int.tdiv v_t1 32)))) ≤ 1073741824 then
      (g137_L0 m m v_a (w_i64 (Int.tdiv v_t1 32)) (w_u64 (Int.tmod v_t1 32)) true (List.replicate (w_i64 ((v_a.length : Int) - (w_i64 (Int.tdiv v_t1 32)))).toNat (0 : Int)) ((List.replicate (w_i64 ((v_a.length : Int) - (w_i64 (Int.tdiv v_t1 32)))).toNat (0 : Int)).length : Int) 0).bind fun y2 =>
      match y2 with
      | .inl z3 =>
        (g109 m z3.2.1).bind fun y4 =>
        some ((y4.1, z3.1, ()), ((), (), ()))
      | .inr e =>
        e.elim
      else none
    else
      if (0 : Int) ≤ (w_i64 (Int.tdiv v_t1 32)) ∧ (w_i64 (Int.tdiv v_t1 32)) < (v_a.length : Int) then
      if (0 : Int) ≤ (w_u64 (Int.tmod v_t1 32)) then
      if (0 : Int) ≤ (w_i64 ((v_a.length : Int) - (w_i64 (Int.tdiv v_t1 32)))) ∧ (w_i64 ((v_a.length : Int) - (w_i64 (Int.tdiv v_t1 32)))) ≤ (w_i64 ((v_a.length : Int) - (w_i64 (Int.tdiv v_t1 32)))) ∧ (w_i64 ((v_a.length : Int) - (w_i64 (Int.tdiv v_t1 32)))) ≤ 1073741824 then
      (g137_L0 m m v_a (w_i64 (Int.tdiv v_t1 32)) (w_u64 (Int.tmod v_t1 32)) ((b_and_ .u32 (v_a.getD (w_i64 (Int.tdiv v_t1 32)).toNat 0) (w_u32 ((shl_ .u32 1 (w_u64 (Int.tmod v_t1 32))) - 1))) != 0) (List.replicate (w_i64 ((v_a.length : Int) - (w_i64 (Int.tdiv v_t1 32)))).toNat (0 : Int)) ((List.replicate (w_i64 ((v_a.length : Int) - (w_i64 (Int.tdiv v_t1 32)))).toNat (0 : Int)).length : Int) 0).bind fun y5 =>
      match y5 with
      | .inl z6 =>
        (g109 m z6.2.1).bind fun y7 =>
        some ((y7.1, z6.1, ()), ((), (), ()))
      | .inr e =>
        e.elim
      else none
      else none
      else none
    else none
/-! 110 sparse/integer.plus -/
def g110_L0 (m : Nat) : Nat → List Int → List Int → Int → List Int → Int → Int → Option ((List Int × Int × Unit) ⊕ Empty)
  | 0, _, _, _, _, _, _ => none
  | n + 1, v_b, v_out, v_carry, v_t21, v_t22, v_t23 =>
    bif decide (v_t23 < v_t22) then
      if (0 : Int) ≤ v_t23 ∧ v_t23 < (v_t21.length : Int) then
      bif decide (v_t23 < (v_b.length : Int)) then
        if (0 : Int) ≤ v_t23 ∧ v_t23 < (v_b.length : Int) then
        if v_out.length + ([w_u32 (b_and_ .u64 (w_u64 ((w_u64 ((w_u64 (v_t21.getD v_t23.toNat 0)) + v_carry)) + (w_u64 (v_b.getD v_t23.toNat 0)))) 4294967295)] : List Int).length ≤ 1073741824 then
        g110_L0 m n v_b (v_out ++ ([w_u32 (b_and_ .u64 (w_u64 ((w_u64 ((w_u64 (v_t21.getD v_t23.toNat 0)) + v_carry)) + (w_u64 (v_b.getD v_t23.toNat 0)))) 4294967295)] : List Int)) (shr_ .u64 (w_u64 ((w_u64 ((w_u64 (v_t21.getD v_t23.toNat 0)) + v_carry)) + (w_u64 (v_b.getD v_t23.toNat 0)))) 32) v_t21 v_t22 (w_i64 (v_t23 + 1))
        else none
        else none
      else
        if v_out.length + ([w_u32 (b_and_ .u64 (w_u64 ((w_u64 (v_t21.getD v_t23.toNat 0)) + v_carry)) 4294967295)] : List Int).length ≤ 1073741824 then
        g110_L0 m n v_b (v_out ++ ([w_u32 (b_and_ .u64 (w_u64 ((w_u64 (v_t21.getD v_t23.toNat 0)) + v_carry)) 4294967295)] : List Int)) (shr_ .u64 (w_u64 ((w_u64 (v_t21.getD v_t23.toNat 0)) + v_carry)) 32) v_t21 v_t22 (w_i64 (v_t23 + 1))
        else none
      else none
    else
      some (.inl (v_out, v_carry, ()))
def g110 (m : Nat) (v_a : List Int) (v_b : List Int) : Option (List Int × Unit × Unit × Unit) :=
  bif decide ((v_a.length : Int) < (v_b.length : Int)) then
    if (0 : Int) ≤ 0 ∧ 0 ≤ (w_i64 ((v_b.length : Int) + 1)) ∧ (w_i64 ((v_b.length : Int) + 1)) ≤ 1073741824 then
    (g110_L0 m m v_a (List.replicate 0 (0 : Int)) 0 v_b (v_b.length : Int) 0).bind fun y1 =>
    match y1 with
    | .inl z2 =>
      if z2.1.length + ([w_u32 z2.2.1] : List Int).length ≤ 1073741824 then
      (g109 m (z2.1 ++ ([w_u32 z2.2.1] : List Int))).bind fun y3 =>
      some (y3.1, ((), (), ()))
      else none
    | .inr e =>
      e.elim
    else none
  else
    if (0 : Int) ≤ 0 ∧ 0 ≤ (w_i64 ((v_a.length : Int) + 1)) ∧ (w_i64 ((v_a.length : Int) + 1)) ≤ 1073741824 then
    (g110_L0 m m v_b (List.replicate 0 (0 : Int)) 0 v_a (v_a.length : Int) 0).bind fun y4 =>
    match y4 with
    | .inl z5 =>
      if z5.1.length + ([w_u32 z5.2.1] : List Int).length ≤ 1073741824 then
      (g109 m (z5.1 ++ ([w_u32 z5.2.1] : List Int))).bind fun y6 =>
      some (y6.1, ((), (), ()))
      else none
    | .inr e =>
      e.elim
    else none
/-! 113 sparse/integer.Shift -/
def g113 (m : Nat) (v_a_0 : Bool) (v_a_1 : List Int) (v_n : Int) : Option (((Bool × List Int × Unit) × Int × Unit) × Unit × Unit × Unit) :=
  bif decide (v_n < (-1048576)) then
    some (((false, ([] : List Int), ()), 3, ()), ((), (), ()))
  else
    bif decide (v_n > 1048576) then
      some (((false, ([] : List Int), ()), 3, ()), ((), (), ()))
    else
      (g109 m v_a_1).bind fun y1 =>
      bif decide (v_n ≥ 0) then
        (g136 m y1.1 v_n).bind fun y2 =>
        (g96 m v_a_0 y2.1).bind fun y3 =>
        some (((y3.1.1, y3.1.2.1, ()), 0, ()), ((), (), ()))
      else
        (g137 m y1.1 (w_i64 (0 - v_n))).bind fun y4 =>
        bif v_a_0 then
          bif y4.1.2.1 then
            (g110 m y4.1.1 ([1] : List Int)).bind fun y5 =>
            (g96 m v_a_0 y5.1).bind fun y6 =>
            some (((y6.1.1, y6.1.2.1, ()), 0, ()), ((), (), ()))
          else
            (g96 m v_a_0 y4.1.1).bind fun y7 =>
            some (((y7.1.1, y7.1.2.1, ()), 0, ()), ((), (), ()))
        else
          (g96 m v_a_0 y4.1.1).bind fun y8 =>
          some (((y8.1.1, y8.1.2.1, ()), 0, ()), ((), (), ()))
/-! 108 sparse/dyad.right -/
def g108_L0 (m : Nat) : Nat → Int → Bool → List Int → Bool → List Int → Option ((Int × (Bool × List Int × Unit) × (Bool × List Int × Unit) × Unit) ⊕ Empty)
  | 0, _, _, _, _, _ => none
  | n + 1, v_n, v_a_0, v_a_1, v_t4_0, v_t4_1 =>
    bif decide (v_n > 1048576) then
      (g113 m v_a_0 v_a_1 (-1048576)).bind fun y1 =>
      g108_L0 m n (w_i64 (v_n - 1048576)) y1.1.1.1 y1.1.1.2.1 v_t4_0 v_t4_1
    else
      some (.inl (v_n, (v_a_0, v_a_1, ()), (v_t4_0, v_t4_1, ()), ()))
def g108 (m : Nat) (v_a_0 : Bool) (v_a_1 : List Int) (v_n : Int) : Option ((Bool × List Int × Unit) × Unit × Unit × Unit) :=
  (g108_L0 m m v_n v_a_0 v_a_1 false ([] : List Int)).bind fun y1 =>
  match y1 with
  | .inl z2 =>
    (g113 m z2.2.1.1 z2.2.1.2.1 (w_i64 (0 - z2.1))).bind fun y3 =>
    some ((y3.1.1.1, y3.1.1.2.1, ()), ((), (), ()))
  | .inr e =>
    e.elim
/-! 73 sparse/dyad.norm -/
def g73 (m : Nat) (v_d_0 : Bool) (v_d_1 : Bool) (v_d_2 : List Int) (v_d_3 : Int) : Option (((Bool × Bool × List Int × Int × Unit) × Bool × Unit) × Unit × Unit) :=
  bif v_d_0 then
    (g74 m).bind fun y1 =>
    some (((y1.1.1, y1.1.2.1, y1.1.2.2.1, y1.1.2.2.2.1, ()), false, ()), ((), ()))
  else
    (g105 m v_d_1 v_d_2).bind fun y2 =>
    (g98 m y2.1.1 y2.1.2.1).bind fun y3 =>
    bif y3.1 == 0 then
      some (((false, false, ([] : List Int), 0, ()), true, ()), ((), ()))
    else
      (g106 m y2.1.1 y2.1.2.1).bind fun y4 =>
      (g107 m y2.1.1 y2.1.2.1).bind fun y5 =>
      bif decide (v_d_3 > (w_i64 (65536 - y5.1))) then
        (g74 m).bind fun y6 =>
        some (((y6.1.1, y6.1.2.1, y6.1.2.2.1, y6.1.2.2.2.1, ()), false, ()), ((), ()))
      else
        bif decide (v_d_3 < (w_i64 ((-65536) - y4.1))) then
          (g74 m).bind fun y7 =>
          some (((y7.1.1, y7.1.2.1, y7.1.2.2.1, y7.1.2.2.2.1, ()), false, ()), ((), ()))
        else
          (g108 m y2.1.1 y2.1.2.1 y4.1).bind fun y8 =>
          some (((false, y8.1.1, y8.1.2.1, w_i64 (v_d_3 + y4.1), ()), true, ()), ((), ()))
/-! 68 sparse/dyad.Make -/
def g68 (m : Nat) (v_man_0 : Bool) (v_man_1 : List Int) (v_exp : Int) : Option ((Bool × Bool × List Int × Int × Unit) × Unit × Unit × Unit) :=
  (g73 m false v_man_0 v_man_1 v_exp).bind fun y1 =>
  some ((y1.1.1.1, y1.1.1.2.1, y1.1.1.2.2.1, y1.1.1.2.2.2.1, ()), ((), (), ()))
/-! 34 sparse/float.Of -/
def g34 (m : Nat) (v_f : Int) : Option ((Bool × Bool × List Int × Int × Unit) × Unit × Unit) :=
  (g59 m v_f).bind fun y1 =>
  bif y1.1.1 == 2047 then
    some ((true, false, ([] : List Int), 0, ()), ((), ()))
  else
    bif y1.1.1 == 0 then
      (g65 m (w_i64 y1.1.2.1)).bind fun y2 =>
      (g66 m v_f).bind fun y3 =>
      bif y3.1 then
        (g67 m y2.1.1 y2.1.2.1).bind fun y4 =>
        (g68 m y4.1.1 y4.1.2.1 (-1074)).bind fun y5 =>
        some ((y5.1.1, y5.1.2.1, y5.1.2.2.1, y5.1.2.2.2.1, ()), ((), ()))
      else
        (g68 m y2.1.1 y2.1.2.1 (-1074)).bind fun y6 =>
        some ((y6.1.1, y6.1.2.1, y6.1.2.2.1, y6.1.2.2.2.1, ()), ((), ()))
    else
      (g65 m (w_i64 (b_or_ .u64 y1.1.2.1 4503599627370496))).bind fun y7 =>
      (g66 m v_f).bind fun y8 =>
      bif y8.1 then
        (g67 m y7.1.1 y7.1.2.1).bind fun y9 =>
        (g68 m y9.1.1 y9.1.2.1 (w_i64 (y1.1.1 - 1075))).bind fun y10 =>
        some ((y10.1.1, y10.1.2.1, y10.1.2.2.1, y10.1.2.2.2.1, ()), ((), ()))
      else
        (g68 m y7.1.1 y7.1.2.1 (w_i64 (y1.1.1 - 1075))).bind fun y11 =>
        some ((y11.1.1, y11.1.2.1, y11.1.2.2.1, y11.1.2.2.2.1, ()), ((), ()))
/-! 76 sparse/dyad.left -/
def g76 (m : Nat) (v_a_0 : Bool) (v_a_1 : List Int) (v_n : Int) : Option ((Bool × List Int × Unit) × Unit × Unit × Unit) :=
  (g113 m v_a_0 v_a_1 v_n).bind fun y1 =>
  some ((y1.1.1.1, y1.1.1.2.1, ()), ((), (), ()))
/-! 150 cmp.isNaN_uint32_ -/
def g150 (m : Nat) (v_x : Int) : Option (Bool × Unit × Unit) :=
  some (v_x != v_x, ((), ()))
/-! 135 cmp.Compare_uint32_ -/
def g135 (m : Nat) (v_x : Int) (v_y : Int) : Option (Int × Unit × Unit × Unit) :=
  (g150 m v_x).bind fun y1 =>
  (g150 m v_y).bind fun y2 =>
  bif y1.1 then
    bif y2.1 then
      some (0, ((), (), ()))
    else
      some ((-1), ((), (), ()))
  else
    bif y2.1 then
      some (1, ((), (), ()))
    else
      bif decide (v_x < v_y) then
        some ((-1), ((), (), ()))
      else
        bif decide (v_x > v_y) then
          some (1, ((), (), ()))
        else
          some (0, ((), (), ()))
/-! 111 sparse/integer.compare -/
def g111_L0 (m : Nat) : Nat → List Int → List Int → Int → Option ((Int × Unit) ⊕ Unit ⊕ Empty)
  | 0, _, _, _ => none
  | n + 1, v_a, v_b, v_i =>
    bif decide (v_i ≥ 0) then
      if (0 : Int) ≤ v_i ∧ v_i < (v_a.length : Int) then
      if (0 : Int) ≤ v_i ∧ v_i < (v_b.length : Int) then
      bif (v_a.getD v_i.toNat 0) != (v_b.getD v_i.toNat 0) then
        if (0 : Int) ≤ v_i ∧ v_i < (v_a.length : Int) then
        if (0 : Int) ≤ v_i ∧ v_i < (v_b.length : Int) then
        (g135 m (v_a.getD v_i.toNat 0) (v_b.getD v_i.toNat 0)).bind fun y1 =>
        some (.inl (y1.1, ()))
        else none
        else none
      else
        g111_L0 m n v_a v_b (w_i64 (v_i - 1))
      else none
      else none
    else
      some (.inr (.inl ()))
def g111 (m : Nat) (v_a : List Int) (v_b : List Int) : Option (Int × Unit × Unit × Unit) :=
  bif (v_a.length : Int) != (v_b.length : Int) then
    (g64 m (v_a.length : Int) (v_b.length : Int)).bind fun y1 =>
    some (y1.1, ((), (), ()))
  else
    (g111_L0 m m v_a v_b (w_i64 ((v_a.length : Int) - 1))).bind fun y2 =>
    match y2 with
    | .inl z3 =>
      some (z3.1, ((), (), ()))
    | .inr (.inl z4) =>
      some (0, ((), (), ()))
    | .inr (.inr e) =>
      e.elim
/-! 112 sparse/integer.minus -/
def g112_L0 (m : Nat) : Nat → List Int → List Int → Int → List Int → Int → Int → Option ((List Int × Unit) ⊕ Empty)
  | 0, _, _, _, _, _, _ => none
  | n + 1, v_b, v_out, v_borrow, v_t13, v_t14, v_t15 =>
    bif decide (v_t15 < v_t14) then
      if (0 : Int) ≤ v_t15 ∧ v_t15 < (v_t13.length : Int) then
      bif decide (v_t15 < (v_b.length : Int)) then
        if (0 : Int) ≤ v_t15 ∧ v_t15 < (v_b.length : Int) then
        if (0 : Int) ≤ v_t15 ∧ v_t15 < (v_out.length : Int) then
        g112_L0 m n v_b (v_out.set (0 + v_t15.toNat) (w_u32 (b_and_ .u64 (w_u64 ((w_u64 ((w_u64 (v_t13.getD v_t15.toNat 0)) - v_borrow)) - (w_u64 (v_b.getD v_t15.toNat 0)))) 4294967295))) (b_and_ .u64 (shr_ .u64 (w_u64 ((w_u64 ((w_u64 (v_t13.getD v_t15.toNat 0)) - v_borrow)) - (w_u64 (v_b.getD v_t15.toNat 0)))) 32) 1) v_t13 v_t14 (w_i64 (v_t15 + 1))
        else none
        else none
      else
        if (0 : Int) ≤ v_t15 ∧ v_t15 < (v_out.length : Int) then
        g112_L0 m n v_b (v_out.set (0 + v_t15.toNat) (w_u32 (b_and_ .u64 (w_u64 ((w_u64 (v_t13.getD v_t15.toNat 0)) - v_borrow)) 4294967295))) (b_and_ .u64 (shr_ .u64 (w_u64 ((w_u64 (v_t13.getD v_t15.toNat 0)) - v_borrow)) 32) 1) v_t13 v_t14 (w_i64 (v_t15 + 1))
        else none
      else none
    else
      some (.inl (v_out, ()))
def g112 (m : Nat) (v_a : List Int) (v_b : List Int) : Option (List Int × Unit × Unit × Unit) :=
  if (0 : Int) ≤ (v_a.length : Int) ∧ (v_a.length : Int) ≤ (v_a.length : Int) ∧ (v_a.length : Int) ≤ 1073741824 then
  (g112_L0 m m v_b (List.replicate (v_a.length : Int).toNat (0 : Int)) 0 v_a (v_a.length : Int) 0).bind fun y1 =>
  match y1 with
  | .inl z2 =>
    (g109 m z2.1).bind fun y3 =>
    some (y3.1, ((), (), ()))
  | .inr e =>
    e.elim
  else none
/-! 75 sparse/integer.Add -/
def g75 (m : Nat) (v_a_0 : Bool) (v_a_1 : List Int) (v_b_0 : Bool) (v_b_1 : List Int) : Option ((Bool × List Int × Unit) × Unit × Unit × Unit) :=
  (g109 m v_a_1).bind fun y1 =>
  (g109 m v_b_1).bind fun y2 =>
  bif v_a_0 == v_b_0 then
    (g110 m y1.1 y2.1).bind fun y3 =>
    (g96 m v_a_0 y3.1).bind fun y4 =>
    some ((y4.1.1, y4.1.2.1, ()), ((), (), ()))
  else
    (g111 m y1.1 y2.1).bind fun y5 =>
    bif decide (y5.1 ≥ 0) then
      (g112 m y1.1 y2.1).bind fun y6 =>
      (g96 m v_a_0 y6.1).bind fun y7 =>
      some ((y7.1.1, y7.1.2.1, ()), ((), (), ()))
    else
      (g112 m y2.1 y1.1).bind fun y8 =>
      (g96 m v_b_0 y8.1).bind fun y9 =>
      some ((y9.1.1, y9.1.2.1, ()), ((), (), ()))
/-! 36 sparse/dyad.Sum -/
def g36_L1 (m : Nat) : Nat → Bool → Bool → List Int → Int → Int → Bool → List Int → (List (Bool × (Bool × List Int) × Int)) → Int → Int → Option (((Bool × Bool × List Int × Int × Unit) × Int × (Bool × List Int × Unit) × Unit) ⊕ Empty)
  | 0, _, _, _, _, _, _, _, _, _, _ => none
  | n + 1, v_t2_0, v_t2_1, v_t2_2, v_t2_3, v_exp, v_sum_0, v_sum_1, v_t35, v_t36, v_t37 =>
    bif decide (v_t37 < v_t36) then
      if (0 : Int) ≤ v_t37 ∧ v_t37 < (v_t35.length : Int) then
      (g76 m (v_t35.getD (0 + v_t37.toNat) (false, ((false, ([] : List Int)), 0))).2.1.1 (v_t35.getD (0 + v_t37.toNat) (false, ((false, ([] : List Int)), 0))).2.1.2 (w_i64 ((v_t35.getD (0 + v_t37.toNat) (false, ((false, ([] : List Int)), 0))).2.2 - v_exp))).bind fun y1 =>
      (g75 m v_sum_0 v_sum_1 y1.1.1 y1.1.2.1).bind fun y2 =>
      g36_L1 m n v_t2_0 v_t2_1 v_t2_2 v_t2_3 v_exp y2.1.1 y2.1.2.1 v_t35 v_t36 (w_i64 (v_t37 + 1))
      else none
    else
      some (.inl ((v_t2_0, v_t2_1, v_t2_2, v_t2_3, ()), v_exp, (v_sum_0, v_sum_1, ()), ()))
def g36_L0 (m : Nat) : Nat → Bool → Bool → List Int → Int → (List (Bool × (Bool × List Int) × Int)) → Int → (List (Bool × (Bool × List Int) × Int)) → Int → Int → Option (((Bool × Bool × List Int × Int × Unit) × Unit) ⊕ ((Bool × Bool × List Int × Int × Unit) × (List (Bool × (Bool × List Int) × Int)) × Int × Unit) ⊕ Empty)
  | 0, _, _, _, _, _, _, _, _, _ => none
  | n + 1, v_t2_0, v_t2_1, v_t2_2, v_t2_3, v_all, v_exp, v_t12, v_t13, v_t14 =>
    bif decide (v_t14 < v_t13) then
      if (0 : Int) ≤ v_t14 ∧ v_t14 < (v_t12.length : Int) then
      (g73 m (v_t12.getD v_t14.toNat (false, ((false, ([] : List Int)), 0))).1 (v_t12.getD v_t14.toNat (false, ((false, ([] : List Int)), 0))).2.1.1 (v_t12.getD v_t14.toNat (false, ((false, ([] : List Int)), 0))).2.1.2 (v_t12.getD v_t14.toNat (false, ((false, ([] : List Int)), 0))).2.2).bind fun y1 =>
      bif !y1.1.2.1 then
        (g74 m).bind fun y2 =>
        some (.inl ((y2.1.1, y2.1.2.1, y2.1.2.2.1, y2.1.2.2.2.1, ()), ()))
      else
        if v_all.length + ([(y1.1.1.1, ((y1.1.1.2.1, y1.1.1.2.2.1), y1.1.1.2.2.2.1))] : List (Bool × (Bool × List Int) × Int)).length ≤ 1073741824 then
        g36_L0 m n v_t2_0 v_t2_1 v_t2_2 v_t2_3 (v_all ++ ([(y1.1.1.1, ((y1.1.1.2.1, y1.1.1.2.2.1), y1.1.1.2.2.2.1))] : List (Bool × (Bool × List Int) × Int))) (if y1.1.1.2.2.2.1 < v_exp then y1.1.1.2.2.2.1 else v_exp) v_t12 v_t13 (w_i64 (v_t14 + 1))
        else none
      else none
    else
      some (.inr (.inl ((v_t2_0, v_t2_1, v_t2_2, v_t2_3, ()), v_all, v_exp, ())))
def g36 (m : Nat) (v_l : List (Bool × (Bool × List Int) × Int)) : Option ((Bool × Bool × List Int × Int × Unit) × Unit × Unit) :=
  (g36_L0 m m false false ([] : List Int) 0 ([] : List (Bool × (Bool × List Int) × Int)) 0 v_l (v_l.length : Int) 0).bind fun y1 =>
  match y1 with
  | .inl z2 =>
    some ((z2.1.1, z2.1.2.1, z2.1.2.2.1, z2.1.2.2.2.1, ()), ((), ()))
  | .inr (.inl z3) =>
    (g36_L1 m m z3.1.1 z3.1.2.1 z3.1.2.2.1 z3.1.2.2.2.1 z3.2.2.1 false ([] : List Int) z3.2.1 (z3.2.1.length : Int) 0).bind fun y4 =>
    match y4 with
    | .inl z5 =>
      (g68 m z5.2.2.1.1 z5.2.2.1.2.1 z5.2.1).bind fun y6 =>
      some ((y6.1.1, y6.1.2.1, y6.1.2.2.1, y6.1.2.2.2.1, ()), ((), ()))
    | .inr e =>
      e.elim
  | .inr (.inr e) =>
    e.elim
/-! 69 sparse/dyad.Norm -/
def g69 (m : Nat) (v_d_0 : Bool) (v_d_1 : Bool) (v_d_2 : List Int) (v_d_3 : Int) : Option ((Bool × Bool × List Int × Int × Unit) × Unit × Unit) :=
  (g73 m v_d_0 v_d_1 v_d_2 v_d_3).bind fun y1 =>
  some ((y1.1.1.1, y1.1.1.2.1, y1.1.1.2.2.1, y1.1.1.2.2.2.1, ()), ((), ()))
/-! 70 sparse/dyad.Sign -/
def g70 (m : Nat) (v_d_0 : Bool) (v_d_1 : Bool) (v_d_2 : List Int) (v_d_3 : Int) : Option (Int × Unit × Unit) :=
  (g73 m v_d_0 v_d_1 v_d_2 v_d_3).bind fun y1 =>
  (g98 m y1.1.1.2.1 y1.1.1.2.2.1).bind fun y2 =>
  some (y2.1, ((), ()))
/-! 101 sparse/integer.Abs -/
def g101 (m : Nat) (v_a_0 : Bool) (v_a_1 : List Int) : Option ((Bool × List Int × Unit) × Unit × Unit) :=
  (g97 m v_a_1).bind fun y1 =>
  (g96 m false y1.1).bind fun y2 =>
  some ((y2.1.1, y2.1.2.1, ()), ((), ()))
/-! 72 sparse/dyad.Of -/
def g72 (m : Nat) (v_d_0 : Bool) (v_d_1 : Bool) (v_d_2 : List Int) (v_d_3 : Int) : Option ((Bool × Bool × List Int × Int × Bool × Unit) × Unit × Unit) :=
  (g101 m v_d_1 v_d_2).bind fun y1 =>
  some ((v_d_1, y1.1.1, y1.1.2.1, v_d_3, false, ()), ((), ()))
/-! 99 _sparse/dyad.Real_.Log2 -/
def g99 (m : Nat) (v_x_0 : Bool) (v_x_1 : Bool) (v_x_2 : List Int) (v_x_3 : Int) (v_x_4 : Bool) : Option (Int × Unit × Unit) :=
  (g107 m v_x_1 v_x_2).bind fun y1 =>
  some (w_i64 ((w_i64 (v_x_3 + y1.1)) - 1), ((), ()))
/-! 148 sparse/integer.Sub -/
def g148 (m : Nat) (v_a_0 : Bool) (v_a_1 : List Int) (v_b_0 : Bool) (v_b_1 : List Int) : Option ((Bool × List Int × Unit) × Unit × Unit × Unit) :=
  (g75 m v_a_0 v_a_1 (!v_b_0) v_b_1).bind fun y1 =>
  some ((y1.1.1, y1.1.2.1, ()), ((), (), ()))
/-! 149 sparse/integer.Cmp -/
def g149 (m : Nat) (v_a_0 : Bool) (v_a_1 : List Int) (v_b_0 : Bool) (v_b_1 : List Int) : Option (Int × Unit × Unit × Unit) :=
  (g98 m v_a_0 v_a_1).bind fun y1 =>
  (g98 m v_b_0 v_b_1).bind fun y2 =>
  bif decide (y1.1 < y2.1) then
    some ((-1), ((), (), ()))
  else
    bif decide (y1.1 > y2.1) then
      some (1, ((), (), ()))
    else
      (g109 m v_a_1).bind fun y3 =>
      (g109 m v_b_1).bind fun y4 =>
      (g111 m y3.1 y4.1).bind fun y5 =>
      some (w_i64 (y1.1 * y5.1), ((), (), ()))
/-! 132 _sparse/dyad.Real_.cut -/
def g132 (m : Nat) (v_x_0 : Bool) (v_x_1 : Bool) (v_x_2 : List Int) (v_x_3 : Int) (v_x_4 : Bool) (v_k : Int) : Option (((Bool × List Int × Unit) × Int × Bool × Unit) × Unit × Unit × Unit) :=
  (g107 m v_x_1 v_x_2).bind fun y1 =>
  bif decide (v_k > y1.1) then
    some (((false, ([] : List Int), ()), (-1), false, ()), ((), (), ()))
  else
    (g108 m v_x_1 v_x_2 v_k).bind fun y2 =>
    (g76 m y2.1.1 y2.1.2.1 v_k).bind fun y3 =>
    (g148 m v_x_1 v_x_2 y3.1.1 y3.1.2.1).bind fun y4 =>
    (g65 m 1).bind fun y5 =>
    (g76 m y5.1.1 y5.1.2.1 (w_i64 (v_k - 1))).bind fun y6 =>
    (g149 m y4.1.1 y4.1.2.1 y6.1.1 y6.1.2.1).bind fun y7 =>
    bif y7.1 == 0 then
      bif v_x_4 then
        (g98 m y4.1.1 y4.1.2.1).bind fun y8 =>
        bif y8.1 == 0 then
          some (((y2.1.1, y2.1.2.1, ()), 1, !v_x_4, ()), ((), (), ()))
        else
          some (((y2.1.1, y2.1.2.1, ()), 1, false, ()), ((), (), ()))
      else
        (g98 m y4.1.1 y4.1.2.1).bind fun y9 =>
        bif y9.1 == 0 then
          some (((y2.1.1, y2.1.2.1, ()), y7.1, !v_x_4, ()), ((), (), ()))
        else
          some (((y2.1.1, y2.1.2.1, ()), y7.1, false, ()), ((), (), ()))
    else
      (g98 m y4.1.1 y4.1.2.1).bind fun y10 =>
      bif y10.1 == 0 then
        some (((y2.1.1, y2.1.2.1, ()), y7.1, !v_x_4, ()), ((), (), ()))
      else
        some (((y2.1.1, y2.1.2.1, ()), y7.1, false, ()), ((), (), ()))
/-! 102 _sparse/dyad.Real_.Multiple -/
def g102 (m : Nat) (v_x_0 : Bool) (v_x_1 : Bool) (v_x_2 : List Int) (v_x_3 : Int) (v_x_4 : Bool) (v_t1 : Int) (v_t2 : Int) : Option ((Bool × List Int × Unit) × Unit × Unit × Unit × Unit) :=
  bif decide (v_t1 ≤ v_x_3) then
    (g76 m v_x_1 v_x_2 (w_i64 (v_x_3 - v_t1))).bind fun y1 =>
    bif v_x_0 then
      (g67 m y1.1.1 y1.1.2.1).bind fun y2 =>
      some ((y2.1.1, y2.1.2.1, ()), ((), (), (), ()))
    else
      some ((y1.1.1, y1.1.2.1, ()), ((), (), (), ()))
  else
    (g132 m v_x_0 v_x_1 v_x_2 v_x_3 v_x_4 (w_i64 (v_t1 - v_x_3))).bind fun y3 =>
    bif y3.1.2.2.1 then
      bif v_x_0 then
        (g67 m y3.1.1.1 y3.1.1.2.1).bind fun y4 =>
        some ((y4.1.1, y4.1.2.1, ()), ((), (), (), ()))
      else
        some ((y3.1.1.1, y3.1.1.2.1, ()), ((), (), (), ()))
    else
      bif v_t2 == 1 then
        bif v_x_0 then
          (g65 m 1).bind fun y5 =>
          (g75 m y3.1.1.1 y3.1.1.2.1 y5.1.1 y5.1.2.1).bind fun y6 =>
          bif v_x_0 then
            (g67 m y6.1.1 y6.1.2.1).bind fun y7 =>
            some ((y7.1.1, y7.1.2.1, ()), ((), (), (), ()))
          else
            some ((y6.1.1, y6.1.2.1, ()), ((), (), (), ()))
        else
          bif v_x_0 then
            (g67 m y3.1.1.1 y3.1.1.2.1).bind fun y8 =>
            some ((y8.1.1, y8.1.2.1, ()), ((), (), (), ()))
          else
            some ((y3.1.1.1, y3.1.1.2.1, ()), ((), (), (), ()))
      else
        bif v_t2 == 2 then
          bif !v_x_0 then
            (g65 m 1).bind fun y9 =>
            (g75 m y3.1.1.1 y3.1.1.2.1 y9.1.1 y9.1.2.1).bind fun y10 =>
            bif v_x_0 then
              (g67 m y10.1.1 y10.1.2.1).bind fun y11 =>
              some ((y11.1.1, y11.1.2.1, ()), ((), (), (), ()))
            else
              some ((y10.1.1, y10.1.2.1, ()), ((), (), (), ()))
          else
            bif v_x_0 then
              (g67 m y3.1.1.1 y3.1.1.2.1).bind fun y12 =>
              some ((y12.1.1, y12.1.2.1, ()), ((), (), (), ()))
            else
              some ((y3.1.1.1, y3.1.1.2.1, ()), ((), (), (), ()))
        else
          bif v_t2 == 3 then
            bif v_x_0 then
              (g67 m y3.1.1.1 y3.1.1.2.1).bind fun y13 =>
              some ((y13.1.1, y13.1.2.1, ()), ((), (), (), ()))
            else
              some ((y3.1.1.1, y3.1.1.2.1, ()), ((), (), (), ()))
          else
            bif decide (y3.1.2.1 > 0) then
              (g65 m 1).bind fun y14 =>
              (g75 m y3.1.1.1 y3.1.1.2.1 y14.1.1 y14.1.2.1).bind fun y15 =>
              bif v_x_0 then
                (g67 m y15.1.1 y15.1.2.1).bind fun y16 =>
                some ((y16.1.1, y16.1.2.1, ()), ((), (), (), ()))
              else
                some ((y15.1.1, y15.1.2.1, ()), ((), (), (), ()))
            else
              bif y3.1.2.1 == 0 then
                (g98 m y3.1.1.1 y3.1.1.2.1).bind fun y17 =>
                bif y17.1 != 0 then
                  (g106 m y3.1.1.1 y3.1.1.2.1).bind fun y18 =>
                  bif y18.1 == 0 then
                    (g65 m 1).bind fun y19 =>
                    (g75 m y3.1.1.1 y3.1.1.2.1 y19.1.1 y19.1.2.1).bind fun y20 =>
                    bif v_x_0 then
                      (g67 m y20.1.1 y20.1.2.1).bind fun y21 =>
                      some ((y21.1.1, y21.1.2.1, ()), ((), (), (), ()))
                    else
                      some ((y20.1.1, y20.1.2.1, ()), ((), (), (), ()))
                  else
                    bif v_x_0 then
                      (g67 m y3.1.1.1 y3.1.1.2.1).bind fun y22 =>
                      some ((y22.1.1, y22.1.2.1, ()), ((), (), (), ()))
                    else
                      some ((y3.1.1.1, y3.1.1.2.1, ()), ((), (), (), ()))
                else
                  bif v_x_0 then
                    (g67 m y3.1.1.1 y3.1.1.2.1).bind fun y23 =>
                    some ((y23.1.1, y23.1.2.1, ()), ((), (), (), ()))
                  else
                    some ((y3.1.1.1, y3.1.1.2.1, ()), ((), (), (), ()))
              else
                bif v_x_0 then
                  (g67 m y3.1.1.1 y3.1.1.2.1).bind fun y24 =>
                  some ((y24.1.1, y24.1.2.1, ()), ((), (), (), ()))
                else
                  some ((y3.1.1.1, y3.1.1.2.1, ()), ((), (), (), ()))
/-! 100 sparse/integer.Int -/
def g100_L0 (m : Nat) : Nat → Bool → List Int → Int → List Int → Int → Int → Option (((Bool × List Int × Unit) × Int × Unit) ⊕ Empty)
  | 0, _, _, _, _, _, _ => none
  | n + 1, v_a_0, v_a_1, v_u, v_t14, v_t15, v_t16 =>
    bif decide (v_t16 < v_t15) then
      if (0 : Int) ≤ v_t16 ∧ v_t16 < (v_t14.length : Int) then
      if (0 : Int) ≤ (w_i64 (32 * v_t16)) then
      g100_L0 m n v_a_0 v_a_1 (b_or_ .u64 v_u (shl_ .u64 (w_u64 (v_t14.getD v_t16.toNat 0)) (w_i64 (32 * v_t16)))) v_t14 v_t15 (w_i64 (v_t16 + 1))
      else none
      else none
    else
      some (.inl ((v_a_0, v_a_1, ()), v_u, ()))
def g100 (m : Nat) (v_a_0 : Bool) (v_a_1 : List Int) : Option ((Int × Bool × Unit) × Unit × Unit) :=
  (g109 m v_a_1).bind fun y1 =>
  bif decide ((y1.1.length : Int) > 2) then
    some ((0, false, ()), ((), ()))
  else
    (g100_L0 m m v_a_0 v_a_1 0 y1.1 (y1.1.length : Int) 0).bind fun y2 =>
    match y2 with
    | .inl z3 =>
      bif z3.1.1 then
        bif decide (z3.2.1 > 0) then
          bif decide (z3.2.1 ≤ 9223372036854775808) then
            some ((w_i64 ((w_i64 (0 - (w_i64 (w_u64 (z3.2.1 - 1))))) - 1), true, ()), ((), ()))
          else
            bif decide (z3.2.1 < 9223372036854775808) then
              bif !z3.1.1 then
                some ((w_i64 z3.2.1, true, ()), ((), ()))
              else
                bif z3.2.1 == 0 then
                  some ((w_i64 z3.2.1, true, ()), ((), ()))
                else
                  some ((0, false, ()), ((), ()))
            else
              some ((0, false, ()), ((), ()))
        else
          bif decide (z3.2.1 < 9223372036854775808) then
            bif !z3.1.1 then
              some ((w_i64 z3.2.1, true, ()), ((), ()))
            else
              bif z3.2.1 == 0 then
                some ((w_i64 z3.2.1, true, ()), ((), ()))
              else
                some ((0, false, ()), ((), ()))
          else
            some ((0, false, ()), ((), ()))
      else
        bif decide (z3.2.1 < 9223372036854775808) then
          bif !z3.1.1 then
            some ((w_i64 z3.2.1, true, ()), ((), ()))
          else
            bif z3.2.1 == 0 then
              some ((w_i64 z3.2.1, true, ()), ((), ()))
            else
              some ((0, false, ()), ((), ()))
        else
          some ((0, false, ()), ((), ()))
    | .inr e =>
      e.elim
/-! 103 sparse/float.signed -/
def g103 (m : Nat) (v_f : Int) (v_neg : Bool) : Option (Int × Unit × Unit × Unit) :=
  bif v_neg then
    some (b_or_ .u64 v_f 9223372036854775808, ((), (), ()))
  else
    some (v_f, ((), (), ()))
/-! 104 sparse/float.overflow -/
def g104 (m : Nat) (v_neg : Bool) (v_mode : Int) : Option (Int × Unit × Unit × Unit) :=
  bif v_mode == 3 then
    (g103 m 9218868437227405311 v_neg).bind fun y1 =>
    some (y1.1, ((), (), ()))
  else
    bif v_mode == 1 then
      bif !v_neg then
        (g103 m 9218868437227405311 v_neg).bind fun y2 =>
        some (y2.1, ((), (), ()))
      else
        bif v_mode == 2 then
          bif v_neg then
            (g103 m 9218868437227405311 v_neg).bind fun y3 =>
            some (y3.1, ((), (), ()))
          else
            (g103 m 9218868437227405312 v_neg).bind fun y4 =>
            some (y4.1, ((), (), ()))
        else
          (g103 m 9218868437227405312 v_neg).bind fun y5 =>
          some (y5.1, ((), (), ()))
    else
      bif v_mode == 2 then
        bif v_neg then
          (g103 m 9218868437227405311 v_neg).bind fun y6 =>
          some (y6.1, ((), (), ()))
        else
          (g103 m 9218868437227405312 v_neg).bind fun y7 =>
          some (y7.1, ((), (), ()))
      else
        (g103 m 9218868437227405312 v_neg).bind fun y8 =>
        some (y8.1, ((), (), ()))
/-! 71 sparse/float.rounded -/
def g71 (m : Nat) (v_x_0 : Bool) (v_x_1 : Bool) (v_x_2 : List Int) (v_x_3 : Int) (v_x_4 : Bool) (v_mode : Int) : Option (Int × Unit × Unit × Unit) :=
  (g99 m v_x_0 v_x_1 v_x_2 v_x_3 v_x_4).bind fun y1 =>
  (g102 m v_x_0 v_x_1 v_x_2 v_x_3 v_x_4 (if (-1074) > (w_i64 (y1.1 - 52)) then (-1074) else (w_i64 (y1.1 - 52))) v_mode).bind fun y2 =>
  (g101 m y2.1.1 y2.1.2.1).bind fun y3 =>
  (g100 m y3.1.1 y3.1.2.1).bind fun y4 =>
  bif (w_u64 y4.1.1) == 9007199254740992 then
    bif decide ((w_i64 ((w_i64 ((if (-1074) > (w_i64 (y1.1 - 52)) then (-1074) else (w_i64 (y1.1 - 52))) + 1)) + 1075)) ≥ 2047) then
      (g104 m v_x_0 v_mode).bind fun y5 =>
      some (y5.1, ((), (), ()))
    else
      (g103 m (b_or_ .u64 (shl_ .u64 (w_u64 (w_i64 ((w_i64 ((if (-1074) > (w_i64 (y1.1 - 52)) then (-1074) else (w_i64 (y1.1 - 52))) + 1)) + 1075))) 52) 0) v_x_0).bind fun y6 =>
      some (y6.1, ((), (), ()))
  else
    bif decide ((w_u64 y4.1.1) < 4503599627370496) then
      (g103 m (w_u64 y4.1.1) v_x_0).bind fun y7 =>
      some (y7.1, ((), (), ()))
    else
      bif decide ((w_i64 ((if (-1074) > (w_i64 (y1.1 - 52)) then (-1074) else (w_i64 (y1.1 - 52))) + 1075)) ≥ 2047) then
        (g104 m v_x_0 v_mode).bind fun y8 =>
        some (y8.1, ((), (), ()))
      else
        (g103 m (b_or_ .u64 (shl_ .u64 (w_u64 (w_i64 ((if (-1074) > (w_i64 (y1.1 - 52)) then (-1074) else (w_i64 (y1.1 - 52))) + 1075))) 52) (w_u64 ((w_u64 y4.1.1) - 4503599627370496))) v_x_0).bind fun y9 =>
        some (y9.1, ((), (), ()))
/-! 35 sparse/float.Round -/
def g35 (m : Nat) (v_d_0 : Bool) (v_d_1 : Bool) (v_d_2 : List Int) (v_d_3 : Int) (v_mode : Int) : Option (Int × Unit × Unit × Unit) :=
  (g69 m v_d_0 v_d_1 v_d_2 v_d_3).bind fun y1 =>
  bif y1.1.1 then
    some (9221120237041090560, ((), (), ()))
  else
    (g70 m y1.1.1 y1.1.2.1 y1.1.2.2.1 y1.1.2.2.2.1).bind fun y2 =>
    bif y2.1 == 0 then
      some (0, ((), (), ()))
    else
      (g72 m y1.1.1 y1.1.2.1 y1.1.2.2.1 y1.1.2.2.2.1).bind fun y3 =>
      (g71 m y3.1.1 y3.1.2.1 y3.1.2.2.1 y3.1.2.2.2.1 y3.1.2.2.2.2.1 v_mode).bind fun y4 =>
      some (y4.1, ((), (), ()))
/-! 37 sparse/matrix.build -/
def g37_L1 (m : Nat) : Nat → Int → Int → List Int → List Int → List Int → Int → Int → List Int → List Int → List Int → Int → Int → Option (((Int × Int × List Int × List Int × List Int × Unit) × (Int × Int × List Int × List Int × List Int × Unit) × Unit) ⊕ Empty)
  | 0, _, _, _, _, _, _, _, _, _, _, _, _ => none
  | n + 1, v_t6_0, v_t6_1, v_t6_2, v_t6_3, v_t6_4, v_t7_0, v_t7_1, v_t7_2, v_t7_3, v_t7_4, v_t48, v_t49 =>
    bif decide (v_t49 < v_t48) then
      if (0 : Int) ≤ (w_i64 (v_t49 + 1)) ∧ (w_i64 (v_t49 + 1)) < (v_t7_2.length : Int) then
      if (0 : Int) ≤ v_t49 ∧ v_t49 < (v_t7_2.length : Int) then
      if (0 : Int) ≤ (w_i64 (v_t49 + 1)) ∧ (w_i64 (v_t49 + 1)) < (v_t7_2.length : Int) then
      g37_L1 m n v_t6_0 v_t6_1 v_t6_2 v_t6_3 v_t6_4 v_t7_0 v_t7_1 (v_t7_2.set (0 + (w_i64 (v_t49 + 1)).toNat) (w_i64 ((v_t7_2.getD (0 + (w_i64 (v_t49 + 1)).toNat) 0) + (v_t7_2.getD (0 + v_t49.toNat) 0)))) v_t7_3 v_t7_4 v_t48 (w_i64 (v_t49 + 1))
      else none
      else none
      else none
    else
      some (.inl ((v_t6_0, v_t6_1, v_t6_2, v_t6_3, v_t6_4, ()), (v_t7_0, v_t7_1, v_t7_2, v_t7_3, v_t7_4, ()), ()))
def g37_L0 (m : Nat) : Nat → Int → Int → Int → List Int → List Int → List Int → Int → Int → List Int → List Int → List Int → (List (Int × Int × Int)) → Int → Int → Option ((Int × (Int × Int × List Int × List Int × List Int × Unit) × (Int × Int × List Int × List Int × List Int × Unit) × Unit) ⊕ Empty)
  | 0, _, _, _, _, _, _, _, _, _, _, _, _, _, _ => none
  | n + 1, v_t1, v_t6_0, v_t6_1, v_t6_2, v_t6_3, v_t6_4, v_t7_0, v_t7_1, v_t7_2, v_t7_3, v_t7_4, v_t18, v_t19, v_t20 =>
    bif decide (v_t20 < v_t19) then
      if (0 : Int) ≤ v_t20 ∧ v_t20 < (v_t18.length : Int) then
      if v_t7_3.length + ([(v_t18.getD (0 + v_t20.toNat) (0, (0, 0))).1] : List Int).length ≤ 1073741824 then
      if v_t7_4.length + ([(v_t18.getD (0 + v_t20.toNat) (0, (0, 0))).2.2] : List Int).length ≤ 1073741824 then
      if (0 : Int) ≤ (w_i64 ((v_t18.getD (0 + v_t20.toNat) (0, (0, 0))).2.1 + 1)) ∧ (w_i64 ((v_t18.getD (0 + v_t20.toNat) (0, (0, 0))).2.1 + 1)) < (v_t7_2.length : Int) then
      if (0 : Int) ≤ (w_i64 ((v_t18.getD (0 + v_t20.toNat) (0, (0, 0))).2.1 + 1)) ∧ (w_i64 ((v_t18.getD (0 + v_t20.toNat) (0, (0, 0))).2.1 + 1)) < (v_t7_2.length : Int) then
      g37_L0 m n v_t1 v_t6_0 v_t6_1 v_t6_2 v_t6_3 v_t6_4 v_t7_0 v_t7_1 (v_t7_2.set (0 + (w_i64 ((v_t18.getD (0 + v_t20.toNat) (0, (0, 0))).2.1 + 1)).toNat) (w_i64 ((v_t7_2.getD (0 + (w_i64 ((v_t18.getD (0 + v_t20.toNat) (0, (0, 0))).2.1 + 1)).toNat) 0) + 1))) (v_t7_3 ++ ([(v_t18.getD (0 + v_t20.toNat) (0, (0, 0))).1] : List Int)) (v_t7_4 ++ ([(v_t18.getD (0 + v_t20.toNat) (0, (0, 0))).2.2] : List Int)) v_t18 v_t19 (w_i64 (v_t20 + 1))
      else none
      else none
      else none
      else none
      else none
    else
      some (.inl (v_t1, (v_t6_0, v_t6_1, v_t6_2, v_t6_3, v_t6_4, ()), (v_t7_0, v_t7_1, v_t7_2, v_t7_3, v_t7_4, ()), ()))
def g37 (m : Nat) (v_rows : Int) (v_t1 : Int) (v_t2 : List (Int × Int × Int)) : Option ((Int × Int × List Int × List Int × List Int × Unit) × Unit × Unit × Unit × Unit) :=
  if (0 : Int) ≤ (w_i64 (v_t1 + 1)) ∧ (w_i64 (v_t1 + 1)) ≤ (w_i64 (v_t1 + 1)) ∧ (w_i64 (v_t1 + 1)) ≤ 1073741824 then
  (g33 m v_t2).bind fun y1 =>
  (g37_L0 m m v_t1 0 0 ([] : List Int) ([] : List Int) ([] : List Int) v_rows v_t1 (List.replicate (w_i64 (v_t1 + 1)).toNat (0 : Int)) ([] : List Int) ([] : List Int) y1.1 (y1.1.length : Int) 0).bind fun y2 =>
  match y2 with
  | .inl z3 =>
    (g37_L1 m m z3.2.1.1 z3.2.1.2.1 z3.2.1.2.2.1 z3.2.1.2.2.2.1 z3.2.1.2.2.2.2.1 z3.2.2.1.1 z3.2.2.1.2.1 z3.2.2.1.2.2.1 z3.2.2.1.2.2.2.1 z3.2.2.1.2.2.2.2.1 z3.1 0).bind fun y4 =>
    match y4 with
    | .inl z5 =>
      some ((z5.2.1.1, z5.2.1.2.1, z5.2.1.2.2.1, z5.2.1.2.2.2.1, z5.2.1.2.2.2.2.1, ()), ((), (), (), ()))
    | .inr e =>
      e.elim
  | .inr e =>
    e.elim
  else none
/-! 9 sparse/matrix.FromEntries -/
def g9_L3 (m : Nat) : Nat → Int → Int → (List (Int × Int × Int)) → Int → Int → List Int → List Int → List Int → (List (Int × Int × Int)) → Int → Int → Int → (List (Bool × (Bool × List Int) × Int)) → Option ((Int × Int × (List (Int × Int × Int)) × (Int × Int × List Int × List Int × List Int × Unit) × (List (Int × Int × Int)) × (Int × Int × Int × Unit) × (List (Bool × (Bool × List Int) × Int)) × Unit) ⊕ Empty)
  | 0, _, _, _, _, _, _, _, _, _, _, _, _, _ => none
  | n + 1, v_rows, v_t1, v_t2, v_t6_0, v_t6_1, v_t6_2, v_t6_3, v_t6_4, v_t12, v_t13_0, v_t13_1, v_t13_2, v_t14 =>
    bif decide ((v_t2.length : Int) > 0) then
      if (0 : Int) ≤ 0 ∧ 0 < (v_t2.length : Int) then
      bif (v_t2.getD 0 (0, (0, 0))).1 == v_t13_0 then
        if (0 : Int) ≤ 0 ∧ 0 < (v_t2.length : Int) then
        bif (v_t2.getD 0 (0, (0, 0))).2.1 == v_t13_1 then
          if (0 : Int) ≤ 0 ∧ 0 < (v_t2.length : Int) then
          (g34 m (v_t2.getD 0 (0, (0, 0))).2.2).bind fun y1 =>
          if v_t14.length + ([(y1.1.1, ((y1.1.2.1, y1.1.2.2.1), y1.1.2.2.2.1))] : List (Bool × (Bool × List Int) × Int)).length ≤ 1073741824 then
          if (0 : Int) ≤ 1 ∧ 1 ≤ (v_t2.length : Int) ∧ (v_t2.length : Int) ≤ (v_t2.length : Int) then
          g9_L3 m n v_rows v_t1 (v_t2.drop 1) v_t6_0 v_t6_1 v_t6_2 v_t6_3 v_t6_4 v_t12 v_t13_0 v_t13_1 v_t13_2 (v_t14 ++ ([(y1.1.1, ((y1.1.2.1, y1.1.2.2.1), y1.1.2.2.2.1))] : List (Bool × (Bool × List Int) × Int)))
          else none
          else none
          else none
        else
          some (.inl (v_rows, v_t1, v_t2, (v_t6_0, v_t6_1, v_t6_2, v_t6_3, v_t6_4, ()), v_t12, (v_t13_0, v_t13_1, v_t13_2, ()), v_t14, ()))
        else none
      else
        some (.inl (v_rows, v_t1, v_t2, (v_t6_0, v_t6_1, v_t6_2, v_t6_3, v_t6_4, ()), v_t12, (v_t13_0, v_t13_1, v_t13_2, ()), v_t14, ()))
      else none
    else
      some (.inl (v_rows, v_t1, v_t2, (v_t6_0, v_t6_1, v_t6_2, v_t6_3, v_t6_4, ()), v_t12, (v_t13_0, v_t13_1, v_t13_2, ()), v_t14, ()))
def g9_L2 (m : Nat) : Nat → Int → Int → (List (Int × Int × Int)) → Int → Int → List Int → List Int → List Int → (List (Int × Int × Int)) → Option (((Int × Int × List Int × List Int × List Int × Unit) × Int × Unit) ⊕ (Int × Int × (Int × Int × List Int × List Int × List Int × Unit) × (List (Int × Int × Int)) × Unit) ⊕ Empty)
  | 0, _, _, _, _, _, _, _, _, _ => none
  | n + 1, v_rows, v_t1, v_t2, v_t6_0, v_t6_1, v_t6_2, v_t6_3, v_t6_4, v_t12 =>
    bif decide ((v_t2.length : Int) > 0) then
      if (0 : Int) ≤ 0 ∧ 0 < (v_t2.length : Int) then
      (g9_L3 m m v_rows v_t1 v_t2 v_t6_0 v_t6_1 v_t6_2 v_t6_3 v_t6_4 v_t12 (v_t2.getD 0 (0, (0, 0))).1 (v_t2.getD 0 (0, (0, 0))).2.1 (v_t2.getD 0 (0, (0, 0))).2.2 ([] : List (Bool × (Bool × List Int) × Int))).bind fun y1 =>
      match y1 with
      | .inl z2 =>
        (g36 m z2.2.2.2.2.2.2.1).bind fun y3 =>
        (g35 m y3.1.1 y3.1.2.1 y3.1.2.2.1 y3.1.2.2.2.1 0).bind fun y4 =>
        (g32 m y4.1).bind fun y5 =>
        bif !y5.1 then
          some (.inl ((0, 0, ([] : List Int), ([] : List Int), ([] : List Int), ()), 3, ()))
        else
          if z2.2.2.2.2.1.length + ([(z2.2.2.2.2.2.1.1, (z2.2.2.2.2.2.1.2.1, y4.1))] : List (Int × Int × Int)).length ≤ 1073741824 then
          g9_L2 m n z2.1 z2.2.1 z2.2.2.1 z2.2.2.2.1.1 z2.2.2.2.1.2.1 z2.2.2.2.1.2.2.1 z2.2.2.2.1.2.2.2.1 z2.2.2.2.1.2.2.2.2.1 (z2.2.2.2.2.1 ++ ([(z2.2.2.2.2.2.1.1, (z2.2.2.2.2.2.1.2.1, y4.1))] : List (Int × Int × Int)))
          else none
      | .inr e =>
        e.elim
      else none
    else
      some (.inr (.inl (v_rows, v_t1, (v_t6_0, v_t6_1, v_t6_2, v_t6_3, v_t6_4, ()), v_t12, ())))
def g9_L1 (m : Nat) : Nat → Int → Int → (List (Int × Int × Int)) → Int → Int → List Int → List Int → List Int → (List (Int × Int × Int)) → Int → Int → Option (((Int × Int × List Int × List Int × List Int × Unit) × Int × Unit) ⊕ (Int × Int × (List (Int × Int × Int)) × (Int × Int × List Int × List Int × List Int × Unit) × Unit) ⊕ Empty)
  | 0, _, _, _, _, _, _, _, _, _, _, _ => none
  | n + 1, v_rows, v_t1, v_t2, v_t6_0, v_t6_1, v_t6_2, v_t6_3, v_t6_4, v_t51, v_t52, v_t53 =>
    bif decide (v_t53 < v_t52) then
      if (0 : Int) ≤ v_t53 ∧ v_t53 < (v_t51.length : Int) then
      (g32 m (v_t51.getD v_t53.toNat (0, (0, 0))).2.2).bind fun y1 =>
      bif !y1.1 then
        some (.inl ((0, 0, ([] : List Int), ([] : List Int), ([] : List Int), ()), 4, ()))
      else
        g9_L1 m n v_rows v_t1 v_t2 v_t6_0 v_t6_1 v_t6_2 v_t6_3 v_t6_4 v_t51 v_t52 (w_i64 (v_t53 + 1))
      else none
    else
      some (.inr (.inl (v_rows, v_t1, v_t2, (v_t6_0, v_t6_1, v_t6_2, v_t6_3, v_t6_4, ()), ())))
def g9_L0 (m : Nat) : Nat → Int → Int → (List (Int × Int × Int)) → Int → Int → List Int → List Int → List Int → (List (Int × Int × Int)) → Int → Int → Option (((Int × Int × List Int × List Int × List Int × Unit) × Int × Unit) ⊕ (Int × Int × (List (Int × Int × Int)) × (Int × Int × List Int × List Int × List Int × Unit) × Unit) ⊕ Empty)
  | 0, _, _, _, _, _, _, _, _, _, _, _ => none
  | n + 1, v_rows, v_t1, v_t2, v_t6_0, v_t6_1, v_t6_2, v_t6_3, v_t6_4, v_t29, v_t30, v_t31 =>
    bif decide (v_t31 < v_t30) then
      if (0 : Int) ≤ v_t31 ∧ v_t31 < (v_t29.length : Int) then
      (g31 m (v_t29.getD v_t31.toNat (0, (0, 0))).1 0 (w_i64 (v_rows - 1))).bind fun y1 =>
      bif !y1.1 then
        some (.inl ((0, 0, ([] : List Int), ([] : List Int), ([] : List Int), ()), 3, ()))
      else
        (g31 m (v_t29.getD v_t31.toNat (0, (0, 0))).2.1 0 (w_i64 (v_t1 - 1))).bind fun y2 =>
        bif !y2.1 then
          some (.inl ((0, 0, ([] : List Int), ([] : List Int), ([] : List Int), ()), 3, ()))
        else
          g9_L0 m n v_rows v_t1 v_t2 v_t6_0 v_t6_1 v_t6_2 v_t6_3 v_t6_4 v_t29 v_t30 (w_i64 (v_t31 + 1))
      else none
    else
      some (.inr (.inl (v_rows, v_t1, v_t2, (v_t6_0, v_t6_1, v_t6_2, v_t6_3, v_t6_4, ()), ())))
def g9 (m : Nat) (v_rows : Int) (v_t1 : Int) (v_t2 : List (Int × Int × Int)) : Option (((Int × Int × List Int × List Int × List Int × Unit) × Int × Unit) × Unit × Unit × Unit × Unit) :=
  (g31 m v_rows 0 200).bind fun y1 =>
  bif !y1.1 then
    some (((0, 0, ([] : List Int), ([] : List Int), ([] : List Int), ()), 6, ()), ((), (), (), ()))
  else
    (g31 m v_t1 0 200).bind fun y2 =>
    bif !y2.1 then
      some (((0, 0, ([] : List Int), ([] : List Int), ([] : List Int), ()), 6, ()), ((), (), (), ()))
    else
      bif decide ((v_t2.length : Int) > 10000) then
        some (((0, 0, ([] : List Int), ([] : List Int), ([] : List Int), ()), 6, ()), ((), (), (), ()))
      else
        (g9_L0 m m v_rows v_t1 v_t2 0 0 ([] : List Int) ([] : List Int) ([] : List Int) v_t2 (v_t2.length : Int) 0).bind fun y3 =>
        match y3 with
        | .inl z4 =>
          some (((z4.1.1, z4.1.2.1, z4.1.2.2.1, z4.1.2.2.2.1, z4.1.2.2.2.2.1, ()), z4.2.1, ()), ((), (), (), ()))
        | .inr (.inl z5) =>
          (g9_L1 m m z5.1 z5.2.1 z5.2.2.1 z5.2.2.2.1.1 z5.2.2.2.1.2.1 z5.2.2.2.1.2.2.1 z5.2.2.2.1.2.2.2.1 z5.2.2.2.1.2.2.2.2.1 z5.2.2.1 (z5.2.2.1.length : Int) 0).bind fun y6 =>
          match y6 with
          | .inl z7 =>
            some (((z7.1.1, z7.1.2.1, z7.1.2.2.1, z7.1.2.2.2.1, z7.1.2.2.2.2.1, ()), z7.2.1, ()), ((), (), (), ()))
          | .inr (.inl z8) =>
            (g33 m z8.2.2.1).bind fun y9 =>
            (g9_L2 m m z8.1 z8.2.1 y9.1 z8.2.2.2.1.1 z8.2.2.2.1.2.1 z8.2.2.2.1.2.2.1 z8.2.2.2.1.2.2.2.1 z8.2.2.2.1.2.2.2.2.1 ([] : List (Int × Int × Int))).bind fun y10 =>
            match y10 with
            | .inl z11 =>
              some (((z11.1.1, z11.1.2.1, z11.1.2.2.1, z11.1.2.2.2.1, z11.1.2.2.2.2.1, ()), z11.2.1, ()), ((), (), (), ()))
            | .inr (.inl z12) =>
              (g37 m z12.1 z12.2.1 z12.2.2.2.1).bind fun y13 =>
              some (((y13.1.1, y13.1.2.1, y13.1.2.2.1, y13.1.2.2.2.1, y13.1.2.2.2.2.1, ()), 0, ()), ((), (), (), ()))
            | .inr (.inr e) =>
              e.elim
          | .inr (.inr e) =>
            e.elim
        | .inr (.inr e) =>
          e.elim
/-! 115 cmp.Less_int_ -/
def g115 (m : Nat) (v_x : Int) (v_y : Int) : Option (Bool × Unit × Unit × Unit) :=
  (g95 m v_x).bind fun y1 =>
  bif y1.1 then
    (g95 m v_y).bind fun y2 =>
    bif !y2.1 then
      some (true, ((), (), ()))
    else
      some (decide (v_x < v_y), ((), (), ()))
  else
    some (decide (v_x < v_y), ((), (), ()))
/-! 85 slices.IsSorted___int_int_ -/
def g85_L0 (m : Nat) : Nat → List Int → Int → Option ((Bool × Unit) ⊕ Unit ⊕ Empty)
  | 0, _, _ => none
  | n + 1, v_x, v_i =>
    bif decide (v_i > 0) then
      if (0 : Int) ≤ v_i ∧ v_i < (v_x.length : Int) then
      if (0 : Int) ≤ (w_i64 (v_i - 1)) ∧ (w_i64 (v_i - 1)) < (v_x.length : Int) then
      (g115 m (v_x.getD v_i.toNat 0) (v_x.getD (w_i64 (v_i - 1)).toNat 0)).bind fun y1 =>
      bif y1.1 then
        some (.inl (false, ()))
      else
        g85_L0 m n v_x (w_i64 (v_i - 1))
      else none
      else none
    else
      some (.inr (.inl ()))
def g85 (m : Nat) (v_x : List Int) : Option (Bool × Unit × Unit) :=
  (g85_L0 m m v_x (w_i64 ((v_x.length : Int) - 1))).bind fun y1 =>
  match y1 with
  | .inl z2 =>
    some (z2.1, ((), ()))
  | .inr (.inl z3) =>
    some (true, ((), ()))
  | .inr (.inr e) =>
    e.elim
/-! 53 sparse/matrix.columns -/
def g53_L1 (m : Nat) : Nat → Int → Int → List Int → List Int → List Int → Int → Int → Int → List Int → Int → Int → Option ((Bool × Unit) ⊕ ((Int × Int × List Int × List Int × List Int × Unit) × Int × Int × Unit) ⊕ Empty)
  | 0, _, _, _, _, _, _, _, _, _, _, _ => none
  | n + 1, v_t1_0, v_t1_1, v_t1_2, v_t1_3, v_t1_4, v_t4, v_t49, v_t50, v_t66, v_t67, v_t68 =>
    bif decide (v_t68 < v_t67) then
      if (0 : Int) ≤ v_t68 ∧ v_t68 < (v_t66.length : Int) then
      bif decide ((v_t66.getD v_t68.toNat 0) ≤ v_t4) then
        some (.inl (false, ()))
      else
        bif decide ((v_t66.getD v_t68.toNat 0) ≥ v_t1_0) then
          some (.inl (false, ()))
        else
          g53_L1 m n v_t1_0 v_t1_1 v_t1_2 v_t1_3 v_t1_4 (v_t66.getD v_t68.toNat 0) v_t49 v_t50 v_t66 v_t67 (w_i64 (v_t68 + 1))
      else none
    else
      some (.inr (.inl ((v_t1_0, v_t1_1, v_t1_2, v_t1_3, v_t1_4, ()), v_t49, v_t50, ())))
def g53_L0 (m : Nat) : Nat → Int → Int → List Int → List Int → List Int → Int → Int → Option ((Bool × Unit) ⊕ Unit ⊕ Empty)
  | 0, _, _, _, _, _, _, _ => none
  | n + 1, v_t1_0, v_t1_1, v_t1_2, v_t1_3, v_t1_4, v_t49, v_t50 =>
    bif decide (v_t50 < v_t49) then
      if (0 : Int) ≤ v_t50 ∧ v_t50 < (v_t1_2.length : Int) then
      if (0 : Int) ≤ (w_i64 (v_t50 + 1)) ∧ (w_i64 (v_t50 + 1)) < (v_t1_2.length : Int) then
      if (0 : Int) ≤ (v_t1_2.getD v_t50.toNat 0) ∧ (v_t1_2.getD v_t50.toNat 0) ≤ (v_t1_2.getD (w_i64 (v_t50 + 1)).toNat 0) ∧ (v_t1_2.getD (w_i64 (v_t50 + 1)).toNat 0) ≤ (v_t1_3.length : Int) then
      (g53_L1 m m v_t1_0 v_t1_1 v_t1_2 v_t1_3 v_t1_4 (-1) v_t49 v_t50 ((v_t1_3.drop (v_t1_2.getD v_t50.toNat 0).toNat).take ((v_t1_2.getD (w_i64 (v_t50 + 1)).toNat 0).toNat - (v_t1_2.getD v_t50.toNat 0).toNat)) (((v_t1_3.drop (v_t1_2.getD v_t50.toNat 0).toNat).take ((v_t1_2.getD (w_i64 (v_t50 + 1)).toNat 0).toNat - (v_t1_2.getD v_t50.toNat 0).toNat)).length : Int) 0).bind fun y1 =>
      match y1 with
      | .inl z2 =>
        some (.inl (z2.1, ()))
      | .inr (.inl z3) =>
        g53_L0 m n z3.1.1 z3.1.2.1 z3.1.2.2.1 z3.1.2.2.2.1 z3.1.2.2.2.2.1 z3.2.1 (w_i64 (z3.2.2.1 + 1))
      | .inr (.inr e) =>
        e.elim
      else none
      else none
      else none
    else
      some (.inr (.inl ()))
def g53 (m : Nat) (v_m_0 : Int) (v_m_1 : Int) (v_m_2 : List Int) (v_m_3 : List Int) (v_m_4 : List Int) : Option (Bool × Unit × Unit) :=
  bif (v_m_2.length : Int) != (w_i64 (v_m_1 + 1)) then
    some (false, ((), ()))
  else
    if (0 : Int) ≤ 0 ∧ 0 < (v_m_2.length : Int) then
    bif (v_m_2.getD 0 0) != 0 then
      some (false, ((), ()))
    else
      (g85 m v_m_2).bind fun y1 =>
      bif !y1.1 then
        some (false, ((), ()))
      else
        if (0 : Int) ≤ v_m_1 ∧ v_m_1 < (v_m_2.length : Int) then
        bif (v_m_2.getD v_m_1.toNat 0) != (v_m_3.length : Int) then
          some (false, ((), ()))
        else
          bif (v_m_3.length : Int) != (v_m_4.length : Int) then
            some (false, ((), ()))
          else
            (g53_L0 m m v_m_0 v_m_1 v_m_2 v_m_3 v_m_4 v_m_1 0).bind fun y2 =>
            match y2 with
            | .inl z3 =>
              some (z3.1, ((), ()))
            | .inr (.inl z4) =>
              some (true, ((), ()))
            | .inr (.inr e) =>
              e.elim
        else none
    else none
/-! 55 sparse/matrix.Check_1 -/
def g55 (m : Nat) (v_f : Int) : Option (Bool × Unit × Unit) :=
  (g32 m v_f).bind fun y1 =>
  some (!y1.1, ((), ()))
/-! 86 slices.IndexFunc___sparse/api.Float_sparse/api.Float_ -/
def g86_L0 (m : Nat) : Nat → List Int → Int → Int → Option ((Int × Unit) ⊕ Unit ⊕ Empty)
  | 0, _, _, _ => none
  | n + 1, v_s, v_t7, v_t8 =>
    bif decide (v_t8 < v_t7) then
      if (0 : Int) ≤ v_t8 ∧ v_t8 < (v_s.length : Int) then
      (g55 m (v_s.getD v_t8.toNat 0)).bind fun y1 =>
      bif y1.1 then
        some (.inl (v_t8, ()))
      else
        g86_L0 m n v_s v_t7 (w_i64 (v_t8 + 1))
      else none
    else
      some (.inr (.inl ()))
def g86 (m : Nat) (v_s : List Int) : Option (Int × Unit × Unit × Unit) :=
  (g86_L0 m m v_s (v_s.length : Int) 0).bind fun y1 =>
  match y1 with
  | .inl z2 =>
    some (z2.1, ((), (), ()))
  | .inr (.inl z3) =>
    some ((-1), ((), (), ()))
  | .inr (.inr e) =>
    e.elim
/-! 54 slices.ContainsFunc___sparse/api.Float_sparse/api.Float_ -/
def g54 (m : Nat) (v_s : List Int) : Option (Bool × Unit × Unit × Unit) :=
  (g86 m v_s).bind fun y1 =>
  some (decide (y1.1 ≥ 0), ((), (), ()))
/-! 28 sparse/matrix.Check -/
def g28 (m : Nat) (v_m_0 : Int) (v_m_1 : Int) (v_m_2 : List Int) (v_m_3 : List Int) (v_m_4 : List Int) : Option (Int × Unit × Unit) :=
  (g31 m v_m_0 0 200).bind fun y1 =>
  bif !y1.1 then
    some (6, ((), ()))
  else
    (g31 m v_m_1 0 200).bind fun y2 =>
    bif !y2.1 then
      some (6, ((), ()))
    else
      bif decide ((v_m_3.length : Int) > 10000) then
        some (6, ((), ()))
      else
        (g53 m v_m_0 v_m_1 v_m_2 v_m_3 v_m_4).bind fun y3 =>
        bif !y3.1 then
          some (1, ((), ()))
        else
          (g54 m v_m_4).bind fun y4 =>
          bif y4.1 then
            some (4, ((), ()))
          else
            some (0, ((), ()))
/-! 38 sparse/matrix.entries -/
def g38_L1 (m : Nat) : Nat → Int → Int → List Int → List Int → List Int → (List (Int × Int × Int)) → Int → Int → Int → Int → Option (((Int × Int × List Int × List Int × List Int × Unit) × (List (Int × Int × Int)) × Int × Int × Unit) ⊕ Empty)
  | 0, _, _, _, _, _, _, _, _, _, _ => none
  | n + 1, v_m_0, v_m_1, v_m_2, v_m_3, v_m_4, v_out, v_j, v_k, v_t7, v_t8 =>
    if (0 : Int) ≤ (w_i64 (v_j + 1)) ∧ (w_i64 (v_j + 1)) < (v_m_2.length : Int) then
    bif decide (v_k < (v_m_2.getD (w_i64 (v_j + 1)).toNat 0)) then
      if (0 : Int) ≤ v_k ∧ v_k < (v_m_3.length : Int) then
      if (0 : Int) ≤ v_k ∧ v_k < (v_m_4.length : Int) then
      if v_out.length + ([(v_m_3.getD v_k.toNat 0, (v_j, v_m_4.getD v_k.toNat 0))] : List (Int × Int × Int)).length ≤ 1073741824 then
      g38_L1 m n v_m_0 v_m_1 v_m_2 v_m_3 v_m_4 (v_out ++ ([(v_m_3.getD v_k.toNat 0, (v_j, v_m_4.getD v_k.toNat 0))] : List (Int × Int × Int))) v_j (w_i64 (v_k + 1)) v_t7 v_t8
      else none
      else none
      else none
    else
      some (.inl ((v_m_0, v_m_1, v_m_2, v_m_3, v_m_4, ()), v_out, v_t7, v_t8, ()))
    else none
def g38_L0 (m : Nat) : Nat → Int → Int → List Int → List Int → List Int → (List (Int × Int × Int)) → Int → Int → Option (((List (Int × Int × Int)) × Unit) ⊕ Empty)
  | 0, _, _, _, _, _, _, _, _ => none
  | n + 1, v_m_0, v_m_1, v_m_2, v_m_3, v_m_4, v_out, v_t7, v_t8 =>
    bif decide (v_t8 < v_t7) then
      if (0 : Int) ≤ v_t8 ∧ v_t8 < (v_m_2.length : Int) then
      (g38_L1 m m v_m_0 v_m_1 v_m_2 v_m_3 v_m_4 v_out v_t8 (v_m_2.getD v_t8.toNat 0) v_t7 v_t8).bind fun y1 =>
      match y1 with
      | .inl z2 =>
        g38_L0 m n z2.1.1 z2.1.2.1 z2.1.2.2.1 z2.1.2.2.2.1 z2.1.2.2.2.2.1 z2.2.1 z2.2.2.1 (w_i64 (z2.2.2.2.1 + 1))
      | .inr e =>
        e.elim
      else none
    else
      some (.inl (v_out, ()))
def g38 (m : Nat) (v_m_0 : Int) (v_m_1 : Int) (v_m_2 : List Int) (v_m_3 : List Int) (v_m_4 : List Int) : Option ((List (Int × Int × Int)) × Unit × Unit) :=
  (g38_L0 m m v_m_0 v_m_1 v_m_2 v_m_3 v_m_4 ([] : List (Int × Int × Int)) v_m_1 0).bind fun y1 =>
  match y1 with
  | .inl z2 =>
    some (z2.1, ((), ()))
  | .inr e =>
    e.elim
/-! 52 sparse/matrix.MulVec_1 -/
def g52 (m : Nat) (v_a_0 : Int) (v_a_1 : Int) (v_a_2 : Int) : Option ((Int × Int × Unit) × Unit × Unit) :=
  some ((v_a_0, v_a_1, ()), ((), ()))
/-! 118 sparse/dyad.two -/
def g118 (m : Nat) (v_a_0 : Bool) (v_a_1 : Bool) (v_a_2 : List Int) (v_a_3 : Int) (v_b_0 : Bool) (v_b_1 : Bool) (v_b_2 : List Int) (v_b_3 : Int) : Option (((Bool × Bool × List Int × Int × Unit) × (Bool × Bool × List Int × Int × Unit) × Bool × Unit) × Unit × Unit × Unit) :=
  (g73 m v_a_0 v_a_1 v_a_2 v_a_3).bind fun y1 =>
  (g73 m v_b_0 v_b_1 v_b_2 v_b_3).bind fun y2 =>
  bif y1.1.2.1 then
    some (((y1.1.1.1, y1.1.1.2.1, y1.1.1.2.2.1, y1.1.1.2.2.2.1, ()), (y2.1.1.1, y2.1.1.2.1, y2.1.1.2.2.1, y2.1.1.2.2.2.1, ()), y2.1.2.1, ()), ((), (), ()))
  else
    some (((y1.1.1.1, y1.1.1.2.1, y1.1.1.2.2.1, y1.1.1.2.2.2.1, ()), (y2.1.1.1, y2.1.1.2.1, y2.1.1.2.2.1, y2.1.1.2.2.2.1, ()), false, ()), ((), (), ()))
/-! 138 sparse/integer.times -/
def g138_L1 (m : Nat) : Nat → List Int → List Int → Int → Int → Int → List Int → Int → Int → List Int → Int → Int → Option ((List Int × List Int × Int × Int × List Int × Int × Int × Unit) ⊕ Empty)
  | 0, _, _, _, _, _, _, _, _, _, _, _ => none
  | n + 1, v_t1, v_t5, v_t6, v_t7, v_t8, v_t26, v_t27, v_t28, v_t33, v_t34, v_t35 =>
    bif decide (v_t35 < v_t34) then
      if (0 : Int) ≤ v_t35 ∧ v_t35 < (v_t33.length : Int) then
      if (0 : Int) ≤ (w_i64 (v_t6 + v_t35)) ∧ (w_i64 (v_t6 + v_t35)) < (v_t5.length : Int) then
      if (0 : Int) ≤ (w_i64 (v_t6 + v_t35)) ∧ (w_i64 (v_t6 + v_t35)) < (v_t5.length : Int) then
      g138_L1 m n v_t1 (v_t5.set (0 + (w_i64 (v_t6 + v_t35)).toNat) (w_u32 (b_and_ .u64 (w_u64 ((w_u64 ((w_u64 ((w_u64 v_t7) * (w_u64 (v_t33.getD v_t35.toNat 0)))) + (w_u64 (v_t5.getD (0 + (w_i64 (v_t6 + v_t35)).toNat) 0)))) + v_t8)) 4294967295))) v_t6 v_t7 (shr_ .u64 (w_u64 ((w_u64 ((w_u64 ((w_u64 v_t7) * (w_u64 (v_t33.getD v_t35.toNat 0)))) + (w_u64 (v_t5.getD (0 + (w_i64 (v_t6 + v_t35)).toNat) 0)))) + v_t8)) 32) v_t26 v_t27 v_t28 v_t33 v_t34 (w_i64 (v_t35 + 1))
      else none
      else none
      else none
    else
      some (.inl (v_t1, v_t5, v_t6, v_t8, v_t26, v_t27, v_t28, ()))
def g138_L0 (m : Nat) : Nat → List Int → List Int → List Int → Int → Int → Option ((List Int × Unit) ⊕ Empty)
  | 0, _, _, _, _, _ => none
  | n + 1, v_t1, v_t5, v_t26, v_t27, v_t28 =>
    bif decide (v_t28 < v_t27) then
      if (0 : Int) ≤ v_t28 ∧ v_t28 < (v_t26.length : Int) then
      (g138_L1 m m v_t1 v_t5 v_t28 (v_t26.getD v_t28.toNat 0) 0 v_t26 v_t27 v_t28 v_t1 (v_t1.length : Int) 0).bind fun y1 =>
      match y1 with
      | .inl z2 =>
        if (0 : Int) ≤ (w_i64 (z2.2.2.1 + (z2.1.length : Int))) ∧ (w_i64 (z2.2.2.1 + (z2.1.length : Int))) < (z2.2.1.length : Int) then
        g138_L0 m n z2.1 (z2.2.1.set (0 + (w_i64 (z2.2.2.1 + (z2.1.length : Int))).toNat) (w_u32 z2.2.2.2.1)) z2.2.2.2.2.1 z2.2.2.2.2.2.1 (w_i64 (z2.2.2.2.2.2.2.1 + 1))
        else none
      | .inr e =>
        e.elim
      else none
    else
      some (.inl (v_t5, ()))
def g138 (m : Nat) (v_a : List Int) (v_t1 : List Int) : Option (List Int × Unit × Unit × Unit) :=
  bif (v_a.length : Int) == 0 then
    some (([] : List Int), ((), (), ()))
  else
    bif (v_t1.length : Int) == 0 then
      some (([] : List Int), ((), (), ()))
    else
      if (0 : Int) ≤ (w_i64 ((v_a.length : Int) + (v_t1.length : Int))) ∧ (w_i64 ((v_a.length : Int) + (v_t1.length : Int))) ≤ (w_i64 ((v_a.length : Int) + (v_t1.length : Int))) ∧ (w_i64 ((v_a.length : Int) + (v_t1.length : Int))) ≤ 1073741824 then
      (g138_L0 m m v_t1 (List.replicate (w_i64 ((v_a.length : Int) + (v_t1.length : Int))).toNat (0 : Int)) v_a (v_a.length : Int) 0).bind fun y1 =>
      match y1 with
      | .inl z2 =>
        (g109 m z2.1).bind fun y3 =>
        some (y3.1, ((), (), ()))
      | .inr e =>
        e.elim
      else none
/-! 119 sparse/integer.Mul -/
def g119 (m : Nat) (v_a_0 : Bool) (v_a_1 : List Int) (v_b_0 : Bool) (v_b_1 : List Int) : Option ((Bool × List Int × Unit) × Unit × Unit × Unit) :=
  (g109 m v_a_1).bind fun y1 =>
  (g109 m v_b_1).bind fun y2 =>
  (g138 m y1.1 y2.1).bind fun y3 =>
  (g96 m (!(v_a_0 == v_b_0)) y3.1).bind fun y4 =>
  some ((y4.1.1, y4.1.2.1, ()), ((), (), ()))
/-! 84 sparse/dyad.Mul -/
def g84 (m : Nat) (v_a_0 : Bool) (v_a_1 : Bool) (v_a_2 : List Int) (v_a_3 : Int) (v_b_0 : Bool) (v_b_1 : Bool) (v_b_2 : List Int) (v_b_3 : Int) : Option ((Bool × Bool × List Int × Int × Unit) × Unit × Unit × Unit) :=
  (g118 m v_a_0 v_a_1 v_a_2 v_a_3 v_b_0 v_b_1 v_b_2 v_b_3).bind fun y1 =>
  bif !y1.1.2.2.1 then
    (g74 m).bind fun y2 =>
    some ((y2.1.1, y2.1.2.1, y2.1.2.2.1, y2.1.2.2.2.1, ()), ((), (), ()))
  else
    (g119 m y1.1.1.2.1 y1.1.1.2.2.1 y1.1.2.1.2.1 y1.1.2.1.2.2.1).bind fun y3 =>
    (g68 m y3.1.1 y3.1.2.1 (w_i64 (y1.1.1.2.2.2.1 + y1.1.2.1.2.2.2.1))).bind fun y4 =>
    some ((y4.1.1, y4.1.2.1, y4.1.2.2.1, y4.1.2.2.2.1, ()), ((), (), ()))
/-! 51 sparse/matrix.multiplied -/
def g51_L2 (m : Nat) : Nat → List Int → (List (List (Bool × (Bool × List Int) × Int))) → Int → Int → Option ((List Int × Int × Unit) ⊕ (List Int × Unit) ⊕ Empty)
  | 0, _, _, _, _ => none
  | n + 1, v_t21, v_t84, v_t85, v_t86 =>
    bif decide (v_t86 < v_t85) then
      if (0 : Int) ≤ v_t86 ∧ v_t86 < (v_t84.length : Int) then
      (g36 m (v_t84.getD v_t86.toNat ([] : List (Bool × (Bool × List Int) × Int)))).bind fun y1 =>
      (g35 m y1.1.1 y1.1.2.1 y1.1.2.2.1 y1.1.2.2.2.1 0).bind fun y2 =>
      (g32 m y2.1).bind fun y3 =>
      bif !y3.1 then
        some (.inl (([] : List Int), 3, ()))
      else
        if v_t21.length + ([y2.1] : List Int).length ≤ 1073741824 then
        g51_L2 m n (v_t21 ++ ([y2.1] : List Int)) v_t84 v_t85 (w_i64 (v_t86 + 1))
        else none
      else none
    else
      some (.inr (.inl (v_t21, ())))
def g51_L1 (m : Nat) : Nat → (List (Bool × (Bool × List Int) × Int)) → (List (List (Bool × (Bool × List Int) × Int))) → (List (Int × Int × Int)) → Int → Int → Option (((List (List (Bool × (Bool × List Int) × Int))) × Unit) ⊕ Empty)
  | 0, _, _, _, _, _ => none
  | n + 1, v_t13, v_t16, v_t54, v_t55, v_t56 =>
    bif decide (v_t56 < v_t55) then
      if (0 : Int) ≤ v_t56 ∧ v_t56 < (v_t54.length : Int) then
      (g52 m (v_t54.getD (0 + v_t56.toNat) (0, (0, 0))).1 (v_t54.getD (0 + v_t56.toNat) (0, (0, 0))).2.1 (v_t54.getD (0 + v_t56.toNat) (0, (0, 0))).2.2).bind fun y1 =>
      if (0 : Int) ≤ y1.1.1 ∧ y1.1.1 < (v_t16.length : Int) then
      (g34 m (v_t54.getD (0 + v_t56.toNat) (0, (0, 0))).2.2).bind fun y2 =>
      if (0 : Int) ≤ y1.1.2.1 ∧ y1.1.2.1 < (v_t13.length : Int) then
      (g84 m y2.1.1 y2.1.2.1 y2.1.2.2.1 y2.1.2.2.2.1 (v_t13.getD (0 + y1.1.2.1.toNat) (false, ((false, ([] : List Int)), 0))).1 (v_t13.getD (0 + y1.1.2.1.toNat) (false, ((false, ([] : List Int)), 0))).2.1.1 (v_t13.getD (0 + y1.1.2.1.toNat) (false, ((false, ([] : List Int)), 0))).2.1.2 (v_t13.getD (0 + y1.1.2.1.toNat) (false, ((false, ([] : List Int)), 0))).2.2).bind fun y3 =>
      if (v_t16.getD y1.1.1.toNat ([] : List (Bool × (Bool × List Int) × Int))).length + ([(y3.1.1, ((y3.1.2.1, y3.1.2.2.1), y3.1.2.2.2.1))] : List (Bool × (Bool × List Int) × Int)).length ≤ 1073741824 then
      if (0 : Int) ≤ y1.1.1 ∧ y1.1.1 < (v_t16.length : Int) then
      if y1.1.1.toNat = y1.1.1.toNat then
      g51_L1 m n v_t13 (v_t16.set y1.1.1.toNat ((v_t16.getD y1.1.1.toNat ([] : List (Bool × (Bool × List Int) × Int))) ++ ([(y3.1.1, ((y3.1.2.1, y3.1.2.2.1), y3.1.2.2.2.1))] : List (Bool × (Bool × List Int) × Int)))) v_t54 v_t55 (w_i64 (v_t56 + 1))
      else none
      else none
      else none
      else none
      else none
      else none
    else
      some (.inl (v_t16, ()))
def g51_L0 (m : Nat) : Nat → Int → Int → Int → List Int → List Int → List Int → (List (Bool × (Bool × List Int) × Int)) → List Int → Int → Int → Option ((List Int × Int × Unit) ⊕ (Int × Unit × (Int × Int × List Int × List Int × List Int × Unit) × (List (Bool × (Bool × List Int) × Int)) × Unit) ⊕ Empty)
  | 0, _, _, _, _, _, _, _, _, _, _ => none
  | n + 1, v_t2, v_t5_0, v_t5_1, v_t5_2, v_t5_3, v_t5_4, v_t13, v_t36, v_t37, v_t38 =>
    bif decide (v_t38 < v_t37) then
      if (0 : Int) ≤ v_t38 ∧ v_t38 < (v_t36.length : Int) then
      (g32 m (v_t36.getD v_t38.toNat 0)).bind fun y1 =>
      bif !y1.1 then
        some (.inl (([] : List Int), 4, ()))
      else
        (g34 m (v_t36.getD v_t38.toNat 0)).bind fun y2 =>
        if v_t13.length + ([(y2.1.1, ((y2.1.2.1, y2.1.2.2.1), y2.1.2.2.2.1))] : List (Bool × (Bool × List Int) × Int)).length ≤ 1073741824 then
        g51_L0 m n v_t2 v_t5_0 v_t5_1 v_t5_2 v_t5_3 v_t5_4 (v_t13 ++ ([(y2.1.1, ((y2.1.2.1, y2.1.2.2.1), y2.1.2.2.2.1))] : List (Bool × (Bool × List Int) × Int))) v_t36 v_t37 (w_i64 (v_t38 + 1))
        else none
      else none
    else
      some (.inr (.inl (v_t2, (), (v_t5_0, v_t5_1, v_t5_2, v_t5_3, v_t5_4, ()), v_t13, ())))
def g51 (m : Nat) (v_m_0 : Int) (v_m_1 : Int) (v_m_2 : List Int) (v_m_3 : List Int) (v_m_4 : List Int) (v_t1 : List Int) (v_t2 : Int) (v_t3 : Int) : Option ((List Int × Int × Unit) × Unit × Unit × Unit × Unit × Unit × Unit) :=
  (g28 m v_m_0 v_m_1 v_m_2 v_m_3 v_m_4).bind fun y1 =>
  bif y1.1 != 0 then
    some ((([] : List Int), y1.1, ()), ((), (), (), (), (), ()))
  else
    bif (v_t1.length : Int) != v_t3 then
      some ((([] : List Int), 2, ()), ((), (), (), (), (), ()))
    else
      (g51_L0 m m v_t2 v_m_0 v_m_1 v_m_2 v_m_3 v_m_4 ([] : List (Bool × (Bool × List Int) × Int)) v_t1 (v_t1.length : Int) 0).bind fun y2 =>
      match y2 with
      | .inl z3 =>
        some ((z3.1, z3.2.1, ()), ((), (), (), (), (), ()))
      | .inr (.inl z4) =>
        if (0 : Int) ≤ z4.1 ∧ z4.1 ≤ z4.1 ∧ z4.1 ≤ 1073741824 then
        (g38 m z4.2.2.1.1 z4.2.2.1.2.1 z4.2.2.1.2.2.1 z4.2.2.1.2.2.2.1 z4.2.2.1.2.2.2.2.1).bind fun y5 =>
        (g51_L1 m m z4.2.2.2.1 (List.replicate z4.1.toNat ([] : List (Bool × (Bool × List Int) × Int))) y5.1 (y5.1.length : Int) 0).bind fun y6 =>
        match y6 with
        | .inl z7 =>
          (g51_L2 m m ([] : List Int) z7.1 (z7.1.length : Int) 0).bind fun y8 =>
          match y8 with
          | .inl z9 =>
            some ((z9.1, z9.2.1, ()), ((), (), (), (), (), ()))
          | .inr (.inl z10) =>
            some ((z10.1, 0, ()), ((), (), (), (), (), ()))
          | .inr (.inr e) =>
            e.elim
        | .inr e =>
          e.elim
        else none
      | .inr (.inr e) =>
        e.elim
/-! 26 sparse/matrix.MulVec -/
def g26 (m : Nat) (v_m_0 : Int) (v_m_1 : Int) (v_m_2 : List Int) (v_m_3 : List Int) (v_m_4 : List Int) (v_x : List Int) : Option ((List Int × Int × Unit) × Unit × Unit × Unit) :=
  (g51 m v_m_0 v_m_1 v_m_2 v_m_3 v_m_4 v_x v_m_0 v_m_1).bind fun y1 =>
  some ((y1.1.1, y1.1.2.1, ()), ((), (), ()))
/-! 27 sparse/sparsekit.Ints -/
def g27_L0 (m : Nat) : Nat → List Int → List Int → Int → Option ((Bool × Unit) ⊕ Unit ⊕ Empty)
  | 0, _, _, _ => none
  | n + 1, v_a, v_b, v_i =>
    bif decide (v_i < (v_a.length : Int)) then
      if (0 : Int) ≤ v_i ∧ v_i < (v_a.length : Int) then
      if (0 : Int) ≤ v_i ∧ v_i < (v_b.length : Int) then
      bif (v_a.getD v_i.toNat 0) != (v_b.getD v_i.toNat 0) then
        some (.inl (false, ()))
      else
        g27_L0 m n v_a v_b (w_i64 (v_i + 1))
      else none
      else none
    else
      some (.inr (.inl ()))
def g27 (m : Nat) (v_a : List Int) (v_b : List Int) : Option (Bool × Unit × Unit × Unit) :=
  bif (v_a.length : Int) != (v_b.length : Int) then
    some (false, ((), (), ()))
  else
    (g27_L0 m m v_a v_b 0).bind fun y1 =>
    match y1 with
    | .inl z2 =>
      some (z2.1, ((), (), ()))
    | .inr (.inl z3) =>
      some (true, ((), (), ()))
    | .inr (.inr e) =>
      e.elim
/-! 6 sparse/sparselaw09.awake -/
def sparselaw09_awake (m : Nat) : Option (Bool × Unit) :=
  (g9 m 2 2 ([(1, (0, 4607182418800017408)), (0, (1, 4607182418800017408)), (1, (0, 4607182418800017408))] : List (Int × Int × Int))).bind fun y1 =>
  (g26 m y1.1.1.1 y1.1.1.2.1 y1.1.1.2.2.1 y1.1.1.2.2.2.1 y1.1.1.2.2.2.2.1 ([4607182418800017408, 0] : List Int)).bind fun y2 =>
  bif y1.1.2.1 == 0 then
    bif y2.1.2.1 == 0 then
      (g27 m y1.1.1.2.2.1 ([0, 1, 2] : List Int)).bind fun y3 =>
      bif y3.1 then
        (g27 m y1.1.1.2.2.2.1 ([1, 0] : List Int)).bind fun y4 =>
        bif y4.1 then
          bif (y2.1.1.length : Int) == 2 then
            if (0 : Int) ≤ 1 ∧ 1 < (y2.1.1.length : Int) then
            bif (y2.1.1.getD (0 + 1) 0) == 4611686018427387904 then
              (g28 m y1.1.1.1 y1.1.1.2.1 y1.1.1.2.2.1 y1.1.1.2.2.2.1 y1.1.1.2.2.2.2.1).bind fun y5 =>
              some (y5.1 == 0, ())
            else
              some (false, ())
            else none
          else
            some (false, ())
        else
          some (false, ())
      else
        some (false, ())
    else
      some (false, ())
  else
    some (false, ())
/-! 7 sparse/sparsekit.Place -/
def g7 (m : Nat) (v_a : Int) (v_n : Int) : Option (Int × Unit × Unit × Unit) :=
  if (w_u64 v_n) ≠ 0 then
  some (w_i64 (Int.tmod (w_u64 v_a) (w_u64 v_n)), ((), (), ()))
  else none
/-! 139 sparse/sparseref01.trim -/
def g139_L1 (m : Nat) : Nat → List Int → Int → List Int → Int → Option ((List Int × Unit) ⊕ Empty)
  | 0, _, _, _, _ => none
  | n + 1, v_m, v_n, v_out, v_i =>
    bif decide (v_i < v_n) then
      if (0 : Int) ≤ v_i ∧ v_i < (v_m.length : Int) then
      if v_out.length + ([v_m.getD v_i.toNat 0] : List Int).length ≤ 1073741824 then
      g139_L1 m n v_m v_n (v_out ++ ([v_m.getD v_i.toNat 0] : List Int)) (w_i64 (v_i + 1))
      else none
      else none
    else
      some (.inl (v_out, ()))
def g139_L0 (m : Nat) : Nat → List Int → Int → Option ((List Int × Int × Unit) ⊕ Empty)
  | 0, _, _ => none
  | n + 1, v_m, v_n =>
    bif decide (v_n > 0) then
      if (0 : Int) ≤ (w_i64 (v_n - 1)) ∧ (w_i64 (v_n - 1)) < (v_m.length : Int) then
      bif (v_m.getD (w_i64 (v_n - 1)).toNat 0) == 0 then
        g139_L0 m n v_m (w_i64 (v_n - 1))
      else
        some (.inl (v_m, v_n, ()))
      else none
    else
      some (.inl (v_m, v_n, ()))
def g139 (m : Nat) (v_m : List Int) : Option (List Int × Unit × Unit) :=
  (g139_L0 m m v_m (v_m.length : Int)).bind fun y1 =>
  match y1 with
  | .inl z2 =>
    (g139_L1 m m z2.1 z2.2.1 ([] : List Int) 0).bind fun y3 =>
    match y3 with
    | .inl z4 =>
      some (z4.1, ((), ()))
    | .inr e =>
      e.elim
  | .inr e =>
    e.elim
/-! 127 sparse/sparseref01.make1 -/
def g127 (m : Nat) (v_neg : Bool) (v_m : List Int) : Option ((Bool × List Int × Unit) × Unit × Unit × Unit) :=
  (g139 m v_m).bind fun y1 =>
  bif v_neg then
    some ((decide ((y1.1.length : Int) > 0), y1.1, ()), ((), (), ()))
  else
    some ((false, y1.1, ()), ((), (), ()))
/-! 93 sparse/sparseref01.FromInt -/
def g93 (m : Nat) (v_n : Int) : Option ((Bool × List Int × Unit) × Unit × Unit) :=
  bif decide (v_n < 0) then
    (g127 m (decide (v_n < 0)) ([w_u32 (w_u64 ((w_u64 (w_i64 (0 - (w_i64 (v_n + 1))))) + 1)), w_u32 (shr_ .u64 (w_u64 ((w_u64 (w_i64 (0 - (w_i64 (v_n + 1))))) + 1)) 32)] : List Int)).bind fun y1 =>
    some ((y1.1.1, y1.1.2.1, ()), ((), ()))
  else
    (g127 m (decide (v_n < 0)) ([w_u32 (w_u64 v_n), w_u32 (shr_ .u64 (w_u64 v_n) 32)] : List Int)).bind fun y2 =>
    some ((y2.1.1, y2.1.2.1, ()), ((), ()))
/-! 120 sparse/sparseref01.Norm -/
def g120 (m : Nat) (v_a_0 : Bool) (v_a_1 : List Int) : Option ((Bool × List Int × Unit) × Unit × Unit) :=
  (g127 m v_a_0 v_a_1).bind fun y1 =>
  some ((y1.1.1, y1.1.2.1, ()), ((), ()))
/-! 91 sparse/sparseref02.Bad -/
def g91 (m : Nat) : Option ((Bool × Bool × List Int × Int × Unit) × Unit) :=
  some ((true, false, ([] : List Int), 0, ()), ())
/-! 128 sparse/sparseref01.TrailingZeros -/
def g128_L0 (m : Nat) : Nat → List Int → Int → Option ((Int × Unit) ⊕ Unit ⊕ Empty)
  | 0, _, _ => none
  | n + 1, v_m, v_i =>
    bif decide (v_i < (v_m.length : Int)) then
      if (0 : Int) ≤ v_i ∧ v_i < (v_m.length : Int) then
      bif (v_m.getD (0 + v_i.toNat) 0) != 0 then
        if (0 : Int) ≤ v_i ∧ v_i < (v_m.length : Int) then
        (g133 m (v_m.getD (0 + v_i.toNat) 0)).bind fun y1 =>
        some (.inl (w_i64 ((w_i64 (32 * v_i)) + y1.1), ()))
        else none
      else
        g128_L0 m n v_m (w_i64 (v_i + 1))
      else none
    else
      some (.inr (.inl ()))
def g128 (m : Nat) (v_a_0 : Bool) (v_a_1 : List Int) : Option (Int × Unit × Unit) :=
  (g139 m v_a_1).bind fun y1 =>
  (g128_L0 m m y1.1 0).bind fun y2 =>
  match y2 with
  | .inl z3 =>
    some (z3.1, ((), ()))
  | .inr (.inl z4) =>
    some (0, ((), ()))
  | .inr (.inr e) =>
    e.elim
/-! 90 sparse/sparseref01.Abs -/
def g90 (m : Nat) (v_a_0 : Bool) (v_a_1 : List Int) : Option ((Bool × List Int × Unit) × Unit × Unit) :=
  (g127 m false v_a_1).bind fun y1 =>
  some ((y1.1.1, y1.1.2.1, ()), ((), ()))
/-! 144 sparse/sparseref01.shl -/
def g144_L0 (m : Nat) : Nat → List Int → Int → List Int → Int → Int → Option ((List Int × Int × Unit) ⊕ Empty)
  | 0, _, _, _, _, _ => none
  | n + 1, v_m, v_n, v_out, v_c, v_i =>
    bif decide (v_i < (v_m.length : Int)) then
      if (0 : Int) ≤ v_i ∧ v_i < (v_m.length : Int) then
      if (0 : Int) ≤ (Int.tmod v_n 32) then
      if v_out.length + ([w_u32 (b_or_ .u64 v_c (shl_ .u64 (w_u64 (v_m.getD v_i.toNat 0)) (Int.tmod v_n 32)))] : List Int).length ≤ 1073741824 then
      g144_L0 m n v_m v_n (v_out ++ ([w_u32 (b_or_ .u64 v_c (shl_ .u64 (w_u64 (v_m.getD v_i.toNat 0)) (Int.tmod v_n 32)))] : List Int)) (shr_ .u64 (b_or_ .u64 v_c (shl_ .u64 (w_u64 (v_m.getD v_i.toNat 0)) (Int.tmod v_n 32))) 32) (w_i64 (v_i + 1))
      else none
      else none
      else none
    else
      some (.inl (v_out, v_c, ()))
def g144 (m : Nat) (v_m : List Int) (v_n : Int) : Option (List Int × Unit × Unit × Unit) :=
  if (0 : Int) ≤ (w_i64 (Int.tdiv v_n 32)) ∧ (w_i64 (Int.tdiv v_n 32)) ≤ (w_i64 (Int.tdiv v_n 32)) ∧ (w_i64 (Int.tdiv v_n 32)) ≤ 1073741824 then
  (g144_L0 m m v_m v_n (List.replicate (w_i64 (Int.tdiv v_n 32)).toNat (0 : Int)) 0 0).bind fun y1 =>
  match y1 with
  | .inl z2 =>
    if z2.1.length + ([w_u32 z2.2.1] : List Int).length ≤ 1073741824 then
    some (z2.1 ++ ([w_u32 z2.2.1] : List Int), ((), (), ()))
    else none
  | .inr e =>
    e.elim
  else none
/-! 145 sparse/sparseref01.shr -/
def g145_L1 (m : Nat) : Nat → List Int → Int → Bool → List Int → Int → Int → Option ((Bool × List Int × Unit) ⊕ Empty)
  | 0, _, _, _, _, _, _ => none
  | n + 1, v_m, v_t1, v_t6, v_t8, v_t9, v_t10 =>
    bif decide (v_t10 < (v_m.length : Int)) then
      if (0 : Int) ≤ v_t10 ∧ v_t10 < (v_m.length : Int) then
      bif decide ((w_i64 (v_t10 + 1)) < (v_m.length : Int)) then
        if (0 : Int) ≤ (w_i64 (v_t10 + 1)) ∧ (w_i64 (v_t10 + 1)) < (v_m.length : Int) then
        bif v_t10 == (w_i64 (Int.tdiv v_t1 32)) then
          if (0 : Int) ≤ v_t10 ∧ v_t10 < (v_m.length : Int) then
          if (0 : Int) ≤ v_t9 then
          bif (b_and_ .u32 (v_m.getD v_t10.toNat 0) (w_u32 ((shl_ .u32 1 v_t9) - 1))) != 0 then
            if (0 : Int) ≤ v_t9 then
            if v_t8.length + ([w_u32 (shr_ .u64 (b_or_ .u64 (w_u64 (v_m.getD v_t10.toNat 0)) (shl_ .u64 (w_u64 (v_m.getD (w_i64 (v_t10 + 1)).toNat 0)) 32)) v_t9)] : List Int).length ≤ 1073741824 then
            g145_L1 m n v_m v_t1 true (v_t8 ++ ([w_u32 (shr_ .u64 (b_or_ .u64 (w_u64 (v_m.getD v_t10.toNat 0)) (shl_ .u64 (w_u64 (v_m.getD (w_i64 (v_t10 + 1)).toNat 0)) 32)) v_t9)] : List Int)) v_t9 (w_i64 (v_t10 + 1))
            else none
            else none
          else
            if (0 : Int) ≤ v_t9 then
            if v_t8.length + ([w_u32 (shr_ .u64 (b_or_ .u64 (w_u64 (v_m.getD v_t10.toNat 0)) (shl_ .u64 (w_u64 (v_m.getD (w_i64 (v_t10 + 1)).toNat 0)) 32)) v_t9)] : List Int).length ≤ 1073741824 then
            g145_L1 m n v_m v_t1 v_t6 (v_t8 ++ ([w_u32 (shr_ .u64 (b_or_ .u64 (w_u64 (v_m.getD v_t10.toNat 0)) (shl_ .u64 (w_u64 (v_m.getD (w_i64 (v_t10 + 1)).toNat 0)) 32)) v_t9)] : List Int)) v_t9 (w_i64 (v_t10 + 1))
            else none
            else none
          else none
          else none
        else
          if (0 : Int) ≤ v_t9 then
          if v_t8.length + ([w_u32 (shr_ .u64 (b_or_ .u64 (w_u64 (v_m.getD v_t10.toNat 0)) (shl_ .u64 (w_u64 (v_m.getD (w_i64 (v_t10 + 1)).toNat 0)) 32)) v_t9)] : List Int).length ≤ 1073741824 then
          g145_L1 m n v_m v_t1 v_t6 (v_t8 ++ ([w_u32 (shr_ .u64 (b_or_ .u64 (w_u64 (v_m.getD v_t10.toNat 0)) (shl_ .u64 (w_u64 (v_m.getD (w_i64 (v_t10 + 1)).toNat 0)) 32)) v_t9)] : List Int)) v_t9 (w_i64 (v_t10 + 1))
          else none
          else none
        else none
      else
        bif v_t10 == (w_i64 (Int.tdiv v_t1 32)) then
          if (0 : Int) ≤ v_t10 ∧ v_t10 < (v_m.length : Int) then
          if (0 : Int) ≤ v_t9 then
          bif (b_and_ .u32 (v_m.getD v_t10.toNat 0) (w_u32 ((shl_ .u32 1 v_t9) - 1))) != 0 then
            if (0 : Int) ≤ v_t9 then
            if v_t8.length + ([w_u32 (shr_ .u64 (w_u64 (v_m.getD v_t10.toNat 0)) v_t9)] : List Int).length ≤ 1073741824 then
            g145_L1 m n v_m v_t1 true (v_t8 ++ ([w_u32 (shr_ .u64 (w_u64 (v_m.getD v_t10.toNat 0)) v_t9)] : List Int)) v_t9 (w_i64 (v_t10 + 1))
            else none
            else none
          else
            if (0 : Int) ≤ v_t9 then
            if v_t8.length + ([w_u32 (shr_ .u64 (w_u64 (v_m.getD v_t10.toNat 0)) v_t9)] : List Int).length ≤ 1073741824 then
            g145_L1 m n v_m v_t1 v_t6 (v_t8 ++ ([w_u32 (shr_ .u64 (w_u64 (v_m.getD v_t10.toNat 0)) v_t9)] : List Int)) v_t9 (w_i64 (v_t10 + 1))
            else none
            else none
          else none
          else none
        else
          if (0 : Int) ≤ v_t9 then
          if v_t8.length + ([w_u32 (shr_ .u64 (w_u64 (v_m.getD v_t10.toNat 0)) v_t9)] : List Int).length ≤ 1073741824 then
          g145_L1 m n v_m v_t1 v_t6 (v_t8 ++ ([w_u32 (shr_ .u64 (w_u64 (v_m.getD v_t10.toNat 0)) v_t9)] : List Int)) v_t9 (w_i64 (v_t10 + 1))
          else none
          else none
      else none
    else
      some (.inl (v_t6, v_t8, ()))
def g145_L0 (m : Nat) : Nat → List Int → Int → Bool → Int → Option ((List Int × Int × Bool × Unit) ⊕ Empty)
  | 0, _, _, _, _ => none
  | n + 1, v_m, v_t1, v_t6, v_t7 =>
    bif decide (v_t7 < (w_i64 (Int.tdiv v_t1 32))) then
      bif decide (v_t7 < (v_m.length : Int)) then
        bif v_t6 then
          g145_L0 m n v_m v_t1 true (w_i64 (v_t7 + 1))
        else
          if (0 : Int) ≤ v_t7 ∧ v_t7 < (v_m.length : Int) then
          g145_L0 m n v_m v_t1 ((v_m.getD v_t7.toNat 0) != 0) (w_i64 (v_t7 + 1))
          else none
      else
        some (.inl (v_m, v_t1, v_t6, ()))
    else
      some (.inl (v_m, v_t1, v_t6, ()))
def g145 (m : Nat) (v_m : List Int) (v_t1 : Int) : Option ((List Int × Bool × Unit) × Unit × Unit × Unit) :=
  (g145_L0 m m v_m v_t1 false 0).bind fun y1 =>
  match y1 with
  | .inl z2 =>
    (g145_L1 m m z2.1 z2.2.1 z2.2.2.1 ([] : List Int) (Int.tmod z2.2.1 32) (w_i64 (Int.tdiv z2.2.1 32))).bind fun y3 =>
    match y3 with
    | .inl z4 =>
      some ((z4.2.1, z4.1, ()), ((), (), ()))
    | .inr e =>
      e.elim
  | .inr e =>
    e.elim
/-! 156 sparse/sparseref01.Neg -/
def g156 (m : Nat) (v_a_0 : Bool) (v_a_1 : List Int) : Option ((Bool × List Int × Unit) × Unit × Unit) :=
  (g127 m (!v_a_0) v_a_1).bind fun y1 =>
  some ((y1.1.1, y1.1.2.1, ()), ((), ()))
/-! 153 sparse/sparseref01.addMag -/
def g153_L0 (m : Nat) : Nat → List Int → List Int → List Int → Int → Int → Option ((List Int × Int × Unit) ⊕ Empty)
  | 0, _, _, _, _, _ => none
  | n + 1, v_a, v_b, v_out, v_c, v_i =>
    bif decide (v_i < (if (v_b.length : Int) > (v_a.length : Int) then (v_b.length : Int) else (v_a.length : Int))) then
      bif decide (v_i < (v_a.length : Int)) then
        if (0 : Int) ≤ v_i ∧ v_i < (v_a.length : Int) then
        bif decide (v_i < (v_b.length : Int)) then
          if (0 : Int) ≤ v_i ∧ v_i < (v_b.length : Int) then
          if v_out.length + ([w_u32 (w_u64 ((w_u64 (v_c + (w_u64 (v_a.getD v_i.toNat 0)))) + (w_u64 (v_b.getD v_i.toNat 0))))] : List Int).length ≤ 1073741824 then
          g153_L0 m n v_a v_b (v_out ++ ([w_u32 (w_u64 ((w_u64 (v_c + (w_u64 (v_a.getD v_i.toNat 0)))) + (w_u64 (v_b.getD v_i.toNat 0))))] : List Int)) (shr_ .u64 (w_u64 ((w_u64 (v_c + (w_u64 (v_a.getD v_i.toNat 0)))) + (w_u64 (v_b.getD v_i.toNat 0)))) 32) (w_i64 (v_i + 1))
          else none
          else none
        else
          if v_out.length + ([w_u32 (w_u64 (v_c + (w_u64 (v_a.getD v_i.toNat 0))))] : List Int).length ≤ 1073741824 then
          g153_L0 m n v_a v_b (v_out ++ ([w_u32 (w_u64 (v_c + (w_u64 (v_a.getD v_i.toNat 0))))] : List Int)) (shr_ .u64 (w_u64 (v_c + (w_u64 (v_a.getD v_i.toNat 0)))) 32) (w_i64 (v_i + 1))
          else none
        else none
      else
        bif decide (v_i < (v_b.length : Int)) then
          if (0 : Int) ≤ v_i ∧ v_i < (v_b.length : Int) then
          if v_out.length + ([w_u32 (w_u64 (v_c + (w_u64 (v_b.getD v_i.toNat 0))))] : List Int).length ≤ 1073741824 then
          g153_L0 m n v_a v_b (v_out ++ ([w_u32 (w_u64 (v_c + (w_u64 (v_b.getD v_i.toNat 0))))] : List Int)) (shr_ .u64 (w_u64 (v_c + (w_u64 (v_b.getD v_i.toNat 0)))) 32) (w_i64 (v_i + 1))
          else none
          else none
        else
          if v_out.length + ([w_u32 v_c] : List Int).length ≤ 1073741824 then
          g153_L0 m n v_a v_b (v_out ++ ([w_u32 v_c] : List Int)) (shr_ .u64 v_c 32) (w_i64 (v_i + 1))
          else none
    else
      some (.inl (v_out, v_c, ()))
def g153 (m : Nat) (v_a : List Int) (v_b : List Int) : Option (List Int × Unit × Unit × Unit) :=
  (g153_L0 m m v_a v_b ([] : List Int) 0 0).bind fun y1 =>
  match y1 with
  | .inl z2 =>
    if z2.1.length + ([w_u32 z2.2.1] : List Int).length ≤ 1073741824 then
    some (z2.1 ++ ([w_u32 z2.2.1] : List Int), ((), (), ()))
    else none
  | .inr e =>
    e.elim
/-! 154 sparse/sparseref01.cmpMag -/
def g154_L0 (m : Nat) : Nat → List Int → List Int → Int → Option ((Int × Unit) ⊕ Unit ⊕ Empty)
  | 0, _, _, _ => none
  | n + 1, v_a, v_b, v_i =>
    bif decide (v_i ≥ 0) then
      if (0 : Int) ≤ v_i ∧ v_i < (v_a.length : Int) then
      if (0 : Int) ≤ v_i ∧ v_i < (v_b.length : Int) then
      bif (v_a.getD v_i.toNat 0) != (v_b.getD v_i.toNat 0) then
        if (0 : Int) ≤ v_i ∧ v_i < (v_a.length : Int) then
        if (0 : Int) ≤ v_i ∧ v_i < (v_b.length : Int) then
        bif decide ((v_a.getD v_i.toNat 0) < (v_b.getD v_i.toNat 0)) then
          some (.inl ((-1), ()))
        else
          some (.inl (1, ()))
        else none
        else none
      else
        g154_L0 m n v_a v_b (w_i64 (v_i - 1))
      else none
      else none
    else
      some (.inr (.inl ()))
def g154 (m : Nat) (v_a : List Int) (v_b : List Int) : Option (Int × Unit × Unit × Unit) :=
  bif (v_a.length : Int) != (v_b.length : Int) then
    bif decide ((v_a.length : Int) < (v_b.length : Int)) then
      some ((-1), ((), (), ()))
    else
      some (1, ((), (), ()))
  else
    (g154_L0 m m v_a v_b (w_i64 ((v_a.length : Int) - 1))).bind fun y1 =>
    match y1 with
    | .inl z2 =>
      some (z2.1, ((), (), ()))
    | .inr (.inl z3) =>
      some (0, ((), (), ()))
    | .inr (.inr e) =>
      e.elim
/-! 155 sparse/sparseref01.subMag -/
def g155_L0 (m : Nat) : Nat → List Int → List Int → List Int → Int → Int → Option ((List Int × Unit) ⊕ Empty)
  | 0, _, _, _, _, _ => none
  | n + 1, v_a, v_b, v_out, v_borrow, v_i =>
    bif decide (v_i < (v_a.length : Int)) then
      if (0 : Int) ≤ v_i ∧ v_i < (v_a.length : Int) then
      bif decide (v_i < (v_b.length : Int)) then
        if (0 : Int) ≤ v_i ∧ v_i < (v_b.length : Int) then
        if v_out.length + ([w_u32 (w_u64 ((w_u64 ((w_u64 (v_a.getD v_i.toNat 0)) - v_borrow)) - (w_u64 (v_b.getD v_i.toNat 0))))] : List Int).length ≤ 1073741824 then
        g155_L0 m n v_a v_b (v_out ++ ([w_u32 (w_u64 ((w_u64 ((w_u64 (v_a.getD v_i.toNat 0)) - v_borrow)) - (w_u64 (v_b.getD v_i.toNat 0))))] : List Int)) (shr_ .u64 (w_u64 ((w_u64 ((w_u64 (v_a.getD v_i.toNat 0)) - v_borrow)) - (w_u64 (v_b.getD v_i.toNat 0)))) 63) (w_i64 (v_i + 1))
        else none
        else none
      else
        if v_out.length + ([w_u32 (w_u64 ((w_u64 (v_a.getD v_i.toNat 0)) - v_borrow))] : List Int).length ≤ 1073741824 then
        g155_L0 m n v_a v_b (v_out ++ ([w_u32 (w_u64 ((w_u64 (v_a.getD v_i.toNat 0)) - v_borrow))] : List Int)) (shr_ .u64 (w_u64 ((w_u64 (v_a.getD v_i.toNat 0)) - v_borrow)) 63) (w_i64 (v_i + 1))
        else none
      else none
    else
      some (.inl (v_out, ()))
def g155 (m : Nat) (v_a : List Int) (v_b : List Int) : Option (List Int × Unit × Unit × Unit) :=
  (g155_L0 m m v_a v_b ([] : List Int) 0 0).bind fun y1 =>
  match y1 with
  | .inl z2 =>
    some (z2.1, ((), (), ()))
  | .inr e =>
    e.elim
/-! 143 sparse/sparseref01.Add -/
def g143 (m : Nat) (v_a_0 : Bool) (v_a_1 : List Int) (v_b_0 : Bool) (v_b_1 : List Int) : Option ((Bool × List Int × Unit) × Unit × Unit × Unit) :=
  (g139 m v_a_1).bind fun y1 =>
  (g139 m v_b_1).bind fun y2 =>
  bif v_a_0 == v_b_0 then
    (g153 m y1.1 y2.1).bind fun y3 =>
    (g127 m v_a_0 y3.1).bind fun y4 =>
    some ((y4.1.1, y4.1.2.1, ()), ((), (), ()))
  else
    (g154 m y1.1 y2.1).bind fun y5 =>
    bif decide (y5.1 ≥ 0) then
      (g155 m y1.1 y2.1).bind fun y6 =>
      (g127 m v_a_0 y6.1).bind fun y7 =>
      some ((y7.1.1, y7.1.2.1, ()), ((), (), ()))
    else
      (g155 m y2.1 y1.1).bind fun y8 =>
      (g127 m v_b_0 y8.1).bind fun y9 =>
      some ((y9.1.1, y9.1.2.1, ()), ((), (), ()))
/-! 146 sparse/sparseref01.Sub -/
def g146 (m : Nat) (v_a_0 : Bool) (v_a_1 : List Int) (v_b_0 : Bool) (v_b_1 : List Int) : Option ((Bool × List Int × Unit) × Unit × Unit × Unit) :=
  (g156 m v_b_0 v_b_1).bind fun y1 =>
  (g143 m v_a_0 v_a_1 y1.1.1 y1.1.2.1).bind fun y2 =>
  some ((y2.1.1, y2.1.2.1, ()), ((), (), ()))
/-! 124 sparse/sparseref01.Shift -/
def g124 (m : Nat) (v_a_0 : Bool) (v_a_1 : List Int) (v_n : Int) : Option ((Bool × List Int × Unit) × Unit × Unit × Unit) :=
  (g120 m v_a_0 v_a_1).bind fun y1 =>
  bif decide (v_n ≥ 0) then
    (g144 m y1.1.2.1 v_n).bind fun y2 =>
    (g127 m y1.1.1 y2.1).bind fun y3 =>
    some ((y3.1.1, y3.1.2.1, ()), ((), (), ()))
  else
    (g145 m y1.1.2.1 (w_i64 (0 - v_n))).bind fun y4 =>
    (g127 m y1.1.1 y4.1.1).bind fun y5 =>
    bif y1.1.1 then
      bif y4.1.2.1 then
        (g93 m 1).bind fun y6 =>
        (g146 m y5.1.1 y5.1.2.1 y6.1.1 y6.1.2.1).bind fun y7 =>
        some ((y7.1.1, y7.1.2.1, ()), ((), (), ()))
      else
        some ((y5.1.1, y5.1.2.1, ()), ((), (), ()))
    else
      some ((y5.1.1, y5.1.2.1, ()), ((), (), ()))
/-! 129 sparse/sparseref02.down -/
def g129_L0 (m : Nat) : Nat → Int → Bool → List Int → Bool → List Int → Option ((Int × (Bool × List Int × Unit) × (Bool × List Int × Unit) × Unit) ⊕ Empty)
  | 0, _, _, _, _, _ => none
  | n + 1, v_n, v_m_0, v_m_1, v_t4_0, v_t4_1 =>
    bif decide (v_n > 1048576) then
      (g124 m v_m_0 v_m_1 (-1048576)).bind fun y1 =>
      g129_L0 m n (w_i64 (v_n - 1048576)) y1.1.1 y1.1.2.1 v_t4_0 v_t4_1
    else
      some (.inl (v_n, (v_m_0, v_m_1, ()), (v_t4_0, v_t4_1, ()), ()))
def g129 (m : Nat) (v_m_0 : Bool) (v_m_1 : List Int) (v_n : Int) : Option ((Bool × List Int × Unit) × Unit × Unit × Unit) :=
  (g129_L0 m m v_n v_m_0 v_m_1 false ([] : List Int)).bind fun y1 =>
  match y1 with
  | .inl z2 =>
    (g124 m z2.2.1.1 z2.2.1.2.1 (w_i64 (0 - z2.1))).bind fun y3 =>
    some ((y3.1.1, y3.1.2.1, ()), ((), (), ()))
  | .inr e =>
    e.elim
/-! 121 sparse/sparseref01.BitLen -/
def g121 (m : Nat) (v_a_0 : Bool) (v_a_1 : List Int) : Option (Int × Unit × Unit) :=
  (g139 m v_a_1).bind fun y1 =>
  bif (y1.1.length : Int) == 0 then
    some (0, ((), ()))
  else
    if (0 : Int) ≤ (w_i64 ((y1.1.length : Int) - 1)) ∧ (w_i64 ((y1.1.length : Int) - 1)) < (y1.1.length : Int) then
    (g140 m (y1.1.getD (0 + (w_i64 ((y1.1.length : Int) - 1)).toNat) 0)).bind fun y2 =>
    some (w_i64 ((w_i64 (32 * (w_i64 ((y1.1.length : Int) - 1)))) + y2.1), ((), ()))
    else none
/-! 92 sparse/sparseref02.Make -/
def g92 (m : Nat) (v_man_0 : Bool) (v_man_1 : List Int) (v_exp : Int) : Option ((Bool × Bool × List Int × Int × Unit) × Unit × Unit × Unit) :=
  (g120 m v_man_0 v_man_1).bind fun y1 =>
  bif (y1.1.2.1.length : Int) == 0 then
    some ((false, false, ([] : List Int), 0, ()), ((), (), ()))
  else
    bif decide (v_exp > 65536) then
      (g91 m).bind fun y2 =>
      some ((y2.1.1, y2.1.2.1, y2.1.2.2.1, y2.1.2.2.2.1, ()), ((), (), ()))
    else
      (g128 m y1.1.1 y1.1.2.1).bind fun y3 =>
      (g90 m y1.1.1 y1.1.2.1).bind fun y4 =>
      (g129 m y4.1.1 y4.1.2.1 y3.1).bind fun y5 =>
      bif decide ((w_i64 (v_exp + y3.1)) < (-65536)) then
        (g91 m).bind fun y6 =>
        some ((y6.1.1, y6.1.2.1, y6.1.2.2.1, y6.1.2.2.2.1, ()), ((), (), ()))
      else
        (g121 m y5.1.1 y5.1.2.1).bind fun y7 =>
        bif decide ((w_i64 ((w_i64 (v_exp + y3.1)) + y7.1)) > 65536) then
          (g91 m).bind fun y8 =>
          some ((y8.1.1, y8.1.2.1, y8.1.2.2.1, y8.1.2.2.2.1, ()), ((), (), ()))
        else
          some ((false, v_man_0, y5.1.2.1, w_i64 (v_exp + y3.1), ()), ((), (), ()))
/-! 58 sparse/sparseref02.FromInt -/
def g58 (m : Nat) (v_n : Int) : Option ((Bool × Bool × List Int × Int × Unit) × Unit × Unit) :=
  (g93 m v_n).bind fun y1 =>
  (g92 m y1.1.1 y1.1.2.1 0).bind fun y2 =>
  some ((y2.1.1, y2.1.2.1, y2.1.2.2.1, y2.1.2.2.2.1, ()), ((), ()))
/-! 87 sparse/sparseref02.Norm -/
def g87 (m : Nat) (v_d_0 : Bool) (v_d_1 : Bool) (v_d_2 : List Int) (v_d_3 : Int) : Option ((Bool × Bool × List Int × Int × Unit) × Unit × Unit) :=
  bif v_d_0 then
    (g91 m).bind fun y1 =>
    some ((y1.1.1, y1.1.2.1, y1.1.2.2.1, y1.1.2.2.2.1, ()), ((), ()))
  else
    (g92 m v_d_1 v_d_2 v_d_3).bind fun y2 =>
    some ((y2.1.1, y2.1.2.1, y2.1.2.2.1, y2.1.2.2.2.1, ()), ((), ()))
/-! 88 sparse/sparseref01.Sign -/
def g88 (m : Nat) (v_a_0 : Bool) (v_a_1 : List Int) : Option (Int × Unit × Unit) :=
  (g120 m v_a_0 v_a_1).bind fun y1 =>
  bif (y1.1.2.1.length : Int) == 0 then
    some (0, ((), ()))
  else
    bif y1.1.1 then
      some ((-1), ((), ()))
    else
      some (1, ((), ()))
/-! 57 sparse/sparseref02.Scale -/
def g57 (m : Nat) (v_d_0 : Bool) (v_d_1 : Bool) (v_d_2 : List Int) (v_d_3 : Int) (v_n : Int) : Option ((Bool × Bool × List Int × Int × Unit) × Unit × Unit × Unit) :=
  (g87 m v_d_0 v_d_1 v_d_2 v_d_3).bind fun y1 =>
  bif y1.1.1 then
    some ((y1.1.1, y1.1.2.1, y1.1.2.2.1, y1.1.2.2.2.1, ()), ((), (), ()))
  else
    (g88 m y1.1.2.1 y1.1.2.2.1).bind fun y2 =>
    bif y2.1 == 0 then
      some ((y1.1.1, y1.1.2.1, y1.1.2.2.1, y1.1.2.2.2.1, ()), ((), (), ()))
    else
      bif decide (v_n > 262144) then
        (g91 m).bind fun y3 =>
        some ((y3.1.1, y3.1.2.1, y3.1.2.2.1, y3.1.2.2.2.1, ()), ((), (), ()))
      else
        bif decide (v_n < (-262144)) then
          (g91 m).bind fun y4 =>
          some ((y4.1.1, y4.1.2.1, y4.1.2.2.1, y4.1.2.2.2.1, ()), ((), (), ()))
        else
          (g92 m y1.1.2.1 y1.1.2.2.1 (w_i64 (y1.1.2.2.2.1 + v_n))).bind fun y5 =>
          some ((y5.1.1, y5.1.2.1, y5.1.2.2.1, y5.1.2.2.2.1, ()), ((), (), ()))
/-! 126 sparse/sparseref03.signed -/
def g126 (m : Nat) (v_neg : Bool) (v_f : Int) : Option (Int × Unit × Unit × Unit) :=
  bif v_neg then
    some (b_or_ .u64 v_f 9223372036854775808, ((), (), ()))
  else
    some (v_f, ((), (), ()))
/-! 122 sparse/sparseref03.over -/
def g122 (m : Nat) (v_neg : Bool) (v_mode : Int) : Option (Int × Unit × Unit × Unit) :=
  bif v_mode == 3 then
    (g126 m v_neg 9218868437227405311).bind fun y1 =>
    some (y1.1, ((), (), ()))
  else
    bif v_mode == 1 then
      bif !v_neg then
        (g126 m v_neg 9218868437227405311).bind fun y2 =>
        some (y2.1, ((), (), ()))
      else
        bif v_mode == 2 then
          bif v_neg then
            (g126 m v_neg 9218868437227405311).bind fun y3 =>
            some (y3.1, ((), (), ()))
          else
            (g126 m v_neg 9218868437227405312).bind fun y4 =>
            some (y4.1, ((), (), ()))
        else
          (g126 m v_neg 9218868437227405312).bind fun y5 =>
          some (y5.1, ((), (), ()))
    else
      bif v_mode == 2 then
        bif v_neg then
          (g126 m v_neg 9218868437227405311).bind fun y6 =>
          some (y6.1, ((), (), ()))
        else
          (g126 m v_neg 9218868437227405312).bind fun y7 =>
          some (y7.1, ((), (), ()))
      else
        (g126 m v_neg 9218868437227405312).bind fun y8 =>
        some (y8.1, ((), (), ()))
/-! 141 sparse/sparseref01.Lost -/
def g141 (m : Nat) (v_a_0 : Bool) (v_a_1 : List Int) (v_n : Int) : Option (Bool × Unit × Unit × Unit) :=
  (g139 m v_a_1).bind fun y1 =>
  (g145 m y1.1 v_n).bind fun y2 =>
  some (y2.1.2.1, ((), (), ()))
/-! 142 sparse/sparseref02.Up -/
def g142 (m : Nat) (v_neg : Bool) (v_half : Int) (v_odd : Bool) (v_mode : Int) : Option (Bool × Unit × Unit × Unit × Unit × Unit) :=
  bif v_mode == 1 then
    some (v_neg, ((), (), (), (), ()))
  else
    bif v_mode == 2 then
      some (!v_neg, ((), (), (), (), ()))
    else
      bif v_mode == 3 then
        some (false, ((), (), (), (), ()))
      else
        bif decide (v_half > 0) then
          some (true, ((), (), (), (), ()))
        else
          bif v_half == 0 then
            some (v_odd, ((), (), (), (), ()))
          else
            some (false, ((), (), (), (), ()))
/-! 123 sparse/sparseref02.Cut -/
def g123 (m : Nat) (v_neg : Bool) (v_t1_0 : Bool) (v_t1_1 : List Int) (v_t2 : Int) (v_t3 : Bool) (v_t4 : Int) : Option ((Bool × List Int × Unit) × Unit × Unit × Unit × Unit × Unit × Unit) :=
  (g129 m v_t1_0 v_t1_1 v_t2).bind fun y1 =>
  (g141 m v_t1_0 v_t1_1 v_t2).bind fun y2 =>
  bif !y2.1 then
    bif !v_t3 then
      some ((y1.1.1, y1.1.2.1, ()), ((), (), (), (), (), ()))
    else
      bif decide (v_t2 > 0) then
        (g129 m v_t1_0 v_t1_1 (w_i64 (v_t2 - 1))).bind fun y3 =>
        (g128 m y3.1.1 y3.1.2.1).bind fun y4 =>
        bif y4.1 == 0 then
          (g88 m y3.1.1 y3.1.2.1).bind fun y5 =>
          bif y5.1 != 0 then
            bif v_t3 then
              (g88 m y1.1.1 y1.1.2.1).bind fun y6 =>
              bif y6.1 != 0 then
                (g128 m y1.1.1 y1.1.2.1).bind fun y7 =>
                (g142 m v_neg 1 (y7.1 == 0) v_t4).bind fun y8 =>
                bif y8.1 then
                  (g93 m 1).bind fun y9 =>
                  (g143 m y1.1.1 y1.1.2.1 y9.1.1 y9.1.2.1).bind fun y10 =>
                  some ((y10.1.1, y10.1.2.1, ()), ((), (), (), (), (), ()))
                else
                  some ((y1.1.1, y1.1.2.1, ()), ((), (), (), (), (), ()))
              else
                (g142 m v_neg 1 false v_t4).bind fun y11 =>
                bif y11.1 then
                  (g93 m 1).bind fun y12 =>
                  (g143 m y1.1.1 y1.1.2.1 y12.1.1 y12.1.2.1).bind fun y13 =>
                  some ((y13.1.1, y13.1.2.1, ()), ((), (), (), (), (), ()))
                else
                  some ((y1.1.1, y1.1.2.1, ()), ((), (), (), (), (), ()))
            else
              (g141 m v_t1_0 v_t1_1 (w_i64 (v_t2 - 1))).bind fun y14 =>
              bif y14.1 then
                (g88 m y1.1.1 y1.1.2.1).bind fun y15 =>
                bif y15.1 != 0 then
                  (g128 m y1.1.1 y1.1.2.1).bind fun y16 =>
                  (g142 m v_neg 1 (y16.1 == 0) v_t4).bind fun y17 =>
                  bif y17.1 then
                    (g93 m 1).bind fun y18 =>
                    (g143 m y1.1.1 y1.1.2.1 y18.1.1 y18.1.2.1).bind fun y19 =>
                    some ((y19.1.1, y19.1.2.1, ()), ((), (), (), (), (), ()))
                  else
                    some ((y1.1.1, y1.1.2.1, ()), ((), (), (), (), (), ()))
                else
                  (g142 m v_neg 1 false v_t4).bind fun y20 =>
                  bif y20.1 then
                    (g93 m 1).bind fun y21 =>
                    (g143 m y1.1.1 y1.1.2.1 y21.1.1 y21.1.2.1).bind fun y22 =>
                    some ((y22.1.1, y22.1.2.1, ()), ((), (), (), (), (), ()))
                  else
                    some ((y1.1.1, y1.1.2.1, ()), ((), (), (), (), (), ()))
              else
                (g88 m y1.1.1 y1.1.2.1).bind fun y23 =>
                bif y23.1 != 0 then
                  (g128 m y1.1.1 y1.1.2.1).bind fun y24 =>
                  (g142 m v_neg 0 (y24.1 == 0) v_t4).bind fun y25 =>
                  bif y25.1 then
                    (g93 m 1).bind fun y26 =>
                    (g143 m y1.1.1 y1.1.2.1 y26.1.1 y26.1.2.1).bind fun y27 =>
                    some ((y27.1.1, y27.1.2.1, ()), ((), (), (), (), (), ()))
                  else
                    some ((y1.1.1, y1.1.2.1, ()), ((), (), (), (), (), ()))
                else
                  (g142 m v_neg 0 false v_t4).bind fun y28 =>
                  bif y28.1 then
                    (g93 m 1).bind fun y29 =>
                    (g143 m y1.1.1 y1.1.2.1 y29.1.1 y29.1.2.1).bind fun y30 =>
                    some ((y30.1.1, y30.1.2.1, ()), ((), (), (), (), (), ()))
                  else
                    some ((y1.1.1, y1.1.2.1, ()), ((), (), (), (), (), ()))
          else
            (g88 m y1.1.1 y1.1.2.1).bind fun y31 =>
            bif y31.1 != 0 then
              (g128 m y1.1.1 y1.1.2.1).bind fun y32 =>
              (g142 m v_neg (-1) (y32.1 == 0) v_t4).bind fun y33 =>
              bif y33.1 then
                (g93 m 1).bind fun y34 =>
                (g143 m y1.1.1 y1.1.2.1 y34.1.1 y34.1.2.1).bind fun y35 =>
                some ((y35.1.1, y35.1.2.1, ()), ((), (), (), (), (), ()))
              else
                some ((y1.1.1, y1.1.2.1, ()), ((), (), (), (), (), ()))
            else
              (g142 m v_neg (-1) false v_t4).bind fun y36 =>
              bif y36.1 then
                (g93 m 1).bind fun y37 =>
                (g143 m y1.1.1 y1.1.2.1 y37.1.1 y37.1.2.1).bind fun y38 =>
                some ((y38.1.1, y38.1.2.1, ()), ((), (), (), (), (), ()))
              else
                some ((y1.1.1, y1.1.2.1, ()), ((), (), (), (), (), ()))
        else
          (g88 m y1.1.1 y1.1.2.1).bind fun y39 =>
          bif y39.1 != 0 then
            (g128 m y1.1.1 y1.1.2.1).bind fun y40 =>
            (g142 m v_neg (-1) (y40.1 == 0) v_t4).bind fun y41 =>
            bif y41.1 then
              (g93 m 1).bind fun y42 =>
              (g143 m y1.1.1 y1.1.2.1 y42.1.1 y42.1.2.1).bind fun y43 =>
              some ((y43.1.1, y43.1.2.1, ()), ((), (), (), (), (), ()))
            else
              some ((y1.1.1, y1.1.2.1, ()), ((), (), (), (), (), ()))
          else
            (g142 m v_neg (-1) false v_t4).bind fun y44 =>
            bif y44.1 then
              (g93 m 1).bind fun y45 =>
              (g143 m y1.1.1 y1.1.2.1 y45.1.1 y45.1.2.1).bind fun y46 =>
              some ((y46.1.1, y46.1.2.1, ()), ((), (), (), (), (), ()))
            else
              some ((y1.1.1, y1.1.2.1, ()), ((), (), (), (), (), ()))
      else
        (g88 m y1.1.1 y1.1.2.1).bind fun y47 =>
        bif y47.1 != 0 then
          (g128 m y1.1.1 y1.1.2.1).bind fun y48 =>
          (g142 m v_neg (-1) (y48.1 == 0) v_t4).bind fun y49 =>
          bif y49.1 then
            (g93 m 1).bind fun y50 =>
            (g143 m y1.1.1 y1.1.2.1 y50.1.1 y50.1.2.1).bind fun y51 =>
            some ((y51.1.1, y51.1.2.1, ()), ((), (), (), (), (), ()))
          else
            some ((y1.1.1, y1.1.2.1, ()), ((), (), (), (), (), ()))
        else
          (g142 m v_neg (-1) false v_t4).bind fun y52 =>
          bif y52.1 then
            (g93 m 1).bind fun y53 =>
            (g143 m y1.1.1 y1.1.2.1 y53.1.1 y53.1.2.1).bind fun y54 =>
            some ((y54.1.1, y54.1.2.1, ()), ((), (), (), (), (), ()))
          else
            some ((y1.1.1, y1.1.2.1, ()), ((), (), (), (), (), ()))
  else
    bif decide (v_t2 > 0) then
      (g129 m v_t1_0 v_t1_1 (w_i64 (v_t2 - 1))).bind fun y55 =>
      (g128 m y55.1.1 y55.1.2.1).bind fun y56 =>
      bif y56.1 == 0 then
        (g88 m y55.1.1 y55.1.2.1).bind fun y57 =>
        bif y57.1 != 0 then
          bif v_t3 then
            (g88 m y1.1.1 y1.1.2.1).bind fun y58 =>
            bif y58.1 != 0 then
              (g128 m y1.1.1 y1.1.2.1).bind fun y59 =>
              (g142 m v_neg 1 (y59.1 == 0) v_t4).bind fun y60 =>
              bif y60.1 then
                (g93 m 1).bind fun y61 =>
                (g143 m y1.1.1 y1.1.2.1 y61.1.1 y61.1.2.1).bind fun y62 =>
                some ((y62.1.1, y62.1.2.1, ()), ((), (), (), (), (), ()))
              else
                some ((y1.1.1, y1.1.2.1, ()), ((), (), (), (), (), ()))
            else
              (g142 m v_neg 1 false v_t4).bind fun y63 =>
              bif y63.1 then
                (g93 m 1).bind fun y64 =>
                (g143 m y1.1.1 y1.1.2.1 y64.1.1 y64.1.2.1).bind fun y65 =>
                some ((y65.1.1, y65.1.2.1, ()), ((), (), (), (), (), ()))
              else
                some ((y1.1.1, y1.1.2.1, ()), ((), (), (), (), (), ()))
          else
            (g141 m v_t1_0 v_t1_1 (w_i64 (v_t2 - 1))).bind fun y66 =>
            bif y66.1 then
              (g88 m y1.1.1 y1.1.2.1).bind fun y67 =>
              bif y67.1 != 0 then
                (g128 m y1.1.1 y1.1.2.1).bind fun y68 =>
                (g142 m v_neg 1 (y68.1 == 0) v_t4).bind fun y69 =>
                bif y69.1 then
                  (g93 m 1).bind fun y70 =>
                  (g143 m y1.1.1 y1.1.2.1 y70.1.1 y70.1.2.1).bind fun y71 =>
                  some ((y71.1.1, y71.1.2.1, ()), ((), (), (), (), (), ()))
                else
                  some ((y1.1.1, y1.1.2.1, ()), ((), (), (), (), (), ()))
              else
                (g142 m v_neg 1 false v_t4).bind fun y72 =>
                bif y72.1 then
                  (g93 m 1).bind fun y73 =>
                  (g143 m y1.1.1 y1.1.2.1 y73.1.1 y73.1.2.1).bind fun y74 =>
                  some ((y74.1.1, y74.1.2.1, ()), ((), (), (), (), (), ()))
                else
                  some ((y1.1.1, y1.1.2.1, ()), ((), (), (), (), (), ()))
            else
              (g88 m y1.1.1 y1.1.2.1).bind fun y75 =>
              bif y75.1 != 0 then
                (g128 m y1.1.1 y1.1.2.1).bind fun y76 =>
                (g142 m v_neg 0 (y76.1 == 0) v_t4).bind fun y77 =>
                bif y77.1 then
                  (g93 m 1).bind fun y78 =>
                  (g143 m y1.1.1 y1.1.2.1 y78.1.1 y78.1.2.1).bind fun y79 =>
                  some ((y79.1.1, y79.1.2.1, ()), ((), (), (), (), (), ()))
                else
                  some ((y1.1.1, y1.1.2.1, ()), ((), (), (), (), (), ()))
              else
                (g142 m v_neg 0 false v_t4).bind fun y80 =>
                bif y80.1 then
                  (g93 m 1).bind fun y81 =>
                  (g143 m y1.1.1 y1.1.2.1 y81.1.1 y81.1.2.1).bind fun y82 =>
                  some ((y82.1.1, y82.1.2.1, ()), ((), (), (), (), (), ()))
                else
                  some ((y1.1.1, y1.1.2.1, ()), ((), (), (), (), (), ()))
        else
          (g88 m y1.1.1 y1.1.2.1).bind fun y83 =>
          bif y83.1 != 0 then
            (g128 m y1.1.1 y1.1.2.1).bind fun y84 =>
            (g142 m v_neg (-1) (y84.1 == 0) v_t4).bind fun y85 =>
            bif y85.1 then
              (g93 m 1).bind fun y86 =>
              (g143 m y1.1.1 y1.1.2.1 y86.1.1 y86.1.2.1).bind fun y87 =>
              some ((y87.1.1, y87.1.2.1, ()), ((), (), (), (), (), ()))
            else
              some ((y1.1.1, y1.1.2.1, ()), ((), (), (), (), (), ()))
          else
            (g142 m v_neg (-1) false v_t4).bind fun y88 =>
            bif y88.1 then
              (g93 m 1).bind fun y89 =>
              (g143 m y1.1.1 y1.1.2.1 y89.1.1 y89.1.2.1).bind fun y90 =>
              some ((y90.1.1, y90.1.2.1, ()), ((), (), (), (), (), ()))
            else
              some ((y1.1.1, y1.1.2.1, ()), ((), (), (), (), (), ()))
      else
        (g88 m y1.1.1 y1.1.2.1).bind fun y91 =>
        bif y91.1 != 0 then
          (g128 m y1.1.1 y1.1.2.1).bind fun y92 =>
          (g142 m v_neg (-1) (y92.1 == 0) v_t4).bind fun y93 =>
          bif y93.1 then
            (g93 m 1).bind fun y94 =>
            (g143 m y1.1.1 y1.1.2.1 y94.1.1 y94.1.2.1).bind fun y95 =>
            some ((y95.1.1, y95.1.2.1, ()), ((), (), (), (), (), ()))
          else
            some ((y1.1.1, y1.1.2.1, ()), ((), (), (), (), (), ()))
        else
          (g142 m v_neg (-1) false v_t4).bind fun y96 =>
          bif y96.1 then
            (g93 m 1).bind fun y97 =>
            (g143 m y1.1.1 y1.1.2.1 y97.1.1 y97.1.2.1).bind fun y98 =>
            some ((y98.1.1, y98.1.2.1, ()), ((), (), (), (), (), ()))
          else
            some ((y1.1.1, y1.1.2.1, ()), ((), (), (), (), (), ()))
    else
      (g88 m y1.1.1 y1.1.2.1).bind fun y99 =>
      bif y99.1 != 0 then
        (g128 m y1.1.1 y1.1.2.1).bind fun y100 =>
        (g142 m v_neg (-1) (y100.1 == 0) v_t4).bind fun y101 =>
        bif y101.1 then
          (g93 m 1).bind fun y102 =>
          (g143 m y1.1.1 y1.1.2.1 y102.1.1 y102.1.2.1).bind fun y103 =>
          some ((y103.1.1, y103.1.2.1, ()), ((), (), (), (), (), ()))
        else
          some ((y1.1.1, y1.1.2.1, ()), ((), (), (), (), (), ()))
      else
        (g142 m v_neg (-1) false v_t4).bind fun y104 =>
        bif y104.1 then
          (g93 m 1).bind fun y105 =>
          (g143 m y1.1.1 y1.1.2.1 y105.1.1 y105.1.2.1).bind fun y106 =>
          some ((y106.1.1, y106.1.2.1, ()), ((), (), (), (), (), ()))
        else
          some ((y1.1.1, y1.1.2.1, ()), ((), (), (), (), (), ()))
/-! 125 sparse/sparseref01.Int -/
def g125_L0 (m : Nat) : Nat → Bool → List Int → Int → Int → Option (((Bool × List Int × Unit) × Int × Unit) ⊕ Empty)
  | 0, _, _, _, _ => none
  | n + 1, v_a_0, v_a_1, v_u, v_i =>
    bif decide (v_i < (v_a_1.length : Int)) then
      if (0 : Int) ≤ v_i ∧ v_i < (v_a_1.length : Int) then
      if (0 : Int) ≤ (w_i64 (32 * v_i)) then
      g125_L0 m n v_a_0 v_a_1 (b_or_ .u64 v_u (shl_ .u64 (w_u64 (v_a_1.getD (0 + v_i.toNat) 0)) (w_i64 (32 * v_i)))) (w_i64 (v_i + 1))
      else none
      else none
    else
      some (.inl ((v_a_0, v_a_1, ()), v_u, ()))
def g125 (m : Nat) (v_a_0 : Bool) (v_a_1 : List Int) : Option ((Int × Bool × Unit) × Unit × Unit) :=
  (g120 m v_a_0 v_a_1).bind fun y1 =>
  bif decide ((y1.1.2.1.length : Int) > 2) then
    some ((0, false, ()), ((), ()))
  else
    (g125_L0 m m y1.1.1 y1.1.2.1 0 0).bind fun y2 =>
    match y2 with
    | .inl z3 =>
      bif z3.1.1 then
        bif decide (z3.2.1 > 9223372036854775808) then
          some ((0, false, ()), ((), ()))
        else
          some ((w_i64 ((w_i64 (0 - (w_i64 (w_u64 (z3.2.1 - 1))))) - 1), true, ()), ((), ()))
      else
        bif decide (z3.2.1 > 9223372036854775807) then
          some ((0, false, ()), ((), ()))
        else
          some ((w_i64 z3.2.1, true, ()), ((), ()))
    | .inr e =>
      e.elim
/-! 89 sparse/sparseref03.rounded -/
def g89 (m : Nat) (v_neg : Bool) (v_t1_0 : Bool) (v_t1_1 : List Int) (v_t2 : Int) (v_t3 : Bool) (v_t4 : Int) : Option (Int × Unit × Unit × Unit × Unit × Unit × Unit) :=
  (g121 m v_t1_0 v_t1_1).bind fun y1 =>
  bif decide ((w_i64 ((w_i64 (v_t2 + y1.1)) - 1)) ≥ 1024) then
    (g122 m v_neg v_t4).bind fun y2 =>
    some (y2.1, ((), (), (), (), (), ()))
  else
    bif decide ((if (-1074) > (w_i64 ((w_i64 ((w_i64 (v_t2 + y1.1)) - 1)) - 52)) then (-1074) else (w_i64 ((w_i64 ((w_i64 (v_t2 + y1.1)) - 1)) - 52))) ≥ v_t2) then
      (g123 m v_neg v_t1_0 v_t1_1 (w_i64 ((if (-1074) > (w_i64 ((w_i64 ((w_i64 (v_t2 + y1.1)) - 1)) - 52)) then (-1074) else (w_i64 ((w_i64 ((w_i64 (v_t2 + y1.1)) - 1)) - 52))) - v_t2)) v_t3 v_t4).bind fun y3 =>
      (g125 m y3.1.1 y3.1.2.1).bind fun y4 =>
      bif y4.1.1 == 9007199254740992 then
        bif decide ((w_i64 ((w_i64 ((if (-1074) > (w_i64 ((w_i64 ((w_i64 (v_t2 + y1.1)) - 1)) - 52)) then (-1074) else (w_i64 ((w_i64 ((w_i64 (v_t2 + y1.1)) - 1)) - 52))) + 1)) + 53)) > 1024) then
          (g122 m v_neg v_t4).bind fun y5 =>
          some (y5.1, ((), (), (), (), (), ()))
        else
          (g126 m v_neg (b_or_ .u64 (shl_ .u64 (w_u64 (w_i64 ((w_i64 ((if (-1074) > (w_i64 ((w_i64 ((w_i64 (v_t2 + y1.1)) - 1)) - 52)) then (-1074) else (w_i64 ((w_i64 ((w_i64 (v_t2 + y1.1)) - 1)) - 52))) + 1)) + 1075))) 52) 0)).bind fun y6 =>
          some (y6.1, ((), (), (), (), (), ()))
      else
        bif decide (y4.1.1 ≥ 4503599627370496) then
          bif decide ((w_i64 ((if (-1074) > (w_i64 ((w_i64 ((w_i64 (v_t2 + y1.1)) - 1)) - 52)) then (-1074) else (w_i64 ((w_i64 ((w_i64 (v_t2 + y1.1)) - 1)) - 52))) + 53)) > 1024) then
            (g122 m v_neg v_t4).bind fun y7 =>
            some (y7.1, ((), (), (), (), (), ()))
          else
            bif decide (y4.1.1 ≥ 4503599627370496) then
              (g126 m v_neg (b_or_ .u64 (shl_ .u64 (w_u64 (w_i64 ((if (-1074) > (w_i64 ((w_i64 ((w_i64 (v_t2 + y1.1)) - 1)) - 52)) then (-1074) else (w_i64 ((w_i64 ((w_i64 (v_t2 + y1.1)) - 1)) - 52))) + 1075))) 52) (w_u64 (w_i64 (y4.1.1 - 4503599627370496))))).bind fun y8 =>
              some (y8.1, ((), (), (), (), (), ()))
            else
              (g126 m v_neg (w_u64 y4.1.1)).bind fun y9 =>
              some (y9.1, ((), (), (), (), (), ()))
        else
          bif decide (y4.1.1 ≥ 4503599627370496) then
            (g126 m v_neg (b_or_ .u64 (shl_ .u64 (w_u64 (w_i64 ((if (-1074) > (w_i64 ((w_i64 ((w_i64 (v_t2 + y1.1)) - 1)) - 52)) then (-1074) else (w_i64 ((w_i64 ((w_i64 (v_t2 + y1.1)) - 1)) - 52))) + 1075))) 52) (w_u64 (w_i64 (y4.1.1 - 4503599627370496))))).bind fun y10 =>
            some (y10.1, ((), (), (), (), (), ()))
          else
            (g126 m v_neg (w_u64 y4.1.1)).bind fun y11 =>
            some (y11.1, ((), (), (), (), (), ()))
    else
      (g124 m v_t1_0 v_t1_1 (w_i64 (v_t2 - (if (-1074) > (w_i64 ((w_i64 ((w_i64 (v_t2 + y1.1)) - 1)) - 52)) then (-1074) else (w_i64 ((w_i64 ((w_i64 (v_t2 + y1.1)) - 1)) - 52)))))).bind fun y12 =>
      (g125 m y12.1.1 y12.1.2.1).bind fun y13 =>
      bif y13.1.1 == 9007199254740992 then
        bif decide ((w_i64 ((w_i64 ((if (-1074) > (w_i64 ((w_i64 ((w_i64 (v_t2 + y1.1)) - 1)) - 52)) then (-1074) else (w_i64 ((w_i64 ((w_i64 (v_t2 + y1.1)) - 1)) - 52))) + 1)) + 53)) > 1024) then
          (g122 m v_neg v_t4).bind fun y14 =>
          some (y14.1, ((), (), (), (), (), ()))
        else
          (g126 m v_neg (b_or_ .u64 (shl_ .u64 (w_u64 (w_i64 ((w_i64 ((if (-1074) > (w_i64 ((w_i64 ((w_i64 (v_t2 + y1.1)) - 1)) - 52)) then (-1074) else (w_i64 ((w_i64 ((w_i64 (v_t2 + y1.1)) - 1)) - 52))) + 1)) + 1075))) 52) 0)).bind fun y15 =>
          some (y15.1, ((), (), (), (), (), ()))
      else
        bif decide (y13.1.1 ≥ 4503599627370496) then
          bif decide ((w_i64 ((if (-1074) > (w_i64 ((w_i64 ((w_i64 (v_t2 + y1.1)) - 1)) - 52)) then (-1074) else (w_i64 ((w_i64 ((w_i64 (v_t2 + y1.1)) - 1)) - 52))) + 53)) > 1024) then
            (g122 m v_neg v_t4).bind fun y16 =>
            some (y16.1, ((), (), (), (), (), ()))
          else
            bif decide (y13.1.1 ≥ 4503599627370496) then
              (g126 m v_neg (b_or_ .u64 (shl_ .u64 (w_u64 (w_i64 ((if (-1074) > (w_i64 ((w_i64 ((w_i64 (v_t2 + y1.1)) - 1)) - 52)) then (-1074) else (w_i64 ((w_i64 ((w_i64 (v_t2 + y1.1)) - 1)) - 52))) + 1075))) 52) (w_u64 (w_i64 (y13.1.1 - 4503599627370496))))).bind fun y17 =>
              some (y17.1, ((), (), (), (), (), ()))
            else
              (g126 m v_neg (w_u64 y13.1.1)).bind fun y18 =>
              some (y18.1, ((), (), (), (), (), ()))
        else
          bif decide (y13.1.1 ≥ 4503599627370496) then
            (g126 m v_neg (b_or_ .u64 (shl_ .u64 (w_u64 (w_i64 ((if (-1074) > (w_i64 ((w_i64 ((w_i64 (v_t2 + y1.1)) - 1)) - 52)) then (-1074) else (w_i64 ((w_i64 ((w_i64 (v_t2 + y1.1)) - 1)) - 52))) + 1075))) 52) (w_u64 (w_i64 (y13.1.1 - 4503599627370496))))).bind fun y19 =>
            some (y19.1, ((), (), (), (), (), ()))
          else
            (g126 m v_neg (w_u64 y13.1.1)).bind fun y20 =>
            some (y20.1, ((), (), (), (), (), ()))
/-! 56 sparse/sparseref03.Round -/
def g56 (m : Nat) (v_d_0 : Bool) (v_d_1 : Bool) (v_d_2 : List Int) (v_d_3 : Int) (v_mode : Int) : Option (Int × Unit × Unit × Unit) :=
  (g87 m v_d_0 v_d_1 v_d_2 v_d_3).bind fun y1 =>
  bif y1.1.1 then
    some (9221120237041090560, ((), (), ()))
  else
    (g88 m y1.1.2.1 y1.1.2.2.1).bind fun y2 =>
    bif y2.1 == 0 then
      some (0, ((), (), ()))
    else
      (g90 m y1.1.2.1 y1.1.2.2.1).bind fun y3 =>
      (g89 m y1.1.2.1 y3.1.1 y3.1.2.1 y1.1.2.2.2.1 false v_mode).bind fun y4 =>
      some (y4.1, ((), (), ()))
/-! 29 sparse/sparsemake.Value -/
def g29 (m : Nat) (v_n : Int) : Option (Int × Unit × Unit) :=
  (g7 m v_n 17).bind fun y1 =>
  bif (Int.tmod (w_i64 (w_u64 (Int.tdiv (w_u64 v_n) 17))) 3) == 0 then
    (g58 m (w_i64 (y1.1 - 8))).bind fun y2 =>
    (g57 m y2.1.1 y2.1.2.1 y2.1.2.2.1 y2.1.2.2.2.1 (w_i64 ((Int.tmod (w_i64 (Int.tdiv (w_i64 (w_u64 (Int.tdiv (w_u64 v_n) 17))) 3)) 13) - 6))).bind fun y3 =>
    (g56 m y3.1.1 y3.1.2.1 y3.1.2.2.1 y3.1.2.2.2.1 0).bind fun y4 =>
    some (y4.1, ((), ()))
  else
    (g58 m (w_i64 (y1.1 - 8))).bind fun y5 =>
    (g57 m y5.1.1 y5.1.2.1 y5.1.2.2.1 y5.1.2.2.2.1 0).bind fun y6 =>
    (g56 m y6.1.1 y6.1.2.1 y6.1.2.2.1 y6.1.2.2.2.1 0).bind fun y7 =>
    some (y7.1, ((), ()))
/-! 30 sparse/sparseref09.Pack -/
def g30_L2 (m : Nat) : Nat → Int → Int → (List (Int × Int × Int)) → Int → Int → List Int → List Int → List Int → Int → Int → List Int → List Int → List Int → List Int → Int → Int → Option ((Int × Int × (List (Int × Int × Int)) × (Int × Int × List Int × List Int × List Int × Unit) × (Int × Int × List Int × List Int × List Int × Unit) × List Int × Int × Unit) ⊕ Empty)
  | 0, _, _, _, _, _, _, _, _, _, _, _, _, _, _, _, _ => none
  | n + 1, v_rows, v_t1, v_t2, v_t6_0, v_t6_1, v_t6_2, v_t6_3, v_t6_4, v_t7_0, v_t7_1, v_t7_2, v_t7_3, v_t7_4, v_t8, v_t10, v_t11 =>
    bif decide (v_t11 < v_rows) then
      if (0 : Int) ≤ (w_i64 ((w_i64 (v_t10 * v_rows)) + v_t11)) ∧ (w_i64 ((w_i64 (v_t10 * v_rows)) + v_t11)) < (v_t8.length : Int) then
      bif decide ((v_t8.getD (0 + (w_i64 ((w_i64 (v_t10 * v_rows)) + v_t11)).toNat) 0) > 0) then
        if v_t7_3.length + ([v_t11] : List Int).length ≤ 1073741824 then
        if (0 : Int) ≤ (w_i64 ((v_t8.getD (0 + (w_i64 ((w_i64 (v_t10 * v_rows)) + v_t11)).toNat) 0) - 1)) ∧ (w_i64 ((v_t8.getD (0 + (w_i64 ((w_i64 (v_t10 * v_rows)) + v_t11)).toNat) 0) - 1)) < (v_t2.length : Int) then
        if v_t7_4.length + ([(v_t2.getD (w_i64 ((v_t8.getD (0 + (w_i64 ((w_i64 (v_t10 * v_rows)) + v_t11)).toNat) 0) - 1)).toNat (0, (0, 0))).2.2] : List Int).length ≤ 1073741824 then
        g30_L2 m n v_rows v_t1 v_t2 v_t6_0 v_t6_1 v_t6_2 v_t6_3 v_t6_4 v_t7_0 v_t7_1 v_t7_2 (v_t7_3 ++ ([v_t11] : List Int)) (v_t7_4 ++ ([(v_t2.getD (w_i64 ((v_t8.getD (0 + (w_i64 ((w_i64 (v_t10 * v_rows)) + v_t11)).toNat) 0) - 1)).toNat (0, (0, 0))).2.2] : List Int)) v_t8 v_t10 (w_i64 (v_t11 + 1))
        else none
        else none
        else none
      else
        g30_L2 m n v_rows v_t1 v_t2 v_t6_0 v_t6_1 v_t6_2 v_t6_3 v_t6_4 v_t7_0 v_t7_1 v_t7_2 v_t7_3 v_t7_4 v_t8 v_t10 (w_i64 (v_t11 + 1))
      else none
    else
      some (.inl (v_rows, v_t1, v_t2, (v_t6_0, v_t6_1, v_t6_2, v_t6_3, v_t6_4, ()), (v_t7_0, v_t7_1, v_t7_2, v_t7_3, v_t7_4, ()), v_t8, v_t10, ()))
def g30_L1 (m : Nat) : Nat → Int → Int → (List (Int × Int × Int)) → Int → Int → List Int → List Int → List Int → Int → Int → List Int → List Int → List Int → List Int → Int → Option (((Int × Int × List Int × List Int × List Int × Unit) × (Int × Int × List Int × List Int × List Int × Unit) × Unit) ⊕ Empty)
  | 0, _, _, _, _, _, _, _, _, _, _, _, _, _, _, _ => none
  | n + 1, v_rows, v_t1, v_t2, v_t6_0, v_t6_1, v_t6_2, v_t6_3, v_t6_4, v_t7_0, v_t7_1, v_t7_2, v_t7_3, v_t7_4, v_t8, v_t10 =>
    bif decide (v_t10 < v_t1) then
      (g30_L2 m m v_rows v_t1 v_t2 v_t6_0 v_t6_1 v_t6_2 v_t6_3 v_t6_4 v_t7_0 v_t7_1 v_t7_2 v_t7_3 v_t7_4 v_t8 v_t10 0).bind fun y1 =>
      match y1 with
      | .inl z2 =>
        if z2.2.2.2.2.1.2.2.1.length + ([(z2.2.2.2.2.1.2.2.2.1.length : Int)] : List Int).length ≤ 1073741824 then
        g30_L1 m n z2.1 z2.2.1 z2.2.2.1 z2.2.2.2.1.1 z2.2.2.2.1.2.1 z2.2.2.2.1.2.2.1 z2.2.2.2.1.2.2.2.1 z2.2.2.2.1.2.2.2.2.1 z2.2.2.2.2.1.1 z2.2.2.2.2.1.2.1 (z2.2.2.2.2.1.2.2.1 ++ ([(z2.2.2.2.2.1.2.2.2.1.length : Int)] : List Int)) z2.2.2.2.2.1.2.2.2.1 z2.2.2.2.2.1.2.2.2.2.1 z2.2.2.2.2.2.1 (w_i64 (z2.2.2.2.2.2.2.1 + 1))
        else none
      | .inr e =>
        e.elim
    else
      some (.inl ((v_t6_0, v_t6_1, v_t6_2, v_t6_3, v_t6_4, ()), (v_t7_0, v_t7_1, v_t7_2, v_t7_3, v_t7_4, ()), ()))
def g30_L0 (m : Nat) : Nat → Int → Int → (List (Int × Int × Int)) → Int → Int → List Int → List Int → List Int → Int → Int → List Int → List Int → List Int → List Int → Int → Option ((Int × Int × (List (Int × Int × Int)) × (Int × Int × List Int × List Int × List Int × Unit) × (Int × Int × List Int × List Int × List Int × Unit) × List Int × Unit) ⊕ Empty)
  | 0, _, _, _, _, _, _, _, _, _, _, _, _, _, _, _ => none
  | n + 1, v_rows, v_t1, v_t2, v_t6_0, v_t6_1, v_t6_2, v_t6_3, v_t6_4, v_t7_0, v_t7_1, v_t7_2, v_t7_3, v_t7_4, v_t8, v_t9 =>
    bif decide (v_t9 < (v_t2.length : Int)) then
      if (0 : Int) ≤ v_t9 ∧ v_t9 < (v_t2.length : Int) then
      if (0 : Int) ≤ v_t9 ∧ v_t9 < (v_t2.length : Int) then
      if (0 : Int) ≤ (w_i64 ((w_i64 ((v_t2.getD v_t9.toNat (0, (0, 0))).2.1 * v_rows)) + (v_t2.getD v_t9.toNat (0, (0, 0))).1)) ∧ (w_i64 ((w_i64 ((v_t2.getD v_t9.toNat (0, (0, 0))).2.1 * v_rows)) + (v_t2.getD v_t9.toNat (0, (0, 0))).1)) < (v_t8.length : Int) then
      g30_L0 m n v_rows v_t1 v_t2 v_t6_0 v_t6_1 v_t6_2 v_t6_3 v_t6_4 v_t7_0 v_t7_1 v_t7_2 v_t7_3 v_t7_4 (v_t8.set (0 + (w_i64 ((w_i64 ((v_t2.getD v_t9.toNat (0, (0, 0))).2.1 * v_rows)) + (v_t2.getD v_t9.toNat (0, (0, 0))).1)).toNat) (w_i64 (v_t9 + 1))) (w_i64 (v_t9 + 1))
      else none
      else none
      else none
    else
      some (.inl (v_rows, v_t1, v_t2, (v_t6_0, v_t6_1, v_t6_2, v_t6_3, v_t6_4, ()), (v_t7_0, v_t7_1, v_t7_2, v_t7_3, v_t7_4, ()), v_t8, ()))
def g30 (m : Nat) (v_rows : Int) (v_t1 : Int) (v_t2 : List (Int × Int × Int)) : Option ((Int × Int × List Int × List Int × List Int × Unit) × Unit × Unit × Unit × Unit) :=
  if (0 : Int) ≤ (w_i64 (v_rows * v_t1)) ∧ (w_i64 (v_rows * v_t1)) ≤ (w_i64 (v_rows * v_t1)) ∧ (w_i64 (v_rows * v_t1)) ≤ 1073741824 then
  (g30_L0 m m v_rows v_t1 v_t2 0 0 ([] : List Int) ([] : List Int) ([] : List Int) v_rows v_t1 ([0] : List Int) ([] : List Int) ([] : List Int) (List.replicate (w_i64 (v_rows * v_t1)).toNat (0 : Int)) 0).bind fun y1 =>
  match y1 with
  | .inl z2 =>
    (g30_L1 m m z2.1 z2.2.1 z2.2.2.1 z2.2.2.2.1.1 z2.2.2.2.1.2.1 z2.2.2.2.1.2.2.1 z2.2.2.2.1.2.2.2.1 z2.2.2.2.1.2.2.2.2.1 z2.2.2.2.2.1.1 z2.2.2.2.2.1.2.1 z2.2.2.2.2.1.2.2.1 z2.2.2.2.2.1.2.2.2.1 z2.2.2.2.2.1.2.2.2.2.1 z2.2.2.2.2.2.1 0).bind fun y3 =>
    match y3 with
    | .inl z4 =>
      some ((z4.2.1.1, z4.2.1.2.1, z4.2.1.2.2.1, z4.2.1.2.2.2.1, z4.2.1.2.2.2.2.1, ()), ((), (), (), ()))
    | .inr e =>
      e.elim
  | .inr e =>
    e.elim
  else none
/-! 8 sparse/sparsemake.Matrix -/
/-! 10 sparse/matrix.Entries -/
def g10 (m : Nat) (v_m_0 : Int) (v_m_1 : Int) (v_m_2 : List Int) (v_m_3 : List Int) (v_m_4 : List Int) : Option ((List (Int × Int × Int)) × Unit × Unit) :=
  (g28 m v_m_0 v_m_1 v_m_2 v_m_3 v_m_4).bind fun y1 =>
  bif y1.1 != 0 then
    some (([] : List (Int × Int × Int)), ((), ()))
  else
    (g38 m v_m_0 v_m_1 v_m_2 v_m_3 v_m_4).bind fun y2 =>
    some (y2.1, ((), ()))
/-! 11 sparse/matrix.Transpose -/
def g11_L0 (m : Nat) : Nat → Int → Int → List Int → List Int → List Int → Int → Int → List Int → List Int → List Int → (List (Int × Int × Int)) → Int → Int → Option (((Int × Int × List Int × List Int × List Int × Unit) × (Int × Int × List Int × List Int × List Int × Unit) × (List (Int × Int × Int)) × Unit) ⊕ Empty)
  | 0, _, _, _, _, _, _, _, _, _, _, _, _, _ => none
  | n + 1, v_m_0, v_m_1, v_m_2, v_m_3, v_m_4, v_t2_0, v_t2_1, v_t2_2, v_t2_3, v_t2_4, v_l, v_t17, v_t18 =>
    bif decide (v_t18 < v_t17) then
      if (0 : Int) ≤ v_t18 ∧ v_t18 < (v_l.length : Int) then
      if (0 : Int) ≤ v_t18 ∧ v_t18 < (v_l.length : Int) then
      if (0 : Int) ≤ v_t18 ∧ v_t18 < ((v_l.set (0 + v_t18.toNat) ((v_l.getD (0 + v_t18.toNat) (0, (0, 0))).2.1, ((v_l.getD (0 + v_t18.toNat) (0, (0, 0))).2.1, (v_l.getD (0 + v_t18.toNat) (0, (0, 0))).2.2))).length : Int) then
      g11_L0 m n v_m_0 v_m_1 v_m_2 v_m_3 v_m_4 v_t2_0 v_t2_1 v_t2_2 v_t2_3 v_t2_4 ((v_l.set (0 + v_t18.toNat) ((v_l.getD (0 + v_t18.toNat) (0, (0, 0))).2.1, ((v_l.getD (0 + v_t18.toNat) (0, (0, 0))).2.1, (v_l.getD (0 + v_t18.toNat) (0, (0, 0))).2.2))).set (0 + v_t18.toNat) (((v_l.set (0 + v_t18.toNat) ((v_l.getD (0 + v_t18.toNat) (0, (0, 0))).2.1, ((v_l.getD (0 + v_t18.toNat) (0, (0, 0))).2.1, (v_l.getD (0 + v_t18.toNat) (0, (0, 0))).2.2))).getD (0 + v_t18.toNat) (0, (0, 0))).1, ((v_l.getD (0 + v_t18.toNat) (0, (0, 0))).1, ((v_l.set (0 + v_t18.toNat) ((v_l.getD (0 + v_t18.toNat) (0, (0, 0))).2.1, ((v_l.getD (0 + v_t18.toNat) (0, (0, 0))).2.1, (v_l.getD (0 + v_t18.toNat) (0, (0, 0))).2.2))).getD (0 + v_t18.toNat) (0, (0, 0))).2.2))) v_t17 (w_i64 (v_t18 + 1))
      else none
      else none
      else none
    else
      some (.inl ((v_m_0, v_m_1, v_m_2, v_m_3, v_m_4, ()), (v_t2_0, v_t2_1, v_t2_2, v_t2_3, v_t2_4, ()), v_l, ()))
def g11 (m : Nat) (v_m_0 : Int) (v_m_1 : Int) (v_m_2 : List Int) (v_m_3 : List Int) (v_m_4 : List Int) : Option (((Int × Int × List Int × List Int × List Int × Unit) × Int × Unit) × Unit × Unit) :=
  (g28 m v_m_0 v_m_1 v_m_2 v_m_3 v_m_4).bind fun y1 =>
  bif y1.1 != 0 then
    some (((0, 0, ([] : List Int), ([] : List Int), ([] : List Int), ()), y1.1, ()), ((), ()))
  else
    (g38 m v_m_0 v_m_1 v_m_2 v_m_3 v_m_4).bind fun y2 =>
    (g11_L0 m m v_m_0 v_m_1 v_m_2 v_m_3 v_m_4 0 0 ([] : List Int) ([] : List Int) ([] : List Int) y2.1 (y2.1.length : Int) 0).bind fun y3 =>
    match y3 with
    | .inl z4 =>
      (g37 m z4.1.2.1 z4.1.1 z4.2.2.1).bind fun y5 =>
      some (((y5.1.1, y5.1.2.1, y5.1.2.2.1, y5.1.2.2.2.1, y5.1.2.2.2.2.1, ()), 0, ()), ((), ()))
    | .inr e =>
      e.elim
/-! 12 sparse/sparsekit.Shuffle -/
/-! 39 sparse/matrix.places -/
/-! 40 sparse/matrix.selected -/
/-! 13 sparse/matrix.Permute -/
/-! 14 sparse/sparsekit.Invert -/
/-! 41 sparse/sparsekit.Floats -/
def g41_L0 (m : Nat) : Nat → List Int → List Int → Int → Option ((Bool × Unit) ⊕ Unit ⊕ Empty)
  | 0, _, _, _ => none
  | n + 1, v_a, v_b, v_i =>
    bif decide (v_i < (v_a.length : Int)) then
      if (0 : Int) ≤ v_i ∧ v_i < (v_a.length : Int) then
      if (0 : Int) ≤ v_i ∧ v_i < (v_b.length : Int) then
      bif (v_a.getD v_i.toNat 0) != (v_b.getD v_i.toNat 0) then
        some (.inl (false, ()))
      else
        g41_L0 m n v_a v_b (w_i64 (v_i + 1))
      else none
      else none
    else
      some (.inr (.inl ()))
def g41 (m : Nat) (v_a : List Int) (v_b : List Int) : Option (Bool × Unit × Unit × Unit) :=
  bif (v_a.length : Int) != (v_b.length : Int) then
    some (false, ((), (), ()))
  else
    (g41_L0 m m v_a v_b 0).bind fun y1 =>
    match y1 with
    | .inl z2 =>
      some (z2.1, ((), (), ()))
    | .inr (.inl z3) =>
      some (true, ((), (), ()))
    | .inr (.inr e) =>
      e.elim
/-! 15 sparse/sparsekit.Matrix -/
def g15 (m : Nat) (v_a_0 : Int) (v_a_1 : Int) (v_a_2 : List Int) (v_a_3 : List Int) (v_a_4 : List Int) (v_b_0 : Int) (v_b_1 : Int) (v_b_2 : List Int) (v_b_3 : List Int) (v_b_4 : List Int) : Option (Bool × Unit × Unit × Unit) :=
  bif v_a_0 == v_b_0 then
    bif v_a_1 == v_b_1 then
      (g27 m v_a_2 v_b_2).bind fun y1 =>
      bif y1.1 then
        (g27 m v_a_3 v_b_3).bind fun y2 =>
        bif y2.1 then
          (g41 m v_a_4 v_b_4).bind fun y3 =>
          some (y3.1, ((), (), ()))
        else
          some (false, ((), (), ()))
      else
        some (false, ((), (), ()))
    else
      some (false, ((), (), ()))
  else
    some (false, ((), (), ()))
/-! 3 sparse/sparselaw09.MatrixRound -/
/-! 16 sparse/sparselaw09.small -/
/-! 114 sparse/sparseref03.IsFinite -/
def g114 (m : Nat) (v_f : Int) : Option (Bool × Unit × Unit) :=
  some ((b_and_ .u64 (shr_ .u64 v_f 52) 2047) != 2047, ((), ()))
/-! 77 sparse/sparseref06.Finite -/
def g77_L0 (m : Nat) : Nat → List Int → Int → Option ((Bool × Unit) ⊕ Unit ⊕ Empty)
  | 0, _, _ => none
  | n + 1, v_l, v_i =>
    bif decide (v_i < (v_l.length : Int)) then
      if (0 : Int) ≤ v_i ∧ v_i < (v_l.length : Int) then
      (g114 m (v_l.getD v_i.toNat 0)).bind fun y1 =>
      bif !y1.1 then
        some (.inl (false, ()))
      else
        g77_L0 m n v_l (w_i64 (v_i + 1))
      else none
    else
      some (.inr (.inl ()))
def g77 (m : Nat) (v_l : List Int) : Option (Bool × Unit × Unit) :=
  (g77_L0 m m v_l 0).bind fun y1 =>
  match y1 with
  | .inl z2 =>
    some (z2.1, ((), ()))
  | .inr (.inl z3) =>
    some (true, ((), ()))
  | .inr (.inr e) =>
    e.elim
/-! 42 sparse/sparseref09.Check -/
def g42_L2 (m : Nat) : Nat → Int → Int → List Int → List Int → List Int → Int → Int → Option ((Int × Unit) ⊕ ((Int × Int × List Int × List Int × List Int × Unit) × Int × Unit) ⊕ Empty)
  | 0, _, _, _, _, _, _, _ => none
  | n + 1, v_t1_0, v_t1_1, v_t1_2, v_t1_3, v_t1_4, v_t5, v_t6 =>
    if (0 : Int) ≤ (w_i64 (v_t5 + 1)) ∧ (w_i64 (v_t5 + 1)) < (v_t1_2.length : Int) then
    bif decide (v_t6 < (v_t1_2.getD (w_i64 (v_t5 + 1)).toNat 0)) then
      if (0 : Int) ≤ v_t6 ∧ v_t6 < (v_t1_3.length : Int) then
      bif decide ((v_t1_3.getD v_t6.toNat 0) < 0) then
        some (.inl (1, ()))
      else
        if (0 : Int) ≤ v_t6 ∧ v_t6 < (v_t1_3.length : Int) then
        bif decide ((v_t1_3.getD v_t6.toNat 0) ≥ v_t1_0) then
          some (.inl (1, ()))
        else
          if (0 : Int) ≤ v_t5 ∧ v_t5 < (v_t1_2.length : Int) then
          bif decide (v_t6 > (v_t1_2.getD v_t5.toNat 0)) then
            if (0 : Int) ≤ v_t6 ∧ v_t6 < (v_t1_3.length : Int) then
            if (0 : Int) ≤ (w_i64 (v_t6 - 1)) ∧ (w_i64 (v_t6 - 1)) < (v_t1_3.length : Int) then
            bif decide ((v_t1_3.getD v_t6.toNat 0) ≤ (v_t1_3.getD (w_i64 (v_t6 - 1)).toNat 0)) then
              some (.inl (1, ()))
            else
              g42_L2 m n v_t1_0 v_t1_1 v_t1_2 v_t1_3 v_t1_4 v_t5 (w_i64 (v_t6 + 1))
            else none
            else none
          else
            g42_L2 m n v_t1_0 v_t1_1 v_t1_2 v_t1_3 v_t1_4 v_t5 (w_i64 (v_t6 + 1))
          else none
        else none
      else none
    else
      some (.inr (.inl ((v_t1_0, v_t1_1, v_t1_2, v_t1_3, v_t1_4, ()), v_t5, ())))
    else none
def g42_L1 (m : Nat) : Nat → Int → Int → List Int → List Int → List Int → Int → Option ((Int × Unit) ⊕ ((Int × Int × List Int × List Int × List Int × Unit) × Unit) ⊕ Empty)
  | 0, _, _, _, _, _, _ => none
  | n + 1, v_t1_0, v_t1_1, v_t1_2, v_t1_3, v_t1_4, v_t5 =>
    bif decide (v_t5 < v_t1_1) then
      if (0 : Int) ≤ v_t5 ∧ v_t5 < (v_t1_2.length : Int) then
      (g42_L2 m m v_t1_0 v_t1_1 v_t1_2 v_t1_3 v_t1_4 v_t5 (v_t1_2.getD v_t5.toNat 0)).bind fun y1 =>
      match y1 with
      | .inl z2 =>
        some (.inl (z2.1, ()))
      | .inr (.inl z3) =>
        g42_L1 m n z3.1.1 z3.1.2.1 z3.1.2.2.1 z3.1.2.2.2.1 z3.1.2.2.2.2.1 (w_i64 (z3.2.1 + 1))
      | .inr (.inr e) =>
        e.elim
      else none
    else
      some (.inr (.inl ((v_t1_0, v_t1_1, v_t1_2, v_t1_3, v_t1_4, ()), ())))
def g42_L0 (m : Nat) : Nat → Int → Int → List Int → List Int → List Int → Int → Option ((Int × Unit) ⊕ ((Int × Int × List Int × List Int × List Int × Unit) × Unit) ⊕ Empty)
  | 0, _, _, _, _, _, _ => none
  | n + 1, v_t1_0, v_t1_1, v_t1_2, v_t1_3, v_t1_4, v_t4 =>
    bif decide (v_t4 < v_t1_1) then
      if (0 : Int) ≤ v_t4 ∧ v_t4 < (v_t1_2.length : Int) then
      if (0 : Int) ≤ (w_i64 (v_t4 + 1)) ∧ (w_i64 (v_t4 + 1)) < (v_t1_2.length : Int) then
      bif decide ((v_t1_2.getD v_t4.toNat 0) > (v_t1_2.getD (w_i64 (v_t4 + 1)).toNat 0)) then
        some (.inl (1, ()))
      else
        g42_L0 m n v_t1_0 v_t1_1 v_t1_2 v_t1_3 v_t1_4 (w_i64 (v_t4 + 1))
      else none
      else none
    else
      some (.inr (.inl ((v_t1_0, v_t1_1, v_t1_2, v_t1_3, v_t1_4, ()), ())))
def g42 (m : Nat) (v_m_0 : Int) (v_m_1 : Int) (v_m_2 : List Int) (v_m_3 : List Int) (v_m_4 : List Int) : Option (Int × Unit × Unit) :=
  bif decide (v_m_0 < 0) then
    some (6, ((), ()))
  else
    bif decide (v_m_0 > 200) then
      some (6, ((), ()))
    else
      bif decide (v_m_1 < 0) then
        some (6, ((), ()))
      else
        bif decide (v_m_1 > 200) then
          some (6, ((), ()))
        else
          bif decide ((v_m_3.length : Int) > 10000) then
            some (6, ((), ()))
          else
            bif (v_m_4.length : Int) != (v_m_3.length : Int) then
              some (1, ((), ()))
            else
              bif (v_m_2.length : Int) != (w_i64 (v_m_1 + 1)) then
                some (1, ((), ()))
              else
                if (0 : Int) ≤ 0 ∧ 0 < (v_m_2.length : Int) then
                bif (v_m_2.getD 0 0) != 0 then
                  some (1, ((), ()))
                else
                  if (0 : Int) ≤ v_m_1 ∧ v_m_1 < (v_m_2.length : Int) then
                  bif (v_m_2.getD v_m_1.toNat 0) != (v_m_3.length : Int) then
                    some (1, ((), ()))
                  else
                    (g42_L0 m m v_m_0 v_m_1 v_m_2 v_m_3 v_m_4 0).bind fun y1 =>
                    match y1 with
                    | .inl z2 =>
                      some (z2.1, ((), ()))
                    | .inr (.inl z3) =>
                      (g42_L1 m m z3.1.1 z3.1.2.1 z3.1.2.2.1 z3.1.2.2.2.1 z3.1.2.2.2.2.1 0).bind fun y4 =>
                      match y4 with
                      | .inl z5 =>
                        some (z5.1, ((), ()))
                      | .inr (.inl z6) =>
                        (g77 m z6.1.2.2.2.2.1).bind fun y7 =>
                        bif !y7.1 then
                          some (4, ((), ()))
                        else
                          some (0, ((), ()))
                      | .inr (.inr e) =>
                        e.elim
                    | .inr (.inr e) =>
                      e.elim
                  else none
                else none
/-! 43 sparse/sparseref09.Entries -/
def g43_L1 (m : Nat) : Nat → Int → Int → List Int → List Int → List Int → (List (Int × Int × Int)) → Int → Int → Option (((Int × Int × List Int × List Int × List Int × Unit) × (List (Int × Int × Int)) × Int × Unit) ⊕ Empty)
  | 0, _, _, _, _, _, _, _, _ => none
  | n + 1, v_m_0, v_m_1, v_m_2, v_m_3, v_m_4, v_out, v_j, v_k =>
    if (0 : Int) ≤ (w_i64 (v_j + 1)) ∧ (w_i64 (v_j + 1)) < (v_m_2.length : Int) then
    bif decide (v_k < (v_m_2.getD (w_i64 (v_j + 1)).toNat 0)) then
      if (0 : Int) ≤ v_k ∧ v_k < (v_m_3.length : Int) then
      if (0 : Int) ≤ v_k ∧ v_k < (v_m_4.length : Int) then
      if v_out.length + ([(v_m_3.getD v_k.toNat 0, (v_j, v_m_4.getD v_k.toNat 0))] : List (Int × Int × Int)).length ≤ 1073741824 then
      g43_L1 m n v_m_0 v_m_1 v_m_2 v_m_3 v_m_4 (v_out ++ ([(v_m_3.getD v_k.toNat 0, (v_j, v_m_4.getD v_k.toNat 0))] : List (Int × Int × Int))) v_j (w_i64 (v_k + 1))
      else none
      else none
      else none
    else
      some (.inl ((v_m_0, v_m_1, v_m_2, v_m_3, v_m_4, ()), v_out, v_j, ()))
    else none
def g43_L0 (m : Nat) : Nat → Int → Int → List Int → List Int → List Int → (List (Int × Int × Int)) → Int → Option (((List (Int × Int × Int)) × Unit) ⊕ Empty)
  | 0, _, _, _, _, _, _, _ => none
  | n + 1, v_m_0, v_m_1, v_m_2, v_m_3, v_m_4, v_out, v_j =>
    bif decide (v_j < v_m_1) then
      if (0 : Int) ≤ v_j ∧ v_j < (v_m_2.length : Int) then
      (g43_L1 m m v_m_0 v_m_1 v_m_2 v_m_3 v_m_4 v_out v_j (v_m_2.getD v_j.toNat 0)).bind fun y1 =>
      match y1 with
      | .inl z2 =>
        g43_L0 m n z2.1.1 z2.1.2.1 z2.1.2.2.1 z2.1.2.2.2.1 z2.1.2.2.2.2.1 z2.2.1 (w_i64 (z2.2.2.1 + 1))
      | .inr e =>
        e.elim
      else none
    else
      some (.inl (v_out, ()))
def g43 (m : Nat) (v_m_0 : Int) (v_m_1 : Int) (v_m_2 : List Int) (v_m_3 : List Int) (v_m_4 : List Int) : Option ((List (Int × Int × Int)) × Unit × Unit) :=
  (g42 m v_m_0 v_m_1 v_m_2 v_m_3 v_m_4).bind fun y1 =>
  bif y1.1 != 0 then
    some (([] : List (Int × Int × Int)), ((), ()))
  else
    (g43_L0 m m v_m_0 v_m_1 v_m_2 v_m_3 v_m_4 ([] : List (Int × Int × Int)) 0).bind fun y2 =>
    match y2 with
    | .inl z3 =>
      some (z3.1, ((), ()))
    | .inr e =>
      e.elim
/-! 17 sparse/sparseref09.Transpose -/
def g17_L0 (m : Nat) : Nat → Int → Int → List Int → List Int → List Int → Int → Int → List Int → List Int → List Int → (List (Int × Int × Int)) → Int → Option (((Int × Int × List Int × List Int × List Int × Unit) × (Int × Int × List Int × List Int × List Int × Unit) × (List (Int × Int × Int)) × Unit) ⊕ Empty)
  | 0, _, _, _, _, _, _, _, _, _, _, _, _ => none
  | n + 1, v_m_0, v_m_1, v_m_2, v_m_3, v_m_4, v_t2_0, v_t2_1, v_t2_2, v_t2_3, v_t2_4, v_l, v_k =>
    bif decide (v_k < (v_l.length : Int)) then
      if (0 : Int) ≤ v_k ∧ v_k < (v_l.length : Int) then
      if (0 : Int) ≤ v_k ∧ v_k < (v_l.length : Int) then
      if (0 : Int) ≤ v_k ∧ v_k < (v_l.length : Int) then
      if (0 : Int) ≤ v_k ∧ v_k < ((v_l.set (0 + v_k.toNat) ((v_l.getD (0 + v_k.toNat) (0, (0, 0))).2.1, ((v_l.getD (0 + v_k.toNat) (0, (0, 0))).2.1, (v_l.getD (0 + v_k.toNat) (0, (0, 0))).2.2))).length : Int) then
      g17_L0 m n v_m_0 v_m_1 v_m_2 v_m_3 v_m_4 v_t2_0 v_t2_1 v_t2_2 v_t2_3 v_t2_4 ((v_l.set (0 + v_k.toNat) ((v_l.getD (0 + v_k.toNat) (0, (0, 0))).2.1, ((v_l.getD (0 + v_k.toNat) (0, (0, 0))).2.1, (v_l.getD (0 + v_k.toNat) (0, (0, 0))).2.2))).set (0 + v_k.toNat) (((v_l.set (0 + v_k.toNat) ((v_l.getD (0 + v_k.toNat) (0, (0, 0))).2.1, ((v_l.getD (0 + v_k.toNat) (0, (0, 0))).2.1, (v_l.getD (0 + v_k.toNat) (0, (0, 0))).2.2))).getD (0 + v_k.toNat) (0, (0, 0))).1, ((v_l.getD (0 + v_k.toNat) (0, (0, 0))).1, ((v_l.set (0 + v_k.toNat) ((v_l.getD (0 + v_k.toNat) (0, (0, 0))).2.1, ((v_l.getD (0 + v_k.toNat) (0, (0, 0))).2.1, (v_l.getD (0 + v_k.toNat) (0, (0, 0))).2.2))).getD (0 + v_k.toNat) (0, (0, 0))).2.2))) (w_i64 (v_k + 1))
      else none
      else none
      else none
      else none
    else
      some (.inl ((v_m_0, v_m_1, v_m_2, v_m_3, v_m_4, ()), (v_t2_0, v_t2_1, v_t2_2, v_t2_3, v_t2_4, ()), v_l, ()))
def g17 (m : Nat) (v_m_0 : Int) (v_m_1 : Int) (v_m_2 : List Int) (v_m_3 : List Int) (v_m_4 : List Int) : Option (((Int × Int × List Int × List Int × List Int × Unit) × Int × Unit) × Unit × Unit) :=
  (g42 m v_m_0 v_m_1 v_m_2 v_m_3 v_m_4).bind fun y1 =>
  bif y1.1 != 0 then
    some (((0, 0, ([] : List Int), ([] : List Int), ([] : List Int), ()), y1.1, ()), ((), ()))
  else
    (g43 m v_m_0 v_m_1 v_m_2 v_m_3 v_m_4).bind fun y2 =>
    (g17_L0 m m v_m_0 v_m_1 v_m_2 v_m_3 v_m_4 0 0 ([] : List Int) ([] : List Int) ([] : List Int) y2.1 0).bind fun y3 =>
    match y3 with
    | .inl z4 =>
      (g30 m z4.1.2.1 z4.1.1 z4.2.2.1).bind fun y5 =>
      some (((y5.1.1, y5.1.2.1, y5.1.2.2.1, y5.1.2.2.2.1, y5.1.2.2.2.2.1, ()), 0, ()), ((), ()))
    | .inr e =>
      e.elim
/-! 18 sparse/matrix.Lower -/
def g18_L0 (m : Nat) : Nat → Int → Int → List Int → List Int → List Int → Int → Int → List Int → List Int → List Int → (List (Int × Int × Int)) → (List (Int × Int × Int)) → Int → Int → Option (((Int × Int × List Int × List Int × List Int × Unit) × (Int × Int × List Int × List Int × List Int × Unit) × (List (Int × Int × Int)) × Unit) ⊕ Empty)
  | 0, _, _, _, _, _, _, _, _, _, _, _, _, _, _ => none
  | n + 1, v_m_0, v_m_1, v_m_2, v_m_3, v_m_4, v_t2_0, v_t2_1, v_t2_2, v_t2_3, v_t2_4, v_out, v_t15, v_t16, v_t17 =>
    bif decide (v_t17 < v_t16) then
      if (0 : Int) ≤ v_t17 ∧ v_t17 < (v_t15.length : Int) then
      bif decide ((v_t15.getD (0 + v_t17.toNat) (0, (0, 0))).1 ≥ (v_t15.getD (0 + v_t17.toNat) (0, (0, 0))).2.1) then
        if v_out.length + ([((v_t15.getD (0 + v_t17.toNat) (0, (0, 0))).1, ((v_t15.getD (0 + v_t17.toNat) (0, (0, 0))).2.1, (v_t15.getD (0 + v_t17.toNat) (0, (0, 0))).2.2))] : List (Int × Int × Int)).length ≤ 1073741824 then
        g18_L0 m n v_m_0 v_m_1 v_m_2 v_m_3 v_m_4 v_t2_0 v_t2_1 v_t2_2 v_t2_3 v_t2_4 (v_out ++ ([((v_t15.getD (0 + v_t17.toNat) (0, (0, 0))).1, ((v_t15.getD (0 + v_t17.toNat) (0, (0, 0))).2.1, (v_t15.getD (0 + v_t17.toNat) (0, (0, 0))).2.2))] : List (Int × Int × Int))) v_t15 v_t16 (w_i64 (v_t17 + 1))
        else none
      else
        g18_L0 m n v_m_0 v_m_1 v_m_2 v_m_3 v_m_4 v_t2_0 v_t2_1 v_t2_2 v_t2_3 v_t2_4 v_out v_t15 v_t16 (w_i64 (v_t17 + 1))
      else none
    else
      some (.inl ((v_m_0, v_m_1, v_m_2, v_m_3, v_m_4, ()), (v_t2_0, v_t2_1, v_t2_2, v_t2_3, v_t2_4, ()), v_out, ()))
def g18 (m : Nat) (v_m_0 : Int) (v_m_1 : Int) (v_m_2 : List Int) (v_m_3 : List Int) (v_m_4 : List Int) : Option (((Int × Int × List Int × List Int × List Int × Unit) × Int × Unit) × Unit × Unit) :=
  (g28 m v_m_0 v_m_1 v_m_2 v_m_3 v_m_4).bind fun y1 =>
  bif y1.1 != 0 then
    some (((0, 0, ([] : List Int), ([] : List Int), ([] : List Int), ()), y1.1, ()), ((), ()))
  else
    (g38 m v_m_0 v_m_1 v_m_2 v_m_3 v_m_4).bind fun y2 =>
    (g18_L0 m m v_m_0 v_m_1 v_m_2 v_m_3 v_m_4 0 0 ([] : List Int) ([] : List Int) ([] : List Int) ([] : List (Int × Int × Int)) y2.1 (y2.1.length : Int) 0).bind fun y3 =>
    match y3 with
    | .inl z4 =>
      (g37 m z4.1.1 z4.1.2.1 z4.2.2.1).bind fun y5 =>
      some (((y5.1.1, y5.1.2.1, y5.1.2.2.1, y5.1.2.2.2.1, y5.1.2.2.2.2.1, ()), 0, ()), ((), ()))
    | .inr e =>
      e.elim
/-! 19 sparse/sparseref09.Lower -/
def g19_L0 (m : Nat) : Nat → Int → Int → List Int → List Int → List Int → Int → Int → List Int → List Int → List Int → (List (Int × Int × Int)) → (List (Int × Int × Int)) → Int → Option (((Int × Int × List Int × List Int × List Int × Unit) × (Int × Int × List Int × List Int × List Int × Unit) × (List (Int × Int × Int)) × Unit) ⊕ Empty)
  | 0, _, _, _, _, _, _, _, _, _, _, _, _, _ => none
  | n + 1, v_m_0, v_m_1, v_m_2, v_m_3, v_m_4, v_t2_0, v_t2_1, v_t2_2, v_t2_3, v_t2_4, v_out, v_l, v_k =>
    bif decide (v_k < (v_l.length : Int)) then
      if (0 : Int) ≤ v_k ∧ v_k < (v_l.length : Int) then
      if (0 : Int) ≤ v_k ∧ v_k < (v_l.length : Int) then
      bif decide ((v_l.getD (0 + v_k.toNat) (0, (0, 0))).1 ≥ (v_l.getD (0 + v_k.toNat) (0, (0, 0))).2.1) then
        if (0 : Int) ≤ v_k ∧ v_k < (v_l.length : Int) then
        if v_out.length + ([((v_l.getD (0 + v_k.toNat) (0, (0, 0))).1, ((v_l.getD (0 + v_k.toNat) (0, (0, 0))).2.1, (v_l.getD (0 + v_k.toNat) (0, (0, 0))).2.2))] : List (Int × Int × Int)).length ≤ 1073741824 then
        g19_L0 m n v_m_0 v_m_1 v_m_2 v_m_3 v_m_4 v_t2_0 v_t2_1 v_t2_2 v_t2_3 v_t2_4 (v_out ++ ([((v_l.getD (0 + v_k.toNat) (0, (0, 0))).1, ((v_l.getD (0 + v_k.toNat) (0, (0, 0))).2.1, (v_l.getD (0 + v_k.toNat) (0, (0, 0))).2.2))] : List (Int × Int × Int))) v_l (w_i64 (v_k + 1))
        else none
        else none
      else
        g19_L0 m n v_m_0 v_m_1 v_m_2 v_m_3 v_m_4 v_t2_0 v_t2_1 v_t2_2 v_t2_3 v_t2_4 v_out v_l (w_i64 (v_k + 1))
      else none
      else none
    else
      some (.inl ((v_m_0, v_m_1, v_m_2, v_m_3, v_m_4, ()), (v_t2_0, v_t2_1, v_t2_2, v_t2_3, v_t2_4, ()), v_out, ()))
def g19 (m : Nat) (v_m_0 : Int) (v_m_1 : Int) (v_m_2 : List Int) (v_m_3 : List Int) (v_m_4 : List Int) : Option (((Int × Int × List Int × List Int × List Int × Unit) × Int × Unit) × Unit × Unit) :=
  (g42 m v_m_0 v_m_1 v_m_2 v_m_3 v_m_4).bind fun y1 =>
  bif y1.1 != 0 then
    some (((0, 0, ([] : List Int), ([] : List Int), ([] : List Int), ()), y1.1, ()), ((), ()))
  else
    (g43 m v_m_0 v_m_1 v_m_2 v_m_3 v_m_4).bind fun y2 =>
    (g19_L0 m m v_m_0 v_m_1 v_m_2 v_m_3 v_m_4 0 0 ([] : List Int) ([] : List Int) ([] : List Int) ([] : List (Int × Int × Int)) y2.1 0).bind fun y3 =>
    match y3 with
    | .inl z4 =>
      (g30 m z4.1.1 z4.1.2.1 z4.2.2.1).bind fun y5 =>
      some (((y5.1.1, y5.1.2.1, y5.1.2.2.1, y5.1.2.2.2.1, y5.1.2.2.2.2.1, ()), 0, ()), ((), ()))
    | .inr e =>
      e.elim
/-! 44 sparse/sparsekit.Perm -/
/-! 78 sparse/sparseref09.Stored -/
/-! 79 sparse/sparseref09.At -/
/-! 45 sparse/sparseref09.pick -/
/-! 20 sparse/sparseref09.Permute -/
/-! 21 sparse/matrix.Select -/
/-! 46 sparse/sparseref09.Range -/
/-! 80 sparse/sparsekit.In -/
/-! 47 sparse/sparseref09.Twice -/
/-! 22 sparse/sparseref09.Select -/
/-! 23 sparse/sparselaw09.alike -/
/-! 4 sparse/sparselaw09.MatrixMoves -/
/-! 48 sparse/sparsemake.At -/
def g48 (m : Nat) (v_l : List Int) (v_i : Int) : Option (Int × Unit × Unit × Unit) :=
  bif decide (v_i < (v_l.length : Int)) then
    if (0 : Int) ≤ v_i ∧ v_i < (v_l.length : Int) then
    some (v_l.getD v_i.toNat 0, ((), (), ()))
    else none
  else
    some (0, ((), (), ()))
/-! 24 sparse/sparsemake.Symmetric -/
def g24_L1 (m : Nat) : Nat → Int → List Int → Int → Int → List Int → List Int → List Int → (List (Int × Int × Int)) → Int → Option ((Int × (Int × Int × List Int × List Int × List Int × Unit) × (List (Int × Int × Int)) × Unit) ⊕ Empty)
  | 0, _, _, _, _, _, _, _, _, _ => none
  | n + 1, v_n, v_t1, v_t4_0, v_t4_1, v_t4_2, v_t4_3, v_t4_4, v_t5, v_t7 =>
    bif decide ((w_i64 (v_t7 + 2)) < (v_t1.length : Int)) then
      bif decide (v_n > 0) then
        if (0 : Int) ≤ v_t7 ∧ v_t7 < (v_t1.length : Int) then
        (g7 m (v_t1.getD v_t7.toNat 0) v_n).bind fun y1 =>
        if (0 : Int) ≤ (w_i64 (v_t7 + 1)) ∧ (w_i64 (v_t7 + 1)) < (v_t1.length : Int) then
        (g7 m (v_t1.getD (w_i64 (v_t7 + 1)).toNat 0) v_n).bind fun y2 =>
        if (0 : Int) ≤ (w_i64 (v_t7 + 2)) ∧ (w_i64 (v_t7 + 2)) < (v_t1.length : Int) then
        (g29 m (v_t1.getD (w_i64 (v_t7 + 2)).toNat 0)).bind fun y3 =>
        bif y1.1 != y2.1 then
          if v_t5.length + ([(y1.1, (y2.1, y3.1)), (y2.1, (y1.1, y3.1))] : List (Int × Int × Int)).length ≤ 1073741824 then
          g24_L1 m n v_n v_t1 v_t4_0 v_t4_1 v_t4_2 v_t4_3 v_t4_4 (v_t5 ++ ([(y1.1, (y2.1, y3.1)), (y2.1, (y1.1, y3.1))] : List (Int × Int × Int))) (w_i64 (v_t7 + 3))
          else none
        else
          g24_L1 m n v_n v_t1 v_t4_0 v_t4_1 v_t4_2 v_t4_3 v_t4_4 v_t5 (w_i64 (v_t7 + 3))
        else none
        else none
        else none
      else
        some (.inl (v_n, (v_t4_0, v_t4_1, v_t4_2, v_t4_3, v_t4_4, ()), v_t5, ()))
    else
      some (.inl (v_n, (v_t4_0, v_t4_1, v_t4_2, v_t4_3, v_t4_4, ()), v_t5, ()))
def g24_L0 (m : Nat) : Nat → Int → List Int → Int → Int → List Int → List Int → List Int → (List (Int × Int × Int)) → Int → Option ((Int × List Int × (Int × Int × List Int × List Int × List Int × Unit) × (List (Int × Int × Int)) × Unit) ⊕ Empty)
  | 0, _, _, _, _, _, _, _, _, _ => none
  | n + 1, v_n, v_t1, v_t4_0, v_t4_1, v_t4_2, v_t4_3, v_t4_4, v_t5, v_t6 =>
    bif decide (v_t6 < v_n) then
      (g48 m v_t1 v_t6).bind fun y1 =>
      (g29 m y1.1).bind fun y2 =>
      if v_t5.length + ([(v_t6, (v_t6, y2.1))] : List (Int × Int × Int)).length ≤ 1073741824 then
      g24_L0 m n v_n v_t1 v_t4_0 v_t4_1 v_t4_2 v_t4_3 v_t4_4 (v_t5 ++ ([(v_t6, (v_t6, y2.1))] : List (Int × Int × Int))) (w_i64 (v_t6 + 1))
      else none
    else
      some (.inl (v_n, v_t1, (v_t4_0, v_t4_1, v_t4_2, v_t4_3, v_t4_4, ()), v_t5, ()))
def g24 (m : Nat) (v_n : Int) (v_t1 : List Int) : Option ((Int × Int × List Int × List Int × List Int × Unit) × Unit × Unit × Unit) :=
  (g24_L0 m m v_n v_t1 0 0 ([] : List Int) ([] : List Int) ([] : List Int) ([] : List (Int × Int × Int)) 0).bind fun y1 =>
  match y1 with
  | .inl z2 =>
    (g24_L1 m m z2.1 z2.2.1 z2.2.2.1.1 z2.2.2.1.2.1 z2.2.2.1.2.2.1 z2.2.2.1.2.2.2.1 z2.2.2.1.2.2.2.2.1 z2.2.2.2.1 z2.1).bind fun y3 =>
    match y3 with
    | .inl z4 =>
      (g30 m z4.1 z4.1 z4.2.2.1).bind fun y5 =>
      some ((y5.1.1, y5.1.2.1, y5.1.2.2.1, y5.1.2.2.2.1, y5.1.2.2.2.2.1, ()), ((), (), ()))
    | .inr e =>
      e.elim
  | .inr e =>
    e.elim
/-! 116 slices.isNaN_int_ -/
def g116 (m : Nat) (v_x : Int) : Option (Bool × Unit × Unit) :=
  some (v_x != v_x, ((), ()))
/-! 81 slices.BinarySearch___int_int_ -/
def g81_L0 (m : Nat) : Nat → List Int → Int → Int → Int → Int → Option ((List Int × Int × Int × Int × Unit) ⊕ Empty)
  | 0, _, _, _, _, _ => none
  | n + 1, v_x, v_target, v_n, v_i, v_j =>
    bif decide (v_i < v_j) then
      if (0 : Int) ≤ (w_i64 (shr_ .u64 (w_u64 (w_i64 (v_i + v_j))) 1)) ∧ (w_i64 (shr_ .u64 (w_u64 (w_i64 (v_i + v_j))) 1)) < (v_x.length : Int) then
      (g115 m (v_x.getD (w_i64 (shr_ .u64 (w_u64 (w_i64 (v_i + v_j))) 1)).toNat 0) v_target).bind fun y1 =>
      bif y1.1 then
        g81_L0 m n v_x v_target v_n (w_i64 ((w_i64 (shr_ .u64 (w_u64 (w_i64 (v_i + v_j))) 1)) + 1)) v_j
      else
        g81_L0 m n v_x v_target v_n v_i (w_i64 (shr_ .u64 (w_u64 (w_i64 (v_i + v_j))) 1))
      else none
    else
      some (.inl (v_x, v_target, v_n, v_i, ()))
def g81 (m : Nat) (v_x : List Int) (v_target : Int) : Option ((Int × Bool × Unit) × Unit × Unit × Unit) :=
  (g81_L0 m m v_x v_target (v_x.length : Int) 0 (v_x.length : Int)).bind fun y1 =>
  match y1 with
  | .inl z2 =>
    bif decide (z2.2.2.2.1 < z2.2.2.1) then
      if (0 : Int) ≤ z2.2.2.2.1 ∧ z2.2.2.2.1 < (z2.1.length : Int) then
      bif (z2.1.getD z2.2.2.2.1.toNat 0) == z2.2.1 then
        some ((z2.2.2.2.1, true, ()), ((), (), ()))
      else
        if (0 : Int) ≤ z2.2.2.2.1 ∧ z2.2.2.2.1 < (z2.1.length : Int) then
        (g116 m (z2.1.getD z2.2.2.2.1.toNat 0)).bind fun y3 =>
        bif y3.1 then
          (g116 m z2.2.1).bind fun y4 =>
          some ((z2.2.2.2.1, y4.1, ()), ((), (), ()))
        else
          some ((z2.2.2.2.1, false, ()), ((), (), ()))
        else none
      else none
    else
      some ((z2.2.2.2.1, false, ()), ((), (), ()))
  | .inr e =>
    e.elim
/-! 49 sparse/matrix.at -/
def g49 (m : Nat) (v_m_0 : Int) (v_m_1 : Int) (v_m_2 : List Int) (v_m_3 : List Int) (v_m_4 : List Int) (v_i : Int) (v_j : Int) : Option ((Int × Bool × Unit) × Unit × Unit × Unit × Unit) :=
  if (0 : Int) ≤ v_j ∧ v_j < (v_m_2.length : Int) then
  if (0 : Int) ≤ (w_i64 (v_j + 1)) ∧ (w_i64 (v_j + 1)) < (v_m_2.length : Int) then
  if (0 : Int) ≤ (v_m_2.getD v_j.toNat 0) ∧ (v_m_2.getD v_j.toNat 0) ≤ (v_m_2.getD (w_i64 (v_j + 1)).toNat 0) ∧ (v_m_2.getD (w_i64 (v_j + 1)).toNat 0) ≤ (v_m_3.length : Int) then
  (g81 m ((v_m_3.drop (v_m_2.getD v_j.toNat 0).toNat).take ((v_m_2.getD (w_i64 (v_j + 1)).toNat 0).toNat - (v_m_2.getD v_j.toNat 0).toNat)) v_i).bind fun y1 =>
  bif !y1.1.2.1 then
    some ((0, false, ()), ((), (), (), ()))
  else
    if (0 : Int) ≤ v_j ∧ v_j < (v_m_2.length : Int) then
    if (0 : Int) ≤ (w_i64 ((v_m_2.getD v_j.toNat 0) + y1.1.1)) ∧ (w_i64 ((v_m_2.getD v_j.toNat 0) + y1.1.1)) < (v_m_4.length : Int) then
    some ((v_m_4.getD (w_i64 ((v_m_2.getD v_j.toNat 0) + y1.1.1)).toNat 0, true, ()), ((), (), (), ()))
    else none
    else none
  else none
  else none
  else none
/-! 117 sparse/float.Kind -/
def g117 (m : Nat) (v_f : Int) : Option (Int × Unit × Unit) :=
  (g59 m v_f).bind fun y1 =>
  bif y1.1.1 == 2047 then
    bif y1.1.2.1 != 0 then
      some (3, ((), ()))
    else
      bif y1.1.1 == 2047 then
        some (2, ((), ()))
      else
        bif y1.1.1 == 0 then
          bif y1.1.2.1 == 0 then
            some (0, ((), ()))
          else
            some (1, ((), ()))
        else
          some (1, ((), ()))
  else
    bif y1.1.1 == 2047 then
      some (2, ((), ()))
    else
      bif y1.1.1 == 0 then
        bif y1.1.2.1 == 0 then
          some (0, ((), ()))
        else
          some (1, ((), ()))
      else
        some (1, ((), ()))
/-! 82 sparse/float.nan -/
def g82_L0 (m : Nat) : Nat → List Int → Int → Int → Option ((Bool × Unit) ⊕ Unit ⊕ Empty)
  | 0, _, _, _ => none
  | n + 1, v_t5, v_t6, v_t7 =>
    bif decide (v_t7 < v_t6) then
      if (0 : Int) ≤ v_t7 ∧ v_t7 < (v_t5.length : Int) then
      (g117 m (v_t5.getD v_t7.toNat 0)).bind fun y1 =>
      bif y1.1 == 3 then
        some (.inl (true, ()))
      else
        g82_L0 m n v_t5 v_t6 (w_i64 (v_t7 + 1))
      else none
    else
      some (.inr (.inl ()))
def g82 (m : Nat) (v_l : List Int) : Option (Bool × Unit × Unit) :=
  (g82_L0 m m v_l (v_l.length : Int) 0).bind fun y1 =>
  match y1 with
  | .inl z2 =>
    some (z2.1, ((), ()))
  | .inr (.inl z3) =>
    some (false, ((), ()))
  | .inr (.inr e) =>
    e.elim
/-! 83 sparse/float.place -/
def g83 (m : Nat) (v_f : Int) : Option (Int × Unit × Unit) :=
  (g66 m v_f).bind fun y1 =>
  bif y1.1 then
    some (w_i64 (0 - (w_i64 (b_andNot_ .u64 v_f 9223372036854775808))), ((), ()))
  else
    some (w_i64 (b_andNot_ .u64 v_f 9223372036854775808), ((), ()))
/-! 50 sparse/float.Cmp -/
def g50 (m : Nat) (v_a : Int) (v_b : Int) : Option ((Int × Bool × Unit) × Unit × Unit × Unit) :=
  (g82 m ([v_a, v_b] : List Int)).bind fun y1 =>
  bif y1.1 then
    some ((0, false, ()), ((), (), ()))
  else
    (g83 m v_a).bind fun y2 =>
    (g83 m v_b).bind fun y3 =>
    bif decide (y2.1 < y3.1) then
      some (((-1), true, ()), ((), (), ()))
    else
      bif decide (y2.1 > y3.1) then
        some ((1, true, ()), ((), (), ()))
      else
        some ((0, true, ()), ((), (), ()))
/-! 25 sparse/matrix.Symmetric -/
def g25_L0 (m : Nat) : Nat → Int → Int → List Int → List Int → List Int → (List (Int × Int × Int)) → Int → Int → Option ((Bool × Unit) ⊕ Unit ⊕ Empty)
  | 0, _, _, _, _, _, _, _, _ => none
  | n + 1, v_m_0, v_m_1, v_m_2, v_m_3, v_m_4, v_t20, v_t21, v_t22 =>
    bif decide (v_t22 < v_t21) then
      if (0 : Int) ≤ v_t22 ∧ v_t22 < (v_t20.length : Int) then
      (g49 m v_m_0 v_m_1 v_m_2 v_m_3 v_m_4 (v_t20.getD (0 + v_t22.toNat) (0, (0, 0))).2.1 (v_t20.getD (0 + v_t22.toNat) (0, (0, 0))).1).bind fun y1 =>
      (g50 m (v_t20.getD (0 + v_t22.toNat) (0, (0, 0))).2.2 y1.1.1).bind fun y2 =>
      bif y2.1.1 != 0 then
        some (.inl (false, ()))
      else
        g25_L0 m n v_m_0 v_m_1 v_m_2 v_m_3 v_m_4 v_t20 v_t21 (w_i64 (v_t22 + 1))
      else none
    else
      some (.inr (.inl ()))
def g25 (m : Nat) (v_m_0 : Int) (v_m_1 : Int) (v_m_2 : List Int) (v_m_3 : List Int) (v_m_4 : List Int) : Option (Bool × Unit × Unit) :=
  (g28 m v_m_0 v_m_1 v_m_2 v_m_3 v_m_4).bind fun y1 =>
  bif y1.1 != 0 then
    some (false, ((), ()))
  else
    bif v_m_0 != v_m_1 then
      some (false, ((), ()))
    else
      (g38 m v_m_0 v_m_1 v_m_2 v_m_3 v_m_4).bind fun y2 =>
      (g25_L0 m m v_m_0 v_m_1 v_m_2 v_m_3 v_m_4 y2.1 (y2.1.length : Int) 0).bind fun y3 =>
      match y3 with
      | .inl z4 =>
        some (z4.1, ((), ()))
      | .inr (.inl z5) =>
        some (true, ((), ()))
      | .inr (.inr e) =>
        e.elim
/-! 5 sparse/sparselaw09.MatrixTriangles -/
def sparselaw09_MatrixTriangles_L0 (m : Nat) : Nat → Int → Int → Int → List Int → List Int → List Int → (List (Int × Int × Int)) → (List (Int × Int × Int)) → Int → Option ((Bool × Unit) ⊕ (Int × (Int × Int × List Int × List Int × List Int × Unit) × (List (Int × Int × Int)) × Unit) ⊕ Empty)
  | 0, _, _, _, _, _, _, _, _, _ => none
  | n + 1, v_n, v_t5_0, v_t5_1, v_t5_2, v_t5_3, v_t5_4, v_t10, v_t11, v_t12 =>
    bif decide (v_t12 < (v_t10.length : Int)) then
      if (0 : Int) ≤ v_t12 ∧ v_t12 < (v_t10.length : Int) then
      bif decide ((v_t10.getD (0 + v_t12.toNat) (0, (0, 0))).1 < (v_t10.getD (0 + v_t12.toNat) (0, (0, 0))).2.1) then
        some (.inl (false, ()))
      else
        if v_t11.length + ([((v_t10.getD (0 + v_t12.toNat) (0, (0, 0))).1, ((v_t10.getD (0 + v_t12.toNat) (0, (0, 0))).2.1, (v_t10.getD (0 + v_t12.toNat) (0, (0, 0))).2.2))] : List (Int × Int × Int)).length ≤ 1073741824 then
        bif (v_t10.getD (0 + v_t12.toNat) (0, (0, 0))).1 != (v_t10.getD (0 + v_t12.toNat) (0, (0, 0))).2.1 then
          if (v_t11 ++ ([((v_t10.getD (0 + v_t12.toNat) (0, (0, 0))).1, ((v_t10.getD (0 + v_t12.toNat) (0, (0, 0))).2.1, (v_t10.getD (0 + v_t12.toNat) (0, (0, 0))).2.2))] : List (Int × Int × Int))).length + ([((v_t10.getD (0 + v_t12.toNat) (0, (0, 0))).2.1, ((v_t10.getD (0 + v_t12.toNat) (0, (0, 0))).1, (v_t10.getD (0 + v_t12.toNat) (0, (0, 0))).2.2))] : List (Int × Int × Int)).length ≤ 1073741824 then
          sparselaw09_MatrixTriangles_L0 m n v_n v_t5_0 v_t5_1 v_t5_2 v_t5_3 v_t5_4 v_t10 ((v_t11 ++ ([((v_t10.getD (0 + v_t12.toNat) (0, (0, 0))).1, ((v_t10.getD (0 + v_t12.toNat) (0, (0, 0))).2.1, (v_t10.getD (0 + v_t12.toNat) (0, (0, 0))).2.2))] : List (Int × Int × Int))) ++ ([((v_t10.getD (0 + v_t12.toNat) (0, (0, 0))).2.1, ((v_t10.getD (0 + v_t12.toNat) (0, (0, 0))).1, (v_t10.getD (0 + v_t12.toNat) (0, (0, 0))).2.2))] : List (Int × Int × Int))) (w_i64 (v_t12 + 1))
          else none
        else
          sparselaw09_MatrixTriangles_L0 m n v_n v_t5_0 v_t5_1 v_t5_2 v_t5_3 v_t5_4 v_t10 (v_t11 ++ ([((v_t10.getD (0 + v_t12.toNat) (0, (0, 0))).1, ((v_t10.getD (0 + v_t12.toNat) (0, (0, 0))).2.1, (v_t10.getD (0 + v_t12.toNat) (0, (0, 0))).2.2))] : List (Int × Int × Int))) (w_i64 (v_t12 + 1))
        else none
      else none
    else
      some (.inr (.inl (v_n, (v_t5_0, v_t5_1, v_t5_2, v_t5_3, v_t5_4, ()), v_t11, ())))
def sparselaw09_MatrixTriangles (m : Nat) (v_n : Int) (v_t1 : List Int) : Option (Bool × Unit × Unit × Unit) :=
  bif decide ((v_t1.length : Int) > 60) then
    (sparselaw09_awake m).bind fun y1 =>
    some (y1.1, ((), (), ()))
  else
    (g7 m v_n 7).bind fun y2 =>
    (g24 m y2.1 v_t1).bind fun y3 =>
    (g11 m y3.1.1 y3.1.2.1 y3.1.2.2.1 y3.1.2.2.2.1 y3.1.2.2.2.2.1).bind fun y4 =>
    (g18 m y3.1.1 y3.1.2.1 y3.1.2.2.1 y3.1.2.2.2.1 y3.1.2.2.2.2.1).bind fun y5 =>
    bif y4.1.2.1 != 0 then
      some (false, ((), (), ()))
    else
      bif y5.1.2.1 != 0 then
        some (false, ((), (), ()))
      else
        (g25 m y3.1.1 y3.1.2.1 y3.1.2.2.1 y3.1.2.2.2.1 y3.1.2.2.2.2.1).bind fun y6 =>
        bif !y6.1 then
          some (false, ((), (), ()))
        else
          (g15 m y4.1.1.1 y4.1.1.2.1 y4.1.1.2.2.1 y4.1.1.2.2.2.1 y4.1.1.2.2.2.2.1 y3.1.1 y3.1.2.1 y3.1.2.2.1 y3.1.2.2.2.1 y3.1.2.2.2.2.1).bind fun y7 =>
          bif !y7.1 then
            some (false, ((), (), ()))
          else
            (g10 m y5.1.1.1 y5.1.1.2.1 y5.1.1.2.2.1 y5.1.1.2.2.2.1 y5.1.1.2.2.2.2.1).bind fun y8 =>
            (sparselaw09_MatrixTriangles_L0 m m y2.1 y3.1.1 y3.1.2.1 y3.1.2.2.1 y3.1.2.2.2.1 y3.1.2.2.2.2.1 y8.1 ([] : List (Int × Int × Int)) 0).bind fun y9 =>
            match y9 with
            | .inl z10 =>
              some (z10.1, ((), (), ()))
            | .inr (.inl z11) =>
              (g9 m z11.1 z11.1 z11.2.2.1).bind fun y12 =>
              bif y12.1.2.1 == 0 then
                (g15 m y12.1.1.1 y12.1.1.2.1 y12.1.1.2.2.1 y12.1.1.2.2.2.1 y12.1.1.2.2.2.2.1 z11.2.1.1 z11.2.1.2.1 z11.2.1.2.2.1 z11.2.1.2.2.2.1 z11.2.1.2.2.2.2.1).bind fun y13 =>
                bif y13.1 then
                  (sparselaw09_awake m).bind fun y14 =>
                  some (y14.1, ((), (), ()))
                else
                  some (false, ((), (), ()))
              else
                some (false, ((), (), ()))
            | .inr (.inr e) =>
              e.elim
end Go.Vs.F
