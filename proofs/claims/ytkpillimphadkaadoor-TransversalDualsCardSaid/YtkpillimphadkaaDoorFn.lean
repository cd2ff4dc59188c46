/- The plain functions of the program, as the evaluator computes them (by program: gen.py). -/
import Derived.Test.YtkpillimphadkaaDoorVc

/-! TdFn -/
set_option linter.unusedVariables false
namespace Go.Vs.F
def tab32_0 : List Int := [0, 1, 28, 2, 29, 14, 24, 3, 30, 22, 20, 15, 25, 17, 4, 8, 31, 27, 13, 23, 21, 19, 16, 7, 26, 12, 18, 6, 11, 5, 10, 9]
def tab256_1 : List Int := [0, 1, 2, 2, 3, 3, 3, 3, 4, 4, 4, 4, 4, 4, 4, 4, 5, 5, 5, 5, 5, 5, 5, 5, 5, 5, 5, 5, 5, 5, 5, 5, 6, 6, 6, 6, 6, 6, 6, 6, 6, 6, 6, 6, 6, 6, 6, 6, 6, 6, 6, 6, 6, 6, 6, 6, 6, 6, 6, 6, 6, 6, 6, 6, 7, 7, 7, 7, 7, 7, 7, 7, 7, 7, 7, 7, 7, 7, 7, 7, 7, 7, 7, 7, 7, 7, 7, 7, 7, 7, 7, 7, 7, 7, 7, 7, 7, 7, 7, 7, 7, 7, 7, 7, 7, 7, 7, 7, 7, 7, 7, 7, 7, 7, 7, 7, 7, 7, 7, 7, 7, 7, 7, 7, 7, 7, 7, 7, 8, 8, 8, 8, 8, 8, 8, 8, 8, 8, 8, 8, 8, 8, 8, 8, 8, 8, 8, 8, 8, 8, 8, 8, 8, 8, 8, 8, 8, 8, 8, 8, 8, 8, 8, 8, 8, 8, 8, 8, 8, 8, 8, 8, 8, 8, 8, 8, 8, 8, 8, 8, 8, 8, 8, 8, 8, 8, 8, 8, 8, 8, 8, 8, 8, 8, 8, 8, 8, 8, 8, 8, 8, 8, 8, 8, 8, 8, 8, 8, 8, 8, 8, 8, 8, 8, 8, 8, 8, 8, 8, 8, 8, 8, 8, 8, 8, 8, 8, 8, 8, 8, 8, 8, 8, 8, 8, 8, 8, 8, 8, 8, 8, 8, 8, 8, 8, 8, 8, 8, 8, 8, 8, 8, 8, 8, 8, 8]
/-! 38 sparse/matrix.within -/
def g38 (m : Nat) (v_n : Int) (v_lo : Int) (v_hi : Int) : Option (Bool × Unit × Unit × Unit × Unit) :=
  bif decide (v_n ≥ v_lo) then
    some (decide (v_n ≤ v_hi), ((), (), (), ()))
  else
    some (false, ((), (), (), ()))
/-! 90 cmp.isNaN_int_ -/
def g90 (m : Nat) (v_x : Int) : Option (Bool × Unit × Unit) :=
  some (v_x != v_x, ((), ()))
/-! 77 cmp.Less_int_ -/
def g77 (m : Nat) (v_x : Int) (v_y : Int) : Option (Bool × Unit × Unit × Unit) :=
  (g90 m v_x).bind fun y1 =>
  bif y1.1 then
    (g90 m v_y).bind fun y2 =>
    bif !y2.1 then
      some (true, ((), (), ()))
    else
      some (decide (v_x < v_y), ((), (), ()))
  else
    some (decide (v_x < v_y), ((), (), ()))
/-! 58 slices.IsSorted___int_int_ -/
def g58_L0 (m : Nat) : Nat → List Int → Int → Option ((Bool × Unit) ⊕ Unit ⊕ Empty)
  | 0, _, _ => none
  | n + 1, v_x, v_i =>
    bif decide (v_i > 0) then
      if (0 : Int) ≤ v_i ∧ v_i < (v_x.length : Int) then
      if (0 : Int) ≤ (w_i64 (v_i - 1)) ∧ (w_i64 (v_i - 1)) < (v_x.length : Int) then
      (g77 m (v_x.getD v_i.toNat 0) (v_x.getD (w_i64 (v_i - 1)).toNat 0)).bind fun y1 =>
      bif y1.1 then
        some (.inl (false, ()))
      else
        g58_L0 m n v_x (w_i64 (v_i - 1))
      else none
      else none
    else
      some (.inr (.inl ()))
def g58 (m : Nat) (v_x : List Int) : Option (Bool × Unit × Unit) :=
  (g58_L0 m m v_x (w_i64 ((v_x.length : Int) - 1))).bind fun y1 =>
  match y1 with
  | .inl z2 =>
    some (z2.1, ((), ()))
  | .inr (.inl z3) =>
    some (true, ((), ()))
  | .inr (.inr e) =>
    e.elim
/-! 39 sparse/matrix.columns -/
def g39_L1 (m : Nat) : Nat → Int → Int → List Int → List Int → List Int → Int → Int → Int → List Int → Int → Int → Option ((Bool × Unit) ⊕ ((Int × Int × List Int × List Int × List Int × Unit) × Int × Int × Unit) ⊕ Empty)
  | 0, _, _, _, _, _, _, _, _, _, _, _ => none
  | n + 1, v_t1_0, v_t1_1, v_t1_2, v_t1_3, v_t1_4, v_t4, v_t49, v_t50, v_t66, v_t67, v_t68 =>
    bif decide (v_t68 < v_t67) then
      if (0 : Int) ≤ v_t68 ∧ v_t68 < (v_t66.length : Int) then
      bif decide ((v_t66.getD v_t68.toNat 0) ≤ v_t4) then
        some (.inl (false, ()))
      else
        bif decide ((v_t66.getD v_t68.toNat 0) ≥ v_t1_0) then
          some (.inl (false, ()))
        else
          g39_L1 m n v_t1_0 v_t1_1 v_t1_2 v_t1_3 v_t1_4 (v_t66.getD v_t68.toNat 0) v_t49 v_t50 v_t66 v_t67 (w_i64 (v_t68 + 1))
      else none
    else
      some (.inr (.inl ((v_t1_0, v_t1_1, v_t1_2, v_t1_3, v_t1_4, ()), v_t49, v_t50, ())))
def g39_L0 (m : Nat) : Nat → Int → Int → List Int → List Int → List Int → Int → Int → Option ((Bool × Unit) ⊕ Unit ⊕ Empty)
  | 0, _, _, _, _, _, _, _ => none
  | n + 1, v_t1_0, v_t1_1, v_t1_2, v_t1_3, v_t1_4, v_t49, v_t50 =>
    bif decide (v_t50 < v_t49) then
      if (0 : Int) ≤ v_t50 ∧ v_t50 < (v_t1_2.length : Int) then
      if (0 : Int) ≤ (w_i64 (v_t50 + 1)) ∧ (w_i64 (v_t50 + 1)) < (v_t1_2.length : Int) then
      if (0 : Int) ≤ (v_t1_2.getD v_t50.toNat 0) ∧ (v_t1_2.getD v_t50.toNat 0) ≤ (v_t1_2.getD (w_i64 (v_t50 + 1)).toNat 0) ∧ (v_t1_2.getD (w_i64 (v_t50 + 1)).toNat 0) ≤ (v_t1_3.length : Int) then
      (g39_L1 m m v_t1_0 v_t1_1 v_t1_2 v_t1_3 v_t1_4 (-1) v_t49 v_t50 ((v_t1_3.drop (v_t1_2.getD v_t50.toNat 0).toNat).take ((v_t1_2.getD (w_i64 (v_t50 + 1)).toNat 0).toNat - (v_t1_2.getD v_t50.toNat 0).toNat)) (((v_t1_3.drop (v_t1_2.getD v_t50.toNat 0).toNat).take ((v_t1_2.getD (w_i64 (v_t50 + 1)).toNat 0).toNat - (v_t1_2.getD v_t50.toNat 0).toNat)).length : Int) 0).bind fun y1 =>
      match y1 with
      | .inl z2 =>
        some (.inl (z2.1, ()))
      | .inr (.inl z3) =>
        g39_L0 m n z3.1.1 z3.1.2.1 z3.1.2.2.1 z3.1.2.2.2.1 z3.1.2.2.2.2.1 z3.2.1 (w_i64 (z3.2.2.1 + 1))
      | .inr (.inr e) =>
        e.elim
      else none
      else none
      else none
    else
      some (.inr (.inl ()))
def g39 (m : Nat) (v_m_0 : Int) (v_m_1 : Int) (v_m_2 : List Int) (v_m_3 : List Int) (v_m_4 : List Int) : Option (Bool × Unit × Unit) :=
  bif (v_m_2.length : Int) != (w_i64 (v_m_1 + 1)) then
    some (false, ((), ()))
  else
    if (0 : Int) ≤ 0 ∧ 0 < (v_m_2.length : Int) then
    bif (v_m_2.getD 0 0) != 0 then
      some (false, ((), ()))
    else
      (g58 m v_m_2).bind fun y1 =>
      bif !y1.1 then
        some (false, ((), ()))
      else
        if (0 : Int) ≤ v_m_1 ∧ v_m_1 < (v_m_2.length : Int) then
        bif (v_m_2.getD v_m_1.toNat 0) != (v_m_3.length : Int) then
          some (false, ((), ()))
        else
          bif (v_m_3.length : Int) != (v_m_4.length : Int) then
            some (false, ((), ()))
          else
            (g39_L0 m m v_m_0 v_m_1 v_m_2 v_m_3 v_m_4 v_m_1 0).bind fun y2 =>
            match y2 with
            | .inl z3 =>
              some (z3.1, ((), ()))
            | .inr (.inl z4) =>
              some (true, ((), ()))
            | .inr (.inr e) =>
              e.elim
        else none
    else none
/-! 60 sparse/float.parts -/
def g60 (m : Nat) (v_f : Int) : Option ((Int × Int × Unit) × Unit × Unit) :=
  some ((w_i64 (b_and_ .u64 (shr_ .u64 v_f 52) 2047), b_and_ .u64 v_f 4503599627370495, ()), ((), ()))
/-! 42 sparse/float.IsFinite -/
def g42 (m : Nat) (v_f : Int) : Option (Bool × Unit × Unit) :=
  (g60 m v_f).bind fun y1 =>
  some (y1.1.1 != 2047, ((), ()))
/-! 41 sparse/matrix.Check_1 -/
def g41 (m : Nat) (v_f : Int) : Option (Bool × Unit × Unit) :=
  (g42 m v_f).bind fun y1 =>
  some (!y1.1, ((), ()))
/-! 59 slices.IndexFunc___sparse/api.Float_sparse/api.Float_ -/
def g59_L0 (m : Nat) : Nat → List Int → Int → Int → Option ((Int × Unit) ⊕ Unit ⊕ Empty)
  | 0, _, _, _ => none
  | n + 1, v_s, v_t7, v_t8 =>
    bif decide (v_t8 < v_t7) then
      if (0 : Int) ≤ v_t8 ∧ v_t8 < (v_s.length : Int) then
      (g41 m (v_s.getD v_t8.toNat 0)).bind fun y1 =>
      bif y1.1 then
        some (.inl (v_t8, ()))
      else
        g59_L0 m n v_s v_t7 (w_i64 (v_t8 + 1))
      else none
    else
      some (.inr (.inl ()))
def g59 (m : Nat) (v_s : List Int) : Option (Int × Unit × Unit × Unit) :=
  (g59_L0 m m v_s (v_s.length : Int) 0).bind fun y1 =>
  match y1 with
  | .inl z2 =>
    some (z2.1, ((), (), ()))
  | .inr (.inl z3) =>
    some ((-1), ((), (), ()))
  | .inr (.inr e) =>
    e.elim
/-! 40 slices.ContainsFunc___sparse/api.Float_sparse/api.Float_ -/
def g40 (m : Nat) (v_s : List Int) : Option (Bool × Unit × Unit × Unit) :=
  (g59 m v_s).bind fun y1 =>
  some (decide (y1.1 ≥ 0), ((), (), ()))
/-! 24 sparse/matrix.Check -/
def g24 (m : Nat) (v_m_0 : Int) (v_m_1 : Int) (v_m_2 : List Int) (v_m_3 : List Int) (v_m_4 : List Int) : Option (Int × Unit × Unit) :=
  (g38 m v_m_0 0 200).bind fun y1 =>
  bif !y1.1 then
    some (6, ((), ()))
  else
    (g38 m v_m_1 0 200).bind fun y2 =>
    bif !y2.1 then
      some (6, ((), ()))
    else
      bif decide ((v_m_3.length : Int) > 10000) then
        some (6, ((), ()))
      else
        (g39 m v_m_0 v_m_1 v_m_2 v_m_3 v_m_4).bind fun y3 =>
        bif !y3.1 then
          some (1, ((), ()))
        else
          (g40 m v_m_4).bind fun y4 =>
          bif y4.1 then
            some (4, ((), ()))
          else
            some (0, ((), ()))
/-! 14 sparse/transversal.square -/
def g14 (m : Nat) (v_m_0 : Int) (v_m_1 : Int) (v_m_2 : List Int) (v_m_3 : List Int) (v_m_4 : List Int) : Option (Int × Unit × Unit) :=
  (g24 m v_m_0 v_m_1 v_m_2 v_m_3 v_m_4).bind fun y1 =>
  bif y1.1 == 0 then
    bif v_m_0 != v_m_1 then
      some (5, ((), ()))
    else
      some (y1.1, ((), ()))
  else
    some (y1.1, ((), ()))
/-! 45 sparse/matrix.entries -/
def g45_L1 (m : Nat) : Nat → Int → Int → List Int → List Int → List Int → (List (Int × Int × Int)) → Int → Int → Int → Int → Option (((Int × Int × List Int × List Int × List Int × Unit) × (List (Int × Int × Int)) × Int × Int × Unit) ⊕ Empty)
  | 0, _, _, _, _, _, _, _, _, _, _ => none
  | n + 1, v_m_0, v_m_1, v_m_2, v_m_3, v_m_4, v_out, v_j, v_k, v_t7, v_t8 =>
    if (0 : Int) ≤ (w_i64 (v_j + 1)) ∧ (w_i64 (v_j + 1)) < (v_m_2.length : Int) then
    bif decide (v_k < (v_m_2.getD (w_i64 (v_j + 1)).toNat 0)) then
      if (0 : Int) ≤ v_k ∧ v_k < (v_m_3.length : Int) then
      if (0 : Int) ≤ v_k ∧ v_k < (v_m_4.length : Int) then
      if v_out.length + ([(v_m_3.getD v_k.toNat 0, (v_j, v_m_4.getD v_k.toNat 0))] : List (Int × Int × Int)).length ≤ 1073741824 then
      g45_L1 m n v_m_0 v_m_1 v_m_2 v_m_3 v_m_4 (v_out ++ ([(v_m_3.getD v_k.toNat 0, (v_j, v_m_4.getD v_k.toNat 0))] : List (Int × Int × Int))) v_j (w_i64 (v_k + 1)) v_t7 v_t8
      else none
      else none
      else none
    else
      some (.inl ((v_m_0, v_m_1, v_m_2, v_m_3, v_m_4, ()), v_out, v_t7, v_t8, ()))
    else none
def g45_L0 (m : Nat) : Nat → Int → Int → List Int → List Int → List Int → (List (Int × Int × Int)) → Int → Int → Option (((List (Int × Int × Int)) × Unit) ⊕ Empty)
  | 0, _, _, _, _, _, _, _, _ => none
  | n + 1, v_m_0, v_m_1, v_m_2, v_m_3, v_m_4, v_out, v_t7, v_t8 =>
    bif decide (v_t8 < v_t7) then
      if (0 : Int) ≤ v_t8 ∧ v_t8 < (v_m_2.length : Int) then
      (g45_L1 m m v_m_0 v_m_1 v_m_2 v_m_3 v_m_4 v_out v_t8 (v_m_2.getD v_t8.toNat 0) v_t7 v_t8).bind fun y1 =>
      match y1 with
      | .inl z2 =>
        g45_L0 m n z2.1.1 z2.1.2.1 z2.1.2.2.1 z2.1.2.2.2.1 z2.1.2.2.2.2.1 z2.2.1 z2.2.2.1 (w_i64 (z2.2.2.2.1 + 1))
      | .inr e =>
        e.elim
      else none
    else
      some (.inl (v_out, ()))
def g45 (m : Nat) (v_m_0 : Int) (v_m_1 : Int) (v_m_2 : List Int) (v_m_3 : List Int) (v_m_4 : List Int) : Option ((List (Int × Int × Int)) × Unit × Unit) :=
  (g45_L0 m m v_m_0 v_m_1 v_m_2 v_m_3 v_m_4 ([] : List (Int × Int × Int)) v_m_1 0).bind fun y1 =>
  match y1 with
  | .inl z2 =>
    some (z2.1, ((), ()))
  | .inr e =>
    e.elim
/-! 27 sparse/matrix.Entries -/
def g27 (m : Nat) (v_m_0 : Int) (v_m_1 : Int) (v_m_2 : List Int) (v_m_3 : List Int) (v_m_4 : List Int) : Option ((List (Int × Int × Int)) × Unit × Unit) :=
  (g24 m v_m_0 v_m_1 v_m_2 v_m_3 v_m_4).bind fun y1 =>
  bif y1.1 != 0 then
    some (([] : List (Int × Int × Int)), ((), ()))
  else
    (g45 m v_m_0 v_m_1 v_m_2 v_m_3 v_m_4).bind fun y2 =>
    some (y2.1, ((), ()))
/-! 82 sparse/integer.trim -/
def g82_L0 (m : Nat) : Nat → List Int → Int → Option ((List Int × Int × Unit) ⊕ Empty)
  | 0, _, _ => none
  | n + 1, v_l, v_n =>
    bif decide (v_n > 0) then
      if (0 : Int) ≤ (w_i64 (v_n - 1)) ∧ (w_i64 (v_n - 1)) < (v_l.length : Int) then
      bif (v_l.getD (w_i64 (v_n - 1)).toNat 0) == 0 then
        g82_L0 m n v_l (w_i64 (v_n - 1))
      else
        some (.inl (v_l, v_n, ()))
      else none
    else
      some (.inl (v_l, v_n, ()))
def g82 (m : Nat) (v_l : List Int) : Option (List Int × Unit × Unit) :=
  (g82_L0 m m v_l (v_l.length : Int)).bind fun y1 =>
  match y1 with
  | .inl z2 =>
    if (0 : Int) ≤ 0 ∧ 0 ≤ z2.2.1 ∧ z2.2.1 ≤ (z2.1.length : Int) then
    some (z2.1.take z2.2.1.toNat, ((), ()))
    else none
  | .inr e =>
    e.elim
/-! 84 sparse/integer.big -/
def g84 (m : Nat) (v_neg : Bool) (v_mag : List Int) : Option ((Bool × List Int × Unit) × Unit × Unit × Unit) :=
  (g82 m v_mag).bind fun y1 =>
  bif (y1.1.length : Int) == 0 then
    some ((false, ([] : List Int), ()), ((), (), ()))
  else
    some ((v_neg, y1.1, ()), ((), (), ()))
/-! 64 sparse/integer.FromInt -/
def g64 (m : Nat) (v_n : Int) : Option ((Bool × List Int × Unit) × Unit × Unit) :=
  bif decide (v_n < 0) then
    (g84 m (decide (v_n < 0)) ([w_u32 (b_and_ .u64 (w_u64 (0 - (w_u64 v_n))) 4294967295), w_u32 (shr_ .u64 (w_u64 (0 - (w_u64 v_n))) 32)] : List Int)).bind fun y1 =>
    some ((y1.1.1, y1.1.2.1, ()), ((), ()))
  else
    (g84 m (decide (v_n < 0)) ([w_u32 (b_and_ .u64 (w_u64 v_n) 4294967295), w_u32 (shr_ .u64 (w_u64 v_n) 32)] : List Int)).bind fun y2 =>
    some ((y2.1.1, y2.1.2.1, ()), ((), ()))
/-! 65 sparse/float.negative -/
def g65 (m : Nat) (v_f : Int) : Option (Bool × Unit × Unit) :=
  some ((b_and_ .u64 v_f 9223372036854775808) != 0, ((), ()))
/-! 85 slices.Clone___uint32_uint32_ -/
def g85 (m : Nat) (v_s : List Int) : Option (List Int × Unit × Unit) :=
  if ([] : List Int).length + v_s.length ≤ 1073741824 then some (v_s, ((), ())) else none
/-! 66 sparse/integer.Neg -/
def g66 (m : Nat) (v_a_0 : Bool) (v_a_1 : List Int) : Option ((Bool × List Int × Unit) × Unit × Unit) :=
  (g85 m v_a_1).bind fun y1 =>
  (g84 m (!v_a_0) y1.1).bind fun y2 =>
  some ((y2.1.1, y2.1.2.1, ()), ((), ()))
/-! 78 sparse/dyad.bad -/
def g78 (m : Nat) : Option ((Bool × Bool × List Int × Int × Unit) × Unit) :=
  some ((true, false, ([] : List Int), 0, ()), ())
/-! 79 sparse/integer.Norm -/
def g79 (m : Nat) (v_a_0 : Bool) (v_a_1 : List Int) : Option ((Bool × List Int × Unit) × Unit × Unit) :=
  (g85 m v_a_1).bind fun y1 =>
  (g84 m v_a_0 y1.1).bind fun y2 =>
  some ((y2.1.1, y2.1.2.1, ()), ((), ()))
/-! 62 sparse/integer.Sign -/
def g62 (m : Nat) (v_a_0 : Bool) (v_a_1 : List Int) : Option (Int × Unit × Unit) :=
  (g82 m v_a_1).bind fun y1 =>
  bif (y1.1.length : Int) == 0 then
    some (0, ((), ()))
  else
    bif v_a_0 then
      some ((-1), ((), ()))
    else
      some (1, ((), ()))
/-! 76 math/bits.TrailingZeros32 -/
def g76 (m : Nat) (v_x : Int) : Option (Int × Unit × Unit) :=
  bif v_x == 0 then
    some (32, ((), ()))
  else
    if (0 : Int) ≤ 27 then
    if (0 : Int) ≤ (shr_ .u32 (w_u32 ((b_and_ .u32 v_x (w_u32 (0 - v_x))) * 125613361)) 27) ∧ (shr_ .u32 (w_u32 ((b_and_ .u32 v_x (w_u32 (0 - v_x))) * 125613361)) 27) < (tab32_0.length : Int) then
    some (w_i64 (tab32_0.getD (shr_ .u32 (w_u32 ((b_and_ .u32 v_x (w_u32 (0 - v_x))) * 125613361)) 27).toNat 0), ((), ()))
    else none
    else none
/-! 80 sparse/integer.TrailingZeros -/
def g80_L0 (m : Nat) : Nat → List Int → Int → Int → Option ((Int × Unit) ⊕ Unit ⊕ Empty)
  | 0, _, _, _ => none
  | n + 1, v_t6, v_t7, v_t8 =>
    bif decide (v_t8 < v_t7) then
      if (0 : Int) ≤ v_t8 ∧ v_t8 < (v_t6.length : Int) then
      bif (v_t6.getD v_t8.toNat 0) != 0 then
        (g76 m (v_t6.getD v_t8.toNat 0)).bind fun y1 =>
        some (.inl (w_i64 ((w_i64 (v_t8 * 32)) + y1.1), ()))
      else
        g80_L0 m n v_t6 v_t7 (w_i64 (v_t8 + 1))
      else none
    else
      some (.inr (.inl ()))
def g80 (m : Nat) (v_a_0 : Bool) (v_a_1 : List Int) : Option (Int × Unit × Unit) :=
  (g80_L0 m m v_a_1 (v_a_1.length : Int) 0).bind fun y1 =>
  match y1 with
  | .inl z2 =>
    some (z2.1, ((), ()))
  | .inr (.inl z3) =>
    some (0, ((), ()))
  | .inr (.inr e) =>
    e.elim
/-! 69 math/bits.Len32 -/
def g69 (m : Nat) (v_x : Int) : Option (Int × Unit × Unit) :=
  bif decide (v_x ≥ 65536) then
    bif decide ((shr_ .u32 v_x 16) ≥ 256) then
      if (0 : Int) ≤ (w_u8 (shr_ .u32 (shr_ .u32 v_x 16) 8)) ∧ (w_u8 (shr_ .u32 (shr_ .u32 v_x 16) 8)) < (tab256_1.length : Int) then
      some (w_i64 (24 + (w_i64 (tab256_1.getD (w_u8 (shr_ .u32 (shr_ .u32 v_x 16) 8)).toNat 0))), ((), ()))
      else none
    else
      if (0 : Int) ≤ (w_u8 (shr_ .u32 v_x 16)) ∧ (w_u8 (shr_ .u32 v_x 16)) < (tab256_1.length : Int) then
      some (w_i64 (16 + (w_i64 (tab256_1.getD (w_u8 (shr_ .u32 v_x 16)).toNat 0))), ((), ()))
      else none
  else
    bif decide (v_x ≥ 256) then
      if (0 : Int) ≤ (w_u8 (shr_ .u32 v_x 8)) ∧ (w_u8 (shr_ .u32 v_x 8)) < (tab256_1.length : Int) then
      some (w_i64 (8 + (w_i64 (tab256_1.getD (w_u8 (shr_ .u32 v_x 8)).toNat 0))), ((), ()))
      else none
    else
      if (0 : Int) ≤ (w_u8 v_x) ∧ (w_u8 v_x) < (tab256_1.length : Int) then
      some (w_i64 (0 + (w_i64 (tab256_1.getD (w_u8 v_x).toNat 0))), ((), ()))
      else none
/-! 83 sparse/integer.length -/
def g83 (m : Nat) (v_a : List Int) : Option (Int × Unit × Unit) :=
  bif (v_a.length : Int) == 0 then
    some (0, ((), ()))
  else
    if (0 : Int) ≤ (w_i64 ((v_a.length : Int) - 1)) ∧ (w_i64 ((v_a.length : Int) - 1)) < (v_a.length : Int) then
    (g69 m (v_a.getD (w_i64 ((v_a.length : Int) - 1)).toNat 0)).bind fun y1 =>
    some (w_i64 ((w_i64 ((w_i64 ((v_a.length : Int) - 1)) * 32)) + y1.1), ((), ()))
    else none
/-! 63 sparse/integer.BitLen -/
def g63 (m : Nat) (v_a_0 : Bool) (v_a_1 : List Int) : Option (Int × Unit × Unit) :=
  (g82 m v_a_1).bind fun y1 =>
  (g83 m y1.1).bind fun y2 =>
  some (y2.1, ((), ()))
/-! 92 sparse/integer.up -/
def g92_L0 (m : Nat) : Nat → Int → Int → List Int → List Int → Int → Int → Option ((List Int × Unit) ⊕ Empty)
  | 0, _, _, _, _, _, _ => none
  | n + 1, v_whole, v_part, v_out, v_t25, v_t26, v_t27 =>
    bif decide (v_t27 < v_t26) then
      if (0 : Int) ≤ v_t27 ∧ v_t27 < (v_t25.length : Int) then
      if (0 : Int) ≤ v_part then
      if (0 : Int) ≤ (w_i64 (v_whole + v_t27)) ∧ (w_i64 (v_whole + v_t27)) < (v_out.length : Int) then
      if (0 : Int) ≤ (w_i64 (v_whole + v_t27)) ∧ (w_i64 (v_whole + v_t27)) < (v_out.length : Int) then
      if (0 : Int) ≤ (w_i64 ((w_i64 (v_whole + v_t27)) + 1)) ∧ (w_i64 ((w_i64 (v_whole + v_t27)) + 1)) < ((v_out.set (0 + (w_i64 (v_whole + v_t27)).toNat) (b_or_ .u32 (v_out.getD (0 + (w_i64 (v_whole + v_t27)).toNat) 0) (w_u32 (b_and_ .u64 (shl_ .u64 (w_u64 (v_t25.getD v_t27.toNat 0)) v_part) 4294967295)))).length : Int) then
      g92_L0 m n v_whole v_part ((v_out.set (0 + (w_i64 (v_whole + v_t27)).toNat) (b_or_ .u32 (v_out.getD (0 + (w_i64 (v_whole + v_t27)).toNat) 0) (w_u32 (b_and_ .u64 (shl_ .u64 (w_u64 (v_t25.getD v_t27.toNat 0)) v_part) 4294967295)))).set (0 + (w_i64 ((w_i64 (v_whole + v_t27)) + 1)).toNat) (w_u32 (shr_ .u64 (shl_ .u64 (w_u64 (v_t25.getD v_t27.toNat 0)) v_part) 32))) v_t25 v_t26 (w_i64 (v_t27 + 1))
      else none
      else none
      else none
      else none
      else none
    else
      some (.inl (v_out, ()))
def g92 (m : Nat) (v_a : List Int) (v_n : Int) : Option (List Int × Unit × Unit × Unit) :=
  bif (v_a.length : Int) == 0 then
    some (([] : List Int), ((), (), ()))
  else
    if (0 : Int) ≤ (w_i64 ((w_i64 ((w_i64 (Int.tdiv v_n 32)) + (v_a.length : Int))) + 1)) ∧ (w_i64 ((w_i64 ((w_i64 (Int.tdiv v_n 32)) + (v_a.length : Int))) + 1)) ≤ (w_i64 ((w_i64 ((w_i64 (Int.tdiv v_n 32)) + (v_a.length : Int))) + 1)) ∧ (w_i64 ((w_i64 ((w_i64 (Int.tdiv v_n 32)) + (v_a.length : Int))) + 1)) ≤ 1073741824 then
    (g92_L0 m m (w_i64 (Int.tdiv v_n 32)) (w_u64 (Int.tmod v_n 32)) (List.replicate (w_i64 ((w_i64 ((w_i64 (Int.tdiv v_n 32)) + (v_a.length : Int))) + 1)).toNat (0 : Int)) v_a (v_a.length : Int) 0).bind fun y1 =>
    match y1 with
    | .inl z2 =>
      (g82 m z2.1).bind fun y3 =>
      some (y3.1, ((), (), ()))
    | .inr e =>
      e.elim
    else none
/-! 96 sparse/integer.down_1 -/
def g96 (m : Nat) (v_x : Int) : Option (Bool × Unit × Unit) :=
  some (v_x != 0, ((), ()))
/-! 97 slices.IndexFunc___uint32_uint32_ -/
def g97_L0 (m : Nat) : Nat → List Int → Int → Int → Option ((Int × Unit) ⊕ Unit ⊕ Empty)
  | 0, _, _, _ => none
  | n + 1, v_s, v_t7, v_t8 =>
    bif decide (v_t8 < v_t7) then
      if (0 : Int) ≤ v_t8 ∧ v_t8 < (v_s.length : Int) then
      (g96 m (v_s.getD v_t8.toNat 0)).bind fun y1 =>
      bif y1.1 then
        some (.inl (v_t8, ()))
      else
        g97_L0 m n v_s v_t7 (w_i64 (v_t8 + 1))
      else none
    else
      some (.inr (.inl ()))
def g97 (m : Nat) (v_s : List Int) : Option (Int × Unit × Unit × Unit) :=
  (g97_L0 m m v_s (v_s.length : Int) 0).bind fun y1 =>
  match y1 with
  | .inl z2 =>
    some (z2.1, ((), (), ()))
  | .inr (.inl z3) =>
    some ((-1), ((), (), ()))
  | .inr (.inr e) =>
    e.elim
/-! 95 slices.ContainsFunc___uint32_uint32_ -/
def g95 (m : Nat) (v_s : List Int) : Option (Bool × Unit × Unit × Unit) :=
  (g97 m v_s).bind fun y1 =>
  some (decide (y1.1 ≥ 0), ((), (), ()))
/-! 93 sparse/integer.down -/
def g93_L0 (m : Nat) : Nat → List Int → Int → Int → Bool → List Int → Int → Int → Option ((Bool × List Int × Unit) ⊕ Empty)
  | 0, _, _, _, _, _, _, _ => none
  | n + 1, v_a, v_t6, v_t7, v_t8, v_t9, v_t45, v_t46 =>
    bif decide (v_t46 < v_t45) then
      if (0 : Int) ≤ (w_i64 (v_t6 + v_t46)) ∧ (w_i64 (v_t6 + v_t46)) < (v_a.length : Int) then
      bif decide ((w_i64 ((w_i64 (v_t6 + v_t46)) + 1)) < (v_a.length : Int)) then
        if (0 : Int) ≤ (w_i64 ((w_i64 (v_t6 + v_t46)) + 1)) ∧ (w_i64 ((w_i64 (v_t6 + v_t46)) + 1)) < (v_a.length : Int) then
        if (0 : Int) ≤ v_t7 then
        if (0 : Int) ≤ v_t46 ∧ v_t46 < (v_t9.length : Int) then
        g93_L0 m n v_a v_t6 v_t7 v_t8 (v_t9.set (0 + v_t46.toNat) (w_u32 (b_and_ .u64 (shr_ .u64 (b_or_ .u64 (w_u64 (v_a.getD (w_i64 (v_t6 + v_t46)).toNat 0)) (shl_ .u64 (w_u64 (v_a.getD (w_i64 ((w_i64 (v_t6 + v_t46)) + 1)).toNat 0)) 32)) v_t7) 4294967295))) v_t45 (w_i64 (v_t46 + 1))
        else none
        else none
        else none
      else
        if (0 : Int) ≤ v_t7 then
        if (0 : Int) ≤ v_t46 ∧ v_t46 < (v_t9.length : Int) then
        g93_L0 m n v_a v_t6 v_t7 v_t8 (v_t9.set (0 + v_t46.toNat) (w_u32 (b_and_ .u64 (shr_ .u64 (w_u64 (v_a.getD (w_i64 (v_t6 + v_t46)).toNat 0)) v_t7) 4294967295))) v_t45 (w_i64 (v_t46 + 1))
        else none
        else none
      else none
    else
      some (.inl (v_t8, v_t9, ()))
def g93 (m : Nat) (v_a : List Int) (v_t1 : Int) : Option ((List Int × Bool × Unit) × Unit × Unit × Unit) :=
  bif decide ((w_i64 (Int.tdiv v_t1 32)) ≥ (v_a.length : Int)) then
    some ((([] : List Int), decide ((v_a.length : Int) > 0), ()), ((), (), ()))
  else
    if (0 : Int) ≤ 0 ∧ 0 ≤ (w_i64 (Int.tdiv v_t1 32)) ∧ (w_i64 (Int.tdiv v_t1 32)) ≤ (v_a.length : Int) then
    (g95 m (v_a.take (w_i64 (Int.tdiv v_t1 32)).toNat)).bind fun y1 =>
    bif y1.1 then
      if (0 : Int) ≤ (w_i64 ((v_a.length : Int) - (w_i64 (Int.tdiv v_t1 32)))) ∧ (w_i64 ((v_a.length : Int) - (w_i64 (Int.tdiv v_t1 32)))) ≤ (w_i64 ((v_a.length : Int) - (w_i64 (Int.tdiv v_t1 32)))) ∧ (w_i64 ((v_a.length : Int) - (w_i64 (Int.tdiv v_t1 32)))) ≤ 1073741824 then
      (g93_L0 m m v_a (w_i64 (Int.tdiv v_t1 32)) (w_u64 (Int.tmod v_t1 32)) true (List.replicate (w_i64 ((v_a.length : Int) - (w_i64 (Int.tdiv v_t1 32)))).toNat (0 : Int)) ((List.replicate (w_i64 ((v_a.length : Int) - (w_i64 (Int.tdiv v_t1 32)))).toNat (0 : Int)).length : Int) 0).bind fun y2 =>
      match y2 with
      | .inl z3 =>
        (g82 m z3.2.1).bind fun y4 =>
        some ((y4.1, z3.1, ()), ((), (), ()))
      | .inr e =>
        e.elim
      else none
    else
      if (0 : Int) ≤ (w_i64 (Int.tdiv v_t1 32)) ∧ (w_i64 (Int.tdiv v_t1 32)) < (v_a.length : Int) then
      if (0 : Int) ≤ (w_u64 (Int.tmod v_t1 32)) then
      if (0 : Int) ≤ (w_i64 ((v_a.length : Int) - (w_i64 (Int.tdiv v_t1 32)))) ∧ (w_i64 ((v_a.length : Int) - (w_i64 (Int.tdiv v_t1 32)))) ≤ (w_i64 ((v_a.length : Int) - (w_i64 (Int.tdiv v_t1 32)))) ∧ (w_i64 ((v_a.length : Int) - (w_i64 (Int.tdiv v_t1 32)))) ≤ 1073741824 then
      (g93_L0 m m v_a (w_i64 (Int.tdiv v_t1 32)) (w_u64 (Int.tmod v_t1 32)) ((b_and_ .u32 (v_a.getD (w_i64 (Int.tdiv v_t1 32)).toNat 0) (w_u32 ((shl_ .u32 1 (w_u64 (Int.tmod v_t1 32))) - 1))) != 0) (List.replicate (w_i64 ((v_a.length : Int) - (w_i64 (Int.tdiv v_t1 32)))).toNat (0 : Int)) ((List.replicate (w_i64 ((v_a.length : Int) - (w_i64 (Int.tdiv v_t1 32)))).toNat (0 : Int)).length : Int) 0).bind fun y5 =>
      match y5 with
      | .inl z6 =>
        (g82 m z6.2.1).bind fun y7 =>
        some ((y7.1, z6.1, ()), ((), (), ()))
      | .inr e =>
        e.elim
      else none
      else none
      else none
    else none
/-! 94 sparse/integer.plus -/
def g94_L0 (m : Nat) : Nat → List Int → List Int → Int → List Int → Int → Int → Option ((List Int × Int × Unit) ⊕ Empty)
  | 0, _, _, _, _, _, _ => none
  | n + 1, v_b, v_out, v_carry, v_t21, v_t22, v_t23 =>
    bif decide (v_t23 < v_t22) then
      if (0 : Int) ≤ v_t23 ∧ v_t23 < (v_t21.length : Int) then
      bif decide (v_t23 < (v_b.length : Int)) then
        if (0 : Int) ≤ v_t23 ∧ v_t23 < (v_b.length : Int) then
        if v_out.length + ([w_u32 (b_and_ .u64 (w_u64 ((w_u64 ((w_u64 (v_t21.getD v_t23.toNat 0)) + v_carry)) + (w_u64 (v_b.getD v_t23.toNat 0)))) 4294967295)] : List Int).length ≤ 1073741824 then
        g94_L0 m n v_b (v_out ++ ([w_u32 (b_and_ .u64 (w_u64 ((w_u64 ((w_u64 (v_t21.getD v_t23.toNat 0)) + v_carry)) + (w_u64 (v_b.getD v_t23.toNat 0)))) 4294967295)] : List Int)) (shr_ .u64 (w_u64 ((w_u64 ((w_u64 (v_t21.getD v_t23.toNat 0)) + v_carry)) + (w_u64 (v_b.getD v_t23.toNat 0)))) 32) v_t21 v_t22 (w_i64 (v_t23 + 1))
        else none
        else none
      else
        if v_out.length + ([w_u32 (b_and_ .u64 (w_u64 ((w_u64 (v_t21.getD v_t23.toNat 0)) + v_carry)) 4294967295)] : List Int).length ≤ 1073741824 then
        g94_L0 m n v_b (v_out ++ ([w_u32 (b_and_ .u64 (w_u64 ((w_u64 (v_t21.getD v_t23.toNat 0)) + v_carry)) 4294967295)] : List Int)) (shr_ .u64 (w_u64 ((w_u64 (v_t21.getD v_t23.toNat 0)) + v_carry)) 32) v_t21 v_t22 (w_i64 (v_t23 + 1))
        else none
      else none
    else
      some (.inl (v_out, v_carry, ()))
def g94 (m : Nat) (v_a : List Int) (v_b : List Int) : Option (List Int × Unit × Unit × Unit) :=
  bif decide ((v_a.length : Int) < (v_b.length : Int)) then
    if (0 : Int) ≤ 0 ∧ 0 ≤ (w_i64 ((v_b.length : Int) + 1)) ∧ (w_i64 ((v_b.length : Int) + 1)) ≤ 1073741824 then
    (g94_L0 m m v_a (List.replicate 0 (0 : Int)) 0 v_b (v_b.length : Int) 0).bind fun y1 =>
    match y1 with
    | .inl z2 =>
      if z2.1.length + ([w_u32 z2.2.1] : List Int).length ≤ 1073741824 then
      (g82 m (z2.1 ++ ([w_u32 z2.2.1] : List Int))).bind fun y3 =>
      some (y3.1, ((), (), ()))
      else none
    | .inr e =>
      e.elim
    else none
  else
    if (0 : Int) ≤ 0 ∧ 0 ≤ (w_i64 ((v_a.length : Int) + 1)) ∧ (w_i64 ((v_a.length : Int) + 1)) ≤ 1073741824 then
    (g94_L0 m m v_b (List.replicate 0 (0 : Int)) 0 v_a (v_a.length : Int) 0).bind fun y4 =>
    match y4 with
    | .inl z5 =>
      if z5.1.length + ([w_u32 z5.2.1] : List Int).length ≤ 1073741824 then
      (g82 m (z5.1 ++ ([w_u32 z5.2.1] : List Int))).bind fun y6 =>
      some (y6.1, ((), (), ()))
      else none
    | .inr e =>
      e.elim
    else none
/-! 91 sparse/integer.Shift -/
def g91 (m : Nat) (v_a_0 : Bool) (v_a_1 : List Int) (v_n : Int) : Option (((Bool × List Int × Unit) × Int × Unit) × Unit × Unit × Unit) :=
  bif decide (v_n < (-1048576)) then
    some (((false, ([] : List Int), ()), 3, ()), ((), (), ()))
  else
    bif decide (v_n > 1048576) then
      some (((false, ([] : List Int), ()), 3, ()), ((), (), ()))
    else
      (g82 m v_a_1).bind fun y1 =>
      bif decide (v_n ≥ 0) then
        (g92 m y1.1 v_n).bind fun y2 =>
        (g84 m v_a_0 y2.1).bind fun y3 =>
        some (((y3.1.1, y3.1.2.1, ()), 0, ()), ((), (), ()))
      else
        (g93 m y1.1 (w_i64 (0 - v_n))).bind fun y4 =>
        bif v_a_0 then
          bif y4.1.2.1 then
            (g94 m y4.1.1 ([1] : List Int)).bind fun y5 =>
            (g84 m v_a_0 y5.1).bind fun y6 =>
            some (((y6.1.1, y6.1.2.1, ()), 0, ()), ((), (), ()))
          else
            (g84 m v_a_0 y4.1.1).bind fun y7 =>
            some (((y7.1.1, y7.1.2.1, ()), 0, ()), ((), (), ()))
        else
          (g84 m v_a_0 y4.1.1).bind fun y8 =>
          some (((y8.1.1, y8.1.2.1, ()), 0, ()), ((), (), ()))
/-! 81 sparse/dyad.right -/
def g81_L0 (m : Nat) : Nat → Int → Bool → List Int → Bool → List Int → Option ((Int × (Bool × List Int × Unit) × (Bool × List Int × Unit) × Unit) ⊕ Empty)
  | 0, _, _, _, _, _ => none
  | n + 1, v_n, v_a_0, v_a_1, v_t4_0, v_t4_1 =>
    bif decide (v_n > 1048576) then
      (g91 m v_a_0 v_a_1 (-1048576)).bind fun y1 =>
      g81_L0 m n (w_i64 (v_n - 1048576)) y1.1.1.1 y1.1.1.2.1 v_t4_0 v_t4_1
    else
      some (.inl (v_n, (v_a_0, v_a_1, ()), (v_t4_0, v_t4_1, ()), ()))
def g81 (m : Nat) (v_a_0 : Bool) (v_a_1 : List Int) (v_n : Int) : Option ((Bool × List Int × Unit) × Unit × Unit × Unit) :=
  (g81_L0 m m v_n v_a_0 v_a_1 false ([] : List Int)).bind fun y1 =>
  match y1 with
  | .inl z2 =>
    (g91 m z2.2.1.1 z2.2.1.2.1 (w_i64 (0 - z2.1))).bind fun y3 =>
    some ((y3.1.1.1, y3.1.1.2.1, ()), ((), (), ()))
  | .inr e =>
    e.elim
/-! 61 sparse/dyad.norm -/
def g61 (m : Nat) (v_d_0 : Bool) (v_d_1 : Bool) (v_d_2 : List Int) (v_d_3 : Int) : Option (((Bool × Bool × List Int × Int × Unit) × Bool × Unit) × Unit × Unit) :=
  bif v_d_0 then
    (g78 m).bind fun y1 =>
    some (((y1.1.1, y1.1.2.1, y1.1.2.2.1, y1.1.2.2.2.1, ()), false, ()), ((), ()))
  else
    (g79 m v_d_1 v_d_2).bind fun y2 =>
    (g62 m y2.1.1 y2.1.2.1).bind fun y3 =>
    bif y3.1 == 0 then
      some (((false, false, ([] : List Int), 0, ()), true, ()), ((), ()))
    else
      (g80 m y2.1.1 y2.1.2.1).bind fun y4 =>
      (g63 m y2.1.1 y2.1.2.1).bind fun y5 =>
      bif decide (v_d_3 > (w_i64 (65536 - y5.1))) then
        (g78 m).bind fun y6 =>
        some (((y6.1.1, y6.1.2.1, y6.1.2.2.1, y6.1.2.2.2.1, ()), false, ()), ((), ()))
      else
        bif decide (v_d_3 < (w_i64 ((-65536) - y4.1))) then
          (g78 m).bind fun y7 =>
          some (((y7.1.1, y7.1.2.1, y7.1.2.2.1, y7.1.2.2.2.1, ()), false, ()), ((), ()))
        else
          (g81 m y2.1.1 y2.1.2.1 y4.1).bind fun y8 =>
          some (((false, y8.1.1, y8.1.2.1, w_i64 (v_d_3 + y4.1), ()), true, ()), ((), ()))
/-! 67 sparse/dyad.Make -/
def g67 (m : Nat) (v_man_0 : Bool) (v_man_1 : List Int) (v_exp : Int) : Option ((Bool × Bool × List Int × Int × Unit) × Unit × Unit × Unit) :=
  (g61 m false v_man_0 v_man_1 v_exp).bind fun y1 =>
  some ((y1.1.1.1, y1.1.1.2.1, y1.1.1.2.2.1, y1.1.1.2.2.2.1, ()), ((), (), ()))
/-! 47 sparse/float.Of -/
def g47 (m : Nat) (v_f : Int) : Option ((Bool × Bool × List Int × Int × Unit) × Unit × Unit) :=
  (g60 m v_f).bind fun y1 =>
  bif y1.1.1 == 2047 then
    some ((true, false, ([] : List Int), 0, ()), ((), ()))
  else
    bif y1.1.1 == 0 then
      (g64 m (w_i64 y1.1.2.1)).bind fun y2 =>
      (g65 m v_f).bind fun y3 =>
      bif y3.1 then
        (g66 m y2.1.1 y2.1.2.1).bind fun y4 =>
        (g67 m y4.1.1 y4.1.2.1 (-1074)).bind fun y5 =>
        some ((y5.1.1, y5.1.2.1, y5.1.2.2.1, y5.1.2.2.2.1, ()), ((), ()))
      else
        (g67 m y2.1.1 y2.1.2.1 (-1074)).bind fun y6 =>
        some ((y6.1.1, y6.1.2.1, y6.1.2.2.1, y6.1.2.2.2.1, ()), ((), ()))
    else
      (g64 m (w_i64 (b_or_ .u64 y1.1.2.1 4503599627370496))).bind fun y7 =>
      (g65 m v_f).bind fun y8 =>
      bif y8.1 then
        (g66 m y7.1.1 y7.1.2.1).bind fun y9 =>
        (g67 m y9.1.1 y9.1.2.1 (w_i64 (y1.1.1 - 1075))).bind fun y10 =>
        some ((y10.1.1, y10.1.2.1, y10.1.2.2.1, y10.1.2.2.2.1, ()), ((), ()))
      else
        (g67 m y7.1.1 y7.1.2.1 (w_i64 (y1.1.1 - 1075))).bind fun y11 =>
        some ((y11.1.1, y11.1.2.1, y11.1.2.2.1, y11.1.2.2.2.1, ()), ((), ()))
/-! 46 sparse/dyad.Log2 -/
def g46 (m : Nat) (v_d_0 : Bool) (v_d_1 : Bool) (v_d_2 : List Int) (v_d_3 : Int) : Option ((Int × Bool × Unit) × Unit × Unit) :=
  (g61 m v_d_0 v_d_1 v_d_2 v_d_3).bind fun y1 =>
  bif !y1.1.2.1 then
    some ((0, false, ()), ((), ()))
  else
    (g62 m y1.1.1.2.1 y1.1.1.2.2.1).bind fun y2 =>
    bif y2.1 == 0 then
      some ((0, false, ()), ((), ()))
    else
      (g63 m y1.1.1.2.1 y1.1.1.2.2.1).bind fun y3 =>
      some ((w_i64 ((w_i64 (y1.1.1.2.2.2.1 + y3.1)) - 1), true, ()), ((), ()))
/-! 28 sparse/float.Exponent -/
def g28 (m : Nat) (v_f : Int) : Option ((Int × Bool × Unit) × Unit × Unit) :=
  (g47 m v_f).bind fun y1 =>
  (g46 m y1.1.1 y1.1.2.1 y1.1.2.2.1 y1.1.2.2.2.1).bind fun y2 =>
  some ((y2.1.1, y2.1.2.1, ()), ((), ()))
/-! 16 sparse/transversal.edges -/
def g16_L0 (m : Nat) : Nat → (List (List (Int × Int))) → (List (Int × Int × Int)) → Int → Int → Option (((List (List (Int × Int))) × Unit) ⊕ Empty)
  | 0, _, _, _, _ => none
  | n + 1, v_out, v_t12, v_t13, v_t14 =>
    bif decide (v_t14 < v_t13) then
      if (0 : Int) ≤ v_t14 ∧ v_t14 < (v_t12.length : Int) then
      (g28 m (v_t12.getD (0 + v_t14.toNat) (0, (0, 0))).2.2).bind fun y1 =>
      bif y1.1.2.1 then
        if (0 : Int) ≤ (v_t12.getD (0 + v_t14.toNat) (0, (0, 0))).2.1 ∧ (v_t12.getD (0 + v_t14.toNat) (0, (0, 0))).2.1 < (v_out.length : Int) then
        if (v_out.getD (v_t12.getD (0 + v_t14.toNat) (0, (0, 0))).2.1.toNat ([] : List (Int × Int))).length + ([((v_t12.getD (0 + v_t14.toNat) (0, (0, 0))).1, y1.1.1)] : List (Int × Int)).length ≤ 1073741824 then
        if (0 : Int) ≤ (v_t12.getD (0 + v_t14.toNat) (0, (0, 0))).2.1 ∧ (v_t12.getD (0 + v_t14.toNat) (0, (0, 0))).2.1 < (v_out.length : Int) then
        if (v_t12.getD (0 + v_t14.toNat) (0, (0, 0))).2.1.toNat = (v_t12.getD (0 + v_t14.toNat) (0, (0, 0))).2.1.toNat then
        g16_L0 m n (v_out.set (v_t12.getD (0 + v_t14.toNat) (0, (0, 0))).2.1.toNat ((v_out.getD (v_t12.getD (0 + v_t14.toNat) (0, (0, 0))).2.1.toNat ([] : List (Int × Int))) ++ ([((v_t12.getD (0 + v_t14.toNat) (0, (0, 0))).1, y1.1.1)] : List (Int × Int)))) v_t12 v_t13 (w_i64 (v_t14 + 1))
        else none
        else none
        else none
        else none
      else
        g16_L0 m n v_out v_t12 v_t13 (w_i64 (v_t14 + 1))
      else none
    else
      some (.inl (v_out, ()))
def g16 (m : Nat) (v_m_0 : Int) (v_m_1 : Int) (v_m_2 : List Int) (v_m_3 : List Int) (v_m_4 : List Int) : Option ((List (List (Int × Int))) × Unit × Unit) :=
  if (0 : Int) ≤ v_m_1 ∧ v_m_1 ≤ v_m_1 ∧ v_m_1 ≤ 1073741824 then
  (g27 m v_m_0 v_m_1 v_m_2 v_m_3 v_m_4).bind fun y1 =>
  (g16_L0 m m (List.replicate v_m_1.toNat ([] : List (Int × Int))) y1.1 (y1.1.length : Int) 0).bind fun y2 =>
  match y2 with
  | .inl z3 =>
    some (z3.1, ((), ()))
  | .inr e =>
    e.elim
  else none
/-! 25 sparse/transversal.full -/
def g25_L0 (m : Nat) : Nat → Int → List Int → Int → Int → Option ((List Int × Unit) ⊕ Empty)
  | 0, _, _, _, _ => none
  | n + 1, v_v, v_out, v_t10, v_t11 =>
    bif decide (v_t11 < v_t10) then
      if (0 : Int) ≤ v_t11 ∧ v_t11 < (v_out.length : Int) then
      g25_L0 m n v_v (v_out.set (0 + v_t11.toNat) v_v) v_t10 (w_i64 (v_t11 + 1))
      else none
    else
      some (.inl (v_out, ()))
def g25 (m : Nat) (v_n : Int) (v_v : Int) : Option (List Int × Unit × Unit × Unit) :=
  if (0 : Int) ≤ v_n ∧ v_n ≤ v_n ∧ v_n ≤ 1073741824 then
  (g25_L0 m m v_v (List.replicate v_n.toNat (0 : Int)) ((List.replicate v_n.toNat (0 : Int)).length : Int) 0).bind fun y1 =>
  match y1 with
  | .inl z2 =>
    some (z2.1, ((), (), ()))
  | .inr e =>
    e.elim
  else none
/-! 43 __sparse/transversal.hungarian_.change -/
def g43_L0 (m : Nat) : Nat → (List (List (Int × Int))) → List Int → List Int → List Int → List Int → List Int → Int → List Bool → Int → Int → Option ((((List (List (Int × Int))) × List Int × List Int × List Int × List Int × Unit) × Unit) ⊕ Empty)
  | 0, _, _, _, _, _, _, _, _, _, _ => none
  | n + 1, v_h_0, v_h_1, v_h_2, v_h_3, v_h_4, v_t2, v_t4, v_t23, v_t24, v_t25 =>
    bif decide (v_t25 < v_t24) then
      if (0 : Int) ≤ v_t25 ∧ v_t25 < (v_t23.length : Int) then
      bif v_t23.getD v_t25.toNat false then
        if (0 : Int) ≤ v_t25 ∧ v_t25 < (v_h_1.length : Int) then
        if (0 : Int) ≤ v_t25 ∧ v_t25 < (v_t2.length : Int) then
        if (0 : Int) ≤ v_t25 ∧ v_t25 < (v_h_1.length : Int) then
        if (0 : Int) ≤ v_t25 ∧ v_t25 < (v_h_4.length : Int) then
        bif (v_h_4.getD (0 + v_t25.toNat) 0) != (-1) then
          if (0 : Int) ≤ (v_h_4.getD (0 + v_t25.toNat) 0) ∧ (v_h_4.getD (0 + v_t25.toNat) 0) < (v_h_2.length : Int) then
          if (0 : Int) ≤ v_t25 ∧ v_t25 < (v_t2.length : Int) then
          if (0 : Int) ≤ (v_h_4.getD (0 + v_t25.toNat) 0) ∧ (v_h_4.getD (0 + v_t25.toNat) 0) < (v_h_2.length : Int) then
          g43_L0 m n v_h_0 (v_h_1.set (0 + v_t25.toNat) (w_i64 ((v_h_1.getD (0 + v_t25.toNat) 0) + (w_i64 (v_t4 - (v_t2.getD v_t25.toNat 0)))))) (v_h_2.set (0 + (v_h_4.getD (0 + v_t25.toNat) 0).toNat) (w_i64 ((v_h_2.getD (0 + (v_h_4.getD (0 + v_t25.toNat) 0).toNat) 0) - (w_i64 (v_t4 - (v_t2.getD v_t25.toNat 0)))))) v_h_3 v_h_4 v_t2 v_t4 v_t23 v_t24 (w_i64 (v_t25 + 1))
          else none
          else none
          else none
        else
          g43_L0 m n v_h_0 (v_h_1.set (0 + v_t25.toNat) (w_i64 ((v_h_1.getD (0 + v_t25.toNat) 0) + (w_i64 (v_t4 - (v_t2.getD v_t25.toNat 0)))))) v_h_2 v_h_3 v_h_4 v_t2 v_t4 v_t23 v_t24 (w_i64 (v_t25 + 1))
        else none
        else none
        else none
        else none
      else
        g43_L0 m n v_h_0 v_h_1 v_h_2 v_h_3 v_h_4 v_t2 v_t4 v_t23 v_t24 (w_i64 (v_t25 + 1))
      else none
    else
      some (.inl ((v_h_0, v_h_1, v_h_2, v_h_3, v_h_4, ()), ()))
def g43 (m : Nat) (v_h_0 : List (List (Int × Int))) (v_h_1 : List Int) (v_h_2 : List Int) (v_h_3 : List Int) (v_h_4 : List Int) (v_t1 : Int) (v_t2 : List Int) (v_t3 : List Bool) (v_t4 : Int) : Option (Unit × ((List (List (Int × Int))) × List Int × List Int × List Int × List Int × Unit) × Unit × Unit × Unit × Unit × Unit) :=
  if (0 : Int) ≤ v_t1 ∧ v_t1 < (v_h_2.length : Int) then
  if (0 : Int) ≤ v_t1 ∧ v_t1 < (v_h_2.length : Int) then
  (g43_L0 m m v_h_0 v_h_1 (v_h_2.set (0 + v_t1.toNat) (w_i64 ((v_h_2.getD (0 + v_t1.toNat) 0) - v_t4))) v_h_3 v_h_4 v_t2 v_t4 v_t3 (v_t3.length : Int) 0).bind fun y1 =>
  match y1 with
  | .inl z2 =>
    some ((), ((z2.1.1, z2.1.2.1, z2.1.2.2.1, z2.1.2.2.2.1, z2.1.2.2.2.2.1, ()), (), (), (), (), ()))
  | .inr e =>
    e.elim
  else none
  else none
/-! 44 __sparse/transversal.hungarian_.turn -/
def g44_L0 (m : Nat) : Nat → (List (List (Int × Int))) → List Int → List Int → List Int → List Int → Int → Int → List Int → Option ((((List (List (Int × Int))) × List Int × List Int × List Int × List Int × Unit) × Unit) ⊕ Empty)
  | 0, _, _, _, _, _, _, _, _ => none
  | n + 1, v_h_0, v_h_1, v_h_2, v_h_3, v_h_4, v_start, v_i, v_from =>
    if (0 : Int) ≤ v_i ∧ v_i < (v_from.length : Int) then
    if (0 : Int) ≤ (v_from.getD v_i.toNat 0) ∧ (v_from.getD v_i.toNat 0) < (v_h_3.length : Int) then
    if (0 : Int) ≤ (v_from.getD v_i.toNat 0) ∧ (v_from.getD v_i.toNat 0) < (v_h_3.length : Int) then
    if (0 : Int) ≤ v_i ∧ v_i < (v_h_4.length : Int) then
    bif (v_from.getD v_i.toNat 0) == v_start then
      some (.inl ((v_h_0, v_h_1, v_h_2, v_h_3.set (0 + (v_from.getD v_i.toNat 0).toNat) v_i, v_h_4.set (0 + v_i.toNat) (v_from.getD v_i.toNat 0), ()), ()))
    else
      g44_L0 m n v_h_0 v_h_1 v_h_2 (v_h_3.set (0 + (v_from.getD v_i.toNat 0).toNat) v_i) (v_h_4.set (0 + v_i.toNat) (v_from.getD v_i.toNat 0)) v_start (v_h_3.getD (0 + (v_from.getD v_i.toNat 0).toNat) 0) v_from
    else none
    else none
    else none
    else none
def g44 (m : Nat) (v_h_0 : List (List (Int × Int))) (v_h_1 : List Int) (v_h_2 : List Int) (v_h_3 : List Int) (v_h_4 : List Int) (v_start : Int) (v_i : Int) (v_from : List Int) : Option (Unit × ((List (List (Int × Int))) × List Int × List Int × List Int × List Int × Unit) × Unit × Unit × Unit × Unit) :=
  (g44_L0 m m v_h_0 v_h_1 v_h_2 v_h_3 v_h_4 v_start v_i v_from).bind fun y1 =>
  match y1 with
  | .inl z2 =>
    some ((), ((z2.1.1, z2.1.2.1, z2.1.2.2.1, z2.1.2.2.2.1, z2.1.2.2.2.2.1, ()), (), (), (), ()))
  | .inr e =>
    e.elim
/-! 26 __sparse/transversal.hungarian_.add -/
def g26_L2 (m : Nat) : Nat → (List (List (Int × Int))) → List Int → List Int → List Int → List Int → Int → Int → List Int → List Int → List Bool → Int → Int → Int → Option ((((List (List (Int × Int))) × List Int × List Int × List Int × List Int × Unit) × Int × Int × List Int × List Int × List Bool × Int × Unit) ⊕ Empty)
  | 0, _, _, _, _, _, _, _, _, _, _, _, _, _ => none
  | n + 1, v_h_0, v_h_1, v_h_2, v_h_3, v_h_4, v_t1, v_t5, v_t6, v_t7, v_t8, v_t14, v_t87, v_t88 =>
    bif decide (v_t88 < v_t87) then
      if (0 : Int) ≤ v_t88 ∧ v_t88 < (v_t8.length : Int) then
      bif !(v_t8.getD (0 + v_t88.toNat) false) then
        if (0 : Int) ≤ v_t88 ∧ v_t88 < (v_t6.length : Int) then
        bif decide ((v_t6.getD (0 + v_t88.toNat) 0) < 1099511627776) then
          bif v_t14 == (-1) then
            g26_L2 m n v_h_0 v_h_1 v_h_2 v_h_3 v_h_4 v_t1 v_t5 v_t6 v_t7 v_t8 v_t88 v_t87 (w_i64 (v_t88 + 1))
          else
            if (0 : Int) ≤ v_t88 ∧ v_t88 < (v_t6.length : Int) then
            if (0 : Int) ≤ v_t14 ∧ v_t14 < (v_t6.length : Int) then
            bif decide ((v_t6.getD (0 + v_t88.toNat) 0) < (v_t6.getD (0 + v_t14.toNat) 0)) then
              g26_L2 m n v_h_0 v_h_1 v_h_2 v_h_3 v_h_4 v_t1 v_t5 v_t6 v_t7 v_t8 v_t88 v_t87 (w_i64 (v_t88 + 1))
            else
              g26_L2 m n v_h_0 v_h_1 v_h_2 v_h_3 v_h_4 v_t1 v_t5 v_t6 v_t7 v_t8 v_t14 v_t87 (w_i64 (v_t88 + 1))
            else none
            else none
        else
          g26_L2 m n v_h_0 v_h_1 v_h_2 v_h_3 v_h_4 v_t1 v_t5 v_t6 v_t7 v_t8 v_t14 v_t87 (w_i64 (v_t88 + 1))
        else none
      else
        g26_L2 m n v_h_0 v_h_1 v_h_2 v_h_3 v_h_4 v_t1 v_t5 v_t6 v_t7 v_t8 v_t14 v_t87 (w_i64 (v_t88 + 1))
      else none
    else
      some (.inl ((v_h_0, v_h_1, v_h_2, v_h_3, v_h_4, ()), v_t1, v_t5, v_t6, v_t7, v_t8, v_t14, ()))
def g26_L1 (m : Nat) : Nat → (List (List (Int × Int))) → List Int → List Int → List Int → List Int → Int → Int → List Int → List Int → List Bool → Int → Int → (List (Int × Int)) → Int → Int → Option ((((List (List (Int × Int))) × List Int × List Int × List Int × List Int × Unit) × Int × Int × List Int × List Int × List Bool × Unit) ⊕ Empty)
  | 0, _, _, _, _, _, _, _, _, _, _, _, _, _, _, _ => none
  | n + 1, v_h_0, v_h_1, v_h_2, v_h_3, v_h_4, v_t1, v_t5, v_t6, v_t7, v_t8, v_t9, v_t10, v_t34, v_t35, v_t36 =>
    bif decide (v_t36 < v_t35) then
      if (0 : Int) ≤ v_t36 ∧ v_t36 < (v_t34.length : Int) then
      if (0 : Int) ≤ (v_t34.getD v_t36.toNat (0, 0)).1 ∧ (v_t34.getD v_t36.toNat (0, 0)).1 < (v_h_1.length : Int) then
      if (0 : Int) ≤ v_t9 ∧ v_t9 < (v_h_2.length : Int) then
      if (0 : Int) ≤ (v_t34.getD v_t36.toNat (0, 0)).1 ∧ (v_t34.getD v_t36.toNat (0, 0)).1 < (v_t8.length : Int) then
      bif !(v_t8.getD (0 + (v_t34.getD v_t36.toNat (0, 0)).1.toNat) false) then
        if (0 : Int) ≤ (v_t34.getD v_t36.toNat (0, 0)).1 ∧ (v_t34.getD v_t36.toNat (0, 0)).1 < (v_t6.length : Int) then
        bif decide ((w_i64 ((w_i64 ((w_i64 (v_t10 + (v_h_1.getD (0 + (v_t34.getD v_t36.toNat (0, 0)).1.toNat) 0))) + (v_h_2.getD (0 + v_t9.toNat) 0))) - (v_t34.getD v_t36.toNat (0, 0)).2)) < (v_t6.getD (0 + (v_t34.getD v_t36.toNat (0, 0)).1.toNat) 0)) then
          if (0 : Int) ≤ (v_t34.getD v_t36.toNat (0, 0)).1 ∧ (v_t34.getD v_t36.toNat (0, 0)).1 < (v_t6.length : Int) then
          if (0 : Int) ≤ (v_t34.getD v_t36.toNat (0, 0)).1 ∧ (v_t34.getD v_t36.toNat (0, 0)).1 < (v_t7.length : Int) then
          g26_L1 m n v_h_0 v_h_1 v_h_2 v_h_3 v_h_4 v_t1 v_t5 (v_t6.set (0 + (v_t34.getD v_t36.toNat (0, 0)).1.toNat) (w_i64 ((w_i64 ((w_i64 (v_t10 + (v_h_1.getD (0 + (v_t34.getD v_t36.toNat (0, 0)).1.toNat) 0))) + (v_h_2.getD (0 + v_t9.toNat) 0))) - (v_t34.getD v_t36.toNat (0, 0)).2))) (v_t7.set (0 + (v_t34.getD v_t36.toNat (0, 0)).1.toNat) v_t9) v_t8 v_t9 v_t10 v_t34 v_t35 (w_i64 (v_t36 + 1))
          else none
          else none
        else
          g26_L1 m n v_h_0 v_h_1 v_h_2 v_h_3 v_h_4 v_t1 v_t5 v_t6 v_t7 v_t8 v_t9 v_t10 v_t34 v_t35 (w_i64 (v_t36 + 1))
        else none
      else
        g26_L1 m n v_h_0 v_h_1 v_h_2 v_h_3 v_h_4 v_t1 v_t5 v_t6 v_t7 v_t8 v_t9 v_t10 v_t34 v_t35 (w_i64 (v_t36 + 1))
      else none
      else none
      else none
      else none
    else
      some (.inl ((v_h_0, v_h_1, v_h_2, v_h_3, v_h_4, ()), v_t1, v_t5, v_t6, v_t7, v_t8, ()))
def g26_L0 (m : Nat) : Nat → (List (List (Int × Int))) → List Int → List Int → List Int → List Int → Int → Int → List Int → List Int → List Bool → Int → Int → Option ((((List (List (Int × Int))) × List Int × List Int × List Int × List Int × Unit) × Bool × Unit) ⊕ Empty)
  | 0, _, _, _, _, _, _, _, _, _, _, _, _ => none
  | n + 1, v_h_0, v_h_1, v_h_2, v_h_3, v_h_4, v_t1, v_t5, v_t6, v_t7, v_t8, v_t9, v_t10 =>
    if (0 : Int) ≤ v_t9 ∧ v_t9 < (v_h_0.length : Int) then
    (g26_L1 m m v_h_0 v_h_1 v_h_2 v_h_3 v_h_4 v_t1 v_t5 v_t6 v_t7 v_t8 v_t9 v_t10 (v_h_0.getD v_t9.toNat ([] : List (Int × Int))) ((v_h_0.getD v_t9.toNat ([] : List (Int × Int))).length : Int) 0).bind fun y1 =>
    match y1 with
    | .inl z2 =>
      (g26_L2 m m z2.1.1 z2.1.2.1 z2.1.2.2.1 z2.1.2.2.2.1 z2.1.2.2.2.2.1 z2.2.1 z2.2.2.1 z2.2.2.2.1 z2.2.2.2.2.1 z2.2.2.2.2.2.1 (-1) z2.2.2.1 0).bind fun y3 =>
      match y3 with
      | .inl z4 =>
        bif z4.2.2.2.2.2.2.1 == (-1) then
          some (.inl ((z4.1.1, z4.1.2.1, z4.1.2.2.1, z4.1.2.2.2.1, z4.1.2.2.2.2.1, ()), false, ()))
        else
          if (0 : Int) ≤ z4.2.2.2.2.2.2.1 ∧ z4.2.2.2.2.2.2.1 < (z4.2.2.2.1.length : Int) then
          if (0 : Int) ≤ z4.2.2.2.2.2.2.1 ∧ z4.2.2.2.2.2.2.1 < (z4.2.2.2.2.2.1.length : Int) then
          if (0 : Int) ≤ z4.2.2.2.2.2.2.1 ∧ z4.2.2.2.2.2.2.1 < (z4.1.2.2.2.2.1.length : Int) then
          bif (z4.1.2.2.2.2.1.getD (0 + z4.2.2.2.2.2.2.1.toNat) 0) == (-1) then
            (g43 m z4.1.1 z4.1.2.1 z4.1.2.2.1 z4.1.2.2.2.1 z4.1.2.2.2.2.1 z4.2.1 z4.2.2.2.1 (z4.2.2.2.2.2.1.set (0 + z4.2.2.2.2.2.2.1.toNat) true) (z4.2.2.2.1.getD (0 + z4.2.2.2.2.2.2.1.toNat) 0)).bind fun y5 =>
            (g44 m y5.2.1.1 y5.2.1.2.1 y5.2.1.2.2.1 y5.2.1.2.2.2.1 y5.2.1.2.2.2.2.1 z4.2.1 z4.2.2.2.2.2.2.1 z4.2.2.2.2.1).bind fun y6 =>
            some (.inl ((y6.2.1.1, y6.2.1.2.1, y6.2.1.2.2.1, y6.2.1.2.2.2.1, y6.2.1.2.2.2.2.1, ()), true, ()))
          else
            if (0 : Int) ≤ z4.2.2.2.2.2.2.1 ∧ z4.2.2.2.2.2.2.1 < (z4.1.2.2.2.2.1.length : Int) then
            g26_L0 m n z4.1.1 z4.1.2.1 z4.1.2.2.1 z4.1.2.2.2.1 z4.1.2.2.2.2.1 z4.2.1 z4.2.2.1 z4.2.2.2.1 z4.2.2.2.2.1 (z4.2.2.2.2.2.1.set (0 + z4.2.2.2.2.2.2.1.toNat) true) (z4.1.2.2.2.2.1.getD (0 + z4.2.2.2.2.2.2.1.toNat) 0) (z4.2.2.2.1.getD (0 + z4.2.2.2.2.2.2.1.toNat) 0)
            else none
          else none
          else none
          else none
      | .inr e =>
        e.elim
    | .inr e =>
      e.elim
    else none
def g26 (m : Nat) (v_h_0 : List (List (Int × Int))) (v_h_1 : List Int) (v_h_2 : List Int) (v_h_3 : List Int) (v_h_4 : List Int) (v_t1 : Int) : Option (Bool × ((List (List (Int × Int))) × List Int × List Int × List Int × List Int × Unit) × Unit × Unit) :=
  (g25 m (v_h_0.length : Int) 1099511627776).bind fun y1 =>
  (g25 m (v_h_0.length : Int) (-1)).bind fun y2 =>
  if (0 : Int) ≤ (v_h_0.length : Int) ∧ (v_h_0.length : Int) ≤ (v_h_0.length : Int) ∧ (v_h_0.length : Int) ≤ 1073741824 then
  (g26_L0 m m v_h_0 v_h_1 v_h_2 v_h_3 v_h_4 v_t1 (v_h_0.length : Int) y1.1 y2.1 (List.replicate (v_h_0.length : Int).toNat false) v_t1 0).bind fun y3 =>
  match y3 with
  | .inl z4 =>
    some (z4.2.1, ((z4.1.1, z4.1.2.1, z4.1.2.2.1, z4.1.2.2.2.1, z4.1.2.2.2.2.1, ()), (), ()))
  | .inr e =>
    e.elim
  else none
/-! 15 sparse/transversal.best -/
def g15_L2 (m : Nat) : Nat → (List (List (Int × Int))) → List Int → List Int → List Int → List Int → Int → Int → Option ((Unit × Unit × Unit) ⊕ (((List (List (Int × Int))) × List Int × List Int × List Int × List Int × Unit) × Unit) ⊕ Empty)
  | 0, _, _, _, _, _, _, _ => none
  | n + 1, v_t5_0, v_t5_1, v_t5_2, v_t5_3, v_t5_4, v_t68, v_t69 =>
    bif decide (v_t69 < v_t68) then
      (g26 m v_t5_0 v_t5_1 v_t5_2 v_t5_3 v_t5_4 v_t69).bind fun y1 =>
      bif !y1.1 then
        some (.inl ((), (), ()))
      else
        g15_L2 m n y1.2.1.1 y1.2.1.2.1 y1.2.1.2.2.1 y1.2.1.2.2.2.1 y1.2.1.2.2.2.2.1 v_t68 (w_i64 (v_t69 + 1))
    else
      some (.inr (.inl ((v_t5_0, v_t5_1, v_t5_2, v_t5_3, v_t5_4, ()), ())))
def g15_L1 (m : Nat) : Nat → Int → (List (List (Int × Int))) → List Int → List Int → List Int → List Int → Int → (List (List (Int × Int))) → Int → Int → (List (Int × Int)) → Int → Int → Option ((Int × ((List (List (Int × Int))) × List Int × List Int × List Int × List Int × Unit) × (List (List (Int × Int))) × Int × Int × Unit) ⊕ Empty)
  | 0, _, _, _, _, _, _, _, _, _, _, _, _, _ => none
  | n + 1, v_t4, v_t5_0, v_t5_1, v_t5_2, v_t5_3, v_t5_4, v_t6, v_t24, v_t25, v_t26, v_t44, v_t45, v_t46 =>
    bif decide (v_t46 < v_t45) then
      if (0 : Int) ≤ v_t46 ∧ v_t46 < (v_t44.length : Int) then
      if (0 : Int) ≤ v_t6 ∧ v_t6 < (v_t5_2.length : Int) then
      if (0 : Int) ≤ v_t6 ∧ v_t6 < (v_t5_2.length : Int) then
      g15_L1 m n v_t4 v_t5_0 v_t5_1 (v_t5_2.set (0 + v_t6.toNat) (if (v_t44.getD v_t46.toNat (0, 0)).2 > (v_t5_2.getD (0 + v_t6.toNat) 0) then (v_t44.getD v_t46.toNat (0, 0)).2 else (v_t5_2.getD (0 + v_t6.toNat) 0))) v_t5_3 v_t5_4 v_t6 v_t24 v_t25 v_t26 v_t44 v_t45 (w_i64 (v_t46 + 1))
      else none
      else none
      else none
    else
      some (.inl (v_t4, (v_t5_0, v_t5_1, v_t5_2, v_t5_3, v_t5_4, ()), v_t24, v_t25, v_t26, ()))
def g15_L0 (m : Nat) : Nat → Int → (List (List (Int × Int))) → List Int → List Int → List Int → List Int → (List (List (Int × Int))) → Int → Int → Option ((Unit × Unit × Unit) ⊕ (Int × ((List (List (Int × Int))) × List Int × List Int × List Int × List Int × Unit) × Unit) ⊕ Empty)
  | 0, _, _, _, _, _, _, _, _, _ => none
  | n + 1, v_t4, v_t5_0, v_t5_1, v_t5_2, v_t5_3, v_t5_4, v_t24, v_t25, v_t26 =>
    bif decide (v_t26 < v_t25) then
      if (0 : Int) ≤ v_t26 ∧ v_t26 < (v_t24.length : Int) then
      bif ((v_t24.getD v_t26.toNat ([] : List (Int × Int))).length : Int) == 0 then
        some (.inl ((), (), ()))
      else
        if (0 : Int) ≤ 0 ∧ 0 < ((v_t24.getD v_t26.toNat ([] : List (Int × Int))).length : Int) then
        if (0 : Int) ≤ v_t26 ∧ v_t26 < (v_t5_2.length : Int) then
        (g15_L1 m m v_t4 v_t5_0 v_t5_1 (v_t5_2.set (0 + v_t26.toNat) ((v_t24.getD v_t26.toNat ([] : List (Int × Int))).getD 0 (0, 0)).2) v_t5_3 v_t5_4 v_t26 v_t24 v_t25 v_t26 (v_t24.getD v_t26.toNat ([] : List (Int × Int))) ((v_t24.getD v_t26.toNat ([] : List (Int × Int))).length : Int) 0).bind fun y1 =>
        match y1 with
        | .inl z2 =>
          g15_L0 m n z2.1 z2.2.1.1 z2.2.1.2.1 z2.2.1.2.2.1 z2.2.1.2.2.2.1 z2.2.1.2.2.2.2.1 z2.2.2.1 z2.2.2.2.1 (w_i64 (z2.2.2.2.2.1 + 1))
        | .inr e =>
          e.elim
        else none
        else none
      else none
    else
      some (.inr (.inl (v_t4, (v_t5_0, v_t5_1, v_t5_2, v_t5_3, v_t5_4, ()), ())))
def g15 (m : Nat) (v_l : List (List (Int × Int))) : Option (((Unit × Unit × Unit) ⊕ (((List (List (Int × Int))) × List Int × List Int × List Int × List Int × Unit) × Unit × Unit)) × Unit × Unit) :=
  (g25 m (v_l.length : Int) 0).bind fun y1 =>
  (g25 m (v_l.length : Int) 0).bind fun y2 =>
  (g25 m (v_l.length : Int) (-1)).bind fun y3 =>
  (g25 m (v_l.length : Int) (-1)).bind fun y4 =>
  (g15_L0 m m (v_l.length : Int) v_l y1.1 y2.1 y3.1 y4.1 v_l (v_l.length : Int) 0).bind fun y5 =>
  match y5 with
  | .inl z6 =>
    some (.inl (((), (), ())), ((), ()))
  | .inr (.inl z7) =>
    (g15_L2 m m z7.2.1.1 z7.2.1.2.1 z7.2.1.2.2.1 z7.2.1.2.2.2.1 z7.2.1.2.2.2.2.1 z7.1 0).bind fun y8 =>
    match y8 with
    | .inl z9 =>
      some (.inl (((), (), ())), ((), ()))
    | .inr (.inl z10) =>
      some (.inr (((z10.1.1, z10.1.2.1, z10.1.2.2.1, z10.1.2.2.2.1, z10.1.2.2.2.2.1, ()), (), ())), ((), ()))
    | .inr (.inr e) =>
      e.elim
  | .inr (.inr e) =>
    e.elim
/-! 29 __sparse/transversal.hungarian_.move -/
def g29_L0 (self : (List (List (Int × Int))) → List Int → List Int → List Int → List Int → List (List Int) → Int → Int → Int → List Bool → Option (Bool × ((List (List (Int × Int))) × List Int × List Int × List Int × List Int × Unit) × Unit × Unit × Unit × Unit × List Bool × Unit)) (m : Nat) : Nat → (List (List (Int × Int))) → List Int → List Int → List Int → List Int → List (List Int) → Int → Int → Int → List Bool → List Int → Int → Int → Option ((((List (List (Int × Int))) × List Int × List Int × List Int × List Int × Unit) × List Bool × Bool × Unit) ⊕ (((List (List (Int × Int))) × List Int × List Int × List Int × List Int × Unit) × List Bool × Unit) ⊕ Empty)
  | 0, _, _, _, _, _, _, _, _, _, _, _, _, _ => none
  | n + 1, v_h_0, v_h_1, v_h_2, v_h_3, v_h_4, v_t1, v_t2, v_t3, v_t4, v_t5, v_t18, v_t19, v_t20 =>
    bif decide (v_t20 < v_t19) then
      if (0 : Int) ≤ v_t20 ∧ v_t20 < (v_t18.length : Int) then
      if (0 : Int) ≤ (v_t18.getD v_t20.toNat 0) ∧ (v_t18.getD v_t20.toNat 0) < (v_t5.length : Int) then
      bif v_t5.getD (0 + (v_t18.getD v_t20.toNat 0).toNat) false then
        g29_L0 self m n v_h_0 v_h_1 v_h_2 v_h_3 v_h_4 v_t1 v_t2 v_t3 v_t4 v_t5 v_t18 v_t19 (w_i64 (v_t20 + 1))
      else
        bif (v_t18.getD v_t20.toNat 0) != v_t4 then
          if (0 : Int) ≤ (v_t18.getD v_t20.toNat 0) ∧ (v_t18.getD v_t20.toNat 0) < (v_h_4.length : Int) then
          bif decide ((v_h_4.getD (0 + (v_t18.getD v_t20.toNat 0).toNat) 0) ≤ v_t3) then
            g29_L0 self m n v_h_0 v_h_1 v_h_2 v_h_3 v_h_4 v_t1 v_t2 v_t3 v_t4 v_t5 v_t18 v_t19 (w_i64 (v_t20 + 1))
          else
            if (0 : Int) ≤ (v_t18.getD v_t20.toNat 0) ∧ (v_t18.getD v_t20.toNat 0) < (v_t5.length : Int) then
            bif (v_t18.getD v_t20.toNat 0) == v_t4 then
              if (0 : Int) ≤ v_t2 ∧ v_t2 < (v_h_3.length : Int) then
              if (0 : Int) ≤ (v_t18.getD v_t20.toNat 0) ∧ (v_t18.getD v_t20.toNat 0) < (v_h_4.length : Int) then
              some (.inl ((v_h_0, v_h_1, v_h_2, v_h_3.set (0 + v_t2.toNat) (v_t18.getD v_t20.toNat 0), v_h_4.set (0 + (v_t18.getD v_t20.toNat 0).toNat) v_t2, ()), v_t5.set (0 + (v_t18.getD v_t20.toNat 0).toNat) true, true, ()))
              else none
              else none
            else
              if (0 : Int) ≤ (v_t18.getD v_t20.toNat 0) ∧ (v_t18.getD v_t20.toNat 0) < (v_h_4.length : Int) then
              (self v_h_0 v_h_1 v_h_2 v_h_3 v_h_4 v_t1 (v_h_4.getD (0 + (v_t18.getD v_t20.toNat 0).toNat) 0) v_t3 v_t4 (v_t5.set (0 + (v_t18.getD v_t20.toNat 0).toNat) true)).bind fun y1 =>
              bif y1.1 then
                if (0 : Int) ≤ v_t2 ∧ v_t2 < (y1.2.1.2.2.2.1.length : Int) then
                if (0 : Int) ≤ (v_t18.getD v_t20.toNat 0) ∧ (v_t18.getD v_t20.toNat 0) < (y1.2.1.2.2.2.2.1.length : Int) then
                some (.inl ((y1.2.1.1, y1.2.1.2.1, y1.2.1.2.2.1, y1.2.1.2.2.2.1.set (0 + v_t2.toNat) (v_t18.getD v_t20.toNat 0), y1.2.1.2.2.2.2.1.set (0 + (v_t18.getD v_t20.toNat 0).toNat) v_t2, ()), y1.2.2.2.2.2.2.1, true, ()))
                else none
                else none
              else
                g29_L0 self m n y1.2.1.1 y1.2.1.2.1 y1.2.1.2.2.1 y1.2.1.2.2.2.1 y1.2.1.2.2.2.2.1 v_t1 v_t2 v_t3 v_t4 y1.2.2.2.2.2.2.1 v_t18 v_t19 (w_i64 (v_t20 + 1))
              else none
            else none
          else none
        else
          if (0 : Int) ≤ (v_t18.getD v_t20.toNat 0) ∧ (v_t18.getD v_t20.toNat 0) < (v_t5.length : Int) then
          bif (v_t18.getD v_t20.toNat 0) == v_t4 then
            if (0 : Int) ≤ v_t2 ∧ v_t2 < (v_h_3.length : Int) then
            if (0 : Int) ≤ (v_t18.getD v_t20.toNat 0) ∧ (v_t18.getD v_t20.toNat 0) < (v_h_4.length : Int) then
            some (.inl ((v_h_0, v_h_1, v_h_2, v_h_3.set (0 + v_t2.toNat) (v_t18.getD v_t20.toNat 0), v_h_4.set (0 + (v_t18.getD v_t20.toNat 0).toNat) v_t2, ()), v_t5.set (0 + (v_t18.getD v_t20.toNat 0).toNat) true, true, ()))
            else none
            else none
          else
            if (0 : Int) ≤ (v_t18.getD v_t20.toNat 0) ∧ (v_t18.getD v_t20.toNat 0) < (v_h_4.length : Int) then
            (self v_h_0 v_h_1 v_h_2 v_h_3 v_h_4 v_t1 (v_h_4.getD (0 + (v_t18.getD v_t20.toNat 0).toNat) 0) v_t3 v_t4 (v_t5.set (0 + (v_t18.getD v_t20.toNat 0).toNat) true)).bind fun y2 =>
            bif y2.1 then
              if (0 : Int) ≤ v_t2 ∧ v_t2 < (y2.2.1.2.2.2.1.length : Int) then
              if (0 : Int) ≤ (v_t18.getD v_t20.toNat 0) ∧ (v_t18.getD v_t20.toNat 0) < (y2.2.1.2.2.2.2.1.length : Int) then
              some (.inl ((y2.2.1.1, y2.2.1.2.1, y2.2.1.2.2.1, y2.2.1.2.2.2.1.set (0 + v_t2.toNat) (v_t18.getD v_t20.toNat 0), y2.2.1.2.2.2.2.1.set (0 + (v_t18.getD v_t20.toNat 0).toNat) v_t2, ()), y2.2.2.2.2.2.2.1, true, ()))
              else none
              else none
            else
              g29_L0 self m n y2.2.1.1 y2.2.1.2.1 y2.2.1.2.2.1 y2.2.1.2.2.2.1 y2.2.1.2.2.2.2.1 v_t1 v_t2 v_t3 v_t4 y2.2.2.2.2.2.2.1 v_t18 v_t19 (w_i64 (v_t20 + 1))
            else none
          else none
      else none
      else none
    else
      some (.inr (.inl ((v_h_0, v_h_1, v_h_2, v_h_3, v_h_4, ()), v_t5, ())))
def g29 : Nat → (List (List (Int × Int))) → List Int → List Int → List Int → List Int → List (List Int) → Int → Int → Int → List Bool → Option (Bool × ((List (List (Int × Int))) × List Int × List Int × List Int × List Int × Unit) × Unit × Unit × Unit × Unit × List Bool × Unit)
  | 0, _, _, _, _, _, _, _, _, _, _ => none
  | m + 1, v_h_0, v_h_1, v_h_2, v_h_3, v_h_4, v_t1, v_t2, v_t3, v_t4, v_t5 =>
    if (0 : Int) ≤ v_t2 ∧ v_t2 < (v_t1.length : Int) then
    (g29_L0 (fun a0 a1 a2 a3 a4 a5 a6 a7 a8 a9 => g29 m a0 a1 a2 a3 a4 a5 a6 a7 a8 a9) m m v_h_0 v_h_1 v_h_2 v_h_3 v_h_4 v_t1 v_t2 v_t3 v_t4 v_t5 (v_t1.getD v_t2.toNat ([] : List Int)) ((v_t1.getD v_t2.toNat ([] : List Int)).length : Int) 0).bind fun y1 =>
    match y1 with
    | .inl z2 =>
      some (z2.2.2.1, ((z2.1.1, z2.1.2.1, z2.1.2.2.1, z2.1.2.2.2.1, z2.1.2.2.2.2.1, ()), (), (), (), (), z2.2.1, ()))
    | .inr (.inl z3) =>
      some (false, ((z3.1.1, z3.1.2.1, z3.1.2.2.1, z3.1.2.2.2.1, z3.1.2.2.2.2.1, ()), (), (), (), (), z3.2.1, ()))
    | .inr (.inr e) =>
      e.elim
    else none
/-! 17 __sparse/transversal.hungarian_.least -/
def g17_L3 (m : Nat) : Nat → (List (List (Int × Int))) → List Int → List Int → List Int → List Int → List (List Int) → Int → Int → Int → List Int → Int → Int → Option ((((List (List (Int × Int))) × List Int × List Int × List Int × List Int × Unit) × List (List Int) × Int × Int × Unit) ⊕ Empty)
  | 0, _, _, _, _, _, _, _, _, _, _, _, _ => none
  | n + 1, v_h_0, v_h_1, v_h_2, v_h_3, v_h_4, v_t2, v_t7, v_t67, v_t68, v_t74, v_t75, v_t76 =>
    bif decide (v_t76 < v_t75) then
      if (0 : Int) ≤ v_t76 ∧ v_t76 < (v_t74.length : Int) then
      if (0 : Int) ≤ v_t7 ∧ v_t7 < (v_h_3.length : Int) then
      bif (v_t74.getD v_t76.toNat 0) == (v_h_3.getD (0 + v_t7.toNat) 0) then
        some (.inl ((v_h_0, v_h_1, v_h_2, v_h_3, v_h_4, ()), v_t2, v_t67, v_t68, ()))
      else
        if (0 : Int) ≤ (v_t74.getD v_t76.toNat 0) ∧ (v_t74.getD v_t76.toNat 0) < (v_h_4.length : Int) then
        bif decide ((v_h_4.getD (0 + (v_t74.getD v_t76.toNat 0).toNat) 0) < v_t7) then
          g17_L3 m n v_h_0 v_h_1 v_h_2 v_h_3 v_h_4 v_t2 v_t7 v_t67 v_t68 v_t74 v_t75 (w_i64 (v_t76 + 1))
        else
          if (0 : Int) ≤ (v_t2.length : Int) ∧ (v_t2.length : Int) ≤ (v_t2.length : Int) ∧ (v_t2.length : Int) ≤ 1073741824 then
          if (0 : Int) ≤ (v_t74.getD v_t76.toNat 0) ∧ (v_t74.getD v_t76.toNat 0) < ((List.replicate (v_t2.length : Int).toNat false).length : Int) then
          if (0 : Int) ≤ v_t7 ∧ v_t7 < (v_h_3.length : Int) then
          (g29 m v_h_0 v_h_1 v_h_2 v_h_3 v_h_4 v_t2 (v_h_4.getD (0 + (v_t74.getD v_t76.toNat 0).toNat) 0) v_t7 (v_h_3.getD (0 + v_t7.toNat) 0) ((List.replicate (v_t2.length : Int).toNat false).set (0 + (v_t74.getD v_t76.toNat 0).toNat) true)).bind fun y1 =>
          bif y1.1 then
            if (0 : Int) ≤ v_t7 ∧ v_t7 < (y1.2.1.2.2.2.1.length : Int) then
            if (0 : Int) ≤ (v_t74.getD v_t76.toNat 0) ∧ (v_t74.getD v_t76.toNat 0) < (y1.2.1.2.2.2.2.1.length : Int) then
            some (.inl ((y1.2.1.1, y1.2.1.2.1, y1.2.1.2.2.1, y1.2.1.2.2.2.1.set (0 + v_t7.toNat) (v_t74.getD v_t76.toNat 0), y1.2.1.2.2.2.2.1.set (0 + (v_t74.getD v_t76.toNat 0).toNat) v_t7, ()), v_t2, v_t67, v_t68, ()))
            else none
            else none
          else
            g17_L3 m n y1.2.1.1 y1.2.1.2.1 y1.2.1.2.2.1 y1.2.1.2.2.2.1 y1.2.1.2.2.2.2.1 v_t2 v_t7 v_t67 v_t68 v_t74 v_t75 (w_i64 (v_t76 + 1))
          else none
          else none
          else none
        else none
      else none
      else none
    else
      some (.inl ((v_h_0, v_h_1, v_h_2, v_h_3, v_h_4, ()), v_t2, v_t67, v_t68, ()))
def g17_L2 (m : Nat) : Nat → (List (List (Int × Int))) → List Int → List Int → List Int → List Int → List (List Int) → Int → Int → Option ((((List (List (Int × Int))) × List Int × List Int × List Int × List Int × Unit) × Unit) ⊕ Empty)
  | 0, _, _, _, _, _, _, _, _ => none
  | n + 1, v_h_0, v_h_1, v_h_2, v_h_3, v_h_4, v_t2, v_t67, v_t68 =>
    bif decide (v_t68 < v_t67) then
      if (0 : Int) ≤ v_t68 ∧ v_t68 < (v_t2.length : Int) then
      (g17_L3 m m v_h_0 v_h_1 v_h_2 v_h_3 v_h_4 v_t2 v_t68 v_t67 v_t68 (v_t2.getD v_t68.toNat ([] : List Int)) ((v_t2.getD v_t68.toNat ([] : List Int)).length : Int) 0).bind fun y1 =>
      match y1 with
      | .inl z2 =>
        g17_L2 m n z2.1.1 z2.1.2.1 z2.1.2.2.1 z2.1.2.2.2.1 z2.1.2.2.2.2.1 z2.2.1 z2.2.2.1 (w_i64 (z2.2.2.2.1 + 1))
      | .inr e =>
        e.elim
      else none
    else
      some (.inl ((v_h_0, v_h_1, v_h_2, v_h_3, v_h_4, ()), ()))
def g17_L1 (m : Nat) : Nat → (List (List (Int × Int))) → List Int → List Int → List Int → List Int → List (List Int) → Int → (List (List (Int × Int))) → Int → Int → (List (Int × Int)) → Int → Int → Option ((((List (List (Int × Int))) × List Int × List Int × List Int × List Int × Unit) × List (List Int) × (List (List (Int × Int))) × Int × Int × Unit) ⊕ Empty)
  | 0, _, _, _, _, _, _, _, _, _, _, _, _, _ => none
  | n + 1, v_h_0, v_h_1, v_h_2, v_h_3, v_h_4, v_t2, v_t3, v_t21, v_t22, v_t23, v_t28, v_t29, v_t30 =>
    bif decide (v_t30 < v_t29) then
      if (0 : Int) ≤ v_t30 ∧ v_t30 < (v_t28.length : Int) then
      if (0 : Int) ≤ (v_t28.getD v_t30.toNat (0, 0)).1 ∧ (v_t28.getD v_t30.toNat (0, 0)).1 < (v_h_1.length : Int) then
      if (0 : Int) ≤ v_t3 ∧ v_t3 < (v_h_2.length : Int) then
      bif (w_i64 ((v_h_1.getD (0 + (v_t28.getD v_t30.toNat (0, 0)).1.toNat) 0) + (v_h_2.getD (0 + v_t3.toNat) 0))) == (v_t28.getD v_t30.toNat (0, 0)).2 then
        if (0 : Int) ≤ v_t3 ∧ v_t3 < (v_t2.length : Int) then
        if (v_t2.getD v_t3.toNat ([] : List Int)).length + ([(v_t28.getD v_t30.toNat (0, 0)).1] : List Int).length ≤ 1073741824 then
        if (0 : Int) ≤ v_t3 ∧ v_t3 < (v_t2.length : Int) then
        if v_t3.toNat = v_t3.toNat then
        g17_L1 m n v_h_0 v_h_1 v_h_2 v_h_3 v_h_4 (v_t2.set v_t3.toNat ((v_t2.getD v_t3.toNat ([] : List Int)) ++ ([(v_t28.getD v_t30.toNat (0, 0)).1] : List Int))) v_t3 v_t21 v_t22 v_t23 v_t28 v_t29 (w_i64 (v_t30 + 1))
        else none
        else none
        else none
        else none
      else
        g17_L1 m n v_h_0 v_h_1 v_h_2 v_h_3 v_h_4 v_t2 v_t3 v_t21 v_t22 v_t23 v_t28 v_t29 (w_i64 (v_t30 + 1))
      else none
      else none
      else none
    else
      some (.inl ((v_h_0, v_h_1, v_h_2, v_h_3, v_h_4, ()), v_t2, v_t21, v_t22, v_t23, ()))
def g17_L0 (m : Nat) : Nat → (List (List (Int × Int))) → List Int → List Int → List Int → List Int → List (List Int) → (List (List (Int × Int))) → Int → Int → Option ((((List (List (Int × Int))) × List Int × List Int × List Int × List Int × Unit) × List (List Int) × Unit) ⊕ Empty)
  | 0, _, _, _, _, _, _, _, _, _ => none
  | n + 1, v_h_0, v_h_1, v_h_2, v_h_3, v_h_4, v_t2, v_t21, v_t22, v_t23 =>
    bif decide (v_t23 < v_t22) then
      if (0 : Int) ≤ v_t23 ∧ v_t23 < (v_t21.length : Int) then
      (g17_L1 m m v_h_0 v_h_1 v_h_2 v_h_3 v_h_4 v_t2 v_t23 v_t21 v_t22 v_t23 (v_t21.getD v_t23.toNat ([] : List (Int × Int))) ((v_t21.getD v_t23.toNat ([] : List (Int × Int))).length : Int) 0).bind fun y1 =>
      match y1 with
      | .inl z2 =>
        g17_L0 m n z2.1.1 z2.1.2.1 z2.1.2.2.1 z2.1.2.2.2.1 z2.1.2.2.2.2.1 z2.2.1 z2.2.2.1 z2.2.2.2.1 (w_i64 (z2.2.2.2.2.1 + 1))
      | .inr e =>
        e.elim
      else none
    else
      some (.inl ((v_h_0, v_h_1, v_h_2, v_h_3, v_h_4, ()), v_t2, ()))
def g17 (m : Nat) (v_h_0 : List (List (Int × Int))) (v_h_1 : List Int) (v_h_2 : List Int) (v_h_3 : List Int) (v_h_4 : List Int) : Option (Unit × ((List (List (Int × Int))) × List Int × List Int × List Int × List Int × Unit) × Unit) :=
  if (0 : Int) ≤ (v_h_0.length : Int) ∧ (v_h_0.length : Int) ≤ (v_h_0.length : Int) ∧ (v_h_0.length : Int) ≤ 1073741824 then
  (g17_L0 m m v_h_0 v_h_1 v_h_2 v_h_3 v_h_4 (List.replicate (v_h_0.length : Int).toNat ([] : List Int)) v_h_0 (v_h_0.length : Int) 0).bind fun y1 =>
  match y1 with
  | .inl z2 =>
    (g17_L2 m m z2.1.1 z2.1.2.1 z2.1.2.2.1 z2.1.2.2.2.1 z2.1.2.2.2.2.1 z2.2.1 (z2.2.1.length : Int) 0).bind fun y3 =>
    match y3 with
    | .inl z4 =>
      some ((), ((z4.1.1, z4.1.2.1, z4.1.2.2.1, z4.1.2.2.2.1, z4.1.2.2.2.2.1, ()), ()))
    | .inr e =>
      e.elim
  | .inr e =>
    e.elim
  else none
/-! 18 __sparse/transversal.hungarian_.duals -/
def g18_L5 (m : Nat) : Nat → (List (List (Int × Int))) → List Int → List Int → List Int → List Int → List Int → List Int → List Int → Int → Int → Option ((((List (List (Int × Int))) × List Int × List Int × List Int × List Int × Unit) × List Int × List Int × Unit) ⊕ Empty)
  | 0, _, _, _, _, _, _, _, _, _, _ => none
  | n + 1, v_h_0, v_h_1, v_h_2, v_h_3, v_h_4, v_t2, v_t3, v_t5, v_t116, v_t117 =>
    bif decide (v_t117 < v_t116) then
      if (0 : Int) ≤ v_t117 ∧ v_t117 < (v_h_3.length : Int) then
      if (0 : Int) ≤ v_t117 ∧ v_t117 < (v_t5.length : Int) then
      if (0 : Int) ≤ v_t117 ∧ v_t117 < (v_t3.length : Int) then
      if (0 : Int) ≤ (v_h_3.getD (0 + v_t117.toNat) 0) ∧ (v_h_3.getD (0 + v_t117.toNat) 0) < (v_t2.length : Int) then
      g18_L5 m n v_h_0 v_h_1 v_h_2 v_h_3 v_h_4 (v_t2.set (0 + (v_h_3.getD (0 + v_t117.toNat) 0).toNat) (w_i64 ((v_t5.getD (0 + v_t117.toNat) 0) - (v_t3.getD (0 + v_t117.toNat) 0)))) v_t3 v_t5 v_t116 (w_i64 (v_t117 + 1))
      else none
      else none
      else none
      else none
    else
      some (.inl ((v_h_0, v_h_1, v_h_2, v_h_3, v_h_4, ()), v_t2, v_t3, ()))
def g18_L4 (m : Nat) : Nat → (List (List (Int × Int))) → List Int → List Int → List Int → List Int → List Int → List Int → List Int → Bool → Int → (List (List (Int × Int))) → Int → Int → (List (Int × Int)) → Int → Int → Option ((((List (List (Int × Int))) × List Int × List Int × List Int × List Int × Unit) × List Int × List Int × List Int × Bool × (List (List (Int × Int))) × Int × Int × Unit) ⊕ Empty)
  | 0, _, _, _, _, _, _, _, _, _, _, _, _, _, _, _, _ => none
  | n + 1, v_h_0, v_h_1, v_h_2, v_h_3, v_h_4, v_t2, v_t3, v_t5, v_t10, v_t11, v_t67, v_t68, v_t69, v_t74, v_t75, v_t76 =>
    bif decide (v_t76 < v_t75) then
      if (0 : Int) ≤ v_t76 ∧ v_t76 < (v_t74.length : Int) then
      if (0 : Int) ≤ (v_t74.getD v_t76.toNat (0, 0)).1 ∧ (v_t74.getD v_t76.toNat (0, 0)).1 < (v_h_4.length : Int) then
      if (0 : Int) ≤ (v_h_4.getD (0 + (v_t74.getD v_t76.toNat (0, 0)).1.toNat) 0) ∧ (v_h_4.getD (0 + (v_t74.getD v_t76.toNat (0, 0)).1.toNat) 0) < (v_t3.length : Int) then
      if (0 : Int) ≤ (v_h_4.getD (0 + (v_t74.getD v_t76.toNat (0, 0)).1.toNat) 0) ∧ (v_h_4.getD (0 + (v_t74.getD v_t76.toNat (0, 0)).1.toNat) 0) < (v_t5.length : Int) then
      if (0 : Int) ≤ v_t11 ∧ v_t11 < (v_t3.length : Int) then
      bif decide ((v_t3.getD (0 + v_t11.toNat) 0) < (w_i64 ((w_i64 ((v_t3.getD (0 + (v_h_4.getD (0 + (v_t74.getD v_t76.toNat (0, 0)).1.toNat) 0).toNat) 0) + (v_t74.getD v_t76.toNat (0, 0)).2)) - (v_t5.getD (0 + (v_h_4.getD (0 + (v_t74.getD v_t76.toNat (0, 0)).1.toNat) 0).toNat) 0)))) then
        if (0 : Int) ≤ v_t11 ∧ v_t11 < (v_t3.length : Int) then
        g18_L4 m n v_h_0 v_h_1 v_h_2 v_h_3 v_h_4 v_t2 (v_t3.set (0 + v_t11.toNat) (w_i64 ((w_i64 ((v_t3.getD (0 + (v_h_4.getD (0 + (v_t74.getD v_t76.toNat (0, 0)).1.toNat) 0).toNat) 0) + (v_t74.getD v_t76.toNat (0, 0)).2)) - (v_t5.getD (0 + (v_h_4.getD (0 + (v_t74.getD v_t76.toNat (0, 0)).1.toNat) 0).toNat) 0)))) v_t5 true v_t11 v_t67 v_t68 v_t69 v_t74 v_t75 (w_i64 (v_t76 + 1))
        else none
      else
        g18_L4 m n v_h_0 v_h_1 v_h_2 v_h_3 v_h_4 v_t2 v_t3 v_t5 v_t10 v_t11 v_t67 v_t68 v_t69 v_t74 v_t75 (w_i64 (v_t76 + 1))
      else none
      else none
      else none
      else none
      else none
    else
      some (.inl ((v_h_0, v_h_1, v_h_2, v_h_3, v_h_4, ()), v_t2, v_t3, v_t5, v_t10, v_t67, v_t68, v_t69, ()))
def g18_L3 (m : Nat) : Nat → (List (List (Int × Int))) → List Int → List Int → List Int → List Int → List Int → List Int → List Int → Bool → (List (List (Int × Int))) → Int → Int → Option ((((List (List (Int × Int))) × List Int × List Int × List Int × List Int × Unit) × List Int × List Int × List Int × Bool × Unit) ⊕ Empty)
  | 0, _, _, _, _, _, _, _, _, _, _, _, _ => none
  | n + 1, v_h_0, v_h_1, v_h_2, v_h_3, v_h_4, v_t2, v_t3, v_t5, v_t10, v_t67, v_t68, v_t69 =>
    bif decide (v_t69 < v_t68) then
      if (0 : Int) ≤ v_t69 ∧ v_t69 < (v_t67.length : Int) then
      (g18_L4 m m v_h_0 v_h_1 v_h_2 v_h_3 v_h_4 v_t2 v_t3 v_t5 v_t10 v_t69 v_t67 v_t68 v_t69 (v_t67.getD v_t69.toNat ([] : List (Int × Int))) ((v_t67.getD v_t69.toNat ([] : List (Int × Int))).length : Int) 0).bind fun y1 =>
      match y1 with
      | .inl z2 =>
        g18_L3 m n z2.1.1 z2.1.2.1 z2.1.2.2.1 z2.1.2.2.2.1 z2.1.2.2.2.2.1 z2.2.1 z2.2.2.1 z2.2.2.2.1 z2.2.2.2.2.1 z2.2.2.2.2.2.1 z2.2.2.2.2.2.2.1 (w_i64 (z2.2.2.2.2.2.2.2.1 + 1))
      | .inr e =>
        e.elim
      else none
    else
      some (.inl ((v_h_0, v_h_1, v_h_2, v_h_3, v_h_4, ()), v_t2, v_t3, v_t5, v_t10, ()))
def g18_L2 (m : Nat) : Nat → (List (List (Int × Int))) → List Int → List Int → List Int → List Int → List Int → List Int → List Int → Bool → Option ((((List (List (Int × Int))) × List Int × List Int × List Int × List Int × Unit) × List Int × List Int × List Int × Unit) ⊕ Empty)
  | 0, _, _, _, _, _, _, _, _, _ => none
  | n + 1, v_h_0, v_h_1, v_h_2, v_h_3, v_h_4, v_t2, v_t3, v_t5, v_t10 =>
    bif v_t10 then
      (g18_L3 m m v_h_0 v_h_1 v_h_2 v_h_3 v_h_4 v_t2 v_t3 v_t5 false v_h_0 (v_h_0.length : Int) 0).bind fun y1 =>
      match y1 with
      | .inl z2 =>
        g18_L2 m n z2.1.1 z2.1.2.1 z2.1.2.2.1 z2.1.2.2.2.1 z2.1.2.2.2.2.1 z2.2.1 z2.2.2.1 z2.2.2.2.1 z2.2.2.2.2.1
      | .inr e =>
        e.elim
    else
      some (.inl ((v_h_0, v_h_1, v_h_2, v_h_3, v_h_4, ()), v_t2, v_t3, v_t5, ()))
def g18_L1 (m : Nat) : Nat → (List (List (Int × Int))) → List Int → List Int → List Int → List Int → List Int → List Int → List Int → Int → (List (List (Int × Int))) → Int → Int → (List (Int × Int)) → Int → Int → Option ((((List (List (Int × Int))) × List Int × List Int × List Int × List Int × Unit) × List Int × List Int × List Int × (List (List (Int × Int))) × Int × Int × Unit) ⊕ Empty)
  | 0, _, _, _, _, _, _, _, _, _, _, _, _, _, _, _ => none
  | n + 1, v_h_0, v_h_1, v_h_2, v_h_3, v_h_4, v_t2, v_t3, v_t5, v_t6, v_t33, v_t34, v_t35, v_t40, v_t41, v_t42 =>
    bif decide (v_t42 < v_t41) then
      if (0 : Int) ≤ v_t42 ∧ v_t42 < (v_t40.length : Int) then
      if (0 : Int) ≤ v_t6 ∧ v_t6 < (v_h_3.length : Int) then
      bif (v_t40.getD v_t42.toNat (0, 0)).1 == (v_h_3.getD (0 + v_t6.toNat) 0) then
        if (0 : Int) ≤ v_t6 ∧ v_t6 < (v_t5.length : Int) then
        g18_L1 m n v_h_0 v_h_1 v_h_2 v_h_3 v_h_4 v_t2 v_t3 (v_t5.set (0 + v_t6.toNat) (v_t40.getD v_t42.toNat (0, 0)).2) v_t6 v_t33 v_t34 v_t35 v_t40 v_t41 (w_i64 (v_t42 + 1))
        else none
      else
        g18_L1 m n v_h_0 v_h_1 v_h_2 v_h_3 v_h_4 v_t2 v_t3 v_t5 v_t6 v_t33 v_t34 v_t35 v_t40 v_t41 (w_i64 (v_t42 + 1))
      else none
      else none
    else
      some (.inl ((v_h_0, v_h_1, v_h_2, v_h_3, v_h_4, ()), v_t2, v_t3, v_t5, v_t33, v_t34, v_t35, ()))
def g18_L0 (m : Nat) : Nat → (List (List (Int × Int))) → List Int → List Int → List Int → List Int → List Int → List Int → List Int → (List (List (Int × Int))) → Int → Int → Option ((((List (List (Int × Int))) × List Int × List Int × List Int × List Int × Unit) × List Int × List Int × List Int × Unit) ⊕ Empty)
  | 0, _, _, _, _, _, _, _, _, _, _, _ => none
  | n + 1, v_h_0, v_h_1, v_h_2, v_h_3, v_h_4, v_t2, v_t3, v_t5, v_t33, v_t34, v_t35 =>
    bif decide (v_t35 < v_t34) then
      if (0 : Int) ≤ v_t35 ∧ v_t35 < (v_t33.length : Int) then
      (g18_L1 m m v_h_0 v_h_1 v_h_2 v_h_3 v_h_4 v_t2 v_t3 v_t5 v_t35 v_t33 v_t34 v_t35 (v_t33.getD v_t35.toNat ([] : List (Int × Int))) ((v_t33.getD v_t35.toNat ([] : List (Int × Int))).length : Int) 0).bind fun y1 =>
      match y1 with
      | .inl z2 =>
        g18_L0 m n z2.1.1 z2.1.2.1 z2.1.2.2.1 z2.1.2.2.2.1 z2.1.2.2.2.2.1 z2.2.1 z2.2.2.1 z2.2.2.2.1 z2.2.2.2.2.1 z2.2.2.2.2.2.1 (w_i64 (z2.2.2.2.2.2.2.1 + 1))
      | .inr e =>
        e.elim
      else none
    else
      some (.inl ((v_h_0, v_h_1, v_h_2, v_h_3, v_h_4, ()), v_t2, v_t3, v_t5, ()))
def g18 (m : Nat) (v_h_0 : List (List (Int × Int))) (v_h_1 : List Int) (v_h_2 : List Int) (v_h_3 : List Int) (v_h_4 : List Int) : Option ((List Int × List Int × Unit) × ((List (List (Int × Int))) × List Int × List Int × List Int × List Int × Unit) × Unit) :=
  (g25 m (v_h_0.length : Int) 0).bind fun y1 =>
  (g25 m (v_h_0.length : Int) 0).bind fun y2 =>
  (g25 m (v_h_0.length : Int) 0).bind fun y3 =>
  (g18_L0 m m v_h_0 v_h_1 v_h_2 v_h_3 v_h_4 y1.1 y2.1 y3.1 v_h_0 (v_h_0.length : Int) 0).bind fun y4 =>
  match y4 with
  | .inl z5 =>
    (g18_L2 m m z5.1.1 z5.1.2.1 z5.1.2.2.1 z5.1.2.2.2.1 z5.1.2.2.2.2.1 z5.2.1 z5.2.2.1 z5.2.2.2.1 true).bind fun y6 =>
    match y6 with
    | .inl z7 =>
      (g18_L5 m m z7.1.1 z7.1.2.1 z7.1.2.2.1 z7.1.2.2.2.1 z7.1.2.2.2.2.1 z7.2.1 z7.2.2.1 z7.2.2.2.1 (z7.1.2.2.2.1.length : Int) 0).bind fun y8 =>
      match y8 with
      | .inl z9 =>
        some ((z9.2.1, z9.2.2.1, ()), ((z9.1.1, z9.1.2.1, z9.1.2.2.1, z9.1.2.2.2.1, z9.1.2.2.2.2.1, ()), ()))
      | .inr e =>
        e.elim
    | .inr e =>
      e.elim
  | .inr e =>
    e.elim
/-! 7 sparse/transversal.Maximum -/
def g7 (m : Nat) (v_m_0 : Int) (v_m_1 : Int) (v_m_2 : List Int) (v_m_3 : List Int) (v_m_4 : List Int) : Option (((List Int × List Int × List Int × Unit) × Int × Unit) × Unit × Unit) :=
  (g14 m v_m_0 v_m_1 v_m_2 v_m_3 v_m_4).bind fun y1 =>
  bif y1.1 != 0 then
    some (((([] : List Int), ([] : List Int), ([] : List Int), ()), y1.1, ()), ((), ()))
  else
    (g16 m v_m_0 v_m_1 v_m_2 v_m_3 v_m_4).bind fun y2 =>
    (g15 m y2.1).bind fun y3 =>
    match y3.1 with
    | .inl r4 =>
      some (((([] : List Int), ([] : List Int), ([] : List Int), ()), 9, ()), ((), ()))
    | .inr r5 =>
      (g17 m r5.1.1 r5.1.2.1 r5.1.2.2.1 r5.1.2.2.2.1 r5.1.2.2.2.2.1).bind fun y6 =>
      (g18 m y6.2.1.1 y6.2.1.2.1 y6.2.1.2.2.1 y6.2.1.2.2.2.1 y6.2.1.2.2.2.2.1).bind fun y7 =>
      some (((y7.2.1.2.2.2.1, y7.1.1, y7.1.2.1, ()), 0, ()), ((), ()))
/-! 10 sparse/sparsekit.Ints -/
def g10_L0 (m : Nat) : Nat → List Int → List Int → Int → Option ((Bool × Unit) ⊕ Unit ⊕ Empty)
  | 0, _, _, _ => none
  | n + 1, v_a, v_b, v_i =>
    bif decide (v_i < (v_a.length : Int)) then
      if (0 : Int) ≤ v_i ∧ v_i < (v_a.length : Int) then
      if (0 : Int) ≤ v_i ∧ v_i < (v_b.length : Int) then
      bif (v_a.getD v_i.toNat 0) != (v_b.getD v_i.toNat 0) then
        some (.inl (false, ()))
      else
        g10_L0 m n v_a v_b (w_i64 (v_i + 1))
      else none
      else none
    else
      some (.inr (.inl ()))
def g10 (m : Nat) (v_a : List Int) (v_b : List Int) : Option (Bool × Unit × Unit × Unit) :=
  bif (v_a.length : Int) != (v_b.length : Int) then
    some (false, ((), (), ()))
  else
    (g10_L0 m m v_a v_b 0).bind fun y1 =>
    match y1 with
    | .inl z2 =>
      some (z2.1, ((), (), ()))
    | .inr (.inl z3) =>
      some (true, ((), (), ()))
    | .inr (.inr e) =>
      e.elim
/-! 19 sparse/transversal.matched -/
def g19_L1 (m : Nat) : Nat → (List (List (Int × Int))) → List Bool → Int → Bool → List Int → Int → Int → (List (Int × Int)) → Int → Int → Option (((List (List (Int × Int))) × List Bool × Int × Bool × List Int × Int × Int × Unit) ⊕ Empty)
  | 0, _, _, _, _, _, _, _, _, _, _ => none
  | n + 1, v_l, v_used, v_i, v_found, v_t14, v_t15, v_t16, v_t24, v_t25, v_t26 =>
    bif decide (v_t26 < v_t25) then
      if (0 : Int) ≤ v_t26 ∧ v_t26 < (v_t24.length : Int) then
      bif v_found then
        g19_L1 m n v_l v_used v_i true v_t14 v_t15 v_t16 v_t24 v_t25 (w_i64 (v_t26 + 1))
      else
        g19_L1 m n v_l v_used v_i ((v_t24.getD v_t26.toNat (0, 0)).1 == v_i) v_t14 v_t15 v_t16 v_t24 v_t25 (w_i64 (v_t26 + 1))
      else none
    else
      some (.inl (v_l, v_used, v_i, v_found, v_t14, v_t15, v_t16, ()))
def g19_L0 (m : Nat) : Nat → (List (List (Int × Int))) → List Bool → List Int → Int → Int → Option ((Bool × Unit) ⊕ Unit ⊕ Empty)
  | 0, _, _, _, _, _ => none
  | n + 1, v_l, v_used, v_t14, v_t15, v_t16 =>
    bif decide (v_t16 < v_t15) then
      if (0 : Int) ≤ v_t16 ∧ v_t16 < (v_t14.length : Int) then
      if (0 : Int) ≤ v_t16 ∧ v_t16 < (v_l.length : Int) then
      (g19_L1 m m v_l v_used (v_t14.getD v_t16.toNat 0) false v_t14 v_t15 v_t16 (v_l.getD v_t16.toNat ([] : List (Int × Int))) ((v_l.getD v_t16.toNat ([] : List (Int × Int))).length : Int) 0).bind fun y1 =>
      match y1 with
      | .inl z2 =>
        bif !z2.2.2.2.1 then
          some (.inl (false, ()))
        else
          if (0 : Int) ≤ z2.2.2.1 ∧ z2.2.2.1 < (z2.2.1.length : Int) then
          bif z2.2.1.getD (0 + z2.2.2.1.toNat) false then
            some (.inl (false, ()))
          else
            if (0 : Int) ≤ z2.2.2.1 ∧ z2.2.2.1 < (z2.2.1.length : Int) then
            g19_L0 m n z2.1 (z2.2.1.set (0 + z2.2.2.1.toNat) true) z2.2.2.2.2.1 z2.2.2.2.2.2.1 (w_i64 (z2.2.2.2.2.2.2.1 + 1))
            else none
          else none
      | .inr e =>
        e.elim
      else none
      else none
    else
      some (.inr (.inl ()))
def g19 (m : Nat) (v_l : List (List (Int × Int))) (v_rowOf : List Int) : Option (Bool × Unit × Unit × Unit) :=
  if (0 : Int) ≤ (v_l.length : Int) ∧ (v_l.length : Int) ≤ (v_l.length : Int) ∧ (v_l.length : Int) ≤ 1073741824 then
  (g19_L0 m m v_l (List.replicate (v_l.length : Int).toNat false) v_rowOf (v_rowOf.length : Int) 0).bind fun y1 =>
  match y1 with
  | .inl z2 =>
    some (z2.1, ((), (), ()))
  | .inr (.inl z3) =>
    some (true, ((), (), ()))
  | .inr (.inr e) =>
    e.elim
  else none
/-! 30 sparse/transversal.sum -/
def g30 (m : Nat) (v_a : Int) (v_b : Int) : Option (Int × Unit × Unit × Unit) :=
  bif decide (v_a > 0) then
    bif decide (v_b > 0) then
      bif decide ((w_i64 (v_a + v_b)) < 0) then
        some (1099511627776, ((), (), ()))
      else
        bif decide (v_a < 0) then
          bif decide (v_b < 0) then
            bif decide ((w_i64 (v_a + v_b)) ≥ 0) then
              some ((-1099511627776), ((), (), ()))
            else
              some (w_i64 (v_a + v_b), ((), (), ()))
          else
            some (w_i64 (v_a + v_b), ((), (), ()))
        else
          some (w_i64 (v_a + v_b), ((), (), ()))
    else
      bif decide (v_a < 0) then
        bif decide (v_b < 0) then
          bif decide ((w_i64 (v_a + v_b)) ≥ 0) then
            some ((-1099511627776), ((), (), ()))
          else
            some (w_i64 (v_a + v_b), ((), (), ()))
        else
          some (w_i64 (v_a + v_b), ((), (), ()))
      else
        some (w_i64 (v_a + v_b), ((), (), ()))
  else
    bif decide (v_a < 0) then
      bif decide (v_b < 0) then
        bif decide ((w_i64 (v_a + v_b)) ≥ 0) then
          some ((-1099511627776), ((), (), ()))
        else
          some (w_i64 (v_a + v_b), ((), (), ()))
      else
        some (w_i64 (v_a + v_b), ((), (), ()))
    else
      some (w_i64 (v_a + v_b), ((), (), ()))
/-! 20 sparse/transversal.proved -/
def g20_L1 (m : Nat) : Nat → List Int → List Int → List Int → Int → (List (List (Int × Int))) → Int → Int → (List (Int × Int)) → Int → Int → Option ((Bool × Unit) ⊕ ((List Int × List Int × List Int × Unit) × (List (List (Int × Int))) × Int × Int × Unit) ⊕ Empty)
  | 0, _, _, _, _, _, _, _, _, _, _ => none
  | n + 1, v_t_0, v_t_1, v_t_2, v_j, v_t10, v_t11, v_t12, v_t17, v_t18, v_t19 =>
    bif decide (v_t19 < v_t18) then
      if (0 : Int) ≤ v_t19 ∧ v_t19 < (v_t17.length : Int) then
      if (0 : Int) ≤ (v_t17.getD v_t19.toNat (0, 0)).1 ∧ (v_t17.getD v_t19.toNat (0, 0)).1 < (v_t_1.length : Int) then
      if (0 : Int) ≤ v_j ∧ v_j < (v_t_2.length : Int) then
      (g30 m (v_t_1.getD (v_t17.getD v_t19.toNat (0, 0)).1.toNat 0) (v_t_2.getD v_j.toNat 0)).bind fun y1 =>
      bif decide (y1.1 < (v_t17.getD v_t19.toNat (0, 0)).2) then
        some (.inl (false, ()))
      else
        bif decide (y1.1 > (v_t17.getD v_t19.toNat (0, 0)).2) then
          if (0 : Int) ≤ v_j ∧ v_j < (v_t_0.length : Int) then
          bif (v_t17.getD v_t19.toNat (0, 0)).1 == (v_t_0.getD v_j.toNat 0) then
            some (.inl (false, ()))
          else
            g20_L1 m n v_t_0 v_t_1 v_t_2 v_j v_t10 v_t11 v_t12 v_t17 v_t18 (w_i64 (v_t19 + 1))
          else none
        else
          g20_L1 m n v_t_0 v_t_1 v_t_2 v_j v_t10 v_t11 v_t12 v_t17 v_t18 (w_i64 (v_t19 + 1))
      else none
      else none
      else none
    else
      some (.inr (.inl ((v_t_0, v_t_1, v_t_2, ()), v_t10, v_t11, v_t12, ())))
def g20_L0 (m : Nat) : Nat → List Int → List Int → List Int → (List (List (Int × Int))) → Int → Int → Option ((Bool × Unit) ⊕ Unit ⊕ Empty)
  | 0, _, _, _, _, _, _ => none
  | n + 1, v_t_0, v_t_1, v_t_2, v_t10, v_t11, v_t12 =>
    bif decide (v_t12 < v_t11) then
      if (0 : Int) ≤ v_t12 ∧ v_t12 < (v_t10.length : Int) then
      (g20_L1 m m v_t_0 v_t_1 v_t_2 v_t12 v_t10 v_t11 v_t12 (v_t10.getD v_t12.toNat ([] : List (Int × Int))) ((v_t10.getD v_t12.toNat ([] : List (Int × Int))).length : Int) 0).bind fun y1 =>
      match y1 with
      | .inl z2 =>
        some (.inl (z2.1, ()))
      | .inr (.inl z3) =>
        g20_L0 m n z3.1.1 z3.1.2.1 z3.1.2.2.1 z3.2.1 z3.2.2.1 (w_i64 (z3.2.2.2.1 + 1))
      | .inr (.inr e) =>
        e.elim
      else none
    else
      some (.inr (.inl ()))
def g20 (m : Nat) (v_l : List (List (Int × Int))) (v_t_0 : List Int) (v_t_1 : List Int) (v_t_2 : List Int) : Option (Bool × Unit × Unit × Unit) :=
  (g20_L0 m m v_t_0 v_t_1 v_t_2 v_l (v_l.length : Int) 0).bind fun y1 =>
  match y1 with
  | .inl z2 =>
    some (z2.1, ((), (), ()))
  | .inr (.inl z3) =>
    some (true, ((), (), ()))
  | .inr (.inr e) =>
    e.elim
/-! 9 sparse/transversal.Check -/
def g9 (m : Nat) (v_m_0 : Int) (v_m_1 : Int) (v_m_2 : List Int) (v_m_3 : List Int) (v_m_4 : List Int) (v_t_0 : List Int) (v_t_1 : List Int) (v_t_2 : List Int) : Option (Int × Unit × Unit × Unit) :=
  (g14 m v_m_0 v_m_1 v_m_2 v_m_3 v_m_4).bind fun y1 =>
  bif y1.1 != 0 then
    some (y1.1, ((), (), ()))
  else
    bif (v_t_0.length : Int) != v_m_1 then
      some (2, ((), (), ()))
    else
      bif (v_t_1.length : Int) != v_m_1 then
        some (2, ((), (), ()))
      else
        bif (v_t_2.length : Int) != v_m_1 then
          some (2, ((), (), ()))
        else
          (g16 m v_m_0 v_m_1 v_m_2 v_m_3 v_m_4).bind fun y2 =>
          (g19 m y2.1 v_t_0).bind fun y3 =>
          bif !y3.1 then
            some (130, ((), (), ()))
          else
            (g20 m y2.1 v_t_0 v_t_1 v_t_2).bind fun y4 =>
            bif !y4.1 then
              some (140, ((), (), ()))
            else
              some (0, ((), (), ()))
/-! 4 sparse/sparselaw14.awake -/
def sparselaw14_awake (m : Nat) : Option (Bool × Unit) :=
  (g7 m 2 2 ([0, 2, 4] : List Int) ([0, 1, 0, 1] : List Int) ([4607182418800017408, 4620693217682128896, 4620693217682128896, 0] : List Int)).bind fun y1 =>
  bif y1.1.2.1 == 0 then
    (g10 m y1.1.1.1 ([1, 0] : List Int)).bind fun y2 =>
    bif y2.1 then
      (g10 m y1.1.1.2.1 ([3, 3] : List Int)).bind fun y3 =>
      bif y3.1 then
        (g10 m y1.1.1.2.2.1 ([0, 0] : List Int)).bind fun y4 =>
        bif y4.1 then
          (g9 m 2 2 ([0, 2, 4] : List Int) ([0, 1, 0, 1] : List Int) ([4607182418800017408, 4620693217682128896, 4620693217682128896, 0] : List Int) y1.1.1.1 y1.1.1.2.1 y1.1.1.2.2.1).bind fun y5 =>
          some (y5.1 == 0, ())
        else
          some (false, ())
      else
        some (false, ())
    else
      some (false, ())
  else
    some (false, ())
/-! 5 sparse/sparsekit.Place -/
def g5 (m : Nat) (v_a : Int) (v_n : Int) : Option (Int × Unit × Unit × Unit) :=
  if (w_u64 v_n) ≠ 0 then
  some (w_i64 (Int.tmod (w_u64 v_a) (w_u64 v_n)), ((), (), ()))
  else none
/-! 12 sparse/sparsemake.At -/
def g12 (m : Nat) (v_l : List Int) (v_i : Int) : Option (Int × Unit × Unit × Unit) :=
  bif decide (v_i < (v_l.length : Int)) then
    if (0 : Int) ≤ v_i ∧ v_i < (v_l.length : Int) then
    some (v_l.getD v_i.toNat 0, ((), (), ()))
    else none
  else
    some (0, ((), (), ()))
/-! 68 sparse/sparseref01.trim -/
def g68_L1 (m : Nat) : Nat → List Int → Int → List Int → Int → Option ((List Int × Unit) ⊕ Empty)
  | 0, _, _, _, _ => none
  | n + 1, v_m, v_n, v_out, v_i =>
    bif decide (v_i < v_n) then
      if (0 : Int) ≤ v_i ∧ v_i < (v_m.length : Int) then
      if v_out.length + ([v_m.getD v_i.toNat 0] : List Int).length ≤ 1073741824 then
      g68_L1 m n v_m v_n (v_out ++ ([v_m.getD v_i.toNat 0] : List Int)) (w_i64 (v_i + 1))
      else none
      else none
    else
      some (.inl (v_out, ()))
def g68_L0 (m : Nat) : Nat → List Int → Int → Option ((List Int × Int × Unit) ⊕ Empty)
  | 0, _, _ => none
  | n + 1, v_m, v_n =>
    bif decide (v_n > 0) then
      if (0 : Int) ≤ (w_i64 (v_n - 1)) ∧ (w_i64 (v_n - 1)) < (v_m.length : Int) then
      bif (v_m.getD (w_i64 (v_n - 1)).toNat 0) == 0 then
        g68_L0 m n v_m (w_i64 (v_n - 1))
      else
        some (.inl (v_m, v_n, ()))
      else none
    else
      some (.inl (v_m, v_n, ()))
def g68 (m : Nat) (v_m : List Int) : Option (List Int × Unit × Unit) :=
  (g68_L0 m m v_m (v_m.length : Int)).bind fun y1 =>
  match y1 with
  | .inl z2 =>
    (g68_L1 m m z2.1 z2.2.1 ([] : List Int) 0).bind fun y3 =>
    match y3 with
    | .inl z4 =>
      some (z4.1, ((), ()))
    | .inr e =>
      e.elim
  | .inr e =>
    e.elim
/-! 55 sparse/sparseref01.make1 -/
def g55 (m : Nat) (v_neg : Bool) (v_m : List Int) : Option ((Bool × List Int × Unit) × Unit × Unit × Unit) :=
  (g68 m v_m).bind fun y1 =>
  bif v_neg then
    some ((decide ((y1.1.length : Int) > 0), y1.1, ()), ((), (), ()))
  else
    some ((false, y1.1, ()), ((), (), ()))
/-! 37 sparse/sparseref01.FromInt -/
def g37 (m : Nat) (v_n : Int) : Option ((Bool × List Int × Unit) × Unit × Unit) :=
  bif decide (v_n < 0) then
    (g55 m (decide (v_n < 0)) ([w_u32 (w_u64 ((w_u64 (w_i64 (0 - (w_i64 (v_n + 1))))) + 1)), w_u32 (shr_ .u64 (w_u64 ((w_u64 (w_i64 (0 - (w_i64 (v_n + 1))))) + 1)) 32)] : List Int)).bind fun y1 =>
    some ((y1.1.1, y1.1.2.1, ()), ((), ()))
  else
    (g55 m (decide (v_n < 0)) ([w_u32 (w_u64 v_n), w_u32 (shr_ .u64 (w_u64 v_n) 32)] : List Int)).bind fun y2 =>
    some ((y2.1.1, y2.1.2.1, ()), ((), ()))
/-! 48 sparse/sparseref01.Norm -/
def g48 (m : Nat) (v_a_0 : Bool) (v_a_1 : List Int) : Option ((Bool × List Int × Unit) × Unit × Unit) :=
  (g55 m v_a_0 v_a_1).bind fun y1 =>
  some ((y1.1.1, y1.1.2.1, ()), ((), ()))
/-! 35 sparse/sparseref02.Bad -/
def g35 (m : Nat) : Option ((Bool × Bool × List Int × Int × Unit) × Unit) :=
  some ((true, false, ([] : List Int), 0, ()), ())
/-! 56 sparse/sparseref01.TrailingZeros -/
def g56_L0 (m : Nat) : Nat → List Int → Int → Option ((Int × Unit) ⊕ Unit ⊕ Empty)
  | 0, _, _ => none
  | n + 1, v_m, v_i =>
    bif decide (v_i < (v_m.length : Int)) then
      if (0 : Int) ≤ v_i ∧ v_i < (v_m.length : Int) then
      bif (v_m.getD (0 + v_i.toNat) 0) != 0 then
        if (0 : Int) ≤ v_i ∧ v_i < (v_m.length : Int) then
        (g76 m (v_m.getD (0 + v_i.toNat) 0)).bind fun y1 =>
        some (.inl (w_i64 ((w_i64 (32 * v_i)) + y1.1), ()))
        else none
      else
        g56_L0 m n v_m (w_i64 (v_i + 1))
      else none
    else
      some (.inr (.inl ()))
def g56 (m : Nat) (v_a_0 : Bool) (v_a_1 : List Int) : Option (Int × Unit × Unit) :=
  (g68 m v_a_1).bind fun y1 =>
  (g56_L0 m m y1.1 0).bind fun y2 =>
  match y2 with
  | .inl z3 =>
    some (z3.1, ((), ()))
  | .inr (.inl z4) =>
    some (0, ((), ()))
  | .inr (.inr e) =>
    e.elim
/-! 34 sparse/sparseref01.Abs -/
def g34 (m : Nat) (v_a_0 : Bool) (v_a_1 : List Int) : Option ((Bool × List Int × Unit) × Unit × Unit) :=
  (g55 m false v_a_1).bind fun y1 =>
  some ((y1.1.1, y1.1.2.1, ()), ((), ()))
/-! 73 sparse/sparseref01.shl -/
def g73_L0 (m : Nat) : Nat → List Int → Int → List Int → Int → Int → Option ((List Int × Int × Unit) ⊕ Empty)
  | 0, _, _, _, _, _ => none
  | n + 1, v_m, v_n, v_out, v_c, v_i =>
    bif decide (v_i < (v_m.length : Int)) then
      if (0 : Int) ≤ v_i ∧ v_i < (v_m.length : Int) then
      if (0 : Int) ≤ (Int.tmod v_n 32) then
      if v_out.length + ([w_u32 (b_or_ .u64 v_c (shl_ .u64 (w_u64 (v_m.getD v_i.toNat 0)) (Int.tmod v_n 32)))] : List Int).length ≤ 1073741824 then
      g73_L0 m n v_m v_n (v_out ++ ([w_u32 (b_or_ .u64 v_c (shl_ .u64 (w_u64 (v_m.getD v_i.toNat 0)) (Int.tmod v_n 32)))] : List Int)) (shr_ .u64 (b_or_ .u64 v_c (shl_ .u64 (w_u64 (v_m.getD v_i.toNat 0)) (Int.tmod v_n 32))) 32) (w_i64 (v_i + 1))
      else none
      else none
      else none
    else
      some (.inl (v_out, v_c, ()))
def g73 (m : Nat) (v_m : List Int) (v_n : Int) : Option (List Int × Unit × Unit × Unit) :=
  if (0 : Int) ≤ (w_i64 (Int.tdiv v_n 32)) ∧ (w_i64 (Int.tdiv v_n 32)) ≤ (w_i64 (Int.tdiv v_n 32)) ∧ (w_i64 (Int.tdiv v_n 32)) ≤ 1073741824 then
  (g73_L0 m m v_m v_n (List.replicate (w_i64 (Int.tdiv v_n 32)).toNat (0 : Int)) 0 0).bind fun y1 =>
  match y1 with
  | .inl z2 =>
    if z2.1.length + ([w_u32 z2.2.1] : List Int).length ≤ 1073741824 then
    some (z2.1 ++ ([w_u32 z2.2.1] : List Int), ((), (), ()))
    else none
  | .inr e =>
    e.elim
  else none
/-! 74 sparse/sparseref01.shr -/
def g74_L1 (m : Nat) : Nat → List Int → Int → Bool → List Int → Int → Int → Option ((Bool × List Int × Unit) ⊕ Empty)
  | 0, _, _, _, _, _, _ => none
  | n + 1, v_m, v_t1, v_t6, v_t8, v_t9, v_t10 =>
    bif decide (v_t10 < (v_m.length : Int)) then
      if (0 : Int) ≤ v_t10 ∧ v_t10 < (v_m.length : Int) then
      bif decide ((w_i64 (v_t10 + 1)) < (v_m.length : Int)) then
        if (0 : Int) ≤ (w_i64 (v_t10 + 1)) ∧ (w_i64 (v_t10 + 1)) < (v_m.length : Int) then
        bif v_t10 == (w_i64 (Int.tdiv v_t1 32)) then
          if (0 : Int) ≤ v_t10 ∧ v_t10 < (v_m.length : Int) then
          if (0 : Int) ≤ v_t9 then
          bif (b_and_ .u32 (v_m.getD v_t10.toNat 0) (w_u32 ((shl_ .u32 1 v_t9) - 1))) != 0 then
            if (0 : Int) ≤ v_t9 then
            if v_t8.length + ([w_u32 (shr_ .u64 (b_or_ .u64 (w_u64 (v_m.getD v_t10.toNat 0)) (shl_ .u64 (w_u64 (v_m.getD (w_i64 (v_t10 + 1)).toNat 0)) 32)) v_t9)] : List Int).length ≤ 1073741824 then
            g74_L1 m n v_m v_t1 true (v_t8 ++ ([w_u32 (shr_ .u64 (b_or_ .u64 (w_u64 (v_m.getD v_t10.toNat 0)) (shl_ .u64 (w_u64 (v_m.getD (w_i64 (v_t10 + 1)).toNat 0)) 32)) v_t9)] : List Int)) v_t9 (w_i64 (v_t10 + 1))
            else none
            else none
          else
            if (0 : Int) ≤ v_t9 then
            if v_t8.length + ([w_u32 (shr_ .u64 (b_or_ .u64 (w_u64 (v_m.getD v_t10.toNat 0)) (shl_ .u64 (w_u64 (v_m.getD (w_i64 (v_t10 + 1)).toNat 0)) 32)) v_t9)] : List Int).length ≤ 1073741824 then
            g74_L1 m n v_m v_t1 v_t6 (v_t8 ++ ([w_u32 (shr_ .u64 (b_or_ .u64 (w_u64 (v_m.getD v_t10.toNat 0)) (shl_ .u64 (w_u64 (v_m.getD (w_i64 (v_t10 + 1)).toNat 0)) 32)) v_t9)] : List Int)) v_t9 (w_i64 (v_t10 + 1))
            else none
            else none
          else none
          else none
        else
          if (0 : Int) ≤ v_t9 then
          if v_t8.length + ([w_u32 (shr_ .u64 (b_or_ .u64 (w_u64 (v_m.getD v_t10.toNat 0)) (shl_ .u64 (w_u64 (v_m.getD (w_i64 (v_t10 + 1)).toNat 0)) 32)) v_t9)] : List Int).length ≤ 1073741824 then
          g74_L1 m n v_m v_t1 v_t6 (v_t8 ++ ([w_u32 (shr_ .u64 (b_or_ .u64 (w_u64 (v_m.getD v_t10.toNat 0)) (shl_ .u64 (w_u64 (v_m.getD (w_i64 (v_t10 + 1)).toNat 0)) 32)) v_t9)] : List Int)) v_t9 (w_i64 (v_t10 + 1))
          else none
          else none
        else none
      else
        bif v_t10 == (w_i64 (Int.tdiv v_t1 32)) then
          if (0 : Int) ≤ v_t10 ∧ v_t10 < (v_m.length : Int) then
          if (0 : Int) ≤ v_t9 then
          bif (b_and_ .u32 (v_m.getD v_t10.toNat 0) (w_u32 ((shl_ .u32 1 v_t9) - 1))) != 0 then
            if (0 : Int) ≤ v_t9 then
            if v_t8.length + ([w_u32 (shr_ .u64 (w_u64 (v_m.getD v_t10.toNat 0)) v_t9)] : List Int).length ≤ 1073741824 then
            g74_L1 m n v_m v_t1 true (v_t8 ++ ([w_u32 (shr_ .u64 (w_u64 (v_m.getD v_t10.toNat 0)) v_t9)] : List Int)) v_t9 (w_i64 (v_t10 + 1))
            else none
            else none
          else
            if (0 : Int) ≤ v_t9 then
            if v_t8.length + ([w_u32 (shr_ .u64 (w_u64 (v_m.getD v_t10.toNat 0)) v_t9)] : List Int).length ≤ 1073741824 then
            g74_L1 m n v_m v_t1 v_t6 (v_t8 ++ ([w_u32 (shr_ .u64 (w_u64 (v_m.getD v_t10.toNat 0)) v_t9)] : List Int)) v_t9 (w_i64 (v_t10 + 1))
            else none
            else none
          else none
          else none
        else
          if (0 : Int) ≤ v_t9 then
          if v_t8.length + ([w_u32 (shr_ .u64 (w_u64 (v_m.getD v_t10.toNat 0)) v_t9)] : List Int).length ≤ 1073741824 then
          g74_L1 m n v_m v_t1 v_t6 (v_t8 ++ ([w_u32 (shr_ .u64 (w_u64 (v_m.getD v_t10.toNat 0)) v_t9)] : List Int)) v_t9 (w_i64 (v_t10 + 1))
          else none
          else none
      else none
    else
      some (.inl (v_t6, v_t8, ()))
def g74_L0 (m : Nat) : Nat → List Int → Int → Bool → Int → Option ((List Int × Int × Bool × Unit) ⊕ Empty)
  | 0, _, _, _, _ => none
  | n + 1, v_m, v_t1, v_t6, v_t7 =>
    bif decide (v_t7 < (w_i64 (Int.tdiv v_t1 32))) then
      bif decide (v_t7 < (v_m.length : Int)) then
        bif v_t6 then
          g74_L0 m n v_m v_t1 true (w_i64 (v_t7 + 1))
        else
          if (0 : Int) ≤ v_t7 ∧ v_t7 < (v_m.length : Int) then
          g74_L0 m n v_m v_t1 ((v_m.getD v_t7.toNat 0) != 0) (w_i64 (v_t7 + 1))
          else none
      else
        some (.inl (v_m, v_t1, v_t6, ()))
    else
      some (.inl (v_m, v_t1, v_t6, ()))
def g74 (m : Nat) (v_m : List Int) (v_t1 : Int) : Option ((List Int × Bool × Unit) × Unit × Unit × Unit) :=
  (g74_L0 m m v_m v_t1 false 0).bind fun y1 =>
  match y1 with
  | .inl z2 =>
    (g74_L1 m m z2.1 z2.2.1 z2.2.2.1 ([] : List Int) (Int.tmod z2.2.1 32) (w_i64 (Int.tdiv z2.2.1 32))).bind fun y3 =>
    match y3 with
    | .inl z4 =>
      some ((z4.2.1, z4.1, ()), ((), (), ()))
    | .inr e =>
      e.elim
  | .inr e =>
    e.elim
/-! 89 sparse/sparseref01.Neg -/
def g89 (m : Nat) (v_a_0 : Bool) (v_a_1 : List Int) : Option ((Bool × List Int × Unit) × Unit × Unit) :=
  (g55 m (!v_a_0) v_a_1).bind fun y1 =>
  some ((y1.1.1, y1.1.2.1, ()), ((), ()))
/-! 86 sparse/sparseref01.addMag -/
def g86_L0 (m : Nat) : Nat → List Int → List Int → List Int → Int → Int → Option ((List Int × Int × Unit) ⊕ Empty)
  | 0, _, _, _, _, _ => none
  | n + 1, v_a, v_b, v_out, v_c, v_i =>
    bif decide (v_i < (if (v_b.length : Int) > (v_a.length : Int) then (v_b.length : Int) else (v_a.length : Int))) then
      bif decide (v_i < (v_a.length : Int)) then
        if (0 : Int) ≤ v_i ∧ v_i < (v_a.length : Int) then
        bif decide (v_i < (v_b.length : Int)) then
          if (0 : Int) ≤ v_i ∧ v_i < (v_b.length : Int) then
          if v_out.length + ([w_u32 (w_u64 ((w_u64 (v_c + (w_u64 (v_a.getD v_i.toNat 0)))) + (w_u64 (v_b.getD v_i.toNat 0))))] : List Int).length ≤ 1073741824 then
          g86_L0 m n v_a v_b (v_out ++ ([w_u32 (w_u64 ((w_u64 (v_c + (w_u64 (v_a.getD v_i.toNat 0)))) + (w_u64 (v_b.getD v_i.toNat 0))))] : List Int)) (shr_ .u64 (w_u64 ((w_u64 (v_c + (w_u64 (v_a.getD v_i.toNat 0)))) + (w_u64 (v_b.getD v_i.toNat 0)))) 32) (w_i64 (v_i + 1))
          else none
          else none
        else
          if v_out.length + ([w_u32 (w_u64 (v_c + (w_u64 (v_a.getD v_i.toNat 0))))] : List Int).length ≤ 1073741824 then
          g86_L0 m n v_a v_b (v_out ++ ([w_u32 (w_u64 (v_c + (w_u64 (v_a.getD v_i.toNat 0))))] : List Int)) (shr_ .u64 (w_u64 (v_c + (w_u64 (v_a.getD v_i.toNat 0)))) 32) (w_i64 (v_i + 1))
          else none
        else none
      else
        bif decide (v_i < (v_b.length : Int)) then
          if (0 : Int) ≤ v_i ∧ v_i < (v_b.length : Int) then
          if v_out.length + ([w_u32 (w_u64 (v_c + (w_u64 (v_b.getD v_i.toNat 0))))] : List Int).length ≤ 1073741824 then
          g86_L0 m n v_a v_b (v_out ++ ([w_u32 (w_u64 (v_c + (w_u64 (v_b.getD v_i.toNat 0))))] : List Int)) (shr_ .u64 (w_u64 (v_c + (w_u64 (v_b.getD v_i.toNat 0)))) 32) (w_i64 (v_i + 1))
          else none
          else none
        else
          if v_out.length + ([w_u32 v_c] : List Int).length ≤ 1073741824 then
          g86_L0 m n v_a v_b (v_out ++ ([w_u32 v_c] : List Int)) (shr_ .u64 v_c 32) (w_i64 (v_i + 1))
          else none
    else
      some (.inl (v_out, v_c, ()))
def g86 (m : Nat) (v_a : List Int) (v_b : List Int) : Option (List Int × Unit × Unit × Unit) :=
  (g86_L0 m m v_a v_b ([] : List Int) 0 0).bind fun y1 =>
  match y1 with
  | .inl z2 =>
    if z2.1.length + ([w_u32 z2.2.1] : List Int).length ≤ 1073741824 then
    some (z2.1 ++ ([w_u32 z2.2.1] : List Int), ((), (), ()))
    else none
  | .inr e =>
    e.elim
/-! 87 sparse/sparseref01.cmpMag -/
def g87_L0 (m : Nat) : Nat → List Int → List Int → Int → Option ((Int × Unit) ⊕ Unit ⊕ Empty)
  | 0, _, _, _ => none
  | n + 1, v_a, v_b, v_i =>
    bif decide (v_i ≥ 0) then
      if (0 : Int) ≤ v_i ∧ v_i < (v_a.length : Int) then
      if (0 : Int) ≤ v_i ∧ v_i < (v_b.length : Int) then
      bif (v_a.getD v_i.toNat 0) != (v_b.getD v_i.toNat 0) then
        if (0 : Int) ≤ v_i ∧ v_i < (v_a.length : Int) then
        if (0 : Int) ≤ v_i ∧ v_i < (v_b.length : Int) then
        bif decide ((v_a.getD v_i.toNat 0) < (v_b.getD v_i.toNat 0)) then
          some (.inl ((-1), ()))
        else
          some (.inl (1, ()))
        else none
        else none
      else
        g87_L0 m n v_a v_b (w_i64 (v_i - 1))
      else none
      else none
    else
      some (.inr (.inl ()))
def g87 (m : Nat) (v_a : List Int) (v_b : List Int) : Option (Int × Unit × Unit × Unit) :=
  bif (v_a.length : Int) != (v_b.length : Int) then
    bif decide ((v_a.length : Int) < (v_b.length : Int)) then
      some ((-1), ((), (), ()))
    else
      some (1, ((), (), ()))
  else
    (g87_L0 m m v_a v_b (w_i64 ((v_a.length : Int) - 1))).bind fun y1 =>
    match y1 with
    | .inl z2 =>
      some (z2.1, ((), (), ()))
    | .inr (.inl z3) =>
      some (0, ((), (), ()))
    | .inr (.inr e) =>
      e.elim
/-! 88 sparse/sparseref01.subMag -/
def g88_L0 (m : Nat) : Nat → List Int → List Int → List Int → Int → Int → Option ((List Int × Unit) ⊕ Empty)
  | 0, _, _, _, _, _ => none
  | n + 1, v_a, v_b, v_out, v_borrow, v_i =>
    bif decide (v_i < (v_a.length : Int)) then
      if (0 : Int) ≤ v_i ∧ v_i < (v_a.length : Int) then
      bif decide (v_i < (v_b.length : Int)) then
        if (0 : Int) ≤ v_i ∧ v_i < (v_b.length : Int) then
        if v_out.length + ([w_u32 (w_u64 ((w_u64 ((w_u64 (v_a.getD v_i.toNat 0)) - v_borrow)) - (w_u64 (v_b.getD v_i.toNat 0))))] : List Int).length ≤ 1073741824 then
        g88_L0 m n v_a v_b (v_out ++ ([w_u32 (w_u64 ((w_u64 ((w_u64 (v_a.getD v_i.toNat 0)) - v_borrow)) - (w_u64 (v_b.getD v_i.toNat 0))))] : List Int)) (shr_ .u64 (w_u64 ((w_u64 ((w_u64 (v_a.getD v_i.toNat 0)) - v_borrow)) - (w_u64 (v_b.getD v_i.toNat 0)))) 63) (w_i64 (v_i + 1))
        else none
        else none
      else
        if v_out.length + ([w_u32 (w_u64 ((w_u64 (v_a.getD v_i.toNat 0)) - v_borrow))] : List Int).length ≤ 1073741824 then
        g88_L0 m n v_a v_b (v_out ++ ([w_u32 (w_u64 ((w_u64 (v_a.getD v_i.toNat 0)) - v_borrow))] : List Int)) (shr_ .u64 (w_u64 ((w_u64 (v_a.getD v_i.toNat 0)) - v_borrow)) 63) (w_i64 (v_i + 1))
        else none
      else none
    else
      some (.inl (v_out, ()))
def g88 (m : Nat) (v_a : List Int) (v_b : List Int) : Option (List Int × Unit × Unit × Unit) :=
  (g88_L0 m m v_a v_b ([] : List Int) 0 0).bind fun y1 =>
  match y1 with
  | .inl z2 =>
    some (z2.1, ((), (), ()))
  | .inr e =>
    e.elim
/-! 72 sparse/sparseref01.Add -/
def g72 (m : Nat) (v_a_0 : Bool) (v_a_1 : List Int) (v_b_0 : Bool) (v_b_1 : List Int) : Option ((Bool × List Int × Unit) × Unit × Unit × Unit) :=
  (g68 m v_a_1).bind fun y1 =>
  (g68 m v_b_1).bind fun y2 =>
  bif v_a_0 == v_b_0 then
    (g86 m y1.1 y2.1).bind fun y3 =>
    (g55 m v_a_0 y3.1).bind fun y4 =>
    some ((y4.1.1, y4.1.2.1, ()), ((), (), ()))
  else
    (g87 m y1.1 y2.1).bind fun y5 =>
    bif decide (y5.1 ≥ 0) then
      (g88 m y1.1 y2.1).bind fun y6 =>
      (g55 m v_a_0 y6.1).bind fun y7 =>
      some ((y7.1.1, y7.1.2.1, ()), ((), (), ()))
    else
      (g88 m y2.1 y1.1).bind fun y8 =>
      (g55 m v_b_0 y8.1).bind fun y9 =>
      some ((y9.1.1, y9.1.2.1, ()), ((), (), ()))
/-! 75 sparse/sparseref01.Sub -/
def g75 (m : Nat) (v_a_0 : Bool) (v_a_1 : List Int) (v_b_0 : Bool) (v_b_1 : List Int) : Option ((Bool × List Int × Unit) × Unit × Unit × Unit) :=
  (g89 m v_b_0 v_b_1).bind fun y1 =>
  (g72 m v_a_0 v_a_1 y1.1.1 y1.1.2.1).bind fun y2 =>
  some ((y2.1.1, y2.1.2.1, ()), ((), (), ()))
/-! 52 sparse/sparseref01.Shift -/
def g52 (m : Nat) (v_a_0 : Bool) (v_a_1 : List Int) (v_n : Int) : Option ((Bool × List Int × Unit) × Unit × Unit × Unit) :=
  (g48 m v_a_0 v_a_1).bind fun y1 =>
  bif decide (v_n ≥ 0) then
    (g73 m y1.1.2.1 v_n).bind fun y2 =>
    (g55 m y1.1.1 y2.1).bind fun y3 =>
    some ((y3.1.1, y3.1.2.1, ()), ((), (), ()))
  else
    (g74 m y1.1.2.1 (w_i64 (0 - v_n))).bind fun y4 =>
    (g55 m y1.1.1 y4.1.1).bind fun y5 =>
    bif y1.1.1 then
      bif y4.1.2.1 then
        (g37 m 1).bind fun y6 =>
        (g75 m y5.1.1 y5.1.2.1 y6.1.1 y6.1.2.1).bind fun y7 =>
        some ((y7.1.1, y7.1.2.1, ()), ((), (), ()))
      else
        some ((y5.1.1, y5.1.2.1, ()), ((), (), ()))
    else
      some ((y5.1.1, y5.1.2.1, ()), ((), (), ()))
/-! 57 sparse/sparseref02.down -/
def g57_L0 (m : Nat) : Nat → Int → Bool → List Int → Bool → List Int → Option ((Int × (Bool × List Int × Unit) × (Bool × List Int × Unit) × Unit) ⊕ Empty)
  | 0, _, _, _, _, _ => none
  | n + 1, v_n, v_m_0, v_m_1, v_t4_0, v_t4_1 =>
    bif decide (v_n > 1048576) then
      (g52 m v_m_0 v_m_1 (-1048576)).bind fun y1 =>
      g57_L0 m n (w_i64 (v_n - 1048576)) y1.1.1 y1.1.2.1 v_t4_0 v_t4_1
    else
      some (.inl (v_n, (v_m_0, v_m_1, ()), (v_t4_0, v_t4_1, ()), ()))
def g57 (m : Nat) (v_m_0 : Bool) (v_m_1 : List Int) (v_n : Int) : Option ((Bool × List Int × Unit) × Unit × Unit × Unit) :=
  (g57_L0 m m v_n v_m_0 v_m_1 false ([] : List Int)).bind fun y1 =>
  match y1 with
  | .inl z2 =>
    (g52 m z2.2.1.1 z2.2.1.2.1 (w_i64 (0 - z2.1))).bind fun y3 =>
    some ((y3.1.1, y3.1.2.1, ()), ((), (), ()))
  | .inr e =>
    e.elim
/-! 49 sparse/sparseref01.BitLen -/
def g49 (m : Nat) (v_a_0 : Bool) (v_a_1 : List Int) : Option (Int × Unit × Unit) :=
  (g68 m v_a_1).bind fun y1 =>
  bif (y1.1.length : Int) == 0 then
    some (0, ((), ()))
  else
    if (0 : Int) ≤ (w_i64 ((y1.1.length : Int) - 1)) ∧ (w_i64 ((y1.1.length : Int) - 1)) < (y1.1.length : Int) then
    (g69 m (y1.1.getD (0 + (w_i64 ((y1.1.length : Int) - 1)).toNat) 0)).bind fun y2 =>
    some (w_i64 ((w_i64 (32 * (w_i64 ((y1.1.length : Int) - 1)))) + y2.1), ((), ()))
    else none
/-! 36 sparse/sparseref02.Make -/
def g36 (m : Nat) (v_man_0 : Bool) (v_man_1 : List Int) (v_exp : Int) : Option ((Bool × Bool × List Int × Int × Unit) × Unit × Unit × Unit) :=
  (g48 m v_man_0 v_man_1).bind fun y1 =>
  bif (y1.1.2.1.length : Int) == 0 then
    some ((false, false, ([] : List Int), 0, ()), ((), (), ()))
  else
    bif decide (v_exp > 65536) then
      (g35 m).bind fun y2 =>
      some ((y2.1.1, y2.1.2.1, y2.1.2.2.1, y2.1.2.2.2.1, ()), ((), (), ()))
    else
      (g56 m y1.1.1 y1.1.2.1).bind fun y3 =>
      (g34 m y1.1.1 y1.1.2.1).bind fun y4 =>
      (g57 m y4.1.1 y4.1.2.1 y3.1).bind fun y5 =>
      bif decide ((w_i64 (v_exp + y3.1)) < (-65536)) then
        (g35 m).bind fun y6 =>
        some ((y6.1.1, y6.1.2.1, y6.1.2.2.1, y6.1.2.2.2.1, ()), ((), (), ()))
      else
        (g49 m y5.1.1 y5.1.2.1).bind fun y7 =>
        bif decide ((w_i64 ((w_i64 (v_exp + y3.1)) + y7.1)) > 65536) then
          (g35 m).bind fun y8 =>
          some ((y8.1.1, y8.1.2.1, y8.1.2.2.1, y8.1.2.2.2.1, ()), ((), (), ()))
        else
          some ((false, v_man_0, y5.1.2.1, w_i64 (v_exp + y3.1), ()), ((), (), ()))
/-! 23 sparse/sparseref02.FromInt -/
def g23 (m : Nat) (v_n : Int) : Option ((Bool × Bool × List Int × Int × Unit) × Unit × Unit) :=
  (g37 m v_n).bind fun y1 =>
  (g36 m y1.1.1 y1.1.2.1 0).bind fun y2 =>
  some ((y2.1.1, y2.1.2.1, y2.1.2.2.1, y2.1.2.2.2.1, ()), ((), ()))
/-! 31 sparse/sparseref02.Norm -/
def g31 (m : Nat) (v_d_0 : Bool) (v_d_1 : Bool) (v_d_2 : List Int) (v_d_3 : Int) : Option ((Bool × Bool × List Int × Int × Unit) × Unit × Unit) :=
  bif v_d_0 then
    (g35 m).bind fun y1 =>
    some ((y1.1.1, y1.1.2.1, y1.1.2.2.1, y1.1.2.2.2.1, ()), ((), ()))
  else
    (g36 m v_d_1 v_d_2 v_d_3).bind fun y2 =>
    some ((y2.1.1, y2.1.2.1, y2.1.2.2.1, y2.1.2.2.2.1, ()), ((), ()))
/-! 32 sparse/sparseref01.Sign -/
def g32 (m : Nat) (v_a_0 : Bool) (v_a_1 : List Int) : Option (Int × Unit × Unit) :=
  (g48 m v_a_0 v_a_1).bind fun y1 =>
  bif (y1.1.2.1.length : Int) == 0 then
    some (0, ((), ()))
  else
    bif y1.1.1 then
      some ((-1), ((), ()))
    else
      some (1, ((), ()))
/-! 22 sparse/sparseref02.Scale -/
def g22 (m : Nat) (v_d_0 : Bool) (v_d_1 : Bool) (v_d_2 : List Int) (v_d_3 : Int) (v_n : Int) : Option ((Bool × Bool × List Int × Int × Unit) × Unit × Unit × Unit) :=
  (g31 m v_d_0 v_d_1 v_d_2 v_d_3).bind fun y1 =>
  bif y1.1.1 then
    some ((y1.1.1, y1.1.2.1, y1.1.2.2.1, y1.1.2.2.2.1, ()), ((), (), ()))
  else
    (g32 m y1.1.2.1 y1.1.2.2.1).bind fun y2 =>
    bif y2.1 == 0 then
      some ((y1.1.1, y1.1.2.1, y1.1.2.2.1, y1.1.2.2.2.1, ()), ((), (), ()))
    else
      bif decide (v_n > 262144) then
        (g35 m).bind fun y3 =>
        some ((y3.1.1, y3.1.2.1, y3.1.2.2.1, y3.1.2.2.2.1, ()), ((), (), ()))
      else
        bif decide (v_n < (-262144)) then
          (g35 m).bind fun y4 =>
          some ((y4.1.1, y4.1.2.1, y4.1.2.2.1, y4.1.2.2.2.1, ()), ((), (), ()))
        else
          (g36 m y1.1.2.1 y1.1.2.2.1 (w_i64 (y1.1.2.2.2.1 + v_n))).bind fun y5 =>
          some ((y5.1.1, y5.1.2.1, y5.1.2.2.1, y5.1.2.2.2.1, ()), ((), (), ()))
/-! 54 sparse/sparseref03.signed -/
def g54 (m : Nat) (v_neg : Bool) (v_f : Int) : Option (Int × Unit × Unit × Unit) :=
  bif v_neg then
    some (b_or_ .u64 v_f 9223372036854775808, ((), (), ()))
  else
    some (v_f, ((), (), ()))
/-! 50 sparse/sparseref03.over -/
def g50 (m : Nat) (v_neg : Bool) (v_mode : Int) : Option (Int × Unit × Unit × Unit) :=
  bif v_mode == 3 then
    (g54 m v_neg 9218868437227405311).bind fun y1 =>
    some (y1.1, ((), (), ()))
  else
    bif v_mode == 1 then
      bif !v_neg then
        (g54 m v_neg 9218868437227405311).bind fun y2 =>
        some (y2.1, ((), (), ()))
      else
        bif v_mode == 2 then
          bif v_neg then
            (g54 m v_neg 9218868437227405311).bind fun y3 =>
            some (y3.1, ((), (), ()))
          else
            (g54 m v_neg 9218868437227405312).bind fun y4 =>
            some (y4.1, ((), (), ()))
        else
          (g54 m v_neg 9218868437227405312).bind fun y5 =>
          some (y5.1, ((), (), ()))
    else
      bif v_mode == 2 then
        bif v_neg then
          (g54 m v_neg 9218868437227405311).bind fun y6 =>
          some (y6.1, ((), (), ()))
        else
          (g54 m v_neg 9218868437227405312).bind fun y7 =>
          some (y7.1, ((), (), ()))
      else
        (g54 m v_neg 9218868437227405312).bind fun y8 =>
        some (y8.1, ((), (), ()))
/-! 70 sparse/sparseref01.Lost -/
def g70 (m : Nat) (v_a_0 : Bool) (v_a_1 : List Int) (v_n : Int) : Option (Bool × Unit × Unit × Unit) :=
  (g68 m v_a_1).bind fun y1 =>
  (g74 m y1.1 v_n).bind fun y2 =>
  some (y2.1.2.1, ((), (), ()))
/-! 71 sparse/sparseref02.Up -/
def g71 (m : Nat) (v_neg : Bool) (v_half : Int) (v_odd : Bool) (v_mode : Int) : Option (Bool × Unit × Unit × Unit × Unit × Unit) :=
  bif v_mode == 1 then
    some (v_neg, ((), (), (), (), ()))
  else
    bif v_mode == 2 then
      some (!v_neg, ((), (), (), (), ()))
    else
      bif v_mode == 3 then
        some (false, ((), (), (), (), ()))
      else
        bif decide (v_half > 0) then
          some (true, ((), (), (), (), ()))
        else
          bif v_half == 0 then
            some (v_odd, ((), (), (), (), ()))
          else
            some (false, ((), (), (), (), ()))
/-! 51 sparse/sparseref02.Cut -/
def g51 (m : Nat) (v_neg : Bool) (v_t1_0 : Bool) (v_t1_1 : List Int) (v_t2 : Int) (v_t3 : Bool) (v_t4 : Int) : Option ((Bool × List Int × Unit) × Unit × Unit × Unit × Unit × Unit × Unit) :=
  (g57 m v_t1_0 v_t1_1 v_t2).bind fun y1 =>
  (g70 m v_t1_0 v_t1_1 v_t2).bind fun y2 =>
  bif !y2.1 then
    bif !v_t3 then
      some ((y1.1.1, y1.1.2.1, ()), ((), (), (), (), (), ()))
    else
      bif decide (v_t2 > 0) then
        (g57 m v_t1_0 v_t1_1 (w_i64 (v_t2 - 1))).bind fun y3 =>
        (g56 m y3.1.1 y3.1.2.1).bind fun y4 =>
        bif y4.1 == 0 then
          (g32 m y3.1.1 y3.1.2.1).bind fun y5 =>
          bif y5.1 != 0 then
            bif v_t3 then
              (g32 m y1.1.1 y1.1.2.1).bind fun y6 =>
              bif y6.1 != 0 then
                (g56 m y1.1.1 y1.1.2.1).bind fun y7 =>
                (g71 m v_neg 1 (y7.1 == 0) v_t4).bind fun y8 =>
                bif y8.1 then
                  (g37 m 1).bind fun y9 =>
                  (g72 m y1.1.1 y1.1.2.1 y9.1.1 y9.1.2.1).bind fun y10 =>
                  some ((y10.1.1, y10.1.2.1, ()), ((), (), (), (), (), ()))
                else
                  some ((y1.1.1, y1.1.2.1, ()), ((), (), (), (), (), ()))
              else
                (g71 m v_neg 1 false v_t4).bind fun y11 =>
                bif y11.1 then
                  (g37 m 1).bind fun y12 =>
                  (g72 m y1.1.1 y1.1.2.1 y12.1.1 y12.1.2.1).bind fun y13 =>
                  some ((y13.1.1, y13.1.2.1, ()), ((), (), (), (), (), ()))
                else
                  some ((y1.1.1, y1.1.2.1, ()), ((), (), (), (), (), ()))
            else
              (g70 m v_t1_0 v_t1_1 (w_i64 (v_t2 - 1))).bind fun y14 =>
              bif y14.1 then
                (g32 m y1.1.1 y1.1.2.1).bind fun y15 =>
                bif y15.1 != 0 then
                  (g56 m y1.1.1 y1.1.2.1).bind fun y16 =>
                  (g71 m v_neg 1 (y16.1 == 0) v_t4).bind fun y17 =>
                  bif y17.1 then
                    (g37 m 1).bind fun y18 =>
                    (g72 m y1.1.1 y1.1.2.1 y18.1.1 y18.1.2.1).bind fun y19 =>
                    some ((y19.1.1, y19.1.2.1, ()), ((), (), (), (), (), ()))
                  else
                    some ((y1.1.1, y1.1.2.1, ()), ((), (), (), (), (), ()))
                else
                  (g71 m v_neg 1 false v_t4).bind fun y20 =>
                  bif y20.1 then
                    (g37 m 1).bind fun y21 =>
                    (g72 m y1.1.1 y1.1.2.1 y21.1.1 y21.1.2.1).bind fun y22 =>
                    some ((y22.1.1, y22.1.2.1, ()), ((), (), (), (), (), ()))
                  else
                    some ((y1.1.1, y1.1.2.1, ()), ((), (), (), (), (), ()))
              else
                (g32 m y1.1.1 y1.1.2.1).bind fun y23 =>
                bif y23.1 != 0 then
                  (g56 m y1.1.1 y1.1.2.1).bind fun y24 =>
                  (g71 m v_neg 0 (y24.1 == 0) v_t4).bind fun y25 =>
                  bif y25.1 then
                    (g37 m 1).bind fun y26 =>
                    (g72 m y1.1.1 y1.1.2.1 y26.1.1 y26.1.2.1).bind fun y27 =>
                    some ((y27.1.1, y27.1.2.1, ()), ((), (), (), (), (), ()))
                  else
                    some ((y1.1.1, y1.1.2.1, ()), ((), (), (), (), (), ()))
                else
                  (g71 m v_neg 0 false v_t4).bind fun y28 =>
                  bif y28.1 then
                    (g37 m 1).bind fun y29 =>
                    (g72 m y1.1.1 y1.1.2.1 y29.1.1 y29.1.2.1).bind fun y30 =>
                    some ((y30.1.1, y30.1.2.1, ()), ((), (), (), (), (), ()))
                  else
                    some ((y1.1.1, y1.1.2.1, ()), ((), (), (), (), (), ()))
          else
            (g32 m y1.1.1 y1.1.2.1).bind fun y31 =>
            bif y31.1 != 0 then
              (g56 m y1.1.1 y1.1.2.1).bind fun y32 =>
              (g71 m v_neg (-1) (y32.1 == 0) v_t4).bind fun y33 =>
              bif y33.1 then
                (g37 m 1).bind fun y34 =>
                (g72 m y1.1.1 y1.1.2.1 y34.1.1 y34.1.2.1).bind fun y35 =>
                some ((y35.1.1, y35.1.2.1, ()), ((), (), (), (), (), ()))
              else
                some ((y1.1.1, y1.1.2.1, ()), ((), (), (), (), (), ()))
            else
              (g71 m v_neg (-1) false v_t4).bind fun y36 =>
              bif y36.1 then
                (g37 m 1).bind fun y37 =>
                (g72 m y1.1.1 y1.1.2.1 y37.1.1 y37.1.2.1).bind fun y38 =>
                some ((y38.1.1, y38.1.2.1, ()), ((), (), (), (), (), ()))
              else
                some ((y1.1.1, y1.1.2.1, ()), ((), (), (), (), (), ()))
        else
          (g32 m y1.1.1 y1.1.2.1).bind fun y39 =>
          bif y39.1 != 0 then
            (g56 m y1.1.1 y1.1.2.1).bind fun y40 =>
            (g71 m v_neg (-1) (y40.1 == 0) v_t4).bind fun y41 =>
            bif y41.1 then
              (g37 m 1).bind fun y42 =>
              (g72 m y1.1.1 y1.1.2.1 y42.1.1 y42.1.2.1).bind fun y43 =>
              some ((y43.1.1, y43.1.2.1, ()), ((), (), (), (), (), ()))
            else
              some ((y1.1.1, y1.1.2.1, ()), ((), (), (), (), (), ()))
          else
            (g71 m v_neg (-1) false v_t4).bind fun y44 =>
            bif y44.1 then
              (g37 m 1).bind fun y45 =>
              (g72 m y1.1.1 y1.1.2.1 y45.1.1 y45.1.2.1).bind fun y46 =>
              some ((y46.1.1, y46.1.2.1, ()), ((), (), (), (), (), ()))
            else
              some ((y1.1.1, y1.1.2.1, ()), ((), (), (), (), (), ()))
      else
        (g32 m y1.1.1 y1.1.2.1).bind fun y47 =>
        bif y47.1 != 0 then
          (g56 m y1.1.1 y1.1.2.1).bind fun y48 =>
          (g71 m v_neg (-1) (y48.1 == 0) v_t4).bind fun y49 =>
          bif y49.1 then
            (g37 m 1).bind fun y50 =>
            (g72 m y1.1.1 y1.1.2.1 y50.1.1 y50.1.2.1).bind fun y51 =>
            some ((y51.1.1, y51.1.2.1, ()), ((), (), (), (), (), ()))
          else
            some ((y1.1.1, y1.1.2.1, ()), ((), (), (), (), (), ()))
        else
          (g71 m v_neg (-1) false v_t4).bind fun y52 =>
          bif y52.1 then
            (g37 m 1).bind fun y53 =>
            (g72 m y1.1.1 y1.1.2.1 y53.1.1 y53.1.2.1).bind fun y54 =>
            some ((y54.1.1, y54.1.2.1, ()), ((), (), (), (), (), ()))
          else
            some ((y1.1.1, y1.1.2.1, ()), ((), (), (), (), (), ()))
  else
    bif decide (v_t2 > 0) then
      (g57 m v_t1_0 v_t1_1 (w_i64 (v_t2 - 1))).bind fun y55 =>
      (g56 m y55.1.1 y55.1.2.1).bind fun y56 =>
      bif y56.1 == 0 then
        (g32 m y55.1.1 y55.1.2.1).bind fun y57 =>
        bif y57.1 != 0 then
          bif v_t3 then
            (g32 m y1.1.1 y1.1.2.1).bind fun y58 =>
            bif y58.1 != 0 then
              (g56 m y1.1.1 y1.1.2.1).bind fun y59 =>
              (g71 m v_neg 1 (y59.1 == 0) v_t4).bind fun y60 =>
              bif y60.1 then
                (g37 m 1).bind fun y61 =>
                (g72 m y1.1.1 y1.1.2.1 y61.1.1 y61.1.2.1).bind fun y62 =>
                some ((y62.1.1, y62.1.2.1, ()), ((), (), (), (), (), ()))
              else
                some ((y1.1.1, y1.1.2.1, ()), ((), (), (), (), (), ()))
            else
              (g71 m v_neg 1 false v_t4).bind fun y63 =>
              bif y63.1 then
                (g37 m 1).bind fun y64 =>
                (g72 m y1.1.1 y1.1.2.1 y64.1.1 y64.1.2.1).bind fun y65 =>
                some ((y65.1.1, y65.1.2.1, ()), ((), (), (), (), (), ()))
              else
                some ((y1.1.1, y1.1.2.1, ()), ((), (), (), (), (), ()))
          else
            (g70 m v_t1_0 v_t1_1 (w_i64 (v_t2 - 1))).bind fun y66 =>
            bif y66.1 then
              (g32 m y1.1.1 y1.1.2.1).bind fun y67 =>
              bif y67.1 != 0 then
                (g56 m y1.1.1 y1.1.2.1).bind fun y68 =>
                (g71 m v_neg 1 (y68.1 == 0) v_t4).bind fun y69 =>
                bif y69.1 then
                  (g37 m 1).bind fun y70 =>
                  (g72 m y1.1.1 y1.1.2.1 y70.1.1 y70.1.2.1).bind fun y71 =>
                  some ((y71.1.1, y71.1.2.1, ()), ((), (), (), (), (), ()))
                else
                  some ((y1.1.1, y1.1.2.1, ()), ((), (), (), (), (), ()))
              else
                (g71 m v_neg 1 false v_t4).bind fun y72 =>
                bif y72.1 then
                  (g37 m 1).bind fun y73 =>
                  (g72 m y1.1.1 y1.1.2.1 y73.1.1 y73.1.2.1).bind fun y74 =>
                  some ((y74.1.1, y74.1.2.1, ()), ((), (), (), (), (), ()))
                else
                  some ((y1.1.1, y1.1.2.1, ()), ((), (), (), (), (), ()))
            else
              (g32 m y1.1.1 y1.1.2.1).bind fun y75 =>
              bif y75.1 != 0 then
                (g56 m y1.1.1 y1.1.2.1).bind fun y76 =>
                (g71 m v_neg 0 (y76.1 == 0) v_t4).bind fun y77 =>
                bif y77.1 then
                  (g37 m 1).bind fun y78 =>
                  (g72 m y1.1.1 y1.1.2.1 y78.1.1 y78.1.2.1).bind fun y79 =>
                  some ((y79.1.1, y79.1.2.1, ()), ((), (), (), (), (), ()))
                else
                  some ((y1.1.1, y1.1.2.1, ()), ((), (), (), (), (), ()))
              else
                (g71 m v_neg 0 false v_t4).bind fun y80 =>
                bif y80.1 then
                  (g37 m 1).bind fun y81 =>
                  (g72 m y1.1.1 y1.1.2.1 y81.1.1 y81.1.2.1).bind fun y82 =>
                  some ((y82.1.1, y82.1.2.1, ()), ((), (), (), (), (), ()))
                else
                  some ((y1.1.1, y1.1.2.1, ()), ((), (), (), (), (), ()))
        else
          (g32 m y1.1.1 y1.1.2.1).bind fun y83 =>
          bif y83.1 != 0 then
            (g56 m y1.1.1 y1.1.2.1).bind fun y84 =>
            (g71 m v_neg (-1) (y84.1 == 0) v_t4).bind fun y85 =>
            bif y85.1 then
              (g37 m 1).bind fun y86 =>
              (g72 m y1.1.1 y1.1.2.1 y86.1.1 y86.1.2.1).bind fun y87 =>
              some ((y87.1.1, y87.1.2.1, ()), ((), (), (), (), (), ()))
            else
              some ((y1.1.1, y1.1.2.1, ()), ((), (), (), (), (), ()))
          else
            (g71 m v_neg (-1) false v_t4).bind fun y88 =>
            bif y88.1 then
              (g37 m 1).bind fun y89 =>
              (g72 m y1.1.1 y1.1.2.1 y89.1.1 y89.1.2.1).bind fun y90 =>
              some ((y90.1.1, y90.1.2.1, ()), ((), (), (), (), (), ()))
            else
              some ((y1.1.1, y1.1.2.1, ()), ((), (), (), (), (), ()))
      else
        (g32 m y1.1.1 y1.1.2.1).bind fun y91 =>
        bif y91.1 != 0 then
          (g56 m y1.1.1 y1.1.2.1).bind fun y92 =>
          (g71 m v_neg (-1) (y92.1 == 0) v_t4).bind fun y93 =>
          bif y93.1 then
            (g37 m 1).bind fun y94 =>
            (g72 m y1.1.1 y1.1.2.1 y94.1.1 y94.1.2.1).bind fun y95 =>
            some ((y95.1.1, y95.1.2.1, ()), ((), (), (), (), (), ()))
          else
            some ((y1.1.1, y1.1.2.1, ()), ((), (), (), (), (), ()))
        else
          (g71 m v_neg (-1) false v_t4).bind fun y96 =>
          bif y96.1 then
            (g37 m 1).bind fun y97 =>
            (g72 m y1.1.1 y1.1.2.1 y97.1.1 y97.1.2.1).bind fun y98 =>
            some ((y98.1.1, y98.1.2.1, ()), ((), (), (), (), (), ()))
          else
            some ((y1.1.1, y1.1.2.1, ()), ((), (), (), (), (), ()))
    else
      (g32 m y1.1.1 y1.1.2.1).bind fun y99 =>
      bif y99.1 != 0 then
        (g56 m y1.1.1 y1.1.2.1).bind fun y100 =>
        (g71 m v_neg (-1) (y100.1 == 0) v_t4).bind fun y101 =>
        bif y101.1 then
          (g37 m 1).bind fun y102 =>
          (g72 m y1.1.1 y1.1.2.1 y102.1.1 y102.1.2.1).bind fun y103 =>
          some ((y103.1.1, y103.1.2.1, ()), ((), (), (), (), (), ()))
        else
          some ((y1.1.1, y1.1.2.1, ()), ((), (), (), (), (), ()))
      else
        (g71 m v_neg (-1) false v_t4).bind fun y104 =>
        bif y104.1 then
          (g37 m 1).bind fun y105 =>
          (g72 m y1.1.1 y1.1.2.1 y105.1.1 y105.1.2.1).bind fun y106 =>
          some ((y106.1.1, y106.1.2.1, ()), ((), (), (), (), (), ()))
        else
          some ((y1.1.1, y1.1.2.1, ()), ((), (), (), (), (), ()))
/-! 53 sparse/sparseref01.Int -/
def g53_L0 (m : Nat) : Nat → Bool → List Int → Int → Int → Option (((Bool × List Int × Unit) × Int × Unit) ⊕ Empty)
  | 0, _, _, _, _ => none
  | n + 1, v_a_0, v_a_1, v_u, v_i =>
    bif decide (v_i < (v_a_1.length : Int)) then
      if (0 : Int) ≤ v_i ∧ v_i < (v_a_1.length : Int) then
      if (0 : Int) ≤ (w_i64 (32 * v_i)) then
      g53_L0 m n v_a_0 v_a_1 (b_or_ .u64 v_u (shl_ .u64 (w_u64 (v_a_1.getD (0 + v_i.toNat) 0)) (w_i64 (32 * v_i)))) (w_i64 (v_i + 1))
      else none
      else none
    else
      some (.inl ((v_a_0, v_a_1, ()), v_u, ()))
def g53 (m : Nat) (v_a_0 : Bool) (v_a_1 : List Int) : Option ((Int × Bool × Unit) × Unit × Unit) :=
  (g48 m v_a_0 v_a_1).bind fun y1 =>
  bif decide ((y1.1.2.1.length : Int) > 2) then
    some ((0, false, ()), ((), ()))
  else
    (g53_L0 m m y1.1.1 y1.1.2.1 0 0).bind fun y2 =>
    match y2 with
    | .inl z3 =>
      bif z3.1.1 then
        bif decide (z3.2.1 > 9223372036854775808) then
          some ((0, false, ()), ((), ()))
        else
          some ((w_i64 ((w_i64 (0 - (w_i64 (w_u64 (z3.2.1 - 1))))) - 1), true, ()), ((), ()))
      else
        bif decide (z3.2.1 > 9223372036854775807) then
          some ((0, false, ()), ((), ()))
        else
          some ((w_i64 z3.2.1, true, ()), ((), ()))
    | .inr e =>
      e.elim
/-! 33 sparse/sparseref03.rounded -/
def g33 (m : Nat) (v_neg : Bool) (v_t1_0 : Bool) (v_t1_1 : List Int) (v_t2 : Int) (v_t3 : Bool) (v_t4 : Int) : Option (Int × Unit × Unit × Unit × Unit × Unit × Unit) :=
  (g49 m v_t1_0 v_t1_1).bind fun y1 =>
  bif decide ((w_i64 ((w_i64 (v_t2 + y1.1)) - 1)) ≥ 1024) then
    (g50 m v_neg v_t4).bind fun y2 =>
    some (y2.1, ((), (), (), (), (), ()))
  else
    bif decide ((if (-1074) > (w_i64 ((w_i64 ((w_i64 (v_t2 + y1.1)) - 1)) - 52)) then (-1074) else (w_i64 ((w_i64 ((w_i64 (v_t2 + y1.1)) - 1)) - 52))) ≥ v_t2) then
      (g51 m v_neg v_t1_0 v_t1_1 (w_i64 ((if (-1074) > (w_i64 ((w_i64 ((w_i64 (v_t2 + y1.1)) - 1)) - 52)) then (-1074) else (w_i64 ((w_i64 ((w_i64 (v_t2 + y1.1)) - 1)) - 52))) - v_t2)) v_t3 v_t4).bind fun y3 =>
      (g53 m y3.1.1 y3.1.2.1).bind fun y4 =>
      bif y4.1.1 == 9007199254740992 then
        bif decide ((w_i64 ((w_i64 ((if (-1074) > (w_i64 ((w_i64 ((w_i64 (v_t2 + y1.1)) - 1)) - 52)) then (-1074) else (w_i64 ((w_i64 ((w_i64 (v_t2 + y1.1)) - 1)) - 52))) + 1)) + 53)) > 1024) then
          (g50 m v_neg v_t4).bind fun y5 =>
          some (y5.1, ((), (), (), (), (), ()))
        else
          (g54 m v_neg (b_or_ .u64 (shl_ .u64 (w_u64 (w_i64 ((w_i64 ((if (-1074) > (w_i64 ((w_i64 ((w_i64 (v_t2 + y1.1)) - 1)) - 52)) then (-1074) else (w_i64 ((w_i64 ((w_i64 (v_t2 + y1.1)) - 1)) - 52))) + 1)) + 1075))) 52) 0)).bind fun y6 =>
          some (y6.1, ((), (), (), (), (), ()))
      else
        bif decide (y4.1.1 ≥ 4503599627370496) then
          bif decide ((w_i64 ((if (-1074) > (w_i64 ((w_i64 ((w_i64 (v_t2 + y1.1)) - 1)) - 52)) then (-1074) else (w_i64 ((w_i64 ((w_i64 (v_t2 + y1.1)) - 1)) - 52))) + 53)) > 1024) then
            (g50 m v_neg v_t4).bind fun y7 =>
            some (y7.1, ((), (), (), (), (), ()))
          else
            bif decide (y4.1.1 ≥ 4503599627370496) then
              (g54 m v_neg (b_or_ .u64 (shl_ .u64 (w_u64 (w_i64 ((if (-1074) > (w_i64 ((w_i64 ((w_i64 (v_t2 + y1.1)) - 1)) - 52)) then (-1074) else (w_i64 ((w_i64 ((w_i64 (v_t2 + y1.1)) - 1)) - 52))) + 1075))) 52) (w_u64 (w_i64 (y4.1.1 - 4503599627370496))))).bind fun y8 =>
              some (y8.1, ((), (), (), (), (), ()))
            else
              (g54 m v_neg (w_u64 y4.1.1)).bind fun y9 =>
              some (y9.1, ((), (), (), (), (), ()))
        else
          bif decide (y4.1.1 ≥ 4503599627370496) then
            (g54 m v_neg (b_or_ .u64 (shl_ .u64 (w_u64 (w_i64 ((if (-1074) > (w_i64 ((w_i64 ((w_i64 (v_t2 + y1.1)) - 1)) - 52)) then (-1074) else (w_i64 ((w_i64 ((w_i64 (v_t2 + y1.1)) - 1)) - 52))) + 1075))) 52) (w_u64 (w_i64 (y4.1.1 - 4503599627370496))))).bind fun y10 =>
            some (y10.1, ((), (), (), (), (), ()))
          else
            (g54 m v_neg (w_u64 y4.1.1)).bind fun y11 =>
            some (y11.1, ((), (), (), (), (), ()))
    else
      (g52 m v_t1_0 v_t1_1 (w_i64 (v_t2 - (if (-1074) > (w_i64 ((w_i64 ((w_i64 (v_t2 + y1.1)) - 1)) - 52)) then (-1074) else (w_i64 ((w_i64 ((w_i64 (v_t2 + y1.1)) - 1)) - 52)))))).bind fun y12 =>
      (g53 m y12.1.1 y12.1.2.1).bind fun y13 =>
      bif y13.1.1 == 9007199254740992 then
        bif decide ((w_i64 ((w_i64 ((if (-1074) > (w_i64 ((w_i64 ((w_i64 (v_t2 + y1.1)) - 1)) - 52)) then (-1074) else (w_i64 ((w_i64 ((w_i64 (v_t2 + y1.1)) - 1)) - 52))) + 1)) + 53)) > 1024) then
          (g50 m v_neg v_t4).bind fun y14 =>
          some (y14.1, ((), (), (), (), (), ()))
        else
          (g54 m v_neg (b_or_ .u64 (shl_ .u64 (w_u64 (w_i64 ((w_i64 ((if (-1074) > (w_i64 ((w_i64 ((w_i64 (v_t2 + y1.1)) - 1)) - 52)) then (-1074) else (w_i64 ((w_i64 ((w_i64 (v_t2 + y1.1)) - 1)) - 52))) + 1)) + 1075))) 52) 0)).bind fun y15 =>
          some (y15.1, ((), (), (), (), (), ()))
      else
        bif decide (y13.1.1 ≥ 4503599627370496) then
          bif decide ((w_i64 ((if (-1074) > (w_i64 ((w_i64 ((w_i64 (v_t2 + y1.1)) - 1)) - 52)) then (-1074) else (w_i64 ((w_i64 ((w_i64 (v_t2 + y1.1)) - 1)) - 52))) + 53)) > 1024) then
            (g50 m v_neg v_t4).bind fun y16 =>
            some (y16.1, ((), (), (), (), (), ()))
          else
            bif decide (y13.1.1 ≥ 4503599627370496) then
              (g54 m v_neg (b_or_ .u64 (shl_ .u64 (w_u64 (w_i64 ((if (-1074) > (w_i64 ((w_i64 ((w_i64 (v_t2 + y1.1)) - 1)) - 52)) then (-1074) else (w_i64 ((w_i64 ((w_i64 (v_t2 + y1.1)) - 1)) - 52))) + 1075))) 52) (w_u64 (w_i64 (y13.1.1 - 4503599627370496))))).bind fun y17 =>
              some (y17.1, ((), (), (), (), (), ()))
            else
              (g54 m v_neg (w_u64 y13.1.1)).bind fun y18 =>
              some (y18.1, ((), (), (), (), (), ()))
        else
          bif decide (y13.1.1 ≥ 4503599627370496) then
            (g54 m v_neg (b_or_ .u64 (shl_ .u64 (w_u64 (w_i64 ((if (-1074) > (w_i64 ((w_i64 ((w_i64 (v_t2 + y1.1)) - 1)) - 52)) then (-1074) else (w_i64 ((w_i64 ((w_i64 (v_t2 + y1.1)) - 1)) - 52))) + 1075))) 52) (w_u64 (w_i64 (y13.1.1 - 4503599627370496))))).bind fun y19 =>
            some (y19.1, ((), (), (), (), (), ()))
          else
            (g54 m v_neg (w_u64 y13.1.1)).bind fun y20 =>
            some (y20.1, ((), (), (), (), (), ()))
/-! 21 sparse/sparseref03.Round -/
def g21 (m : Nat) (v_d_0 : Bool) (v_d_1 : Bool) (v_d_2 : List Int) (v_d_3 : Int) (v_mode : Int) : Option (Int × Unit × Unit × Unit) :=
  (g31 m v_d_0 v_d_1 v_d_2 v_d_3).bind fun y1 =>
  bif y1.1.1 then
    some (9221120237041090560, ((), (), ()))
  else
    (g32 m y1.1.2.1 y1.1.2.2.1).bind fun y2 =>
    bif y2.1 == 0 then
      some (0, ((), (), ()))
    else
      (g34 m y1.1.2.1 y1.1.2.2.1).bind fun y3 =>
      (g33 m y1.1.2.1 y3.1.1 y3.1.2.1 y1.1.2.2.2.1 false v_mode).bind fun y4 =>
      some (y4.1, ((), (), ()))
/-! 11 sparse/sparsemake.Value -/
def g11 (m : Nat) (v_n : Int) : Option (Int × Unit × Unit) :=
  (g5 m v_n 17).bind fun y1 =>
  bif (Int.tmod (w_i64 (w_u64 (Int.tdiv (w_u64 v_n) 17))) 3) == 0 then
    (g23 m (w_i64 (y1.1 - 8))).bind fun y2 =>
    (g22 m y2.1.1 y2.1.2.1 y2.1.2.2.1 y2.1.2.2.2.1 (w_i64 ((Int.tmod (w_i64 (Int.tdiv (w_i64 (w_u64 (Int.tdiv (w_u64 v_n) 17))) 3)) 13) - 6))).bind fun y3 =>
    (g21 m y3.1.1 y3.1.2.1 y3.1.2.2.1 y3.1.2.2.2.1 0).bind fun y4 =>
    some (y4.1, ((), ()))
  else
    (g23 m (w_i64 (y1.1 - 8))).bind fun y5 =>
    (g22 m y5.1.1 y5.1.2.1 y5.1.2.2.1 y5.1.2.2.2.1 0).bind fun y6 =>
    (g21 m y6.1.1 y6.1.2.1 y6.1.2.2.1 y6.1.2.2.2.1 0).bind fun y7 =>
    some (y7.1, ((), ()))
/-! 13 sparse/sparseref09.Pack -/
def g13_L2 (m : Nat) : Nat → Int → Int → (List (Int × Int × Int)) → Int → Int → List Int → List Int → List Int → Int → Int → List Int → List Int → List Int → List Int → Int → Int → Option ((Int × Int × (List (Int × Int × Int)) × (Int × Int × List Int × List Int × List Int × Unit) × (Int × Int × List Int × List Int × List Int × Unit) × List Int × Int × Unit) ⊕ Empty)
  | 0, _, _, _, _, _, _, _, _, _, _, _, _, _, _, _, _ => none
  | n + 1, v_rows, v_t1, v_t2, v_t6_0, v_t6_1, v_t6_2, v_t6_3, v_t6_4, v_t7_0, v_t7_1, v_t7_2, v_t7_3, v_t7_4, v_t8, v_t10, v_t11 =>
    bif decide (v_t11 < v_rows) then
      if (0 : Int) ≤ (w_i64 ((w_i64 (v_t10 * v_rows)) + v_t11)) ∧ (w_i64 ((w_i64 (v_t10 * v_rows)) + v_t11)) < (v_t8.length : Int) then
      bif decide ((v_t8.getD (0 + (w_i64 ((w_i64 (v_t10 * v_rows)) + v_t11)).toNat) 0) > 0) then
        if v_t7_3.length + ([v_t11] : List Int).length ≤ 1073741824 then
        if (0 : Int) ≤ (w_i64 ((v_t8.getD (0 + (w_i64 ((w_i64 (v_t10 * v_rows)) + v_t11)).toNat) 0) - 1)) ∧ (w_i64 ((v_t8.getD (0 + (w_i64 ((w_i64 (v_t10 * v_rows)) + v_t11)).toNat) 0) - 1)) < (v_t2.length : Int) then
        if v_t7_4.length + ([(v_t2.getD (w_i64 ((v_t8.getD (0 + (w_i64 ((w_i64 (v_t10 * v_rows)) + v_t11)).toNat) 0) - 1)).toNat (0, (0, 0))).2.2] : List Int).length ≤ 1073741824 then
        g13_L2 m n v_rows v_t1 v_t2 v_t6_0 v_t6_1 v_t6_2 v_t6_3 v_t6_4 v_t7_0 v_t7_1 v_t7_2 (v_t7_3 ++ ([v_t11] : List Int)) (v_t7_4 ++ ([(v_t2.getD (w_i64 ((v_t8.getD (0 + (w_i64 ((w_i64 (v_t10 * v_rows)) + v_t11)).toNat) 0) - 1)).toNat (0, (0, 0))).2.2] : List Int)) v_t8 v_t10 (w_i64 (v_t11 + 1))
        else none
        else none
        else none
      else
        g13_L2 m n v_rows v_t1 v_t2 v_t6_0 v_t6_1 v_t6_2 v_t6_3 v_t6_4 v_t7_0 v_t7_1 v_t7_2 v_t7_3 v_t7_4 v_t8 v_t10 (w_i64 (v_t11 + 1))
      else none
    else
      some (.inl (v_rows, v_t1, v_t2, (v_t6_0, v_t6_1, v_t6_2, v_t6_3, v_t6_4, ()), (v_t7_0, v_t7_1, v_t7_2, v_t7_3, v_t7_4, ()), v_t8, v_t10, ()))
def g13_L1 (m : Nat) : Nat → Int → Int → (List (Int × Int × Int)) → Int → Int → List Int → List Int → List Int → Int → Int → List Int → List Int → List Int → List Int → Int → Option (((Int × Int × List Int × List Int × List Int × Unit) × (Int × Int × List Int × List Int × List Int × Unit) × Unit) ⊕ Empty)
  | 0, _, _, _, _, _, _, _, _, _, _, _, _, _, _, _ => none
  | n + 1, v_rows, v_t1, v_t2, v_t6_0, v_t6_1, v_t6_2, v_t6_3, v_t6_4, v_t7_0, v_t7_1, v_t7_2, v_t7_3, v_t7_4, v_t8, v_t10 =>
    bif decide (v_t10 < v_t1) then
      (g13_L2 m m v_rows v_t1 v_t2 v_t6_0 v_t6_1 v_t6_2 v_t6_3 v_t6_4 v_t7_0 v_t7_1 v_t7_2 v_t7_3 v_t7_4 v_t8 v_t10 0).bind fun y1 =>
      match y1 with
      | .inl z2 =>
        if z2.2.2.2.2.1.2.2.1.length + ([(z2.2.2.2.2.1.2.2.2.1.length : Int)] : List Int).length ≤ 1073741824 then
        g13_L1 m n z2.1 z2.2.1 z2.2.2.1 z2.2.2.2.1.1 z2.2.2.2.1.2.1 z2.2.2.2.1.2.2.1 z2.2.2.2.1.2.2.2.1 z2.2.2.2.1.2.2.2.2.1 z2.2.2.2.2.1.1 z2.2.2.2.2.1.2.1 (z2.2.2.2.2.1.2.2.1 ++ ([(z2.2.2.2.2.1.2.2.2.1.length : Int)] : List Int)) z2.2.2.2.2.1.2.2.2.1 z2.2.2.2.2.1.2.2.2.2.1 z2.2.2.2.2.2.1 (w_i64 (z2.2.2.2.2.2.2.1 + 1))
        else none
      | .inr e =>
        e.elim
    else
      some (.inl ((v_t6_0, v_t6_1, v_t6_2, v_t6_3, v_t6_4, ()), (v_t7_0, v_t7_1, v_t7_2, v_t7_3, v_t7_4, ()), ()))
def g13_L0 (m : Nat) : Nat → Int → Int → (List (Int × Int × Int)) → Int → Int → List Int → List Int → List Int → Int → Int → List Int → List Int → List Int → List Int → Int → Option ((Int × Int × (List (Int × Int × Int)) × (Int × Int × List Int × List Int × List Int × Unit) × (Int × Int × List Int × List Int × List Int × Unit) × List Int × Unit) ⊕ Empty)
  | 0, _, _, _, _, _, _, _, _, _, _, _, _, _, _, _ => none
  | n + 1, v_rows, v_t1, v_t2, v_t6_0, v_t6_1, v_t6_2, v_t6_3, v_t6_4, v_t7_0, v_t7_1, v_t7_2, v_t7_3, v_t7_4, v_t8, v_t9 =>
    bif decide (v_t9 < (v_t2.length : Int)) then
      if (0 : Int) ≤ v_t9 ∧ v_t9 < (v_t2.length : Int) then
      if (0 : Int) ≤ v_t9 ∧ v_t9 < (v_t2.length : Int) then
      if (0 : Int) ≤ (w_i64 ((w_i64 ((v_t2.getD v_t9.toNat (0, (0, 0))).2.1 * v_rows)) + (v_t2.getD v_t9.toNat (0, (0, 0))).1)) ∧ (w_i64 ((w_i64 ((v_t2.getD v_t9.toNat (0, (0, 0))).2.1 * v_rows)) + (v_t2.getD v_t9.toNat (0, (0, 0))).1)) < (v_t8.length : Int) then
      g13_L0 m n v_rows v_t1 v_t2 v_t6_0 v_t6_1 v_t6_2 v_t6_3 v_t6_4 v_t7_0 v_t7_1 v_t7_2 v_t7_3 v_t7_4 (v_t8.set (0 + (w_i64 ((w_i64 ((v_t2.getD v_t9.toNat (0, (0, 0))).2.1 * v_rows)) + (v_t2.getD v_t9.toNat (0, (0, 0))).1)).toNat) (w_i64 (v_t9 + 1))) (w_i64 (v_t9 + 1))
      else none
      else none
      else none
    else
      some (.inl (v_rows, v_t1, v_t2, (v_t6_0, v_t6_1, v_t6_2, v_t6_3, v_t6_4, ()), (v_t7_0, v_t7_1, v_t7_2, v_t7_3, v_t7_4, ()), v_t8, ()))
def g13 (m : Nat) (v_rows : Int) (v_t1 : Int) (v_t2 : List (Int × Int × Int)) : Option ((Int × Int × List Int × List Int × List Int × Unit) × Unit × Unit × Unit × Unit) :=
  if (0 : Int) ≤ (w_i64 (v_rows * v_t1)) ∧ (w_i64 (v_rows * v_t1)) ≤ (w_i64 (v_rows * v_t1)) ∧ (w_i64 (v_rows * v_t1)) ≤ 1073741824 then
  (g13_L0 m m v_rows v_t1 v_t2 0 0 ([] : List Int) ([] : List Int) ([] : List Int) v_rows v_t1 ([0] : List Int) ([] : List Int) ([] : List Int) (List.replicate (w_i64 (v_rows * v_t1)).toNat (0 : Int)) 0).bind fun y1 =>
  match y1 with
  | .inl z2 =>
    (g13_L1 m m z2.1 z2.2.1 z2.2.2.1 z2.2.2.2.1.1 z2.2.2.2.1.2.1 z2.2.2.2.1.2.2.1 z2.2.2.2.1.2.2.2.1 z2.2.2.2.1.2.2.2.2.1 z2.2.2.2.2.1.1 z2.2.2.2.2.1.2.1 z2.2.2.2.2.1.2.2.1 z2.2.2.2.2.1.2.2.2.1 z2.2.2.2.2.1.2.2.2.2.1 z2.2.2.2.2.2.1 0).bind fun y3 =>
    match y3 with
    | .inl z4 =>
      some ((z4.2.1.1, z4.2.1.2.1, z4.2.1.2.2.1, z4.2.1.2.2.2.1, z4.2.1.2.2.2.2.1, ()), ((), (), (), ()))
    | .inr e =>
      e.elim
  | .inr e =>
    e.elim
  else none
/-! 6 sparse/sparsemake.Square -/
def g6_L1 (m : Nat) : Nat → Int → List Int → Int → Int → List Int → List Int → List Int → (List (Int × Int × Int)) → Int → Option ((Int × (Int × Int × List Int × List Int × List Int × Unit) × (List (Int × Int × Int)) × Unit) ⊕ Empty)
  | 0, _, _, _, _, _, _, _, _, _ => none
  | n + 1, v_n, v_l, v_t4_0, v_t4_1, v_t4_2, v_t4_3, v_t4_4, v_e, v_i =>
    bif decide ((w_i64 (v_i + 2)) < (v_l.length : Int)) then
      bif decide (v_n > 0) then
        if (0 : Int) ≤ v_i ∧ v_i < (v_l.length : Int) then
        (g5 m (v_l.getD v_i.toNat 0) v_n).bind fun y1 =>
        if (0 : Int) ≤ (w_i64 (v_i + 1)) ∧ (w_i64 (v_i + 1)) < (v_l.length : Int) then
        (g5 m (v_l.getD (w_i64 (v_i + 1)).toNat 0) v_n).bind fun y2 =>
        if (0 : Int) ≤ (w_i64 (v_i + 2)) ∧ (w_i64 (v_i + 2)) < (v_l.length : Int) then
        (g11 m (v_l.getD (w_i64 (v_i + 2)).toNat 0)).bind fun y3 =>
        if v_e.length + ([(y1.1, (y2.1, y3.1))] : List (Int × Int × Int)).length ≤ 1073741824 then
        g6_L1 m n v_n v_l v_t4_0 v_t4_1 v_t4_2 v_t4_3 v_t4_4 (v_e ++ ([(y1.1, (y2.1, y3.1))] : List (Int × Int × Int))) (w_i64 (v_i + 3))
        else none
        else none
        else none
        else none
      else
        some (.inl (v_n, (v_t4_0, v_t4_1, v_t4_2, v_t4_3, v_t4_4, ()), v_e, ()))
    else
      some (.inl (v_n, (v_t4_0, v_t4_1, v_t4_2, v_t4_3, v_t4_4, ()), v_e, ()))
def g6_L0 (m : Nat) : Nat → Int → List Int → Int → Int → List Int → List Int → List Int → (List (Int × Int × Int)) → Int → Option ((Int × List Int × (Int × Int × List Int × List Int × List Int × Unit) × (List (Int × Int × Int)) × Unit) ⊕ Empty)
  | 0, _, _, _, _, _, _, _, _, _ => none
  | n + 1, v_n, v_l, v_t4_0, v_t4_1, v_t4_2, v_t4_3, v_t4_4, v_e, v_i =>
    bif decide (v_i < v_n) then
      (g12 m v_l v_i).bind fun y1 =>
      (g11 m (w_i64 (y1.1 + 1))).bind fun y2 =>
      if v_e.length + ([(v_i, (v_i, y2.1))] : List (Int × Int × Int)).length ≤ 1073741824 then
      g6_L0 m n v_n v_l v_t4_0 v_t4_1 v_t4_2 v_t4_3 v_t4_4 (v_e ++ ([(v_i, (v_i, y2.1))] : List (Int × Int × Int))) (w_i64 (v_i + 1))
      else none
    else
      some (.inl (v_n, v_l, (v_t4_0, v_t4_1, v_t4_2, v_t4_3, v_t4_4, ()), v_e, ()))
def g6 (m : Nat) (v_n : Int) (v_l : List Int) : Option ((Int × Int × List Int × List Int × List Int × Unit) × Unit × Unit × Unit) :=
  (g6_L0 m m v_n v_l 0 0 ([] : List Int) ([] : List Int) ([] : List Int) ([] : List (Int × Int × Int)) 0).bind fun y1 =>
  match y1 with
  | .inl z2 =>
    (g6_L1 m m z2.1 z2.2.1 z2.2.2.1.1 z2.2.2.1.2.1 z2.2.2.1.2.2.1 z2.2.2.1.2.2.2.1 z2.2.2.1.2.2.2.2.1 z2.2.2.2.1 z2.1).bind fun y3 =>
    match y3 with
    | .inl z4 =>
      (g13 m z4.1 z4.1 z4.2.2.1).bind fun y5 =>
      some ((y5.1.1, y5.1.2.1, y5.1.2.2.1, y5.1.2.2.2.1, y5.1.2.2.2.2.1, ()), ((), (), ()))
    | .inr e =>
      e.elim
  | .inr e =>
    e.elim
/-! 8 sparse/sparsekit.TwinInts -/
def g8_L0 (m : Nat) : Nat → List Int → List Int → Int → Option ((List Int × Unit) ⊕ Empty)
  | 0, _, _, _ => none
  | n + 1, v_a, v_out, v_i =>
    bif decide (v_i < (v_a.length : Int)) then
      if (0 : Int) ≤ v_i ∧ v_i < (v_a.length : Int) then
      if v_out.length + ([v_a.getD v_i.toNat 0] : List Int).length ≤ 1073741824 then
      g8_L0 m n v_a (v_out ++ ([v_a.getD v_i.toNat 0] : List Int)) (w_i64 (v_i + 1))
      else none
      else none
    else
      some (.inl (v_out, ()))
def g8 (m : Nat) (v_a : List Int) : Option (List Int × Unit × Unit) :=
  (g8_L0 m m v_a ([] : List Int) 0).bind fun y1 =>
  match y1 with
  | .inl z2 =>
    some (z2.1, ((), ()))
  | .inr e =>
    e.elim
/-! 3 sparse/sparselaw14.TransversalDuals -/
def sparselaw14_TransversalDuals_L0 (m : Nat) : Nat → Int → Int → Int → Int → Int → List Int → List Int → List Int → List Int → List Int → List Int → Int → Option ((Bool × Unit) ⊕ (Int × Int × Int × (Int × Int × List Int × List Int × List Int × Unit) × (List Int × List Int × List Int × Unit) × Unit) ⊕ Empty)
  | 0, _, _, _, _, _, _, _, _, _, _, _, _ => none
  | n + 1, v_n, v_t2, v_t3, v_t9_0, v_t9_1, v_t9_2, v_t9_3, v_t9_4, v_t10_0, v_t10_1, v_t10_2, v_t12 =>
    bif decide (v_t12 < v_n) then
      if (0 : Int) ≤ v_t12 ∧ v_t12 < (v_t10_2.length : Int) then
      bif decide ((v_t10_2.getD v_t12.toNat 0) < 0) then
        some (.inl (false, ()))
      else
        sparselaw14_TransversalDuals_L0 m n v_n v_t2 v_t3 v_t9_0 v_t9_1 v_t9_2 v_t9_3 v_t9_4 v_t10_0 v_t10_1 v_t10_2 (w_i64 (v_t12 + 1))
      else none
    else
      some (.inr (.inl (v_n, v_t2, v_t3, (v_t9_0, v_t9_1, v_t9_2, v_t9_3, v_t9_4, ()), (v_t10_0, v_t10_1, v_t10_2, ()), ())))
def sparselaw14_TransversalDuals (m : Nat) (v_n : Int) (v_t1 : List Int) (v_t2 : Int) (v_t3 : Int) : Option (Bool × Unit × Unit × Unit × Unit × Unit) :=
  bif decide ((v_t1.length : Int) > 60) then
    (sparselaw14_awake m).bind fun y1 =>
    some (y1.1, ((), (), (), (), ()))
  else
    (g5 m v_n 5).bind fun y2 =>
    (g6 m (w_i64 (1 + y2.1)) v_t1).bind fun y3 =>
    (g7 m y3.1.1 y3.1.2.1 y3.1.2.2.1 y3.1.2.2.2.1 y3.1.2.2.2.2.1).bind fun y4 =>
    bif y4.1.2.1 != 0 then
      bif y4.1.2.1 == 9 then
        (sparselaw14_awake m).bind fun y5 =>
        some (y5.1, ((), (), (), (), ()))
      else
        some (false, ((), (), (), (), ()))
    else
      bif (y4.1.1.1.length : Int) != (w_i64 (1 + y2.1)) then
        some (false, ((), (), (), (), ()))
      else
        bif (y4.1.1.2.1.length : Int) != (w_i64 (1 + y2.1)) then
          some (false, ((), (), (), (), ()))
        else
          bif (y4.1.1.2.2.1.length : Int) != (w_i64 (1 + y2.1)) then
            some (false, ((), (), (), (), ()))
          else
            (sparselaw14_TransversalDuals_L0 m m (w_i64 (1 + y2.1)) v_t2 v_t3 y3.1.1 y3.1.2.1 y3.1.2.2.1 y3.1.2.2.2.1 y3.1.2.2.2.2.1 y4.1.1.1 y4.1.1.2.1 y4.1.1.2.2.1 0).bind fun y6 =>
            match y6 with
            | .inl z7 =>
              some (z7.1, ((), (), (), (), ()))
            | .inr (.inl z8) =>
              (g5 m z8.2.1 z8.1).bind fun y9 =>
              (g8 m z8.2.2.2.2.1.2.1).bind fun y10 =>
              if (0 : Int) ≤ y9.1 ∧ y9.1 < (y10.1.length : Int) then
              if (0 : Int) ≤ y9.1 ∧ y9.1 < (z8.2.2.2.2.1.2.1.length : Int) then
              bif z8.2.2.1 != (z8.2.2.2.2.1.2.1.getD y9.1.toNat 0) then
                (g9 m z8.2.2.2.1.1 z8.2.2.2.1.2.1 z8.2.2.2.1.2.2.1 z8.2.2.2.1.2.2.2.1 z8.2.2.2.1.2.2.2.2.1 z8.2.2.2.2.1.1 (y10.1.set (0 + y9.1.toNat) z8.2.2.1) z8.2.2.2.2.1.2.2.1).bind fun y11 =>
                bif y11.1 != 140 then
                  some (false, ((), (), (), (), ()))
                else
                  (g8 m z8.2.2.2.2.1.1).bind fun y12 =>
                  if z8.1 ≠ 0 then
                  if (0 : Int) ≤ (Int.tmod (w_i64 (y9.1 + 1)) z8.1) ∧ (Int.tmod (w_i64 (y9.1 + 1)) z8.1) < (y12.1.length : Int) then
                  if (0 : Int) ≤ y9.1 ∧ y9.1 < (y12.1.length : Int) then
                  (g9 m z8.2.2.2.1.1 z8.2.2.2.1.2.1 z8.2.2.2.1.2.2.1 z8.2.2.2.1.2.2.2.1 z8.2.2.2.1.2.2.2.2.1 (y12.1.set (0 + y9.1.toNat) (y12.1.getD (0 + (Int.tmod (w_i64 (y9.1 + 1)) z8.1).toNat) 0)) z8.2.2.2.2.1.2.1 z8.2.2.2.2.1.2.2.1).bind fun y13 =>
                  bif z8.1 == 1 then
                    (g9 m z8.2.2.2.1.1 z8.2.2.2.1.2.1 z8.2.2.2.1.2.2.1 z8.2.2.2.1.2.2.2.1 z8.2.2.2.1.2.2.2.2.1 z8.2.2.2.2.1.1 z8.2.2.2.2.1.2.1 ([] : List Int)).bind fun y14 =>
                    bif y14.1 == 2 then
                      (g9 m z8.2.2.2.1.1 z8.2.2.2.1.2.1 z8.2.2.2.1.2.2.1 z8.2.2.2.1.2.2.2.1 z8.2.2.2.1.2.2.2.2.1 z8.2.2.2.2.1.1 z8.2.2.2.2.1.2.1 z8.2.2.2.2.1.2.2.1).bind fun y15 =>
                      bif y15.1 == 0 then
                        (sparselaw14_awake m).bind fun y16 =>
                        some (y16.1, ((), (), (), (), ()))
                      else
                        some (false, ((), (), (), (), ()))
                    else
                      some (false, ((), (), (), (), ()))
                  else
                    bif y13.1 == 130 then
                      (g9 m z8.2.2.2.1.1 z8.2.2.2.1.2.1 z8.2.2.2.1.2.2.1 z8.2.2.2.1.2.2.2.1 z8.2.2.2.1.2.2.2.2.1 z8.2.2.2.2.1.1 z8.2.2.2.2.1.2.1 ([] : List Int)).bind fun y17 =>
                      bif y17.1 == 2 then
                        (g9 m z8.2.2.2.1.1 z8.2.2.2.1.2.1 z8.2.2.2.1.2.2.1 z8.2.2.2.1.2.2.2.1 z8.2.2.2.1.2.2.2.2.1 z8.2.2.2.2.1.1 z8.2.2.2.2.1.2.1 z8.2.2.2.2.1.2.2.1).bind fun y18 =>
                        bif y18.1 == 0 then
                          (sparselaw14_awake m).bind fun y19 =>
                          some (y19.1, ((), (), (), (), ()))
                        else
                          some (false, ((), (), (), (), ()))
                      else
                        some (false, ((), (), (), (), ()))
                    else
                      some (false, ((), (), (), (), ()))
                  else none
                  else none
                  else none
              else
                (g8 m z8.2.2.2.2.1.1).bind fun y20 =>
                if z8.1 ≠ 0 then
                if (0 : Int) ≤ (Int.tmod (w_i64 (y9.1 + 1)) z8.1) ∧ (Int.tmod (w_i64 (y9.1 + 1)) z8.1) < (y20.1.length : Int) then
                if (0 : Int) ≤ y9.1 ∧ y9.1 < (y20.1.length : Int) then
                (g9 m z8.2.2.2.1.1 z8.2.2.2.1.2.1 z8.2.2.2.1.2.2.1 z8.2.2.2.1.2.2.2.1 z8.2.2.2.1.2.2.2.2.1 (y20.1.set (0 + y9.1.toNat) (y20.1.getD (0 + (Int.tmod (w_i64 (y9.1 + 1)) z8.1).toNat) 0)) z8.2.2.2.2.1.2.1 z8.2.2.2.2.1.2.2.1).bind fun y21 =>
                bif z8.1 == 1 then
                  (g9 m z8.2.2.2.1.1 z8.2.2.2.1.2.1 z8.2.2.2.1.2.2.1 z8.2.2.2.1.2.2.2.1 z8.2.2.2.1.2.2.2.2.1 z8.2.2.2.2.1.1 z8.2.2.2.2.1.2.1 ([] : List Int)).bind fun y22 =>
                  bif y22.1 == 2 then
                    (g9 m z8.2.2.2.1.1 z8.2.2.2.1.2.1 z8.2.2.2.1.2.2.1 z8.2.2.2.1.2.2.2.1 z8.2.2.2.1.2.2.2.2.1 z8.2.2.2.2.1.1 z8.2.2.2.2.1.2.1 z8.2.2.2.2.1.2.2.1).bind fun y23 =>
                    bif y23.1 == 0 then
                      (sparselaw14_awake m).bind fun y24 =>
                      some (y24.1, ((), (), (), (), ()))
                    else
                      some (false, ((), (), (), (), ()))
                  else
                    some (false, ((), (), (), (), ()))
                else
                  bif y21.1 == 130 then
                    (g9 m z8.2.2.2.1.1 z8.2.2.2.1.2.1 z8.2.2.2.1.2.2.1 z8.2.2.2.1.2.2.2.1 z8.2.2.2.1.2.2.2.2.1 z8.2.2.2.2.1.1 z8.2.2.2.2.1.2.1 ([] : List Int)).bind fun y25 =>
                    bif y25.1 == 2 then
                      (g9 m z8.2.2.2.1.1 z8.2.2.2.1.2.1 z8.2.2.2.1.2.2.1 z8.2.2.2.1.2.2.2.1 z8.2.2.2.1.2.2.2.2.1 z8.2.2.2.2.1.1 z8.2.2.2.2.1.2.1 z8.2.2.2.2.1.2.2.1).bind fun y26 =>
                      bif y26.1 == 0 then
                        (sparselaw14_awake m).bind fun y27 =>
                        some (y27.1, ((), (), (), (), ()))
                      else
                        some (false, ((), (), (), (), ()))
                    else
                      some (false, ((), (), (), (), ()))
                  else
                    some (false, ((), (), (), (), ()))
                else none
                else none
                else none
              else none
              else none
            | .inr (.inr e) =>
              e.elim
end Go.Vs.F
