/- The plain functions of the program, as the evaluator computes them (by program: gen.py). -/
import Derived.Test.YthpaiogjnojghaaDoorVc

/-! MqFn -/
set_option linter.unusedVariables false
namespace Go.Vs.F
def q3h : List Int := [0,1,28,2,29,14,24,3,30,22,20,15,25,17,4,8,31,27,13,23,21,19,16,7,26,12,18,6,11,5,10,9]
def Xp : List Int := [0,1,2,2,3,3,3,3,4,4,4,4,4,4,4,4,5,5,5,5,5,5,5,5,5,5,5,5,5,5,5,5,6,6,6,6,6,6,6,6,6,6,6,6,6,6,6,6,6,6,6,6,6,6,6,6,6,6,6,6,6,6,6,6,7,7,7,7,7,7,7,7,7,7,7,7,7,7,7,7,7,7,7,7,7,7,7,7,7,7,7,7,7,7,7,7,7,7,7,7,7,7,7,7,7,7,7,7,7,7,7,7,7,7,7,7,7,7,7,7,7,7,7,7,7,7,7,7,8,8,8,8,8,8,8,8,8,8,8,8,8,8,8,8,8,8,8,8,8,8,8,8,8,8,8,8,8,8,8,8,8,8,8,8,8,8,8,8,8,8,8,8,8,8,8,8,8,8,8,8,8,8,8,8,8,8,8,8,8,8,8,8,8,8,8,8,8,8,8,8,8,8,8,8,8,8,8,8,8,8,8,8,8,8,8,8,8,8,8,8,8,8,8,8,8,8,8,8,8,8,8,8,8,8,8,8,8,8,8,8,8,8,8,8,8,8,8,8,8,8,8,8,8,8,8,8]
/-! 5 sparse/sparsegen.Mod -/
/-! 24 sparse/float.parts -/
def g24 (m : Nat) (a : Int) : Option ((Int × Int × Unit) × Unit × Unit) :=
 some ((w_i64 (qw .u64 (shr_ .u64 a 52) 2047),qw .u64 a 4503599627370495,()),((),()))
/-! 14 sparse/float.Kind -/
def g14 (m : Nat) (a : Int) : Option (Int × Unit × Unit) :=
 (g24 m a).bind fun y1 =>
 bif y1.1.1 == 2047 then
  bif y1.1.2.1 != 0 then
   some (3,((),()))
  else
   bif y1.1.1 == 2047 then
    some (2,((),()))
   else
    bif y1.1.1 == 0 then
     bif y1.1.2.1 == 0 then
      some (0,((),()))
     else
      some (1,((),()))
    else
     some (1,((),()))
 else
  bif y1.1.1 == 2047 then
   some (2,((),()))
  else
   bif y1.1.1 == 0 then
    bif y1.1.2.1 == 0 then
     some (0,((),()))
    else
     some (1,((),()))
   else
    some (1,((),()))
/-! 25 sparse/float.nan -/
def g25_L0 (m : Nat) : Nat → List Int → Int → Int → Option ((Bool × Unit) ⊕ Unit ⊕ Empty)
 | 0,_,_,_ => none
 | n + 1,a,b,c =>
  bif decide (c < b) then
   if (0 : Int) ≤ c ∧ c < (a.length : Int) then
   (g14 m (a.getD c.toNat 0)).bind fun y1 =>
   bif y1.1 == 3 then
    some (.inl (true,()))
   else
    g25_L0 m n a b (w_i64 (c + 1))
   else none
  else
   some (.inr (.inl ()))
def g25 (m : Nat) (a : List Int) : Option (Bool × Unit × Unit) :=
 (g25_L0 m m a (a.length : Int) 0).bind fun y1 =>
 match y1 with
 | .inl z2 =>
  some (z2.1,((),()))
 | .inr (.inl z3) =>
  some (false,((),()))
 | .inr (.inr e) =>
  e.elim
/-! 15 sparse/float.Abs -/
def g15 (m : Nat) (a : Int) : Option (Int × Unit × Unit) :=
 (g25 m ([a] : List Int)).bind fun y1 =>
 bif y1.1 then
  some (9221120237041090560,((),()))
 else
  some (Y2 .u64 a 9223372036854775808,((),()))
/-! 6 sparse/tridiag.Key -/
def g6 (m : Nat) (a : Int) : Option ((Int × Bool × Unit) × Unit × Unit) :=
 (g14 m a).bind fun y1 =>
 bif y1.1 == 3 then
  some ((0,false,()),((),()))
 else
  (g15 m a).bind fun y2 =>
  (g15 m a).bind fun y3 =>
  bif a != y3.1 then
   some ((w_i64 (0 - (w_i64 y2.1)),true,()),((),()))
  else
   some ((w_i64 y2.1,true,()),((),()))
/-! 16 sparse/sparseref03.Kind -/
def g16 (m : Nat) (a : Int) : Option (Int × Unit × Unit) :=
 bif (qw .u64 (shr_ .u64 a 52) 2047) == 2047 then
  bif (qw .u64 a 4503599627370495) != 0 then
   some (3,((),()))
  else
   bif (qw .u64 (shr_ .u64 a 52) 2047) == 2047 then
    some (2,((),()))
   else
    bif (qw .u64 (shr_ .u64 a 52) 2047) == 0 then
     bif (qw .u64 a 4503599627370495) == 0 then
      some (0,((),()))
     else
      some (1,((),()))
    else
     some (1,((),()))
 else
  bif (qw .u64 (shr_ .u64 a 52) 2047) == 2047 then
   some (2,((),()))
  else
   bif (qw .u64 (shr_ .u64 a 52) 2047) == 0 then
    bif (qw .u64 a 4503599627370495) == 0 then
     some (0,((),()))
    else
     some (1,((),()))
   else
    some (1,((),()))
/-! 7 sparse/sparseref37.Key -/
def g7 (m : Nat) (a : Int) : Option ((Int × Bool × Unit) × Unit × Unit) :=
 (g16 m a).bind fun y1 =>
 bif y1.1 == 3 then
  some ((0,false,()),((),()))
 else
  bif (qw .u64 a 9223372036854775808) != 0 then
   some ((w_i64 (0 - (w_i64 (Y2 .u64 a 9223372036854775808))),true,()),((),()))
  else
   some ((w_i64 (Y2 .u64 a 9223372036854775808),true,()),((),()))
/-! 17 sparse/float.Neg -/
def g17 (m : Nat) (a : Int) : Option (Int × Unit × Unit) :=
 (g25 m ([a] : List Int)).bind fun y1 =>
 bif y1.1 then
  some (9221120237041090560,((),()))
 else
  some (q1i .u64 a 9223372036854775808,((),()))
/-! 8 sparse/tridiag.FromKey -/
def g8 (m : Nat) (a : Int) : Option ((Int × Bool × Unit) × Unit × Unit) :=
 bif decide (a < (-9218868437227405312)) then
  some ((0,false,()),((),()))
 else
  bif decide (a > 9218868437227405312) then
   some ((0,false,()),((),()))
  else
   bif decide (a < 0) then
    (g17 m (w_u64 (w_i64 (0 - a)))).bind fun y1 =>
    some ((y1.1,true,()),((),()))
   else
    some ((w_u64 a,true,()),((),()))
/-! 9 sparse/sparseref37.FromKey -/
def g9 (m : Nat) (a : Int) : Option ((Int × Bool × Unit) × Unit × Unit) :=
 (g7 m 9218868437227405312).bind fun y1 =>
 bif decide (a > y1.1.1) then
  some ((0,false,()),((),()))
 else
  bif decide (a < (w_i64 (0 - y1.1.1))) then
   some ((0,false,()),((),()))
  else
   bif decide (a < 0) then
    some ((b_or_ .u64 (w_u64 (w_i64 (0 - a))) 9223372036854775808,true,()),((),()))
   else
    some ((w_u64 a,true,()),((),()))
/-! 18 sparse/tridiag.middle -/
def g18 (m : Nat) (a : Int) (b : Int) : Option (Int × Unit × Unit × Unit) :=
 some (w_i64 ((qw .i64 a b) + (shr_ .i64 (q1i .i64 a b) 1)),((),(),()))
/-! 10 sparse/tridiag.Middle -/
def g10 (m : Nat) (a : Int) (b : Int) : Option ((Int × Bool × Unit) × Unit × Unit × Unit) :=
 (g6 m a).bind fun y1 =>
 (g6 m b).bind fun y2 =>
 bif !y1.1.2.1 then
  some ((0,false,()),((),(),()))
 else
  bif !y2.1.2.1 then
   some ((0,false,()),((),(),()))
  else
   (g18 m y1.1.1 y2.1.1).bind fun y3 =>
   (g8 m y3.1).bind fun y4 =>
   some ((y4.1.1,y4.1.2.1,()),((),(),()))
/-! 19 sparse/sparseref37.Half -/
def g19 (m : Nat) (a : Int) (b : Int) : Option (Int × Unit × Unit × Unit) :=
 some (w_i64 ((w_i64 ((shr_ .i64 a 1) + (shr_ .i64 b 1))) + (qw .i64 (qw .i64 a b) 1)),((),(),()))
/-! 11 sparse/sparseref37.Middle -/
def g11 (m : Nat) (a : Int) (b : Int) : Option ((Int × Bool × Unit) × Unit × Unit × Unit) :=
 (g7 m a).bind fun y1 =>
 (g7 m b).bind fun y2 =>
 bif !y1.1.2.1 then
  some ((0,false,()),((),(),()))
 else
  bif !y2.1.2.1 then
   some ((0,false,()),((),(),()))
  else
   (g19 m y1.1.1 y2.1.1).bind fun y3 =>
   (g9 m y3.1).bind fun y4 =>
   some ((y4.1.1,y4.1.2.1,()),((),(),()))
/-! 22 sparse/sparseref03.nan -/
def g22 (m : Nat) (a : Int) : Option (Bool × Unit × Unit) :=
 (g16 m a).bind fun y1 =>
 some (y1.1 == 3,((),()))
/-! 21 sparse/sparseref03.Neg -/
def g21 (m : Nat) (a : Int) : Option (Int × Unit × Unit) :=
 (g22 m a).bind fun y1 =>
 bif y1.1 then
  some (9221120237041090560,((),()))
 else
  some (q1i .u64 a 9223372036854775808,((),()))
/-! 30 sparse/float.IsFinite -/
def g30 (m : Nat) (a : Int) : Option (Bool × Unit × Unit) :=
 (g24 m a).bind fun y1 =>
 some (y1.1.1 != 2047,((),()))
/-! 29 sparse/tridiag.check_1 -/
def g29 (m : Nat) (a : Int) : Option (Bool × Unit × Unit) :=
 (g30 m a).bind fun y1 =>
 some (!y1.1,((),()))
/-! 35 slices.IndexFunc___sparse/api.Float_sparse/api.Float_ -/
def g35_L0 (m : Nat) : Nat → List Int → Int → Int → Option ((Int × Unit) ⊕ Unit ⊕ Empty)
 | 0,_,_,_ => none
 | n + 1,a,b,c =>
  bif decide (c < b) then
   if (0 : Int) ≤ c ∧ c < (a.length : Int) then
   (g29 m (a.getD c.toNat 0)).bind fun y1 =>
   bif y1.1 then
    some (.inl (c,()))
   else
    g35_L0 m n a b (w_i64 (c + 1))
   else none
  else
   some (.inr (.inl ()))
def g35 (m : Nat) (a : List Int) : Option (Int × Unit × Unit × Unit) :=
 (g35_L0 m m a (a.length : Int) 0).bind fun y1 =>
 match y1 with
 | .inl z2 =>
  some (z2.1,((),(),()))
 | .inr (.inl z3) =>
  some ((-1),((),(),()))
 | .inr (.inr e) =>
  e.elim
/-! 31 slices.ContainsFunc___sparse/api.Float_sparse/api.Float_ -/
def g31 (m : Nat) (a : List Int) : Option (Bool × Unit × Unit × Unit) :=
 (g35 m a).bind fun y1 =>
 some (decide (y1.1 ≥ 0),((),(),()))
/-! 26 sparse/tridiag.check -/
def g26 (m : Nat) (a : List Int) (b : List Int) : Option (Int × Unit × Unit × Unit) :=
 bif decide ((a.length : Int) > 16) then
  some (6,((),(),()))
 else
  bif (b.length : Int) != (if 0 > (w_i64 ((a.length : Int) - 1)) then 0 else (w_i64 ((a.length : Int) - 1))) then
   some (2,((),(),()))
  else
   (g31 m a).bind fun y1 =>
   bif y1.1 then
    some (4,((),(),()))
   else
    (g31 m b).bind fun y2 =>
    bif y2.1 then
     some (4,((),(),()))
    else
     some (0,((),(),()))
/-! 51 sparse/integer.trim -/
def g51_L0 (m : Nat) : Nat → List Int → Int → Option ((List Int × Int × Unit) ⊕ Empty)
 | 0,_,_ => none
 | n + 1,a,b =>
  bif decide (b > 0) then
   if (0 : Int) ≤ (w_i64 (b - 1)) ∧ (w_i64 (b - 1)) < (a.length : Int) then
   bif (a.getD (w_i64 (b - 1)).toNat 0) == 0 then
    g51_L0 m n a (w_i64 (b - 1))
   else
    some (.inl (a,b,()))
   else none
  else
   some (.inl (a,b,()))
def g51 (m : Nat) (a : List Int) : Option (List Int × Unit × Unit) :=
 (g51_L0 m m a (a.length : Int)).bind fun y1 =>
 match y1 with
 | .inl z2 =>
  if (0 : Int) ≤ 0 ∧ 0 ≤ z2.2.1 ∧ z2.2.1 ≤ (z2.1.length : Int) then
  some (z2.1.take z2.2.1.toNat,((),()))
  else none
 | .inr e =>
  e.elim
/-! 61 sparse/integer.big -/
def g61 (m : Nat) (a : Bool) (b : List Int) : Option ((Bool × List Int × Unit) × Unit × Unit × Unit) :=
 (g51 m b).bind fun y1 =>
 bif (y1.1.length : Int) == 0 then
  some ((false,([] : List Int),()),((),(),()))
 else
  some ((a,y1.1,()),((),(),()))
/-! 52 sparse/integer.FromInt -/
def g52 (m : Nat) (a : Int) : Option ((Bool × List Int × Unit) × Unit × Unit) :=
 bif decide (a < 0) then
  (g61 m (decide (a < 0)) ([w_u32 (qw .u64 (w_u64 (0 - (w_u64 a))) 4294967295),w_u32 (shr_ .u64 (w_u64 (0 - (w_u64 a))) 32)] : List Int)).bind fun y1 =>
  some ((y1.1.1,y1.1.2.1,()),((),()))
 else
  (g61 m (decide (a < 0)) ([w_u32 (qw .u64 (w_u64 a) 4294967295),w_u32 (shr_ .u64 (w_u64 a) 32)] : List Int)).bind fun y2 =>
  some ((y2.1.1,y2.1.2.1,()),((),()))
/-! 65 sparse/float.negative -/
def g65 (m : Nat) (a : Int) : Option (Bool × Unit × Unit) :=
 some ((qw .u64 a 9223372036854775808) != 0,((),()))
/-! 62 slices.Clone___uint32_uint32_ -/
def g62 (m : Nat) (a : List Int) : Option (List Int × Unit × Unit) :=
 if ([] : List Int).length + a.length ≤ 1073741824 then some (a,((),())) else none
/-! 56 sparse/integer.Neg -/
def g56 (m : Nat) (a : Bool) (b : List Int) : Option ((Bool × List Int × Unit) × Unit × Unit) :=
 (g62 m b).bind fun y1 =>
 (g61 m (!a) y1.1).bind fun y2 =>
 some ((y2.1.1,y2.1.2.1,()),((),()))
/-! 59 sparse/dyad.bad -/
def g59 (m : Nat) : Option ((Bool × Bool × List Int × Int × Unit) × Unit) :=
 some ((true,false,([] : List Int),0,()),())
/-! 45 sparse/integer.Norm -/
def g45 (m : Nat) (a : Bool) (b : List Int) : Option ((Bool × List Int × Unit) × Unit × Unit) :=
 (g62 m b).bind fun y1 =>
 (g61 m a y1.1).bind fun y2 =>
 some ((y2.1.1,y2.1.2.1,()),((),()))
/-! 40 sparse/integer.Sign -/
def g40 (m : Nat) (a : Bool) (b : List Int) : Option (Int × Unit × Unit) :=
 (g51 m b).bind fun y1 =>
 bif (y1.1.length : Int) == 0 then
  some (0,((),()))
 else
  bif a then
   some ((-1),((),()))
  else
   some (1,((),()))
/-! 86 math/bits.TrailingZeros32 -/
def g86 (m : Nat) (a : Int) : Option (Int × Unit × Unit) :=
 bif a == 0 then
  some (32,((),()))
 else
  if (0 : Int) ≤ 27 then
  if (0 : Int) ≤ (shr_ .u32 (w_u32 ((qw .u32 a (w_u32 (0 - a))) * 125613361)) 27) ∧ (shr_ .u32 (w_u32 ((qw .u32 a (w_u32 (0 - a))) * 125613361)) 27) < (q3h.length : Int) then
  some (w_i64 (q3h.getD (shr_ .u32 (w_u32 ((qw .u32 a (w_u32 (0 - a))) * 125613361)) 27).toNat 0),((),()))
  else none
  else none
/-! 74 sparse/integer.TrailingZeros -/
def g74_L0 (m : Nat) : Nat → List Int → Int → Int → Option ((Int × Unit) ⊕ Unit ⊕ Empty)
 | 0,_,_,_ => none
 | n + 1,a,b,c =>
  bif decide (c < b) then
   if (0 : Int) ≤ c ∧ c < (a.length : Int) then
   bif (a.getD c.toNat 0) != 0 then
    (g86 m (a.getD c.toNat 0)).bind fun y1 =>
    some (.inl (w_i64 ((w_i64 (c * 32)) + y1.1),()))
   else
    g74_L0 m n a b (w_i64 (c + 1))
   else none
  else
   some (.inr (.inl ()))
def g74 (m : Nat) (a : Bool) (b : List Int) : Option (Int × Unit × Unit) :=
 (g74_L0 m m b (b.length : Int) 0).bind fun y1 =>
 match y1 with
 | .inl z2 =>
  some (z2.1,((),()))
 | .inr (.inl z3) =>
  some (0,((),()))
 | .inr (.inr e) =>
  e.elim
/-! 94 math/bits.Len32 -/
def g94 (m : Nat) (a : Int) : Option (Int × Unit × Unit) :=
 bif decide (a ≥ 65536) then
  bif decide ((shr_ .u32 a 16) ≥ 256) then
   if (0 : Int) ≤ (w_u8 (shr_ .u32 (shr_ .u32 a 16) 8)) ∧ (w_u8 (shr_ .u32 (shr_ .u32 a 16) 8)) < (Xp.length : Int) then
   some (w_i64 (24 + (w_i64 (Xp.getD (w_u8 (shr_ .u32 (shr_ .u32 a 16) 8)).toNat 0))),((),()))
   else none
  else
   if (0 : Int) ≤ (w_u8 (shr_ .u32 a 16)) ∧ (w_u8 (shr_ .u32 a 16)) < (Xp.length : Int) then
   some (w_i64 (16 + (w_i64 (Xp.getD (w_u8 (shr_ .u32 a 16)).toNat 0))),((),()))
   else none
 else
  bif decide (a ≥ 256) then
   if (0 : Int) ≤ (w_u8 (shr_ .u32 a 8)) ∧ (w_u8 (shr_ .u32 a 8)) < (Xp.length : Int) then
   some (w_i64 (8 + (w_i64 (Xp.getD (w_u8 (shr_ .u32 a 8)).toNat 0))),((),()))
   else none
  else
   if (0 : Int) ≤ (w_u8 a) ∧ (w_u8 a) < (Xp.length : Int) then
   some (w_i64 (0 + (w_i64 (Xp.getD (w_u8 a).toNat 0))),((),()))
   else none
/-! 87 sparse/integer.length -/
def g87 (m : Nat) (a : List Int) : Option (Int × Unit × Unit) :=
 bif (a.length : Int) == 0 then
  some (0,((),()))
 else
  if (0 : Int) ≤ (w_i64 ((a.length : Int) - 1)) ∧ (w_i64 ((a.length : Int) - 1)) < (a.length : Int) then
  (g94 m (a.getD (w_i64 ((a.length : Int) - 1)).toNat 0)).bind fun y1 =>
  some (w_i64 ((w_i64 ((w_i64 ((a.length : Int) - 1)) * 32)) + y1.1),((),()))
  else none
/-! 75 sparse/integer.BitLen -/
def g75 (m : Nat) (a : Bool) (b : List Int) : Option (Int × Unit × Unit) :=
 (g51 m b).bind fun y1 =>
 (g87 m y1.1).bind fun y2 =>
 some (y2.1,((),()))
/-! 77 sparse/integer.up -/
def g77_L0 (m : Nat) : Nat → Int → Int → List Int → List Int → Int → Int → Option ((List Int × Unit) ⊕ Empty)
 | 0,_,_,_,_,_,_ => none
 | n + 1,a,b,c,d,f,h =>
  bif decide (h < f) then
   if (0 : Int) ≤ h ∧ h < (d.length : Int) then
   if (0 : Int) ≤ b then
   if (0 : Int) ≤ (w_i64 (a + h)) ∧ (w_i64 (a + h)) < (c.length : Int) then
   if (0 : Int) ≤ (w_i64 (a + h)) ∧ (w_i64 (a + h)) < (c.length : Int) then
   if (0 : Int) ≤ (w_i64 ((w_i64 (a + h)) + 1)) ∧ (w_i64 ((w_i64 (a + h)) + 1)) < ((c.set (0 + (w_i64 (a + h)).toNat) (b_or_ .u32 (c.getD (0 + (w_i64 (a + h)).toNat) 0) (w_u32 (qw .u64 (shl_ .u64 (w_u64 (d.getD h.toNat 0)) b) 4294967295)))).length : Int) then
   g77_L0 m n a b ((c.set (0 + (w_i64 (a + h)).toNat) (b_or_ .u32 (c.getD (0 + (w_i64 (a + h)).toNat) 0) (w_u32 (qw .u64 (shl_ .u64 (w_u64 (d.getD h.toNat 0)) b) 4294967295)))).set (0 + (w_i64 ((w_i64 (a + h)) + 1)).toNat) (w_u32 (shr_ .u64 (shl_ .u64 (w_u64 (d.getD h.toNat 0)) b) 32))) d f (w_i64 (h + 1))
   else none
   else none
   else none
   else none
   else none
  else
   some (.inl (c,()))
def g77 (m : Nat) (a : List Int) (b : Int) : Option (List Int × Unit × Unit × Unit) :=
 bif (a.length : Int) == 0 then
  some (([] : List Int),((),(),()))
 else
  if (0 : Int) ≤ (w_i64 ((w_i64 ((w_i64 (Int.tdiv b 32)) + (a.length : Int))) + 1)) ∧ (w_i64 ((w_i64 ((w_i64 (Int.tdiv b 32)) + (a.length : Int))) + 1)) ≤ (w_i64 ((w_i64 ((w_i64 (Int.tdiv b 32)) + (a.length : Int))) + 1)) ∧ (w_i64 ((w_i64 ((w_i64 (Int.tdiv b 32)) + (a.length : Int))) + 1)) ≤ 1073741824 then
  (g77_L0 m m (w_i64 (Int.tdiv b 32)) (w_u64 (Int.tmod b 32)) (List.replicate (w_i64 ((w_i64 ((w_i64 (Int.tdiv b 32)) + (a.length : Int))) + 1)).toNat (0 : Int)) a (a.length : Int) 0).bind fun y1 =>
  match y1 with
  | .inl z2 =>
   (g51 m z2.1).bind fun y3 =>
   some (y3.1,((),(),()))
  | .inr e =>
   e.elim
  else none
/-! 89 sparse/integer.down_1 -/
def g89 (m : Nat) (a : Int) : Option (Bool × Unit × Unit) :=
 some (a != 0,((),()))
/-! 95 slices.IndexFunc___uint32_uint32_ -/
def g95_L0 (m : Nat) : Nat → List Int → Int → Int → Option ((Int × Unit) ⊕ Unit ⊕ Empty)
 | 0,_,_,_ => none
 | n + 1,a,b,c =>
  bif decide (c < b) then
   if (0 : Int) ≤ c ∧ c < (a.length : Int) then
   (g89 m (a.getD c.toNat 0)).bind fun y1 =>
   bif y1.1 then
    some (.inl (c,()))
   else
    g95_L0 m n a b (w_i64 (c + 1))
   else none
  else
   some (.inr (.inl ()))
def g95 (m : Nat) (a : List Int) : Option (Int × Unit × Unit × Unit) :=
 (g95_L0 m m a (a.length : Int) 0).bind fun y1 =>
 match y1 with
 | .inl z2 =>
  some (z2.1,((),(),()))
 | .inr (.inl z3) =>
  some ((-1),((),(),()))
 | .inr (.inr e) =>
  e.elim
/-! 88 slices.ContainsFunc___uint32_uint32_ -/
def g88 (m : Nat) (a : List Int) : Option (Bool × Unit × Unit × Unit) :=
 (g95 m a).bind fun y1 =>
 some (decide (y1.1 ≥ 0),((),(),()))
/-! 78 sparse/integer.down -/
def g78_L0 (m : Nat) : Nat → List Int → Int → Int → Bool → List Int → Int → Int → Option ((Bool × List Int × Unit) ⊕ Empty)
 | 0,_,_,_,_,_,_,_ => none
 | n + 1,a,b,c,d,f,h,i =>
  bif decide (i < h) then
   if (0 : Int) ≤ (w_i64 (b + i)) ∧ (w_i64 (b + i)) < (a.length : Int) then
   bif decide ((w_i64 ((w_i64 (b + i)) + 1)) < (a.length : Int)) then
    if (0 : Int) ≤ (w_i64 ((w_i64 (b + i)) + 1)) ∧ (w_i64 ((w_i64 (b + i)) + 1)) < (a.length : Int) then
    if (0 : Int) ≤ c then
    if (0 : Int) ≤ i ∧ i < (f.length : Int) then
    g78_L0 m n a b c d (f.set (0 + i.toNat) (w_u32 (qw .u64 (shr_ .u64 (b_or_ .u64 (w_u64 (a.getD (w_i64 (b + i)).toNat 0)) (shl_ .u64 (w_u64 (a.getD (w_i64 ((w_i64 (b + i)) + 1)).toNat 0)) 32)) c) 4294967295))) h (w_i64 (i + 1))
    else none
    else none
    else none
   else
    if (0 : Int) ≤ c then
    if (0 : Int) ≤ i ∧ i < (f.length : Int) then
    g78_L0 m n a b c d (f.set (0 + i.toNat) (w_u32 (qw .u64 (shr_ .u64 (w_u64 (a.getD (w_i64 (b + i)).toNat 0)) c) 4294967295))) h (w_i64 (i + 1))
    else none
    else none
   else none
  else
   some (.inl (d,f,()))
def g78 (m : Nat) (a : List Int) (b : Int) : Option ((List Int × Bool × Unit) × Unit × Unit × Unit) :=
 bif decide ((w_i64 (Int.tdiv b 32)) ≥ (a.length : Int)) then
  some ((([] : List Int),decide ((a.length : Int) > 0),()),((),(),()))
 else
  if (0 : Int) ≤ 0 ∧ 0 ≤ (w_i64 (Int.tdiv b 32)) ∧ (w_i64 (Int.tdiv b 32)) ≤ (a.length : Int) then
  (g88 m (a.take (w_i64 (Int.tdiv b 32)).toNat)).bind fun y1 =>
  bif y1.1 then
   if (0 : Int) ≤ (w_i64 ((a.length : Int) - (w_i64 (Int.tdiv b 32)))) ∧ (w_i64 ((a.length : Int) - (w_i64 (Int.tdiv b 32)))) ≤ (w_i64 ((a.length : Int) - (w_i64 (Int.tdiv b 32)))) ∧ (w_i64 ((a.length : Int) - (w_i64 (Int.tdiv b 32)))) ≤ 1073741824 then
   (g78_L0 m m a (w_i64 (Int.tdiv b 32)) (w_u64 (Int.tmod b 32)) true (List.replicate (w_i64 ((a.length : Int) - (w_i64 (Int.tdiv b 32)))).toNat (0 : Int)) ((List.replicate (w_i64 ((a.length : Int) - (w_i64 (Int.tdiv b 32)))).toNat (0 : Int)).length : Int) 0).bind fun y2 =>
   match y2 with
   | .inl z3 =>
    (g51 m z3.2.1).bind fun y4 =>
    some ((y4.1,z3.1,()),((),(),()))
   | .inr e =>
    e.elim
   else none
  else
   if (0 : Int) ≤ (w_i64 (Int.tdiv b 32)) ∧ (w_i64 (Int.tdiv b 32)) < (a.length : Int) then
   if (0 : Int) ≤ (w_u64 (Int.tmod b 32)) then
   if (0 : Int) ≤ (w_i64 ((a.length : Int) - (w_i64 (Int.tdiv b 32)))) ∧ (w_i64 ((a.length : Int) - (w_i64 (Int.tdiv b 32)))) ≤ (w_i64 ((a.length : Int) - (w_i64 (Int.tdiv b 32)))) ∧ (w_i64 ((a.length : Int) - (w_i64 (Int.tdiv b 32)))) ≤ 1073741824 then
   (g78_L0 m m a (w_i64 (Int.tdiv b 32)) (w_u64 (Int.tmod b 32)) ((qw .u32 (a.getD (w_i64 (Int.tdiv b 32)).toNat 0) (w_u32 ((shl_ .u32 1 (w_u64 (Int.tmod b 32))) - 1))) != 0) (List.replicate (w_i64 ((a.length : Int) - (w_i64 (Int.tdiv b 32)))).toNat (0 : Int)) ((List.replicate (w_i64 ((a.length : Int) - (w_i64 (Int.tdiv b 32)))).toNat (0 : Int)).length : Int) 0).bind fun y5 =>
   match y5 with
   | .inl z6 =>
    (g51 m z6.2.1).bind fun y7 =>
    some ((y7.1,z6.1,()),((),(),()))
   | .inr e =>
    e.elim
   else none
   else none
   else none
  else none
/-! 70 sparse/integer.plus -/
def g70_L0 (m : Nat) : Nat → List Int → List Int → Int → List Int → Int → Int → Option ((List Int × Int × Unit) ⊕ Empty)
 | 0,_,_,_,_,_,_ => none
 | n + 1,a,b,c,d,f,h =>
  bif decide (h < f) then
   if (0 : Int) ≤ h ∧ h < (d.length : Int) then
   bif decide (h < (a.length : Int)) then
    if (0 : Int) ≤ h ∧ h < (a.length : Int) then
    if b.length + ([w_u32 (qw .u64 (w_u64 ((w_u64 ((w_u64 (d.getD h.toNat 0)) + c)) + (w_u64 (a.getD h.toNat 0)))) 4294967295)] : List Int).length ≤ 1073741824 then
    g70_L0 m n a (b ++ ([w_u32 (qw .u64 (w_u64 ((w_u64 ((w_u64 (d.getD h.toNat 0)) + c)) + (w_u64 (a.getD h.toNat 0)))) 4294967295)] : List Int)) (shr_ .u64 (w_u64 ((w_u64 ((w_u64 (d.getD h.toNat 0)) + c)) + (w_u64 (a.getD h.toNat 0)))) 32) d f (w_i64 (h + 1))
    else none
    else none
   else
    if b.length + ([w_u32 (qw .u64 (w_u64 ((w_u64 (d.getD h.toNat 0)) + c)) 4294967295)] : List Int).length ≤ 1073741824 then
    g70_L0 m n a (b ++ ([w_u32 (qw .u64 (w_u64 ((w_u64 (d.getD h.toNat 0)) + c)) 4294967295)] : List Int)) (shr_ .u64 (w_u64 ((w_u64 (d.getD h.toNat 0)) + c)) 32) d f (w_i64 (h + 1))
    else none
   else none
  else
   some (.inl (b,c,()))
def g70 (m : Nat) (a : List Int) (b : List Int) : Option (List Int × Unit × Unit × Unit) :=
 bif decide ((a.length : Int) < (b.length : Int)) then
  if (0 : Int) ≤ 0 ∧ 0 ≤ (w_i64 ((b.length : Int) + 1)) ∧ (w_i64 ((b.length : Int) + 1)) ≤ 1073741824 then
  (g70_L0 m m a (List.replicate 0 (0 : Int)) 0 b (b.length : Int) 0).bind fun y1 =>
  match y1 with
  | .inl z2 =>
   if z2.1.length + ([w_u32 z2.2.1] : List Int).length ≤ 1073741824 then
   (g51 m (z2.1 ++ ([w_u32 z2.2.1] : List Int))).bind fun y3 =>
   some (y3.1,((),(),()))
   else none
  | .inr e =>
   e.elim
  else none
 else
  if (0 : Int) ≤ 0 ∧ 0 ≤ (w_i64 ((a.length : Int) + 1)) ∧ (w_i64 ((a.length : Int) + 1)) ≤ 1073741824 then
  (g70_L0 m m b (List.replicate 0 (0 : Int)) 0 a (a.length : Int) 0).bind fun y4 =>
  match y4 with
  | .inl z5 =>
   if z5.1.length + ([w_u32 z5.2.1] : List Int).length ≤ 1073741824 then
   (g51 m (z5.1 ++ ([w_u32 z5.2.1] : List Int))).bind fun y6 =>
   some (y6.1,((),(),()))
   else none
  | .inr e =>
   e.elim
  else none
/-! 58 sparse/integer.Shift -/
def g58 (m : Nat) (a : Bool) (b : List Int) (c : Int) : Option (((Bool × List Int × Unit) × Int × Unit) × Unit × Unit × Unit) :=
 bif decide (c < (-1048576)) then
  some (((false,([] : List Int),()),3,()),((),(),()))
 else
  bif decide (c > 1048576) then
   some (((false,([] : List Int),()),3,()),((),(),()))
  else
   (g51 m b).bind fun y1 =>
   bif decide (c ≥ 0) then
    (g77 m y1.1 c).bind fun y2 =>
    (g61 m a y2.1).bind fun y3 =>
    some (((y3.1.1,y3.1.2.1,()),0,()),((),(),()))
   else
    (g78 m y1.1 (w_i64 (0 - c))).bind fun y4 =>
    bif a then
     bif y4.1.2.1 then
      (g70 m y4.1.1 ([1] : List Int)).bind fun y5 =>
      (g61 m a y5.1).bind fun y6 =>
      some (((y6.1.1,y6.1.2.1,()),0,()),((),(),()))
     else
      (g61 m a y4.1.1).bind fun y7 =>
      some (((y7.1.1,y7.1.2.1,()),0,()),((),(),()))
    else
     (g61 m a y4.1.1).bind fun y8 =>
     some (((y8.1.1,y8.1.2.1,()),0,()),((),(),()))
/-! 76 sparse/dyad.right -/
def g76_L0 (m : Nat) : Nat → Int → Bool → List Int → Bool → List Int → Option ((Int × (Bool × List Int × Unit) × (Bool × List Int × Unit) × Unit) ⊕ Empty)
 | 0,_,_,_,_,_ => none
 | n + 1,a,b,c,d,f =>
  bif decide (a > 1048576) then
   (g58 m b c (-1048576)).bind fun y1 =>
   g76_L0 m n (w_i64 (a - 1048576)) y1.1.1.1 y1.1.1.2.1 d f
  else
   some (.inl (a,(b,c,()),(d,f,()),()))
def g76 (m : Nat) (a : Bool) (b : List Int) (c : Int) : Option ((Bool × List Int × Unit) × Unit × Unit × Unit) :=
 (g76_L0 m m c a b false ([] : List Int)).bind fun y1 =>
 match y1 with
 | .inl z2 =>
  (g58 m z2.2.1.1 z2.2.1.2.1 (w_i64 (0 - z2.1))).bind fun y3 =>
  some ((y3.1.1.1,y3.1.1.2.1,()),((),(),()))
 | .inr e =>
  e.elim
/-! 57 sparse/dyad.norm -/
def g57 (m : Nat) (a : Bool) (b : Bool) (c : List Int) (d : Int) : Option (((Bool × Bool × List Int × Int × Unit) × Bool × Unit) × Unit × Unit) :=
 bif a then
  (g59 m).bind fun y1 =>
  some (((y1.1.1,y1.1.2.1,y1.1.2.2.1,y1.1.2.2.2.1,()),false,()),((),()))
 else
  (g45 m b c).bind fun y2 =>
  (g40 m y2.1.1 y2.1.2.1).bind fun y3 =>
  bif y3.1 == 0 then
   some (((false,false,([] : List Int),0,()),true,()),((),()))
  else
   (g74 m y2.1.1 y2.1.2.1).bind fun y4 =>
   (g75 m y2.1.1 y2.1.2.1).bind fun y5 =>
   bif decide (d > (w_i64 (65536 - y5.1))) then
    (g59 m).bind fun y6 =>
    some (((y6.1.1,y6.1.2.1,y6.1.2.2.1,y6.1.2.2.2.1,()),false,()),((),()))
   else
    bif decide (d < (w_i64 ((-65536) - y4.1))) then
     (g59 m).bind fun y7 =>
     some (((y7.1.1,y7.1.2.1,y7.1.2.2.1,y7.1.2.2.2.1,()),false,()),((),()))
    else
     (g76 m y2.1.1 y2.1.2.1 y4.1).bind fun y8 =>
     some (((false,y8.1.1,y8.1.2.1,w_i64 (d + y4.1),()),true,()),((),()))
/-! 60 sparse/dyad.Make -/
def g60 (m : Nat) (a : Bool) (b : List Int) (c : Int) : Option ((Bool × Bool × List Int × Int × Unit) × Unit × Unit × Unit) :=
 (g57 m false a b c).bind fun y1 =>
 some ((y1.1.1.1,y1.1.1.2.1,y1.1.1.2.2.1,y1.1.1.2.2.2.1,()),((),(),()))
/-! 47 sparse/float.Of -/
def g47 (m : Nat) (a : Int) : Option ((Bool × Bool × List Int × Int × Unit) × Unit × Unit) :=
 (g24 m a).bind fun y1 =>
 bif y1.1.1 == 2047 then
  some ((true,false,([] : List Int),0,()),((),()))
 else
  bif y1.1.1 == 0 then
   (g52 m (w_i64 y1.1.2.1)).bind fun y2 =>
   (g65 m a).bind fun y3 =>
   bif y3.1 then
    (g56 m y2.1.1 y2.1.2.1).bind fun y4 =>
    (g60 m y4.1.1 y4.1.2.1 (-1074)).bind fun y5 =>
    some ((y5.1.1,y5.1.2.1,y5.1.2.2.1,y5.1.2.2.2.1,()),((),()))
   else
    (g60 m y2.1.1 y2.1.2.1 (-1074)).bind fun y6 =>
    some ((y6.1.1,y6.1.2.1,y6.1.2.2.1,y6.1.2.2.2.1,()),((),()))
  else
   (g52 m (w_i64 (b_or_ .u64 y1.1.2.1 4503599627370496))).bind fun y7 =>
   (g65 m a).bind fun y8 =>
   bif y8.1 then
    (g56 m y7.1.1 y7.1.2.1).bind fun y9 =>
    (g60 m y9.1.1 y9.1.2.1 (w_i64 (y1.1.1 - 1075))).bind fun y10 =>
    some ((y10.1.1,y10.1.2.1,y10.1.2.2.1,y10.1.2.2.2.1,()),((),()))
   else
    (g60 m y7.1.1 y7.1.2.1 (w_i64 (y1.1.1 - 1075))).bind fun y11 =>
    some ((y11.1.1,y11.1.2.1,y11.1.2.2.1,y11.1.2.2.2.1,()),((),()))
/-! 64 sparse/dyad.Neg -/
def g64 (m : Nat) (a : Bool) (b : Bool) (c : List Int) (d : Int) : Option ((Bool × Bool × List Int × Int × Unit) × Unit × Unit) :=
 (g57 m a b c d).bind fun y1 =>
 bif y1.1.2.1 then
  (g56 m y1.1.1.2.1 y1.1.1.2.2.1).bind fun y2 =>
  some ((y1.1.1.1,y2.1.1,y2.1.2.1,y1.1.1.2.2.2.1,()),((),()))
 else
  some ((y1.1.1.1,y1.1.1.2.1,y1.1.1.2.2.1,y1.1.1.2.2.2.1,()),((),()))
/-! 79 sparse/dyad.two -/
def g79 (m : Nat) (a : Bool) (b : Bool) (c : List Int) (d : Int) (f : Bool) (h : Bool) (i : List Int) (j : Int) : Option (((Bool × Bool × List Int × Int × Unit) × (Bool × Bool × List Int × Int × Unit) × Bool × Unit) × Unit × Unit × Unit) :=
 (g57 m a b c d).bind fun y1 =>
 (g57 m f h i j).bind fun y2 =>
 bif y1.1.2.1 then
  some (((y1.1.1.1,y1.1.1.2.1,y1.1.1.2.2.1,y1.1.1.2.2.2.1,()),(y2.1.1.1,y2.1.1.2.1,y2.1.1.2.2.1,y2.1.1.2.2.2.1,()),y2.1.2.1,()),((),(),()))
 else
  some (((y1.1.1.1,y1.1.1.2.1,y1.1.1.2.2.1,y1.1.1.2.2.2.1,()),(y2.1.1.1,y2.1.1.2.1,y2.1.1.2.2.1,y2.1.1.2.2.2.1,()),false,()),((),(),()))
/-! 90 sparse/dyad.left -/
def g90 (m : Nat) (a : Bool) (b : List Int) (c : Int) : Option ((Bool × List Int × Unit) × Unit × Unit × Unit) :=
 (g58 m a b c).bind fun y1 =>
 some ((y1.1.1.1,y1.1.1.2.1,()),((),(),()))
/-! 80 sparse/dyad.aligned -/
def g80 (m : Nat) (a : Bool) (b : Bool) (c : List Int) (d : Int) (f : Bool) (h : Bool) (i : List Int) (j : Int) : Option (((Bool × List Int × Unit) × (Bool × List Int × Unit) × Int × Unit) × Unit × Unit × Unit) :=
 (g90 m b c (w_i64 (d - (if j < d then j else d)))).bind fun y1 =>
 (g90 m h i (w_i64 (j - (if j < d then j else d)))).bind fun y2 =>
 some (((y1.1.1,y1.1.2.1,()),(y2.1.1,y2.1.2.1,()),if j < d then j else d,()),((),(),()))
/-! 82 cmp.isNaN_int_ -/
def g82 (m : Nat) (a : Int) : Option (Bool × Unit × Unit) :=
 some (a != a,((),()))
/-! 68 cmp.Compare_int_ -/
def g68 (m : Nat) (a : Int) (b : Int) : Option (Int × Unit × Unit × Unit) :=
 (g82 m a).bind fun y1 =>
 (g82 m b).bind fun y2 =>
 bif y1.1 then
  bif y2.1 then
   some (0,((),(),()))
  else
   some ((-1),((),(),()))
 else
  bif y2.1 then
   some (1,((),(),()))
  else
   bif decide (a < b) then
    some ((-1),((),(),()))
   else
    bif decide (a > b) then
     some (1,((),(),()))
    else
     some (0,((),(),()))
/-! 83 cmp.isNaN_uint32_ -/
def g83 (m : Nat) (a : Int) : Option (Bool × Unit × Unit) :=
 some (a != a,((),()))
/-! 69 cmp.Compare_uint32_ -/
def g69 (m : Nat) (a : Int) (b : Int) : Option (Int × Unit × Unit × Unit) :=
 (g83 m a).bind fun y1 =>
 (g83 m b).bind fun y2 =>
 bif y1.1 then
  bif y2.1 then
   some (0,((),(),()))
  else
   some ((-1),((),(),()))
 else
  bif y2.1 then
   some (1,((),(),()))
  else
   bif decide (a < b) then
    some ((-1),((),(),()))
   else
    bif decide (a > b) then
     some (1,((),(),()))
    else
     some (0,((),(),()))
/-! 50 sparse/integer.compare -/
def g50_L0 (m : Nat) : Nat → List Int → List Int → Int → Option ((Int × Unit) ⊕ Unit ⊕ Empty)
 | 0,_,_,_ => none
 | n + 1,a,b,c =>
  bif decide (c ≥ 0) then
   if (0 : Int) ≤ c ∧ c < (a.length : Int) then
   if (0 : Int) ≤ c ∧ c < (b.length : Int) then
   bif (a.getD c.toNat 0) != (b.getD c.toNat 0) then
    if (0 : Int) ≤ c ∧ c < (a.length : Int) then
    if (0 : Int) ≤ c ∧ c < (b.length : Int) then
    (g69 m (a.getD c.toNat 0) (b.getD c.toNat 0)).bind fun y1 =>
    some (.inl (y1.1,()))
    else none
    else none
   else
    g50_L0 m n a b (w_i64 (c - 1))
   else none
   else none
  else
   some (.inr (.inl ()))
def g50 (m : Nat) (a : List Int) (b : List Int) : Option (Int × Unit × Unit × Unit) :=
 bif (a.length : Int) != (b.length : Int) then
  (g68 m (a.length : Int) (b.length : Int)).bind fun y1 =>
  some (y1.1,((),(),()))
 else
  (g50_L0 m m a b (w_i64 ((a.length : Int) - 1))).bind fun y2 =>
  match y2 with
  | .inl z3 =>
   some (z3.1,((),(),()))
  | .inr (.inl z4) =>
   some (0,((),(),()))
  | .inr (.inr e) =>
   e.elim
/-! 71 sparse/integer.minus -/
def g71_L0 (m : Nat) : Nat → List Int → List Int → Int → List Int → Int → Int → Option ((List Int × Unit) ⊕ Empty)
 | 0,_,_,_,_,_,_ => none
 | n + 1,a,b,c,d,f,h =>
  bif decide (h < f) then
   if (0 : Int) ≤ h ∧ h < (d.length : Int) then
   bif decide (h < (a.length : Int)) then
    if (0 : Int) ≤ h ∧ h < (a.length : Int) then
    if (0 : Int) ≤ h ∧ h < (b.length : Int) then
    g71_L0 m n a (b.set (0 + h.toNat) (w_u32 (qw .u64 (w_u64 ((w_u64 ((w_u64 (d.getD h.toNat 0)) - c)) - (w_u64 (a.getD h.toNat 0)))) 4294967295))) (qw .u64 (shr_ .u64 (w_u64 ((w_u64 ((w_u64 (d.getD h.toNat 0)) - c)) - (w_u64 (a.getD h.toNat 0)))) 32) 1) d f (w_i64 (h + 1))
    else none
    else none
   else
    if (0 : Int) ≤ h ∧ h < (b.length : Int) then
    g71_L0 m n a (b.set (0 + h.toNat) (w_u32 (qw .u64 (w_u64 ((w_u64 (d.getD h.toNat 0)) - c)) 4294967295))) (qw .u64 (shr_ .u64 (w_u64 ((w_u64 (d.getD h.toNat 0)) - c)) 32) 1) d f (w_i64 (h + 1))
    else none
   else none
  else
   some (.inl (b,()))
def g71 (m : Nat) (a : List Int) (b : List Int) : Option (List Int × Unit × Unit × Unit) :=
 if (0 : Int) ≤ (a.length : Int) ∧ (a.length : Int) ≤ (a.length : Int) ∧ (a.length : Int) ≤ 1073741824 then
 (g71_L0 m m b (List.replicate (a.length : Int).toNat (0 : Int)) 0 a (a.length : Int) 0).bind fun y1 =>
 match y1 with
 | .inl z2 =>
  (g51 m z2.1).bind fun y3 =>
  some (y3.1,((),(),()))
 | .inr e =>
  e.elim
 else none
/-! 53 sparse/integer.Add -/
def g53 (m : Nat) (a : Bool) (b : List Int) (c : Bool) (d : List Int) : Option ((Bool × List Int × Unit) × Unit × Unit × Unit) :=
 (g51 m b).bind fun y1 =>
 (g51 m d).bind fun y2 =>
 bif a == c then
  (g70 m y1.1 y2.1).bind fun y3 =>
  (g61 m a y3.1).bind fun y4 =>
  some ((y4.1.1,y4.1.2.1,()),((),(),()))
 else
  (g50 m y1.1 y2.1).bind fun y5 =>
  bif decide (y5.1 ≥ 0) then
   (g71 m y1.1 y2.1).bind fun y6 =>
   (g61 m a y6.1).bind fun y7 =>
   some ((y7.1.1,y7.1.2.1,()),((),(),()))
  else
   (g71 m y2.1 y1.1).bind fun y8 =>
   (g61 m c y8.1).bind fun y9 =>
   some ((y9.1.1,y9.1.2.1,()),((),(),()))
/-! 63 sparse/dyad.Add -/
def g63 (m : Nat) (a : Bool) (b : Bool) (c : List Int) (d : Int) (f : Bool) (h : Bool) (i : List Int) (j : Int) : Option ((Bool × Bool × List Int × Int × Unit) × Unit × Unit × Unit) :=
 (g79 m a b c d f h i j).bind fun y1 =>
 bif !y1.1.2.2.1 then
  (g59 m).bind fun y2 =>
  some ((y2.1.1,y2.1.2.1,y2.1.2.2.1,y2.1.2.2.2.1,()),((),(),()))
 else
  (g80 m y1.1.1.1 y1.1.1.2.1 y1.1.1.2.2.1 y1.1.1.2.2.2.1 y1.1.2.1.1 y1.1.2.1.2.1 y1.1.2.1.2.2.1 y1.1.2.1.2.2.2.1).bind fun y3 =>
  (g53 m y3.1.1.1 y3.1.1.2.1 y3.1.2.1.1 y3.1.2.1.2.1).bind fun y4 =>
  (g60 m y4.1.1 y4.1.2.1 y3.1.2.2.1).bind fun y5 =>
  some ((y5.1.1,y5.1.2.1,y5.1.2.2.1,y5.1.2.2.2.1,()),((),(),()))
/-! 46 sparse/dyad.Sub -/
def g46 (m : Nat) (a : Bool) (b : Bool) (c : List Int) (d : Int) (f : Bool) (h : Bool) (i : List Int) (j : Int) : Option ((Bool × Bool × List Int × Int × Unit) × Unit × Unit × Unit) :=
 (g64 m f h i j).bind fun y1 =>
 (g63 m a b c d y1.1.1 y1.1.2.1 y1.1.2.2.1 y1.1.2.2.2.1).bind fun y2 =>
 some ((y2.1.1,y2.1.2.1,y2.1.2.2.1,y2.1.2.2.2.1,()),((),(),()))
/-! 34 sparse/tridiag.shifted -/
def g34_L1 (m : Nat) : Nat → (List (List (Bool × (Bool × List Int) × Int))) → List Int → Int → Int → Option (((List (List (Bool × (Bool × List Int) × Int))) × Unit) ⊕ Empty)
 | 0,_,_,_,_ => none
 | n + 1,a,b,c,d =>
  bif decide (d < c) then
   if (0 : Int) ≤ d ∧ d < (b.length : Int) then
   if (0 : Int) ≤ d ∧ d < (a.length : Int) then
   if (0 : Int) ≤ (w_i64 (d + 1)) ∧ (w_i64 (d + 1)) < (a.length : Int) then
   (g47 m (b.getD d.toNat 0)).bind fun y1 =>
   (g47 m (b.getD d.toNat 0)).bind fun y2 =>
   if (0 : Int) ≤ (w_i64 (d + 1)) ∧ (w_i64 (d + 1)) < ((a.getD d.toNat ([] : List (Bool × (Bool × List Int) × Int))).length : Int) then
   if (0 : Int) ≤ d ∧ d < (((a.set d.toNat ((a.getD d.toNat ([] : List (Bool × (Bool × List Int) × Int))).set (w_i64 (d + 1)).toNat (y1.1.1,((y1.1.2.1,y1.1.2.2.1),y1.1.2.2.2.1)))).getD (w_i64 (d + 1)).toNat ([] : List (Bool × (Bool × List Int) × Int))).length : Int) then
   g34_L1 m n ((a.set d.toNat ((a.getD d.toNat ([] : List (Bool × (Bool × List Int) × Int))).set (w_i64 (d + 1)).toNat (y1.1.1,((y1.1.2.1,y1.1.2.2.1),y1.1.2.2.2.1)))).set (w_i64 (d + 1)).toNat (((a.set d.toNat ((a.getD d.toNat ([] : List (Bool × (Bool × List Int) × Int))).set (w_i64 (d + 1)).toNat (y1.1.1,((y1.1.2.1,y1.1.2.2.1),y1.1.2.2.2.1)))).getD (w_i64 (d + 1)).toNat ([] : List (Bool × (Bool × List Int) × Int))).set d.toNat (y2.1.1,((y2.1.2.1,y2.1.2.2.1),y2.1.2.2.2.1)))) b c (w_i64 (d + 1))
   else none
   else none
   else none
   else none
   else none
  else
   some (.inl (a,()))
def g34_L0 (m : Nat) : Nat → List Int → List Int → Int → (List (List (Bool × (Bool × List Int) × Int))) → Int → Int → Option ((List Int × (List (List (Bool × (Bool × List Int) × Int))) × Unit) ⊕ Empty)
 | 0,_,_,_,_,_,_ => none
 | n + 1,a,b,c,d,f,h =>
  bif decide (h < f) then
   if (0 : Int) ≤ (a.length : Int) ∧ (a.length : Int) ≤ (a.length : Int) ∧ (a.length : Int) ≤ 1073741824 then
   if (0 : Int) ≤ h ∧ h < (d.length : Int) then
   if (0 : Int) ≤ h ∧ h < ((d.set h.toNat (List.replicate (a.length : Int).toNat (false,((false,([] : List Int)),0)))).length : Int) then
   if (0 : Int) ≤ h ∧ h < (a.length : Int) then
   (g47 m (a.getD h.toNat 0)).bind fun y1 =>
   (g47 m c).bind fun y2 =>
   (g46 m y1.1.1 y1.1.2.1 y1.1.2.2.1 y1.1.2.2.2.1 y2.1.1 y2.1.2.1 y2.1.2.2.1 y2.1.2.2.2.1).bind fun y3 =>
   if (0 : Int) ≤ h ∧ h < (((d.set h.toNat (List.replicate (a.length : Int).toNat (false,((false,([] : List Int)),0)))).getD h.toNat ([] : List (Bool × (Bool × List Int) × Int))).length : Int) then
   g34_L0 m n a b c ((d.set h.toNat (List.replicate (a.length : Int).toNat (false,((false,([] : List Int)),0)))).set h.toNat (((d.set h.toNat (List.replicate (a.length : Int).toNat (false,((false,([] : List Int)),0)))).getD h.toNat ([] : List (Bool × (Bool × List Int) × Int))).set h.toNat (y3.1.1,((y3.1.2.1,y3.1.2.2.1),y3.1.2.2.2.1)))) f (w_i64 (h + 1))
   else none
   else none
   else none
   else none
   else none
  else
   some (.inl (b,d,()))
def g34 (m : Nat) (a : List Int) (b : List Int) (c : Int) : Option ((List (List (Bool × (Bool × List Int) × Int))) × Unit × Unit × Unit × Unit) :=
 if (0 : Int) ≤ (a.length : Int) ∧ (a.length : Int) ≤ (a.length : Int) ∧ (a.length : Int) ≤ 1073741824 then
 (g34_L0 m m a b c (List.replicate (a.length : Int).toNat ([] : List (Bool × (Bool × List Int) × Int))) ((List.replicate (a.length : Int).toNat ([] : List (Bool × (Bool × List Int) × Int))).length : Int) 0).bind fun y1 =>
 match y1 with
 | .inl z2 =>
  (g34_L1 m m z2.2.1 z2.1 (z2.1.length : Int) 0).bind fun y3 =>
  match y3 with
  | .inl z4 =>
   some (z4.1,((),(),(),()))
  | .inr e =>
   e.elim
 | .inr e =>
  e.elim
 else none
/-! 41 sparse/dyad.Norm -/
def g41 (m : Nat) (a : Bool) (b : Bool) (c : List Int) (d : Int) : Option ((Bool × Bool × List Int × Int × Unit) × Unit × Unit) :=
 (g57 m a b c d).bind fun y1 =>
 some ((y1.1.1.1,y1.1.1.2.1,y1.1.1.2.2.1,y1.1.1.2.2.2.1,()),((),()))
/-! 42 sparse/dyad.Sign -/
def g42 (m : Nat) (a : Bool) (b : Bool) (c : List Int) (d : Int) : Option (Int × Unit × Unit) :=
 (g57 m a b c d).bind fun y1 =>
 (g40 m y1.1.1.2.1 y1.1.1.2.2.1).bind fun y2 =>
 some (y2.1,((),()))
/-! 44 sparse/dyad.Scale -/
def g44 (m : Nat) (a : Bool) (b : Bool) (c : List Int) (d : Int) (f : Int) : Option ((Bool × Bool × List Int × Int × Unit) × Unit × Unit × Unit) :=
 (g57 m a b c d).bind fun y1 =>
 bif !y1.1.2.1 then
  (g59 m).bind fun y2 =>
  some ((y2.1.1,y2.1.2.1,y2.1.2.2.1,y2.1.2.2.2.1,()),((),(),()))
 else
  (g60 m y1.1.1.2.1 y1.1.1.2.2.1 (w_i64 (y1.1.1.2.2.2.1 + (if (-262144) > (if 262144 < f then 262144 else f) then (-262144) else (if 262144 < f then 262144 else f))))).bind fun y3 =>
  some ((y3.1.1,y3.1.2.1,y3.1.2.2.1,y3.1.2.2.2.1,()),((),(),()))
/-! 43 sparse/dyad.Floor -/
def g43 (m : Nat) (a : Bool) (b : Bool) (c : List Int) (d : Int) : Option (((Bool × List Int × Unit) × Bool × Unit) × Unit × Unit) :=
 (g57 m a b c d).bind fun y1 =>
 bif !y1.1.2.1 then
  some (((false,([] : List Int),()),false,()),((),()))
 else
  (g58 m y1.1.1.2.1 y1.1.1.2.2.1 y1.1.1.2.2.2.1).bind fun y2 =>
  some (((y2.1.1.1,y2.1.1.2.1,()),true,()),((),()))
/-! 33 sparse/integral.Rows -/
def g33_L3 (m : Nat) : Nat → Int → (List (List (Bool × List Int))) → Int → (List (List (Bool × (Bool × List Int) × Int))) → Int → Int → (List (Bool × (Bool × List Int) × Int)) → Int → Int → Option ((Int × (List (List (Bool × List Int))) × (List (List (Bool × (Bool × List Int) × Int))) × Int × Int × Unit) ⊕ Empty)
 | 0,_,_,_,_,_,_,_,_,_ => none
 | n + 1,a,b,c,d,f,h,i,j,k =>
  bif decide (k < j) then
   if (0 : Int) ≤ k ∧ k < (i.length : Int) then
   (g44 m (i.getD k.toNat (false,((false,([] : List Int)),0))).1 (i.getD k.toNat (false,((false,([] : List Int)),0))).2.1.1 (i.getD k.toNat (false,((false,([] : List Int)),0))).2.1.2 (i.getD k.toNat (false,((false,([] : List Int)),0))).2.2 (w_i64 (0 - a))).bind fun y1 =>
   (g43 m y1.1.1 y1.1.2.1 y1.1.2.2.1 y1.1.2.2.2.1).bind fun y2 =>
   if (0 : Int) ≤ c ∧ c < (b.length : Int) then
   (g45 m y2.1.1.1 y2.1.1.2.1).bind fun y3 =>
   if (b.getD c.toNat ([] : List (Bool × List Int))).length + ([(y3.1.1,y3.1.2.1)] : List (Bool × List Int)).length ≤ 1073741824 then
   if (0 : Int) ≤ c ∧ c < (b.length : Int) then
   if c.toNat = c.toNat then
   g33_L3 m n a (b.set c.toNat ((b.getD c.toNat ([] : List (Bool × List Int))) ++ ([(y3.1.1,y3.1.2.1)] : List (Bool × List Int)))) c d f h i j (w_i64 (k + 1))
   else none
   else none
   else none
   else none
   else none
  else
   some (.inl (a,b,d,f,h,()))
def g33_L2 (m : Nat) : Nat → Int → (List (List (Bool × List Int))) → (List (List (Bool × (Bool × List Int) × Int))) → Int → Int → Option (((List (List (Bool × List Int))) × Unit) ⊕ Empty)
 | 0,_,_,_,_,_ => none
 | n + 1,a,b,c,d,f =>
  bif decide (f < d) then
   if (0 : Int) ≤ f ∧ f < (c.length : Int) then
   (g33_L3 m m a b f c d f (c.getD f.toNat ([] : List (Bool × (Bool × List Int) × Int))) ((c.getD f.toNat ([] : List (Bool × (Bool × List Int) × Int))).length : Int) 0).bind fun y1 =>
   match y1 with
   | .inl z2 =>
    g33_L2 m n z2.1 z2.2.1 z2.2.2.1 z2.2.2.2.1 (w_i64 (z2.2.2.2.2.1 + 1))
   | .inr e =>
    e.elim
   else none
  else
   some (.inl (b,()))
def g33_L1 (m : Nat) : Nat → (List (List (Bool × (Bool × List Int) × Int))) → Int → (List (List (Bool × (Bool × List Int) × Int))) → Int → Int → (List (Bool × (Bool × List Int) × Int)) → Int → Int → Option (((List (List (Bool × (Bool × List Int) × Int))) × Int × (List (List (Bool × (Bool × List Int) × Int))) × Int × Int × Unit) ⊕ Empty)
 | 0,_,_,_,_,_,_,_,_ => none
 | n + 1,a,b,c,d,f,h,i,j =>
  bif decide (j < i) then
   if (0 : Int) ≤ j ∧ j < (h.length : Int) then
   (g41 m (h.getD j.toNat (false,((false,([] : List Int)),0))).1 (h.getD j.toNat (false,((false,([] : List Int)),0))).2.1.1 (h.getD j.toNat (false,((false,([] : List Int)),0))).2.1.2 (h.getD j.toNat (false,((false,([] : List Int)),0))).2.2).bind fun y1 =>
   (g42 m y1.1.1 y1.1.2.1 y1.1.2.2.1 y1.1.2.2.2.1).bind fun y2 =>
   bif y2.1 != 0 then
    g33_L1 m n a (if y1.1.2.2.2.1 < b then y1.1.2.2.2.1 else b) c d f h i (w_i64 (j + 1))
   else
    g33_L1 m n a b c d f h i (w_i64 (j + 1))
   else none
  else
   some (.inl (a,b,c,d,f,()))
def g33_L0 (m : Nat) : Nat → (List (List (Bool × (Bool × List Int) × Int))) → Int → (List (List (Bool × (Bool × List Int) × Int))) → Int → Int → Option (((List (List (Bool × (Bool × List Int) × Int))) × Int × Unit) ⊕ Empty)
 | 0,_,_,_,_,_ => none
 | n + 1,a,b,c,d,f =>
  bif decide (f < d) then
   if (0 : Int) ≤ f ∧ f < (c.length : Int) then
   (g33_L1 m m a b c d f (c.getD f.toNat ([] : List (Bool × (Bool × List Int) × Int))) ((c.getD f.toNat ([] : List (Bool × (Bool × List Int) × Int))).length : Int) 0).bind fun y1 =>
   match y1 with
   | .inl z2 =>
    g33_L0 m n z2.1 z2.2.1 z2.2.2.1 z2.2.2.2.1 (w_i64 (z2.2.2.2.2.1 + 1))
   | .inr e =>
    e.elim
   else none
  else
   some (.inl (a,b,()))
def g33 (m : Nat) (a : List (List (Bool × (Bool × List Int) × Int))) : Option ((List (List (Bool × List Int))) × Unit × Unit) :=
 (g33_L0 m m a 0 a (a.length : Int) 0).bind fun y1 =>
 match y1 with
 | .inl z2 =>
  if (0 : Int) ≤ (z2.1.length : Int) ∧ (z2.1.length : Int) ≤ (z2.1.length : Int) ∧ (z2.1.length : Int) ≤ 1073741824 then
  (g33_L2 m m z2.2.1 (List.replicate (z2.1.length : Int).toNat ([] : List (Bool × List Int))) z2.1 (z2.1.length : Int) 0).bind fun y3 =>
  match y3 with
  | .inl z4 =>
   some (z4.1,((),()))
  | .inr e =>
   e.elim
  else none
 | .inr e =>
  e.elim
/-! 49 sparse/exact.columns -/
def g49 (m : Nat) (a : List (List (Bool × List Int))) : Option (Int × Unit × Unit) :=
 bif (a.length : Int) == 0 then
  some (0,((),()))
 else
  if (0 : Int) ≤ 0 ∧ 0 < (a.length : Int) then
  some (((a.getD 0 ([] : List (Bool × List Int))).length : Int),((),()))
  else none
/-! 67 sparse/exact.check_1 -/
def g67 (m : Nat) (a : List (Bool × List Int)) (b : List Int × Nat) : Option (Bool × Unit × Unit × Unit) :=
 some ((a.length : Int) != (b.1.getD b.2 0),((),(),()))
/-! 81 slices.IndexFunc_____sparse/api.Big___sparse/api.Big_ -/
def g81_L0 (m : Nat) : Nat → (List (List (Bool × List Int))) → (List Int × Nat) → Int → Int → Option ((Int × Unit) ⊕ Unit ⊕ Empty)
 | 0,_,_,_,_ => none
 | n + 1,a,b,c,d =>
  bif decide (d < c) then
   if (0 : Int) ≤ d ∧ d < (a.length : Int) then
   (g67 m (a.getD d.toNat ([] : List (Bool × List Int))) (b.1,b.2)).bind fun y1 =>
   bif y1.1 then
    some (.inl (d,()))
   else
    g81_L0 m n a (b.1,b.2) c (w_i64 (d + 1))
   else none
  else
   some (.inr (.inl ()))
def g81 (m : Nat) (a : List (List (Bool × List Int))) (b : List Int × Nat) : Option (Int × Unit × Unit × Unit) :=
 (g81_L0 m m a (b.1,b.2) (a.length : Int) 0).bind fun y1 =>
 match y1 with
 | .inl z2 =>
  some (z2.1,((),(),()))
 | .inr (.inl z3) =>
  some ((-1),((),(),()))
 | .inr (.inr e) =>
  e.elim
/-! 66 slices.ContainsFunc_____sparse/api.Big___sparse/api.Big_ -/
def g66 (m : Nat) (a : List (List (Bool × List Int))) (b : List Int × Nat) : Option (Bool × Unit × Unit × Unit) :=
 (g81 m a (b.1,b.2)).bind fun y1 =>
 some (decide (y1.1 ≥ 0),((),(),()))
/-! 48 sparse/exact.check -/
def g48 (m : Nat) (a : List (List (Bool × List Int))) : Option (Int × Unit × Unit) :=
 (g49 m a).bind fun y1 =>
 (g66 m a ([y1.1],0)).bind fun y2 =>
 bif y2.1 then
  some (5,((),()))
 else
  bif decide ((a.length : Int) > 16) then
   some (6,((),()))
  else
   bif decide (([y1.1].getD 0 0) > 16) then
    some (6,((),()))
   else
    some (0,((),()))
/-! 36 sparse/exact.square -/
def g36 (m : Nat) (a : List (List (Bool × List Int))) : Option (Int × Unit × Unit) :=
 (g48 m a).bind fun y1 =>
 bif y1.1 == 0 then
  (g49 m a).bind fun y2 =>
  bif (a.length : Int) != y2.1 then
   some (5,((),()))
  else
   some (y1.1,((),()))
 else
  some (y1.1,((),()))
/-! 37 sparse/integer.Cmp -/
def g37 (m : Nat) (a : Bool) (b : List Int) (c : Bool) (d : List Int) : Option (Int × Unit × Unit × Unit) :=
 (g40 m a b).bind fun y1 =>
 (g40 m c d).bind fun y2 =>
 bif decide (y1.1 < y2.1) then
  some ((-1),((),(),()))
 else
  bif decide (y1.1 > y2.1) then
   some (1,((),(),()))
  else
   (g51 m b).bind fun y3 =>
   (g51 m d).bind fun y4 =>
   (g50 m y3.1 y4.1).bind fun y5 =>
   some (w_i64 (y1.1 * y5.1),((),(),()))
/-! 39 sparse/exact.twin -/
def g39_L1 (m : Nat) : Nat → (List (Bool × List Int)) → (List (List (Bool × List Int))) → Int → (List (Bool × List Int)) → (List (List (Bool × List Int))) → Int → Int → (List (Bool × List Int)) → Int → Int → Option (((List (Bool × List Int)) × (List (List (Bool × List Int))) × Int × (List (Bool × List Int)) × (List (List (Bool × List Int))) × Int × Int × Unit) ⊕ Empty)
 | 0,_,_,_,_,_,_,_,_,_,_ => none
 | n + 1,a,b,c,d,f,h,i,j,k,l =>
  bif decide (l < k) then
   if (0 : Int) ≤ l ∧ l < (j.length : Int) then
   (g45 m (j.getD l.toNat (false,([] : List Int))).1 (j.getD l.toNat (false,([] : List Int))).2).bind fun y1 =>
   if d.length + ([(y1.1.1,y1.1.2.1)] : List (Bool × List Int)).length ≤ 1073741824 then
   g39_L1 m n a b c (d ++ ([(y1.1.1,y1.1.2.1)] : List (Bool × List Int))) f h i j k (w_i64 (l + 1))
   else none
   else none
  else
   some (.inl (a,b,c,d,f,h,i,()))
def g39_L0 (m : Nat) : Nat → (List (Bool × List Int)) → (List (List (Bool × List Int))) → (List (List (Bool × List Int))) → Int → Int → Option (((List (List (Bool × List Int))) × Unit) ⊕ Empty)
 | 0,_,_,_,_,_ => none
 | n + 1,a,b,c,d,f =>
  bif decide (f < d) then
   if (0 : Int) ≤ f ∧ f < (c.length : Int) then
   (g39_L1 m m a b f ([] : List (Bool × List Int)) c d f (c.getD f.toNat ([] : List (Bool × List Int))) ((c.getD f.toNat ([] : List (Bool × List Int))).length : Int) 0).bind fun y1 =>
   match y1 with
   | .inl z2 =>
    bif decide (z2.2.2.1 < (z2.1.length : Int)) then
     if (0 : Int) ≤ z2.2.2.1 ∧ z2.2.2.1 < (z2.1.length : Int) then
     (g45 m (z2.1.getD z2.2.2.1.toNat (false,([] : List Int))).1 (z2.1.getD z2.2.2.1.toNat (false,([] : List Int))).2).bind fun y3 =>
     if z2.2.2.2.1.length + ([(y3.1.1,y3.1.2.1)] : List (Bool × List Int)).length ≤ 1073741824 then
     if 0 < ([z2.2.2.2.1 ++ ([(y3.1.1,y3.1.2.1)] : List (Bool × List Int))] : List (List (Bool × List Int))).length ∧ z2.2.1.length + ([z2.2.2.2.1 ++ ([(y3.1.1,y3.1.2.1)] : List (Bool × List Int))] : List (List (Bool × List Int))).length ≤ 1073741824 then
     g39_L0 m n z2.1 (z2.2.1 ++ ([z2.2.2.2.1 ++ ([(y3.1.1,y3.1.2.1)] : List (Bool × List Int))] : List (List (Bool × List Int)))) z2.2.2.2.2.1 z2.2.2.2.2.2.1 (w_i64 (z2.2.2.2.2.2.2.1 + 1))
     else none
     else none
     else none
    else
     if 0 < ([z2.2.2.2.1] : List (List (Bool × List Int))).length ∧ z2.2.1.length + ([z2.2.2.2.1] : List (List (Bool × List Int))).length ≤ 1073741824 then
     g39_L0 m n z2.1 (z2.2.1 ++ ([z2.2.2.2.1] : List (List (Bool × List Int)))) z2.2.2.2.2.1 z2.2.2.2.2.2.1 (w_i64 (z2.2.2.2.2.2.2.1 + 1))
     else none
   | .inr e =>
    e.elim
   else none
  else
   some (.inl (b,()))
def g39 (m : Nat) (a : List (List (Bool × List Int))) (b : List (Bool × List Int)) : Option ((List (List (Bool × List Int))) × Unit × Unit × Unit) :=
 (g39_L0 m m b ([] : List (List (Bool × List Int))) a (a.length : Int) 0).bind fun y1 =>
 match y1 with
 | .inl z2 =>
  some (z2.1,((),(),()))
 | .inr e =>
  e.elim
/-! 84 sparse/integer.times -/
def g84_L1 (m : Nat) : Nat → List Int → List Int → Int → Int → Int → List Int → Int → Int → List Int → Int → Int → Option ((List Int × List Int × Int × Int × List Int × Int × Int × Unit) ⊕ Empty)
 | 0,_,_,_,_,_,_,_,_,_,_,_ => none
 | n + 1,a,b,c,d,f,h,i,j,k,l,o =>
  bif decide (o < l) then
   if (0 : Int) ≤ o ∧ o < (k.length : Int) then
   if (0 : Int) ≤ (w_i64 (c + o)) ∧ (w_i64 (c + o)) < (b.length : Int) then
   if (0 : Int) ≤ (w_i64 (c + o)) ∧ (w_i64 (c + o)) < (b.length : Int) then
   g84_L1 m n a (b.set (0 + (w_i64 (c + o)).toNat) (w_u32 (qw .u64 (w_u64 ((w_u64 ((w_u64 ((w_u64 d) * (w_u64 (k.getD o.toNat 0)))) + (w_u64 (b.getD (0 + (w_i64 (c + o)).toNat) 0)))) + f)) 4294967295))) c d (shr_ .u64 (w_u64 ((w_u64 ((w_u64 ((w_u64 d) * (w_u64 (k.getD o.toNat 0)))) + (w_u64 (b.getD (0 + (w_i64 (c + o)).toNat) 0)))) + f)) 32) h i j k l (w_i64 (o + 1))
   else none
   else none
   else none
  else
   some (.inl (a,b,c,f,h,i,j,()))
def g84_L0 (m : Nat) : Nat → List Int → List Int → List Int → Int → Int → Option ((List Int × Unit) ⊕ Empty)
 | 0,_,_,_,_,_ => none
 | n + 1,a,b,c,d,f =>
  bif decide (f < d) then
   if (0 : Int) ≤ f ∧ f < (c.length : Int) then
   (g84_L1 m m a b f (c.getD f.toNat 0) 0 c d f a (a.length : Int) 0).bind fun y1 =>
   match y1 with
   | .inl z2 =>
    if (0 : Int) ≤ (w_i64 (z2.2.2.1 + (z2.1.length : Int))) ∧ (w_i64 (z2.2.2.1 + (z2.1.length : Int))) < (z2.2.1.length : Int) then
    g84_L0 m n z2.1 (z2.2.1.set (0 + (w_i64 (z2.2.2.1 + (z2.1.length : Int))).toNat) (w_u32 z2.2.2.2.1)) z2.2.2.2.2.1 z2.2.2.2.2.2.1 (w_i64 (z2.2.2.2.2.2.2.1 + 1))
    else none
   | .inr e =>
    e.elim
   else none
  else
   some (.inl (b,()))
def g84 (m : Nat) (a : List Int) (b : List Int) : Option (List Int × Unit × Unit × Unit) :=
 bif (a.length : Int) == 0 then
  some (([] : List Int),((),(),()))
 else
  bif (b.length : Int) == 0 then
   some (([] : List Int),((),(),()))
  else
   if (0 : Int) ≤ (w_i64 ((a.length : Int) + (b.length : Int))) ∧ (w_i64 ((a.length : Int) + (b.length : Int))) ≤ (w_i64 ((a.length : Int) + (b.length : Int))) ∧ (w_i64 ((a.length : Int) + (b.length : Int))) ≤ 1073741824 then
   (g84_L0 m m b (List.replicate (w_i64 ((a.length : Int) + (b.length : Int))).toNat (0 : Int)) a (a.length : Int) 0).bind fun y1 =>
   match y1 with
   | .inl z2 =>
    (g51 m z2.1).bind fun y3 =>
    some (y3.1,((),(),()))
   | .inr e =>
    e.elim
   else none
/-! 72 sparse/integer.Mul -/
def g72 (m : Nat) (a : Bool) (b : List Int) (c : Bool) (d : List Int) : Option ((Bool × List Int × Unit) × Unit × Unit × Unit) :=
 (g51 m b).bind fun y1 =>
 (g51 m d).bind fun y2 =>
 (g84 m y1.1 y2.1).bind fun y3 =>
 (g61 m (!(a == c)) y3.1).bind fun y4 =>
 some ((y4.1.1,y4.1.2.1,()),((),(),()))
/-! 54 sparse/exact.product -/
def g54_L2 (m : Nat) : Nat → (List (List (Bool × List Int))) → (List (List (Bool × List Int))) → (List (Bool × List Int)) → (List (Bool × List Int)) → Int → Bool → List Int → (List (List (Bool × List Int))) → Int → Int → Int → Int → (List (Bool × List Int)) → Int → Int → Option (((List (List (Bool × List Int))) × (List (List (Bool × List Int))) × (List (Bool × List Int)) × (List (Bool × List Int)) × (Bool × List Int × Unit) × (List (List (Bool × List Int))) × Int × Int × Int × Int × Unit) ⊕ Empty)
 | 0,_,_,_,_,_,_,_,_,_,_,_,_,_,_,_ => none
 | n + 1,a,b,c,d,f,h,i,j,k,l,o,p,q,r,s =>
  bif decide (s < r) then
   if (0 : Int) ≤ s ∧ s < (q.length : Int) then
   if (0 : Int) ≤ s ∧ s < (a.length : Int) then
   if (0 : Int) ≤ f ∧ f < ((a.getD s.toNat ([] : List (Bool × List Int))).length : Int) then
   (g72 m (q.getD s.toNat (false,([] : List Int))).1 (q.getD s.toNat (false,([] : List Int))).2 ((a.getD s.toNat ([] : List (Bool × List Int))).getD f.toNat (false,([] : List Int))).1 ((a.getD s.toNat ([] : List (Bool × List Int))).getD f.toNat (false,([] : List Int))).2).bind fun y1 =>
   (g53 m h i y1.1.1 y1.1.2.1).bind fun y2 =>
   g54_L2 m n a b c d f y2.1.1 y2.1.2.1 j k l o p q r (w_i64 (s + 1))
   else none
   else none
   else none
  else
   some (.inl (a,b,c,d,(h,i,()),j,k,l,o,p,()))
def g54_L1 (m : Nat) : Nat → (List (List (Bool × List Int))) → (List (List (Bool × List Int))) → (List (Bool × List Int)) → (List (Bool × List Int)) → (List (List (Bool × List Int))) → Int → Int → Int → Int → Option (((List (List (Bool × List Int))) × (List (List (Bool × List Int))) × (List (Bool × List Int)) × (List (List (Bool × List Int))) × Int × Int × Unit) ⊕ Empty)
 | 0,_,_,_,_,_,_,_,_,_ => none
 | n + 1,a,b,c,d,f,h,i,j,k =>
  bif decide (k < j) then
   (g54_L2 m m a b c d k false ([] : List Int) f h i j k c (c.length : Int) 0).bind fun y1 =>
   match y1 with
   | .inl z2 =>
    if z2.2.2.2.1.length + ([(z2.2.2.2.2.1.1,z2.2.2.2.2.1.2.1)] : List (Bool × List Int)).length ≤ 1073741824 then
    g54_L1 m n z2.1 z2.2.1 z2.2.2.1 (z2.2.2.2.1 ++ ([(z2.2.2.2.2.1.1,z2.2.2.2.2.1.2.1)] : List (Bool × List Int))) z2.2.2.2.2.2.1 z2.2.2.2.2.2.2.1 z2.2.2.2.2.2.2.2.1 z2.2.2.2.2.2.2.2.2.1 (w_i64 (z2.2.2.2.2.2.2.2.2.2.1 + 1))
    else none
   | .inr e =>
    e.elim
  else
   some (.inl (a,b,d,f,h,i,()))
def g54_L0 (m : Nat) : Nat → (List (List (Bool × List Int))) → (List (List (Bool × List Int))) → (List (List (Bool × List Int))) → Int → Int → Option (((List (List (Bool × List Int))) × Unit) ⊕ Empty)
 | 0,_,_,_,_,_ => none
 | n + 1,a,b,c,d,f =>
  bif decide (f < d) then
   if (0 : Int) ≤ f ∧ f < (c.length : Int) then
   (g54_L1 m m a b (c.getD f.toNat ([] : List (Bool × List Int))) ([] : List (Bool × List Int)) c d f ((c.getD f.toNat ([] : List (Bool × List Int))).length : Int) 0).bind fun y1 =>
   match y1 with
   | .inl z2 =>
    if 0 < ([z2.2.2.1] : List (List (Bool × List Int))).length ∧ z2.2.1.length + ([z2.2.2.1] : List (List (Bool × List Int))).length ≤ 1073741824 then
    g54_L0 m n z2.1 (z2.2.1 ++ ([z2.2.2.1] : List (List (Bool × List Int)))) z2.2.2.2.1 z2.2.2.2.2.1 (w_i64 (z2.2.2.2.2.2.1 + 1))
    else none
   | .inr e =>
    e.elim
   else none
  else
   some (.inl (b,()))
def g54 (m : Nat) (a : List (List (Bool × List Int))) (b : List (List (Bool × List Int))) : Option ((List (List (Bool × List Int))) × Unit × Unit × Unit) :=
 (g54_L0 m m b ([] : List (List (Bool × List Int))) a (a.length : Int) 0).bind fun y1 =>
 match y1 with
 | .inl z2 =>
  some (z2.1,((),(),()))
 | .inr e =>
  e.elim
/-! 91 sparse/integer.short -/
def g91_L0 (m : Nat) : Nat → List Int → Int → List Int → Int → Int → Option ((List Int × Int × Unit) ⊕ Empty)
 | 0,_,_,_,_,_ => none
 | n + 1,a,b,c,d,f =>
  bif decide (f ≥ 0) then
   if (0 : Int) ≤ f ∧ f < (a.length : Int) then
   if (w_u64 b) ≠ 0 then
   if (0 : Int) ≤ f ∧ f < (c.length : Int) then
   if (w_u64 b) ≠ 0 then
   g91_L0 m n a b (c.set (0 + f.toNat) (w_u32 (w_u64 (Int.tdiv (b_or_ .u64 (shl_ .u64 d 32) (w_u64 (a.getD f.toNat 0))) (w_u64 b))))) (Int.tmod (b_or_ .u64 (shl_ .u64 d 32) (w_u64 (a.getD f.toNat 0))) (w_u64 b)) (w_i64 (f - 1))
   else none
   else none
   else none
   else none
  else
   some (.inl (c,d,()))
def g91 (m : Nat) (a : List Int) (b : Int) : Option ((List Int × Int × Unit) × Unit × Unit × Unit) :=
 if (0 : Int) ≤ (a.length : Int) ∧ (a.length : Int) ≤ (a.length : Int) ∧ (a.length : Int) ≤ 1073741824 then
 (g91_L0 m m a b (List.replicate (a.length : Int).toNat (0 : Int)) 0 (w_i64 ((a.length : Int) - 1))).bind fun y1 =>
 match y1 with
 | .inl z2 =>
  (g51 m z2.1).bind fun y3 =>
  some ((y3.1,w_u32 z2.2.1,()),((),(),()))
 | .inr e =>
  e.elim
 else none
/-! 92 math/bits.LeadingZeros32 -/
def g92 (m : Nat) (a : Int) : Option (Int × Unit × Unit) :=
 (g94 m a).bind fun y1 =>
 some (w_i64 (32 - y1.1),((),()))
/-! 85 sparse/integer.divide -/
def g85 (m : Nat) (a : List Int) (b : List Int) : Option ((List Int × List Int × Unit) × Unit × Unit × Unit) :=
 (g50 m a b).bind fun y1 =>
 bif decide (y1.1 < 0) then
  (g62 m a).bind fun y2 =>
  some ((([] : List Int),y2.1,()),((),(),()))
 else
  bif (b.length : Int) == 1 then
   if (0 : Int) ≤ 0 ∧ 0 < (b.length : Int) then
   (g91 m a (b.getD 0 0)).bind fun y3 =>
   (g51 m ([y3.1.2.1] : List Int)).bind fun y4 =>
   some ((y3.1.1,y4.1,()),((),(),()))
   else none
  else
   if (0 : Int) ≤ (w_i64 ((b.length : Int) - 1)) ∧ (w_i64 ((b.length : Int) - 1)) < (b.length : Int) then
   (g92 m (b.getD (w_i64 ((b.length : Int) - 1)).toNat 0)).bind fun y5 =>
   (g77 m b y5.1).bind fun y6 =>
   if (0 : Int) ≤ (w_i64 ((a.length : Int) + 1)) ∧ (w_i64 ((a.length : Int) + 1)) ≤ (w_i64 ((a.length : Int) + 1)) ∧ (w_i64 ((a.length : Int) + 1)) ≤ 1073741824 then
   (g77 m a y5.1).bind fun y7 =>
   none
   else none
   else none
/-! 73 sparse/integer.DivMod -/
def g73 (m : Nat) (a : Bool) (b : List Int) (c : Bool) (d : List Int) : Option (((Bool × List Int × Unit) × (Bool × List Int × Unit) × Int × Unit) × Unit × Unit × Unit) :=
 (g51 m d).bind fun y1 =>
 bif (y1.1.length : Int) == 0 then
  some (((false,([] : List Int),()),(false,([] : List Int),()),8,()),((),(),()))
 else
  (g51 m b).bind fun y2 =>
  (g85 m y2.1 y1.1).bind fun y3 =>
  bif a then
   bif decide ((y3.1.2.1.length : Int) > 0) then
    (g70 m y3.1.1 ([1] : List Int)).bind fun y4 =>
    (g71 m y1.1 y3.1.2.1).bind fun y5 =>
    (g61 m (!(a == c)) y4.1).bind fun y6 =>
    (g61 m false y5.1).bind fun y7 =>
    some (((y6.1.1,y6.1.2.1,()),(y7.1.1,y7.1.2.1,()),0,()),((),(),()))
   else
    (g61 m (!(a == c)) y3.1.1).bind fun y8 =>
    (g61 m false y3.1.2.1).bind fun y9 =>
    some (((y8.1.1,y8.1.2.1,()),(y9.1.1,y9.1.2.1,()),0,()),((),(),()))
  else
   (g61 m (!(a == c)) y3.1.1).bind fun y10 =>
   (g61 m false y3.1.2.1).bind fun y11 =>
   some (((y10.1.1,y10.1.2.1,()),(y11.1.1,y11.1.2.1,()),0,()),((),(),()))
/-! 55 sparse/integer.Quo -/
def g55 (m : Nat) (a : Bool) (b : List Int) (c : Bool) (d : List Int) : Option (((Bool × List Int × Unit) × Int × Unit) × Unit × Unit × Unit) :=
 (g73 m a b c d).bind fun y1 =>
 bif y1.1.2.2.1 == 0 then
  bif decide ((y1.1.2.1.2.1.length : Int) > 0) then
   some (((false,([] : List Int),()),10,()),((),(),()))
  else
   some (((y1.1.1.1,y1.1.1.2.1,()),y1.1.2.2.1,()),((),(),()))
 else
  some (((y1.1.1.1,y1.1.1.2.1,()),y1.1.2.2.1,()),((),(),()))
/-! 38 sparse/exact.characteristic -/
def g38_L3 (m : Nat) : Nat → (List (List (Bool × List Int))) → Int → (List (Bool × List Int)) → Int → (List (List (Bool × List Int))) → Bool → List Int → Int → Int → Option (((List (List (Bool × List Int))) × Int × (List (Bool × List Int)) × Int × (List (List (Bool × List Int))) × (Bool × List Int × Unit) × Unit) ⊕ Empty)
 | 0,_,_,_,_,_,_,_,_,_ => none
 | n + 1,a,b,c,d,f,h,i,j,k =>
  bif decide (k < j) then
   if (0 : Int) ≤ k ∧ k < (f.length : Int) then
   if (0 : Int) ≤ k ∧ k < ((f.getD k.toNat ([] : List (Bool × List Int))).length : Int) then
   (g53 m h i ((f.getD k.toNat ([] : List (Bool × List Int))).getD k.toNat (false,([] : List Int))).1 ((f.getD k.toNat ([] : List (Bool × List Int))).getD k.toNat (false,([] : List Int))).2).bind fun y1 =>
   g38_L3 m n a b c d f y1.1.1 y1.1.2.1 j (w_i64 (k + 1))
   else none
   else none
  else
   some (.inl (a,b,c,d,f,(h,i,()),()))
def g38_L2 (m : Nat) : Nat → (List (List (Bool × List Int))) → Int → (List (Bool × List Int)) → (List (List (Bool × List Int))) → Int → Int → Int → Option (((List (List (Bool × List Int))) × Int × (List (Bool × List Int)) × (List (List (Bool × List Int))) × Int × Unit) ⊕ Empty)
 | 0,_,_,_,_,_,_,_ => none
 | n + 1,a,b,c,d,f,h,i =>
  bif decide (i < h) then
   if (0 : Int) ≤ i ∧ i < (d.length : Int) then
   if (0 : Int) ≤ i ∧ i < (d.length : Int) then
   if (0 : Int) ≤ i ∧ i < ((d.getD i.toNat ([] : List (Bool × List Int))).length : Int) then
   if (0 : Int) ≤ (w_i64 ((w_i64 (b - f)) + 1)) ∧ (w_i64 ((w_i64 (b - f)) + 1)) < (c.length : Int) then
   (g53 m ((d.getD i.toNat ([] : List (Bool × List Int))).getD i.toNat (false,([] : List Int))).1 ((d.getD i.toNat ([] : List (Bool × List Int))).getD i.toNat (false,([] : List Int))).2 (c.getD (0 + (w_i64 ((w_i64 (b - f)) + 1)).toNat) (false,([] : List Int))).1 (c.getD (0 + (w_i64 ((w_i64 (b - f)) + 1)).toNat) (false,([] : List Int))).2).bind fun y1 =>
   if (0 : Int) ≤ i ∧ i < ((d.getD i.toNat ([] : List (Bool × List Int))).length : Int) then
   g38_L2 m n a b c (d.set i.toNat ((d.getD i.toNat ([] : List (Bool × List Int))).set i.toNat (y1.1.1,y1.1.2.1))) f h (w_i64 (i + 1))
   else none
   else none
   else none
   else none
   else none
  else
   some (.inl (a,b,c,d,f,()))
def g38_L1 (m : Nat) : Nat → (List (List (Bool × List Int))) → Int → (List (Bool × List Int)) → (List (List (Bool × List Int))) → Int → Option (((List (Bool × List Int)) × Unit) ⊕ Empty)
 | 0,_,_,_,_,_ => none
 | n + 1,a,b,c,d,f =>
  bif decide (f ≤ b) then
   (g38_L2 m m a b c d f (d.length : Int) 0).bind fun y1 =>
   match y1 with
   | .inl z2 =>
    (g54 m z2.1 z2.2.2.2.1).bind fun y3 =>
    (g38_L3 m m z2.1 z2.2.1 z2.2.2.1 z2.2.2.2.2.1 y3.1 false ([] : List Int) (y3.1.length : Int) 0).bind fun y4 =>
    match y4 with
    | .inl z5 =>
     (g52 m z5.2.2.2.1).bind fun y6 =>
     (g55 m z5.2.2.2.2.2.1.1 z5.2.2.2.2.2.1.2.1 y6.1.1 y6.1.2.1).bind fun y7 =>
     (g56 m y7.1.1.1 y7.1.1.2.1).bind fun y8 =>
     if (0 : Int) ≤ (w_i64 (z5.2.1 - z5.2.2.2.1)) ∧ (w_i64 (z5.2.1 - z5.2.2.2.1)) < (z5.2.2.1.length : Int) then
     g38_L1 m n z5.1 z5.2.1 (z5.2.2.1.set (0 + (w_i64 (z5.2.1 - z5.2.2.2.1)).toNat) (y8.1.1,y8.1.2.1)) z5.2.2.2.2.1 (w_i64 (z5.2.2.2.1 + 1))
     else none
    | .inr e =>
     e.elim
   | .inr e =>
    e.elim
  else
   some (.inl (c,()))
def g38_L0 (m : Nat) : Nat → (List (List (Bool × List Int))) → Int → (List (Bool × List Int)) → (List (List (Bool × List Int))) → Int → Int → Option (((List (List (Bool × List Int))) × Int × (List (Bool × List Int)) × (List (List (Bool × List Int))) × Unit) ⊕ Empty)
 | 0,_,_,_,_,_,_ => none
 | n + 1,a,b,c,d,f,h =>
  bif decide (h < f) then
   if (0 : Int) ≤ b ∧ b ≤ b ∧ b ≤ 1073741824 then
   if (0 : Int) ≤ h ∧ h < (d.length : Int) then
   g38_L0 m n a b c (d.set h.toNat (List.replicate b.toNat (false,([] : List Int)))) f (w_i64 (h + 1))
   else none
   else none
  else
   some (.inl (a,b,c,d,()))
def g38 (m : Nat) (a : List (List (Bool × List Int))) : Option ((List (Bool × List Int)) × Unit × Unit) :=
 if (0 : Int) ≤ (w_i64 ((a.length : Int) + 1)) ∧ (w_i64 ((a.length : Int) + 1)) ≤ (w_i64 ((a.length : Int) + 1)) ∧ (w_i64 ((a.length : Int) + 1)) ≤ 1073741824 then
 (g52 m 1).bind fun y1 =>
 if (0 : Int) ≤ (a.length : Int) ∧ (a.length : Int) < ((List.replicate (w_i64 ((a.length : Int) + 1)).toNat (false,([] : List Int))).length : Int) then
 if (0 : Int) ≤ (a.length : Int) ∧ (a.length : Int) ≤ (a.length : Int) ∧ (a.length : Int) ≤ 1073741824 then
 (g38_L0 m m a (a.length : Int) ((List.replicate (w_i64 ((a.length : Int) + 1)).toNat (false,([] : List Int))).set (0 + (a.length : Int).toNat) (y1.1.1,y1.1.2.1)) (List.replicate (a.length : Int).toNat ([] : List (Bool × List Int))) ((List.replicate (a.length : Int).toNat ([] : List (Bool × List Int))).length : Int) 0).bind fun y2 =>
 match y2 with
 | .inl z3 =>
  (g38_L1 m m z3.1 z3.2.1 z3.2.2.1 z3.2.2.2.1 1).bind fun y4 =>
  match y4 with
  | .inl z5 =>
   some (z5.1,((),()))
  | .inr e =>
   e.elim
 | .inr e =>
  e.elim
 else none
 else none
 else none
/-! 32 sparse/exact.Inertia -/
def g32_L3 (m : Nat) : Nat → (List (List (Bool × List Int))) → Int → Int → Int → (List (Bool × List Int)) → Int → Int → Option (((List (List (Bool × List Int))) × Int × Int × Unit) ⊕ Empty)
 | 0,_,_,_,_,_,_,_ => none
 | n + 1,a,b,c,d,f,h,i =>
  bif decide (i < h) then
   if (0 : Int) ≤ i ∧ i < (f.length : Int) then
   (g40 m (f.getD (0 + i.toNat) (false,([] : List Int))).1 (f.getD (0 + i.toNat) (false,([] : List Int))).2).bind fun y1 =>
   bif decide ((w_i64 (y1.1 * d)) < 0) then
    bif y1.1 != 0 then
     g32_L3 m n a b (w_i64 (c + 1)) y1.1 f h (w_i64 (i + 1))
    else
     g32_L3 m n a b (w_i64 (c + 1)) d f h (w_i64 (i + 1))
   else
    bif y1.1 != 0 then
     g32_L3 m n a b c y1.1 f h (w_i64 (i + 1))
    else
     g32_L3 m n a b c d f h (w_i64 (i + 1))
   else none
  else
   some (.inl (a,b,c,()))
def g32_L2 (m : Nat) : Nat → (List (List (Bool × List Int))) → Int → Int → (List (Bool × List Int)) → Option (((List (List (Bool × List Int))) × Int × Int × (List (Bool × List Int)) × Unit) ⊕ Empty)
 | 0,_,_,_,_ => none
 | n + 1,a,b,c,d =>
  bif decide (b < (a.length : Int)) then
   if (0 : Int) ≤ b ∧ b < (d.length : Int) then
   (g40 m (d.getD (0 + b.toNat) (false,([] : List Int))).1 (d.getD (0 + b.toNat) (false,([] : List Int))).2).bind fun y1 =>
   bif y1.1 == 0 then
    g32_L2 m n a (w_i64 (b + 1)) c d
   else
    some (.inl (a,b,c,d,()))
   else none
  else
   some (.inl (a,b,c,d,()))
def g32_L1 (m : Nat) : Nat → (List (List (Bool × List Int))) → Int → Int → Int → (List (List (Bool × List Int))) → Int → Int → (List (Bool × List Int)) → Int → Int → Option ((Int × Int × Int × Int × Unit) ⊕ ((List (List (Bool × List Int))) × Int × Int × (List (List (Bool × List Int))) × Int × Int × Unit) ⊕ Empty)
 | 0,_,_,_,_,_,_,_,_,_,_ => none
 | n + 1,a,b,c,d,f,h,i,j,k,l =>
  bif decide (l < k) then
   if (0 : Int) ≤ l ∧ l < (j.length : Int) then
   if (0 : Int) ≤ l ∧ l < (a.length : Int) then
   if (0 : Int) ≤ d ∧ d < ((a.getD l.toNat ([] : List (Bool × List Int))).length : Int) then
   (g37 m (j.getD l.toNat (false,([] : List Int))).1 (j.getD l.toNat (false,([] : List Int))).2 ((a.getD l.toNat ([] : List (Bool × List Int))).getD d.toNat (false,([] : List Int))).1 ((a.getD l.toNat ([] : List (Bool × List Int))).getD d.toNat (false,([] : List Int))).2).bind fun y1 =>
   bif y1.1 != 0 then
    some (.inl (0,0,0,80,()))
   else
    g32_L1 m n a b c d f h i j k (w_i64 (l + 1))
   else none
   else none
   else none
  else
   some (.inr (.inl (a,b,c,f,h,i,())))
def g32_L0 (m : Nat) : Nat → (List (List (Bool × List Int))) → Int → Int → (List (List (Bool × List Int))) → Int → Int → Option ((Int × Int × Int × Int × Unit) ⊕ ((List (List (Bool × List Int))) × Int × Int × Unit) ⊕ Empty)
 | 0,_,_,_,_,_,_ => none
 | n + 1,a,b,c,d,f,h =>
  bif decide (h < f) then
   if (0 : Int) ≤ h ∧ h < (d.length : Int) then
   (g32_L1 m m a b c h d f h (d.getD h.toNat ([] : List (Bool × List Int))) ((d.getD h.toNat ([] : List (Bool × List Int))).length : Int) 0).bind fun y1 =>
   match y1 with
   | .inl z2 =>
    some (.inl (z2.1,z2.2.1,z2.2.2.1,z2.2.2.2.1,()))
   | .inr (.inl z3) =>
    g32_L0 m n z3.1 z3.2.1 z3.2.2.1 z3.2.2.2.1 z3.2.2.2.2.1 (w_i64 (z3.2.2.2.2.2.1 + 1))
   | .inr (.inr e) =>
    e.elim
   else none
  else
   some (.inr (.inl (a,b,c,())))
def g32 (m : Nat) (a : List (List (Bool × List Int))) : Option ((Int × Int × Int × Int × Unit) × Unit × Unit) :=
 (g36 m a).bind fun y1 =>
 bif y1.1 != 0 then
  some ((0,0,0,y1.1,()),((),()))
 else
  (g32_L0 m m a 0 0 a (a.length : Int) 0).bind fun y2 =>
  match y2 with
  | .inl z3 =>
   some ((z3.1,z3.2.1,z3.2.2.1,z3.2.2.2.1,()),((),()))
  | .inr (.inl z4) =>
   (g39 m z4.1 ([] : List (Bool × List Int))).bind fun y5 =>
   (g38 m y5.1).bind fun y6 =>
   (g32_L2 m m z4.1 z4.2.1 z4.2.2.1 y6.1).bind fun y7 =>
   match y7 with
   | .inl z8 =>
    (g32_L3 m m z8.1 z8.2.1 z8.2.2.1 0 z8.2.2.2.1 (z8.2.2.2.1.length : Int) 0).bind fun y9 =>
    match y9 with
    | .inl z10 =>
     some ((w_i64 ((w_i64 ((z10.1.length : Int) - z10.2.1)) - z10.2.2.1),z10.2.1,z10.2.2.1,0,()),((),()))
    | .inr e =>
     e.elim
   | .inr e =>
    e.elim
  | .inr (.inr e) =>
   e.elim
/-! 27 sparse/tridiag.atMost -/
def g27 (m : Nat) (a : List Int) (b : List Int) (c : Int) : Option (Int × Unit × Unit × Unit × Unit) :=
 bif c == 9218868437227405312 then
  some ((a.length : Int),((),(),(),()))
 else
  (g30 m c).bind fun y1 =>
  bif !y1.1 then
   some (0,((),(),(),()))
  else
   (g34 m a b c).bind fun y2 =>
   (g33 m y2.1).bind fun y3 =>
   (g32 m y3.1).bind fun y4 =>
   some (w_i64 (y4.1.1 + y4.1.2.1),((),(),(),()))
/-! 20 sparse/tridiag.AtMost -/
def g20 (m : Nat) (a : List Int) (b : List Int) (c : Int) : Option ((Int × Int × Unit) × Unit × Unit × Unit × Unit) :=
 (g26 m a b).bind fun y1 =>
 bif y1.1 != 0 then
  some ((0,y1.1,()),((),(),(),()))
 else
  (g14 m c).bind fun y2 =>
  bif y2.1 == 3 then
   some ((0,4,()),((),(),(),()))
  else
   (g27 m a b c).bind fun y3 =>
   some ((y3.1,0,()),((),(),(),()))
/-! 12 sparse/sparselaw37.awake -/
def sparselaw37_awake (m : Nat) : Option (Bool × Unit) :=
 (g21 m 4607182418800017408).bind fun y1 =>
 (g20 m ([0,0] : List Int) ([4607182418800017408] : List Int) y1.1).bind fun y2 =>
 (g20 m ([0,0] : List Int) ([4607182418800017408] : List Int) 0).bind fun y3 =>
 (g20 m ([0,0] : List Int) ([4607182418800017408] : List Int) 4607182418800017408).bind fun y4 =>
 bif y2.1.2.1 == 0 then
  bif y3.1.2.1 == 0 then
   bif y4.1.2.1 == 0 then
    bif y2.1.1 == 1 then
     bif y3.1.1 == 1 then
      some (y4.1.1 == 2,())
     else
      some (false,())
    else
     some (false,())
   else
    some (false,())
  else
   some (false,())
 else
  some (false,())
/-! 28 sparse/sparseref03.Minus -/
def g28 (m : Nat) (a : Int) : Option (Bool × Unit × Unit) :=
 some ((qw .u64 a 9223372036854775808) != 0,((),()))
/-! 23 sparse/sparseref03.key -/
def g23 (m : Nat) (a : Int) : Option (Int × Unit × Unit) :=
 (g28 m a).bind fun y1 =>
 bif y1.1 then
  some (w_i64 (0 - (w_i64 (Y2 .u64 a 9223372036854775808))),((),()))
 else
  some (w_i64 a,((),()))
/-! 13 sparse/sparseref03.Cmp -/
def g13 (m : Nat) (a : Int) (b : Int) : Option ((Int × Bool × Unit) × Unit × Unit × Unit) :=
 (g22 m a).bind fun y1 =>
 bif y1.1 then
  some ((0,false,()),((),(),()))
 else
  (g22 m b).bind fun y2 =>
  bif y2.1 then
   some ((0,false,()),((),(),()))
  else
   (g23 m a).bind fun y3 =>
   (g23 m b).bind fun y4 =>
   bif decide (y3.1 < y4.1) then
    some (((-1),true,()),((),(),()))
   else
    (g23 m a).bind fun y5 =>
    (g23 m b).bind fun y6 =>
    bif decide (y5.1 > y6.1) then
     some ((1,true,()),((),(),()))
    else
     some ((0,true,()),((),(),()))
/-! 3 sparse/sparselaw37.TridiagKeys -/
/-! 4 sparse/sparselaw37.TridiagOrder -/
def sparselaw37_TridiagOrder (m : Nat) (a : Int) (b : Int) : Option (Bool × Unit × Unit × Unit) :=
 (g6 m a).bind fun y1 =>
 (g6 m b).bind fun y2 =>
 (g13 m a b).bind fun y3 =>
 bif !y1.1.2.1 then
  bif y1.1.2.1 then
   bif y2.1.2.1 == y3.1.2.1 then
    (sparselaw37_awake m).bind fun y4 =>
    some (y4.1,((),(),()))
   else
    some (false,((),(),()))
  else
   bif false == y3.1.2.1 then
    (sparselaw37_awake m).bind fun y5 =>
    some (y5.1,((),(),()))
   else
    some (false,((),(),()))
 else
  bif !y2.1.2.1 then
   bif y1.1.2.1 then
    bif y2.1.2.1 == y3.1.2.1 then
     (sparselaw37_awake m).bind fun y6 =>
     some (y6.1,((),(),()))
    else
     some (false,((),(),()))
   else
    bif false == y3.1.2.1 then
     (sparselaw37_awake m).bind fun y7 =>
     some (y7.1,((),(),()))
    else
     some (false,((),(),()))
  else
   bif !y3.1.2.1 then
    bif y1.1.2.1 then
     bif y2.1.2.1 == y3.1.2.1 then
      (sparselaw37_awake m).bind fun y8 =>
      some (y8.1,((),(),()))
     else
      some (false,((),(),()))
    else
     bif false == y3.1.2.1 then
      (sparselaw37_awake m).bind fun y9 =>
      some (y9.1,((),(),()))
     else
      some (false,((),(),()))
   else
    bif decide (y3.1.1 < 0) then
     bif decide (y1.1.1 ≥ y2.1.1) then
      some (false,((),(),()))
     else
      bif decide (y3.1.1 > 0) then
       bif decide (y1.1.1 ≤ y2.1.1) then
        some (false,((),(),()))
       else
        bif y3.1.1 == 0 then
         bif y1.1.1 != y2.1.1 then
          some (false,((),(),()))
         else
          (g10 m a b).bind fun y10 =>
          (g13 m y10.1.1 a).bind fun y11 =>
          (g13 m y10.1.1 b).bind fun y12 =>
          bif y10.1.2.1 then
           bif decide (y11.1.1 ≥ 0) then
            bif decide (y12.1.1 ≤ 0) then
             (sparselaw37_awake m).bind fun y13 =>
             some (y13.1,((),(),()))
            else
             bif decide (y11.1.1 ≤ 0) then
              bif decide (y12.1.1 ≥ 0) then
               (sparselaw37_awake m).bind fun y14 =>
               some (y14.1,((),(),()))
              else
               some (false,((),(),()))
             else
              some (false,((),(),()))
           else
            bif decide (y11.1.1 ≤ 0) then
             bif decide (y12.1.1 ≥ 0) then
              (sparselaw37_awake m).bind fun y15 =>
              some (y15.1,((),(),()))
             else
              some (false,((),(),()))
            else
             some (false,((),(),()))
          else
           some (false,((),(),()))
        else
         (g10 m a b).bind fun y16 =>
         (g13 m y16.1.1 a).bind fun y17 =>
         (g13 m y16.1.1 b).bind fun y18 =>
         bif y16.1.2.1 then
          bif decide (y17.1.1 ≥ 0) then
           bif decide (y18.1.1 ≤ 0) then
            (sparselaw37_awake m).bind fun y19 =>
            some (y19.1,((),(),()))
           else
            bif decide (y17.1.1 ≤ 0) then
             bif decide (y18.1.1 ≥ 0) then
              (sparselaw37_awake m).bind fun y20 =>
              some (y20.1,((),(),()))
             else
              some (false,((),(),()))
            else
             some (false,((),(),()))
          else
           bif decide (y17.1.1 ≤ 0) then
            bif decide (y18.1.1 ≥ 0) then
             (sparselaw37_awake m).bind fun y21 =>
             some (y21.1,((),(),()))
            else
             some (false,((),(),()))
           else
            some (false,((),(),()))
         else
          some (false,((),(),()))
      else
       bif y3.1.1 == 0 then
        bif y1.1.1 != y2.1.1 then
         some (false,((),(),()))
        else
         (g10 m a b).bind fun y22 =>
         (g13 m y22.1.1 a).bind fun y23 =>
         (g13 m y22.1.1 b).bind fun y24 =>
         bif y22.1.2.1 then
          bif decide (y23.1.1 ≥ 0) then
           bif decide (y24.1.1 ≤ 0) then
            (sparselaw37_awake m).bind fun y25 =>
            some (y25.1,((),(),()))
           else
            bif decide (y23.1.1 ≤ 0) then
             bif decide (y24.1.1 ≥ 0) then
              (sparselaw37_awake m).bind fun y26 =>
              some (y26.1,((),(),()))
             else
              some (false,((),(),()))
            else
             some (false,((),(),()))
          else
           bif decide (y23.1.1 ≤ 0) then
            bif decide (y24.1.1 ≥ 0) then
             (sparselaw37_awake m).bind fun y27 =>
             some (y27.1,((),(),()))
            else
             some (false,((),(),()))
           else
            some (false,((),(),()))
         else
          some (false,((),(),()))
       else
        (g10 m a b).bind fun y28 =>
        (g13 m y28.1.1 a).bind fun y29 =>
        (g13 m y28.1.1 b).bind fun y30 =>
        bif y28.1.2.1 then
         bif decide (y29.1.1 ≥ 0) then
          bif decide (y30.1.1 ≤ 0) then
           (sparselaw37_awake m).bind fun y31 =>
           some (y31.1,((),(),()))
          else
           bif decide (y29.1.1 ≤ 0) then
            bif decide (y30.1.1 ≥ 0) then
             (sparselaw37_awake m).bind fun y32 =>
             some (y32.1,((),(),()))
            else
             some (false,((),(),()))
           else
            some (false,((),(),()))
         else
          bif decide (y29.1.1 ≤ 0) then
           bif decide (y30.1.1 ≥ 0) then
            (sparselaw37_awake m).bind fun y33 =>
            some (y33.1,((),(),()))
           else
            some (false,((),(),()))
          else
           some (false,((),(),()))
        else
         some (false,((),(),()))
    else
     bif decide (y3.1.1 > 0) then
      bif decide (y1.1.1 ≤ y2.1.1) then
       some (false,((),(),()))
      else
       bif y3.1.1 == 0 then
        bif y1.1.1 != y2.1.1 then
         some (false,((),(),()))
        else
         (g10 m a b).bind fun y34 =>
         (g13 m y34.1.1 a).bind fun y35 =>
         (g13 m y34.1.1 b).bind fun y36 =>
         bif y34.1.2.1 then
          bif decide (y35.1.1 ≥ 0) then
           bif decide (y36.1.1 ≤ 0) then
            (sparselaw37_awake m).bind fun y37 =>
            some (y37.1,((),(),()))
           else
            bif decide (y35.1.1 ≤ 0) then
             bif decide (y36.1.1 ≥ 0) then
              (sparselaw37_awake m).bind fun y38 =>
              some (y38.1,((),(),()))
             else
              some (false,((),(),()))
            else
             some (false,((),(),()))
          else
           bif decide (y35.1.1 ≤ 0) then
            bif decide (y36.1.1 ≥ 0) then
             (sparselaw37_awake m).bind fun y39 =>
             some (y39.1,((),(),()))
            else
             some (false,((),(),()))
           else
            some (false,((),(),()))
         else
          some (false,((),(),()))
       else
        (g10 m a b).bind fun y40 =>
        (g13 m y40.1.1 a).bind fun y41 =>
        (g13 m y40.1.1 b).bind fun y42 =>
        bif y40.1.2.1 then
         bif decide (y41.1.1 ≥ 0) then
          bif decide (y42.1.1 ≤ 0) then
           (sparselaw37_awake m).bind fun y43 =>
           some (y43.1,((),(),()))
          else
           bif decide (y41.1.1 ≤ 0) then
            bif decide (y42.1.1 ≥ 0) then
             (sparselaw37_awake m).bind fun y44 =>
             some (y44.1,((),(),()))
            else
             some (false,((),(),()))
           else
            some (false,((),(),()))
         else
          bif decide (y41.1.1 ≤ 0) then
           bif decide (y42.1.1 ≥ 0) then
            (sparselaw37_awake m).bind fun y45 =>
            some (y45.1,((),(),()))
           else
            some (false,((),(),()))
          else
           some (false,((),(),()))
        else
         some (false,((),(),()))
     else
      bif y3.1.1 == 0 then
       bif y1.1.1 != y2.1.1 then
        some (false,((),(),()))
       else
        (g10 m a b).bind fun y46 =>
        (g13 m y46.1.1 a).bind fun y47 =>
        (g13 m y46.1.1 b).bind fun y48 =>
        bif y46.1.2.1 then
         bif decide (y47.1.1 ≥ 0) then
          bif decide (y48.1.1 ≤ 0) then
           (sparselaw37_awake m).bind fun y49 =>
           some (y49.1,((),(),()))
          else
           bif decide (y47.1.1 ≤ 0) then
            bif decide (y48.1.1 ≥ 0) then
             (sparselaw37_awake m).bind fun y50 =>
             some (y50.1,((),(),()))
            else
             some (false,((),(),()))
           else
            some (false,((),(),()))
         else
          bif decide (y47.1.1 ≤ 0) then
           bif decide (y48.1.1 ≥ 0) then
            (sparselaw37_awake m).bind fun y51 =>
            some (y51.1,((),(),()))
           else
            some (false,((),(),()))
          else
           some (false,((),(),()))
        else
         some (false,((),(),()))
      else
       (g10 m a b).bind fun y52 =>
       (g13 m y52.1.1 a).bind fun y53 =>
       (g13 m y52.1.1 b).bind fun y54 =>
       bif y52.1.2.1 then
        bif decide (y53.1.1 ≥ 0) then
         bif decide (y54.1.1 ≤ 0) then
          (sparselaw37_awake m).bind fun y55 =>
          some (y55.1,((),(),()))
         else
          bif decide (y53.1.1 ≤ 0) then
           bif decide (y54.1.1 ≥ 0) then
            (sparselaw37_awake m).bind fun y56 =>
            some (y56.1,((),(),()))
           else
            some (false,((),(),()))
          else
           some (false,((),(),()))
        else
         bif decide (y53.1.1 ≤ 0) then
          bif decide (y54.1.1 ≥ 0) then
           (sparselaw37_awake m).bind fun y57 =>
           some (y57.1,((),(),()))
          else
           some (false,((),(),()))
         else
          some (false,((),(),()))
       else
        some (false,((),(),()))
end Go.Vs.F
