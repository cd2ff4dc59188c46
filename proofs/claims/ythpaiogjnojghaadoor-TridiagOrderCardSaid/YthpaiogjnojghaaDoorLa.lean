/- The sanity check of the tridiagonal laws: a closed evaluation. Keys of floats: bits as numbers. Keys of floats: program and document; the laws. The laws TridiagKeys and TridiagOrder. -/
import Derived.Test.YthpaiogjnojghaaDoorFn
import Derived.KernelRfl
import Derived.Test.YthpaiogjnojghaaDoorVc

/-! MqA -/
set_option maxRecDepth 100000
namespace Go.Vs.F
theorem q8m (j : Nat) : sparselaw37_awake (j + 200) = some (true,()) := by kernel_rfl
end Go.Vs.F

/-! MqB -/
set_option linter.unusedVariables false
set_option linter.unusedSimpArgs false
namespace Go.Vs.F
def U64 (f : Int) : Prop := 0 ≤ f ∧ f < 18446744073709551616
def I64 (a : Int) : Prop := -9223372036854775808 ≤ a ∧ a < 9223372036854775808
theorem fdiv_pow {a : Int} {k : Nat} : Int.fdiv a (2 ^ k) = a / 2 ^ k :=
  Int.fdiv_eq_ediv_of_nonneg _ (by exact Int.le_of_lt (Int.pow_pos (by omega)))
theorem ofInt64 {a : Nat} (h : a < 18446744073709551616) : (BitVec.ofInt 64 (a : Int)).toNat = a := by
  rw [BitVec.toNat_ofInt]
  have : ((a : Int) % ((2 ^ 64 : Nat) : Int)).toNat = a := by omega
  exact this
theorem Z7 {a : Int} : (BitVec.ofInt 64 a).toNat = (a % 18446744073709551616).toNat := by
  rw [BitVec.toNat_ofInt]; rfl
theorem and64 {a b : Nat} (ha : a < 18446744073709551616) (hb : b < 18446744073709551616) : qw .u64 (a : Int) (b : Int) = ((a &&& b : Nat) : Int) := by
  unfold qw
  show IntKind.wrap .u64 ((BitVec.ofInt 64 (a : Int) &&& BitVec.ofInt 64 (b : Int)).toNat : Int) = _
  rw [BitVec.toNat_and,ofInt64 ha,ofInt64 hb]
  have : a &&& b < 18446744073709551616 := Nat.lt_of_le_of_lt Nat.and_le_left ha
  rw [wu (by omega) (by omega)]
theorem q5a {n : Nat} (h : n < 18446744073709551616) : n &&& 9223372036854775808 = if 9223372036854775808 ≤ n then 9223372036854775808 else 0 := by
  have hb : n &&& 9223372036854775808 = if n.testBit 63 then 9223372036854775808 else 0 := by
    rw [show (9223372036854775808 : Nat) = 2 ^ 63 by decide]
    apply Nat.eq_of_testBit_eq
    intro i
    rw [Nat.testBit_and,Nat.testBit_two_pow]
    by_cases c : 63 = i
    · subst c
      cases hb : n.testBit 63
      · simp
      · rw [if_pos rfl,Nat.testBit_two_pow]; simp
    · cases hb : n.testBit 63
      · simp [c]
      · rw [if_pos rfl,Nat.testBit_two_pow]; simp [c]
  have ht : n.testBit 63 = decide (9223372036854775808 ≤ n) := by
    rw [Nat.testBit_eq_decide_div_mod_eq]
    rw [show (2 : Nat) ^ 63 = 9223372036854775808 by decide]
    by_cases c : 9223372036854775808 ≤ n
    · rw [decide_eq_decide]; omega
    · rw [decide_eq_decide]; omega
  rw [hb,ht]
  by_cases c : 9223372036854775808 ≤ n
  · simp [c]
  · simp [c]
/- The bits of a sum. -/
theorem q2t : ∀ (k a b : Nat),a < 2 ^ k → b < 2 ^ k → a + b = 2 * (a &&& b) + (a ^^^ b)
  | 0,a,b,ha,hb => by
    have : a = 0 := by simpa using ha
    have : b = 0 := by simpa using hb
    subst a; subst b; rfl
  | k + 1,a,b,ha,hb => by
    have ih := q2t k (a / 2) (b / 2) (by rw [Nat.pow_succ] at ha; omega) (by rw [Nat.pow_succ] at hb; omega)
    have e1 : (a &&& b) / 2 = a / 2 &&& b / 2 := Nat.and_div_two
    have e2 : (a ^^^ b) / 2 = a / 2 ^^^ b / 2 := Nat.xor_div_two
    have m1 : (a &&& b) % 2 = a % 2 * (b % 2) := by
      have h := Nat.and_mod_two_pow (a := a) (b := b) (n := 1)
      rw [Nat.pow_one] at h
      rw [h]
      rcases Nat.mod_two_eq_zero_or_one a with h1 | h1 <;> rcases Nat.mod_two_eq_zero_or_one b with h2 | h2 <;> rw [h1,h2] <;> rfl
    have m2 : (a ^^^ b) % 2 = (a % 2 + b % 2) % 2 := by
      have h := Nat.xor_mod_two_pow (a := a) (b := b) (n := 1)
      rw [Nat.pow_one] at h
      rw [h]
      rcases Nat.mod_two_eq_zero_or_one a with h1 | h1 <;> rcases Nat.mod_two_eq_zero_or_one b with h2 | h2 <;> rw [h1,h2] <;> rfl
    rw [← e1,← e2] at ih
    rcases Nat.mod_two_eq_zero_or_one a with h1 | h1 <;> rcases Nat.mod_two_eq_zero_or_one b with h2 | h2 <;> rw [h1,h2] at m1 m2 <;> omega
theorem q6j {a b : Nat} (ha : a < 18446744073709551616) (hb : b < 18446744073709551616) :
    (a &&& b) < 18446744073709551616 ∧ (a ^^^ b) < 18446744073709551616 ∧
    (9223372036854775808 ≤ (a &&& b) ↔ 9223372036854775808 ≤ a ∧ 9223372036854775808 ≤ b) ∧
    (9223372036854775808 ≤ (a ^^^ b) ↔ ¬ (9223372036854775808 ≤ a ↔ 9223372036854775808 ≤ b)) := by
  have h1 : (a &&& b) < 2 ^ 64 := Nat.lt_of_le_of_lt Nat.and_le_left ha
  have h2 : (a ^^^ b) < 2 ^ 64 := Nat.xor_lt_two_pow ha hb
  have t : ∀ n : Nat,n < 18446744073709551616 → (9223372036854775808 ≤ n ↔ n.testBit 63 = true) := by
    intro n hn
    rw [Nat.testBit_eq_decide_div_mod_eq,decide_eq_true_eq,show (2 : Nat) ^ 63 = 9223372036854775808 by decide]
    omega
  refine ⟨h1,h2,?_,?_⟩
  · rw [t _ h1,t _ ha,t _ hb,Nat.testBit_and,Bool.and_eq_true]
  · rw [t _ h2,t _ ha,t _ hb,Nat.testBit_xor]
    cases a.testBit 63 <;> cases b.testBit 63 <;> simp
/- Half the sum of two keys, in both ways. -/
theorem q7e {m : Nat} {a b : Int} (ha : -9218868437227405312 ≤ a ∧ a ≤ 9218868437227405312) (hb : -9218868437227405312 ≤ b ∧ b ≤ 9218868437227405312) :
    g18 m a b = some ((a + b) / 2,(),(),()) ∧ g19 m a b = some ((a + b) / 2,(),(),()) := by
  obtain ⟨x,hx,x1⟩ : ∃ x : Nat,(a % 18446744073709551616).toNat = x ∧ x < 18446744073709551616 := ⟨_,rfl,by omega⟩
  obtain ⟨y,hy,y1⟩ : ∃ y : Nat,(b % 18446744073709551616).toNat = y ∧ y < 18446744073709551616 := ⟨_,rfl,by omega⟩
  have ex : a = if 9223372036854775808 ≤ x then (x : Int) - 18446744073709551616 else (x : Int) := by split <;> omega
  have ey : b = if 9223372036854775808 ≤ y then (y : Int) - 18446744073709551616 else (y : Int) := by split <;> omega
  obtain ⟨p1,p2,p3,p4⟩ := q6j x1 y1
  have hs := q2t 64 x y x1 y1
  have eand : qw .i64 a b = IntKind.wrap .i64 ((x &&& y : Nat) : Int) := by
    unfold qw
    show IntKind.wrap .i64 ((BitVec.ofInt 64 a &&& BitVec.ofInt 64 b).toNat : Int) = _
    rw [BitVec.toNat_and,Z7,Z7,hx,hy]
  have exor : q1i .i64 a b = IntKind.wrap .i64 ((x ^^^ y : Nat) : Int) := by
    unfold q1i
    show IntKind.wrap .i64 ((BitVec.ofInt 64 a ^^^ BitVec.ofInt 64 b).toNat : Int) = _
    rw [BitVec.toNat_xor,Z7,Z7,hx,hy]
  have w : ∀ n : Nat,n < 18446744073709551616 → IntKind.wrap .i64 (n : Int) = if 9223372036854775808 ≤ n then (n : Int) - 18446744073709551616 else (n : Int) := by
    intro n hn
    unfold IntKind.wrap
    show (if (true && decide ((n : Int) % 18446744073709551616 ≥ 9223372036854775808)) = true then (n : Int) % 18446744073709551616 - 18446744073709551616 else (n : Int) % 18446744073709551616) = _
    by_cases c : 9223372036854775808 ≤ n
    · rw [if_pos c,if_pos (by simp; omega)]; omega
    · rw [if_neg c,if_neg (by simp; omega)]; omega
  have sh : ∀ z : Int,shr_ .i64 z 1 = z / 2 := by
    intro z
    unfold shr_
    rw [show min (1 : Int).toNat (IntKind.i64.bits) = 1 by decide,fdiv_pow]; rfl
  constructor
  · rw [g18,eand,exor,sh,w _ p1,w _ p2,w_i64_eq]
    have e : (if 9223372036854775808 ≤ x &&& y then ((x &&& y : Nat) : Int) - 18446744073709551616 else ((x &&& y : Nat) : Int)) + (if 9223372036854775808 ≤ x ^^^ y then ((x ^^^ y : Nat) : Int) - 18446744073709551616 else ((x ^^^ y : Nat) : Int)) / 2 = (a + b) / 2 := by
      by_cases cx : 9223372036854775808 ≤ x <;> by_cases cy : 9223372036854775808 ≤ y
      · rw [if_pos cx] at ex; rw [if_pos cy] at ey
        rw [if_pos (p3.2 ⟨cx,cy⟩),if_neg (fun h => p4.1 h ⟨fun _ => cy,fun _ => cx⟩)]; omega
      · rw [if_pos cx] at ex; rw [if_neg cy] at ey
        rw [if_neg (fun h => cy (p3.1 h).2),if_pos (p4.2 (fun h => cy (h.1 cx)))]; omega
      · rw [if_neg cx] at ex; rw [if_pos cy] at ey
        rw [if_neg (fun h => cx (p3.1 h).1),if_pos (p4.2 (fun h => cx (h.2 cy)))]; omega
      · rw [if_neg cx] at ex; rw [if_neg cy] at ey
        rw [if_neg (fun h => cx (p3.1 h).1),if_neg (fun h => p4.1 h ⟨fun h => absurd h cx,fun h => absurd h cy⟩)]; omega
    rw [e,wi (by omega) (by omega)]
  · have e1 : qw .i64 (qw .i64 a b) 1 = (a % 2) * (b % 2) := by
      rw [eand]
      unfold qw
      show IntKind.wrap .i64 ((BitVec.ofInt 64 (IntKind.wrap .i64 ((x &&& y : Nat) : Int)) &&& BitVec.ofInt 64 1).toNat : Int) = _
      rw [BitVec.toNat_and,Z7,Z7]
      have hm : (IntKind.wrap .i64 ((x &&& y : Nat) : Int) % 18446744073709551616).toNat = x &&& y := by
        rw [w _ p1]; split <;> omega
      rw [hm,show ((1 : Int) % 18446744073709551616).toNat = 1 from rfl,Nat.and_one_is_mod]
      have h := Nat.and_mod_two_pow (a := x) (b := y) (n := 1)
      rw [Nat.pow_one] at h
      rw [h]
      have h1 : (x % 2 : Nat) = (a % 2).toNat := by split at ex <;> omega
      have h2 : (y % 2 : Nat) = (b % 2).toNat := by split at ey <;> omega
      rw [h1,h2]
      rcases (by omega : a % 2 = 0 ∨ a % 2 = 1) with g | g <;> rcases (by omega : b % 2 = 0 ∨ b % 2 = 1) with g' | g' <;> rw [g,g'] <;> decide
    rw [g19,e1,sh,sh,w_i64_eq,w_i64_eq]
    have : (a % 2) * (b % 2) = if a % 2 = 1 ∧ b % 2 = 1 then 1 else 0 := by
      rcases (by omega : a % 2 = 0 ∨ a % 2 = 1) with g | g <;> rcases (by omega : b % 2 = 0 ∨ b % 2 = 1) with g' | g' <;> rw [g,g'] <;> decide
    rw [this,wi (n := a / 2 + b / 2) (by omega) (by omega)]
    have e2 : a / 2 + b / 2 + (if a % 2 = 1 ∧ b % 2 = 1 then 1 else 0) = (a + b) / 2 := by split <;> omega
    rw [e2,wi (by omega) (by omega)]
end Go.Vs.F

/-! MqC -/
set_option linter.unusedVariables false
set_option linter.unusedSimpArgs false
namespace Go.Vs.F
def lowF (f : Int) : Int := f % 9223372036854775808
def keyF (f : Int) : Int := if 9223372036854775808 ≤ f then -lowF f else lowF f
def nanB (f : Int) : Bool := decide (9218868437227405312 < lowF f)
def inK (k : Int) : Prop := -9218868437227405312 ≤ k ∧ k ≤ 9218868437227405312
instance {k : Int} : Decidable (inK k) := inferInstanceAs (Decidable (_ ∧ _))
def fromK (k : Int) : Int := if k < 0 then 9223372036854775808 - k else k
theorem fields {f : Int} (h : U64 f) : qw .u64 (shr_ .u64 f 52) 2047 = f / 4503599627370496 % 2048 ∧ qw .u64 f 4503599627370495 = f % 4503599627370496 := by
  obtain ⟨n,rfl⟩ : ∃ n : Nat,f = (n : Int) := ⟨f.toNat,by have := h.1; omega⟩
  have hn : n < 18446744073709551616 := by have := h.2; omega
  have e1 : shr_ .u64 (n : Int) 52 = ((n / 4503599627370496 : Nat) : Int) := by
    unfold shr_
    rw [show min (52 : Int).toNat (IntKind.u64.bits) = 52 by decide,fdiv_pow]; rfl
  have e2 := and64 (a := n / 4503599627370496) (b := 2047) (by omega) (by omega)
  have e3 := and64 (a := n) (b := 4503599627370495) hn (by omega)
  rw [show ((2047 : Nat) : Int) = 2047 from rfl,show (2047 : Nat) = 2 ^ 11 - 1 by decide,Nat.and_two_pow_sub_one_eq_mod] at e2
  rw [show ((4503599627370495 : Nat) : Int) = 4503599627370495 from rfl,show (4503599627370495 : Nat) = 2 ^ 52 - 1 by decide,Nat.and_two_pow_sub_one_eq_mod] at e3
  rw [e1,e2,e3]
  constructor <;> omega
theorem tops {f : Int} (h : U64 f) : qw .u64 f 9223372036854775808 = (if 9223372036854775808 ≤ f then 9223372036854775808 else 0) ∧ Y2 .u64 f 9223372036854775808 = lowF f ∧
    q1i .u64 f 9223372036854775808 = (if 9223372036854775808 ≤ f then f - 9223372036854775808 else f + 9223372036854775808) ∧ b_or_ .u64 f 9223372036854775808 = lowF f + 9223372036854775808 := by
  obtain ⟨n,rfl⟩ : ∃ n : Nat,f = (n : Int) := ⟨f.toNat,by have := h.1; omega⟩
  have hn : n < 18446744073709551616 := by have := h.2; omega
  have ha := q5a hn
  have hs := q2t 64 n 9223372036854775808 hn (by omega)
  obtain ⟨p1,p2,-,-⟩ := q6j hn (show 9223372036854775808 < 18446744073709551616 by omega)
  have hx : (n ^^^ 9223372036854775808) = if 9223372036854775808 ≤ n then n - 9223372036854775808 else n + 9223372036854775808 := by
    split at ha <;> split <;> omega
  have ho : (n ||| 9223372036854775808) = n % 9223372036854775808 + 9223372036854775808 := by
    have hl : n % 9223372036854775808 < 2 ^ 63 := by omega
    have e := Nat.two_pow_add_eq_or_of_lt hl 1
    rw [Nat.mul_one] at e
    have e2 : n ||| 9223372036854775808 = 9223372036854775808 ||| n % 9223372036854775808 := by
      apply Nat.eq_of_testBit_eq
      intro i
      rw [show (9223372036854775808 : Nat) = 2 ^ 63 by decide]
      simp only [Nat.testBit_or,Nat.testBit_two_pow,Nat.testBit_mod_two_pow]
      by_cases c : i < 63
      · simp [c,Bool.or_comm]
      · by_cases d : 63 = i
        · simp [d]
        · have : n.testBit i = false := Nat.testBit_lt_two_pow (Nat.lt_of_lt_of_le hn (by
            rw [show (18446744073709551616 : Nat) = 2 ^ 64 by decide]; exact Nat.pow_le_pow_right (by omega) (by omega)))
          simp [c,d,this]
    rw [e2]
    rw [show (9223372036854775808 : Nat) = 2 ^ 63 by decide,← e]; omega
  have e1 := and64 hn (show 9223372036854775808 < 18446744073709551616 by omega)
  have n1 : (BitVec.ofInt 64 (n : Int)).toNat = n := ofInt64 hn
  have n2 : (BitVec.ofInt 64 9223372036854775808).toNat = 9223372036854775808 := ofInt64 (a := 9223372036854775808) (by omega)
  refine ⟨?_,?_,?_,?_⟩
  · rw [show ((9223372036854775808 : Nat) : Int) = 9223372036854775808 from rfl] at e1
    rw [e1,ha]; split <;> split <;> omega
  · unfold Y2 lowF
    show IntKind.wrap .u64 ((BitVec.ofInt 64 (n : Int) &&& ~~~(BitVec.ofInt 64 9223372036854775808)).toNat : Int) = _
    have e : (BitVec.ofInt 64 (n : Int) &&& ~~~(BitVec.ofInt 64 9223372036854775808)).toNat = n % 9223372036854775808 := by
      rw [BitVec.toNat_and,n1,show (~~~(BitVec.ofInt 64 9223372036854775808)).toNat = 2 ^ 63 - 1 by decide,Nat.and_two_pow_sub_one_eq_mod]
    rw [e,wu (by omega) (by omega)]; omega
  · unfold q1i
    show IntKind.wrap .u64 ((BitVec.ofInt 64 (n : Int) ^^^ BitVec.ofInt 64 9223372036854775808).toNat : Int) = _
    rw [BitVec.toNat_xor,n1,n2,hx,wu (by split <;> omega) (by split <;> omega)]
    split <;> split <;> omega
  · unfold b_or_ lowF
    show IntKind.wrap .u64 ((BitVec.ofInt 64 (n : Int) ||| BitVec.ofInt 64 9223372036854775808).toNat : Int) = _
    rw [BitVec.toNat_or,n1,n2,ho,wu (by omega) (by omega)]
    omega
theorem q8v {f : Int} (h : U64 f) : 9218868437227405312 < lowF f ↔ f / 4503599627370496 % 2048 = 2047 ∧ f % 4503599627370496 ≠ 0 := by
  unfold lowF; have := h.1; have := h.2; omega
theorem q3e {m : Nat} {f : Int} (h : U64 f) : ∃ k,g14 m f = some (k,(),()) ∧ g16 m f = some (k,(),()) ∧ (k = 3 ↔ nanB f = true) := by
  have hf := fields h
  have hn := q8v h
  have hl : 0 ≤ f / 4503599627370496 % 2048 ∧ f / 4503599627370496 % 2048 < 2048 := by omega
  unfold nanB
  rw [decide_eq_true_eq,hn,g14,g24,g16,hf.1,hf.2,Option.bind_some,w_i64_eq,wi (by omega) (by omega)]
  dsimp only
  simp only [bif_eq,bif_ne]
  generalize f / 4503599627370496 % 2048 = a
  generalize f % 4503599627370496 = b
  by_cases c : a = 2047
  · by_cases d : b = 0
    · exact ⟨2,by simp [c,d],by simp [c,d],by simp [c,d]⟩
    · exact ⟨3,by simp [c,d],by simp [c,d],by simp [c,d]⟩
  · by_cases e : a = 0
    · by_cases d : b = 0
      · exact ⟨0,by simp [e,d],by simp [e,d],by simp [e,d]⟩
      · exact ⟨1,by simp [e,d],by simp [e,d],by simp [e,d]⟩
    · exact ⟨1,by simp [c,e],by simp [c,e],by simp [c,e]⟩
theorem q7u {m : Nat} (hm : 10 < m) {f : Int} (h : U64 f) : g25 m [f] = some (nanB f,(),()) := by
  obtain ⟨k,h1,-,h3⟩ := q3e (m := m) h
  obtain ⟨j,rfl⟩ : ∃ j,m = j + 2 := ⟨m - 2,by omega⟩
  rw [g25,g25_L0]
  simp only [List.length_cons,List.length_nil,Nat.zero_add,Int.toNat_zero]
  rw [show (((1 : Nat) : Int)) = 1 from rfl,bif_decide,if_pos (by omega),if_pos (by omega)]
  simp only [List.getD_cons_zero,h1,Option.bind_some,bif_eq]
  by_cases c : k = 3
  · rw [if_pos c,Option.bind_some,h3.1 c]
  · rw [if_neg c,w_i64_eq,wi (by omega) (by omega),g25_L0,bif_decide,if_neg (by omega),Option.bind_some]
    cases hb : nanB f
    · rfl
    · exact absurd (h3.2 hb) c
theorem q7r {m : Nat} {f : Int} (h : U64 f) : g22 m f = some (nanB f,(),()) := by
  obtain ⟨k,-,h2,h3⟩ := q3e (m := m) h
  rw [g22,h2,Option.bind_some]
  dsimp only
  by_cases c : k = 3
  · rw [h3.1 c,c]; rfl
  · rw [show (k == 3) = false by simpa using c]
    cases hb : nanB f
    · rfl
    · exact absurd (h3.2 hb) c
theorem q65 (f : Int) : 0 ≤ lowF f ∧ lowF f < 9223372036854775808 := by unfold lowF; omega
def keyR (f : Int) : Int × Bool × Unit := if nanB f then (0,false,()) else (keyF f,true,())
theorem q2n {m : Nat} (hm : 10 < m) {f : Int} (h : U64 f) : g6 m f = some (keyR f,(),()) ∧ g7 m f = some (keyR f,(),()) := by
  obtain ⟨k,h1,h2,h3⟩ := q3e (m := m) h
  have ht := tops h
  have hl := q65 f
  unfold keyR
  constructor
  · rw [g6,h1,Option.bind_some,bif_eq,g15,q7u hm h,Option.bind_some,ht.2.1]
    dsimp only
    by_cases c : k = 3
    · rw [if_pos c,if_pos (h3.1 c)]
    · have hb : nanB f = false := by
        cases hb : nanB f
        · rfl
        · exact absurd (h3.2 hb) c
      rw [if_neg c,hb]
      simp only [cond_false,Option.bind_some,bif_ne,w_i64_eq]
      rw [wi (n := lowF f) (by omega) (by omega),wi (n := 0 - lowF f) (by omega) (by omega)]
      have h1 := h.1; have h2 := h.2
      unfold keyF
      by_cases d : f = lowF f
      · rw [if_pos d,if_neg (show ¬ 9223372036854775808 ≤ f by omega)]; rfl
      · rw [if_neg d,if_pos (show 9223372036854775808 ≤ f by unfold lowF at d; omega),Int.zero_sub]; rfl
  · rw [g7,h2,Option.bind_some,bif_eq,ht.1,ht.2.1]
    dsimp only
    by_cases c : k = 3
    · rw [if_pos c,if_pos (h3.1 c)]
    · have hb : nanB f = false := by
        cases hb : nanB f
        · rfl
        · exact absurd (h3.2 hb) c
      rw [if_neg c,hb]
      simp only [bif_ne,w_i64_eq]
      rw [wi (n := lowF f) (by omega) (by omega),wi (n := 0 - lowF f) (by omega) (by omega)]
      unfold keyF
      by_cases d : 9223372036854775808 ≤ f
      · rw [if_pos d,if_neg (by omega),if_pos d,Int.zero_sub]; rfl
      · rw [if_neg d,if_pos rfl,if_neg d]; rfl
def fromR (k : Int) : Int × Bool × Unit := if inK k then (fromK k,true,()) else (0,false,())
theorem q7d {k : Int} (h : inK k) : U64 (fromK k) := by unfold fromK U64; unfold inK at h; split <;> omega
theorem q6n {k : Int} (h : inK k) : keyF (fromK k) = k ∧ nanB (fromK k) = false := by
  unfold keyF fromK nanB lowF
  unfold inK at h
  by_cases c : k < 0
  · rw [if_pos c,if_pos (by omega)]
    exact ⟨by omega,decide_eq_false (by omega)⟩
  · rw [if_neg c,if_neg (by omega)]
    exact ⟨by omega,decide_eq_false (by omega)⟩
theorem Js {m : Nat} (hm : 10 < m) {k : Int} (h : I64 k) : g8 m k = some (fromR k,(),()) ∧ g9 m k = some (fromR k,(),()) := by
  unfold I64 at h
  have hK := (q2n hm (f := 9218868437227405312) ⟨by omega,by omega⟩).2
  have kk : keyR 9218868437227405312 = (9218868437227405312,true,()) := by decide
  unfold fromR fromK
  constructor
  · rw [g8]
    simp only [bif_decide,w_i64_eq]
    by_cases c : k < -9218868437227405312
    · rw [if_pos c,if_neg (show ¬ inK k by unfold inK; omega)]
    · by_cases d : 9218868437227405312 < k
      · rw [if_neg c,if_pos d,if_neg (show ¬ inK k by unfold inK; omega)]
      · rw [if_neg c,if_neg d,if_pos (show inK k by unfold inK; omega)]
        by_cases e : k < 0
        · have u : U64 (0 - k) := by unfold U64; omega
          rw [if_pos e,if_pos e,wi (by omega) (by omega),show w_u64 (0 - k) = 0 - k from wu (by omega) (by omega),g17,q7u hm u,Option.bind_some,(tops u).2.2.1]
          have : nanB (0 - k) = false := by unfold nanB lowF; exact decide_eq_false (by omega)
          rw [this,cond_false,Option.bind_some,if_neg (by omega)]
          congr 3; omega
        · rw [if_neg e,if_neg e,show w_u64 k = k from wu (by omega) (by omega)]
  · rw [g9,hK,kk,Option.bind_some]
    have w0 : w_i64 (0 - 9218868437227405312) = -9218868437227405312 := by decide
    simp only [bif_decide,w0,w_i64_eq]
    by_cases c : k < -9218868437227405312
    · rw [if_neg (by omega),if_pos (by omega),if_neg (show ¬ inK k by unfold inK; omega)]
    · by_cases d : 9218868437227405312 < k
      · rw [if_pos d,if_neg (show ¬ inK k by unfold inK; omega)]
      · rw [if_neg d,if_neg (by omega),if_pos (show inK k by unfold inK; omega)]
        by_cases e : k < 0
        · have u : U64 (0 - k) := by unfold U64; omega
          rw [if_pos e,if_pos e,wi (by omega) (by omega),show w_u64 (0 - k) = 0 - k from wu (by omega) (by omega),(tops u).2.2.2]
          have : lowF (0 - k) + 9223372036854775808 = 9223372036854775808 - k := by unfold lowF; omega
          rw [this]
        · rw [if_neg e,if_neg e,show w_u64 k = k from wu (by omega) (by omega)]
theorem q4o {f : Int} (h : nanB f = false) : inK (keyF f) := by
  unfold nanB at h
  rw [decide_eq_false_iff_not] at h
  have := q65 f
  unfold keyF inK; split <;> omega
def midR (a b : Int) : Int × Bool × Unit := if nanB a then (0,false,()) else if nanB b then (0,false,()) else (fromK ((keyF a + keyF b) / 2),true,())
theorem q4w {m : Nat} (hm : 10 < m) {a b : Int} (ha : U64 a) (hb : U64 b) : g10 m a b = some (midR a b,(),(),()) ∧ g11 m a b = some (midR a b,(),(),()) := by
  obtain ⟨a1,a2⟩ := q2n hm ha
  obtain ⟨b1,b2⟩ := q2n hm hb
  rw [g10,g11,a1,a2,Option.bind_some,Option.bind_some,b1,b2,Option.bind_some,Option.bind_some]
  unfold keyR midR
  cases na : nanB a
  · cases nb : nanB b
    · have ka := q4o na
      have kb := q4o nb
      obtain ⟨m1,m2⟩ := q7e (m := m) ka kb
      have km : inK ((keyF a + keyF b) / 2) := by unfold inK at *; omega
      obtain ⟨f1,f2⟩ := Js hm (k := (keyF a + keyF b) / 2) (by unfold inK at km; unfold I64; omega)
      have hr : fromR ((keyF a + keyF b) / 2) = (fromK ((keyF a + keyF b) / 2),true,()) := if_pos km
      simp only [Bool.false_eq_true,if_false,Bool.not_true,cond_false,m1,m2,Option.bind_some,f1,f2,hr,and_self]
    · simp
  · simp
def cmpR (a b : Int) : Int × Bool × Unit := if nanB a then (0,false,()) else if nanB b then (0,false,()) else (if keyF a < keyF b then -1 else if keyF a > keyF b then 1 else 0,true,())
theorem q79 {m : Nat} {f : Int} (h : U64 f) : g23 m f = some (keyF f,(),()) := by
  have ht := tops h
  have hl := q65 f
  have h1 := h.1; have h2 := h.2
  rw [g23,g28,Option.bind_some,ht.1,ht.2.1]
  simp only [bif_ne,w_i64_eq]
  rw [wi (n := lowF f) (by omega) (by omega),wi (n := 0 - lowF f) (by omega) (by omega)]
  unfold keyF
  by_cases d : 9223372036854775808 ≤ f
  · rw [if_pos d,if_neg (by omega),if_pos d,Int.zero_sub]
  · rw [if_neg d,if_pos rfl,if_neg d,wi (by omega) (by omega)]
    have : f = lowF f := by unfold lowF; omega
    rw [← this]
theorem q66 {m : Nat} {a b : Int} (ha : U64 a) (hb : U64 b) : g13 m a b = some (cmpR a b,(),(),()) := by
  rw [g13,q7r ha,q7r hb,Option.bind_some,Option.bind_some,q79 ha,q79 hb]
  unfold cmpR
  simp only [Option.bind_some,bif_decide]
  cases nanB a
  · cases nanB b
    · simp only [cond_false,Bool.false_eq_true,if_false]
      split
      · rfl
      · split <;> rfl
    · rfl
  · rfl
end Go.Vs.F

/-! MqD -/
set_option linter.unusedVariables false
set_option linter.unusedSimpArgs false
namespace Go.Vs.F
theorem q2h {m : Nat} (h : 200 ≤ m) : sparselaw37_awake m = some (true,()) := by
  obtain ⟨j,rfl⟩ : ∃ j,m = j + 200 := ⟨m - 200,by omega⟩
  exact q8m j
theorem q78 (a b : Int) (ha : U64 a) (hb : U64 b) : ∃ m,sparselaw37_TridiagOrder m a b = some (true,(),(),()) := by
  refine ⟨200,?_⟩
  have hm : 10 < 200 := by omega
  rw [sparselaw37_TridiagOrder,(q2n hm ha).1,(q2n hm hb).1,q66 ha hb,(q4w hm ha hb).1,q2h (Nat.le_refl _)]
  unfold keyR cmpR midR
  cases na : nanB a
  · cases nb : nanB b
    · have ka := q4o na
      have kb := q4o nb
      have km : inK ((keyF a + keyF b) / 2) := by unfold inK at *; omega
      obtain ⟨k1,k2⟩ := q6n km
      have um := q7d km
      simp only [Bool.false_eq_true,if_false,Option.bind_some,Bool.not_true,cond_false,bif_decide]
      rw [q66 um ha,q66 um hb]
      unfold cmpR
      rw [k1,k2,na,nb]
      simp only [Bool.false_eq_true,if_false,Option.bind_some,cond_true,bif_decide,bif_eq,bif_ne]
      generalize keyF a = x at *
      generalize keyF b = y at *
      by_cases c : x < y
      · rw [if_pos c]
        by_cases d : (x + y) / 2 < x
        · omega
        · by_cases e : (x + y) / 2 < y
          · by_cases f : (x + y) / 2 > x <;> simp [d,e,f,show ¬ (y ≤ x) by omega]
          · by_cases f : (x + y) / 2 > x <;> by_cases g : (x + y) / 2 > y <;> first | omega | simp [d,e,f,g,show ¬ (y ≤ x) by omega]
      · by_cases c2 : y < x
        · rw [if_neg c,if_pos c2]
          by_cases d : (x + y) / 2 < y
          · omega
          · by_cases e : (x + y) / 2 < x
            · by_cases f : (x + y) / 2 > y <;> simp [d,e,f,show ¬ (x ≤ y) by omega]
            · by_cases f : (x + y) / 2 > y <;> by_cases g : (x + y) / 2 > x <;> first | omega | simp [d,e,f,g,show ¬ (x ≤ y) by omega]
        · have : x = y := by omega
          subst this
          have : (x + x) / 2 = x := by omega
          rw [this]
          simp
    · simp
  · cases nb : nanB b <;> simp
theorem wfu64 {x : Int} (h : (Lit.int .u64 x).wf = true) : U64 x := by
  simp only [Lit.wf,Bool.and_eq_true,decide_eq_true_eq] at h
  exact ⟨h.1,by have h2 : x ≤ 18446744073709551615 := h.2; omega⟩
end Go.Vs.F
