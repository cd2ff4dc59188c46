/- Dyads: the normal form of z 2^e, plain. Dyads of the program: norm, Make, Sign, Neg, Abs, Add, Sub, Mul, Cmp. Rounding to a float, plain; integers that fit. The program's rounding to a float. The program's reading of a float. The program's dyads: Neg, Add, Sub, Mul, Cmp, Scale, over a common exponent. -/
import Derived.Test.YtjjndhlkoehkdaaGreatDoorLc

/-! MxCa -/
set_option linter.unusedVariables false
set_option linter.unusedSimpArgs false
namespace Go.Vs.F
def mkD (z e : Int) : Bool × Bool × List Int × Int × Unit :=
  if z = 0 then (false,false,[],0,())
  else if e + (blen z.natAbs : Int) > 65536 ∨ e + (tz z.natAbs : Int) < -65536 then (true,false,[],0,())
  else (false,decide (z < 0),lim (z.natAbs / 2 ^ tz z.natAbs),e + (tz z.natAbs : Int),())
def OkD (z e : Int) : Prop := (mkD z e).1 = false
def sc (z e b : Int) : Int := z * 2 ^ (e - b).toNat
def EqD (z e w f : Int) : Prop := ∃ b,b ≤ e ∧ b ≤ f ∧ sc z e b = sc w f b
theorem qhe (e : Int) : mkD 0 e = (false,false,[],0,()) := rfl
theorem X3 {z e : Int} : OkD z e ↔ z = 0 ∨ (e + (blen z.natAbs : Int) ≤ 65536 ∧ -65536 ≤ e + (tz z.natAbs : Int)) := by
  unfold OkD mkD
  by_cases h : z = 0
  · simp [h]
  · rw [if_neg h]
    by_cases h2 : e + (blen z.natAbs : Int) > 65536 ∨ e + (tz z.natAbs : Int) < -65536
    · rw [if_pos h2]; simp only [h,false_or]
      constructor
      · intro h; cases h
      · intro h; omega
    · rw [if_neg h2]; simp only [h,false_or,true_iff]; omega
theorem qkv (e : Int) : OkD 0 e := rfl
instance {z e : Int} : Decidable (OkD z e) := inferInstanceAs (Decidable (_ = _))
theorem Ji {z e : Int} (h : ¬ OkD z e) : mkD z e = (true,false,[],0,()) := by
  unfold OkD mkD at *
  split at h
  · exact absurd rfl h
  · rename_i h1; rw [if_neg h1]
    split at h
    · rename_i h2; rw [if_pos h2]
    · exact absurd rfl h
theorem Z5 {z : Int} {k : Nat} : (z * 2 ^ k).natAbs = 2 ^ k * z.natAbs := by
  rw [Int.natAbs_mul,Int.natAbs_pow,Nat.mul_comm]; rfl
theorem J8 {k n : Nat} (h : n ≠ 0) : blen (2 ^ k * n) = k + blen n := by
  have := Jr (y := 0) h (Nat.pow_pos (n := k) (show 0 < 2 by omega))
  rwa [Nat.add_zero] at this
theorem q0w (k : Nat) : 0 < (2 : Int) ^ k := Int.pow_pos (by omega)
theorem q6o {z : Int} {k : Nat} : z * 2 ^ k < 0 ↔ z < 0 := by
  have := q0w k
  constructor
  · intro h
    refine Int.not_le.1 fun h2 => ?_
    have := Int.mul_nonneg h2 (Int.le_of_lt this)
    omega
  · intro h; exact Int.mul_neg_of_neg_of_pos h this
theorem qer {z : Int} {k : Nat} {e : Int} : mkD (z * 2 ^ k) e = mkD z (e + (k : Int)) := by
  unfold mkD
  by_cases h : z = 0
  · subst h; rw [Int.zero_mul]; rfl
  · have h2 : z * 2 ^ k ≠ 0 := Int.mul_ne_zero h (by have := q0w k; omega)
    have hn : z.natAbs ≠ 0 := by omega
    rw [if_neg h,if_neg h2,Z5,J8 hn,q7t hn,Nat.pow_add,Nat.mul_div_mul_left _ _ (Nat.pow_pos (by omega))]
    simp only [q6o]
    rw [Int.natCast_add,Int.natCast_add,← Int.add_assoc,← Int.add_assoc]
theorem q2u {z e b : Int} (h : b ≤ e) : mkD (sc z e b) b = mkD z e := by
  unfold sc
  rw [qer]
  congr 1
  omega
theorem EqD.mk {z e w f : Int} : EqD z e w f → mkD z e = mkD w f
  | ⟨b,h1,h2,h3⟩ => by rw [← q2u h1,← q2u h2,h3]
theorem qct {z e b c : Int} (h1 : c ≤ b) (h2 : b ≤ e) : sc z e c = sc z e b * 2 ^ (b - c).toNat := by
  unfold sc
  rw [Int.mul_assoc,← Int.pow_add]
  congr 2
  omega
theorem qea {x y : Int} {k : Nat} (h : x * 2 ^ k = y * 2 ^ k) : x = y :=
  Int.eq_of_mul_eq_mul_right (by have := q0w k; omega) h
theorem EqD.low {z e w f : Int} (h : EqD z e w f) {c : Int} (h1 : c ≤ e) (h2 : c ≤ f) : sc z e c = sc w f c := by
  obtain ⟨b,hb1,hb2,h3⟩ := h
  by_cases hc : c ≤ b
  · rw [qct hc hb1,qct hc hb2,h3]
  · rw [qct (b := c) (c := b) (by omega) h1,qct (b := c) (c := b) (by omega) h2] at h3
    exact qea h3
theorem EqD.refl (z e : Int) : EqD z e z e := ⟨e,by omega,by omega,rfl⟩
theorem EqD.trans {z e w f y g : Int} (h : EqD z e w f) (h2 : EqD w f y g) : EqD z e y g := by
  obtain ⟨c,c1,c2,c3⟩ : ∃ c : Int,c ≤ e ∧ c ≤ f ∧ c ≤ g := ⟨min e (min f g),by omega,by omega,by omega⟩
  exact ⟨c,c1,c3,(h.low c1 c2).trans (h2.low c2 c3)⟩
theorem EqD.zero (e f : Int) : EqD 0 e 0 f := ⟨min e f,by omega,by omega,by unfold sc; rw [Int.zero_mul,Int.zero_mul]⟩
theorem qeu (z e : Int) : sc z e e = z := by unfold sc; rw [Int.sub_self]; exact Int.mul_one z
theorem EqD.sc {z e b : Int} (h : b ≤ e) : EqD (sc z e b) b z e := ⟨b,by omega,h,by rw [qeu]⟩
theorem EqD.mul {z e w f y g x h : Int} (h1 : EqD z e w f) (h2 : EqD y g x h) : EqD (z * y) (e + g) (w * x) (f + h) := by
  obtain ⟨b,b1,b2,b3⟩ := h1
  obtain ⟨c,c1,c2,c3⟩ := h2
  refine ⟨b + c,by omega,by omega,?_⟩
  have k : ∀ {z e y g : Int},b ≤ e → c ≤ g → Vs.F.sc (z * y) (e + g) (b + c) = Vs.F.sc z e b * Vs.F.sc y g c := by
    intro z e y g h1 h2
    unfold Vs.F.sc
    rw [show (e + g - (b + c)).toNat = (e - b).toNat + (g - c).toNat by omega,Int.pow_add]
    simp only [Int.mul_assoc,Int.mul_comm,Int.mul_left_comm]
  rw [k b1 c1,k b2 c2,b3,c3]
theorem EqD.sgn {z e w f : Int} (h : EqD z e w f) : Vs.F.sgn z = Vs.F.sgn w := by
  obtain ⟨b,h1,h2,h3⟩ := h
  have k : ∀ z e : Int,Vs.F.sgn (Vs.F.sc z e b) = Vs.F.sgn z := by
    intro z e
    unfold Vs.F.sgn Vs.F.sc
    simp only [q6o]
    have : 0 < z * 2 ^ (e - b).toNat ↔ 0 < z := by
      have := q0w (e - b).toNat
      constructor
      · intro h; exact Int.pos_of_mul_pos_left h this
      · intro h; exact Int.mul_pos h this
    simp only [this]
  rw [← k z e,← k w f,h3]
theorem q17 {n k : Nat} : blen (n / 2 ^ k) ≤ blen n := by
  by_cases h : n / 2 ^ k = 0
  · rw [h,Jm]; omega
  · have h0 : n ≠ 0 := by rintro rfl; simp at h
    rw [Qn h,Qn h0]
    have : (n / 2 ^ k).log2 < n.log2 + 1 := by
      rw [Nat.log2_lt h]
      exact Nat.lt_of_le_of_lt (Nat.div_le_self ..) Nat.lt_log2_self
    omega
theorem qbu {n : Nat} (h : n ≠ 0) : n / 2 ^ tz n ≠ 0 ∧ n = 2 ^ tz n * (n / 2 ^ tz n) ∧ (n / 2 ^ tz n) % 2 = 1 := by
  obtain ⟨q,h1,h2⟩ := q59 h
  have : n / 2 ^ tz n = q := by
    conv => lhs; arg 1; rw [h1]
    exact Nat.mul_div_cancel_left q (Nat.pow_pos (by omega))
  rw [this]
  exact ⟨by omega,h1,h2⟩
theorem q7i {n : Nat} (h : n ≠ 0) : blen n = tz n + blen (n / 2 ^ tz n) := by
  obtain ⟨h1,h2,_⟩ := qbu h
  conv => lhs; rw [h2]
  exact J8 h1
theorem q95 {z : Int} {q : Nat} : ((if z < 0 then -1 else 1) * (q : Int)).natAbs = q := by split <;> omega
theorem lt_sg {z : Int} {q : Nat} (h : q ≠ 0) : z < 0 ↔ ((if z < 0 then -1 else 1) * (q : Int)) < 0 := by split <;> omega
theorem qim {z : Int} {q : Nat} : ((if z < 0 then -1 else 1) * (q : Int)) = 0 → q = 0 := by split <;> omega
theorem qi8 {z : Int} : (if z < 0 then -1 else 1) * (z.natAbs : Int) = z := by split <;> omega
/- The parts of a normal form. -/
structure NF (z e w f : Int) : Prop where
  eq : EqD w f z e
  md : mkD z e = (false,decide (w < 0),lim w.natAbs,f,())
  zero : w = 0 → f = 0
  odd : w ≠ 0 → w.natAbs % 2 = 1
  lo : -65536 ≤ f
  hi : f + (blen w.natAbs : Int) ≤ 65536
theorem NF.len {z e w f : Int} (h : NF z e w f) : blen w.natAbs ≤ 131072 := by have := h.lo; have := h.hi; omega
theorem OkD.nf {z e : Int} (h : OkD z e) : ∃ w f,NF z e w f := by
  by_cases hz : z = 0
  · subst hz
    exact ⟨0,0,EqD.zero ..,by rw [qhe]; simp [Qj],fun _ => rfl,fun h => absurd rfl h,by omega,by decide⟩
  · rcases X3.1 h with h | ⟨h1,h2⟩
    · exact absurd h hz
    · have hn : z.natAbs ≠ 0 := by omega
      obtain ⟨k1,k2,k3⟩ := qbu hn
      have hb := q7i hn
      have hmk : mkD z e = (false,decide (z < 0),lim (z.natAbs / 2 ^ tz z.natAbs),e + (tz z.natAbs : Int),()) := by
        unfold mkD; rw [if_neg hz,if_neg (by omega)]
      have hN := q95 (z := z) (q := z.natAbs / 2 ^ tz z.natAbs)
      refine ⟨(if z < 0 then -1 else 1) * (((z.natAbs / 2 ^ tz z.natAbs : Nat)) : Int),e + (tz z.natAbs : Int),⟨e,by omega,by omega,?_⟩,?_,?_,?_,by omega,?_⟩
      · rw [qeu]
        unfold sc
        rw [show (e + (tz z.natAbs : Int) - e).toNat = tz z.natAbs by omega,Int.mul_assoc]
        have : (((z.natAbs / 2 ^ tz z.natAbs : Nat)) : Int) * 2 ^ tz z.natAbs = (z.natAbs : Int) := by
          conv => rhs; rw [k2]
          rw [Int.natCast_mul,Int.mul_comm,Int.natCast_pow]; rfl
        rw [this,qi8]
      · rw [hmk,hN,decide_eq_decide.2 (lt_sg k1)]
      · intro h0; exact absurd (qim h0) k1
      · intro _; rw [hN]; exact k3
      · rw [hN]; omega
theorem NF.ok {z e w f : Int} (h : NF z e w f) : OkD w f := by
  unfold OkD; rw [h.eq.mk,h.md]
end Go.Vs.F

/-! MxCb -/
set_option linter.unusedVariables false
set_option linter.unusedSimpArgs false
namespace Go.Vs.F
theorem q9r {n k : Nat} (h : blen n ≤ k) : (lim n).length ≤ k / 32 + 1 := by
  refine Yg ?_
  refine Nat.lt_of_lt_of_le (q2h n) ?_
  rw [show (4294967296 : Nat) = 2 ^ 32 by decide,← Nat.pow_mul]
  exact Nat.pow_le_pow_right (by omega) (by omega)
theorem qgx {n k : Nat} (h : (lim n).length ≤ k) : blen n ≤ 32 * k := by
  by_cases h0 : n = 0
  · subst h0; rw [Jm]; omega
  · have h1 := vl_lt (Qc n)
    rw [qx] at h1
    have h2 : n < 2 ^ (32 * k) := by
      refine Nat.lt_of_lt_of_le h1 ?_
      rw [show (4294967296 : Nat) = 2 ^ 32 by decide,← Nat.pow_mul]
      exact Nat.pow_le_pow_right (by omega) (by omega)
    rw [Qn h0]
    exact (Nat.log2_lt h0).2 h2
theorem Xi {n k : Nat} (h : n < 2 ^ k) : blen n ≤ k := by
  by_cases h0 : n = 0
  · subst h0; rw [Jm]; omega
  · rw [Qn h0]; exact (Nat.log2_lt h0).2 h
theorem qa7 {a : Int} {k : Nat} : blen (a * 2 ^ k).natAbs ≤ k + blen a.natAbs := by
  by_cases h : a.natAbs = 0
  · rw [Z5,h,Nat.mul_zero,Jm]; omega
  · rw [Z5,J8 h]; omega
theorem zB_1 (z : Int) : (zB z).1 = decide (z < 0) := rfl
theorem zB_2 (z : Int) : (zB z).2.1 = lim z.natAbs := rfl
theorem Lm_zB (z : Int) : Lm (zB z).2.1 := Qc _
theorem q14 {z : Int} {k : Nat} (h : blen z.natAbs ≤ k) : (zB z).2.1.length ≤ k / 32 + 1 := q9r h
theorem right_eq {m : Nat} (hm : 3000000 < m) {z : Int} (hz : blen z.natAbs ≤ 1000000) {k : Nat} (hk : k ≤ 1048576) : g141 m (zB z).1 (zB z).2.1 (k : Int) = some (zB (z / 2 ^ k),(),(),()) := by
  have hl := q14 hz
  obtain ⟨m',rfl⟩ : ∃ m',m = m' + 1 := ⟨m - 1,by omega⟩
  rw [g141,g141_L0,bif_decide,if_neg (by omega),Option.bind_some]
  dsimp only
  by_cases h0 : k = 0
  · subst h0
    rw [show w_i64 (0 - ((0 : Nat) : Int)) = ((0 : Nat) : Int) from by decide,qcr hm (Lm_zB z) (by omega) (by omega),Option.bind_some,zv_zB]
    dsimp only
    rw [show z * 2 ^ 0 = z / 2 ^ 0 by rw [Int.pow_zero,Int.mul_one,Int.ediv_one]]
  · rw [show w_i64 (0 - (k : Int)) = -(k : Int) by rw [w_i64_eq,wi (by omega) (by omega)]; omega,qdh hm (Lm_zB z) (by omega) (by omega) (by omega),Option.bind_some,zv_zB,Int.natCast_pow]
    rfl
theorem qh9 {z : Int} (h : z ≠ 0) : zB (z / 2 ^ tz z.natAbs) = (decide (z < 0),lim (z.natAbs / 2 ^ tz z.natAbs),()) := by
  obtain ⟨k1,k2,k3⟩ := qbu (n := z.natAbs) (by omega)
  have : z = ((if z < 0 then -1 else 1) * ((z.natAbs / 2 ^ tz z.natAbs : Nat) : Int)) * 2 ^ tz z.natAbs := by
    rw [Int.mul_assoc]
    have : (((z.natAbs / 2 ^ tz z.natAbs : Nat)) : Int) * 2 ^ tz z.natAbs = (z.natAbs : Int) := by
      conv => rhs; rw [k2]
      rw [Int.natCast_mul,Int.mul_comm,Int.natCast_pow]; rfl
    rw [this,qi8]
  have h2 : z / 2 ^ tz z.natAbs = (if z < 0 then -1 else 1) * ((z.natAbs / 2 ^ tz z.natAbs : Nat) : Int) := by
    conv => lhs; arg 1; rw [this]
    rw [Int.mul_ediv_cancel]
    have := q0w (tz z.natAbs); omega
  have h3 := lt_sg (z := z) k1
  have h4 := q95 (z := z) (q := z.natAbs / 2 ^ tz z.natAbs)
  rw [← h2] at h3 h4
  unfold zB
  rw [h4,decide_eq_decide.2 h3.symm]
theorem Qu {z : Int} : sgn z = 0 ↔ z = 0 := by unfold sgn; repeat' split
                                               all_goals omega
theorem Jq {n : Nat} : tz n ≤ blen n := by
  by_cases h : n = 0
  · subst h; rw [qaw]; omega
  · rw [q7i h]; omega
theorem qg9 {m : Nat} (hm : 3000000 < m) {z : Int} (hz : blen z.natAbs ≤ 900000) {e : Int} (h1 : -1000000000 ≤ e) (h2 : e ≤ 1000000000) : g80 m false (zB z).1 (zB z).2.1 e = some ((mkD z e,decide (OkD z e),()),(),()) := by
  have hl := q14 hz
  have hS : Sz (zB z).2.1 := ⟨Lm_zB z,by omega⟩
  have hv : vl (zB z).2.1 = z.natAbs := qx _
  rw [g80,cond_false,qj5 (by omega) hS,Option.bind_some,zv_zB]
  dsimp only
  rw [q1v (by omega) hS,Option.bind_some,zv_zB,bif_eq]
  dsimp only
  by_cases h : z = 0
  · subst h; rw [if_pos (Qu.2 rfl)]; rfl
  · have hn : z.natAbs ≠ 0 := by omega
    have ht := Jq (n := z.natAbs)
    rw [if_neg (fun e => h (Qu.1 e)),Zz (by omega) hS (by omega),Option.bind_some,q4l (by omega) hS,Option.bind_some,hv]
    dsimp only
    rw [show w_i64 (65536 - ((blen z.natAbs : Nat) : Int)) = 65536 - ((blen z.natAbs : Nat) : Int) by rw [w_i64_eq,wi (by omega) (by omega)],
      show w_i64 ((-65536) - ((tz z.natAbs : Nat) : Int)) = (-65536) - ((tz z.natAbs : Nat) : Int) by rw [w_i64_eq,wi (by omega) (by omega)],
      show w_i64 (e + ((tz z.natAbs : Nat) : Int)) = e + ((tz z.natAbs : Nat) : Int) by rw [w_i64_eq,wi (by omega) (by omega)],
      bif_decide,bif_decide,right_eq hm (by omega) (by omega),Option.bind_some,qh9 h]
    by_cases hk : OkD z e
    · rcases X3.1 hk with h0 | ⟨k1,k2⟩
      · exact absurd h0 h
      · rw [if_neg (by omega),if_neg (by omega),decide_eq_true hk]
        unfold mkD
        rw [if_neg h,if_neg (by omega)]
    · have hk2 : ¬ (e + (blen z.natAbs : Int) ≤ 65536 ∧ -65536 ≤ e + (tz z.natAbs : Int)) := fun c => hk (X3.2 (Or.inr c))
      rw [Ji hk,decide_eq_false hk]
      by_cases c : e > 65536 - ((blen z.natAbs : Nat) : Int)
      · rw [if_pos c]; rfl
      · rw [if_neg c,if_pos (by omega)]; rfl
theorem q7b {m : Nat} (hm : 3000000 < m) {z : Int} (hz : blen z.natAbs ≤ 900000) {e : Int} (h1 : -1000000000 ≤ e) (h2 : e ≤ 1000000000) : g28 m (zB z).1 (zB z).2.1 e = some (mkD z e,(),(),()) := by
  rw [g28,qg9 hm hz h1 h2]; rfl
/- The normal form is normal. -/
theorem qey {m : Nat} (hm : 3000000 < m) {z e : Int} (h : OkD z e) : g80 m (mkD z e).1 (mkD z e).2.1 (mkD z e).2.2.1 (mkD z e).2.2.2.1 = some ((mkD z e,true,()),(),()) := by
  obtain ⟨w,f,k⟩ := h.nf
  rw [k.md]
  have := qg9 hm (z := w) (by have := k.len; omega) (e := f) (by have := k.lo; omega) (by have := k.hi; omega)
  rw [zB_1,zB_2] at this
  rw [this,k.eq.mk,k.md,decide_eq_true k.ok]
theorem X4 {z e : Int} (h : OkD z e) : ∃ w f,NF z e w f ∧ (mkD z e).2.1 = (zB w).1 ∧ (mkD z e).2.2.1 = (zB w).2.1 ∧ (mkD z e).2.2.2.1 = f := by
  obtain ⟨w,f,k⟩ := h.nf
  refine ⟨w,f,k,?_⟩
  rw [k.md]
  exact ⟨rfl,rfl,rfl⟩
theorem NF.Sz {z e w f : Int} (h : NF z e w f) : Vs.F.Sz (zB w).2.1 := ⟨Lm_zB w,by have := q14 h.len; omega⟩
theorem NF.sgn {z e w f : Int} (h : NF z e w f) : Vs.F.sgn w = Vs.F.sgn z := h.eq.sgn
theorem qhk {m : Nat} (hm : 3000000 < m) {z e : Int} (h : OkD z e) : g77 m (mkD z e).1 (mkD z e).2.1 (mkD z e).2.2.1 (mkD z e).2.2.2.1 = some (sgn z,(),()) := by
  obtain ⟨w,f,k,k1,k2,k3⟩ := X4 h
  rw [g77,qey hm h,Option.bind_some]
  dsimp only
  rw [k1,k2,q1v (by omega) k.Sz,Option.bind_some,zv_zB,k.sgn]
end Go.Vs.F

/-! MxCd -/
set_option linter.unusedVariables false
set_option linter.unusedSimpArgs false
namespace Go.Vs.F
def upB (neg : Bool) (half : Int) (odd : Bool) (mode : Int) : Bool :=
  if mode = 1 then neg else if mode = 2 then !neg else if mode = 3 then false else decide (0 < half) || (decide (half = 0) && odd)
def halfC (v n : Nat) (more : Bool) : Int :=
  if 2 * (v % 2 ^ n) < 2 ^ n then -1 else if 2 * (v % 2 ^ n) = 2 ^ n ∧ more = false then 0 else 1
def cutN (neg : Bool) (v n : Nat) (more : Bool) (mode : Int) : Nat :=
  if v % 2 ^ n = 0 ∧ more = false then v / 2 ^ n else v / 2 ^ n + (if upB neg (halfC v n more) (v / 2 ^ n % 2 == 1) mode then 1 else 0)
def sgnF (neg : Bool) (f : Int) : Int := if neg then f + 9223372036854775808 else f
def overF (neg : Bool) (mode : Int) : Int :=
  if mode = 3 ∨ (mode = 1 ∧ neg = false) ∨ (mode = 2 ∧ neg = true) then sgnF neg 9218868437227405311 else sgnF neg 9218868437227405312
def packF (neg : Bool) (n : Nat) (unit mode : Int) : Int :=
  if n = 9007199254740992 then (if unit + 1076 ≥ 2047 then overF neg mode else sgnF neg ((unit + 1076) * 4503599627370496))
  else if n < 4503599627370496 then sgnF neg (n : Int)
  else if unit + 1075 ≥ 2047 then overF neg mode else sgnF neg ((unit + 1075) * 4503599627370496 + ((n : Int) - 4503599627370496))
def unitF (v : Nat) (e : Int) : Int := max (e + (blen v : Int) - 53) (-1074)
def multF (neg : Bool) (v : Nat) (e : Int) (more : Bool) (mode : Int) : Nat :=
  if unitF v e ≤ e then v * 2 ^ (e - unitF v e).toNat else cutN neg v (unitF v e - e).toNat more mode
def q0a (neg : Bool) (v : Nat) (e : Int) (more : Bool) (mode : Int) : Int := packF neg (multF neg v e more mode) (unitF v e) mode
theorem qii {neg : Bool} {v n : Nat} {more : Bool} {mode : Int} : cutN neg v n more mode ≤ v / 2 ^ n + 1 := by
  unfold cutN; split
  · omega
  · split <;> omega
theorem q76 (v : Nat) (e : Int) : -1074 ≤ unitF v e := by unfold unitF; omega
theorem q6v {neg : Bool} {v : Nat} {e : Int} {more : Bool} {mode : Int} : multF neg v e more mode ≤ 9007199254740992 := by
  unfold multF
  have hb := q2h v
  split
  · rename_i h
    have h1 : (blen v : Int) + (e - unitF v e) ≤ 53 := by unfold unitF at *; omega
    have h2 : v * 2 ^ (e - unitF v e).toNat ≤ 2 ^ blen v * 2 ^ (e - unitF v e).toNat := Nat.mul_le_mul_right _ (Nat.le_of_lt hb)
    rw [← Nat.pow_add] at h2
    have h3 : 2 ^ (blen v + (e - unitF v e).toNat) ≤ 2 ^ 53 := Nat.pow_le_pow_right (by omega) (by omega)
    have : (2 : Nat) ^ 53 = 9007199254740992 := by decide
    omega
  · rename_i h
    refine Nat.le_trans qii ?_
    have h1 : (blen v : Int) ≤ 53 + (unitF v e - e) := by unfold unitF at *; omega
    have : v / 2 ^ (unitF v e - e).toNat < 2 ^ 53 := by
      rw [Nat.div_lt_iff_lt_mul (Nat.pow_pos (by omega)),← Nat.pow_add]
      exact Nat.lt_of_lt_of_le hb (Nat.pow_le_pow_right (by omega) (by omega))
    have : (2 : Nat) ^ 53 = 9007199254740992 := by decide
    omega
/- Beyond the range. -/
theorem qbj {neg : Bool} {v : Nat} (hv : v ≠ 0) {e : Int} {more : Bool} {mode : Int} (h : 1024 ≤ e + (blen v : Int) - 1) : q0a neg v e more mode = overF neg mode := by
  have hu : unitF v e = e + (blen v : Int) - 53 := by unfold unitF; omega
  have hb := qes hv
  have hp : 0 < blen v := by rw [Qn hv]; omega
  have hge : 4503599627370496 ≤ multF neg v e more mode := by
    have c52 : (2 : Nat) ^ 52 = 4503599627370496 := by decide
    unfold multF
    split
    · rename_i h2
      have h3 : 2 ^ (blen v - 1) * 2 ^ (e - unitF v e).toNat ≤ v * 2 ^ (e - unitF v e).toNat := Nat.mul_le_mul_right _ hb
      rw [← Nat.pow_add,show blen v - 1 + (e - unitF v e).toNat = 52 by omega] at h3
      omega
    · rename_i h2
      have h3 : 2 ^ 52 ≤ v / 2 ^ (unitF v e - e).toNat := by
        rw [Nat.le_div_iff_mul_le (Nat.pow_pos (by omega)),← Nat.pow_add]
        refine Nat.le_trans ?_ hb
        exact Nat.pow_le_pow_right (by omega) (by omega)
      have : v / 2 ^ (unitF v e - e).toNat ≤ cutN neg v (unitF v e - e).toNat more mode := by unfold cutN; split <;> omega
      omega
  unfold q0a packF
  by_cases h1 : multF neg v e more mode = 9007199254740992
  · rw [if_pos h1,if_pos (by omega)]
  · rw [if_neg h1,if_neg (by omega),if_pos (by omega)]
/-! ### Numbers that fit -/
def fitI (z : Int) : Int × Bool × Unit := if -9223372036854775808 ≤ z ∧ z < 9223372036854775808 then (z,true,()) else (0,false,())
theorem take_snoc {l : List Int} {k : Nat} (hk : k < l.length) {x : Int} (ex : l.getD k 0 = x) : l.take (k + 1) = l.take k ++ [x] := by
  rw [List.take_add_one,← ex,List.getD,List.getElem?_eq_getElem hk]; rfl
theorem qfm {l : List Int} (hl : Lm l) (h2 : l.length ≤ 2) {k x : Nat} (hk : k < l.length) (ex : l.getD k 0 = (x : Int)) (hx : x < 4294967296) :
    b_or_ .u64 ((vl (l.take k) : Nat) : Int) (shl_ .u64 (x : Int) ((32 * k : Nat) : Int)) = ((vl (l.take (k + 1)) : Nat) : Int) := by
  have hL := vl_lt (l := l.take k) fun y hy => hl y (List.mem_of_mem_take hy)
  rw [List.length_take,show min k l.length = k by omega] at hL
  have hP : (4294967296 : Nat) ^ k = 2 ^ (32 * k) := by rw [show (4294967296 : Nat) = 2 ^ 32 by decide,← Nat.pow_mul]
  rw [take_snoc hk ex,Z7,List.length_take,show min k l.length = k by omega]
  have hb : x * 2 ^ (32 * k) < 18446744073709551616 := by
    have : k = 0 ∨ k = 1 := by omega
    rcases this with rfl | rfl
    · simp; omega
    · simp; omega
  have hc : vl (l.take k) < 18446744073709551616 := by
    have : k = 0 ∨ k = 1 := by omega
    rcases this with rfl | rfl
    · simp [vl]
    · simp at hL; omega
  rw [shl64 (by omega) hb,or64 hc hb,Nat.or_comm,Nat.mul_comm,← Nat.two_pow_add_eq_or_of_lt (by omega),Nat.add_comm,hP]
theorem q72 {n : Nat} : (lim n).length ≤ 2 ↔ n < 18446744073709551616 := by
  constructor
  · intro h
    have := vl_lt (Qc n)
    rw [qx] at this
    have h2 : 4294967296 ^ (lim n).length ≤ 4294967296 ^ 2 := Nat.pow_le_pow_right (by omega) h
    omega
  · intro h
    exact Yg (by omega)
end Go.Vs.F

/-! MxCe -/
set_option linter.unusedVariables false
set_option linter.unusedSimpArgs false
namespace Go.Vs.F
theorem q09 (v : Nat) : zB (v : Int) = (false,lim v,()) := by
  unfold zB
  rw [Int.natAbs_natCast,show decide ((v : Int) < 0) = false by simp]
theorem SzB {z : Int} (h : blen z.natAbs ≤ 1000000) : Sz (zB z).2.1 := ⟨Lm_zB z,by have := q14 h; omega⟩
theorem SzN {v : Nat} (h : blen v ≤ 1000000) : Sz (zB (v : Int)).2.1 := SzB (by rwa [Int.natAbs_natCast])
theorem q27 {v n : Nat} {more : Bool} (h : 2 * (v % 2 ^ n) < 2 ^ n) : halfC v n more = -1 := by unfold halfC; rw [if_pos h]
def sg (neg : Bool) (n : Nat) : Int := if neg then -(n : Int) else (n : Int)
theorem q1u {n : Nat} (h : n ≠ 0) : tz n = 0 ↔ n % 2 = 1 := by
  constructor
  · intro h2
    obtain ⟨q,h3,h4⟩ := q59 h
    rw [h2,Nat.pow_zero,Nat.one_mul] at h3
    omega
  · exact qc8
theorem qi2 {f : Int} (h1 : 0 ≤ f) (h2 : f < 9223372036854775808) : b_or_ .u64 f 9223372036854775808 = f + 9223372036854775808 := by
  obtain ⟨n,rfl⟩ : ∃ n : Nat,f = (n : Int) := ⟨f.toNat,by omega⟩
  have h := or64 (a := n) (b := 9223372036854775808) (by omega) (by omega)
  rw [show ((9223372036854775808 : Nat) : Int) = 9223372036854775808 from rfl] at h
  rw [h]
  have := Nat.two_pow_add_eq_or_of_lt (i := 63) (b := n) (by omega) 1
  rw [Nat.or_comm,show (9223372036854775808 : Nat) = 2 ^ 63 * 1 by decide,← this]
  omega
theorem q3f {q : Int} {r : Nat} (h1 : 0 ≤ q) (h2 : q < 2048) (h3 : r < 4503599627370496) : b_or_ .u64 (shl_ .u64 (w_u64 (w_i64 q)) 52) (r : Int) = q * 4503599627370496 + (r : Int) := by
  obtain ⟨n,rfl⟩ : ∃ n : Nat,q = (n : Int) := ⟨q.toNat,by omega⟩
  have e1 : shl_ .u64 (n : Int) 52 = ((n * 2 ^ 52 : Nat) : Int) := shl64 (a := n) (k := 52) (by omega) (by omega)
  rw [w_i64_eq,wi (by omega) (by omega),w64n (by omega),e1,or64 (by omega) (by omega)]
  have := Nat.two_pow_add_eq_or_of_lt (i := 52) (b := r) (by omega) n
  rw [Nat.mul_comm,← this]
  omega
theorem qhx {a b : Int} : (if b > a then b else a) = max a b := by split <;> omega
def Xr (d : Bool × Bool × List Int × Int × Unit) (mode : Int) : Int :=
  if d.1 then 9221120237041090560 else if d.2.2.1 = [] then 0 else q0a d.2.1 (vl d.2.2.1) d.2.2.2.1 false mode
end Go.Vs.F

/-! MxCf -/
set_option linter.unusedVariables false
set_option linter.unusedSimpArgs false
namespace Go.Vs.F
/- A float's parts. -/
def fexp (f : Int) : Int := f / 4503599627370496 % 2048
def ffrac (f : Int) : Int := f % 4503599627370496
def fneg (f : Int) : Bool := decide (9223372036854775808 ≤ f)
def ofZ (f : Int) : Int := (if fneg f then -1 else 1) * (if fexp f = 0 then ffrac f else ffrac f + 4503599627370496)
def ofE (f : Int) : Int := if fexp f = 0 then -1074 else fexp f - 1075
def FinF (f : Int) : Prop := fexp f ≠ 2047
instance {f : Int} : Decidable (FinF f) := inferInstanceAs (Decidable (_ ≠ _))
def U64 (f : Int) : Prop := 0 ≤ f ∧ f < 18446744073709551616
def ofD (f : Int) : Bool × Bool × List Int × Int × Unit := if FinF f then mkD (ofZ f) (ofE f) else (true,false,[],0,())
theorem q4v (f : Int) : 0 ≤ fexp f ∧ fexp f < 2048 := by unfold fexp; omega
theorem q3d (f : Int) : 0 ≤ ffrac f ∧ ffrac f < 4503599627370496 := by unfold ffrac; omega
theorem parts_eq {m : Nat} {f : Int} (h : U64 f) : g81 m f = some ((fexp f,ffrac f,()),(),()) := by
  obtain ⟨n,rfl⟩ : ∃ n : Nat,f = (n : Int) := ⟨f.toNat,by have := h.1; omega⟩
  have hn : n < 18446744073709551616 := by have := h.2; omega
  have e1 : shr_ .u64 (n : Int) 52 = ((n / 4503599627370496 : Nat) : Int) := shr64 (a := n) (k := 52) (by omega)
  have e2 := and64 (a := n / 4503599627370496) (b := 2047) (by omega) (by omega)
  have e3 := and64 (a := n) (b := 4503599627370495) hn (by omega)
  rw [show ((2047 : Nat) : Int) = 2047 from rfl,show (2047 : Nat) = 2 ^ 11 - 1 by decide,Nat.and_two_pow_sub_one_eq_mod] at e2
  rw [show ((4503599627370495 : Nat) : Int) = 4503599627370495 from rfl,show (4503599627370495 : Nat) = 2 ^ 52 - 1 by decide,Nat.and_two_pow_sub_one_eq_mod] at e3
  rw [g81,e1,e2,e3,w_i64_eq,wi (by omega) (by omega)]
  unfold fexp ffrac
  congr 3 <;> omega
theorem qfj {m : Nat} {f : Int} (h : U64 f) : g58 m f = some (decide (FinF f),(),()) := by
  rw [g58,parts_eq h,Option.bind_some]
  dsimp only
  by_cases c : FinF f
  · rw [decide_eq_true c,show (fexp f != 2047) = true by simpa [FinF] using c]
  · rw [decide_eq_false c,show (fexp f != 2047) = false by simpa [FinF] using c]
theorem qis {n : Nat} (h : n < 18446744073709551616) : qw .u64 (n : Int) 9223372036854775808 = if 9223372036854775808 ≤ n then 9223372036854775808 else 0 := by
  have e := and64 (a := n) (b := 9223372036854775808) h (by omega)
  rw [show ((9223372036854775808 : Nat) : Int) = 9223372036854775808 from rfl] at e
  rw [e]
  have hb : n &&& 9223372036854775808 = if n.testBit 63 then 9223372036854775808 else 0 := by
    rw [show (9223372036854775808 : Nat) = 2 ^ 63 by decide]
    apply Nat.eq_of_testBit_eq
    intro i
    rw [Nat.testBit_and,Nat.testBit_two_pow]
    by_cases c : 63 = i
    · subst c
      cases hb : n.testBit 63
      · simp
      · rw [if_pos rfl,Nat.testBit_two_pow]; simp
    · cases hb : n.testBit 63
      · simp [c]
      · rw [if_pos rfl,Nat.testBit_two_pow]; simp [c]
  have ht : n.testBit 63 = decide (9223372036854775808 ≤ n) := by
    rw [Nat.testBit_eq_decide_div_mod_eq]
    rw [show (2 : Nat) ^ 63 = 9223372036854775808 by decide]
    by_cases c : 9223372036854775808 ≤ n
    · rw [decide_eq_decide]; omega
    · rw [decide_eq_decide]; omega
  rw [hb,ht]
  by_cases c : 9223372036854775808 ≤ n
  · simp [c]
  · simp [c]
theorem q50 {m : Nat} {f : Int} (h : U64 f) : g83 m f = some (fneg f,(),()) := by
  obtain ⟨n,rfl⟩ : ∃ n : Nat,f = (n : Int) := ⟨f.toNat,by have := h.1; omega⟩
  have hn : n < 18446744073709551616 := by have := h.2; omega
  rw [g83,qis hn]
  unfold fneg
  by_cases c : 9223372036854775808 ≤ n
  · rw [if_pos c,show decide ((9223372036854775808 : Int) ≤ (n : Int)) = true by rw [decide_eq_true_eq]; omega]; rfl
  · rw [if_neg c,show decide ((9223372036854775808 : Int) ≤ (n : Int)) = false by rw [decide_eq_false_iff_not]; omega]; rfl
theorem q8x {x : Int} (h1 : 0 ≤ x) (h2 : x < 4503599627370496) : b_or_ .u64 x 4503599627370496 = x + 4503599627370496 := by
  obtain ⟨n,rfl⟩ : ∃ n : Nat,x = (n : Int) := ⟨x.toNat,by omega⟩
  have h := or64 (a := n) (b := 4503599627370496) (by omega) (by omega)
  rw [show ((4503599627370496 : Nat) : Int) = 4503599627370496 from rfl] at h
  rw [h]
  have := Nat.two_pow_add_eq_or_of_lt (i := 52) (b := n) (by omega) 1
  rw [Nat.or_comm,show (4503599627370496 : Nat) = 2 ^ 52 * 1 by decide,← this]
  omega
theorem q7h (f : Int) : blen (ofZ f).natAbs ≤ 53 := by
  apply Xi
  have h1 := q3d f
  have c : (2 : Nat) ^ 53 = 9007199254740992 := by decide
  unfold ofZ
  cases fneg f <;> (split <;> simp <;> omega)
theorem q5w {f : Int} : -1074 ≤ ofE f ∧ ofE f ≤ 972 := by
  have := q4v f
  unfold ofE; split <;> omega
theorem Of_eq {m : Nat} (hm : 3000000 < m) {f : Int} (h : U64 f) : g29 m f = some (ofD f,(),()) := by
  rw [g29,parts_eq h,Option.bind_some,bif_eq,bif_eq]
  dsimp only
  have h1 := q4v f
  have h2 := q3d f
  have hl := q7h f
  have he := q5w (f := f)
  unfold ofD
  by_cases c : fexp f = 2047
  · rw [if_pos c,if_neg (fun h => h c)]
  · have hF : FinF f := c
    rw [if_neg c,if_pos hF,q50 h,q8x h2.1 h2.2]
    have run : ∀ (q : Int) (ex : Int),0 ≤ q → q < 9007199254740992 → ofZ f = (if fneg f then -1 else 1) * q → ofE f = ex →
        ((g82 m (w_i64 q)).bind fun y2 => (some (fneg f,(),()) : Option (Bool × Unit × Unit)).bind fun y3 => bif y3.1 then
          (g84 m y2.1.1 y2.1.2.1).bind fun y4 => (g28 m y4.1.1 y4.1.2.1 ex).bind fun y5 => some ((y5.1.1,y5.1.2.1,y5.1.2.2.1,y5.1.2.2.2.1,()),((),()))
        else (g28 m y2.1.1 y2.1.2.1 ex).bind fun y6 => some ((y6.1.1,y6.1.2.1,y6.1.2.2.1,y6.1.2.2.2.1,()),((),()))) = some (mkD (ofZ f) (ofE f),(),()) := by
      intro q ex q1 q2 eq ee
      have hq : blen q.natAbs ≤ 53 := by
        rw [eq] at hl
        cases hf : fneg f <;> rw [hf] at hl <;> simpa using hl
      rw [w_i64_eq,wi (by omega) (by omega),q2a (by omega) (by omega) (by omega),Option.bind_some,Option.bind_some]
      dsimp only
      cases hf : fneg f with
      | false =>
        rw [hf] at eq
        rw [cond_false,q7b hm (by omega) (by omega) (by omega),eq,ee,if_neg (by simp),Int.one_mul]; rfl
      | true =>
        rw [hf] at eq
        rw [cond_true,q9l (by omega) (SzB (by omega)),zv_zB,Option.bind_some]
        dsimp only
        rw [q7b hm (by rw [Int.natAbs_neg]; omega) (by omega) (by omega),eq,ee,if_pos rfl,Int.neg_one_mul]; rfl
    by_cases c0 : fexp f = 0
    · rw [if_pos c0]
      exact run _ _ h2.1 (by omega) (by unfold ofZ; rw [if_pos c0]) (by unfold ofE; rw [if_pos c0])
    · rw [if_neg c0,show w_i64 (fexp f - 1075) = fexp f - 1075 by rw [w_i64_eq,wi (by omega) (by omega)]]
      exact run _ _ (by omega) (by omega) (by unfold ofZ; rw [if_neg c0]) (by unfold ofE; rw [if_neg c0])
theorem qbc {f : Int} (h : U64 f) : finB f = decide (FinF f) := by
  have e1 := qfj (m := 0) h
  rw [q46] at e1
  have := Option.some.inj e1
  exact (Prod.mk.inj this).1
/- A finite float is valid. -/
theorem qek {f : Int} (h : FinF f) : OkD (ofZ f) (ofE f) := by
  have hl := q7h f
  have he := q5w (f := f)
  exact X3.2 (Or.inr ⟨by omega,by omega⟩)
end Go.Vs.F

/-! MxCg -/
set_option linter.unusedVariables false
set_option linter.unusedSimpArgs false
namespace Go.Vs.F
abbrev badD : Bool × Bool × List Int × Int × Unit := (true,false,[],0,())
theorem Yt {z e : Int} (h : ¬ OkD z e) : mkD z e = badD := Ji h
theorem NF.lim {z e w f : Int} (h : NF z e w f) : (zB w).2.1.length ≤ 10000 := by have := q14 h.len; omega
theorem qh2 {w f b : Int} (h : b ≤ f) : blen (sc w f b).natAbs ≤ (f - b).toNat + blen w.natAbs := by
  unfold sc; exact qa7
def Qk (n : Int) : Int := max (min n 262144) (-262144)
theorem q8w {z e n : Int} (hz : z ≠ 0) (h : OkD z e) (hn : 262144 ≤ n ∨ n ≤ -262144) : ¬ OkD z (e + n) := by
  intro h2
  have hb : 1 ≤ blen z.natAbs := by rw [Qn (by omega)]; omega
  have ht := Jq (n := z.natAbs)
  rcases X3.1 h with h | h
  · exact hz h
  · rcases X3.1 h2 with h2 | h2
    · exact hz h2
    · have hbt := q7i (n := z.natAbs) (by omega)
      obtain ⟨w,f,k⟩ := (X3.2 (Or.inr h) : OkD z e).nf
      have := k.len
      have hq := qbu (n := z.natAbs) (by omega)
      have hmk : mkD z e = (false,decide (z < 0),lim (z.natAbs / 2 ^ tz z.natAbs),e + (tz z.natAbs : Int),()) := by
        unfold mkD; rw [if_neg hz,if_neg (by omega)]
      have hf : f = e + (tz z.natAbs : Int) := by
        have := k.md; rw [hmk] at this
        simp only [Prod.mk.injEq] at this
        exact this.2.2.2.1.symm
      have := k.lo; have := k.hi
      omega
end Go.Vs.F
