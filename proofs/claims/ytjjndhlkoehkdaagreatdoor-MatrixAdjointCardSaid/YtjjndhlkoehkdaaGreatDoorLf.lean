/- Exact floats of dyads: program and document. Scaling a matrix: program and document. Scale and Shift of a matrix: program and document agree. Shifting a matrix: program and document agree; the law MatrixScales. Numbers that floats have: rounding is exact. Made values, and shifting exactly. The law MatrixShifted. The law MatrixShifted, joined. The integers of a matrix. The law MatrixWhole. Sums of dyads; products of a matrix and a vector. Products of a matrix and a vector (printed by a small program: both directions are alike). The law MatrixAdjoint. -/
import Derived.Test.YtjjndhlkoehkdaaGreatDoorLe
import Derived.Test.YtjjndhlkoehkdaaGreatDoorLb

/-! MxEa -/
set_option linter.unusedVariables false
set_option linter.unusedSimpArgs false
namespace Go.Vs.F
theorem q3f {neg : Bool} {f : Int} (h1 : 0 ≤ f) (h2 : f < 9223372036854775808) : U64 (sgnF neg f) := by
  unfold sgnF U64; cases neg <;> simp <;> omega
theorem q9f {neg : Bool} {mode : Int} : U64 (overF neg mode) := by
  unfold overF; split <;> exact q3f (by omega) (by omega)
theorem qfu {neg : Bool} {n : Nat} {u mode : Int} (h1 : -1074 ≤ u) (hn : n ≤ 9007199254740992) : U64 (packF neg n u mode) := by
  unfold packF
  split
  · split
    · exact q9f
    · exact q3f (by omega) (by omega)
  · split
    · exact q3f (by omega) (by omega)
    · split
      · exact q9f
      · exact q3f (by omega) (by omega)
theorem qe8 {neg : Bool} {v : Nat} {e : Int} {more : Bool} {mode : Int} : U64 (Zb neg v e more mode) := qfu (q88 v e) q7o
theorem q2d {d : Bool × Bool × List Int × Int × Unit} {mode : Int} : U64 (Ql d mode) := by
  unfold Ql
  split
  · exact ⟨by omega,by omega⟩
  · split
    · exact ⟨by omega,by omega⟩
    · exact qe8
def I64 (a : Int) : Prop := -9223372036854775808 ≤ a ∧ a < 9223372036854775808
end Go.Vs.F

/-! MxEb -/
set_option linter.unusedVariables false
set_option linter.unusedSimpArgs false
namespace Go.Vs.F
end Go.Vs.F

/-! MxEc -/
set_option linter.unusedVariables false
set_option linter.unusedSimpArgs false
set_option maxRecDepth 100000
namespace Go.Vs.F
/- A result of at most that size. -/
section
variable {R C : Nat} {S I V : List Int}
theorem qdb (hM : MatOK R C S I) (hV : V.length = I.length) : ∀ (d k : Nat),k + d = C → ∀ e ∈ ents S I V d k,e.2.2 ∈ V
  | 0,k,h => by intro e he; cases he
  | d + 1,k,h => by
    intro e he
    rw [ents] at he
    rcases List.mem_append.1 he with he | he
    · unfold Xe at he
      obtain ⟨t,ht,rfl⟩ := List.mem_map.1 he
      rw [List.mem_range'_1] at ht
      have h1 := hM.st.rng (j := k + 1) (by omega)
      have h2 := hM.st.rng (j := k) (by omega)
      exact Qz (by omega)
    · exact qdb hM hV d (k + 1) (by omega) e he
/- What stands at a place. -/
/- Both look-ups. -/
end
end Go.Vs.F

/-! MxEd -/
set_option linter.unusedVariables false
set_option linter.unusedSimpArgs false
set_option maxRecDepth 100000
namespace Go.Vs.F
def valF (f : Int) : Int := sc (ofZ f) (ofE f) (-1074)
theorem q6y {f : Int} (h : FinF f) : ofD f = mkD (valF f) (-1074) := by
  have he := q5n (f := f)
  unfold ofD valF
  rw [if_pos h,qdm (by omega)]
theorem val_ok {f : Int} (h : FinF f) : OkD (valF f) (-1074) := by
  have he := q5n (f := f)
  have := qkj h
  unfold OkD valF at *
  rwa [qdm (by omega)]
section
variable {R C : Nat} {S I V : List Int}
theorem MV.valU (h : MV R C S I V) (hU : ∀ x ∈ V,U64 x) {e : Ent} (he : e ∈ Go.Vs.F.ents S I V C 0) : U64 e.2.2 ∧ FinF e.2.2 := by
  have h1 := hU _ (qdb h.ok h.vl C 0 (by omega) e he)
  obtain ⟨_,_,h3⟩ := Jy h.ents e he
  rw [q4o h1] at h3
  exact ⟨h1,of_decide_eq_true h3⟩
theorem qhv : U64 0 := ⟨by omega,by omega⟩
theorem q73 : FinF 0 := by unfold FinF fexp; decide
end
end Go.Vs.F
namespace Go.Vs.F
open Go.Vs
end Go.Vs.F

/-! MxEe -/
set_option linter.unusedVariables false
set_option linter.unusedSimpArgs false
namespace Go.Vs.F
theorem qj0 {neg : Bool} {q r : Int} (h1 : 0 ≤ q) (h2 : q < 2048) (h3 : 0 ≤ r) (h4 : r < 4503599627370496) :
    fexp (sgnF neg (q * 4503599627370496 + r)) = q ∧ ffrac (sgnF neg (q * 4503599627370496 + r)) = r ∧ fneg (sgnF neg (q * 4503599627370496 + r)) = neg := by
  unfold fexp ffrac fneg sgnF
  cases neg <;> simp <;> omega
/- Fits a float exactly. -/
def Rep (z e : Int) : Prop := z = 0 ∨ ∃ w f,NF z e w f ∧ blen w.natAbs ≤ 53 ∧ -1074 ≤ f ∧ f + (blen w.natAbs : Int) ≤ 1024
theorem q43 {z e : Int} (h : Rep z e) (mode : Int) : U64 (Ql (mkD z e) mode) ∧ FinF (Ql (mkD z e) mode) ∧ EqD (ofZ (Ql (mkD z e) mode)) (ofE (Ql (mkD z e) mode)) z e := by
  refine ⟨q2d,?_⟩
  rcases h with rfl | ⟨w,f,k,h1,h2,h3⟩
  · have : Ql (mkD 0 e) mode = 0 := rfl
    rw [this]
    refine ⟨q73,?_⟩
    have : ofZ 0 = 0 := by unfold ofZ fexp ffrac fneg; decide
    rw [this]; exact EqD.zero _ _
  · by_cases hw : w = 0
    · subst hw
      have hz : z = 0 := by
        have := k.eq.sgn
        rw [show sgn 0 = 0 from rfl] at this
        exact Qw.1 this.symm
      subst hz
      have : Ql (mkD 0 e) mode = 0 := rfl
      rw [this]
      refine ⟨q73,?_⟩
      have : ofZ 0 = 0 := by unfold ofZ fexp ffrac fneg; decide
      rw [this]; exact EqD.zero _ _
    · have hv : w.natAbs ≠ 0 := by omega
      have hr : Ql (mkD z e) mode = Zb (decide (w < 0)) w.natAbs f false mode := by
        rw [k.md]; unfold Ql
        rw [if_neg (by simp),if_neg (fun h => hv (Zq.1 h))]
        show Zb _ (vl (lim w.natAbs)) _ _ _ = _
        rw [qw]
      rw [hr]
      have hu : unitF w.natAbs f ≤ f := by unfold unitF; omega
      have hmu : multF (decide (w < 0)) w.natAbs f false mode = w.natAbs * 2 ^ (f - unitF w.natAbs f).toNat := by unfold multF; rw [if_pos hu]
      have hbn : blen (w.natAbs * 2 ^ (f - unitF w.natAbs f).toNat) = (f - unitF w.natAbs f).toNat + blen w.natAbs := by
        rw [Nat.mul_comm]; exact Yx hv
      unfold Zb
      rw [hmu]
      have hEq : EqD (sg (decide (w < 0)) (w.natAbs * 2 ^ (f - unitF w.natAbs f).toNat)) (unitF w.natAbs f) z e := by
        refine EqD.trans ⟨unitF w.natAbs f,by omega,hu,?_⟩ k.eq
        rw [q87]
        unfold sc sg
        rw [Int.natCast_mul,Int.natCast_pow]
        show (if decide (w < 0) = true then -(((w.natAbs : Nat) : Int) * 2 ^ (f - unitF w.natAbs f).toNat) else ((w.natAbs : Nat) : Int) * 2 ^ (f - unitF w.natAbs f).toNat) = w * 2 ^ (f - unitF w.natAbs f).toNat
        by_cases c : w < 0
        · rw [if_pos (by simpa using c),← Int.neg_mul,show -((w.natAbs : Nat) : Int) = w by omega]
        · rw [if_neg (by simpa using c),show ((w.natAbs : Nat) : Int) = w by omega]
      have hnpos : w.natAbs * 2 ^ (f - unitF w.natAbs f).toNat ≠ 0 := Nat.mul_ne_zero hv (by have := Nat.pow_pos (n := (f - unitF w.natAbs f).toNat) (show 0 < 2 by omega); omega)
      have hlt := Zl (w.natAbs * 2 ^ (f - unitF w.natAbs f).toNat)
      have hge := qao hnpos
      have hub : (unitF w.natAbs f = f + (blen w.natAbs : Int) - 53 ∧ -1074 ≤ f + (blen w.natAbs : Int) - 53) ∨ (unitF w.natAbs f = -1074 ∧ f + (blen w.natAbs : Int) - 53 < -1074) := by unfold unitF; omega
      generalize w.natAbs * 2 ^ (f - unitF w.natAbs f).toNat = n at *
      generalize unitF w.natAbs f = u at *
      generalize decide (w < 0) = neg at *
      have hb1 : 1 ≤ blen w.natAbs := by rw [Qp hv]; omega
      have c52 : (2 : Nat) ^ 52 = 4503599627370496 := by decide
      have c53 : (2 : Nat) ^ 53 = 9007199254740992 := by decide
      have hn53 : n < 9007199254740992 := by
        have : 2 ^ blen n ≤ 2 ^ 53 := Nat.pow_le_pow_right (by omega) (by omega)
        omega
      unfold packF
      rw [if_neg (by omega)]
      by_cases c : n < 4503599627370496
      · have hu2 : u = -1074 := by
          rcases hub with ⟨a,b⟩ | ⟨a,_⟩
          · have : 2 ^ 52 ≤ 2 ^ (blen n - 1) := Nat.pow_le_pow_right (by omega) (by omega)
            omega
          · exact a
        rw [if_pos c]
        obtain ⟨p1,p2,p3⟩ := qj0 (neg := neg) (q := 0) (r := (n : Int)) (by omega) (by omega) (by omega) (by omega)
        rw [Int.zero_mul,Int.zero_add] at p1 p2 p3
        have o1 : ofZ (sgnF neg (n : Int)) = sg neg n := by
          unfold ofZ; rw [p1,p2,p3,if_pos rfl]; unfold sg; cases neg <;> simp
        have o2 : ofE (sgnF neg (n : Int)) = u := by unfold ofE; rw [p1,if_pos rfl,hu2]
        refine ⟨by unfold FinF; rw [p1]; omega,?_⟩
        rw [o1,o2]; exact hEq
      · have hu2 : u + 1075 < 2047 := by
          rcases hub with ⟨a,b⟩ | ⟨a,b⟩ <;> omega
        have hu3 : -1074 ≤ u := by rcases hub with ⟨a,b⟩ | ⟨a,b⟩ <;> omega
        rw [if_neg c,if_neg (by omega)]
        obtain ⟨p1,p2,p3⟩ := qj0 (neg := neg) (q := u + 1075) (r := (n : Int) - 4503599627370496) (by omega) (by omega) (by omega) (by omega)
        have o1 : ofZ (sgnF neg ((u + 1075) * 4503599627370496 + ((n : Int) - 4503599627370496))) = sg neg n := by
          unfold ofZ; rw [p1,p2,p3,if_neg (show ¬ u + 1075 = 0 by omega),show (n : Int) - 4503599627370496 + 4503599627370496 = (n : Int) by omega]; unfold sg
          cases neg
          · simp
          · simp
        have o2 : ofE (sgnF neg ((u + 1075) * 4503599627370496 + ((n : Int) - 4503599627370496))) = u := by unfold ofE; rw [p1,if_neg (by omega)]; omega
        refine ⟨by unfold FinF; rw [p1]; omega,?_⟩
        rw [o1,o2]; exact hEq
/- A small multiple of a power of two fits. -/
theorem Rep.of_mul {z e k g : Int} (h : EqD k g z e) (hk : blen k.natAbs ≤ 53) (h1 : -1074 ≤ g) (h2 : g ≤ 900) : Rep z e := by
  by_cases hk0 : k = 0
  · subst hk0
    have := h.sgn
    rw [show sgn 0 = 0 from rfl] at this
    exact .inl (Qw.1 this.symm)
  · have hok : OkD k g := Xf.2 (.inr ⟨by omega,by have := Yj (n := k.natAbs); omega⟩)
    obtain ⟨w,f,n⟩ := hok.nf
    have hn : k.natAbs ≠ 0 := by omega
    have hmk : mkD k g = (false,decide (k < 0),lim (k.natAbs / 2 ^ tz k.natAbs),g + (tz k.natAbs : Int),()) := by
      unfold mkD; rw [if_neg hk0,if_neg (by have := Xf.1 hok; omega)]
    have hmd := n.md
    rw [hmk] at hmd
    simp only [Prod.mk.injEq] at hmd
    have hf : f = g + (tz k.natAbs : Int) := hmd.2.2.2.1.symm
    have hwn : w.natAbs = k.natAbs / 2 ^ tz k.natAbs := by rw [← qw w.natAbs,← hmd.2.2.1,qw]
    have hbt := q48 hn
    refine .inr ⟨w,f,⟨n.eq.trans h,by rw [← h.mk]; exact n.md,n.zero,n.odd,n.lo,n.hi⟩,?_,by omega,?_⟩
    · rw [hwn]; omega
    · rw [hwn]; omega
end Go.Vs.F

/-! MxEf -/
set_option linter.unusedVariables false
set_option linter.unusedSimpArgs false
set_option maxRecDepth 100000
namespace Go.Vs.F
theorem qg5 {m : Nat} (hm : 3000000 < m) {n : Int} (h : I64 n) : g89 m n = some (mkD n 0,(),()) := by
  have hb : blen n.natAbs ≤ 1000 := Nat.le_trans (Qm (k := 64) (by unfold I64 at h; omega)) (by omega)
  rw [g89,q0s (by omega) h.1 h.2,Option.bind_some]
  dsimp only
  rw [q7f hm (by omega) (by omega) (by omega)]; rfl
structure SmV (v : Int) : Prop where
  u : U64 v
  f : FinF v
  k : ∃ k : Int,EqD (ofZ v) (ofE v) k (-6) ∧ -32768 ≤ k ∧ k ≤ 32768
theorem SmV.fin {v : Int} (h : SmV v) : finB v = true := by rw [q4o h.u]; exact decide_eq_true h.f
theorem SmV.val {v : Int} (h : SmV v) : ∃ k : Int,EqD k (-6) (valF v) (-1074) ∧ -32768 ≤ k ∧ k ≤ 32768 := by
  obtain ⟨k,h1,h2⟩ := h.k
  have he := q5n (f := v)
  exact ⟨k,h1.symm.trans (EqD.sc (by omega)).symm,h2⟩
theorem qgn {m : Nat} (hm : 3000000 < m) {a e : Int} (ha : -100 ≤ a ∧ a ≤ 100) (he : -6 ≤ e ∧ e ≤ 6) : valC m a e = some (Ql (mkD a e) 0,(),()) := by
  have hok : OkD a 0 := by
    by_cases h : a = 0
    · subst h; exact qdu _
    · have hb := Qm (n := a.natAbs) (k := 7) (by omega)
      have := Yj (n := a.natAbs)
      exact Xf.2 (.inr ⟨by omega,by omega⟩)
  have hc : q3t e = e := by unfold q3t; omega
  rw [valC,qg5 hm ⟨by omega,by omega⟩,Option.bind_some]
  dsimp only
  rw [qe3 hm,if_pos hok,Option.bind_some,hc,Int.zero_add]
  dsimp only
  rw [qfn hm,Option.bind_some]
theorem qg0 {a e : Int} (ha : -8 ≤ a ∧ a ≤ 8) (he : -6 ≤ e ∧ e ≤ 6) : SmV (Ql (mkD a e) 0) := by
  have hr : Rep a e := Rep.of_mul (EqD.refl a e) (Nat.le_trans (Qm (k := 4) (by omega)) (by omega)) (by omega) (by omega)
  obtain ⟨h1,h2,h3⟩ := q43 hr 0
  refine ⟨h1,h2,a * 2 ^ (e + 6).toNat,h3.trans ⟨-6,by omega,by omega,?_⟩,?_⟩
  · rw [q87]; unfold sc; rw [show (e - -6).toNat = (e + 6).toNat by omega]
  · have hp : (2 : Int) ^ (e + 6).toNat ≤ 4096 := by
      have : (2 : Int) ^ (e + 6).toNat = ((2 ^ (e + 6).toNat : Nat) : Int) := by rw [Int.natCast_pow]; rfl
      rw [this]
      have h2 : 2 ^ (e + 6).toNat ≤ 2 ^ 12 := Nat.pow_le_pow_right (by omega) (by omega)
      have : (2 : Nat) ^ 12 = 4096 := by decide
      omega
    have hq := q03 (e + 6).toNat
    generalize (2 : Int) ^ (e + 6).toNat = P at *
    obtain ⟨a1,a2⟩ := ha
    constructor
    · have : -8 * P ≤ a * P := Int.mul_le_mul_of_nonneg_right a1 (by omega)
      omega
    · have : a * P ≤ 8 * P := Int.mul_le_mul_of_nonneg_right a2 (by omega)
      omega
theorem qd1 (n : Int) : ∃ v,SmV v ∧ ∀ m,3000000 < m → g34 m n = some (v,(),()) := by
  obtain ⟨k,hk,hp⟩ := Jv (a := n) (n := 17) (by omega) (by omega)
  obtain ⟨x,hx,hxl⟩ := qiz n
  have e17 : Int.tdiv (x : Int) 17 = ((x / 17 : Nat) : Int) := td x 17
  have e3 : Int.tdiv ((x / 17 : Nat) : Int) 3 = ((x / 17 / 3 : Nat) : Int) := td _ 3
  have e13 : Int.tmod ((x / 17 / 3 : Nat) : Int) 13 = ((x / 17 / 3 % 13 : Nat) : Int) := tm _ 13
  have l1 : x / 17 < 9223372036854775808 := by omega
  have l2 : x / 17 / 3 % 13 < 13 := by omega
  have key : ∀ m,g34 m n = if Int.tmod ((x / 17 : Nat) : Int) 3 = 0 then valC m ((k : Int) - 8) (((x / 17 / 3 % 13 : Nat) : Int) - 6) else valC m ((k : Int) - 8) 0 := by
    intro m
    rw [g34]
    rw [show g20 m n 17 = some ((k : Int),(),(),()) from hp m]
    simp only [Option.bind_some,w_u64,w_i64,hx,e17]
    rw [wu (by omega) (by omega),wi (n := ((x / 17 : Nat) : Int)) (by omega) (by omega),wi (n := (k : Int) - 8) (by omega) (by omega),e3,wi (n := ((x / 17 / 3 : Nat) : Int)) (by omega) (by omega),e13,wi (n := ((x / 17 / 3 % 13 : Nat) : Int) - 6) (by omega) (by omega),bif_eq]
    rfl
  by_cases h : Int.tmod ((x / 17 : Nat) : Int) 3 = 0
  · exact ⟨_,qg0 (a := (k : Int) - 8) (e := ((x / 17 / 3 % 13 : Nat) : Int) - 6) (by omega) (by omega),fun m hm => by rw [key,if_pos h,qgn hm (by omega) (by omega)]⟩
  · exact ⟨_,qg0 (a := (k : Int) - 8) (e := 0) (by omega) (by omega),fun m hm => by rw [key,if_neg h,qgn hm (by omega) (by omega)]⟩
/- The opposite number. -/
section
variable {R C : Nat} {S I V : List Int}
/- A look at a place. -/
end
end Go.Vs.F

/-! MxEg -/
set_option linter.unusedVariables false
set_option linter.unusedSimpArgs false
set_option maxRecDepth 100000
namespace Go.Vs.F
theorem q4r {es : List Ent} {r c : Nat} {x : Int} (h : x ∈ packV es r c) : ∃ e ∈ es,e.2.2 = x := by
  rw [← can_V] at h
  obtain ⟨e,he,rfl⟩ := List.mem_map.1 h
  obtain ⟨i,j,_,_,hl,rfl⟩ := q2k.1 he
  exact ⟨_,Zh hl,rfl⟩
section
variable {R C : Nat} {S I V : List Int}
end
end Go.Vs.F

/-! MxEh -/
set_option linter.unusedVariables false
set_option linter.unusedSimpArgs false
set_option maxRecDepth 100000
namespace Go.Vs.F
section
variable {N : Nat} {S0 I0 V0 S1 I1 V1 S2 I2 V2 : List Int} {s : Int}
end
end Go.Vs.F

/-! MxEi -/
set_option linter.unusedVariables false
set_option linter.unusedSimpArgs false
set_option maxRecDepth 100000
namespace Go.Vs.F
/- A finite value's normal form. -/
/- The least exponent. -/
/- The grid of integers. -/
end Go.Vs.F

/-! MxEj -/
set_option linter.unusedVariables false
set_option linter.unusedSimpArgs false
set_option maxRecDepth 100000
namespace Go.Vs.F
theorem qi3 : SmV 0 := ⟨qhv,q73,0,by
  have : ofZ 0 = 0 := by unfold ofZ fexp ffrac fneg; decide
  rw [this]; exact EqD.zero _ _,by omega,by omega⟩
section
variable {R C : Nat} {S I V : List Int}
end
section
variable {R C : Nat} {S I V : List Int}
end
theorem q67 {r c : Nat} (hr : r ≤ 200) (hc : c ≤ 200) (l : List Int) (hl : l.length ≤ 100000) (a0 a1 : Int) (a2 a3 a4 : List Int) : ∀ (d k : Nat) (es : List Ent),l.length - k ≤ d → k ≤ l.length + 2 → EntsOK r c es → (∀ e ∈ es,SmV e.2.2) → es.length ≤ k →
    ∃ es',EntsOK r c es' ∧ (∀ e ∈ es',SmV e.2.2) ∧ es'.length ≤ l.length + 2 ∧ ∀ m n,3000000 < m → d < n → g21_L0 m n (r : Int) (c : Int) l a0 a1 a2 a3 a4 es (k : Int) = some (.inl ((r : Int),(c : Int),(a0,a1,a2,a3,a4,()),es',()))
  | d,k,es,hn,hk,hE,hG,hk2 => by
    have e2 : w_i64 ((k : Int) + 2) = ((k + 2 : Nat) : Int) := wi (by omega) (by omega)
    have e1 : w_i64 ((k : Int) + 1) = ((k + 1 : Nat) : Int) := wsucc (by omega)
    have e3 : w_i64 ((k : Int) + 3) = ((k + 3 : Nat) : Int) := wi (by omega) (by omega)
    by_cases h : k + 2 < l.length
    · by_cases h1 : 0 < r
      · by_cases h2 : 0 < c
        · obtain ⟨i,hi,ei⟩ := Jv (a := l.getD k 0) (n := r) h1 (by omega)
          obtain ⟨j,hj,ej⟩ := Jv (a := l.getD (k + 1) 0) (n := c) h2 (by omega)
          obtain ⟨v,hv,ev⟩ := qd1 (l.getD (k + 2) 0)
          cases d with
          | zero => omega
          | succ d =>
          obtain ⟨es',g1,g0,g2,g3⟩ := q67 hr hc l hl a0 a1 a2 a3 a4 d (k + 3) (es ++ [((i : Int),((j : Int),v))]) (by omega) (by omega) (hE.snoc (by omega) (by omega) hv.fin) (fun e he => by
            rcases List.mem_append.1 he with he | he
            · exact hG e he
            · rw [List.mem_singleton] at he; subst he; exact hv) (by simp; omega)
          refine ⟨es',g1,g0,g2,fun m n hm hdn => ?_⟩
          obtain ⟨n,rfl⟩ : ∃ n',n = n' + 1 := ⟨n - 1,by omega⟩
          rw [g21_L0,bif_decide,e2,e1,e3,bif_decide,bif_decide]
          rw [if_pos (by omega),if_pos (by omega),if_pos (by omega),if_pos (by omega),Int.toNat_natCast,Int.toNat_natCast,Int.toNat_natCast,ei,ej,ev m hm]
          simp only [Option.bind_some]
          rw [if_pos (by omega),if_pos (by omega),if_pos (by simp; omega)]
          exact g3 m n hm (by omega)
        · refine ⟨es,hE,hG,by omega,fun m n hm hdn => ?_⟩
          obtain ⟨n,rfl⟩ : ∃ n',n = n' + 1 := ⟨n - 1,by omega⟩
          rw [g21_L0,bif_decide,e2,e1,e3,bif_decide,bif_decide,if_pos (by omega),if_pos (by omega),if_neg (by omega)]
      · refine ⟨es,hE,hG,by omega,fun m n hm hdn => ?_⟩
        obtain ⟨n,rfl⟩ : ∃ n',n = n' + 1 := ⟨n - 1,by omega⟩
        rw [g21_L0,bif_decide,e2,e1,e3,bif_decide,bif_decide,if_pos (by omega),if_neg (by omega)]
    · refine ⟨es,hE,hG,by omega,fun m n hm hdn => ?_⟩
      obtain ⟨n,rfl⟩ : ∃ n',n = n' + 1 := ⟨n - 1,by omega⟩
      rw [g21_L0,bif_decide,e2,e1,e3,bif_decide,bif_decide,if_neg (by omega)]
theorem q9h {r c : Nat} (hr : r ≤ 100) (hc : c ≤ 100) {l : List Int} (hl : l.length ≤ 100000) : ∃ es,EntsOK r c es ∧ (∀ e ∈ es,SmV e.2.2) ∧ es.length ≤ l.length + 2 ∧ ∀ m,3000000 < m →
    g21 m (r : Int) (c : Int) l = some (((r : Int),(c : Int),packS es r c,packI es r c,packV es r c,()),(),(),(),()) := by
  obtain ⟨es,h2,h0,h3,h1⟩ := q67 (r := r) (c := c) (by omega) (by omega) l hl 0 0 [] [] [] l.length 0 [] (by omega) (by omega) (fun k hk => absurd hk (Nat.not_lt_zero _)) (fun e he => by cases he) (Nat.le_refl _)
  refine ⟨es,h2,h0,h3,fun m hm => ?_⟩
  have h1 := h1 m m (by omega) (by omega)
  simp only [Int.natCast_zero] at h1
  rw [g21,h1]
  simp only [Option.bind_some]
  rw [qk2 h2 (by omega) (by omega) (by omega) (by omega)]
  rfl
end Go.Vs.F

/-! MxEk -/
set_option linter.unusedVariables false
set_option linter.unusedSimpArgs false
set_option maxRecDepth 100000
namespace Go.Vs.F
abbrev DyT := Bool × (Bool × List Int) × Int
def dyT (d : Bool × Bool × List Int × Int × Unit) : DyT := (d.1,((d.2.1,d.2.2.1),d.2.2.2.1))
def isum : List Int → Int
  | [] => 0
  | x :: l => x + isum l
theorem qi0 {a b : List Int} : isum (a ++ b) = isum a + isum b := by
  induction a with
  | nil => simp [isum]
  | cons x a ih => rw [List.cons_append,isum,isum,ih]; omega
theorem qgm {a b : List Int} (h : List.Perm a b) : isum a = isum b := by
  induction h with
  | nil => rfl
  | cons x _ ih => rw [isum,isum,ih]
  | swap x y l => simp only [isum]; omega
  | trans _ _ h1 h2 => rw [h1,h2]
/- The exponent of a valid dyad. -/
theorem qfd {z e : Int} (h : OkD z e) : -65536 ≤ (mkD z e).2.2.2.1 ∧ (mkD z e).2.2.2.1 ≤ 65536 := by
  obtain ⟨w,f,k,_,_,k3⟩ := Zn h
  rw [k3]; have := k.lo; have := k.hi; omega
theorem qfi {m : Nat} (hm : 3000000 < m) {B : Int} {as : List Int} (hl : as.length ≤ 100000) (hok : ∀ a ∈ as,OkD a B) (t0 t1 : Bool) (t2 : List Int) (t3 : Int) : ∀ (n k : Nat) (exp : Int),as.length - k < n → k ≤ as.length → -65536 ≤ exp → exp ≤ 0 →
    (∀ a ∈ as.take k,exp ≤ (mkD a B).2.2.2.1) →
    ∃ exp',g61_L0 m n t0 t1 t2 t3 ((as.take k).map fun a => dyT (mkD a B)) exp (as.map fun a => dyT (mkD a B)) (as.length : Int) (k : Int) = some (.inr (.inl ((t0,t1,t2,t3,()),(as.map fun a => dyT (mkD a B)),exp',()))) ∧ -65536 ≤ exp' ∧ exp' ≤ 0 ∧ ∀ a ∈ as,exp' ≤ (mkD a B).2.2.2.1
  | 0,k,exp,h,_,_,_,_ => by omega
  | n + 1,k,exp,h,hk0,e1,e2,he => by
    rw [g61_L0,bif_decide]
    by_cases hk : k < as.length
    · have hmem : as.getD k 0 ∈ as := Qz hk
      have hget : (as.map fun a => dyT (mkD a B)).getD k (false,((false,([] : List Int)),0)) = dyT (mkD (as.getD k 0) B) := by
        simp [List.getD,hk]
      have ht := take_snoc (l := as) hk (x := as.getD k 0) rfl
      obtain ⟨a,ha⟩ : ∃ a,a = as.getD k 0 := ⟨_,rfl⟩
      rw [← ha] at hmem hget ht
      have hoa := hok a hmem
      have hb := qfd hoa
      have hmn : (if (mkD a B).2.2.2.1 < exp then (mkD a B).2.2.2.1 else exp) = min exp (mkD a B).2.2.2.1 := by split <;> omega
      obtain ⟨x',g1,g2,g3,g4⟩ := qfi hm hl hok t0 t1 t2 t3 n (k + 1) (min exp (mkD a B).2.2.2.1) (by omega) (by omega) (by omega) (by omega) (fun y hy => by
        rw [ht] at hy
        rcases List.mem_append.1 hy with hy | hy
        · have := he y hy; omega
        · rw [List.mem_singleton] at hy; subst hy; omega)
      refine ⟨x',?_,g2,g3,g4⟩
      rw [ht,List.map_append] at g1
      have c2 : ((as.take k).map fun a => dyT (mkD a B)).length + ([dyT (mkD a B)] : List DyT).length ≤ 1073741824 := by
        rw [List.length_map,List.length_take]; show min k as.length + 1 ≤ 1073741824; omega
      have hno := qbb hm hoa
      rw [if_pos (by omega),if_pos (by rw [List.length_map]; omega),Int.toNat_natCast,hget]
      show (Option.bind (g80 m (mkD a B).1 (mkD a B).2.1 (mkD a B).2.2.1 (mkD a B).2.2.2.1) _) = _
      rw [hno,Option.bind_some]
      show (if ((as.take k).map fun a => dyT (mkD a B)).length + ([dyT (mkD a B)] : List DyT).length ≤ 1073741824 then g61_L0 m n t0 t1 t2 t3 (((as.take k).map fun a => dyT (mkD a B)) ++ [dyT (mkD a B)]) (if (mkD a B).2.2.2.1 < exp then (mkD a B).2.2.2.1 else exp) (as.map fun a => dyT (mkD a B)) (as.length : Int) (w_i64 ((k : Int) + 1)) else none) = _
      rw [if_pos c2,hmn,show w_i64 ((k : Int) + 1) = ((k + 1 : Nat) : Int) from wsucc (by omega)]
      exact g1
    · rw [if_neg (by omega)]
      rw [List.take_of_length_le (by omega)] at he ⊢
      exact ⟨exp,rfl,e1,e2,he⟩
theorem qf0 {m : Nat} (hm : 3000000 < m) {B : Int} {as : List Int} (hl : as.length ≤ 100000) (hok : ∀ a ∈ as,OkD a B) (t0 t1 : Bool) (t2 : List Int) (t3 : Int) {exp : Int} (x1 : -65536 ≤ exp) (x2 : exp ≤ 0) (hx : ∀ a ∈ as,exp ≤ (mkD a B).2.2.2.1) : ∀ (n k : Nat) (T : Int),as.length - k < n → k ≤ as.length → EqD T exp (isum (as.take k)) B → blen T.natAbs ≤ 300000 + k →
    ∃ T',g61_L1 m n t0 t1 t2 t3 exp (zB T).1 (zB T).2.1 (as.map fun a => dyT (mkD a B)) (as.length : Int) (k : Int) = some (.inl ((t0,t1,t2,t3,()),exp,((zB T').1,(zB T').2.1,()),())) ∧ EqD T' exp (isum as) B ∧ blen T'.natAbs ≤ 400000
  | 0,k,T,h,_,_,_ => by omega
  | n + 1,k,T,h,hk0,hT,hb => by
    rw [g61_L1,bif_decide]
    by_cases hk : k < as.length
    · have hmem : as.getD k 0 ∈ as := Qz hk
      have hget : (as.map fun a => dyT (mkD a B)).getD k (false,((false,([] : List Int)),0)) = dyT (mkD (as.getD k 0) B) := by
        simp [List.getD,hk]
      have ht := take_snoc (l := as) hk (x := as.getD k 0) rfl
      obtain ⟨a,ha⟩ : ∃ a,a = as.getD k 0 := ⟨_,rfl⟩
      rw [← ha] at hmem hget ht
      have hoa := hok a hmem
      have hxa := hx a hmem
      obtain ⟨w,f,kn,k1,k2,k3⟩ := Zn hoa
      have hf1 := kn.lo; have hf2 := kn.hi; have hf3 := kn.len
      rw [k3] at hxa
      have wd : w_i64 (f - exp) = f - exp := by rw [w_i64_eq,wi (by omega) (by omega)]
      have hsc : w * 2 ^ (f - exp).toNat = sc w f exp := rfl
      have hs := sc_bd kn (b := exp) hxa x1
      rw [if_pos (by omega),if_pos (by rw [List.length_map]; omega),Int.toNat_natCast,Nat.zero_add,hget]
      simp only [dyT]
      rw [k1,k2,k3,wd,left_eq hm (by omega) (by omega) (by omega),Option.bind_some,hsc]
      dsimp only
      have hbs := qez (a := T) (b := sc w f exp) hb (by omega)
      rw [qg2 (by omega) (SzB (by omega)) (SzB (by omega)),zv_zB,zv_zB,Option.bind_some,show w_i64 ((k : Int) + 1) = ((k + 1 : Nat) : Int) from wsucc (by omega)]
      refine qf0 hm hl hok t0 t1 t2 t3 x1 x2 hx n (k + 1) (T + sc w f exp) (by omega) (by omega) ?_ (by omega)
      rw [ht,qi0,show isum [a] = a by simp [isum]]
      exact hT.add (c := 0) (g := 0) ((EqD.sc hxa).trans kn.eq)
    · rw [if_neg (by omega)]
      rw [List.take_of_length_le (by omega)] at hT
      exact ⟨T,rfl,hT,by omega⟩
theorem qhd {m : Nat} (hm : 3000000 < m) {B : Int} {as : List Int} (hl : as.length ≤ 100000) (hok : ∀ a ∈ as,OkD a B) : g61 m (as.map fun a => dyT (mkD a B)) = some (mkD (isum as) B,(),()) := by
  obtain ⟨exp,e1,x1,x2,x3⟩ := qfi hm hl hok false false [] 0 m 0 0 (by omega) (by omega) (by omega) (by omega) (fun a h => by simp at h)
  obtain ⟨T,e2,h1,h2⟩ := qf0 hm hl hok false false [] 0 x1 x2 x3 m 0 0 (by omega) (by omega) (by simp [isum]; exact EqD.zero _ _) (by decide)
  rw [List.take_zero,List.map_nil,Int.natCast_zero] at e1
  rw [Int.natCast_zero,zB_1,zB_2,show (0 : Int).natAbs = 0 from rfl,Qg,show decide ((0 : Int) < 0) = false from rfl] at e2
  rw [g61,List.length_map,e1,Option.bind_some]
  dsimp only
  rw [List.length_map,e2,Option.bind_some]
  dsimp only
  rw [q80 hm (by omega) (by omega) (by omega),h1.mk]; rfl
/-! ### Products -/
def prodE (x : List Int) (fr : Ent → Int) (e : Ent) : Int := valF e.2.2 * valF (x.getD (fr e).toNat 0)
def rowP (x : List Int) (to fr : Ent → Int) (t : Nat) (es : List Ent) : List Int := (es.filter fun e => to e == (t : Int)).map (prodE x fr)
def compF (x : List Int) (to fr : Ent → Int) (es : List Ent) (t : Nat) : Int := Ql (mkD (isum (rowP x to fr t es)) (-2148)) 0
theorem qds {v : Int} (h : FinF v) : blen (valF v).natAbs ≤ 2100 := by
  have h1 := qc7 v
  have h2 := qjt h
  have h3 := q5n (f := v)
  have := qct (w := ofZ v) (f := ofE v) (b := -1074) (by omega)
  unfold valF; omega
theorem qfh {a b : Int} (ha : FinF a) (hb : FinF b) : OkD (valF a * valF b) (-2148) := by
  by_cases h : valF a * valF b = 0
  · rw [h]; exact qdu _
  · have h1 := qds ha
    have h2 := qds hb
    have h3 := q92 (a := valF a) (b := valF b)
    have h4 := Yj (n := (valF a * valF b).natAbs)
    exact Xf.2 (.inr ⟨by omega,by omega⟩)
end Go.Vs.F

/-! MxEl -/
set_option linter.unusedVariables false
set_option linter.unusedSimpArgs false
set_option maxRecDepth 100000
namespace Go.Vs.F
theorem q8w {x : List Int} {to fr : Ent → Int} {t : Nat} {es : List Ent} {e : Ent} : rowP x to fr t (es ++ [e]) = rowP x to fr t es ++ (if to e = (t : Int) then [prodE x fr e] else []) := by
  unfold rowP
  rw [List.filter_append,List.map_append]
  congr 1
  by_cases h : to e = (t : Int)
  · rw [if_pos h]; simp [h]
  · rw [if_neg h]; simp [h]
theorem mv_L0 {m : Nat} (hm : 3000000 < m) {x : List Int} (hl : x.length ≤ 100000) (hx : ∀ v ∈ x,U64 v) (T : Int) (a0 a1 : Int) (a2 a3 a4 : List Int) : ∀ (n k : Nat),x.length - k < n → k ≤ x.length → (∀ v ∈ x.take k,FinF v) →
    g66_L0 m n T a0 a1 a2 a3 a4 ((x.take k).map fun v => dyT (ofD v)) x (x.length : Int) (k : Int) = some (if ∀ v ∈ x,FinF v then .inr (.inl (T,(),(a0,a1,a2,a3,a4,()),(x.map fun v => dyT (ofD v)),())) else .inl ([],4,()))
  | 0,k,h,_,_ => by omega
  | n + 1,k,h,hk0,hf => by
    rw [g66_L0,bif_decide]
    by_cases hk : k < x.length
    · have hmem : x.getD k 0 ∈ x := Qz hk
      have ht := take_snoc (l := x) hk (x := x.getD k 0) rfl
      obtain ⟨v,hv⟩ : ∃ v,v = x.getD k 0 := ⟨_,rfl⟩
      rw [if_pos (by omega),if_pos (by omega),Int.toNat_natCast]
      rw [← hv] at hmem ht ⊢
      have hu := hx v hmem
      rw [q4v hu,Option.bind_some]
      dsimp only
      by_cases c : FinF v
      · have ih := mv_L0 hm hl hx T a0 a1 a2 a3 a4 n (k + 1) (by omega) (by omega) (fun y hy => by
          rw [ht] at hy
          rcases List.mem_append.1 hy with hy | hy
          · exact hf y hy
          · rw [List.mem_singleton] at hy; subst hy; exact c)
        rw [ht,List.map_append] at ih
        have c2 : ((x.take k).map fun v => dyT (ofD v)).length + ([dyT (ofD v)] : List DyT).length ≤ 1073741824 := by
          rw [List.length_map,List.length_take]; show min k x.length + 1 ≤ 1073741824; omega
        rw [decide_eq_true c,Bool.not_true,cond_false,Of_eq hm hu,Option.bind_some]
        show (if ((x.take k).map fun v => dyT (ofD v)).length + ([dyT (ofD v)] : List DyT).length ≤ 1073741824 then g66_L0 m n T a0 a1 a2 a3 a4 (((x.take k).map fun v => dyT (ofD v)) ++ [dyT (ofD v)]) x (x.length : Int) (w_i64 ((k : Int) + 1)) else none) = _
        rw [if_pos c2,show w_i64 ((k : Int) + 1) = ((k + 1 : Nat) : Int) from wsucc (by omega)]
        exact ih
      · rw [decide_eq_false c,Bool.not_false,cond_true,if_neg (fun h => c (h v hmem))]
    · rw [if_neg (by omega)]
      rw [List.take_of_length_le (by omega)] at hf ⊢
      rw [if_pos hf]
theorem mv_L1 {m : Nat} (hm : 4000000 ≤ m) {x : List Int} (hl : x.length ≤ 100000) (hx : ∀ v ∈ x,FinF v) {T F : Nat} (hF : x.length = F) {es : List Ent} (hel : es.length ≤ 100000) (hto : ∀ e ∈ es,0 ≤ e.1 ∧ e.1 < (T : Int)) (hfr : ∀ e ∈ es,0 ≤ e.2.1 ∧ e.2.1 < (F : Int)) (hU : ∀ e ∈ es,U64 e.2.2 ∧ FinF e.2.2) : ∀ (n k : Nat) (P : List (List DyT)),es.length - k < n → k ≤ es.length → P.length = T → (∀ t,t < T → P.getD t [] = (rowP x (fun e => e.1) (fun e => e.2.1) t (es.take k)).map fun a => dyT (mkD a (-2148))) →
    ∃ P',g66_L1 m n (x.map fun v => dyT (ofD v)) P es (es.length : Int) (k : Int) = some (.inl (P',())) ∧ P'.length = T ∧ ∀ t,t < T → P'.getD t [] = (rowP x (fun e => e.1) (fun e => e.2.1) t es).map fun a => dyT (mkD a (-2148))
  | 0,k,P,h,_,_,_ => by omega
  | n + 1,k,P,h,hk0,hP,hp => by
    by_cases hk : k < es.length
    · have hmem : es.getD k zE ∈ es := q8a hk
      have ht := Yz hk
      obtain ⟨e,he⟩ : ∃ e,e = es.getD k zE := ⟨_,rfl⟩
      have he' : es.getD k (0,(0,0)) = e := he.symm
      rw [← he] at hmem ht
      obtain ⟨t1,t2⟩ := hto e hmem
      obtain ⟨f1,f2⟩ := hfr e hmem
      obtain ⟨u1,u2⟩ := hU e hmem
      have hxm : x.getD (e.2.1).toNat 0 ∈ x := Qz (by omega)
      have hxf := hx _ hxm
      have hget : (x.map fun v => dyT (ofD v)).getD (0 + (e.2.1).toNat) (false,((false,([] : List Int)),0)) = dyT (ofD (x.getD (e.2.1).toNat 0)) := by
        have : (e.2.1).toNat < x.length := by omega
        simp [List.getD,this]
      have hmul := qgy hm (a := valF e.2.2) (b := valF (x.getD (e.2.1).toNat 0)) (B := -1074) (C := -1074)
      rw [← q6y u2,← q6y hxf,if_pos ⟨val_ok u2,val_ok hxf⟩,show (-1074 : Int) + -1074 = -2148 from rfl] at hmul
      have hlen : (P.getD (e.1).toNat []).length ≤ 100000 := by
        rw [hp _ (by omega),List.length_map]
        unfold rowP
        rw [List.length_map]
        refine Nat.le_trans (List.length_filter_le ..) ?_
        rw [List.length_take]; omega
      have c2 : ∀ y : DyT,(P.getD (e.1).toNat []).length + ([y] : List DyT).length ≤ 1073741824 := fun y => by show _ + 1 ≤ _; omega
      have c3 : (0 : Int) ≤ e.1 ∧ e.1 < (P.length : Int) := by omega
      have c4 : (0 : Int) ≤ e.2.1 ∧ e.2.1 < ((x.map fun v => dyT (ofD v)).length : Int) := by rw [List.length_map]; omega
      have step : g66_L1 m (n + 1) (x.map fun v => dyT (ofD v)) P es (es.length : Int) (k : Int) = g66_L1 m n (x.map fun v => dyT (ofD v)) (P.set (e.1).toNat (P.getD (e.1).toNat [] ++ [dyT (mkD (valF e.2.2 * valF (x.getD (e.2.1).toNat 0)) (-2148))])) es (es.length : Int) ((k + 1 : Nat) : Int) := by
        rw [g66_L1,bif_decide,if_pos (by omega),if_pos (by omega),Int.toNat_natCast,Nat.zero_add,he',g67,Option.bind_some]
        dsimp only
        rw [if_pos c3,Of_eq (by omega) u1,Option.bind_some]
        dsimp only
        rw [if_pos c4,hget]
        dsimp only [dyT]
        rw [hmul,Option.bind_some]
        dsimp only
        rw [if_pos (c2 _),if_pos c3,if_pos rfl,show w_i64 ((k : Int) + 1) = ((k + 1 : Nat) : Int) from wsucc (by omega)]
      rw [step]
      refine mv_L1 hm hl hx hF hel hto hfr hU n (k + 1) _ (by omega) (by omega) (by rw [List.length_set]; exact hP) (fun t htT => ?_)
      rw [q91 (by omega),ht,q8w,List.map_append]
      by_cases c : t = (e.1).toNat
      · rw [if_pos c,if_pos (by omega),← c,hp t htT]; rfl
      · rw [if_neg c,if_neg (by omega),hp t htT]; simp
    · rw [g66_L1,bif_decide,if_neg (by omega)]
      rw [List.take_of_length_le (by omega)] at hp
      exact ⟨P,rfl,hP,hp⟩
theorem mv_L2 {m : Nat} (hm : 4000000 ≤ m) {T : Nat} (hT : T ≤ 100000) {f : Nat → List Int} (hf : ∀ t,t < T → (f t).length ≤ 100000 ∧ ∀ a ∈ f t,OkD a (-2148)) {P : List (List DyT)} (hP : P.length = T) (hp : ∀ t,t < T → P.getD t [] = (f t).map fun a => dyT (mkD a (-2148))) : ∀ (n k : Nat),T - k < n → k ≤ T → (∀ t,t < k → finB (Ql (mkD (isum (f t)) (-2148)) 0) = true) →
    g66_L2 m n ((List.range k).map fun t => Ql (mkD (isum (f t)) (-2148)) 0) P (T : Int) (k : Int) = some (if ∀ t,t < T → finB (Ql (mkD (isum (f t)) (-2148)) 0) = true then .inr (.inl (((List.range T).map fun t => Ql (mkD (isum (f t)) (-2148)) 0),())) else .inl ([],3,()))
  | 0,k,h,_,_ => by omega
  | n + 1,k,h,hk0,hq => by
    rw [g66_L2,bif_decide]
    by_cases hk : k < T
    · obtain ⟨h1,h2⟩ := hf k hk
      have hU := q2d (d := mkD (isum (f k)) (-2148)) (mode := 0)
      have hfb := q4o hU
      rw [if_pos (by omega),if_pos (by omega),Int.toNat_natCast,hp k hk,qhd (by omega) h1 h2,Option.bind_some]
      dsimp only
      rw [qcz (by omega),Option.bind_some]
      dsimp only
      rw [q4v hU,Option.bind_some,← hfb]
      dsimp only
      by_cases c : finB (Ql (mkD (isum (f k)) (-2148)) 0) = true
      · have ih := mv_L2 hm hT hf hP hp n (k + 1) (by omega) (by omega) (fun t ht => by
          by_cases e : t = k
          · subst e; exact c
          · exact hq t (by omega))
        rw [List.range_succ,List.map_append] at ih
        rw [c,Bool.not_true,cond_false,if_pos (by rw [List.length_map,List.length_range]; show k + 1 ≤ _; omega),show w_i64 ((k : Int) + 1) = ((k + 1 : Nat) : Int) from wsucc (by omega)]
        exact ih
      · rw [show finB (Ql (mkD (isum (f k)) (-2148)) 0) = false by simpa using c,Bool.not_false,cond_true,if_neg (fun h => c (h k hk))]
    · have e : k = T := by omega
      subst e
      rw [if_neg (by omega),if_pos hq]
theorem mv_eq {m : Nat} (hm : 4000000 ≤ m) {R C : Nat} {S I V : List Int} (h : MV R C S I V) (hU : ∀ x ∈ V,U64 x) {x : List Int} (hx : ∀ v ∈ x,U64 v) (hF : x.length = C) :
    g15 m (R : Int) (C : Int) S I V x = some (if ∀ v ∈ x,FinF v then (if ∀ t,t < R → finB (compF x (fun e => e.1) (fun e => e.2.1) (ents S I V C 0) t) = true then (((List.range R).map (compF x (fun e => e.1) (fun e => e.2.1) (ents S I V C 0))),0,()) else ([],3,())) else ([],4,()),(),(),()) := by
  have hsz := h.ok.sz
  have hcz := h.ok.cz
  have hrz := h.ok.rz
  have hv := h.vl
  have hsl := h.sl
  have hl := h.len
  have hE := Jy h.ents
  have hem : ∀ e ∈ ents S I V C 0,U64 e.2.2 ∧ FinF e.2.2 := fun e he => h.valU hU he
  have e0 := mv_L0 (m := m) (by omega) (x := x) (by omega) hx (R : Int) (R : Int) (C : Int) S I V m 0 (by omega) (by omega) (fun v hv => by simp at hv)
  rw [List.take_zero,List.map_nil,Int.natCast_zero] at e0
  rw [g15,g66,g44_eq (by omega) (by omega) (by omega) (by omega) (by omega),h.chk]
  simp only [Option.bind_some,bif_ne,if_true]
  rw [if_pos (by omega),e0,Option.bind_some]
  by_cases hf : ∀ v ∈ x,FinF v
  · rw [if_pos hf,if_pos hf]
    dsimp only
    obtain ⟨P,e1,r1,p1⟩ := mv_L1 hm (x := x) (by omega) hf (T := R) (F := C) hF (es := ents S I V C 0) (by omega) (fun e he => And.left (hE e he)) (fun e he => (fun z => z.2.1) (hE e he)) hem m 0 (List.replicate R []) (by omega) (by omega) (by simp) (fun t ht => by rw [Qn ht]; simp [rowP])
    rw [Int.natCast_zero] at e1
    have e2 := mv_L2 hm (T := R) (by omega) (f := fun t => rowP x (fun e => e.1) (fun e => e.2.1) t (ents S I V C 0)) (fun t ht => ⟨by
      unfold rowP; rw [List.length_map]; exact Nat.le_trans (List.length_filter_le ..) (by omega),fun a ha => by
      unfold rowP at ha
      obtain ⟨e,he,rfl⟩ := List.mem_map.1 ha
      have hem2 := (List.mem_filter.1 he).1
      have hfrb := (fun z => z.2.1) (hE e hem2)
      exact qfh (hem e hem2).2 (hf _ (Qz (by show (e.2.1).toNat < x.length; omega)))⟩) r1 p1 m 0 (by omega) (by omega) (fun t ht => by omega)
    rw [List.range_zero,List.map_nil,Int.natCast_zero] at e2
    rw [if_pos (by omega),Zr (by omega) h.ok h.vl,Option.bind_some,Int.toNat_natCast]
    dsimp only
    rw [e1,Option.bind_some]
    dsimp only
    rw [r1,e2,Option.bind_some]
    by_cases hq : ∀ t,t < R → finB (compF x (fun e => e.1) (fun e => e.2.1) (ents S I V C 0) t) = true
    · have hq' : ∀ t,t < R → finB (Ql (mkD (isum (rowP x (fun e => e.1) (fun e => e.2.1) t (ents S I V C 0))) (-2148)) 0) = true := hq
      rw [if_pos hq',if_pos hq]; rfl
    · have hq' : ¬ ∀ t,t < R → finB (Ql (mkD (isum (rowP x (fun e => e.1) (fun e => e.2.1) t (ents S I V C 0))) (-2148)) 0) = true := hq
      rw [if_neg hq',if_neg hq]; rfl
  · rw [if_neg hf,if_neg hf]; rfl
theorem mt_L0 {m : Nat} (hm : 3000000 < m) {x : List Int} (hl : x.length ≤ 100000) (hx : ∀ v ∈ x,U64 v) (T : Int) (a0 a1 : Int) (a2 a3 a4 : List Int) : ∀ (n k : Nat),x.length - k < n → k ≤ x.length → (∀ v ∈ x.take k,FinF v) →
    g66b_L0 m n T a0 a1 a2 a3 a4 ((x.take k).map fun v => dyT (ofD v)) x (x.length : Int) (k : Int) = some (if ∀ v ∈ x,FinF v then .inr (.inl (T,(),(a0,a1,a2,a3,a4,()),(x.map fun v => dyT (ofD v)),())) else .inl ([],4,()))
  | 0,k,h,_,_ => by omega
  | n + 1,k,h,hk0,hf => by
    rw [g66b_L0,bif_decide]
    by_cases hk : k < x.length
    · have hmem : x.getD k 0 ∈ x := Qz hk
      have ht := take_snoc (l := x) hk (x := x.getD k 0) rfl
      obtain ⟨v,hv⟩ : ∃ v,v = x.getD k 0 := ⟨_,rfl⟩
      rw [if_pos (by omega),if_pos (by omega),Int.toNat_natCast]
      rw [← hv] at hmem ht ⊢
      have hu := hx v hmem
      rw [q4v hu,Option.bind_some]
      dsimp only
      by_cases c : FinF v
      · have ih := mt_L0 hm hl hx T a0 a1 a2 a3 a4 n (k + 1) (by omega) (by omega) (fun y hy => by
          rw [ht] at hy
          rcases List.mem_append.1 hy with hy | hy
          · exact hf y hy
          · rw [List.mem_singleton] at hy; subst hy; exact c)
        rw [ht,List.map_append] at ih
        have c2 : ((x.take k).map fun v => dyT (ofD v)).length + ([dyT (ofD v)] : List DyT).length ≤ 1073741824 := by
          rw [List.length_map,List.length_take]; show min k x.length + 1 ≤ 1073741824; omega
        rw [decide_eq_true c,Bool.not_true,cond_false,Of_eq hm hu,Option.bind_some]
        show (if ((x.take k).map fun v => dyT (ofD v)).length + ([dyT (ofD v)] : List DyT).length ≤ 1073741824 then g66b_L0 m n T a0 a1 a2 a3 a4 (((x.take k).map fun v => dyT (ofD v)) ++ [dyT (ofD v)]) x (x.length : Int) (w_i64 ((k : Int) + 1)) else none) = _
        rw [if_pos c2,show w_i64 ((k : Int) + 1) = ((k + 1 : Nat) : Int) from wsucc (by omega)]
        exact ih
      · rw [decide_eq_false c,Bool.not_false,cond_true,if_neg (fun h => c (h v hmem))]
    · rw [if_neg (by omega)]
      rw [List.take_of_length_le (by omega)] at hf ⊢
      rw [if_pos hf]
theorem mt_L1 {m : Nat} (hm : 4000000 ≤ m) {x : List Int} (hl : x.length ≤ 100000) (hx : ∀ v ∈ x,FinF v) {T F : Nat} (hF : x.length = F) {es : List Ent} (hel : es.length ≤ 100000) (hto : ∀ e ∈ es,0 ≤ e.2.1 ∧ e.2.1 < (T : Int)) (hfr : ∀ e ∈ es,0 ≤ e.1 ∧ e.1 < (F : Int)) (hU : ∀ e ∈ es,U64 e.2.2 ∧ FinF e.2.2) : ∀ (n k : Nat) (P : List (List DyT)),es.length - k < n → k ≤ es.length → P.length = T → (∀ t,t < T → P.getD t [] = (rowP x (fun e => e.2.1) (fun e => e.1) t (es.take k)).map fun a => dyT (mkD a (-2148))) →
    ∃ P',g66b_L1 m n (x.map fun v => dyT (ofD v)) P es (es.length : Int) (k : Int) = some (.inl (P',())) ∧ P'.length = T ∧ ∀ t,t < T → P'.getD t [] = (rowP x (fun e => e.2.1) (fun e => e.1) t es).map fun a => dyT (mkD a (-2148))
  | 0,k,P,h,_,_,_ => by omega
  | n + 1,k,P,h,hk0,hP,hp => by
    by_cases hk : k < es.length
    · have hmem : es.getD k zE ∈ es := q8a hk
      have ht := Yz hk
      obtain ⟨e,he⟩ : ∃ e,e = es.getD k zE := ⟨_,rfl⟩
      have he' : es.getD k (0,(0,0)) = e := he.symm
      rw [← he] at hmem ht
      obtain ⟨t1,t2⟩ := hto e hmem
      obtain ⟨f1,f2⟩ := hfr e hmem
      obtain ⟨u1,u2⟩ := hU e hmem
      have hxm : x.getD (e.1).toNat 0 ∈ x := Qz (by omega)
      have hxf := hx _ hxm
      have hget : (x.map fun v => dyT (ofD v)).getD (0 + (e.1).toNat) (false,((false,([] : List Int)),0)) = dyT (ofD (x.getD (e.1).toNat 0)) := by
        have : (e.1).toNat < x.length := by omega
        simp [List.getD,this]
      have hmul := qgy hm (a := valF e.2.2) (b := valF (x.getD (e.1).toNat 0)) (B := -1074) (C := -1074)
      rw [← q6y u2,← q6y hxf,if_pos ⟨val_ok u2,val_ok hxf⟩,show (-1074 : Int) + -1074 = -2148 from rfl] at hmul
      have hlen : (P.getD (e.2.1).toNat []).length ≤ 100000 := by
        rw [hp _ (by omega),List.length_map]
        unfold rowP
        rw [List.length_map]
        refine Nat.le_trans (List.length_filter_le ..) ?_
        rw [List.length_take]; omega
      have c2 : ∀ y : DyT,(P.getD (e.2.1).toNat []).length + ([y] : List DyT).length ≤ 1073741824 := fun y => by show _ + 1 ≤ _; omega
      have c3 : (0 : Int) ≤ e.2.1 ∧ e.2.1 < (P.length : Int) := by omega
      have c4 : (0 : Int) ≤ e.1 ∧ e.1 < ((x.map fun v => dyT (ofD v)).length : Int) := by rw [List.length_map]; omega
      have step : g66b_L1 m (n + 1) (x.map fun v => dyT (ofD v)) P es (es.length : Int) (k : Int) = g66b_L1 m n (x.map fun v => dyT (ofD v)) (P.set (e.2.1).toNat (P.getD (e.2.1).toNat [] ++ [dyT (mkD (valF e.2.2 * valF (x.getD (e.1).toNat 0)) (-2148))])) es (es.length : Int) ((k + 1 : Nat) : Int) := by
        rw [g66b_L1,bif_decide,if_pos (by omega),if_pos (by omega),Int.toNat_natCast,Nat.zero_add,he',g70,Option.bind_some]
        dsimp only
        rw [if_pos c3,Of_eq (by omega) u1,Option.bind_some]
        dsimp only
        rw [if_pos c4,hget]
        dsimp only [dyT]
        rw [hmul,Option.bind_some]
        dsimp only
        rw [if_pos (c2 _),if_pos c3,if_pos rfl,show w_i64 ((k : Int) + 1) = ((k + 1 : Nat) : Int) from wsucc (by omega)]
      rw [step]
      refine mt_L1 hm hl hx hF hel hto hfr hU n (k + 1) _ (by omega) (by omega) (by rw [List.length_set]; exact hP) (fun t htT => ?_)
      rw [q91 (by omega),ht,q8w,List.map_append]
      by_cases c : t = (e.2.1).toNat
      · rw [if_pos c,if_pos (by omega),← c,hp t htT]; rfl
      · rw [if_neg c,if_neg (by omega),hp t htT]; simp
    · rw [g66b_L1,bif_decide,if_neg (by omega)]
      rw [List.take_of_length_le (by omega)] at hp
      exact ⟨P,rfl,hP,hp⟩
theorem mt_L2 {m : Nat} (hm : 4000000 ≤ m) {T : Nat} (hT : T ≤ 100000) {f : Nat → List Int} (hf : ∀ t,t < T → (f t).length ≤ 100000 ∧ ∀ a ∈ f t,OkD a (-2148)) {P : List (List DyT)} (hP : P.length = T) (hp : ∀ t,t < T → P.getD t [] = (f t).map fun a => dyT (mkD a (-2148))) : ∀ (n k : Nat),T - k < n → k ≤ T → (∀ t,t < k → finB (Ql (mkD (isum (f t)) (-2148)) 0) = true) →
    g66b_L2 m n ((List.range k).map fun t => Ql (mkD (isum (f t)) (-2148)) 0) P (T : Int) (k : Int) = some (if ∀ t,t < T → finB (Ql (mkD (isum (f t)) (-2148)) 0) = true then .inr (.inl (((List.range T).map fun t => Ql (mkD (isum (f t)) (-2148)) 0),())) else .inl ([],3,()))
  | 0,k,h,_,_ => by omega
  | n + 1,k,h,hk0,hq => by
    rw [g66b_L2,bif_decide]
    by_cases hk : k < T
    · obtain ⟨h1,h2⟩ := hf k hk
      have hU := q2d (d := mkD (isum (f k)) (-2148)) (mode := 0)
      have hfb := q4o hU
      rw [if_pos (by omega),if_pos (by omega),Int.toNat_natCast,hp k hk,qhd (by omega) h1 h2,Option.bind_some]
      dsimp only
      rw [qcz (by omega),Option.bind_some]
      dsimp only
      rw [q4v hU,Option.bind_some,← hfb]
      dsimp only
      by_cases c : finB (Ql (mkD (isum (f k)) (-2148)) 0) = true
      · have ih := mt_L2 hm hT hf hP hp n (k + 1) (by omega) (by omega) (fun t ht => by
          by_cases e : t = k
          · subst e; exact c
          · exact hq t (by omega))
        rw [List.range_succ,List.map_append] at ih
        rw [c,Bool.not_true,cond_false,if_pos (by rw [List.length_map,List.length_range]; show k + 1 ≤ _; omega),show w_i64 ((k : Int) + 1) = ((k + 1 : Nat) : Int) from wsucc (by omega)]
        exact ih
      · rw [show finB (Ql (mkD (isum (f k)) (-2148)) 0) = false by simpa using c,Bool.not_false,cond_true,if_neg (fun h => c (h k hk))]
    · have e : k = T := by omega
      subst e
      rw [if_neg (by omega),if_pos hq]
theorem mt_eq {m : Nat} (hm : 4000000 ≤ m) {R C : Nat} {S I V : List Int} (h : MV R C S I V) (hU : ∀ x ∈ V,U64 x) {x : List Int} (hx : ∀ v ∈ x,U64 v) (hF : x.length = R) :
    g17 m (R : Int) (C : Int) S I V x = some (if ∀ v ∈ x,FinF v then (if ∀ t,t < C → finB (compF x (fun e => e.2.1) (fun e => e.1) (ents S I V C 0) t) = true then (((List.range C).map (compF x (fun e => e.2.1) (fun e => e.1) (ents S I V C 0))),0,()) else ([],3,())) else ([],4,()),(),(),()) := by
  have hsz := h.ok.sz
  have hcz := h.ok.cz
  have hrz := h.ok.rz
  have hv := h.vl
  have hsl := h.sl
  have hl := h.len
  have hE := Jy h.ents
  have hem : ∀ e ∈ ents S I V C 0,U64 e.2.2 ∧ FinF e.2.2 := fun e he => h.valU hU he
  have e0 := mt_L0 (m := m) (by omega) (x := x) (by omega) hx (C : Int) (R : Int) (C : Int) S I V m 0 (by omega) (by omega) (fun v hv => by simp at hv)
  rw [List.take_zero,List.map_nil,Int.natCast_zero] at e0
  rw [g17,g66b,g44_eq (by omega) (by omega) (by omega) (by omega) (by omega),h.chk]
  simp only [Option.bind_some,bif_ne,if_true]
  rw [if_pos (by omega),e0,Option.bind_some]
  by_cases hf : ∀ v ∈ x,FinF v
  · rw [if_pos hf,if_pos hf]
    dsimp only
    obtain ⟨P,e1,r1,p1⟩ := mt_L1 hm (x := x) (by omega) hf (T := C) (F := R) hF (es := ents S I V C 0) (by omega) (fun e he => (fun z => z.2.1) (hE e he)) (fun e he => And.left (hE e he)) hem m 0 (List.replicate C []) (by omega) (by omega) (by simp) (fun t ht => by rw [Qn ht]; simp [rowP])
    rw [Int.natCast_zero] at e1
    have e2 := mt_L2 hm (T := C) (by omega) (f := fun t => rowP x (fun e => e.2.1) (fun e => e.1) t (ents S I V C 0)) (fun t ht => ⟨by
      unfold rowP; rw [List.length_map]; exact Nat.le_trans (List.length_filter_le ..) (by omega),fun a ha => by
      unfold rowP at ha
      obtain ⟨e,he,rfl⟩ := List.mem_map.1 ha
      have hem2 := (List.mem_filter.1 he).1
      have hfrb := And.left (hE e hem2)
      exact qfh (hem e hem2).2 (hf _ (Qz (by show (e.1).toNat < x.length; omega)))⟩) r1 p1 m 0 (by omega) (by omega) (fun t ht => by omega)
    rw [List.range_zero,List.map_nil,Int.natCast_zero] at e2
    rw [if_pos (by omega),Zr (by omega) h.ok h.vl,Option.bind_some,Int.toNat_natCast]
    dsimp only
    rw [e1,Option.bind_some]
    dsimp only
    rw [r1,e2,Option.bind_some]
    by_cases hq : ∀ t,t < C → finB (compF x (fun e => e.2.1) (fun e => e.1) (ents S I V C 0) t) = true
    · have hq' : ∀ t,t < C → finB (Ql (mkD (isum (rowP x (fun e => e.2.1) (fun e => e.1) t (ents S I V C 0))) (-2148)) 0) = true := hq
      rw [if_pos hq',if_pos hq]; rfl
    · have hq' : ¬ ∀ t,t < C → finB (Ql (mkD (isum (rowP x (fun e => e.2.1) (fun e => e.1) t (ents S I V C 0))) (-2148)) 0) = true := hq
      rw [if_neg hq',if_neg hq]; rfl
  · rw [if_neg hf,if_neg hf]; rfl
end Go.Vs.F

/-! MxEm -/
set_option linter.unusedVariables false
set_option linter.unusedSimpArgs false
set_option maxRecDepth 100000
namespace Go.Vs.F
theorem q5t {x : List Int} {to fr : Ent → Int} {es es' : List Ent} (h : List.Perm es es') (t : Nat) : compF x to fr es t = compF x to fr es' t := by
  unfold compF rowP
  rw [qgm ((h.filter _).map _)]
theorem q81 {x x' : List Int} {to fr to' fr' : Ent → Int} {g : Ent → Ent} {t t' : Nat} : ∀ {es : List Ent},(∀ e ∈ es,(to (g e) = (t : Int) ↔ to' e = (t' : Int)) ∧ prodE x fr (g e) = prodE x' fr' e) → rowP x to fr t (es.map g) = rowP x' to' fr' t' es
  | [],_ => rfl
  | e :: es,h => by
    have ih := q81 (x := x) (x' := x') (to := to) (fr := fr) (to' := to') (fr' := fr') (g := g) (t := t) (t' := t') (es := es) fun e he => h e (List.mem_cons_of_mem _ he)
    obtain ⟨h1,h2⟩ := h e (List.mem_cons_self ..)
    unfold rowP at ih ⊢
    rw [List.map_cons,List.filter_cons,List.filter_cons]
    by_cases c : to' e = (t' : Int)
    · have c2 := h1.2 c
      simp only [c,c2,beq_self_eq_true,if_true,List.map_cons,h2,ih]
    · have c2 := fun h => c (h1.1 h)
      have b1 : (to (g e) == (t : Int)) = false := by simpa using c2
      have b2 : (to' e == (t' : Int)) = false := by simpa using c
      simp only [b1,b2,Bool.false_eq_true,if_false,ih]
/- Sums of made values. -/
def SmP (a : Int) : Prop := ∃ k : Int,EqD k (-12) a (-2148) ∧ -1073741824 ≤ k ∧ k ≤ 1073741824
theorem qj5 {a b : Int} (ha : -32768 ≤ a ∧ a ≤ 32768) (hb : -32768 ≤ b ∧ b ≤ 32768) : -1073741824 ≤ a * b ∧ a * b ≤ 1073741824 := by
  have h : (a * b).natAbs ≤ 32768 * 32768 := by
    rw [Int.natAbs_mul]
    exact Nat.mul_le_mul (by omega) (by omega)
  omega
theorem qjp {a b : Int} (ha : SmV a) (hb : SmV b) : SmP (valF a * valF b) := by
  obtain ⟨k,k1,k2⟩ := ha.val
  obtain ⟨l,l1,l2⟩ := hb.val
  exact ⟨k * l,k1.mul l1,qj5 k2 l2⟩
theorem qgg : ∀ {as : List Int},(∀ a ∈ as,SmP a) → ∃ K : Int,EqD K (-12) (isum as) (-2148) ∧ -1073741824 * (as.length : Int) ≤ K ∧ K ≤ 1073741824 * (as.length : Int)
  | [],_ => ⟨0,EqD.zero _ _,by simp,by simp⟩
  | a :: as,h => by
    obtain ⟨k,k1,k2,k3⟩ := h a (List.mem_cons_self ..)
    obtain ⟨K,g1,g2,g3⟩ := qgg (as := as) fun x hx => h x (List.mem_cons_of_mem _ hx)
    refine ⟨k + K,k1.add (c := 0) (g := 0) g1,?_,?_⟩
    · rw [List.length_cons,Int.natCast_add]; omega
    · rw [List.length_cons,Int.natCast_add]; omega
theorem qdq {x : List Int} {to fr : Ent → Int} {es : List Ent} {t : Nat} (hl : es.length ≤ 1000) (h : ∀ e ∈ es,SmV e.2.2 ∧ SmV (x.getD (fr e).toNat 0)) : finB (compF x to fr es t) = true := by
  obtain ⟨K,g1,g2,g3⟩ := qgg (as := rowP x to fr t es) fun a ha => by
    unfold rowP at ha
    obtain ⟨e,he,rfl⟩ := List.mem_map.1 ha
    obtain ⟨h1,h2⟩ := h e (List.mem_filter.1 he).1
    exact qjp h1 h2
  have hlen : (rowP x to fr t es).length ≤ 1000 := by
    unfold rowP; rw [List.length_map]; exact Nat.le_trans (List.length_filter_le ..) hl
  have hr : Rep (isum (rowP x to fr t es)) (-2148) := Rep.of_mul g1 (Nat.le_trans (Qm (k := 41) (by omega)) (by omega)) (by omega) (by omega)
  obtain ⟨h1,h2,_⟩ := q43 hr 0
  unfold compF
  rw [q4o h1]; exact decide_eq_true h2
theorem q9z (l : List Int) {N : Nat} (hN : N ≤ 1000) : ∀ (d k : Nat) (out : List Int),N - k ≤ d → k ≤ N → out.length = k → (∀ v ∈ out,SmV v) →
    ∃ out',out'.length = N ∧ (∀ v ∈ out',SmV v) ∧ ∀ m n,3000000 < m → d < n → g23_L0 m n l (N : Int) out (k : Int) = some (.inl (out',()))
  | d,k,out,hd,hk,ho,hs => by
    by_cases h : k < N
    · obtain ⟨x,hx⟩ := qka l k
      obtain ⟨v,hv,ev⟩ := qd1 x
      cases d with
      | zero => omega
      | succ d =>
        obtain ⟨out',g1,g2,g3⟩ := q9z l hN d (k + 1) (out ++ [v]) (by omega) (by omega) (by simp [ho]) (fun y hy => by
          rcases List.mem_append.1 hy with hy | hy
          · exact hs y hy
          · rw [List.mem_singleton] at hy; subst hy; exact hv)
        refine ⟨out',g1,g2,fun m n hm hdn => ?_⟩
        obtain ⟨n,rfl⟩ : ∃ n',n = n' + 1 := ⟨n - 1,by omega⟩
        rw [g23_L0,bif_decide,if_pos (by omega),hx m,Option.bind_some]
        dsimp only
        rw [ev m hm,Option.bind_some]
        dsimp only
        rw [if_pos (by rw [ho]; show k + 1 ≤ _; omega),show w_i64 ((k : Int) + 1) = ((k + 1 : Nat) : Int) from wsucc (by omega)]
        exact g3 m n hm (by omega)
    · refine ⟨out,by omega,hs,fun m n hm hdn => ?_⟩
      obtain ⟨n,rfl⟩ : ∃ n',n = n' + 1 := ⟨n - 1,by omega⟩
      rw [g23_L0,bif_decide,if_neg (by omega)]
theorem q8y (l : List Int) {N : Nat} (hN : N ≤ 1000) : ∃ out,out.length = N ∧ (∀ v ∈ out,SmV v) ∧ ∀ m,3000000 < m → g23 m l (N : Int) = some (out,(),(),()) := by
  obtain ⟨out,h1,h2,h3⟩ := q9z l hN N 0 [] (by omega) (by omega) rfl (fun v h => by cases h)
  refine ⟨out,h1,h2,fun m hm => ?_⟩
  have := h3 m m hm (by omega)
  rw [Int.natCast_zero] at this
  rw [g23,this,Option.bind_some]
theorem qik (m : Nat) (rows : Int) (a0 a1 : Int) (a2 a3 a4 : List Int) (t21 : List Int) (b0 b1 : Int) (b2 b3 b4 : List Int) (t24 : Int) {y z : List Int} {C : Nat} (hC : C ≤ 1000) (hy : q08 C y) (hz : z.length = C) : ∀ (n k : Nat),C - k < n → k ≤ C →
    sparselaw09_MatrixAdjoint_L0 m n rows (C : Int) a0 a1 a2 a3 a4 t21 y b0 b1 b2 b3 b4 t24 z ((List.range k).map fun t => z.getD (y.getD t 0).toNat 0) (k : Int) = some (.inl (rows,(a0,a1,a2,a3,a4,()),t21,(b0,b1,b2,b3,b4,()),t24,z,((List.range C).map fun t => z.getD (y.getD t 0).toNat 0),()))
  | 0,k,h,_ => by omega
  | n + 1,k,h,hk0 => by
    rw [sparselaw09_MatrixAdjoint_L0,bif_decide]
    have hyl := hy.len
    by_cases hk : k < C
    · have hr := hy.rng k hk
      have ih := qik m rows a0 a1 a2 a3 a4 t21 b0 b1 b2 b3 b4 t24 hC hy hz n (k + 1) (by omega) (by omega)
      rw [List.range_succ,List.map_append] at ih
      rw [if_pos (by omega),if_pos (by omega),Int.toNat_natCast,Nat.zero_add,Nat.zero_add,if_pos (by omega),if_pos (by rw [List.length_map,List.length_range]; show k + 1 ≤ _; omega),show w_i64 ((k : Int) + 1) = ((k + 1 : Nat) : Int) from wsucc (by omega)]
      exact ih
    · have e : k = C := by omega
      subst e
      rw [if_neg (by omega)]
theorem qj2 (m : Nat) {R : Nat} (hR : R ≤ 1000) {x c d : List Int} (hx : q08 R x) (hc : c.length = R) (hd : d.length = R) (h : ∀ k,k < R → d.getD k 0 = c.getD (x.getD k 0).toNat 0) : ∀ (n k : Nat),R - k < n → k ≤ R →
    sparselaw09_MatrixAdjoint_L1 m n (R : Int) x c d (k : Int) = some (.inr (.inl ()))
  | 0,k,h,_ => by omega
  | n + 1,k,h1,hk0 => by
    rw [sparselaw09_MatrixAdjoint_L1,bif_decide]
    have hxl := hx.len
    by_cases hk : k < R
    · have hr := hx.rng k hk
      rw [if_pos (by omega),if_pos (by omega),if_pos (by omega),Int.toNat_natCast,Nat.zero_add,Nat.zero_add,if_pos (by omega),bif_ne,if_pos (h k hk),show w_i64 ((k : Int) + 1) = ((k + 1 : Nat) : Int) from wsucc (by omega)]
      exact qj2 m hR hx hc hd h n (k + 1) (by omega) (by omega)
    · rw [if_neg (by omega)]
theorem q29 (rows cols : Int) (l v p q : List Int) : ∃ m,sparselaw09_MatrixAdjoint m rows cols l v p q = some (true,(),(),(),(),(),(),()) := by
  refine ⟨4000000,?_⟩
  generalize hm0 : (4000000 : Nat) = m
  have hm : 3000000 < m := by omega
  have hm4 : 4000000 ≤ m := by omega
  have hm2 : m < 4611686018427387904 := by omega
  clear hm0
  rw [sparselaw09_MatrixAdjoint,bif_decide]
  by_cases hl : (l.length : Int) > 60
  · rw [if_pos hl,qij (by omega)]; rfl
  rw [if_neg hl]
  obtain ⟨R,hR,eR⟩ := Jv (a := rows) (n := 7) (by omega) (by omega)
  obtain ⟨C,hC,eC⟩ := Jv (a := cols) (n := 7) (by omega) (by omega)
  have eR' : g20 m rows 7 = some ((R : Int),(),(),()) := eR m
  have eC' : g20 m cols 7 = some ((C : Int),(),(),()) := eC m
  obtain ⟨es,hE,hS,hlen,hq⟩ := q9h (r := R) (c := C) (by omega) (by omega) (l := l) (by omega)
  obtain ⟨w,wl,ws,we⟩ := q8y v (N := R) (by omega)
  obtain ⟨z,zl,zs,ze⟩ := q8y v (N := C) (by omega)
  obtain ⟨x,px,ex⟩ := q5y p (N := R) (by omega)
  obtain ⟨y,py,ey⟩ := q5y q (N := C) (by omega)
  have ha : C * R ≤ 7 * 7 := Nat.mul_le_mul (by omega) (by omega)
  have ha' : R * C ≤ 7 * 7 := Nat.mul_le_mul (by omega) (by omega)
  have M := qcg (r := R) (c := C) hE (by omega) (by omega) (by omega)
  have U : ∀ x ∈ packV es R C,U64 x := fun x hx => by
    obtain ⟨e,he,rfl⟩ := q4r hx; exact (hS e he).u
  have p0 : ents (packS es R C) (packI es R C) (packV es R C) C 0 = can es R C := q0w
  have sm0 : ∀ e ∈ can es R C,SmV e.2.2 := fun e he => by
    obtain ⟨i,j,_,_,h,rfl⟩ := q2k.1 he
    exact hS _ (Zh h)
  have len0 : (can es R C).length ≤ 100 := by rw [qk0]; have := q1r es R C; omega
  have hD0 : DistE (can es R C) := p0 ▸ M.dist
  have hE0 : EntsOK R C (can es R C) := p0 ▸ M.ents
  have hEe := Jy hE0
  -- the transpose
  obtain ⟨hE1,eT⟩ := q9b (m := m) (by omega) M.ok M.vl (by have := M.sl; omega) M.chk
  rw [p0] at hE1 eT
  have hD1 : DistE ((can es R C).map swE) := q3d hD0 fun a _ b _ h1 h2 => ⟨h2,h1⟩
  have M1 := qcg (r := C) (c := R) hE1 (by omega) (by omega) (by omega)
  have U1 : ∀ x ∈ packV ((can es R C).map swE) C R,U64 x := fun x hx => by
    obtain ⟨e,he,rfl⟩ := q4r hx
    obtain ⟨e0,he0,rfl⟩ := List.mem_map.1 he
    exact (sm0 _ he0).u
  have p1 : ents (packS ((can es R C).map swE) C R) (packI ((can es R C).map swE) C R) (packV ((can es R C).map swE) C R) R 0 = can ((can es R C).map swE) C R := q0w
  have pm1 := q3h hE1 hD1
  have gz : ∀ (u : List Int),(∀ v ∈ u,SmV v) → ∀ i : Nat,SmV (u.getD i 0) := fun u hu i => by
    by_cases h : i < u.length
    · exact hu _ (Qz h)
    · rw [Xn (by omega)]; exact qi3
  have ea := mv_eq hm4 M1 U1 (x := w) (fun v hv => (ws v hv).u) wl
  have eb := mt_eq hm4 M U (x := w) (fun v hv => (ws v hv).u) wl
  have eqC : ∀ t : Nat,compF w (fun e => e.1) (fun e => e.2.1) (can ((can es R C).map swE) C R) t = compF w (fun e => e.2.1) (fun e => e.1) (can es R C) t := fun t => by
    rw [q5t pm1.symm]
    unfold compF
    rw [q81 (x := w) (x' := w) (g := swE) (to := fun e => e.1) (fr := fun e => e.2.1) (t := t) (to' := fun e => e.2.1) (fr' := fun e => e.1) (t' := t) (es := can es R C) fun e _ => ⟨Iff.rfl,rfl⟩]
  have fb : ∀ t,t < C → finB (compF w (fun e => e.2.1) (fun e => e.1) (can es R C) t) = true := fun t _ => qdq (by omega) fun e he => ⟨sm0 e he,gz w ws _⟩
  rw [p1] at ea
  rw [p0] at eb
  have hwf : ∀ v ∈ w,FinF v := fun v hv => (ws v hv).f
  rw [if_pos hwf,if_pos (fun t ht => by rw [eqC]; exact fb t ht)] at ea
  rw [if_pos hwf,if_pos fb] at eb
  -- permuted
  obtain ⟨row,col,r1,r2,hE2,r3,r4,eP⟩ := qe1 M.ok M.vl (by have := M.sl; omega) M.chk px py
  rw [p0] at hE2 eP
  have eP := eP m (by omega)
  have hD2 : DistE ((can es R C).map (pmE row col)) := q3d hD0 fun a ha b hb h1 h2 => by
    obtain ⟨a1,a2,_⟩ := hEe a ha
    obtain ⟨b1,b2,_⟩ := hEe b hb
    obtain ⟨t,ht,t1,t2⟩ := r3 a.1 a1.1 a1.2
    obtain ⟨t',ht',t1',t2'⟩ := r3 b.1 b1.1 b1.2
    obtain ⟨s,hs,s1,s2⟩ := r4 a.2.1 a2.1 a2.2
    obtain ⟨s',hs',s1',s2'⟩ := r4 b.2.1 b2.1 b2.2
    simp only [pmE] at h1 h2
    have : t = t' := by omega
    have : s = s' := by omega
    subst_vars
    exact ⟨by rw [← t2,← t2'],by rw [← s2,← s2']⟩
  have M2 := qcg (r := R) (c := C) hE2 (by omega) (by omega) (by omega)
  have U2 : ∀ x ∈ packV ((can es R C).map (pmE row col)) R C,U64 x := fun x hx => by
    obtain ⟨e,he,rfl⟩ := q4r hx
    obtain ⟨e0,he0,rfl⟩ := List.mem_map.1 he
    exact (sm0 _ he0).u
  have p2 : ents (packS ((can es R C).map (pmE row col)) R C) (packI ((can es R C).map (pmE row col)) R C) (packV ((can es R C).map (pmE row col)) R C) C 0 = can ((can es R C).map (pmE row col)) R C := q0w
  have pm2 := q3h hE2 hD2
  obtain ⟨mv,hmv⟩ : ∃ mv,mv = (List.range C).map fun t => z.getD (y.getD t 0).toNat 0 := ⟨_,rfl⟩
  have mvl : mv.length = C := by rw [hmv]; simp
  have mvs : ∀ v ∈ mv,SmV v := fun v hv => by
    rw [hmv] at hv
    obtain ⟨t,_,rfl⟩ := List.mem_map.1 hv
    exact gz z zs _
  have mvg : ∀ t,t < C → mv.getD t 0 = z.getD (y.getD t 0).toNat 0 := fun t ht => by
    rw [hmv]; simp [List.getD,ht]
  have ec := mv_eq hm4 M U (x := z) (fun v hv => (zs v hv).u) zl
  have ed := mv_eq hm4 M2 U2 (x := mv) (fun v hv => (mvs v hv).u) mvl
  rw [p0] at ec
  rw [p2] at ed
  have fc : ∀ t,t < R → finB (compF z (fun e => e.1) (fun e => e.2.1) (can es R C) t) = true := fun t _ => qdq (by omega) fun e he => ⟨sm0 e he,gz z zs _⟩
  have eqD : ∀ t : Nat,t < R → compF mv (fun e => e.1) (fun e => e.2.1) (can ((can es R C).map (pmE row col)) R C) t = compF z (fun e => e.1) (fun e => e.2.1) (can es R C) (x.getD t 0).toNat := fun t ht => by
    rw [q5t pm2.symm]
    unfold compF
    have hxr := px.rng t ht
    rw [q81 (x := mv) (x' := z) (g := pmE row col) (to := fun e => e.1) (fr := fun e => e.2.1) (t := t) (to' := fun e => e.1) (fr' := fun e => e.2.1) (t' := (x.getD t 0).toNat) (es := can es R C) fun e he => by
      obtain ⟨a1,a2,_⟩ := hEe e he
      obtain ⟨k,hk,k1,k2⟩ := r3 e.1 a1.1 a1.2
      obtain ⟨s,hs,s1,s2⟩ := r4 e.2.1 a2.1 a2.2
      constructor
      · show row.getD e.1.toNat 0 = (t : Int) ↔ e.1 = (((x.getD t 0).toNat : Nat) : Int)
        rw [k1,Int.toNat_of_nonneg hxr.1]
        constructor
        · intro h
          have : k = t := by omega
          subst this; exact k2.symm
        · intro h
          have := px.inj k t hk ht (by rw [k2,h])
          omega
      · show valF e.2.2 * valF (mv.getD (col.getD e.2.1.toNat 0).toNat 0) = valF e.2.2 * valF (z.getD e.2.1.toNat 0)
        rw [s1,Int.toNat_natCast,mvg s hs,s2]]
  have fd : ∀ t,t < R → finB (compF mv (fun e => e.1) (fun e => e.2.1) (can ((can es R C).map (pmE row col)) R C) t) = true := fun t ht => by
    rw [eqD t ht]
    have hxr := px.rng t ht
    exact fc _ (by omega)
  have hzf : ∀ v ∈ z,FinF v := fun v hv => (zs v hv).f
  have hmf : ∀ v ∈ mv,FinF v := fun v hv => (mvs v hv).f
  rw [if_pos hzf,if_pos fc] at ec
  rw [if_pos hmf,if_pos fd] at ed
  have hab : ((List.range C).map (compF w (fun e => e.1) (fun e => e.2.1) (can ((can es R C).map swE) C R))) = ((List.range C).map (compF w (fun e => e.2.1) (fun e => e.1) (can es R C))) := List.map_congr_left fun t _ => eqC t
  rw [hab] at ea
  have hA0 := qik m (R : Int) (R : Int) (C : Int) (packS es R C) (packI es R C) (packV es R C) x (R : Int) (C : Int) (packS ((can es R C).map (pmE row col)) R C) (packI ((can es R C).map (pmE row col)) R C) (packV ((can es R C).map (pmE row col)) R C) 0 (by omega) py zl m 0 (by omega) (by omega)
  rw [List.range_zero,List.map_nil,Int.natCast_zero,← hmv] at hA0
  have hA1 := qj2 m (R := R) (by omega) px (c := (List.range R).map (compF z (fun e => e.1) (fun e => e.2.1) (can es R C))) (d := (List.range R).map (compF mv (fun e => e.1) (fun e => e.2.1) (can ((can es R C).map (pmE row col)) R C))) (by simp) (by simp) (fun k hk => by
    have hxr := px.rng k hk
    have h2 : (x.getD k 0).toNat < R := by omega
    have g1 : ((List.range R).map (compF mv (fun e => e.1) (fun e => e.2.1) (can ((can es R C).map (pmE row col)) R C))).getD k 0 = compF mv (fun e => e.1) (fun e => e.2.1) (can ((can es R C).map (pmE row col)) R C) k := by simp [List.getD,hk]
    have g2 : ((List.range R).map (compF z (fun e => e.1) (fun e => e.2.1) (can es R C))).getD (x.getD k 0).toNat 0 = compF z (fun e => e.1) (fun e => e.2.1) (can es R C) (x.getD k 0).toNat := by
      generalize (x.getD k 0).toNat = i at *
      simp [List.getD,h2]
    rw [g1,g2,eqD k hk]) m 0 (by omega) (by omega)
  rw [Int.natCast_zero] at hA1
  rw [eR',Option.bind_some,eC',Option.bind_some]
  dsimp only
  rw [hq m hm,Option.bind_some]
  dsimp only
  rw [eT,Option.bind_some,we m hm,Option.bind_some]
  dsimp only
  rw [ea,Option.bind_some,eb,Option.bind_some]
  dsimp only
  rw [bif_ne,if_pos rfl,bif_ne,if_pos rfl,bif_ne,if_pos rfl,bif_ne,if_pos (by simp),qc0 (by simp; omega) (by simp; omega),Option.bind_some]
  dsimp only
  rw [Bool.not_true,cond_false,ex m (by omega),Option.bind_some,ey m (by omega),Option.bind_some]
  dsimp only
  rw [eP,Option.bind_some,ze m hm,Option.bind_some]
  dsimp only
  rw [hA0,Option.bind_some]
  dsimp only
  rw [ec,Option.bind_some,ed,Option.bind_some]
  dsimp only
  rw [bif_ne,if_pos rfl,bif_ne,if_pos rfl,bif_ne,if_pos rfl,bif_ne,if_pos (by simp),bif_ne,if_pos (by simp),hA1,Option.bind_some]
  dsimp only
  rw [qij (by omega)]; rfl
end Go.Vs.F
