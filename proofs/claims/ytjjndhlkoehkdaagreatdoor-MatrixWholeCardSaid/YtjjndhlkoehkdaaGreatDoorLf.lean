/- Exact floats of dyads: program and document. Scaling a matrix: program and document. Scale and Shift of a matrix: program and document agree. Shifting a matrix: program and document agree; the law MatrixScales. Numbers that floats have: rounding is exact. Made values, and shifting exactly. The law MatrixShifted. The law MatrixShifted, joined. The integers of a matrix. The law MatrixWhole. Sums of dyads; products of a matrix and a vector. Products of a matrix and a vector (printed by a small program: both directions are alike). The law MatrixAdjoint. -/
import Derived.Test.YtjjndhlkoehkdaaGreatDoorLe
import Derived.Test.YtjjndhlkoehkdaaGreatDoorLb

/-! MxEa -/
set_option linter.unusedVariables false
set_option linter.unusedSimpArgs false
namespace Go.Vs.F
theorem q3c {neg : Bool} {f : Int} (h1 : 0 ≤ f) (h2 : f < 9223372036854775808) : U64 (sgnF neg f) := by
  unfold sgnF U64; cases neg <;> simp <;> omega
theorem q8n {neg : Bool} {mode : Int} : U64 (overF neg mode) := by
  unfold overF; split <;> exact q3c (by omega) (by omega)
theorem qg0 {neg : Bool} {n : Nat} {u mode : Int} (h1 : -1074 ≤ u) (hn : n ≤ 9007199254740992) : U64 (packF neg n u mode) := by
  unfold packF
  split
  · split
    · exact q8n
    · exact q3c (by omega) (by omega)
  · split
    · exact q3c (by omega) (by omega)
    · split
      · exact q8n
      · exact q3c (by omega) (by omega)
theorem qdx {neg : Bool} {v : Nat} {e : Int} {more : Bool} {mode : Int} : U64 (q0a neg v e more mode) := qg0 (q76 v e) q6v
theorem q2b {d : Bool × Bool × List Int × Int × Unit} {mode : Int} : U64 (Xr d mode) := by
  unfold Xr
  split
  · exact ⟨by omega,by omega⟩
  · split
    · exact ⟨by omega,by omega⟩
    · exact qdx
def I64 (a : Int) : Prop := -9223372036854775808 ≤ a ∧ a < 9223372036854775808
end Go.Vs.F

/-! MxEb -/
set_option linter.unusedVariables false
set_option linter.unusedSimpArgs false
namespace Go.Vs.F
end Go.Vs.F

/-! MxEc -/
set_option linter.unusedVariables false
set_option linter.unusedSimpArgs false
set_option maxRecDepth 100000
namespace Go.Vs.F
/- A result of at most that size. -/
section
variable {R C : Nat} {S I V : List Int}
theorem q6y (hM : MatOK R C S I) (hV : V.length = I.length) : ∀ (d k : Nat),k + d = C → ∀ e ∈ ents S I V d k,e.2.2 ∈ V
  | 0,k,h => by intro e he; cases he
  | d + 1,k,h => by
    intro e he
    rw [ents] at he
    rcases List.mem_append.1 he with he | he
    · unfold Xb at he
      obtain ⟨t,ht,rfl⟩ := List.mem_map.1 he
      rw [List.mem_range'_1] at ht
      have h1 := hM.st.rng (j := k + 1) (by omega)
      have h2 := hM.st.rng (j := k) (by omega)
      exact q45 (by omega)
    · exact q6y hM hV d (k + 1) (by omega) e he
/- What stands at a place. -/
theorem qiz {m : Nat} {xs : List Int} {t : Int} (hl : xs.length ≤ 100000) (hm : 100001 < m) (ha : ∀ i j,i < j → j < xs.length → xs.getD i 0 < xs.getD j 0) (hn : ∀ k,k < xs.length → xs.getD k 0 ≠ t) :
    ∃ r : Nat,g143 m xs t = some (((r : Int),false,()),(),(),()) := by
  obtain ⟨r,e,h1,h2,h3⟩ := BS_L0 m (t := t) (a := (xs.length : Int)) hl ha m 0 xs.length (by omega) (by omega) (Nat.le_refl _) (fun k hk => absurd hk (Nat.not_lt_zero _)) (fun k a b => by omega)
  rw [Int.natCast_zero] at e
  refine ⟨r,?_⟩
  rw [g143,e,Option.bind_some]
  dsimp only
  rw [bif_decide]
  by_cases c : r < xs.length
  · have c1 : (0 : Int) ≤ (r : Int) ∧ (r : Int) < (xs.length : Int) := by omega
    rw [if_pos (by omega),if_pos c1,Int.toNat_natCast,bif_eq,if_neg (hn r c),if_pos c1,g187,Option.bind_some]
    simp
  · rw [if_neg (by omega)]
theorem qj0 {m : Nat} (hm : 3000000 < m) (h : MV R C S I V) {i : Int} {j' : Nat} (hjC : j' < C) (hn : ∀ v,((i,((j' : Int),v)) : Ent) ∉ ents S I V C 0) : g85 m (R : Int) (C : Int) S I V i (j' : Int) = some ((0,false,()),(),(),(),()) := by
  have hl := h.ok.st.len
  have hsz := h.ok.sz
  have hcz := h.ok.cz
  have hvl := h.vl
  have a := h.ok.st.rng (j := j') (by omega)
  have b := h.ok.st.rng (j := j' + 1) (by omega)
  have mo := h.ok.st.mono j' hjC
  have c1 : (0 : Int) ≤ (j' : Int) ∧ (j' : Int) < (S.length : Int) := by omega
  have c2 : (0 : Int) ≤ ((j' + 1 : Nat) : Int) ∧ ((j' + 1 : Nat) : Int) < (S.length : Int) := by omega
  have c3 : (0 : Int) ≤ S.getD j' 0 ∧ S.getD j' 0 ≤ S.getD (j' + 1) 0 ∧ S.getD (j' + 1) 0 ≤ (I.length : Int) := by omega
  have hcl := Yi h.ok.st hjC
  have hcg : ∀ k,k < (colOf S I j').length → (colOf S I j').getD k 0 = I.getD ((S.getD j' 0).toNat + k) 0 := fun k hk => q1e h.ok.st hjC hk
  obtain ⟨r,hbs⟩ := qiz (m := m) (xs := colOf S I j') (t := i) (by omega) (by omega) (fun x y hxy hy => by
    rw [hcg x (by omega),hcg y hy]
    have := h.ok.asc hjC (y - x - 1) ((S.getD j' 0).toNat + x) (by omega) (by omega)
    rw [show (S.getD j' 0).toNat + x + (y - x - 1 + 1) = (S.getD j' 0).toNat + y by omega] at this
    exact this) (fun k hk e => by
    rw [hcg k hk] at e
    exact hn (V.getD ((S.getD j' 0).toNat + k) 0) (Zi.2 ⟨j',(S.getD j' 0).toNat + k,by omega,by omega,by omega,by omega,by rw [e]⟩))
  rw [g85,if_pos c1,show w_i64 ((j' : Int) + 1) = ((j' + 1 : Nat) : Int) from wsucc (by omega),if_pos c2]
  simp only [Int.toNat_natCast]
  rw [if_pos c3]
  have hbs' : g143 m ((I.drop (S.getD j' 0).toNat).take ((S.getD (j' + 1) 0).toNat - (S.getD j' 0).toNat)) i = some (((r : Int),false,()),(),(),()) := hbs
  rw [hbs',Option.bind_some]
  simp only [Bool.not_false,cond_true]
theorem qd7 (m : Nat) {i : Int} {j : Nat} (hj : j + 1 < S.length) (hj2 : j < 4611686018427387903) {e : Nat} (he : S.getD (j + 1) 0 = (e : Int)) (hI : e ≤ I.length) (hv : V.length = I.length) (hb : I.length ≤ 100000) (a0 a1 : Int) : ∀ (n k : Nat),e - k < n → k ≤ e →
    (∃ t,k ≤ t ∧ t < e ∧ I.getD t 0 = i ∧ g38_L0 m n i (j : Int) a0 a1 S I V (k : Int) = some (.inl (V.getD t 0,()))) ∨
    ((∀ t,k ≤ t → t < e → I.getD t 0 ≠ i) ∧ g38_L0 m n i (j : Int) a0 a1 S I V (k : Int) = some (.inr (.inl ())))
  | 0,k,h,_ => by omega
  | n + 1,k,h,hk0 => by
    have w : w_i64 ((j : Int) + 1) = ((j + 1 : Nat) : Int) := wsucc (by omega)
    rw [g38_L0,w,if_pos (by omega),Int.toNat_natCast,he,bif_decide]
    by_cases hk : k < e
    · rw [if_pos (by omega),if_pos (by omega),Int.toNat_natCast,bif_eq]
      by_cases c : I.getD k 0 = i
      · rw [if_pos c,if_pos (by omega)]
        exact .inl ⟨k,Nat.le_refl _,hk,c,rfl⟩
      · rw [if_neg c,show w_i64 ((k : Int) + 1) = ((k + 1 : Nat) : Int) from wsucc (by omega)]
        rcases qd7 m hj hj2 he hI hv hb a0 a1 n (k + 1) (by omega) (by omega) with ⟨t,h1,h2,h3,h4⟩ | ⟨h1,h2⟩
        · exact .inl ⟨t,by omega,h2,h3,h4⟩
        · refine .inr ⟨fun t a b => ?_,h2⟩
          by_cases e : t = k
          · subst e; exact c
          · exact h1 t (by omega) b
    · rw [if_neg (by omega)]
      exact .inr ⟨fun t a b => by omega,rfl⟩
/- Both look-ups. -/
theorem qj3 {m : Nat} (hm : 3000000 < m) (h : MV R C S I V) {i : Int} {j : Nat} (hj : j < C) :
    ∃ v b,g85 m (R : Int) (C : Int) S I V i (j : Int) = some ((v,b,()),(),(),(),()) ∧ g38 m (R : Int) (C : Int) S I V i (j : Int) = some (v,(),(),(),()) ∧
      ((b = true ∧ ((i,((j : Int),v)) : Ent) ∈ ents S I V C 0) ∨ (b = false ∧ v = 0 ∧ ∀ v',((i,((j : Int),v')) : Ent) ∉ ents S I V C 0)) := by
  have hl := h.ok.st.len
  have hsz := h.ok.sz
  have hcz := h.ok.cz
  have hvl := h.vl
  have a := h.ok.st.rng (j := j) (by omega)
  have b := h.ok.st.rng (j := j + 1) (by omega)
  have mo := h.ok.st.mono j hj
  have c1 : (0 : Int) ≤ (j : Int) ∧ (j : Int) < (S.length : Int) := by omega
  have e1 : S.getD j 0 = (((S.getD j 0).toNat : Nat) : Int) := by omega
  have hpre : g38 m (R : Int) (C : Int) S I V i (j : Int) = (g38_L0 m m i (j : Int) (R : Int) (C : Int) S I V (((S.getD j 0).toNat : Nat) : Int)).bind fun y2 => match y2 with
      | .inl z3 => some (z3.1,((),(),(),()))
      | .inr (.inl z4) => some (0,((),(),(),()))
      | .inr (.inr e) => e.elim := by
    rw [g38,Xv (by omega) (by omega) (by omega),h.chk]
    simp only [Option.bind_some,bif_ne,if_true,bif_decide]
    rw [if_neg (by omega),if_neg (by omega),if_pos c1,Int.toNat_natCast,← e1]
    rfl
  have hr := qd7 (S := S) (I := I) (V := V) m (i := i) (j := j) (by omega) (by omega) (e := (S.getD (j + 1) 0).toNat) (by omega) (by omega) hvl (by omega) (R : Int) (C : Int) m (S.getD j 0).toNat (by omega) (by omega)
  by_cases hx : ∃ v,((i,((j : Int),v)) : Ent) ∈ ents S I V C 0
  · obtain ⟨v,hv⟩ := hx
    refine ⟨v,true,qhq hm h hv,?_,.inl ⟨rfl,hv⟩⟩
    rcases hr with ⟨t,h1,h2,h3,h4⟩ | ⟨h1,h2⟩
    · rw [hpre,h4,Option.bind_some]
      have : ((i,((j : Int),V.getD t 0)) : Ent) ∈ ents S I V C 0 := Zi.2 ⟨j,t,by omega,by omega,by omega,by omega,by rw [h3]⟩
      rw [h.dist.val hv this]
    · obtain ⟨j',t,_,hj',t1,t2,e⟩ := Zi.1 hv
      simp only [Prod.mk.injEq] at e
      obtain ⟨q1,q2,q3⟩ := e
      have : j = j' := by omega
      subst this
      exact absurd q1.symm (h1 t t1 t2)
  · have hx' : ∀ v',((i,((j : Int),v')) : Ent) ∉ ents S I V C 0 := fun v' hv => hx ⟨v',hv⟩
    refine ⟨0,false,qj0 hm h hj hx',?_,.inr ⟨rfl,rfl,hx'⟩⟩
    rcases hr with ⟨t,h1,h2,h3,h4⟩ | ⟨h1,h2⟩
    · exact absurd (Zi.2 ⟨j,t,by omega,by omega,by omega,by omega,by rw [h3]⟩) (hx' (V.getD t 0))
    · rw [hpre,h2,Option.bind_some]
end
end Go.Vs.F

/-! MxEd -/
set_option linter.unusedVariables false
set_option linter.unusedSimpArgs false
set_option maxRecDepth 100000
namespace Go.Vs.F
def valF (f : Int) : Int := sc (ofZ f) (ofE f) (-1074)
theorem qfe {f : Int} (h : FinF f) : ofD f = mkD (valF f) (-1074) := by
  have he := q5w (f := f)
  unfold ofD valF
  rw [if_pos h,q2u (by omega)]
theorem val_ok {f : Int} (h : FinF f) : OkD (valF f) (-1074) := by
  have he := q5w (f := f)
  have := qek h
  unfold OkD valF at *
  rwa [q2u (by omega)]
section
variable {R C : Nat} {S I V : List Int}
theorem MV.valU (h : MV R C S I V) (hU : ∀ x ∈ V,U64 x) {e : Ent} (he : e ∈ Go.Vs.F.ents S I V C 0) : U64 e.2.2 ∧ FinF e.2.2 := by
  have h1 := hU _ (q6y h.ok h.vl C 0 (by omega) e he)
  obtain ⟨_,_,h3⟩ := Ze h.ents e he
  rw [qbc h1] at h3
  exact ⟨h1,of_decide_eq_true h3⟩
theorem qgu : U64 0 := ⟨by omega,by omega⟩
theorem qhg : FinF 0 := by unfold FinF fexp; decide
end
end Go.Vs.F
namespace Go.Vs.F
open Go.Vs
end Go.Vs.F

/-! MxEe -/
set_option linter.unusedVariables false
set_option linter.unusedSimpArgs false
namespace Go.Vs.F
theorem qlb {neg : Bool} {q r : Int} (h1 : 0 ≤ q) (h2 : q < 2048) (h3 : 0 ≤ r) (h4 : r < 4503599627370496) :
    fexp (sgnF neg (q * 4503599627370496 + r)) = q ∧ ffrac (sgnF neg (q * 4503599627370496 + r)) = r ∧ fneg (sgnF neg (q * 4503599627370496 + r)) = neg := by
  unfold fexp ffrac fneg sgnF
  cases neg <;> simp <;> omega
/- Fits a float exactly. -/
def Rep (z e : Int) : Prop := z = 0 ∨ ∃ w f,NF z e w f ∧ blen w.natAbs ≤ 53 ∧ -1074 ≤ f ∧ f + (blen w.natAbs : Int) ≤ 1024
theorem qk8 {z e : Int} (h : Rep z e) (mode : Int) : U64 (Xr (mkD z e) mode) ∧ FinF (Xr (mkD z e) mode) ∧ EqD (ofZ (Xr (mkD z e) mode)) (ofE (Xr (mkD z e) mode)) z e := by
  refine ⟨q2b,?_⟩
  rcases h with rfl | ⟨w,f,k,h1,h2,h3⟩
  · have : Xr (mkD 0 e) mode = 0 := rfl
    rw [this]
    refine ⟨qhg,?_⟩
    have : ofZ 0 = 0 := by unfold ofZ fexp ffrac fneg; decide
    rw [this]; exact EqD.zero _ _
  · by_cases hw : w = 0
    · subst hw
      have hz : z = 0 := by
        have := k.eq.sgn
        rw [show sgn 0 = 0 from rfl] at this
        exact Qu.1 this.symm
      subst hz
      have : Xr (mkD 0 e) mode = 0 := rfl
      rw [this]
      refine ⟨qhg,?_⟩
      have : ofZ 0 = 0 := by unfold ofZ fexp ffrac fneg; decide
      rw [this]; exact EqD.zero _ _
    · have hv : w.natAbs ≠ 0 := by omega
      have hr : Xr (mkD z e) mode = q0a (decide (w < 0)) w.natAbs f false mode := by
        rw [k.md]; unfold Xr
        rw [if_neg (by simp),if_neg (fun h => hv (Jh.1 h))]
        show q0a _ (vl (lim w.natAbs)) _ _ _ = _
        rw [qx]
      rw [hr]
      have hu : unitF w.natAbs f ≤ f := by unfold unitF; omega
      have hmu : multF (decide (w < 0)) w.natAbs f false mode = w.natAbs * 2 ^ (f - unitF w.natAbs f).toNat := by unfold multF; rw [if_pos hu]
      have hbn : blen (w.natAbs * 2 ^ (f - unitF w.natAbs f).toNat) = (f - unitF w.natAbs f).toNat + blen w.natAbs := by
        rw [Nat.mul_comm]; exact J8 hv
      unfold q0a
      rw [hmu]
      have hEq : EqD (sg (decide (w < 0)) (w.natAbs * 2 ^ (f - unitF w.natAbs f).toNat)) (unitF w.natAbs f) z e := by
        refine EqD.trans ⟨unitF w.natAbs f,by omega,hu,?_⟩ k.eq
        rw [qeu]
        unfold sc sg
        rw [Int.natCast_mul,Int.natCast_pow]
        show (if decide (w < 0) = true then -(((w.natAbs : Nat) : Int) * 2 ^ (f - unitF w.natAbs f).toNat) else ((w.natAbs : Nat) : Int) * 2 ^ (f - unitF w.natAbs f).toNat) = w * 2 ^ (f - unitF w.natAbs f).toNat
        by_cases c : w < 0
        · rw [if_pos (by simpa using c),← Int.neg_mul,show -((w.natAbs : Nat) : Int) = w by omega]
        · rw [if_neg (by simpa using c),show ((w.natAbs : Nat) : Int) = w by omega]
      have hnpos : w.natAbs * 2 ^ (f - unitF w.natAbs f).toNat ≠ 0 := Nat.mul_ne_zero hv (by have := Nat.pow_pos (n := (f - unitF w.natAbs f).toNat) (show 0 < 2 by omega); omega)
      have hlt := q2h (w.natAbs * 2 ^ (f - unitF w.natAbs f).toNat)
      have hge := qes hnpos
      have hub : (unitF w.natAbs f = f + (blen w.natAbs : Int) - 53 ∧ -1074 ≤ f + (blen w.natAbs : Int) - 53) ∨ (unitF w.natAbs f = -1074 ∧ f + (blen w.natAbs : Int) - 53 < -1074) := by unfold unitF; omega
      generalize w.natAbs * 2 ^ (f - unitF w.natAbs f).toNat = n at *
      generalize unitF w.natAbs f = u at *
      generalize decide (w < 0) = neg at *
      have hb1 : 1 ≤ blen w.natAbs := by rw [Qn hv]; omega
      have c52 : (2 : Nat) ^ 52 = 4503599627370496 := by decide
      have c53 : (2 : Nat) ^ 53 = 9007199254740992 := by decide
      have hn53 : n < 9007199254740992 := by
        have : 2 ^ blen n ≤ 2 ^ 53 := Nat.pow_le_pow_right (by omega) (by omega)
        omega
      unfold packF
      rw [if_neg (by omega)]
      by_cases c : n < 4503599627370496
      · have hu2 : u = -1074 := by
          rcases hub with ⟨a,b⟩ | ⟨a,_⟩
          · have : 2 ^ 52 ≤ 2 ^ (blen n - 1) := Nat.pow_le_pow_right (by omega) (by omega)
            omega
          · exact a
        rw [if_pos c]
        obtain ⟨p1,p2,p3⟩ := qlb (neg := neg) (q := 0) (r := (n : Int)) (by omega) (by omega) (by omega) (by omega)
        rw [Int.zero_mul,Int.zero_add] at p1 p2 p3
        have o1 : ofZ (sgnF neg (n : Int)) = sg neg n := by
          unfold ofZ; rw [p1,p2,p3,if_pos rfl]; unfold sg; cases neg <;> simp
        have o2 : ofE (sgnF neg (n : Int)) = u := by unfold ofE; rw [p1,if_pos rfl,hu2]
        refine ⟨by unfold FinF; rw [p1]; omega,?_⟩
        rw [o1,o2]; exact hEq
      · have hu2 : u + 1075 < 2047 := by
          rcases hub with ⟨a,b⟩ | ⟨a,b⟩ <;> omega
        have hu3 : -1074 ≤ u := by rcases hub with ⟨a,b⟩ | ⟨a,b⟩ <;> omega
        rw [if_neg c,if_neg (by omega)]
        obtain ⟨p1,p2,p3⟩ := qlb (neg := neg) (q := u + 1075) (r := (n : Int) - 4503599627370496) (by omega) (by omega) (by omega) (by omega)
        have o1 : ofZ (sgnF neg ((u + 1075) * 4503599627370496 + ((n : Int) - 4503599627370496))) = sg neg n := by
          unfold ofZ; rw [p1,p2,p3,if_neg (show ¬ u + 1075 = 0 by omega),show (n : Int) - 4503599627370496 + 4503599627370496 = (n : Int) by omega]; unfold sg
          cases neg
          · simp
          · simp
        have o2 : ofE (sgnF neg ((u + 1075) * 4503599627370496 + ((n : Int) - 4503599627370496))) = u := by unfold ofE; rw [p1,if_neg (by omega)]; omega
        refine ⟨by unfold FinF; rw [p1]; omega,?_⟩
        rw [o1,o2]; exact hEq
/- A small multiple of a power of two fits. -/
theorem Rep.of_mul {z e k g : Int} (h : EqD k g z e) (hk : blen k.natAbs ≤ 53) (h1 : -1074 ≤ g) (h2 : g ≤ 900) : Rep z e := by
  by_cases hk0 : k = 0
  · subst hk0
    have := h.sgn
    rw [show sgn 0 = 0 from rfl] at this
    exact .inl (Qu.1 this.symm)
  · have hok : OkD k g := X3.2 (.inr ⟨by omega,by have := Jq (n := k.natAbs); omega⟩)
    obtain ⟨w,f,n⟩ := hok.nf
    have hn : k.natAbs ≠ 0 := by omega
    have hmk : mkD k g = (false,decide (k < 0),lim (k.natAbs / 2 ^ tz k.natAbs),g + (tz k.natAbs : Int),()) := by
      unfold mkD; rw [if_neg hk0,if_neg (by have := X3.1 hok; omega)]
    have hmd := n.md
    rw [hmk] at hmd
    simp only [Prod.mk.injEq] at hmd
    have hf : f = g + (tz k.natAbs : Int) := hmd.2.2.2.1.symm
    have hwn : w.natAbs = k.natAbs / 2 ^ tz k.natAbs := by rw [← qx w.natAbs,← hmd.2.2.1,qx]
    have hbt := q7i hn
    refine .inr ⟨w,f,⟨n.eq.trans h,by rw [← h.mk]; exact n.md,n.zero,n.odd,n.lo,n.hi⟩,?_,by omega,?_⟩
    · rw [hwn]; omega
    · rw [hwn]; omega
end Go.Vs.F

/-! MxEf -/
set_option linter.unusedVariables false
set_option linter.unusedSimpArgs false
set_option maxRecDepth 100000
namespace Go.Vs.F
theorem ql6 {m : Nat} (hm : 3000000 < m) {n : Int} (h : I64 n) : g89 m n = some (mkD n 0,(),()) := by
  have hb : blen n.natAbs ≤ 1000 := Nat.le_trans (Xi (k := 64) (by unfold I64 at h; omega)) (by omega)
  rw [g89,Zw (by omega) h.1 h.2,Option.bind_some]
  dsimp only
  rw [q3g hm (by omega) (by omega) (by omega)]; rfl
structure SmV (v : Int) : Prop where
  u : U64 v
  f : FinF v
  k : ∃ k : Int,EqD (ofZ v) (ofE v) k (-6) ∧ -32768 ≤ k ∧ k ≤ 32768
theorem SmV.fin {v : Int} (h : SmV v) : finB v = true := by rw [qbc h.u]; exact decide_eq_true h.f
theorem ql3 {m : Nat} (hm : 3000000 < m) {a e : Int} (ha : -100 ≤ a ∧ a ≤ 100) (he : -6 ≤ e ∧ e ≤ 6) : valC m a e = some (Xr (mkD a e) 0,(),()) := by
  have hok : OkD a 0 := by
    by_cases h : a = 0
    · subst h; exact qkv _
    · have hb := Xi (n := a.natAbs) (k := 7) (by omega)
      have := Jq (n := a.natAbs)
      exact X3.2 (.inr ⟨by omega,by omega⟩)
  have hc : Qk e = e := by unfold Qk; omega
  rw [valC,ql6 hm ⟨by omega,by omega⟩,Option.bind_some]
  dsimp only
  rw [qdg hm,if_pos hok,Option.bind_some,hc,Int.zero_add]
  dsimp only
  rw [qg6 hm,Option.bind_some]
theorem ql2 {a e : Int} (ha : -8 ≤ a ∧ a ≤ 8) (he : -6 ≤ e ∧ e ≤ 6) : SmV (Xr (mkD a e) 0) := by
  have hr : Rep a e := Rep.of_mul (EqD.refl a e) (Nat.le_trans (Xi (k := 4) (by omega)) (by omega)) (by omega) (by omega)
  obtain ⟨h1,h2,h3⟩ := qk8 hr 0
  refine ⟨h1,h2,a * 2 ^ (e + 6).toNat,h3.trans ⟨-6,by omega,by omega,?_⟩,?_⟩
  · rw [qeu]; unfold sc; rw [show (e - -6).toNat = (e + 6).toNat by omega]
  · have hp : (2 : Int) ^ (e + 6).toNat ≤ 4096 := by
      have : (2 : Int) ^ (e + 6).toNat = ((2 ^ (e + 6).toNat : Nat) : Int) := by rw [Int.natCast_pow]; rfl
      rw [this]
      have h2 : 2 ^ (e + 6).toNat ≤ 2 ^ 12 := Nat.pow_le_pow_right (by omega) (by omega)
      have : (2 : Nat) ^ 12 = 4096 := by decide
      omega
    have hq := q0w (e + 6).toNat
    generalize (2 : Int) ^ (e + 6).toNat = P at *
    obtain ⟨a1,a2⟩ := ha
    constructor
    · have : -8 * P ≤ a * P := Int.mul_le_mul_of_nonneg_right a1 (by omega)
      omega
    · have : a * P ≤ 8 * P := Int.mul_le_mul_of_nonneg_right a2 (by omega)
      omega
theorem qkg (n : Int) : ∃ v,SmV v ∧ ∀ m,3000000 < m → g34 m n = some (v,(),()) := by
  obtain ⟨k,hk,hp⟩ := qk7 (a := n) (n := 17) (by omega) (by omega)
  obtain ⟨x,hx,hxl⟩ := qld n
  have e17 : Int.tdiv (x : Int) 17 = ((x / 17 : Nat) : Int) := td x 17
  have e3 : Int.tdiv ((x / 17 : Nat) : Int) 3 = ((x / 17 / 3 : Nat) : Int) := td _ 3
  have e13 : Int.tmod ((x / 17 / 3 : Nat) : Int) 13 = ((x / 17 / 3 % 13 : Nat) : Int) := tm _ 13
  have l1 : x / 17 < 9223372036854775808 := by omega
  have l2 : x / 17 / 3 % 13 < 13 := by omega
  have key : ∀ m,g34 m n = if Int.tmod ((x / 17 : Nat) : Int) 3 = 0 then valC m ((k : Int) - 8) (((x / 17 / 3 % 13 : Nat) : Int) - 6) else valC m ((k : Int) - 8) 0 := by
    intro m
    rw [g34]
    rw [show g20 m n 17 = some ((k : Int),(),(),()) from hp m]
    simp only [Option.bind_some,w_u64,w_i64,hx,e17]
    rw [wu (by omega) (by omega),wi (n := ((x / 17 : Nat) : Int)) (by omega) (by omega),wi (n := (k : Int) - 8) (by omega) (by omega),e3,wi (n := ((x / 17 / 3 : Nat) : Int)) (by omega) (by omega),e13,wi (n := ((x / 17 / 3 % 13 : Nat) : Int) - 6) (by omega) (by omega),bif_eq]
    rfl
  by_cases h : Int.tmod ((x / 17 : Nat) : Int) 3 = 0
  · exact ⟨_,ql2 (a := (k : Int) - 8) (e := ((x / 17 / 3 % 13 : Nat) : Int) - 6) (by omega) (by omega),fun m hm => by rw [key,if_pos h,ql3 hm (by omega) (by omega)]⟩
  · exact ⟨_,ql2 (a := (k : Int) - 8) (e := 0) (by omega) (by omega),fun m hm => by rw [key,if_neg h,ql3 hm (by omega) (by omega)]⟩
/- The opposite number. -/
section
variable {R C : Nat} {S I V : List Int}
/- A look at a place. -/
def LookV (es : List Ent) (i j : Int) (v : Int) : Prop := ((i,(j,v)) : Ent) ∈ es ∨ (v = 0 ∧ ∀ v',((i,(j,v')) : Ent) ∉ es)
theorem LookV.uniq {es : List Ent} (hD : DistE es) {i j v w : Int} (h : LookV es i j v) (h2 : LookV es i j w) : v = w := by
  rcases h with h | ⟨rfl,h⟩
  · rcases h2 with h2 | ⟨rfl,h2⟩
    · exact hD.val h h2
    · exact absurd h (h2 _)
  · rcases h2 with h2 | ⟨rfl,h2⟩
    · exact absurd h2 (h _)
    · rfl
theorem qkh {m : Nat} (hm : 3000000 < m) (h : MV R C S I V) {i j : Nat} (hi : i < R) (hj : j < C) :
    ∃ v,LookV (ents S I V C 0) (i : Int) (j : Int) v ∧ g30 m (R : Int) (C : Int) S I V (i : Int) (j : Int) = some (v,(),(),(),()) ∧ g38 m (R : Int) (C : Int) S I V (i : Int) (j : Int) = some (v,(),(),(),()) := by
  have hsz := h.ok.sz
  have hcz := h.ok.cz
  have hrz := h.ok.rz
  have hvl := h.vl
  have hs := h.sl
  obtain ⟨v,b,e1,e2,e3⟩ := qj3 hm h (i := (i : Int)) hj
  refine ⟨v,?_,?_,e2⟩
  · rcases e3 with ⟨_,g⟩ | ⟨_,g,g2⟩
    · exact .inl g
    · exact .inr ⟨g,g2⟩
  · have w1 : w_i64 ((R : Int) - 1) = (R : Int) - 1 := by rw [w_i64_eq,wi (by omega) (by omega)]
    have w2 : w_i64 ((C : Int) - 1) = (C : Int) - 1 := by rw [w_i64_eq,wi (by omega) (by omega)]
    rw [g30,g44_eq (by omega) (by omega) (by omega) (by omega) (by omega),h.chk]
    simp only [Option.bind_some,bif_ne,if_true]
    rw [q8m,w1,w2,q8m]
    simp only [Option.bind_some]
    rw [decide_eq_true (show (0 : Int) ≤ (i : Int) by omega),decide_eq_true (show (i : Int) ≤ (R : Int) - 1 by omega),decide_eq_true (show (0 : Int) ≤ (j : Int) by omega),decide_eq_true (show (j : Int) ≤ (C : Int) - 1 by omega)]
    simp only [Bool.and_self,Bool.not_true,cond_false]
    rw [e1,Option.bind_some]
end
end Go.Vs.F

/-! MxEg -/
set_option linter.unusedVariables false
set_option linter.unusedSimpArgs false
set_option maxRecDepth 100000
namespace Go.Vs.F
theorem qki {es : List Ent} {r c : Nat} {x : Int} (h : x ∈ packV es r c) : ∃ e ∈ es,e.2.2 = x := by
  rw [← can_V] at h
  obtain ⟨e,he,rfl⟩ := List.mem_map.1 h
  obtain ⟨i,j,_,_,hl,rfl⟩ := q7p.1 he
  exact ⟨_,qjx hl,rfl⟩
theorem qk0 (m : Nat) {a : List Int} (hl : a.length ≤ 1000000) : ∀ (n k : Nat),a.length - k < n → k ≤ a.length → g138_L0 m n a a (k : Int) = some (.inr (.inl ()))
  | 0,k,h,_ => by omega
  | n + 1,k,h,hk0 => by
    rw [g138_L0,bif_decide]
    by_cases hk : k < a.length
    · rw [if_pos (by omega),if_pos (by omega),if_pos (by omega),bif_ne,if_pos rfl,show w_i64 ((k : Int) + 1) = ((k + 1 : Nat) : Int) from wsucc (by omega)]
      exact qk0 m hl n (k + 1) (by omega) (by omega)
    · rw [if_neg (by omega)]
theorem qkx {m : Nat} {a : List Int} (hl : a.length ≤ 1000000) (hm : 2000000 < m) : g138 m a a = some (true,(),(),()) := by
  have := qk0 m hl m 0 (by omega) (by omega)
  rw [Int.natCast_zero] at this
  rw [g138,bif_ne,if_pos rfl,this,Option.bind_some]
theorem qkb {m : Nat} (hm : 3000000 < m) {z e : Int} : g27 m (mkD z e).1 (mkD z e).2.1 (mkD z e).2.2.1 (mkD z e).2.2.2.1 (mkD z e).1 (mkD z e).2.1 (mkD z e).2.2.1 (mkD z e).2.2.2.1 = some (true,(),(),()) := by
  have hl : (mkD z e).2.2.1.length ≤ 1000000 := by
    by_cases h : OkD z e
    · obtain ⟨w,f,k,k1,k2,k3⟩ := X4 h
      rw [k2]; have := k.lim; omega
    · rw [Yt h]; simp
  rw [g27,beq_self_eq_true,cond_true,beq_self_eq_true,cond_true,g79,beq_self_eq_true,cond_true,qkx hl (by omega)]; rfl
section
variable {R C : Nat} {S I V : List Int}
end
end Go.Vs.F

/-! MxEh -/
set_option linter.unusedVariables false
set_option linter.unusedSimpArgs false
set_option maxRecDepth 100000
namespace Go.Vs.F
theorem LookV.fin {es : List Ent} (hu : ∀ e ∈ es,U64 e.2.2 ∧ FinF e.2.2) {i j v : Int} (h : LookV es i j v) : U64 v ∧ FinF v := by
  rcases h with h | ⟨rfl,_⟩
  · exact hu _ h
  · exact ⟨qgu,qhg⟩
section
variable {N : Nat} {S0 I0 V0 S1 I1 V1 S2 I2 V2 : List Int} {s : Int}
end
end Go.Vs.F

/-! MxEi -/
set_option linter.unusedVariables false
set_option linter.unusedSimpArgs false
set_option maxRecDepth 100000
namespace Go.Vs.F
def fx (v : Int) : Int := (ofD v).2.2.2.1
abbrev BG := Bool × List Int
def zG (q : Int) : BG := ((zB q).1,(zB q).2.1)
theorem qlv : zG 0 = (false,[]) := by unfold zG; rw [zB_1,zB_2,show (0 : Int).natAbs = 0 from rfl,Qj]; rfl
/- A finite value's normal form. -/
theorem qlu {v : Int} (h : FinF v) : ∃ w,NF (valF v) (-1074) w (fx v) ∧ (ofD v).1 = false ∧ (ofD v).2.1 = (zB w).1 ∧ (ofD v).2.2.1 = (zB w).2.1 := by
  obtain ⟨w,f,k,k1,k2,k3⟩ := X4 (val_ok h)
  have hv := qfe h
  have : fx v = f := by unfold fx; rw [hv,k3]
  rw [this,hv]
  exact ⟨w,k,val_ok h,k1,k2⟩
/- The least exponent. -/
structure ShfOK (l : List Int) (s : Int) (fst : Bool) : Prop where
  a : fst = true → s = 0 ∧ ∀ v ∈ l,valF v = 0
  b : fst = false → (∃ v ∈ l,valF v ≠ 0 ∧ fx v = s) ∧ ∀ v ∈ l,valF v ≠ 0 → s ≤ fx v
theorem fx_bd {v : Int} (h : FinF v) : -65536 ≤ fx v ∧ fx v ≤ 65536 := by
  obtain ⟨w,k,_⟩ := qlu h
  have := k.lo; have := k.hi; omega
theorem qlj {m : Nat} (hm : 3000000 < m) {V : List Int} (hl : V.length ≤ 100000) (hU : ∀ v ∈ V,U64 v ∧ FinF v) (a0 a1 : Int) (a2 a3 a4 : List Int) : ∀ (n k : Nat) (s : Int) (fst : Bool),V.length - k < n → k ≤ V.length → ShfOK (V.take k) s fst →
    ∃ s',g26_L0 m n a0 a1 a2 a3 a4 s fst V (V.length : Int) (k : Int) = some (.inl ((a0,a1,a2,a3,a4,()),s',())) ∧ ∃ f',ShfOK V s' f'
  | 0,k,s,fst,h,_,_ => by omega
  | n + 1,k,s,fst,h,hk0,hS => by
    rw [g26_L0,bif_decide]
    by_cases hk : k < V.length
    · have hmem : V.getD k 0 ∈ V := q45 hk
      obtain ⟨hu,hf⟩ := hU _ hmem
      have ht := take_snoc (l := V) hk (x := V.getD k 0) rfl
      have ws : w_i64 ((k : Int) + 1) = ((k + 1 : Nat) : Int) := wsucc (by omega)
      have hsg := qhk hm (val_ok hf)
      rw [if_pos (by omega),if_pos (by omega),Int.toNat_natCast,ws]
      obtain ⟨v,hv⟩ : ∃ v,v = V.getD k 0 := ⟨_,rfl⟩
      rw [← hv] at hu hf ht hsg hmem ⊢
      rw [Of_eq hm hu,Option.bind_some]
      dsimp only
      have hfx : (ofD v).2.2.2.1 = fx v := rfl
      rw [← qfe hf] at hsg
      rw [hsg,Option.bind_some,bif_ne,hfx]
      dsimp only
      by_cases z : sgn (valF v) = 0
      · have z0 := Qu.1 z
        rw [if_pos z]
        refine qlj hm hl hU a0 a1 a2 a3 a4 n (k + 1) s fst (by omega) (by omega) ?_
        rw [ht]
        refine ⟨fun h => ⟨(hS.a h).1,fun x hx => ?_⟩,fun h => ⟨?_,fun x hx hx0 => ?_⟩⟩
        · rcases List.mem_append.1 hx with hx | hx
          · exact (hS.a h).2 x hx
          · rw [List.mem_singleton] at hx; subst hx; exact z0
        · obtain ⟨y,y1,y2⟩ := (hS.b h).1
          exact ⟨y,List.mem_append.2 (.inl y1),y2⟩
        · rcases List.mem_append.1 hx with hx | hx
          · exact (hS.b h).2 x hx hx0
          · rw [List.mem_singleton] at hx; subst hx; exact absurd z0 hx0
      · have z0 : valF v ≠ 0 := fun h => z (Qu.2 h)
        rw [if_neg z]
        cases fst with
        | true =>
          rw [cond_true]
          refine qlj hm hl hU a0 a1 a2 a3 a4 n (k + 1) (fx v) false (by omega) (by omega) ?_
          rw [ht]
          refine ⟨fun h => Bool.noConfusion h,fun _ => ⟨⟨v,List.mem_append.2 (.inr (List.mem_singleton.2 rfl)),z0,rfl⟩,fun x hx hx0 => ?_⟩⟩
          rcases List.mem_append.1 hx with hx | hx
          · exact absurd ((hS.a rfl).2 x hx) hx0
          · rw [List.mem_singleton] at hx; subst hx; exact Int.le_refl _
        | false =>
          obtain ⟨⟨y,y1,y2,y3⟩,y4⟩ := hS.b rfl
          rw [cond_false,bif_decide]
          by_cases c : fx v < s
          · rw [if_pos c]
            refine qlj hm hl hU a0 a1 a2 a3 a4 n (k + 1) (fx v) false (by omega) (by omega) ?_
            rw [ht]
            refine ⟨fun h => Bool.noConfusion h,fun _ => ⟨⟨v,List.mem_append.2 (.inr (List.mem_singleton.2 rfl)),z0,rfl⟩,fun x hx hx0 => ?_⟩⟩
            rcases List.mem_append.1 hx with hx | hx
            · have := y4 x hx hx0; omega
            · rw [List.mem_singleton] at hx; subst hx; exact Int.le_refl _
          · rw [if_neg c]
            refine qlj hm hl hU a0 a1 a2 a3 a4 n (k + 1) s false (by omega) (by omega) ?_
            rw [ht]
            refine ⟨fun h => Bool.noConfusion h,fun _ => ⟨⟨y,List.mem_append.2 (.inl y1),y2,y3⟩,fun x hx hx0 => ?_⟩⟩
            rcases List.mem_append.1 hx with hx | hx
            · exact y4 x hx hx0
            · rw [List.mem_singleton] at hx; subst hx; omega
    · rw [if_neg (by omega)]
      rw [List.take_of_length_le (by omega)] at hS
      exact ⟨s,rfl,fst,hS⟩
theorem qlm (m : Nat) {R C : Nat} (hR : R ≤ 200) (hC : C ≤ 200) (S I V : List Int) (s : Int) : ∀ (n k : Nat) (G : List (List BG)),R - k < n → k ≤ R → G.length = R → (∀ i,i < k → G.getD i [] = List.replicate C (false,[])) →
    ∃ G',g26_L1 m n (R : Int) (C : Int) S I V G s (R : Int) (k : Int) = some (.inl (((R : Int),(C : Int),S,I,V,()),G',s,())) ∧ G'.length = R ∧ ∀ i,i < R → G'.getD i [] = List.replicate C (false,[])
  | 0,k,G,h,_,_,_ => by omega
  | n + 1,k,G,h,hk0,hG,hi => by
    rw [g26_L1,bif_decide]
    by_cases hk : k < R
    · rw [if_pos (by omega),if_pos (by omega),if_pos (by omega),Int.toNat_natCast,Int.toNat_natCast,show w_i64 ((k : Int) + 1) = ((k + 1 : Nat) : Int) from wsucc (by omega)]
      refine qlm m hR hC S I V s n (k + 1) _ (by omega) (by omega) (by rw [List.length_set]; exact hG) (fun i hi2 => ?_)
      rw [qlk (by omega)]
      by_cases e : i = k
      · rw [if_pos e]
      · rw [if_neg e]; exact hi i (by omega)
    · rw [if_neg (by omega)]
      exact ⟨G,rfl,hG,fun i h => hi i (by omega)⟩
/- The grid of integers. -/
structure GrOK (R C : Nat) (es : List Ent) (s : Int) (G : List (List BG)) : Prop where
  r : G.length = R
  c : ∀ i,i < R → (G.getD i []).length = C
  q : ∀ (i j : Nat),i < R → j < C → ∀ v,LookV es (i : Int) (j : Int) v → ∃ q : Int,EqD q s (valF v) (-1074) ∧ (G.getD i []).getD j (false,[]) = zG q ∧ blen q.natAbs ≤ 140000 ∧ (valF v ≠ 0 → fx v = s → q.natAbs % 2 = 1)
theorem qll {m : Nat} (hm : 3000000 < m) {R C : Nat} (hR : R ≤ 200) (hC : C ≤ 200) {es : List Ent} (hE : EntsOK R C es) (hD : DistE es) (hl : es.length ≤ 100000) (hU : ∀ e ∈ es,U64 e.2.2 ∧ FinF e.2.2) {s : Int} (hs : ∀ e ∈ es,valF e.2.2 ≠ 0 → s ≤ fx e.2.2 ∧ -65536 ≤ s) : ∀ (n k : Nat) (G : List (List BG)),es.length - k < n → k ≤ es.length → GrOK R C (es.take k) s G →
    ∃ G',g26_L2 m n G s es (es.length : Int) (k : Int) = some (.inl (G',s,())) ∧ GrOK R C es s G'
  | 0,k,G,h,_,_ => by omega
  | n + 1,k,G,h,hk0,hG => by
    rw [g26_L2,bif_decide]
    by_cases hk : k < es.length
    · have hmem : es.getD k zE ∈ es := q8e hk
      have ht := q05 hk
      have ws : w_i64 ((k : Int) + 1) = ((k + 1 : Nat) : Int) := wsucc (by omega)
      obtain ⟨⟨i,j,v⟩,hv⟩ : ∃ e,e = es.getD k zE := ⟨_,rfl⟩
      have hv' : es.getD k (0,(0,0)) = (i,j,v) := hv.symm
      rw [← hv] at hmem ht
      obtain ⟨hi,hj,_⟩ := Ze hE _ hmem
      obtain ⟨hu,hf⟩ := hU _ hmem
      have hs1 := hs _ hmem
      dsimp only at hi hj hu hf hs1
      have hnew : ∀ v',((i,(j,v')) : Ent) ∉ es.take k := fun v' hx => by
        obtain ⟨t,ht2,e⟩ := List.getElem_of_mem hx
        rw [List.length_take] at ht2
        rw [List.getElem_take] at e
        have g1 : es.getD t zE = (i,(j,v')) := by rw [← e]; simp [List.getD,show t < es.length by omega]
        have := hD t k (by omega) hk (by rw [g1,← hv]) (by rw [g1,← hv])
        omega
      have look : ∀ (a b : Int) v',LookV (es.take (k + 1)) a b v' → (a = i ∧ b = j → v' = v) ∧ (¬ (a = i ∧ b = j) → LookV (es.take k) a b v') := by
        intro a b v' hl'
        rw [ht] at hl'
        constructor
        · rintro ⟨rfl,rfl⟩
          rcases hl' with h1 | ⟨_,h1⟩
          · rcases List.mem_append.1 h1 with h1 | h1
            · exact absurd h1 (hnew v')
            · rw [List.mem_singleton] at h1
              simp only [Prod.mk.injEq,true_and] at h1
              exact h1
          · exact absurd (List.mem_append.2 (.inr (List.mem_singleton.2 rfl))) (h1 v)
        · intro hne
          rcases hl' with h1 | ⟨h0,h1⟩
          · rcases List.mem_append.1 h1 with h1 | h1
            · exact .inl h1
            · rw [List.mem_singleton] at h1
              simp only [Prod.mk.injEq] at h1
              exact absurd ⟨h1.1,h1.2.1⟩ hne
          · exact .inr ⟨h0,fun w hw => h1 w (List.mem_append.2 (.inl hw))⟩
      rw [if_pos (by omega),if_pos (by omega),Int.toNat_natCast,Nat.zero_add,hv',ws,Of_eq hm hu,Option.bind_some]
      dsimp only
      obtain ⟨w,kn,d1,d2,d3⟩ := qlu hf
      have hsg := qhk hm (val_ok hf)
      rw [← qfe hf] at hsg
      rw [hsg,Option.bind_some,bif_ne]
      dsimp only
      obtain ⟨i',rfl⟩ : ∃ k : Nat,i = (k : Int) := ⟨i.toNat,by omega⟩
      obtain ⟨j',rfl⟩ : ∃ k : Nat,j = (k : Int) := ⟨j.toNat,by omega⟩
      by_cases z : sgn (valF v) = 0
      · have z0 := Qu.1 z
        rw [if_pos z]
        refine qll hm hR hC hE hD hl hU hs n (k + 1) G (by omega) (by omega) ⟨hG.r,hG.c,fun a b ha hb v' hv' => ?_⟩
        obtain ⟨g1,g2⟩ := look _ _ _ hv'
        by_cases e : ((a : Int) = (i' : Int) ∧ (b : Int) = (j' : Int))
        · have := g1 e
          subst this
          have ea : a = i' := by omega
          have eb : b = j' := by omega
          subst ea eb
          obtain ⟨q,q1,q2,q3,_⟩ := hG.q a b ha hb 0 (.inr ⟨rfl,hnew⟩)
          have zz : valF 0 = 0 := by
            have : ofZ 0 = 0 := by unfold ofZ fexp ffrac fneg; decide
            unfold valF sc; rw [this,Int.zero_mul]
          rw [zz] at q1
          exact ⟨q,by rw [z0]; exact q1,q2,q3,fun h => absurd z0 h⟩
        · exact hG.q a b ha hb v' (g2 e)
      · have z0 : valF v ≠ 0 := fun h => z (Qu.2 h)
        obtain ⟨s1,s2⟩ := hs1 z0
        have hfb := fx_bd hf
        have wd : w_i64 (fx v - s) = fx v - s := by rw [w_i64_eq,wi (by omega) (by omega)]
        have hfx : (ofD v).2.2.2.1 = fx v := rfl
        have hlw := kn.lim
        obtain ⟨d,hd⟩ : ∃ d : Nat,fx v - s = (d : Int) := ⟨(fx v - s).toNat,by omega⟩
        have hsh : g78 m (zB w).1 (zB w).2.1 (d : Int) = some ((zB (w * 2 ^ d),0,()),(),(),()) := by
          rw [qcr hm (Lm_zB w) (by omega) (by omega),zv_zB]
        have hscd : w * 2 ^ d = sc w (fx v) s := by unfold sc; rw [hd,Int.toNat_natCast]
        have hc1 := hG.c i' (by omega)
        have hr := hG.r
        rw [if_neg z,if_pos (by omega),hfx,wd,d2,d3,hd,hsh,Option.bind_some]
        simp only [Int.toNat_natCast]
        rw [if_pos (by omega)]
        refine qll hm hR hC hE hD hl hU hs n (k + 1) _ (by omega) (by omega) ⟨by rw [List.length_set]; exact hG.r,fun a ha => ?_,fun a b ha hb v' hv' => ?_⟩
        · rw [qlk (by omega)]
          by_cases e : a = i'
          · rw [if_pos e,List.length_set,← e]; exact hG.c a ha
          · rw [if_neg e]; exact hG.c a ha
        · obtain ⟨g1,g2⟩ := look _ _ _ hv'
          by_cases e : ((a : Int) = (i' : Int) ∧ (b : Int) = (j' : Int))
          · have := g1 e
            subst this
            have ea : a = i' := by omega
            have eb : b = j' := by omega
            subst ea eb
            refine ⟨sc w (fx v') s,(EqD.sc s1).trans kn.eq,?_,?_,fun _ e2 => ?_⟩
            · rw [qlk (by omega),if_pos rfl,qlk (by omega),if_pos rfl,← hscd]; rfl
            · have := qh2 (w := w) s1
              have := kn.hi; have := kn.lo
              omega
            · rw [← e2,qeu]
              refine kn.odd fun h => z0 ?_
              subst h
              have := kn.eq.sgn
              rw [show sgn 0 = 0 from rfl] at this
              exact Qu.1 this.symm
          · obtain ⟨q,q1,q2,q3,q4⟩ := hG.q a b ha hb v' (g2 e)
            refine ⟨q,q1,?_,q3,q4⟩
            rw [qlk (by omega)]
            by_cases ea : a = i'
            · subst ea
              rw [if_pos rfl,qlk (by omega),if_neg (by omega)]; exact q2
            · rw [if_neg ea]; exact q2
    · rw [if_neg (by omega)]
      rw [List.take_of_length_le (by omega)] at hG
      exact ⟨G,rfl,hG⟩
end Go.Vs.F

/-! MxEj -/
set_option linter.unusedVariables false
set_option linter.unusedSimpArgs false
set_option maxRecDepth 100000
namespace Go.Vs.F
theorem qlo : valF 0 = 0 := by
  have : ofZ 0 = 0 := by unfold ofZ fexp ffrac fneg; decide
  unfold valF sc; rw [this,Int.zero_mul]
section
variable {R C : Nat} {S I V : List Int}
theorem qlr {m : Nat} (hm : 3000000 < m) (h : MV R C S I V) (hU : ∀ x ∈ V,U64 x) (hR : R ≤ 16) (hC : C ≤ 16) :
    ∃ G s,g26 m (R : Int) (C : Int) S I V = some ((G,s,0,()),(),()) ∧ GrOK R C (ents S I V C 0) s G ∧ (∃ f',ShfOK V s f') ∧ -65536 ≤ s ∧ s ≤ 65536 := by
  have hsz := h.ok.sz
  have hv := h.vl
  have hsl := h.sl
  have hl := h.len
  have hfin : ∀ v ∈ V,U64 v ∧ FinF v := fun v hv2 => by
    have h1 := hU v hv2
    obtain ⟨_,_,_,_,_,_,hf⟩ := qid h.chk
    obtain ⟨i,hi,rfl⟩ := List.getElem_of_mem hv2
    have := Qi.1 hf i (by omega) hi
    rw [show V.getD i 0 = V[i] by simp [List.getD,hi],qbc h1] at this
    exact ⟨h1,of_decide_eq_true this⟩
  obtain ⟨s,e0,f',hS⟩ := qlj hm (by omega) hfin (R : Int) (C : Int) S I V m 0 0 true (by omega) (by omega) ⟨fun _ => ⟨rfl,fun v hv => by cases hv⟩,fun h => Bool.noConfusion h⟩
  rw [Int.natCast_zero] at e0
  have sb : -65536 ≤ s ∧ s ≤ 65536 := by
    cases f' with
    | true => have := (hS.a rfl).1; omega
    | false =>
      obtain ⟨⟨v,v1,v2,v3⟩,_⟩ := hS.b rfl
      have := fx_bd (hfin v v1).2
      omega
  obtain ⟨G1,e1,r1,g1⟩ := qlm m (R := R) (C := C) (by omega) (by omega) S I V s m 0 (List.replicate R []) (by omega) (by omega) (by simp) (fun i hi => by omega)
  rw [Int.natCast_zero] at e1
  have hE := h.ents
  have hD := h.dist
  have hem : ∀ e ∈ Go.Vs.F.ents S I V C 0,U64 e.2.2 ∧ FinF e.2.2 := fun e he => h.valU hU he
  obtain ⟨G2,e2,g2⟩ := qll hm (R := R) (C := C) (by omega) (by omega) hE hD (by omega) hem (s := s) (fun e he hz => by
    have hev := q6y h.ok h.vl C 0 (by omega) e he
    cases f' with
    | true => exact absurd ((hS.a rfl).2 _ hev) hz
    | false => exact ⟨(hS.b rfl).2 _ hev hz,sb.1⟩) m 0 G1 (by omega) (by omega) ⟨r1,fun i hi => by rw [g1 i hi]; simp,fun i j hi hj v hv => by
      rcases hv with hv | ⟨rfl,_⟩
      · cases hv
      · refine ⟨0,by rw [qlo]; exact EqD.zero _ _,?_,by decide,fun h => absurd qlo h⟩
        rw [g1 i hi,X7 hj,qlv]⟩
  rw [Int.natCast_zero] at e2
  refine ⟨G2,s,?_,g2,⟨f',hS⟩,sb⟩
  rw [g26,g44_eq (by omega) (by omega) (by omega) (by omega) (by omega),h.chk]
  simp only [Option.bind_some,bif_ne,if_true,bif_decide]
  rw [if_neg (by omega),if_neg (by omega),e0,Option.bind_some]
  dsimp only
  rw [if_pos (by omega),Int.toNat_natCast,List.length_replicate,e1,Option.bind_some]
  dsimp only
  rw [q52 (by omega) h.ok h.vl,Option.bind_some]
  dsimp only
  rw [e2,Option.bind_some]
end
def qG (G : List (List BG)) (i j : Nat) : Int := zv ((G.getD i []).getD j (false,[])).1 ((G.getD i []).getD j (false,[])).2
theorem qG_of {G : List (List BG)} {i j : Nat} {q : Int} (h : (G.getD i []).getD j (false,[]) = zG q) : qG G i j = q := by
  unfold qG; rw [h]; exact zv_zB q
def nzB (q : Int) : Bool := decide (q ≠ 0)
def odB (q : Int) : Bool := decide (q.natAbs % 2 = 1)
section
variable {R C : Nat} {S I V : List Int}
theorem qls {m : Nat} (hm : 3000000 < m) (h : MV R C S I V) (hU : ∀ x ∈ V,U64 x) {G : List (List BG)} {s : Int} (hG : GrOK R C (ents S I V C 0) s G) (s1 : -65536 ≤ s) (s2 : s ≤ 65536) {i : Nat} (hi : i < R) : ∀ (n k : Nat) (o t : Bool),C - k < n → k ≤ C →
    ∃ o' t',sparselaw09_MatrixWhole_L1 m n (R : Int) (C : Int) (R : Int) (C : Int) S I V G s o t (i : Int) (k : Int) = some (.inr (.inl ((R : Int),(C : Int),((R : Int),(C : Int),S,I,V,()),G,s,o',t',(i : Int),()))) ∧
      (o' = true ↔ o = true ∨ ∃ j,k ≤ j ∧ j < C ∧ odB (qG G i j) = true) ∧ (t' = true ↔ t = true ∨ ∃ j,k ≤ j ∧ j < C ∧ nzB (qG G i j) = true)
  | 0,k,o,t,h,_ => by omega
  | n + 1,k,o,t,hn,hk0 => by
    have hcz := h.ok.cz
    have hgr := hG.r
    have hgc := hG.c i hi
    rw [sparselaw09_MatrixWhole_L1,bif_decide]
    by_cases hk : k < C
    · obtain ⟨v,l0,e0,_⟩ := qkh hm h hi hk
      obtain ⟨hu,hf⟩ := l0.fin (fun e he => h.valU hU he)
      obtain ⟨q,q1,q2,q3,_⟩ := hG.q i k hi hk v l0
      have hq := qG_of q2
      have hS : Sz (zB q).2.1 := SzB (by omega)
      have hmk : g28 m (zG q).1 (zG q).2 s = some (ofD v,(),(),()) := by
        show g28 m (zB q).1 (zB q).2.1 s = _
        rw [q7b hm (by omega) (by omega) (by omega),q1.mk,qfe hf]
      have hsg : g31 m (zG q).1 (zG q).2 = some (sgn q,(),()) := by
        show g31 m (zB q).1 (zB q).2.1 = _
        rw [q1v (by omega) hS,zv_zB]
      have htz : q ≠ 0 → g32 m (zG q).1 (zG q).2 = some (((tz q.natAbs : Nat) : Int),(),()) := fun hq0 => by
        show g32 m (zB q).1 (zB q).2.1 = _
        have : vl (zB q).2.1 = q.natAbs := qx _
        rw [Zz (by omega) hS (by rw [this]; omega),this]
      have c1 : (0 : Int) ≤ (i : Int) ∧ (i : Int) < (G.length : Int) := by omega
      have c2 : (0 : Int) ≤ (k : Int) ∧ (k : Int) < ((G.getD i []).length : Int) := by omega
      have hn1 : (sgn q != 0) = nzB q := by
        unfold nzB
        by_cases z : q = 0
        · subst z; rfl
        · rw [show decide (q ≠ 0) = true by simpa using z,bne_iff_ne]; exact fun h => z (Qu.1 h)
      have ho1 : q ≠ 0 → ((((tz q.natAbs : Nat) : Int)) == 0) = odB q := fun hq0 => by
        unfold odB
        have := q1u (n := q.natAbs) (by omega)
        by_cases o : q.natAbs % 2 = 1
        · rw [decide_eq_true o,this.2 o]; rfl
        · rw [decide_eq_false o]
          have := mt this.1 o
          simpa using this
      have ho0 : q = 0 → odB q = false := fun h => by subst h; rfl
      -- one step
      have step : ∀ o2 t2 : Bool,(o2 = (o || odB q)) → (t2 = (t || nzB q)) → ∃ o' t',sparselaw09_MatrixWhole_L1 m n (R : Int) (C : Int) (R : Int) (C : Int) S I V G s o2 t2 (i : Int) ((k + 1 : Nat) : Int) = some (.inr (.inl ((R : Int),(C : Int),((R : Int),(C : Int),S,I,V,()),G,s,o',t',(i : Int),()))) ∧
          (o' = true ↔ o = true ∨ ∃ j,k ≤ j ∧ j < C ∧ odB (qG G i j) = true) ∧ (t' = true ↔ t = true ∨ ∃ j,k ≤ j ∧ j < C ∧ nzB (qG G i j) = true) := by
        intro o2 t2 e1 e2
        obtain ⟨o',t',g1,g2,g3⟩ := qls hm h hU hG s1 s2 hi n (k + 1) o2 t2 (by omega) (by omega)
        refine ⟨o',t',g1,?_,?_⟩
        · rw [g2,e1,Bool.or_eq_true]
          constructor
          · rintro ((h1 | h1) | ⟨j,j1,j2,j3⟩)
            · exact .inl h1
            · exact .inr ⟨k,Nat.le_refl _,hk,by rw [hq]; exact h1⟩
            · exact .inr ⟨j,by omega,j2,j3⟩
          · rintro (h1 | ⟨j,j1,j2,j3⟩)
            · exact .inl (.inl h1)
            · by_cases e : j = k
              · subst e; rw [hq] at j3; exact .inl (.inr j3)
              · exact .inr ⟨j,by omega,j2,j3⟩
        · rw [g3,e2,Bool.or_eq_true]
          constructor
          · rintro ((h1 | h1) | ⟨j,j1,j2,j3⟩)
            · exact .inl h1
            · exact .inr ⟨k,Nat.le_refl _,hk,by rw [hq]; exact h1⟩
            · exact .inr ⟨j,by omega,j2,j3⟩
          · rintro (h1 | ⟨j,j1,j2,j3⟩)
            · exact .inl (.inl h1)
            · by_cases e : j = k
              · subst e; rw [hq] at j3; exact .inl (.inr j3)
              · exact .inr ⟨j,by omega,j2,j3⟩
      simp only [Int.toNat_natCast]
      rw [if_pos (by omega),if_pos c1,if_pos c2,q2,hmk,Option.bind_some,e0,Option.bind_some]
      dsimp only
      rw [Of_eq hm hu,Option.bind_some]
      dsimp only
      have hds := qkb hm (z := valF v) (e := -1074)
      rw [← qfe hf] at hds
      rw [hds,Option.bind_some]
      dsimp only
      rw [Bool.not_true,cond_false,show w_i64 ((k : Int) + 1) = ((k + 1 : Nat) : Int) from wsucc (by omega)]
      cases t with
      | true =>
        rw [cond_true]
        cases o with
        | true => rw [cond_true]; exact step true true rfl rfl
        | false =>
          rw [cond_false,if_pos c1,if_pos c2,hsg,Option.bind_some]
          dsimp only
          rw [hn1]
          by_cases z : q = 0
          · rw [show nzB q = false by subst z; rfl,cond_false]
            exact step false true (by rw [ho0 z]; rfl) rfl
          · rw [show nzB q = true by unfold nzB; simpa using z,cond_true,if_pos c1,if_pos c2,htz z,Option.bind_some]
            dsimp only
            rw [ho1 z]
            exact step _ true rfl rfl
      | false =>
        rw [cond_false,if_pos c1,if_pos c2,hsg,Option.bind_some]
        dsimp only
        rw [hn1]
        cases o with
        | true => rw [cond_true]; exact step true _ rfl rfl
        | false =>
          rw [cond_false,if_pos c1,if_pos c2,Option.bind_some]
          dsimp only
          rw [hn1]
          by_cases z : q = 0
          · rw [show nzB q = false by subst z; rfl,cond_false]
            exact step false false (by rw [ho0 z]; rfl) (by subst z; rfl)
          · rw [show nzB q = true by unfold nzB; simpa using z,cond_true,if_pos c1,if_pos c2,htz z,Option.bind_some]
            dsimp only
            rw [ho1 z]
            exact step _ true rfl (by rw [show nzB q = true by unfold nzB; simpa using z]; rfl)
    · rw [if_neg (by omega)]
      exact ⟨o,t,rfl,⟨.inl,fun h => h.elim id fun ⟨j,j1,j2,_⟩ => by omega⟩,⟨.inl,fun h => h.elim id fun ⟨j,j1,j2,_⟩ => by omega⟩⟩
theorem qlt {m : Nat} (hm : 3000000 < m) (h : MV R C S I V) (hU : ∀ x ∈ V,U64 x) {G : List (List BG)} {s : Int} (hG : GrOK R C (ents S I V C 0) s G) (s1 : -65536 ≤ s) (s2 : s ≤ 65536) : ∀ (n k : Nat) (o t : Bool),R - k < n → k ≤ R →
    ∃ o' t',sparselaw09_MatrixWhole_L0 m n (R : Int) (C : Int) (R : Int) (C : Int) S I V G s o t (k : Int) = some (.inr (.inl (s,o',t',()))) ∧
      (o' = true ↔ o = true ∨ ∃ i j,k ≤ i ∧ i < R ∧ j < C ∧ odB (qG G i j) = true) ∧ (t' = true ↔ t = true ∨ ∃ i j,k ≤ i ∧ i < R ∧ j < C ∧ nzB (qG G i j) = true)
  | 0,k,o,t,h,_ => by omega
  | n + 1,k,o,t,hn,hk0 => by
    have hcz := h.ok.cz
    have hrz := h.ok.rz
    have hgr := hG.r
    rw [sparselaw09_MatrixWhole_L0,bif_decide]
    by_cases hk : k < R
    · have hgc := hG.c k hk
      obtain ⟨o1,t1,e1,f1,f2⟩ := qls hm h hU hG s1 s2 hk m 0 o t (by omega) (by omega)
      rw [Int.natCast_zero] at e1
      obtain ⟨o',t',g1,g2,g3⟩ := qlt hm h hU hG s1 s2 n (k + 1) o1 t1 (by omega) (by omega)
      simp only [Int.toNat_natCast]
      rw [if_pos (by omega),if_pos (by omega),bif_ne,if_pos (by omega),e1,Option.bind_some]
      dsimp only
      rw [show w_i64 ((k : Int) + 1) = ((k + 1 : Nat) : Int) from wsucc (by omega)]
      refine ⟨o',t',g1,?_,?_⟩
      · rw [g2,f1]
        constructor
        · rintro ((h1 | ⟨j,_,j2,j3⟩) | ⟨i,j,i1,i2,j2,j3⟩)
          · exact .inl h1
          · exact .inr ⟨k,j,Nat.le_refl _,hk,j2,j3⟩
          · exact .inr ⟨i,j,by omega,i2,j2,j3⟩
        · rintro (h1 | ⟨i,j,i1,i2,j2,j3⟩)
          · exact .inl (.inl h1)
          · by_cases e : i = k
            · subst e; exact .inl (.inr ⟨j,by omega,j2,j3⟩)
            · exact .inr ⟨i,j,by omega,i2,j2,j3⟩
      · rw [g3,f2]
        constructor
        · rintro ((h1 | ⟨j,_,j2,j3⟩) | ⟨i,j,i1,i2,j2,j3⟩)
          · exact .inl h1
          · exact .inr ⟨k,j,Nat.le_refl _,hk,j2,j3⟩
          · exact .inr ⟨i,j,by omega,i2,j2,j3⟩
        · rintro (h1 | ⟨i,j,i1,i2,j2,j3⟩)
          · exact .inl (.inl h1)
          · by_cases e : i = k
            · subst e; exact .inl (.inr ⟨j,by omega,j2,j3⟩)
            · exact .inr ⟨i,j,by omega,i2,j2,j3⟩
    · rw [if_neg (by omega)]
      exact ⟨o,t,rfl,⟨.inl,fun h => h.elim id fun ⟨i,j,j1,j2,_⟩ => by omega⟩,⟨.inl,fun h => h.elim id fun ⟨i,j,j1,j2,_⟩ => by omega⟩⟩
end
theorem qlp {r c : Nat} (hr : r ≤ 200) (hc : c ≤ 200) (l : List Int) (hl : l.length ≤ 100000) (a0 a1 : Int) (a2 a3 a4 : List Int) : ∀ (d k : Nat) (es : List Ent),l.length - k ≤ d → k ≤ l.length + 2 → EntsOK r c es → (∀ e ∈ es,SmV e.2.2) → es.length ≤ k →
    ∃ es',EntsOK r c es' ∧ (∀ e ∈ es',SmV e.2.2) ∧ es'.length ≤ l.length + 2 ∧ ∀ m n,3000000 < m → d < n → g21_L0 m n (r : Int) (c : Int) l a0 a1 a2 a3 a4 es (k : Int) = some (.inl ((r : Int),(c : Int),(a0,a1,a2,a3,a4,()),es',()))
  | d,k,es,hn,hk,hE,hG,hk2 => by
    have e2 : w_i64 ((k : Int) + 2) = ((k + 2 : Nat) : Int) := wi (by omega) (by omega)
    have e1 : w_i64 ((k : Int) + 1) = ((k + 1 : Nat) : Int) := wsucc (by omega)
    have e3 : w_i64 ((k : Int) + 3) = ((k + 3 : Nat) : Int) := wi (by omega) (by omega)
    by_cases h : k + 2 < l.length
    · by_cases h1 : 0 < r
      · by_cases h2 : 0 < c
        · obtain ⟨i,hi,ei⟩ := qk7 (a := l.getD k 0) (n := r) h1 (by omega)
          obtain ⟨j,hj,ej⟩ := qk7 (a := l.getD (k + 1) 0) (n := c) h2 (by omega)
          obtain ⟨v,hv,ev⟩ := qkg (l.getD (k + 2) 0)
          cases d with
          | zero => omega
          | succ d =>
          obtain ⟨es',g1,g0,g2,g3⟩ := qlp hr hc l hl a0 a1 a2 a3 a4 d (k + 3) (es ++ [((i : Int),((j : Int),v))]) (by omega) (by omega) (hE.snoc (by omega) (by omega) hv.fin) (fun e he => by
            rcases List.mem_append.1 he with he | he
            · exact hG e he
            · rw [List.mem_singleton] at he; subst he; exact hv) (by simp; omega)
          refine ⟨es',g1,g0,g2,fun m n hm hdn => ?_⟩
          obtain ⟨n,rfl⟩ : ∃ n',n = n' + 1 := ⟨n - 1,by omega⟩
          rw [g21_L0,bif_decide,e2,e1,e3,bif_decide,bif_decide]
          rw [if_pos (by omega),if_pos (by omega),if_pos (by omega),if_pos (by omega),Int.toNat_natCast,Int.toNat_natCast,Int.toNat_natCast,ei,ej,ev m hm]
          simp only [Option.bind_some]
          rw [if_pos (by omega),if_pos (by omega),if_pos (by simp; omega)]
          exact g3 m n hm (by omega)
        · refine ⟨es,hE,hG,by omega,fun m n hm hdn => ?_⟩
          obtain ⟨n,rfl⟩ : ∃ n',n = n' + 1 := ⟨n - 1,by omega⟩
          rw [g21_L0,bif_decide,e2,e1,e3,bif_decide,bif_decide,if_pos (by omega),if_pos (by omega),if_neg (by omega)]
      · refine ⟨es,hE,hG,by omega,fun m n hm hdn => ?_⟩
        obtain ⟨n,rfl⟩ : ∃ n',n = n' + 1 := ⟨n - 1,by omega⟩
        rw [g21_L0,bif_decide,e2,e1,e3,bif_decide,bif_decide,if_pos (by omega),if_neg (by omega)]
    · refine ⟨es,hE,hG,by omega,fun m n hm hdn => ?_⟩
      obtain ⟨n,rfl⟩ : ∃ n',n = n' + 1 := ⟨n - 1,by omega⟩
      rw [g21_L0,bif_decide,e2,e1,e3,bif_decide,bif_decide,if_neg (by omega)]
theorem qlq {r c : Nat} (hr : r ≤ 100) (hc : c ≤ 100) {l : List Int} (hl : l.length ≤ 100000) : ∃ es,EntsOK r c es ∧ (∀ e ∈ es,SmV e.2.2) ∧ es.length ≤ l.length + 2 ∧ ∀ m,3000000 < m →
    g21 m (r : Int) (c : Int) l = some (((r : Int),(c : Int),packS es r c,packI es r c,packV es r c,()),(),(),(),()) := by
  obtain ⟨es,h2,h0,h3,h1⟩ := qlp (r := r) (c := c) (by omega) (by omega) l hl 0 0 [] [] [] l.length 0 [] (by omega) (by omega) (fun k hk => absurd hk (Nat.not_lt_zero _)) (fun e he => by cases he) (Nat.le_refl _)
  refine ⟨es,h2,h0,h3,fun m hm => ?_⟩
  have h1 := h1 m m (by omega) (by omega)
  simp only [Int.natCast_zero] at h1
  rw [g21,h1]
  simp only [Option.bind_some]
  rw [qft h2 (by omega) (by omega) (by omega) (by omega)]
  rfl
theorem qln (rows cols : Int) (l : List Int) : ∃ m,sparselaw09_MatrixWhole m rows cols l = some (true,(),(),(),()) := by
  refine ⟨4000000,?_⟩
  generalize hm0 : (4000000 : Nat) = m
  have hm : 3000000 < m := by omega
  clear hm0
  rw [sparselaw09_MatrixWhole,bif_decide]
  by_cases hl : (l.length : Int) > 60
  · rw [if_pos hl,qcx (by omega)]; rfl
  rw [if_neg hl]
  obtain ⟨R,hR,eR⟩ := qk7 (a := rows) (n := 5) (by omega) (by omega)
  obtain ⟨C,hC,eC⟩ := qk7 (a := cols) (n := 5) (by omega) (by omega)
  have eR' : g20 m rows 5 = some ((R : Int),(),(),()) := eR m
  have eC' : g20 m cols 5 = some ((C : Int),(),(),()) := eC m
  obtain ⟨es,hE,hS,hlen,hq⟩ := qlq (r := R) (c := C) (by omega) (by omega) (l := l) (by omega)
  have ha : C * R ≤ 5 * 5 := Nat.mul_le_mul (by omega) (by omega)
  have M := qko (r := R) (c := C) hE (by omega) (by omega) (by omega)
  have U : ∀ x ∈ packV es R C,U64 x := fun x hx => by
    obtain ⟨e,he,rfl⟩ := qki hx; exact (hS e he).u
  obtain ⟨G,s,e1,hG,⟨f',hSh⟩,s1,s2⟩ := qlr hm M U (by omega) (by omega)
  obtain ⟨o,t,e2,ho,ht⟩ := qlt hm M U hG s1 s2 m 0 false false (by omega) (by omega)
  rw [Int.natCast_zero] at e2
  rw [eR',Option.bind_some,eC',Option.bind_some]
  dsimp only
  rw [hq m hm,Option.bind_some]
  dsimp only
  rw [e1,Option.bind_some]
  dsimp only
  rw [bif_ne,if_pos rfl,bif_ne,hG.r,if_pos rfl,e2,Option.bind_some]
  dsimp only
  -- some number is not zero exactly if some number is odd
  have nzv : ∀ (i j : Nat),i < R → j < C → (nzB (qG G i j) = true ↔ ∀ v,LookV (ents (packS es R C) (packI es R C) (packV es R C) C 0) (i : Int) (j : Int) v → valF v ≠ 0) := by
    intro i j hi hj
    obtain ⟨v,l0,_⟩ := qkh hm M hi hj
    obtain ⟨q,q1,q2,q3,q4⟩ := hG.q i j hi hj v l0
    rw [qG_of q2]
    have hz : q = 0 ↔ valF v = 0 := by
      have := q1.sgn
      rw [← Qu,this,Qu]
    unfold nzB
    rw [decide_eq_true_eq]
    constructor
    · intro h v' hv'
      rw [LookV.uniq M.dist hv' l0]
      exact fun h2 => h (hz.2 h2)
    · intro h h2
      exact h v l0 (hz.1 h2)
  have hem : ∀ e ∈ ents (packS es R C) (packI es R C) (packV es R C) C 0,∃ i j : Nat,i < R ∧ j < C ∧ e = ((i : Int),((j : Int),e.2.2)) := fun e he => by
    obtain ⟨⟨a1,a2⟩,⟨b1,b2⟩,_⟩ := Ze M.ents e he
    exact ⟨e.1.toNat,e.2.1.toNat,by omega,by omega,by
      rw [show ((e.1.toNat : Nat) : Int) = e.1 by omega,show ((e.2.1.toNat : Nat) : Int) = e.2.1 by omega]⟩
  have hvents : ∀ v ∈ packV es R C,∃ e ∈ ents (packS es R C) (packI es R C) (packV es R C) C 0,e.2.2 = v := fun v hv => by
    rw [qjz]
    rw [← can_V] at hv
    obtain ⟨e,he,rfl⟩ := List.mem_map.1 hv
    exact ⟨e,he,rfl⟩
  have key : (t = true → o = true) ∧ (o = true → t = true) ∧ (t = false → s = 0) := by
    have hot : o = true → t = true := by
      intro h
      rcases ho.1 h with h | ⟨i,j,_,i2,j2,j3⟩
      · cases h
      · refine ht.2 (.inr ⟨i,j,by omega,i2,j2,?_⟩)
        unfold odB at j3
        unfold nzB
        rw [decide_eq_true_eq] at j3 ⊢
        rintro e; rw [e] at j3; simp at j3
    refine ⟨?_,hot,?_⟩
    · intro h
      rcases ht.1 h with h | ⟨i,j,_,i2,j2,j3⟩
      · cases h
      · obtain ⟨v,l0,_⟩ := qkh hm M i2 j2
        have hv0 := (nzv i j i2 j2).1 j3 v l0
        have hvm : v ∈ packV es R C := by
          rcases l0 with g | ⟨rfl,_⟩
          · exact q6y M.ok M.vl C 0 (by omega) _ g
          · exact absurd qlo hv0
        cases f' with
        | true => exact absurd ((hSh.a rfl).2 v hvm) hv0
        | false =>
          obtain ⟨⟨y,y1,y2,y3⟩,_⟩ := hSh.b rfl
          obtain ⟨e,he,rfl⟩ := hvents y y1
          obtain ⟨a,b,ha1,hb1,heq⟩ := hem e he
          have lk : LookV (ents (packS es R C) (packI es R C) (packV es R C) C 0) (a : Int) (b : Int) e.2.2 := .inl (heq ▸ he)
          obtain ⟨q,q1,q2,q3,q4⟩ := hG.q a b ha1 hb1 e.2.2 lk
          refine ho.2 (.inr ⟨a,b,by omega,ha1,hb1,?_⟩)
          rw [qG_of q2]
          exact decide_eq_true (q4 y2 y3)
    · intro h
      cases f' with
      | true => exact (hSh.a rfl).1
      | false =>
        obtain ⟨⟨y,y1,y2,y3⟩,_⟩ := hSh.b rfl
        obtain ⟨e,he,rfl⟩ := hvents y y1
        obtain ⟨a,b,ha1,hb1,heq⟩ := hem e he
        have lk : LookV (ents (packS es R C) (packI es R C) (packV es R C) C 0) (a : Int) (b : Int) e.2.2 := .inl (heq ▸ he)
        have : t = true := ht.2 (.inr ⟨a,b,by omega,ha1,hb1,(nzv a b ha1 hb1).2 fun v' hv' => by
          rw [LookV.uniq M.dist hv' lk]; exact y2⟩)
        rw [this] at h; cases h
  obtain ⟨k1,k2,k3⟩ := key
  cases t with
  | true =>
    rw [k1 rfl]
    show (Option.bind (sparselaw09_awake m) _) = _
    rw [qcx (by omega)]; rfl
  | false =>
    have : o = false := by
      cases o with
      | false => rfl
      | true => exact absurd (k2 rfl) (by simp)
    rw [this,k3 rfl]
    show (Option.bind (sparselaw09_awake m) _) = _
    rw [qcx (by omega)]; rfl
end Go.Vs.F

/-! MxEk -/
set_option linter.unusedVariables false
set_option linter.unusedSimpArgs false
set_option maxRecDepth 100000
namespace Go.Vs.F
/- The exponent of a valid dyad. -/
/-! ### Products -/
end Go.Vs.F

/-! MxEl -/
set_option linter.unusedVariables false
set_option linter.unusedSimpArgs false
set_option maxRecDepth 100000
namespace Go.Vs.F
end Go.Vs.F

/-! MxEm -/
set_option linter.unusedVariables false
set_option linter.unusedSimpArgs false
set_option maxRecDepth 100000
namespace Go.Vs.F
/- Sums of made values. -/
end Go.Vs.F
