/- Exact floats of dyads: program and document. Scaling a matrix: program and document. Scale and Shift of a matrix: program and document agree. Shifting a matrix: program and document agree; the law MatrixScales. Numbers that floats have: rounding is exact. Made values, and shifting exactly. The law MatrixShifted. The law MatrixShifted, joined. The integers of a matrix. The law MatrixWhole. Sums of dyads; products of a matrix and a vector. Products of a matrix and a vector (printed by a small program: both directions are alike). The document's products of big integers and of dyads. The document's dense matrix, dot products, products with a vector. Products with a vector: program and document agree; the law MatrixProducts. Products with the transpose; the law MatrixProducts. The law MatrixProducts. -/
import Derived.Test.YtjjndhlkoehkdaaGreatDoorLe
import Derived.Test.YtjjndhlkoehkdaaGreatDoorLb

/-! MzEa -/
set_option linter.unusedVariables false
set_option linter.unusedSimpArgs false
namespace Go.Vs.F
theorem q39 {neg : Bool} {f : Int} (h1 : 0 ≤ f) (h2 : f < 9223372036854775808) : U64 (sgnF neg f) := by
  unfold sgnF U64; cases neg <;> simp <;> omega
theorem q8y {neg : Bool} {mode : Int} : U64 (overF neg mode) := by
  unfold overF; split <;> exact q39 (by omega) (by omega)
theorem qff {neg : Bool} {n : Nat} {u mode : Int} (h1 : -1074 ≤ u) (hn : n ≤ 9007199254740992) : U64 (packF neg n u mode) := by
  unfold packF
  split
  · split
    · exact q8y
    · exact q39 (by omega) (by omega)
  · split
    · exact q39 (by omega) (by omega)
    · split
      · exact q8y
      · exact q39 (by omega) (by omega)
theorem qdv {neg : Bool} {v : Nat} {e : Int} {more : Bool} {mode : Int} : U64 (Jz neg v e more mode) := qff (q7x v e) q7o
theorem q2m {d : Bool × Bool × List Int × Int × Unit} {mode : Int} : U64 (Qz d mode) := by
  unfold Qz
  split
  · exact ⟨by omega,by omega⟩
  · split
    · exact ⟨by omega,by omega⟩
    · exact qdv
end Go.Vs.F

/-! MzEb -/
set_option linter.unusedVariables false
set_option linter.unusedSimpArgs false
namespace Go.Vs.F
end Go.Vs.F

/-! MzEc -/
set_option linter.unusedVariables false
set_option linter.unusedSimpArgs false
set_option maxRecDepth 100000
namespace Go.Vs.F
theorem qhr (m : Nat) (R C : Int) (S I V : List Int) : ∃ s,sparselaw09_small m R C S I V = some (s,(),()) ∧ (s = true → I.length ≤ 60 ∧ V.length ≤ 60 ∧ S.length ≤ 20) := by
  rw [sparselaw09_small]
  simp only [bif_decide]
  by_cases h1 : (I.length : Int) ≤ 60
  · rw [if_pos h1]
    by_cases h2 : (V.length : Int) ≤ 60
    · rw [if_pos h2]
      by_cases h3 : (S.length : Int) ≤ 20
      · rw [if_pos h3]
        have hl : I.length ≤ 60 ∧ V.length ≤ 60 ∧ S.length ≤ 20 := by omega
        split
        · split <;> exact ⟨_,rfl,fun _ => hl⟩
        · split
          · split <;> exact ⟨_,rfl,fun _ => hl⟩
          · exact ⟨_,rfl,fun h => by cases h⟩
      · rw [if_neg h3]; exact ⟨_,rfl,fun h => by cases h⟩
    · rw [if_neg h2]; exact ⟨_,rfl,fun h => by cases h⟩
  · rw [if_neg h1]; exact ⟨_,rfl,fun h => by cases h⟩
/- A result of at most that size. -/
section
variable {R C : Nat} {S I V : List Int}
theorem qbn (hM : MatOK R C S I) (hV : V.length = I.length) : ∀ (d k : Nat),k + d = C → ∀ e ∈ ents S I V d k,e.2.2 ∈ V
  | 0,k,h => by intro e he; cases he
  | d + 1,k,h => by
    intro e he
    rw [ents] at he
    rcases List.mem_append.1 he with he | he
    · unfold Xl at he
      obtain ⟨t,ht,rfl⟩ := List.mem_map.1 he
      rw [List.mem_range'_1] at ht
      have h1 := hM.st.rng (j := k + 1) (by omega)
      have h2 := hM.st.rng (j := k) (by omega)
      exact Qw (by omega)
    · exact qbn hM hV d (k + 1) (by omega) e he
/- What stands at a place. -/
/- Both look-ups. -/
end
end Go.Vs.F

/-! MzEd -/
set_option linter.unusedVariables false
set_option linter.unusedSimpArgs false
set_option maxRecDepth 100000
namespace Go.Vs.F
def valF (f : Int) : Int := sc (ofZ f) (ofE f) (-1074)
theorem q1v {f : Int} (h : FinF f) : ofD f = mkD (valF f) (-1074) := by
  have he := q64 (f := f)
  unfold ofD valF
  rw [if_pos h,qd8 (by omega)]
theorem val_ok {f : Int} (h : FinF f) : OkD (valF f) (-1074) := by
  have he := q64 (f := f)
  have := qjp h
  unfold OkD valF at *
  rwa [qd8 (by omega)]
section
variable {R C : Nat} {S I V : List Int}
theorem MV.valU (h : MV R C S I V) (hU : ∀ x ∈ V,U64 x) {e : Ent} (he : e ∈ Go.Vs.F.ents S I V C 0) : U64 e.2.2 ∧ FinF e.2.2 := by
  have h1 := hU _ (qbn h.ok h.vl C 0 (by omega) e he)
  obtain ⟨_,_,h3⟩ := Zg h.ents e he
  rw [q27 h1] at h3
  exact ⟨h1,of_decide_eq_true h3⟩
theorem qh4 : U64 0 := ⟨by omega,by omega⟩
theorem qh1 : FinF 0 := by unfold FinF fexp; decide
end
end Go.Vs.F
namespace Go.Vs.F
open Go.Vs
theorem wfu64 {x : Int} (h : (Lit.int .u64 x).wf = true) : U64 x := by
  simp only [Lit.wf,Bool.and_eq_true,decide_eq_true_eq] at h
  exact ⟨h.1,by have h2 : x ≤ 18446744073709551615 := h.2; omega⟩
theorem wfU {xs : List Int} (h : wfC (.imm (.int .u64)) xs) : ∀ x ∈ xs,U64 x := fun x hx => wfu64 (h.1 x hx)
end Go.Vs.F

/-! MzEe -/
set_option linter.unusedVariables false
set_option linter.unusedSimpArgs false
namespace Go.Vs.F
/- Fits a float exactly. -/
/- A small multiple of a power of two fits. -/
end Go.Vs.F

/-! MzEf -/
set_option linter.unusedVariables false
set_option linter.unusedSimpArgs false
set_option maxRecDepth 100000
namespace Go.Vs.F
/- The opposite number. -/
section
variable {R C : Nat} {S I V : List Int}
/- A look at a place. -/
end
end Go.Vs.F

/-! MzEg -/
set_option linter.unusedVariables false
set_option linter.unusedSimpArgs false
set_option maxRecDepth 100000
namespace Go.Vs.F
section
variable {R C : Nat} {S I V : List Int}
end
end Go.Vs.F

/-! MzEh -/
set_option linter.unusedVariables false
set_option linter.unusedSimpArgs false
set_option maxRecDepth 100000
namespace Go.Vs.F
section
variable {N : Nat} {S0 I0 V0 S1 I1 V1 S2 I2 V2 : List Int} {s : Int}
end
end Go.Vs.F

/-! MzEi -/
set_option linter.unusedVariables false
set_option linter.unusedSimpArgs false
set_option maxRecDepth 100000
namespace Go.Vs.F
/- A finite value's normal form. -/
/- The least exponent. -/
/- The grid of integers. -/
end Go.Vs.F

/-! MzEj -/
set_option linter.unusedVariables false
set_option linter.unusedSimpArgs false
set_option maxRecDepth 100000
namespace Go.Vs.F
section
variable {R C : Nat} {S I V : List Int}
end
section
variable {R C : Nat} {S I V : List Int}
end
end Go.Vs.F

/-! MzEk -/
set_option linter.unusedVariables false
set_option linter.unusedSimpArgs false
set_option maxRecDepth 100000
namespace Go.Vs.F
abbrev DyT := Bool × (Bool × List Int) × Int
def dyT (d : Bool × Bool × List Int × Int × Unit) : DyT := (d.1,((d.2.1,d.2.2.1),d.2.2.2.1))
def isum : List Int → Int
  | [] => 0
  | x :: l => x + isum l
theorem q7a {a b : List Int} : isum (a ++ b) = isum a + isum b := by
  induction a with
  | nil => simp [isum]
  | cons x a ih => rw [List.cons_append,isum,isum,ih]; omega
theorem qeu {a b : List Int} (h : List.Perm a b) : isum a = isum b := by
  induction h with
  | nil => rfl
  | cons x _ ih => rw [isum,isum,ih]
  | swap x y l => simp only [isum]; omega
  | trans _ _ h1 h2 => rw [h1,h2]
theorem qh2 : isum [] = 0 := rfl
/- The exponent of a valid dyad. -/
theorem qgn {z e : Int} (h : OkD z e) : -65536 ≤ (mkD z e).2.2.2.1 ∧ (mkD z e).2.2.2.1 ≤ 65536 := by
  obtain ⟨w,f,k,_,_,k3⟩ := Yb h
  rw [k3]; have := k.lo; have := k.hi; omega
theorem qft {m : Nat} (hm : 3000000 < m) {B : Int} {as : List Int} (hl : as.length ≤ 100000) (hok : ∀ a ∈ as,OkD a B) (t0 t1 : Bool) (t2 : List Int) (t3 : Int) : ∀ (n k : Nat) (exp : Int),as.length - k < n → k ≤ as.length → -65536 ≤ exp → exp ≤ 0 →
    (∀ a ∈ as.take k,exp ≤ (mkD a B).2.2.2.1) →
    ∃ exp',g61_L0 m n t0 t1 t2 t3 ((as.take k).map fun a => dyT (mkD a B)) exp (as.map fun a => dyT (mkD a B)) (as.length : Int) (k : Int) = some (.inr (.inl ((t0,t1,t2,t3,()),(as.map fun a => dyT (mkD a B)),exp',()))) ∧ -65536 ≤ exp' ∧ exp' ≤ 0 ∧ ∀ a ∈ as,exp' ≤ (mkD a B).2.2.2.1
  | 0,k,exp,h,_,_,_,_ => by omega
  | n + 1,k,exp,h,hk0,e1,e2,he => by
    rw [g61_L0,bif_decide]
    by_cases hk : k < as.length
    · have hmem : as.getD k 0 ∈ as := Qw hk
      have hget : (as.map fun a => dyT (mkD a B)).getD k (false,((false,([] : List Int)),0)) = dyT (mkD (as.getD k 0) B) := by
        simp [List.getD,hk]
      have ht := take_snoc (l := as) hk (x := as.getD k 0) rfl
      obtain ⟨a,ha⟩ : ∃ a,a = as.getD k 0 := ⟨_,rfl⟩
      rw [← ha] at hmem hget ht
      have hoa := hok a hmem
      have hb := qgn hoa
      have hmn : (if (mkD a B).2.2.2.1 < exp then (mkD a B).2.2.2.1 else exp) = min exp (mkD a B).2.2.2.1 := by split <;> omega
      obtain ⟨x',g1,g2,g3,g4⟩ := qft hm hl hok t0 t1 t2 t3 n (k + 1) (min exp (mkD a B).2.2.2.1) (by omega) (by omega) (by omega) (by omega) (fun y hy => by
        rw [ht] at hy
        rcases List.mem_append.1 hy with hy | hy
        · have := he y hy; omega
        · rw [List.mem_singleton] at hy; subst hy; omega)
      refine ⟨x',?_,g2,g3,g4⟩
      rw [ht,List.map_append] at g1
      have c2 : ((as.take k).map fun a => dyT (mkD a B)).length + ([dyT (mkD a B)] : List DyT).length ≤ 1073741824 := by
        rw [List.length_map,List.length_take]; show min k as.length + 1 ≤ 1073741824; omega
      have hno := qb5 hm hoa
      rw [if_pos (by omega),if_pos (by rw [List.length_map]; omega),Int.toNat_natCast,hget]
      show (Option.bind (g80 m (mkD a B).1 (mkD a B).2.1 (mkD a B).2.2.1 (mkD a B).2.2.2.1) _) = _
      rw [hno,Option.bind_some]
      show (if ((as.take k).map fun a => dyT (mkD a B)).length + ([dyT (mkD a B)] : List DyT).length ≤ 1073741824 then g61_L0 m n t0 t1 t2 t3 (((as.take k).map fun a => dyT (mkD a B)) ++ [dyT (mkD a B)]) (if (mkD a B).2.2.2.1 < exp then (mkD a B).2.2.2.1 else exp) (as.map fun a => dyT (mkD a B)) (as.length : Int) (w_i64 ((k : Int) + 1)) else none) = _
      rw [if_pos c2,hmn,show w_i64 ((k : Int) + 1) = ((k + 1 : Nat) : Int) from wsucc (by omega)]
      exact g1
    · rw [if_neg (by omega)]
      rw [List.take_of_length_le (by omega)] at he ⊢
      exact ⟨exp,rfl,e1,e2,he⟩
theorem qgh {m : Nat} (hm : 3000000 < m) {B : Int} {as : List Int} (hl : as.length ≤ 100000) (hok : ∀ a ∈ as,OkD a B) (t0 t1 : Bool) (t2 : List Int) (t3 : Int) {exp : Int} (x1 : -65536 ≤ exp) (x2 : exp ≤ 0) (hx : ∀ a ∈ as,exp ≤ (mkD a B).2.2.2.1) : ∀ (n k : Nat) (T : Int),as.length - k < n → k ≤ as.length → EqD T exp (isum (as.take k)) B → blen T.natAbs ≤ 300000 + k →
    ∃ T',g61_L1 m n t0 t1 t2 t3 exp (zB T).1 (zB T).2.1 (as.map fun a => dyT (mkD a B)) (as.length : Int) (k : Int) = some (.inl ((t0,t1,t2,t3,()),exp,((zB T').1,(zB T').2.1,()),())) ∧ EqD T' exp (isum as) B ∧ blen T'.natAbs ≤ 400000
  | 0,k,T,h,_,_,_ => by omega
  | n + 1,k,T,h,hk0,hT,hb => by
    rw [g61_L1,bif_decide]
    by_cases hk : k < as.length
    · have hmem : as.getD k 0 ∈ as := Qw hk
      have hget : (as.map fun a => dyT (mkD a B)).getD k (false,((false,([] : List Int)),0)) = dyT (mkD (as.getD k 0) B) := by
        simp [List.getD,hk]
      have ht := take_snoc (l := as) hk (x := as.getD k 0) rfl
      obtain ⟨a,ha⟩ : ∃ a,a = as.getD k 0 := ⟨_,rfl⟩
      rw [← ha] at hmem hget ht
      have hoa := hok a hmem
      have hxa := hx a hmem
      obtain ⟨w,f,kn,k1,k2,k3⟩ := Yb hoa
      have hf1 := kn.lo; have hf2 := kn.hi; have hf3 := kn.len
      rw [k3] at hxa
      have wd : w_i64 (f - exp) = f - exp := by rw [w_i64_eq,wi (by omega) (by omega)]
      have hsc : w * 2 ^ (f - exp).toNat = sc w f exp := rfl
      have hs := sc_bd kn (b := exp) hxa x1
      rw [if_pos (by omega),if_pos (by rw [List.length_map]; omega),Int.toNat_natCast,Nat.zero_add,hget]
      simp only [dyT]
      rw [k1,k2,k3,wd,left_eq hm (by omega) (by omega) (by omega),Option.bind_some,hsc]
      dsimp only
      have hbs := q4n (a := T) (b := sc w f exp) hb (by omega)
      rw [qg8 (by omega) (SzB (by omega)) (SzB (by omega)),zv_zB,zv_zB,Option.bind_some,show w_i64 ((k : Int) + 1) = ((k + 1 : Nat) : Int) from wsucc (by omega)]
      refine qgh hm hl hok t0 t1 t2 t3 x1 x2 hx n (k + 1) (T + sc w f exp) (by omega) (by omega) ?_ (by omega)
      rw [ht,q7a,show isum [a] = a by simp [isum]]
      exact hT.add (c := 0) (g := 0) ((EqD.sc hxa).trans kn.eq)
    · rw [if_neg (by omega)]
      rw [List.take_of_length_le (by omega)] at hT
      exact ⟨T,rfl,hT,by omega⟩
theorem qeg {m : Nat} (hm : 3000000 < m) {B : Int} {as : List Int} (hl : as.length ≤ 100000) (hok : ∀ a ∈ as,OkD a B) : g61 m (as.map fun a => dyT (mkD a B)) = some (mkD (isum as) B,(),()) := by
  obtain ⟨exp,e1,x1,x2,x3⟩ := qft hm hl hok false false [] 0 m 0 0 (by omega) (by omega) (by omega) (by omega) (fun a h => by simp at h)
  obtain ⟨T,e2,h1,h2⟩ := qgh hm hl hok false false [] 0 x1 x2 x3 m 0 0 (by omega) (by omega) (by simp [isum]; exact EqD.zero _ _) (by decide)
  rw [List.take_zero,List.map_nil,Int.natCast_zero] at e1
  rw [Int.natCast_zero,zB_1,zB_2,show (0 : Int).natAbs = 0 from rfl,Qh,show decide ((0 : Int) < 0) = false from rfl] at e2
  rw [g61,List.length_map,e1,Option.bind_some]
  dsimp only
  rw [List.length_map,e2,Option.bind_some]
  dsimp only
  rw [q7h hm (by omega) (by omega) (by omega),h1.mk]; rfl
/-! ### Products -/
def prodE (x : List Int) (fr : Ent → Int) (e : Ent) : Int := valF e.2.2 * valF (x.getD (fr e).toNat 0)
def rowP (x : List Int) (to fr : Ent → Int) (t : Nat) (es : List Ent) : List Int := (es.filter fun e => to e == (t : Int)).map (prodE x fr)
def compF (x : List Int) (to fr : Ent → Int) (es : List Ent) (t : Nat) : Int := Qz (mkD (isum (rowP x to fr t es)) (-2148)) 0
theorem q3f {v : Int} (h : FinF v) : blen (valF v).natAbs ≤ 2100 := by
  have h1 := q7b v
  have h2 := qj2 h
  have h3 := q64 (f := v)
  have := qcq (w := ofZ v) (f := ofE v) (b := -1074) (by omega)
  unfold valF; omega
theorem qa9 {a b : Int} (ha : FinF a) (hb : FinF b) : OkD (valF a * valF b) (-2148) := by
  by_cases h : valF a * valF b = 0
  · rw [h]; exact qho _
  · have h1 := q3f ha
    have h2 := q3f hb
    have h3 := q0y (a := valF a) (b := valF b)
    have h4 := q21 (n := (valF a * valF b).natAbs)
    exact Zj.2 (.inr ⟨by omega,by omega⟩)
end Go.Vs.F

/-! MzEl -/
set_option linter.unusedVariables false
set_option linter.unusedSimpArgs false
set_option maxRecDepth 100000
namespace Go.Vs.F
theorem q3v {x : List Int} {to fr : Ent → Int} {t : Nat} {es : List Ent} {e : Ent} : rowP x to fr t (es ++ [e]) = rowP x to fr t es ++ (if to e = (t : Int) then [prodE x fr e] else []) := by
  unfold rowP
  rw [List.filter_append,List.map_append]
  congr 1
  by_cases h : to e = (t : Int)
  · rw [if_pos h]; simp [h]
  · rw [if_neg h]; simp [h]
theorem mv_L0 {m : Nat} (hm : 3000000 < m) {x : List Int} (hl : x.length ≤ 100000) (hx : ∀ v ∈ x,U64 v) (T : Int) (a0 a1 : Int) (a2 a3 a4 : List Int) : ∀ (n k : Nat),x.length - k < n → k ≤ x.length → (∀ v ∈ x.take k,FinF v) →
    g66_L0 m n T a0 a1 a2 a3 a4 ((x.take k).map fun v => dyT (ofD v)) x (x.length : Int) (k : Int) = some (if ∀ v ∈ x,FinF v then .inr (.inl (T,(),(a0,a1,a2,a3,a4,()),(x.map fun v => dyT (ofD v)),())) else .inl ([],4,()))
  | 0,k,h,_,_ => by omega
  | n + 1,k,h,hk0,hf => by
    rw [g66_L0,bif_decide]
    by_cases hk : k < x.length
    · have hmem : x.getD k 0 ∈ x := Qw hk
      have ht := take_snoc (l := x) hk (x := x.getD k 0) rfl
      obtain ⟨v,hv⟩ : ∃ v,v = x.getD k 0 := ⟨_,rfl⟩
      rw [if_pos (by omega),if_pos (by omega),Int.toNat_natCast]
      rw [← hv] at hmem ht ⊢
      have hu := hx v hmem
      rw [q4s hu,Option.bind_some]
      dsimp only
      by_cases c : FinF v
      · have ih := mv_L0 hm hl hx T a0 a1 a2 a3 a4 n (k + 1) (by omega) (by omega) (fun y hy => by
          rw [ht] at hy
          rcases List.mem_append.1 hy with hy | hy
          · exact hf y hy
          · rw [List.mem_singleton] at hy; subst hy; exact c)
        rw [ht,List.map_append] at ih
        have c2 : ((x.take k).map fun v => dyT (ofD v)).length + ([dyT (ofD v)] : List DyT).length ≤ 1073741824 := by
          rw [List.length_map,List.length_take]; show min k x.length + 1 ≤ 1073741824; omega
        rw [decide_eq_true c,Bool.not_true,cond_false,Of_eq hm hu,Option.bind_some]
        show (if ((x.take k).map fun v => dyT (ofD v)).length + ([dyT (ofD v)] : List DyT).length ≤ 1073741824 then g66_L0 m n T a0 a1 a2 a3 a4 (((x.take k).map fun v => dyT (ofD v)) ++ [dyT (ofD v)]) x (x.length : Int) (w_i64 ((k : Int) + 1)) else none) = _
        rw [if_pos c2,show w_i64 ((k : Int) + 1) = ((k + 1 : Nat) : Int) from wsucc (by omega)]
        exact ih
      · rw [decide_eq_false c,Bool.not_false,cond_true,if_neg (fun h => c (h v hmem))]
    · rw [if_neg (by omega)]
      rw [List.take_of_length_le (by omega)] at hf ⊢
      rw [if_pos hf]
theorem mv_L1 {m : Nat} (hm : 4000000 ≤ m) {x : List Int} (hl : x.length ≤ 100000) (hx : ∀ v ∈ x,FinF v) {T F : Nat} (hF : x.length = F) {es : List Ent} (hel : es.length ≤ 100000) (hto : ∀ e ∈ es,0 ≤ e.1 ∧ e.1 < (T : Int)) (hfr : ∀ e ∈ es,0 ≤ e.2.1 ∧ e.2.1 < (F : Int)) (hU : ∀ e ∈ es,U64 e.2.2 ∧ FinF e.2.2) : ∀ (n k : Nat) (P : List (List DyT)),es.length - k < n → k ≤ es.length → P.length = T → (∀ t,t < T → P.getD t [] = (rowP x (fun e => e.1) (fun e => e.2.1) t (es.take k)).map fun a => dyT (mkD a (-2148))) →
    ∃ P',g66_L1 m n (x.map fun v => dyT (ofD v)) P es (es.length : Int) (k : Int) = some (.inl (P',())) ∧ P'.length = T ∧ ∀ t,t < T → P'.getD t [] = (rowP x (fun e => e.1) (fun e => e.2.1) t es).map fun a => dyT (mkD a (-2148))
  | 0,k,P,h,_,_,_ => by omega
  | n + 1,k,P,h,hk0,hP,hp => by
    by_cases hk : k < es.length
    · have hmem : es.getD k zE ∈ es := q1s hk
      have ht := Yz hk
      obtain ⟨e,he⟩ : ∃ e,e = es.getD k zE := ⟨_,rfl⟩
      have he' : es.getD k (0,(0,0)) = e := he.symm
      rw [← he] at hmem ht
      obtain ⟨t1,t2⟩ := hto e hmem
      obtain ⟨f1,f2⟩ := hfr e hmem
      obtain ⟨u1,u2⟩ := hU e hmem
      have hxm : x.getD (e.2.1).toNat 0 ∈ x := Qw (by omega)
      have hxf := hx _ hxm
      have hget : (x.map fun v => dyT (ofD v)).getD (0 + (e.2.1).toNat) (false,((false,([] : List Int)),0)) = dyT (ofD (x.getD (e.2.1).toNat 0)) := by
        have : (e.2.1).toNat < x.length := by omega
        simp [List.getD,this]
      have hmul := qg7 hm (a := valF e.2.2) (b := valF (x.getD (e.2.1).toNat 0)) (B := -1074) (C := -1074)
      rw [← q1v u2,← q1v hxf,if_pos ⟨val_ok u2,val_ok hxf⟩,show (-1074 : Int) + -1074 = -2148 from rfl] at hmul
      have hlen : (P.getD (e.1).toNat []).length ≤ 100000 := by
        rw [hp _ (by omega),List.length_map]
        unfold rowP
        rw [List.length_map]
        refine Nat.le_trans (List.length_filter_le ..) ?_
        rw [List.length_take]; omega
      have c2 : ∀ y : DyT,(P.getD (e.1).toNat []).length + ([y] : List DyT).length ≤ 1073741824 := fun y => by show _ + 1 ≤ _; omega
      have c3 : (0 : Int) ≤ e.1 ∧ e.1 < (P.length : Int) := by omega
      have c4 : (0 : Int) ≤ e.2.1 ∧ e.2.1 < ((x.map fun v => dyT (ofD v)).length : Int) := by rw [List.length_map]; omega
      have step : g66_L1 m (n + 1) (x.map fun v => dyT (ofD v)) P es (es.length : Int) (k : Int) = g66_L1 m n (x.map fun v => dyT (ofD v)) (P.set (e.1).toNat (P.getD (e.1).toNat [] ++ [dyT (mkD (valF e.2.2 * valF (x.getD (e.2.1).toNat 0)) (-2148))])) es (es.length : Int) ((k + 1 : Nat) : Int) := by
        rw [g66_L1,bif_decide,if_pos (by omega),if_pos (by omega),Int.toNat_natCast,Nat.zero_add,he',g67,Option.bind_some]
        dsimp only
        rw [if_pos c3,Of_eq (by omega) u1,Option.bind_some]
        dsimp only
        rw [if_pos c4,hget]
        dsimp only [dyT]
        rw [hmul,Option.bind_some]
        dsimp only
        rw [if_pos (c2 _),if_pos c3,if_pos rfl,show w_i64 ((k : Int) + 1) = ((k + 1 : Nat) : Int) from wsucc (by omega)]
      rw [step]
      refine mv_L1 hm hl hx hF hel hto hfr hU n (k + 1) _ (by omega) (by omega) (by rw [List.length_set]; exact hP) (fun t htT => ?_)
      rw [Jm (by omega),ht,q3v,List.map_append]
      by_cases c : t = (e.1).toNat
      · rw [if_pos c,if_pos (by omega),← c,hp t htT]; rfl
      · rw [if_neg c,if_neg (by omega),hp t htT]; simp
    · rw [g66_L1,bif_decide,if_neg (by omega)]
      rw [List.take_of_length_le (by omega)] at hp
      exact ⟨P,rfl,hP,hp⟩
theorem mv_L2 {m : Nat} (hm : 4000000 ≤ m) {T : Nat} (hT : T ≤ 100000) {f : Nat → List Int} (hf : ∀ t,t < T → (f t).length ≤ 100000 ∧ ∀ a ∈ f t,OkD a (-2148)) {P : List (List DyT)} (hP : P.length = T) (hp : ∀ t,t < T → P.getD t [] = (f t).map fun a => dyT (mkD a (-2148))) : ∀ (n k : Nat),T - k < n → k ≤ T → (∀ t,t < k → finB (Qz (mkD (isum (f t)) (-2148)) 0) = true) →
    g66_L2 m n ((List.range k).map fun t => Qz (mkD (isum (f t)) (-2148)) 0) P (T : Int) (k : Int) = some (if ∀ t,t < T → finB (Qz (mkD (isum (f t)) (-2148)) 0) = true then .inr (.inl (((List.range T).map fun t => Qz (mkD (isum (f t)) (-2148)) 0),())) else .inl ([],3,()))
  | 0,k,h,_,_ => by omega
  | n + 1,k,h,hk0,hq => by
    rw [g66_L2,bif_decide]
    by_cases hk : k < T
    · obtain ⟨h1,h2⟩ := hf k hk
      have hU := q2m (d := mkD (isum (f k)) (-2148)) (mode := 0)
      have hfb := q27 hU
      rw [if_pos (by omega),if_pos (by omega),Int.toNat_natCast,hp k hk,qeg (by omega) h1 h2,Option.bind_some]
      dsimp only
      rw [qcv (by omega),Option.bind_some]
      dsimp only
      rw [q4s hU,Option.bind_some,← hfb]
      dsimp only
      by_cases c : finB (Qz (mkD (isum (f k)) (-2148)) 0) = true
      · have ih := mv_L2 hm hT hf hP hp n (k + 1) (by omega) (by omega) (fun t ht => by
          by_cases e : t = k
          · subst e; exact c
          · exact hq t (by omega))
        rw [List.range_succ,List.map_append] at ih
        rw [c,Bool.not_true,cond_false,if_pos (by rw [List.length_map,List.length_range]; show k + 1 ≤ _; omega),show w_i64 ((k : Int) + 1) = ((k + 1 : Nat) : Int) from wsucc (by omega)]
        exact ih
      · rw [show finB (Qz (mkD (isum (f k)) (-2148)) 0) = false by simpa using c,Bool.not_false,cond_true,if_neg (fun h => c (h k hk))]
    · have e : k = T := by omega
      subst e
      rw [if_neg (by omega),if_pos hq]
theorem mv_eq {m : Nat} (hm : 4000000 ≤ m) {R C : Nat} {S I V : List Int} (h : MV R C S I V) (hU : ∀ x ∈ V,U64 x) {x : List Int} (hx : ∀ v ∈ x,U64 v) (hF : x.length = C) :
    g15 m (R : Int) (C : Int) S I V x = some (if ∀ v ∈ x,FinF v then (if ∀ t,t < R → finB (compF x (fun e => e.1) (fun e => e.2.1) (ents S I V C 0) t) = true then (((List.range R).map (compF x (fun e => e.1) (fun e => e.2.1) (ents S I V C 0))),0,()) else ([],3,())) else ([],4,()),(),(),()) := by
  have hsz := h.ok.sz
  have hcz := h.ok.cz
  have hrz := h.ok.rz
  have hv := h.vl
  have hsl := h.sl
  have hl := h.len
  have hE := Zg h.ents
  have hem : ∀ e ∈ ents S I V C 0,U64 e.2.2 ∧ FinF e.2.2 := fun e he => h.valU hU he
  have e0 := mv_L0 (m := m) (by omega) (x := x) (by omega) hx (R : Int) (R : Int) (C : Int) S I V m 0 (by omega) (by omega) (fun v hv => by simp at hv)
  rw [List.take_zero,List.map_nil,Int.natCast_zero] at e0
  rw [g15,g66,g44_eq (by omega) (by omega) (by omega) (by omega) (by omega),h.chk]
  simp only [Option.bind_some,bif_ne,if_true]
  rw [if_pos (by omega),e0,Option.bind_some]
  by_cases hf : ∀ v ∈ x,FinF v
  · rw [if_pos hf,if_pos hf]
    dsimp only
    obtain ⟨P,e1,r1,p1⟩ := mv_L1 hm (x := x) (by omega) hf (T := R) (F := C) hF (es := ents S I V C 0) (by omega) (fun e he => And.left (hE e he)) (fun e he => (fun z => z.2.1) (hE e he)) hem m 0 (List.replicate R []) (by omega) (by omega) (by simp) (fun t ht => by rw [Qg ht]; simp [rowP])
    rw [Int.natCast_zero] at e1
    have e2 := mv_L2 hm (T := R) (by omega) (f := fun t => rowP x (fun e => e.1) (fun e => e.2.1) t (ents S I V C 0)) (fun t ht => ⟨by
      unfold rowP; rw [List.length_map]; exact Nat.le_trans (List.length_filter_le ..) (by omega),fun a ha => by
      unfold rowP at ha
      obtain ⟨e,he,rfl⟩ := List.mem_map.1 ha
      have hem2 := (List.mem_filter.1 he).1
      have hfrb := (fun z => z.2.1) (hE e hem2)
      exact qa9 (hem e hem2).2 (hf _ (Qw (by show (e.2.1).toNat < x.length; omega)))⟩) r1 p1 m 0 (by omega) (by omega) (fun t ht => by omega)
    rw [List.range_zero,List.map_nil,Int.natCast_zero] at e2
    rw [if_pos (by omega),q54 (by omega) h.ok h.vl,Option.bind_some,Int.toNat_natCast]
    dsimp only
    rw [e1,Option.bind_some]
    dsimp only
    rw [r1,e2,Option.bind_some]
    by_cases hq : ∀ t,t < R → finB (compF x (fun e => e.1) (fun e => e.2.1) (ents S I V C 0) t) = true
    · have hq' : ∀ t,t < R → finB (Qz (mkD (isum (rowP x (fun e => e.1) (fun e => e.2.1) t (ents S I V C 0))) (-2148)) 0) = true := hq
      rw [if_pos hq',if_pos hq]; rfl
    · have hq' : ¬ ∀ t,t < R → finB (Qz (mkD (isum (rowP x (fun e => e.1) (fun e => e.2.1) t (ents S I V C 0))) (-2148)) 0) = true := hq
      rw [if_neg hq',if_neg hq]; rfl
  · rw [if_neg hf,if_neg hf]; rfl
theorem mt_L0 {m : Nat} (hm : 3000000 < m) {x : List Int} (hl : x.length ≤ 100000) (hx : ∀ v ∈ x,U64 v) (T : Int) (a0 a1 : Int) (a2 a3 a4 : List Int) : ∀ (n k : Nat),x.length - k < n → k ≤ x.length → (∀ v ∈ x.take k,FinF v) →
    g66b_L0 m n T a0 a1 a2 a3 a4 ((x.take k).map fun v => dyT (ofD v)) x (x.length : Int) (k : Int) = some (if ∀ v ∈ x,FinF v then .inr (.inl (T,(),(a0,a1,a2,a3,a4,()),(x.map fun v => dyT (ofD v)),())) else .inl ([],4,()))
  | 0,k,h,_,_ => by omega
  | n + 1,k,h,hk0,hf => by
    rw [g66b_L0,bif_decide]
    by_cases hk : k < x.length
    · have hmem : x.getD k 0 ∈ x := Qw hk
      have ht := take_snoc (l := x) hk (x := x.getD k 0) rfl
      obtain ⟨v,hv⟩ : ∃ v,v = x.getD k 0 := ⟨_,rfl⟩
      rw [if_pos (by omega),if_pos (by omega),Int.toNat_natCast]
      rw [← hv] at hmem ht ⊢
      have hu := hx v hmem
      rw [q4s hu,Option.bind_some]
      dsimp only
      by_cases c : FinF v
      · have ih := mt_L0 hm hl hx T a0 a1 a2 a3 a4 n (k + 1) (by omega) (by omega) (fun y hy => by
          rw [ht] at hy
          rcases List.mem_append.1 hy with hy | hy
          · exact hf y hy
          · rw [List.mem_singleton] at hy; subst hy; exact c)
        rw [ht,List.map_append] at ih
        have c2 : ((x.take k).map fun v => dyT (ofD v)).length + ([dyT (ofD v)] : List DyT).length ≤ 1073741824 := by
          rw [List.length_map,List.length_take]; show min k x.length + 1 ≤ 1073741824; omega
        rw [decide_eq_true c,Bool.not_true,cond_false,Of_eq hm hu,Option.bind_some]
        show (if ((x.take k).map fun v => dyT (ofD v)).length + ([dyT (ofD v)] : List DyT).length ≤ 1073741824 then g66b_L0 m n T a0 a1 a2 a3 a4 (((x.take k).map fun v => dyT (ofD v)) ++ [dyT (ofD v)]) x (x.length : Int) (w_i64 ((k : Int) + 1)) else none) = _
        rw [if_pos c2,show w_i64 ((k : Int) + 1) = ((k + 1 : Nat) : Int) from wsucc (by omega)]
        exact ih
      · rw [decide_eq_false c,Bool.not_false,cond_true,if_neg (fun h => c (h v hmem))]
    · rw [if_neg (by omega)]
      rw [List.take_of_length_le (by omega)] at hf ⊢
      rw [if_pos hf]
theorem mt_L1 {m : Nat} (hm : 4000000 ≤ m) {x : List Int} (hl : x.length ≤ 100000) (hx : ∀ v ∈ x,FinF v) {T F : Nat} (hF : x.length = F) {es : List Ent} (hel : es.length ≤ 100000) (hto : ∀ e ∈ es,0 ≤ e.2.1 ∧ e.2.1 < (T : Int)) (hfr : ∀ e ∈ es,0 ≤ e.1 ∧ e.1 < (F : Int)) (hU : ∀ e ∈ es,U64 e.2.2 ∧ FinF e.2.2) : ∀ (n k : Nat) (P : List (List DyT)),es.length - k < n → k ≤ es.length → P.length = T → (∀ t,t < T → P.getD t [] = (rowP x (fun e => e.2.1) (fun e => e.1) t (es.take k)).map fun a => dyT (mkD a (-2148))) →
    ∃ P',g66b_L1 m n (x.map fun v => dyT (ofD v)) P es (es.length : Int) (k : Int) = some (.inl (P',())) ∧ P'.length = T ∧ ∀ t,t < T → P'.getD t [] = (rowP x (fun e => e.2.1) (fun e => e.1) t es).map fun a => dyT (mkD a (-2148))
  | 0,k,P,h,_,_,_ => by omega
  | n + 1,k,P,h,hk0,hP,hp => by
    by_cases hk : k < es.length
    · have hmem : es.getD k zE ∈ es := q1s hk
      have ht := Yz hk
      obtain ⟨e,he⟩ : ∃ e,e = es.getD k zE := ⟨_,rfl⟩
      have he' : es.getD k (0,(0,0)) = e := he.symm
      rw [← he] at hmem ht
      obtain ⟨t1,t2⟩ := hto e hmem
      obtain ⟨f1,f2⟩ := hfr e hmem
      obtain ⟨u1,u2⟩ := hU e hmem
      have hxm : x.getD (e.1).toNat 0 ∈ x := Qw (by omega)
      have hxf := hx _ hxm
      have hget : (x.map fun v => dyT (ofD v)).getD (0 + (e.1).toNat) (false,((false,([] : List Int)),0)) = dyT (ofD (x.getD (e.1).toNat 0)) := by
        have : (e.1).toNat < x.length := by omega
        simp [List.getD,this]
      have hmul := qg7 hm (a := valF e.2.2) (b := valF (x.getD (e.1).toNat 0)) (B := -1074) (C := -1074)
      rw [← q1v u2,← q1v hxf,if_pos ⟨val_ok u2,val_ok hxf⟩,show (-1074 : Int) + -1074 = -2148 from rfl] at hmul
      have hlen : (P.getD (e.2.1).toNat []).length ≤ 100000 := by
        rw [hp _ (by omega),List.length_map]
        unfold rowP
        rw [List.length_map]
        refine Nat.le_trans (List.length_filter_le ..) ?_
        rw [List.length_take]; omega
      have c2 : ∀ y : DyT,(P.getD (e.2.1).toNat []).length + ([y] : List DyT).length ≤ 1073741824 := fun y => by show _ + 1 ≤ _; omega
      have c3 : (0 : Int) ≤ e.2.1 ∧ e.2.1 < (P.length : Int) := by omega
      have c4 : (0 : Int) ≤ e.1 ∧ e.1 < ((x.map fun v => dyT (ofD v)).length : Int) := by rw [List.length_map]; omega
      have step : g66b_L1 m (n + 1) (x.map fun v => dyT (ofD v)) P es (es.length : Int) (k : Int) = g66b_L1 m n (x.map fun v => dyT (ofD v)) (P.set (e.2.1).toNat (P.getD (e.2.1).toNat [] ++ [dyT (mkD (valF e.2.2 * valF (x.getD (e.1).toNat 0)) (-2148))])) es (es.length : Int) ((k + 1 : Nat) : Int) := by
        rw [g66b_L1,bif_decide,if_pos (by omega),if_pos (by omega),Int.toNat_natCast,Nat.zero_add,he',g70,Option.bind_some]
        dsimp only
        rw [if_pos c3,Of_eq (by omega) u1,Option.bind_some]
        dsimp only
        rw [if_pos c4,hget]
        dsimp only [dyT]
        rw [hmul,Option.bind_some]
        dsimp only
        rw [if_pos (c2 _),if_pos c3,if_pos rfl,show w_i64 ((k : Int) + 1) = ((k + 1 : Nat) : Int) from wsucc (by omega)]
      rw [step]
      refine mt_L1 hm hl hx hF hel hto hfr hU n (k + 1) _ (by omega) (by omega) (by rw [List.length_set]; exact hP) (fun t htT => ?_)
      rw [Jm (by omega),ht,q3v,List.map_append]
      by_cases c : t = (e.2.1).toNat
      · rw [if_pos c,if_pos (by omega),← c,hp t htT]; rfl
      · rw [if_neg c,if_neg (by omega),hp t htT]; simp
    · rw [g66b_L1,bif_decide,if_neg (by omega)]
      rw [List.take_of_length_le (by omega)] at hp
      exact ⟨P,rfl,hP,hp⟩
theorem mt_L2 {m : Nat} (hm : 4000000 ≤ m) {T : Nat} (hT : T ≤ 100000) {f : Nat → List Int} (hf : ∀ t,t < T → (f t).length ≤ 100000 ∧ ∀ a ∈ f t,OkD a (-2148)) {P : List (List DyT)} (hP : P.length = T) (hp : ∀ t,t < T → P.getD t [] = (f t).map fun a => dyT (mkD a (-2148))) : ∀ (n k : Nat),T - k < n → k ≤ T → (∀ t,t < k → finB (Qz (mkD (isum (f t)) (-2148)) 0) = true) →
    g66b_L2 m n ((List.range k).map fun t => Qz (mkD (isum (f t)) (-2148)) 0) P (T : Int) (k : Int) = some (if ∀ t,t < T → finB (Qz (mkD (isum (f t)) (-2148)) 0) = true then .inr (.inl (((List.range T).map fun t => Qz (mkD (isum (f t)) (-2148)) 0),())) else .inl ([],3,()))
  | 0,k,h,_,_ => by omega
  | n + 1,k,h,hk0,hq => by
    rw [g66b_L2,bif_decide]
    by_cases hk : k < T
    · obtain ⟨h1,h2⟩ := hf k hk
      have hU := q2m (d := mkD (isum (f k)) (-2148)) (mode := 0)
      have hfb := q27 hU
      rw [if_pos (by omega),if_pos (by omega),Int.toNat_natCast,hp k hk,qeg (by omega) h1 h2,Option.bind_some]
      dsimp only
      rw [qcv (by omega),Option.bind_some]
      dsimp only
      rw [q4s hU,Option.bind_some,← hfb]
      dsimp only
      by_cases c : finB (Qz (mkD (isum (f k)) (-2148)) 0) = true
      · have ih := mt_L2 hm hT hf hP hp n (k + 1) (by omega) (by omega) (fun t ht => by
          by_cases e : t = k
          · subst e; exact c
          · exact hq t (by omega))
        rw [List.range_succ,List.map_append] at ih
        rw [c,Bool.not_true,cond_false,if_pos (by rw [List.length_map,List.length_range]; show k + 1 ≤ _; omega),show w_i64 ((k : Int) + 1) = ((k + 1 : Nat) : Int) from wsucc (by omega)]
        exact ih
      · rw [show finB (Qz (mkD (isum (f k)) (-2148)) 0) = false by simpa using c,Bool.not_false,cond_true,if_neg (fun h => c (h k hk))]
    · have e : k = T := by omega
      subst e
      rw [if_neg (by omega),if_pos hq]
theorem mt_eq {m : Nat} (hm : 4000000 ≤ m) {R C : Nat} {S I V : List Int} (h : MV R C S I V) (hU : ∀ x ∈ V,U64 x) {x : List Int} (hx : ∀ v ∈ x,U64 v) (hF : x.length = R) :
    g17 m (R : Int) (C : Int) S I V x = some (if ∀ v ∈ x,FinF v then (if ∀ t,t < C → finB (compF x (fun e => e.2.1) (fun e => e.1) (ents S I V C 0) t) = true then (((List.range C).map (compF x (fun e => e.2.1) (fun e => e.1) (ents S I V C 0))),0,()) else ([],3,())) else ([],4,()),(),(),()) := by
  have hsz := h.ok.sz
  have hcz := h.ok.cz
  have hrz := h.ok.rz
  have hv := h.vl
  have hsl := h.sl
  have hl := h.len
  have hE := Zg h.ents
  have hem : ∀ e ∈ ents S I V C 0,U64 e.2.2 ∧ FinF e.2.2 := fun e he => h.valU hU he
  have e0 := mt_L0 (m := m) (by omega) (x := x) (by omega) hx (C : Int) (R : Int) (C : Int) S I V m 0 (by omega) (by omega) (fun v hv => by simp at hv)
  rw [List.take_zero,List.map_nil,Int.natCast_zero] at e0
  rw [g17,g66b,g44_eq (by omega) (by omega) (by omega) (by omega) (by omega),h.chk]
  simp only [Option.bind_some,bif_ne,if_true]
  rw [if_pos (by omega),e0,Option.bind_some]
  by_cases hf : ∀ v ∈ x,FinF v
  · rw [if_pos hf,if_pos hf]
    dsimp only
    obtain ⟨P,e1,r1,p1⟩ := mt_L1 hm (x := x) (by omega) hf (T := C) (F := R) hF (es := ents S I V C 0) (by omega) (fun e he => (fun z => z.2.1) (hE e he)) (fun e he => And.left (hE e he)) hem m 0 (List.replicate C []) (by omega) (by omega) (by simp) (fun t ht => by rw [Qg ht]; simp [rowP])
    rw [Int.natCast_zero] at e1
    have e2 := mt_L2 hm (T := C) (by omega) (f := fun t => rowP x (fun e => e.2.1) (fun e => e.1) t (ents S I V C 0)) (fun t ht => ⟨by
      unfold rowP; rw [List.length_map]; exact Nat.le_trans (List.length_filter_le ..) (by omega),fun a ha => by
      unfold rowP at ha
      obtain ⟨e,he,rfl⟩ := List.mem_map.1 ha
      have hem2 := (List.mem_filter.1 he).1
      have hfrb := And.left (hE e hem2)
      exact qa9 (hem e hem2).2 (hf _ (Qw (by show (e.1).toNat < x.length; omega)))⟩) r1 p1 m 0 (by omega) (by omega) (fun t ht => by omega)
    rw [List.range_zero,List.map_nil,Int.natCast_zero] at e2
    rw [if_pos (by omega),q54 (by omega) h.ok h.vl,Option.bind_some,Int.toNat_natCast]
    dsimp only
    rw [e1,Option.bind_some]
    dsimp only
    rw [r1,e2,Option.bind_some]
    by_cases hq : ∀ t,t < C → finB (compF x (fun e => e.2.1) (fun e => e.1) (ents S I V C 0) t) = true
    · have hq' : ∀ t,t < C → finB (Qz (mkD (isum (rowP x (fun e => e.2.1) (fun e => e.1) t (ents S I V C 0))) (-2148)) 0) = true := hq
      rw [if_pos hq',if_pos hq]; rfl
    · have hq' : ¬ ∀ t,t < C → finB (Qz (mkD (isum (rowP x (fun e => e.2.1) (fun e => e.1) t (ents S I V C 0))) (-2148)) 0) = true := hq
      rw [if_neg hq',if_neg hq]; rfl
  · rw [if_neg hf,if_neg hf]; rfl
end Go.Vs.F

/-! MzFa -/
set_option linter.unusedVariables false
set_option linter.unusedSimpArgs false
set_option maxRecDepth 100000
namespace Go.Vs.F
theorem qfp (m : Nat) {a b : List Int} (hb : Lm b) (hl : b.length ≤ 1000000) {i x : Nat} (hia : i < a.length) (hax : a.getD i 0 = (x : Int)) (hx : x < 4294967296) (hi : i ≤ 1000000) : ∀ (n j : Nat) (out : List Int) (c : Nat),b.length - j < n → j ≤ b.length → Lm out → i + b.length < out.length → c < 4294967296 →
    ∃ out' c',g199_L1 m n a b out (i : Int) (c : Int) (j : Int) = some (.inl (a,b,out',(i : Int),((c' : Nat) : Int),())) ∧ Lm out' ∧ out'.length = out.length ∧ c' < 4294967296 ∧
      (∀ p,i + b.length ≤ p → out'.getD p 0 = out.getD p 0) ∧ vl out' + 4294967296 ^ (i + b.length) * c' = vl out + 4294967296 ^ (i + j) * (c + x * vl (b.drop j))
  | 0,j,out,c,h,_,_,_,_ => by omega
  | n + 1,j,out,c,h,hj0,ho,hol,hc => by
    rw [g199_L1]
    by_cases hj : j < b.length
    · have h1 : ((j : Int) < (b.length : Int)) := by omega
      have c0 : (0 : Int) ≤ (i : Int) ∧ (i : Int) < (a.length : Int) := by omega
      have c1 : (0 : Int) ≤ (j : Int) ∧ (j : Int) < (b.length : Int) := by omega
      obtain ⟨y,ey,hy⟩ := hb.get hj
      have w0 : w_i64 ((i : Int) + (j : Int)) = ((i + j : Nat) : Int) := by
        rw [w_i64_eq,wi (by omega) (by omega)]; omega
      have c2 : (0 : Int) ≤ ((i + j : Nat) : Int) ∧ ((i + j : Nat) : Int) < (out.length : Int) := by omega
      obtain ⟨z,ez,hz⟩ := ho.get (show i + j < out.length by omega)
      have hm := qic hx hy
      have w1 : w_u64 (x : Int) = (x : Int) := w64n (by omega)
      have w2 : w_u64 (y : Int) = (y : Int) := w64n (by omega)
      have w3 : w_u64 (z : Int) = (z : Int) := w64n (by omega)
      have w4 : w_u64 ((x : Int) * (y : Int)) = ((x * y : Nat) : Int) := by rw [show (x : Int) * (y : Int) = ((x * y : Nat) : Int) by rw [Int.natCast_mul],w64n (by omega)]
      have w5 : w_u64 ((c : Int) + ((x * y : Nat) : Int)) = ((c + x * y : Nat) : Int) := by rw [show (c : Int) + ((x * y : Nat) : Int) = ((c + x * y : Nat) : Int) by rw [Int.natCast_add],w64n (by omega)]
      have w6 : w_u64 (((c + x * y : Nat) : Int) + (z : Int)) = ((c + x * y + z : Nat) : Int) := by rw [show ((c + x * y : Nat) : Int) + (z : Int) = ((c + x * y + z : Nat) : Int) by rw [Int.natCast_add (c + x * y)],w64n (by omega)]
      have e1 : w_u32 ((c + x * y + z : Nat) : Int) = (((c + x * y + z) % 4294967296 : Nat) : Int) := w32
      have e2 : shr_ .u64 ((c + x * y + z : Nat) : Int) 32 = (((c + x * y + z) / 4294967296 : Nat) : Int) := shr64 (a := c + x * y + z) (k := 32) (by omega)
      rw [bif_decide,if_pos h1,if_pos c0,if_pos c1,w0,if_pos c2,if_pos c2,Int.toNat_natCast,Int.toNat_natCast,Int.toNat_natCast,Nat.zero_add,hax,ey,ez,w1,w2,w3,w4,w5,w6,e1,e2,show w_i64 ((j : Int) + 1) = ((j + 1 : Nat) : Int) from wsucc (by omega)]
      have hlen : (out.set (i + j) (((c + x * y + z) % 4294967296 : Nat) : Int)).length = out.length := List.length_set ..
      obtain ⟨out',c',g1,g2,g3,g4,g5,g6⟩ := qfp m hb hl hia hax hx hi n (j + 1) (out.set (i + j) (((c + x * y + z) % 4294967296 : Nat) : Int)) ((c + x * y + z) / 4294967296) (by omega) (by omega) (q2s ho (by omega)) (by omega) (by omega)
      refine ⟨out',c',g1,g2,by omega,g4,fun p hp => ?_,?_⟩
      · rw [g5 p hp,getD_set_ne (by omega)]
      · rw [g6]
        have hs := q19 (l := out) (p := i + j) (y := (((c + x * y + z) % 4294967296 : Nat) : Int)) (by omega)
        rw [ez,Int.toNat_natCast,Int.toNat_natCast] at hs
        have hd : vl (b.drop j) = y + 4294967296 * vl (b.drop (j + 1)) := by rw [Qo hj,ey,Int.toNat_natCast]
        rw [hd,show i + (j + 1) = i + j + 1 by omega,Nat.pow_succ]
        generalize 4294967296 ^ (i + j) = P at *
        generalize vl (b.drop (j + 1)) = D at *
        generalize vl (out.set (i + j) (((c + x * y + z) % 4294967296 : Nat) : Int)) = A at *
        have ht : c + x * y + z = (c + x * y + z) % 4294967296 + 4294967296 * ((c + x * y + z) / 4294967296) := (Nat.mod_add_div _ _).symm
        have k1 : P * (c + x * y + z) = P * ((c + x * y + z) % 4294967296) + P * (4294967296 * ((c + x * y + z) / 4294967296)) := by rw [← Nat.mul_add,← ht]
        have k2 : P * (c + x * y + z) = P * c + P * (x * y) + P * z := by rw [Nat.mul_add,Nat.mul_add]
        have k3 : P * 4294967296 * ((c + x * y + z) / 4294967296 + x * D) = P * (4294967296 * ((c + x * y + z) / 4294967296)) + P * (4294967296 * (x * D)) := by rw [Nat.mul_add,Nat.mul_assoc,Nat.mul_assoc]
        have k4 : P * (c + x * (y + 4294967296 * D)) = P * c + (P * (x * y) + P * (4294967296 * (x * D))) := by rw [Nat.mul_add,Nat.mul_add x,Nat.mul_add P (x * y),Nat.mul_left_comm x 4294967296 D]
        rw [k3,k4]
        omega
    · rw [bif_decide,if_neg (by omega)]
      have : j = b.length := by omega
      subst this
      refine ⟨out,c,rfl,ho,rfl,hc,fun _ _ => rfl,?_⟩
      rw [qm (Nat.le_refl _),Nat.mul_zero,Nat.add_zero]
theorem qex (m : Nat) {a b : List Int} (hm : 2000000 < m) (ha : Lm a) (hb : Lm b) (hla : a.length ≤ 1000000) (hlb : b.length ≤ 1000000) : ∀ (n i : Nat) (out : List Int),a.length - i < n → i ≤ a.length → Lm out → out.length = a.length + b.length → (∀ p,i + b.length ≤ p → out.getD p 0 = 0) →
    ∃ out',g199_L0 m n a b out (i : Int) = some (.inl (out',())) ∧ Lm out' ∧ out'.length = a.length + b.length ∧ vl out' = vl out + 4294967296 ^ i * (vl (a.drop i) * vl b)
  | 0,i,out,h,_,_,_,_ => by omega
  | n + 1,i,out,h,hi0,ho,hol,hz => by
    rw [g199_L0]
    by_cases hi : i < a.length
    · have h1 : ((i : Int) < (a.length : Int)) := by omega
      obtain ⟨x,ex,hx⟩ := ha.get hi
      obtain ⟨o1,c,g1,g2,g3,g4,g5,g6⟩ := qfp m (a := a) hb hlb (i := i) hi ex hx (by omega) m 0 out 0 (by omega) (by omega) ho (by omega) (by omega)
      rw [Int.natCast_zero] at g1
      have w0 : w_i64 ((i : Int) + (b.length : Int)) = ((i + b.length : Nat) : Int) := by
        rw [w_i64_eq,wi (by omega) (by omega)]; omega
      have c2 : (0 : Int) ≤ ((i + b.length : Nat) : Int) ∧ ((i + b.length : Nat) : Int) < (o1.length : Int) := by omega
      have w1 : w_u32 (c : Int) = (c : Int) := by rw [w32]; congr 1; omega
      rw [bif_decide,if_pos h1,g1,Option.bind_some]
      dsimp only
      rw [w0,if_pos c2,Int.toNat_natCast,Nat.zero_add,w1,show w_i64 ((i : Int) + 1) = ((i + 1 : Nat) : Int) from wsucc (by omega)]
      have hs := q19 (l := o1) (p := i + b.length) (y := (c : Int)) (by omega)
      rw [g5 _ (Nat.le_refl _),hz _ (Nat.le_refl _),Int.toNat_natCast] at hs
      obtain ⟨out',q1,q2,q3,q4⟩ := qex m hm ha hb hla hlb n (i + 1) (o1.set (i + b.length) (c : Int)) (by omega) (by omega) (q2s g2 g4) (by rw [List.length_set]; omega) (fun p hp => by
        rw [getD_set_ne (by omega),g5 p (by omega)]; exact hz p (by omega))
      refine ⟨out',q1,q2,q3,?_⟩
      rw [q4,Qo hi,ex,Int.toNat_natCast,Nat.pow_succ]
      simp only [Int.toNat_zero,Nat.mul_zero,Nat.add_zero,Nat.zero_add,List.drop_zero] at hs g6
      rw [Nat.add_mul,Nat.mul_add]
      have k : 4294967296 ^ i * 4294967296 * (vl (a.drop (i + 1)) * vl b) = 4294967296 ^ i * (4294967296 * vl (a.drop (i + 1)) * vl b) := by rw [Nat.mul_assoc,Nat.mul_assoc]
      rw [k]
      omega
    · rw [bif_decide,if_neg (by omega)]
      refine ⟨out,rfl,ho,hol,?_⟩
      rw [qm (by omega),Nat.zero_mul,Nat.mul_zero,Nat.add_zero]
theorem qhs {m : Nat} (hm : 4000000 ≤ m) {a b : List Int} (ha : Lm a) (hb : Lm b) (hla : a.length ≤ 400000) (hlb : b.length ≤ 400000) : ∃ out,g199 m a b = some (out,(),(),()) ∧ Lm out ∧ out.length = a.length + b.length ∧ vl out = vl a * vl b := by
  have w : w_i64 ((a.length : Int) + (b.length : Int)) = ((a.length + b.length : Nat) : Int) := by rw [w_i64_eq,wi (by omega) (by omega)]; omega
  obtain ⟨out,e,q1,q2,q3⟩ := qex m (by omega) ha hb (by omega) (by omega) m 0 (List.replicate (a.length + b.length) 0) (by omega) (by omega) Xf (by simp) (fun p hp => by
    by_cases h : p < a.length + b.length
    · rw [Qg h]
    · rw [Xq (by simpa using h)])
  rw [Int.natCast_zero] at e
  refine ⟨out,?_,q1,q2,?_⟩
  · rw [g199,w,if_pos (by omega),Int.toNat_natCast,e]; rfl
  · rw [q3,Xg]; simp
theorem qij {m : Nat} (hm : 4000000 ≤ m) {n1 n2 : Bool} {l1 l2 : List Int} (h1 : Lm l1) (h2 : Lm l2) (hl : l1.length + l2.length ≤ 400000) : g182 m n1 l1 n2 l2 = some (zB (zv n1 l1 * zv n2 l2),(),(),()) := by
  have b1 := Qy h1
  have b2 := Qy h2
  obtain ⟨out,e,q1,q2,q3⟩ := qhs hm (Qa (vl l1)) (Qa (vl l2)) (by omega) (by omega)
  rw [g182,Yt h1 (by omega) (by omega),Option.bind_some,Yt h2 (by omega) (by omega),Option.bind_some]
  dsimp only
  rw [e,Option.bind_some]
  dsimp only
  rw [X8 (by omega) q1 (by omega),Option.bind_some]
  have : zv (!(n1 == n2)) out = zv n1 l1 * zv n2 l2 := by
    unfold zv
    rw [q3,qw,qw]
    cases n1 <;> cases n2 <;> simp [Int.neg_mul,Int.mul_neg]
  rw [this]
theorem qgr {m : Nat} (hm : 4000000 ≤ m) {a b B C : Int} :
    g133 m (mkD a B).1 (mkD a B).2.1 (mkD a B).2.2.1 (mkD a B).2.2.2.1 (mkD b C).1 (mkD b C).2.1 (mkD b C).2.2.1 (mkD b C).2.2.2.1 = some (if OkD a B ∧ OkD b C then mkD (a * b) (B + C) else badD,(),(),()) := by
  rw [g133,Jf (by omega),Option.bind_some,Jf (by omega),Option.bind_some]
  dsimp only
  by_cases h1 : OkD a B
  · by_cases h2 : OkD b C
    · obtain ⟨w,f,k,k1,k2,k3⟩ := Yb h1
      obtain ⟨x,g,l,l1,l2,l3⟩ := Yb h2
      have hb1 := k.lo; have hb2 := k.hi; have hb3 := l.lo; have hb4 := l.hi
      have n1 := k.len; have n2 := l.len
      have hl := k.lim; have hl2 := l.lim
      have i1 : (mkD a B).1 = false := h1
      have i2 : (mkD b C).1 = false := h2
      have w1 : w_i64 (f + g) = f + g := by rw [w_i64_eq,wi (by omega) (by omega)]
      rw [if_pos ⟨h1,h2⟩,k1,k2,k3,l1,l2,l3,i1,i2,cond_false,cond_false,qij hm (Lm_zB w) (Lm_zB x) (by omega),zv_zB,zv_zB,Option.bind_some,w1]
      dsimp only
      rw [q7s (by omega) (Nat.le_trans q0y (by omega)) (by omega) (by omega),(k.eq.mul l.eq).mk]; rfl
    · have i1 : (mkD a B).1 = false := h1
      rw [if_neg (fun h => h2 h.2),i1,cond_false,qcx h2]; rfl
  · rw [if_neg (fun h => h1 h.1),qcx h1]; rfl
end Go.Vs.F

/-! MzFb -/
set_option linter.unusedVariables false
set_option linter.unusedSimpArgs false
set_option maxRecDepth 100000
namespace Go.Vs.F
def dotL (x y : List Int) (k : Nat) : List Int := (List.range k).map fun i => valF (x.getD i 0) * valF (y.getD i 0)
theorem Zv {x y : List Int} {k : Nat} : isum (dotL x y (k + 1)) = isum (dotL x y k) + valF (x.getD k 0) * valF (y.getD k 0) := by
  unfold dotL
  rw [List.range_succ,List.map_append,q7a]; simp [isum]
theorem qhb {a b : Int} (ha : FinF a) (hb : FinF b) : blen (valF a * valF b).natAbs ≤ 4200 := by
  have h1 := q3f ha
  have h2 := q3f hb
  have h3 := q0y (a := valF a) (b := valF b)
  omega
theorem qcj {x y : List Int} : ∀ {k : Nat},(∀ i,i < k → FinF (x.getD i 0) ∧ FinF (y.getD i 0)) → blen (isum (dotL x y k)).natAbs ≤ 4200 + k
  | 0,_ => Nat.le_trans (X6 (n := 0) (k := 0) (by decide)) (by omega)
  | k + 1,h => by
    have h1 := qcj (x := x) (y := y) (k := k) fun i hi => h i (by omega)
    obtain ⟨f1,f2⟩ := h k (by omega)
    have h2 := qhb f1 f2
    have h3 := q4n (k := 4200 + k) h1 (Nat.le_trans h2 (by omega))
    rw [Zv]; omega
theorem qiu {x y : List Int} {k : Nat} (hk : k ≤ 20000) (h : ∀ i,i < k → FinF (x.getD i 0) ∧ FinF (y.getD i 0)) : OkD (isum (dotL x y k)) (-2148) := by
  have := qcj h
  exact Zj.2 (.inr ⟨by omega,by omega⟩)
theorem qfg {m : Nat} (hm : 4000000 ≤ m) {x y : List Int} (hl : x.length ≤ 20000) (he : x.length = y.length) (hf : ∀ i,i < x.length → (U64 (x.getD i 0) ∧ FinF (x.getD i 0)) ∧ (U64 (y.getD i 0) ∧ FinF (y.getD i 0))) (t0 t1 : Bool) (t2 : List Int) (t3 : Int) : ∀ (n k : Nat),x.length - k < n → k ≤ x.length →
    g69_L0 m n x y t0 t1 t2 t3 (mkD (isum (dotL x y k)) (-2148)).1 (mkD (isum (dotL x y k)) (-2148)).2.1 (mkD (isum (dotL x y k)) (-2148)).2.2.1 (mkD (isum (dotL x y k)) (-2148)).2.2.2.1 (k : Int) = some (.inl ((t0,t1,t2,t3,()),mkD (isum (dotL x y x.length)) (-2148),()))
  | 0,k,h,_ => absurd h (Nat.not_lt_zero _)
  | n + 1,k,h,hk0 => by
    rw [g69_L0,bif_decide]
    by_cases hk : k < x.length
    · have ih := qfg hm hl he hf t0 t1 t2 t3 n (k + 1) (by omega) (by omega)
      obtain ⟨⟨u1,f1⟩,u2,f2⟩ := hf k hk
      have ok1 : OkD (isum (dotL x y k)) (-2148) := qiu (by omega) fun i hi => ⟨(hf i (by omega)).1.2,(hf i (by omega)).2.2⟩
      rw [Zv] at ih
      rw [if_pos (by omega),if_pos (by omega),Int.toNat_natCast,qi4 (by omega) u1,Option.bind_some,if_pos (by omega),qi4 (by omega) u2,Option.bind_some,q1v f1,q1v f2]
      dsimp only
      rw [qgr hm,if_pos ⟨val_ok f1,val_ok f2⟩,Option.bind_some,show (-1074 : Int) + -1074 = -2148 by decide]
      dsimp only
      rw [qha (by omega),if_pos ⟨ok1,qa9 f1 f2⟩,Option.bind_some,show w_i64 ((k : Int) + 1) = ((k + 1 : Nat) : Int) from wsucc (by omega)]
      exact ih
    · rw [if_neg (by omega),show k = x.length by omega]
theorem qf6 {x : List Int} : (∀ v ∈ x,U64 v ∧ FinF v) → ∀ i,i < x.length → U64 (x.getD i 0) ∧ FinF (x.getD i 0) := fun h i hi => h _ (Qw hi)
/-! ### The dense matrix -/
theorem q82 (m : Nat) {R C : Nat} (hr : R ≤ 200) (hc : C ≤ 200) (S I V : List Int) : ∀ (n k : Nat),R - k < n → k ≤ R →
    g42_L0 m n (R : Int) (C : Int) S I V (List.replicate k (List.replicate C 0)) (k : Int) = some (.inl (((R : Int),(C : Int),S,I,V,()),List.replicate R (List.replicate C 0),()))
  | 0,k,h,_ => absurd h (Nat.not_lt_zero _)
  | n + 1,k,h,hk0 => by
    rw [g42_L0,bif_decide]
    by_cases hk : k < R
    · rw [if_pos (by omega),if_pos ⟨by omega,Int.le_refl _,by omega⟩,Int.toNat_natCast,if_pos ⟨by simp,by simp; omega⟩,show w_i64 ((k : Int) + 1) = ((k + 1 : Nat) : Int) from wsucc (by omega),← List.replicate_succ']
      exact q82 m hr hc S I V n (k + 1) (by omega) (by omega)
    · rw [if_neg (by omega),show k = R by omega]
theorem qbo {x y : List Int} {j : Nat} {v : Int} (hj : j < x.length) (h0 : x.getD j 0 = 0) : ∀ {k : Nat},isum (dotL (x.set j v) y k) = isum (dotL x y k) + (if j < k then valF v * valF (y.getD j 0) else 0)
  | 0 => by rw [if_neg (by omega)]; rfl
  | k + 1 => by
    rw [Zv,Zv,qbo hj h0 (k := k),Jm hj]
    have hz : valF 0 = 0 := by decide
    rcases Nat.lt_trichotomy j k with q | q | q
    · rw [if_pos q,if_neg (by omega),if_pos (by omega)]; omega
    · subst q
      rw [if_neg (by omega),if_pos rfl,if_pos (by omega),h0,hz,Int.zero_mul]
    · rw [if_neg (by omega),if_neg (by omega),if_neg (by omega),Int.add_zero,Int.add_zero]
theorem q7z {y : List Int} {C : Nat} : ∀ {k : Nat},isum (dotL (List.replicate C 0) y k) = 0
  | 0 => rfl
  | k + 1 => by
    have hz : valF 0 = 0 := by decide
    have h0 : (List.replicate C (0 : Int)).getD k 0 = 0 := by
      rw [List.getD,List.getElem?_replicate]; split <;> rfl
    rw [Zv,q7z,h0,hz,Int.zero_mul]; rfl
abbrev toE : Ent → Int := fun e => e.1
abbrev frE : Ent → Int := fun e => e.2.1
/- What is known of the rows once the entries es are laid in. -/
structure DN (R C : Nat) (es : List Ent) (D : List (List Int)) : Prop where
  len : D.length = R
  row : ∀ i,i < R → (D.getD i []).length = C
  fin : ∀ i,i < R → ∀ v ∈ D.getD i [],U64 v ∧ FinF v
  zero : ∀ i,i < R → ∀ j,j < C → (∀ e ∈ es,¬ (e.1 = (i : Int) ∧ e.2.1 = (j : Int))) → (D.getD i []).getD j 0 = 0
  sum : ∀ i,i < R → ∀ y : List Int,isum (dotL (D.getD i []) y C) = isum (rowP y toE frE i es)
theorem DN.start {R C : Nat} : DN R C [] (List.replicate R (List.replicate C 0)) := by
  have g : ∀ i,i < R → (List.replicate R (List.replicate C (0 : Int))).getD i [] = List.replicate C 0 := fun i hi => by simp [List.getD,hi]
  refine ⟨by simp,fun i hi => by rw [g i hi]; simp,fun i hi v hv => ?_,fun i hi j hj _ => ?_,fun i hi y => ?_⟩
  · rw [g i hi] at hv
    obtain ⟨_,rfl⟩ := List.mem_replicate.1 hv
    exact ⟨qh4,qh1⟩
  · rw [g i hi]; simp [List.getD,hj]
  · rw [g i hi,q7z]; rfl
theorem DN.step {R C : Nat} {es : List Ent} {D : List (List Int)} (h : DN R C es D) {e : Ent} {i0 j0 : Nat} (hi0 : (i0 : Int) = e.1) (hj0 : (j0 : Int) = e.2.1) (hi : i0 < R) (hj : j0 < C) (hv : U64 e.2.2 ∧ FinF e.2.2) (hn : ∀ e' ∈ es,¬ (e'.1 = e.1 ∧ e'.2.1 = e.2.1)) :
    DN R C (es ++ [e]) (D.set i0 ((D.getD i0 []).set j0 e.2.2)) := by
  have hl := h.len
  have g : ∀ i,(D.set i0 ((D.getD i0 []).set j0 e.2.2)).getD i [] = if i = i0 then (D.getD i0 []).set j0 e.2.2 else D.getD i [] := fun i => Jm (by omega)
  have hrow := h.row i0 hi
  have z0 : (D.getD i0 []).getD j0 0 = 0 := h.zero i0 hi j0 hj fun e' he' q => hn e' he' ⟨by omega,by omega⟩
  refine ⟨by rw [List.length_set]; exact hl,fun i hi' => ?_,fun i hi' v hv' => ?_,fun i hi' j hj' hq => ?_,fun i hi' y => ?_⟩
  · rw [g]; split
    · rw [List.length_set]; exact hrow
    · exact h.row i hi'
  · rw [g] at hv'
    split at hv'
    · rcases List.mem_or_eq_of_mem_set hv' with q | rfl
      · exact h.fin i0 hi v q
      · exact hv
    · exact h.fin i hi' v hv'
  · rw [g]
    have h1 : ∀ e' ∈ es,¬ (e'.1 = (i : Int) ∧ e'.2.1 = (j : Int)) := fun e' he' => hq e' (List.mem_append_left _ he')
    have h2 := hq e (List.mem_append_right _ (List.mem_singleton.2 rfl))
    split
    · rename_i q
      subst q
      rw [Jm (by omega),if_neg (by rintro rfl; exact h2 ⟨by omega,by omega⟩)]
      exact h.zero i hi' j hj' h1
    · exact h.zero i hi' j hj' h1
  · rw [g,q3v,q7a]
    by_cases q : i = i0
    · subst q
      rw [if_pos rfl,qbo (by omega) z0,if_pos hj,h.sum i hi' y,if_pos (by show e.1 = _; omega)]
      show _ + valF e.2.2 * valF (y.getD j0 0) = _ + (valF e.2.2 * valF (y.getD (e.2.1).toNat 0) + 0)
      rw [show (e.2.1).toNat = j0 by omega]; omega
    · rw [if_neg q,h.sum i hi' y,if_neg (by show ¬ e.1 = _; omega)]
      show _ = _ + (0 : Int)
      omega
theorem q9l (m : Nat) {R C : Nat} (hr : R ≤ 200) (hc : C ≤ 200) {es : List Ent} (hl : es.length ≤ 100000) (hE : EntsOK R C es) (hD : DistE es) (hf : ∀ e ∈ es,U64 e.2.2 ∧ FinF e.2.2) : ∀ (n k : Nat) (D : List (List Int)),es.length - k < n → k ≤ es.length → DN R C (es.take k) D →
    ∃ D',g42_L1 m n D es (k : Int) = some (.inl (D',())) ∧ DN R C es D'
  | 0,k,D,h,_,_ => absurd h (Nat.not_lt_zero _)
  | n + 1,k,D,h,hk0,hN => by
    rw [g42_L1,bif_decide]
    by_cases hk : k < es.length
    · have hmem := q1s hk
      obtain ⟨⟨b1,b2⟩,⟨b3,b4⟩,_⟩ := Zg hE _ hmem
      have hfe := hf _ hmem
      have ht : es.take (k + 1) = es.take k ++ [es.getD k zE] := by
        rw [List.take_add_one,show es.getD k zE = es[k] by simp [List.getD,hk],List.getElem?_eq_getElem hk]; rfl
      have hn : ∀ e' ∈ es.take k,¬ (e'.1 = (es.getD k zE).1 ∧ e'.2.1 = (es.getD k zE).2.1) := fun e' he' q => by
        obtain ⟨k',hk',he⟩ := List.mem_iff_getElem.1 he'
        rw [List.length_take] at hk'
        rw [List.getElem_take] at he
        have : es.getD k' zE = e' := by rw [← he]; simp [List.getD,show k' < es.length by omega]
        have := hD k' k (by omega) hk (by rw [this]; exact q.1) (by rw [this]; exact q.2)
        omega
      obtain ⟨e,he⟩ : ∃ e,e = es.getD k zE := ⟨_,rfl⟩
      rw [← he] at b1 b2 b3 b4 hfe ht hn
      obtain ⟨i,hi⟩ : ∃ i : Nat,(i : Int) = e.1 := ⟨e.1.toNat,by omega⟩
      obtain ⟨j,hj⟩ : ∃ j : Nat,(j : Int) = e.2.1 := ⟨e.2.1.toNat,by omega⟩
      have hL := hN.len
      have hrow := hN.row i (by omega)
      have c1 : (0 : Int) ≤ (k : Int) ∧ (k : Int) < (es.length : Int) := by omega
      have hN2 := hN.step hi hj (by omega) (by omega) hfe hn
      rw [← ht] at hN2
      rw [if_pos (by omega),if_pos c1,Int.toNat_natCast,Nat.zero_add,show es.getD k ((0,(0,0)) : Ent) = e from he.symm,← hi,← hj,if_pos (by omega),if_pos c1,if_pos c1,Int.toNat_natCast,Int.toNat_natCast,if_pos (by omega),show w_i64 ((k : Int) + 1) = ((k + 1 : Nat) : Int) from wsucc (by omega)]
      exact q9l m hr hc hl hE hD hf n (k + 1) _ (by omega) (by omega) hN2
    · rw [if_neg (by omega)]
      rw [List.take_of_length_le (by omega)] at hN
      exact ⟨D,rfl,hN⟩
theorem qg5 {m : Nat} (hm : 4000000 ≤ m) {R C : Nat} {S I V : List Int} (h : MV R C S I V) (hU : ∀ x ∈ V,U64 x) : ∃ D,g42 m (R : Int) (C : Int) S I V = some ((D,0,()),(),()) ∧ DN R C (ents S I V C 0) D := by
  have hcz := h.ok.cz
  have hrz := h.ok.rz
  have hsz := h.ok.sz
  have hv := h.vl
  have hl := h.len
  have e0 := q82 m (R := R) (C := C) hrz hcz S I V m 0 (by omega) (by omega)
  obtain ⟨D,e1,hD⟩ := q9l m (R := R) (C := C) hrz hcz (es := ents S I V C 0) (by omega) h.ents h.dist (fun e he => h.valU hU he) m 0 (List.replicate R (List.replicate C 0)) (by omega) (by omega) DN.start
  rw [List.replicate_zero,Int.natCast_zero] at e0
  rw [Int.natCast_zero] at e1
  refine ⟨D,?_,hD⟩
  rw [g42,X4 (by omega) (by omega) (by omega),h.chk]
  simp only [Option.bind_some,bif_ne,if_true]
  rw [e0,Option.bind_some]
  dsimp only
  rw [q6l (by omega) h.ok h.vl h.chk,Option.bind_some]
  dsimp only
  rw [e1]; rfl
end Go.Vs.F

/-! MzFc -/
set_option linter.unusedVariables false
set_option linter.unusedSimpArgs false
set_option maxRecDepth 100000
namespace Go.Vs.F
theorem q3q {x : List Int} (h : ∀ v ∈ x,U64 v ∧ FinF v) : finL x = true := by
  unfold finL
  rw [Q8]
  intro i _ hi
  obtain ⟨h1,h2⟩ := h _ (Qw hi)
  rw [q27 h1]; exact decide_eq_true h2
theorem qdi {x : List Int} (hU : ∀ v ∈ x,U64 v) (h : ¬ ∀ v ∈ x,FinF v) : finL x = false := by
  rw [Bool.eq_false_iff]
  intro q
  apply h
  intro v hv
  obtain ⟨i,hi,rfl⟩ := List.mem_iff_getElem.1 hv
  unfold finL at q
  have := Q8.1 q i (Nat.zero_le _) hi
  have e : x.getD i 0 = x[i] := by simp [List.getD,hi]
  rw [e,q27 (hU _ hv)] at this
  exact of_decide_eq_true this
theorem qi9 {m : Nat} (hm : 4000000 ≤ m) {R C : Nat} (hr : R ≤ 200) (hc : C ≤ 200) {es : List Ent} {x : List Int} (hx : ∀ v ∈ x,U64 v ∧ FinF v) (hxl : x.length = C) (S I V : List Int) {D : List (List Int)} (hD : DN R C es D) : ∀ (n k : Nat),R - k < n → k ≤ R →
    g16_L0 m n x (R : Int) (C : Int) S I V D ((List.range k).map (compF x toE frE es)) (k : Int) = some (if ∀ t,t < R → k ≤ t → finB (compF x toE frE es t) = true then .inr (.inl (((List.range R).map (compF x toE frE es)),())) else .inl ([],3,()))
  | 0,k,h,_ => absurd h (Nat.not_lt_zero _)
  | n + 1,k,h,hk0 => by
    rw [g16_L0,bif_decide]
    have hL := hD.len
    by_cases hk : k < R
    · have hrow := hD.row k hk
      have hfr := hD.fin k hk
      have hU : U64 (compF x toE frE es k) := q2m
      have hd := qfg hm (x := D.getD k []) (y := x) (by omega) (by omega) (fun i hi => ⟨qf6 hfr i hi,qf6 hx i (by omega)⟩) false false [] 0 m 0 (by omega) (by omega)
      rw [show dotL (D.getD k []) x 0 = [] from rfl,qh2,qd0,Int.natCast_zero,hrow,hD.sum k hk x] at hd
      have hdot : g69 m (D.getD k []) x = some ((mkD (isum (rowP x toE frE k es)) (-2148),0,()),(),(),()) := by
        rw [g69,bif_ne,if_pos (by omega),q0u (by omega) (by omega),q3q hfr,Option.bind_some]
        dsimp only
        rw [Bool.not_true,cond_false,q0u (by omega) (by omega),q3q hx,Option.bind_some]
        dsimp only
        rw [Bool.not_true,cond_false,hd]; rfl
      rw [if_pos (by omega),if_pos (by omega),Int.toNat_natCast,hdot,Option.bind_some]
      dsimp only
      rw [qes (by omega),Option.bind_some,show Qz (mkD (isum (rowP x toE frE k es)) (-2148)) 0 = compF x toE frE es k from rfl]
      dsimp only
      rw [qd6 hU,Option.bind_some,← q27 hU]
      dsimp only
      cases hb : finB (compF x toE frE es k) with
      | true =>
        rw [Bool.not_true,cond_false,if_pos (by rw [List.length_map,List.length_range]; show k + 1 ≤ _; omega),show w_i64 ((k : Int) + 1) = ((k + 1 : Nat) : Int) from wsucc (by omega)]
        have ih := qi9 hm hr hc hx hxl S I V hD n (k + 1) (by omega) (by omega)
        rw [List.range_succ,List.map_append] at ih
        rw [show (List.range k).map (compF x toE frE es) ++ [compF x toE frE es k] = (List.range k).map (compF x toE frE es) ++ List.map (compF x toE frE es) [k] from rfl,ih]
        have : (∀ t,t < R → k + 1 ≤ t → finB (compF x toE frE es t) = true) ↔ (∀ t,t < R → k ≤ t → finB (compF x toE frE es t) = true) := by
          constructor
          · intro h t h2 h1
            rcases Nat.lt_or_ge k t with q | q
            · exact h t h2 q
            · have : t = k := by omega
              subst this; exact hb
          · intro h t h2 h1; exact h t h2 (by omega)
        by_cases q : ∀ t,t < R → k ≤ t → finB (compF x toE frE es t) = true
        · rw [if_pos q,if_pos (this.2 q)]
        · rw [if_neg q,if_neg (fun h => q (this.1 h))]
      | false =>
        rw [Bool.not_false,cond_true,if_neg]
        intro h
        have := h k hk (Nat.le_refl _)
        rw [hb] at this; cases this
    · rw [if_neg (by omega),if_pos (fun t h2 h1 => absurd h1 (by omega)),show k = R by omega]
theorem qi8 {m : Nat} (hm : 4000000 ≤ m) {R C : Nat} {S I V : List Int} (h : MV R C S I V) (hU : ∀ x ∈ V,U64 x) {x : List Int} (hx : ∀ v ∈ x,U64 v) (hF : x.length = C) :
    g16 m (R : Int) (C : Int) S I V x = some (if ∀ v ∈ x,FinF v then (if ∀ t,t < R → finB (compF x toE frE (ents S I V C 0) t) = true then (((List.range R).map (compF x toE frE (ents S I V C 0))),0,()) else ([],3,())) else ([],4,()),(),(),()) := by
  have hcz := h.ok.cz
  have hrz := h.ok.rz
  have hsz := h.ok.sz
  have hv := h.vl
  rw [g16,X4 (by omega) (by omega) (by omega),h.chk]
  simp only [Option.bind_some,bif_ne,if_true]
  rw [if_pos (by omega),q0u (by omega) (by omega),Option.bind_some]
  dsimp only
  by_cases hf : ∀ v ∈ x,FinF v
  · obtain ⟨D,e1,hD⟩ := qg5 hm h hU
    have e2 := qi9 hm hrz hcz (x := x) (fun v hv => ⟨hx v hv,hf v hv⟩) hF S I V hD m 0 (by omega) (by omega)
    rw [List.range_zero,List.map_nil,Int.natCast_zero] at e2
    rw [q3q (fun v hv => ⟨hx v hv,hf v hv⟩),Bool.not_true,cond_false,e1,Option.bind_some,if_pos hf]
    dsimp only
    rw [e2,Option.bind_some]
    by_cases hq : ∀ t,t < R → finB (compF x toE frE (ents S I V C 0) t) = true
    · rw [if_pos hq,if_pos (fun t h2 _ => hq t h2)]
    · rw [if_neg hq,if_neg (fun h => hq fun t ht => h t ht (Nat.zero_le _))]
  · rw [qdi hx hf,Bool.not_false,cond_true,if_neg hf]
end Go.Vs.F

/-! MzFd -/
set_option linter.unusedVariables false
set_option linter.unusedSimpArgs false
set_option maxRecDepth 100000
namespace Go.Vs.F
variable {R C : Nat} {S I V : List Int}
theorem Jg (m : Nat) (r c : Int) (S I V : List Int) (b0 b1 : Int) (b2 b3 b4 : List Int) : ∀ (L2 L1 : List Ent) (n : Nat),L2.length < n → L1.length + L2.length < 1000000000 →
    g71_L0 m n r c S I V b0 b1 b2 b3 b4 (L1.map swE ++ L2) (L1.length : Int) = some (.inl ((r,c,S,I,V,()),(b0,b1,b2,b3,b4,()),(L1 ++ L2).map swE,()))
  | L2,L1,0,h,_ => absurd h (Nat.not_lt_zero _)
  | [],L1,n + 1,_,hb => by
    rw [g71_L0,bif_decide,if_neg (by simp)]
    simp
  | x :: L2,L1,n + 1,h,hb => by
    simp only [List.length_cons] at h hb
    have hlen : (L1.map swE ++ x :: L2).length = L1.length + 1 + L2.length := by simp; omega
    have gx : (L1.map swE ++ x :: L2).getD (0 + (L1.length : Int).toNat) zE = x := getD_at (by simp)
    have hs : ∀ y : Ent,(L1.map swE ++ x :: L2).set (0 + (L1.length : Int).toNat) y = L1.map swE ++ y :: L2 := fun y => qi5 (by simp)
    have hs2 : ∀ y z : Ent,(L1.map swE ++ y :: L2).set (0 + (L1.length : Int).toNat) z = L1.map swE ++ z :: L2 := fun y z => qi5 (by simp)
    have gy : ∀ y : Ent,(L1.map swE ++ y :: L2).getD (0 + (L1.length : Int).toNat) zE = y := fun y => getD_at (by simp)
    rw [g71_L0,bif_decide,if_pos (by omega)]
    simp only [gx,hs,gy,hs2]
    rw [if_pos (by omega),if_pos (by omega),if_pos (by omega),if_pos (by simp; omega)]
    have ih := Jg m r c S I V b0 b1 b2 b3 b4 L2 (L1 ++ [x]) n (by omega) (by simp; omega)
    rw [show w_i64 ((L1.length : Int) + 1) = ((L1 ++ [x]).length : Int) by rw [w_i64_eq,wi (by omega) (by omega)]; simp,
      show L1.map swE ++ (x.2.1,(x.1,x.2.2)) :: L2 = (L1 ++ [x]).map swE ++ L2 by simp [swE],ih]
    simp
theorem sw_ok (h : MV R C S I V) : EntsOK C R ((ents S I V C 0).map swE) := qdg fun e he => by
  obtain ⟨x,hx,rfl⟩ := List.mem_map.1 he
  obtain ⟨a,b,c⟩ := Zg h.ents x hx
  exact ⟨b,a,c⟩
theorem qeh (h : MV R C S I V) : DistE ((ents S I V C 0).map swE) := by
  have h1 := qcn.1 h.dist
  rw [qcn,List.map_map]
  rw [List.nodup_iff_pairwise_ne,List.pairwise_map] at h1 ⊢
  refine h1.imp fun {a b} hab e => hab ?_
  simp only [Function.comp_apply,posE,swE,Prod.mk.injEq] at e ⊢
  exact ⟨e.2,e.1⟩
theorem q3s {m : Nat} (hm : 3000000 < m) (h : MV R C S I V) :
    g71 m (R : Int) (C : Int) S I V = some ((((C : Int),(R : Int),packS ((ents S I V C 0).map swE) C R,packI ((ents S I V C 0).map swE) C R,packV ((ents S I V C 0).map swE) C R,()),0,()),(),()) := by
  have hE := sw_ok h
  have hsz := h.ok.sz
  have hl := h.len
  have hv := h.vl
  have e := Jg m (R : Int) (C : Int) S I V 0 0 [] [] [] (ents S I V C 0) [] m (by omega) (by simp; omega)
  simp only [List.map_nil,List.nil_append,List.length_nil,Int.natCast_zero] at e
  rw [g71,X4 (by omega) (by omega) (by omega),h.chk]
  simp only [Option.bind_some,bif_ne,if_true]
  rw [q6l (by omega) h.ok h.vl h.chk]
  simp only [Option.bind_some,e]
  rw [qj4 hE h.ok.cz h.ok.rz (by simp; omega) (by omega)]
  rfl
theorem qfn {x : List Int} {to fr : Ent → Int} {t : Nat} {es es' : List Ent} (h : List.Perm es es') : isum (rowP x to fr t es) = isum (rowP x to fr t es') := qeu ((h.filter _).map _)
theorem qj6 {x : List Int} {t : Nat} {es : List Ent} : rowP x toE frE t (es.map swE) = rowP x frE toE t es := by
  unfold rowP
  rw [List.filter_map,List.map_map]; rfl
theorem qhf {x : List Int} (hM : C * R ≤ 10000) (h : MV R C S I V) {t : Nat} : compF x toE frE (ents (packS ((ents S I V C 0).map swE) C R) (packI ((ents S I V C 0).map swE) C R) (packV ((ents S I V C 0).map swE) C R) R 0) t = compF x frE toE (ents S I V C 0) t := by
  unfold compF
  rw [qbh,← qfn (qd5 (sw_ok h) (qeh h)),qj6]
end Go.Vs.F

/-! MzFe -/
set_option linter.unusedVariables false
set_option linter.unusedSimpArgs false
set_option maxRecDepth 100000
namespace Go.Vs.F
abbrev VRes := (List Int × Int × Unit)
theorem qea {m : Nat} (hm : 4000000 ≤ m) (R C : Int) (S I V x : List Int) (hU : ∀ v ∈ V,U64 v) (hx : ∀ v ∈ x,U64 v) (hI : I.length ≤ 60) (hV : V.length ≤ 60) (hS : S.length ≤ 20) (hl : x.length ≤ 20) (hm2 : m < 4611686018427387904) :
    ∃ y z : VRes,(y.1.length ≤ 100000 ∧ z.1.length ≤ 100000) ∧ g15 m R C S I V x = some (y,(),(),()) ∧ g16 m R C S I V x = some (y,(),(),()) ∧ g17 m R C S I V x = some (z,(),(),()) ∧ g18 m R C S I V x = some (z,(),(),()) := by
  by_cases hk : chk R C S I V = 0
  · obtain ⟨r,c,rfl,rfl,hM,hvl,hfin⟩ := qid hk
    have h : MV r c S I V := ⟨hM,hvl,hk⟩
    have hcz := h.ok.cz
    have hrz := h.ok.rz
    have hsl := h.ok.st.len
    have hb : c * r ≤ 19 * 200 := Nat.mul_le_mul (by omega) hrz
    have ht : MV c r (packS ((ents S I V c 0).map swE) c r) (packI ((ents S I V c 0).map swE) c r) (packV ((ents S I V c 0).map swE) c r) := qil (sw_ok h) hcz hrz (by rw [Nat.mul_comm]; omega)
    have htU : ∀ v ∈ packV ((ents S I V c 0).map swE) c r,U64 v := fun v hv => by
      rw [← can_V] at hv
      obtain ⟨e,he,rfl⟩ := List.mem_map.1 hv
      have he2 := (qd5 (sw_ok h) (qeh h)).mem_iff.2 he
      obtain ⟨e',he',rfl⟩ := List.mem_map.1 he2
      exact (h.valU hU he').1
    have e1 := g44_eq (m := m) (R := (r : Int)) (C := (c : Int)) (S := S) (I := I) (V := V) (by omega) (by omega) (by omega) (by omega) (by omega)
    have e2 := X4 (m := m) (R := (r : Int)) (C := (c : Int)) (S := S) (I := I) (V := V) (by omega) (by omega) (by omega)
    have p1 : ∃ y : VRes,y.1.length ≤ 100000 ∧ g15 m (r : Int) (c : Int) S I V x = some (y,(),(),()) ∧ g16 m (r : Int) (c : Int) S I V x = some (y,(),(),()) := by
      by_cases hF : x.length = c
      · refine ⟨_,?_,mv_eq hm h hU hx hF,qi8 hm h hU hx hF⟩
        split
        · split
          · show ((List.range r).map _).length ≤ _
            rw [List.length_map,List.length_range]; omega
          · simp
        · simp
      · refine ⟨([],2,()),by simp,?_,?_⟩
        · rw [g15,g66,e1,hk]
          simp only [Option.bind_some,bif_ne,if_true]
          rw [if_neg (by omega)]; rfl
        · rw [g16,e2,hk]
          simp only [Option.bind_some,bif_ne,if_true]
          rw [if_neg (by omega)]
    have p2 : ∃ y : VRes,y.1.length ≤ 100000 ∧ g17 m (r : Int) (c : Int) S I V x = some (y,(),(),()) ∧ g18 m (r : Int) (c : Int) S I V x = some (y,(),(),()) := by
      have e3 := q3s (m := m) (by omega) h
      by_cases hF : x.length = r
      · have g := qi8 hm ht htU hx hF
        have hc2 : ∀ t,compF x toE frE (ents (packS ((ents S I V c 0).map swE) c r) (packI ((ents S I V c 0).map swE) c r) (packV ((ents S I V c 0).map swE) c r) r 0) t = compF x frE toE (ents S I V c 0) t := fun t => qhf (by omega) h
        refine ⟨_,?_,mt_eq hm h hU hx hF,?_⟩
        · split
          · split
            · show ((List.range c).map _).length ≤ _
              rw [List.length_map,List.length_range]; omega
            · simp
          · simp
        · rw [g18,e3]
          simp only [Option.bind_some,bif_ne,if_true]
          rw [g,Option.bind_some,funext hc2]
      · refine ⟨([],2,()),by simp,?_,?_⟩
        · rw [g17,g66b,e1,hk]
          simp only [Option.bind_some,bif_ne,if_true]
          rw [if_neg (by omega)]; rfl
        · have e4 := X4 (m := m) (R := (c : Int)) (C := (r : Int)) (S := packS ((ents S I V c 0).map swE) c r) (I := packI ((ents S I V c 0).map swE) c r) (V := packV ((ents S I V c 0).map swE) c r) (by have := ht.vl; have := ht.ok.sz; omega) (by omega) (by have := ht.vl; have := ht.ok.sz; omega)
          rw [g18,e3]
          simp only [Option.bind_some,bif_ne,if_true]
          rw [g16,e4,ht.chk]
          simp only [Option.bind_some,bif_ne,if_true]
          rw [if_neg (by omega)]; rfl
    obtain ⟨y,y1,y2,y3⟩ := p1
    obtain ⟨z,z1,z2,z3⟩ := p2
    exact ⟨y,z,⟨y1,z1⟩,y2,y3,z2,z3⟩
  · have e1 := g44_eq (m := m) (R := R) (C := C) (S := S) (I := I) (V := V) (by omega) (by omega) (by omega) (by omega) (by omega)
    have e2 := X4 (m := m) (R := R) (C := C) (S := S) (I := I) (V := V) (by omega) (by omega) (by omega)
    refine ⟨([],chk R C S I V,()),([],chk R C S I V,()),by simp,?_,?_,?_,?_⟩
    · rw [g15,g66,e1,Option.bind_some,bif_ne,if_neg hk]; rfl
    · rw [g16,e2,Option.bind_some,bif_ne,if_neg hk]
    · rw [g17,g66b,e1,Option.bind_some,bif_ne,if_neg hk]; rfl
    · rw [g18,g71,e2,Option.bind_some,bif_ne,if_neg hk,Option.bind_some,bif_ne,if_neg hk]
theorem q1i (R C : Int) (S I V x : List Int) (hU : ∀ v ∈ V,U64 v) (hx : ∀ v ∈ x,U64 v) : ∃ m,sparselaw09_MatrixProducts m R C S I V x = some (true,(),(),()) := by
  refine ⟨5000000,?_⟩
  generalize hm0 : (5000000 : Nat) = m
  have hm : 4000000 ≤ m := by omega
  have hm2 : m < 4611686018427387904 := by omega
  clear hm0
  obtain ⟨z,es,hz⟩ := qhr m R C S I V
  rw [sparselaw09_MatrixProducts,es]
  simp only [Option.bind_some]
  cases z with
  | false =>
    simp only [Bool.not_false,cond_true]
    rw [qfw (by omega)]; rfl
  | true =>
    obtain ⟨l1,l2,l3⟩ := hz rfl
    simp only [Bool.not_true,cond_false,bif_decide]
    by_cases hr : (x.length : Int) > 20
    · rw [if_pos hr,qfw (by omega)]; rfl
    rw [if_neg hr]
    obtain ⟨y,w,⟨b1,b2⟩,g1,g2,g3,g4⟩ := qea hm R C S I V x hU hx l1 l2 l3 (by omega) hm2
    rw [g1,g2,g3,g4]
    simp only [Option.bind_some]
    rw [bif_eq,if_pos rfl,bif_eq,if_pos rfl,q4d (by omega) (by omega)]
    simp only [Option.bind_some,cond_true]
    rw [q4d (by omega) (by omega)]
    simp only [Option.bind_some,cond_true]
    rw [qfw (by omega)]; rfl
end Go.Vs.F
