/- Exact floats of dyads: program and document. Scaling a matrix: program and document. Scale and Shift of a matrix: program and document agree. Shifting a matrix: program and document agree; the law MatrixScales. Numbers that floats have: rounding is exact. Made values, and shifting exactly. The law MatrixShifted. The law MatrixShifted, joined. The integers of a matrix. The law MatrixWhole. Sums of dyads; products of a matrix and a vector. Products of a matrix and a vector (printed by a small program: both directions are alike). Building a matrix from entries: sums at a place; the program's grouping. Building a matrix from entries: the program groups the sorted entries by place. Building a matrix from entries: the document's lists and columns. Building a matrix from entries: both sides give the same matrix; the law MatrixBuilt. -/
import Derived.Test.YtjjndhlkoehkdaaGreatDoorLe
import Derived.Test.YtjjndhlkoehkdaaGreatDoorLb

/-! MyEa -/
set_option linter.unusedVariables false
set_option linter.unusedSimpArgs false
namespace Go.Vs.F
theorem q2q {neg : Bool} {f : Int} (h1 : 0 ≤ f) (h2 : f < 9223372036854775808) : U64 (sgnF neg f) := by
  unfold sgnF U64; cases neg <;> simp <;> omega
theorem q8h {neg : Bool} {mode : Int} : U64 (overF neg mode) := by
  unfold overF; split <;> exact q2q (by omega) (by omega)
theorem qdh {neg : Bool} {n : Nat} {u mode : Int} (h1 : -1074 ≤ u) (hn : n ≤ 9007199254740992) : U64 (packF neg n u mode) := by
  unfold packF
  split
  · split
    · exact q8h
    · exact q2q (by omega) (by omega)
  · split
    · exact q2q (by omega) (by omega)
    · split
      · exact q8h
      · exact q2q (by omega) (by omega)
theorem qct {neg : Bool} {v : Nat} {e : Int} {more : Bool} {mode : Int} : U64 (Ju neg v e more mode) := qdh (q6d v e) q75
theorem qcz {d : Bool × Bool × List Int × Int × Unit} {mode : Int} : U64 (q1a d mode) := by
  unfold q1a
  split
  · exact ⟨by omega,by omega⟩
  · split
    · exact ⟨by omega,by omega⟩
    · exact qct
end Go.Vs.F

/-! MyEb -/
set_option linter.unusedVariables false
set_option linter.unusedSimpArgs false
namespace Go.Vs.F
end Go.Vs.F

/-! MyEc -/
set_option linter.unusedVariables false
set_option linter.unusedSimpArgs false
set_option maxRecDepth 100000
namespace Go.Vs.F
abbrev MRes := ((Int × Int × List Int × List Int × List Int × Unit) × Int × Unit)
/- A result of at most that size. -/
def q5n (x : MRes) : Prop := x.1.2.2.1.length ≤ 100000 ∧ x.1.2.2.2.1.length ≤ 100000 ∧ x.1.2.2.2.2.1.length ≤ 100000
section
variable {R C : Nat} {S I V : List Int}
/- What stands at a place. -/
/- Both look-ups. -/
end
end Go.Vs.F

/-! MyEd -/
set_option linter.unusedVariables false
set_option linter.unusedSimpArgs false
set_option maxRecDepth 100000
namespace Go.Vs.F
def valF (f : Int) : Int := sc (ofZ f) (ofE f) (-1074)
theorem qew {f : Int} (h : FinF f) : ofD f = mkD (valF f) (-1074) := by
  have he := q5a (f := f)
  unfold ofD valF
  rw [if_pos h,qb8 (by omega)]
theorem val_ok {f : Int} (h : FinF f) : OkD (valF f) (-1074) := by
  have he := q5a (f := f)
  have := qib h
  unfold OkD valF at *
  rwa [qb8 (by omega)]
section
variable {R C : Nat} {S I V : List Int}
end
end Go.Vs.F
namespace Go.Vs.F
open Go.Vs
theorem wfu64 {x : Int} (h : (Lit.int .u64 x).wf = true) : U64 x := by
  simp only [Lit.wf,Bool.and_eq_true,decide_eq_true_eq] at h
  exact ⟨h.1,by have h2 : x ≤ 18446744073709551615 := h.2; omega⟩
end Go.Vs.F

/-! MyEe -/
set_option linter.unusedVariables false
set_option linter.unusedSimpArgs false
namespace Go.Vs.F
/- Fits a float exactly. -/
/- A small multiple of a power of two fits. -/
end Go.Vs.F

/-! MyEf -/
set_option linter.unusedVariables false
set_option linter.unusedSimpArgs false
set_option maxRecDepth 100000
namespace Go.Vs.F
/- The opposite number. -/
section
variable {R C : Nat} {S I V : List Int}
/- A look at a place. -/
end
end Go.Vs.F

/-! MyEg -/
set_option linter.unusedVariables false
set_option linter.unusedSimpArgs false
set_option maxRecDepth 100000
namespace Go.Vs.F
section
variable {R C : Nat} {S I V : List Int}
end
end Go.Vs.F

/-! MyEh -/
set_option linter.unusedVariables false
set_option linter.unusedSimpArgs false
set_option maxRecDepth 100000
namespace Go.Vs.F
section
variable {N : Nat} {S0 I0 V0 S1 I1 V1 S2 I2 V2 : List Int} {s : Int}
end
end Go.Vs.F

/-! MyEi -/
set_option linter.unusedVariables false
set_option linter.unusedSimpArgs false
set_option maxRecDepth 100000
namespace Go.Vs.F
/- A finite value's normal form. -/
/- The least exponent. -/
/- The grid of integers. -/
end Go.Vs.F

/-! MyEj -/
set_option linter.unusedVariables false
set_option linter.unusedSimpArgs false
set_option maxRecDepth 100000
namespace Go.Vs.F
section
variable {R C : Nat} {S I V : List Int}
end
section
variable {R C : Nat} {S I V : List Int}
end
end Go.Vs.F

/-! MyEk -/
set_option linter.unusedVariables false
set_option linter.unusedSimpArgs false
set_option maxRecDepth 100000
namespace Go.Vs.F
abbrev DyT := Bool × (Bool × List Int) × Int
def dyT (d : Bool × Bool × List Int × Int × Unit) : DyT := (d.1,((d.2.1,d.2.2.1),d.2.2.2.1))
def isum : List Int → Int
  | [] => 0
  | x :: l => x + isum l
theorem qb3 {a b : List Int} : isum (a ++ b) = isum a + isum b := by
  induction a with
  | nil => simp [isum]
  | cons x a ih => rw [List.cons_append,isum,isum,ih]; omega
theorem qee {a b : List Int} (h : List.Perm a b) : isum a = isum b := by
  induction h with
  | nil => rfl
  | cons x _ ih => rw [isum,isum,ih]
  | swap x y l => simp only [isum]; omega
  | trans _ _ h1 h2 => rw [h1,h2]
theorem qgc : isum [] = 0 := rfl
/- The exponent of a valid dyad. -/
theorem qdn {z e : Int} (h : OkD z e) : -65536 ≤ (mkD z e).2.2.2.1 ∧ (mkD z e).2.2.2.1 ≤ 65536 := by
  obtain ⟨w,f,k,_,_,k3⟩ := Zn h
  rw [k3]; have := k.lo; have := k.hi; omega
theorem qdv {m : Nat} (hm : 3000000 < m) {B : Int} {as : List Int} (hl : as.length ≤ 100000) (hok : ∀ a ∈ as,OkD a B) (t0 t1 : Bool) (t2 : List Int) (t3 : Int) : ∀ (n k : Nat) (exp : Int),as.length - k < n → k ≤ as.length → -65536 ≤ exp → exp ≤ 0 →
    (∀ a ∈ as.take k,exp ≤ (mkD a B).2.2.2.1) →
    ∃ exp',g61_L0 m n t0 t1 t2 t3 ((as.take k).map fun a => dyT (mkD a B)) exp (as.map fun a => dyT (mkD a B)) (as.length : Int) (k : Int) = some (.inr (.inl ((t0,t1,t2,t3,()),(as.map fun a => dyT (mkD a B)),exp',()))) ∧ -65536 ≤ exp' ∧ exp' ≤ 0 ∧ ∀ a ∈ as,exp' ≤ (mkD a B).2.2.2.1
  | 0,k,exp,h,_,_,_,_ => by omega
  | n + 1,k,exp,h,hk0,e1,e2,he => by
    rw [g61_L0,bif_decide]
    by_cases hk : k < as.length
    · have hmem : as.getD k 0 ∈ as := q3k hk
      have hget : (as.map fun a => dyT (mkD a B)).getD k (false,((false,([] : List Int)),0)) = dyT (mkD (as.getD k 0) B) := by
        simp [List.getD,hk]
      have ht := take_snoc (l := as) hk (x := as.getD k 0) rfl
      obtain ⟨a,ha⟩ : ∃ a,a = as.getD k 0 := ⟨_,rfl⟩
      rw [← ha] at hmem hget ht
      have hoa := hok a hmem
      have hb := qdn hoa
      have hmn : (if (mkD a B).2.2.2.1 < exp then (mkD a B).2.2.2.1 else exp) = min exp (mkD a B).2.2.2.1 := by split <;> omega
      obtain ⟨x',g1,g2,g3,g4⟩ := qdv hm hl hok t0 t1 t2 t3 n (k + 1) (min exp (mkD a B).2.2.2.1) (by omega) (by omega) (by omega) (by omega) (fun y hy => by
        rw [ht] at hy
        rcases List.mem_append.1 hy with hy | hy
        · have := he y hy; omega
        · rw [List.mem_singleton] at hy; subst hy; omega)
      refine ⟨x',?_,g2,g3,g4⟩
      rw [ht,List.map_append] at g1
      have c2 : ((as.take k).map fun a => dyT (mkD a B)).length + ([dyT (mkD a B)] : List DyT).length ≤ 1073741824 := by
        rw [List.length_map,List.length_take]; show min k as.length + 1 ≤ 1073741824; omega
      have hno := q96 hm hoa
      rw [if_pos (by omega),if_pos (by rw [List.length_map]; omega),Int.toNat_natCast,hget]
      show (Option.bind (g80 m (mkD a B).1 (mkD a B).2.1 (mkD a B).2.2.1 (mkD a B).2.2.2.1) _) = _
      rw [hno,Option.bind_some]
      show (if ((as.take k).map fun a => dyT (mkD a B)).length + ([dyT (mkD a B)] : List DyT).length ≤ 1073741824 then g61_L0 m n t0 t1 t2 t3 (((as.take k).map fun a => dyT (mkD a B)) ++ [dyT (mkD a B)]) (if (mkD a B).2.2.2.1 < exp then (mkD a B).2.2.2.1 else exp) (as.map fun a => dyT (mkD a B)) (as.length : Int) (w_i64 ((k : Int) + 1)) else none) = _
      rw [if_pos c2,hmn,show w_i64 ((k : Int) + 1) = ((k + 1 : Nat) : Int) from wsucc (by omega)]
      exact g1
    · rw [if_neg (by omega)]
      rw [List.take_of_length_le (by omega)] at he ⊢
      exact ⟨exp,rfl,e1,e2,he⟩
theorem qdg {m : Nat} (hm : 3000000 < m) {B : Int} {as : List Int} (hl : as.length ≤ 100000) (hok : ∀ a ∈ as,OkD a B) (t0 t1 : Bool) (t2 : List Int) (t3 : Int) {exp : Int} (x1 : -65536 ≤ exp) (x2 : exp ≤ 0) (hx : ∀ a ∈ as,exp ≤ (mkD a B).2.2.2.1) : ∀ (n k : Nat) (T : Int),as.length - k < n → k ≤ as.length → EqD T exp (isum (as.take k)) B → blen T.natAbs ≤ 300000 + k →
    ∃ T',g61_L1 m n t0 t1 t2 t3 exp (zB T).1 (zB T).2.1 (as.map fun a => dyT (mkD a B)) (as.length : Int) (k : Int) = some (.inl ((t0,t1,t2,t3,()),exp,((zB T').1,(zB T').2.1,()),())) ∧ EqD T' exp (isum as) B ∧ blen T'.natAbs ≤ 400000
  | 0,k,T,h,_,_,_ => by omega
  | n + 1,k,T,h,hk0,hT,hb => by
    rw [g61_L1,bif_decide]
    by_cases hk : k < as.length
    · have hmem : as.getD k 0 ∈ as := q3k hk
      have hget : (as.map fun a => dyT (mkD a B)).getD k (false,((false,([] : List Int)),0)) = dyT (mkD (as.getD k 0) B) := by
        simp [List.getD,hk]
      have ht := take_snoc (l := as) hk (x := as.getD k 0) rfl
      obtain ⟨a,ha⟩ : ∃ a,a = as.getD k 0 := ⟨_,rfl⟩
      rw [← ha] at hmem hget ht
      have hoa := hok a hmem
      have hxa := hx a hmem
      obtain ⟨w,f,kn,k1,k2,k3⟩ := Zn hoa
      have hf1 := kn.lo; have hf2 := kn.hi; have hf3 := kn.len
      rw [k3] at hxa
      have wd : w_i64 (f - exp) = f - exp := by rw [w_i64_eq,wi (by omega) (by omega)]
      have hsc : w * 2 ^ (f - exp).toNat = sc w f exp := rfl
      have hs := sc_bd kn (b := exp) hxa x1
      rw [if_pos (by omega),if_pos (by rw [List.length_map]; omega),Int.toNat_natCast,Nat.zero_add,hget]
      simp only [dyT]
      rw [k1,k2,k3,wd,left_eq hm (by omega) (by omega) (by omega),Option.bind_some,hsc]
      dsimp only
      have hbs := q3m (a := T) (b := sc w f exp) hb (by omega)
      rw [qem (by omega) (SzB (by omega)) (SzB (by omega)),zv_zB,zv_zB,Option.bind_some,show w_i64 ((k : Int) + 1) = ((k + 1 : Nat) : Int) from wsucc (by omega)]
      refine qdg hm hl hok t0 t1 t2 t3 x1 x2 hx n (k + 1) (T + sc w f exp) (by omega) (by omega) ?_ (by omega)
      rw [ht,qb3,show isum [a] = a by simp [isum]]
      exact hT.add (c := 0) (g := 0) ((EqD.sc hxa).trans kn.eq)
    · rw [if_neg (by omega)]
      rw [List.take_of_length_le (by omega)] at hT
      exact ⟨T,rfl,hT,by omega⟩
theorem qh8 {m : Nat} (hm : 3000000 < m) {B : Int} {as : List Int} (hl : as.length ≤ 100000) (hok : ∀ a ∈ as,OkD a B) : g61 m (as.map fun a => dyT (mkD a B)) = some (mkD (isum as) B,(),()) := by
  obtain ⟨exp,e1,x1,x2,x3⟩ := qdv hm hl hok false false [] 0 m 0 0 (by omega) (by omega) (by omega) (by omega) (fun a h => by simp at h)
  obtain ⟨T,e2,h1,h2⟩ := qdg hm hl hok false false [] 0 x1 x2 x3 m 0 0 (by omega) (by omega) (by simp [isum]; exact EqD.zero _ _) (by decide)
  rw [List.take_zero,List.map_nil,Int.natCast_zero] at e1
  rw [Int.natCast_zero,zB_1,zB_2,show (0 : Int).natAbs = 0 from rfl,Qg,show decide ((0 : Int) < 0) = false from rfl] at e2
  rw [g61,List.length_map,e1,Option.bind_some]
  dsimp only
  rw [List.length_map,e2,Option.bind_some]
  dsimp only
  rw [qa6 hm (by omega) (by omega) (by omega),h1.mk]; rfl
/-! ### Products -/
theorem qfr {v : Int} (h : FinF v) : blen (valF v).natAbs ≤ 2100 := by
  have h1 := q6w v
  have h2 := qhf h
  have h3 := q5a (f := v)
  have := qbe (w := ofZ v) (f := ofE v) (b := -1074) (by omega)
  unfold valF; omega
end Go.Vs.F

/-! MyEl -/
set_option linter.unusedVariables false
set_option linter.unusedSimpArgs false
set_option maxRecDepth 100000
namespace Go.Vs.F
end Go.Vs.F

/-! MyFa -/
set_option linter.unusedVariables false
set_option linter.unusedSimpArgs false
set_option maxRecDepth 100000
namespace Go.Vs.F
def atP (i j : Int) (e : Ent) : Bool := decide (e.1 = i) && decide (e.2.1 = j)
theorem Yq {i j : Int} {e : Ent} : atP i j e = true ↔ e.1 = i ∧ e.2.1 = j := by simp [atP]
def posV (es : List Ent) (i j : Int) : List Int := (es.filter (atP i j)).map fun e => e.2.2
def gv (es : List Ent) (i j : Int) : Int := q1a (mkD (isum ((posV es i j).map valF)) (-1074)) 0
theorem q8l {es : List Ent} {i j : Int} : U64 (gv es i j) := qcz
theorem q2m {es : List Ent} {i j v : Int} : v ∈ posV es i j ↔ ∃ e ∈ es,(e.1 = i ∧ e.2.1 = j) ∧ e.2.2 = v := by
  unfold posV
  rw [List.mem_map]
  constructor
  · rintro ⟨e,he,rfl⟩
    rw [List.mem_filter,Yq] at he
    exact ⟨e,he.1,he.2,rfl⟩
  · rintro ⟨e,he,h,rfl⟩
    exact ⟨e,List.mem_filter.2 ⟨he,Yq.2 h⟩,rfl⟩
theorem q6o {es es' : List Ent} (h : List.Perm es es') (i j : Int) : gv es i j = gv es' i j := by
  unfold gv posV
  rw [qee (((h.filter _).map _).map _)]
theorem qg3 {l : List Int} (h : ∀ v ∈ l,FinF v) : blen (isum (l.map valF)).natAbs ≤ 2100 + l.length := by
  induction l with
  | nil => exact Nat.le_trans (X5 (n := 0) (k := 0) (by decide)) (by omega)
  | cons v l ih =>
    have h1 := ih fun v hv => h v (List.mem_cons_of_mem _ hv)
    have h2 := qfr (h v (List.mem_cons_self ..))
    have h3 := q3m (k := 2100 + l.length) (Nat.le_trans h2 (by omega)) h1
    rw [List.map_cons,isum,List.length_cons]; omega
theorem qhj {l : List Int} (hl : l.length ≤ 20000) (h : ∀ v ∈ l,FinF v) : OkD (isum (l.map valF)) (-1074) := by
  have := qg3 h
  exact Zo.2 (.inr ⟨by omega,by omega⟩)
/-! ### The document's sum -/
theorem qda {m : Nat} (hm : 3000000 < m) {l : List Int} (hl : l.length ≤ 20000) (hf : ∀ v ∈ l,U64 v ∧ FinF v) (t0 t1 : Bool) (t2 : List Int) (t3 : Int) : ∀ (n k : Nat),l.length - k < n → k ≤ l.length →
    g65_L0 m n l t0 t1 t2 t3 (mkD (isum ((l.take k).map valF)) (-1074)).1 (mkD (isum ((l.take k).map valF)) (-1074)).2.1 (mkD (isum ((l.take k).map valF)) (-1074)).2.2.1 (mkD (isum ((l.take k).map valF)) (-1074)).2.2.2.1 (k : Int) = some (.inl ((t0,t1,t2,t3,()),mkD (isum (l.map valF)) (-1074),()))
  | 0,k,h,_ => absurd h (Nat.not_lt_zero _)
  | n + 1,k,h,hk0 => by
    rw [g65_L0,bif_decide]
    by_cases hk : k < l.length
    · have hmem : l.getD k 0 ∈ l := q3k hk
      have ht := take_snoc (l := l) hk (x := l.getD k 0) rfl
      obtain ⟨v,hv⟩ : ∃ v,v = l.getD k 0 := ⟨_,rfl⟩
      rw [← hv] at hmem ht
      have ih := qda hm hl hf t0 t1 t2 t3 n (k + 1) (by omega) (by omega)
      rw [ht,List.map_append,qb3,List.map_cons,List.map_nil,show isum [valF v] = valF v by simp [isum]] at ih
      have ok1 : OkD (isum ((l.take k).map valF)) (-1074) := qhj (by rw [List.length_take]; omega) fun v hv => (hf v (List.mem_of_mem_take hv)).2
      rw [if_pos (by omega),if_pos (by omega),Int.toNat_natCast,← hv,qie hm (hf v hmem).1,Option.bind_some,qew (hf v hmem).2]
      dsimp only
      rw [qgd hm,if_pos ⟨ok1,val_ok (hf v hmem).2⟩,Option.bind_some,show w_i64 ((k : Int) + 1) = ((k + 1 : Nat) : Int) from wsucc (by omega)]
      exact ih
    · rw [if_neg (by omega),List.take_of_length_le (by omega)]
theorem qi1 {m : Nat} (hm : 3000000 < m) {l : List Int} (hl : l.length ≤ 20000) (hf : ∀ v ∈ l,U64 v ∧ FinF v) : g65 m l = some (mkD (isum (l.map valF)) (-1074),(),()) := by
  have h := qda hm hl hf false false [] 0 m 0 (by omega) (by omega)
  rw [List.take_zero,List.map_nil,qgc,qba] at h
  rw [Int.natCast_zero] at h
  rw [g65,h]; rfl
/-! ### Range and finiteness: program and document -/
def okR (r c : Nat) (e : Ent) : Bool := decide (0 ≤ e.1 ∧ e.1 < (r : Int)) && decide (0 ≤ e.2.1 ∧ e.2.1 < (c : Int))
theorem J4 {r c : Nat} {e : Ent} : okR r c e = true ↔ (0 ≤ e.1 ∧ e.1 < (r : Int)) ∧ (0 ≤ e.2.1 ∧ e.2.1 < (c : Int)) := by simp [okR]
def okF (e : Ent) : Bool := finB e.2.2
theorem q2n {es : List Ent} {k : Nat} (p : Ent → Bool) (hk : k < es.length) : (es.drop k).all p = (p (es.getD k zE) && (es.drop (k + 1)).all p) := by
  rw [List.drop_eq_getElem_cons hk,List.all_cons,show es.getD k zE = es[k] by simp [List.getD,hk]]
abbrev Emp : Int × Int × List Int × List Int × List Int × Unit := (0,0,[],[],[],())
variable {r c : Nat} {es : List Ent}
theorem qgy (m : Nat) (hr : r ≤ 200) (hc : c ≤ 200) (hl : es.length ≤ 10000) (L : List Ent) (a0 a1 : Int) (a2 a3 a4 : List Int) : ∀ (n k : Nat),es.length - k < n →
    g11_L0 m n (r : Int) (c : Int) L a0 a1 a2 a3 a4 es (es.length : Int) (k : Int) = some (if (es.drop k).all (okR r c) = true then .inr (.inl ((r : Int),(c : Int),L,(a0,a1,a2,a3,a4,()),())) else .inl (Emp,3,()))
  | 0,k,h => by omega
  | n + 1,k,h => by
    rw [g11_L0,bif_decide]
    by_cases hk : k < es.length
    · have w1 : w_i64 ((r : Int) - 1) = (r : Int) - 1 := by rw [w_i64_eq]; exact wi (by omega) (by omega)
      have w2 : w_i64 ((c : Int) - 1) = (c : Int) - 1 := by rw [w_i64_eq]; exact wi (by omega) (by omega)
      rw [if_pos (by omega),if_pos (by omega),q2n _ hk,Int.toNat_natCast,Yx,Option.bind_some,w1]
      dsimp only
      by_cases b1 : 0 ≤ (es.getD k (0,(0,0))).1 ∧ (es.getD k (0,(0,0))).1 < (r : Int)
      · have q1 : (decide (0 ≤ (es.getD k (0,(0,0))).1) && decide ((es.getD k (0,(0,0))).1 ≤ (r : Int) - 1)) = true := by
          rw [Bool.and_eq_true,decide_eq_true_eq,decide_eq_true_eq]; exact ⟨b1.1,by have := b1.2; omega⟩
        rw [q1,Bool.not_true,cond_false,Yx,Option.bind_some,w2]
        dsimp only
        by_cases b2 : 0 ≤ (es.getD k (0,(0,0))).2.1 ∧ (es.getD k (0,(0,0))).2.1 < (c : Int)
        · have q2 : (decide (0 ≤ (es.getD k (0,(0,0))).2.1) && decide ((es.getD k (0,(0,0))).2.1 ≤ (c : Int) - 1)) = true := by
            rw [Bool.and_eq_true,decide_eq_true_eq,decide_eq_true_eq]; exact ⟨b2.1,by have := b2.2; omega⟩
          rw [q2,Bool.not_true,cond_false,show w_i64 ((k : Int) + 1) = ((k + 1 : Nat) : Int) from wsucc (by omega),show okR r c (es.getD k zE) = true from J4.2 ⟨b1,b2⟩,Bool.true_and]
          exact qgy m hr hc hl L a0 a1 a2 a3 a4 n (k + 1) (by omega)
        · have q2 : (decide (0 ≤ (es.getD k (0,(0,0))).2.1) && decide ((es.getD k (0,(0,0))).2.1 ≤ (c : Int) - 1)) = false := by
            rw [Bool.and_eq_false_iff,decide_eq_false_iff_not,decide_eq_false_iff_not]; omega
          rw [q2,Bool.not_false,cond_true,show okR r c (es.getD k zE) = false from Bool.eq_false_iff.2 fun q => b2 (J4.1 q).2,Bool.false_and,if_neg Bool.false_ne_true]
      · have q1 : (decide (0 ≤ (es.getD k (0,(0,0))).1) && decide ((es.getD k (0,(0,0))).1 ≤ (r : Int) - 1)) = false := by
          rw [Bool.and_eq_false_iff,decide_eq_false_iff_not,decide_eq_false_iff_not]; omega
        rw [q1,Bool.not_false,cond_true,show okR r c (es.getD k zE) = false from Bool.eq_false_iff.2 fun q => b1 (J4.1 q).1,Bool.false_and,if_neg Bool.false_ne_true]
    · rw [if_neg (by omega),List.drop_eq_nil_of_le (by omega),List.all_nil,if_pos rfl]
theorem qgo (m : Nat) (hl : es.length ≤ 10000) (a0 a1 : Int) (a2 a3 a4 : List Int) : ∀ (n k : Nat),es.length - k < n →
    g12_L0 m n (r : Int) (c : Int) es a0 a1 a2 a3 a4 (k : Int) = some (if (es.drop k).all (okR r c) = true then .inr (.inl ((r : Int),(c : Int),es,(a0,a1,a2,a3,a4,()),())) else .inl (Emp,3,()))
  | 0,k,h => by omega
  | n + 1,k,h => by
    rw [g12_L0,bif_decide]
    by_cases hk : k < es.length
    · have c1 : (0 : Int) ≤ (k : Int) ∧ (k : Int) < (es.length : Int) := by omega
      rw [if_pos (by omega),if_pos c1,if_pos c1,if_pos c1,if_pos c1,q2n _ hk,Int.toNat_natCast,bif_decide,bif_decide,bif_decide,bif_decide]
      have bad : ¬ ((0 ≤ (es.getD k (0,(0,0))).1 ∧ (es.getD k (0,(0,0))).1 < (r : Int)) ∧ (0 ≤ (es.getD k (0,(0,0))).2.1 ∧ (es.getD k (0,(0,0))).2.1 < (c : Int))) → okR r c (es.getD k zE) = false := fun h => Bool.eq_false_iff.2 fun q => h (J4.1 q)
      by_cases b1 : (es.getD k (0,(0,0))).1 < 0
      · rw [if_pos b1,bad (fun q => by have := q.1.1; omega),Bool.false_and,if_neg Bool.false_ne_true]
      rw [if_neg b1]
      by_cases b2 : (es.getD k (0,(0,0))).1 ≥ (r : Int)
      · rw [if_pos b2,bad (fun q => by have := q.1.2; omega),Bool.false_and,if_neg Bool.false_ne_true]
      rw [if_neg b2]
      by_cases b3 : (es.getD k (0,(0,0))).2.1 < 0
      · rw [if_pos b3,bad (fun q => by have := q.2.1; omega),Bool.false_and,if_neg Bool.false_ne_true]
      rw [if_neg b3]
      by_cases b4 : (es.getD k (0,(0,0))).2.1 ≥ (c : Int)
      · rw [if_pos b4,bad (fun q => by have := q.2.2; omega),Bool.false_and,if_neg Bool.false_ne_true]
      rw [if_neg b4,show okR r c (es.getD k zE) = true from J4.2 ⟨⟨Int.not_lt.1 b1,Int.not_le.1 b2⟩,Int.not_lt.1 b3,Int.not_le.1 b4⟩,Bool.true_and,show w_i64 ((k : Int) + 1) = ((k + 1 : Nat) : Int) from wsucc (by omega)]
      exact qgo m hl a0 a1 a2 a3 a4 n (k + 1) (by omega)
    · rw [if_neg (by omega),List.drop_eq_nil_of_le (by omega),List.all_nil,if_pos rfl]
theorem pFin (m : Nat) (hl : es.length ≤ 10000) (x y : Int) (L : List Ent) (a0 a1 : Int) (a2 a3 a4 : List Int) : ∀ (n k : Nat),es.length - k < n →
    g11_L1 m n x y L a0 a1 a2 a3 a4 es (es.length : Int) (k : Int) = some (if (es.drop k).all okF = true then .inr (.inl (x,y,L,(a0,a1,a2,a3,a4,()),())) else .inl (Emp,4,()))
  | 0,k,h => by omega
  | n + 1,k,h => by
    rw [g11_L1,bif_decide]
    by_cases hk : k < es.length
    · rw [if_pos (by omega),if_pos (by omega),q2n _ hk,Int.toNat_natCast,q3s,Option.bind_some]
      dsimp only
      show (bif !okF (es.getD k zE) then _ else _) = _
      cases hf : okF (es.getD k zE) with
      | true =>
        rw [Bool.not_true,cond_false,Bool.true_and,show w_i64 ((k : Int) + 1) = ((k + 1 : Nat) : Int) from wsucc (by omega)]
        exact pFin m hl x y L a0 a1 a2 a3 a4 n (k + 1) (by omega)
      | false => rw [Bool.not_false,cond_true,Bool.false_and,if_neg Bool.false_ne_true]
    · rw [if_neg (by omega),List.drop_eq_nil_of_le (by omega),List.all_nil,if_pos rfl]
theorem rFin (m : Nat) (hl : es.length ≤ 10000) (hU : ∀ e ∈ es,U64 e.2.2) (x y : Int) (a0 a1 : Int) (a2 a3 a4 : List Int) : ∀ (n k : Nat),es.length - k < n →
    g12_L1 m n x y es a0 a1 a2 a3 a4 (k : Int) = some (if (es.drop k).all okF = true then .inr (.inl (x,y,es,(a0,a1,a2,a3,a4,()),())) else .inl (Emp,4,()))
  | 0,k,h => by omega
  | n + 1,k,h => by
    rw [g12_L1,bif_decide]
    by_cases hk : k < es.length
    · have hu := hU _ (q3p hk)
      rw [if_pos (by omega),if_pos (by omega),q2n _ hk,Int.toNat_natCast,q2j hu,Option.bind_some,← q5u hu]
      dsimp only
      show (bif !okF (es.getD k zE) then _ else _) = _
      cases hf : okF (es.getD k zE) with
      | true =>
        rw [Bool.not_true,cond_false,Bool.true_and,show w_i64 ((k : Int) + 1) = ((k + 1 : Nat) : Int) from wsucc (by omega)]
        exact rFin m hl hU x y a0 a1 a2 a3 a4 n (k + 1) (by omega)
      | false => rw [Bool.not_false,cond_true,Bool.false_and,if_neg Bool.false_ne_true]
    · rw [if_neg (by omega),List.drop_eq_nil_of_le (by omega),List.all_nil,if_pos rfl]
end Go.Vs.F

/-! MyFb -/
set_option linter.unusedVariables false
set_option linter.unusedSimpArgs false
set_option maxRecDepth 100000
namespace Go.Vs.F
theorem qgg {m : Nat} (hm : 3000000 < m) (x y : Int) (a0 a1 : Int) (a2 a3 a4 : List Int) (out : List Ent) (i j v : Int) : ∀ (D : List Ent) (n : Nat) (P : List DyT),D.length < n → P.length + D.length ≤ 20000 → (∀ e ∈ D,U64 e.2.2 ∧ FinF e.2.2) →
    g11_L3 m n x y D a0 a1 a2 a3 a4 out i j v P = some (.inl (x,y,D.dropWhile (atP i j),(a0,a1,a2,a3,a4,()),out,(i,j,v,()),P ++ ((D.takeWhile (atP i j)).map fun e => dyT (mkD (valF e.2.2) (-1074))),()))
  | D,0,P,h,_,_ => absurd h (Nat.not_lt_zero _)
  | [],n + 1,P,h,_,_ => by
    rw [g11_L3,bif_decide,if_neg (by simp),List.takeWhile_nil,List.map_nil,List.append_nil,List.dropWhile_nil]
  | e :: D,n + 1,P,h,hP,hf => by
    have g0 : (e :: D).getD 0 ((0,(0,0)) : Ent) = e := rfl
    have l0 : ((e :: D).length : Int) > 0 := by simp only [List.length_cons]; omega
    have c1 : (0 : Int) ≤ 0 ∧ (0 : Int) < ((e :: D).length : Int) := ⟨by omega,l0⟩
    have c2 : (0 : Int) ≤ 1 ∧ (1 : Int) ≤ ((e :: D).length : Int) ∧ ((e :: D).length : Int) ≤ ((e :: D).length : Int) := ⟨by omega,by omega,Int.le_refl _⟩
    simp only [List.length_cons] at h hP
    obtain ⟨hu,hv⟩ := hf e (List.mem_cons_self ..)
    rw [g11_L3,bif_decide,if_pos l0,if_pos c1,g0,bif_eq]
    by_cases q1 : e.1 = i
    · rw [if_pos q1,if_pos c1,bif_eq]
      by_cases q2 : e.2.1 = j
      · have q : atP i j e = true := Yq.2 ⟨q1,q2⟩
        rw [if_pos q2,if_pos c1,Of_eq hm hu,Option.bind_some,qew hv,List.takeWhile_cons_of_pos q,List.dropWhile_cons_of_pos q]
        show (if P.length + ([dyT (mkD (valF e.2.2) (-1074))] : List DyT).length ≤ 1073741824 then if (0 : Int) ≤ 1 ∧ (1 : Int) ≤ ((e :: D).length : Int) ∧ ((e :: D).length : Int) ≤ ((e :: D).length : Int) then g11_L3 m n x y D a0 a1 a2 a3 a4 out i j v (P ++ [dyT (mkD (valF e.2.2) (-1074))]) else none else none) = _
        rw [if_pos (by show P.length + 1 ≤ _; omega),if_pos c2,qgg hm x y a0 a1 a2 a3 a4 out i j v D n (P ++ [dyT (mkD (valF e.2.2) (-1074))]) (by omega) (by rw [List.length_append]; show P.length + 1 + _ ≤ _; omega) (fun e he => hf e (List.mem_cons_of_mem _ he)),List.map_cons,List.append_assoc]; rfl
      · have q : ¬ atP i j e = true := fun q => q2 (Yq.1 q).2
        rw [if_neg q2,List.takeWhile_cons_of_neg q,List.dropWhile_cons_of_neg q,List.map_nil,List.append_nil]
    · have q : ¬ atP i j e = true := fun q => q1 (Yq.1 q).1
      rw [if_neg q1,List.takeWhile_cons_of_neg q,List.dropWhile_cons_of_neg q,List.map_nil,List.append_nil]
theorem qeo {e : Ent} : ∀ {L : List Ent},Srt L → (∀ y ∈ L,leE e y) → ∀ x ∈ L.dropWhile (atP e.1 e.2.1),¬ (x.1 = e.1 ∧ x.2.1 = e.2.1)
  | [],_,_,x,hx => by simp at hx
  | y :: L,hs,hl,x,hx => by
    obtain ⟨h1,h2⟩ := List.pairwise_cons.1 hs
    by_cases q : atP e.1 e.2.1 y = true
    · rw [List.dropWhile_cons_of_pos q] at hx
      exact qeo h2 (fun z hz => hl z (List.mem_cons_of_mem _ hz)) x hx
    · rw [List.dropWhile_cons_of_neg q] at hx
      have q' : ¬ (y.1 = e.1 ∧ y.2.1 = e.2.1) := fun w => q (Yq.2 w)
      rcases List.mem_cons.1 hx with rfl | hx
      · exact q'
      · have h3 := h1 x hx
        have h4 := hl y (List.mem_cons_self ..)
        unfold leE ltE at h3 h4
        simp only [Bool.or_eq_false_iff,decide_eq_false_iff_not,Bool.and_eq_false_iff] at h3 h4
        omega
theorem q71 {A B : List Ent} {i j : Int} : posV (A ++ B) i j = posV A i j ++ posV B i j := by unfold posV; rw [List.filter_append,List.map_append]
theorem q5x {A : List Ent} {i j : Int} (h : ∀ x ∈ A,¬ (x.1 = i ∧ x.2.1 = j)) : posV A i j = [] := by
  unfold posV
  rw [List.filter_eq_nil_iff.2 fun x hx q => h x hx (Yq.1 q),List.map_nil]
theorem qc7 {A : List Ent} {i j : Int} (h : ∀ x ∈ A,x.1 = i ∧ x.2.1 = j) : posV A i j = A.map fun e => e.2.2 := by
  unfold posV
  rw [List.filter_eq_self.2 fun x hx => Yq.2 (h x hx)]
theorem take_at {i j : Int} : ∀ {L : List Ent},∀ x ∈ L.takeWhile (atP i j),x.1 = i ∧ x.2.1 = j
  | [],x,hx => by simp at hx
  | y :: L,x,hx => by
    by_cases q : atP i j y = true
    · rw [List.takeWhile_cons_of_pos q] at hx
      rcases List.mem_cons.1 hx with rfl | hx
      · exact Yq.1 q
      · exact take_at x hx
    · rw [List.takeWhile_cons_of_neg q] at hx; simp at hx
/- The outcome of grouping. -/
def Good (D out : List Ent) : Prop := (∀ x ∈ out,(∃ e ∈ D,e.1 = x.1 ∧ e.2.1 = x.2.1) ∧ x.2.2 = gv D x.1 x.2.1 ∧ FinF x.2.2) ∧ (∀ e ∈ D,∃ x ∈ out,x.1 = e.1 ∧ x.2.1 = e.2.1) ∧ (out.map posE).Nodup ∧ out.length ≤ D.length
theorem pL2 {m : Nat} (hm : 3000000 < m) (x y : Int) (a0 a1 : Int) (a2 a3 a4 : List Int) : ∀ (k : Nat) (D : List Ent) (n : Nat) (out : List Ent),D.length ≤ k → D.length < n → out.length + D.length ≤ 20000 → (∀ e ∈ D,U64 e.2.2 ∧ FinF e.2.2) → Srt D →
    ((∃ e ∈ D,¬ FinF (gv D e.1 e.2.1)) ∧ g11_L2 m n x y D a0 a1 a2 a3 a4 out = some (.inl (Emp,3,()))) ∨
    ((∀ e ∈ D,FinF (gv D e.1 e.2.1)) ∧ ∃ w,Good D w ∧ g11_L2 m n x y D a0 a1 a2 a3 a4 out = some (.inr (.inl (x,y,(a0,a1,a2,a3,a4,()),out ++ w,()))))
  | k,D,0,out,_,h,_,_,_ => absurd h (Nat.not_lt_zero _)
  | k,[],n + 1,out,_,h,_,_,_ => .inr ⟨fun e he => by simp at he,[],⟨fun x hx => by simp at hx,fun x hx => by simp at hx,by simp,by simp⟩,by rw [g11_L2,bif_decide,if_neg (by simp),List.append_nil]⟩
  | 0,e :: D,n + 1,out,hk,_,_,_,_ => by simp at hk
  | k + 1,e :: D,n + 1,out,hk,h,ho,hf,hs => by
    obtain ⟨L,hL⟩ : ∃ L,L = e :: D := ⟨_,rfl⟩
    have hh : L.getD 0 ((0,(0,0)) : Ent) = e := by rw [hL]; rfl
    have l0 : (L.length : Int) > 0 := by rw [hL]; simp only [List.length_cons]; omega
    have c1 : (0 : Int) ≤ 0 ∧ (0 : Int) < (L.length : Int) := ⟨by omega,l0⟩
    have he0 : e ∈ L := by rw [hL]; exact List.mem_cons_self ..
    have hle : ∀ y ∈ L,leE e y := fun y hy => by
      rw [hL] at hy
      rcases List.mem_cons.1 hy with rfl | hy
      · unfold leE ltE; simp
      · exact (List.pairwise_cons.1 hs).1 y hy
    have hdl : (L.dropWhile (atP e.1 e.2.1)).length < L.length := by
      rw [hL,List.dropWhile_cons_of_pos (Yq.2 ⟨rfl,rfl⟩),List.length_cons]
      have := (List.dropWhile_sublist (l := D) (atP e.1 e.2.1)).length_le
      omega
    rw [← hL] at hk h ho hf hs ⊢
    obtain ⟨T,hT⟩ : ∃ T,T = L.takeWhile (atP e.1 e.2.1) := ⟨_,rfl⟩
    obtain ⟨R,hR⟩ : ∃ R,R = L.dropWhile (atP e.1 e.2.1) := ⟨_,rfl⟩
    have hTR : L = T ++ R := by rw [hT,hR,List.takeWhile_append_dropWhile]
    have hTa : ∀ x ∈ T,x.1 = e.1 ∧ x.2.1 = e.2.1 := by rw [hT]; exact take_at
    have hRn : ∀ x ∈ R,¬ (x.1 = e.1 ∧ x.2.1 = e.2.1) := by rw [hR]; exact qeo hs hle
    have hmR : ∀ x ∈ R,x ∈ L := fun x hx => by rw [hTR]; exact List.mem_append_right _ hx
    have hmT : ∀ x ∈ T,x ∈ L := fun x hx => by rw [hTR]; exact List.mem_append_left _ hx
    have hge : gv L e.1 e.2.1 = q1a (mkD (isum (T.map fun e => valF e.2.2)) (-1074)) 0 := by
      unfold gv
      rw [hTR,q71,q5x hRn,List.append_nil,qc7 hTa,List.map_map]; rfl
    have hgo : ∀ i j,¬ (i = e.1 ∧ j = e.2.1) → gv L i j = gv R i j := fun i j hij => by
      unfold gv
      rw [hTR,q71,q5x (A := T) (fun x hx q => hij ⟨by rw [← q.1]; exact (hTa x hx).1,by rw [← q.2]; exact (hTa x hx).2⟩),List.nil_append]
    have hg := qgg hm x y a0 a1 a2 a3 a4 out e.1 e.2.1 e.2.2 L m [] (by omega) (by simp; omega) hf
    have hds := qh8 hm (B := -1074) (as := T.map fun e => valF e.2.2) (by
      have : T.length ≤ L.length := by rw [hTR,List.length_append]; omega
      rw [List.length_map]; omega) (fun a ha => by
      obtain ⟨z,hz,rfl⟩ := List.mem_map.1 ha
      exact val_ok (hf z (hmT z hz)).2)
    rw [List.map_map] at hds
    rw [← hT,← hR,List.nil_append] at hg
    have hrun : g11_L2 m (n + 1) x y L a0 a1 a2 a3 a4 out = (bif !decide (FinF (gv L e.1 e.2.1)) then some (.inl (Emp,3,())) else g11_L2 m n x y R a0 a1 a2 a3 a4 (out ++ [(e.1,(e.2.1,gv L e.1 e.2.1))])) := by
      rw [g11_L2,bif_decide,if_pos l0,if_pos c1,hh,hg,Option.bind_some]
      dsimp only
      rw [show (T.map fun e => dyT (mkD (valF e.2.2) (-1074))) = List.map ((fun a => dyT (mkD a (-1074))) ∘ fun e => valF e.2.2) T from rfl,hds,Option.bind_some]
      dsimp only
      rw [qfz hm,Option.bind_some,← hge]
      dsimp only
      rw [qdd q8l,Option.bind_some]
      dsimp only
      rw [if_pos (show out.length + ([(e.1,(e.2.1,gv L e.1 e.2.1))] : List Ent).length ≤ 1073741824 by show out.length + 1 ≤ _; omega)]
    by_cases hfin : FinF (gv L e.1 e.2.1)
    · rw [hrun,decide_eq_true hfin,Bool.not_true,cond_false]
      have hRs : Srt R := by rw [hTR] at hs; exact (List.pairwise_append.1 hs).2.1
      rw [← hR] at hdl
      rcases pL2 hm x y a0 a1 a2 a3 a4 k R n (out ++ [(e.1,(e.2.1,gv L e.1 e.2.1))]) (by omega) (by omega) (by rw [List.length_append,List.length_singleton]; omega) (fun z hz => hf z (hmR z hz)) hRs with ⟨⟨z,hz,hb⟩,hr⟩ | ⟨hall,w,hw,hr⟩
      · left
        refine ⟨⟨z,hmR z hz,?_⟩,hr⟩
        rw [hgo _ _ (hRn z hz)]; exact hb
      · right
        obtain ⟨w1,w2,w3,w4⟩ := hw
        refine ⟨fun z hz => ?_,(e.1,(e.2.1,gv L e.1 e.2.1)) :: w,⟨fun z hz => ?_,fun z hz => ?_,?_,?_⟩,?_⟩
        · by_cases q : z.1 = e.1 ∧ z.2.1 = e.2.1
          · rw [q.1,q.2]; exact hfin
          · rw [hgo _ _ q]
            rw [hTR] at hz
            rcases List.mem_append.1 hz with hz | hz
            · exact absurd (hTa z hz) q
            · exact hall z hz
        · rcases List.mem_cons.1 hz with rfl | hz
          · exact ⟨⟨e,he0,rfl,rfl⟩,rfl,hfin⟩
          · obtain ⟨⟨u,hu,u1,u2⟩,g1,g2⟩ := w1 z hz
            refine ⟨⟨u,hmR u hu,u1,u2⟩,?_,g2⟩
            rw [hgo _ _ (by rw [← u1,← u2]; exact hRn u hu)]; exact g1
        · rw [hTR] at hz
          rcases List.mem_append.1 hz with hz | hz
          · exact ⟨_,List.mem_cons_self ..,(hTa z hz).1.symm,(hTa z hz).2.symm⟩
          · obtain ⟨u,hu,u1,u2⟩ := w2 z hz
            exact ⟨u,List.mem_cons_of_mem _ hu,u1,u2⟩
        · rw [List.map_cons,List.nodup_cons]
          refine ⟨fun q => ?_,w3⟩
          obtain ⟨u,hu,hq⟩ := List.mem_map.1 q
          obtain ⟨⟨u',hu',u1,u2⟩,_,_⟩ := w1 u hu
          unfold posE at hq
          simp only [Prod.mk.injEq] at hq
          exact hRn u' hu' ⟨u1.trans hq.1,u2.trans hq.2⟩
        · rw [List.length_cons]; omega
        · rw [List.append_assoc] at hr; exact hr
    · left
      refine ⟨⟨e,he0,hfin⟩,?_⟩
      rw [hrun,decide_eq_false hfin,Bool.not_false,cond_true]
end Go.Vs.F

/-! MyFc -/
set_option linter.unusedVariables false
set_option linter.unusedSimpArgs false
set_option maxRecDepth 100000
namespace Go.Vs.F
variable {r c : Nat} {es : List Ent}
theorem qca {l : List Ent} {k : Nat} (hk : k < l.length) : l.take (k + 1) = l.take k ++ [l.getD k zE] := by
  rw [List.take_add_one,show l.getD k zE = l[k] by simp [List.getD,hk],List.getElem?_eq_getElem hk]; rfl
theorem qfv {e : Ent} {i j : Int} : posV [e] i j = if e.1 = i ∧ e.2.1 = j then [e.2.2] else [] := by
  by_cases h : e.1 = i ∧ e.2.1 = j
  · rw [if_pos h,qc7 (fun x hx => by rw [List.mem_singleton] at hx; subst hx; exact h)]; rfl
  · rw [if_neg h,q5x (fun x hx => by rw [List.mem_singleton] at hx; subst hx; exact h)]
theorem qfs {es : List Ent} {i j : Int} : (posV es i j).length ≤ es.length := by
  unfold posV; rw [List.length_map]; exact List.length_filter_le ..
/- The values at the a-th place. -/
def plV (es : List Ent) (r a : Nat) : List Int := posV es ((a % r : Nat) : Int) ((a / r : Nat) : Int)
def plG (es : List Ent) (r a : Nat) : Int := gv es ((a % r : Nat) : Int) ((a / r : Nat) : Int)
theorem qf2 {es : List Ent} {r a : Nat} : (plV es r a).length ≤ es.length := qfs
theorem qgs (m : Nat) (hr : r ≤ 200) (hc : c ≤ 200) (hl : es.length ≤ 10000) (hE : ∀ e ∈ es,okR r c e = true) (a0 a1 : Int) (a2 a3 a4 : List Int) : ∀ (n k : Nat) (LL : List (List Int)),es.length - k < n → k ≤ es.length → LL.length = r * c → (∀ a,a < r * c → LL.getD a [] = plV (es.take k) r a) →
    ∃ L',g12_L2 m n (r : Int) (c : Int) es a0 a1 a2 a3 a4 LL (k : Int) = some (.inl ((r : Int),(c : Int),(a0,a1,a2,a3,a4,()),L',())) ∧ L'.length = r * c ∧ ∀ a,a < r * c → L'.getD a [] = plV es r a
  | 0,k,LL,h,_,_,_ => absurd h (Nat.not_lt_zero _)
  | n + 1,k,LL,h,hk0,hL,hP => by
    rw [g12_L2,bif_decide]
    by_cases hk : k < es.length
    · obtain ⟨⟨b1,b2⟩,b3,b4⟩ := J4.1 (hE _ (q3p hk))
      have ht := qca hk
      obtain ⟨e,he⟩ : ∃ e,e = es.getD k zE := ⟨_,rfl⟩
      rw [← he] at b1 b2 b3 b4 ht
      obtain ⟨i,hi⟩ : ∃ i : Nat,(i : Int) = e.1 := ⟨e.1.toNat,by omega⟩
      obtain ⟨j,hj⟩ : ∃ j : Nat,(j : Int) = e.2.1 := ⟨e.2.1.toNat,by omega⟩
      have hir : i < r := by omega
      have hjc : j < c := by omega
      have hcell := cell hir hjc
      have hb : r * c ≤ 200 * 200 := Nat.mul_le_mul hr hc
      have hjr : j * r ≤ r * c := by omega
      have e1 : w_i64 (e.2.1 * (r : Int)) = ((j * r : Nat) : Int) := by
        rw [← hj,← Int.natCast_mul,w_i64_eq]; exact wi (by omega) (by omega)
      have e2 : w_i64 (w_i64 (e.2.1 * (r : Int)) + e.1) = ((j * r + i : Nat) : Int) := by
        rw [e1,← hi,← Int.natCast_add,w_i64_eq]; exact wi (by omega) (by omega)
      have c1 : (0 : Int) ≤ (k : Int) ∧ (k : Int) < (es.length : Int) := by omega
      have c2 : (0 : Int) ≤ ((j * r + i : Nat) : Int) ∧ ((j * r + i : Nat) : Int) < (LL.length : Int) := by omega
      have hget := hP _ hcell
      have c3 : (LL.getD (j * r + i) ([] : List Int)).length + ([e.2.2] : List Int).length ≤ 1073741824 := by
        have := qf2 (es := es.take k) (r := r) (a := j * r + i)
        rw [List.length_take] at this
        rw [hget]; show _ + 1 ≤ _; omega
      rw [if_pos (by omega),if_pos c1,if_pos c1,Int.toNat_natCast,show es.getD k ((0,(0,0)) : Ent) = e from he.symm,e2,if_pos c2,if_pos c1,Int.toNat_natCast,if_pos c3,if_pos c2,if_pos rfl,show w_i64 ((k : Int) + 1) = ((k + 1 : Nat) : Int) from wsucc (by omega)]
      refine qgs m hr hc hl hE a0 a1 a2 a3 a4 n (k + 1) _ (by omega) (by omega) (by rw [List.length_set]; exact hL) fun a ha => ?_
      rw [qf4 (by omega),ht]
      unfold plV
      rw [q71,qfv]
      by_cases q : a = j * r + i
      · have m1 : a % r = i := by rw [q,Nat.mul_comm,Nat.mul_add_mod]; exact Nat.mod_eq_of_lt hir
        have m2 : a / r = j := by rw [q,Nat.mul_comm,Nat.mul_add_div (by omega),Nat.div_eq_of_lt hir,Nat.add_zero]
        rw [if_pos q,hget,m1,m2,if_pos ⟨hi.symm,hj.symm⟩]
        unfold plV
        rw [← q,m1,m2]
      · rw [if_neg q,hP a ha,if_neg,List.append_nil]; · rfl
        rintro ⟨g1,g2⟩
        have h1 : i = a % r := by omega
        have h2 : j = a / r := by omega
        apply q
        rw [h1,h2,Nat.mul_comm]; exact (Nat.div_add_mod a r).symm
    · rw [if_neg (by omega)]
      rw [List.take_of_length_le (by omega)] at hP
      exact ⟨LL,rfl,hL,hP⟩
/- The matrix by places. -/
def docL (es : List Ent) (r : Nat) : Nat → List Ent
  | 0 => []
  | n + 1 => if plV es r n = [] then docL es r n else docL es r n ++ [(((n % r : Nat) : Int),(((n / r : Nat) : Int),plG es r n))]
def docS (es : List Ent) (r : Nat) : Nat → List Int
  | 0 => [0]
  | n + 1 => if n % r = r - 1 then docS es r n ++ [((docL es r (n + 1)).length : Int)] else docS es r n
theorem q6t : ∀ n,(docL es r n).length ≤ n
  | 0 => Nat.le_refl _
  | n + 1 => by
    have := q6t n
    rw [docL]; split
    · omega
    · rw [List.length_append,List.length_singleton]; omega
theorem q62 : ∀ n,(docS es r n).length ≤ n + 1
  | 0 => Nat.le_refl _
  | n + 1 => by
    have := q62 n
    rw [docS]; split
    · rw [List.length_append,List.length_singleton]; omega
    · omega
theorem rCols {m : Nat} (hm : 3000000 < m) (hr : r ≤ 200) (hc : c ≤ 200) (hl : es.length ≤ 10000) (hf : ∀ e ∈ es,U64 e.2.2 ∧ FinF e.2.2) {LL : List (List Int)} (hL : LL.length = r * c) (hP : ∀ a,a < r * c → LL.getD a [] = plV es r a) (a0 a1 : Int) (a2 a3 a4 : List Int) : ∀ (n k : Nat),r * c - k < n → k ≤ r * c →
    ((∀ a,k ≤ a → a < r * c → plV es r a ≠ [] → FinF (plG es r a)) → g12_L3 m n (r : Int) (c : Int) a0 a1 a2 a3 a4 LL (r : Int) (c : Int) (docS es r k) ((docL es r k).map (·.1)) ((docL es r k).map (·.2.2)) (k : Int) = some (.inr (.inl ((c : Int),(a0,a1,a2,a3,a4,()),((r : Int),(c : Int),docS es r (r * c),(docL es r (r * c)).map (·.1),(docL es r (r * c)).map (·.2.2),()),())))) ∧
    ((∃ a,k ≤ a ∧ a < r * c ∧ plV es r a ≠ [] ∧ ¬ FinF (plG es r a)) → g12_L3 m n (r : Int) (c : Int) a0 a1 a2 a3 a4 LL (r : Int) (c : Int) (docS es r k) ((docL es r k).map (·.1)) ((docL es r k).map (·.2.2)) (k : Int) = some (.inl (Emp,3,())))
  | 0,k,h,_ => absurd h (Nat.not_lt_zero _)
  | n + 1,k,h,hk0 => by
    have hb : r * c ≤ 200 * 200 := Nat.mul_le_mul hr hc
    by_cases hk : k < r * c
    · have hr0 : 0 < r := by
        rcases Nat.eq_zero_or_pos r with h0 | h0
        · rw [h0,Nat.zero_mul] at hk; omega
        · exact h0
      obtain ⟨ih1,ih2⟩ := rCols hm hr hc hl hf hL hP a0 a1 a2 a3 a4 n (k + 1) (by omega) (by omega)
      have hget := hP k hk
      have hvf : ∀ v ∈ plV es r k,U64 v ∧ FinF v := fun v hv => by
        obtain ⟨e,he,_,rfl⟩ := q2m.1 hv
        exact hf e he
      have hvl := qf2 (es := es) (r := r) (a := k)
      have hdl := q6t (es := es) (r := r) k
      have hsl := q62 (es := es) (r := r) k
      have htm : Int.tmod (k : Int) (r : Int) = ((k % r : Nat) : Int) := tm k r
      have hw : w_i64 ((r : Int) - 1) = ((r - 1 : Nat) : Int) := by rw [w_i64_eq,wi (by omega) (by omega)]; omega
      have hsum := qi1 hm (l := plV es r k) (by omega) hvf
      have hrd : q1a (mkD (isum ((plV es r k).map valF)) (-1074)) 0 = plG es r k := rfl
      have c1 : (0 : Int) ≤ (k : Int) ∧ (k : Int) < (LL.length : Int) := by omega
      have hrne : (r : Int) ≠ 0 := by omega
      have wk : w_i64 ((k : Int) + 1) = ((k + 1 : Nat) : Int) := wsucc (by omega)
      have hstep : (plV es r k = [] ∨ FinF (plG es r k)) → g12_L3 m (n + 1) (r : Int) (c : Int) a0 a1 a2 a3 a4 LL (r : Int) (c : Int) (docS es r k) ((docL es r k).map (·.1)) ((docL es r k).map (·.2.2)) (k : Int) = g12_L3 m n (r : Int) (c : Int) a0 a1 a2 a3 a4 LL (r : Int) (c : Int) (docS es r (k + 1)) ((docL es r (k + 1)).map (·.1)) ((docL es r (k + 1)).map (·.2.2)) ((k + 1 : Nat) : Int) := by
        intro hq
        by_cases hne : plV es r k = []
        · have hdL : docL es r (k + 1) = docL es r k := by rw [docL,if_pos hne]
          have hdS : docS es r (k + 1) = if k % r = r - 1 then docS es r k ++ [((docL es r k).length : Int)] else docS es r k := by rw [docS,hdL]
          rw [g12_L3,bif_decide,if_pos (by omega),if_pos c1,Int.toNat_natCast,hget,hne,bif_decide,if_neg (by simp),if_pos hrne,htm,hw,bif_eq,wk,hdL,hdS]
          by_cases q : k % r = r - 1
          · rw [if_pos (by rw [q]),if_pos (by show (docS es r k).length + 1 ≤ _; omega),if_pos q,List.length_map]
          · rw [if_neg (by omega),if_neg q]
        · have hfin : FinF (plG es r k) := hq.resolve_left hne
          have hdL : docL es r (k + 1) = docL es r k ++ [(((k % r : Nat) : Int),(((k / r : Nat) : Int),plG es r k))] := by rw [docL,if_neg hne]
          have hd1 : (docL es r (k + 1)).map (·.1) = (docL es r k).map (·.1) ++ [((k % r : Nat) : Int)] := by rw [hdL,List.map_append]; rfl
          have hd2 : (docL es r (k + 1)).map (·.2.2) = (docL es r k).map (·.2.2) ++ [plG es r k] := by rw [hdL,List.map_append]; rfl
          have hln : ((docL es r k).map (·.1) ++ [((k % r : Nat) : Int)]).length = (docL es r (k + 1)).length := by rw [← hd1,List.length_map]
          have hlen0 : 0 < (plV es r k).length := List.length_pos_iff.2 hne
          rw [g12_L3,bif_decide,if_pos (by omega),if_pos c1,Int.toNat_natCast,hget,bif_decide,if_pos (by omega),if_pos c1,hsum,Option.bind_some]
          dsimp only
          rw [q7t hm,Option.bind_some,hrd]
          dsimp only
          rw [q2j (f := plG es r k) q8l,Option.bind_some]
          dsimp only
          rw [decide_eq_true hfin,Bool.not_true,cond_false,if_pos hrne,htm,if_pos (by rw [List.length_map]; show _ + 1 ≤ _; omega),if_pos (by rw [List.length_map]; show _ + 1 ≤ _; omega),if_pos hrne,hw,bif_eq,wk,hln,← hd1,← hd2]
          by_cases q : k % r = r - 1
          · rw [if_pos (by rw [q]),if_pos (by show (docS es r k).length + 1 ≤ _; omega),docS,if_pos q]
          · rw [if_neg (by omega),docS,if_neg q]
      have hbad : plV es r k ≠ [] → ¬ FinF (plG es r k) → g12_L3 m (n + 1) (r : Int) (c : Int) a0 a1 a2 a3 a4 LL (r : Int) (c : Int) (docS es r k) ((docL es r k).map (·.1)) ((docL es r k).map (·.2.2)) (k : Int) = some (.inl (Emp,3,())) := by
        intro hne hfin
        have hlen0 : 0 < (plV es r k).length := List.length_pos_iff.2 hne
        rw [g12_L3,bif_decide,if_pos (by omega),if_pos c1,Int.toNat_natCast,hget,bif_decide,if_pos (by omega),if_pos c1,hsum,Option.bind_some]
        dsimp only
        rw [q7t hm,Option.bind_some,hrd]
        dsimp only
        rw [q2j (f := plG es r k) q8l,Option.bind_some]
        dsimp only
        rw [decide_eq_false hfin,Bool.not_false,cond_true]
      refine ⟨fun hall => ?_,fun ⟨a,h1,h2,h3,h4⟩ => ?_⟩
      · rw [hstep (by
          by_cases hne : plV es r k = []
          · exact .inl hne
          · exact .inr (hall k (Nat.le_refl _) hk hne))]
        exact ih1 fun a h1 h2 h3 => hall a (by omega) h2 h3
      · by_cases hb2 : plV es r k ≠ [] ∧ ¬ FinF (plG es r k)
        · exact hbad hb2.1 hb2.2
        · have hor : plV es r k = [] ∨ FinF (plG es r k) := by
            by_cases hne : plV es r k = []
            · exact .inl hne
            · exact .inr (Classical.byContradiction fun q => hb2 ⟨hne,q⟩)
          rw [hstep hor]
          refine ih2 ⟨a,?_,h2,h3,h4⟩
          rcases Nat.lt_or_ge k a with q | q
          · exact q
          · have : a = k := by omega
            subst this
            exact absurd ⟨h3,h4⟩ hb2
    · have hk2 : k = r * c := by omega
      refine ⟨fun _ => ?_,fun ⟨a,h1,h2,_⟩ => absurd h1 (by omega)⟩
      rw [g12_L3,bif_decide,if_neg (by omega),hk2]
theorem rPad (m : Nat) (hc : c ≤ 200) (a0 a1 : Int) (a2 a3 a4 : List Int) (b0 b1 : Int) (b3 b4 : List Int) : ∀ (n : Nat) (S : List Int),c + 1 - S.length < n → S.length ≤ c + 1 →
    g12_L4 m n (c : Int) a0 a1 a2 a3 a4 b0 b1 S b3 b4 = some (.inl ((a0,a1,a2,a3,a4,()),(b0,b1,S ++ List.replicate (c + 1 - S.length) 0,b3,b4,()),()))
  | 0,S,h,_ => absurd h (Nat.not_lt_zero _)
  | n + 1,S,h,hS => by
    have w1 : w_i64 ((c : Int) + 1) = ((c + 1 : Nat) : Int) := wsucc (by omega)
    rw [g12_L4,w1,bif_decide]
    by_cases hk : S.length < c + 1
    · have hl : (S ++ [0]).length = S.length + 1 := by rw [List.length_append]; rfl
      rw [if_pos (by omega),if_pos (by show S.length + 1 ≤ _; omega),rPad m hc a0 a1 a2 a3 a4 b0 b1 b3 b4 n (S ++ [0]) (by omega) (by omega),hl]
      obtain ⟨d,hd⟩ : ∃ d,c + 1 - S.length = d + 1 := ⟨c - S.length,by omega⟩
      rw [hd,show c + 1 - (S.length + 1) = d by omega,List.replicate_succ,List.append_assoc]; rfl
    · rw [if_neg (by omega),show c + 1 - S.length = 0 by omega,List.replicate_zero,List.append_nil]
end Go.Vs.F

/-! MyFd -/
set_option linter.unusedVariables false
set_option linter.unusedSimpArgs false
set_option maxRecDepth 100000
namespace Go.Vs.F
variable {r c : Nat} {es : List Ent}
theorem Jl {x : Ent} : ∀ {n : Nat},x ∈ docL es r n ↔ ∃ a,a < n ∧ plV es r a ≠ [] ∧ x = (((a % r : Nat) : Int),(((a / r : Nat) : Int),plG es r a))
  | 0 => by
    constructor
    · intro h; simp [docL] at h
    · rintro ⟨a,h,_⟩; omega
  | n + 1 => by
    rw [docL]
    by_cases hn : plV es r n = []
    · rw [if_pos hn,Jl (n := n)]
      constructor
      · rintro ⟨a,h1,h2,h3⟩; exact ⟨a,by omega,h2,h3⟩
      · rintro ⟨a,h1,h2,h3⟩
        refine ⟨a,?_,h2,h3⟩
        rcases Nat.lt_or_ge a n with q | q
        · exact q
        · have : a = n := by omega
          subst this; exact absurd hn h2
    · rw [if_neg hn,List.mem_append,Jl (n := n),List.mem_singleton]
      constructor
      · rintro (⟨a,h1,h2,h3⟩ | h)
        · exact ⟨a,by omega,h2,h3⟩
        · exact ⟨n,by omega,hn,h⟩
      · rintro ⟨a,h1,h2,h3⟩
        rcases Nat.lt_or_ge a n with q | q
        · exact .inl ⟨a,q,h2,h3⟩
        · have : a = n := by omega
          subst this; exact .inr h3
theorem Zl : ∀ n,(docL es r n).Pairwise (fun a b => ltE a b = true)
  | 0 => List.Pairwise.nil
  | n + 1 => by
    rw [docL]
    by_cases hn : plV es r n = []
    · rw [if_pos hn]; exact Zl n
    · rw [if_neg hn,List.pairwise_append]
      refine ⟨Zl n,List.pairwise_singleton ..,fun x hx y hy => ?_⟩
      rw [List.mem_singleton] at hy
      obtain ⟨a,h1,_,rfl⟩ := Jl.1 hx
      subst hy
      have h2 : a / r ≤ n / r := Nat.div_le_div_right (by omega)
      have h3 := Nat.div_add_mod a r
      have h4 := Nat.div_add_mod n r
      unfold ltE
      rw [Bool.or_eq_true,decide_eq_true_eq,Bool.and_eq_true,decide_eq_true_eq,decide_eq_true_eq]
      rcases Nat.lt_or_ge (a / r) (n / r) with q | q
      · left
        show ((a / r : Nat) : Int) < ((n / r : Nat) : Int)
        omega
      · right
        have h5 : a / r = n / r := by omega
        rw [h5] at h3
        refine ⟨by show ((a / r : Nat) : Int) = ((n / r : Nat) : Int); rw [h5],?_⟩
        show ((a % r : Nat) : Int) < ((n % r : Nat) : Int)
        omega
theorem qi9 {a : Nat} (h : a < r * c) : 0 < r ∧ a % r < r ∧ a / r < c := by
  have h0 : 0 < r := by
    rcases Nat.eq_zero_or_pos r with h0 | h0
    · rw [h0,Nat.zero_mul] at h; omega
    · exact h0
  exact ⟨h0,Nat.mod_lt _ h0,Nat.div_lt_of_lt_mul h⟩
theorem q7w {l : List Ent} (h : l.Pairwise (fun a b => ltE a b = true)) : DistE l := by
  rw [qbm,List.nodup_iff_pairwise_ne,List.pairwise_map]
  refine h.imp fun {a b} hab e => ?_
  unfold posE at e
  simp only [Prod.mk.injEq] at e
  unfold ltE at hab
  simp only [Bool.or_eq_true,decide_eq_true_eq,Bool.and_eq_true] at hab
  omega
theorem qh3 (hg : ∀ a,a < r * c → plV es r a ≠ [] → FinF (plG es r a)) : EntsOK r c (docL es r (r * c)) := q5p fun e he => by
  obtain ⟨a,h1,h2,rfl⟩ := Jl.1 he
  obtain ⟨p1,p2,p3⟩ := qi9 h1
  refine ⟨⟨Int.natCast_nonneg _,by show ((a % r : Nat) : Int) < _; omega⟩,⟨Int.natCast_nonneg _,by show ((a / r : Nat) : Int) < _; omega⟩,?_⟩
  show finB (plG es r a) = true
  rw [q5u (f := plG es r a) q8l]
  exact decide_eq_true (hg a h1 h2)
theorem q5v (hg : ∀ a,a < r * c → plV es r a ≠ [] → FinF (plG es r a)) : docL es r (r * c) = can (docL es r (r * c)) r c :=
  q54 (qh3 hg) (q7w (Zl _)) ((Zl _).imp fun h => Yw h) (List.Perm.refl _)
theorem qb9 {u : Nat} (hr : 0 < r) : ∀ d,cLt (docL es r (u * r + d)) u = (docL es r (u * r)).length
  | 0 => by
    unfold cLt
    rw [Nat.add_zero,List.countP_eq_length]
    intro x hx
    obtain ⟨a,h1,_,rfl⟩ := Jl.1 hx
    have : a / r < u := (Nat.div_lt_iff_lt_mul hr).2 (by omega)
    rw [decide_eq_true_eq]
    show ((a / r : Nat) : Int) < _
    omega
  | d + 1 => by
    have ih := qb9 (u := u) hr d
    rw [← Nat.add_assoc,docL]
    by_cases hn : plV es r (u * r + d) = []
    · rw [if_pos hn]; exact ih
    · rw [if_neg hn]
      have h2 : u ≤ (u * r + d) / r := (Nat.le_div_iff_mul_le hr).2 (by omega)
      unfold cLt at ih ⊢
      rw [List.countP_append,ih,List.countP_singleton,if_neg (by
        rw [decide_eq_true_eq]
        show ¬ (((u * r + d) / r : Nat) : Int) < _
        omega),Nat.add_zero]
theorem qbt (hr : 0 < r) (t : Nat) : ∀ i,i < r → docS es r (t * r + i) = docS es r (t * r)
  | 0,_ => rfl
  | i + 1,h => by
    have hm : (t * r + i) % r = i := by rw [Nat.mul_comm,Nat.mul_add_mod]; exact Nat.mod_eq_of_lt (by omega)
    rw [← Nat.add_assoc,docS,hm,if_neg (by omega)]
    exact qbt hr t i (by omega)
theorem qc0 (hr : 0 < r) : ∀ t,docS es r (t * r) = (List.range (t + 1)).map fun u => ((docL es r (u * r)).length : Int)
  | 0 => by rw [Nat.zero_mul]; simp [docS,docL]
  | t + 1 => by
    have hm : (t * r + (r - 1)) % r = r - 1 := by rw [Nat.mul_comm,Nat.mul_add_mod]; exact Nat.mod_eq_of_lt (by omega)
    have e : (t + 1) * r = t * r + (r - 1) + 1 := by rw [Nat.succ_mul]; omega
    rw [List.range_succ,List.map_append,← qc0 hr t,e,docS,hm,if_pos rfl,qbt hr t (r - 1) (by omega),← e]; rfl
theorem q8i (hg : ∀ a,a < r * c → plV es r a ≠ [] → FinF (plG es r a)) : docS es r (r * c) ++ List.replicate (c + 1 - (docS es r (r * c)).length) 0 = packS (docL es r (r * c)) r c := by
  rcases Nat.eq_zero_or_pos r with h0 | h0
  · subst h0
    have e1 : docS es 0 (0 * c) = [0] := by rw [Nat.zero_mul]; rfl
    have e2 : docL es 0 (0 * c) = [] := by rw [Nat.zero_mul]; rfl
    rw [e1,e2]
    unfold packS
    have e3 : ∀ t,(packI [] 0 t).length = 0 := fun t => by
      have := q83 [] 0 t
      omega
    have e4 : ((List.range (c + 1)).map fun t => ((packI [] 0 t).length : Int)) = List.replicate (c + 1) 0 := by
      rw [List.eq_replicate_iff]
      refine ⟨by simp,fun b hb => ?_⟩
      obtain ⟨t,_,rfl⟩ := List.mem_map.1 hb
      rw [e3]; rfl
    rw [e4,show c + 1 - ([0] : List Int).length = c from rfl,List.replicate_succ]; rfl
  · have e1 : docS es r (r * c) = packS (docL es r (r * c)) r c := by
      rw [Nat.mul_comm r c,qc0 h0 c]
      unfold packS
      refine List.map_congr_left fun u hu => ?_
      have hu := List.mem_range.1 hu
      have h1 := q9j (es := docL es r (r * c)) (r := r) (c := c) (t := u) (by omega)
      rw [← q5v hg] at h1
      have h2 : u * r ≤ r * c := by rw [Nat.mul_comm r c]; exact Nat.mul_le_mul_right r (by omega)
      obtain ⟨d,hd⟩ : ∃ d,r * c = u * r + d := ⟨r * c - u * r,by omega⟩
      have h3 := qb9 (es := es) (u := u) h0 d
      rw [← hd,h1] at h3
      rw [Nat.mul_comm c r,h3]
    have e2 : (docS es r (r * c)).length = c + 1 := by rw [e1]; simp [packS]
    rw [e2,Nat.sub_self,List.replicate_zero,List.append_nil,e1]
theorem qgm {e : Ent} (he : e ∈ es) (hR : okR r c e = true) : ∃ a,a < r * c ∧ plV es r a ≠ [] ∧ ((a % r : Nat) : Int) = e.1 ∧ ((a / r : Nat) : Int) = e.2.1 := by
  obtain ⟨⟨b1,b2⟩,b3,b4⟩ := J4.1 hR
  obtain ⟨i,hi⟩ : ∃ i : Nat,(i : Int) = e.1 := ⟨e.1.toNat,by omega⟩
  obtain ⟨j,hj⟩ : ∃ j : Nat,(j : Int) = e.2.1 := ⟨e.2.1.toNat,by omega⟩
  have hir : i < r := by omega
  have hjc : j < c := by omega
  have m1 : (j * r + i) % r = i := by rw [Nat.mul_comm,Nat.mul_add_mod]; exact Nat.mod_eq_of_lt hir
  have m2 : (j * r + i) / r = j := by rw [Nat.mul_comm,Nat.mul_add_div (by omega),Nat.div_eq_of_lt hir,Nat.add_zero]
  refine ⟨j * r + i,cell hir hjc,fun q => ?_,by rw [m1,hi],by rw [m2,hj]⟩
  have : e.2.2 ∈ plV es r (j * r + i) := q2m.2 ⟨e,he,⟨by rw [m1,hi],by rw [m2,hj]⟩,rfl⟩
  rw [q] at this; simp at this
theorem qex {m : Nat} (hm : 3000000 < m) (hr : r ≤ 200) (hc : c ≤ 200) (hl : es.length ≤ 10000) (hU : ∀ e ∈ es,U64 e.2.2) :
    ∃ X : MRes,q5n X ∧ g11 m (r : Int) (c : Int) es = some (X,(),(),(),()) ∧ g12 m (r : Int) (c : Int) es = some (X,(),(),(),()) := by
  have hb : r * c ≤ 200 * 200 := Nat.mul_le_mul hr hc
  have w1 : (decide (0 ≤ (r : Int)) && decide ((r : Int) ≤ 200)) = true := by rw [Bool.and_eq_true,decide_eq_true_eq,decide_eq_true_eq]; omega
  have w2 : (decide (0 ≤ (c : Int)) && decide ((c : Int) ≤ 200)) = true := by rw [Bool.and_eq_true,decide_eq_true_eq,decide_eq_true_eq]; omega
  have f0 := qgy m hr hc hl es 0 0 [] [] [] m 0 (by omega)
  have g0 := qgo (r := r) (c := c) m hl 0 0 [] [] [] m 0 (by omega)
  have f1 := pFin m hl (r : Int) (c : Int) es 0 0 [] [] [] m 0 (by omega)
  have g1 := rFin m hl hU (r : Int) (c : Int) 0 0 [] [] [] m 0 (by omega)
  rw [Int.natCast_zero,List.drop_zero] at f0 f1 g0 g1
  rw [g11,Yx,Option.bind_some,w1,Bool.not_true,cond_false,Yx,Option.bind_some,w2,Bool.not_true,cond_false,bif_decide,if_neg (by omega),f0,Option.bind_some]
  rw [g12,bif_decide,if_neg (show ¬ (r : Int) < 0 by omega),bif_decide,if_neg (show ¬ (r : Int) > 200 by omega),bif_decide,if_neg (show ¬ (c : Int) < 0 by omega),bif_decide,if_neg (show ¬ (c : Int) > 200 by omega),bif_decide,if_neg (show ¬ (es.length : Int) > 10000 by omega),g0,Option.bind_some]
  by_cases hR : es.all (okR r c) = true
  · rw [if_pos hR]
    dsimp only
    rw [f1,g1,Option.bind_some,Option.bind_some]
    by_cases hF : es.all okF = true
    · rw [if_pos hF]
      dsimp only
      have hR' : ∀ e ∈ es,okR r c e = true := fun e he => List.all_eq_true.1 hR e he
      have hf : ∀ e ∈ es,U64 e.2.2 ∧ FinF e.2.2 := fun e he => ⟨hU e he,by
        have h1 : finB e.2.2 = true := List.all_eq_true.1 hF e he
        rw [q5u (hU e he)] at h1
        exact of_decide_eq_true h1⟩
      obtain ⟨D,d1,d2,d3⟩ := g59_eq (m := m) es (by omega) (by omega)
      have hlen := d3.length_eq
      have hfD : ∀ e ∈ D,U64 e.2.2 ∧ FinF e.2.2 := fun e he => hf e (d3.mem_iff.1 he)
      have wrc : w_i64 ((r : Int) * (c : Int)) = ((r * c : Nat) : Int) := by
        rw [← Int.natCast_mul,w_i64_eq]; exact wi (by omega) (by omega)
      obtain ⟨LL,l1,l2,l3⟩ := qgs (es := es) m hr hc hl hR' 0 0 [] [] [] m 0 (List.replicate (r * c) []) (by omega) (by omega) (by simp) (fun a ha => by
        rw [List.take_zero]
        show (List.replicate (r * c) ([] : List Int)).getD a [] = []
        simp [List.getD,ha])
      obtain ⟨k1,k2⟩ := rCols hm hr hc hl hf l2 l3 0 0 [] [] [] m 0 (by omega) (by omega)
      rw [Int.natCast_zero] at l1 k1 k2
      rw [d1,Option.bind_some]
      dsimp only
      rw [wrc,if_pos ⟨by omega,Int.le_refl _,by omega⟩,Int.toNat_natCast,l1,Option.bind_some]
      dsimp only
      rcases pL2 hm (r : Int) (c : Int) 0 0 [] [] [] D.length D m [] (Nat.le_refl _) (by omega) (by simp; omega) hfD d2 with ⟨⟨z,hz,hbad⟩,hrun⟩ | ⟨hall,w,⟨g1,g2,g3,g4⟩,hrun⟩
      · rw [hrun,Option.bind_some]
        dsimp only
        have hz' := d3.mem_iff.1 hz
        obtain ⟨a,a1,a2,a3,a4⟩ := qgm hz' (hR' z hz')
        have hq := k2 ⟨a,Nat.zero_le _,a1,a2,by
          unfold plG
          rw [a3,a4,← q6o d3]; exact hbad⟩
        have hq' : g12_L3 m m (r : Int) (c : Int) 0 0 [] [] [] LL (r : Int) (c : Int) [0] [] [] 0 = some (.inl (Emp,3,())) := hq
        rw [hq',Option.bind_some]
        exact ⟨_,by simp [q5n],rfl,rfl⟩
      · rw [hrun,Option.bind_some,List.nil_append]
        dsimp only
        have hg : ∀ a,a < r * c → plV es r a ≠ [] → FinF (plG es r a) := fun a h1 h2 => by
          obtain ⟨v,hv⟩ := List.exists_mem_of_ne_nil _ h2
          obtain ⟨e,he,⟨q1,q2⟩,_⟩ := q2m.1 hv
          have := hall e (d3.mem_iff.2 he)
          unfold plG
          rw [← q1,← q2,← q6o d3]; exact this
        have hq' : g12_L3 m m (r : Int) (c : Int) 0 0 [] [] [] LL (r : Int) (c : Int) [0] [] [] 0 = some (.inr (.inl ((c : Int),(0,0,[],[],[],()),((r : Int),(c : Int),docS es r (r * c),(docL es r (r * c)).map (·.1),(docL es r (r * c)).map (·.2.2),()),()))) := k1 fun a _ h1 h2 => hg a h1 h2
        have hsl := q62 (es := es) (r := r) (r * c)
        have hdl := q6t (es := es) (r := r) (r * c)
        have hSl : (docS es r (r * c)).length ≤ c + 1 := by
          have h1 := congrArg List.length (q8i hg)
          rw [List.length_append] at h1
          have h2 : (packS (docL es r (r * c)) r c).length = c + 1 := by simp [packS]
          omega
        rw [hq',Option.bind_some]
        dsimp only
        rw [rPad m hc 0 0 [] [] [] (r : Int) (c : Int) _ _ m (docS es r (r * c)) (by omega) hSl,Option.bind_some]
        dsimp only
        have hwE : EntsOK r c w := q5p fun x hx => by
          obtain ⟨⟨e,he,e1,e2⟩,_,hfx⟩ := g1 x hx
          obtain ⟨p1,p2⟩ := J4.1 (hR' e (d3.mem_iff.1 he))
          rw [← e1,← e2]
          refine ⟨p1,p2,?_⟩
          have : U64 x.2.2 := by rw [(g1 x hx).2.1]; exact q8l
          rw [q5u this]; exact decide_eq_true hfx
        have hwD : DistE w := qbm.2 g3
        have hmem : ∀ x,x ∈ w ↔ x ∈ docL es r (r * c) := fun x => by
          rw [Jl]
          constructor
          · intro hx
            obtain ⟨⟨e,he,e1,e2⟩,hv,_⟩ := g1 x hx
            have he' := d3.mem_iff.1 he
            obtain ⟨a,a1,a2,a3,a4⟩ := qgm he' (hR' e he')
            refine ⟨a,a1,a2,?_⟩
            unfold plG
            rw [a3,a4,e1,e2,← q6o d3,← hv]
          · rintro ⟨a,a1,a2,rfl⟩
            obtain ⟨v,hv⟩ := List.exists_mem_of_ne_nil _ a2
            obtain ⟨e,he,⟨q1,q2⟩,_⟩ := q2m.1 hv
            obtain ⟨x,hx,x1,x2⟩ := g2 e (d3.mem_iff.2 he)
            have hv2 := (g1 x hx).2.1
            have : x = (((a % r : Nat) : Int),(((a / r : Nat) : Int),plG es r a)) := by
              unfold plG
              rw [← q1,← q2,← q6o d3,← x1,← x2,← hv2]
            rw [← this]; exact hx
        have hdD := q7w (Zl (es := es) (r := r) (r * c))
        have hI : packI w r c = (docL es r (r * c)).map (·.1) := by rw [q48 hwD hmem hdD,← can_I,← q5v hg]
        have hV : packV w r c = (docL es r (r * c)).map (·.2.2) := by rw [q9a hwD hmem hdD,← can_V,← q5v hg]
        have hS : packS w r c = docS es r (r * c) ++ List.replicate (c + 1 - (docS es r (r * c)).length) 0 := by rw [qai hwD hmem hdD,q8i hg]
        rw [qfy hwE hwD hr hc (by omega) (by omega),Option.bind_some]
        dsimp only
        rw [← hI,← hV,← hS]
        refine ⟨_,?_,rfl,rfl⟩
        refine ⟨by simp [packS]; omega,?_,?_⟩
        · show (packI w r c).length ≤ _
          rw [hI,List.length_map]; omega
        · show (packV w r c).length ≤ _
          rw [hV,List.length_map]; omega
    · rw [if_neg hF]
      exact ⟨_,by simp [q5n],rfl,rfl⟩
  · rw [if_neg hR]
    exact ⟨_,by simp [q5n],rfl,rfl⟩
/- Sizes out of range. -/
theorem qbg {m : Nat} {r c : Int} {es : List Ent} (h : r < 0 ∨ 200 < r ∨ c < 0 ∨ 200 < c) :
    g11 m r c es = some ((Emp,6,()),(),(),(),()) ∧ g12 m r c es = some ((Emp,6,()),(),(),(),()) := by
  constructor
  · rw [g11,Yx,Option.bind_some]
    by_cases h1 : 0 ≤ r ∧ r ≤ 200
    · have w1 : (decide (0 ≤ r) && decide (r ≤ 200)) = true := by rw [Bool.and_eq_true,decide_eq_true_eq,decide_eq_true_eq]; exact h1
      have w2 : (decide (0 ≤ c) && decide (c ≤ 200)) = false := by rw [Bool.and_eq_false_iff,decide_eq_false_iff_not,decide_eq_false_iff_not]; omega
      rw [w1,Bool.not_true,cond_false,Yx,Option.bind_some,w2]; rfl
    · have w1 : (decide (0 ≤ r) && decide (r ≤ 200)) = false := by rw [Bool.and_eq_false_iff,decide_eq_false_iff_not,decide_eq_false_iff_not]; omega
      rw [w1]; rfl
  · rw [g12,bif_decide,bif_decide,bif_decide,bif_decide]
    by_cases h1 : r < 0
    · rw [if_pos h1]
    rw [if_neg h1]
    by_cases h2 : r > 200
    · rw [if_pos h2]
    rw [if_neg h2]
    by_cases h3 : c < 0
    · rw [if_pos h3]
    rw [if_neg h3,if_pos (by omega)]
theorem wfEnt {xs : List Ent} (h : Go.Vs.wfC (.imm (.pr (.int .i64) (.pr (.int .i64) (.int .u64)))) xs) : ∀ e ∈ xs,U64 e.2.2 := fun e he => wfu64 (h.1 e he).2.2
theorem q4g (R C : Int) (es : List Ent) (hU : ∀ e ∈ es,U64 e.2.2) : ∃ m,sparselaw09_MatrixBuilt m R C es = some (true,(),(),(),()) := by
  refine ⟨4000000,?_⟩
  generalize hm0 : (4000000 : Nat) = m
  have hm : 3000000 < m := by omega
  have hm2 : m < 4611686018427387904 := by omega
  clear hm0
  rw [sparselaw09_MatrixBuilt,bif_decide]
  by_cases hl : (es.length : Int) > 40
  · rw [if_pos hl,qff (by omega)]; rfl
  rw [if_neg hl]
  have both : ∃ X : MRes,q5n X ∧ g11 m R C es = some (X,(),(),(),()) ∧ g12 m R C es = some (X,(),(),(),()) := by
    by_cases h : R < 0 ∨ 200 < R ∨ C < 0 ∨ 200 < C
    · exact ⟨_,by simp [q5n],(qbg h).1,(qbg h).2⟩
    · obtain ⟨r,rfl⟩ : ∃ r : Nat,R = (r : Int) := ⟨R.toNat,by omega⟩
      obtain ⟨c,rfl⟩ : ∃ c : Nat,C = (c : Int) := ⟨C.toNat,by omega⟩
      exact qex hm (by omega) (by omega) (by omega) hU
  obtain ⟨X,⟨s1,s2,s3⟩,x1,x2⟩ := both
  have fin : ((g11 m R C es).bind fun y4 =>
            (g12 m R C es).bind fun y5 =>
            (sparselaw09_alike m y4.1.1.1 y4.1.1.2.1 y4.1.1.2.2.1 y4.1.1.2.2.2.1 y4.1.1.2.2.2.2.1 y4.1.2.1 y5.1.1.1 y5.1.1.2.1 y5.1.1.2.2.1 y5.1.1.2.2.2.1 y5.1.1.2.2.2.2.1 y5.1.2.1).bind fun y6 =>
            bif y6.1 then
              (sparselaw09_awake m).bind fun y7 =>
              some (y7.1,((),(),(),()))
            else
              some (false,((),(),(),()))) = some (true,(),(),(),()) := by
    rw [x1,x2]
    simp only [Option.bind_some]
    rw [qd1 (by omega) (by omega) (by omega) hm2]
    simp only [Option.bind_some,cond_true]
    rw [qff (by omega)]; rfl
  have aw : ((sparselaw09_awake m).bind fun y1 => some (y1.1,(((),(),(),()) : Unit × Unit × Unit × Unit))) = some (true,(),(),(),()) := by rw [qff (by omega)]; rfl
  simp only [bif_decide]
  repeat' split
  all_goals first | exact aw | exact fin
end Go.Vs.F
