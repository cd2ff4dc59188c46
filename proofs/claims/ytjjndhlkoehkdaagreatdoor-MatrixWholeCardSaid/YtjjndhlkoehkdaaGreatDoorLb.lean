/- Matrices and their entries: what is packed depends on the set of entries alone; packing the entries of a matrix gives it back. Moves of a matrix: transposing, the lower triangle, permuting and selecting; the program's and the document's. Lists of indices: places, ranges, doubles, permutations. The law MatrixMoves. The made values: rounding the sum of one of them gives it back (closed evaluations). Building from entries at different positions; made matrices. The law MatrixRound. Looking up by bisection; comparing a float with itself; symmetric made matrices. -/
import Derived.Test.YtjjndhlkoehkdaaGreatDoorLa

/-! MxTa -/
set_option linter.unusedVariables false
set_option linter.unusedSimpArgs false
namespace Go.Vs.F
section
variable {es es' : List Ent} {r c : Nat}
theorem DistE.val (hD : DistE es) {i j v v' : Int} (h : ((i,(j,v)) : Ent) ∈ es) (h' : ((i,(j,v')) : Ent) ∈ es) : v = v' := by
  obtain ⟨k,hk,e⟩ := Y8 h
  obtain ⟨k',hk',e'⟩ := Y8 h'
  have := hD k k' hk hk' (by rw [e,e']) (by rw [e,e'])
  subst this
  rw [e] at e'
  cases e'; rfl
theorem qjx {i j : Nat} (h : 0 < Qo es i j es.length) : (((i : Int),((j : Int),(es.getD (Qo es i j es.length - 1) zE).2.2)) : Ent) ∈ es := by
  obtain ⟨g1,g2,g3⟩ := q5a h
  rw [show ((i : Int),((j : Int),(es.getD (Qo es i j es.length - 1) zE).2.2)) = es.getD (Qo es i j es.length - 1) zE by rw [← g2,← g3]]
  simp [List.getD,g1]
theorem qk3 {i j : Nat} : 0 < Qo es i j es.length ↔ ∃ v,(((i : Int),((j : Int),v)) : Ent) ∈ es := by
  constructor
  · intro h; exact ⟨_,qjx h⟩
  · rintro ⟨v,h⟩
    obtain ⟨k,hk,e⟩ := Y8 h
    exact q4u hk (by rw [e]) (by rw [e])
theorem qkw (hD : DistE es) (hp : ∀ x,x ∈ es ↔ x ∈ es') (hD' : DistE es') (j : Nat) : canE es r j = canE es' r j := by
  have hx : ∀ i : Nat,0 < Qo es i j es.length ↔ 0 < Qo es' i j es'.length := fun i => by
    rw [qk3,qk3]
    exact ⟨fun ⟨v,h⟩ => ⟨v,(hp _).1 h⟩,fun ⟨v,h⟩ => ⟨v,(hp _).2 h⟩⟩
  have hc : colR es j 0 r = colR es' j 0 r := List.filter_congr fun i _ => by rw [decide_eq_decide]; exact hx i
  unfold canE
  rw [← hc]
  refine List.map_congr_left fun i hi => ?_
  have h1 := of_decide_eq_true (List.mem_filter.1 hi).2
  have h2 := (hx i).1 h1
  rw [hD.val (qjx h1) ((hp _).2 (qjx h2))]
theorem ql1 (hD : DistE es) (hp : ∀ x,x ∈ es ↔ x ∈ es') (hD' : DistE es') : ∀ j,can es r j = can es' r j
  | 0 => rfl
  | j + 1 => by rw [can,can,ql1 hD hp hD' j,qkw hD hp hD' j]
/- What is packed depends on the set of the entries. -/
/-! ### The entries of what is packed -/
theorem qk6 {α : Type} {A B D : List α} {k : Nat} {d : α} (hk : k < B.length) : (A ++ B ++ D).getD (A.length + k) d = B.getD k d := by
  have : ¬ A.length + k < A.length := by omega
  simp [List.getD,List.getElem?_append,hk,this]
theorem qkr {j : Nat} (hj : j < c) : ∃ zs,packI es r c = packI es r j ++ colI es j 0 r ++ zs := by
  obtain ⟨zs,e⟩ := qk2 (es := es) (r := r) (t := j + 1) (c - (j + 1))
  rw [show j + 1 + (c - (j + 1)) = c by omega] at e
  exact ⟨zs,by rw [e,packI]⟩
theorem qkn {t : Nat} : ∀ d,∃ zs,packV es r (t + d) = packV es r t ++ zs
  | 0 => ⟨[],by simp⟩
  | d + 1 => by
    obtain ⟨zs,h⟩ := qkn (t := t) d
    exact ⟨zs ++ colV es (t + d) 0 r,by rw [← Nat.add_assoc,packV,h,List.append_assoc]⟩
theorem qkt {j : Nat} (hj : j < c) : ∃ zs,packV es r c = packV es r j ++ colV es j 0 r ++ zs := by
  obtain ⟨zs,e⟩ := qkn (es := es) (r := r) (t := j + 1) (c - (j + 1))
  rw [show j + 1 + (c - (j + 1)) = c by omega] at e
  exact ⟨zs,by rw [e,packV]⟩
theorem qks {j : Nat} (hj : j < c) : Xb (packS es r c) (packI es r c) (packV es r c) j ((packS es r c).getD j 0).toNat ((packS es r c).getD (j + 1) 0).toNat = canE es r j := by
  rw [qjy (by omega),qjy (by omega),Int.toNat_natCast,Int.toNat_natCast]
  have hl : (packI es r (j + 1)).length - (packI es r j).length = (colR es j 0 r).length := by
    rw [packI,List.length_append]; simp [colI]
  unfold Xb canE
  rw [hl]
  obtain ⟨zs,e⟩ := qkr (es := es) (r := r) hj
  obtain ⟨ws,e'⟩ := qkt (es := es) (r := r) hj
  refine List.ext_getElem (by simp) fun k h1 h2 => ?_
  simp only [List.length_map,List.length_range'] at h1
  have hk : k < (colR es j 0 r).length := h1
  simp only [List.getElem_map,List.getElem_range',Nat.one_mul]
  have eI : (packI es r c).getD ((packI es r j).length + k) 0 = ((colR es j 0 r)[k] : Int) := by
    rw [e,qk6 (by simp [colI]; exact hk)]
    simp [colI,List.getD,hk]
  have eV : (packV es r c).getD ((packI es r j).length + k) 0 = (es.getD (Qo es ((colR es j 0 r)[k]) j es.length - 1) zE).2.2 := by
    rw [e',← q1b es r j,qk6 (by simp [colV]; exact hk)]
    simp [colV,List.getD,hk]
  rw [eI,eV]
theorem qkj : ∀ (d k : Nat),k + d = c → can es r k ++ ents (packS es r c) (packI es r c) (packV es r c) d k = can es r c
  | 0,k,h => by
    have : k = c := by omega
    subst this; simp [ents]
  | d + 1,k,h => by
    have ih := qkj d (k + 1) (by omega)
    rw [ents,qks (by omega),← List.append_assoc]
    exact ih
theorem qjz : ents (packS es r c) (packI es r c) (packV es r c) c 0 = can es r c := by
  have := qkj (es := es) (r := r) (c := c) c 0 (by omega)
  simpa [can] using this
end
/-! ### Packing the entries of a matrix -/
section
variable {R C : Nat} {S I V : List Int}
end
end Go.Vs.F

/-! MxTb -/
set_option linter.unusedVariables false
set_option linter.unusedSimpArgs false
set_option maxRecDepth 100000
namespace Go.Vs.F
theorem qix (k : Nat) : sparselaw09_awake (k + 100) = some (true,()) := by kernel_rfl
theorem qcx {m : Nat} (h : 100 ≤ m) : sparselaw09_awake m = some (true,()) := by
  obtain ⟨k,rfl⟩ : ∃ k,m = k + 100 := ⟨m - 100,by omega⟩
  exact qix k
theorem q8e {es : List Ent} {k : Nat} (h : k < es.length) : es.getD k zE ∈ es := by simp [List.getD,h]
theorem Ze {r c : Nat} {es : List Ent} (h : EntsOK r c es) : ∀ e ∈ es,(0 ≤ e.1 ∧ e.1 < (r : Int)) ∧ (0 ≤ e.2.1 ∧ e.2.1 < (c : Int)) ∧ finB e.2.2 = true := fun e he => by
  obtain ⟨k,hk,rfl⟩ := Y8 he
  exact h k hk
/-! ### Comparing -/
/-! ### Transposing, as the document does -/
/-! ### A valid matrix -/
structure MV (R C : Nat) (S I V : List Int) : Prop where
  ok : MatOK R C S I
  vl : V.length = I.length
  chk : chk (R : Int) (C : Int) S I V = 0
section
variable {R C : Nat} {S I V : List Int}
theorem MV.ents (h : MV R C S I V) : EntsOK R C (ents S I V C 0) := by
  obtain ⟨_,_,_,_,_,_,hfin⟩ := qid h.chk
  exact qjc h.ok h.vl hfin
theorem MV.dist (h : MV R C S I V) : DistE (Go.Vs.F.ents S I V C 0) := q2q (q3u h.ok C 0 (by omega))
theorem MV.len (h : MV R C S I V) : (Go.Vs.F.ents S I V C 0).length ≤ 10000 := by
  rw [qcp h.ok C 0 (by omega) (by omega)]
  have := h.ok.st.rng (j := C) (Nat.le_refl _)
  have := h.ok.sz
  omega
theorem MV.sl (h : MV R C S I V) : S.length ≤ 201 := by
  have := h.ok.st.len
  have := h.ok.cz
  omega
/-! ### The lower triangle -/
theorem q05 {es : List Ent} {k : Nat} (hk : k < es.length) : es.take (k + 1) = es.take k ++ [es.getD k zE] := by
  rw [List.take_add_one]
  congr 1
  rw [List.getElem?_eq_getElem hk,List.getD,List.getElem?_eq_getElem hk]; rfl
end
end Go.Vs.F

/-! MxTc -/
set_option linter.unusedVariables false
set_option linter.unusedSimpArgs false
namespace Go.Vs.F
/- The places of the indices of a list. -/
/-! ### The document's tests -/
theorem getD_take {α : Type} {l : List α} {j k : Nat} {d : α} (h : j < k) : (l.take k).getD j d = l.getD j d := by
  simp [List.getD,List.getElem?_take,h]
end Go.Vs.F

/-! MxTd -/
set_option linter.unusedVariables false
set_option linter.unusedSimpArgs false
set_option maxRecDepth 100000
namespace Go.Vs.F
section
variable {R C : Nat} {S I V : List Int}
/- The chosen entries, and where they go. -/
/- What is chosen: by rows and columns. -/
/-! ### The document's choice -/
theorem Zi {x : Ent} : ∀ {d k : Nat},x ∈ ents S I V d k ↔ ∃ j t,k ≤ j ∧ j < k + d ∧ (S.getD j 0).toNat ≤ t ∧ t < (S.getD (j + 1) 0).toNat ∧ x = (I.getD t 0,(j : Int),V.getD t 0)
  | 0,k => by
    constructor
    · intro h; simp [ents] at h
    · rintro ⟨j,t,h1,h2,_⟩; omega
  | d + 1,k => by
    rw [ents,List.mem_append,Zi (d := d) (k := k + 1)]
    constructor
    · rintro (h | ⟨j,t,h1,h2,h3⟩)
      · unfold Xb at h
        obtain ⟨t,ht,rfl⟩ := List.mem_map.1 h
        rw [List.mem_range'_1] at ht
        exact ⟨k,t,Nat.le_refl _,by omega,ht.1,by omega,rfl⟩
      · exact ⟨j,t,by omega,by omega,h3⟩
    · rintro ⟨j,t,h1,h2,h3,h4,h5⟩
      by_cases e : j = k
      · subst e
        left; unfold Xb
        exact List.mem_map.2 ⟨t,List.mem_range'_1.2 ⟨h3,by omega⟩,h5.symm⟩
      · right; exact ⟨j,t,by omega,by omega,h3,h4,h5⟩
/- The list that grows, row by row. -/
/- Both choices are packed alike. -/
end
end Go.Vs.F

/-! MxPa -/
set_option linter.unusedVariables false
set_option maxRecDepth 100000
namespace Go.Vs.F
def valC (m : Nat) (a e : Int) : Option (Int × Unit × Unit) :=
  (g89 m a).bind fun y2 =>
  (g88 m y2.1.1 y2.1.2.1 y2.1.2.2.1 y2.1.2.2.2.1 e).bind fun y3 =>
  (g64 m y3.1.1 y3.1.2.1 y3.1.2.2.1 y3.1.2.2.2.1 0).bind fun y4 =>
  some (y4.1,((),()))
/- A value that is the sum of itself alone. -/
end Go.Vs.F

/-! MxTf -/
set_option linter.unusedVariables false
set_option linter.unusedSimpArgs false
set_option maxRecDepth 100000
namespace Go.Vs.F
variable {r c : Nat} {es : List Ent}
/-! ### FromEntries -/
/- One entry alone at its position. -/
/-! ### Made matrices -/
/- What is packed is a valid matrix. -/
theorem qko (hE : EntsOK r c es) (hr : r ≤ 200) (hc : c ≤ 200) (ha : c * r ≤ 10000) : MV r c (packS es r c) (packI es r c) (packV es r c) := ⟨ql4 hr hc ha,q1b _ _ _,qla hE hr hc ha⟩
end Go.Vs.F

/-! MxTg -/
set_option linter.unusedVariables false
set_option linter.unusedSimpArgs false
set_option maxRecDepth 100000
namespace Go.Vs.F
section
variable {R C : Nat} {S I V : List Int}
/- Packing what is a permutation of the entries gives the matrix back. -/
end
end Go.Vs.F

/-! MxTh -/
set_option linter.unusedVariables false
set_option linter.unusedSimpArgs false
set_option maxRecDepth 100000
namespace Go.Vs.F
/-! ### Bisection -/
theorem BS_L0 (m : Nat) {xs : List Int} {t a : Int} (hl : xs.length ≤ 100000) (ha : ∀ i j,i < j → j < xs.length → xs.getD i 0 < xs.getD j 0) : ∀ (n i j : Nat),j - i < n → i ≤ j → j ≤ xs.length → (∀ k,k < i → xs.getD k 0 < t) → (∀ k,j ≤ k → k < xs.length → t ≤ xs.getD k 0) →
    ∃ r : Nat,g143_L0 m n xs t a (i : Int) (j : Int) = some (.inl (xs,t,a,(r : Int),())) ∧ r ≤ xs.length ∧ (∀ k,k < r → xs.getD k 0 < t) ∧ ∀ k,r ≤ k → k < xs.length → t ≤ xs.getD k 0
  | 0,i,j,h,_,_,_,_ => by omega
  | n + 1,i,j,h,hij,hj,h1,h2 => by
    rw [g143_L0,q4r (by omega),bif_decide]
    by_cases hlt : i < j
    · have c1 : (0 : Int) ≤ (((i + j) / 2 : Nat) : Int) ∧ (((i + j) / 2 : Nat) : Int) < (xs.length : Int) := by omega
      rw [if_pos (by omega),if_pos c1,Int.toNat_natCast,g186]
      simp only [g168,Option.bind_some,bif_ne,if_true]
      by_cases hp : xs.getD ((i + j) / 2) 0 < t
      · rw [decide_eq_true hp]
        simp only [cond_true]
        rw [show w_i64 ((((i + j) / 2 : Nat) : Int) + 1) = (((i + j) / 2 + 1 : Nat) : Int) from wsucc (by omega)]
        refine BS_L0 m hl ha n _ _ (by omega) (by omega) hj (fun k hk => ?_) h2
        by_cases e : k = (i + j) / 2
        · subst e; exact hp
        · have := ha k ((i + j) / 2) (by omega) (by omega); omega
      · rw [decide_eq_false hp]
        simp only [cond_false]
        refine BS_L0 m hl ha n _ _ (by omega) (by omega) (by omega) h1 (fun k hk hkl => ?_)
        by_cases e : k = (i + j) / 2
        · subst e; omega
        · have := ha ((i + j) / 2) k (by omega) hkl; omega
    · rw [if_neg (by omega)]
      have : i = j := by omega
      subst this
      exact ⟨i,rfl,hj,h1,h2⟩
theorem qgs {m : Nat} {xs : List Int} {k : Nat} (hl : xs.length ≤ 100000) (hm : 100001 < m) (ha : ∀ i j,i < j → j < xs.length → xs.getD i 0 < xs.getD j 0) (hk : k < xs.length) : g143 m xs (xs.getD k 0) = some (((k : Int),true,()),(),(),()) := by
  obtain ⟨r,e,h1,h2,h3⟩ := BS_L0 m (t := xs.getD k 0) (a := (xs.length : Int)) hl ha m 0 xs.length (by omega) (by omega) (Nat.le_refl _) (fun k hk => absurd hk (Nat.not_lt_zero _)) (fun k a b => by omega)
  rw [Int.natCast_zero] at e
  have : r = k := by
    rcases Nat.lt_trichotomy r k with q | q | q
    · have g1 := h3 r (Nat.le_refl _) (by omega)
      have g2 := ha r k q hk
      omega
    · exact q
    · have := h2 k q; omega
  subst this
  have c1 : (0 : Int) ≤ (r : Int) ∧ (r : Int) < (xs.length : Int) := by omega
  rw [g143,e,Option.bind_some]
  dsimp only
  rw [bif_decide,if_pos (by omega),if_pos c1,Int.toNat_natCast,bif_eq,if_pos rfl]
section
variable {R C : Nat} {S I V : List Int}
theorem qhq {m : Nat} (hm : 3000000 < m) (h : MV R C S I V) {i j v : Int} (he : ((i,(j,v)) : Ent) ∈ ents S I V C 0) : g85 m (R : Int) (C : Int) S I V i j = some ((v,true,()),(),(),(),()) := by
  obtain ⟨j',t,_,hj,t1,t2,e⟩ := Zi.1 he
  simp only [Prod.mk.injEq] at e
  obtain ⟨e1,e2,e3⟩ := e
  subst e2
  have hjC : j' < C := by omega
  have hl := h.ok.st.len
  have hsz := h.ok.sz
  have hcz := h.ok.cz
  have hvl := h.vl
  have a := h.ok.st.rng (j := j') (by omega)
  have b := h.ok.st.rng (j := j' + 1) (by omega)
  have mo := h.ok.st.mono j' hjC
  have c1 : (0 : Int) ≤ (j' : Int) ∧ (j' : Int) < (S.length : Int) := by omega
  have c2 : (0 : Int) ≤ ((j' + 1 : Nat) : Int) ∧ ((j' + 1 : Nat) : Int) < (S.length : Int) := by omega
  have c3 : (0 : Int) ≤ S.getD j' 0 ∧ S.getD j' 0 ≤ S.getD (j' + 1) 0 ∧ S.getD (j' + 1) 0 ≤ (I.length : Int) := by omega
  have hcl := Yi h.ok.st hjC
  have hk : t - (S.getD j' 0).toNat < (colOf S I j').length := by omega
  have hcg : ∀ k,k < (colOf S I j').length → (colOf S I j').getD k 0 = I.getD ((S.getD j' 0).toNat + k) 0 := fun k hk => q1e h.ok.st hjC hk
  have hbs := qgs (m := m) (xs := colOf S I j') (k := t - (S.getD j' 0).toNat) (by omega) (by omega) (fun x y hxy hy => by
    rw [hcg x (by omega),hcg y hy]
    have := h.ok.asc hjC (y - x - 1) ((S.getD j' 0).toNat + x) (by omega) (by omega)
    rw [show (S.getD j' 0).toNat + x + (y - x - 1 + 1) = (S.getD j' 0).toNat + y by omega] at this
    exact this) hk
  rw [hcg _ hk,show (S.getD j' 0).toNat + (t - (S.getD j' 0).toNat) = t by omega,← e1] at hbs
  have w1 : w_i64 (S.getD j' 0 + ((t - (S.getD j' 0).toNat : Nat) : Int)) = (t : Int) := by rw [w_i64_eq,wi (by omega) (by omega)]; omega
  have c4 : (0 : Int) ≤ (t : Int) ∧ (t : Int) < (V.length : Int) := by omega
  rw [g85,if_pos c1,show w_i64 ((j' : Int) + 1) = ((j' + 1 : Nat) : Int) from wsucc (by omega),if_pos c2]
  simp only [Int.toNat_natCast]
  rw [if_pos c3]
  have hbs' : g143 m ((I.drop (S.getD j' 0).toNat).take ((S.getD (j' + 1) 0).toNat - (S.getD j' 0).toNat)) i = some ((((t - (S.getD j' 0).toNat : Nat) : Int),true,()),(),(),()) := hbs
  rw [hbs',Option.bind_some]
  simp only [Bool.not_true,cond_false]
  rw [if_pos c1,w1,if_pos c4,Int.toNat_natCast,← e3]
end
/-! ### Symmetric made matrices -/
end Go.Vs.F
