/- Matrices: checks, entries, building, permuting (turned from the matching laws). -/
import Derived.Test.YtjjndhlkoehkdaaGreatDoorVc
import Derived.Test.YtjjndhlkoehkdaaGreatDoorFn

/-! MyLa -/
set_option linter.unusedVariables false
set_option linter.unusedSimpArgs false
set_option maxRecDepth 100000
namespace Go.Vs.F
section
theorem qec (m : Nat) (a b : List Int) (hl : a.length = b.length) (hb : a.length < 4611686018427387904) : ∀ (n k : Nat),a.length - k < n →
    g56_L0 m n a b (k : Int) = some (if a.drop k = b.drop k then .inr (.inl ()) else .inl (false,()))
  | 0,k,h => by omega
  | n + 1,k,h => by
    rw [g56_L0]
    by_cases hk : k < a.length
    · have hk' : k < b.length := by omega
      have h1 : ((k : Int) < (a.length : Int)) := by omega
      have h2 : ((k : Int) < (b.length : Int)) := by omega
      simp only [bif_decide,h1,h2,if_true,bif_ne,Int.toNat_natCast,Int.natCast_nonneg,and_self,wsucc (show k < 4611686018427387904 by omega)]
      rw [drop_cons (d := 0) hk,drop_cons (d := 0) hk',qec m a b hl hb n (k + 1) (by omega)]
      by_cases e : a.getD k 0 = b.getD k 0
      · simp only [e,if_true,List.cons.injEq,true_and]
      · simp only [e,if_false,List.cons.injEq,false_and]
    · have h1 : ¬ ((k : Int) < (a.length : Int)) := by omega
      simp only [bif_decide,h1,if_false]
      rw [drop_nil' hk,drop_nil' (by omega : ¬ k < b.length)]; simp
theorem qh9 {m : Nat} {a b : List Int} (h : a.length < m) (hb : a.length < 4611686018427387904) : g56 m a b = some (decide (a = b),(),(),()) := by
  rw [g56]
  by_cases hl : a.length = b.length
  · have := qec m a b hl hb m 0 (by omega)
    simp only [Int.natCast_zero,Int.ofNat_zero,Int.cast_ofNat_Int] at this
    have h1 : (a.length : Int) = (b.length : Int) := by omega
    simp only [h1,bif_ne,if_true,List.drop_zero] at this ⊢
    rw [this]
    by_cases e : a = b <;> simp [e]
  · have h1 : ¬ (a.length : Int) = (b.length : Int) := by omega
    have e : ¬ a = b := fun e => hl (by rw [e])
    simp only [bif_ne,h1,if_false,e,decide_false]
theorem qgl {x : Int} : 0 ≤ qp .u64 x 2047 ∧ qp .u64 x 2047 < 2048 := by
  unfold qp
  have h : (BitVec.ofInt IntKind.u64.bits x &&& BitVec.ofInt IntKind.u64.bits 2047).toNat < 2048 := by
    rw [BitVec.toNat_and]
    have : (BitVec.ofInt IntKind.u64.bits 2047).toNat = 2047 := by decide
    rw [this]
    exact Nat.lt_of_le_of_lt Nat.and_le_right (by decide)
  generalize (BitVec.ofInt IntKind.u64.bits x &&& BitVec.ofInt IntKind.u64.bits 2047).toNat = y at h
  rw [wu (by omega) (by omega)]; omega
def finB (x : Int) : Bool := qp .u64 (shr_ .u64 x 52) 2047 != 2047
theorem q3s {m : Nat} {x : Int} : g58 m x = some (finB x,(),()) := by
  rw [g58,g81]
  have := qgl (x := shr_ .u64 x 52)
  simp only [Option.bind_some,wi (show (-9223372036854775808 : Int) ≤ qp .u64 (shr_ .u64 x 52) 2047 by omega) (by omega)]
  rfl
def finL (a : List Int) : Bool := q64 (fun i => finB (a.getD i 0)) 0 a.length
end
section
def le2 (S : List Int) (i : Nat) : Bool := decide (S.getD i 0 ≤ S.getD (i + 1) 0)
def entOK (R : Int) (S I : List Int) (j k : Nat) : Bool :=
  decide (0 ≤ I.getD k 0) && decide (I.getD k 0 < R) && (!decide ((S.getD j 0).toNat < k) || decide (I.getD (k - 1) 0 < I.getD k 0))
def qi5 (R : Int) (S I : List Int) (j : Nat) : Bool := q64 (entOK R S I j) (S.getD j 0).toNat (S.getD (j + 1) 0).toNat
def strB (R C : Int) (S I V : List Int) : Bool :=
  decide ((S.length : Int) = C + 1) && decide (S.getD 0 0 = 0) && q64 (le2 S) 0 C.toNat && decide (S.getD C.toNat 0 = (I.length : Int)) && decide (I.length = V.length) && q64 (fun j => qi5 R S I j) 0 C.toNat
def chk (R C : Int) (S I V : List Int) : Int :=
  if (decide (0 ≤ R) && decide (R ≤ 200) && decide (0 ≤ C) && decide (C ≤ 200) && decide (I.length ≤ 10000)) = false then 6 else if strB R C S I V = false then 1 else if finL V = false then 4 else 0
theorem Yx {m : Nat} {n lo hi : Int} : g57 m n lo hi = some (decide (lo ≤ n) && decide (n ≤ hi),(),(),(),()) := by
  rw [g57]
  by_cases h : n ≥ lo
  · have : lo ≤ n := h
    simp [h,this]
  · have : ¬ lo ≤ n := h
    simp [h,this]
end
section
end
section
end
section
end
section
end
section
theorem q3k {xs : List Int} {k : Nat} (h : k < xs.length) : xs.getD k 0 ∈ xs := by simp [List.getD,h]
section
variable {E : List (List Int)} {R C : Nat}
end
end
section
section
variable {R C : Nat} {S I V : List Int}
end
end
section
theorem tm (x n : Nat) : Int.tmod (x : Int) (n : Int) = ((x % n : Nat) : Int) := by
  rw [Int.tmod_eq_emod_of_nonneg (by omega)]; rfl
end
section
abbrev Ent := Int × Int × Int
def Qi (es : List Ent) (i j : Nat) : Nat → Nat
  | 0 => 0
  | t + 1 => if (es.getD t (0,(0,0))).1 = (i : Int) ∧ (es.getD t (0,(0,0))).2.1 = (j : Int) then t + 1 else Qi es i j t
theorem qek (es : List Ent) (i j : Nat) : ∀ t,Qi es i j t ≤ t
  | 0 => Nat.le_refl _
  | t + 1 => by
    rw [Qi]; split
    · exact Nat.le_refl _
    · exact Nat.le_succ_of_le (qek es i j t)
def EntsOK (r c : Nat) (es : List Ent) : Prop := ∀ k,k < es.length →
  (0 ≤ (es.getD k (0,(0,0))).1 ∧ (es.getD k (0,(0,0))).1 < (r : Int)) ∧ (0 ≤ (es.getD k (0,(0,0))).2.1 ∧ (es.getD k (0,(0,0))).2.1 < (c : Int)) ∧ finB (es.getD k (0,(0,0))).2.2 = true
theorem cell {r c i j : Nat} (hi : i < r) (hj : j < c) : j * r + i < r * c := by
  have h1 : (j + 1) * r ≤ c * r := Nat.mul_le_mul_right r hj
  have h2 := Nat.succ_mul j r
  have h3 := Nat.mul_comm r c
  simp only [Nat.succ_eq_add_one] at h2
  omega
variable {es : List Ent} {r c : Nat}
def colR (es : List Ent) (j i d : Nat) : List Nat := (List.range' i d).filter fun i => decide (0 < Qi es i j es.length)
def colI (es : List Ent) (j i d : Nat) : List Int := (colR es j i d).map fun i : Nat => (i : Int)
def colV (es : List Ent) (j i d : Nat) : List Int := (colR es j i d).map fun i : Nat => (es.getD (Qi es i j es.length - 1) (0,(0,0))).2.2
theorem qgb {j i d : Nat} : (colR es j i d).length ≤ d := by
  have := List.length_filter_le (fun i => decide (0 < Qi es i j es.length)) (List.range' i d)
  simpa [colR] using this
def packI (es : List Ent) (r : Nat) : Nat → List Int
  | 0 => []
  | j + 1 => packI es r j ++ colI es j 0 r
def packV (es : List Ent) (r : Nat) : Nat → List Int
  | 0 => []
  | j + 1 => packV es r j ++ colV es j 0 r
def packS (es : List Ent) (r j : Nat) : List Int := (List.range (j + 1)).map fun t => ((packI es r t).length : Int)
theorem q83 (es : List Ent) (r : Nat) : ∀ j,(packI es r j).length ≤ j * r
  | 0 => by simp [packI]
  | j + 1 => by
    have := q83 es r j
    have h2 := qgb (es := es) (j := j) (i := 0) (d := r)
    rw [Nat.succ_mul]
    simp only [packI,List.length_append,colI,List.length_map]; omega
end
section
variable {es : List Ent} {r c : Nat}
end
section
end
section
abbrev zE : Ent := (0,(0,0))
def ltE (x y : Ent) : Bool := decide (x.2.1 < y.2.1) || (decide (x.2.1 = y.2.1) && decide (x.1 < y.1))
theorem q1p {m : Nat} (x y : Int) : g121 m x y = some (if x < y then -1 else if x > y then 1 else 0,(),(),()) := by
  simp only [g121,g168,Option.bind_some,bne_self_eq_false,cond_false,bif_decide]
  by_cases h : x < y
  · simp [h]
  · by_cases h2 : x > y
    · simp [h,h2]
    · simp [h,h2]
theorem Or_eq {m : Nat} (hm : 2 < m) (a b : Int) : g120 m [a,b] = some (if a = 0 then b else a,(),()) := by
  obtain ⟨n,rfl⟩ : ∃ n,m = n + 3 := ⟨m - 3,by omega⟩
  have e1 : w_i64 1 = 1 := by decide
  have e2 : w_i64 2 = 2 := by decide
  by_cases h : a = 0
  · subst h
    by_cases h2 : b = 0
    · subst h2
      simp [g120,g120_L0,-w_i64_eq,e1,e2]
    · simp [g120,g120_L0,-w_i64_eq,e1,e2,h2]
  · simp [g120,g120_L0,h]
theorem Zb {m : Nat} (hm : 2 < m) (x y : Ent) : ∃ c,g119 m x.1 x.2.1 x.2.2 y.1 y.2.1 y.2.2 = some (c,(),(),()) ∧ decide (c < 0) = ltE x y := by
  rw [g119,q1p,Option.bind_some,q1p,Option.bind_some,Or_eq hm]
  refine ⟨_,rfl,?_⟩
  unfold ltE
  rcases Int.lt_trichotomy x.2.1 y.2.1 with h | h | h
  · simp [h]
  · have h1 : ¬ x.2.1 < y.2.1 := by omega
    have h2 : ¬ x.2.1 > y.2.1 := by omega
    rcases Int.lt_trichotomy x.1 y.1 with g | g | g
    · simp [h,g]
    · simp [h,g]
    · have g1 : ¬ x.1 < y.1 := by omega
      simp [h,g,g1]
  · have h1 : ¬ x.2.1 < y.2.1 := by omega
    have h2 : ¬ x.2.1 = y.2.1 := by omega
    simp [h,h1,h2]
theorem getD_at {α : Type} {P Q : List α} {x z : α} {k : Nat} (h : k = P.length) : (P ++ x :: Q).getD k z = x := by
  subst h; simp [List.getD]
theorem q29 {α : Type} {P Q : List α} {x y : α} {k : Nat} (h : k = P.length) : (P ++ x :: Q).set k y = P ++ y :: Q := by
  subst h; simp
def leE (x y : Ent) : Prop := ltE y x = false
theorem X0 {x y z : Ent} (h1 : leE x y) (h2 : leE y z) : leE x z := by
  unfold leE ltE at *
  simp only [Bool.or_eq_false_iff,decide_eq_false_iff_not,Bool.and_eq_false_iff] at *
  omega
theorem Yw {x y : Ent} (h : ltE x y = true) : leE x y := by
  unfold leE ltE at *
  simp only [Bool.or_eq_false_iff,decide_eq_false_iff_not,Bool.and_eq_false_iff,Bool.or_eq_true,decide_eq_true_eq,Bool.and_eq_true] at *
  omega
theorem qga (x : Ent) : leE x x := by
  unfold leE ltE
  simp
abbrev Srt (l : List Ent) : Prop := l.Pairwise leE
def Xr (x : Ent) : List Ent → List Ent
  | [] => [x]
  | y :: r => if ltE x y = true then y :: Xr x r else x :: y :: r
theorem q00 (x : Ent) : ∀ r,List.Perm (Xr x r) (x :: r)
  | [] => List.Perm.refl _
  | y :: r => by
    unfold Xr
    split
    · exact ((q00 x r).cons y).trans (List.Perm.swap ..)
    · exact List.Perm.refl _
theorem q4w (x : Ent) : ∀ r : List Ent,r.Pairwise (fun a b => leE b a) → (Xr x r).Pairwise (fun a b => leE b a)
  | [],_ => by simp [Xr]
  | y :: r,h => by
    rw [List.pairwise_cons] at h
    unfold Xr
    split
    · rename_i hlt
      refine List.pairwise_cons.2 ⟨fun a ha => ?_,q4w x r h.2⟩
      rcases List.mem_cons.1 ((q00 x r).mem_iff.1 ha) with rfl | ha
      · exact Yw hlt
      · exact h.1 a ha
    · rename_i hlt
      have hle : leE y x := by simpa [leE] using hlt
      refine List.pairwise_cons.2 ⟨fun a ha => ?_,List.pairwise_cons.2 h⟩
      rcases List.mem_cons.1 ha with rfl | ha
      · exact hle
      · exact X0 (h.1 a ha) hle
theorem qgj (m : Nat) (hm : 2 < m) (P : List Ent) (x : Ent) (b i : Int) : ∀ (r Q : List Ent) (n : Nat),r.length < n → P.length + r.length + Q.length < 1000000000 →
    g192_L1 m n (P ++ r.reverse ++ x :: Q) (P.length : Int) b i ((P.length + r.length : Nat) : Int) = some (.inl (P ++ (Xr x r).reverse ++ Q,(P.length : Int),b,(),i,()))
  | r,Q,0,h,_ => absurd h (Nat.not_lt_zero _)
  | [],Q,n + 1,_,hb => by
    simp only [g192_L1,bif_decide]
    rw [if_neg (by simp)]
    simp [Xr]
  | y :: r,Q,n + 1,h,hb => by
    simp only [List.length_cons] at h hb
    have hd : P ++ (y :: r).reverse ++ x :: Q = (P ++ r.reverse) ++ y :: x :: Q := by simp
    have hd2 : P ++ (y :: r).reverse ++ x :: Q = (P ++ (y :: r).reverse) ++ x :: Q := rfl
    have hl1 : (P ++ r.reverse).length = P.length + r.length := by simp
    have hl2 : (P ++ (y :: r).reverse).length = P.length + r.length + 1 := by simp; omega
    have hlen : (P ++ (y :: r).reverse ++ x :: Q).length = P.length + r.length + 2 + Q.length := by simp; omega
    have ej : ((P.length + (y :: r).length : Nat) : Int) = ((P.length + r.length + 1 : Nat) : Int) := by simp; omega
    have ew : w_i64 (((P.length + r.length + 1 : Nat) : Int) - 1) = ((P.length + r.length : Nat) : Int) := by rw [w_i64_eq,wi (by omega) (by omega)]; omega
    have gx : (P ++ (y :: r).reverse ++ x :: Q).getD (0 + ((P.length + r.length + 1 : Nat) : Int).toNat) zE = x := getD_at (by rw [hl2]; omega)
    have gy : (P ++ (y :: r).reverse ++ x :: Q).getD (0 + ((P.length + r.length : Nat) : Int).toNat) zE = y := by rw [hd]; exact getD_at (by rw [hl1]; omega)
    obtain ⟨c,hc1,hc2⟩ := Zb hm x y
    rw [ej]
    simp only [g192_L1,ew,gx,gy,hc1,Option.bind_some,List.length_set]
    rw [hlen,hc2]
    simp only [bif_decide]
    rw [if_pos (by omega),if_pos (by omega),if_pos (by omega)]
    cases hlt : ltE x y with
    | false =>
      simp only [cond_false,Xr,hlt]
      simp
    | true =>
      simp only [cond_true]
      rw [if_pos (by omega),if_pos (by omega),if_pos (by omega),if_pos (by omega)]
      have hs : ((P ++ (y :: r).reverse ++ x :: Q).set (0 + ((P.length + r.length + 1 : Nat) : Int).toNat) y).set (0 + ((P.length + r.length : Nat) : Int).toNat) x = P ++ r.reverse ++ x :: (y :: Q) := by
        rw [q29 (by rw [hl2]; omega)]
        rw [show P ++ (y :: r).reverse ++ y :: Q = (P ++ r.reverse) ++ y :: y :: Q by simp]
        rw [q29 (by rw [hl1]; omega)]
      show g192_L1 m n (((P ++ (y :: r).reverse ++ x :: Q).set (0 + ((P.length + r.length + 1 : Nat) : Int).toNat) y).set (0 + ((P.length + r.length : Nat) : Int).toNat) x) _ _ _ _ = _
      rw [hs,qgj m hm P x b i r (y :: Q) n (by omega) (by simp only [List.length_cons]; omega)]
      simp [Xr,hlt]
theorem qgf (m : Nat) (hm2 : 2 < m) (P Q : List Ent) (hb : P.length + Q.length < 400000000) : ∀ (T S : List Ent) (n : Nat),T.length < n → S.length + T.length < m → S.length + T.length < 400000000 → Srt S →
    ∃ S',g192_L0 m n (P ++ S ++ T ++ Q) (P.length : Int) ((P.length + S.length + T.length : Nat) : Int) ((P.length + S.length : Nat) : Int) = some (.inl (P ++ S' ++ Q,())) ∧ Srt S' ∧ List.Perm S' (S ++ T)
  | T,S,0,h,_,_,_ => absurd h (Nat.not_lt_zero _)
  | [],S,n + 1,_,_,_,hS => by
    refine ⟨S,?_,hS,by simp⟩
    simp only [g192_L0,bif_decide]
    rw [if_neg (by simp)]
    simp
  | x :: T,S,n + 1,h,hm,hl,hS => by
    simp only [List.length_cons] at h hm hl
    have hs := q4w x S.reverse (List.pairwise_reverse.2 hS)
    have hp := q00 x S.reverse
    have hlen : (Xr x S.reverse).length = S.length + 1 := by rw [hp.length_eq]; simp
    obtain ⟨S',e1,e2,e3⟩ := qgf m hm2 P Q hb T (Xr x S.reverse).reverse n (by omega) (by simp [hlen]; omega) (by simp [hlen]; omega) (List.pairwise_reverse.2 hs)
    refine ⟨S',?_,e2,e3.trans ?_⟩
    · simp only [g192_L0,bif_decide]
      rw [if_pos (by simp only [List.length_cons]; omega)]
      have h1 := qgj m hm2 P x ((P.length + S.length + (x :: T).length : Nat) : Int) ((P.length + S.length : Nat) : Int) S.reverse (T ++ Q) m (by simp; omega) (by simp; omega)
      simp only [List.reverse_reverse,List.length_reverse] at h1
      rw [show P ++ S ++ (x :: T) ++ Q = P ++ S ++ x :: (T ++ Q) by simp,h1]
      simp only [Option.bind_some]
      rw [show w_i64 (((P.length + S.length : Nat) : Int) + 1) = ((P.length + (Xr x S.reverse).reverse.length : Nat) : Int) by
        rw [w_i64_eq,wi (by omega) (by omega)]; simp [hlen]; omega]
      rw [show P ++ (Xr x S.reverse).reverse ++ (T ++ Q) = P ++ (Xr x S.reverse).reverse ++ T ++ Q by simp]
      rw [show ((P.length + S.length + (x :: T).length : Nat) : Int) = ((P.length + (Xr x S.reverse).reverse.length + T.length : Nat) : Int) by simp [hlen]; omega]
      exact e1
    · refine List.Perm.append ((List.reverse_perm _).trans hp) (List.Perm.refl T) |>.trans ?_
      simp only [List.cons_append]
      exact (List.perm_middle.symm).trans (List.Perm.append (List.reverse_perm S) (List.Perm.refl _)) |>.trans (List.Perm.refl _)
theorem q89 {m : Nat} (P T Q : List Ent) (hb : P.length + Q.length < 400000000) (hm : T.length + 1 < m) (hl : T.length < 400000000) (h0 : T ≠ []) :
    ∃ S',g192 m (P ++ T ++ Q) (P.length : Int) ((P.length + T.length : Nat) : Int) = some ((),(P ++ S' ++ Q,(),(),(),())) ∧ Srt S' ∧ List.Perm S' T := by
  cases T with
  | nil => exact absurd rfl h0
  | cons x T =>
    simp only [List.length_cons] at hm hl
    obtain ⟨S',e1,e2,e3⟩ := qgf m (by omega) P Q hb T [x] m (by omega) (by simp; omega) (by simp; omega) (by simp)
    refine ⟨S',?_,e2,e3⟩
    rw [g192]
    rw [show w_i64 ((P.length : Int) + 1) = ((P.length + [x].length : Nat) : Int) by rw [w_i64_eq,wi (by omega) (by omega)]; simp]
    rw [show P ++ (x :: T) ++ Q = P ++ [x] ++ T ++ Q by simp]
    rw [show ((P.length + (x :: T).length : Nat) : Int) = ((P.length + [x].length + T.length : Nat) : Int) by simp; omega,e1]
    rfl
end
section
theorem swap2 {P M Q : List Ent} {x y : Ent} {i j : Nat} (hi : i = P.length) (hj : j = P.length + 1 + M.length) :
    ((P ++ x :: (M ++ y :: Q)).set i y).set j x = P ++ y :: (M ++ x :: Q) := by
  rw [q29 hi,show P ++ y :: (M ++ y :: Q) = (P ++ y :: M) ++ y :: Q by simp,q29 (by simp; omega)]
  simp
theorem get2 {P M Q : List Ent} {x y : Ent} {j : Nat} (hj : j = P.length + 1 + M.length) : (P ++ x :: (M ++ y :: Q)).getD j zE = y := by
  rw [show P ++ x :: (M ++ y :: Q) = (P ++ x :: M) ++ y :: Q by simp]
  exact getD_at (by simp; omega)
theorem q27 (m : Nat) (P M Q : List Ent) : ∀ (A2 B2 A1 B1 : List Ent) (n : Nat),A2.length < n → A1.length = B1.length → A2.length = B2.length →
    P.length + 2 * (A1.length + A2.length) + M.length + Q.length < 1000000000 →
    g204_L0 m n (P ++ B1 ++ A2 ++ M ++ A1 ++ B2 ++ Q) (P.length : Int) ((P.length + A1.length + A2.length + M.length : Nat) : Int) ((A1.length + A2.length : Nat) : Int) (A1.length : Int) =
      some (.inl (P ++ (B1 ++ B2) ++ M ++ (A1 ++ A2) ++ Q,()))
  | A2,B2,A1,B1,0,h,_,_,_ => absurd h (Nat.not_lt_zero _)
  | [],B2,A1,B1,n + 1,_,h1,h2,_ => by
    have : B2 = [] := List.length_eq_zero_iff.1 h2.symm
    subst this
    simp only [g204_L0,bif_decide]
    rw [if_neg (by simp)]
    simp
  | x :: A2,[],A1,B1,n + 1,_,_,h2,_ => by simp at h2
  | x :: A2,y :: B2,A1,B1,n + 1,h,h1,h2,hb => by
    simp only [List.length_cons] at h h2 hb
    have hd : P ++ B1 ++ x :: A2 ++ M ++ A1 ++ y :: B2 ++ Q = (P ++ B1) ++ x :: ((A2 ++ M ++ A1) ++ y :: (B2 ++ Q)) := by simp
    have hlen : ((P ++ B1) ++ x :: ((A2 ++ M ++ A1) ++ y :: (B2 ++ Q))).length = P.length + 2 * (A1.length + (A2.length + 1)) + M.length + Q.length := by simp; omega
    have ea : w_i64 ((P.length : Int) + (A1.length : Int)) = ((P.length + A1.length : Nat) : Int) := by rw [w_i64_eq,wi (by omega) (by omega)]; omega
    have eb : w_i64 (((P.length + A1.length + (x :: A2).length + M.length : Nat) : Int) + (A1.length : Int)) = ((P.length + A1.length + (A2.length + 1) + M.length + A1.length : Nat) : Int) := by
      rw [w_i64_eq,wi (by simp only [List.length_cons]; omega) (by simp only [List.length_cons]; omega)]; simp only [List.length_cons]; omega
    have ei : w_i64 ((A1.length : Int) + 1) = ((A1 ++ [x]).length : Int) := by rw [w_i64_eq,wi (by omega) (by omega)]; simp
    have gx : ((P ++ B1) ++ x :: ((A2 ++ M ++ A1) ++ y :: (B2 ++ Q))).getD (0 + ((P.length + A1.length : Nat) : Int).toNat) zE = x := getD_at (by simp; omega)
    have gy : ((P ++ B1) ++ x :: ((A2 ++ M ++ A1) ++ y :: (B2 ++ Q))).getD (0 + ((P.length + A1.length + (A2.length + 1) + M.length + A1.length : Nat) : Int).toNat) zE = y := get2 (by simp; omega)
    have hs := swap2 (P := P ++ B1) (M := A2 ++ M ++ A1) (Q := B2 ++ Q) (x := x) (y := y) (i := 0 + ((P.length + A1.length : Nat) : Int).toNat) (j := 0 + ((P.length + A1.length + (A2.length + 1) + M.length + A1.length : Nat) : Int).toNat) (by simp; omega) (by simp; omega)
    rw [hd]
    simp only [g204_L0,bif_decide,ea,eb,ei,gx,gy,List.length_set]
    rw [hlen,if_pos (by simp only [List.length_cons]; omega),if_pos (by omega),if_pos (by omega),if_pos (by omega),if_pos (by omega)]
    show g204_L0 m n ((((P ++ B1) ++ x :: ((A2 ++ M ++ A1) ++ y :: (B2 ++ Q))).set (0 + ((P.length + A1.length : Nat) : Int).toNat) y).set (0 + ((P.length + A1.length + (A2.length + 1) + M.length + A1.length : Nat) : Int).toNat) x) _ _ _ _ = _
    rw [hs]
    have ih := q27 m P M Q A2 B2 (A1 ++ [x]) (B1 ++ [y]) n (by omega) (by simp [h1]) (by omega) (by simp; omega)
    rw [show P ++ B1 ++ y :: (A2 ++ M ++ A1 ++ x :: (B2 ++ Q)) = P ++ (B1 ++ [y]) ++ A2 ++ M ++ (A1 ++ [x]) ++ B2 ++ Q by simp]
    rw [show ((P.length + A1.length + (x :: A2).length + M.length : Nat) : Int) = ((P.length + (A1 ++ [x]).length + A2.length + M.length : Nat) : Int) by simp; omega]
    rw [show ((A1.length + (x :: A2).length : Nat) : Int) = (((A1 ++ [x]).length + A2.length : Nat) : Int) by simp; omega]
    rw [ih]
    simp
theorem Ja {m : Nat} (P A M B Q : List Ent) (h : A.length = B.length) (hm : A.length < m) (hb : P.length + 2 * A.length + M.length + Q.length < 1000000000) {a b n : Int}
    (ha : a = (P.length : Int)) (hbb : b = ((P.length + A.length + M.length : Nat) : Int)) (hn : n = (A.length : Int)) :
    g204 m (P ++ A ++ M ++ B ++ Q) a b n = some ((),(P ++ B ++ M ++ A ++ Q,(),(),(),(),())) := by
  subst ha hbb hn
  have := q27 m P M Q A B [] [] m hm rfl h (by simpa using hb)
  simp only [List.append_nil,List.nil_append,List.length_nil,Nat.add_zero,Nat.zero_add] at this
  rw [g204,show ((0 : Int)) = ((0 : Nat) : Int) from rfl,this]
  rfl
theorem q3j (m : Nat) : ∀ (n : Nat) (P A B Q : List Ent),A.length + B.length < n → A.length + B.length < m → 0 < A.length → 0 < B.length → P.length + A.length + B.length + Q.length < 1000000000 →
    ∃ (P' A' B' Q' : List Ent),g201_L0 m n (P ++ A ++ B ++ Q) ((P.length + A.length : Nat) : Int) (A.length : Int) (B.length : Int) = some (.inl (P' ++ A' ++ B' ++ Q',((P.length + A.length : Nat) : Int),(),(A'.length : Int),())) ∧
      A'.length = B'.length ∧ 0 < A'.length ∧ P'.length + A'.length = P.length + A.length ∧ P' ++ B' ++ A' ++ Q' = P ++ B ++ A ++ Q ∧ A'.length ≤ A.length
  | 0,P,A,B,Q,h,_,_,_,_ => absurd h (Nat.not_lt_zero _)
  | n + 1,P,A,B,Q,h,hm,hA,hB,hb => by
    simp only [g201_L0,bif_ne,bif_decide]
    by_cases e : (A.length : Int) = (B.length : Int)
    · rw [if_pos e]
      exact ⟨P,A,B,Q,rfl,by omega,hA,rfl,rfl,Nat.le_refl _⟩
    · rw [if_neg e]
      by_cases hgt : (A.length : Int) > (B.length : Int)
      · rw [if_pos hgt]
        have hsp : A = A.take B.length ++ A.drop B.length := (List.take_append_drop _ _).symm
        have l1 : (A.take B.length).length = B.length := by simp; omega
        have l2 : (A.drop B.length).length = A.length - B.length := by simp
        generalize A.take B.length = A1 at *
        generalize A.drop B.length = A2 at *
        subst hsp
        simp only [List.length_append] at *
        have hsw := Ja (m := m) P A1 A2 B Q l1 (by omega) (by omega) (a := w_i64 (((P.length + (A1.length + A2.length) : Nat) : Int) - ((A1.length + A2.length : Nat) : Int))) (b := ((P.length + (A1.length + A2.length) : Nat) : Int)) (n := (B.length : Int))
          (by rw [w_i64_eq,wi (by omega) (by omega)]; omega) (by omega) (by omega)
        rw [show P ++ (A1 ++ A2) ++ B ++ Q = P ++ A1 ++ A2 ++ B ++ Q by simp,hsw]
        simp only [Option.bind_some]
        obtain ⟨P',A',B',Q',e1,e2,e3,e4,e5,e6⟩ := q3j m n (P ++ B) A2 A1 Q (by omega) (by omega) (by omega) (by omega) (by simp; omega)
        refine ⟨P',A',B',Q',?_,e2,e3,by simp at e4; omega,?_,by omega⟩
        · rw [show w_i64 (((A1.length + A2.length : Nat) : Int) - (B.length : Int)) = (A2.length : Int) by rw [w_i64_eq,wi (by omega) (by omega)]; omega]
          rw [show ((P.length + (A1.length + A2.length) : Nat) : Int) = (((P ++ B).length + A2.length : Nat) : Int) by simp; omega,show (B.length : Int) = (A1.length : Int) by omega]
          exact e1
        · rw [e5]; simp
      · rw [if_neg hgt]
        have hsp : B = B.take (B.length - A.length) ++ B.drop (B.length - A.length) := (List.take_append_drop _ _).symm
        have l1 : (B.take (B.length - A.length)).length = B.length - A.length := by simp
        have l2 : (B.drop (B.length - A.length)).length = A.length := by simp; omega
        generalize B.take (B.length - A.length) = B1 at *
        generalize B.drop (B.length - A.length) = B2 at *
        subst hsp
        simp only [List.length_append] at *
        have hsw := Ja (m := m) P A B1 B2 Q l2.symm (by omega) (by omega) (a := w_i64 (((P.length + A.length : Nat) : Int) - (A.length : Int))) (b := w_i64 (w_i64 (((P.length + A.length : Nat) : Int) + ((B1.length + B2.length : Nat) : Int)) - (A.length : Int))) (n := (A.length : Int))
          (by rw [w_i64_eq,wi (by omega) (by omega)]; omega) (by rw [w_i64_eq,w_i64_eq,wi (n := ((P.length + A.length : Nat) : Int) + _) (by omega) (by omega),wi (by omega) (by omega)]; omega) rfl
        rw [show P ++ A ++ (B1 ++ B2) ++ Q = P ++ A ++ B1 ++ B2 ++ Q by simp,hsw]
        simp only [Option.bind_some]
        obtain ⟨P',A',B',Q',e1,e2,e3,e4,e5,e6⟩ := q3j m n P B2 B1 (A ++ Q) (by omega) (by omega) (by omega) (by omega) (by simp; omega)
        refine ⟨P',A',B',Q',?_,e2,e3,by omega,?_,by omega⟩
        · rw [show w_i64 (((B1.length + B2.length : Nat) : Int) - (A.length : Int)) = (B1.length : Int) by rw [w_i64_eq,wi (by omega) (by omega)]; omega]
          rw [show P ++ B2 ++ B1 ++ A ++ Q = P ++ B2 ++ B1 ++ (A ++ Q) by simp,show (A.length : Int) = (B2.length : Int) by omega,show ((P.length + A.length : Nat) : Int) = ((P.length + B2.length : Nat) : Int) by omega]
          exact e1
        · rw [e5]; simp
theorem qf0 {m : Nat} (P A B Q : List Ent) (hA : 0 < A.length) (hB : 0 < B.length) (hm : A.length + B.length < m) (hb : P.length + A.length + B.length + Q.length < 400000000) {a c b : Int}
    (ha : a = (P.length : Int)) (hc : c = ((P.length + A.length : Nat) : Int)) (hbb : b = ((P.length + A.length + B.length : Nat) : Int)) :
    g201 m (P ++ A ++ B ++ Q) a c b = some ((),(P ++ B ++ A ++ Q,(),(),(),(),())) := by
  subst ha hc hbb
  obtain ⟨P',A',B',Q',e1,e2,e3,e4,e5,e6⟩ := q3j m m P A B Q hm hm hA hB (by omega)
  rw [g201]
  rw [show w_i64 (((P.length + A.length : Nat) : Int) - (P.length : Int)) = (A.length : Int) by rw [w_i64_eq,wi (by omega) (by omega)]; omega]
  rw [show w_i64 (((P.length + A.length + B.length : Nat) : Int) - ((P.length + A.length : Nat) : Int)) = (B.length : Int) by rw [w_i64_eq,wi (by omega) (by omega)]; omega,e1]
  simp only [Option.bind_some]
  have hl := congrArg List.length e5
  simp only [List.length_append] at hl
  have hsw := Ja (m := m) P' A' [] B' Q' e2 (by omega) (by simp; omega) (a := w_i64 (((P.length + A.length : Nat) : Int) - (A'.length : Int))) (b := ((P.length + A.length : Nat) : Int)) (n := (A'.length : Int))
    (by rw [w_i64_eq,wi (by omega) (by omega)]; omega) (by simp; omega) rfl
  simp only [List.append_nil] at hsw
  rw [hsw]
  simp only [Option.bind_some]
  rw [e5]
end
section
theorem q73 {i j : Nat} (h : i + j < 4611686018427387904) : w_i64 (shr_ .u64 (w_u64 (w_i64 ((i : Int) + (j : Int)))) 1) = (((i + j) / 2 : Nat) : Int) := by
  rw [w_i64_eq,w_i64_eq,wi (n := (i : Int) + (j : Int)) (by omega) (by omega)]
  show IntKind.wrap .i64 (shr_ .u64 (IntKind.wrap .u64 ((i : Int) + (j : Int))) 1) = _
  rw [wu (by omega) (by omega)]
  unfold shr_
  rw [show ((i : Int) + (j : Int)).fdiv (2 ^ (min (1 : Int).toNat IntKind.u64.bits)) = (((i + j) / 2 : Nat) : Int) by
    rw [show (2 : Int) ^ (min (1 : Int).toNat IntKind.u64.bits) = 2 by decide,show ((i : Int) + (j : Int)) = ((i + j : Nat) : Int) by omega,Int.fdiv_eq_ediv_of_nonneg _ (by decide)]; omega]
  rw [wi (by omega) (by omega)]
def BS (test : Nat → Bool) (lo hi r : Nat) : Prop := lo ≤ r ∧ r ≤ hi ∧ (r = lo ∨ test (r - 1) = true) ∧ (r = hi ∨ test r = false)
theorem qdq {α : Type} {a b : Bool} {x y : α} : (bif a then (bif b then x else y) else y) = bif (a && b) then x else y := by cases a <;> cases b <;> rfl
theorem qgk {α : Type} {p q : Prop} [Decidable p] [Decidable q] {x y : α} : (bif (decide p && decide q) then x else y) = if p ∧ q then x else y := by
  by_cases h1 : p <;> by_cases h2 : q <;> simp [h1,h2]
section
variable (self : (List (Int × Int × Int)) → Int → Int → Int → Option (Unit × (List (Int × Int × Int)) × Unit × Unit × Unit × Unit × Unit)) (m : Nat) (hm : 2 < m)
theorem sm_L0 (hm : 2 < m) (d : List Ent) (hd : d.length < 1000000000) {a lo hi : Nat} (ha : a < d.length) (hh : hi ≤ d.length) : ∀ (n i j : Nat),j - i < n → i ≤ j → lo ≤ i → j ≤ hi →
    (i = lo ∨ ltE (d.getD (i - 1) zE) (d.getD a zE) = true) → (j = hi ∨ ltE (d.getD j zE) (d.getD a zE) = false) →
    ∃ r : Nat,g193_L0 self m n d (a : Int) (i : Int) (j : Int) = some (.inl (d,(a : Int),(r : Int),())) ∧ BS (fun k => ltE (d.getD k zE) (d.getD a zE)) lo hi r
  | 0,i,j,h,_,_,_,_,_ => absurd h (Nat.not_lt_zero _)
  | n + 1,i,j,h,hij,hlo,hhi,h1,h2 => by
    simp only [g193_L0,bif_decide]
    by_cases e : i < j
    · rw [if_pos (by omega)]
      simp only [q73 (i := i) (j := j) (by omega)]
      have b1 : i ≤ (i + j) / 2 := by omega
      have b2 : (i + j) / 2 < j := by omega
      generalize (i + j) / 2 = c at *
      rw [if_pos (by omega),if_pos (by omega)]
      obtain ⟨x,hx1,hx2⟩ := Zb hm (d.getD (0 + (c : Int).toNat) zE) (d.getD (0 + (a : Int).toNat) zE)
      rw [hx1]
      simp only [Option.bind_some]
      by_cases g : x < 0
      · rw [if_pos g]
        have g' : ltE (d.getD c zE) (d.getD a zE) = true := by
          rw [show 0 + (c : Int).toNat = c by omega,show 0 + (a : Int).toNat = a by omega] at hx2
          rw [← hx2]; exact decide_eq_true g
        rw [show w_i64 ((c : Int) + 1) = ((c + 1 : Nat) : Int) by rw [w_i64_eq,wi (by omega) (by omega)]; omega]
        exact sm_L0 hm d hd ha hh n (c + 1) j (by omega) (by omega) (by omega) hhi (.inr (by simpa using g')) h2
      · rw [if_neg g]
        have g' : ltE (d.getD c zE) (d.getD a zE) = false := by
          rw [show 0 + (c : Int).toNat = c by omega,show 0 + (a : Int).toNat = a by omega] at hx2
          rw [← hx2]; exact decide_eq_false g
        exact sm_L0 hm d hd ha hh n i c (by omega) (by omega) hlo (by omega) h1 (.inr g')
    · rw [if_neg (by omega)]
      have : i = j := by omega
      subst this
      exact ⟨i,rfl,hlo,hhi,h1,h2⟩
theorem sm_L2 (hm : 2 < m) (d : List Ent) (hd : d.length < 1000000000) {a lo hi : Nat} (ha : a < d.length) (hh : hi ≤ d.length) : ∀ (n i j : Nat),j - i < n → i ≤ j → lo ≤ i → j ≤ hi →
    (i = lo ∨ (!ltE (d.getD a zE) (d.getD (i - 1) zE)) = true) → (j = hi ∨ (!ltE (d.getD a zE) (d.getD j zE)) = false) →
    ∃ r : Nat,g193_L2 self m n d (a : Int) (i : Int) (j : Int) = some (.inl (d,(a : Int),(r : Int),())) ∧ BS (fun k => !ltE (d.getD a zE) (d.getD k zE)) lo hi r
  | 0,i,j,h,_,_,_,_,_ => absurd h (Nat.not_lt_zero _)
  | n + 1,i,j,h,hij,hlo,hhi,h1,h2 => by
    simp only [g193_L2,bif_decide,bif_not]
    by_cases e : i < j
    · rw [if_pos (by omega)]
      simp only [q73 (i := i) (j := j) (by omega)]
      have b1 : i ≤ (i + j) / 2 := by omega
      have b2 : (i + j) / 2 < j := by omega
      generalize (i + j) / 2 = c at *
      rw [if_pos (by omega),if_pos (by omega)]
      obtain ⟨x,hx1,hx2⟩ := Zb hm (d.getD (0 + (a : Int).toNat) zE) (d.getD (0 + (c : Int).toNat) zE)
      rw [hx1]
      simp only [Option.bind_some]
      by_cases g : x < 0
      · rw [if_pos g]
        have g' : ltE (d.getD a zE) (d.getD c zE) = true := by
          rw [show 0 + (c : Int).toNat = c by omega,show 0 + (a : Int).toNat = a by omega] at hx2
          rw [← hx2]; exact decide_eq_true g
        exact sm_L2 hm d hd ha hh n i c (by omega) (by omega) hlo (by omega) h1 (.inr (by rw [g']; rfl))
      · rw [if_neg g]
        have g' : ltE (d.getD a zE) (d.getD c zE) = false := by
          rw [show 0 + (c : Int).toNat = c by omega,show 0 + (a : Int).toNat = a by omega] at hx2
          rw [← hx2]; exact decide_eq_false g
        rw [show w_i64 ((c : Int) + 1) = ((c + 1 : Nat) : Int) by rw [w_i64_eq,wi (by omega) (by omega)]; omega]
        exact sm_L2 hm d hd ha hh n (c + 1) j (by omega) (by omega) (by omega) hhi (.inr (by rw [Nat.add_sub_cancel,g']; rfl)) h2
    · rw [if_neg (by omega)]
      have : i = j := by omega
      subst this
      exact ⟨i,rfl,hlo,hhi,h1,h2⟩
theorem sm_L4 (hm : 2 < m) (d : List Ent) (hd : d.length < 1000000000) {p lo hi : Nat} (hh : hi ≤ d.length) (hp : ∀ c,lo ≤ c → c < hi → c ≤ p ∧ p - c < d.length) (hpb : p < 1000000000000) (t1 t2 t3 t18 t19 : Int) : ∀ (n i j : Nat),j - i < n → i ≤ j → lo ≤ i → j ≤ hi →
    (i = lo ∨ (!ltE (d.getD (p - (i - 1)) zE) (d.getD (i - 1) zE)) = true) → (j = hi ∨ (!ltE (d.getD (p - j) zE) (d.getD j zE)) = false) →
    ∃ r : Nat,g193_L4 self m n d t1 t2 t3 t18 t19 (i : Int) (j : Int) (p : Int) = some (.inl (d,t1,t2,t3,(),t18,t19,(r : Int),())) ∧ BS (fun k => !ltE (d.getD (p - k) zE) (d.getD k zE)) lo hi r
  | 0,i,j,h,_,_,_,_,_ => absurd h (Nat.not_lt_zero _)
  | n + 1,i,j,h,hij,hlo,hhi,h1,h2 => by
    simp only [g193_L4,bif_decide,bif_not]
    by_cases e : i < j
    · rw [if_pos (by omega)]
      simp only [q73 (i := i) (j := j) (by omega)]
      have b1 : i ≤ (i + j) / 2 := by omega
      have b2 : (i + j) / 2 < j := by omega
      generalize (i + j) / 2 = c at *
      obtain ⟨q1,q2⟩ := hp c (by omega) (by omega)
      simp only [show w_i64 ((p : Int) - (c : Int)) = ((p - c : Nat) : Int) by rw [w_i64_eq,wi (by omega) (by omega)]; omega]
      rw [if_pos (by omega),if_pos (by omega)]
      obtain ⟨x,hx1,hx2⟩ := Zb hm (d.getD (0 + ((p - c : Nat) : Int).toNat) zE) (d.getD (0 + (c : Int).toNat) zE)
      rw [hx1]
      simp only [Option.bind_some]
      by_cases g : x < 0
      · rw [if_pos g]
        have g' : ltE (d.getD (p - c) zE) (d.getD c zE) = true := by
          rw [show 0 + (c : Int).toNat = c by omega,show 0 + ((p - c : Nat) : Int).toNat = p - c by omega] at hx2
          rw [← hx2]; exact decide_eq_true g
        exact sm_L4 hm d hd hh hp hpb t1 t2 t3 t18 t19 n i c (by omega) (by omega) hlo (by omega) h1 (.inr (by rw [g']; rfl))
      · rw [if_neg g]
        have g' : ltE (d.getD (p - c) zE) (d.getD c zE) = false := by
          rw [show 0 + (c : Int).toNat = c by omega,show 0 + ((p - c : Nat) : Int).toNat = p - c by omega] at hx2
          rw [← hx2]; exact decide_eq_false g
        rw [show w_i64 ((c : Int) + 1) = ((c + 1 : Nat) : Int) by rw [w_i64_eq,wi (by omega) (by omega)]; omega]
        exact sm_L4 hm d hd hh hp hpb t1 t2 t3 t18 t19 n (c + 1) j (by omega) (by omega) (by omega) hhi (.inr (by rw [Nat.add_sub_cancel,g']; rfl)) h2
    · rw [if_neg (by omega)]
      have : i = j := by omega
      subst this
      exact ⟨i,rfl,hlo,hhi,h1,h2⟩
theorem sm_L1 (x : Ent) (R : List Ent) : ∀ (B P : List Ent) (n : Nat),B.length < n → P.length + B.length + R.length < 1000000000 →
    g193_L1 self m n (P ++ x :: (B ++ R)) ((P.length + 1 + B.length : Nat) : Int) (P.length : Int) = some (.inl (P ++ B ++ x :: R,()))
  | B,P,0,h,_ => absurd h (Nat.not_lt_zero _)
  | [],P,n + 1,_,hb => by
    simp only [g193_L1,bif_decide]
    rw [if_neg (by rw [w_i64_eq,wi (by simp <;> omega) (by simp <;> omega)]; simp)]
    simp
  | y :: B,P,n + 1,h,hb => by
    simp only [List.length_cons] at h hb
    have hlen : (P ++ x :: (y :: B ++ R)).length = P.length + 2 + B.length + R.length := by simp <;> omega
    have e1 : w_i64 ((P.length : Int) + 1) = ((P.length + 1 : Nat) : Int) := by rw [w_i64_eq,wi (by omega) (by omega)]; omega
    have gx : (P ++ x :: (y :: B ++ R)).getD (0 + (P.length : Int).toNat) zE = x := getD_at (by omega)
    have gy : (P ++ x :: (y :: B ++ R)).getD (0 + ((P.length + 1 : Nat) : Int).toNat) zE = y := by
      rw [show P ++ x :: (y :: B ++ R) = (P ++ [x]) ++ y :: (B ++ R) by simp]; exact getD_at (by simp <;> omega)
    have hs : ((P ++ x :: (y :: B ++ R)).set (0 + (P.length : Int).toNat) y).set (0 + ((P.length + 1 : Nat) : Int).toNat) x = (P ++ [y]) ++ x :: (B ++ R) := by
      rw [q29 (by omega),show P ++ y :: (y :: B ++ R) = (P ++ [y]) ++ y :: (B ++ R) by simp,q29 (by simp <;> omega)]
    simp only [g193_L1,bif_decide,e1,gx,gy,List.length_set]
    rw [if_pos (by rw [w_i64_eq,wi (by simp <;> omega) (by simp <;> omega)]; simp; omega),hlen,if_pos (by omega),if_pos (by omega),if_pos (by omega),if_pos (by omega)]
    show g193_L1 self m n (((P ++ x :: (y :: B ++ R)).set (0 + (P.length : Int).toNat) y).set (0 + ((P.length + 1 : Nat) : Int).toNat) x) _ _ = _
    rw [hs]
    have ih := sm_L1 x R B (P ++ [y]) n (by omega) (by simp <;> omega)
    rw [show ((P.length + 1 + (y :: B).length : Nat) : Int) = (((P ++ [y]).length + 1 + B.length : Nat) : Int) by simp <;> omega,show ((P.length + 1 : Nat) : Int) = ((P ++ [y]).length : Int) by simp,ih]
    simp
theorem sm_L3 (y : Ent) (P : List Ent) : ∀ (r R : List Ent) (n : Nat),r.length < n → P.length + r.length + R.length < 1000000000 →
    g193_L3 self m n (P ++ r.reverse ++ y :: R) (P.length : Int) ((P.length + r.length : Nat) : Int) = some (.inl (P ++ y :: (r.reverse ++ R),()))
  | r,R,0,h,_ => absurd h (Nat.not_lt_zero _)
  | [],R,n + 1,_,hb => by
    simp only [g193_L3,bif_decide]
    rw [if_neg (by simp)]
    simp
  | x :: r,R,n + 1,h,hb => by
    simp only [List.length_cons] at h hb
    have hd : P ++ (x :: r).reverse ++ y :: R = (P ++ r.reverse) ++ x :: y :: R := by simp
    have hlen : ((P ++ r.reverse) ++ x :: y :: R).length = P.length + r.length + 2 + R.length := by simp <;> omega
    have ej : ((P.length + (x :: r).length : Nat) : Int) = ((P.length + r.length + 1 : Nat) : Int) := by simp <;> omega
    have ew : w_i64 (((P.length + r.length + 1 : Nat) : Int) - 1) = ((P.length + r.length : Nat) : Int) := by rw [w_i64_eq,wi (by omega) (by omega)]; omega
    have gx : ((P ++ r.reverse) ++ x :: y :: R).getD (0 + ((P.length + r.length : Nat) : Int).toNat) zE = x := getD_at (by simp <;> omega)
    have gy : ((P ++ r.reverse) ++ x :: y :: R).getD (0 + ((P.length + r.length + 1 : Nat) : Int).toNat) zE = y := by
      rw [show (P ++ r.reverse) ++ x :: y :: R = (P ++ r.reverse ++ [x]) ++ y :: R by simp]; exact getD_at (by simp <;> omega)
    have hs : (((P ++ r.reverse) ++ x :: y :: R).set (0 + ((P.length + r.length + 1 : Nat) : Int).toNat) x).set (0 + ((P.length + r.length : Nat) : Int).toNat) y = P ++ r.reverse ++ y :: (x :: R) := by
      rw [show (P ++ r.reverse) ++ x :: y :: R = (P ++ r.reverse ++ [x]) ++ y :: R by simp,q29 (by simp <;> omega),show P ++ r.reverse ++ [x] ++ x :: R = (P ++ r.reverse) ++ x :: x :: R by simp,q29 (by simp <;> omega)]
    rw [hd,ej]
    simp only [g193_L3,bif_decide,ew,gx,gy,List.length_set]
    rw [if_pos (by omega),hlen,if_pos (by omega),if_pos (by omega),if_pos (by omega),if_pos (by omega)]
    show g193_L3 self m n ((((P ++ r.reverse) ++ x :: y :: R).set (0 + ((P.length + r.length + 1 : Nat) : Int).toNat) x).set (0 + ((P.length + r.length : Nat) : Int).toNat) y) _ _ = _
    rw [hs,sm_L3 y P r (x :: R) n (by omega) (by simp <;> omega)]
    simp
end
theorem Jb {l : List Ent} (h : Srt l) {i j : Nat} (hij : i ≤ j) (hj : j < l.length) : leE (l.getD i zE) (l.getD j zE) := by
  rcases Nat.eq_or_lt_of_le hij with rfl | hlt
  · exact qga _
  · have := List.pairwise_iff_getElem.1 h i j (by omega) hj hlt
    simpa [List.getD,hj,show i < l.length by omega] using this
theorem Yd {l : List Ent} {x : Ent} (h : x ∈ l) : ∃ i,i < l.length ∧ l.getD i zE = x := by
  obtain ⟨i,hi,rfl⟩ := List.getElem_of_mem h
  exact ⟨i,hi,by simp [List.getD,hi]⟩
theorem Xu {l : List Ent} {x : Ent} {k : Nat} (h : x ∈ l.take k) : ∃ i,i < k ∧ i < l.length ∧ l.getD i zE = x := by
  obtain ⟨i,hi,rfl⟩ := List.getElem_of_mem h
  have h1 : i < k ∧ i < l.length := by simp at hi; omega
  exact ⟨i,h1.1,h1.2,by simp [List.getD,h1.2]⟩
theorem Xx {l : List Ent} {x : Ent} {k : Nat} (h : x ∈ l.drop k) : ∃ i,k ≤ i ∧ i < l.length ∧ l.getD i zE = x := by
  obtain ⟨i,hi,rfl⟩ := List.getElem_of_mem h
  have h1 : k + i < l.length := by simp at hi; omega
  exact ⟨k + i,by omega,h1,by simp [List.getD,h1]⟩
theorem q2f {P A R : List Ent} {i k : Nat} (hi : i < A.length) (hk : k = P.length + i) : (P ++ A ++ R).getD k zE = A.getD i zE := by
  subst hk
  simp [List.getD,List.getElem?_append_left,List.getElem?_append_right,hi]
end
section
theorem q9l {l r : List Ent} (h1 : Srt l) (h2 : Srt r) (h : ∀ a ∈ l,∀ b ∈ r,leE a b) : Srt (l ++ r) := List.pairwise_append.2 ⟨h1,h2,h⟩
abbrev smRes (d : List Ent) : Option (Unit × (List Ent) × Unit × Unit × Unit × Unit × Unit) := some ((),(d,(),(),(),(),()))
def SmOK (m : Nat) : Prop := ∀ (P A B Q : List Ent),P.length + A.length + B.length + Q.length + 3 + (A.length + B.length) ≤ m → 0 < A.length → 0 < B.length → Srt A → Srt B → P.length + A.length + B.length + Q.length < 100000000 →
  ∃ C,g193 m (P ++ A ++ B ++ Q) (P.length : Int) ((P.length + A.length : Nat) : Int) ((P.length + A.length + B.length : Nat) : Int) = smRes (P ++ C ++ Q) ∧ Srt C ∧ List.Perm C (A ++ B)
theorem q7e (m : Nat) (ih : SmOK m) (P A B Q : List Ent) (hm : P.length + A.length + B.length + Q.length + 3 + (A.length + B.length) ≤ m + 1) (hA : 2 ≤ A.length) (hB : 2 ≤ B.length) (sA : Srt A) (sB : Srt B)
    (hb : P.length + A.length + B.length + Q.length < 100000000) (s h : Nat) (hh : h = (A.length + B.length) / 2) (hs1 : s ≤ A.length) (hs2 : s ≤ h) (hs3 : h - s ≤ B.length)
    (c1 : s = 0 ∨ h - s = B.length ∨ leE (A.getD (s - 1) zE) (B.getD (h - s) zE)) (c2 : s = A.length ∨ s = h ∨ leE (B.getD (h - s - 1) zE) (A.getD s zE)) :
    ∃ C,(if ((P.length + s : Nat) : Int) < ((P.length + A.length : Nat) : Int) ∧ ((P.length + A.length : Nat) : Int) < ((P.length + A.length + (h - s) : Nat) : Int) then
        (g201 m (P ++ A ++ B ++ Q) ((P.length + s : Nat) : Int) ((P.length + A.length : Nat) : Int) ((P.length + A.length + (h - s) : Nat) : Int)).bind fun y11 =>
          if (P.length : Int) < ((P.length + s : Nat) : Int) ∧ ((P.length + s : Nat) : Int) < ((P.length + h : Nat) : Int) then
            (g193 m y11.2.1 (P.length : Int) ((P.length + s : Nat) : Int) ((P.length + h : Nat) : Int)).bind fun y12 =>
              if ((P.length + h : Nat) : Int) < ((P.length + A.length + (h - s) : Nat) : Int) ∧ ((P.length + A.length + (h - s) : Nat) : Int) < ((P.length + A.length + B.length : Nat) : Int) then
                (g193 m y12.2.1 ((P.length + h : Nat) : Int) ((P.length + A.length + (h - s) : Nat) : Int) ((P.length + A.length + B.length : Nat) : Int)).bind fun y13 => smRes y13.2.1
              else smRes y12.2.1
          else
            if ((P.length + h : Nat) : Int) < ((P.length + A.length + (h - s) : Nat) : Int) ∧ ((P.length + A.length + (h - s) : Nat) : Int) < ((P.length + A.length + B.length : Nat) : Int) then
              (g193 m y11.2.1 ((P.length + h : Nat) : Int) ((P.length + A.length + (h - s) : Nat) : Int) ((P.length + A.length + B.length : Nat) : Int)).bind fun y13 => smRes y13.2.1
            else smRes y11.2.1
      else
        if (P.length : Int) < ((P.length + s : Nat) : Int) ∧ ((P.length + s : Nat) : Int) < ((P.length + h : Nat) : Int) then
            (g193 m (P ++ A ++ B ++ Q) (P.length : Int) ((P.length + s : Nat) : Int) ((P.length + h : Nat) : Int)).bind fun y12 =>
              if ((P.length + h : Nat) : Int) < ((P.length + A.length + (h - s) : Nat) : Int) ∧ ((P.length + A.length + (h - s) : Nat) : Int) < ((P.length + A.length + B.length : Nat) : Int) then
                (g193 m y12.2.1 ((P.length + h : Nat) : Int) ((P.length + A.length + (h - s) : Nat) : Int) ((P.length + A.length + B.length : Nat) : Int)).bind fun y13 => smRes y13.2.1
              else smRes y12.2.1
          else
            if ((P.length + h : Nat) : Int) < ((P.length + A.length + (h - s) : Nat) : Int) ∧ ((P.length + A.length + (h - s) : Nat) : Int) < ((P.length + A.length + B.length : Nat) : Int) then
              (g193 m (P ++ A ++ B ++ Q) ((P.length + h : Nat) : Int) ((P.length + A.length + (h - s) : Nat) : Int) ((P.length + A.length + B.length : Nat) : Int)).bind fun y13 => smRes y13.2.1
            else smRes (P ++ A ++ B ++ Q)) = smRes (P ++ C ++ Q) ∧ Srt C ∧ List.Perm C (A ++ B) := by
  -- the four parts
  have x1 : ∀ a ∈ A.take s,∀ b ∈ B.drop (h - s),leE a b := fun a ha b hb => by
    obtain ⟨i,i1,i2,rfl⟩ := Xu ha
    obtain ⟨j,j1,j2,rfl⟩ := Xx hb
    rcases c1 with c | c | c
    · omega
    · omega
    · exact X0 (X0 (Jb sA (show i ≤ s - 1 by omega) (by omega)) c) (Jb sB j1 j2)
  have x2 : ∀ b ∈ B.take (h - s),∀ a ∈ A.drop s,leE b a := fun b hb a ha => by
    obtain ⟨i,i1,i2,rfl⟩ := Xu hb
    obtain ⟨j,j1,j2,rfl⟩ := Xx ha
    rcases c2 with c | c | c
    · omega
    · omega
    · exact X0 (X0 (Jb sB (show i ≤ h - s - 1 by omega) (by omega)) c) (Jb sA j1 j2)
  have hAs := (List.take_append_drop s A).symm
  have hBs := (List.take_append_drop (h - s) B).symm
  have sA' : Srt (A.take s ++ A.drop s) := by rw [← hAs]; exact sA
  have sB' : Srt (B.take (h - s) ++ B.drop (h - s)) := by rw [← hBs]; exact sB
  have l1 : (A.take s).length = s := by simp; omega
  have l2 : (A.drop s).length = A.length - s := by simp
  have l3 : (B.take (h - s)).length = h - s := by simp; omega
  have l4 : (B.drop (h - s)).length = B.length - (h - s) := by simp
  generalize A.take s = A1 at *
  generalize A.drop s = A2 at *
  generalize B.take (h - s) = B1 at *
  generalize B.drop (h - s) = B2 at *
  obtain ⟨sA1,sA2,xA⟩ := List.pairwise_append.1 sA'
  obtain ⟨sB1,sB2,xB⟩ := List.pairwise_append.1 sB'
  have eA : A.length = A1.length + A2.length := by rw [hAs]; simp
  have eB : B.length = B1.length + B2.length := by rw [hBs]; simp
  -- the right half
  have right : ∀ C1 : List Ent,C1.length = h → ∃ C2,(if ((P.length + h : Nat) : Int) < ((P.length + A.length + (h - s) : Nat) : Int) ∧ ((P.length + A.length + (h - s) : Nat) : Int) < ((P.length + A.length + B.length : Nat) : Int) then
        (g193 m (P ++ C1 ++ A2 ++ B2 ++ Q) ((P.length + h : Nat) : Int) ((P.length + A.length + (h - s) : Nat) : Int) ((P.length + A.length + B.length : Nat) : Int)).bind fun y13 => smRes y13.2.1
      else smRes (P ++ C1 ++ A2 ++ B2 ++ Q)) = smRes (P ++ C1 ++ C2 ++ Q) ∧ Srt C2 ∧ List.Perm C2 (A2 ++ B2) := fun C1 hC1 => by
    by_cases e : 0 < A2.length ∧ 0 < B2.length
    · obtain ⟨C2,e1,e2,e3⟩ := ih (P ++ C1) A2 B2 Q (by simp; omega) e.1 e.2 sA2 sB2 (by simp; omega)
      refine ⟨C2,?_,e2,e3⟩
      rw [if_pos (by omega)]
      rw [show ((P.length + h : Nat) : Int) = ((P ++ C1).length : Int) by simp; omega,show ((P.length + A.length + (h - s) : Nat) : Int) = (((P ++ C1).length + A2.length : Nat) : Int) by simp; omega,
        show ((P.length + A.length + B.length : Nat) : Int) = (((P ++ C1).length + A2.length + B2.length : Nat) : Int) by simp; omega,e1]
      rfl
    · refine ⟨A2 ++ B2,?_,?_,List.Perm.refl _⟩
      · rw [if_neg (by omega)]; simp
      · have : A2 = [] ∨ B2 = [] := by
          rcases Nat.eq_zero_or_pos A2.length with h0 | h0
          · exact .inl (List.length_eq_zero_iff.1 h0)
          · exact .inr (List.length_eq_zero_iff.1 (by omega))
        rcases this with rfl | rfl
        · simpa using sB2
        · simpa using sA2
  have join : ∀ C1 C2 : List Ent,Srt C1 → List.Perm C1 (A1 ++ B1) → Srt C2 → List.Perm C2 (A2 ++ B2) → Srt (C1 ++ C2) ∧ List.Perm (C1 ++ C2) (A ++ B) := fun C1 C2 s1 p1 s2 p2 => by
    refine ⟨q9l s1 s2 fun a ha b hb => ?_,?_⟩
    · have ha := p1.mem_iff.1 ha
      have hb := p2.mem_iff.1 hb
      rcases List.mem_append.1 ha with ha | ha <;> rcases List.mem_append.1 hb with hb | hb
      · exact xA a ha b hb
      · exact x1 a ha b hb
      · exact x2 a ha b hb
      · exact xB a ha b hb
    · rw [hAs,hBs]
      refine (List.Perm.append p1 p2).trans ?_
      rw [List.append_assoc,List.append_assoc]
      refine List.Perm.append_left _ ?_
      rw [← List.append_assoc,← List.append_assoc]
      exact List.Perm.append_right _ List.perm_append_comm
  have fin : ∀ d : List Ent,d = P ++ A1 ++ B1 ++ A2 ++ B2 ++ Q → ∃ C,(if (P.length : Int) < ((P.length + s : Nat) : Int) ∧ ((P.length + s : Nat) : Int) < ((P.length + h : Nat) : Int) then
            (g193 m d (P.length : Int) ((P.length + s : Nat) : Int) ((P.length + h : Nat) : Int)).bind fun y12 =>
              if ((P.length + h : Nat) : Int) < ((P.length + A.length + (h - s) : Nat) : Int) ∧ ((P.length + A.length + (h - s) : Nat) : Int) < ((P.length + A.length + B.length : Nat) : Int) then
                (g193 m y12.2.1 ((P.length + h : Nat) : Int) ((P.length + A.length + (h - s) : Nat) : Int) ((P.length + A.length + B.length : Nat) : Int)).bind fun y13 => smRes y13.2.1
              else smRes y12.2.1
          else
            if ((P.length + h : Nat) : Int) < ((P.length + A.length + (h - s) : Nat) : Int) ∧ ((P.length + A.length + (h - s) : Nat) : Int) < ((P.length + A.length + B.length : Nat) : Int) then
              (g193 m d ((P.length + h : Nat) : Int) ((P.length + A.length + (h - s) : Nat) : Int) ((P.length + A.length + B.length : Nat) : Int)).bind fun y13 => smRes y13.2.1
            else smRes d) = smRes (P ++ C ++ Q) ∧ Srt C ∧ List.Perm C (A ++ B) := fun d hd => by
    subst hd
    by_cases e : 0 < s ∧ s < h
    · obtain ⟨C1,e1,e2,e3⟩ := ih P A1 B1 (A2 ++ B2 ++ Q) (by simp; omega) (by omega) (by omega) sA1 sB1 (by simp; omega)
      have hl := e3.length_eq
      simp only [List.length_append] at hl
      obtain ⟨C2,f1,f2,f3⟩ := right C1 (by omega)
      obtain ⟨j1,j2⟩ := join C1 C2 e2 e3 f2 f3
      refine ⟨C1 ++ C2,?_,j1,j2⟩
      rw [if_pos (by omega)]
      rw [show P ++ A1 ++ B1 ++ A2 ++ B2 ++ Q = P ++ A1 ++ B1 ++ (A2 ++ B2 ++ Q) by simp,show ((P.length + s : Nat) : Int) = ((P.length + A1.length : Nat) : Int) by omega,show (g193 m (P ++ A1 ++ B1 ++ (A2 ++ B2 ++ Q)) (P.length : Int) ((P.length + A1.length : Nat) : Int) ((P.length + h : Nat) : Int)) = smRes (P ++ C1 ++ (A2 ++ B2 ++ Q)) by
        rw [← e1]; congr 1; omega]
      show (if ((P.length + h : Nat) : Int) < ((P.length + A.length + (h - s) : Nat) : Int) ∧ ((P.length + A.length + (h - s) : Nat) : Int) < ((P.length + A.length + B.length : Nat) : Int) then
                (g193 m (P ++ C1 ++ (A2 ++ B2 ++ Q)) ((P.length + h : Nat) : Int) ((P.length + A.length + (h - s) : Nat) : Int) ((P.length + A.length + B.length : Nat) : Int)).bind fun y13 => smRes y13.2.1
              else smRes (P ++ C1 ++ (A2 ++ B2 ++ Q))) = _
      rw [show P ++ C1 ++ (A2 ++ B2 ++ Q) = P ++ C1 ++ A2 ++ B2 ++ Q by simp,f1]
      simp
    · obtain ⟨C2,f1,f2,f3⟩ := right (A1 ++ B1) (by simp; omega)
      have hs : Srt (A1 ++ B1) := by
        have : A1 = [] ∨ B1 = [] := by
          rcases Nat.eq_zero_or_pos A1.length with h0 | h0
          · exact .inl (List.length_eq_zero_iff.1 h0)
          · exact .inr (List.length_eq_zero_iff.1 (by omega))
        rcases this with rfl | rfl
        · simpa using sB1
        · simpa using sA1
      obtain ⟨j1,j2⟩ := join (A1 ++ B1) C2 hs (List.Perm.refl _) f2 f3
      refine ⟨(A1 ++ B1) ++ C2,?_,j1,j2⟩
      rw [if_neg (by omega),show P ++ A1 ++ B1 ++ A2 ++ B2 ++ Q = P ++ (A1 ++ B1) ++ A2 ++ B2 ++ Q by simp,f1]
      simp
  have hd0 : P ++ A ++ B ++ Q = (P ++ A1) ++ A2 ++ B1 ++ (B2 ++ Q) := by rw [hAs,hBs]; simp
  by_cases e : 0 < A2.length ∧ 0 < B1.length
  · rw [if_pos (by omega),hd0,qf0 (m := m) (P ++ A1) A2 B1 (B2 ++ Q) e.1 e.2 (by omega) (by simp; omega) (by simp; omega) (by simp; omega) (by simp; omega)]
    exact fin _ (by simp)
  · rw [if_neg (by omega)]
    refine fin _ ?_
    have : A2 = [] ∨ B1 = [] := by
      rcases Nat.eq_zero_or_pos A2.length with h0 | h0
      · exact .inl (List.length_eq_zero_iff.1 h0)
      · exact .inr (List.length_eq_zero_iff.1 (by omega))
    rcases this with rfl | rfl
    · rw [hAs,hBs]; simp
    · rw [hAs,hBs]; simp
end
section
theorem q0a : ∀ m,SmOK m
  | 0 => fun P A B Q h => by omega
  | m + 1 => fun P A B Q hm hA hB sA sB hb => by
    have ih := q0a m
    have hlen : (P ++ A ++ B ++ Q).length = P.length + A.length + B.length + Q.length := by simp; omega
    rw [g193]
    simp only [bif_eq]
    by_cases h1 : A.length = 1
    · -- one element on the left
      obtain ⟨x,rfl⟩ := List.length_eq_one_iff.1 h1
      rw [if_pos (by rw [w_i64_eq,wi (by simp <;> omega) (by simp <;> omega)]; simp <;> omega)]
      simp only [List.length_cons,List.length_nil,Nat.zero_add] at *
      have gx : (P ++ [x] ++ B ++ Q).getD P.length zE = x := by rw [show P ++ [x] ++ B ++ Q = P ++ x :: (B ++ Q) by simp]; exact getD_at rfl
      have gb : ∀ i,i < B.length → (P ++ [x] ++ B ++ Q).getD (P.length + 1 + i) zE = B.getD i zE := fun i hi => q2f hi (by simp)
      obtain ⟨r,e1,b1,b2,b3,b4⟩ := sm_L0 (fun a0 a1 a2 a3 => g193 m a0 a1 a2 a3) m (by omega) (P ++ [x] ++ B ++ Q) (by omega) (a := P.length) (lo := P.length + 1) (hi := P.length + 1 + B.length) (by omega) (by omega) m (P.length + 1) (P.length + 1 + B.length) (by omega) (by omega) (Nat.le_refl _) (Nat.le_refl _) (.inl rfl) (.inl rfl)
      obtain ⟨k,rfl⟩ : ∃ k,r = P.length + 1 + k := ⟨r - (P.length + 1),by omega⟩
      have hk : k ≤ B.length := by omega
      dsimp only at b3 b4
      rw [gx] at b3 b4
      have hBs := (List.take_append_drop k B).symm
      have l1 : (B.take k).length = k := by simp; omega
      have y1 : ∀ b ∈ B.take k,leE b x := fun b hb => by
        obtain ⟨i,i1,i2,rfl⟩ := Xu hb
        rcases b3 with c | c
        · omega
        · rw [show P.length + 1 + k - 1 = P.length + 1 + (k - 1) by omega,gb (k - 1) (by omega)] at c
          exact X0 (Jb sB (show i ≤ k - 1 by omega) (by omega)) (Yw c)
      have y2 : ∀ b ∈ B.drop k,leE x b := fun b hb => by
        obtain ⟨i,i1,i2,rfl⟩ := Xx hb
        rcases b4 with c | c
        · omega
        · rw [gb k (by omega)] at c
          exact X0 (show leE x (B.getD k zE) from c) (Jb sB i1 i2)
      have sB' : Srt (B.take k ++ B.drop k) := by rw [← hBs]; exact sB
      generalize B.take k = B1 at *
      generalize B.drop k = B2 at *
      obtain ⟨s1,s2,s3⟩ := List.pairwise_append.1 sB'
      refine ⟨B1 ++ x :: B2,?_,q9l s1 (List.pairwise_cons.2 ⟨y2,s2⟩) (fun a ha b hb => ?_),?_⟩
      · rw [show ((P.length : Nat) : Int) = ((P.length : Nat) : Int) from rfl,e1]
        simp only [Option.bind_some]
        have h3 := sm_L1 (fun a0 a1 a2 a3 => g193 m a0 a1 a2 a3) m x (B2 ++ Q) B1 P m (by omega) (by rw [hBs] at hb; simp at hb ⊢; omega)
        rw [show P ++ [x] ++ B ++ Q = P ++ x :: (B1 ++ (B2 ++ Q)) by rw [hBs]; simp,show ((P.length + 1 + k : Nat) : Int) = ((P.length + 1 + B1.length : Nat) : Int) by omega,h3]
        simp
      · rcases List.mem_cons.1 hb with rfl | hb
        · exact y1 a ha
        · exact s3 a ha b hb
      · rw [hBs]
        exact (List.perm_middle).trans (by simp)
    · rw [if_neg (by rw [w_i64_eq,wi (by omega) (by omega)]; omega)]
      by_cases h2 : B.length = 1
      · obtain ⟨y,rfl⟩ := List.length_eq_one_iff.1 h2
        rw [if_pos (by rw [w_i64_eq,wi (by simp <;> omega) (by simp <;> omega)]; simp <;> omega)]
        simp only [List.length_cons,List.length_nil,Nat.zero_add] at *
        have gy : (P ++ A ++ [y] ++ Q).getD (P.length + A.length) zE = y := by rw [show P ++ A ++ [y] ++ Q = (P ++ A) ++ y :: Q by simp]; exact getD_at (by simp)
        have ga : ∀ i,i < A.length → (P ++ A ++ [y] ++ Q).getD (P.length + i) zE = A.getD i zE := fun i hi => by
          rw [show P ++ A ++ [y] ++ Q = P ++ A ++ ([y] ++ Q) by simp]; exact q2f hi rfl
        obtain ⟨r,e1,b1,b2,b3,b4⟩ := sm_L2 (fun a0 a1 a2 a3 => g193 m a0 a1 a2 a3) m (by omega) (P ++ A ++ [y] ++ Q) (by omega) (a := P.length + A.length) (lo := P.length) (hi := P.length + A.length) (by omega) (by omega) m P.length (P.length + A.length) (by omega) (by omega) (Nat.le_refl _) (Nat.le_refl _) (.inl rfl) (.inl rfl)
        obtain ⟨k,rfl⟩ : ∃ k,r = P.length + k := ⟨r - P.length,by omega⟩
        have hk : k ≤ A.length := by omega
        dsimp only at b3 b4
        rw [gy] at b3 b4
        have hAs := (List.take_append_drop k A).symm
        have l1 : (A.take k).length = k := by simp; omega
        have l2 : (A.drop k).length = A.length - k := by simp
        have y1 : ∀ a ∈ A.take k,leE a y := fun a ha => by
          obtain ⟨i,i1,i2,rfl⟩ := Xu ha
          rcases b3 with c | c
          · omega
          · rw [show P.length + k - 1 = P.length + (k - 1) by omega,ga (k - 1) (by omega)] at c
            exact X0 (Jb sA (show i ≤ k - 1 by omega) (by omega)) (by simpa [leE] using c)
        have y2 : ∀ a ∈ A.drop k,leE y a := fun a ha => by
          obtain ⟨i,i1,i2,rfl⟩ := Xx ha
          rcases b4 with c | c
          · omega
          · rw [ga k (by omega)] at c
            exact X0 (Yw (by simpa using c)) (Jb sA i1 i2)
        have sA' : Srt (A.take k ++ A.drop k) := by rw [← hAs]; exact sA
        generalize A.take k = A1 at *
        generalize A.drop k = A2 at *
        obtain ⟨s1,s2,s3⟩ := List.pairwise_append.1 sA'
        refine ⟨A1 ++ y :: A2,?_,q9l s1 (List.pairwise_cons.2 ⟨y2,s2⟩) (fun a ha b hb => ?_),?_⟩
        · rw [e1]
          simp only [Option.bind_some]
          have h3 := sm_L3 (fun a0 a1 a2 a3 => g193 m a0 a1 a2 a3) m y (P ++ A1) A2.reverse Q m (by simp; omega) (by simp; omega)
          simp only [List.reverse_reverse,List.length_reverse] at h3
          rw [show P ++ A ++ [y] ++ Q = P ++ A1 ++ A2 ++ y :: Q by rw [hAs]; simp,show ((P.length + k : Nat) : Int) = ((P ++ A1).length : Int) by simp; omega,show ((P.length + A.length : Nat) : Int) = (((P ++ A1).length + A2.length : Nat) : Int) by simp; omega,h3]
          simp
        · rcases List.mem_cons.1 hb with rfl | hb
          · exact y1 a ha
          · exact s3 a ha b hb
        · rw [hAs]
          refine (List.perm_middle).trans ?_
          exact (List.perm_append_singleton y (A1 ++ A2)).symm
      · rw [if_neg (by rw [w_i64_eq,wi (by omega) (by omega)]; omega)]
        -- the general case
        obtain ⟨h,hh⟩ : ∃ h,h = (A.length + B.length) / 2 := ⟨_,rfl⟩
        have emid : w_i64 (shr_ .u64 (w_u64 (w_i64 ((P.length : Int) + ((P.length + A.length + B.length : Nat) : Int)))) 1) = ((P.length + h : Nat) : Int) := by
          rw [q73 (by omega)]; omega
        have en : w_i64 (((P.length + h : Nat) : Int) + ((P.length + A.length : Nat) : Int)) = ((2 * P.length + h + A.length : Nat) : Int) := by rw [w_i64_eq,wi (by omega) (by omega)]; omega
        have ep : w_i64 (((2 * P.length + h + A.length : Nat) : Int) - 1) = ((2 * P.length + h + A.length - 1 : Nat) : Int) := by rw [w_i64_eq,wi (by omega) (by omega)]; omega
        have ga : ∀ i,i < A.length → (P ++ A ++ B ++ Q).getD (P.length + i) zE = A.getD i zE := fun i hi => by
          rw [show P ++ A ++ B ++ Q = P ++ A ++ (B ++ Q) by simp]; exact q2f hi rfl
        have gb : ∀ i,i < B.length → (P ++ A ++ B ++ Q).getD (P.length + A.length + i) zE = B.getD i zE := fun i hi => q2f hi (by simp)
        have eend : ∀ s,s ≤ h → w_i64 (((2 * P.length + h + A.length : Nat) : Int) - ((P.length + s : Nat) : Int)) = ((P.length + A.length + (h - s) : Nat) : Int) := fun s hs => by rw [w_i64_eq,wi (by omega) (by omega)]; omega
        have done : ∀ lo hi,lo ≤ hi → hi ≤ h → hi ≤ A.length → h - lo ≤ B.length → (lo = 0 ∨ h - lo = B.length) → (hi = A.length ∨ hi = h) →
          ∃ s,g193_L4 (fun a0 a1 a2 a3 => g193 m a0 a1 a2 a3) m m (P ++ A ++ B ++ Q) (P.length : Int) ((P.length + A.length : Nat) : Int) ((P.length + A.length + B.length : Nat) : Int) ((P.length + h : Nat) : Int) ((2 * P.length + h + A.length : Nat) : Int) ((P.length + lo : Nat) : Int) ((P.length + hi : Nat) : Int) ((2 * P.length + h + A.length - 1 : Nat) : Int) =
              some (.inl (P ++ A ++ B ++ Q,(P.length : Int),((P.length + A.length : Nat) : Int),((P.length + A.length + B.length : Nat) : Int),(),((P.length + h : Nat) : Int),((2 * P.length + h + A.length : Nat) : Int),((P.length + s : Nat) : Int),())) ∧ s ≤ A.length ∧ s ≤ h ∧ h - s ≤ B.length ∧
              (s = 0 ∨ h - s = B.length ∨ leE (A.getD (s - 1) zE) (B.getD (h - s) zE)) ∧ (s = A.length ∨ s = h ∨ leE (B.getD (h - s - 1) zE) (A.getD s zE)) := fun lo hi g1 g2 g3 g4 g5 g6 => by
          obtain ⟨r,e1,b1,b2,b3,b4⟩ := sm_L4 (fun a0 a1 a2 a3 => g193 m a0 a1 a2 a3) m (by omega) (P ++ A ++ B ++ Q) (by omega) (p := 2 * P.length + h + A.length - 1) (lo := P.length + lo) (hi := P.length + hi) (by omega) (fun c hc1 hc2 => by omega) (by omega)
            (P.length : Int) ((P.length + A.length : Nat) : Int) ((P.length + A.length + B.length : Nat) : Int) ((P.length + h : Nat) : Int) ((2 * P.length + h + A.length : Nat) : Int) m (P.length + lo) (P.length + hi) (by omega) (by omega) (Nat.le_refl _) (Nat.le_refl _) (.inl rfl) (.inl rfl)
          obtain ⟨s,rfl⟩ : ∃ s,r = P.length + s := ⟨r - P.length,by omega⟩
          dsimp only at b3 b4
          refine ⟨s,e1,by omega,by omega,by omega,?_,?_⟩
          · rcases b3 with c | c
            · omega
            · by_cases q1 : s = 0
              · exact .inl q1
              · by_cases q2 : h - s = B.length
                · exact .inr (.inl q2)
                · have e3 : 2 * P.length + h + A.length - 1 - (P.length + s - 1) = P.length + A.length + (h - s) := by omega
                  rw [e3,show P.length + s - 1 = P.length + (s - 1) by omega,gb (h - s) (by omega),ga (s - 1) (by omega)] at c
                  exact .inr (.inr (by simpa [leE] using c))
          · rcases b4 with c | c
            · omega
            · by_cases q1 : s = A.length
              · exact .inl q1
              · by_cases q2 : s = h
                · exact .inr (.inl q2)
                · have e3 : 2 * P.length + h + A.length - 1 - (P.length + s) = P.length + A.length + (h - s - 1) := by omega
                  rw [e3,gb (h - s - 1) (by omega),ga s (by omega)] at c
                  exact .inr (.inr (Yw (by simpa using c)))
        have fin : ∀ s,s ≤ A.length → s ≤ h → h - s ≤ B.length → (s = 0 ∨ h - s = B.length ∨ leE (A.getD (s - 1) zE) (B.getD (h - s) zE)) → (s = A.length ∨ s = h ∨ leE (B.getD (h - s - 1) zE) (A.getD s zE)) → _ :=
          fun s q1 q2 q3 q4 q5 => q7e m ih P A B Q hm (by omega) (by omega) sA sB hb s h hh q1 q2 q3 q4 q5
        simp only [emid,en,ep,bif_decide]
        by_cases g : ((P.length + A.length : Nat) : Int) > ((P.length + h : Nat) : Int)
        · rw [if_pos g]
          obtain ⟨s,e1,q1,q2,q3,q4,q5⟩ := done (h - B.length) h (by omega) (Nat.le_refl _) (by omega) (by omega) (by omega) (.inr rfl)
          obtain ⟨C,f1,f2,f3⟩ := fin s q1 q2 q3 q4 q5
          refine ⟨C,?_,f2,f3⟩
          rw [show w_i64 (((2 * P.length + h + A.length : Nat) : Int) - ((P.length + A.length + B.length : Nat) : Int)) = ((P.length + (h - B.length) : Nat) : Int) by rw [w_i64_eq,wi (by omega) (by omega)]; omega,e1]
          simp only [Option.bind_some,← bif_decide]
          simp only [qdq,qgk,eend s q2]
          exact f1
        · rw [if_neg g]
          obtain ⟨s,e1,q1,q2,q3,q4,q5⟩ := done 0 A.length (by omega) (by omega) (Nat.le_refl _) (by omega) (.inl rfl) (.inl rfl)
          obtain ⟨C,f1,f2,f3⟩ := fin s q1 q2 q3 q4 q5
          refine ⟨C,?_,f2,f3⟩
          rw [show (((P.length + 0 : Nat) : Int)) = (P.length : Int) by simp] at e1
          rw [e1]
          simp only [Option.bind_some,← bif_decide]
          simp only [qdq,qgk,eend s q2]
          exact f1
end
section
inductive Full (k : Nat) : List Ent → Prop where
  | nil : Full k []
  | cons {A r : List Ent} : A.length = k → Srt A → Full k r → Full k (A ++ r)
inductive Blk (k : Nat) : List Ent → Prop where
  | last {l : List Ent} : l.length ≤ k → Srt l → Blk k l
  | cons {A r : List Ent} : A.length = k → Srt A → Blk k r → Blk k (A ++ r)
theorem Full.snoc {k : Nat} {X A : List Ent} (h : Full k X) (h1 : A.length = k) (h2 : Srt A) : Full k (X ++ A) := by
  induction h with
  | nil => have := Full.cons h1 h2 .nil; simpa using this
  | cons a b _ ih => rw [List.append_assoc]; exact .cons a b ih
theorem Full.blk {k : Nat} {X Y : List Ent} (h : Full k X) (hY : Blk k Y) : Blk k (X ++ Y) := by
  induction h with
  | nil => simpa using hY
  | cons a b _ ih => rw [List.append_assoc]; exact .cons a b ih
theorem Blk.split {k : Nat} {Y : List Ent} (h : Blk k Y) (hl : k ≤ Y.length) : ∃ A r,Y = A ++ r ∧ A.length = k ∧ Srt A ∧ Blk k r := by
  cases h with
  | last h1 h2 => exact ⟨Y,[],by simp,by omega,h2,.last (by simp) (by simp)⟩
  | cons h1 h2 h3 => exact ⟨_,_,rfl,h1,h2,h3⟩
theorem Blk.short {k : Nat} {Y : List Ent} (h : Blk k Y) (hl : Y.length ≤ k) : Srt Y := by
  cases h with
  | last h1 h2 => exact h2
  | cons h1 h2 h3 =>
    rename_i A r
    have : r = [] := List.length_eq_zero_iff.1 (by simp at hl; omega)
    subst this
    simpa using h2
theorem q0m {m : Nat} (P T Q : List Ent) (hb : P.length + Q.length < 400000000) (hm : T.length + 1 < m) (hl : T.length < 400000000) :
    ∃ S',g192 m (P ++ T ++ Q) (P.length : Int) ((P.length + T.length : Nat) : Int) = some ((),(P ++ S' ++ Q,(),(),(),())) ∧ Srt S' ∧ List.Perm S' T := by
  by_cases h : T = []
  · subst h
    refine ⟨[],?_,by simp,List.Perm.refl _⟩
    obtain ⟨n,rfl⟩ : ∃ n,m = n + 1 := ⟨m - 1,by omega⟩
    rw [g192,g192_L0]
    simp only [bif_decide]
    rw [if_neg (by rw [w_i64_eq,wi (by omega) (by omega)]; simp <;> omega)]
    rfl
  · exact q89 P T Q hb hm hl h
theorem q8w (m N : Nat) (hm : N + 30 ≤ m) (hN : N < 100000000) : ∀ (n : Nat) (Y X : List Ent),Y.length < n → X.length + Y.length = N → Full 20 X →
    ∃ X' Y' : List Ent,g167_L0 m n (X ++ Y) (N : Int) 20 (X.length : Int) ((X.length + 20 : Nat) : Int) = some (.inl (X' ++ Y',(N : Int),(),20,(X'.length : Int),())) ∧ Full 20 X' ∧ Y'.length < 20 ∧ X'.length + Y'.length = N ∧ List.Perm (X' ++ Y') (X ++ Y)
  | 0,Y,X,h,_,_ => absurd h (Nat.not_lt_zero _)
  | n + 1,Y,X,h,hl,hF => by
    simp only [g167_L0,bif_decide]
    by_cases e : X.length + 20 ≤ N
    · rw [if_pos (by omega)]
      have hY := (List.take_append_drop 20 Y).symm
      have l1 : (Y.take 20).length = 20 := by simp; omega
      have l2 : (Y.drop 20).length = Y.length - 20 := by simp
      generalize Y.take 20 = A at *
      generalize Y.drop 20 = Y1 at *
      obtain ⟨S,e1,e2,e3⟩ := q0m (m := m) X A Y1 (by omega) (by omega) (by omega)
      have hSl := e3.length_eq
      obtain ⟨X',Y',f1,f2,f3,f4,f5⟩ := q8w m N hm hN n Y1 (X ++ S) (by omega) (by simp; omega) (hF.snoc (by omega) e2)
      refine ⟨X',Y',?_,f2,f3,f4,f5.trans ?_⟩
      · rw [hY,show X ++ (A ++ Y1) = X ++ A ++ Y1 by simp,show ((X.length + 20 : Nat) : Int) = ((X.length + A.length : Nat) : Int) by omega,e1]
        simp only [Option.bind_some]
        rw [show w_i64 (((X.length + A.length : Nat) : Int) + 20) = (((X ++ S).length + 20 : Nat) : Int) by rw [w_i64_eq,wi (by omega) (by omega)]; simp; omega,show ((X.length + A.length : Nat) : Int) = ((X ++ S).length : Int) by simp; omega]
        exact f1
      · rw [hY,List.append_assoc]
        exact List.Perm.append_left _ (List.Perm.append_right _ e3)
    · rw [if_neg (by omega)]
      exact ⟨X,Y,rfl,hF,by omega,hl,List.Perm.refl _⟩
theorem q87 (m N k : Nat) (hk : 0 < k) (hm : 2 * N + 10 ≤ m) (hN : N < 50000000) (hkN : k < N) : ∀ (n : Nat) (Y X : List Ent),Y.length < n → X.length + Y.length = N → Full (2 * k) X → Blk k Y →
    ∃ X' Y' : List Ent,g167_L2 m n (X ++ Y) (N : Int) (k : Int) (X.length : Int) ((X.length + 2 * k : Nat) : Int) = some (.inl (X' ++ Y',(N : Int),(),(k : Int),(X'.length : Int),())) ∧ Full (2 * k) X' ∧ Blk k Y' ∧ Y'.length < 2 * k ∧ X'.length + Y'.length = N ∧ List.Perm (X' ++ Y') (X ++ Y)
  | 0,Y,X,h,_,_,_ => absurd h (Nat.not_lt_zero _)
  | n + 1,Y,X,h,hl,hF,hB => by
    simp only [g167_L2,bif_decide]
    by_cases e : X.length + 2 * k ≤ N
    · rw [if_pos (by omega)]
      obtain ⟨A,Y1,rfl,a1,a2,a3⟩ := hB.split (by omega)
      simp only [List.length_append] at *
      obtain ⟨B,Y2,rfl,b1,b2,b3⟩ := a3.split (by omega)
      simp only [List.length_append] at *
      obtain ⟨C,e1,e2,e3⟩ := q0a m X A B Y2 (by omega) (by omega) (by omega) a2 b2 (by omega)
      have hSl := e3.length_eq
      simp only [List.length_append] at hSl
      obtain ⟨X',Y',f1,f2,f3,f4,f5,f6⟩ := q87 m N k hk hm hN hkN n Y2 (X ++ C) (by omega) (by simp; omega) (hF.snoc (by omega) e2) b3
      refine ⟨X',Y',?_,f2,f3,f4,f5,f6.trans ?_⟩
      · rw [show X ++ (A ++ (B ++ Y2)) = X ++ A ++ B ++ Y2 by simp,show w_i64 ((X.length : Int) + (k : Int)) = ((X.length + A.length : Nat) : Int) by rw [w_i64_eq,wi (by omega) (by omega)]; omega,show ((X.length + 2 * k : Nat) : Int) = ((X.length + A.length + B.length : Nat) : Int) by omega,e1]
        simp only [Option.bind_some]
        rw [show w_i64 (((X.length + A.length + B.length : Nat) : Int) + w_i64 (2 * (k : Int))) = (((X ++ C).length + 2 * k : Nat) : Int) by
          rw [w_i64_eq,w_i64_eq,wi (n := 2 * (k : Int)) (by omega) (by omega),wi (by omega) (by omega)]; simp; omega,show ((X.length + A.length + B.length : Nat) : Int) = ((X ++ C).length : Int) by simp; omega]
        exact f1
      · rw [List.append_assoc]
        refine List.Perm.append_left _ ?_
        rw [← List.append_assoc]
        exact List.Perm.append_right _ e3
    · rw [if_neg (by omega)]
      exact ⟨X,Y,rfl,hF,hB,by omega,hl,List.Perm.refl _⟩
theorem q3a (m N : Nat) (hm : 2 * N + 10 ≤ m) (hN : N < 50000000) : ∀ (n k : Nat) (D : List Ent),N - k < n → 0 < k → k < 100000000 → D.length = N → Blk k D →
    ∃ D',g167_L1 m n D (N : Int) (k : Int) = some (.inl (D',())) ∧ Srt D' ∧ List.Perm D' D
  | 0,k,D,h,_,_,_,_ => absurd h (Nat.not_lt_zero _)
  | n + 1,k,D,h,hk,hk2,hD,hB => by
    simp only [g167_L1,bif_decide]
    by_cases e : k < N
    · rw [if_pos (by omega)]
      obtain ⟨X',Y',f1,f2,f3,f4,f5,f6⟩ := q87 m N k hk hm hN e m D [] (by omega) (by simpa using hD) .nil hB
      simp only [List.nil_append,List.length_nil,Nat.zero_add] at f1 f6
      rw [show w_i64 (2 * (k : Int)) = ((2 * k : Nat) : Int) by rw [w_i64_eq,wi (by omega) (by omega)]; omega,show (0 : Int) = ((0 : Nat) : Int) from rfl,f1]
      simp only [Option.bind_some]
      rw [show w_i64 ((k : Int) * 2) = ((2 * k : Nat) : Int) by rw [w_i64_eq,wi (by omega) (by omega)]; omega]
      rw [show w_i64 ((X'.length : Int) + (k : Int)) = ((X'.length + k : Nat) : Int) by rw [w_i64_eq,wi (by omega) (by omega)]; omega]
      by_cases g : X'.length + k < N
      · rw [if_pos (by omega)]
        obtain ⟨A,r,rfl,a1,a2,a3⟩ := f3.split (by omega)
        simp only [List.length_append] at *
        have hr := a3.short (by omega)
        obtain ⟨C,e1,e2,e3⟩ := q0a m X' A r [] (by simp; omega) (by omega) (by omega) a2 hr (by simp; omega)
        simp only [List.append_nil] at e1
        have hSl := e3.length_eq
        simp only [List.length_append] at hSl
        obtain ⟨D',g1,g2,g3⟩ := q3a m N hm hN n (2 * k) (X' ++ C) (by omega) (by omega) (by omega) (by simp; omega) (f2.blk (.last (by omega) e2))
        refine ⟨D',?_,g2,g3.trans ?_⟩
        · rw [show X' ++ (A ++ r) = X' ++ A ++ r by simp,show ((X'.length + k : Nat) : Int) = ((X'.length + A.length : Nat) : Int) by omega,show (N : Int) = ((X'.length + A.length + r.length : Nat) : Int) by omega,e1]
          simp only [Option.bind_some]
          rw [show ((X'.length + A.length + r.length : Nat) : Int) = (N : Int) by omega]
          exact g1
        · exact (List.Perm.append_left _ e3).trans f6
      · rw [if_neg (by omega)]
        have hs := f3.short (by omega)
        obtain ⟨D',g1,g2,g3⟩ := q3a m N hm hN n (2 * k) (X' ++ Y') (by omega) (by omega) (by omega) (by simp; omega) (f2.blk (.last (by omega) hs))
        exact ⟨D',g1,g2,g3.trans f6⟩
    · rw [if_neg (by omega)]
      exact ⟨D,rfl,hB.short (by omega),List.Perm.refl _⟩
theorem q6n {m : Nat} (D : List Ent) (hm : 2 * D.length + 60 ≤ m) (hN : D.length < 50000000) : ∃ D',g118 m D = some ((),(D',(),())) ∧ Srt D' ∧ List.Perm D' D := by
  obtain ⟨X,Y,f1,f2,f3,f4,f5⟩ := q8w m D.length (by omega) (by omega) m D [] (by omega) (by simp) .nil
  simp only [List.nil_append,List.length_nil,Nat.zero_add] at f1 f5
  obtain ⟨S,e1,e2,e3⟩ := q0m (m := m) X Y [] (by simp; omega) (by omega) (by omega)
  simp only [List.append_nil] at e1
  have hSl := e3.length_eq
  obtain ⟨D',g1,g2,g3⟩ := q3a m D.length (by omega) hN m 20 (X ++ S) (by omega) (by omega) (by omega) (by simp; omega) (f2.blk (.last (by omega) e2))
  refine ⟨D',?_,g2,g3.trans ((List.Perm.append_left _ e3).trans f5)⟩
  rw [g118,g167,show g167_L0 m m D (D.length : Int) 20 0 20 = _ from f1]
  simp only [Option.bind_some]
  rw [show (D.length : Int) = ((X.length + Y.length : Nat) : Int) by omega,e1]
  simp only [Option.bind_some]
  rw [show ((X.length + Y.length : Nat) : Int) = (D.length : Int) by omega,show g167_L1 m m (X ++ S) (D.length : Int) 20 = _ from g1]
  rfl
theorem g59_eq {m : Nat} (D : List Ent) (hm : 2 * D.length + 60 ≤ m) (hN : D.length < 50000000) : ∃ D',g59 m D = some (D',(),()) ∧ Srt D' ∧ List.Perm D' D := by
  obtain ⟨D',h1,h2,h3⟩ := q6n D hm hN
  refine ⟨D',?_,h2,h3⟩
  rw [g59,g117,if_pos (by simp; omega)]
  simp only [Option.bind_some]
  rw [h1]; rfl
end
section
def canE (es : List Ent) (r j : Nat) : List Ent := (colR es j 0 r).map fun i : Nat => ((i : Int),((j : Int),(es.getD (Qi es i j es.length - 1) zE).2.2))
def can (es : List Ent) (r : Nat) : Nat → List Ent
  | 0 => []
  | j + 1 => can es r j ++ canE es r j
def DistE (es : List Ent) : Prop := ∀ k k',k < es.length → k' < es.length → (es.getD k zE).1 = (es.getD k' zE).1 → (es.getD k zE).2.1 = (es.getD k' zE).2.1 → k = k'
section
variable {es : List Ent} {r c : Nat}
theorem can_I : ∀ j,(can es r j).map (·.1) = packI es r j
  | 0 => rfl
  | j + 1 => by simp only [can,packI,List.map_append,can_I j,canE,colI,List.map_map]; rfl
theorem can_V : ∀ j,(can es r j).map (·.2.2) = packV es r j
  | 0 => rfl
  | j + 1 => by simp only [can,packV,List.map_append,can_V j,canE,colV,List.map_map]; rfl
theorem EntsOK.at (hE : EntsOK r c es) {k : Nat} (hk : k < es.length) : (0 ≤ (es.getD k zE).1 ∧ (es.getD k zE).1 < (r : Int)) ∧ (0 ≤ (es.getD k zE).2.1 ∧ (es.getD k zE).2.1 < (c : Int)) ∧ finB (es.getD k zE).2.2 = true := hE k hk
theorem q0l {i j : Nat} : ∀ {t : Nat},0 < Qi es i j t → Qi es i j t - 1 < t ∧ (es.getD (Qi es i j t - 1) zE).1 = (i : Int) ∧ (es.getD (Qi es i j t - 1) zE).2.1 = (j : Int)
  | 0,h => by simp [Qi] at h
  | t + 1,h => by
    rw [Qi] at h ⊢
    by_cases e : (es.getD t (0,(0,0))).1 = (i : Int) ∧ (es.getD t (0,(0,0))).2.1 = (j : Int)
    · rw [if_pos e]; exact ⟨by omega,e⟩
    · rw [if_neg e] at h ⊢
      obtain ⟨h1,h2⟩ := q0l h
      exact ⟨by omega,h2⟩
theorem q0d {i j : Nat} : ∀ {t k : Nat},k < t → (es.getD k zE).1 = (i : Int) → (es.getD k zE).2.1 = (j : Int) → 0 < Qi es i j t
  | 0,k,h,_,_ => absurd h (Nat.not_lt_zero _)
  | t + 1,k,h,h1,h2 => by
    rw [Qi]
    by_cases e : (es.getD t (0,(0,0))).1 = (i : Int) ∧ (es.getD t (0,(0,0))).2.1 = (j : Int)
    · rw [if_pos e]; omega
    · rw [if_neg e]
      rcases Nat.lt_or_ge k t with hk | hk
      · exact q0d hk h1 h2
      · have : k = t := by omega
        subst this
        exact absurd ⟨h1,h2⟩ e
theorem q2r {j : Nat} {x : Ent} : x ∈ canE es r j ↔ ∃ i,i < r ∧ 0 < Qi es i j es.length ∧ x = ((i : Int),((j : Int),(es.getD (Qi es i j es.length - 1) zE).2.2)) := by
  unfold canE colR
  simp only [List.mem_map,List.mem_filter,List.mem_range'_1,decide_eq_true_eq]
  constructor
  · rintro ⟨i,⟨h1,h2⟩,rfl⟩; exact ⟨i,by omega,h2,rfl⟩
  · rintro ⟨i,h1,h2,rfl⟩; exact ⟨i,⟨⟨by omega,by omega⟩,h2⟩,rfl⟩
theorem q69 {x : Ent} : ∀ {c : Nat},x ∈ can es r c ↔ ∃ i j,i < r ∧ j < c ∧ 0 < Qi es i j es.length ∧ x = ((i : Int),((j : Int),(es.getD (Qi es i j es.length - 1) zE).2.2))
  | 0 => by simp [can]
  | c + 1 => by
    simp only [can,List.mem_append,q69 (c := c),q2r]
    constructor
    · rintro (⟨i,j,h1,h2,h3,h4⟩ | ⟨i,h1,h3,h4⟩)
      · exact ⟨i,j,h1,by omega,h3,h4⟩
      · exact ⟨i,c,h1,by omega,h3,h4⟩
    · rintro ⟨i,j,h1,h2,h3,h4⟩
      by_cases e : j = c
      · subst e; exact .inr ⟨i,h1,h3,h4⟩
      · exact .inl ⟨i,j,h1,by omega,h3,h4⟩
theorem qeq (j : Nat) : (canE es r j).Pairwise (fun a b => a.2.1 = b.2.1 ∧ a.1 < b.1) := by
  unfold canE
  rw [List.pairwise_map]
  have : (colR es j 0 r).Pairwise (· < ·) := by
    unfold colR
    exact List.Pairwise.filter _ (List.pairwise_lt_range' (s := 0) (n := r) (step := 1) (by omega))
  exact this.imp fun h => ⟨rfl,by simpa using h⟩
theorem q61 : ∀ c,(can es r c).Pairwise (fun a b => ltE a b = true)
  | 0 => by simp [can]
  | c + 1 => by
    rw [can,List.pairwise_append]
    refine ⟨q61 c,(qeq c).imp fun h => ?_,fun a ha b hb => ?_⟩
    · unfold ltE; simp [h.1,h.2]
    · obtain ⟨i,j,h1,h2,h3,rfl⟩ := q69.1 ha
      obtain ⟨i',g1,g3,rfl⟩ := q2r.1 hb
      unfold ltE; simp; omega
theorem qht (c : Nat) : Srt (can es r c) := (q61 c).imp fun h => Yw h
theorem qi4 {a b : Ent} (h : ltE a b = true) : a ≠ b := by rintro rfl; unfold ltE at h; simp at h
theorem qf1 (c : Nat) : (can es r c).Nodup := (q61 c).imp fun h => qi4 h
theorem qcr (hD : DistE es) : es.Nodup := by
  rw [List.nodup_iff_pairwise_ne,List.pairwise_iff_getElem]
  intro i j hi hj hij e
  have := hD i j hi hj (by simp [List.getD,hi,hj,e]) (by simp [List.getD,hi,hj,e])
  omega
theorem qbl (hE : EntsOK r c es) (hD : DistE es) : List.Perm es (can es r c) := by
  rw [List.perm_ext_iff_of_nodup (qcr hD) (qf1 c)]
  intro x
  rw [q69]
  constructor
  · intro hx
    obtain ⟨k,hk,rfl⟩ := Yd hx
    obtain ⟨⟨a1,a2⟩,⟨b1,b2⟩,_⟩ := hE.at hk
    have e1 : ((es.getD k zE).1.toNat : Int) = (es.getD k zE).1 := by omega
    have e2 : ((es.getD k zE).2.1.toNat : Int) = (es.getD k zE).2.1 := by omega
    have hp := q0d (t := es.length) hk e1.symm e2.symm
    obtain ⟨h1,h2,h3⟩ := q0l hp
    refine ⟨_,_,by omega,by omega,hp,?_⟩
    have := hD k _ hk h1 (by rw [h2,e1]) (by rw [h3,e2])
    rw [← this,e1,e2]
  · rintro ⟨i,j,h1,h2,h3,rfl⟩
    obtain ⟨g1,g2,g3⟩ := q0l h3
    rw [show ((i : Int),((j : Int),(es.getD (Qi es i j es.length - 1) zE).2.2)) = es.getD (Qi es i j es.length - 1) zE by rw [← g2,← g3]]
    simp [List.getD,g1]
theorem q54 (hE : EntsOK r c es) (hD : DistE es) {L : List Ent} (h1 : Srt L) (h2 : List.Perm L es) : L = can es r c := by
  refine List.Perm.eq_of_pairwise (le := leE) (fun a b ha hb h3 h4 => ?_) h1 (qht c) (h2.trans (qbl hE hD))
  have ha := h2.mem_iff.1 ha
  have hb := (qbl hE hD).mem_iff.2 hb
  obtain ⟨k,hk,rfl⟩ := Yd ha
  obtain ⟨k',hk',rfl⟩ := Yd hb
  unfold leE ltE at h3 h4
  simp only [Bool.or_eq_false_iff,decide_eq_false_iff_not,Bool.and_eq_false_iff] at h3 h4
  rw [hD k k' hk hk' (by omega) (by omega)]
def cEq (L : List Ent) (j : Nat) : Nat := L.countP fun x => decide (x.2.1 = (j : Int))
def cLt (L : List Ent) (j : Nat) : Nat := L.countP fun x => decide (x.2.1 < (j : Int))
theorem qfu {L : List Ent} {x : Ent} {j : Nat} : cEq (L ++ [x]) j = cEq L j + (if x.2.1 = (j : Int) then 1 else 0) := by
  unfold cEq; rw [List.countP_append]; simp [List.countP_cons]
theorem qfm {L : List Ent} (hx : ∀ x ∈ L,0 ≤ x.2.1) : ∀ {j : Nat},cLt L (j + 1) = cLt L j + cEq L j := by
  intro j
  unfold cLt cEq
  induction L with
  | nil => rfl
  | cons x L ih =>
    have h0 := hx x (List.mem_cons_self ..)
    rw [List.countP_cons,List.countP_cons,List.countP_cons,ih fun y hy => hx y (List.mem_cons_of_mem _ hy)]
    rcases Int.lt_trichotomy x.2.1 (j : Int) with h | h | h
    · have a : x.2.1 < ((j + 1 : Nat) : Int) := by omega
      have b : ¬ x.2.1 = (j : Int) := by omega
      simp only [a,h,b,decide_true,decide_false,if_true,Bool.false_eq_true,if_false]; omega
    · have a : x.2.1 < ((j + 1 : Nat) : Int) := by omega
      have b : ¬ x.2.1 < (j : Int) := by omega
      rw [if_pos (decide_eq_true a),if_neg (by simpa using b),if_pos (decide_eq_true h)]; omega
    · have a : ¬ x.2.1 < ((j + 1 : Nat) : Int) := by omega
      have b : ¬ x.2.1 = (j : Int) := by omega
      have d : ¬ x.2.1 < (j : Int) := by omega
      simp only [a,d,b,decide_false,Bool.false_eq_true,if_false]; omega
theorem qbx (m : Nat) (t1 a0 a1 : Int) (a2 a3 a4 : List Int) (b0 b1 : Int) {L : List Ent} (hc : c ≤ 200) (hL : L.length ≤ 1000000) (hx : ∀ x ∈ L,0 ≤ x.2.1 ∧ x.2.1 < (c : Int)) : ∀ (L2 L1 : List Ent) (n : Nat) (S I V : List Int),L = L1 ++ L2 → L2.length < n →
    S.length = c + 1 → S.getD 0 0 = 0 → (∀ j,j < c → S.getD (j + 1) 0 = (cEq L1 j : Int)) → I = L1.map (·.1) → V = L1.map (·.2.2) →
    ∃ S',g62_L0 m n t1 a0 a1 a2 a3 a4 b0 b1 S I V L (L.length : Int) (L1.length : Int) = some (.inl (t1,(a0,a1,a2,a3,a4,()),(b0,b1,S',L.map (·.1),L.map (·.2.2),()),())) ∧
      S'.length = c + 1 ∧ S'.getD 0 0 = 0 ∧ ∀ j,j < c → S'.getD (j + 1) 0 = (cEq L j : Int)
  | L2,L1,0,S,I,V,_,h,_,_,_,_,_ => absurd h (Nat.not_lt_zero _)
  | [],L1,n + 1,S,I,V,hd,_,h1,h2,h3,h4,h5 => by
    have : L = L1 := by simpa using hd
    subst this
    refine ⟨S,?_,h1,h2,h3⟩
    rw [g62_L0,bif_decide,if_neg (by omega),h4,h5]
  | x :: L2,L1,n + 1,S,I,V,hd,h,h1,h2,h3,h4,h5 => by
    have hlen : L.length = L1.length + 1 + L2.length := by rw [hd]; simp; omega
    have gx : L.getD (0 + (L1.length : Int).toNat) zE = x := by rw [hd]; exact getD_at (by omega)
    obtain ⟨x1,x2⟩ := hx x (by rw [hd]; simp)
    have ex : w_i64 (x.2.1 + 1) = ((x.2.1.toNat + 1 : Nat) : Int) := by rw [w_i64_eq,wi (by omega) (by omega)]; omega
    have il : I.length = L1.length := by rw [h4]; simp
    have vl : V.length = L1.length := by rw [h5]; simp
    have hcnt := h3 x.2.1.toNat (by omega)
    have hcb : cEq L1 x.2.1.toNat ≤ L1.length := List.countP_le_length
    obtain ⟨S',e1,e2,e3,e4⟩ := qbx m t1 a0 a1 a2 a3 a4 b0 b1 hc hL hx L2 (L1 ++ [x]) n (S.set (x.2.1.toNat + 1) ((cEq L1 x.2.1.toNat : Int) + 1)) (I ++ [x.1]) (V ++ [x.2.2]) (by rw [hd]; simp) (by simp at h; omega)
      (by simpa using h1) (by rw [List.getD_eq_getElem?_getD,List.getElem?_set_ne (by omega),← List.getD_eq_getElem?_getD]; exact h2)
      (fun j hj => by
        rw [qfu]
        by_cases e : x.2.1.toNat = j
        · subst e
          rw [if_pos (by omega),List.getD_eq_getElem?_getD,List.getElem?_set_self (by omega)]; simp
        · rw [if_neg (by omega),List.getD_eq_getElem?_getD,List.getElem?_set_ne (by omega),← List.getD_eq_getElem?_getD,h3 j hj]; simp)
      (by rw [h4]; simp) (by rw [h5]; simp)
    refine ⟨S',?_,e2,e3,e4⟩
    rw [g62_L0,bif_decide,if_pos (by omega)]
    simp only [gx,ex]
    rw [if_pos (by omega),if_pos (by simp; omega),if_pos (by simp; omega),if_pos (by omega),if_pos (by omega)]
    rw [show 0 + ((x.2.1.toNat + 1 : Nat) : Int).toNat = x.2.1.toNat + 1 by omega,hcnt,show w_i64 ((cEq L1 x.2.1.toNat : Int) + 1) = (cEq L1 x.2.1.toNat : Int) + 1 by rw [w_i64_eq,wi (by omega) (by omega)]]
    rw [show w_i64 ((L1.length : Int) + 1) = ((L1 ++ [x]).length : Int) by rw [w_i64_eq,wi (by omega) (by omega)]; simp]
    exact e1
theorem qbq (m : Nat) (a0 a1 : Int) (a2 a3 a4 : List Int) (b0 b1 : Int) (b3 b4 : List Int) {L : List Ent} (hc : c ≤ 200) (hL : L.length ≤ 1000000) (hx : ∀ x ∈ L,0 ≤ x.2.1) : ∀ (n j : Nat) (S : List Int),c - j < n → j ≤ c → S.length = c + 1 →
    (∀ t,t ≤ j → S.getD t 0 = (cLt L t : Int)) → (∀ t,j ≤ t → t < c → S.getD (t + 1) 0 = (cEq L t : Int)) →
    ∃ S',g62_L1 m n a0 a1 a2 a3 a4 b0 b1 S b3 b4 (c : Int) (j : Int) = some (.inl ((a0,a1,a2,a3,a4,()),(b0,b1,S',b3,b4,()),())) ∧ S'.length = c + 1 ∧ ∀ t,t ≤ c → S'.getD t 0 = (cLt L t : Int)
  | 0,j,S,h,_,_,_,_ => absurd h (Nat.not_lt_zero _)
  | n + 1,j,S,h,hj,hS,h1,h2 => by
    rw [g62_L1,bif_decide]
    by_cases e : j < c
    · have c1 : cLt L j ≤ L.length := List.countP_le_length
      have c2 : cEq L j ≤ L.length := List.countP_le_length
      rw [if_pos (by omega)]
      simp only [show w_i64 ((j : Int) + 1) = ((j + 1 : Nat) : Int) by rw [w_i64_eq,wi (by omega) (by omega)]; omega]
      rw [if_pos (by omega),if_pos (by omega),if_pos (by omega)]
      rw [show 0 + ((j + 1 : Nat) : Int).toNat = j + 1 by omega,show 0 + (j : Int).toNat = j by omega,h1 j (Nat.le_refl _),h2 j (Nat.le_refl _) e]
      rw [show w_i64 ((cEq L j : Int) + (cLt L j : Int)) = (cLt L (j + 1) : Int) by rw [w_i64_eq,wi (by omega) (by omega),qfm hx]; omega]
      refine qbq m a0 a1 a2 a3 a4 b0 b1 b3 b4 hc hL hx n (j + 1) _ (by omega) (by omega) (by simpa using hS) (fun t ht => ?_) (fun t ht htc => ?_)
      · by_cases g : t = j + 1
        · subst g; rw [List.getD_eq_getElem?_getD,List.getElem?_set_self (by omega)]; rfl
        · rw [List.getD_eq_getElem?_getD,List.getElem?_set_ne (by omega),← List.getD_eq_getElem?_getD]; exact h1 t (by omega)
      · rw [List.getD_eq_getElem?_getD,List.getElem?_set_ne (by omega),← List.getD_eq_getElem?_getD]; exact h2 t (by omega) htc
    · rw [if_neg (by omega)]
      exact ⟨S,rfl,hS,fun t ht => h1 t (by omega)⟩
theorem q9j : ∀ {c t : Nat},t ≤ c → cLt (can es r c) t = (packI es r t).length
  | 0,t,h => by
    have : t = 0 := by omega
    subst this; rfl
  | c + 1,t,h => by
    unfold cLt
    rw [can,List.countP_append]
    by_cases e : t = c + 1
    · subst e
      have h1 : (can es r c).countP (fun x => decide (x.2.1 < ((c + 1 : Nat) : Int))) = (can es r c).length := List.countP_eq_length.2 fun x hx => by
        obtain ⟨i,j,_,h2,_,rfl⟩ := q69.1 hx
        simp; omega
      have h2 : (canE es r c).countP (fun x => decide (x.2.1 < ((c + 1 : Nat) : Int))) = (canE es r c).length := List.countP_eq_length.2 fun x hx => by
        obtain ⟨i,_,_,rfl⟩ := q2r.1 hx
        simp; omega
      rw [h1,h2,← List.length_append,← can_I (c + 1),can]; simp
    · have h2 : (canE es r c).countP (fun x => decide (x.2.1 < (t : Int))) = 0 := List.countP_eq_zero.2 fun x hx => by
        obtain ⟨i,_,_,rfl⟩ := q2r.1 hx
        simp; omega
      rw [h2,Nat.add_zero]
      exact q9j (c := c) (by omega)
theorem qfy {m : Nat} (hE : EntsOK r c es) (hD : DistE es) (hr : r ≤ 200) (hc : c ≤ 200) (hl : es.length ≤ 1000000) (hm : 2000300 < m) :
    g62 m (r : Int) (c : Int) es = some (((r : Int),(c : Int),packS es r c,packI es r c,packV es r c,()),((),(),(),())) := by
  obtain ⟨L,h1,h2,h3⟩ := g59_eq (m := m) es (by omega) (by omega)
  have hL := q54 hE hD h2 h3
  have hlen := h3.length_eq
  have hmem : ∀ x ∈ L,0 ≤ x.2.1 ∧ x.2.1 < (c : Int) := fun x hx => by
    obtain ⟨k,hk,rfl⟩ := Yd (h3.mem_iff.1 hx)
    exact (hE.at hk).2.1
  obtain ⟨S1,e1,e2,e3,e4⟩ := qbx m (c : Int) 0 0 [] [] [] (r : Int) (c : Int) hc (by omega) hmem L [] m (List.replicate (c + 1) 0) [] [] rfl (by omega) (by simp) (by simp) (fun j hj => by simp [cEq,List.getD,hj]) rfl rfl
  obtain ⟨S2,f1,f2,f3⟩ := qbq m 0 0 [] [] [] (r : Int) (c : Int) (L.map (·.1)) (L.map (·.2.2)) hc (by omega) (fun x hx => (hmem x hx).1) m 0 S1 (by omega) (by omega) e2
    (fun t ht => by
      have : t = 0 := by omega
      subst this
      rw [e3]
      have : cLt L 0 = 0 := List.countP_eq_zero.2 fun x hx => by have := (hmem x hx).1; simp; omega
      rw [this]; rfl) (fun t _ ht => e4 t ht)
  have hS : S2 = packS es r c := by
    refine List.ext_getElem (by rw [f2]; simp [packS]) fun t ht ht' => ?_
    have htc : t ≤ c := by omega
    have := f3 t htc
    rw [List.getD_eq_getElem?_getD,List.getElem?_eq_getElem ht,Option.getD_some] at this
    rw [this,hL,q9j htc]
    simp [packS]
  rw [g62,if_pos (by rw [w_i64_eq,wi (by omega) (by omega)]; omega),h1]
  simp only [Option.bind_some]
  rw [show (w_i64 ((c : Int) + 1)).toNat = c + 1 by rw [w_i64_eq,wi (by omega) (by omega)]; omega]
  have e1' : g62_L0 m m (c : Int) 0 0 [] [] [] (r : Int) (c : Int) (List.replicate (c + 1) 0) [] [] L (L.length : Int) 0 = _ := e1
  have f1' : g62_L1 m m 0 0 [] [] [] (r : Int) (c : Int) S1 (L.map (·.1)) (L.map (·.2.2)) (c : Int) 0 = _ := f1
  rw [e1']
  simp only [Option.bind_some]
  rw [f1']
  simp only [Option.bind_some]
  rw [hS,hL,can_I,can_V]
end
end
section
section
variable {R C : Nat} {S I V : List Int}
end
end
section
end
section
theorem Y5 {α : Type} {L : List α} {i : Nat} {d : α} (h : L.length ≤ i) : L.getD i d = d := by
  rw [List.getD,List.getElem?_eq_none h]; rfl
end
section
end
section
theorem qf4 {α : Type} {L : List α} {k j : Nat} {x d : α} (h : k < L.length) : (L.set k x).getD j d = if j = k then x else L.getD j d := by
  by_cases e : k = j
  · subst e; rw [q38 h,if_pos rfl]
  · rw [getD_set_ne e,if_neg (Ne.symm e)]
end
section
variable {S I V : List Int} {N : Nat}
end
end Go.Vs.F
