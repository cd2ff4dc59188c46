/- Matrices: checks, entries, building, permuting (turned from the matching laws). -/
import Derived.Test.YtjjndhlkoehkdaaGreatDoorVc
import Derived.Test.YtjjndhlkoehkdaaGreatDoorFn

/-! MzLa -/
set_option linter.unusedVariables false
set_option linter.unusedSimpArgs false
set_option maxRecDepth 100000
namespace Go.Vs.F
section
theorem qip (m : Nat) (a b : List Int) (hl : a.length = b.length) (hb : a.length < 4611686018427387904) : ∀ (n k : Nat),a.length - k < n →
    g56_L0 m n a b (k : Int) = some (if a.drop k = b.drop k then .inr (.inl ()) else .inl (false,()))
  | 0,k,h => by omega
  | n + 1,k,h => by
    rw [g56_L0]
    by_cases hk : k < a.length
    · have hk' : k < b.length := by omega
      have h1 : ((k : Int) < (a.length : Int)) := by omega
      have h2 : ((k : Int) < (b.length : Int)) := by omega
      simp only [bif_decide,h1,h2,if_true,bif_ne,Int.toNat_natCast,Int.natCast_nonneg,and_self,wsucc (show k < 4611686018427387904 by omega)]
      rw [drop_cons (d := 0) hk,drop_cons (d := 0) hk',qip m a b hl hb n (k + 1) (by omega)]
      by_cases e : a.getD k 0 = b.getD k 0
      · simp only [e,if_true,List.cons.injEq,true_and]
      · simp only [e,if_false,List.cons.injEq,false_and]
    · have h1 : ¬ ((k : Int) < (a.length : Int)) := by omega
      simp only [bif_decide,h1,if_false]
      rw [drop_nil' hk,drop_nil' (by omega : ¬ k < b.length)]; simp
theorem qi0 {x : Int} : 0 ≤ qx .u64 x 2047 ∧ qx .u64 x 2047 < 2048 := by
  unfold qx
  have h : (BitVec.ofInt IntKind.u64.bits x &&& BitVec.ofInt IntKind.u64.bits 2047).toNat < 2048 := by
    rw [BitVec.toNat_and]
    have : (BitVec.ofInt IntKind.u64.bits 2047).toNat = 2047 := by decide
    rw [this]
    exact Nat.lt_of_le_of_lt Nat.and_le_right (by decide)
  generalize (BitVec.ofInt IntKind.u64.bits x &&& BitVec.ofInt IntKind.u64.bits 2047).toNat = y at h
  rw [wu (by omega) (by omega)]; omega
def finB (x : Int) : Bool := qx .u64 (shr_ .u64 x 52) 2047 != 2047
theorem q3k {m : Nat} {x : Int} : g58 m x = some (finB x,(),()) := by
  rw [g58,g81]
  have := qi0 (x := shr_ .u64 x 52)
  simp only [Option.bind_some,wi (show (-9223372036854775808 : Int) ≤ qx .u64 (shr_ .u64 x 52) 2047 by omega) (by omega)]
  rfl
theorem q9f (m : Nat) (a : List Int) (hb : a.length < 4611686018427387904) : ∀ (n k : Nat),a.length - k < n →
    g68_L0 m n a (k : Int) = some (bif Q7 (fun i => finB (a.getD i 0)) k a.length then .inr (.inl ()) else .inl (false,()))
  | 0,k,h => by omega
  | n + 1,k,h => by
    rw [g68_L0]
    by_cases hk : k < a.length
    · have h1 : ((k : Int) < (a.length : Int)) := by omega
      simp only [bif_decide,h1,if_true,Int.toNat_natCast,Int.natCast_nonneg,and_self,wsucc (show k < 4611686018427387904 by omega),g63,Option.bind_some]
      rw [Qr hk,q9f m a hb n (k + 1) (by omega)]
      show (bif !(finB (a.getD k 0)) then _ else _) = _
      cases finB (a.getD k 0) <;> simp
    · have h1 : ¬ ((k : Int) < (a.length : Int)) := by omega
      simp only [bif_decide,h1,if_false]
      rw [X3 hk]; rfl
def finL (a : List Int) : Bool := Q7 (fun i => finB (a.getD i 0)) 0 a.length
theorem q0u {m : Nat} {a : List Int} (h : a.length < m) (hb : a.length < 4611686018427387904) : g68 m a = some (finL a,(),()) := by
  rw [g68]
  have := q9f m a hb m 0 (by omega)
  simp only [Int.cast_ofNat_Int,Int.natCast_zero,Int.ofNat_zero] at this
  rw [this]
  unfold finL
  cases Q7 (fun i => finB (a.getD i 0)) 0 a.length <;> rfl
theorem q2t (m : Nat) (a : List Int) (hb : a.length < 4611686018427387904) : ∀ (n k : Nat),a.length - k < n →
    ∃ j : Nat,g158_L0 m n a (a.length : Int) (k : Int) = some (bif Q7 (fun i => finB (a.getD i 0)) k a.length then .inr (.inl ()) else .inl ((j : Int),()))
  | 0,k,h => by omega
  | n + 1,k,h => by
    rw [g158_L0]
    by_cases hk : k < a.length
    · have h1 : ((k : Int) < (a.length : Int)) := by omega
      obtain ⟨j,hj⟩ := q2t m a hb n (k + 1) (by omega)
      simp only [bif_decide,h1,if_true,Int.toNat_natCast,Int.natCast_nonneg,and_self,wsucc (show k < 4611686018427387904 by omega),g104,q3k,Option.bind_some]
      rw [Qr hk,hj]
      cases finB (a.getD k 0)
      · exact ⟨k,by simp⟩
      · exact ⟨j,by simp⟩
    · have h1 : ¬ ((k : Int) < (a.length : Int)) := by omega
      simp only [bif_decide,h1,if_false]
      rw [X3 hk]; exact ⟨0,rfl⟩
theorem q4j {m : Nat} {a : List Int} (h : a.length < m) (hb : a.length < 4611686018427387904) : g103 m a = some (!finL a,(),(),()) := by
  rw [g103,g158]
  obtain ⟨j,this⟩ := q2t m a hb m 0 (by omega)
  simp only [Int.cast_ofNat_Int,Int.natCast_zero,Int.ofNat_zero] at this
  rw [this]
  unfold finL
  cases Q7 (fun i => finB (a.getD i 0)) 0 a.length
  · simp
  · simp
end
section
def le2 (S : List Int) (i : Nat) : Bool := decide (S.getD i 0 ≤ S.getD (i + 1) 0)
theorem q4u (m : Nat) (S : List Int) (hb : S.length < 4611686018427387904) : ∀ (n k : Nat),k < n → k < S.length →
    g157_L0 m n S (k : Int) = some (bif Q7 (le2 S) 0 k then .inr (.inl ()) else .inl (false,()))
  | 0,k,h,_ => by omega
  | n + 1,0,h,h0 => by
    rw [g157_L0]
    simp [Q7]
  | n + 1,k + 1,h,h0 => by
    rw [g157_L0]
    have h1 : (((k + 1 : Nat) : Int) > 0) := by omega
    have h2 : (((k + 1 : Nat) : Int) < (S.length : Int)) := by omega
    have h3 : ((k : Int) < (S.length : Int)) := by omega
    have hp : IntKind.wrap .i64 (((k + 1 : Nat) : Int) - 1) = (k : Int) := by rw [wi (by omega) (by omega)]; omega
    have e1 : S.getD (k + 1) 0 ≠ S.getD (k + 1) 0 ↔ False := by simp
    simp only [bif_decide,h1,h2,h3,if_true,hp,Int.toNat_natCast,Int.natCast_nonneg,and_self,g186,g168,Option.bind_some,bif_ne]
    rw [q4u m S hb n k (by omega) (by omega)]
    have e : Q7 (le2 S) 0 (k + 1) = (Q7 (le2 S) 0 k && le2 S k) := by
      rw [Bool.eq_iff_iff,Bool.and_eq_true,Q8,Q8]
      constructor
      · intro h; exact ⟨fun i a b => h i a (by omega),h k (by omega) (by omega)⟩
      · rintro ⟨g1,g2⟩ i a b
        rcases Nat.lt_or_ge i k with h | h
        · exact g1 i a h
        · have : i = k := by omega
          rw [this]; exact g2
    rw [e]
    unfold le2
    by_cases hlt : S.getD (k + 1) 0 < S.getD k 0
    · have : ¬ S.getD k 0 ≤ S.getD (k + 1) 0 := by omega
      simp [-List.getD_eq_getElem?_getD,hlt,this]
    · have : S.getD k 0 ≤ S.getD (k + 1) 0 := by omega
      simp [-List.getD_eq_getElem?_getD,hlt,this]
theorem qbk {m : Nat} {S : List Int} (h : S.length < m) (h0 : 0 < S.length) (hb : S.length < 4611686018427387904) : g157 m S = some (Q7 (le2 S) 0 (S.length - 1),(),()) := by
  rw [g157,show w_i64 ((S.length : Int) - 1) = ((S.length - 1 : Nat) : Int) by show IntKind.wrap .i64 _ = _; rw [wi (by omega) (by omega)]; omega,q4u m S hb m (S.length - 1) (by omega) (by omega)]
  cases Q7 (le2 S) 0 (S.length - 1) <;> rfl
def ascB (R : Int) : Int → List Int → Bool
  | _,[] => true
  | l,x :: xs => (decide (l < x) && decide (x < R)) && ascB R x xs
theorem q6i (m : Nat) (R C : Int) (S I V xs : List Int) (a b : Int) (hb : xs.length < 4611686018427387904) : ∀ (n k : Nat) (l : Int),xs.length - k < n →
    g102_L1 m n R C S I V l a b xs (xs.length : Int) (k : Int) = some (bif ascB R l (xs.drop k) then .inr (.inl ((R,C,S,I,V,()),a,b,())) else .inl (false,()))
  | 0,k,_,h => by omega
  | n + 1,k,l,h => by
    rw [g102_L1]
    by_cases hk : k < xs.length
    · have h1 : ((k : Int) < (xs.length : Int)) := by omega
      simp only [bif_decide,h1,if_true,Int.toNat_natCast,Int.natCast_nonneg,and_self,wsucc (show k < 4611686018427387904 by omega)]
      rw [drop_cons (d := 0) hk,q6i m R C S I V xs a b hb n (k + 1) _ (by omega),ascB]
      by_cases e1 : xs.getD k 0 ≤ l
      · have e2 : ¬ l < xs.getD k 0 := by omega
        simp [-List.getD_eq_getElem?_getD,e1,e2]
      · have e2 : l < xs.getD k 0 := by omega
        by_cases e3 : xs.getD k 0 ≥ R
        · have e4 : ¬ xs.getD k 0 < R := by omega
          simp [-List.getD_eq_getElem?_getD,e1,e2,e3,e4]
        · have e4 : xs.getD k 0 < R := by omega
          simp [-List.getD_eq_getElem?_getD,e1,e2,e3,e4]
    · have h1 : ¬ ((k : Int) < (xs.length : Int)) := by omega
      simp only [bif_decide,h1,if_false]
      rw [drop_nil' hk]; rfl
def colOf (S I : List Int) (j : Nat) : List Int := (I.drop (S.getD j 0).toNat).take ((S.getD (j + 1) 0).toNat - (S.getD j 0).toNat)
structure StartOK (C : Nat) (S I : List Int) : Prop where
  len : S.length = C + 1
  s0 : S.getD 0 0 = 0
  mono : ∀ j,j < C → S.getD j 0 ≤ S.getD (j + 1) 0
  last : S.getD C 0 = (I.length : Int)
theorem StartOK.le {C : Nat} {S I : List Int} (h : StartOK C S I) : ∀ {i j : Nat},i ≤ j → j ≤ C → S.getD i 0 ≤ S.getD j 0
  | i,0,h1,h2 => by have : i = 0 := by omega
                    subst this; exact Int.le_refl _
  | i,j + 1,h1,h2 => by
    rcases Nat.lt_or_ge i (j + 1) with h3 | h3
    · exact Int.le_trans (h.le (by omega) (by omega)) (h.mono j (by omega))
    · have : i = j + 1 := by omega
      subst this; exact Int.le_refl _
theorem StartOK.rng {C : Nat} {S I : List Int} (h : StartOK C S I) {j : Nat} (hj : j ≤ C) : 0 ≤ S.getD j 0 ∧ S.getD j 0 ≤ (I.length : Int) := by
  have a := h.le (Nat.zero_le j) hj
  have b := h.le hj (Nat.le_refl C)
  rw [h.s0] at a; rw [h.last] at b
  exact ⟨a,b⟩
theorem Zb {C : Nat} {S I : List Int} (h : StartOK C S I) {j : Nat} (hj : j < C) : (colOf S I j).length = (S.getD (j + 1) 0).toNat - (S.getD j 0).toNat := by
  have a := h.rng (j := j) (by omega)
  have b := h.rng (j := j + 1) (by omega)
  unfold colOf
  rw [List.length_take,List.length_drop]; omega
theorem q9i {C : Nat} {S I : List Int} (h : StartOK C S I) {j : Nat} (hj : j < C) {k : Nat} (hk : k < (colOf S I j).length) : (colOf S I j).getD k 0 = I.getD ((S.getD j 0).toNat + k) 0 := by
  rw [Zb h hj] at hk
  unfold colOf
  rw [getD_take hk,getD_drop]
theorem q67 (m : Nat) (R C : Int) (c : Nat) (S I V : List Int) (hC : C = (c : Int)) (hok : StartOK c S I) (hb : I.length < 4611686018427387904) (hc : c < 4611686018427387904) (hm : I.length < m) : ∀ (n k : Nat),c - k < n → k ≤ c →
    g102_L0 m n R C S I V C (k : Int) = some (bif Q7 (fun j => ascB R (-1) (colOf S I j)) k c then .inr (.inl ()) else .inl (false,()))
  | 0,k,h,_ => by omega
  | n + 1,k,h,hk0 => by
    rw [g102_L0]
    subst hC
    by_cases hk : k < c
    · have h1 : ((k : Int) < (c : Int)) := by omega
      have hl := hok.len
      have h2 : ((k : Int) < (S.length : Int)) := by omega
      have h3 : (((k + 1 : Nat) : Int) < (S.length : Int)) := by omega
      have a := hok.rng (j := k) (by omega)
      have b := hok.rng (j := k + 1) (by omega)
      have d := hok.mono k hk
      have hlen : (colOf S I k).length ≤ I.length := by rw [Zb hok hk]; omega
      simp only [bif_decide,h1,h2,h3,if_true,Int.toNat_natCast,Int.natCast_nonneg,and_self,wsucc (show k < 4611686018427387904 by omega),a.1,b.2,d]
      have e := q6i m R (c : Int) S I V (colOf S I k) (c : Int) (k : Int) (by omega) m 0 (-1) (by omega)
      simp only [Int.cast_ofNat_Int,Int.natCast_zero,Int.ofNat_zero,List.drop_zero] at e
      unfold colOf at e ⊢
      rw [e,Qr hk]
      cases hA : ascB R (-1) ((I.drop (S.getD k 0).toNat).take ((S.getD (k + 1) 0).toNat - (S.getD k 0).toNat))
      · simp
      · have := q67 m R (c : Int) c S I V rfl hok hb hc hm n (k + 1) (by omega) (by omega)
        unfold colOf at this
        simp only [cond_true,Bool.true_and,Option.bind_some,wsucc (show k < 4611686018427387904 by omega)]
        exact this
    · have h1 : ¬ ((k : Int) < (c : Int)) := by omega
      simp only [bif_decide,h1,if_false]
      rw [X3 hk]; rfl
def entOK (R : Int) (S I : List Int) (j k : Nat) : Bool :=
  decide (0 ≤ I.getD k 0) && decide (I.getD k 0 < R) && (!decide ((S.getD j 0).toNat < k) || decide (I.getD (k - 1) 0 < I.getD k 0))
def q1b (R : Int) (S I : List Int) (j : Nat) : Bool := Q7 (entOK R S I j) (S.getD j 0).toNat (S.getD (j + 1) 0).toNat
theorem qct (R : Int) (I : List Int) (s e : Nat) (he : e ≤ I.length) : ∀ (d k : Nat) (l : Int),e - k = d → s ≤ k → -1 ≤ l → (k = s → l = -1) → (s < k → l = I.getD (k - 1) 0) →
    ascB R l ((I.drop k).take (e - k)) = Q7 (fun k => decide (0 ≤ I.getD k 0) && decide (I.getD k 0 < R) && (!decide (s < k) || decide (I.getD (k - 1) 0 < I.getD k 0))) k e
  | 0,k,l,hd,hk,hl,h1,h2 => by
    rw [hd,X3 (by omega)]; simp [ascB]
  | d + 1,k,l,hd,hk,hl,h1,h2 => by
    have hke : k < e := by omega
    have hki : k < I.length := by omega
    rw [Qr hke,drop_cons (d := 0) hki,hd,List.take_succ_cons,ascB]
    by_cases hx : l < I.getD k 0
    · have ih := qct R I s e he d (k + 1) (I.getD k 0) (by omega) (by omega) (by omega) (by omega) (fun _ => by simp)
      rw [show e - (k + 1) = d by omega] at ih
      rw [ih]
      have h0 : 0 ≤ I.getD k 0 := by omega
      by_cases hs : s < k
      · have := h2 hs
        simp [-List.getD_eq_getElem?_getD,hx,h0,hs,← this]
      · simp [-List.getD_eq_getElem?_getD,hx,h0,hs]
    · by_cases hs : s < k
      · have := h2 hs
        simp [-List.getD_eq_getElem?_getD,hx,hs,← this]
      · have : l = -1 := h1 (by omega)
        have h0 : ¬ 0 ≤ I.getD k 0 := by omega
        simp [-List.getD_eq_getElem?_getD,hx,h0]
theorem q8u {R : Int} {C : Nat} {S I : List Int} (h : StartOK C S I) {j : Nat} (hj : j < C) : ascB R (-1) (colOf S I j) = q1b R S I j := by
  have a := h.rng (j := j) (by omega)
  have b := h.rng (j := j + 1) (by omega)
  exact qct R I _ _ (by omega) _ _ _ rfl (Nat.le_refl _) (by omega) (fun _ => rfl) (fun h => absurd h (Nat.lt_irrefl _))
def strB (R C : Int) (S I V : List Int) : Bool :=
  decide ((S.length : Int) = C + 1) && decide (S.getD 0 0 = 0) && Q7 (le2 S) 0 C.toNat && decide (S.getD C.toNat 0 = (I.length : Int)) && decide (I.length = V.length) && Q7 (fun j => q1b R S I j) 0 C.toNat
theorem qdn {m : Nat} {R C : Int} {S I V : List Int} (hC : 0 ≤ C) (hC2 : C ≤ 200) (hI : I.length ≤ 10000) (hS : S.length < m) (hm : 11000 < m) (hb : S.length < 4611686018427387904) :
    g102 m R C S I V = some (strB R C S I V,(),()) := by
  obtain ⟨c,rfl⟩ : ∃ c : Nat,C = (c : Int) := ⟨C.toNat,by omega⟩
  rw [g102,strB]
  simp only [bif_ne,wi (show (-9223372036854775808 : Int) ≤ (c : Int) + 1 by omega) (by omega),Int.toNat_natCast]
  by_cases h1 : (S.length : Int) = (c : Int) + 1
  · have hl : S.length = c + 1 := by omega
    have h2 : (0 : Int) ≤ 0 ∧ (0 : Int) < (S.length : Int) := by omega
    simp only [h1,if_true,decide_true,Bool.true_and]
    rw [← h1,if_pos h2]
    by_cases h3 : S.getD 0 0 = 0
    · rw [qbk hS (by omega) hb]
      simp only [h3,if_true,decide_true,Bool.true_and,Option.bind_some,show S.length - 1 = c by omega]
      cases h4 : Q7 (le2 S) 0 c
      · simp
      · have h5 : (0 : Int) ≤ (c : Int) ∧ (c : Int) < (S.length : Int) := by omega
        simp only [bif_not,cond_true,Bool.true_and]
        rw [if_pos h5]
        by_cases h6 : S.getD c 0 = (I.length : Int)
        · by_cases h7 : I.length = V.length
          · have h8 : (I.length : Int) = (V.length : Int) := by omega
            have hok : StartOK c S I := ⟨hl,h3,fun j hj => by
              have := Q8.1 h4 j (by omega) hj
              simpa [-List.getD_eq_getElem?_getD,le2] using this,h6⟩
            have := q67 m R (c : Int) c S I V rfl hok (by omega) (by omega) (by omega) m 0 (by omega) (by omega)
            simp only [Int.cast_ofNat_Int,Int.natCast_zero,Int.ofNat_zero] at this
            rw [if_pos h6,if_pos h8,this,q7k (q := fun j => q1b R S I j) (fun j _ hj => q8u hok hj)]
            simp only [h6,h7,decide_true,Bool.true_and]
            cases Q7 (fun j => q1b R S I j) 0 c <;> rfl
          · have h8 : ¬ (I.length : Int) = (V.length : Int) := by omega
            rw [if_pos h6,if_neg h8]
            simp [h7]
        · rw [if_neg h6]
          simp [-List.getD_eq_getElem?_getD,h6]
    · rw [if_neg h3]
      simp [-List.getD_eq_getElem?_getD,h3]
  · rw [if_neg h1]
    simp [h1]
def chk (R C : Int) (S I V : List Int) : Int :=
  if (decide (0 ≤ R) && decide (R ≤ 200) && decide (0 ≤ C) && decide (C ≤ 200) && decide (I.length ≤ 10000)) = false then 6 else if strB R C S I V = false then 1 else if finL V = false then 4 else 0
theorem q9p {m : Nat} {n lo hi : Int} : g57 m n lo hi = some (decide (lo ≤ n) && decide (n ≤ hi),(),(),(),()) := by
  rw [g57]
  by_cases h : n ≥ lo
  · have : lo ≤ n := h
    simp [h,this]
  · have : ¬ lo ≤ n := h
    simp [h,this]
theorem g44_eq {m : Nat} {R C : Int} {S I V : List Int} (hS : S.length < m) (hV : V.length < m) (hm : 11000 < m) (hb : S.length < 4611686018427387904) (hv : V.length < 4611686018427387904) :
    g44 m R C S I V = some (chk R C S I V,(),()) := by
  rw [g44,chk,q9p,q9p]
  by_cases h1 : 0 ≤ R <;> by_cases h2 : R ≤ 200 <;> by_cases h3 : 0 ≤ C <;> by_cases h4 : C ≤ 200 <;> simp [h1,h2,h3,h4]
  by_cases h5 : I.length ≤ 10000
  · have h6 : ¬ (10000 : Int) < (I.length : Int) := by omega
    have h7 : ¬ 10000 < I.length := by omega
    rw [qdn h3 h4 h5 hS hm hb,q4j hV hv]
    simp only [h6,h7,h5,if_false,Option.bind_some]
    cases strB R C S I V
    · simp
    · cases finL V <;> simp
  · have h6 : (10000 : Int) < (I.length : Int) := by omega
    have h7 : 10000 < I.length := by omega
    simp [h5,h6,h7]
end
section
theorem q59 (m : Nat) (R C : Int) (c : Nat) (S I V : List Int) (hC : C = (c : Int)) (hl : S.length = c + 1) (hc : c < 4611686018427387904) : ∀ (n k : Nat),c - k < n → k ≤ c →
    g45_L0 m n R C S I V (k : Int) = some (bif Q7 (le2 S) k c then .inr (.inl ((R,C,S,I,V,()),())) else .inl (1,()))
  | 0,k,h,_ => by omega
  | n + 1,k,h,h0 => by
    rw [g45_L0]
    subst hC
    by_cases hk : k < c
    · have h1 : ((k : Int) < (c : Int)) := by omega
      have h2 : ((k : Int) < (S.length : Int)) := by omega
      have h3 : (((k + 1 : Nat) : Int) < (S.length : Int)) := by omega
      simp only [bif_decide,h1,h2,h3,if_true,Int.toNat_natCast,Int.natCast_nonneg,and_self,wsucc (show k < 4611686018427387904 by omega)]
      rw [q59 m R (c : Int) c S I V rfl hl hc n (k + 1) (by omega) (by omega),Qr hk,le2]
      by_cases hx : S.getD k 0 > S.getD (k + 1) 0
      · have : ¬ S.getD k 0 ≤ S.getD (k + 1) 0 := by omega
        simp [-List.getD_eq_getElem?_getD,hx,this]
      · have : S.getD k 0 ≤ S.getD (k + 1) 0 := by omega
        simp [-List.getD_eq_getElem?_getD,hx,this]
    · have h1 : ¬ ((k : Int) < (c : Int)) := by omega
      simp only [bif_decide,h1,if_false]
      rw [X3 hk]; rfl
theorem q3n (m : Nat) (R C : Int) (c j : Nat) (S I V : List Int) (hC : C = (c : Int)) (hok : StartOK c S I) (hj : j < c) (hc : c < 4611686018427387904) (hb : I.length < 4611686018427387904) : ∀ (n k : Nat),(S.getD (j + 1) 0).toNat - k < n → (S.getD j 0).toNat ≤ k →
    g45_L2 m n R C S I V (j : Int) (k : Int) = some (bif Q7 (entOK R S I j) k (S.getD (j + 1) 0).toNat then .inr (.inl ((R,C,S,I,V,()),(j : Int),())) else .inl (1,()))
  | 0,k,h,_ => by omega
  | n + 1,k,h,h0 => by
    rw [g45_L2]
    subst hC
    have hl := hok.len
    have a := hok.rng (j := j) (by omega)
    have b := hok.rng (j := j + 1) (by omega)
    have h2 : ((j : Int) < (S.length : Int)) := by omega
    have h3 : (((j + 1 : Nat) : Int) < (S.length : Int)) := by omega
    simp only [bif_decide,h2,h3,if_true,Int.toNat_natCast,Int.natCast_nonneg,and_self,wsucc (show j < 4611686018427387904 by omega)]
    by_cases hk : k < (S.getD (j + 1) 0).toNat
    · have h1 : ((k : Int) < S.getD (j + 1) 0) := by omega
      have h4 : ((k : Int) < (I.length : Int)) := by omega
      simp only [h1,h4,if_true,and_self,wsucc (show k < 4611686018427387904 by omega)]
      rw [q3n m R (c : Int) c j S I V rfl hok hj hc hb n (k + 1) (by omega) (by omega),Qr hk,entOK]
      by_cases e1 : I.getD k 0 < 0
      · have e2 : ¬ 0 ≤ I.getD k 0 := by omega
        simp only [e1,e2,if_true,decide_false,Bool.false_and,cond_false]
      · have e2 : 0 ≤ I.getD k 0 := by omega
        by_cases e3 : I.getD k 0 ≥ R
        · have e4 : ¬ I.getD k 0 < R := by omega
          simp only [e1,e2,e3,e4,if_true,if_false,decide_false,decide_true,Bool.false_and,Bool.true_and,cond_false]
        · have e4 : I.getD k 0 < R := by omega
          simp only [e1,e2,e3,e4,if_false,decide_true,Bool.true_and]
          by_cases e5 : (k : Int) > S.getD j 0
          · have e6 : (S.getD j 0).toNat < k := by omega
            have e7 : (0 : Int) ≤ ((k - 1 : Nat) : Int) ∧ ((k - 1 : Nat) : Int) < (I.length : Int) := by omega
            simp only [e5,e6,if_true,decide_true,Bool.not_true,Bool.false_or,wpred (show k < 4611686018427387904 by omega) (show 0 < k by omega),e7,and_self,Int.toNat_natCast]
            by_cases e8 : I.getD k 0 ≤ I.getD (k - 1) 0
            · have e9 : ¬ I.getD (k - 1) 0 < I.getD k 0 := by omega
              simp only [e8,e9,if_true,decide_false,Bool.false_and,cond_false]
            · have e9 : I.getD (k - 1) 0 < I.getD k 0 := by omega
              simp only [e8,e9,if_false,decide_true,Bool.true_and]
          · have e6 : ¬ (S.getD j 0).toNat < k := by omega
            simp only [e5,e6,if_false,decide_false,Bool.not_false,Bool.true_or,Bool.true_and]
    · have h1 : ¬ ((k : Int) < S.getD (j + 1) 0) := by omega
      simp only [h1,if_false]
      rw [X3 hk]; rfl
theorem q4b (m : Nat) (R C : Int) (c : Nat) (S I V : List Int) (hC : C = (c : Int)) (hok : StartOK c S I) (hc : c < 4611686018427387904) (hb : I.length < 4611686018427387904) (hm : I.length < m) : ∀ (n k : Nat),c - k < n → k ≤ c →
    g45_L1 m n R C S I V (k : Int) = some (bif Q7 (fun j => q1b R S I j) k c then .inr (.inl ((R,C,S,I,V,()),())) else .inl (1,()))
  | 0,k,h,_ => by omega
  | n + 1,k,h,h0 => by
    rw [g45_L1]
    subst hC
    have hl := hok.len
    by_cases hk : k < c
    · have h1 : ((k : Int) < (c : Int)) := by omega
      have h2 : ((k : Int) < (S.length : Int)) := by omega
      have a := hok.rng (j := k) (by omega)
      have b := hok.rng (j := k + 1) (by omega)
      have e := q3n m R (c : Int) c k S I V rfl hok hk hc hb m (S.getD k 0).toNat (by omega) (Nat.le_refl _)
      rw [show (((S.getD k 0).toNat : Nat) : Int) = S.getD k 0 by omega] at e
      simp only [bif_decide,h1,h2,if_true,Int.toNat_natCast,Int.natCast_nonneg,and_self]
      rw [e,Qr hk]
      show _ = some (bif (q1b R S I k && _) then _ else _)
      rw [q1b]
      cases Q7 (entOK R S I k) (S.getD k 0).toNat (S.getD (k + 1) 0).toNat
      · rfl
      · simp only [cond_true,Bool.true_and,Option.bind_some,wsucc (show k < 4611686018427387904 by omega)]
        exact q4b m R (c : Int) c S I V rfl hok hc hb hm n (k + 1) (by omega) (by omega)
    · have h1 : ¬ ((k : Int) < (c : Int)) := by omega
      simp only [bif_decide,h1,if_false]
      rw [X3 hk]; rfl
theorem X4 {m : Nat} {R C : Int} {S I V : List Int} (hV : V.length < m) (hm : 11000 < m) (hv : V.length < 4611686018427387904) :
    g45 m R C S I V = some (chk R C S I V,(),()) := by
  rw [g45,chk]
  by_cases h1 : 0 ≤ R
  · have h1' : ¬ R < 0 := by omega
    by_cases h2 : R ≤ 200
    · have h2' : ¬ R > 200 := by omega
      by_cases h3 : 0 ≤ C
      · have h3' : ¬ C < 0 := by omega
        by_cases h4 : C ≤ 200
        · have h4' : ¬ C > 200 := by omega
          by_cases h5 : I.length ≤ 10000
          · have h5' : ¬ (I.length : Int) > 10000 := by omega
            obtain ⟨c,rfl⟩ : ∃ c : Nat,C = (c : Int) := ⟨C.toNat,by omega⟩
            simp only [bif_decide,h1,h1',h2,h2',h3,h3',h4,h4',h5,h5',if_false,decide_true,Bool.and_self,Bool.true_eq_false,strB,bif_ne,wi (show (-9223372036854775808 : Int) ≤ (c : Int) + 1 by omega) (by omega),Int.toNat_natCast]
            by_cases g1 : I.length = V.length
            · have g1' : (V.length : Int) = (I.length : Int) := by omega
              simp only [g1',if_true]
              by_cases g2 : (S.length : Int) = (c : Int) + 1
              · have hl : S.length = c + 1 := by omega
                have g3 : (0 : Int) ≤ 0 ∧ (0 : Int) < (S.length : Int) := by omega
                simp only [g2,if_true]
                rw [← g2,if_pos g3]
                by_cases g4 : S.getD 0 0 = 0
                · have g5 : (True ∧ (c : Int) < (S.length : Int)) := ⟨trivial,by omega⟩
                  simp only [g4,if_true]
                  rw [if_pos g5]
                  by_cases g6 : S.getD c 0 = (I.length : Int)
                  · simp only [g6,if_true]
                    have e0 := q59 m R (c : Int) c S I V rfl hl (by omega) m 0 (by omega) (by omega)
                    simp only [Int.cast_ofNat_Int,Int.natCast_zero,Int.ofNat_zero] at e0
                    rw [e0]
                    cases h7 : Q7 (le2 S) 0 c
                    · simp
                    · have hok : StartOK c S I := ⟨hl,g4,fun j hj => by
                        have := Q8.1 h7 j (by omega) hj
                        simpa [-List.getD_eq_getElem?_getD,le2] using this,g6⟩
                      have e1 := q4b m R (c : Int) c S I V rfl hok (by omega) (by omega) (by omega) m 0 (by omega) (by omega)
                      simp only [Int.cast_ofNat_Int,Int.natCast_zero,Int.ofNat_zero] at e1
                      simp only [cond_true,Option.bind_some]
                      rw [e1]
                      cases h8 : Q7 (fun j => q1b R S I j) 0 c
                      · simp
                      · simp only [cond_true,Option.bind_some,q0u hV hv,bif_not]
                        cases finL V <;> simp [g1]
                  · simp [-List.getD_eq_getElem?_getD,g6]
                · simp [-List.getD_eq_getElem?_getD,g4]
              · simp [g2]
            · have g1' : ¬ (V.length : Int) = (I.length : Int) := by omega
              simp [g1,g1']
          · have h5' : (I.length : Int) > 10000 := by omega
            simp [h1',h2',h3',h4',h5,h5']
        · have h4' : C > 200 := by omega
          simp [h1',h2',h3',h4,h4']
      · have h3' : C < 0 := by omega
        simp [h1',h2',h3,h3']
    · have h2' : R > 200 := by omega
      simp [h1',h2,h2']
  · have h1' : R < 0 := by omega
    simp [h1,h1']
end
section
def qjs (R : Nat) (E : List (List Int)) : Prop := ∀ j,∀ i ∈ E.getD j [],0 ≤ i ∧ i < (R : Int)
def big : Nat := 2305843009213693952
end
section
def J6 (C : Nat) (S I : List Int) : List (List Int) := (List.range C).map (colOf S I)
theorem q0d {C : Nat} {S I : List Int} {j : Nat} (hj : j < C) : (J6 C S I).getD j [] = colOf S I j := by
  simp [J6,List.getD,hj]
structure MatOK (R C : Nat) (S I : List Int) : Prop where
  st : StartOK C S I
  ent : ∀ j,j < C → q1b (R : Int) S I j = true
  sz : I.length ≤ 10000
  cz : C ≤ 200
  rz : R ≤ 200
theorem MatOK.row {R C : Nat} {S I : List Int} (h : MatOK R C S I) {j : Nat} (hj : j < C) {k : Nat} (h1 : (S.getD j 0).toNat ≤ k) (h2 : k < (S.getD (j + 1) 0).toNat) : 0 ≤ I.getD k 0 ∧ I.getD k 0 < (R : Int) := by
  have := Q8.1 (h.ent j hj) k h1 h2
  simp only [entOK,Bool.and_eq_true,decide_eq_true_eq] at this
  exact this.1
theorem MatOK.edge {R C : Nat} {S I : List Int} (h : MatOK R C S I) : qjs R (J6 C S I) := by
  intro j i hi
  by_cases hj : j < C
  · rw [q0d hj] at hi
    obtain ⟨k,hk,e⟩ := q0r (d := 0) hi
    rw [q9i h.st hj hk] at e
    rw [Zb h.st hj] at hk
    rw [← e]; exact h.row hj (by omega) (by omega)
  · simp [J6,List.getD,hj] at hi
theorem MatOK.len {R C : Nat} {S I : List Int} (h : MatOK R C S I) (j : Nat) : ((J6 C S I).getD j []).length < big := by
  by_cases hj : j < C
  · rw [q0d hj,Zb h.st hj]
    have := h.st.rng (j := j + 1) (by omega)
    have := h.sz
    have hb : (2305843009213693952 : Nat) = big := rfl
    omega
  · simp [J6,List.getD,hj,big]
end
section
theorem qid {R C : Int} {S I V : List Int} (h : chk R C S I V = 0) : ∃ r c : Nat,R = (r : Int) ∧ C = (c : Int) ∧ MatOK r c S I ∧ V.length = I.length ∧ finL V = true := by
  unfold chk at h
  split at h
  · omega
  · rename_i h1
    split at h
    · omega
    · rename_i h2
      split at h
      · omega
      · rename_i h3
        simp only [Bool.not_eq_false,Bool.and_eq_true,decide_eq_true_eq] at h1 h2 h3
        obtain ⟨⟨⟨⟨a1,a2⟩,a3⟩,a4⟩,a5⟩ := h1
        simp only [strB,Bool.and_eq_true,decide_eq_true_eq] at h2
        obtain ⟨⟨⟨⟨⟨b1,b2⟩,b3⟩,b4⟩,b5⟩,b6⟩ := h2
        refine ⟨R.toNat,C.toNat,by omega,by omega,⟨⟨by omega,b2,fun j hj => ?_,b4⟩,fun j hj => ?_,a5,by omega,by omega⟩,b5.symm,h3⟩
        · have := Q8.1 b3 j (by omega) hj
          simpa [-List.getD_eq_getElem?_getD,le2] using this
        · have := Q8.1 b6 j (by omega) hj
          rw [show ((R.toNat : Nat) : Int) = R by omega]; exact this
end
section
theorem Qw {xs : List Int} {k : Nat} (h : k < xs.length) : xs.getD k 0 ∈ xs := by simp [List.getD,h]
section
variable {E : List (List Int)} {R C : Nat}
end
end
section
theorem qas {R C : Nat} {S I : List Int} (h : MatOK R C S I) {j : Nat} (hj : j < C) : colOf S I j = (List.range' (S.getD j 0).toNat ((S.getD (j + 1) 0).toNat - (S.getD j 0).toNat)).map fun t => I.getD t 0 := by
  refine qgx 0 (by rw [Zb h.st hj]; simp) fun k hk => ?_
  rw [q9i h.st hj hk]
  rw [Zb h.st hj] at hk
  have e : ∀ s n,k < n → (List.range' s n)[k]? = some (s + k) := fun s n h => by rw [List.getElem?_range' h,Nat.one_mul]
  have e2 : ∀ l : List Nat,(l.map fun t => I.getD t 0).getD k 0 = ((l[k]?).map fun t => I.getD t 0).getD 0 := fun l => by rw [List.getD,List.getElem?_map]
  rw [e2,e _ _ hk]; rfl
section
variable {R C : Nat} {S I V : List Int}
def Xl (S I V : List Int) (j k e : Nat) : List (Int × Int × Int) := (List.range' k (e - k)).map fun t => (I.getD t 0,(j : Int),V.getD t 0)
def ents (S I V : List Int) : Nat → Nat → List (Int × Int × Int)
  | 0,_ => []
  | d + 1,k => Xl S I V k (S.getD k 0).toNat (S.getD (k + 1) 0).toNat ++ ents S I V d (k + 1)
theorem q2e {j k e : Nat} : (Xl S I V j k e).length = e - k := by simp [Xl]
theorem q4x {j k e : Nat} (h : k < e) : Xl S I V j k e = (I.getD k 0,(j : Int),V.getD k 0) :: Xl S I V j (k + 1) e := by
  unfold Xl
  rw [show e - k = (e - (k + 1)) + 1 by omega,List.range'_succ]; rfl
theorem q69 (m : Nat) (hM : MatOK R C S I) (hV : V.length = I.length) {j : Nat} (hj : j < C) : ∀ (n k : Nat) (out : List (Int × Int × Int)),(S.getD (j + 1) 0).toNat - k < n → out.length ≤ k →
    g48_L1 m n (R : Int) (C : Int) S I V out (j : Int) (k : Int) = some (.inl (((R : Int),(C : Int),S,I,V,()),out ++ Xl S I V j k (S.getD (j + 1) 0).toNat,(j : Int),()))
  | 0,k,out,h,_ => by omega
  | n + 1,k,out,h,ho => by
    have hl := hM.st.len
    have hcz := hM.cz
    have hiz := hM.sz
    have b := hM.st.rng (j := j + 1) (by omega)
    rw [g48_L1]
    simp only [wsucc (show j < 4611686018427387904 by omega),Int.toNat_natCast,bif_decide]
    rw [if_pos (by omega)]
    by_cases hk : k < (S.getD (j + 1) 0).toNat
    · rw [if_pos (by omega),if_pos (by omega),if_pos (by omega),if_pos (by simp; omega),q4x hk]
      simp only [wsucc (show k < 4611686018427387904 by omega)]
      rw [q69 m hM hV hj n (k + 1) _ (by omega) (by simp; omega)]
      simp
    · rw [if_neg (by omega)]
      rw [Xl,show (S.getD (j + 1) 0).toNat - k = 0 by omega]; simp
theorem q6c (m : Nat) (hm : 20000 < m) (hM : MatOK R C S I) (hV : V.length = I.length) : ∀ (d n k : Nat) (out : List (Int × Int × Int)),C - k = d → k ≤ C → d < n → out.length = (S.getD k 0).toNat →
    g48_L0 m n (R : Int) (C : Int) S I V out (k : Int) = some (.inl (out ++ ents S I V d k,()))
  | 0,n,k,out,hd,hk0,hn,ho => by
    obtain ⟨n,rfl⟩ : ∃ n',n = n' + 1 := ⟨n - 1,by omega⟩
    rw [g48_L0,bif_decide,if_neg (by omega)]; simp [ents]
  | d + 1,n,k,out,hd,hk0,hn,ho => by
    have hl := hM.st.len
    have hcz := hM.cz
    have hiz := hM.sz
    have hk : k < C := by omega
    have a := hM.st.rng (j := k) (by omega)
    have b := hM.st.rng (j := k + 1) (by omega)
    have dd := hM.st.mono k hk
    obtain ⟨n,rfl⟩ : ∃ n',n = n' + 1 := ⟨n - 1,by omega⟩
    have e := q69 (V := V) m hM hV hk m (S.getD k 0).toNat out (by omega) (by omega)
    rw [show (((S.getD k 0).toNat : Nat) : Int) = S.getD k 0 by omega] at e
    rw [g48_L0,bif_decide,if_pos (by omega),if_pos (by omega)]
    simp only [Int.toNat_natCast]
    rw [e]
    simp only [Option.bind_some,wsucc (show k < 4611686018427387904 by omega)]
    rw [q6c m hm hM hV d n (k + 1) _ (by omega) (by omega) (by omega) (by rw [List.length_append,q2e]; omega),ents]
    simp
theorem q6l {m : Nat} (hm : 20000 < m) (hM : MatOK R C S I) (hV : V.length = I.length) (hc : chk (R : Int) (C : Int) S I V = 0) : g48 m (R : Int) (C : Int) S I V = some (ents S I V C 0,(),()) := by
  have hiz := hM.sz
  rw [g48,X4 (by omega) (by omega) (by omega),hc]
  have := q6c (V := V) m hm hM hV C m 0 [] (by omega) (by omega) (by have := hM.cz; omega) (by rw [hM.st.s0]; rfl)
  simp only [Int.cast_ofNat_Int,Int.natCast_zero,Int.ofNat_zero,List.nil_append] at this
  simp only [Option.bind_some,bif_ne,if_true,this]
theorem qdd {p : Int → Int → Bool} (hM : MatOK R C S I) {j : Nat} (hj : j < C) : (Xl S I V j (S.getD j 0).toNat (S.getD (j + 1) 0).toNat).all (fun e => p e.1 e.2.1) = (colOf S I j).all (fun i => p i (j : Int)) := by
  rw [qas hM hj,Xl,List.all_map,List.all_map]; rfl
theorem qcl {p : Int → Int → Bool} (hM : MatOK R C S I) : ∀ (d k : Nat),C - k = d → k ≤ C → (ents S I V d k).all (fun e => p e.1 e.2.1) = Q7 (fun j => ((J6 C S I).getD j []).all (fun i => p i (j : Int))) k C
  | 0,k,hd,hk => by rw [X3 (by omega)]; rfl
  | d + 1,k,hd,hk => by
    rw [ents,List.all_append,qdd hM (by omega : k < C),qcl hM d (k + 1) (by omega) (by omega),Qr (by omega : k < C),q0d (by omega)]
theorem qcs (hM : MatOK R C S I) : ∀ (d k : Nat),C - k = d → k ≤ C → (ents S I V d k).length = (S.getD C 0).toNat - (S.getD k 0).toNat
  | 0,k,hd,hk => by
    have : k = C := by omega
    subst this; simp [ents]
  | d + 1,k,hd,hk => by
    have a := hM.st.rng (j := k) (by omega)
    have b := hM.st.rng (j := k + 1) (by omega)
    have c := hM.st.rng (j := C) (by omega)
    have dd := hM.st.mono k (by omega)
    have e := hM.st.le (i := k + 1) (j := C) (by omega) (by omega)
    rw [ents,List.length_append,q2e,qcs hM d (k + 1) (by omega) (by omega)]; omega
end
end
section
end
section
abbrev Ent := Int × Int × Int
def Qd (es : List Ent) (i j : Nat) : Nat → Nat
  | 0 => 0
  | t + 1 => if (es.getD t (0,(0,0))).1 = (i : Int) ∧ (es.getD t (0,(0,0))).2.1 = (j : Int) then t + 1 else Qd es i j t
theorem q3r (es : List Ent) (i j : Nat) : ∀ t,Qd es i j t ≤ t
  | 0 => Nat.le_refl _
  | t + 1 => by
    rw [Qd]; split
    · exact Nat.le_refl _
    · exact Nat.le_succ_of_le (q3r es i j t)
def EntsOK (r c : Nat) (es : List Ent) : Prop := ∀ k,k < es.length →
  (0 ≤ (es.getD k (0,(0,0))).1 ∧ (es.getD k (0,(0,0))).1 < (r : Int)) ∧ (0 ≤ (es.getD k (0,(0,0))).2.1 ∧ (es.getD k (0,(0,0))).2.1 < (c : Int)) ∧ finB (es.getD k (0,(0,0))).2.2 = true
theorem cell {r c i j : Nat} (hi : i < r) (hj : j < c) : j * r + i < r * c := by
  have h1 : (j + 1) * r ≤ c * r := Nat.mul_le_mul_right r hj
  have h2 := Nat.succ_mul j r
  have h3 := Nat.mul_comm r c
  simp only [Nat.succ_eq_add_one] at h2
  omega
theorem qhi {r i j i' j' : Nat} (hi : i < r) (hi' : i' < r) (h : j * r + i = j' * r + i') : i = i' ∧ j = j' := by
  rcases Nat.lt_trichotomy j j' with h1 | h1 | h1
  · have := cell (c := j') hi h1
    have := Nat.mul_comm r j'
    omega
  · subst h1; exact ⟨by omega,rfl⟩
  · have := cell (c := j) hi' h1
    have := Nat.mul_comm r j
    omega
theorem area {r c : Nat} (hr : r ≤ 200) (hc : c ≤ 200) : r * c ≤ 40000 := Nat.mul_le_mul hr hc
theorem wcell {r c i j : Nat} (hr : r ≤ 200) (hc : c ≤ 200) (hi : i < r) (hj : j < c) : IntKind.wrap .i64 ((IntKind.wrap .i64 ((j : Int) * (r : Int))) + (i : Int)) = ((j * r + i : Nat) : Int) := by
  have h1 := cell hi hj
  have h2 := area hr hc
  have e : (j : Int) * (r : Int) = ((j * r : Nat) : Int) := (Int.natCast_mul j r).symm
  rw [e,wi (n := ((j * r : Nat) : Int)) (by omega) (by omega),wi (by omega) (by omega)]; omega
variable {es : List Ent} {r c : Nat}
theorem qej (m : Nat) (hE : EntsOK r c es) (hr : r ≤ 200) (hc : c ≤ 200) (hl : es.length ≤ 1000000) (a0 a1 : Int) (a2 a3 a4 : List Int) (b0 b1 : Int) (b2 b3 b4 : List Int) : ∀ (n k : Nat) (pos : List Int),es.length - k < n → k ≤ es.length → pos.length = r * c →
    (∀ i j,i < r → j < c → pos.getD (j * r + i) 0 = (Qd es i j k : Int)) →
    ∃ pos',g72_L0 m n (r : Int) (c : Int) es a0 a1 a2 a3 a4 b0 b1 b2 b3 b4 pos (k : Int) = some (.inl ((r : Int),(c : Int),es,(a0,a1,a2,a3,a4,()),(b0,b1,b2,b3,b4,()),pos',())) ∧ pos'.length = r * c ∧ ∀ i j,i < r → j < c → pos'.getD (j * r + i) 0 = (Qd es i j es.length : Int)
  | 0,k,pos,hn,_,_,_ => absurd hn (Nat.not_lt_zero _)
  | n + 1,k,pos,hn,hk,hp,hq => by
    rw [g72_L0]
    by_cases h : k < es.length
    · have h1 : (k : Int) < (es.length : Int) := by omega
      obtain ⟨⟨g1,g2⟩,⟨g3,g4⟩,_⟩ := hE k h
      obtain ⟨i0,hi0⟩ : ∃ i0 : Nat,(es.getD k (0,(0,0))).1 = (i0 : Int) := ⟨_,(Int.toNat_of_nonneg g1).symm⟩
      obtain ⟨j0,hj0⟩ : ∃ j0 : Nat,(es.getD k (0,(0,0))).2.1 = (j0 : Int) := ⟨_,(Int.toNat_of_nonneg g3).symm⟩
      have hi : i0 < r := by omega
      have hj : j0 < c := by omega
      have hce := cell hi hj
      rw [bif_decide,if_pos h1]
      simp only [Int.toNat_natCast,hi0,hj0,w_i64,wcell hr hc hi hj,wsucc (k := k) (by omega),Nat.zero_add]
      rw [if_pos (inr h),if_pos (inr h),if_pos (by omega)]
      refine qej m hE hr hc hl a0 a1 a2 a3 a4 b0 b1 b2 b3 b4 n (k + 1) _ (by omega) (by omega) (by simp [hp]) ?_
      intro i j hi' hj'
      rw [Qd,hi0,hj0]
      by_cases he : j0 * r + i0 = j * r + i
      · obtain ⟨e1,e2⟩ := qhi hi hi' he
        subst e1; subst e2
        rw [q0f (by omega),if_pos ⟨rfl,rfl⟩]
      · rw [getD_set_ne he,if_neg,hq i j hi' hj']
        rintro ⟨e1,e2⟩
        exact he (by rw [show i0 = i by omega,show j0 = j by omega])
    · have h1 : ¬ (k : Int) < (es.length : Int) := by omega
      have hke : k = es.length := by omega
      simp only [bif_decide,h1,if_false]
      exact ⟨pos,rfl,hp,fun i j hi hj => by rw [hq i j hi hj,hke]⟩
def colR (es : List Ent) (j i d : Nat) : List Nat := (List.range' i d).filter fun i => decide (0 < Qd es i j es.length)
def colI (es : List Ent) (j i d : Nat) : List Int := (colR es j i d).map fun i : Nat => (i : Int)
def colV (es : List Ent) (j i d : Nat) : List Int := (colR es j i d).map fun i : Nat => (es.getD (Qd es i j es.length - 1) (0,(0,0))).2.2
theorem qhp {j i d : Nat} : (colR es j i d).length ≤ d := by
  have := List.length_filter_le (fun i => decide (0 < Qd es i j es.length)) (List.range' i d)
  simpa [colR] using this
theorem qav (m : Nat) (hr : r ≤ 200) (hc : c ≤ 200) (hl : es.length ≤ 1000000) (a0 a1 : Int) (a2 a3 a4 : List Int) (b0 b1 : Int) (S : List Int) {pos : List Int} (hp : pos.length = r * c)
    (hq : ∀ i j,i < r → j < c → pos.getD (j * r + i) 0 = (Qd es i j es.length : Int)) {j : Nat} (hj : j < c) : ∀ (d n i : Nat) (I V : List Int),d < n → r - i = d → i ≤ r → I.length + d ≤ 1000000 → V.length + d ≤ 1000000 →
    g72_L2 m n (r : Int) (c : Int) es a0 a1 a2 a3 a4 b0 b1 S I V pos (j : Int) (i : Int) = some (.inl ((r : Int),(c : Int),es,(a0,a1,a2,a3,a4,()),(b0,b1,S,I ++ colI es j i d,V ++ colV es j i d,()),pos,(j : Int),()))
  | d,0,i,I,V,hn,_,_,_,_ => absurd hn (Nat.not_lt_zero _)
  | 0,n + 1,i,I,V,hn,hd,hi,hI,hV => by
    rw [g72_L2]
    have h1 : ¬ (i : Int) < (r : Int) := by omega
    simp [bif_decide,h1,colI,colV,colR]
  | d + 1,n + 1,i,I,V,hn,hd,hi,hI,hV => by
    rw [g72_L2]
    have hir : i < r := by omega
    have h1 : (i : Int) < (r : Int) := by omega
    have hce := cell hir hj
    have hle := q3r es i j es.length
    rw [bif_decide,if_pos h1]
    simp only [bif_decide,Int.toNat_natCast,w_i64,wcell hr hc hir hj,wsucc (k := i) (by omega),Nat.zero_add,hq i j hir hj]
    rw [if_pos (by omega)]
    by_cases hx : 0 < Qd es i j es.length
    · have h2 : (Qd es i j es.length : Int) > 0 := by omega
      have h3 : I.length + ([(i : Int)] : List Int).length ≤ 1073741824 := by simp; omega
      rw [if_pos h2,if_pos h3,wpred (by omega) hx,Int.toNat_natCast]
      have h4 : ∀ x : Int,V.length + ([x] : List Int).length ≤ 1073741824 := by intro x; simp; omega
      rw [if_pos (by omega),if_pos (h4 _)]
      rw [qav m hr hc hl a0 a1 a2 a3 a4 b0 b1 S hp hq hj d n (i + 1) _ _ (by omega) (by omega) (by omega) (by simp; omega) (by simp; omega)]
      have e1 : colR es j i (d + 1) = i :: colR es j (i + 1) d := by
        unfold colR; rw [List.range'_succ,List.filter_cons,if_pos (by simpa using hx)]
      simp only [colI,colV,e1,List.map_cons,List.append_assoc,List.singleton_append]
    · have h2 : ¬ (Qd es i j es.length : Int) > 0 := by omega
      rw [if_neg h2]
      rw [qav m hr hc hl a0 a1 a2 a3 a4 b0 b1 S hp hq hj d n (i + 1) _ _ (by omega) (by omega) (by omega) (by omega) (by omega)]
      have e1 : colR es j i (d + 1) = colR es j (i + 1) d := by
        unfold colR; rw [List.range'_succ,List.filter_cons,if_neg (by simpa using hx)]
      simp only [colI,colV,e1]
def packI (es : List Ent) (r : Nat) : Nat → List Int
  | 0 => []
  | j + 1 => packI es r j ++ colI es j 0 r
def packV (es : List Ent) (r : Nat) : Nat → List Int
  | 0 => []
  | j + 1 => packV es r j ++ colV es j 0 r
def packS (es : List Ent) (r j : Nat) : List Int := (List.range (j + 1)).map fun t => ((packI es r t).length : Int)
theorem Jc (es : List Ent) (r : Nat) : ∀ j,(packV es r j).length = (packI es r j).length
  | 0 => rfl
  | j + 1 => by simp [packV,packI,Jc es r j,colI,colV]
theorem q5b (es : List Ent) (r : Nat) : ∀ j,(packI es r j).length ≤ j * r
  | 0 => by simp [packI]
  | j + 1 => by
    have := q5b es r j
    have h2 := qhp (es := es) (j := j) (i := 0) (d := r)
    rw [Nat.succ_mul]
    simp only [packI,List.length_append,colI,List.length_map]; omega
theorem qe9 (es : List Ent) (r j : Nat) : packS es r (j + 1) = packS es r j ++ [((packI es r (j + 1)).length : Int)] := by
  simp [packS,List.range_succ]
theorem qeq (m : Nat) (hm : 300 < m) (hr : r ≤ 200) (hc : c ≤ 200) (hl : es.length ≤ 1000000) (a0 a1 : Int) (a2 a3 a4 : List Int) (b0 b1 : Int) {pos : List Int} (hp : pos.length = r * c)
    (hq : ∀ i j,i < r → j < c → pos.getD (j * r + i) 0 = (Qd es i j es.length : Int)) : ∀ (d n j : Nat),d < n → c - j = d → j ≤ c →
    g72_L1 m n (r : Int) (c : Int) es a0 a1 a2 a3 a4 b0 b1 (packS es r j) (packI es r j) (packV es r j) pos (j : Int) = some (.inl ((a0,a1,a2,a3,a4,()),(b0,b1,packS es r c,packI es r c,packV es r c,()),()))
  | d,0,j,hn,_,_ => absurd hn (Nat.not_lt_zero _)
  | 0,n + 1,j,hn,hd,hj => by
    rw [g72_L1]
    have h1 : ¬ (j : Int) < (c : Int) := by omega
    have : j = c := by omega
    subst this
    simp [bif_decide]
  | d + 1,n + 1,j,hn,hd,hj => by
    rw [g72_L1]
    have hjc : j < c := by omega
    have h1 : (j : Int) < (c : Int) := by omega
    have l1 := q5b es r j
    have l2 := Jc es r j
    have l3 : j * r ≤ 40000 := area (r := j) (c := r) (by omega) hr
    have := qav m hr hc hl a0 a1 a2 a3 a4 b0 b1 (packS es r j) hp hq hjc r m 0 (packI es r j) (packV es r j) (by omega) (by omega) (by omega) (by omega) (by omega)
    simp only [Int.natCast_zero] at this
    simp only [bif_decide,h1,if_true,this,Option.bind_some]
    have h3 : ∀ x : Int,(packS es r j).length + ([x] : List Int).length ≤ 1073741824 := by intro x; simp [packS]; omega
    rw [if_pos (h3 _),show w_i64 ((j : Int) + 1) = ((j + 1 : Nat) : Int) from wsucc (by omega)]
    have e := qeq m hm hr hc hl a0 a1 a2 a3 a4 b0 b1 hp hq d n (j + 1) (by omega) (by omega) (by omega)
    rw [qe9] at e
    simp only [packI,packV] at e
    exact e
theorem qj4 {m : Nat} (hE : EntsOK r c es) (hr : r ≤ 200) (hc : c ≤ 200) (hl : es.length ≤ 1000000) (hm : 1000300 < m) :
    g72 m (r : Int) (c : Int) es = some (((r : Int),(c : Int),packS es r c,packI es r c,packV es r c,()),(),(),(),()) := by
  have ha := area hr hc
  have e : (r : Int) * (c : Int) = ((r * c : Nat) : Int) := (Int.natCast_mul r c).symm
  rw [g72]
  simp only [w_i64,e]
  rw [wi (n := ((r * c : Nat) : Int)) (by omega) (by omega),if_pos (by omega),Int.toNat_natCast]
  obtain ⟨pos,h1,h2,h3⟩ := qej m hE hr hc hl 0 0 [] [] [] (r : Int) (c : Int) [0] [] [] m 0 (List.replicate (r * c) 0) (by omega) (by omega) (by simp) (by
    intro i j hi hj
    rw [Qg (cell hi hj)]; rfl)
  simp only [Int.natCast_zero] at h1
  rw [h1]
  simp only [Option.bind_some]
  have := qeq m (by omega) hr hc hl 0 0 [] [] [] (r : Int) (c : Int) h2 h3 c m 0 (by omega) (by omega) (by omega)
  simp only [Int.natCast_zero,packI,packV] at this
  rw [show ([0] : List Int) = packS es r 0 from rfl,this]
  rfl
end
section
variable {es : List Ent} {r c : Nat}
theorem Y7 {t : Nat} (h : t ≤ c) : (packS es r c).getD t 0 = ((packI es r t).length : Int) := by
  have : t < c + 1 := by omega
  simp [packS,List.getD,this]
theorem q1t {t : Nat} : ∀ d,∃ zs,packI es r (t + d) = packI es r t ++ zs
  | 0 => ⟨[],by simp⟩
  | d + 1 => by
    obtain ⟨zs,h⟩ := q1t (t := t) d
    exact ⟨zs ++ colI es (t + d) 0 r,by rw [← Nat.add_assoc,packI,h,List.append_assoc]⟩
theorem qe0 {t u : Nat} (h : t ≤ u) : (packI es r t).length ≤ (packI es r u).length := by
  obtain ⟨zs,e⟩ := q1t (es := es) (r := r) (t := t) (u - t)
  rw [show t + (u - t) = u by omega] at e
  rw [e]; simp
theorem qe3 {j : Nat} (hj : j < c) : colOf (packS es r c) (packI es r c) j = colI es j 0 r := by
  unfold colOf
  rw [Y7 (by omega),Y7 (by omega),Int.toNat_natCast,Int.toNat_natCast]
  obtain ⟨zs,e⟩ := q1t (es := es) (r := r) (t := j + 1) (c - (j + 1))
  rw [show j + 1 + (c - (j + 1)) = c by omega] at e
  rw [e,packI,List.append_assoc,List.drop_left,List.length_append,Nat.add_sub_cancel_left,List.take_left]
theorem q6d : StartOK c (packS es r c) (packI es r c) where
  len := by simp [packS]
  s0 := by rw [Y7 (Nat.zero_le _)]; rfl
  mono j hj := by
    rw [Y7 (by omega),Y7 (by omega)]
    have := qe0 (es := es) (r := r) (show j ≤ j + 1 by omega)
    omega
  last := Y7 (Nat.le_refl _)
theorem qcp {R : Int} {j : Nat} : ∀ (d i : Nat) (l : Int),l < (i : Int) → ((i + d : Nat) : Int) ≤ R → ascB R l (colI es j i d) = true
  | 0,i,l,h,hR => by simp [colI,colR,ascB]
  | d + 1,i,l,h,hR => by
    have ih := qcp (R := R) (j := j) d (i + 1)
    by_cases hx : 0 < Qd es i j es.length
    · have e1 : colI es j i (d + 1) = (i : Int) :: colI es j (i + 1) d := by
        unfold colI colR; rw [List.range'_succ,List.filter_cons,if_pos (by simpa using hx),List.map_cons]
      have h2 : (i : Int) < R := by omega
      rw [e1,ascB,ih (i : Int) (by omega) (by omega)]
      simp [h,h2]
    · have e1 : colI es j i (d + 1) = colI es j (i + 1) d := by
        unfold colI colR; rw [List.range'_succ,List.filter_cons,if_neg (by simpa using hx)]
      rw [e1,ih l (by omega) (by omega)]
theorem qg4 (hr : r ≤ 200) (hc : c ≤ 200) (ha : c * r ≤ 10000) : MatOK r c (packS es r c) (packI es r c) where
  st := q6d
  ent j hj := by
    rw [← q8u q6d hj,qe3 hj]
    exact qcp r 0 (-1) (by omega) (by omega)
  sz := Nat.le_trans (q5b es r c) ha
  cz := hc
  rz := hr
theorem qhv (hE : EntsOK r c es) {j i d : Nat} {x : Int} (h : x ∈ colV es j i d) : finB x = true := by
  obtain ⟨i',h1,h2⟩ := List.mem_map.1 h
  have h3 := List.mem_filter.1 h1
  have h4 := of_decide_eq_true h3.2
  have h5 := q3r es i' j es.length
  rw [← h2]; exact (hE _ (by omega)).2.2
theorem q99 (hE : EntsOK r c es) {x : Int} : ∀ j,x ∈ packV es r j → finB x = true
  | 0,h => by cases h
  | j + 1,h => by
    rcases List.mem_append.1 h with h | h
    · exact q99 hE j h
    · exact qhv hE h
theorem qhm (hE : EntsOK r c es) (hr : r ≤ 200) (hc : c ≤ 200) (ha : c * r ≤ 10000) : chk (r : Int) (c : Int) (packS es r c) (packI es r c) (packV es r c) = 0 := by
  have hM := qg4 (es := es) hr hc ha
  have hs := hM.st
  have hsz := hM.sz
  have e1 : finL (packV es r c) = true := by
    unfold finL
    refine Q8.2 fun i _ h => ?_
    exact q99 hE c (Qw h)
  have e2 : strB (r : Int) (c : Int) (packS es r c) (packI es r c) (packV es r c) = true := by
    unfold strB
    simp only [Bool.and_eq_true,decide_eq_true_eq,Int.toNat_natCast]
    refine ⟨⟨⟨⟨⟨by rw [hs.len]; omega,hs.s0⟩,?_⟩,hs.last⟩,(Jc es r c).symm⟩,?_⟩
    · exact Q8.2 fun i _ h => decide_eq_true (hs.mono i h)
    · exact Q8.2 fun i _ h => hM.ent i h
  have e0 : (decide (0 ≤ (r : Int)) && decide ((r : Int) ≤ 200) && decide (0 ≤ (c : Int)) && decide ((c : Int) ≤ 200) && decide ((packI es r c).length ≤ 10000)) = true := by
    simp only [Bool.and_eq_true,decide_eq_true_eq]
    omega
  unfold chk
  rw [e0,e1,e2]; rfl
end
section
theorem qcw {S I V : List Int} {R C : Nat} (hM : MatOK R C S I) {e : Ent} : ∀ (d k : Nat),C - k = d → k ≤ C → e ∈ ents S I V d k → ∃ t,t < I.length ∧ e.2.2 = V.getD t 0
  | 0,k,hd,hk,h => by simp [ents] at h
  | d + 1,k,hd,hk,h => by
    rw [ents,List.mem_append] at h
    rcases h with h | h
    · obtain ⟨t,h1,h2⟩ := List.mem_map.1 h
      have h3 := List.mem_range'_1.1 h1
      have b := hM.st.rng (j := k + 1) (by omega)
      have a := hM.st.rng (j := k) (by omega)
      exact ⟨t,by omega,by rw [← h2]⟩
    · exact qcw hM d (k + 1) (by omega) (by omega) h
theorem qio {S I V : List Int} {R C : Nat} (hM : MatOK R C S I) (hV : V.length = I.length) (hf : finL V = true) : EntsOK R C (ents S I V C 0) := by
  intro k hk
  have hm : (ents S I V C 0).getD k (0,(0,0)) ∈ ents S I V C 0 := by simp [List.getD,hk]
  have h := qcl (V := V) (p := fun a b => decide (0 ≤ a) && decide (a < (R : Int)) && decide (0 ≤ b) && decide (b < (C : Int))) hM C 0 (by omega) (by omega)
  have h4 : Q7 (fun j' => ((J6 C S I).getD j' []).all (fun a => decide (0 ≤ a) && decide (a < (R : Int)) && decide (0 ≤ (j' : Int)) && decide ((j' : Int) < (C : Int)))) 0 C = true := by
    refine Q8.2 fun j' _ hj' => List.all_eq_true.2 fun i hi => ?_
    have := hM.edge j' i hi
    simp only [Bool.and_eq_true,decide_eq_true_eq]; omega
  rw [h4] at h
  have h5 := List.all_eq_true.1 h _ hm
  simp only [Bool.and_eq_true,decide_eq_true_eq] at h5
  obtain ⟨t,ht,ev⟩ := qcw hM C 0 (by omega) (by omega) hm
  refine ⟨⟨h5.1.1.1,h5.1.1.2⟩,⟨h5.1.2,h5.2⟩,?_⟩
  rw [ev]; exact Q8.1 hf t (Nat.zero_le _) (by omega)
end
section
abbrev zE : Ent := (0,(0,0))
def ltE (x y : Ent) : Bool := decide (x.2.1 < y.2.1) || (decide (x.2.1 = y.2.1) && decide (x.1 < y.1))
theorem qdj {m : Nat} (x y : Int) : g121 m x y = some (if x < y then -1 else if x > y then 1 else 0,(),(),()) := by
  simp only [g121,g168,Option.bind_some,bne_self_eq_false,cond_false,bif_decide]
  by_cases h : x < y
  · simp [h]
  · by_cases h2 : x > y
    · simp [h,h2]
    · simp [h,h2]
theorem getD_at {α : Type} {P Q : List α} {x z : α} {k : Nat} (h : k = P.length) : (P ++ x :: Q).getD k z = x := by
  subst h; simp [List.getD]
theorem qi5 {α : Type} {P Q : List α} {x y : α} {k : Nat} (h : k = P.length) : (P ++ x :: Q).set k y = P ++ y :: Q := by
  subst h; simp
def leE (x y : Ent) : Prop := ltE y x = false
theorem qjn {x y z : Ent} (h1 : leE x y) (h2 : leE y z) : leE x z := by
  unfold leE ltE at *
  simp only [Bool.or_eq_false_iff,decide_eq_false_iff_not,Bool.and_eq_false_iff] at *
  omega
end
section
end
section
section
variable (self : (List (Int × Int × Int)) → Int → Int → Int → Option (Unit × (List (Int × Int × Int)) × Unit × Unit × Unit × Unit × Unit)) (m : Nat) (hm : 2 < m)
end
theorem q0r {l : List Ent} {x : Ent} (h : x ∈ l) : ∃ i,i < l.length ∧ l.getD i zE = x := by
  obtain ⟨i,hi,rfl⟩ := List.getElem_of_mem h
  exact ⟨i,hi,by simp [List.getD,hi]⟩
end
section
end
section
end
section
end
section
def canE (es : List Ent) (r j : Nat) : List Ent := (colR es j 0 r).map fun i : Nat => ((i : Int),((j : Int),(es.getD (Qd es i j es.length - 1) zE).2.2))
def can (es : List Ent) (r : Nat) : Nat → List Ent
  | 0 => []
  | j + 1 => can es r j ++ canE es r j
def DistE (es : List Ent) : Prop := ∀ k k',k < es.length → k' < es.length → (es.getD k zE).1 = (es.getD k' zE).1 → (es.getD k zE).2.1 = (es.getD k' zE).2.1 → k = k'
section
variable {es : List Ent} {r c : Nat}
theorem can_V : ∀ j,(can es r j).map (·.2.2) = packV es r j
  | 0 => rfl
  | j + 1 => by simp only [can,packV,List.map_append,can_V j,canE,colV,List.map_map]; rfl
theorem EntsOK.at (hE : EntsOK r c es) {k : Nat} (hk : k < es.length) : (0 ≤ (es.getD k zE).1 ∧ (es.getD k zE).1 < (r : Int)) ∧ (0 ≤ (es.getD k zE).2.1 ∧ (es.getD k zE).2.1 < (c : Int)) ∧ finB (es.getD k zE).2.2 = true := hE k hk
theorem q15 {i j : Nat} : ∀ {t : Nat},0 < Qd es i j t → Qd es i j t - 1 < t ∧ (es.getD (Qd es i j t - 1) zE).1 = (i : Int) ∧ (es.getD (Qd es i j t - 1) zE).2.1 = (j : Int)
  | 0,h => by simp [Qd] at h
  | t + 1,h => by
    rw [Qd] at h ⊢
    by_cases e : (es.getD t (0,(0,0))).1 = (i : Int) ∧ (es.getD t (0,(0,0))).2.1 = (j : Int)
    · rw [if_pos e]; exact ⟨by omega,e⟩
    · rw [if_neg e] at h ⊢
      obtain ⟨h1,h2⟩ := q15 h
      exact ⟨by omega,h2⟩
theorem q0h {i j : Nat} : ∀ {t k : Nat},k < t → (es.getD k zE).1 = (i : Int) → (es.getD k zE).2.1 = (j : Int) → 0 < Qd es i j t
  | 0,k,h,_,_ => absurd h (Nat.not_lt_zero _)
  | t + 1,k,h,h1,h2 => by
    rw [Qd]
    by_cases e : (es.getD t (0,(0,0))).1 = (i : Int) ∧ (es.getD t (0,(0,0))).2.1 = (j : Int)
    · rw [if_pos e]; omega
    · rw [if_neg e]
      rcases Nat.lt_or_ge k t with hk | hk
      · exact q0h hk h1 h2
      · have : k = t := by omega
        subst this
        exact absurd ⟨h1,h2⟩ e
theorem qbr {j : Nat} {x : Ent} : x ∈ canE es r j ↔ ∃ i,i < r ∧ 0 < Qd es i j es.length ∧ x = ((i : Int),((j : Int),(es.getD (Qd es i j es.length - 1) zE).2.2)) := by
  unfold canE colR
  simp only [List.mem_map,List.mem_filter,List.mem_range'_1,decide_eq_true_eq]
  constructor
  · rintro ⟨i,⟨h1,h2⟩,rfl⟩; exact ⟨i,by omega,h2,rfl⟩
  · rintro ⟨i,h1,h2,rfl⟩; exact ⟨i,⟨⟨by omega,by omega⟩,h2⟩,rfl⟩
theorem qbg {x : Ent} : ∀ {c : Nat},x ∈ can es r c ↔ ∃ i j,i < r ∧ j < c ∧ 0 < Qd es i j es.length ∧ x = ((i : Int),((j : Int),(es.getD (Qd es i j es.length - 1) zE).2.2))
  | 0 => by simp [can]
  | c + 1 => by
    simp only [can,List.mem_append,qbg (c := c),qbr]
    constructor
    · rintro (⟨i,j,h1,h2,h3,h4⟩ | ⟨i,h1,h3,h4⟩)
      · exact ⟨i,j,h1,by omega,h3,h4⟩
      · exact ⟨i,c,h1,by omega,h3,h4⟩
    · rintro ⟨i,j,h1,h2,h3,h4⟩
      by_cases e : j = c
      · subst e; exact .inr ⟨i,h1,h3,h4⟩
      · exact .inl ⟨i,j,h1,by omega,h3,h4⟩
theorem qga (j : Nat) : (canE es r j).Pairwise (fun a b => a.2.1 = b.2.1 ∧ a.1 < b.1) := by
  unfold canE
  rw [List.pairwise_map]
  have : (colR es j 0 r).Pairwise (· < ·) := by
    unfold colR
    exact List.Pairwise.filter _ (List.pairwise_lt_range' (s := 0) (n := r) (step := 1) (by omega))
  exact this.imp fun h => ⟨rfl,by simpa using h⟩
theorem qcm : ∀ c,(can es r c).Pairwise (fun a b => ltE a b = true)
  | 0 => by simp [can]
  | c + 1 => by
    rw [can,List.pairwise_append]
    refine ⟨qcm c,(qga c).imp fun h => ?_,fun a ha b hb => ?_⟩
    · unfold ltE; simp [h.1,h.2]
    · obtain ⟨i,j,h1,h2,h3,rfl⟩ := qbg.1 ha
      obtain ⟨i',g1,g3,rfl⟩ := qbr.1 hb
      unfold ltE; simp; omega
theorem qjx {a b : Ent} (h : ltE a b = true) : a ≠ b := by rintro rfl; unfold ltE at h; simp at h
theorem qfi (c : Nat) : (can es r c).Nodup := (qcm c).imp fun h => qjx h
theorem qe2 (hD : DistE es) : es.Nodup := by
  rw [List.nodup_iff_pairwise_ne,List.pairwise_iff_getElem]
  intro i j hi hj hij e
  have := hD i j hi hj (by simp [List.getD,hi,hj,e]) (by simp [List.getD,hi,hj,e])
  omega
theorem qd5 (hE : EntsOK r c es) (hD : DistE es) : List.Perm es (can es r c) := by
  rw [List.perm_ext_iff_of_nodup (qe2 hD) (qfi c)]
  intro x
  rw [qbg]
  constructor
  · intro hx
    obtain ⟨k,hk,rfl⟩ := q0r hx
    obtain ⟨⟨a1,a2⟩,⟨b1,b2⟩,_⟩ := hE.at hk
    have e1 : ((es.getD k zE).1.toNat : Int) = (es.getD k zE).1 := by omega
    have e2 : ((es.getD k zE).2.1.toNat : Int) = (es.getD k zE).2.1 := by omega
    have hp := q0h (t := es.length) hk e1.symm e2.symm
    obtain ⟨h1,h2,h3⟩ := q15 hp
    refine ⟨_,_,by omega,by omega,hp,?_⟩
    have := hD k _ hk h1 (by rw [h2,e1]) (by rw [h3,e2])
    rw [← this,e1,e2]
  · rintro ⟨i,j,h1,h2,h3,rfl⟩
    obtain ⟨g1,g2,g3⟩ := q15 h3
    rw [show ((i : Int),((j : Int),(es.getD (Qd es i j es.length - 1) zE).2.2)) = es.getD (Qd es i j es.length - 1) zE by rw [← g2,← g3]]
    simp [List.getD,g1]
end
end
section
section
variable {R C : Nat} {S I V : List Int}
theorem q52 (m : Nat) (hM : MatOK R C S I) (hV : V.length = I.length) (t7 t8 : Int) {j : Nat} (hj : j < C) : ∀ (n k : Nat) (out : List Ent),(S.getD (j + 1) 0).toNat - k < n → out.length ≤ k →
    g73_L1 m n (R : Int) (C : Int) S I V out (j : Int) (k : Int) t7 t8 = some (.inl (((R : Int),(C : Int),S,I,V,()),out ++ Xl S I V j k (S.getD (j + 1) 0).toNat,t7,t8,()))
  | 0,k,out,h,_ => by omega
  | n + 1,k,out,h,ho => by
    have hl := hM.st.len
    have hcz := hM.cz
    have hiz := hM.sz
    have b := hM.st.rng (j := j + 1) (by omega)
    rw [g73_L1]
    simp only [w_i64_eq,wsucc (show j < 4611686018427387904 by omega),Int.toNat_natCast,bif_decide]
    rw [if_pos (by omega)]
    by_cases hk : k < (S.getD (j + 1) 0).toNat
    · rw [if_pos (by omega),if_pos (by omega),if_pos (by omega),if_pos (by simp; omega),q4x hk]
      simp only [wsucc (show k < 4611686018427387904 by omega)]
      rw [q52 m hM hV t7 t8 hj n (k + 1) _ (by omega) (by simp; omega)]
      simp
    · rw [if_neg (by omega)]
      rw [Xl,show (S.getD (j + 1) 0).toNat - k = 0 by omega]; simp
theorem q49 (m : Nat) (hm : 20000 < m) (hM : MatOK R C S I) (hV : V.length = I.length) : ∀ (d n k : Nat) (out : List Ent),C - k = d → k ≤ C → d < n → out.length = (S.getD k 0).toNat →
    g73_L0 m n (R : Int) (C : Int) S I V out (C : Int) (k : Int) = some (.inl (out ++ ents S I V d k,()))
  | 0,n,k,out,hd,hk0,hn,ho => by
    obtain ⟨n,rfl⟩ : ∃ n',n = n' + 1 := ⟨n - 1,by omega⟩
    rw [g73_L0,bif_decide,if_neg (by omega)]; simp [ents]
  | d + 1,n,k,out,hd,hk0,hn,ho => by
    have hl := hM.st.len
    have hcz := hM.cz
    have hiz := hM.sz
    have hk : k < C := by omega
    have a := hM.st.rng (j := k) (by omega)
    have b := hM.st.rng (j := k + 1) (by omega)
    have dd := hM.st.mono k hk
    obtain ⟨n,rfl⟩ : ∃ n',n = n' + 1 := ⟨n - 1,by omega⟩
    have e := q52 (V := V) m hM hV (C : Int) (k : Int) hk m (S.getD k 0).toNat out (by omega) (by omega)
    rw [show (((S.getD k 0).toNat : Nat) : Int) = S.getD k 0 by omega] at e
    rw [g73_L0,bif_decide,if_pos (by omega),if_pos (by omega)]
    simp only [Int.toNat_natCast]
    rw [e]
    simp only [Option.bind_some,w_i64_eq,wsucc (show k < 4611686018427387904 by omega)]
    rw [q49 m hm hM hV d n (k + 1) _ (by omega) (by omega) (by omega) (by rw [List.length_append,q2e]; omega),ents]
    simp
theorem q54 {m : Nat} (hm : 20000 < m) (hM : MatOK R C S I) (hV : V.length = I.length) : g73 m (R : Int) (C : Int) S I V = some (ents S I V C 0,(),()) := by
  have hcz := hM.cz
  have h := q49 (V := V) m hm hM hV C m 0 [] (by omega) (by omega) (by omega) (by rw [hM.st.s0]; rfl)
  rw [g73,show (0 : Int) = ((0 : Nat) : Int) from rfl,h]; rfl
theorem MatOK.asc (hM : MatOK R C S I) {j : Nat} (hj : j < C) : ∀ (d t : Nat),(S.getD j 0).toNat ≤ t → t + (d + 1) < (S.getD (j + 1) 0).toNat → I.getD t 0 < I.getD (t + (d + 1)) 0
  | 0,t,h1,h2 => by
    have := Q8.1 (hM.ent j hj) (t + 1) (by omega) h2
    simp only [entOK,Bool.and_eq_true,Bool.or_eq_true,decide_eq_true_eq] at this
    have h := this.2
    simp only [Nat.add_sub_cancel] at h
    simp only [Nat.zero_add]
    rcases h with h | h
    · simp only [Bool.not_eq_true',decide_eq_false_iff_not] at h; omega
    · exact h
  | d + 1,t,h1,h2 => by
    have h3 := hM.asc hj d t h1 (by omega)
    have h4 := hM.asc hj 0 (t + (d + 1)) (by omega) (by omega)
    simp only [Nat.zero_add] at h4
    rw [show t + (d + 1 + 1) = t + (d + 1) + 1 by omega]; omega
theorem qbe (hM : MatOK R C S I) {j : Nat} (hj : j < C) : (Xl S I V j (S.getD j 0).toNat (S.getD (j + 1) 0).toNat).Pairwise (fun a b => ltE a b = true) := by
  unfold Xl
  rw [List.pairwise_map]
  refine List.Pairwise.imp_of_mem ?_ (List.pairwise_lt_range' (s := (S.getD j 0).toNat) (n := (S.getD (j + 1) 0).toNat - (S.getD j 0).toNat) (step := 1) (by omega))
  intro a b ha hb hab
  rw [List.mem_range'_1] at ha hb
  have := hM.asc hj (b - a - 1) a ha.1 (by omega)
  rw [show a + (b - a - 1 + 1) = b by omega] at this
  unfold ltE; simp [-List.getD_eq_getElem?_getD,this]
theorem qbs {x : Ent} : ∀ {d k : Nat},x ∈ ents S I V d k → ∃ j t,k ≤ j ∧ j < k + d ∧ (S.getD j 0).toNat ≤ t ∧ t < (S.getD (j + 1) 0).toNat ∧ x = (I.getD t 0,(j : Int),V.getD t 0)
  | 0,k,h => by simp [ents] at h
  | d + 1,k,h => by
    rw [ents,List.mem_append] at h
    rcases h with h | h
    · unfold Xl at h
      obtain ⟨t,ht,rfl⟩ := List.mem_map.1 h
      rw [List.mem_range'_1] at ht
      exact ⟨k,t,Nat.le_refl _,by omega,ht.1,by omega,rfl⟩
    · obtain ⟨j,t,h1,h2,h3⟩ := qbs h
      exact ⟨j,t,by omega,by omega,h3⟩
theorem q8d (hM : MatOK R C S I) : ∀ (d k : Nat),k + d = C → (ents S I V d k).Pairwise (fun a b => ltE a b = true)
  | 0,k,h => by simp [ents]
  | d + 1,k,h => by
    rw [ents,List.pairwise_append]
    refine ⟨qbe hM (by omega),q8d hM d (k + 1) (by omega),fun a ha b hb => ?_⟩
    unfold Xl at ha
    obtain ⟨t,ht,rfl⟩ := List.mem_map.1 ha
    obtain ⟨j,t',h1,h2,h3,h4,rfl⟩ := qbs hb
    unfold ltE; simp [-List.getD_eq_getElem?_getD]; omega
theorem q9q {es : List Ent} (h : es.Pairwise (fun a b => ltE a b = true)) : DistE es := by
  intro k k' hk hk' h1 h2
  rw [List.pairwise_iff_getElem] at h
  have hg : ∀ i (hi : i < es.length),es.getD i zE = es[i] := fun i hi => by simp [List.getD,hi]
  rcases Nat.lt_trichotomy k k' with e | e | e
  · have := h k k' hk hk' e
    rw [← hg k hk,← hg k' hk'] at this
    unfold ltE at this; simp [-List.getD_eq_getElem?_getD] at this; omega
  · exact e
  · have := h k' k hk' hk e
    rw [← hg k hk,← hg k' hk'] at this
    unfold ltE at this; simp [-List.getD_eq_getElem?_getD] at this; omega
end
def swE (x : Ent) : Ent := (x.2.1,(x.1,x.2.2))
end
section
end
section
theorem Xq {α : Type} {L : List α} {i : Nat} {d : α} (h : L.length ≤ i) : L.getD i d = d := by
  rw [List.getD,List.getElem?_eq_none h]; rfl
end
section
end
section
theorem Jm {α : Type} {L : List α} {k j : Nat} {x d : α} (h : k < L.length) : (L.set k x).getD j d = if j = k then x else L.getD j d := by
  by_cases e : k = j
  · subst e; rw [q0f h,if_pos rfl]
  · rw [getD_set_ne e,if_neg (Ne.symm e)]
end
section
variable {S I V : List Int} {N : Nat}
end
end Go.Vs.F
