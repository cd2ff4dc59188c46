/- Exact floats of dyads: program and document. Scaling a matrix: program and document. Scale and Shift of a matrix: program and document agree. Shifting a matrix: program and document agree; the law MatrixScales. Numbers that floats have: rounding is exact. Made values, and shifting exactly. The law MatrixShifted. The law MatrixShifted, joined. The integers of a matrix. The law MatrixWhole. Sums of dyads; products of a matrix and a vector. Products of a matrix and a vector (printed by a small program: both directions are alike). The law MatrixAdjoint. -/
import Derived.Test.YtjjndhlkoehkdaaGreatDoorLe
import Derived.Test.YtjjndhlkoehkdaaGreatDoorLb

/-! MxEa -/
set_option linter.unusedVariables false
set_option linter.unusedSimpArgs false
namespace Go.Vs.F
theorem q3c {neg : Bool} {f : Int} (h1 : 0 ≤ f) (h2 : f < 9223372036854775808) : U64 (sgnF neg f) := by
  unfold sgnF U64; cases neg <;> simp <;> omega
theorem q8n {neg : Bool} {mode : Int} : U64 (overF neg mode) := by
  unfold overF; split <;> exact q3c (by omega) (by omega)
theorem qg0 {neg : Bool} {n : Nat} {u mode : Int} (h1 : -1074 ≤ u) (hn : n ≤ 9007199254740992) : U64 (packF neg n u mode) := by
  unfold packF
  split
  · split
    · exact q8n
    · exact q3c (by omega) (by omega)
  · split
    · exact q3c (by omega) (by omega)
    · split
      · exact q8n
      · exact q3c (by omega) (by omega)
theorem qdx {neg : Bool} {v : Nat} {e : Int} {more : Bool} {mode : Int} : U64 (q0a neg v e more mode) := qg0 (q76 v e) q6v
theorem q2b {d : Bool × Bool × List Int × Int × Unit} {mode : Int} : U64 (Xr d mode) := by
  unfold Xr
  split
  · exact ⟨by omega,by omega⟩
  · split
    · exact ⟨by omega,by omega⟩
    · exact qdx
def exB (z e : Int) : Bool := decide (FinF (Xr (mkD z e) 0) ∧ OkD z e ∧ sc (ofZ (Xr (mkD z e) 0)) (ofE (Xr (mkD z e) 0)) (min (ofE (Xr (mkD z e) 0)) e) = sc z e (min (ofE (Xr (mkD z e) 0)) e))
theorem q9a {a b : Int} : cmpZ a b = 0 ↔ a = b := by unfold cmpZ; repeat' split
                                                     all_goals omega
theorem Ju {m : Nat} (hm : 3000000 < m) {z e : Int} : g90 m (mkD z e).1 (mkD z e).2.1 (mkD z e).2.2.1 (mkD z e).2.2.2.1 = some ((Xr (mkD z e) 0,exB z e,()),(),()) ∧
    g115 m (mkD z e).1 (mkD z e).2.1 (mkD z e).2.2.1 (mkD z e).2.2.2.1 = some ((Xr (mkD z e) 0,exB z e,()),(),()) := by
  have hU := q2b (d := mkD z e) (mode := 0)
  rw [g90,g115,qha hm,qg6 hm,Option.bind_some,Option.bind_some]
  dsimp only
  rw [Of_eq hm hU,qcl hm hU,Option.bind_some,Option.bind_some]
  dsimp only
  unfold exB ofD
  generalize Xr (mkD z e) 0 = f at *
  by_cases hf : FinF f
  · rw [if_pos hf]
    have e1 : mkD (ofZ f) (ofE f) = mkD (sc (ofZ f) (ofE f) (min (ofE f) e)) (min (ofE f) e) := (q2u (by omega)).symm
    have e2 : mkD z e = mkD (sc z e (min (ofE f) e)) (min (ofE f) e) := (q2u (by omega)).symm
    have o2 : OkD z e ↔ OkD (sc z e (min (ofE f) e)) (min (ofE f) e) := by unfold OkD; rw [← e2]
    have o1 : OkD (sc (ofZ f) (ofE f) (min (ofE f) e)) (min (ofE f) e) := by have := qek hf; unfold OkD at *; rwa [← e1]
    rw [e1,e2,qf1 hm,qd3 hm,Option.bind_some]
    by_cases hz : OkD z e
    · have h2 := o2.1 hz
      rw [if_pos ⟨o1,h2⟩]
      dsimp only
      rw [cond_true]
      have : (cmpZ (sc (ofZ f) (ofE f) (min (ofE f) e)) (sc z e (min (ofE f) e)) == 0) = decide (FinF f ∧ OkD z e ∧ sc (ofZ f) (ofE f) (min (ofE f) e) = sc z e (min (ofE f) e)) := by
        by_cases c : sc (ofZ f) (ofE f) (min (ofE f) e) = sc z e (min (ofE f) e)
        · rw [q9a.2 c,decide_eq_true ⟨hf,hz,c⟩]; rfl
        · rw [decide_eq_false (fun h => c h.2.2)]
          have := mt q9a.1 c
          simpa using this
      rw [this]
      exact ⟨rfl,rfl⟩
    · rw [if_neg (fun h => hz (o2.2 h.2)),decide_eq_false (fun h => hz h.2.1)]
      exact ⟨rfl,rfl⟩
  · rw [if_neg hf,decide_eq_false (fun h => hf h.1)]
    have b0 : ((true,false,[],0,()) : Bool × Bool × List Int × Int × Unit) = mkD 1 100000 := by
      rw [Yt]; rw [X3]; rintro (h | ⟨h,_⟩)
      · omega
      · omega
    have hn : ¬ OkD 1 100000 := by rw [X3]; rintro (h | ⟨h,_⟩) <;> omega
    have e0 : mkD 1 100000 = mkD (sc 1 100000 (min 100000 e)) (min 100000 e) := (q2u (by omega)).symm
    have e2 : mkD z e = mkD (sc z e (min 100000 e)) (min 100000 e) := (q2u (by omega)).symm
    have n2 : ¬ OkD (sc 1 100000 (min 100000 e)) (min 100000 e) := by unfold OkD at *; rwa [← e0]
    rw [b0,e0,e2,qf1 hm,qd3 hm,if_neg (fun h => n2 h.1)]
    exact ⟨rfl,rfl⟩
theorem qfh {z e : Int} (h : exB z e = true) : finB (Xr (mkD z e) 0) = true := by
  rw [qbc q2b]
  exact decide_eq_true (of_decide_eq_true h).1
def I64 (a : Int) : Prop := -9223372036854775808 ≤ a ∧ a < 9223372036854775808
end Go.Vs.F

/-! MxEb -/
set_option linter.unusedVariables false
set_option linter.unusedSimpArgs false
namespace Go.Vs.F
def kindN (f : Int) : Int := if fexp f = 2047 then (if ffrac f = 0 then 2 else 3) else if fexp f = 0 ∧ ffrac f = 0 then 0 else 1
theorem qin {m : Nat} {f : Int} (h : U64 f) : g108 m f = some (kindN f,(),()) ∧ g111 m f = some (kindN f,(),()) := by
  have hl := q4v f
  rw [g108,parts_eq h,Option.bind_some,g111,(q9k h).1,(q9k h).2]
  simp only [bif_eq,bif_ne]
  unfold kindN
  by_cases c : fexp f = 2047
  · by_cases d : ffrac f = 0
    · simp [c,d]
    · simp [c,d]
  · by_cases e : fexp f = 0
    · by_cases d : ffrac f = 0
      · simp [e,d]
      · simp [e,d]
    · simp [c,e]
end Go.Vs.F

/-! MxEc -/
set_option linter.unusedVariables false
set_option linter.unusedSimpArgs false
set_option maxRecDepth 100000
namespace Go.Vs.F
/- A result of at most that size. -/
section
variable {R C : Nat} {S I V : List Int}
theorem q6y (hM : MatOK R C S I) (hV : V.length = I.length) : ∀ (d k : Nat),k + d = C → ∀ e ∈ ents S I V d k,e.2.2 ∈ V
  | 0,k,h => by intro e he; cases he
  | d + 1,k,h => by
    intro e he
    rw [ents] at he
    rcases List.mem_append.1 he with he | he
    · unfold Xb at he
      obtain ⟨t,ht,rfl⟩ := List.mem_map.1 he
      rw [List.mem_range'_1] at ht
      have h1 := hM.st.rng (j := k + 1) (by omega)
      have h2 := hM.st.rng (j := k) (by omega)
      exact q45 (by omega)
    · exact q6y hM hV d (k + 1) (by omega) e he
/- What stands at a place. -/
theorem qiz {m : Nat} {xs : List Int} {t : Int} (hl : xs.length ≤ 100000) (hm : 100001 < m) (ha : ∀ i j,i < j → j < xs.length → xs.getD i 0 < xs.getD j 0) (hn : ∀ k,k < xs.length → xs.getD k 0 ≠ t) :
    ∃ r : Nat,g143 m xs t = some (((r : Int),false,()),(),(),()) := by
  obtain ⟨r,e,h1,h2,h3⟩ := BS_L0 m (t := t) (a := (xs.length : Int)) hl ha m 0 xs.length (by omega) (by omega) (Nat.le_refl _) (fun k hk => absurd hk (Nat.not_lt_zero _)) (fun k a b => by omega)
  rw [Int.natCast_zero] at e
  refine ⟨r,?_⟩
  rw [g143,e,Option.bind_some]
  dsimp only
  rw [bif_decide]
  by_cases c : r < xs.length
  · have c1 : (0 : Int) ≤ (r : Int) ∧ (r : Int) < (xs.length : Int) := by omega
    rw [if_pos (by omega),if_pos c1,Int.toNat_natCast,bif_eq,if_neg (hn r c),if_pos c1,g187,Option.bind_some]
    simp
  · rw [if_neg (by omega)]
theorem qj0 {m : Nat} (hm : 3000000 < m) (h : MV R C S I V) {i : Int} {j' : Nat} (hjC : j' < C) (hn : ∀ v,((i,((j' : Int),v)) : Ent) ∉ ents S I V C 0) : g85 m (R : Int) (C : Int) S I V i (j' : Int) = some ((0,false,()),(),(),(),()) := by
  have hl := h.ok.st.len
  have hsz := h.ok.sz
  have hcz := h.ok.cz
  have hvl := h.vl
  have a := h.ok.st.rng (j := j') (by omega)
  have b := h.ok.st.rng (j := j' + 1) (by omega)
  have mo := h.ok.st.mono j' hjC
  have c1 : (0 : Int) ≤ (j' : Int) ∧ (j' : Int) < (S.length : Int) := by omega
  have c2 : (0 : Int) ≤ ((j' + 1 : Nat) : Int) ∧ ((j' + 1 : Nat) : Int) < (S.length : Int) := by omega
  have c3 : (0 : Int) ≤ S.getD j' 0 ∧ S.getD j' 0 ≤ S.getD (j' + 1) 0 ∧ S.getD (j' + 1) 0 ≤ (I.length : Int) := by omega
  have hcl := Yi h.ok.st hjC
  have hcg : ∀ k,k < (colOf S I j').length → (colOf S I j').getD k 0 = I.getD ((S.getD j' 0).toNat + k) 0 := fun k hk => q1e h.ok.st hjC hk
  obtain ⟨r,hbs⟩ := qiz (m := m) (xs := colOf S I j') (t := i) (by omega) (by omega) (fun x y hxy hy => by
    rw [hcg x (by omega),hcg y hy]
    have := h.ok.asc hjC (y - x - 1) ((S.getD j' 0).toNat + x) (by omega) (by omega)
    rw [show (S.getD j' 0).toNat + x + (y - x - 1 + 1) = (S.getD j' 0).toNat + y by omega] at this
    exact this) (fun k hk e => by
    rw [hcg k hk] at e
    exact hn (V.getD ((S.getD j' 0).toNat + k) 0) (Zi.2 ⟨j',(S.getD j' 0).toNat + k,by omega,by omega,by omega,by omega,by rw [e]⟩))
  rw [g85,if_pos c1,show w_i64 ((j' : Int) + 1) = ((j' + 1 : Nat) : Int) from wsucc (by omega),if_pos c2]
  simp only [Int.toNat_natCast]
  rw [if_pos c3]
  have hbs' : g143 m ((I.drop (S.getD j' 0).toNat).take ((S.getD (j' + 1) 0).toNat - (S.getD j' 0).toNat)) i = some (((r : Int),false,()),(),(),()) := hbs
  rw [hbs',Option.bind_some]
  simp only [Bool.not_false,cond_true]
theorem qd7 (m : Nat) {i : Int} {j : Nat} (hj : j + 1 < S.length) (hj2 : j < 4611686018427387903) {e : Nat} (he : S.getD (j + 1) 0 = (e : Int)) (hI : e ≤ I.length) (hv : V.length = I.length) (hb : I.length ≤ 100000) (a0 a1 : Int) : ∀ (n k : Nat),e - k < n → k ≤ e →
    (∃ t,k ≤ t ∧ t < e ∧ I.getD t 0 = i ∧ g38_L0 m n i (j : Int) a0 a1 S I V (k : Int) = some (.inl (V.getD t 0,()))) ∨
    ((∀ t,k ≤ t → t < e → I.getD t 0 ≠ i) ∧ g38_L0 m n i (j : Int) a0 a1 S I V (k : Int) = some (.inr (.inl ())))
  | 0,k,h,_ => by omega
  | n + 1,k,h,hk0 => by
    have w : w_i64 ((j : Int) + 1) = ((j + 1 : Nat) : Int) := wsucc (by omega)
    rw [g38_L0,w,if_pos (by omega),Int.toNat_natCast,he,bif_decide]
    by_cases hk : k < e
    · rw [if_pos (by omega),if_pos (by omega),Int.toNat_natCast,bif_eq]
      by_cases c : I.getD k 0 = i
      · rw [if_pos c,if_pos (by omega)]
        exact .inl ⟨k,Nat.le_refl _,hk,c,rfl⟩
      · rw [if_neg c,show w_i64 ((k : Int) + 1) = ((k + 1 : Nat) : Int) from wsucc (by omega)]
        rcases qd7 m hj hj2 he hI hv hb a0 a1 n (k + 1) (by omega) (by omega) with ⟨t,h1,h2,h3,h4⟩ | ⟨h1,h2⟩
        · exact .inl ⟨t,by omega,h2,h3,h4⟩
        · refine .inr ⟨fun t a b => ?_,h2⟩
          by_cases e : t = k
          · subst e; exact c
          · exact h1 t (by omega) b
    · rw [if_neg (by omega)]
      exact .inr ⟨fun t a b => by omega,rfl⟩
/- Both look-ups. -/
theorem qj3 {m : Nat} (hm : 3000000 < m) (h : MV R C S I V) {i : Int} {j : Nat} (hj : j < C) :
    ∃ v b,g85 m (R : Int) (C : Int) S I V i (j : Int) = some ((v,b,()),(),(),(),()) ∧ g38 m (R : Int) (C : Int) S I V i (j : Int) = some (v,(),(),(),()) ∧
      ((b = true ∧ ((i,((j : Int),v)) : Ent) ∈ ents S I V C 0) ∨ (b = false ∧ v = 0 ∧ ∀ v',((i,((j : Int),v')) : Ent) ∉ ents S I V C 0)) := by
  have hl := h.ok.st.len
  have hsz := h.ok.sz
  have hcz := h.ok.cz
  have hvl := h.vl
  have a := h.ok.st.rng (j := j) (by omega)
  have b := h.ok.st.rng (j := j + 1) (by omega)
  have mo := h.ok.st.mono j hj
  have c1 : (0 : Int) ≤ (j : Int) ∧ (j : Int) < (S.length : Int) := by omega
  have e1 : S.getD j 0 = (((S.getD j 0).toNat : Nat) : Int) := by omega
  have hpre : g38 m (R : Int) (C : Int) S I V i (j : Int) = (g38_L0 m m i (j : Int) (R : Int) (C : Int) S I V (((S.getD j 0).toNat : Nat) : Int)).bind fun y2 => match y2 with
      | .inl z3 => some (z3.1,((),(),(),()))
      | .inr (.inl z4) => some (0,((),(),(),()))
      | .inr (.inr e) => e.elim := by
    rw [g38,Xv (by omega) (by omega) (by omega),h.chk]
    simp only [Option.bind_some,bif_ne,if_true,bif_decide]
    rw [if_neg (by omega),if_neg (by omega),if_pos c1,Int.toNat_natCast,← e1]
    rfl
  have hr := qd7 (S := S) (I := I) (V := V) m (i := i) (j := j) (by omega) (by omega) (e := (S.getD (j + 1) 0).toNat) (by omega) (by omega) hvl (by omega) (R : Int) (C : Int) m (S.getD j 0).toNat (by omega) (by omega)
  by_cases hx : ∃ v,((i,((j : Int),v)) : Ent) ∈ ents S I V C 0
  · obtain ⟨v,hv⟩ := hx
    refine ⟨v,true,qhq hm h hv,?_,.inl ⟨rfl,hv⟩⟩
    rcases hr with ⟨t,h1,h2,h3,h4⟩ | ⟨h1,h2⟩
    · rw [hpre,h4,Option.bind_some]
      have : ((i,((j : Int),V.getD t 0)) : Ent) ∈ ents S I V C 0 := Zi.2 ⟨j,t,by omega,by omega,by omega,by omega,by rw [h3]⟩
      rw [h.dist.val hv this]
    · obtain ⟨j',t,_,hj',t1,t2,e⟩ := Zi.1 hv
      simp only [Prod.mk.injEq] at e
      obtain ⟨q1,q2,q3⟩ := e
      have : j = j' := by omega
      subst this
      exact absurd q1.symm (h1 t t1 t2)
  · have hx' : ∀ v',((i,((j : Int),v')) : Ent) ∉ ents S I V C 0 := fun v' hv => hx ⟨v',hv⟩
    refine ⟨0,false,qj0 hm h hj hx',?_,.inr ⟨rfl,rfl,hx'⟩⟩
    rcases hr with ⟨t,h1,h2,h3,h4⟩ | ⟨h1,h2⟩
    · exact absurd (Zi.2 ⟨j,t,by omega,by omega,by omega,by omega,by rw [h3]⟩) (hx' (V.getD t 0))
    · rw [hpre,h2,Option.bind_some]
end
end Go.Vs.F

/-! MxEd -/
set_option linter.unusedVariables false
set_option linter.unusedSimpArgs false
set_option maxRecDepth 100000
namespace Go.Vs.F
def valF (f : Int) : Int := sc (ofZ f) (ofE f) (-1074)
theorem qfe {f : Int} (h : FinF f) : ofD f = mkD (valF f) (-1074) := by
  have he := q5w (f := f)
  unfold ofD valF
  rw [if_pos h,q2u (by omega)]
theorem val_ok {f : Int} (h : FinF f) : OkD (valF f) (-1074) := by
  have he := q5w (f := f)
  have := qek h
  unfold OkD valF at *
  rwa [q2u (by omega)]
theorem qh6 {m : Nat} (hm : 3000000 < m) {a b : Int} (ha : FinF a) (hb : FinF b) :
    g91 m (ofD a).1 (ofD a).2.1 (ofD a).2.2.1 (ofD a).2.2.2.1 (ofD b).1 (ofD b).2.1 (ofD b).2.2.1 (ofD b).2.2.2.1 = some (mkD (valF a - valF b) (-1074),(),(),()) ∧
    g39 m (ofD a).1 (ofD a).2.1 (ofD a).2.2.1 (ofD a).2.2.2.1 (ofD b).1 (ofD b).2.1 (ofD b).2.2.1 (ofD b).2.2.2.1 = some (mkD (valF a - valF b) (-1074),(),(),()) := by
  rw [qfe ha,qfe hb,qiw hm,qgt hm,if_pos ⟨val_ok ha,val_ok hb⟩]
  exact ⟨rfl,rfl⟩
def offE (e : Ent) : Bool := e.1 != e.2.1
theorem q1m (m : Nat) (s : Int) (r c : Int) (S I V : List Int) (b0 b1 : Int) (b2 b3 b4 : List Int) {es : List Ent} (hl : es.length ≤ 100000) : ∀ (n k : Nat),es.length - k < n → k ≤ es.length →
    g35_L0 m n s r c S I V b0 b1 b2 b3 b4 ((es.take k).filter offE) es (es.length : Int) (k : Int) = some (.inl (s,(r,c,S,I,V,()),(b0,b1,b2,b3,b4,()),es.filter offE,())) ∧
    g55_L0 m n s r c S I V b0 b1 b2 b3 b4 ((es.take k).filter offE) es (k : Int) = some (.inl (s,(r,c,S,I,V,()),(b0,b1,b2,b3,b4,()),es.filter offE,()))
  | 0,k,h,_ => absurd h (Nat.not_lt_zero _)
  | n + 1,k,h,hk0 => by
    rw [g35_L0,g55_L0]
    by_cases hk : k < es.length
    · have h1 : ((k : Int) < (es.length : Int)) := by omega
      have c1 : (0 : Int) ≤ (k : Int) ∧ (k : Int) < (es.length : Int) := by omega
      have hlen := qdf (es := es) (p := offE) (k := k)
      have c2 : ∀ y : Ent,((es.take k).filter offE).length + ([y] : List Ent).length ≤ 1073741824 := fun y => by show _ + 1 ≤ _; omega
      obtain ⟨i1,i2⟩ := q1m m s r c S I V b0 b1 b2 b3 b4 hl n (k + 1) (by omega) (by omega)
      rw [qbn hk] at i1 i2
      simp only [bif_decide,h1,if_true,c1,c2,and_self,Int.toNat_natCast,Nat.zero_add,w_i64_eq,wsucc (show k < 4611686018427387904 by omega)]
      by_cases hp : offE (es.getD k zE) = true
      · rw [if_pos hp] at i1 i2
        have hp' : ((es.getD k (0,0,0)).1 != (es.getD k (0,0,0)).2.1) = true := hp
        rw [hp',cond_true,cond_true]
        exact ⟨i1,i2⟩
      · rw [if_neg hp,List.append_nil] at i1 i2
        have hp' : ((es.getD k (0,0,0)).1 != (es.getD k (0,0,0)).2.1) = false := by
          have : offE (es.getD k zE) = false := by simpa using hp
          exact this
        rw [hp',cond_false,cond_false]
        exact ⟨i1,i2⟩
    · have h1 : ¬ ((k : Int) < (es.length : Int)) := by omega
      simp only [bif_decide,h1,if_false]
      rw [List.take_of_length_le (by omega)]
      exact ⟨rfl,rfl⟩
section
variable {R C : Nat} {S I V : List Int}
theorem MV.valU (h : MV R C S I V) (hU : ∀ x ∈ V,U64 x) {e : Ent} (he : e ∈ Go.Vs.F.ents S I V C 0) : U64 e.2.2 ∧ FinF e.2.2 := by
  have h1 := hU _ (q6y h.ok h.vl C 0 (by omega) e he)
  obtain ⟨_,_,h3⟩ := Ze h.ents e he
  rw [qbc h1] at h3
  exact ⟨h1,of_decide_eq_true h3⟩
theorem qgu : U64 0 := ⟨by omega,by omega⟩
theorem qhg : FinF 0 := by unfold FinF fexp; decide
end
end Go.Vs.F
namespace Go.Vs.F
open Go.Vs
end Go.Vs.F

/-! MxEe -/
set_option linter.unusedVariables false
set_option linter.unusedSimpArgs false
namespace Go.Vs.F
theorem qlb {neg : Bool} {q r : Int} (h1 : 0 ≤ q) (h2 : q < 2048) (h3 : 0 ≤ r) (h4 : r < 4503599627370496) :
    fexp (sgnF neg (q * 4503599627370496 + r)) = q ∧ ffrac (sgnF neg (q * 4503599627370496 + r)) = r ∧ fneg (sgnF neg (q * 4503599627370496 + r)) = neg := by
  unfold fexp ffrac fneg sgnF
  cases neg <;> simp <;> omega
/- Fits a float exactly. -/
def Rep (z e : Int) : Prop := z = 0 ∨ ∃ w f,NF z e w f ∧ blen w.natAbs ≤ 53 ∧ -1074 ≤ f ∧ f + (blen w.natAbs : Int) ≤ 1024
theorem qk8 {z e : Int} (h : Rep z e) (mode : Int) : U64 (Xr (mkD z e) mode) ∧ FinF (Xr (mkD z e) mode) ∧ EqD (ofZ (Xr (mkD z e) mode)) (ofE (Xr (mkD z e) mode)) z e := by
  refine ⟨q2b,?_⟩
  rcases h with rfl | ⟨w,f,k,h1,h2,h3⟩
  · have : Xr (mkD 0 e) mode = 0 := rfl
    rw [this]
    refine ⟨qhg,?_⟩
    have : ofZ 0 = 0 := by unfold ofZ fexp ffrac fneg; decide
    rw [this]; exact EqD.zero _ _
  · by_cases hw : w = 0
    · subst hw
      have hz : z = 0 := by
        have := k.eq.sgn
        rw [show sgn 0 = 0 from rfl] at this
        exact Qu.1 this.symm
      subst hz
      have : Xr (mkD 0 e) mode = 0 := rfl
      rw [this]
      refine ⟨qhg,?_⟩
      have : ofZ 0 = 0 := by unfold ofZ fexp ffrac fneg; decide
      rw [this]; exact EqD.zero _ _
    · have hv : w.natAbs ≠ 0 := by omega
      have hr : Xr (mkD z e) mode = q0a (decide (w < 0)) w.natAbs f false mode := by
        rw [k.md]; unfold Xr
        rw [if_neg (by simp),if_neg (fun h => hv (Jh.1 h))]
        show q0a _ (vl (lim w.natAbs)) _ _ _ = _
        rw [qx]
      rw [hr]
      have hu : unitF w.natAbs f ≤ f := by unfold unitF; omega
      have hmu : multF (decide (w < 0)) w.natAbs f false mode = w.natAbs * 2 ^ (f - unitF w.natAbs f).toNat := by unfold multF; rw [if_pos hu]
      have hbn : blen (w.natAbs * 2 ^ (f - unitF w.natAbs f).toNat) = (f - unitF w.natAbs f).toNat + blen w.natAbs := by
        rw [Nat.mul_comm]; exact J8 hv
      unfold q0a
      rw [hmu]
      have hEq : EqD (sg (decide (w < 0)) (w.natAbs * 2 ^ (f - unitF w.natAbs f).toNat)) (unitF w.natAbs f) z e := by
        refine EqD.trans ⟨unitF w.natAbs f,by omega,hu,?_⟩ k.eq
        rw [qeu]
        unfold sc sg
        rw [Int.natCast_mul,Int.natCast_pow]
        show (if decide (w < 0) = true then -(((w.natAbs : Nat) : Int) * 2 ^ (f - unitF w.natAbs f).toNat) else ((w.natAbs : Nat) : Int) * 2 ^ (f - unitF w.natAbs f).toNat) = w * 2 ^ (f - unitF w.natAbs f).toNat
        by_cases c : w < 0
        · rw [if_pos (by simpa using c),← Int.neg_mul,show -((w.natAbs : Nat) : Int) = w by omega]
        · rw [if_neg (by simpa using c),show ((w.natAbs : Nat) : Int) = w by omega]
      have hnpos : w.natAbs * 2 ^ (f - unitF w.natAbs f).toNat ≠ 0 := Nat.mul_ne_zero hv (by have := Nat.pow_pos (n := (f - unitF w.natAbs f).toNat) (show 0 < 2 by omega); omega)
      have hlt := q2h (w.natAbs * 2 ^ (f - unitF w.natAbs f).toNat)
      have hge := qes hnpos
      have hub : (unitF w.natAbs f = f + (blen w.natAbs : Int) - 53 ∧ -1074 ≤ f + (blen w.natAbs : Int) - 53) ∨ (unitF w.natAbs f = -1074 ∧ f + (blen w.natAbs : Int) - 53 < -1074) := by unfold unitF; omega
      generalize w.natAbs * 2 ^ (f - unitF w.natAbs f).toNat = n at *
      generalize unitF w.natAbs f = u at *
      generalize decide (w < 0) = neg at *
      have hb1 : 1 ≤ blen w.natAbs := by rw [Qn hv]; omega
      have c52 : (2 : Nat) ^ 52 = 4503599627370496 := by decide
      have c53 : (2 : Nat) ^ 53 = 9007199254740992 := by decide
      have hn53 : n < 9007199254740992 := by
        have : 2 ^ blen n ≤ 2 ^ 53 := Nat.pow_le_pow_right (by omega) (by omega)
        omega
      unfold packF
      rw [if_neg (by omega)]
      by_cases c : n < 4503599627370496
      · have hu2 : u = -1074 := by
          rcases hub with ⟨a,b⟩ | ⟨a,_⟩
          · have : 2 ^ 52 ≤ 2 ^ (blen n - 1) := Nat.pow_le_pow_right (by omega) (by omega)
            omega
          · exact a
        rw [if_pos c]
        obtain ⟨p1,p2,p3⟩ := qlb (neg := neg) (q := 0) (r := (n : Int)) (by omega) (by omega) (by omega) (by omega)
        rw [Int.zero_mul,Int.zero_add] at p1 p2 p3
        have o1 : ofZ (sgnF neg (n : Int)) = sg neg n := by
          unfold ofZ; rw [p1,p2,p3,if_pos rfl]; unfold sg; cases neg <;> simp
        have o2 : ofE (sgnF neg (n : Int)) = u := by unfold ofE; rw [p1,if_pos rfl,hu2]
        refine ⟨by unfold FinF; rw [p1]; omega,?_⟩
        rw [o1,o2]; exact hEq
      · have hu2 : u + 1075 < 2047 := by
          rcases hub with ⟨a,b⟩ | ⟨a,b⟩ <;> omega
        have hu3 : -1074 ≤ u := by rcases hub with ⟨a,b⟩ | ⟨a,b⟩ <;> omega
        rw [if_neg c,if_neg (by omega)]
        obtain ⟨p1,p2,p3⟩ := qlb (neg := neg) (q := u + 1075) (r := (n : Int) - 4503599627370496) (by omega) (by omega) (by omega) (by omega)
        have o1 : ofZ (sgnF neg ((u + 1075) * 4503599627370496 + ((n : Int) - 4503599627370496))) = sg neg n := by
          unfold ofZ; rw [p1,p2,p3,if_neg (show ¬ u + 1075 = 0 by omega),show (n : Int) - 4503599627370496 + 4503599627370496 = (n : Int) by omega]; unfold sg
          cases neg
          · simp
          · simp
        have o2 : ofE (sgnF neg ((u + 1075) * 4503599627370496 + ((n : Int) - 4503599627370496))) = u := by unfold ofE; rw [p1,if_neg (by omega)]; omega
        refine ⟨by unfold FinF; rw [p1]; omega,?_⟩
        rw [o1,o2]; exact hEq
theorem ql7 {z e : Int} : exB z e = true ↔ FinF (Xr (mkD z e) 0) ∧ OkD z e ∧ EqD (ofZ (Xr (mkD z e) 0)) (ofE (Xr (mkD z e) 0)) z e := by
  unfold exB
  rw [decide_eq_true_eq]
  constructor
  · rintro ⟨h1,h2,h3⟩
    exact ⟨h1,h2,⟨min (ofE (Xr (mkD z e) 0)) e,by omega,by omega,h3⟩⟩
  · rintro ⟨h1,h2,h3⟩
    exact ⟨h1,h2,h3.low (by omega) (by omega)⟩
theorem Rep.ok {z e : Int} (h : Rep z e) : OkD z e := by
  rcases h with rfl | ⟨w,f,k,_⟩
  · exact qkv _
  · exact k.eq.ok.1 k.ok
theorem Rep.ex {z e : Int} (h : Rep z e) : exB z e = true := by
  obtain ⟨h1,h2,h3⟩ := qk8 h 0
  exact ql7.2 ⟨h2,h.ok,h3⟩
theorem qlg {z : Int} (h : exB z (-1074) = true) : valF (Xr (mkD z (-1074)) 0) = z := by
  obtain ⟨h1,h2,h3⟩ := ql7.1 h
  have he := q5w (f := Xr (mkD z (-1074)) 0)
  have := h3.low (c := -1074) (by omega) (by omega)
  rwa [qeu] at this
/- A small multiple of a power of two fits. -/
theorem Rep.of_mul {z e k g : Int} (h : EqD k g z e) (hk : blen k.natAbs ≤ 53) (h1 : -1074 ≤ g) (h2 : g ≤ 900) : Rep z e := by
  by_cases hk0 : k = 0
  · subst hk0
    have := h.sgn
    rw [show sgn 0 = 0 from rfl] at this
    exact .inl (Qu.1 this.symm)
  · have hok : OkD k g := X3.2 (.inr ⟨by omega,by have := Jq (n := k.natAbs); omega⟩)
    obtain ⟨w,f,n⟩ := hok.nf
    have hn : k.natAbs ≠ 0 := by omega
    have hmk : mkD k g = (false,decide (k < 0),lim (k.natAbs / 2 ^ tz k.natAbs),g + (tz k.natAbs : Int),()) := by
      unfold mkD; rw [if_neg hk0,if_neg (by have := X3.1 hok; omega)]
    have hmd := n.md
    rw [hmk] at hmd
    simp only [Prod.mk.injEq] at hmd
    have hf : f = g + (tz k.natAbs : Int) := hmd.2.2.2.1.symm
    have hwn : w.natAbs = k.natAbs / 2 ^ tz k.natAbs := by rw [← qx w.natAbs,← hmd.2.2.1,qx]
    have hbt := q7i hn
    refine .inr ⟨w,f,⟨n.eq.trans h,by rw [← h.mk]; exact n.md,n.zero,n.odd,n.lo,n.hi⟩,?_,by omega,?_⟩
    · rw [hwn]; omega
    · rw [hwn]; omega
end Go.Vs.F

/-! MxEf -/
set_option linter.unusedVariables false
set_option linter.unusedSimpArgs false
set_option maxRecDepth 100000
namespace Go.Vs.F
theorem ql6 {m : Nat} (hm : 3000000 < m) {n : Int} (h : I64 n) : g89 m n = some (mkD n 0,(),()) := by
  have hb : blen n.natAbs ≤ 1000 := Nat.le_trans (Xi (k := 64) (by unfold I64 at h; omega)) (by omega)
  rw [g89,Zw (by omega) h.1 h.2,Option.bind_some]
  dsimp only
  rw [q3g hm (by omega) (by omega) (by omega)]; rfl
structure SmV (v : Int) : Prop where
  u : U64 v
  f : FinF v
  k : ∃ k : Int,EqD (ofZ v) (ofE v) k (-6) ∧ -32768 ≤ k ∧ k ≤ 32768
theorem SmV.fin {v : Int} (h : SmV v) : finB v = true := by rw [qbc h.u]; exact decide_eq_true h.f
theorem SmV.val {v : Int} (h : SmV v) : ∃ k : Int,EqD k (-6) (valF v) (-1074) ∧ -32768 ≤ k ∧ k ≤ 32768 := by
  obtain ⟨k,h1,h2⟩ := h.k
  have he := q5w (f := v)
  exact ⟨k,h1.symm.trans (EqD.sc (by omega)).symm,h2⟩
theorem ql3 {m : Nat} (hm : 3000000 < m) {a e : Int} (ha : -100 ≤ a ∧ a ≤ 100) (he : -6 ≤ e ∧ e ≤ 6) : valC m a e = some (Xr (mkD a e) 0,(),()) := by
  have hok : OkD a 0 := by
    by_cases h : a = 0
    · subst h; exact qkv _
    · have hb := Xi (n := a.natAbs) (k := 7) (by omega)
      have := Jq (n := a.natAbs)
      exact X3.2 (.inr ⟨by omega,by omega⟩)
  have hc : Qk e = e := by unfold Qk; omega
  rw [valC,ql6 hm ⟨by omega,by omega⟩,Option.bind_some]
  dsimp only
  rw [qdg hm,if_pos hok,Option.bind_some,hc,Int.zero_add]
  dsimp only
  rw [qg6 hm,Option.bind_some]
theorem ql2 {a e : Int} (ha : -8 ≤ a ∧ a ≤ 8) (he : -6 ≤ e ∧ e ≤ 6) : SmV (Xr (mkD a e) 0) := by
  have hr : Rep a e := Rep.of_mul (EqD.refl a e) (Nat.le_trans (Xi (k := 4) (by omega)) (by omega)) (by omega) (by omega)
  obtain ⟨h1,h2,h3⟩ := qk8 hr 0
  refine ⟨h1,h2,a * 2 ^ (e + 6).toNat,h3.trans ⟨-6,by omega,by omega,?_⟩,?_⟩
  · rw [qeu]; unfold sc; rw [show (e - -6).toNat = (e + 6).toNat by omega]
  · have hp : (2 : Int) ^ (e + 6).toNat ≤ 4096 := by
      have : (2 : Int) ^ (e + 6).toNat = ((2 ^ (e + 6).toNat : Nat) : Int) := by rw [Int.natCast_pow]; rfl
      rw [this]
      have h2 : 2 ^ (e + 6).toNat ≤ 2 ^ 12 := Nat.pow_le_pow_right (by omega) (by omega)
      have : (2 : Nat) ^ 12 = 4096 := by decide
      omega
    have hq := q0w (e + 6).toNat
    generalize (2 : Int) ^ (e + 6).toNat = P at *
    obtain ⟨a1,a2⟩ := ha
    constructor
    · have : -8 * P ≤ a * P := Int.mul_le_mul_of_nonneg_right a1 (by omega)
      omega
    · have : a * P ≤ 8 * P := Int.mul_le_mul_of_nonneg_right a2 (by omega)
      omega
theorem qkg (n : Int) : ∃ v,SmV v ∧ ∀ m,3000000 < m → g34 m n = some (v,(),()) := by
  obtain ⟨k,hk,hp⟩ := qk7 (a := n) (n := 17) (by omega) (by omega)
  obtain ⟨x,hx,hxl⟩ := qld n
  have e17 : Int.tdiv (x : Int) 17 = ((x / 17 : Nat) : Int) := td x 17
  have e3 : Int.tdiv ((x / 17 : Nat) : Int) 3 = ((x / 17 / 3 : Nat) : Int) := td _ 3
  have e13 : Int.tmod ((x / 17 / 3 : Nat) : Int) 13 = ((x / 17 / 3 % 13 : Nat) : Int) := tm _ 13
  have l1 : x / 17 < 9223372036854775808 := by omega
  have l2 : x / 17 / 3 % 13 < 13 := by omega
  have key : ∀ m,g34 m n = if Int.tmod ((x / 17 : Nat) : Int) 3 = 0 then valC m ((k : Int) - 8) (((x / 17 / 3 % 13 : Nat) : Int) - 6) else valC m ((k : Int) - 8) 0 := by
    intro m
    rw [g34]
    rw [show g20 m n 17 = some ((k : Int),(),(),()) from hp m]
    simp only [Option.bind_some,w_u64,w_i64,hx,e17]
    rw [wu (by omega) (by omega),wi (n := ((x / 17 : Nat) : Int)) (by omega) (by omega),wi (n := (k : Int) - 8) (by omega) (by omega),e3,wi (n := ((x / 17 / 3 : Nat) : Int)) (by omega) (by omega),e13,wi (n := ((x / 17 / 3 % 13 : Nat) : Int) - 6) (by omega) (by omega),bif_eq]
    rfl
  by_cases h : Int.tmod ((x / 17 : Nat) : Int) 3 = 0
  · exact ⟨_,ql2 (a := (k : Int) - 8) (e := ((x / 17 / 3 % 13 : Nat) : Int) - 6) (by omega) (by omega),fun m hm => by rw [key,if_pos h,ql3 hm (by omega) (by omega)]⟩
  · exact ⟨_,ql2 (a := (k : Int) - 8) (e := 0) (by omega) (by omega),fun m hm => by rw [key,if_neg h,ql3 hm (by omega) (by omega)]⟩
theorem qlc {a b : Int} (ha : SmV a) (hb : SmV b) : Rep (valF a - valF b) (-1074) := by
  obtain ⟨k,k1,k2,k3⟩ := ha.val
  obtain ⟨l,l1,l2,l3⟩ := hb.val
  have := k1.add (c := 0) (g := 0) l1.neg
  rw [← Int.sub_eq_add_neg,← Int.sub_eq_add_neg] at this
  exact Rep.of_mul this (Nat.le_trans (Xi (k := 17) (by omega)) (by omega)) (by omega) (by omega)
/- The opposite number. -/
def negF (f : Int) : Int := if 9223372036854775808 ≤ f then f - 9223372036854775808 else f + 9223372036854775808
theorem qlh {n : Nat} (h : n < 18446744073709551616) : ql0 .u64 (n : Int) 9223372036854775808 = negF (n : Int) := by
  unfold ql0
  show IntKind.wrap .u64 ((BitVec.ofInt 64 (n : Int) ^^^ BitVec.ofInt 64 ((9223372036854775808 : Nat) : Int)).toNat : Int) = _
  rw [BitVec.toNat_xor,ofInt64 h,ofInt64 (by omega)]
  have e : n ^^^ 9223372036854775808 = if 9223372036854775808 ≤ n then n - 9223372036854775808 else n + 9223372036854775808 := by
    have hb : (9223372036854775808 : Nat) = 2 ^ 63 * 1 := by decide
    by_cases c : 9223372036854775808 ≤ n
    · rw [if_pos c]
      obtain ⟨r,rfl⟩ : ∃ r,n = 2 ^ 63 * 1 + r := ⟨n - 9223372036854775808,by omega⟩
      have hr : r < 2 ^ 63 := by omega
      rw [Nat.two_pow_add_eq_or_of_lt hr,hb]
      apply Nat.eq_of_testBit_eq
      intro i
      simp only [Nat.testBit_xor,Nat.testBit_or,Nat.mul_one,Nat.testBit_two_pow]
      have : 2 ^ 63 + r - 2 ^ 63 = r := by omega
      rw [← Nat.mul_one (2 ^ 63),← Nat.two_pow_add_eq_or_of_lt hr,Nat.mul_one,this]
      by_cases c2 : 63 = i
      · subst c2
        rw [Nat.testBit_lt_two_pow hr]; simp
      · simp [c2]
    · rw [if_neg c]
      have hr : n < 2 ^ 63 := by omega
      rw [Nat.add_comm,hb,Nat.two_pow_add_eq_or_of_lt hr]
      apply Nat.eq_of_testBit_eq
      intro i
      simp only [Nat.testBit_xor,Nat.testBit_or,Nat.mul_one,Nat.testBit_two_pow]
      by_cases c2 : 63 = i
      · subst c2
        rw [Nat.testBit_lt_two_pow hr]; simp
      · simp [c2]
  rw [e]
  unfold negF
  by_cases c : 9223372036854775808 ≤ n
  · rw [if_pos c,if_pos (by omega),wu (by omega) (by omega)]; omega
  · rw [if_neg c,if_neg (by omega),wu (by omega) (by omega)]; omega
theorem qkc {f : Int} (h : U64 f) : U64 (negF f) ∧ fexp (negF f) = fexp f ∧ ffrac (negF f) = ffrac f ∧ fneg (negF f) = !fneg f := by
  obtain ⟨h1,h2⟩ := h
  unfold negF U64 fexp ffrac fneg
  split
  · refine ⟨by omega,by omega,by omega,?_⟩
    rw [show decide (9223372036854775808 ≤ f - 9223372036854775808) = false by rw [decide_eq_false_iff_not]; omega,show decide (9223372036854775808 ≤ f) = true by rw [decide_eq_true_eq]; omega]; rfl
  · refine ⟨by omega,by omega,by omega,?_⟩
    rw [show decide (9223372036854775808 ≤ f + 9223372036854775808) = true by rw [decide_eq_true_eq]; omega,show decide (9223372036854775808 ≤ f) = false by rw [decide_eq_false_iff_not]; omega]; rfl
theorem ql8 {f : Int} (h : U64 f) : valF (negF f) = - valF f ∧ (FinF f → FinF (negF f)) := by
  obtain ⟨h1,h2,h3,h4⟩ := qkc h
  have o1 : ofZ (negF f) = - ofZ f := by unfold ofZ; rw [h2,h3,h4]; cases fneg f <;> simp
  have o2 : ofE (negF f) = ofE f := by unfold ofE; rw [h2]
  refine ⟨?_,fun hf => by unfold FinF at *; rwa [h2]⟩
  unfold valF sc
  rw [o1,o2,Int.neg_mul]
theorem qlf {m : Nat} (hm : 10 < m) {f : Int} (h : U64 f) (hf : FinF f) : g36 m f = some (negF f,(),()) := by
  have hk := (qin (m := m) h).1
  have h3 : kindN f ≠ 3 := by unfold kindN; rw [if_neg hf]; split <;> omega
  obtain ⟨n,rfl⟩ : ∃ n,m = n + 2 := ⟨m - 2,by omega⟩
  have hn : g92 (n + 2) [f] = some (false,(),()) := by
    rw [g92,g92_L0,bif_decide,if_pos (by simp),if_pos (by simp)]
    have e0 : ([f] : List Int).getD (0 : Int).toNat 0 = f := rfl
    rw [e0,hk,Option.bind_some,bif_eq,if_neg h3]
    have w : w_i64 (0 + 1) = 1 := by decide
    rw [w,g92_L0,bif_decide,if_neg (by simp),Option.bind_some]
  obtain ⟨x,rfl⟩ : ∃ x : Nat,f = (x : Int) := ⟨f.toNat,by have := h.1; omega⟩
  rw [g36,hn,Option.bind_some]
  dsimp only
  rw [cond_false,qlh (by have := h.2; omega)]
section
variable {R C : Nat} {S I V : List Int}
theorem qkp {m : Nat} (hm : 3000000 < m) (h : MV C C S I V) (hU : ∀ x ∈ V,U64 x) {s : Int} (hs : U64 s) (hf : FinF s) (b0 b1 : Int) (b2 b3 b4 : List Int)
    (hrep : ∀ (j : Nat) v b,j < C → g85 m (C : Int) (C : Int) S I V (j : Int) (j : Int) = some ((v,b,()),(),(),(),()) → Rep (valF v - valF s) (-1074)) : ∀ (n k : Nat) (out : List Ent),C - k < n → k ≤ C → out.length ≤ 100000 + k →
    ∃ dg,g35_L1 m n s (C : Int) (C : Int) S I V b0 b1 b2 b3 b4 out (C : Int) (k : Int) = some (.inr (.inl (((C : Int),(C : Int),S,I,V,()),(b0,b1,b2,b3,b4,()),out ++ dg,()))) ∧ dg.map posE = (List.range' k (C - k)).map (fun i : Nat => ((i : Int),(i : Int))) ∧
      ∀ e ∈ dg,finB e.2.2 = true ∧ U64 e.2.2 ∧ ∃ v b,g85 m (C : Int) (C : Int) S I V e.1 e.1 = some ((v,b,()),(),(),(),()) ∧ valF e.2.2 = valF v - valF s := by
  intro n
  induction n with
  | zero => intro k out h; omega
  | succ n ih =>
    intro k out hn hk0 hol
    have hcz := h.ok.cz
    rw [g35_L1]
    by_cases hk : k < C
    · have h1 : ((k : Int) < (C : Int)) := by omega
      obtain ⟨v,b,e1,e2,e3⟩ := qj3 hm h (i := (k : Int)) hk
      have hv : U64 v ∧ FinF v := by
        rcases e3 with ⟨_,g⟩ | ⟨_,g,_⟩
        · exact h.valU hU g
        · subst g; exact ⟨qgu,qhg⟩
      have ex := (hrep k v b hk e1).ex
      simp only [bif_decide,h1,if_true]
      rw [e1,Option.bind_some]
      dsimp only
      rw [Of_eq hm hv.1,Of_eq hm hs]
      simp only [Option.bind_some]
      rw [(qh6 hm hv.2 hf).1,Option.bind_some]
      dsimp only
      rw [(Ju hm).1,Option.bind_some]
      dsimp only
      have hfin := qfh ex
      have hval := qlg ex
      have hU' := q2b (d := mkD (valF v - valF s) (-1074)) (mode := 0)
      rw [ex,Bool.not_true,cond_false,if_pos (by show out.length + 1 ≤ _; omega),show w_i64 ((k : Int) + 1) = ((k + 1 : Nat) : Int) from wsucc (by omega)]
      obtain ⟨f,hfe⟩ : ∃ f,f = Xr (mkD (valF v - valF s) (-1074)) 0 := ⟨_,rfl⟩
      rw [← hfe] at hfin hval hU' ⊢
      obtain ⟨dg,j1,j2,j3⟩ := ih (k + 1) (out ++ [((k : Int),((k : Int),f))]) (by omega) (by omega) (by simp; omega)
      refine ⟨((k : Int),((k : Int),f)) :: dg,by rw [j1,List.append_assoc]; rfl,?_,fun e he => ?_⟩
      · rw [List.map_cons,j2,show C - k = (C - (k + 1)) + 1 by omega,List.range'_succ]
        rfl
      · rcases List.mem_cons.1 he with rfl | he
        · exact ⟨hfin,hU',v,b,e1,hval⟩
        · exact j3 e he
    · have h1 : ¬ ((k : Int) < (C : Int)) := by omega
      simp only [bif_decide,h1,if_false]
      exact ⟨[],by rw [List.append_nil],by rw [show C - k = 0 by omega]; rfl,fun e he => by cases he⟩
/- A look at a place. -/
def LookV (es : List Ent) (i j : Int) (v : Int) : Prop := ((i,(j,v)) : Ent) ∈ es ∨ (v = 0 ∧ ∀ v',((i,(j,v')) : Ent) ∉ es)
theorem LookV.uniq {es : List Ent} (hD : DistE es) {i j v w : Int} (h : LookV es i j v) (h2 : LookV es i j w) : v = w := by
  rcases h with h | ⟨rfl,h⟩
  · rcases h2 with h2 | ⟨rfl,h2⟩
    · exact hD.val h h2
    · exact absurd h (h2 _)
  · rcases h2 with h2 | ⟨rfl,h2⟩
    · exact absurd h2 (h _)
    · rfl
theorem qkh {m : Nat} (hm : 3000000 < m) (h : MV R C S I V) {i j : Nat} (hi : i < R) (hj : j < C) :
    ∃ v,LookV (ents S I V C 0) (i : Int) (j : Int) v ∧ g30 m (R : Int) (C : Int) S I V (i : Int) (j : Int) = some (v,(),(),(),()) ∧ g38 m (R : Int) (C : Int) S I V (i : Int) (j : Int) = some (v,(),(),(),()) := by
  have hsz := h.ok.sz
  have hcz := h.ok.cz
  have hrz := h.ok.rz
  have hvl := h.vl
  have hs := h.sl
  obtain ⟨v,b,e1,e2,e3⟩ := qj3 hm h (i := (i : Int)) hj
  refine ⟨v,?_,?_,e2⟩
  · rcases e3 with ⟨_,g⟩ | ⟨_,g,g2⟩
    · exact .inl g
    · exact .inr ⟨g,g2⟩
  · have w1 : w_i64 ((R : Int) - 1) = (R : Int) - 1 := by rw [w_i64_eq,wi (by omega) (by omega)]
    have w2 : w_i64 ((C : Int) - 1) = (C : Int) - 1 := by rw [w_i64_eq,wi (by omega) (by omega)]
    rw [g30,g44_eq (by omega) (by omega) (by omega) (by omega) (by omega),h.chk]
    simp only [Option.bind_some,bif_ne,if_true]
    rw [q8m,w1,w2,q8m]
    simp only [Option.bind_some]
    rw [decide_eq_true (show (0 : Int) ≤ (i : Int) by omega),decide_eq_true (show (i : Int) ≤ (R : Int) - 1 by omega),decide_eq_true (show (0 : Int) ≤ (j : Int) by omega),decide_eq_true (show (j : Int) ≤ (C : Int) - 1 by omega)]
    simp only [Bool.and_self,Bool.not_true,cond_false]
    rw [e1,Option.bind_some]
theorem LookV.congr {es es' : List Ent} {i j v : Int} (h : LookV es i j v) (hh : ∀ v,((i,(j,v)) : Ent) ∈ es ↔ ((i,(j,v)) : Ent) ∈ es') : LookV es' i j v := by
  rcases h with h | ⟨h1,h2⟩
  · exact .inl ((hh _).1 h)
  · exact .inr ⟨h1,fun v' hv => h2 v' ((hh _).2 hv)⟩
end
end Go.Vs.F

/-! MxEg -/
set_option linter.unusedVariables false
set_option linter.unusedSimpArgs false
set_option maxRecDepth 100000
namespace Go.Vs.F
theorem qka {es : List Ent} {r c : Nat} (hE : EntsOK r c es) (hD : DistE es) {x : Ent} : x ∈ can es r c ↔ x ∈ es := by
  rw [q7p]
  constructor
  · rintro ⟨i,j,hi,hj,h,rfl⟩
    exact qjx h
  · intro hx
    obtain ⟨i,j,v⟩ := x
    obtain ⟨h1,h2,_⟩ := Ze hE _ hx
    obtain ⟨i',rfl⟩ : ∃ k : Nat,i = (k : Int) := ⟨i.toNat,by dsimp only at h1; omega⟩
    obtain ⟨j',rfl⟩ : ∃ k : Nat,j = (k : Int) := ⟨j.toNat,by dsimp only at h2; omega⟩
    have hl : 0 < Qo es i' j' es.length := qk3.2 ⟨v,hx⟩
    have := hD.val (qjx hl) hx
    refine ⟨i',j',by dsimp only at h1; omega,by dsimp only at h2; omega,hl,?_⟩
    rw [this]
theorem qki {es : List Ent} {r c : Nat} {x : Int} (h : x ∈ packV es r c) : ∃ e ∈ es,e.2.2 = x := by
  rw [← can_V] at h
  obtain ⟨e,he,rfl⟩ := List.mem_map.1 h
  obtain ⟨i,j,_,_,hl,rfl⟩ := q7p.1 he
  exact ⟨_,qjx hl,rfl⟩
theorem qk0 (m : Nat) {a : List Int} (hl : a.length ≤ 1000000) : ∀ (n k : Nat),a.length - k < n → k ≤ a.length → g138_L0 m n a a (k : Int) = some (.inr (.inl ()))
  | 0,k,h,_ => by omega
  | n + 1,k,h,hk0 => by
    rw [g138_L0,bif_decide]
    by_cases hk : k < a.length
    · rw [if_pos (by omega),if_pos (by omega),if_pos (by omega),bif_ne,if_pos rfl,show w_i64 ((k : Int) + 1) = ((k + 1 : Nat) : Int) from wsucc (by omega)]
      exact qk0 m hl n (k + 1) (by omega) (by omega)
    · rw [if_neg (by omega)]
theorem qkx {m : Nat} {a : List Int} (hl : a.length ≤ 1000000) (hm : 2000000 < m) : g138 m a a = some (true,(),(),()) := by
  have := qk0 m hl m 0 (by omega) (by omega)
  rw [Int.natCast_zero] at this
  rw [g138,bif_ne,if_pos rfl,this,Option.bind_some]
theorem qkb {m : Nat} (hm : 3000000 < m) {z e : Int} : g27 m (mkD z e).1 (mkD z e).2.1 (mkD z e).2.2.1 (mkD z e).2.2.2.1 (mkD z e).1 (mkD z e).2.1 (mkD z e).2.2.1 (mkD z e).2.2.2.1 = some (true,(),(),()) := by
  have hl : (mkD z e).2.2.1.length ≤ 1000000 := by
    by_cases h : OkD z e
    · obtain ⟨w,f,k,k1,k2,k3⟩ := X4 h
      rw [k2]; have := k.lim; omega
    · rw [Yt h]; simp
  rw [g27,beq_self_eq_true,cond_true,beq_self_eq_true,cond_true,g79,beq_self_eq_true,cond_true,qkx hl (by omega)]; rfl
section
variable {R C : Nat} {S I V : List Int}
theorem qk9 {m : Nat} (hm : 3000000 < m) (h : MV C C S I V) (hU : ∀ x ∈ V,U64 x) {s : Int} (hs : U64 s) (hf : FinF s) (hsz2 : (Go.Vs.F.ents S I V C 0).length + C ≤ 10000)
    (hrep : ∀ (j : Nat) v,j < C → LookV (Go.Vs.F.ents S I V C 0) (j : Int) (j : Int) v → Rep (valF v - valF s) (-1074)) :
    ∃ es,EntsOK C C es ∧ DistE es ∧ (∀ e ∈ es,U64 e.2.2) ∧ es.length ≤ (Go.Vs.F.ents S I V C 0).length + C ∧ g35 m (C : Int) (C : Int) S I V s = some ((((C : Int),(C : Int),packS es C C,packI es C C,packV es C C,()),0,()),(),(),()) ∧
      (∀ i j v,i ≠ j → (((i,(j,v)) : Ent) ∈ es ↔ ((i,(j,v)) : Ent) ∈ Go.Vs.F.ents S I V C 0)) ∧ ∀ j : Nat,j < C → ∃ w,(((j : Int),((j : Int),w)) : Ent) ∈ es ∧ ∀ v,LookV (Go.Vs.F.ents S I V C 0) (j : Int) (j : Int) v → valF w = valF v - valF s := by
  have hsz := h.ok.sz
  have hcz := h.ok.cz
  have hv := h.vl
  have hsl := h.sl
  have hl := h.len
  have look : ∀ (j : Nat),j < C → ∀ v b,g85 m (C : Int) (C : Int) S I V (j : Int) (j : Int) = some ((v,b,()),(),(),(),()) → LookV (Go.Vs.F.ents S I V C 0) (j : Int) (j : Int) v := by
    intro j hj v b e
    obtain ⟨v',b',e1,e2,e3⟩ := qj3 hm h (i := (j : Int)) hj
    rw [e] at e1
    simp only [Option.some.injEq,Prod.mk.injEq] at e1
    obtain ⟨⟨rfl,rfl,_⟩,_⟩ := e1
    rcases e3 with ⟨_,g⟩ | ⟨_,g,g2⟩
    · exact .inl g
    · exact .inr ⟨g,g2⟩
  obtain ⟨hE,hD,hfl⟩ := h.filter offE
  obtain ⟨e1,_⟩ := q1m m s (C : Int) (C : Int) S I V 0 0 [] [] [] (es := Go.Vs.F.ents S I V C 0) (by omega) m 0 (by omega) (by omega)
  simp only [List.take_zero,List.filter_nil,Int.natCast_zero] at e1
  obtain ⟨dg,g1,j2,j3⟩ := qkp hm h hU hs hf 0 0 [] [] [] (fun j v b hj e => hrep j v hj (look j hj v b e)) m 0 ((Go.Vs.F.ents S I V C 0).filter offE) (by omega) (by omega) (by omega)
  rw [Int.natCast_zero] at g1
  have hdl : dg.length = C := by have := congrArg List.length j2; simpa using this
  have hfl2 : ((Go.Vs.F.ents S I V C 0).filter offE).length ≤ (Go.Vs.F.ents S I V C 0).length := List.length_filter_le ..
  have hdm : ∀ e ∈ dg,e.1 = e.2.1 ∧ 0 ≤ e.1 ∧ e.1 < (C : Int) := fun e he => by
    have : posE e ∈ dg.map posE := List.mem_map_of_mem he
    rw [j2] at this
    obtain ⟨i,hi,e0⟩ := List.mem_map.1 this
    rw [List.mem_range'_1] at hi
    simp only [posE,Prod.mk.injEq] at e0
    omega
  have hE' : EntsOK C C ((Go.Vs.F.ents S I V C 0).filter offE ++ dg) := q25 fun e he => by
    rcases List.mem_append.1 he with he | he
    · exact Ze hE e he
    · have := hdm e he
      exact ⟨by omega,by omega,(j3 e he).1⟩
  have hD' : DistE ((Go.Vs.F.ents S I V C 0).filter offE ++ dg) := q3j.2 (by
    rw [List.map_append,List.nodup_append]
    refine ⟨q3j.1 hD,?_,?_⟩
    · rw [j2]
      show List.Pairwise (· ≠ ·) _
      rw [List.pairwise_map]
      exact List.Pairwise.imp (fun {a b} hab e => by
        simp only [Prod.mk.injEq] at e
        exact hab (by omega)) (List.nodup_range' (s := 0) (n := C - 0) (step := 1))
    · intro x hx y hy hxy
      subst hxy
      obtain ⟨e,he,rfl⟩ := List.mem_map.1 hx
      obtain ⟨e',he',h2⟩ := List.mem_map.1 hy
      have h3 := (List.mem_filter.1 he).2
      have h4 := hdm e' he'
      simp only [posE,Prod.mk.injEq] at h2
      simp only [offE,bne_iff_ne] at h3
      exact h3 (by omega))
  refine ⟨(Go.Vs.F.ents S I V C 0).filter offE ++ dg,hE',hD',?_,by simp; omega,?_,?_,?_⟩
  · intro e he
    rcases List.mem_append.1 he with he | he
    · exact (h.valU hU (List.mem_filter.1 he).1).1
    · exact (j3 e he).2.1
  · rw [g35,g44_eq (by omega) (by omega) (by omega) (by omega) (by omega),h.chk,qfj hs]
    simp only [Option.bind_some,bif_ne,if_true]
    rw [decide_eq_true hf,Bool.not_true,cond_false,q52 (by omega) h.ok h.vl]
    simp only [Option.bind_some]
    rw [e1]
    simp only [Option.bind_some]
    rw [g1]
    simp only [Option.bind_some]
    rw [bif_decide,if_neg (by simp; omega),qcw hE' hD' hcz hcz (by simp; omega) (by omega)]; rfl
  · intro i j v hij
    rw [List.mem_append]
    constructor
    · rintro (h1 | h1)
      · exact (List.mem_filter.1 h1).1
      · exact absurd (hdm _ h1).1 hij
    · intro h1
      exact .inl (List.mem_filter.2 ⟨h1,by simpa [offE] using hij⟩)
  · intro j hj
    have : ((j : Int),(j : Int)) ∈ dg.map posE := by
      rw [j2]
      exact List.mem_map.2 ⟨j,by rw [List.mem_range'_1]; omega,rfl⟩
    obtain ⟨⟨x,y,w⟩,he,e0⟩ := List.mem_map.1 this
    simp only [posE,Prod.mk.injEq] at e0
    obtain ⟨rfl,rfl⟩ := e0
    obtain ⟨_,_,v,b,h3,h4⟩ := j3 _ he
    refine ⟨w,List.mem_append.2 (.inr he),fun v' hv' => ?_⟩
    have := LookV.uniq h.dist hv' (look j hj v b h3)
    rw [this]; exact h4
end
theorem qkm {N : Nat} (hn : N ≤ 100) (l : List Int) (hl : l.length ≤ 100000) (a0 a1 : Int) (a2 a3 a4 : List Int) : ∀ (d k : Nat) (es : List Ent),N - k ≤ d → k ≤ N → EntsOK N N es → (∀ e ∈ es,SmV e.2.2) → es.length ≤ k →
    ∃ es',EntsOK N N es' ∧ (∀ e ∈ es',SmV e.2.2) ∧ es'.length ≤ N ∧ ∀ m n,3000000 < m → d < n → g33_L0 m n (N : Int) l a0 a1 a2 a3 a4 es (k : Int) = some (.inl ((N : Int),l,(a0,a1,a2,a3,a4,()),es',()))
  | d,k,es,hd,hk,hE,hG,hk2 => by
    by_cases h : k < N
    · obtain ⟨x,hx⟩ := qli l k
      obtain ⟨v,hv,ev⟩ := qkg (w_i64 (x + 1))
      cases d with
      | zero => omega
      | succ d =>
        obtain ⟨es',g1,g0,g2,g3⟩ := qkm hn l hl a0 a1 a2 a3 a4 d (k + 1) (es ++ [((k : Int),((k : Int),v))]) (by omega) (by omega) (hE.snoc (by omega) (by omega) hv.fin) (fun e he => by
          rcases List.mem_append.1 he with he | he
          · exact hG e he
          · rw [List.mem_singleton] at he; subst he; exact hv) (by simp; omega)
        refine ⟨es',g1,g0,g2,fun m n hm hdn => ?_⟩
        obtain ⟨n,rfl⟩ : ∃ n',n = n' + 1 := ⟨n - 1,by omega⟩
        rw [g33_L0,bif_decide,if_pos (by omega),hx m,Option.bind_some]
        dsimp only
        rw [ev m hm,Option.bind_some]
        dsimp only
        rw [if_pos (by simp; omega),show w_i64 ((k : Int) + 1) = ((k + 1 : Nat) : Int) from wsucc (by omega)]
        exact g3 m n hm (by omega)
    · refine ⟨es,hE,hG,by omega,fun m n hm hdn => ?_⟩
      obtain ⟨n,rfl⟩ : ∃ n',n = n' + 1 := ⟨n - 1,by omega⟩
      rw [g33_L0,bif_decide,if_neg (by omega)]
theorem qkk {N : Nat} (hn : N ≤ 100) (l : List Int) (hl : l.length ≤ 100000) (a0 a1 : Int) (a2 a3 a4 : List Int) : ∀ (d k : Nat) (es : List Ent),l.length - k ≤ d → k ≤ l.length + 200 → EntsOK N N es → (∀ e ∈ es,SmV e.2.2) → es.length ≤ N + k →
    ∃ es',EntsOK N N es' ∧ (∀ e ∈ es',SmV e.2.2) ∧ es'.length ≤ N + l.length + 200 ∧ ∀ m n,3000000 < m → d < n → ∃ z0 z1 z2 z3 z4,g33_L1 m n (N : Int) l a0 a1 a2 a3 a4 es (k : Int) = some (.inl ((N : Int),(z0,z1,z2,z3,z4,()),es',()))
  | d,k,es,hd,hk,hE,hG,hk2 => by
    have e2 : w_i64 ((k : Int) + 2) = ((k + 2 : Nat) : Int) := wi (by omega) (by omega)
    have e1 : w_i64 ((k : Int) + 1) = ((k + 1 : Nat) : Int) := wsucc (by omega)
    have e3 : w_i64 ((k : Int) + 3) = ((k + 3 : Nat) : Int) := wi (by omega) (by omega)
    by_cases h : k + 2 < l.length
    · by_cases h1 : 0 < N
      · obtain ⟨i,hi,ei⟩ := qk7 (a := l.getD k 0) (n := N) h1 (by omega)
        obtain ⟨j,hj,ej⟩ := qk7 (a := l.getD (k + 1) 0) (n := N) h1 (by omega)
        obtain ⟨v,hv,ev⟩ := qkg (l.getD (k + 2) 0)
        cases d with
        | zero => omega
        | succ d =>
          obtain ⟨es',g1,g0,g2,g3⟩ := qkk hn l hl a0 a1 a2 a3 a4 d (k + 3) (es ++ [((i : Int),((j : Int),v))]) (by omega) (by omega) (hE.snoc (by omega) (by omega) hv.fin) (fun e he => by
            rcases List.mem_append.1 he with he | he
            · exact hG e he
            · rw [List.mem_singleton] at he; subst he; exact hv) (by simp; omega)
          refine ⟨es',g1,g0,g2,fun m n hm hdn => ?_⟩
          obtain ⟨n,rfl⟩ : ∃ n',n = n' + 1 := ⟨n - 1,by omega⟩
          rw [g33_L1,bif_decide,e2,e1,e3,bif_decide]
          rw [if_pos (by omega),if_pos (by omega),if_pos (by omega),Int.toNat_natCast,Int.toNat_natCast,Int.toNat_natCast,ei,ej,ev m hm]
          simp only [Option.bind_some]
          rw [if_pos (by omega),if_pos (by omega),if_pos (by simp; omega)]
          exact g3 m n hm (by omega)
      · refine ⟨es,hE,hG,by omega,fun m n hm hdn => ?_⟩
        obtain ⟨n,rfl⟩ : ∃ n',n = n' + 1 := ⟨n - 1,by omega⟩
        rw [g33_L1,bif_decide,e2,e1,e3,bif_decide,if_pos (by omega),if_neg (by omega)]
        exact ⟨_,_,_,_,_,rfl⟩
    · refine ⟨es,hE,hG,by omega,fun m n hm hdn => ?_⟩
      obtain ⟨n,rfl⟩ : ∃ n',n = n' + 1 := ⟨n - 1,by omega⟩
      rw [g33_L1,bif_decide,e2,e1,e3,bif_decide,if_neg (by omega)]
      exact ⟨_,_,_,_,_,rfl⟩
theorem qkq {N : Nat} (hn : N ≤ 100) {l : List Int} (hl : l.length ≤ 10000) : ∃ es,EntsOK N N es ∧ (∀ e ∈ es,SmV e.2.2) ∧ ∀ m,3000000 < m →
    g33 m (N : Int) l = some (((N : Int),(N : Int),packS es N N,packI es N N,packV es N N,()),(),(),()) := by
  obtain ⟨es,h2,h0,h3,h1⟩ := qkm hn l (by omega) 0 0 [] [] [] N 0 [] (by omega) (by omega) (fun k hk => absurd hk (Nat.not_lt_zero _)) (fun e he => by cases he) (Nat.le_refl _)
  obtain ⟨es',k2,k0,k3,k1⟩ := qkk hn l (by omega) 0 0 [] [] [] l.length N es (by omega) (by omega) h2 h0 (by omega)
  refine ⟨es',k2,k0,fun m hm => ?_⟩
  have h1 := h1 m m hm (by omega)
  obtain ⟨z0,z1,z2,z3,z4,k1⟩ := k1 m m hm (by omega)
  simp only [Int.natCast_zero] at h1
  rw [g33,h1]
  simp only [Option.bind_some]
  rw [k1]
  simp only [Option.bind_some]
  rw [qft k2 (by omega) (by omega) (by omega) (by omega)]
  rfl
end Go.Vs.F

/-! MxEh -/
set_option linter.unusedVariables false
set_option linter.unusedSimpArgs false
set_option maxRecDepth 100000
namespace Go.Vs.F
structure ShOK (N : Nat) (es0 es1 es2 : List Ent) (s : Int) : Prop where
  a : ∀ (i j : Nat),i < N → j < N → ∀ v w,LookV es0 (i : Int) (j : Int) v → LookV es2 (i : Int) (j : Int) w → valF w = valF v
  b : ∀ (i j : Nat),i < N → j < N → i ≠ j → ∀ v w,LookV es0 (i : Int) (j : Int) v → LookV es1 (i : Int) (j : Int) w → valF w = valF v
  c : ∀ (i : Nat),i < N → ∀ v w,LookV es0 (i : Int) (i : Int) v → LookV es1 (i : Int) (i : Int) w → valF w = valF v - valF s
theorem of_same {a b : Int} (ha : FinF a) (hb : FinF b) (h : valF a = valF b) : ofD a = ofD b := by rw [qfe ha,qfe hb,h]
theorem LookV.fin {es : List Ent} (hu : ∀ e ∈ es,U64 e.2.2 ∧ FinF e.2.2) {i j v : Int} (h : LookV es i j v) : U64 v ∧ FinF v := by
  rcases h with h | ⟨rfl,_⟩
  · exact hu _ h
  · exact ⟨qgu,qhg⟩
section
variable {N : Nat} {S0 I0 V0 S1 I1 V1 S2 I2 V2 : List Int} {s : Int}
theorem qke {m : Nat} (hm : 3000000 < m) (hN : N ≤ 200) (h0 : MV N N S0 I0 V0) (h1 : MV N N S1 I1 V1) (h2 : MV N N S2 I2 V2)
    (u0 : ∀ e ∈ ents S0 I0 V0 N 0,U64 e.2.2 ∧ FinF e.2.2) (u1 : ∀ e ∈ ents S1 I1 V1 N 0,U64 e.2.2 ∧ FinF e.2.2) (u2 : ∀ e ∈ ents S2 I2 V2 N 0,U64 e.2.2 ∧ FinF e.2.2) (hs : U64 s) (hf : FinF s)
    (hO : ShOK N (ents S0 I0 V0 N 0) (ents S1 I1 V1 N 0) (ents S2 I2 V2 N 0) s) {i : Nat} (hi : i < N) : ∀ (n k : Nat),N - k < n → k ≤ N →
    sparselaw09_MatrixShifted_L1 m n (N : Int) (N : Int) (N : Int) S0 I0 V0 s (N : Int) (N : Int) S1 I1 V1 (N : Int) (N : Int) S2 I2 V2 (i : Int) (k : Int) =
      some (.inr (.inl ((N : Int),((N : Int),(N : Int),S0,I0,V0,()),s,((N : Int),(N : Int),S1,I1,V1,()),((N : Int),(N : Int),S2,I2,V2,()),(i : Int),())))
  | 0,k,h,_ => by omega
  | n + 1,k,h,hk0 => by
    rw [sparselaw09_MatrixShifted_L1,bif_decide]
    by_cases hk : k < N
    · obtain ⟨v0,l0,_,e0⟩ := qkh hm h0 hi hk
      obtain ⟨v1,l1,e1,_⟩ := qkh hm h1 hi hk
      obtain ⟨v2,l2,e2,_⟩ := qkh hm h2 hi hk
      obtain ⟨a0,b0⟩ := l0.fin u0
      obtain ⟨a1,b1⟩ := l1.fin u1
      obtain ⟨a2,b2⟩ := l2.fin u2
      have q2 := of_same b2 b0 (hO.a i k hi hk v0 v2 l0 l2)
      have ih := qke hm hN h0 h1 h2 u0 u1 u2 hs hf hO hi n (k + 1) (by omega) (by omega)
      rw [if_pos (by omega),e0,Option.bind_some]
      dsimp only
      rw [qcl hm a0,Option.bind_some,e2,Option.bind_some]
      dsimp only
      rw [Of_eq hm a2,Option.bind_some,q2]
      dsimp only
      rw [show ofD v0 = mkD (valF v0) (-1074) from qfe b0,qkb hm,Option.bind_some,show w_i64 ((k : Int) + 1) = ((k + 1 : Nat) : Int) from wsucc (by omega)]
      dsimp only
      rw [Bool.not_true,cond_false,bif_eq]
      by_cases hik : i = k
      · subst hik
        have q1 : mkD (valF v0 - valF s) (-1074) = ofD v1 := by rw [qfe b1,hO.c i hi v0 v1 l0 l1]
        rw [if_pos rfl,qcl hm hs,Option.bind_some,← qfe b0]
        dsimp only
        rw [(qh6 hm b0 hf).2,Option.bind_some,e1,Option.bind_some]
        dsimp only
        rw [Of_eq hm a1,Option.bind_some,← q1]
        dsimp only
        rw [qkb hm,Option.bind_some]
        dsimp only
        rw [Bool.not_true,cond_false]
        exact ih
      · have q1 := of_same b1 b0 (hO.b i k hi hk hik v0 v1 l0 l1)
        rw [if_neg (by omega),e1,Option.bind_some]
        dsimp only
        rw [Of_eq hm a1,Option.bind_some,q1,qfe b0]
        dsimp only
        rw [qkb hm,Option.bind_some]
        dsimp only
        rw [Bool.not_true,cond_false]
        exact ih
    · rw [if_neg (by omega)]
theorem qkf {m : Nat} (hm : 3000000 < m) (hN : N ≤ 200) (h0 : MV N N S0 I0 V0) (h1 : MV N N S1 I1 V1) (h2 : MV N N S2 I2 V2)
    (u0 : ∀ e ∈ ents S0 I0 V0 N 0,U64 e.2.2 ∧ FinF e.2.2) (u1 : ∀ e ∈ ents S1 I1 V1 N 0,U64 e.2.2 ∧ FinF e.2.2) (u2 : ∀ e ∈ ents S2 I2 V2 N 0,U64 e.2.2 ∧ FinF e.2.2) (hs : U64 s) (hf : FinF s)
    (hO : ShOK N (ents S0 I0 V0 N 0) (ents S1 I1 V1 N 0) (ents S2 I2 V2 N 0) s) : ∀ (n k : Nat),N - k < n → k ≤ N →
    sparselaw09_MatrixShifted_L0 m n (N : Int) (N : Int) (N : Int) S0 I0 V0 s (N : Int) (N : Int) S1 I1 V1 (N : Int) (N : Int) S2 I2 V2 (k : Int) = some (.inr (.inl ()))
  | 0,k,h,_ => by omega
  | n + 1,k,h,hk0 => by
    rw [sparselaw09_MatrixShifted_L0,bif_decide]
    by_cases hk : k < N
    · have := qke hm hN h0 h1 h2 u0 u1 u2 hs hf hO hk m 0 (by omega) (by omega)
      rw [Int.natCast_zero] at this
      rw [if_pos (by omega),this,Option.bind_some]
      dsimp only
      rw [show w_i64 ((k : Int) + 1) = ((k + 1 : Nat) : Int) from wsucc (by omega)]
      exact qkf hm hN h0 h1 h2 u0 u1 u2 hs hf hO n (k + 1) (by omega) (by omega)
    · rw [if_neg (by omega)]
end
theorem qk4 (n : Int) (l : List Int) (s : Int) : ∃ m,sparselaw09_MatrixShifted m n l s = some (true,(),(),(),()) := by
  refine ⟨4000000,?_⟩
  generalize hm0 : (4000000 : Nat) = m
  have hm : 3000000 < m := by omega
  clear hm0
  rw [sparselaw09_MatrixShifted,bif_decide]
  by_cases hl : (l.length : Int) > 60
  · rw [if_pos hl,qcx (by omega)]; rfl
  rw [if_neg hl]
  obtain ⟨N,hN,eN⟩ := qk7 (a := n) (n := 6) (by omega) (by omega)
  have eN' : g20 m n 6 = some ((N : Int),(),(),()) := eN m
  obtain ⟨es0,hE0,hS0,hq⟩ := qkq (N := N) (by omega) (l := l) (by omega)
  obtain ⟨f,hf,ef⟩ := qkg s
  have ha : N * N ≤ 100 := by
    have : N * N ≤ 10 * 10 := Nat.mul_le_mul (by omega) (by omega)
    omega
  have M0 := qko (r := N) (c := N) hE0 (by omega) (by omega) (by omega)
  have U0 : ∀ x ∈ packV es0 N N,U64 x := fun x hx => by
    obtain ⟨e,he,rfl⟩ := qki hx; exact (hS0 e he).u
  have p0 : ents (packS es0 N N) (packI es0 N N) (packV es0 N N) N 0 = can es0 N N := qjz
  have sm0 : ∀ e ∈ can es0 N N,SmV e.2.2 := fun e he => by
    obtain ⟨i,j,_,_,h,rfl⟩ := q7p.1 he
    exact hS0 _ (qjx h)
  have lk0 : ∀ i j v,LookV (can es0 N N) i j v → SmV v := fun i j v h => by
    rcases h with h | ⟨rfl,_⟩
    · exact sm0 _ h
    · exact ⟨qgu,qhg,0,by
        have : ofZ 0 = 0 := by unfold ofZ fexp ffrac fneg; decide
        rw [this]; exact EqD.zero _ _,by omega,by omega⟩
  have len0 : (can es0 N N).length ≤ 100 := by rw [ql5]; have := q0y es0 N N; omega
  obtain ⟨es1,hE1,hD1,hU1,hl1,eS1,off1,dg1⟩ := qk9 hm M0 U0 hf.u hf.f (by rw [p0]; omega) (fun j v hj hv => qlc (lk0 _ _ _ (p0 ▸ hv)) hf)
  rw [p0] at hl1 off1 dg1
  have M1 := qko (r := N) (c := N) hE1 (by omega) (by omega) (by omega)
  have U1 : ∀ x ∈ packV es1 N N,U64 x := fun x hx => by
    obtain ⟨e,he,rfl⟩ := qki hx; exact hU1 e he
  have p1 : ents (packS es1 N N) (packI es1 N N) (packV es1 N N) N 0 = can es1 N N := qjz
  have c1 : ∀ x,x ∈ can es1 N N ↔ x ∈ es1 := fun x => qka hE1 hD1
  obtain ⟨nf1,nf2,nf3,nf4⟩ := qkc hf.u
  obtain ⟨nv,nfin⟩ := ql8 hf.u
  have ex0 : ∀ (i j : Nat),i < N → j < N → ∃ v,LookV (can es0 N N) (i : Int) (j : Int) v := fun i j hi hj => by
    obtain ⟨v,h,_⟩ := qkh hm M0 hi hj
    exact ⟨v,p0 ▸ h⟩
  have d1 : ∀ (j : Nat),j < N → ∀ v w,LookV (can es0 N N) (j : Int) (j : Int) v → LookV (can es1 N N) (j : Int) (j : Int) w → valF w = valF v - valF f := by
    intro j hj v w hv hw
    obtain ⟨w',g1,g2⟩ := dg1 j hj
    have := LookV.uniq M1.dist (p1.symm ▸ hw) (p1.symm ▸ (.inl ((c1 _).2 g1) : LookV (can es1 N N) (j : Int) (j : Int) w'))
    rw [this]; exact g2 v hv
  have len1 : (can es1 N N).length ≤ 100 := by rw [ql5]; have := q0y es1 N N; omega
  obtain ⟨es2,hE2,hD2,hU2,hl2,eS2,off2,dg2⟩ := qk9 hm M1 U1 nf1 (nfin hf.f) (by rw [p1]; omega) (fun j w hj hw => by
    rw [p1] at hw
    obtain ⟨v,hv⟩ := ex0 j j hj hj
    have h1 := d1 j hj v w hv hw
    have h2 := qlc (lk0 _ _ _ hv) (b := 0) ⟨qgu,qhg,0,by
        have : ofZ 0 = 0 := by unfold ofZ fexp ffrac fneg; decide
        rw [this]; exact EqD.zero _ _,by omega,by omega⟩
    have z0 : valF 0 = 0 := by
      have : ofZ 0 = 0 := by unfold ofZ fexp ffrac fneg; decide
      unfold valF sc; rw [this,Int.zero_mul]
    rw [z0,Int.sub_zero] at h2
    rw [h1,nv,show valF v - valF f - -valF f = valF v by omega]
    exact h2)
  rw [p1] at hl2 off2 dg2
  have M2 := qko (r := N) (c := N) hE2 (by omega) (by omega) (by omega)
  have p2 : ents (packS es2 N N) (packI es2 N N) (packV es2 N N) N 0 = can es2 N N := qjz
  have c2 : ∀ x,x ∈ can es2 N N ↔ x ∈ es2 := fun x => qka hE2 hD2
  have offA : ∀ i j v,i ≠ j → (((i,(j,v)) : Ent) ∈ can es1 N N ↔ ((i,(j,v)) : Ent) ∈ can es0 N N) := fun i j v h => (c1 _).trans (off1 i j v h)
  have offB : ∀ i j v,i ≠ j → (((i,(j,v)) : Ent) ∈ can es2 N N ↔ ((i,(j,v)) : Ent) ∈ can es0 N N) := fun i j v h => ((c2 _).trans (off2 i j v h)).trans (offA i j v h)
  have hO : ShOK N (can es0 N N) (can es1 N N) (can es2 N N) f := by
    refine ⟨fun i j hi hj v w hv hw => ?_,fun i j hi hj hij v w hv hw => ?_,fun i hi v w hv hw => d1 i hi v w hv hw⟩
    · by_cases hij : i = j
      · subst hij
        obtain ⟨w',g1,g2⟩ := dg2 i hi
        have e := LookV.uniq M2.dist (p2.symm ▸ hw) (p2.symm ▸ (.inl ((c2 _).2 g1) : LookV (can es2 N N) (i : Int) (i : Int) w'))
        obtain ⟨w1,g3,g4⟩ := dg1 i hi
        have g5 : LookV (can es1 N N) (i : Int) (i : Int) w1 := .inl ((c1 _).2 g3)
        rw [e,g2 w1 g5,g4 v hv,nv]; omega
      · have := LookV.uniq M0.dist (p0.symm ▸ hv) (p0.symm ▸ hw.congr (fun v => offB _ _ v (by omega)))
        rw [this]
    · have := LookV.uniq M0.dist (p0.symm ▸ hv) (p0.symm ▸ hw.congr (fun v => offA _ _ v (by omega)))
      rw [this]
  have uu : ∀ (es : List Ent),EntsOK N N es → (∀ e ∈ es,U64 e.2.2) → ∀ e ∈ can es N N,U64 e.2.2 ∧ FinF e.2.2 := fun es hE hU e he => by
    obtain ⟨i,j,_,_,h,rfl⟩ := q7p.1 he
    have h1 := hU _ (qjx h)
    have h2 := (Ze hE _ (qjx h)).2.2
    rw [qbc h1] at h2
    exact ⟨h1,of_decide_eq_true h2⟩
  have hL := qkf hm (by omega) M0 M1 M2 (by rw [p0]; exact uu es0 hE0 fun e he => (hS0 e he).u) (by rw [p1]; exact uu es1 hE1 hU1) (by rw [p2]; exact uu es2 hE2 hU2) hf.u hf.f (by rw [p0,p1,p2]; exact hO) m 0 (by omega) (by omega)
  rw [Int.natCast_zero] at hL
  rw [eN',Option.bind_some]
  dsimp only
  rw [hq m hm,Option.bind_some,ef m hm,Option.bind_some]
  dsimp only
  rw [eS1,Option.bind_some,qlf (by omega) hf.u hf.f,Option.bind_some]
  dsimp only
  rw [eS2,Option.bind_some]
  dsimp only
  rw [bif_ne,if_pos rfl,bif_ne,if_pos rfl,hL,Option.bind_some]
  dsimp only
  rw [qcx (by omega)]; rfl
end Go.Vs.F

/-! MxEi -/
set_option linter.unusedVariables false
set_option linter.unusedSimpArgs false
set_option maxRecDepth 100000
namespace Go.Vs.F
/- A finite value's normal form. -/
/- The least exponent. -/
/- The grid of integers. -/
end Go.Vs.F

/-! MxEj -/
set_option linter.unusedVariables false
set_option linter.unusedSimpArgs false
set_option maxRecDepth 100000
namespace Go.Vs.F
section
variable {R C : Nat} {S I V : List Int}
end
section
variable {R C : Nat} {S I V : List Int}
end
end Go.Vs.F

/-! MxEk -/
set_option linter.unusedVariables false
set_option linter.unusedSimpArgs false
set_option maxRecDepth 100000
namespace Go.Vs.F
/- The exponent of a valid dyad. -/
/-! ### Products -/
end Go.Vs.F

/-! MxEl -/
set_option linter.unusedVariables false
set_option linter.unusedSimpArgs false
set_option maxRecDepth 100000
namespace Go.Vs.F
end Go.Vs.F

/-! MxEm -/
set_option linter.unusedVariables false
set_option linter.unusedSimpArgs false
set_option maxRecDepth 100000
namespace Go.Vs.F
/- Sums of made values. -/
end Go.Vs.F
