/- Exact floats of dyads: program and document. Scaling a matrix: program and document. Scale and Shift of a matrix: program and document agree. Shifting a matrix: program and document agree; the law MatrixScales. Numbers that floats have: rounding is exact. Made values, and shifting exactly. The law MatrixShifted. The law MatrixShifted, joined. The integers of a matrix. The law MatrixWhole. Sums of dyads; products of a matrix and a vector. Products of a matrix and a vector (printed by a small program: both directions are alike). The law MatrixAdjoint. -/
import Derived.Test.YtjjndhlkoehkdaaGreatDoorLe
import Derived.Test.YtjjndhlkoehkdaaGreatDoorLb

/-! MxEa -/
set_option linter.unusedVariables false
set_option linter.unusedSimpArgs false
namespace Go.Vs.F
theorem q3c {neg : Bool} {f : Int} (h1 : 0 ≤ f) (h2 : f < 9223372036854775808) : U64 (sgnF neg f) := by
  unfold sgnF U64; cases neg <;> simp <;> omega
theorem q8n {neg : Bool} {mode : Int} : U64 (overF neg mode) := by
  unfold overF; split <;> exact q3c (by omega) (by omega)
theorem qg0 {neg : Bool} {n : Nat} {u mode : Int} (h1 : -1074 ≤ u) (hn : n ≤ 9007199254740992) : U64 (packF neg n u mode) := by
  unfold packF
  split
  · split
    · exact q8n
    · exact q3c (by omega) (by omega)
  · split
    · exact q3c (by omega) (by omega)
    · split
      · exact q8n
      · exact q3c (by omega) (by omega)
theorem qdx {neg : Bool} {v : Nat} {e : Int} {more : Bool} {mode : Int} : U64 (q0a neg v e more mode) := qg0 (q76 v e) q6v
theorem q2b {d : Bool × Bool × List Int × Int × Unit} {mode : Int} : U64 (Xr d mode) := by
  unfold Xr
  split
  · exact ⟨by omega,by omega⟩
  · split
    · exact ⟨by omega,by omega⟩
    · exact qdx
def exB (z e : Int) : Bool := decide (FinF (Xr (mkD z e) 0) ∧ OkD z e ∧ sc (ofZ (Xr (mkD z e) 0)) (ofE (Xr (mkD z e) 0)) (min (ofE (Xr (mkD z e) 0)) e) = sc z e (min (ofE (Xr (mkD z e) 0)) e))
theorem q9a {a b : Int} : cmpZ a b = 0 ↔ a = b := by unfold cmpZ; repeat' split
                                                     all_goals omega
theorem Ju {m : Nat} (hm : 3000000 < m) {z e : Int} : g90 m (mkD z e).1 (mkD z e).2.1 (mkD z e).2.2.1 (mkD z e).2.2.2.1 = some ((Xr (mkD z e) 0,exB z e,()),(),()) ∧
    g115 m (mkD z e).1 (mkD z e).2.1 (mkD z e).2.2.1 (mkD z e).2.2.2.1 = some ((Xr (mkD z e) 0,exB z e,()),(),()) := by
  have hU := q2b (d := mkD z e) (mode := 0)
  rw [g90,g115,qha hm,qg6 hm,Option.bind_some,Option.bind_some]
  dsimp only
  rw [Of_eq hm hU,qcl hm hU,Option.bind_some,Option.bind_some]
  dsimp only
  unfold exB ofD
  generalize Xr (mkD z e) 0 = f at *
  by_cases hf : FinF f
  · rw [if_pos hf]
    have e1 : mkD (ofZ f) (ofE f) = mkD (sc (ofZ f) (ofE f) (min (ofE f) e)) (min (ofE f) e) := (q2u (by omega)).symm
    have e2 : mkD z e = mkD (sc z e (min (ofE f) e)) (min (ofE f) e) := (q2u (by omega)).symm
    have o2 : OkD z e ↔ OkD (sc z e (min (ofE f) e)) (min (ofE f) e) := by unfold OkD; rw [← e2]
    have o1 : OkD (sc (ofZ f) (ofE f) (min (ofE f) e)) (min (ofE f) e) := by have := qek hf; unfold OkD at *; rwa [← e1]
    rw [e1,e2,qf1 hm,qd3 hm,Option.bind_some]
    by_cases hz : OkD z e
    · have h2 := o2.1 hz
      rw [if_pos ⟨o1,h2⟩]
      dsimp only
      rw [cond_true]
      have : (cmpZ (sc (ofZ f) (ofE f) (min (ofE f) e)) (sc z e (min (ofE f) e)) == 0) = decide (FinF f ∧ OkD z e ∧ sc (ofZ f) (ofE f) (min (ofE f) e) = sc z e (min (ofE f) e)) := by
        by_cases c : sc (ofZ f) (ofE f) (min (ofE f) e) = sc z e (min (ofE f) e)
        · rw [q9a.2 c,decide_eq_true ⟨hf,hz,c⟩]; rfl
        · rw [decide_eq_false (fun h => c h.2.2)]
          have := mt q9a.1 c
          simpa using this
      rw [this]
      exact ⟨rfl,rfl⟩
    · rw [if_neg (fun h => hz (o2.2 h.2)),decide_eq_false (fun h => hz h.2.1)]
      exact ⟨rfl,rfl⟩
  · rw [if_neg hf,decide_eq_false (fun h => hf h.1)]
    have b0 : ((true,false,[],0,()) : Bool × Bool × List Int × Int × Unit) = mkD 1 100000 := by
      rw [Yt]; rw [X3]; rintro (h | ⟨h,_⟩)
      · omega
      · omega
    have hn : ¬ OkD 1 100000 := by rw [X3]; rintro (h | ⟨h,_⟩) <;> omega
    have e0 : mkD 1 100000 = mkD (sc 1 100000 (min 100000 e)) (min 100000 e) := (q2u (by omega)).symm
    have e2 : mkD z e = mkD (sc z e (min 100000 e)) (min 100000 e) := (q2u (by omega)).symm
    have n2 : ¬ OkD (sc 1 100000 (min 100000 e)) (min 100000 e) := by unfold OkD at *; rwa [← e0]
    rw [b0,e0,e2,qf1 hm,qd3 hm,if_neg (fun h => n2 h.1)]
    exact ⟨rfl,rfl⟩
theorem qfh {z e : Int} (h : exB z e = true) : finB (Xr (mkD z e) 0) = true := by
  rw [qbc q2b]
  exact decide_eq_true (of_decide_eq_true h).1
theorem qae {z e : Int} (h : ¬ OkD z e) : exB z e = false := decide_eq_false fun k => h k.2.1
def satA (a b : Int) : Int := if a + b > 9223372036854775807 then 9223372036854775807 else if a + b < -9223372036854775808 then -9223372036854775808 else a + b
def I64 (a : Int) : Prop := -9223372036854775808 ≤ a ∧ a < 9223372036854775808
theorem qil {a b : Int} : w_i64 (a + b) = (a + b + 9223372036854775808) % 18446744073709551616 - 9223372036854775808 := by
  rw [w_i64_eq]
  unfold IntKind.wrap
  show (if (true && decide ((a + b) % 18446744073709551616 ≥ 9223372036854775808)) = true then (a + b) % 18446744073709551616 - 18446744073709551616 else (a + b) % 18446744073709551616) = _
  rw [Bool.true_and]
  split
  · rename_i h; simp only [decide_eq_true_eq] at h; omega
  · rename_i h; simp only [decide_eq_true_eq] at h; omega
theorem qgz {m : Nat} {a b : Int} (ha : I64 a) (hb : I64 b) : g110 m a b = some (satA a b,(),(),()) := by
  obtain ⟨a1,a2⟩ := ha
  obtain ⟨b1,b2⟩ := hb
  have hw := qil (a := a) (b := b)
  rw [g110]
  simp only [bif_decide]
  unfold satA
  generalize w_i64 (a + b) = s at *
  repeat' split
  all_goals first | (exfalso; omega) | (congr 2 <;> omega)
end Go.Vs.F

/-! MxEb -/
set_option linter.unusedVariables false
set_option linter.unusedSimpArgs false
namespace Go.Vs.F
def kindN (f : Int) : Int := if fexp f = 2047 then (if ffrac f = 0 then 2 else 3) else if fexp f = 0 ∧ ffrac f = 0 then 0 else 1
theorem qin {m : Nat} {f : Int} (h : U64 f) : g108 m f = some (kindN f,(),()) ∧ g111 m f = some (kindN f,(),()) := by
  have hl := q4v f
  rw [g108,parts_eq h,Option.bind_some,g111,(q9k h).1,(q9k h).2]
  simp only [bif_eq,bif_ne]
  unfold kindN
  by_cases c : fexp f = 2047
  · by_cases d : ffrac f = 0
    · simp [c,d]
    · simp [c,d]
  · by_cases e : fexp f = 0
    · by_cases d : ffrac f = 0
      · simp [e,d]
      · simp [e,d]
    · simp [c,e]
theorem qeq {f : Int} : kindN f = 0 ↔ fexp f = 0 ∧ ffrac f = 0 := by
  unfold kindN
  by_cases c : fexp f = 2047
  · rw [if_pos c]; split <;> omega
  · rw [if_neg c]; split <;> simp_all
theorem qh4 {f : Int} : ofZ f = 0 ↔ fexp f = 0 ∧ ffrac f = 0 := by
  have h1 := q3d f
  unfold ofZ
  by_cases e : fexp f = 0
  · rw [if_pos e]
    cases fneg f <;> simp <;> omega
  · rw [if_neg e]
    cases fneg f <;> simp <;> omega
def farN (n : Int) : Int := max (-100000) (min 100000 n)
theorem qab {f n : Int} (hf : FinF f) (hz : ofZ f ≠ 0) (hn : 100000 ≤ n ∨ n ≤ -100000) : ¬ OkD (ofZ f) (ofE f + n) := by
  have h1 := q5w (f := f)
  have h2 := q7h f
  have h3 := Jq (n := (ofZ f).natAbs)
  have h4 : 1 ≤ blen (ofZ f).natAbs := by rw [Qn (by omega)]; omega
  rw [X3]
  rintro (h | ⟨h,g⟩)
  · exact hz h
  · omega
theorem qgo {f n : Int} (hf : FinF f) (hz : ofZ f ≠ 0) : mkD (ofZ f) (ofE f + Qk n) = mkD (ofZ f) (ofE f + Qk (farN n)) ∧ exB (ofZ f) (ofE f + Qk n) = exB (ofZ f) (ofE f + Qk (farN n)) := by
  by_cases h : -100000 ≤ n ∧ n ≤ 100000
  · have : farN n = n := by unfold farN; omega
    rw [this]; exact ⟨rfl,rfl⟩
  · have b1 := qab (n := Qk n) hf hz (by unfold Qk; omega)
    have b2 := qab (n := Qk (farN n)) hf hz (by unfold Qk farN; omega)
    rw [Yt b1,Yt b2,qae b1,qae b2]; exact ⟨rfl,rfl⟩
abbrev SRes := ((Int × Int × List Int × List Int × List Int × Unit) × Int × Unit) ⊕ ((Int × Int × List Int × List Int × List Int × Unit) × (Int × Int × List Int × List Int × List Int × Unit) × (List (Int × Int × Int)) × Unit) ⊕ Empty
def SInv (p q : List Int) (es : List Ent) : Prop := ∀ e ∈ es,(0 ≤ e.1 ∧ e.1 < (p.length : Int)) ∧ (0 ≤ e.2.1 ∧ e.2.1 < (q.length : Int)) ∧ finB e.2.2 = true ∧ U64 e.2.2
theorem q7m {m : Nat} (hm : 3000000 < m) {p q : List Int} (hp : ∀ x ∈ p,I64 x) (hq : ∀ x ∈ q,I64 x) (a0 a1 : Int) (a2 a3 a4 : List Int) (b0 b1 : Int) (b2 b3 b4 : List Int) : ∀ (n k : Nat) (es : List Ent),es.length - k < n → k ≤ es.length → es.length ≤ 1000000 → SInv p q es →
    ∃ r : SRes,g53_L0 m n p q a0 a1 a2 a3 a4 b0 b1 b2 b3 b4 es (es.length : Int) (k : Int) = some r ∧ g54_L0 m n p q a0 a1 a2 a3 a4 b0 b1 b2 b3 b4 es (k : Int) = some r ∧
      (r = .inl ((0,0,[],[],[],()),3,()) ∨ ∃ es',r = .inr (.inl ((a0,a1,a2,a3,a4,()),(b0,b1,b2,b3,b4,()),es',())) ∧ es'.map posE = es.map posE ∧ ∀ e ∈ es',finB e.2.2 = true) := by
  intro n
  induction n with
  | zero => intro k es h; omega
  | succ n ih =>
    intro k es h hk0 hl hI
    rw [g53_L0,g54_L0]
    by_cases hk : k < es.length
    · have h1 : ((k : Int) < (es.length : Int)) := by omega
      have c1 : (0 : Int) ≤ (k : Int) ∧ (k : Int) < (es.length : Int) := by omega
      have ws : w_i64 ((k : Int) + 1) = ((k + 1 : Nat) : Int) := wsucc (by omega)
      obtain ⟨r1,r2,r3,r4⟩ := hI _ (q8e hk)
      generalize he : es.getD k zE = e at *
      have he' : es.getD k (0,(0,0)) = e := he
      obtain ⟨k1,k2⟩ := qin (m := m) r4
      have hf : FinF e.2.2 := by rw [qbc r4] at r3; exact of_decide_eq_true r3
      simp only [bif_decide,h1,c1,and_self,if_true,Int.toNat_natCast,Nat.zero_add,he',k1,k2,ws,Option.bind_some]
      by_cases hz : kindN e.2.2 = 0
      · rw [show (kindN e.2.2 == 0) = true by simpa using hz,cond_true,cond_true]
        exact ih (k + 1) es (by omega) (by omega) hl hI
      · have hzn : ofZ e.2.2 ≠ 0 := fun h => hz (qeq.2 (qh4.1 h))
        rw [show (kindN e.2.2 == 0) = false by simpa using hz,cond_false,cond_false]
        simp only [r1,r2,and_self,if_true]
        have ma : I64 (p.getD e.1.toNat 0) := hp _ (q45 (by omega))
        have mb : I64 (q.getD e.2.1.toNat 0) := hq _ (q45 (by omega))
        generalize p.getD e.1.toNat 0 = a at *
        generalize q.getD e.2.1.toNat 0 = b at *
        have hD := qek hf
        have hof : ofD e.2.2 = mkD (ofZ e.2.2) (ofE e.2.2) := if_pos hf
        rw [Of_eq hm r4,qcl hm r4,qgz ma mb,hof]
        simp only [Option.bind_some]
        rw [qeh hm,if_pos hD,Option.bind_some]
        dsimp only
        rw [(Ju hm).1,Option.bind_some]
        dsimp only
        have bl : ∀ x : Int,I64 x → blen x.natAbs ≤ 1000 := fun x hx => Nat.le_trans (Xi (k := 64) (by unfold I64 at hx; omega)) (by omega)
        rw [Zw (by omega) ma.1 ma.2,Option.bind_some,Zw (by omega) mb.1 mb.2,Option.bind_some]
        dsimp only
        have ba := bl a ma
        have bb := bl b mb
        have bs := q1c ba bb
        rw [q6w (by omega) (SzB (by omega)) (SzB (by omega)),zv_zB,zv_zB,Option.bind_some]
        dsimp only
        rw [qee (by omega) (SzB (by omega)),zv_zB,Option.bind_some]
        unfold fitI
        by_cases fit : -9223372036854775808 ≤ a + b ∧ a + b < 9223372036854775808
        · have es1 : satA a b = a + b := by unfold satA; rw [if_neg (by omega),if_neg (by omega)]
          have efar : g116 m (a + b) = some (farN (a + b),(),()) := by
            rw [g116]
            have : (if (if a + b < 100000 then a + b else 100000) > (-100000) then (if a + b < 100000 then a + b else 100000) else (-100000)) = farN (a + b) := by
              unfold farN; repeat' split
              all_goals omega
            rw [this]
          obtain ⟨f1,f2⟩ := qgo (n := a + b) hf hzn
          rw [if_pos fit,es1]
          dsimp only
          rw [Bool.not_true,cond_false,efar,Option.bind_some]
          dsimp only
          rw [qdg hm,if_pos hD,Option.bind_some]
          dsimp only
          rw [(Ju hm).2,Option.bind_some,← f1,← f2]
          dsimp only
          by_cases ex : exB (ofZ e.2.2) (ofE e.2.2 + Qk (a + b)) = true
          · rw [ex,Bool.not_true,cond_false,cond_false]
            have hfin := qfh ex
            have hU := q2b (d := mkD (ofZ e.2.2) (ofE e.2.2 + Qk (a + b))) (mode := 0)
            generalize Xr (mkD (ofZ e.2.2) (ofE e.2.2 + Qk (a + b))) 0 = v at *
            have hlen : (es.set k (e.1,(e.2.1,v))).length = es.length := List.length_set ..
            obtain ⟨r,i1,i2,i3⟩ := ih (k + 1) (es.set k (e.1,(e.2.1,v))) (by omega) (by omega) (by omega) (fun x hx => by
              rcases List.mem_or_eq_of_mem_set hx with hx | rfl
              · exact hI x hx
              · exact ⟨r1,r2,hfin,hU⟩)
            rw [hlen] at i1
            refine ⟨r,i1,i2,?_⟩
            rcases i3 with i3 | ⟨es',j1,j2,j3⟩
            · exact .inl i3
            · refine .inr ⟨es',j1,?_,j3⟩
              rw [j2,List.map_set]
              have : posE (e.1,(e.2.1,v)) = (es.map posE).getD k (posE zE) := by
                rw [← he]; simp [posE,List.getD,hk]
              rw [this]
              apply List.ext_getElem
              · simp
              · intro i h1 h2
                rw [List.getElem_set]
                split
                · rename_i c; subst c; simp [List.getD,hk]
                · rfl
          · rw [show exB (ofZ e.2.2) (ofE e.2.2 + Qk (a + b)) = false by simpa using ex,Bool.not_false,cond_true,cond_true]
            exact ⟨_,rfl,rfl,.inl rfl⟩
        · rw [if_neg fit]
          have b1 : ¬ OkD (ofZ e.2.2) (ofE e.2.2 + Qk (satA a b)) := qab hf hzn (by unfold satA Qk; split <;> (try split) <;> omega)
          rw [qae b1,Bool.not_false,cond_true]
          exact ⟨_,rfl,rfl,.inl rfl⟩
    · have h1 : ¬ ((k : Int) < (es.length : Int)) := by omega
      simp only [bif_decide,h1,if_false]
      exact ⟨_,rfl,rfl,.inr ⟨es,rfl,rfl,fun e he => (hI e he).2.2.1⟩⟩
end Go.Vs.F

/-! MxEc -/
set_option linter.unusedVariables false
set_option linter.unusedSimpArgs false
set_option maxRecDepth 100000
namespace Go.Vs.F
theorem qhc (m : Nat) (R C : Int) (S I V : List Int) : ∃ s,sparselaw09_small m R C S I V = some (s,(),()) ∧ (s = true → I.length ≤ 60 ∧ V.length ≤ 60 ∧ S.length ≤ 20) := by
  rw [sparselaw09_small]
  simp only [bif_decide]
  by_cases h1 : (I.length : Int) ≤ 60
  · rw [if_pos h1]
    by_cases h2 : (V.length : Int) ≤ 60
    · rw [if_pos h2]
      by_cases h3 : (S.length : Int) ≤ 20
      · rw [if_pos h3]
        have hl : I.length ≤ 60 ∧ V.length ≤ 60 ∧ S.length ≤ 20 := by omega
        split
        · split <;> exact ⟨_,rfl,fun _ => hl⟩
        · split
          · split <;> exact ⟨_,rfl,fun _ => hl⟩
          · exact ⟨_,rfl,fun h => by cases h⟩
      · rw [if_neg h3]; exact ⟨_,rfl,fun h => by cases h⟩
    · rw [if_neg h2]; exact ⟨_,rfl,fun h => by cases h⟩
  · rw [if_neg h1]; exact ⟨_,rfl,fun h => by cases h⟩
abbrev MRes := ((Int × Int × List Int × List Int × List Int × Unit) × Int × Unit)
/- A result of at most that size. -/
def Yu (x : MRes) : Prop := x.1.2.2.1.length ≤ 100000 ∧ x.1.2.2.2.1.length ≤ 100000 ∧ x.1.2.2.2.2.1.length ≤ 100000
section
variable {R C : Nat} {S I V : List Int}
theorem q6y (hM : MatOK R C S I) (hV : V.length = I.length) : ∀ (d k : Nat),k + d = C → ∀ e ∈ ents S I V d k,e.2.2 ∈ V
  | 0,k,h => by intro e he; cases he
  | d + 1,k,h => by
    intro e he
    rw [ents] at he
    rcases List.mem_append.1 he with he | he
    · unfold Xb at he
      obtain ⟨t,ht,rfl⟩ := List.mem_map.1 he
      rw [List.mem_range'_1] at ht
      have h1 := hM.st.rng (j := k + 1) (by omega)
      have h2 := hM.st.rng (j := k) (by omega)
      exact q45 (by omega)
    · exact q6y hM hV d (k + 1) (by omega) e he
theorem qdc {m : Nat} (hm : 3000000 < m) (h : MV R C S I V) (hU : ∀ x ∈ V,U64 x) {p q : List Int} (hp : ∀ x ∈ p,I64 x) (hq : ∀ x ∈ q,I64 x) :
    ∃ x : MRes,Yu x ∧ g53 m (R : Int) (C : Int) S I V p q = some (x,(),(),(),()) ∧ g54 m (R : Int) (C : Int) S I V p q = some (x,(),(),(),()) := by
  have hsz := h.ok.sz
  have hrz := h.ok.rz
  have hcz := h.ok.cz
  have hv := h.vl
  have hs := h.sl
  have hl := h.len
  rw [g53,g54,g44_eq (by omega) (by omega) (by omega) (by omega) (by omega),Xv (by omega) (by omega) (by omega),h.chk]
  simp only [Option.bind_some,bif_ne,if_true]
  by_cases l1 : (p.length : Int) = (R : Int)
  · by_cases l2 : (q.length : Int) = (C : Int)
    · have hE := h.ents
      have hI : SInv p q (ents S I V C 0) := fun e he => by
        obtain ⟨h1,h2,h3⟩ := Ze hE e he
        exact ⟨by omega,by omega,h3,hU _ (q6y h.ok h.vl C 0 (by omega) e he)⟩
      obtain ⟨r,e1,e2,e3⟩ := q7m hm hp hq (R : Int) (C : Int) S I V 0 0 [] [] [] m 0 (ents S I V C 0) (by omega) (by omega) (by omega) hI
      rw [Int.natCast_zero] at e1 e2
      simp only [l1,l2,if_true]
      rw [q52 (by omega) h.ok h.vl,q6k (by omega) h.ok h.vl h.chk]
      simp only [Option.bind_some]
      rw [e1,e2]
      simp only [Option.bind_some]
      rcases e3 with rfl | ⟨es',rfl,j2,j3⟩
      · exact ⟨_,by simp [Yu],rfl,rfl⟩
      · have hD : DistE es' := q3j.2 (j2 ▸ q3j.1 h.dist)
        have hlen : es'.length = (ents S I V C 0).length := by have := congrArg List.length j2; simpa using this
        have hE' : EntsOK R C es' := q25 fun e he => by
          obtain ⟨k,hk,rfl⟩ := List.getElem_of_mem he
          have hk2 : k < (ents S I V C 0).length := by omega
          have hpe : posE es'[k] = posE (ents S I V C 0)[k] := by
            have := congrArg (fun l => l[k]?) j2
            simpa [hk,hk2] using this
          obtain ⟨h1,h2,_⟩ := Ze hE _ (List.getElem_mem hk2)
          simp only [posE,Prod.mk.injEq] at hpe
          exact ⟨by rw [hpe.1]; exact h1,by rw [hpe.2]; exact h2,j3 _ (List.getElem_mem hk)⟩
        have ha : C * R ≤ 200 * 200 := Nat.mul_le_mul hcz hrz
        have b3 := q0y es' R C
        have b4 := q1b es' R C
        have b6 : (packS es' R C).length = C + 1 := by simp [packS]
        refine ⟨(((R : Int),(C : Int),packS es' R C,packI es' R C,packV es' R C,()),0,()),⟨by show (packS es' R C).length ≤ _; omega,by show (packI es' R C).length ≤ _; omega,by show (packV es' R C).length ≤ _; omega⟩,?_,?_⟩
        · dsimp only
          rw [qcw hE' hD hrz hcz (by omega) (by omega)]; rfl
        · dsimp only
          rw [qft hE' hrz hcz (by omega) (by omega)]; rfl
    · simp only [l1,l2,if_true,if_false]
      exact ⟨_,by simp [Yu],rfl,rfl⟩
  · simp only [l1,if_false]
    exact ⟨_,by simp [Yu],rfl,rfl⟩
/- What stands at a place. -/
theorem qiz {m : Nat} {xs : List Int} {t : Int} (hl : xs.length ≤ 100000) (hm : 100001 < m) (ha : ∀ i j,i < j → j < xs.length → xs.getD i 0 < xs.getD j 0) (hn : ∀ k,k < xs.length → xs.getD k 0 ≠ t) :
    ∃ r : Nat,g143 m xs t = some (((r : Int),false,()),(),(),()) := by
  obtain ⟨r,e,h1,h2,h3⟩ := BS_L0 m (t := t) (a := (xs.length : Int)) hl ha m 0 xs.length (by omega) (by omega) (Nat.le_refl _) (fun k hk => absurd hk (Nat.not_lt_zero _)) (fun k a b => by omega)
  rw [Int.natCast_zero] at e
  refine ⟨r,?_⟩
  rw [g143,e,Option.bind_some]
  dsimp only
  rw [bif_decide]
  by_cases c : r < xs.length
  · have c1 : (0 : Int) ≤ (r : Int) ∧ (r : Int) < (xs.length : Int) := by omega
    rw [if_pos (by omega),if_pos c1,Int.toNat_natCast,bif_eq,if_neg (hn r c),if_pos c1,g187,Option.bind_some]
    simp
  · rw [if_neg (by omega)]
theorem qj0 {m : Nat} (hm : 3000000 < m) (h : MV R C S I V) {i : Int} {j' : Nat} (hjC : j' < C) (hn : ∀ v,((i,((j' : Int),v)) : Ent) ∉ ents S I V C 0) : g85 m (R : Int) (C : Int) S I V i (j' : Int) = some ((0,false,()),(),(),(),()) := by
  have hl := h.ok.st.len
  have hsz := h.ok.sz
  have hcz := h.ok.cz
  have hvl := h.vl
  have a := h.ok.st.rng (j := j') (by omega)
  have b := h.ok.st.rng (j := j' + 1) (by omega)
  have mo := h.ok.st.mono j' hjC
  have c1 : (0 : Int) ≤ (j' : Int) ∧ (j' : Int) < (S.length : Int) := by omega
  have c2 : (0 : Int) ≤ ((j' + 1 : Nat) : Int) ∧ ((j' + 1 : Nat) : Int) < (S.length : Int) := by omega
  have c3 : (0 : Int) ≤ S.getD j' 0 ∧ S.getD j' 0 ≤ S.getD (j' + 1) 0 ∧ S.getD (j' + 1) 0 ≤ (I.length : Int) := by omega
  have hcl := Yi h.ok.st hjC
  have hcg : ∀ k,k < (colOf S I j').length → (colOf S I j').getD k 0 = I.getD ((S.getD j' 0).toNat + k) 0 := fun k hk => q1e h.ok.st hjC hk
  obtain ⟨r,hbs⟩ := qiz (m := m) (xs := colOf S I j') (t := i) (by omega) (by omega) (fun x y hxy hy => by
    rw [hcg x (by omega),hcg y hy]
    have := h.ok.asc hjC (y - x - 1) ((S.getD j' 0).toNat + x) (by omega) (by omega)
    rw [show (S.getD j' 0).toNat + x + (y - x - 1 + 1) = (S.getD j' 0).toNat + y by omega] at this
    exact this) (fun k hk e => by
    rw [hcg k hk] at e
    exact hn (V.getD ((S.getD j' 0).toNat + k) 0) (Zi.2 ⟨j',(S.getD j' 0).toNat + k,by omega,by omega,by omega,by omega,by rw [e]⟩))
  rw [g85,if_pos c1,show w_i64 ((j' : Int) + 1) = ((j' + 1 : Nat) : Int) from wsucc (by omega),if_pos c2]
  simp only [Int.toNat_natCast]
  rw [if_pos c3]
  have hbs' : g143 m ((I.drop (S.getD j' 0).toNat).take ((S.getD (j' + 1) 0).toNat - (S.getD j' 0).toNat)) i = some (((r : Int),false,()),(),(),()) := hbs
  rw [hbs',Option.bind_some]
  simp only [Bool.not_false,cond_true]
theorem qd7 (m : Nat) {i : Int} {j : Nat} (hj : j + 1 < S.length) (hj2 : j < 4611686018427387903) {e : Nat} (he : S.getD (j + 1) 0 = (e : Int)) (hI : e ≤ I.length) (hv : V.length = I.length) (hb : I.length ≤ 100000) (a0 a1 : Int) : ∀ (n k : Nat),e - k < n → k ≤ e →
    (∃ t,k ≤ t ∧ t < e ∧ I.getD t 0 = i ∧ g38_L0 m n i (j : Int) a0 a1 S I V (k : Int) = some (.inl (V.getD t 0,()))) ∨
    ((∀ t,k ≤ t → t < e → I.getD t 0 ≠ i) ∧ g38_L0 m n i (j : Int) a0 a1 S I V (k : Int) = some (.inr (.inl ())))
  | 0,k,h,_ => by omega
  | n + 1,k,h,hk0 => by
    have w : w_i64 ((j : Int) + 1) = ((j + 1 : Nat) : Int) := wsucc (by omega)
    rw [g38_L0,w,if_pos (by omega),Int.toNat_natCast,he,bif_decide]
    by_cases hk : k < e
    · rw [if_pos (by omega),if_pos (by omega),Int.toNat_natCast,bif_eq]
      by_cases c : I.getD k 0 = i
      · rw [if_pos c,if_pos (by omega)]
        exact .inl ⟨k,Nat.le_refl _,hk,c,rfl⟩
      · rw [if_neg c,show w_i64 ((k : Int) + 1) = ((k + 1 : Nat) : Int) from wsucc (by omega)]
        rcases qd7 m hj hj2 he hI hv hb a0 a1 n (k + 1) (by omega) (by omega) with ⟨t,h1,h2,h3,h4⟩ | ⟨h1,h2⟩
        · exact .inl ⟨t,by omega,h2,h3,h4⟩
        · refine .inr ⟨fun t a b => ?_,h2⟩
          by_cases e : t = k
          · subst e; exact c
          · exact h1 t (by omega) b
    · rw [if_neg (by omega)]
      exact .inr ⟨fun t a b => by omega,rfl⟩
/- Both look-ups. -/
theorem qj3 {m : Nat} (hm : 3000000 < m) (h : MV R C S I V) {i : Int} {j : Nat} (hj : j < C) :
    ∃ v b,g85 m (R : Int) (C : Int) S I V i (j : Int) = some ((v,b,()),(),(),(),()) ∧ g38 m (R : Int) (C : Int) S I V i (j : Int) = some (v,(),(),(),()) ∧
      ((b = true ∧ ((i,((j : Int),v)) : Ent) ∈ ents S I V C 0) ∨ (b = false ∧ v = 0 ∧ ∀ v',((i,((j : Int),v')) : Ent) ∉ ents S I V C 0)) := by
  have hl := h.ok.st.len
  have hsz := h.ok.sz
  have hcz := h.ok.cz
  have hvl := h.vl
  have a := h.ok.st.rng (j := j) (by omega)
  have b := h.ok.st.rng (j := j + 1) (by omega)
  have mo := h.ok.st.mono j hj
  have c1 : (0 : Int) ≤ (j : Int) ∧ (j : Int) < (S.length : Int) := by omega
  have e1 : S.getD j 0 = (((S.getD j 0).toNat : Nat) : Int) := by omega
  have hpre : g38 m (R : Int) (C : Int) S I V i (j : Int) = (g38_L0 m m i (j : Int) (R : Int) (C : Int) S I V (((S.getD j 0).toNat : Nat) : Int)).bind fun y2 => match y2 with
      | .inl z3 => some (z3.1,((),(),(),()))
      | .inr (.inl z4) => some (0,((),(),(),()))
      | .inr (.inr e) => e.elim := by
    rw [g38,Xv (by omega) (by omega) (by omega),h.chk]
    simp only [Option.bind_some,bif_ne,if_true,bif_decide]
    rw [if_neg (by omega),if_neg (by omega),if_pos c1,Int.toNat_natCast,← e1]
    rfl
  have hr := qd7 (S := S) (I := I) (V := V) m (i := i) (j := j) (by omega) (by omega) (e := (S.getD (j + 1) 0).toNat) (by omega) (by omega) hvl (by omega) (R : Int) (C : Int) m (S.getD j 0).toNat (by omega) (by omega)
  by_cases hx : ∃ v,((i,((j : Int),v)) : Ent) ∈ ents S I V C 0
  · obtain ⟨v,hv⟩ := hx
    refine ⟨v,true,qhq hm h hv,?_,.inl ⟨rfl,hv⟩⟩
    rcases hr with ⟨t,h1,h2,h3,h4⟩ | ⟨h1,h2⟩
    · rw [hpre,h4,Option.bind_some]
      have : ((i,((j : Int),V.getD t 0)) : Ent) ∈ ents S I V C 0 := Zi.2 ⟨j,t,by omega,by omega,by omega,by omega,by rw [h3]⟩
      rw [h.dist.val hv this]
    · obtain ⟨j',t,_,hj',t1,t2,e⟩ := Zi.1 hv
      simp only [Prod.mk.injEq] at e
      obtain ⟨q1,q2,q3⟩ := e
      have : j = j' := by omega
      subst this
      exact absurd q1.symm (h1 t t1 t2)
  · have hx' : ∀ v',((i,((j : Int),v')) : Ent) ∉ ents S I V C 0 := fun v' hv => hx ⟨v',hv⟩
    refine ⟨0,false,qj0 hm h hj hx',?_,.inr ⟨rfl,rfl,hx'⟩⟩
    rcases hr with ⟨t,h1,h2,h3,h4⟩ | ⟨h1,h2⟩
    · exact absurd (Zi.2 ⟨j,t,by omega,by omega,by omega,by omega,by rw [h3]⟩) (hx' (V.getD t 0))
    · rw [hpre,h2,Option.bind_some]
end
end Go.Vs.F

/-! MxEd -/
set_option linter.unusedVariables false
set_option linter.unusedSimpArgs false
set_option maxRecDepth 100000
namespace Go.Vs.F
def valF (f : Int) : Int := sc (ofZ f) (ofE f) (-1074)
theorem qfe {f : Int} (h : FinF f) : ofD f = mkD (valF f) (-1074) := by
  have he := q5w (f := f)
  unfold ofD valF
  rw [if_pos h,q2u (by omega)]
theorem val_ok {f : Int} (h : FinF f) : OkD (valF f) (-1074) := by
  have he := q5w (f := f)
  have := qek h
  unfold OkD valF at *
  rwa [q2u (by omega)]
theorem qh6 {m : Nat} (hm : 3000000 < m) {a b : Int} (ha : FinF a) (hb : FinF b) :
    g91 m (ofD a).1 (ofD a).2.1 (ofD a).2.2.1 (ofD a).2.2.2.1 (ofD b).1 (ofD b).2.1 (ofD b).2.2.1 (ofD b).2.2.2.1 = some (mkD (valF a - valF b) (-1074),(),(),()) ∧
    g39 m (ofD a).1 (ofD a).2.1 (ofD a).2.2.1 (ofD a).2.2.2.1 (ofD b).1 (ofD b).2.1 (ofD b).2.2.1 (ofD b).2.2.2.1 = some (mkD (valF a - valF b) (-1074),(),(),()) := by
  rw [qfe ha,qfe hb,qiw hm,qgt hm,if_pos ⟨val_ok ha,val_ok hb⟩]
  exact ⟨rfl,rfl⟩
def offE (e : Ent) : Bool := e.1 != e.2.1
theorem q1m (m : Nat) (s : Int) (r c : Int) (S I V : List Int) (b0 b1 : Int) (b2 b3 b4 : List Int) {es : List Ent} (hl : es.length ≤ 100000) : ∀ (n k : Nat),es.length - k < n → k ≤ es.length →
    g35_L0 m n s r c S I V b0 b1 b2 b3 b4 ((es.take k).filter offE) es (es.length : Int) (k : Int) = some (.inl (s,(r,c,S,I,V,()),(b0,b1,b2,b3,b4,()),es.filter offE,())) ∧
    g55_L0 m n s r c S I V b0 b1 b2 b3 b4 ((es.take k).filter offE) es (k : Int) = some (.inl (s,(r,c,S,I,V,()),(b0,b1,b2,b3,b4,()),es.filter offE,()))
  | 0,k,h,_ => absurd h (Nat.not_lt_zero _)
  | n + 1,k,h,hk0 => by
    rw [g35_L0,g55_L0]
    by_cases hk : k < es.length
    · have h1 : ((k : Int) < (es.length : Int)) := by omega
      have c1 : (0 : Int) ≤ (k : Int) ∧ (k : Int) < (es.length : Int) := by omega
      have hlen := qdf (es := es) (p := offE) (k := k)
      have c2 : ∀ y : Ent,((es.take k).filter offE).length + ([y] : List Ent).length ≤ 1073741824 := fun y => by show _ + 1 ≤ _; omega
      obtain ⟨i1,i2⟩ := q1m m s r c S I V b0 b1 b2 b3 b4 hl n (k + 1) (by omega) (by omega)
      rw [qbn hk] at i1 i2
      simp only [bif_decide,h1,if_true,c1,c2,and_self,Int.toNat_natCast,Nat.zero_add,w_i64_eq,wsucc (show k < 4611686018427387904 by omega)]
      by_cases hp : offE (es.getD k zE) = true
      · rw [if_pos hp] at i1 i2
        have hp' : ((es.getD k (0,0,0)).1 != (es.getD k (0,0,0)).2.1) = true := hp
        rw [hp',cond_true,cond_true]
        exact ⟨i1,i2⟩
      · rw [if_neg hp,List.append_nil] at i1 i2
        have hp' : ((es.getD k (0,0,0)).1 != (es.getD k (0,0,0)).2.1) = false := by
          have : offE (es.getD k zE) = false := by simpa using hp
          exact this
        rw [hp',cond_false,cond_false]
        exact ⟨i1,i2⟩
    · have h1 : ¬ ((k : Int) < (es.length : Int)) := by omega
      simp only [bif_decide,h1,if_false]
      rw [List.take_of_length_le (by omega)]
      exact ⟨rfl,rfl⟩
section
variable {R C : Nat} {S I V : List Int}
theorem MV.valU (h : MV R C S I V) (hU : ∀ x ∈ V,U64 x) {e : Ent} (he : e ∈ Go.Vs.F.ents S I V C 0) : U64 e.2.2 ∧ FinF e.2.2 := by
  have h1 := hU _ (q6y h.ok h.vl C 0 (by omega) e he)
  obtain ⟨_,_,h3⟩ := Ze h.ents e he
  rw [qbc h1] at h3
  exact ⟨h1,of_decide_eq_true h3⟩
theorem qgu : U64 0 := ⟨by omega,by omega⟩
theorem qhg : FinF 0 := by unfold FinF fexp; decide
theorem q70 {m : Nat} (hm : 3000000 < m) (h : MV C C S I V) (hU : ∀ x ∈ V,U64 x) {s : Int} (hs : U64 s) (hf : FinF s) (b0 b1 : Int) (b2 b3 b4 : List Int) : ∀ (n k : Nat) (out : List Ent),C - k < n → k ≤ C → out.length ≤ 100000 + k →
    ∃ r : SRes,g35_L1 m n s (C : Int) (C : Int) S I V b0 b1 b2 b3 b4 out (C : Int) (k : Int) = some r ∧ g55_L1 m n s (C : Int) (C : Int) S I V b0 b1 b2 b3 b4 out (k : Int) = some r ∧
      (r = .inl ((0,0,[],[],[],()),3,()) ∨ ∃ dg,r = .inr (.inl (((C : Int),(C : Int),S,I,V,()),(b0,b1,b2,b3,b4,()),out ++ dg,())) ∧ dg.map posE = (List.range' k (C - k)).map (fun i : Nat => ((i : Int),(i : Int))) ∧ ∀ e ∈ dg,finB e.2.2 = true) := by
  intro n
  induction n with
  | zero => intro k out h; omega
  | succ n ih =>
    intro k out hn hk0 hol
    have hcz := h.ok.cz
    rw [g35_L1,g55_L1]
    by_cases hk : k < C
    · have h1 : ((k : Int) < (C : Int)) := by omega
      obtain ⟨v,b,e1,e2,e3⟩ := qj3 hm h (i := (k : Int)) hk
      have hv : U64 v ∧ FinF v := by
        rcases e3 with ⟨_,g⟩ | ⟨_,g,_⟩
        · exact h.valU hU g
        · subst g; exact ⟨qgu,qhg⟩
      obtain ⟨s1,s2⟩ := qh6 hm hv.2 hf
      simp only [bif_decide,h1,if_true]
      rw [e1,e2,Option.bind_some,Option.bind_some]
      dsimp only
      rw [Of_eq hm hv.1,qcl hm hv.1,Of_eq hm hs,qcl hm hs]
      simp only [Option.bind_some]
      rw [s1,s2,Option.bind_some,Option.bind_some]
      dsimp only
      rw [(Ju hm).1,(Ju hm).2,Option.bind_some,Option.bind_some]
      dsimp only
      by_cases ex : exB (valF v - valF s) (-1074) = true
      · have hfin := qfh ex
        rw [ex,Bool.not_true,cond_false,cond_false,if_pos (by show out.length + 1 ≤ _; omega),if_pos (by show out.length + 1 ≤ _; omega),show w_i64 ((k : Int) + 1) = ((k + 1 : Nat) : Int) from wsucc (by omega)]
        obtain ⟨f,hfe⟩ : ∃ f,f = Xr (mkD (valF v - valF s) (-1074)) 0 := ⟨_,rfl⟩
        rw [← hfe] at hfin ⊢
        obtain ⟨r,i1,i2,i3⟩ := ih (k + 1) (out ++ [((k : Int),((k : Int),f))]) (by omega) (by omega) (by simp; omega)
        refine ⟨r,i1,i2,?_⟩
        rcases i3 with i3 | ⟨dg,j1,j2,j3⟩
        · exact .inl i3
        · refine .inr ⟨((k : Int),((k : Int),f)) :: dg,by rw [j1,List.append_assoc]; rfl,?_,fun e he => ?_⟩
          · rw [List.map_cons,j2,show C - k = (C - (k + 1)) + 1 by omega,List.range'_succ]
            rfl
          · rcases List.mem_cons.1 he with rfl | he
            · exact hfin
            · exact j3 e he
      · rw [show exB (valF v - valF s) (-1074) = false by simpa using ex,Bool.not_false,cond_true,cond_true]
        exact ⟨_,rfl,rfl,.inl rfl⟩
    · have h1 : ¬ ((k : Int) < (C : Int)) := by omega
      simp only [bif_decide,h1,if_false]
      exact ⟨_,rfl,rfl,.inr ⟨[],by rw [List.append_nil],by rw [show C - k = 0 by omega]; rfl,fun e he => by cases he⟩⟩
theorem qdy {m : Nat} (hm : 3000000 < m) (h : MV R C S I V) (hU : ∀ x ∈ V,U64 x) {s : Int} (hs : U64 s) :
    ∃ x : MRes,Yu x ∧ g35 m (R : Int) (C : Int) S I V s = some (x,(),(),()) ∧ g55 m (R : Int) (C : Int) S I V s = some (x,(),(),()) := by
  have hsz := h.ok.sz
  have hrz := h.ok.rz
  have hcz := h.ok.cz
  have hv := h.vl
  have hsl := h.sl
  have hl := h.len
  rw [g35,g55,g44_eq (by omega) (by omega) (by omega) (by omega) (by omega),Xv (by omega) (by omega) (by omega),h.chk,qfj hs,qcu hs]
  simp only [Option.bind_some,bif_ne,if_true]
  by_cases l1 : (R : Int) = (C : Int)
  · have : R = C := by omega
    subst this
    simp only [if_true]
    by_cases hf : FinF s
    · obtain ⟨hE,hD,hfl⟩ := h.filter offE
      obtain ⟨e1,e2⟩ := q1m m s (R : Int) (R : Int) S I V 0 0 [] [] [] (es := ents S I V R 0) (by omega) m 0 (by omega) (by omega)
      simp only [List.take_zero,List.filter_nil,Int.natCast_zero] at e1 e2
      obtain ⟨r,g1,g2,g3⟩ := q70 hm h hU hs hf 0 0 [] [] [] m 0 ((ents S I V R 0).filter offE) (by omega) (by omega) (by omega)
      rw [Int.natCast_zero] at g1 g2
      rw [decide_eq_true hf,Bool.not_true,cond_false,cond_false,q52 (by omega) h.ok h.vl,q6k (by omega) h.ok h.vl h.chk]
      simp only [Option.bind_some]
      rw [e1,e2]
      simp only [Option.bind_some]
      rw [g1,g2]
      simp only [Option.bind_some]
      rcases g3 with rfl | ⟨dg,rfl,j2,j3⟩
      · exact ⟨_,by simp [Yu],rfl,rfl⟩
      · dsimp only
        rw [bif_decide,bif_decide]
        have hdl : dg.length = R := by have := congrArg List.length j2; simpa using this
        by_cases big : ((((ents S I V R 0).filter offE ++ dg).length : Nat) : Int) > 10000
        · rw [if_pos big,if_pos big]
          exact ⟨_,by simp [Yu],rfl,rfl⟩
        · rw [if_neg big,if_neg big]
          have hdm : ∀ e ∈ dg,e.1 = e.2.1 ∧ 0 ≤ e.1 ∧ e.1 < (R : Int) := fun e he => by
            have : posE e ∈ dg.map posE := List.mem_map_of_mem he
            rw [j2] at this
            obtain ⟨i,hi,e0⟩ := List.mem_map.1 this
            rw [List.mem_range'_1] at hi
            simp only [posE,Prod.mk.injEq] at e0
            omega
          have hE' : EntsOK R R ((ents S I V R 0).filter offE ++ dg) := q25 fun e he => by
            rcases List.mem_append.1 he with he | he
            · exact Ze hE e he
            · have := hdm e he
              exact ⟨by omega,by omega,j3 e he⟩
          have hD' : DistE ((ents S I V R 0).filter offE ++ dg) := q3j.2 (by
            rw [List.map_append,List.nodup_append]
            refine ⟨q3j.1 hD,?_,?_⟩
            · rw [j2]
              show List.Pairwise (· ≠ ·) _
              rw [List.pairwise_map]
              exact List.Pairwise.imp (fun {a b} hab e => by
                simp only [Prod.mk.injEq] at e
                exact hab (by omega)) (List.nodup_range' (s := 0) (n := R - 0) (step := 1))
            · intro x hx y hy hxy
              subst hxy
              obtain ⟨e,he,rfl⟩ := List.mem_map.1 hx
              obtain ⟨e',he',h2⟩ := List.mem_map.1 hy
              have h3 := (List.mem_filter.1 he).2
              have h4 := hdm e' he'
              simp only [posE,Prod.mk.injEq] at h2
              simp only [offE,bne_iff_ne] at h3
              exact h3 (by omega))
          have ha : R * R ≤ 200 * 200 := Nat.mul_le_mul hcz hrz
          have b3 := q0y ((ents S I V R 0).filter offE ++ dg) R R
          have b4 := q1b ((ents S I V R 0).filter offE ++ dg) R R
          have b6 : (packS ((ents S I V R 0).filter offE ++ dg) R R).length = R + 1 := by simp [packS]
          refine ⟨(((R : Int),(R : Int),packS ((ents S I V R 0).filter offE ++ dg) R R,packI ((ents S I V R 0).filter offE ++ dg) R R,packV ((ents S I V R 0).filter offE ++ dg) R R,()),0,()),⟨?_,?_,?_⟩,?_,?_⟩
          · show (packS ((ents S I V R 0).filter offE ++ dg) R R).length ≤ _; omega
          · show (packI ((ents S I V R 0).filter offE ++ dg) R R).length ≤ _; omega
          · show (packV ((ents S I V R 0).filter offE ++ dg) R R).length ≤ _; omega
          · rw [qcw hE' hD' hrz hcz (by omega) (by omega)]; rfl
          · rw [qft hE' hrz hcz (by omega) (by omega)]; rfl
    · rw [decide_eq_false hf,Bool.not_false,cond_true,cond_true]
      exact ⟨_,by simp [Yu],rfl,rfl⟩
  · simp only [l1,if_false]
    exact ⟨_,by simp [Yu],rfl,rfl⟩
end
theorem q36 (R C : Int) (S I V p q : List Int) (s : Int) (hU : ∀ x ∈ V,U64 x) (hp : ∀ x ∈ p,I64 x) (hq : ∀ x ∈ q,I64 x) (hs : U64 s) : ∃ m,sparselaw09_MatrixScales m R C S I V p q s = some (true,(),(),(),(),()) := by
  refine ⟨4000000,?_⟩
  generalize hm0 : (4000000 : Nat) = m
  have hm : 3000000 < m := by omega
  have hm2 : m < 4611686018427387904 := by omega
  clear hm0
  obtain ⟨z,es,hz⟩ := qhc m R C S I V
  rw [sparselaw09_MatrixScales,es]
  simp only [Option.bind_some]
  cases z with
  | false =>
    simp only [Bool.not_false,cond_true]
    rw [qcx (by omega)]; rfl
  | true =>
    obtain ⟨l1,l2,l3⟩ := hz rfl
    simp only [Bool.not_true,cond_false,bif_decide]
    by_cases hr : (p.length : Int) > 20
    · rw [if_pos hr,qcx (by omega)]; rfl
    rw [if_neg hr]
    by_cases hc : (q.length : Int) > 20
    · rw [if_pos hc,qcx (by omega)]; rfl
    rw [if_neg hc]
    have fin : ∀ x y : MRes,Yu x → Yu y → g53 m R C S I V p q = some (x,(),(),(),()) → g54 m R C S I V p q = some (x,(),(),(),()) → g35 m R C S I V s = some (y,(),(),()) → g55 m R C S I V s = some (y,(),(),()) →
        ((g53 m R C S I V p q).bind fun y5 =>
        (g54 m R C S I V p q).bind fun y6 =>
        (g35 m R C S I V s).bind fun y7 =>
        (g55 m R C S I V s).bind fun y8 =>
        (sparselaw09_alike m y5.1.1.1 y5.1.1.2.1 y5.1.1.2.2.1 y5.1.1.2.2.2.1 y5.1.1.2.2.2.2.1 y5.1.2.1 y6.1.1.1 y6.1.1.2.1 y6.1.1.2.2.1 y6.1.1.2.2.2.1 y6.1.1.2.2.2.2.1 y6.1.2.1).bind fun y9 =>
        bif y9.1 then
          (sparselaw09_alike m y7.1.1.1 y7.1.1.2.1 y7.1.1.2.2.1 y7.1.1.2.2.2.1 y7.1.1.2.2.2.2.1 y7.1.2.1 y8.1.1.1 y8.1.1.2.1 y8.1.1.2.2.1 y8.1.1.2.2.2.1 y8.1.1.2.2.2.2.1 y8.1.2.1).bind fun y10 =>
          bif y10.1 then
            (sparselaw09_awake m).bind fun y11 =>
            some (y11.1,((),(),(),(),()))
          else
            some (false,((),(),(),(),()))
        else
          some (false,((),(),(),(),()))) = some (true,(),(),(),(),()) := by
      intro x y hx hy g1 g2 g3 g4
      unfold Yu at hx hy
      rw [g1,g2,g3,g4]
      simp only [Option.bind_some]
      rw [q6m (by omega) (by omega) (by omega) hm2]
      simp only [Option.bind_some,cond_true]
      rw [q6m (by omega) (by omega) (by omega) hm2]
      simp only [Option.bind_some,cond_true]
      rw [qcx (by omega)]; rfl
    by_cases hk : chk R C S I V = 0
    · obtain ⟨r,c,rfl,rfl,hM,hvl,hfin⟩ := qid hk
      have h : MV r c S I V := ⟨hM,hvl,hk⟩
      obtain ⟨x,x1,x2,x3⟩ := qdc hm h hU hp hq
      obtain ⟨y,y1,y2,y3⟩ := qdy hm h hU hs
      exact fin x y x1 y1 x2 x3 y2 y3
    · have e1 := g44_eq (m := m) (R := R) (C := C) (S := S) (I := I) (V := V) (by omega) (by omega) (by omega) (by omega) (by omega)
      have e2 := Xv (m := m) (R := R) (C := C) (S := S) (I := I) (V := V) (by omega) (by omega) (by omega)
      refine fin ((0,0,[],[],[],()),chk R C S I V,()) ((0,0,[],[],[],()),chk R C S I V,()) (by simp [Yu]) (by simp [Yu]) ?_ ?_ ?_ ?_
      · rw [g53,e1,Option.bind_some,bif_ne,if_neg hk]
      · rw [g54,e2,Option.bind_some,bif_ne,if_neg hk]
      · rw [g35,e1,Option.bind_some,bif_ne,if_neg hk]
      · rw [g55,e2,Option.bind_some,bif_ne,if_neg hk]
end Go.Vs.F
namespace Go.Vs.F
open Go.Vs
theorem wf64 {x : Int} (h : (Lit.int .i64 x).wf = true) : I64 x := by
  simp only [Lit.wf,Bool.and_eq_true,decide_eq_true_eq] at h
  exact ⟨h.1,by have h2 : x ≤ 9223372036854775807 := h.2; omega⟩
theorem wfu64 {x : Int} (h : (Lit.int .u64 x).wf = true) : U64 x := by
  simp only [Lit.wf,Bool.and_eq_true,decide_eq_true_eq] at h
  exact ⟨h.1,by have h2 : x ≤ 18446744073709551615 := h.2; omega⟩
theorem wfI {xs : List Int} (h : wfC (.imm (.int .i64)) xs) : ∀ x ∈ xs,I64 x := fun x hx => wf64 (h.1 x hx)
theorem wfU {xs : List Int} (h : wfC (.imm (.int .u64)) xs) : ∀ x ∈ xs,U64 x := fun x hx => wfu64 (h.1 x hx)
end Go.Vs.F

/-! MxEe -/
set_option linter.unusedVariables false
set_option linter.unusedSimpArgs false
namespace Go.Vs.F
/- Fits a float exactly. -/
/- A small multiple of a power of two fits. -/
end Go.Vs.F

/-! MxEf -/
set_option linter.unusedVariables false
set_option linter.unusedSimpArgs false
set_option maxRecDepth 100000
namespace Go.Vs.F
/- The opposite number. -/
section
variable {R C : Nat} {S I V : List Int}
/- A look at a place. -/
end
end Go.Vs.F

/-! MxEg -/
set_option linter.unusedVariables false
set_option linter.unusedSimpArgs false
set_option maxRecDepth 100000
namespace Go.Vs.F
section
variable {R C : Nat} {S I V : List Int}
end
end Go.Vs.F

/-! MxEh -/
set_option linter.unusedVariables false
set_option linter.unusedSimpArgs false
set_option maxRecDepth 100000
namespace Go.Vs.F
section
variable {N : Nat} {S0 I0 V0 S1 I1 V1 S2 I2 V2 : List Int} {s : Int}
end
end Go.Vs.F

/-! MxEi -/
set_option linter.unusedVariables false
set_option linter.unusedSimpArgs false
set_option maxRecDepth 100000
namespace Go.Vs.F
/- A finite value's normal form. -/
/- The least exponent. -/
/- The grid of integers. -/
end Go.Vs.F

/-! MxEj -/
set_option linter.unusedVariables false
set_option linter.unusedSimpArgs false
set_option maxRecDepth 100000
namespace Go.Vs.F
section
variable {R C : Nat} {S I V : List Int}
end
section
variable {R C : Nat} {S I V : List Int}
end
end Go.Vs.F

/-! MxEk -/
set_option linter.unusedVariables false
set_option linter.unusedSimpArgs false
set_option maxRecDepth 100000
namespace Go.Vs.F
/- The exponent of a valid dyad. -/
/-! ### Products -/
end Go.Vs.F

/-! MxEl -/
set_option linter.unusedVariables false
set_option linter.unusedSimpArgs false
set_option maxRecDepth 100000
namespace Go.Vs.F
end Go.Vs.F

/-! MxEm -/
set_option linter.unusedVariables false
set_option linter.unusedSimpArgs false
set_option maxRecDepth 100000
namespace Go.Vs.F
/- Sums of made values. -/
end Go.Vs.F
