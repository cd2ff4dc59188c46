/- The functions slices.Clone: a copy, whether the slice is nil or not. From readings of a law's arguments to abstract values; from a summary to the row. -/
import Derived.Test.YtokemaifpclkcaaDoorVb
import Derived.ProofKit
import Derived.OpenShut
import Derived.Deep.Slices

/-! VsCl -/
set_option linter.unusedVariables false
namespace Go.Vs

def noCl {R : Type} : Nat → List AV → (AV → List AV → Option R) → Option R := fun _ _ _ => none
def noLp {R : Type} : Nat → Slots → (Ex → Slots → Option R) → Option R := fun _ _ _ => none
def onlyN (e : Ex) (σ : Slots) : Option Slots := match e with
  | .normal => some σ
  | _ => none
def onlyR (e : Ex) (σ : Slots) : Option Slots := match e with
  | .ret => some σ
  | _ => none

theorem noCl_spec {CO : CallRel} {R : Type} {ρ : R} : ∀ f as k, noCl f as k = some ρ → ∃ r os, CO f as r os ∧ k r os = some ρ := fun _ _ _ h => by cases h
theorem noLp_spec {P : Program} {E : Entry} {R : Type} {ρ : R} {blk : Nat} {body : Code} : LoopSpec P E (noLp (R := R)) ρ blk body := fun _ _ _ _ _ _ _ h => by cases h

def noLoops : Code → Bool
  | .seq a b => noLoops a && noLoops b
  | .cond _ a b => noLoops a && noLoops b
  | .block _ c => noLoops c
  | .loop _ => false
  | _ => true
theorem loopsIn_no {L : Nat → Code → Prop} : ∀ {c : Code} {k : Nat}, noLoops c = true → loopsIn L c k
  | .seq a b, k, h => by
    simp only [noLoops, Bool.and_eq_true] at h
    exact ⟨loopsIn_no h.1, loopsIn_no h.2⟩
  | .cond _ a b, k, h => by
    simp only [noLoops, Bool.and_eq_true] at h
    exact ⟨loopsIn_no h.1, loopsIn_no h.2⟩
  | .block id c, _, h => loopsIn_no (c := c) h
  | .loop body, k, h => by cases h
  | .skip, _, _ => trivial
  | .region _ _ _, _, _ => trivial
  | .rangeFunc _ _ _ _, _, _ => trivial
  | .exit _, _, _ => trivial
  | .scope _, _, _ => trivial
  | .label _, _, _ => trivial
  | .goto _, _, _ => trivial
  | .ret, _, _ => trivial
  | .refuse _, _, _ => trivial

section
variable {P : Program} {CO : CallRel} {T : TT} {E : Entry} {D : Nat → Prop} {β : Beta} {who : Who} {σ : Slots} {a : Act} {w : World}

theorem equalIn_nil (w : World) (d : Nat) {ty e : Nat} {ad : Option Addr} {l c : Nat} (hu : P.underlying ty = some (.slice e)) :
    (Op.equalIn (d + 1) ty (.slice ad l c) (.slice none 0 0)).run P w = .ok ad.isNone w := by
  cases ad <;> simp [Op.equalIn, run_underlying hu]

theorem eqGuard_slice (op : BinOp) (t : Nat) (x y : Operand) (ad : Option Addr) (l c : Nat) (w : World) :
    (eqGuard op t x y (.slice ad l c) (.slice none 0 0)).run P w = .ok () w := by
  unfold eqGuard; cases op <;> rfl

theorem SlI.shape {t : Ty} {xs : List (Den t)} {v : Value} (h : SlI who w t xs v) : ∃ ad l c, v = .slice ad l c ∧ (ad.isNone = true → xs = []) := by
  rcases h with ⟨rfl, rfl⟩ | ⟨b, o, cap, rfl, _⟩
  · exact ⟨_, _, _, rfl, fun _ => rfl⟩
  · exact ⟨_, _, _, rfl, fun h => by cases h⟩

/-- The test whether a slice is nil, and what is done if so. -/
theorem nil_guard (hT : TTok P T) (hE : E.prog = P) {N : Nat} (hN : E.N = N) (hp : E.pins = []) {p q s : Nat} {ty e ty2 k : Nat} {t : Ty} {cells : List ZC} {o0 o1 : Oper} {X : Code}
    (hti : T.at ty = some ⟨.slice e t, cells⟩) (h0 : o0.op = .move (.tmp s)) (h0d : o0.dst = some p) (h0g : o0.guard = none)
    (h1 : o1.op = .binOp .eql ty (.tmp p) (.const (.slice none 0 0)) ty2) (h1d : o1.dst = some q) (h1g : o1.guard = none)
    (hpN : p < N) (hqN : q < N) (hpq : p ≠ q) {xs : List (Den t)} (hs : σ.get s = .sl .imm t xs) (hsp : σ.get p = .dead) (hsq : σ.get q = .dead)
    (S : Sim E D99 β who σ [] a w) {Q : Exit → Act → World → Prop}
    (hX : xs = [] → ∀ a, Sim E D99 β who σ [] a w → X.wp P Q a w) (hF : ∀ a, Sim E D99 β who σ [] a w → Q .normal a w) :
    (Code.seq (.region k #[o0, o1] false) (.cond (.tmp q) X .skip)).wp P Q a w := by
  obtain ⟨ad, l, c, hv, hnil⟩ := SlI.shape (show SlI who w t xs (a.tmps.getD s undef) by have := S.rel s; rw [hs] at this; exact this)
  have hv' : a.eval (.tmp s) = .slice ad l c := by rw [Act.eval]; exact hv
  refine wp_seq (wp_region_list ?_)
  have S1 : Sim E D99 β who (σ.set p (.sl .imm t xs)) [] (a.put (some p) (a.eval (.tmp s))) w :=
    (S.take0 (v := .sl .imm t xs) (c := a.eval (.tmp s)) (by have := S.rel s; rw [hs] at this; exact this) rfl (fun n hn => by cases hn)).put (by rw [hN]; exact hpN) (fun x hx => by rw [hp] at hx; cases hx)
  have hp1 : (a.put (some p) (a.eval (.tmp s))).eval (.tmp p) = .slice ad l c := by
    have hsz : p < a.tmps.size := by rw [S.tsz, hN]; exact hpN
    rw [Act.eval]
    simp [Act.put, Array.getD_eq_getD_getElem?, hsz, hv']
  have S2 : Sim E D99 β who ((σ.set p (.sl .imm t xs)).set q (.bool ad.isNone)) [] ((a.put (some p) (a.eval (.tmp s))).put (some q) (.bool ad.isNone)) w :=
    (S1.take0 (v := .bool ad.isNone) (c := .bool ad.isNone) rfl rfl (fun n hn => by cases hn)).put (by rw [hN]; exact hqN) (fun x hx => by rw [hp] at hx; cases hx)
  show wpList P #[o0, o1] _ [o0, o1] a w
  unfold wpList
  rw [if_pos (by simp [Region.wanted, h0g])]
  refine .inl ?_
  unfold Oper.wp
  rw [show (execOp a.eval o0).run P w = .ok (.value (a.eval (.tmp s))) w by unfold execOp; simp only [h0]; rfl]
  show wpList P #[o0, o1] _ [o1] (a.put o0.dst (a.eval (.tmp s))) w
  rw [h0d]
  unfold wpList
  rw [if_pos (by simp [Region.wanted, h1g])]
  refine .inl ?_
  unfold Oper.wp
  have hu : P.underlying ty = some (.slice e) := (hT ty _ hti).desc.1
  have hexec : (execOp (a.put (some p) (a.eval (.tmp s))).eval o1).run P w = .ok (.value (.bool ad.isNone)) w := by
    unfold execOp
    simp only [h1]
    refine run_v ?_
    have hc : (a.put (some p) (a.eval (.tmp s))).eval (.const (.slice none 0 0)) = .slice none 0 0 := rfl
    rw [hp1, hc]
    have he : (Op.equal ty (.slice ad l c) (.slice none 0 0)).run P w = .ok ad.isNone w := equalIn_nil w 9999 hu
    simp only [Sem.run_bind, eqGuard_slice, Result.andThen_ok]
    simp [binOp, he]
  rw [hexec]
  simp only [Oper.upon, h1d]
  unfold wpList
  show (Code.cond (.tmp q) X .skip).wp P Q _ w
  have S3 : Sim E D99 β who σ [] ((a.put (some p) (a.eval (.tmp s))).put (some q) (.bool ad.isNone)) w := by
    refine ((S2.abs (s := p) (v := .dead) trivial (fun n hn => by cases hn) List.nodup_nil (fun n hn => by cases hn)).abs (s := q) (v := .dead) trivial (fun n hn => by cases hn) List.nodup_nil (fun n hn => by cases hn)).ext fun x => ?_
    by_cases e1 : x = q
    · subst e1; rw [get_set_eq, hsq]
    · rw [get_set_ne _ _ e1]
      by_cases e2 : x = p
      · subst e2; rw [get_set_eq, hsp]
      · rw [get_set_ne _ _ e2, get_set_ne _ _ e1, get_set_ne _ _ e2]
  have hq := S2.rel q
  rw [get_set_eq] at hq
  refine wp_cond (t := ad.isNone) hq ?_
  cases had : ad.isNone with
  | true => rw [had] at S3; rw [if_pos rfl]; exact hX (hnil had) _ S3
  | false => rw [had] at S3; rw [if_neg (by simp)]; exact wp_skip (hF _ S3)
end

/-- What a clone gives. -/
def cloneR (t : Ty) : ShLVal [.a (.c (.imm t))] → Option ((Sh.a (.c (.nm 0 t))).Val × ShLVal [.a (.c .dead)]) := fun x =>
  if ([] : List (Den t)).length + x.1.length ≤ 1073741824 then some (x.1, ((), ())) else none

theorem clone_ok {P : Program} {T : TT} (hm : P.follows .mixedOrders = true) (hT : TTok P T) {H : Hints} {fn : Func} {f : Nat} {t : Ty} {ty e ty2 k : Nat} {cells : List ZC}
    {A X Y : Code} {o0 o1 : Oper} (hf : P.funcs[f]? = some fn)
    (hb : fn.body = some (.seq A (.seq (.seq (.region k #[o0, o1] false) (.cond (.tmp 4) X .skip)) Y)))
    (hname : (fn.name == "runtime.NumGoroutine") = false) (hti : T.at ty = some ⟨.slice e t, cells⟩)
    (h0 : o0.op = .move (.tmp 0)) (h0d : o0.dst = some 3) (h0g : o0.guard = none)
    (h1 : o1.op = .binOp .eql ty (.tmp 3) (.const (.slice none 0 0)) ty2) (h1d : o1.dst = some 4) (h1g : o1.guard = none)
    (hN : 5 ≤ fn.ntmps) (hpins : H.pins = []) (hlA : noLoops A = true) (hlX : noLoops X = true) (hlY : noLoops Y = true)
    (σ1 σ2 : List (Den t) → Slots)
    (hA : ∀ xs, evK noCl noLp T fn.ntmps H A 0 (argSlots 0 [.sl .imm t xs]) onlyN = some (σ1 xs))
    (g0 : ∀ xs, (σ1 xs).get 0 = .sl .imm t xs) (g3 : ∀ xs, (σ1 xs).get 3 = .dead) (g4 : ∀ xs, (σ1 xs).get 4 = .dead)
    (hX : evK noCl noLp T fn.ntmps H X 0 (σ1 []) onlyR = some (σ2 []))
    (hY : ∀ xs, evK noCl noLp T fn.ntmps H Y 0 (σ1 xs) onlyR = if ([] : List (Den t)).length + xs.length ≤ 1073741824 then some (σ2 xs) else none)
    (hfin : ∀ xs, finishK T H fn [.sl .imm t xs] (fun r os => some (r, os)) (σ2 xs) = some (.sl (.nm 0) t xs, [.dead])) :
    FunOK P ⟨f, [.a (.c (.imm t))], .a (.c (.nm 0 t)), [.a (.c .dead)], cloneR t⟩ := by
  intro x y hy
  obtain ⟨xs, u⟩ := x
  have hlen : ([] : List (Den t)).length + xs.length ≤ 1073741824 ∧ y = (xs, ((), ())) := by
    unfold cloneR at hy
    simp only at hy
    split at hy
    · rename_i h; cases hy; exact ⟨h, rfl⟩
    · cases hy
  obtain ⟨hlen, rfl⟩ := hlen
  show CallOK P f [.sl .imm t xs] (.sl (.nm 0) t xs) [.dead]
  refine ⟨⟨fn, hf, by rw [hb]; rfl, hname⟩, fun β who w cargs hsz hrel hnd h99 hnr hw hgl => ?_⟩
  refine calls_of_wp hf hb ?_
  have hNt : [AV.sl .imm t xs].length ≤ fn.ntmps := by simp; omega
  have S := entry_sim (pins := H.pins) hsz hNt hrel hnd h99 hnr hw hgl
  generalize hE : (⟨P, w, who, H.pins.map fun i => (i, (cargs ++ Array.replicate (fn.ntmps - cargs.size) undef).getD i undef), fn.ntmps, hgl⟩ : Entry) = E at S
  have hEO : EOf P E fn.ntmps H.pins := by
    subst hE
    exact ⟨rfl, fun p hp => by rw [hpins] at hp; simp at hp, rfl⟩
  have hEp : E.pins = [] := by subst hE; simp [hpins]
  have fin : ∀ β' who' a' w', Sim E D99 β' who' (σ2 xs) [] a' w' → a'.defers = [] ∧ ∃ v, (results fn a'.tmps).run P w' = .ok v w' ∧ CallPost who w cargs (.sl (.nm 0) t xs) [.dead] (.returned v) w' := fun β' who' a' w' S' => by
    subst hE
    obtain ⟨res', outs', v, k1, k2, k3⟩ := finish_sound hT (hfin xs) hsz hNt (by rfl) S'
    cases k1
    exact ⟨S'.dfr, v, k2, k3⟩
  refine wp_seq (ev_sound (CO := CallOK P) hm hT (fun _ _ _ _ h => h) hEO noCl_spec A 0 _ onlyN _ β who _ w (loopsIn_no hlA) (hA xs) S fun e1 σ' he β' who' a' w' S' => ?_)
  cases e1 with
  | normal =>
    cases he
    refine wp_seq (nil_guard hT hEO.2.2 hEO.1 hEp hti h0 h0d h0g h1 h1d h1g (by omega) (by omega) (by omega) (g0 xs) (g3 xs) (g4 xs) S' (fun hnil a2 S2 => ?_) (fun a2 S2 => ?_))
    · subst hnil
      refine ev_sound (CO := CallOK P) hm hT (fun _ _ _ _ h => h) hEO noCl_spec X 0 _ onlyR _ _ _ _ _ (loopsIn_no hlX) hX S2 fun e2 σ3 he2 β3 who3 a3 w3 S3 => ?_
      cases e2 with
      | ret => cases he2; exact fin _ _ _ _ S3
      | normal => cases he2
      | exit i => cases he2
    · refine ev_sound (CO := CallOK P) hm hT (fun _ _ _ _ h => h) hEO noCl_spec Y 0 _ onlyR _ _ _ _ _ (loopsIn_no hlY) ((hY xs).trans (if_pos hlen)) S2 fun e2 σ3 he2 β3 who3 a3 w3 S3 => ?_
      cases e2 with
      | ret => cases he2; exact fin _ _ _ _ S3
      | normal => cases he2
      | exit i => cases he2
  | ret => cases he
  | exit i => cases he

/-! ### The parts of its code -/
def pA : Code → Code
  | .seq a _ => a
  | _ => .skip
def pB : Code → Code
  | .seq _ b => b
  | _ => .skip
def pX : Code → Code
  | .cond _ x _ => x
  | _ => .skip
def pO (i : Nat) : Code → Oper
  | .region _ ops _ => ops.getD i default
  | _ => default
end Go.Vs

/-! VsJn -/
set_option linter.unusedVariables false
namespace Go.Vs
open Go.ChangeShapes Go.WideShapes Go.ChangeAt Go.RowKit

def nobody : Who := fun _ => none

/-! ### Elements without slices -/
def valsOf : (t : Ty) → Den t → List Value
  | .int k, x => [.int k x]
  | .bool, b => [.bool b]
  | .sl _ _, _ => []
  | .pr a b, x => valsOf a x.1 ++ valsOf b x.2
def flatTy : Ty → Bool
  | .int _ => true
  | .bool => true
  | .sl _ _ => false
  | .pr a b => flatTy a && flatTy b
def wfD : (t : Ty) → Den t → Prop
  | .int k, x => (Lit.int k x).wf = true
  | .bool, _ => True
  | .sl _ t, xs => ∀ x ∈ xs, wfD t x
  | .pr a b, x => wfD a x.1 ∧ wfD b x.2

theorem valsOf_len : ∀ {t : Ty} {x : Den t}, flatTy t = true → (valsOf t x).length = t.size
  | .int _, _, _ => rfl
  | .bool, _, _ => rfl
  | .sl _ _, _, h => by cases h
  | .pr a b, x, h => by
    simp only [flatTy, Bool.and_eq_true] at h
    simp [valsOf, Ty.size, valsOf_len h.1, valsOf_len h.2]

theorem relI_vals {who : Who} {w : World} : ∀ {t : Ty} {x : Den t} {g : Nat → Option Value} {j : Nat}, flatTy t = true → (∀ i, i < t.size → g (j + i) = (valsOf t x)[i]?) → RelI who w t x g j
  | .int _, _, g, j, _, h => by have := h 0 (by simp [Ty.size]); simpa [RelI, valsOf] using this
  | .bool, _, g, j, _, h => by have := h 0 (by simp [Ty.size]); simpa [RelI, valsOf] using this
  | .sl _ _, _, _, _, h, _ => by cases h
  | .pr a b, x, g, j, h, hg => by
    simp only [flatTy, Bool.and_eq_true] at h
    have la := valsOf_len (x := x.1) h.1
    have lb := valsOf_len (x := x.2) h.2
    refine ⟨relI_vals h.1 fun i hi => ?_, relI_vals h.2 fun i hi => ?_⟩
    · rw [hg i (by simp [Ty.size]; omega)]
      simp only [valsOf]
      rw [List.getElem?_append_left (by omega)]
    · rw [show j + a.size + i = j + (a.size + i) by omega, hg (a.size + i) (by simp [Ty.size]; omega)]
      simp only [valsOf]
      rw [List.getElem?_append_right (by omega), la, show a.size + i - a.size = i by omega]

/-- Fields, one behind the other. -/
def fieldsTy (P : Program) (chk : TypeId → Ty → Bool) : List Field → Nat → Ty → Bool
  | [], _, _ => false
  | [f], off, ty => decide (f.offset = off) && decide (P.cellsOf f.type = ty.size) && chk f.type ty
  | f :: fs, off, .pr a b => decide (f.offset = off) && decide (P.cellsOf f.type = a.size) && chk f.type a && fieldsTy P chk fs (off + a.size) b
  | _, _, _ => false
def tyChk (P : Program) : Nat → TypeId → Ty → Bool
  | 0, _, _ => false
  | n + 1, t, ty => match P.underlying t with
    | some (.int k) => (match ty with
      | .int k' => decide (k' = k)
      | _ => false)
    | some .bool => (match ty with
      | .bool => true
      | _ => false)
    | some (.struct fs) => decide (P.cellsOf t = ty.size) && fieldsTy P (tyChk P n) fs.toList 0 ty
    | _ => false

section
variable {H : Type} {enc : TypeId × Value → H} {P : Program} {w : World} {base : Nat} {spare : Nat → Bool} {held : Bool}

theorem trod_struct_cells {fuel : Nat} {t : TypeId} {cs : List Value} {x : DataW H × List MemPlace} {fs : Array Field} (ht : P.underlying t = some (.struct fs))
    (h : DataW.trod enc P w base spare held fuel t cs = some x) :
    cs.length = P.cellsOf t ∧ ∃ n, fuel = n + 1 ∧ ∃ xs, fs.toList.mapM (fun f => DataW.trod enc P w base spare held n f.type ((cs.drop f.offset).take (P.cellsOf f.type))) = some xs := by
  cases fuel with
  | zero => simp [DataW.trod] at h
  | succ n =>
    unfold DataW.trod at h
    rw [ht] at h
    have key : (if cs.length = P.cellsOf t then (fs.toList.mapM fun f => DataW.trod enc P w base spare held n f.type ((cs.drop f.offset).take (P.cellsOf f.type))).map fun xs => ((.agg (xs.map (·.1)) : DataW H), xs.flatMap (·.2)) else none) = some x := by
      split at h <;> first | (rename_i h1 _; cases h1) | (rename_i h1; cases h1; exact h) | exact h | skip
      all_goals simp_all
    split at key
    · rename_i hl
      obtain ⟨xs, hxs, _⟩ := Option.map_eq_some_iff.1 key
      exact ⟨hl, n, rfl, xs, hxs⟩
    · cases key

theorem mapM_all {α β : Type} {f : α → Option β} : ∀ {l : List α} {r : List β}, l.mapM f = some r → ∀ x ∈ l, ∃ y, f x = some y
  | [], _, _, x, h => by cases h
  | a :: l, r, h, x, hx => by
    rw [List.mapM_cons] at h
    cases ha : f a with
    | none => rw [ha] at h; cases h
    | some y =>
      rw [ha] at h
      cases hl : l.mapM f with
      | none => simp [hl] at h
      | some ys =>
        rcases List.mem_cons.1 hx with rfl | hx
        · exact ⟨y, ha⟩
        · exact mapM_all hl x hx

theorem fields_vals {chk : TypeId → Ty → Bool} {n : Nat}
    (ih : ∀ t ty cs x, chk t ty = true → DataW.trod enc P w base spare held n t cs = some x → flatTy ty = true ∧ ∃ v : Den ty, cs = valsOf ty v ∧ wfD ty v) (cs : List Value) :
    ∀ (fs : List Field) (off : Nat) (ty : Ty), fieldsTy P chk fs off ty = true → (∀ f ∈ fs, ∃ y, DataW.trod enc P w base spare held n f.type ((cs.drop f.offset).take (P.cellsOf f.type)) = some y) →
      flatTy ty = true ∧ ∃ v : Den ty, (cs.drop off).take ty.size = valsOf ty v ∧ wfD ty v
  | [], _, _, h, _ => by cases h
  | [f], off, ty, h, hf => by
    simp only [fieldsTy, Bool.and_eq_true, decide_eq_true_eq] at h
    obtain ⟨y, hy⟩ := hf f (List.mem_cons_self ..)
    rw [h.1.1, h.1.2] at hy
    obtain ⟨g1, v, g2, g3⟩ := ih _ _ _ _ h.2 hy
    exact ⟨g1, v, g2, g3⟩
  | f :: f2 :: fs, off, .pr a b, h, hf => by
    simp only [fieldsTy, Bool.and_eq_true, decide_eq_true_eq] at h
    obtain ⟨⟨⟨h1, h2⟩, h3⟩, h4⟩ := h
    obtain ⟨y, hy⟩ := hf f (List.mem_cons_self ..)
    rw [h1, h2] at hy
    obtain ⟨g1, u, g2, g3⟩ := ih _ _ _ _ h3 hy
    obtain ⟨q1, v, q2, q3⟩ := fields_vals ih cs (f2 :: fs) _ b h4 (fun f hf' => hf f (List.mem_cons_of_mem _ hf'))
    refine ⟨by simp [flatTy, g1, q1], (u, v), ?_, g3, q3⟩
    show _ = valsOf a u ++ valsOf b v
    rw [← g2, ← q2, ← List.drop_drop, show (Ty.pr a b).size = a.size + b.size from rfl, List.take_add]
  | f :: f2 :: fs, off, .int _, h, _ => by cases h
  | f :: f2 :: fs, off, .bool, h, _ => by cases h
  | f :: f2 :: fs, off, .sl _ _, h, _ => by cases h

theorem trod_vals : ∀ (m : Nat) (t : TypeId) (ty : Ty) (fuel : Nat) (cs : List Value) (x : DataW H × List MemPlace), tyChk P m t ty = true → DataW.trod enc P w base spare held fuel t cs = some x →
    flatTy ty = true ∧ ∃ v : Den ty, cs = valsOf ty v ∧ wfD ty v
  | 0, _, _, _, _, _, h, _ => by cases h
  | m + 1, t, ty, fuel, cs, x, h, ht => by
    unfold tyChk at h
    split at h
    · rename_i k hu
      split at h
      · rename_i k'
        have : k' = k := by simpa using h
        subst this
        obtain ⟨n, rfl, rfl, wn⟩ := DataW.trod_int hu ht
        exact ⟨rfl, n, rfl, wn⟩
      · cases h
    · rename_i hu
      split at h
      · obtain ⟨b, rfl, rfl⟩ := DataW.trod_bool hu ht
        exact ⟨rfl, b, rfl, trivial⟩
      · cases h
    · rename_i fs hu
      obtain ⟨hl, n, rfl, xs, hxs⟩ := trod_struct_cells hu ht
      simp only [Bool.and_eq_true, decide_eq_true_eq] at h
      obtain ⟨g1, v, g2, g3⟩ := fields_vals (n := n) (fun t ty cs x hc hx => trod_vals m t ty n cs x hc hx) cs fs.toList 0 ty h.2 (mapM_all hxs)
      refine ⟨g1, v, ?_, g3⟩
      rw [← g2, List.drop_zero, List.take_of_length_le (by rw [hl, h.1]; exact Nat.le_refl _)]
    · cases h

/-! ### Slices that came in -/
theorem trod_sl {m : Nat} {t e : TypeId} {ty : Ty} {fuel : Nat} {v : Value} {x : DataW H × List MemPlace} (hu : P.underlying t = some (.slice e)) (hc : tyChk P m e ty = true) (hcell : P.cellsOf e = ty.size)
    (h : DataW.trod enc P w base spare held fuel t [v] = some x) (hok : ∀ a len cap, v = .slice (some a) len cap → a.spot = none ∧ a.block < w.heap.size) :
    ∃ xs : List (Den ty), SlI nobody w ty xs v ∧ (∀ y ∈ xs, wfD ty y) ∧ xs.length ≤ maxLen := by
  rcases Deep.open_slice hu h with ⟨hcs, _⟩ | ⟨a, len, cap, mm, n, D, Pl, hcs, hb, hl, hm, hmm, hx, hel⟩
  · simp only [List.cons.injEq, and_true] at hcs
    exact ⟨[], .inl ⟨hcs, rfl⟩, (fun y hy => by simp at hy), Nat.zero_le _⟩
  · simp only [List.cons.injEq, and_true] at hcs
    subst hcs
    obtain ⟨hsp, hbl⟩ := hok a len cap rfl
    obtain ⟨b, o, s⟩ := a
    simp only at hsp hbl; subst hsp
    have hlm : len ≤ mm := by rw [hmm]; split <;> omega
    have key : ∀ i, i < len → ∃ y : Den ty, wfD ty y ∧ RelI nobody w ty y (cellAt w b (o + i * ty.size)) 0 := fun i hi => by
      obtain ⟨cs', h1, h2⟩ := hel i (by omega)
      obtain ⟨g1, y, rfl, g3⟩ := trod_vals m e ty n cs' _ hc h2
      refine ⟨y, g3, relI_vals g1 fun j hj => ?_⟩
      rw [hcell] at h1
      unfold World.cells? at h1
      split at h1
      · have hlen := valsOf_len (x := y) g1
        have := mapM_some_get h1 j j (by simp [hj])
        unfold cellAt
        rw [← this]
        congr 1
        unfold Addr.add
        split <;> split <;> simp_all <;> omega
      · cases h1
    have hch : ∀ i, ∃ y : Den ty, i < len → wfD ty y ∧ RelI nobody w ty y (cellAt w b (o + i * ty.size)) 0 := fun i => by
      by_cases hi : i < len
      · obtain ⟨y, h1, h2⟩ := key i hi; exact ⟨y, fun _ => ⟨h1, h2⟩⟩
      · exact ⟨ty.zero, fun h => absurd h hi⟩
    let f : Nat → Den ty := fun i => Classical.choose (hch i)
    have hf : ∀ i, i < len → wfD ty (f i) ∧ RelI nobody w ty (f i) (cellAt w b (o + i * ty.size)) 0 := fun i => Classical.choose_spec (hch i)
    refine ⟨(List.range len).map f, .inr ⟨b, o, cap, by simp, rfl, hbl, by simpa using hl, fun i hi => ?_⟩, fun y hy => ?_, by simp; omega⟩
    · rw [List.getElem_map, List.getElem_range]
      exact (hf i (by simpa using hi)).2
    · obtain ⟨i, hi, rfl⟩ := List.mem_map.1 hy
      exact (hf i (List.mem_range.1 hi)).1

/-! ### Cells of an argument -/
def wfC : (s : ShC) → s.Val → Prop
  | .int k, n => (Lit.int k n).wf = true
  | .imm t, xs => (∀ x ∈ xs, wfD t x) ∧ xs.length ≤ maxLen
  | _, _ => True
def wfCL : (l : List ShC) → valL ShC.Val l → Prop
  | [], _ => True
  | s :: r, x => wfC s x.1 ∧ wfCL r x.2

def fieldsCt (P : Program) (chk : TypeId → List ShC → Bool) : List Field → Nat → List ShC → Bool
  | [], _, l => l.isEmpty
  | f :: fs, off, l => decide (f.offset = off) && decide (P.cellsOf f.type ≤ l.length) && chk f.type (l.take (P.cellsOf f.type)) && fieldsCt P chk fs (off + P.cellsOf f.type) (l.drop (P.cellsOf f.type))
def ctChk (P : Program) : Nat → TypeId → List ShC → Bool
  | 0, _, _ => false
  | n + 1, t, l => match P.underlying t with
    | some (.int k) => (match l with
      | [.int k'] => decide (k' = k)
      | _ => false)
    | some .bool => (match l with
      | [.bool] => true
      | _ => false)
    | some (.slice e) => (match l with
      | [.imm ty] => decide (P.cellsOf e = ty.size) && tyChk P 9 e ty
      | _ => false)
    | some (.struct fs) => decide (P.cellsOf t = l.length) && fieldsCt P (ctChk P n) fs.toList 0 l
    | _ => false

/-- What the cells of an argument are. -/
def CellsI (w : World) (l : List ShC) (x : valL ShC.Val l) (cs : List Value) : Prop :=
  cs.length = l.length ∧ ∀ (β : Beta) i (h : i < (encL ShC.Val ShC.enc l x).length), RelC β nobody w (encL ShC.Val ShC.enc l x)[i] (cs.getD i undef)

theorem encL_length {S A : Type} {V : S → Type} {e : (s : S) → V s → A} : ∀ {l : List S} {x : valL V l}, (encL V e l x).length = l.length
  | [], _ => rfl
  | _ :: r, x => by simp [encL, encL_length (l := r)]

def joinL {V : ShC → Type} : {l r : List ShC} → valL V l → valL V r → valL V (l ++ r)
  | [], _, _, y => y
  | _ :: _, _, x, y => (x.1, joinL x.2 y)
theorem joinL_enc {l r : List ShC} {x : valL ShC.Val l} {y : valL ShC.Val r} : encL ShC.Val ShC.enc (l ++ r) (joinL x y) = encL ShC.Val ShC.enc l x ++ encL ShC.Val ShC.enc r y := by
  induction l with
  | nil => rfl
  | cons s l ih => simp [encL, joinL, ih]
theorem joinL_wf {l r : List ShC} {x : valL ShC.Val l} {y : valL ShC.Val r} (h : wfCL l x) (h' : wfCL r y) : wfCL (l ++ r) (joinL x y) := by
  induction l with
  | nil => exact h'
  | cons s l ih => exact ⟨h.1, ih h.2⟩
theorem CellsI.join {l r : List ShC} {x : valL ShC.Val l} {y : valL ShC.Val r} {cs ds : List Value} (h : CellsI w l x cs) (h' : CellsI w r y ds) : CellsI w (l ++ r) (joinL x y) (cs ++ ds) := by
  refine ⟨by simp [h.1, h'.1], fun β i hi => ?_⟩
  have e := joinL_enc (x := x) (y := y)
  have hlen : (encL ShC.Val ShC.enc l x).length = cs.length := by rw [encL_length, h.1]
  have hi' : i < (encL ShC.Val ShC.enc l x ++ encL ShC.Val ShC.enc r y).length := by rw [← e]; exact hi
  have e2 : (encL ShC.Val ShC.enc (l ++ r) (joinL x y))[i] = (encL ShC.Val ShC.enc l x ++ encL ShC.Val ShC.enc r y)[i] := by simp only [e]
  rw [e2]
  by_cases hl : i < cs.length
  · rw [List.getElem_append_left (by omega)]
    have := h.2 β i (by omega)
    simpa [List.getD, List.getElem?_append_left hl] using this
  · rw [List.getElem_append_right (by omega)]
    have := h'.2 β (i - (encL ShC.Val ShC.enc l x).length) (by simp at hi'; omega)
    have e3 : (cs ++ ds).getD i undef = ds.getD (i - (encL ShC.Val ShC.enc l x).length) undef := by
      simp only [List.getD, List.getElem?_append_right (Nat.le_of_not_lt hl), hlen]
    rw [e3]; exact this

theorem fields_cells {chk : TypeId → List ShC → Bool} {n : Nat} {good : Value → Prop}
    (ih : ∀ t l cs x, chk t l = true → DataW.trod enc P w base spare held n t cs = some x → (∀ v ∈ cs, good v) → ∃ v, CellsI w l v cs ∧ wfCL l v) (cs : List Value) (hg : ∀ v ∈ cs, good v) :
    ∀ (fs : List Field) (off : Nat) (l : List ShC), fieldsCt P chk fs off l = true → cs.length = off + l.length → (∀ f ∈ fs, ∃ y, DataW.trod enc P w base spare held n f.type ((cs.drop f.offset).take (P.cellsOf f.type)) = some y) →
      ∃ v, CellsI w l v (cs.drop off) ∧ wfCL l v
  | [], off, l, h, hl, _ => by
    have : l = [] := by simpa [fieldsCt] using h
    subst this
    exact ⟨(), ⟨by simp [hl], fun β i hi => by simp [encL] at hi⟩, trivial⟩
  | f :: fs, off, l, h, hl, hf => by
    simp only [fieldsCt, Bool.and_eq_true, decide_eq_true_eq] at h
    obtain ⟨⟨⟨h1, h2⟩, h3⟩, h4⟩ := h
    obtain ⟨y, hy⟩ := hf f (List.mem_cons_self ..)
    rw [h1] at hy
    obtain ⟨u, g1, g2⟩ := ih _ _ _ _ h3 hy (fun v hv => hg v (List.mem_of_mem_drop (List.mem_of_mem_take hv)))
    obtain ⟨v, q1, q2⟩ := fields_cells ih cs hg fs _ _ h4 (by rw [List.length_drop]; omega) (fun f hf' => hf f (List.mem_cons_of_mem _ hf'))
    have hj := g1.join q1
    have hw := joinL_wf g2 q2
    have e1 : l.take (P.cellsOf f.type) ++ l.drop (P.cellsOf f.type) = l := List.take_append_drop ..
    have e2 : (cs.drop off).take (P.cellsOf f.type) ++ cs.drop (off + P.cellsOf f.type) = cs.drop off := by rw [← List.drop_drop, List.take_append_drop]
    rw [e2] at hj
    have fin : ∀ {l' : List ShC} {z : valL ShC.Val l'}, l' = l → CellsI w l' z (cs.drop off) → wfCL l' z → ∃ v, CellsI w l v (cs.drop off) ∧ wfCL l v := by
      intro l' z e h7 h8
      subst e; exact ⟨z, h7, h8⟩
    exact fin e1 hj hw

theorem trod_cells : ∀ (m : Nat) (t : TypeId) (l : List ShC) (fuel : Nat) (cs : List Value) (x : DataW H × List MemPlace), ctChk P m t l = true → DataW.trod enc P w base spare held fuel t cs = some x →
    (∀ v ∈ cs, ∀ a len cap, v = .slice (some a) len cap → a.spot = none ∧ a.block < w.heap.size) → ∃ v, CellsI w l v cs ∧ wfCL l v
  | 0, _, _, _, _, _, h, _, _ => by cases h
  | m + 1, t, l, fuel, cs, x, h, ht, hok => by
    unfold ctChk at h
    split at h
    · rename_i k hu
      split at h
      · rename_i k'
        have : k' = k := by simpa using h
        subst this
        obtain ⟨n, rfl, rfl, wn⟩ := DataW.trod_int hu ht
        exact ⟨(n, ()), ⟨rfl, fun β i hi => by
          have : i = 0 := by simp [encL] at hi; omega
          subst this; rfl⟩, wn, trivial⟩
      · cases h
    · rename_i hu
      split at h
      · obtain ⟨b, rfl, rfl⟩ := DataW.trod_bool hu ht
        exact ⟨(b, ()), ⟨rfl, fun β i hi => by
          have : i = 0 := by simp [encL] at hi; omega
          subst this; rfl⟩, trivial, trivial⟩
      · cases h
    · rename_i e hu
      split at h
      · rename_i ty
        simp only [Bool.and_eq_true, decide_eq_true_eq] at h
        have hcs : ∃ v, cs = [v] := by
          rcases Deep.open_slice hu ht with ⟨hcs, _⟩ | ⟨a, len, cap, mm, n, D, Pl, hcs, _⟩
          · exact ⟨_, hcs⟩
          · exact ⟨_, hcs⟩
        obtain ⟨v, rfl⟩ := hcs
        obtain ⟨xs, h1, h2, h3⟩ := trod_sl hu h.2 h.1 ht (hok v (List.mem_cons_self ..))
        exact ⟨(xs, ()), ⟨rfl, fun β i hi => by
          have : i = 0 := by simp [encL] at hi; omega
          subst this; exact h1⟩, ⟨h2, h3⟩, trivial⟩
      · cases h
    · rename_i fs hu
      simp only [Bool.and_eq_true, decide_eq_true_eq] at h
      obtain ⟨hl, n, rfl, xs, hxs⟩ := trod_struct_cells hu ht
      have := fields_cells (n := n) (fun t l cs x hc hx hg => trod_cells m t l n cs x hc hx hg) cs hok fs.toList 0 l h.2 (by rw [hl, h.1]; omega) (mapM_all hxs)
      simpa using this
    · cases h

/-! ### Arguments -/
def wfSh : (s : Sh) → s.Val → Prop
  | .a (.c s), x => wfC s x
  | .a (.agg l), x => wfCL l x
  | _, _ => True
def wfArgs : (l : List Sh) → ShLVal l → Prop
  | [], _ => True
  | s :: r, x => wfSh s x.1 ∧ wfArgs r x.2
def isStructB (P : Program) (t : TypeId) : Bool := match P.underlying t with
  | some (.struct _) => true
  | _ => false
def argChk (P : Program) (t : TypeId) : Sh → Bool
  | .a (.c s) => !isStructB P t && ctChk P 9 t [s]
  | .a (.agg l) => isStructB P t && ctChk P 9 t l
  | _ => false
def argsChk (P : Program) : List TypeId → List Sh → Bool
  | [], [] => true
  | t :: ts, s :: ss => argChk P t s && argsChk P ts ss
  | _, _ => false

theorem okW {t : TypeId} {v : Value} (h : Cell.okWide P w .any base t v) (hn : (∃ a len cap, v = .slice a len cap) ∨ (∃ cs, v = .agg cs) ∨ ∃ cs, v = .tuple cs) : Cell.ok P w .any base t v := by
  unfold Cell.okWide at h
  split at h
  all_goals first | exact h | (rcases hn with ⟨_, _, _, e⟩ | ⟨_, e⟩ | ⟨_, e⟩ <;> cases e)
theorem ok_slice {t : TypeId} {a : Addr} {len cap : Nat} (h : Cell.okWide P w .any base t (.slice (some a) len cap)) : ∃ e, w.has P .any base a e cap := by
  have h := okW h (.inl ⟨_, _, _, rfl⟩)
  unfold Cell.ok at h
  split at h
  all_goals first | exact h.elim | (rename_i e; cases e; done) | (rename_i e; cases e; exact ⟨_, h.2.2⟩)
theorem okWide_good {t : TypeId} {c : Value} (h : Cell.okWide P w .any base t c) : ∀ a len cap, c = .slice (some a) len cap → a.spot = none ∧ a.block < w.heap.size := by
  rintro a len cap rfl
  obtain ⟨e, _, h2, row, cells, h3, _⟩ := ok_slice h
  refine ⟨h2, ?_⟩
  unfold World.shape? at h3
  split at h3
  · rename_i hh
    exact (Array.getElem?_eq_some_iff.1 hh).1
  · cases h3
theorem okWide_agg {t : TypeId} {cs : Array Value} (h : Cell.okWide P w .any base t (.agg cs)) : False := by
  have h := okW h (.inr (.inl ⟨_, rfl⟩))
  unfold Cell.ok at h
  split at h
  all_goals first | exact h | (rename_i e; cases e)
theorem okWide_tup {t : TypeId} {cs : Array Value} (h : Cell.okWide P w .any base t (.tuple cs)) : False := by
  have h := okW h (.inr (.inr ⟨_, rfl⟩))
  unfold Cell.ok at h
  split at h
  all_goals first | exact h | (rename_i e; cases e)

theorem arg_sound {t : TypeId} {s : Sh} {v : Value} {d : DataW H} {ps : List MemPlace} (hc : argChk P t s = true) (h : DataW.Trod enc P w base spare held t v d ps) (hok : Value.okWide P w .any base t v) :
    ∃ x : s.Val, wfSh s x ∧ ∀ β, Rel β nobody w (s.enc x) v := by
  obtain ⟨fuel, h⟩ := h
  unfold argChk at hc
  split at hc
  · rename_i s0
    simp only [Bool.and_eq_true, Bool.not_eq_true'] at hc
    have hna : ∃ u, v.cells.toList = [u] ∧ v = u ∧ Cell.okWide P w .any base t u := by
      unfold Value.okWide at hok
      unfold isStructB at hc
      split at hok
      · rename_i fs hu; rw [hu] at hc; simp at hc
      · rename_i n e hu
        have h2 := hc.2
        unfold ctChk at h2; rw [hu] at h2; simp at h2
      · refine ⟨v, ?_, rfl, hok⟩
        cases v <;> first | rfl | exact (okWide_agg hok).elim | exact (okWide_tup hok).elim
    obtain ⟨u, hu1, rfl, hu2⟩ := hna
    rw [hu1] at h
    obtain ⟨x, ⟨_, h1⟩, h2⟩ := trod_cells 9 t [s0] fuel _ _ hc.2 h (fun y hy => by
      obtain rfl := List.mem_singleton.1 hy
      exact okWide_good hu2)
    refine ⟨x.1, h2.1, fun β => ?_⟩
    have hr := h1 β 0 (by simp [encL])
    simp only [List.getD, List.getElem?_cons_zero, Option.getD_some] at hr
    cases s0 <;> exact hr
  · rename_i l
    simp only [Bool.and_eq_true] at hc
    have hag : ∃ cs, v = .agg cs ∧ Row.okWide P w .any base t cs := by
      unfold Value.okWide at hok
      have h1 := hc.1
      unfold isStructB at h1
      split at h1
      · rename_i fs hu
        rw [hu] at hok
        obtain ⟨cs, e1, _, e2⟩ := hok
        exact ⟨cs, e1, e2⟩
      · cases h1
    obtain ⟨cs, rfl, ts, _, _, hrow⟩ := hag
    have e : (Value.agg cs).cells.toList = cs.toList := rfl
    rw [e] at h
    obtain ⟨x, ⟨hl, h1⟩, h2⟩ := trod_cells 9 t l fuel _ _ hc.2 h (fun y hy => by
      obtain ⟨i, hi, hiy⟩ := List.getElem_of_mem hy
      obtain ⟨u, _, hu⟩ := hrow i y (by rw [← hiy]; simp)
      exact okWide_good hu)
    refine ⟨x, h2, fun β => ⟨cs, rfl, by rw [encL_length]; simpa using hl, fun j hj => ?_⟩⟩
    have := h1 β j hj
    simpa [List.getD, Array.getD_eq_getD_getElem?] using this
  · cases hc

/-! ### A law -/
theorem args_sound : ∀ {ts : List TypeId} {ss : List Sh} {vs : List Value} {ds : List (DataW H)} {ps : List MemPlace}, argsChk P ts ss = true → DataW.TrodAll enc P w base spare held ts vs ds ps →
    (∀ (j : Nat) (t : TypeId) (v : Value), ts[j]? = some t → vs[j]? = some v → Value.okWide P w .any base t v) → ds.length = ss.length ∧
    ∃ x : ShLVal ss, wfArgs ss x ∧ vs.length = ss.length ∧ ∀ β i (h : i < (encS ss x).length), Rel β nobody w (encS ss x)[i] (vs.getD i undef)
  | [], [], vs, ds, ps, _, h, _ => by
    obtain ⟨rfl, rfl, _⟩ := trodAll_nil h
    exact ⟨rfl, (), trivial, rfl, fun β i hi => by simp [encS, encL] at hi⟩
  | t :: ts, s :: ss, vs, ds, ps, hc, h, hok => by
    simp only [argsChk, Bool.and_eq_true] at hc
    obtain ⟨v, vs', d, ds', p, q, rfl, rfl, rfl, h1, h2⟩ := trodAll_cons h
    obtain ⟨x, g1, g2⟩ := arg_sound hc.1 h1 (hok 0 t v rfl rfl)
    obtain ⟨e0, y, q1, q2, q3⟩ := args_sound hc.2 h2 (fun j t v a b => hok (j + 1) t v (by simpa using a) (by simpa using b))
    refine ⟨by simp [e0], (x, y), ⟨g1, q1⟩, by simp [q2], fun β i hi => ?_⟩
    cases i with
    | zero => exact g2 β
    | succ i => exact q3 β i (by simpa [encS, encL] using hi)
  | [], _ :: _, _, _, _, h, _, _ => by cases h
  | _ :: _, [], _, _, _, h, _, _ => by cases h

/-- The shapes of a law's arguments own nothing and refer to nothing. -/
def immC' : ShC → Bool
  | .int _ | .bool | .imm _ => true
  | _ => false
def immSh : Sh → Bool
  | .a (.c s) => immC' s
  | .a (.agg l) => l.all immC'
  | _ => false
theorem immC_names {s : ShC} {x : s.Val} (h : immC' s = true) : namesC (s.enc x) = [] ∧ noRefC (s.enc x) = true := by
  cases s <;> first | exact ⟨rfl, rfl⟩ | cases h
theorem immL_names : ∀ {l : List ShC} {x : valL ShC.Val l}, l.all immC' = true → (encL ShC.Val ShC.enc l x).flatMap namesC = [] ∧ (encL ShC.Val ShC.enc l x).all noRefC = true
  | [], _, _ => ⟨rfl, rfl⟩
  | s :: r, x, h => by
    simp only [List.all_cons, Bool.and_eq_true] at h
    obtain ⟨a, b⟩ := immC_names (x := x.1) h.1
    obtain ⟨c, d⟩ := immL_names (x := x.2) h.2
    simp [encL, a, b, c, d]
theorem immSh_names {s : Sh} {x : s.Val} (h : immSh s = true) : names (s.enc x) = [] ∧ noRef (s.enc x) = true := by
  unfold immSh at h
  split at h
  · rename_i s0
    obtain ⟨a, b⟩ := immC_names (x := x) h
    cases s0 <;> first | exact ⟨a, b⟩ | cases h
  · exact immL_names h
  · cases h
theorem immS_names : ∀ {ss : List Sh} {x : ShLVal ss}, ss.all immSh = true → (encS ss x).flatMap names = [] ∧ (encS ss x).all noRef = true
  | [], _, _ => ⟨rfl, rfl⟩
  | s :: r, x, h => by
    simp only [List.all_cons, Bool.and_eq_true] at h
    obtain ⟨a, b⟩ := immSh_names (x := x.1) h.1
    obtain ⟨c, d⟩ := immS_names (ss := r) (x := x.2) h.2
    simp only [encS] at c d
    simp [encS, encL, a, b, c, d]

theorem trodAll_lt {ts : List TypeId} {vs : List Value} {ds : List (DataW H)} {ps : List MemPlace} (h : DataW.TrodAll enc P w base spare held ts vs ds ps) : ∀ p ∈ ps, p.block < w.heap.size := by
  induction ts generalizing vs ds ps with
  | nil => obtain ⟨_, _, rfl⟩ := trodAll_nil h; intro p hp; cases hp
  | cons t ts ih =>
    obtain ⟨v, vs', d, ds', p, q, rfl, rfl, rfl, ⟨m, hm⟩, h2⟩ := trodAll_cons h
    intro x hx
    rcases List.mem_append.1 hx with hx | hx
    · exact DataW.trod_lt m _ _ _ hm x hx
    · exact ih h2 x hx
theorem trodAll_stays {w' : World} (hl : laidOutB P = true) (hb : ∀ k, k < w.heap.size → w'.heap[k]? = w.heap[k]?) :
    ∀ {ts : List TypeId} {vs : List Value} {ds : List (DataW H)} {ps : List MemPlace}, ts.all (fun t => P.readableRec t && decide (t < P.types.size)) = true → DataW.TrodAll enc P w 0 (fun _ => true) true ts vs ds ps →
    DataW.TrodAll enc P w' 0 (fun b => decide (b < w.heap.size)) true ts vs ds ps
  | [], vs, ds, ps, _, h => by obtain ⟨rfl, rfl, rfl⟩ := trodAll_nil h; exact rfl
  | t :: ts, vs, ds, ps, hr, h => by
    simp only [List.all_cons, Bool.and_eq_true, decide_eq_true_eq] at hr
    have hlt := trodAll_lt h
    obtain ⟨v, vs', d, ds', p, q, rfl, rfl, rfl, h1, h2⟩ := trodAll_cons h
    have hlt1 : ∀ x ∈ p, x.block < w.heap.size := fun x hx => hlt x (List.mem_append_left _ hx)
    refine trodAll_cons_mk (WideElems.Trod_stays hl hr.1.1 hr.1.2 h1 (fun x hx => ?_) (fun x hx => by simpa using hlt1 x hx)) (trodAll_stays hl hb (by simpa using hr.2) h2)
    cases x with
    | cell b o => exact World.cell?_of_block (w := w) (hb b (hlt1 _ hx))
    | map b => exact hb b (hlt1 _ hx)

theorem law_contract {f : FuncId} {fn : Func} {s : ChangeSpec} {apart fresh handsOn : Bool} {ss : List Sh} {tb : TypeId} (hl : laidOutB P = true) (hread : fn.params.toList.all (fun t => P.readableRec t && decide (t < P.types.size)) = true)
    (hchk : argsChk P fn.params.toList ss = true) (himm : ss.all immSh = true) (hvars : s.vars = []) (hres : fn.resultTypes = #[tb]) (htb : P.underlying tb = some .bool)
    (hs : ∀ ds : List (DataW H), ds.length = ss.length → s.fn H ds = { results := [.lit (.bool true)], args := ds })
    (HC : ∀ x : ShLVal ss, wfArgs ss x → ∃ outs, CallOK P f (encS ss x) (.bool true) outs) {vs : Array Value} {ds gs : List (DataW H)} {before : List MemPlace}
    (hval : ∀ (j : Nat) t v, fn.params[j]? = some t → vs[j]? = some v → Value.okWide P w .any base t v) (hW : DataW.Whole enc P fn.params.toList s.vars apart w vs.toList ds gs before) (hG : GlobOK P nobody w) :
    Calls P f vs w fun e w' => ∃ v, e = .returned v ∧ s.post enc P fn apart fresh handsOn false w vs v w' := by
  have hW' := hW
  obtain ⟨p, q, hA, hV, rfl, hfz, hnd⟩ := hW
  have hgs : gs = [] ∧ q = [] := by
    rw [hvars] at hV
    cases gs with
    | nil => exact ⟨rfl, hV⟩
    | cons g gs => exact hV.elim
  obtain ⟨rfl, rfl⟩ := hgs
  obtain ⟨hds, x, hx, hlen, hrel⟩ := args_sound hchk hA (fun j t v a b => hval j t v (by simpa using a) (by simpa using b))
  obtain ⟨outs, _, hcall⟩ := HC x hx
  obtain ⟨hn, hr⟩ := immS_names (x := x) himm
  have e0 : (encS ss x).length = ss.length := encL_length
  refine (hcall (fun _ => undef) nobody w vs (by rw [e0, ← hlen]; simp) (fun i hi => by
    have := hrel (fun _ => undef) i hi
    simpa [Array.getD_eq_getD_getElem?, List.getD] using this) (by rw [hn]; exact List.nodup_nil) (by rw [hn]; simp) hr (fun b n h => by cases h) hG).mono fun e w' hp => ?_
  obtain ⟨c, β', who', rfl, p1, p2, p3, p4, p5, p6, p7, p8, p9, p10, p11, p12⟩ := hp
  have hb : ∀ k, k < w.heap.size → w'.heap[k]? = w.heap[k]? := fun k hk => p7 k hk (.inl rfl)
  have hc : c = .bool true := p1
  subst hc
  refine ⟨_, rfl, ds, [], _, [], p, [], hW', ?_, ?_, ?_, ⟨p11, p12, fun i hi => ?_⟩, fun h => by cases h⟩
  · rw [hres, List.append_nil, hs ds hds]
    exact trodAll_mk1 (shut_bool htb _)
  · rw [List.append_nil, hs ds hds]
    exact trodAll_stays hl hb hread hA
  · rw [hvars, List.append_nil, hs ds hds]; rfl
  · rw [hb i hi]
    split <;> simp_all

/-! ### Package-level tables -/
theorem glob_nil (h : tabsOf P = []) : GlobOK P nobody w := fun x hx => by rw [h] at hx; cases hx
theorem mapM_idx {α β : Type} {f : α → Option β} : ∀ {l : List α} {r : List β}, l.mapM f = some r → ∀ i (h : i < l.length), ∃ y, f l[i] = some y ∧ r[i]? = some y
  | [], r, h, i, hi => by simp at hi
  | a :: l, r, h, i, hi => by
    rw [List.mapM_cons] at h
    cases ha : f a with
    | none => rw [ha] at h; cases h
    | some y =>
      rw [ha] at h
      cases hl : l.mapM f with
      | none => simp [hl] at h
      | some ys =>
        simp [hl] at h
        subst h
        cases i with
        | zero => exact ⟨y, ha, rfl⟩
        | succ i =>
          obtain ⟨z, g1, g2⟩ := mapM_idx hl i (by simpa using hi)
          exact ⟨z, g1, by simpa using g2⟩
theorem trod_tab {H : Type} {enc : TypeId × Value → H} {spare : Nat → Bool} {held : Bool} {fuel : Nat} {t e n : Nat} {k : IntKind} {cs : List Value} {xs : List Int} {p : List MemPlace} (hu : P.underlying t = some (.array n e)) (he : P.underlying e = some (.int k)) (hc : P.cellsOf e = 1)
    (h : DataW.trod enc P w base spare held fuel t cs = some (.agg (xs.map fun x => .lit (.int k x)), p)) : ∀ i (h : i < xs.length), cs[i]? = some (.int k xs[i]) := by
  cases fuel with
  | zero => simp [DataW.trod] at h
  | succ m =>
    unfold DataW.trod at h
    rw [hu] at h
    have key : (if cs.length = P.cellsOf t then ((List.range n).mapM fun i => DataW.trod enc P w base spare held m e ((cs.drop (i * P.cellsOf e)).take (P.cellsOf e))).map fun xs => ((.agg (xs.map (·.1)) : DataW H), xs.flatMap (·.2)) else none) = some (.agg (xs.map fun x => .lit (.int k x)), p) := by
      split at h <;> first | exact h | simp_all
    split at key
    · obtain ⟨ys, hys, e1⟩ := Option.map_eq_some_iff.1 key
      simp only [Prod.mk.injEq, DataW.agg.injEq] at e1
      obtain ⟨e1, _⟩ := e1
      intro i hi
      have hlen : ys.length = xs.length := by have := congrArg List.length e1; simpa using this
      have hln : ys.length = n := by have := mapM_some_length hys; simpa using this
      obtain ⟨y, g1, g2⟩ := mapM_idx hys i (by simp; omega)
      rw [List.getElem_range, hc, Nat.mul_one] at g1
      obtain ⟨z, q1, q2, _⟩ := DataW.trod_int he g1
      have e2 : (ys.map (·.1))[i]? = (xs.map fun x => (DataW.lit (.int k x) : DataW H))[i]? := by rw [e1]
      rw [List.getElem?_map, g2, List.getElem?_map, List.getElem?_eq_getElem hi] at e2
      simp only [Option.map_some, Option.some.injEq] at e2
      rw [q2] at e2
      simp only [DataW.lit.injEq, Lit.int.injEq, true_and] at e2
      have e3 : (cs.drop i)[0]? = some (.int k z) := by
        have : ((cs.drop i).take 1)[0]? = some (.int k z) := by rw [q1]; rfl
        rwa [List.getElem?_take_of_lt (by omega)] at this
      rw [List.getElem?_drop, Nat.add_zero] at e3
      rw [e3, e2]
    · cases key
theorem glob_tab {g : Nat} {k : IntKind} {xs : List Int} {name : String} {t e n : Nat} (ht : tabsOf P = [(g, k, xs)]) (hn : P.globalNamed name = some g) (hg : (P.globals[g]?).map (·.type) = some t) (hu : P.underlying t = some (.array n e)) (he : P.underlying e = some (.int k)) (hc : P.cellsOf e = 1) (h0 : 0 < xs.length)
    {d : DataW Unit} (hd : d = .agg (xs.map fun x => .lit (.int k x))) (hh : d.handleName? = none) (h : laidMetH P [(name, d)] w) : GlobOK P nobody w := by
  have h' : laidMet P [(name, d)] w := by
    unfold laidMetH at h
    simpa [hh] using h
  obtain ⟨ps, ⟨g', t', cs, fuel, p, q, a1, a2, a3, a4, _, _⟩, _, hcell⟩ := h'
  have : g' = g := Option.some.inj (a1.symm.trans hn)
  subst this
  have : t' = t := Option.some.inj (a2.symm.trans hg)
  subst this
  rw [hd] at a4
  have hcs := trod_tab hu he hc a4
  have hc2 : ∀ i (h : i < xs.length), w.cell? ⟨g', i, none⟩ = some (.int k xs[i]) := fun i hi => by
    have := World.var?_cell hn a3 i
    rw [this, ← hcs i hi]; simp
  intro x hx
  rw [ht] at hx
  obtain rfl := List.mem_singleton.1 hx
  refine ⟨rfl, ?_, hc2⟩
  have := hc2 0 h0
  unfold World.cell? at this
  rcases Nat.lt_or_ge g' w.heap.size with h | h
  · exact h
  · simp [Array.getElem?_eq_none h] at this
end
end Go.Vs
