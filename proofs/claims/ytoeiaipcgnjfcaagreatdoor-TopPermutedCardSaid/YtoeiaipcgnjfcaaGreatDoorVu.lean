/- slices.Collect of slices.Values: the slice's elements in a slice of its own (lines of two worked proofs, turned to this seat by gen/mkit.py). -/
import Derived.RangeFuncGives
import Derived.RangeFuncBox
import Derived.RangeFuncLeaves
import Derived.Maps.AppendAt
import Derived.Shelf.Abstract
import Derived.WalkKit
import Derived.OwnWalkIn
import Derived.TacticsInMore
import Derived.RegionIn
import Derived.LoopNIn
import Derived.LoopIn
import Derived.KernelRfl
import Derived.Test.YtoeiaipcgnjfcaaGreatDoorProg
set_option linter.unusedVariables false
set_option linter.unusedSimpArgs false
set_option linter.unusedSectionVars false
set_option linter.defProp false
namespace Go.Proofs
open Go.RowKit Go.Maps Go.Shelf
attribute [local go_sem] Oper.semAt_some

/-- What an iterator gives to a loop that keeps all that lay there. -/
def SeqGivesB {α : Type} (F : Fence) (n : Nat) (P : Program) (g : Nat) (lb : Array Value) (enc : α → Value) (S : List α → Prop) (N : Nat) (w : World) : Prop :=
  ∀ (l : Nat) (J : List α → World → Prop) (W : World), Below w.heap.size w W → AbidesFrom W.heap.size J → (∀ pre W1, J pre W1 → Below w.heap.size w W1) →
    (∀ pre x W1, J pre W1 → pre.length < N → YieldAt F (n - 1) P l #[enc x] W1 fun e W' => e = .returned (.bool true) ∧ J (pre ++ [x]) W' ∧ KeepsWalks W1 W') →
    J [] W →
    CallsIn F n P g (#[.func (.yield l) #[] #[]] ++ lb) W fun e W' => (∃ v, e = .returned v) ∧ ∃ xs, S xs ∧ J xs W'

def It.apAssign : Code := (Code.region 2 #[{ dst := some 5, op := Op.assign (Operand.tmp 7), type := 3, pos := "iter.go:51", after := #[], guard := none }] false)
def It.apBody : Code := (Code.block 1 (Code.region 3 #[{ dst := some 8, op := Op.load 22 (Operand.tmp 2), type := 22, pos := "iter.go:52", after := #[], guard := none }, { dst := some 9, op := Op.move (Operand.tmp 5), type := 3, pos := "iter.go:52", after := #[], guard := none }, { dst := some 10, op := Op.buildSlice 22 1 #[(0, Operand.tmp 9)], type := 22, pos := "iter.go:52", after := #[{ on := 1, ground := Ground.data }], guard := none }, { dst := some 11, op := Op.call { callee := Callee.builtin Builtin.append, args := #[Operand.tmp 8, Operand.tmp 10], argTypes := #[22, 22] }, type := 22, pos := "iter.go:52", after := #[{ on := 0, ground := Ground.data }, { on := 2, ground := Ground.data }], guard := none }, { dst := none, op := Op.store 22 (Operand.tmp 2) (Operand.tmp 11), type := 0, pos := "iter.go:52", after := #[{ on := 3, ground := Ground.data }, { on := 3, ground := Ground.chain }, { on := 0, ground := Ground.phase }, { on := 1, ground := Ground.phase }, { on := 2, ground := Ground.phase }, { on := 3, ground := Ground.phase }], guard := none }] false))
def It.apRec (fn : FuncId) (sv : Value) (Bs D : Nat) (st : LoopState) (pend : Option Code) : Loop :=
  { state := st, pending := pend, fn, tmps := #[.slice none 0 0, sv, .pointer (some ⟨Bs, 0, none⟩), undef, .slice none 0 0, undef, sv, undef, undef, undef, undef, undef, undef], params := #[7], assign := It.apAssign, body := It.apBody, defers := D }

structure It.ApAt (w0 : World) (fn : FuncId) (sv : Value) (Bs l D : Nat) (ss : List Int) (W : World) : Prop where
  box : ∃ v, W.heap[Bs]? = some (.cells #[v] 22 (0, 0)) ∧ W.ownsRow w0.heap.size 3 1 v ss.length (ss.map (Value.int .i64)) ∧ (v = .slice none 0 0 ↔ ss = [])
  L : W.heap[l]? = some (.loop (It.apRec fn sv Bs D .ready none))
  K : W.heap[D]? = some (.deferred (some []))
  below : Below w0.heap.size w0 W

theorem ownsRow_abides {W W' : World} {row : Option Nat} {base : Nat} {e : TypeId} {size : Nat} {v : Value} {k : Nat} {xs : List Value} (h : W.ownsRow base e size v k xs) (hg : W.grownBy W' row)
    (hrow : ∀ r, row = some r → ∃ o : Obj, W.heap[r]? = some o ∧ o.isWalk = true) : W'.ownsRow base e size v k xs := by
  refine h.kept hg ?_
  rcases h.2 with ⟨rfl, _⟩ | ⟨g, cap, cur, rfl, _, hgb, _⟩
  · exact .inl rfl
  · refine .inr fun e' => ?_
    obtain ⟨o, ho, hw⟩ := hrow g (by simpa [Value.ownBlock] using e'.symm)
    rw [hgb] at ho; cases ho; cases hw

theorem It.ap_abides (w0 : World) (fn : FuncId) (sv : Value) (Bs l D B : Nat) (hB : w0.heap.size ≤ B) : AbidesFrom B (It.ApAt w0 fn sv Bs l D) := fun s W W' row h hg hrow => by
  have hrow' : ∀ r, row = some r → ∃ o : Obj, W.heap[r]? = some o ∧ o.isWalk = true := fun r e => (hrow r e).2
  obtain ⟨v, hv, hr, hn⟩ := h.box
  exact ⟨⟨v, (grownBy_keeps hg hrow' hv rfl).trans hv, ownsRow_abides hr hg hrow', hn⟩, (grownBy_keeps hg hrow' h.L rfl).trans h.L, (grownBy_keeps hg hrow' h.K rfl).trans h.K,
    h.below.grown hg h.below.size (fun k e => Nat.le_trans hB (hrow k e).1)⟩

theorem grownBy_putObj (W : World) (l : Nat) (o : Obj) : W.grownBy (W.putObj l o) (some l) :=
  ⟨rfl, rfl, rfl, by simp, fun k _ hk => World.putObj_heap_other (fun e => hk (by rw [e]))⟩
theorem grownBy_setCell0 (W : World) (b : Nat) (v : Value) : W.grownBy (W.setCell ⟨b, 0, none⟩ v) (some b) :=
  ⟨rfl, rfl, rfl, (KeepsWalks.setCell W _ v).size, fun k _ hk => Below.heap_setCell _ _ _ k (fun e => hk (by rw [e]))⟩
theorem ownsRow_ne {W : World} {base : Nat} {e : TypeId} {size : Nat} {v : Value} {k : Nat} {xs : List Value} (h : W.ownsRow base e size v k xs) {j : Nat} {o : Obj} (hj : W.heap[j]? = some o) (hno : ∀ cur, o ≠ .cells cur e (0, 0)) :
    v.ownBlock = none ∨ v.ownBlock ≠ some j := by
  rcases h.2 with ⟨rfl, _⟩ | ⟨g, cap, cur, rfl, _, hgb, _⟩
  · exact .inl rfl
  · refine .inr fun e' => ?_
    have : g = j := by simpa [Value.ownBlock] using e'
    subst this; rw [hgb] at hj; cases hj; exact hno cur rfl
theorem cell_of_box {W : World} {B : Nat} {v : Value} {t : TypeId} (h : W.heap[B]? = some (.cells #[v] t (0, 0))) : W.cell? ⟨B, 0, none⟩ = some v ∧ W.frozen? ⟨B, 0, none⟩ = false := by
  constructor <;> simp [World.cell?, World.frozen?, h]

theorem heap_setCell_box {W : World} {B : Nat} {v : Value} {t : TypeId} (v' : Value) (h : W.heap[B]? = some (.cells #[v] t (0, 0))) : (W.setCell ⟨B, 0, none⟩ v').heap[B]? = some (.cells #[v'] t (0, 0)) := by
  obtain ⟨hlt, hk⟩ := Array.getElem?_eq_some_iff.1 h
  show (W.heap.modify B _)[B]? = _
  rw [Array.getElem?_eq_getElem (by rw [Array.size_modify]; exact hlt), Array.getElem_modify_self, hk]
  rfl
theorem ownsRow_not_walk {W : World} {base : Nat} {e : TypeId} {size : Nat} {v : Value} {k : Nat} {xs : List Value} (h : W.ownsRow base e size v k xs) : ∀ (j : Nat) (o : Obj), v.ownBlock = some j → W.heap[j]? = some o → o.isWalk = false := by
  intro j o hj ho
  rcases h.2 with ⟨rfl, _⟩ | ⟨g, cap, cur, rfl, _, hgb, _⟩
  · simp [Value.ownBlock] at hj
  · have : g = j := by simpa [Value.ownBlock] using hj
    subst this; rw [hgb] at ho; cases ho; rfl

theorem It.info : (Tryz.prog.info? 3).map (fun i => (i.zero, i.size, i.bytes)) = some (some (.int .i64 0), 1, 8) := by kernel_rfl

set_option maxRecDepth 100000 in
set_option maxHeartbeats 2000000 in
theorem It.apYield (F : Fence) (m : Nat) (w0 : World) (fn : FuncId) (hfn : F.fn fn) (sv : Value) (Bs l D : Nat) (hBl : Bs ≠ l) (hDl : D ≠ l) (hDB : D ≠ Bs) (h0B : w0.heap.size ≤ Bs) (h0l : w0.heap.size ≤ l)
    (N : Nat) (hN : N ≤ maxLen) (hNb : N * 8 ≤ 140737488355328) (ss : List Int) (x : Int) (W : World) (h : It.ApAt w0 fn sv Bs l D ss W) (hlen : ss.length < N) :
    YieldAt F m Tryz.prog l #[(Value.int .i64 x)] W fun e W' => e = .returned (.bool true) ∧ It.ApAt w0 fn sv Bs l D (ss ++ [x]) W' ∧ KeepsWalks W W' := by
  obtain ⟨i0, hi, hz0, hz1, hz2⟩ := info_parts It.info
  obtain ⟨v, hv, hrow, _⟩ := h.box
  refine ⟨fn, #[.slice none 0 0, sv, .pointer (some ⟨Bs, 0, none⟩), undef, .slice none 0 0, undef, sv, (Value.int .i64 x), undef, undef, undef, undef, undef], It.apAssign, It.apBody, by simpa [It.apRec] using run_yield (P := Tryz.prog) (args := #[(Value.int .i64 x)]) h.L rfl, roundIn_of_wpIn hfn ?_⟩
  have hl : l < W.heap.size := (Array.getElem?_eq_some_iff.1 h.L).1
  have hbr := run_beginRound (P := Tryz.prog) h.L rfl
  obtain ⟨W2, hW2⟩ : ∃ W2, W.putObj l (.loop { It.apRec fn sv Bs D .ready none with state := .busy }) = W2 := ⟨_, rfl⟩
  rw [hW2] at hbr
  have hg2 : W.grownBy W2 (some l) := by rw [← hW2]; exact grownBy_putObj _ _ _
  have hk2 : KeepsWalks W W2 := by rw [← hW2]; exact KeepsWalks.putObj _ h.L rfl
  have hv2 : W2.heap[Bs]? = some (.cells #[v] 22 (0, 0)) := by rw [← hW2]; exact (World.putObj_heap_other hBl).trans hv
  have hK2 : W2.heap[D]? = some (.deferred (some [])) := by rw [← hW2]; exact (World.putObj_heap_other hDl).trans h.K
  have hL2 : W2.heap[l]? = some (.loop { It.apRec fn sv Bs D .ready none with state := .busy }) := by rw [← hW2]; exact World.putObj_heap_same hl
  have hrow2 : W2.ownsRow w0.heap.size 3 1 v ss.length (ss.map (Value.int .i64)) := hrow.kept hg2 (ownsRow_ne hrow h.L (fun cur e => by cases e))
  have hb2 : Below w0.heap.size w0 W2 := h.below.grown hg2 h.below.size (fun k e => by cases e; exact h0l)
  obtain ⟨hc2, hf2⟩ := cell_of_box hv2
  have hBlt : Bs < W2.heap.size := (Array.getElem?_eq_some_iff.1 hv2).1
  have hl2 : l < W2.heap.size := (Array.getElem?_eq_some_iff.1 hL2).1
  have hDlt : D < W2.heap.size := (Array.getElem?_eq_some_iff.1 hK2).1
  have ne_of : ∀ {j : Nat} {o : Obj}, W2.heap[j]? = some o → (∀ cur, o ≠ .cells cur 3 (0, 0)) → some j ≠ v.ownBlock := fun hj hno => by
    rcases ownsRow_ne hrow2 hj hno with e | e
    · rw [e]; simp
    · exact fun e' => e e'.symm
  clear hW2
  unfold It.apAssign
  gi_wp2_with (rw [Oper.semAt_eq _ _ _ (fun c h => by cases h)]; go_simp; try go_bits)
  unfold It.apBody
  gi_wp2_with (first
    | (gi_at_builtin; refine wpListIn_append_own _ rfl _ _ 22 rfl w0.heap.size 3 i0 (.int .i64 0) 1 8 Tryz.underlying22 hi hz0 hz1 hz2 rfl (by decide) _ _ _ rfl (hrow2.alloc _) ⟨W2.heap.size, 0, none⟩ 1 1 [(Value.int .i64 x)] rfl rfl (cell_one_new _ _ _) (by simp [Value.oneCell']) (by omega) (by omega) (by have := hb2.size; simp; omega) ?_; intro v' w3 hown' hg3 hnil3
       have hv3 : w3.heap[Bs]? = some (.cells #[v] 22 (0, 0)) := (hg3.block Bs (by simp; omega) (ne_of hv2 (fun cur e => by cases e))).trans ((Below.heap_alloc _ _ Bs hBlt).trans hv2)
       obtain ⟨hc3, hf3⟩ := cell_of_box hv3
       obtain ⟨g', cap', cur', rfl, hbase', hgb', hr1, hr2, hr3, hr4⟩ : ∃ g' cap' cur', v' = .slice (some ⟨g', 0, none⟩) (ss.length + 1) cap' ∧ w0.heap.size ≤ g' ∧ w3.heap[g']? = some (.cells cur' 3 (0, 0)) ∧ ss.length + 1 ≤ cap' ∧ cap' ≤ maxLen ∧ cur'.size = cap' * 1 ∧ cur'.toList.take ((ss.length + 1) * 1) = ss.map (Value.int .i64) ++ [(Value.int .i64 x)] := by
         rcases hown'.2 with ⟨_, h0⟩ | h'
         · exact absurd h0 (by omega)
         · exact h'
       simp only [Act.put, List.setIfInBounds_toArray, List.set_cons_succ, List.set_cons_zero])
    | (rw [Oper.semAt_eq _ _ _ (fun c h => by cases h)]; go_simp; try go_bits))
  have hg3' : (W2.alloc (.cells #[(Value.int .i64 x)] 3)).grownBy w3 v.ownBlock := hg3
  have hL3 : w3.heap[l]? = some (.loop { It.apRec fn sv Bs D .ready none with state := .busy }) := (hg3'.block l (by simp; omega) (ne_of hL2 (fun cur e => by cases e))).trans ((Below.heap_alloc _ _ l hl2).trans hL2)
  have hK3 : w3.heap[D]? = some (.deferred (some [])) := (hg3'.block D (by simp; omega) (ne_of hK2 (fun cur e => by cases e))).trans ((Below.heap_alloc _ _ D hDlt).trans hK2)
  obtain ⟨w4, hw4⟩ : ∃ w4, w3.setCell ⟨Bs, 0, none⟩ (.slice (some ⟨g', 0, none⟩) (ss.length + 1) cap') = w4 := ⟨_, rfl⟩
  rw [hw4]
  have hg4 : w3.grownBy w4 (some Bs) := by rw [← hw4]; exact grownBy_setCell0 _ _ _
  have hv4 : w4.heap[Bs]? = some (.cells #[.slice (some ⟨g', 0, none⟩) (ss.length + 1) cap'] 22 (0, 0)) := by rw [← hw4]; exact heap_setCell_box _ hv3
  have hL4 : w4.heap[l]? = some (.loop { It.apRec fn sv Bs D .ready none with state := .busy }) := (hg4.block l (Array.getElem?_eq_some_iff.1 hL3).1 (fun e => hBl (by cases e; rfl))).trans hL3
  have hK4 : w4.heap[D]? = some (.deferred (some [])) := (hg4.block D (Array.getElem?_eq_some_iff.1 hK3).1 (fun e => hDB (by cases e; rfl))).trans hK3
  have hrow4 := hown'.kept hg4 (ownsRow_ne hown' hv3 (fun cur e => by cases e))
  have hl4 : l < w4.heap.size := (Array.getElem?_eq_some_iff.1 hL4).1
  have hb3 : Below w0.heap.size w0 w3 := (hb2.alloc hb2.size _).grown hg3' (by have := hb2.size; simp; omega) (fun k e => (hrow2.lt k e).1)
  have hb4 : Below w0.heap.size w0 w4 := hb3.grown hg4 hb3.size (fun k e => by cases e; exact h0B)
  have hk4 : KeepsWalks W w4 := ((hk2.trans (KeepsWalks.alloc _ _)).trans (KeepsWalks.of_grownBy hg3' (ownsRow_not_walk (hrow2.alloc _)))).trans (by rw [← hw4]; exact KeepsWalks.setCell _ _ _)
  clear hw4
  refine ⟨_, _, run_endRound none hL4, rfl, ⟨⟨_, (World.putObj_heap_other hBl).trans hv4, ?_, by simp⟩, World.putObj_heap_same hl4, (World.putObj_heap_other hDl).trans hK4, hb4.grown (grownBy_putObj _ _ _) hb4.size (fun k e => by cases e; exact h0l)⟩, hk4.trans (KeepsWalks.putObj _ hL4 rfl)⟩
  have := hrow4.kept (grownBy_putObj w4 l (.loop { { It.apRec fn sv Bs D .ready none with state := .busy } with state := if (none : Option Code).isNone then .ready else .done, pending := none })) (ownsRow_ne hrow4 hL4 (fun cur e => by cases e))
  simpa using this


set_option maxRecDepth 100000 in
set_option maxHeartbeats 2000000 in
theorem It.appendSeq_in (F : Fence) (n : Nat) (h11 : F.fn 362) (hro : F.round = none) (hn : 2 ≤ n) (g : Nat) (lb : Array Value) (hFg : F.fn g) (eg : ∀ args w, (callFunc g args).run Tryz.prog w = .ok (.enter g args) w)
    (S : List Int → Prop) (N : Nat) (hN : N ≤ maxLen) (hNb : N * 8 ≤ 140737488355328) (w : World) (hseq : SeqGivesB F (n - 1) Tryz.prog g lb (Value.int .i64) S N w) :
    CallsIn F n Tryz.prog 362 #[.slice none 0 0, .func (.func g) #[] lb] w fun e w' => ∃ (v : Value) (ss : List Int), e = .returned v ∧ S ss ∧ w'.ownsRow w.heap.size 3 1 v ss.length (ss.map (Value.int .i64)) ∧ (v = .slice none 0 0 ↔ ss = []) ∧ Below w.heap.size w w' := by
  have h1 : 1 ≤ n := by omega
  refine callsIn_of_wp_marks Tryz.func362 rfl h11 ?_ hro
  simp only [Tryz.ntmps362, List.size_toArray, List.length_cons, List.length_nil, Nat.reduceAdd, Nat.reduceSub, Array.replicate_succ, Array.replicate_zero, List.push_toArray, List.append_toArray, List.nil_append, List.cons_append]
  gi_wp2
  refine wpIn_rangeFunc ?_
  intro fn hfn
  rw [hro]
  obtain ⟨W0, hW0⟩ : ∃ W0, w.alloc (.cells #[.slice none 0 0] 22) = W0 := ⟨_, rfl⟩
  have hs0 : W0.heap.size = w.heap.size + 1 := by rw [← hW0]; simp
  have hv0 : W0.heap[w.heap.size]? = some (.cells #[.slice none 0 0] 22 (0, 0)) := by rw [← hW0]; exact World.alloc_heap_new w _
  have hb0 : Below w.heap.size w W0 := by rw [← hW0]; exact (Below.refl _ w).alloc (Nat.le_refl _) _
  rw [hW0]
  obtain ⟨W1, hW1⟩ : ∃ W1, (W0.alloc (.deferred (some []))).alloc (.loop (It.apRec fn (.func (.func g) #[] lb) w.heap.size W0.heap.size .ready none)) = W1 := ⟨_, rfl⟩
  have hold : ∀ k, k < W0.heap.size → W1.heap[k]? = W0.heap[k]? := fun k hk => by
    rw [← hW1]; exact (Below.heap_alloc _ _ k (by simp; omega)).trans (Below.heap_alloc _ _ k hk)
  have hb1 : Below w.heap.size w W1 := by rw [← hW1]; exact (hb0.alloc hb0.size _).alloc (by have := hb0.size; simp; omega) _
  have hs1 : W1.heap.size = W0.heap.size + 2 := by rw [← hW1]; simp
  have hM : It.ApAt w fn (.func (.func g) #[] lb) w.heap.size (W0.heap.size + 1) W0.heap.size [] W1 :=
    ⟨⟨_, (hold w.heap.size (by omega)).trans hv0, ⟨rfl, .inl ⟨rfl, rfl⟩⟩, by simp⟩,
     by rw [← hW1]; have := World.alloc_heap_new (W0.alloc (.deferred (some []))) (.loop (It.apRec fn (.func (.func g) #[] lb) w.heap.size W0.heap.size .ready none)); rwa [World.size_alloc] at this,
     by rw [← hW1]; exact (Below.heap_alloc _ _ _ (by simp)).trans (World.alloc_heap_new W0 _), hb1⟩
  refine ⟨W0.heap.size + 1, [{ target := .collected W0.heap.size, args := #[] }], W1, { target := .fn (.func g) lb, args := #[.func (.yield (W0.heap.size + 1)) #[] #[]] }, W1, g,
    #[.func (.yield (W0.heap.size + 1)) #[] #[]] ++ lb, W1, ?_, ?_, ?_, ?_, fun _ => h1, ?_⟩
  · rw [← hW1]; exact run_enterLoop_outer _ _ _ _ _
  · simp [resolve, go_sem]
  · intro f' hf'; simp [Target.leads] at hf'; subst hf'; exact hFg
  · simp [invoke, go_sem, eg]
  · refine (hseq (W0.heap.size + 1) (It.ApAt w fn (.func (.func g) #[] lb) w.heap.size (W0.heap.size + 1) W0.heap.size) W1 hb1 (It.ap_abides _ _ _ _ _ _ _ hb1.size) (fun pre W1 h => h.below)
      (fun pre x W hJ hl => It.apYield F (n - 1 - 1) w fn hfn _ w.heap.size (W0.heap.size + 1) W0.heap.size (by omega) (by omega) (by omega) (Nat.le_refl _) (by omega) N hN hNb pre x W hJ hl) hM).mono ?_
    rintro e W2 ⟨⟨v0, rfl⟩, ss, hS, h2⟩
    obtain ⟨v, hv, hrow, hnil⟩ := h2.box
    have hend := run_endLoop (P := Tryz.prog) h2.L (by simp [It.apRec])
    obtain ⟨W3, hW3⟩ : ∃ W3, W2.putObj (W0.heap.size + 1) (.loop { It.apRec fn (.func (.func g) #[] lb) w.heap.size W0.heap.size .ready none with state := .exhausted }) = W3 := ⟨_, rfl⟩
    rw [hW3] at hend
    have hg3 : W2.grownBy W3 (some (W0.heap.size + 1)) := by rw [← hW3]; exact grownBy_putObj _ _ _
    have hv3 : W3.heap[w.heap.size]? = some (.cells #[v] 22 (0, 0)) := by rw [← hW3]; exact (World.putObj_heap_other (by omega)).trans hv
    have hK3 : W3.heap[W0.heap.size]? = some (.deferred (some [])) := by rw [← hW3]; exact (World.putObj_heap_other (by omega)).trans h2.K
    have hrow3 := hrow.kept hg3 (ownsRow_ne hrow h2.L (fun cur e => by cases e))
    have hb3 : Below w.heap.size w W3 := h2.below.grown hg3 h2.below.size (fun k e => by cases e; omega)
    obtain ⟨hc3, hf3⟩ := cell_of_box hv3
    clear hW3
    refine ⟨none, W3, hend, ?_⟩
    gi_wp2
    rw [← hs0]
    refine ⟨by simp, .inl ⟨_, _, rfl, run_takeDeferred hK3, ?_⟩⟩
    exact ⟨_, results_tmp rfl _ _ _, v, ss, rfl, hS, hrow3.kept (grownBy_putObj _ _ _) (ownsRow_ne hrow3 hK3 (fun cur e => by cases e)), hnil, hb3.grown (grownBy_putObj _ _ _) hb3.size (fun k e => by cases e; omega)⟩



def It.upto {α : Type} (f : Nat → α) (k : Nat) : List α := (List.range k).map f
theorem It.upto_succ {α : Type} (f : Nat → α) (k : Nat) : It.upto f (k + 1) = It.upto f k ++ [f k] := by simp [It.upto, List.range_succ]
theorem It.upto_length {α : Type} (f : Nat → α) (k : Nat) : (It.upto f k).length = k := by simp [It.upto]
theorem It.upto_all (zs : List Int) : It.upto (fun j => zs[j]?.getD 0) zs.length = zs := by
  apply List.ext_getElem
  · simp [It.upto]
  · intro i h1 h2
    simp [It.upto, h2]

set_option maxRecDepth 100000 in
set_option maxHeartbeats 2000000 in
theorem It.values1_in (F : Fence) (n : Nat) (h7 : F.fn 351) (hro : F.round = none) (hn : 1 ≤ n) (l Bs qo n₀ b off len cap : Nat) (zs : List Int) (hreach : len * 8 ≤ 140737488351232) (hb : b < n₀) (J Jx : List Int → World → Prop)
    (hY : ∀ pre x W, J pre W → pre.length < len → YieldAt F (n - 1) Tryz.prog l #[.int .i64 x] W fun e W' =>
      (e = .returned (.bool true) ∧ J (pre ++ [x]) W' ∧ Below n₀ W W') ∨ (e = .returned (.bool false) ∧ Jx (pre ++ [x]) W'))
    (W : World) (hBs : W.cell? ⟨Bs, qo, none⟩ = some (.slice (some ⟨b, off, none⟩) len cap)) (hc : ∀ j, j < len → W.cell? ⟨b, off + j, none⟩ = some (.int .i64 (zs[j]?.getD 0))) (h0 : J [] W) :
    CallsIn F n Tryz.prog 351 #[.func (.yield l) #[] #[], .pointer (some ⟨Bs, qo, none⟩)] W fun e W' => (∃ v, e = .returned v) ∧
      ((∃ ys, ys = It.upto (fun j => zs[j]?.getD 0) len ∧ J ys W') ∨ (∃ pre, (∃ k, k ≤ len ∧ pre = It.upto (fun j => zs[j]?.getD 0) k) ∧ Jx pre W')) := by
  refine callsIn_of_wp Tryz.func351 rfl h7 ?_ hro
  simp only [Tryz.ntmps351, List.size_toArray, List.length_cons, List.length_nil, Nat.reduceAdd, Nat.reduceSub, Array.replicate_succ, Array.replicate_zero, List.push_toArray, List.append_toArray, List.nil_append, List.cons_append]
  gi_wp2
  gi_loopw [7] (fun i wr => ∃ k : Nat, k ≤ len ∧ i = .int .i64 k ∧ J (It.upto (fun j => zs[j]?.getD 0) k) wr ∧ Below n₀ W wr)
    (fun i _ => len - (intOf i).toNat)
  case atStart => exact ⟨0, Nat.zero_le _, rfl, h0, Below.refl _ _⟩
  case round =>
    obtain ⟨k, hk, rfl, hJs, hnx⟩ := hrel
    have hcx : k < len → wr.cell? ⟨b, off + k, none⟩ = some (.int .i64 (zs[k]?.getD 0)) := fun h => (hnx.cell (p := ⟨b, off + k, none⟩) hb).trans (hc k h)
    by_cases hlt : k < len
    · obtain ⟨fn, tmps, assign, body, hy, hR⟩ := hY _ (zs[k]?.getD 0) wr hJs (by rw [It.upto_length]; exact hlt)
      have hcx' := hcx hlt
      gi_wp2
      refine hR.mono ?_
      rintro e W3 (⟨rfl, hJ3, hk3⟩ | ⟨rfl, hJx3⟩)
      · -- THE ROUND GOES ON
        gi_wp2
        go_roundw
        case rel => exact ⟨k + 1, by omega, by simp, by rw [It.upto_succ]; exact hJ3, hnx.trans hk3⟩
        case measure => simp [intOf]; omega
      · gi_wp2
        refine bodyPost_ret (results_none rfl _ _ _) rfl ?_
        exact ⟨⟨_, rfl⟩, .inr ⟨_, ⟨k + 1, by omega, (It.upto_succ _ _).symm⟩, hJx3⟩⟩
    · obtain rfl : k = len := by omega
      gi_wp2
      go_end0
      exact ⟨⟨_, rfl⟩, .inl ⟨_, rfl, hJs⟩⟩

theorem It.upto_take (zs : List Int) {k : Nat} (hk : k ≤ zs.length) : It.upto (fun j => zs[j]?.getD 0) k = zs.take k := by
  apply List.ext_getElem
  · simp [It.upto, hk]
  · intro i h1 h2
    have : i < zs.length := by simp [It.upto] at h1; omega
    simp [It.upto, this]

def It.Ints (n₀ : Nat) (W : World) (sv : Value) (zs : List Int) : Prop :=
  (sv = .slice none 0 0 ∧ zs = []) ∨ ∃ b off cap, sv = .slice (some ⟨b, off, none⟩) zs.length cap ∧ b < n₀ ∧ ∀ j, j < zs.length → W.cell? ⟨b, off + j, none⟩ = some (.int .i64 (zs[j]?.getD 0))
theorem It.Ints.below {n₀ : Nat} {A B : World} (h : Below n₀ A B) {sv : Value} {zs : List Int} : It.Ints n₀ A sv zs → It.Ints n₀ B sv zs
  | .inl e => .inl e
  | .inr ⟨b, off, cap, e, hb, hc⟩ => .inr ⟨b, off, cap, e, hb, fun j hj => (h.cell (p := ⟨b, off + j, none⟩) hb).trans (hc j hj)⟩

set_option maxRecDepth 100000 in
set_option maxHeartbeats 1000000 in
theorem It.values1_nil_in (F : Fence) (n : Nat) (h7 : F.fn 351) (hro : F.round = none) (l Bs qo : Nat) (J : List Int → World → Prop) (W : World) (hBs : W.cell? ⟨Bs, qo, none⟩ = some (.slice none 0 0)) (h0 : J [] W) :
    CallsIn F n Tryz.prog 351 #[.func (.yield l) #[] #[], .pointer (some ⟨Bs, qo, none⟩)] W fun e W' => (∃ v, e = .returned v) ∧ J [] W' := by
  refine callsIn_of_wp Tryz.func351 rfl h7 ?_ hro
  simp only [Tryz.ntmps351, List.size_toArray, List.length_cons, List.length_nil, Nat.reduceAdd, Nat.reduceSub, Array.replicate_succ, Array.replicate_zero, List.push_toArray, List.append_toArray, List.nil_append, List.cons_append]
  gi_wp2
  gi_loopw [7] (fun i wr => i = .int .i64 0 ∧ J [] wr) (fun _ _ => 0)
  case atStart => exact ⟨rfl, h0⟩
  case round =>
    obtain ⟨rfl, hJs⟩ := hrel
    gi_wp2
    go_end0
    exact ⟨⟨_, rfl⟩, hJs⟩


theorem It.values_gives (F : Fence) (n : Nat) (h7 : F.fn 351) (hro : F.round = none) (hn : 1 ≤ n) (Bs qo : Nat) (sv : Value) (zs : List Int) (hreach : zs.length * 8 ≤ 140737488351232) (w : World) (hBs : Bs < w.heap.size)
    (hc : w.cell? ⟨Bs, qo, none⟩ = some sv) (hI : It.Ints w.heap.size w sv zs) :
    SeqGivesB F n Tryz.prog 351 #[.pointer (some ⟨Bs, qo, none⟩)] (Value.int .i64) (fun ys => ys = zs) zs.length w := fun l J W hW hJ hB hY h0 => by
  have hc' := (hW.cell (p := ⟨Bs, qo, none⟩) hBs).trans hc
  rcases hI.below hW with ⟨rfl, rfl⟩ | ⟨b, off, cap, rfl, hb, hcs⟩
  · exact (It.values1_nil_in F n h7 hro l Bs qo J W hc' h0).mono fun e W' ⟨he, hj⟩ => ⟨he, _, rfl, hj⟩
  · refine (It.values1_in F n h7 hro hn l Bs qo w.heap.size b off zs.length cap zs hreach hb J (fun _ _ => False) (fun pre x W1 hj hlt => ?_) W hc' hcs h0).mono ?_
    · obtain ⟨fn, tmps, assign, body, hy, hR⟩ := hY pre x W1 hj hlt
      refine ⟨fn, tmps, assign, body, hy, hR.mono ?_⟩
      rintro e W2 ⟨he, hj2, hk⟩
      have b1 := hB _ _ hj
      have b2 := hB _ _ hj2
      exact .inl ⟨he, hj2, ⟨b2.os.trans b1.os.symm, b2.tape.trans b1.tape.symm, b2.output.trans b1.output.symm, hk.size, fun k hk => (b2.block k hk).trans (b1.block k hk).symm⟩⟩
    · rintro e W' ⟨he, ⟨ys, rfl, hj⟩ | ⟨pre, _, hj⟩⟩
      · exact ⟨he, _, It.upto_all zs, hj⟩
      · exact hj.elim

set_option maxRecDepth 100000 in
set_option maxHeartbeats 1000000 in
theorem It.collect_in (F : Fence) (n : Nat) (h8 : F.fn 350) (h11 : F.fn 362) (hro : F.round = none) (hn : 3 ≤ n) (g : Nat) (lb : Array Value) (hFg : F.fn g) (eg : ∀ args w, (callFunc g args).run Tryz.prog w = .ok (.enter g args) w)
    (S : List Int → Prop) (N : Nat) (hN : N ≤ maxLen) (hNb : N * 8 ≤ 140737488355328) (w : World) (hseq : SeqGivesB F (n - 1 - 1) Tryz.prog g lb (Value.int .i64) S N w) :
    CallsIn F n Tryz.prog 350 #[.func (.func g) #[] lb] w fun e w' => ∃ (v : Value) (ss : List Int), e = .returned v ∧ S ss ∧ w'.ownsRow w.heap.size 3 1 v ss.length (ss.map (Value.int .i64)) ∧ (v = .slice none 0 0 ↔ ss = []) ∧ Below w.heap.size w w' := by
  have h1 : 1 ≤ n := by omega
  refine callsIn_of_wp Tryz.func350 rfl h8 ?_ hro
  simp only [Tryz.ntmps350, List.size_toArray, List.length_cons, List.length_nil, Nat.reduceAdd, Nat.reduceSub, Array.replicate_succ, Array.replicate_zero, List.push_toArray, List.append_toArray, List.nil_append, List.cons_append]
  gi_wp2_with (gi_at_call 362; refine (It.appendSeq_in F (n - 1) h11 hro (by omega) g lb hFg eg S N hN hNb _ hseq).mono ?_; rintro e w' ⟨v, ss, rfl, hS, hrow, hnil, hb⟩)
  go_ret
  exact ⟨v, ss, rfl, hS, hrow, hnil, hb⟩

end Go.Proofs
