/- Proved: for every input, the law TransversalDuals returns true and leaves its arguments as they were; the tied card. There is no condition. -/
import Derived.Test.YtkpillimphadkaaDoorVc
import Derived.Test.YtkpillimphadkaaDoorOkb
import Derived.Test.YtkpillimphadkaaDoorLd
import Derived.Test.YtkpillimphadkaaDoorRows
import Derived.Test.YtkpillimphadkaaDoorCards
import Derived.Test.YtkpillimphadkaaDoorTie
import Derived.ProofKit
import Derived.LaidLaws
import Derived.LaidHandle

/-! TdTopDuals -/
set_option linter.unusedVariables false
namespace Go.Proofs.YtkpillimphadkaaDoor
open Go.Vs Go.Vs.F Go.ChangeShapes Go.WideShapes Go.ChangeAt Go.RowKit
theorem r64_of {x : Int} (h : wfSh (.a (.c (.int .i64))) x) : R64 x := by
  have h : (decide (IntKind.min .i64 ≤ x) && decide (x ≤ IntKind.max .i64)) = true := h
  rw [Bool.and_eq_true, decide_eq_true_eq, decide_eq_true_eq] at h
  have h1 : -9223372036854775808 ≤ x := h.1
  have h2 : x ≤ 9223372036854775807 := h.2
  exact ⟨h1, by omega⟩
theorem own : ownKnob Tryd.prog.godebug = none := by kernel_rfl
theorem laidOut : laidOutB Tryd.prog = true := by kernel_rfl
/- A world in which the table is laid. -/
noncomputable def laidWorld (os : Os) : World :=
  let w0 := World.holding Tryd.prog os ⟨#[], #[], []⟩
  { w0 with heap := w0.heap.modify 0 fun
      | .cells _ t frozen => .cells (tab32_0.map fun x => Value.int .u8 x).toArray t frozen
      | o => o }
abbrev theLaid : List (String × DataW Unit) := [("math/bits.deBruijn32tab", Rows.laid_math_bits_deBruijn32tab)]
set_option maxRecDepth 100000 in
theorem laidWorld_met (os : Os) (args : Array Value) : laidMetH Tryd.prog theLaid ((laidWorld os).forCall (fun _ _ => 0) ⟨#[], args, []⟩).memory :=
  laidMetH_of_parts (laidMet_of_run' 8 (by kernel_rfl) (by kernel_rfl)) (by kernel_rfl)
theorem laid_glob {w : World} (h : laidMetH Tryd.prog theLaid w) : GlobOK Tryd.prog nobody w :=
  glob_tab (g := 0) (k := .u8) (xs := tab32_0) (name := "math/bits.deBruijn32tab") (t := 118) (e := 5) (n := 32) (d := Rows.laid_math_bits_deBruijn32tab) (by kernel_rfl) (by kernel_rfl) (by kernel_rfl) (by kernel_rfl) (by kernel_rfl) (by kernel_rfl) (by decide) rfl (by kernel_rfl) h
set_option maxRecDepth 100000 in
theorem lifted (HL : ∀ x : ShLVal sparselaw14_TransversalDuals_A, wfArgs sparselaw14_TransversalDuals_A x → ∃ m, sparselaw14_TransversalDuals_R m x = some (true, (), (), (), (), ())) (os : Os) (started : os.Started) (H : Type) (enc : TypeId × Value → H) :
    ReturnsInHanded {} Tryd.checked os 3 .any (fun w args => (Rows.transversalDualsSpec.pre enc Tryd.prog Tryd.f3 [] false w args ∧ laidMetH Tryd.prog theLaid w) ∧ sizedMet enc Tryd.prog Tryd.f3 (OpenSpec.ofChange Rows.transversalDualsSpec) false w args)
      (Rows.transversalDualsSpec.post enc Tryd.prog Tryd.f3 false true false false) := by
  refine returnsInHanded_of_change_and (C := Tryd.checked) (X := fun w _ => laidMetH Tryd.prog theLaid w) (fun _ _ _ hh h => h.of_heap hh) own started (by kernel_rfl) Tryd.func3
    (ChangeSpec.witness_at (enc := enc) (C := Tryd.checked) (os := os) (X := fun w _ => laidMetH Tryd.prog theLaid w) false (laidWorld os) #[.int .i64 0, .slice none 0 0, .int .i64 0, .int .i64 0] 8 rfl (by kernel_rfl) (by kernel_rfl) (by kernel_rfl) (by kernel_rfl) (by kernel_rfl) (laidWorld_met os _)) ?_
  intro W base args ds gs before hval hW hcnd _ hL _
  exact law_contract (P := Tryd.prog) (ss := sparselaw14_TransversalDuals_A) laidOut (by kernel_rfl) (by kernel_rfl) rfl rfl (by kernel_rfl) Tryd.underlying4
    (fun ds h => by
      obtain ⟨d1, d2, d3, d4, rfl⟩ : ∃ d1 d2 d3 d4, ds = [d1, d2, d3, d4] := by
        match ds, h with
        | [d1, d2, d3, d4], _ => exact ⟨d1, d2, d3, d4, rfl⟩
      rfl)
    (fun x hx => by
      obtain ⟨m, hm⟩ := HL x hx
      exact ⟨_, sparselaw14_TransversalDuals_ok m x _ hm⟩) hval hW (laid_glob hL)
theorem over (HL : ∀ x : ShLVal sparselaw14_TransversalDuals_A, wfArgs sparselaw14_TransversalDuals_A x → ∃ m, sparselaw14_TransversalDuals_R m x = some (true, (), (), (), (), ())) : Rows.TransversalDualsSaid :=
  OpenClaim.holds_of_wide 3 Tryd.f3 rfl rfl rfl rfl rfl rfl rfl ⟨rfl, rfl, rfl, rfl, rfl⟩ rfl rfl rfl rfl rfl (by kernel_rfl) Tryd.func3 (by kernel_rfl)
    (of_decide_eq_true (by kernel_rfl)) (by unfold Func.isWrapper; first | (rw [if_pos (by decide +kernel)]; kernel_rfl) | (rw [if_neg (by decide +kernel)]; exact ⟨rfl, rfl⟩))
    (fun os started H enc _ => lifted HL os started H enc)
/-- Whatever the input, TransversalDuals returns true. -/
theorem transversalDuals_holds : Rows.TransversalDualsSaid := over fun x hx => by
  obtain ⟨x1, x2, x3, x4, _⟩ := x
  exact TransversalDuals_law x1 x2 x3 x4 (r64_of hx.2.2.2.1)
/-- The tied card of TransversalDuals. -/
theorem transversalDuals_card_holds : Rows.TransversalDualsCardSaid :=
  Claim7.holds_tied_plain_at .later [] [.data] _ _ _
    transversalDuals_holds (fun _ h => by cases h) (by kernel_rfl) (fun _ h => by cases h) transversalDuals_row_tie rfl ⟨rfl, rfl⟩ (by kernel_rfl) rfl
    (fun f fn hf hfn => by
      obtain rfl : f = 3 := Option.some.inj ((show Tryd.prog.funcNamed "sparse/sparselaw14.TransversalDuals" = some 3 by kernel_rfl).symm.trans hf) |>.symm
      obtain rfl : fn = Tryd.f3 := (Option.some.inj (Tryd.func3.symm.trans hfn)).symm
      exact ⟨by kernel_rfl, fun j t ht => by
        have hp : Tryd.f3.params = #[3, 22, 3, 3] := Tryd.params3
        rw [hp] at ht
        have hm : t = 3 ∨ t = 22 := by
          match j, ht with
          | 0, ht => left; simpa using ht.symm
          | 1, ht => right; simpa using ht.symm
          | 2, ht => left; simpa using ht.symm
          | 3, ht => left; simpa using ht.symm
          | j + 4, ht => simp at ht
        rcases hm with rfl | rfl
        · exact (show Tryd.prog.wantsStandIn 3 = false by kernel_rfl)
        · exact (show Tryd.prog.wantsStandIn 22 = false by kernel_rfl)⟩)
    (by kernel_rfl)
end Go.Proofs.YtkpillimphadkaaDoor
