/- Proved: for every input, the law MatchingTransposed returns true and leaves its arguments as they were; the tied card. There is no condition. -/
import Derived.Test.YtokemaifpclkcaaDoorVc
import Derived.Test.YtokemaifpclkcaaDoorOkb
import Derived.Test.YtokemaifpclkcaaDoorLd
import Derived.Test.YtokemaifpclkcaaDoorRows
import Derived.Test.YtokemaifpclkcaaDoorCards
import Derived.Test.YtokemaifpclkcaaDoorTie
import Derived.ProofKit
import Derived.LaidLaws
import Derived.LaidHandle

/-! MbTopTransposed -/
set_option linter.unusedVariables false
namespace Go.Proofs.YtokemaifpclkcaaDoor
open Go.Vs Go.Vs.F Go.ChangeShapes Go.WideShapes Go.ChangeAt Go.RowKit
theorem own : ownKnob Tryd.prog.godebug = none := by kernel_rfl
theorem laidOut : laidOutB Tryd.prog = true := by kernel_rfl
/- A world in which the table is laid. -/
noncomputable def laidWorld (os : Os) : World :=
  let w0 := World.holding Tryd.prog os ⟨#[], #[], []⟩
  { w0 with heap := w0.heap.modify 0 fun
      | .cells _ t frozen => .cells (tab32_0.map fun x => Value.int .u8 x).toArray t frozen
      | o => o }
abbrev theLaid : List (String × DataW Unit) := [("math/bits.deBruijn32tab", Rows.laid_math_bits_deBruijn32tab)]
set_option maxRecDepth 100000 in
theorem laidWorld_met (os : Os) (args : Array Value) : laidMetH Tryd.prog theLaid ((laidWorld os).forCall (fun _ _ => 0) ⟨#[], args, []⟩).memory :=
  laidMetH_of_parts (laidMet_of_run' 8 (by kernel_rfl) (by kernel_rfl)) (by kernel_rfl)
theorem laid_glob {w : World} (h : laidMetH Tryd.prog theLaid w) : GlobOK Tryd.prog nobody w :=
  glob_tab (g := 0) (k := .u8) (xs := tab32_0) (name := "math/bits.deBruijn32tab") (t := 137) (e := 5) (n := 32) (d := Rows.laid_math_bits_deBruijn32tab) (by kernel_rfl) (by kernel_rfl) (by kernel_rfl) (by kernel_rfl) (by kernel_rfl) (by kernel_rfl) (by decide) rfl (by kernel_rfl) h
set_option maxRecDepth 100000 in
theorem lifted (HL : ∀ x : ShLVal sparselaw13_MatchingTransposed_A, wfArgs sparselaw13_MatchingTransposed_A x → ∃ m, sparselaw13_MatchingTransposed_R m x = some (true, (), (), (), (), (), ())) (os : Os) (started : os.Started) (H : Type) (enc : TypeId × Value → H) :
    ReturnsInHanded {} Tryd.checked os 8 .any (fun w args => (Rows.matchingTransposedSpec.pre enc Tryd.prog Tryd.f8 [] false w args ∧ laidMetH Tryd.prog theLaid w) ∧ sizedMet enc Tryd.prog Tryd.f8 (OpenSpec.ofChange Rows.matchingTransposedSpec) false w args)
      (Rows.matchingTransposedSpec.post enc Tryd.prog Tryd.f8 false true false false) := by
  refine returnsInHanded_of_change_and (C := Tryd.checked) (X := fun w _ => laidMetH Tryd.prog theLaid w) (fun _ _ _ hh h => h.of_heap hh) own started (by kernel_rfl) Tryd.func8
    (ChangeSpec.witness_at (enc := enc) (C := Tryd.checked) (os := os) (X := fun w _ => laidMetH Tryd.prog theLaid w) false (laidWorld os) #[.int .i64 0, .int .i64 0, .slice none 0 0, .slice none 0 0, .slice none 0 0] 8 rfl (by kernel_rfl) (by kernel_rfl) (by kernel_rfl) (by kernel_rfl) (by kernel_rfl) (laidWorld_met os _)) ?_
  intro W base args ds gs before hval hW hcnd _ hL _
  exact law_contract (P := Tryd.prog) (ss := sparselaw13_MatchingTransposed_A) laidOut (by kernel_rfl) (by kernel_rfl) rfl rfl (by kernel_rfl) Tryd.underlying4
    (fun ds h => by
      obtain ⟨d1, d2, d3, d4, d5, rfl⟩ : ∃ d1 d2 d3 d4 d5, ds = [d1, d2, d3, d4, d5] := by
        match ds, h with
        | [d1, d2, d3, d4, d5], _ => exact ⟨d1, d2, d3, d4, d5, rfl⟩
      rfl)
    (fun x hx => by
      obtain ⟨m, hm⟩ := HL x hx
      exact ⟨_, sparselaw13_MatchingTransposed_ok m x _ hm⟩) hval hW (laid_glob hL)

theorem over (HL : ∀ x : ShLVal sparselaw13_MatchingTransposed_A, wfArgs sparselaw13_MatchingTransposed_A x → ∃ m, sparselaw13_MatchingTransposed_R m x = some (true, (), (), (), (), (), ())) : Rows.MatchingTransposedSaid :=
  OpenClaim.holds_of_wide 8 Tryd.f8 rfl rfl rfl rfl rfl rfl rfl ⟨rfl, rfl, rfl, rfl, rfl⟩ rfl rfl rfl rfl rfl (by kernel_rfl) Tryd.func8 (by kernel_rfl)
    (of_decide_eq_true (by kernel_rfl)) (by unfold Func.isWrapper; first | (rw [if_pos (by decide +kernel)]; kernel_rfl) | (rw [if_neg (by decide +kernel)]; exact ⟨rfl, rfl⟩))
    (fun os started H enc _ => lifted HL os started H enc)
/-- Whatever the input, MatchingTransposed returns true. -/
theorem matchingTransposed_holds : Rows.MatchingTransposedSaid := over fun x _ => by
  obtain ⟨x1, x2, x3, x4, x5, _⟩ := x
  exact MatchingTransposed_law x1 x2 x3 x4 x5
/-- The tied card of MatchingTransposed. -/
theorem matchingTransposed_card_holds : Rows.MatchingTransposedCardSaid :=
  Claim7.holds_tied_plain_at .later [] [.data] true (true, "859153cb83bb15ac6eb4161bafb10e68eea07de79fc5cd041a04d65ff49e57c5") false
    matchingTransposed_holds (fun _ h => by cases h) (by kernel_rfl) (fun _ h => by cases h) matchingTransposed_row_tie rfl ⟨rfl, rfl⟩ (by kernel_rfl) rfl
    (fun f fn hf hfn => by
      obtain rfl : f = 8 := Option.some.inj ((show Tryd.prog.funcNamed "sparse/sparselaw13.MatchingTransposed" = some 8 by kernel_rfl).symm.trans hf) |>.symm
      obtain rfl : fn = Tryd.f8 := (Option.some.inj (Tryd.func8.symm.trans hfn)).symm
      exact ⟨by kernel_rfl, fun j t ht => by
        have hp : Tryd.f8.params = #[3, 3, 22, 22, 22] := Tryd.params8
        rw [hp] at ht
        have hm : t = 3 ∨ t = 22 := by
          match j, ht with
          | 0, ht => left; simpa using ht.symm
          | 1, ht => left; simpa using ht.symm
          | 2, ht => right; simpa using ht.symm
          | 3, ht => right; simpa using ht.symm
          | 4, ht => right; simpa using ht.symm
          | j + 5, ht => simp at ht
        rcases hm with rfl | rfl
        · exact (show Tryd.prog.wantsStandIn 3 = false by kernel_rfl)
        · exact (show Tryd.prog.wantsStandIn 22 = false by kernel_rfl)⟩)
    (by kernel_rfl)
end Go.Proofs.YtokemaifpclkcaaDoor
