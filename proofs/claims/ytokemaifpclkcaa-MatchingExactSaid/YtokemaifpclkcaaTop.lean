/- Proved: for every input, the law MatchingExact returns true and leaves its arguments as they were. There is no condition. -/
import Derived.Test.YtokemaifpclkcaaVc
import Derived.Test.YtokemaifpclkcaaOk
import Derived.Test.YtokemaifpclkcaaLa
import Derived.Test.YtokemaifpclkcaaRows

/-! MaTop -/
set_option linter.unusedVariables false
namespace Go.Proofs.Ytokemaifpclkcaa
open Go.Vs Go.Vs.F Go.ChangeShapes Go.WideShapes Go.ChangeAt Go.RowKit
theorem own : ownKnob Try.prog.godebug = none := by kernel_rfl
theorem laidOut : laidOutB Try.prog = true := by kernel_rfl
set_option maxRecDepth 100000 in
theorem lifted (HL : ∀ x : ShLVal sparselaw13_MatchingExact_A, wfArgs sparselaw13_MatchingExact_A x → ∃ m, sparselaw13_MatchingExact_R m x = some (true, (), (), (), ())) (os : Os) (started : os.Started) (H : Type) (enc : TypeId × Value → H) :
    ReturnsInHanded {} Try.checked os 3 .any (Rows.matchingExactSpec.pre6 enc Try.prog Try.f3 Rows.matchingExactRow.domain false) (Rows.matchingExactSpec.post enc Try.prog Try.f3 false true false false) := by
  refine returnsInHanded_of_change (C := Try.checked) own started (by kernel_rfl) Try.func3
    (ChangeSpec.witness6 (enc := enc) (C := Try.checked) false ⟨#[], #[.agg #[.int .i64 0, .int .i64 0, .slice none 0 0, .slice none 0 0, .slice none 0 0], .slice none 0 0, .agg #[.slice none 0 0, .slice none 0 0]], []⟩ 8 (by kernel_rfl) (by kernel_rfl) (by kernel_rfl) (by kernel_rfl)) ?_
  intro W base args ds gs before hval hW hcnd _
  exact law_contract (P := Try.prog) (ss := sparselaw13_MatchingExact_A) laidOut (by kernel_rfl) (by kernel_rfl) rfl rfl (by kernel_rfl) Try.underlying4
    (fun ds h => by
      obtain ⟨d1, d2, d3, rfl⟩ : ∃ d1 d2 d3, ds = [d1, d2, d3] := by
        match ds, h with
        | [a, b, c], _ => exact ⟨a, b, c, rfl⟩
      rfl)
    (fun x hx => by
      obtain ⟨m, hm⟩ := HL x hx
      exact ⟨_, sparselaw13_MatchingExact_ok m x _ hm⟩) hval hW

theorem over (HL : ∀ x : ShLVal sparselaw13_MatchingExact_A, wfArgs sparselaw13_MatchingExact_A x → ∃ m, sparselaw13_MatchingExact_R m x = some (true, (), (), (), ())) : Rows.MatchingExactSaid :=
  OpenClaim.holds_of_wide 3 Try.f3 rfl rfl rfl rfl rfl rfl rfl ⟨rfl, rfl, rfl, rfl, rfl⟩ rfl rfl rfl rfl rfl (by kernel_rfl) Try.func3 (by kernel_rfl)
    (of_decide_eq_true (by kernel_rfl)) (by unfold Func.isWrapper; first | (rw [if_pos (by decide +kernel)]; kernel_rfl) | (rw [if_neg (by decide +kernel)]; exact ⟨rfl, rfl⟩))
    (fun os started H enc _ => lifted HL os started H enc)
/-- Whatever the input, MatchingExact returns true. -/
theorem matchingExact_holds : Rows.MatchingExactSaid := over fun x _ => by
  obtain ⟨⟨R, C, S, I, V, _⟩, xs, ⟨cr, cc, _⟩, _⟩ := x
  exact MatchingExact_law R C S I V xs cr cc
end Go.Proofs.Ytokemaifpclkcaa
