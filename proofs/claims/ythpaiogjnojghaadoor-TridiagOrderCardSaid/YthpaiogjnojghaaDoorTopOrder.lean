/- Proved: for every input, the law TridiagOrder returns true and leaves its arguments as they were; the tied card. There is no condition. -/
import Derived.Test.YthpaiogjnojghaaDoorVc
import Derived.Test.YthpaiogjnojghaaDoorOka
import Derived.Test.YthpaiogjnojghaaDoorLa
import Derived.Test.YthpaiogjnojghaaDoorRows
import Derived.Test.YthpaiogjnojghaaDoorCards
import Derived.Test.YthpaiogjnojghaaDoorTie
import Derived.ProofKit
import Derived.LaidLaws
import Derived.LaidHandle

/-! MqTopOrder -/
set_option linter.unusedVariables false
namespace Go.Proofs.YthpaiogjnojghaaDoor
open Go.Vs Go.Vs.F Go.ChangeShapes Go.WideShapes Go.ChangeAt Go.RowKit
theorem own : ownKnob Tryd.prog.godebug = none := by kernel_rfl
theorem laidOut : laidOutB Tryd.prog = true := by kernel_rfl
/- A world in which the table is laid. -/
noncomputable def laidWorld (os : Os) : World :=
  let w0 := World.holding Tryd.prog os ⟨#[], #[], []⟩
  { w0 with heap := w0.heap.modify 0 fun
      | .cells _ t frozen => .cells (q3h.map fun x => Value.int .u8 x).toArray t frozen
      | o => o }
abbrev theLaid : List (String × DataW Unit) := [("math/bits.deBruijn32tab", Rows.laid_math_bits_deBruijn32tab)]
set_option maxRecDepth 100000 in
theorem laidWorld_met (os : Os) (args : Array Value) : laidMetH Tryd.prog theLaid ((laidWorld os).forCall (fun _ _ => 0) ⟨#[], args, []⟩).memory :=
  laidMetH_of_parts (laidMet_of_run' 8 (by kernel_rfl) (by kernel_rfl)) (by kernel_rfl)
theorem laid_glob {w : World} (h : laidMetH Tryd.prog theLaid w) : GlobOK Tryd.prog nobody w :=
  q8j (g := 0) (k := .u8) (xs := q3h) (name := "math/bits.deBruijn32tab") (t := 115) (e := 5) (n := 32) (d := Rows.laid_math_bits_deBruijn32tab) (by kernel_rfl) (by kernel_rfl) (by kernel_rfl) (by kernel_rfl) (by kernel_rfl) (by kernel_rfl) (by decide) rfl (by kernel_rfl) h
set_option maxRecDepth 100000 in
theorem lifted (HL : ∀ x : Qk sparselaw37_TridiagOrder_A, q4g sparselaw37_TridiagOrder_A x → ∃ m, sparselaw37_TridiagOrder_R m x = some (true, (), (), ())) (os : Os) (started : os.Started) (H : Type) (enc : TypeId × Value → H) :
    ReturnsInHanded {} Tryd.checked os 4 .any (fun w args => (Rows.tridiagOrderSpec.pre enc Tryd.prog Tryd.f4 [] false w args ∧ laidMetH Tryd.prog theLaid w) ∧ sizedMet enc Tryd.prog Tryd.f4 (OpenSpec.ofChange Rows.tridiagOrderSpec) false w args)
      (Rows.tridiagOrderSpec.post enc Tryd.prog Tryd.f4 false true false false) := by
  refine returnsInHanded_of_change_and (C := Tryd.checked) (X := fun w _ => laidMetH Tryd.prog theLaid w) (fun _ _ _ hh h => h.of_heap hh) own started (by kernel_rfl) Tryd.func4
    (ChangeSpec.witness_at (enc := enc) (C := Tryd.checked) (os := os) (X := fun w _ => laidMetH Tryd.prog theLaid w) false (laidWorld os) #[.int .u64 0, .int .u64 0] 8 rfl (by kernel_rfl) (by kernel_rfl) (by kernel_rfl) (by kernel_rfl) (by kernel_rfl) (laidWorld_met os _)) ?_
  intro W base args ds gs before hval hW hcnd _ hL _
  exact q4e (P := Tryd.prog) (ss := sparselaw37_TridiagOrder_A) laidOut (by kernel_rfl) (by kernel_rfl) rfl rfl (by kernel_rfl) Tryd.underlying4
    (fun ds h => by
      obtain ⟨d1, d2, rfl⟩ : ∃ d1 d2, ds = [d1, d2] := by
        match ds, h with
        | [d1, d2], _ => exact ⟨d1, d2, rfl⟩
      rfl)
    (fun x hx => by
      obtain ⟨m, hm⟩ := HL x hx
      exact ⟨_, sparselaw37_TridiagOrder_ok m x _ hm⟩) hval hW (laid_glob hL)
theorem over (HL : ∀ x : Qk sparselaw37_TridiagOrder_A, q4g sparselaw37_TridiagOrder_A x → ∃ m, sparselaw37_TridiagOrder_R m x = some (true, (), (), ())) : Rows.TridiagOrderSaid :=
  OpenClaim.holds_of_wide 4 Tryd.f4 rfl rfl rfl rfl rfl rfl rfl ⟨rfl, rfl, rfl, rfl, rfl⟩ rfl rfl rfl rfl rfl (by kernel_rfl) Tryd.func4 (by kernel_rfl)
    (of_decide_eq_true (by kernel_rfl)) (by unfold Func.isWrapper; first | (rw [if_pos (by decide +kernel)]; kernel_rfl) | (rw [if_neg (by decide +kernel)]; exact ⟨rfl, rfl⟩))
    (fun os started H enc _ => lifted HL os started H enc)
/-- Whatever the input, TridiagOrder returns true. -/
theorem tridiagOrder_holds : Rows.TridiagOrderSaid := over fun x hx => by
  obtain ⟨x1, x2, _⟩ := x
  exact q78 x1 x2 (wfu64 hx.1) (wfu64 hx.2.1)
/-- The tied card of TridiagOrder. -/
theorem tridiagOrder_card_holds : Rows.TridiagOrderCardSaid :=
  Claim7.holds_tied_plain_at .later [] [.data] _ _ _
    tridiagOrder_holds (fun _ h => by cases h) (by kernel_rfl) (fun _ h => by cases h) tridiagOrder_row_tie rfl ⟨rfl, rfl⟩ (by kernel_rfl) rfl
    (fun f fn hf hfn => by
      obtain rfl : f = 4 := Option.some.inj ((show Tryd.prog.funcNamed "sparse/sparselaw37.TridiagOrder" = some 4 by kernel_rfl).symm.trans hf) |>.symm
      obtain rfl : fn = Tryd.f4 := (Option.some.inj (Tryd.func4.symm.trans hfn)).symm
      exact ⟨by kernel_rfl, fun j t ht => by
        have hp : Tryd.f4.params = #[22, 22] := Tryd.params4
        rw [hp] at ht
        have hm : t = 22 := by
          match j, ht with
          | 0, ht => simpa using ht.symm
          | 1, ht => simpa using ht.symm
          | j + 2, ht => simp at ht
        rcases hm with rfl
        · exact (show Tryd.prog.wantsStandIn 22 = false by kernel_rfl)⟩)
    (by kernel_rfl)
end Go.Proofs.YthpaiogjnojghaaDoor
