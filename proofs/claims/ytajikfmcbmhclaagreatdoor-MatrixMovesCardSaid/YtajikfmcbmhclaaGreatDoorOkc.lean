/- The plain functions are what the code does (by program: gen.py). -/
import Derived.Test.YtajikfmcbmhclaaGreatDoorOkb

/-! MwOk3 -/
set_option linter.unusedVariables false
set_option maxRecDepth 100000
namespace Go.Vs.F
open Go.Proofs
/-! 155 sparse/sparseref01.subMag -/
/-! 143 sparse/sparseref01.Add -/
/-! 146 sparse/sparseref01.Sub -/
/-! 124 sparse/sparseref01.Shift -/
/-! 129 sparse/sparseref02.down -/
/-! 121 sparse/sparseref01.BitLen -/
/-! 92 sparse/sparseref02.Make -/
/-! 58 sparse/sparseref02.FromInt -/
/-! 87 sparse/sparseref02.Norm -/
/-! 88 sparse/sparseref01.Sign -/
/-! 57 sparse/sparseref02.Scale -/
/-! 126 sparse/sparseref03.signed -/
/-! 122 sparse/sparseref03.over -/
/-! 141 sparse/sparseref01.Lost -/
/-! 142 sparse/sparseref02.Up -/
/-! 123 sparse/sparseref02.Cut -/
/-! 125 sparse/sparseref01.Int -/
/-! 89 sparse/sparseref03.rounded -/
/-! 56 sparse/sparseref03.Round -/
/-! 29 sparse/sparsemake.Value -/
/-! 30 sparse/sparseref09.Pack -/
def g30_H : Hints := { regs := [⟨[], [0, 1, 2, 6]⟩, ⟨[], [0, 1, 2, 6, 7]⟩, ⟨[], [0, 1, 2, 6, 7, 8]⟩, ⟨[], [0, 1, 2, 6, 7, 8, 9]⟩, ⟨[], [0, 1, 2, 6, 7, 8, 9, 24]⟩, ⟨[(0, 1)], [0, 1, 2, 6, 7, 8, 9]⟩, ⟨[], [0, 1, 2, 6, 7, 8, 9]⟩, ⟨[], [0, 1, 2, 6, 7, 8, 10]⟩, ⟨[], [0, 1, 2, 6, 7, 8, 10, 46]⟩, ⟨[(0, 1)], [0, 1, 2, 6, 7, 8, 10]⟩, ⟨[], [0, 1, 2, 6, 7, 8, 10, 11]⟩, ⟨[], [0, 1, 2, 6, 7, 8, 10, 11, 51]⟩, ⟨[(0, 1)], [0, 1, 2, 6, 7, 8, 10, 11]⟩, ⟨[], [0, 1, 2, 6, 7, 8, 10, 11, 12]⟩, ⟨[], [0, 1, 2, 6, 7, 8, 10, 11, 12, 63]⟩, ⟨[(1, 1)], [0, 1, 2, 6, 7, 8, 10, 11, 12]⟩, ⟨[(3, 1), (9, 3)], [0, 1, 2, 6, 7, 8, 10, 11]⟩, ⟨[(1, 1)], [0, 1, 2, 6, 7, 8, 10]⟩, ⟨[(0, 1)], [6]⟩], heads := [(0, [0, 1, 2, 6, 7, 8, 9]), (2, [0, 1, 2, 6, 7, 8, 10]), (4, [0, 1, 2, 6, 7, 8, 10, 11])], exits := [(0, [0, 1, 2, 6, 7, 8]), (1, [0, 1, 2, 6, 7, 8, 9]), (2, [6, 7]), (3, [0, 1, 2, 6, 7, 8, 10]), (4, [0, 1, 2, 6, 7, 8, 10]), (5, [0, 1, 2, 6, 7, 8, 10, 11])], rets := [6], pins := [], spec := [[false, false, true, true, true]] }
abbrev g30_A : List Sh := [.a (.c (.int .i64)), .a (.c (.int .i64)), .a (.c (.imm (.pr (.int .i64) (.pr (.int .i64) (.int .u64)))))]
abbrev g30_S : Sh := .a (.agg [(.int .i64), (.int .i64), (.nm 0 (.int .i64)), (.nm 1 (.int .i64)), (.nm 2 (.int .u64))])
abbrev g30_U : List Sh := [.a (.c .dead), .a (.c .dead), .a (.c .dead)]
def g30_R (m : Nat) : ShLVal g30_A → Option (g30_S.Val × ShLVal g30_U) := fun (x : Int × Int × (List (Int × Int × Int)) × Unit) => g30 m x.1 x.2.1 x.2.2.1
def g30_T (m : Nat) : FunT := ⟨30, g30_A, g30_S, g30_U, g30_R m⟩
noncomputable def g30_C : Code := codeOf Tryz.f30
noncomputable def g30_B0 : Code := loopAt g30_C 0 0
theorem g30_B0_ls : loopsL g30_B0 0 = [] := by kernel_rfl
noncomputable def g30_B2 : Code := loopAt g30_C 0 1
noncomputable def g30_B4 : Code := loopAt g30_B2 2 0
theorem g30_B4_ls : loopsL g30_B4 4 = [] := by kernel_rfl
theorem g30_B2_ls : loopsL g30_B2 2 = [(4, g30_B4)] := by kernel_rfl
theorem g30_C_ls : loopsL g30_C 0 = [(0, g30_B0), (2, g30_B2)] := by kernel_rfl
abbrev g30_L2_I : SS := [(0, .a (.c (.int .i64))), (1, .a (.c (.int .i64))), (2, .a (.c (.imm (.pr (.int .i64) (.pr (.int .i64) (.int .u64)))))), (6, .a (.bx 0 [(.int .i64), (.int .i64), (.nm 1 (.int .i64)), (.nm 2 (.int .i64)), (.nm 3 (.int .u64))])), (7, .a (.bx 4 [(.int .i64), (.int .i64), (.nm 5 (.int .i64)), (.nm 6 (.int .i64)), (.nm 7 (.int .u64))])), (8, .a (.c (.nm 8 (.int .i64)))), (10, .a (.c (.int .i64))), (11, .a (.c (.int .i64)))]
abbrev g30_L2_O : List (Ex × SS) := [(.exit 4, [(0, .a (.c (.int .i64))), (1, .a (.c (.int .i64))), (2, .a (.c (.imm (.pr (.int .i64) (.pr (.int .i64) (.int .u64)))))), (6, .a (.bx 0 [(.int .i64), (.int .i64), (.nm 1 (.int .i64)), (.nm 2 (.int .i64)), (.nm 3 (.int .u64))])), (7, .a (.bx 4 [(.int .i64), (.int .i64), (.nm 5 (.int .i64)), (.nm 6 (.int .i64)), (.nm 7 (.int .u64))])), (8, .a (.c (.nm 8 (.int .i64)))), (10, .a (.c (.int .i64)))])]
def g30_L2_R (m n : Nat) : g30_L2_I.Val → Option (outVal g30_L2_O) := (fun (x : Int × Int × (List (Int × Int × Int)) × (Int × Int × List Int × List Int × List Int × Unit) × (Int × Int × List Int × List Int × List Int × Unit) × List Int × Int × Int × Unit) => g30_L2 m n x.1 x.2.1 x.2.2.1 x.2.2.2.1.1 x.2.2.2.1.2.1 x.2.2.2.1.2.2.1 x.2.2.2.1.2.2.2.1 x.2.2.2.1.2.2.2.2.1 x.2.2.2.2.1.1 x.2.2.2.2.1.2.1 x.2.2.2.2.1.2.2.1 x.2.2.2.2.1.2.2.2.1 x.2.2.2.2.1.2.2.2.2.1 x.2.2.2.2.2.1 x.2.2.2.2.2.2.1 x.2.2.2.2.2.2.2.1)
def g30_L2_T (m n : Nat) : LoopT := ⟨4, g30_L2_I, g30_L2_O, g30_L2_R m n⟩
theorem g30_L2_kr (m n : Nat) (x : g30_L2_I.Val) : roundK (mkC (outVal g30_L2_O) []) (mkLp (outVal g30_L2_O) []) tt 90 g30_H g30_B4 4 (g30_L2_I.enc x) (Kl (ins := g30_L2_I) (outs := g30_L2_O) (g30_L2_R m n)) = g30_L2 m (n + 1) x.1 x.2.1 x.2.2.1 x.2.2.2.1.1 x.2.2.2.1.2.1 x.2.2.2.1.2.2.1 x.2.2.2.1.2.2.2.1 x.2.2.2.1.2.2.2.2.1 x.2.2.2.2.1.1 x.2.2.2.2.1.2.1 x.2.2.2.2.1.2.2.1 x.2.2.2.2.1.2.2.2.1 x.2.2.2.2.1.2.2.2.2.1 x.2.2.2.2.2.1 x.2.2.2.2.2.2.1 x.2.2.2.2.2.2.2.1 := by kernel_rfl
theorem g30_L2_ok {E : Entry} (hE : EOf Tryz.prog E 90 g30_H.pins) (m : Nat) (n : Nat) : LoopOK Tryz.prog E g30_B4 (g30_L2_T m n) :=
  loop_ok (CO := CallOK Tryz.prog) hmix htt (fun _ _ _ _ h => h) hE (C := fun R => mkC R []) (L := []) (fun _ _ _ _ _ h => mkC_spec (AllF.mem (l := []) trivial) h) (fun _ _ => loopsIn_of g30_B4_ls trivial) (fun n => (g30_L2_R m n)) (fun _ => by kernel_rfl) (fun n x => (g30_L2_kr m n x).trans (by kernel_rfl)) n
abbrev g30_L1_I : SS := [(0, .a (.c (.int .i64))), (1, .a (.c (.int .i64))), (2, .a (.c (.imm (.pr (.int .i64) (.pr (.int .i64) (.int .u64)))))), (6, .a (.bx 0 [(.int .i64), (.int .i64), (.nm 1 (.int .i64)), (.nm 2 (.int .i64)), (.nm 3 (.int .u64))])), (7, .a (.bx 4 [(.int .i64), (.int .i64), (.nm 5 (.int .i64)), (.nm 6 (.int .i64)), (.nm 7 (.int .u64))])), (8, .a (.c (.nm 8 (.int .i64)))), (10, .a (.c (.int .i64)))]
abbrev g30_L1_O : List (Ex × SS) := [(.exit 2, [(6, .a (.bx 0 [(.int .i64), (.int .i64), (.nm 1 (.int .i64)), (.nm 2 (.int .i64)), (.nm 3 (.int .u64))])), (7, .a (.bx 4 [(.int .i64), (.int .i64), (.nm 5 (.int .i64)), (.nm 6 (.int .i64)), (.nm 7 (.int .u64))]))])]
def g30_L1_R (m n : Nat) : g30_L1_I.Val → Option (outVal g30_L1_O) := (fun (x : Int × Int × (List (Int × Int × Int)) × (Int × Int × List Int × List Int × List Int × Unit) × (Int × Int × List Int × List Int × List Int × Unit) × List Int × Int × Unit) => g30_L1 m n x.1 x.2.1 x.2.2.1 x.2.2.2.1.1 x.2.2.2.1.2.1 x.2.2.2.1.2.2.1 x.2.2.2.1.2.2.2.1 x.2.2.2.1.2.2.2.2.1 x.2.2.2.2.1.1 x.2.2.2.2.1.2.1 x.2.2.2.2.1.2.2.1 x.2.2.2.2.1.2.2.2.1 x.2.2.2.2.1.2.2.2.2.1 x.2.2.2.2.2.1 x.2.2.2.2.2.2.1)
def g30_L1_T (m n : Nat) : LoopT := ⟨2, g30_L1_I, g30_L1_O, g30_L1_R m n⟩
theorem g30_L1_kr (m n : Nat) (x : g30_L1_I.Val) : roundK (mkC (outVal g30_L1_O) []) (mkLp (outVal g30_L1_O) [g30_L2_T m m]) tt 90 g30_H g30_B2 2 (g30_L1_I.enc x) (Kl (ins := g30_L1_I) (outs := g30_L1_O) (g30_L1_R m n)) = g30_L1 m (n + 1) x.1 x.2.1 x.2.2.1 x.2.2.2.1.1 x.2.2.2.1.2.1 x.2.2.2.1.2.2.1 x.2.2.2.1.2.2.2.1 x.2.2.2.1.2.2.2.2.1 x.2.2.2.2.1.1 x.2.2.2.2.1.2.1 x.2.2.2.2.1.2.2.1 x.2.2.2.2.1.2.2.2.1 x.2.2.2.2.1.2.2.2.2.1 x.2.2.2.2.2.1 x.2.2.2.2.2.2.1 := by kernel_rfl
theorem g30_L1_ok {E : Entry} (hE : EOf Tryz.prog E 90 g30_H.pins) (m : Nat) (n : Nat) : LoopOK Tryz.prog E g30_B2 (g30_L1_T m n) :=
  loop_ok (CO := CallOK Tryz.prog) hmix htt (fun _ _ _ _ h => h) hE (C := fun R => mkC R []) (L := [g30_L2_T m m]) (fun _ _ _ _ _ h => mkC_spec (AllF.mem (l := []) trivial) h) (fun _ _ => loopsIn_of g30_B2_ls ⟨mkLp_all ⟨fun _ => g30_L2_ok hE m m, trivial⟩, trivial⟩) (fun n => (g30_L1_R m n)) (fun _ => by kernel_rfl) (fun n x => (g30_L1_kr m n x).trans (by kernel_rfl)) n
abbrev g30_L0_I : SS := [(0, .a (.c (.int .i64))), (1, .a (.c (.int .i64))), (2, .a (.c (.imm (.pr (.int .i64) (.pr (.int .i64) (.int .u64)))))), (6, .a (.bx 0 [(.int .i64), (.int .i64), (.nm 1 (.int .i64)), (.nm 2 (.int .i64)), (.nm 3 (.int .u64))])), (7, .a (.bx 4 [(.int .i64), (.int .i64), (.nm 5 (.int .i64)), (.nm 6 (.int .i64)), (.nm 7 (.int .u64))])), (8, .a (.c (.nm 8 (.int .i64)))), (9, .a (.c (.int .i64)))]
abbrev g30_L0_O : List (Ex × SS) := [(.exit 0, [(0, .a (.c (.int .i64))), (1, .a (.c (.int .i64))), (2, .a (.c (.imm (.pr (.int .i64) (.pr (.int .i64) (.int .u64)))))), (6, .a (.bx 0 [(.int .i64), (.int .i64), (.nm 1 (.int .i64)), (.nm 2 (.int .i64)), (.nm 3 (.int .u64))])), (7, .a (.bx 4 [(.int .i64), (.int .i64), (.nm 5 (.int .i64)), (.nm 6 (.int .i64)), (.nm 7 (.int .u64))])), (8, .a (.c (.nm 8 (.int .i64))))])]
def g30_L0_R (m n : Nat) : g30_L0_I.Val → Option (outVal g30_L0_O) := (fun (x : Int × Int × (List (Int × Int × Int)) × (Int × Int × List Int × List Int × List Int × Unit) × (Int × Int × List Int × List Int × List Int × Unit) × List Int × Int × Unit) => g30_L0 m n x.1 x.2.1 x.2.2.1 x.2.2.2.1.1 x.2.2.2.1.2.1 x.2.2.2.1.2.2.1 x.2.2.2.1.2.2.2.1 x.2.2.2.1.2.2.2.2.1 x.2.2.2.2.1.1 x.2.2.2.2.1.2.1 x.2.2.2.2.1.2.2.1 x.2.2.2.2.1.2.2.2.1 x.2.2.2.2.1.2.2.2.2.1 x.2.2.2.2.2.1 x.2.2.2.2.2.2.1)
def g30_L0_T (m n : Nat) : LoopT := ⟨0, g30_L0_I, g30_L0_O, g30_L0_R m n⟩
theorem g30_L0_kr (m n : Nat) (x : g30_L0_I.Val) : roundK (mkC (outVal g30_L0_O) []) (mkLp (outVal g30_L0_O) []) tt 90 g30_H g30_B0 0 (g30_L0_I.enc x) (Kl (ins := g30_L0_I) (outs := g30_L0_O) (g30_L0_R m n)) = g30_L0 m (n + 1) x.1 x.2.1 x.2.2.1 x.2.2.2.1.1 x.2.2.2.1.2.1 x.2.2.2.1.2.2.1 x.2.2.2.1.2.2.2.1 x.2.2.2.1.2.2.2.2.1 x.2.2.2.2.1.1 x.2.2.2.2.1.2.1 x.2.2.2.2.1.2.2.1 x.2.2.2.2.1.2.2.2.1 x.2.2.2.2.1.2.2.2.2.1 x.2.2.2.2.2.1 x.2.2.2.2.2.2.1 := by kernel_rfl
theorem g30_L0_ok {E : Entry} (hE : EOf Tryz.prog E 90 g30_H.pins) (m : Nat) (n : Nat) : LoopOK Tryz.prog E g30_B0 (g30_L0_T m n) :=
  loop_ok (CO := CallOK Tryz.prog) hmix htt (fun _ _ _ _ h => h) hE (C := fun R => mkC R []) (L := []) (fun _ _ _ _ _ h => mkC_spec (AllF.mem (l := []) trivial) h) (fun _ _ => loopsIn_of g30_B0_ls trivial) (fun n => (g30_L0_R m n)) (fun _ => by kernel_rfl) (fun n x => (g30_L0_kr m n x).trans (by kernel_rfl)) n
theorem g30_kr (m : Nat) (x : ShLVal g30_A) : fnK (mkC (g30_S.Val × ShLVal g30_U) []) (mkLp (g30_S.Val × ShLVal g30_U) [g30_L0_T m m, g30_L1_T m m]) tt g30_H Tryz.f30 (encS g30_A x) (Kd g30_S g30_U) = g30 m x.1 x.2.1 x.2.2.1 := by kernel_rfl
theorem g30_ok (m : Nat) : FunOK Tryz.prog (g30_T m) :=
  fun_ok hmix htt (g30_T m) Tryz.func30 (c := g30_C) (by kernel_rfl) (by kernel_rfl) (Lc := []) (AllF.mem (l := []) trivial) (L := [g30_L0_T m m, g30_L1_T m m]) (fun _ hE _ _ => loopsIn_of g30_C_ls ⟨mkLp_all ⟨fun _ => g30_L0_ok hE m m, fun h => absurd (show (2 : Nat) = 0 from h) (by decide), trivial⟩, mkLp_all ⟨fun h => absurd (show (0 : Nat) = 2 from h) (by decide), fun _ => g30_L1_ok hE m m, trivial⟩, trivial⟩) (fun x => (g30_kr m x).trans (by kernel_rfl))
/-! 8 sparse/sparsemake.Matrix -/
/-! 10 sparse/matrix.Entries -/
/-! 11 sparse/matrix.Transpose -/
def g11_H : Hints := { regs := [⟨[], [1, 2]⟩, ⟨[], [1, 2, 4]⟩, ⟨[], [1, 2, 4, 11]⟩, ⟨[(1, 1)], [2, 3]⟩, ⟨[], [1, 2, 5]⟩, ⟨[], [1, 2, 5, 16, 17, 18]⟩, ⟨[], [1, 2, 5, 16, 17, 18, 19]⟩, ⟨[], [1, 2, 5, 6, 7, 16, 17, 18]⟩, ⟨[], [1, 2, 5, 16, 17, 18]⟩, ⟨[(1, 1)], [1, 2, 5, 16, 17, 18]⟩, ⟨[(4, 1)], [2, 3]⟩], heads := [(0, [1, 2, 5, 16, 17, 18])], exits := [(0, [1, 2, 5]), (1, [1, 2, 5, 16, 17, 18])], rets := [2, 3], pins := [], spec := [[false, false, true, true, true], [false]] }
abbrev g11_A : List Sh := [.a (.agg [(.int .i64), (.int .i64), (.imm (.int .i64)), (.imm (.int .i64)), (.imm (.int .u64))])]
abbrev g11_S : Sh := .tup [(.agg [(.int .i64), (.int .i64), (.nm 0 (.int .i64)), (.nm 1 (.int .i64)), (.nm 2 (.int .u64))]), (.c (.int .i64))]
abbrev g11_U : List Sh := [.a (.c .dead)]
def g11_R (m : Nat) : ShLVal g11_A → Option (g11_S.Val × ShLVal g11_U) := fun (x : (Int × Int × List Int × List Int × List Int × Unit) × Unit) => g11 m x.1.1 x.1.2.1 x.1.2.2.1 x.1.2.2.2.1 x.1.2.2.2.2.1
def g11_T (m : Nat) : FunT := ⟨11, g11_A, g11_S, g11_U, g11_R m⟩
noncomputable def g11_C : Code := codeOf Tryz.f11
noncomputable def g11_B0 : Code := loopAt g11_C 0 0
theorem g11_B0_ls : loopsL g11_B0 0 = [] := by kernel_rfl
theorem g11_C_ls : loopsL g11_C 0 = [(0, g11_B0)] := by kernel_rfl
abbrev g11_L0_I : SS := [(1, .a (.bx 0 [(.int .i64), (.int .i64), (.imm (.int .i64)), (.imm (.int .i64)), (.imm (.int .u64))])), (2, .a (.bx 1 [(.int .i64), (.int .i64), (.nm 2 (.int .i64)), (.nm 3 (.int .i64)), (.nm 4 (.int .u64))])), (5, .a (.c (.nm 5 (.pr (.int .i64) (.pr (.int .i64) (.int .u64)))))), (16, .a (.c (.ref 5 5 3))), (17, .a (.c (.int .i64))), (18, .a (.c (.int .i64)))]
abbrev g11_L0_O : List (Ex × SS) := [(.exit 0, [(1, .a (.bx 0 [(.int .i64), (.int .i64), (.imm (.int .i64)), (.imm (.int .i64)), (.imm (.int .u64))])), (2, .a (.bx 1 [(.int .i64), (.int .i64), (.nm 2 (.int .i64)), (.nm 3 (.int .i64)), (.nm 4 (.int .u64))])), (5, .a (.c (.nm 5 (.pr (.int .i64) (.pr (.int .i64) (.int .u64))))))])]
def g11_L0_R (m n : Nat) : g11_L0_I.Val → Option (outVal g11_L0_O) := (fun (x : (Int × Int × List Int × List Int × List Int × Unit) × (Int × Int × List Int × List Int × List Int × Unit) × (List (Int × Int × Int)) × Unit × Int × Int × Unit) => g11_L0 m n x.1.1 x.1.2.1 x.1.2.2.1 x.1.2.2.2.1 x.1.2.2.2.2.1 x.2.1.1 x.2.1.2.1 x.2.1.2.2.1 x.2.1.2.2.2.1 x.2.1.2.2.2.2.1 x.2.2.1 x.2.2.2.2.1 x.2.2.2.2.2.1)
def g11_L0_T (m n : Nat) : LoopT := ⟨0, g11_L0_I, g11_L0_O, g11_L0_R m n⟩
theorem g11_L0_kr (m n : Nat) (x : g11_L0_I.Val) : roundK (mkC (outVal g11_L0_O) [g28_T m, g38_T m, g37_T m]) (mkLp (outVal g11_L0_O) []) tt 42 g11_H g11_B0 0 (g11_L0_I.enc x) (Kl (ins := g11_L0_I) (outs := g11_L0_O) (g11_L0_R m n)) = g11_L0 m (n + 1) x.1.1 x.1.2.1 x.1.2.2.1 x.1.2.2.2.1 x.1.2.2.2.2.1 x.2.1.1 x.2.1.2.1 x.2.1.2.2.1 x.2.1.2.2.2.1 x.2.1.2.2.2.2.1 x.2.2.1 x.2.2.2.2.1 x.2.2.2.2.2.1 := by kernel_rfl
theorem g11_L0_ok {E : Entry} (hE : EOf Tryz.prog E 42 g11_H.pins) (m : Nat) (n : Nat) : LoopOK Tryz.prog E g11_B0 (g11_L0_T m n) :=
  loop_ok (CO := CallOK Tryz.prog) hmix htt (fun _ _ _ _ h => h) hE (C := fun R => mkC R [g28_T m, g38_T m, g37_T m]) (L := []) (fun _ _ _ _ _ h => mkC_spec (AllF.mem (l := [g28_T m, g38_T m, g37_T m]) ⟨g28_ok m, g38_ok m, g37_ok m, trivial⟩) h) (fun _ _ => loopsIn_of g11_B0_ls trivial) (fun n => (g11_L0_R m n)) (fun _ => by kernel_rfl) (fun n x => (g11_L0_kr m n x).trans (by kernel_rfl)) n
theorem g11_kr (m : Nat) (x : ShLVal g11_A) : fnK (mkC (g11_S.Val × ShLVal g11_U) [g28_T m, g38_T m, g37_T m]) (mkLp (g11_S.Val × ShLVal g11_U) [g11_L0_T m m]) tt g11_H Tryz.f11 (encS g11_A x) (Kd g11_S g11_U) = g11 m x.1.1 x.1.2.1 x.1.2.2.1 x.1.2.2.2.1 x.1.2.2.2.2.1 := by kernel_rfl
theorem g11_ok (m : Nat) : FunOK Tryz.prog (g11_T m) :=
  fun_ok hmix htt (g11_T m) Tryz.func11 (c := g11_C) (by kernel_rfl) (by kernel_rfl) (Lc := [g28_T m, g38_T m, g37_T m]) (AllF.mem (l := [g28_T m, g38_T m, g37_T m]) ⟨g28_ok m, g38_ok m, g37_ok m, trivial⟩) (L := [g11_L0_T m m]) (fun _ hE _ _ => loopsIn_of g11_C_ls ⟨mkLp_all ⟨fun _ => g11_L0_ok hE m m, trivial⟩, trivial⟩) (fun x => (g11_kr m x).trans (by kernel_rfl))
/-! 12 sparse/sparsekit.Shuffle -/
/-! 39 sparse/matrix.places -/
def g39_H : Hints := { regs := [⟨[], [0, 1]⟩, ⟨[], [0, 1, 6]⟩, ⟨[], [0, 1, 6, 15, 16]⟩, ⟨[], [0, 1, 6, 15, 16, 17]⟩, ⟨[], [0, 1, 6, 7, 15, 16]⟩, ⟨[(1, 1)], [0, 1, 6, 15, 16]⟩, ⟨[(1, 1)], [0, 1, 6, 15, 16]⟩, ⟨[], [0, 1, 6, 23, 24, 25]⟩, ⟨[], [0, 1, 6, 23, 24, 25, 26]⟩, ⟨[], [0, 1, 6, 9, 23, 24, 25]⟩, ⟨[(0, 1)], [0, 1, 6, 23, 24, 25, 33]⟩, ⟨[], [4, 5]⟩, ⟨[(1, 1)], [0, 1, 6, 23, 24, 25]⟩, ⟨[(0, 1)], [6, 35, 36, 37]⟩, ⟨[], [6, 35, 36, 37, 38]⟩, ⟨[], [6, 10, 11, 35, 36, 37]⟩, ⟨[], [6, 10, 11, 35, 36, 37, 46]⟩, ⟨[], [4, 5]⟩, ⟨[(1, 1), (2, 1)], [6, 35, 36, 37]⟩, ⟨[(1, 1)], [6, 35, 36, 37]⟩, ⟨[(0, 1)], [4, 5]⟩], heads := [(0, [0, 1, 6, 15, 16]), (2, [0, 1, 6, 23, 24, 25]), (4, [6, 35, 36, 37])], exits := [(0, [0, 1, 6]), (1, [0, 1, 6, 15, 16]), (2, [0, 6]), (3, [0, 1, 6, 23, 24, 25]), (4, [6]), (5, [6, 35, 36, 37])], rets := [4, 5], pins := [], spec := [[true], [false]] }
abbrev g39_A : List Sh := [.a (.c (.imm (.int .i64))), .a (.c (.int .i64))]
abbrev g39_S : Sh := .tup [(.c (.nm 0 (.int .i64))), (.c (.int .i64))]
abbrev g39_U : List Sh := [.a (.c .dead), .a (.c .dead)]
def g39_R (m : Nat) : ShLVal g39_A → Option (g39_S.Val × ShLVal g39_U) := fun (x : List Int × Int × Unit) => g39 m x.1 x.2.1
def g39_T (m : Nat) : FunT := ⟨39, g39_A, g39_S, g39_U, g39_R m⟩
noncomputable def g39_C : Code := codeOf Tryz.f39
noncomputable def g39_B0 : Code := loopAt g39_C 0 0
theorem g39_B0_ls : loopsL g39_B0 0 = [] := by kernel_rfl
noncomputable def g39_B2 : Code := loopAt g39_C 0 1
theorem g39_B2_ls : loopsL g39_B2 2 = [] := by kernel_rfl
noncomputable def g39_B4 : Code := loopAt g39_C 0 2
theorem g39_B4_ls : loopsL g39_B4 4 = [] := by kernel_rfl
theorem g39_C_ls : loopsL g39_C 0 = [(0, g39_B0), (2, g39_B2), (4, g39_B4)] := by kernel_rfl
abbrev g39_L2_I : SS := [(6, .a (.c (.nm 0 (.int .i64)))), (35, .a (.c (.imm (.int .i64)))), (36, .a (.c (.int .i64))), (37, .a (.c (.int .i64)))]
abbrev g39_L2_O : List (Ex × SS) := [(.ret, [(4, .a (.c (.nm 0 (.int .i64)))), (5, .a (.c (.int .i64)))]), (.exit 4, [(6, .a (.c (.nm 0 (.int .i64))))])]
def g39_L2_R (m n : Nat) : g39_L2_I.Val → Option (outVal g39_L2_O) := (fun (x : List Int × List Int × Int × Int × Unit) => g39_L2 m n x.1 x.2.1 x.2.2.1 x.2.2.2.1)
def g39_L2_T (m n : Nat) : LoopT := ⟨4, g39_L2_I, g39_L2_O, g39_L2_R m n⟩
theorem g39_L2_kr (m n : Nat) (x : g39_L2_I.Val) : roundK (mkC (outVal g39_L2_O) [g31_T m]) (mkLp (outVal g39_L2_O) []) tt 53 g39_H g39_B4 4 (g39_L2_I.enc x) (Kl (ins := g39_L2_I) (outs := g39_L2_O) (g39_L2_R m n)) = g39_L2 m (n + 1) x.1 x.2.1 x.2.2.1 x.2.2.2.1 := by kernel_rfl
theorem g39_L2_ok {E : Entry} (hE : EOf Tryz.prog E 53 g39_H.pins) (m : Nat) (n : Nat) : LoopOK Tryz.prog E g39_B4 (g39_L2_T m n) :=
  loop_ok (CO := CallOK Tryz.prog) hmix htt (fun _ _ _ _ h => h) hE (C := fun R => mkC R [g31_T m]) (L := []) (fun _ _ _ _ _ h => mkC_spec (AllF.mem (l := [g31_T m]) ⟨g31_ok m, trivial⟩) h) (fun _ _ => loopsIn_of g39_B4_ls trivial) (fun n => (g39_L2_R m n)) (fun _ => by kernel_rfl) (fun n x => (g39_L2_kr m n x).trans (by kernel_rfl)) n
abbrev g39_L1_I : SS := [(0, .a (.c (.imm (.int .i64)))), (1, .a (.c (.int .i64))), (6, .a (.c (.nm 0 (.int .i64)))), (23, .a (.c (.imm (.int .i64)))), (24, .a (.c (.int .i64))), (25, .a (.c (.int .i64)))]
abbrev g39_L1_O : List (Ex × SS) := [(.ret, [(4, .a (.c (.nm 0 (.int .i64)))), (5, .a (.c (.int .i64)))]), (.exit 2, [(0, .a (.c (.imm (.int .i64)))), (6, .a (.c (.nm 0 (.int .i64))))])]
def g39_L1_R (m n : Nat) : g39_L1_I.Val → Option (outVal g39_L1_O) := (fun (x : List Int × Int × List Int × List Int × Int × Int × Unit) => g39_L1 m n x.1 x.2.1 x.2.2.1 x.2.2.2.1 x.2.2.2.2.1 x.2.2.2.2.2.1)
def g39_L1_T (m n : Nat) : LoopT := ⟨2, g39_L1_I, g39_L1_O, g39_L1_R m n⟩
theorem g39_L1_kr (m n : Nat) (x : g39_L1_I.Val) : roundK (mkC (outVal g39_L1_O) [g31_T m]) (mkLp (outVal g39_L1_O) []) tt 53 g39_H g39_B2 2 (g39_L1_I.enc x) (Kl (ins := g39_L1_I) (outs := g39_L1_O) (g39_L1_R m n)) = g39_L1 m (n + 1) x.1 x.2.1 x.2.2.1 x.2.2.2.1 x.2.2.2.2.1 x.2.2.2.2.2.1 := by kernel_rfl
theorem g39_L1_ok {E : Entry} (hE : EOf Tryz.prog E 53 g39_H.pins) (m : Nat) (n : Nat) : LoopOK Tryz.prog E g39_B2 (g39_L1_T m n) :=
  loop_ok (CO := CallOK Tryz.prog) hmix htt (fun _ _ _ _ h => h) hE (C := fun R => mkC R [g31_T m]) (L := []) (fun _ _ _ _ _ h => mkC_spec (AllF.mem (l := [g31_T m]) ⟨g31_ok m, trivial⟩) h) (fun _ _ => loopsIn_of g39_B2_ls trivial) (fun n => (g39_L1_R m n)) (fun _ => by kernel_rfl) (fun n x => (g39_L1_kr m n x).trans (by kernel_rfl)) n
abbrev g39_L0_I : SS := [(0, .a (.c (.imm (.int .i64)))), (1, .a (.c (.int .i64))), (6, .a (.c (.nm 0 (.int .i64)))), (15, .a (.c (.int .i64))), (16, .a (.c (.int .i64)))]
abbrev g39_L0_O : List (Ex × SS) := [(.exit 0, [(0, .a (.c (.imm (.int .i64)))), (1, .a (.c (.int .i64))), (6, .a (.c (.nm 0 (.int .i64))))])]
def g39_L0_R (m n : Nat) : g39_L0_I.Val → Option (outVal g39_L0_O) := (fun (x : List Int × Int × List Int × Int × Int × Unit) => g39_L0 m n x.1 x.2.1 x.2.2.1 x.2.2.2.1 x.2.2.2.2.1)
def g39_L0_T (m n : Nat) : LoopT := ⟨0, g39_L0_I, g39_L0_O, g39_L0_R m n⟩
theorem g39_L0_kr (m n : Nat) (x : g39_L0_I.Val) : roundK (mkC (outVal g39_L0_O) [g31_T m]) (mkLp (outVal g39_L0_O) []) tt 53 g39_H g39_B0 0 (g39_L0_I.enc x) (Kl (ins := g39_L0_I) (outs := g39_L0_O) (g39_L0_R m n)) = g39_L0 m (n + 1) x.1 x.2.1 x.2.2.1 x.2.2.2.1 x.2.2.2.2.1 := by kernel_rfl
theorem g39_L0_ok {E : Entry} (hE : EOf Tryz.prog E 53 g39_H.pins) (m : Nat) (n : Nat) : LoopOK Tryz.prog E g39_B0 (g39_L0_T m n) :=
  loop_ok (CO := CallOK Tryz.prog) hmix htt (fun _ _ _ _ h => h) hE (C := fun R => mkC R [g31_T m]) (L := []) (fun _ _ _ _ _ h => mkC_spec (AllF.mem (l := [g31_T m]) ⟨g31_ok m, trivial⟩) h) (fun _ _ => loopsIn_of g39_B0_ls trivial) (fun n => (g39_L0_R m n)) (fun _ => by kernel_rfl) (fun n x => (g39_L0_kr m n x).trans (by kernel_rfl)) n
theorem g39_kr (m : Nat) (x : ShLVal g39_A) : fnK (mkC (g39_S.Val × ShLVal g39_U) [g31_T m]) (mkLp (g39_S.Val × ShLVal g39_U) [g39_L0_T m m, g39_L1_T m m, g39_L2_T m m]) tt g39_H Tryz.f39 (encS g39_A x) (Kd g39_S g39_U) = g39 m x.1 x.2.1 := by kernel_rfl
theorem g39_ok (m : Nat) : FunOK Tryz.prog (g39_T m) :=
  fun_ok hmix htt (g39_T m) Tryz.func39 (c := g39_C) (by kernel_rfl) (by kernel_rfl) (Lc := [g31_T m]) (AllF.mem (l := [g31_T m]) ⟨g31_ok m, trivial⟩) (L := [g39_L0_T m m, g39_L1_T m m, g39_L2_T m m]) (fun _ hE _ _ => loopsIn_of g39_C_ls ⟨mkLp_all ⟨fun _ => g39_L0_ok hE m m, fun h => absurd (show (2 : Nat) = 0 from h) (by decide), fun h => absurd (show (4 : Nat) = 0 from h) (by decide), trivial⟩, mkLp_all ⟨fun h => absurd (show (0 : Nat) = 2 from h) (by decide), fun _ => g39_L1_ok hE m m, fun h => absurd (show (4 : Nat) = 2 from h) (by decide), trivial⟩, mkLp_all ⟨fun h => absurd (show (0 : Nat) = 4 from h) (by decide), fun h => absurd (show (2 : Nat) = 4 from h) (by decide), fun _ => g39_L2_ok hE m m, trivial⟩, trivial⟩) (fun x => (g39_kr m x).trans (by kernel_rfl))
/-! 40 sparse/matrix.selected -/
def g40_H : Hints := { regs := [⟨[], [1, 2, 3, 4, 5, 10]⟩, ⟨[], [1, 2, 3, 4, 5, 10, 11]⟩, ⟨[], [1, 2, 3, 4, 10, 11, 15, 16, 17]⟩, ⟨[], [1, 2, 3, 4, 10, 11, 15, 16, 17, 18]⟩, ⟨[], [1, 2, 3, 4, 10, 11, 13, 15, 16, 17]⟩, ⟨[(6, 1)], [1, 2, 3, 4, 10, 11, 13, 15, 16, 17, 34]⟩, ⟨[(0, 1)], [1, 2, 3, 4, 10, 11, 15, 16, 17]⟩, ⟨[(1, 1)], [1, 2, 3, 4, 10, 11, 15, 16, 17]⟩, ⟨[(0, 1), (2, 1), (4, 1)], [10]⟩], heads := [(0, [1, 2, 3, 4, 10, 11, 15, 16, 17])], exits := [(0, [1, 2, 10, 11]), (1, [1, 2, 3, 4, 10, 11, 15, 16, 17])], rets := [10], pins := [], spec := [[false, false, true, true, true]] }
abbrev g40_A : List Sh := [.a (.agg [(.int .i64), (.int .i64), (.imm (.int .i64)), (.imm (.int .i64)), (.imm (.int .u64))]), .a (.c (.imm (.int .i64))), .a (.c (.imm (.int .i64))), .a (.c (.imm (.int .i64))), .a (.c (.imm (.int .i64)))]
abbrev g40_S : Sh := .a (.agg [(.int .i64), (.int .i64), (.nm 0 (.int .i64)), (.nm 1 (.int .i64)), (.nm 2 (.int .u64))])
abbrev g40_U : List Sh := [.a (.c .dead), .a (.c .dead), .a (.c .dead), .a (.c .dead), .a (.c .dead)]
def g40_R (m : Nat) : ShLVal g40_A → Option (g40_S.Val × ShLVal g40_U) := fun (x : (Int × Int × List Int × List Int × List Int × Unit) × List Int × List Int × List Int × List Int × Unit) => g40 m x.1.1 x.1.2.1 x.1.2.2.1 x.1.2.2.2.1 x.1.2.2.2.2.1 x.2.1 x.2.2.1 x.2.2.2.1 x.2.2.2.2.1
def g40_T (m : Nat) : FunT := ⟨40, g40_A, g40_S, g40_U, g40_R m⟩
noncomputable def g40_C : Code := codeOf Tryz.f40
noncomputable def g40_B0 : Code := loopAt g40_C 0 0
theorem g40_B0_ls : loopsL g40_B0 0 = [] := by kernel_rfl
theorem g40_C_ls : loopsL g40_C 0 = [(0, g40_B0)] := by kernel_rfl
abbrev g40_L0_I : SS := [(1, .a (.c (.imm (.int .i64)))), (2, .a (.c (.imm (.int .i64)))), (3, .a (.c (.imm (.int .i64)))), (4, .a (.c (.imm (.int .i64)))), (10, .a (.bx 0 [(.int .i64), (.int .i64), (.nm 1 (.int .i64)), (.nm 2 (.int .i64)), (.nm 3 (.int .u64))])), (11, .a (.c (.nm 4 (.pr (.int .i64) (.pr (.int .i64) (.int .u64)))))), (15, .a (.c (.nm 5 (.pr (.int .i64) (.pr (.int .i64) (.int .u64)))))), (16, .a (.c (.int .i64))), (17, .a (.c (.int .i64)))]
abbrev g40_L0_O : List (Ex × SS) := [(.exit 0, [(1, .a (.c (.imm (.int .i64)))), (2, .a (.c (.imm (.int .i64)))), (10, .a (.bx 0 [(.int .i64), (.int .i64), (.nm 1 (.int .i64)), (.nm 2 (.int .i64)), (.nm 3 (.int .u64))])), (11, .a (.c (.nm 4 (.pr (.int .i64) (.pr (.int .i64) (.int .u64))))))])]
def g40_L0_R (m n : Nat) : g40_L0_I.Val → Option (outVal g40_L0_O) := (fun (x : List Int × List Int × List Int × List Int × (Int × Int × List Int × List Int × List Int × Unit) × (List (Int × Int × Int)) × (List (Int × Int × Int)) × Int × Int × Unit) => g40_L0 m n x.1 x.2.1 x.2.2.1 x.2.2.2.1 x.2.2.2.2.1.1 x.2.2.2.2.1.2.1 x.2.2.2.2.1.2.2.1 x.2.2.2.2.1.2.2.2.1 x.2.2.2.2.1.2.2.2.2.1 x.2.2.2.2.2.1 x.2.2.2.2.2.2.1 x.2.2.2.2.2.2.2.1 x.2.2.2.2.2.2.2.2.1)
def g40_L0_T (m n : Nat) : LoopT := ⟨0, g40_L0_I, g40_L0_O, g40_L0_R m n⟩
theorem g40_L0_kr (m n : Nat) (x : g40_L0_I.Val) : roundK (mkC (outVal g40_L0_O) [g38_T m, g37_T m]) (mkLp (outVal g40_L0_O) []) tt 58 g40_H g40_B0 0 (g40_L0_I.enc x) (Kl (ins := g40_L0_I) (outs := g40_L0_O) (g40_L0_R m n)) = g40_L0 m (n + 1) x.1 x.2.1 x.2.2.1 x.2.2.2.1 x.2.2.2.2.1.1 x.2.2.2.2.1.2.1 x.2.2.2.2.1.2.2.1 x.2.2.2.2.1.2.2.2.1 x.2.2.2.2.1.2.2.2.2.1 x.2.2.2.2.2.1 x.2.2.2.2.2.2.1 x.2.2.2.2.2.2.2.1 x.2.2.2.2.2.2.2.2.1 := by kernel_rfl
theorem g40_L0_ok {E : Entry} (hE : EOf Tryz.prog E 58 g40_H.pins) (m : Nat) (n : Nat) : LoopOK Tryz.prog E g40_B0 (g40_L0_T m n) :=
  loop_ok (CO := CallOK Tryz.prog) hmix htt (fun _ _ _ _ h => h) hE (C := fun R => mkC R [g38_T m, g37_T m]) (L := []) (fun _ _ _ _ _ h => mkC_spec (AllF.mem (l := [g38_T m, g37_T m]) ⟨g38_ok m, g37_ok m, trivial⟩) h) (fun _ _ => loopsIn_of g40_B0_ls trivial) (fun n => (g40_L0_R m n)) (fun _ => by kernel_rfl) (fun n x => (g40_L0_kr m n x).trans (by kernel_rfl)) n
theorem g40_kr (m : Nat) (x : ShLVal g40_A) : fnK (mkC (g40_S.Val × ShLVal g40_U) [g38_T m, g37_T m]) (mkLp (g40_S.Val × ShLVal g40_U) [g40_L0_T m m]) tt g40_H Tryz.f40 (encS g40_A x) (Kd g40_S g40_U) = g40 m x.1.1 x.1.2.1 x.1.2.2.1 x.1.2.2.2.1 x.1.2.2.2.2.1 x.2.1 x.2.2.1 x.2.2.2.1 x.2.2.2.2.1 := by kernel_rfl
theorem g40_ok (m : Nat) : FunOK Tryz.prog (g40_T m) :=
  fun_ok hmix htt (g40_T m) Tryz.func40 (c := g40_C) (by kernel_rfl) (by kernel_rfl) (Lc := [g38_T m, g37_T m]) (AllF.mem (l := [g38_T m, g37_T m]) ⟨g38_ok m, g37_ok m, trivial⟩) (L := [g40_L0_T m m]) (fun _ hE _ _ => loopsIn_of g40_C_ls ⟨mkLp_all ⟨fun _ => g40_L0_ok hE m m, trivial⟩, trivial⟩) (fun x => (g40_kr m x).trans (by kernel_rfl))
/-! 13 sparse/matrix.Permute -/
def g13_H : Hints := { regs := [⟨[], [1, 2, 3, 6]⟩, ⟨[], [1, 2, 3, 6, 8]⟩, ⟨[], [1, 2, 3, 6, 8, 14]⟩, ⟨[(1, 1)], [6, 7]⟩, ⟨[(5, 1)], [1, 2, 3, 6, 19]⟩, ⟨[], [6, 7]⟩, ⟨[(4, 1)], [1, 2, 3, 6, 8, 9]⟩, ⟨[(4, 1)], [1, 2, 3, 6, 8, 9, 10, 11]⟩, ⟨[(0, 1), (2, 1), (3, 1)], [1, 2, 3, 6, 9, 10, 52]⟩, ⟨[], [6, 7]⟩, ⟨[(1, 1), (2, 1), (3, 1), (4, 1)], [6, 7]⟩], heads := [], exits := [(0, [1, 2, 3, 6])], rets := [6, 7], pins := [], spec := [[false, false, true, true, true], [false]] }
abbrev g13_A : List Sh := [.a (.agg [(.int .i64), (.int .i64), (.imm (.int .i64)), (.imm (.int .i64)), (.imm (.int .u64))]), .a (.c (.imm (.int .i64))), .a (.c (.imm (.int .i64)))]
abbrev g13_S : Sh := .tup [(.agg [(.int .i64), (.int .i64), (.nm 0 (.int .i64)), (.nm 1 (.int .i64)), (.nm 2 (.int .u64))]), (.c (.int .i64))]
abbrev g13_U : List Sh := [.a (.c .dead), .a (.c .dead), .a (.c .dead)]
def g13_R (m : Nat) : ShLVal g13_A → Option (g13_S.Val × ShLVal g13_U) := fun (x : (Int × Int × List Int × List Int × List Int × Unit) × List Int × List Int × Unit) => g13 m x.1.1 x.1.2.1 x.1.2.2.1 x.1.2.2.2.1 x.1.2.2.2.2.1 x.2.1 x.2.2.1
def g13_T (m : Nat) : FunT := ⟨13, g13_A, g13_S, g13_U, g13_R m⟩
noncomputable def g13_C : Code := codeOf Tryz.f13
theorem g13_C_ls : loopsL g13_C 0 = [] := by kernel_rfl
theorem g13_kr (m : Nat) (x : ShLVal g13_A) : fnK (mkC (g13_S.Val × ShLVal g13_U) [g28_T m, g39_T m, g40_T m]) (mkLp (g13_S.Val × ShLVal g13_U) []) tt g13_H Tryz.f13 (encS g13_A x) (Kd g13_S g13_U) = g13 m x.1.1 x.1.2.1 x.1.2.2.1 x.1.2.2.2.1 x.1.2.2.2.2.1 x.2.1 x.2.2.1 := by kernel_rfl
theorem g13_ok (m : Nat) : FunOK Tryz.prog (g13_T m) :=
  fun_ok hmix htt (g13_T m) Tryz.func13 (c := g13_C) (by kernel_rfl) (by kernel_rfl) (Lc := [g28_T m, g39_T m, g40_T m]) (AllF.mem (l := [g28_T m, g39_T m, g40_T m]) ⟨g28_ok m, g39_ok m, g40_ok m, trivial⟩) (L := []) (fun _ hE _ _ => loopsIn_of g13_C_ls trivial) (fun x => (g13_kr m x).trans (by kernel_rfl))
/-! 14 sparse/sparsekit.Invert -/
/-! 41 sparse/sparsekit.Floats -/
def g41_H : Hints := { regs := [⟨[], [0, 1]⟩, ⟨[], [0, 1, 10]⟩, ⟨[], [4]⟩, ⟨[], [0, 1, 5]⟩, ⟨[], [0, 1, 5, 14]⟩, ⟨[(0, 1)], [0, 1, 5]⟩, ⟨[], [0, 1, 5, 25]⟩, ⟨[], [4]⟩, ⟨[], [4]⟩], heads := [(0, [0, 1, 5])], exits := [(0, []), (1, [0, 1, 5])], rets := [4], pins := [], spec := [[false]] }
abbrev g41_A : List Sh := [.a (.c (.imm (.int .u64))), .a (.c (.imm (.int .u64)))]
abbrev g41_S : Sh := .a (.c .bool)
abbrev g41_U : List Sh := [.a (.c .dead), .a (.c .dead)]
def g41_R (m : Nat) : ShLVal g41_A → Option (g41_S.Val × ShLVal g41_U) := fun (x : List Int × List Int × Unit) => g41 m x.1 x.2.1
def g41_T (m : Nat) : FunT := ⟨41, g41_A, g41_S, g41_U, g41_R m⟩
noncomputable def g41_C : Code := codeOf Tryz.f41
noncomputable def g41_B0 : Code := loopAt g41_C 0 0
theorem g41_B0_ls : loopsL g41_B0 0 = [] := by kernel_rfl
theorem g41_C_ls : loopsL g41_C 0 = [(0, g41_B0)] := by kernel_rfl
abbrev g41_L0_I : SS := [(0, .a (.c (.imm (.int .u64)))), (1, .a (.c (.imm (.int .u64)))), (5, .a (.c (.int .i64)))]
abbrev g41_L0_O : List (Ex × SS) := [(.ret, [(4, .a (.c .bool))]), (.exit 0, [])]
def g41_L0_R (m n : Nat) : g41_L0_I.Val → Option (outVal g41_L0_O) := (fun (x : List Int × List Int × Int × Unit) => g41_L0 m n x.1 x.2.1 x.2.2.1)
def g41_L0_T (m n : Nat) : LoopT := ⟨0, g41_L0_I, g41_L0_O, g41_L0_R m n⟩
theorem g41_L0_kr (m n : Nat) (x : g41_L0_I.Val) : roundK (mkC (outVal g41_L0_O) []) (mkLp (outVal g41_L0_O) []) tt 26 g41_H g41_B0 0 (g41_L0_I.enc x) (Kl (ins := g41_L0_I) (outs := g41_L0_O) (g41_L0_R m n)) = g41_L0 m (n + 1) x.1 x.2.1 x.2.2.1 := by kernel_rfl
theorem g41_L0_ok {E : Entry} (hE : EOf Tryz.prog E 26 g41_H.pins) (m : Nat) (n : Nat) : LoopOK Tryz.prog E g41_B0 (g41_L0_T m n) :=
  loop_ok (CO := CallOK Tryz.prog) hmix htt (fun _ _ _ _ h => h) hE (C := fun R => mkC R []) (L := []) (fun _ _ _ _ _ h => mkC_spec (AllF.mem (l := []) trivial) h) (fun _ _ => loopsIn_of g41_B0_ls trivial) (fun n => (g41_L0_R m n)) (fun _ => by kernel_rfl) (fun n x => (g41_L0_kr m n x).trans (by kernel_rfl)) n
theorem g41_kr (m : Nat) (x : ShLVal g41_A) : fnK (mkC (g41_S.Val × ShLVal g41_U) []) (mkLp (g41_S.Val × ShLVal g41_U) [g41_L0_T m m]) tt g41_H Tryz.f41 (encS g41_A x) (Kd g41_S g41_U) = g41 m x.1 x.2.1 := by kernel_rfl
theorem g41_ok (m : Nat) : FunOK Tryz.prog (g41_T m) :=
  fun_ok hmix htt (g41_T m) Tryz.func41 (c := g41_C) (by kernel_rfl) (by kernel_rfl) (Lc := []) (AllF.mem (l := []) trivial) (L := [g41_L0_T m m]) (fun _ hE _ _ => loopsIn_of g41_C_ls ⟨mkLp_all ⟨fun _ => g41_L0_ok hE m m, trivial⟩, trivial⟩) (fun x => (g41_kr m x).trans (by kernel_rfl))
/-! 15 sparse/sparsekit.Matrix -/
def g15_H : Hints := { regs := [⟨[], [2, 3]⟩, ⟨[(5, 1), (12, 1), (19, 1), (26, 1)], [4]⟩], heads := [], exits := [], rets := [4], pins := [], spec := [[false]] }
abbrev g15_A : List Sh := [.a (.agg [(.int .i64), (.int .i64), (.imm (.int .i64)), (.imm (.int .i64)), (.imm (.int .u64))]), .a (.agg [(.int .i64), (.int .i64), (.imm (.int .i64)), (.imm (.int .i64)), (.imm (.int .u64))])]
abbrev g15_S : Sh := .a (.c .bool)
abbrev g15_U : List Sh := [.a (.c .dead), .a (.c .dead)]
def g15_R (m : Nat) : ShLVal g15_A → Option (g15_S.Val × ShLVal g15_U) := fun (x : (Int × Int × List Int × List Int × List Int × Unit) × (Int × Int × List Int × List Int × List Int × Unit) × Unit) => g15 m x.1.1 x.1.2.1 x.1.2.2.1 x.1.2.2.2.1 x.1.2.2.2.2.1 x.2.1.1 x.2.1.2.1 x.2.1.2.2.1 x.2.1.2.2.2.1 x.2.1.2.2.2.2.1
def g15_T (m : Nat) : FunT := ⟨15, g15_A, g15_S, g15_U, g15_R m⟩
noncomputable def g15_C : Code := codeOf Tryz.f15
theorem g15_C_ls : loopsL g15_C 0 = [] := by kernel_rfl
theorem g15_kr (m : Nat) (x : ShLVal g15_A) : fnK (mkC (g15_S.Val × ShLVal g15_U) [g27_T m, g41_T m]) (mkLp (g15_S.Val × ShLVal g15_U) []) tt g15_H Tryz.f15 (encS g15_A x) (Kd g15_S g15_U) = g15 m x.1.1 x.1.2.1 x.1.2.2.1 x.1.2.2.2.1 x.1.2.2.2.2.1 x.2.1.1 x.2.1.2.1 x.2.1.2.2.1 x.2.1.2.2.2.1 x.2.1.2.2.2.2.1 := by kernel_rfl
theorem g15_ok (m : Nat) : FunOK Tryz.prog (g15_T m) :=
  fun_ok hmix htt (g15_T m) Tryz.func15 (c := g15_C) (by kernel_rfl) (by kernel_rfl) (Lc := [g27_T m, g41_T m]) (AllF.mem (l := [g27_T m, g41_T m]) ⟨g27_ok m, g41_ok m, trivial⟩) (L := []) (fun _ hE _ _ => loopsIn_of g15_C_ls trivial) (fun x => (g15_kr m x).trans (by kernel_rfl))
/-! 3 sparse/sparselaw09.MatrixRound -/
/-! 16 sparse/sparselaw09.small -/
def sparselaw09_small_H : Hints := { regs := [⟨[], [1]⟩, ⟨[(4, 1), (10, 1), (16, 1), (20, 1), (26, 1), (30, 1)], [2]⟩], heads := [], exits := [], rets := [2], pins := [], spec := [[false]] }
abbrev sparselaw09_small_A : List Sh := [.a (.agg [(.int .i64), (.int .i64), (.imm (.int .i64)), (.imm (.int .i64)), (.imm (.int .u64))])]
abbrev sparselaw09_small_S : Sh := .a (.c .bool)
abbrev sparselaw09_small_U : List Sh := [.a (.c .dead)]
def sparselaw09_small_R (m : Nat) : ShLVal sparselaw09_small_A → Option (sparselaw09_small_S.Val × ShLVal sparselaw09_small_U) := fun (x : (Int × Int × List Int × List Int × List Int × Unit) × Unit) => sparselaw09_small m x.1.1 x.1.2.1 x.1.2.2.1 x.1.2.2.2.1 x.1.2.2.2.2.1
def sparselaw09_small_T (m : Nat) : FunT := ⟨16, sparselaw09_small_A, sparselaw09_small_S, sparselaw09_small_U, sparselaw09_small_R m⟩
noncomputable def sparselaw09_small_C : Code := codeOf Tryz.f16
theorem sparselaw09_small_C_ls : loopsL sparselaw09_small_C 0 = [] := by kernel_rfl
theorem sparselaw09_small_kr (m : Nat) (x : ShLVal sparselaw09_small_A) : fnK (mkC (sparselaw09_small_S.Val × ShLVal sparselaw09_small_U) []) (mkLp (sparselaw09_small_S.Val × ShLVal sparselaw09_small_U) []) tt sparselaw09_small_H Tryz.f16 (encS sparselaw09_small_A x) (Kd sparselaw09_small_S sparselaw09_small_U) = sparselaw09_small m x.1.1 x.1.2.1 x.1.2.2.1 x.1.2.2.2.1 x.1.2.2.2.2.1 := by kernel_rfl
theorem sparselaw09_small_ok (m : Nat) : FunOK Tryz.prog (sparselaw09_small_T m) :=
  fun_ok hmix htt (sparselaw09_small_T m) Tryz.func16 (c := sparselaw09_small_C) (by kernel_rfl) (by kernel_rfl) (Lc := []) (AllF.mem (l := []) trivial) (L := []) (fun _ hE _ _ => loopsIn_of sparselaw09_small_C_ls trivial) (fun x => (sparselaw09_small_kr m x).trans (by kernel_rfl))
/-! 114 sparse/sparseref03.IsFinite -/
def g114_H : Hints := { regs := [⟨[], [0]⟩, ⟨[(0, 1)], [2]⟩], heads := [], exits := [], rets := [2], pins := [], spec := [[false]] }
abbrev g114_A : List Sh := [.a (.c (.int .u64))]
abbrev g114_S : Sh := .a (.c .bool)
abbrev g114_U : List Sh := [.a (.c .dead)]
def g114_R (m : Nat) : ShLVal g114_A → Option (g114_S.Val × ShLVal g114_U) := fun (x : Int × Unit) => g114 m x.1
def g114_T (m : Nat) : FunT := ⟨114, g114_A, g114_S, g114_U, g114_R m⟩
noncomputable def g114_C : Code := codeOf Tryz.f114
theorem g114_C_ls : loopsL g114_C 0 = [] := by kernel_rfl
theorem g114_kr (m : Nat) (x : ShLVal g114_A) : fnK (mkC (g114_S.Val × ShLVal g114_U) []) (mkLp (g114_S.Val × ShLVal g114_U) []) tt g114_H Tryz.f114 (encS g114_A x) (Kd g114_S g114_U) = g114 m x.1 := by kernel_rfl
theorem g114_ok (m : Nat) : FunOK Tryz.prog (g114_T m) :=
  fun_ok hmix htt (g114_T m) Tryz.func114 (c := g114_C) (by kernel_rfl) (by kernel_rfl) (Lc := []) (AllF.mem (l := []) trivial) (L := []) (fun _ hE _ _ => loopsIn_of g114_C_ls trivial) (fun x => (g114_kr m x).trans (by kernel_rfl))
/-! 77 sparse/sparseref06.Finite -/
def g77_H : Hints := { regs := [⟨[], [0]⟩, ⟨[], [0, 3]⟩, ⟨[], [0, 3, 7]⟩, ⟨[(0, 1)], [0, 3]⟩, ⟨[], [0, 3, 15]⟩, ⟨[], [2]⟩, ⟨[], [2]⟩], heads := [(0, [0, 3])], exits := [(0, []), (1, [0, 3])], rets := [2], pins := [], spec := [[false]] }
abbrev g77_A : List Sh := [.a (.c (.imm (.int .u64)))]
abbrev g77_S : Sh := .a (.c .bool)
abbrev g77_U : List Sh := [.a (.c .dead)]
def g77_R (m : Nat) : ShLVal g77_A → Option (g77_S.Val × ShLVal g77_U) := fun (x : List Int × Unit) => g77 m x.1
def g77_T (m : Nat) : FunT := ⟨77, g77_A, g77_S, g77_U, g77_R m⟩
noncomputable def g77_C : Code := codeOf Tryz.f77
noncomputable def g77_B0 : Code := loopAt g77_C 0 0
theorem g77_B0_ls : loopsL g77_B0 0 = [] := by kernel_rfl
theorem g77_C_ls : loopsL g77_C 0 = [(0, g77_B0)] := by kernel_rfl
abbrev g77_L0_I : SS := [(0, .a (.c (.imm (.int .u64)))), (3, .a (.c (.int .i64)))]
abbrev g77_L0_O : List (Ex × SS) := [(.ret, [(2, .a (.c .bool))]), (.exit 0, [])]
def g77_L0_R (m n : Nat) : g77_L0_I.Val → Option (outVal g77_L0_O) := (fun (x : List Int × Int × Unit) => g77_L0 m n x.1 x.2.1)
def g77_L0_T (m n : Nat) : LoopT := ⟨0, g77_L0_I, g77_L0_O, g77_L0_R m n⟩
theorem g77_L0_kr (m n : Nat) (x : g77_L0_I.Val) : roundK (mkC (outVal g77_L0_O) [g114_T m]) (mkLp (outVal g77_L0_O) []) tt 16 g77_H g77_B0 0 (g77_L0_I.enc x) (Kl (ins := g77_L0_I) (outs := g77_L0_O) (g77_L0_R m n)) = g77_L0 m (n + 1) x.1 x.2.1 := by kernel_rfl
theorem g77_L0_ok {E : Entry} (hE : EOf Tryz.prog E 16 g77_H.pins) (m : Nat) (n : Nat) : LoopOK Tryz.prog E g77_B0 (g77_L0_T m n) :=
  loop_ok (CO := CallOK Tryz.prog) hmix htt (fun _ _ _ _ h => h) hE (C := fun R => mkC R [g114_T m]) (L := []) (fun _ _ _ _ _ h => mkC_spec (AllF.mem (l := [g114_T m]) ⟨g114_ok m, trivial⟩) h) (fun _ _ => loopsIn_of g77_B0_ls trivial) (fun n => (g77_L0_R m n)) (fun _ => by kernel_rfl) (fun n x => (g77_L0_kr m n x).trans (by kernel_rfl)) n
theorem g77_kr (m : Nat) (x : ShLVal g77_A) : fnK (mkC (g77_S.Val × ShLVal g77_U) [g114_T m]) (mkLp (g77_S.Val × ShLVal g77_U) [g77_L0_T m m]) tt g77_H Tryz.f77 (encS g77_A x) (Kd g77_S g77_U) = g77 m x.1 := by kernel_rfl
theorem g77_ok (m : Nat) : FunOK Tryz.prog (g77_T m) :=
  fun_ok hmix htt (g77_T m) Tryz.func77 (c := g77_C) (by kernel_rfl) (by kernel_rfl) (Lc := [g114_T m]) (AllF.mem (l := [g114_T m]) ⟨g114_ok m, trivial⟩) (L := [g77_L0_T m m]) (fun _ hE _ _ => loopsIn_of g77_C_ls ⟨mkLp_all ⟨fun _ => g77_L0_ok hE m m, trivial⟩, trivial⟩) (fun x => (g77_kr m x).trans (by kernel_rfl))
/-! 42 sparse/sparseref09.Check -/
def g42_H : Hints := { regs := [⟨[], [1]⟩, ⟨[(3, 1), (8, 1), (13, 1), (18, 1)], [1, 30]⟩, ⟨[], [2]⟩, ⟨[], [1, 3]⟩, ⟨[(5, 1), (14, 1), (21, 1)], [1, 64]⟩, ⟨[], [2]⟩, ⟨[], [1, 4]⟩, ⟨[], [1, 4, 68]⟩, ⟨[(0, 1)], [1, 4]⟩, ⟨[], [1, 4, 82]⟩, ⟨[], [2]⟩, ⟨[], [1, 5]⟩, ⟨[], [1, 5, 86]⟩, ⟨[(0, 1)], [1, 5]⟩, ⟨[], [1, 5, 6]⟩, ⟨[], [1, 5, 6, 101]⟩, ⟨[(0, 1)], [1, 5, 6]⟩, ⟨[(6, 1), (16, 1), (24, 1)], [1, 5, 6, 142]⟩, ⟨[], [2]⟩, ⟨[], [146]⟩, ⟨[], [2]⟩, ⟨[], [2]⟩], heads := [(0, [1, 4]), (2, [1, 5]), (4, [1, 5, 6])], exits := [(0, [1]), (1, [1, 4]), (2, [1]), (3, [1, 5]), (4, [1, 5]), (5, [1, 5, 6])], rets := [2], pins := [], spec := [[false]] }
abbrev g42_A : List Sh := [.a (.agg [(.int .i64), (.int .i64), (.imm (.int .i64)), (.imm (.int .i64)), (.imm (.int .u64))])]
abbrev g42_S : Sh := .a (.c (.int .i64))
abbrev g42_U : List Sh := [.a (.c .dead)]
def g42_R (m : Nat) : ShLVal g42_A → Option (g42_S.Val × ShLVal g42_U) := fun (x : (Int × Int × List Int × List Int × List Int × Unit) × Unit) => g42 m x.1.1 x.1.2.1 x.1.2.2.1 x.1.2.2.2.1 x.1.2.2.2.2.1
def g42_T (m : Nat) : FunT := ⟨42, g42_A, g42_S, g42_U, g42_R m⟩
noncomputable def g42_C : Code := codeOf Tryz.f42
noncomputable def g42_B0 : Code := loopAt g42_C 0 0
theorem g42_B0_ls : loopsL g42_B0 0 = [] := by kernel_rfl
noncomputable def g42_B2 : Code := loopAt g42_C 0 1
noncomputable def g42_B4 : Code := loopAt g42_B2 2 0
theorem g42_B4_ls : loopsL g42_B4 4 = [] := by kernel_rfl
theorem g42_B2_ls : loopsL g42_B2 2 = [(4, g42_B4)] := by kernel_rfl
theorem g42_C_ls : loopsL g42_C 0 = [(0, g42_B0), (2, g42_B2)] := by kernel_rfl
abbrev g42_L2_I : SS := [(1, .a (.bx 0 [(.int .i64), (.int .i64), (.imm (.int .i64)), (.imm (.int .i64)), (.imm (.int .u64))])), (5, .a (.c (.int .i64))), (6, .a (.c (.int .i64)))]
abbrev g42_L2_O : List (Ex × SS) := [(.ret, [(2, .a (.c (.int .i64)))]), (.exit 4, [(1, .a (.bx 0 [(.int .i64), (.int .i64), (.imm (.int .i64)), (.imm (.int .i64)), (.imm (.int .u64))])), (5, .a (.c (.int .i64)))])]
def g42_L2_R (m n : Nat) : g42_L2_I.Val → Option (outVal g42_L2_O) := (fun (x : (Int × Int × List Int × List Int × List Int × Unit) × Int × Int × Unit) => g42_L2 m n x.1.1 x.1.2.1 x.1.2.2.1 x.1.2.2.2.1 x.1.2.2.2.2.1 x.2.1 x.2.2.1)
def g42_L2_T (m n : Nat) : LoopT := ⟨4, g42_L2_I, g42_L2_O, g42_L2_R m n⟩
theorem g42_L2_kr (m n : Nat) (x : g42_L2_I.Val) : roundK (mkC (outVal g42_L2_O) [g77_T m]) (mkLp (outVal g42_L2_O) []) tt 147 g42_H g42_B4 4 (g42_L2_I.enc x) (Kl (ins := g42_L2_I) (outs := g42_L2_O) (g42_L2_R m n)) = g42_L2 m (n + 1) x.1.1 x.1.2.1 x.1.2.2.1 x.1.2.2.2.1 x.1.2.2.2.2.1 x.2.1 x.2.2.1 := by kernel_rfl
theorem g42_L2_ok {E : Entry} (hE : EOf Tryz.prog E 147 g42_H.pins) (m : Nat) (n : Nat) : LoopOK Tryz.prog E g42_B4 (g42_L2_T m n) :=
  loop_ok (CO := CallOK Tryz.prog) hmix htt (fun _ _ _ _ h => h) hE (C := fun R => mkC R [g77_T m]) (L := []) (fun _ _ _ _ _ h => mkC_spec (AllF.mem (l := [g77_T m]) ⟨g77_ok m, trivial⟩) h) (fun _ _ => loopsIn_of g42_B4_ls trivial) (fun n => (g42_L2_R m n)) (fun _ => by kernel_rfl) (fun n x => (g42_L2_kr m n x).trans (by kernel_rfl)) n
abbrev g42_L1_I : SS := [(1, .a (.bx 0 [(.int .i64), (.int .i64), (.imm (.int .i64)), (.imm (.int .i64)), (.imm (.int .u64))])), (5, .a (.c (.int .i64)))]
abbrev g42_L1_O : List (Ex × SS) := [(.ret, [(2, .a (.c (.int .i64)))]), (.exit 2, [(1, .a (.bx 0 [(.int .i64), (.int .i64), (.imm (.int .i64)), (.imm (.int .i64)), (.imm (.int .u64))]))])]
def g42_L1_R (m n : Nat) : g42_L1_I.Val → Option (outVal g42_L1_O) := (fun (x : (Int × Int × List Int × List Int × List Int × Unit) × Int × Unit) => g42_L1 m n x.1.1 x.1.2.1 x.1.2.2.1 x.1.2.2.2.1 x.1.2.2.2.2.1 x.2.1)
def g42_L1_T (m n : Nat) : LoopT := ⟨2, g42_L1_I, g42_L1_O, g42_L1_R m n⟩
theorem g42_L1_kr (m n : Nat) (x : g42_L1_I.Val) : roundK (mkC (outVal g42_L1_O) [g77_T m]) (mkLp (outVal g42_L1_O) [g42_L2_T m m]) tt 147 g42_H g42_B2 2 (g42_L1_I.enc x) (Kl (ins := g42_L1_I) (outs := g42_L1_O) (g42_L1_R m n)) = g42_L1 m (n + 1) x.1.1 x.1.2.1 x.1.2.2.1 x.1.2.2.2.1 x.1.2.2.2.2.1 x.2.1 := by kernel_rfl
theorem g42_L1_ok {E : Entry} (hE : EOf Tryz.prog E 147 g42_H.pins) (m : Nat) (n : Nat) : LoopOK Tryz.prog E g42_B2 (g42_L1_T m n) :=
  loop_ok (CO := CallOK Tryz.prog) hmix htt (fun _ _ _ _ h => h) hE (C := fun R => mkC R [g77_T m]) (L := [g42_L2_T m m]) (fun _ _ _ _ _ h => mkC_spec (AllF.mem (l := [g77_T m]) ⟨g77_ok m, trivial⟩) h) (fun _ _ => loopsIn_of g42_B2_ls ⟨mkLp_all ⟨fun _ => g42_L2_ok hE m m, trivial⟩, trivial⟩) (fun n => (g42_L1_R m n)) (fun _ => by kernel_rfl) (fun n x => (g42_L1_kr m n x).trans (by kernel_rfl)) n
abbrev g42_L0_I : SS := [(1, .a (.bx 0 [(.int .i64), (.int .i64), (.imm (.int .i64)), (.imm (.int .i64)), (.imm (.int .u64))])), (4, .a (.c (.int .i64)))]
abbrev g42_L0_O : List (Ex × SS) := [(.ret, [(2, .a (.c (.int .i64)))]), (.exit 0, [(1, .a (.bx 0 [(.int .i64), (.int .i64), (.imm (.int .i64)), (.imm (.int .i64)), (.imm (.int .u64))]))])]
def g42_L0_R (m n : Nat) : g42_L0_I.Val → Option (outVal g42_L0_O) := (fun (x : (Int × Int × List Int × List Int × List Int × Unit) × Int × Unit) => g42_L0 m n x.1.1 x.1.2.1 x.1.2.2.1 x.1.2.2.2.1 x.1.2.2.2.2.1 x.2.1)
def g42_L0_T (m n : Nat) : LoopT := ⟨0, g42_L0_I, g42_L0_O, g42_L0_R m n⟩
theorem g42_L0_kr (m n : Nat) (x : g42_L0_I.Val) : roundK (mkC (outVal g42_L0_O) [g77_T m]) (mkLp (outVal g42_L0_O) []) tt 147 g42_H g42_B0 0 (g42_L0_I.enc x) (Kl (ins := g42_L0_I) (outs := g42_L0_O) (g42_L0_R m n)) = g42_L0 m (n + 1) x.1.1 x.1.2.1 x.1.2.2.1 x.1.2.2.2.1 x.1.2.2.2.2.1 x.2.1 := by kernel_rfl
theorem g42_L0_ok {E : Entry} (hE : EOf Tryz.prog E 147 g42_H.pins) (m : Nat) (n : Nat) : LoopOK Tryz.prog E g42_B0 (g42_L0_T m n) :=
  loop_ok (CO := CallOK Tryz.prog) hmix htt (fun _ _ _ _ h => h) hE (C := fun R => mkC R [g77_T m]) (L := []) (fun _ _ _ _ _ h => mkC_spec (AllF.mem (l := [g77_T m]) ⟨g77_ok m, trivial⟩) h) (fun _ _ => loopsIn_of g42_B0_ls trivial) (fun n => (g42_L0_R m n)) (fun _ => by kernel_rfl) (fun n x => (g42_L0_kr m n x).trans (by kernel_rfl)) n
theorem g42_kr (m : Nat) (x : ShLVal g42_A) : fnK (mkC (g42_S.Val × ShLVal g42_U) [g77_T m]) (mkLp (g42_S.Val × ShLVal g42_U) [g42_L0_T m m, g42_L1_T m m]) tt g42_H Tryz.f42 (encS g42_A x) (Kd g42_S g42_U) = g42 m x.1.1 x.1.2.1 x.1.2.2.1 x.1.2.2.2.1 x.1.2.2.2.2.1 := by kernel_rfl
theorem g42_ok (m : Nat) : FunOK Tryz.prog (g42_T m) :=
  fun_ok hmix htt (g42_T m) Tryz.func42 (c := g42_C) (by kernel_rfl) (by kernel_rfl) (Lc := [g77_T m]) (AllF.mem (l := [g77_T m]) ⟨g77_ok m, trivial⟩) (L := [g42_L0_T m m, g42_L1_T m m]) (fun _ hE _ _ => loopsIn_of g42_C_ls ⟨mkLp_all ⟨fun _ => g42_L0_ok hE m m, fun h => absurd (show (2 : Nat) = 0 from h) (by decide), trivial⟩, mkLp_all ⟨fun h => absurd (show (0 : Nat) = 2 from h) (by decide), fun _ => g42_L1_ok hE m m, trivial⟩, trivial⟩) (fun x => (g42_kr m x).trans (by kernel_rfl))
/-! 43 sparse/sparseref09.Entries -/
def g43_H : Hints := { regs := [⟨[], [1]⟩, ⟨[], [1, 8]⟩, ⟨[], [2]⟩, ⟨[], [1, 3]⟩, ⟨[], [1, 3, 4]⟩, ⟨[], [1, 3, 4, 12]⟩, ⟨[(0, 1)], [1, 3, 4]⟩, ⟨[], [1, 3, 4, 5]⟩, ⟨[], [1, 3, 4, 5, 27]⟩, ⟨[(0, 1)], [1, 3, 4, 5]⟩, ⟨[(0, 1)], [1, 3, 4, 5]⟩, ⟨[(0, 1)], [2]⟩], heads := [(0, [1, 3, 4]), (2, [1, 3, 4, 5])], exits := [(0, [3]), (1, [1, 3, 4]), (2, [1, 3, 4]), (3, [1, 3, 4, 5])], rets := [2], pins := [], spec := [[true]] }
abbrev g43_A : List Sh := [.a (.agg [(.int .i64), (.int .i64), (.imm (.int .i64)), (.imm (.int .i64)), (.imm (.int .u64))])]
abbrev g43_S : Sh := .a (.c (.nm 0 (.pr (.int .i64) (.pr (.int .i64) (.int .u64)))))
abbrev g43_U : List Sh := [.a (.c .dead)]
def g43_R (m : Nat) : ShLVal g43_A → Option (g43_S.Val × ShLVal g43_U) := fun (x : (Int × Int × List Int × List Int × List Int × Unit) × Unit) => g43 m x.1.1 x.1.2.1 x.1.2.2.1 x.1.2.2.2.1 x.1.2.2.2.2.1
def g43_T (m : Nat) : FunT := ⟨43, g43_A, g43_S, g43_U, g43_R m⟩
noncomputable def g43_C : Code := codeOf Tryz.f43
noncomputable def g43_B0 : Code := loopAt g43_C 0 0
noncomputable def g43_B2 : Code := loopAt g43_B0 0 0
theorem g43_B2_ls : loopsL g43_B2 2 = [] := by kernel_rfl
theorem g43_B0_ls : loopsL g43_B0 0 = [(2, g43_B2)] := by kernel_rfl
theorem g43_C_ls : loopsL g43_C 0 = [(0, g43_B0)] := by kernel_rfl
abbrev g43_L1_I : SS := [(1, .a (.bx 0 [(.int .i64), (.int .i64), (.imm (.int .i64)), (.imm (.int .i64)), (.imm (.int .u64))])), (3, .a (.c (.nm 1 (.pr (.int .i64) (.pr (.int .i64) (.int .u64)))))), (4, .a (.c (.int .i64))), (5, .a (.c (.int .i64)))]
abbrev g43_L1_O : List (Ex × SS) := [(.exit 2, [(1, .a (.bx 0 [(.int .i64), (.int .i64), (.imm (.int .i64)), (.imm (.int .i64)), (.imm (.int .u64))])), (3, .a (.c (.nm 1 (.pr (.int .i64) (.pr (.int .i64) (.int .u64)))))), (4, .a (.c (.int .i64)))])]
def g43_L1_R (m n : Nat) : g43_L1_I.Val → Option (outVal g43_L1_O) := (fun (x : (Int × Int × List Int × List Int × List Int × Unit) × (List (Int × Int × Int)) × Int × Int × Unit) => g43_L1 m n x.1.1 x.1.2.1 x.1.2.2.1 x.1.2.2.2.1 x.1.2.2.2.2.1 x.2.1 x.2.2.1 x.2.2.2.1)
def g43_L1_T (m n : Nat) : LoopT := ⟨2, g43_L1_I, g43_L1_O, g43_L1_R m n⟩
theorem g43_L1_kr (m n : Nat) (x : g43_L1_I.Val) : roundK (mkC (outVal g43_L1_O) [g42_T m]) (mkLp (outVal g43_L1_O) []) tt 46 g43_H g43_B2 2 (g43_L1_I.enc x) (Kl (ins := g43_L1_I) (outs := g43_L1_O) (g43_L1_R m n)) = g43_L1 m (n + 1) x.1.1 x.1.2.1 x.1.2.2.1 x.1.2.2.2.1 x.1.2.2.2.2.1 x.2.1 x.2.2.1 x.2.2.2.1 := by kernel_rfl
theorem g43_L1_ok {E : Entry} (hE : EOf Tryz.prog E 46 g43_H.pins) (m : Nat) (n : Nat) : LoopOK Tryz.prog E g43_B2 (g43_L1_T m n) :=
  loop_ok (CO := CallOK Tryz.prog) hmix htt (fun _ _ _ _ h => h) hE (C := fun R => mkC R [g42_T m]) (L := []) (fun _ _ _ _ _ h => mkC_spec (AllF.mem (l := [g42_T m]) ⟨g42_ok m, trivial⟩) h) (fun _ _ => loopsIn_of g43_B2_ls trivial) (fun n => (g43_L1_R m n)) (fun _ => by kernel_rfl) (fun n x => (g43_L1_kr m n x).trans (by kernel_rfl)) n
abbrev g43_L0_I : SS := [(1, .a (.bx 0 [(.int .i64), (.int .i64), (.imm (.int .i64)), (.imm (.int .i64)), (.imm (.int .u64))])), (3, .a (.c (.nm 1 (.pr (.int .i64) (.pr (.int .i64) (.int .u64)))))), (4, .a (.c (.int .i64)))]
abbrev g43_L0_O : List (Ex × SS) := [(.exit 0, [(3, .a (.c (.nm 0 (.pr (.int .i64) (.pr (.int .i64) (.int .u64))))))])]
def g43_L0_R (m n : Nat) : g43_L0_I.Val → Option (outVal g43_L0_O) := (fun (x : (Int × Int × List Int × List Int × List Int × Unit) × (List (Int × Int × Int)) × Int × Unit) => g43_L0 m n x.1.1 x.1.2.1 x.1.2.2.1 x.1.2.2.2.1 x.1.2.2.2.2.1 x.2.1 x.2.2.1)
def g43_L0_T (m n : Nat) : LoopT := ⟨0, g43_L0_I, g43_L0_O, g43_L0_R m n⟩
theorem g43_L0_kr (m n : Nat) (x : g43_L0_I.Val) : roundK (mkC (outVal g43_L0_O) [g42_T m]) (mkLp (outVal g43_L0_O) [g43_L1_T m m]) tt 46 g43_H g43_B0 0 (g43_L0_I.enc x) (Kl (ins := g43_L0_I) (outs := g43_L0_O) (g43_L0_R m n)) = g43_L0 m (n + 1) x.1.1 x.1.2.1 x.1.2.2.1 x.1.2.2.2.1 x.1.2.2.2.2.1 x.2.1 x.2.2.1 := by kernel_rfl
theorem g43_L0_ok {E : Entry} (hE : EOf Tryz.prog E 46 g43_H.pins) (m : Nat) (n : Nat) : LoopOK Tryz.prog E g43_B0 (g43_L0_T m n) :=
  loop_ok (CO := CallOK Tryz.prog) hmix htt (fun _ _ _ _ h => h) hE (C := fun R => mkC R [g42_T m]) (L := [g43_L1_T m m]) (fun _ _ _ _ _ h => mkC_spec (AllF.mem (l := [g42_T m]) ⟨g42_ok m, trivial⟩) h) (fun _ _ => loopsIn_of g43_B0_ls ⟨mkLp_all ⟨fun _ => g43_L1_ok hE m m, trivial⟩, trivial⟩) (fun n => (g43_L0_R m n)) (fun _ => by kernel_rfl) (fun n x => (g43_L0_kr m n x).trans (by kernel_rfl)) n
theorem g43_kr (m : Nat) (x : ShLVal g43_A) : fnK (mkC (g43_S.Val × ShLVal g43_U) [g42_T m]) (mkLp (g43_S.Val × ShLVal g43_U) [g43_L0_T m m]) tt g43_H Tryz.f43 (encS g43_A x) (Kd g43_S g43_U) = g43 m x.1.1 x.1.2.1 x.1.2.2.1 x.1.2.2.2.1 x.1.2.2.2.2.1 := by kernel_rfl
theorem g43_ok (m : Nat) : FunOK Tryz.prog (g43_T m) :=
  fun_ok hmix htt (g43_T m) Tryz.func43 (c := g43_C) (by kernel_rfl) (by kernel_rfl) (Lc := [g42_T m]) (AllF.mem (l := [g42_T m]) ⟨g42_ok m, trivial⟩) (L := [g43_L0_T m m]) (fun _ hE _ _ => loopsIn_of g43_C_ls ⟨mkLp_all ⟨fun _ => g43_L0_ok hE m m, trivial⟩, trivial⟩) (fun x => (g43_kr m x).trans (by kernel_rfl))
/-! 17 sparse/sparseref09.Transpose -/
def g17_H : Hints := { regs := [⟨[], [1, 2]⟩, ⟨[], [1, 2, 4]⟩, ⟨[], [1, 2, 4, 10]⟩, ⟨[(1, 1)], [2, 3]⟩, ⟨[], [1, 2, 5]⟩, ⟨[], [1, 2, 5, 6]⟩, ⟨[], [1, 2, 5, 6, 18]⟩, ⟨[(0, 1)], [1, 2, 5, 6]⟩, ⟨[], [1, 2, 5, 6]⟩, ⟨[(4, 1)], [2, 3]⟩], heads := [(0, [1, 2, 5, 6])], exits := [(0, [1, 2, 5]), (1, [1, 2, 5, 6])], rets := [2, 3], pins := [], spec := [[false, false, true, true, true], [false]] }
abbrev g17_A : List Sh := [.a (.agg [(.int .i64), (.int .i64), (.imm (.int .i64)), (.imm (.int .i64)), (.imm (.int .u64))])]
abbrev g17_S : Sh := .tup [(.agg [(.int .i64), (.int .i64), (.nm 0 (.int .i64)), (.nm 1 (.int .i64)), (.nm 2 (.int .u64))]), (.c (.int .i64))]
abbrev g17_U : List Sh := [.a (.c .dead)]
def g17_R (m : Nat) : ShLVal g17_A → Option (g17_S.Val × ShLVal g17_U) := fun (x : (Int × Int × List Int × List Int × List Int × Unit) × Unit) => g17 m x.1.1 x.1.2.1 x.1.2.2.1 x.1.2.2.2.1 x.1.2.2.2.2.1
def g17_T (m : Nat) : FunT := ⟨17, g17_A, g17_S, g17_U, g17_R m⟩
noncomputable def g17_C : Code := codeOf Tryz.f17
noncomputable def g17_B0 : Code := loopAt g17_C 0 0
theorem g17_B0_ls : loopsL g17_B0 0 = [] := by kernel_rfl
theorem g17_C_ls : loopsL g17_C 0 = [(0, g17_B0)] := by kernel_rfl
abbrev g17_L0_I : SS := [(1, .a (.bx 0 [(.int .i64), (.int .i64), (.imm (.int .i64)), (.imm (.int .i64)), (.imm (.int .u64))])), (2, .a (.bx 1 [(.int .i64), (.int .i64), (.nm 2 (.int .i64)), (.nm 3 (.int .i64)), (.nm 4 (.int .u64))])), (5, .a (.c (.nm 5 (.pr (.int .i64) (.pr (.int .i64) (.int .u64)))))), (6, .a (.c (.int .i64)))]
abbrev g17_L0_O : List (Ex × SS) := [(.exit 0, [(1, .a (.bx 0 [(.int .i64), (.int .i64), (.imm (.int .i64)), (.imm (.int .i64)), (.imm (.int .u64))])), (2, .a (.bx 1 [(.int .i64), (.int .i64), (.nm 2 (.int .i64)), (.nm 3 (.int .i64)), (.nm 4 (.int .u64))])), (5, .a (.c (.nm 5 (.pr (.int .i64) (.pr (.int .i64) (.int .u64))))))])]
def g17_L0_R (m n : Nat) : g17_L0_I.Val → Option (outVal g17_L0_O) := (fun (x : (Int × Int × List Int × List Int × List Int × Unit) × (Int × Int × List Int × List Int × List Int × Unit) × (List (Int × Int × Int)) × Int × Unit) => g17_L0 m n x.1.1 x.1.2.1 x.1.2.2.1 x.1.2.2.2.1 x.1.2.2.2.2.1 x.2.1.1 x.2.1.2.1 x.2.1.2.2.1 x.2.1.2.2.2.1 x.2.1.2.2.2.2.1 x.2.2.1 x.2.2.2.1)
def g17_L0_T (m n : Nat) : LoopT := ⟨0, g17_L0_I, g17_L0_O, g17_L0_R m n⟩
theorem g17_L0_kr (m n : Nat) (x : g17_L0_I.Val) : roundK (mkC (outVal g17_L0_O) [g42_T m, g43_T m, g30_T m]) (mkLp (outVal g17_L0_O) []) tt 45 g17_H g17_B0 0 (g17_L0_I.enc x) (Kl (ins := g17_L0_I) (outs := g17_L0_O) (g17_L0_R m n)) = g17_L0 m (n + 1) x.1.1 x.1.2.1 x.1.2.2.1 x.1.2.2.2.1 x.1.2.2.2.2.1 x.2.1.1 x.2.1.2.1 x.2.1.2.2.1 x.2.1.2.2.2.1 x.2.1.2.2.2.2.1 x.2.2.1 x.2.2.2.1 := by kernel_rfl
theorem g17_L0_ok {E : Entry} (hE : EOf Tryz.prog E 45 g17_H.pins) (m : Nat) (n : Nat) : LoopOK Tryz.prog E g17_B0 (g17_L0_T m n) :=
  loop_ok (CO := CallOK Tryz.prog) hmix htt (fun _ _ _ _ h => h) hE (C := fun R => mkC R [g42_T m, g43_T m, g30_T m]) (L := []) (fun _ _ _ _ _ h => mkC_spec (AllF.mem (l := [g42_T m, g43_T m, g30_T m]) ⟨g42_ok m, g43_ok m, g30_ok m, trivial⟩) h) (fun _ _ => loopsIn_of g17_B0_ls trivial) (fun n => (g17_L0_R m n)) (fun _ => by kernel_rfl) (fun n x => (g17_L0_kr m n x).trans (by kernel_rfl)) n
theorem g17_kr (m : Nat) (x : ShLVal g17_A) : fnK (mkC (g17_S.Val × ShLVal g17_U) [g42_T m, g43_T m, g30_T m]) (mkLp (g17_S.Val × ShLVal g17_U) [g17_L0_T m m]) tt g17_H Tryz.f17 (encS g17_A x) (Kd g17_S g17_U) = g17 m x.1.1 x.1.2.1 x.1.2.2.1 x.1.2.2.2.1 x.1.2.2.2.2.1 := by kernel_rfl
theorem g17_ok (m : Nat) : FunOK Tryz.prog (g17_T m) :=
  fun_ok hmix htt (g17_T m) Tryz.func17 (c := g17_C) (by kernel_rfl) (by kernel_rfl) (Lc := [g42_T m, g43_T m, g30_T m]) (AllF.mem (l := [g42_T m, g43_T m, g30_T m]) ⟨g42_ok m, g43_ok m, g30_ok m, trivial⟩) (L := [g17_L0_T m m]) (fun _ hE _ _ => loopsIn_of g17_C_ls ⟨mkLp_all ⟨fun _ => g17_L0_ok hE m m, trivial⟩, trivial⟩) (fun x => (g17_kr m x).trans (by kernel_rfl))
/-! 18 sparse/matrix.Lower -/
def g18_H : Hints := { regs := [⟨[], [1, 2]⟩, ⟨[], [1, 2, 4]⟩, ⟨[], [1, 2, 4, 11]⟩, ⟨[(1, 1)], [2, 3]⟩, ⟨[], [1, 2, 5]⟩, ⟨[], [1, 2, 5, 15, 16, 17]⟩, ⟨[], [1, 2, 5, 15, 16, 17, 18]⟩, ⟨[], [1, 2, 5, 7, 15, 16, 17]⟩, ⟨[], [1, 2, 5, 7, 15, 16, 17, 25]⟩, ⟨[(0, 1)], [1, 2, 5, 15, 16, 17]⟩, ⟨[(1, 1)], [1, 2, 5, 15, 16, 17]⟩, ⟨[(4, 1)], [2, 3]⟩], heads := [(0, [1, 2, 5, 15, 16, 17])], exits := [(0, [1, 2, 5]), (1, [1, 2, 5, 15, 16, 17])], rets := [2, 3], pins := [], spec := [[false, false, true, true, true], [false]] }
abbrev g18_A : List Sh := [.a (.agg [(.int .i64), (.int .i64), (.imm (.int .i64)), (.imm (.int .i64)), (.imm (.int .u64))])]
abbrev g18_S : Sh := .tup [(.agg [(.int .i64), (.int .i64), (.nm 0 (.int .i64)), (.nm 1 (.int .i64)), (.nm 2 (.int .u64))]), (.c (.int .i64))]
abbrev g18_U : List Sh := [.a (.c .dead)]
def g18_R (m : Nat) : ShLVal g18_A → Option (g18_S.Val × ShLVal g18_U) := fun (x : (Int × Int × List Int × List Int × List Int × Unit) × Unit) => g18 m x.1.1 x.1.2.1 x.1.2.2.1 x.1.2.2.2.1 x.1.2.2.2.2.1
def g18_T (m : Nat) : FunT := ⟨18, g18_A, g18_S, g18_U, g18_R m⟩
noncomputable def g18_C : Code := codeOf Tryz.f18
noncomputable def g18_B0 : Code := loopAt g18_C 0 0
theorem g18_B0_ls : loopsL g18_B0 0 = [] := by kernel_rfl
theorem g18_C_ls : loopsL g18_C 0 = [(0, g18_B0)] := by kernel_rfl
abbrev g18_L0_I : SS := [(1, .a (.bx 0 [(.int .i64), (.int .i64), (.imm (.int .i64)), (.imm (.int .i64)), (.imm (.int .u64))])), (2, .a (.bx 1 [(.int .i64), (.int .i64), (.nm 2 (.int .i64)), (.nm 3 (.int .i64)), (.nm 4 (.int .u64))])), (5, .a (.c (.nm 5 (.pr (.int .i64) (.pr (.int .i64) (.int .u64)))))), (15, .a (.c (.nm 6 (.pr (.int .i64) (.pr (.int .i64) (.int .u64)))))), (16, .a (.c (.int .i64))), (17, .a (.c (.int .i64)))]
abbrev g18_L0_O : List (Ex × SS) := [(.exit 0, [(1, .a (.bx 0 [(.int .i64), (.int .i64), (.imm (.int .i64)), (.imm (.int .i64)), (.imm (.int .u64))])), (2, .a (.bx 1 [(.int .i64), (.int .i64), (.nm 2 (.int .i64)), (.nm 3 (.int .i64)), (.nm 4 (.int .u64))])), (5, .a (.c (.nm 5 (.pr (.int .i64) (.pr (.int .i64) (.int .u64))))))])]
def g18_L0_R (m n : Nat) : g18_L0_I.Val → Option (outVal g18_L0_O) := (fun (x : (Int × Int × List Int × List Int × List Int × Unit) × (Int × Int × List Int × List Int × List Int × Unit) × (List (Int × Int × Int)) × (List (Int × Int × Int)) × Int × Int × Unit) => g18_L0 m n x.1.1 x.1.2.1 x.1.2.2.1 x.1.2.2.2.1 x.1.2.2.2.2.1 x.2.1.1 x.2.1.2.1 x.2.1.2.2.1 x.2.1.2.2.2.1 x.2.1.2.2.2.2.1 x.2.2.1 x.2.2.2.1 x.2.2.2.2.1 x.2.2.2.2.2.1)
def g18_L0_T (m n : Nat) : LoopT := ⟨0, g18_L0_I, g18_L0_O, g18_L0_R m n⟩
theorem g18_L0_kr (m n : Nat) (x : g18_L0_I.Val) : roundK (mkC (outVal g18_L0_O) [g28_T m, g38_T m, g37_T m]) (mkLp (outVal g18_L0_O) []) tt 37 g18_H g18_B0 0 (g18_L0_I.enc x) (Kl (ins := g18_L0_I) (outs := g18_L0_O) (g18_L0_R m n)) = g18_L0 m (n + 1) x.1.1 x.1.2.1 x.1.2.2.1 x.1.2.2.2.1 x.1.2.2.2.2.1 x.2.1.1 x.2.1.2.1 x.2.1.2.2.1 x.2.1.2.2.2.1 x.2.1.2.2.2.2.1 x.2.2.1 x.2.2.2.1 x.2.2.2.2.1 x.2.2.2.2.2.1 := by kernel_rfl
theorem g18_L0_ok {E : Entry} (hE : EOf Tryz.prog E 37 g18_H.pins) (m : Nat) (n : Nat) : LoopOK Tryz.prog E g18_B0 (g18_L0_T m n) :=
  loop_ok (CO := CallOK Tryz.prog) hmix htt (fun _ _ _ _ h => h) hE (C := fun R => mkC R [g28_T m, g38_T m, g37_T m]) (L := []) (fun _ _ _ _ _ h => mkC_spec (AllF.mem (l := [g28_T m, g38_T m, g37_T m]) ⟨g28_ok m, g38_ok m, g37_ok m, trivial⟩) h) (fun _ _ => loopsIn_of g18_B0_ls trivial) (fun n => (g18_L0_R m n)) (fun _ => by kernel_rfl) (fun n x => (g18_L0_kr m n x).trans (by kernel_rfl)) n
theorem g18_kr (m : Nat) (x : ShLVal g18_A) : fnK (mkC (g18_S.Val × ShLVal g18_U) [g28_T m, g38_T m, g37_T m]) (mkLp (g18_S.Val × ShLVal g18_U) [g18_L0_T m m]) tt g18_H Tryz.f18 (encS g18_A x) (Kd g18_S g18_U) = g18 m x.1.1 x.1.2.1 x.1.2.2.1 x.1.2.2.2.1 x.1.2.2.2.2.1 := by kernel_rfl
theorem g18_ok (m : Nat) : FunOK Tryz.prog (g18_T m) :=
  fun_ok hmix htt (g18_T m) Tryz.func18 (c := g18_C) (by kernel_rfl) (by kernel_rfl) (Lc := [g28_T m, g38_T m, g37_T m]) (AllF.mem (l := [g28_T m, g38_T m, g37_T m]) ⟨g28_ok m, g38_ok m, g37_ok m, trivial⟩) (L := [g18_L0_T m m]) (fun _ hE _ _ => loopsIn_of g18_C_ls ⟨mkLp_all ⟨fun _ => g18_L0_ok hE m m, trivial⟩, trivial⟩) (fun x => (g18_kr m x).trans (by kernel_rfl))
/-! 19 sparse/sparseref09.Lower -/
def g19_H : Hints := { regs := [⟨[], [1, 2]⟩, ⟨[], [1, 2, 4]⟩, ⟨[], [1, 2, 4, 11]⟩, ⟨[(1, 1)], [2, 3]⟩, ⟨[], [1, 2, 5]⟩, ⟨[], [1, 2, 5, 6]⟩, ⟨[], [1, 2, 5, 6, 7]⟩, ⟨[], [1, 2, 5, 6, 7, 19]⟩, ⟨[(0, 1)], [1, 2, 5, 6, 7]⟩, ⟨[], [1, 2, 5, 6, 7, 32]⟩, ⟨[(0, 1)], [1, 2, 5, 6, 7]⟩, ⟨[(4, 1)], [2, 3]⟩], heads := [(0, [1, 2, 5, 6, 7])], exits := [(0, [1, 2, 5]), (1, [1, 2, 5, 6, 7])], rets := [2, 3], pins := [], spec := [[false, false, true, true, true], [false]] }
abbrev g19_A : List Sh := [.a (.agg [(.int .i64), (.int .i64), (.imm (.int .i64)), (.imm (.int .i64)), (.imm (.int .u64))])]
abbrev g19_S : Sh := .tup [(.agg [(.int .i64), (.int .i64), (.nm 0 (.int .i64)), (.nm 1 (.int .i64)), (.nm 2 (.int .u64))]), (.c (.int .i64))]
abbrev g19_U : List Sh := [.a (.c .dead)]
def g19_R (m : Nat) : ShLVal g19_A → Option (g19_S.Val × ShLVal g19_U) := fun (x : (Int × Int × List Int × List Int × List Int × Unit) × Unit) => g19 m x.1.1 x.1.2.1 x.1.2.2.1 x.1.2.2.2.1 x.1.2.2.2.2.1
def g19_T (m : Nat) : FunT := ⟨19, g19_A, g19_S, g19_U, g19_R m⟩
noncomputable def g19_C : Code := codeOf Tryz.f19
noncomputable def g19_B0 : Code := loopAt g19_C 0 0
theorem g19_B0_ls : loopsL g19_B0 0 = [] := by kernel_rfl
theorem g19_C_ls : loopsL g19_C 0 = [(0, g19_B0)] := by kernel_rfl
abbrev g19_L0_I : SS := [(1, .a (.bx 0 [(.int .i64), (.int .i64), (.imm (.int .i64)), (.imm (.int .i64)), (.imm (.int .u64))])), (2, .a (.bx 1 [(.int .i64), (.int .i64), (.nm 2 (.int .i64)), (.nm 3 (.int .i64)), (.nm 4 (.int .u64))])), (5, .a (.c (.nm 5 (.pr (.int .i64) (.pr (.int .i64) (.int .u64)))))), (6, .a (.c (.nm 6 (.pr (.int .i64) (.pr (.int .i64) (.int .u64)))))), (7, .a (.c (.int .i64)))]
abbrev g19_L0_O : List (Ex × SS) := [(.exit 0, [(1, .a (.bx 0 [(.int .i64), (.int .i64), (.imm (.int .i64)), (.imm (.int .i64)), (.imm (.int .u64))])), (2, .a (.bx 1 [(.int .i64), (.int .i64), (.nm 2 (.int .i64)), (.nm 3 (.int .i64)), (.nm 4 (.int .u64))])), (5, .a (.c (.nm 5 (.pr (.int .i64) (.pr (.int .i64) (.int .u64))))))])]
def g19_L0_R (m n : Nat) : g19_L0_I.Val → Option (outVal g19_L0_O) := (fun (x : (Int × Int × List Int × List Int × List Int × Unit) × (Int × Int × List Int × List Int × List Int × Unit) × (List (Int × Int × Int)) × (List (Int × Int × Int)) × Int × Unit) => g19_L0 m n x.1.1 x.1.2.1 x.1.2.2.1 x.1.2.2.2.1 x.1.2.2.2.2.1 x.2.1.1 x.2.1.2.1 x.2.1.2.2.1 x.2.1.2.2.2.1 x.2.1.2.2.2.2.1 x.2.2.1 x.2.2.2.1 x.2.2.2.2.1)
def g19_L0_T (m n : Nat) : LoopT := ⟨0, g19_L0_I, g19_L0_O, g19_L0_R m n⟩
theorem g19_L0_kr (m n : Nat) (x : g19_L0_I.Val) : roundK (mkC (outVal g19_L0_O) [g42_T m, g43_T m, g30_T m]) (mkLp (outVal g19_L0_O) []) tt 46 g19_H g19_B0 0 (g19_L0_I.enc x) (Kl (ins := g19_L0_I) (outs := g19_L0_O) (g19_L0_R m n)) = g19_L0 m (n + 1) x.1.1 x.1.2.1 x.1.2.2.1 x.1.2.2.2.1 x.1.2.2.2.2.1 x.2.1.1 x.2.1.2.1 x.2.1.2.2.1 x.2.1.2.2.2.1 x.2.1.2.2.2.2.1 x.2.2.1 x.2.2.2.1 x.2.2.2.2.1 := by kernel_rfl
theorem g19_L0_ok {E : Entry} (hE : EOf Tryz.prog E 46 g19_H.pins) (m : Nat) (n : Nat) : LoopOK Tryz.prog E g19_B0 (g19_L0_T m n) :=
  loop_ok (CO := CallOK Tryz.prog) hmix htt (fun _ _ _ _ h => h) hE (C := fun R => mkC R [g42_T m, g43_T m, g30_T m]) (L := []) (fun _ _ _ _ _ h => mkC_spec (AllF.mem (l := [g42_T m, g43_T m, g30_T m]) ⟨g42_ok m, g43_ok m, g30_ok m, trivial⟩) h) (fun _ _ => loopsIn_of g19_B0_ls trivial) (fun n => (g19_L0_R m n)) (fun _ => by kernel_rfl) (fun n x => (g19_L0_kr m n x).trans (by kernel_rfl)) n
theorem g19_kr (m : Nat) (x : ShLVal g19_A) : fnK (mkC (g19_S.Val × ShLVal g19_U) [g42_T m, g43_T m, g30_T m]) (mkLp (g19_S.Val × ShLVal g19_U) [g19_L0_T m m]) tt g19_H Tryz.f19 (encS g19_A x) (Kd g19_S g19_U) = g19 m x.1.1 x.1.2.1 x.1.2.2.1 x.1.2.2.2.1 x.1.2.2.2.2.1 := by kernel_rfl
theorem g19_ok (m : Nat) : FunOK Tryz.prog (g19_T m) :=
  fun_ok hmix htt (g19_T m) Tryz.func19 (c := g19_C) (by kernel_rfl) (by kernel_rfl) (Lc := [g42_T m, g43_T m, g30_T m]) (AllF.mem (l := [g42_T m, g43_T m, g30_T m]) ⟨g42_ok m, g43_ok m, g30_ok m, trivial⟩) (L := [g19_L0_T m m]) (fun _ hE _ _ => loopsIn_of g19_C_ls ⟨mkLp_all ⟨fun _ => g19_L0_ok hE m m, trivial⟩, trivial⟩) (fun x => (g19_kr m x).trans (by kernel_rfl))
end Go.Vs.F
