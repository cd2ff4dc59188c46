/- The plain functions are what the code does (by program: gen.py). -/
import Derived.Test.YtajikfmcbmhclaaGreatDoorOkc

/-! MwOk4 -/
set_option linter.unusedVariables false
set_option maxRecDepth 100000
namespace Go.Vs.F
open Go.Proofs
/-! 44 sparse/sparsekit.Perm -/
/-! 78 sparse/sparseref09.Stored -/
/-! 79 sparse/sparseref09.At -/
/-! 45 sparse/sparseref09.pick -/
/-! 20 sparse/sparseref09.Permute -/
/-! 21 sparse/matrix.Select -/
/-! 46 sparse/sparseref09.Range -/
/-! 80 sparse/sparsekit.In -/
/-! 47 sparse/sparseref09.Twice -/
/-! 22 sparse/sparseref09.Select -/
/-! 23 sparse/sparselaw09.alike -/
/-! 4 sparse/sparselaw09.MatrixMoves -/
/-! 48 sparse/sparsemake.At -/
def g48_H : Hints := { regs := [⟨[], [0, 1]⟩, ⟨[], [0, 1, 8]⟩, ⟨[(0, 1), (1, 1)], [4]⟩, ⟨[], [4]⟩], heads := [], exits := [], rets := [4], pins := [], spec := [[false]] }
abbrev g48_A : List Sh := [.a (.c (.imm (.int .i64))), .a (.c (.int .i64))]
abbrev g48_S : Sh := .a (.c (.int .i64))
abbrev g48_U : List Sh := [.a (.c .dead), .a (.c .dead)]
def g48_R (m : Nat) : ShLVal g48_A → Option (g48_S.Val × ShLVal g48_U) := fun (x : List Int × Int × Unit) => g48 m x.1 x.2.1
def g48_T (m : Nat) : FunT := ⟨48, g48_A, g48_S, g48_U, g48_R m⟩
noncomputable def g48_C : Code := codeOf Tryz.f48
theorem g48_C_ls : loopsL g48_C 0 = [] := by kernel_rfl
theorem g48_kr (m : Nat) (x : ShLVal g48_A) : fnK (mkC (g48_S.Val × ShLVal g48_U) []) (mkLp (g48_S.Val × ShLVal g48_U) []) tt g48_H Tryz.f48 (encS g48_A x) (Kd g48_S g48_U) = g48 m x.1 x.2.1 := by kernel_rfl
theorem g48_ok (m : Nat) : FunOK Tryz.prog (g48_T m) :=
  fun_ok hmix htt (g48_T m) Tryz.func48 (c := g48_C) (by kernel_rfl) (by kernel_rfl) (Lc := []) (AllF.mem (l := []) trivial) (L := []) (fun _ hE _ _ => loopsIn_of g48_C_ls trivial) (fun x => (g48_kr m x).trans (by kernel_rfl))
/-! 24 sparse/sparsemake.Symmetric -/
def g24_H : Hints := { regs := [⟨[], [0, 1, 4]⟩, ⟨[], [0, 1, 4, 5]⟩, ⟨[], [0, 1, 4, 5, 6]⟩, ⟨[], [0, 1, 4, 5, 6, 13]⟩, ⟨[(0, 1)], [0, 1, 4, 5, 6]⟩, ⟨[(0, 1)], [0, 1, 4, 5, 6]⟩, ⟨[], [0, 1, 4, 5, 7]⟩, ⟨[(5, 1)], [0, 1, 4, 5, 7, 35]⟩, ⟨[(0, 1)], [0, 1, 4, 5, 7]⟩, ⟨[], [0, 1, 4, 5, 7, 8, 9, 10]⟩, ⟨[], [0, 1, 4, 5, 7, 8, 9, 10, 59]⟩, ⟨[(0, 1)], [0, 1, 4, 5, 7]⟩, ⟨[(2, 1)], [4]⟩], heads := [(0, [0, 1, 4, 5, 6]), (2, [0, 1, 4, 5, 7])], exits := [(0, [0, 1, 4, 5]), (1, [0, 1, 4, 5, 6]), (2, [0, 4, 5]), (3, [0, 1, 4, 5, 7])], rets := [4], pins := [], spec := [[false, false, true, true, true]] }
abbrev g24_A : List Sh := [.a (.c (.int .i64)), .a (.c (.imm (.int .i64)))]
abbrev g24_S : Sh := .a (.agg [(.int .i64), (.int .i64), (.nm 0 (.int .i64)), (.nm 1 (.int .i64)), (.nm 2 (.int .u64))])
abbrev g24_U : List Sh := [.a (.c .dead), .a (.c .dead)]
def g24_R (m : Nat) : ShLVal g24_A → Option (g24_S.Val × ShLVal g24_U) := fun (x : Int × List Int × Unit) => g24 m x.1 x.2.1
def g24_T (m : Nat) : FunT := ⟨24, g24_A, g24_S, g24_U, g24_R m⟩
noncomputable def g24_C : Code := codeOf Tryz.f24
noncomputable def g24_B0 : Code := loopAt g24_C 0 0
theorem g24_B0_ls : loopsL g24_B0 0 = [] := by kernel_rfl
noncomputable def g24_B2 : Code := loopAt g24_C 0 1
theorem g24_B2_ls : loopsL g24_B2 2 = [] := by kernel_rfl
theorem g24_C_ls : loopsL g24_C 0 = [(0, g24_B0), (2, g24_B2)] := by kernel_rfl
abbrev g24_L1_I : SS := [(0, .a (.c (.int .i64))), (1, .a (.c (.imm (.int .i64)))), (4, .a (.bx 0 [(.int .i64), (.int .i64), (.nm 1 (.int .i64)), (.nm 2 (.int .i64)), (.nm 3 (.int .u64))])), (5, .a (.c (.nm 4 (.pr (.int .i64) (.pr (.int .i64) (.int .u64)))))), (7, .a (.c (.int .i64)))]
abbrev g24_L1_O : List (Ex × SS) := [(.exit 2, [(0, .a (.c (.int .i64))), (4, .a (.bx 0 [(.int .i64), (.int .i64), (.nm 1 (.int .i64)), (.nm 2 (.int .i64)), (.nm 3 (.int .u64))])), (5, .a (.c (.nm 4 (.pr (.int .i64) (.pr (.int .i64) (.int .u64))))))])]
def g24_L1_R (m n : Nat) : g24_L1_I.Val → Option (outVal g24_L1_O) := (fun (x : Int × List Int × (Int × Int × List Int × List Int × List Int × Unit) × (List (Int × Int × Int)) × Int × Unit) => g24_L1 m n x.1 x.2.1 x.2.2.1.1 x.2.2.1.2.1 x.2.2.1.2.2.1 x.2.2.1.2.2.2.1 x.2.2.1.2.2.2.2.1 x.2.2.2.1 x.2.2.2.2.1)
def g24_L1_T (m n : Nat) : LoopT := ⟨2, g24_L1_I, g24_L1_O, g24_L1_R m n⟩
theorem g24_L1_kr (m n : Nat) (x : g24_L1_I.Val) : roundK (mkC (outVal g24_L1_O) [g48_T m, g29_T m, g7_T m, g30_T m]) (mkLp (outVal g24_L1_O) []) tt 75 g24_H g24_B2 2 (g24_L1_I.enc x) (Kl (ins := g24_L1_I) (outs := g24_L1_O) (g24_L1_R m n)) = g24_L1 m (n + 1) x.1 x.2.1 x.2.2.1.1 x.2.2.1.2.1 x.2.2.1.2.2.1 x.2.2.1.2.2.2.1 x.2.2.1.2.2.2.2.1 x.2.2.2.1 x.2.2.2.2.1 := by kernel_rfl
theorem g24_L1_ok {E : Entry} (hE : EOf Tryz.prog E 75 g24_H.pins) (m : Nat) (n : Nat) : LoopOK Tryz.prog E g24_B2 (g24_L1_T m n) :=
  loop_ok (CO := CallOK Tryz.prog) hmix htt (fun _ _ _ _ h => h) hE (C := fun R => mkC R [g48_T m, g29_T m, g7_T m, g30_T m]) (L := []) (fun _ _ _ _ _ h => mkC_spec (AllF.mem (l := [g48_T m, g29_T m, g7_T m, g30_T m]) ⟨g48_ok m, g29_ok m, g7_ok m, g30_ok m, trivial⟩) h) (fun _ _ => loopsIn_of g24_B2_ls trivial) (fun n => (g24_L1_R m n)) (fun _ => by kernel_rfl) (fun n x => (g24_L1_kr m n x).trans (by kernel_rfl)) n
abbrev g24_L0_I : SS := [(0, .a (.c (.int .i64))), (1, .a (.c (.imm (.int .i64)))), (4, .a (.bx 0 [(.int .i64), (.int .i64), (.nm 1 (.int .i64)), (.nm 2 (.int .i64)), (.nm 3 (.int .u64))])), (5, .a (.c (.nm 4 (.pr (.int .i64) (.pr (.int .i64) (.int .u64)))))), (6, .a (.c (.int .i64)))]
abbrev g24_L0_O : List (Ex × SS) := [(.exit 0, [(0, .a (.c (.int .i64))), (1, .a (.c (.imm (.int .i64)))), (4, .a (.bx 0 [(.int .i64), (.int .i64), (.nm 1 (.int .i64)), (.nm 2 (.int .i64)), (.nm 3 (.int .u64))])), (5, .a (.c (.nm 4 (.pr (.int .i64) (.pr (.int .i64) (.int .u64))))))])]
def g24_L0_R (m n : Nat) : g24_L0_I.Val → Option (outVal g24_L0_O) := (fun (x : Int × List Int × (Int × Int × List Int × List Int × List Int × Unit) × (List (Int × Int × Int)) × Int × Unit) => g24_L0 m n x.1 x.2.1 x.2.2.1.1 x.2.2.1.2.1 x.2.2.1.2.2.1 x.2.2.1.2.2.2.1 x.2.2.1.2.2.2.2.1 x.2.2.2.1 x.2.2.2.2.1)
def g24_L0_T (m n : Nat) : LoopT := ⟨0, g24_L0_I, g24_L0_O, g24_L0_R m n⟩
theorem g24_L0_kr (m n : Nat) (x : g24_L0_I.Val) : roundK (mkC (outVal g24_L0_O) [g48_T m, g29_T m, g7_T m, g30_T m]) (mkLp (outVal g24_L0_O) []) tt 75 g24_H g24_B0 0 (g24_L0_I.enc x) (Kl (ins := g24_L0_I) (outs := g24_L0_O) (g24_L0_R m n)) = g24_L0 m (n + 1) x.1 x.2.1 x.2.2.1.1 x.2.2.1.2.1 x.2.2.1.2.2.1 x.2.2.1.2.2.2.1 x.2.2.1.2.2.2.2.1 x.2.2.2.1 x.2.2.2.2.1 := by kernel_rfl
theorem g24_L0_ok {E : Entry} (hE : EOf Tryz.prog E 75 g24_H.pins) (m : Nat) (n : Nat) : LoopOK Tryz.prog E g24_B0 (g24_L0_T m n) :=
  loop_ok (CO := CallOK Tryz.prog) hmix htt (fun _ _ _ _ h => h) hE (C := fun R => mkC R [g48_T m, g29_T m, g7_T m, g30_T m]) (L := []) (fun _ _ _ _ _ h => mkC_spec (AllF.mem (l := [g48_T m, g29_T m, g7_T m, g30_T m]) ⟨g48_ok m, g29_ok m, g7_ok m, g30_ok m, trivial⟩) h) (fun _ _ => loopsIn_of g24_B0_ls trivial) (fun n => (g24_L0_R m n)) (fun _ => by kernel_rfl) (fun n x => (g24_L0_kr m n x).trans (by kernel_rfl)) n
theorem g24_kr (m : Nat) (x : ShLVal g24_A) : fnK (mkC (g24_S.Val × ShLVal g24_U) [g48_T m, g29_T m, g7_T m, g30_T m]) (mkLp (g24_S.Val × ShLVal g24_U) [g24_L0_T m m, g24_L1_T m m]) tt g24_H Tryz.f24 (encS g24_A x) (Kd g24_S g24_U) = g24 m x.1 x.2.1 := by kernel_rfl
theorem g24_ok (m : Nat) : FunOK Tryz.prog (g24_T m) :=
  fun_ok hmix htt (g24_T m) Tryz.func24 (c := g24_C) (by kernel_rfl) (by kernel_rfl) (Lc := [g48_T m, g29_T m, g7_T m, g30_T m]) (AllF.mem (l := [g48_T m, g29_T m, g7_T m, g30_T m]) ⟨g48_ok m, g29_ok m, g7_ok m, g30_ok m, trivial⟩) (L := [g24_L0_T m m, g24_L1_T m m]) (fun _ hE _ _ => loopsIn_of g24_C_ls ⟨mkLp_all ⟨fun _ => g24_L0_ok hE m m, fun h => absurd (show (2 : Nat) = 0 from h) (by decide), trivial⟩, mkLp_all ⟨fun h => absurd (show (0 : Nat) = 2 from h) (by decide), fun _ => g24_L1_ok hE m m, trivial⟩, trivial⟩) (fun x => (g24_kr m x).trans (by kernel_rfl))
/-! 116 slices.isNaN_int_ -/
def g116_H : Hints := { regs := [⟨[], [0]⟩, ⟨[], [2]⟩], heads := [], exits := [], rets := [2], pins := [], spec := [[false]] }
abbrev g116_A : List Sh := [.a (.c (.int .i64))]
abbrev g116_S : Sh := .a (.c .bool)
abbrev g116_U : List Sh := [.a (.c .dead)]
def g116_R (m : Nat) : ShLVal g116_A → Option (g116_S.Val × ShLVal g116_U) := fun (x : Int × Unit) => g116 m x.1
def g116_T (m : Nat) : FunT := ⟨116, g116_A, g116_S, g116_U, g116_R m⟩
noncomputable def g116_C : Code := codeOf Tryz.f116
theorem g116_C_ls : loopsL g116_C 0 = [] := by kernel_rfl
theorem g116_kr (m : Nat) (x : ShLVal g116_A) : fnK (mkC (g116_S.Val × ShLVal g116_U) []) (mkLp (g116_S.Val × ShLVal g116_U) []) tt g116_H Tryz.f116 (encS g116_A x) (Kd g116_S g116_U) = g116 m x.1 := by kernel_rfl
theorem g116_ok (m : Nat) : FunOK Tryz.prog (g116_T m) :=
  fun_ok hmix htt (g116_T m) Tryz.func116 (c := g116_C) (by kernel_rfl) (by kernel_rfl) (Lc := []) (AllF.mem (l := []) trivial) (L := []) (fun _ hE _ _ => loopsIn_of g116_C_ls trivial) (fun x => (g116_kr m x).trans (by kernel_rfl))
/-! 81 slices.BinarySearch___int_int_ -/
def g81_H : Hints := { regs := [⟨[], [0, 1]⟩, ⟨[], [0, 1, 6]⟩, ⟨[], [0, 1, 6, 7, 8]⟩, ⟨[], [0, 1, 6, 7, 8, 15]⟩, ⟨[], [0, 1, 6, 7, 8, 9]⟩, ⟨[], [0, 1, 6, 7, 8, 9, 27]⟩, ⟨[(0, 1)], [0, 1, 6, 7, 8]⟩, ⟨[(0, 1)], [0, 1, 6, 7, 8]⟩, ⟨[(2, 1), (4, 1), (11, 1), (17, 1)], [4, 5]⟩], heads := [(0, [0, 1, 6, 7, 8])], exits := [(0, [0, 1, 6, 7]), (1, [0, 1, 6, 7, 8])], rets := [4, 5], pins := [], spec := [[false], [false]] }
abbrev g81_A : List Sh := [.a (.c (.imm (.int .i64))), .a (.c (.int .i64))]
abbrev g81_S : Sh := .tup [(.c (.int .i64)), (.c .bool)]
abbrev g81_U : List Sh := [.a (.c .dead), .a (.c .dead)]
def g81_R (m : Nat) : ShLVal g81_A → Option (g81_S.Val × ShLVal g81_U) := fun (x : List Int × Int × Unit) => g81 m x.1 x.2.1
def g81_T (m : Nat) : FunT := ⟨81, g81_A, g81_S, g81_U, g81_R m⟩
noncomputable def g81_C : Code := codeOf Tryz.f81
noncomputable def g81_B0 : Code := loopAt g81_C 0 0
theorem g81_B0_ls : loopsL g81_B0 0 = [] := by kernel_rfl
theorem g81_C_ls : loopsL g81_C 0 = [(0, g81_B0)] := by kernel_rfl
abbrev g81_L0_I : SS := [(0, .a (.c (.imm (.int .i64)))), (1, .a (.c (.int .i64))), (6, .a (.c (.int .i64))), (7, .a (.c (.int .i64))), (8, .a (.c (.int .i64)))]
abbrev g81_L0_O : List (Ex × SS) := [(.exit 0, [(0, .a (.c (.imm (.int .i64)))), (1, .a (.c (.int .i64))), (6, .a (.c (.int .i64))), (7, .a (.c (.int .i64)))])]
def g81_L0_R (m n : Nat) : g81_L0_I.Val → Option (outVal g81_L0_O) := (fun (x : List Int × Int × Int × Int × Int × Unit) => g81_L0 m n x.1 x.2.1 x.2.2.1 x.2.2.2.1 x.2.2.2.2.1)
def g81_L0_T (m n : Nat) : LoopT := ⟨0, g81_L0_I, g81_L0_O, g81_L0_R m n⟩
theorem g81_L0_kr (m n : Nat) (x : g81_L0_I.Val) : roundK (mkC (outVal g81_L0_O) [g115_T m, g116_T m]) (mkLp (outVal g81_L0_O) []) tt 54 g81_H g81_B0 0 (g81_L0_I.enc x) (Kl (ins := g81_L0_I) (outs := g81_L0_O) (g81_L0_R m n)) = g81_L0 m (n + 1) x.1 x.2.1 x.2.2.1 x.2.2.2.1 x.2.2.2.2.1 := by kernel_rfl
theorem g81_L0_ok {E : Entry} (hE : EOf Tryz.prog E 54 g81_H.pins) (m : Nat) (n : Nat) : LoopOK Tryz.prog E g81_B0 (g81_L0_T m n) :=
  loop_ok (CO := CallOK Tryz.prog) hmix htt (fun _ _ _ _ h => h) hE (C := fun R => mkC R [g115_T m, g116_T m]) (L := []) (fun _ _ _ _ _ h => mkC_spec (AllF.mem (l := [g115_T m, g116_T m]) ⟨g115_ok m, g116_ok m, trivial⟩) h) (fun _ _ => loopsIn_of g81_B0_ls trivial) (fun n => (g81_L0_R m n)) (fun _ => by kernel_rfl) (fun n x => (g81_L0_kr m n x).trans (by kernel_rfl)) n
theorem g81_kr (m : Nat) (x : ShLVal g81_A) : fnK (mkC (g81_S.Val × ShLVal g81_U) [g115_T m, g116_T m]) (mkLp (g81_S.Val × ShLVal g81_U) [g81_L0_T m m]) tt g81_H Tryz.f81 (encS g81_A x) (Kd g81_S g81_U) = g81 m x.1 x.2.1 := by kernel_rfl
theorem g81_ok (m : Nat) : FunOK Tryz.prog (g81_T m) :=
  fun_ok hmix htt (g81_T m) Tryz.func81 (c := g81_C) (by kernel_rfl) (by kernel_rfl) (Lc := [g115_T m, g116_T m]) (AllF.mem (l := [g115_T m, g116_T m]) ⟨g115_ok m, g116_ok m, trivial⟩) (L := [g81_L0_T m m]) (fun _ hE _ _ => loopsIn_of g81_C_ls ⟨mkLp_all ⟨fun _ => g81_L0_ok hE m m, trivial⟩, trivial⟩) (fun x => (g81_kr m x).trans (by kernel_rfl))
/-! 49 sparse/matrix.at -/
def g49_H : Hints := { regs := [⟨[], [1, 2, 3]⟩, ⟨[(14, 1), (16, 1)], [2, 3, 8, 9]⟩, ⟨[(0, 1)], [2, 3, 8, 30]⟩, ⟨[], [6, 7]⟩, ⟨[(4, 1), (7, 1)], [6, 7]⟩], heads := [], exits := [], rets := [6, 7], pins := [], spec := [[false], [false]] }
abbrev g49_A : List Sh := [.a (.agg [(.int .i64), (.int .i64), (.imm (.int .i64)), (.imm (.int .i64)), (.imm (.int .u64))]), .a (.c (.int .i64)), .a (.c (.int .i64))]
abbrev g49_S : Sh := .tup [(.c (.int .u64)), (.c .bool)]
abbrev g49_U : List Sh := [.a (.c .dead), .a (.c .dead), .a (.c .dead)]
def g49_R (m : Nat) : ShLVal g49_A → Option (g49_S.Val × ShLVal g49_U) := fun (x : (Int × Int × List Int × List Int × List Int × Unit) × Int × Int × Unit) => g49 m x.1.1 x.1.2.1 x.1.2.2.1 x.1.2.2.2.1 x.1.2.2.2.2.1 x.2.1 x.2.2.1
def g49_T (m : Nat) : FunT := ⟨49, g49_A, g49_S, g49_U, g49_R m⟩
noncomputable def g49_C : Code := codeOf Tryz.f49
theorem g49_C_ls : loopsL g49_C 0 = [] := by kernel_rfl
theorem g49_kr (m : Nat) (x : ShLVal g49_A) : fnK (mkC (g49_S.Val × ShLVal g49_U) [g81_T m]) (mkLp (g49_S.Val × ShLVal g49_U) []) tt g49_H Tryz.f49 (encS g49_A x) (Kd g49_S g49_U) = g49 m x.1.1 x.1.2.1 x.1.2.2.1 x.1.2.2.2.1 x.1.2.2.2.2.1 x.2.1 x.2.2.1 := by kernel_rfl
theorem g49_ok (m : Nat) : FunOK Tryz.prog (g49_T m) :=
  fun_ok hmix htt (g49_T m) Tryz.func49 (c := g49_C) (by kernel_rfl) (by kernel_rfl) (Lc := [g81_T m]) (AllF.mem (l := [g81_T m]) ⟨g81_ok m, trivial⟩) (L := []) (fun _ hE _ _ => loopsIn_of g49_C_ls trivial) (fun x => (g49_kr m x).trans (by kernel_rfl))
/-! 117 sparse/float.Kind -/
def g117_H : Hints := { regs := [⟨[], [0]⟩, ⟨[(0, 1), (2, 1)], [3, 4]⟩, ⟨[(2, 1)], [3, 4, 10]⟩, ⟨[], [2]⟩, ⟨[], [3, 4, 17]⟩, ⟨[], [2]⟩, ⟨[(0, 1), (2, 1), (3, 1)], [20]⟩, ⟨[], [2]⟩, ⟨[], [2]⟩], heads := [], exits := [(0, [])], rets := [2], pins := [], spec := [[false]] }
abbrev g117_A : List Sh := [.a (.c (.int .u64))]
abbrev g117_S : Sh := .a (.c (.int .i64))
abbrev g117_U : List Sh := [.a (.c .dead)]
def g117_R (m : Nat) : ShLVal g117_A → Option (g117_S.Val × ShLVal g117_U) := fun (x : Int × Unit) => g117 m x.1
def g117_T (m : Nat) : FunT := ⟨117, g117_A, g117_S, g117_U, g117_R m⟩
noncomputable def g117_C : Code := codeOf Tryz.f117
theorem g117_C_ls : loopsL g117_C 0 = [] := by kernel_rfl
theorem g117_kr (m : Nat) (x : ShLVal g117_A) : fnK (mkC (g117_S.Val × ShLVal g117_U) [g59_T m]) (mkLp (g117_S.Val × ShLVal g117_U) []) tt g117_H Tryz.f117 (encS g117_A x) (Kd g117_S g117_U) = g117 m x.1 := by kernel_rfl
theorem g117_ok (m : Nat) : FunOK Tryz.prog (g117_T m) :=
  fun_ok hmix htt (g117_T m) Tryz.func117 (c := g117_C) (by kernel_rfl) (by kernel_rfl) (Lc := [g59_T m]) (AllF.mem (l := [g59_T m]) ⟨g59_ok m, trivial⟩) (L := []) (fun _ hE _ _ => loopsIn_of g117_C_ls trivial) (fun x => (g117_kr m x).trans (by kernel_rfl))
/-! 82 sparse/float.nan -/
def g82_H : Hints := { regs := [⟨[], [0]⟩, ⟨[(0, 1)], [5, 6, 7]⟩, ⟨[], [5, 6, 7, 8]⟩, ⟨[], [4, 5, 6, 7]⟩, ⟨[(0, 1)], [5, 6, 7, 13]⟩, ⟨[], [2]⟩, ⟨[(1, 1)], [5, 6, 7]⟩, ⟨[], [2]⟩], heads := [(0, [5, 6, 7])], exits := [(0, []), (1, [5, 6, 7])], rets := [2], pins := [], spec := [[false]] }
abbrev g82_A : List Sh := [.a (.c (.imm (.int .u64)))]
abbrev g82_S : Sh := .a (.c .bool)
abbrev g82_U : List Sh := [.a (.c .dead)]
def g82_R (m : Nat) : ShLVal g82_A → Option (g82_S.Val × ShLVal g82_U) := fun (x : List Int × Unit) => g82 m x.1
def g82_T (m : Nat) : FunT := ⟨82, g82_A, g82_S, g82_U, g82_R m⟩
noncomputable def g82_C : Code := codeOf Tryz.f82
noncomputable def g82_B0 : Code := loopAt g82_C 0 0
theorem g82_B0_ls : loopsL g82_B0 0 = [] := by kernel_rfl
theorem g82_C_ls : loopsL g82_C 0 = [(0, g82_B0)] := by kernel_rfl
abbrev g82_L0_I : SS := [(5, .a (.c (.imm (.int .u64)))), (6, .a (.c (.int .i64))), (7, .a (.c (.int .i64)))]
abbrev g82_L0_O : List (Ex × SS) := [(.ret, [(2, .a (.c .bool))]), (.exit 0, [])]
def g82_L0_R (m n : Nat) : g82_L0_I.Val → Option (outVal g82_L0_O) := (fun (x : List Int × Int × Int × Unit) => g82_L0 m n x.1 x.2.1 x.2.2.1)
def g82_L0_T (m n : Nat) : LoopT := ⟨0, g82_L0_I, g82_L0_O, g82_L0_R m n⟩
theorem g82_L0_kr (m n : Nat) (x : g82_L0_I.Val) : roundK (mkC (outVal g82_L0_O) [g117_T m]) (mkLp (outVal g82_L0_O) []) tt 15 g82_H g82_B0 0 (g82_L0_I.enc x) (Kl (ins := g82_L0_I) (outs := g82_L0_O) (g82_L0_R m n)) = g82_L0 m (n + 1) x.1 x.2.1 x.2.2.1 := by kernel_rfl
theorem g82_L0_ok {E : Entry} (hE : EOf Tryz.prog E 15 g82_H.pins) (m : Nat) (n : Nat) : LoopOK Tryz.prog E g82_B0 (g82_L0_T m n) :=
  loop_ok (CO := CallOK Tryz.prog) hmix htt (fun _ _ _ _ h => h) hE (C := fun R => mkC R [g117_T m]) (L := []) (fun _ _ _ _ _ h => mkC_spec (AllF.mem (l := [g117_T m]) ⟨g117_ok m, trivial⟩) h) (fun _ _ => loopsIn_of g82_B0_ls trivial) (fun n => (g82_L0_R m n)) (fun _ => by kernel_rfl) (fun n x => (g82_L0_kr m n x).trans (by kernel_rfl)) n
theorem g82_kr (m : Nat) (x : ShLVal g82_A) : fnK (mkC (g82_S.Val × ShLVal g82_U) [g117_T m]) (mkLp (g82_S.Val × ShLVal g82_U) [g82_L0_T m m]) tt g82_H Tryz.f82 (encS g82_A x) (Kd g82_S g82_U) = g82 m x.1 := by kernel_rfl
theorem g82_ok (m : Nat) : FunOK Tryz.prog (g82_T m) :=
  fun_ok hmix htt (g82_T m) Tryz.func82 (c := g82_C) (by kernel_rfl) (by kernel_rfl) (Lc := [g117_T m]) (AllF.mem (l := [g117_T m]) ⟨g117_ok m, trivial⟩) (L := [g82_L0_T m m]) (fun _ hE _ _ => loopsIn_of g82_C_ls ⟨mkLp_all ⟨fun _ => g82_L0_ok hE m m, trivial⟩, trivial⟩) (fun x => (g82_kr m x).trans (by kernel_rfl))
/-! 83 sparse/float.place -/
def g83_H : Hints := { regs := [⟨[], [0]⟩, ⟨[], [0, 3]⟩, ⟨[(0, 1)], [3, 8]⟩, ⟨[(0, 1)], [2]⟩, ⟨[(0, 1)], [2]⟩], heads := [], exits := [], rets := [2], pins := [], spec := [[false]] }
abbrev g83_A : List Sh := [.a (.c (.int .u64))]
abbrev g83_S : Sh := .a (.c (.int .i64))
abbrev g83_U : List Sh := [.a (.c .dead)]
def g83_R (m : Nat) : ShLVal g83_A → Option (g83_S.Val × ShLVal g83_U) := fun (x : Int × Unit) => g83 m x.1
def g83_T (m : Nat) : FunT := ⟨83, g83_A, g83_S, g83_U, g83_R m⟩
noncomputable def g83_C : Code := codeOf Tryz.f83
theorem g83_C_ls : loopsL g83_C 0 = [] := by kernel_rfl
theorem g83_kr (m : Nat) (x : ShLVal g83_A) : fnK (mkC (g83_S.Val × ShLVal g83_U) [g66_T m]) (mkLp (g83_S.Val × ShLVal g83_U) []) tt g83_H Tryz.f83 (encS g83_A x) (Kd g83_S g83_U) = g83 m x.1 := by kernel_rfl
theorem g83_ok (m : Nat) : FunOK Tryz.prog (g83_T m) :=
  fun_ok hmix htt (g83_T m) Tryz.func83 (c := g83_C) (by kernel_rfl) (by kernel_rfl) (Lc := [g66_T m]) (AllF.mem (l := [g66_T m]) ⟨g66_ok m, trivial⟩) (L := []) (fun _ hE _ _ => loopsIn_of g83_C_ls trivial) (fun x => (g83_kr m x).trans (by kernel_rfl))
/-! 50 sparse/float.Cmp -/
def g50_H : Hints := { regs := [⟨[], [0, 1]⟩, ⟨[], [0, 1, 11]⟩, ⟨[], [4, 5]⟩, ⟨[(0, 1), (2, 1)], [6, 7]⟩, ⟨[], [6, 7, 16]⟩, ⟨[], [4, 5]⟩, ⟨[(0, 1), (1, 1)], [20]⟩, ⟨[], [4, 5]⟩, ⟨[], [4, 5]⟩], heads := [], exits := [(0, [])], rets := [4, 5], pins := [], spec := [[false], [false]] }
abbrev g50_A : List Sh := [.a (.c (.int .u64)), .a (.c (.int .u64))]
abbrev g50_S : Sh := .tup [(.c (.int .i64)), (.c .bool)]
abbrev g50_U : List Sh := [.a (.c .dead), .a (.c .dead)]
def g50_R (m : Nat) : ShLVal g50_A → Option (g50_S.Val × ShLVal g50_U) := fun (x : Int × Int × Unit) => g50 m x.1 x.2.1
def g50_T (m : Nat) : FunT := ⟨50, g50_A, g50_S, g50_U, g50_R m⟩
noncomputable def g50_C : Code := codeOf Tryz.f50
theorem g50_C_ls : loopsL g50_C 0 = [] := by kernel_rfl
theorem g50_kr (m : Nat) (x : ShLVal g50_A) : fnK (mkC (g50_S.Val × ShLVal g50_U) [g82_T m, g83_T m]) (mkLp (g50_S.Val × ShLVal g50_U) []) tt g50_H Tryz.f50 (encS g50_A x) (Kd g50_S g50_U) = g50 m x.1 x.2.1 := by kernel_rfl
theorem g50_ok (m : Nat) : FunOK Tryz.prog (g50_T m) :=
  fun_ok hmix htt (g50_T m) Tryz.func50 (c := g50_C) (by kernel_rfl) (by kernel_rfl) (Lc := [g82_T m, g83_T m]) (AllF.mem (l := [g82_T m, g83_T m]) ⟨g82_ok m, g83_ok m, trivial⟩) (L := []) (fun _ hE _ _ => loopsIn_of g50_C_ls trivial) (fun x => (g50_kr m x).trans (by kernel_rfl))
/-! 25 sparse/matrix.Symmetric -/
def g25_H : Hints := { regs := [⟨[], [1]⟩, ⟨[(3, 1)], [1, 18]⟩, ⟨[], [2]⟩, ⟨[], [1, 20, 21, 22]⟩, ⟨[], [1, 20, 21, 22, 23]⟩, ⟨[], [1, 4, 20, 21, 22]⟩, ⟨[(6, 1)], [1, 4, 5, 20, 21, 22]⟩, ⟨[(2, 1), (4, 1)], [1, 7, 20, 21, 22]⟩, ⟨[(0, 1)], [1, 20, 21, 22, 43]⟩, ⟨[], [2]⟩, ⟨[(1, 1)], [1, 20, 21, 22]⟩, ⟨[], [2]⟩], heads := [(0, [1, 20, 21, 22])], exits := [(0, []), (1, [1, 20, 21, 22])], rets := [2], pins := [], spec := [[false]] }
abbrev g25_A : List Sh := [.a (.agg [(.int .i64), (.int .i64), (.imm (.int .i64)), (.imm (.int .i64)), (.imm (.int .u64))])]
abbrev g25_S : Sh := .a (.c .bool)
abbrev g25_U : List Sh := [.a (.c .dead)]
def g25_R (m : Nat) : ShLVal g25_A → Option (g25_S.Val × ShLVal g25_U) := fun (x : (Int × Int × List Int × List Int × List Int × Unit) × Unit) => g25 m x.1.1 x.1.2.1 x.1.2.2.1 x.1.2.2.2.1 x.1.2.2.2.2.1
def g25_T (m : Nat) : FunT := ⟨25, g25_A, g25_S, g25_U, g25_R m⟩
noncomputable def g25_C : Code := codeOf Tryz.f25
noncomputable def g25_B0 : Code := loopAt g25_C 0 0
theorem g25_B0_ls : loopsL g25_B0 0 = [] := by kernel_rfl
theorem g25_C_ls : loopsL g25_C 0 = [(0, g25_B0)] := by kernel_rfl
abbrev g25_L0_I : SS := [(1, .a (.bx 0 [(.int .i64), (.int .i64), (.imm (.int .i64)), (.imm (.int .i64)), (.imm (.int .u64))])), (20, .a (.c (.nm 1 (.pr (.int .i64) (.pr (.int .i64) (.int .u64)))))), (21, .a (.c (.int .i64))), (22, .a (.c (.int .i64)))]
abbrev g25_L0_O : List (Ex × SS) := [(.ret, [(2, .a (.c .bool))]), (.exit 0, [])]
def g25_L0_R (m n : Nat) : g25_L0_I.Val → Option (outVal g25_L0_O) := (fun (x : (Int × Int × List Int × List Int × List Int × Unit) × (List (Int × Int × Int)) × Int × Int × Unit) => g25_L0 m n x.1.1 x.1.2.1 x.1.2.2.1 x.1.2.2.2.1 x.1.2.2.2.2.1 x.2.1 x.2.2.1 x.2.2.2.1)
def g25_L0_T (m n : Nat) : LoopT := ⟨0, g25_L0_I, g25_L0_O, g25_L0_R m n⟩
theorem g25_L0_kr (m n : Nat) (x : g25_L0_I.Val) : roundK (mkC (outVal g25_L0_O) [g28_T m, g38_T m, g49_T m, g50_T m]) (mkLp (outVal g25_L0_O) []) tt 45 g25_H g25_B0 0 (g25_L0_I.enc x) (Kl (ins := g25_L0_I) (outs := g25_L0_O) (g25_L0_R m n)) = g25_L0 m (n + 1) x.1.1 x.1.2.1 x.1.2.2.1 x.1.2.2.2.1 x.1.2.2.2.2.1 x.2.1 x.2.2.1 x.2.2.2.1 := by kernel_rfl
theorem g25_L0_ok {E : Entry} (hE : EOf Tryz.prog E 45 g25_H.pins) (m : Nat) (n : Nat) : LoopOK Tryz.prog E g25_B0 (g25_L0_T m n) :=
  loop_ok (CO := CallOK Tryz.prog) hmix htt (fun _ _ _ _ h => h) hE (C := fun R => mkC R [g28_T m, g38_T m, g49_T m, g50_T m]) (L := []) (fun _ _ _ _ _ h => mkC_spec (AllF.mem (l := [g28_T m, g38_T m, g49_T m, g50_T m]) ⟨g28_ok m, g38_ok m, g49_ok m, g50_ok m, trivial⟩) h) (fun _ _ => loopsIn_of g25_B0_ls trivial) (fun n => (g25_L0_R m n)) (fun _ => by kernel_rfl) (fun n x => (g25_L0_kr m n x).trans (by kernel_rfl)) n
theorem g25_kr (m : Nat) (x : ShLVal g25_A) : fnK (mkC (g25_S.Val × ShLVal g25_U) [g28_T m, g38_T m, g49_T m, g50_T m]) (mkLp (g25_S.Val × ShLVal g25_U) [g25_L0_T m m]) tt g25_H Tryz.f25 (encS g25_A x) (Kd g25_S g25_U) = g25 m x.1.1 x.1.2.1 x.1.2.2.1 x.1.2.2.2.1 x.1.2.2.2.2.1 := by kernel_rfl
theorem g25_ok (m : Nat) : FunOK Tryz.prog (g25_T m) :=
  fun_ok hmix htt (g25_T m) Tryz.func25 (c := g25_C) (by kernel_rfl) (by kernel_rfl) (Lc := [g28_T m, g38_T m, g49_T m, g50_T m]) (AllF.mem (l := [g28_T m, g38_T m, g49_T m, g50_T m]) ⟨g28_ok m, g38_ok m, g49_ok m, g50_ok m, trivial⟩) (L := [g25_L0_T m m]) (fun _ hE _ _ => loopsIn_of g25_C_ls ⟨mkLp_all ⟨fun _ => g25_L0_ok hE m m, trivial⟩, trivial⟩) (fun x => (g25_kr m x).trans (by kernel_rfl))
/-! 5 sparse/sparselaw09.MatrixTriangles -/
def sparselaw09_MatrixTriangles_H : Hints := { regs := [⟨[], [0, 1]⟩, ⟨[], [0, 1, 18]⟩, ⟨[], [4]⟩, ⟨[(0, 1)], [0, 1]⟩, ⟨[(1, 1)], [0, 5]⟩, ⟨[(2, 1)], [0, 5, 6, 7]⟩, ⟨[(2, 1)], [0, 5, 6, 7, 8, 9]⟩, ⟨[(0, 1), (2, 1), (3, 1), (6, 1), (11, 1)], [0, 5, 8, 51]⟩, ⟨[], [4]⟩, ⟨[], [0, 5, 10]⟩, ⟨[], [0, 5, 10, 11]⟩, ⟨[], [0, 5, 10, 11, 12]⟩, ⟨[], [0, 5, 10, 11, 12, 57]⟩, ⟨[(0, 1)], [0, 5, 10, 11, 12]⟩, ⟨[], [0, 5, 10, 11, 12, 13]⟩, ⟨[], [0, 5, 10, 11, 12, 13, 68]⟩, ⟨[], [4]⟩, ⟨[(0, 1)], [0, 5, 10, 11, 12, 13]⟩, ⟨[], [0, 5, 10, 11, 12, 13, 77]⟩, ⟨[(0, 1)], [0, 5, 10, 11, 12]⟩, ⟨[(2, 1), (4, 1)], [5, 14, 15]⟩, ⟨[(0, 1), (2, 1), (7, 1)], [4]⟩], heads := [(0, [0, 5, 10, 11, 12])], exits := [(0, [0, 5, 11]), (1, [0, 5, 10, 11, 12])], rets := [4], pins := [], spec := [[false]] }
abbrev sparselaw09_MatrixTriangles_A : List Sh := [.a (.c (.int .i64)), .a (.c (.imm (.int .i64)))]
abbrev sparselaw09_MatrixTriangles_S : Sh := .a (.c .bool)
abbrev sparselaw09_MatrixTriangles_U : List Sh := [.a (.c .dead), .a (.c .dead)]
def sparselaw09_MatrixTriangles_R (m : Nat) : ShLVal sparselaw09_MatrixTriangles_A → Option (sparselaw09_MatrixTriangles_S.Val × ShLVal sparselaw09_MatrixTriangles_U) := fun (x : Int × List Int × Unit) => sparselaw09_MatrixTriangles m x.1 x.2.1
def sparselaw09_MatrixTriangles_T (m : Nat) : FunT := ⟨5, sparselaw09_MatrixTriangles_A, sparselaw09_MatrixTriangles_S, sparselaw09_MatrixTriangles_U, sparselaw09_MatrixTriangles_R m⟩
noncomputable def sparselaw09_MatrixTriangles_C : Code := codeOf Tryz.f5
noncomputable def sparselaw09_MatrixTriangles_B0 : Code := loopAt sparselaw09_MatrixTriangles_C 0 0
theorem sparselaw09_MatrixTriangles_B0_ls : loopsL sparselaw09_MatrixTriangles_B0 0 = [] := by kernel_rfl
theorem sparselaw09_MatrixTriangles_C_ls : loopsL sparselaw09_MatrixTriangles_C 0 = [(0, sparselaw09_MatrixTriangles_B0)] := by kernel_rfl
abbrev sparselaw09_MatrixTriangles_L0_I : SS := [(0, .a (.c (.int .i64))), (5, .a (.bx 0 [(.int .i64), (.int .i64), (.nm 1 (.int .i64)), (.nm 2 (.int .i64)), (.nm 3 (.int .u64))])), (10, .a (.c (.nm 4 (.pr (.int .i64) (.pr (.int .i64) (.int .u64)))))), (11, .a (.c (.nm 5 (.pr (.int .i64) (.pr (.int .i64) (.int .u64)))))), (12, .a (.c (.int .i64)))]
abbrev sparselaw09_MatrixTriangles_L0_O : List (Ex × SS) := [(.ret, [(4, .a (.c .bool))]), (.exit 0, [(0, .a (.c (.int .i64))), (5, .a (.bx 0 [(.int .i64), (.int .i64), (.nm 1 (.int .i64)), (.nm 2 (.int .i64)), (.nm 3 (.int .u64))])), (11, .a (.c (.nm 4 (.pr (.int .i64) (.pr (.int .i64) (.int .u64))))))])]
def sparselaw09_MatrixTriangles_L0_R (m n : Nat) : sparselaw09_MatrixTriangles_L0_I.Val → Option (outVal sparselaw09_MatrixTriangles_L0_O) := (fun (x : Int × (Int × Int × List Int × List Int × List Int × Unit) × (List (Int × Int × Int)) × (List (Int × Int × Int)) × Int × Unit) => sparselaw09_MatrixTriangles_L0 m n x.1 x.2.1.1 x.2.1.2.1 x.2.1.2.2.1 x.2.1.2.2.2.1 x.2.1.2.2.2.2.1 x.2.2.1 x.2.2.2.1 x.2.2.2.2.1)
def sparselaw09_MatrixTriangles_L0_T (m n : Nat) : LoopT := ⟨0, sparselaw09_MatrixTriangles_L0_I, sparselaw09_MatrixTriangles_L0_O, sparselaw09_MatrixTriangles_L0_R m n⟩
theorem sparselaw09_MatrixTriangles_L0_kr (m n : Nat) (x : sparselaw09_MatrixTriangles_L0_I.Val) : roundK (mkC (outVal sparselaw09_MatrixTriangles_L0_O) [sparselaw09_awake_T m, g7_T m, g24_T m, g11_T m, g18_T m, g25_T m, g15_T m, g10_T m, g9_T m]) (mkLp (outVal sparselaw09_MatrixTriangles_L0_O) []) tt 105 sparselaw09_MatrixTriangles_H sparselaw09_MatrixTriangles_B0 0 (sparselaw09_MatrixTriangles_L0_I.enc x) (Kl (ins := sparselaw09_MatrixTriangles_L0_I) (outs := sparselaw09_MatrixTriangles_L0_O) (sparselaw09_MatrixTriangles_L0_R m n)) = sparselaw09_MatrixTriangles_L0 m (n + 1) x.1 x.2.1.1 x.2.1.2.1 x.2.1.2.2.1 x.2.1.2.2.2.1 x.2.1.2.2.2.2.1 x.2.2.1 x.2.2.2.1 x.2.2.2.2.1 := by kernel_rfl
theorem sparselaw09_MatrixTriangles_L0_ok {E : Entry} (hE : EOf Tryz.prog E 105 sparselaw09_MatrixTriangles_H.pins) (m : Nat) (n : Nat) : LoopOK Tryz.prog E sparselaw09_MatrixTriangles_B0 (sparselaw09_MatrixTriangles_L0_T m n) :=
  loop_ok (CO := CallOK Tryz.prog) hmix htt (fun _ _ _ _ h => h) hE (C := fun R => mkC R [sparselaw09_awake_T m, g7_T m, g24_T m, g11_T m, g18_T m, g25_T m, g15_T m, g10_T m, g9_T m]) (L := []) (fun _ _ _ _ _ h => mkC_spec (AllF.mem (l := [sparselaw09_awake_T m, g7_T m, g24_T m, g11_T m, g18_T m, g25_T m, g15_T m, g10_T m, g9_T m]) ⟨sparselaw09_awake_ok m, g7_ok m, g24_ok m, g11_ok m, g18_ok m, g25_ok m, g15_ok m, g10_ok m, g9_ok m, trivial⟩) h) (fun _ _ => loopsIn_of sparselaw09_MatrixTriangles_B0_ls trivial) (fun n => (sparselaw09_MatrixTriangles_L0_R m n)) (fun _ => by kernel_rfl) (fun n x => (sparselaw09_MatrixTriangles_L0_kr m n x).trans (by kernel_rfl)) n
theorem sparselaw09_MatrixTriangles_kr (m : Nat) (x : ShLVal sparselaw09_MatrixTriangles_A) : fnK (mkC (sparselaw09_MatrixTriangles_S.Val × ShLVal sparselaw09_MatrixTriangles_U) [sparselaw09_awake_T m, g7_T m, g24_T m, g11_T m, g18_T m, g25_T m, g15_T m, g10_T m, g9_T m]) (mkLp (sparselaw09_MatrixTriangles_S.Val × ShLVal sparselaw09_MatrixTriangles_U) [sparselaw09_MatrixTriangles_L0_T m m]) tt sparselaw09_MatrixTriangles_H Tryz.f5 (encS sparselaw09_MatrixTriangles_A x) (Kd sparselaw09_MatrixTriangles_S sparselaw09_MatrixTriangles_U) = sparselaw09_MatrixTriangles m x.1 x.2.1 := by kernel_rfl
theorem sparselaw09_MatrixTriangles_ok (m : Nat) : FunOK Tryz.prog (sparselaw09_MatrixTriangles_T m) :=
  fun_ok hmix htt (sparselaw09_MatrixTriangles_T m) Tryz.func5 (c := sparselaw09_MatrixTriangles_C) (by kernel_rfl) (by kernel_rfl) (Lc := [sparselaw09_awake_T m, g7_T m, g24_T m, g11_T m, g18_T m, g25_T m, g15_T m, g10_T m, g9_T m]) (AllF.mem (l := [sparselaw09_awake_T m, g7_T m, g24_T m, g11_T m, g18_T m, g25_T m, g15_T m, g10_T m, g9_T m]) ⟨sparselaw09_awake_ok m, g7_ok m, g24_ok m, g11_ok m, g18_ok m, g25_ok m, g15_ok m, g10_ok m, g9_ok m, trivial⟩) (L := [sparselaw09_MatrixTriangles_L0_T m m]) (fun _ hE _ _ => loopsIn_of sparselaw09_MatrixTriangles_C_ls ⟨mkLp_all ⟨fun _ => sparselaw09_MatrixTriangles_L0_ok hE m m, trivial⟩, trivial⟩) (fun x => (sparselaw09_MatrixTriangles_kr m x).trans (by kernel_rfl))
end Go.Vs.F
