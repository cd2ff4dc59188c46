/- The plain functions are what the code does (by program: gen.py). -/
import Derived.Test.YtokemaifpclkcaaFn
import Derived.Test.YtokemaifpclkcaaProg
import Derived.KernelRfl

/-! MaOk -/
set_option linter.unusedVariables false
set_option maxRecDepth 100000
namespace Go.Vs.F
open Go.Proofs
def tt : TT := [none, none, none, some ⟨(.int .i64), [.int .i64]⟩, some ⟨.bool, [.bool]⟩, none, none, none, none, none, none, none, none, none, none, none, none, none, none, none, none, none, some ⟨(.slice 3 (.int .i64)), [.nil (.int .i64)]⟩, some ⟨(.slice 41 (.int .u64)), [.nil (.int .u64)]⟩, none, some ⟨(.struct [(0, 1), (1, 1), (2, 1), (3, 1), (4, 1)]), [.int .i64, .int .i64, .nil (.int .i64), .nil (.int .i64), .nil (.int .u64)]⟩, none, some ⟨(.struct [(0, 1), (1, 1)]), [.nil (.int .i64), .nil (.int .i64)]⟩, none, none, none, none, none, none, none, none, none, none, none, none, none, some ⟨(.int .u64), [.int .u64]⟩, none, none, none, some ⟨(.slice 22 (.sl false (.int .i64))), [.nil (.sl false (.int .i64))]⟩, some ⟨(.slice 4 .bool), [.nil .bool]⟩, none, some ⟨(.struct [(0, 1), (1, 1), (2, 1), (3, 1)]), [.nil (.sl false (.int .i64)), .nil (.int .i64), .nil (.int .i64), .nil .bool]⟩, none, none, none, some ⟨(.struct [(0, 5), (5, 1), (6, 1), (7, 1)]), [.int .i64, .int .i64, .nil (.int .i64), .nil (.int .i64), .nil (.int .u64), .nil (.int .i64), .nil (.int .i64), .nil .bool]⟩, none, none, none, none, none, none, none, none, none, none, none, none, none, some ⟨(.slice 69 (.pr (.int .i64) (.pr (.int .i64) (.int .u64)))), [.nil (.pr (.int .i64) (.pr (.int .i64) (.int .u64)))]⟩, none, none, some ⟨(.struct [(0, 1), (1, 1), (2, 1)]), [.int .i64, .int .i64, .int .u64]⟩]
theorem htt : TTok Try.prog tt := ttChk_spec (by kernel_rfl)
theorem hmix : Try.prog.follows .mixedOrders = true := by kernel_rfl
/-! 4 sparse/sparselaw13.small -/
def sparselaw13_small_H : Hints := { regs := [⟨[], [1]⟩, ⟨[(4, 1), (10, 1), (16, 1), (20, 1), (26, 1), (30, 1)], [2]⟩], heads := [], exits := [], rets := [2], pins := [], spec := [[false]] }
abbrev sparselaw13_small_A : List Sh := [.a (.agg [(.int .i64), (.int .i64), (.imm (.int .i64)), (.imm (.int .i64)), (.imm (.int .u64))])]
abbrev sparselaw13_small_S : Sh := .a (.c .bool)
abbrev sparselaw13_small_U : List Sh := [.a (.c .dead)]
def sparselaw13_small_R (m : Nat) : ShLVal sparselaw13_small_A → Option (sparselaw13_small_S.Val × ShLVal sparselaw13_small_U) := fun (x : (Int × Int × List Int × List Int × List Int × Unit) × Unit) => sparselaw13_small m x.1.1 x.1.2.1 x.1.2.2.1 x.1.2.2.2.1 x.1.2.2.2.2.1
def sparselaw13_small_T (m : Nat) : FunT := ⟨4, sparselaw13_small_A, sparselaw13_small_S, sparselaw13_small_U, sparselaw13_small_R m⟩
noncomputable def sparselaw13_small_C : Code := codeOf Try.f4
theorem sparselaw13_small_C_ls : loopsL sparselaw13_small_C 0 = [] := by kernel_rfl
theorem sparselaw13_small_kr (m : Nat) (x : ShLVal sparselaw13_small_A) : fnK (mkC (sparselaw13_small_S.Val × ShLVal sparselaw13_small_U) []) (mkLp (sparselaw13_small_S.Val × ShLVal sparselaw13_small_U) []) tt sparselaw13_small_H Try.f4 (encS sparselaw13_small_A x) (Kd sparselaw13_small_S sparselaw13_small_U) = sparselaw13_small_R m x := by kernel_rfl
theorem sparselaw13_small_ok (m : Nat) : FunOK Try.prog (sparselaw13_small_T m) :=
  fun_ok hmix htt (sparselaw13_small_T m) Try.func4 (c := sparselaw13_small_C) (by kernel_rfl) (by kernel_rfl) (Lc := []) (AllF.mem (l := []) trivial) (L := []) (fun _ hE _ _ => loopsIn_of sparselaw13_small_C_ls trivial) (sparselaw13_small_kr m)
/-! 34 sparse/matrix.within -/
def matrix_within_H : Hints := { regs := [⟨[], [0, 1, 2]⟩, ⟨[(1, 1), (3, 1), (5, 1)], [6]⟩], heads := [], exits := [], rets := [6], pins := [], spec := [[false]] }
abbrev matrix_within_A : List Sh := [.a (.c (.int .i64)), .a (.c (.int .i64)), .a (.c (.int .i64))]
abbrev matrix_within_S : Sh := .a (.c .bool)
abbrev matrix_within_U : List Sh := [.a (.c .dead), .a (.c .dead), .a (.c .dead)]
def matrix_within_R (m : Nat) : ShLVal matrix_within_A → Option (matrix_within_S.Val × ShLVal matrix_within_U) := fun (x : Int × Int × Int × Unit) => matrix_within m x.1 x.2.1 x.2.2.1
def matrix_within_T (m : Nat) : FunT := ⟨34, matrix_within_A, matrix_within_S, matrix_within_U, matrix_within_R m⟩
noncomputable def matrix_within_C : Code := codeOf Try.f34
theorem matrix_within_C_ls : loopsL matrix_within_C 0 = [] := by kernel_rfl
theorem matrix_within_kr (m : Nat) (x : ShLVal matrix_within_A) : fnK (mkC (matrix_within_S.Val × ShLVal matrix_within_U) []) (mkLp (matrix_within_S.Val × ShLVal matrix_within_U) []) tt matrix_within_H Try.f34 (encS matrix_within_A x) (Kd matrix_within_S matrix_within_U) = matrix_within_R m x := by kernel_rfl
theorem matrix_within_ok (m : Nat) : FunOK Try.prog (matrix_within_T m) :=
  fun_ok hmix htt (matrix_within_T m) Try.func34 (c := matrix_within_C) (by kernel_rfl) (by kernel_rfl) (Lc := []) (AllF.mem (l := []) trivial) (L := []) (fun _ hE _ _ => loopsIn_of matrix_within_C_ls trivial) (matrix_within_kr m)
/-! 51 cmp.isNaN_int_ -/
def cmp_isNaN_H : Hints := { regs := [⟨[], [0]⟩, ⟨[], [2]⟩], heads := [], exits := [], rets := [2], pins := [], spec := [[false]] }
abbrev cmp_isNaN_A : List Sh := [.a (.c (.int .i64))]
abbrev cmp_isNaN_S : Sh := .a (.c .bool)
abbrev cmp_isNaN_U : List Sh := [.a (.c .dead)]
def cmp_isNaN_R (m : Nat) : ShLVal cmp_isNaN_A → Option (cmp_isNaN_S.Val × ShLVal cmp_isNaN_U) := fun (x : Int × Unit) => cmp_isNaN m x.1
def cmp_isNaN_T (m : Nat) : FunT := ⟨51, cmp_isNaN_A, cmp_isNaN_S, cmp_isNaN_U, cmp_isNaN_R m⟩
noncomputable def cmp_isNaN_C : Code := codeOf Try.f51
theorem cmp_isNaN_C_ls : loopsL cmp_isNaN_C 0 = [] := by kernel_rfl
theorem cmp_isNaN_kr (m : Nat) (x : ShLVal cmp_isNaN_A) : fnK (mkC (cmp_isNaN_S.Val × ShLVal cmp_isNaN_U) []) (mkLp (cmp_isNaN_S.Val × ShLVal cmp_isNaN_U) []) tt cmp_isNaN_H Try.f51 (encS cmp_isNaN_A x) (Kd cmp_isNaN_S cmp_isNaN_U) = cmp_isNaN_R m x := by kernel_rfl
theorem cmp_isNaN_ok (m : Nat) : FunOK Try.prog (cmp_isNaN_T m) :=
  fun_ok hmix htt (cmp_isNaN_T m) Try.func51 (c := cmp_isNaN_C) (by kernel_rfl) (by kernel_rfl) (Lc := []) (AllF.mem (l := []) trivial) (L := []) (fun _ hE _ _ => loopsIn_of cmp_isNaN_C_ls trivial) (cmp_isNaN_kr m)
/-! 50 cmp.Less_int_ -/
def cmp_Less_H : Hints := { regs := [⟨[], [0, 1]⟩, ⟨[(2, 1), (7, 1)], [4]⟩], heads := [], exits := [], rets := [4], pins := [], spec := [[false]] }
abbrev cmp_Less_A : List Sh := [.a (.c (.int .i64)), .a (.c (.int .i64))]
abbrev cmp_Less_S : Sh := .a (.c .bool)
abbrev cmp_Less_U : List Sh := [.a (.c .dead), .a (.c .dead)]
def cmp_Less_R (m : Nat) : ShLVal cmp_Less_A → Option (cmp_Less_S.Val × ShLVal cmp_Less_U) := fun (x : Int × Int × Unit) => cmp_Less m x.1 x.2.1
def cmp_Less_T (m : Nat) : FunT := ⟨50, cmp_Less_A, cmp_Less_S, cmp_Less_U, cmp_Less_R m⟩
noncomputable def cmp_Less_C : Code := codeOf Try.f50
theorem cmp_Less_C_ls : loopsL cmp_Less_C 0 = [] := by kernel_rfl
theorem cmp_Less_kr (m : Nat) (x : ShLVal cmp_Less_A) : fnK (mkC (cmp_Less_S.Val × ShLVal cmp_Less_U) [cmp_isNaN_T m]) (mkLp (cmp_Less_S.Val × ShLVal cmp_Less_U) []) tt cmp_Less_H Try.f50 (encS cmp_Less_A x) (Kd cmp_Less_S cmp_Less_U) = cmp_Less_R m x := by kernel_rfl
theorem cmp_Less_ok (m : Nat) : FunOK Try.prog (cmp_Less_T m) :=
  fun_ok hmix htt (cmp_Less_T m) Try.func50 (c := cmp_Less_C) (by kernel_rfl) (by kernel_rfl) (Lc := [cmp_isNaN_T m]) (AllF.mem (l := [cmp_isNaN_T m]) ⟨cmp_isNaN_ok m, trivial⟩) (L := []) (fun _ hE _ _ => loopsIn_of cmp_Less_C_ls trivial) (cmp_Less_kr m)
/-! 46 slices.IsSorted___int_int_ -/
def slices_IsSorted_H : Hints := { regs := [⟨[], [0]⟩, ⟨[], [0, 3]⟩, ⟨[], [0, 3, 8]⟩, ⟨[(0, 1)], [0, 3]⟩, ⟨[], [0, 3, 20]⟩, ⟨[], [2]⟩, ⟨[], [2]⟩], heads := [(0, [0, 3])], exits := [(0, []), (1, [0, 3])], rets := [2], pins := [], spec := [[false]] }
abbrev slices_IsSorted_A : List Sh := [.a (.c (.imm (.int .i64)))]
abbrev slices_IsSorted_S : Sh := .a (.c .bool)
abbrev slices_IsSorted_U : List Sh := [.a (.c .dead)]
def slices_IsSorted_R (m : Nat) : ShLVal slices_IsSorted_A → Option (slices_IsSorted_S.Val × ShLVal slices_IsSorted_U) := fun (x : List Int × Unit) => slices_IsSorted m x.1
def slices_IsSorted_T (m : Nat) : FunT := ⟨46, slices_IsSorted_A, slices_IsSorted_S, slices_IsSorted_U, slices_IsSorted_R m⟩
noncomputable def slices_IsSorted_C : Code := codeOf Try.f46
noncomputable def slices_IsSorted_B0 : Code := loopAt slices_IsSorted_C 0 0
theorem slices_IsSorted_B0_ls : loopsL slices_IsSorted_B0 0 = [] := by kernel_rfl
theorem slices_IsSorted_C_ls : loopsL slices_IsSorted_C 0 = [(0, slices_IsSorted_B0)] := by kernel_rfl
abbrev slices_IsSorted_L0_I : SS := [(0, .a (.c (.imm (.int .i64)))), (3, .a (.c (.int .i64)))]
abbrev slices_IsSorted_L0_O : List (Ex × SS) := [(.ret, [(2, .a (.c .bool))]), (.exit 0, [])]
def slices_IsSorted_L0_R (m n : Nat) : slices_IsSorted_L0_I.Val → Option (outVal slices_IsSorted_L0_O) := (fun (x : List Int × Int × Unit) => slices_IsSorted_L0 m n x.1 x.2.1)
def slices_IsSorted_L0_T (m n : Nat) : LoopT := ⟨0, slices_IsSorted_L0_I, slices_IsSorted_L0_O, slices_IsSorted_L0_R m n⟩
theorem slices_IsSorted_L0_kr (m n : Nat) (x : slices_IsSorted_L0_I.Val) : roundK (mkC (outVal slices_IsSorted_L0_O) [cmp_Less_T m]) (mkLp (outVal slices_IsSorted_L0_O) []) tt 21 slices_IsSorted_H slices_IsSorted_B0 0 (slices_IsSorted_L0_I.enc x) (Kl (ins := slices_IsSorted_L0_I) (outs := slices_IsSorted_L0_O) (slices_IsSorted_L0_R m n)) = slices_IsSorted_L0_R m (n + 1) x := by kernel_rfl
theorem slices_IsSorted_L0_ok {E : Entry} (hE : EOf E 21 slices_IsSorted_H.pins) (m : Nat) (n : Nat) : LoopOK Try.prog E slices_IsSorted_B0 (slices_IsSorted_L0_T m n) :=
  loop_ok (CO := CallOK Try.prog) hmix htt (fun _ _ _ _ h => h) hE (C := fun R => mkC R [cmp_Less_T m]) (L := []) (fun _ _ _ _ _ h => mkC_spec (AllF.mem (l := [cmp_Less_T m]) ⟨cmp_Less_ok m, trivial⟩) h) (fun _ _ => loopsIn_of slices_IsSorted_B0_ls trivial) (fun n => (slices_IsSorted_L0_R m n)) (fun _ => by kernel_rfl) (slices_IsSorted_L0_kr m) n
theorem slices_IsSorted_kr (m : Nat) (x : ShLVal slices_IsSorted_A) : fnK (mkC (slices_IsSorted_S.Val × ShLVal slices_IsSorted_U) [cmp_Less_T m]) (mkLp (slices_IsSorted_S.Val × ShLVal slices_IsSorted_U) [slices_IsSorted_L0_T m m]) tt slices_IsSorted_H Try.f46 (encS slices_IsSorted_A x) (Kd slices_IsSorted_S slices_IsSorted_U) = slices_IsSorted_R m x := by kernel_rfl
theorem slices_IsSorted_ok (m : Nat) : FunOK Try.prog (slices_IsSorted_T m) :=
  fun_ok hmix htt (slices_IsSorted_T m) Try.func46 (c := slices_IsSorted_C) (by kernel_rfl) (by kernel_rfl) (Lc := [cmp_Less_T m]) (AllF.mem (l := [cmp_Less_T m]) ⟨cmp_Less_ok m, trivial⟩) (L := [slices_IsSorted_L0_T m m]) (fun _ hE _ _ => loopsIn_of slices_IsSorted_C_ls ⟨mkLp_all ⟨fun _ => slices_IsSorted_L0_ok hE m m, trivial⟩, trivial⟩) (slices_IsSorted_kr m)
/-! 35 sparse/matrix.columns -/
def matrix_columns_H : Hints := { regs := [⟨[], [1]⟩, ⟨[(7, 1), (14, 1), (20, 1), (32, 1)], [1, 47]⟩, ⟨[], [2]⟩, ⟨[], [1, 49, 50]⟩, ⟨[], [1, 49, 50, 51]⟩, ⟨[], [1, 3, 49, 50]⟩, ⟨[], [1, 3, 4, 49, 50]⟩, ⟨[], [1, 4, 49, 50, 66, 67, 68]⟩, ⟨[], [1, 4, 49, 50, 66, 67, 68, 69]⟩, ⟨[], [1, 4, 6, 49, 50, 66, 67, 68]⟩, ⟨[(1, 1), (3, 1)], [1, 6, 49, 50, 66, 67, 68, 80]⟩, ⟨[], [2]⟩, ⟨[(0, 1)], [1, 4, 49, 50, 66, 67, 68]⟩, ⟨[(1, 1)], [1, 4, 49, 50, 66, 67, 68]⟩, ⟨[(1, 1)], [1, 49, 50]⟩, ⟨[], [2]⟩], heads := [(0, [1, 49, 50]), (2, [1, 4, 49, 50, 66, 67, 68])], exits := [(0, []), (1, [1, 49, 50]), (2, [1, 49, 50]), (3, [1, 4, 49, 50, 66, 67, 68])], rets := [2], pins := [], spec := [[false]] }
abbrev matrix_columns_A : List Sh := [.a (.agg [(.int .i64), (.int .i64), (.imm (.int .i64)), (.imm (.int .i64)), (.imm (.int .u64))])]
abbrev matrix_columns_S : Sh := .a (.c .bool)
abbrev matrix_columns_U : List Sh := [.a (.c .dead)]
def matrix_columns_R (m : Nat) : ShLVal matrix_columns_A → Option (matrix_columns_S.Val × ShLVal matrix_columns_U) := fun (x : (Int × Int × List Int × List Int × List Int × Unit) × Unit) => matrix_columns m x.1.1 x.1.2.1 x.1.2.2.1 x.1.2.2.2.1 x.1.2.2.2.2.1
def matrix_columns_T (m : Nat) : FunT := ⟨35, matrix_columns_A, matrix_columns_S, matrix_columns_U, matrix_columns_R m⟩
noncomputable def matrix_columns_C : Code := codeOf Try.f35
noncomputable def matrix_columns_B0 : Code := loopAt matrix_columns_C 0 0
noncomputable def matrix_columns_B2 : Code := loopAt matrix_columns_B0 0 0
theorem matrix_columns_B2_ls : loopsL matrix_columns_B2 2 = [] := by kernel_rfl
theorem matrix_columns_B0_ls : loopsL matrix_columns_B0 0 = [(2, matrix_columns_B2)] := by kernel_rfl
theorem matrix_columns_C_ls : loopsL matrix_columns_C 0 = [(0, matrix_columns_B0)] := by kernel_rfl
abbrev matrix_columns_L1_I : SS := [(1, .a (.bx 0 [(.int .i64), (.int .i64), (.imm (.int .i64)), (.imm (.int .i64)), (.imm (.int .u64))])), (4, .a (.c (.int .i64))), (49, .a (.c (.int .i64))), (50, .a (.c (.int .i64))), (66, .a (.c (.imm (.int .i64)))), (67, .a (.c (.int .i64))), (68, .a (.c (.int .i64)))]
abbrev matrix_columns_L1_O : List (Ex × SS) := [(.ret, [(2, .a (.c .bool))]), (.exit 2, [(1, .a (.bx 0 [(.int .i64), (.int .i64), (.imm (.int .i64)), (.imm (.int .i64)), (.imm (.int .u64))])), (49, .a (.c (.int .i64))), (50, .a (.c (.int .i64)))])]
def matrix_columns_L1_R (m n : Nat) : matrix_columns_L1_I.Val → Option (outVal matrix_columns_L1_O) := (fun (x : (Int × Int × List Int × List Int × List Int × Unit) × Int × Int × Int × List Int × Int × Int × Unit) => matrix_columns_L1 m n x.1.1 x.1.2.1 x.1.2.2.1 x.1.2.2.2.1 x.1.2.2.2.2.1 x.2.1 x.2.2.1 x.2.2.2.1 x.2.2.2.2.1 x.2.2.2.2.2.1 x.2.2.2.2.2.2.1)
def matrix_columns_L1_T (m n : Nat) : LoopT := ⟨2, matrix_columns_L1_I, matrix_columns_L1_O, matrix_columns_L1_R m n⟩
theorem matrix_columns_L1_kr (m n : Nat) (x : matrix_columns_L1_I.Val) : roundK (mkC (outVal matrix_columns_L1_O) [slices_IsSorted_T m]) (mkLp (outVal matrix_columns_L1_O) []) tt 84 matrix_columns_H matrix_columns_B2 2 (matrix_columns_L1_I.enc x) (Kl (ins := matrix_columns_L1_I) (outs := matrix_columns_L1_O) (matrix_columns_L1_R m n)) = matrix_columns_L1_R m (n + 1) x := by kernel_rfl
theorem matrix_columns_L1_ok {E : Entry} (hE : EOf E 84 matrix_columns_H.pins) (m : Nat) (n : Nat) : LoopOK Try.prog E matrix_columns_B2 (matrix_columns_L1_T m n) :=
  loop_ok (CO := CallOK Try.prog) hmix htt (fun _ _ _ _ h => h) hE (C := fun R => mkC R [slices_IsSorted_T m]) (L := []) (fun _ _ _ _ _ h => mkC_spec (AllF.mem (l := [slices_IsSorted_T m]) ⟨slices_IsSorted_ok m, trivial⟩) h) (fun _ _ => loopsIn_of matrix_columns_B2_ls trivial) (fun n => (matrix_columns_L1_R m n)) (fun _ => by kernel_rfl) (matrix_columns_L1_kr m) n
abbrev matrix_columns_L0_I : SS := [(1, .a (.bx 0 [(.int .i64), (.int .i64), (.imm (.int .i64)), (.imm (.int .i64)), (.imm (.int .u64))])), (49, .a (.c (.int .i64))), (50, .a (.c (.int .i64)))]
abbrev matrix_columns_L0_O : List (Ex × SS) := [(.ret, [(2, .a (.c .bool))]), (.exit 0, [])]
def matrix_columns_L0_R (m n : Nat) : matrix_columns_L0_I.Val → Option (outVal matrix_columns_L0_O) := (fun (x : (Int × Int × List Int × List Int × List Int × Unit) × Int × Int × Unit) => matrix_columns_L0 m n x.1.1 x.1.2.1 x.1.2.2.1 x.1.2.2.2.1 x.1.2.2.2.2.1 x.2.1 x.2.2.1)
def matrix_columns_L0_T (m n : Nat) : LoopT := ⟨0, matrix_columns_L0_I, matrix_columns_L0_O, matrix_columns_L0_R m n⟩
theorem matrix_columns_L0_kr (m n : Nat) (x : matrix_columns_L0_I.Val) : roundK (mkC (outVal matrix_columns_L0_O) [slices_IsSorted_T m]) (mkLp (outVal matrix_columns_L0_O) [matrix_columns_L1_T m m]) tt 84 matrix_columns_H matrix_columns_B0 0 (matrix_columns_L0_I.enc x) (Kl (ins := matrix_columns_L0_I) (outs := matrix_columns_L0_O) (matrix_columns_L0_R m n)) = matrix_columns_L0_R m (n + 1) x := by kernel_rfl
theorem matrix_columns_L0_ok {E : Entry} (hE : EOf E 84 matrix_columns_H.pins) (m : Nat) (n : Nat) : LoopOK Try.prog E matrix_columns_B0 (matrix_columns_L0_T m n) :=
  loop_ok (CO := CallOK Try.prog) hmix htt (fun _ _ _ _ h => h) hE (C := fun R => mkC R [slices_IsSorted_T m]) (L := [matrix_columns_L1_T m m]) (fun _ _ _ _ _ h => mkC_spec (AllF.mem (l := [slices_IsSorted_T m]) ⟨slices_IsSorted_ok m, trivial⟩) h) (fun _ _ => loopsIn_of matrix_columns_B0_ls ⟨mkLp_all ⟨fun _ => matrix_columns_L1_ok hE m m, trivial⟩, trivial⟩) (fun n => (matrix_columns_L0_R m n)) (fun _ => by kernel_rfl) (matrix_columns_L0_kr m) n
theorem matrix_columns_kr (m : Nat) (x : ShLVal matrix_columns_A) : fnK (mkC (matrix_columns_S.Val × ShLVal matrix_columns_U) [slices_IsSorted_T m]) (mkLp (matrix_columns_S.Val × ShLVal matrix_columns_U) [matrix_columns_L0_T m m]) tt matrix_columns_H Try.f35 (encS matrix_columns_A x) (Kd matrix_columns_S matrix_columns_U) = matrix_columns_R m x := by kernel_rfl
theorem matrix_columns_ok (m : Nat) : FunOK Try.prog (matrix_columns_T m) :=
  fun_ok hmix htt (matrix_columns_T m) Try.func35 (c := matrix_columns_C) (by kernel_rfl) (by kernel_rfl) (Lc := [slices_IsSorted_T m]) (AllF.mem (l := [slices_IsSorted_T m]) ⟨slices_IsSorted_ok m, trivial⟩) (L := [matrix_columns_L0_T m m]) (fun _ hE _ _ => loopsIn_of matrix_columns_C_ls ⟨mkLp_all ⟨fun _ => matrix_columns_L0_ok hE m m, trivial⟩, trivial⟩) (matrix_columns_kr m)
/-! 48 sparse/float.parts -/
def float_parts_H : Hints := { regs := [⟨[], [0]⟩, ⟨[], [2, 3]⟩], heads := [], exits := [], rets := [2, 3], pins := [], spec := [[false], [false]] }
abbrev float_parts_A : List Sh := [.a (.c (.int .u64))]
abbrev float_parts_S : Sh := .tup [(.c (.int .i64)), (.c (.int .u64))]
abbrev float_parts_U : List Sh := [.a (.c .dead)]
def float_parts_R (m : Nat) : ShLVal float_parts_A → Option (float_parts_S.Val × ShLVal float_parts_U) := fun (x : Int × Unit) => float_parts m x.1
def float_parts_T (m : Nat) : FunT := ⟨48, float_parts_A, float_parts_S, float_parts_U, float_parts_R m⟩
noncomputable def float_parts_C : Code := codeOf Try.f48
theorem float_parts_C_ls : loopsL float_parts_C 0 = [] := by kernel_rfl
theorem float_parts_kr (m : Nat) (x : ShLVal float_parts_A) : fnK (mkC (float_parts_S.Val × ShLVal float_parts_U) []) (mkLp (float_parts_S.Val × ShLVal float_parts_U) []) tt float_parts_H Try.f48 (encS float_parts_A x) (Kd float_parts_S float_parts_U) = float_parts_R m x := by kernel_rfl
theorem float_parts_ok (m : Nat) : FunOK Try.prog (float_parts_T m) :=
  fun_ok hmix htt (float_parts_T m) Try.func48 (c := float_parts_C) (by kernel_rfl) (by kernel_rfl) (Lc := []) (AllF.mem (l := []) trivial) (L := []) (fun _ hE _ _ => loopsIn_of float_parts_C_ls trivial) (float_parts_kr m)
/-! 38 sparse/float.IsFinite -/
def float_IsFinite_H : Hints := { regs := [⟨[], [0]⟩, ⟨[(0, 1), (2, 1)], [3]⟩, ⟨[(0, 1)], [2]⟩], heads := [], exits := [], rets := [2], pins := [], spec := [[false]] }
abbrev float_IsFinite_A : List Sh := [.a (.c (.int .u64))]
abbrev float_IsFinite_S : Sh := .a (.c .bool)
abbrev float_IsFinite_U : List Sh := [.a (.c .dead)]
def float_IsFinite_R (m : Nat) : ShLVal float_IsFinite_A → Option (float_IsFinite_S.Val × ShLVal float_IsFinite_U) := fun (x : Int × Unit) => float_IsFinite m x.1
def float_IsFinite_T (m : Nat) : FunT := ⟨38, float_IsFinite_A, float_IsFinite_S, float_IsFinite_U, float_IsFinite_R m⟩
noncomputable def float_IsFinite_C : Code := codeOf Try.f38
theorem float_IsFinite_C_ls : loopsL float_IsFinite_C 0 = [] := by kernel_rfl
theorem float_IsFinite_kr (m : Nat) (x : ShLVal float_IsFinite_A) : fnK (mkC (float_IsFinite_S.Val × ShLVal float_IsFinite_U) [float_parts_T m]) (mkLp (float_IsFinite_S.Val × ShLVal float_IsFinite_U) []) tt float_IsFinite_H Try.f38 (encS float_IsFinite_A x) (Kd float_IsFinite_S float_IsFinite_U) = float_IsFinite_R m x := by kernel_rfl
theorem float_IsFinite_ok (m : Nat) : FunOK Try.prog (float_IsFinite_T m) :=
  fun_ok hmix htt (float_IsFinite_T m) Try.func38 (c := float_IsFinite_C) (by kernel_rfl) (by kernel_rfl) (Lc := [float_parts_T m]) (AllF.mem (l := [float_parts_T m]) ⟨float_parts_ok m, trivial⟩) (L := []) (fun _ hE _ _ => loopsIn_of float_IsFinite_C_ls trivial) (float_IsFinite_kr m)
/-! 37 sparse/matrix.Check_1 -/
def matrix_Check_1_H : Hints := { regs := [⟨[], [0]⟩, ⟨[(0, 1)], [2]⟩], heads := [], exits := [], rets := [2], pins := [], spec := [[false]] }
abbrev matrix_Check_1_A : List Sh := [.a (.c (.int .u64))]
abbrev matrix_Check_1_S : Sh := .a (.c .bool)
abbrev matrix_Check_1_U : List Sh := [.a (.c .dead)]
def matrix_Check_1_R (m : Nat) : ShLVal matrix_Check_1_A → Option (matrix_Check_1_S.Val × ShLVal matrix_Check_1_U) := fun (x : Int × Unit) => matrix_Check_1 m x.1
def matrix_Check_1_T (m : Nat) : FunT := ⟨37, matrix_Check_1_A, matrix_Check_1_S, matrix_Check_1_U, matrix_Check_1_R m⟩
noncomputable def matrix_Check_1_C : Code := codeOf Try.f37
theorem matrix_Check_1_C_ls : loopsL matrix_Check_1_C 0 = [] := by kernel_rfl
theorem matrix_Check_1_kr (m : Nat) (x : ShLVal matrix_Check_1_A) : fnK (mkC (matrix_Check_1_S.Val × ShLVal matrix_Check_1_U) [float_IsFinite_T m]) (mkLp (matrix_Check_1_S.Val × ShLVal matrix_Check_1_U) []) tt matrix_Check_1_H Try.f37 (encS matrix_Check_1_A x) (Kd matrix_Check_1_S matrix_Check_1_U) = matrix_Check_1_R m x := by kernel_rfl
theorem matrix_Check_1_ok (m : Nat) : FunOK Try.prog (matrix_Check_1_T m) :=
  fun_ok hmix htt (matrix_Check_1_T m) Try.func37 (c := matrix_Check_1_C) (by kernel_rfl) (by kernel_rfl) (Lc := [float_IsFinite_T m]) (AllF.mem (l := [float_IsFinite_T m]) ⟨float_IsFinite_ok m, trivial⟩) (L := []) (fun _ hE _ _ => loopsIn_of matrix_Check_1_C_ls trivial) (matrix_Check_1_kr m)
/-! 47 slices.IndexFunc___sparse/api.Float_sparse/api.Float_ -/
def slices_IndexFunc_H : Hints := { regs := [⟨[], [0, 1]⟩, ⟨[], [0, 1, 7, 8]⟩, ⟨[], [0, 1, 7, 8, 9]⟩, ⟨[], [0, 1, 5, 7, 8]⟩, ⟨[], [0, 1, 5, 7, 8, 16]⟩, ⟨[(0, 1)], [4]⟩, ⟨[(1, 1)], [0, 1, 7, 8]⟩, ⟨[], [4]⟩], heads := [(0, [0, 1, 7, 8])], exits := [(0, []), (1, [0, 1, 7, 8])], rets := [4], pins := [], spec := [[false]] }
abbrev slices_IndexFunc_A : List Sh := [.a (.c (.imm (.int .u64))), .a (.c (.fn 37))]
abbrev slices_IndexFunc_S : Sh := .a (.c (.int .i64))
abbrev slices_IndexFunc_U : List Sh := [.a (.c .dead), .a (.c .dead)]
def slices_IndexFunc_R (m : Nat) : ShLVal slices_IndexFunc_A → Option (slices_IndexFunc_S.Val × ShLVal slices_IndexFunc_U) := fun (x : List Int × Unit × Unit) => slices_IndexFunc m x.1
def slices_IndexFunc_T (m : Nat) : FunT := ⟨47, slices_IndexFunc_A, slices_IndexFunc_S, slices_IndexFunc_U, slices_IndexFunc_R m⟩
noncomputable def slices_IndexFunc_C : Code := codeOf Try.f47
noncomputable def slices_IndexFunc_B0 : Code := loopAt slices_IndexFunc_C 0 0
theorem slices_IndexFunc_B0_ls : loopsL slices_IndexFunc_B0 0 = [] := by kernel_rfl
theorem slices_IndexFunc_C_ls : loopsL slices_IndexFunc_C 0 = [(0, slices_IndexFunc_B0)] := by kernel_rfl
abbrev slices_IndexFunc_L0_I : SS := [(0, .a (.c (.imm (.int .u64)))), (1, .a (.c (.fn 37))), (7, .a (.c (.int .i64))), (8, .a (.c (.int .i64)))]
abbrev slices_IndexFunc_L0_O : List (Ex × SS) := [(.ret, [(4, .a (.c (.int .i64)))]), (.exit 0, [])]
def slices_IndexFunc_L0_R (m n : Nat) : slices_IndexFunc_L0_I.Val → Option (outVal slices_IndexFunc_L0_O) := (fun (x : List Int × Unit × Int × Int × Unit) => slices_IndexFunc_L0 m n x.1 x.2.2.1 x.2.2.2.1)
def slices_IndexFunc_L0_T (m n : Nat) : LoopT := ⟨0, slices_IndexFunc_L0_I, slices_IndexFunc_L0_O, slices_IndexFunc_L0_R m n⟩
theorem slices_IndexFunc_L0_kr (m n : Nat) (x : slices_IndexFunc_L0_I.Val) : roundK (mkC (outVal slices_IndexFunc_L0_O) [matrix_Check_1_T m]) (mkLp (outVal slices_IndexFunc_L0_O) []) tt 19 slices_IndexFunc_H slices_IndexFunc_B0 0 (slices_IndexFunc_L0_I.enc x) (Kl (ins := slices_IndexFunc_L0_I) (outs := slices_IndexFunc_L0_O) (slices_IndexFunc_L0_R m n)) = slices_IndexFunc_L0_R m (n + 1) x := by kernel_rfl
theorem slices_IndexFunc_L0_ok {E : Entry} (hE : EOf E 19 slices_IndexFunc_H.pins) (m : Nat) (n : Nat) : LoopOK Try.prog E slices_IndexFunc_B0 (slices_IndexFunc_L0_T m n) :=
  loop_ok (CO := CallOK Try.prog) hmix htt (fun _ _ _ _ h => h) hE (C := fun R => mkC R [matrix_Check_1_T m]) (L := []) (fun _ _ _ _ _ h => mkC_spec (AllF.mem (l := [matrix_Check_1_T m]) ⟨matrix_Check_1_ok m, trivial⟩) h) (fun _ _ => loopsIn_of slices_IndexFunc_B0_ls trivial) (fun n => (slices_IndexFunc_L0_R m n)) (fun _ => by kernel_rfl) (slices_IndexFunc_L0_kr m) n
theorem slices_IndexFunc_kr (m : Nat) (x : ShLVal slices_IndexFunc_A) : fnK (mkC (slices_IndexFunc_S.Val × ShLVal slices_IndexFunc_U) [matrix_Check_1_T m]) (mkLp (slices_IndexFunc_S.Val × ShLVal slices_IndexFunc_U) [slices_IndexFunc_L0_T m m]) tt slices_IndexFunc_H Try.f47 (encS slices_IndexFunc_A x) (Kd slices_IndexFunc_S slices_IndexFunc_U) = slices_IndexFunc_R m x := by kernel_rfl
theorem slices_IndexFunc_ok (m : Nat) : FunOK Try.prog (slices_IndexFunc_T m) :=
  fun_ok hmix htt (slices_IndexFunc_T m) Try.func47 (c := slices_IndexFunc_C) (by kernel_rfl) (by kernel_rfl) (Lc := [matrix_Check_1_T m]) (AllF.mem (l := [matrix_Check_1_T m]) ⟨matrix_Check_1_ok m, trivial⟩) (L := [slices_IndexFunc_L0_T m m]) (fun _ hE _ _ => loopsIn_of slices_IndexFunc_C_ls ⟨mkLp_all ⟨fun _ => slices_IndexFunc_L0_ok hE m m, trivial⟩, trivial⟩) (slices_IndexFunc_kr m)
/-! 36 slices.ContainsFunc___sparse/api.Float_sparse/api.Float_ -/
def slices_ContainsFunc_H : Hints := { regs := [⟨[], [0, 1]⟩, ⟨[(0, 1), (1, 1)], [4]⟩], heads := [], exits := [], rets := [4], pins := [], spec := [[false]] }
abbrev slices_ContainsFunc_A : List Sh := [.a (.c (.imm (.int .u64))), .a (.c (.fn 37))]
abbrev slices_ContainsFunc_S : Sh := .a (.c .bool)
abbrev slices_ContainsFunc_U : List Sh := [.a (.c .dead), .a (.c .dead)]
def slices_ContainsFunc_R (m : Nat) : ShLVal slices_ContainsFunc_A → Option (slices_ContainsFunc_S.Val × ShLVal slices_ContainsFunc_U) := fun (x : List Int × Unit × Unit) => slices_ContainsFunc m x.1
def slices_ContainsFunc_T (m : Nat) : FunT := ⟨36, slices_ContainsFunc_A, slices_ContainsFunc_S, slices_ContainsFunc_U, slices_ContainsFunc_R m⟩
noncomputable def slices_ContainsFunc_C : Code := codeOf Try.f36
theorem slices_ContainsFunc_C_ls : loopsL slices_ContainsFunc_C 0 = [] := by kernel_rfl
theorem slices_ContainsFunc_kr (m : Nat) (x : ShLVal slices_ContainsFunc_A) : fnK (mkC (slices_ContainsFunc_S.Val × ShLVal slices_ContainsFunc_U) [slices_IndexFunc_T m]) (mkLp (slices_ContainsFunc_S.Val × ShLVal slices_ContainsFunc_U) []) tt slices_ContainsFunc_H Try.f36 (encS slices_ContainsFunc_A x) (Kd slices_ContainsFunc_S slices_ContainsFunc_U) = slices_ContainsFunc_R m x := by kernel_rfl
theorem slices_ContainsFunc_ok (m : Nat) : FunOK Try.prog (slices_ContainsFunc_T m) :=
  fun_ok hmix htt (slices_ContainsFunc_T m) Try.func36 (c := slices_ContainsFunc_C) (by kernel_rfl) (by kernel_rfl) (Lc := [slices_IndexFunc_T m]) (AllF.mem (l := [slices_IndexFunc_T m]) ⟨slices_IndexFunc_ok m, trivial⟩) (L := []) (fun _ hE _ _ => loopsIn_of slices_ContainsFunc_C_ls trivial) (slices_ContainsFunc_kr m)
/-! 17 sparse/matrix.Check -/
def matrix_Check_H : Hints := { regs := [⟨[], [1]⟩, ⟨[(4, 1), (10, 1)], [1, 3]⟩, ⟨[], [2]⟩, ⟨[], [1, 20]⟩, ⟨[], [2]⟩, ⟨[], [24]⟩, ⟨[], [2]⟩, ⟨[], [2]⟩], heads := [], exits := [(0, [])], rets := [2], pins := [], spec := [[false]] }
abbrev matrix_Check_A : List Sh := [.a (.agg [(.int .i64), (.int .i64), (.imm (.int .i64)), (.imm (.int .i64)), (.imm (.int .u64))])]
abbrev matrix_Check_S : Sh := .a (.c (.int .i64))
abbrev matrix_Check_U : List Sh := [.a (.c .dead)]
def matrix_Check_R (m : Nat) : ShLVal matrix_Check_A → Option (matrix_Check_S.Val × ShLVal matrix_Check_U) := fun (x : (Int × Int × List Int × List Int × List Int × Unit) × Unit) => matrix_Check m x.1.1 x.1.2.1 x.1.2.2.1 x.1.2.2.2.1 x.1.2.2.2.2.1
def matrix_Check_T (m : Nat) : FunT := ⟨17, matrix_Check_A, matrix_Check_S, matrix_Check_U, matrix_Check_R m⟩
noncomputable def matrix_Check_C : Code := codeOf Try.f17
theorem matrix_Check_C_ls : loopsL matrix_Check_C 0 = [] := by kernel_rfl
theorem matrix_Check_kr (m : Nat) (x : ShLVal matrix_Check_A) : fnK (mkC (matrix_Check_S.Val × ShLVal matrix_Check_U) [matrix_within_T m, matrix_columns_T m, slices_ContainsFunc_T m]) (mkLp (matrix_Check_S.Val × ShLVal matrix_Check_U) []) tt matrix_Check_H Try.f17 (encS matrix_Check_A x) (Kd matrix_Check_S matrix_Check_U) = matrix_Check_R m x := by kernel_rfl
theorem matrix_Check_ok (m : Nat) : FunOK Try.prog (matrix_Check_T m) :=
  fun_ok hmix htt (matrix_Check_T m) Try.func17 (c := matrix_Check_C) (by kernel_rfl) (by kernel_rfl) (Lc := [matrix_within_T m, matrix_columns_T m, slices_ContainsFunc_T m]) (AllF.mem (l := [matrix_within_T m, matrix_columns_T m, slices_ContainsFunc_T m]) ⟨matrix_within_ok m, matrix_columns_ok m, slices_ContainsFunc_ok m, trivial⟩) (L := []) (fun _ hE _ _ => loopsIn_of matrix_Check_C_ls trivial) (matrix_Check_kr m)
/-! 26 sparse/matching.Edges -/
def matching_Edges_H : Hints := { regs := [⟨[], [1]⟩, ⟨[], [1, 3]⟩, ⟨[], [1, 3, 9, 10]⟩, ⟨[], [1, 3, 9, 10, 11]⟩, ⟨[], [1, 3, 4, 9, 10]⟩, ⟨[], [1, 3, 9, 10]⟩, ⟨[(1, 1)], [1, 3, 9, 10]⟩, ⟨[(0, 1)], [2]⟩], heads := [(0, [1, 3, 9, 10])], exits := [(0, [3]), (1, [1, 3, 9, 10])], rets := [2], pins := [], spec := [[true]] }
abbrev matching_Edges_A : List Sh := [.a (.agg [(.int .i64), (.int .i64), (.imm (.int .i64)), (.imm (.int .i64)), (.imm (.int .u64))])]
abbrev matching_Edges_S : Sh := .a (.c (.nm 0 (.sl false (.int .i64))))
abbrev matching_Edges_U : List Sh := [.a (.c .dead)]
def matching_Edges_R (m : Nat) : ShLVal matching_Edges_A → Option (matching_Edges_S.Val × ShLVal matching_Edges_U) := fun (x : (Int × Int × List Int × List Int × List Int × Unit) × Unit) => matching_Edges m x.1.1 x.1.2.1 x.1.2.2.1 x.1.2.2.2.1 x.1.2.2.2.2.1
def matching_Edges_T (m : Nat) : FunT := ⟨26, matching_Edges_A, matching_Edges_S, matching_Edges_U, matching_Edges_R m⟩
noncomputable def matching_Edges_C : Code := codeOf Try.f26
noncomputable def matching_Edges_B0 : Code := loopAt matching_Edges_C 0 0
theorem matching_Edges_B0_ls : loopsL matching_Edges_B0 0 = [] := by kernel_rfl
theorem matching_Edges_C_ls : loopsL matching_Edges_C 0 = [(0, matching_Edges_B0)] := by kernel_rfl
abbrev matching_Edges_L0_I : SS := [(1, .a (.bx 0 [(.int .i64), (.int .i64), (.imm (.int .i64)), (.imm (.int .i64)), (.imm (.int .u64))])), (3, .a (.c (.nm 1 (.sl false (.int .i64))))), (9, .a (.c (.int .i64))), (10, .a (.c (.int .i64)))]
abbrev matching_Edges_L0_O : List (Ex × SS) := [(.exit 0, [(3, .a (.c (.nm 0 (.sl false (.int .i64)))))])]
def matching_Edges_L0_R (m n : Nat) : matching_Edges_L0_I.Val → Option (outVal matching_Edges_L0_O) := (fun (x : (Int × Int × List Int × List Int × List Int × Unit) × List (List Int) × Int × Int × Unit) => matching_Edges_L0 m n x.1.1 x.1.2.1 x.1.2.2.1 x.1.2.2.2.1 x.1.2.2.2.2.1 x.2.1 x.2.2.1 x.2.2.2.1)
def matching_Edges_L0_T (m n : Nat) : LoopT := ⟨0, matching_Edges_L0_I, matching_Edges_L0_O, matching_Edges_L0_R m n⟩
theorem matching_Edges_L0_kr (m n : Nat) (x : matching_Edges_L0_I.Val) : roundK (mkC (outVal matching_Edges_L0_O) []) (mkLp (outVal matching_Edges_L0_O) []) tt 32 matching_Edges_H matching_Edges_B0 0 (matching_Edges_L0_I.enc x) (Kl (ins := matching_Edges_L0_I) (outs := matching_Edges_L0_O) (matching_Edges_L0_R m n)) = matching_Edges_L0_R m (n + 1) x := by kernel_rfl
theorem matching_Edges_L0_ok {E : Entry} (hE : EOf E 32 matching_Edges_H.pins) (m : Nat) (n : Nat) : LoopOK Try.prog E matching_Edges_B0 (matching_Edges_L0_T m n) :=
  loop_ok (CO := CallOK Try.prog) hmix htt (fun _ _ _ _ h => h) hE (C := fun R => mkC R []) (L := []) (fun _ _ _ _ _ h => mkC_spec (AllF.mem (l := []) trivial) h) (fun _ _ => loopsIn_of matching_Edges_B0_ls trivial) (fun n => (matching_Edges_L0_R m n)) (fun _ => by kernel_rfl) (matching_Edges_L0_kr m) n
theorem matching_Edges_kr (m : Nat) (x : ShLVal matching_Edges_A) : fnK (mkC (matching_Edges_S.Val × ShLVal matching_Edges_U) []) (mkLp (matching_Edges_S.Val × ShLVal matching_Edges_U) [matching_Edges_L0_T m m]) tt matching_Edges_H Try.f26 (encS matching_Edges_A x) (Kd matching_Edges_S matching_Edges_U) = matching_Edges_R m x := by kernel_rfl
theorem matching_Edges_ok (m : Nat) : FunOK Try.prog (matching_Edges_T m) :=
  fun_ok hmix htt (matching_Edges_T m) Try.func26 (c := matching_Edges_C) (by kernel_rfl) (by kernel_rfl) (Lc := []) (AllF.mem (l := []) trivial) (L := [matching_Edges_L0_T m m]) (fun _ hE _ _ => loopsIn_of matching_Edges_C_ls ⟨mkLp_all ⟨fun _ => matching_Edges_L0_ok hE m m, trivial⟩, trivial⟩) (matching_Edges_kr m)
/-! 39 sparse/matching.full -/
def matching_full_H : Hints := { regs := [⟨[], [0, 1]⟩, ⟨[(0, 1)], [1, 5]⟩, ⟨[], [1, 5, 10, 11]⟩, ⟨[], [1, 5, 10, 11, 12]⟩, ⟨[], [1, 5, 6, 10, 11]⟩, ⟨[(1, 1)], [1, 5, 10, 11]⟩, ⟨[(1, 1)], [1, 5, 10, 11]⟩, ⟨[(0, 1)], [4]⟩], heads := [(0, [1, 5, 10, 11])], exits := [(0, [5]), (1, [1, 5, 10, 11])], rets := [4], pins := [], spec := [[true]] }
abbrev matching_full_A : List Sh := [.a (.c (.int .i64)), .a (.c (.int .i64))]
abbrev matching_full_S : Sh := .a (.c (.nm 0 (.int .i64)))
abbrev matching_full_U : List Sh := [.a (.c .dead), .a (.c .dead)]
def matching_full_R (m : Nat) : ShLVal matching_full_A → Option (matching_full_S.Val × ShLVal matching_full_U) := fun (x : Int × Int × Unit) => matching_full m x.1 x.2.1
def matching_full_T (m : Nat) : FunT := ⟨39, matching_full_A, matching_full_S, matching_full_U, matching_full_R m⟩
noncomputable def matching_full_C : Code := codeOf Try.f39
noncomputable def matching_full_B0 : Code := loopAt matching_full_C 0 0
theorem matching_full_B0_ls : loopsL matching_full_B0 0 = [] := by kernel_rfl
theorem matching_full_C_ls : loopsL matching_full_C 0 = [(0, matching_full_B0)] := by kernel_rfl
abbrev matching_full_L0_I : SS := [(1, .a (.c (.int .i64))), (5, .a (.c (.nm 0 (.int .i64)))), (10, .a (.c (.int .i64))), (11, .a (.c (.int .i64)))]
abbrev matching_full_L0_O : List (Ex × SS) := [(.exit 0, [(5, .a (.c (.nm 0 (.int .i64))))])]
def matching_full_L0_R (m n : Nat) : matching_full_L0_I.Val → Option (outVal matching_full_L0_O) := (fun (x : Int × List Int × Int × Int × Unit) => matching_full_L0 m n x.1 x.2.1 x.2.2.1 x.2.2.2.1)
def matching_full_L0_T (m n : Nat) : LoopT := ⟨0, matching_full_L0_I, matching_full_L0_O, matching_full_L0_R m n⟩
theorem matching_full_L0_kr (m n : Nat) (x : matching_full_L0_I.Val) : roundK (mkC (outVal matching_full_L0_O) []) (mkLp (outVal matching_full_L0_O) []) tt 20 matching_full_H matching_full_B0 0 (matching_full_L0_I.enc x) (Kl (ins := matching_full_L0_I) (outs := matching_full_L0_O) (matching_full_L0_R m n)) = matching_full_L0_R m (n + 1) x := by kernel_rfl
theorem matching_full_L0_ok {E : Entry} (hE : EOf E 20 matching_full_H.pins) (m : Nat) (n : Nat) : LoopOK Try.prog E matching_full_B0 (matching_full_L0_T m n) :=
  loop_ok (CO := CallOK Try.prog) hmix htt (fun _ _ _ _ h => h) hE (C := fun R => mkC R []) (L := []) (fun _ _ _ _ _ h => mkC_spec (AllF.mem (l := []) trivial) h) (fun _ _ => loopsIn_of matching_full_B0_ls trivial) (fun n => (matching_full_L0_R m n)) (fun _ => by kernel_rfl) (matching_full_L0_kr m) n
theorem matching_full_kr (m : Nat) (x : ShLVal matching_full_A) : fnK (mkC (matching_full_S.Val × ShLVal matching_full_U) []) (mkLp (matching_full_S.Val × ShLVal matching_full_U) [matching_full_L0_T m m]) tt matching_full_H Try.f39 (encS matching_full_A x) (Kd matching_full_S matching_full_U) = matching_full_R m x := by kernel_rfl
theorem matching_full_ok (m : Nat) : FunOK Try.prog (matching_full_T m) :=
  fun_ok hmix htt (matching_full_T m) Try.func39 (c := matching_full_C) (by kernel_rfl) (by kernel_rfl) (Lc := []) (AllF.mem (l := []) trivial) (L := [matching_full_L0_T m m]) (fun _ hE _ _ => loopsIn_of matching_full_C_ls ⟨mkLp_all ⟨fun _ => matching_full_L0_ok hE m m, trivial⟩, trivial⟩) (matching_full_kr m)
/-! 40 __sparse/matching.kuhn_.try -/
def matching_kuhn_try_H : Hints := { regs := [⟨[], [0, 1]⟩, ⟨[], [0, 1, 13, 14, 15]⟩, ⟨[], [0, 1, 13, 14, 15, 16]⟩, ⟨[], [0, 1, 6, 13, 14, 15]⟩, ⟨[], [0, 1, 6, 13, 14, 15, 25]⟩, ⟨[], [0, 1, 6, 13, 14, 15]⟩, ⟨[(8, 1)], [0, 1, 6, 13, 14, 15, 50]⟩, ⟨[], [0]⟩, ⟨[], [0, 4]⟩, ⟨[(1, 1)], [0, 1, 13, 14, 15]⟩, ⟨[], [0, 4]⟩], heads := [(0, [0, 1, 13, 14, 15])], exits := [(0, [0]), (1, [0, 1, 13, 14, 15])], rets := [0, 4], pins := [0], spec := [[false]] }
abbrev matching_kuhn_try_A : List Sh := [.a (.bx 0 [(.nm 1 (.sl false (.int .i64))), (.nm 2 (.int .i64)), (.nm 3 (.int .i64)), (.nm 4 .bool)]), .a (.c (.int .i64))]
abbrev matching_kuhn_try_S : Sh := .a (.c .bool)
abbrev matching_kuhn_try_U : List Sh := [.a (.bx 0 [(.nm 1 (.sl false (.int .i64))), (.nm 2 (.int .i64)), (.nm 3 (.int .i64)), (.nm 4 .bool)]), .a (.c .dead)]
def matching_kuhn_try_R (m : Nat) : ShLVal matching_kuhn_try_A → Option (matching_kuhn_try_S.Val × ShLVal matching_kuhn_try_U) := fun (x : (List (List Int) × List Int × List Int × List Bool × Unit) × Int × Unit) => matching_kuhn_try m x.1.1 x.1.2.1 x.1.2.2.1 x.1.2.2.2.1 x.2.1
def matching_kuhn_try_T (m : Nat) : FunT := ⟨40, matching_kuhn_try_A, matching_kuhn_try_S, matching_kuhn_try_U, matching_kuhn_try_R m⟩
noncomputable def matching_kuhn_try_C : Code := codeOf Try.f40
noncomputable def matching_kuhn_try_B0 : Code := loopAt matching_kuhn_try_C 0 0
theorem matching_kuhn_try_B0_ls : loopsL matching_kuhn_try_B0 0 = [] := by kernel_rfl
theorem matching_kuhn_try_C_ls : loopsL matching_kuhn_try_C 0 = [(0, matching_kuhn_try_B0)] := by kernel_rfl
abbrev matching_kuhn_try_L0_I : SS := [(0, .a (.bx 0 [(.nm 1 (.sl false (.int .i64))), (.nm 2 (.int .i64)), (.nm 3 (.int .i64)), (.nm 4 .bool)])), (1, .a (.c (.int .i64))), (13, .a (.c (.imm (.int .i64)))), (14, .a (.c (.int .i64))), (15, .a (.c (.int .i64)))]
abbrev matching_kuhn_try_L0_O : List (Ex × SS) := [(.ret, [(0, .a (.bx 0 [(.nm 1 (.sl false (.int .i64))), (.nm 2 (.int .i64)), (.nm 3 (.int .i64)), (.nm 4 .bool)])), (4, .a (.c .bool))]), (.exit 0, [(0, .a (.bx 0 [(.nm 1 (.sl false (.int .i64))), (.nm 2 (.int .i64)), (.nm 3 (.int .i64)), (.nm 4 .bool)]))])]
def matching_kuhn_try_L0_R (m n : Nat) : matching_kuhn_try_L0_I.Val → Option (outVal matching_kuhn_try_L0_O) := (fun (x : (List (List Int) × List Int × List Int × List Bool × Unit) × Int × List Int × Int × Int × Unit) => matching_kuhn_try_L0 (fun a0 a1 a2 a3 a4 => matching_kuhn_try m a0 a1 a2 a3 a4) m n x.1.1 x.1.2.1 x.1.2.2.1 x.1.2.2.2.1 x.2.1 x.2.2.1 x.2.2.2.1 x.2.2.2.2.1)
def matching_kuhn_try_L0_T (m n : Nat) : LoopT := ⟨0, matching_kuhn_try_L0_I, matching_kuhn_try_L0_O, matching_kuhn_try_L0_R m n⟩
theorem matching_kuhn_try_L0_kr (m n : Nat) (x : matching_kuhn_try_L0_I.Val) : roundK (mkC (outVal matching_kuhn_try_L0_O) [matching_kuhn_try_T m]) (mkLp (outVal matching_kuhn_try_L0_O) []) tt 66 matching_kuhn_try_H matching_kuhn_try_B0 0 (matching_kuhn_try_L0_I.enc x) (Kl (ins := matching_kuhn_try_L0_I) (outs := matching_kuhn_try_L0_O) (matching_kuhn_try_L0_R m n)) = matching_kuhn_try_L0_R m (n + 1) x := by kernel_rfl
theorem matching_kuhn_try_L0_ok {E : Entry} (hE : EOf E 66 matching_kuhn_try_H.pins) (m : Nat) (hself : FunOK Try.prog (matching_kuhn_try_T m)) (n : Nat) : LoopOK Try.prog E matching_kuhn_try_B0 (matching_kuhn_try_L0_T m n) :=
  loop_ok (CO := CallOK Try.prog) hmix htt (fun _ _ _ _ h => h) hE (C := fun R => mkC R [matching_kuhn_try_T m]) (L := []) (fun _ _ _ _ _ h => mkC_spec (AllF.mem (l := [matching_kuhn_try_T m]) ⟨hself, trivial⟩) h) (fun _ _ => loopsIn_of matching_kuhn_try_B0_ls trivial) (fun n => (matching_kuhn_try_L0_R m n)) (fun _ => by kernel_rfl) (matching_kuhn_try_L0_kr m) n
theorem matching_kuhn_try_kr (m : Nat) (x : ShLVal matching_kuhn_try_A) : fnK (mkC (matching_kuhn_try_S.Val × ShLVal matching_kuhn_try_U) [matching_kuhn_try_T m]) (mkLp (matching_kuhn_try_S.Val × ShLVal matching_kuhn_try_U) [matching_kuhn_try_L0_T m m]) tt matching_kuhn_try_H Try.f40 (encS matching_kuhn_try_A x) (Kd matching_kuhn_try_S matching_kuhn_try_U) = matching_kuhn_try_R (m + 1) x := by kernel_rfl
theorem matching_kuhn_try_ok : ∀ m : Nat, FunOK Try.prog (matching_kuhn_try_T m)
  | 0 => fun _ _ h => by cases h
  | m + 1 => by
    have hself := matching_kuhn_try_ok m
    exact fun_ok hmix htt (matching_kuhn_try_T (m + 1)) Try.func40 (c := matching_kuhn_try_C) (by kernel_rfl) (by kernel_rfl) (Lc := [matching_kuhn_try_T m]) (AllF.mem (l := [matching_kuhn_try_T m]) ⟨hself, trivial⟩) (L := [matching_kuhn_try_L0_T m m]) (fun _ hE _ _ => loopsIn_of matching_kuhn_try_C_ls ⟨mkLp_all ⟨fun _ => matching_kuhn_try_L0_ok hE m hself m, trivial⟩, trivial⟩) (matching_kuhn_try_kr m)
/-! 18 sparse/matching.matched -/
def matching_matched_H : Hints := { regs := [⟨[], [1]⟩, ⟨[], [1, 3]⟩, ⟨[], [1, 3, 16, 17]⟩, ⟨[], [1, 3, 16, 17, 18]⟩, ⟨[], [1, 3, 4, 16, 17]⟩, ⟨[], [1, 3, 4, 16, 17]⟩, ⟨[(1, 1)], [1, 3, 16, 17]⟩, ⟨[(1, 1)], [1, 3, 16, 17]⟩, ⟨[(0, 1)], [2]⟩], heads := [(0, [1, 3, 16, 17])], exits := [(0, [3]), (1, [1, 3, 16, 17])], rets := [2], pins := [], spec := [[true, true, true, true]] }
abbrev matching_matched_A : List Sh := [.a (.agg [(.int .i64), (.int .i64), (.imm (.int .i64)), (.imm (.int .i64)), (.imm (.int .u64))])]
abbrev matching_matched_S : Sh := .a (.bx 0 [(.nm 1 (.sl false (.int .i64))), (.nm 2 (.int .i64)), (.nm 3 (.int .i64)), (.nm 4 .bool)])
abbrev matching_matched_U : List Sh := [.a (.c .dead)]
def matching_matched_R (m : Nat) : ShLVal matching_matched_A → Option (matching_matched_S.Val × ShLVal matching_matched_U) := fun (x : (Int × Int × List Int × List Int × List Int × Unit) × Unit) => matching_matched m x.1.1 x.1.2.1 x.1.2.2.1 x.1.2.2.2.1 x.1.2.2.2.2.1
def matching_matched_T (m : Nat) : FunT := ⟨18, matching_matched_A, matching_matched_S, matching_matched_U, matching_matched_R m⟩
noncomputable def matching_matched_C : Code := codeOf Try.f18
noncomputable def matching_matched_B0 : Code := loopAt matching_matched_C 0 0
theorem matching_matched_B0_ls : loopsL matching_matched_B0 0 = [] := by kernel_rfl
theorem matching_matched_C_ls : loopsL matching_matched_C 0 = [(0, matching_matched_B0)] := by kernel_rfl
abbrev matching_matched_L0_I : SS := [(1, .a (.bx 0 [(.int .i64), (.int .i64), (.imm (.int .i64)), (.imm (.int .i64)), (.imm (.int .u64))])), (3, .a (.bx 1 [(.nm 2 (.sl false (.int .i64))), (.nm 3 (.int .i64)), (.nm 4 (.int .i64)), (.nm 5 .bool)])), (16, .a (.c (.int .i64))), (17, .a (.c (.int .i64)))]
abbrev matching_matched_L0_O : List (Ex × SS) := [(.exit 0, [(3, .a (.bx 0 [(.nm 1 (.sl false (.int .i64))), (.nm 2 (.int .i64)), (.nm 3 (.int .i64)), (.nm 4 .bool)]))])]
def matching_matched_L0_R (m n : Nat) : matching_matched_L0_I.Val → Option (outVal matching_matched_L0_O) := (fun (x : (Int × Int × List Int × List Int × List Int × Unit) × (List (List Int) × List Int × List Int × List Bool × Unit) × Int × Int × Unit) => matching_matched_L0 m n x.1.1 x.1.2.1 x.1.2.2.1 x.1.2.2.2.1 x.1.2.2.2.2.1 x.2.1.1 x.2.1.2.1 x.2.1.2.2.1 x.2.1.2.2.2.1 x.2.2.1 x.2.2.2.1)
def matching_matched_L0_T (m n : Nat) : LoopT := ⟨0, matching_matched_L0_I, matching_matched_L0_O, matching_matched_L0_R m n⟩
theorem matching_matched_L0_kr (m n : Nat) (x : matching_matched_L0_I.Val) : roundK (mkC (outVal matching_matched_L0_O) [matching_Edges_T m, matching_full_T m, matching_kuhn_try_T m]) (mkLp (outVal matching_matched_L0_O) []) tt 31 matching_matched_H matching_matched_B0 0 (matching_matched_L0_I.enc x) (Kl (ins := matching_matched_L0_I) (outs := matching_matched_L0_O) (matching_matched_L0_R m n)) = matching_matched_L0_R m (n + 1) x := by kernel_rfl
theorem matching_matched_L0_ok {E : Entry} (hE : EOf E 31 matching_matched_H.pins) (m : Nat) (n : Nat) : LoopOK Try.prog E matching_matched_B0 (matching_matched_L0_T m n) :=
  loop_ok (CO := CallOK Try.prog) hmix htt (fun _ _ _ _ h => h) hE (C := fun R => mkC R [matching_Edges_T m, matching_full_T m, matching_kuhn_try_T m]) (L := []) (fun _ _ _ _ _ h => mkC_spec (AllF.mem (l := [matching_Edges_T m, matching_full_T m, matching_kuhn_try_T m]) ⟨matching_Edges_ok m, matching_full_ok m, matching_kuhn_try_ok m, trivial⟩) h) (fun _ _ => loopsIn_of matching_matched_B0_ls trivial) (fun n => (matching_matched_L0_R m n)) (fun _ => by kernel_rfl) (matching_matched_L0_kr m) n
theorem matching_matched_kr (m : Nat) (x : ShLVal matching_matched_A) : fnK (mkC (matching_matched_S.Val × ShLVal matching_matched_U) [matching_Edges_T m, matching_full_T m, matching_kuhn_try_T m]) (mkLp (matching_matched_S.Val × ShLVal matching_matched_U) [matching_matched_L0_T m m]) tt matching_matched_H Try.f18 (encS matching_matched_A x) (Kd matching_matched_S matching_matched_U) = matching_matched_R m x := by kernel_rfl
theorem matching_matched_ok (m : Nat) : FunOK Try.prog (matching_matched_T m) :=
  fun_ok hmix htt (matching_matched_T m) Try.func18 (c := matching_matched_C) (by kernel_rfl) (by kernel_rfl) (Lc := [matching_Edges_T m, matching_full_T m, matching_kuhn_try_T m]) (AllF.mem (l := [matching_Edges_T m, matching_full_T m, matching_kuhn_try_T m]) ⟨matching_Edges_ok m, matching_full_ok m, matching_kuhn_try_ok m, trivial⟩) (L := [matching_matched_L0_T m m]) (fun _ hE _ _ => loopsIn_of matching_matched_C_ls ⟨mkLp_all ⟨fun _ => matching_matched_L0_ok hE m m, trivial⟩, trivial⟩) (matching_matched_kr m)
/-! 7 sparse/matching.Maximum -/
def matching_Maximum_H : Hints := { regs := [⟨[], [1]⟩, ⟨[], [1, 4]⟩, ⟨[], [1, 4, 8]⟩, ⟨[(0, 1)], [2, 3]⟩, ⟨[(4, 1)], [2, 3, 11]⟩], heads := [], exits := [], rets := [2, 3, 11], pins := [], spec := [[true], [false]] }
abbrev matching_Maximum_A : List Sh := [.a (.agg [(.int .i64), (.int .i64), (.imm (.int .i64)), (.imm (.int .i64)), (.imm (.int .u64))])]
abbrev matching_Maximum_S : Sh := .tup [(.c (.nm 0 (.int .i64))), (.c (.int .i64))]
abbrev matching_Maximum_U : List Sh := [.a (.c .dead)]
def matching_Maximum_R (m : Nat) : ShLVal matching_Maximum_A → Option (matching_Maximum_S.Val × ShLVal matching_Maximum_U) := fun (x : (Int × Int × List Int × List Int × List Int × Unit) × Unit) => matching_Maximum m x.1.1 x.1.2.1 x.1.2.2.1 x.1.2.2.2.1 x.1.2.2.2.2.1
def matching_Maximum_T (m : Nat) : FunT := ⟨7, matching_Maximum_A, matching_Maximum_S, matching_Maximum_U, matching_Maximum_R m⟩
noncomputable def matching_Maximum_C : Code := codeOf Try.f7
theorem matching_Maximum_C_ls : loopsL matching_Maximum_C 0 = [] := by kernel_rfl
theorem matching_Maximum_kr (m : Nat) (x : ShLVal matching_Maximum_A) : fnK (mkC (matching_Maximum_S.Val × ShLVal matching_Maximum_U) [matrix_Check_T m, matching_matched_T m]) (mkLp (matching_Maximum_S.Val × ShLVal matching_Maximum_U) []) tt matching_Maximum_H Try.f7 (encS matching_Maximum_A x) (Kd matching_Maximum_S matching_Maximum_U) = matching_Maximum_R m x := by kernel_rfl
theorem matching_Maximum_ok (m : Nat) : FunOK Try.prog (matching_Maximum_T m) :=
  fun_ok hmix htt (matching_Maximum_T m) Try.func7 (c := matching_Maximum_C) (by kernel_rfl) (by kernel_rfl) (Lc := [matrix_Check_T m, matching_matched_T m]) (AllF.mem (l := [matrix_Check_T m, matching_matched_T m]) ⟨matrix_Check_ok m, matching_matched_ok m, trivial⟩) (L := []) (fun _ hE _ _ => loopsIn_of matching_Maximum_C_ls trivial) (matching_Maximum_kr m)
/-! 21 sparse/matching.Reachable -/
def matching_Reachable_H : Hints := { regs := [⟨[], [1]⟩, ⟨[], [1, 4]⟩, ⟨[], [2, 3, 4]⟩, ⟨[], [2, 3, 4, 5]⟩, ⟨[], [2, 3, 4, 5, 23, 24, 25]⟩, ⟨[], [2, 3, 4, 5, 23, 24, 25, 26]⟩, ⟨[], [2, 3, 4, 5, 6, 7, 23, 24, 25]⟩, ⟨[(0, 1)], [2, 3, 4, 5, 6, 23, 24, 25, 31]⟩, ⟨[], [2, 3, 4, 5, 6, 23, 24, 25]⟩, ⟨[(0, 1), (1, 1)], [2, 3, 4, 5, 23, 24, 25]⟩, ⟨[(1, 1)], [2, 3, 4, 5, 23, 24, 25]⟩, ⟨[], [2, 3, 4, 5, 42]⟩, ⟨[], [2, 3, 4, 5, 8]⟩, ⟨[(0, 1)], [2, 3, 4, 5, 8]⟩, ⟨[(4, 1)], [2, 3, 4, 5, 54, 55, 56]⟩, ⟨[], [2, 3, 4, 5, 54, 55, 56, 57]⟩, ⟨[], [2, 3, 4, 5, 10, 54, 55, 56]⟩, ⟨[], [2, 3, 4, 5, 10, 54, 55, 56]⟩, ⟨[(4, 1)], [2, 3, 4, 5, 11, 54, 55, 56]⟩, ⟨[(2, 1)], [2, 3, 4, 5, 11, 54, 55, 56, 78]⟩, ⟨[], [2, 3, 4, 5, 11, 54, 55, 56]⟩, ⟨[(0, 1), (1, 1)], [2, 3, 4, 5, 54, 55, 56]⟩, ⟨[(1, 1)], [2, 3, 4, 5, 54, 55, 56]⟩, ⟨[(0, 1), (1, 1)], [2, 3]⟩], heads := [(0, [2, 3, 4, 5, 23, 24, 25]), (2, [2, 3, 4, 5]), (4, [2, 3, 4, 5, 54, 55, 56])], exits := [(0, [2, 3, 4, 5]), (1, [2, 3, 4, 5, 23, 24, 25]), (2, [2, 3]), (3, [2, 3, 4, 5]), (4, [2, 3, 4, 5]), (5, [2, 3, 4, 5, 54, 55, 56])], rets := [2, 3], pins := [], spec := [[true], [true]] }
abbrev matching_Reachable_A : List Sh := [.a (.agg [(.int .i64), (.int .i64), (.imm (.int .i64)), (.imm (.int .i64)), (.imm (.int .u64))])]
abbrev matching_Reachable_S : Sh := .tup [(.c (.nm 0 .bool)), (.c (.nm 1 .bool))]
abbrev matching_Reachable_U : List Sh := [.a (.c .dead)]
def matching_Reachable_R (m : Nat) : ShLVal matching_Reachable_A → Option (matching_Reachable_S.Val × ShLVal matching_Reachable_U) := fun (x : (Int × Int × List Int × List Int × List Int × Unit) × Unit) => matching_Reachable m x.1.1 x.1.2.1 x.1.2.2.1 x.1.2.2.2.1 x.1.2.2.2.2.1
def matching_Reachable_T (m : Nat) : FunT := ⟨21, matching_Reachable_A, matching_Reachable_S, matching_Reachable_U, matching_Reachable_R m⟩
noncomputable def matching_Reachable_C : Code := codeOf Try.f21
noncomputable def matching_Reachable_B0 : Code := loopAt matching_Reachable_C 0 0
theorem matching_Reachable_B0_ls : loopsL matching_Reachable_B0 0 = [] := by kernel_rfl
noncomputable def matching_Reachable_B2 : Code := loopAt matching_Reachable_C 0 1
noncomputable def matching_Reachable_B4 : Code := loopAt matching_Reachable_B2 2 0
theorem matching_Reachable_B4_ls : loopsL matching_Reachable_B4 4 = [] := by kernel_rfl
theorem matching_Reachable_B2_ls : loopsL matching_Reachable_B2 2 = [(4, matching_Reachable_B4)] := by kernel_rfl
theorem matching_Reachable_C_ls : loopsL matching_Reachable_C 0 = [(0, matching_Reachable_B0), (2, matching_Reachable_B2)] := by kernel_rfl
abbrev matching_Reachable_L2_I : SS := [(2, .a (.c (.nm 0 .bool))), (3, .a (.c (.nm 1 .bool))), (4, .a (.bx 2 [(.nm 3 (.sl false (.int .i64))), (.nm 4 (.int .i64)), (.nm 5 (.int .i64)), (.nm 6 .bool)])), (5, .a (.c (.nm 7 (.int .i64)))), (54, .a (.c (.imm (.int .i64)))), (55, .a (.c (.int .i64))), (56, .a (.c (.int .i64)))]
abbrev matching_Reachable_L2_O : List (Ex × SS) := [(.exit 4, [(2, .a (.c (.nm 0 .bool))), (3, .a (.c (.nm 1 .bool))), (4, .a (.bx 2 [(.nm 3 (.sl false (.int .i64))), (.nm 4 (.int .i64)), (.nm 5 (.int .i64)), (.nm 6 .bool)])), (5, .a (.c (.nm 7 (.int .i64))))])]
def matching_Reachable_L2_R (m n : Nat) : matching_Reachable_L2_I.Val → Option (outVal matching_Reachable_L2_O) := (fun (x : List Bool × List Bool × (List (List Int) × List Int × List Int × List Bool × Unit) × List Int × List Int × Int × Int × Unit) => matching_Reachable_L2 m n x.1 x.2.1 x.2.2.1.1 x.2.2.1.2.1 x.2.2.1.2.2.1 x.2.2.1.2.2.2.1 x.2.2.2.1 x.2.2.2.2.1 x.2.2.2.2.2.1 x.2.2.2.2.2.2.1)
def matching_Reachable_L2_T (m n : Nat) : LoopT := ⟨4, matching_Reachable_L2_I, matching_Reachable_L2_O, matching_Reachable_L2_R m n⟩
theorem matching_Reachable_L2_kr (m n : Nat) (x : matching_Reachable_L2_I.Val) : roundK (mkC (outVal matching_Reachable_L2_O) [matching_matched_T m]) (mkLp (outVal matching_Reachable_L2_O) []) tt 89 matching_Reachable_H matching_Reachable_B4 4 (matching_Reachable_L2_I.enc x) (Kl (ins := matching_Reachable_L2_I) (outs := matching_Reachable_L2_O) (matching_Reachable_L2_R m n)) = matching_Reachable_L2_R m (n + 1) x := by kernel_rfl
theorem matching_Reachable_L2_ok {E : Entry} (hE : EOf E 89 matching_Reachable_H.pins) (m : Nat) (n : Nat) : LoopOK Try.prog E matching_Reachable_B4 (matching_Reachable_L2_T m n) :=
  loop_ok (CO := CallOK Try.prog) hmix htt (fun _ _ _ _ h => h) hE (C := fun R => mkC R [matching_matched_T m]) (L := []) (fun _ _ _ _ _ h => mkC_spec (AllF.mem (l := [matching_matched_T m]) ⟨matching_matched_ok m, trivial⟩) h) (fun _ _ => loopsIn_of matching_Reachable_B4_ls trivial) (fun n => (matching_Reachable_L2_R m n)) (fun _ => by kernel_rfl) (matching_Reachable_L2_kr m) n
abbrev matching_Reachable_L1_I : SS := [(2, .a (.c (.nm 0 .bool))), (3, .a (.c (.nm 1 .bool))), (4, .a (.bx 2 [(.nm 3 (.sl false (.int .i64))), (.nm 4 (.int .i64)), (.nm 5 (.int .i64)), (.nm 6 .bool)])), (5, .a (.c (.nm 7 (.int .i64))))]
abbrev matching_Reachable_L1_O : List (Ex × SS) := [(.exit 2, [(2, .a (.c (.nm 0 .bool))), (3, .a (.c (.nm 1 .bool)))])]
def matching_Reachable_L1_R (m n : Nat) : matching_Reachable_L1_I.Val → Option (outVal matching_Reachable_L1_O) := (fun (x : List Bool × List Bool × (List (List Int) × List Int × List Int × List Bool × Unit) × List Int × Unit) => matching_Reachable_L1 m n x.1 x.2.1 x.2.2.1.1 x.2.2.1.2.1 x.2.2.1.2.2.1 x.2.2.1.2.2.2.1 x.2.2.2.1)
def matching_Reachable_L1_T (m n : Nat) : LoopT := ⟨2, matching_Reachable_L1_I, matching_Reachable_L1_O, matching_Reachable_L1_R m n⟩
theorem matching_Reachable_L1_kr (m n : Nat) (x : matching_Reachable_L1_I.Val) : roundK (mkC (outVal matching_Reachable_L1_O) [matching_matched_T m]) (mkLp (outVal matching_Reachable_L1_O) [matching_Reachable_L2_T m m]) tt 89 matching_Reachable_H matching_Reachable_B2 2 (matching_Reachable_L1_I.enc x) (Kl (ins := matching_Reachable_L1_I) (outs := matching_Reachable_L1_O) (matching_Reachable_L1_R m n)) = matching_Reachable_L1_R m (n + 1) x := by kernel_rfl
theorem matching_Reachable_L1_ok {E : Entry} (hE : EOf E 89 matching_Reachable_H.pins) (m : Nat) (n : Nat) : LoopOK Try.prog E matching_Reachable_B2 (matching_Reachable_L1_T m n) :=
  loop_ok (CO := CallOK Try.prog) hmix htt (fun _ _ _ _ h => h) hE (C := fun R => mkC R [matching_matched_T m]) (L := [matching_Reachable_L2_T m m]) (fun _ _ _ _ _ h => mkC_spec (AllF.mem (l := [matching_matched_T m]) ⟨matching_matched_ok m, trivial⟩) h) (fun _ _ => loopsIn_of matching_Reachable_B2_ls ⟨mkLp_all ⟨fun _ => matching_Reachable_L2_ok hE m m, trivial⟩, trivial⟩) (fun n => (matching_Reachable_L1_R m n)) (fun _ => by kernel_rfl) (matching_Reachable_L1_kr m) n
abbrev matching_Reachable_L0_I : SS := [(2, .a (.c (.nm 0 .bool))), (3, .a (.c (.nm 1 .bool))), (4, .a (.bx 2 [(.nm 3 (.sl false (.int .i64))), (.nm 4 (.int .i64)), (.nm 5 (.int .i64)), (.nm 6 .bool)])), (5, .a (.c (.nm 7 (.int .i64)))), (23, .a (.c (.ref 4 4 1))), (24, .a (.c (.int .i64))), (25, .a (.c (.int .i64)))]
abbrev matching_Reachable_L0_O : List (Ex × SS) := [(.exit 0, [(2, .a (.c (.nm 0 .bool))), (3, .a (.c (.nm 1 .bool))), (4, .a (.bx 2 [(.nm 3 (.sl false (.int .i64))), (.nm 4 (.int .i64)), (.nm 5 (.int .i64)), (.nm 6 .bool)])), (5, .a (.c (.nm 7 (.int .i64))))])]
def matching_Reachable_L0_R (m n : Nat) : matching_Reachable_L0_I.Val → Option (outVal matching_Reachable_L0_O) := (fun (x : List Bool × List Bool × (List (List Int) × List Int × List Int × List Bool × Unit) × List Int × Unit × Int × Int × Unit) => matching_Reachable_L0 m n x.1 x.2.1 x.2.2.1.1 x.2.2.1.2.1 x.2.2.1.2.2.1 x.2.2.1.2.2.2.1 x.2.2.2.1 x.2.2.2.2.2.1 x.2.2.2.2.2.2.1)
def matching_Reachable_L0_T (m n : Nat) : LoopT := ⟨0, matching_Reachable_L0_I, matching_Reachable_L0_O, matching_Reachable_L0_R m n⟩
theorem matching_Reachable_L0_kr (m n : Nat) (x : matching_Reachable_L0_I.Val) : roundK (mkC (outVal matching_Reachable_L0_O) [matching_matched_T m]) (mkLp (outVal matching_Reachable_L0_O) []) tt 89 matching_Reachable_H matching_Reachable_B0 0 (matching_Reachable_L0_I.enc x) (Kl (ins := matching_Reachable_L0_I) (outs := matching_Reachable_L0_O) (matching_Reachable_L0_R m n)) = matching_Reachable_L0_R m (n + 1) x := by kernel_rfl
theorem matching_Reachable_L0_ok {E : Entry} (hE : EOf E 89 matching_Reachable_H.pins) (m : Nat) (n : Nat) : LoopOK Try.prog E matching_Reachable_B0 (matching_Reachable_L0_T m n) :=
  loop_ok (CO := CallOK Try.prog) hmix htt (fun _ _ _ _ h => h) hE (C := fun R => mkC R [matching_matched_T m]) (L := []) (fun _ _ _ _ _ h => mkC_spec (AllF.mem (l := [matching_matched_T m]) ⟨matching_matched_ok m, trivial⟩) h) (fun _ _ => loopsIn_of matching_Reachable_B0_ls trivial) (fun n => (matching_Reachable_L0_R m n)) (fun _ => by kernel_rfl) (matching_Reachable_L0_kr m) n
theorem matching_Reachable_kr (m : Nat) (x : ShLVal matching_Reachable_A) : fnK (mkC (matching_Reachable_S.Val × ShLVal matching_Reachable_U) [matching_matched_T m]) (mkLp (matching_Reachable_S.Val × ShLVal matching_Reachable_U) [matching_Reachable_L0_T m m, matching_Reachable_L1_T m m]) tt matching_Reachable_H Try.f21 (encS matching_Reachable_A x) (Kd matching_Reachable_S matching_Reachable_U) = matching_Reachable_R m x := by kernel_rfl
theorem matching_Reachable_ok (m : Nat) : FunOK Try.prog (matching_Reachable_T m) :=
  fun_ok hmix htt (matching_Reachable_T m) Try.func21 (c := matching_Reachable_C) (by kernel_rfl) (by kernel_rfl) (Lc := [matching_matched_T m]) (AllF.mem (l := [matching_matched_T m]) ⟨matching_matched_ok m, trivial⟩) (L := [matching_Reachable_L0_T m m, matching_Reachable_L1_T m m]) (fun _ hE _ _ => loopsIn_of matching_Reachable_C_ls ⟨mkLp_all ⟨fun _ => matching_Reachable_L0_ok hE m m, fun h => absurd (show (2 : Nat) = 0 from h) (by decide), trivial⟩, mkLp_all ⟨fun h => absurd (show (0 : Nat) = 2 from h) (by decide), fun _ => matching_Reachable_L1_ok hE m m, trivial⟩, trivial⟩) (matching_Reachable_kr m)
/-! 22 sparse/matching.List -/
def matching_List_H : Hints := { regs := [⟨[], [0, 1]⟩, ⟨[], [0, 1, 5]⟩, ⟨[(0, 1)], [1, 5, 8, 9, 10]⟩, ⟨[], [1, 5, 8, 9, 10, 11]⟩, ⟨[], [1, 5, 6, 7, 8, 9, 10]⟩, ⟨[(0, 1)], [1, 5, 6, 8, 9, 10, 17]⟩, ⟨[(0, 1), (1, 1)], [1, 5, 8, 9, 10]⟩, ⟨[(1, 1)], [1, 5, 8, 9, 10]⟩, ⟨[(0, 1)], [4]⟩], heads := [(0, [1, 5, 8, 9, 10])], exits := [(0, [5]), (1, [1, 5, 8, 9, 10])], rets := [4], pins := [], spec := [[true]] }
abbrev matching_List_A : List Sh := [.a (.c (.imm .bool)), .a (.c .bool)]
abbrev matching_List_S : Sh := .a (.c (.nm 0 (.int .i64)))
abbrev matching_List_U : List Sh := [.a (.c .dead), .a (.c .dead)]
def matching_List_R (m : Nat) : ShLVal matching_List_A → Option (matching_List_S.Val × ShLVal matching_List_U) := fun (x : List Bool × Bool × Unit) => matching_List m x.1 x.2.1
def matching_List_T (m : Nat) : FunT := ⟨22, matching_List_A, matching_List_S, matching_List_U, matching_List_R m⟩
noncomputable def matching_List_C : Code := codeOf Try.f22
noncomputable def matching_List_B0 : Code := loopAt matching_List_C 0 0
theorem matching_List_B0_ls : loopsL matching_List_B0 0 = [] := by kernel_rfl
theorem matching_List_C_ls : loopsL matching_List_C 0 = [(0, matching_List_B0)] := by kernel_rfl
abbrev matching_List_L0_I : SS := [(1, .a (.c .bool)), (5, .a (.c (.nm 0 (.int .i64)))), (8, .a (.c (.imm .bool))), (9, .a (.c (.int .i64))), (10, .a (.c (.int .i64)))]
abbrev matching_List_L0_O : List (Ex × SS) := [(.exit 0, [(5, .a (.c (.nm 0 (.int .i64))))])]
def matching_List_L0_R (m n : Nat) : matching_List_L0_I.Val → Option (outVal matching_List_L0_O) := (fun (x : Bool × List Int × List Bool × Int × Int × Unit) => matching_List_L0 m n x.1 x.2.1 x.2.2.1 x.2.2.2.1 x.2.2.2.2.1)
def matching_List_L0_T (m n : Nat) : LoopT := ⟨0, matching_List_L0_I, matching_List_L0_O, matching_List_L0_R m n⟩
theorem matching_List_L0_kr (m n : Nat) (x : matching_List_L0_I.Val) : roundK (mkC (outVal matching_List_L0_O) []) (mkLp (outVal matching_List_L0_O) []) tt 24 matching_List_H matching_List_B0 0 (matching_List_L0_I.enc x) (Kl (ins := matching_List_L0_I) (outs := matching_List_L0_O) (matching_List_L0_R m n)) = matching_List_L0_R m (n + 1) x := by kernel_rfl
theorem matching_List_L0_ok {E : Entry} (hE : EOf E 24 matching_List_H.pins) (m : Nat) (n : Nat) : LoopOK Try.prog E matching_List_B0 (matching_List_L0_T m n) :=
  loop_ok (CO := CallOK Try.prog) hmix htt (fun _ _ _ _ h => h) hE (C := fun R => mkC R []) (L := []) (fun _ _ _ _ _ h => mkC_spec (AllF.mem (l := []) trivial) h) (fun _ _ => loopsIn_of matching_List_B0_ls trivial) (fun n => (matching_List_L0_R m n)) (fun _ => by kernel_rfl) (matching_List_L0_kr m) n
theorem matching_List_kr (m : Nat) (x : ShLVal matching_List_A) : fnK (mkC (matching_List_S.Val × ShLVal matching_List_U) []) (mkLp (matching_List_S.Val × ShLVal matching_List_U) [matching_List_L0_T m m]) tt matching_List_H Try.f22 (encS matching_List_A x) (Kd matching_List_S matching_List_U) = matching_List_R m x := by kernel_rfl
theorem matching_List_ok (m : Nat) : FunOK Try.prog (matching_List_T m) :=
  fun_ok hmix htt (matching_List_T m) Try.func22 (c := matching_List_C) (by kernel_rfl) (by kernel_rfl) (Lc := []) (AllF.mem (l := []) trivial) (L := [matching_List_L0_T m m]) (fun _ hE _ _ => loopsIn_of matching_List_C_ls ⟨mkLp_all ⟨fun _ => matching_List_L0_ok hE m m, trivial⟩, trivial⟩) (matching_List_kr m)
/-! 9 sparse/matching.Cover -/
def matching_Cover_H : Hints := { regs := [⟨[], [1, 2]⟩, ⟨[], [1, 2, 4]⟩, ⟨[], [1, 2, 4, 10]⟩, ⟨[(1, 1)], [2, 3]⟩, ⟨[(2, 1)], [2, 5, 6]⟩, ⟨[(0, 1), (2, 1)], [2, 3]⟩], heads := [], exits := [], rets := [2, 3], pins := [], spec := [[true, true], [false]] }
abbrev matching_Cover_A : List Sh := [.a (.agg [(.int .i64), (.int .i64), (.imm (.int .i64)), (.imm (.int .i64)), (.imm (.int .u64))])]
abbrev matching_Cover_S : Sh := .tup [(.agg [(.nm 0 (.int .i64)), (.nm 1 (.int .i64))]), (.c (.int .i64))]
abbrev matching_Cover_U : List Sh := [.a (.c .dead)]
def matching_Cover_R (m : Nat) : ShLVal matching_Cover_A → Option (matching_Cover_S.Val × ShLVal matching_Cover_U) := fun (x : (Int × Int × List Int × List Int × List Int × Unit) × Unit) => matching_Cover m x.1.1 x.1.2.1 x.1.2.2.1 x.1.2.2.2.1 x.1.2.2.2.2.1
def matching_Cover_T (m : Nat) : FunT := ⟨9, matching_Cover_A, matching_Cover_S, matching_Cover_U, matching_Cover_R m⟩
noncomputable def matching_Cover_C : Code := codeOf Try.f9
theorem matching_Cover_C_ls : loopsL matching_Cover_C 0 = [] := by kernel_rfl
theorem matching_Cover_kr (m : Nat) (x : ShLVal matching_Cover_A) : fnK (mkC (matching_Cover_S.Val × ShLVal matching_Cover_U) [matrix_Check_T m, matching_Reachable_T m, matching_List_T m]) (mkLp (matching_Cover_S.Val × ShLVal matching_Cover_U) []) tt matching_Cover_H Try.f9 (encS matching_Cover_A x) (Kd matching_Cover_S matching_Cover_U) = matching_Cover_R m x := by kernel_rfl
theorem matching_Cover_ok (m : Nat) : FunOK Try.prog (matching_Cover_T m) :=
  fun_ok hmix htt (matching_Cover_T m) Try.func9 (c := matching_Cover_C) (by kernel_rfl) (by kernel_rfl) (Lc := [matrix_Check_T m, matching_Reachable_T m, matching_List_T m]) (AllF.mem (l := [matrix_Check_T m, matching_Reachable_T m, matching_List_T m]) ⟨matrix_Check_ok m, matching_Reachable_ok m, matching_List_ok m, trivial⟩) (L := []) (fun _ hE _ _ => loopsIn_of matching_Cover_C_ls trivial) (matching_Cover_kr m)
/-! 11 sparse/sparsekit.Ints -/
def sparsekit_Ints_H : Hints := { regs := [⟨[], [0, 1]⟩, ⟨[], [0, 1, 10]⟩, ⟨[], [4]⟩, ⟨[], [0, 1, 5]⟩, ⟨[], [0, 1, 5, 14]⟩, ⟨[(0, 1)], [0, 1, 5]⟩, ⟨[], [0, 1, 5, 25]⟩, ⟨[], [4]⟩, ⟨[], [4]⟩], heads := [(0, [0, 1, 5])], exits := [(0, []), (1, [0, 1, 5])], rets := [4], pins := [], spec := [[false]] }
abbrev sparsekit_Ints_A : List Sh := [.a (.c (.imm (.int .i64))), .a (.c (.imm (.int .i64)))]
abbrev sparsekit_Ints_S : Sh := .a (.c .bool)
abbrev sparsekit_Ints_U : List Sh := [.a (.c .dead), .a (.c .dead)]
def sparsekit_Ints_R (m : Nat) : ShLVal sparsekit_Ints_A → Option (sparsekit_Ints_S.Val × ShLVal sparsekit_Ints_U) := fun (x : List Int × List Int × Unit) => sparsekit_Ints m x.1 x.2.1
def sparsekit_Ints_T (m : Nat) : FunT := ⟨11, sparsekit_Ints_A, sparsekit_Ints_S, sparsekit_Ints_U, sparsekit_Ints_R m⟩
noncomputable def sparsekit_Ints_C : Code := codeOf Try.f11
noncomputable def sparsekit_Ints_B0 : Code := loopAt sparsekit_Ints_C 0 0
theorem sparsekit_Ints_B0_ls : loopsL sparsekit_Ints_B0 0 = [] := by kernel_rfl
theorem sparsekit_Ints_C_ls : loopsL sparsekit_Ints_C 0 = [(0, sparsekit_Ints_B0)] := by kernel_rfl
abbrev sparsekit_Ints_L0_I : SS := [(0, .a (.c (.imm (.int .i64)))), (1, .a (.c (.imm (.int .i64)))), (5, .a (.c (.int .i64)))]
abbrev sparsekit_Ints_L0_O : List (Ex × SS) := [(.ret, [(4, .a (.c .bool))]), (.exit 0, [])]
def sparsekit_Ints_L0_R (m n : Nat) : sparsekit_Ints_L0_I.Val → Option (outVal sparsekit_Ints_L0_O) := (fun (x : List Int × List Int × Int × Unit) => sparsekit_Ints_L0 m n x.1 x.2.1 x.2.2.1)
def sparsekit_Ints_L0_T (m n : Nat) : LoopT := ⟨0, sparsekit_Ints_L0_I, sparsekit_Ints_L0_O, sparsekit_Ints_L0_R m n⟩
theorem sparsekit_Ints_L0_kr (m n : Nat) (x : sparsekit_Ints_L0_I.Val) : roundK (mkC (outVal sparsekit_Ints_L0_O) []) (mkLp (outVal sparsekit_Ints_L0_O) []) tt 26 sparsekit_Ints_H sparsekit_Ints_B0 0 (sparsekit_Ints_L0_I.enc x) (Kl (ins := sparsekit_Ints_L0_I) (outs := sparsekit_Ints_L0_O) (sparsekit_Ints_L0_R m n)) = sparsekit_Ints_L0_R m (n + 1) x := by kernel_rfl
theorem sparsekit_Ints_L0_ok {E : Entry} (hE : EOf E 26 sparsekit_Ints_H.pins) (m : Nat) (n : Nat) : LoopOK Try.prog E sparsekit_Ints_B0 (sparsekit_Ints_L0_T m n) :=
  loop_ok (CO := CallOK Try.prog) hmix htt (fun _ _ _ _ h => h) hE (C := fun R => mkC R []) (L := []) (fun _ _ _ _ _ h => mkC_spec (AllF.mem (l := []) trivial) h) (fun _ _ => loopsIn_of sparsekit_Ints_B0_ls trivial) (fun n => (sparsekit_Ints_L0_R m n)) (fun _ => by kernel_rfl) (sparsekit_Ints_L0_kr m) n
theorem sparsekit_Ints_kr (m : Nat) (x : ShLVal sparsekit_Ints_A) : fnK (mkC (sparsekit_Ints_S.Val × ShLVal sparsekit_Ints_U) []) (mkLp (sparsekit_Ints_S.Val × ShLVal sparsekit_Ints_U) [sparsekit_Ints_L0_T m m]) tt sparsekit_Ints_H Try.f11 (encS sparsekit_Ints_A x) (Kd sparsekit_Ints_S sparsekit_Ints_U) = sparsekit_Ints_R m x := by kernel_rfl
theorem sparsekit_Ints_ok (m : Nat) : FunOK Try.prog (sparsekit_Ints_T m) :=
  fun_ok hmix htt (sparsekit_Ints_T m) Try.func11 (c := sparsekit_Ints_C) (by kernel_rfl) (by kernel_rfl) (Lc := []) (AllF.mem (l := []) trivial) (L := [sparsekit_Ints_L0_T m m]) (fun _ hE _ _ => loopsIn_of sparsekit_Ints_C_ls ⟨mkLp_all ⟨fun _ => sparsekit_Ints_L0_ok hE m m, trivial⟩, trivial⟩) (sparsekit_Ints_kr m)
/-! 44 sparse/matching.contains -/
def matching_contains_H : Hints := { regs := [⟨[], [0, 1]⟩, ⟨[(0, 1)], [1, 7, 8, 9]⟩, ⟨[], [1, 7, 8, 9, 10]⟩, ⟨[], [1, 6, 7, 8, 9]⟩, ⟨[(0, 1)], [1, 7, 8, 9, 15]⟩, ⟨[], [4]⟩, ⟨[(1, 1)], [1, 7, 8, 9]⟩, ⟨[], [4]⟩], heads := [(0, [1, 7, 8, 9])], exits := [(0, []), (1, [1, 7, 8, 9])], rets := [4], pins := [], spec := [[false]] }
abbrev matching_contains_A : List Sh := [.a (.c (.imm (.int .i64))), .a (.c (.int .i64))]
abbrev matching_contains_S : Sh := .a (.c .bool)
abbrev matching_contains_U : List Sh := [.a (.c .dead), .a (.c .dead)]
def matching_contains_R (m : Nat) : ShLVal matching_contains_A → Option (matching_contains_S.Val × ShLVal matching_contains_U) := fun (x : List Int × Int × Unit) => matching_contains m x.1 x.2.1
def matching_contains_T (m : Nat) : FunT := ⟨44, matching_contains_A, matching_contains_S, matching_contains_U, matching_contains_R m⟩
noncomputable def matching_contains_C : Code := codeOf Try.f44
noncomputable def matching_contains_B0 : Code := loopAt matching_contains_C 0 0
theorem matching_contains_B0_ls : loopsL matching_contains_B0 0 = [] := by kernel_rfl
theorem matching_contains_C_ls : loopsL matching_contains_C 0 = [(0, matching_contains_B0)] := by kernel_rfl
abbrev matching_contains_L0_I : SS := [(1, .a (.c (.int .i64))), (7, .a (.c (.imm (.int .i64)))), (8, .a (.c (.int .i64))), (9, .a (.c (.int .i64)))]
abbrev matching_contains_L0_O : List (Ex × SS) := [(.ret, [(4, .a (.c .bool))]), (.exit 0, [])]
def matching_contains_L0_R (m n : Nat) : matching_contains_L0_I.Val → Option (outVal matching_contains_L0_O) := (fun (x : Int × List Int × Int × Int × Unit) => matching_contains_L0 m n x.1 x.2.1 x.2.2.1 x.2.2.2.1)
def matching_contains_L0_T (m n : Nat) : LoopT := ⟨0, matching_contains_L0_I, matching_contains_L0_O, matching_contains_L0_R m n⟩
theorem matching_contains_L0_kr (m n : Nat) (x : matching_contains_L0_I.Val) : roundK (mkC (outVal matching_contains_L0_O) []) (mkLp (outVal matching_contains_L0_O) []) tt 17 matching_contains_H matching_contains_B0 0 (matching_contains_L0_I.enc x) (Kl (ins := matching_contains_L0_I) (outs := matching_contains_L0_O) (matching_contains_L0_R m n)) = matching_contains_L0_R m (n + 1) x := by kernel_rfl
theorem matching_contains_L0_ok {E : Entry} (hE : EOf E 17 matching_contains_H.pins) (m : Nat) (n : Nat) : LoopOK Try.prog E matching_contains_B0 (matching_contains_L0_T m n) :=
  loop_ok (CO := CallOK Try.prog) hmix htt (fun _ _ _ _ h => h) hE (C := fun R => mkC R []) (L := []) (fun _ _ _ _ _ h => mkC_spec (AllF.mem (l := []) trivial) h) (fun _ _ => loopsIn_of matching_contains_B0_ls trivial) (fun n => (matching_contains_L0_R m n)) (fun _ => by kernel_rfl) (matching_contains_L0_kr m) n
theorem matching_contains_kr (m : Nat) (x : ShLVal matching_contains_A) : fnK (mkC (matching_contains_S.Val × ShLVal matching_contains_U) []) (mkLp (matching_contains_S.Val × ShLVal matching_contains_U) [matching_contains_L0_T m m]) tt matching_contains_H Try.f44 (encS matching_contains_A x) (Kd matching_contains_S matching_contains_U) = matching_contains_R m x := by kernel_rfl
theorem matching_contains_ok (m : Nat) : FunOK Try.prog (matching_contains_T m) :=
  fun_ok hmix htt (matching_contains_T m) Try.func44 (c := matching_contains_C) (by kernel_rfl) (by kernel_rfl) (Lc := []) (AllF.mem (l := []) trivial) (L := [matching_contains_L0_T m m]) (fun _ hE _ _ => loopsIn_of matching_contains_C_ls ⟨mkLp_all ⟨fun _ => matching_contains_L0_ok hE m m, trivial⟩, trivial⟩) (matching_contains_kr m)
/-! 25 sparse/matching.matching -/
def matching_matching_H : Hints := { regs := [⟨[], [0, 1, 2]⟩, ⟨[], [0, 1, 2, 8]⟩, ⟨[], [0, 1, 2, 8, 9]⟩, ⟨[(0, 1)], [0, 1, 8, 9, 14, 15, 16]⟩, ⟨[], [0, 1, 8, 9, 14, 15, 16, 17]⟩, ⟨[], [0, 1, 8, 9, 10, 11, 14, 15, 16]⟩, ⟨[], [0, 1, 8, 9, 10, 11, 14, 15, 16, 22]⟩, ⟨[(2, 1), (7, 1), (13, 1), (15, 1)], [0, 1, 8, 9, 11, 14, 15, 16, 44]⟩, ⟨[], [6, 7]⟩, ⟨[(1, 1)], [0, 1, 8, 9, 14, 15, 16]⟩, ⟨[(0, 1)], [0, 1, 8, 9, 14, 15, 16]⟩, ⟨[(1, 1)], [0, 1, 8, 9, 14, 15, 16]⟩, ⟨[(0, 1)], [6, 7]⟩], heads := [(0, [0, 1, 8, 9, 14, 15, 16])], exits := [(0, [9]), (1, [0, 1, 8, 9, 14, 15, 16])], rets := [6, 7], pins := [], spec := [[false], [false]] }
abbrev matching_matching_A : List Sh := [.a (.c (.imm (.sl false (.int .i64)))), .a (.c (.int .i64)), .a (.c (.imm (.int .i64)))]
abbrev matching_matching_S : Sh := .tup [(.c (.int .i64)), (.c .bool)]
abbrev matching_matching_U : List Sh := [.a (.c .dead), .a (.c .dead), .a (.c .dead)]
def matching_matching_R (m : Nat) : ShLVal matching_matching_A → Option (matching_matching_S.Val × ShLVal matching_matching_U) := fun (x : List (List Int) × Int × List Int × Unit) => matching_matching m x.1 x.2.1 x.2.2.1
def matching_matching_T (m : Nat) : FunT := ⟨25, matching_matching_A, matching_matching_S, matching_matching_U, matching_matching_R m⟩
noncomputable def matching_matching_C : Code := codeOf Try.f25
noncomputable def matching_matching_B0 : Code := loopAt matching_matching_C 0 0
theorem matching_matching_B0_ls : loopsL matching_matching_B0 0 = [] := by kernel_rfl
theorem matching_matching_C_ls : loopsL matching_matching_C 0 = [(0, matching_matching_B0)] := by kernel_rfl
abbrev matching_matching_L0_I : SS := [(0, .a (.c (.imm (.sl false (.int .i64))))), (1, .a (.c (.int .i64))), (8, .a (.c (.nm 0 .bool))), (9, .a (.c (.int .i64))), (14, .a (.c (.imm (.int .i64)))), (15, .a (.c (.int .i64))), (16, .a (.c (.int .i64)))]
abbrev matching_matching_L0_O : List (Ex × SS) := [(.ret, [(6, .a (.c (.int .i64))), (7, .a (.c .bool))]), (.exit 0, [(9, .a (.c (.int .i64)))])]
def matching_matching_L0_R (m n : Nat) : matching_matching_L0_I.Val → Option (outVal matching_matching_L0_O) := (fun (x : List (List Int) × Int × List Bool × Int × List Int × Int × Int × Unit) => matching_matching_L0 m n x.1 x.2.1 x.2.2.1 x.2.2.2.1 x.2.2.2.2.1 x.2.2.2.2.2.1 x.2.2.2.2.2.2.1)
def matching_matching_L0_T (m n : Nat) : LoopT := ⟨0, matching_matching_L0_I, matching_matching_L0_O, matching_matching_L0_R m n⟩
theorem matching_matching_L0_kr (m n : Nat) (x : matching_matching_L0_I.Val) : roundK (mkC (outVal matching_matching_L0_O) [matching_contains_T m]) (mkLp (outVal matching_matching_L0_O) []) tt 52 matching_matching_H matching_matching_B0 0 (matching_matching_L0_I.enc x) (Kl (ins := matching_matching_L0_I) (outs := matching_matching_L0_O) (matching_matching_L0_R m n)) = matching_matching_L0_R m (n + 1) x := by kernel_rfl
theorem matching_matching_L0_ok {E : Entry} (hE : EOf E 52 matching_matching_H.pins) (m : Nat) (n : Nat) : LoopOK Try.prog E matching_matching_B0 (matching_matching_L0_T m n) :=
  loop_ok (CO := CallOK Try.prog) hmix htt (fun _ _ _ _ h => h) hE (C := fun R => mkC R [matching_contains_T m]) (L := []) (fun _ _ _ _ _ h => mkC_spec (AllF.mem (l := [matching_contains_T m]) ⟨matching_contains_ok m, trivial⟩) h) (fun _ _ => loopsIn_of matching_matching_B0_ls trivial) (fun n => (matching_matching_L0_R m n)) (fun _ => by kernel_rfl) (matching_matching_L0_kr m) n
theorem matching_matching_kr (m : Nat) (x : ShLVal matching_matching_A) : fnK (mkC (matching_matching_S.Val × ShLVal matching_matching_U) [matching_contains_T m]) (mkLp (matching_matching_S.Val × ShLVal matching_matching_U) [matching_matching_L0_T m m]) tt matching_matching_H Try.f25 (encS matching_matching_A x) (Kd matching_matching_S matching_matching_U) = matching_matching_R m x := by kernel_rfl
theorem matching_matching_ok (m : Nat) : FunOK Try.prog (matching_matching_T m) :=
  fun_ok hmix htt (matching_matching_T m) Try.func25 (c := matching_matching_C) (by kernel_rfl) (by kernel_rfl) (Lc := [matching_contains_T m]) (AllF.mem (l := [matching_contains_T m]) ⟨matching_contains_ok m, trivial⟩) (L := [matching_matching_L0_T m m]) (fun _ hE _ _ => loopsIn_of matching_matching_C_ls ⟨mkLp_all ⟨fun _ => matching_matching_L0_ok hE m m, trivial⟩, trivial⟩) (matching_matching_kr m)
/-! 45 sparse/matching.chosen -/
def matching_chosen_H : Hints := { regs := [⟨[], [0, 1]⟩, ⟨[], [0, 1, 6]⟩, ⟨[], [0, 1, 6, 7]⟩, ⟨[(0, 1)], [1, 6, 7, 12, 13, 14]⟩, ⟨[], [1, 6, 7, 12, 13, 14, 15]⟩, ⟨[], [1, 6, 7, 9, 12, 13, 14]⟩, ⟨[(1, 1), (3, 1)], [1, 6, 9, 12, 13, 14, 25]⟩, ⟨[], [4, 5]⟩, ⟨[], [1, 6, 7, 12, 13, 14]⟩, ⟨[(1, 1)], [1, 6, 7, 12, 13, 14]⟩, ⟨[(0, 1)], [4, 5]⟩], heads := [(0, [1, 6, 7, 12, 13, 14])], exits := [(0, [6]), (1, [1, 6, 7, 12, 13, 14])], rets := [4, 5], pins := [], spec := [[true], [false]] }
abbrev matching_chosen_A : List Sh := [.a (.c (.imm (.int .i64))), .a (.c (.int .i64))]
abbrev matching_chosen_S : Sh := .tup [(.c (.nm 0 .bool)), (.c .bool)]
abbrev matching_chosen_U : List Sh := [.a (.c .dead), .a (.c .dead)]
def matching_chosen_R (m : Nat) : ShLVal matching_chosen_A → Option (matching_chosen_S.Val × ShLVal matching_chosen_U) := fun (x : List Int × Int × Unit) => matching_chosen m x.1 x.2.1
def matching_chosen_T (m : Nat) : FunT := ⟨45, matching_chosen_A, matching_chosen_S, matching_chosen_U, matching_chosen_R m⟩
noncomputable def matching_chosen_C : Code := codeOf Try.f45
noncomputable def matching_chosen_B0 : Code := loopAt matching_chosen_C 0 0
theorem matching_chosen_B0_ls : loopsL matching_chosen_B0 0 = [] := by kernel_rfl
theorem matching_chosen_C_ls : loopsL matching_chosen_C 0 = [(0, matching_chosen_B0)] := by kernel_rfl
abbrev matching_chosen_L0_I : SS := [(1, .a (.c (.int .i64))), (6, .a (.c (.nm 0 .bool))), (7, .a (.c (.int .i64))), (12, .a (.c (.imm (.int .i64)))), (13, .a (.c (.int .i64))), (14, .a (.c (.int .i64)))]
abbrev matching_chosen_L0_O : List (Ex × SS) := [(.ret, [(4, .a (.c (.nm 0 .bool))), (5, .a (.c .bool))]), (.exit 0, [(6, .a (.c (.nm 0 .bool)))])]
def matching_chosen_L0_R (m n : Nat) : matching_chosen_L0_I.Val → Option (outVal matching_chosen_L0_O) := (fun (x : Int × List Bool × Int × List Int × Int × Int × Unit) => matching_chosen_L0 m n x.1 x.2.1 x.2.2.1 x.2.2.2.1 x.2.2.2.2.1 x.2.2.2.2.2.1)
def matching_chosen_L0_T (m n : Nat) : LoopT := ⟨0, matching_chosen_L0_I, matching_chosen_L0_O, matching_chosen_L0_R m n⟩
theorem matching_chosen_L0_kr (m n : Nat) (x : matching_chosen_L0_I.Val) : roundK (mkC (outVal matching_chosen_L0_O) []) (mkLp (outVal matching_chosen_L0_O) []) tt 32 matching_chosen_H matching_chosen_B0 0 (matching_chosen_L0_I.enc x) (Kl (ins := matching_chosen_L0_I) (outs := matching_chosen_L0_O) (matching_chosen_L0_R m n)) = matching_chosen_L0_R m (n + 1) x := by kernel_rfl
theorem matching_chosen_L0_ok {E : Entry} (hE : EOf E 32 matching_chosen_H.pins) (m : Nat) (n : Nat) : LoopOK Try.prog E matching_chosen_B0 (matching_chosen_L0_T m n) :=
  loop_ok (CO := CallOK Try.prog) hmix htt (fun _ _ _ _ h => h) hE (C := fun R => mkC R []) (L := []) (fun _ _ _ _ _ h => mkC_spec (AllF.mem (l := []) trivial) h) (fun _ _ => loopsIn_of matching_chosen_B0_ls trivial) (fun n => (matching_chosen_L0_R m n)) (fun _ => by kernel_rfl) (matching_chosen_L0_kr m) n
theorem matching_chosen_kr (m : Nat) (x : ShLVal matching_chosen_A) : fnK (mkC (matching_chosen_S.Val × ShLVal matching_chosen_U) []) (mkLp (matching_chosen_S.Val × ShLVal matching_chosen_U) [matching_chosen_L0_T m m]) tt matching_chosen_H Try.f45 (encS matching_chosen_A x) (Kd matching_chosen_S matching_chosen_U) = matching_chosen_R m x := by kernel_rfl
theorem matching_chosen_ok (m : Nat) : FunOK Try.prog (matching_chosen_T m) :=
  fun_ok hmix htt (matching_chosen_T m) Try.func45 (c := matching_chosen_C) (by kernel_rfl) (by kernel_rfl) (Lc := []) (AllF.mem (l := []) trivial) (L := [matching_chosen_L0_T m m]) (fun _ hE _ _ => loopsIn_of matching_chosen_C_ls ⟨mkLp_all ⟨fun _ => matching_chosen_L0_ok hE m m, trivial⟩, trivial⟩) (matching_chosen_kr m)
/-! 27 sparse/matching.covers -/
def matching_covers_H : Hints := { regs := [⟨[], [0, 1, 5]⟩, ⟨[(2, 1), (4, 1)], [0, 5, 7, 8]⟩, ⟨[(5, 1)], [0, 7, 8, 9, 10]⟩, ⟨[(0, 1), (2, 1), (3, 1)], [0, 7, 9, 35]⟩, ⟨[], [6]⟩, ⟨[(0, 1)], [7, 9, 36, 37, 38]⟩, ⟨[], [7, 9, 36, 37, 38, 39]⟩, ⟨[], [7, 9, 11, 12, 36, 37, 38]⟩, ⟨[(0, 1)], [7, 9, 11, 36, 37, 38, 43, 44, 45]⟩, ⟨[], [7, 9, 11, 36, 37, 38, 43, 44, 45, 46]⟩, ⟨[], [7, 9, 11, 14, 36, 37, 38, 43, 44, 45]⟩, ⟨[(1, 1), (5, 1)], [7, 9, 11, 36, 37, 38, 43, 44, 45, 60]⟩, ⟨[], [6]⟩, ⟨[(1, 1)], [7, 9, 11, 36, 37, 38, 43, 44, 45]⟩, ⟨[(1, 1)], [7, 9, 36, 37, 38]⟩, ⟨[], [6]⟩], heads := [(0, [7, 9, 36, 37, 38]), (2, [7, 9, 11, 36, 37, 38, 43, 44, 45])], exits := [(0, []), (1, [7, 9, 36, 37, 38]), (2, [7, 9, 36, 37, 38]), (3, [7, 9, 11, 36, 37, 38, 43, 44, 45])], rets := [6], pins := [], spec := [[false]] }
abbrev matching_covers_A : List Sh := [.a (.c (.imm (.sl false (.int .i64)))), .a (.c (.int .i64)), .a (.agg [(.imm (.int .i64)), (.imm (.int .i64))])]
abbrev matching_covers_S : Sh := .a (.c .bool)
abbrev matching_covers_U : List Sh := [.a (.c .dead), .a (.c .dead), .a (.c .dead)]
def matching_covers_R (m : Nat) : ShLVal matching_covers_A → Option (matching_covers_S.Val × ShLVal matching_covers_U) := fun (x : List (List Int) × Int × (List Int × List Int × Unit) × Unit) => matching_covers m x.1 x.2.1 x.2.2.1.1 x.2.2.1.2.1
def matching_covers_T (m : Nat) : FunT := ⟨27, matching_covers_A, matching_covers_S, matching_covers_U, matching_covers_R m⟩
noncomputable def matching_covers_C : Code := codeOf Try.f27
noncomputable def matching_covers_B0 : Code := loopAt matching_covers_C 0 0
noncomputable def matching_covers_B2 : Code := loopAt matching_covers_B0 0 0
theorem matching_covers_B2_ls : loopsL matching_covers_B2 2 = [] := by kernel_rfl
theorem matching_covers_B0_ls : loopsL matching_covers_B0 0 = [(2, matching_covers_B2)] := by kernel_rfl
theorem matching_covers_C_ls : loopsL matching_covers_C 0 = [(0, matching_covers_B0)] := by kernel_rfl
abbrev matching_covers_L1_I : SS := [(7, .a (.c (.nm 0 .bool))), (9, .a (.c (.nm 1 .bool))), (11, .a (.c (.int .i64))), (36, .a (.c (.imm (.sl false (.int .i64))))), (37, .a (.c (.int .i64))), (38, .a (.c (.int .i64))), (43, .a (.c (.imm (.int .i64)))), (44, .a (.c (.int .i64))), (45, .a (.c (.int .i64)))]
abbrev matching_covers_L1_O : List (Ex × SS) := [(.ret, [(6, .a (.c .bool))]), (.exit 2, [(7, .a (.c (.nm 0 .bool))), (9, .a (.c (.nm 1 .bool))), (36, .a (.c (.imm (.sl false (.int .i64))))), (37, .a (.c (.int .i64))), (38, .a (.c (.int .i64)))])]
def matching_covers_L1_R (m n : Nat) : matching_covers_L1_I.Val → Option (outVal matching_covers_L1_O) := (fun (x : List Bool × List Bool × Int × List (List Int) × Int × Int × List Int × Int × Int × Unit) => matching_covers_L1 m n x.1 x.2.1 x.2.2.1 x.2.2.2.1 x.2.2.2.2.1 x.2.2.2.2.2.1 x.2.2.2.2.2.2.1 x.2.2.2.2.2.2.2.1 x.2.2.2.2.2.2.2.2.1)
def matching_covers_L1_T (m n : Nat) : LoopT := ⟨2, matching_covers_L1_I, matching_covers_L1_O, matching_covers_L1_R m n⟩
theorem matching_covers_L1_kr (m n : Nat) (x : matching_covers_L1_I.Val) : roundK (mkC (outVal matching_covers_L1_O) [matching_chosen_T m]) (mkLp (outVal matching_covers_L1_O) []) tt 63 matching_covers_H matching_covers_B2 2 (matching_covers_L1_I.enc x) (Kl (ins := matching_covers_L1_I) (outs := matching_covers_L1_O) (matching_covers_L1_R m n)) = matching_covers_L1_R m (n + 1) x := by kernel_rfl
theorem matching_covers_L1_ok {E : Entry} (hE : EOf E 63 matching_covers_H.pins) (m : Nat) (n : Nat) : LoopOK Try.prog E matching_covers_B2 (matching_covers_L1_T m n) :=
  loop_ok (CO := CallOK Try.prog) hmix htt (fun _ _ _ _ h => h) hE (C := fun R => mkC R [matching_chosen_T m]) (L := []) (fun _ _ _ _ _ h => mkC_spec (AllF.mem (l := [matching_chosen_T m]) ⟨matching_chosen_ok m, trivial⟩) h) (fun _ _ => loopsIn_of matching_covers_B2_ls trivial) (fun n => (matching_covers_L1_R m n)) (fun _ => by kernel_rfl) (matching_covers_L1_kr m) n
abbrev matching_covers_L0_I : SS := [(7, .a (.c (.nm 0 .bool))), (9, .a (.c (.nm 1 .bool))), (36, .a (.c (.imm (.sl false (.int .i64))))), (37, .a (.c (.int .i64))), (38, .a (.c (.int .i64)))]
abbrev matching_covers_L0_O : List (Ex × SS) := [(.ret, [(6, .a (.c .bool))]), (.exit 0, [])]
def matching_covers_L0_R (m n : Nat) : matching_covers_L0_I.Val → Option (outVal matching_covers_L0_O) := (fun (x : List Bool × List Bool × List (List Int) × Int × Int × Unit) => matching_covers_L0 m n x.1 x.2.1 x.2.2.1 x.2.2.2.1 x.2.2.2.2.1)
def matching_covers_L0_T (m n : Nat) : LoopT := ⟨0, matching_covers_L0_I, matching_covers_L0_O, matching_covers_L0_R m n⟩
theorem matching_covers_L0_kr (m n : Nat) (x : matching_covers_L0_I.Val) : roundK (mkC (outVal matching_covers_L0_O) [matching_chosen_T m]) (mkLp (outVal matching_covers_L0_O) [matching_covers_L1_T m m]) tt 63 matching_covers_H matching_covers_B0 0 (matching_covers_L0_I.enc x) (Kl (ins := matching_covers_L0_I) (outs := matching_covers_L0_O) (matching_covers_L0_R m n)) = matching_covers_L0_R m (n + 1) x := by kernel_rfl
theorem matching_covers_L0_ok {E : Entry} (hE : EOf E 63 matching_covers_H.pins) (m : Nat) (n : Nat) : LoopOK Try.prog E matching_covers_B0 (matching_covers_L0_T m n) :=
  loop_ok (CO := CallOK Try.prog) hmix htt (fun _ _ _ _ h => h) hE (C := fun R => mkC R [matching_chosen_T m]) (L := [matching_covers_L1_T m m]) (fun _ _ _ _ _ h => mkC_spec (AllF.mem (l := [matching_chosen_T m]) ⟨matching_chosen_ok m, trivial⟩) h) (fun _ _ => loopsIn_of matching_covers_B0_ls ⟨mkLp_all ⟨fun _ => matching_covers_L1_ok hE m m, trivial⟩, trivial⟩) (fun n => (matching_covers_L0_R m n)) (fun _ => by kernel_rfl) (matching_covers_L0_kr m) n
theorem matching_covers_kr (m : Nat) (x : ShLVal matching_covers_A) : fnK (mkC (matching_covers_S.Val × ShLVal matching_covers_U) [matching_chosen_T m]) (mkLp (matching_covers_S.Val × ShLVal matching_covers_U) [matching_covers_L0_T m m]) tt matching_covers_H Try.f27 (encS matching_covers_A x) (Kd matching_covers_S matching_covers_U) = matching_covers_R m x := by kernel_rfl
theorem matching_covers_ok (m : Nat) : FunOK Try.prog (matching_covers_T m) :=
  fun_ok hmix htt (matching_covers_T m) Try.func27 (c := matching_covers_C) (by kernel_rfl) (by kernel_rfl) (Lc := [matching_chosen_T m]) (AllF.mem (l := [matching_chosen_T m]) ⟨matching_chosen_ok m, trivial⟩) (L := [matching_covers_L0_T m m]) (fun _ hE _ _ => loopsIn_of matching_covers_C_ls ⟨mkLp_all ⟨fun _ => matching_covers_L0_ok hE m m, trivial⟩, trivial⟩) (matching_covers_kr m)
/-! 12 sparse/matching.Check -/
def matching_Check_H : Hints := { regs := [⟨[], [1, 3, 5]⟩, ⟨[], [1, 3, 5, 7]⟩, ⟨[], [1, 3, 5, 7, 12]⟩, ⟨[(0, 1)], [6]⟩, ⟨[], [1, 3, 5, 16]⟩, ⟨[], [6]⟩, ⟨[(4, 1), (6, 1)], [3, 5, 8, 9]⟩, ⟨[(0, 1)], [3, 5, 8, 31]⟩, ⟨[], [6]⟩, ⟨[(7, 1), (15, 1)], [34]⟩, ⟨[], [6]⟩, ⟨[], [6]⟩], heads := [], exits := [(0, [1, 3, 5]), (1, [])], rets := [6], pins := [], spec := [[false]] }
abbrev matching_Check_A : List Sh := [.a (.agg [(.int .i64), (.int .i64), (.imm (.int .i64)), (.imm (.int .i64)), (.imm (.int .u64))]), .a (.c (.imm (.int .i64))), .a (.agg [(.imm (.int .i64)), (.imm (.int .i64))])]
abbrev matching_Check_S : Sh := .a (.c (.int .i64))
abbrev matching_Check_U : List Sh := [.a (.c .dead), .a (.c .dead), .a (.c .dead)]
def matching_Check_R (m : Nat) : ShLVal matching_Check_A → Option (matching_Check_S.Val × ShLVal matching_Check_U) := fun (x : (Int × Int × List Int × List Int × List Int × Unit) × List Int × (List Int × List Int × Unit) × Unit) => matching_Check m x.1.1 x.1.2.1 x.1.2.2.1 x.1.2.2.2.1 x.1.2.2.2.2.1 x.2.1 x.2.2.1.1 x.2.2.1.2.1
def matching_Check_T (m : Nat) : FunT := ⟨12, matching_Check_A, matching_Check_S, matching_Check_U, matching_Check_R m⟩
noncomputable def matching_Check_C : Code := codeOf Try.f12
theorem matching_Check_C_ls : loopsL matching_Check_C 0 = [] := by kernel_rfl
theorem matching_Check_kr (m : Nat) (x : ShLVal matching_Check_A) : fnK (mkC (matching_Check_S.Val × ShLVal matching_Check_U) [matrix_Check_T m, matching_Edges_T m, matching_matching_T m, matching_covers_T m]) (mkLp (matching_Check_S.Val × ShLVal matching_Check_U) []) tt matching_Check_H Try.f12 (encS matching_Check_A x) (Kd matching_Check_S matching_Check_U) = matching_Check_R m x := by kernel_rfl
theorem matching_Check_ok (m : Nat) : FunOK Try.prog (matching_Check_T m) :=
  fun_ok hmix htt (matching_Check_T m) Try.func12 (c := matching_Check_C) (by kernel_rfl) (by kernel_rfl) (Lc := [matrix_Check_T m, matching_Edges_T m, matching_matching_T m, matching_covers_T m]) (AllF.mem (l := [matrix_Check_T m, matching_Edges_T m, matching_matching_T m, matching_covers_T m]) ⟨matrix_Check_ok m, matching_Edges_ok m, matching_matching_ok m, matching_covers_ok m, trivial⟩) (L := []) (fun _ hE _ _ => loopsIn_of matching_Check_C_ls trivial) (matching_Check_kr m)
/-! 5 sparse/sparselaw13.awake -/
def sparselaw13_awake_H : Hints := { regs := [⟨[], []⟩, ⟨[], [1]⟩, ⟨[(2, 1)], [1, 2, 3]⟩, ⟨[(2, 1)], [1, 2, 3, 4, 5]⟩, ⟨[(0, 1), (2, 1), (3, 1), (6, 1), (11, 1), (21, 1)], [0]⟩], heads := [], exits := [], rets := [0], pins := [], spec := [[false]] }
abbrev sparselaw13_awake_A : List Sh := []
abbrev sparselaw13_awake_S : Sh := .a (.c .bool)
abbrev sparselaw13_awake_U : List Sh := []
def sparselaw13_awake_R (m : Nat) : ShLVal sparselaw13_awake_A → Option (sparselaw13_awake_S.Val × ShLVal sparselaw13_awake_U) := fun (x : Unit) => sparselaw13_awake m
def sparselaw13_awake_T (m : Nat) : FunT := ⟨5, sparselaw13_awake_A, sparselaw13_awake_S, sparselaw13_awake_U, sparselaw13_awake_R m⟩
noncomputable def sparselaw13_awake_C : Code := codeOf Try.f5
theorem sparselaw13_awake_C_ls : loopsL sparselaw13_awake_C 0 = [] := by kernel_rfl
theorem sparselaw13_awake_kr (m : Nat) (x : ShLVal sparselaw13_awake_A) : fnK (mkC (sparselaw13_awake_S.Val × ShLVal sparselaw13_awake_U) [matching_Maximum_T m, matching_Cover_T m, sparsekit_Ints_T m, matching_Check_T m]) (mkLp (sparselaw13_awake_S.Val × ShLVal sparselaw13_awake_U) []) tt sparselaw13_awake_H Try.f5 (encS sparselaw13_awake_A x) (Kd sparselaw13_awake_S sparselaw13_awake_U) = sparselaw13_awake_R m x := by kernel_rfl
theorem sparselaw13_awake_ok (m : Nat) : FunOK Try.prog (sparselaw13_awake_T m) :=
  fun_ok hmix htt (sparselaw13_awake_T m) Try.func5 (c := sparselaw13_awake_C) (by kernel_rfl) (by kernel_rfl) (Lc := [matching_Maximum_T m, matching_Cover_T m, sparsekit_Ints_T m, matching_Check_T m]) (AllF.mem (l := [matching_Maximum_T m, matching_Cover_T m, sparsekit_Ints_T m, matching_Check_T m]) ⟨matching_Maximum_ok m, matching_Cover_ok m, sparsekit_Ints_ok m, matching_Check_ok m, trivial⟩) (L := []) (fun _ hE _ _ => loopsIn_of sparselaw13_awake_C_ls trivial) (sparselaw13_awake_kr m)
/-! 15 sparse/sparsekit.TwinInts -/
def sparsekit_TwinInts_H : Hints := { regs := [⟨[], [0]⟩, ⟨[], [0, 3]⟩, ⟨[], [0, 3, 4]⟩, ⟨[], [0, 3, 4, 8]⟩, ⟨[(0, 1)], [0, 3, 4]⟩, ⟨[(0, 1)], [0, 3, 4]⟩, ⟨[(0, 1)], [2]⟩], heads := [(0, [0, 3, 4])], exits := [(0, [3]), (1, [0, 3, 4])], rets := [2], pins := [], spec := [[true]] }
abbrev sparsekit_TwinInts_A : List Sh := [.a (.c (.imm (.int .i64)))]
abbrev sparsekit_TwinInts_S : Sh := .a (.c (.nm 0 (.int .i64)))
abbrev sparsekit_TwinInts_U : List Sh := [.a (.c .dead)]
def sparsekit_TwinInts_R (m : Nat) : ShLVal sparsekit_TwinInts_A → Option (sparsekit_TwinInts_S.Val × ShLVal sparsekit_TwinInts_U) := fun (x : List Int × Unit) => sparsekit_TwinInts m x.1
def sparsekit_TwinInts_T (m : Nat) : FunT := ⟨15, sparsekit_TwinInts_A, sparsekit_TwinInts_S, sparsekit_TwinInts_U, sparsekit_TwinInts_R m⟩
noncomputable def sparsekit_TwinInts_C : Code := codeOf Try.f15
noncomputable def sparsekit_TwinInts_B0 : Code := loopAt sparsekit_TwinInts_C 0 0
theorem sparsekit_TwinInts_B0_ls : loopsL sparsekit_TwinInts_B0 0 = [] := by kernel_rfl
theorem sparsekit_TwinInts_C_ls : loopsL sparsekit_TwinInts_C 0 = [(0, sparsekit_TwinInts_B0)] := by kernel_rfl
abbrev sparsekit_TwinInts_L0_I : SS := [(0, .a (.c (.imm (.int .i64)))), (3, .a (.c (.nm 0 (.int .i64)))), (4, .a (.c (.int .i64)))]
abbrev sparsekit_TwinInts_L0_O : List (Ex × SS) := [(.exit 0, [(3, .a (.c (.nm 0 (.int .i64))))])]
def sparsekit_TwinInts_L0_R (m n : Nat) : sparsekit_TwinInts_L0_I.Val → Option (outVal sparsekit_TwinInts_L0_O) := (fun (x : List Int × List Int × Int × Unit) => sparsekit_TwinInts_L0 m n x.1 x.2.1 x.2.2.1)
def sparsekit_TwinInts_L0_T (m n : Nat) : LoopT := ⟨0, sparsekit_TwinInts_L0_I, sparsekit_TwinInts_L0_O, sparsekit_TwinInts_L0_R m n⟩
theorem sparsekit_TwinInts_L0_kr (m n : Nat) (x : sparsekit_TwinInts_L0_I.Val) : roundK (mkC (outVal sparsekit_TwinInts_L0_O) []) (mkLp (outVal sparsekit_TwinInts_L0_O) []) tt 19 sparsekit_TwinInts_H sparsekit_TwinInts_B0 0 (sparsekit_TwinInts_L0_I.enc x) (Kl (ins := sparsekit_TwinInts_L0_I) (outs := sparsekit_TwinInts_L0_O) (sparsekit_TwinInts_L0_R m n)) = sparsekit_TwinInts_L0_R m (n + 1) x := by kernel_rfl
theorem sparsekit_TwinInts_L0_ok {E : Entry} (hE : EOf E 19 sparsekit_TwinInts_H.pins) (m : Nat) (n : Nat) : LoopOK Try.prog E sparsekit_TwinInts_B0 (sparsekit_TwinInts_L0_T m n) :=
  loop_ok (CO := CallOK Try.prog) hmix htt (fun _ _ _ _ h => h) hE (C := fun R => mkC R []) (L := []) (fun _ _ _ _ _ h => mkC_spec (AllF.mem (l := []) trivial) h) (fun _ _ => loopsIn_of sparsekit_TwinInts_B0_ls trivial) (fun n => (sparsekit_TwinInts_L0_R m n)) (fun _ => by kernel_rfl) (sparsekit_TwinInts_L0_kr m) n
theorem sparsekit_TwinInts_kr (m : Nat) (x : ShLVal sparsekit_TwinInts_A) : fnK (mkC (sparsekit_TwinInts_S.Val × ShLVal sparsekit_TwinInts_U) []) (mkLp (sparsekit_TwinInts_S.Val × ShLVal sparsekit_TwinInts_U) [sparsekit_TwinInts_L0_T m m]) tt sparsekit_TwinInts_H Try.f15 (encS sparsekit_TwinInts_A x) (Kd sparsekit_TwinInts_S sparsekit_TwinInts_U) = sparsekit_TwinInts_R m x := by kernel_rfl
theorem sparsekit_TwinInts_ok (m : Nat) : FunOK Try.prog (sparsekit_TwinInts_T m) :=
  fun_ok hmix htt (sparsekit_TwinInts_T m) Try.func15 (c := sparsekit_TwinInts_C) (by kernel_rfl) (by kernel_rfl) (Lc := []) (AllF.mem (l := []) trivial) (L := [sparsekit_TwinInts_L0_T m m]) (fun _ hE _ _ => loopsIn_of sparsekit_TwinInts_C_ls ⟨mkLp_all ⟨fun _ => sparsekit_TwinInts_L0_ok hE m m, trivial⟩, trivial⟩) (sparsekit_TwinInts_kr m)
/-! 16 sparse/sparsekit.TwinFloats -/
def sparsekit_TwinFloats_H : Hints := { regs := [⟨[], [0]⟩, ⟨[], [0, 3]⟩, ⟨[], [0, 3, 4]⟩, ⟨[], [0, 3, 4, 8]⟩, ⟨[(0, 1)], [0, 3, 4]⟩, ⟨[(0, 1)], [0, 3, 4]⟩, ⟨[(0, 1)], [2]⟩], heads := [(0, [0, 3, 4])], exits := [(0, [3]), (1, [0, 3, 4])], rets := [2], pins := [], spec := [[true]] }
abbrev sparsekit_TwinFloats_A : List Sh := [.a (.c (.imm (.int .u64)))]
abbrev sparsekit_TwinFloats_S : Sh := .a (.c (.nm 0 (.int .u64)))
abbrev sparsekit_TwinFloats_U : List Sh := [.a (.c .dead)]
def sparsekit_TwinFloats_R (m : Nat) : ShLVal sparsekit_TwinFloats_A → Option (sparsekit_TwinFloats_S.Val × ShLVal sparsekit_TwinFloats_U) := fun (x : List Int × Unit) => sparsekit_TwinFloats m x.1
def sparsekit_TwinFloats_T (m : Nat) : FunT := ⟨16, sparsekit_TwinFloats_A, sparsekit_TwinFloats_S, sparsekit_TwinFloats_U, sparsekit_TwinFloats_R m⟩
noncomputable def sparsekit_TwinFloats_C : Code := codeOf Try.f16
noncomputable def sparsekit_TwinFloats_B0 : Code := loopAt sparsekit_TwinFloats_C 0 0
theorem sparsekit_TwinFloats_B0_ls : loopsL sparsekit_TwinFloats_B0 0 = [] := by kernel_rfl
theorem sparsekit_TwinFloats_C_ls : loopsL sparsekit_TwinFloats_C 0 = [(0, sparsekit_TwinFloats_B0)] := by kernel_rfl
abbrev sparsekit_TwinFloats_L0_I : SS := [(0, .a (.c (.imm (.int .u64)))), (3, .a (.c (.nm 0 (.int .u64)))), (4, .a (.c (.int .i64)))]
abbrev sparsekit_TwinFloats_L0_O : List (Ex × SS) := [(.exit 0, [(3, .a (.c (.nm 0 (.int .u64))))])]
def sparsekit_TwinFloats_L0_R (m n : Nat) : sparsekit_TwinFloats_L0_I.Val → Option (outVal sparsekit_TwinFloats_L0_O) := (fun (x : List Int × List Int × Int × Unit) => sparsekit_TwinFloats_L0 m n x.1 x.2.1 x.2.2.1)
def sparsekit_TwinFloats_L0_T (m n : Nat) : LoopT := ⟨0, sparsekit_TwinFloats_L0_I, sparsekit_TwinFloats_L0_O, sparsekit_TwinFloats_L0_R m n⟩
theorem sparsekit_TwinFloats_L0_kr (m n : Nat) (x : sparsekit_TwinFloats_L0_I.Val) : roundK (mkC (outVal sparsekit_TwinFloats_L0_O) []) (mkLp (outVal sparsekit_TwinFloats_L0_O) []) tt 19 sparsekit_TwinFloats_H sparsekit_TwinFloats_B0 0 (sparsekit_TwinFloats_L0_I.enc x) (Kl (ins := sparsekit_TwinFloats_L0_I) (outs := sparsekit_TwinFloats_L0_O) (sparsekit_TwinFloats_L0_R m n)) = sparsekit_TwinFloats_L0_R m (n + 1) x := by kernel_rfl
theorem sparsekit_TwinFloats_L0_ok {E : Entry} (hE : EOf E 19 sparsekit_TwinFloats_H.pins) (m : Nat) (n : Nat) : LoopOK Try.prog E sparsekit_TwinFloats_B0 (sparsekit_TwinFloats_L0_T m n) :=
  loop_ok (CO := CallOK Try.prog) hmix htt (fun _ _ _ _ h => h) hE (C := fun R => mkC R []) (L := []) (fun _ _ _ _ _ h => mkC_spec (AllF.mem (l := []) trivial) h) (fun _ _ => loopsIn_of sparsekit_TwinFloats_B0_ls trivial) (fun n => (sparsekit_TwinFloats_L0_R m n)) (fun _ => by kernel_rfl) (sparsekit_TwinFloats_L0_kr m) n
theorem sparsekit_TwinFloats_kr (m : Nat) (x : ShLVal sparsekit_TwinFloats_A) : fnK (mkC (sparsekit_TwinFloats_S.Val × ShLVal sparsekit_TwinFloats_U) []) (mkLp (sparsekit_TwinFloats_S.Val × ShLVal sparsekit_TwinFloats_U) [sparsekit_TwinFloats_L0_T m m]) tt sparsekit_TwinFloats_H Try.f16 (encS sparsekit_TwinFloats_A x) (Kd sparsekit_TwinFloats_S sparsekit_TwinFloats_U) = sparsekit_TwinFloats_R m x := by kernel_rfl
theorem sparsekit_TwinFloats_ok (m : Nat) : FunOK Try.prog (sparsekit_TwinFloats_T m) :=
  fun_ok hmix htt (sparsekit_TwinFloats_T m) Try.func16 (c := sparsekit_TwinFloats_C) (by kernel_rfl) (by kernel_rfl) (Lc := []) (AllF.mem (l := []) trivial) (L := [sparsekit_TwinFloats_L0_T m m]) (fun _ hE _ _ => loopsIn_of sparsekit_TwinFloats_C_ls ⟨mkLp_all ⟨fun _ => sparsekit_TwinFloats_L0_ok hE m m, trivial⟩, trivial⟩) (sparsekit_TwinFloats_kr m)
/-! 6 sparse/sparsekit.TwinMatrix -/
def sparsekit_TwinMatrix_H : Hints := { regs := [⟨[], [1, 2]⟩, ⟨[], [2]⟩], heads := [], exits := [], rets := [2], pins := [], spec := [[false, false, true, true, true]] }
abbrev sparsekit_TwinMatrix_A : List Sh := [.a (.agg [(.int .i64), (.int .i64), (.imm (.int .i64)), (.imm (.int .i64)), (.imm (.int .u64))])]
abbrev sparsekit_TwinMatrix_S : Sh := .a (.agg [(.int .i64), (.int .i64), (.nm 0 (.int .i64)), (.nm 1 (.int .i64)), (.nm 2 (.int .u64))])
abbrev sparsekit_TwinMatrix_U : List Sh := [.a (.c .dead)]
def sparsekit_TwinMatrix_R (m : Nat) : ShLVal sparsekit_TwinMatrix_A → Option (sparsekit_TwinMatrix_S.Val × ShLVal sparsekit_TwinMatrix_U) := fun (x : (Int × Int × List Int × List Int × List Int × Unit) × Unit) => sparsekit_TwinMatrix m x.1.1 x.1.2.1 x.1.2.2.1 x.1.2.2.2.1 x.1.2.2.2.2.1
def sparsekit_TwinMatrix_T (m : Nat) : FunT := ⟨6, sparsekit_TwinMatrix_A, sparsekit_TwinMatrix_S, sparsekit_TwinMatrix_U, sparsekit_TwinMatrix_R m⟩
noncomputable def sparsekit_TwinMatrix_C : Code := codeOf Try.f6
theorem sparsekit_TwinMatrix_C_ls : loopsL sparsekit_TwinMatrix_C 0 = [] := by kernel_rfl
theorem sparsekit_TwinMatrix_kr (m : Nat) (x : ShLVal sparsekit_TwinMatrix_A) : fnK (mkC (sparsekit_TwinMatrix_S.Val × ShLVal sparsekit_TwinMatrix_U) [sparsekit_TwinInts_T m, sparsekit_TwinFloats_T m]) (mkLp (sparsekit_TwinMatrix_S.Val × ShLVal sparsekit_TwinMatrix_U) []) tt sparsekit_TwinMatrix_H Try.f6 (encS sparsekit_TwinMatrix_A x) (Kd sparsekit_TwinMatrix_S sparsekit_TwinMatrix_U) = sparsekit_TwinMatrix_R m x := by kernel_rfl
theorem sparsekit_TwinMatrix_ok (m : Nat) : FunOK Try.prog (sparsekit_TwinMatrix_T m) :=
  fun_ok hmix htt (sparsekit_TwinMatrix_T m) Try.func6 (c := sparsekit_TwinMatrix_C) (by kernel_rfl) (by kernel_rfl) (Lc := [sparsekit_TwinInts_T m, sparsekit_TwinFloats_T m]) (AllF.mem (l := [sparsekit_TwinInts_T m, sparsekit_TwinFloats_T m]) ⟨sparsekit_TwinInts_ok m, sparsekit_TwinFloats_ok m, trivial⟩) (L := []) (fun _ hE _ _ => loopsIn_of sparsekit_TwinMatrix_C_ls trivial) (sparsekit_TwinMatrix_kr m)
/-! 49 sparse/sparseref03.IsFinite -/
def sparseref03_IsFinite_H : Hints := { regs := [⟨[], [0]⟩, ⟨[(0, 1)], [2]⟩], heads := [], exits := [], rets := [2], pins := [], spec := [[false]] }
abbrev sparseref03_IsFinite_A : List Sh := [.a (.c (.int .u64))]
abbrev sparseref03_IsFinite_S : Sh := .a (.c .bool)
abbrev sparseref03_IsFinite_U : List Sh := [.a (.c .dead)]
def sparseref03_IsFinite_R (m : Nat) : ShLVal sparseref03_IsFinite_A → Option (sparseref03_IsFinite_S.Val × ShLVal sparseref03_IsFinite_U) := fun (x : Int × Unit) => sparseref03_IsFinite m x.1
def sparseref03_IsFinite_T (m : Nat) : FunT := ⟨49, sparseref03_IsFinite_A, sparseref03_IsFinite_S, sparseref03_IsFinite_U, sparseref03_IsFinite_R m⟩
noncomputable def sparseref03_IsFinite_C : Code := codeOf Try.f49
theorem sparseref03_IsFinite_C_ls : loopsL sparseref03_IsFinite_C 0 = [] := by kernel_rfl
theorem sparseref03_IsFinite_kr (m : Nat) (x : ShLVal sparseref03_IsFinite_A) : fnK (mkC (sparseref03_IsFinite_S.Val × ShLVal sparseref03_IsFinite_U) []) (mkLp (sparseref03_IsFinite_S.Val × ShLVal sparseref03_IsFinite_U) []) tt sparseref03_IsFinite_H Try.f49 (encS sparseref03_IsFinite_A x) (Kd sparseref03_IsFinite_S sparseref03_IsFinite_U) = sparseref03_IsFinite_R m x := by kernel_rfl
theorem sparseref03_IsFinite_ok (m : Nat) : FunOK Try.prog (sparseref03_IsFinite_T m) :=
  fun_ok hmix htt (sparseref03_IsFinite_T m) Try.func49 (c := sparseref03_IsFinite_C) (by kernel_rfl) (by kernel_rfl) (Lc := []) (AllF.mem (l := []) trivial) (L := []) (fun _ hE _ _ => loopsIn_of sparseref03_IsFinite_C_ls trivial) (sparseref03_IsFinite_kr m)
/-! 41 sparse/sparseref06.Finite -/
def sparseref06_Finite_H : Hints := { regs := [⟨[], [0]⟩, ⟨[], [0, 3]⟩, ⟨[], [0, 3, 7]⟩, ⟨[(0, 1)], [0, 3]⟩, ⟨[], [0, 3, 15]⟩, ⟨[], [2]⟩, ⟨[], [2]⟩], heads := [(0, [0, 3])], exits := [(0, []), (1, [0, 3])], rets := [2], pins := [], spec := [[false]] }
abbrev sparseref06_Finite_A : List Sh := [.a (.c (.imm (.int .u64)))]
abbrev sparseref06_Finite_S : Sh := .a (.c .bool)
abbrev sparseref06_Finite_U : List Sh := [.a (.c .dead)]
def sparseref06_Finite_R (m : Nat) : ShLVal sparseref06_Finite_A → Option (sparseref06_Finite_S.Val × ShLVal sparseref06_Finite_U) := fun (x : List Int × Unit) => sparseref06_Finite m x.1
def sparseref06_Finite_T (m : Nat) : FunT := ⟨41, sparseref06_Finite_A, sparseref06_Finite_S, sparseref06_Finite_U, sparseref06_Finite_R m⟩
noncomputable def sparseref06_Finite_C : Code := codeOf Try.f41
noncomputable def sparseref06_Finite_B0 : Code := loopAt sparseref06_Finite_C 0 0
theorem sparseref06_Finite_B0_ls : loopsL sparseref06_Finite_B0 0 = [] := by kernel_rfl
theorem sparseref06_Finite_C_ls : loopsL sparseref06_Finite_C 0 = [(0, sparseref06_Finite_B0)] := by kernel_rfl
abbrev sparseref06_Finite_L0_I : SS := [(0, .a (.c (.imm (.int .u64)))), (3, .a (.c (.int .i64)))]
abbrev sparseref06_Finite_L0_O : List (Ex × SS) := [(.ret, [(2, .a (.c .bool))]), (.exit 0, [])]
def sparseref06_Finite_L0_R (m n : Nat) : sparseref06_Finite_L0_I.Val → Option (outVal sparseref06_Finite_L0_O) := (fun (x : List Int × Int × Unit) => sparseref06_Finite_L0 m n x.1 x.2.1)
def sparseref06_Finite_L0_T (m n : Nat) : LoopT := ⟨0, sparseref06_Finite_L0_I, sparseref06_Finite_L0_O, sparseref06_Finite_L0_R m n⟩
theorem sparseref06_Finite_L0_kr (m n : Nat) (x : sparseref06_Finite_L0_I.Val) : roundK (mkC (outVal sparseref06_Finite_L0_O) [sparseref03_IsFinite_T m]) (mkLp (outVal sparseref06_Finite_L0_O) []) tt 16 sparseref06_Finite_H sparseref06_Finite_B0 0 (sparseref06_Finite_L0_I.enc x) (Kl (ins := sparseref06_Finite_L0_I) (outs := sparseref06_Finite_L0_O) (sparseref06_Finite_L0_R m n)) = sparseref06_Finite_L0_R m (n + 1) x := by kernel_rfl
theorem sparseref06_Finite_L0_ok {E : Entry} (hE : EOf E 16 sparseref06_Finite_H.pins) (m : Nat) (n : Nat) : LoopOK Try.prog E sparseref06_Finite_B0 (sparseref06_Finite_L0_T m n) :=
  loop_ok (CO := CallOK Try.prog) hmix htt (fun _ _ _ _ h => h) hE (C := fun R => mkC R [sparseref03_IsFinite_T m]) (L := []) (fun _ _ _ _ _ h => mkC_spec (AllF.mem (l := [sparseref03_IsFinite_T m]) ⟨sparseref03_IsFinite_ok m, trivial⟩) h) (fun _ _ => loopsIn_of sparseref06_Finite_B0_ls trivial) (fun n => (sparseref06_Finite_L0_R m n)) (fun _ => by kernel_rfl) (sparseref06_Finite_L0_kr m) n
theorem sparseref06_Finite_kr (m : Nat) (x : ShLVal sparseref06_Finite_A) : fnK (mkC (sparseref06_Finite_S.Val × ShLVal sparseref06_Finite_U) [sparseref03_IsFinite_T m]) (mkLp (sparseref06_Finite_S.Val × ShLVal sparseref06_Finite_U) [sparseref06_Finite_L0_T m m]) tt sparseref06_Finite_H Try.f41 (encS sparseref06_Finite_A x) (Kd sparseref06_Finite_S sparseref06_Finite_U) = sparseref06_Finite_R m x := by kernel_rfl
theorem sparseref06_Finite_ok (m : Nat) : FunOK Try.prog (sparseref06_Finite_T m) :=
  fun_ok hmix htt (sparseref06_Finite_T m) Try.func41 (c := sparseref06_Finite_C) (by kernel_rfl) (by kernel_rfl) (Lc := [sparseref03_IsFinite_T m]) (AllF.mem (l := [sparseref03_IsFinite_T m]) ⟨sparseref03_IsFinite_ok m, trivial⟩) (L := [sparseref06_Finite_L0_T m m]) (fun _ hE _ _ => loopsIn_of sparseref06_Finite_C_ls ⟨mkLp_all ⟨fun _ => sparseref06_Finite_L0_ok hE m m, trivial⟩, trivial⟩) (sparseref06_Finite_kr m)
/-! 19 sparse/sparseref09.Check -/
def sparseref09_Check_H : Hints := { regs := [⟨[], [1]⟩, ⟨[(3, 1), (8, 1), (13, 1), (18, 1)], [1, 30]⟩, ⟨[], [2]⟩, ⟨[], [1, 3]⟩, ⟨[(5, 1), (14, 1), (21, 1)], [1, 64]⟩, ⟨[], [2]⟩, ⟨[], [1, 4]⟩, ⟨[], [1, 4, 68]⟩, ⟨[(0, 1)], [1, 4]⟩, ⟨[], [1, 4, 82]⟩, ⟨[], [2]⟩, ⟨[], [1, 5]⟩, ⟨[], [1, 5, 86]⟩, ⟨[(0, 1)], [1, 5]⟩, ⟨[], [1, 5, 6]⟩, ⟨[], [1, 5, 6, 101]⟩, ⟨[(0, 1)], [1, 5, 6]⟩, ⟨[(6, 1), (16, 1), (24, 1)], [1, 5, 6, 142]⟩, ⟨[], [2]⟩, ⟨[], [146]⟩, ⟨[], [2]⟩, ⟨[], [2]⟩], heads := [(0, [1, 4]), (2, [1, 5]), (4, [1, 5, 6])], exits := [(0, [1]), (1, [1, 4]), (2, [1]), (3, [1, 5]), (4, [1, 5]), (5, [1, 5, 6])], rets := [2], pins := [], spec := [[false]] }
abbrev sparseref09_Check_A : List Sh := [.a (.agg [(.int .i64), (.int .i64), (.imm (.int .i64)), (.imm (.int .i64)), (.imm (.int .u64))])]
abbrev sparseref09_Check_S : Sh := .a (.c (.int .i64))
abbrev sparseref09_Check_U : List Sh := [.a (.c .dead)]
def sparseref09_Check_R (m : Nat) : ShLVal sparseref09_Check_A → Option (sparseref09_Check_S.Val × ShLVal sparseref09_Check_U) := fun (x : (Int × Int × List Int × List Int × List Int × Unit) × Unit) => sparseref09_Check m x.1.1 x.1.2.1 x.1.2.2.1 x.1.2.2.2.1 x.1.2.2.2.2.1
def sparseref09_Check_T (m : Nat) : FunT := ⟨19, sparseref09_Check_A, sparseref09_Check_S, sparseref09_Check_U, sparseref09_Check_R m⟩
noncomputable def sparseref09_Check_C : Code := codeOf Try.f19
noncomputable def sparseref09_Check_B0 : Code := loopAt sparseref09_Check_C 0 0
theorem sparseref09_Check_B0_ls : loopsL sparseref09_Check_B0 0 = [] := by kernel_rfl
noncomputable def sparseref09_Check_B2 : Code := loopAt sparseref09_Check_C 0 1
noncomputable def sparseref09_Check_B4 : Code := loopAt sparseref09_Check_B2 2 0
theorem sparseref09_Check_B4_ls : loopsL sparseref09_Check_B4 4 = [] := by kernel_rfl
theorem sparseref09_Check_B2_ls : loopsL sparseref09_Check_B2 2 = [(4, sparseref09_Check_B4)] := by kernel_rfl
theorem sparseref09_Check_C_ls : loopsL sparseref09_Check_C 0 = [(0, sparseref09_Check_B0), (2, sparseref09_Check_B2)] := by kernel_rfl
abbrev sparseref09_Check_L2_I : SS := [(1, .a (.bx 0 [(.int .i64), (.int .i64), (.imm (.int .i64)), (.imm (.int .i64)), (.imm (.int .u64))])), (5, .a (.c (.int .i64))), (6, .a (.c (.int .i64)))]
abbrev sparseref09_Check_L2_O : List (Ex × SS) := [(.ret, [(2, .a (.c (.int .i64)))]), (.exit 4, [(1, .a (.bx 0 [(.int .i64), (.int .i64), (.imm (.int .i64)), (.imm (.int .i64)), (.imm (.int .u64))])), (5, .a (.c (.int .i64)))])]
def sparseref09_Check_L2_R (m n : Nat) : sparseref09_Check_L2_I.Val → Option (outVal sparseref09_Check_L2_O) := (fun (x : (Int × Int × List Int × List Int × List Int × Unit) × Int × Int × Unit) => sparseref09_Check_L2 m n x.1.1 x.1.2.1 x.1.2.2.1 x.1.2.2.2.1 x.1.2.2.2.2.1 x.2.1 x.2.2.1)
def sparseref09_Check_L2_T (m n : Nat) : LoopT := ⟨4, sparseref09_Check_L2_I, sparseref09_Check_L2_O, sparseref09_Check_L2_R m n⟩
theorem sparseref09_Check_L2_kr (m n : Nat) (x : sparseref09_Check_L2_I.Val) : roundK (mkC (outVal sparseref09_Check_L2_O) [sparseref06_Finite_T m]) (mkLp (outVal sparseref09_Check_L2_O) []) tt 147 sparseref09_Check_H sparseref09_Check_B4 4 (sparseref09_Check_L2_I.enc x) (Kl (ins := sparseref09_Check_L2_I) (outs := sparseref09_Check_L2_O) (sparseref09_Check_L2_R m n)) = sparseref09_Check_L2_R m (n + 1) x := by kernel_rfl
theorem sparseref09_Check_L2_ok {E : Entry} (hE : EOf E 147 sparseref09_Check_H.pins) (m : Nat) (n : Nat) : LoopOK Try.prog E sparseref09_Check_B4 (sparseref09_Check_L2_T m n) :=
  loop_ok (CO := CallOK Try.prog) hmix htt (fun _ _ _ _ h => h) hE (C := fun R => mkC R [sparseref06_Finite_T m]) (L := []) (fun _ _ _ _ _ h => mkC_spec (AllF.mem (l := [sparseref06_Finite_T m]) ⟨sparseref06_Finite_ok m, trivial⟩) h) (fun _ _ => loopsIn_of sparseref09_Check_B4_ls trivial) (fun n => (sparseref09_Check_L2_R m n)) (fun _ => by kernel_rfl) (sparseref09_Check_L2_kr m) n
abbrev sparseref09_Check_L1_I : SS := [(1, .a (.bx 0 [(.int .i64), (.int .i64), (.imm (.int .i64)), (.imm (.int .i64)), (.imm (.int .u64))])), (5, .a (.c (.int .i64)))]
abbrev sparseref09_Check_L1_O : List (Ex × SS) := [(.ret, [(2, .a (.c (.int .i64)))]), (.exit 2, [(1, .a (.bx 0 [(.int .i64), (.int .i64), (.imm (.int .i64)), (.imm (.int .i64)), (.imm (.int .u64))]))])]
def sparseref09_Check_L1_R (m n : Nat) : sparseref09_Check_L1_I.Val → Option (outVal sparseref09_Check_L1_O) := (fun (x : (Int × Int × List Int × List Int × List Int × Unit) × Int × Unit) => sparseref09_Check_L1 m n x.1.1 x.1.2.1 x.1.2.2.1 x.1.2.2.2.1 x.1.2.2.2.2.1 x.2.1)
def sparseref09_Check_L1_T (m n : Nat) : LoopT := ⟨2, sparseref09_Check_L1_I, sparseref09_Check_L1_O, sparseref09_Check_L1_R m n⟩
theorem sparseref09_Check_L1_kr (m n : Nat) (x : sparseref09_Check_L1_I.Val) : roundK (mkC (outVal sparseref09_Check_L1_O) [sparseref06_Finite_T m]) (mkLp (outVal sparseref09_Check_L1_O) [sparseref09_Check_L2_T m m]) tt 147 sparseref09_Check_H sparseref09_Check_B2 2 (sparseref09_Check_L1_I.enc x) (Kl (ins := sparseref09_Check_L1_I) (outs := sparseref09_Check_L1_O) (sparseref09_Check_L1_R m n)) = sparseref09_Check_L1_R m (n + 1) x := by kernel_rfl
theorem sparseref09_Check_L1_ok {E : Entry} (hE : EOf E 147 sparseref09_Check_H.pins) (m : Nat) (n : Nat) : LoopOK Try.prog E sparseref09_Check_B2 (sparseref09_Check_L1_T m n) :=
  loop_ok (CO := CallOK Try.prog) hmix htt (fun _ _ _ _ h => h) hE (C := fun R => mkC R [sparseref06_Finite_T m]) (L := [sparseref09_Check_L2_T m m]) (fun _ _ _ _ _ h => mkC_spec (AllF.mem (l := [sparseref06_Finite_T m]) ⟨sparseref06_Finite_ok m, trivial⟩) h) (fun _ _ => loopsIn_of sparseref09_Check_B2_ls ⟨mkLp_all ⟨fun _ => sparseref09_Check_L2_ok hE m m, trivial⟩, trivial⟩) (fun n => (sparseref09_Check_L1_R m n)) (fun _ => by kernel_rfl) (sparseref09_Check_L1_kr m) n
abbrev sparseref09_Check_L0_I : SS := [(1, .a (.bx 0 [(.int .i64), (.int .i64), (.imm (.int .i64)), (.imm (.int .i64)), (.imm (.int .u64))])), (4, .a (.c (.int .i64)))]
abbrev sparseref09_Check_L0_O : List (Ex × SS) := [(.ret, [(2, .a (.c (.int .i64)))]), (.exit 0, [(1, .a (.bx 0 [(.int .i64), (.int .i64), (.imm (.int .i64)), (.imm (.int .i64)), (.imm (.int .u64))]))])]
def sparseref09_Check_L0_R (m n : Nat) : sparseref09_Check_L0_I.Val → Option (outVal sparseref09_Check_L0_O) := (fun (x : (Int × Int × List Int × List Int × List Int × Unit) × Int × Unit) => sparseref09_Check_L0 m n x.1.1 x.1.2.1 x.1.2.2.1 x.1.2.2.2.1 x.1.2.2.2.2.1 x.2.1)
def sparseref09_Check_L0_T (m n : Nat) : LoopT := ⟨0, sparseref09_Check_L0_I, sparseref09_Check_L0_O, sparseref09_Check_L0_R m n⟩
theorem sparseref09_Check_L0_kr (m n : Nat) (x : sparseref09_Check_L0_I.Val) : roundK (mkC (outVal sparseref09_Check_L0_O) [sparseref06_Finite_T m]) (mkLp (outVal sparseref09_Check_L0_O) []) tt 147 sparseref09_Check_H sparseref09_Check_B0 0 (sparseref09_Check_L0_I.enc x) (Kl (ins := sparseref09_Check_L0_I) (outs := sparseref09_Check_L0_O) (sparseref09_Check_L0_R m n)) = sparseref09_Check_L0_R m (n + 1) x := by kernel_rfl
theorem sparseref09_Check_L0_ok {E : Entry} (hE : EOf E 147 sparseref09_Check_H.pins) (m : Nat) (n : Nat) : LoopOK Try.prog E sparseref09_Check_B0 (sparseref09_Check_L0_T m n) :=
  loop_ok (CO := CallOK Try.prog) hmix htt (fun _ _ _ _ h => h) hE (C := fun R => mkC R [sparseref06_Finite_T m]) (L := []) (fun _ _ _ _ _ h => mkC_spec (AllF.mem (l := [sparseref06_Finite_T m]) ⟨sparseref06_Finite_ok m, trivial⟩) h) (fun _ _ => loopsIn_of sparseref09_Check_B0_ls trivial) (fun n => (sparseref09_Check_L0_R m n)) (fun _ => by kernel_rfl) (sparseref09_Check_L0_kr m) n
theorem sparseref09_Check_kr (m : Nat) (x : ShLVal sparseref09_Check_A) : fnK (mkC (sparseref09_Check_S.Val × ShLVal sparseref09_Check_U) [sparseref06_Finite_T m]) (mkLp (sparseref09_Check_S.Val × ShLVal sparseref09_Check_U) [sparseref09_Check_L0_T m m, sparseref09_Check_L1_T m m]) tt sparseref09_Check_H Try.f19 (encS sparseref09_Check_A x) (Kd sparseref09_Check_S sparseref09_Check_U) = sparseref09_Check_R m x := by kernel_rfl
theorem sparseref09_Check_ok (m : Nat) : FunOK Try.prog (sparseref09_Check_T m) :=
  fun_ok hmix htt (sparseref09_Check_T m) Try.func19 (c := sparseref09_Check_C) (by kernel_rfl) (by kernel_rfl) (Lc := [sparseref06_Finite_T m]) (AllF.mem (l := [sparseref06_Finite_T m]) ⟨sparseref06_Finite_ok m, trivial⟩) (L := [sparseref09_Check_L0_T m m, sparseref09_Check_L1_T m m]) (fun _ hE _ _ => loopsIn_of sparseref09_Check_C_ls ⟨mkLp_all ⟨fun _ => sparseref09_Check_L0_ok hE m m, fun h => absurd (show (2 : Nat) = 0 from h) (by decide), trivial⟩, mkLp_all ⟨fun h => absurd (show (0 : Nat) = 2 from h) (by decide), fun _ => sparseref09_Check_L1_ok hE m m, trivial⟩, trivial⟩) (sparseref09_Check_kr m)
/-! 42 sparse/sparseref13.none -/
def sparseref13_none_H : Hints := { regs := [⟨[], [0]⟩, ⟨[], [0, 3]⟩, ⟨[], [0, 3, 4]⟩, ⟨[], [0, 3, 4, 7]⟩, ⟨[(0, 1)], [0, 3, 4]⟩, ⟨[(0, 1)], [0, 3, 4]⟩, ⟨[(0, 1)], [2]⟩], heads := [(0, [0, 3, 4])], exits := [(0, [3]), (1, [0, 3, 4])], rets := [2], pins := [], spec := [[true]] }
abbrev sparseref13_none_A : List Sh := [.a (.c (.int .i64))]
abbrev sparseref13_none_S : Sh := .a (.c (.nm 0 (.int .i64)))
abbrev sparseref13_none_U : List Sh := [.a (.c .dead)]
def sparseref13_none_R (m : Nat) : ShLVal sparseref13_none_A → Option (sparseref13_none_S.Val × ShLVal sparseref13_none_U) := fun (x : Int × Unit) => sparseref13_none m x.1
def sparseref13_none_T (m : Nat) : FunT := ⟨42, sparseref13_none_A, sparseref13_none_S, sparseref13_none_U, sparseref13_none_R m⟩
noncomputable def sparseref13_none_C : Code := codeOf Try.f42
noncomputable def sparseref13_none_B0 : Code := loopAt sparseref13_none_C 0 0
theorem sparseref13_none_B0_ls : loopsL sparseref13_none_B0 0 = [] := by kernel_rfl
theorem sparseref13_none_C_ls : loopsL sparseref13_none_C 0 = [(0, sparseref13_none_B0)] := by kernel_rfl
abbrev sparseref13_none_L0_I : SS := [(0, .a (.c (.int .i64))), (3, .a (.c (.nm 0 (.int .i64)))), (4, .a (.c (.int .i64)))]
abbrev sparseref13_none_L0_O : List (Ex × SS) := [(.exit 0, [(3, .a (.c (.nm 0 (.int .i64))))])]
def sparseref13_none_L0_R (m n : Nat) : sparseref13_none_L0_I.Val → Option (outVal sparseref13_none_L0_O) := (fun (x : Int × List Int × Int × Unit) => sparseref13_none_L0 m n x.1 x.2.1 x.2.2.1)
def sparseref13_none_L0_T (m n : Nat) : LoopT := ⟨0, sparseref13_none_L0_I, sparseref13_none_L0_O, sparseref13_none_L0_R m n⟩
theorem sparseref13_none_L0_kr (m n : Nat) (x : sparseref13_none_L0_I.Val) : roundK (mkC (outVal sparseref13_none_L0_O) []) (mkLp (outVal sparseref13_none_L0_O) []) tt 14 sparseref13_none_H sparseref13_none_B0 0 (sparseref13_none_L0_I.enc x) (Kl (ins := sparseref13_none_L0_I) (outs := sparseref13_none_L0_O) (sparseref13_none_L0_R m n)) = sparseref13_none_L0_R m (n + 1) x := by kernel_rfl
theorem sparseref13_none_L0_ok {E : Entry} (hE : EOf E 14 sparseref13_none_H.pins) (m : Nat) (n : Nat) : LoopOK Try.prog E sparseref13_none_B0 (sparseref13_none_L0_T m n) :=
  loop_ok (CO := CallOK Try.prog) hmix htt (fun _ _ _ _ h => h) hE (C := fun R => mkC R []) (L := []) (fun _ _ _ _ _ h => mkC_spec (AllF.mem (l := []) trivial) h) (fun _ _ => loopsIn_of sparseref13_none_B0_ls trivial) (fun n => (sparseref13_none_L0_R m n)) (fun _ => by kernel_rfl) (sparseref13_none_L0_kr m) n
theorem sparseref13_none_kr (m : Nat) (x : ShLVal sparseref13_none_A) : fnK (mkC (sparseref13_none_S.Val × ShLVal sparseref13_none_U) []) (mkLp (sparseref13_none_S.Val × ShLVal sparseref13_none_U) [sparseref13_none_L0_T m m]) tt sparseref13_none_H Try.f42 (encS sparseref13_none_A x) (Kd sparseref13_none_S sparseref13_none_U) = sparseref13_none_R m x := by kernel_rfl
theorem sparseref13_none_ok (m : Nat) : FunOK Try.prog (sparseref13_none_T m) :=
  fun_ok hmix htt (sparseref13_none_T m) Try.func42 (c := sparseref13_none_C) (by kernel_rfl) (by kernel_rfl) (Lc := []) (AllF.mem (l := []) trivial) (L := [sparseref13_none_L0_T m m]) (fun _ hE _ _ => loopsIn_of sparseref13_none_C_ls ⟨mkLp_all ⟨fun _ => sparseref13_none_L0_ok hE m m, trivial⟩, trivial⟩) (sparseref13_none_kr m)
/-! 43 __sparse/sparseref13.Search_.Try -/
def sparseref13_Search_Try_H : Hints := { regs := [⟨[], [0, 1]⟩, ⟨[], [0, 1, 5]⟩, ⟨[], [0, 1, 5, 25]⟩, ⟨[(0, 1)], [0, 1, 5]⟩, ⟨[], [0, 1, 5, 6]⟩, ⟨[], [0, 1, 5, 6, 42]⟩, ⟨[], [0, 1, 5, 6]⟩, ⟨[(8, 1)], [0, 1, 5, 6, 67]⟩, ⟨[], [0]⟩, ⟨[], [0, 4]⟩, ⟨[], [0, 4]⟩], heads := [(0, [0, 1, 5])], exits := [(0, [0]), (1, [0, 1, 5])], rets := [0, 4], pins := [0], spec := [[false]] }
abbrev sparseref13_Search_Try_A : List Sh := [.a (.bx 0 [(.int .i64), (.int .i64), (.imm (.int .i64)), (.imm (.int .i64)), (.imm (.int .u64)), (.nm 1 (.int .i64)), (.nm 2 (.int .i64)), (.nm 3 .bool)]), .a (.c (.int .i64))]
abbrev sparseref13_Search_Try_S : Sh := .a (.c .bool)
abbrev sparseref13_Search_Try_U : List Sh := [.a (.bx 0 [(.int .i64), (.int .i64), (.imm (.int .i64)), (.imm (.int .i64)), (.imm (.int .u64)), (.nm 1 (.int .i64)), (.nm 2 (.int .i64)), (.nm 3 .bool)]), .a (.c .dead)]
def sparseref13_Search_Try_R (m : Nat) : ShLVal sparseref13_Search_Try_A → Option (sparseref13_Search_Try_S.Val × ShLVal sparseref13_Search_Try_U) := fun (x : (Int × Int × List Int × List Int × List Int × List Int × List Int × List Bool × Unit) × Int × Unit) => sparseref13_Search_Try m x.1.1 x.1.2.1 x.1.2.2.1 x.1.2.2.2.1 x.1.2.2.2.2.1 x.1.2.2.2.2.2.1 x.1.2.2.2.2.2.2.1 x.1.2.2.2.2.2.2.2.1 x.2.1
def sparseref13_Search_Try_T (m : Nat) : FunT := ⟨43, sparseref13_Search_Try_A, sparseref13_Search_Try_S, sparseref13_Search_Try_U, sparseref13_Search_Try_R m⟩
noncomputable def sparseref13_Search_Try_C : Code := codeOf Try.f43
noncomputable def sparseref13_Search_Try_B0 : Code := loopAt sparseref13_Search_Try_C 0 0
theorem sparseref13_Search_Try_B0_ls : loopsL sparseref13_Search_Try_B0 0 = [] := by kernel_rfl
theorem sparseref13_Search_Try_C_ls : loopsL sparseref13_Search_Try_C 0 = [(0, sparseref13_Search_Try_B0)] := by kernel_rfl
abbrev sparseref13_Search_Try_L0_I : SS := [(0, .a (.bx 0 [(.int .i64), (.int .i64), (.imm (.int .i64)), (.imm (.int .i64)), (.imm (.int .u64)), (.nm 1 (.int .i64)), (.nm 2 (.int .i64)), (.nm 3 .bool)])), (1, .a (.c (.int .i64))), (5, .a (.c (.int .i64)))]
abbrev sparseref13_Search_Try_L0_O : List (Ex × SS) := [(.ret, [(0, .a (.bx 0 [(.int .i64), (.int .i64), (.imm (.int .i64)), (.imm (.int .i64)), (.imm (.int .u64)), (.nm 1 (.int .i64)), (.nm 2 (.int .i64)), (.nm 3 .bool)])), (4, .a (.c .bool))]), (.exit 0, [(0, .a (.bx 0 [(.int .i64), (.int .i64), (.imm (.int .i64)), (.imm (.int .i64)), (.imm (.int .u64)), (.nm 1 (.int .i64)), (.nm 2 (.int .i64)), (.nm 3 .bool)]))])]
def sparseref13_Search_Try_L0_R (m n : Nat) : sparseref13_Search_Try_L0_I.Val → Option (outVal sparseref13_Search_Try_L0_O) := (fun (x : (Int × Int × List Int × List Int × List Int × List Int × List Int × List Bool × Unit) × Int × Int × Unit) => sparseref13_Search_Try_L0 (fun a0 a1 a2 a3 a4 a5 a6 a7 a8 => sparseref13_Search_Try m a0 a1 a2 a3 a4 a5 a6 a7 a8) m n x.1.1 x.1.2.1 x.1.2.2.1 x.1.2.2.2.1 x.1.2.2.2.2.1 x.1.2.2.2.2.2.1 x.1.2.2.2.2.2.2.1 x.1.2.2.2.2.2.2.2.1 x.2.1 x.2.2.1)
def sparseref13_Search_Try_L0_T (m n : Nat) : LoopT := ⟨0, sparseref13_Search_Try_L0_I, sparseref13_Search_Try_L0_O, sparseref13_Search_Try_L0_R m n⟩
theorem sparseref13_Search_Try_L0_kr (m n : Nat) (x : sparseref13_Search_Try_L0_I.Val) : roundK (mkC (outVal sparseref13_Search_Try_L0_O) [sparseref13_Search_Try_T m]) (mkLp (outVal sparseref13_Search_Try_L0_O) []) tt 82 sparseref13_Search_Try_H sparseref13_Search_Try_B0 0 (sparseref13_Search_Try_L0_I.enc x) (Kl (ins := sparseref13_Search_Try_L0_I) (outs := sparseref13_Search_Try_L0_O) (sparseref13_Search_Try_L0_R m n)) = sparseref13_Search_Try_L0_R m (n + 1) x := by kernel_rfl
theorem sparseref13_Search_Try_L0_ok {E : Entry} (hE : EOf E 82 sparseref13_Search_Try_H.pins) (m : Nat) (hself : FunOK Try.prog (sparseref13_Search_Try_T m)) (n : Nat) : LoopOK Try.prog E sparseref13_Search_Try_B0 (sparseref13_Search_Try_L0_T m n) :=
  loop_ok (CO := CallOK Try.prog) hmix htt (fun _ _ _ _ h => h) hE (C := fun R => mkC R [sparseref13_Search_Try_T m]) (L := []) (fun _ _ _ _ _ h => mkC_spec (AllF.mem (l := [sparseref13_Search_Try_T m]) ⟨hself, trivial⟩) h) (fun _ _ => loopsIn_of sparseref13_Search_Try_B0_ls trivial) (fun n => (sparseref13_Search_Try_L0_R m n)) (fun _ => by kernel_rfl) (sparseref13_Search_Try_L0_kr m) n
theorem sparseref13_Search_Try_kr (m : Nat) (x : ShLVal sparseref13_Search_Try_A) : fnK (mkC (sparseref13_Search_Try_S.Val × ShLVal sparseref13_Search_Try_U) [sparseref13_Search_Try_T m]) (mkLp (sparseref13_Search_Try_S.Val × ShLVal sparseref13_Search_Try_U) [sparseref13_Search_Try_L0_T m m]) tt sparseref13_Search_Try_H Try.f43 (encS sparseref13_Search_Try_A x) (Kd sparseref13_Search_Try_S sparseref13_Search_Try_U) = sparseref13_Search_Try_R (m + 1) x := by kernel_rfl
theorem sparseref13_Search_Try_ok : ∀ m : Nat, FunOK Try.prog (sparseref13_Search_Try_T m)
  | 0 => fun _ _ h => by cases h
  | m + 1 => by
    have hself := sparseref13_Search_Try_ok m
    exact fun_ok hmix htt (sparseref13_Search_Try_T (m + 1)) Try.func43 (c := sparseref13_Search_Try_C) (by kernel_rfl) (by kernel_rfl) (Lc := [sparseref13_Search_Try_T m]) (AllF.mem (l := [sparseref13_Search_Try_T m]) ⟨hself, trivial⟩) (L := [sparseref13_Search_Try_L0_T m m]) (fun _ hE _ _ => loopsIn_of sparseref13_Search_Try_C_ls ⟨mkLp_all ⟨fun _ => sparseref13_Search_Try_L0_ok hE m hself m, trivial⟩, trivial⟩) (sparseref13_Search_Try_kr m)
/-! 20 sparse/sparseref13.Find -/
def sparseref13_Find_H : Hints := { regs := [⟨[], [1]⟩, ⟨[], [1, 3]⟩, ⟨[], [1, 3, 4]⟩, ⟨[], [1, 3, 4, 17]⟩, ⟨[(0, 1)], [1, 3, 4]⟩, ⟨[], [1, 3, 4]⟩, ⟨[], [1, 3, 4]⟩, ⟨[(0, 1)], [2]⟩], heads := [(0, [1, 3, 4])], exits := [(0, [3]), (1, [1, 3, 4])], rets := [2], pins := [], spec := [[false, false, false, false, false, true, true, true]] }
abbrev sparseref13_Find_A : List Sh := [.a (.agg [(.int .i64), (.int .i64), (.imm (.int .i64)), (.imm (.int .i64)), (.imm (.int .u64))])]
abbrev sparseref13_Find_S : Sh := .a (.bx 0 [(.int .i64), (.int .i64), (.imm (.int .i64)), (.imm (.int .i64)), (.imm (.int .u64)), (.nm 1 (.int .i64)), (.nm 2 (.int .i64)), (.nm 3 .bool)])
abbrev sparseref13_Find_U : List Sh := [.a (.c .dead)]
def sparseref13_Find_R (m : Nat) : ShLVal sparseref13_Find_A → Option (sparseref13_Find_S.Val × ShLVal sparseref13_Find_U) := fun (x : (Int × Int × List Int × List Int × List Int × Unit) × Unit) => sparseref13_Find m x.1.1 x.1.2.1 x.1.2.2.1 x.1.2.2.2.1 x.1.2.2.2.2.1
def sparseref13_Find_T (m : Nat) : FunT := ⟨20, sparseref13_Find_A, sparseref13_Find_S, sparseref13_Find_U, sparseref13_Find_R m⟩
noncomputable def sparseref13_Find_C : Code := codeOf Try.f20
noncomputable def sparseref13_Find_B0 : Code := loopAt sparseref13_Find_C 0 0
theorem sparseref13_Find_B0_ls : loopsL sparseref13_Find_B0 0 = [] := by kernel_rfl
theorem sparseref13_Find_C_ls : loopsL sparseref13_Find_C 0 = [(0, sparseref13_Find_B0)] := by kernel_rfl
abbrev sparseref13_Find_L0_I : SS := [(1, .a (.bx 0 [(.int .i64), (.int .i64), (.imm (.int .i64)), (.imm (.int .i64)), (.imm (.int .u64))])), (3, .a (.bx 1 [(.int .i64), (.int .i64), (.imm (.int .i64)), (.imm (.int .i64)), (.imm (.int .u64)), (.nm 2 (.int .i64)), (.nm 3 (.int .i64)), (.nm 4 .bool)])), (4, .a (.c (.int .i64)))]
abbrev sparseref13_Find_L0_O : List (Ex × SS) := [(.exit 0, [(3, .a (.bx 0 [(.int .i64), (.int .i64), (.imm (.int .i64)), (.imm (.int .i64)), (.imm (.int .u64)), (.nm 1 (.int .i64)), (.nm 2 (.int .i64)), (.nm 3 .bool)]))])]
def sparseref13_Find_L0_R (m n : Nat) : sparseref13_Find_L0_I.Val → Option (outVal sparseref13_Find_L0_O) := (fun (x : (Int × Int × List Int × List Int × List Int × Unit) × (Int × Int × List Int × List Int × List Int × List Int × List Int × List Bool × Unit) × Int × Unit) => sparseref13_Find_L0 m n x.1.1 x.1.2.1 x.1.2.2.1 x.1.2.2.2.1 x.1.2.2.2.2.1 x.2.1.1 x.2.1.2.1 x.2.1.2.2.1 x.2.1.2.2.2.1 x.2.1.2.2.2.2.1 x.2.1.2.2.2.2.2.1 x.2.1.2.2.2.2.2.2.1 x.2.1.2.2.2.2.2.2.2.1 x.2.2.1)
def sparseref13_Find_L0_T (m n : Nat) : LoopT := ⟨0, sparseref13_Find_L0_I, sparseref13_Find_L0_O, sparseref13_Find_L0_R m n⟩
theorem sparseref13_Find_L0_kr (m n : Nat) (x : sparseref13_Find_L0_I.Val) : roundK (mkC (outVal sparseref13_Find_L0_O) [sparseref13_none_T m, sparseref13_Search_Try_T m]) (mkLp (outVal sparseref13_Find_L0_O) []) tt 30 sparseref13_Find_H sparseref13_Find_B0 0 (sparseref13_Find_L0_I.enc x) (Kl (ins := sparseref13_Find_L0_I) (outs := sparseref13_Find_L0_O) (sparseref13_Find_L0_R m n)) = sparseref13_Find_L0_R m (n + 1) x := by kernel_rfl
theorem sparseref13_Find_L0_ok {E : Entry} (hE : EOf E 30 sparseref13_Find_H.pins) (m : Nat) (n : Nat) : LoopOK Try.prog E sparseref13_Find_B0 (sparseref13_Find_L0_T m n) :=
  loop_ok (CO := CallOK Try.prog) hmix htt (fun _ _ _ _ h => h) hE (C := fun R => mkC R [sparseref13_none_T m, sparseref13_Search_Try_T m]) (L := []) (fun _ _ _ _ _ h => mkC_spec (AllF.mem (l := [sparseref13_none_T m, sparseref13_Search_Try_T m]) ⟨sparseref13_none_ok m, sparseref13_Search_Try_ok m, trivial⟩) h) (fun _ _ => loopsIn_of sparseref13_Find_B0_ls trivial) (fun n => (sparseref13_Find_L0_R m n)) (fun _ => by kernel_rfl) (sparseref13_Find_L0_kr m) n
theorem sparseref13_Find_kr (m : Nat) (x : ShLVal sparseref13_Find_A) : fnK (mkC (sparseref13_Find_S.Val × ShLVal sparseref13_Find_U) [sparseref13_none_T m, sparseref13_Search_Try_T m]) (mkLp (sparseref13_Find_S.Val × ShLVal sparseref13_Find_U) [sparseref13_Find_L0_T m m]) tt sparseref13_Find_H Try.f20 (encS sparseref13_Find_A x) (Kd sparseref13_Find_S sparseref13_Find_U) = sparseref13_Find_R m x := by kernel_rfl
theorem sparseref13_Find_ok (m : Nat) : FunOK Try.prog (sparseref13_Find_T m) :=
  fun_ok hmix htt (sparseref13_Find_T m) Try.func20 (c := sparseref13_Find_C) (by kernel_rfl) (by kernel_rfl) (Lc := [sparseref13_none_T m, sparseref13_Search_Try_T m]) (AllF.mem (l := [sparseref13_none_T m, sparseref13_Search_Try_T m]) ⟨sparseref13_none_ok m, sparseref13_Search_Try_ok m, trivial⟩) (L := [sparseref13_Find_L0_T m m]) (fun _ hE _ _ => loopsIn_of sparseref13_Find_C_ls ⟨mkLp_all ⟨fun _ => sparseref13_Find_L0_ok hE m m, trivial⟩, trivial⟩) (sparseref13_Find_kr m)
/-! 8 sparse/sparseref13.Maximum -/
def sparseref13_Maximum_H : Hints := { regs := [⟨[], [1]⟩, ⟨[], [1, 4]⟩, ⟨[], [1, 4, 8]⟩, ⟨[(0, 1)], [2, 3]⟩, ⟨[(4, 1)], [2, 3, 11]⟩], heads := [], exits := [], rets := [2, 3, 11], pins := [], spec := [[true], [false]] }
abbrev sparseref13_Maximum_A : List Sh := [.a (.agg [(.int .i64), (.int .i64), (.imm (.int .i64)), (.imm (.int .i64)), (.imm (.int .u64))])]
abbrev sparseref13_Maximum_S : Sh := .tup [(.c (.nm 0 (.int .i64))), (.c (.int .i64))]
abbrev sparseref13_Maximum_U : List Sh := [.a (.c .dead)]
def sparseref13_Maximum_R (m : Nat) : ShLVal sparseref13_Maximum_A → Option (sparseref13_Maximum_S.Val × ShLVal sparseref13_Maximum_U) := fun (x : (Int × Int × List Int × List Int × List Int × Unit) × Unit) => sparseref13_Maximum m x.1.1 x.1.2.1 x.1.2.2.1 x.1.2.2.2.1 x.1.2.2.2.2.1
def sparseref13_Maximum_T (m : Nat) : FunT := ⟨8, sparseref13_Maximum_A, sparseref13_Maximum_S, sparseref13_Maximum_U, sparseref13_Maximum_R m⟩
noncomputable def sparseref13_Maximum_C : Code := codeOf Try.f8
theorem sparseref13_Maximum_C_ls : loopsL sparseref13_Maximum_C 0 = [] := by kernel_rfl
theorem sparseref13_Maximum_kr (m : Nat) (x : ShLVal sparseref13_Maximum_A) : fnK (mkC (sparseref13_Maximum_S.Val × ShLVal sparseref13_Maximum_U) [sparseref09_Check_T m, sparseref13_Find_T m]) (mkLp (sparseref13_Maximum_S.Val × ShLVal sparseref13_Maximum_U) []) tt sparseref13_Maximum_H Try.f8 (encS sparseref13_Maximum_A x) (Kd sparseref13_Maximum_S sparseref13_Maximum_U) = sparseref13_Maximum_R m x := by kernel_rfl
theorem sparseref13_Maximum_ok (m : Nat) : FunOK Try.prog (sparseref13_Maximum_T m) :=
  fun_ok hmix htt (sparseref13_Maximum_T m) Try.func8 (c := sparseref13_Maximum_C) (by kernel_rfl) (by kernel_rfl) (Lc := [sparseref09_Check_T m, sparseref13_Find_T m]) (AllF.mem (l := [sparseref09_Check_T m, sparseref13_Find_T m]) ⟨sparseref09_Check_ok m, sparseref13_Find_ok m, trivial⟩) (L := []) (fun _ hE _ _ => loopsIn_of sparseref13_Maximum_C_ls trivial) (sparseref13_Maximum_kr m)
/-! 23 sparse/sparseref13.Reach -/
def sparseref13_Reach_H : Hints := { regs := [⟨[], [0]⟩, ⟨[], [0, 4, 5]⟩, ⟨[], [0, 4, 5, 6]⟩, ⟨[], [0, 4, 5, 6, 7]⟩, ⟨[], [0, 4, 5, 6, 7, 30]⟩, ⟨[(0, 1)], [0, 4, 5, 6, 7]⟩, ⟨[], [0, 4, 5, 6, 7, 40]⟩, ⟨[], [0, 4, 5, 6, 7]⟩, ⟨[(0, 1)], [0, 4, 5, 6, 7]⟩, ⟨[], [0, 4, 5, 6, 50]⟩, ⟨[], [0, 4, 5, 6, 8]⟩, ⟨[(4, 3)], [0, 4, 5, 6, 8]⟩, ⟨[], [0, 4, 5, 6, 8, 9]⟩, ⟨[], [0, 4, 5, 6, 8, 9, 80]⟩, ⟨[(0, 1)], [0, 4, 5, 6, 8, 9]⟩, ⟨[], [0, 4, 5, 6, 8, 9, 10]⟩, ⟨[], [0, 4, 5, 6, 8, 9, 10]⟩, ⟨[(4, 1)], [0, 4, 5, 6, 8, 9, 11]⟩, ⟨[(2, 1)], [0, 4, 5, 6, 8, 9, 11, 109]⟩, ⟨[], [0, 4, 5, 6, 8, 9, 11]⟩, ⟨[(0, 1), (1, 1)], [0, 4, 5, 6, 8, 9]⟩, ⟨[(0, 1), (1, 1)], [0, 2, 3]⟩], heads := [(0, [0, 4, 5, 6, 7]), (2, [0, 4, 5, 6]), (4, [0, 4, 5, 6, 8, 9])], exits := [(0, [0, 4, 5, 6]), (1, [0, 4, 5, 6, 7]), (2, [0, 4, 5]), (3, [0, 4, 5, 6]), (4, [0, 4, 5, 6]), (5, [0, 4, 5, 6, 8, 9])], rets := [0, 2, 3], pins := [0], spec := [[true], [true]] }
abbrev sparseref13_Reach_A : List Sh := [.a (.bx 0 [(.int .i64), (.int .i64), (.imm (.int .i64)), (.imm (.int .i64)), (.imm (.int .u64)), (.nm 1 (.int .i64)), (.nm 2 (.int .i64)), (.nm 3 .bool)])]
abbrev sparseref13_Reach_S : Sh := .tup [(.c (.nm 0 .bool)), (.c (.nm 1 .bool))]
abbrev sparseref13_Reach_U : List Sh := [.a (.bx 2 [(.int .i64), (.int .i64), (.imm (.int .i64)), (.imm (.int .i64)), (.imm (.int .u64)), (.nm 3 (.int .i64)), (.nm 4 (.int .i64)), (.nm 5 .bool)])]
def sparseref13_Reach_R (m : Nat) : ShLVal sparseref13_Reach_A → Option (sparseref13_Reach_S.Val × ShLVal sparseref13_Reach_U) := fun (x : (Int × Int × List Int × List Int × List Int × List Int × List Int × List Bool × Unit) × Unit) => sparseref13_Reach m x.1.1 x.1.2.1 x.1.2.2.1 x.1.2.2.2.1 x.1.2.2.2.2.1 x.1.2.2.2.2.2.1 x.1.2.2.2.2.2.2.1 x.1.2.2.2.2.2.2.2.1
def sparseref13_Reach_T (m : Nat) : FunT := ⟨23, sparseref13_Reach_A, sparseref13_Reach_S, sparseref13_Reach_U, sparseref13_Reach_R m⟩
noncomputable def sparseref13_Reach_C : Code := codeOf Try.f23
noncomputable def sparseref13_Reach_B0 : Code := loopAt sparseref13_Reach_C 0 0
theorem sparseref13_Reach_B0_ls : loopsL sparseref13_Reach_B0 0 = [] := by kernel_rfl
noncomputable def sparseref13_Reach_B2 : Code := loopAt sparseref13_Reach_C 0 1
noncomputable def sparseref13_Reach_B4 : Code := loopAt sparseref13_Reach_B2 2 0
theorem sparseref13_Reach_B4_ls : loopsL sparseref13_Reach_B4 4 = [] := by kernel_rfl
theorem sparseref13_Reach_B2_ls : loopsL sparseref13_Reach_B2 2 = [(4, sparseref13_Reach_B4)] := by kernel_rfl
theorem sparseref13_Reach_C_ls : loopsL sparseref13_Reach_C 0 = [(0, sparseref13_Reach_B0), (2, sparseref13_Reach_B2)] := by kernel_rfl
abbrev sparseref13_Reach_L2_I : SS := [(0, .a (.bx 0 [(.int .i64), (.int .i64), (.imm (.int .i64)), (.imm (.int .i64)), (.imm (.int .u64)), (.nm 1 (.int .i64)), (.nm 2 (.int .i64)), (.nm 3 .bool)])), (4, .a (.c (.nm 4 .bool))), (5, .a (.c (.nm 5 .bool))), (6, .a (.c (.nm 6 (.int .i64)))), (8, .a (.c (.int .i64))), (9, .a (.c (.int .i64)))]
abbrev sparseref13_Reach_L2_O : List (Ex × SS) := [(.exit 4, [(0, .a (.bx 0 [(.int .i64), (.int .i64), (.imm (.int .i64)), (.imm (.int .i64)), (.imm (.int .u64)), (.nm 1 (.int .i64)), (.nm 2 (.int .i64)), (.nm 3 .bool)])), (4, .a (.c (.nm 4 .bool))), (5, .a (.c (.nm 5 .bool))), (6, .a (.c (.nm 6 (.int .i64))))])]
def sparseref13_Reach_L2_R (m n : Nat) : sparseref13_Reach_L2_I.Val → Option (outVal sparseref13_Reach_L2_O) := (fun (x : (Int × Int × List Int × List Int × List Int × List Int × List Int × List Bool × Unit) × List Bool × List Bool × List Int × Int × Int × Unit) => sparseref13_Reach_L2 m n x.1.1 x.1.2.1 x.1.2.2.1 x.1.2.2.2.1 x.1.2.2.2.2.1 x.1.2.2.2.2.2.1 x.1.2.2.2.2.2.2.1 x.1.2.2.2.2.2.2.2.1 x.2.1 x.2.2.1 x.2.2.2.1 x.2.2.2.2.1 x.2.2.2.2.2.1)
def sparseref13_Reach_L2_T (m n : Nat) : LoopT := ⟨4, sparseref13_Reach_L2_I, sparseref13_Reach_L2_O, sparseref13_Reach_L2_R m n⟩
theorem sparseref13_Reach_L2_kr (m n : Nat) (x : sparseref13_Reach_L2_I.Val) : roundK (mkC (outVal sparseref13_Reach_L2_O) []) (mkLp (outVal sparseref13_Reach_L2_O) []) tt 119 sparseref13_Reach_H sparseref13_Reach_B4 4 (sparseref13_Reach_L2_I.enc x) (Kl (ins := sparseref13_Reach_L2_I) (outs := sparseref13_Reach_L2_O) (sparseref13_Reach_L2_R m n)) = sparseref13_Reach_L2_R m (n + 1) x := by kernel_rfl
theorem sparseref13_Reach_L2_ok {E : Entry} (hE : EOf E 119 sparseref13_Reach_H.pins) (m : Nat) (n : Nat) : LoopOK Try.prog E sparseref13_Reach_B4 (sparseref13_Reach_L2_T m n) :=
  loop_ok (CO := CallOK Try.prog) hmix htt (fun _ _ _ _ h => h) hE (C := fun R => mkC R []) (L := []) (fun _ _ _ _ _ h => mkC_spec (AllF.mem (l := []) trivial) h) (fun _ _ => loopsIn_of sparseref13_Reach_B4_ls trivial) (fun n => (sparseref13_Reach_L2_R m n)) (fun _ => by kernel_rfl) (sparseref13_Reach_L2_kr m) n
abbrev sparseref13_Reach_L1_I : SS := [(0, .a (.bx 0 [(.int .i64), (.int .i64), (.imm (.int .i64)), (.imm (.int .i64)), (.imm (.int .u64)), (.nm 1 (.int .i64)), (.nm 2 (.int .i64)), (.nm 3 .bool)])), (4, .a (.c (.nm 4 .bool))), (5, .a (.c (.nm 5 .bool))), (6, .a (.c (.nm 6 (.int .i64))))]
abbrev sparseref13_Reach_L1_O : List (Ex × SS) := [(.exit 2, [(0, .a (.bx 0 [(.int .i64), (.int .i64), (.imm (.int .i64)), (.imm (.int .i64)), (.imm (.int .u64)), (.nm 1 (.int .i64)), (.nm 2 (.int .i64)), (.nm 3 .bool)])), (4, .a (.c (.nm 4 .bool))), (5, .a (.c (.nm 5 .bool)))])]
def sparseref13_Reach_L1_R (m n : Nat) : sparseref13_Reach_L1_I.Val → Option (outVal sparseref13_Reach_L1_O) := (fun (x : (Int × Int × List Int × List Int × List Int × List Int × List Int × List Bool × Unit) × List Bool × List Bool × List Int × Unit) => sparseref13_Reach_L1 m n x.1.1 x.1.2.1 x.1.2.2.1 x.1.2.2.2.1 x.1.2.2.2.2.1 x.1.2.2.2.2.2.1 x.1.2.2.2.2.2.2.1 x.1.2.2.2.2.2.2.2.1 x.2.1 x.2.2.1 x.2.2.2.1)
def sparseref13_Reach_L1_T (m n : Nat) : LoopT := ⟨2, sparseref13_Reach_L1_I, sparseref13_Reach_L1_O, sparseref13_Reach_L1_R m n⟩
theorem sparseref13_Reach_L1_kr (m n : Nat) (x : sparseref13_Reach_L1_I.Val) : roundK (mkC (outVal sparseref13_Reach_L1_O) []) (mkLp (outVal sparseref13_Reach_L1_O) [sparseref13_Reach_L2_T m m]) tt 119 sparseref13_Reach_H sparseref13_Reach_B2 2 (sparseref13_Reach_L1_I.enc x) (Kl (ins := sparseref13_Reach_L1_I) (outs := sparseref13_Reach_L1_O) (sparseref13_Reach_L1_R m n)) = sparseref13_Reach_L1_R m (n + 1) x := by kernel_rfl
theorem sparseref13_Reach_L1_ok {E : Entry} (hE : EOf E 119 sparseref13_Reach_H.pins) (m : Nat) (n : Nat) : LoopOK Try.prog E sparseref13_Reach_B2 (sparseref13_Reach_L1_T m n) :=
  loop_ok (CO := CallOK Try.prog) hmix htt (fun _ _ _ _ h => h) hE (C := fun R => mkC R []) (L := [sparseref13_Reach_L2_T m m]) (fun _ _ _ _ _ h => mkC_spec (AllF.mem (l := []) trivial) h) (fun _ _ => loopsIn_of sparseref13_Reach_B2_ls ⟨mkLp_all ⟨fun _ => sparseref13_Reach_L2_ok hE m m, trivial⟩, trivial⟩) (fun n => (sparseref13_Reach_L1_R m n)) (fun _ => by kernel_rfl) (sparseref13_Reach_L1_kr m) n
abbrev sparseref13_Reach_L0_I : SS := [(0, .a (.bx 0 [(.int .i64), (.int .i64), (.imm (.int .i64)), (.imm (.int .i64)), (.imm (.int .u64)), (.nm 1 (.int .i64)), (.nm 2 (.int .i64)), (.nm 3 .bool)])), (4, .a (.c (.nm 4 .bool))), (5, .a (.c (.nm 5 .bool))), (6, .a (.c (.nm 6 (.int .i64)))), (7, .a (.c (.int .i64)))]
abbrev sparseref13_Reach_L0_O : List (Ex × SS) := [(.exit 0, [(0, .a (.bx 0 [(.int .i64), (.int .i64), (.imm (.int .i64)), (.imm (.int .i64)), (.imm (.int .u64)), (.nm 1 (.int .i64)), (.nm 2 (.int .i64)), (.nm 3 .bool)])), (4, .a (.c (.nm 4 .bool))), (5, .a (.c (.nm 5 .bool))), (6, .a (.c (.nm 6 (.int .i64))))])]
def sparseref13_Reach_L0_R (m n : Nat) : sparseref13_Reach_L0_I.Val → Option (outVal sparseref13_Reach_L0_O) := (fun (x : (Int × Int × List Int × List Int × List Int × List Int × List Int × List Bool × Unit) × List Bool × List Bool × List Int × Int × Unit) => sparseref13_Reach_L0 m n x.1.1 x.1.2.1 x.1.2.2.1 x.1.2.2.2.1 x.1.2.2.2.2.1 x.1.2.2.2.2.2.1 x.1.2.2.2.2.2.2.1 x.1.2.2.2.2.2.2.2.1 x.2.1 x.2.2.1 x.2.2.2.1 x.2.2.2.2.1)
def sparseref13_Reach_L0_T (m n : Nat) : LoopT := ⟨0, sparseref13_Reach_L0_I, sparseref13_Reach_L0_O, sparseref13_Reach_L0_R m n⟩
theorem sparseref13_Reach_L0_kr (m n : Nat) (x : sparseref13_Reach_L0_I.Val) : roundK (mkC (outVal sparseref13_Reach_L0_O) []) (mkLp (outVal sparseref13_Reach_L0_O) []) tt 119 sparseref13_Reach_H sparseref13_Reach_B0 0 (sparseref13_Reach_L0_I.enc x) (Kl (ins := sparseref13_Reach_L0_I) (outs := sparseref13_Reach_L0_O) (sparseref13_Reach_L0_R m n)) = sparseref13_Reach_L0_R m (n + 1) x := by kernel_rfl
theorem sparseref13_Reach_L0_ok {E : Entry} (hE : EOf E 119 sparseref13_Reach_H.pins) (m : Nat) (n : Nat) : LoopOK Try.prog E sparseref13_Reach_B0 (sparseref13_Reach_L0_T m n) :=
  loop_ok (CO := CallOK Try.prog) hmix htt (fun _ _ _ _ h => h) hE (C := fun R => mkC R []) (L := []) (fun _ _ _ _ _ h => mkC_spec (AllF.mem (l := []) trivial) h) (fun _ _ => loopsIn_of sparseref13_Reach_B0_ls trivial) (fun n => (sparseref13_Reach_L0_R m n)) (fun _ => by kernel_rfl) (sparseref13_Reach_L0_kr m) n
theorem sparseref13_Reach_kr (m : Nat) (x : ShLVal sparseref13_Reach_A) : fnK (mkC (sparseref13_Reach_S.Val × ShLVal sparseref13_Reach_U) []) (mkLp (sparseref13_Reach_S.Val × ShLVal sparseref13_Reach_U) [sparseref13_Reach_L0_T m m, sparseref13_Reach_L1_T m m]) tt sparseref13_Reach_H Try.f23 (encS sparseref13_Reach_A x) (Kd sparseref13_Reach_S sparseref13_Reach_U) = sparseref13_Reach_R m x := by kernel_rfl
theorem sparseref13_Reach_ok (m : Nat) : FunOK Try.prog (sparseref13_Reach_T m) :=
  fun_ok hmix htt (sparseref13_Reach_T m) Try.func23 (c := sparseref13_Reach_C) (by kernel_rfl) (by kernel_rfl) (Lc := []) (AllF.mem (l := []) trivial) (L := [sparseref13_Reach_L0_T m m, sparseref13_Reach_L1_T m m]) (fun _ hE _ _ => loopsIn_of sparseref13_Reach_C_ls ⟨mkLp_all ⟨fun _ => sparseref13_Reach_L0_ok hE m m, fun h => absurd (show (2 : Nat) = 0 from h) (by decide), trivial⟩, mkLp_all ⟨fun h => absurd (show (0 : Nat) = 2 from h) (by decide), fun _ => sparseref13_Reach_L1_ok hE m m, trivial⟩, trivial⟩) (sparseref13_Reach_kr m)
/-! 24 sparse/sparseref13.Chosen -/
def sparseref13_Chosen_H : Hints := { regs := [⟨[], [0, 1]⟩, ⟨[], [0, 1, 5]⟩, ⟨[], [0, 1, 5, 6]⟩, ⟨[], [0, 1, 5, 6, 10]⟩, ⟨[(0, 1)], [0, 1, 5, 6]⟩, ⟨[], [0, 1, 5, 6, 18]⟩, ⟨[(0, 1)], [0, 1, 5, 6]⟩, ⟨[(0, 1)], [4]⟩], heads := [(0, [0, 1, 5, 6])], exits := [(0, [5]), (1, [0, 1, 5, 6])], rets := [4], pins := [], spec := [[true]] }
abbrev sparseref13_Chosen_A : List Sh := [.a (.c (.imm .bool)), .a (.c .bool)]
abbrev sparseref13_Chosen_S : Sh := .a (.c (.nm 0 (.int .i64)))
abbrev sparseref13_Chosen_U : List Sh := [.a (.c .dead), .a (.c .dead)]
def sparseref13_Chosen_R (m : Nat) : ShLVal sparseref13_Chosen_A → Option (sparseref13_Chosen_S.Val × ShLVal sparseref13_Chosen_U) := fun (x : List Bool × Bool × Unit) => sparseref13_Chosen m x.1 x.2.1
def sparseref13_Chosen_T (m : Nat) : FunT := ⟨24, sparseref13_Chosen_A, sparseref13_Chosen_S, sparseref13_Chosen_U, sparseref13_Chosen_R m⟩
noncomputable def sparseref13_Chosen_C : Code := codeOf Try.f24
noncomputable def sparseref13_Chosen_B0 : Code := loopAt sparseref13_Chosen_C 0 0
theorem sparseref13_Chosen_B0_ls : loopsL sparseref13_Chosen_B0 0 = [] := by kernel_rfl
theorem sparseref13_Chosen_C_ls : loopsL sparseref13_Chosen_C 0 = [(0, sparseref13_Chosen_B0)] := by kernel_rfl
abbrev sparseref13_Chosen_L0_I : SS := [(0, .a (.c (.imm .bool))), (1, .a (.c .bool)), (5, .a (.c (.nm 0 (.int .i64)))), (6, .a (.c (.int .i64)))]
abbrev sparseref13_Chosen_L0_O : List (Ex × SS) := [(.exit 0, [(5, .a (.c (.nm 0 (.int .i64))))])]
def sparseref13_Chosen_L0_R (m n : Nat) : sparseref13_Chosen_L0_I.Val → Option (outVal sparseref13_Chosen_L0_O) := (fun (x : List Bool × Bool × List Int × Int × Unit) => sparseref13_Chosen_L0 m n x.1 x.2.1 x.2.2.1 x.2.2.2.1)
def sparseref13_Chosen_L0_T (m n : Nat) : LoopT := ⟨0, sparseref13_Chosen_L0_I, sparseref13_Chosen_L0_O, sparseref13_Chosen_L0_R m n⟩
theorem sparseref13_Chosen_L0_kr (m n : Nat) (x : sparseref13_Chosen_L0_I.Val) : roundK (mkC (outVal sparseref13_Chosen_L0_O) []) (mkLp (outVal sparseref13_Chosen_L0_O) []) tt 24 sparseref13_Chosen_H sparseref13_Chosen_B0 0 (sparseref13_Chosen_L0_I.enc x) (Kl (ins := sparseref13_Chosen_L0_I) (outs := sparseref13_Chosen_L0_O) (sparseref13_Chosen_L0_R m n)) = sparseref13_Chosen_L0_R m (n + 1) x := by kernel_rfl
theorem sparseref13_Chosen_L0_ok {E : Entry} (hE : EOf E 24 sparseref13_Chosen_H.pins) (m : Nat) (n : Nat) : LoopOK Try.prog E sparseref13_Chosen_B0 (sparseref13_Chosen_L0_T m n) :=
  loop_ok (CO := CallOK Try.prog) hmix htt (fun _ _ _ _ h => h) hE (C := fun R => mkC R []) (L := []) (fun _ _ _ _ _ h => mkC_spec (AllF.mem (l := []) trivial) h) (fun _ _ => loopsIn_of sparseref13_Chosen_B0_ls trivial) (fun n => (sparseref13_Chosen_L0_R m n)) (fun _ => by kernel_rfl) (sparseref13_Chosen_L0_kr m) n
theorem sparseref13_Chosen_kr (m : Nat) (x : ShLVal sparseref13_Chosen_A) : fnK (mkC (sparseref13_Chosen_S.Val × ShLVal sparseref13_Chosen_U) []) (mkLp (sparseref13_Chosen_S.Val × ShLVal sparseref13_Chosen_U) [sparseref13_Chosen_L0_T m m]) tt sparseref13_Chosen_H Try.f24 (encS sparseref13_Chosen_A x) (Kd sparseref13_Chosen_S sparseref13_Chosen_U) = sparseref13_Chosen_R m x := by kernel_rfl
theorem sparseref13_Chosen_ok (m : Nat) : FunOK Try.prog (sparseref13_Chosen_T m) :=
  fun_ok hmix htt (sparseref13_Chosen_T m) Try.func24 (c := sparseref13_Chosen_C) (by kernel_rfl) (by kernel_rfl) (Lc := []) (AllF.mem (l := []) trivial) (L := [sparseref13_Chosen_L0_T m m]) (fun _ hE _ _ => loopsIn_of sparseref13_Chosen_C_ls ⟨mkLp_all ⟨fun _ => sparseref13_Chosen_L0_ok hE m m, trivial⟩, trivial⟩) (sparseref13_Chosen_kr m)
/-! 10 sparse/sparseref13.Cover -/
def sparseref13_Cover_H : Hints := { regs := [⟨[], [1, 2]⟩, ⟨[], [1, 2, 4]⟩, ⟨[], [1, 2, 4, 10]⟩, ⟨[(1, 1)], [2, 3]⟩, ⟨[(3, 1)], [2, 5, 6]⟩, ⟨[(0, 1), (2, 1)], [2, 3]⟩], heads := [], exits := [], rets := [2, 3], pins := [], spec := [[true, true], [false]] }
abbrev sparseref13_Cover_A : List Sh := [.a (.agg [(.int .i64), (.int .i64), (.imm (.int .i64)), (.imm (.int .i64)), (.imm (.int .u64))])]
abbrev sparseref13_Cover_S : Sh := .tup [(.agg [(.nm 0 (.int .i64)), (.nm 1 (.int .i64))]), (.c (.int .i64))]
abbrev sparseref13_Cover_U : List Sh := [.a (.c .dead)]
def sparseref13_Cover_R (m : Nat) : ShLVal sparseref13_Cover_A → Option (sparseref13_Cover_S.Val × ShLVal sparseref13_Cover_U) := fun (x : (Int × Int × List Int × List Int × List Int × Unit) × Unit) => sparseref13_Cover m x.1.1 x.1.2.1 x.1.2.2.1 x.1.2.2.2.1 x.1.2.2.2.2.1
def sparseref13_Cover_T (m : Nat) : FunT := ⟨10, sparseref13_Cover_A, sparseref13_Cover_S, sparseref13_Cover_U, sparseref13_Cover_R m⟩
noncomputable def sparseref13_Cover_C : Code := codeOf Try.f10
theorem sparseref13_Cover_C_ls : loopsL sparseref13_Cover_C 0 = [] := by kernel_rfl
theorem sparseref13_Cover_kr (m : Nat) (x : ShLVal sparseref13_Cover_A) : fnK (mkC (sparseref13_Cover_S.Val × ShLVal sparseref13_Cover_U) [sparseref09_Check_T m, sparseref13_Find_T m, sparseref13_Reach_T m, sparseref13_Chosen_T m]) (mkLp (sparseref13_Cover_S.Val × ShLVal sparseref13_Cover_U) []) tt sparseref13_Cover_H Try.f10 (encS sparseref13_Cover_A x) (Kd sparseref13_Cover_S sparseref13_Cover_U) = sparseref13_Cover_R m x := by kernel_rfl
theorem sparseref13_Cover_ok (m : Nat) : FunOK Try.prog (sparseref13_Cover_T m) :=
  fun_ok hmix htt (sparseref13_Cover_T m) Try.func10 (c := sparseref13_Cover_C) (by kernel_rfl) (by kernel_rfl) (Lc := [sparseref09_Check_T m, sparseref13_Find_T m, sparseref13_Reach_T m, sparseref13_Chosen_T m]) (AllF.mem (l := [sparseref09_Check_T m, sparseref13_Find_T m, sparseref13_Reach_T m, sparseref13_Chosen_T m]) ⟨sparseref09_Check_ok m, sparseref13_Find_ok m, sparseref13_Reach_ok m, sparseref13_Chosen_ok m, trivial⟩) (L := []) (fun _ hE _ _ => loopsIn_of sparseref13_Cover_C_ls trivial) (sparseref13_Cover_kr m)
/-! 28 sparse/sparseref09.Stored -/
def sparseref09_Stored_H : Hints := { regs := [⟨[], [1, 2, 3]⟩, ⟨[(2, 1), (8, 1), (12, 1)], [1, 2, 3, 25]⟩, ⟨[], [6]⟩, ⟨[], [1, 2, 3, 7]⟩, ⟨[], [1, 2, 3, 7, 38]⟩, ⟨[(0, 1)], [1, 2, 3, 7]⟩, ⟨[], [1, 2, 3, 7, 47]⟩, ⟨[], [6]⟩, ⟨[], [6]⟩], heads := [(0, [1, 2, 3, 7])], exits := [(0, []), (1, [1, 2, 3, 7])], rets := [6], pins := [], spec := [[false]] }
abbrev sparseref09_Stored_A : List Sh := [.a (.agg [(.int .i64), (.int .i64), (.imm (.int .i64)), (.imm (.int .i64)), (.imm (.int .u64))]), .a (.c (.int .i64)), .a (.c (.int .i64))]
abbrev sparseref09_Stored_S : Sh := .a (.c .bool)
abbrev sparseref09_Stored_U : List Sh := [.a (.c .dead), .a (.c .dead), .a (.c .dead)]
def sparseref09_Stored_R (m : Nat) : ShLVal sparseref09_Stored_A → Option (sparseref09_Stored_S.Val × ShLVal sparseref09_Stored_U) := fun (x : (Int × Int × List Int × List Int × List Int × Unit) × Int × Int × Unit) => sparseref09_Stored m x.1.1 x.1.2.1 x.1.2.2.1 x.1.2.2.2.1 x.1.2.2.2.2.1 x.2.1 x.2.2.1
def sparseref09_Stored_T (m : Nat) : FunT := ⟨28, sparseref09_Stored_A, sparseref09_Stored_S, sparseref09_Stored_U, sparseref09_Stored_R m⟩
noncomputable def sparseref09_Stored_C : Code := codeOf Try.f28
noncomputable def sparseref09_Stored_B0 : Code := loopAt sparseref09_Stored_C 0 0
theorem sparseref09_Stored_B0_ls : loopsL sparseref09_Stored_B0 0 = [] := by kernel_rfl
theorem sparseref09_Stored_C_ls : loopsL sparseref09_Stored_C 0 = [(0, sparseref09_Stored_B0)] := by kernel_rfl
abbrev sparseref09_Stored_L0_I : SS := [(1, .a (.c (.int .i64))), (2, .a (.c (.int .i64))), (3, .a (.bx 0 [(.int .i64), (.int .i64), (.imm (.int .i64)), (.imm (.int .i64)), (.imm (.int .u64))])), (7, .a (.c (.int .i64)))]
abbrev sparseref09_Stored_L0_O : List (Ex × SS) := [(.ret, [(6, .a (.c .bool))]), (.exit 0, [])]
def sparseref09_Stored_L0_R (m n : Nat) : sparseref09_Stored_L0_I.Val → Option (outVal sparseref09_Stored_L0_O) := (fun (x : Int × Int × (Int × Int × List Int × List Int × List Int × Unit) × Int × Unit) => sparseref09_Stored_L0 m n x.1 x.2.1 x.2.2.1.1 x.2.2.1.2.1 x.2.2.1.2.2.1 x.2.2.1.2.2.2.1 x.2.2.1.2.2.2.2.1 x.2.2.2.1)
def sparseref09_Stored_L0_T (m n : Nat) : LoopT := ⟨0, sparseref09_Stored_L0_I, sparseref09_Stored_L0_O, sparseref09_Stored_L0_R m n⟩
theorem sparseref09_Stored_L0_kr (m n : Nat) (x : sparseref09_Stored_L0_I.Val) : roundK (mkC (outVal sparseref09_Stored_L0_O) []) (mkLp (outVal sparseref09_Stored_L0_O) []) tt 48 sparseref09_Stored_H sparseref09_Stored_B0 0 (sparseref09_Stored_L0_I.enc x) (Kl (ins := sparseref09_Stored_L0_I) (outs := sparseref09_Stored_L0_O) (sparseref09_Stored_L0_R m n)) = sparseref09_Stored_L0_R m (n + 1) x := by kernel_rfl
theorem sparseref09_Stored_L0_ok {E : Entry} (hE : EOf E 48 sparseref09_Stored_H.pins) (m : Nat) (n : Nat) : LoopOK Try.prog E sparseref09_Stored_B0 (sparseref09_Stored_L0_T m n) :=
  loop_ok (CO := CallOK Try.prog) hmix htt (fun _ _ _ _ h => h) hE (C := fun R => mkC R []) (L := []) (fun _ _ _ _ _ h => mkC_spec (AllF.mem (l := []) trivial) h) (fun _ _ => loopsIn_of sparseref09_Stored_B0_ls trivial) (fun n => (sparseref09_Stored_L0_R m n)) (fun _ => by kernel_rfl) (sparseref09_Stored_L0_kr m) n
theorem sparseref09_Stored_kr (m : Nat) (x : ShLVal sparseref09_Stored_A) : fnK (mkC (sparseref09_Stored_S.Val × ShLVal sparseref09_Stored_U) []) (mkLp (sparseref09_Stored_S.Val × ShLVal sparseref09_Stored_U) [sparseref09_Stored_L0_T m m]) tt sparseref09_Stored_H Try.f28 (encS sparseref09_Stored_A x) (Kd sparseref09_Stored_S sparseref09_Stored_U) = sparseref09_Stored_R m x := by kernel_rfl
theorem sparseref09_Stored_ok (m : Nat) : FunOK Try.prog (sparseref09_Stored_T m) :=
  fun_ok hmix htt (sparseref09_Stored_T m) Try.func28 (c := sparseref09_Stored_C) (by kernel_rfl) (by kernel_rfl) (Lc := []) (AllF.mem (l := []) trivial) (L := [sparseref09_Stored_L0_T m m]) (fun _ hE _ _ => loopsIn_of sparseref09_Stored_C_ls ⟨mkLp_all ⟨fun _ => sparseref09_Stored_L0_ok hE m m, trivial⟩, trivial⟩) (sparseref09_Stored_kr m)
/-! 29 sparse/sparsekit.Ascending -/
def sparsekit_Ascending_H : Hints := { regs := [⟨[], [0]⟩, ⟨[], [0, 3]⟩, ⟨[], [0, 3, 7]⟩, ⟨[(0, 1)], [0, 3]⟩, ⟨[], [0, 3, 19]⟩, ⟨[], [2]⟩, ⟨[], [2]⟩], heads := [(0, [0, 3])], exits := [(0, []), (1, [0, 3])], rets := [2], pins := [], spec := [[false]] }
abbrev sparsekit_Ascending_A : List Sh := [.a (.c (.imm (.int .i64)))]
abbrev sparsekit_Ascending_S : Sh := .a (.c .bool)
abbrev sparsekit_Ascending_U : List Sh := [.a (.c .dead)]
def sparsekit_Ascending_R (m : Nat) : ShLVal sparsekit_Ascending_A → Option (sparsekit_Ascending_S.Val × ShLVal sparsekit_Ascending_U) := fun (x : List Int × Unit) => sparsekit_Ascending m x.1
def sparsekit_Ascending_T (m : Nat) : FunT := ⟨29, sparsekit_Ascending_A, sparsekit_Ascending_S, sparsekit_Ascending_U, sparsekit_Ascending_R m⟩
noncomputable def sparsekit_Ascending_C : Code := codeOf Try.f29
noncomputable def sparsekit_Ascending_B0 : Code := loopAt sparsekit_Ascending_C 0 0
theorem sparsekit_Ascending_B0_ls : loopsL sparsekit_Ascending_B0 0 = [] := by kernel_rfl
theorem sparsekit_Ascending_C_ls : loopsL sparsekit_Ascending_C 0 = [(0, sparsekit_Ascending_B0)] := by kernel_rfl
abbrev sparsekit_Ascending_L0_I : SS := [(0, .a (.c (.imm (.int .i64)))), (3, .a (.c (.int .i64)))]
abbrev sparsekit_Ascending_L0_O : List (Ex × SS) := [(.ret, [(2, .a (.c .bool))]), (.exit 0, [])]
def sparsekit_Ascending_L0_R (m n : Nat) : sparsekit_Ascending_L0_I.Val → Option (outVal sparsekit_Ascending_L0_O) := (fun (x : List Int × Int × Unit) => sparsekit_Ascending_L0 m n x.1 x.2.1)
def sparsekit_Ascending_L0_T (m n : Nat) : LoopT := ⟨0, sparsekit_Ascending_L0_I, sparsekit_Ascending_L0_O, sparsekit_Ascending_L0_R m n⟩
theorem sparsekit_Ascending_L0_kr (m n : Nat) (x : sparsekit_Ascending_L0_I.Val) : roundK (mkC (outVal sparsekit_Ascending_L0_O) []) (mkLp (outVal sparsekit_Ascending_L0_O) []) tt 20 sparsekit_Ascending_H sparsekit_Ascending_B0 0 (sparsekit_Ascending_L0_I.enc x) (Kl (ins := sparsekit_Ascending_L0_I) (outs := sparsekit_Ascending_L0_O) (sparsekit_Ascending_L0_R m n)) = sparsekit_Ascending_L0_R m (n + 1) x := by kernel_rfl
theorem sparsekit_Ascending_L0_ok {E : Entry} (hE : EOf E 20 sparsekit_Ascending_H.pins) (m : Nat) (n : Nat) : LoopOK Try.prog E sparsekit_Ascending_B0 (sparsekit_Ascending_L0_T m n) :=
  loop_ok (CO := CallOK Try.prog) hmix htt (fun _ _ _ _ h => h) hE (C := fun R => mkC R []) (L := []) (fun _ _ _ _ _ h => mkC_spec (AllF.mem (l := []) trivial) h) (fun _ _ => loopsIn_of sparsekit_Ascending_B0_ls trivial) (fun n => (sparsekit_Ascending_L0_R m n)) (fun _ => by kernel_rfl) (sparsekit_Ascending_L0_kr m) n
theorem sparsekit_Ascending_kr (m : Nat) (x : ShLVal sparsekit_Ascending_A) : fnK (mkC (sparsekit_Ascending_S.Val × ShLVal sparsekit_Ascending_U) []) (mkLp (sparsekit_Ascending_S.Val × ShLVal sparsekit_Ascending_U) [sparsekit_Ascending_L0_T m m]) tt sparsekit_Ascending_H Try.f29 (encS sparsekit_Ascending_A x) (Kd sparsekit_Ascending_S sparsekit_Ascending_U) = sparsekit_Ascending_R m x := by kernel_rfl
theorem sparsekit_Ascending_ok (m : Nat) : FunOK Try.prog (sparsekit_Ascending_T m) :=
  fun_ok hmix htt (sparsekit_Ascending_T m) Try.func29 (c := sparsekit_Ascending_C) (by kernel_rfl) (by kernel_rfl) (Lc := []) (AllF.mem (l := []) trivial) (L := [sparsekit_Ascending_L0_T m m]) (fun _ hE _ _ => loopsIn_of sparsekit_Ascending_C_ls ⟨mkLp_all ⟨fun _ => sparsekit_Ascending_L0_ok hE m m, trivial⟩, trivial⟩) (sparsekit_Ascending_kr m)
/-! 30 sparse/sparseref09.Range -/
def sparseref09_Range_H : Hints := { regs := [⟨[], [0, 1]⟩, ⟨[], [0, 1, 5]⟩, ⟨[], [0, 1, 5, 9]⟩, ⟨[(0, 1)], [0, 1, 5]⟩, ⟨[(5, 1)], [0, 1, 5, 24]⟩, ⟨[], [4]⟩, ⟨[], [4]⟩], heads := [(0, [0, 1, 5])], exits := [(0, []), (1, [0, 1, 5])], rets := [4], pins := [], spec := [[false]] }
abbrev sparseref09_Range_A : List Sh := [.a (.c (.imm (.int .i64))), .a (.c (.int .i64))]
abbrev sparseref09_Range_S : Sh := .a (.c .bool)
abbrev sparseref09_Range_U : List Sh := [.a (.c .dead), .a (.c .dead)]
def sparseref09_Range_R (m : Nat) : ShLVal sparseref09_Range_A → Option (sparseref09_Range_S.Val × ShLVal sparseref09_Range_U) := fun (x : List Int × Int × Unit) => sparseref09_Range m x.1 x.2.1
def sparseref09_Range_T (m : Nat) : FunT := ⟨30, sparseref09_Range_A, sparseref09_Range_S, sparseref09_Range_U, sparseref09_Range_R m⟩
noncomputable def sparseref09_Range_C : Code := codeOf Try.f30
noncomputable def sparseref09_Range_B0 : Code := loopAt sparseref09_Range_C 0 0
theorem sparseref09_Range_B0_ls : loopsL sparseref09_Range_B0 0 = [] := by kernel_rfl
theorem sparseref09_Range_C_ls : loopsL sparseref09_Range_C 0 = [(0, sparseref09_Range_B0)] := by kernel_rfl
abbrev sparseref09_Range_L0_I : SS := [(0, .a (.c (.imm (.int .i64)))), (1, .a (.c (.int .i64))), (5, .a (.c (.int .i64)))]
abbrev sparseref09_Range_L0_O : List (Ex × SS) := [(.ret, [(4, .a (.c .bool))]), (.exit 0, [])]
def sparseref09_Range_L0_R (m n : Nat) : sparseref09_Range_L0_I.Val → Option (outVal sparseref09_Range_L0_O) := (fun (x : List Int × Int × Int × Unit) => sparseref09_Range_L0 m n x.1 x.2.1 x.2.2.1)
def sparseref09_Range_L0_T (m n : Nat) : LoopT := ⟨0, sparseref09_Range_L0_I, sparseref09_Range_L0_O, sparseref09_Range_L0_R m n⟩
theorem sparseref09_Range_L0_kr (m n : Nat) (x : sparseref09_Range_L0_I.Val) : roundK (mkC (outVal sparseref09_Range_L0_O) []) (mkLp (outVal sparseref09_Range_L0_O) []) tt 25 sparseref09_Range_H sparseref09_Range_B0 0 (sparseref09_Range_L0_I.enc x) (Kl (ins := sparseref09_Range_L0_I) (outs := sparseref09_Range_L0_O) (sparseref09_Range_L0_R m n)) = sparseref09_Range_L0_R m (n + 1) x := by kernel_rfl
theorem sparseref09_Range_L0_ok {E : Entry} (hE : EOf E 25 sparseref09_Range_H.pins) (m : Nat) (n : Nat) : LoopOK Try.prog E sparseref09_Range_B0 (sparseref09_Range_L0_T m n) :=
  loop_ok (CO := CallOK Try.prog) hmix htt (fun _ _ _ _ h => h) hE (C := fun R => mkC R []) (L := []) (fun _ _ _ _ _ h => mkC_spec (AllF.mem (l := []) trivial) h) (fun _ _ => loopsIn_of sparseref09_Range_B0_ls trivial) (fun n => (sparseref09_Range_L0_R m n)) (fun _ => by kernel_rfl) (sparseref09_Range_L0_kr m) n
theorem sparseref09_Range_kr (m : Nat) (x : ShLVal sparseref09_Range_A) : fnK (mkC (sparseref09_Range_S.Val × ShLVal sparseref09_Range_U) []) (mkLp (sparseref09_Range_S.Val × ShLVal sparseref09_Range_U) [sparseref09_Range_L0_T m m]) tt sparseref09_Range_H Try.f30 (encS sparseref09_Range_A x) (Kd sparseref09_Range_S sparseref09_Range_U) = sparseref09_Range_R m x := by kernel_rfl
theorem sparseref09_Range_ok (m : Nat) : FunOK Try.prog (sparseref09_Range_T m) :=
  fun_ok hmix htt (sparseref09_Range_T m) Try.func30 (c := sparseref09_Range_C) (by kernel_rfl) (by kernel_rfl) (Lc := []) (AllF.mem (l := []) trivial) (L := [sparseref09_Range_L0_T m m]) (fun _ hE _ _ => loopsIn_of sparseref09_Range_C_ls ⟨mkLp_all ⟨fun _ => sparseref09_Range_L0_ok hE m m, trivial⟩, trivial⟩) (sparseref09_Range_kr m)
/-! 31 sparse/sparseref09.Entries -/
def sparseref09_Entries_H : Hints := { regs := [⟨[], [1]⟩, ⟨[], [1, 8]⟩, ⟨[], [2]⟩, ⟨[], [1, 3]⟩, ⟨[], [1, 3, 4]⟩, ⟨[], [1, 3, 4, 12]⟩, ⟨[(0, 1)], [1, 3, 4]⟩, ⟨[], [1, 3, 4, 5]⟩, ⟨[], [1, 3, 4, 5, 27]⟩, ⟨[(0, 1)], [1, 3, 4, 5]⟩, ⟨[(0, 1)], [1, 3, 4, 5]⟩, ⟨[(0, 1)], [2]⟩], heads := [(0, [1, 3, 4]), (2, [1, 3, 4, 5])], exits := [(0, [3]), (1, [1, 3, 4]), (2, [1, 3, 4]), (3, [1, 3, 4, 5])], rets := [2], pins := [], spec := [[true]] }
abbrev sparseref09_Entries_A : List Sh := [.a (.agg [(.int .i64), (.int .i64), (.imm (.int .i64)), (.imm (.int .i64)), (.imm (.int .u64))])]
abbrev sparseref09_Entries_S : Sh := .a (.c (.nm 0 (.pr (.int .i64) (.pr (.int .i64) (.int .u64)))))
abbrev sparseref09_Entries_U : List Sh := [.a (.c .dead)]
def sparseref09_Entries_R (m : Nat) : ShLVal sparseref09_Entries_A → Option (sparseref09_Entries_S.Val × ShLVal sparseref09_Entries_U) := fun (x : (Int × Int × List Int × List Int × List Int × Unit) × Unit) => sparseref09_Entries m x.1.1 x.1.2.1 x.1.2.2.1 x.1.2.2.2.1 x.1.2.2.2.2.1
def sparseref09_Entries_T (m : Nat) : FunT := ⟨31, sparseref09_Entries_A, sparseref09_Entries_S, sparseref09_Entries_U, sparseref09_Entries_R m⟩
noncomputable def sparseref09_Entries_C : Code := codeOf Try.f31
noncomputable def sparseref09_Entries_B0 : Code := loopAt sparseref09_Entries_C 0 0
noncomputable def sparseref09_Entries_B2 : Code := loopAt sparseref09_Entries_B0 0 0
theorem sparseref09_Entries_B2_ls : loopsL sparseref09_Entries_B2 2 = [] := by kernel_rfl
theorem sparseref09_Entries_B0_ls : loopsL sparseref09_Entries_B0 0 = [(2, sparseref09_Entries_B2)] := by kernel_rfl
theorem sparseref09_Entries_C_ls : loopsL sparseref09_Entries_C 0 = [(0, sparseref09_Entries_B0)] := by kernel_rfl
abbrev sparseref09_Entries_L1_I : SS := [(1, .a (.bx 0 [(.int .i64), (.int .i64), (.imm (.int .i64)), (.imm (.int .i64)), (.imm (.int .u64))])), (3, .a (.c (.nm 1 (.pr (.int .i64) (.pr (.int .i64) (.int .u64)))))), (4, .a (.c (.int .i64))), (5, .a (.c (.int .i64)))]
abbrev sparseref09_Entries_L1_O : List (Ex × SS) := [(.exit 2, [(1, .a (.bx 0 [(.int .i64), (.int .i64), (.imm (.int .i64)), (.imm (.int .i64)), (.imm (.int .u64))])), (3, .a (.c (.nm 1 (.pr (.int .i64) (.pr (.int .i64) (.int .u64)))))), (4, .a (.c (.int .i64)))])]
def sparseref09_Entries_L1_R (m n : Nat) : sparseref09_Entries_L1_I.Val → Option (outVal sparseref09_Entries_L1_O) := (fun (x : (Int × Int × List Int × List Int × List Int × Unit) × (List (Int × Int × Int)) × Int × Int × Unit) => sparseref09_Entries_L1 m n x.1.1 x.1.2.1 x.1.2.2.1 x.1.2.2.2.1 x.1.2.2.2.2.1 x.2.1 x.2.2.1 x.2.2.2.1)
def sparseref09_Entries_L1_T (m n : Nat) : LoopT := ⟨2, sparseref09_Entries_L1_I, sparseref09_Entries_L1_O, sparseref09_Entries_L1_R m n⟩
theorem sparseref09_Entries_L1_kr (m n : Nat) (x : sparseref09_Entries_L1_I.Val) : roundK (mkC (outVal sparseref09_Entries_L1_O) [sparseref09_Check_T m]) (mkLp (outVal sparseref09_Entries_L1_O) []) tt 46 sparseref09_Entries_H sparseref09_Entries_B2 2 (sparseref09_Entries_L1_I.enc x) (Kl (ins := sparseref09_Entries_L1_I) (outs := sparseref09_Entries_L1_O) (sparseref09_Entries_L1_R m n)) = sparseref09_Entries_L1_R m (n + 1) x := by kernel_rfl
theorem sparseref09_Entries_L1_ok {E : Entry} (hE : EOf E 46 sparseref09_Entries_H.pins) (m : Nat) (n : Nat) : LoopOK Try.prog E sparseref09_Entries_B2 (sparseref09_Entries_L1_T m n) :=
  loop_ok (CO := CallOK Try.prog) hmix htt (fun _ _ _ _ h => h) hE (C := fun R => mkC R [sparseref09_Check_T m]) (L := []) (fun _ _ _ _ _ h => mkC_spec (AllF.mem (l := [sparseref09_Check_T m]) ⟨sparseref09_Check_ok m, trivial⟩) h) (fun _ _ => loopsIn_of sparseref09_Entries_B2_ls trivial) (fun n => (sparseref09_Entries_L1_R m n)) (fun _ => by kernel_rfl) (sparseref09_Entries_L1_kr m) n
abbrev sparseref09_Entries_L0_I : SS := [(1, .a (.bx 0 [(.int .i64), (.int .i64), (.imm (.int .i64)), (.imm (.int .i64)), (.imm (.int .u64))])), (3, .a (.c (.nm 1 (.pr (.int .i64) (.pr (.int .i64) (.int .u64)))))), (4, .a (.c (.int .i64)))]
abbrev sparseref09_Entries_L0_O : List (Ex × SS) := [(.exit 0, [(3, .a (.c (.nm 0 (.pr (.int .i64) (.pr (.int .i64) (.int .u64))))))])]
def sparseref09_Entries_L0_R (m n : Nat) : sparseref09_Entries_L0_I.Val → Option (outVal sparseref09_Entries_L0_O) := (fun (x : (Int × Int × List Int × List Int × List Int × Unit) × (List (Int × Int × Int)) × Int × Unit) => sparseref09_Entries_L0 m n x.1.1 x.1.2.1 x.1.2.2.1 x.1.2.2.2.1 x.1.2.2.2.2.1 x.2.1 x.2.2.1)
def sparseref09_Entries_L0_T (m n : Nat) : LoopT := ⟨0, sparseref09_Entries_L0_I, sparseref09_Entries_L0_O, sparseref09_Entries_L0_R m n⟩
theorem sparseref09_Entries_L0_kr (m n : Nat) (x : sparseref09_Entries_L0_I.Val) : roundK (mkC (outVal sparseref09_Entries_L0_O) [sparseref09_Check_T m]) (mkLp (outVal sparseref09_Entries_L0_O) [sparseref09_Entries_L1_T m m]) tt 46 sparseref09_Entries_H sparseref09_Entries_B0 0 (sparseref09_Entries_L0_I.enc x) (Kl (ins := sparseref09_Entries_L0_I) (outs := sparseref09_Entries_L0_O) (sparseref09_Entries_L0_R m n)) = sparseref09_Entries_L0_R m (n + 1) x := by kernel_rfl
theorem sparseref09_Entries_L0_ok {E : Entry} (hE : EOf E 46 sparseref09_Entries_H.pins) (m : Nat) (n : Nat) : LoopOK Try.prog E sparseref09_Entries_B0 (sparseref09_Entries_L0_T m n) :=
  loop_ok (CO := CallOK Try.prog) hmix htt (fun _ _ _ _ h => h) hE (C := fun R => mkC R [sparseref09_Check_T m]) (L := [sparseref09_Entries_L1_T m m]) (fun _ _ _ _ _ h => mkC_spec (AllF.mem (l := [sparseref09_Check_T m]) ⟨sparseref09_Check_ok m, trivial⟩) h) (fun _ _ => loopsIn_of sparseref09_Entries_B0_ls ⟨mkLp_all ⟨fun _ => sparseref09_Entries_L1_ok hE m m, trivial⟩, trivial⟩) (fun n => (sparseref09_Entries_L0_R m n)) (fun _ => by kernel_rfl) (sparseref09_Entries_L0_kr m) n
theorem sparseref09_Entries_kr (m : Nat) (x : ShLVal sparseref09_Entries_A) : fnK (mkC (sparseref09_Entries_S.Val × ShLVal sparseref09_Entries_U) [sparseref09_Check_T m]) (mkLp (sparseref09_Entries_S.Val × ShLVal sparseref09_Entries_U) [sparseref09_Entries_L0_T m m]) tt sparseref09_Entries_H Try.f31 (encS sparseref09_Entries_A x) (Kd sparseref09_Entries_S sparseref09_Entries_U) = sparseref09_Entries_R m x := by kernel_rfl
theorem sparseref09_Entries_ok (m : Nat) : FunOK Try.prog (sparseref09_Entries_T m) :=
  fun_ok hmix htt (sparseref09_Entries_T m) Try.func31 (c := sparseref09_Entries_C) (by kernel_rfl) (by kernel_rfl) (Lc := [sparseref09_Check_T m]) (AllF.mem (l := [sparseref09_Check_T m]) ⟨sparseref09_Check_ok m, trivial⟩) (L := [sparseref09_Entries_L0_T m m]) (fun _ hE _ _ => loopsIn_of sparseref09_Entries_C_ls ⟨mkLp_all ⟨fun _ => sparseref09_Entries_L0_ok hE m m, trivial⟩, trivial⟩) (sparseref09_Entries_kr m)
/-! 32 sparse/sparsekit.In -/
def sparsekit_In_H : Hints := { regs := [⟨[], [0, 1]⟩, ⟨[], [0, 1, 5]⟩, ⟨[], [0, 1, 5, 9]⟩, ⟨[(0, 1)], [0, 1, 5]⟩, ⟨[], [0, 1, 5, 17]⟩, ⟨[], [4]⟩, ⟨[], [4]⟩], heads := [(0, [0, 1, 5])], exits := [(0, []), (1, [0, 1, 5])], rets := [4], pins := [], spec := [[false]] }
abbrev sparsekit_In_A : List Sh := [.a (.c (.imm (.int .i64))), .a (.c (.int .i64))]
abbrev sparsekit_In_S : Sh := .a (.c .bool)
abbrev sparsekit_In_U : List Sh := [.a (.c .dead), .a (.c .dead)]
def sparsekit_In_R (m : Nat) : ShLVal sparsekit_In_A → Option (sparsekit_In_S.Val × ShLVal sparsekit_In_U) := fun (x : List Int × Int × Unit) => sparsekit_In m x.1 x.2.1
def sparsekit_In_T (m : Nat) : FunT := ⟨32, sparsekit_In_A, sparsekit_In_S, sparsekit_In_U, sparsekit_In_R m⟩
noncomputable def sparsekit_In_C : Code := codeOf Try.f32
noncomputable def sparsekit_In_B0 : Code := loopAt sparsekit_In_C 0 0
theorem sparsekit_In_B0_ls : loopsL sparsekit_In_B0 0 = [] := by kernel_rfl
theorem sparsekit_In_C_ls : loopsL sparsekit_In_C 0 = [(0, sparsekit_In_B0)] := by kernel_rfl
abbrev sparsekit_In_L0_I : SS := [(0, .a (.c (.imm (.int .i64)))), (1, .a (.c (.int .i64))), (5, .a (.c (.int .i64)))]
abbrev sparsekit_In_L0_O : List (Ex × SS) := [(.ret, [(4, .a (.c .bool))]), (.exit 0, [])]
def sparsekit_In_L0_R (m n : Nat) : sparsekit_In_L0_I.Val → Option (outVal sparsekit_In_L0_O) := (fun (x : List Int × Int × Int × Unit) => sparsekit_In_L0 m n x.1 x.2.1 x.2.2.1)
def sparsekit_In_L0_T (m n : Nat) : LoopT := ⟨0, sparsekit_In_L0_I, sparsekit_In_L0_O, sparsekit_In_L0_R m n⟩
theorem sparsekit_In_L0_kr (m n : Nat) (x : sparsekit_In_L0_I.Val) : roundK (mkC (outVal sparsekit_In_L0_O) []) (mkLp (outVal sparsekit_In_L0_O) []) tt 18 sparsekit_In_H sparsekit_In_B0 0 (sparsekit_In_L0_I.enc x) (Kl (ins := sparsekit_In_L0_I) (outs := sparsekit_In_L0_O) (sparsekit_In_L0_R m n)) = sparsekit_In_L0_R m (n + 1) x := by kernel_rfl
theorem sparsekit_In_L0_ok {E : Entry} (hE : EOf E 18 sparsekit_In_H.pins) (m : Nat) (n : Nat) : LoopOK Try.prog E sparsekit_In_B0 (sparsekit_In_L0_T m n) :=
  loop_ok (CO := CallOK Try.prog) hmix htt (fun _ _ _ _ h => h) hE (C := fun R => mkC R []) (L := []) (fun _ _ _ _ _ h => mkC_spec (AllF.mem (l := []) trivial) h) (fun _ _ => loopsIn_of sparsekit_In_B0_ls trivial) (fun n => (sparsekit_In_L0_R m n)) (fun _ => by kernel_rfl) (sparsekit_In_L0_kr m) n
theorem sparsekit_In_kr (m : Nat) (x : ShLVal sparsekit_In_A) : fnK (mkC (sparsekit_In_S.Val × ShLVal sparsekit_In_U) []) (mkLp (sparsekit_In_S.Val × ShLVal sparsekit_In_U) [sparsekit_In_L0_T m m]) tt sparsekit_In_H Try.f32 (encS sparsekit_In_A x) (Kd sparsekit_In_S sparsekit_In_U) = sparsekit_In_R m x := by kernel_rfl
theorem sparsekit_In_ok (m : Nat) : FunOK Try.prog (sparsekit_In_T m) :=
  fun_ok hmix htt (sparsekit_In_T m) Try.func32 (c := sparsekit_In_C) (by kernel_rfl) (by kernel_rfl) (Lc := []) (AllF.mem (l := []) trivial) (L := [sparsekit_In_L0_T m m]) (fun _ hE _ _ => loopsIn_of sparsekit_In_C_ls ⟨mkLp_all ⟨fun _ => sparsekit_In_L0_ok hE m m, trivial⟩, trivial⟩) (sparsekit_In_kr m)
/-! 13 sparse/sparseref13.Check -/
def sparseref13_Check_H : Hints := { regs := [⟨[], [1, 3, 5]⟩, ⟨[], [1, 3, 5, 7]⟩, ⟨[], [1, 3, 5, 7, 17]⟩, ⟨[(0, 1)], [6]⟩, ⟨[], [1, 3, 5, 23]⟩, ⟨[], [6]⟩, ⟨[], [1, 3, 5, 8]⟩, ⟨[], [1, 3, 5, 8, 9]⟩, ⟨[], [1, 3, 5, 8, 9, 10]⟩, ⟨[], [1, 3, 5, 8, 9, 10, 30]⟩, ⟨[(0, 1)], [1, 3, 5, 8, 9, 10]⟩, ⟨[], [1, 3, 5, 8, 9, 10, 11]⟩, ⟨[], [1, 3, 5, 8, 9, 10, 11, 38]⟩, ⟨[(5, 1)], [1, 3, 5, 8, 9, 10, 11, 49]⟩, ⟨[], [6]⟩, ⟨[(1, 1)], [1, 3, 5, 8, 9, 10]⟩, ⟨[(0, 1)], [1, 3, 5, 8, 9, 10]⟩, ⟨[(4, 1), (10, 1), (18, 1), (26, 1), (34, 1)], [3, 5, 91]⟩, ⟨[], [6]⟩, ⟨[], [5, 12]⟩, ⟨[], [5, 12, 13]⟩, ⟨[], [5, 12, 13, 97]⟩, ⟨[(0, 1)], [5, 12, 13]⟩, ⟨[(9, 1)], [5, 12, 13, 119]⟩, ⟨[], [6]⟩, ⟨[], [6]⟩], heads := [(0, [1, 3, 5, 8, 9, 10]), (2, [5, 12, 13])], exits := [(0, [3, 5, 8]), (1, [1, 3, 5, 8, 9, 10]), (2, []), (3, [5, 12, 13])], rets := [6], pins := [], spec := [[false]] }
abbrev sparseref13_Check_A : List Sh := [.a (.agg [(.int .i64), (.int .i64), (.imm (.int .i64)), (.imm (.int .i64)), (.imm (.int .u64))]), .a (.c (.imm (.int .i64))), .a (.agg [(.imm (.int .i64)), (.imm (.int .i64))])]
abbrev sparseref13_Check_S : Sh := .a (.c (.int .i64))
abbrev sparseref13_Check_U : List Sh := [.a (.c .dead), .a (.c .dead), .a (.c .dead)]
def sparseref13_Check_R (m : Nat) : ShLVal sparseref13_Check_A → Option (sparseref13_Check_S.Val × ShLVal sparseref13_Check_U) := fun (x : (Int × Int × List Int × List Int × List Int × Unit) × List Int × (List Int × List Int × Unit) × Unit) => sparseref13_Check m x.1.1 x.1.2.1 x.1.2.2.1 x.1.2.2.2.1 x.1.2.2.2.2.1 x.2.1 x.2.2.1.1 x.2.2.1.2.1
def sparseref13_Check_T (m : Nat) : FunT := ⟨13, sparseref13_Check_A, sparseref13_Check_S, sparseref13_Check_U, sparseref13_Check_R m⟩
noncomputable def sparseref13_Check_C : Code := codeOf Try.f13
noncomputable def sparseref13_Check_B0 : Code := loopAt sparseref13_Check_C 0 0
theorem sparseref13_Check_B0_ls : loopsL sparseref13_Check_B0 0 = [] := by kernel_rfl
noncomputable def sparseref13_Check_B2 : Code := loopAt sparseref13_Check_C 0 1
theorem sparseref13_Check_B2_ls : loopsL sparseref13_Check_B2 2 = [] := by kernel_rfl
theorem sparseref13_Check_C_ls : loopsL sparseref13_Check_C 0 = [(0, sparseref13_Check_B0), (2, sparseref13_Check_B2)] := by kernel_rfl
abbrev sparseref13_Check_L1_I : SS := [(5, .a (.bx 0 [(.imm (.int .i64)), (.imm (.int .i64))])), (12, .a (.c (.nm 1 (.pr (.int .i64) (.pr (.int .i64) (.int .u64)))))), (13, .a (.c (.int .i64)))]
abbrev sparseref13_Check_L1_O : List (Ex × SS) := [(.ret, [(6, .a (.c (.int .i64)))]), (.exit 2, [])]
def sparseref13_Check_L1_R (m n : Nat) : sparseref13_Check_L1_I.Val → Option (outVal sparseref13_Check_L1_O) := (fun (x : (List Int × List Int × Unit) × (List (Int × Int × Int)) × Int × Unit) => sparseref13_Check_L1 m n x.1.1 x.1.2.1 x.2.1 x.2.2.1)
def sparseref13_Check_L1_T (m n : Nat) : LoopT := ⟨2, sparseref13_Check_L1_I, sparseref13_Check_L1_O, sparseref13_Check_L1_R m n⟩
theorem sparseref13_Check_L1_kr (m n : Nat) (x : sparseref13_Check_L1_I.Val) : roundK (mkC (outVal sparseref13_Check_L1_O) [sparseref09_Check_T m, sparseref09_Stored_T m, sparsekit_Ascending_T m, sparseref09_Range_T m, sparseref09_Entries_T m, sparsekit_In_T m]) (mkLp (outVal sparseref13_Check_L1_O) []) tt 120 sparseref13_Check_H sparseref13_Check_B2 2 (sparseref13_Check_L1_I.enc x) (Kl (ins := sparseref13_Check_L1_I) (outs := sparseref13_Check_L1_O) (sparseref13_Check_L1_R m n)) = sparseref13_Check_L1_R m (n + 1) x := by kernel_rfl
theorem sparseref13_Check_L1_ok {E : Entry} (hE : EOf E 120 sparseref13_Check_H.pins) (m : Nat) (n : Nat) : LoopOK Try.prog E sparseref13_Check_B2 (sparseref13_Check_L1_T m n) :=
  loop_ok (CO := CallOK Try.prog) hmix htt (fun _ _ _ _ h => h) hE (C := fun R => mkC R [sparseref09_Check_T m, sparseref09_Stored_T m, sparsekit_Ascending_T m, sparseref09_Range_T m, sparseref09_Entries_T m, sparsekit_In_T m]) (L := []) (fun _ _ _ _ _ h => mkC_spec (AllF.mem (l := [sparseref09_Check_T m, sparseref09_Stored_T m, sparsekit_Ascending_T m, sparseref09_Range_T m, sparseref09_Entries_T m, sparsekit_In_T m]) ⟨sparseref09_Check_ok m, sparseref09_Stored_ok m, sparsekit_Ascending_ok m, sparseref09_Range_ok m, sparseref09_Entries_ok m, sparsekit_In_ok m, trivial⟩) h) (fun _ _ => loopsIn_of sparseref13_Check_B2_ls trivial) (fun n => (sparseref13_Check_L1_R m n)) (fun _ => by kernel_rfl) (sparseref13_Check_L1_kr m) n
abbrev sparseref13_Check_L0_I : SS := [(1, .a (.c (.imm (.int .i64)))), (3, .a (.bx 0 [(.int .i64), (.int .i64), (.imm (.int .i64)), (.imm (.int .i64)), (.imm (.int .u64))])), (5, .a (.bx 1 [(.imm (.int .i64)), (.imm (.int .i64))])), (8, .a (.c (.int .i64))), (9, .a (.c (.nm 2 .bool))), (10, .a (.c (.int .i64)))]
abbrev sparseref13_Check_L0_O : List (Ex × SS) := [(.ret, [(6, .a (.c (.int .i64)))]), (.exit 0, [(3, .a (.bx 0 [(.int .i64), (.int .i64), (.imm (.int .i64)), (.imm (.int .i64)), (.imm (.int .u64))])), (5, .a (.bx 1 [(.imm (.int .i64)), (.imm (.int .i64))])), (8, .a (.c (.int .i64)))])]
def sparseref13_Check_L0_R (m n : Nat) : sparseref13_Check_L0_I.Val → Option (outVal sparseref13_Check_L0_O) := (fun (x : List Int × (Int × Int × List Int × List Int × List Int × Unit) × (List Int × List Int × Unit) × Int × List Bool × Int × Unit) => sparseref13_Check_L0 m n x.1 x.2.1.1 x.2.1.2.1 x.2.1.2.2.1 x.2.1.2.2.2.1 x.2.1.2.2.2.2.1 x.2.2.1.1 x.2.2.1.2.1 x.2.2.2.1 x.2.2.2.2.1 x.2.2.2.2.2.1)
def sparseref13_Check_L0_T (m n : Nat) : LoopT := ⟨0, sparseref13_Check_L0_I, sparseref13_Check_L0_O, sparseref13_Check_L0_R m n⟩
theorem sparseref13_Check_L0_kr (m n : Nat) (x : sparseref13_Check_L0_I.Val) : roundK (mkC (outVal sparseref13_Check_L0_O) [sparseref09_Check_T m, sparseref09_Stored_T m, sparsekit_Ascending_T m, sparseref09_Range_T m, sparseref09_Entries_T m, sparsekit_In_T m]) (mkLp (outVal sparseref13_Check_L0_O) []) tt 120 sparseref13_Check_H sparseref13_Check_B0 0 (sparseref13_Check_L0_I.enc x) (Kl (ins := sparseref13_Check_L0_I) (outs := sparseref13_Check_L0_O) (sparseref13_Check_L0_R m n)) = sparseref13_Check_L0_R m (n + 1) x := by kernel_rfl
theorem sparseref13_Check_L0_ok {E : Entry} (hE : EOf E 120 sparseref13_Check_H.pins) (m : Nat) (n : Nat) : LoopOK Try.prog E sparseref13_Check_B0 (sparseref13_Check_L0_T m n) :=
  loop_ok (CO := CallOK Try.prog) hmix htt (fun _ _ _ _ h => h) hE (C := fun R => mkC R [sparseref09_Check_T m, sparseref09_Stored_T m, sparsekit_Ascending_T m, sparseref09_Range_T m, sparseref09_Entries_T m, sparsekit_In_T m]) (L := []) (fun _ _ _ _ _ h => mkC_spec (AllF.mem (l := [sparseref09_Check_T m, sparseref09_Stored_T m, sparsekit_Ascending_T m, sparseref09_Range_T m, sparseref09_Entries_T m, sparsekit_In_T m]) ⟨sparseref09_Check_ok m, sparseref09_Stored_ok m, sparsekit_Ascending_ok m, sparseref09_Range_ok m, sparseref09_Entries_ok m, sparsekit_In_ok m, trivial⟩) h) (fun _ _ => loopsIn_of sparseref13_Check_B0_ls trivial) (fun n => (sparseref13_Check_L0_R m n)) (fun _ => by kernel_rfl) (sparseref13_Check_L0_kr m) n
theorem sparseref13_Check_kr (m : Nat) (x : ShLVal sparseref13_Check_A) : fnK (mkC (sparseref13_Check_S.Val × ShLVal sparseref13_Check_U) [sparseref09_Check_T m, sparseref09_Stored_T m, sparsekit_Ascending_T m, sparseref09_Range_T m, sparseref09_Entries_T m, sparsekit_In_T m]) (mkLp (sparseref13_Check_S.Val × ShLVal sparseref13_Check_U) [sparseref13_Check_L0_T m m, sparseref13_Check_L1_T m m]) tt sparseref13_Check_H Try.f13 (encS sparseref13_Check_A x) (Kd sparseref13_Check_S sparseref13_Check_U) = sparseref13_Check_R m x := by kernel_rfl
theorem sparseref13_Check_ok (m : Nat) : FunOK Try.prog (sparseref13_Check_T m) :=
  fun_ok hmix htt (sparseref13_Check_T m) Try.func13 (c := sparseref13_Check_C) (by kernel_rfl) (by kernel_rfl) (Lc := [sparseref09_Check_T m, sparseref09_Stored_T m, sparsekit_Ascending_T m, sparseref09_Range_T m, sparseref09_Entries_T m, sparsekit_In_T m]) (AllF.mem (l := [sparseref09_Check_T m, sparseref09_Stored_T m, sparsekit_Ascending_T m, sparseref09_Range_T m, sparseref09_Entries_T m, sparsekit_In_T m]) ⟨sparseref09_Check_ok m, sparseref09_Stored_ok m, sparsekit_Ascending_ok m, sparseref09_Range_ok m, sparseref09_Entries_ok m, sparsekit_In_ok m, trivial⟩) (L := [sparseref13_Check_L0_T m m, sparseref13_Check_L1_T m m]) (fun _ hE _ _ => loopsIn_of sparseref13_Check_C_ls ⟨mkLp_all ⟨fun _ => sparseref13_Check_L0_ok hE m m, fun h => absurd (show (2 : Nat) = 0 from h) (by decide), trivial⟩, mkLp_all ⟨fun h => absurd (show (0 : Nat) = 2 from h) (by decide), fun _ => sparseref13_Check_L1_ok hE m m, trivial⟩, trivial⟩) (sparseref13_Check_kr m)
/-! 33 sparse/sparsekit.Floats -/
def sparsekit_Floats_H : Hints := { regs := [⟨[], [0, 1]⟩, ⟨[], [0, 1, 10]⟩, ⟨[], [4]⟩, ⟨[], [0, 1, 5]⟩, ⟨[], [0, 1, 5, 14]⟩, ⟨[(0, 1)], [0, 1, 5]⟩, ⟨[], [0, 1, 5, 25]⟩, ⟨[], [4]⟩, ⟨[], [4]⟩], heads := [(0, [0, 1, 5])], exits := [(0, []), (1, [0, 1, 5])], rets := [4], pins := [], spec := [[false]] }
abbrev sparsekit_Floats_A : List Sh := [.a (.c (.imm (.int .u64))), .a (.c (.imm (.int .u64)))]
abbrev sparsekit_Floats_S : Sh := .a (.c .bool)
abbrev sparsekit_Floats_U : List Sh := [.a (.c .dead), .a (.c .dead)]
def sparsekit_Floats_R (m : Nat) : ShLVal sparsekit_Floats_A → Option (sparsekit_Floats_S.Val × ShLVal sparsekit_Floats_U) := fun (x : List Int × List Int × Unit) => sparsekit_Floats m x.1 x.2.1
def sparsekit_Floats_T (m : Nat) : FunT := ⟨33, sparsekit_Floats_A, sparsekit_Floats_S, sparsekit_Floats_U, sparsekit_Floats_R m⟩
noncomputable def sparsekit_Floats_C : Code := codeOf Try.f33
noncomputable def sparsekit_Floats_B0 : Code := loopAt sparsekit_Floats_C 0 0
theorem sparsekit_Floats_B0_ls : loopsL sparsekit_Floats_B0 0 = [] := by kernel_rfl
theorem sparsekit_Floats_C_ls : loopsL sparsekit_Floats_C 0 = [(0, sparsekit_Floats_B0)] := by kernel_rfl
abbrev sparsekit_Floats_L0_I : SS := [(0, .a (.c (.imm (.int .u64)))), (1, .a (.c (.imm (.int .u64)))), (5, .a (.c (.int .i64)))]
abbrev sparsekit_Floats_L0_O : List (Ex × SS) := [(.ret, [(4, .a (.c .bool))]), (.exit 0, [])]
def sparsekit_Floats_L0_R (m n : Nat) : sparsekit_Floats_L0_I.Val → Option (outVal sparsekit_Floats_L0_O) := (fun (x : List Int × List Int × Int × Unit) => sparsekit_Floats_L0 m n x.1 x.2.1 x.2.2.1)
def sparsekit_Floats_L0_T (m n : Nat) : LoopT := ⟨0, sparsekit_Floats_L0_I, sparsekit_Floats_L0_O, sparsekit_Floats_L0_R m n⟩
theorem sparsekit_Floats_L0_kr (m n : Nat) (x : sparsekit_Floats_L0_I.Val) : roundK (mkC (outVal sparsekit_Floats_L0_O) []) (mkLp (outVal sparsekit_Floats_L0_O) []) tt 26 sparsekit_Floats_H sparsekit_Floats_B0 0 (sparsekit_Floats_L0_I.enc x) (Kl (ins := sparsekit_Floats_L0_I) (outs := sparsekit_Floats_L0_O) (sparsekit_Floats_L0_R m n)) = sparsekit_Floats_L0_R m (n + 1) x := by kernel_rfl
theorem sparsekit_Floats_L0_ok {E : Entry} (hE : EOf E 26 sparsekit_Floats_H.pins) (m : Nat) (n : Nat) : LoopOK Try.prog E sparsekit_Floats_B0 (sparsekit_Floats_L0_T m n) :=
  loop_ok (CO := CallOK Try.prog) hmix htt (fun _ _ _ _ h => h) hE (C := fun R => mkC R []) (L := []) (fun _ _ _ _ _ h => mkC_spec (AllF.mem (l := []) trivial) h) (fun _ _ => loopsIn_of sparsekit_Floats_B0_ls trivial) (fun n => (sparsekit_Floats_L0_R m n)) (fun _ => by kernel_rfl) (sparsekit_Floats_L0_kr m) n
theorem sparsekit_Floats_kr (m : Nat) (x : ShLVal sparsekit_Floats_A) : fnK (mkC (sparsekit_Floats_S.Val × ShLVal sparsekit_Floats_U) []) (mkLp (sparsekit_Floats_S.Val × ShLVal sparsekit_Floats_U) [sparsekit_Floats_L0_T m m]) tt sparsekit_Floats_H Try.f33 (encS sparsekit_Floats_A x) (Kd sparsekit_Floats_S sparsekit_Floats_U) = sparsekit_Floats_R m x := by kernel_rfl
theorem sparsekit_Floats_ok (m : Nat) : FunOK Try.prog (sparsekit_Floats_T m) :=
  fun_ok hmix htt (sparsekit_Floats_T m) Try.func33 (c := sparsekit_Floats_C) (by kernel_rfl) (by kernel_rfl) (Lc := []) (AllF.mem (l := []) trivial) (L := [sparsekit_Floats_L0_T m m]) (fun _ hE _ _ => loopsIn_of sparsekit_Floats_C_ls ⟨mkLp_all ⟨fun _ => sparsekit_Floats_L0_ok hE m m, trivial⟩, trivial⟩) (sparsekit_Floats_kr m)
/-! 14 sparse/sparsekit.Matrix -/
def sparsekit_Matrix_H : Hints := { regs := [⟨[], [2, 3]⟩, ⟨[(5, 1), (12, 1), (19, 1), (26, 1)], [4]⟩], heads := [], exits := [], rets := [4], pins := [], spec := [[false]] }
abbrev sparsekit_Matrix_A : List Sh := [.a (.agg [(.int .i64), (.int .i64), (.imm (.int .i64)), (.imm (.int .i64)), (.imm (.int .u64))]), .a (.agg [(.int .i64), (.int .i64), (.imm (.int .i64)), (.imm (.int .i64)), (.imm (.int .u64))])]
abbrev sparsekit_Matrix_S : Sh := .a (.c .bool)
abbrev sparsekit_Matrix_U : List Sh := [.a (.c .dead), .a (.c .dead)]
def sparsekit_Matrix_R (m : Nat) : ShLVal sparsekit_Matrix_A → Option (sparsekit_Matrix_S.Val × ShLVal sparsekit_Matrix_U) := fun (x : (Int × Int × List Int × List Int × List Int × Unit) × (Int × Int × List Int × List Int × List Int × Unit) × Unit) => sparsekit_Matrix m x.1.1 x.1.2.1 x.1.2.2.1 x.1.2.2.2.1 x.1.2.2.2.2.1 x.2.1.1 x.2.1.2.1 x.2.1.2.2.1 x.2.1.2.2.2.1 x.2.1.2.2.2.2.1
def sparsekit_Matrix_T (m : Nat) : FunT := ⟨14, sparsekit_Matrix_A, sparsekit_Matrix_S, sparsekit_Matrix_U, sparsekit_Matrix_R m⟩
noncomputable def sparsekit_Matrix_C : Code := codeOf Try.f14
theorem sparsekit_Matrix_C_ls : loopsL sparsekit_Matrix_C 0 = [] := by kernel_rfl
theorem sparsekit_Matrix_kr (m : Nat) (x : ShLVal sparsekit_Matrix_A) : fnK (mkC (sparsekit_Matrix_S.Val × ShLVal sparsekit_Matrix_U) [sparsekit_Ints_T m, sparsekit_Floats_T m]) (mkLp (sparsekit_Matrix_S.Val × ShLVal sparsekit_Matrix_U) []) tt sparsekit_Matrix_H Try.f14 (encS sparsekit_Matrix_A x) (Kd sparsekit_Matrix_S sparsekit_Matrix_U) = sparsekit_Matrix_R m x := by kernel_rfl
theorem sparsekit_Matrix_ok (m : Nat) : FunOK Try.prog (sparsekit_Matrix_T m) :=
  fun_ok hmix htt (sparsekit_Matrix_T m) Try.func14 (c := sparsekit_Matrix_C) (by kernel_rfl) (by kernel_rfl) (Lc := [sparsekit_Ints_T m, sparsekit_Floats_T m]) (AllF.mem (l := [sparsekit_Ints_T m, sparsekit_Floats_T m]) ⟨sparsekit_Ints_ok m, sparsekit_Floats_ok m, trivial⟩) (L := []) (fun _ hE _ _ => loopsIn_of sparsekit_Matrix_C_ls trivial) (sparsekit_Matrix_kr m)
/-! 3 sparse/sparselaw13.MatchingExact -/
def sparselaw13_MatchingExact_H : Hints := { regs := [⟨[], [1, 3, 5]⟩, ⟨[(3, 1), (8, 1), (14, 1)], [1, 3, 5, 35]⟩, ⟨[], [6]⟩, ⟨[], [1, 3, 5, 7]⟩, ⟨[(2, 1)], [1, 3, 5, 7, 8, 9]⟩, ⟨[(2, 1)], [1, 3, 5, 7, 8, 9, 10, 11]⟩, ⟨[(2, 1)], [1, 3, 5, 7, 8, 9, 10, 11, 12, 13]⟩, ⟨[(2, 1)], [1, 3, 5, 7, 8, 9, 10, 11, 12, 13, 14, 15]⟩, ⟨[(0, 1), (1, 1), (3, 1), (4, 1), (5, 1), (8, 1), (15, 1), (22, 1), (23, 1), (24, 1), (27, 1), (38, 1), (43, 1)], [6]⟩], heads := [], exits := [], rets := [6], pins := [], spec := [[false]] }
abbrev sparselaw13_MatchingExact_A : List Sh := [.a (.agg [(.int .i64), (.int .i64), (.imm (.int .i64)), (.imm (.int .i64)), (.imm (.int .u64))]), .a (.c (.imm (.int .i64))), .a (.agg [(.imm (.int .i64)), (.imm (.int .i64))])]
abbrev sparselaw13_MatchingExact_S : Sh := .a (.c .bool)
abbrev sparselaw13_MatchingExact_U : List Sh := [.a (.c .dead), .a (.c .dead), .a (.c .dead)]
def sparselaw13_MatchingExact_R (m : Nat) : ShLVal sparselaw13_MatchingExact_A → Option (sparselaw13_MatchingExact_S.Val × ShLVal sparselaw13_MatchingExact_U) := fun (x : (Int × Int × List Int × List Int × List Int × Unit) × List Int × (List Int × List Int × Unit) × Unit) => sparselaw13_MatchingExact m x.1.1 x.1.2.1 x.1.2.2.1 x.1.2.2.2.1 x.1.2.2.2.2.1 x.2.1 x.2.2.1.1 x.2.2.1.2.1
def sparselaw13_MatchingExact_T (m : Nat) : FunT := ⟨3, sparselaw13_MatchingExact_A, sparselaw13_MatchingExact_S, sparselaw13_MatchingExact_U, sparselaw13_MatchingExact_R m⟩
noncomputable def sparselaw13_MatchingExact_C : Code := codeOf Try.f3
theorem sparselaw13_MatchingExact_C_ls : loopsL sparselaw13_MatchingExact_C 0 = [] := by kernel_rfl
theorem sparselaw13_MatchingExact_kr (m : Nat) (x : ShLVal sparselaw13_MatchingExact_A) : fnK (mkC (sparselaw13_MatchingExact_S.Val × ShLVal sparselaw13_MatchingExact_U) [sparselaw13_small_T m, sparselaw13_awake_T m, sparsekit_TwinMatrix_T m, matching_Maximum_T m, sparseref13_Maximum_T m, matching_Cover_T m, sparseref13_Cover_T m, sparsekit_Ints_T m, matching_Check_T m, sparseref13_Check_T m, sparsekit_Matrix_T m]) (mkLp (sparselaw13_MatchingExact_S.Val × ShLVal sparselaw13_MatchingExact_U) []) tt sparselaw13_MatchingExact_H Try.f3 (encS sparselaw13_MatchingExact_A x) (Kd sparselaw13_MatchingExact_S sparselaw13_MatchingExact_U) = sparselaw13_MatchingExact_R m x := by kernel_rfl
theorem sparselaw13_MatchingExact_ok (m : Nat) : FunOK Try.prog (sparselaw13_MatchingExact_T m) :=
  fun_ok hmix htt (sparselaw13_MatchingExact_T m) Try.func3 (c := sparselaw13_MatchingExact_C) (by kernel_rfl) (by kernel_rfl) (Lc := [sparselaw13_small_T m, sparselaw13_awake_T m, sparsekit_TwinMatrix_T m, matching_Maximum_T m, sparseref13_Maximum_T m, matching_Cover_T m, sparseref13_Cover_T m, sparsekit_Ints_T m, matching_Check_T m, sparseref13_Check_T m, sparsekit_Matrix_T m]) (AllF.mem (l := [sparselaw13_small_T m, sparselaw13_awake_T m, sparsekit_TwinMatrix_T m, matching_Maximum_T m, sparseref13_Maximum_T m, matching_Cover_T m, sparseref13_Cover_T m, sparsekit_Ints_T m, matching_Check_T m, sparseref13_Check_T m, sparsekit_Matrix_T m]) ⟨sparselaw13_small_ok m, sparselaw13_awake_ok m, sparsekit_TwinMatrix_ok m, matching_Maximum_ok m, sparseref13_Maximum_ok m, matching_Cover_ok m, sparseref13_Cover_ok m, sparsekit_Ints_ok m, matching_Check_ok m, sparseref13_Check_ok m, sparsekit_Matrix_ok m, trivial⟩) (L := []) (fun _ hE _ _ => loopsIn_of sparselaw13_MatchingExact_C_ls trivial) (sparselaw13_MatchingExact_kr m)
end Go.Vs.F
