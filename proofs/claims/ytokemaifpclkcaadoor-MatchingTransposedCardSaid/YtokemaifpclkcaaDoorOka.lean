/- The plain functions are what the code does (by program: gen.py). -/
import Derived.Test.YtokemaifpclkcaaDoorFn
import Derived.Test.YtokemaifpclkcaaDoorVc
import Derived.Test.YtokemaifpclkcaaDoorProg
import Derived.KernelRfl

/-! MbOk1 -/
set_option linter.unusedVariables false
set_option maxRecDepth 100000
namespace Go.Vs.F
open Go.Proofs
def tt : TT := [none, none, none, some ⟨(.int .i64), [.int .i64]⟩, some ⟨.bool, [.bool]⟩, some ⟨(.int .u8), [.int .u8]⟩, none, none, none, some ⟨.string, [.other]⟩, none, none, none, none, none, none, none, none, none, none, none, none, some ⟨(.slice 3 (.int .i64)), [.nil (.int .i64)]⟩, none, some ⟨(.slice 47 (.int .u64)), [.nil (.int .u64)]⟩, none, some ⟨(.struct [(0, 1), (1, 1), (2, 1), (3, 1), (4, 1)]), [.int .i64, .int .i64, .nil (.int .i64), .nil (.int .i64), .nil (.int .u64)]⟩, none, none, none, none, none, some ⟨(.struct [(0, 1), (1, 1)]), [.nil (.int .i64), .nil (.int .i64)]⟩, none, none, none, none, none, none, none, some ⟨(.slice 4 .bool), [.nil .bool]⟩, none, none, none, some ⟨(.slice 49 (.pr (.int .i64) (.pr (.int .i64) (.int .u64)))), [.nil (.pr (.int .i64) (.pr (.int .i64) (.int .u64)))]⟩, none, some ⟨(.int .u64), [.int .u64]⟩, some ⟨(.int .u64), [.int .u64]⟩, none, some ⟨(.struct [(0, 1), (1, 1), (2, 1)]), [.int .i64, .int .i64, .int .u64]⟩, none, none, none, none, none, none, none, none, none, none, none, some ⟨(.slice 22 (.sl false (.int .i64))), [.nil (.sl false (.int .i64))]⟩, none, some ⟨(.struct [(0, 1), (1, 1), (2, 1), (3, 1)]), [.nil (.sl false (.int .i64)), .nil (.int .i64), .nil (.int .i64), .nil .bool]⟩, none, none, none, none, none, none, none, none, none, none, none, none, none, none, some ⟨(.int .u64), [.int .u64]⟩, none, none, none, none, none, none, none, none, none, none, none, none, none, none, none, some ⟨(.slice 123 (.int .u32)), [.nil (.int .u32)]⟩, none, some ⟨(.struct [(0, 1), (1, 1)]), [.bool, .nil (.int .u32)]⟩, none, some ⟨(.struct [(0, 1), (1, 2), (3, 1)]), [.bool, .bool, .nil (.int .u32), .int .i64]⟩, none, none, none, none, none, none, none, none, none, none, none, none, none, none, none, none, none, none, none, none, none, none, none, none, some ⟨(.int .u32), [.int .u32]⟩, none, none, none, none, none, none, none, none, none, none, none, none, none, some ⟨(.tab 0 .u8 [0, 1, 28, 2, 29, 14, 24, 3, 30, 22, 20, 15, 25, 17, 4, 8, 31, 27, 13, 23, 21, 19, 16, 7, 26, 12, 18, 6, 11, 5, 10, 9]), [.other, .other, .other, .other, .other, .other, .other, .other, .other, .other, .other, .other, .other, .other, .other, .other, .other, .other, .other, .other, .other, .other, .other, .other, .other, .other, .other, .other, .other, .other, .other, .other]⟩]
theorem htt : TTok Tryd.prog tt := ttChk_spec (by kernel_rfl)
theorem hmix : Tryd.prog.follows .mixedOrders = true := by kernel_rfl
/-! 46 sparse/matrix.within -/
def matrix_within_H : Hints := { regs := [⟨[], [0, 1, 2]⟩, ⟨[(1, 1), (3, 1), (5, 1)], [6]⟩], heads := [], exits := [], rets := [6], pins := [], spec := [[false]] }
abbrev matrix_within_A : List Sh := [.a (.c (.int .i64)), .a (.c (.int .i64)), .a (.c (.int .i64))]
abbrev matrix_within_S : Sh := .a (.c .bool)
abbrev matrix_within_U : List Sh := [.a (.c .dead), .a (.c .dead), .a (.c .dead)]
def matrix_within_R (m : Nat) : ShLVal matrix_within_A → Option (matrix_within_S.Val × ShLVal matrix_within_U) := fun (x : Int × Int × Int × Unit) => matrix_within m x.1 x.2.1 x.2.2.1
def matrix_within_T (m : Nat) : FunT := ⟨46, matrix_within_A, matrix_within_S, matrix_within_U, matrix_within_R m⟩
noncomputable def matrix_within_C : Code := codeOf Tryd.f46
theorem matrix_within_C_ls : loopsL matrix_within_C 0 = [] := by kernel_rfl
theorem matrix_within_kr (m : Nat) (x : ShLVal matrix_within_A) : fnK (mkC (matrix_within_S.Val × ShLVal matrix_within_U) []) (mkLp (matrix_within_S.Val × ShLVal matrix_within_U) []) tt matrix_within_H Tryd.f46 (encS matrix_within_A x) (Kd matrix_within_S matrix_within_U) = matrix_within m x.1 x.2.1 x.2.2.1 := by kernel_rfl
theorem matrix_within_ok (m : Nat) : FunOK Tryd.prog (matrix_within_T m) :=
  fun_ok hmix htt (matrix_within_T m) Tryd.func46 (c := matrix_within_C) (by kernel_rfl) (by kernel_rfl) (Lc := []) (AllF.mem (l := []) trivial) (L := []) (fun _ hE _ _ => loopsIn_of matrix_within_C_ls trivial) (fun x => (matrix_within_kr m x).trans (by kernel_rfl))
/-! 90 cmp.isNaN_int_ -/
def cmp_isNaN_H : Hints := { regs := [⟨[], [0]⟩, ⟨[], [2]⟩], heads := [], exits := [], rets := [2], pins := [], spec := [[false]] }
abbrev cmp_isNaN_A : List Sh := [.a (.c (.int .i64))]
abbrev cmp_isNaN_S : Sh := .a (.c .bool)
abbrev cmp_isNaN_U : List Sh := [.a (.c .dead)]
def cmp_isNaN_R (m : Nat) : ShLVal cmp_isNaN_A → Option (cmp_isNaN_S.Val × ShLVal cmp_isNaN_U) := fun (x : Int × Unit) => cmp_isNaN m x.1
def cmp_isNaN_T (m : Nat) : FunT := ⟨90, cmp_isNaN_A, cmp_isNaN_S, cmp_isNaN_U, cmp_isNaN_R m⟩
noncomputable def cmp_isNaN_C : Code := codeOf Tryd.f90
theorem cmp_isNaN_C_ls : loopsL cmp_isNaN_C 0 = [] := by kernel_rfl
theorem cmp_isNaN_kr (m : Nat) (x : ShLVal cmp_isNaN_A) : fnK (mkC (cmp_isNaN_S.Val × ShLVal cmp_isNaN_U) []) (mkLp (cmp_isNaN_S.Val × ShLVal cmp_isNaN_U) []) tt cmp_isNaN_H Tryd.f90 (encS cmp_isNaN_A x) (Kd cmp_isNaN_S cmp_isNaN_U) = cmp_isNaN m x.1 := by kernel_rfl
theorem cmp_isNaN_ok (m : Nat) : FunOK Tryd.prog (cmp_isNaN_T m) :=
  fun_ok hmix htt (cmp_isNaN_T m) Tryd.func90 (c := cmp_isNaN_C) (by kernel_rfl) (by kernel_rfl) (Lc := []) (AllF.mem (l := []) trivial) (L := []) (fun _ hE _ _ => loopsIn_of cmp_isNaN_C_ls trivial) (fun x => (cmp_isNaN_kr m x).trans (by kernel_rfl))
/-! 78 cmp.Less_int_ -/
def cmp_Less_H : Hints := { regs := [⟨[], [0, 1]⟩, ⟨[(2, 1), (7, 1)], [4]⟩], heads := [], exits := [], rets := [4], pins := [], spec := [[false]] }
abbrev cmp_Less_A : List Sh := [.a (.c (.int .i64)), .a (.c (.int .i64))]
abbrev cmp_Less_S : Sh := .a (.c .bool)
abbrev cmp_Less_U : List Sh := [.a (.c .dead), .a (.c .dead)]
def cmp_Less_R (m : Nat) : ShLVal cmp_Less_A → Option (cmp_Less_S.Val × ShLVal cmp_Less_U) := fun (x : Int × Int × Unit) => cmp_Less m x.1 x.2.1
def cmp_Less_T (m : Nat) : FunT := ⟨78, cmp_Less_A, cmp_Less_S, cmp_Less_U, cmp_Less_R m⟩
noncomputable def cmp_Less_C : Code := codeOf Tryd.f78
theorem cmp_Less_C_ls : loopsL cmp_Less_C 0 = [] := by kernel_rfl
theorem cmp_Less_kr (m : Nat) (x : ShLVal cmp_Less_A) : fnK (mkC (cmp_Less_S.Val × ShLVal cmp_Less_U) [cmp_isNaN_T m]) (mkLp (cmp_Less_S.Val × ShLVal cmp_Less_U) []) tt cmp_Less_H Tryd.f78 (encS cmp_Less_A x) (Kd cmp_Less_S cmp_Less_U) = cmp_Less m x.1 x.2.1 := by kernel_rfl
theorem cmp_Less_ok (m : Nat) : FunOK Tryd.prog (cmp_Less_T m) :=
  fun_ok hmix htt (cmp_Less_T m) Tryd.func78 (c := cmp_Less_C) (by kernel_rfl) (by kernel_rfl) (Lc := [cmp_isNaN_T m]) (AllF.mem (l := [cmp_isNaN_T m]) ⟨cmp_isNaN_ok m, trivial⟩) (L := []) (fun _ hE _ _ => loopsIn_of cmp_Less_C_ls trivial) (fun x => (cmp_Less_kr m x).trans (by kernel_rfl))
/-! 62 slices.IsSorted___int_int_ -/
def slices_IsSorted_H : Hints := { regs := [⟨[], [0]⟩, ⟨[], [0, 3]⟩, ⟨[], [0, 3, 8]⟩, ⟨[(0, 1)], [0, 3]⟩, ⟨[], [0, 3, 20]⟩, ⟨[], [2]⟩, ⟨[], [2]⟩], heads := [(0, [0, 3])], exits := [(0, []), (1, [0, 3])], rets := [2], pins := [], spec := [[false]] }
abbrev slices_IsSorted_A : List Sh := [.a (.c (.imm (.int .i64)))]
abbrev slices_IsSorted_S : Sh := .a (.c .bool)
abbrev slices_IsSorted_U : List Sh := [.a (.c .dead)]
def slices_IsSorted_R (m : Nat) : ShLVal slices_IsSorted_A → Option (slices_IsSorted_S.Val × ShLVal slices_IsSorted_U) := fun (x : List Int × Unit) => slices_IsSorted m x.1
def slices_IsSorted_T (m : Nat) : FunT := ⟨62, slices_IsSorted_A, slices_IsSorted_S, slices_IsSorted_U, slices_IsSorted_R m⟩
noncomputable def slices_IsSorted_C : Code := codeOf Tryd.f62
noncomputable def slices_IsSorted_B0 : Code := loopAt slices_IsSorted_C 0 0
theorem slices_IsSorted_B0_ls : loopsL slices_IsSorted_B0 0 = [] := by kernel_rfl
theorem slices_IsSorted_C_ls : loopsL slices_IsSorted_C 0 = [(0, slices_IsSorted_B0)] := by kernel_rfl
abbrev slices_IsSorted_L0_I : SS := [(0, .a (.c (.imm (.int .i64)))), (3, .a (.c (.int .i64)))]
abbrev slices_IsSorted_L0_O : List (Ex × SS) := [(.ret, [(2, .a (.c .bool))]), (.exit 0, [])]
def slices_IsSorted_L0_R (m n : Nat) : slices_IsSorted_L0_I.Val → Option (outVal slices_IsSorted_L0_O) := (fun (x : List Int × Int × Unit) => slices_IsSorted_L0 m n x.1 x.2.1)
def slices_IsSorted_L0_T (m n : Nat) : LoopT := ⟨0, slices_IsSorted_L0_I, slices_IsSorted_L0_O, slices_IsSorted_L0_R m n⟩
theorem slices_IsSorted_L0_kr (m n : Nat) (x : slices_IsSorted_L0_I.Val) : roundK (mkC (outVal slices_IsSorted_L0_O) [cmp_Less_T m]) (mkLp (outVal slices_IsSorted_L0_O) []) tt 21 slices_IsSorted_H slices_IsSorted_B0 0 (slices_IsSorted_L0_I.enc x) (Kl (ins := slices_IsSorted_L0_I) (outs := slices_IsSorted_L0_O) (slices_IsSorted_L0_R m n)) = slices_IsSorted_L0 m (n + 1) x.1 x.2.1 := by kernel_rfl
theorem slices_IsSorted_L0_ok {E : Entry} (hE : EOf Tryd.prog E 21 slices_IsSorted_H.pins) (m : Nat) (n : Nat) : LoopOK Tryd.prog E slices_IsSorted_B0 (slices_IsSorted_L0_T m n) :=
  loop_ok (CO := CallOK Tryd.prog) hmix htt (fun _ _ _ _ h => h) hE (C := fun R => mkC R [cmp_Less_T m]) (L := []) (fun _ _ _ _ _ h => mkC_spec (AllF.mem (l := [cmp_Less_T m]) ⟨cmp_Less_ok m, trivial⟩) h) (fun _ _ => loopsIn_of slices_IsSorted_B0_ls trivial) (fun n => (slices_IsSorted_L0_R m n)) (fun _ => by kernel_rfl) (fun n x => (slices_IsSorted_L0_kr m n x).trans (by kernel_rfl)) n
theorem slices_IsSorted_kr (m : Nat) (x : ShLVal slices_IsSorted_A) : fnK (mkC (slices_IsSorted_S.Val × ShLVal slices_IsSorted_U) [cmp_Less_T m]) (mkLp (slices_IsSorted_S.Val × ShLVal slices_IsSorted_U) [slices_IsSorted_L0_T m m]) tt slices_IsSorted_H Tryd.f62 (encS slices_IsSorted_A x) (Kd slices_IsSorted_S slices_IsSorted_U) = slices_IsSorted m x.1 := by kernel_rfl
theorem slices_IsSorted_ok (m : Nat) : FunOK Tryd.prog (slices_IsSorted_T m) :=
  fun_ok hmix htt (slices_IsSorted_T m) Tryd.func62 (c := slices_IsSorted_C) (by kernel_rfl) (by kernel_rfl) (Lc := [cmp_Less_T m]) (AllF.mem (l := [cmp_Less_T m]) ⟨cmp_Less_ok m, trivial⟩) (L := [slices_IsSorted_L0_T m m]) (fun _ hE _ _ => loopsIn_of slices_IsSorted_C_ls ⟨mkLp_all ⟨fun _ => slices_IsSorted_L0_ok hE m m, trivial⟩, trivial⟩) (fun x => (slices_IsSorted_kr m x).trans (by kernel_rfl))
/-! 47 sparse/matrix.columns -/
def matrix_columns_H : Hints := { regs := [⟨[], [1]⟩, ⟨[(7, 1), (14, 1), (20, 1), (32, 1)], [1, 47]⟩, ⟨[], [2]⟩, ⟨[], [1, 49, 50]⟩, ⟨[], [1, 49, 50, 51]⟩, ⟨[], [1, 3, 49, 50]⟩, ⟨[], [1, 3, 4, 49, 50]⟩, ⟨[], [1, 4, 49, 50, 66, 67, 68]⟩, ⟨[], [1, 4, 49, 50, 66, 67, 68, 69]⟩, ⟨[], [1, 4, 6, 49, 50, 66, 67, 68]⟩, ⟨[(1, 1), (3, 1)], [1, 6, 49, 50, 66, 67, 68, 80]⟩, ⟨[], [2]⟩, ⟨[(0, 1)], [1, 4, 49, 50, 66, 67, 68]⟩, ⟨[(1, 1)], [1, 4, 49, 50, 66, 67, 68]⟩, ⟨[(1, 1)], [1, 49, 50]⟩, ⟨[], [2]⟩], heads := [(0, [1, 49, 50]), (2, [1, 4, 49, 50, 66, 67, 68])], exits := [(0, []), (1, [1, 49, 50]), (2, [1, 49, 50]), (3, [1, 4, 49, 50, 66, 67, 68])], rets := [2], pins := [], spec := [[false]] }
abbrev matrix_columns_A : List Sh := [.a (.agg [(.int .i64), (.int .i64), (.imm (.int .i64)), (.imm (.int .i64)), (.imm (.int .u64))])]
abbrev matrix_columns_S : Sh := .a (.c .bool)
abbrev matrix_columns_U : List Sh := [.a (.c .dead)]
def matrix_columns_R (m : Nat) : ShLVal matrix_columns_A → Option (matrix_columns_S.Val × ShLVal matrix_columns_U) := fun (x : (Int × Int × List Int × List Int × List Int × Unit) × Unit) => matrix_columns m x.1.1 x.1.2.1 x.1.2.2.1 x.1.2.2.2.1 x.1.2.2.2.2.1
def matrix_columns_T (m : Nat) : FunT := ⟨47, matrix_columns_A, matrix_columns_S, matrix_columns_U, matrix_columns_R m⟩
noncomputable def matrix_columns_C : Code := codeOf Tryd.f47
noncomputable def matrix_columns_B0 : Code := loopAt matrix_columns_C 0 0
noncomputable def matrix_columns_B2 : Code := loopAt matrix_columns_B0 0 0
theorem matrix_columns_B2_ls : loopsL matrix_columns_B2 2 = [] := by kernel_rfl
theorem matrix_columns_B0_ls : loopsL matrix_columns_B0 0 = [(2, matrix_columns_B2)] := by kernel_rfl
theorem matrix_columns_C_ls : loopsL matrix_columns_C 0 = [(0, matrix_columns_B0)] := by kernel_rfl
abbrev matrix_columns_L1_I : SS := [(1, .a (.bx 0 [(.int .i64), (.int .i64), (.imm (.int .i64)), (.imm (.int .i64)), (.imm (.int .u64))])), (4, .a (.c (.int .i64))), (49, .a (.c (.int .i64))), (50, .a (.c (.int .i64))), (66, .a (.c (.imm (.int .i64)))), (67, .a (.c (.int .i64))), (68, .a (.c (.int .i64)))]
abbrev matrix_columns_L1_O : List (Ex × SS) := [(.ret, [(2, .a (.c .bool))]), (.exit 2, [(1, .a (.bx 0 [(.int .i64), (.int .i64), (.imm (.int .i64)), (.imm (.int .i64)), (.imm (.int .u64))])), (49, .a (.c (.int .i64))), (50, .a (.c (.int .i64)))])]
def matrix_columns_L1_R (m n : Nat) : matrix_columns_L1_I.Val → Option (outVal matrix_columns_L1_O) := (fun (x : (Int × Int × List Int × List Int × List Int × Unit) × Int × Int × Int × List Int × Int × Int × Unit) => matrix_columns_L1 m n x.1.1 x.1.2.1 x.1.2.2.1 x.1.2.2.2.1 x.1.2.2.2.2.1 x.2.1 x.2.2.1 x.2.2.2.1 x.2.2.2.2.1 x.2.2.2.2.2.1 x.2.2.2.2.2.2.1)
def matrix_columns_L1_T (m n : Nat) : LoopT := ⟨2, matrix_columns_L1_I, matrix_columns_L1_O, matrix_columns_L1_R m n⟩
theorem matrix_columns_L1_kr (m n : Nat) (x : matrix_columns_L1_I.Val) : roundK (mkC (outVal matrix_columns_L1_O) [slices_IsSorted_T m]) (mkLp (outVal matrix_columns_L1_O) []) tt 84 matrix_columns_H matrix_columns_B2 2 (matrix_columns_L1_I.enc x) (Kl (ins := matrix_columns_L1_I) (outs := matrix_columns_L1_O) (matrix_columns_L1_R m n)) = matrix_columns_L1 m (n + 1) x.1.1 x.1.2.1 x.1.2.2.1 x.1.2.2.2.1 x.1.2.2.2.2.1 x.2.1 x.2.2.1 x.2.2.2.1 x.2.2.2.2.1 x.2.2.2.2.2.1 x.2.2.2.2.2.2.1 := by kernel_rfl
theorem matrix_columns_L1_ok {E : Entry} (hE : EOf Tryd.prog E 84 matrix_columns_H.pins) (m : Nat) (n : Nat) : LoopOK Tryd.prog E matrix_columns_B2 (matrix_columns_L1_T m n) :=
  loop_ok (CO := CallOK Tryd.prog) hmix htt (fun _ _ _ _ h => h) hE (C := fun R => mkC R [slices_IsSorted_T m]) (L := []) (fun _ _ _ _ _ h => mkC_spec (AllF.mem (l := [slices_IsSorted_T m]) ⟨slices_IsSorted_ok m, trivial⟩) h) (fun _ _ => loopsIn_of matrix_columns_B2_ls trivial) (fun n => (matrix_columns_L1_R m n)) (fun _ => by kernel_rfl) (fun n x => (matrix_columns_L1_kr m n x).trans (by kernel_rfl)) n
abbrev matrix_columns_L0_I : SS := [(1, .a (.bx 0 [(.int .i64), (.int .i64), (.imm (.int .i64)), (.imm (.int .i64)), (.imm (.int .u64))])), (49, .a (.c (.int .i64))), (50, .a (.c (.int .i64)))]
abbrev matrix_columns_L0_O : List (Ex × SS) := [(.ret, [(2, .a (.c .bool))]), (.exit 0, [])]
def matrix_columns_L0_R (m n : Nat) : matrix_columns_L0_I.Val → Option (outVal matrix_columns_L0_O) := (fun (x : (Int × Int × List Int × List Int × List Int × Unit) × Int × Int × Unit) => matrix_columns_L0 m n x.1.1 x.1.2.1 x.1.2.2.1 x.1.2.2.2.1 x.1.2.2.2.2.1 x.2.1 x.2.2.1)
def matrix_columns_L0_T (m n : Nat) : LoopT := ⟨0, matrix_columns_L0_I, matrix_columns_L0_O, matrix_columns_L0_R m n⟩
theorem matrix_columns_L0_kr (m n : Nat) (x : matrix_columns_L0_I.Val) : roundK (mkC (outVal matrix_columns_L0_O) [slices_IsSorted_T m]) (mkLp (outVal matrix_columns_L0_O) [matrix_columns_L1_T m m]) tt 84 matrix_columns_H matrix_columns_B0 0 (matrix_columns_L0_I.enc x) (Kl (ins := matrix_columns_L0_I) (outs := matrix_columns_L0_O) (matrix_columns_L0_R m n)) = matrix_columns_L0 m (n + 1) x.1.1 x.1.2.1 x.1.2.2.1 x.1.2.2.2.1 x.1.2.2.2.2.1 x.2.1 x.2.2.1 := by kernel_rfl
theorem matrix_columns_L0_ok {E : Entry} (hE : EOf Tryd.prog E 84 matrix_columns_H.pins) (m : Nat) (n : Nat) : LoopOK Tryd.prog E matrix_columns_B0 (matrix_columns_L0_T m n) :=
  loop_ok (CO := CallOK Tryd.prog) hmix htt (fun _ _ _ _ h => h) hE (C := fun R => mkC R [slices_IsSorted_T m]) (L := [matrix_columns_L1_T m m]) (fun _ _ _ _ _ h => mkC_spec (AllF.mem (l := [slices_IsSorted_T m]) ⟨slices_IsSorted_ok m, trivial⟩) h) (fun _ _ => loopsIn_of matrix_columns_B0_ls ⟨mkLp_all ⟨fun _ => matrix_columns_L1_ok hE m m, trivial⟩, trivial⟩) (fun n => (matrix_columns_L0_R m n)) (fun _ => by kernel_rfl) (fun n x => (matrix_columns_L0_kr m n x).trans (by kernel_rfl)) n
theorem matrix_columns_kr (m : Nat) (x : ShLVal matrix_columns_A) : fnK (mkC (matrix_columns_S.Val × ShLVal matrix_columns_U) [slices_IsSorted_T m]) (mkLp (matrix_columns_S.Val × ShLVal matrix_columns_U) [matrix_columns_L0_T m m]) tt matrix_columns_H Tryd.f47 (encS matrix_columns_A x) (Kd matrix_columns_S matrix_columns_U) = matrix_columns m x.1.1 x.1.2.1 x.1.2.2.1 x.1.2.2.2.1 x.1.2.2.2.2.1 := by kernel_rfl
theorem matrix_columns_ok (m : Nat) : FunOK Tryd.prog (matrix_columns_T m) :=
  fun_ok hmix htt (matrix_columns_T m) Tryd.func47 (c := matrix_columns_C) (by kernel_rfl) (by kernel_rfl) (Lc := [slices_IsSorted_T m]) (AllF.mem (l := [slices_IsSorted_T m]) ⟨slices_IsSorted_ok m, trivial⟩) (L := [matrix_columns_L0_T m m]) (fun _ hE _ _ => loopsIn_of matrix_columns_C_ls ⟨mkLp_all ⟨fun _ => matrix_columns_L0_ok hE m m, trivial⟩, trivial⟩) (fun x => (matrix_columns_kr m x).trans (by kernel_rfl))
/-! 64 sparse/float.parts -/
def float_parts_H : Hints := { regs := [⟨[], [0]⟩, ⟨[], [2, 3]⟩], heads := [], exits := [], rets := [2, 3], pins := [], spec := [[false], [false]] }
abbrev float_parts_A : List Sh := [.a (.c (.int .u64))]
abbrev float_parts_S : Sh := .tup [(.c (.int .i64)), (.c (.int .u64))]
abbrev float_parts_U : List Sh := [.a (.c .dead)]
def float_parts_R (m : Nat) : ShLVal float_parts_A → Option (float_parts_S.Val × ShLVal float_parts_U) := fun (x : Int × Unit) => float_parts m x.1
def float_parts_T (m : Nat) : FunT := ⟨64, float_parts_A, float_parts_S, float_parts_U, float_parts_R m⟩
noncomputable def float_parts_C : Code := codeOf Tryd.f64
theorem float_parts_C_ls : loopsL float_parts_C 0 = [] := by kernel_rfl
theorem float_parts_kr (m : Nat) (x : ShLVal float_parts_A) : fnK (mkC (float_parts_S.Val × ShLVal float_parts_U) []) (mkLp (float_parts_S.Val × ShLVal float_parts_U) []) tt float_parts_H Tryd.f64 (encS float_parts_A x) (Kd float_parts_S float_parts_U) = float_parts m x.1 := by kernel_rfl
theorem float_parts_ok (m : Nat) : FunOK Tryd.prog (float_parts_T m) :=
  fun_ok hmix htt (float_parts_T m) Tryd.func64 (c := float_parts_C) (by kernel_rfl) (by kernel_rfl) (Lc := []) (AllF.mem (l := []) trivial) (L := []) (fun _ hE _ _ => loopsIn_of float_parts_C_ls trivial) (fun x => (float_parts_kr m x).trans (by kernel_rfl))
/-! 50 sparse/float.IsFinite -/
def float_IsFinite_H : Hints := { regs := [⟨[], [0]⟩, ⟨[(0, 1), (2, 1)], [3]⟩, ⟨[(0, 1)], [2]⟩], heads := [], exits := [], rets := [2], pins := [], spec := [[false]] }
abbrev float_IsFinite_A : List Sh := [.a (.c (.int .u64))]
abbrev float_IsFinite_S : Sh := .a (.c .bool)
abbrev float_IsFinite_U : List Sh := [.a (.c .dead)]
def float_IsFinite_R (m : Nat) : ShLVal float_IsFinite_A → Option (float_IsFinite_S.Val × ShLVal float_IsFinite_U) := fun (x : Int × Unit) => float_IsFinite m x.1
def float_IsFinite_T (m : Nat) : FunT := ⟨50, float_IsFinite_A, float_IsFinite_S, float_IsFinite_U, float_IsFinite_R m⟩
noncomputable def float_IsFinite_C : Code := codeOf Tryd.f50
theorem float_IsFinite_C_ls : loopsL float_IsFinite_C 0 = [] := by kernel_rfl
theorem float_IsFinite_kr (m : Nat) (x : ShLVal float_IsFinite_A) : fnK (mkC (float_IsFinite_S.Val × ShLVal float_IsFinite_U) [float_parts_T m]) (mkLp (float_IsFinite_S.Val × ShLVal float_IsFinite_U) []) tt float_IsFinite_H Tryd.f50 (encS float_IsFinite_A x) (Kd float_IsFinite_S float_IsFinite_U) = float_IsFinite m x.1 := by kernel_rfl
theorem float_IsFinite_ok (m : Nat) : FunOK Tryd.prog (float_IsFinite_T m) :=
  fun_ok hmix htt (float_IsFinite_T m) Tryd.func50 (c := float_IsFinite_C) (by kernel_rfl) (by kernel_rfl) (Lc := [float_parts_T m]) (AllF.mem (l := [float_parts_T m]) ⟨float_parts_ok m, trivial⟩) (L := []) (fun _ hE _ _ => loopsIn_of float_IsFinite_C_ls trivial) (fun x => (float_IsFinite_kr m x).trans (by kernel_rfl))
/-! 49 sparse/matrix.Check_1 -/
def matrix_Check_1_H : Hints := { regs := [⟨[], [0]⟩, ⟨[(0, 1)], [2]⟩], heads := [], exits := [], rets := [2], pins := [], spec := [[false]] }
abbrev matrix_Check_1_A : List Sh := [.a (.c (.int .u64))]
abbrev matrix_Check_1_S : Sh := .a (.c .bool)
abbrev matrix_Check_1_U : List Sh := [.a (.c .dead)]
def matrix_Check_1_R (m : Nat) : ShLVal matrix_Check_1_A → Option (matrix_Check_1_S.Val × ShLVal matrix_Check_1_U) := fun (x : Int × Unit) => matrix_Check_1 m x.1
def matrix_Check_1_T (m : Nat) : FunT := ⟨49, matrix_Check_1_A, matrix_Check_1_S, matrix_Check_1_U, matrix_Check_1_R m⟩
noncomputable def matrix_Check_1_C : Code := codeOf Tryd.f49
theorem matrix_Check_1_C_ls : loopsL matrix_Check_1_C 0 = [] := by kernel_rfl
theorem matrix_Check_1_kr (m : Nat) (x : ShLVal matrix_Check_1_A) : fnK (mkC (matrix_Check_1_S.Val × ShLVal matrix_Check_1_U) [float_IsFinite_T m]) (mkLp (matrix_Check_1_S.Val × ShLVal matrix_Check_1_U) []) tt matrix_Check_1_H Tryd.f49 (encS matrix_Check_1_A x) (Kd matrix_Check_1_S matrix_Check_1_U) = matrix_Check_1 m x.1 := by kernel_rfl
theorem matrix_Check_1_ok (m : Nat) : FunOK Tryd.prog (matrix_Check_1_T m) :=
  fun_ok hmix htt (matrix_Check_1_T m) Tryd.func49 (c := matrix_Check_1_C) (by kernel_rfl) (by kernel_rfl) (Lc := [float_IsFinite_T m]) (AllF.mem (l := [float_IsFinite_T m]) ⟨float_IsFinite_ok m, trivial⟩) (L := []) (fun _ hE _ _ => loopsIn_of matrix_Check_1_C_ls trivial) (fun x => (matrix_Check_1_kr m x).trans (by kernel_rfl))
/-! 63 slices.IndexFunc___sparse/api.Float_sparse/api.Float_ -/
def slices_IndexFunc_H : Hints := { regs := [⟨[], [0, 1]⟩, ⟨[], [0, 1, 7, 8]⟩, ⟨[], [0, 1, 7, 8, 9]⟩, ⟨[], [0, 1, 5, 7, 8]⟩, ⟨[], [0, 1, 5, 7, 8, 16]⟩, ⟨[(0, 1)], [4]⟩, ⟨[(1, 1)], [0, 1, 7, 8]⟩, ⟨[], [4]⟩], heads := [(0, [0, 1, 7, 8])], exits := [(0, []), (1, [0, 1, 7, 8])], rets := [4], pins := [], spec := [[false]] }
abbrev slices_IndexFunc_A : List Sh := [.a (.c (.imm (.int .u64))), .a (.c (.fn 49))]
abbrev slices_IndexFunc_S : Sh := .a (.c (.int .i64))
abbrev slices_IndexFunc_U : List Sh := [.a (.c .dead), .a (.c .dead)]
def slices_IndexFunc_R (m : Nat) : ShLVal slices_IndexFunc_A → Option (slices_IndexFunc_S.Val × ShLVal slices_IndexFunc_U) := fun (x : List Int × Unit × Unit) => slices_IndexFunc m x.1
def slices_IndexFunc_T (m : Nat) : FunT := ⟨63, slices_IndexFunc_A, slices_IndexFunc_S, slices_IndexFunc_U, slices_IndexFunc_R m⟩
noncomputable def slices_IndexFunc_C : Code := codeOf Tryd.f63
noncomputable def slices_IndexFunc_B0 : Code := loopAt slices_IndexFunc_C 0 0
theorem slices_IndexFunc_B0_ls : loopsL slices_IndexFunc_B0 0 = [] := by kernel_rfl
theorem slices_IndexFunc_C_ls : loopsL slices_IndexFunc_C 0 = [(0, slices_IndexFunc_B0)] := by kernel_rfl
abbrev slices_IndexFunc_L0_I : SS := [(0, .a (.c (.imm (.int .u64)))), (1, .a (.c (.fn 49))), (7, .a (.c (.int .i64))), (8, .a (.c (.int .i64)))]
abbrev slices_IndexFunc_L0_O : List (Ex × SS) := [(.ret, [(4, .a (.c (.int .i64)))]), (.exit 0, [])]
def slices_IndexFunc_L0_R (m n : Nat) : slices_IndexFunc_L0_I.Val → Option (outVal slices_IndexFunc_L0_O) := (fun (x : List Int × Unit × Int × Int × Unit) => slices_IndexFunc_L0 m n x.1 x.2.2.1 x.2.2.2.1)
def slices_IndexFunc_L0_T (m n : Nat) : LoopT := ⟨0, slices_IndexFunc_L0_I, slices_IndexFunc_L0_O, slices_IndexFunc_L0_R m n⟩
theorem slices_IndexFunc_L0_kr (m n : Nat) (x : slices_IndexFunc_L0_I.Val) : roundK (mkC (outVal slices_IndexFunc_L0_O) [matrix_Check_1_T m]) (mkLp (outVal slices_IndexFunc_L0_O) []) tt 19 slices_IndexFunc_H slices_IndexFunc_B0 0 (slices_IndexFunc_L0_I.enc x) (Kl (ins := slices_IndexFunc_L0_I) (outs := slices_IndexFunc_L0_O) (slices_IndexFunc_L0_R m n)) = slices_IndexFunc_L0 m (n + 1) x.1 x.2.2.1 x.2.2.2.1 := by kernel_rfl
theorem slices_IndexFunc_L0_ok {E : Entry} (hE : EOf Tryd.prog E 19 slices_IndexFunc_H.pins) (m : Nat) (n : Nat) : LoopOK Tryd.prog E slices_IndexFunc_B0 (slices_IndexFunc_L0_T m n) :=
  loop_ok (CO := CallOK Tryd.prog) hmix htt (fun _ _ _ _ h => h) hE (C := fun R => mkC R [matrix_Check_1_T m]) (L := []) (fun _ _ _ _ _ h => mkC_spec (AllF.mem (l := [matrix_Check_1_T m]) ⟨matrix_Check_1_ok m, trivial⟩) h) (fun _ _ => loopsIn_of slices_IndexFunc_B0_ls trivial) (fun n => (slices_IndexFunc_L0_R m n)) (fun _ => by kernel_rfl) (fun n x => (slices_IndexFunc_L0_kr m n x).trans (by kernel_rfl)) n
theorem slices_IndexFunc_kr (m : Nat) (x : ShLVal slices_IndexFunc_A) : fnK (mkC (slices_IndexFunc_S.Val × ShLVal slices_IndexFunc_U) [matrix_Check_1_T m]) (mkLp (slices_IndexFunc_S.Val × ShLVal slices_IndexFunc_U) [slices_IndexFunc_L0_T m m]) tt slices_IndexFunc_H Tryd.f63 (encS slices_IndexFunc_A x) (Kd slices_IndexFunc_S slices_IndexFunc_U) = slices_IndexFunc m x.1 := by kernel_rfl
theorem slices_IndexFunc_ok (m : Nat) : FunOK Tryd.prog (slices_IndexFunc_T m) :=
  fun_ok hmix htt (slices_IndexFunc_T m) Tryd.func63 (c := slices_IndexFunc_C) (by kernel_rfl) (by kernel_rfl) (Lc := [matrix_Check_1_T m]) (AllF.mem (l := [matrix_Check_1_T m]) ⟨matrix_Check_1_ok m, trivial⟩) (L := [slices_IndexFunc_L0_T m m]) (fun _ hE _ _ => loopsIn_of slices_IndexFunc_C_ls ⟨mkLp_all ⟨fun _ => slices_IndexFunc_L0_ok hE m m, trivial⟩, trivial⟩) (fun x => (slices_IndexFunc_kr m x).trans (by kernel_rfl))
/-! 48 slices.ContainsFunc___sparse/api.Float_sparse/api.Float_ -/
def slices_ContainsFunc_H : Hints := { regs := [⟨[], [0, 1]⟩, ⟨[(0, 1), (1, 1)], [4]⟩], heads := [], exits := [], rets := [4], pins := [], spec := [[false]] }
abbrev slices_ContainsFunc_A : List Sh := [.a (.c (.imm (.int .u64))), .a (.c (.fn 49))]
abbrev slices_ContainsFunc_S : Sh := .a (.c .bool)
abbrev slices_ContainsFunc_U : List Sh := [.a (.c .dead), .a (.c .dead)]
def slices_ContainsFunc_R (m : Nat) : ShLVal slices_ContainsFunc_A → Option (slices_ContainsFunc_S.Val × ShLVal slices_ContainsFunc_U) := fun (x : List Int × Unit × Unit) => slices_ContainsFunc m x.1
def slices_ContainsFunc_T (m : Nat) : FunT := ⟨48, slices_ContainsFunc_A, slices_ContainsFunc_S, slices_ContainsFunc_U, slices_ContainsFunc_R m⟩
noncomputable def slices_ContainsFunc_C : Code := codeOf Tryd.f48
theorem slices_ContainsFunc_C_ls : loopsL slices_ContainsFunc_C 0 = [] := by kernel_rfl
theorem slices_ContainsFunc_kr (m : Nat) (x : ShLVal slices_ContainsFunc_A) : fnK (mkC (slices_ContainsFunc_S.Val × ShLVal slices_ContainsFunc_U) [slices_IndexFunc_T m]) (mkLp (slices_ContainsFunc_S.Val × ShLVal slices_ContainsFunc_U) []) tt slices_ContainsFunc_H Tryd.f48 (encS slices_ContainsFunc_A x) (Kd slices_ContainsFunc_S slices_ContainsFunc_U) = slices_ContainsFunc m x.1 := by kernel_rfl
theorem slices_ContainsFunc_ok (m : Nat) : FunOK Tryd.prog (slices_ContainsFunc_T m) :=
  fun_ok hmix htt (slices_ContainsFunc_T m) Tryd.func48 (c := slices_ContainsFunc_C) (by kernel_rfl) (by kernel_rfl) (Lc := [slices_IndexFunc_T m]) (AllF.mem (l := [slices_IndexFunc_T m]) ⟨slices_IndexFunc_ok m, trivial⟩) (L := []) (fun _ hE _ _ => loopsIn_of slices_ContainsFunc_C_ls trivial) (fun x => (slices_ContainsFunc_kr m x).trans (by kernel_rfl))
/-! 29 sparse/matrix.Check -/
def matrix_Check_H : Hints := { regs := [⟨[], [1]⟩, ⟨[(4, 1), (10, 1)], [1, 3]⟩, ⟨[], [2]⟩, ⟨[], [1, 20]⟩, ⟨[], [2]⟩, ⟨[], [24]⟩, ⟨[], [2]⟩, ⟨[], [2]⟩], heads := [], exits := [(0, [])], rets := [2], pins := [], spec := [[false]] }
abbrev matrix_Check_A : List Sh := [.a (.agg [(.int .i64), (.int .i64), (.imm (.int .i64)), (.imm (.int .i64)), (.imm (.int .u64))])]
abbrev matrix_Check_S : Sh := .a (.c (.int .i64))
abbrev matrix_Check_U : List Sh := [.a (.c .dead)]
def matrix_Check_R (m : Nat) : ShLVal matrix_Check_A → Option (matrix_Check_S.Val × ShLVal matrix_Check_U) := fun (x : (Int × Int × List Int × List Int × List Int × Unit) × Unit) => matrix_Check m x.1.1 x.1.2.1 x.1.2.2.1 x.1.2.2.2.1 x.1.2.2.2.2.1
def matrix_Check_T (m : Nat) : FunT := ⟨29, matrix_Check_A, matrix_Check_S, matrix_Check_U, matrix_Check_R m⟩
noncomputable def matrix_Check_C : Code := codeOf Tryd.f29
theorem matrix_Check_C_ls : loopsL matrix_Check_C 0 = [] := by kernel_rfl
theorem matrix_Check_kr (m : Nat) (x : ShLVal matrix_Check_A) : fnK (mkC (matrix_Check_S.Val × ShLVal matrix_Check_U) [matrix_within_T m, matrix_columns_T m, slices_ContainsFunc_T m]) (mkLp (matrix_Check_S.Val × ShLVal matrix_Check_U) []) tt matrix_Check_H Tryd.f29 (encS matrix_Check_A x) (Kd matrix_Check_S matrix_Check_U) = matrix_Check m x.1.1 x.1.2.1 x.1.2.2.1 x.1.2.2.2.1 x.1.2.2.2.2.1 := by kernel_rfl
theorem matrix_Check_ok (m : Nat) : FunOK Tryd.prog (matrix_Check_T m) :=
  fun_ok hmix htt (matrix_Check_T m) Tryd.func29 (c := matrix_Check_C) (by kernel_rfl) (by kernel_rfl) (Lc := [matrix_within_T m, matrix_columns_T m, slices_ContainsFunc_T m]) (AllF.mem (l := [matrix_within_T m, matrix_columns_T m, slices_ContainsFunc_T m]) ⟨matrix_within_ok m, matrix_columns_ok m, slices_ContainsFunc_ok m, trivial⟩) (L := []) (fun _ hE _ _ => loopsIn_of matrix_Check_C_ls trivial) (fun x => (matrix_Check_kr m x).trans (by kernel_rfl))
/-! 38 sparse/matching.Edges -/
def matching_Edges_H : Hints := { regs := [⟨[], [1]⟩, ⟨[], [1, 3]⟩, ⟨[], [1, 3, 9, 10]⟩, ⟨[], [1, 3, 9, 10, 11]⟩, ⟨[], [1, 3, 4, 9, 10]⟩, ⟨[], [1, 3, 9, 10]⟩, ⟨[(1, 1)], [1, 3, 9, 10]⟩, ⟨[(0, 1)], [2]⟩], heads := [(0, [1, 3, 9, 10])], exits := [(0, [3]), (1, [1, 3, 9, 10])], rets := [2], pins := [], spec := [[true]] }
abbrev matching_Edges_A : List Sh := [.a (.agg [(.int .i64), (.int .i64), (.imm (.int .i64)), (.imm (.int .i64)), (.imm (.int .u64))])]
abbrev matching_Edges_S : Sh := .a (.c (.nm 0 (.sl false (.int .i64))))
abbrev matching_Edges_U : List Sh := [.a (.c .dead)]
def matching_Edges_R (m : Nat) : ShLVal matching_Edges_A → Option (matching_Edges_S.Val × ShLVal matching_Edges_U) := fun (x : (Int × Int × List Int × List Int × List Int × Unit) × Unit) => matching_Edges m x.1.1 x.1.2.1 x.1.2.2.1 x.1.2.2.2.1 x.1.2.2.2.2.1
def matching_Edges_T (m : Nat) : FunT := ⟨38, matching_Edges_A, matching_Edges_S, matching_Edges_U, matching_Edges_R m⟩
noncomputable def matching_Edges_C : Code := codeOf Tryd.f38
noncomputable def matching_Edges_B0 : Code := loopAt matching_Edges_C 0 0
theorem matching_Edges_B0_ls : loopsL matching_Edges_B0 0 = [] := by kernel_rfl
theorem matching_Edges_C_ls : loopsL matching_Edges_C 0 = [(0, matching_Edges_B0)] := by kernel_rfl
abbrev matching_Edges_L0_I : SS := [(1, .a (.bx 0 [(.int .i64), (.int .i64), (.imm (.int .i64)), (.imm (.int .i64)), (.imm (.int .u64))])), (3, .a (.c (.nm 1 (.sl false (.int .i64))))), (9, .a (.c (.int .i64))), (10, .a (.c (.int .i64)))]
abbrev matching_Edges_L0_O : List (Ex × SS) := [(.exit 0, [(3, .a (.c (.nm 0 (.sl false (.int .i64)))))])]
def matching_Edges_L0_R (m n : Nat) : matching_Edges_L0_I.Val → Option (outVal matching_Edges_L0_O) := (fun (x : (Int × Int × List Int × List Int × List Int × Unit) × List (List Int) × Int × Int × Unit) => matching_Edges_L0 m n x.1.1 x.1.2.1 x.1.2.2.1 x.1.2.2.2.1 x.1.2.2.2.2.1 x.2.1 x.2.2.1 x.2.2.2.1)
def matching_Edges_L0_T (m n : Nat) : LoopT := ⟨0, matching_Edges_L0_I, matching_Edges_L0_O, matching_Edges_L0_R m n⟩
theorem matching_Edges_L0_kr (m n : Nat) (x : matching_Edges_L0_I.Val) : roundK (mkC (outVal matching_Edges_L0_O) []) (mkLp (outVal matching_Edges_L0_O) []) tt 32 matching_Edges_H matching_Edges_B0 0 (matching_Edges_L0_I.enc x) (Kl (ins := matching_Edges_L0_I) (outs := matching_Edges_L0_O) (matching_Edges_L0_R m n)) = matching_Edges_L0 m (n + 1) x.1.1 x.1.2.1 x.1.2.2.1 x.1.2.2.2.1 x.1.2.2.2.2.1 x.2.1 x.2.2.1 x.2.2.2.1 := by kernel_rfl
theorem matching_Edges_L0_ok {E : Entry} (hE : EOf Tryd.prog E 32 matching_Edges_H.pins) (m : Nat) (n : Nat) : LoopOK Tryd.prog E matching_Edges_B0 (matching_Edges_L0_T m n) :=
  loop_ok (CO := CallOK Tryd.prog) hmix htt (fun _ _ _ _ h => h) hE (C := fun R => mkC R []) (L := []) (fun _ _ _ _ _ h => mkC_spec (AllF.mem (l := []) trivial) h) (fun _ _ => loopsIn_of matching_Edges_B0_ls trivial) (fun n => (matching_Edges_L0_R m n)) (fun _ => by kernel_rfl) (fun n x => (matching_Edges_L0_kr m n x).trans (by kernel_rfl)) n
theorem matching_Edges_kr (m : Nat) (x : ShLVal matching_Edges_A) : fnK (mkC (matching_Edges_S.Val × ShLVal matching_Edges_U) []) (mkLp (matching_Edges_S.Val × ShLVal matching_Edges_U) [matching_Edges_L0_T m m]) tt matching_Edges_H Tryd.f38 (encS matching_Edges_A x) (Kd matching_Edges_S matching_Edges_U) = matching_Edges m x.1.1 x.1.2.1 x.1.2.2.1 x.1.2.2.2.1 x.1.2.2.2.2.1 := by kernel_rfl
theorem matching_Edges_ok (m : Nat) : FunOK Tryd.prog (matching_Edges_T m) :=
  fun_ok hmix htt (matching_Edges_T m) Tryd.func38 (c := matching_Edges_C) (by kernel_rfl) (by kernel_rfl) (Lc := []) (AllF.mem (l := []) trivial) (L := [matching_Edges_L0_T m m]) (fun _ hE _ _ => loopsIn_of matching_Edges_C_ls ⟨mkLp_all ⟨fun _ => matching_Edges_L0_ok hE m m, trivial⟩, trivial⟩) (fun x => (matching_Edges_kr m x).trans (by kernel_rfl))
/-! 51 sparse/matching.full -/
def matching_full_H : Hints := { regs := [⟨[], [0, 1]⟩, ⟨[(0, 1)], [1, 5]⟩, ⟨[], [1, 5, 10, 11]⟩, ⟨[], [1, 5, 10, 11, 12]⟩, ⟨[], [1, 5, 6, 10, 11]⟩, ⟨[(1, 1)], [1, 5, 10, 11]⟩, ⟨[(1, 1)], [1, 5, 10, 11]⟩, ⟨[(0, 1)], [4]⟩], heads := [(0, [1, 5, 10, 11])], exits := [(0, [5]), (1, [1, 5, 10, 11])], rets := [4], pins := [], spec := [[true]] }
abbrev matching_full_A : List Sh := [.a (.c (.int .i64)), .a (.c (.int .i64))]
abbrev matching_full_S : Sh := .a (.c (.nm 0 (.int .i64)))
abbrev matching_full_U : List Sh := [.a (.c .dead), .a (.c .dead)]
def matching_full_R (m : Nat) : ShLVal matching_full_A → Option (matching_full_S.Val × ShLVal matching_full_U) := fun (x : Int × Int × Unit) => matching_full m x.1 x.2.1
def matching_full_T (m : Nat) : FunT := ⟨51, matching_full_A, matching_full_S, matching_full_U, matching_full_R m⟩
noncomputable def matching_full_C : Code := codeOf Tryd.f51
noncomputable def matching_full_B0 : Code := loopAt matching_full_C 0 0
theorem matching_full_B0_ls : loopsL matching_full_B0 0 = [] := by kernel_rfl
theorem matching_full_C_ls : loopsL matching_full_C 0 = [(0, matching_full_B0)] := by kernel_rfl
abbrev matching_full_L0_I : SS := [(1, .a (.c (.int .i64))), (5, .a (.c (.nm 0 (.int .i64)))), (10, .a (.c (.int .i64))), (11, .a (.c (.int .i64)))]
abbrev matching_full_L0_O : List (Ex × SS) := [(.exit 0, [(5, .a (.c (.nm 0 (.int .i64))))])]
def matching_full_L0_R (m n : Nat) : matching_full_L0_I.Val → Option (outVal matching_full_L0_O) := (fun (x : Int × List Int × Int × Int × Unit) => matching_full_L0 m n x.1 x.2.1 x.2.2.1 x.2.2.2.1)
def matching_full_L0_T (m n : Nat) : LoopT := ⟨0, matching_full_L0_I, matching_full_L0_O, matching_full_L0_R m n⟩
theorem matching_full_L0_kr (m n : Nat) (x : matching_full_L0_I.Val) : roundK (mkC (outVal matching_full_L0_O) []) (mkLp (outVal matching_full_L0_O) []) tt 20 matching_full_H matching_full_B0 0 (matching_full_L0_I.enc x) (Kl (ins := matching_full_L0_I) (outs := matching_full_L0_O) (matching_full_L0_R m n)) = matching_full_L0 m (n + 1) x.1 x.2.1 x.2.2.1 x.2.2.2.1 := by kernel_rfl
theorem matching_full_L0_ok {E : Entry} (hE : EOf Tryd.prog E 20 matching_full_H.pins) (m : Nat) (n : Nat) : LoopOK Tryd.prog E matching_full_B0 (matching_full_L0_T m n) :=
  loop_ok (CO := CallOK Tryd.prog) hmix htt (fun _ _ _ _ h => h) hE (C := fun R => mkC R []) (L := []) (fun _ _ _ _ _ h => mkC_spec (AllF.mem (l := []) trivial) h) (fun _ _ => loopsIn_of matching_full_B0_ls trivial) (fun n => (matching_full_L0_R m n)) (fun _ => by kernel_rfl) (fun n x => (matching_full_L0_kr m n x).trans (by kernel_rfl)) n
theorem matching_full_kr (m : Nat) (x : ShLVal matching_full_A) : fnK (mkC (matching_full_S.Val × ShLVal matching_full_U) []) (mkLp (matching_full_S.Val × ShLVal matching_full_U) [matching_full_L0_T m m]) tt matching_full_H Tryd.f51 (encS matching_full_A x) (Kd matching_full_S matching_full_U) = matching_full m x.1 x.2.1 := by kernel_rfl
theorem matching_full_ok (m : Nat) : FunOK Tryd.prog (matching_full_T m) :=
  fun_ok hmix htt (matching_full_T m) Tryd.func51 (c := matching_full_C) (by kernel_rfl) (by kernel_rfl) (Lc := []) (AllF.mem (l := []) trivial) (L := [matching_full_L0_T m m]) (fun _ hE _ _ => loopsIn_of matching_full_C_ls ⟨mkLp_all ⟨fun _ => matching_full_L0_ok hE m m, trivial⟩, trivial⟩) (fun x => (matching_full_kr m x).trans (by kernel_rfl))
/-! 52 __sparse/matching.kuhn_.try -/
def matching_kuhn_try_H : Hints := { regs := [⟨[], [0, 1]⟩, ⟨[], [0, 1, 13, 14, 15]⟩, ⟨[], [0, 1, 13, 14, 15, 16]⟩, ⟨[], [0, 1, 6, 13, 14, 15]⟩, ⟨[], [0, 1, 6, 13, 14, 15, 25]⟩, ⟨[], [0, 1, 6, 13, 14, 15]⟩, ⟨[(8, 1)], [0, 1, 6, 13, 14, 15, 50]⟩, ⟨[], [0]⟩, ⟨[], [0, 4]⟩, ⟨[(1, 1)], [0, 1, 13, 14, 15]⟩, ⟨[], [0, 4]⟩], heads := [(0, [0, 1, 13, 14, 15])], exits := [(0, [0]), (1, [0, 1, 13, 14, 15])], rets := [0, 4], pins := [0], spec := [[false]] }
abbrev matching_kuhn_try_A : List Sh := [.a (.bx 0 [(.nm 1 (.sl false (.int .i64))), (.nm 2 (.int .i64)), (.nm 3 (.int .i64)), (.nm 4 .bool)]), .a (.c (.int .i64))]
abbrev matching_kuhn_try_S : Sh := .a (.c .bool)
abbrev matching_kuhn_try_U : List Sh := [.a (.bx 0 [(.nm 1 (.sl false (.int .i64))), (.nm 2 (.int .i64)), (.nm 3 (.int .i64)), (.nm 4 .bool)]), .a (.c .dead)]
def matching_kuhn_try_R (m : Nat) : ShLVal matching_kuhn_try_A → Option (matching_kuhn_try_S.Val × ShLVal matching_kuhn_try_U) := fun (x : (List (List Int) × List Int × List Int × List Bool × Unit) × Int × Unit) => matching_kuhn_try m x.1.1 x.1.2.1 x.1.2.2.1 x.1.2.2.2.1 x.2.1
def matching_kuhn_try_T (m : Nat) : FunT := ⟨52, matching_kuhn_try_A, matching_kuhn_try_S, matching_kuhn_try_U, matching_kuhn_try_R m⟩
noncomputable def matching_kuhn_try_C : Code := codeOf Tryd.f52
noncomputable def matching_kuhn_try_B0 : Code := loopAt matching_kuhn_try_C 0 0
theorem matching_kuhn_try_B0_ls : loopsL matching_kuhn_try_B0 0 = [] := by kernel_rfl
theorem matching_kuhn_try_C_ls : loopsL matching_kuhn_try_C 0 = [(0, matching_kuhn_try_B0)] := by kernel_rfl
abbrev matching_kuhn_try_L0_I : SS := [(0, .a (.bx 0 [(.nm 1 (.sl false (.int .i64))), (.nm 2 (.int .i64)), (.nm 3 (.int .i64)), (.nm 4 .bool)])), (1, .a (.c (.int .i64))), (13, .a (.c (.imm (.int .i64)))), (14, .a (.c (.int .i64))), (15, .a (.c (.int .i64)))]
abbrev matching_kuhn_try_L0_O : List (Ex × SS) := [(.ret, [(0, .a (.bx 0 [(.nm 1 (.sl false (.int .i64))), (.nm 2 (.int .i64)), (.nm 3 (.int .i64)), (.nm 4 .bool)])), (4, .a (.c .bool))]), (.exit 0, [(0, .a (.bx 0 [(.nm 1 (.sl false (.int .i64))), (.nm 2 (.int .i64)), (.nm 3 (.int .i64)), (.nm 4 .bool)]))])]
def matching_kuhn_try_L0_R (m n : Nat) : matching_kuhn_try_L0_I.Val → Option (outVal matching_kuhn_try_L0_O) := (fun (x : (List (List Int) × List Int × List Int × List Bool × Unit) × Int × List Int × Int × Int × Unit) => matching_kuhn_try_L0 (fun a0 a1 a2 a3 a4 => matching_kuhn_try m a0 a1 a2 a3 a4) m n x.1.1 x.1.2.1 x.1.2.2.1 x.1.2.2.2.1 x.2.1 x.2.2.1 x.2.2.2.1 x.2.2.2.2.1)
def matching_kuhn_try_L0_T (m n : Nat) : LoopT := ⟨0, matching_kuhn_try_L0_I, matching_kuhn_try_L0_O, matching_kuhn_try_L0_R m n⟩
theorem matching_kuhn_try_L0_kr (m n : Nat) (x : matching_kuhn_try_L0_I.Val) : roundK (mkC (outVal matching_kuhn_try_L0_O) [matching_kuhn_try_T m]) (mkLp (outVal matching_kuhn_try_L0_O) []) tt 66 matching_kuhn_try_H matching_kuhn_try_B0 0 (matching_kuhn_try_L0_I.enc x) (Kl (ins := matching_kuhn_try_L0_I) (outs := matching_kuhn_try_L0_O) (matching_kuhn_try_L0_R m n)) = matching_kuhn_try_L0 (fun a0 a1 a2 a3 a4 => matching_kuhn_try m a0 a1 a2 a3 a4) m (n + 1) x.1.1 x.1.2.1 x.1.2.2.1 x.1.2.2.2.1 x.2.1 x.2.2.1 x.2.2.2.1 x.2.2.2.2.1 := by kernel_rfl
theorem matching_kuhn_try_L0_ok {E : Entry} (hE : EOf Tryd.prog E 66 matching_kuhn_try_H.pins) (m : Nat) (hself : FunOK Tryd.prog (matching_kuhn_try_T m)) (n : Nat) : LoopOK Tryd.prog E matching_kuhn_try_B0 (matching_kuhn_try_L0_T m n) :=
  loop_ok (CO := CallOK Tryd.prog) hmix htt (fun _ _ _ _ h => h) hE (C := fun R => mkC R [matching_kuhn_try_T m]) (L := []) (fun _ _ _ _ _ h => mkC_spec (AllF.mem (l := [matching_kuhn_try_T m]) ⟨hself, trivial⟩) h) (fun _ _ => loopsIn_of matching_kuhn_try_B0_ls trivial) (fun n => (matching_kuhn_try_L0_R m n)) (fun _ => by kernel_rfl) (fun n x => (matching_kuhn_try_L0_kr m n x).trans (by kernel_rfl)) n
theorem matching_kuhn_try_kr (m : Nat) (x : ShLVal matching_kuhn_try_A) : fnK (mkC (matching_kuhn_try_S.Val × ShLVal matching_kuhn_try_U) [matching_kuhn_try_T m]) (mkLp (matching_kuhn_try_S.Val × ShLVal matching_kuhn_try_U) [matching_kuhn_try_L0_T m m]) tt matching_kuhn_try_H Tryd.f52 (encS matching_kuhn_try_A x) (Kd matching_kuhn_try_S matching_kuhn_try_U) = matching_kuhn_try (m + 1) x.1.1 x.1.2.1 x.1.2.2.1 x.1.2.2.2.1 x.2.1 := by kernel_rfl
theorem matching_kuhn_try_ok : ∀ m : Nat, FunOK Tryd.prog (matching_kuhn_try_T m)
  | 0 => fun _ _ h => by cases h
  | m + 1 => by
    have hself := matching_kuhn_try_ok m
    exact fun_ok hmix htt (matching_kuhn_try_T (m + 1)) Tryd.func52 (c := matching_kuhn_try_C) (by kernel_rfl) (by kernel_rfl) (Lc := [matching_kuhn_try_T m]) (AllF.mem (l := [matching_kuhn_try_T m]) ⟨hself, trivial⟩) (L := [matching_kuhn_try_L0_T m m]) (fun _ hE _ _ => loopsIn_of matching_kuhn_try_C_ls ⟨mkLp_all ⟨fun _ => matching_kuhn_try_L0_ok hE m hself m, trivial⟩, trivial⟩) (fun x => (matching_kuhn_try_kr m x).trans (by kernel_rfl))
/-! 30 sparse/matching.matched -/
def matching_matched_H : Hints := { regs := [⟨[], [1]⟩, ⟨[], [1, 3]⟩, ⟨[], [1, 3, 16, 17]⟩, ⟨[], [1, 3, 16, 17, 18]⟩, ⟨[], [1, 3, 4, 16, 17]⟩, ⟨[], [1, 3, 4, 16, 17]⟩, ⟨[(1, 1)], [1, 3, 16, 17]⟩, ⟨[(1, 1)], [1, 3, 16, 17]⟩, ⟨[(0, 1)], [2]⟩], heads := [(0, [1, 3, 16, 17])], exits := [(0, [3]), (1, [1, 3, 16, 17])], rets := [2], pins := [], spec := [[true, true, true, true]] }
abbrev matching_matched_A : List Sh := [.a (.agg [(.int .i64), (.int .i64), (.imm (.int .i64)), (.imm (.int .i64)), (.imm (.int .u64))])]
abbrev matching_matched_S : Sh := .a (.bx 0 [(.nm 1 (.sl false (.int .i64))), (.nm 2 (.int .i64)), (.nm 3 (.int .i64)), (.nm 4 .bool)])
abbrev matching_matched_U : List Sh := [.a (.c .dead)]
def matching_matched_R (m : Nat) : ShLVal matching_matched_A → Option (matching_matched_S.Val × ShLVal matching_matched_U) := fun (x : (Int × Int × List Int × List Int × List Int × Unit) × Unit) => matching_matched m x.1.1 x.1.2.1 x.1.2.2.1 x.1.2.2.2.1 x.1.2.2.2.2.1
def matching_matched_T (m : Nat) : FunT := ⟨30, matching_matched_A, matching_matched_S, matching_matched_U, matching_matched_R m⟩
noncomputable def matching_matched_C : Code := codeOf Tryd.f30
noncomputable def matching_matched_B0 : Code := loopAt matching_matched_C 0 0
theorem matching_matched_B0_ls : loopsL matching_matched_B0 0 = [] := by kernel_rfl
theorem matching_matched_C_ls : loopsL matching_matched_C 0 = [(0, matching_matched_B0)] := by kernel_rfl
abbrev matching_matched_L0_I : SS := [(1, .a (.bx 0 [(.int .i64), (.int .i64), (.imm (.int .i64)), (.imm (.int .i64)), (.imm (.int .u64))])), (3, .a (.bx 1 [(.nm 2 (.sl false (.int .i64))), (.nm 3 (.int .i64)), (.nm 4 (.int .i64)), (.nm 5 .bool)])), (16, .a (.c (.int .i64))), (17, .a (.c (.int .i64)))]
abbrev matching_matched_L0_O : List (Ex × SS) := [(.exit 0, [(3, .a (.bx 0 [(.nm 1 (.sl false (.int .i64))), (.nm 2 (.int .i64)), (.nm 3 (.int .i64)), (.nm 4 .bool)]))])]
def matching_matched_L0_R (m n : Nat) : matching_matched_L0_I.Val → Option (outVal matching_matched_L0_O) := (fun (x : (Int × Int × List Int × List Int × List Int × Unit) × (List (List Int) × List Int × List Int × List Bool × Unit) × Int × Int × Unit) => matching_matched_L0 m n x.1.1 x.1.2.1 x.1.2.2.1 x.1.2.2.2.1 x.1.2.2.2.2.1 x.2.1.1 x.2.1.2.1 x.2.1.2.2.1 x.2.1.2.2.2.1 x.2.2.1 x.2.2.2.1)
def matching_matched_L0_T (m n : Nat) : LoopT := ⟨0, matching_matched_L0_I, matching_matched_L0_O, matching_matched_L0_R m n⟩
theorem matching_matched_L0_kr (m n : Nat) (x : matching_matched_L0_I.Val) : roundK (mkC (outVal matching_matched_L0_O) [matching_Edges_T m, matching_full_T m, matching_kuhn_try_T m]) (mkLp (outVal matching_matched_L0_O) []) tt 31 matching_matched_H matching_matched_B0 0 (matching_matched_L0_I.enc x) (Kl (ins := matching_matched_L0_I) (outs := matching_matched_L0_O) (matching_matched_L0_R m n)) = matching_matched_L0 m (n + 1) x.1.1 x.1.2.1 x.1.2.2.1 x.1.2.2.2.1 x.1.2.2.2.2.1 x.2.1.1 x.2.1.2.1 x.2.1.2.2.1 x.2.1.2.2.2.1 x.2.2.1 x.2.2.2.1 := by kernel_rfl
theorem matching_matched_L0_ok {E : Entry} (hE : EOf Tryd.prog E 31 matching_matched_H.pins) (m : Nat) (n : Nat) : LoopOK Tryd.prog E matching_matched_B0 (matching_matched_L0_T m n) :=
  loop_ok (CO := CallOK Tryd.prog) hmix htt (fun _ _ _ _ h => h) hE (C := fun R => mkC R [matching_Edges_T m, matching_full_T m, matching_kuhn_try_T m]) (L := []) (fun _ _ _ _ _ h => mkC_spec (AllF.mem (l := [matching_Edges_T m, matching_full_T m, matching_kuhn_try_T m]) ⟨matching_Edges_ok m, matching_full_ok m, matching_kuhn_try_ok m, trivial⟩) h) (fun _ _ => loopsIn_of matching_matched_B0_ls trivial) (fun n => (matching_matched_L0_R m n)) (fun _ => by kernel_rfl) (fun n x => (matching_matched_L0_kr m n x).trans (by kernel_rfl)) n
theorem matching_matched_kr (m : Nat) (x : ShLVal matching_matched_A) : fnK (mkC (matching_matched_S.Val × ShLVal matching_matched_U) [matching_Edges_T m, matching_full_T m, matching_kuhn_try_T m]) (mkLp (matching_matched_S.Val × ShLVal matching_matched_U) [matching_matched_L0_T m m]) tt matching_matched_H Tryd.f30 (encS matching_matched_A x) (Kd matching_matched_S matching_matched_U) = matching_matched m x.1.1 x.1.2.1 x.1.2.2.1 x.1.2.2.2.1 x.1.2.2.2.2.1 := by kernel_rfl
theorem matching_matched_ok (m : Nat) : FunOK Tryd.prog (matching_matched_T m) :=
  fun_ok hmix htt (matching_matched_T m) Tryd.func30 (c := matching_matched_C) (by kernel_rfl) (by kernel_rfl) (Lc := [matching_Edges_T m, matching_full_T m, matching_kuhn_try_T m]) (AllF.mem (l := [matching_Edges_T m, matching_full_T m, matching_kuhn_try_T m]) ⟨matching_Edges_ok m, matching_full_ok m, matching_kuhn_try_ok m, trivial⟩) (L := [matching_matched_L0_T m m]) (fun _ hE _ _ => loopsIn_of matching_matched_C_ls ⟨mkLp_all ⟨fun _ => matching_matched_L0_ok hE m m, trivial⟩, trivial⟩) (fun x => (matching_matched_kr m x).trans (by kernel_rfl))
/-! 11 sparse/matching.Maximum -/
def matching_Maximum_H : Hints := { regs := [⟨[], [1]⟩, ⟨[], [1, 4]⟩, ⟨[], [1, 4, 8]⟩, ⟨[(0, 1)], [2, 3]⟩, ⟨[(4, 1)], [2, 3, 11]⟩], heads := [], exits := [], rets := [2, 3, 11], pins := [], spec := [[true], [false]] }
abbrev matching_Maximum_A : List Sh := [.a (.agg [(.int .i64), (.int .i64), (.imm (.int .i64)), (.imm (.int .i64)), (.imm (.int .u64))])]
abbrev matching_Maximum_S : Sh := .tup [(.c (.nm 0 (.int .i64))), (.c (.int .i64))]
abbrev matching_Maximum_U : List Sh := [.a (.c .dead)]
def matching_Maximum_R (m : Nat) : ShLVal matching_Maximum_A → Option (matching_Maximum_S.Val × ShLVal matching_Maximum_U) := fun (x : (Int × Int × List Int × List Int × List Int × Unit) × Unit) => matching_Maximum m x.1.1 x.1.2.1 x.1.2.2.1 x.1.2.2.2.1 x.1.2.2.2.2.1
def matching_Maximum_T (m : Nat) : FunT := ⟨11, matching_Maximum_A, matching_Maximum_S, matching_Maximum_U, matching_Maximum_R m⟩
noncomputable def matching_Maximum_C : Code := codeOf Tryd.f11
theorem matching_Maximum_C_ls : loopsL matching_Maximum_C 0 = [] := by kernel_rfl
theorem matching_Maximum_kr (m : Nat) (x : ShLVal matching_Maximum_A) : fnK (mkC (matching_Maximum_S.Val × ShLVal matching_Maximum_U) [matrix_Check_T m, matching_matched_T m]) (mkLp (matching_Maximum_S.Val × ShLVal matching_Maximum_U) []) tt matching_Maximum_H Tryd.f11 (encS matching_Maximum_A x) (Kd matching_Maximum_S matching_Maximum_U) = matching_Maximum m x.1.1 x.1.2.1 x.1.2.2.1 x.1.2.2.2.1 x.1.2.2.2.2.1 := by kernel_rfl
theorem matching_Maximum_ok (m : Nat) : FunOK Tryd.prog (matching_Maximum_T m) :=
  fun_ok hmix htt (matching_Maximum_T m) Tryd.func11 (c := matching_Maximum_C) (by kernel_rfl) (by kernel_rfl) (Lc := [matrix_Check_T m, matching_matched_T m]) (AllF.mem (l := [matrix_Check_T m, matching_matched_T m]) ⟨matrix_Check_ok m, matching_matched_ok m, trivial⟩) (L := []) (fun _ hE _ _ => loopsIn_of matching_Maximum_C_ls trivial) (fun x => (matching_Maximum_kr m x).trans (by kernel_rfl))
/-! 33 sparse/matching.Reachable -/
def matching_Reachable_H : Hints := { regs := [⟨[], [1]⟩, ⟨[], [1, 4]⟩, ⟨[], [2, 3, 4]⟩, ⟨[], [2, 3, 4, 5]⟩, ⟨[], [2, 3, 4, 5, 23, 24, 25]⟩, ⟨[], [2, 3, 4, 5, 23, 24, 25, 26]⟩, ⟨[], [2, 3, 4, 5, 6, 7, 23, 24, 25]⟩, ⟨[(0, 1)], [2, 3, 4, 5, 6, 23, 24, 25, 31]⟩, ⟨[], [2, 3, 4, 5, 6, 23, 24, 25]⟩, ⟨[(0, 1), (1, 1)], [2, 3, 4, 5, 23, 24, 25]⟩, ⟨[(1, 1)], [2, 3, 4, 5, 23, 24, 25]⟩, ⟨[], [2, 3, 4, 5, 42]⟩, ⟨[], [2, 3, 4, 5, 8]⟩, ⟨[(0, 1)], [2, 3, 4, 5, 8]⟩, ⟨[(4, 1)], [2, 3, 4, 5, 54, 55, 56]⟩, ⟨[], [2, 3, 4, 5, 54, 55, 56, 57]⟩, ⟨[], [2, 3, 4, 5, 10, 54, 55, 56]⟩, ⟨[], [2, 3, 4, 5, 10, 54, 55, 56]⟩, ⟨[(4, 1)], [2, 3, 4, 5, 11, 54, 55, 56]⟩, ⟨[(2, 1)], [2, 3, 4, 5, 11, 54, 55, 56, 78]⟩, ⟨[], [2, 3, 4, 5, 11, 54, 55, 56]⟩, ⟨[(0, 1), (1, 1)], [2, 3, 4, 5, 54, 55, 56]⟩, ⟨[(1, 1)], [2, 3, 4, 5, 54, 55, 56]⟩, ⟨[(0, 1), (1, 1)], [2, 3]⟩], heads := [(0, [2, 3, 4, 5, 23, 24, 25]), (2, [2, 3, 4, 5]), (4, [2, 3, 4, 5, 54, 55, 56])], exits := [(0, [2, 3, 4, 5]), (1, [2, 3, 4, 5, 23, 24, 25]), (2, [2, 3]), (3, [2, 3, 4, 5]), (4, [2, 3, 4, 5]), (5, [2, 3, 4, 5, 54, 55, 56])], rets := [2, 3], pins := [], spec := [[true], [true]] }
abbrev matching_Reachable_A : List Sh := [.a (.agg [(.int .i64), (.int .i64), (.imm (.int .i64)), (.imm (.int .i64)), (.imm (.int .u64))])]
abbrev matching_Reachable_S : Sh := .tup [(.c (.nm 0 .bool)), (.c (.nm 1 .bool))]
abbrev matching_Reachable_U : List Sh := [.a (.c .dead)]
def matching_Reachable_R (m : Nat) : ShLVal matching_Reachable_A → Option (matching_Reachable_S.Val × ShLVal matching_Reachable_U) := fun (x : (Int × Int × List Int × List Int × List Int × Unit) × Unit) => matching_Reachable m x.1.1 x.1.2.1 x.1.2.2.1 x.1.2.2.2.1 x.1.2.2.2.2.1
def matching_Reachable_T (m : Nat) : FunT := ⟨33, matching_Reachable_A, matching_Reachable_S, matching_Reachable_U, matching_Reachable_R m⟩
noncomputable def matching_Reachable_C : Code := codeOf Tryd.f33
noncomputable def matching_Reachable_B0 : Code := loopAt matching_Reachable_C 0 0
theorem matching_Reachable_B0_ls : loopsL matching_Reachable_B0 0 = [] := by kernel_rfl
noncomputable def matching_Reachable_B2 : Code := loopAt matching_Reachable_C 0 1
noncomputable def matching_Reachable_B4 : Code := loopAt matching_Reachable_B2 2 0
theorem matching_Reachable_B4_ls : loopsL matching_Reachable_B4 4 = [] := by kernel_rfl
theorem matching_Reachable_B2_ls : loopsL matching_Reachable_B2 2 = [(4, matching_Reachable_B4)] := by kernel_rfl
theorem matching_Reachable_C_ls : loopsL matching_Reachable_C 0 = [(0, matching_Reachable_B0), (2, matching_Reachable_B2)] := by kernel_rfl
abbrev matching_Reachable_L2_I : SS := [(2, .a (.c (.nm 0 .bool))), (3, .a (.c (.nm 1 .bool))), (4, .a (.bx 2 [(.nm 3 (.sl false (.int .i64))), (.nm 4 (.int .i64)), (.nm 5 (.int .i64)), (.nm 6 .bool)])), (5, .a (.c (.nm 7 (.int .i64)))), (54, .a (.c (.imm (.int .i64)))), (55, .a (.c (.int .i64))), (56, .a (.c (.int .i64)))]
abbrev matching_Reachable_L2_O : List (Ex × SS) := [(.exit 4, [(2, .a (.c (.nm 0 .bool))), (3, .a (.c (.nm 1 .bool))), (4, .a (.bx 2 [(.nm 3 (.sl false (.int .i64))), (.nm 4 (.int .i64)), (.nm 5 (.int .i64)), (.nm 6 .bool)])), (5, .a (.c (.nm 7 (.int .i64))))])]
def matching_Reachable_L2_R (m n : Nat) : matching_Reachable_L2_I.Val → Option (outVal matching_Reachable_L2_O) := (fun (x : List Bool × List Bool × (List (List Int) × List Int × List Int × List Bool × Unit) × List Int × List Int × Int × Int × Unit) => matching_Reachable_L2 m n x.1 x.2.1 x.2.2.1.1 x.2.2.1.2.1 x.2.2.1.2.2.1 x.2.2.1.2.2.2.1 x.2.2.2.1 x.2.2.2.2.1 x.2.2.2.2.2.1 x.2.2.2.2.2.2.1)
def matching_Reachable_L2_T (m n : Nat) : LoopT := ⟨4, matching_Reachable_L2_I, matching_Reachable_L2_O, matching_Reachable_L2_R m n⟩
theorem matching_Reachable_L2_kr (m n : Nat) (x : matching_Reachable_L2_I.Val) : roundK (mkC (outVal matching_Reachable_L2_O) [matching_matched_T m]) (mkLp (outVal matching_Reachable_L2_O) []) tt 89 matching_Reachable_H matching_Reachable_B4 4 (matching_Reachable_L2_I.enc x) (Kl (ins := matching_Reachable_L2_I) (outs := matching_Reachable_L2_O) (matching_Reachable_L2_R m n)) = matching_Reachable_L2 m (n + 1) x.1 x.2.1 x.2.2.1.1 x.2.2.1.2.1 x.2.2.1.2.2.1 x.2.2.1.2.2.2.1 x.2.2.2.1 x.2.2.2.2.1 x.2.2.2.2.2.1 x.2.2.2.2.2.2.1 := by kernel_rfl
theorem matching_Reachable_L2_ok {E : Entry} (hE : EOf Tryd.prog E 89 matching_Reachable_H.pins) (m : Nat) (n : Nat) : LoopOK Tryd.prog E matching_Reachable_B4 (matching_Reachable_L2_T m n) :=
  loop_ok (CO := CallOK Tryd.prog) hmix htt (fun _ _ _ _ h => h) hE (C := fun R => mkC R [matching_matched_T m]) (L := []) (fun _ _ _ _ _ h => mkC_spec (AllF.mem (l := [matching_matched_T m]) ⟨matching_matched_ok m, trivial⟩) h) (fun _ _ => loopsIn_of matching_Reachable_B4_ls trivial) (fun n => (matching_Reachable_L2_R m n)) (fun _ => by kernel_rfl) (fun n x => (matching_Reachable_L2_kr m n x).trans (by kernel_rfl)) n
abbrev matching_Reachable_L1_I : SS := [(2, .a (.c (.nm 0 .bool))), (3, .a (.c (.nm 1 .bool))), (4, .a (.bx 2 [(.nm 3 (.sl false (.int .i64))), (.nm 4 (.int .i64)), (.nm 5 (.int .i64)), (.nm 6 .bool)])), (5, .a (.c (.nm 7 (.int .i64))))]
abbrev matching_Reachable_L1_O : List (Ex × SS) := [(.exit 2, [(2, .a (.c (.nm 0 .bool))), (3, .a (.c (.nm 1 .bool)))])]
def matching_Reachable_L1_R (m n : Nat) : matching_Reachable_L1_I.Val → Option (outVal matching_Reachable_L1_O) := (fun (x : List Bool × List Bool × (List (List Int) × List Int × List Int × List Bool × Unit) × List Int × Unit) => matching_Reachable_L1 m n x.1 x.2.1 x.2.2.1.1 x.2.2.1.2.1 x.2.2.1.2.2.1 x.2.2.1.2.2.2.1 x.2.2.2.1)
def matching_Reachable_L1_T (m n : Nat) : LoopT := ⟨2, matching_Reachable_L1_I, matching_Reachable_L1_O, matching_Reachable_L1_R m n⟩
theorem matching_Reachable_L1_kr (m n : Nat) (x : matching_Reachable_L1_I.Val) : roundK (mkC (outVal matching_Reachable_L1_O) [matching_matched_T m]) (mkLp (outVal matching_Reachable_L1_O) [matching_Reachable_L2_T m m]) tt 89 matching_Reachable_H matching_Reachable_B2 2 (matching_Reachable_L1_I.enc x) (Kl (ins := matching_Reachable_L1_I) (outs := matching_Reachable_L1_O) (matching_Reachable_L1_R m n)) = matching_Reachable_L1 m (n + 1) x.1 x.2.1 x.2.2.1.1 x.2.2.1.2.1 x.2.2.1.2.2.1 x.2.2.1.2.2.2.1 x.2.2.2.1 := by kernel_rfl
theorem matching_Reachable_L1_ok {E : Entry} (hE : EOf Tryd.prog E 89 matching_Reachable_H.pins) (m : Nat) (n : Nat) : LoopOK Tryd.prog E matching_Reachable_B2 (matching_Reachable_L1_T m n) :=
  loop_ok (CO := CallOK Tryd.prog) hmix htt (fun _ _ _ _ h => h) hE (C := fun R => mkC R [matching_matched_T m]) (L := [matching_Reachable_L2_T m m]) (fun _ _ _ _ _ h => mkC_spec (AllF.mem (l := [matching_matched_T m]) ⟨matching_matched_ok m, trivial⟩) h) (fun _ _ => loopsIn_of matching_Reachable_B2_ls ⟨mkLp_all ⟨fun _ => matching_Reachable_L2_ok hE m m, trivial⟩, trivial⟩) (fun n => (matching_Reachable_L1_R m n)) (fun _ => by kernel_rfl) (fun n x => (matching_Reachable_L1_kr m n x).trans (by kernel_rfl)) n
abbrev matching_Reachable_L0_I : SS := [(2, .a (.c (.nm 0 .bool))), (3, .a (.c (.nm 1 .bool))), (4, .a (.bx 2 [(.nm 3 (.sl false (.int .i64))), (.nm 4 (.int .i64)), (.nm 5 (.int .i64)), (.nm 6 .bool)])), (5, .a (.c (.nm 7 (.int .i64)))), (23, .a (.c (.ref 4 4 1))), (24, .a (.c (.int .i64))), (25, .a (.c (.int .i64)))]
abbrev matching_Reachable_L0_O : List (Ex × SS) := [(.exit 0, [(2, .a (.c (.nm 0 .bool))), (3, .a (.c (.nm 1 .bool))), (4, .a (.bx 2 [(.nm 3 (.sl false (.int .i64))), (.nm 4 (.int .i64)), (.nm 5 (.int .i64)), (.nm 6 .bool)])), (5, .a (.c (.nm 7 (.int .i64))))])]
def matching_Reachable_L0_R (m n : Nat) : matching_Reachable_L0_I.Val → Option (outVal matching_Reachable_L0_O) := (fun (x : List Bool × List Bool × (List (List Int) × List Int × List Int × List Bool × Unit) × List Int × Unit × Int × Int × Unit) => matching_Reachable_L0 m n x.1 x.2.1 x.2.2.1.1 x.2.2.1.2.1 x.2.2.1.2.2.1 x.2.2.1.2.2.2.1 x.2.2.2.1 x.2.2.2.2.2.1 x.2.2.2.2.2.2.1)
def matching_Reachable_L0_T (m n : Nat) : LoopT := ⟨0, matching_Reachable_L0_I, matching_Reachable_L0_O, matching_Reachable_L0_R m n⟩
theorem matching_Reachable_L0_kr (m n : Nat) (x : matching_Reachable_L0_I.Val) : roundK (mkC (outVal matching_Reachable_L0_O) [matching_matched_T m]) (mkLp (outVal matching_Reachable_L0_O) []) tt 89 matching_Reachable_H matching_Reachable_B0 0 (matching_Reachable_L0_I.enc x) (Kl (ins := matching_Reachable_L0_I) (outs := matching_Reachable_L0_O) (matching_Reachable_L0_R m n)) = matching_Reachable_L0 m (n + 1) x.1 x.2.1 x.2.2.1.1 x.2.2.1.2.1 x.2.2.1.2.2.1 x.2.2.1.2.2.2.1 x.2.2.2.1 x.2.2.2.2.2.1 x.2.2.2.2.2.2.1 := by kernel_rfl
theorem matching_Reachable_L0_ok {E : Entry} (hE : EOf Tryd.prog E 89 matching_Reachable_H.pins) (m : Nat) (n : Nat) : LoopOK Tryd.prog E matching_Reachable_B0 (matching_Reachable_L0_T m n) :=
  loop_ok (CO := CallOK Tryd.prog) hmix htt (fun _ _ _ _ h => h) hE (C := fun R => mkC R [matching_matched_T m]) (L := []) (fun _ _ _ _ _ h => mkC_spec (AllF.mem (l := [matching_matched_T m]) ⟨matching_matched_ok m, trivial⟩) h) (fun _ _ => loopsIn_of matching_Reachable_B0_ls trivial) (fun n => (matching_Reachable_L0_R m n)) (fun _ => by kernel_rfl) (fun n x => (matching_Reachable_L0_kr m n x).trans (by kernel_rfl)) n
theorem matching_Reachable_kr (m : Nat) (x : ShLVal matching_Reachable_A) : fnK (mkC (matching_Reachable_S.Val × ShLVal matching_Reachable_U) [matching_matched_T m]) (mkLp (matching_Reachable_S.Val × ShLVal matching_Reachable_U) [matching_Reachable_L0_T m m, matching_Reachable_L1_T m m]) tt matching_Reachable_H Tryd.f33 (encS matching_Reachable_A x) (Kd matching_Reachable_S matching_Reachable_U) = matching_Reachable m x.1.1 x.1.2.1 x.1.2.2.1 x.1.2.2.2.1 x.1.2.2.2.2.1 := by kernel_rfl
theorem matching_Reachable_ok (m : Nat) : FunOK Tryd.prog (matching_Reachable_T m) :=
  fun_ok hmix htt (matching_Reachable_T m) Tryd.func33 (c := matching_Reachable_C) (by kernel_rfl) (by kernel_rfl) (Lc := [matching_matched_T m]) (AllF.mem (l := [matching_matched_T m]) ⟨matching_matched_ok m, trivial⟩) (L := [matching_Reachable_L0_T m m, matching_Reachable_L1_T m m]) (fun _ hE _ _ => loopsIn_of matching_Reachable_C_ls ⟨mkLp_all ⟨fun _ => matching_Reachable_L0_ok hE m m, fun h => absurd (show (2 : Nat) = 0 from h) (by decide), trivial⟩, mkLp_all ⟨fun h => absurd (show (0 : Nat) = 2 from h) (by decide), fun _ => matching_Reachable_L1_ok hE m m, trivial⟩, trivial⟩) (fun x => (matching_Reachable_kr m x).trans (by kernel_rfl))
/-! 34 sparse/matching.List -/
def matching_List_H : Hints := { regs := [⟨[], [0, 1]⟩, ⟨[], [0, 1, 5]⟩, ⟨[(0, 1)], [1, 5, 8, 9, 10]⟩, ⟨[], [1, 5, 8, 9, 10, 11]⟩, ⟨[], [1, 5, 6, 7, 8, 9, 10]⟩, ⟨[(0, 1)], [1, 5, 6, 8, 9, 10, 17]⟩, ⟨[(0, 1), (1, 1)], [1, 5, 8, 9, 10]⟩, ⟨[(1, 1)], [1, 5, 8, 9, 10]⟩, ⟨[(0, 1)], [4]⟩], heads := [(0, [1, 5, 8, 9, 10])], exits := [(0, [5]), (1, [1, 5, 8, 9, 10])], rets := [4], pins := [], spec := [[true]] }
abbrev matching_List_A : List Sh := [.a (.c (.imm .bool)), .a (.c .bool)]
abbrev matching_List_S : Sh := .a (.c (.nm 0 (.int .i64)))
abbrev matching_List_U : List Sh := [.a (.c .dead), .a (.c .dead)]
def matching_List_R (m : Nat) : ShLVal matching_List_A → Option (matching_List_S.Val × ShLVal matching_List_U) := fun (x : List Bool × Bool × Unit) => matching_List m x.1 x.2.1
def matching_List_T (m : Nat) : FunT := ⟨34, matching_List_A, matching_List_S, matching_List_U, matching_List_R m⟩
noncomputable def matching_List_C : Code := codeOf Tryd.f34
noncomputable def matching_List_B0 : Code := loopAt matching_List_C 0 0
theorem matching_List_B0_ls : loopsL matching_List_B0 0 = [] := by kernel_rfl
theorem matching_List_C_ls : loopsL matching_List_C 0 = [(0, matching_List_B0)] := by kernel_rfl
abbrev matching_List_L0_I : SS := [(1, .a (.c .bool)), (5, .a (.c (.nm 0 (.int .i64)))), (8, .a (.c (.imm .bool))), (9, .a (.c (.int .i64))), (10, .a (.c (.int .i64)))]
abbrev matching_List_L0_O : List (Ex × SS) := [(.exit 0, [(5, .a (.c (.nm 0 (.int .i64))))])]
def matching_List_L0_R (m n : Nat) : matching_List_L0_I.Val → Option (outVal matching_List_L0_O) := (fun (x : Bool × List Int × List Bool × Int × Int × Unit) => matching_List_L0 m n x.1 x.2.1 x.2.2.1 x.2.2.2.1 x.2.2.2.2.1)
def matching_List_L0_T (m n : Nat) : LoopT := ⟨0, matching_List_L0_I, matching_List_L0_O, matching_List_L0_R m n⟩
theorem matching_List_L0_kr (m n : Nat) (x : matching_List_L0_I.Val) : roundK (mkC (outVal matching_List_L0_O) []) (mkLp (outVal matching_List_L0_O) []) tt 24 matching_List_H matching_List_B0 0 (matching_List_L0_I.enc x) (Kl (ins := matching_List_L0_I) (outs := matching_List_L0_O) (matching_List_L0_R m n)) = matching_List_L0 m (n + 1) x.1 x.2.1 x.2.2.1 x.2.2.2.1 x.2.2.2.2.1 := by kernel_rfl
theorem matching_List_L0_ok {E : Entry} (hE : EOf Tryd.prog E 24 matching_List_H.pins) (m : Nat) (n : Nat) : LoopOK Tryd.prog E matching_List_B0 (matching_List_L0_T m n) :=
  loop_ok (CO := CallOK Tryd.prog) hmix htt (fun _ _ _ _ h => h) hE (C := fun R => mkC R []) (L := []) (fun _ _ _ _ _ h => mkC_spec (AllF.mem (l := []) trivial) h) (fun _ _ => loopsIn_of matching_List_B0_ls trivial) (fun n => (matching_List_L0_R m n)) (fun _ => by kernel_rfl) (fun n x => (matching_List_L0_kr m n x).trans (by kernel_rfl)) n
theorem matching_List_kr (m : Nat) (x : ShLVal matching_List_A) : fnK (mkC (matching_List_S.Val × ShLVal matching_List_U) []) (mkLp (matching_List_S.Val × ShLVal matching_List_U) [matching_List_L0_T m m]) tt matching_List_H Tryd.f34 (encS matching_List_A x) (Kd matching_List_S matching_List_U) = matching_List m x.1 x.2.1 := by kernel_rfl
theorem matching_List_ok (m : Nat) : FunOK Tryd.prog (matching_List_T m) :=
  fun_ok hmix htt (matching_List_T m) Tryd.func34 (c := matching_List_C) (by kernel_rfl) (by kernel_rfl) (Lc := []) (AllF.mem (l := []) trivial) (L := [matching_List_L0_T m m]) (fun _ hE _ _ => loopsIn_of matching_List_C_ls ⟨mkLp_all ⟨fun _ => matching_List_L0_ok hE m m, trivial⟩, trivial⟩) (fun x => (matching_List_kr m x).trans (by kernel_rfl))
/-! 13 sparse/matching.Cover -/
def matching_Cover_H : Hints := { regs := [⟨[], [1, 2]⟩, ⟨[], [1, 2, 4]⟩, ⟨[], [1, 2, 4, 10]⟩, ⟨[(1, 1)], [2, 3]⟩, ⟨[(2, 1)], [2, 5, 6]⟩, ⟨[(0, 1), (2, 1)], [2, 3]⟩], heads := [], exits := [], rets := [2, 3], pins := [], spec := [[true, true], [false]] }
abbrev matching_Cover_A : List Sh := [.a (.agg [(.int .i64), (.int .i64), (.imm (.int .i64)), (.imm (.int .i64)), (.imm (.int .u64))])]
abbrev matching_Cover_S : Sh := .tup [(.agg [(.nm 0 (.int .i64)), (.nm 1 (.int .i64))]), (.c (.int .i64))]
abbrev matching_Cover_U : List Sh := [.a (.c .dead)]
def matching_Cover_R (m : Nat) : ShLVal matching_Cover_A → Option (matching_Cover_S.Val × ShLVal matching_Cover_U) := fun (x : (Int × Int × List Int × List Int × List Int × Unit) × Unit) => matching_Cover m x.1.1 x.1.2.1 x.1.2.2.1 x.1.2.2.2.1 x.1.2.2.2.2.1
def matching_Cover_T (m : Nat) : FunT := ⟨13, matching_Cover_A, matching_Cover_S, matching_Cover_U, matching_Cover_R m⟩
noncomputable def matching_Cover_C : Code := codeOf Tryd.f13
theorem matching_Cover_C_ls : loopsL matching_Cover_C 0 = [] := by kernel_rfl
theorem matching_Cover_kr (m : Nat) (x : ShLVal matching_Cover_A) : fnK (mkC (matching_Cover_S.Val × ShLVal matching_Cover_U) [matrix_Check_T m, matching_Reachable_T m, matching_List_T m]) (mkLp (matching_Cover_S.Val × ShLVal matching_Cover_U) []) tt matching_Cover_H Tryd.f13 (encS matching_Cover_A x) (Kd matching_Cover_S matching_Cover_U) = matching_Cover m x.1.1 x.1.2.1 x.1.2.2.1 x.1.2.2.2.1 x.1.2.2.2.2.1 := by kernel_rfl
theorem matching_Cover_ok (m : Nat) : FunOK Tryd.prog (matching_Cover_T m) :=
  fun_ok hmix htt (matching_Cover_T m) Tryd.func13 (c := matching_Cover_C) (by kernel_rfl) (by kernel_rfl) (Lc := [matrix_Check_T m, matching_Reachable_T m, matching_List_T m]) (AllF.mem (l := [matrix_Check_T m, matching_Reachable_T m, matching_List_T m]) ⟨matrix_Check_ok m, matching_Reachable_ok m, matching_List_ok m, trivial⟩) (L := []) (fun _ hE _ _ => loopsIn_of matching_Cover_C_ls trivial) (fun x => (matching_Cover_kr m x).trans (by kernel_rfl))
/-! 15 sparse/sparsekit.Ints -/
def sparsekit_Ints_H : Hints := { regs := [⟨[], [0, 1]⟩, ⟨[], [0, 1, 10]⟩, ⟨[], [4]⟩, ⟨[], [0, 1, 5]⟩, ⟨[], [0, 1, 5, 14]⟩, ⟨[(0, 1)], [0, 1, 5]⟩, ⟨[], [0, 1, 5, 25]⟩, ⟨[], [4]⟩, ⟨[], [4]⟩], heads := [(0, [0, 1, 5])], exits := [(0, []), (1, [0, 1, 5])], rets := [4], pins := [], spec := [[false]] }
abbrev sparsekit_Ints_A : List Sh := [.a (.c (.imm (.int .i64))), .a (.c (.imm (.int .i64)))]
abbrev sparsekit_Ints_S : Sh := .a (.c .bool)
abbrev sparsekit_Ints_U : List Sh := [.a (.c .dead), .a (.c .dead)]
def sparsekit_Ints_R (m : Nat) : ShLVal sparsekit_Ints_A → Option (sparsekit_Ints_S.Val × ShLVal sparsekit_Ints_U) := fun (x : List Int × List Int × Unit) => sparsekit_Ints m x.1 x.2.1
def sparsekit_Ints_T (m : Nat) : FunT := ⟨15, sparsekit_Ints_A, sparsekit_Ints_S, sparsekit_Ints_U, sparsekit_Ints_R m⟩
noncomputable def sparsekit_Ints_C : Code := codeOf Tryd.f15
noncomputable def sparsekit_Ints_B0 : Code := loopAt sparsekit_Ints_C 0 0
theorem sparsekit_Ints_B0_ls : loopsL sparsekit_Ints_B0 0 = [] := by kernel_rfl
theorem sparsekit_Ints_C_ls : loopsL sparsekit_Ints_C 0 = [(0, sparsekit_Ints_B0)] := by kernel_rfl
abbrev sparsekit_Ints_L0_I : SS := [(0, .a (.c (.imm (.int .i64)))), (1, .a (.c (.imm (.int .i64)))), (5, .a (.c (.int .i64)))]
abbrev sparsekit_Ints_L0_O : List (Ex × SS) := [(.ret, [(4, .a (.c .bool))]), (.exit 0, [])]
def sparsekit_Ints_L0_R (m n : Nat) : sparsekit_Ints_L0_I.Val → Option (outVal sparsekit_Ints_L0_O) := (fun (x : List Int × List Int × Int × Unit) => sparsekit_Ints_L0 m n x.1 x.2.1 x.2.2.1)
def sparsekit_Ints_L0_T (m n : Nat) : LoopT := ⟨0, sparsekit_Ints_L0_I, sparsekit_Ints_L0_O, sparsekit_Ints_L0_R m n⟩
theorem sparsekit_Ints_L0_kr (m n : Nat) (x : sparsekit_Ints_L0_I.Val) : roundK (mkC (outVal sparsekit_Ints_L0_O) []) (mkLp (outVal sparsekit_Ints_L0_O) []) tt 26 sparsekit_Ints_H sparsekit_Ints_B0 0 (sparsekit_Ints_L0_I.enc x) (Kl (ins := sparsekit_Ints_L0_I) (outs := sparsekit_Ints_L0_O) (sparsekit_Ints_L0_R m n)) = sparsekit_Ints_L0 m (n + 1) x.1 x.2.1 x.2.2.1 := by kernel_rfl
theorem sparsekit_Ints_L0_ok {E : Entry} (hE : EOf Tryd.prog E 26 sparsekit_Ints_H.pins) (m : Nat) (n : Nat) : LoopOK Tryd.prog E sparsekit_Ints_B0 (sparsekit_Ints_L0_T m n) :=
  loop_ok (CO := CallOK Tryd.prog) hmix htt (fun _ _ _ _ h => h) hE (C := fun R => mkC R []) (L := []) (fun _ _ _ _ _ h => mkC_spec (AllF.mem (l := []) trivial) h) (fun _ _ => loopsIn_of sparsekit_Ints_B0_ls trivial) (fun n => (sparsekit_Ints_L0_R m n)) (fun _ => by kernel_rfl) (fun n x => (sparsekit_Ints_L0_kr m n x).trans (by kernel_rfl)) n
theorem sparsekit_Ints_kr (m : Nat) (x : ShLVal sparsekit_Ints_A) : fnK (mkC (sparsekit_Ints_S.Val × ShLVal sparsekit_Ints_U) []) (mkLp (sparsekit_Ints_S.Val × ShLVal sparsekit_Ints_U) [sparsekit_Ints_L0_T m m]) tt sparsekit_Ints_H Tryd.f15 (encS sparsekit_Ints_A x) (Kd sparsekit_Ints_S sparsekit_Ints_U) = sparsekit_Ints m x.1 x.2.1 := by kernel_rfl
theorem sparsekit_Ints_ok (m : Nat) : FunOK Tryd.prog (sparsekit_Ints_T m) :=
  fun_ok hmix htt (sparsekit_Ints_T m) Tryd.func15 (c := sparsekit_Ints_C) (by kernel_rfl) (by kernel_rfl) (Lc := []) (AllF.mem (l := []) trivial) (L := [sparsekit_Ints_L0_T m m]) (fun _ hE _ _ => loopsIn_of sparsekit_Ints_C_ls ⟨mkLp_all ⟨fun _ => sparsekit_Ints_L0_ok hE m m, trivial⟩, trivial⟩) (fun x => (sparsekit_Ints_kr m x).trans (by kernel_rfl))
/-! 56 sparse/matching.contains -/
def matching_contains_H : Hints := { regs := [⟨[], [0, 1]⟩, ⟨[(0, 1)], [1, 7, 8, 9]⟩, ⟨[], [1, 7, 8, 9, 10]⟩, ⟨[], [1, 6, 7, 8, 9]⟩, ⟨[(0, 1)], [1, 7, 8, 9, 15]⟩, ⟨[], [4]⟩, ⟨[(1, 1)], [1, 7, 8, 9]⟩, ⟨[], [4]⟩], heads := [(0, [1, 7, 8, 9])], exits := [(0, []), (1, [1, 7, 8, 9])], rets := [4], pins := [], spec := [[false]] }
abbrev matching_contains_A : List Sh := [.a (.c (.imm (.int .i64))), .a (.c (.int .i64))]
abbrev matching_contains_S : Sh := .a (.c .bool)
abbrev matching_contains_U : List Sh := [.a (.c .dead), .a (.c .dead)]
def matching_contains_R (m : Nat) : ShLVal matching_contains_A → Option (matching_contains_S.Val × ShLVal matching_contains_U) := fun (x : List Int × Int × Unit) => matching_contains m x.1 x.2.1
def matching_contains_T (m : Nat) : FunT := ⟨56, matching_contains_A, matching_contains_S, matching_contains_U, matching_contains_R m⟩
noncomputable def matching_contains_C : Code := codeOf Tryd.f56
noncomputable def matching_contains_B0 : Code := loopAt matching_contains_C 0 0
theorem matching_contains_B0_ls : loopsL matching_contains_B0 0 = [] := by kernel_rfl
theorem matching_contains_C_ls : loopsL matching_contains_C 0 = [(0, matching_contains_B0)] := by kernel_rfl
abbrev matching_contains_L0_I : SS := [(1, .a (.c (.int .i64))), (7, .a (.c (.imm (.int .i64)))), (8, .a (.c (.int .i64))), (9, .a (.c (.int .i64)))]
abbrev matching_contains_L0_O : List (Ex × SS) := [(.ret, [(4, .a (.c .bool))]), (.exit 0, [])]
def matching_contains_L0_R (m n : Nat) : matching_contains_L0_I.Val → Option (outVal matching_contains_L0_O) := (fun (x : Int × List Int × Int × Int × Unit) => matching_contains_L0 m n x.1 x.2.1 x.2.2.1 x.2.2.2.1)
def matching_contains_L0_T (m n : Nat) : LoopT := ⟨0, matching_contains_L0_I, matching_contains_L0_O, matching_contains_L0_R m n⟩
theorem matching_contains_L0_kr (m n : Nat) (x : matching_contains_L0_I.Val) : roundK (mkC (outVal matching_contains_L0_O) []) (mkLp (outVal matching_contains_L0_O) []) tt 17 matching_contains_H matching_contains_B0 0 (matching_contains_L0_I.enc x) (Kl (ins := matching_contains_L0_I) (outs := matching_contains_L0_O) (matching_contains_L0_R m n)) = matching_contains_L0 m (n + 1) x.1 x.2.1 x.2.2.1 x.2.2.2.1 := by kernel_rfl
theorem matching_contains_L0_ok {E : Entry} (hE : EOf Tryd.prog E 17 matching_contains_H.pins) (m : Nat) (n : Nat) : LoopOK Tryd.prog E matching_contains_B0 (matching_contains_L0_T m n) :=
  loop_ok (CO := CallOK Tryd.prog) hmix htt (fun _ _ _ _ h => h) hE (C := fun R => mkC R []) (L := []) (fun _ _ _ _ _ h => mkC_spec (AllF.mem (l := []) trivial) h) (fun _ _ => loopsIn_of matching_contains_B0_ls trivial) (fun n => (matching_contains_L0_R m n)) (fun _ => by kernel_rfl) (fun n x => (matching_contains_L0_kr m n x).trans (by kernel_rfl)) n
theorem matching_contains_kr (m : Nat) (x : ShLVal matching_contains_A) : fnK (mkC (matching_contains_S.Val × ShLVal matching_contains_U) []) (mkLp (matching_contains_S.Val × ShLVal matching_contains_U) [matching_contains_L0_T m m]) tt matching_contains_H Tryd.f56 (encS matching_contains_A x) (Kd matching_contains_S matching_contains_U) = matching_contains m x.1 x.2.1 := by kernel_rfl
theorem matching_contains_ok (m : Nat) : FunOK Tryd.prog (matching_contains_T m) :=
  fun_ok hmix htt (matching_contains_T m) Tryd.func56 (c := matching_contains_C) (by kernel_rfl) (by kernel_rfl) (Lc := []) (AllF.mem (l := []) trivial) (L := [matching_contains_L0_T m m]) (fun _ hE _ _ => loopsIn_of matching_contains_C_ls ⟨mkLp_all ⟨fun _ => matching_contains_L0_ok hE m m, trivial⟩, trivial⟩) (fun x => (matching_contains_kr m x).trans (by kernel_rfl))
/-! 37 sparse/matching.matching -/
def matching_matching_H : Hints := { regs := [⟨[], [0, 1, 2]⟩, ⟨[], [0, 1, 2, 8]⟩, ⟨[], [0, 1, 2, 8, 9]⟩, ⟨[(0, 1)], [0, 1, 8, 9, 14, 15, 16]⟩, ⟨[], [0, 1, 8, 9, 14, 15, 16, 17]⟩, ⟨[], [0, 1, 8, 9, 10, 11, 14, 15, 16]⟩, ⟨[], [0, 1, 8, 9, 10, 11, 14, 15, 16, 22]⟩, ⟨[(2, 1), (7, 1), (13, 1), (15, 1)], [0, 1, 8, 9, 11, 14, 15, 16, 44]⟩, ⟨[], [6, 7]⟩, ⟨[(1, 1)], [0, 1, 8, 9, 14, 15, 16]⟩, ⟨[(0, 1)], [0, 1, 8, 9, 14, 15, 16]⟩, ⟨[(1, 1)], [0, 1, 8, 9, 14, 15, 16]⟩, ⟨[(0, 1)], [6, 7]⟩], heads := [(0, [0, 1, 8, 9, 14, 15, 16])], exits := [(0, [9]), (1, [0, 1, 8, 9, 14, 15, 16])], rets := [6, 7], pins := [], spec := [[false], [false]] }
abbrev matching_matching_A : List Sh := [.a (.c (.imm (.sl false (.int .i64)))), .a (.c (.int .i64)), .a (.c (.imm (.int .i64)))]
abbrev matching_matching_S : Sh := .tup [(.c (.int .i64)), (.c .bool)]
abbrev matching_matching_U : List Sh := [.a (.c .dead), .a (.c .dead), .a (.c .dead)]
def matching_matching_R (m : Nat) : ShLVal matching_matching_A → Option (matching_matching_S.Val × ShLVal matching_matching_U) := fun (x : List (List Int) × Int × List Int × Unit) => matching_matching m x.1 x.2.1 x.2.2.1
def matching_matching_T (m : Nat) : FunT := ⟨37, matching_matching_A, matching_matching_S, matching_matching_U, matching_matching_R m⟩
noncomputable def matching_matching_C : Code := codeOf Tryd.f37
noncomputable def matching_matching_B0 : Code := loopAt matching_matching_C 0 0
theorem matching_matching_B0_ls : loopsL matching_matching_B0 0 = [] := by kernel_rfl
theorem matching_matching_C_ls : loopsL matching_matching_C 0 = [(0, matching_matching_B0)] := by kernel_rfl
abbrev matching_matching_L0_I : SS := [(0, .a (.c (.imm (.sl false (.int .i64))))), (1, .a (.c (.int .i64))), (8, .a (.c (.nm 0 .bool))), (9, .a (.c (.int .i64))), (14, .a (.c (.imm (.int .i64)))), (15, .a (.c (.int .i64))), (16, .a (.c (.int .i64)))]
abbrev matching_matching_L0_O : List (Ex × SS) := [(.ret, [(6, .a (.c (.int .i64))), (7, .a (.c .bool))]), (.exit 0, [(9, .a (.c (.int .i64)))])]
def matching_matching_L0_R (m n : Nat) : matching_matching_L0_I.Val → Option (outVal matching_matching_L0_O) := (fun (x : List (List Int) × Int × List Bool × Int × List Int × Int × Int × Unit) => matching_matching_L0 m n x.1 x.2.1 x.2.2.1 x.2.2.2.1 x.2.2.2.2.1 x.2.2.2.2.2.1 x.2.2.2.2.2.2.1)
def matching_matching_L0_T (m n : Nat) : LoopT := ⟨0, matching_matching_L0_I, matching_matching_L0_O, matching_matching_L0_R m n⟩
theorem matching_matching_L0_kr (m n : Nat) (x : matching_matching_L0_I.Val) : roundK (mkC (outVal matching_matching_L0_O) [matching_contains_T m]) (mkLp (outVal matching_matching_L0_O) []) tt 52 matching_matching_H matching_matching_B0 0 (matching_matching_L0_I.enc x) (Kl (ins := matching_matching_L0_I) (outs := matching_matching_L0_O) (matching_matching_L0_R m n)) = matching_matching_L0 m (n + 1) x.1 x.2.1 x.2.2.1 x.2.2.2.1 x.2.2.2.2.1 x.2.2.2.2.2.1 x.2.2.2.2.2.2.1 := by kernel_rfl
theorem matching_matching_L0_ok {E : Entry} (hE : EOf Tryd.prog E 52 matching_matching_H.pins) (m : Nat) (n : Nat) : LoopOK Tryd.prog E matching_matching_B0 (matching_matching_L0_T m n) :=
  loop_ok (CO := CallOK Tryd.prog) hmix htt (fun _ _ _ _ h => h) hE (C := fun R => mkC R [matching_contains_T m]) (L := []) (fun _ _ _ _ _ h => mkC_spec (AllF.mem (l := [matching_contains_T m]) ⟨matching_contains_ok m, trivial⟩) h) (fun _ _ => loopsIn_of matching_matching_B0_ls trivial) (fun n => (matching_matching_L0_R m n)) (fun _ => by kernel_rfl) (fun n x => (matching_matching_L0_kr m n x).trans (by kernel_rfl)) n
theorem matching_matching_kr (m : Nat) (x : ShLVal matching_matching_A) : fnK (mkC (matching_matching_S.Val × ShLVal matching_matching_U) [matching_contains_T m]) (mkLp (matching_matching_S.Val × ShLVal matching_matching_U) [matching_matching_L0_T m m]) tt matching_matching_H Tryd.f37 (encS matching_matching_A x) (Kd matching_matching_S matching_matching_U) = matching_matching m x.1 x.2.1 x.2.2.1 := by kernel_rfl
theorem matching_matching_ok (m : Nat) : FunOK Tryd.prog (matching_matching_T m) :=
  fun_ok hmix htt (matching_matching_T m) Tryd.func37 (c := matching_matching_C) (by kernel_rfl) (by kernel_rfl) (Lc := [matching_contains_T m]) (AllF.mem (l := [matching_contains_T m]) ⟨matching_contains_ok m, trivial⟩) (L := [matching_matching_L0_T m m]) (fun _ hE _ _ => loopsIn_of matching_matching_C_ls ⟨mkLp_all ⟨fun _ => matching_matching_L0_ok hE m m, trivial⟩, trivial⟩) (fun x => (matching_matching_kr m x).trans (by kernel_rfl))
/-! 57 sparse/matching.chosen -/
def matching_chosen_H : Hints := { regs := [⟨[], [0, 1]⟩, ⟨[], [0, 1, 6]⟩, ⟨[], [0, 1, 6, 7]⟩, ⟨[(0, 1)], [1, 6, 7, 12, 13, 14]⟩, ⟨[], [1, 6, 7, 12, 13, 14, 15]⟩, ⟨[], [1, 6, 7, 9, 12, 13, 14]⟩, ⟨[(1, 1), (3, 1)], [1, 6, 9, 12, 13, 14, 25]⟩, ⟨[], [4, 5]⟩, ⟨[], [1, 6, 7, 12, 13, 14]⟩, ⟨[(1, 1)], [1, 6, 7, 12, 13, 14]⟩, ⟨[(0, 1)], [4, 5]⟩], heads := [(0, [1, 6, 7, 12, 13, 14])], exits := [(0, [6]), (1, [1, 6, 7, 12, 13, 14])], rets := [4, 5], pins := [], spec := [[true], [false]] }
abbrev matching_chosen_A : List Sh := [.a (.c (.imm (.int .i64))), .a (.c (.int .i64))]
abbrev matching_chosen_S : Sh := .tup [(.c (.nm 0 .bool)), (.c .bool)]
abbrev matching_chosen_U : List Sh := [.a (.c .dead), .a (.c .dead)]
def matching_chosen_R (m : Nat) : ShLVal matching_chosen_A → Option (matching_chosen_S.Val × ShLVal matching_chosen_U) := fun (x : List Int × Int × Unit) => matching_chosen m x.1 x.2.1
def matching_chosen_T (m : Nat) : FunT := ⟨57, matching_chosen_A, matching_chosen_S, matching_chosen_U, matching_chosen_R m⟩
noncomputable def matching_chosen_C : Code := codeOf Tryd.f57
noncomputable def matching_chosen_B0 : Code := loopAt matching_chosen_C 0 0
theorem matching_chosen_B0_ls : loopsL matching_chosen_B0 0 = [] := by kernel_rfl
theorem matching_chosen_C_ls : loopsL matching_chosen_C 0 = [(0, matching_chosen_B0)] := by kernel_rfl
abbrev matching_chosen_L0_I : SS := [(1, .a (.c (.int .i64))), (6, .a (.c (.nm 0 .bool))), (7, .a (.c (.int .i64))), (12, .a (.c (.imm (.int .i64)))), (13, .a (.c (.int .i64))), (14, .a (.c (.int .i64)))]
abbrev matching_chosen_L0_O : List (Ex × SS) := [(.ret, [(4, .a (.c (.nm 0 .bool))), (5, .a (.c .bool))]), (.exit 0, [(6, .a (.c (.nm 0 .bool)))])]
def matching_chosen_L0_R (m n : Nat) : matching_chosen_L0_I.Val → Option (outVal matching_chosen_L0_O) := (fun (x : Int × List Bool × Int × List Int × Int × Int × Unit) => matching_chosen_L0 m n x.1 x.2.1 x.2.2.1 x.2.2.2.1 x.2.2.2.2.1 x.2.2.2.2.2.1)
def matching_chosen_L0_T (m n : Nat) : LoopT := ⟨0, matching_chosen_L0_I, matching_chosen_L0_O, matching_chosen_L0_R m n⟩
theorem matching_chosen_L0_kr (m n : Nat) (x : matching_chosen_L0_I.Val) : roundK (mkC (outVal matching_chosen_L0_O) []) (mkLp (outVal matching_chosen_L0_O) []) tt 32 matching_chosen_H matching_chosen_B0 0 (matching_chosen_L0_I.enc x) (Kl (ins := matching_chosen_L0_I) (outs := matching_chosen_L0_O) (matching_chosen_L0_R m n)) = matching_chosen_L0 m (n + 1) x.1 x.2.1 x.2.2.1 x.2.2.2.1 x.2.2.2.2.1 x.2.2.2.2.2.1 := by kernel_rfl
theorem matching_chosen_L0_ok {E : Entry} (hE : EOf Tryd.prog E 32 matching_chosen_H.pins) (m : Nat) (n : Nat) : LoopOK Tryd.prog E matching_chosen_B0 (matching_chosen_L0_T m n) :=
  loop_ok (CO := CallOK Tryd.prog) hmix htt (fun _ _ _ _ h => h) hE (C := fun R => mkC R []) (L := []) (fun _ _ _ _ _ h => mkC_spec (AllF.mem (l := []) trivial) h) (fun _ _ => loopsIn_of matching_chosen_B0_ls trivial) (fun n => (matching_chosen_L0_R m n)) (fun _ => by kernel_rfl) (fun n x => (matching_chosen_L0_kr m n x).trans (by kernel_rfl)) n
theorem matching_chosen_kr (m : Nat) (x : ShLVal matching_chosen_A) : fnK (mkC (matching_chosen_S.Val × ShLVal matching_chosen_U) []) (mkLp (matching_chosen_S.Val × ShLVal matching_chosen_U) [matching_chosen_L0_T m m]) tt matching_chosen_H Tryd.f57 (encS matching_chosen_A x) (Kd matching_chosen_S matching_chosen_U) = matching_chosen m x.1 x.2.1 := by kernel_rfl
theorem matching_chosen_ok (m : Nat) : FunOK Tryd.prog (matching_chosen_T m) :=
  fun_ok hmix htt (matching_chosen_T m) Tryd.func57 (c := matching_chosen_C) (by kernel_rfl) (by kernel_rfl) (Lc := []) (AllF.mem (l := []) trivial) (L := [matching_chosen_L0_T m m]) (fun _ hE _ _ => loopsIn_of matching_chosen_C_ls ⟨mkLp_all ⟨fun _ => matching_chosen_L0_ok hE m m, trivial⟩, trivial⟩) (fun x => (matching_chosen_kr m x).trans (by kernel_rfl))
/-! 39 sparse/matching.covers -/
def matching_covers_H : Hints := { regs := [⟨[], [0, 1, 5]⟩, ⟨[(2, 1), (4, 1)], [0, 5, 7, 8]⟩, ⟨[(5, 1)], [0, 7, 8, 9, 10]⟩, ⟨[(0, 1), (2, 1), (3, 1)], [0, 7, 9, 35]⟩, ⟨[], [6]⟩, ⟨[(0, 1)], [7, 9, 36, 37, 38]⟩, ⟨[], [7, 9, 36, 37, 38, 39]⟩, ⟨[], [7, 9, 11, 12, 36, 37, 38]⟩, ⟨[(0, 1)], [7, 9, 11, 36, 37, 38, 43, 44, 45]⟩, ⟨[], [7, 9, 11, 36, 37, 38, 43, 44, 45, 46]⟩, ⟨[], [7, 9, 11, 14, 36, 37, 38, 43, 44, 45]⟩, ⟨[(1, 1), (5, 1)], [7, 9, 11, 36, 37, 38, 43, 44, 45, 60]⟩, ⟨[], [6]⟩, ⟨[(1, 1)], [7, 9, 11, 36, 37, 38, 43, 44, 45]⟩, ⟨[(1, 1)], [7, 9, 36, 37, 38]⟩, ⟨[], [6]⟩], heads := [(0, [7, 9, 36, 37, 38]), (2, [7, 9, 11, 36, 37, 38, 43, 44, 45])], exits := [(0, []), (1, [7, 9, 36, 37, 38]), (2, [7, 9, 36, 37, 38]), (3, [7, 9, 11, 36, 37, 38, 43, 44, 45])], rets := [6], pins := [], spec := [[false]] }
abbrev matching_covers_A : List Sh := [.a (.c (.imm (.sl false (.int .i64)))), .a (.c (.int .i64)), .a (.agg [(.imm (.int .i64)), (.imm (.int .i64))])]
abbrev matching_covers_S : Sh := .a (.c .bool)
abbrev matching_covers_U : List Sh := [.a (.c .dead), .a (.c .dead), .a (.c .dead)]
def matching_covers_R (m : Nat) : ShLVal matching_covers_A → Option (matching_covers_S.Val × ShLVal matching_covers_U) := fun (x : List (List Int) × Int × (List Int × List Int × Unit) × Unit) => matching_covers m x.1 x.2.1 x.2.2.1.1 x.2.2.1.2.1
def matching_covers_T (m : Nat) : FunT := ⟨39, matching_covers_A, matching_covers_S, matching_covers_U, matching_covers_R m⟩
noncomputable def matching_covers_C : Code := codeOf Tryd.f39
noncomputable def matching_covers_B0 : Code := loopAt matching_covers_C 0 0
noncomputable def matching_covers_B2 : Code := loopAt matching_covers_B0 0 0
theorem matching_covers_B2_ls : loopsL matching_covers_B2 2 = [] := by kernel_rfl
theorem matching_covers_B0_ls : loopsL matching_covers_B0 0 = [(2, matching_covers_B2)] := by kernel_rfl
theorem matching_covers_C_ls : loopsL matching_covers_C 0 = [(0, matching_covers_B0)] := by kernel_rfl
abbrev matching_covers_L1_I : SS := [(7, .a (.c (.nm 0 .bool))), (9, .a (.c (.nm 1 .bool))), (11, .a (.c (.int .i64))), (36, .a (.c (.imm (.sl false (.int .i64))))), (37, .a (.c (.int .i64))), (38, .a (.c (.int .i64))), (43, .a (.c (.imm (.int .i64)))), (44, .a (.c (.int .i64))), (45, .a (.c (.int .i64)))]
abbrev matching_covers_L1_O : List (Ex × SS) := [(.ret, [(6, .a (.c .bool))]), (.exit 2, [(7, .a (.c (.nm 0 .bool))), (9, .a (.c (.nm 1 .bool))), (36, .a (.c (.imm (.sl false (.int .i64))))), (37, .a (.c (.int .i64))), (38, .a (.c (.int .i64)))])]
def matching_covers_L1_R (m n : Nat) : matching_covers_L1_I.Val → Option (outVal matching_covers_L1_O) := (fun (x : List Bool × List Bool × Int × List (List Int) × Int × Int × List Int × Int × Int × Unit) => matching_covers_L1 m n x.1 x.2.1 x.2.2.1 x.2.2.2.1 x.2.2.2.2.1 x.2.2.2.2.2.1 x.2.2.2.2.2.2.1 x.2.2.2.2.2.2.2.1 x.2.2.2.2.2.2.2.2.1)
def matching_covers_L1_T (m n : Nat) : LoopT := ⟨2, matching_covers_L1_I, matching_covers_L1_O, matching_covers_L1_R m n⟩
theorem matching_covers_L1_kr (m n : Nat) (x : matching_covers_L1_I.Val) : roundK (mkC (outVal matching_covers_L1_O) [matching_chosen_T m]) (mkLp (outVal matching_covers_L1_O) []) tt 63 matching_covers_H matching_covers_B2 2 (matching_covers_L1_I.enc x) (Kl (ins := matching_covers_L1_I) (outs := matching_covers_L1_O) (matching_covers_L1_R m n)) = matching_covers_L1 m (n + 1) x.1 x.2.1 x.2.2.1 x.2.2.2.1 x.2.2.2.2.1 x.2.2.2.2.2.1 x.2.2.2.2.2.2.1 x.2.2.2.2.2.2.2.1 x.2.2.2.2.2.2.2.2.1 := by kernel_rfl
theorem matching_covers_L1_ok {E : Entry} (hE : EOf Tryd.prog E 63 matching_covers_H.pins) (m : Nat) (n : Nat) : LoopOK Tryd.prog E matching_covers_B2 (matching_covers_L1_T m n) :=
  loop_ok (CO := CallOK Tryd.prog) hmix htt (fun _ _ _ _ h => h) hE (C := fun R => mkC R [matching_chosen_T m]) (L := []) (fun _ _ _ _ _ h => mkC_spec (AllF.mem (l := [matching_chosen_T m]) ⟨matching_chosen_ok m, trivial⟩) h) (fun _ _ => loopsIn_of matching_covers_B2_ls trivial) (fun n => (matching_covers_L1_R m n)) (fun _ => by kernel_rfl) (fun n x => (matching_covers_L1_kr m n x).trans (by kernel_rfl)) n
abbrev matching_covers_L0_I : SS := [(7, .a (.c (.nm 0 .bool))), (9, .a (.c (.nm 1 .bool))), (36, .a (.c (.imm (.sl false (.int .i64))))), (37, .a (.c (.int .i64))), (38, .a (.c (.int .i64)))]
abbrev matching_covers_L0_O : List (Ex × SS) := [(.ret, [(6, .a (.c .bool))]), (.exit 0, [])]
def matching_covers_L0_R (m n : Nat) : matching_covers_L0_I.Val → Option (outVal matching_covers_L0_O) := (fun (x : List Bool × List Bool × List (List Int) × Int × Int × Unit) => matching_covers_L0 m n x.1 x.2.1 x.2.2.1 x.2.2.2.1 x.2.2.2.2.1)
def matching_covers_L0_T (m n : Nat) : LoopT := ⟨0, matching_covers_L0_I, matching_covers_L0_O, matching_covers_L0_R m n⟩
theorem matching_covers_L0_kr (m n : Nat) (x : matching_covers_L0_I.Val) : roundK (mkC (outVal matching_covers_L0_O) [matching_chosen_T m]) (mkLp (outVal matching_covers_L0_O) [matching_covers_L1_T m m]) tt 63 matching_covers_H matching_covers_B0 0 (matching_covers_L0_I.enc x) (Kl (ins := matching_covers_L0_I) (outs := matching_covers_L0_O) (matching_covers_L0_R m n)) = matching_covers_L0 m (n + 1) x.1 x.2.1 x.2.2.1 x.2.2.2.1 x.2.2.2.2.1 := by kernel_rfl
theorem matching_covers_L0_ok {E : Entry} (hE : EOf Tryd.prog E 63 matching_covers_H.pins) (m : Nat) (n : Nat) : LoopOK Tryd.prog E matching_covers_B0 (matching_covers_L0_T m n) :=
  loop_ok (CO := CallOK Tryd.prog) hmix htt (fun _ _ _ _ h => h) hE (C := fun R => mkC R [matching_chosen_T m]) (L := [matching_covers_L1_T m m]) (fun _ _ _ _ _ h => mkC_spec (AllF.mem (l := [matching_chosen_T m]) ⟨matching_chosen_ok m, trivial⟩) h) (fun _ _ => loopsIn_of matching_covers_B0_ls ⟨mkLp_all ⟨fun _ => matching_covers_L1_ok hE m m, trivial⟩, trivial⟩) (fun n => (matching_covers_L0_R m n)) (fun _ => by kernel_rfl) (fun n x => (matching_covers_L0_kr m n x).trans (by kernel_rfl)) n
theorem matching_covers_kr (m : Nat) (x : ShLVal matching_covers_A) : fnK (mkC (matching_covers_S.Val × ShLVal matching_covers_U) [matching_chosen_T m]) (mkLp (matching_covers_S.Val × ShLVal matching_covers_U) [matching_covers_L0_T m m]) tt matching_covers_H Tryd.f39 (encS matching_covers_A x) (Kd matching_covers_S matching_covers_U) = matching_covers m x.1 x.2.1 x.2.2.1.1 x.2.2.1.2.1 := by kernel_rfl
theorem matching_covers_ok (m : Nat) : FunOK Tryd.prog (matching_covers_T m) :=
  fun_ok hmix htt (matching_covers_T m) Tryd.func39 (c := matching_covers_C) (by kernel_rfl) (by kernel_rfl) (Lc := [matching_chosen_T m]) (AllF.mem (l := [matching_chosen_T m]) ⟨matching_chosen_ok m, trivial⟩) (L := [matching_covers_L0_T m m]) (fun _ hE _ _ => loopsIn_of matching_covers_C_ls ⟨mkLp_all ⟨fun _ => matching_covers_L0_ok hE m m, trivial⟩, trivial⟩) (fun x => (matching_covers_kr m x).trans (by kernel_rfl))
/-! 18 sparse/matching.Check -/
def matching_Check_H : Hints := { regs := [⟨[], [1, 3, 5]⟩, ⟨[], [1, 3, 5, 7]⟩, ⟨[], [1, 3, 5, 7, 12]⟩, ⟨[(0, 1)], [6]⟩, ⟨[], [1, 3, 5, 16]⟩, ⟨[], [6]⟩, ⟨[(4, 1), (6, 1)], [3, 5, 8, 9]⟩, ⟨[(0, 1)], [3, 5, 8, 31]⟩, ⟨[], [6]⟩, ⟨[(7, 1), (15, 1)], [34]⟩, ⟨[], [6]⟩, ⟨[], [6]⟩], heads := [], exits := [(0, [1, 3, 5]), (1, [])], rets := [6], pins := [], spec := [[false]] }
abbrev matching_Check_A : List Sh := [.a (.agg [(.int .i64), (.int .i64), (.imm (.int .i64)), (.imm (.int .i64)), (.imm (.int .u64))]), .a (.c (.imm (.int .i64))), .a (.agg [(.imm (.int .i64)), (.imm (.int .i64))])]
abbrev matching_Check_S : Sh := .a (.c (.int .i64))
abbrev matching_Check_U : List Sh := [.a (.c .dead), .a (.c .dead), .a (.c .dead)]
def matching_Check_R (m : Nat) : ShLVal matching_Check_A → Option (matching_Check_S.Val × ShLVal matching_Check_U) := fun (x : (Int × Int × List Int × List Int × List Int × Unit) × List Int × (List Int × List Int × Unit) × Unit) => matching_Check m x.1.1 x.1.2.1 x.1.2.2.1 x.1.2.2.2.1 x.1.2.2.2.2.1 x.2.1 x.2.2.1.1 x.2.2.1.2.1
def matching_Check_T (m : Nat) : FunT := ⟨18, matching_Check_A, matching_Check_S, matching_Check_U, matching_Check_R m⟩
noncomputable def matching_Check_C : Code := codeOf Tryd.f18
theorem matching_Check_C_ls : loopsL matching_Check_C 0 = [] := by kernel_rfl
theorem matching_Check_kr (m : Nat) (x : ShLVal matching_Check_A) : fnK (mkC (matching_Check_S.Val × ShLVal matching_Check_U) [matrix_Check_T m, matching_Edges_T m, matching_matching_T m, matching_covers_T m]) (mkLp (matching_Check_S.Val × ShLVal matching_Check_U) []) tt matching_Check_H Tryd.f18 (encS matching_Check_A x) (Kd matching_Check_S matching_Check_U) = matching_Check m x.1.1 x.1.2.1 x.1.2.2.1 x.1.2.2.2.1 x.1.2.2.2.2.1 x.2.1 x.2.2.1.1 x.2.2.1.2.1 := by kernel_rfl
theorem matching_Check_ok (m : Nat) : FunOK Tryd.prog (matching_Check_T m) :=
  fun_ok hmix htt (matching_Check_T m) Tryd.func18 (c := matching_Check_C) (by kernel_rfl) (by kernel_rfl) (Lc := [matrix_Check_T m, matching_Edges_T m, matching_matching_T m, matching_covers_T m]) (AllF.mem (l := [matrix_Check_T m, matching_Edges_T m, matching_matching_T m, matching_covers_T m]) ⟨matrix_Check_ok m, matching_Edges_ok m, matching_matching_ok m, matching_covers_ok m, trivial⟩) (L := []) (fun _ hE _ _ => loopsIn_of matching_Check_C_ls trivial) (fun x => (matching_Check_kr m x).trans (by kernel_rfl))
/-! 9 sparse/sparselaw13.awake -/
def sparselaw13_awake_H : Hints := { regs := [⟨[], []⟩, ⟨[], [1]⟩, ⟨[(2, 1)], [1, 2, 3]⟩, ⟨[(2, 1)], [1, 2, 3, 4, 5]⟩, ⟨[(0, 1), (2, 1), (3, 1), (6, 1), (11, 1), (21, 1)], [0]⟩], heads := [], exits := [], rets := [0], pins := [], spec := [[false]] }
abbrev sparselaw13_awake_A : List Sh := []
abbrev sparselaw13_awake_S : Sh := .a (.c .bool)
abbrev sparselaw13_awake_U : List Sh := []
def sparselaw13_awake_R (m : Nat) : ShLVal sparselaw13_awake_A → Option (sparselaw13_awake_S.Val × ShLVal sparselaw13_awake_U) := fun (x : Unit) => sparselaw13_awake m
def sparselaw13_awake_T (m : Nat) : FunT := ⟨9, sparselaw13_awake_A, sparselaw13_awake_S, sparselaw13_awake_U, sparselaw13_awake_R m⟩
noncomputable def sparselaw13_awake_C : Code := codeOf Tryd.f9
theorem sparselaw13_awake_C_ls : loopsL sparselaw13_awake_C 0 = [] := by kernel_rfl
theorem sparselaw13_awake_kr (m : Nat) (x : ShLVal sparselaw13_awake_A) : fnK (mkC (sparselaw13_awake_S.Val × ShLVal sparselaw13_awake_U) [matching_Maximum_T m, matching_Cover_T m, sparsekit_Ints_T m, matching_Check_T m]) (mkLp (sparselaw13_awake_S.Val × ShLVal sparselaw13_awake_U) []) tt sparselaw13_awake_H Tryd.f9 (encS sparselaw13_awake_A x) (Kd sparselaw13_awake_S sparselaw13_awake_U) = sparselaw13_awake m := by kernel_rfl
theorem sparselaw13_awake_ok (m : Nat) : FunOK Tryd.prog (sparselaw13_awake_T m) :=
  fun_ok hmix htt (sparselaw13_awake_T m) Tryd.func9 (c := sparselaw13_awake_C) (by kernel_rfl) (by kernel_rfl) (Lc := [matching_Maximum_T m, matching_Cover_T m, sparsekit_Ints_T m, matching_Check_T m]) (AllF.mem (l := [matching_Maximum_T m, matching_Cover_T m, sparsekit_Ints_T m, matching_Check_T m]) ⟨matching_Maximum_ok m, matching_Cover_ok m, sparsekit_Ints_ok m, matching_Check_ok m, trivial⟩) (L := []) (fun _ hE _ _ => loopsIn_of sparselaw13_awake_C_ls trivial) (fun x => (sparselaw13_awake_kr m x).trans (by kernel_rfl))
/-! 19 sparse/sparsekit.Place -/
def sparsekit_Place_H : Hints := { regs := [⟨[], [0, 1]⟩, ⟨[(0, 1), (2, 1)], [4]⟩], heads := [], exits := [], rets := [4], pins := [], spec := [[false]] }
abbrev sparsekit_Place_A : List Sh := [.a (.c (.int .i64)), .a (.c (.int .i64))]
abbrev sparsekit_Place_S : Sh := .a (.c (.int .i64))
abbrev sparsekit_Place_U : List Sh := [.a (.c .dead), .a (.c .dead)]
def sparsekit_Place_R (m : Nat) : ShLVal sparsekit_Place_A → Option (sparsekit_Place_S.Val × ShLVal sparsekit_Place_U) := fun (x : Int × Int × Unit) => sparsekit_Place m x.1 x.2.1
def sparsekit_Place_T (m : Nat) : FunT := ⟨19, sparsekit_Place_A, sparsekit_Place_S, sparsekit_Place_U, sparsekit_Place_R m⟩
noncomputable def sparsekit_Place_C : Code := codeOf Tryd.f19
theorem sparsekit_Place_C_ls : loopsL sparsekit_Place_C 0 = [] := by kernel_rfl
theorem sparsekit_Place_kr (m : Nat) (x : ShLVal sparsekit_Place_A) : fnK (mkC (sparsekit_Place_S.Val × ShLVal sparsekit_Place_U) []) (mkLp (sparsekit_Place_S.Val × ShLVal sparsekit_Place_U) []) tt sparsekit_Place_H Tryd.f19 (encS sparsekit_Place_A x) (Kd sparsekit_Place_S sparsekit_Place_U) = sparsekit_Place m x.1 x.2.1 := by kernel_rfl
theorem sparsekit_Place_ok (m : Nat) : FunOK Tryd.prog (sparsekit_Place_T m) :=
  fun_ok hmix htt (sparsekit_Place_T m) Tryd.func19 (c := sparsekit_Place_C) (by kernel_rfl) (by kernel_rfl) (Lc := []) (AllF.mem (l := []) trivial) (L := []) (fun _ hE _ _ => loopsIn_of sparsekit_Place_C_ls trivial) (fun x => (sparsekit_Place_kr m x).trans (by kernel_rfl))
/-! 91 sparse/sparseref01.trim -/
def sparseref01_trim_H : Hints := { regs := [⟨[], [0]⟩, ⟨[], [0, 3]⟩, ⟨[(2, 1)], [0, 3, 17]⟩, ⟨[(0, 1)], [0, 3]⟩, ⟨[], [0, 3, 4]⟩, ⟨[], [0, 3, 4, 5]⟩, ⟨[], [0, 3, 4, 5, 22]⟩, ⟨[(0, 1)], [0, 3, 4, 5]⟩, ⟨[(0, 1)], [0, 3, 4, 5]⟩, ⟨[(0, 1)], [2]⟩], heads := [(0, [0, 3]), (2, [0, 3, 4, 5])], exits := [(0, [0, 3]), (1, [0, 3]), (2, [4]), (3, [0, 3, 4, 5])], rets := [2], pins := [], spec := [[true]] }
abbrev sparseref01_trim_A : List Sh := [.a (.c (.imm (.int .u32)))]
abbrev sparseref01_trim_S : Sh := .a (.c (.nm 0 (.int .u32)))
abbrev sparseref01_trim_U : List Sh := [.a (.c .dead)]
def sparseref01_trim_R (m : Nat) : ShLVal sparseref01_trim_A → Option (sparseref01_trim_S.Val × ShLVal sparseref01_trim_U) := fun (x : List Int × Unit) => sparseref01_trim m x.1
def sparseref01_trim_T (m : Nat) : FunT := ⟨91, sparseref01_trim_A, sparseref01_trim_S, sparseref01_trim_U, sparseref01_trim_R m⟩
noncomputable def sparseref01_trim_C : Code := codeOf Tryd.f91
noncomputable def sparseref01_trim_B0 : Code := loopAt sparseref01_trim_C 0 0
theorem sparseref01_trim_B0_ls : loopsL sparseref01_trim_B0 0 = [] := by kernel_rfl
noncomputable def sparseref01_trim_B2 : Code := loopAt sparseref01_trim_C 0 1
theorem sparseref01_trim_B2_ls : loopsL sparseref01_trim_B2 2 = [] := by kernel_rfl
theorem sparseref01_trim_C_ls : loopsL sparseref01_trim_C 0 = [(0, sparseref01_trim_B0), (2, sparseref01_trim_B2)] := by kernel_rfl
abbrev sparseref01_trim_L1_I : SS := [(0, .a (.c (.imm (.int .u32)))), (3, .a (.c (.int .i64))), (4, .a (.c (.nm 0 (.int .u32)))), (5, .a (.c (.int .i64)))]
abbrev sparseref01_trim_L1_O : List (Ex × SS) := [(.exit 2, [(4, .a (.c (.nm 0 (.int .u32))))])]
def sparseref01_trim_L1_R (m n : Nat) : sparseref01_trim_L1_I.Val → Option (outVal sparseref01_trim_L1_O) := (fun (x : List Int × Int × List Int × Int × Unit) => sparseref01_trim_L1 m n x.1 x.2.1 x.2.2.1 x.2.2.2.1)
def sparseref01_trim_L1_T (m n : Nat) : LoopT := ⟨2, sparseref01_trim_L1_I, sparseref01_trim_L1_O, sparseref01_trim_L1_R m n⟩
theorem sparseref01_trim_L1_kr (m n : Nat) (x : sparseref01_trim_L1_I.Val) : roundK (mkC (outVal sparseref01_trim_L1_O) []) (mkLp (outVal sparseref01_trim_L1_O) []) tt 33 sparseref01_trim_H sparseref01_trim_B2 2 (sparseref01_trim_L1_I.enc x) (Kl (ins := sparseref01_trim_L1_I) (outs := sparseref01_trim_L1_O) (sparseref01_trim_L1_R m n)) = sparseref01_trim_L1 m (n + 1) x.1 x.2.1 x.2.2.1 x.2.2.2.1 := by kernel_rfl
theorem sparseref01_trim_L1_ok {E : Entry} (hE : EOf Tryd.prog E 33 sparseref01_trim_H.pins) (m : Nat) (n : Nat) : LoopOK Tryd.prog E sparseref01_trim_B2 (sparseref01_trim_L1_T m n) :=
  loop_ok (CO := CallOK Tryd.prog) hmix htt (fun _ _ _ _ h => h) hE (C := fun R => mkC R []) (L := []) (fun _ _ _ _ _ h => mkC_spec (AllF.mem (l := []) trivial) h) (fun _ _ => loopsIn_of sparseref01_trim_B2_ls trivial) (fun n => (sparseref01_trim_L1_R m n)) (fun _ => by kernel_rfl) (fun n x => (sparseref01_trim_L1_kr m n x).trans (by kernel_rfl)) n
abbrev sparseref01_trim_L0_I : SS := [(0, .a (.c (.imm (.int .u32)))), (3, .a (.c (.int .i64)))]
abbrev sparseref01_trim_L0_O : List (Ex × SS) := [(.exit 0, [(0, .a (.c (.imm (.int .u32)))), (3, .a (.c (.int .i64)))])]
def sparseref01_trim_L0_R (m n : Nat) : sparseref01_trim_L0_I.Val → Option (outVal sparseref01_trim_L0_O) := (fun (x : List Int × Int × Unit) => sparseref01_trim_L0 m n x.1 x.2.1)
def sparseref01_trim_L0_T (m n : Nat) : LoopT := ⟨0, sparseref01_trim_L0_I, sparseref01_trim_L0_O, sparseref01_trim_L0_R m n⟩
theorem sparseref01_trim_L0_kr (m n : Nat) (x : sparseref01_trim_L0_I.Val) : roundK (mkC (outVal sparseref01_trim_L0_O) []) (mkLp (outVal sparseref01_trim_L0_O) []) tt 33 sparseref01_trim_H sparseref01_trim_B0 0 (sparseref01_trim_L0_I.enc x) (Kl (ins := sparseref01_trim_L0_I) (outs := sparseref01_trim_L0_O) (sparseref01_trim_L0_R m n)) = sparseref01_trim_L0 m (n + 1) x.1 x.2.1 := by kernel_rfl
theorem sparseref01_trim_L0_ok {E : Entry} (hE : EOf Tryd.prog E 33 sparseref01_trim_H.pins) (m : Nat) (n : Nat) : LoopOK Tryd.prog E sparseref01_trim_B0 (sparseref01_trim_L0_T m n) :=
  loop_ok (CO := CallOK Tryd.prog) hmix htt (fun _ _ _ _ h => h) hE (C := fun R => mkC R []) (L := []) (fun _ _ _ _ _ h => mkC_spec (AllF.mem (l := []) trivial) h) (fun _ _ => loopsIn_of sparseref01_trim_B0_ls trivial) (fun n => (sparseref01_trim_L0_R m n)) (fun _ => by kernel_rfl) (fun n x => (sparseref01_trim_L0_kr m n x).trans (by kernel_rfl)) n
theorem sparseref01_trim_kr (m : Nat) (x : ShLVal sparseref01_trim_A) : fnK (mkC (sparseref01_trim_S.Val × ShLVal sparseref01_trim_U) []) (mkLp (sparseref01_trim_S.Val × ShLVal sparseref01_trim_U) [sparseref01_trim_L0_T m m, sparseref01_trim_L1_T m m]) tt sparseref01_trim_H Tryd.f91 (encS sparseref01_trim_A x) (Kd sparseref01_trim_S sparseref01_trim_U) = sparseref01_trim m x.1 := by kernel_rfl
theorem sparseref01_trim_ok (m : Nat) : FunOK Tryd.prog (sparseref01_trim_T m) :=
  fun_ok hmix htt (sparseref01_trim_T m) Tryd.func91 (c := sparseref01_trim_C) (by kernel_rfl) (by kernel_rfl) (Lc := []) (AllF.mem (l := []) trivial) (L := [sparseref01_trim_L0_T m m, sparseref01_trim_L1_T m m]) (fun _ hE _ _ => loopsIn_of sparseref01_trim_C_ls ⟨mkLp_all ⟨fun _ => sparseref01_trim_L0_ok hE m m, fun h => absurd (show (2 : Nat) = 0 from h) (by decide), trivial⟩, mkLp_all ⟨fun h => absurd (show (0 : Nat) = 2 from h) (by decide), fun _ => sparseref01_trim_L1_ok hE m m, trivial⟩, trivial⟩) (fun x => (sparseref01_trim_kr m x).trans (by kernel_rfl))
/-! 86 sparse/sparseref01.make1 -/
def sparseref01_make1_H : Hints := { regs := [⟨[], [0, 1, 4]⟩, ⟨[(0, 1)], [0, 1, 4]⟩, ⟨[(0, 1), (1, 1), (6, 1)], [4]⟩], heads := [], exits := [], rets := [4], pins := [], spec := [[false, true]] }
abbrev sparseref01_make1_A : List Sh := [.a (.c .bool), .a (.c (.imm (.int .u32)))]
abbrev sparseref01_make1_S : Sh := .a (.agg [.bool, (.nm 0 (.int .u32))])
abbrev sparseref01_make1_U : List Sh := [.a (.c .dead), .a (.c .dead)]
def sparseref01_make1_R (m : Nat) : ShLVal sparseref01_make1_A → Option (sparseref01_make1_S.Val × ShLVal sparseref01_make1_U) := fun (x : Bool × List Int × Unit) => sparseref01_make1 m x.1 x.2.1
def sparseref01_make1_T (m : Nat) : FunT := ⟨86, sparseref01_make1_A, sparseref01_make1_S, sparseref01_make1_U, sparseref01_make1_R m⟩
noncomputable def sparseref01_make1_C : Code := codeOf Tryd.f86
theorem sparseref01_make1_C_ls : loopsL sparseref01_make1_C 0 = [] := by kernel_rfl
theorem sparseref01_make1_kr (m : Nat) (x : ShLVal sparseref01_make1_A) : fnK (mkC (sparseref01_make1_S.Val × ShLVal sparseref01_make1_U) [sparseref01_trim_T m]) (mkLp (sparseref01_make1_S.Val × ShLVal sparseref01_make1_U) []) tt sparseref01_make1_H Tryd.f86 (encS sparseref01_make1_A x) (Kd sparseref01_make1_S sparseref01_make1_U) = sparseref01_make1 m x.1 x.2.1 := by kernel_rfl
theorem sparseref01_make1_ok (m : Nat) : FunOK Tryd.prog (sparseref01_make1_T m) :=
  fun_ok hmix htt (sparseref01_make1_T m) Tryd.func86 (c := sparseref01_make1_C) (by kernel_rfl) (by kernel_rfl) (Lc := [sparseref01_trim_T m]) (AllF.mem (l := [sparseref01_trim_T m]) ⟨sparseref01_trim_ok m, trivial⟩) (L := []) (fun _ hE _ _ => loopsIn_of sparseref01_make1_C_ls trivial) (fun x => (sparseref01_make1_kr m x).trans (by kernel_rfl))
/-! 72 sparse/sparseref01.FromInt -/
def sparseref01_FromInt_H : Hints := { regs := [⟨[], [0, 2]⟩, ⟨[], [0, 2, 3]⟩, ⟨[], [0, 2, 3, 7]⟩, ⟨[], [0, 2, 3]⟩, ⟨[(0, 1)], [2]⟩], heads := [], exits := [], rets := [2], pins := [], spec := [[false, true]] }
abbrev sparseref01_FromInt_A : List Sh := [.a (.c (.int .i64))]
abbrev sparseref01_FromInt_S : Sh := .a (.agg [.bool, (.nm 0 (.int .u32))])
abbrev sparseref01_FromInt_U : List Sh := [.a (.c .dead)]
def sparseref01_FromInt_R (m : Nat) : ShLVal sparseref01_FromInt_A → Option (sparseref01_FromInt_S.Val × ShLVal sparseref01_FromInt_U) := fun (x : Int × Unit) => sparseref01_FromInt m x.1
def sparseref01_FromInt_T (m : Nat) : FunT := ⟨72, sparseref01_FromInt_A, sparseref01_FromInt_S, sparseref01_FromInt_U, sparseref01_FromInt_R m⟩
noncomputable def sparseref01_FromInt_C : Code := codeOf Tryd.f72
theorem sparseref01_FromInt_C_ls : loopsL sparseref01_FromInt_C 0 = [] := by kernel_rfl
theorem sparseref01_FromInt_kr (m : Nat) (x : ShLVal sparseref01_FromInt_A) : fnK (mkC (sparseref01_FromInt_S.Val × ShLVal sparseref01_FromInt_U) [sparseref01_make1_T m]) (mkLp (sparseref01_FromInt_S.Val × ShLVal sparseref01_FromInt_U) []) tt sparseref01_FromInt_H Tryd.f72 (encS sparseref01_FromInt_A x) (Kd sparseref01_FromInt_S sparseref01_FromInt_U) = sparseref01_FromInt m x.1 := by kernel_rfl
theorem sparseref01_FromInt_ok (m : Nat) : FunOK Tryd.prog (sparseref01_FromInt_T m) :=
  fun_ok hmix htt (sparseref01_FromInt_T m) Tryd.func72 (c := sparseref01_FromInt_C) (by kernel_rfl) (by kernel_rfl) (Lc := [sparseref01_make1_T m]) (AllF.mem (l := [sparseref01_make1_T m]) ⟨sparseref01_make1_ok m, trivial⟩) (L := []) (fun _ hE _ _ => loopsIn_of sparseref01_FromInt_C_ls trivial) (fun x => (sparseref01_FromInt_kr m x).trans (by kernel_rfl))
/-! 79 sparse/sparseref01.Norm -/
def sparseref01_Norm_H : Hints := { regs := [⟨[], [1, 2]⟩, ⟨[], [2]⟩], heads := [], exits := [], rets := [2], pins := [], spec := [[false, true]] }
abbrev sparseref01_Norm_A : List Sh := [.a (.agg [.bool, (.imm (.int .u32))])]
abbrev sparseref01_Norm_S : Sh := .a (.agg [.bool, (.nm 0 (.int .u32))])
abbrev sparseref01_Norm_U : List Sh := [.a (.c .dead)]
def sparseref01_Norm_R (m : Nat) : ShLVal sparseref01_Norm_A → Option (sparseref01_Norm_S.Val × ShLVal sparseref01_Norm_U) := fun (x : (Bool × List Int × Unit) × Unit) => sparseref01_Norm m x.1.1 x.1.2.1
def sparseref01_Norm_T (m : Nat) : FunT := ⟨79, sparseref01_Norm_A, sparseref01_Norm_S, sparseref01_Norm_U, sparseref01_Norm_R m⟩
noncomputable def sparseref01_Norm_C : Code := codeOf Tryd.f79
theorem sparseref01_Norm_C_ls : loopsL sparseref01_Norm_C 0 = [] := by kernel_rfl
theorem sparseref01_Norm_kr (m : Nat) (x : ShLVal sparseref01_Norm_A) : fnK (mkC (sparseref01_Norm_S.Val × ShLVal sparseref01_Norm_U) [sparseref01_make1_T m]) (mkLp (sparseref01_Norm_S.Val × ShLVal sparseref01_Norm_U) []) tt sparseref01_Norm_H Tryd.f79 (encS sparseref01_Norm_A x) (Kd sparseref01_Norm_S sparseref01_Norm_U) = sparseref01_Norm m x.1.1 x.1.2.1 := by kernel_rfl
theorem sparseref01_Norm_ok (m : Nat) : FunOK Tryd.prog (sparseref01_Norm_T m) :=
  fun_ok hmix htt (sparseref01_Norm_T m) Tryd.func79 (c := sparseref01_Norm_C) (by kernel_rfl) (by kernel_rfl) (Lc := [sparseref01_make1_T m]) (AllF.mem (l := [sparseref01_make1_T m]) ⟨sparseref01_make1_ok m, trivial⟩) (L := []) (fun _ hE _ _ => loopsIn_of sparseref01_Norm_C_ls trivial) (fun x => (sparseref01_Norm_kr m x).trans (by kernel_rfl))
/-! 70 sparse/sparseref02.Bad -/
def sparseref02_Bad_H : Hints := { regs := [⟨[], [0]⟩, ⟨[], [0]⟩], heads := [], exits := [], rets := [0], pins := [], spec := [[false, false, true, false]] }
abbrev sparseref02_Bad_A : List Sh := []
abbrev sparseref02_Bad_S : Sh := .a (.agg [.bool, .bool, (.nm 0 (.int .u32)), (.int .i64)])
abbrev sparseref02_Bad_U : List Sh := []
def sparseref02_Bad_R (m : Nat) : ShLVal sparseref02_Bad_A → Option (sparseref02_Bad_S.Val × ShLVal sparseref02_Bad_U) := fun (x : Unit) => sparseref02_Bad m
def sparseref02_Bad_T (m : Nat) : FunT := ⟨70, sparseref02_Bad_A, sparseref02_Bad_S, sparseref02_Bad_U, sparseref02_Bad_R m⟩
noncomputable def sparseref02_Bad_C : Code := codeOf Tryd.f70
theorem sparseref02_Bad_C_ls : loopsL sparseref02_Bad_C 0 = [] := by kernel_rfl
theorem sparseref02_Bad_kr (m : Nat) (x : ShLVal sparseref02_Bad_A) : fnK (mkC (sparseref02_Bad_S.Val × ShLVal sparseref02_Bad_U) []) (mkLp (sparseref02_Bad_S.Val × ShLVal sparseref02_Bad_U) []) tt sparseref02_Bad_H Tryd.f70 (encS sparseref02_Bad_A x) (Kd sparseref02_Bad_S sparseref02_Bad_U) = sparseref02_Bad m := by kernel_rfl
theorem sparseref02_Bad_ok (m : Nat) : FunOK Tryd.prog (sparseref02_Bad_T m) :=
  fun_ok hmix htt (sparseref02_Bad_T m) Tryd.func70 (c := sparseref02_Bad_C) (by kernel_rfl) (by kernel_rfl) (Lc := []) (AllF.mem (l := []) trivial) (L := []) (fun _ hE _ _ => loopsIn_of sparseref02_Bad_C_ls trivial) (fun x => (sparseref02_Bad_kr m x).trans (by kernel_rfl))
/-! 99 math/bits.TrailingZeros32 -/
def math_bits_TrailingZeros32_H : Hints := { regs := [⟨[], [0]⟩, ⟨[], [0, 4]⟩, ⟨[], [2]⟩, ⟨[], [2]⟩], heads := [], exits := [], rets := [2], pins := [], spec := [[false]] }
abbrev math_bits_TrailingZeros32_A : List Sh := [.a (.c (.int .u32))]
abbrev math_bits_TrailingZeros32_S : Sh := .a (.c (.int .i64))
abbrev math_bits_TrailingZeros32_U : List Sh := [.a (.c .dead)]
def math_bits_TrailingZeros32_R (m : Nat) : ShLVal math_bits_TrailingZeros32_A → Option (math_bits_TrailingZeros32_S.Val × ShLVal math_bits_TrailingZeros32_U) := fun (x : Int × Unit) => math_bits_TrailingZeros32 m x.1
def math_bits_TrailingZeros32_T (m : Nat) : FunT := ⟨99, math_bits_TrailingZeros32_A, math_bits_TrailingZeros32_S, math_bits_TrailingZeros32_U, math_bits_TrailingZeros32_R m⟩
noncomputable def math_bits_TrailingZeros32_C : Code := codeOf Tryd.f99
theorem math_bits_TrailingZeros32_C_ls : loopsL math_bits_TrailingZeros32_C 0 = [] := by kernel_rfl
theorem math_bits_TrailingZeros32_kr (m : Nat) (x : ShLVal math_bits_TrailingZeros32_A) : fnK (mkC (math_bits_TrailingZeros32_S.Val × ShLVal math_bits_TrailingZeros32_U) []) (mkLp (math_bits_TrailingZeros32_S.Val × ShLVal math_bits_TrailingZeros32_U) []) tt math_bits_TrailingZeros32_H Tryd.f99 (encS math_bits_TrailingZeros32_A x) (Kd math_bits_TrailingZeros32_S math_bits_TrailingZeros32_U) = math_bits_TrailingZeros32 m x.1 := by kernel_rfl
theorem math_bits_TrailingZeros32_ok (m : Nat) : FunOK Tryd.prog (math_bits_TrailingZeros32_T m) :=
  fun_ok hmix htt (math_bits_TrailingZeros32_T m) Tryd.func99 (c := math_bits_TrailingZeros32_C) (by kernel_rfl) (by kernel_rfl) (Lc := []) (AllF.mem (l := []) trivial) (L := []) (fun _ hE _ _ => loopsIn_of math_bits_TrailingZeros32_C_ls trivial) (fun x => (math_bits_TrailingZeros32_kr m x).trans (by kernel_rfl))
/-! 87 sparse/sparseref01.TrailingZeros -/
def sparseref01_TrailingZeros_H : Hints := { regs := [⟨[], [1]⟩, ⟨[], [3]⟩, ⟨[], [3, 4]⟩, ⟨[], [3, 4, 11]⟩, ⟨[(0, 1)], [3, 4]⟩, ⟨[], [3, 4, 18]⟩, ⟨[(2, 1)], [2]⟩, ⟨[], [2]⟩], heads := [(0, [3, 4])], exits := [(0, []), (1, [3, 4])], rets := [2], pins := [], spec := [[false]] }
abbrev sparseref01_TrailingZeros_A : List Sh := [.a (.agg [.bool, (.imm (.int .u32))])]
abbrev sparseref01_TrailingZeros_S : Sh := .a (.c (.int .i64))
abbrev sparseref01_TrailingZeros_U : List Sh := [.a (.c .dead)]
def sparseref01_TrailingZeros_R (m : Nat) : ShLVal sparseref01_TrailingZeros_A → Option (sparseref01_TrailingZeros_S.Val × ShLVal sparseref01_TrailingZeros_U) := fun (x : (Bool × List Int × Unit) × Unit) => sparseref01_TrailingZeros m x.1.1 x.1.2.1
def sparseref01_TrailingZeros_T (m : Nat) : FunT := ⟨87, sparseref01_TrailingZeros_A, sparseref01_TrailingZeros_S, sparseref01_TrailingZeros_U, sparseref01_TrailingZeros_R m⟩
noncomputable def sparseref01_TrailingZeros_C : Code := codeOf Tryd.f87
noncomputable def sparseref01_TrailingZeros_B0 : Code := loopAt sparseref01_TrailingZeros_C 0 0
theorem sparseref01_TrailingZeros_B0_ls : loopsL sparseref01_TrailingZeros_B0 0 = [] := by kernel_rfl
theorem sparseref01_TrailingZeros_C_ls : loopsL sparseref01_TrailingZeros_C 0 = [(0, sparseref01_TrailingZeros_B0)] := by kernel_rfl
abbrev sparseref01_TrailingZeros_L0_I : SS := [(3, .a (.c (.nm 0 (.int .u32)))), (4, .a (.c (.int .i64)))]
abbrev sparseref01_TrailingZeros_L0_O : List (Ex × SS) := [(.ret, [(2, .a (.c (.int .i64)))]), (.exit 0, [])]
def sparseref01_TrailingZeros_L0_R (m n : Nat) : sparseref01_TrailingZeros_L0_I.Val → Option (outVal sparseref01_TrailingZeros_L0_O) := (fun (x : List Int × Int × Unit) => sparseref01_TrailingZeros_L0 m n x.1 x.2.1)
def sparseref01_TrailingZeros_L0_T (m n : Nat) : LoopT := ⟨0, sparseref01_TrailingZeros_L0_I, sparseref01_TrailingZeros_L0_O, sparseref01_TrailingZeros_L0_R m n⟩
theorem sparseref01_TrailingZeros_L0_kr (m n : Nat) (x : sparseref01_TrailingZeros_L0_I.Val) : roundK (mkC (outVal sparseref01_TrailingZeros_L0_O) [sparseref01_trim_T m, math_bits_TrailingZeros32_T m]) (mkLp (outVal sparseref01_TrailingZeros_L0_O) []) tt 27 sparseref01_TrailingZeros_H sparseref01_TrailingZeros_B0 0 (sparseref01_TrailingZeros_L0_I.enc x) (Kl (ins := sparseref01_TrailingZeros_L0_I) (outs := sparseref01_TrailingZeros_L0_O) (sparseref01_TrailingZeros_L0_R m n)) = sparseref01_TrailingZeros_L0 m (n + 1) x.1 x.2.1 := by kernel_rfl
theorem sparseref01_TrailingZeros_L0_ok {E : Entry} (hE : EOf Tryd.prog E 27 sparseref01_TrailingZeros_H.pins) (m : Nat) (n : Nat) : LoopOK Tryd.prog E sparseref01_TrailingZeros_B0 (sparseref01_TrailingZeros_L0_T m n) :=
  loop_ok (CO := CallOK Tryd.prog) hmix htt (fun _ _ _ _ h => h) hE (C := fun R => mkC R [sparseref01_trim_T m, math_bits_TrailingZeros32_T m]) (L := []) (fun _ _ _ _ _ h => mkC_spec (AllF.mem (l := [sparseref01_trim_T m, math_bits_TrailingZeros32_T m]) ⟨sparseref01_trim_ok m, math_bits_TrailingZeros32_ok m, trivial⟩) h) (fun _ _ => loopsIn_of sparseref01_TrailingZeros_B0_ls trivial) (fun n => (sparseref01_TrailingZeros_L0_R m n)) (fun _ => by kernel_rfl) (fun n x => (sparseref01_TrailingZeros_L0_kr m n x).trans (by kernel_rfl)) n
theorem sparseref01_TrailingZeros_kr (m : Nat) (x : ShLVal sparseref01_TrailingZeros_A) : fnK (mkC (sparseref01_TrailingZeros_S.Val × ShLVal sparseref01_TrailingZeros_U) [sparseref01_trim_T m, math_bits_TrailingZeros32_T m]) (mkLp (sparseref01_TrailingZeros_S.Val × ShLVal sparseref01_TrailingZeros_U) [sparseref01_TrailingZeros_L0_T m m]) tt sparseref01_TrailingZeros_H Tryd.f87 (encS sparseref01_TrailingZeros_A x) (Kd sparseref01_TrailingZeros_S sparseref01_TrailingZeros_U) = sparseref01_TrailingZeros m x.1.1 x.1.2.1 := by kernel_rfl
theorem sparseref01_TrailingZeros_ok (m : Nat) : FunOK Tryd.prog (sparseref01_TrailingZeros_T m) :=
  fun_ok hmix htt (sparseref01_TrailingZeros_T m) Tryd.func87 (c := sparseref01_TrailingZeros_C) (by kernel_rfl) (by kernel_rfl) (Lc := [sparseref01_trim_T m, math_bits_TrailingZeros32_T m]) (AllF.mem (l := [sparseref01_trim_T m, math_bits_TrailingZeros32_T m]) ⟨sparseref01_trim_ok m, math_bits_TrailingZeros32_ok m, trivial⟩) (L := [sparseref01_TrailingZeros_L0_T m m]) (fun _ hE _ _ => loopsIn_of sparseref01_TrailingZeros_C_ls ⟨mkLp_all ⟨fun _ => sparseref01_TrailingZeros_L0_ok hE m m, trivial⟩, trivial⟩) (fun x => (sparseref01_TrailingZeros_kr m x).trans (by kernel_rfl))
/-! 69 sparse/sparseref01.Abs -/
def sparseref01_Abs_H : Hints := { regs := [⟨[], [1, 2]⟩, ⟨[], [2]⟩], heads := [], exits := [], rets := [2], pins := [], spec := [[false, true]] }
abbrev sparseref01_Abs_A : List Sh := [.a (.agg [.bool, (.imm (.int .u32))])]
abbrev sparseref01_Abs_S : Sh := .a (.agg [.bool, (.nm 0 (.int .u32))])
abbrev sparseref01_Abs_U : List Sh := [.a (.c .dead)]
def sparseref01_Abs_R (m : Nat) : ShLVal sparseref01_Abs_A → Option (sparseref01_Abs_S.Val × ShLVal sparseref01_Abs_U) := fun (x : (Bool × List Int × Unit) × Unit) => sparseref01_Abs m x.1.1 x.1.2.1
def sparseref01_Abs_T (m : Nat) : FunT := ⟨69, sparseref01_Abs_A, sparseref01_Abs_S, sparseref01_Abs_U, sparseref01_Abs_R m⟩
noncomputable def sparseref01_Abs_C : Code := codeOf Tryd.f69
theorem sparseref01_Abs_C_ls : loopsL sparseref01_Abs_C 0 = [] := by kernel_rfl
theorem sparseref01_Abs_kr (m : Nat) (x : ShLVal sparseref01_Abs_A) : fnK (mkC (sparseref01_Abs_S.Val × ShLVal sparseref01_Abs_U) [sparseref01_make1_T m]) (mkLp (sparseref01_Abs_S.Val × ShLVal sparseref01_Abs_U) []) tt sparseref01_Abs_H Tryd.f69 (encS sparseref01_Abs_A x) (Kd sparseref01_Abs_S sparseref01_Abs_U) = sparseref01_Abs m x.1.1 x.1.2.1 := by kernel_rfl
theorem sparseref01_Abs_ok (m : Nat) : FunOK Tryd.prog (sparseref01_Abs_T m) :=
  fun_ok hmix htt (sparseref01_Abs_T m) Tryd.func69 (c := sparseref01_Abs_C) (by kernel_rfl) (by kernel_rfl) (Lc := [sparseref01_make1_T m]) (AllF.mem (l := [sparseref01_make1_T m]) ⟨sparseref01_make1_ok m, trivial⟩) (L := []) (fun _ hE _ _ => loopsIn_of sparseref01_Abs_C_ls trivial) (fun x => (sparseref01_Abs_kr m x).trans (by kernel_rfl))
/-! 96 sparse/sparseref01.shl -/
def sparseref01_shl_H : Hints := { regs := [⟨[], [0, 1]⟩, ⟨[], [0, 1, 5]⟩, ⟨[], [0, 1, 5, 6]⟩, ⟨[], [0, 1, 5, 6, 7]⟩, ⟨[], [0, 1, 5, 6, 7, 14]⟩, ⟨[(0, 1)], [0, 1, 5, 6, 7]⟩, ⟨[(0, 1)], [0, 1, 5, 6, 7]⟩, ⟨[(0, 1)], [0, 1, 5, 6, 7]⟩, ⟨[(0, 1)], [0, 1, 5, 6, 7]⟩, ⟨[(0, 1), (1, 1)], [4]⟩], heads := [(0, [0, 1, 5, 6, 7])], exits := [(0, [5, 6]), (1, [0, 1, 5, 6, 7])], rets := [4], pins := [], spec := [[true]] }
abbrev sparseref01_shl_A : List Sh := [.a (.c (.imm (.int .u32))), .a (.c (.int .i64))]
abbrev sparseref01_shl_S : Sh := .a (.c (.nm 0 (.int .u32)))
abbrev sparseref01_shl_U : List Sh := [.a (.c .dead), .a (.c .dead)]
def sparseref01_shl_R (m : Nat) : ShLVal sparseref01_shl_A → Option (sparseref01_shl_S.Val × ShLVal sparseref01_shl_U) := fun (x : List Int × Int × Unit) => sparseref01_shl m x.1 x.2.1
def sparseref01_shl_T (m : Nat) : FunT := ⟨96, sparseref01_shl_A, sparseref01_shl_S, sparseref01_shl_U, sparseref01_shl_R m⟩
noncomputable def sparseref01_shl_C : Code := codeOf Tryd.f96
noncomputable def sparseref01_shl_B0 : Code := loopAt sparseref01_shl_C 0 0
theorem sparseref01_shl_B0_ls : loopsL sparseref01_shl_B0 0 = [] := by kernel_rfl
theorem sparseref01_shl_C_ls : loopsL sparseref01_shl_C 0 = [(0, sparseref01_shl_B0)] := by kernel_rfl
abbrev sparseref01_shl_L0_I : SS := [(0, .a (.c (.imm (.int .u32)))), (1, .a (.c (.int .i64))), (5, .a (.c (.nm 0 (.int .u32)))), (6, .a (.c (.int .u64))), (7, .a (.c (.int .i64)))]
abbrev sparseref01_shl_L0_O : List (Ex × SS) := [(.exit 0, [(5, .a (.c (.nm 0 (.int .u32)))), (6, .a (.c (.int .u64)))])]
def sparseref01_shl_L0_R (m n : Nat) : sparseref01_shl_L0_I.Val → Option (outVal sparseref01_shl_L0_O) := (fun (x : List Int × Int × List Int × Int × Int × Unit) => sparseref01_shl_L0 m n x.1 x.2.1 x.2.2.1 x.2.2.2.1 x.2.2.2.2.1)
def sparseref01_shl_L0_T (m n : Nat) : LoopT := ⟨0, sparseref01_shl_L0_I, sparseref01_shl_L0_O, sparseref01_shl_L0_R m n⟩
theorem sparseref01_shl_L0_kr (m n : Nat) (x : sparseref01_shl_L0_I.Val) : roundK (mkC (outVal sparseref01_shl_L0_O) []) (mkLp (outVal sparseref01_shl_L0_O) []) tt 39 sparseref01_shl_H sparseref01_shl_B0 0 (sparseref01_shl_L0_I.enc x) (Kl (ins := sparseref01_shl_L0_I) (outs := sparseref01_shl_L0_O) (sparseref01_shl_L0_R m n)) = sparseref01_shl_L0 m (n + 1) x.1 x.2.1 x.2.2.1 x.2.2.2.1 x.2.2.2.2.1 := by kernel_rfl
theorem sparseref01_shl_L0_ok {E : Entry} (hE : EOf Tryd.prog E 39 sparseref01_shl_H.pins) (m : Nat) (n : Nat) : LoopOK Tryd.prog E sparseref01_shl_B0 (sparseref01_shl_L0_T m n) :=
  loop_ok (CO := CallOK Tryd.prog) hmix htt (fun _ _ _ _ h => h) hE (C := fun R => mkC R []) (L := []) (fun _ _ _ _ _ h => mkC_spec (AllF.mem (l := []) trivial) h) (fun _ _ => loopsIn_of sparseref01_shl_B0_ls trivial) (fun n => (sparseref01_shl_L0_R m n)) (fun _ => by kernel_rfl) (fun n x => (sparseref01_shl_L0_kr m n x).trans (by kernel_rfl)) n
theorem sparseref01_shl_kr (m : Nat) (x : ShLVal sparseref01_shl_A) : fnK (mkC (sparseref01_shl_S.Val × ShLVal sparseref01_shl_U) []) (mkLp (sparseref01_shl_S.Val × ShLVal sparseref01_shl_U) [sparseref01_shl_L0_T m m]) tt sparseref01_shl_H Tryd.f96 (encS sparseref01_shl_A x) (Kd sparseref01_shl_S sparseref01_shl_U) = sparseref01_shl m x.1 x.2.1 := by kernel_rfl
theorem sparseref01_shl_ok (m : Nat) : FunOK Tryd.prog (sparseref01_shl_T m) :=
  fun_ok hmix htt (sparseref01_shl_T m) Tryd.func96 (c := sparseref01_shl_C) (by kernel_rfl) (by kernel_rfl) (Lc := []) (AllF.mem (l := []) trivial) (L := [sparseref01_shl_L0_T m m]) (fun _ hE _ _ => loopsIn_of sparseref01_shl_C_ls ⟨mkLp_all ⟨fun _ => sparseref01_shl_L0_ok hE m m, trivial⟩, trivial⟩) (fun x => (sparseref01_shl_kr m x).trans (by kernel_rfl))
/-! 97 sparse/sparseref01.shr -/
def sparseref01_shr_H : Hints := { regs := [⟨[], [0, 1]⟩, ⟨[], [0, 1, 6]⟩, ⟨[], [0, 1, 6, 7]⟩, ⟨[(4, 1)], [0, 1, 6, 7, 21]⟩, ⟨[(0, 1)], [0, 1, 6, 7]⟩, ⟨[(0, 1), (1, 1)], [0, 1, 6, 7]⟩, ⟨[], [0, 1, 6, 8]⟩, ⟨[], [0, 1, 6, 8, 9]⟩, ⟨[], [0, 1, 6, 8, 9, 10]⟩, ⟨[], [0, 1, 6, 8, 9, 10, 39]⟩, ⟨[(0, 1)], [0, 1, 6, 8, 9, 10]⟩, ⟨[], [0, 1, 6, 8, 9, 10, 11]⟩, ⟨[], [0, 1, 6, 8, 9, 10, 11, 51]⟩, ⟨[(0, 1)], [0, 1, 6, 8, 9, 10, 11]⟩, ⟨[(4, 1)], [0, 1, 6, 8, 9, 10, 11, 75]⟩, ⟨[], [0, 1, 6, 8, 9, 10, 11]⟩, ⟨[(0, 1), (1, 1)], [0, 1, 6, 8, 9, 10]⟩, ⟨[(0, 1), (1, 1)], [4, 5]⟩], heads := [(0, [0, 1, 6, 7]), (2, [0, 1, 6, 8, 9, 10])], exits := [(0, [0, 1, 6]), (1, [0, 1, 6, 7]), (2, [6, 8]), (3, [0, 1, 6, 8, 9, 10])], rets := [4, 5], pins := [], spec := [[true], [false]] }
abbrev sparseref01_shr_A : List Sh := [.a (.c (.imm (.int .u32))), .a (.c (.int .i64))]
abbrev sparseref01_shr_S : Sh := .tup [(.c (.nm 0 (.int .u32))), (.c .bool)]
abbrev sparseref01_shr_U : List Sh := [.a (.c .dead), .a (.c .dead)]
def sparseref01_shr_R (m : Nat) : ShLVal sparseref01_shr_A → Option (sparseref01_shr_S.Val × ShLVal sparseref01_shr_U) := fun (x : List Int × Int × Unit) => sparseref01_shr m x.1 x.2.1
def sparseref01_shr_T (m : Nat) : FunT := ⟨97, sparseref01_shr_A, sparseref01_shr_S, sparseref01_shr_U, sparseref01_shr_R m⟩
noncomputable def sparseref01_shr_C : Code := codeOf Tryd.f97
noncomputable def sparseref01_shr_B0 : Code := loopAt sparseref01_shr_C 0 0
theorem sparseref01_shr_B0_ls : loopsL sparseref01_shr_B0 0 = [] := by kernel_rfl
noncomputable def sparseref01_shr_B2 : Code := loopAt sparseref01_shr_C 0 1
theorem sparseref01_shr_B2_ls : loopsL sparseref01_shr_B2 2 = [] := by kernel_rfl
theorem sparseref01_shr_C_ls : loopsL sparseref01_shr_C 0 = [(0, sparseref01_shr_B0), (2, sparseref01_shr_B2)] := by kernel_rfl
abbrev sparseref01_shr_L1_I : SS := [(0, .a (.c (.imm (.int .u32)))), (1, .a (.c (.int .i64))), (6, .a (.c .bool)), (8, .a (.c (.nm 0 (.int .u32)))), (9, .a (.c (.int .i64))), (10, .a (.c (.int .i64)))]
abbrev sparseref01_shr_L1_O : List (Ex × SS) := [(.exit 2, [(6, .a (.c .bool)), (8, .a (.c (.nm 0 (.int .u32))))])]
def sparseref01_shr_L1_R (m n : Nat) : sparseref01_shr_L1_I.Val → Option (outVal sparseref01_shr_L1_O) := (fun (x : List Int × Int × Bool × List Int × Int × Int × Unit) => sparseref01_shr_L1 m n x.1 x.2.1 x.2.2.1 x.2.2.2.1 x.2.2.2.2.1 x.2.2.2.2.2.1)
def sparseref01_shr_L1_T (m n : Nat) : LoopT := ⟨2, sparseref01_shr_L1_I, sparseref01_shr_L1_O, sparseref01_shr_L1_R m n⟩
theorem sparseref01_shr_L1_kr (m n : Nat) (x : sparseref01_shr_L1_I.Val) : roundK (mkC (outVal sparseref01_shr_L1_O) []) (mkLp (outVal sparseref01_shr_L1_O) []) tt 85 sparseref01_shr_H sparseref01_shr_B2 2 (sparseref01_shr_L1_I.enc x) (Kl (ins := sparseref01_shr_L1_I) (outs := sparseref01_shr_L1_O) (sparseref01_shr_L1_R m n)) = sparseref01_shr_L1 m (n + 1) x.1 x.2.1 x.2.2.1 x.2.2.2.1 x.2.2.2.2.1 x.2.2.2.2.2.1 := by kernel_rfl
theorem sparseref01_shr_L1_ok {E : Entry} (hE : EOf Tryd.prog E 85 sparseref01_shr_H.pins) (m : Nat) (n : Nat) : LoopOK Tryd.prog E sparseref01_shr_B2 (sparseref01_shr_L1_T m n) :=
  loop_ok (CO := CallOK Tryd.prog) hmix htt (fun _ _ _ _ h => h) hE (C := fun R => mkC R []) (L := []) (fun _ _ _ _ _ h => mkC_spec (AllF.mem (l := []) trivial) h) (fun _ _ => loopsIn_of sparseref01_shr_B2_ls trivial) (fun n => (sparseref01_shr_L1_R m n)) (fun _ => by kernel_rfl) (fun n x => (sparseref01_shr_L1_kr m n x).trans (by kernel_rfl)) n
abbrev sparseref01_shr_L0_I : SS := [(0, .a (.c (.imm (.int .u32)))), (1, .a (.c (.int .i64))), (6, .a (.c .bool)), (7, .a (.c (.int .i64)))]
abbrev sparseref01_shr_L0_O : List (Ex × SS) := [(.exit 0, [(0, .a (.c (.imm (.int .u32)))), (1, .a (.c (.int .i64))), (6, .a (.c .bool))])]
def sparseref01_shr_L0_R (m n : Nat) : sparseref01_shr_L0_I.Val → Option (outVal sparseref01_shr_L0_O) := (fun (x : List Int × Int × Bool × Int × Unit) => sparseref01_shr_L0 m n x.1 x.2.1 x.2.2.1 x.2.2.2.1)
def sparseref01_shr_L0_T (m n : Nat) : LoopT := ⟨0, sparseref01_shr_L0_I, sparseref01_shr_L0_O, sparseref01_shr_L0_R m n⟩
theorem sparseref01_shr_L0_kr (m n : Nat) (x : sparseref01_shr_L0_I.Val) : roundK (mkC (outVal sparseref01_shr_L0_O) []) (mkLp (outVal sparseref01_shr_L0_O) []) tt 85 sparseref01_shr_H sparseref01_shr_B0 0 (sparseref01_shr_L0_I.enc x) (Kl (ins := sparseref01_shr_L0_I) (outs := sparseref01_shr_L0_O) (sparseref01_shr_L0_R m n)) = sparseref01_shr_L0 m (n + 1) x.1 x.2.1 x.2.2.1 x.2.2.2.1 := by kernel_rfl
theorem sparseref01_shr_L0_ok {E : Entry} (hE : EOf Tryd.prog E 85 sparseref01_shr_H.pins) (m : Nat) (n : Nat) : LoopOK Tryd.prog E sparseref01_shr_B0 (sparseref01_shr_L0_T m n) :=
  loop_ok (CO := CallOK Tryd.prog) hmix htt (fun _ _ _ _ h => h) hE (C := fun R => mkC R []) (L := []) (fun _ _ _ _ _ h => mkC_spec (AllF.mem (l := []) trivial) h) (fun _ _ => loopsIn_of sparseref01_shr_B0_ls trivial) (fun n => (sparseref01_shr_L0_R m n)) (fun _ => by kernel_rfl) (fun n x => (sparseref01_shr_L0_kr m n x).trans (by kernel_rfl)) n
theorem sparseref01_shr_kr (m : Nat) (x : ShLVal sparseref01_shr_A) : fnK (mkC (sparseref01_shr_S.Val × ShLVal sparseref01_shr_U) []) (mkLp (sparseref01_shr_S.Val × ShLVal sparseref01_shr_U) [sparseref01_shr_L0_T m m, sparseref01_shr_L1_T m m]) tt sparseref01_shr_H Tryd.f97 (encS sparseref01_shr_A x) (Kd sparseref01_shr_S sparseref01_shr_U) = sparseref01_shr m x.1 x.2.1 := by kernel_rfl
theorem sparseref01_shr_ok (m : Nat) : FunOK Tryd.prog (sparseref01_shr_T m) :=
  fun_ok hmix htt (sparseref01_shr_T m) Tryd.func97 (c := sparseref01_shr_C) (by kernel_rfl) (by kernel_rfl) (Lc := []) (AllF.mem (l := []) trivial) (L := [sparseref01_shr_L0_T m m, sparseref01_shr_L1_T m m]) (fun _ hE _ _ => loopsIn_of sparseref01_shr_C_ls ⟨mkLp_all ⟨fun _ => sparseref01_shr_L0_ok hE m m, fun h => absurd (show (2 : Nat) = 0 from h) (by decide), trivial⟩, mkLp_all ⟨fun h => absurd (show (0 : Nat) = 2 from h) (by decide), fun _ => sparseref01_shr_L1_ok hE m m, trivial⟩, trivial⟩) (fun x => (sparseref01_shr_kr m x).trans (by kernel_rfl))
/-! 105 sparse/sparseref01.Neg -/
def sparseref01_Neg_H : Hints := { regs := [⟨[], [1, 2]⟩, ⟨[], [2]⟩], heads := [], exits := [], rets := [2], pins := [], spec := [[false, true]] }
abbrev sparseref01_Neg_A : List Sh := [.a (.agg [.bool, (.imm (.int .u32))])]
abbrev sparseref01_Neg_S : Sh := .a (.agg [.bool, (.nm 0 (.int .u32))])
abbrev sparseref01_Neg_U : List Sh := [.a (.c .dead)]
def sparseref01_Neg_R (m : Nat) : ShLVal sparseref01_Neg_A → Option (sparseref01_Neg_S.Val × ShLVal sparseref01_Neg_U) := fun (x : (Bool × List Int × Unit) × Unit) => sparseref01_Neg m x.1.1 x.1.2.1
def sparseref01_Neg_T (m : Nat) : FunT := ⟨105, sparseref01_Neg_A, sparseref01_Neg_S, sparseref01_Neg_U, sparseref01_Neg_R m⟩
noncomputable def sparseref01_Neg_C : Code := codeOf Tryd.f105
theorem sparseref01_Neg_C_ls : loopsL sparseref01_Neg_C 0 = [] := by kernel_rfl
theorem sparseref01_Neg_kr (m : Nat) (x : ShLVal sparseref01_Neg_A) : fnK (mkC (sparseref01_Neg_S.Val × ShLVal sparseref01_Neg_U) [sparseref01_make1_T m]) (mkLp (sparseref01_Neg_S.Val × ShLVal sparseref01_Neg_U) []) tt sparseref01_Neg_H Tryd.f105 (encS sparseref01_Neg_A x) (Kd sparseref01_Neg_S sparseref01_Neg_U) = sparseref01_Neg m x.1.1 x.1.2.1 := by kernel_rfl
theorem sparseref01_Neg_ok (m : Nat) : FunOK Tryd.prog (sparseref01_Neg_T m) :=
  fun_ok hmix htt (sparseref01_Neg_T m) Tryd.func105 (c := sparseref01_Neg_C) (by kernel_rfl) (by kernel_rfl) (Lc := [sparseref01_make1_T m]) (AllF.mem (l := [sparseref01_make1_T m]) ⟨sparseref01_make1_ok m, trivial⟩) (L := []) (fun _ hE _ _ => loopsIn_of sparseref01_Neg_C_ls trivial) (fun x => (sparseref01_Neg_kr m x).trans (by kernel_rfl))
/-! 102 sparse/sparseref01.addMag -/
def sparseref01_addMag_H : Hints := { regs := [⟨[], [0, 1]⟩, ⟨[], [0, 1, 5]⟩, ⟨[], [0, 1, 5, 6]⟩, ⟨[], [0, 1, 5, 6, 7]⟩, ⟨[], [0, 1, 5, 6, 7, 14]⟩, ⟨[(0, 1)], [0, 1, 5, 6, 7]⟩, ⟨[], [0, 1, 5, 6, 7, 20]⟩, ⟨[(0, 1)], [0, 1, 5, 6, 7]⟩, ⟨[], [0, 1, 5, 6, 7, 31]⟩, ⟨[(0, 1)], [0, 1, 5, 6, 7]⟩, ⟨[(0, 1)], [0, 1, 5, 6, 7]⟩, ⟨[(0, 1)], [0, 1, 5, 6, 7]⟩, ⟨[(0, 1), (1, 1)], [4]⟩], heads := [(0, [0, 1, 5, 6, 7])], exits := [(0, [5, 6]), (1, [0, 1, 5, 6, 7])], rets := [4], pins := [], spec := [[true]] }
abbrev sparseref01_addMag_A : List Sh := [.a (.c (.imm (.int .u32))), .a (.c (.imm (.int .u32)))]
abbrev sparseref01_addMag_S : Sh := .a (.c (.nm 0 (.int .u32)))
abbrev sparseref01_addMag_U : List Sh := [.a (.c .dead), .a (.c .dead)]
def sparseref01_addMag_R (m : Nat) : ShLVal sparseref01_addMag_A → Option (sparseref01_addMag_S.Val × ShLVal sparseref01_addMag_U) := fun (x : List Int × List Int × Unit) => sparseref01_addMag m x.1 x.2.1
def sparseref01_addMag_T (m : Nat) : FunT := ⟨102, sparseref01_addMag_A, sparseref01_addMag_S, sparseref01_addMag_U, sparseref01_addMag_R m⟩
noncomputable def sparseref01_addMag_C : Code := codeOf Tryd.f102
noncomputable def sparseref01_addMag_B0 : Code := loopAt sparseref01_addMag_C 0 0
theorem sparseref01_addMag_B0_ls : loopsL sparseref01_addMag_B0 0 = [] := by kernel_rfl
theorem sparseref01_addMag_C_ls : loopsL sparseref01_addMag_C 0 = [(0, sparseref01_addMag_B0)] := by kernel_rfl
abbrev sparseref01_addMag_L0_I : SS := [(0, .a (.c (.imm (.int .u32)))), (1, .a (.c (.imm (.int .u32)))), (5, .a (.c (.nm 0 (.int .u32)))), (6, .a (.c (.int .u64))), (7, .a (.c (.int .i64)))]
abbrev sparseref01_addMag_L0_O : List (Ex × SS) := [(.exit 0, [(5, .a (.c (.nm 0 (.int .u32)))), (6, .a (.c (.int .u64)))])]
def sparseref01_addMag_L0_R (m n : Nat) : sparseref01_addMag_L0_I.Val → Option (outVal sparseref01_addMag_L0_O) := (fun (x : List Int × List Int × List Int × Int × Int × Unit) => sparseref01_addMag_L0 m n x.1 x.2.1 x.2.2.1 x.2.2.2.1 x.2.2.2.2.1)
def sparseref01_addMag_L0_T (m n : Nat) : LoopT := ⟨0, sparseref01_addMag_L0_I, sparseref01_addMag_L0_O, sparseref01_addMag_L0_R m n⟩
theorem sparseref01_addMag_L0_kr (m n : Nat) (x : sparseref01_addMag_L0_I.Val) : roundK (mkC (outVal sparseref01_addMag_L0_O) []) (mkLp (outVal sparseref01_addMag_L0_O) []) tt 51 sparseref01_addMag_H sparseref01_addMag_B0 0 (sparseref01_addMag_L0_I.enc x) (Kl (ins := sparseref01_addMag_L0_I) (outs := sparseref01_addMag_L0_O) (sparseref01_addMag_L0_R m n)) = sparseref01_addMag_L0 m (n + 1) x.1 x.2.1 x.2.2.1 x.2.2.2.1 x.2.2.2.2.1 := by kernel_rfl
theorem sparseref01_addMag_L0_ok {E : Entry} (hE : EOf Tryd.prog E 51 sparseref01_addMag_H.pins) (m : Nat) (n : Nat) : LoopOK Tryd.prog E sparseref01_addMag_B0 (sparseref01_addMag_L0_T m n) :=
  loop_ok (CO := CallOK Tryd.prog) hmix htt (fun _ _ _ _ h => h) hE (C := fun R => mkC R []) (L := []) (fun _ _ _ _ _ h => mkC_spec (AllF.mem (l := []) trivial) h) (fun _ _ => loopsIn_of sparseref01_addMag_B0_ls trivial) (fun n => (sparseref01_addMag_L0_R m n)) (fun _ => by kernel_rfl) (fun n x => (sparseref01_addMag_L0_kr m n x).trans (by kernel_rfl)) n
theorem sparseref01_addMag_kr (m : Nat) (x : ShLVal sparseref01_addMag_A) : fnK (mkC (sparseref01_addMag_S.Val × ShLVal sparseref01_addMag_U) []) (mkLp (sparseref01_addMag_S.Val × ShLVal sparseref01_addMag_U) [sparseref01_addMag_L0_T m m]) tt sparseref01_addMag_H Tryd.f102 (encS sparseref01_addMag_A x) (Kd sparseref01_addMag_S sparseref01_addMag_U) = sparseref01_addMag m x.1 x.2.1 := by kernel_rfl
theorem sparseref01_addMag_ok (m : Nat) : FunOK Tryd.prog (sparseref01_addMag_T m) :=
  fun_ok hmix htt (sparseref01_addMag_T m) Tryd.func102 (c := sparseref01_addMag_C) (by kernel_rfl) (by kernel_rfl) (Lc := []) (AllF.mem (l := []) trivial) (L := [sparseref01_addMag_L0_T m m]) (fun _ hE _ _ => loopsIn_of sparseref01_addMag_C_ls ⟨mkLp_all ⟨fun _ => sparseref01_addMag_L0_ok hE m m, trivial⟩, trivial⟩) (fun x => (sparseref01_addMag_kr m x).trans (by kernel_rfl))
/-! 103 sparse/sparseref01.cmpMag -/
def sparseref01_cmpMag_H : Hints := { regs := [⟨[], [0, 1]⟩, ⟨[], [0, 1, 10]⟩, ⟨[(0, 1), (2, 1)], [15]⟩, ⟨[], [4]⟩, ⟨[], [4]⟩, ⟨[], [0, 1, 5]⟩, ⟨[], [0, 1, 5, 20]⟩, ⟨[(0, 1)], [0, 1, 5]⟩, ⟨[], [0, 1, 5, 31]⟩, ⟨[(0, 1), (4, 1)], [40]⟩, ⟨[], [4]⟩, ⟨[], [4]⟩, ⟨[], [4]⟩], heads := [(0, [0, 1, 5])], exits := [(0, []), (1, [0, 1, 5])], rets := [4], pins := [], spec := [[false]] }
abbrev sparseref01_cmpMag_A : List Sh := [.a (.c (.imm (.int .u32))), .a (.c (.imm (.int .u32)))]
abbrev sparseref01_cmpMag_S : Sh := .a (.c (.int .i64))
abbrev sparseref01_cmpMag_U : List Sh := [.a (.c .dead), .a (.c .dead)]
def sparseref01_cmpMag_R (m : Nat) : ShLVal sparseref01_cmpMag_A → Option (sparseref01_cmpMag_S.Val × ShLVal sparseref01_cmpMag_U) := fun (x : List Int × List Int × Unit) => sparseref01_cmpMag m x.1 x.2.1
def sparseref01_cmpMag_T (m : Nat) : FunT := ⟨103, sparseref01_cmpMag_A, sparseref01_cmpMag_S, sparseref01_cmpMag_U, sparseref01_cmpMag_R m⟩
noncomputable def sparseref01_cmpMag_C : Code := codeOf Tryd.f103
noncomputable def sparseref01_cmpMag_B0 : Code := loopAt sparseref01_cmpMag_C 0 0
theorem sparseref01_cmpMag_B0_ls : loopsL sparseref01_cmpMag_B0 0 = [] := by kernel_rfl
theorem sparseref01_cmpMag_C_ls : loopsL sparseref01_cmpMag_C 0 = [(0, sparseref01_cmpMag_B0)] := by kernel_rfl
abbrev sparseref01_cmpMag_L0_I : SS := [(0, .a (.c (.imm (.int .u32)))), (1, .a (.c (.imm (.int .u32)))), (5, .a (.c (.int .i64)))]
abbrev sparseref01_cmpMag_L0_O : List (Ex × SS) := [(.ret, [(4, .a (.c (.int .i64)))]), (.exit 0, [])]
def sparseref01_cmpMag_L0_R (m n : Nat) : sparseref01_cmpMag_L0_I.Val → Option (outVal sparseref01_cmpMag_L0_O) := (fun (x : List Int × List Int × Int × Unit) => sparseref01_cmpMag_L0 m n x.1 x.2.1 x.2.2.1)
def sparseref01_cmpMag_L0_T (m n : Nat) : LoopT := ⟨0, sparseref01_cmpMag_L0_I, sparseref01_cmpMag_L0_O, sparseref01_cmpMag_L0_R m n⟩
theorem sparseref01_cmpMag_L0_kr (m n : Nat) (x : sparseref01_cmpMag_L0_I.Val) : roundK (mkC (outVal sparseref01_cmpMag_L0_O) []) (mkLp (outVal sparseref01_cmpMag_L0_O) []) tt 41 sparseref01_cmpMag_H sparseref01_cmpMag_B0 0 (sparseref01_cmpMag_L0_I.enc x) (Kl (ins := sparseref01_cmpMag_L0_I) (outs := sparseref01_cmpMag_L0_O) (sparseref01_cmpMag_L0_R m n)) = sparseref01_cmpMag_L0 m (n + 1) x.1 x.2.1 x.2.2.1 := by kernel_rfl
theorem sparseref01_cmpMag_L0_ok {E : Entry} (hE : EOf Tryd.prog E 41 sparseref01_cmpMag_H.pins) (m : Nat) (n : Nat) : LoopOK Tryd.prog E sparseref01_cmpMag_B0 (sparseref01_cmpMag_L0_T m n) :=
  loop_ok (CO := CallOK Tryd.prog) hmix htt (fun _ _ _ _ h => h) hE (C := fun R => mkC R []) (L := []) (fun _ _ _ _ _ h => mkC_spec (AllF.mem (l := []) trivial) h) (fun _ _ => loopsIn_of sparseref01_cmpMag_B0_ls trivial) (fun n => (sparseref01_cmpMag_L0_R m n)) (fun _ => by kernel_rfl) (fun n x => (sparseref01_cmpMag_L0_kr m n x).trans (by kernel_rfl)) n
theorem sparseref01_cmpMag_kr (m : Nat) (x : ShLVal sparseref01_cmpMag_A) : fnK (mkC (sparseref01_cmpMag_S.Val × ShLVal sparseref01_cmpMag_U) []) (mkLp (sparseref01_cmpMag_S.Val × ShLVal sparseref01_cmpMag_U) [sparseref01_cmpMag_L0_T m m]) tt sparseref01_cmpMag_H Tryd.f103 (encS sparseref01_cmpMag_A x) (Kd sparseref01_cmpMag_S sparseref01_cmpMag_U) = sparseref01_cmpMag m x.1 x.2.1 := by kernel_rfl
theorem sparseref01_cmpMag_ok (m : Nat) : FunOK Tryd.prog (sparseref01_cmpMag_T m) :=
  fun_ok hmix htt (sparseref01_cmpMag_T m) Tryd.func103 (c := sparseref01_cmpMag_C) (by kernel_rfl) (by kernel_rfl) (Lc := []) (AllF.mem (l := []) trivial) (L := [sparseref01_cmpMag_L0_T m m]) (fun _ hE _ _ => loopsIn_of sparseref01_cmpMag_C_ls ⟨mkLp_all ⟨fun _ => sparseref01_cmpMag_L0_ok hE m m, trivial⟩, trivial⟩) (fun x => (sparseref01_cmpMag_kr m x).trans (by kernel_rfl))
/-! 104 sparse/sparseref01.subMag -/
def sparseref01_subMag_H : Hints := { regs := [⟨[], [0, 1]⟩, ⟨[], [0, 1, 5]⟩, ⟨[], [0, 1, 5, 6]⟩, ⟨[], [0, 1, 5, 6, 7]⟩, ⟨[], [0, 1, 5, 6, 7, 12]⟩, ⟨[(0, 1)], [0, 1, 5, 6, 7]⟩, ⟨[(5, 1)], [0, 1, 5, 7, 8]⟩, ⟨[], [0, 1, 5, 7, 8, 25]⟩, ⟨[(0, 1)], [0, 1, 5, 7, 8]⟩, ⟨[(0, 1)], [0, 1, 5, 7, 8]⟩, ⟨[(0, 1)], [0, 1, 5, 6, 7]⟩, ⟨[(0, 1)], [4]⟩], heads := [(0, [0, 1, 5, 6, 7])], exits := [(0, [5]), (1, [0, 1, 5, 6, 7])], rets := [4], pins := [], spec := [[true]] }
abbrev sparseref01_subMag_A : List Sh := [.a (.c (.imm (.int .u32))), .a (.c (.imm (.int .u32)))]
abbrev sparseref01_subMag_S : Sh := .a (.c (.nm 0 (.int .u32)))
abbrev sparseref01_subMag_U : List Sh := [.a (.c .dead), .a (.c .dead)]
def sparseref01_subMag_R (m : Nat) : ShLVal sparseref01_subMag_A → Option (sparseref01_subMag_S.Val × ShLVal sparseref01_subMag_U) := fun (x : List Int × List Int × Unit) => sparseref01_subMag m x.1 x.2.1
def sparseref01_subMag_T (m : Nat) : FunT := ⟨104, sparseref01_subMag_A, sparseref01_subMag_S, sparseref01_subMag_U, sparseref01_subMag_R m⟩
noncomputable def sparseref01_subMag_C : Code := codeOf Tryd.f104
noncomputable def sparseref01_subMag_B0 : Code := loopAt sparseref01_subMag_C 0 0
theorem sparseref01_subMag_B0_ls : loopsL sparseref01_subMag_B0 0 = [] := by kernel_rfl
theorem sparseref01_subMag_C_ls : loopsL sparseref01_subMag_C 0 = [(0, sparseref01_subMag_B0)] := by kernel_rfl
abbrev sparseref01_subMag_L0_I : SS := [(0, .a (.c (.imm (.int .u32)))), (1, .a (.c (.imm (.int .u32)))), (5, .a (.c (.nm 0 (.int .u32)))), (6, .a (.c (.int .u64))), (7, .a (.c (.int .i64)))]
abbrev sparseref01_subMag_L0_O : List (Ex × SS) := [(.exit 0, [(5, .a (.c (.nm 0 (.int .u32))))])]
def sparseref01_subMag_L0_R (m n : Nat) : sparseref01_subMag_L0_I.Val → Option (outVal sparseref01_subMag_L0_O) := (fun (x : List Int × List Int × List Int × Int × Int × Unit) => sparseref01_subMag_L0 m n x.1 x.2.1 x.2.2.1 x.2.2.2.1 x.2.2.2.2.1)
def sparseref01_subMag_L0_T (m n : Nat) : LoopT := ⟨0, sparseref01_subMag_L0_I, sparseref01_subMag_L0_O, sparseref01_subMag_L0_R m n⟩
theorem sparseref01_subMag_L0_kr (m n : Nat) (x : sparseref01_subMag_L0_I.Val) : roundK (mkC (outVal sparseref01_subMag_L0_O) []) (mkLp (outVal sparseref01_subMag_L0_O) []) tt 41 sparseref01_subMag_H sparseref01_subMag_B0 0 (sparseref01_subMag_L0_I.enc x) (Kl (ins := sparseref01_subMag_L0_I) (outs := sparseref01_subMag_L0_O) (sparseref01_subMag_L0_R m n)) = sparseref01_subMag_L0 m (n + 1) x.1 x.2.1 x.2.2.1 x.2.2.2.1 x.2.2.2.2.1 := by kernel_rfl
theorem sparseref01_subMag_L0_ok {E : Entry} (hE : EOf Tryd.prog E 41 sparseref01_subMag_H.pins) (m : Nat) (n : Nat) : LoopOK Tryd.prog E sparseref01_subMag_B0 (sparseref01_subMag_L0_T m n) :=
  loop_ok (CO := CallOK Tryd.prog) hmix htt (fun _ _ _ _ h => h) hE (C := fun R => mkC R []) (L := []) (fun _ _ _ _ _ h => mkC_spec (AllF.mem (l := []) trivial) h) (fun _ _ => loopsIn_of sparseref01_subMag_B0_ls trivial) (fun n => (sparseref01_subMag_L0_R m n)) (fun _ => by kernel_rfl) (fun n x => (sparseref01_subMag_L0_kr m n x).trans (by kernel_rfl)) n
theorem sparseref01_subMag_kr (m : Nat) (x : ShLVal sparseref01_subMag_A) : fnK (mkC (sparseref01_subMag_S.Val × ShLVal sparseref01_subMag_U) []) (mkLp (sparseref01_subMag_S.Val × ShLVal sparseref01_subMag_U) [sparseref01_subMag_L0_T m m]) tt sparseref01_subMag_H Tryd.f104 (encS sparseref01_subMag_A x) (Kd sparseref01_subMag_S sparseref01_subMag_U) = sparseref01_subMag m x.1 x.2.1 := by kernel_rfl
theorem sparseref01_subMag_ok (m : Nat) : FunOK Tryd.prog (sparseref01_subMag_T m) :=
  fun_ok hmix htt (sparseref01_subMag_T m) Tryd.func104 (c := sparseref01_subMag_C) (by kernel_rfl) (by kernel_rfl) (Lc := []) (AllF.mem (l := []) trivial) (L := [sparseref01_subMag_L0_T m m]) (fun _ hE _ _ => loopsIn_of sparseref01_subMag_C_ls ⟨mkLp_all ⟨fun _ => sparseref01_subMag_L0_ok hE m m, trivial⟩, trivial⟩) (fun x => (sparseref01_subMag_kr m x).trans (by kernel_rfl))
/-! 95 sparse/sparseref01.Add -/
def sparseref01_Add_H : Hints := { regs := [⟨[], [2, 3, 4]⟩, ⟨[], [2, 3, 4, 5, 6]⟩, ⟨[], [2, 3, 4, 5, 6, 17]⟩, ⟨[(2, 1), (3, 1)], [4]⟩, ⟨[], [2, 3, 4, 5, 6, 27]⟩, ⟨[(2, 1), (3, 1)], [4]⟩, ⟨[(2, 1), (3, 1)], [4]⟩], heads := [], exits := [], rets := [4], pins := [], spec := [[false, true]] }
abbrev sparseref01_Add_A : List Sh := [.a (.agg [.bool, (.imm (.int .u32))]), .a (.agg [.bool, (.imm (.int .u32))])]
abbrev sparseref01_Add_S : Sh := .a (.agg [.bool, (.nm 0 (.int .u32))])
abbrev sparseref01_Add_U : List Sh := [.a (.c .dead), .a (.c .dead)]
def sparseref01_Add_R (m : Nat) : ShLVal sparseref01_Add_A → Option (sparseref01_Add_S.Val × ShLVal sparseref01_Add_U) := fun (x : (Bool × List Int × Unit) × (Bool × List Int × Unit) × Unit) => sparseref01_Add m x.1.1 x.1.2.1 x.2.1.1 x.2.1.2.1
def sparseref01_Add_T (m : Nat) : FunT := ⟨95, sparseref01_Add_A, sparseref01_Add_S, sparseref01_Add_U, sparseref01_Add_R m⟩
noncomputable def sparseref01_Add_C : Code := codeOf Tryd.f95
theorem sparseref01_Add_C_ls : loopsL sparseref01_Add_C 0 = [] := by kernel_rfl
theorem sparseref01_Add_kr (m : Nat) (x : ShLVal sparseref01_Add_A) : fnK (mkC (sparseref01_Add_S.Val × ShLVal sparseref01_Add_U) [sparseref01_trim_T m, sparseref01_addMag_T m, sparseref01_make1_T m, sparseref01_cmpMag_T m, sparseref01_subMag_T m]) (mkLp (sparseref01_Add_S.Val × ShLVal sparseref01_Add_U) []) tt sparseref01_Add_H Tryd.f95 (encS sparseref01_Add_A x) (Kd sparseref01_Add_S sparseref01_Add_U) = sparseref01_Add m x.1.1 x.1.2.1 x.2.1.1 x.2.1.2.1 := by kernel_rfl
theorem sparseref01_Add_ok (m : Nat) : FunOK Tryd.prog (sparseref01_Add_T m) :=
  fun_ok hmix htt (sparseref01_Add_T m) Tryd.func95 (c := sparseref01_Add_C) (by kernel_rfl) (by kernel_rfl) (Lc := [sparseref01_trim_T m, sparseref01_addMag_T m, sparseref01_make1_T m, sparseref01_cmpMag_T m, sparseref01_subMag_T m]) (AllF.mem (l := [sparseref01_trim_T m, sparseref01_addMag_T m, sparseref01_make1_T m, sparseref01_cmpMag_T m, sparseref01_subMag_T m]) ⟨sparseref01_trim_ok m, sparseref01_addMag_ok m, sparseref01_make1_ok m, sparseref01_cmpMag_ok m, sparseref01_subMag_ok m, trivial⟩) (L := []) (fun _ hE _ _ => loopsIn_of sparseref01_Add_C_ls trivial) (fun x => (sparseref01_Add_kr m x).trans (by kernel_rfl))
/-! 98 sparse/sparseref01.Sub -/
def sparseref01_Sub_H : Hints := { regs := [⟨[], [2, 3, 4]⟩, ⟨[], [4]⟩], heads := [], exits := [], rets := [4], pins := [], spec := [[false, true]] }
abbrev sparseref01_Sub_A : List Sh := [.a (.agg [.bool, (.imm (.int .u32))]), .a (.agg [.bool, (.imm (.int .u32))])]
abbrev sparseref01_Sub_S : Sh := .a (.agg [.bool, (.nm 0 (.int .u32))])
abbrev sparseref01_Sub_U : List Sh := [.a (.c .dead), .a (.c .dead)]
def sparseref01_Sub_R (m : Nat) : ShLVal sparseref01_Sub_A → Option (sparseref01_Sub_S.Val × ShLVal sparseref01_Sub_U) := fun (x : (Bool × List Int × Unit) × (Bool × List Int × Unit) × Unit) => sparseref01_Sub m x.1.1 x.1.2.1 x.2.1.1 x.2.1.2.1
def sparseref01_Sub_T (m : Nat) : FunT := ⟨98, sparseref01_Sub_A, sparseref01_Sub_S, sparseref01_Sub_U, sparseref01_Sub_R m⟩
noncomputable def sparseref01_Sub_C : Code := codeOf Tryd.f98
theorem sparseref01_Sub_C_ls : loopsL sparseref01_Sub_C 0 = [] := by kernel_rfl
theorem sparseref01_Sub_kr (m : Nat) (x : ShLVal sparseref01_Sub_A) : fnK (mkC (sparseref01_Sub_S.Val × ShLVal sparseref01_Sub_U) [sparseref01_Neg_T m, sparseref01_Add_T m]) (mkLp (sparseref01_Sub_S.Val × ShLVal sparseref01_Sub_U) []) tt sparseref01_Sub_H Tryd.f98 (encS sparseref01_Sub_A x) (Kd sparseref01_Sub_S sparseref01_Sub_U) = sparseref01_Sub m x.1.1 x.1.2.1 x.2.1.1 x.2.1.2.1 := by kernel_rfl
theorem sparseref01_Sub_ok (m : Nat) : FunOK Tryd.prog (sparseref01_Sub_T m) :=
  fun_ok hmix htt (sparseref01_Sub_T m) Tryd.func98 (c := sparseref01_Sub_C) (by kernel_rfl) (by kernel_rfl) (Lc := [sparseref01_Neg_T m, sparseref01_Add_T m]) (AllF.mem (l := [sparseref01_Neg_T m, sparseref01_Add_T m]) ⟨sparseref01_Neg_ok m, sparseref01_Add_ok m, trivial⟩) (L := []) (fun _ hE _ _ => loopsIn_of sparseref01_Sub_C_ls trivial) (fun x => (sparseref01_Sub_kr m x).trans (by kernel_rfl))
/-! 83 sparse/sparseref01.Shift -/
def sparseref01_Shift_H : Hints := { regs := [⟨[], [1, 2, 4]⟩, ⟨[], [1, 2, 4]⟩, ⟨[], [1, 2, 4, 11]⟩, ⟨[(4, 1)], [4]⟩, ⟨[(2, 1), (5, 1)], [2, 4, 5, 6]⟩, ⟨[(2, 1)], [2, 4, 6, 7]⟩, ⟨[(2, 1), (3, 1)], [4, 7, 35]⟩, ⟨[], [4, 7]⟩, ⟨[(0, 1)], [4]⟩], heads := [], exits := [], rets := [4], pins := [], spec := [[false, true]] }
abbrev sparseref01_Shift_A : List Sh := [.a (.agg [.bool, (.imm (.int .u32))]), .a (.c (.int .i64))]
abbrev sparseref01_Shift_S : Sh := .a (.agg [.bool, (.nm 0 (.int .u32))])
abbrev sparseref01_Shift_U : List Sh := [.a (.c .dead), .a (.c .dead)]
def sparseref01_Shift_R (m : Nat) : ShLVal sparseref01_Shift_A → Option (sparseref01_Shift_S.Val × ShLVal sparseref01_Shift_U) := fun (x : (Bool × List Int × Unit) × Int × Unit) => sparseref01_Shift m x.1.1 x.1.2.1 x.2.1
def sparseref01_Shift_T (m : Nat) : FunT := ⟨83, sparseref01_Shift_A, sparseref01_Shift_S, sparseref01_Shift_U, sparseref01_Shift_R m⟩
noncomputable def sparseref01_Shift_C : Code := codeOf Tryd.f83
theorem sparseref01_Shift_C_ls : loopsL sparseref01_Shift_C 0 = [] := by kernel_rfl
theorem sparseref01_Shift_kr (m : Nat) (x : ShLVal sparseref01_Shift_A) : fnK (mkC (sparseref01_Shift_S.Val × ShLVal sparseref01_Shift_U) [sparseref01_Norm_T m, sparseref01_shl_T m, sparseref01_make1_T m, sparseref01_shr_T m, sparseref01_FromInt_T m, sparseref01_Sub_T m]) (mkLp (sparseref01_Shift_S.Val × ShLVal sparseref01_Shift_U) []) tt sparseref01_Shift_H Tryd.f83 (encS sparseref01_Shift_A x) (Kd sparseref01_Shift_S sparseref01_Shift_U) = sparseref01_Shift m x.1.1 x.1.2.1 x.2.1 := by kernel_rfl
theorem sparseref01_Shift_ok (m : Nat) : FunOK Tryd.prog (sparseref01_Shift_T m) :=
  fun_ok hmix htt (sparseref01_Shift_T m) Tryd.func83 (c := sparseref01_Shift_C) (by kernel_rfl) (by kernel_rfl) (Lc := [sparseref01_Norm_T m, sparseref01_shl_T m, sparseref01_make1_T m, sparseref01_shr_T m, sparseref01_FromInt_T m, sparseref01_Sub_T m]) (AllF.mem (l := [sparseref01_Norm_T m, sparseref01_shl_T m, sparseref01_make1_T m, sparseref01_shr_T m, sparseref01_FromInt_T m, sparseref01_Sub_T m]) ⟨sparseref01_Norm_ok m, sparseref01_shl_ok m, sparseref01_make1_ok m, sparseref01_shr_ok m, sparseref01_FromInt_ok m, sparseref01_Sub_ok m, trivial⟩) (L := []) (fun _ hE _ _ => loopsIn_of sparseref01_Shift_C_ls trivial) (fun x => (sparseref01_Shift_kr m x).trans (by kernel_rfl))
/-! 88 sparse/sparseref02.down -/
def sparseref02_down_H : Hints := { regs := [⟨[(1, 2)], [1, 2, 4]⟩, ⟨[], [1, 2, 4, 6]⟩, ⟨[(2, 2)], [1, 2, 4]⟩, ⟨[(0, 1)], [1, 2, 4]⟩, ⟨[(1, 1)], [4]⟩], heads := [(0, [1, 2, 4])], exits := [(0, [1, 2, 4]), (1, [1, 2, 4])], rets := [4], pins := [], spec := [[false, true]] }
abbrev sparseref02_down_A : List Sh := [.a (.agg [.bool, (.imm (.int .u32))]), .a (.c (.int .i64))]
abbrev sparseref02_down_S : Sh := .a (.agg [.bool, (.nm 0 (.int .u32))])
abbrev sparseref02_down_U : List Sh := [.a (.c .dead), .a (.c .dead)]
def sparseref02_down_R (m : Nat) : ShLVal sparseref02_down_A → Option (sparseref02_down_S.Val × ShLVal sparseref02_down_U) := fun (x : (Bool × List Int × Unit) × Int × Unit) => sparseref02_down m x.1.1 x.1.2.1 x.2.1
def sparseref02_down_T (m : Nat) : FunT := ⟨88, sparseref02_down_A, sparseref02_down_S, sparseref02_down_U, sparseref02_down_R m⟩
noncomputable def sparseref02_down_C : Code := codeOf Tryd.f88
noncomputable def sparseref02_down_B0 : Code := loopAt sparseref02_down_C 0 0
theorem sparseref02_down_B0_ls : loopsL sparseref02_down_B0 0 = [] := by kernel_rfl
theorem sparseref02_down_C_ls : loopsL sparseref02_down_C 0 = [(0, sparseref02_down_B0)] := by kernel_rfl
abbrev sparseref02_down_L0_I : SS := [(1, .a (.c (.int .i64))), (2, .a (.bx 0 [.bool, (.imm (.int .u32))])), (4, .a (.bx 1 [.bool, (.imm (.int .u32))]))]
abbrev sparseref02_down_L0_O : List (Ex × SS) := [(.exit 0, [(1, .a (.c (.int .i64))), (2, .a (.bx 0 [.bool, (.imm (.int .u32))])), (4, .a (.bx 1 [.bool, (.imm (.int .u32))]))])]
def sparseref02_down_L0_R (m n : Nat) : sparseref02_down_L0_I.Val → Option (outVal sparseref02_down_L0_O) := (fun (x : Int × (Bool × List Int × Unit) × (Bool × List Int × Unit) × Unit) => sparseref02_down_L0 m n x.1 x.2.1.1 x.2.1.2.1 x.2.2.1.1 x.2.2.1.2.1)
def sparseref02_down_L0_T (m n : Nat) : LoopT := ⟨0, sparseref02_down_L0_I, sparseref02_down_L0_O, sparseref02_down_L0_R m n⟩
theorem sparseref02_down_L0_kr (m n : Nat) (x : sparseref02_down_L0_I.Val) : roundK (mkC (outVal sparseref02_down_L0_O) [sparseref01_Shift_T m]) (mkLp (outVal sparseref02_down_L0_O) []) tt 15 sparseref02_down_H sparseref02_down_B0 0 (sparseref02_down_L0_I.enc x) (Kl (ins := sparseref02_down_L0_I) (outs := sparseref02_down_L0_O) (sparseref02_down_L0_R m n)) = sparseref02_down_L0 m (n + 1) x.1 x.2.1.1 x.2.1.2.1 x.2.2.1.1 x.2.2.1.2.1 := by kernel_rfl
theorem sparseref02_down_L0_ok {E : Entry} (hE : EOf Tryd.prog E 15 sparseref02_down_H.pins) (m : Nat) (n : Nat) : LoopOK Tryd.prog E sparseref02_down_B0 (sparseref02_down_L0_T m n) :=
  loop_ok (CO := CallOK Tryd.prog) hmix htt (fun _ _ _ _ h => h) hE (C := fun R => mkC R [sparseref01_Shift_T m]) (L := []) (fun _ _ _ _ _ h => mkC_spec (AllF.mem (l := [sparseref01_Shift_T m]) ⟨sparseref01_Shift_ok m, trivial⟩) h) (fun _ _ => loopsIn_of sparseref02_down_B0_ls trivial) (fun n => (sparseref02_down_L0_R m n)) (fun _ => by kernel_rfl) (fun n x => (sparseref02_down_L0_kr m n x).trans (by kernel_rfl)) n
theorem sparseref02_down_kr (m : Nat) (x : ShLVal sparseref02_down_A) : fnK (mkC (sparseref02_down_S.Val × ShLVal sparseref02_down_U) [sparseref01_Shift_T m]) (mkLp (sparseref02_down_S.Val × ShLVal sparseref02_down_U) [sparseref02_down_L0_T m m]) tt sparseref02_down_H Tryd.f88 (encS sparseref02_down_A x) (Kd sparseref02_down_S sparseref02_down_U) = sparseref02_down m x.1.1 x.1.2.1 x.2.1 := by kernel_rfl
theorem sparseref02_down_ok (m : Nat) : FunOK Tryd.prog (sparseref02_down_T m) :=
  fun_ok hmix htt (sparseref02_down_T m) Tryd.func88 (c := sparseref02_down_C) (by kernel_rfl) (by kernel_rfl) (Lc := [sparseref01_Shift_T m]) (AllF.mem (l := [sparseref01_Shift_T m]) ⟨sparseref01_Shift_ok m, trivial⟩) (L := [sparseref02_down_L0_T m m]) (fun _ hE _ _ => loopsIn_of sparseref02_down_C_ls ⟨mkLp_all ⟨fun _ => sparseref02_down_L0_ok hE m m, trivial⟩, trivial⟩) (fun x => (sparseref02_down_kr m x).trans (by kernel_rfl))
/-! 92 math/bits.Len32 -/
def math_bits_Len32_H : Hints := { regs := [⟨[], [0, 2]⟩, ⟨[], [0, 2, 4]⟩, ⟨[(0, 1)], [0]⟩, ⟨[], [0, 2]⟩, ⟨[], [0, 2, 8]⟩, ⟨[(0, 1)], [0, 2]⟩, ⟨[(0, 1)], [0, 2]⟩, ⟨[(0, 1), (1, 1)], [2]⟩], heads := [], exits := [], rets := [2], pins := [], spec := [[false]] }
abbrev math_bits_Len32_A : List Sh := [.a (.c (.int .u32))]
abbrev math_bits_Len32_S : Sh := .a (.c (.int .i64))
abbrev math_bits_Len32_U : List Sh := [.a (.c .dead)]
def math_bits_Len32_R (m : Nat) : ShLVal math_bits_Len32_A → Option (math_bits_Len32_S.Val × ShLVal math_bits_Len32_U) := fun (x : Int × Unit) => math_bits_Len32 m x.1
def math_bits_Len32_T (m : Nat) : FunT := ⟨92, math_bits_Len32_A, math_bits_Len32_S, math_bits_Len32_U, math_bits_Len32_R m⟩
noncomputable def math_bits_Len32_C : Code := codeOf Tryd.f92
theorem math_bits_Len32_C_ls : loopsL math_bits_Len32_C 0 = [] := by kernel_rfl
theorem math_bits_Len32_kr (m : Nat) (x : ShLVal math_bits_Len32_A) : fnK (mkC (math_bits_Len32_S.Val × ShLVal math_bits_Len32_U) []) (mkLp (math_bits_Len32_S.Val × ShLVal math_bits_Len32_U) []) tt math_bits_Len32_H Tryd.f92 (encS math_bits_Len32_A x) (Kd math_bits_Len32_S math_bits_Len32_U) = math_bits_Len32 m x.1 := by kernel_rfl
theorem math_bits_Len32_ok (m : Nat) : FunOK Tryd.prog (math_bits_Len32_T m) :=
  fun_ok hmix htt (math_bits_Len32_T m) Tryd.func92 (c := math_bits_Len32_C) (by kernel_rfl) (by kernel_rfl) (Lc := []) (AllF.mem (l := []) trivial) (L := []) (fun _ hE _ _ => loopsIn_of math_bits_Len32_C_ls trivial) (fun x => (math_bits_Len32_kr m x).trans (by kernel_rfl))
/-! 80 sparse/sparseref01.BitLen -/
def sparseref01_BitLen_H : Hints := { regs := [⟨[], [1]⟩, ⟨[], [3]⟩, ⟨[], [3, 9]⟩, ⟨[], [2]⟩, ⟨[], [2]⟩], heads := [], exits := [], rets := [2], pins := [], spec := [[false]] }
abbrev sparseref01_BitLen_A : List Sh := [.a (.agg [.bool, (.imm (.int .u32))])]
abbrev sparseref01_BitLen_S : Sh := .a (.c (.int .i64))
abbrev sparseref01_BitLen_U : List Sh := [.a (.c .dead)]
def sparseref01_BitLen_R (m : Nat) : ShLVal sparseref01_BitLen_A → Option (sparseref01_BitLen_S.Val × ShLVal sparseref01_BitLen_U) := fun (x : (Bool × List Int × Unit) × Unit) => sparseref01_BitLen m x.1.1 x.1.2.1
def sparseref01_BitLen_T (m : Nat) : FunT := ⟨80, sparseref01_BitLen_A, sparseref01_BitLen_S, sparseref01_BitLen_U, sparseref01_BitLen_R m⟩
noncomputable def sparseref01_BitLen_C : Code := codeOf Tryd.f80
theorem sparseref01_BitLen_C_ls : loopsL sparseref01_BitLen_C 0 = [] := by kernel_rfl
theorem sparseref01_BitLen_kr (m : Nat) (x : ShLVal sparseref01_BitLen_A) : fnK (mkC (sparseref01_BitLen_S.Val × ShLVal sparseref01_BitLen_U) [sparseref01_trim_T m, math_bits_Len32_T m]) (mkLp (sparseref01_BitLen_S.Val × ShLVal sparseref01_BitLen_U) []) tt sparseref01_BitLen_H Tryd.f80 (encS sparseref01_BitLen_A x) (Kd sparseref01_BitLen_S sparseref01_BitLen_U) = sparseref01_BitLen m x.1.1 x.1.2.1 := by kernel_rfl
theorem sparseref01_BitLen_ok (m : Nat) : FunOK Tryd.prog (sparseref01_BitLen_T m) :=
  fun_ok hmix htt (sparseref01_BitLen_T m) Tryd.func80 (c := sparseref01_BitLen_C) (by kernel_rfl) (by kernel_rfl) (Lc := [sparseref01_trim_T m, math_bits_Len32_T m]) (AllF.mem (l := [sparseref01_trim_T m, math_bits_Len32_T m]) ⟨sparseref01_trim_ok m, math_bits_Len32_ok m, trivial⟩) (L := []) (fun _ hE _ _ => loopsIn_of sparseref01_BitLen_C_ls trivial) (fun x => (sparseref01_BitLen_kr m x).trans (by kernel_rfl))
/-! 71 sparse/sparseref02.Make -/
def sparseref02_Make_H : Hints := { regs := [⟨[], [1, 2, 4]⟩, ⟨[], [1, 2, 4, 5]⟩, ⟨[], [1, 2, 4, 5, 13]⟩, ⟨[], [4]⟩, ⟨[], [1, 2, 4, 5, 16]⟩, ⟨[], [4]⟩, ⟨[], [1, 2, 4, 5, 6]⟩, ⟨[(0, 1)], [2, 4, 5, 6, 7]⟩, ⟨[], [2, 4, 5, 6, 7]⟩, ⟨[(1, 1)], [2, 4, 5, 7]⟩, ⟨[(2, 1)], [2, 4, 5, 7, 36]⟩, ⟨[], [4]⟩, ⟨[], [4, 5, 7]⟩, ⟨[(0, 1), (1, 1)], [4]⟩], heads := [], exits := [], rets := [4], pins := [], spec := [[false, false, true, false]] }
abbrev sparseref02_Make_A : List Sh := [.a (.agg [.bool, (.imm (.int .u32))]), .a (.c (.int .i64))]
abbrev sparseref02_Make_S : Sh := .a (.agg [.bool, .bool, (.nm 0 (.int .u32)), (.int .i64)])
abbrev sparseref02_Make_U : List Sh := [.a (.c .dead), .a (.c .dead)]
def sparseref02_Make_R (m : Nat) : ShLVal sparseref02_Make_A → Option (sparseref02_Make_S.Val × ShLVal sparseref02_Make_U) := fun (x : (Bool × List Int × Unit) × Int × Unit) => sparseref02_Make m x.1.1 x.1.2.1 x.2.1
def sparseref02_Make_T (m : Nat) : FunT := ⟨71, sparseref02_Make_A, sparseref02_Make_S, sparseref02_Make_U, sparseref02_Make_R m⟩
noncomputable def sparseref02_Make_C : Code := codeOf Tryd.f71
theorem sparseref02_Make_C_ls : loopsL sparseref02_Make_C 0 = [] := by kernel_rfl
theorem sparseref02_Make_kr (m : Nat) (x : ShLVal sparseref02_Make_A) : fnK (mkC (sparseref02_Make_S.Val × ShLVal sparseref02_Make_U) [sparseref01_Norm_T m, sparseref02_Bad_T m, sparseref01_TrailingZeros_T m, sparseref01_Abs_T m, sparseref02_down_T m, sparseref01_BitLen_T m]) (mkLp (sparseref02_Make_S.Val × ShLVal sparseref02_Make_U) []) tt sparseref02_Make_H Tryd.f71 (encS sparseref02_Make_A x) (Kd sparseref02_Make_S sparseref02_Make_U) = sparseref02_Make m x.1.1 x.1.2.1 x.2.1 := by kernel_rfl
theorem sparseref02_Make_ok (m : Nat) : FunOK Tryd.prog (sparseref02_Make_T m) :=
  fun_ok hmix htt (sparseref02_Make_T m) Tryd.func71 (c := sparseref02_Make_C) (by kernel_rfl) (by kernel_rfl) (Lc := [sparseref01_Norm_T m, sparseref02_Bad_T m, sparseref01_TrailingZeros_T m, sparseref01_Abs_T m, sparseref02_down_T m, sparseref01_BitLen_T m]) (AllF.mem (l := [sparseref01_Norm_T m, sparseref02_Bad_T m, sparseref01_TrailingZeros_T m, sparseref01_Abs_T m, sparseref02_down_T m, sparseref01_BitLen_T m]) ⟨sparseref01_Norm_ok m, sparseref02_Bad_ok m, sparseref01_TrailingZeros_ok m, sparseref01_Abs_ok m, sparseref02_down_ok m, sparseref01_BitLen_ok m, trivial⟩) (L := []) (fun _ hE _ _ => loopsIn_of sparseref02_Make_C_ls trivial) (fun x => (sparseref02_Make_kr m x).trans (by kernel_rfl))
/-! 60 sparse/sparseref02.FromInt -/
def sparseref02_FromInt_H : Hints := { regs := [⟨[], [0, 2]⟩, ⟨[(0, 1)], [2]⟩], heads := [], exits := [], rets := [2], pins := [], spec := [[false, false, true, false]] }
abbrev sparseref02_FromInt_A : List Sh := [.a (.c (.int .i64))]
abbrev sparseref02_FromInt_S : Sh := .a (.agg [.bool, .bool, (.nm 0 (.int .u32)), (.int .i64)])
abbrev sparseref02_FromInt_U : List Sh := [.a (.c .dead)]
def sparseref02_FromInt_R (m : Nat) : ShLVal sparseref02_FromInt_A → Option (sparseref02_FromInt_S.Val × ShLVal sparseref02_FromInt_U) := fun (x : Int × Unit) => sparseref02_FromInt m x.1
def sparseref02_FromInt_T (m : Nat) : FunT := ⟨60, sparseref02_FromInt_A, sparseref02_FromInt_S, sparseref02_FromInt_U, sparseref02_FromInt_R m⟩
noncomputable def sparseref02_FromInt_C : Code := codeOf Tryd.f60
theorem sparseref02_FromInt_C_ls : loopsL sparseref02_FromInt_C 0 = [] := by kernel_rfl
theorem sparseref02_FromInt_kr (m : Nat) (x : ShLVal sparseref02_FromInt_A) : fnK (mkC (sparseref02_FromInt_S.Val × ShLVal sparseref02_FromInt_U) [sparseref01_FromInt_T m, sparseref02_Make_T m]) (mkLp (sparseref02_FromInt_S.Val × ShLVal sparseref02_FromInt_U) []) tt sparseref02_FromInt_H Tryd.f60 (encS sparseref02_FromInt_A x) (Kd sparseref02_FromInt_S sparseref02_FromInt_U) = sparseref02_FromInt m x.1 := by kernel_rfl
theorem sparseref02_FromInt_ok (m : Nat) : FunOK Tryd.prog (sparseref02_FromInt_T m) :=
  fun_ok hmix htt (sparseref02_FromInt_T m) Tryd.func60 (c := sparseref02_FromInt_C) (by kernel_rfl) (by kernel_rfl) (Lc := [sparseref01_FromInt_T m, sparseref02_Make_T m]) (AllF.mem (l := [sparseref01_FromInt_T m, sparseref02_Make_T m]) ⟨sparseref01_FromInt_ok m, sparseref02_Make_ok m, trivial⟩) (L := []) (fun _ hE _ _ => loopsIn_of sparseref02_FromInt_C_ls trivial) (fun x => (sparseref02_FromInt_kr m x).trans (by kernel_rfl))
/-! 66 sparse/sparseref02.Norm -/
def sparseref02_Norm_H : Hints := { regs := [⟨[], [1, 2]⟩, ⟨[], [1, 2, 4]⟩, ⟨[], [2]⟩, ⟨[], [2]⟩], heads := [], exits := [], rets := [2], pins := [], spec := [[false, false, true, false]] }
abbrev sparseref02_Norm_A : List Sh := [.a (.agg [.bool, .bool, (.imm (.int .u32)), (.int .i64)])]
abbrev sparseref02_Norm_S : Sh := .a (.agg [.bool, .bool, (.nm 0 (.int .u32)), (.int .i64)])
abbrev sparseref02_Norm_U : List Sh := [.a (.c .dead)]
def sparseref02_Norm_R (m : Nat) : ShLVal sparseref02_Norm_A → Option (sparseref02_Norm_S.Val × ShLVal sparseref02_Norm_U) := fun (x : (Bool × Bool × List Int × Int × Unit) × Unit) => sparseref02_Norm m x.1.1 x.1.2.1 x.1.2.2.1 x.1.2.2.2.1
def sparseref02_Norm_T (m : Nat) : FunT := ⟨66, sparseref02_Norm_A, sparseref02_Norm_S, sparseref02_Norm_U, sparseref02_Norm_R m⟩
noncomputable def sparseref02_Norm_C : Code := codeOf Tryd.f66
theorem sparseref02_Norm_C_ls : loopsL sparseref02_Norm_C 0 = [] := by kernel_rfl
theorem sparseref02_Norm_kr (m : Nat) (x : ShLVal sparseref02_Norm_A) : fnK (mkC (sparseref02_Norm_S.Val × ShLVal sparseref02_Norm_U) [sparseref02_Bad_T m, sparseref02_Make_T m]) (mkLp (sparseref02_Norm_S.Val × ShLVal sparseref02_Norm_U) []) tt sparseref02_Norm_H Tryd.f66 (encS sparseref02_Norm_A x) (Kd sparseref02_Norm_S sparseref02_Norm_U) = sparseref02_Norm m x.1.1 x.1.2.1 x.1.2.2.1 x.1.2.2.2.1 := by kernel_rfl
theorem sparseref02_Norm_ok (m : Nat) : FunOK Tryd.prog (sparseref02_Norm_T m) :=
  fun_ok hmix htt (sparseref02_Norm_T m) Tryd.func66 (c := sparseref02_Norm_C) (by kernel_rfl) (by kernel_rfl) (Lc := [sparseref02_Bad_T m, sparseref02_Make_T m]) (AllF.mem (l := [sparseref02_Bad_T m, sparseref02_Make_T m]) ⟨sparseref02_Bad_ok m, sparseref02_Make_ok m, trivial⟩) (L := []) (fun _ hE _ _ => loopsIn_of sparseref02_Norm_C_ls trivial) (fun x => (sparseref02_Norm_kr m x).trans (by kernel_rfl))
/-! 67 sparse/sparseref01.Sign -/
def sparseref01_Sign_H : Hints := { regs := [⟨[], [1]⟩, ⟨[], [1]⟩, ⟨[], [1, 5]⟩, ⟨[], [2]⟩, ⟨[], [10]⟩, ⟨[], [2]⟩, ⟨[], [2]⟩], heads := [], exits := [(0, [])], rets := [2], pins := [], spec := [[false]] }
abbrev sparseref01_Sign_A : List Sh := [.a (.agg [.bool, (.imm (.int .u32))])]
abbrev sparseref01_Sign_S : Sh := .a (.c (.int .i64))
abbrev sparseref01_Sign_U : List Sh := [.a (.c .dead)]
def sparseref01_Sign_R (m : Nat) : ShLVal sparseref01_Sign_A → Option (sparseref01_Sign_S.Val × ShLVal sparseref01_Sign_U) := fun (x : (Bool × List Int × Unit) × Unit) => sparseref01_Sign m x.1.1 x.1.2.1
def sparseref01_Sign_T (m : Nat) : FunT := ⟨67, sparseref01_Sign_A, sparseref01_Sign_S, sparseref01_Sign_U, sparseref01_Sign_R m⟩
noncomputable def sparseref01_Sign_C : Code := codeOf Tryd.f67
theorem sparseref01_Sign_C_ls : loopsL sparseref01_Sign_C 0 = [] := by kernel_rfl
theorem sparseref01_Sign_kr (m : Nat) (x : ShLVal sparseref01_Sign_A) : fnK (mkC (sparseref01_Sign_S.Val × ShLVal sparseref01_Sign_U) [sparseref01_Norm_T m]) (mkLp (sparseref01_Sign_S.Val × ShLVal sparseref01_Sign_U) []) tt sparseref01_Sign_H Tryd.f67 (encS sparseref01_Sign_A x) (Kd sparseref01_Sign_S sparseref01_Sign_U) = sparseref01_Sign m x.1.1 x.1.2.1 := by kernel_rfl
theorem sparseref01_Sign_ok (m : Nat) : FunOK Tryd.prog (sparseref01_Sign_T m) :=
  fun_ok hmix htt (sparseref01_Sign_T m) Tryd.func67 (c := sparseref01_Sign_C) (by kernel_rfl) (by kernel_rfl) (Lc := [sparseref01_Norm_T m]) (AllF.mem (l := [sparseref01_Norm_T m]) ⟨sparseref01_Norm_ok m, trivial⟩) (L := []) (fun _ hE _ _ => loopsIn_of sparseref01_Sign_C_ls trivial) (fun x => (sparseref01_Sign_kr m x).trans (by kernel_rfl))
/-! 59 sparse/sparseref02.Scale -/
def sparseref02_Scale_H : Hints := { regs := [⟨[], [1, 2, 4]⟩, ⟨[], [1, 2, 4]⟩, ⟨[(2, 1)], [1, 2, 4, 14]⟩, ⟨[(0, 1)], [4]⟩, ⟨[(2, 1)], [1, 2, 4, 21]⟩, ⟨[], [4]⟩, ⟨[(4, 1)], [4]⟩], heads := [], exits := [], rets := [4], pins := [], spec := [[false, false, true, false]] }
abbrev sparseref02_Scale_A : List Sh := [.a (.agg [.bool, .bool, (.imm (.int .u32)), (.int .i64)]), .a (.c (.int .i64))]
abbrev sparseref02_Scale_S : Sh := .a (.agg [.bool, .bool, (.nm 0 (.int .u32)), (.int .i64)])
abbrev sparseref02_Scale_U : List Sh := [.a (.c .dead), .a (.c .dead)]
def sparseref02_Scale_R (m : Nat) : ShLVal sparseref02_Scale_A → Option (sparseref02_Scale_S.Val × ShLVal sparseref02_Scale_U) := fun (x : (Bool × Bool × List Int × Int × Unit) × Int × Unit) => sparseref02_Scale m x.1.1 x.1.2.1 x.1.2.2.1 x.1.2.2.2.1 x.2.1
def sparseref02_Scale_T (m : Nat) : FunT := ⟨59, sparseref02_Scale_A, sparseref02_Scale_S, sparseref02_Scale_U, sparseref02_Scale_R m⟩
noncomputable def sparseref02_Scale_C : Code := codeOf Tryd.f59
theorem sparseref02_Scale_C_ls : loopsL sparseref02_Scale_C 0 = [] := by kernel_rfl
theorem sparseref02_Scale_kr (m : Nat) (x : ShLVal sparseref02_Scale_A) : fnK (mkC (sparseref02_Scale_S.Val × ShLVal sparseref02_Scale_U) [sparseref02_Norm_T m, sparseref01_Sign_T m, sparseref02_Bad_T m, sparseref02_Make_T m]) (mkLp (sparseref02_Scale_S.Val × ShLVal sparseref02_Scale_U) []) tt sparseref02_Scale_H Tryd.f59 (encS sparseref02_Scale_A x) (Kd sparseref02_Scale_S sparseref02_Scale_U) = sparseref02_Scale m x.1.1 x.1.2.1 x.1.2.2.1 x.1.2.2.2.1 x.2.1 := by kernel_rfl
theorem sparseref02_Scale_ok (m : Nat) : FunOK Tryd.prog (sparseref02_Scale_T m) :=
  fun_ok hmix htt (sparseref02_Scale_T m) Tryd.func59 (c := sparseref02_Scale_C) (by kernel_rfl) (by kernel_rfl) (Lc := [sparseref02_Norm_T m, sparseref01_Sign_T m, sparseref02_Bad_T m, sparseref02_Make_T m]) (AllF.mem (l := [sparseref02_Norm_T m, sparseref01_Sign_T m, sparseref02_Bad_T m, sparseref02_Make_T m]) ⟨sparseref02_Norm_ok m, sparseref01_Sign_ok m, sparseref02_Bad_ok m, sparseref02_Make_ok m, trivial⟩) (L := []) (fun _ hE _ _ => loopsIn_of sparseref02_Scale_C_ls trivial) (fun x => (sparseref02_Scale_kr m x).trans (by kernel_rfl))
/-! 85 sparse/sparseref03.signed -/
def sparseref03_signed_H : Hints := { regs := [⟨[], [0, 1]⟩, ⟨[(0, 1)], [1, 5]⟩, ⟨[(0, 1)], [4]⟩, ⟨[(0, 1)], [4]⟩], heads := [], exits := [], rets := [4], pins := [], spec := [[false]] }
abbrev sparseref03_signed_A : List Sh := [.a (.c .bool), .a (.c (.int .u64))]
abbrev sparseref03_signed_S : Sh := .a (.c (.int .u64))
abbrev sparseref03_signed_U : List Sh := [.a (.c .dead), .a (.c .dead)]
def sparseref03_signed_R (m : Nat) : ShLVal sparseref03_signed_A → Option (sparseref03_signed_S.Val × ShLVal sparseref03_signed_U) := fun (x : Bool × Int × Unit) => sparseref03_signed m x.1 x.2.1
def sparseref03_signed_T (m : Nat) : FunT := ⟨85, sparseref03_signed_A, sparseref03_signed_S, sparseref03_signed_U, sparseref03_signed_R m⟩
noncomputable def sparseref03_signed_C : Code := codeOf Tryd.f85
theorem sparseref03_signed_C_ls : loopsL sparseref03_signed_C 0 = [] := by kernel_rfl
theorem sparseref03_signed_kr (m : Nat) (x : ShLVal sparseref03_signed_A) : fnK (mkC (sparseref03_signed_S.Val × ShLVal sparseref03_signed_U) []) (mkLp (sparseref03_signed_S.Val × ShLVal sparseref03_signed_U) []) tt sparseref03_signed_H Tryd.f85 (encS sparseref03_signed_A x) (Kd sparseref03_signed_S sparseref03_signed_U) = sparseref03_signed m x.1 x.2.1 := by kernel_rfl
theorem sparseref03_signed_ok (m : Nat) : FunOK Tryd.prog (sparseref03_signed_T m) :=
  fun_ok hmix htt (sparseref03_signed_T m) Tryd.func85 (c := sparseref03_signed_C) (by kernel_rfl) (by kernel_rfl) (Lc := []) (AllF.mem (l := []) trivial) (L := []) (fun _ hE _ _ => loopsIn_of sparseref03_signed_C_ls trivial) (fun x => (sparseref03_signed_kr m x).trans (by kernel_rfl))
/-! 81 sparse/sparseref03.over -/
def sparseref03_over_H : Hints := { regs := [⟨[], [0, 1]⟩, ⟨[(2, 1), (5, 1), (10, 1), (13, 1)], [0, 21]⟩, ⟨[(0, 1)], [4]⟩, ⟨[(0, 1)], [4]⟩], heads := [], exits := [], rets := [4], pins := [], spec := [[false]] }
abbrev sparseref03_over_A : List Sh := [.a (.c .bool), .a (.c (.int .i64))]
abbrev sparseref03_over_S : Sh := .a (.c (.int .u64))
abbrev sparseref03_over_U : List Sh := [.a (.c .dead), .a (.c .dead)]
def sparseref03_over_R (m : Nat) : ShLVal sparseref03_over_A → Option (sparseref03_over_S.Val × ShLVal sparseref03_over_U) := fun (x : Bool × Int × Unit) => sparseref03_over m x.1 x.2.1
def sparseref03_over_T (m : Nat) : FunT := ⟨81, sparseref03_over_A, sparseref03_over_S, sparseref03_over_U, sparseref03_over_R m⟩
noncomputable def sparseref03_over_C : Code := codeOf Tryd.f81
theorem sparseref03_over_C_ls : loopsL sparseref03_over_C 0 = [] := by kernel_rfl
theorem sparseref03_over_kr (m : Nat) (x : ShLVal sparseref03_over_A) : fnK (mkC (sparseref03_over_S.Val × ShLVal sparseref03_over_U) [sparseref03_signed_T m]) (mkLp (sparseref03_over_S.Val × ShLVal sparseref03_over_U) []) tt sparseref03_over_H Tryd.f81 (encS sparseref03_over_A x) (Kd sparseref03_over_S sparseref03_over_U) = sparseref03_over m x.1 x.2.1 := by kernel_rfl
theorem sparseref03_over_ok (m : Nat) : FunOK Tryd.prog (sparseref03_over_T m) :=
  fun_ok hmix htt (sparseref03_over_T m) Tryd.func81 (c := sparseref03_over_C) (by kernel_rfl) (by kernel_rfl) (Lc := [sparseref03_signed_T m]) (AllF.mem (l := [sparseref03_signed_T m]) ⟨sparseref03_signed_ok m, trivial⟩) (L := []) (fun _ hE _ _ => loopsIn_of sparseref03_over_C_ls trivial) (fun x => (sparseref03_over_kr m x).trans (by kernel_rfl))
/-! 93 sparse/sparseref01.Lost -/
def sparseref01_Lost_H : Hints := { regs := [⟨[], [1, 2]⟩, ⟨[(3, 1), (5, 1)], [6]⟩, ⟨[(0, 1)], [4]⟩], heads := [], exits := [], rets := [4], pins := [], spec := [[false]] }
abbrev sparseref01_Lost_A : List Sh := [.a (.agg [.bool, (.imm (.int .u32))]), .a (.c (.int .i64))]
abbrev sparseref01_Lost_S : Sh := .a (.c .bool)
abbrev sparseref01_Lost_U : List Sh := [.a (.c .dead), .a (.c .dead)]
def sparseref01_Lost_R (m : Nat) : ShLVal sparseref01_Lost_A → Option (sparseref01_Lost_S.Val × ShLVal sparseref01_Lost_U) := fun (x : (Bool × List Int × Unit) × Int × Unit) => sparseref01_Lost m x.1.1 x.1.2.1 x.2.1
def sparseref01_Lost_T (m : Nat) : FunT := ⟨93, sparseref01_Lost_A, sparseref01_Lost_S, sparseref01_Lost_U, sparseref01_Lost_R m⟩
noncomputable def sparseref01_Lost_C : Code := codeOf Tryd.f93
theorem sparseref01_Lost_C_ls : loopsL sparseref01_Lost_C 0 = [] := by kernel_rfl
theorem sparseref01_Lost_kr (m : Nat) (x : ShLVal sparseref01_Lost_A) : fnK (mkC (sparseref01_Lost_S.Val × ShLVal sparseref01_Lost_U) [sparseref01_trim_T m, sparseref01_shr_T m]) (mkLp (sparseref01_Lost_S.Val × ShLVal sparseref01_Lost_U) []) tt sparseref01_Lost_H Tryd.f93 (encS sparseref01_Lost_A x) (Kd sparseref01_Lost_S sparseref01_Lost_U) = sparseref01_Lost m x.1.1 x.1.2.1 x.2.1 := by kernel_rfl
theorem sparseref01_Lost_ok (m : Nat) : FunOK Tryd.prog (sparseref01_Lost_T m) :=
  fun_ok hmix htt (sparseref01_Lost_T m) Tryd.func93 (c := sparseref01_Lost_C) (by kernel_rfl) (by kernel_rfl) (Lc := [sparseref01_trim_T m, sparseref01_shr_T m]) (AllF.mem (l := [sparseref01_trim_T m, sparseref01_shr_T m]) ⟨sparseref01_trim_ok m, sparseref01_shr_ok m, trivial⟩) (L := []) (fun _ hE _ _ => loopsIn_of sparseref01_Lost_C_ls trivial) (fun x => (sparseref01_Lost_kr m x).trans (by kernel_rfl))
/-! 94 sparse/sparseref02.Up -/
def sparseref02_Up_H : Hints := { regs := [⟨[], [0, 1, 2, 3]⟩, ⟨[(0, 1)], [0, 1, 2, 9]⟩, ⟨[], [0, 1, 2, 9, 10]⟩, ⟨[(0, 1)], [8]⟩, ⟨[], [0, 1, 2, 9, 13]⟩, ⟨[(0, 1)], [8]⟩, ⟨[], [1, 2, 17]⟩, ⟨[], [8]⟩, ⟨[(2, 1), (5, 1), (6, 1)], [8]⟩], heads := [], exits := [(0, [1, 2])], rets := [8], pins := [], spec := [[false]] }
abbrev sparseref02_Up_A : List Sh := [.a (.c .bool), .a (.c (.int .i64)), .a (.c .bool), .a (.c (.int .i64))]
abbrev sparseref02_Up_S : Sh := .a (.c .bool)
abbrev sparseref02_Up_U : List Sh := [.a (.c .dead), .a (.c .dead), .a (.c .dead), .a (.c .dead)]
def sparseref02_Up_R (m : Nat) : ShLVal sparseref02_Up_A → Option (sparseref02_Up_S.Val × ShLVal sparseref02_Up_U) := fun (x : Bool × Int × Bool × Int × Unit) => sparseref02_Up m x.1 x.2.1 x.2.2.1 x.2.2.2.1
def sparseref02_Up_T (m : Nat) : FunT := ⟨94, sparseref02_Up_A, sparseref02_Up_S, sparseref02_Up_U, sparseref02_Up_R m⟩
noncomputable def sparseref02_Up_C : Code := codeOf Tryd.f94
theorem sparseref02_Up_C_ls : loopsL sparseref02_Up_C 0 = [] := by kernel_rfl
theorem sparseref02_Up_kr (m : Nat) (x : ShLVal sparseref02_Up_A) : fnK (mkC (sparseref02_Up_S.Val × ShLVal sparseref02_Up_U) []) (mkLp (sparseref02_Up_S.Val × ShLVal sparseref02_Up_U) []) tt sparseref02_Up_H Tryd.f94 (encS sparseref02_Up_A x) (Kd sparseref02_Up_S sparseref02_Up_U) = sparseref02_Up m x.1 x.2.1 x.2.2.1 x.2.2.2.1 := by kernel_rfl
theorem sparseref02_Up_ok (m : Nat) : FunOK Tryd.prog (sparseref02_Up_T m) :=
  fun_ok hmix htt (sparseref02_Up_T m) Tryd.func94 (c := sparseref02_Up_C) (by kernel_rfl) (by kernel_rfl) (Lc := []) (AllF.mem (l := []) trivial) (L := []) (fun _ hE _ _ => loopsIn_of sparseref02_Up_C_ls trivial) (fun x => (sparseref02_Up_kr m x).trans (by kernel_rfl))
/-! 82 sparse/sparseref02.Cut -/
def sparseref02_Cut_H : Hints := { regs := [⟨[], [0, 2, 3, 4, 6, 10]⟩, ⟨[], [0, 2, 3, 4, 6, 10, 11]⟩, ⟨[], [0, 2, 3, 4, 6, 10, 11, 12]⟩, ⟨[(0, 1), (2, 1)], [0, 2, 3, 4, 6, 10, 11, 27]⟩, ⟨[(0, 1)], [10]⟩, ⟨[], [0, 2, 3, 4, 6, 10, 11, 13]⟩, ⟨[], [0, 2, 3, 4, 6, 10, 11, 13, 30]⟩, ⟨[], [0, 2, 3, 4, 6, 10, 11, 13, 14]⟩, ⟨[(3, 1)], [0, 2, 3, 4, 6, 10, 11, 13, 42]⟩, ⟨[], [0, 2, 3, 4, 6, 10, 11, 13]⟩, ⟨[(0, 1), (1, 1), (3, 1)], [0, 4, 10, 11, 13, 49]⟩, ⟨[], [0, 4, 10, 11, 13]⟩, ⟨[(3, 1)], [0, 4, 10, 11, 13, 15]⟩, ⟨[(0, 1), (1, 1), (2, 1), (3, 1)], [10, 11, 62]⟩, ⟨[], [10, 11]⟩, ⟨[(0, 1)], [10]⟩], heads := [], exits := [], rets := [10], pins := [], spec := [[false, true]] }
abbrev sparseref02_Cut_A : List Sh := [.a (.c .bool), .a (.agg [.bool, (.imm (.int .u32))]), .a (.c (.int .i64)), .a (.c .bool), .a (.c (.int .i64))]
abbrev sparseref02_Cut_S : Sh := .a (.agg [.bool, (.nm 0 (.int .u32))])
abbrev sparseref02_Cut_U : List Sh := [.a (.c .dead), .a (.c .dead), .a (.c .dead), .a (.c .dead), .a (.c .dead)]
def sparseref02_Cut_R (m : Nat) : ShLVal sparseref02_Cut_A → Option (sparseref02_Cut_S.Val × ShLVal sparseref02_Cut_U) := fun (x : Bool × (Bool × List Int × Unit) × Int × Bool × Int × Unit) => sparseref02_Cut m x.1 x.2.1.1 x.2.1.2.1 x.2.2.1 x.2.2.2.1 x.2.2.2.2.1
def sparseref02_Cut_T (m : Nat) : FunT := ⟨82, sparseref02_Cut_A, sparseref02_Cut_S, sparseref02_Cut_U, sparseref02_Cut_R m⟩
noncomputable def sparseref02_Cut_C : Code := codeOf Tryd.f82
theorem sparseref02_Cut_C_ls : loopsL sparseref02_Cut_C 0 = [] := by kernel_rfl
theorem sparseref02_Cut_kr (m : Nat) (x : ShLVal sparseref02_Cut_A) : fnK (mkC (sparseref02_Cut_S.Val × ShLVal sparseref02_Cut_U) [sparseref02_down_T m, sparseref01_Lost_T m, sparseref01_TrailingZeros_T m, sparseref01_Sign_T m, sparseref02_Up_T m, sparseref01_FromInt_T m, sparseref01_Add_T m]) (mkLp (sparseref02_Cut_S.Val × ShLVal sparseref02_Cut_U) []) tt sparseref02_Cut_H Tryd.f82 (encS sparseref02_Cut_A x) (Kd sparseref02_Cut_S sparseref02_Cut_U) = sparseref02_Cut m x.1 x.2.1.1 x.2.1.2.1 x.2.2.1 x.2.2.2.1 x.2.2.2.2.1 := by kernel_rfl
theorem sparseref02_Cut_ok (m : Nat) : FunOK Tryd.prog (sparseref02_Cut_T m) :=
  fun_ok hmix htt (sparseref02_Cut_T m) Tryd.func82 (c := sparseref02_Cut_C) (by kernel_rfl) (by kernel_rfl) (Lc := [sparseref02_down_T m, sparseref01_Lost_T m, sparseref01_TrailingZeros_T m, sparseref01_Sign_T m, sparseref02_Up_T m, sparseref01_FromInt_T m, sparseref01_Add_T m]) (AllF.mem (l := [sparseref02_down_T m, sparseref01_Lost_T m, sparseref01_TrailingZeros_T m, sparseref01_Sign_T m, sparseref02_Up_T m, sparseref01_FromInt_T m, sparseref01_Add_T m]) ⟨sparseref02_down_ok m, sparseref01_Lost_ok m, sparseref01_TrailingZeros_ok m, sparseref01_Sign_ok m, sparseref02_Up_ok m, sparseref01_FromInt_ok m, sparseref01_Add_ok m, trivial⟩) (L := []) (fun _ hE _ _ => loopsIn_of sparseref02_Cut_C_ls trivial) (fun x => (sparseref02_Cut_kr m x).trans (by kernel_rfl))
/-! 84 sparse/sparseref01.Int -/
def sparseref01_Int_H : Hints := { regs := [⟨[], [1]⟩, ⟨[], [1]⟩, ⟨[], [1, 11]⟩, ⟨[], [2, 3]⟩, ⟨[], [1, 4]⟩, ⟨[], [1, 4, 5]⟩, ⟨[], [1, 4, 5, 16]⟩, ⟨[(0, 1)], [1, 4, 5]⟩, ⟨[(0, 1)], [1, 4, 5]⟩, ⟨[], [4, 31]⟩, ⟨[], [4, 33]⟩, ⟨[], [2, 3]⟩, ⟨[(0, 1)], [2, 3]⟩, ⟨[], [4, 40]⟩, ⟨[], [2, 3]⟩, ⟨[(0, 1)], [2, 3]⟩], heads := [(0, [1, 4, 5])], exits := [(0, [1, 4]), (1, [1, 4, 5])], rets := [2, 3], pins := [], spec := [[false], [false]] }
abbrev sparseref01_Int_A : List Sh := [.a (.agg [.bool, (.imm (.int .u32))])]
abbrev sparseref01_Int_S : Sh := .tup [(.c (.int .i64)), (.c .bool)]
abbrev sparseref01_Int_U : List Sh := [.a (.c .dead)]
def sparseref01_Int_R (m : Nat) : ShLVal sparseref01_Int_A → Option (sparseref01_Int_S.Val × ShLVal sparseref01_Int_U) := fun (x : (Bool × List Int × Unit) × Unit) => sparseref01_Int m x.1.1 x.1.2.1
def sparseref01_Int_T (m : Nat) : FunT := ⟨84, sparseref01_Int_A, sparseref01_Int_S, sparseref01_Int_U, sparseref01_Int_R m⟩
noncomputable def sparseref01_Int_C : Code := codeOf Tryd.f84
noncomputable def sparseref01_Int_B0 : Code := loopAt sparseref01_Int_C 0 0
theorem sparseref01_Int_B0_ls : loopsL sparseref01_Int_B0 0 = [] := by kernel_rfl
theorem sparseref01_Int_C_ls : loopsL sparseref01_Int_C 0 = [(0, sparseref01_Int_B0)] := by kernel_rfl
abbrev sparseref01_Int_L0_I : SS := [(1, .a (.bx 0 [.bool, (.nm 1 (.int .u32))])), (4, .a (.c (.int .u64))), (5, .a (.c (.int .i64)))]
abbrev sparseref01_Int_L0_O : List (Ex × SS) := [(.exit 0, [(1, .a (.bx 0 [.bool, (.nm 1 (.int .u32))])), (4, .a (.c (.int .u64)))])]
def sparseref01_Int_L0_R (m n : Nat) : sparseref01_Int_L0_I.Val → Option (outVal sparseref01_Int_L0_O) := (fun (x : (Bool × List Int × Unit) × Int × Int × Unit) => sparseref01_Int_L0 m n x.1.1 x.1.2.1 x.2.1 x.2.2.1)
def sparseref01_Int_L0_T (m n : Nat) : LoopT := ⟨0, sparseref01_Int_L0_I, sparseref01_Int_L0_O, sparseref01_Int_L0_R m n⟩
theorem sparseref01_Int_L0_kr (m n : Nat) (x : sparseref01_Int_L0_I.Val) : roundK (mkC (outVal sparseref01_Int_L0_O) [sparseref01_Norm_T m]) (mkLp (outVal sparseref01_Int_L0_O) []) tt 43 sparseref01_Int_H sparseref01_Int_B0 0 (sparseref01_Int_L0_I.enc x) (Kl (ins := sparseref01_Int_L0_I) (outs := sparseref01_Int_L0_O) (sparseref01_Int_L0_R m n)) = sparseref01_Int_L0 m (n + 1) x.1.1 x.1.2.1 x.2.1 x.2.2.1 := by kernel_rfl
theorem sparseref01_Int_L0_ok {E : Entry} (hE : EOf Tryd.prog E 43 sparseref01_Int_H.pins) (m : Nat) (n : Nat) : LoopOK Tryd.prog E sparseref01_Int_B0 (sparseref01_Int_L0_T m n) :=
  loop_ok (CO := CallOK Tryd.prog) hmix htt (fun _ _ _ _ h => h) hE (C := fun R => mkC R [sparseref01_Norm_T m]) (L := []) (fun _ _ _ _ _ h => mkC_spec (AllF.mem (l := [sparseref01_Norm_T m]) ⟨sparseref01_Norm_ok m, trivial⟩) h) (fun _ _ => loopsIn_of sparseref01_Int_B0_ls trivial) (fun n => (sparseref01_Int_L0_R m n)) (fun _ => by kernel_rfl) (fun n x => (sparseref01_Int_L0_kr m n x).trans (by kernel_rfl)) n
theorem sparseref01_Int_kr (m : Nat) (x : ShLVal sparseref01_Int_A) : fnK (mkC (sparseref01_Int_S.Val × ShLVal sparseref01_Int_U) [sparseref01_Norm_T m]) (mkLp (sparseref01_Int_S.Val × ShLVal sparseref01_Int_U) [sparseref01_Int_L0_T m m]) tt sparseref01_Int_H Tryd.f84 (encS sparseref01_Int_A x) (Kd sparseref01_Int_S sparseref01_Int_U) = sparseref01_Int m x.1.1 x.1.2.1 := by kernel_rfl
theorem sparseref01_Int_ok (m : Nat) : FunOK Tryd.prog (sparseref01_Int_T m) :=
  fun_ok hmix htt (sparseref01_Int_T m) Tryd.func84 (c := sparseref01_Int_C) (by kernel_rfl) (by kernel_rfl) (Lc := [sparseref01_Norm_T m]) (AllF.mem (l := [sparseref01_Norm_T m]) ⟨sparseref01_Norm_ok m, trivial⟩) (L := [sparseref01_Int_L0_T m m]) (fun _ hE _ _ => loopsIn_of sparseref01_Int_C_ls ⟨mkLp_all ⟨fun _ => sparseref01_Int_L0_ok hE m m, trivial⟩, trivial⟩) (fun x => (sparseref01_Int_kr m x).trans (by kernel_rfl))
/-! 68 sparse/sparseref03.rounded -/
def sparseref03_rounded_H : Hints := { regs := [⟨[], [0, 2, 3, 4, 6]⟩, ⟨[], [0, 2, 3, 4, 6, 11]⟩, ⟨[], [0, 2, 3, 4, 6, 11, 22]⟩, ⟨[(0, 1), (1, 1)], [10]⟩, ⟨[(0, 1)], [0, 2, 3, 4, 6, 12]⟩, ⟨[], [0, 2, 3, 4, 6, 12, 13]⟩, ⟨[], [0, 2, 3, 4, 6, 12, 13, 31]⟩, ⟨[(3, 1), (5, 1)], [0, 4, 12, 13]⟩, ⟨[(1, 1)], [0, 4, 12, 13]⟩, ⟨[(2, 1)], [0, 4, 12, 14]⟩, ⟨[], [0, 4, 12, 14, 51]⟩, ⟨[], [0, 4, 12, 14]⟩, ⟨[(0, 1)], [0, 4, 12, 14]⟩, ⟨[(2, 1)], [0, 4, 12, 14, 54]⟩, ⟨[(0, 1), (1, 1)], [10]⟩, ⟨[], [0, 12, 14, 65]⟩, ⟨[(0, 1), (1, 1), (5, 1)], [10]⟩, ⟨[(0, 1), (1, 1)], [10]⟩], heads := [], exits := [(0, [0, 14])], rets := [10], pins := [], spec := [[false]] }
abbrev sparseref03_rounded_A : List Sh := [.a (.c .bool), .a (.agg [.bool, (.imm (.int .u32))]), .a (.c (.int .i64)), .a (.c .bool), .a (.c (.int .i64))]
abbrev sparseref03_rounded_S : Sh := .a (.c (.int .u64))
abbrev sparseref03_rounded_U : List Sh := [.a (.c .dead), .a (.c .dead), .a (.c .dead), .a (.c .dead), .a (.c .dead)]
def sparseref03_rounded_R (m : Nat) : ShLVal sparseref03_rounded_A → Option (sparseref03_rounded_S.Val × ShLVal sparseref03_rounded_U) := fun (x : Bool × (Bool × List Int × Unit) × Int × Bool × Int × Unit) => sparseref03_rounded m x.1 x.2.1.1 x.2.1.2.1 x.2.2.1 x.2.2.2.1 x.2.2.2.2.1
def sparseref03_rounded_T (m : Nat) : FunT := ⟨68, sparseref03_rounded_A, sparseref03_rounded_S, sparseref03_rounded_U, sparseref03_rounded_R m⟩
noncomputable def sparseref03_rounded_C : Code := codeOf Tryd.f68
theorem sparseref03_rounded_C_ls : loopsL sparseref03_rounded_C 0 = [] := by kernel_rfl
theorem sparseref03_rounded_kr (m : Nat) (x : ShLVal sparseref03_rounded_A) : fnK (mkC (sparseref03_rounded_S.Val × ShLVal sparseref03_rounded_U) [sparseref01_BitLen_T m, sparseref03_over_T m, sparseref02_Cut_T m, sparseref01_Int_T m, sparseref03_signed_T m, sparseref01_Shift_T m]) (mkLp (sparseref03_rounded_S.Val × ShLVal sparseref03_rounded_U) []) tt sparseref03_rounded_H Tryd.f68 (encS sparseref03_rounded_A x) (Kd sparseref03_rounded_S sparseref03_rounded_U) = sparseref03_rounded m x.1 x.2.1.1 x.2.1.2.1 x.2.2.1 x.2.2.2.1 x.2.2.2.2.1 := by kernel_rfl
theorem sparseref03_rounded_ok (m : Nat) : FunOK Tryd.prog (sparseref03_rounded_T m) :=
  fun_ok hmix htt (sparseref03_rounded_T m) Tryd.func68 (c := sparseref03_rounded_C) (by kernel_rfl) (by kernel_rfl) (Lc := [sparseref01_BitLen_T m, sparseref03_over_T m, sparseref02_Cut_T m, sparseref01_Int_T m, sparseref03_signed_T m, sparseref01_Shift_T m]) (AllF.mem (l := [sparseref01_BitLen_T m, sparseref03_over_T m, sparseref02_Cut_T m, sparseref01_Int_T m, sparseref03_signed_T m, sparseref01_Shift_T m]) ⟨sparseref01_BitLen_ok m, sparseref03_over_ok m, sparseref02_Cut_ok m, sparseref01_Int_ok m, sparseref03_signed_ok m, sparseref01_Shift_ok m, trivial⟩) (L := []) (fun _ hE _ _ => loopsIn_of sparseref03_rounded_C_ls trivial) (fun x => (sparseref03_rounded_kr m x).trans (by kernel_rfl))
/-! 58 sparse/sparseref03.Round -/
def sparseref03_Round_H : Hints := { regs := [⟨[], [1, 2]⟩, ⟨[], [1, 2]⟩, ⟨[], [1, 2, 8]⟩, ⟨[], [4]⟩, ⟨[], [1, 2, 12]⟩, ⟨[], [4]⟩, ⟨[(8, 1)], [4]⟩], heads := [], exits := [], rets := [4], pins := [], spec := [[false]] }
abbrev sparseref03_Round_A : List Sh := [.a (.agg [.bool, .bool, (.imm (.int .u32)), (.int .i64)]), .a (.c (.int .i64))]
abbrev sparseref03_Round_S : Sh := .a (.c (.int .u64))
abbrev sparseref03_Round_U : List Sh := [.a (.c .dead), .a (.c .dead)]
def sparseref03_Round_R (m : Nat) : ShLVal sparseref03_Round_A → Option (sparseref03_Round_S.Val × ShLVal sparseref03_Round_U) := fun (x : (Bool × Bool × List Int × Int × Unit) × Int × Unit) => sparseref03_Round m x.1.1 x.1.2.1 x.1.2.2.1 x.1.2.2.2.1 x.2.1
def sparseref03_Round_T (m : Nat) : FunT := ⟨58, sparseref03_Round_A, sparseref03_Round_S, sparseref03_Round_U, sparseref03_Round_R m⟩
noncomputable def sparseref03_Round_C : Code := codeOf Tryd.f58
theorem sparseref03_Round_C_ls : loopsL sparseref03_Round_C 0 = [] := by kernel_rfl
theorem sparseref03_Round_kr (m : Nat) (x : ShLVal sparseref03_Round_A) : fnK (mkC (sparseref03_Round_S.Val × ShLVal sparseref03_Round_U) [sparseref02_Norm_T m, sparseref01_Sign_T m, sparseref01_Abs_T m, sparseref03_rounded_T m]) (mkLp (sparseref03_Round_S.Val × ShLVal sparseref03_Round_U) []) tt sparseref03_Round_H Tryd.f58 (encS sparseref03_Round_A x) (Kd sparseref03_Round_S sparseref03_Round_U) = sparseref03_Round m x.1.1 x.1.2.1 x.1.2.2.1 x.1.2.2.2.1 x.2.1 := by kernel_rfl
theorem sparseref03_Round_ok (m : Nat) : FunOK Tryd.prog (sparseref03_Round_T m) :=
  fun_ok hmix htt (sparseref03_Round_T m) Tryd.func58 (c := sparseref03_Round_C) (by kernel_rfl) (by kernel_rfl) (Lc := [sparseref02_Norm_T m, sparseref01_Sign_T m, sparseref01_Abs_T m, sparseref03_rounded_T m]) (AllF.mem (l := [sparseref02_Norm_T m, sparseref01_Sign_T m, sparseref01_Abs_T m, sparseref03_rounded_T m]) ⟨sparseref02_Norm_ok m, sparseref01_Sign_ok m, sparseref01_Abs_ok m, sparseref03_rounded_ok m, trivial⟩) (L := []) (fun _ hE _ _ => loopsIn_of sparseref03_Round_C_ls trivial) (fun x => (sparseref03_Round_kr m x).trans (by kernel_rfl))
/-! 40 sparse/sparsemake.Value -/
def sparsemake_Value_H : Hints := { regs := [⟨[], [0]⟩, ⟨[], [0, 3]⟩, ⟨[], [0, 3, 4]⟩, ⟨[(0, 1)], [3, 4, 5]⟩, ⟨[], [3, 4, 5, 15]⟩, ⟨[(0, 1)], [3, 4]⟩, ⟨[(0, 1), (2, 1)], [2]⟩], heads := [], exits := [], rets := [2], pins := [], spec := [[false]] }
abbrev sparsemake_Value_A : List Sh := [.a (.c (.int .i64))]
abbrev sparsemake_Value_S : Sh := .a (.c (.int .u64))
abbrev sparsemake_Value_U : List Sh := [.a (.c .dead)]
def sparsemake_Value_R (m : Nat) : ShLVal sparsemake_Value_A → Option (sparsemake_Value_S.Val × ShLVal sparsemake_Value_U) := fun (x : Int × Unit) => sparsemake_Value m x.1
def sparsemake_Value_T (m : Nat) : FunT := ⟨40, sparsemake_Value_A, sparsemake_Value_S, sparsemake_Value_U, sparsemake_Value_R m⟩
noncomputable def sparsemake_Value_C : Code := codeOf Tryd.f40
theorem sparsemake_Value_C_ls : loopsL sparsemake_Value_C 0 = [] := by kernel_rfl
theorem sparsemake_Value_kr (m : Nat) (x : ShLVal sparsemake_Value_A) : fnK (mkC (sparsemake_Value_S.Val × ShLVal sparsemake_Value_U) [sparsekit_Place_T m, sparseref02_FromInt_T m, sparseref02_Scale_T m, sparseref03_Round_T m]) (mkLp (sparsemake_Value_S.Val × ShLVal sparsemake_Value_U) []) tt sparsemake_Value_H Tryd.f40 (encS sparsemake_Value_A x) (Kd sparsemake_Value_S sparsemake_Value_U) = sparsemake_Value m x.1 := by kernel_rfl
theorem sparsemake_Value_ok (m : Nat) : FunOK Tryd.prog (sparsemake_Value_T m) :=
  fun_ok hmix htt (sparsemake_Value_T m) Tryd.func40 (c := sparsemake_Value_C) (by kernel_rfl) (by kernel_rfl) (Lc := [sparsekit_Place_T m, sparseref02_FromInt_T m, sparseref02_Scale_T m, sparseref03_Round_T m]) (AllF.mem (l := [sparsekit_Place_T m, sparseref02_FromInt_T m, sparseref02_Scale_T m, sparseref03_Round_T m]) ⟨sparsekit_Place_ok m, sparseref02_FromInt_ok m, sparseref02_Scale_ok m, sparseref03_Round_ok m, trivial⟩) (L := []) (fun _ hE _ _ => loopsIn_of sparsemake_Value_C_ls trivial) (fun x => (sparsemake_Value_kr m x).trans (by kernel_rfl))
/-! 22 sparse/sparseref09.Pack -/
def sparseref09_Pack_H : Hints := { regs := [⟨[], [0, 1, 2, 6]⟩, ⟨[], [0, 1, 2, 6, 7]⟩, ⟨[], [0, 1, 2, 6, 7, 8]⟩, ⟨[], [0, 1, 2, 6, 7, 8, 9]⟩, ⟨[], [0, 1, 2, 6, 7, 8, 9, 24]⟩, ⟨[(0, 1)], [0, 1, 2, 6, 7, 8, 9]⟩, ⟨[], [0, 1, 2, 6, 7, 8, 9]⟩, ⟨[], [0, 1, 2, 6, 7, 8, 10]⟩, ⟨[], [0, 1, 2, 6, 7, 8, 10, 46]⟩, ⟨[(0, 1)], [0, 1, 2, 6, 7, 8, 10]⟩, ⟨[], [0, 1, 2, 6, 7, 8, 10, 11]⟩, ⟨[], [0, 1, 2, 6, 7, 8, 10, 11, 51]⟩, ⟨[(0, 1)], [0, 1, 2, 6, 7, 8, 10, 11]⟩, ⟨[], [0, 1, 2, 6, 7, 8, 10, 11, 12]⟩, ⟨[], [0, 1, 2, 6, 7, 8, 10, 11, 12, 63]⟩, ⟨[(1, 1)], [0, 1, 2, 6, 7, 8, 10, 11, 12]⟩, ⟨[(3, 1), (9, 3)], [0, 1, 2, 6, 7, 8, 10, 11]⟩, ⟨[(1, 1)], [0, 1, 2, 6, 7, 8, 10]⟩, ⟨[(0, 1)], [6]⟩], heads := [(0, [0, 1, 2, 6, 7, 8, 9]), (2, [0, 1, 2, 6, 7, 8, 10]), (4, [0, 1, 2, 6, 7, 8, 10, 11])], exits := [(0, [0, 1, 2, 6, 7, 8]), (1, [0, 1, 2, 6, 7, 8, 9]), (2, [6, 7]), (3, [0, 1, 2, 6, 7, 8, 10]), (4, [0, 1, 2, 6, 7, 8, 10]), (5, [0, 1, 2, 6, 7, 8, 10, 11])], rets := [6], pins := [], spec := [[false, false, true, true, true]] }
abbrev sparseref09_Pack_A : List Sh := [.a (.c (.int .i64)), .a (.c (.int .i64)), .a (.c (.imm (.pr (.int .i64) (.pr (.int .i64) (.int .u64)))))]
abbrev sparseref09_Pack_S : Sh := .a (.agg [(.int .i64), (.int .i64), (.nm 0 (.int .i64)), (.nm 1 (.int .i64)), (.nm 2 (.int .u64))])
abbrev sparseref09_Pack_U : List Sh := [.a (.c .dead), .a (.c .dead), .a (.c .dead)]
def sparseref09_Pack_R (m : Nat) : ShLVal sparseref09_Pack_A → Option (sparseref09_Pack_S.Val × ShLVal sparseref09_Pack_U) := fun (x : Int × Int × (List (Int × Int × Int)) × Unit) => sparseref09_Pack m x.1 x.2.1 x.2.2.1
def sparseref09_Pack_T (m : Nat) : FunT := ⟨22, sparseref09_Pack_A, sparseref09_Pack_S, sparseref09_Pack_U, sparseref09_Pack_R m⟩
noncomputable def sparseref09_Pack_C : Code := codeOf Tryd.f22
noncomputable def sparseref09_Pack_B0 : Code := loopAt sparseref09_Pack_C 0 0
theorem sparseref09_Pack_B0_ls : loopsL sparseref09_Pack_B0 0 = [] := by kernel_rfl
noncomputable def sparseref09_Pack_B2 : Code := loopAt sparseref09_Pack_C 0 1
noncomputable def sparseref09_Pack_B4 : Code := loopAt sparseref09_Pack_B2 2 0
theorem sparseref09_Pack_B4_ls : loopsL sparseref09_Pack_B4 4 = [] := by kernel_rfl
theorem sparseref09_Pack_B2_ls : loopsL sparseref09_Pack_B2 2 = [(4, sparseref09_Pack_B4)] := by kernel_rfl
theorem sparseref09_Pack_C_ls : loopsL sparseref09_Pack_C 0 = [(0, sparseref09_Pack_B0), (2, sparseref09_Pack_B2)] := by kernel_rfl
abbrev sparseref09_Pack_L2_I : SS := [(0, .a (.c (.int .i64))), (1, .a (.c (.int .i64))), (2, .a (.c (.imm (.pr (.int .i64) (.pr (.int .i64) (.int .u64)))))), (6, .a (.bx 0 [(.int .i64), (.int .i64), (.nm 1 (.int .i64)), (.nm 2 (.int .i64)), (.nm 3 (.int .u64))])), (7, .a (.bx 4 [(.int .i64), (.int .i64), (.nm 5 (.int .i64)), (.nm 6 (.int .i64)), (.nm 7 (.int .u64))])), (8, .a (.c (.nm 8 (.int .i64)))), (10, .a (.c (.int .i64))), (11, .a (.c (.int .i64)))]
abbrev sparseref09_Pack_L2_O : List (Ex × SS) := [(.exit 4, [(0, .a (.c (.int .i64))), (1, .a (.c (.int .i64))), (2, .a (.c (.imm (.pr (.int .i64) (.pr (.int .i64) (.int .u64)))))), (6, .a (.bx 0 [(.int .i64), (.int .i64), (.nm 1 (.int .i64)), (.nm 2 (.int .i64)), (.nm 3 (.int .u64))])), (7, .a (.bx 4 [(.int .i64), (.int .i64), (.nm 5 (.int .i64)), (.nm 6 (.int .i64)), (.nm 7 (.int .u64))])), (8, .a (.c (.nm 8 (.int .i64)))), (10, .a (.c (.int .i64)))])]
def sparseref09_Pack_L2_R (m n : Nat) : sparseref09_Pack_L2_I.Val → Option (outVal sparseref09_Pack_L2_O) := (fun (x : Int × Int × (List (Int × Int × Int)) × (Int × Int × List Int × List Int × List Int × Unit) × (Int × Int × List Int × List Int × List Int × Unit) × List Int × Int × Int × Unit) => sparseref09_Pack_L2 m n x.1 x.2.1 x.2.2.1 x.2.2.2.1.1 x.2.2.2.1.2.1 x.2.2.2.1.2.2.1 x.2.2.2.1.2.2.2.1 x.2.2.2.1.2.2.2.2.1 x.2.2.2.2.1.1 x.2.2.2.2.1.2.1 x.2.2.2.2.1.2.2.1 x.2.2.2.2.1.2.2.2.1 x.2.2.2.2.1.2.2.2.2.1 x.2.2.2.2.2.1 x.2.2.2.2.2.2.1 x.2.2.2.2.2.2.2.1)
def sparseref09_Pack_L2_T (m n : Nat) : LoopT := ⟨4, sparseref09_Pack_L2_I, sparseref09_Pack_L2_O, sparseref09_Pack_L2_R m n⟩
theorem sparseref09_Pack_L2_kr (m n : Nat) (x : sparseref09_Pack_L2_I.Val) : roundK (mkC (outVal sparseref09_Pack_L2_O) []) (mkLp (outVal sparseref09_Pack_L2_O) []) tt 90 sparseref09_Pack_H sparseref09_Pack_B4 4 (sparseref09_Pack_L2_I.enc x) (Kl (ins := sparseref09_Pack_L2_I) (outs := sparseref09_Pack_L2_O) (sparseref09_Pack_L2_R m n)) = sparseref09_Pack_L2 m (n + 1) x.1 x.2.1 x.2.2.1 x.2.2.2.1.1 x.2.2.2.1.2.1 x.2.2.2.1.2.2.1 x.2.2.2.1.2.2.2.1 x.2.2.2.1.2.2.2.2.1 x.2.2.2.2.1.1 x.2.2.2.2.1.2.1 x.2.2.2.2.1.2.2.1 x.2.2.2.2.1.2.2.2.1 x.2.2.2.2.1.2.2.2.2.1 x.2.2.2.2.2.1 x.2.2.2.2.2.2.1 x.2.2.2.2.2.2.2.1 := by kernel_rfl
theorem sparseref09_Pack_L2_ok {E : Entry} (hE : EOf Tryd.prog E 90 sparseref09_Pack_H.pins) (m : Nat) (n : Nat) : LoopOK Tryd.prog E sparseref09_Pack_B4 (sparseref09_Pack_L2_T m n) :=
  loop_ok (CO := CallOK Tryd.prog) hmix htt (fun _ _ _ _ h => h) hE (C := fun R => mkC R []) (L := []) (fun _ _ _ _ _ h => mkC_spec (AllF.mem (l := []) trivial) h) (fun _ _ => loopsIn_of sparseref09_Pack_B4_ls trivial) (fun n => (sparseref09_Pack_L2_R m n)) (fun _ => by kernel_rfl) (fun n x => (sparseref09_Pack_L2_kr m n x).trans (by kernel_rfl)) n
abbrev sparseref09_Pack_L1_I : SS := [(0, .a (.c (.int .i64))), (1, .a (.c (.int .i64))), (2, .a (.c (.imm (.pr (.int .i64) (.pr (.int .i64) (.int .u64)))))), (6, .a (.bx 0 [(.int .i64), (.int .i64), (.nm 1 (.int .i64)), (.nm 2 (.int .i64)), (.nm 3 (.int .u64))])), (7, .a (.bx 4 [(.int .i64), (.int .i64), (.nm 5 (.int .i64)), (.nm 6 (.int .i64)), (.nm 7 (.int .u64))])), (8, .a (.c (.nm 8 (.int .i64)))), (10, .a (.c (.int .i64)))]
abbrev sparseref09_Pack_L1_O : List (Ex × SS) := [(.exit 2, [(6, .a (.bx 0 [(.int .i64), (.int .i64), (.nm 1 (.int .i64)), (.nm 2 (.int .i64)), (.nm 3 (.int .u64))])), (7, .a (.bx 4 [(.int .i64), (.int .i64), (.nm 5 (.int .i64)), (.nm 6 (.int .i64)), (.nm 7 (.int .u64))]))])]
def sparseref09_Pack_L1_R (m n : Nat) : sparseref09_Pack_L1_I.Val → Option (outVal sparseref09_Pack_L1_O) := (fun (x : Int × Int × (List (Int × Int × Int)) × (Int × Int × List Int × List Int × List Int × Unit) × (Int × Int × List Int × List Int × List Int × Unit) × List Int × Int × Unit) => sparseref09_Pack_L1 m n x.1 x.2.1 x.2.2.1 x.2.2.2.1.1 x.2.2.2.1.2.1 x.2.2.2.1.2.2.1 x.2.2.2.1.2.2.2.1 x.2.2.2.1.2.2.2.2.1 x.2.2.2.2.1.1 x.2.2.2.2.1.2.1 x.2.2.2.2.1.2.2.1 x.2.2.2.2.1.2.2.2.1 x.2.2.2.2.1.2.2.2.2.1 x.2.2.2.2.2.1 x.2.2.2.2.2.2.1)
def sparseref09_Pack_L1_T (m n : Nat) : LoopT := ⟨2, sparseref09_Pack_L1_I, sparseref09_Pack_L1_O, sparseref09_Pack_L1_R m n⟩
theorem sparseref09_Pack_L1_kr (m n : Nat) (x : sparseref09_Pack_L1_I.Val) : roundK (mkC (outVal sparseref09_Pack_L1_O) []) (mkLp (outVal sparseref09_Pack_L1_O) [sparseref09_Pack_L2_T m m]) tt 90 sparseref09_Pack_H sparseref09_Pack_B2 2 (sparseref09_Pack_L1_I.enc x) (Kl (ins := sparseref09_Pack_L1_I) (outs := sparseref09_Pack_L1_O) (sparseref09_Pack_L1_R m n)) = sparseref09_Pack_L1 m (n + 1) x.1 x.2.1 x.2.2.1 x.2.2.2.1.1 x.2.2.2.1.2.1 x.2.2.2.1.2.2.1 x.2.2.2.1.2.2.2.1 x.2.2.2.1.2.2.2.2.1 x.2.2.2.2.1.1 x.2.2.2.2.1.2.1 x.2.2.2.2.1.2.2.1 x.2.2.2.2.1.2.2.2.1 x.2.2.2.2.1.2.2.2.2.1 x.2.2.2.2.2.1 x.2.2.2.2.2.2.1 := by kernel_rfl
theorem sparseref09_Pack_L1_ok {E : Entry} (hE : EOf Tryd.prog E 90 sparseref09_Pack_H.pins) (m : Nat) (n : Nat) : LoopOK Tryd.prog E sparseref09_Pack_B2 (sparseref09_Pack_L1_T m n) :=
  loop_ok (CO := CallOK Tryd.prog) hmix htt (fun _ _ _ _ h => h) hE (C := fun R => mkC R []) (L := [sparseref09_Pack_L2_T m m]) (fun _ _ _ _ _ h => mkC_spec (AllF.mem (l := []) trivial) h) (fun _ _ => loopsIn_of sparseref09_Pack_B2_ls ⟨mkLp_all ⟨fun _ => sparseref09_Pack_L2_ok hE m m, trivial⟩, trivial⟩) (fun n => (sparseref09_Pack_L1_R m n)) (fun _ => by kernel_rfl) (fun n x => (sparseref09_Pack_L1_kr m n x).trans (by kernel_rfl)) n
abbrev sparseref09_Pack_L0_I : SS := [(0, .a (.c (.int .i64))), (1, .a (.c (.int .i64))), (2, .a (.c (.imm (.pr (.int .i64) (.pr (.int .i64) (.int .u64)))))), (6, .a (.bx 0 [(.int .i64), (.int .i64), (.nm 1 (.int .i64)), (.nm 2 (.int .i64)), (.nm 3 (.int .u64))])), (7, .a (.bx 4 [(.int .i64), (.int .i64), (.nm 5 (.int .i64)), (.nm 6 (.int .i64)), (.nm 7 (.int .u64))])), (8, .a (.c (.nm 8 (.int .i64)))), (9, .a (.c (.int .i64)))]
abbrev sparseref09_Pack_L0_O : List (Ex × SS) := [(.exit 0, [(0, .a (.c (.int .i64))), (1, .a (.c (.int .i64))), (2, .a (.c (.imm (.pr (.int .i64) (.pr (.int .i64) (.int .u64)))))), (6, .a (.bx 0 [(.int .i64), (.int .i64), (.nm 1 (.int .i64)), (.nm 2 (.int .i64)), (.nm 3 (.int .u64))])), (7, .a (.bx 4 [(.int .i64), (.int .i64), (.nm 5 (.int .i64)), (.nm 6 (.int .i64)), (.nm 7 (.int .u64))])), (8, .a (.c (.nm 8 (.int .i64))))])]
def sparseref09_Pack_L0_R (m n : Nat) : sparseref09_Pack_L0_I.Val → Option (outVal sparseref09_Pack_L0_O) := (fun (x : Int × Int × (List (Int × Int × Int)) × (Int × Int × List Int × List Int × List Int × Unit) × (Int × Int × List Int × List Int × List Int × Unit) × List Int × Int × Unit) => sparseref09_Pack_L0 m n x.1 x.2.1 x.2.2.1 x.2.2.2.1.1 x.2.2.2.1.2.1 x.2.2.2.1.2.2.1 x.2.2.2.1.2.2.2.1 x.2.2.2.1.2.2.2.2.1 x.2.2.2.2.1.1 x.2.2.2.2.1.2.1 x.2.2.2.2.1.2.2.1 x.2.2.2.2.1.2.2.2.1 x.2.2.2.2.1.2.2.2.2.1 x.2.2.2.2.2.1 x.2.2.2.2.2.2.1)
def sparseref09_Pack_L0_T (m n : Nat) : LoopT := ⟨0, sparseref09_Pack_L0_I, sparseref09_Pack_L0_O, sparseref09_Pack_L0_R m n⟩
theorem sparseref09_Pack_L0_kr (m n : Nat) (x : sparseref09_Pack_L0_I.Val) : roundK (mkC (outVal sparseref09_Pack_L0_O) []) (mkLp (outVal sparseref09_Pack_L0_O) []) tt 90 sparseref09_Pack_H sparseref09_Pack_B0 0 (sparseref09_Pack_L0_I.enc x) (Kl (ins := sparseref09_Pack_L0_I) (outs := sparseref09_Pack_L0_O) (sparseref09_Pack_L0_R m n)) = sparseref09_Pack_L0 m (n + 1) x.1 x.2.1 x.2.2.1 x.2.2.2.1.1 x.2.2.2.1.2.1 x.2.2.2.1.2.2.1 x.2.2.2.1.2.2.2.1 x.2.2.2.1.2.2.2.2.1 x.2.2.2.2.1.1 x.2.2.2.2.1.2.1 x.2.2.2.2.1.2.2.1 x.2.2.2.2.1.2.2.2.1 x.2.2.2.2.1.2.2.2.2.1 x.2.2.2.2.2.1 x.2.2.2.2.2.2.1 := by kernel_rfl
theorem sparseref09_Pack_L0_ok {E : Entry} (hE : EOf Tryd.prog E 90 sparseref09_Pack_H.pins) (m : Nat) (n : Nat) : LoopOK Tryd.prog E sparseref09_Pack_B0 (sparseref09_Pack_L0_T m n) :=
  loop_ok (CO := CallOK Tryd.prog) hmix htt (fun _ _ _ _ h => h) hE (C := fun R => mkC R []) (L := []) (fun _ _ _ _ _ h => mkC_spec (AllF.mem (l := []) trivial) h) (fun _ _ => loopsIn_of sparseref09_Pack_B0_ls trivial) (fun n => (sparseref09_Pack_L0_R m n)) (fun _ => by kernel_rfl) (fun n x => (sparseref09_Pack_L0_kr m n x).trans (by kernel_rfl)) n
theorem sparseref09_Pack_kr (m : Nat) (x : ShLVal sparseref09_Pack_A) : fnK (mkC (sparseref09_Pack_S.Val × ShLVal sparseref09_Pack_U) []) (mkLp (sparseref09_Pack_S.Val × ShLVal sparseref09_Pack_U) [sparseref09_Pack_L0_T m m, sparseref09_Pack_L1_T m m]) tt sparseref09_Pack_H Tryd.f22 (encS sparseref09_Pack_A x) (Kd sparseref09_Pack_S sparseref09_Pack_U) = sparseref09_Pack m x.1 x.2.1 x.2.2.1 := by kernel_rfl
theorem sparseref09_Pack_ok (m : Nat) : FunOK Tryd.prog (sparseref09_Pack_T m) :=
  fun_ok hmix htt (sparseref09_Pack_T m) Tryd.func22 (c := sparseref09_Pack_C) (by kernel_rfl) (by kernel_rfl) (Lc := []) (AllF.mem (l := []) trivial) (L := [sparseref09_Pack_L0_T m m, sparseref09_Pack_L1_T m m]) (fun _ hE _ _ => loopsIn_of sparseref09_Pack_C_ls ⟨mkLp_all ⟨fun _ => sparseref09_Pack_L0_ok hE m m, fun h => absurd (show (2 : Nat) = 0 from h) (by decide), trivial⟩, mkLp_all ⟨fun h => absurd (show (0 : Nat) = 2 from h) (by decide), fun _ => sparseref09_Pack_L1_ok hE m m, trivial⟩, trivial⟩) (fun x => (sparseref09_Pack_kr m x).trans (by kernel_rfl))
/-! 28 sparse/sparsemake.Matrix -/
def sparsemake_Matrix_H : Hints := { regs := [⟨[], [0, 1, 2, 6]⟩, ⟨[], [0, 1, 2, 6, 7]⟩, ⟨[], [0, 1, 2, 6, 7, 8]⟩, ⟨[(5, 1), (9, 1)], [0, 1, 2, 6, 7, 8, 21]⟩, ⟨[(0, 1)], [0, 1, 2, 6, 7, 8]⟩, ⟨[(0, 1)], [0, 1, 2, 6, 7, 8]⟩, ⟨[(0, 1), (1, 1), (2, 1)], [6]⟩], heads := [(0, [0, 1, 2, 6, 7, 8])], exits := [(0, [0, 1, 6, 7]), (1, [0, 1, 2, 6, 7, 8])], rets := [6], pins := [], spec := [[false, false, true, true, true]] }
abbrev sparsemake_Matrix_A : List Sh := [.a (.c (.int .i64)), .a (.c (.int .i64)), .a (.c (.imm (.int .i64)))]
abbrev sparsemake_Matrix_S : Sh := .a (.agg [(.int .i64), (.int .i64), (.nm 0 (.int .i64)), (.nm 1 (.int .i64)), (.nm 2 (.int .u64))])
abbrev sparsemake_Matrix_U : List Sh := [.a (.c .dead), .a (.c .dead), .a (.c .dead)]
def sparsemake_Matrix_R (m : Nat) : ShLVal sparsemake_Matrix_A → Option (sparsemake_Matrix_S.Val × ShLVal sparsemake_Matrix_U) := fun (x : Int × Int × List Int × Unit) => sparsemake_Matrix m x.1 x.2.1 x.2.2.1
def sparsemake_Matrix_T (m : Nat) : FunT := ⟨28, sparsemake_Matrix_A, sparsemake_Matrix_S, sparsemake_Matrix_U, sparsemake_Matrix_R m⟩
noncomputable def sparsemake_Matrix_C : Code := codeOf Tryd.f28
noncomputable def sparsemake_Matrix_B0 : Code := loopAt sparsemake_Matrix_C 0 0
theorem sparsemake_Matrix_B0_ls : loopsL sparsemake_Matrix_B0 0 = [] := by kernel_rfl
theorem sparsemake_Matrix_C_ls : loopsL sparsemake_Matrix_C 0 = [(0, sparsemake_Matrix_B0)] := by kernel_rfl
abbrev sparsemake_Matrix_L0_I : SS := [(0, .a (.c (.int .i64))), (1, .a (.c (.int .i64))), (2, .a (.c (.imm (.int .i64)))), (6, .a (.bx 0 [(.int .i64), (.int .i64), (.nm 1 (.int .i64)), (.nm 2 (.int .i64)), (.nm 3 (.int .u64))])), (7, .a (.c (.nm 4 (.pr (.int .i64) (.pr (.int .i64) (.int .u64)))))), (8, .a (.c (.int .i64)))]
abbrev sparsemake_Matrix_L0_O : List (Ex × SS) := [(.exit 0, [(0, .a (.c (.int .i64))), (1, .a (.c (.int .i64))), (6, .a (.bx 0 [(.int .i64), (.int .i64), (.nm 1 (.int .i64)), (.nm 2 (.int .i64)), (.nm 3 (.int .u64))])), (7, .a (.c (.nm 4 (.pr (.int .i64) (.pr (.int .i64) (.int .u64))))))])]
def sparsemake_Matrix_L0_R (m n : Nat) : sparsemake_Matrix_L0_I.Val → Option (outVal sparsemake_Matrix_L0_O) := (fun (x : Int × Int × List Int × (Int × Int × List Int × List Int × List Int × Unit) × (List (Int × Int × Int)) × Int × Unit) => sparsemake_Matrix_L0 m n x.1 x.2.1 x.2.2.1 x.2.2.2.1.1 x.2.2.2.1.2.1 x.2.2.2.1.2.2.1 x.2.2.2.1.2.2.2.1 x.2.2.2.1.2.2.2.2.1 x.2.2.2.2.1 x.2.2.2.2.2.1)
def sparsemake_Matrix_L0_T (m n : Nat) : LoopT := ⟨0, sparsemake_Matrix_L0_I, sparsemake_Matrix_L0_O, sparsemake_Matrix_L0_R m n⟩
theorem sparsemake_Matrix_L0_kr (m n : Nat) (x : sparsemake_Matrix_L0_I.Val) : roundK (mkC (outVal sparsemake_Matrix_L0_O) [sparsekit_Place_T m, sparsemake_Value_T m, sparseref09_Pack_T m]) (mkLp (outVal sparsemake_Matrix_L0_O) []) tt 51 sparsemake_Matrix_H sparsemake_Matrix_B0 0 (sparsemake_Matrix_L0_I.enc x) (Kl (ins := sparsemake_Matrix_L0_I) (outs := sparsemake_Matrix_L0_O) (sparsemake_Matrix_L0_R m n)) = sparsemake_Matrix_L0 m (n + 1) x.1 x.2.1 x.2.2.1 x.2.2.2.1.1 x.2.2.2.1.2.1 x.2.2.2.1.2.2.1 x.2.2.2.1.2.2.2.1 x.2.2.2.1.2.2.2.2.1 x.2.2.2.2.1 x.2.2.2.2.2.1 := by kernel_rfl
theorem sparsemake_Matrix_L0_ok {E : Entry} (hE : EOf Tryd.prog E 51 sparsemake_Matrix_H.pins) (m : Nat) (n : Nat) : LoopOK Tryd.prog E sparsemake_Matrix_B0 (sparsemake_Matrix_L0_T m n) :=
  loop_ok (CO := CallOK Tryd.prog) hmix htt (fun _ _ _ _ h => h) hE (C := fun R => mkC R [sparsekit_Place_T m, sparsemake_Value_T m, sparseref09_Pack_T m]) (L := []) (fun _ _ _ _ _ h => mkC_spec (AllF.mem (l := [sparsekit_Place_T m, sparsemake_Value_T m, sparseref09_Pack_T m]) ⟨sparsekit_Place_ok m, sparsemake_Value_ok m, sparseref09_Pack_ok m, trivial⟩) h) (fun _ _ => loopsIn_of sparsemake_Matrix_B0_ls trivial) (fun n => (sparsemake_Matrix_L0_R m n)) (fun _ => by kernel_rfl) (fun n x => (sparsemake_Matrix_L0_kr m n x).trans (by kernel_rfl)) n
theorem sparsemake_Matrix_kr (m : Nat) (x : ShLVal sparsemake_Matrix_A) : fnK (mkC (sparsemake_Matrix_S.Val × ShLVal sparsemake_Matrix_U) [sparsekit_Place_T m, sparsemake_Value_T m, sparseref09_Pack_T m]) (mkLp (sparsemake_Matrix_S.Val × ShLVal sparsemake_Matrix_U) [sparsemake_Matrix_L0_T m m]) tt sparsemake_Matrix_H Tryd.f28 (encS sparsemake_Matrix_A x) (Kd sparsemake_Matrix_S sparsemake_Matrix_U) = sparsemake_Matrix m x.1 x.2.1 x.2.2.1 := by kernel_rfl
theorem sparsemake_Matrix_ok (m : Nat) : FunOK Tryd.prog (sparsemake_Matrix_T m) :=
  fun_ok hmix htt (sparsemake_Matrix_T m) Tryd.func28 (c := sparsemake_Matrix_C) (by kernel_rfl) (by kernel_rfl) (Lc := [sparsekit_Place_T m, sparsemake_Value_T m, sparseref09_Pack_T m]) (AllF.mem (l := [sparsekit_Place_T m, sparsemake_Value_T m, sparseref09_Pack_T m]) ⟨sparsekit_Place_ok m, sparsemake_Value_ok m, sparseref09_Pack_ok m, trivial⟩) (L := [sparsemake_Matrix_L0_T m m]) (fun _ hE _ _ => loopsIn_of sparsemake_Matrix_C_ls ⟨mkLp_all ⟨fun _ => sparsemake_Matrix_L0_ok hE m m, trivial⟩, trivial⟩) (fun x => (sparsemake_Matrix_kr m x).trans (by kernel_rfl))
/-! 10 sparse/sparselaw13.made -/
def sparselaw13_made_H : Hints := { regs := [⟨[], [0, 1, 2, 6]⟩, ⟨[(0, 1), (2, 1), (4, 1)], [6]⟩], heads := [], exits := [], rets := [6], pins := [], spec := [[false, false, true, true, true]] }
abbrev sparselaw13_made_A : List Sh := [.a (.c (.int .i64)), .a (.c (.int .i64)), .a (.c (.imm (.int .i64)))]
abbrev sparselaw13_made_S : Sh := .a (.agg [(.int .i64), (.int .i64), (.nm 0 (.int .i64)), (.nm 1 (.int .i64)), (.nm 2 (.int .u64))])
abbrev sparselaw13_made_U : List Sh := [.a (.c .dead), .a (.c .dead), .a (.c .dead)]
def sparselaw13_made_R (m : Nat) : ShLVal sparselaw13_made_A → Option (sparselaw13_made_S.Val × ShLVal sparselaw13_made_U) := fun (x : Int × Int × List Int × Unit) => sparselaw13_made m x.1 x.2.1 x.2.2.1
def sparselaw13_made_T (m : Nat) : FunT := ⟨10, sparselaw13_made_A, sparselaw13_made_S, sparselaw13_made_U, sparselaw13_made_R m⟩
noncomputable def sparselaw13_made_C : Code := codeOf Tryd.f10
theorem sparselaw13_made_C_ls : loopsL sparselaw13_made_C 0 = [] := by kernel_rfl
theorem sparselaw13_made_kr (m : Nat) (x : ShLVal sparselaw13_made_A) : fnK (mkC (sparselaw13_made_S.Val × ShLVal sparselaw13_made_U) [sparsekit_Place_T m, sparsemake_Matrix_T m]) (mkLp (sparselaw13_made_S.Val × ShLVal sparselaw13_made_U) []) tt sparselaw13_made_H Tryd.f10 (encS sparselaw13_made_A x) (Kd sparselaw13_made_S sparselaw13_made_U) = sparselaw13_made m x.1 x.2.1 x.2.2.1 := by kernel_rfl
theorem sparselaw13_made_ok (m : Nat) : FunOK Tryd.prog (sparselaw13_made_T m) :=
  fun_ok hmix htt (sparselaw13_made_T m) Tryd.func10 (c := sparselaw13_made_C) (by kernel_rfl) (by kernel_rfl) (Lc := [sparsekit_Place_T m, sparsemake_Matrix_T m]) (AllF.mem (l := [sparsekit_Place_T m, sparsemake_Matrix_T m]) ⟨sparsekit_Place_ok m, sparsemake_Matrix_ok m, trivial⟩) (L := []) (fun _ hE _ _ => loopsIn_of sparselaw13_made_C_ls trivial) (fun x => (sparselaw13_made_kr m x).trans (by kernel_rfl))
end Go.Vs.F
