/- The plain functions are what the code does (by program: gen.py). -/
import Derived.Test.YtkpillimphadkaaGreatDoorFn
import Derived.Test.YtkpillimphadkaaGreatDoorVc
import Derived.Test.YtkpillimphadkaaGreatDoorProg
import Derived.KernelRfl

/-! TzOk1 -/
set_option linter.unusedVariables false
set_option maxRecDepth 100000
namespace Go.Vs.F
open Go.Proofs
def tt : TT := [none, none, none, some ⟨(.int .i64), [.int .i64]⟩, some ⟨.bool, [.bool]⟩, some ⟨(.int .u8), [.int .u8]⟩, none, none, none, some ⟨.string, [.other]⟩, none, none, none, none, none, none, none, none, none, none, none, none, some ⟨(.slice 3 (.int .i64)), [.nil (.int .i64)]⟩, none, none, some ⟨(.slice 44 (.int .u64)), [.nil (.int .u64)]⟩, none, some ⟨(.struct [(0, 1), (1, 1), (2, 1), (3, 1), (4, 1)]), [.int .i64, .int .i64, .nil (.int .i64), .nil (.int .i64), .nil (.int .u64)]⟩, none, none, some ⟨(.struct [(0, 1), (1, 1), (2, 1)]), [.nil (.int .i64), .nil (.int .i64), .nil (.int .i64)]⟩, none, none, none, none, none, none, none, none, none, some ⟨(.slice 46 (.pr (.int .i64) (.pr (.int .i64) (.int .u64)))), [.nil (.pr (.int .i64) (.pr (.int .i64) (.int .u64)))]⟩, none, none, some ⟨(.int .u64), [.int .u64]⟩, some ⟨(.int .u64), [.int .u64]⟩, none, some ⟨(.struct [(0, 1), (1, 1), (2, 1)]), [.int .i64, .int .i64, .int .u64]⟩, none, none, none, none, none, none, some ⟨(.int .u64), [.int .u64]⟩, none, none, none, none, none, none, some ⟨(.slice 85 (.sl false (.pr (.int .i64) (.int .i64)))), [.nil (.sl false (.pr (.int .i64) (.int .i64)))]⟩, none, none, none, none, some ⟨(.struct [(0, 1), (1, 1), (2, 1), (3, 1), (4, 1)]), [.nil (.sl false (.pr (.int .i64) (.int .i64))), .nil (.int .i64), .nil (.int .i64), .nil (.int .i64), .nil (.int .i64)]⟩, none, none, some ⟨(.slice 4 .bool), [.nil .bool]⟩, some ⟨(.slice 22 (.sl false (.int .i64))), [.nil (.sl false (.int .i64))]⟩, none, some ⟨(.struct [(0, 1), (1, 1), (2, 1), (3, 1)]), [.nil (.sl false (.int .i64)), .nil (.int .i64), .nil (.int .i64), .nil .bool]⟩, none, none, none, none, none, some ⟨(.slice 107 (.int .u32)), [.nil (.int .u32)]⟩, none, some ⟨(.struct [(0, 1), (1, 1)]), [.bool, .nil (.int .u32)]⟩, none, some ⟨(.struct [(0, 1), (1, 2), (3, 1)]), [.bool, .bool, .nil (.int .u32), .int .i64]⟩, none, none, none, some ⟨(.slice 87 (.pr (.int .i64) (.int .i64))), [.nil (.pr (.int .i64) (.int .i64))]⟩, none, some ⟨(.struct [(0, 1), (1, 1)]), [.int .i64, .int .i64]⟩, none, none, none, none, none, none, none, none, none, none, none, none, none, none, none, none, none, none, none, some ⟨(.int .u32), [.int .u32]⟩, none, none, none, none, none, none, none, none, none, none, none, none, none, none, none, none, none, none, none, none, none, none, none, none, some ⟨(.tab 0 .u8 [0, 1, 28, 2, 29, 14, 24, 3, 30, 22, 20, 15, 25, 17, 4, 8, 31, 27, 13, 23, 21, 19, 16, 7, 26, 12, 18, 6, 11, 5, 10, 9]), [.other, .other, .other, .other, .other, .other, .other, .other, .other, .other, .other, .other, .other, .other, .other, .other, .other, .other, .other, .other, .other, .other, .other, .other, .other, .other, .other, .other, .other, .other, .other, .other]⟩]
theorem htt : TTok Tryz.prog tt := ttChk_spec (by kernel_rfl)
theorem hmix : Tryz.prog.follows .mixedOrders = true := by kernel_rfl
/-! 44 sparse/matrix.within -/
def matrix_within_H : Hints := { regs := [⟨[], [0, 1, 2]⟩, ⟨[(1, 1), (3, 1), (5, 1)], [6]⟩], heads := [], exits := [], rets := [6], pins := [], spec := [[false]] }
abbrev matrix_within_A : List Sh := [.a (.c (.int .i64)), .a (.c (.int .i64)), .a (.c (.int .i64))]
abbrev matrix_within_S : Sh := .a (.c .bool)
abbrev matrix_within_U : List Sh := [.a (.c .dead), .a (.c .dead), .a (.c .dead)]
def matrix_within_R (m : Nat) : ShLVal matrix_within_A → Option (matrix_within_S.Val × ShLVal matrix_within_U) := fun (x : Int × Int × Int × Unit) => matrix_within m x.1 x.2.1 x.2.2.1
def matrix_within_T (m : Nat) : FunT := ⟨44, matrix_within_A, matrix_within_S, matrix_within_U, matrix_within_R m⟩
noncomputable def matrix_within_C : Code := codeOf Tryz.f44
theorem matrix_within_C_ls : loopsL matrix_within_C 0 = [] := by kernel_rfl
theorem matrix_within_kr (m : Nat) (x : ShLVal matrix_within_A) : fnK (mkC (matrix_within_S.Val × ShLVal matrix_within_U) []) (mkLp (matrix_within_S.Val × ShLVal matrix_within_U) []) tt matrix_within_H Tryz.f44 (encS matrix_within_A x) (Kd matrix_within_S matrix_within_U) = matrix_within m x.1 x.2.1 x.2.2.1 := by kernel_rfl
theorem matrix_within_ok (m : Nat) : FunOK Tryz.prog (matrix_within_T m) :=
  fun_ok hmix htt (matrix_within_T m) Tryz.func44 (c := matrix_within_C) (by kernel_rfl) (by kernel_rfl) (Lc := []) (AllF.mem (l := []) trivial) (L := []) (fun _ hE _ _ => loopsIn_of matrix_within_C_ls trivial) (fun x => (matrix_within_kr m x).trans (by kernel_rfl))
/-! 105 cmp.isNaN_int_ -/
def cmp_isNaN_H : Hints := { regs := [⟨[], [0]⟩, ⟨[], [2]⟩], heads := [], exits := [], rets := [2], pins := [], spec := [[false]] }
abbrev cmp_isNaN_A : List Sh := [.a (.c (.int .i64))]
abbrev cmp_isNaN_S : Sh := .a (.c .bool)
abbrev cmp_isNaN_U : List Sh := [.a (.c .dead)]
def cmp_isNaN_R (m : Nat) : ShLVal cmp_isNaN_A → Option (cmp_isNaN_S.Val × ShLVal cmp_isNaN_U) := fun (x : Int × Unit) => cmp_isNaN m x.1
def cmp_isNaN_T (m : Nat) : FunT := ⟨105, cmp_isNaN_A, cmp_isNaN_S, cmp_isNaN_U, cmp_isNaN_R m⟩
noncomputable def cmp_isNaN_C : Code := codeOf Tryz.f105
theorem cmp_isNaN_C_ls : loopsL cmp_isNaN_C 0 = [] := by kernel_rfl
theorem cmp_isNaN_kr (m : Nat) (x : ShLVal cmp_isNaN_A) : fnK (mkC (cmp_isNaN_S.Val × ShLVal cmp_isNaN_U) []) (mkLp (cmp_isNaN_S.Val × ShLVal cmp_isNaN_U) []) tt cmp_isNaN_H Tryz.f105 (encS cmp_isNaN_A x) (Kd cmp_isNaN_S cmp_isNaN_U) = cmp_isNaN m x.1 := by kernel_rfl
theorem cmp_isNaN_ok (m : Nat) : FunOK Tryz.prog (cmp_isNaN_T m) :=
  fun_ok hmix htt (cmp_isNaN_T m) Tryz.func105 (c := cmp_isNaN_C) (by kernel_rfl) (by kernel_rfl) (Lc := []) (AllF.mem (l := []) trivial) (L := []) (fun _ hE _ _ => loopsIn_of cmp_isNaN_C_ls trivial) (fun x => (cmp_isNaN_kr m x).trans (by kernel_rfl))
/-! 89 cmp.Less_int_ -/
def cmp_Less_H : Hints := { regs := [⟨[], [0, 1]⟩, ⟨[(2, 1), (7, 1)], [4]⟩], heads := [], exits := [], rets := [4], pins := [], spec := [[false]] }
abbrev cmp_Less_A : List Sh := [.a (.c (.int .i64)), .a (.c (.int .i64))]
abbrev cmp_Less_S : Sh := .a (.c .bool)
abbrev cmp_Less_U : List Sh := [.a (.c .dead), .a (.c .dead)]
def cmp_Less_R (m : Nat) : ShLVal cmp_Less_A → Option (cmp_Less_S.Val × ShLVal cmp_Less_U) := fun (x : Int × Int × Unit) => cmp_Less m x.1 x.2.1
def cmp_Less_T (m : Nat) : FunT := ⟨89, cmp_Less_A, cmp_Less_S, cmp_Less_U, cmp_Less_R m⟩
noncomputable def cmp_Less_C : Code := codeOf Tryz.f89
theorem cmp_Less_C_ls : loopsL cmp_Less_C 0 = [] := by kernel_rfl
theorem cmp_Less_kr (m : Nat) (x : ShLVal cmp_Less_A) : fnK (mkC (cmp_Less_S.Val × ShLVal cmp_Less_U) [cmp_isNaN_T m]) (mkLp (cmp_Less_S.Val × ShLVal cmp_Less_U) []) tt cmp_Less_H Tryz.f89 (encS cmp_Less_A x) (Kd cmp_Less_S cmp_Less_U) = cmp_Less m x.1 x.2.1 := by kernel_rfl
theorem cmp_Less_ok (m : Nat) : FunOK Tryz.prog (cmp_Less_T m) :=
  fun_ok hmix htt (cmp_Less_T m) Tryz.func89 (c := cmp_Less_C) (by kernel_rfl) (by kernel_rfl) (Lc := [cmp_isNaN_T m]) (AllF.mem (l := [cmp_isNaN_T m]) ⟨cmp_isNaN_ok m, trivial⟩) (L := []) (fun _ hE _ _ => loopsIn_of cmp_Less_C_ls trivial) (fun x => (cmp_Less_kr m x).trans (by kernel_rfl))
/-! 68 slices.IsSorted___int_int_ -/
def slices_IsSorted_H : Hints := { regs := [⟨[], [0]⟩, ⟨[], [0, 3]⟩, ⟨[], [0, 3, 8]⟩, ⟨[(0, 1)], [0, 3]⟩, ⟨[], [0, 3, 20]⟩, ⟨[], [2]⟩, ⟨[], [2]⟩], heads := [(0, [0, 3])], exits := [(0, []), (1, [0, 3])], rets := [2], pins := [], spec := [[false]] }
abbrev slices_IsSorted_A : List Sh := [.a (.c (.imm (.int .i64)))]
abbrev slices_IsSorted_S : Sh := .a (.c .bool)
abbrev slices_IsSorted_U : List Sh := [.a (.c .dead)]
def slices_IsSorted_R (m : Nat) : ShLVal slices_IsSorted_A → Option (slices_IsSorted_S.Val × ShLVal slices_IsSorted_U) := fun (x : List Int × Unit) => slices_IsSorted m x.1
def slices_IsSorted_T (m : Nat) : FunT := ⟨68, slices_IsSorted_A, slices_IsSorted_S, slices_IsSorted_U, slices_IsSorted_R m⟩
noncomputable def slices_IsSorted_C : Code := codeOf Tryz.f68
noncomputable def slices_IsSorted_B0 : Code := loopAt slices_IsSorted_C 0 0
theorem slices_IsSorted_B0_ls : loopsL slices_IsSorted_B0 0 = [] := by kernel_rfl
theorem slices_IsSorted_C_ls : loopsL slices_IsSorted_C 0 = [(0, slices_IsSorted_B0)] := by kernel_rfl
abbrev slices_IsSorted_L0_I : SS := [(0, .a (.c (.imm (.int .i64)))), (3, .a (.c (.int .i64)))]
abbrev slices_IsSorted_L0_O : List (Ex × SS) := [(.ret, [(2, .a (.c .bool))]), (.exit 0, [])]
def slices_IsSorted_L0_R (m n : Nat) : slices_IsSorted_L0_I.Val → Option (outVal slices_IsSorted_L0_O) := (fun (x : List Int × Int × Unit) => slices_IsSorted_L0 m n x.1 x.2.1)
def slices_IsSorted_L0_T (m n : Nat) : LoopT := ⟨0, slices_IsSorted_L0_I, slices_IsSorted_L0_O, slices_IsSorted_L0_R m n⟩
theorem slices_IsSorted_L0_kr (m n : Nat) (x : slices_IsSorted_L0_I.Val) : roundK (mkC (outVal slices_IsSorted_L0_O) [cmp_Less_T m]) (mkLp (outVal slices_IsSorted_L0_O) []) tt 21 slices_IsSorted_H slices_IsSorted_B0 0 (slices_IsSorted_L0_I.enc x) (Kl (ins := slices_IsSorted_L0_I) (outs := slices_IsSorted_L0_O) (slices_IsSorted_L0_R m n)) = slices_IsSorted_L0 m (n + 1) x.1 x.2.1 := by kernel_rfl
theorem slices_IsSorted_L0_ok {E : Entry} (hE : EOf Tryz.prog E 21 slices_IsSorted_H.pins) (m : Nat) (n : Nat) : LoopOK Tryz.prog E slices_IsSorted_B0 (slices_IsSorted_L0_T m n) :=
  loop_ok (CO := CallOK Tryz.prog) hmix htt (fun _ _ _ _ h => h) hE (C := fun R => mkC R [cmp_Less_T m]) (L := []) (fun _ _ _ _ _ h => mkC_spec (AllF.mem (l := [cmp_Less_T m]) ⟨cmp_Less_ok m, trivial⟩) h) (fun _ _ => loopsIn_of slices_IsSorted_B0_ls trivial) (fun n => (slices_IsSorted_L0_R m n)) (fun _ => by kernel_rfl) (fun n x => (slices_IsSorted_L0_kr m n x).trans (by kernel_rfl)) n
theorem slices_IsSorted_kr (m : Nat) (x : ShLVal slices_IsSorted_A) : fnK (mkC (slices_IsSorted_S.Val × ShLVal slices_IsSorted_U) [cmp_Less_T m]) (mkLp (slices_IsSorted_S.Val × ShLVal slices_IsSorted_U) [slices_IsSorted_L0_T m m]) tt slices_IsSorted_H Tryz.f68 (encS slices_IsSorted_A x) (Kd slices_IsSorted_S slices_IsSorted_U) = slices_IsSorted m x.1 := by kernel_rfl
theorem slices_IsSorted_ok (m : Nat) : FunOK Tryz.prog (slices_IsSorted_T m) :=
  fun_ok hmix htt (slices_IsSorted_T m) Tryz.func68 (c := slices_IsSorted_C) (by kernel_rfl) (by kernel_rfl) (Lc := [cmp_Less_T m]) (AllF.mem (l := [cmp_Less_T m]) ⟨cmp_Less_ok m, trivial⟩) (L := [slices_IsSorted_L0_T m m]) (fun _ hE _ _ => loopsIn_of slices_IsSorted_C_ls ⟨mkLp_all ⟨fun _ => slices_IsSorted_L0_ok hE m m, trivial⟩, trivial⟩) (fun x => (slices_IsSorted_kr m x).trans (by kernel_rfl))
/-! 45 sparse/matrix.columns -/
def matrix_columns_H : Hints := { regs := [⟨[], [1]⟩, ⟨[(7, 1), (14, 1), (20, 1), (32, 1)], [1, 47]⟩, ⟨[], [2]⟩, ⟨[], [1, 49, 50]⟩, ⟨[], [1, 49, 50, 51]⟩, ⟨[], [1, 3, 49, 50]⟩, ⟨[], [1, 3, 4, 49, 50]⟩, ⟨[], [1, 4, 49, 50, 66, 67, 68]⟩, ⟨[], [1, 4, 49, 50, 66, 67, 68, 69]⟩, ⟨[], [1, 4, 6, 49, 50, 66, 67, 68]⟩, ⟨[(1, 1), (3, 1)], [1, 6, 49, 50, 66, 67, 68, 80]⟩, ⟨[], [2]⟩, ⟨[(0, 1)], [1, 4, 49, 50, 66, 67, 68]⟩, ⟨[(1, 1)], [1, 4, 49, 50, 66, 67, 68]⟩, ⟨[(1, 1)], [1, 49, 50]⟩, ⟨[], [2]⟩], heads := [(0, [1, 49, 50]), (2, [1, 4, 49, 50, 66, 67, 68])], exits := [(0, []), (1, [1, 49, 50]), (2, [1, 49, 50]), (3, [1, 4, 49, 50, 66, 67, 68])], rets := [2], pins := [], spec := [[false]] }
abbrev matrix_columns_A : List Sh := [.a (.agg [(.int .i64), (.int .i64), (.imm (.int .i64)), (.imm (.int .i64)), (.imm (.int .u64))])]
abbrev matrix_columns_S : Sh := .a (.c .bool)
abbrev matrix_columns_U : List Sh := [.a (.c .dead)]
def matrix_columns_R (m : Nat) : ShLVal matrix_columns_A → Option (matrix_columns_S.Val × ShLVal matrix_columns_U) := fun (x : (Int × Int × List Int × List Int × List Int × Unit) × Unit) => matrix_columns m x.1.1 x.1.2.1 x.1.2.2.1 x.1.2.2.2.1 x.1.2.2.2.2.1
def matrix_columns_T (m : Nat) : FunT := ⟨45, matrix_columns_A, matrix_columns_S, matrix_columns_U, matrix_columns_R m⟩
noncomputable def matrix_columns_C : Code := codeOf Tryz.f45
noncomputable def matrix_columns_B0 : Code := loopAt matrix_columns_C 0 0
noncomputable def matrix_columns_B2 : Code := loopAt matrix_columns_B0 0 0
theorem matrix_columns_B2_ls : loopsL matrix_columns_B2 2 = [] := by kernel_rfl
theorem matrix_columns_B0_ls : loopsL matrix_columns_B0 0 = [(2, matrix_columns_B2)] := by kernel_rfl
theorem matrix_columns_C_ls : loopsL matrix_columns_C 0 = [(0, matrix_columns_B0)] := by kernel_rfl
abbrev matrix_columns_L1_I : SS := [(1, .a (.bx 0 [(.int .i64), (.int .i64), (.imm (.int .i64)), (.imm (.int .i64)), (.imm (.int .u64))])), (4, .a (.c (.int .i64))), (49, .a (.c (.int .i64))), (50, .a (.c (.int .i64))), (66, .a (.c (.imm (.int .i64)))), (67, .a (.c (.int .i64))), (68, .a (.c (.int .i64)))]
abbrev matrix_columns_L1_O : List (Ex × SS) := [(.ret, [(2, .a (.c .bool))]), (.exit 2, [(1, .a (.bx 0 [(.int .i64), (.int .i64), (.imm (.int .i64)), (.imm (.int .i64)), (.imm (.int .u64))])), (49, .a (.c (.int .i64))), (50, .a (.c (.int .i64)))])]
def matrix_columns_L1_R (m n : Nat) : matrix_columns_L1_I.Val → Option (outVal matrix_columns_L1_O) := (fun (x : (Int × Int × List Int × List Int × List Int × Unit) × Int × Int × Int × List Int × Int × Int × Unit) => matrix_columns_L1 m n x.1.1 x.1.2.1 x.1.2.2.1 x.1.2.2.2.1 x.1.2.2.2.2.1 x.2.1 x.2.2.1 x.2.2.2.1 x.2.2.2.2.1 x.2.2.2.2.2.1 x.2.2.2.2.2.2.1)
def matrix_columns_L1_T (m n : Nat) : LoopT := ⟨2, matrix_columns_L1_I, matrix_columns_L1_O, matrix_columns_L1_R m n⟩
theorem matrix_columns_L1_kr (m n : Nat) (x : matrix_columns_L1_I.Val) : roundK (mkC (outVal matrix_columns_L1_O) [slices_IsSorted_T m]) (mkLp (outVal matrix_columns_L1_O) []) tt 84 matrix_columns_H matrix_columns_B2 2 (matrix_columns_L1_I.enc x) (Kl (ins := matrix_columns_L1_I) (outs := matrix_columns_L1_O) (matrix_columns_L1_R m n)) = matrix_columns_L1 m (n + 1) x.1.1 x.1.2.1 x.1.2.2.1 x.1.2.2.2.1 x.1.2.2.2.2.1 x.2.1 x.2.2.1 x.2.2.2.1 x.2.2.2.2.1 x.2.2.2.2.2.1 x.2.2.2.2.2.2.1 := by kernel_rfl
theorem matrix_columns_L1_ok {E : Entry} (hE : EOf Tryz.prog E 84 matrix_columns_H.pins) (m : Nat) (n : Nat) : LoopOK Tryz.prog E matrix_columns_B2 (matrix_columns_L1_T m n) :=
  loop_ok (CO := CallOK Tryz.prog) hmix htt (fun _ _ _ _ h => h) hE (C := fun R => mkC R [slices_IsSorted_T m]) (L := []) (fun _ _ _ _ _ h => mkC_spec (AllF.mem (l := [slices_IsSorted_T m]) ⟨slices_IsSorted_ok m, trivial⟩) h) (fun _ _ => loopsIn_of matrix_columns_B2_ls trivial) (fun n => (matrix_columns_L1_R m n)) (fun _ => by kernel_rfl) (fun n x => (matrix_columns_L1_kr m n x).trans (by kernel_rfl)) n
abbrev matrix_columns_L0_I : SS := [(1, .a (.bx 0 [(.int .i64), (.int .i64), (.imm (.int .i64)), (.imm (.int .i64)), (.imm (.int .u64))])), (49, .a (.c (.int .i64))), (50, .a (.c (.int .i64)))]
abbrev matrix_columns_L0_O : List (Ex × SS) := [(.ret, [(2, .a (.c .bool))]), (.exit 0, [])]
def matrix_columns_L0_R (m n : Nat) : matrix_columns_L0_I.Val → Option (outVal matrix_columns_L0_O) := (fun (x : (Int × Int × List Int × List Int × List Int × Unit) × Int × Int × Unit) => matrix_columns_L0 m n x.1.1 x.1.2.1 x.1.2.2.1 x.1.2.2.2.1 x.1.2.2.2.2.1 x.2.1 x.2.2.1)
def matrix_columns_L0_T (m n : Nat) : LoopT := ⟨0, matrix_columns_L0_I, matrix_columns_L0_O, matrix_columns_L0_R m n⟩
theorem matrix_columns_L0_kr (m n : Nat) (x : matrix_columns_L0_I.Val) : roundK (mkC (outVal matrix_columns_L0_O) [slices_IsSorted_T m]) (mkLp (outVal matrix_columns_L0_O) [matrix_columns_L1_T m m]) tt 84 matrix_columns_H matrix_columns_B0 0 (matrix_columns_L0_I.enc x) (Kl (ins := matrix_columns_L0_I) (outs := matrix_columns_L0_O) (matrix_columns_L0_R m n)) = matrix_columns_L0 m (n + 1) x.1.1 x.1.2.1 x.1.2.2.1 x.1.2.2.2.1 x.1.2.2.2.2.1 x.2.1 x.2.2.1 := by kernel_rfl
theorem matrix_columns_L0_ok {E : Entry} (hE : EOf Tryz.prog E 84 matrix_columns_H.pins) (m : Nat) (n : Nat) : LoopOK Tryz.prog E matrix_columns_B0 (matrix_columns_L0_T m n) :=
  loop_ok (CO := CallOK Tryz.prog) hmix htt (fun _ _ _ _ h => h) hE (C := fun R => mkC R [slices_IsSorted_T m]) (L := [matrix_columns_L1_T m m]) (fun _ _ _ _ _ h => mkC_spec (AllF.mem (l := [slices_IsSorted_T m]) ⟨slices_IsSorted_ok m, trivial⟩) h) (fun _ _ => loopsIn_of matrix_columns_B0_ls ⟨mkLp_all ⟨fun _ => matrix_columns_L1_ok hE m m, trivial⟩, trivial⟩) (fun n => (matrix_columns_L0_R m n)) (fun _ => by kernel_rfl) (fun n x => (matrix_columns_L0_kr m n x).trans (by kernel_rfl)) n
theorem matrix_columns_kr (m : Nat) (x : ShLVal matrix_columns_A) : fnK (mkC (matrix_columns_S.Val × ShLVal matrix_columns_U) [slices_IsSorted_T m]) (mkLp (matrix_columns_S.Val × ShLVal matrix_columns_U) [matrix_columns_L0_T m m]) tt matrix_columns_H Tryz.f45 (encS matrix_columns_A x) (Kd matrix_columns_S matrix_columns_U) = matrix_columns m x.1.1 x.1.2.1 x.1.2.2.1 x.1.2.2.2.1 x.1.2.2.2.2.1 := by kernel_rfl
theorem matrix_columns_ok (m : Nat) : FunOK Tryz.prog (matrix_columns_T m) :=
  fun_ok hmix htt (matrix_columns_T m) Tryz.func45 (c := matrix_columns_C) (by kernel_rfl) (by kernel_rfl) (Lc := [slices_IsSorted_T m]) (AllF.mem (l := [slices_IsSorted_T m]) ⟨slices_IsSorted_ok m, trivial⟩) (L := [matrix_columns_L0_T m m]) (fun _ hE _ _ => loopsIn_of matrix_columns_C_ls ⟨mkLp_all ⟨fun _ => matrix_columns_L0_ok hE m m, trivial⟩, trivial⟩) (fun x => (matrix_columns_kr m x).trans (by kernel_rfl))
/-! 70 sparse/float.parts -/
def float_parts_H : Hints := { regs := [⟨[], [0]⟩, ⟨[], [2, 3]⟩], heads := [], exits := [], rets := [2, 3], pins := [], spec := [[false], [false]] }
abbrev float_parts_A : List Sh := [.a (.c (.int .u64))]
abbrev float_parts_S : Sh := .tup [(.c (.int .i64)), (.c (.int .u64))]
abbrev float_parts_U : List Sh := [.a (.c .dead)]
def float_parts_R (m : Nat) : ShLVal float_parts_A → Option (float_parts_S.Val × ShLVal float_parts_U) := fun (x : Int × Unit) => float_parts m x.1
def float_parts_T (m : Nat) : FunT := ⟨70, float_parts_A, float_parts_S, float_parts_U, float_parts_R m⟩
noncomputable def float_parts_C : Code := codeOf Tryz.f70
theorem float_parts_C_ls : loopsL float_parts_C 0 = [] := by kernel_rfl
theorem float_parts_kr (m : Nat) (x : ShLVal float_parts_A) : fnK (mkC (float_parts_S.Val × ShLVal float_parts_U) []) (mkLp (float_parts_S.Val × ShLVal float_parts_U) []) tt float_parts_H Tryz.f70 (encS float_parts_A x) (Kd float_parts_S float_parts_U) = float_parts m x.1 := by kernel_rfl
theorem float_parts_ok (m : Nat) : FunOK Tryz.prog (float_parts_T m) :=
  fun_ok hmix htt (float_parts_T m) Tryz.func70 (c := float_parts_C) (by kernel_rfl) (by kernel_rfl) (Lc := []) (AllF.mem (l := []) trivial) (L := []) (fun _ hE _ _ => loopsIn_of float_parts_C_ls trivial) (fun x => (float_parts_kr m x).trans (by kernel_rfl))
/-! 48 sparse/float.IsFinite -/
def float_IsFinite_H : Hints := { regs := [⟨[], [0]⟩, ⟨[(0, 1), (2, 1)], [3]⟩, ⟨[(0, 1)], [2]⟩], heads := [], exits := [], rets := [2], pins := [], spec := [[false]] }
abbrev float_IsFinite_A : List Sh := [.a (.c (.int .u64))]
abbrev float_IsFinite_S : Sh := .a (.c .bool)
abbrev float_IsFinite_U : List Sh := [.a (.c .dead)]
def float_IsFinite_R (m : Nat) : ShLVal float_IsFinite_A → Option (float_IsFinite_S.Val × ShLVal float_IsFinite_U) := fun (x : Int × Unit) => float_IsFinite m x.1
def float_IsFinite_T (m : Nat) : FunT := ⟨48, float_IsFinite_A, float_IsFinite_S, float_IsFinite_U, float_IsFinite_R m⟩
noncomputable def float_IsFinite_C : Code := codeOf Tryz.f48
theorem float_IsFinite_C_ls : loopsL float_IsFinite_C 0 = [] := by kernel_rfl
theorem float_IsFinite_kr (m : Nat) (x : ShLVal float_IsFinite_A) : fnK (mkC (float_IsFinite_S.Val × ShLVal float_IsFinite_U) [float_parts_T m]) (mkLp (float_IsFinite_S.Val × ShLVal float_IsFinite_U) []) tt float_IsFinite_H Tryz.f48 (encS float_IsFinite_A x) (Kd float_IsFinite_S float_IsFinite_U) = float_IsFinite m x.1 := by kernel_rfl
theorem float_IsFinite_ok (m : Nat) : FunOK Tryz.prog (float_IsFinite_T m) :=
  fun_ok hmix htt (float_IsFinite_T m) Tryz.func48 (c := float_IsFinite_C) (by kernel_rfl) (by kernel_rfl) (Lc := [float_parts_T m]) (AllF.mem (l := [float_parts_T m]) ⟨float_parts_ok m, trivial⟩) (L := []) (fun _ hE _ _ => loopsIn_of float_IsFinite_C_ls trivial) (fun x => (float_IsFinite_kr m x).trans (by kernel_rfl))
/-! 47 sparse/matrix.Check_1 -/
def matrix_Check_1_H : Hints := { regs := [⟨[], [0]⟩, ⟨[(0, 1)], [2]⟩], heads := [], exits := [], rets := [2], pins := [], spec := [[false]] }
abbrev matrix_Check_1_A : List Sh := [.a (.c (.int .u64))]
abbrev matrix_Check_1_S : Sh := .a (.c .bool)
abbrev matrix_Check_1_U : List Sh := [.a (.c .dead)]
def matrix_Check_1_R (m : Nat) : ShLVal matrix_Check_1_A → Option (matrix_Check_1_S.Val × ShLVal matrix_Check_1_U) := fun (x : Int × Unit) => matrix_Check_1 m x.1
def matrix_Check_1_T (m : Nat) : FunT := ⟨47, matrix_Check_1_A, matrix_Check_1_S, matrix_Check_1_U, matrix_Check_1_R m⟩
noncomputable def matrix_Check_1_C : Code := codeOf Tryz.f47
theorem matrix_Check_1_C_ls : loopsL matrix_Check_1_C 0 = [] := by kernel_rfl
theorem matrix_Check_1_kr (m : Nat) (x : ShLVal matrix_Check_1_A) : fnK (mkC (matrix_Check_1_S.Val × ShLVal matrix_Check_1_U) [float_IsFinite_T m]) (mkLp (matrix_Check_1_S.Val × ShLVal matrix_Check_1_U) []) tt matrix_Check_1_H Tryz.f47 (encS matrix_Check_1_A x) (Kd matrix_Check_1_S matrix_Check_1_U) = matrix_Check_1 m x.1 := by kernel_rfl
theorem matrix_Check_1_ok (m : Nat) : FunOK Tryz.prog (matrix_Check_1_T m) :=
  fun_ok hmix htt (matrix_Check_1_T m) Tryz.func47 (c := matrix_Check_1_C) (by kernel_rfl) (by kernel_rfl) (Lc := [float_IsFinite_T m]) (AllF.mem (l := [float_IsFinite_T m]) ⟨float_IsFinite_ok m, trivial⟩) (L := []) (fun _ hE _ _ => loopsIn_of matrix_Check_1_C_ls trivial) (fun x => (matrix_Check_1_kr m x).trans (by kernel_rfl))
/-! 69 slices.IndexFunc___sparse/api.Float_sparse/api.Float_ -/
def slices_IndexFunc_H : Hints := { regs := [⟨[], [0, 1]⟩, ⟨[], [0, 1, 7, 8]⟩, ⟨[], [0, 1, 7, 8, 9]⟩, ⟨[], [0, 1, 5, 7, 8]⟩, ⟨[], [0, 1, 5, 7, 8, 16]⟩, ⟨[(0, 1)], [4]⟩, ⟨[(1, 1)], [0, 1, 7, 8]⟩, ⟨[], [4]⟩], heads := [(0, [0, 1, 7, 8])], exits := [(0, []), (1, [0, 1, 7, 8])], rets := [4], pins := [], spec := [[false]] }
abbrev slices_IndexFunc_A : List Sh := [.a (.c (.imm (.int .u64))), .a (.c (.fn 47))]
abbrev slices_IndexFunc_S : Sh := .a (.c (.int .i64))
abbrev slices_IndexFunc_U : List Sh := [.a (.c .dead), .a (.c .dead)]
def slices_IndexFunc_R (m : Nat) : ShLVal slices_IndexFunc_A → Option (slices_IndexFunc_S.Val × ShLVal slices_IndexFunc_U) := fun (x : List Int × Unit × Unit) => slices_IndexFunc m x.1
def slices_IndexFunc_T (m : Nat) : FunT := ⟨69, slices_IndexFunc_A, slices_IndexFunc_S, slices_IndexFunc_U, slices_IndexFunc_R m⟩
noncomputable def slices_IndexFunc_C : Code := codeOf Tryz.f69
noncomputable def slices_IndexFunc_B0 : Code := loopAt slices_IndexFunc_C 0 0
theorem slices_IndexFunc_B0_ls : loopsL slices_IndexFunc_B0 0 = [] := by kernel_rfl
theorem slices_IndexFunc_C_ls : loopsL slices_IndexFunc_C 0 = [(0, slices_IndexFunc_B0)] := by kernel_rfl
abbrev slices_IndexFunc_L0_I : SS := [(0, .a (.c (.imm (.int .u64)))), (1, .a (.c (.fn 47))), (7, .a (.c (.int .i64))), (8, .a (.c (.int .i64)))]
abbrev slices_IndexFunc_L0_O : List (Ex × SS) := [(.ret, [(4, .a (.c (.int .i64)))]), (.exit 0, [])]
def slices_IndexFunc_L0_R (m n : Nat) : slices_IndexFunc_L0_I.Val → Option (outVal slices_IndexFunc_L0_O) := (fun (x : List Int × Unit × Int × Int × Unit) => slices_IndexFunc_L0 m n x.1 x.2.2.1 x.2.2.2.1)
def slices_IndexFunc_L0_T (m n : Nat) : LoopT := ⟨0, slices_IndexFunc_L0_I, slices_IndexFunc_L0_O, slices_IndexFunc_L0_R m n⟩
theorem slices_IndexFunc_L0_kr (m n : Nat) (x : slices_IndexFunc_L0_I.Val) : roundK (mkC (outVal slices_IndexFunc_L0_O) [matrix_Check_1_T m]) (mkLp (outVal slices_IndexFunc_L0_O) []) tt 19 slices_IndexFunc_H slices_IndexFunc_B0 0 (slices_IndexFunc_L0_I.enc x) (Kl (ins := slices_IndexFunc_L0_I) (outs := slices_IndexFunc_L0_O) (slices_IndexFunc_L0_R m n)) = slices_IndexFunc_L0 m (n + 1) x.1 x.2.2.1 x.2.2.2.1 := by kernel_rfl
theorem slices_IndexFunc_L0_ok {E : Entry} (hE : EOf Tryz.prog E 19 slices_IndexFunc_H.pins) (m : Nat) (n : Nat) : LoopOK Tryz.prog E slices_IndexFunc_B0 (slices_IndexFunc_L0_T m n) :=
  loop_ok (CO := CallOK Tryz.prog) hmix htt (fun _ _ _ _ h => h) hE (C := fun R => mkC R [matrix_Check_1_T m]) (L := []) (fun _ _ _ _ _ h => mkC_spec (AllF.mem (l := [matrix_Check_1_T m]) ⟨matrix_Check_1_ok m, trivial⟩) h) (fun _ _ => loopsIn_of slices_IndexFunc_B0_ls trivial) (fun n => (slices_IndexFunc_L0_R m n)) (fun _ => by kernel_rfl) (fun n x => (slices_IndexFunc_L0_kr m n x).trans (by kernel_rfl)) n
theorem slices_IndexFunc_kr (m : Nat) (x : ShLVal slices_IndexFunc_A) : fnK (mkC (slices_IndexFunc_S.Val × ShLVal slices_IndexFunc_U) [matrix_Check_1_T m]) (mkLp (slices_IndexFunc_S.Val × ShLVal slices_IndexFunc_U) [slices_IndexFunc_L0_T m m]) tt slices_IndexFunc_H Tryz.f69 (encS slices_IndexFunc_A x) (Kd slices_IndexFunc_S slices_IndexFunc_U) = slices_IndexFunc m x.1 := by kernel_rfl
theorem slices_IndexFunc_ok (m : Nat) : FunOK Tryz.prog (slices_IndexFunc_T m) :=
  fun_ok hmix htt (slices_IndexFunc_T m) Tryz.func69 (c := slices_IndexFunc_C) (by kernel_rfl) (by kernel_rfl) (Lc := [matrix_Check_1_T m]) (AllF.mem (l := [matrix_Check_1_T m]) ⟨matrix_Check_1_ok m, trivial⟩) (L := [slices_IndexFunc_L0_T m m]) (fun _ hE _ _ => loopsIn_of slices_IndexFunc_C_ls ⟨mkLp_all ⟨fun _ => slices_IndexFunc_L0_ok hE m m, trivial⟩, trivial⟩) (fun x => (slices_IndexFunc_kr m x).trans (by kernel_rfl))
/-! 46 slices.ContainsFunc___sparse/api.Float_sparse/api.Float_ -/
def slices_ContainsFunc_H : Hints := { regs := [⟨[], [0, 1]⟩, ⟨[(0, 1), (1, 1)], [4]⟩], heads := [], exits := [], rets := [4], pins := [], spec := [[false]] }
abbrev slices_ContainsFunc_A : List Sh := [.a (.c (.imm (.int .u64))), .a (.c (.fn 47))]
abbrev slices_ContainsFunc_S : Sh := .a (.c .bool)
abbrev slices_ContainsFunc_U : List Sh := [.a (.c .dead), .a (.c .dead)]
def slices_ContainsFunc_R (m : Nat) : ShLVal slices_ContainsFunc_A → Option (slices_ContainsFunc_S.Val × ShLVal slices_ContainsFunc_U) := fun (x : List Int × Unit × Unit) => slices_ContainsFunc m x.1
def slices_ContainsFunc_T (m : Nat) : FunT := ⟨46, slices_ContainsFunc_A, slices_ContainsFunc_S, slices_ContainsFunc_U, slices_ContainsFunc_R m⟩
noncomputable def slices_ContainsFunc_C : Code := codeOf Tryz.f46
theorem slices_ContainsFunc_C_ls : loopsL slices_ContainsFunc_C 0 = [] := by kernel_rfl
theorem slices_ContainsFunc_kr (m : Nat) (x : ShLVal slices_ContainsFunc_A) : fnK (mkC (slices_ContainsFunc_S.Val × ShLVal slices_ContainsFunc_U) [slices_IndexFunc_T m]) (mkLp (slices_ContainsFunc_S.Val × ShLVal slices_ContainsFunc_U) []) tt slices_ContainsFunc_H Tryz.f46 (encS slices_ContainsFunc_A x) (Kd slices_ContainsFunc_S slices_ContainsFunc_U) = slices_ContainsFunc m x.1 := by kernel_rfl
theorem slices_ContainsFunc_ok (m : Nat) : FunOK Tryz.prog (slices_ContainsFunc_T m) :=
  fun_ok hmix htt (slices_ContainsFunc_T m) Tryz.func46 (c := slices_ContainsFunc_C) (by kernel_rfl) (by kernel_rfl) (Lc := [slices_IndexFunc_T m]) (AllF.mem (l := [slices_IndexFunc_T m]) ⟨slices_IndexFunc_ok m, trivial⟩) (L := []) (fun _ hE _ _ => loopsIn_of slices_ContainsFunc_C_ls trivial) (fun x => (slices_ContainsFunc_kr m x).trans (by kernel_rfl))
/-! 29 sparse/matrix.Check -/
def matrix_Check_H : Hints := { regs := [⟨[], [1]⟩, ⟨[(4, 1), (10, 1)], [1, 3]⟩, ⟨[], [2]⟩, ⟨[], [1, 20]⟩, ⟨[], [2]⟩, ⟨[], [24]⟩, ⟨[], [2]⟩, ⟨[], [2]⟩], heads := [], exits := [(0, [])], rets := [2], pins := [], spec := [[false]] }
abbrev matrix_Check_A : List Sh := [.a (.agg [(.int .i64), (.int .i64), (.imm (.int .i64)), (.imm (.int .i64)), (.imm (.int .u64))])]
abbrev matrix_Check_S : Sh := .a (.c (.int .i64))
abbrev matrix_Check_U : List Sh := [.a (.c .dead)]
def matrix_Check_R (m : Nat) : ShLVal matrix_Check_A → Option (matrix_Check_S.Val × ShLVal matrix_Check_U) := fun (x : (Int × Int × List Int × List Int × List Int × Unit) × Unit) => matrix_Check m x.1.1 x.1.2.1 x.1.2.2.1 x.1.2.2.2.1 x.1.2.2.2.2.1
def matrix_Check_T (m : Nat) : FunT := ⟨29, matrix_Check_A, matrix_Check_S, matrix_Check_U, matrix_Check_R m⟩
noncomputable def matrix_Check_C : Code := codeOf Tryz.f29
theorem matrix_Check_C_ls : loopsL matrix_Check_C 0 = [] := by kernel_rfl
theorem matrix_Check_kr (m : Nat) (x : ShLVal matrix_Check_A) : fnK (mkC (matrix_Check_S.Val × ShLVal matrix_Check_U) [matrix_within_T m, matrix_columns_T m, slices_ContainsFunc_T m]) (mkLp (matrix_Check_S.Val × ShLVal matrix_Check_U) []) tt matrix_Check_H Tryz.f29 (encS matrix_Check_A x) (Kd matrix_Check_S matrix_Check_U) = matrix_Check m x.1.1 x.1.2.1 x.1.2.2.1 x.1.2.2.2.1 x.1.2.2.2.2.1 := by kernel_rfl
theorem matrix_Check_ok (m : Nat) : FunOK Tryz.prog (matrix_Check_T m) :=
  fun_ok hmix htt (matrix_Check_T m) Tryz.func29 (c := matrix_Check_C) (by kernel_rfl) (by kernel_rfl) (Lc := [matrix_within_T m, matrix_columns_T m, slices_ContainsFunc_T m]) (AllF.mem (l := [matrix_within_T m, matrix_columns_T m, slices_ContainsFunc_T m]) ⟨matrix_within_ok m, matrix_columns_ok m, slices_ContainsFunc_ok m, trivial⟩) (L := []) (fun _ hE _ _ => loopsIn_of matrix_Check_C_ls trivial) (fun x => (matrix_Check_kr m x).trans (by kernel_rfl))
/-! 21 sparse/transversal.square -/
def transversal_square_H : Hints := { regs := [⟨[], [1]⟩, ⟨[], [1, 3]⟩, ⟨[(2, 1)], [3, 14]⟩, ⟨[], [2]⟩, ⟨[(0, 1)], [2]⟩], heads := [], exits := [], rets := [2], pins := [], spec := [[false]] }
abbrev transversal_square_A : List Sh := [.a (.agg [(.int .i64), (.int .i64), (.imm (.int .i64)), (.imm (.int .i64)), (.imm (.int .u64))])]
abbrev transversal_square_S : Sh := .a (.c (.int .i64))
abbrev transversal_square_U : List Sh := [.a (.c .dead)]
def transversal_square_R (m : Nat) : ShLVal transversal_square_A → Option (transversal_square_S.Val × ShLVal transversal_square_U) := fun (x : (Int × Int × List Int × List Int × List Int × Unit) × Unit) => transversal_square m x.1.1 x.1.2.1 x.1.2.2.1 x.1.2.2.2.1 x.1.2.2.2.2.1
def transversal_square_T (m : Nat) : FunT := ⟨21, transversal_square_A, transversal_square_S, transversal_square_U, transversal_square_R m⟩
noncomputable def transversal_square_C : Code := codeOf Tryz.f21
theorem transversal_square_C_ls : loopsL transversal_square_C 0 = [] := by kernel_rfl
theorem transversal_square_kr (m : Nat) (x : ShLVal transversal_square_A) : fnK (mkC (transversal_square_S.Val × ShLVal transversal_square_U) [matrix_Check_T m]) (mkLp (transversal_square_S.Val × ShLVal transversal_square_U) []) tt transversal_square_H Tryz.f21 (encS transversal_square_A x) (Kd transversal_square_S transversal_square_U) = transversal_square m x.1.1 x.1.2.1 x.1.2.2.1 x.1.2.2.2.1 x.1.2.2.2.2.1 := by kernel_rfl
theorem transversal_square_ok (m : Nat) : FunOK Tryz.prog (transversal_square_T m) :=
  fun_ok hmix htt (transversal_square_T m) Tryz.func21 (c := transversal_square_C) (by kernel_rfl) (by kernel_rfl) (Lc := [matrix_Check_T m]) (AllF.mem (l := [matrix_Check_T m]) ⟨matrix_Check_ok m, trivial⟩) (L := []) (fun _ hE _ _ => loopsIn_of transversal_square_C_ls trivial) (fun x => (transversal_square_kr m x).trans (by kernel_rfl))
/-! 62 sparse/matrix.entries -/
def matrix_entries_H : Hints := { regs := [⟨[], [1]⟩, ⟨[], [1, 3]⟩, ⟨[], [1, 3, 7, 8]⟩, ⟨[], [1, 3, 7, 8, 9]⟩, ⟨[], [1, 3, 4, 7, 8]⟩, ⟨[], [1, 3, 4, 5, 7, 8]⟩, ⟨[], [1, 3, 4, 5, 7, 8, 23]⟩, ⟨[(0, 1)], [1, 3, 4, 5, 7, 8]⟩, ⟨[(0, 1)], [1, 3, 4, 5, 7, 8]⟩, ⟨[(1, 1)], [1, 3, 7, 8]⟩, ⟨[(0, 1)], [2]⟩], heads := [(0, [1, 3, 7, 8]), (2, [1, 3, 4, 5, 7, 8])], exits := [(0, [3]), (1, [1, 3, 7, 8]), (2, [1, 3, 7, 8]), (3, [1, 3, 4, 5, 7, 8])], rets := [2], pins := [], spec := [[true]] }
abbrev matrix_entries_A : List Sh := [.a (.agg [(.int .i64), (.int .i64), (.imm (.int .i64)), (.imm (.int .i64)), (.imm (.int .u64))])]
abbrev matrix_entries_S : Sh := .a (.c (.nm 0 (.pr (.int .i64) (.pr (.int .i64) (.int .u64)))))
abbrev matrix_entries_U : List Sh := [.a (.c .dead)]
def matrix_entries_R (m : Nat) : ShLVal matrix_entries_A → Option (matrix_entries_S.Val × ShLVal matrix_entries_U) := fun (x : (Int × Int × List Int × List Int × List Int × Unit) × Unit) => matrix_entries m x.1.1 x.1.2.1 x.1.2.2.1 x.1.2.2.2.1 x.1.2.2.2.2.1
def matrix_entries_T (m : Nat) : FunT := ⟨62, matrix_entries_A, matrix_entries_S, matrix_entries_U, matrix_entries_R m⟩
noncomputable def matrix_entries_C : Code := codeOf Tryz.f62
noncomputable def matrix_entries_B0 : Code := loopAt matrix_entries_C 0 0
noncomputable def matrix_entries_B2 : Code := loopAt matrix_entries_B0 0 0
theorem matrix_entries_B2_ls : loopsL matrix_entries_B2 2 = [] := by kernel_rfl
theorem matrix_entries_B0_ls : loopsL matrix_entries_B0 0 = [(2, matrix_entries_B2)] := by kernel_rfl
theorem matrix_entries_C_ls : loopsL matrix_entries_C 0 = [(0, matrix_entries_B0)] := by kernel_rfl
abbrev matrix_entries_L1_I : SS := [(1, .a (.bx 0 [(.int .i64), (.int .i64), (.imm (.int .i64)), (.imm (.int .i64)), (.imm (.int .u64))])), (3, .a (.c (.nm 1 (.pr (.int .i64) (.pr (.int .i64) (.int .u64)))))), (4, .a (.c (.int .i64))), (5, .a (.c (.int .i64))), (7, .a (.c (.int .i64))), (8, .a (.c (.int .i64)))]
abbrev matrix_entries_L1_O : List (Ex × SS) := [(.exit 2, [(1, .a (.bx 0 [(.int .i64), (.int .i64), (.imm (.int .i64)), (.imm (.int .i64)), (.imm (.int .u64))])), (3, .a (.c (.nm 1 (.pr (.int .i64) (.pr (.int .i64) (.int .u64)))))), (7, .a (.c (.int .i64))), (8, .a (.c (.int .i64)))])]
def matrix_entries_L1_R (m n : Nat) : matrix_entries_L1_I.Val → Option (outVal matrix_entries_L1_O) := (fun (x : (Int × Int × List Int × List Int × List Int × Unit) × (List (Int × Int × Int)) × Int × Int × Int × Int × Unit) => matrix_entries_L1 m n x.1.1 x.1.2.1 x.1.2.2.1 x.1.2.2.2.1 x.1.2.2.2.2.1 x.2.1 x.2.2.1 x.2.2.2.1 x.2.2.2.2.1 x.2.2.2.2.2.1)
def matrix_entries_L1_T (m n : Nat) : LoopT := ⟨2, matrix_entries_L1_I, matrix_entries_L1_O, matrix_entries_L1_R m n⟩
theorem matrix_entries_L1_kr (m n : Nat) (x : matrix_entries_L1_I.Val) : roundK (mkC (outVal matrix_entries_L1_O) []) (mkLp (outVal matrix_entries_L1_O) []) tt 43 matrix_entries_H matrix_entries_B2 2 (matrix_entries_L1_I.enc x) (Kl (ins := matrix_entries_L1_I) (outs := matrix_entries_L1_O) (matrix_entries_L1_R m n)) = matrix_entries_L1 m (n + 1) x.1.1 x.1.2.1 x.1.2.2.1 x.1.2.2.2.1 x.1.2.2.2.2.1 x.2.1 x.2.2.1 x.2.2.2.1 x.2.2.2.2.1 x.2.2.2.2.2.1 := by kernel_rfl
theorem matrix_entries_L1_ok {E : Entry} (hE : EOf Tryz.prog E 43 matrix_entries_H.pins) (m : Nat) (n : Nat) : LoopOK Tryz.prog E matrix_entries_B2 (matrix_entries_L1_T m n) :=
  loop_ok (CO := CallOK Tryz.prog) hmix htt (fun _ _ _ _ h => h) hE (C := fun R => mkC R []) (L := []) (fun _ _ _ _ _ h => mkC_spec (AllF.mem (l := []) trivial) h) (fun _ _ => loopsIn_of matrix_entries_B2_ls trivial) (fun n => (matrix_entries_L1_R m n)) (fun _ => by kernel_rfl) (fun n x => (matrix_entries_L1_kr m n x).trans (by kernel_rfl)) n
abbrev matrix_entries_L0_I : SS := [(1, .a (.bx 0 [(.int .i64), (.int .i64), (.imm (.int .i64)), (.imm (.int .i64)), (.imm (.int .u64))])), (3, .a (.c (.nm 1 (.pr (.int .i64) (.pr (.int .i64) (.int .u64)))))), (7, .a (.c (.int .i64))), (8, .a (.c (.int .i64)))]
abbrev matrix_entries_L0_O : List (Ex × SS) := [(.exit 0, [(3, .a (.c (.nm 0 (.pr (.int .i64) (.pr (.int .i64) (.int .u64))))))])]
def matrix_entries_L0_R (m n : Nat) : matrix_entries_L0_I.Val → Option (outVal matrix_entries_L0_O) := (fun (x : (Int × Int × List Int × List Int × List Int × Unit) × (List (Int × Int × Int)) × Int × Int × Unit) => matrix_entries_L0 m n x.1.1 x.1.2.1 x.1.2.2.1 x.1.2.2.2.1 x.1.2.2.2.2.1 x.2.1 x.2.2.1 x.2.2.2.1)
def matrix_entries_L0_T (m n : Nat) : LoopT := ⟨0, matrix_entries_L0_I, matrix_entries_L0_O, matrix_entries_L0_R m n⟩
theorem matrix_entries_L0_kr (m n : Nat) (x : matrix_entries_L0_I.Val) : roundK (mkC (outVal matrix_entries_L0_O) []) (mkLp (outVal matrix_entries_L0_O) [matrix_entries_L1_T m m]) tt 43 matrix_entries_H matrix_entries_B0 0 (matrix_entries_L0_I.enc x) (Kl (ins := matrix_entries_L0_I) (outs := matrix_entries_L0_O) (matrix_entries_L0_R m n)) = matrix_entries_L0 m (n + 1) x.1.1 x.1.2.1 x.1.2.2.1 x.1.2.2.2.1 x.1.2.2.2.2.1 x.2.1 x.2.2.1 x.2.2.2.1 := by kernel_rfl
theorem matrix_entries_L0_ok {E : Entry} (hE : EOf Tryz.prog E 43 matrix_entries_H.pins) (m : Nat) (n : Nat) : LoopOK Tryz.prog E matrix_entries_B0 (matrix_entries_L0_T m n) :=
  loop_ok (CO := CallOK Tryz.prog) hmix htt (fun _ _ _ _ h => h) hE (C := fun R => mkC R []) (L := [matrix_entries_L1_T m m]) (fun _ _ _ _ _ h => mkC_spec (AllF.mem (l := []) trivial) h) (fun _ _ => loopsIn_of matrix_entries_B0_ls ⟨mkLp_all ⟨fun _ => matrix_entries_L1_ok hE m m, trivial⟩, trivial⟩) (fun n => (matrix_entries_L0_R m n)) (fun _ => by kernel_rfl) (fun n x => (matrix_entries_L0_kr m n x).trans (by kernel_rfl)) n
theorem matrix_entries_kr (m : Nat) (x : ShLVal matrix_entries_A) : fnK (mkC (matrix_entries_S.Val × ShLVal matrix_entries_U) []) (mkLp (matrix_entries_S.Val × ShLVal matrix_entries_U) [matrix_entries_L0_T m m]) tt matrix_entries_H Tryz.f62 (encS matrix_entries_A x) (Kd matrix_entries_S matrix_entries_U) = matrix_entries m x.1.1 x.1.2.1 x.1.2.2.1 x.1.2.2.2.1 x.1.2.2.2.2.1 := by kernel_rfl
theorem matrix_entries_ok (m : Nat) : FunOK Tryz.prog (matrix_entries_T m) :=
  fun_ok hmix htt (matrix_entries_T m) Tryz.func62 (c := matrix_entries_C) (by kernel_rfl) (by kernel_rfl) (Lc := []) (AllF.mem (l := []) trivial) (L := [matrix_entries_L0_T m m]) (fun _ hE _ _ => loopsIn_of matrix_entries_C_ls ⟨mkLp_all ⟨fun _ => matrix_entries_L0_ok hE m m, trivial⟩, trivial⟩) (fun x => (matrix_entries_kr m x).trans (by kernel_rfl))
/-! 38 sparse/matrix.Entries -/
def matrix_Entries_H : Hints := { regs := [⟨[], [1]⟩, ⟨[], [1, 5]⟩, ⟨[], [2]⟩, ⟨[], [2]⟩], heads := [], exits := [], rets := [2], pins := [], spec := [[true]] }
abbrev matrix_Entries_A : List Sh := [.a (.agg [(.int .i64), (.int .i64), (.imm (.int .i64)), (.imm (.int .i64)), (.imm (.int .u64))])]
abbrev matrix_Entries_S : Sh := .a (.c (.nm 0 (.pr (.int .i64) (.pr (.int .i64) (.int .u64)))))
abbrev matrix_Entries_U : List Sh := [.a (.c .dead)]
def matrix_Entries_R (m : Nat) : ShLVal matrix_Entries_A → Option (matrix_Entries_S.Val × ShLVal matrix_Entries_U) := fun (x : (Int × Int × List Int × List Int × List Int × Unit) × Unit) => matrix_Entries m x.1.1 x.1.2.1 x.1.2.2.1 x.1.2.2.2.1 x.1.2.2.2.2.1
def matrix_Entries_T (m : Nat) : FunT := ⟨38, matrix_Entries_A, matrix_Entries_S, matrix_Entries_U, matrix_Entries_R m⟩
noncomputable def matrix_Entries_C : Code := codeOf Tryz.f38
theorem matrix_Entries_C_ls : loopsL matrix_Entries_C 0 = [] := by kernel_rfl
theorem matrix_Entries_kr (m : Nat) (x : ShLVal matrix_Entries_A) : fnK (mkC (matrix_Entries_S.Val × ShLVal matrix_Entries_U) [matrix_Check_T m, matrix_entries_T m]) (mkLp (matrix_Entries_S.Val × ShLVal matrix_Entries_U) []) tt matrix_Entries_H Tryz.f38 (encS matrix_Entries_A x) (Kd matrix_Entries_S matrix_Entries_U) = matrix_Entries m x.1.1 x.1.2.1 x.1.2.2.1 x.1.2.2.2.1 x.1.2.2.2.2.1 := by kernel_rfl
theorem matrix_Entries_ok (m : Nat) : FunOK Tryz.prog (matrix_Entries_T m) :=
  fun_ok hmix htt (matrix_Entries_T m) Tryz.func38 (c := matrix_Entries_C) (by kernel_rfl) (by kernel_rfl) (Lc := [matrix_Check_T m, matrix_entries_T m]) (AllF.mem (l := [matrix_Check_T m, matrix_entries_T m]) ⟨matrix_Check_ok m, matrix_entries_ok m, trivial⟩) (L := []) (fun _ hE _ _ => loopsIn_of matrix_Entries_C_ls trivial) (fun x => (matrix_Entries_kr m x).trans (by kernel_rfl))
/-! 101 sparse/integer.trim -/
def integer_trim_H : Hints := { regs := [⟨[], [0]⟩, ⟨[], [0, 3]⟩, ⟨[(2, 1)], [0, 3, 15]⟩, ⟨[(0, 1)], [0, 3]⟩, ⟨[(0, 1), (1, 1)], [2]⟩], heads := [(0, [0, 3])], exits := [(0, [0, 3]), (1, [0, 3])], rets := [2], pins := [], spec := [[false]] }
abbrev integer_trim_A : List Sh := [.a (.c (.imm (.int .u32)))]
abbrev integer_trim_S : Sh := .a (.c (.imm (.int .u32)))
abbrev integer_trim_U : List Sh := [.a (.c .dead)]
def integer_trim_R (m : Nat) : ShLVal integer_trim_A → Option (integer_trim_S.Val × ShLVal integer_trim_U) := fun (x : List Int × Unit) => integer_trim m x.1
def integer_trim_T (m : Nat) : FunT := ⟨101, integer_trim_A, integer_trim_S, integer_trim_U, integer_trim_R m⟩
noncomputable def integer_trim_C : Code := codeOf Tryz.f101
noncomputable def integer_trim_B0 : Code := loopAt integer_trim_C 0 0
theorem integer_trim_B0_ls : loopsL integer_trim_B0 0 = [] := by kernel_rfl
theorem integer_trim_C_ls : loopsL integer_trim_C 0 = [(0, integer_trim_B0)] := by kernel_rfl
abbrev integer_trim_L0_I : SS := [(0, .a (.c (.imm (.int .u32)))), (3, .a (.c (.int .i64)))]
abbrev integer_trim_L0_O : List (Ex × SS) := [(.exit 0, [(0, .a (.c (.imm (.int .u32)))), (3, .a (.c (.int .i64)))])]
def integer_trim_L0_R (m n : Nat) : integer_trim_L0_I.Val → Option (outVal integer_trim_L0_O) := (fun (x : List Int × Int × Unit) => integer_trim_L0 m n x.1 x.2.1)
def integer_trim_L0_T (m n : Nat) : LoopT := ⟨0, integer_trim_L0_I, integer_trim_L0_O, integer_trim_L0_R m n⟩
theorem integer_trim_L0_kr (m n : Nat) (x : integer_trim_L0_I.Val) : roundK (mkC (outVal integer_trim_L0_O) []) (mkLp (outVal integer_trim_L0_O) []) tt 21 integer_trim_H integer_trim_B0 0 (integer_trim_L0_I.enc x) (Kl (ins := integer_trim_L0_I) (outs := integer_trim_L0_O) (integer_trim_L0_R m n)) = integer_trim_L0 m (n + 1) x.1 x.2.1 := by kernel_rfl
theorem integer_trim_L0_ok {E : Entry} (hE : EOf Tryz.prog E 21 integer_trim_H.pins) (m : Nat) (n : Nat) : LoopOK Tryz.prog E integer_trim_B0 (integer_trim_L0_T m n) :=
  loop_ok (CO := CallOK Tryz.prog) hmix htt (fun _ _ _ _ h => h) hE (C := fun R => mkC R []) (L := []) (fun _ _ _ _ _ h => mkC_spec (AllF.mem (l := []) trivial) h) (fun _ _ => loopsIn_of integer_trim_B0_ls trivial) (fun n => (integer_trim_L0_R m n)) (fun _ => by kernel_rfl) (fun n x => (integer_trim_L0_kr m n x).trans (by kernel_rfl)) n
theorem integer_trim_kr (m : Nat) (x : ShLVal integer_trim_A) : fnK (mkC (integer_trim_S.Val × ShLVal integer_trim_U) []) (mkLp (integer_trim_S.Val × ShLVal integer_trim_U) [integer_trim_L0_T m m]) tt integer_trim_H Tryz.f101 (encS integer_trim_A x) (Kd integer_trim_S integer_trim_U) = integer_trim m x.1 := by kernel_rfl
theorem integer_trim_ok (m : Nat) : FunOK Tryz.prog (integer_trim_T m) :=
  fun_ok hmix htt (integer_trim_T m) Tryz.func101 (c := integer_trim_C) (by kernel_rfl) (by kernel_rfl) (Lc := []) (AllF.mem (l := []) trivial) (L := [integer_trim_L0_T m m]) (fun _ hE _ _ => loopsIn_of integer_trim_C_ls ⟨mkLp_all ⟨fun _ => integer_trim_L0_ok hE m m, trivial⟩, trivial⟩) (fun x => (integer_trim_kr m x).trans (by kernel_rfl))
/-! 103 sparse/integer.big -/
def integer_big_H : Hints := { regs := [⟨[], [0, 1, 4]⟩, ⟨[(0, 1)], [0, 1, 4]⟩, ⟨[], [0, 1, 4, 9]⟩, ⟨[], [4]⟩, ⟨[(0, 1), (1, 1)], [4]⟩], heads := [], exits := [], rets := [4], pins := [], spec := [[false, false]] }
abbrev integer_big_A : List Sh := [.a (.c .bool), .a (.c (.imm (.int .u32)))]
abbrev integer_big_S : Sh := .a (.agg [.bool, (.imm (.int .u32))])
abbrev integer_big_U : List Sh := [.a (.c .dead), .a (.c .dead)]
def integer_big_R (m : Nat) : ShLVal integer_big_A → Option (integer_big_S.Val × ShLVal integer_big_U) := fun (x : Bool × List Int × Unit) => integer_big m x.1 x.2.1
def integer_big_T (m : Nat) : FunT := ⟨103, integer_big_A, integer_big_S, integer_big_U, integer_big_R m⟩
noncomputable def integer_big_C : Code := codeOf Tryz.f103
theorem integer_big_C_ls : loopsL integer_big_C 0 = [] := by kernel_rfl
theorem integer_big_kr (m : Nat) (x : ShLVal integer_big_A) : fnK (mkC (integer_big_S.Val × ShLVal integer_big_U) [integer_trim_T m]) (mkLp (integer_big_S.Val × ShLVal integer_big_U) []) tt integer_big_H Tryz.f103 (encS integer_big_A x) (Kd integer_big_S integer_big_U) = integer_big m x.1 x.2.1 := by kernel_rfl
theorem integer_big_ok (m : Nat) : FunOK Tryz.prog (integer_big_T m) :=
  fun_ok hmix htt (integer_big_T m) Tryz.func103 (c := integer_big_C) (by kernel_rfl) (by kernel_rfl) (Lc := [integer_trim_T m]) (AllF.mem (l := [integer_trim_T m]) ⟨integer_trim_ok m, trivial⟩) (L := []) (fun _ hE _ _ => loopsIn_of integer_big_C_ls trivial) (fun x => (integer_big_kr m x).trans (by kernel_rfl))
/-! 83 sparse/integer.FromInt -/
def integer_FromInt_H : Hints := { regs := [⟨[], [0, 2]⟩, ⟨[], [0, 2, 3]⟩, ⟨[], [0, 2, 3, 7]⟩, ⟨[(0, 1)], [0, 2, 3]⟩, ⟨[(0, 1)], [2]⟩], heads := [], exits := [], rets := [2], pins := [], spec := [[false, false]] }
abbrev integer_FromInt_A : List Sh := [.a (.c (.int .i64))]
abbrev integer_FromInt_S : Sh := .a (.agg [.bool, (.imm (.int .u32))])
abbrev integer_FromInt_U : List Sh := [.a (.c .dead)]
def integer_FromInt_R (m : Nat) : ShLVal integer_FromInt_A → Option (integer_FromInt_S.Val × ShLVal integer_FromInt_U) := fun (x : Int × Unit) => integer_FromInt m x.1
def integer_FromInt_T (m : Nat) : FunT := ⟨83, integer_FromInt_A, integer_FromInt_S, integer_FromInt_U, integer_FromInt_R m⟩
noncomputable def integer_FromInt_C : Code := codeOf Tryz.f83
theorem integer_FromInt_C_ls : loopsL integer_FromInt_C 0 = [] := by kernel_rfl
theorem integer_FromInt_kr (m : Nat) (x : ShLVal integer_FromInt_A) : fnK (mkC (integer_FromInt_S.Val × ShLVal integer_FromInt_U) [integer_big_T m]) (mkLp (integer_FromInt_S.Val × ShLVal integer_FromInt_U) []) tt integer_FromInt_H Tryz.f83 (encS integer_FromInt_A x) (Kd integer_FromInt_S integer_FromInt_U) = integer_FromInt m x.1 := by kernel_rfl
theorem integer_FromInt_ok (m : Nat) : FunOK Tryz.prog (integer_FromInt_T m) :=
  fun_ok hmix htt (integer_FromInt_T m) Tryz.func83 (c := integer_FromInt_C) (by kernel_rfl) (by kernel_rfl) (Lc := [integer_big_T m]) (AllF.mem (l := [integer_big_T m]) ⟨integer_big_ok m, trivial⟩) (L := []) (fun _ hE _ _ => loopsIn_of integer_FromInt_C_ls trivial) (fun x => (integer_FromInt_kr m x).trans (by kernel_rfl))
/-! 84 sparse/float.negative -/
def float_negative_H : Hints := { regs := [⟨[], [0]⟩, ⟨[(0, 1)], [2]⟩], heads := [], exits := [], rets := [2], pins := [], spec := [[false]] }
abbrev float_negative_A : List Sh := [.a (.c (.int .u64))]
abbrev float_negative_S : Sh := .a (.c .bool)
abbrev float_negative_U : List Sh := [.a (.c .dead)]
def float_negative_R (m : Nat) : ShLVal float_negative_A → Option (float_negative_S.Val × ShLVal float_negative_U) := fun (x : Int × Unit) => float_negative m x.1
def float_negative_T (m : Nat) : FunT := ⟨84, float_negative_A, float_negative_S, float_negative_U, float_negative_R m⟩
noncomputable def float_negative_C : Code := codeOf Tryz.f84
theorem float_negative_C_ls : loopsL float_negative_C 0 = [] := by kernel_rfl
theorem float_negative_kr (m : Nat) (x : ShLVal float_negative_A) : fnK (mkC (float_negative_S.Val × ShLVal float_negative_U) []) (mkLp (float_negative_S.Val × ShLVal float_negative_U) []) tt float_negative_H Tryz.f84 (encS float_negative_A x) (Kd float_negative_S float_negative_U) = float_negative m x.1 := by kernel_rfl
theorem float_negative_ok (m : Nat) : FunOK Tryz.prog (float_negative_T m) :=
  fun_ok hmix htt (float_negative_T m) Tryz.func84 (c := float_negative_C) (by kernel_rfl) (by kernel_rfl) (Lc := []) (AllF.mem (l := []) trivial) (L := []) (fun _ hE _ _ => loopsIn_of float_negative_C_ls trivial) (fun x => (float_negative_kr m x).trans (by kernel_rfl))
/-! 104 slices.Clone___uint32_uint32_ -/
def slices_Clone_H : Hints := { regs := [⟨[], [0]⟩, ⟨[], [0]⟩, ⟨[], [2]⟩, ⟨[], [2]⟩], heads := [], exits := [], rets := [2], pins := [], spec := [[true]] }
abbrev slices_Clone_A : List Sh := [.a (.c (.imm (.int .u32)))]
abbrev slices_Clone_S : Sh := .a (.c (.nm 0 (.int .u32)))
abbrev slices_Clone_U : List Sh := [.a (.c .dead)]
def slices_Clone_R (m : Nat) : ShLVal slices_Clone_A → Option (slices_Clone_S.Val × ShLVal slices_Clone_U) := fun (x : List Int × Unit) => slices_Clone m x.1
def slices_Clone_T (m : Nat) : FunT := ⟨104, slices_Clone_A, slices_Clone_S, slices_Clone_U, slices_Clone_R m⟩
noncomputable def slices_Clone_C : Code := codeOf Tryz.f104
theorem slices_Clone_ok (m : Nat) : FunOK Tryz.prog (slices_Clone_T m) :=
  clone_ok hmix htt (H := slices_Clone_H) (fn := Tryz.f104) (f := 104) (t := (.int .u32)) (ty := 77) (e := 107) (ty2 := 77) (k := 1) (cells := [.nil (.int .u32)]) (A := pA slices_Clone_C) (X := pX (pB (pA (pB slices_Clone_C)))) (Y := pB (pB slices_Clone_C)) (o0 := pO 0 (pA (pA (pB slices_Clone_C)))) (o1 := pO 1 (pA (pA (pB slices_Clone_C)))) Tryz.func104 (by kernel_rfl) (by kernel_rfl) (by kernel_rfl) (by kernel_rfl) (by kernel_rfl) (by kernel_rfl) (by kernel_rfl) (by kernel_rfl) (by kernel_rfl) (of_decide_eq_true (by kernel_rfl)) rfl (by kernel_rfl) (by kernel_rfl) (by kernel_rfl) (fun xs => [(0, .sl .imm (.int .u32) xs)]) (fun xs => [(2, .sl (.nm 0) (.int .u32) xs)]) (fun xs => by kernel_rfl) (fun _ => rfl) (fun _ => rfl) (fun _ => rfl) (by kernel_rfl) (fun xs => by kernel_rfl) (fun xs => by kernel_rfl)
/-! 85 sparse/integer.Neg -/
def integer_Neg_H : Hints := { regs := [⟨[], [1, 2]⟩, ⟨[], [2]⟩], heads := [], exits := [], rets := [2], pins := [], spec := [[false, false]] }
abbrev integer_Neg_A : List Sh := [.a (.agg [.bool, (.imm (.int .u32))])]
abbrev integer_Neg_S : Sh := .a (.agg [.bool, (.imm (.int .u32))])
abbrev integer_Neg_U : List Sh := [.a (.c .dead)]
def integer_Neg_R (m : Nat) : ShLVal integer_Neg_A → Option (integer_Neg_S.Val × ShLVal integer_Neg_U) := fun (x : (Bool × List Int × Unit) × Unit) => integer_Neg m x.1.1 x.1.2.1
def integer_Neg_T (m : Nat) : FunT := ⟨85, integer_Neg_A, integer_Neg_S, integer_Neg_U, integer_Neg_R m⟩
noncomputable def integer_Neg_C : Code := codeOf Tryz.f85
theorem integer_Neg_C_ls : loopsL integer_Neg_C 0 = [] := by kernel_rfl
theorem integer_Neg_kr (m : Nat) (x : ShLVal integer_Neg_A) : fnK (mkC (integer_Neg_S.Val × ShLVal integer_Neg_U) [slices_Clone_T m, integer_big_T m]) (mkLp (integer_Neg_S.Val × ShLVal integer_Neg_U) []) tt integer_Neg_H Tryz.f85 (encS integer_Neg_A x) (Kd integer_Neg_S integer_Neg_U) = integer_Neg m x.1.1 x.1.2.1 := by kernel_rfl
theorem integer_Neg_ok (m : Nat) : FunOK Tryz.prog (integer_Neg_T m) :=
  fun_ok hmix htt (integer_Neg_T m) Tryz.func85 (c := integer_Neg_C) (by kernel_rfl) (by kernel_rfl) (Lc := [slices_Clone_T m, integer_big_T m]) (AllF.mem (l := [slices_Clone_T m, integer_big_T m]) ⟨slices_Clone_ok m, integer_big_ok m, trivial⟩) (L := []) (fun _ hE _ _ => loopsIn_of integer_Neg_C_ls trivial) (fun x => (integer_Neg_kr m x).trans (by kernel_rfl))
/-! 97 sparse/dyad.bad -/
def dyad_bad_H : Hints := { regs := [⟨[], [0]⟩, ⟨[], [0]⟩], heads := [], exits := [], rets := [0], pins := [], spec := [[false, false, true, false]] }
abbrev dyad_bad_A : List Sh := []
abbrev dyad_bad_S : Sh := .a (.agg [.bool, .bool, (.nm 0 (.int .u32)), (.int .i64)])
abbrev dyad_bad_U : List Sh := []
def dyad_bad_R (m : Nat) : ShLVal dyad_bad_A → Option (dyad_bad_S.Val × ShLVal dyad_bad_U) := fun (x : Unit) => dyad_bad m
def dyad_bad_T (m : Nat) : FunT := ⟨97, dyad_bad_A, dyad_bad_S, dyad_bad_U, dyad_bad_R m⟩
noncomputable def dyad_bad_C : Code := codeOf Tryz.f97
theorem dyad_bad_C_ls : loopsL dyad_bad_C 0 = [] := by kernel_rfl
theorem dyad_bad_kr (m : Nat) (x : ShLVal dyad_bad_A) : fnK (mkC (dyad_bad_S.Val × ShLVal dyad_bad_U) []) (mkLp (dyad_bad_S.Val × ShLVal dyad_bad_U) []) tt dyad_bad_H Tryz.f97 (encS dyad_bad_A x) (Kd dyad_bad_S dyad_bad_U) = dyad_bad m := by kernel_rfl
theorem dyad_bad_ok (m : Nat) : FunOK Tryz.prog (dyad_bad_T m) :=
  fun_ok hmix htt (dyad_bad_T m) Tryz.func97 (c := dyad_bad_C) (by kernel_rfl) (by kernel_rfl) (Lc := []) (AllF.mem (l := []) trivial) (L := []) (fun _ hE _ _ => loopsIn_of dyad_bad_C_ls trivial) (fun x => (dyad_bad_kr m x).trans (by kernel_rfl))
/-! 98 sparse/integer.Norm -/
def integer_Norm_H : Hints := { regs := [⟨[], [1, 2]⟩, ⟨[], [2]⟩], heads := [], exits := [], rets := [2], pins := [], spec := [[false, false]] }
abbrev integer_Norm_A : List Sh := [.a (.agg [.bool, (.imm (.int .u32))])]
abbrev integer_Norm_S : Sh := .a (.agg [.bool, (.imm (.int .u32))])
abbrev integer_Norm_U : List Sh := [.a (.c .dead)]
def integer_Norm_R (m : Nat) : ShLVal integer_Norm_A → Option (integer_Norm_S.Val × ShLVal integer_Norm_U) := fun (x : (Bool × List Int × Unit) × Unit) => integer_Norm m x.1.1 x.1.2.1
def integer_Norm_T (m : Nat) : FunT := ⟨98, integer_Norm_A, integer_Norm_S, integer_Norm_U, integer_Norm_R m⟩
noncomputable def integer_Norm_C : Code := codeOf Tryz.f98
theorem integer_Norm_C_ls : loopsL integer_Norm_C 0 = [] := by kernel_rfl
theorem integer_Norm_kr (m : Nat) (x : ShLVal integer_Norm_A) : fnK (mkC (integer_Norm_S.Val × ShLVal integer_Norm_U) [slices_Clone_T m, integer_big_T m]) (mkLp (integer_Norm_S.Val × ShLVal integer_Norm_U) []) tt integer_Norm_H Tryz.f98 (encS integer_Norm_A x) (Kd integer_Norm_S integer_Norm_U) = integer_Norm m x.1.1 x.1.2.1 := by kernel_rfl
theorem integer_Norm_ok (m : Nat) : FunOK Tryz.prog (integer_Norm_T m) :=
  fun_ok hmix htt (integer_Norm_T m) Tryz.func98 (c := integer_Norm_C) (by kernel_rfl) (by kernel_rfl) (Lc := [slices_Clone_T m, integer_big_T m]) (AllF.mem (l := [slices_Clone_T m, integer_big_T m]) ⟨slices_Clone_ok m, integer_big_ok m, trivial⟩) (L := []) (fun _ hE _ _ => loopsIn_of integer_Norm_C_ls trivial) (fun x => (integer_Norm_kr m x).trans (by kernel_rfl))
/-! 81 sparse/integer.Sign -/
def integer_Sign_H : Hints := { regs := [⟨[], [1]⟩, ⟨[], [1, 3]⟩, ⟨[], [2]⟩, ⟨[], [9]⟩, ⟨[], [2]⟩, ⟨[], [2]⟩], heads := [], exits := [(0, [])], rets := [2], pins := [], spec := [[false]] }
abbrev integer_Sign_A : List Sh := [.a (.agg [.bool, (.imm (.int .u32))])]
abbrev integer_Sign_S : Sh := .a (.c (.int .i64))
abbrev integer_Sign_U : List Sh := [.a (.c .dead)]
def integer_Sign_R (m : Nat) : ShLVal integer_Sign_A → Option (integer_Sign_S.Val × ShLVal integer_Sign_U) := fun (x : (Bool × List Int × Unit) × Unit) => integer_Sign m x.1.1 x.1.2.1
def integer_Sign_T (m : Nat) : FunT := ⟨81, integer_Sign_A, integer_Sign_S, integer_Sign_U, integer_Sign_R m⟩
noncomputable def integer_Sign_C : Code := codeOf Tryz.f81
theorem integer_Sign_C_ls : loopsL integer_Sign_C 0 = [] := by kernel_rfl
theorem integer_Sign_kr (m : Nat) (x : ShLVal integer_Sign_A) : fnK (mkC (integer_Sign_S.Val × ShLVal integer_Sign_U) [integer_trim_T m]) (mkLp (integer_Sign_S.Val × ShLVal integer_Sign_U) []) tt integer_Sign_H Tryz.f81 (encS integer_Sign_A x) (Kd integer_Sign_S integer_Sign_U) = integer_Sign m x.1.1 x.1.2.1 := by kernel_rfl
theorem integer_Sign_ok (m : Nat) : FunOK Tryz.prog (integer_Sign_T m) :=
  fun_ok hmix htt (integer_Sign_T m) Tryz.func81 (c := integer_Sign_C) (by kernel_rfl) (by kernel_rfl) (Lc := [integer_trim_T m]) (AllF.mem (l := [integer_trim_T m]) ⟨integer_trim_ok m, trivial⟩) (L := []) (fun _ hE _ _ => loopsIn_of integer_Sign_C_ls trivial) (fun x => (integer_Sign_kr m x).trans (by kernel_rfl))
/-! 96 math/bits.TrailingZeros32 -/
def math_bits_TrailingZeros32_H : Hints := { regs := [⟨[], [0]⟩, ⟨[], [0, 4]⟩, ⟨[], [2]⟩, ⟨[], [2]⟩], heads := [], exits := [], rets := [2], pins := [], spec := [[false]] }
abbrev math_bits_TrailingZeros32_A : List Sh := [.a (.c (.int .u32))]
abbrev math_bits_TrailingZeros32_S : Sh := .a (.c (.int .i64))
abbrev math_bits_TrailingZeros32_U : List Sh := [.a (.c .dead)]
def math_bits_TrailingZeros32_R (m : Nat) : ShLVal math_bits_TrailingZeros32_A → Option (math_bits_TrailingZeros32_S.Val × ShLVal math_bits_TrailingZeros32_U) := fun (x : Int × Unit) => math_bits_TrailingZeros32 m x.1
def math_bits_TrailingZeros32_T (m : Nat) : FunT := ⟨96, math_bits_TrailingZeros32_A, math_bits_TrailingZeros32_S, math_bits_TrailingZeros32_U, math_bits_TrailingZeros32_R m⟩
noncomputable def math_bits_TrailingZeros32_C : Code := codeOf Tryz.f96
theorem math_bits_TrailingZeros32_C_ls : loopsL math_bits_TrailingZeros32_C 0 = [] := by kernel_rfl
theorem math_bits_TrailingZeros32_kr (m : Nat) (x : ShLVal math_bits_TrailingZeros32_A) : fnK (mkC (math_bits_TrailingZeros32_S.Val × ShLVal math_bits_TrailingZeros32_U) []) (mkLp (math_bits_TrailingZeros32_S.Val × ShLVal math_bits_TrailingZeros32_U) []) tt math_bits_TrailingZeros32_H Tryz.f96 (encS math_bits_TrailingZeros32_A x) (Kd math_bits_TrailingZeros32_S math_bits_TrailingZeros32_U) = math_bits_TrailingZeros32 m x.1 := by kernel_rfl
theorem math_bits_TrailingZeros32_ok (m : Nat) : FunOK Tryz.prog (math_bits_TrailingZeros32_T m) :=
  fun_ok hmix htt (math_bits_TrailingZeros32_T m) Tryz.func96 (c := math_bits_TrailingZeros32_C) (by kernel_rfl) (by kernel_rfl) (Lc := []) (AllF.mem (l := []) trivial) (L := []) (fun _ hE _ _ => loopsIn_of math_bits_TrailingZeros32_C_ls trivial) (fun x => (math_bits_TrailingZeros32_kr m x).trans (by kernel_rfl))
/-! 99 sparse/integer.TrailingZeros -/
def integer_TrailingZeros_H : Hints := { regs := [⟨[], [1]⟩, ⟨[], [6, 7, 8]⟩, ⟨[], [6, 7, 8, 9]⟩, ⟨[], [3, 4, 6, 7, 8]⟩, ⟨[], [3, 4, 6, 7, 8, 14]⟩, ⟨[(0, 1), (2, 1)], [2]⟩, ⟨[(1, 1)], [6, 7, 8]⟩, ⟨[], [2]⟩], heads := [(0, [6, 7, 8])], exits := [(0, []), (1, [6, 7, 8])], rets := [2], pins := [], spec := [[false]] }
abbrev integer_TrailingZeros_A : List Sh := [.a (.agg [.bool, (.imm (.int .u32))])]
abbrev integer_TrailingZeros_S : Sh := .a (.c (.int .i64))
abbrev integer_TrailingZeros_U : List Sh := [.a (.c .dead)]
def integer_TrailingZeros_R (m : Nat) : ShLVal integer_TrailingZeros_A → Option (integer_TrailingZeros_S.Val × ShLVal integer_TrailingZeros_U) := fun (x : (Bool × List Int × Unit) × Unit) => integer_TrailingZeros m x.1.1 x.1.2.1
def integer_TrailingZeros_T (m : Nat) : FunT := ⟨99, integer_TrailingZeros_A, integer_TrailingZeros_S, integer_TrailingZeros_U, integer_TrailingZeros_R m⟩
noncomputable def integer_TrailingZeros_C : Code := codeOf Tryz.f99
noncomputable def integer_TrailingZeros_B0 : Code := loopAt integer_TrailingZeros_C 0 0
theorem integer_TrailingZeros_B0_ls : loopsL integer_TrailingZeros_B0 0 = [] := by kernel_rfl
theorem integer_TrailingZeros_C_ls : loopsL integer_TrailingZeros_C 0 = [(0, integer_TrailingZeros_B0)] := by kernel_rfl
abbrev integer_TrailingZeros_L0_I : SS := [(6, .a (.c (.imm (.int .u32)))), (7, .a (.c (.int .i64))), (8, .a (.c (.int .i64)))]
abbrev integer_TrailingZeros_L0_O : List (Ex × SS) := [(.ret, [(2, .a (.c (.int .i64)))]), (.exit 0, [])]
def integer_TrailingZeros_L0_R (m n : Nat) : integer_TrailingZeros_L0_I.Val → Option (outVal integer_TrailingZeros_L0_O) := (fun (x : List Int × Int × Int × Unit) => integer_TrailingZeros_L0 m n x.1 x.2.1 x.2.2.1)
def integer_TrailingZeros_L0_T (m n : Nat) : LoopT := ⟨0, integer_TrailingZeros_L0_I, integer_TrailingZeros_L0_O, integer_TrailingZeros_L0_R m n⟩
theorem integer_TrailingZeros_L0_kr (m n : Nat) (x : integer_TrailingZeros_L0_I.Val) : roundK (mkC (outVal integer_TrailingZeros_L0_O) [math_bits_TrailingZeros32_T m]) (mkLp (outVal integer_TrailingZeros_L0_O) []) tt 21 integer_TrailingZeros_H integer_TrailingZeros_B0 0 (integer_TrailingZeros_L0_I.enc x) (Kl (ins := integer_TrailingZeros_L0_I) (outs := integer_TrailingZeros_L0_O) (integer_TrailingZeros_L0_R m n)) = integer_TrailingZeros_L0 m (n + 1) x.1 x.2.1 x.2.2.1 := by kernel_rfl
theorem integer_TrailingZeros_L0_ok {E : Entry} (hE : EOf Tryz.prog E 21 integer_TrailingZeros_H.pins) (m : Nat) (n : Nat) : LoopOK Tryz.prog E integer_TrailingZeros_B0 (integer_TrailingZeros_L0_T m n) :=
  loop_ok (CO := CallOK Tryz.prog) hmix htt (fun _ _ _ _ h => h) hE (C := fun R => mkC R [math_bits_TrailingZeros32_T m]) (L := []) (fun _ _ _ _ _ h => mkC_spec (AllF.mem (l := [math_bits_TrailingZeros32_T m]) ⟨math_bits_TrailingZeros32_ok m, trivial⟩) h) (fun _ _ => loopsIn_of integer_TrailingZeros_B0_ls trivial) (fun n => (integer_TrailingZeros_L0_R m n)) (fun _ => by kernel_rfl) (fun n x => (integer_TrailingZeros_L0_kr m n x).trans (by kernel_rfl)) n
theorem integer_TrailingZeros_kr (m : Nat) (x : ShLVal integer_TrailingZeros_A) : fnK (mkC (integer_TrailingZeros_S.Val × ShLVal integer_TrailingZeros_U) [math_bits_TrailingZeros32_T m]) (mkLp (integer_TrailingZeros_S.Val × ShLVal integer_TrailingZeros_U) [integer_TrailingZeros_L0_T m m]) tt integer_TrailingZeros_H Tryz.f99 (encS integer_TrailingZeros_A x) (Kd integer_TrailingZeros_S integer_TrailingZeros_U) = integer_TrailingZeros m x.1.1 x.1.2.1 := by kernel_rfl
theorem integer_TrailingZeros_ok (m : Nat) : FunOK Tryz.prog (integer_TrailingZeros_T m) :=
  fun_ok hmix htt (integer_TrailingZeros_T m) Tryz.func99 (c := integer_TrailingZeros_C) (by kernel_rfl) (by kernel_rfl) (Lc := [math_bits_TrailingZeros32_T m]) (AllF.mem (l := [math_bits_TrailingZeros32_T m]) ⟨math_bits_TrailingZeros32_ok m, trivial⟩) (L := [integer_TrailingZeros_L0_T m m]) (fun _ hE _ _ => loopsIn_of integer_TrailingZeros_C_ls ⟨mkLp_all ⟨fun _ => integer_TrailingZeros_L0_ok hE m m, trivial⟩, trivial⟩) (fun x => (integer_TrailingZeros_kr m x).trans (by kernel_rfl))
/-! 88 math/bits.Len32 -/
def math_bits_Len32_H : Hints := { regs := [⟨[], [0, 2]⟩, ⟨[], [0, 2, 4]⟩, ⟨[(0, 1)], [0]⟩, ⟨[], [0, 2]⟩, ⟨[], [0, 2, 8]⟩, ⟨[(0, 1)], [0, 2]⟩, ⟨[(0, 1)], [0, 2]⟩, ⟨[(0, 1), (1, 1)], [2]⟩], heads := [], exits := [], rets := [2], pins := [], spec := [[false]] }
abbrev math_bits_Len32_A : List Sh := [.a (.c (.int .u32))]
abbrev math_bits_Len32_S : Sh := .a (.c (.int .i64))
abbrev math_bits_Len32_U : List Sh := [.a (.c .dead)]
def math_bits_Len32_R (m : Nat) : ShLVal math_bits_Len32_A → Option (math_bits_Len32_S.Val × ShLVal math_bits_Len32_U) := fun (x : Int × Unit) => math_bits_Len32 m x.1
def math_bits_Len32_T (m : Nat) : FunT := ⟨88, math_bits_Len32_A, math_bits_Len32_S, math_bits_Len32_U, math_bits_Len32_R m⟩
noncomputable def math_bits_Len32_C : Code := codeOf Tryz.f88
theorem math_bits_Len32_C_ls : loopsL math_bits_Len32_C 0 = [] := by kernel_rfl
theorem math_bits_Len32_kr (m : Nat) (x : ShLVal math_bits_Len32_A) : fnK (mkC (math_bits_Len32_S.Val × ShLVal math_bits_Len32_U) []) (mkLp (math_bits_Len32_S.Val × ShLVal math_bits_Len32_U) []) tt math_bits_Len32_H Tryz.f88 (encS math_bits_Len32_A x) (Kd math_bits_Len32_S math_bits_Len32_U) = math_bits_Len32 m x.1 := by kernel_rfl
theorem math_bits_Len32_ok (m : Nat) : FunOK Tryz.prog (math_bits_Len32_T m) :=
  fun_ok hmix htt (math_bits_Len32_T m) Tryz.func88 (c := math_bits_Len32_C) (by kernel_rfl) (by kernel_rfl) (Lc := []) (AllF.mem (l := []) trivial) (L := []) (fun _ hE _ _ => loopsIn_of math_bits_Len32_C_ls trivial) (fun x => (math_bits_Len32_kr m x).trans (by kernel_rfl))
/-! 102 sparse/integer.length -/
def integer_length_H : Hints := { regs := [⟨[], [0]⟩, ⟨[], [0, 5]⟩, ⟨[], [2]⟩, ⟨[], [2]⟩], heads := [], exits := [], rets := [2], pins := [], spec := [[false]] }
abbrev integer_length_A : List Sh := [.a (.c (.imm (.int .u32)))]
abbrev integer_length_S : Sh := .a (.c (.int .i64))
abbrev integer_length_U : List Sh := [.a (.c .dead)]
def integer_length_R (m : Nat) : ShLVal integer_length_A → Option (integer_length_S.Val × ShLVal integer_length_U) := fun (x : List Int × Unit) => integer_length m x.1
def integer_length_T (m : Nat) : FunT := ⟨102, integer_length_A, integer_length_S, integer_length_U, integer_length_R m⟩
noncomputable def integer_length_C : Code := codeOf Tryz.f102
theorem integer_length_C_ls : loopsL integer_length_C 0 = [] := by kernel_rfl
theorem integer_length_kr (m : Nat) (x : ShLVal integer_length_A) : fnK (mkC (integer_length_S.Val × ShLVal integer_length_U) [math_bits_Len32_T m]) (mkLp (integer_length_S.Val × ShLVal integer_length_U) []) tt integer_length_H Tryz.f102 (encS integer_length_A x) (Kd integer_length_S integer_length_U) = integer_length m x.1 := by kernel_rfl
theorem integer_length_ok (m : Nat) : FunOK Tryz.prog (integer_length_T m) :=
  fun_ok hmix htt (integer_length_T m) Tryz.func102 (c := integer_length_C) (by kernel_rfl) (by kernel_rfl) (Lc := [math_bits_Len32_T m]) (AllF.mem (l := [math_bits_Len32_T m]) ⟨math_bits_Len32_ok m, trivial⟩) (L := []) (fun _ hE _ _ => loopsIn_of integer_length_C_ls trivial) (fun x => (integer_length_kr m x).trans (by kernel_rfl))
/-! 82 sparse/integer.BitLen -/
def integer_BitLen_H : Hints := { regs := [⟨[], [1]⟩, ⟨[], [2]⟩], heads := [], exits := [], rets := [2], pins := [], spec := [[false]] }
abbrev integer_BitLen_A : List Sh := [.a (.agg [.bool, (.imm (.int .u32))])]
abbrev integer_BitLen_S : Sh := .a (.c (.int .i64))
abbrev integer_BitLen_U : List Sh := [.a (.c .dead)]
def integer_BitLen_R (m : Nat) : ShLVal integer_BitLen_A → Option (integer_BitLen_S.Val × ShLVal integer_BitLen_U) := fun (x : (Bool × List Int × Unit) × Unit) => integer_BitLen m x.1.1 x.1.2.1
def integer_BitLen_T (m : Nat) : FunT := ⟨82, integer_BitLen_A, integer_BitLen_S, integer_BitLen_U, integer_BitLen_R m⟩
noncomputable def integer_BitLen_C : Code := codeOf Tryz.f82
theorem integer_BitLen_C_ls : loopsL integer_BitLen_C 0 = [] := by kernel_rfl
theorem integer_BitLen_kr (m : Nat) (x : ShLVal integer_BitLen_A) : fnK (mkC (integer_BitLen_S.Val × ShLVal integer_BitLen_U) [integer_trim_T m, integer_length_T m]) (mkLp (integer_BitLen_S.Val × ShLVal integer_BitLen_U) []) tt integer_BitLen_H Tryz.f82 (encS integer_BitLen_A x) (Kd integer_BitLen_S integer_BitLen_U) = integer_BitLen m x.1.1 x.1.2.1 := by kernel_rfl
theorem integer_BitLen_ok (m : Nat) : FunOK Tryz.prog (integer_BitLen_T m) :=
  fun_ok hmix htt (integer_BitLen_T m) Tryz.func82 (c := integer_BitLen_C) (by kernel_rfl) (by kernel_rfl) (Lc := [integer_trim_T m, integer_length_T m]) (AllF.mem (l := [integer_trim_T m, integer_length_T m]) ⟨integer_trim_ok m, integer_length_ok m, trivial⟩) (L := []) (fun _ hE _ _ => loopsIn_of integer_BitLen_C_ls trivial) (fun x => (integer_BitLen_kr m x).trans (by kernel_rfl))
/-! 111 sparse/integer.up -/
def integer_up_H : Hints := { regs := [⟨[], [0, 1]⟩, ⟨[], [0, 1, 13]⟩, ⟨[], [4]⟩, ⟨[], [0, 5, 6]⟩, ⟨[], [0, 5, 6, 7]⟩, ⟨[(0, 1)], [5, 6, 7, 25, 26, 27]⟩, ⟨[], [5, 6, 7, 25, 26, 27, 28]⟩, ⟨[], [5, 6, 7, 8, 9, 25, 26, 27]⟩, ⟨[(0, 1)], [5, 6, 7, 8, 10, 25, 26, 27]⟩, ⟨[], [5, 6, 7, 8, 10, 25, 26, 27]⟩, ⟨[(2, 1), (5, 1)], [5, 6, 7, 25, 26, 27]⟩, ⟨[(1, 1)], [5, 6, 7, 25, 26, 27]⟩, ⟨[(0, 1)], [4]⟩], heads := [(0, [5, 6, 7, 25, 26, 27])], exits := [(0, [7]), (1, [5, 6, 7, 25, 26, 27])], rets := [4], pins := [], spec := [[false]] }
abbrev integer_up_A : List Sh := [.a (.c (.imm (.int .u32))), .a (.c (.int .i64))]
abbrev integer_up_S : Sh := .a (.c (.imm (.int .u32)))
abbrev integer_up_U : List Sh := [.a (.c .dead), .a (.c .dead)]
def integer_up_R (m : Nat) : ShLVal integer_up_A → Option (integer_up_S.Val × ShLVal integer_up_U) := fun (x : List Int × Int × Unit) => integer_up m x.1 x.2.1
def integer_up_T (m : Nat) : FunT := ⟨111, integer_up_A, integer_up_S, integer_up_U, integer_up_R m⟩
noncomputable def integer_up_C : Code := codeOf Tryz.f111
noncomputable def integer_up_B0 : Code := loopAt integer_up_C 0 0
theorem integer_up_B0_ls : loopsL integer_up_B0 0 = [] := by kernel_rfl
theorem integer_up_C_ls : loopsL integer_up_C 0 = [(0, integer_up_B0)] := by kernel_rfl
abbrev integer_up_L0_I : SS := [(5, .a (.c (.int .i64))), (6, .a (.c (.int .u64))), (7, .a (.c (.nm 0 (.int .u32)))), (25, .a (.c (.imm (.int .u32)))), (26, .a (.c (.int .i64))), (27, .a (.c (.int .i64)))]
abbrev integer_up_L0_O : List (Ex × SS) := [(.exit 0, [(7, .a (.c (.nm 0 (.int .u32))))])]
def integer_up_L0_R (m n : Nat) : integer_up_L0_I.Val → Option (outVal integer_up_L0_O) := (fun (x : Int × Int × List Int × List Int × Int × Int × Unit) => integer_up_L0 m n x.1 x.2.1 x.2.2.1 x.2.2.2.1 x.2.2.2.2.1 x.2.2.2.2.2.1)
def integer_up_L0_T (m n : Nat) : LoopT := ⟨0, integer_up_L0_I, integer_up_L0_O, integer_up_L0_R m n⟩
theorem integer_up_L0_kr (m n : Nat) (x : integer_up_L0_I.Val) : roundK (mkC (outVal integer_up_L0_O) [integer_trim_T m]) (mkLp (outVal integer_up_L0_O) []) tt 59 integer_up_H integer_up_B0 0 (integer_up_L0_I.enc x) (Kl (ins := integer_up_L0_I) (outs := integer_up_L0_O) (integer_up_L0_R m n)) = integer_up_L0 m (n + 1) x.1 x.2.1 x.2.2.1 x.2.2.2.1 x.2.2.2.2.1 x.2.2.2.2.2.1 := by kernel_rfl
theorem integer_up_L0_ok {E : Entry} (hE : EOf Tryz.prog E 59 integer_up_H.pins) (m : Nat) (n : Nat) : LoopOK Tryz.prog E integer_up_B0 (integer_up_L0_T m n) :=
  loop_ok (CO := CallOK Tryz.prog) hmix htt (fun _ _ _ _ h => h) hE (C := fun R => mkC R [integer_trim_T m]) (L := []) (fun _ _ _ _ _ h => mkC_spec (AllF.mem (l := [integer_trim_T m]) ⟨integer_trim_ok m, trivial⟩) h) (fun _ _ => loopsIn_of integer_up_B0_ls trivial) (fun n => (integer_up_L0_R m n)) (fun _ => by kernel_rfl) (fun n x => (integer_up_L0_kr m n x).trans (by kernel_rfl)) n
theorem integer_up_kr (m : Nat) (x : ShLVal integer_up_A) : fnK (mkC (integer_up_S.Val × ShLVal integer_up_U) [integer_trim_T m]) (mkLp (integer_up_S.Val × ShLVal integer_up_U) [integer_up_L0_T m m]) tt integer_up_H Tryz.f111 (encS integer_up_A x) (Kd integer_up_S integer_up_U) = integer_up m x.1 x.2.1 := by kernel_rfl
theorem integer_up_ok (m : Nat) : FunOK Tryz.prog (integer_up_T m) :=
  fun_ok hmix htt (integer_up_T m) Tryz.func111 (c := integer_up_C) (by kernel_rfl) (by kernel_rfl) (Lc := [integer_trim_T m]) (AllF.mem (l := [integer_trim_T m]) ⟨integer_trim_ok m, trivial⟩) (L := [integer_up_L0_T m m]) (fun _ hE _ _ => loopsIn_of integer_up_C_ls ⟨mkLp_all ⟨fun _ => integer_up_L0_ok hE m m, trivial⟩, trivial⟩) (fun x => (integer_up_kr m x).trans (by kernel_rfl))
/-! 115 sparse/integer.down_1 -/
def integer_down_1_H : Hints := { regs := [⟨[], [0]⟩, ⟨[(0, 1)], [2]⟩], heads := [], exits := [], rets := [2], pins := [], spec := [[false]] }
abbrev integer_down_1_A : List Sh := [.a (.c (.int .u32))]
abbrev integer_down_1_S : Sh := .a (.c .bool)
abbrev integer_down_1_U : List Sh := [.a (.c .dead)]
def integer_down_1_R (m : Nat) : ShLVal integer_down_1_A → Option (integer_down_1_S.Val × ShLVal integer_down_1_U) := fun (x : Int × Unit) => integer_down_1 m x.1
def integer_down_1_T (m : Nat) : FunT := ⟨115, integer_down_1_A, integer_down_1_S, integer_down_1_U, integer_down_1_R m⟩
noncomputable def integer_down_1_C : Code := codeOf Tryz.f115
theorem integer_down_1_C_ls : loopsL integer_down_1_C 0 = [] := by kernel_rfl
theorem integer_down_1_kr (m : Nat) (x : ShLVal integer_down_1_A) : fnK (mkC (integer_down_1_S.Val × ShLVal integer_down_1_U) []) (mkLp (integer_down_1_S.Val × ShLVal integer_down_1_U) []) tt integer_down_1_H Tryz.f115 (encS integer_down_1_A x) (Kd integer_down_1_S integer_down_1_U) = integer_down_1 m x.1 := by kernel_rfl
theorem integer_down_1_ok (m : Nat) : FunOK Tryz.prog (integer_down_1_T m) :=
  fun_ok hmix htt (integer_down_1_T m) Tryz.func115 (c := integer_down_1_C) (by kernel_rfl) (by kernel_rfl) (Lc := []) (AllF.mem (l := []) trivial) (L := []) (fun _ hE _ _ => loopsIn_of integer_down_1_C_ls trivial) (fun x => (integer_down_1_kr m x).trans (by kernel_rfl))
/-! 116 slices.IndexFunc___uint32_uint32_ -/
def slices_IndexFunc_2_H : Hints := { regs := [⟨[], [0, 1]⟩, ⟨[], [0, 1, 7, 8]⟩, ⟨[], [0, 1, 7, 8, 9]⟩, ⟨[], [0, 1, 5, 7, 8]⟩, ⟨[], [0, 1, 5, 7, 8, 16]⟩, ⟨[(0, 1)], [4]⟩, ⟨[(1, 1)], [0, 1, 7, 8]⟩, ⟨[], [4]⟩], heads := [(0, [0, 1, 7, 8])], exits := [(0, []), (1, [0, 1, 7, 8])], rets := [4], pins := [], spec := [[false]] }
abbrev slices_IndexFunc_2_A : List Sh := [.a (.c (.imm (.int .u32))), .a (.c (.fn 115))]
abbrev slices_IndexFunc_2_S : Sh := .a (.c (.int .i64))
abbrev slices_IndexFunc_2_U : List Sh := [.a (.c .dead), .a (.c .dead)]
def slices_IndexFunc_2_R (m : Nat) : ShLVal slices_IndexFunc_2_A → Option (slices_IndexFunc_2_S.Val × ShLVal slices_IndexFunc_2_U) := fun (x : List Int × Unit × Unit) => slices_IndexFunc_2 m x.1
def slices_IndexFunc_2_T (m : Nat) : FunT := ⟨116, slices_IndexFunc_2_A, slices_IndexFunc_2_S, slices_IndexFunc_2_U, slices_IndexFunc_2_R m⟩
noncomputable def slices_IndexFunc_2_C : Code := codeOf Tryz.f116
noncomputable def slices_IndexFunc_2_B0 : Code := loopAt slices_IndexFunc_2_C 0 0
theorem slices_IndexFunc_2_B0_ls : loopsL slices_IndexFunc_2_B0 0 = [] := by kernel_rfl
theorem slices_IndexFunc_2_C_ls : loopsL slices_IndexFunc_2_C 0 = [(0, slices_IndexFunc_2_B0)] := by kernel_rfl
abbrev slices_IndexFunc_2_L0_I : SS := [(0, .a (.c (.imm (.int .u32)))), (1, .a (.c (.fn 115))), (7, .a (.c (.int .i64))), (8, .a (.c (.int .i64)))]
abbrev slices_IndexFunc_2_L0_O : List (Ex × SS) := [(.ret, [(4, .a (.c (.int .i64)))]), (.exit 0, [])]
def slices_IndexFunc_2_L0_R (m n : Nat) : slices_IndexFunc_2_L0_I.Val → Option (outVal slices_IndexFunc_2_L0_O) := (fun (x : List Int × Unit × Int × Int × Unit) => slices_IndexFunc_2_L0 m n x.1 x.2.2.1 x.2.2.2.1)
def slices_IndexFunc_2_L0_T (m n : Nat) : LoopT := ⟨0, slices_IndexFunc_2_L0_I, slices_IndexFunc_2_L0_O, slices_IndexFunc_2_L0_R m n⟩
theorem slices_IndexFunc_2_L0_kr (m n : Nat) (x : slices_IndexFunc_2_L0_I.Val) : roundK (mkC (outVal slices_IndexFunc_2_L0_O) [integer_down_1_T m]) (mkLp (outVal slices_IndexFunc_2_L0_O) []) tt 19 slices_IndexFunc_2_H slices_IndexFunc_2_B0 0 (slices_IndexFunc_2_L0_I.enc x) (Kl (ins := slices_IndexFunc_2_L0_I) (outs := slices_IndexFunc_2_L0_O) (slices_IndexFunc_2_L0_R m n)) = slices_IndexFunc_2_L0 m (n + 1) x.1 x.2.2.1 x.2.2.2.1 := by kernel_rfl
theorem slices_IndexFunc_2_L0_ok {E : Entry} (hE : EOf Tryz.prog E 19 slices_IndexFunc_2_H.pins) (m : Nat) (n : Nat) : LoopOK Tryz.prog E slices_IndexFunc_2_B0 (slices_IndexFunc_2_L0_T m n) :=
  loop_ok (CO := CallOK Tryz.prog) hmix htt (fun _ _ _ _ h => h) hE (C := fun R => mkC R [integer_down_1_T m]) (L := []) (fun _ _ _ _ _ h => mkC_spec (AllF.mem (l := [integer_down_1_T m]) ⟨integer_down_1_ok m, trivial⟩) h) (fun _ _ => loopsIn_of slices_IndexFunc_2_B0_ls trivial) (fun n => (slices_IndexFunc_2_L0_R m n)) (fun _ => by kernel_rfl) (fun n x => (slices_IndexFunc_2_L0_kr m n x).trans (by kernel_rfl)) n
theorem slices_IndexFunc_2_kr (m : Nat) (x : ShLVal slices_IndexFunc_2_A) : fnK (mkC (slices_IndexFunc_2_S.Val × ShLVal slices_IndexFunc_2_U) [integer_down_1_T m]) (mkLp (slices_IndexFunc_2_S.Val × ShLVal slices_IndexFunc_2_U) [slices_IndexFunc_2_L0_T m m]) tt slices_IndexFunc_2_H Tryz.f116 (encS slices_IndexFunc_2_A x) (Kd slices_IndexFunc_2_S slices_IndexFunc_2_U) = slices_IndexFunc_2 m x.1 := by kernel_rfl
theorem slices_IndexFunc_2_ok (m : Nat) : FunOK Tryz.prog (slices_IndexFunc_2_T m) :=
  fun_ok hmix htt (slices_IndexFunc_2_T m) Tryz.func116 (c := slices_IndexFunc_2_C) (by kernel_rfl) (by kernel_rfl) (Lc := [integer_down_1_T m]) (AllF.mem (l := [integer_down_1_T m]) ⟨integer_down_1_ok m, trivial⟩) (L := [slices_IndexFunc_2_L0_T m m]) (fun _ hE _ _ => loopsIn_of slices_IndexFunc_2_C_ls ⟨mkLp_all ⟨fun _ => slices_IndexFunc_2_L0_ok hE m m, trivial⟩, trivial⟩) (fun x => (slices_IndexFunc_2_kr m x).trans (by kernel_rfl))
/-! 114 slices.ContainsFunc___uint32_uint32_ -/
def slices_ContainsFunc_2_H : Hints := { regs := [⟨[], [0, 1]⟩, ⟨[(0, 1), (1, 1)], [4]⟩], heads := [], exits := [], rets := [4], pins := [], spec := [[false]] }
abbrev slices_ContainsFunc_2_A : List Sh := [.a (.c (.imm (.int .u32))), .a (.c (.fn 115))]
abbrev slices_ContainsFunc_2_S : Sh := .a (.c .bool)
abbrev slices_ContainsFunc_2_U : List Sh := [.a (.c .dead), .a (.c .dead)]
def slices_ContainsFunc_2_R (m : Nat) : ShLVal slices_ContainsFunc_2_A → Option (slices_ContainsFunc_2_S.Val × ShLVal slices_ContainsFunc_2_U) := fun (x : List Int × Unit × Unit) => slices_ContainsFunc_2 m x.1
def slices_ContainsFunc_2_T (m : Nat) : FunT := ⟨114, slices_ContainsFunc_2_A, slices_ContainsFunc_2_S, slices_ContainsFunc_2_U, slices_ContainsFunc_2_R m⟩
noncomputable def slices_ContainsFunc_2_C : Code := codeOf Tryz.f114
theorem slices_ContainsFunc_2_C_ls : loopsL slices_ContainsFunc_2_C 0 = [] := by kernel_rfl
theorem slices_ContainsFunc_2_kr (m : Nat) (x : ShLVal slices_ContainsFunc_2_A) : fnK (mkC (slices_ContainsFunc_2_S.Val × ShLVal slices_ContainsFunc_2_U) [slices_IndexFunc_2_T m]) (mkLp (slices_ContainsFunc_2_S.Val × ShLVal slices_ContainsFunc_2_U) []) tt slices_ContainsFunc_2_H Tryz.f114 (encS slices_ContainsFunc_2_A x) (Kd slices_ContainsFunc_2_S slices_ContainsFunc_2_U) = slices_ContainsFunc_2 m x.1 := by kernel_rfl
theorem slices_ContainsFunc_2_ok (m : Nat) : FunOK Tryz.prog (slices_ContainsFunc_2_T m) :=
  fun_ok hmix htt (slices_ContainsFunc_2_T m) Tryz.func114 (c := slices_ContainsFunc_2_C) (by kernel_rfl) (by kernel_rfl) (Lc := [slices_IndexFunc_2_T m]) (AllF.mem (l := [slices_IndexFunc_2_T m]) ⟨slices_IndexFunc_2_ok m, trivial⟩) (L := []) (fun _ hE _ _ => loopsIn_of slices_ContainsFunc_2_C_ls trivial) (fun x => (slices_ContainsFunc_2_kr m x).trans (by kernel_rfl))
/-! 112 sparse/integer.down -/
def integer_down_H : Hints := { regs := [⟨[], [0, 1]⟩, ⟨[], [0, 6, 7]⟩, ⟨[], [0, 6, 7, 20]⟩, ⟨[(0, 1)], [4, 5]⟩, ⟨[(4, 1)], [0, 6, 7, 8]⟩, ⟨[], [0, 6, 7, 8, 9]⟩, ⟨[], [0, 6, 7, 8, 9, 45, 46]⟩, ⟨[], [0, 6, 7, 8, 9, 45, 46, 47]⟩, ⟨[], [0, 6, 7, 8, 9, 10, 45, 46]⟩, ⟨[], [0, 6, 7, 8, 9, 10, 11, 45, 46]⟩, ⟨[], [0, 6, 7, 8, 9, 10, 11, 45, 46, 62]⟩, ⟨[(0, 1)], [0, 6, 7, 8, 9, 10, 11, 45, 46]⟩, ⟨[(1, 1), (2, 1)], [0, 6, 7, 8, 9, 45, 46]⟩, ⟨[(1, 1)], [0, 6, 7, 8, 9, 45, 46]⟩, ⟨[(0, 1), (2, 1)], [4, 5]⟩], heads := [(0, [0, 6, 7, 8, 9, 45, 46])], exits := [(0, [8, 9]), (1, [0, 6, 7, 8, 9, 45, 46])], rets := [4, 5], pins := [], spec := [[false], [false]] }
abbrev integer_down_A : List Sh := [.a (.c (.imm (.int .u32))), .a (.c (.int .i64))]
abbrev integer_down_S : Sh := .tup [(.c (.imm (.int .u32))), (.c .bool)]
abbrev integer_down_U : List Sh := [.a (.c .dead), .a (.c .dead)]
def integer_down_R (m : Nat) : ShLVal integer_down_A → Option (integer_down_S.Val × ShLVal integer_down_U) := fun (x : List Int × Int × Unit) => integer_down m x.1 x.2.1
def integer_down_T (m : Nat) : FunT := ⟨112, integer_down_A, integer_down_S, integer_down_U, integer_down_R m⟩
noncomputable def integer_down_C : Code := codeOf Tryz.f112
noncomputable def integer_down_B0 : Code := loopAt integer_down_C 0 0
theorem integer_down_B0_ls : loopsL integer_down_B0 0 = [] := by kernel_rfl
theorem integer_down_C_ls : loopsL integer_down_C 0 = [(0, integer_down_B0)] := by kernel_rfl
abbrev integer_down_L0_I : SS := [(0, .a (.c (.imm (.int .u32)))), (6, .a (.c (.int .i64))), (7, .a (.c (.int .u64))), (8, .a (.c .bool)), (9, .a (.c (.nm 0 (.int .u32)))), (45, .a (.c (.int .i64))), (46, .a (.c (.int .i64)))]
abbrev integer_down_L0_O : List (Ex × SS) := [(.exit 0, [(8, .a (.c .bool)), (9, .a (.c (.nm 0 (.int .u32))))])]
def integer_down_L0_R (m n : Nat) : integer_down_L0_I.Val → Option (outVal integer_down_L0_O) := (fun (x : List Int × Int × Int × Bool × List Int × Int × Int × Unit) => integer_down_L0 m n x.1 x.2.1 x.2.2.1 x.2.2.2.1 x.2.2.2.2.1 x.2.2.2.2.2.1 x.2.2.2.2.2.2.1)
def integer_down_L0_T (m n : Nat) : LoopT := ⟨0, integer_down_L0_I, integer_down_L0_O, integer_down_L0_R m n⟩
theorem integer_down_L0_kr (m n : Nat) (x : integer_down_L0_I.Val) : roundK (mkC (outVal integer_down_L0_O) [slices_ContainsFunc_2_T m, integer_trim_T m]) (mkLp (outVal integer_down_L0_O) []) tt 86 integer_down_H integer_down_B0 0 (integer_down_L0_I.enc x) (Kl (ins := integer_down_L0_I) (outs := integer_down_L0_O) (integer_down_L0_R m n)) = integer_down_L0 m (n + 1) x.1 x.2.1 x.2.2.1 x.2.2.2.1 x.2.2.2.2.1 x.2.2.2.2.2.1 x.2.2.2.2.2.2.1 := by kernel_rfl
theorem integer_down_L0_ok {E : Entry} (hE : EOf Tryz.prog E 86 integer_down_H.pins) (m : Nat) (n : Nat) : LoopOK Tryz.prog E integer_down_B0 (integer_down_L0_T m n) :=
  loop_ok (CO := CallOK Tryz.prog) hmix htt (fun _ _ _ _ h => h) hE (C := fun R => mkC R [slices_ContainsFunc_2_T m, integer_trim_T m]) (L := []) (fun _ _ _ _ _ h => mkC_spec (AllF.mem (l := [slices_ContainsFunc_2_T m, integer_trim_T m]) ⟨slices_ContainsFunc_2_ok m, integer_trim_ok m, trivial⟩) h) (fun _ _ => loopsIn_of integer_down_B0_ls trivial) (fun n => (integer_down_L0_R m n)) (fun _ => by kernel_rfl) (fun n x => (integer_down_L0_kr m n x).trans (by kernel_rfl)) n
theorem integer_down_kr (m : Nat) (x : ShLVal integer_down_A) : fnK (mkC (integer_down_S.Val × ShLVal integer_down_U) [slices_ContainsFunc_2_T m, integer_trim_T m]) (mkLp (integer_down_S.Val × ShLVal integer_down_U) [integer_down_L0_T m m]) tt integer_down_H Tryz.f112 (encS integer_down_A x) (Kd integer_down_S integer_down_U) = integer_down m x.1 x.2.1 := by kernel_rfl
theorem integer_down_ok (m : Nat) : FunOK Tryz.prog (integer_down_T m) :=
  fun_ok hmix htt (integer_down_T m) Tryz.func112 (c := integer_down_C) (by kernel_rfl) (by kernel_rfl) (Lc := [slices_ContainsFunc_2_T m, integer_trim_T m]) (AllF.mem (l := [slices_ContainsFunc_2_T m, integer_trim_T m]) ⟨slices_ContainsFunc_2_ok m, integer_trim_ok m, trivial⟩) (L := [integer_down_L0_T m m]) (fun _ hE _ _ => loopsIn_of integer_down_C_ls ⟨mkLp_all ⟨fun _ => integer_down_L0_ok hE m m, trivial⟩, trivial⟩) (fun x => (integer_down_kr m x).trans (by kernel_rfl))
/-! 113 sparse/integer.plus -/
def integer_plus_H : Hints := { regs := [⟨[], [0, 1]⟩, ⟨[], [0, 1, 14]⟩, ⟨[(0, 1), (1, 1)], [0, 1]⟩, ⟨[], [0, 1, 5]⟩, ⟨[], [0, 1, 5, 6]⟩, ⟨[(0, 1)], [1, 5, 6, 21, 22, 23]⟩, ⟨[], [1, 5, 6, 21, 22, 23, 24]⟩, ⟨[], [1, 5, 6, 7, 8, 21, 22, 23]⟩, ⟨[(0, 1), (2, 1)], [1, 5, 7, 9, 21, 22, 23]⟩, ⟨[], [1, 5, 7, 9, 21, 22, 23, 35]⟩, ⟨[(0, 1), (2, 1)], [1, 5, 9, 21, 22, 23]⟩, ⟨[(0, 1)], [1, 5, 9, 21, 22, 23]⟩, ⟨[(0, 1)], [1, 5, 6, 21, 22, 23]⟩, ⟨[(1, 1)], [1, 5, 6, 21, 22, 23]⟩, ⟨[(0, 1), (1, 1)], [4]⟩], heads := [(0, [1, 5, 6, 21, 22, 23])], exits := [(0, [5, 6]), (1, [1, 5, 6, 21, 22, 23])], rets := [4], pins := [], spec := [[false]] }
abbrev integer_plus_A : List Sh := [.a (.c (.imm (.int .u32))), .a (.c (.imm (.int .u32)))]
abbrev integer_plus_S : Sh := .a (.c (.imm (.int .u32)))
abbrev integer_plus_U : List Sh := [.a (.c .dead), .a (.c .dead)]
def integer_plus_R (m : Nat) : ShLVal integer_plus_A → Option (integer_plus_S.Val × ShLVal integer_plus_U) := fun (x : List Int × List Int × Unit) => integer_plus m x.1 x.2.1
def integer_plus_T (m : Nat) : FunT := ⟨113, integer_plus_A, integer_plus_S, integer_plus_U, integer_plus_R m⟩
noncomputable def integer_plus_C : Code := codeOf Tryz.f113
noncomputable def integer_plus_B0 : Code := loopAt integer_plus_C 0 0
theorem integer_plus_B0_ls : loopsL integer_plus_B0 0 = [] := by kernel_rfl
theorem integer_plus_C_ls : loopsL integer_plus_C 0 = [(0, integer_plus_B0)] := by kernel_rfl
abbrev integer_plus_L0_I : SS := [(1, .a (.c (.imm (.int .u32)))), (5, .a (.c (.nm 0 (.int .u32)))), (6, .a (.c (.int .u64))), (21, .a (.c (.imm (.int .u32)))), (22, .a (.c (.int .i64))), (23, .a (.c (.int .i64)))]
abbrev integer_plus_L0_O : List (Ex × SS) := [(.exit 0, [(5, .a (.c (.nm 0 (.int .u32)))), (6, .a (.c (.int .u64)))])]
def integer_plus_L0_R (m n : Nat) : integer_plus_L0_I.Val → Option (outVal integer_plus_L0_O) := (fun (x : List Int × List Int × Int × List Int × Int × Int × Unit) => integer_plus_L0 m n x.1 x.2.1 x.2.2.1 x.2.2.2.1 x.2.2.2.2.1 x.2.2.2.2.2.1)
def integer_plus_L0_T (m n : Nat) : LoopT := ⟨0, integer_plus_L0_I, integer_plus_L0_O, integer_plus_L0_R m n⟩
theorem integer_plus_L0_kr (m n : Nat) (x : integer_plus_L0_I.Val) : roundK (mkC (outVal integer_plus_L0_O) [integer_trim_T m]) (mkLp (outVal integer_plus_L0_O) []) tt 58 integer_plus_H integer_plus_B0 0 (integer_plus_L0_I.enc x) (Kl (ins := integer_plus_L0_I) (outs := integer_plus_L0_O) (integer_plus_L0_R m n)) = integer_plus_L0 m (n + 1) x.1 x.2.1 x.2.2.1 x.2.2.2.1 x.2.2.2.2.1 x.2.2.2.2.2.1 := by kernel_rfl
theorem integer_plus_L0_ok {E : Entry} (hE : EOf Tryz.prog E 58 integer_plus_H.pins) (m : Nat) (n : Nat) : LoopOK Tryz.prog E integer_plus_B0 (integer_plus_L0_T m n) :=
  loop_ok (CO := CallOK Tryz.prog) hmix htt (fun _ _ _ _ h => h) hE (C := fun R => mkC R [integer_trim_T m]) (L := []) (fun _ _ _ _ _ h => mkC_spec (AllF.mem (l := [integer_trim_T m]) ⟨integer_trim_ok m, trivial⟩) h) (fun _ _ => loopsIn_of integer_plus_B0_ls trivial) (fun n => (integer_plus_L0_R m n)) (fun _ => by kernel_rfl) (fun n x => (integer_plus_L0_kr m n x).trans (by kernel_rfl)) n
theorem integer_plus_kr (m : Nat) (x : ShLVal integer_plus_A) : fnK (mkC (integer_plus_S.Val × ShLVal integer_plus_U) [integer_trim_T m]) (mkLp (integer_plus_S.Val × ShLVal integer_plus_U) [integer_plus_L0_T m m]) tt integer_plus_H Tryz.f113 (encS integer_plus_A x) (Kd integer_plus_S integer_plus_U) = integer_plus m x.1 x.2.1 := by kernel_rfl
theorem integer_plus_ok (m : Nat) : FunOK Tryz.prog (integer_plus_T m) :=
  fun_ok hmix htt (integer_plus_T m) Tryz.func113 (c := integer_plus_C) (by kernel_rfl) (by kernel_rfl) (Lc := [integer_trim_T m]) (AllF.mem (l := [integer_trim_T m]) ⟨integer_trim_ok m, trivial⟩) (L := [integer_plus_L0_T m m]) (fun _ hE _ _ => loopsIn_of integer_plus_C_ls ⟨mkLp_all ⟨fun _ => integer_plus_L0_ok hE m m, trivial⟩, trivial⟩) (fun x => (integer_plus_kr m x).trans (by kernel_rfl))
/-! 110 sparse/integer.Shift -/
def integer_Shift_H : Hints := { regs := [⟨[], [1, 2, 4]⟩, ⟨[(2, 1)], [1, 2, 4, 14]⟩, ⟨[], [4, 5]⟩, ⟨[], [1, 2, 4, 6]⟩, ⟨[], [1, 2, 4, 6, 20]⟩, ⟨[(2, 1), (3, 1)], [4, 5]⟩, ⟨[(0, 1), (1, 1), (4, 1)], [2, 4, 7, 8]⟩, ⟨[(2, 1), (3, 1)], [2, 4, 7, 38]⟩, ⟨[(0, 1)], [2, 4, 7]⟩, ⟨[(2, 1)], [4, 5]⟩], heads := [], exits := [], rets := [4, 5], pins := [], spec := [[false, false], [false]] }
abbrev integer_Shift_A : List Sh := [.a (.agg [.bool, (.imm (.int .u32))]), .a (.c (.int .i64))]
abbrev integer_Shift_S : Sh := .tup [(.agg [.bool, (.imm (.int .u32))]), (.c (.int .i64))]
abbrev integer_Shift_U : List Sh := [.a (.c .dead), .a (.c .dead)]
def integer_Shift_R (m : Nat) : ShLVal integer_Shift_A → Option (integer_Shift_S.Val × ShLVal integer_Shift_U) := fun (x : (Bool × List Int × Unit) × Int × Unit) => integer_Shift m x.1.1 x.1.2.1 x.2.1
def integer_Shift_T (m : Nat) : FunT := ⟨110, integer_Shift_A, integer_Shift_S, integer_Shift_U, integer_Shift_R m⟩
noncomputable def integer_Shift_C : Code := codeOf Tryz.f110
theorem integer_Shift_C_ls : loopsL integer_Shift_C 0 = [] := by kernel_rfl
theorem integer_Shift_kr (m : Nat) (x : ShLVal integer_Shift_A) : fnK (mkC (integer_Shift_S.Val × ShLVal integer_Shift_U) [integer_trim_T m, integer_up_T m, integer_big_T m, integer_down_T m, integer_plus_T m]) (mkLp (integer_Shift_S.Val × ShLVal integer_Shift_U) []) tt integer_Shift_H Tryz.f110 (encS integer_Shift_A x) (Kd integer_Shift_S integer_Shift_U) = integer_Shift m x.1.1 x.1.2.1 x.2.1 := by kernel_rfl
theorem integer_Shift_ok (m : Nat) : FunOK Tryz.prog (integer_Shift_T m) :=
  fun_ok hmix htt (integer_Shift_T m) Tryz.func110 (c := integer_Shift_C) (by kernel_rfl) (by kernel_rfl) (Lc := [integer_trim_T m, integer_up_T m, integer_big_T m, integer_down_T m, integer_plus_T m]) (AllF.mem (l := [integer_trim_T m, integer_up_T m, integer_big_T m, integer_down_T m, integer_plus_T m]) ⟨integer_trim_ok m, integer_up_ok m, integer_big_ok m, integer_down_ok m, integer_plus_ok m, trivial⟩) (L := []) (fun _ hE _ _ => loopsIn_of integer_Shift_C_ls trivial) (fun x => (integer_Shift_kr m x).trans (by kernel_rfl))
/-! 100 sparse/dyad.right -/
def dyad_right_H : Hints := { regs := [⟨[], [1, 2, 4]⟩, ⟨[], [1, 2, 4, 6]⟩, ⟨[(2, 1)], [1, 2, 4]⟩, ⟨[(0, 1)], [1, 2, 4]⟩, ⟨[(1, 1), (4, 1)], [2, 4]⟩, ⟨[], [4]⟩], heads := [(0, [1, 2, 4])], exits := [(0, [1, 2, 4]), (1, [1, 2, 4])], rets := [4], pins := [], spec := [[false, false]] }
abbrev dyad_right_A : List Sh := [.a (.agg [.bool, (.imm (.int .u32))]), .a (.c (.int .i64))]
abbrev dyad_right_S : Sh := .a (.agg [.bool, (.imm (.int .u32))])
abbrev dyad_right_U : List Sh := [.a (.c .dead), .a (.c .dead)]
def dyad_right_R (m : Nat) : ShLVal dyad_right_A → Option (dyad_right_S.Val × ShLVal dyad_right_U) := fun (x : (Bool × List Int × Unit) × Int × Unit) => dyad_right m x.1.1 x.1.2.1 x.2.1
def dyad_right_T (m : Nat) : FunT := ⟨100, dyad_right_A, dyad_right_S, dyad_right_U, dyad_right_R m⟩
noncomputable def dyad_right_C : Code := codeOf Tryz.f100
noncomputable def dyad_right_B0 : Code := loopAt dyad_right_C 0 0
theorem dyad_right_B0_ls : loopsL dyad_right_B0 0 = [] := by kernel_rfl
theorem dyad_right_C_ls : loopsL dyad_right_C 0 = [(0, dyad_right_B0)] := by kernel_rfl
abbrev dyad_right_L0_I : SS := [(1, .a (.c (.int .i64))), (2, .a (.bx 0 [.bool, (.imm (.int .u32))])), (4, .a (.bx 1 [.bool, (.nm 2 (.int .u32))]))]
abbrev dyad_right_L0_O : List (Ex × SS) := [(.exit 0, [(1, .a (.c (.int .i64))), (2, .a (.bx 0 [.bool, (.imm (.int .u32))])), (4, .a (.bx 1 [.bool, (.nm 2 (.int .u32))]))])]
def dyad_right_L0_R (m n : Nat) : dyad_right_L0_I.Val → Option (outVal dyad_right_L0_O) := (fun (x : Int × (Bool × List Int × Unit) × (Bool × List Int × Unit) × Unit) => dyad_right_L0 m n x.1 x.2.1.1 x.2.1.2.1 x.2.2.1.1 x.2.2.1.2.1)
def dyad_right_L0_T (m n : Nat) : LoopT := ⟨0, dyad_right_L0_I, dyad_right_L0_O, dyad_right_L0_R m n⟩
theorem dyad_right_L0_kr (m n : Nat) (x : dyad_right_L0_I.Val) : roundK (mkC (outVal dyad_right_L0_O) [integer_Shift_T m]) (mkLp (outVal dyad_right_L0_O) []) tt 22 dyad_right_H dyad_right_B0 0 (dyad_right_L0_I.enc x) (Kl (ins := dyad_right_L0_I) (outs := dyad_right_L0_O) (dyad_right_L0_R m n)) = dyad_right_L0 m (n + 1) x.1 x.2.1.1 x.2.1.2.1 x.2.2.1.1 x.2.2.1.2.1 := by kernel_rfl
theorem dyad_right_L0_ok {E : Entry} (hE : EOf Tryz.prog E 22 dyad_right_H.pins) (m : Nat) (n : Nat) : LoopOK Tryz.prog E dyad_right_B0 (dyad_right_L0_T m n) :=
  loop_ok (CO := CallOK Tryz.prog) hmix htt (fun _ _ _ _ h => h) hE (C := fun R => mkC R [integer_Shift_T m]) (L := []) (fun _ _ _ _ _ h => mkC_spec (AllF.mem (l := [integer_Shift_T m]) ⟨integer_Shift_ok m, trivial⟩) h) (fun _ _ => loopsIn_of dyad_right_B0_ls trivial) (fun n => (dyad_right_L0_R m n)) (fun _ => by kernel_rfl) (fun n x => (dyad_right_L0_kr m n x).trans (by kernel_rfl)) n
theorem dyad_right_kr (m : Nat) (x : ShLVal dyad_right_A) : fnK (mkC (dyad_right_S.Val × ShLVal dyad_right_U) [integer_Shift_T m]) (mkLp (dyad_right_S.Val × ShLVal dyad_right_U) [dyad_right_L0_T m m]) tt dyad_right_H Tryz.f100 (encS dyad_right_A x) (Kd dyad_right_S dyad_right_U) = dyad_right m x.1.1 x.1.2.1 x.2.1 := by kernel_rfl
theorem dyad_right_ok (m : Nat) : FunOK Tryz.prog (dyad_right_T m) :=
  fun_ok hmix htt (dyad_right_T m) Tryz.func100 (c := dyad_right_C) (by kernel_rfl) (by kernel_rfl) (Lc := [integer_Shift_T m]) (AllF.mem (l := [integer_Shift_T m]) ⟨integer_Shift_ok m, trivial⟩) (L := [dyad_right_L0_T m m]) (fun _ hE _ _ => loopsIn_of dyad_right_C_ls ⟨mkLp_all ⟨fun _ => dyad_right_L0_ok hE m m, trivial⟩, trivial⟩) (fun x => (dyad_right_kr m x).trans (by kernel_rfl))
/-! 80 sparse/dyad.norm -/
def dyad_norm_H : Hints := { regs := [⟨[], [1, 2]⟩, ⟨[], [1, 2, 7]⟩, ⟨[], [2, 3]⟩, ⟨[], [1, 2, 4]⟩, ⟨[], [1, 2, 4, 14]⟩, ⟨[], [2, 3]⟩, ⟨[], [1, 2, 4, 5]⟩, ⟨[(6, 1)], [1, 2, 4, 5, 30]⟩, ⟨[], [2, 3]⟩, ⟨[], [2, 3]⟩], heads := [], exits := [], rets := [2, 3], pins := [], spec := [[false, false, false, false], [false]] }
abbrev dyad_norm_A : List Sh := [.a (.agg [.bool, .bool, (.imm (.int .u32)), (.int .i64)])]
abbrev dyad_norm_S : Sh := .tup [(.agg [.bool, .bool, (.imm (.int .u32)), (.int .i64)]), (.c .bool)]
abbrev dyad_norm_U : List Sh := [.a (.c .dead)]
def dyad_norm_R (m : Nat) : ShLVal dyad_norm_A → Option (dyad_norm_S.Val × ShLVal dyad_norm_U) := fun (x : (Bool × Bool × List Int × Int × Unit) × Unit) => dyad_norm m x.1.1 x.1.2.1 x.1.2.2.1 x.1.2.2.2.1
def dyad_norm_T (m : Nat) : FunT := ⟨80, dyad_norm_A, dyad_norm_S, dyad_norm_U, dyad_norm_R m⟩
noncomputable def dyad_norm_C : Code := codeOf Tryz.f80
theorem dyad_norm_C_ls : loopsL dyad_norm_C 0 = [] := by kernel_rfl
theorem dyad_norm_kr (m : Nat) (x : ShLVal dyad_norm_A) : fnK (mkC (dyad_norm_S.Val × ShLVal dyad_norm_U) [dyad_bad_T m, integer_Norm_T m, integer_Sign_T m, integer_TrailingZeros_T m, integer_BitLen_T m, dyad_right_T m]) (mkLp (dyad_norm_S.Val × ShLVal dyad_norm_U) []) tt dyad_norm_H Tryz.f80 (encS dyad_norm_A x) (Kd dyad_norm_S dyad_norm_U) = dyad_norm m x.1.1 x.1.2.1 x.1.2.2.1 x.1.2.2.2.1 := by kernel_rfl
theorem dyad_norm_ok (m : Nat) : FunOK Tryz.prog (dyad_norm_T m) :=
  fun_ok hmix htt (dyad_norm_T m) Tryz.func80 (c := dyad_norm_C) (by kernel_rfl) (by kernel_rfl) (Lc := [dyad_bad_T m, integer_Norm_T m, integer_Sign_T m, integer_TrailingZeros_T m, integer_BitLen_T m, dyad_right_T m]) (AllF.mem (l := [dyad_bad_T m, integer_Norm_T m, integer_Sign_T m, integer_TrailingZeros_T m, integer_BitLen_T m, dyad_right_T m]) ⟨dyad_bad_ok m, integer_Norm_ok m, integer_Sign_ok m, integer_TrailingZeros_ok m, integer_BitLen_ok m, dyad_right_ok m, trivial⟩) (L := []) (fun _ hE _ _ => loopsIn_of dyad_norm_C_ls trivial) (fun x => (dyad_norm_kr m x).trans (by kernel_rfl))
/-! 86 sparse/dyad.Make -/
def dyad_Make_H : Hints := { regs := [⟨[], [1, 2, 4]⟩, ⟨[(1, 1), (4, 1)], [4, 5]⟩, ⟨[], [4]⟩], heads := [], exits := [], rets := [4], pins := [], spec := [[false, false, false, false]] }
abbrev dyad_Make_A : List Sh := [.a (.agg [.bool, (.imm (.int .u32))]), .a (.c (.int .i64))]
abbrev dyad_Make_S : Sh := .a (.agg [.bool, .bool, (.imm (.int .u32)), (.int .i64)])
abbrev dyad_Make_U : List Sh := [.a (.c .dead), .a (.c .dead)]
def dyad_Make_R (m : Nat) : ShLVal dyad_Make_A → Option (dyad_Make_S.Val × ShLVal dyad_Make_U) := fun (x : (Bool × List Int × Unit) × Int × Unit) => dyad_Make m x.1.1 x.1.2.1 x.2.1
def dyad_Make_T (m : Nat) : FunT := ⟨86, dyad_Make_A, dyad_Make_S, dyad_Make_U, dyad_Make_R m⟩
noncomputable def dyad_Make_C : Code := codeOf Tryz.f86
theorem dyad_Make_C_ls : loopsL dyad_Make_C 0 = [] := by kernel_rfl
theorem dyad_Make_kr (m : Nat) (x : ShLVal dyad_Make_A) : fnK (mkC (dyad_Make_S.Val × ShLVal dyad_Make_U) [dyad_norm_T m]) (mkLp (dyad_Make_S.Val × ShLVal dyad_Make_U) []) tt dyad_Make_H Tryz.f86 (encS dyad_Make_A x) (Kd dyad_Make_S dyad_Make_U) = dyad_Make m x.1.1 x.1.2.1 x.2.1 := by kernel_rfl
theorem dyad_Make_ok (m : Nat) : FunOK Tryz.prog (dyad_Make_T m) :=
  fun_ok hmix htt (dyad_Make_T m) Tryz.func86 (c := dyad_Make_C) (by kernel_rfl) (by kernel_rfl) (Lc := [dyad_norm_T m]) (AllF.mem (l := [dyad_norm_T m]) ⟨dyad_norm_ok m, trivial⟩) (L := []) (fun _ hE _ _ => loopsIn_of dyad_Make_C_ls trivial) (fun x => (dyad_Make_kr m x).trans (by kernel_rfl))
/-! 64 sparse/float.Of -/
def float_Of_H : Hints := { regs := [⟨[], [0, 2]⟩, ⟨[(2, 1)], [0, 2, 3, 4]⟩, ⟨[], [0, 2, 3, 4, 11]⟩, ⟨[(0, 1)], [0, 2, 3, 4]⟩, ⟨[(0, 1)], [0, 2, 3, 4]⟩, ⟨[], [0, 2, 3, 4, 11, 16]⟩, ⟨[], [2]⟩, ⟨[], [0, 2, 3, 4, 19]⟩, ⟨[], [0, 2, 3, 4]⟩, ⟨[(0, 1)], [0, 2, 3, 5]⟩, ⟨[(0, 1)], [2, 3, 5, 25]⟩, ⟨[], [2, 3, 5]⟩, ⟨[(1, 1)], [2]⟩], heads := [], exits := [(0, [0, 2, 3, 4])], rets := [2], pins := [], spec := [[false, false, false, false]] }
abbrev float_Of_A : List Sh := [.a (.c (.int .u64))]
abbrev float_Of_S : Sh := .a (.agg [.bool, .bool, (.imm (.int .u32)), (.int .i64)])
abbrev float_Of_U : List Sh := [.a (.c .dead)]
def float_Of_R (m : Nat) : ShLVal float_Of_A → Option (float_Of_S.Val × ShLVal float_Of_U) := fun (x : Int × Unit) => float_Of m x.1
def float_Of_T (m : Nat) : FunT := ⟨64, float_Of_A, float_Of_S, float_Of_U, float_Of_R m⟩
noncomputable def float_Of_C : Code := codeOf Tryz.f64
theorem float_Of_C_ls : loopsL float_Of_C 0 = [] := by kernel_rfl
theorem float_Of_kr (m : Nat) (x : ShLVal float_Of_A) : fnK (mkC (float_Of_S.Val × ShLVal float_Of_U) [float_parts_T m, integer_FromInt_T m, float_negative_T m, integer_Neg_T m, dyad_Make_T m]) (mkLp (float_Of_S.Val × ShLVal float_Of_U) []) tt float_Of_H Tryz.f64 (encS float_Of_A x) (Kd float_Of_S float_Of_U) = float_Of m x.1 := by kernel_rfl
theorem float_Of_ok (m : Nat) : FunOK Tryz.prog (float_Of_T m) :=
  fun_ok hmix htt (float_Of_T m) Tryz.func64 (c := float_Of_C) (by kernel_rfl) (by kernel_rfl) (Lc := [float_parts_T m, integer_FromInt_T m, float_negative_T m, integer_Neg_T m, dyad_Make_T m]) (AllF.mem (l := [float_parts_T m, integer_FromInt_T m, float_negative_T m, integer_Neg_T m, dyad_Make_T m]) ⟨float_parts_ok m, integer_FromInt_ok m, float_negative_ok m, integer_Neg_ok m, dyad_Make_ok m, trivial⟩) (L := []) (fun _ hE _ _ => loopsIn_of float_Of_C_ls trivial) (fun x => (float_Of_kr m x).trans (by kernel_rfl))
/-! 63 sparse/dyad.Log2 -/
def dyad_Log2_H : Hints := { regs := [⟨[], [1]⟩, ⟨[(2, 1)], [1, 4]⟩, ⟨[(0, 1), (2, 1)], [1, 17]⟩, ⟨[], [2, 3]⟩, ⟨[], [2, 3]⟩], heads := [], exits := [], rets := [2, 3], pins := [], spec := [[false], [false]] }
abbrev dyad_Log2_A : List Sh := [.a (.agg [.bool, .bool, (.imm (.int .u32)), (.int .i64)])]
abbrev dyad_Log2_S : Sh := .tup [(.c (.int .i64)), (.c .bool)]
abbrev dyad_Log2_U : List Sh := [.a (.c .dead)]
def dyad_Log2_R (m : Nat) : ShLVal dyad_Log2_A → Option (dyad_Log2_S.Val × ShLVal dyad_Log2_U) := fun (x : (Bool × Bool × List Int × Int × Unit) × Unit) => dyad_Log2 m x.1.1 x.1.2.1 x.1.2.2.1 x.1.2.2.2.1
def dyad_Log2_T (m : Nat) : FunT := ⟨63, dyad_Log2_A, dyad_Log2_S, dyad_Log2_U, dyad_Log2_R m⟩
noncomputable def dyad_Log2_C : Code := codeOf Tryz.f63
theorem dyad_Log2_C_ls : loopsL dyad_Log2_C 0 = [] := by kernel_rfl
theorem dyad_Log2_kr (m : Nat) (x : ShLVal dyad_Log2_A) : fnK (mkC (dyad_Log2_S.Val × ShLVal dyad_Log2_U) [dyad_norm_T m, integer_Sign_T m, integer_BitLen_T m]) (mkLp (dyad_Log2_S.Val × ShLVal dyad_Log2_U) []) tt dyad_Log2_H Tryz.f63 (encS dyad_Log2_A x) (Kd dyad_Log2_S dyad_Log2_U) = dyad_Log2 m x.1.1 x.1.2.1 x.1.2.2.1 x.1.2.2.2.1 := by kernel_rfl
theorem dyad_Log2_ok (m : Nat) : FunOK Tryz.prog (dyad_Log2_T m) :=
  fun_ok hmix htt (dyad_Log2_T m) Tryz.func63 (c := dyad_Log2_C) (by kernel_rfl) (by kernel_rfl) (Lc := [dyad_norm_T m, integer_Sign_T m, integer_BitLen_T m]) (AllF.mem (l := [dyad_norm_T m, integer_Sign_T m, integer_BitLen_T m]) ⟨dyad_norm_ok m, integer_Sign_ok m, integer_BitLen_ok m, trivial⟩) (L := []) (fun _ hE _ _ => loopsIn_of dyad_Log2_C_ls trivial) (fun x => (dyad_Log2_kr m x).trans (by kernel_rfl))
/-! 39 sparse/float.Exponent -/
def float_Exponent_H : Hints := { regs := [⟨[], [0]⟩, ⟨[(0, 1)], [2, 3]⟩], heads := [], exits := [], rets := [2, 3], pins := [], spec := [[false], [false]] }
abbrev float_Exponent_A : List Sh := [.a (.c (.int .u64))]
abbrev float_Exponent_S : Sh := .tup [(.c (.int .i64)), (.c .bool)]
abbrev float_Exponent_U : List Sh := [.a (.c .dead)]
def float_Exponent_R (m : Nat) : ShLVal float_Exponent_A → Option (float_Exponent_S.Val × ShLVal float_Exponent_U) := fun (x : Int × Unit) => float_Exponent m x.1
def float_Exponent_T (m : Nat) : FunT := ⟨39, float_Exponent_A, float_Exponent_S, float_Exponent_U, float_Exponent_R m⟩
noncomputable def float_Exponent_C : Code := codeOf Tryz.f39
theorem float_Exponent_C_ls : loopsL float_Exponent_C 0 = [] := by kernel_rfl
theorem float_Exponent_kr (m : Nat) (x : ShLVal float_Exponent_A) : fnK (mkC (float_Exponent_S.Val × ShLVal float_Exponent_U) [float_Of_T m, dyad_Log2_T m]) (mkLp (float_Exponent_S.Val × ShLVal float_Exponent_U) []) tt float_Exponent_H Tryz.f39 (encS float_Exponent_A x) (Kd float_Exponent_S float_Exponent_U) = float_Exponent m x.1 := by kernel_rfl
theorem float_Exponent_ok (m : Nat) : FunOK Tryz.prog (float_Exponent_T m) :=
  fun_ok hmix htt (float_Exponent_T m) Tryz.func39 (c := float_Exponent_C) (by kernel_rfl) (by kernel_rfl) (Lc := [float_Of_T m, dyad_Log2_T m]) (AllF.mem (l := [float_Of_T m, dyad_Log2_T m]) ⟨float_Of_ok m, dyad_Log2_ok m, trivial⟩) (L := []) (fun _ hE _ _ => loopsIn_of float_Exponent_C_ls trivial) (fun x => (float_Exponent_kr m x).trans (by kernel_rfl))
/-! 23 sparse/transversal.edges -/
def transversal_edges_H : Hints := { regs := [⟨[], [1]⟩, ⟨[(2, 4)], [1, 3]⟩, ⟨[], [3, 12, 13, 14]⟩, ⟨[], [3, 12, 13, 14, 15]⟩, ⟨[], [3, 5, 12, 13, 14]⟩, ⟨[(3, 1)], [3, 5, 6, 7, 12, 13, 14]⟩, ⟨[(0, 1)], [3, 5, 6, 12, 13, 14, 24]⟩, ⟨[(7, 4), (10, 1), (15, 4)], [3, 12, 13, 14]⟩, ⟨[(1, 1)], [3, 12, 13, 14]⟩, ⟨[(0, 1)], [2]⟩], heads := [(0, [3, 12, 13, 14])], exits := [(0, [3]), (1, [3, 12, 13, 14])], rets := [2], pins := [], spec := [[false]] }
abbrev transversal_edges_A : List Sh := [.a (.agg [(.int .i64), (.int .i64), (.imm (.int .i64)), (.imm (.int .i64)), (.imm (.int .u64))])]
abbrev transversal_edges_S : Sh := .a (.c (.imm (.sl false (.pr (.int .i64) (.int .i64)))))
abbrev transversal_edges_U : List Sh := [.a (.c .dead)]
def transversal_edges_R (m : Nat) : ShLVal transversal_edges_A → Option (transversal_edges_S.Val × ShLVal transversal_edges_U) := fun (x : (Int × Int × List Int × List Int × List Int × Unit) × Unit) => transversal_edges m x.1.1 x.1.2.1 x.1.2.2.1 x.1.2.2.2.1 x.1.2.2.2.2.1
def transversal_edges_T (m : Nat) : FunT := ⟨23, transversal_edges_A, transversal_edges_S, transversal_edges_U, transversal_edges_R m⟩
noncomputable def transversal_edges_C : Code := codeOf Tryz.f23
noncomputable def transversal_edges_B0 : Code := loopAt transversal_edges_C 0 0
theorem transversal_edges_B0_ls : loopsL transversal_edges_B0 0 = [] := by kernel_rfl
theorem transversal_edges_C_ls : loopsL transversal_edges_C 0 = [(0, transversal_edges_B0)] := by kernel_rfl
abbrev transversal_edges_L0_I : SS := [(3, .a (.c (.dp 0 (.pr (.int .i64) (.int .i64))))), (12, .a (.c (.nm 1 (.pr (.int .i64) (.pr (.int .i64) (.int .u64)))))), (13, .a (.c (.int .i64))), (14, .a (.c (.int .i64)))]
abbrev transversal_edges_L0_O : List (Ex × SS) := [(.exit 0, [(3, .a (.c (.dp 0 (.pr (.int .i64) (.int .i64)))))])]
def transversal_edges_L0_R (m n : Nat) : transversal_edges_L0_I.Val → Option (outVal transversal_edges_L0_O) := (fun (x : (List (List (Int × Int))) × (List (Int × Int × Int)) × Int × Int × Unit) => transversal_edges_L0 m n x.1 x.2.1 x.2.2.1 x.2.2.2.1)
def transversal_edges_L0_T (m n : Nat) : LoopT := ⟨0, transversal_edges_L0_I, transversal_edges_L0_O, transversal_edges_L0_R m n⟩
theorem transversal_edges_L0_kr (m n : Nat) (x : transversal_edges_L0_I.Val) : roundK (mkC (outVal transversal_edges_L0_O) [matrix_Entries_T m, float_Exponent_T m]) (mkLp (outVal transversal_edges_L0_O) []) tt 42 transversal_edges_H transversal_edges_B0 0 (transversal_edges_L0_I.enc x) (Kl (ins := transversal_edges_L0_I) (outs := transversal_edges_L0_O) (transversal_edges_L0_R m n)) = transversal_edges_L0 m (n + 1) x.1 x.2.1 x.2.2.1 x.2.2.2.1 := by kernel_rfl
theorem transversal_edges_L0_ok {E : Entry} (hE : EOf Tryz.prog E 42 transversal_edges_H.pins) (m : Nat) (n : Nat) : LoopOK Tryz.prog E transversal_edges_B0 (transversal_edges_L0_T m n) :=
  loop_ok (CO := CallOK Tryz.prog) hmix htt (fun _ _ _ _ h => h) hE (C := fun R => mkC R [matrix_Entries_T m, float_Exponent_T m]) (L := []) (fun _ _ _ _ _ h => mkC_spec (AllF.mem (l := [matrix_Entries_T m, float_Exponent_T m]) ⟨matrix_Entries_ok m, float_Exponent_ok m, trivial⟩) h) (fun _ _ => loopsIn_of transversal_edges_B0_ls trivial) (fun n => (transversal_edges_L0_R m n)) (fun _ => by kernel_rfl) (fun n x => (transversal_edges_L0_kr m n x).trans (by kernel_rfl)) n
theorem transversal_edges_kr (m : Nat) (x : ShLVal transversal_edges_A) : fnK (mkC (transversal_edges_S.Val × ShLVal transversal_edges_U) [matrix_Entries_T m, float_Exponent_T m]) (mkLp (transversal_edges_S.Val × ShLVal transversal_edges_U) [transversal_edges_L0_T m m]) tt transversal_edges_H Tryz.f23 (encS transversal_edges_A x) (Kd transversal_edges_S transversal_edges_U) = transversal_edges m x.1.1 x.1.2.1 x.1.2.2.1 x.1.2.2.2.1 x.1.2.2.2.2.1 := by kernel_rfl
theorem transversal_edges_ok (m : Nat) : FunOK Tryz.prog (transversal_edges_T m) :=
  fun_ok hmix htt (transversal_edges_T m) Tryz.func23 (c := transversal_edges_C) (by kernel_rfl) (by kernel_rfl) (Lc := [matrix_Entries_T m, float_Exponent_T m]) (AllF.mem (l := [matrix_Entries_T m, float_Exponent_T m]) ⟨matrix_Entries_ok m, float_Exponent_ok m, trivial⟩) (L := [transversal_edges_L0_T m m]) (fun _ hE _ _ => loopsIn_of transversal_edges_C_ls ⟨mkLp_all ⟨fun _ => transversal_edges_L0_ok hE m m, trivial⟩, trivial⟩) (fun x => (transversal_edges_kr m x).trans (by kernel_rfl))
/-! 36 sparse/transversal.full -/
def transversal_full_H : Hints := { regs := [⟨[], [0, 1]⟩, ⟨[(0, 1)], [1, 5]⟩, ⟨[], [1, 5, 10, 11]⟩, ⟨[], [1, 5, 10, 11, 12]⟩, ⟨[], [1, 5, 6, 10, 11]⟩, ⟨[(1, 1)], [1, 5, 10, 11]⟩, ⟨[(1, 1)], [1, 5, 10, 11]⟩, ⟨[(0, 1)], [4]⟩], heads := [(0, [1, 5, 10, 11])], exits := [(0, [5]), (1, [1, 5, 10, 11])], rets := [4], pins := [], spec := [[true]] }
abbrev transversal_full_A : List Sh := [.a (.c (.int .i64)), .a (.c (.int .i64))]
abbrev transversal_full_S : Sh := .a (.c (.nm 0 (.int .i64)))
abbrev transversal_full_U : List Sh := [.a (.c .dead), .a (.c .dead)]
def transversal_full_R (m : Nat) : ShLVal transversal_full_A → Option (transversal_full_S.Val × ShLVal transversal_full_U) := fun (x : Int × Int × Unit) => transversal_full m x.1 x.2.1
def transversal_full_T (m : Nat) : FunT := ⟨36, transversal_full_A, transversal_full_S, transversal_full_U, transversal_full_R m⟩
noncomputable def transversal_full_C : Code := codeOf Tryz.f36
noncomputable def transversal_full_B0 : Code := loopAt transversal_full_C 0 0
theorem transversal_full_B0_ls : loopsL transversal_full_B0 0 = [] := by kernel_rfl
theorem transversal_full_C_ls : loopsL transversal_full_C 0 = [(0, transversal_full_B0)] := by kernel_rfl
abbrev transversal_full_L0_I : SS := [(1, .a (.c (.int .i64))), (5, .a (.c (.nm 0 (.int .i64)))), (10, .a (.c (.int .i64))), (11, .a (.c (.int .i64)))]
abbrev transversal_full_L0_O : List (Ex × SS) := [(.exit 0, [(5, .a (.c (.nm 0 (.int .i64))))])]
def transversal_full_L0_R (m n : Nat) : transversal_full_L0_I.Val → Option (outVal transversal_full_L0_O) := (fun (x : Int × List Int × Int × Int × Unit) => transversal_full_L0 m n x.1 x.2.1 x.2.2.1 x.2.2.2.1)
def transversal_full_L0_T (m n : Nat) : LoopT := ⟨0, transversal_full_L0_I, transversal_full_L0_O, transversal_full_L0_R m n⟩
theorem transversal_full_L0_kr (m n : Nat) (x : transversal_full_L0_I.Val) : roundK (mkC (outVal transversal_full_L0_O) []) (mkLp (outVal transversal_full_L0_O) []) tt 20 transversal_full_H transversal_full_B0 0 (transversal_full_L0_I.enc x) (Kl (ins := transversal_full_L0_I) (outs := transversal_full_L0_O) (transversal_full_L0_R m n)) = transversal_full_L0 m (n + 1) x.1 x.2.1 x.2.2.1 x.2.2.2.1 := by kernel_rfl
theorem transversal_full_L0_ok {E : Entry} (hE : EOf Tryz.prog E 20 transversal_full_H.pins) (m : Nat) (n : Nat) : LoopOK Tryz.prog E transversal_full_B0 (transversal_full_L0_T m n) :=
  loop_ok (CO := CallOK Tryz.prog) hmix htt (fun _ _ _ _ h => h) hE (C := fun R => mkC R []) (L := []) (fun _ _ _ _ _ h => mkC_spec (AllF.mem (l := []) trivial) h) (fun _ _ => loopsIn_of transversal_full_B0_ls trivial) (fun n => (transversal_full_L0_R m n)) (fun _ => by kernel_rfl) (fun n x => (transversal_full_L0_kr m n x).trans (by kernel_rfl)) n
theorem transversal_full_kr (m : Nat) (x : ShLVal transversal_full_A) : fnK (mkC (transversal_full_S.Val × ShLVal transversal_full_U) []) (mkLp (transversal_full_S.Val × ShLVal transversal_full_U) [transversal_full_L0_T m m]) tt transversal_full_H Tryz.f36 (encS transversal_full_A x) (Kd transversal_full_S transversal_full_U) = transversal_full m x.1 x.2.1 := by kernel_rfl
theorem transversal_full_ok (m : Nat) : FunOK Tryz.prog (transversal_full_T m) :=
  fun_ok hmix htt (transversal_full_T m) Tryz.func36 (c := transversal_full_C) (by kernel_rfl) (by kernel_rfl) (Lc := []) (AllF.mem (l := []) trivial) (L := [transversal_full_L0_T m m]) (fun _ hE _ _ => loopsIn_of transversal_full_C_ls ⟨mkLp_all ⟨fun _ => transversal_full_L0_ok hE m m, trivial⟩, trivial⟩) (fun x => (transversal_full_kr m x).trans (by kernel_rfl))
/-! 60 __sparse/transversal.hungarian_.change -/
def transversal_hungarian_change_H : Hints := { regs := [⟨[(4, 1)], [0, 2, 3, 4]⟩, ⟨[(0, 1)], [0, 2, 4, 23, 24, 25]⟩, ⟨[], [0, 2, 4, 23, 24, 25, 26]⟩, ⟨[], [0, 2, 4, 10, 11, 23, 24, 25]⟩, ⟨[(0, 1)], [0, 2, 4, 10, 23, 24, 25, 30]⟩, ⟨[], [0, 2, 4, 10, 23, 24, 25]⟩, ⟨[], [0, 2, 4, 10, 12, 23, 24, 25]⟩, ⟨[], [0, 2, 4, 10, 12, 23, 24, 25, 54]⟩, ⟨[(4, 1), (9, 1)], [0, 2, 4, 23, 24, 25]⟩, ⟨[(1, 1)], [0, 2, 4, 23, 24, 25]⟩], heads := [(0, [0, 2, 4, 23, 24, 25])], exits := [(0, [0]), (1, [0, 2, 4, 23, 24, 25])], rets := [0], pins := [0], spec := [] }
abbrev transversal_hungarian_change_A : List Sh := [.a (.bx 0 [(.imm (.sl false (.pr (.int .i64) (.int .i64)))), (.nm 1 (.int .i64)), (.nm 2 (.int .i64)), (.nm 3 (.int .i64)), (.nm 4 (.int .i64))]), .a (.c (.int .i64)), .a (.c (.imm (.int .i64))), .a (.c (.imm .bool)), .a (.c (.int .i64))]
abbrev transversal_hungarian_change_S : Sh := .tup []
abbrev transversal_hungarian_change_U : List Sh := [.a (.bx 0 [(.imm (.sl false (.pr (.int .i64) (.int .i64)))), (.nm 1 (.int .i64)), (.nm 2 (.int .i64)), (.nm 3 (.int .i64)), (.nm 4 (.int .i64))]), .a (.c .dead), .a (.c .dead), .a (.c .dead), .a (.c .dead)]
def transversal_hungarian_change_R (m : Nat) : ShLVal transversal_hungarian_change_A → Option (transversal_hungarian_change_S.Val × ShLVal transversal_hungarian_change_U) := fun (x : ((List (List (Int × Int))) × List Int × List Int × List Int × List Int × Unit) × Int × List Int × List Bool × Int × Unit) => transversal_hungarian_change m x.1.1 x.1.2.1 x.1.2.2.1 x.1.2.2.2.1 x.1.2.2.2.2.1 x.2.1 x.2.2.1 x.2.2.2.1 x.2.2.2.2.1
def transversal_hungarian_change_T (m : Nat) : FunT := ⟨60, transversal_hungarian_change_A, transversal_hungarian_change_S, transversal_hungarian_change_U, transversal_hungarian_change_R m⟩
noncomputable def transversal_hungarian_change_C : Code := codeOf Tryz.f60
noncomputable def transversal_hungarian_change_B0 : Code := loopAt transversal_hungarian_change_C 0 0
theorem transversal_hungarian_change_B0_ls : loopsL transversal_hungarian_change_B0 0 = [] := by kernel_rfl
theorem transversal_hungarian_change_C_ls : loopsL transversal_hungarian_change_C 0 = [(0, transversal_hungarian_change_B0)] := by kernel_rfl
abbrev transversal_hungarian_change_L0_I : SS := [(0, .a (.bx 0 [(.imm (.sl false (.pr (.int .i64) (.int .i64)))), (.nm 1 (.int .i64)), (.nm 2 (.int .i64)), (.nm 3 (.int .i64)), (.nm 4 (.int .i64))])), (2, .a (.c (.imm (.int .i64)))), (4, .a (.c (.int .i64))), (23, .a (.c (.imm .bool))), (24, .a (.c (.int .i64))), (25, .a (.c (.int .i64)))]
abbrev transversal_hungarian_change_L0_O : List (Ex × SS) := [(.exit 0, [(0, .a (.bx 0 [(.imm (.sl false (.pr (.int .i64) (.int .i64)))), (.nm 1 (.int .i64)), (.nm 2 (.int .i64)), (.nm 3 (.int .i64)), (.nm 4 (.int .i64))]))])]
def transversal_hungarian_change_L0_R (m n : Nat) : transversal_hungarian_change_L0_I.Val → Option (outVal transversal_hungarian_change_L0_O) := (fun (x : ((List (List (Int × Int))) × List Int × List Int × List Int × List Int × Unit) × List Int × Int × List Bool × Int × Int × Unit) => transversal_hungarian_change_L0 m n x.1.1 x.1.2.1 x.1.2.2.1 x.1.2.2.2.1 x.1.2.2.2.2.1 x.2.1 x.2.2.1 x.2.2.2.1 x.2.2.2.2.1 x.2.2.2.2.2.1)
def transversal_hungarian_change_L0_T (m n : Nat) : LoopT := ⟨0, transversal_hungarian_change_L0_I, transversal_hungarian_change_L0_O, transversal_hungarian_change_L0_R m n⟩
theorem transversal_hungarian_change_L0_kr (m n : Nat) (x : transversal_hungarian_change_L0_I.Val) : roundK (mkC (outVal transversal_hungarian_change_L0_O) []) (mkLp (outVal transversal_hungarian_change_L0_O) []) tt 71 transversal_hungarian_change_H transversal_hungarian_change_B0 0 (transversal_hungarian_change_L0_I.enc x) (Kl (ins := transversal_hungarian_change_L0_I) (outs := transversal_hungarian_change_L0_O) (transversal_hungarian_change_L0_R m n)) = transversal_hungarian_change_L0 m (n + 1) x.1.1 x.1.2.1 x.1.2.2.1 x.1.2.2.2.1 x.1.2.2.2.2.1 x.2.1 x.2.2.1 x.2.2.2.1 x.2.2.2.2.1 x.2.2.2.2.2.1 := by kernel_rfl
theorem transversal_hungarian_change_L0_ok {E : Entry} (hE : EOf Tryz.prog E 71 transversal_hungarian_change_H.pins) (m : Nat) (n : Nat) : LoopOK Tryz.prog E transversal_hungarian_change_B0 (transversal_hungarian_change_L0_T m n) :=
  loop_ok (CO := CallOK Tryz.prog) hmix htt (fun _ _ _ _ h => h) hE (C := fun R => mkC R []) (L := []) (fun _ _ _ _ _ h => mkC_spec (AllF.mem (l := []) trivial) h) (fun _ _ => loopsIn_of transversal_hungarian_change_B0_ls trivial) (fun n => (transversal_hungarian_change_L0_R m n)) (fun _ => by kernel_rfl) (fun n x => (transversal_hungarian_change_L0_kr m n x).trans (by kernel_rfl)) n
theorem transversal_hungarian_change_kr (m : Nat) (x : ShLVal transversal_hungarian_change_A) : fnK (mkC (transversal_hungarian_change_S.Val × ShLVal transversal_hungarian_change_U) []) (mkLp (transversal_hungarian_change_S.Val × ShLVal transversal_hungarian_change_U) [transversal_hungarian_change_L0_T m m]) tt transversal_hungarian_change_H Tryz.f60 (encS transversal_hungarian_change_A x) (Kd transversal_hungarian_change_S transversal_hungarian_change_U) = transversal_hungarian_change m x.1.1 x.1.2.1 x.1.2.2.1 x.1.2.2.2.1 x.1.2.2.2.2.1 x.2.1 x.2.2.1 x.2.2.2.1 x.2.2.2.2.1 := by kernel_rfl
theorem transversal_hungarian_change_ok (m : Nat) : FunOK Tryz.prog (transversal_hungarian_change_T m) :=
  fun_ok hmix htt (transversal_hungarian_change_T m) Tryz.func60 (c := transversal_hungarian_change_C) (by kernel_rfl) (by kernel_rfl) (Lc := []) (AllF.mem (l := []) trivial) (L := [transversal_hungarian_change_L0_T m m]) (fun _ hE _ _ => loopsIn_of transversal_hungarian_change_C_ls ⟨mkLp_all ⟨fun _ => transversal_hungarian_change_L0_ok hE m m, trivial⟩, trivial⟩) (fun x => (transversal_hungarian_change_kr m x).trans (by kernel_rfl))
/-! 61 __sparse/transversal.hungarian_.turn -/
def transversal_hungarian_turn_H : Hints := { regs := [⟨[], [0, 1, 2, 3, 8]⟩, ⟨[], [0, 1, 2, 3, 8, 9]⟩, ⟨[], [0, 1, 3, 8, 9]⟩, ⟨[(0, 1)], [0, 1, 3, 9, 37]⟩, ⟨[(0, 1)], [0, 1, 2, 3]⟩], heads := [(0, [0, 1, 2, 3])], exits := [(0, [0]), (1, [0, 1, 2, 3])], rets := [0], pins := [0], spec := [] }
abbrev transversal_hungarian_turn_A : List Sh := [.a (.bx 0 [(.imm (.sl false (.pr (.int .i64) (.int .i64)))), (.nm 1 (.int .i64)), (.nm 2 (.int .i64)), (.nm 3 (.int .i64)), (.nm 4 (.int .i64))]), .a (.c (.int .i64)), .a (.c (.int .i64)), .a (.c (.imm (.int .i64)))]
abbrev transversal_hungarian_turn_S : Sh := .tup []
abbrev transversal_hungarian_turn_U : List Sh := [.a (.bx 0 [(.imm (.sl false (.pr (.int .i64) (.int .i64)))), (.nm 1 (.int .i64)), (.nm 2 (.int .i64)), (.nm 3 (.int .i64)), (.nm 4 (.int .i64))]), .a (.c .dead), .a (.c .dead), .a (.c .dead)]
def transversal_hungarian_turn_R (m : Nat) : ShLVal transversal_hungarian_turn_A → Option (transversal_hungarian_turn_S.Val × ShLVal transversal_hungarian_turn_U) := fun (x : ((List (List (Int × Int))) × List Int × List Int × List Int × List Int × Unit) × Int × Int × List Int × Unit) => transversal_hungarian_turn m x.1.1 x.1.2.1 x.1.2.2.1 x.1.2.2.2.1 x.1.2.2.2.2.1 x.2.1 x.2.2.1 x.2.2.2.1
def transversal_hungarian_turn_T (m : Nat) : FunT := ⟨61, transversal_hungarian_turn_A, transversal_hungarian_turn_S, transversal_hungarian_turn_U, transversal_hungarian_turn_R m⟩
noncomputable def transversal_hungarian_turn_C : Code := codeOf Tryz.f61
noncomputable def transversal_hungarian_turn_B0 : Code := loopAt transversal_hungarian_turn_C 0 0
theorem transversal_hungarian_turn_B0_ls : loopsL transversal_hungarian_turn_B0 0 = [] := by kernel_rfl
theorem transversal_hungarian_turn_C_ls : loopsL transversal_hungarian_turn_C 0 = [(0, transversal_hungarian_turn_B0)] := by kernel_rfl
abbrev transversal_hungarian_turn_L0_I : SS := [(0, .a (.bx 0 [(.imm (.sl false (.pr (.int .i64) (.int .i64)))), (.nm 1 (.int .i64)), (.nm 2 (.int .i64)), (.nm 3 (.int .i64)), (.nm 4 (.int .i64))])), (1, .a (.c (.int .i64))), (2, .a (.c (.int .i64))), (3, .a (.c (.imm (.int .i64))))]
abbrev transversal_hungarian_turn_L0_O : List (Ex × SS) := [(.ret, [(0, .a (.bx 0 [(.imm (.sl false (.pr (.int .i64) (.int .i64)))), (.nm 1 (.int .i64)), (.nm 2 (.int .i64)), (.nm 3 (.int .i64)), (.nm 4 (.int .i64))]))])]
def transversal_hungarian_turn_L0_R (m n : Nat) : transversal_hungarian_turn_L0_I.Val → Option (outVal transversal_hungarian_turn_L0_O) := (fun (x : ((List (List (Int × Int))) × List Int × List Int × List Int × List Int × Unit) × Int × Int × List Int × Unit) => transversal_hungarian_turn_L0 m n x.1.1 x.1.2.1 x.1.2.2.1 x.1.2.2.2.1 x.1.2.2.2.2.1 x.2.1 x.2.2.1 x.2.2.2.1)
def transversal_hungarian_turn_L0_T (m n : Nat) : LoopT := ⟨0, transversal_hungarian_turn_L0_I, transversal_hungarian_turn_L0_O, transversal_hungarian_turn_L0_R m n⟩
theorem transversal_hungarian_turn_L0_kr (m n : Nat) (x : transversal_hungarian_turn_L0_I.Val) : roundK (mkC (outVal transversal_hungarian_turn_L0_O) []) (mkLp (outVal transversal_hungarian_turn_L0_O) []) tt 39 transversal_hungarian_turn_H transversal_hungarian_turn_B0 0 (transversal_hungarian_turn_L0_I.enc x) (Kl (ins := transversal_hungarian_turn_L0_I) (outs := transversal_hungarian_turn_L0_O) (transversal_hungarian_turn_L0_R m n)) = transversal_hungarian_turn_L0 m (n + 1) x.1.1 x.1.2.1 x.1.2.2.1 x.1.2.2.2.1 x.1.2.2.2.2.1 x.2.1 x.2.2.1 x.2.2.2.1 := by kernel_rfl
theorem transversal_hungarian_turn_L0_ok {E : Entry} (hE : EOf Tryz.prog E 39 transversal_hungarian_turn_H.pins) (m : Nat) (n : Nat) : LoopOK Tryz.prog E transversal_hungarian_turn_B0 (transversal_hungarian_turn_L0_T m n) :=
  loop_ok (CO := CallOK Tryz.prog) hmix htt (fun _ _ _ _ h => h) hE (C := fun R => mkC R []) (L := []) (fun _ _ _ _ _ h => mkC_spec (AllF.mem (l := []) trivial) h) (fun _ _ => loopsIn_of transversal_hungarian_turn_B0_ls trivial) (fun n => (transversal_hungarian_turn_L0_R m n)) (fun _ => by kernel_rfl) (fun n x => (transversal_hungarian_turn_L0_kr m n x).trans (by kernel_rfl)) n
theorem transversal_hungarian_turn_kr (m : Nat) (x : ShLVal transversal_hungarian_turn_A) : fnK (mkC (transversal_hungarian_turn_S.Val × ShLVal transversal_hungarian_turn_U) []) (mkLp (transversal_hungarian_turn_S.Val × ShLVal transversal_hungarian_turn_U) [transversal_hungarian_turn_L0_T m m]) tt transversal_hungarian_turn_H Tryz.f61 (encS transversal_hungarian_turn_A x) (Kd transversal_hungarian_turn_S transversal_hungarian_turn_U) = transversal_hungarian_turn m x.1.1 x.1.2.1 x.1.2.2.1 x.1.2.2.2.1 x.1.2.2.2.2.1 x.2.1 x.2.2.1 x.2.2.2.1 := by kernel_rfl
theorem transversal_hungarian_turn_ok (m : Nat) : FunOK Tryz.prog (transversal_hungarian_turn_T m) :=
  fun_ok hmix htt (transversal_hungarian_turn_T m) Tryz.func61 (c := transversal_hungarian_turn_C) (by kernel_rfl) (by kernel_rfl) (Lc := []) (AllF.mem (l := []) trivial) (L := [transversal_hungarian_turn_L0_T m m]) (fun _ hE _ _ => loopsIn_of transversal_hungarian_turn_C_ls ⟨mkLp_all ⟨fun _ => transversal_hungarian_turn_L0_ok hE m m, trivial⟩, trivial⟩) (fun x => (transversal_hungarian_turn_kr m x).trans (by kernel_rfl))
/-! 37 __sparse/transversal.hungarian_.add -/
def transversal_hungarian_add_H : Hints := { regs := [⟨[], [0, 1]⟩, ⟨[], [0, 1, 5]⟩, ⟨[], [0, 1, 5, 6, 7]⟩, ⟨[], [0, 1, 5, 6, 7, 8]⟩, ⟨[], [0, 1, 5, 6, 7, 8, 9, 10]⟩, ⟨[], [0, 1, 5, 6, 7, 8, 9, 10, 34, 35, 36]⟩, ⟨[], [0, 1, 5, 6, 7, 8, 9, 10, 34, 35, 36, 37]⟩, ⟨[], [0, 1, 5, 6, 7, 8, 9, 10, 12, 34, 35, 36]⟩, ⟨[], [0, 1, 5, 6, 7, 8, 9, 10, 12, 13, 34, 35, 36]⟩, ⟨[(6, 1)], [0, 1, 5, 6, 7, 8, 9, 10, 12, 13, 34, 35, 36, 75]⟩, ⟨[(6, 1)], [0, 1, 5, 6, 7, 8, 9, 10, 34, 35, 36]⟩, ⟨[(1, 1)], [0, 1, 5, 6, 7, 8, 9, 10, 34, 35, 36]⟩, ⟨[], [0, 1, 5, 6, 7, 8, 14]⟩, ⟨[], [0, 1, 5, 6, 7, 8, 14, 87, 88]⟩, ⟨[], [0, 1, 5, 6, 7, 8, 14, 87, 88, 89]⟩, ⟨[], [0, 1, 5, 6, 7, 8, 14, 15, 87, 88]⟩, ⟨[(5, 1), (12, 1), (15, 1)], [0, 1, 5, 6, 7, 8, 14, 15, 87, 88, 117]⟩, ⟨[(0, 1)], [0, 1, 5, 6, 7, 8, 14, 87, 88]⟩, ⟨[(1, 1)], [0, 1, 5, 6, 7, 8, 14, 87, 88]⟩, ⟨[], [0, 1, 5, 6, 7, 8, 14, 121]⟩, ⟨[], [0, 4]⟩, ⟨[], [0, 1, 5, 6, 7, 8, 10, 14]⟩, ⟨[], [0, 1, 5, 6, 7, 8, 10, 14, 136]⟩, ⟨[(2, 1), (3, 1), (4, 1)], [0, 1, 7, 14]⟩, ⟨[(1, 1), (2, 1), (3, 1)], [0]⟩, ⟨[], [0, 4]⟩, ⟨[(4, 1)], [0, 1, 5, 6, 7, 8, 9, 10]⟩], heads := [(0, [0, 1, 5, 6, 7, 8, 9, 10]), (2, [0, 1, 5, 6, 7, 8, 9, 10, 34, 35, 36]), (4, [0, 1, 5, 6, 7, 8, 14, 87, 88])], exits := [(0, [0, 4]), (1, [0, 1, 5, 6, 7, 8, 9, 10]), (2, [0, 1, 5, 6, 7, 8]), (3, [0, 1, 5, 6, 7, 8, 9, 10, 34, 35, 36]), (4, [0, 1, 5, 6, 7, 8, 14]), (5, [0, 1, 5, 6, 7, 8, 14, 87, 88])], rets := [0, 4], pins := [0], spec := [[false]] }
abbrev transversal_hungarian_add_A : List Sh := [.a (.bx 0 [(.imm (.sl false (.pr (.int .i64) (.int .i64)))), (.nm 1 (.int .i64)), (.nm 2 (.int .i64)), (.nm 3 (.int .i64)), (.nm 4 (.int .i64))]), .a (.c (.int .i64))]
abbrev transversal_hungarian_add_S : Sh := .a (.c .bool)
abbrev transversal_hungarian_add_U : List Sh := [.a (.bx 0 [(.imm (.sl false (.pr (.int .i64) (.int .i64)))), (.nm 1 (.int .i64)), (.nm 2 (.int .i64)), (.nm 3 (.int .i64)), (.nm 4 (.int .i64))]), .a (.c .dead)]
def transversal_hungarian_add_R (m : Nat) : ShLVal transversal_hungarian_add_A → Option (transversal_hungarian_add_S.Val × ShLVal transversal_hungarian_add_U) := fun (x : ((List (List (Int × Int))) × List Int × List Int × List Int × List Int × Unit) × Int × Unit) => transversal_hungarian_add m x.1.1 x.1.2.1 x.1.2.2.1 x.1.2.2.2.1 x.1.2.2.2.2.1 x.2.1
def transversal_hungarian_add_T (m : Nat) : FunT := ⟨37, transversal_hungarian_add_A, transversal_hungarian_add_S, transversal_hungarian_add_U, transversal_hungarian_add_R m⟩
noncomputable def transversal_hungarian_add_C : Code := codeOf Tryz.f37
noncomputable def transversal_hungarian_add_B0 : Code := loopAt transversal_hungarian_add_C 0 0
noncomputable def transversal_hungarian_add_B2 : Code := loopAt transversal_hungarian_add_B0 0 0
theorem transversal_hungarian_add_B2_ls : loopsL transversal_hungarian_add_B2 2 = [] := by kernel_rfl
noncomputable def transversal_hungarian_add_B4 : Code := loopAt transversal_hungarian_add_B0 0 1
theorem transversal_hungarian_add_B4_ls : loopsL transversal_hungarian_add_B4 4 = [] := by kernel_rfl
theorem transversal_hungarian_add_B0_ls : loopsL transversal_hungarian_add_B0 0 = [(2, transversal_hungarian_add_B2), (4, transversal_hungarian_add_B4)] := by kernel_rfl
theorem transversal_hungarian_add_C_ls : loopsL transversal_hungarian_add_C 0 = [(0, transversal_hungarian_add_B0)] := by kernel_rfl
abbrev transversal_hungarian_add_L2_I : SS := [(0, .a (.bx 0 [(.imm (.sl false (.pr (.int .i64) (.int .i64)))), (.nm 1 (.int .i64)), (.nm 2 (.int .i64)), (.nm 3 (.int .i64)), (.nm 4 (.int .i64))])), (1, .a (.c (.int .i64))), (5, .a (.c (.int .i64))), (6, .a (.c (.nm 5 (.int .i64)))), (7, .a (.c (.nm 6 (.int .i64)))), (8, .a (.c (.nm 7 .bool))), (14, .a (.c (.int .i64))), (87, .a (.c (.int .i64))), (88, .a (.c (.int .i64)))]
abbrev transversal_hungarian_add_L2_O : List (Ex × SS) := [(.exit 4, [(0, .a (.bx 0 [(.imm (.sl false (.pr (.int .i64) (.int .i64)))), (.nm 1 (.int .i64)), (.nm 2 (.int .i64)), (.nm 3 (.int .i64)), (.nm 4 (.int .i64))])), (1, .a (.c (.int .i64))), (5, .a (.c (.int .i64))), (6, .a (.c (.nm 5 (.int .i64)))), (7, .a (.c (.nm 6 (.int .i64)))), (8, .a (.c (.nm 7 .bool))), (14, .a (.c (.int .i64)))])]
def transversal_hungarian_add_L2_R (m n : Nat) : transversal_hungarian_add_L2_I.Val → Option (outVal transversal_hungarian_add_L2_O) := (fun (x : ((List (List (Int × Int))) × List Int × List Int × List Int × List Int × Unit) × Int × Int × List Int × List Int × List Bool × Int × Int × Int × Unit) => transversal_hungarian_add_L2 m n x.1.1 x.1.2.1 x.1.2.2.1 x.1.2.2.2.1 x.1.2.2.2.2.1 x.2.1 x.2.2.1 x.2.2.2.1 x.2.2.2.2.1 x.2.2.2.2.2.1 x.2.2.2.2.2.2.1 x.2.2.2.2.2.2.2.1 x.2.2.2.2.2.2.2.2.1)
def transversal_hungarian_add_L2_T (m n : Nat) : LoopT := ⟨4, transversal_hungarian_add_L2_I, transversal_hungarian_add_L2_O, transversal_hungarian_add_L2_R m n⟩
theorem transversal_hungarian_add_L2_kr (m n : Nat) (x : transversal_hungarian_add_L2_I.Val) : roundK (mkC (outVal transversal_hungarian_add_L2_O) [transversal_full_T m, transversal_hungarian_change_T m, transversal_hungarian_turn_T m]) (mkLp (outVal transversal_hungarian_add_L2_O) []) tt 155 transversal_hungarian_add_H transversal_hungarian_add_B4 4 (transversal_hungarian_add_L2_I.enc x) (Kl (ins := transversal_hungarian_add_L2_I) (outs := transversal_hungarian_add_L2_O) (transversal_hungarian_add_L2_R m n)) = transversal_hungarian_add_L2 m (n + 1) x.1.1 x.1.2.1 x.1.2.2.1 x.1.2.2.2.1 x.1.2.2.2.2.1 x.2.1 x.2.2.1 x.2.2.2.1 x.2.2.2.2.1 x.2.2.2.2.2.1 x.2.2.2.2.2.2.1 x.2.2.2.2.2.2.2.1 x.2.2.2.2.2.2.2.2.1 := by kernel_rfl
theorem transversal_hungarian_add_L2_ok {E : Entry} (hE : EOf Tryz.prog E 155 transversal_hungarian_add_H.pins) (m : Nat) (n : Nat) : LoopOK Tryz.prog E transversal_hungarian_add_B4 (transversal_hungarian_add_L2_T m n) :=
  loop_ok (CO := CallOK Tryz.prog) hmix htt (fun _ _ _ _ h => h) hE (C := fun R => mkC R [transversal_full_T m, transversal_hungarian_change_T m, transversal_hungarian_turn_T m]) (L := []) (fun _ _ _ _ _ h => mkC_spec (AllF.mem (l := [transversal_full_T m, transversal_hungarian_change_T m, transversal_hungarian_turn_T m]) ⟨transversal_full_ok m, transversal_hungarian_change_ok m, transversal_hungarian_turn_ok m, trivial⟩) h) (fun _ _ => loopsIn_of transversal_hungarian_add_B4_ls trivial) (fun n => (transversal_hungarian_add_L2_R m n)) (fun _ => by kernel_rfl) (fun n x => (transversal_hungarian_add_L2_kr m n x).trans (by kernel_rfl)) n
abbrev transversal_hungarian_add_L1_I : SS := [(0, .a (.bx 0 [(.imm (.sl false (.pr (.int .i64) (.int .i64)))), (.nm 1 (.int .i64)), (.nm 2 (.int .i64)), (.nm 3 (.int .i64)), (.nm 4 (.int .i64))])), (1, .a (.c (.int .i64))), (5, .a (.c (.int .i64))), (6, .a (.c (.nm 5 (.int .i64)))), (7, .a (.c (.nm 6 (.int .i64)))), (8, .a (.c (.nm 7 .bool))), (9, .a (.c (.int .i64))), (10, .a (.c (.int .i64))), (34, .a (.c (.imm (.pr (.int .i64) (.int .i64))))), (35, .a (.c (.int .i64))), (36, .a (.c (.int .i64)))]
abbrev transversal_hungarian_add_L1_O : List (Ex × SS) := [(.exit 2, [(0, .a (.bx 0 [(.imm (.sl false (.pr (.int .i64) (.int .i64)))), (.nm 1 (.int .i64)), (.nm 2 (.int .i64)), (.nm 3 (.int .i64)), (.nm 4 (.int .i64))])), (1, .a (.c (.int .i64))), (5, .a (.c (.int .i64))), (6, .a (.c (.nm 5 (.int .i64)))), (7, .a (.c (.nm 6 (.int .i64)))), (8, .a (.c (.nm 7 .bool)))])]
def transversal_hungarian_add_L1_R (m n : Nat) : transversal_hungarian_add_L1_I.Val → Option (outVal transversal_hungarian_add_L1_O) := (fun (x : ((List (List (Int × Int))) × List Int × List Int × List Int × List Int × Unit) × Int × Int × List Int × List Int × List Bool × Int × Int × (List (Int × Int)) × Int × Int × Unit) => transversal_hungarian_add_L1 m n x.1.1 x.1.2.1 x.1.2.2.1 x.1.2.2.2.1 x.1.2.2.2.2.1 x.2.1 x.2.2.1 x.2.2.2.1 x.2.2.2.2.1 x.2.2.2.2.2.1 x.2.2.2.2.2.2.1 x.2.2.2.2.2.2.2.1 x.2.2.2.2.2.2.2.2.1 x.2.2.2.2.2.2.2.2.2.1 x.2.2.2.2.2.2.2.2.2.2.1)
def transversal_hungarian_add_L1_T (m n : Nat) : LoopT := ⟨2, transversal_hungarian_add_L1_I, transversal_hungarian_add_L1_O, transversal_hungarian_add_L1_R m n⟩
theorem transversal_hungarian_add_L1_kr (m n : Nat) (x : transversal_hungarian_add_L1_I.Val) : roundK (mkC (outVal transversal_hungarian_add_L1_O) [transversal_full_T m, transversal_hungarian_change_T m, transversal_hungarian_turn_T m]) (mkLp (outVal transversal_hungarian_add_L1_O) []) tt 155 transversal_hungarian_add_H transversal_hungarian_add_B2 2 (transversal_hungarian_add_L1_I.enc x) (Kl (ins := transversal_hungarian_add_L1_I) (outs := transversal_hungarian_add_L1_O) (transversal_hungarian_add_L1_R m n)) = transversal_hungarian_add_L1 m (n + 1) x.1.1 x.1.2.1 x.1.2.2.1 x.1.2.2.2.1 x.1.2.2.2.2.1 x.2.1 x.2.2.1 x.2.2.2.1 x.2.2.2.2.1 x.2.2.2.2.2.1 x.2.2.2.2.2.2.1 x.2.2.2.2.2.2.2.1 x.2.2.2.2.2.2.2.2.1 x.2.2.2.2.2.2.2.2.2.1 x.2.2.2.2.2.2.2.2.2.2.1 := by kernel_rfl
theorem transversal_hungarian_add_L1_ok {E : Entry} (hE : EOf Tryz.prog E 155 transversal_hungarian_add_H.pins) (m : Nat) (n : Nat) : LoopOK Tryz.prog E transversal_hungarian_add_B2 (transversal_hungarian_add_L1_T m n) :=
  loop_ok (CO := CallOK Tryz.prog) hmix htt (fun _ _ _ _ h => h) hE (C := fun R => mkC R [transversal_full_T m, transversal_hungarian_change_T m, transversal_hungarian_turn_T m]) (L := []) (fun _ _ _ _ _ h => mkC_spec (AllF.mem (l := [transversal_full_T m, transversal_hungarian_change_T m, transversal_hungarian_turn_T m]) ⟨transversal_full_ok m, transversal_hungarian_change_ok m, transversal_hungarian_turn_ok m, trivial⟩) h) (fun _ _ => loopsIn_of transversal_hungarian_add_B2_ls trivial) (fun n => (transversal_hungarian_add_L1_R m n)) (fun _ => by kernel_rfl) (fun n x => (transversal_hungarian_add_L1_kr m n x).trans (by kernel_rfl)) n
abbrev transversal_hungarian_add_L0_I : SS := [(0, .a (.bx 0 [(.imm (.sl false (.pr (.int .i64) (.int .i64)))), (.nm 1 (.int .i64)), (.nm 2 (.int .i64)), (.nm 3 (.int .i64)), (.nm 4 (.int .i64))])), (1, .a (.c (.int .i64))), (5, .a (.c (.int .i64))), (6, .a (.c (.nm 5 (.int .i64)))), (7, .a (.c (.nm 6 (.int .i64)))), (8, .a (.c (.nm 7 .bool))), (9, .a (.c (.int .i64))), (10, .a (.c (.int .i64)))]
abbrev transversal_hungarian_add_L0_O : List (Ex × SS) := [(.ret, [(0, .a (.bx 0 [(.imm (.sl false (.pr (.int .i64) (.int .i64)))), (.nm 1 (.int .i64)), (.nm 2 (.int .i64)), (.nm 3 (.int .i64)), (.nm 4 (.int .i64))])), (4, .a (.c .bool))])]
def transversal_hungarian_add_L0_R (m n : Nat) : transversal_hungarian_add_L0_I.Val → Option (outVal transversal_hungarian_add_L0_O) := (fun (x : ((List (List (Int × Int))) × List Int × List Int × List Int × List Int × Unit) × Int × Int × List Int × List Int × List Bool × Int × Int × Unit) => transversal_hungarian_add_L0 m n x.1.1 x.1.2.1 x.1.2.2.1 x.1.2.2.2.1 x.1.2.2.2.2.1 x.2.1 x.2.2.1 x.2.2.2.1 x.2.2.2.2.1 x.2.2.2.2.2.1 x.2.2.2.2.2.2.1 x.2.2.2.2.2.2.2.1)
def transversal_hungarian_add_L0_T (m n : Nat) : LoopT := ⟨0, transversal_hungarian_add_L0_I, transversal_hungarian_add_L0_O, transversal_hungarian_add_L0_R m n⟩
theorem transversal_hungarian_add_L0_kr (m n : Nat) (x : transversal_hungarian_add_L0_I.Val) : roundK (mkC (outVal transversal_hungarian_add_L0_O) [transversal_full_T m, transversal_hungarian_change_T m, transversal_hungarian_turn_T m]) (mkLp (outVal transversal_hungarian_add_L0_O) [transversal_hungarian_add_L1_T m m, transversal_hungarian_add_L2_T m m]) tt 155 transversal_hungarian_add_H transversal_hungarian_add_B0 0 (transversal_hungarian_add_L0_I.enc x) (Kl (ins := transversal_hungarian_add_L0_I) (outs := transversal_hungarian_add_L0_O) (transversal_hungarian_add_L0_R m n)) = transversal_hungarian_add_L0 m (n + 1) x.1.1 x.1.2.1 x.1.2.2.1 x.1.2.2.2.1 x.1.2.2.2.2.1 x.2.1 x.2.2.1 x.2.2.2.1 x.2.2.2.2.1 x.2.2.2.2.2.1 x.2.2.2.2.2.2.1 x.2.2.2.2.2.2.2.1 := by kernel_rfl
theorem transversal_hungarian_add_L0_ok {E : Entry} (hE : EOf Tryz.prog E 155 transversal_hungarian_add_H.pins) (m : Nat) (n : Nat) : LoopOK Tryz.prog E transversal_hungarian_add_B0 (transversal_hungarian_add_L0_T m n) :=
  loop_ok (CO := CallOK Tryz.prog) hmix htt (fun _ _ _ _ h => h) hE (C := fun R => mkC R [transversal_full_T m, transversal_hungarian_change_T m, transversal_hungarian_turn_T m]) (L := [transversal_hungarian_add_L1_T m m, transversal_hungarian_add_L2_T m m]) (fun _ _ _ _ _ h => mkC_spec (AllF.mem (l := [transversal_full_T m, transversal_hungarian_change_T m, transversal_hungarian_turn_T m]) ⟨transversal_full_ok m, transversal_hungarian_change_ok m, transversal_hungarian_turn_ok m, trivial⟩) h) (fun _ _ => loopsIn_of transversal_hungarian_add_B0_ls ⟨mkLp_all ⟨fun _ => transversal_hungarian_add_L1_ok hE m m, fun h => absurd (show (4 : Nat) = 2 from h) (by decide), trivial⟩, mkLp_all ⟨fun h => absurd (show (2 : Nat) = 4 from h) (by decide), fun _ => transversal_hungarian_add_L2_ok hE m m, trivial⟩, trivial⟩) (fun n => (transversal_hungarian_add_L0_R m n)) (fun _ => by kernel_rfl) (fun n x => (transversal_hungarian_add_L0_kr m n x).trans (by kernel_rfl)) n
theorem transversal_hungarian_add_kr (m : Nat) (x : ShLVal transversal_hungarian_add_A) : fnK (mkC (transversal_hungarian_add_S.Val × ShLVal transversal_hungarian_add_U) [transversal_full_T m, transversal_hungarian_change_T m, transversal_hungarian_turn_T m]) (mkLp (transversal_hungarian_add_S.Val × ShLVal transversal_hungarian_add_U) [transversal_hungarian_add_L0_T m m]) tt transversal_hungarian_add_H Tryz.f37 (encS transversal_hungarian_add_A x) (Kd transversal_hungarian_add_S transversal_hungarian_add_U) = transversal_hungarian_add m x.1.1 x.1.2.1 x.1.2.2.1 x.1.2.2.2.1 x.1.2.2.2.2.1 x.2.1 := by kernel_rfl
theorem transversal_hungarian_add_ok (m : Nat) : FunOK Tryz.prog (transversal_hungarian_add_T m) :=
  fun_ok hmix htt (transversal_hungarian_add_T m) Tryz.func37 (c := transversal_hungarian_add_C) (by kernel_rfl) (by kernel_rfl) (Lc := [transversal_full_T m, transversal_hungarian_change_T m, transversal_hungarian_turn_T m]) (AllF.mem (l := [transversal_full_T m, transversal_hungarian_change_T m, transversal_hungarian_turn_T m]) ⟨transversal_full_ok m, transversal_hungarian_change_ok m, transversal_hungarian_turn_ok m, trivial⟩) (L := [transversal_hungarian_add_L0_T m m]) (fun _ hE _ _ => loopsIn_of transversal_hungarian_add_C_ls ⟨mkLp_all ⟨fun _ => transversal_hungarian_add_L0_ok hE m m, trivial⟩, trivial⟩) (fun x => (transversal_hungarian_add_kr m x).trans (by kernel_rfl))
/-! 22 sparse/transversal.best -/
def transversal_best_H : Hints := { regs := [⟨[], [0]⟩, ⟨[], [0, 4]⟩, ⟨[], [0, 4, 5]⟩, ⟨[(0, 1)], [4, 5, 24, 25, 26]⟩, ⟨[], [4, 5, 24, 25, 26, 27]⟩, ⟨[], [4, 5, 6, 7, 24, 25, 26]⟩, ⟨[], [4, 5, 6, 7, 24, 25, 26, 33]⟩, ⟨[], [2, 3]⟩, ⟨[], [4, 5, 6, 7, 24, 25, 26]⟩, ⟨[(0, 1)], [4, 5, 6, 24, 25, 26, 44, 45, 46]⟩, ⟨[], [4, 5, 6, 24, 25, 26, 44, 45, 46, 47]⟩, ⟨[], [4, 5, 6, 9, 24, 25, 26, 44, 45, 46]⟩, ⟨[], [4, 5, 6, 24, 25, 26, 44, 45, 46]⟩, ⟨[(1, 1)], [4, 5, 6, 24, 25, 26, 44, 45, 46]⟩, ⟨[(1, 1)], [4, 5, 24, 25, 26]⟩, ⟨[(0, 1)], [5, 68, 69]⟩, ⟨[], [5, 68, 69, 70]⟩, ⟨[], [5, 10, 68, 69]⟩, ⟨[(1, 1)], [5, 68, 69, 75]⟩, ⟨[], [2, 3]⟩, ⟨[(1, 1)], [5, 68, 69]⟩, ⟨[(0, 1)], [2, 3]⟩], heads := [(0, [4, 5, 24, 25, 26]), (2, [4, 5, 6, 24, 25, 26, 44, 45, 46]), (4, [5, 68, 69])], exits := [(0, [4, 5]), (1, [4, 5, 24, 25, 26]), (2, [4, 5, 24, 25, 26]), (3, [4, 5, 6, 24, 25, 26, 44, 45, 46]), (4, [5]), (5, [5, 68, 69])], rets := [2, 3], pins := [], spec := [[false, true, true, true, true], [false]] }
abbrev transversal_best_A : List Sh := [.a (.c (.imm (.sl false (.pr (.int .i64) (.int .i64)))))]
abbrev transversal_best_S : Sh := .altT [(.c .nilp), (.c (.bconst false))] [(.bx 0 [(.imm (.sl false (.pr (.int .i64) (.int .i64)))), (.nm 1 (.int .i64)), (.nm 2 (.int .i64)), (.nm 3 (.int .i64)), (.nm 4 (.int .i64))]), (.c (.bconst true))]
abbrev transversal_best_U : List Sh := [.a (.c .dead)]
def transversal_best_R (m : Nat) : ShLVal transversal_best_A → Option (transversal_best_S.Val × ShLVal transversal_best_U) := fun (x : (List (List (Int × Int))) × Unit) => transversal_best m x.1
def transversal_best_T (m : Nat) : FunT := ⟨22, transversal_best_A, transversal_best_S, transversal_best_U, transversal_best_R m⟩
noncomputable def transversal_best_C : Code := codeOf Tryz.f22
noncomputable def transversal_best_B0 : Code := loopAt transversal_best_C 0 0
noncomputable def transversal_best_B2 : Code := loopAt transversal_best_B0 0 0
theorem transversal_best_B2_ls : loopsL transversal_best_B2 2 = [] := by kernel_rfl
theorem transversal_best_B0_ls : loopsL transversal_best_B0 0 = [(2, transversal_best_B2)] := by kernel_rfl
noncomputable def transversal_best_B4 : Code := loopAt transversal_best_C 0 1
theorem transversal_best_B4_ls : loopsL transversal_best_B4 4 = [] := by kernel_rfl
theorem transversal_best_C_ls : loopsL transversal_best_C 0 = [(0, transversal_best_B0), (4, transversal_best_B4)] := by kernel_rfl
abbrev transversal_best_L2_I : SS := [(5, .a (.bx 0 [(.imm (.sl false (.pr (.int .i64) (.int .i64)))), (.nm 1 (.int .i64)), (.nm 2 (.int .i64)), (.nm 3 (.int .i64)), (.nm 4 (.int .i64))])), (68, .a (.c (.int .i64))), (69, .a (.c (.int .i64)))]
abbrev transversal_best_L2_O : List (Ex × SS) := [(.ret, [(2, .a (.c .nilp)), (3, .a (.c (.bconst false)))]), (.exit 4, [(5, .a (.bx 0 [(.imm (.sl false (.pr (.int .i64) (.int .i64)))), (.nm 1 (.int .i64)), (.nm 2 (.int .i64)), (.nm 3 (.int .i64)), (.nm 4 (.int .i64))]))])]
def transversal_best_L2_R (m n : Nat) : transversal_best_L2_I.Val → Option (outVal transversal_best_L2_O) := (fun (x : ((List (List (Int × Int))) × List Int × List Int × List Int × List Int × Unit) × Int × Int × Unit) => transversal_best_L2 m n x.1.1 x.1.2.1 x.1.2.2.1 x.1.2.2.2.1 x.1.2.2.2.2.1 x.2.1 x.2.2.1)
def transversal_best_L2_T (m n : Nat) : LoopT := ⟨4, transversal_best_L2_I, transversal_best_L2_O, transversal_best_L2_R m n⟩
theorem transversal_best_L2_kr (m n : Nat) (x : transversal_best_L2_I.Val) : roundK (mkC (outVal transversal_best_L2_O) [transversal_full_T m, transversal_hungarian_add_T m]) (mkLp (outVal transversal_best_L2_O) []) tt 78 transversal_best_H transversal_best_B4 4 (transversal_best_L2_I.enc x) (Kl (ins := transversal_best_L2_I) (outs := transversal_best_L2_O) (transversal_best_L2_R m n)) = transversal_best_L2 m (n + 1) x.1.1 x.1.2.1 x.1.2.2.1 x.1.2.2.2.1 x.1.2.2.2.2.1 x.2.1 x.2.2.1 := by kernel_rfl
theorem transversal_best_L2_ok {E : Entry} (hE : EOf Tryz.prog E 78 transversal_best_H.pins) (m : Nat) (n : Nat) : LoopOK Tryz.prog E transversal_best_B4 (transversal_best_L2_T m n) :=
  loop_ok (CO := CallOK Tryz.prog) hmix htt (fun _ _ _ _ h => h) hE (C := fun R => mkC R [transversal_full_T m, transversal_hungarian_add_T m]) (L := []) (fun _ _ _ _ _ h => mkC_spec (AllF.mem (l := [transversal_full_T m, transversal_hungarian_add_T m]) ⟨transversal_full_ok m, transversal_hungarian_add_ok m, trivial⟩) h) (fun _ _ => loopsIn_of transversal_best_B4_ls trivial) (fun n => (transversal_best_L2_R m n)) (fun _ => by kernel_rfl) (fun n x => (transversal_best_L2_kr m n x).trans (by kernel_rfl)) n
abbrev transversal_best_L1_I : SS := [(4, .a (.c (.int .i64))), (5, .a (.bx 0 [(.imm (.sl false (.pr (.int .i64) (.int .i64)))), (.nm 1 (.int .i64)), (.nm 2 (.int .i64)), (.nm 3 (.int .i64)), (.nm 4 (.int .i64))])), (6, .a (.c (.int .i64))), (24, .a (.c (.imm (.sl false (.pr (.int .i64) (.int .i64)))))), (25, .a (.c (.int .i64))), (26, .a (.c (.int .i64))), (44, .a (.c (.imm (.pr (.int .i64) (.int .i64))))), (45, .a (.c (.int .i64))), (46, .a (.c (.int .i64)))]
abbrev transversal_best_L1_O : List (Ex × SS) := [(.exit 2, [(4, .a (.c (.int .i64))), (5, .a (.bx 0 [(.imm (.sl false (.pr (.int .i64) (.int .i64)))), (.nm 1 (.int .i64)), (.nm 2 (.int .i64)), (.nm 3 (.int .i64)), (.nm 4 (.int .i64))])), (24, .a (.c (.imm (.sl false (.pr (.int .i64) (.int .i64)))))), (25, .a (.c (.int .i64))), (26, .a (.c (.int .i64)))])]
def transversal_best_L1_R (m n : Nat) : transversal_best_L1_I.Val → Option (outVal transversal_best_L1_O) := (fun (x : Int × ((List (List (Int × Int))) × List Int × List Int × List Int × List Int × Unit) × Int × (List (List (Int × Int))) × Int × Int × (List (Int × Int)) × Int × Int × Unit) => transversal_best_L1 m n x.1 x.2.1.1 x.2.1.2.1 x.2.1.2.2.1 x.2.1.2.2.2.1 x.2.1.2.2.2.2.1 x.2.2.1 x.2.2.2.1 x.2.2.2.2.1 x.2.2.2.2.2.1 x.2.2.2.2.2.2.1 x.2.2.2.2.2.2.2.1 x.2.2.2.2.2.2.2.2.1)
def transversal_best_L1_T (m n : Nat) : LoopT := ⟨2, transversal_best_L1_I, transversal_best_L1_O, transversal_best_L1_R m n⟩
theorem transversal_best_L1_kr (m n : Nat) (x : transversal_best_L1_I.Val) : roundK (mkC (outVal transversal_best_L1_O) [transversal_full_T m, transversal_hungarian_add_T m]) (mkLp (outVal transversal_best_L1_O) []) tt 78 transversal_best_H transversal_best_B2 2 (transversal_best_L1_I.enc x) (Kl (ins := transversal_best_L1_I) (outs := transversal_best_L1_O) (transversal_best_L1_R m n)) = transversal_best_L1 m (n + 1) x.1 x.2.1.1 x.2.1.2.1 x.2.1.2.2.1 x.2.1.2.2.2.1 x.2.1.2.2.2.2.1 x.2.2.1 x.2.2.2.1 x.2.2.2.2.1 x.2.2.2.2.2.1 x.2.2.2.2.2.2.1 x.2.2.2.2.2.2.2.1 x.2.2.2.2.2.2.2.2.1 := by kernel_rfl
theorem transversal_best_L1_ok {E : Entry} (hE : EOf Tryz.prog E 78 transversal_best_H.pins) (m : Nat) (n : Nat) : LoopOK Tryz.prog E transversal_best_B2 (transversal_best_L1_T m n) :=
  loop_ok (CO := CallOK Tryz.prog) hmix htt (fun _ _ _ _ h => h) hE (C := fun R => mkC R [transversal_full_T m, transversal_hungarian_add_T m]) (L := []) (fun _ _ _ _ _ h => mkC_spec (AllF.mem (l := [transversal_full_T m, transversal_hungarian_add_T m]) ⟨transversal_full_ok m, transversal_hungarian_add_ok m, trivial⟩) h) (fun _ _ => loopsIn_of transversal_best_B2_ls trivial) (fun n => (transversal_best_L1_R m n)) (fun _ => by kernel_rfl) (fun n x => (transversal_best_L1_kr m n x).trans (by kernel_rfl)) n
abbrev transversal_best_L0_I : SS := [(4, .a (.c (.int .i64))), (5, .a (.bx 0 [(.imm (.sl false (.pr (.int .i64) (.int .i64)))), (.nm 1 (.int .i64)), (.nm 2 (.int .i64)), (.nm 3 (.int .i64)), (.nm 4 (.int .i64))])), (24, .a (.c (.imm (.sl false (.pr (.int .i64) (.int .i64)))))), (25, .a (.c (.int .i64))), (26, .a (.c (.int .i64)))]
abbrev transversal_best_L0_O : List (Ex × SS) := [(.ret, [(2, .a (.c .nilp)), (3, .a (.c (.bconst false)))]), (.exit 0, [(4, .a (.c (.int .i64))), (5, .a (.bx 0 [(.imm (.sl false (.pr (.int .i64) (.int .i64)))), (.nm 1 (.int .i64)), (.nm 2 (.int .i64)), (.nm 3 (.int .i64)), (.nm 4 (.int .i64))]))])]
def transversal_best_L0_R (m n : Nat) : transversal_best_L0_I.Val → Option (outVal transversal_best_L0_O) := (fun (x : Int × ((List (List (Int × Int))) × List Int × List Int × List Int × List Int × Unit) × (List (List (Int × Int))) × Int × Int × Unit) => transversal_best_L0 m n x.1 x.2.1.1 x.2.1.2.1 x.2.1.2.2.1 x.2.1.2.2.2.1 x.2.1.2.2.2.2.1 x.2.2.1 x.2.2.2.1 x.2.2.2.2.1)
def transversal_best_L0_T (m n : Nat) : LoopT := ⟨0, transversal_best_L0_I, transversal_best_L0_O, transversal_best_L0_R m n⟩
theorem transversal_best_L0_kr (m n : Nat) (x : transversal_best_L0_I.Val) : roundK (mkC (outVal transversal_best_L0_O) [transversal_full_T m, transversal_hungarian_add_T m]) (mkLp (outVal transversal_best_L0_O) [transversal_best_L1_T m m]) tt 78 transversal_best_H transversal_best_B0 0 (transversal_best_L0_I.enc x) (Kl (ins := transversal_best_L0_I) (outs := transversal_best_L0_O) (transversal_best_L0_R m n)) = transversal_best_L0 m (n + 1) x.1 x.2.1.1 x.2.1.2.1 x.2.1.2.2.1 x.2.1.2.2.2.1 x.2.1.2.2.2.2.1 x.2.2.1 x.2.2.2.1 x.2.2.2.2.1 := by kernel_rfl
theorem transversal_best_L0_ok {E : Entry} (hE : EOf Tryz.prog E 78 transversal_best_H.pins) (m : Nat) (n : Nat) : LoopOK Tryz.prog E transversal_best_B0 (transversal_best_L0_T m n) :=
  loop_ok (CO := CallOK Tryz.prog) hmix htt (fun _ _ _ _ h => h) hE (C := fun R => mkC R [transversal_full_T m, transversal_hungarian_add_T m]) (L := [transversal_best_L1_T m m]) (fun _ _ _ _ _ h => mkC_spec (AllF.mem (l := [transversal_full_T m, transversal_hungarian_add_T m]) ⟨transversal_full_ok m, transversal_hungarian_add_ok m, trivial⟩) h) (fun _ _ => loopsIn_of transversal_best_B0_ls ⟨mkLp_all ⟨fun _ => transversal_best_L1_ok hE m m, trivial⟩, trivial⟩) (fun n => (transversal_best_L0_R m n)) (fun _ => by kernel_rfl) (fun n x => (transversal_best_L0_kr m n x).trans (by kernel_rfl)) n
theorem transversal_best_kr (m : Nat) (x : ShLVal transversal_best_A) : fnK (mkC (transversal_best_S.Val × ShLVal transversal_best_U) [transversal_full_T m, transversal_hungarian_add_T m]) (mkLp (transversal_best_S.Val × ShLVal transversal_best_U) [transversal_best_L0_T m m, transversal_best_L2_T m m]) tt transversal_best_H Tryz.f22 (encS transversal_best_A x) (Kd transversal_best_S transversal_best_U) = transversal_best m x.1 := by kernel_rfl
theorem transversal_best_ok (m : Nat) : FunOK Tryz.prog (transversal_best_T m) :=
  fun_ok hmix htt (transversal_best_T m) Tryz.func22 (c := transversal_best_C) (by kernel_rfl) (by kernel_rfl) (Lc := [transversal_full_T m, transversal_hungarian_add_T m]) (AllF.mem (l := [transversal_full_T m, transversal_hungarian_add_T m]) ⟨transversal_full_ok m, transversal_hungarian_add_ok m, trivial⟩) (L := [transversal_best_L0_T m m, transversal_best_L2_T m m]) (fun _ hE _ _ => loopsIn_of transversal_best_C_ls ⟨mkLp_all ⟨fun _ => transversal_best_L0_ok hE m m, fun h => absurd (show (4 : Nat) = 0 from h) (by decide), trivial⟩, mkLp_all ⟨fun h => absurd (show (0 : Nat) = 4 from h) (by decide), fun _ => transversal_best_L2_ok hE m m, trivial⟩, trivial⟩) (fun x => (transversal_best_kr m x).trans (by kernel_rfl))
/-! 40 __sparse/transversal.hungarian_.move -/
def transversal_hungarian_move_H : Hints := { regs := [⟨[], [0, 1, 2, 3, 4, 5]⟩, ⟨[], [0, 1, 2, 3, 4, 5, 18, 19, 20]⟩, ⟨[], [0, 1, 2, 3, 4, 5, 18, 19, 20, 21]⟩, ⟨[], [0, 1, 2, 3, 4, 5, 14, 18, 19, 20]⟩, ⟨[], [0, 1, 2, 3, 4, 5, 14, 18, 19, 20, 27]⟩, ⟨[(3, 1)], [0, 1, 2, 3, 4, 5, 14, 18, 19, 20, 41]⟩, ⟨[], [0, 1, 2, 3, 4, 5, 14, 18, 19, 20]⟩, ⟨[(3, 1), (16, 16)], [0, 1, 2, 3, 4, 5, 14, 18, 19, 20, 62]⟩, ⟨[], [0, 5]⟩, ⟨[], [0, 5, 12]⟩, ⟨[(1, 1)], [0, 1, 2, 3, 4, 5, 18, 19, 20]⟩, ⟨[], [0, 5, 12]⟩], heads := [(0, [0, 1, 2, 3, 4, 5, 18, 19, 20])], exits := [(0, [0, 5]), (1, [0, 1, 2, 3, 4, 5, 18, 19, 20])], rets := [0, 5, 12], pins := [0, 5], spec := [[false]] }
abbrev transversal_hungarian_move_A : List Sh := [.a (.bx 0 [(.imm (.sl false (.pr (.int .i64) (.int .i64)))), (.nm 1 (.int .i64)), (.nm 2 (.int .i64)), (.nm 3 (.int .i64)), (.nm 4 (.int .i64))]), .a (.c (.imm (.sl false (.int .i64)))), .a (.c (.int .i64)), .a (.c (.int .i64)), .a (.c (.int .i64)), .a (.c (.nm 5 .bool))]
abbrev transversal_hungarian_move_S : Sh := .a (.c .bool)
abbrev transversal_hungarian_move_U : List Sh := [.a (.bx 0 [(.imm (.sl false (.pr (.int .i64) (.int .i64)))), (.nm 1 (.int .i64)), (.nm 2 (.int .i64)), (.nm 3 (.int .i64)), (.nm 4 (.int .i64))]), .a (.c .dead), .a (.c .dead), .a (.c .dead), .a (.c .dead), .a (.c (.nm 5 .bool))]
def transversal_hungarian_move_R (m : Nat) : ShLVal transversal_hungarian_move_A → Option (transversal_hungarian_move_S.Val × ShLVal transversal_hungarian_move_U) := fun (x : ((List (List (Int × Int))) × List Int × List Int × List Int × List Int × Unit) × List (List Int) × Int × Int × Int × List Bool × Unit) => transversal_hungarian_move m x.1.1 x.1.2.1 x.1.2.2.1 x.1.2.2.2.1 x.1.2.2.2.2.1 x.2.1 x.2.2.1 x.2.2.2.1 x.2.2.2.2.1 x.2.2.2.2.2.1
def transversal_hungarian_move_T (m : Nat) : FunT := ⟨40, transversal_hungarian_move_A, transversal_hungarian_move_S, transversal_hungarian_move_U, transversal_hungarian_move_R m⟩
noncomputable def transversal_hungarian_move_C : Code := codeOf Tryz.f40
noncomputable def transversal_hungarian_move_B0 : Code := loopAt transversal_hungarian_move_C 0 0
theorem transversal_hungarian_move_B0_ls : loopsL transversal_hungarian_move_B0 0 = [] := by kernel_rfl
theorem transversal_hungarian_move_C_ls : loopsL transversal_hungarian_move_C 0 = [(0, transversal_hungarian_move_B0)] := by kernel_rfl
abbrev transversal_hungarian_move_L0_I : SS := [(0, .a (.bx 0 [(.imm (.sl false (.pr (.int .i64) (.int .i64)))), (.nm 1 (.int .i64)), (.nm 2 (.int .i64)), (.nm 3 (.int .i64)), (.nm 4 (.int .i64))])), (1, .a (.c (.imm (.sl false (.int .i64))))), (2, .a (.c (.int .i64))), (3, .a (.c (.int .i64))), (4, .a (.c (.int .i64))), (5, .a (.c (.nm 5 .bool))), (18, .a (.c (.imm (.int .i64)))), (19, .a (.c (.int .i64))), (20, .a (.c (.int .i64)))]
abbrev transversal_hungarian_move_L0_O : List (Ex × SS) := [(.ret, [(0, .a (.bx 0 [(.imm (.sl false (.pr (.int .i64) (.int .i64)))), (.nm 1 (.int .i64)), (.nm 2 (.int .i64)), (.nm 3 (.int .i64)), (.nm 4 (.int .i64))])), (5, .a (.c (.nm 5 .bool))), (12, .a (.c .bool))]), (.exit 0, [(0, .a (.bx 0 [(.imm (.sl false (.pr (.int .i64) (.int .i64)))), (.nm 1 (.int .i64)), (.nm 2 (.int .i64)), (.nm 3 (.int .i64)), (.nm 4 (.int .i64))])), (5, .a (.c (.nm 5 .bool)))])]
def transversal_hungarian_move_L0_R (m n : Nat) : transversal_hungarian_move_L0_I.Val → Option (outVal transversal_hungarian_move_L0_O) := (fun (x : ((List (List (Int × Int))) × List Int × List Int × List Int × List Int × Unit) × List (List Int) × Int × Int × Int × List Bool × List Int × Int × Int × Unit) => transversal_hungarian_move_L0 (fun a0 a1 a2 a3 a4 a5 a6 a7 a8 a9 => transversal_hungarian_move m a0 a1 a2 a3 a4 a5 a6 a7 a8 a9) m n x.1.1 x.1.2.1 x.1.2.2.1 x.1.2.2.2.1 x.1.2.2.2.2.1 x.2.1 x.2.2.1 x.2.2.2.1 x.2.2.2.2.1 x.2.2.2.2.2.1 x.2.2.2.2.2.2.1 x.2.2.2.2.2.2.2.1 x.2.2.2.2.2.2.2.2.1)
def transversal_hungarian_move_L0_T (m n : Nat) : LoopT := ⟨0, transversal_hungarian_move_L0_I, transversal_hungarian_move_L0_O, transversal_hungarian_move_L0_R m n⟩
theorem transversal_hungarian_move_L0_kr (m n : Nat) (x : transversal_hungarian_move_L0_I.Val) : roundK (mkC (outVal transversal_hungarian_move_L0_O) [transversal_hungarian_move_T m]) (mkLp (outVal transversal_hungarian_move_L0_O) []) tt 78 transversal_hungarian_move_H transversal_hungarian_move_B0 0 (transversal_hungarian_move_L0_I.enc x) (Kl (ins := transversal_hungarian_move_L0_I) (outs := transversal_hungarian_move_L0_O) (transversal_hungarian_move_L0_R m n)) = transversal_hungarian_move_L0 (fun a0 a1 a2 a3 a4 a5 a6 a7 a8 a9 => transversal_hungarian_move m a0 a1 a2 a3 a4 a5 a6 a7 a8 a9) m (n + 1) x.1.1 x.1.2.1 x.1.2.2.1 x.1.2.2.2.1 x.1.2.2.2.2.1 x.2.1 x.2.2.1 x.2.2.2.1 x.2.2.2.2.1 x.2.2.2.2.2.1 x.2.2.2.2.2.2.1 x.2.2.2.2.2.2.2.1 x.2.2.2.2.2.2.2.2.1 := by kernel_rfl
theorem transversal_hungarian_move_L0_ok {E : Entry} (hE : EOf Tryz.prog E 78 transversal_hungarian_move_H.pins) (m : Nat) (hself : FunOK Tryz.prog (transversal_hungarian_move_T m)) (n : Nat) : LoopOK Tryz.prog E transversal_hungarian_move_B0 (transversal_hungarian_move_L0_T m n) :=
  loop_ok (CO := CallOK Tryz.prog) hmix htt (fun _ _ _ _ h => h) hE (C := fun R => mkC R [transversal_hungarian_move_T m]) (L := []) (fun _ _ _ _ _ h => mkC_spec (AllF.mem (l := [transversal_hungarian_move_T m]) ⟨hself, trivial⟩) h) (fun _ _ => loopsIn_of transversal_hungarian_move_B0_ls trivial) (fun n => (transversal_hungarian_move_L0_R m n)) (fun _ => by kernel_rfl) (fun n x => (transversal_hungarian_move_L0_kr m n x).trans (by kernel_rfl)) n
theorem transversal_hungarian_move_kr (m : Nat) (x : ShLVal transversal_hungarian_move_A) : fnK (mkC (transversal_hungarian_move_S.Val × ShLVal transversal_hungarian_move_U) [transversal_hungarian_move_T m]) (mkLp (transversal_hungarian_move_S.Val × ShLVal transversal_hungarian_move_U) [transversal_hungarian_move_L0_T m m]) tt transversal_hungarian_move_H Tryz.f40 (encS transversal_hungarian_move_A x) (Kd transversal_hungarian_move_S transversal_hungarian_move_U) = transversal_hungarian_move (m + 1) x.1.1 x.1.2.1 x.1.2.2.1 x.1.2.2.2.1 x.1.2.2.2.2.1 x.2.1 x.2.2.1 x.2.2.2.1 x.2.2.2.2.1 x.2.2.2.2.2.1 := by kernel_rfl
theorem transversal_hungarian_move_ok : ∀ m : Nat, FunOK Tryz.prog (transversal_hungarian_move_T m)
  | 0 => fun _ _ h => by cases h
  | m + 1 => by
    have hself := transversal_hungarian_move_ok m
    exact fun_ok hmix htt (transversal_hungarian_move_T (m + 1)) Tryz.func40 (c := transversal_hungarian_move_C) (by kernel_rfl) (by kernel_rfl) (Lc := [transversal_hungarian_move_T m]) (AllF.mem (l := [transversal_hungarian_move_T m]) ⟨hself, trivial⟩) (L := [transversal_hungarian_move_L0_T m m]) (fun _ hE _ _ => loopsIn_of transversal_hungarian_move_C_ls ⟨mkLp_all ⟨fun _ => transversal_hungarian_move_L0_ok hE m hself m, trivial⟩, trivial⟩) (fun x => (transversal_hungarian_move_kr m x).trans (by kernel_rfl))
end Go.Vs.F
