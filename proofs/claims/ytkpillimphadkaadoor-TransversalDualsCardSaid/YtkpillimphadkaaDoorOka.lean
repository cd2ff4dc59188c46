/- The plain functions are what the code does (by program: gen.py). -/
import Derived.Test.YtkpillimphadkaaDoorFn
import Derived.Test.YtkpillimphadkaaDoorVc
import Derived.Test.YtkpillimphadkaaDoorProg
import Derived.KernelRfl

/-! TdOk1 -/
set_option linter.unusedVariables false
set_option maxRecDepth 100000
namespace Go.Vs.F
open Go.Proofs
def tt : TT := [none, none, none, some ⟨(.int .i64), [.int .i64]⟩, some ⟨.bool, [.bool]⟩, some ⟨(.int .u8), [.int .u8]⟩, none, none, none, some ⟨.string, [.other]⟩, none, none, none, none, none, none, none, none, none, none, none, none, some ⟨(.slice 3 (.int .i64)), [.nil (.int .i64)]⟩, none, none, some ⟨(.slice 38 (.int .u64)), [.nil (.int .u64)]⟩, none, some ⟨(.struct [(0, 1), (1, 1), (2, 1), (3, 1), (4, 1)]), [.int .i64, .int .i64, .nil (.int .i64), .nil (.int .i64), .nil (.int .u64)]⟩, none, none, some ⟨(.struct [(0, 1), (1, 1), (2, 1)]), [.nil (.int .i64), .nil (.int .i64), .nil (.int .i64)]⟩, none, none, none, none, none, none, some ⟨(.int .u64), [.int .u64]⟩, some ⟨(.int .u64), [.int .u64]⟩, none, some ⟨(.int .u64), [.int .u64]⟩, some ⟨(.slice 45 (.pr (.int .i64) (.pr (.int .i64) (.int .u64)))), [.nil (.pr (.int .i64) (.pr (.int .i64) (.int .u64)))]⟩, none, none, none, some ⟨(.struct [(0, 1), (1, 1), (2, 1)]), [.int .i64, .int .i64, .int .u64]⟩, none, none, none, none, none, some ⟨(.slice 68 (.sl false (.pr (.int .i64) (.int .i64)))), [.nil (.sl false (.pr (.int .i64) (.int .i64)))]⟩, none, none, none, none, some ⟨(.struct [(0, 1), (1, 1), (2, 1), (3, 1), (4, 1)]), [.nil (.sl false (.pr (.int .i64) (.int .i64))), .nil (.int .i64), .nil (.int .i64), .nil (.int .i64), .nil (.int .i64)]⟩, none, none, none, some ⟨(.slice 99 (.int .u32)), [.nil (.int .u32)]⟩, none, some ⟨(.struct [(0, 1), (1, 1)]), [.bool, .nil (.int .u32)]⟩, none, some ⟨(.struct [(0, 1), (1, 2), (3, 1)]), [.bool, .bool, .nil (.int .u32), .int .i64]⟩, none, none, none, some ⟨(.slice 70 (.pr (.int .i64) (.int .i64))), [.nil (.pr (.int .i64) (.int .i64))]⟩, none, some ⟨(.struct [(0, 1), (1, 1)]), [.int .i64, .int .i64]⟩, none, none, none, none, some ⟨(.slice 22 (.sl false (.int .i64))), [.nil (.sl false (.int .i64))]⟩, some ⟨(.slice 4 .bool), [.nil .bool]⟩, none, none, none, none, none, none, none, none, none, none, none, none, none, none, none, none, none, none, none, none, none, none, some ⟨(.int .u32), [.int .u32]⟩, none, none, none, none, none, none, none, none, none, none, none, none, none, none, none, none, none, none, some ⟨(.tab 0 .u8 [0, 1, 28, 2, 29, 14, 24, 3, 30, 22, 20, 15, 25, 17, 4, 8, 31, 27, 13, 23, 21, 19, 16, 7, 26, 12, 18, 6, 11, 5, 10, 9]), [.other, .other, .other, .other, .other, .other, .other, .other, .other, .other, .other, .other, .other, .other, .other, .other, .other, .other, .other, .other, .other, .other, .other, .other, .other, .other, .other, .other, .other, .other, .other, .other]⟩]
theorem htt : TTok Tryd.prog tt := ttChk_spec (by kernel_rfl)
theorem hmix : Tryd.prog.follows .mixedOrders = true := by kernel_rfl
/-! 38 sparse/matrix.within -/
def g38_H : Hints := { regs := [⟨[], [0, 1, 2]⟩, ⟨[(1, 1), (3, 1), (5, 1)], [6]⟩], heads := [], exits := [], rets := [6], pins := [], spec := [[false]] }
abbrev g38_A : List Sh := [.a (.c (.int .i64)), .a (.c (.int .i64)), .a (.c (.int .i64))]
abbrev g38_S : Sh := .a (.c .bool)
abbrev g38_U : List Sh := [.a (.c .dead), .a (.c .dead), .a (.c .dead)]
def g38_R (m : Nat) : ShLVal g38_A → Option (g38_S.Val × ShLVal g38_U) := fun (x : Int × Int × Int × Unit) => g38 m x.1 x.2.1 x.2.2.1
def g38_T (m : Nat) : FunT := ⟨38, g38_A, g38_S, g38_U, g38_R m⟩
noncomputable def g38_C : Code := codeOf Tryd.f38
theorem g38_C_ls : loopsL g38_C 0 = [] := by kernel_rfl
theorem g38_kr (m : Nat) (x : ShLVal g38_A) : fnK (mkC (g38_S.Val × ShLVal g38_U) []) (mkLp (g38_S.Val × ShLVal g38_U) []) tt g38_H Tryd.f38 (encS g38_A x) (Kd g38_S g38_U) = g38 m x.1 x.2.1 x.2.2.1 := by kernel_rfl
theorem g38_ok (m : Nat) : FunOK Tryd.prog (g38_T m) :=
  fun_ok hmix htt (g38_T m) Tryd.func38 (c := g38_C) (by kernel_rfl) (by kernel_rfl) (Lc := []) (AllF.mem (l := []) trivial) (L := []) (fun _ hE _ _ => loopsIn_of g38_C_ls trivial) (fun x => (g38_kr m x).trans (by kernel_rfl))
/-! 90 cmp.isNaN_int_ -/
def g90_H : Hints := { regs := [⟨[], [0]⟩, ⟨[], [2]⟩], heads := [], exits := [], rets := [2], pins := [], spec := [[false]] }
abbrev g90_A : List Sh := [.a (.c (.int .i64))]
abbrev g90_S : Sh := .a (.c .bool)
abbrev g90_U : List Sh := [.a (.c .dead)]
def g90_R (m : Nat) : ShLVal g90_A → Option (g90_S.Val × ShLVal g90_U) := fun (x : Int × Unit) => g90 m x.1
def g90_T (m : Nat) : FunT := ⟨90, g90_A, g90_S, g90_U, g90_R m⟩
noncomputable def g90_C : Code := codeOf Tryd.f90
theorem g90_C_ls : loopsL g90_C 0 = [] := by kernel_rfl
theorem g90_kr (m : Nat) (x : ShLVal g90_A) : fnK (mkC (g90_S.Val × ShLVal g90_U) []) (mkLp (g90_S.Val × ShLVal g90_U) []) tt g90_H Tryd.f90 (encS g90_A x) (Kd g90_S g90_U) = g90 m x.1 := by kernel_rfl
theorem g90_ok (m : Nat) : FunOK Tryd.prog (g90_T m) :=
  fun_ok hmix htt (g90_T m) Tryd.func90 (c := g90_C) (by kernel_rfl) (by kernel_rfl) (Lc := []) (AllF.mem (l := []) trivial) (L := []) (fun _ hE _ _ => loopsIn_of g90_C_ls trivial) (fun x => (g90_kr m x).trans (by kernel_rfl))
/-! 77 cmp.Less_int_ -/
def g77_H : Hints := { regs := [⟨[], [0, 1]⟩, ⟨[(2, 1), (7, 1)], [4]⟩], heads := [], exits := [], rets := [4], pins := [], spec := [[false]] }
abbrev g77_A : List Sh := [.a (.c (.int .i64)), .a (.c (.int .i64))]
abbrev g77_S : Sh := .a (.c .bool)
abbrev g77_U : List Sh := [.a (.c .dead), .a (.c .dead)]
def g77_R (m : Nat) : ShLVal g77_A → Option (g77_S.Val × ShLVal g77_U) := fun (x : Int × Int × Unit) => g77 m x.1 x.2.1
def g77_T (m : Nat) : FunT := ⟨77, g77_A, g77_S, g77_U, g77_R m⟩
noncomputable def g77_C : Code := codeOf Tryd.f77
theorem g77_C_ls : loopsL g77_C 0 = [] := by kernel_rfl
theorem g77_kr (m : Nat) (x : ShLVal g77_A) : fnK (mkC (g77_S.Val × ShLVal g77_U) [g90_T m]) (mkLp (g77_S.Val × ShLVal g77_U) []) tt g77_H Tryd.f77 (encS g77_A x) (Kd g77_S g77_U) = g77 m x.1 x.2.1 := by kernel_rfl
theorem g77_ok (m : Nat) : FunOK Tryd.prog (g77_T m) :=
  fun_ok hmix htt (g77_T m) Tryd.func77 (c := g77_C) (by kernel_rfl) (by kernel_rfl) (Lc := [g90_T m]) (AllF.mem (l := [g90_T m]) ⟨g90_ok m, trivial⟩) (L := []) (fun _ hE _ _ => loopsIn_of g77_C_ls trivial) (fun x => (g77_kr m x).trans (by kernel_rfl))
/-! 58 slices.IsSorted___int_int_ -/
def g58_H : Hints := { regs := [⟨[], [0]⟩, ⟨[], [0, 3]⟩, ⟨[], [0, 3, 8]⟩, ⟨[(0, 1)], [0, 3]⟩, ⟨[], [0, 3, 20]⟩, ⟨[], [2]⟩, ⟨[], [2]⟩], heads := [(0, [0, 3])], exits := [(0, []), (1, [0, 3])], rets := [2], pins := [], spec := [[false]] }
abbrev g58_A : List Sh := [.a (.c (.imm (.int .i64)))]
abbrev g58_S : Sh := .a (.c .bool)
abbrev g58_U : List Sh := [.a (.c .dead)]
def g58_R (m : Nat) : ShLVal g58_A → Option (g58_S.Val × ShLVal g58_U) := fun (x : List Int × Unit) => g58 m x.1
def g58_T (m : Nat) : FunT := ⟨58, g58_A, g58_S, g58_U, g58_R m⟩
noncomputable def g58_C : Code := codeOf Tryd.f58
noncomputable def g58_B0 : Code := loopAt g58_C 0 0
theorem g58_B0_ls : loopsL g58_B0 0 = [] := by kernel_rfl
theorem g58_C_ls : loopsL g58_C 0 = [(0, g58_B0)] := by kernel_rfl
abbrev g58_L0_I : SS := [(0, .a (.c (.imm (.int .i64)))), (3, .a (.c (.int .i64)))]
abbrev g58_L0_O : List (Ex × SS) := [(.ret, [(2, .a (.c .bool))]), (.exit 0, [])]
def g58_L0_R (m n : Nat) : g58_L0_I.Val → Option (outVal g58_L0_O) := (fun (x : List Int × Int × Unit) => g58_L0 m n x.1 x.2.1)
def g58_L0_T (m n : Nat) : LoopT := ⟨0, g58_L0_I, g58_L0_O, g58_L0_R m n⟩
theorem g58_L0_kr (m n : Nat) (x : g58_L0_I.Val) : roundK (mkC (outVal g58_L0_O) [g77_T m]) (mkLp (outVal g58_L0_O) []) tt 21 g58_H g58_B0 0 (g58_L0_I.enc x) (Kl (ins := g58_L0_I) (outs := g58_L0_O) (g58_L0_R m n)) = g58_L0 m (n + 1) x.1 x.2.1 := by kernel_rfl
theorem g58_L0_ok {E : Entry} (hE : EOf Tryd.prog E 21 g58_H.pins) (m : Nat) (n : Nat) : LoopOK Tryd.prog E g58_B0 (g58_L0_T m n) :=
  loop_ok (CO := CallOK Tryd.prog) hmix htt (fun _ _ _ _ h => h) hE (C := fun R => mkC R [g77_T m]) (L := []) (fun _ _ _ _ _ h => mkC_spec (AllF.mem (l := [g77_T m]) ⟨g77_ok m, trivial⟩) h) (fun _ _ => loopsIn_of g58_B0_ls trivial) (fun n => (g58_L0_R m n)) (fun _ => by kernel_rfl) (fun n x => (g58_L0_kr m n x).trans (by kernel_rfl)) n
theorem g58_kr (m : Nat) (x : ShLVal g58_A) : fnK (mkC (g58_S.Val × ShLVal g58_U) [g77_T m]) (mkLp (g58_S.Val × ShLVal g58_U) [g58_L0_T m m]) tt g58_H Tryd.f58 (encS g58_A x) (Kd g58_S g58_U) = g58 m x.1 := by kernel_rfl
theorem g58_ok (m : Nat) : FunOK Tryd.prog (g58_T m) :=
  fun_ok hmix htt (g58_T m) Tryd.func58 (c := g58_C) (by kernel_rfl) (by kernel_rfl) (Lc := [g77_T m]) (AllF.mem (l := [g77_T m]) ⟨g77_ok m, trivial⟩) (L := [g58_L0_T m m]) (fun _ hE _ _ => loopsIn_of g58_C_ls ⟨mkLp_all ⟨fun _ => g58_L0_ok hE m m, trivial⟩, trivial⟩) (fun x => (g58_kr m x).trans (by kernel_rfl))
/-! 39 sparse/matrix.columns -/
def g39_H : Hints := { regs := [⟨[], [1]⟩, ⟨[(7, 1), (14, 1), (20, 1), (32, 1)], [1, 47]⟩, ⟨[], [2]⟩, ⟨[], [1, 49, 50]⟩, ⟨[], [1, 49, 50, 51]⟩, ⟨[], [1, 3, 49, 50]⟩, ⟨[], [1, 3, 4, 49, 50]⟩, ⟨[], [1, 4, 49, 50, 66, 67, 68]⟩, ⟨[], [1, 4, 49, 50, 66, 67, 68, 69]⟩, ⟨[], [1, 4, 6, 49, 50, 66, 67, 68]⟩, ⟨[(1, 1), (3, 1)], [1, 6, 49, 50, 66, 67, 68, 80]⟩, ⟨[], [2]⟩, ⟨[(0, 1)], [1, 4, 49, 50, 66, 67, 68]⟩, ⟨[(1, 1)], [1, 4, 49, 50, 66, 67, 68]⟩, ⟨[(1, 1)], [1, 49, 50]⟩, ⟨[], [2]⟩], heads := [(0, [1, 49, 50]), (2, [1, 4, 49, 50, 66, 67, 68])], exits := [(0, []), (1, [1, 49, 50]), (2, [1, 49, 50]), (3, [1, 4, 49, 50, 66, 67, 68])], rets := [2], pins := [], spec := [[false]] }
abbrev g39_A : List Sh := [.a (.agg [(.int .i64), (.int .i64), (.imm (.int .i64)), (.imm (.int .i64)), (.imm (.int .u64))])]
abbrev g39_S : Sh := .a (.c .bool)
abbrev g39_U : List Sh := [.a (.c .dead)]
def g39_R (m : Nat) : ShLVal g39_A → Option (g39_S.Val × ShLVal g39_U) := fun (x : (Int × Int × List Int × List Int × List Int × Unit) × Unit) => g39 m x.1.1 x.1.2.1 x.1.2.2.1 x.1.2.2.2.1 x.1.2.2.2.2.1
def g39_T (m : Nat) : FunT := ⟨39, g39_A, g39_S, g39_U, g39_R m⟩
noncomputable def g39_C : Code := codeOf Tryd.f39
noncomputable def g39_B0 : Code := loopAt g39_C 0 0
noncomputable def g39_B2 : Code := loopAt g39_B0 0 0
theorem g39_B2_ls : loopsL g39_B2 2 = [] := by kernel_rfl
theorem g39_B0_ls : loopsL g39_B0 0 = [(2, g39_B2)] := by kernel_rfl
theorem g39_C_ls : loopsL g39_C 0 = [(0, g39_B0)] := by kernel_rfl
abbrev g39_L1_I : SS := [(1, .a (.bx 0 [(.int .i64), (.int .i64), (.imm (.int .i64)), (.imm (.int .i64)), (.imm (.int .u64))])), (4, .a (.c (.int .i64))), (49, .a (.c (.int .i64))), (50, .a (.c (.int .i64))), (66, .a (.c (.imm (.int .i64)))), (67, .a (.c (.int .i64))), (68, .a (.c (.int .i64)))]
abbrev g39_L1_O : List (Ex × SS) := [(.ret, [(2, .a (.c .bool))]), (.exit 2, [(1, .a (.bx 0 [(.int .i64), (.int .i64), (.imm (.int .i64)), (.imm (.int .i64)), (.imm (.int .u64))])), (49, .a (.c (.int .i64))), (50, .a (.c (.int .i64)))])]
def g39_L1_R (m n : Nat) : g39_L1_I.Val → Option (outVal g39_L1_O) := (fun (x : (Int × Int × List Int × List Int × List Int × Unit) × Int × Int × Int × List Int × Int × Int × Unit) => g39_L1 m n x.1.1 x.1.2.1 x.1.2.2.1 x.1.2.2.2.1 x.1.2.2.2.2.1 x.2.1 x.2.2.1 x.2.2.2.1 x.2.2.2.2.1 x.2.2.2.2.2.1 x.2.2.2.2.2.2.1)
def g39_L1_T (m n : Nat) : LoopT := ⟨2, g39_L1_I, g39_L1_O, g39_L1_R m n⟩
theorem g39_L1_kr (m n : Nat) (x : g39_L1_I.Val) : roundK (mkC (outVal g39_L1_O) [g58_T m]) (mkLp (outVal g39_L1_O) []) tt 84 g39_H g39_B2 2 (g39_L1_I.enc x) (Kl (ins := g39_L1_I) (outs := g39_L1_O) (g39_L1_R m n)) = g39_L1 m (n + 1) x.1.1 x.1.2.1 x.1.2.2.1 x.1.2.2.2.1 x.1.2.2.2.2.1 x.2.1 x.2.2.1 x.2.2.2.1 x.2.2.2.2.1 x.2.2.2.2.2.1 x.2.2.2.2.2.2.1 := by kernel_rfl
theorem g39_L1_ok {E : Entry} (hE : EOf Tryd.prog E 84 g39_H.pins) (m : Nat) (n : Nat) : LoopOK Tryd.prog E g39_B2 (g39_L1_T m n) :=
  loop_ok (CO := CallOK Tryd.prog) hmix htt (fun _ _ _ _ h => h) hE (C := fun R => mkC R [g58_T m]) (L := []) (fun _ _ _ _ _ h => mkC_spec (AllF.mem (l := [g58_T m]) ⟨g58_ok m, trivial⟩) h) (fun _ _ => loopsIn_of g39_B2_ls trivial) (fun n => (g39_L1_R m n)) (fun _ => by kernel_rfl) (fun n x => (g39_L1_kr m n x).trans (by kernel_rfl)) n
abbrev g39_L0_I : SS := [(1, .a (.bx 0 [(.int .i64), (.int .i64), (.imm (.int .i64)), (.imm (.int .i64)), (.imm (.int .u64))])), (49, .a (.c (.int .i64))), (50, .a (.c (.int .i64)))]
abbrev g39_L0_O : List (Ex × SS) := [(.ret, [(2, .a (.c .bool))]), (.exit 0, [])]
def g39_L0_R (m n : Nat) : g39_L0_I.Val → Option (outVal g39_L0_O) := (fun (x : (Int × Int × List Int × List Int × List Int × Unit) × Int × Int × Unit) => g39_L0 m n x.1.1 x.1.2.1 x.1.2.2.1 x.1.2.2.2.1 x.1.2.2.2.2.1 x.2.1 x.2.2.1)
def g39_L0_T (m n : Nat) : LoopT := ⟨0, g39_L0_I, g39_L0_O, g39_L0_R m n⟩
theorem g39_L0_kr (m n : Nat) (x : g39_L0_I.Val) : roundK (mkC (outVal g39_L0_O) [g58_T m]) (mkLp (outVal g39_L0_O) [g39_L1_T m m]) tt 84 g39_H g39_B0 0 (g39_L0_I.enc x) (Kl (ins := g39_L0_I) (outs := g39_L0_O) (g39_L0_R m n)) = g39_L0 m (n + 1) x.1.1 x.1.2.1 x.1.2.2.1 x.1.2.2.2.1 x.1.2.2.2.2.1 x.2.1 x.2.2.1 := by kernel_rfl
theorem g39_L0_ok {E : Entry} (hE : EOf Tryd.prog E 84 g39_H.pins) (m : Nat) (n : Nat) : LoopOK Tryd.prog E g39_B0 (g39_L0_T m n) :=
  loop_ok (CO := CallOK Tryd.prog) hmix htt (fun _ _ _ _ h => h) hE (C := fun R => mkC R [g58_T m]) (L := [g39_L1_T m m]) (fun _ _ _ _ _ h => mkC_spec (AllF.mem (l := [g58_T m]) ⟨g58_ok m, trivial⟩) h) (fun _ _ => loopsIn_of g39_B0_ls ⟨mkLp_all ⟨fun _ => g39_L1_ok hE m m, trivial⟩, trivial⟩) (fun n => (g39_L0_R m n)) (fun _ => by kernel_rfl) (fun n x => (g39_L0_kr m n x).trans (by kernel_rfl)) n
theorem g39_kr (m : Nat) (x : ShLVal g39_A) : fnK (mkC (g39_S.Val × ShLVal g39_U) [g58_T m]) (mkLp (g39_S.Val × ShLVal g39_U) [g39_L0_T m m]) tt g39_H Tryd.f39 (encS g39_A x) (Kd g39_S g39_U) = g39 m x.1.1 x.1.2.1 x.1.2.2.1 x.1.2.2.2.1 x.1.2.2.2.2.1 := by kernel_rfl
theorem g39_ok (m : Nat) : FunOK Tryd.prog (g39_T m) :=
  fun_ok hmix htt (g39_T m) Tryd.func39 (c := g39_C) (by kernel_rfl) (by kernel_rfl) (Lc := [g58_T m]) (AllF.mem (l := [g58_T m]) ⟨g58_ok m, trivial⟩) (L := [g39_L0_T m m]) (fun _ hE _ _ => loopsIn_of g39_C_ls ⟨mkLp_all ⟨fun _ => g39_L0_ok hE m m, trivial⟩, trivial⟩) (fun x => (g39_kr m x).trans (by kernel_rfl))
/-! 60 sparse/float.parts -/
def g60_H : Hints := { regs := [⟨[], [0]⟩, ⟨[], [2, 3]⟩], heads := [], exits := [], rets := [2, 3], pins := [], spec := [[false], [false]] }
abbrev g60_A : List Sh := [.a (.c (.int .u64))]
abbrev g60_S : Sh := .tup [(.c (.int .i64)), (.c (.int .u64))]
abbrev g60_U : List Sh := [.a (.c .dead)]
def g60_R (m : Nat) : ShLVal g60_A → Option (g60_S.Val × ShLVal g60_U) := fun (x : Int × Unit) => g60 m x.1
def g60_T (m : Nat) : FunT := ⟨60, g60_A, g60_S, g60_U, g60_R m⟩
noncomputable def g60_C : Code := codeOf Tryd.f60
theorem g60_C_ls : loopsL g60_C 0 = [] := by kernel_rfl
theorem g60_kr (m : Nat) (x : ShLVal g60_A) : fnK (mkC (g60_S.Val × ShLVal g60_U) []) (mkLp (g60_S.Val × ShLVal g60_U) []) tt g60_H Tryd.f60 (encS g60_A x) (Kd g60_S g60_U) = g60 m x.1 := by kernel_rfl
theorem g60_ok (m : Nat) : FunOK Tryd.prog (g60_T m) :=
  fun_ok hmix htt (g60_T m) Tryd.func60 (c := g60_C) (by kernel_rfl) (by kernel_rfl) (Lc := []) (AllF.mem (l := []) trivial) (L := []) (fun _ hE _ _ => loopsIn_of g60_C_ls trivial) (fun x => (g60_kr m x).trans (by kernel_rfl))
/-! 42 sparse/float.IsFinite -/
def g42_H : Hints := { regs := [⟨[], [0]⟩, ⟨[(0, 1), (2, 1)], [3]⟩, ⟨[(0, 1)], [2]⟩], heads := [], exits := [], rets := [2], pins := [], spec := [[false]] }
abbrev g42_A : List Sh := [.a (.c (.int .u64))]
abbrev g42_S : Sh := .a (.c .bool)
abbrev g42_U : List Sh := [.a (.c .dead)]
def g42_R (m : Nat) : ShLVal g42_A → Option (g42_S.Val × ShLVal g42_U) := fun (x : Int × Unit) => g42 m x.1
def g42_T (m : Nat) : FunT := ⟨42, g42_A, g42_S, g42_U, g42_R m⟩
noncomputable def g42_C : Code := codeOf Tryd.f42
theorem g42_C_ls : loopsL g42_C 0 = [] := by kernel_rfl
theorem g42_kr (m : Nat) (x : ShLVal g42_A) : fnK (mkC (g42_S.Val × ShLVal g42_U) [g60_T m]) (mkLp (g42_S.Val × ShLVal g42_U) []) tt g42_H Tryd.f42 (encS g42_A x) (Kd g42_S g42_U) = g42 m x.1 := by kernel_rfl
theorem g42_ok (m : Nat) : FunOK Tryd.prog (g42_T m) :=
  fun_ok hmix htt (g42_T m) Tryd.func42 (c := g42_C) (by kernel_rfl) (by kernel_rfl) (Lc := [g60_T m]) (AllF.mem (l := [g60_T m]) ⟨g60_ok m, trivial⟩) (L := []) (fun _ hE _ _ => loopsIn_of g42_C_ls trivial) (fun x => (g42_kr m x).trans (by kernel_rfl))
/-! 41 sparse/matrix.Check_1 -/
def g41_H : Hints := { regs := [⟨[], [0]⟩, ⟨[(0, 1)], [2]⟩], heads := [], exits := [], rets := [2], pins := [], spec := [[false]] }
abbrev g41_A : List Sh := [.a (.c (.int .u64))]
abbrev g41_S : Sh := .a (.c .bool)
abbrev g41_U : List Sh := [.a (.c .dead)]
def g41_R (m : Nat) : ShLVal g41_A → Option (g41_S.Val × ShLVal g41_U) := fun (x : Int × Unit) => g41 m x.1
def g41_T (m : Nat) : FunT := ⟨41, g41_A, g41_S, g41_U, g41_R m⟩
noncomputable def g41_C : Code := codeOf Tryd.f41
theorem g41_C_ls : loopsL g41_C 0 = [] := by kernel_rfl
theorem g41_kr (m : Nat) (x : ShLVal g41_A) : fnK (mkC (g41_S.Val × ShLVal g41_U) [g42_T m]) (mkLp (g41_S.Val × ShLVal g41_U) []) tt g41_H Tryd.f41 (encS g41_A x) (Kd g41_S g41_U) = g41 m x.1 := by kernel_rfl
theorem g41_ok (m : Nat) : FunOK Tryd.prog (g41_T m) :=
  fun_ok hmix htt (g41_T m) Tryd.func41 (c := g41_C) (by kernel_rfl) (by kernel_rfl) (Lc := [g42_T m]) (AllF.mem (l := [g42_T m]) ⟨g42_ok m, trivial⟩) (L := []) (fun _ hE _ _ => loopsIn_of g41_C_ls trivial) (fun x => (g41_kr m x).trans (by kernel_rfl))
/-! 59 slices.IndexFunc___sparse/api.Float_sparse/api.Float_ -/
def g59_H : Hints := { regs := [⟨[], [0, 1]⟩, ⟨[], [0, 1, 7, 8]⟩, ⟨[], [0, 1, 7, 8, 9]⟩, ⟨[], [0, 1, 5, 7, 8]⟩, ⟨[], [0, 1, 5, 7, 8, 16]⟩, ⟨[(0, 1)], [4]⟩, ⟨[(1, 1)], [0, 1, 7, 8]⟩, ⟨[], [4]⟩], heads := [(0, [0, 1, 7, 8])], exits := [(0, []), (1, [0, 1, 7, 8])], rets := [4], pins := [], spec := [[false]] }
abbrev g59_A : List Sh := [.a (.c (.imm (.int .u64))), .a (.c (.fn 41))]
abbrev g59_S : Sh := .a (.c (.int .i64))
abbrev g59_U : List Sh := [.a (.c .dead), .a (.c .dead)]
def g59_R (m : Nat) : ShLVal g59_A → Option (g59_S.Val × ShLVal g59_U) := fun (x : List Int × Unit × Unit) => g59 m x.1
def g59_T (m : Nat) : FunT := ⟨59, g59_A, g59_S, g59_U, g59_R m⟩
noncomputable def g59_C : Code := codeOf Tryd.f59
noncomputable def g59_B0 : Code := loopAt g59_C 0 0
theorem g59_B0_ls : loopsL g59_B0 0 = [] := by kernel_rfl
theorem g59_C_ls : loopsL g59_C 0 = [(0, g59_B0)] := by kernel_rfl
abbrev g59_L0_I : SS := [(0, .a (.c (.imm (.int .u64)))), (1, .a (.c (.fn 41))), (7, .a (.c (.int .i64))), (8, .a (.c (.int .i64)))]
abbrev g59_L0_O : List (Ex × SS) := [(.ret, [(4, .a (.c (.int .i64)))]), (.exit 0, [])]
def g59_L0_R (m n : Nat) : g59_L0_I.Val → Option (outVal g59_L0_O) := (fun (x : List Int × Unit × Int × Int × Unit) => g59_L0 m n x.1 x.2.2.1 x.2.2.2.1)
def g59_L0_T (m n : Nat) : LoopT := ⟨0, g59_L0_I, g59_L0_O, g59_L0_R m n⟩
theorem g59_L0_kr (m n : Nat) (x : g59_L0_I.Val) : roundK (mkC (outVal g59_L0_O) [g41_T m]) (mkLp (outVal g59_L0_O) []) tt 19 g59_H g59_B0 0 (g59_L0_I.enc x) (Kl (ins := g59_L0_I) (outs := g59_L0_O) (g59_L0_R m n)) = g59_L0 m (n + 1) x.1 x.2.2.1 x.2.2.2.1 := by kernel_rfl
theorem g59_L0_ok {E : Entry} (hE : EOf Tryd.prog E 19 g59_H.pins) (m : Nat) (n : Nat) : LoopOK Tryd.prog E g59_B0 (g59_L0_T m n) :=
  loop_ok (CO := CallOK Tryd.prog) hmix htt (fun _ _ _ _ h => h) hE (C := fun R => mkC R [g41_T m]) (L := []) (fun _ _ _ _ _ h => mkC_spec (AllF.mem (l := [g41_T m]) ⟨g41_ok m, trivial⟩) h) (fun _ _ => loopsIn_of g59_B0_ls trivial) (fun n => (g59_L0_R m n)) (fun _ => by kernel_rfl) (fun n x => (g59_L0_kr m n x).trans (by kernel_rfl)) n
theorem g59_kr (m : Nat) (x : ShLVal g59_A) : fnK (mkC (g59_S.Val × ShLVal g59_U) [g41_T m]) (mkLp (g59_S.Val × ShLVal g59_U) [g59_L0_T m m]) tt g59_H Tryd.f59 (encS g59_A x) (Kd g59_S g59_U) = g59 m x.1 := by kernel_rfl
theorem g59_ok (m : Nat) : FunOK Tryd.prog (g59_T m) :=
  fun_ok hmix htt (g59_T m) Tryd.func59 (c := g59_C) (by kernel_rfl) (by kernel_rfl) (Lc := [g41_T m]) (AllF.mem (l := [g41_T m]) ⟨g41_ok m, trivial⟩) (L := [g59_L0_T m m]) (fun _ hE _ _ => loopsIn_of g59_C_ls ⟨mkLp_all ⟨fun _ => g59_L0_ok hE m m, trivial⟩, trivial⟩) (fun x => (g59_kr m x).trans (by kernel_rfl))
/-! 40 slices.ContainsFunc___sparse/api.Float_sparse/api.Float_ -/
def g40_H : Hints := { regs := [⟨[], [0, 1]⟩, ⟨[(0, 1), (1, 1)], [4]⟩], heads := [], exits := [], rets := [4], pins := [], spec := [[false]] }
abbrev g40_A : List Sh := [.a (.c (.imm (.int .u64))), .a (.c (.fn 41))]
abbrev g40_S : Sh := .a (.c .bool)
abbrev g40_U : List Sh := [.a (.c .dead), .a (.c .dead)]
def g40_R (m : Nat) : ShLVal g40_A → Option (g40_S.Val × ShLVal g40_U) := fun (x : List Int × Unit × Unit) => g40 m x.1
def g40_T (m : Nat) : FunT := ⟨40, g40_A, g40_S, g40_U, g40_R m⟩
noncomputable def g40_C : Code := codeOf Tryd.f40
theorem g40_C_ls : loopsL g40_C 0 = [] := by kernel_rfl
theorem g40_kr (m : Nat) (x : ShLVal g40_A) : fnK (mkC (g40_S.Val × ShLVal g40_U) [g59_T m]) (mkLp (g40_S.Val × ShLVal g40_U) []) tt g40_H Tryd.f40 (encS g40_A x) (Kd g40_S g40_U) = g40 m x.1 := by kernel_rfl
theorem g40_ok (m : Nat) : FunOK Tryd.prog (g40_T m) :=
  fun_ok hmix htt (g40_T m) Tryd.func40 (c := g40_C) (by kernel_rfl) (by kernel_rfl) (Lc := [g59_T m]) (AllF.mem (l := [g59_T m]) ⟨g59_ok m, trivial⟩) (L := []) (fun _ hE _ _ => loopsIn_of g40_C_ls trivial) (fun x => (g40_kr m x).trans (by kernel_rfl))
/-! 24 sparse/matrix.Check -/
def g24_H : Hints := { regs := [⟨[], [1]⟩, ⟨[(4, 1), (10, 1)], [1, 3]⟩, ⟨[], [2]⟩, ⟨[], [1, 20]⟩, ⟨[], [2]⟩, ⟨[], [24]⟩, ⟨[], [2]⟩, ⟨[], [2]⟩], heads := [], exits := [(0, [])], rets := [2], pins := [], spec := [[false]] }
abbrev g24_A : List Sh := [.a (.agg [(.int .i64), (.int .i64), (.imm (.int .i64)), (.imm (.int .i64)), (.imm (.int .u64))])]
abbrev g24_S : Sh := .a (.c (.int .i64))
abbrev g24_U : List Sh := [.a (.c .dead)]
def g24_R (m : Nat) : ShLVal g24_A → Option (g24_S.Val × ShLVal g24_U) := fun (x : (Int × Int × List Int × List Int × List Int × Unit) × Unit) => g24 m x.1.1 x.1.2.1 x.1.2.2.1 x.1.2.2.2.1 x.1.2.2.2.2.1
def g24_T (m : Nat) : FunT := ⟨24, g24_A, g24_S, g24_U, g24_R m⟩
noncomputable def g24_C : Code := codeOf Tryd.f24
theorem g24_C_ls : loopsL g24_C 0 = [] := by kernel_rfl
theorem g24_kr (m : Nat) (x : ShLVal g24_A) : fnK (mkC (g24_S.Val × ShLVal g24_U) [g38_T m, g39_T m, g40_T m]) (mkLp (g24_S.Val × ShLVal g24_U) []) tt g24_H Tryd.f24 (encS g24_A x) (Kd g24_S g24_U) = g24 m x.1.1 x.1.2.1 x.1.2.2.1 x.1.2.2.2.1 x.1.2.2.2.2.1 := by kernel_rfl
theorem g24_ok (m : Nat) : FunOK Tryd.prog (g24_T m) :=
  fun_ok hmix htt (g24_T m) Tryd.func24 (c := g24_C) (by kernel_rfl) (by kernel_rfl) (Lc := [g38_T m, g39_T m, g40_T m]) (AllF.mem (l := [g38_T m, g39_T m, g40_T m]) ⟨g38_ok m, g39_ok m, g40_ok m, trivial⟩) (L := []) (fun _ hE _ _ => loopsIn_of g24_C_ls trivial) (fun x => (g24_kr m x).trans (by kernel_rfl))
/-! 14 sparse/transversal.square -/
def g14_H : Hints := { regs := [⟨[], [1]⟩, ⟨[], [1, 3]⟩, ⟨[(2, 1)], [3, 14]⟩, ⟨[], [2]⟩, ⟨[(0, 1)], [2]⟩], heads := [], exits := [], rets := [2], pins := [], spec := [[false]] }
abbrev g14_A : List Sh := [.a (.agg [(.int .i64), (.int .i64), (.imm (.int .i64)), (.imm (.int .i64)), (.imm (.int .u64))])]
abbrev g14_S : Sh := .a (.c (.int .i64))
abbrev g14_U : List Sh := [.a (.c .dead)]
def g14_R (m : Nat) : ShLVal g14_A → Option (g14_S.Val × ShLVal g14_U) := fun (x : (Int × Int × List Int × List Int × List Int × Unit) × Unit) => g14 m x.1.1 x.1.2.1 x.1.2.2.1 x.1.2.2.2.1 x.1.2.2.2.2.1
def g14_T (m : Nat) : FunT := ⟨14, g14_A, g14_S, g14_U, g14_R m⟩
noncomputable def g14_C : Code := codeOf Tryd.f14
theorem g14_C_ls : loopsL g14_C 0 = [] := by kernel_rfl
theorem g14_kr (m : Nat) (x : ShLVal g14_A) : fnK (mkC (g14_S.Val × ShLVal g14_U) [g24_T m]) (mkLp (g14_S.Val × ShLVal g14_U) []) tt g14_H Tryd.f14 (encS g14_A x) (Kd g14_S g14_U) = g14 m x.1.1 x.1.2.1 x.1.2.2.1 x.1.2.2.2.1 x.1.2.2.2.2.1 := by kernel_rfl
theorem g14_ok (m : Nat) : FunOK Tryd.prog (g14_T m) :=
  fun_ok hmix htt (g14_T m) Tryd.func14 (c := g14_C) (by kernel_rfl) (by kernel_rfl) (Lc := [g24_T m]) (AllF.mem (l := [g24_T m]) ⟨g24_ok m, trivial⟩) (L := []) (fun _ hE _ _ => loopsIn_of g14_C_ls trivial) (fun x => (g14_kr m x).trans (by kernel_rfl))
/-! 45 sparse/matrix.entries -/
def g45_H : Hints := { regs := [⟨[], [1]⟩, ⟨[], [1, 3]⟩, ⟨[], [1, 3, 7, 8]⟩, ⟨[], [1, 3, 7, 8, 9]⟩, ⟨[], [1, 3, 4, 7, 8]⟩, ⟨[], [1, 3, 4, 5, 7, 8]⟩, ⟨[], [1, 3, 4, 5, 7, 8, 23]⟩, ⟨[(0, 1)], [1, 3, 4, 5, 7, 8]⟩, ⟨[(0, 1)], [1, 3, 4, 5, 7, 8]⟩, ⟨[(1, 1)], [1, 3, 7, 8]⟩, ⟨[(0, 1)], [2]⟩], heads := [(0, [1, 3, 7, 8]), (2, [1, 3, 4, 5, 7, 8])], exits := [(0, [3]), (1, [1, 3, 7, 8]), (2, [1, 3, 7, 8]), (3, [1, 3, 4, 5, 7, 8])], rets := [2], pins := [], spec := [[true]] }
abbrev g45_A : List Sh := [.a (.agg [(.int .i64), (.int .i64), (.imm (.int .i64)), (.imm (.int .i64)), (.imm (.int .u64))])]
abbrev g45_S : Sh := .a (.c (.nm 0 (.pr (.int .i64) (.pr (.int .i64) (.int .u64)))))
abbrev g45_U : List Sh := [.a (.c .dead)]
def g45_R (m : Nat) : ShLVal g45_A → Option (g45_S.Val × ShLVal g45_U) := fun (x : (Int × Int × List Int × List Int × List Int × Unit) × Unit) => g45 m x.1.1 x.1.2.1 x.1.2.2.1 x.1.2.2.2.1 x.1.2.2.2.2.1
def g45_T (m : Nat) : FunT := ⟨45, g45_A, g45_S, g45_U, g45_R m⟩
noncomputable def g45_C : Code := codeOf Tryd.f45
noncomputable def g45_B0 : Code := loopAt g45_C 0 0
noncomputable def g45_B2 : Code := loopAt g45_B0 0 0
theorem g45_B2_ls : loopsL g45_B2 2 = [] := by kernel_rfl
theorem g45_B0_ls : loopsL g45_B0 0 = [(2, g45_B2)] := by kernel_rfl
theorem g45_C_ls : loopsL g45_C 0 = [(0, g45_B0)] := by kernel_rfl
abbrev g45_L1_I : SS := [(1, .a (.bx 0 [(.int .i64), (.int .i64), (.imm (.int .i64)), (.imm (.int .i64)), (.imm (.int .u64))])), (3, .a (.c (.nm 1 (.pr (.int .i64) (.pr (.int .i64) (.int .u64)))))), (4, .a (.c (.int .i64))), (5, .a (.c (.int .i64))), (7, .a (.c (.int .i64))), (8, .a (.c (.int .i64)))]
abbrev g45_L1_O : List (Ex × SS) := [(.exit 2, [(1, .a (.bx 0 [(.int .i64), (.int .i64), (.imm (.int .i64)), (.imm (.int .i64)), (.imm (.int .u64))])), (3, .a (.c (.nm 1 (.pr (.int .i64) (.pr (.int .i64) (.int .u64)))))), (7, .a (.c (.int .i64))), (8, .a (.c (.int .i64)))])]
def g45_L1_R (m n : Nat) : g45_L1_I.Val → Option (outVal g45_L1_O) := (fun (x : (Int × Int × List Int × List Int × List Int × Unit) × (List (Int × Int × Int)) × Int × Int × Int × Int × Unit) => g45_L1 m n x.1.1 x.1.2.1 x.1.2.2.1 x.1.2.2.2.1 x.1.2.2.2.2.1 x.2.1 x.2.2.1 x.2.2.2.1 x.2.2.2.2.1 x.2.2.2.2.2.1)
def g45_L1_T (m n : Nat) : LoopT := ⟨2, g45_L1_I, g45_L1_O, g45_L1_R m n⟩
theorem g45_L1_kr (m n : Nat) (x : g45_L1_I.Val) : roundK (mkC (outVal g45_L1_O) []) (mkLp (outVal g45_L1_O) []) tt 43 g45_H g45_B2 2 (g45_L1_I.enc x) (Kl (ins := g45_L1_I) (outs := g45_L1_O) (g45_L1_R m n)) = g45_L1 m (n + 1) x.1.1 x.1.2.1 x.1.2.2.1 x.1.2.2.2.1 x.1.2.2.2.2.1 x.2.1 x.2.2.1 x.2.2.2.1 x.2.2.2.2.1 x.2.2.2.2.2.1 := by kernel_rfl
theorem g45_L1_ok {E : Entry} (hE : EOf Tryd.prog E 43 g45_H.pins) (m : Nat) (n : Nat) : LoopOK Tryd.prog E g45_B2 (g45_L1_T m n) :=
  loop_ok (CO := CallOK Tryd.prog) hmix htt (fun _ _ _ _ h => h) hE (C := fun R => mkC R []) (L := []) (fun _ _ _ _ _ h => mkC_spec (AllF.mem (l := []) trivial) h) (fun _ _ => loopsIn_of g45_B2_ls trivial) (fun n => (g45_L1_R m n)) (fun _ => by kernel_rfl) (fun n x => (g45_L1_kr m n x).trans (by kernel_rfl)) n
abbrev g45_L0_I : SS := [(1, .a (.bx 0 [(.int .i64), (.int .i64), (.imm (.int .i64)), (.imm (.int .i64)), (.imm (.int .u64))])), (3, .a (.c (.nm 1 (.pr (.int .i64) (.pr (.int .i64) (.int .u64)))))), (7, .a (.c (.int .i64))), (8, .a (.c (.int .i64)))]
abbrev g45_L0_O : List (Ex × SS) := [(.exit 0, [(3, .a (.c (.nm 0 (.pr (.int .i64) (.pr (.int .i64) (.int .u64))))))])]
def g45_L0_R (m n : Nat) : g45_L0_I.Val → Option (outVal g45_L0_O) := (fun (x : (Int × Int × List Int × List Int × List Int × Unit) × (List (Int × Int × Int)) × Int × Int × Unit) => g45_L0 m n x.1.1 x.1.2.1 x.1.2.2.1 x.1.2.2.2.1 x.1.2.2.2.2.1 x.2.1 x.2.2.1 x.2.2.2.1)
def g45_L0_T (m n : Nat) : LoopT := ⟨0, g45_L0_I, g45_L0_O, g45_L0_R m n⟩
theorem g45_L0_kr (m n : Nat) (x : g45_L0_I.Val) : roundK (mkC (outVal g45_L0_O) []) (mkLp (outVal g45_L0_O) [g45_L1_T m m]) tt 43 g45_H g45_B0 0 (g45_L0_I.enc x) (Kl (ins := g45_L0_I) (outs := g45_L0_O) (g45_L0_R m n)) = g45_L0 m (n + 1) x.1.1 x.1.2.1 x.1.2.2.1 x.1.2.2.2.1 x.1.2.2.2.2.1 x.2.1 x.2.2.1 x.2.2.2.1 := by kernel_rfl
theorem g45_L0_ok {E : Entry} (hE : EOf Tryd.prog E 43 g45_H.pins) (m : Nat) (n : Nat) : LoopOK Tryd.prog E g45_B0 (g45_L0_T m n) :=
  loop_ok (CO := CallOK Tryd.prog) hmix htt (fun _ _ _ _ h => h) hE (C := fun R => mkC R []) (L := [g45_L1_T m m]) (fun _ _ _ _ _ h => mkC_spec (AllF.mem (l := []) trivial) h) (fun _ _ => loopsIn_of g45_B0_ls ⟨mkLp_all ⟨fun _ => g45_L1_ok hE m m, trivial⟩, trivial⟩) (fun n => (g45_L0_R m n)) (fun _ => by kernel_rfl) (fun n x => (g45_L0_kr m n x).trans (by kernel_rfl)) n
theorem g45_kr (m : Nat) (x : ShLVal g45_A) : fnK (mkC (g45_S.Val × ShLVal g45_U) []) (mkLp (g45_S.Val × ShLVal g45_U) [g45_L0_T m m]) tt g45_H Tryd.f45 (encS g45_A x) (Kd g45_S g45_U) = g45 m x.1.1 x.1.2.1 x.1.2.2.1 x.1.2.2.2.1 x.1.2.2.2.2.1 := by kernel_rfl
theorem g45_ok (m : Nat) : FunOK Tryd.prog (g45_T m) :=
  fun_ok hmix htt (g45_T m) Tryd.func45 (c := g45_C) (by kernel_rfl) (by kernel_rfl) (Lc := []) (AllF.mem (l := []) trivial) (L := [g45_L0_T m m]) (fun _ hE _ _ => loopsIn_of g45_C_ls ⟨mkLp_all ⟨fun _ => g45_L0_ok hE m m, trivial⟩, trivial⟩) (fun x => (g45_kr m x).trans (by kernel_rfl))
/-! 27 sparse/matrix.Entries -/
def g27_H : Hints := { regs := [⟨[], [1]⟩, ⟨[], [1, 5]⟩, ⟨[], [2]⟩, ⟨[], [2]⟩], heads := [], exits := [], rets := [2], pins := [], spec := [[true]] }
abbrev g27_A : List Sh := [.a (.agg [(.int .i64), (.int .i64), (.imm (.int .i64)), (.imm (.int .i64)), (.imm (.int .u64))])]
abbrev g27_S : Sh := .a (.c (.nm 0 (.pr (.int .i64) (.pr (.int .i64) (.int .u64)))))
abbrev g27_U : List Sh := [.a (.c .dead)]
def g27_R (m : Nat) : ShLVal g27_A → Option (g27_S.Val × ShLVal g27_U) := fun (x : (Int × Int × List Int × List Int × List Int × Unit) × Unit) => g27 m x.1.1 x.1.2.1 x.1.2.2.1 x.1.2.2.2.1 x.1.2.2.2.2.1
def g27_T (m : Nat) : FunT := ⟨27, g27_A, g27_S, g27_U, g27_R m⟩
noncomputable def g27_C : Code := codeOf Tryd.f27
theorem g27_C_ls : loopsL g27_C 0 = [] := by kernel_rfl
theorem g27_kr (m : Nat) (x : ShLVal g27_A) : fnK (mkC (g27_S.Val × ShLVal g27_U) [g24_T m, g45_T m]) (mkLp (g27_S.Val × ShLVal g27_U) []) tt g27_H Tryd.f27 (encS g27_A x) (Kd g27_S g27_U) = g27 m x.1.1 x.1.2.1 x.1.2.2.1 x.1.2.2.2.1 x.1.2.2.2.2.1 := by kernel_rfl
theorem g27_ok (m : Nat) : FunOK Tryd.prog (g27_T m) :=
  fun_ok hmix htt (g27_T m) Tryd.func27 (c := g27_C) (by kernel_rfl) (by kernel_rfl) (Lc := [g24_T m, g45_T m]) (AllF.mem (l := [g24_T m, g45_T m]) ⟨g24_ok m, g45_ok m, trivial⟩) (L := []) (fun _ hE _ _ => loopsIn_of g27_C_ls trivial) (fun x => (g27_kr m x).trans (by kernel_rfl))
/-! 82 sparse/integer.trim -/
def g82_H : Hints := { regs := [⟨[], [0]⟩, ⟨[], [0, 3]⟩, ⟨[(2, 1)], [0, 3, 15]⟩, ⟨[(0, 1)], [0, 3]⟩, ⟨[(0, 1), (1, 1)], [2]⟩], heads := [(0, [0, 3])], exits := [(0, [0, 3]), (1, [0, 3])], rets := [2], pins := [], spec := [[false]] }
abbrev g82_A : List Sh := [.a (.c (.imm (.int .u32)))]
abbrev g82_S : Sh := .a (.c (.imm (.int .u32)))
abbrev g82_U : List Sh := [.a (.c .dead)]
def g82_R (m : Nat) : ShLVal g82_A → Option (g82_S.Val × ShLVal g82_U) := fun (x : List Int × Unit) => g82 m x.1
def g82_T (m : Nat) : FunT := ⟨82, g82_A, g82_S, g82_U, g82_R m⟩
noncomputable def g82_C : Code := codeOf Tryd.f82
noncomputable def g82_B0 : Code := loopAt g82_C 0 0
theorem g82_B0_ls : loopsL g82_B0 0 = [] := by kernel_rfl
theorem g82_C_ls : loopsL g82_C 0 = [(0, g82_B0)] := by kernel_rfl
abbrev g82_L0_I : SS := [(0, .a (.c (.imm (.int .u32)))), (3, .a (.c (.int .i64)))]
abbrev g82_L0_O : List (Ex × SS) := [(.exit 0, [(0, .a (.c (.imm (.int .u32)))), (3, .a (.c (.int .i64)))])]
def g82_L0_R (m n : Nat) : g82_L0_I.Val → Option (outVal g82_L0_O) := (fun (x : List Int × Int × Unit) => g82_L0 m n x.1 x.2.1)
def g82_L0_T (m n : Nat) : LoopT := ⟨0, g82_L0_I, g82_L0_O, g82_L0_R m n⟩
theorem g82_L0_kr (m n : Nat) (x : g82_L0_I.Val) : roundK (mkC (outVal g82_L0_O) []) (mkLp (outVal g82_L0_O) []) tt 21 g82_H g82_B0 0 (g82_L0_I.enc x) (Kl (ins := g82_L0_I) (outs := g82_L0_O) (g82_L0_R m n)) = g82_L0 m (n + 1) x.1 x.2.1 := by kernel_rfl
theorem g82_L0_ok {E : Entry} (hE : EOf Tryd.prog E 21 g82_H.pins) (m : Nat) (n : Nat) : LoopOK Tryd.prog E g82_B0 (g82_L0_T m n) :=
  loop_ok (CO := CallOK Tryd.prog) hmix htt (fun _ _ _ _ h => h) hE (C := fun R => mkC R []) (L := []) (fun _ _ _ _ _ h => mkC_spec (AllF.mem (l := []) trivial) h) (fun _ _ => loopsIn_of g82_B0_ls trivial) (fun n => (g82_L0_R m n)) (fun _ => by kernel_rfl) (fun n x => (g82_L0_kr m n x).trans (by kernel_rfl)) n
theorem g82_kr (m : Nat) (x : ShLVal g82_A) : fnK (mkC (g82_S.Val × ShLVal g82_U) []) (mkLp (g82_S.Val × ShLVal g82_U) [g82_L0_T m m]) tt g82_H Tryd.f82 (encS g82_A x) (Kd g82_S g82_U) = g82 m x.1 := by kernel_rfl
theorem g82_ok (m : Nat) : FunOK Tryd.prog (g82_T m) :=
  fun_ok hmix htt (g82_T m) Tryd.func82 (c := g82_C) (by kernel_rfl) (by kernel_rfl) (Lc := []) (AllF.mem (l := []) trivial) (L := [g82_L0_T m m]) (fun _ hE _ _ => loopsIn_of g82_C_ls ⟨mkLp_all ⟨fun _ => g82_L0_ok hE m m, trivial⟩, trivial⟩) (fun x => (g82_kr m x).trans (by kernel_rfl))
/-! 84 sparse/integer.big -/
def g84_H : Hints := { regs := [⟨[], [0, 1, 4]⟩, ⟨[(0, 1)], [0, 1, 4]⟩, ⟨[], [0, 1, 4, 9]⟩, ⟨[], [4]⟩, ⟨[(0, 1), (1, 1)], [4]⟩], heads := [], exits := [], rets := [4], pins := [], spec := [[false, false]] }
abbrev g84_A : List Sh := [.a (.c .bool), .a (.c (.imm (.int .u32)))]
abbrev g84_S : Sh := .a (.agg [.bool, (.imm (.int .u32))])
abbrev g84_U : List Sh := [.a (.c .dead), .a (.c .dead)]
def g84_R (m : Nat) : ShLVal g84_A → Option (g84_S.Val × ShLVal g84_U) := fun (x : Bool × List Int × Unit) => g84 m x.1 x.2.1
def g84_T (m : Nat) : FunT := ⟨84, g84_A, g84_S, g84_U, g84_R m⟩
noncomputable def g84_C : Code := codeOf Tryd.f84
theorem g84_C_ls : loopsL g84_C 0 = [] := by kernel_rfl
theorem g84_kr (m : Nat) (x : ShLVal g84_A) : fnK (mkC (g84_S.Val × ShLVal g84_U) [g82_T m]) (mkLp (g84_S.Val × ShLVal g84_U) []) tt g84_H Tryd.f84 (encS g84_A x) (Kd g84_S g84_U) = g84 m x.1 x.2.1 := by kernel_rfl
theorem g84_ok (m : Nat) : FunOK Tryd.prog (g84_T m) :=
  fun_ok hmix htt (g84_T m) Tryd.func84 (c := g84_C) (by kernel_rfl) (by kernel_rfl) (Lc := [g82_T m]) (AllF.mem (l := [g82_T m]) ⟨g82_ok m, trivial⟩) (L := []) (fun _ hE _ _ => loopsIn_of g84_C_ls trivial) (fun x => (g84_kr m x).trans (by kernel_rfl))
/-! 64 sparse/integer.FromInt -/
def g64_H : Hints := { regs := [⟨[], [0, 2]⟩, ⟨[], [0, 2, 3]⟩, ⟨[], [0, 2, 3, 7]⟩, ⟨[(0, 1)], [0, 2, 3]⟩, ⟨[(0, 1)], [2]⟩], heads := [], exits := [], rets := [2], pins := [], spec := [[false, false]] }
abbrev g64_A : List Sh := [.a (.c (.int .i64))]
abbrev g64_S : Sh := .a (.agg [.bool, (.imm (.int .u32))])
abbrev g64_U : List Sh := [.a (.c .dead)]
def g64_R (m : Nat) : ShLVal g64_A → Option (g64_S.Val × ShLVal g64_U) := fun (x : Int × Unit) => g64 m x.1
def g64_T (m : Nat) : FunT := ⟨64, g64_A, g64_S, g64_U, g64_R m⟩
noncomputable def g64_C : Code := codeOf Tryd.f64
theorem g64_C_ls : loopsL g64_C 0 = [] := by kernel_rfl
theorem g64_kr (m : Nat) (x : ShLVal g64_A) : fnK (mkC (g64_S.Val × ShLVal g64_U) [g84_T m]) (mkLp (g64_S.Val × ShLVal g64_U) []) tt g64_H Tryd.f64 (encS g64_A x) (Kd g64_S g64_U) = g64 m x.1 := by kernel_rfl
theorem g64_ok (m : Nat) : FunOK Tryd.prog (g64_T m) :=
  fun_ok hmix htt (g64_T m) Tryd.func64 (c := g64_C) (by kernel_rfl) (by kernel_rfl) (Lc := [g84_T m]) (AllF.mem (l := [g84_T m]) ⟨g84_ok m, trivial⟩) (L := []) (fun _ hE _ _ => loopsIn_of g64_C_ls trivial) (fun x => (g64_kr m x).trans (by kernel_rfl))
/-! 65 sparse/float.negative -/
def g65_H : Hints := { regs := [⟨[], [0]⟩, ⟨[(0, 1)], [2]⟩], heads := [], exits := [], rets := [2], pins := [], spec := [[false]] }
abbrev g65_A : List Sh := [.a (.c (.int .u64))]
abbrev g65_S : Sh := .a (.c .bool)
abbrev g65_U : List Sh := [.a (.c .dead)]
def g65_R (m : Nat) : ShLVal g65_A → Option (g65_S.Val × ShLVal g65_U) := fun (x : Int × Unit) => g65 m x.1
def g65_T (m : Nat) : FunT := ⟨65, g65_A, g65_S, g65_U, g65_R m⟩
noncomputable def g65_C : Code := codeOf Tryd.f65
theorem g65_C_ls : loopsL g65_C 0 = [] := by kernel_rfl
theorem g65_kr (m : Nat) (x : ShLVal g65_A) : fnK (mkC (g65_S.Val × ShLVal g65_U) []) (mkLp (g65_S.Val × ShLVal g65_U) []) tt g65_H Tryd.f65 (encS g65_A x) (Kd g65_S g65_U) = g65 m x.1 := by kernel_rfl
theorem g65_ok (m : Nat) : FunOK Tryd.prog (g65_T m) :=
  fun_ok hmix htt (g65_T m) Tryd.func65 (c := g65_C) (by kernel_rfl) (by kernel_rfl) (Lc := []) (AllF.mem (l := []) trivial) (L := []) (fun _ hE _ _ => loopsIn_of g65_C_ls trivial) (fun x => (g65_kr m x).trans (by kernel_rfl))
/-! 85 slices.Clone___uint32_uint32_ -/
def g85_H : Hints := { regs := [⟨[], [0]⟩, ⟨[], [0]⟩, ⟨[], [2]⟩, ⟨[], [2]⟩], heads := [], exits := [], rets := [2], pins := [], spec := [[true]] }
abbrev g85_A : List Sh := [.a (.c (.imm (.int .u32)))]
abbrev g85_S : Sh := .a (.c (.nm 0 (.int .u32)))
abbrev g85_U : List Sh := [.a (.c .dead)]
def g85_R (m : Nat) : ShLVal g85_A → Option (g85_S.Val × ShLVal g85_U) := fun (x : List Int × Unit) => g85 m x.1
def g85_T (m : Nat) : FunT := ⟨85, g85_A, g85_S, g85_U, g85_R m⟩
noncomputable def g85_C : Code := codeOf Tryd.f85
theorem g85_ok (m : Nat) : FunOK Tryd.prog (g85_T m) :=
  clone_ok hmix htt (H := g85_H) (fn := Tryd.f85) (f := 85) (t := (.int .u32)) (ty := 60) (e := 99) (ty2 := 60) (k := 1) (cells := [.nil (.int .u32)]) (A := pA g85_C) (X := pX (pB (pA (pB g85_C)))) (Y := pB (pB g85_C)) (o0 := pO 0 (pA (pA (pB g85_C)))) (o1 := pO 1 (pA (pA (pB g85_C)))) Tryd.func85 (by kernel_rfl) (by kernel_rfl) (by kernel_rfl) (by kernel_rfl) (by kernel_rfl) (by kernel_rfl) (by kernel_rfl) (by kernel_rfl) (by kernel_rfl) (of_decide_eq_true (by kernel_rfl)) rfl (by kernel_rfl) (by kernel_rfl) (by kernel_rfl) (fun xs => [(0, .sl .imm (.int .u32) xs)]) (fun xs => [(2, .sl (.nm 0) (.int .u32) xs)]) (fun xs => by kernel_rfl) (fun _ => rfl) (fun _ => rfl) (fun _ => rfl) (by kernel_rfl) (fun xs => by kernel_rfl) (fun xs => by kernel_rfl)
/-! 66 sparse/integer.Neg -/
def g66_H : Hints := { regs := [⟨[], [1, 2]⟩, ⟨[], [2]⟩], heads := [], exits := [], rets := [2], pins := [], spec := [[false, false]] }
abbrev g66_A : List Sh := [.a (.agg [.bool, (.imm (.int .u32))])]
abbrev g66_S : Sh := .a (.agg [.bool, (.imm (.int .u32))])
abbrev g66_U : List Sh := [.a (.c .dead)]
def g66_R (m : Nat) : ShLVal g66_A → Option (g66_S.Val × ShLVal g66_U) := fun (x : (Bool × List Int × Unit) × Unit) => g66 m x.1.1 x.1.2.1
def g66_T (m : Nat) : FunT := ⟨66, g66_A, g66_S, g66_U, g66_R m⟩
noncomputable def g66_C : Code := codeOf Tryd.f66
theorem g66_C_ls : loopsL g66_C 0 = [] := by kernel_rfl
theorem g66_kr (m : Nat) (x : ShLVal g66_A) : fnK (mkC (g66_S.Val × ShLVal g66_U) [g85_T m, g84_T m]) (mkLp (g66_S.Val × ShLVal g66_U) []) tt g66_H Tryd.f66 (encS g66_A x) (Kd g66_S g66_U) = g66 m x.1.1 x.1.2.1 := by kernel_rfl
theorem g66_ok (m : Nat) : FunOK Tryd.prog (g66_T m) :=
  fun_ok hmix htt (g66_T m) Tryd.func66 (c := g66_C) (by kernel_rfl) (by kernel_rfl) (Lc := [g85_T m, g84_T m]) (AllF.mem (l := [g85_T m, g84_T m]) ⟨g85_ok m, g84_ok m, trivial⟩) (L := []) (fun _ hE _ _ => loopsIn_of g66_C_ls trivial) (fun x => (g66_kr m x).trans (by kernel_rfl))
/-! 78 sparse/dyad.bad -/
def g78_H : Hints := { regs := [⟨[], [0]⟩, ⟨[], [0]⟩], heads := [], exits := [], rets := [0], pins := [], spec := [[false, false, true, false]] }
abbrev g78_A : List Sh := []
abbrev g78_S : Sh := .a (.agg [.bool, .bool, (.nm 0 (.int .u32)), (.int .i64)])
abbrev g78_U : List Sh := []
def g78_R (m : Nat) : ShLVal g78_A → Option (g78_S.Val × ShLVal g78_U) := fun (x : Unit) => g78 m
def g78_T (m : Nat) : FunT := ⟨78, g78_A, g78_S, g78_U, g78_R m⟩
noncomputable def g78_C : Code := codeOf Tryd.f78
theorem g78_C_ls : loopsL g78_C 0 = [] := by kernel_rfl
theorem g78_kr (m : Nat) (x : ShLVal g78_A) : fnK (mkC (g78_S.Val × ShLVal g78_U) []) (mkLp (g78_S.Val × ShLVal g78_U) []) tt g78_H Tryd.f78 (encS g78_A x) (Kd g78_S g78_U) = g78 m := by kernel_rfl
theorem g78_ok (m : Nat) : FunOK Tryd.prog (g78_T m) :=
  fun_ok hmix htt (g78_T m) Tryd.func78 (c := g78_C) (by kernel_rfl) (by kernel_rfl) (Lc := []) (AllF.mem (l := []) trivial) (L := []) (fun _ hE _ _ => loopsIn_of g78_C_ls trivial) (fun x => (g78_kr m x).trans (by kernel_rfl))
/-! 79 sparse/integer.Norm -/
def g79_H : Hints := { regs := [⟨[], [1, 2]⟩, ⟨[], [2]⟩], heads := [], exits := [], rets := [2], pins := [], spec := [[false, false]] }
abbrev g79_A : List Sh := [.a (.agg [.bool, (.imm (.int .u32))])]
abbrev g79_S : Sh := .a (.agg [.bool, (.imm (.int .u32))])
abbrev g79_U : List Sh := [.a (.c .dead)]
def g79_R (m : Nat) : ShLVal g79_A → Option (g79_S.Val × ShLVal g79_U) := fun (x : (Bool × List Int × Unit) × Unit) => g79 m x.1.1 x.1.2.1
def g79_T (m : Nat) : FunT := ⟨79, g79_A, g79_S, g79_U, g79_R m⟩
noncomputable def g79_C : Code := codeOf Tryd.f79
theorem g79_C_ls : loopsL g79_C 0 = [] := by kernel_rfl
theorem g79_kr (m : Nat) (x : ShLVal g79_A) : fnK (mkC (g79_S.Val × ShLVal g79_U) [g85_T m, g84_T m]) (mkLp (g79_S.Val × ShLVal g79_U) []) tt g79_H Tryd.f79 (encS g79_A x) (Kd g79_S g79_U) = g79 m x.1.1 x.1.2.1 := by kernel_rfl
theorem g79_ok (m : Nat) : FunOK Tryd.prog (g79_T m) :=
  fun_ok hmix htt (g79_T m) Tryd.func79 (c := g79_C) (by kernel_rfl) (by kernel_rfl) (Lc := [g85_T m, g84_T m]) (AllF.mem (l := [g85_T m, g84_T m]) ⟨g85_ok m, g84_ok m, trivial⟩) (L := []) (fun _ hE _ _ => loopsIn_of g79_C_ls trivial) (fun x => (g79_kr m x).trans (by kernel_rfl))
/-! 62 sparse/integer.Sign -/
def g62_H : Hints := { regs := [⟨[], [1]⟩, ⟨[], [1, 3]⟩, ⟨[], [2]⟩, ⟨[], [9]⟩, ⟨[], [2]⟩, ⟨[], [2]⟩], heads := [], exits := [(0, [])], rets := [2], pins := [], spec := [[false]] }
abbrev g62_A : List Sh := [.a (.agg [.bool, (.imm (.int .u32))])]
abbrev g62_S : Sh := .a (.c (.int .i64))
abbrev g62_U : List Sh := [.a (.c .dead)]
def g62_R (m : Nat) : ShLVal g62_A → Option (g62_S.Val × ShLVal g62_U) := fun (x : (Bool × List Int × Unit) × Unit) => g62 m x.1.1 x.1.2.1
def g62_T (m : Nat) : FunT := ⟨62, g62_A, g62_S, g62_U, g62_R m⟩
noncomputable def g62_C : Code := codeOf Tryd.f62
theorem g62_C_ls : loopsL g62_C 0 = [] := by kernel_rfl
theorem g62_kr (m : Nat) (x : ShLVal g62_A) : fnK (mkC (g62_S.Val × ShLVal g62_U) [g82_T m]) (mkLp (g62_S.Val × ShLVal g62_U) []) tt g62_H Tryd.f62 (encS g62_A x) (Kd g62_S g62_U) = g62 m x.1.1 x.1.2.1 := by kernel_rfl
theorem g62_ok (m : Nat) : FunOK Tryd.prog (g62_T m) :=
  fun_ok hmix htt (g62_T m) Tryd.func62 (c := g62_C) (by kernel_rfl) (by kernel_rfl) (Lc := [g82_T m]) (AllF.mem (l := [g82_T m]) ⟨g82_ok m, trivial⟩) (L := []) (fun _ hE _ _ => loopsIn_of g62_C_ls trivial) (fun x => (g62_kr m x).trans (by kernel_rfl))
/-! 76 math/bits.TrailingZeros32 -/
def g76_H : Hints := { regs := [⟨[], [0]⟩, ⟨[], [0, 4]⟩, ⟨[], [2]⟩, ⟨[], [2]⟩], heads := [], exits := [], rets := [2], pins := [], spec := [[false]] }
abbrev g76_A : List Sh := [.a (.c (.int .u32))]
abbrev g76_S : Sh := .a (.c (.int .i64))
abbrev g76_U : List Sh := [.a (.c .dead)]
def g76_R (m : Nat) : ShLVal g76_A → Option (g76_S.Val × ShLVal g76_U) := fun (x : Int × Unit) => g76 m x.1
def g76_T (m : Nat) : FunT := ⟨76, g76_A, g76_S, g76_U, g76_R m⟩
noncomputable def g76_C : Code := codeOf Tryd.f76
theorem g76_C_ls : loopsL g76_C 0 = [] := by kernel_rfl
theorem g76_kr (m : Nat) (x : ShLVal g76_A) : fnK (mkC (g76_S.Val × ShLVal g76_U) []) (mkLp (g76_S.Val × ShLVal g76_U) []) tt g76_H Tryd.f76 (encS g76_A x) (Kd g76_S g76_U) = g76 m x.1 := by kernel_rfl
theorem g76_ok (m : Nat) : FunOK Tryd.prog (g76_T m) :=
  fun_ok hmix htt (g76_T m) Tryd.func76 (c := g76_C) (by kernel_rfl) (by kernel_rfl) (Lc := []) (AllF.mem (l := []) trivial) (L := []) (fun _ hE _ _ => loopsIn_of g76_C_ls trivial) (fun x => (g76_kr m x).trans (by kernel_rfl))
/-! 80 sparse/integer.TrailingZeros -/
def g80_H : Hints := { regs := [⟨[], [1]⟩, ⟨[], [6, 7, 8]⟩, ⟨[], [6, 7, 8, 9]⟩, ⟨[], [3, 4, 6, 7, 8]⟩, ⟨[], [3, 4, 6, 7, 8, 14]⟩, ⟨[(0, 1), (2, 1)], [2]⟩, ⟨[(1, 1)], [6, 7, 8]⟩, ⟨[], [2]⟩], heads := [(0, [6, 7, 8])], exits := [(0, []), (1, [6, 7, 8])], rets := [2], pins := [], spec := [[false]] }
abbrev g80_A : List Sh := [.a (.agg [.bool, (.imm (.int .u32))])]
abbrev g80_S : Sh := .a (.c (.int .i64))
abbrev g80_U : List Sh := [.a (.c .dead)]
def g80_R (m : Nat) : ShLVal g80_A → Option (g80_S.Val × ShLVal g80_U) := fun (x : (Bool × List Int × Unit) × Unit) => g80 m x.1.1 x.1.2.1
def g80_T (m : Nat) : FunT := ⟨80, g80_A, g80_S, g80_U, g80_R m⟩
noncomputable def g80_C : Code := codeOf Tryd.f80
noncomputable def g80_B0 : Code := loopAt g80_C 0 0
theorem g80_B0_ls : loopsL g80_B0 0 = [] := by kernel_rfl
theorem g80_C_ls : loopsL g80_C 0 = [(0, g80_B0)] := by kernel_rfl
abbrev g80_L0_I : SS := [(6, .a (.c (.imm (.int .u32)))), (7, .a (.c (.int .i64))), (8, .a (.c (.int .i64)))]
abbrev g80_L0_O : List (Ex × SS) := [(.ret, [(2, .a (.c (.int .i64)))]), (.exit 0, [])]
def g80_L0_R (m n : Nat) : g80_L0_I.Val → Option (outVal g80_L0_O) := (fun (x : List Int × Int × Int × Unit) => g80_L0 m n x.1 x.2.1 x.2.2.1)
def g80_L0_T (m n : Nat) : LoopT := ⟨0, g80_L0_I, g80_L0_O, g80_L0_R m n⟩
theorem g80_L0_kr (m n : Nat) (x : g80_L0_I.Val) : roundK (mkC (outVal g80_L0_O) [g76_T m]) (mkLp (outVal g80_L0_O) []) tt 21 g80_H g80_B0 0 (g80_L0_I.enc x) (Kl (ins := g80_L0_I) (outs := g80_L0_O) (g80_L0_R m n)) = g80_L0 m (n + 1) x.1 x.2.1 x.2.2.1 := by kernel_rfl
theorem g80_L0_ok {E : Entry} (hE : EOf Tryd.prog E 21 g80_H.pins) (m : Nat) (n : Nat) : LoopOK Tryd.prog E g80_B0 (g80_L0_T m n) :=
  loop_ok (CO := CallOK Tryd.prog) hmix htt (fun _ _ _ _ h => h) hE (C := fun R => mkC R [g76_T m]) (L := []) (fun _ _ _ _ _ h => mkC_spec (AllF.mem (l := [g76_T m]) ⟨g76_ok m, trivial⟩) h) (fun _ _ => loopsIn_of g80_B0_ls trivial) (fun n => (g80_L0_R m n)) (fun _ => by kernel_rfl) (fun n x => (g80_L0_kr m n x).trans (by kernel_rfl)) n
theorem g80_kr (m : Nat) (x : ShLVal g80_A) : fnK (mkC (g80_S.Val × ShLVal g80_U) [g76_T m]) (mkLp (g80_S.Val × ShLVal g80_U) [g80_L0_T m m]) tt g80_H Tryd.f80 (encS g80_A x) (Kd g80_S g80_U) = g80 m x.1.1 x.1.2.1 := by kernel_rfl
theorem g80_ok (m : Nat) : FunOK Tryd.prog (g80_T m) :=
  fun_ok hmix htt (g80_T m) Tryd.func80 (c := g80_C) (by kernel_rfl) (by kernel_rfl) (Lc := [g76_T m]) (AllF.mem (l := [g76_T m]) ⟨g76_ok m, trivial⟩) (L := [g80_L0_T m m]) (fun _ hE _ _ => loopsIn_of g80_C_ls ⟨mkLp_all ⟨fun _ => g80_L0_ok hE m m, trivial⟩, trivial⟩) (fun x => (g80_kr m x).trans (by kernel_rfl))
/-! 69 math/bits.Len32 -/
def g69_H : Hints := { regs := [⟨[], [0, 2]⟩, ⟨[], [0, 2, 4]⟩, ⟨[(0, 1)], [0]⟩, ⟨[], [0, 2]⟩, ⟨[], [0, 2, 8]⟩, ⟨[(0, 1)], [0, 2]⟩, ⟨[(0, 1)], [0, 2]⟩, ⟨[(0, 1), (1, 1)], [2]⟩], heads := [], exits := [], rets := [2], pins := [], spec := [[false]] }
abbrev g69_A : List Sh := [.a (.c (.int .u32))]
abbrev g69_S : Sh := .a (.c (.int .i64))
abbrev g69_U : List Sh := [.a (.c .dead)]
def g69_R (m : Nat) : ShLVal g69_A → Option (g69_S.Val × ShLVal g69_U) := fun (x : Int × Unit) => g69 m x.1
def g69_T (m : Nat) : FunT := ⟨69, g69_A, g69_S, g69_U, g69_R m⟩
noncomputable def g69_C : Code := codeOf Tryd.f69
theorem g69_C_ls : loopsL g69_C 0 = [] := by kernel_rfl
theorem g69_kr (m : Nat) (x : ShLVal g69_A) : fnK (mkC (g69_S.Val × ShLVal g69_U) []) (mkLp (g69_S.Val × ShLVal g69_U) []) tt g69_H Tryd.f69 (encS g69_A x) (Kd g69_S g69_U) = g69 m x.1 := by kernel_rfl
theorem g69_ok (m : Nat) : FunOK Tryd.prog (g69_T m) :=
  fun_ok hmix htt (g69_T m) Tryd.func69 (c := g69_C) (by kernel_rfl) (by kernel_rfl) (Lc := []) (AllF.mem (l := []) trivial) (L := []) (fun _ hE _ _ => loopsIn_of g69_C_ls trivial) (fun x => (g69_kr m x).trans (by kernel_rfl))
/-! 83 sparse/integer.length -/
def g83_H : Hints := { regs := [⟨[], [0]⟩, ⟨[], [0, 5]⟩, ⟨[], [2]⟩, ⟨[], [2]⟩], heads := [], exits := [], rets := [2], pins := [], spec := [[false]] }
abbrev g83_A : List Sh := [.a (.c (.imm (.int .u32)))]
abbrev g83_S : Sh := .a (.c (.int .i64))
abbrev g83_U : List Sh := [.a (.c .dead)]
def g83_R (m : Nat) : ShLVal g83_A → Option (g83_S.Val × ShLVal g83_U) := fun (x : List Int × Unit) => g83 m x.1
def g83_T (m : Nat) : FunT := ⟨83, g83_A, g83_S, g83_U, g83_R m⟩
noncomputable def g83_C : Code := codeOf Tryd.f83
theorem g83_C_ls : loopsL g83_C 0 = [] := by kernel_rfl
theorem g83_kr (m : Nat) (x : ShLVal g83_A) : fnK (mkC (g83_S.Val × ShLVal g83_U) [g69_T m]) (mkLp (g83_S.Val × ShLVal g83_U) []) tt g83_H Tryd.f83 (encS g83_A x) (Kd g83_S g83_U) = g83 m x.1 := by kernel_rfl
theorem g83_ok (m : Nat) : FunOK Tryd.prog (g83_T m) :=
  fun_ok hmix htt (g83_T m) Tryd.func83 (c := g83_C) (by kernel_rfl) (by kernel_rfl) (Lc := [g69_T m]) (AllF.mem (l := [g69_T m]) ⟨g69_ok m, trivial⟩) (L := []) (fun _ hE _ _ => loopsIn_of g83_C_ls trivial) (fun x => (g83_kr m x).trans (by kernel_rfl))
/-! 63 sparse/integer.BitLen -/
def g63_H : Hints := { regs := [⟨[], [1]⟩, ⟨[], [2]⟩], heads := [], exits := [], rets := [2], pins := [], spec := [[false]] }
abbrev g63_A : List Sh := [.a (.agg [.bool, (.imm (.int .u32))])]
abbrev g63_S : Sh := .a (.c (.int .i64))
abbrev g63_U : List Sh := [.a (.c .dead)]
def g63_R (m : Nat) : ShLVal g63_A → Option (g63_S.Val × ShLVal g63_U) := fun (x : (Bool × List Int × Unit) × Unit) => g63 m x.1.1 x.1.2.1
def g63_T (m : Nat) : FunT := ⟨63, g63_A, g63_S, g63_U, g63_R m⟩
noncomputable def g63_C : Code := codeOf Tryd.f63
theorem g63_C_ls : loopsL g63_C 0 = [] := by kernel_rfl
theorem g63_kr (m : Nat) (x : ShLVal g63_A) : fnK (mkC (g63_S.Val × ShLVal g63_U) [g82_T m, g83_T m]) (mkLp (g63_S.Val × ShLVal g63_U) []) tt g63_H Tryd.f63 (encS g63_A x) (Kd g63_S g63_U) = g63 m x.1.1 x.1.2.1 := by kernel_rfl
theorem g63_ok (m : Nat) : FunOK Tryd.prog (g63_T m) :=
  fun_ok hmix htt (g63_T m) Tryd.func63 (c := g63_C) (by kernel_rfl) (by kernel_rfl) (Lc := [g82_T m, g83_T m]) (AllF.mem (l := [g82_T m, g83_T m]) ⟨g82_ok m, g83_ok m, trivial⟩) (L := []) (fun _ hE _ _ => loopsIn_of g63_C_ls trivial) (fun x => (g63_kr m x).trans (by kernel_rfl))
/-! 92 sparse/integer.up -/
def g92_H : Hints := { regs := [⟨[], [0, 1]⟩, ⟨[], [0, 1, 13]⟩, ⟨[], [4]⟩, ⟨[], [0, 5, 6]⟩, ⟨[], [0, 5, 6, 7]⟩, ⟨[(0, 1)], [5, 6, 7, 25, 26, 27]⟩, ⟨[], [5, 6, 7, 25, 26, 27, 28]⟩, ⟨[], [5, 6, 7, 8, 9, 25, 26, 27]⟩, ⟨[(0, 1)], [5, 6, 7, 8, 10, 25, 26, 27]⟩, ⟨[], [5, 6, 7, 8, 10, 25, 26, 27]⟩, ⟨[(2, 1), (5, 1)], [5, 6, 7, 25, 26, 27]⟩, ⟨[(1, 1)], [5, 6, 7, 25, 26, 27]⟩, ⟨[(0, 1)], [4]⟩], heads := [(0, [5, 6, 7, 25, 26, 27])], exits := [(0, [7]), (1, [5, 6, 7, 25, 26, 27])], rets := [4], pins := [], spec := [[false]] }
abbrev g92_A : List Sh := [.a (.c (.imm (.int .u32))), .a (.c (.int .i64))]
abbrev g92_S : Sh := .a (.c (.imm (.int .u32)))
abbrev g92_U : List Sh := [.a (.c .dead), .a (.c .dead)]
def g92_R (m : Nat) : ShLVal g92_A → Option (g92_S.Val × ShLVal g92_U) := fun (x : List Int × Int × Unit) => g92 m x.1 x.2.1
def g92_T (m : Nat) : FunT := ⟨92, g92_A, g92_S, g92_U, g92_R m⟩
noncomputable def g92_C : Code := codeOf Tryd.f92
noncomputable def g92_B0 : Code := loopAt g92_C 0 0
theorem g92_B0_ls : loopsL g92_B0 0 = [] := by kernel_rfl
theorem g92_C_ls : loopsL g92_C 0 = [(0, g92_B0)] := by kernel_rfl
abbrev g92_L0_I : SS := [(5, .a (.c (.int .i64))), (6, .a (.c (.int .u64))), (7, .a (.c (.nm 0 (.int .u32)))), (25, .a (.c (.imm (.int .u32)))), (26, .a (.c (.int .i64))), (27, .a (.c (.int .i64)))]
abbrev g92_L0_O : List (Ex × SS) := [(.exit 0, [(7, .a (.c (.nm 0 (.int .u32))))])]
def g92_L0_R (m n : Nat) : g92_L0_I.Val → Option (outVal g92_L0_O) := (fun (x : Int × Int × List Int × List Int × Int × Int × Unit) => g92_L0 m n x.1 x.2.1 x.2.2.1 x.2.2.2.1 x.2.2.2.2.1 x.2.2.2.2.2.1)
def g92_L0_T (m n : Nat) : LoopT := ⟨0, g92_L0_I, g92_L0_O, g92_L0_R m n⟩
theorem g92_L0_kr (m n : Nat) (x : g92_L0_I.Val) : roundK (mkC (outVal g92_L0_O) [g82_T m]) (mkLp (outVal g92_L0_O) []) tt 59 g92_H g92_B0 0 (g92_L0_I.enc x) (Kl (ins := g92_L0_I) (outs := g92_L0_O) (g92_L0_R m n)) = g92_L0 m (n + 1) x.1 x.2.1 x.2.2.1 x.2.2.2.1 x.2.2.2.2.1 x.2.2.2.2.2.1 := by kernel_rfl
theorem g92_L0_ok {E : Entry} (hE : EOf Tryd.prog E 59 g92_H.pins) (m : Nat) (n : Nat) : LoopOK Tryd.prog E g92_B0 (g92_L0_T m n) :=
  loop_ok (CO := CallOK Tryd.prog) hmix htt (fun _ _ _ _ h => h) hE (C := fun R => mkC R [g82_T m]) (L := []) (fun _ _ _ _ _ h => mkC_spec (AllF.mem (l := [g82_T m]) ⟨g82_ok m, trivial⟩) h) (fun _ _ => loopsIn_of g92_B0_ls trivial) (fun n => (g92_L0_R m n)) (fun _ => by kernel_rfl) (fun n x => (g92_L0_kr m n x).trans (by kernel_rfl)) n
theorem g92_kr (m : Nat) (x : ShLVal g92_A) : fnK (mkC (g92_S.Val × ShLVal g92_U) [g82_T m]) (mkLp (g92_S.Val × ShLVal g92_U) [g92_L0_T m m]) tt g92_H Tryd.f92 (encS g92_A x) (Kd g92_S g92_U) = g92 m x.1 x.2.1 := by kernel_rfl
theorem g92_ok (m : Nat) : FunOK Tryd.prog (g92_T m) :=
  fun_ok hmix htt (g92_T m) Tryd.func92 (c := g92_C) (by kernel_rfl) (by kernel_rfl) (Lc := [g82_T m]) (AllF.mem (l := [g82_T m]) ⟨g82_ok m, trivial⟩) (L := [g92_L0_T m m]) (fun _ hE _ _ => loopsIn_of g92_C_ls ⟨mkLp_all ⟨fun _ => g92_L0_ok hE m m, trivial⟩, trivial⟩) (fun x => (g92_kr m x).trans (by kernel_rfl))
/-! 96 sparse/integer.down_1 -/
def g96_H : Hints := { regs := [⟨[], [0]⟩, ⟨[(0, 1)], [2]⟩], heads := [], exits := [], rets := [2], pins := [], spec := [[false]] }
abbrev g96_A : List Sh := [.a (.c (.int .u32))]
abbrev g96_S : Sh := .a (.c .bool)
abbrev g96_U : List Sh := [.a (.c .dead)]
def g96_R (m : Nat) : ShLVal g96_A → Option (g96_S.Val × ShLVal g96_U) := fun (x : Int × Unit) => g96 m x.1
def g96_T (m : Nat) : FunT := ⟨96, g96_A, g96_S, g96_U, g96_R m⟩
noncomputable def g96_C : Code := codeOf Tryd.f96
theorem g96_C_ls : loopsL g96_C 0 = [] := by kernel_rfl
theorem g96_kr (m : Nat) (x : ShLVal g96_A) : fnK (mkC (g96_S.Val × ShLVal g96_U) []) (mkLp (g96_S.Val × ShLVal g96_U) []) tt g96_H Tryd.f96 (encS g96_A x) (Kd g96_S g96_U) = g96 m x.1 := by kernel_rfl
theorem g96_ok (m : Nat) : FunOK Tryd.prog (g96_T m) :=
  fun_ok hmix htt (g96_T m) Tryd.func96 (c := g96_C) (by kernel_rfl) (by kernel_rfl) (Lc := []) (AllF.mem (l := []) trivial) (L := []) (fun _ hE _ _ => loopsIn_of g96_C_ls trivial) (fun x => (g96_kr m x).trans (by kernel_rfl))
/-! 97 slices.IndexFunc___uint32_uint32_ -/
def g97_H : Hints := { regs := [⟨[], [0, 1]⟩, ⟨[], [0, 1, 7, 8]⟩, ⟨[], [0, 1, 7, 8, 9]⟩, ⟨[], [0, 1, 5, 7, 8]⟩, ⟨[], [0, 1, 5, 7, 8, 16]⟩, ⟨[(0, 1)], [4]⟩, ⟨[(1, 1)], [0, 1, 7, 8]⟩, ⟨[], [4]⟩], heads := [(0, [0, 1, 7, 8])], exits := [(0, []), (1, [0, 1, 7, 8])], rets := [4], pins := [], spec := [[false]] }
abbrev g97_A : List Sh := [.a (.c (.imm (.int .u32))), .a (.c (.fn 96))]
abbrev g97_S : Sh := .a (.c (.int .i64))
abbrev g97_U : List Sh := [.a (.c .dead), .a (.c .dead)]
def g97_R (m : Nat) : ShLVal g97_A → Option (g97_S.Val × ShLVal g97_U) := fun (x : List Int × Unit × Unit) => g97 m x.1
def g97_T (m : Nat) : FunT := ⟨97, g97_A, g97_S, g97_U, g97_R m⟩
noncomputable def g97_C : Code := codeOf Tryd.f97
noncomputable def g97_B0 : Code := loopAt g97_C 0 0
theorem g97_B0_ls : loopsL g97_B0 0 = [] := by kernel_rfl
theorem g97_C_ls : loopsL g97_C 0 = [(0, g97_B0)] := by kernel_rfl
abbrev g97_L0_I : SS := [(0, .a (.c (.imm (.int .u32)))), (1, .a (.c (.fn 96))), (7, .a (.c (.int .i64))), (8, .a (.c (.int .i64)))]
abbrev g97_L0_O : List (Ex × SS) := [(.ret, [(4, .a (.c (.int .i64)))]), (.exit 0, [])]
def g97_L0_R (m n : Nat) : g97_L0_I.Val → Option (outVal g97_L0_O) := (fun (x : List Int × Unit × Int × Int × Unit) => g97_L0 m n x.1 x.2.2.1 x.2.2.2.1)
def g97_L0_T (m n : Nat) : LoopT := ⟨0, g97_L0_I, g97_L0_O, g97_L0_R m n⟩
theorem g97_L0_kr (m n : Nat) (x : g97_L0_I.Val) : roundK (mkC (outVal g97_L0_O) [g96_T m]) (mkLp (outVal g97_L0_O) []) tt 19 g97_H g97_B0 0 (g97_L0_I.enc x) (Kl (ins := g97_L0_I) (outs := g97_L0_O) (g97_L0_R m n)) = g97_L0 m (n + 1) x.1 x.2.2.1 x.2.2.2.1 := by kernel_rfl
theorem g97_L0_ok {E : Entry} (hE : EOf Tryd.prog E 19 g97_H.pins) (m : Nat) (n : Nat) : LoopOK Tryd.prog E g97_B0 (g97_L0_T m n) :=
  loop_ok (CO := CallOK Tryd.prog) hmix htt (fun _ _ _ _ h => h) hE (C := fun R => mkC R [g96_T m]) (L := []) (fun _ _ _ _ _ h => mkC_spec (AllF.mem (l := [g96_T m]) ⟨g96_ok m, trivial⟩) h) (fun _ _ => loopsIn_of g97_B0_ls trivial) (fun n => (g97_L0_R m n)) (fun _ => by kernel_rfl) (fun n x => (g97_L0_kr m n x).trans (by kernel_rfl)) n
theorem g97_kr (m : Nat) (x : ShLVal g97_A) : fnK (mkC (g97_S.Val × ShLVal g97_U) [g96_T m]) (mkLp (g97_S.Val × ShLVal g97_U) [g97_L0_T m m]) tt g97_H Tryd.f97 (encS g97_A x) (Kd g97_S g97_U) = g97 m x.1 := by kernel_rfl
theorem g97_ok (m : Nat) : FunOK Tryd.prog (g97_T m) :=
  fun_ok hmix htt (g97_T m) Tryd.func97 (c := g97_C) (by kernel_rfl) (by kernel_rfl) (Lc := [g96_T m]) (AllF.mem (l := [g96_T m]) ⟨g96_ok m, trivial⟩) (L := [g97_L0_T m m]) (fun _ hE _ _ => loopsIn_of g97_C_ls ⟨mkLp_all ⟨fun _ => g97_L0_ok hE m m, trivial⟩, trivial⟩) (fun x => (g97_kr m x).trans (by kernel_rfl))
/-! 95 slices.ContainsFunc___uint32_uint32_ -/
def g95_H : Hints := { regs := [⟨[], [0, 1]⟩, ⟨[(0, 1), (1, 1)], [4]⟩], heads := [], exits := [], rets := [4], pins := [], spec := [[false]] }
abbrev g95_A : List Sh := [.a (.c (.imm (.int .u32))), .a (.c (.fn 96))]
abbrev g95_S : Sh := .a (.c .bool)
abbrev g95_U : List Sh := [.a (.c .dead), .a (.c .dead)]
def g95_R (m : Nat) : ShLVal g95_A → Option (g95_S.Val × ShLVal g95_U) := fun (x : List Int × Unit × Unit) => g95 m x.1
def g95_T (m : Nat) : FunT := ⟨95, g95_A, g95_S, g95_U, g95_R m⟩
noncomputable def g95_C : Code := codeOf Tryd.f95
theorem g95_C_ls : loopsL g95_C 0 = [] := by kernel_rfl
theorem g95_kr (m : Nat) (x : ShLVal g95_A) : fnK (mkC (g95_S.Val × ShLVal g95_U) [g97_T m]) (mkLp (g95_S.Val × ShLVal g95_U) []) tt g95_H Tryd.f95 (encS g95_A x) (Kd g95_S g95_U) = g95 m x.1 := by kernel_rfl
theorem g95_ok (m : Nat) : FunOK Tryd.prog (g95_T m) :=
  fun_ok hmix htt (g95_T m) Tryd.func95 (c := g95_C) (by kernel_rfl) (by kernel_rfl) (Lc := [g97_T m]) (AllF.mem (l := [g97_T m]) ⟨g97_ok m, trivial⟩) (L := []) (fun _ hE _ _ => loopsIn_of g95_C_ls trivial) (fun x => (g95_kr m x).trans (by kernel_rfl))
/-! 93 sparse/integer.down -/
def g93_H : Hints := { regs := [⟨[], [0, 1]⟩, ⟨[], [0, 6, 7]⟩, ⟨[], [0, 6, 7, 20]⟩, ⟨[(0, 1)], [4, 5]⟩, ⟨[(4, 1)], [0, 6, 7, 8]⟩, ⟨[], [0, 6, 7, 8, 9]⟩, ⟨[], [0, 6, 7, 8, 9, 45, 46]⟩, ⟨[], [0, 6, 7, 8, 9, 45, 46, 47]⟩, ⟨[], [0, 6, 7, 8, 9, 10, 45, 46]⟩, ⟨[], [0, 6, 7, 8, 9, 10, 11, 45, 46]⟩, ⟨[], [0, 6, 7, 8, 9, 10, 11, 45, 46, 62]⟩, ⟨[(0, 1)], [0, 6, 7, 8, 9, 10, 11, 45, 46]⟩, ⟨[(1, 1), (2, 1)], [0, 6, 7, 8, 9, 45, 46]⟩, ⟨[(1, 1)], [0, 6, 7, 8, 9, 45, 46]⟩, ⟨[(0, 1), (2, 1)], [4, 5]⟩], heads := [(0, [0, 6, 7, 8, 9, 45, 46])], exits := [(0, [8, 9]), (1, [0, 6, 7, 8, 9, 45, 46])], rets := [4, 5], pins := [], spec := [[false], [false]] }
abbrev g93_A : List Sh := [.a (.c (.imm (.int .u32))), .a (.c (.int .i64))]
abbrev g93_S : Sh := .tup [(.c (.imm (.int .u32))), (.c .bool)]
abbrev g93_U : List Sh := [.a (.c .dead), .a (.c .dead)]
def g93_R (m : Nat) : ShLVal g93_A → Option (g93_S.Val × ShLVal g93_U) := fun (x : List Int × Int × Unit) => g93 m x.1 x.2.1
def g93_T (m : Nat) : FunT := ⟨93, g93_A, g93_S, g93_U, g93_R m⟩
noncomputable def g93_C : Code := codeOf Tryd.f93
noncomputable def g93_B0 : Code := loopAt g93_C 0 0
theorem g93_B0_ls : loopsL g93_B0 0 = [] := by kernel_rfl
theorem g93_C_ls : loopsL g93_C 0 = [(0, g93_B0)] := by kernel_rfl
abbrev g93_L0_I : SS := [(0, .a (.c (.imm (.int .u32)))), (6, .a (.c (.int .i64))), (7, .a (.c (.int .u64))), (8, .a (.c .bool)), (9, .a (.c (.nm 0 (.int .u32)))), (45, .a (.c (.int .i64))), (46, .a (.c (.int .i64)))]
abbrev g93_L0_O : List (Ex × SS) := [(.exit 0, [(8, .a (.c .bool)), (9, .a (.c (.nm 0 (.int .u32))))])]
def g93_L0_R (m n : Nat) : g93_L0_I.Val → Option (outVal g93_L0_O) := (fun (x : List Int × Int × Int × Bool × List Int × Int × Int × Unit) => g93_L0 m n x.1 x.2.1 x.2.2.1 x.2.2.2.1 x.2.2.2.2.1 x.2.2.2.2.2.1 x.2.2.2.2.2.2.1)
def g93_L0_T (m n : Nat) : LoopT := ⟨0, g93_L0_I, g93_L0_O, g93_L0_R m n⟩
theorem g93_L0_kr (m n : Nat) (x : g93_L0_I.Val) : roundK (mkC (outVal g93_L0_O) [g95_T m, g82_T m]) (mkLp (outVal g93_L0_O) []) tt 86 g93_H g93_B0 0 (g93_L0_I.enc x) (Kl (ins := g93_L0_I) (outs := g93_L0_O) (g93_L0_R m n)) = g93_L0 m (n + 1) x.1 x.2.1 x.2.2.1 x.2.2.2.1 x.2.2.2.2.1 x.2.2.2.2.2.1 x.2.2.2.2.2.2.1 := by kernel_rfl
theorem g93_L0_ok {E : Entry} (hE : EOf Tryd.prog E 86 g93_H.pins) (m : Nat) (n : Nat) : LoopOK Tryd.prog E g93_B0 (g93_L0_T m n) :=
  loop_ok (CO := CallOK Tryd.prog) hmix htt (fun _ _ _ _ h => h) hE (C := fun R => mkC R [g95_T m, g82_T m]) (L := []) (fun _ _ _ _ _ h => mkC_spec (AllF.mem (l := [g95_T m, g82_T m]) ⟨g95_ok m, g82_ok m, trivial⟩) h) (fun _ _ => loopsIn_of g93_B0_ls trivial) (fun n => (g93_L0_R m n)) (fun _ => by kernel_rfl) (fun n x => (g93_L0_kr m n x).trans (by kernel_rfl)) n
theorem g93_kr (m : Nat) (x : ShLVal g93_A) : fnK (mkC (g93_S.Val × ShLVal g93_U) [g95_T m, g82_T m]) (mkLp (g93_S.Val × ShLVal g93_U) [g93_L0_T m m]) tt g93_H Tryd.f93 (encS g93_A x) (Kd g93_S g93_U) = g93 m x.1 x.2.1 := by kernel_rfl
theorem g93_ok (m : Nat) : FunOK Tryd.prog (g93_T m) :=
  fun_ok hmix htt (g93_T m) Tryd.func93 (c := g93_C) (by kernel_rfl) (by kernel_rfl) (Lc := [g95_T m, g82_T m]) (AllF.mem (l := [g95_T m, g82_T m]) ⟨g95_ok m, g82_ok m, trivial⟩) (L := [g93_L0_T m m]) (fun _ hE _ _ => loopsIn_of g93_C_ls ⟨mkLp_all ⟨fun _ => g93_L0_ok hE m m, trivial⟩, trivial⟩) (fun x => (g93_kr m x).trans (by kernel_rfl))
/-! 94 sparse/integer.plus -/
def g94_H : Hints := { regs := [⟨[], [0, 1]⟩, ⟨[], [0, 1, 14]⟩, ⟨[(0, 1), (1, 1)], [0, 1]⟩, ⟨[], [0, 1, 5]⟩, ⟨[], [0, 1, 5, 6]⟩, ⟨[(0, 1)], [1, 5, 6, 21, 22, 23]⟩, ⟨[], [1, 5, 6, 21, 22, 23, 24]⟩, ⟨[], [1, 5, 6, 7, 8, 21, 22, 23]⟩, ⟨[(0, 1), (2, 1)], [1, 5, 7, 9, 21, 22, 23]⟩, ⟨[], [1, 5, 7, 9, 21, 22, 23, 35]⟩, ⟨[(0, 1), (2, 1)], [1, 5, 9, 21, 22, 23]⟩, ⟨[(0, 1)], [1, 5, 9, 21, 22, 23]⟩, ⟨[(0, 1)], [1, 5, 6, 21, 22, 23]⟩, ⟨[(1, 1)], [1, 5, 6, 21, 22, 23]⟩, ⟨[(0, 1), (1, 1)], [4]⟩], heads := [(0, [1, 5, 6, 21, 22, 23])], exits := [(0, [5, 6]), (1, [1, 5, 6, 21, 22, 23])], rets := [4], pins := [], spec := [[false]] }
abbrev g94_A : List Sh := [.a (.c (.imm (.int .u32))), .a (.c (.imm (.int .u32)))]
abbrev g94_S : Sh := .a (.c (.imm (.int .u32)))
abbrev g94_U : List Sh := [.a (.c .dead), .a (.c .dead)]
def g94_R (m : Nat) : ShLVal g94_A → Option (g94_S.Val × ShLVal g94_U) := fun (x : List Int × List Int × Unit) => g94 m x.1 x.2.1
def g94_T (m : Nat) : FunT := ⟨94, g94_A, g94_S, g94_U, g94_R m⟩
noncomputable def g94_C : Code := codeOf Tryd.f94
noncomputable def g94_B0 : Code := loopAt g94_C 0 0
theorem g94_B0_ls : loopsL g94_B0 0 = [] := by kernel_rfl
theorem g94_C_ls : loopsL g94_C 0 = [(0, g94_B0)] := by kernel_rfl
abbrev g94_L0_I : SS := [(1, .a (.c (.imm (.int .u32)))), (5, .a (.c (.nm 0 (.int .u32)))), (6, .a (.c (.int .u64))), (21, .a (.c (.imm (.int .u32)))), (22, .a (.c (.int .i64))), (23, .a (.c (.int .i64)))]
abbrev g94_L0_O : List (Ex × SS) := [(.exit 0, [(5, .a (.c (.nm 0 (.int .u32)))), (6, .a (.c (.int .u64)))])]
def g94_L0_R (m n : Nat) : g94_L0_I.Val → Option (outVal g94_L0_O) := (fun (x : List Int × List Int × Int × List Int × Int × Int × Unit) => g94_L0 m n x.1 x.2.1 x.2.2.1 x.2.2.2.1 x.2.2.2.2.1 x.2.2.2.2.2.1)
def g94_L0_T (m n : Nat) : LoopT := ⟨0, g94_L0_I, g94_L0_O, g94_L0_R m n⟩
theorem g94_L0_kr (m n : Nat) (x : g94_L0_I.Val) : roundK (mkC (outVal g94_L0_O) [g82_T m]) (mkLp (outVal g94_L0_O) []) tt 58 g94_H g94_B0 0 (g94_L0_I.enc x) (Kl (ins := g94_L0_I) (outs := g94_L0_O) (g94_L0_R m n)) = g94_L0 m (n + 1) x.1 x.2.1 x.2.2.1 x.2.2.2.1 x.2.2.2.2.1 x.2.2.2.2.2.1 := by kernel_rfl
theorem g94_L0_ok {E : Entry} (hE : EOf Tryd.prog E 58 g94_H.pins) (m : Nat) (n : Nat) : LoopOK Tryd.prog E g94_B0 (g94_L0_T m n) :=
  loop_ok (CO := CallOK Tryd.prog) hmix htt (fun _ _ _ _ h => h) hE (C := fun R => mkC R [g82_T m]) (L := []) (fun _ _ _ _ _ h => mkC_spec (AllF.mem (l := [g82_T m]) ⟨g82_ok m, trivial⟩) h) (fun _ _ => loopsIn_of g94_B0_ls trivial) (fun n => (g94_L0_R m n)) (fun _ => by kernel_rfl) (fun n x => (g94_L0_kr m n x).trans (by kernel_rfl)) n
theorem g94_kr (m : Nat) (x : ShLVal g94_A) : fnK (mkC (g94_S.Val × ShLVal g94_U) [g82_T m]) (mkLp (g94_S.Val × ShLVal g94_U) [g94_L0_T m m]) tt g94_H Tryd.f94 (encS g94_A x) (Kd g94_S g94_U) = g94 m x.1 x.2.1 := by kernel_rfl
theorem g94_ok (m : Nat) : FunOK Tryd.prog (g94_T m) :=
  fun_ok hmix htt (g94_T m) Tryd.func94 (c := g94_C) (by kernel_rfl) (by kernel_rfl) (Lc := [g82_T m]) (AllF.mem (l := [g82_T m]) ⟨g82_ok m, trivial⟩) (L := [g94_L0_T m m]) (fun _ hE _ _ => loopsIn_of g94_C_ls ⟨mkLp_all ⟨fun _ => g94_L0_ok hE m m, trivial⟩, trivial⟩) (fun x => (g94_kr m x).trans (by kernel_rfl))
/-! 91 sparse/integer.Shift -/
def g91_H : Hints := { regs := [⟨[], [1, 2, 4]⟩, ⟨[(2, 1)], [1, 2, 4, 14]⟩, ⟨[], [4, 5]⟩, ⟨[], [1, 2, 4, 6]⟩, ⟨[], [1, 2, 4, 6, 20]⟩, ⟨[(2, 1), (3, 1)], [4, 5]⟩, ⟨[(0, 1), (1, 1), (4, 1)], [2, 4, 7, 8]⟩, ⟨[(2, 1), (3, 1)], [2, 4, 7, 38]⟩, ⟨[(0, 1)], [2, 4, 7]⟩, ⟨[(2, 1)], [4, 5]⟩], heads := [], exits := [], rets := [4, 5], pins := [], spec := [[false, false], [false]] }
abbrev g91_A : List Sh := [.a (.agg [.bool, (.imm (.int .u32))]), .a (.c (.int .i64))]
abbrev g91_S : Sh := .tup [(.agg [.bool, (.imm (.int .u32))]), (.c (.int .i64))]
abbrev g91_U : List Sh := [.a (.c .dead), .a (.c .dead)]
def g91_R (m : Nat) : ShLVal g91_A → Option (g91_S.Val × ShLVal g91_U) := fun (x : (Bool × List Int × Unit) × Int × Unit) => g91 m x.1.1 x.1.2.1 x.2.1
def g91_T (m : Nat) : FunT := ⟨91, g91_A, g91_S, g91_U, g91_R m⟩
noncomputable def g91_C : Code := codeOf Tryd.f91
theorem g91_C_ls : loopsL g91_C 0 = [] := by kernel_rfl
theorem g91_kr (m : Nat) (x : ShLVal g91_A) : fnK (mkC (g91_S.Val × ShLVal g91_U) [g82_T m, g92_T m, g84_T m, g93_T m, g94_T m]) (mkLp (g91_S.Val × ShLVal g91_U) []) tt g91_H Tryd.f91 (encS g91_A x) (Kd g91_S g91_U) = g91 m x.1.1 x.1.2.1 x.2.1 := by kernel_rfl
theorem g91_ok (m : Nat) : FunOK Tryd.prog (g91_T m) :=
  fun_ok hmix htt (g91_T m) Tryd.func91 (c := g91_C) (by kernel_rfl) (by kernel_rfl) (Lc := [g82_T m, g92_T m, g84_T m, g93_T m, g94_T m]) (AllF.mem (l := [g82_T m, g92_T m, g84_T m, g93_T m, g94_T m]) ⟨g82_ok m, g92_ok m, g84_ok m, g93_ok m, g94_ok m, trivial⟩) (L := []) (fun _ hE _ _ => loopsIn_of g91_C_ls trivial) (fun x => (g91_kr m x).trans (by kernel_rfl))
/-! 81 sparse/dyad.right -/
def g81_H : Hints := { regs := [⟨[], [1, 2, 4]⟩, ⟨[], [1, 2, 4, 6]⟩, ⟨[(2, 1)], [1, 2, 4]⟩, ⟨[(0, 1)], [1, 2, 4]⟩, ⟨[(1, 1), (4, 1)], [2, 4]⟩, ⟨[], [4]⟩], heads := [(0, [1, 2, 4])], exits := [(0, [1, 2, 4]), (1, [1, 2, 4])], rets := [4], pins := [], spec := [[false, false]] }
abbrev g81_A : List Sh := [.a (.agg [.bool, (.imm (.int .u32))]), .a (.c (.int .i64))]
abbrev g81_S : Sh := .a (.agg [.bool, (.imm (.int .u32))])
abbrev g81_U : List Sh := [.a (.c .dead), .a (.c .dead)]
def g81_R (m : Nat) : ShLVal g81_A → Option (g81_S.Val × ShLVal g81_U) := fun (x : (Bool × List Int × Unit) × Int × Unit) => g81 m x.1.1 x.1.2.1 x.2.1
def g81_T (m : Nat) : FunT := ⟨81, g81_A, g81_S, g81_U, g81_R m⟩
noncomputable def g81_C : Code := codeOf Tryd.f81
noncomputable def g81_B0 : Code := loopAt g81_C 0 0
theorem g81_B0_ls : loopsL g81_B0 0 = [] := by kernel_rfl
theorem g81_C_ls : loopsL g81_C 0 = [(0, g81_B0)] := by kernel_rfl
abbrev g81_L0_I : SS := [(1, .a (.c (.int .i64))), (2, .a (.bx 0 [.bool, (.imm (.int .u32))])), (4, .a (.bx 1 [.bool, (.nm 2 (.int .u32))]))]
abbrev g81_L0_O : List (Ex × SS) := [(.exit 0, [(1, .a (.c (.int .i64))), (2, .a (.bx 0 [.bool, (.imm (.int .u32))])), (4, .a (.bx 1 [.bool, (.nm 2 (.int .u32))]))])]
def g81_L0_R (m n : Nat) : g81_L0_I.Val → Option (outVal g81_L0_O) := (fun (x : Int × (Bool × List Int × Unit) × (Bool × List Int × Unit) × Unit) => g81_L0 m n x.1 x.2.1.1 x.2.1.2.1 x.2.2.1.1 x.2.2.1.2.1)
def g81_L0_T (m n : Nat) : LoopT := ⟨0, g81_L0_I, g81_L0_O, g81_L0_R m n⟩
theorem g81_L0_kr (m n : Nat) (x : g81_L0_I.Val) : roundK (mkC (outVal g81_L0_O) [g91_T m]) (mkLp (outVal g81_L0_O) []) tt 22 g81_H g81_B0 0 (g81_L0_I.enc x) (Kl (ins := g81_L0_I) (outs := g81_L0_O) (g81_L0_R m n)) = g81_L0 m (n + 1) x.1 x.2.1.1 x.2.1.2.1 x.2.2.1.1 x.2.2.1.2.1 := by kernel_rfl
theorem g81_L0_ok {E : Entry} (hE : EOf Tryd.prog E 22 g81_H.pins) (m : Nat) (n : Nat) : LoopOK Tryd.prog E g81_B0 (g81_L0_T m n) :=
  loop_ok (CO := CallOK Tryd.prog) hmix htt (fun _ _ _ _ h => h) hE (C := fun R => mkC R [g91_T m]) (L := []) (fun _ _ _ _ _ h => mkC_spec (AllF.mem (l := [g91_T m]) ⟨g91_ok m, trivial⟩) h) (fun _ _ => loopsIn_of g81_B0_ls trivial) (fun n => (g81_L0_R m n)) (fun _ => by kernel_rfl) (fun n x => (g81_L0_kr m n x).trans (by kernel_rfl)) n
theorem g81_kr (m : Nat) (x : ShLVal g81_A) : fnK (mkC (g81_S.Val × ShLVal g81_U) [g91_T m]) (mkLp (g81_S.Val × ShLVal g81_U) [g81_L0_T m m]) tt g81_H Tryd.f81 (encS g81_A x) (Kd g81_S g81_U) = g81 m x.1.1 x.1.2.1 x.2.1 := by kernel_rfl
theorem g81_ok (m : Nat) : FunOK Tryd.prog (g81_T m) :=
  fun_ok hmix htt (g81_T m) Tryd.func81 (c := g81_C) (by kernel_rfl) (by kernel_rfl) (Lc := [g91_T m]) (AllF.mem (l := [g91_T m]) ⟨g91_ok m, trivial⟩) (L := [g81_L0_T m m]) (fun _ hE _ _ => loopsIn_of g81_C_ls ⟨mkLp_all ⟨fun _ => g81_L0_ok hE m m, trivial⟩, trivial⟩) (fun x => (g81_kr m x).trans (by kernel_rfl))
/-! 61 sparse/dyad.norm -/
def g61_H : Hints := { regs := [⟨[], [1, 2]⟩, ⟨[], [1, 2, 7]⟩, ⟨[], [2, 3]⟩, ⟨[], [1, 2, 4]⟩, ⟨[], [1, 2, 4, 14]⟩, ⟨[], [2, 3]⟩, ⟨[], [1, 2, 4, 5]⟩, ⟨[(6, 1)], [1, 2, 4, 5, 30]⟩, ⟨[], [2, 3]⟩, ⟨[], [2, 3]⟩], heads := [], exits := [], rets := [2, 3], pins := [], spec := [[false, false, false, false], [false]] }
abbrev g61_A : List Sh := [.a (.agg [.bool, .bool, (.imm (.int .u32)), (.int .i64)])]
abbrev g61_S : Sh := .tup [(.agg [.bool, .bool, (.imm (.int .u32)), (.int .i64)]), (.c .bool)]
abbrev g61_U : List Sh := [.a (.c .dead)]
def g61_R (m : Nat) : ShLVal g61_A → Option (g61_S.Val × ShLVal g61_U) := fun (x : (Bool × Bool × List Int × Int × Unit) × Unit) => g61 m x.1.1 x.1.2.1 x.1.2.2.1 x.1.2.2.2.1
def g61_T (m : Nat) : FunT := ⟨61, g61_A, g61_S, g61_U, g61_R m⟩
noncomputable def g61_C : Code := codeOf Tryd.f61
theorem g61_C_ls : loopsL g61_C 0 = [] := by kernel_rfl
theorem g61_kr (m : Nat) (x : ShLVal g61_A) : fnK (mkC (g61_S.Val × ShLVal g61_U) [g78_T m, g79_T m, g62_T m, g80_T m, g63_T m, g81_T m]) (mkLp (g61_S.Val × ShLVal g61_U) []) tt g61_H Tryd.f61 (encS g61_A x) (Kd g61_S g61_U) = g61 m x.1.1 x.1.2.1 x.1.2.2.1 x.1.2.2.2.1 := by kernel_rfl
theorem g61_ok (m : Nat) : FunOK Tryd.prog (g61_T m) :=
  fun_ok hmix htt (g61_T m) Tryd.func61 (c := g61_C) (by kernel_rfl) (by kernel_rfl) (Lc := [g78_T m, g79_T m, g62_T m, g80_T m, g63_T m, g81_T m]) (AllF.mem (l := [g78_T m, g79_T m, g62_T m, g80_T m, g63_T m, g81_T m]) ⟨g78_ok m, g79_ok m, g62_ok m, g80_ok m, g63_ok m, g81_ok m, trivial⟩) (L := []) (fun _ hE _ _ => loopsIn_of g61_C_ls trivial) (fun x => (g61_kr m x).trans (by kernel_rfl))
/-! 67 sparse/dyad.Make -/
def g67_H : Hints := { regs := [⟨[], [1, 2, 4]⟩, ⟨[(1, 1), (4, 1)], [4, 5]⟩, ⟨[], [4]⟩], heads := [], exits := [], rets := [4], pins := [], spec := [[false, false, false, false]] }
abbrev g67_A : List Sh := [.a (.agg [.bool, (.imm (.int .u32))]), .a (.c (.int .i64))]
abbrev g67_S : Sh := .a (.agg [.bool, .bool, (.imm (.int .u32)), (.int .i64)])
abbrev g67_U : List Sh := [.a (.c .dead), .a (.c .dead)]
def g67_R (m : Nat) : ShLVal g67_A → Option (g67_S.Val × ShLVal g67_U) := fun (x : (Bool × List Int × Unit) × Int × Unit) => g67 m x.1.1 x.1.2.1 x.2.1
def g67_T (m : Nat) : FunT := ⟨67, g67_A, g67_S, g67_U, g67_R m⟩
noncomputable def g67_C : Code := codeOf Tryd.f67
theorem g67_C_ls : loopsL g67_C 0 = [] := by kernel_rfl
theorem g67_kr (m : Nat) (x : ShLVal g67_A) : fnK (mkC (g67_S.Val × ShLVal g67_U) [g61_T m]) (mkLp (g67_S.Val × ShLVal g67_U) []) tt g67_H Tryd.f67 (encS g67_A x) (Kd g67_S g67_U) = g67 m x.1.1 x.1.2.1 x.2.1 := by kernel_rfl
theorem g67_ok (m : Nat) : FunOK Tryd.prog (g67_T m) :=
  fun_ok hmix htt (g67_T m) Tryd.func67 (c := g67_C) (by kernel_rfl) (by kernel_rfl) (Lc := [g61_T m]) (AllF.mem (l := [g61_T m]) ⟨g61_ok m, trivial⟩) (L := []) (fun _ hE _ _ => loopsIn_of g67_C_ls trivial) (fun x => (g67_kr m x).trans (by kernel_rfl))
/-! 47 sparse/float.Of -/
def g47_H : Hints := { regs := [⟨[], [0, 2]⟩, ⟨[(2, 1)], [0, 2, 3, 4]⟩, ⟨[], [0, 2, 3, 4, 11]⟩, ⟨[(0, 1)], [0, 2, 3, 4]⟩, ⟨[(0, 1)], [0, 2, 3, 4]⟩, ⟨[], [0, 2, 3, 4, 11, 16]⟩, ⟨[], [2]⟩, ⟨[], [0, 2, 3, 4, 19]⟩, ⟨[], [0, 2, 3, 4]⟩, ⟨[(0, 1)], [0, 2, 3, 5]⟩, ⟨[(0, 1)], [2, 3, 5, 25]⟩, ⟨[], [2, 3, 5]⟩, ⟨[(1, 1)], [2]⟩], heads := [], exits := [(0, [0, 2, 3, 4])], rets := [2], pins := [], spec := [[false, false, false, false]] }
abbrev g47_A : List Sh := [.a (.c (.int .u64))]
abbrev g47_S : Sh := .a (.agg [.bool, .bool, (.imm (.int .u32)), (.int .i64)])
abbrev g47_U : List Sh := [.a (.c .dead)]
def g47_R (m : Nat) : ShLVal g47_A → Option (g47_S.Val × ShLVal g47_U) := fun (x : Int × Unit) => g47 m x.1
def g47_T (m : Nat) : FunT := ⟨47, g47_A, g47_S, g47_U, g47_R m⟩
noncomputable def g47_C : Code := codeOf Tryd.f47
theorem g47_C_ls : loopsL g47_C 0 = [] := by kernel_rfl
theorem g47_kr (m : Nat) (x : ShLVal g47_A) : fnK (mkC (g47_S.Val × ShLVal g47_U) [g60_T m, g64_T m, g65_T m, g66_T m, g67_T m]) (mkLp (g47_S.Val × ShLVal g47_U) []) tt g47_H Tryd.f47 (encS g47_A x) (Kd g47_S g47_U) = g47 m x.1 := by kernel_rfl
theorem g47_ok (m : Nat) : FunOK Tryd.prog (g47_T m) :=
  fun_ok hmix htt (g47_T m) Tryd.func47 (c := g47_C) (by kernel_rfl) (by kernel_rfl) (Lc := [g60_T m, g64_T m, g65_T m, g66_T m, g67_T m]) (AllF.mem (l := [g60_T m, g64_T m, g65_T m, g66_T m, g67_T m]) ⟨g60_ok m, g64_ok m, g65_ok m, g66_ok m, g67_ok m, trivial⟩) (L := []) (fun _ hE _ _ => loopsIn_of g47_C_ls trivial) (fun x => (g47_kr m x).trans (by kernel_rfl))
/-! 46 sparse/dyad.Log2 -/
def g46_H : Hints := { regs := [⟨[], [1]⟩, ⟨[(2, 1)], [1, 4]⟩, ⟨[(0, 1), (2, 1)], [1, 17]⟩, ⟨[], [2, 3]⟩, ⟨[], [2, 3]⟩], heads := [], exits := [], rets := [2, 3], pins := [], spec := [[false], [false]] }
abbrev g46_A : List Sh := [.a (.agg [.bool, .bool, (.imm (.int .u32)), (.int .i64)])]
abbrev g46_S : Sh := .tup [(.c (.int .i64)), (.c .bool)]
abbrev g46_U : List Sh := [.a (.c .dead)]
def g46_R (m : Nat) : ShLVal g46_A → Option (g46_S.Val × ShLVal g46_U) := fun (x : (Bool × Bool × List Int × Int × Unit) × Unit) => g46 m x.1.1 x.1.2.1 x.1.2.2.1 x.1.2.2.2.1
def g46_T (m : Nat) : FunT := ⟨46, g46_A, g46_S, g46_U, g46_R m⟩
noncomputable def g46_C : Code := codeOf Tryd.f46
theorem g46_C_ls : loopsL g46_C 0 = [] := by kernel_rfl
theorem g46_kr (m : Nat) (x : ShLVal g46_A) : fnK (mkC (g46_S.Val × ShLVal g46_U) [g61_T m, g62_T m, g63_T m]) (mkLp (g46_S.Val × ShLVal g46_U) []) tt g46_H Tryd.f46 (encS g46_A x) (Kd g46_S g46_U) = g46 m x.1.1 x.1.2.1 x.1.2.2.1 x.1.2.2.2.1 := by kernel_rfl
theorem g46_ok (m : Nat) : FunOK Tryd.prog (g46_T m) :=
  fun_ok hmix htt (g46_T m) Tryd.func46 (c := g46_C) (by kernel_rfl) (by kernel_rfl) (Lc := [g61_T m, g62_T m, g63_T m]) (AllF.mem (l := [g61_T m, g62_T m, g63_T m]) ⟨g61_ok m, g62_ok m, g63_ok m, trivial⟩) (L := []) (fun _ hE _ _ => loopsIn_of g46_C_ls trivial) (fun x => (g46_kr m x).trans (by kernel_rfl))
/-! 28 sparse/float.Exponent -/
def g28_H : Hints := { regs := [⟨[], [0]⟩, ⟨[(0, 1)], [2, 3]⟩], heads := [], exits := [], rets := [2, 3], pins := [], spec := [[false], [false]] }
abbrev g28_A : List Sh := [.a (.c (.int .u64))]
abbrev g28_S : Sh := .tup [(.c (.int .i64)), (.c .bool)]
abbrev g28_U : List Sh := [.a (.c .dead)]
def g28_R (m : Nat) : ShLVal g28_A → Option (g28_S.Val × ShLVal g28_U) := fun (x : Int × Unit) => g28 m x.1
def g28_T (m : Nat) : FunT := ⟨28, g28_A, g28_S, g28_U, g28_R m⟩
noncomputable def g28_C : Code := codeOf Tryd.f28
theorem g28_C_ls : loopsL g28_C 0 = [] := by kernel_rfl
theorem g28_kr (m : Nat) (x : ShLVal g28_A) : fnK (mkC (g28_S.Val × ShLVal g28_U) [g47_T m, g46_T m]) (mkLp (g28_S.Val × ShLVal g28_U) []) tt g28_H Tryd.f28 (encS g28_A x) (Kd g28_S g28_U) = g28 m x.1 := by kernel_rfl
theorem g28_ok (m : Nat) : FunOK Tryd.prog (g28_T m) :=
  fun_ok hmix htt (g28_T m) Tryd.func28 (c := g28_C) (by kernel_rfl) (by kernel_rfl) (Lc := [g47_T m, g46_T m]) (AllF.mem (l := [g47_T m, g46_T m]) ⟨g47_ok m, g46_ok m, trivial⟩) (L := []) (fun _ hE _ _ => loopsIn_of g28_C_ls trivial) (fun x => (g28_kr m x).trans (by kernel_rfl))
/-! 16 sparse/transversal.edges -/
def g16_H : Hints := { regs := [⟨[], [1]⟩, ⟨[(2, 4)], [1, 3]⟩, ⟨[], [3, 12, 13, 14]⟩, ⟨[], [3, 12, 13, 14, 15]⟩, ⟨[], [3, 5, 12, 13, 14]⟩, ⟨[(3, 1)], [3, 5, 6, 7, 12, 13, 14]⟩, ⟨[(0, 1)], [3, 5, 6, 12, 13, 14, 24]⟩, ⟨[(7, 4), (10, 1), (15, 4)], [3, 12, 13, 14]⟩, ⟨[(1, 1)], [3, 12, 13, 14]⟩, ⟨[(0, 1)], [2]⟩], heads := [(0, [3, 12, 13, 14])], exits := [(0, [3]), (1, [3, 12, 13, 14])], rets := [2], pins := [], spec := [[false]] }
abbrev g16_A : List Sh := [.a (.agg [(.int .i64), (.int .i64), (.imm (.int .i64)), (.imm (.int .i64)), (.imm (.int .u64))])]
abbrev g16_S : Sh := .a (.c (.imm (.sl false (.pr (.int .i64) (.int .i64)))))
abbrev g16_U : List Sh := [.a (.c .dead)]
def g16_R (m : Nat) : ShLVal g16_A → Option (g16_S.Val × ShLVal g16_U) := fun (x : (Int × Int × List Int × List Int × List Int × Unit) × Unit) => g16 m x.1.1 x.1.2.1 x.1.2.2.1 x.1.2.2.2.1 x.1.2.2.2.2.1
def g16_T (m : Nat) : FunT := ⟨16, g16_A, g16_S, g16_U, g16_R m⟩
noncomputable def g16_C : Code := codeOf Tryd.f16
noncomputable def g16_B0 : Code := loopAt g16_C 0 0
theorem g16_B0_ls : loopsL g16_B0 0 = [] := by kernel_rfl
theorem g16_C_ls : loopsL g16_C 0 = [(0, g16_B0)] := by kernel_rfl
abbrev g16_L0_I : SS := [(3, .a (.c (.dp 0 (.pr (.int .i64) (.int .i64))))), (12, .a (.c (.nm 1 (.pr (.int .i64) (.pr (.int .i64) (.int .u64)))))), (13, .a (.c (.int .i64))), (14, .a (.c (.int .i64)))]
abbrev g16_L0_O : List (Ex × SS) := [(.exit 0, [(3, .a (.c (.dp 0 (.pr (.int .i64) (.int .i64)))))])]
def g16_L0_R (m n : Nat) : g16_L0_I.Val → Option (outVal g16_L0_O) := (fun (x : (List (List (Int × Int))) × (List (Int × Int × Int)) × Int × Int × Unit) => g16_L0 m n x.1 x.2.1 x.2.2.1 x.2.2.2.1)
def g16_L0_T (m n : Nat) : LoopT := ⟨0, g16_L0_I, g16_L0_O, g16_L0_R m n⟩
theorem g16_L0_kr (m n : Nat) (x : g16_L0_I.Val) : roundK (mkC (outVal g16_L0_O) [g27_T m, g28_T m]) (mkLp (outVal g16_L0_O) []) tt 42 g16_H g16_B0 0 (g16_L0_I.enc x) (Kl (ins := g16_L0_I) (outs := g16_L0_O) (g16_L0_R m n)) = g16_L0 m (n + 1) x.1 x.2.1 x.2.2.1 x.2.2.2.1 := by kernel_rfl
theorem g16_L0_ok {E : Entry} (hE : EOf Tryd.prog E 42 g16_H.pins) (m : Nat) (n : Nat) : LoopOK Tryd.prog E g16_B0 (g16_L0_T m n) :=
  loop_ok (CO := CallOK Tryd.prog) hmix htt (fun _ _ _ _ h => h) hE (C := fun R => mkC R [g27_T m, g28_T m]) (L := []) (fun _ _ _ _ _ h => mkC_spec (AllF.mem (l := [g27_T m, g28_T m]) ⟨g27_ok m, g28_ok m, trivial⟩) h) (fun _ _ => loopsIn_of g16_B0_ls trivial) (fun n => (g16_L0_R m n)) (fun _ => by kernel_rfl) (fun n x => (g16_L0_kr m n x).trans (by kernel_rfl)) n
theorem g16_kr (m : Nat) (x : ShLVal g16_A) : fnK (mkC (g16_S.Val × ShLVal g16_U) [g27_T m, g28_T m]) (mkLp (g16_S.Val × ShLVal g16_U) [g16_L0_T m m]) tt g16_H Tryd.f16 (encS g16_A x) (Kd g16_S g16_U) = g16 m x.1.1 x.1.2.1 x.1.2.2.1 x.1.2.2.2.1 x.1.2.2.2.2.1 := by kernel_rfl
theorem g16_ok (m : Nat) : FunOK Tryd.prog (g16_T m) :=
  fun_ok hmix htt (g16_T m) Tryd.func16 (c := g16_C) (by kernel_rfl) (by kernel_rfl) (Lc := [g27_T m, g28_T m]) (AllF.mem (l := [g27_T m, g28_T m]) ⟨g27_ok m, g28_ok m, trivial⟩) (L := [g16_L0_T m m]) (fun _ hE _ _ => loopsIn_of g16_C_ls ⟨mkLp_all ⟨fun _ => g16_L0_ok hE m m, trivial⟩, trivial⟩) (fun x => (g16_kr m x).trans (by kernel_rfl))
/-! 25 sparse/transversal.full -/
def g25_H : Hints := { regs := [⟨[], [0, 1]⟩, ⟨[(0, 1)], [1, 5]⟩, ⟨[], [1, 5, 10, 11]⟩, ⟨[], [1, 5, 10, 11, 12]⟩, ⟨[], [1, 5, 6, 10, 11]⟩, ⟨[(1, 1)], [1, 5, 10, 11]⟩, ⟨[(1, 1)], [1, 5, 10, 11]⟩, ⟨[(0, 1)], [4]⟩], heads := [(0, [1, 5, 10, 11])], exits := [(0, [5]), (1, [1, 5, 10, 11])], rets := [4], pins := [], spec := [[true]] }
abbrev g25_A : List Sh := [.a (.c (.int .i64)), .a (.c (.int .i64))]
abbrev g25_S : Sh := .a (.c (.nm 0 (.int .i64)))
abbrev g25_U : List Sh := [.a (.c .dead), .a (.c .dead)]
def g25_R (m : Nat) : ShLVal g25_A → Option (g25_S.Val × ShLVal g25_U) := fun (x : Int × Int × Unit) => g25 m x.1 x.2.1
def g25_T (m : Nat) : FunT := ⟨25, g25_A, g25_S, g25_U, g25_R m⟩
noncomputable def g25_C : Code := codeOf Tryd.f25
noncomputable def g25_B0 : Code := loopAt g25_C 0 0
theorem g25_B0_ls : loopsL g25_B0 0 = [] := by kernel_rfl
theorem g25_C_ls : loopsL g25_C 0 = [(0, g25_B0)] := by kernel_rfl
abbrev g25_L0_I : SS := [(1, .a (.c (.int .i64))), (5, .a (.c (.nm 0 (.int .i64)))), (10, .a (.c (.int .i64))), (11, .a (.c (.int .i64)))]
abbrev g25_L0_O : List (Ex × SS) := [(.exit 0, [(5, .a (.c (.nm 0 (.int .i64))))])]
def g25_L0_R (m n : Nat) : g25_L0_I.Val → Option (outVal g25_L0_O) := (fun (x : Int × List Int × Int × Int × Unit) => g25_L0 m n x.1 x.2.1 x.2.2.1 x.2.2.2.1)
def g25_L0_T (m n : Nat) : LoopT := ⟨0, g25_L0_I, g25_L0_O, g25_L0_R m n⟩
theorem g25_L0_kr (m n : Nat) (x : g25_L0_I.Val) : roundK (mkC (outVal g25_L0_O) []) (mkLp (outVal g25_L0_O) []) tt 20 g25_H g25_B0 0 (g25_L0_I.enc x) (Kl (ins := g25_L0_I) (outs := g25_L0_O) (g25_L0_R m n)) = g25_L0 m (n + 1) x.1 x.2.1 x.2.2.1 x.2.2.2.1 := by kernel_rfl
theorem g25_L0_ok {E : Entry} (hE : EOf Tryd.prog E 20 g25_H.pins) (m : Nat) (n : Nat) : LoopOK Tryd.prog E g25_B0 (g25_L0_T m n) :=
  loop_ok (CO := CallOK Tryd.prog) hmix htt (fun _ _ _ _ h => h) hE (C := fun R => mkC R []) (L := []) (fun _ _ _ _ _ h => mkC_spec (AllF.mem (l := []) trivial) h) (fun _ _ => loopsIn_of g25_B0_ls trivial) (fun n => (g25_L0_R m n)) (fun _ => by kernel_rfl) (fun n x => (g25_L0_kr m n x).trans (by kernel_rfl)) n
theorem g25_kr (m : Nat) (x : ShLVal g25_A) : fnK (mkC (g25_S.Val × ShLVal g25_U) []) (mkLp (g25_S.Val × ShLVal g25_U) [g25_L0_T m m]) tt g25_H Tryd.f25 (encS g25_A x) (Kd g25_S g25_U) = g25 m x.1 x.2.1 := by kernel_rfl
theorem g25_ok (m : Nat) : FunOK Tryd.prog (g25_T m) :=
  fun_ok hmix htt (g25_T m) Tryd.func25 (c := g25_C) (by kernel_rfl) (by kernel_rfl) (Lc := []) (AllF.mem (l := []) trivial) (L := [g25_L0_T m m]) (fun _ hE _ _ => loopsIn_of g25_C_ls ⟨mkLp_all ⟨fun _ => g25_L0_ok hE m m, trivial⟩, trivial⟩) (fun x => (g25_kr m x).trans (by kernel_rfl))
/-! 43 __sparse/transversal.hungarian_.change -/
def g43_H : Hints := { regs := [⟨[(4, 1)], [0, 2, 3, 4]⟩, ⟨[(0, 1)], [0, 2, 4, 23, 24, 25]⟩, ⟨[], [0, 2, 4, 23, 24, 25, 26]⟩, ⟨[], [0, 2, 4, 10, 11, 23, 24, 25]⟩, ⟨[(0, 1)], [0, 2, 4, 10, 23, 24, 25, 30]⟩, ⟨[], [0, 2, 4, 10, 23, 24, 25]⟩, ⟨[], [0, 2, 4, 10, 12, 23, 24, 25]⟩, ⟨[], [0, 2, 4, 10, 12, 23, 24, 25, 54]⟩, ⟨[(4, 1), (9, 1)], [0, 2, 4, 23, 24, 25]⟩, ⟨[(1, 1)], [0, 2, 4, 23, 24, 25]⟩], heads := [(0, [0, 2, 4, 23, 24, 25])], exits := [(0, [0]), (1, [0, 2, 4, 23, 24, 25])], rets := [0], pins := [0], spec := [] }
abbrev g43_A : List Sh := [.a (.bx 0 [(.imm (.sl false (.pr (.int .i64) (.int .i64)))), (.nm 1 (.int .i64)), (.nm 2 (.int .i64)), (.nm 3 (.int .i64)), (.nm 4 (.int .i64))]), .a (.c (.int .i64)), .a (.c (.imm (.int .i64))), .a (.c (.imm .bool)), .a (.c (.int .i64))]
abbrev g43_S : Sh := .tup []
abbrev g43_U : List Sh := [.a (.bx 0 [(.imm (.sl false (.pr (.int .i64) (.int .i64)))), (.nm 1 (.int .i64)), (.nm 2 (.int .i64)), (.nm 3 (.int .i64)), (.nm 4 (.int .i64))]), .a (.c .dead), .a (.c .dead), .a (.c .dead), .a (.c .dead)]
def g43_R (m : Nat) : ShLVal g43_A → Option (g43_S.Val × ShLVal g43_U) := fun (x : ((List (List (Int × Int))) × List Int × List Int × List Int × List Int × Unit) × Int × List Int × List Bool × Int × Unit) => g43 m x.1.1 x.1.2.1 x.1.2.2.1 x.1.2.2.2.1 x.1.2.2.2.2.1 x.2.1 x.2.2.1 x.2.2.2.1 x.2.2.2.2.1
def g43_T (m : Nat) : FunT := ⟨43, g43_A, g43_S, g43_U, g43_R m⟩
noncomputable def g43_C : Code := codeOf Tryd.f43
noncomputable def g43_B0 : Code := loopAt g43_C 0 0
theorem g43_B0_ls : loopsL g43_B0 0 = [] := by kernel_rfl
theorem g43_C_ls : loopsL g43_C 0 = [(0, g43_B0)] := by kernel_rfl
abbrev g43_L0_I : SS := [(0, .a (.bx 0 [(.imm (.sl false (.pr (.int .i64) (.int .i64)))), (.nm 1 (.int .i64)), (.nm 2 (.int .i64)), (.nm 3 (.int .i64)), (.nm 4 (.int .i64))])), (2, .a (.c (.imm (.int .i64)))), (4, .a (.c (.int .i64))), (23, .a (.c (.imm .bool))), (24, .a (.c (.int .i64))), (25, .a (.c (.int .i64)))]
abbrev g43_L0_O : List (Ex × SS) := [(.exit 0, [(0, .a (.bx 0 [(.imm (.sl false (.pr (.int .i64) (.int .i64)))), (.nm 1 (.int .i64)), (.nm 2 (.int .i64)), (.nm 3 (.int .i64)), (.nm 4 (.int .i64))]))])]
def g43_L0_R (m n : Nat) : g43_L0_I.Val → Option (outVal g43_L0_O) := (fun (x : ((List (List (Int × Int))) × List Int × List Int × List Int × List Int × Unit) × List Int × Int × List Bool × Int × Int × Unit) => g43_L0 m n x.1.1 x.1.2.1 x.1.2.2.1 x.1.2.2.2.1 x.1.2.2.2.2.1 x.2.1 x.2.2.1 x.2.2.2.1 x.2.2.2.2.1 x.2.2.2.2.2.1)
def g43_L0_T (m n : Nat) : LoopT := ⟨0, g43_L0_I, g43_L0_O, g43_L0_R m n⟩
theorem g43_L0_kr (m n : Nat) (x : g43_L0_I.Val) : roundK (mkC (outVal g43_L0_O) []) (mkLp (outVal g43_L0_O) []) tt 71 g43_H g43_B0 0 (g43_L0_I.enc x) (Kl (ins := g43_L0_I) (outs := g43_L0_O) (g43_L0_R m n)) = g43_L0 m (n + 1) x.1.1 x.1.2.1 x.1.2.2.1 x.1.2.2.2.1 x.1.2.2.2.2.1 x.2.1 x.2.2.1 x.2.2.2.1 x.2.2.2.2.1 x.2.2.2.2.2.1 := by kernel_rfl
theorem g43_L0_ok {E : Entry} (hE : EOf Tryd.prog E 71 g43_H.pins) (m : Nat) (n : Nat) : LoopOK Tryd.prog E g43_B0 (g43_L0_T m n) :=
  loop_ok (CO := CallOK Tryd.prog) hmix htt (fun _ _ _ _ h => h) hE (C := fun R => mkC R []) (L := []) (fun _ _ _ _ _ h => mkC_spec (AllF.mem (l := []) trivial) h) (fun _ _ => loopsIn_of g43_B0_ls trivial) (fun n => (g43_L0_R m n)) (fun _ => by kernel_rfl) (fun n x => (g43_L0_kr m n x).trans (by kernel_rfl)) n
theorem g43_kr (m : Nat) (x : ShLVal g43_A) : fnK (mkC (g43_S.Val × ShLVal g43_U) []) (mkLp (g43_S.Val × ShLVal g43_U) [g43_L0_T m m]) tt g43_H Tryd.f43 (encS g43_A x) (Kd g43_S g43_U) = g43 m x.1.1 x.1.2.1 x.1.2.2.1 x.1.2.2.2.1 x.1.2.2.2.2.1 x.2.1 x.2.2.1 x.2.2.2.1 x.2.2.2.2.1 := by kernel_rfl
theorem g43_ok (m : Nat) : FunOK Tryd.prog (g43_T m) :=
  fun_ok hmix htt (g43_T m) Tryd.func43 (c := g43_C) (by kernel_rfl) (by kernel_rfl) (Lc := []) (AllF.mem (l := []) trivial) (L := [g43_L0_T m m]) (fun _ hE _ _ => loopsIn_of g43_C_ls ⟨mkLp_all ⟨fun _ => g43_L0_ok hE m m, trivial⟩, trivial⟩) (fun x => (g43_kr m x).trans (by kernel_rfl))
/-! 44 __sparse/transversal.hungarian_.turn -/
def g44_H : Hints := { regs := [⟨[], [0, 1, 2, 3, 8]⟩, ⟨[], [0, 1, 2, 3, 8, 9]⟩, ⟨[], [0, 1, 3, 8, 9]⟩, ⟨[(0, 1)], [0, 1, 3, 9, 37]⟩, ⟨[(0, 1)], [0, 1, 2, 3]⟩], heads := [(0, [0, 1, 2, 3])], exits := [(0, [0]), (1, [0, 1, 2, 3])], rets := [0], pins := [0], spec := [] }
abbrev g44_A : List Sh := [.a (.bx 0 [(.imm (.sl false (.pr (.int .i64) (.int .i64)))), (.nm 1 (.int .i64)), (.nm 2 (.int .i64)), (.nm 3 (.int .i64)), (.nm 4 (.int .i64))]), .a (.c (.int .i64)), .a (.c (.int .i64)), .a (.c (.imm (.int .i64)))]
abbrev g44_S : Sh := .tup []
abbrev g44_U : List Sh := [.a (.bx 0 [(.imm (.sl false (.pr (.int .i64) (.int .i64)))), (.nm 1 (.int .i64)), (.nm 2 (.int .i64)), (.nm 3 (.int .i64)), (.nm 4 (.int .i64))]), .a (.c .dead), .a (.c .dead), .a (.c .dead)]
def g44_R (m : Nat) : ShLVal g44_A → Option (g44_S.Val × ShLVal g44_U) := fun (x : ((List (List (Int × Int))) × List Int × List Int × List Int × List Int × Unit) × Int × Int × List Int × Unit) => g44 m x.1.1 x.1.2.1 x.1.2.2.1 x.1.2.2.2.1 x.1.2.2.2.2.1 x.2.1 x.2.2.1 x.2.2.2.1
def g44_T (m : Nat) : FunT := ⟨44, g44_A, g44_S, g44_U, g44_R m⟩
noncomputable def g44_C : Code := codeOf Tryd.f44
noncomputable def g44_B0 : Code := loopAt g44_C 0 0
theorem g44_B0_ls : loopsL g44_B0 0 = [] := by kernel_rfl
theorem g44_C_ls : loopsL g44_C 0 = [(0, g44_B0)] := by kernel_rfl
abbrev g44_L0_I : SS := [(0, .a (.bx 0 [(.imm (.sl false (.pr (.int .i64) (.int .i64)))), (.nm 1 (.int .i64)), (.nm 2 (.int .i64)), (.nm 3 (.int .i64)), (.nm 4 (.int .i64))])), (1, .a (.c (.int .i64))), (2, .a (.c (.int .i64))), (3, .a (.c (.imm (.int .i64))))]
abbrev g44_L0_O : List (Ex × SS) := [(.ret, [(0, .a (.bx 0 [(.imm (.sl false (.pr (.int .i64) (.int .i64)))), (.nm 1 (.int .i64)), (.nm 2 (.int .i64)), (.nm 3 (.int .i64)), (.nm 4 (.int .i64))]))])]
def g44_L0_R (m n : Nat) : g44_L0_I.Val → Option (outVal g44_L0_O) := (fun (x : ((List (List (Int × Int))) × List Int × List Int × List Int × List Int × Unit) × Int × Int × List Int × Unit) => g44_L0 m n x.1.1 x.1.2.1 x.1.2.2.1 x.1.2.2.2.1 x.1.2.2.2.2.1 x.2.1 x.2.2.1 x.2.2.2.1)
def g44_L0_T (m n : Nat) : LoopT := ⟨0, g44_L0_I, g44_L0_O, g44_L0_R m n⟩
theorem g44_L0_kr (m n : Nat) (x : g44_L0_I.Val) : roundK (mkC (outVal g44_L0_O) []) (mkLp (outVal g44_L0_O) []) tt 39 g44_H g44_B0 0 (g44_L0_I.enc x) (Kl (ins := g44_L0_I) (outs := g44_L0_O) (g44_L0_R m n)) = g44_L0 m (n + 1) x.1.1 x.1.2.1 x.1.2.2.1 x.1.2.2.2.1 x.1.2.2.2.2.1 x.2.1 x.2.2.1 x.2.2.2.1 := by kernel_rfl
theorem g44_L0_ok {E : Entry} (hE : EOf Tryd.prog E 39 g44_H.pins) (m : Nat) (n : Nat) : LoopOK Tryd.prog E g44_B0 (g44_L0_T m n) :=
  loop_ok (CO := CallOK Tryd.prog) hmix htt (fun _ _ _ _ h => h) hE (C := fun R => mkC R []) (L := []) (fun _ _ _ _ _ h => mkC_spec (AllF.mem (l := []) trivial) h) (fun _ _ => loopsIn_of g44_B0_ls trivial) (fun n => (g44_L0_R m n)) (fun _ => by kernel_rfl) (fun n x => (g44_L0_kr m n x).trans (by kernel_rfl)) n
theorem g44_kr (m : Nat) (x : ShLVal g44_A) : fnK (mkC (g44_S.Val × ShLVal g44_U) []) (mkLp (g44_S.Val × ShLVal g44_U) [g44_L0_T m m]) tt g44_H Tryd.f44 (encS g44_A x) (Kd g44_S g44_U) = g44 m x.1.1 x.1.2.1 x.1.2.2.1 x.1.2.2.2.1 x.1.2.2.2.2.1 x.2.1 x.2.2.1 x.2.2.2.1 := by kernel_rfl
theorem g44_ok (m : Nat) : FunOK Tryd.prog (g44_T m) :=
  fun_ok hmix htt (g44_T m) Tryd.func44 (c := g44_C) (by kernel_rfl) (by kernel_rfl) (Lc := []) (AllF.mem (l := []) trivial) (L := [g44_L0_T m m]) (fun _ hE _ _ => loopsIn_of g44_C_ls ⟨mkLp_all ⟨fun _ => g44_L0_ok hE m m, trivial⟩, trivial⟩) (fun x => (g44_kr m x).trans (by kernel_rfl))
/-! 26 __sparse/transversal.hungarian_.add -/
def g26_H : Hints := { regs := [⟨[], [0, 1]⟩, ⟨[], [0, 1, 5]⟩, ⟨[], [0, 1, 5, 6, 7]⟩, ⟨[], [0, 1, 5, 6, 7, 8]⟩, ⟨[], [0, 1, 5, 6, 7, 8, 9, 10]⟩, ⟨[], [0, 1, 5, 6, 7, 8, 9, 10, 34, 35, 36]⟩, ⟨[], [0, 1, 5, 6, 7, 8, 9, 10, 34, 35, 36, 37]⟩, ⟨[], [0, 1, 5, 6, 7, 8, 9, 10, 12, 34, 35, 36]⟩, ⟨[], [0, 1, 5, 6, 7, 8, 9, 10, 12, 13, 34, 35, 36]⟩, ⟨[(6, 1)], [0, 1, 5, 6, 7, 8, 9, 10, 12, 13, 34, 35, 36, 75]⟩, ⟨[(6, 1)], [0, 1, 5, 6, 7, 8, 9, 10, 34, 35, 36]⟩, ⟨[(1, 1)], [0, 1, 5, 6, 7, 8, 9, 10, 34, 35, 36]⟩, ⟨[], [0, 1, 5, 6, 7, 8, 14]⟩, ⟨[], [0, 1, 5, 6, 7, 8, 14, 87, 88]⟩, ⟨[], [0, 1, 5, 6, 7, 8, 14, 87, 88, 89]⟩, ⟨[], [0, 1, 5, 6, 7, 8, 14, 15, 87, 88]⟩, ⟨[(5, 1), (12, 1), (15, 1)], [0, 1, 5, 6, 7, 8, 14, 15, 87, 88, 117]⟩, ⟨[(0, 1)], [0, 1, 5, 6, 7, 8, 14, 87, 88]⟩, ⟨[(1, 1)], [0, 1, 5, 6, 7, 8, 14, 87, 88]⟩, ⟨[], [0, 1, 5, 6, 7, 8, 14, 121]⟩, ⟨[], [0, 4]⟩, ⟨[], [0, 1, 5, 6, 7, 8, 10, 14]⟩, ⟨[], [0, 1, 5, 6, 7, 8, 10, 14, 136]⟩, ⟨[(2, 1), (3, 1), (4, 1)], [0, 1, 7, 14]⟩, ⟨[(1, 1), (2, 1), (3, 1)], [0]⟩, ⟨[], [0, 4]⟩, ⟨[(4, 1)], [0, 1, 5, 6, 7, 8, 9, 10]⟩], heads := [(0, [0, 1, 5, 6, 7, 8, 9, 10]), (2, [0, 1, 5, 6, 7, 8, 9, 10, 34, 35, 36]), (4, [0, 1, 5, 6, 7, 8, 14, 87, 88])], exits := [(0, [0, 4]), (1, [0, 1, 5, 6, 7, 8, 9, 10]), (2, [0, 1, 5, 6, 7, 8]), (3, [0, 1, 5, 6, 7, 8, 9, 10, 34, 35, 36]), (4, [0, 1, 5, 6, 7, 8, 14]), (5, [0, 1, 5, 6, 7, 8, 14, 87, 88])], rets := [0, 4], pins := [0], spec := [[false]] }
abbrev g26_A : List Sh := [.a (.bx 0 [(.imm (.sl false (.pr (.int .i64) (.int .i64)))), (.nm 1 (.int .i64)), (.nm 2 (.int .i64)), (.nm 3 (.int .i64)), (.nm 4 (.int .i64))]), .a (.c (.int .i64))]
abbrev g26_S : Sh := .a (.c .bool)
abbrev g26_U : List Sh := [.a (.bx 0 [(.imm (.sl false (.pr (.int .i64) (.int .i64)))), (.nm 1 (.int .i64)), (.nm 2 (.int .i64)), (.nm 3 (.int .i64)), (.nm 4 (.int .i64))]), .a (.c .dead)]
def g26_R (m : Nat) : ShLVal g26_A → Option (g26_S.Val × ShLVal g26_U) := fun (x : ((List (List (Int × Int))) × List Int × List Int × List Int × List Int × Unit) × Int × Unit) => g26 m x.1.1 x.1.2.1 x.1.2.2.1 x.1.2.2.2.1 x.1.2.2.2.2.1 x.2.1
def g26_T (m : Nat) : FunT := ⟨26, g26_A, g26_S, g26_U, g26_R m⟩
noncomputable def g26_C : Code := codeOf Tryd.f26
noncomputable def g26_B0 : Code := loopAt g26_C 0 0
noncomputable def g26_B2 : Code := loopAt g26_B0 0 0
theorem g26_B2_ls : loopsL g26_B2 2 = [] := by kernel_rfl
noncomputable def g26_B4 : Code := loopAt g26_B0 0 1
theorem g26_B4_ls : loopsL g26_B4 4 = [] := by kernel_rfl
theorem g26_B0_ls : loopsL g26_B0 0 = [(2, g26_B2), (4, g26_B4)] := by kernel_rfl
theorem g26_C_ls : loopsL g26_C 0 = [(0, g26_B0)] := by kernel_rfl
abbrev g26_L2_I : SS := [(0, .a (.bx 0 [(.imm (.sl false (.pr (.int .i64) (.int .i64)))), (.nm 1 (.int .i64)), (.nm 2 (.int .i64)), (.nm 3 (.int .i64)), (.nm 4 (.int .i64))])), (1, .a (.c (.int .i64))), (5, .a (.c (.int .i64))), (6, .a (.c (.nm 5 (.int .i64)))), (7, .a (.c (.nm 6 (.int .i64)))), (8, .a (.c (.nm 7 .bool))), (14, .a (.c (.int .i64))), (87, .a (.c (.int .i64))), (88, .a (.c (.int .i64)))]
abbrev g26_L2_O : List (Ex × SS) := [(.exit 4, [(0, .a (.bx 0 [(.imm (.sl false (.pr (.int .i64) (.int .i64)))), (.nm 1 (.int .i64)), (.nm 2 (.int .i64)), (.nm 3 (.int .i64)), (.nm 4 (.int .i64))])), (1, .a (.c (.int .i64))), (5, .a (.c (.int .i64))), (6, .a (.c (.nm 5 (.int .i64)))), (7, .a (.c (.nm 6 (.int .i64)))), (8, .a (.c (.nm 7 .bool))), (14, .a (.c (.int .i64)))])]
def g26_L2_R (m n : Nat) : g26_L2_I.Val → Option (outVal g26_L2_O) := (fun (x : ((List (List (Int × Int))) × List Int × List Int × List Int × List Int × Unit) × Int × Int × List Int × List Int × List Bool × Int × Int × Int × Unit) => g26_L2 m n x.1.1 x.1.2.1 x.1.2.2.1 x.1.2.2.2.1 x.1.2.2.2.2.1 x.2.1 x.2.2.1 x.2.2.2.1 x.2.2.2.2.1 x.2.2.2.2.2.1 x.2.2.2.2.2.2.1 x.2.2.2.2.2.2.2.1 x.2.2.2.2.2.2.2.2.1)
def g26_L2_T (m n : Nat) : LoopT := ⟨4, g26_L2_I, g26_L2_O, g26_L2_R m n⟩
theorem g26_L2_kr (m n : Nat) (x : g26_L2_I.Val) : roundK (mkC (outVal g26_L2_O) [g25_T m, g43_T m, g44_T m]) (mkLp (outVal g26_L2_O) []) tt 155 g26_H g26_B4 4 (g26_L2_I.enc x) (Kl (ins := g26_L2_I) (outs := g26_L2_O) (g26_L2_R m n)) = g26_L2 m (n + 1) x.1.1 x.1.2.1 x.1.2.2.1 x.1.2.2.2.1 x.1.2.2.2.2.1 x.2.1 x.2.2.1 x.2.2.2.1 x.2.2.2.2.1 x.2.2.2.2.2.1 x.2.2.2.2.2.2.1 x.2.2.2.2.2.2.2.1 x.2.2.2.2.2.2.2.2.1 := by kernel_rfl
theorem g26_L2_ok {E : Entry} (hE : EOf Tryd.prog E 155 g26_H.pins) (m : Nat) (n : Nat) : LoopOK Tryd.prog E g26_B4 (g26_L2_T m n) :=
  loop_ok (CO := CallOK Tryd.prog) hmix htt (fun _ _ _ _ h => h) hE (C := fun R => mkC R [g25_T m, g43_T m, g44_T m]) (L := []) (fun _ _ _ _ _ h => mkC_spec (AllF.mem (l := [g25_T m, g43_T m, g44_T m]) ⟨g25_ok m, g43_ok m, g44_ok m, trivial⟩) h) (fun _ _ => loopsIn_of g26_B4_ls trivial) (fun n => (g26_L2_R m n)) (fun _ => by kernel_rfl) (fun n x => (g26_L2_kr m n x).trans (by kernel_rfl)) n
abbrev g26_L1_I : SS := [(0, .a (.bx 0 [(.imm (.sl false (.pr (.int .i64) (.int .i64)))), (.nm 1 (.int .i64)), (.nm 2 (.int .i64)), (.nm 3 (.int .i64)), (.nm 4 (.int .i64))])), (1, .a (.c (.int .i64))), (5, .a (.c (.int .i64))), (6, .a (.c (.nm 5 (.int .i64)))), (7, .a (.c (.nm 6 (.int .i64)))), (8, .a (.c (.nm 7 .bool))), (9, .a (.c (.int .i64))), (10, .a (.c (.int .i64))), (34, .a (.c (.imm (.pr (.int .i64) (.int .i64))))), (35, .a (.c (.int .i64))), (36, .a (.c (.int .i64)))]
abbrev g26_L1_O : List (Ex × SS) := [(.exit 2, [(0, .a (.bx 0 [(.imm (.sl false (.pr (.int .i64) (.int .i64)))), (.nm 1 (.int .i64)), (.nm 2 (.int .i64)), (.nm 3 (.int .i64)), (.nm 4 (.int .i64))])), (1, .a (.c (.int .i64))), (5, .a (.c (.int .i64))), (6, .a (.c (.nm 5 (.int .i64)))), (7, .a (.c (.nm 6 (.int .i64)))), (8, .a (.c (.nm 7 .bool)))])]
def g26_L1_R (m n : Nat) : g26_L1_I.Val → Option (outVal g26_L1_O) := (fun (x : ((List (List (Int × Int))) × List Int × List Int × List Int × List Int × Unit) × Int × Int × List Int × List Int × List Bool × Int × Int × (List (Int × Int)) × Int × Int × Unit) => g26_L1 m n x.1.1 x.1.2.1 x.1.2.2.1 x.1.2.2.2.1 x.1.2.2.2.2.1 x.2.1 x.2.2.1 x.2.2.2.1 x.2.2.2.2.1 x.2.2.2.2.2.1 x.2.2.2.2.2.2.1 x.2.2.2.2.2.2.2.1 x.2.2.2.2.2.2.2.2.1 x.2.2.2.2.2.2.2.2.2.1 x.2.2.2.2.2.2.2.2.2.2.1)
def g26_L1_T (m n : Nat) : LoopT := ⟨2, g26_L1_I, g26_L1_O, g26_L1_R m n⟩
theorem g26_L1_kr (m n : Nat) (x : g26_L1_I.Val) : roundK (mkC (outVal g26_L1_O) [g25_T m, g43_T m, g44_T m]) (mkLp (outVal g26_L1_O) []) tt 155 g26_H g26_B2 2 (g26_L1_I.enc x) (Kl (ins := g26_L1_I) (outs := g26_L1_O) (g26_L1_R m n)) = g26_L1 m (n + 1) x.1.1 x.1.2.1 x.1.2.2.1 x.1.2.2.2.1 x.1.2.2.2.2.1 x.2.1 x.2.2.1 x.2.2.2.1 x.2.2.2.2.1 x.2.2.2.2.2.1 x.2.2.2.2.2.2.1 x.2.2.2.2.2.2.2.1 x.2.2.2.2.2.2.2.2.1 x.2.2.2.2.2.2.2.2.2.1 x.2.2.2.2.2.2.2.2.2.2.1 := by kernel_rfl
theorem g26_L1_ok {E : Entry} (hE : EOf Tryd.prog E 155 g26_H.pins) (m : Nat) (n : Nat) : LoopOK Tryd.prog E g26_B2 (g26_L1_T m n) :=
  loop_ok (CO := CallOK Tryd.prog) hmix htt (fun _ _ _ _ h => h) hE (C := fun R => mkC R [g25_T m, g43_T m, g44_T m]) (L := []) (fun _ _ _ _ _ h => mkC_spec (AllF.mem (l := [g25_T m, g43_T m, g44_T m]) ⟨g25_ok m, g43_ok m, g44_ok m, trivial⟩) h) (fun _ _ => loopsIn_of g26_B2_ls trivial) (fun n => (g26_L1_R m n)) (fun _ => by kernel_rfl) (fun n x => (g26_L1_kr m n x).trans (by kernel_rfl)) n
abbrev g26_L0_I : SS := [(0, .a (.bx 0 [(.imm (.sl false (.pr (.int .i64) (.int .i64)))), (.nm 1 (.int .i64)), (.nm 2 (.int .i64)), (.nm 3 (.int .i64)), (.nm 4 (.int .i64))])), (1, .a (.c (.int .i64))), (5, .a (.c (.int .i64))), (6, .a (.c (.nm 5 (.int .i64)))), (7, .a (.c (.nm 6 (.int .i64)))), (8, .a (.c (.nm 7 .bool))), (9, .a (.c (.int .i64))), (10, .a (.c (.int .i64)))]
abbrev g26_L0_O : List (Ex × SS) := [(.ret, [(0, .a (.bx 0 [(.imm (.sl false (.pr (.int .i64) (.int .i64)))), (.nm 1 (.int .i64)), (.nm 2 (.int .i64)), (.nm 3 (.int .i64)), (.nm 4 (.int .i64))])), (4, .a (.c .bool))])]
def g26_L0_R (m n : Nat) : g26_L0_I.Val → Option (outVal g26_L0_O) := (fun (x : ((List (List (Int × Int))) × List Int × List Int × List Int × List Int × Unit) × Int × Int × List Int × List Int × List Bool × Int × Int × Unit) => g26_L0 m n x.1.1 x.1.2.1 x.1.2.2.1 x.1.2.2.2.1 x.1.2.2.2.2.1 x.2.1 x.2.2.1 x.2.2.2.1 x.2.2.2.2.1 x.2.2.2.2.2.1 x.2.2.2.2.2.2.1 x.2.2.2.2.2.2.2.1)
def g26_L0_T (m n : Nat) : LoopT := ⟨0, g26_L0_I, g26_L0_O, g26_L0_R m n⟩
theorem g26_L0_kr (m n : Nat) (x : g26_L0_I.Val) : roundK (mkC (outVal g26_L0_O) [g25_T m, g43_T m, g44_T m]) (mkLp (outVal g26_L0_O) [g26_L1_T m m, g26_L2_T m m]) tt 155 g26_H g26_B0 0 (g26_L0_I.enc x) (Kl (ins := g26_L0_I) (outs := g26_L0_O) (g26_L0_R m n)) = g26_L0 m (n + 1) x.1.1 x.1.2.1 x.1.2.2.1 x.1.2.2.2.1 x.1.2.2.2.2.1 x.2.1 x.2.2.1 x.2.2.2.1 x.2.2.2.2.1 x.2.2.2.2.2.1 x.2.2.2.2.2.2.1 x.2.2.2.2.2.2.2.1 := by kernel_rfl
theorem g26_L0_ok {E : Entry} (hE : EOf Tryd.prog E 155 g26_H.pins) (m : Nat) (n : Nat) : LoopOK Tryd.prog E g26_B0 (g26_L0_T m n) :=
  loop_ok (CO := CallOK Tryd.prog) hmix htt (fun _ _ _ _ h => h) hE (C := fun R => mkC R [g25_T m, g43_T m, g44_T m]) (L := [g26_L1_T m m, g26_L2_T m m]) (fun _ _ _ _ _ h => mkC_spec (AllF.mem (l := [g25_T m, g43_T m, g44_T m]) ⟨g25_ok m, g43_ok m, g44_ok m, trivial⟩) h) (fun _ _ => loopsIn_of g26_B0_ls ⟨mkLp_all ⟨fun _ => g26_L1_ok hE m m, fun h => absurd (show (4 : Nat) = 2 from h) (by decide), trivial⟩, mkLp_all ⟨fun h => absurd (show (2 : Nat) = 4 from h) (by decide), fun _ => g26_L2_ok hE m m, trivial⟩, trivial⟩) (fun n => (g26_L0_R m n)) (fun _ => by kernel_rfl) (fun n x => (g26_L0_kr m n x).trans (by kernel_rfl)) n
theorem g26_kr (m : Nat) (x : ShLVal g26_A) : fnK (mkC (g26_S.Val × ShLVal g26_U) [g25_T m, g43_T m, g44_T m]) (mkLp (g26_S.Val × ShLVal g26_U) [g26_L0_T m m]) tt g26_H Tryd.f26 (encS g26_A x) (Kd g26_S g26_U) = g26 m x.1.1 x.1.2.1 x.1.2.2.1 x.1.2.2.2.1 x.1.2.2.2.2.1 x.2.1 := by kernel_rfl
theorem g26_ok (m : Nat) : FunOK Tryd.prog (g26_T m) :=
  fun_ok hmix htt (g26_T m) Tryd.func26 (c := g26_C) (by kernel_rfl) (by kernel_rfl) (Lc := [g25_T m, g43_T m, g44_T m]) (AllF.mem (l := [g25_T m, g43_T m, g44_T m]) ⟨g25_ok m, g43_ok m, g44_ok m, trivial⟩) (L := [g26_L0_T m m]) (fun _ hE _ _ => loopsIn_of g26_C_ls ⟨mkLp_all ⟨fun _ => g26_L0_ok hE m m, trivial⟩, trivial⟩) (fun x => (g26_kr m x).trans (by kernel_rfl))
/-! 15 sparse/transversal.best -/
def g15_H : Hints := { regs := [⟨[], [0]⟩, ⟨[], [0, 4]⟩, ⟨[], [0, 4, 5]⟩, ⟨[(0, 1)], [4, 5, 24, 25, 26]⟩, ⟨[], [4, 5, 24, 25, 26, 27]⟩, ⟨[], [4, 5, 6, 7, 24, 25, 26]⟩, ⟨[], [4, 5, 6, 7, 24, 25, 26, 33]⟩, ⟨[], [2, 3]⟩, ⟨[], [4, 5, 6, 7, 24, 25, 26]⟩, ⟨[(0, 1)], [4, 5, 6, 24, 25, 26, 44, 45, 46]⟩, ⟨[], [4, 5, 6, 24, 25, 26, 44, 45, 46, 47]⟩, ⟨[], [4, 5, 6, 9, 24, 25, 26, 44, 45, 46]⟩, ⟨[], [4, 5, 6, 24, 25, 26, 44, 45, 46]⟩, ⟨[(1, 1)], [4, 5, 6, 24, 25, 26, 44, 45, 46]⟩, ⟨[(1, 1)], [4, 5, 24, 25, 26]⟩, ⟨[(0, 1)], [5, 68, 69]⟩, ⟨[], [5, 68, 69, 70]⟩, ⟨[], [5, 10, 68, 69]⟩, ⟨[(1, 1)], [5, 68, 69, 75]⟩, ⟨[], [2, 3]⟩, ⟨[(1, 1)], [5, 68, 69]⟩, ⟨[(0, 1)], [2, 3]⟩], heads := [(0, [4, 5, 24, 25, 26]), (2, [4, 5, 6, 24, 25, 26, 44, 45, 46]), (4, [5, 68, 69])], exits := [(0, [4, 5]), (1, [4, 5, 24, 25, 26]), (2, [4, 5, 24, 25, 26]), (3, [4, 5, 6, 24, 25, 26, 44, 45, 46]), (4, [5]), (5, [5, 68, 69])], rets := [2, 3], pins := [], spec := [[false, true, true, true, true], [false]] }
abbrev g15_A : List Sh := [.a (.c (.imm (.sl false (.pr (.int .i64) (.int .i64)))))]
abbrev g15_S : Sh := .altT [(.c .nilp), (.c (.bconst false))] [(.bx 0 [(.imm (.sl false (.pr (.int .i64) (.int .i64)))), (.nm 1 (.int .i64)), (.nm 2 (.int .i64)), (.nm 3 (.int .i64)), (.nm 4 (.int .i64))]), (.c (.bconst true))]
abbrev g15_U : List Sh := [.a (.c .dead)]
def g15_R (m : Nat) : ShLVal g15_A → Option (g15_S.Val × ShLVal g15_U) := fun (x : (List (List (Int × Int))) × Unit) => g15 m x.1
def g15_T (m : Nat) : FunT := ⟨15, g15_A, g15_S, g15_U, g15_R m⟩
noncomputable def g15_C : Code := codeOf Tryd.f15
noncomputable def g15_B0 : Code := loopAt g15_C 0 0
noncomputable def g15_B2 : Code := loopAt g15_B0 0 0
theorem g15_B2_ls : loopsL g15_B2 2 = [] := by kernel_rfl
theorem g15_B0_ls : loopsL g15_B0 0 = [(2, g15_B2)] := by kernel_rfl
noncomputable def g15_B4 : Code := loopAt g15_C 0 1
theorem g15_B4_ls : loopsL g15_B4 4 = [] := by kernel_rfl
theorem g15_C_ls : loopsL g15_C 0 = [(0, g15_B0), (4, g15_B4)] := by kernel_rfl
abbrev g15_L2_I : SS := [(5, .a (.bx 0 [(.imm (.sl false (.pr (.int .i64) (.int .i64)))), (.nm 1 (.int .i64)), (.nm 2 (.int .i64)), (.nm 3 (.int .i64)), (.nm 4 (.int .i64))])), (68, .a (.c (.int .i64))), (69, .a (.c (.int .i64)))]
abbrev g15_L2_O : List (Ex × SS) := [(.ret, [(2, .a (.c .nilp)), (3, .a (.c (.bconst false)))]), (.exit 4, [(5, .a (.bx 0 [(.imm (.sl false (.pr (.int .i64) (.int .i64)))), (.nm 1 (.int .i64)), (.nm 2 (.int .i64)), (.nm 3 (.int .i64)), (.nm 4 (.int .i64))]))])]
def g15_L2_R (m n : Nat) : g15_L2_I.Val → Option (outVal g15_L2_O) := (fun (x : ((List (List (Int × Int))) × List Int × List Int × List Int × List Int × Unit) × Int × Int × Unit) => g15_L2 m n x.1.1 x.1.2.1 x.1.2.2.1 x.1.2.2.2.1 x.1.2.2.2.2.1 x.2.1 x.2.2.1)
def g15_L2_T (m n : Nat) : LoopT := ⟨4, g15_L2_I, g15_L2_O, g15_L2_R m n⟩
theorem g15_L2_kr (m n : Nat) (x : g15_L2_I.Val) : roundK (mkC (outVal g15_L2_O) [g25_T m, g26_T m]) (mkLp (outVal g15_L2_O) []) tt 78 g15_H g15_B4 4 (g15_L2_I.enc x) (Kl (ins := g15_L2_I) (outs := g15_L2_O) (g15_L2_R m n)) = g15_L2 m (n + 1) x.1.1 x.1.2.1 x.1.2.2.1 x.1.2.2.2.1 x.1.2.2.2.2.1 x.2.1 x.2.2.1 := by kernel_rfl
theorem g15_L2_ok {E : Entry} (hE : EOf Tryd.prog E 78 g15_H.pins) (m : Nat) (n : Nat) : LoopOK Tryd.prog E g15_B4 (g15_L2_T m n) :=
  loop_ok (CO := CallOK Tryd.prog) hmix htt (fun _ _ _ _ h => h) hE (C := fun R => mkC R [g25_T m, g26_T m]) (L := []) (fun _ _ _ _ _ h => mkC_spec (AllF.mem (l := [g25_T m, g26_T m]) ⟨g25_ok m, g26_ok m, trivial⟩) h) (fun _ _ => loopsIn_of g15_B4_ls trivial) (fun n => (g15_L2_R m n)) (fun _ => by kernel_rfl) (fun n x => (g15_L2_kr m n x).trans (by kernel_rfl)) n
abbrev g15_L1_I : SS := [(4, .a (.c (.int .i64))), (5, .a (.bx 0 [(.imm (.sl false (.pr (.int .i64) (.int .i64)))), (.nm 1 (.int .i64)), (.nm 2 (.int .i64)), (.nm 3 (.int .i64)), (.nm 4 (.int .i64))])), (6, .a (.c (.int .i64))), (24, .a (.c (.imm (.sl false (.pr (.int .i64) (.int .i64)))))), (25, .a (.c (.int .i64))), (26, .a (.c (.int .i64))), (44, .a (.c (.imm (.pr (.int .i64) (.int .i64))))), (45, .a (.c (.int .i64))), (46, .a (.c (.int .i64)))]
abbrev g15_L1_O : List (Ex × SS) := [(.exit 2, [(4, .a (.c (.int .i64))), (5, .a (.bx 0 [(.imm (.sl false (.pr (.int .i64) (.int .i64)))), (.nm 1 (.int .i64)), (.nm 2 (.int .i64)), (.nm 3 (.int .i64)), (.nm 4 (.int .i64))])), (24, .a (.c (.imm (.sl false (.pr (.int .i64) (.int .i64)))))), (25, .a (.c (.int .i64))), (26, .a (.c (.int .i64)))])]
def g15_L1_R (m n : Nat) : g15_L1_I.Val → Option (outVal g15_L1_O) := (fun (x : Int × ((List (List (Int × Int))) × List Int × List Int × List Int × List Int × Unit) × Int × (List (List (Int × Int))) × Int × Int × (List (Int × Int)) × Int × Int × Unit) => g15_L1 m n x.1 x.2.1.1 x.2.1.2.1 x.2.1.2.2.1 x.2.1.2.2.2.1 x.2.1.2.2.2.2.1 x.2.2.1 x.2.2.2.1 x.2.2.2.2.1 x.2.2.2.2.2.1 x.2.2.2.2.2.2.1 x.2.2.2.2.2.2.2.1 x.2.2.2.2.2.2.2.2.1)
def g15_L1_T (m n : Nat) : LoopT := ⟨2, g15_L1_I, g15_L1_O, g15_L1_R m n⟩
theorem g15_L1_kr (m n : Nat) (x : g15_L1_I.Val) : roundK (mkC (outVal g15_L1_O) [g25_T m, g26_T m]) (mkLp (outVal g15_L1_O) []) tt 78 g15_H g15_B2 2 (g15_L1_I.enc x) (Kl (ins := g15_L1_I) (outs := g15_L1_O) (g15_L1_R m n)) = g15_L1 m (n + 1) x.1 x.2.1.1 x.2.1.2.1 x.2.1.2.2.1 x.2.1.2.2.2.1 x.2.1.2.2.2.2.1 x.2.2.1 x.2.2.2.1 x.2.2.2.2.1 x.2.2.2.2.2.1 x.2.2.2.2.2.2.1 x.2.2.2.2.2.2.2.1 x.2.2.2.2.2.2.2.2.1 := by kernel_rfl
theorem g15_L1_ok {E : Entry} (hE : EOf Tryd.prog E 78 g15_H.pins) (m : Nat) (n : Nat) : LoopOK Tryd.prog E g15_B2 (g15_L1_T m n) :=
  loop_ok (CO := CallOK Tryd.prog) hmix htt (fun _ _ _ _ h => h) hE (C := fun R => mkC R [g25_T m, g26_T m]) (L := []) (fun _ _ _ _ _ h => mkC_spec (AllF.mem (l := [g25_T m, g26_T m]) ⟨g25_ok m, g26_ok m, trivial⟩) h) (fun _ _ => loopsIn_of g15_B2_ls trivial) (fun n => (g15_L1_R m n)) (fun _ => by kernel_rfl) (fun n x => (g15_L1_kr m n x).trans (by kernel_rfl)) n
abbrev g15_L0_I : SS := [(4, .a (.c (.int .i64))), (5, .a (.bx 0 [(.imm (.sl false (.pr (.int .i64) (.int .i64)))), (.nm 1 (.int .i64)), (.nm 2 (.int .i64)), (.nm 3 (.int .i64)), (.nm 4 (.int .i64))])), (24, .a (.c (.imm (.sl false (.pr (.int .i64) (.int .i64)))))), (25, .a (.c (.int .i64))), (26, .a (.c (.int .i64)))]
abbrev g15_L0_O : List (Ex × SS) := [(.ret, [(2, .a (.c .nilp)), (3, .a (.c (.bconst false)))]), (.exit 0, [(4, .a (.c (.int .i64))), (5, .a (.bx 0 [(.imm (.sl false (.pr (.int .i64) (.int .i64)))), (.nm 1 (.int .i64)), (.nm 2 (.int .i64)), (.nm 3 (.int .i64)), (.nm 4 (.int .i64))]))])]
def g15_L0_R (m n : Nat) : g15_L0_I.Val → Option (outVal g15_L0_O) := (fun (x : Int × ((List (List (Int × Int))) × List Int × List Int × List Int × List Int × Unit) × (List (List (Int × Int))) × Int × Int × Unit) => g15_L0 m n x.1 x.2.1.1 x.2.1.2.1 x.2.1.2.2.1 x.2.1.2.2.2.1 x.2.1.2.2.2.2.1 x.2.2.1 x.2.2.2.1 x.2.2.2.2.1)
def g15_L0_T (m n : Nat) : LoopT := ⟨0, g15_L0_I, g15_L0_O, g15_L0_R m n⟩
theorem g15_L0_kr (m n : Nat) (x : g15_L0_I.Val) : roundK (mkC (outVal g15_L0_O) [g25_T m, g26_T m]) (mkLp (outVal g15_L0_O) [g15_L1_T m m]) tt 78 g15_H g15_B0 0 (g15_L0_I.enc x) (Kl (ins := g15_L0_I) (outs := g15_L0_O) (g15_L0_R m n)) = g15_L0 m (n + 1) x.1 x.2.1.1 x.2.1.2.1 x.2.1.2.2.1 x.2.1.2.2.2.1 x.2.1.2.2.2.2.1 x.2.2.1 x.2.2.2.1 x.2.2.2.2.1 := by kernel_rfl
theorem g15_L0_ok {E : Entry} (hE : EOf Tryd.prog E 78 g15_H.pins) (m : Nat) (n : Nat) : LoopOK Tryd.prog E g15_B0 (g15_L0_T m n) :=
  loop_ok (CO := CallOK Tryd.prog) hmix htt (fun _ _ _ _ h => h) hE (C := fun R => mkC R [g25_T m, g26_T m]) (L := [g15_L1_T m m]) (fun _ _ _ _ _ h => mkC_spec (AllF.mem (l := [g25_T m, g26_T m]) ⟨g25_ok m, g26_ok m, trivial⟩) h) (fun _ _ => loopsIn_of g15_B0_ls ⟨mkLp_all ⟨fun _ => g15_L1_ok hE m m, trivial⟩, trivial⟩) (fun n => (g15_L0_R m n)) (fun _ => by kernel_rfl) (fun n x => (g15_L0_kr m n x).trans (by kernel_rfl)) n
theorem g15_kr (m : Nat) (x : ShLVal g15_A) : fnK (mkC (g15_S.Val × ShLVal g15_U) [g25_T m, g26_T m]) (mkLp (g15_S.Val × ShLVal g15_U) [g15_L0_T m m, g15_L2_T m m]) tt g15_H Tryd.f15 (encS g15_A x) (Kd g15_S g15_U) = g15 m x.1 := by kernel_rfl
theorem g15_ok (m : Nat) : FunOK Tryd.prog (g15_T m) :=
  fun_ok hmix htt (g15_T m) Tryd.func15 (c := g15_C) (by kernel_rfl) (by kernel_rfl) (Lc := [g25_T m, g26_T m]) (AllF.mem (l := [g25_T m, g26_T m]) ⟨g25_ok m, g26_ok m, trivial⟩) (L := [g15_L0_T m m, g15_L2_T m m]) (fun _ hE _ _ => loopsIn_of g15_C_ls ⟨mkLp_all ⟨fun _ => g15_L0_ok hE m m, fun h => absurd (show (4 : Nat) = 0 from h) (by decide), trivial⟩, mkLp_all ⟨fun h => absurd (show (0 : Nat) = 4 from h) (by decide), fun _ => g15_L2_ok hE m m, trivial⟩, trivial⟩) (fun x => (g15_kr m x).trans (by kernel_rfl))
/-! 29 __sparse/transversal.hungarian_.move -/
def g29_H : Hints := { regs := [⟨[], [0, 1, 2, 3, 4, 5]⟩, ⟨[], [0, 1, 2, 3, 4, 5, 18, 19, 20]⟩, ⟨[], [0, 1, 2, 3, 4, 5, 18, 19, 20, 21]⟩, ⟨[], [0, 1, 2, 3, 4, 5, 14, 18, 19, 20]⟩, ⟨[], [0, 1, 2, 3, 4, 5, 14, 18, 19, 20, 27]⟩, ⟨[(3, 1)], [0, 1, 2, 3, 4, 5, 14, 18, 19, 20, 41]⟩, ⟨[], [0, 1, 2, 3, 4, 5, 14, 18, 19, 20]⟩, ⟨[(3, 1), (16, 16)], [0, 1, 2, 3, 4, 5, 14, 18, 19, 20, 62]⟩, ⟨[], [0, 5]⟩, ⟨[], [0, 5, 12]⟩, ⟨[(1, 1)], [0, 1, 2, 3, 4, 5, 18, 19, 20]⟩, ⟨[], [0, 5, 12]⟩], heads := [(0, [0, 1, 2, 3, 4, 5, 18, 19, 20])], exits := [(0, [0, 5]), (1, [0, 1, 2, 3, 4, 5, 18, 19, 20])], rets := [0, 5, 12], pins := [0, 5], spec := [[false]] }
abbrev g29_A : List Sh := [.a (.bx 0 [(.imm (.sl false (.pr (.int .i64) (.int .i64)))), (.nm 1 (.int .i64)), (.nm 2 (.int .i64)), (.nm 3 (.int .i64)), (.nm 4 (.int .i64))]), .a (.c (.imm (.sl false (.int .i64)))), .a (.c (.int .i64)), .a (.c (.int .i64)), .a (.c (.int .i64)), .a (.c (.nm 5 .bool))]
abbrev g29_S : Sh := .a (.c .bool)
abbrev g29_U : List Sh := [.a (.bx 0 [(.imm (.sl false (.pr (.int .i64) (.int .i64)))), (.nm 1 (.int .i64)), (.nm 2 (.int .i64)), (.nm 3 (.int .i64)), (.nm 4 (.int .i64))]), .a (.c .dead), .a (.c .dead), .a (.c .dead), .a (.c .dead), .a (.c (.nm 5 .bool))]
def g29_R (m : Nat) : ShLVal g29_A → Option (g29_S.Val × ShLVal g29_U) := fun (x : ((List (List (Int × Int))) × List Int × List Int × List Int × List Int × Unit) × List (List Int) × Int × Int × Int × List Bool × Unit) => g29 m x.1.1 x.1.2.1 x.1.2.2.1 x.1.2.2.2.1 x.1.2.2.2.2.1 x.2.1 x.2.2.1 x.2.2.2.1 x.2.2.2.2.1 x.2.2.2.2.2.1
def g29_T (m : Nat) : FunT := ⟨29, g29_A, g29_S, g29_U, g29_R m⟩
noncomputable def g29_C : Code := codeOf Tryd.f29
noncomputable def g29_B0 : Code := loopAt g29_C 0 0
theorem g29_B0_ls : loopsL g29_B0 0 = [] := by kernel_rfl
theorem g29_C_ls : loopsL g29_C 0 = [(0, g29_B0)] := by kernel_rfl
abbrev g29_L0_I : SS := [(0, .a (.bx 0 [(.imm (.sl false (.pr (.int .i64) (.int .i64)))), (.nm 1 (.int .i64)), (.nm 2 (.int .i64)), (.nm 3 (.int .i64)), (.nm 4 (.int .i64))])), (1, .a (.c (.imm (.sl false (.int .i64))))), (2, .a (.c (.int .i64))), (3, .a (.c (.int .i64))), (4, .a (.c (.int .i64))), (5, .a (.c (.nm 5 .bool))), (18, .a (.c (.imm (.int .i64)))), (19, .a (.c (.int .i64))), (20, .a (.c (.int .i64)))]
abbrev g29_L0_O : List (Ex × SS) := [(.ret, [(0, .a (.bx 0 [(.imm (.sl false (.pr (.int .i64) (.int .i64)))), (.nm 1 (.int .i64)), (.nm 2 (.int .i64)), (.nm 3 (.int .i64)), (.nm 4 (.int .i64))])), (5, .a (.c (.nm 5 .bool))), (12, .a (.c .bool))]), (.exit 0, [(0, .a (.bx 0 [(.imm (.sl false (.pr (.int .i64) (.int .i64)))), (.nm 1 (.int .i64)), (.nm 2 (.int .i64)), (.nm 3 (.int .i64)), (.nm 4 (.int .i64))])), (5, .a (.c (.nm 5 .bool)))])]
def g29_L0_R (m n : Nat) : g29_L0_I.Val → Option (outVal g29_L0_O) := (fun (x : ((List (List (Int × Int))) × List Int × List Int × List Int × List Int × Unit) × List (List Int) × Int × Int × Int × List Bool × List Int × Int × Int × Unit) => g29_L0 (fun a0 a1 a2 a3 a4 a5 a6 a7 a8 a9 => g29 m a0 a1 a2 a3 a4 a5 a6 a7 a8 a9) m n x.1.1 x.1.2.1 x.1.2.2.1 x.1.2.2.2.1 x.1.2.2.2.2.1 x.2.1 x.2.2.1 x.2.2.2.1 x.2.2.2.2.1 x.2.2.2.2.2.1 x.2.2.2.2.2.2.1 x.2.2.2.2.2.2.2.1 x.2.2.2.2.2.2.2.2.1)
def g29_L0_T (m n : Nat) : LoopT := ⟨0, g29_L0_I, g29_L0_O, g29_L0_R m n⟩
theorem g29_L0_kr (m n : Nat) (x : g29_L0_I.Val) : roundK (mkC (outVal g29_L0_O) [g29_T m]) (mkLp (outVal g29_L0_O) []) tt 78 g29_H g29_B0 0 (g29_L0_I.enc x) (Kl (ins := g29_L0_I) (outs := g29_L0_O) (g29_L0_R m n)) = g29_L0 (fun a0 a1 a2 a3 a4 a5 a6 a7 a8 a9 => g29 m a0 a1 a2 a3 a4 a5 a6 a7 a8 a9) m (n + 1) x.1.1 x.1.2.1 x.1.2.2.1 x.1.2.2.2.1 x.1.2.2.2.2.1 x.2.1 x.2.2.1 x.2.2.2.1 x.2.2.2.2.1 x.2.2.2.2.2.1 x.2.2.2.2.2.2.1 x.2.2.2.2.2.2.2.1 x.2.2.2.2.2.2.2.2.1 := by kernel_rfl
theorem g29_L0_ok {E : Entry} (hE : EOf Tryd.prog E 78 g29_H.pins) (m : Nat) (hself : FunOK Tryd.prog (g29_T m)) (n : Nat) : LoopOK Tryd.prog E g29_B0 (g29_L0_T m n) :=
  loop_ok (CO := CallOK Tryd.prog) hmix htt (fun _ _ _ _ h => h) hE (C := fun R => mkC R [g29_T m]) (L := []) (fun _ _ _ _ _ h => mkC_spec (AllF.mem (l := [g29_T m]) ⟨hself, trivial⟩) h) (fun _ _ => loopsIn_of g29_B0_ls trivial) (fun n => (g29_L0_R m n)) (fun _ => by kernel_rfl) (fun n x => (g29_L0_kr m n x).trans (by kernel_rfl)) n
theorem g29_kr (m : Nat) (x : ShLVal g29_A) : fnK (mkC (g29_S.Val × ShLVal g29_U) [g29_T m]) (mkLp (g29_S.Val × ShLVal g29_U) [g29_L0_T m m]) tt g29_H Tryd.f29 (encS g29_A x) (Kd g29_S g29_U) = g29 (m + 1) x.1.1 x.1.2.1 x.1.2.2.1 x.1.2.2.2.1 x.1.2.2.2.2.1 x.2.1 x.2.2.1 x.2.2.2.1 x.2.2.2.2.1 x.2.2.2.2.2.1 := by kernel_rfl
theorem g29_ok : ∀ m : Nat, FunOK Tryd.prog (g29_T m)
  | 0 => fun _ _ h => by cases h
  | m + 1 => by
    have hself := g29_ok m
    exact fun_ok hmix htt (g29_T (m + 1)) Tryd.func29 (c := g29_C) (by kernel_rfl) (by kernel_rfl) (Lc := [g29_T m]) (AllF.mem (l := [g29_T m]) ⟨hself, trivial⟩) (L := [g29_L0_T m m]) (fun _ hE _ _ => loopsIn_of g29_C_ls ⟨mkLp_all ⟨fun _ => g29_L0_ok hE m hself m, trivial⟩, trivial⟩) (fun x => (g29_kr m x).trans (by kernel_rfl))
/-! 17 __sparse/transversal.hungarian_.least -/
def g17_H : Hints := { regs := [⟨[(5, 4)], [0, 2]⟩, ⟨[], [0, 2, 21, 22, 23]⟩, ⟨[], [0, 2, 21, 22, 23, 24]⟩, ⟨[], [0, 2, 3, 4, 21, 22, 23]⟩, ⟨[(0, 1)], [0, 2, 3, 21, 22, 23, 28, 29, 30]⟩, ⟨[], [0, 2, 3, 21, 22, 23, 28, 29, 30, 31]⟩, ⟨[], [0, 2, 3, 6, 21, 22, 23, 28, 29, 30]⟩, ⟨[], [0, 2, 3, 6, 21, 22, 23, 28, 29, 30, 52]⟩, ⟨[(5, 4), (11, 4)], [0, 2, 3, 21, 22, 23, 28, 29, 30]⟩, ⟨[(1, 1)], [0, 2, 3, 21, 22, 23, 28, 29, 30]⟩, ⟨[(1, 1)], [0, 2, 21, 22, 23]⟩, ⟨[(0, 2)], [0, 2, 67, 68]⟩, ⟨[], [0, 2, 67, 68, 69]⟩, ⟨[], [0, 2, 7, 67, 68]⟩, ⟨[(0, 2)], [0, 2, 7, 67, 68, 74, 75, 76]⟩, ⟨[], [0, 2, 7, 67, 68, 74, 75, 76, 77]⟩, ⟨[], [0, 2, 7, 9, 67, 68, 74, 75, 76]⟩, ⟨[], [0, 2, 7, 9, 67, 68, 74, 75, 76, 88]⟩, ⟨[], [0, 2, 7, 9, 10, 67, 68, 74, 75, 76]⟩, ⟨[], [0, 2, 7, 9, 10, 67, 68, 74, 75, 76, 98]⟩, ⟨[], [0, 2, 7, 9, 10, 11, 67, 68, 74, 75, 76]⟩, ⟨[], [0, 2, 7, 9, 10, 11, 67, 68, 74, 75, 76]⟩, ⟨[(1, 2), (2, 1), (11, 1), (12, 16)], [0, 2, 7, 9, 67, 68, 74, 75, 76, 117]⟩, ⟨[], [0, 2, 67, 68]⟩, ⟨[(1, 1)], [0, 2, 7, 67, 68, 74, 75, 76]⟩, ⟨[(1, 1)], [0, 2, 67, 68]⟩], heads := [(0, [0, 2, 21, 22, 23]), (2, [0, 2, 3, 21, 22, 23, 28, 29, 30]), (4, [0, 2, 67, 68]), (6, [0, 2, 7, 67, 68, 74, 75, 76])], exits := [(0, [0, 2]), (1, [0, 2, 21, 22, 23]), (2, [0, 2, 21, 22, 23]), (3, [0, 2, 3, 21, 22, 23, 28, 29, 30]), (4, [0]), (5, [0, 2, 67, 68]), (6, [0, 2, 67, 68]), (7, [0, 2, 7, 67, 68, 74, 75, 76])], rets := [0], pins := [0], spec := [] }
abbrev g17_A : List Sh := [.a (.bx 0 [(.imm (.sl false (.pr (.int .i64) (.int .i64)))), (.nm 1 (.int .i64)), (.nm 2 (.int .i64)), (.nm 3 (.int .i64)), (.nm 4 (.int .i64))])]
abbrev g17_S : Sh := .tup []
abbrev g17_U : List Sh := [.a (.bx 0 [(.imm (.sl false (.pr (.int .i64) (.int .i64)))), (.nm 1 (.int .i64)), (.nm 2 (.int .i64)), (.nm 3 (.int .i64)), (.nm 4 (.int .i64))])]
def g17_R (m : Nat) : ShLVal g17_A → Option (g17_S.Val × ShLVal g17_U) := fun (x : ((List (List (Int × Int))) × List Int × List Int × List Int × List Int × Unit) × Unit) => g17 m x.1.1 x.1.2.1 x.1.2.2.1 x.1.2.2.2.1 x.1.2.2.2.2.1
def g17_T (m : Nat) : FunT := ⟨17, g17_A, g17_S, g17_U, g17_R m⟩
noncomputable def g17_C : Code := codeOf Tryd.f17
noncomputable def g17_B0 : Code := loopAt g17_C 0 0
noncomputable def g17_B2 : Code := loopAt g17_B0 0 0
theorem g17_B2_ls : loopsL g17_B2 2 = [] := by kernel_rfl
theorem g17_B0_ls : loopsL g17_B0 0 = [(2, g17_B2)] := by kernel_rfl
noncomputable def g17_B4 : Code := loopAt g17_C 0 1
noncomputable def g17_B6 : Code := loopAt g17_B4 4 0
theorem g17_B6_ls : loopsL g17_B6 6 = [] := by kernel_rfl
theorem g17_B4_ls : loopsL g17_B4 4 = [(6, g17_B6)] := by kernel_rfl
theorem g17_C_ls : loopsL g17_C 0 = [(0, g17_B0), (4, g17_B4)] := by kernel_rfl
abbrev g17_L3_I : SS := [(0, .a (.bx 0 [(.imm (.sl false (.pr (.int .i64) (.int .i64)))), (.nm 1 (.int .i64)), (.nm 2 (.int .i64)), (.nm 3 (.int .i64)), (.nm 4 (.int .i64))])), (2, .a (.c (.imm (.sl false (.int .i64))))), (7, .a (.c (.int .i64))), (67, .a (.c (.int .i64))), (68, .a (.c (.int .i64))), (74, .a (.c (.imm (.int .i64)))), (75, .a (.c (.int .i64))), (76, .a (.c (.int .i64)))]
abbrev g17_L3_O : List (Ex × SS) := [(.exit 6, [(0, .a (.bx 0 [(.imm (.sl false (.pr (.int .i64) (.int .i64)))), (.nm 1 (.int .i64)), (.nm 2 (.int .i64)), (.nm 3 (.int .i64)), (.nm 4 (.int .i64))])), (2, .a (.c (.imm (.sl false (.int .i64))))), (67, .a (.c (.int .i64))), (68, .a (.c (.int .i64)))])]
def g17_L3_R (m n : Nat) : g17_L3_I.Val → Option (outVal g17_L3_O) := (fun (x : ((List (List (Int × Int))) × List Int × List Int × List Int × List Int × Unit) × List (List Int) × Int × Int × Int × List Int × Int × Int × Unit) => g17_L3 m n x.1.1 x.1.2.1 x.1.2.2.1 x.1.2.2.2.1 x.1.2.2.2.2.1 x.2.1 x.2.2.1 x.2.2.2.1 x.2.2.2.2.1 x.2.2.2.2.2.1 x.2.2.2.2.2.2.1 x.2.2.2.2.2.2.2.1)
def g17_L3_T (m n : Nat) : LoopT := ⟨6, g17_L3_I, g17_L3_O, g17_L3_R m n⟩
theorem g17_L3_kr (m n : Nat) (x : g17_L3_I.Val) : roundK (mkC (outVal g17_L3_O) [g29_T m]) (mkLp (outVal g17_L3_O) []) tt 134 g17_H g17_B6 6 (g17_L3_I.enc x) (Kl (ins := g17_L3_I) (outs := g17_L3_O) (g17_L3_R m n)) = g17_L3 m (n + 1) x.1.1 x.1.2.1 x.1.2.2.1 x.1.2.2.2.1 x.1.2.2.2.2.1 x.2.1 x.2.2.1 x.2.2.2.1 x.2.2.2.2.1 x.2.2.2.2.2.1 x.2.2.2.2.2.2.1 x.2.2.2.2.2.2.2.1 := by kernel_rfl
theorem g17_L3_ok {E : Entry} (hE : EOf Tryd.prog E 134 g17_H.pins) (m : Nat) (n : Nat) : LoopOK Tryd.prog E g17_B6 (g17_L3_T m n) :=
  loop_ok (CO := CallOK Tryd.prog) hmix htt (fun _ _ _ _ h => h) hE (C := fun R => mkC R [g29_T m]) (L := []) (fun _ _ _ _ _ h => mkC_spec (AllF.mem (l := [g29_T m]) ⟨g29_ok m, trivial⟩) h) (fun _ _ => loopsIn_of g17_B6_ls trivial) (fun n => (g17_L3_R m n)) (fun _ => by kernel_rfl) (fun n x => (g17_L3_kr m n x).trans (by kernel_rfl)) n
abbrev g17_L2_I : SS := [(0, .a (.bx 0 [(.imm (.sl false (.pr (.int .i64) (.int .i64)))), (.nm 1 (.int .i64)), (.nm 2 (.int .i64)), (.nm 3 (.int .i64)), (.nm 4 (.int .i64))])), (2, .a (.c (.imm (.sl false (.int .i64))))), (67, .a (.c (.int .i64))), (68, .a (.c (.int .i64)))]
abbrev g17_L2_O : List (Ex × SS) := [(.exit 4, [(0, .a (.bx 0 [(.imm (.sl false (.pr (.int .i64) (.int .i64)))), (.nm 1 (.int .i64)), (.nm 2 (.int .i64)), (.nm 3 (.int .i64)), (.nm 4 (.int .i64))]))])]
def g17_L2_R (m n : Nat) : g17_L2_I.Val → Option (outVal g17_L2_O) := (fun (x : ((List (List (Int × Int))) × List Int × List Int × List Int × List Int × Unit) × List (List Int) × Int × Int × Unit) => g17_L2 m n x.1.1 x.1.2.1 x.1.2.2.1 x.1.2.2.2.1 x.1.2.2.2.2.1 x.2.1 x.2.2.1 x.2.2.2.1)
def g17_L2_T (m n : Nat) : LoopT := ⟨4, g17_L2_I, g17_L2_O, g17_L2_R m n⟩
theorem g17_L2_kr (m n : Nat) (x : g17_L2_I.Val) : roundK (mkC (outVal g17_L2_O) [g29_T m]) (mkLp (outVal g17_L2_O) [g17_L3_T m m]) tt 134 g17_H g17_B4 4 (g17_L2_I.enc x) (Kl (ins := g17_L2_I) (outs := g17_L2_O) (g17_L2_R m n)) = g17_L2 m (n + 1) x.1.1 x.1.2.1 x.1.2.2.1 x.1.2.2.2.1 x.1.2.2.2.2.1 x.2.1 x.2.2.1 x.2.2.2.1 := by kernel_rfl
theorem g17_L2_ok {E : Entry} (hE : EOf Tryd.prog E 134 g17_H.pins) (m : Nat) (n : Nat) : LoopOK Tryd.prog E g17_B4 (g17_L2_T m n) :=
  loop_ok (CO := CallOK Tryd.prog) hmix htt (fun _ _ _ _ h => h) hE (C := fun R => mkC R [g29_T m]) (L := [g17_L3_T m m]) (fun _ _ _ _ _ h => mkC_spec (AllF.mem (l := [g29_T m]) ⟨g29_ok m, trivial⟩) h) (fun _ _ => loopsIn_of g17_B4_ls ⟨mkLp_all ⟨fun _ => g17_L3_ok hE m m, trivial⟩, trivial⟩) (fun n => (g17_L2_R m n)) (fun _ => by kernel_rfl) (fun n x => (g17_L2_kr m n x).trans (by kernel_rfl)) n
abbrev g17_L1_I : SS := [(0, .a (.bx 0 [(.imm (.sl false (.pr (.int .i64) (.int .i64)))), (.nm 1 (.int .i64)), (.nm 2 (.int .i64)), (.nm 3 (.int .i64)), (.nm 4 (.int .i64))])), (2, .a (.c (.dp 5 (.int .i64)))), (3, .a (.c (.int .i64))), (21, .a (.c (.imm (.sl false (.pr (.int .i64) (.int .i64)))))), (22, .a (.c (.int .i64))), (23, .a (.c (.int .i64))), (28, .a (.c (.imm (.pr (.int .i64) (.int .i64))))), (29, .a (.c (.int .i64))), (30, .a (.c (.int .i64)))]
abbrev g17_L1_O : List (Ex × SS) := [(.exit 2, [(0, .a (.bx 0 [(.imm (.sl false (.pr (.int .i64) (.int .i64)))), (.nm 1 (.int .i64)), (.nm 2 (.int .i64)), (.nm 3 (.int .i64)), (.nm 4 (.int .i64))])), (2, .a (.c (.dp 5 (.int .i64)))), (21, .a (.c (.imm (.sl false (.pr (.int .i64) (.int .i64)))))), (22, .a (.c (.int .i64))), (23, .a (.c (.int .i64)))])]
def g17_L1_R (m n : Nat) : g17_L1_I.Val → Option (outVal g17_L1_O) := (fun (x : ((List (List (Int × Int))) × List Int × List Int × List Int × List Int × Unit) × List (List Int) × Int × (List (List (Int × Int))) × Int × Int × (List (Int × Int)) × Int × Int × Unit) => g17_L1 m n x.1.1 x.1.2.1 x.1.2.2.1 x.1.2.2.2.1 x.1.2.2.2.2.1 x.2.1 x.2.2.1 x.2.2.2.1 x.2.2.2.2.1 x.2.2.2.2.2.1 x.2.2.2.2.2.2.1 x.2.2.2.2.2.2.2.1 x.2.2.2.2.2.2.2.2.1)
def g17_L1_T (m n : Nat) : LoopT := ⟨2, g17_L1_I, g17_L1_O, g17_L1_R m n⟩
theorem g17_L1_kr (m n : Nat) (x : g17_L1_I.Val) : roundK (mkC (outVal g17_L1_O) [g29_T m]) (mkLp (outVal g17_L1_O) []) tt 134 g17_H g17_B2 2 (g17_L1_I.enc x) (Kl (ins := g17_L1_I) (outs := g17_L1_O) (g17_L1_R m n)) = g17_L1 m (n + 1) x.1.1 x.1.2.1 x.1.2.2.1 x.1.2.2.2.1 x.1.2.2.2.2.1 x.2.1 x.2.2.1 x.2.2.2.1 x.2.2.2.2.1 x.2.2.2.2.2.1 x.2.2.2.2.2.2.1 x.2.2.2.2.2.2.2.1 x.2.2.2.2.2.2.2.2.1 := by kernel_rfl
theorem g17_L1_ok {E : Entry} (hE : EOf Tryd.prog E 134 g17_H.pins) (m : Nat) (n : Nat) : LoopOK Tryd.prog E g17_B2 (g17_L1_T m n) :=
  loop_ok (CO := CallOK Tryd.prog) hmix htt (fun _ _ _ _ h => h) hE (C := fun R => mkC R [g29_T m]) (L := []) (fun _ _ _ _ _ h => mkC_spec (AllF.mem (l := [g29_T m]) ⟨g29_ok m, trivial⟩) h) (fun _ _ => loopsIn_of g17_B2_ls trivial) (fun n => (g17_L1_R m n)) (fun _ => by kernel_rfl) (fun n x => (g17_L1_kr m n x).trans (by kernel_rfl)) n
abbrev g17_L0_I : SS := [(0, .a (.bx 0 [(.imm (.sl false (.pr (.int .i64) (.int .i64)))), (.nm 1 (.int .i64)), (.nm 2 (.int .i64)), (.nm 3 (.int .i64)), (.nm 4 (.int .i64))])), (2, .a (.c (.dp 5 (.int .i64)))), (21, .a (.c (.imm (.sl false (.pr (.int .i64) (.int .i64)))))), (22, .a (.c (.int .i64))), (23, .a (.c (.int .i64)))]
abbrev g17_L0_O : List (Ex × SS) := [(.exit 0, [(0, .a (.bx 0 [(.imm (.sl false (.pr (.int .i64) (.int .i64)))), (.nm 1 (.int .i64)), (.nm 2 (.int .i64)), (.nm 3 (.int .i64)), (.nm 4 (.int .i64))])), (2, .a (.c (.dp 5 (.int .i64))))])]
def g17_L0_R (m n : Nat) : g17_L0_I.Val → Option (outVal g17_L0_O) := (fun (x : ((List (List (Int × Int))) × List Int × List Int × List Int × List Int × Unit) × List (List Int) × (List (List (Int × Int))) × Int × Int × Unit) => g17_L0 m n x.1.1 x.1.2.1 x.1.2.2.1 x.1.2.2.2.1 x.1.2.2.2.2.1 x.2.1 x.2.2.1 x.2.2.2.1 x.2.2.2.2.1)
def g17_L0_T (m n : Nat) : LoopT := ⟨0, g17_L0_I, g17_L0_O, g17_L0_R m n⟩
theorem g17_L0_kr (m n : Nat) (x : g17_L0_I.Val) : roundK (mkC (outVal g17_L0_O) [g29_T m]) (mkLp (outVal g17_L0_O) [g17_L1_T m m]) tt 134 g17_H g17_B0 0 (g17_L0_I.enc x) (Kl (ins := g17_L0_I) (outs := g17_L0_O) (g17_L0_R m n)) = g17_L0 m (n + 1) x.1.1 x.1.2.1 x.1.2.2.1 x.1.2.2.2.1 x.1.2.2.2.2.1 x.2.1 x.2.2.1 x.2.2.2.1 x.2.2.2.2.1 := by kernel_rfl
theorem g17_L0_ok {E : Entry} (hE : EOf Tryd.prog E 134 g17_H.pins) (m : Nat) (n : Nat) : LoopOK Tryd.prog E g17_B0 (g17_L0_T m n) :=
  loop_ok (CO := CallOK Tryd.prog) hmix htt (fun _ _ _ _ h => h) hE (C := fun R => mkC R [g29_T m]) (L := [g17_L1_T m m]) (fun _ _ _ _ _ h => mkC_spec (AllF.mem (l := [g29_T m]) ⟨g29_ok m, trivial⟩) h) (fun _ _ => loopsIn_of g17_B0_ls ⟨mkLp_all ⟨fun _ => g17_L1_ok hE m m, trivial⟩, trivial⟩) (fun n => (g17_L0_R m n)) (fun _ => by kernel_rfl) (fun n x => (g17_L0_kr m n x).trans (by kernel_rfl)) n
theorem g17_kr (m : Nat) (x : ShLVal g17_A) : fnK (mkC (g17_S.Val × ShLVal g17_U) [g29_T m]) (mkLp (g17_S.Val × ShLVal g17_U) [g17_L0_T m m, g17_L2_T m m]) tt g17_H Tryd.f17 (encS g17_A x) (Kd g17_S g17_U) = g17 m x.1.1 x.1.2.1 x.1.2.2.1 x.1.2.2.2.1 x.1.2.2.2.2.1 := by kernel_rfl
theorem g17_ok (m : Nat) : FunOK Tryd.prog (g17_T m) :=
  fun_ok hmix htt (g17_T m) Tryd.func17 (c := g17_C) (by kernel_rfl) (by kernel_rfl) (Lc := [g29_T m]) (AllF.mem (l := [g29_T m]) ⟨g29_ok m, trivial⟩) (L := [g17_L0_T m m, g17_L2_T m m]) (fun _ hE _ _ => loopsIn_of g17_C_ls ⟨mkLp_all ⟨fun _ => g17_L0_ok hE m m, fun h => absurd (show (4 : Nat) = 0 from h) (by decide), trivial⟩, mkLp_all ⟨fun h => absurd (show (0 : Nat) = 4 from h) (by decide), fun _ => g17_L2_ok hE m m, trivial⟩, trivial⟩) (fun x => (g17_kr m x).trans (by kernel_rfl))
end Go.Vs.F
