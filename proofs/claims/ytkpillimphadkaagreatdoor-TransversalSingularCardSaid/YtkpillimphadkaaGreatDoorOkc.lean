/- The plain functions are what the code does (by program: gen.py). -/
import Derived.Test.YtkpillimphadkaaGreatDoorOkb

/-! TzOk3 -/
set_option linter.unusedVariables false
set_option maxRecDepth 100000
namespace Go.Vs.F
open Go.Proofs
/-! 55 sparse/sparseref03.rounded -/
def g55_H : Hints := { regs := [⟨[], [0, 2, 3, 4, 6]⟩, ⟨[], [0, 2, 3, 4, 6, 11]⟩, ⟨[], [0, 2, 3, 4, 6, 11, 22]⟩, ⟨[(0, 1), (1, 1)], [10]⟩, ⟨[(0, 1)], [0, 2, 3, 4, 6, 12]⟩, ⟨[], [0, 2, 3, 4, 6, 12, 13]⟩, ⟨[], [0, 2, 3, 4, 6, 12, 13, 31]⟩, ⟨[(3, 1), (5, 1)], [0, 4, 12, 13]⟩, ⟨[(1, 1)], [0, 4, 12, 13]⟩, ⟨[(2, 1)], [0, 4, 12, 14]⟩, ⟨[], [0, 4, 12, 14, 51]⟩, ⟨[], [0, 4, 12, 14]⟩, ⟨[(0, 1)], [0, 4, 12, 14]⟩, ⟨[(2, 1)], [0, 4, 12, 14, 54]⟩, ⟨[(0, 1), (1, 1)], [10]⟩, ⟨[], [0, 12, 14, 65]⟩, ⟨[(0, 1), (1, 1), (5, 1)], [10]⟩, ⟨[(0, 1), (1, 1)], [10]⟩], heads := [], exits := [(0, [0, 14])], rets := [10], pins := [], spec := [[false]] }
abbrev g55_A : List Sh := [.a (.c .bool), .a (.agg [.bool, (.imm (.int .u32))]), .a (.c (.int .i64)), .a (.c .bool), .a (.c (.int .i64))]
abbrev g55_S : Sh := .a (.c (.int .u64))
abbrev g55_U : List Sh := [.a (.c .dead), .a (.c .dead), .a (.c .dead), .a (.c .dead), .a (.c .dead)]
def g55_R (m : Nat) : ShLVal g55_A → Option (g55_S.Val × ShLVal g55_U) := fun (x : Bool × (Bool × List Int × Unit) × Int × Bool × Int × Unit) => g55 m x.1 x.2.1.1 x.2.1.2.1 x.2.2.1 x.2.2.2.1 x.2.2.2.2.1
def g55_T (m : Nat) : FunT := ⟨55, g55_A, g55_S, g55_U, g55_R m⟩
noncomputable def g55_C : Code := codeOf Tryz.f55
theorem g55_C_ls : loopsL g55_C 0 = [] := by kernel_rfl
theorem g55_kr (m : Nat) (x : ShLVal g55_A) : fnK (mkC (g55_S.Val × ShLVal g55_U) [g65_T m, g72_T m, g73_T m, g75_T m, g76_T m, g74_T m]) (mkLp (g55_S.Val × ShLVal g55_U) []) tt g55_H Tryz.f55 (encS g55_A x) (Kd g55_S g55_U) = g55 m x.1 x.2.1.1 x.2.1.2.1 x.2.2.1 x.2.2.2.1 x.2.2.2.2.1 := by kernel_rfl
theorem g55_ok (m : Nat) : FunOK Tryz.prog (g55_T m) :=
  fun_ok hmix htt (g55_T m) Tryz.func55 (c := g55_C) (by kernel_rfl) (by kernel_rfl) (Lc := [g65_T m, g72_T m, g73_T m, g75_T m, g76_T m, g74_T m]) (AllF.mem (l := [g65_T m, g72_T m, g73_T m, g75_T m, g76_T m, g74_T m]) ⟨g65_ok m, g72_ok m, g73_ok m, g75_ok m, g76_ok m, g74_ok m, trivial⟩) (L := []) (fun _ hE _ _ => loopsIn_of g55_C_ls trivial) (fun x => (g55_kr m x).trans (by kernel_rfl))
/-! 33 sparse/sparseref03.Round -/
def g33_H : Hints := { regs := [⟨[], [1, 2]⟩, ⟨[], [1, 2]⟩, ⟨[], [1, 2, 8]⟩, ⟨[], [4]⟩, ⟨[], [1, 2, 12]⟩, ⟨[], [4]⟩, ⟨[(8, 1)], [4]⟩], heads := [], exits := [], rets := [4], pins := [], spec := [[false]] }
abbrev g33_A : List Sh := [.a (.agg [.bool, .bool, (.imm (.int .u32)), (.int .i64)]), .a (.c (.int .i64))]
abbrev g33_S : Sh := .a (.c (.int .u64))
abbrev g33_U : List Sh := [.a (.c .dead), .a (.c .dead)]
def g33_R (m : Nat) : ShLVal g33_A → Option (g33_S.Val × ShLVal g33_U) := fun (x : (Bool × Bool × List Int × Int × Unit) × Int × Unit) => g33 m x.1.1 x.1.2.1 x.1.2.2.1 x.1.2.2.2.1 x.2.1
def g33_T (m : Nat) : FunT := ⟨33, g33_A, g33_S, g33_U, g33_R m⟩
noncomputable def g33_C : Code := codeOf Tryz.f33
theorem g33_C_ls : loopsL g33_C 0 = [] := by kernel_rfl
theorem g33_kr (m : Nat) (x : ShLVal g33_A) : fnK (mkC (g33_S.Val × ShLVal g33_U) [g53_T m, g54_T m, g56_T m, g55_T m]) (mkLp (g33_S.Val × ShLVal g33_U) []) tt g33_H Tryz.f33 (encS g33_A x) (Kd g33_S g33_U) = g33 m x.1.1 x.1.2.1 x.1.2.2.1 x.1.2.2.2.1 x.2.1 := by kernel_rfl
theorem g33_ok (m : Nat) : FunOK Tryz.prog (g33_T m) :=
  fun_ok hmix htt (g33_T m) Tryz.func33 (c := g33_C) (by kernel_rfl) (by kernel_rfl) (Lc := [g53_T m, g54_T m, g56_T m, g55_T m]) (AllF.mem (l := [g53_T m, g54_T m, g56_T m, g55_T m]) ⟨g53_ok m, g54_ok m, g56_ok m, g55_ok m, trivial⟩) (L := []) (fun _ hE _ _ => loopsIn_of g33_C_ls trivial) (fun x => (g33_kr m x).trans (by kernel_rfl))
/-! 19 sparse/sparsemake.Value -/
def g19_H : Hints := { regs := [⟨[], [0]⟩, ⟨[], [0, 3]⟩, ⟨[], [0, 3, 4]⟩, ⟨[(0, 1)], [3, 4, 5]⟩, ⟨[], [3, 4, 5, 15]⟩, ⟨[(0, 1)], [3, 4]⟩, ⟨[(0, 1), (2, 1)], [2]⟩], heads := [], exits := [], rets := [2], pins := [], spec := [[false]] }
abbrev g19_A : List Sh := [.a (.c (.int .i64))]
abbrev g19_S : Sh := .a (.c (.int .u64))
abbrev g19_U : List Sh := [.a (.c .dead)]
def g19_R (m : Nat) : ShLVal g19_A → Option (g19_S.Val × ShLVal g19_U) := fun (x : Int × Unit) => g19 m x.1
def g19_T (m : Nat) : FunT := ⟨19, g19_A, g19_S, g19_U, g19_R m⟩
noncomputable def g19_C : Code := codeOf Tryz.f19
theorem g19_C_ls : loopsL g19_C 0 = [] := by kernel_rfl
theorem g19_kr (m : Nat) (x : ShLVal g19_A) : fnK (mkC (g19_S.Val × ShLVal g19_U) [g6_T m, g35_T m, g34_T m, g33_T m]) (mkLp (g19_S.Val × ShLVal g19_U) []) tt g19_H Tryz.f19 (encS g19_A x) (Kd g19_S g19_U) = g19 m x.1 := by kernel_rfl
theorem g19_ok (m : Nat) : FunOK Tryz.prog (g19_T m) :=
  fun_ok hmix htt (g19_T m) Tryz.func19 (c := g19_C) (by kernel_rfl) (by kernel_rfl) (Lc := [g6_T m, g35_T m, g34_T m, g33_T m]) (AllF.mem (l := [g6_T m, g35_T m, g34_T m, g33_T m]) ⟨g6_ok m, g35_ok m, g34_ok m, g33_ok m, trivial⟩) (L := []) (fun _ hE _ _ => loopsIn_of g19_C_ls trivial) (fun x => (g19_kr m x).trans (by kernel_rfl))
/-! 16 sparse/sparseref09.Pack -/
def g16_H : Hints := { regs := [⟨[], [0, 1, 2, 6]⟩, ⟨[], [0, 1, 2, 6, 7]⟩, ⟨[], [0, 1, 2, 6, 7, 8]⟩, ⟨[], [0, 1, 2, 6, 7, 8, 9]⟩, ⟨[], [0, 1, 2, 6, 7, 8, 9, 24]⟩, ⟨[(0, 1)], [0, 1, 2, 6, 7, 8, 9]⟩, ⟨[], [0, 1, 2, 6, 7, 8, 9]⟩, ⟨[], [0, 1, 2, 6, 7, 8, 10]⟩, ⟨[], [0, 1, 2, 6, 7, 8, 10, 46]⟩, ⟨[(0, 1)], [0, 1, 2, 6, 7, 8, 10]⟩, ⟨[], [0, 1, 2, 6, 7, 8, 10, 11]⟩, ⟨[], [0, 1, 2, 6, 7, 8, 10, 11, 51]⟩, ⟨[(0, 1)], [0, 1, 2, 6, 7, 8, 10, 11]⟩, ⟨[], [0, 1, 2, 6, 7, 8, 10, 11, 12]⟩, ⟨[], [0, 1, 2, 6, 7, 8, 10, 11, 12, 63]⟩, ⟨[(1, 1)], [0, 1, 2, 6, 7, 8, 10, 11, 12]⟩, ⟨[(3, 1), (9, 3)], [0, 1, 2, 6, 7, 8, 10, 11]⟩, ⟨[(1, 1)], [0, 1, 2, 6, 7, 8, 10]⟩, ⟨[(0, 1)], [6]⟩], heads := [(0, [0, 1, 2, 6, 7, 8, 9]), (2, [0, 1, 2, 6, 7, 8, 10]), (4, [0, 1, 2, 6, 7, 8, 10, 11])], exits := [(0, [0, 1, 2, 6, 7, 8]), (1, [0, 1, 2, 6, 7, 8, 9]), (2, [6, 7]), (3, [0, 1, 2, 6, 7, 8, 10]), (4, [0, 1, 2, 6, 7, 8, 10]), (5, [0, 1, 2, 6, 7, 8, 10, 11])], rets := [6], pins := [], spec := [[false, false, true, true, true]] }
abbrev g16_A : List Sh := [.a (.c (.int .i64)), .a (.c (.int .i64)), .a (.c (.imm (.pr (.int .i64) (.pr (.int .i64) (.int .u64)))))]
abbrev g16_S : Sh := .a (.agg [(.int .i64), (.int .i64), (.nm 0 (.int .i64)), (.nm 1 (.int .i64)), (.nm 2 (.int .u64))])
abbrev g16_U : List Sh := [.a (.c .dead), .a (.c .dead), .a (.c .dead)]
def g16_R (m : Nat) : ShLVal g16_A → Option (g16_S.Val × ShLVal g16_U) := fun (x : Int × Int × (List (Int × Int × Int)) × Unit) => g16 m x.1 x.2.1 x.2.2.1
def g16_T (m : Nat) : FunT := ⟨16, g16_A, g16_S, g16_U, g16_R m⟩
noncomputable def g16_C : Code := codeOf Tryz.f16
noncomputable def g16_B0 : Code := loopAt g16_C 0 0
theorem g16_B0_ls : loopsL g16_B0 0 = [] := by kernel_rfl
noncomputable def g16_B2 : Code := loopAt g16_C 0 1
noncomputable def g16_B4 : Code := loopAt g16_B2 2 0
theorem g16_B4_ls : loopsL g16_B4 4 = [] := by kernel_rfl
theorem g16_B2_ls : loopsL g16_B2 2 = [(4, g16_B4)] := by kernel_rfl
theorem g16_C_ls : loopsL g16_C 0 = [(0, g16_B0), (2, g16_B2)] := by kernel_rfl
abbrev g16_L2_I : SS := [(0, .a (.c (.int .i64))), (1, .a (.c (.int .i64))), (2, .a (.c (.imm (.pr (.int .i64) (.pr (.int .i64) (.int .u64)))))), (6, .a (.bx 0 [(.int .i64), (.int .i64), (.nm 1 (.int .i64)), (.nm 2 (.int .i64)), (.nm 3 (.int .u64))])), (7, .a (.bx 4 [(.int .i64), (.int .i64), (.nm 5 (.int .i64)), (.nm 6 (.int .i64)), (.nm 7 (.int .u64))])), (8, .a (.c (.nm 8 (.int .i64)))), (10, .a (.c (.int .i64))), (11, .a (.c (.int .i64)))]
abbrev g16_L2_O : List (Ex × SS) := [(.exit 4, [(0, .a (.c (.int .i64))), (1, .a (.c (.int .i64))), (2, .a (.c (.imm (.pr (.int .i64) (.pr (.int .i64) (.int .u64)))))), (6, .a (.bx 0 [(.int .i64), (.int .i64), (.nm 1 (.int .i64)), (.nm 2 (.int .i64)), (.nm 3 (.int .u64))])), (7, .a (.bx 4 [(.int .i64), (.int .i64), (.nm 5 (.int .i64)), (.nm 6 (.int .i64)), (.nm 7 (.int .u64))])), (8, .a (.c (.nm 8 (.int .i64)))), (10, .a (.c (.int .i64)))])]
def g16_L2_R (m n : Nat) : g16_L2_I.Val → Option (outVal g16_L2_O) := (fun (x : Int × Int × (List (Int × Int × Int)) × (Int × Int × List Int × List Int × List Int × Unit) × (Int × Int × List Int × List Int × List Int × Unit) × List Int × Int × Int × Unit) => g16_L2 m n x.1 x.2.1 x.2.2.1 x.2.2.2.1.1 x.2.2.2.1.2.1 x.2.2.2.1.2.2.1 x.2.2.2.1.2.2.2.1 x.2.2.2.1.2.2.2.2.1 x.2.2.2.2.1.1 x.2.2.2.2.1.2.1 x.2.2.2.2.1.2.2.1 x.2.2.2.2.1.2.2.2.1 x.2.2.2.2.1.2.2.2.2.1 x.2.2.2.2.2.1 x.2.2.2.2.2.2.1 x.2.2.2.2.2.2.2.1)
def g16_L2_T (m n : Nat) : LoopT := ⟨4, g16_L2_I, g16_L2_O, g16_L2_R m n⟩
theorem g16_L2_kr (m n : Nat) (x : g16_L2_I.Val) : roundK (mkC (outVal g16_L2_O) []) (mkLp (outVal g16_L2_O) []) tt 90 g16_H g16_B4 4 (g16_L2_I.enc x) (Kl (ins := g16_L2_I) (outs := g16_L2_O) (g16_L2_R m n)) = g16_L2 m (n + 1) x.1 x.2.1 x.2.2.1 x.2.2.2.1.1 x.2.2.2.1.2.1 x.2.2.2.1.2.2.1 x.2.2.2.1.2.2.2.1 x.2.2.2.1.2.2.2.2.1 x.2.2.2.2.1.1 x.2.2.2.2.1.2.1 x.2.2.2.2.1.2.2.1 x.2.2.2.2.1.2.2.2.1 x.2.2.2.2.1.2.2.2.2.1 x.2.2.2.2.2.1 x.2.2.2.2.2.2.1 x.2.2.2.2.2.2.2.1 := by kernel_rfl
theorem g16_L2_ok {E : Entry} (hE : EOf Tryz.prog E 90 g16_H.pins) (m : Nat) (n : Nat) : LoopOK Tryz.prog E g16_B4 (g16_L2_T m n) :=
  loop_ok (CO := CallOK Tryz.prog) hmix htt (fun _ _ _ _ h => h) hE (C := fun R => mkC R []) (L := []) (fun _ _ _ _ _ h => mkC_spec (AllF.mem (l := []) trivial) h) (fun _ _ => loopsIn_of g16_B4_ls trivial) (fun n => (g16_L2_R m n)) (fun _ => by kernel_rfl) (fun n x => (g16_L2_kr m n x).trans (by kernel_rfl)) n
abbrev g16_L1_I : SS := [(0, .a (.c (.int .i64))), (1, .a (.c (.int .i64))), (2, .a (.c (.imm (.pr (.int .i64) (.pr (.int .i64) (.int .u64)))))), (6, .a (.bx 0 [(.int .i64), (.int .i64), (.nm 1 (.int .i64)), (.nm 2 (.int .i64)), (.nm 3 (.int .u64))])), (7, .a (.bx 4 [(.int .i64), (.int .i64), (.nm 5 (.int .i64)), (.nm 6 (.int .i64)), (.nm 7 (.int .u64))])), (8, .a (.c (.nm 8 (.int .i64)))), (10, .a (.c (.int .i64)))]
abbrev g16_L1_O : List (Ex × SS) := [(.exit 2, [(6, .a (.bx 0 [(.int .i64), (.int .i64), (.nm 1 (.int .i64)), (.nm 2 (.int .i64)), (.nm 3 (.int .u64))])), (7, .a (.bx 4 [(.int .i64), (.int .i64), (.nm 5 (.int .i64)), (.nm 6 (.int .i64)), (.nm 7 (.int .u64))]))])]
def g16_L1_R (m n : Nat) : g16_L1_I.Val → Option (outVal g16_L1_O) := (fun (x : Int × Int × (List (Int × Int × Int)) × (Int × Int × List Int × List Int × List Int × Unit) × (Int × Int × List Int × List Int × List Int × Unit) × List Int × Int × Unit) => g16_L1 m n x.1 x.2.1 x.2.2.1 x.2.2.2.1.1 x.2.2.2.1.2.1 x.2.2.2.1.2.2.1 x.2.2.2.1.2.2.2.1 x.2.2.2.1.2.2.2.2.1 x.2.2.2.2.1.1 x.2.2.2.2.1.2.1 x.2.2.2.2.1.2.2.1 x.2.2.2.2.1.2.2.2.1 x.2.2.2.2.1.2.2.2.2.1 x.2.2.2.2.2.1 x.2.2.2.2.2.2.1)
def g16_L1_T (m n : Nat) : LoopT := ⟨2, g16_L1_I, g16_L1_O, g16_L1_R m n⟩
theorem g16_L1_kr (m n : Nat) (x : g16_L1_I.Val) : roundK (mkC (outVal g16_L1_O) []) (mkLp (outVal g16_L1_O) [g16_L2_T m m]) tt 90 g16_H g16_B2 2 (g16_L1_I.enc x) (Kl (ins := g16_L1_I) (outs := g16_L1_O) (g16_L1_R m n)) = g16_L1 m (n + 1) x.1 x.2.1 x.2.2.1 x.2.2.2.1.1 x.2.2.2.1.2.1 x.2.2.2.1.2.2.1 x.2.2.2.1.2.2.2.1 x.2.2.2.1.2.2.2.2.1 x.2.2.2.2.1.1 x.2.2.2.2.1.2.1 x.2.2.2.2.1.2.2.1 x.2.2.2.2.1.2.2.2.1 x.2.2.2.2.1.2.2.2.2.1 x.2.2.2.2.2.1 x.2.2.2.2.2.2.1 := by kernel_rfl
theorem g16_L1_ok {E : Entry} (hE : EOf Tryz.prog E 90 g16_H.pins) (m : Nat) (n : Nat) : LoopOK Tryz.prog E g16_B2 (g16_L1_T m n) :=
  loop_ok (CO := CallOK Tryz.prog) hmix htt (fun _ _ _ _ h => h) hE (C := fun R => mkC R []) (L := [g16_L2_T m m]) (fun _ _ _ _ _ h => mkC_spec (AllF.mem (l := []) trivial) h) (fun _ _ => loopsIn_of g16_B2_ls ⟨mkLp_all ⟨fun _ => g16_L2_ok hE m m, trivial⟩, trivial⟩) (fun n => (g16_L1_R m n)) (fun _ => by kernel_rfl) (fun n x => (g16_L1_kr m n x).trans (by kernel_rfl)) n
abbrev g16_L0_I : SS := [(0, .a (.c (.int .i64))), (1, .a (.c (.int .i64))), (2, .a (.c (.imm (.pr (.int .i64) (.pr (.int .i64) (.int .u64)))))), (6, .a (.bx 0 [(.int .i64), (.int .i64), (.nm 1 (.int .i64)), (.nm 2 (.int .i64)), (.nm 3 (.int .u64))])), (7, .a (.bx 4 [(.int .i64), (.int .i64), (.nm 5 (.int .i64)), (.nm 6 (.int .i64)), (.nm 7 (.int .u64))])), (8, .a (.c (.nm 8 (.int .i64)))), (9, .a (.c (.int .i64)))]
abbrev g16_L0_O : List (Ex × SS) := [(.exit 0, [(0, .a (.c (.int .i64))), (1, .a (.c (.int .i64))), (2, .a (.c (.imm (.pr (.int .i64) (.pr (.int .i64) (.int .u64)))))), (6, .a (.bx 0 [(.int .i64), (.int .i64), (.nm 1 (.int .i64)), (.nm 2 (.int .i64)), (.nm 3 (.int .u64))])), (7, .a (.bx 4 [(.int .i64), (.int .i64), (.nm 5 (.int .i64)), (.nm 6 (.int .i64)), (.nm 7 (.int .u64))])), (8, .a (.c (.nm 8 (.int .i64))))])]
def g16_L0_R (m n : Nat) : g16_L0_I.Val → Option (outVal g16_L0_O) := (fun (x : Int × Int × (List (Int × Int × Int)) × (Int × Int × List Int × List Int × List Int × Unit) × (Int × Int × List Int × List Int × List Int × Unit) × List Int × Int × Unit) => g16_L0 m n x.1 x.2.1 x.2.2.1 x.2.2.2.1.1 x.2.2.2.1.2.1 x.2.2.2.1.2.2.1 x.2.2.2.1.2.2.2.1 x.2.2.2.1.2.2.2.2.1 x.2.2.2.2.1.1 x.2.2.2.2.1.2.1 x.2.2.2.2.1.2.2.1 x.2.2.2.2.1.2.2.2.1 x.2.2.2.2.1.2.2.2.2.1 x.2.2.2.2.2.1 x.2.2.2.2.2.2.1)
def g16_L0_T (m n : Nat) : LoopT := ⟨0, g16_L0_I, g16_L0_O, g16_L0_R m n⟩
theorem g16_L0_kr (m n : Nat) (x : g16_L0_I.Val) : roundK (mkC (outVal g16_L0_O) []) (mkLp (outVal g16_L0_O) []) tt 90 g16_H g16_B0 0 (g16_L0_I.enc x) (Kl (ins := g16_L0_I) (outs := g16_L0_O) (g16_L0_R m n)) = g16_L0 m (n + 1) x.1 x.2.1 x.2.2.1 x.2.2.2.1.1 x.2.2.2.1.2.1 x.2.2.2.1.2.2.1 x.2.2.2.1.2.2.2.1 x.2.2.2.1.2.2.2.2.1 x.2.2.2.2.1.1 x.2.2.2.2.1.2.1 x.2.2.2.2.1.2.2.1 x.2.2.2.2.1.2.2.2.1 x.2.2.2.2.1.2.2.2.2.1 x.2.2.2.2.2.1 x.2.2.2.2.2.2.1 := by kernel_rfl
theorem g16_L0_ok {E : Entry} (hE : EOf Tryz.prog E 90 g16_H.pins) (m : Nat) (n : Nat) : LoopOK Tryz.prog E g16_B0 (g16_L0_T m n) :=
  loop_ok (CO := CallOK Tryz.prog) hmix htt (fun _ _ _ _ h => h) hE (C := fun R => mkC R []) (L := []) (fun _ _ _ _ _ h => mkC_spec (AllF.mem (l := []) trivial) h) (fun _ _ => loopsIn_of g16_B0_ls trivial) (fun n => (g16_L0_R m n)) (fun _ => by kernel_rfl) (fun n x => (g16_L0_kr m n x).trans (by kernel_rfl)) n
theorem g16_kr (m : Nat) (x : ShLVal g16_A) : fnK (mkC (g16_S.Val × ShLVal g16_U) []) (mkLp (g16_S.Val × ShLVal g16_U) [g16_L0_T m m, g16_L1_T m m]) tt g16_H Tryz.f16 (encS g16_A x) (Kd g16_S g16_U) = g16 m x.1 x.2.1 x.2.2.1 := by kernel_rfl
theorem g16_ok (m : Nat) : FunOK Tryz.prog (g16_T m) :=
  fun_ok hmix htt (g16_T m) Tryz.func16 (c := g16_C) (by kernel_rfl) (by kernel_rfl) (Lc := []) (AllF.mem (l := []) trivial) (L := [g16_L0_T m m, g16_L1_T m m]) (fun _ hE _ _ => loopsIn_of g16_C_ls ⟨mkLp_all ⟨fun _ => g16_L0_ok hE m m, fun h => absurd (show (2 : Nat) = 0 from h) (by decide), trivial⟩, mkLp_all ⟨fun h => absurd (show (0 : Nat) = 2 from h) (by decide), fun _ => g16_L1_ok hE m m, trivial⟩, trivial⟩) (fun x => (g16_kr m x).trans (by kernel_rfl))
/-! 7 sparse/sparsemake.Square -/
/-! 10 sparse/sparsekit.Shuffle -/
/-! 66 sparse/sparseref03.IsFinite -/
def g66_H : Hints := { regs := [⟨[], [0]⟩, ⟨[(0, 1)], [2]⟩], heads := [], exits := [], rets := [2], pins := [], spec := [[false]] }
abbrev g66_A : List Sh := [.a (.c (.int .u64))]
abbrev g66_S : Sh := .a (.c .bool)
abbrev g66_U : List Sh := [.a (.c .dead)]
def g66_R (m : Nat) : ShLVal g66_A → Option (g66_S.Val × ShLVal g66_U) := fun (x : Int × Unit) => g66 m x.1
def g66_T (m : Nat) : FunT := ⟨66, g66_A, g66_S, g66_U, g66_R m⟩
noncomputable def g66_C : Code := codeOf Tryz.f66
theorem g66_C_ls : loopsL g66_C 0 = [] := by kernel_rfl
theorem g66_kr (m : Nat) (x : ShLVal g66_A) : fnK (mkC (g66_S.Val × ShLVal g66_U) []) (mkLp (g66_S.Val × ShLVal g66_U) []) tt g66_H Tryz.f66 (encS g66_A x) (Kd g66_S g66_U) = g66 m x.1 := by kernel_rfl
theorem g66_ok (m : Nat) : FunOK Tryz.prog (g66_T m) :=
  fun_ok hmix htt (g66_T m) Tryz.func66 (c := g66_C) (by kernel_rfl) (by kernel_rfl) (Lc := []) (AllF.mem (l := []) trivial) (L := []) (fun _ hE _ _ => loopsIn_of g66_C_ls trivial) (fun x => (g66_kr m x).trans (by kernel_rfl))
/-! 43 sparse/sparseref06.Finite -/
def g43_H : Hints := { regs := [⟨[], [0]⟩, ⟨[], [0, 3]⟩, ⟨[], [0, 3, 7]⟩, ⟨[(0, 1)], [0, 3]⟩, ⟨[], [0, 3, 15]⟩, ⟨[], [2]⟩, ⟨[], [2]⟩], heads := [(0, [0, 3])], exits := [(0, []), (1, [0, 3])], rets := [2], pins := [], spec := [[false]] }
abbrev g43_A : List Sh := [.a (.c (.imm (.int .u64)))]
abbrev g43_S : Sh := .a (.c .bool)
abbrev g43_U : List Sh := [.a (.c .dead)]
def g43_R (m : Nat) : ShLVal g43_A → Option (g43_S.Val × ShLVal g43_U) := fun (x : List Int × Unit) => g43 m x.1
def g43_T (m : Nat) : FunT := ⟨43, g43_A, g43_S, g43_U, g43_R m⟩
noncomputable def g43_C : Code := codeOf Tryz.f43
noncomputable def g43_B0 : Code := loopAt g43_C 0 0
theorem g43_B0_ls : loopsL g43_B0 0 = [] := by kernel_rfl
theorem g43_C_ls : loopsL g43_C 0 = [(0, g43_B0)] := by kernel_rfl
abbrev g43_L0_I : SS := [(0, .a (.c (.imm (.int .u64)))), (3, .a (.c (.int .i64)))]
abbrev g43_L0_O : List (Ex × SS) := [(.ret, [(2, .a (.c .bool))]), (.exit 0, [])]
def g43_L0_R (m n : Nat) : g43_L0_I.Val → Option (outVal g43_L0_O) := (fun (x : List Int × Int × Unit) => g43_L0 m n x.1 x.2.1)
def g43_L0_T (m n : Nat) : LoopT := ⟨0, g43_L0_I, g43_L0_O, g43_L0_R m n⟩
theorem g43_L0_kr (m n : Nat) (x : g43_L0_I.Val) : roundK (mkC (outVal g43_L0_O) [g66_T m]) (mkLp (outVal g43_L0_O) []) tt 16 g43_H g43_B0 0 (g43_L0_I.enc x) (Kl (ins := g43_L0_I) (outs := g43_L0_O) (g43_L0_R m n)) = g43_L0 m (n + 1) x.1 x.2.1 := by kernel_rfl
theorem g43_L0_ok {E : Entry} (hE : EOf Tryz.prog E 16 g43_H.pins) (m : Nat) (n : Nat) : LoopOK Tryz.prog E g43_B0 (g43_L0_T m n) :=
  loop_ok (CO := CallOK Tryz.prog) hmix htt (fun _ _ _ _ h => h) hE (C := fun R => mkC R [g66_T m]) (L := []) (fun _ _ _ _ _ h => mkC_spec (AllF.mem (l := [g66_T m]) ⟨g66_ok m, trivial⟩) h) (fun _ _ => loopsIn_of g43_B0_ls trivial) (fun n => (g43_L0_R m n)) (fun _ => by kernel_rfl) (fun n x => (g43_L0_kr m n x).trans (by kernel_rfl)) n
theorem g43_kr (m : Nat) (x : ShLVal g43_A) : fnK (mkC (g43_S.Val × ShLVal g43_U) [g66_T m]) (mkLp (g43_S.Val × ShLVal g43_U) [g43_L0_T m m]) tt g43_H Tryz.f43 (encS g43_A x) (Kd g43_S g43_U) = g43 m x.1 := by kernel_rfl
theorem g43_ok (m : Nat) : FunOK Tryz.prog (g43_T m) :=
  fun_ok hmix htt (g43_T m) Tryz.func43 (c := g43_C) (by kernel_rfl) (by kernel_rfl) (Lc := [g66_T m]) (AllF.mem (l := [g66_T m]) ⟨g66_ok m, trivial⟩) (L := [g43_L0_T m m]) (fun _ hE _ _ => loopsIn_of g43_C_ls ⟨mkLp_all ⟨fun _ => g43_L0_ok hE m m, trivial⟩, trivial⟩) (fun x => (g43_kr m x).trans (by kernel_rfl))
/-! 28 sparse/sparseref09.Check -/
def g28_H : Hints := { regs := [⟨[], [1]⟩, ⟨[(3, 1), (8, 1), (13, 1), (18, 1)], [1, 30]⟩, ⟨[], [2]⟩, ⟨[], [1, 3]⟩, ⟨[(5, 1), (14, 1), (21, 1)], [1, 64]⟩, ⟨[], [2]⟩, ⟨[], [1, 4]⟩, ⟨[], [1, 4, 68]⟩, ⟨[(0, 1)], [1, 4]⟩, ⟨[], [1, 4, 82]⟩, ⟨[], [2]⟩, ⟨[], [1, 5]⟩, ⟨[], [1, 5, 86]⟩, ⟨[(0, 1)], [1, 5]⟩, ⟨[], [1, 5, 6]⟩, ⟨[], [1, 5, 6, 101]⟩, ⟨[(0, 1)], [1, 5, 6]⟩, ⟨[(6, 1), (16, 1), (24, 1)], [1, 5, 6, 142]⟩, ⟨[], [2]⟩, ⟨[], [146]⟩, ⟨[], [2]⟩, ⟨[], [2]⟩], heads := [(0, [1, 4]), (2, [1, 5]), (4, [1, 5, 6])], exits := [(0, [1]), (1, [1, 4]), (2, [1]), (3, [1, 5]), (4, [1, 5]), (5, [1, 5, 6])], rets := [2], pins := [], spec := [[false]] }
abbrev g28_A : List Sh := [.a (.agg [(.int .i64), (.int .i64), (.imm (.int .i64)), (.imm (.int .i64)), (.imm (.int .u64))])]
abbrev g28_S : Sh := .a (.c (.int .i64))
abbrev g28_U : List Sh := [.a (.c .dead)]
def g28_R (m : Nat) : ShLVal g28_A → Option (g28_S.Val × ShLVal g28_U) := fun (x : (Int × Int × List Int × List Int × List Int × Unit) × Unit) => g28 m x.1.1 x.1.2.1 x.1.2.2.1 x.1.2.2.2.1 x.1.2.2.2.2.1
def g28_T (m : Nat) : FunT := ⟨28, g28_A, g28_S, g28_U, g28_R m⟩
noncomputable def g28_C : Code := codeOf Tryz.f28
noncomputable def g28_B0 : Code := loopAt g28_C 0 0
theorem g28_B0_ls : loopsL g28_B0 0 = [] := by kernel_rfl
noncomputable def g28_B2 : Code := loopAt g28_C 0 1
noncomputable def g28_B4 : Code := loopAt g28_B2 2 0
theorem g28_B4_ls : loopsL g28_B4 4 = [] := by kernel_rfl
theorem g28_B2_ls : loopsL g28_B2 2 = [(4, g28_B4)] := by kernel_rfl
theorem g28_C_ls : loopsL g28_C 0 = [(0, g28_B0), (2, g28_B2)] := by kernel_rfl
abbrev g28_L2_I : SS := [(1, .a (.bx 0 [(.int .i64), (.int .i64), (.imm (.int .i64)), (.imm (.int .i64)), (.imm (.int .u64))])), (5, .a (.c (.int .i64))), (6, .a (.c (.int .i64)))]
abbrev g28_L2_O : List (Ex × SS) := [(.ret, [(2, .a (.c (.int .i64)))]), (.exit 4, [(1, .a (.bx 0 [(.int .i64), (.int .i64), (.imm (.int .i64)), (.imm (.int .i64)), (.imm (.int .u64))])), (5, .a (.c (.int .i64)))])]
def g28_L2_R (m n : Nat) : g28_L2_I.Val → Option (outVal g28_L2_O) := (fun (x : (Int × Int × List Int × List Int × List Int × Unit) × Int × Int × Unit) => g28_L2 m n x.1.1 x.1.2.1 x.1.2.2.1 x.1.2.2.2.1 x.1.2.2.2.2.1 x.2.1 x.2.2.1)
def g28_L2_T (m n : Nat) : LoopT := ⟨4, g28_L2_I, g28_L2_O, g28_L2_R m n⟩
theorem g28_L2_kr (m n : Nat) (x : g28_L2_I.Val) : roundK (mkC (outVal g28_L2_O) [g43_T m]) (mkLp (outVal g28_L2_O) []) tt 147 g28_H g28_B4 4 (g28_L2_I.enc x) (Kl (ins := g28_L2_I) (outs := g28_L2_O) (g28_L2_R m n)) = g28_L2 m (n + 1) x.1.1 x.1.2.1 x.1.2.2.1 x.1.2.2.2.1 x.1.2.2.2.2.1 x.2.1 x.2.2.1 := by kernel_rfl
theorem g28_L2_ok {E : Entry} (hE : EOf Tryz.prog E 147 g28_H.pins) (m : Nat) (n : Nat) : LoopOK Tryz.prog E g28_B4 (g28_L2_T m n) :=
  loop_ok (CO := CallOK Tryz.prog) hmix htt (fun _ _ _ _ h => h) hE (C := fun R => mkC R [g43_T m]) (L := []) (fun _ _ _ _ _ h => mkC_spec (AllF.mem (l := [g43_T m]) ⟨g43_ok m, trivial⟩) h) (fun _ _ => loopsIn_of g28_B4_ls trivial) (fun n => (g28_L2_R m n)) (fun _ => by kernel_rfl) (fun n x => (g28_L2_kr m n x).trans (by kernel_rfl)) n
abbrev g28_L1_I : SS := [(1, .a (.bx 0 [(.int .i64), (.int .i64), (.imm (.int .i64)), (.imm (.int .i64)), (.imm (.int .u64))])), (5, .a (.c (.int .i64)))]
abbrev g28_L1_O : List (Ex × SS) := [(.ret, [(2, .a (.c (.int .i64)))]), (.exit 2, [(1, .a (.bx 0 [(.int .i64), (.int .i64), (.imm (.int .i64)), (.imm (.int .i64)), (.imm (.int .u64))]))])]
def g28_L1_R (m n : Nat) : g28_L1_I.Val → Option (outVal g28_L1_O) := (fun (x : (Int × Int × List Int × List Int × List Int × Unit) × Int × Unit) => g28_L1 m n x.1.1 x.1.2.1 x.1.2.2.1 x.1.2.2.2.1 x.1.2.2.2.2.1 x.2.1)
def g28_L1_T (m n : Nat) : LoopT := ⟨2, g28_L1_I, g28_L1_O, g28_L1_R m n⟩
theorem g28_L1_kr (m n : Nat) (x : g28_L1_I.Val) : roundK (mkC (outVal g28_L1_O) [g43_T m]) (mkLp (outVal g28_L1_O) [g28_L2_T m m]) tt 147 g28_H g28_B2 2 (g28_L1_I.enc x) (Kl (ins := g28_L1_I) (outs := g28_L1_O) (g28_L1_R m n)) = g28_L1 m (n + 1) x.1.1 x.1.2.1 x.1.2.2.1 x.1.2.2.2.1 x.1.2.2.2.2.1 x.2.1 := by kernel_rfl
theorem g28_L1_ok {E : Entry} (hE : EOf Tryz.prog E 147 g28_H.pins) (m : Nat) (n : Nat) : LoopOK Tryz.prog E g28_B2 (g28_L1_T m n) :=
  loop_ok (CO := CallOK Tryz.prog) hmix htt (fun _ _ _ _ h => h) hE (C := fun R => mkC R [g43_T m]) (L := [g28_L2_T m m]) (fun _ _ _ _ _ h => mkC_spec (AllF.mem (l := [g43_T m]) ⟨g43_ok m, trivial⟩) h) (fun _ _ => loopsIn_of g28_B2_ls ⟨mkLp_all ⟨fun _ => g28_L2_ok hE m m, trivial⟩, trivial⟩) (fun n => (g28_L1_R m n)) (fun _ => by kernel_rfl) (fun n x => (g28_L1_kr m n x).trans (by kernel_rfl)) n
abbrev g28_L0_I : SS := [(1, .a (.bx 0 [(.int .i64), (.int .i64), (.imm (.int .i64)), (.imm (.int .i64)), (.imm (.int .u64))])), (4, .a (.c (.int .i64)))]
abbrev g28_L0_O : List (Ex × SS) := [(.ret, [(2, .a (.c (.int .i64)))]), (.exit 0, [(1, .a (.bx 0 [(.int .i64), (.int .i64), (.imm (.int .i64)), (.imm (.int .i64)), (.imm (.int .u64))]))])]
def g28_L0_R (m n : Nat) : g28_L0_I.Val → Option (outVal g28_L0_O) := (fun (x : (Int × Int × List Int × List Int × List Int × Unit) × Int × Unit) => g28_L0 m n x.1.1 x.1.2.1 x.1.2.2.1 x.1.2.2.2.1 x.1.2.2.2.2.1 x.2.1)
def g28_L0_T (m n : Nat) : LoopT := ⟨0, g28_L0_I, g28_L0_O, g28_L0_R m n⟩
theorem g28_L0_kr (m n : Nat) (x : g28_L0_I.Val) : roundK (mkC (outVal g28_L0_O) [g43_T m]) (mkLp (outVal g28_L0_O) []) tt 147 g28_H g28_B0 0 (g28_L0_I.enc x) (Kl (ins := g28_L0_I) (outs := g28_L0_O) (g28_L0_R m n)) = g28_L0 m (n + 1) x.1.1 x.1.2.1 x.1.2.2.1 x.1.2.2.2.1 x.1.2.2.2.2.1 x.2.1 := by kernel_rfl
theorem g28_L0_ok {E : Entry} (hE : EOf Tryz.prog E 147 g28_H.pins) (m : Nat) (n : Nat) : LoopOK Tryz.prog E g28_B0 (g28_L0_T m n) :=
  loop_ok (CO := CallOK Tryz.prog) hmix htt (fun _ _ _ _ h => h) hE (C := fun R => mkC R [g43_T m]) (L := []) (fun _ _ _ _ _ h => mkC_spec (AllF.mem (l := [g43_T m]) ⟨g43_ok m, trivial⟩) h) (fun _ _ => loopsIn_of g28_B0_ls trivial) (fun n => (g28_L0_R m n)) (fun _ => by kernel_rfl) (fun n x => (g28_L0_kr m n x).trans (by kernel_rfl)) n
theorem g28_kr (m : Nat) (x : ShLVal g28_A) : fnK (mkC (g28_S.Val × ShLVal g28_U) [g43_T m]) (mkLp (g28_S.Val × ShLVal g28_U) [g28_L0_T m m, g28_L1_T m m]) tt g28_H Tryz.f28 (encS g28_A x) (Kd g28_S g28_U) = g28 m x.1.1 x.1.2.1 x.1.2.2.1 x.1.2.2.2.1 x.1.2.2.2.2.1 := by kernel_rfl
theorem g28_ok (m : Nat) : FunOK Tryz.prog (g28_T m) :=
  fun_ok hmix htt (g28_T m) Tryz.func28 (c := g28_C) (by kernel_rfl) (by kernel_rfl) (Lc := [g43_T m]) (AllF.mem (l := [g43_T m]) ⟨g43_ok m, trivial⟩) (L := [g28_L0_T m m, g28_L1_T m m]) (fun _ hE _ _ => loopsIn_of g28_C_ls ⟨mkLp_all ⟨fun _ => g28_L0_ok hE m m, fun h => absurd (show (2 : Nat) = 0 from h) (by decide), trivial⟩, mkLp_all ⟨fun h => absurd (show (0 : Nat) = 2 from h) (by decide), fun _ => g28_L1_ok hE m m, trivial⟩, trivial⟩) (fun x => (g28_kr m x).trans (by kernel_rfl))
/-! 27 sparse/sparseref09.At -/
/-! 14 sparse/sparseref03.Kind -/
def g14_H : Hints := { regs := [⟨[], [0]⟩, ⟨[], [3, 4]⟩, ⟨[(2, 1)], [3, 4, 10]⟩, ⟨[], [2]⟩, ⟨[], [3, 4, 17]⟩, ⟨[], [2]⟩, ⟨[(0, 1), (2, 1), (3, 1)], [20]⟩, ⟨[], [2]⟩, ⟨[], [2]⟩], heads := [], exits := [(0, [])], rets := [2], pins := [], spec := [[false]] }
abbrev g14_A : List Sh := [.a (.c (.int .u64))]
abbrev g14_S : Sh := .a (.c (.int .i64))
abbrev g14_U : List Sh := [.a (.c .dead)]
def g14_R (m : Nat) : ShLVal g14_A → Option (g14_S.Val × ShLVal g14_U) := fun (x : Int × Unit) => g14 m x.1
def g14_T (m : Nat) : FunT := ⟨14, g14_A, g14_S, g14_U, g14_R m⟩
noncomputable def g14_C : Code := codeOf Tryz.f14
theorem g14_C_ls : loopsL g14_C 0 = [] := by kernel_rfl
theorem g14_kr (m : Nat) (x : ShLVal g14_A) : fnK (mkC (g14_S.Val × ShLVal g14_U) []) (mkLp (g14_S.Val × ShLVal g14_U) []) tt g14_H Tryz.f14 (encS g14_A x) (Kd g14_S g14_U) = g14 m x.1 := by kernel_rfl
theorem g14_ok (m : Nat) : FunOK Tryz.prog (g14_T m) :=
  fun_ok hmix htt (g14_T m) Tryz.func14 (c := g14_C) (by kernel_rfl) (by kernel_rfl) (Lc := []) (AllF.mem (l := []) trivial) (L := []) (fun _ hE _ _ => loopsIn_of g14_C_ls trivial) (fun x => (g14_kr m x).trans (by kernel_rfl))
/-! 67 sparse/sparseref03.Minus -/
/-! 42 sparse/sparseref03.Of -/
/-! 41 sparse/sparseref02.Log2 -/
/-! 26 sparse/sparseref03.Exponent -/
/-! 9 sparse/sparselaw14.weight -/
/-! 11 sparse/sparsekit.Perm -/
/-! 3 sparse/sparselaw14.TransversalGreatest -/
/-! 12 sparse/sparsemake.Matrix -/
def g12_H : Hints := { regs := [⟨[], [0, 1, 2, 6]⟩, ⟨[], [0, 1, 2, 6, 7]⟩, ⟨[], [0, 1, 2, 6, 7, 8]⟩, ⟨[(5, 1), (9, 1)], [0, 1, 2, 6, 7, 8, 21]⟩, ⟨[(0, 1)], [0, 1, 2, 6, 7, 8]⟩, ⟨[(0, 1)], [0, 1, 2, 6, 7, 8]⟩, ⟨[(0, 1), (1, 1), (2, 1)], [6]⟩], heads := [(0, [0, 1, 2, 6, 7, 8])], exits := [(0, [0, 1, 6, 7]), (1, [0, 1, 2, 6, 7, 8])], rets := [6], pins := [], spec := [[false, false, true, true, true]] }
abbrev g12_A : List Sh := [.a (.c (.int .i64)), .a (.c (.int .i64)), .a (.c (.imm (.int .i64)))]
abbrev g12_S : Sh := .a (.agg [(.int .i64), (.int .i64), (.nm 0 (.int .i64)), (.nm 1 (.int .i64)), (.nm 2 (.int .u64))])
abbrev g12_U : List Sh := [.a (.c .dead), .a (.c .dead), .a (.c .dead)]
def g12_R (m : Nat) : ShLVal g12_A → Option (g12_S.Val × ShLVal g12_U) := fun (x : Int × Int × List Int × Unit) => g12 m x.1 x.2.1 x.2.2.1
def g12_T (m : Nat) : FunT := ⟨12, g12_A, g12_S, g12_U, g12_R m⟩
noncomputable def g12_C : Code := codeOf Tryz.f12
noncomputable def g12_B0 : Code := loopAt g12_C 0 0
theorem g12_B0_ls : loopsL g12_B0 0 = [] := by kernel_rfl
theorem g12_C_ls : loopsL g12_C 0 = [(0, g12_B0)] := by kernel_rfl
abbrev g12_L0_I : SS := [(0, .a (.c (.int .i64))), (1, .a (.c (.int .i64))), (2, .a (.c (.imm (.int .i64)))), (6, .a (.bx 0 [(.int .i64), (.int .i64), (.nm 1 (.int .i64)), (.nm 2 (.int .i64)), (.nm 3 (.int .u64))])), (7, .a (.c (.nm 4 (.pr (.int .i64) (.pr (.int .i64) (.int .u64)))))), (8, .a (.c (.int .i64)))]
abbrev g12_L0_O : List (Ex × SS) := [(.exit 0, [(0, .a (.c (.int .i64))), (1, .a (.c (.int .i64))), (6, .a (.bx 0 [(.int .i64), (.int .i64), (.nm 1 (.int .i64)), (.nm 2 (.int .i64)), (.nm 3 (.int .u64))])), (7, .a (.c (.nm 4 (.pr (.int .i64) (.pr (.int .i64) (.int .u64))))))])]
def g12_L0_R (m n : Nat) : g12_L0_I.Val → Option (outVal g12_L0_O) := (fun (x : Int × Int × List Int × (Int × Int × List Int × List Int × List Int × Unit) × (List (Int × Int × Int)) × Int × Unit) => g12_L0 m n x.1 x.2.1 x.2.2.1 x.2.2.2.1.1 x.2.2.2.1.2.1 x.2.2.2.1.2.2.1 x.2.2.2.1.2.2.2.1 x.2.2.2.1.2.2.2.2.1 x.2.2.2.2.1 x.2.2.2.2.2.1)
def g12_L0_T (m n : Nat) : LoopT := ⟨0, g12_L0_I, g12_L0_O, g12_L0_R m n⟩
theorem g12_L0_kr (m n : Nat) (x : g12_L0_I.Val) : roundK (mkC (outVal g12_L0_O) [g6_T m, g19_T m, g16_T m]) (mkLp (outVal g12_L0_O) []) tt 51 g12_H g12_B0 0 (g12_L0_I.enc x) (Kl (ins := g12_L0_I) (outs := g12_L0_O) (g12_L0_R m n)) = g12_L0 m (n + 1) x.1 x.2.1 x.2.2.1 x.2.2.2.1.1 x.2.2.2.1.2.1 x.2.2.2.1.2.2.1 x.2.2.2.1.2.2.2.1 x.2.2.2.1.2.2.2.2.1 x.2.2.2.2.1 x.2.2.2.2.2.1 := by kernel_rfl
theorem g12_L0_ok {E : Entry} (hE : EOf Tryz.prog E 51 g12_H.pins) (m : Nat) (n : Nat) : LoopOK Tryz.prog E g12_B0 (g12_L0_T m n) :=
  loop_ok (CO := CallOK Tryz.prog) hmix htt (fun _ _ _ _ h => h) hE (C := fun R => mkC R [g6_T m, g19_T m, g16_T m]) (L := []) (fun _ _ _ _ _ h => mkC_spec (AllF.mem (l := [g6_T m, g19_T m, g16_T m]) ⟨g6_ok m, g19_ok m, g16_ok m, trivial⟩) h) (fun _ _ => loopsIn_of g12_B0_ls trivial) (fun n => (g12_L0_R m n)) (fun _ => by kernel_rfl) (fun n x => (g12_L0_kr m n x).trans (by kernel_rfl)) n
theorem g12_kr (m : Nat) (x : ShLVal g12_A) : fnK (mkC (g12_S.Val × ShLVal g12_U) [g6_T m, g19_T m, g16_T m]) (mkLp (g12_S.Val × ShLVal g12_U) [g12_L0_T m m]) tt g12_H Tryz.f12 (encS g12_A x) (Kd g12_S g12_U) = g12 m x.1 x.2.1 x.2.2.1 := by kernel_rfl
theorem g12_ok (m : Nat) : FunOK Tryz.prog (g12_T m) :=
  fun_ok hmix htt (g12_T m) Tryz.func12 (c := g12_C) (by kernel_rfl) (by kernel_rfl) (Lc := [g6_T m, g19_T m, g16_T m]) (AllF.mem (l := [g6_T m, g19_T m, g16_T m]) ⟨g6_ok m, g19_ok m, g16_ok m, trivial⟩) (L := [g12_L0_T m m]) (fun _ hE _ _ => loopsIn_of g12_C_ls ⟨mkLp_all ⟨fun _ => g12_L0_ok hE m m, trivial⟩, trivial⟩) (fun x => (g12_kr m x).trans (by kernel_rfl))
/-! 13 sparse/sparseref09.Entries -/
def g13_H : Hints := { regs := [⟨[], [1]⟩, ⟨[], [1, 8]⟩, ⟨[], [2]⟩, ⟨[], [1, 3]⟩, ⟨[], [1, 3, 4]⟩, ⟨[], [1, 3, 4, 12]⟩, ⟨[(0, 1)], [1, 3, 4]⟩, ⟨[], [1, 3, 4, 5]⟩, ⟨[], [1, 3, 4, 5, 27]⟩, ⟨[(0, 1)], [1, 3, 4, 5]⟩, ⟨[(0, 1)], [1, 3, 4, 5]⟩, ⟨[(0, 1)], [2]⟩], heads := [(0, [1, 3, 4]), (2, [1, 3, 4, 5])], exits := [(0, [3]), (1, [1, 3, 4]), (2, [1, 3, 4]), (3, [1, 3, 4, 5])], rets := [2], pins := [], spec := [[true]] }
abbrev g13_A : List Sh := [.a (.agg [(.int .i64), (.int .i64), (.imm (.int .i64)), (.imm (.int .i64)), (.imm (.int .u64))])]
abbrev g13_S : Sh := .a (.c (.nm 0 (.pr (.int .i64) (.pr (.int .i64) (.int .u64)))))
abbrev g13_U : List Sh := [.a (.c .dead)]
def g13_R (m : Nat) : ShLVal g13_A → Option (g13_S.Val × ShLVal g13_U) := fun (x : (Int × Int × List Int × List Int × List Int × Unit) × Unit) => g13 m x.1.1 x.1.2.1 x.1.2.2.1 x.1.2.2.2.1 x.1.2.2.2.2.1
def g13_T (m : Nat) : FunT := ⟨13, g13_A, g13_S, g13_U, g13_R m⟩
noncomputable def g13_C : Code := codeOf Tryz.f13
noncomputable def g13_B0 : Code := loopAt g13_C 0 0
noncomputable def g13_B2 : Code := loopAt g13_B0 0 0
theorem g13_B2_ls : loopsL g13_B2 2 = [] := by kernel_rfl
theorem g13_B0_ls : loopsL g13_B0 0 = [(2, g13_B2)] := by kernel_rfl
theorem g13_C_ls : loopsL g13_C 0 = [(0, g13_B0)] := by kernel_rfl
abbrev g13_L1_I : SS := [(1, .a (.bx 0 [(.int .i64), (.int .i64), (.imm (.int .i64)), (.imm (.int .i64)), (.imm (.int .u64))])), (3, .a (.c (.nm 1 (.pr (.int .i64) (.pr (.int .i64) (.int .u64)))))), (4, .a (.c (.int .i64))), (5, .a (.c (.int .i64)))]
abbrev g13_L1_O : List (Ex × SS) := [(.exit 2, [(1, .a (.bx 0 [(.int .i64), (.int .i64), (.imm (.int .i64)), (.imm (.int .i64)), (.imm (.int .u64))])), (3, .a (.c (.nm 1 (.pr (.int .i64) (.pr (.int .i64) (.int .u64)))))), (4, .a (.c (.int .i64)))])]
def g13_L1_R (m n : Nat) : g13_L1_I.Val → Option (outVal g13_L1_O) := (fun (x : (Int × Int × List Int × List Int × List Int × Unit) × (List (Int × Int × Int)) × Int × Int × Unit) => g13_L1 m n x.1.1 x.1.2.1 x.1.2.2.1 x.1.2.2.2.1 x.1.2.2.2.2.1 x.2.1 x.2.2.1 x.2.2.2.1)
def g13_L1_T (m n : Nat) : LoopT := ⟨2, g13_L1_I, g13_L1_O, g13_L1_R m n⟩
theorem g13_L1_kr (m n : Nat) (x : g13_L1_I.Val) : roundK (mkC (outVal g13_L1_O) [g28_T m]) (mkLp (outVal g13_L1_O) []) tt 46 g13_H g13_B2 2 (g13_L1_I.enc x) (Kl (ins := g13_L1_I) (outs := g13_L1_O) (g13_L1_R m n)) = g13_L1 m (n + 1) x.1.1 x.1.2.1 x.1.2.2.1 x.1.2.2.2.1 x.1.2.2.2.2.1 x.2.1 x.2.2.1 x.2.2.2.1 := by kernel_rfl
theorem g13_L1_ok {E : Entry} (hE : EOf Tryz.prog E 46 g13_H.pins) (m : Nat) (n : Nat) : LoopOK Tryz.prog E g13_B2 (g13_L1_T m n) :=
  loop_ok (CO := CallOK Tryz.prog) hmix htt (fun _ _ _ _ h => h) hE (C := fun R => mkC R [g28_T m]) (L := []) (fun _ _ _ _ _ h => mkC_spec (AllF.mem (l := [g28_T m]) ⟨g28_ok m, trivial⟩) h) (fun _ _ => loopsIn_of g13_B2_ls trivial) (fun n => (g13_L1_R m n)) (fun _ => by kernel_rfl) (fun n x => (g13_L1_kr m n x).trans (by kernel_rfl)) n
abbrev g13_L0_I : SS := [(1, .a (.bx 0 [(.int .i64), (.int .i64), (.imm (.int .i64)), (.imm (.int .i64)), (.imm (.int .u64))])), (3, .a (.c (.nm 1 (.pr (.int .i64) (.pr (.int .i64) (.int .u64)))))), (4, .a (.c (.int .i64)))]
abbrev g13_L0_O : List (Ex × SS) := [(.exit 0, [(3, .a (.c (.nm 0 (.pr (.int .i64) (.pr (.int .i64) (.int .u64))))))])]
def g13_L0_R (m n : Nat) : g13_L0_I.Val → Option (outVal g13_L0_O) := (fun (x : (Int × Int × List Int × List Int × List Int × Unit) × (List (Int × Int × Int)) × Int × Unit) => g13_L0 m n x.1.1 x.1.2.1 x.1.2.2.1 x.1.2.2.2.1 x.1.2.2.2.2.1 x.2.1 x.2.2.1)
def g13_L0_T (m n : Nat) : LoopT := ⟨0, g13_L0_I, g13_L0_O, g13_L0_R m n⟩
theorem g13_L0_kr (m n : Nat) (x : g13_L0_I.Val) : roundK (mkC (outVal g13_L0_O) [g28_T m]) (mkLp (outVal g13_L0_O) [g13_L1_T m m]) tt 46 g13_H g13_B0 0 (g13_L0_I.enc x) (Kl (ins := g13_L0_I) (outs := g13_L0_O) (g13_L0_R m n)) = g13_L0 m (n + 1) x.1.1 x.1.2.1 x.1.2.2.1 x.1.2.2.2.1 x.1.2.2.2.2.1 x.2.1 x.2.2.1 := by kernel_rfl
theorem g13_L0_ok {E : Entry} (hE : EOf Tryz.prog E 46 g13_H.pins) (m : Nat) (n : Nat) : LoopOK Tryz.prog E g13_B0 (g13_L0_T m n) :=
  loop_ok (CO := CallOK Tryz.prog) hmix htt (fun _ _ _ _ h => h) hE (C := fun R => mkC R [g28_T m]) (L := [g13_L1_T m m]) (fun _ _ _ _ _ h => mkC_spec (AllF.mem (l := [g28_T m]) ⟨g28_ok m, trivial⟩) h) (fun _ _ => loopsIn_of g13_B0_ls ⟨mkLp_all ⟨fun _ => g13_L1_ok hE m m, trivial⟩, trivial⟩) (fun n => (g13_L0_R m n)) (fun _ => by kernel_rfl) (fun n x => (g13_L0_kr m n x).trans (by kernel_rfl)) n
theorem g13_kr (m : Nat) (x : ShLVal g13_A) : fnK (mkC (g13_S.Val × ShLVal g13_U) [g28_T m]) (mkLp (g13_S.Val × ShLVal g13_U) [g13_L0_T m m]) tt g13_H Tryz.f13 (encS g13_A x) (Kd g13_S g13_U) = g13 m x.1.1 x.1.2.1 x.1.2.2.1 x.1.2.2.2.1 x.1.2.2.2.2.1 := by kernel_rfl
theorem g13_ok (m : Nat) : FunOK Tryz.prog (g13_T m) :=
  fun_ok hmix htt (g13_T m) Tryz.func13 (c := g13_C) (by kernel_rfl) (by kernel_rfl) (Lc := [g28_T m]) (AllF.mem (l := [g28_T m]) ⟨g28_ok m, trivial⟩) (L := [g13_L0_T m m]) (fun _ hE _ _ => loopsIn_of g13_C_ls ⟨mkLp_all ⟨fun _ => g13_L0_ok hE m m, trivial⟩, trivial⟩) (fun x => (g13_kr m x).trans (by kernel_rfl))
/-! 49 sparse/matching.Edges -/
def g49_H : Hints := { regs := [⟨[], [1]⟩, ⟨[], [1, 3]⟩, ⟨[], [1, 3, 9, 10]⟩, ⟨[], [1, 3, 9, 10, 11]⟩, ⟨[], [1, 3, 4, 9, 10]⟩, ⟨[], [1, 3, 9, 10]⟩, ⟨[(1, 1)], [1, 3, 9, 10]⟩, ⟨[(0, 1)], [2]⟩], heads := [(0, [1, 3, 9, 10])], exits := [(0, [3]), (1, [1, 3, 9, 10])], rets := [2], pins := [], spec := [[true]] }
abbrev g49_A : List Sh := [.a (.agg [(.int .i64), (.int .i64), (.imm (.int .i64)), (.imm (.int .i64)), (.imm (.int .u64))])]
abbrev g49_S : Sh := .a (.c (.nm 0 (.sl false (.int .i64))))
abbrev g49_U : List Sh := [.a (.c .dead)]
def g49_R (m : Nat) : ShLVal g49_A → Option (g49_S.Val × ShLVal g49_U) := fun (x : (Int × Int × List Int × List Int × List Int × Unit) × Unit) => g49 m x.1.1 x.1.2.1 x.1.2.2.1 x.1.2.2.2.1 x.1.2.2.2.2.1
def g49_T (m : Nat) : FunT := ⟨49, g49_A, g49_S, g49_U, g49_R m⟩
noncomputable def g49_C : Code := codeOf Tryz.f49
noncomputable def g49_B0 : Code := loopAt g49_C 0 0
theorem g49_B0_ls : loopsL g49_B0 0 = [] := by kernel_rfl
theorem g49_C_ls : loopsL g49_C 0 = [(0, g49_B0)] := by kernel_rfl
abbrev g49_L0_I : SS := [(1, .a (.bx 0 [(.int .i64), (.int .i64), (.imm (.int .i64)), (.imm (.int .i64)), (.imm (.int .u64))])), (3, .a (.c (.nm 1 (.sl false (.int .i64))))), (9, .a (.c (.int .i64))), (10, .a (.c (.int .i64)))]
abbrev g49_L0_O : List (Ex × SS) := [(.exit 0, [(3, .a (.c (.nm 0 (.sl false (.int .i64)))))])]
def g49_L0_R (m n : Nat) : g49_L0_I.Val → Option (outVal g49_L0_O) := (fun (x : (Int × Int × List Int × List Int × List Int × Unit) × List (List Int) × Int × Int × Unit) => g49_L0 m n x.1.1 x.1.2.1 x.1.2.2.1 x.1.2.2.2.1 x.1.2.2.2.2.1 x.2.1 x.2.2.1 x.2.2.2.1)
def g49_L0_T (m n : Nat) : LoopT := ⟨0, g49_L0_I, g49_L0_O, g49_L0_R m n⟩
theorem g49_L0_kr (m n : Nat) (x : g49_L0_I.Val) : roundK (mkC (outVal g49_L0_O) []) (mkLp (outVal g49_L0_O) []) tt 32 g49_H g49_B0 0 (g49_L0_I.enc x) (Kl (ins := g49_L0_I) (outs := g49_L0_O) (g49_L0_R m n)) = g49_L0 m (n + 1) x.1.1 x.1.2.1 x.1.2.2.1 x.1.2.2.2.1 x.1.2.2.2.2.1 x.2.1 x.2.2.1 x.2.2.2.1 := by kernel_rfl
theorem g49_L0_ok {E : Entry} (hE : EOf Tryz.prog E 32 g49_H.pins) (m : Nat) (n : Nat) : LoopOK Tryz.prog E g49_B0 (g49_L0_T m n) :=
  loop_ok (CO := CallOK Tryz.prog) hmix htt (fun _ _ _ _ h => h) hE (C := fun R => mkC R []) (L := []) (fun _ _ _ _ _ h => mkC_spec (AllF.mem (l := []) trivial) h) (fun _ _ => loopsIn_of g49_B0_ls trivial) (fun n => (g49_L0_R m n)) (fun _ => by kernel_rfl) (fun n x => (g49_L0_kr m n x).trans (by kernel_rfl)) n
theorem g49_kr (m : Nat) (x : ShLVal g49_A) : fnK (mkC (g49_S.Val × ShLVal g49_U) []) (mkLp (g49_S.Val × ShLVal g49_U) [g49_L0_T m m]) tt g49_H Tryz.f49 (encS g49_A x) (Kd g49_S g49_U) = g49 m x.1.1 x.1.2.1 x.1.2.2.1 x.1.2.2.2.1 x.1.2.2.2.2.1 := by kernel_rfl
theorem g49_ok (m : Nat) : FunOK Tryz.prog (g49_T m) :=
  fun_ok hmix htt (g49_T m) Tryz.func49 (c := g49_C) (by kernel_rfl) (by kernel_rfl) (Lc := []) (AllF.mem (l := []) trivial) (L := [g49_L0_T m m]) (fun _ hE _ _ => loopsIn_of g49_C_ls ⟨mkLp_all ⟨fun _ => g49_L0_ok hE m m, trivial⟩, trivial⟩) (fun x => (g49_kr m x).trans (by kernel_rfl))
/-! 50 sparse/matching.full -/
def g50_H : Hints := { regs := [⟨[], [0, 1]⟩, ⟨[(0, 1)], [1, 5]⟩, ⟨[], [1, 5, 10, 11]⟩, ⟨[], [1, 5, 10, 11, 12]⟩, ⟨[], [1, 5, 6, 10, 11]⟩, ⟨[(1, 1)], [1, 5, 10, 11]⟩, ⟨[(1, 1)], [1, 5, 10, 11]⟩, ⟨[(0, 1)], [4]⟩], heads := [(0, [1, 5, 10, 11])], exits := [(0, [5]), (1, [1, 5, 10, 11])], rets := [4], pins := [], spec := [[true]] }
abbrev g50_A : List Sh := [.a (.c (.int .i64)), .a (.c (.int .i64))]
abbrev g50_S : Sh := .a (.c (.nm 0 (.int .i64)))
abbrev g50_U : List Sh := [.a (.c .dead), .a (.c .dead)]
def g50_R (m : Nat) : ShLVal g50_A → Option (g50_S.Val × ShLVal g50_U) := fun (x : Int × Int × Unit) => g50 m x.1 x.2.1
def g50_T (m : Nat) : FunT := ⟨50, g50_A, g50_S, g50_U, g50_R m⟩
noncomputable def g50_C : Code := codeOf Tryz.f50
noncomputable def g50_B0 : Code := loopAt g50_C 0 0
theorem g50_B0_ls : loopsL g50_B0 0 = [] := by kernel_rfl
theorem g50_C_ls : loopsL g50_C 0 = [(0, g50_B0)] := by kernel_rfl
abbrev g50_L0_I : SS := [(1, .a (.c (.int .i64))), (5, .a (.c (.nm 0 (.int .i64)))), (10, .a (.c (.int .i64))), (11, .a (.c (.int .i64)))]
abbrev g50_L0_O : List (Ex × SS) := [(.exit 0, [(5, .a (.c (.nm 0 (.int .i64))))])]
def g50_L0_R (m n : Nat) : g50_L0_I.Val → Option (outVal g50_L0_O) := (fun (x : Int × List Int × Int × Int × Unit) => g50_L0 m n x.1 x.2.1 x.2.2.1 x.2.2.2.1)
def g50_L0_T (m n : Nat) : LoopT := ⟨0, g50_L0_I, g50_L0_O, g50_L0_R m n⟩
theorem g50_L0_kr (m n : Nat) (x : g50_L0_I.Val) : roundK (mkC (outVal g50_L0_O) []) (mkLp (outVal g50_L0_O) []) tt 20 g50_H g50_B0 0 (g50_L0_I.enc x) (Kl (ins := g50_L0_I) (outs := g50_L0_O) (g50_L0_R m n)) = g50_L0 m (n + 1) x.1 x.2.1 x.2.2.1 x.2.2.2.1 := by kernel_rfl
theorem g50_L0_ok {E : Entry} (hE : EOf Tryz.prog E 20 g50_H.pins) (m : Nat) (n : Nat) : LoopOK Tryz.prog E g50_B0 (g50_L0_T m n) :=
  loop_ok (CO := CallOK Tryz.prog) hmix htt (fun _ _ _ _ h => h) hE (C := fun R => mkC R []) (L := []) (fun _ _ _ _ _ h => mkC_spec (AllF.mem (l := []) trivial) h) (fun _ _ => loopsIn_of g50_B0_ls trivial) (fun n => (g50_L0_R m n)) (fun _ => by kernel_rfl) (fun n x => (g50_L0_kr m n x).trans (by kernel_rfl)) n
theorem g50_kr (m : Nat) (x : ShLVal g50_A) : fnK (mkC (g50_S.Val × ShLVal g50_U) []) (mkLp (g50_S.Val × ShLVal g50_U) [g50_L0_T m m]) tt g50_H Tryz.f50 (encS g50_A x) (Kd g50_S g50_U) = g50 m x.1 x.2.1 := by kernel_rfl
theorem g50_ok (m : Nat) : FunOK Tryz.prog (g50_T m) :=
  fun_ok hmix htt (g50_T m) Tryz.func50 (c := g50_C) (by kernel_rfl) (by kernel_rfl) (Lc := []) (AllF.mem (l := []) trivial) (L := [g50_L0_T m m]) (fun _ hE _ _ => loopsIn_of g50_C_ls ⟨mkLp_all ⟨fun _ => g50_L0_ok hE m m, trivial⟩, trivial⟩) (fun x => (g50_kr m x).trans (by kernel_rfl))
/-! 51 __sparse/matching.kuhn_.try -/
def g51_H : Hints := { regs := [⟨[], [0, 1]⟩, ⟨[], [0, 1, 13, 14, 15]⟩, ⟨[], [0, 1, 13, 14, 15, 16]⟩, ⟨[], [0, 1, 6, 13, 14, 15]⟩, ⟨[], [0, 1, 6, 13, 14, 15, 25]⟩, ⟨[], [0, 1, 6, 13, 14, 15]⟩, ⟨[(8, 1)], [0, 1, 6, 13, 14, 15, 50]⟩, ⟨[], [0]⟩, ⟨[], [0, 4]⟩, ⟨[(1, 1)], [0, 1, 13, 14, 15]⟩, ⟨[], [0, 4]⟩], heads := [(0, [0, 1, 13, 14, 15])], exits := [(0, [0]), (1, [0, 1, 13, 14, 15])], rets := [0, 4], pins := [0], spec := [[false]] }
abbrev g51_A : List Sh := [.a (.bx 0 [(.nm 1 (.sl false (.int .i64))), (.nm 2 (.int .i64)), (.nm 3 (.int .i64)), (.nm 4 .bool)]), .a (.c (.int .i64))]
abbrev g51_S : Sh := .a (.c .bool)
abbrev g51_U : List Sh := [.a (.bx 0 [(.nm 1 (.sl false (.int .i64))), (.nm 2 (.int .i64)), (.nm 3 (.int .i64)), (.nm 4 .bool)]), .a (.c .dead)]
def g51_R (m : Nat) : ShLVal g51_A → Option (g51_S.Val × ShLVal g51_U) := fun (x : (List (List Int) × List Int × List Int × List Bool × Unit) × Int × Unit) => g51 m x.1.1 x.1.2.1 x.1.2.2.1 x.1.2.2.2.1 x.2.1
def g51_T (m : Nat) : FunT := ⟨51, g51_A, g51_S, g51_U, g51_R m⟩
noncomputable def g51_C : Code := codeOf Tryz.f51
noncomputable def g51_B0 : Code := loopAt g51_C 0 0
theorem g51_B0_ls : loopsL g51_B0 0 = [] := by kernel_rfl
theorem g51_C_ls : loopsL g51_C 0 = [(0, g51_B0)] := by kernel_rfl
abbrev g51_L0_I : SS := [(0, .a (.bx 0 [(.nm 1 (.sl false (.int .i64))), (.nm 2 (.int .i64)), (.nm 3 (.int .i64)), (.nm 4 .bool)])), (1, .a (.c (.int .i64))), (13, .a (.c (.imm (.int .i64)))), (14, .a (.c (.int .i64))), (15, .a (.c (.int .i64)))]
abbrev g51_L0_O : List (Ex × SS) := [(.ret, [(0, .a (.bx 0 [(.nm 1 (.sl false (.int .i64))), (.nm 2 (.int .i64)), (.nm 3 (.int .i64)), (.nm 4 .bool)])), (4, .a (.c .bool))]), (.exit 0, [(0, .a (.bx 0 [(.nm 1 (.sl false (.int .i64))), (.nm 2 (.int .i64)), (.nm 3 (.int .i64)), (.nm 4 .bool)]))])]
def g51_L0_R (m n : Nat) : g51_L0_I.Val → Option (outVal g51_L0_O) := (fun (x : (List (List Int) × List Int × List Int × List Bool × Unit) × Int × List Int × Int × Int × Unit) => g51_L0 (fun a0 a1 a2 a3 a4 => g51 m a0 a1 a2 a3 a4) m n x.1.1 x.1.2.1 x.1.2.2.1 x.1.2.2.2.1 x.2.1 x.2.2.1 x.2.2.2.1 x.2.2.2.2.1)
def g51_L0_T (m n : Nat) : LoopT := ⟨0, g51_L0_I, g51_L0_O, g51_L0_R m n⟩
theorem g51_L0_kr (m n : Nat) (x : g51_L0_I.Val) : roundK (mkC (outVal g51_L0_O) [g51_T m]) (mkLp (outVal g51_L0_O) []) tt 66 g51_H g51_B0 0 (g51_L0_I.enc x) (Kl (ins := g51_L0_I) (outs := g51_L0_O) (g51_L0_R m n)) = g51_L0 (fun a0 a1 a2 a3 a4 => g51 m a0 a1 a2 a3 a4) m (n + 1) x.1.1 x.1.2.1 x.1.2.2.1 x.1.2.2.2.1 x.2.1 x.2.2.1 x.2.2.2.1 x.2.2.2.2.1 := by kernel_rfl
theorem g51_L0_ok {E : Entry} (hE : EOf Tryz.prog E 66 g51_H.pins) (m : Nat) (hself : FunOK Tryz.prog (g51_T m)) (n : Nat) : LoopOK Tryz.prog E g51_B0 (g51_L0_T m n) :=
  loop_ok (CO := CallOK Tryz.prog) hmix htt (fun _ _ _ _ h => h) hE (C := fun R => mkC R [g51_T m]) (L := []) (fun _ _ _ _ _ h => mkC_spec (AllF.mem (l := [g51_T m]) ⟨hself, trivial⟩) h) (fun _ _ => loopsIn_of g51_B0_ls trivial) (fun n => (g51_L0_R m n)) (fun _ => by kernel_rfl) (fun n x => (g51_L0_kr m n x).trans (by kernel_rfl)) n
theorem g51_kr (m : Nat) (x : ShLVal g51_A) : fnK (mkC (g51_S.Val × ShLVal g51_U) [g51_T m]) (mkLp (g51_S.Val × ShLVal g51_U) [g51_L0_T m m]) tt g51_H Tryz.f51 (encS g51_A x) (Kd g51_S g51_U) = g51 (m + 1) x.1.1 x.1.2.1 x.1.2.2.1 x.1.2.2.2.1 x.2.1 := by kernel_rfl
theorem g51_ok : ∀ m : Nat, FunOK Tryz.prog (g51_T m)
  | 0 => fun _ _ h => by cases h
  | m + 1 => by
    have hself := g51_ok m
    exact fun_ok hmix htt (g51_T (m + 1)) Tryz.func51 (c := g51_C) (by kernel_rfl) (by kernel_rfl) (Lc := [g51_T m]) (AllF.mem (l := [g51_T m]) ⟨hself, trivial⟩) (L := [g51_L0_T m m]) (fun _ hE _ _ => loopsIn_of g51_C_ls ⟨mkLp_all ⟨fun _ => g51_L0_ok hE m hself m, trivial⟩, trivial⟩) (fun x => (g51_kr m x).trans (by kernel_rfl))
/-! 30 sparse/matching.matched -/
def g30_H : Hints := { regs := [⟨[], [1]⟩, ⟨[], [1, 3]⟩, ⟨[], [1, 3, 16, 17]⟩, ⟨[], [1, 3, 16, 17, 18]⟩, ⟨[], [1, 3, 4, 16, 17]⟩, ⟨[], [1, 3, 4, 16, 17]⟩, ⟨[(1, 1)], [1, 3, 16, 17]⟩, ⟨[(1, 1)], [1, 3, 16, 17]⟩, ⟨[(0, 1)], [2]⟩], heads := [(0, [1, 3, 16, 17])], exits := [(0, [3]), (1, [1, 3, 16, 17])], rets := [2], pins := [], spec := [[true, true, true, true]] }
abbrev g30_A : List Sh := [.a (.agg [(.int .i64), (.int .i64), (.imm (.int .i64)), (.imm (.int .i64)), (.imm (.int .u64))])]
abbrev g30_S : Sh := .a (.bx 0 [(.nm 1 (.sl false (.int .i64))), (.nm 2 (.int .i64)), (.nm 3 (.int .i64)), (.nm 4 .bool)])
abbrev g30_U : List Sh := [.a (.c .dead)]
def g30_R (m : Nat) : ShLVal g30_A → Option (g30_S.Val × ShLVal g30_U) := fun (x : (Int × Int × List Int × List Int × List Int × Unit) × Unit) => g30 m x.1.1 x.1.2.1 x.1.2.2.1 x.1.2.2.2.1 x.1.2.2.2.2.1
def g30_T (m : Nat) : FunT := ⟨30, g30_A, g30_S, g30_U, g30_R m⟩
noncomputable def g30_C : Code := codeOf Tryz.f30
noncomputable def g30_B0 : Code := loopAt g30_C 0 0
theorem g30_B0_ls : loopsL g30_B0 0 = [] := by kernel_rfl
theorem g30_C_ls : loopsL g30_C 0 = [(0, g30_B0)] := by kernel_rfl
abbrev g30_L0_I : SS := [(1, .a (.bx 0 [(.int .i64), (.int .i64), (.imm (.int .i64)), (.imm (.int .i64)), (.imm (.int .u64))])), (3, .a (.bx 1 [(.nm 2 (.sl false (.int .i64))), (.nm 3 (.int .i64)), (.nm 4 (.int .i64)), (.nm 5 .bool)])), (16, .a (.c (.int .i64))), (17, .a (.c (.int .i64)))]
abbrev g30_L0_O : List (Ex × SS) := [(.exit 0, [(3, .a (.bx 0 [(.nm 1 (.sl false (.int .i64))), (.nm 2 (.int .i64)), (.nm 3 (.int .i64)), (.nm 4 .bool)]))])]
def g30_L0_R (m n : Nat) : g30_L0_I.Val → Option (outVal g30_L0_O) := (fun (x : (Int × Int × List Int × List Int × List Int × Unit) × (List (List Int) × List Int × List Int × List Bool × Unit) × Int × Int × Unit) => g30_L0 m n x.1.1 x.1.2.1 x.1.2.2.1 x.1.2.2.2.1 x.1.2.2.2.2.1 x.2.1.1 x.2.1.2.1 x.2.1.2.2.1 x.2.1.2.2.2.1 x.2.2.1 x.2.2.2.1)
def g30_L0_T (m n : Nat) : LoopT := ⟨0, g30_L0_I, g30_L0_O, g30_L0_R m n⟩
theorem g30_L0_kr (m n : Nat) (x : g30_L0_I.Val) : roundK (mkC (outVal g30_L0_O) [g49_T m, g50_T m, g51_T m]) (mkLp (outVal g30_L0_O) []) tt 31 g30_H g30_B0 0 (g30_L0_I.enc x) (Kl (ins := g30_L0_I) (outs := g30_L0_O) (g30_L0_R m n)) = g30_L0 m (n + 1) x.1.1 x.1.2.1 x.1.2.2.1 x.1.2.2.2.1 x.1.2.2.2.2.1 x.2.1.1 x.2.1.2.1 x.2.1.2.2.1 x.2.1.2.2.2.1 x.2.2.1 x.2.2.2.1 := by kernel_rfl
theorem g30_L0_ok {E : Entry} (hE : EOf Tryz.prog E 31 g30_H.pins) (m : Nat) (n : Nat) : LoopOK Tryz.prog E g30_B0 (g30_L0_T m n) :=
  loop_ok (CO := CallOK Tryz.prog) hmix htt (fun _ _ _ _ h => h) hE (C := fun R => mkC R [g49_T m, g50_T m, g51_T m]) (L := []) (fun _ _ _ _ _ h => mkC_spec (AllF.mem (l := [g49_T m, g50_T m, g51_T m]) ⟨g49_ok m, g50_ok m, g51_ok m, trivial⟩) h) (fun _ _ => loopsIn_of g30_B0_ls trivial) (fun n => (g30_L0_R m n)) (fun _ => by kernel_rfl) (fun n x => (g30_L0_kr m n x).trans (by kernel_rfl)) n
theorem g30_kr (m : Nat) (x : ShLVal g30_A) : fnK (mkC (g30_S.Val × ShLVal g30_U) [g49_T m, g50_T m, g51_T m]) (mkLp (g30_S.Val × ShLVal g30_U) [g30_L0_T m m]) tt g30_H Tryz.f30 (encS g30_A x) (Kd g30_S g30_U) = g30 m x.1.1 x.1.2.1 x.1.2.2.1 x.1.2.2.2.1 x.1.2.2.2.2.1 := by kernel_rfl
theorem g30_ok (m : Nat) : FunOK Tryz.prog (g30_T m) :=
  fun_ok hmix htt (g30_T m) Tryz.func30 (c := g30_C) (by kernel_rfl) (by kernel_rfl) (Lc := [g49_T m, g50_T m, g51_T m]) (AllF.mem (l := [g49_T m, g50_T m, g51_T m]) ⟨g49_ok m, g50_ok m, g51_ok m, trivial⟩) (L := [g30_L0_T m m]) (fun _ hE _ _ => loopsIn_of g30_C_ls ⟨mkLp_all ⟨fun _ => g30_L0_ok hE m m, trivial⟩, trivial⟩) (fun x => (g30_kr m x).trans (by kernel_rfl))
/-! 15 sparse/matching.Maximum -/
def g15_H : Hints := { regs := [⟨[], [1]⟩, ⟨[], [1, 4]⟩, ⟨[], [1, 4, 8]⟩, ⟨[(0, 1)], [2, 3]⟩, ⟨[(4, 1)], [2, 3, 11]⟩], heads := [], exits := [], rets := [2, 3, 11], pins := [], spec := [[true], [false]] }
abbrev g15_A : List Sh := [.a (.agg [(.int .i64), (.int .i64), (.imm (.int .i64)), (.imm (.int .i64)), (.imm (.int .u64))])]
abbrev g15_S : Sh := .tup [(.c (.nm 0 (.int .i64))), (.c (.int .i64))]
abbrev g15_U : List Sh := [.a (.c .dead)]
def g15_R (m : Nat) : ShLVal g15_A → Option (g15_S.Val × ShLVal g15_U) := fun (x : (Int × Int × List Int × List Int × List Int × Unit) × Unit) => g15 m x.1.1 x.1.2.1 x.1.2.2.1 x.1.2.2.2.1 x.1.2.2.2.2.1
def g15_T (m : Nat) : FunT := ⟨15, g15_A, g15_S, g15_U, g15_R m⟩
noncomputable def g15_C : Code := codeOf Tryz.f15
theorem g15_C_ls : loopsL g15_C 0 = [] := by kernel_rfl
theorem g15_kr (m : Nat) (x : ShLVal g15_A) : fnK (mkC (g15_S.Val × ShLVal g15_U) [g29_T m, g30_T m]) (mkLp (g15_S.Val × ShLVal g15_U) []) tt g15_H Tryz.f15 (encS g15_A x) (Kd g15_S g15_U) = g15 m x.1.1 x.1.2.1 x.1.2.2.1 x.1.2.2.2.1 x.1.2.2.2.2.1 := by kernel_rfl
theorem g15_ok (m : Nat) : FunOK Tryz.prog (g15_T m) :=
  fun_ok hmix htt (g15_T m) Tryz.func15 (c := g15_C) (by kernel_rfl) (by kernel_rfl) (Lc := [g29_T m, g30_T m]) (AllF.mem (l := [g29_T m, g30_T m]) ⟨g29_ok m, g30_ok m, trivial⟩) (L := []) (fun _ hE _ _ => loopsIn_of g15_C_ls trivial) (fun x => (g15_kr m x).trans (by kernel_rfl))
/-! 4 sparse/sparselaw14.TransversalSingular -/
def sparselaw14_TransversalSingular_H : Hints := { regs := [⟨[], [0, 1]⟩, ⟨[], [0, 1, 17]⟩, ⟨[], [4]⟩, ⟨[(0, 1)], [0, 1]⟩, ⟨[(2, 1)], [0, 5]⟩, ⟨[], [0, 5, 6]⟩, ⟨[], [0, 5, 6, 7]⟩, ⟨[], [0, 5, 6, 7, 8]⟩, ⟨[], [0, 5, 6, 7, 8, 30]⟩, ⟨[(0, 1)], [0, 5, 6, 7, 8]⟩, ⟨[], [0, 5, 6, 7, 8, 39]⟩, ⟨[(0, 1)], [0, 5, 6, 7, 8]⟩, ⟨[(2, 1), (5, 1)], [0, 5, 9, 10]⟩, ⟨[(2, 1)], [0, 9, 10, 11, 12]⟩, ⟨[], [0, 9, 10, 11, 12, 13]⟩, ⟨[], [0, 9, 10, 11, 12, 13, 14]⟩, ⟨[], [0, 9, 10, 11, 12, 13, 14, 63]⟩, ⟨[(0, 1)], [0, 9, 10, 11, 12, 13, 14]⟩, ⟨[(0, 1), (1, 1)], [0, 9, 10, 11, 12, 13, 14]⟩, ⟨[(0, 1)], [0, 10, 11, 12, 75]⟩, ⟨[(0, 1), (2, 1), (3, 1), (6, 1), (12, 1)], [4]⟩, ⟨[(0, 1), (2, 1), (3, 1), (6, 1), (10, 1), (13, 1)], [4]⟩], heads := [(0, [0, 5, 6, 7, 8]), (2, [0, 9, 10, 11, 12, 13, 14])], exits := [(0, [0, 5, 6]), (1, [0, 5, 6, 7, 8]), (2, [0, 10, 11, 12, 13]), (3, [0, 9, 10, 11, 12, 13, 14])], rets := [4], pins := [], spec := [[false]] }
abbrev sparselaw14_TransversalSingular_A : List Sh := [.a (.c (.int .i64)), .a (.c (.imm (.int .i64)))]
abbrev sparselaw14_TransversalSingular_S : Sh := .a (.c .bool)
abbrev sparselaw14_TransversalSingular_U : List Sh := [.a (.c .dead), .a (.c .dead)]
def sparselaw14_TransversalSingular_R (m : Nat) : ShLVal sparselaw14_TransversalSingular_A → Option (sparselaw14_TransversalSingular_S.Val × ShLVal sparselaw14_TransversalSingular_U) := fun (x : Int × List Int × Unit) => sparselaw14_TransversalSingular m x.1 x.2.1
def sparselaw14_TransversalSingular_T (m : Nat) : FunT := ⟨4, sparselaw14_TransversalSingular_A, sparselaw14_TransversalSingular_S, sparselaw14_TransversalSingular_U, sparselaw14_TransversalSingular_R m⟩
noncomputable def sparselaw14_TransversalSingular_C : Code := codeOf Tryz.f4
noncomputable def sparselaw14_TransversalSingular_B0 : Code := loopAt sparselaw14_TransversalSingular_C 0 0
theorem sparselaw14_TransversalSingular_B0_ls : loopsL sparselaw14_TransversalSingular_B0 0 = [] := by kernel_rfl
noncomputable def sparselaw14_TransversalSingular_B2 : Code := loopAt sparselaw14_TransversalSingular_C 0 1
theorem sparselaw14_TransversalSingular_B2_ls : loopsL sparselaw14_TransversalSingular_B2 2 = [] := by kernel_rfl
theorem sparselaw14_TransversalSingular_C_ls : loopsL sparselaw14_TransversalSingular_C 0 = [(0, sparselaw14_TransversalSingular_B0), (2, sparselaw14_TransversalSingular_B2)] := by kernel_rfl
abbrev sparselaw14_TransversalSingular_L1_I : SS := [(0, .a (.c (.int .i64))), (9, .a (.c (.nm 0 (.int .i64)))), (10, .a (.c (.int .i64))), (11, .a (.bx 1 [(.nm 2 (.int .i64)), (.nm 3 (.int .i64)), (.nm 4 (.int .i64))])), (12, .a (.c (.int .i64))), (13, .a (.c .bool)), (14, .a (.c (.int .i64)))]
abbrev sparselaw14_TransversalSingular_L1_O : List (Ex × SS) := [(.exit 2, [(0, .a (.c (.int .i64))), (10, .a (.c (.int .i64))), (11, .a (.bx 0 [(.nm 1 (.int .i64)), (.nm 2 (.int .i64)), (.nm 3 (.int .i64))])), (12, .a (.c (.int .i64))), (13, .a (.c .bool))])]
def sparselaw14_TransversalSingular_L1_R (m n : Nat) : sparselaw14_TransversalSingular_L1_I.Val → Option (outVal sparselaw14_TransversalSingular_L1_O) := (fun (x : Int × List Int × Int × (List Int × List Int × List Int × Unit) × Int × Bool × Int × Unit) => sparselaw14_TransversalSingular_L1 m n x.1 x.2.1 x.2.2.1 x.2.2.2.1.1 x.2.2.2.1.2.1 x.2.2.2.1.2.2.1 x.2.2.2.2.1 x.2.2.2.2.2.1 x.2.2.2.2.2.2.1)
def sparselaw14_TransversalSingular_L1_T (m n : Nat) : LoopT := ⟨2, sparselaw14_TransversalSingular_L1_I, sparselaw14_TransversalSingular_L1_O, sparselaw14_TransversalSingular_L1_R m n⟩
theorem sparselaw14_TransversalSingular_L1_kr (m n : Nat) (x : sparselaw14_TransversalSingular_L1_I.Val) : roundK (mkC (outVal sparselaw14_TransversalSingular_L1_O) [sparselaw14_awake_T m, g6_T m, g12_T m, g13_T m, g14_T m, g16_T m, g15_T m, g8_T m]) (mkLp (outVal sparselaw14_TransversalSingular_L1_O) []) tt 107 sparselaw14_TransversalSingular_H sparselaw14_TransversalSingular_B2 2 (sparselaw14_TransversalSingular_L1_I.enc x) (Kl (ins := sparselaw14_TransversalSingular_L1_I) (outs := sparselaw14_TransversalSingular_L1_O) (sparselaw14_TransversalSingular_L1_R m n)) = sparselaw14_TransversalSingular_L1 m (n + 1) x.1 x.2.1 x.2.2.1 x.2.2.2.1.1 x.2.2.2.1.2.1 x.2.2.2.1.2.2.1 x.2.2.2.2.1 x.2.2.2.2.2.1 x.2.2.2.2.2.2.1 := by kernel_rfl
theorem sparselaw14_TransversalSingular_L1_ok {E : Entry} (hE : EOf Tryz.prog E 107 sparselaw14_TransversalSingular_H.pins) (m : Nat) (n : Nat) : LoopOK Tryz.prog E sparselaw14_TransversalSingular_B2 (sparselaw14_TransversalSingular_L1_T m n) :=
  loop_ok (CO := CallOK Tryz.prog) hmix htt (fun _ _ _ _ h => h) hE (C := fun R => mkC R [sparselaw14_awake_T m, g6_T m, g12_T m, g13_T m, g14_T m, g16_T m, g15_T m, g8_T m]) (L := []) (fun _ _ _ _ _ h => mkC_spec (AllF.mem (l := [sparselaw14_awake_T m, g6_T m, g12_T m, g13_T m, g14_T m, g16_T m, g15_T m, g8_T m]) ⟨sparselaw14_awake_ok m, g6_ok m, g12_ok m, g13_ok m, g14_ok m, g16_ok m, g15_ok m, g8_ok m, trivial⟩) h) (fun _ _ => loopsIn_of sparselaw14_TransversalSingular_B2_ls trivial) (fun n => (sparselaw14_TransversalSingular_L1_R m n)) (fun _ => by kernel_rfl) (fun n x => (sparselaw14_TransversalSingular_L1_kr m n x).trans (by kernel_rfl)) n
abbrev sparselaw14_TransversalSingular_L0_I : SS := [(0, .a (.c (.int .i64))), (5, .a (.bx 0 [(.int .i64), (.int .i64), (.nm 1 (.int .i64)), (.nm 2 (.int .i64)), (.nm 3 (.int .u64))])), (6, .a (.c (.nm 4 (.pr (.int .i64) (.pr (.int .i64) (.int .u64)))))), (7, .a (.c (.nm 5 (.pr (.int .i64) (.pr (.int .i64) (.int .u64)))))), (8, .a (.c (.int .i64)))]
abbrev sparselaw14_TransversalSingular_L0_O : List (Ex × SS) := [(.exit 0, [(0, .a (.c (.int .i64))), (5, .a (.bx 0 [(.int .i64), (.int .i64), (.nm 1 (.int .i64)), (.nm 2 (.int .i64)), (.nm 3 (.int .u64))])), (6, .a (.c (.nm 4 (.pr (.int .i64) (.pr (.int .i64) (.int .u64))))))])]
def sparselaw14_TransversalSingular_L0_R (m n : Nat) : sparselaw14_TransversalSingular_L0_I.Val → Option (outVal sparselaw14_TransversalSingular_L0_O) := (fun (x : Int × (Int × Int × List Int × List Int × List Int × Unit) × (List (Int × Int × Int)) × (List (Int × Int × Int)) × Int × Unit) => sparselaw14_TransversalSingular_L0 m n x.1 x.2.1.1 x.2.1.2.1 x.2.1.2.2.1 x.2.1.2.2.2.1 x.2.1.2.2.2.2.1 x.2.2.1 x.2.2.2.1 x.2.2.2.2.1)
def sparselaw14_TransversalSingular_L0_T (m n : Nat) : LoopT := ⟨0, sparselaw14_TransversalSingular_L0_I, sparselaw14_TransversalSingular_L0_O, sparselaw14_TransversalSingular_L0_R m n⟩
theorem sparselaw14_TransversalSingular_L0_kr (m n : Nat) (x : sparselaw14_TransversalSingular_L0_I.Val) : roundK (mkC (outVal sparselaw14_TransversalSingular_L0_O) [sparselaw14_awake_T m, g6_T m, g12_T m, g13_T m, g14_T m, g16_T m, g15_T m, g8_T m]) (mkLp (outVal sparselaw14_TransversalSingular_L0_O) []) tt 107 sparselaw14_TransversalSingular_H sparselaw14_TransversalSingular_B0 0 (sparselaw14_TransversalSingular_L0_I.enc x) (Kl (ins := sparselaw14_TransversalSingular_L0_I) (outs := sparselaw14_TransversalSingular_L0_O) (sparselaw14_TransversalSingular_L0_R m n)) = sparselaw14_TransversalSingular_L0 m (n + 1) x.1 x.2.1.1 x.2.1.2.1 x.2.1.2.2.1 x.2.1.2.2.2.1 x.2.1.2.2.2.2.1 x.2.2.1 x.2.2.2.1 x.2.2.2.2.1 := by kernel_rfl
theorem sparselaw14_TransversalSingular_L0_ok {E : Entry} (hE : EOf Tryz.prog E 107 sparselaw14_TransversalSingular_H.pins) (m : Nat) (n : Nat) : LoopOK Tryz.prog E sparselaw14_TransversalSingular_B0 (sparselaw14_TransversalSingular_L0_T m n) :=
  loop_ok (CO := CallOK Tryz.prog) hmix htt (fun _ _ _ _ h => h) hE (C := fun R => mkC R [sparselaw14_awake_T m, g6_T m, g12_T m, g13_T m, g14_T m, g16_T m, g15_T m, g8_T m]) (L := []) (fun _ _ _ _ _ h => mkC_spec (AllF.mem (l := [sparselaw14_awake_T m, g6_T m, g12_T m, g13_T m, g14_T m, g16_T m, g15_T m, g8_T m]) ⟨sparselaw14_awake_ok m, g6_ok m, g12_ok m, g13_ok m, g14_ok m, g16_ok m, g15_ok m, g8_ok m, trivial⟩) h) (fun _ _ => loopsIn_of sparselaw14_TransversalSingular_B0_ls trivial) (fun n => (sparselaw14_TransversalSingular_L0_R m n)) (fun _ => by kernel_rfl) (fun n x => (sparselaw14_TransversalSingular_L0_kr m n x).trans (by kernel_rfl)) n
theorem sparselaw14_TransversalSingular_kr (m : Nat) (x : ShLVal sparselaw14_TransversalSingular_A) : fnK (mkC (sparselaw14_TransversalSingular_S.Val × ShLVal sparselaw14_TransversalSingular_U) [sparselaw14_awake_T m, g6_T m, g12_T m, g13_T m, g14_T m, g16_T m, g15_T m, g8_T m]) (mkLp (sparselaw14_TransversalSingular_S.Val × ShLVal sparselaw14_TransversalSingular_U) [sparselaw14_TransversalSingular_L0_T m m, sparselaw14_TransversalSingular_L1_T m m]) tt sparselaw14_TransversalSingular_H Tryz.f4 (encS sparselaw14_TransversalSingular_A x) (Kd sparselaw14_TransversalSingular_S sparselaw14_TransversalSingular_U) = sparselaw14_TransversalSingular m x.1 x.2.1 := by kernel_rfl
theorem sparselaw14_TransversalSingular_ok (m : Nat) : FunOK Tryz.prog (sparselaw14_TransversalSingular_T m) :=
  fun_ok hmix htt (sparselaw14_TransversalSingular_T m) Tryz.func4 (c := sparselaw14_TransversalSingular_C) (by kernel_rfl) (by kernel_rfl) (Lc := [sparselaw14_awake_T m, g6_T m, g12_T m, g13_T m, g14_T m, g16_T m, g15_T m, g8_T m]) (AllF.mem (l := [sparselaw14_awake_T m, g6_T m, g12_T m, g13_T m, g14_T m, g16_T m, g15_T m, g8_T m]) ⟨sparselaw14_awake_ok m, g6_ok m, g12_ok m, g13_ok m, g14_ok m, g16_ok m, g15_ok m, g8_ok m, trivial⟩) (L := [sparselaw14_TransversalSingular_L0_T m m, sparselaw14_TransversalSingular_L1_T m m]) (fun _ hE _ _ => loopsIn_of sparselaw14_TransversalSingular_C_ls ⟨mkLp_all ⟨fun _ => sparselaw14_TransversalSingular_L0_ok hE m m, fun h => absurd (show (2 : Nat) = 0 from h) (by decide), trivial⟩, mkLp_all ⟨fun h => absurd (show (0 : Nat) = 2 from h) (by decide), fun _ => sparselaw14_TransversalSingular_L1_ok hE m m, trivial⟩, trivial⟩) (fun x => (sparselaw14_TransversalSingular_kr m x).trans (by kernel_rfl))
end Go.Vs.F
