/- The plain functions are what the code does (by program: gen.py). -/
import Derived.Test.YtajikfmcbmhclaaGreatDoorOkc

/-! MwOk4 -/
set_option linter.unusedVariables false
set_option maxRecDepth 100000
namespace Go.Vs.F
open Go.Proofs
/-! 44 sparse/sparsekit.Perm -/
def g44_H : Hints := { regs := [⟨[], [0, 1]⟩, ⟨[], [0, 1, 10]⟩, ⟨[], [4]⟩, ⟨[], [0, 1, 5]⟩, ⟨[], [0, 1, 5, 6]⟩, ⟨[], [0, 1, 5, 6, 15]⟩, ⟨[(0, 1)], [0, 1, 5, 6]⟩, ⟨[(5, 1), (13, 1)], [0, 1, 5, 6, 39]⟩, ⟨[], [4]⟩, ⟨[], [0, 1, 5, 6]⟩, ⟨[], [4]⟩], heads := [(0, [0, 1, 5, 6])], exits := [(0, []), (1, [0, 1, 5, 6])], rets := [4], pins := [], spec := [[false]] }
abbrev g44_A : List Sh := [.a (.c (.imm (.int .i64))), .a (.c (.int .i64))]
abbrev g44_S : Sh := .a (.c .bool)
abbrev g44_U : List Sh := [.a (.c .dead), .a (.c .dead)]
def g44_R (m : Nat) : ShLVal g44_A → Option (g44_S.Val × ShLVal g44_U) := fun (x : List Int × Int × Unit) => g44 m x.1 x.2.1
def g44_T (m : Nat) : FunT := ⟨44, g44_A, g44_S, g44_U, g44_R m⟩
noncomputable def g44_C : Code := codeOf Tryz.f44
noncomputable def g44_B0 : Code := loopAt g44_C 0 0
theorem g44_B0_ls : loopsL g44_B0 0 = [] := by kernel_rfl
theorem g44_C_ls : loopsL g44_C 0 = [(0, g44_B0)] := by kernel_rfl
abbrev g44_L0_I : SS := [(0, .a (.c (.imm (.int .i64)))), (1, .a (.c (.int .i64))), (5, .a (.c (.nm 0 .bool))), (6, .a (.c (.int .i64)))]
abbrev g44_L0_O : List (Ex × SS) := [(.ret, [(4, .a (.c .bool))]), (.exit 0, [])]
def g44_L0_R (m n : Nat) : g44_L0_I.Val → Option (outVal g44_L0_O) := (fun (x : List Int × Int × List Bool × Int × Unit) => g44_L0 m n x.1 x.2.1 x.2.2.1 x.2.2.2.1)
def g44_L0_T (m n : Nat) : LoopT := ⟨0, g44_L0_I, g44_L0_O, g44_L0_R m n⟩
theorem g44_L0_kr (m n : Nat) (x : g44_L0_I.Val) : roundK (mkC (outVal g44_L0_O) []) (mkLp (outVal g44_L0_O) []) tt 46 g44_H g44_B0 0 (g44_L0_I.enc x) (Kl (ins := g44_L0_I) (outs := g44_L0_O) (g44_L0_R m n)) = g44_L0 m (n + 1) x.1 x.2.1 x.2.2.1 x.2.2.2.1 := by kernel_rfl
theorem g44_L0_ok {E : Entry} (hE : EOf Tryz.prog E 46 g44_H.pins) (m : Nat) (n : Nat) : LoopOK Tryz.prog E g44_B0 (g44_L0_T m n) :=
  loop_ok (CO := CallOK Tryz.prog) hmix htt (fun _ _ _ _ h => h) hE (C := fun R => mkC R []) (L := []) (fun _ _ _ _ _ h => mkC_spec (AllF.mem (l := []) trivial) h) (fun _ _ => loopsIn_of g44_B0_ls trivial) (fun n => (g44_L0_R m n)) (fun _ => by kernel_rfl) (fun n x => (g44_L0_kr m n x).trans (by kernel_rfl)) n
theorem g44_kr (m : Nat) (x : ShLVal g44_A) : fnK (mkC (g44_S.Val × ShLVal g44_U) []) (mkLp (g44_S.Val × ShLVal g44_U) [g44_L0_T m m]) tt g44_H Tryz.f44 (encS g44_A x) (Kd g44_S g44_U) = g44 m x.1 x.2.1 := by kernel_rfl
theorem g44_ok (m : Nat) : FunOK Tryz.prog (g44_T m) :=
  fun_ok hmix htt (g44_T m) Tryz.func44 (c := g44_C) (by kernel_rfl) (by kernel_rfl) (Lc := []) (AllF.mem (l := []) trivial) (L := [g44_L0_T m m]) (fun _ hE _ _ => loopsIn_of g44_C_ls ⟨mkLp_all ⟨fun _ => g44_L0_ok hE m m, trivial⟩, trivial⟩) (fun x => (g44_kr m x).trans (by kernel_rfl))
/-! 78 sparse/sparseref09.Stored -/
def g78_H : Hints := { regs := [⟨[], [1, 2, 3]⟩, ⟨[(2, 1), (8, 1), (12, 1)], [1, 2, 3, 25]⟩, ⟨[], [6]⟩, ⟨[], [1, 2, 3, 7]⟩, ⟨[], [1, 2, 3, 7, 38]⟩, ⟨[(0, 1)], [1, 2, 3, 7]⟩, ⟨[], [1, 2, 3, 7, 47]⟩, ⟨[], [6]⟩, ⟨[], [6]⟩], heads := [(0, [1, 2, 3, 7])], exits := [(0, []), (1, [1, 2, 3, 7])], rets := [6], pins := [], spec := [[false]] }
abbrev g78_A : List Sh := [.a (.agg [(.int .i64), (.int .i64), (.imm (.int .i64)), (.imm (.int .i64)), (.imm (.int .u64))]), .a (.c (.int .i64)), .a (.c (.int .i64))]
abbrev g78_S : Sh := .a (.c .bool)
abbrev g78_U : List Sh := [.a (.c .dead), .a (.c .dead), .a (.c .dead)]
def g78_R (m : Nat) : ShLVal g78_A → Option (g78_S.Val × ShLVal g78_U) := fun (x : (Int × Int × List Int × List Int × List Int × Unit) × Int × Int × Unit) => g78 m x.1.1 x.1.2.1 x.1.2.2.1 x.1.2.2.2.1 x.1.2.2.2.2.1 x.2.1 x.2.2.1
def g78_T (m : Nat) : FunT := ⟨78, g78_A, g78_S, g78_U, g78_R m⟩
noncomputable def g78_C : Code := codeOf Tryz.f78
noncomputable def g78_B0 : Code := loopAt g78_C 0 0
theorem g78_B0_ls : loopsL g78_B0 0 = [] := by kernel_rfl
theorem g78_C_ls : loopsL g78_C 0 = [(0, g78_B0)] := by kernel_rfl
abbrev g78_L0_I : SS := [(1, .a (.c (.int .i64))), (2, .a (.c (.int .i64))), (3, .a (.bx 0 [(.int .i64), (.int .i64), (.imm (.int .i64)), (.imm (.int .i64)), (.imm (.int .u64))])), (7, .a (.c (.int .i64)))]
abbrev g78_L0_O : List (Ex × SS) := [(.ret, [(6, .a (.c .bool))]), (.exit 0, [])]
def g78_L0_R (m n : Nat) : g78_L0_I.Val → Option (outVal g78_L0_O) := (fun (x : Int × Int × (Int × Int × List Int × List Int × List Int × Unit) × Int × Unit) => g78_L0 m n x.1 x.2.1 x.2.2.1.1 x.2.2.1.2.1 x.2.2.1.2.2.1 x.2.2.1.2.2.2.1 x.2.2.1.2.2.2.2.1 x.2.2.2.1)
def g78_L0_T (m n : Nat) : LoopT := ⟨0, g78_L0_I, g78_L0_O, g78_L0_R m n⟩
theorem g78_L0_kr (m n : Nat) (x : g78_L0_I.Val) : roundK (mkC (outVal g78_L0_O) []) (mkLp (outVal g78_L0_O) []) tt 48 g78_H g78_B0 0 (g78_L0_I.enc x) (Kl (ins := g78_L0_I) (outs := g78_L0_O) (g78_L0_R m n)) = g78_L0 m (n + 1) x.1 x.2.1 x.2.2.1.1 x.2.2.1.2.1 x.2.2.1.2.2.1 x.2.2.1.2.2.2.1 x.2.2.1.2.2.2.2.1 x.2.2.2.1 := by kernel_rfl
theorem g78_L0_ok {E : Entry} (hE : EOf Tryz.prog E 48 g78_H.pins) (m : Nat) (n : Nat) : LoopOK Tryz.prog E g78_B0 (g78_L0_T m n) :=
  loop_ok (CO := CallOK Tryz.prog) hmix htt (fun _ _ _ _ h => h) hE (C := fun R => mkC R []) (L := []) (fun _ _ _ _ _ h => mkC_spec (AllF.mem (l := []) trivial) h) (fun _ _ => loopsIn_of g78_B0_ls trivial) (fun n => (g78_L0_R m n)) (fun _ => by kernel_rfl) (fun n x => (g78_L0_kr m n x).trans (by kernel_rfl)) n
theorem g78_kr (m : Nat) (x : ShLVal g78_A) : fnK (mkC (g78_S.Val × ShLVal g78_U) []) (mkLp (g78_S.Val × ShLVal g78_U) [g78_L0_T m m]) tt g78_H Tryz.f78 (encS g78_A x) (Kd g78_S g78_U) = g78 m x.1.1 x.1.2.1 x.1.2.2.1 x.1.2.2.2.1 x.1.2.2.2.2.1 x.2.1 x.2.2.1 := by kernel_rfl
theorem g78_ok (m : Nat) : FunOK Tryz.prog (g78_T m) :=
  fun_ok hmix htt (g78_T m) Tryz.func78 (c := g78_C) (by kernel_rfl) (by kernel_rfl) (Lc := []) (AllF.mem (l := []) trivial) (L := [g78_L0_T m m]) (fun _ hE _ _ => loopsIn_of g78_C_ls ⟨mkLp_all ⟨fun _ => g78_L0_ok hE m m, trivial⟩, trivial⟩) (fun x => (g78_kr m x).trans (by kernel_rfl))
/-! 79 sparse/sparseref09.At -/
def g79_H : Hints := { regs := [⟨[], [1, 2, 3]⟩, ⟨[(3, 1), (7, 1)], [1, 2, 3, 20]⟩, ⟨[], [6]⟩, ⟨[], [1, 2, 3, 7]⟩, ⟨[], [1, 2, 3, 7, 33]⟩, ⟨[(0, 1)], [1, 2, 3, 7]⟩, ⟨[], [1, 2, 3, 7, 42]⟩, ⟨[(2, 1)], [6]⟩, ⟨[], [6]⟩], heads := [(0, [1, 2, 3, 7])], exits := [(0, []), (1, [1, 2, 3, 7])], rets := [6], pins := [], spec := [[false]] }
abbrev g79_A : List Sh := [.a (.agg [(.int .i64), (.int .i64), (.imm (.int .i64)), (.imm (.int .i64)), (.imm (.int .u64))]), .a (.c (.int .i64)), .a (.c (.int .i64))]
abbrev g79_S : Sh := .a (.c (.int .u64))
abbrev g79_U : List Sh := [.a (.c .dead), .a (.c .dead), .a (.c .dead)]
def g79_R (m : Nat) : ShLVal g79_A → Option (g79_S.Val × ShLVal g79_U) := fun (x : (Int × Int × List Int × List Int × List Int × Unit) × Int × Int × Unit) => g79 m x.1.1 x.1.2.1 x.1.2.2.1 x.1.2.2.2.1 x.1.2.2.2.2.1 x.2.1 x.2.2.1
def g79_T (m : Nat) : FunT := ⟨79, g79_A, g79_S, g79_U, g79_R m⟩
noncomputable def g79_C : Code := codeOf Tryz.f79
noncomputable def g79_B0 : Code := loopAt g79_C 0 0
theorem g79_B0_ls : loopsL g79_B0 0 = [] := by kernel_rfl
theorem g79_C_ls : loopsL g79_C 0 = [(0, g79_B0)] := by kernel_rfl
abbrev g79_L0_I : SS := [(1, .a (.c (.int .i64))), (2, .a (.c (.int .i64))), (3, .a (.bx 0 [(.int .i64), (.int .i64), (.imm (.int .i64)), (.imm (.int .i64)), (.imm (.int .u64))])), (7, .a (.c (.int .i64)))]
abbrev g79_L0_O : List (Ex × SS) := [(.ret, [(6, .a (.c (.int .u64)))]), (.exit 0, [])]
def g79_L0_R (m n : Nat) : g79_L0_I.Val → Option (outVal g79_L0_O) := (fun (x : Int × Int × (Int × Int × List Int × List Int × List Int × Unit) × Int × Unit) => g79_L0 m n x.1 x.2.1 x.2.2.1.1 x.2.2.1.2.1 x.2.2.1.2.2.1 x.2.2.1.2.2.2.1 x.2.2.1.2.2.2.2.1 x.2.2.2.1)
def g79_L0_T (m n : Nat) : LoopT := ⟨0, g79_L0_I, g79_L0_O, g79_L0_R m n⟩
theorem g79_L0_kr (m n : Nat) (x : g79_L0_I.Val) : roundK (mkC (outVal g79_L0_O) [g42_T m]) (mkLp (outVal g79_L0_O) []) tt 48 g79_H g79_B0 0 (g79_L0_I.enc x) (Kl (ins := g79_L0_I) (outs := g79_L0_O) (g79_L0_R m n)) = g79_L0 m (n + 1) x.1 x.2.1 x.2.2.1.1 x.2.2.1.2.1 x.2.2.1.2.2.1 x.2.2.1.2.2.2.1 x.2.2.1.2.2.2.2.1 x.2.2.2.1 := by kernel_rfl
theorem g79_L0_ok {E : Entry} (hE : EOf Tryz.prog E 48 g79_H.pins) (m : Nat) (n : Nat) : LoopOK Tryz.prog E g79_B0 (g79_L0_T m n) :=
  loop_ok (CO := CallOK Tryz.prog) hmix htt (fun _ _ _ _ h => h) hE (C := fun R => mkC R [g42_T m]) (L := []) (fun _ _ _ _ _ h => mkC_spec (AllF.mem (l := [g42_T m]) ⟨g42_ok m, trivial⟩) h) (fun _ _ => loopsIn_of g79_B0_ls trivial) (fun n => (g79_L0_R m n)) (fun _ => by kernel_rfl) (fun n x => (g79_L0_kr m n x).trans (by kernel_rfl)) n
theorem g79_kr (m : Nat) (x : ShLVal g79_A) : fnK (mkC (g79_S.Val × ShLVal g79_U) [g42_T m]) (mkLp (g79_S.Val × ShLVal g79_U) [g79_L0_T m m]) tt g79_H Tryz.f79 (encS g79_A x) (Kd g79_S g79_U) = g79 m x.1.1 x.1.2.1 x.1.2.2.1 x.1.2.2.2.1 x.1.2.2.2.2.1 x.2.1 x.2.2.1 := by kernel_rfl
theorem g79_ok (m : Nat) : FunOK Tryz.prog (g79_T m) :=
  fun_ok hmix htt (g79_T m) Tryz.func79 (c := g79_C) (by kernel_rfl) (by kernel_rfl) (Lc := [g42_T m]) (AllF.mem (l := [g42_T m]) ⟨g42_ok m, trivial⟩) (L := [g79_L0_T m m]) (fun _ hE _ _ => loopsIn_of g79_C_ls ⟨mkLp_all ⟨fun _ => g79_L0_ok hE m m, trivial⟩, trivial⟩) (fun x => (g79_kr m x).trans (by kernel_rfl))
/-! 45 sparse/sparseref09.pick -/
def g45_H : Hints := { regs := [⟨[], [1, 2, 3, 6]⟩, ⟨[], [1, 2, 3, 6, 7]⟩, ⟨[], [1, 2, 3, 6, 7, 8]⟩, ⟨[], [1, 2, 3, 6, 7, 8, 13]⟩, ⟨[(0, 1)], [1, 2, 3, 6, 7, 8]⟩, ⟨[], [1, 2, 3, 6, 7, 8, 9]⟩, ⟨[], [1, 2, 3, 6, 7, 8, 9, 19]⟩, ⟨[(0, 1)], [1, 2, 3, 6, 7, 8, 9]⟩, ⟨[], [1, 2, 3, 6, 7, 8, 9, 31]⟩, ⟨[(0, 1)], [1, 2, 3, 6, 7, 8, 9]⟩, ⟨[(0, 1), (2, 1), (4, 1)], [6]⟩], heads := [(0, [1, 2, 3, 6, 7, 8]), (2, [1, 2, 3, 6, 7, 8, 9])], exits := [(0, [1, 2, 6, 7]), (1, [1, 2, 3, 6, 7, 8]), (2, [1, 2, 3, 6, 7, 8]), (3, [1, 2, 3, 6, 7, 8, 9])], rets := [6], pins := [], spec := [[false, false, true, true, true]] }
abbrev g45_A : List Sh := [.a (.agg [(.int .i64), (.int .i64), (.imm (.int .i64)), (.imm (.int .i64)), (.imm (.int .u64))]), .a (.c (.imm (.int .i64))), .a (.c (.imm (.int .i64)))]
abbrev g45_S : Sh := .a (.agg [(.int .i64), (.int .i64), (.nm 0 (.int .i64)), (.nm 1 (.int .i64)), (.nm 2 (.int .u64))])
abbrev g45_U : List Sh := [.a (.c .dead), .a (.c .dead), .a (.c .dead)]
def g45_R (m : Nat) : ShLVal g45_A → Option (g45_S.Val × ShLVal g45_U) := fun (x : (Int × Int × List Int × List Int × List Int × Unit) × List Int × List Int × Unit) => g45 m x.1.1 x.1.2.1 x.1.2.2.1 x.1.2.2.2.1 x.1.2.2.2.2.1 x.2.1 x.2.2.1
def g45_T (m : Nat) : FunT := ⟨45, g45_A, g45_S, g45_U, g45_R m⟩
noncomputable def g45_C : Code := codeOf Tryz.f45
noncomputable def g45_B0 : Code := loopAt g45_C 0 0
noncomputable def g45_B2 : Code := loopAt g45_B0 0 0
theorem g45_B2_ls : loopsL g45_B2 2 = [] := by kernel_rfl
theorem g45_B0_ls : loopsL g45_B0 0 = [(2, g45_B2)] := by kernel_rfl
theorem g45_C_ls : loopsL g45_C 0 = [(0, g45_B0)] := by kernel_rfl
abbrev g45_L1_I : SS := [(1, .a (.c (.imm (.int .i64)))), (2, .a (.c (.imm (.int .i64)))), (3, .a (.bx 0 [(.int .i64), (.int .i64), (.imm (.int .i64)), (.imm (.int .i64)), (.imm (.int .u64))])), (6, .a (.bx 1 [(.int .i64), (.int .i64), (.nm 2 (.int .i64)), (.nm 3 (.int .i64)), (.nm 4 (.int .u64))])), (7, .a (.c (.nm 5 (.pr (.int .i64) (.pr (.int .i64) (.int .u64)))))), (8, .a (.c (.int .i64))), (9, .a (.c (.int .i64)))]
abbrev g45_L1_O : List (Ex × SS) := [(.exit 2, [(1, .a (.c (.imm (.int .i64)))), (2, .a (.c (.imm (.int .i64)))), (3, .a (.bx 0 [(.int .i64), (.int .i64), (.imm (.int .i64)), (.imm (.int .i64)), (.imm (.int .u64))])), (6, .a (.bx 1 [(.int .i64), (.int .i64), (.nm 2 (.int .i64)), (.nm 3 (.int .i64)), (.nm 4 (.int .u64))])), (7, .a (.c (.nm 5 (.pr (.int .i64) (.pr (.int .i64) (.int .u64)))))), (8, .a (.c (.int .i64)))])]
def g45_L1_R (m n : Nat) : g45_L1_I.Val → Option (outVal g45_L1_O) := (fun (x : List Int × List Int × (Int × Int × List Int × List Int × List Int × Unit) × (Int × Int × List Int × List Int × List Int × Unit) × (List (Int × Int × Int)) × Int × Int × Unit) => g45_L1 m n x.1 x.2.1 x.2.2.1.1 x.2.2.1.2.1 x.2.2.1.2.2.1 x.2.2.1.2.2.2.1 x.2.2.1.2.2.2.2.1 x.2.2.2.1.1 x.2.2.2.1.2.1 x.2.2.2.1.2.2.1 x.2.2.2.1.2.2.2.1 x.2.2.2.1.2.2.2.2.1 x.2.2.2.2.1 x.2.2.2.2.2.1 x.2.2.2.2.2.2.1)
def g45_L1_T (m n : Nat) : LoopT := ⟨2, g45_L1_I, g45_L1_O, g45_L1_R m n⟩
theorem g45_L1_kr (m n : Nat) (x : g45_L1_I.Val) : roundK (mkC (outVal g45_L1_O) [g78_T m, g79_T m, g30_T m]) (mkLp (outVal g45_L1_O) []) tt 54 g45_H g45_B2 2 (g45_L1_I.enc x) (Kl (ins := g45_L1_I) (outs := g45_L1_O) (g45_L1_R m n)) = g45_L1 m (n + 1) x.1 x.2.1 x.2.2.1.1 x.2.2.1.2.1 x.2.2.1.2.2.1 x.2.2.1.2.2.2.1 x.2.2.1.2.2.2.2.1 x.2.2.2.1.1 x.2.2.2.1.2.1 x.2.2.2.1.2.2.1 x.2.2.2.1.2.2.2.1 x.2.2.2.1.2.2.2.2.1 x.2.2.2.2.1 x.2.2.2.2.2.1 x.2.2.2.2.2.2.1 := by kernel_rfl
theorem g45_L1_ok {E : Entry} (hE : EOf Tryz.prog E 54 g45_H.pins) (m : Nat) (n : Nat) : LoopOK Tryz.prog E g45_B2 (g45_L1_T m n) :=
  loop_ok (CO := CallOK Tryz.prog) hmix htt (fun _ _ _ _ h => h) hE (C := fun R => mkC R [g78_T m, g79_T m, g30_T m]) (L := []) (fun _ _ _ _ _ h => mkC_spec (AllF.mem (l := [g78_T m, g79_T m, g30_T m]) ⟨g78_ok m, g79_ok m, g30_ok m, trivial⟩) h) (fun _ _ => loopsIn_of g45_B2_ls trivial) (fun n => (g45_L1_R m n)) (fun _ => by kernel_rfl) (fun n x => (g45_L1_kr m n x).trans (by kernel_rfl)) n
abbrev g45_L0_I : SS := [(1, .a (.c (.imm (.int .i64)))), (2, .a (.c (.imm (.int .i64)))), (3, .a (.bx 0 [(.int .i64), (.int .i64), (.imm (.int .i64)), (.imm (.int .i64)), (.imm (.int .u64))])), (6, .a (.bx 1 [(.int .i64), (.int .i64), (.nm 2 (.int .i64)), (.nm 3 (.int .i64)), (.nm 4 (.int .u64))])), (7, .a (.c (.nm 5 (.pr (.int .i64) (.pr (.int .i64) (.int .u64)))))), (8, .a (.c (.int .i64)))]
abbrev g45_L0_O : List (Ex × SS) := [(.exit 0, [(1, .a (.c (.imm (.int .i64)))), (2, .a (.c (.imm (.int .i64)))), (6, .a (.bx 0 [(.int .i64), (.int .i64), (.nm 1 (.int .i64)), (.nm 2 (.int .i64)), (.nm 3 (.int .u64))])), (7, .a (.c (.nm 4 (.pr (.int .i64) (.pr (.int .i64) (.int .u64))))))])]
def g45_L0_R (m n : Nat) : g45_L0_I.Val → Option (outVal g45_L0_O) := (fun (x : List Int × List Int × (Int × Int × List Int × List Int × List Int × Unit) × (Int × Int × List Int × List Int × List Int × Unit) × (List (Int × Int × Int)) × Int × Unit) => g45_L0 m n x.1 x.2.1 x.2.2.1.1 x.2.2.1.2.1 x.2.2.1.2.2.1 x.2.2.1.2.2.2.1 x.2.2.1.2.2.2.2.1 x.2.2.2.1.1 x.2.2.2.1.2.1 x.2.2.2.1.2.2.1 x.2.2.2.1.2.2.2.1 x.2.2.2.1.2.2.2.2.1 x.2.2.2.2.1 x.2.2.2.2.2.1)
def g45_L0_T (m n : Nat) : LoopT := ⟨0, g45_L0_I, g45_L0_O, g45_L0_R m n⟩
theorem g45_L0_kr (m n : Nat) (x : g45_L0_I.Val) : roundK (mkC (outVal g45_L0_O) [g78_T m, g79_T m, g30_T m]) (mkLp (outVal g45_L0_O) [g45_L1_T m m]) tt 54 g45_H g45_B0 0 (g45_L0_I.enc x) (Kl (ins := g45_L0_I) (outs := g45_L0_O) (g45_L0_R m n)) = g45_L0 m (n + 1) x.1 x.2.1 x.2.2.1.1 x.2.2.1.2.1 x.2.2.1.2.2.1 x.2.2.1.2.2.2.1 x.2.2.1.2.2.2.2.1 x.2.2.2.1.1 x.2.2.2.1.2.1 x.2.2.2.1.2.2.1 x.2.2.2.1.2.2.2.1 x.2.2.2.1.2.2.2.2.1 x.2.2.2.2.1 x.2.2.2.2.2.1 := by kernel_rfl
theorem g45_L0_ok {E : Entry} (hE : EOf Tryz.prog E 54 g45_H.pins) (m : Nat) (n : Nat) : LoopOK Tryz.prog E g45_B0 (g45_L0_T m n) :=
  loop_ok (CO := CallOK Tryz.prog) hmix htt (fun _ _ _ _ h => h) hE (C := fun R => mkC R [g78_T m, g79_T m, g30_T m]) (L := [g45_L1_T m m]) (fun _ _ _ _ _ h => mkC_spec (AllF.mem (l := [g78_T m, g79_T m, g30_T m]) ⟨g78_ok m, g79_ok m, g30_ok m, trivial⟩) h) (fun _ _ => loopsIn_of g45_B0_ls ⟨mkLp_all ⟨fun _ => g45_L1_ok hE m m, trivial⟩, trivial⟩) (fun n => (g45_L0_R m n)) (fun _ => by kernel_rfl) (fun n x => (g45_L0_kr m n x).trans (by kernel_rfl)) n
theorem g45_kr (m : Nat) (x : ShLVal g45_A) : fnK (mkC (g45_S.Val × ShLVal g45_U) [g78_T m, g79_T m, g30_T m]) (mkLp (g45_S.Val × ShLVal g45_U) [g45_L0_T m m]) tt g45_H Tryz.f45 (encS g45_A x) (Kd g45_S g45_U) = g45 m x.1.1 x.1.2.1 x.1.2.2.1 x.1.2.2.2.1 x.1.2.2.2.2.1 x.2.1 x.2.2.1 := by kernel_rfl
theorem g45_ok (m : Nat) : FunOK Tryz.prog (g45_T m) :=
  fun_ok hmix htt (g45_T m) Tryz.func45 (c := g45_C) (by kernel_rfl) (by kernel_rfl) (Lc := [g78_T m, g79_T m, g30_T m]) (AllF.mem (l := [g78_T m, g79_T m, g30_T m]) ⟨g78_ok m, g79_ok m, g30_ok m, trivial⟩) (L := [g45_L0_T m m]) (fun _ hE _ _ => loopsIn_of g45_C_ls ⟨mkLp_all ⟨fun _ => g45_L0_ok hE m m, trivial⟩, trivial⟩) (fun x => (g45_kr m x).trans (by kernel_rfl))
/-! 20 sparse/sparseref09.Permute -/
def g20_H : Hints := { regs := [⟨[], [1, 2, 3, 6]⟩, ⟨[], [1, 2, 3, 6, 8]⟩, ⟨[], [1, 2, 3, 6, 8, 12]⟩, ⟨[(1, 1)], [6, 7]⟩, ⟨[(5, 1)], [1, 2, 3, 6, 26]⟩, ⟨[], [6, 7]⟩, ⟨[(5, 1)], [1, 2, 3, 6, 39]⟩, ⟨[], [6, 7]⟩, ⟨[(1, 1), (2, 1)], [6, 7]⟩], heads := [], exits := [], rets := [6, 7], pins := [], spec := [[false, false, true, true, true], [false]] }
abbrev g20_A : List Sh := [.a (.agg [(.int .i64), (.int .i64), (.imm (.int .i64)), (.imm (.int .i64)), (.imm (.int .u64))]), .a (.c (.imm (.int .i64))), .a (.c (.imm (.int .i64)))]
abbrev g20_S : Sh := .tup [(.agg [(.int .i64), (.int .i64), (.nm 0 (.int .i64)), (.nm 1 (.int .i64)), (.nm 2 (.int .u64))]), (.c (.int .i64))]
abbrev g20_U : List Sh := [.a (.c .dead), .a (.c .dead), .a (.c .dead)]
def g20_R (m : Nat) : ShLVal g20_A → Option (g20_S.Val × ShLVal g20_U) := fun (x : (Int × Int × List Int × List Int × List Int × Unit) × List Int × List Int × Unit) => g20 m x.1.1 x.1.2.1 x.1.2.2.1 x.1.2.2.2.1 x.1.2.2.2.2.1 x.2.1 x.2.2.1
def g20_T (m : Nat) : FunT := ⟨20, g20_A, g20_S, g20_U, g20_R m⟩
noncomputable def g20_C : Code := codeOf Tryz.f20
theorem g20_C_ls : loopsL g20_C 0 = [] := by kernel_rfl
theorem g20_kr (m : Nat) (x : ShLVal g20_A) : fnK (mkC (g20_S.Val × ShLVal g20_U) [g42_T m, g44_T m, g45_T m]) (mkLp (g20_S.Val × ShLVal g20_U) []) tt g20_H Tryz.f20 (encS g20_A x) (Kd g20_S g20_U) = g20 m x.1.1 x.1.2.1 x.1.2.2.1 x.1.2.2.2.1 x.1.2.2.2.2.1 x.2.1 x.2.2.1 := by kernel_rfl
theorem g20_ok (m : Nat) : FunOK Tryz.prog (g20_T m) :=
  fun_ok hmix htt (g20_T m) Tryz.func20 (c := g20_C) (by kernel_rfl) (by kernel_rfl) (Lc := [g42_T m, g44_T m, g45_T m]) (AllF.mem (l := [g42_T m, g44_T m, g45_T m]) ⟨g42_ok m, g44_ok m, g45_ok m, trivial⟩) (L := []) (fun _ hE _ _ => loopsIn_of g20_C_ls trivial) (fun x => (g20_kr m x).trans (by kernel_rfl))
/-! 21 sparse/matrix.Select -/
def g21_H : Hints := { regs := [⟨[], [1, 2, 3, 6]⟩, ⟨[], [1, 2, 3, 6, 8]⟩, ⟨[], [1, 2, 3, 6, 8, 15]⟩, ⟨[(1, 1)], [6, 7]⟩, ⟨[(4, 1)], [1, 2, 3, 6, 8, 9]⟩, ⟨[(4, 1)], [1, 2, 3, 6, 8, 9, 10, 11]⟩, ⟨[(2, 1)], [1, 2, 3, 6, 8, 9, 10, 11, 32]⟩, ⟨[], [6, 7]⟩, ⟨[(0, 1), (2, 1), (3, 1)], [1, 2, 3, 6, 9, 10, 40]⟩, ⟨[], [6, 7]⟩, ⟨[(1, 1), (2, 1), (3, 1), (4, 1)], [6, 7]⟩], heads := [], exits := [(0, [1, 2, 3, 6, 9, 10])], rets := [6, 7], pins := [], spec := [[false, false, true, true, true], [false]] }
abbrev g21_A : List Sh := [.a (.agg [(.int .i64), (.int .i64), (.imm (.int .i64)), (.imm (.int .i64)), (.imm (.int .u64))]), .a (.c (.imm (.int .i64))), .a (.c (.imm (.int .i64)))]
abbrev g21_S : Sh := .tup [(.agg [(.int .i64), (.int .i64), (.nm 0 (.int .i64)), (.nm 1 (.int .i64)), (.nm 2 (.int .u64))]), (.c (.int .i64))]
abbrev g21_U : List Sh := [.a (.c .dead), .a (.c .dead), .a (.c .dead)]
def g21_R (m : Nat) : ShLVal g21_A → Option (g21_S.Val × ShLVal g21_U) := fun (x : (Int × Int × List Int × List Int × List Int × Unit) × List Int × List Int × Unit) => g21 m x.1.1 x.1.2.1 x.1.2.2.1 x.1.2.2.2.1 x.1.2.2.2.2.1 x.2.1 x.2.2.1
def g21_T (m : Nat) : FunT := ⟨21, g21_A, g21_S, g21_U, g21_R m⟩
noncomputable def g21_C : Code := codeOf Tryz.f21
theorem g21_C_ls : loopsL g21_C 0 = [] := by kernel_rfl
theorem g21_kr (m : Nat) (x : ShLVal g21_A) : fnK (mkC (g21_S.Val × ShLVal g21_U) [g28_T m, g39_T m, g40_T m]) (mkLp (g21_S.Val × ShLVal g21_U) []) tt g21_H Tryz.f21 (encS g21_A x) (Kd g21_S g21_U) = g21 m x.1.1 x.1.2.1 x.1.2.2.1 x.1.2.2.2.1 x.1.2.2.2.2.1 x.2.1 x.2.2.1 := by kernel_rfl
theorem g21_ok (m : Nat) : FunOK Tryz.prog (g21_T m) :=
  fun_ok hmix htt (g21_T m) Tryz.func21 (c := g21_C) (by kernel_rfl) (by kernel_rfl) (Lc := [g28_T m, g39_T m, g40_T m]) (AllF.mem (l := [g28_T m, g39_T m, g40_T m]) ⟨g28_ok m, g39_ok m, g40_ok m, trivial⟩) (L := []) (fun _ hE _ _ => loopsIn_of g21_C_ls trivial) (fun x => (g21_kr m x).trans (by kernel_rfl))
/-! 46 sparse/sparseref09.Range -/
def g46_H : Hints := { regs := [⟨[], [0, 1]⟩, ⟨[], [0, 1, 5]⟩, ⟨[], [0, 1, 5, 9]⟩, ⟨[(0, 1)], [0, 1, 5]⟩, ⟨[(5, 1)], [0, 1, 5, 24]⟩, ⟨[], [4]⟩, ⟨[], [4]⟩], heads := [(0, [0, 1, 5])], exits := [(0, []), (1, [0, 1, 5])], rets := [4], pins := [], spec := [[false]] }
abbrev g46_A : List Sh := [.a (.c (.imm (.int .i64))), .a (.c (.int .i64))]
abbrev g46_S : Sh := .a (.c .bool)
abbrev g46_U : List Sh := [.a (.c .dead), .a (.c .dead)]
def g46_R (m : Nat) : ShLVal g46_A → Option (g46_S.Val × ShLVal g46_U) := fun (x : List Int × Int × Unit) => g46 m x.1 x.2.1
def g46_T (m : Nat) : FunT := ⟨46, g46_A, g46_S, g46_U, g46_R m⟩
noncomputable def g46_C : Code := codeOf Tryz.f46
noncomputable def g46_B0 : Code := loopAt g46_C 0 0
theorem g46_B0_ls : loopsL g46_B0 0 = [] := by kernel_rfl
theorem g46_C_ls : loopsL g46_C 0 = [(0, g46_B0)] := by kernel_rfl
abbrev g46_L0_I : SS := [(0, .a (.c (.imm (.int .i64)))), (1, .a (.c (.int .i64))), (5, .a (.c (.int .i64)))]
abbrev g46_L0_O : List (Ex × SS) := [(.ret, [(4, .a (.c .bool))]), (.exit 0, [])]
def g46_L0_R (m n : Nat) : g46_L0_I.Val → Option (outVal g46_L0_O) := (fun (x : List Int × Int × Int × Unit) => g46_L0 m n x.1 x.2.1 x.2.2.1)
def g46_L0_T (m n : Nat) : LoopT := ⟨0, g46_L0_I, g46_L0_O, g46_L0_R m n⟩
theorem g46_L0_kr (m n : Nat) (x : g46_L0_I.Val) : roundK (mkC (outVal g46_L0_O) []) (mkLp (outVal g46_L0_O) []) tt 25 g46_H g46_B0 0 (g46_L0_I.enc x) (Kl (ins := g46_L0_I) (outs := g46_L0_O) (g46_L0_R m n)) = g46_L0 m (n + 1) x.1 x.2.1 x.2.2.1 := by kernel_rfl
theorem g46_L0_ok {E : Entry} (hE : EOf Tryz.prog E 25 g46_H.pins) (m : Nat) (n : Nat) : LoopOK Tryz.prog E g46_B0 (g46_L0_T m n) :=
  loop_ok (CO := CallOK Tryz.prog) hmix htt (fun _ _ _ _ h => h) hE (C := fun R => mkC R []) (L := []) (fun _ _ _ _ _ h => mkC_spec (AllF.mem (l := []) trivial) h) (fun _ _ => loopsIn_of g46_B0_ls trivial) (fun n => (g46_L0_R m n)) (fun _ => by kernel_rfl) (fun n x => (g46_L0_kr m n x).trans (by kernel_rfl)) n
theorem g46_kr (m : Nat) (x : ShLVal g46_A) : fnK (mkC (g46_S.Val × ShLVal g46_U) []) (mkLp (g46_S.Val × ShLVal g46_U) [g46_L0_T m m]) tt g46_H Tryz.f46 (encS g46_A x) (Kd g46_S g46_U) = g46 m x.1 x.2.1 := by kernel_rfl
theorem g46_ok (m : Nat) : FunOK Tryz.prog (g46_T m) :=
  fun_ok hmix htt (g46_T m) Tryz.func46 (c := g46_C) (by kernel_rfl) (by kernel_rfl) (Lc := []) (AllF.mem (l := []) trivial) (L := [g46_L0_T m m]) (fun _ hE _ _ => loopsIn_of g46_C_ls ⟨mkLp_all ⟨fun _ => g46_L0_ok hE m m, trivial⟩, trivial⟩) (fun x => (g46_kr m x).trans (by kernel_rfl))
/-! 80 sparse/sparsekit.In -/
def g80_H : Hints := { regs := [⟨[], [0, 1]⟩, ⟨[], [0, 1, 5]⟩, ⟨[], [0, 1, 5, 9]⟩, ⟨[(0, 1)], [0, 1, 5]⟩, ⟨[], [0, 1, 5, 17]⟩, ⟨[], [4]⟩, ⟨[], [4]⟩], heads := [(0, [0, 1, 5])], exits := [(0, []), (1, [0, 1, 5])], rets := [4], pins := [], spec := [[false]] }
abbrev g80_A : List Sh := [.a (.c (.imm (.int .i64))), .a (.c (.int .i64))]
abbrev g80_S : Sh := .a (.c .bool)
abbrev g80_U : List Sh := [.a (.c .dead), .a (.c .dead)]
def g80_R (m : Nat) : ShLVal g80_A → Option (g80_S.Val × ShLVal g80_U) := fun (x : List Int × Int × Unit) => g80 m x.1 x.2.1
def g80_T (m : Nat) : FunT := ⟨80, g80_A, g80_S, g80_U, g80_R m⟩
noncomputable def g80_C : Code := codeOf Tryz.f80
noncomputable def g80_B0 : Code := loopAt g80_C 0 0
theorem g80_B0_ls : loopsL g80_B0 0 = [] := by kernel_rfl
theorem g80_C_ls : loopsL g80_C 0 = [(0, g80_B0)] := by kernel_rfl
abbrev g80_L0_I : SS := [(0, .a (.c (.imm (.int .i64)))), (1, .a (.c (.int .i64))), (5, .a (.c (.int .i64)))]
abbrev g80_L0_O : List (Ex × SS) := [(.ret, [(4, .a (.c .bool))]), (.exit 0, [])]
def g80_L0_R (m n : Nat) : g80_L0_I.Val → Option (outVal g80_L0_O) := (fun (x : List Int × Int × Int × Unit) => g80_L0 m n x.1 x.2.1 x.2.2.1)
def g80_L0_T (m n : Nat) : LoopT := ⟨0, g80_L0_I, g80_L0_O, g80_L0_R m n⟩
theorem g80_L0_kr (m n : Nat) (x : g80_L0_I.Val) : roundK (mkC (outVal g80_L0_O) []) (mkLp (outVal g80_L0_O) []) tt 18 g80_H g80_B0 0 (g80_L0_I.enc x) (Kl (ins := g80_L0_I) (outs := g80_L0_O) (g80_L0_R m n)) = g80_L0 m (n + 1) x.1 x.2.1 x.2.2.1 := by kernel_rfl
theorem g80_L0_ok {E : Entry} (hE : EOf Tryz.prog E 18 g80_H.pins) (m : Nat) (n : Nat) : LoopOK Tryz.prog E g80_B0 (g80_L0_T m n) :=
  loop_ok (CO := CallOK Tryz.prog) hmix htt (fun _ _ _ _ h => h) hE (C := fun R => mkC R []) (L := []) (fun _ _ _ _ _ h => mkC_spec (AllF.mem (l := []) trivial) h) (fun _ _ => loopsIn_of g80_B0_ls trivial) (fun n => (g80_L0_R m n)) (fun _ => by kernel_rfl) (fun n x => (g80_L0_kr m n x).trans (by kernel_rfl)) n
theorem g80_kr (m : Nat) (x : ShLVal g80_A) : fnK (mkC (g80_S.Val × ShLVal g80_U) []) (mkLp (g80_S.Val × ShLVal g80_U) [g80_L0_T m m]) tt g80_H Tryz.f80 (encS g80_A x) (Kd g80_S g80_U) = g80 m x.1 x.2.1 := by kernel_rfl
theorem g80_ok (m : Nat) : FunOK Tryz.prog (g80_T m) :=
  fun_ok hmix htt (g80_T m) Tryz.func80 (c := g80_C) (by kernel_rfl) (by kernel_rfl) (Lc := []) (AllF.mem (l := []) trivial) (L := [g80_L0_T m m]) (fun _ hE _ _ => loopsIn_of g80_C_ls ⟨mkLp_all ⟨fun _ => g80_L0_ok hE m m, trivial⟩, trivial⟩) (fun x => (g80_kr m x).trans (by kernel_rfl))
/-! 47 sparse/sparseref09.Twice -/
def g47_H : Hints := { regs := [⟨[], [0]⟩, ⟨[], [0, 3]⟩, ⟨[], [0, 3, 7]⟩, ⟨[(0, 1)], [0, 3]⟩, ⟨[], [0, 3, 17]⟩, ⟨[], [2]⟩, ⟨[], [2]⟩], heads := [(0, [0, 3])], exits := [(0, []), (1, [0, 3])], rets := [2], pins := [], spec := [[false]] }
abbrev g47_A : List Sh := [.a (.c (.imm (.int .i64)))]
abbrev g47_S : Sh := .a (.c .bool)
abbrev g47_U : List Sh := [.a (.c .dead)]
def g47_R (m : Nat) : ShLVal g47_A → Option (g47_S.Val × ShLVal g47_U) := fun (x : List Int × Unit) => g47 m x.1
def g47_T (m : Nat) : FunT := ⟨47, g47_A, g47_S, g47_U, g47_R m⟩
noncomputable def g47_C : Code := codeOf Tryz.f47
noncomputable def g47_B0 : Code := loopAt g47_C 0 0
theorem g47_B0_ls : loopsL g47_B0 0 = [] := by kernel_rfl
theorem g47_C_ls : loopsL g47_C 0 = [(0, g47_B0)] := by kernel_rfl
abbrev g47_L0_I : SS := [(0, .a (.c (.imm (.int .i64)))), (3, .a (.c (.int .i64)))]
abbrev g47_L0_O : List (Ex × SS) := [(.ret, [(2, .a (.c .bool))]), (.exit 0, [])]
def g47_L0_R (m n : Nat) : g47_L0_I.Val → Option (outVal g47_L0_O) := (fun (x : List Int × Int × Unit) => g47_L0 m n x.1 x.2.1)
def g47_L0_T (m n : Nat) : LoopT := ⟨0, g47_L0_I, g47_L0_O, g47_L0_R m n⟩
theorem g47_L0_kr (m n : Nat) (x : g47_L0_I.Val) : roundK (mkC (outVal g47_L0_O) [g80_T m]) (mkLp (outVal g47_L0_O) []) tt 18 g47_H g47_B0 0 (g47_L0_I.enc x) (Kl (ins := g47_L0_I) (outs := g47_L0_O) (g47_L0_R m n)) = g47_L0 m (n + 1) x.1 x.2.1 := by kernel_rfl
theorem g47_L0_ok {E : Entry} (hE : EOf Tryz.prog E 18 g47_H.pins) (m : Nat) (n : Nat) : LoopOK Tryz.prog E g47_B0 (g47_L0_T m n) :=
  loop_ok (CO := CallOK Tryz.prog) hmix htt (fun _ _ _ _ h => h) hE (C := fun R => mkC R [g80_T m]) (L := []) (fun _ _ _ _ _ h => mkC_spec (AllF.mem (l := [g80_T m]) ⟨g80_ok m, trivial⟩) h) (fun _ _ => loopsIn_of g47_B0_ls trivial) (fun n => (g47_L0_R m n)) (fun _ => by kernel_rfl) (fun n x => (g47_L0_kr m n x).trans (by kernel_rfl)) n
theorem g47_kr (m : Nat) (x : ShLVal g47_A) : fnK (mkC (g47_S.Val × ShLVal g47_U) [g80_T m]) (mkLp (g47_S.Val × ShLVal g47_U) [g47_L0_T m m]) tt g47_H Tryz.f47 (encS g47_A x) (Kd g47_S g47_U) = g47 m x.1 := by kernel_rfl
theorem g47_ok (m : Nat) : FunOK Tryz.prog (g47_T m) :=
  fun_ok hmix htt (g47_T m) Tryz.func47 (c := g47_C) (by kernel_rfl) (by kernel_rfl) (Lc := [g80_T m]) (AllF.mem (l := [g80_T m]) ⟨g80_ok m, trivial⟩) (L := [g47_L0_T m m]) (fun _ hE _ _ => loopsIn_of g47_C_ls ⟨mkLp_all ⟨fun _ => g47_L0_ok hE m m, trivial⟩, trivial⟩) (fun x => (g47_kr m x).trans (by kernel_rfl))
/-! 22 sparse/sparseref09.Select -/
def g22_H : Hints := { regs := [⟨[], [1, 2, 3, 6]⟩, ⟨[], [1, 2, 3, 6, 8]⟩, ⟨[], [1, 2, 3, 6, 8, 12]⟩, ⟨[(1, 1)], [6, 7]⟩, ⟨[(5, 1)], [1, 2, 3, 6, 26]⟩, ⟨[], [6, 7]⟩, ⟨[(2, 1)], [1, 2, 3, 6, 33]⟩, ⟨[], [6, 7]⟩, ⟨[(1, 1), (2, 1)], [6, 7]⟩], heads := [], exits := [], rets := [6, 7], pins := [], spec := [[false, false, true, true, true], [false]] }
abbrev g22_A : List Sh := [.a (.agg [(.int .i64), (.int .i64), (.imm (.int .i64)), (.imm (.int .i64)), (.imm (.int .u64))]), .a (.c (.imm (.int .i64))), .a (.c (.imm (.int .i64)))]
abbrev g22_S : Sh := .tup [(.agg [(.int .i64), (.int .i64), (.nm 0 (.int .i64)), (.nm 1 (.int .i64)), (.nm 2 (.int .u64))]), (.c (.int .i64))]
abbrev g22_U : List Sh := [.a (.c .dead), .a (.c .dead), .a (.c .dead)]
def g22_R (m : Nat) : ShLVal g22_A → Option (g22_S.Val × ShLVal g22_U) := fun (x : (Int × Int × List Int × List Int × List Int × Unit) × List Int × List Int × Unit) => g22 m x.1.1 x.1.2.1 x.1.2.2.1 x.1.2.2.2.1 x.1.2.2.2.2.1 x.2.1 x.2.2.1
def g22_T (m : Nat) : FunT := ⟨22, g22_A, g22_S, g22_U, g22_R m⟩
noncomputable def g22_C : Code := codeOf Tryz.f22
theorem g22_C_ls : loopsL g22_C 0 = [] := by kernel_rfl
theorem g22_kr (m : Nat) (x : ShLVal g22_A) : fnK (mkC (g22_S.Val × ShLVal g22_U) [g42_T m, g46_T m, g47_T m, g45_T m]) (mkLp (g22_S.Val × ShLVal g22_U) []) tt g22_H Tryz.f22 (encS g22_A x) (Kd g22_S g22_U) = g22 m x.1.1 x.1.2.1 x.1.2.2.1 x.1.2.2.2.1 x.1.2.2.2.2.1 x.2.1 x.2.2.1 := by kernel_rfl
theorem g22_ok (m : Nat) : FunOK Tryz.prog (g22_T m) :=
  fun_ok hmix htt (g22_T m) Tryz.func22 (c := g22_C) (by kernel_rfl) (by kernel_rfl) (Lc := [g42_T m, g46_T m, g47_T m, g45_T m]) (AllF.mem (l := [g42_T m, g46_T m, g47_T m, g45_T m]) ⟨g42_ok m, g46_ok m, g47_ok m, g45_ok m, trivial⟩) (L := []) (fun _ hE _ _ => loopsIn_of g22_C_ls trivial) (fun x => (g22_kr m x).trans (by kernel_rfl))
/-! 23 sparse/sparselaw09.alike -/
def sparselaw09_alike_H : Hints := { regs := [⟨[], [1, 3, 4, 6]⟩, ⟨[(0, 1), (1, 1), (3, 1)], [8]⟩], heads := [], exits := [], rets := [8], pins := [], spec := [[false]] }
abbrev sparselaw09_alike_A : List Sh := [.a (.agg [(.int .i64), (.int .i64), (.imm (.int .i64)), (.imm (.int .i64)), (.imm (.int .u64))]), .a (.c (.int .i64)), .a (.agg [(.int .i64), (.int .i64), (.imm (.int .i64)), (.imm (.int .i64)), (.imm (.int .u64))]), .a (.c (.int .i64))]
abbrev sparselaw09_alike_S : Sh := .a (.c .bool)
abbrev sparselaw09_alike_U : List Sh := [.a (.c .dead), .a (.c .dead), .a (.c .dead), .a (.c .dead)]
def sparselaw09_alike_R (m : Nat) : ShLVal sparselaw09_alike_A → Option (sparselaw09_alike_S.Val × ShLVal sparselaw09_alike_U) := fun (x : (Int × Int × List Int × List Int × List Int × Unit) × Int × (Int × Int × List Int × List Int × List Int × Unit) × Int × Unit) => sparselaw09_alike m x.1.1 x.1.2.1 x.1.2.2.1 x.1.2.2.2.1 x.1.2.2.2.2.1 x.2.1 x.2.2.1.1 x.2.2.1.2.1 x.2.2.1.2.2.1 x.2.2.1.2.2.2.1 x.2.2.1.2.2.2.2.1 x.2.2.2.1
def sparselaw09_alike_T (m : Nat) : FunT := ⟨23, sparselaw09_alike_A, sparselaw09_alike_S, sparselaw09_alike_U, sparselaw09_alike_R m⟩
noncomputable def sparselaw09_alike_C : Code := codeOf Tryz.f23
theorem sparselaw09_alike_C_ls : loopsL sparselaw09_alike_C 0 = [] := by kernel_rfl
theorem sparselaw09_alike_kr (m : Nat) (x : ShLVal sparselaw09_alike_A) : fnK (mkC (sparselaw09_alike_S.Val × ShLVal sparselaw09_alike_U) [g15_T m]) (mkLp (sparselaw09_alike_S.Val × ShLVal sparselaw09_alike_U) []) tt sparselaw09_alike_H Tryz.f23 (encS sparselaw09_alike_A x) (Kd sparselaw09_alike_S sparselaw09_alike_U) = sparselaw09_alike m x.1.1 x.1.2.1 x.1.2.2.1 x.1.2.2.2.1 x.1.2.2.2.2.1 x.2.1 x.2.2.1.1 x.2.2.1.2.1 x.2.2.1.2.2.1 x.2.2.1.2.2.2.1 x.2.2.1.2.2.2.2.1 x.2.2.2.1 := by kernel_rfl
theorem sparselaw09_alike_ok (m : Nat) : FunOK Tryz.prog (sparselaw09_alike_T m) :=
  fun_ok hmix htt (sparselaw09_alike_T m) Tryz.func23 (c := sparselaw09_alike_C) (by kernel_rfl) (by kernel_rfl) (Lc := [g15_T m]) (AllF.mem (l := [g15_T m]) ⟨g15_ok m, trivial⟩) (L := []) (fun _ hE _ _ => loopsIn_of sparselaw09_alike_C_ls trivial) (fun x => (sparselaw09_alike_kr m x).trans (by kernel_rfl))
/-! 4 sparse/sparselaw09.MatrixMoves -/
def sparselaw09_MatrixMoves_H : Hints := { regs := [⟨[], [1, 2, 3]⟩, ⟨[(3, 1), (8, 1)], [1, 2, 3, 35]⟩, ⟨[], [6]⟩, ⟨[(2, 1)], [1, 2, 3, 7, 8]⟩, ⟨[(2, 1)], [1, 2, 3, 7, 8, 9, 10]⟩, ⟨[(2, 1)], [1, 2, 3, 7, 8, 9, 10, 11, 12]⟩, ⟨[(2, 1)], [1, 2, 3, 7, 8, 9, 10, 11, 12, 13, 14]⟩, ⟨[(4, 1)], [1, 2, 3, 7, 8, 9, 10, 11, 12, 13, 14, 15, 16]⟩, ⟨[(4, 1)], [1, 2, 3, 7, 8, 9, 10, 11, 12, 13, 14, 15, 16, 17, 18]⟩, ⟨[(4, 1)], [1, 2, 3, 7, 8, 9, 10, 11, 12, 13, 14, 15, 16, 17, 18, 19, 20]⟩, ⟨[(1, 1), (2, 1), (4, 1)], [7, 8, 9, 10, 11, 12, 13, 14, 15, 16, 17, 18, 19, 20, 21, 22]⟩, ⟨[(1, 1), (3, 1), (5, 1), (7, 1), (9, 1), (12, 1), (14, 1), (16, 1), (19, 1), (21, 1), (23, 1), (26, 1)], [6]⟩], heads := [], exits := [], rets := [6], pins := [], spec := [[false]] }
abbrev sparselaw09_MatrixMoves_A : List Sh := [.a (.agg [(.int .i64), (.int .i64), (.imm (.int .i64)), (.imm (.int .i64)), (.imm (.int .u64))]), .a (.c (.imm (.int .i64))), .a (.c (.imm (.int .i64)))]
abbrev sparselaw09_MatrixMoves_S : Sh := .a (.c .bool)
abbrev sparselaw09_MatrixMoves_U : List Sh := [.a (.c .dead), .a (.c .dead), .a (.c .dead)]
def sparselaw09_MatrixMoves_R (m : Nat) : ShLVal sparselaw09_MatrixMoves_A → Option (sparselaw09_MatrixMoves_S.Val × ShLVal sparselaw09_MatrixMoves_U) := fun (x : (Int × Int × List Int × List Int × List Int × Unit) × List Int × List Int × Unit) => sparselaw09_MatrixMoves m x.1.1 x.1.2.1 x.1.2.2.1 x.1.2.2.2.1 x.1.2.2.2.2.1 x.2.1 x.2.2.1
def sparselaw09_MatrixMoves_T (m : Nat) : FunT := ⟨4, sparselaw09_MatrixMoves_A, sparselaw09_MatrixMoves_S, sparselaw09_MatrixMoves_U, sparselaw09_MatrixMoves_R m⟩
noncomputable def sparselaw09_MatrixMoves_C : Code := codeOf Tryz.f4
theorem sparselaw09_MatrixMoves_C_ls : loopsL sparselaw09_MatrixMoves_C 0 = [] := by kernel_rfl
theorem sparselaw09_MatrixMoves_kr (m : Nat) (x : ShLVal sparselaw09_MatrixMoves_A) : fnK (mkC (sparselaw09_MatrixMoves_S.Val × ShLVal sparselaw09_MatrixMoves_U) [sparselaw09_small_T m, sparselaw09_awake_T m, g11_T m, g17_T m, g18_T m, g19_T m, g13_T m, g20_T m, g21_T m, g22_T m, sparselaw09_alike_T m]) (mkLp (sparselaw09_MatrixMoves_S.Val × ShLVal sparselaw09_MatrixMoves_U) []) tt sparselaw09_MatrixMoves_H Tryz.f4 (encS sparselaw09_MatrixMoves_A x) (Kd sparselaw09_MatrixMoves_S sparselaw09_MatrixMoves_U) = sparselaw09_MatrixMoves m x.1.1 x.1.2.1 x.1.2.2.1 x.1.2.2.2.1 x.1.2.2.2.2.1 x.2.1 x.2.2.1 := by kernel_rfl
theorem sparselaw09_MatrixMoves_ok (m : Nat) : FunOK Tryz.prog (sparselaw09_MatrixMoves_T m) :=
  fun_ok hmix htt (sparselaw09_MatrixMoves_T m) Tryz.func4 (c := sparselaw09_MatrixMoves_C) (by kernel_rfl) (by kernel_rfl) (Lc := [sparselaw09_small_T m, sparselaw09_awake_T m, g11_T m, g17_T m, g18_T m, g19_T m, g13_T m, g20_T m, g21_T m, g22_T m, sparselaw09_alike_T m]) (AllF.mem (l := [sparselaw09_small_T m, sparselaw09_awake_T m, g11_T m, g17_T m, g18_T m, g19_T m, g13_T m, g20_T m, g21_T m, g22_T m, sparselaw09_alike_T m]) ⟨sparselaw09_small_ok m, sparselaw09_awake_ok m, g11_ok m, g17_ok m, g18_ok m, g19_ok m, g13_ok m, g20_ok m, g21_ok m, g22_ok m, sparselaw09_alike_ok m, trivial⟩) (L := []) (fun _ hE _ _ => loopsIn_of sparselaw09_MatrixMoves_C_ls trivial) (fun x => (sparselaw09_MatrixMoves_kr m x).trans (by kernel_rfl))
/-! 48 sparse/sparsemake.At -/
/-! 24 sparse/sparsemake.Symmetric -/
/-! 116 slices.isNaN_int_ -/
/-! 81 slices.BinarySearch___int_int_ -/
/-! 49 sparse/matrix.at -/
/-! 117 sparse/float.Kind -/
/-! 82 sparse/float.nan -/
/-! 83 sparse/float.place -/
/-! 50 sparse/float.Cmp -/
/-! 25 sparse/matrix.Symmetric -/
/-! 5 sparse/sparselaw09.MatrixTriangles -/
end Go.Vs.F
