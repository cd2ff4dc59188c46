/- The plain functions are what the code does (by program: gen.py). -/
import Derived.Test.YtkpillimphadkaaGreatDoorOka

/-! TzOk2 -/
set_option linter.unusedVariables false
set_option maxRecDepth 100000
namespace Go.Vs.F
open Go.Proofs
/-! 24 __sparse/transversal.hungarian_.least -/
def g24_H : Hints := { regs := [⟨[(5, 4)], [0, 2]⟩, ⟨[], [0, 2, 21, 22, 23]⟩, ⟨[], [0, 2, 21, 22, 23, 24]⟩, ⟨[], [0, 2, 3, 4, 21, 22, 23]⟩, ⟨[(0, 1)], [0, 2, 3, 21, 22, 23, 28, 29, 30]⟩, ⟨[], [0, 2, 3, 21, 22, 23, 28, 29, 30, 31]⟩, ⟨[], [0, 2, 3, 6, 21, 22, 23, 28, 29, 30]⟩, ⟨[], [0, 2, 3, 6, 21, 22, 23, 28, 29, 30, 52]⟩, ⟨[(5, 4), (11, 4)], [0, 2, 3, 21, 22, 23, 28, 29, 30]⟩, ⟨[(1, 1)], [0, 2, 3, 21, 22, 23, 28, 29, 30]⟩, ⟨[(1, 1)], [0, 2, 21, 22, 23]⟩, ⟨[(0, 2)], [0, 2, 67, 68]⟩, ⟨[], [0, 2, 67, 68, 69]⟩, ⟨[], [0, 2, 7, 67, 68]⟩, ⟨[(0, 2)], [0, 2, 7, 67, 68, 74, 75, 76]⟩, ⟨[], [0, 2, 7, 67, 68, 74, 75, 76, 77]⟩, ⟨[], [0, 2, 7, 9, 67, 68, 74, 75, 76]⟩, ⟨[], [0, 2, 7, 9, 67, 68, 74, 75, 76, 88]⟩, ⟨[], [0, 2, 7, 9, 10, 67, 68, 74, 75, 76]⟩, ⟨[], [0, 2, 7, 9, 10, 67, 68, 74, 75, 76, 98]⟩, ⟨[], [0, 2, 7, 9, 10, 11, 67, 68, 74, 75, 76]⟩, ⟨[], [0, 2, 7, 9, 10, 11, 67, 68, 74, 75, 76]⟩, ⟨[(1, 2), (2, 1), (11, 1), (12, 16)], [0, 2, 7, 9, 67, 68, 74, 75, 76, 117]⟩, ⟨[], [0, 2, 67, 68]⟩, ⟨[(1, 1)], [0, 2, 7, 67, 68, 74, 75, 76]⟩, ⟨[(1, 1)], [0, 2, 67, 68]⟩], heads := [(0, [0, 2, 21, 22, 23]), (2, [0, 2, 3, 21, 22, 23, 28, 29, 30]), (4, [0, 2, 67, 68]), (6, [0, 2, 7, 67, 68, 74, 75, 76])], exits := [(0, [0, 2]), (1, [0, 2, 21, 22, 23]), (2, [0, 2, 21, 22, 23]), (3, [0, 2, 3, 21, 22, 23, 28, 29, 30]), (4, [0]), (5, [0, 2, 67, 68]), (6, [0, 2, 67, 68]), (7, [0, 2, 7, 67, 68, 74, 75, 76])], rets := [0], pins := [0], spec := [] }
abbrev g24_A : List Sh := [.a (.bx 0 [(.imm (.sl false (.pr (.int .i64) (.int .i64)))), (.nm 1 (.int .i64)), (.nm 2 (.int .i64)), (.nm 3 (.int .i64)), (.nm 4 (.int .i64))])]
abbrev g24_S : Sh := .tup []
abbrev g24_U : List Sh := [.a (.bx 0 [(.imm (.sl false (.pr (.int .i64) (.int .i64)))), (.nm 1 (.int .i64)), (.nm 2 (.int .i64)), (.nm 3 (.int .i64)), (.nm 4 (.int .i64))])]
def g24_R (m : Nat) : ShLVal g24_A → Option (g24_S.Val × ShLVal g24_U) := fun (x : ((List (List (Int × Int))) × List Int × List Int × List Int × List Int × Unit) × Unit) => g24 m x.1.1 x.1.2.1 x.1.2.2.1 x.1.2.2.2.1 x.1.2.2.2.2.1
def g24_T (m : Nat) : FunT := ⟨24, g24_A, g24_S, g24_U, g24_R m⟩
noncomputable def g24_C : Code := codeOf Tryz.f24
noncomputable def g24_B0 : Code := loopAt g24_C 0 0
noncomputable def g24_B2 : Code := loopAt g24_B0 0 0
theorem g24_B2_ls : loopsL g24_B2 2 = [] := by kernel_rfl
theorem g24_B0_ls : loopsL g24_B0 0 = [(2, g24_B2)] := by kernel_rfl
noncomputable def g24_B4 : Code := loopAt g24_C 0 1
noncomputable def g24_B6 : Code := loopAt g24_B4 4 0
theorem g24_B6_ls : loopsL g24_B6 6 = [] := by kernel_rfl
theorem g24_B4_ls : loopsL g24_B4 4 = [(6, g24_B6)] := by kernel_rfl
theorem g24_C_ls : loopsL g24_C 0 = [(0, g24_B0), (4, g24_B4)] := by kernel_rfl
abbrev g24_L3_I : SS := [(0, .a (.bx 0 [(.imm (.sl false (.pr (.int .i64) (.int .i64)))), (.nm 1 (.int .i64)), (.nm 2 (.int .i64)), (.nm 3 (.int .i64)), (.nm 4 (.int .i64))])), (2, .a (.c (.imm (.sl false (.int .i64))))), (7, .a (.c (.int .i64))), (67, .a (.c (.int .i64))), (68, .a (.c (.int .i64))), (74, .a (.c (.imm (.int .i64)))), (75, .a (.c (.int .i64))), (76, .a (.c (.int .i64)))]
abbrev g24_L3_O : List (Ex × SS) := [(.exit 6, [(0, .a (.bx 0 [(.imm (.sl false (.pr (.int .i64) (.int .i64)))), (.nm 1 (.int .i64)), (.nm 2 (.int .i64)), (.nm 3 (.int .i64)), (.nm 4 (.int .i64))])), (2, .a (.c (.imm (.sl false (.int .i64))))), (67, .a (.c (.int .i64))), (68, .a (.c (.int .i64)))])]
def g24_L3_R (m n : Nat) : g24_L3_I.Val → Option (outVal g24_L3_O) := (fun (x : ((List (List (Int × Int))) × List Int × List Int × List Int × List Int × Unit) × List (List Int) × Int × Int × Int × List Int × Int × Int × Unit) => g24_L3 m n x.1.1 x.1.2.1 x.1.2.2.1 x.1.2.2.2.1 x.1.2.2.2.2.1 x.2.1 x.2.2.1 x.2.2.2.1 x.2.2.2.2.1 x.2.2.2.2.2.1 x.2.2.2.2.2.2.1 x.2.2.2.2.2.2.2.1)
def g24_L3_T (m n : Nat) : LoopT := ⟨6, g24_L3_I, g24_L3_O, g24_L3_R m n⟩
theorem g24_L3_kr (m n : Nat) (x : g24_L3_I.Val) : roundK (mkC (outVal g24_L3_O) [g40_T m]) (mkLp (outVal g24_L3_O) []) tt 134 g24_H g24_B6 6 (g24_L3_I.enc x) (Kl (ins := g24_L3_I) (outs := g24_L3_O) (g24_L3_R m n)) = g24_L3 m (n + 1) x.1.1 x.1.2.1 x.1.2.2.1 x.1.2.2.2.1 x.1.2.2.2.2.1 x.2.1 x.2.2.1 x.2.2.2.1 x.2.2.2.2.1 x.2.2.2.2.2.1 x.2.2.2.2.2.2.1 x.2.2.2.2.2.2.2.1 := by kernel_rfl
theorem g24_L3_ok {E : Entry} (hE : EOf Tryz.prog E 134 g24_H.pins) (m : Nat) (n : Nat) : LoopOK Tryz.prog E g24_B6 (g24_L3_T m n) :=
  loop_ok (CO := CallOK Tryz.prog) hmix htt (fun _ _ _ _ h => h) hE (C := fun R => mkC R [g40_T m]) (L := []) (fun _ _ _ _ _ h => mkC_spec (AllF.mem (l := [g40_T m]) ⟨g40_ok m, trivial⟩) h) (fun _ _ => loopsIn_of g24_B6_ls trivial) (fun n => (g24_L3_R m n)) (fun _ => by kernel_rfl) (fun n x => (g24_L3_kr m n x).trans (by kernel_rfl)) n
abbrev g24_L2_I : SS := [(0, .a (.bx 0 [(.imm (.sl false (.pr (.int .i64) (.int .i64)))), (.nm 1 (.int .i64)), (.nm 2 (.int .i64)), (.nm 3 (.int .i64)), (.nm 4 (.int .i64))])), (2, .a (.c (.imm (.sl false (.int .i64))))), (67, .a (.c (.int .i64))), (68, .a (.c (.int .i64)))]
abbrev g24_L2_O : List (Ex × SS) := [(.exit 4, [(0, .a (.bx 0 [(.imm (.sl false (.pr (.int .i64) (.int .i64)))), (.nm 1 (.int .i64)), (.nm 2 (.int .i64)), (.nm 3 (.int .i64)), (.nm 4 (.int .i64))]))])]
def g24_L2_R (m n : Nat) : g24_L2_I.Val → Option (outVal g24_L2_O) := (fun (x : ((List (List (Int × Int))) × List Int × List Int × List Int × List Int × Unit) × List (List Int) × Int × Int × Unit) => g24_L2 m n x.1.1 x.1.2.1 x.1.2.2.1 x.1.2.2.2.1 x.1.2.2.2.2.1 x.2.1 x.2.2.1 x.2.2.2.1)
def g24_L2_T (m n : Nat) : LoopT := ⟨4, g24_L2_I, g24_L2_O, g24_L2_R m n⟩
theorem g24_L2_kr (m n : Nat) (x : g24_L2_I.Val) : roundK (mkC (outVal g24_L2_O) [g40_T m]) (mkLp (outVal g24_L2_O) [g24_L3_T m m]) tt 134 g24_H g24_B4 4 (g24_L2_I.enc x) (Kl (ins := g24_L2_I) (outs := g24_L2_O) (g24_L2_R m n)) = g24_L2 m (n + 1) x.1.1 x.1.2.1 x.1.2.2.1 x.1.2.2.2.1 x.1.2.2.2.2.1 x.2.1 x.2.2.1 x.2.2.2.1 := by kernel_rfl
theorem g24_L2_ok {E : Entry} (hE : EOf Tryz.prog E 134 g24_H.pins) (m : Nat) (n : Nat) : LoopOK Tryz.prog E g24_B4 (g24_L2_T m n) :=
  loop_ok (CO := CallOK Tryz.prog) hmix htt (fun _ _ _ _ h => h) hE (C := fun R => mkC R [g40_T m]) (L := [g24_L3_T m m]) (fun _ _ _ _ _ h => mkC_spec (AllF.mem (l := [g40_T m]) ⟨g40_ok m, trivial⟩) h) (fun _ _ => loopsIn_of g24_B4_ls ⟨mkLp_all ⟨fun _ => g24_L3_ok hE m m, trivial⟩, trivial⟩) (fun n => (g24_L2_R m n)) (fun _ => by kernel_rfl) (fun n x => (g24_L2_kr m n x).trans (by kernel_rfl)) n
abbrev g24_L1_I : SS := [(0, .a (.bx 0 [(.imm (.sl false (.pr (.int .i64) (.int .i64)))), (.nm 1 (.int .i64)), (.nm 2 (.int .i64)), (.nm 3 (.int .i64)), (.nm 4 (.int .i64))])), (2, .a (.c (.dp 5 (.int .i64)))), (3, .a (.c (.int .i64))), (21, .a (.c (.imm (.sl false (.pr (.int .i64) (.int .i64)))))), (22, .a (.c (.int .i64))), (23, .a (.c (.int .i64))), (28, .a (.c (.imm (.pr (.int .i64) (.int .i64))))), (29, .a (.c (.int .i64))), (30, .a (.c (.int .i64)))]
abbrev g24_L1_O : List (Ex × SS) := [(.exit 2, [(0, .a (.bx 0 [(.imm (.sl false (.pr (.int .i64) (.int .i64)))), (.nm 1 (.int .i64)), (.nm 2 (.int .i64)), (.nm 3 (.int .i64)), (.nm 4 (.int .i64))])), (2, .a (.c (.dp 5 (.int .i64)))), (21, .a (.c (.imm (.sl false (.pr (.int .i64) (.int .i64)))))), (22, .a (.c (.int .i64))), (23, .a (.c (.int .i64)))])]
def g24_L1_R (m n : Nat) : g24_L1_I.Val → Option (outVal g24_L1_O) := (fun (x : ((List (List (Int × Int))) × List Int × List Int × List Int × List Int × Unit) × List (List Int) × Int × (List (List (Int × Int))) × Int × Int × (List (Int × Int)) × Int × Int × Unit) => g24_L1 m n x.1.1 x.1.2.1 x.1.2.2.1 x.1.2.2.2.1 x.1.2.2.2.2.1 x.2.1 x.2.2.1 x.2.2.2.1 x.2.2.2.2.1 x.2.2.2.2.2.1 x.2.2.2.2.2.2.1 x.2.2.2.2.2.2.2.1 x.2.2.2.2.2.2.2.2.1)
def g24_L1_T (m n : Nat) : LoopT := ⟨2, g24_L1_I, g24_L1_O, g24_L1_R m n⟩
theorem g24_L1_kr (m n : Nat) (x : g24_L1_I.Val) : roundK (mkC (outVal g24_L1_O) [g40_T m]) (mkLp (outVal g24_L1_O) []) tt 134 g24_H g24_B2 2 (g24_L1_I.enc x) (Kl (ins := g24_L1_I) (outs := g24_L1_O) (g24_L1_R m n)) = g24_L1 m (n + 1) x.1.1 x.1.2.1 x.1.2.2.1 x.1.2.2.2.1 x.1.2.2.2.2.1 x.2.1 x.2.2.1 x.2.2.2.1 x.2.2.2.2.1 x.2.2.2.2.2.1 x.2.2.2.2.2.2.1 x.2.2.2.2.2.2.2.1 x.2.2.2.2.2.2.2.2.1 := by kernel_rfl
theorem g24_L1_ok {E : Entry} (hE : EOf Tryz.prog E 134 g24_H.pins) (m : Nat) (n : Nat) : LoopOK Tryz.prog E g24_B2 (g24_L1_T m n) :=
  loop_ok (CO := CallOK Tryz.prog) hmix htt (fun _ _ _ _ h => h) hE (C := fun R => mkC R [g40_T m]) (L := []) (fun _ _ _ _ _ h => mkC_spec (AllF.mem (l := [g40_T m]) ⟨g40_ok m, trivial⟩) h) (fun _ _ => loopsIn_of g24_B2_ls trivial) (fun n => (g24_L1_R m n)) (fun _ => by kernel_rfl) (fun n x => (g24_L1_kr m n x).trans (by kernel_rfl)) n
abbrev g24_L0_I : SS := [(0, .a (.bx 0 [(.imm (.sl false (.pr (.int .i64) (.int .i64)))), (.nm 1 (.int .i64)), (.nm 2 (.int .i64)), (.nm 3 (.int .i64)), (.nm 4 (.int .i64))])), (2, .a (.c (.dp 5 (.int .i64)))), (21, .a (.c (.imm (.sl false (.pr (.int .i64) (.int .i64)))))), (22, .a (.c (.int .i64))), (23, .a (.c (.int .i64)))]
abbrev g24_L0_O : List (Ex × SS) := [(.exit 0, [(0, .a (.bx 0 [(.imm (.sl false (.pr (.int .i64) (.int .i64)))), (.nm 1 (.int .i64)), (.nm 2 (.int .i64)), (.nm 3 (.int .i64)), (.nm 4 (.int .i64))])), (2, .a (.c (.dp 5 (.int .i64))))])]
def g24_L0_R (m n : Nat) : g24_L0_I.Val → Option (outVal g24_L0_O) := (fun (x : ((List (List (Int × Int))) × List Int × List Int × List Int × List Int × Unit) × List (List Int) × (List (List (Int × Int))) × Int × Int × Unit) => g24_L0 m n x.1.1 x.1.2.1 x.1.2.2.1 x.1.2.2.2.1 x.1.2.2.2.2.1 x.2.1 x.2.2.1 x.2.2.2.1 x.2.2.2.2.1)
def g24_L0_T (m n : Nat) : LoopT := ⟨0, g24_L0_I, g24_L0_O, g24_L0_R m n⟩
theorem g24_L0_kr (m n : Nat) (x : g24_L0_I.Val) : roundK (mkC (outVal g24_L0_O) [g40_T m]) (mkLp (outVal g24_L0_O) [g24_L1_T m m]) tt 134 g24_H g24_B0 0 (g24_L0_I.enc x) (Kl (ins := g24_L0_I) (outs := g24_L0_O) (g24_L0_R m n)) = g24_L0 m (n + 1) x.1.1 x.1.2.1 x.1.2.2.1 x.1.2.2.2.1 x.1.2.2.2.2.1 x.2.1 x.2.2.1 x.2.2.2.1 x.2.2.2.2.1 := by kernel_rfl
theorem g24_L0_ok {E : Entry} (hE : EOf Tryz.prog E 134 g24_H.pins) (m : Nat) (n : Nat) : LoopOK Tryz.prog E g24_B0 (g24_L0_T m n) :=
  loop_ok (CO := CallOK Tryz.prog) hmix htt (fun _ _ _ _ h => h) hE (C := fun R => mkC R [g40_T m]) (L := [g24_L1_T m m]) (fun _ _ _ _ _ h => mkC_spec (AllF.mem (l := [g40_T m]) ⟨g40_ok m, trivial⟩) h) (fun _ _ => loopsIn_of g24_B0_ls ⟨mkLp_all ⟨fun _ => g24_L1_ok hE m m, trivial⟩, trivial⟩) (fun n => (g24_L0_R m n)) (fun _ => by kernel_rfl) (fun n x => (g24_L0_kr m n x).trans (by kernel_rfl)) n
theorem g24_kr (m : Nat) (x : ShLVal g24_A) : fnK (mkC (g24_S.Val × ShLVal g24_U) [g40_T m]) (mkLp (g24_S.Val × ShLVal g24_U) [g24_L0_T m m, g24_L2_T m m]) tt g24_H Tryz.f24 (encS g24_A x) (Kd g24_S g24_U) = g24 m x.1.1 x.1.2.1 x.1.2.2.1 x.1.2.2.2.1 x.1.2.2.2.2.1 := by kernel_rfl
theorem g24_ok (m : Nat) : FunOK Tryz.prog (g24_T m) :=
  fun_ok hmix htt (g24_T m) Tryz.func24 (c := g24_C) (by kernel_rfl) (by kernel_rfl) (Lc := [g40_T m]) (AllF.mem (l := [g40_T m]) ⟨g40_ok m, trivial⟩) (L := [g24_L0_T m m, g24_L2_T m m]) (fun _ hE _ _ => loopsIn_of g24_C_ls ⟨mkLp_all ⟨fun _ => g24_L0_ok hE m m, fun h => absurd (show (4 : Nat) = 0 from h) (by decide), trivial⟩, mkLp_all ⟨fun h => absurd (show (0 : Nat) = 4 from h) (by decide), fun _ => g24_L2_ok hE m m, trivial⟩, trivial⟩) (fun x => (g24_kr m x).trans (by kernel_rfl))
/-! 25 __sparse/transversal.hungarian_.duals -/
def g25_H : Hints := { regs := [⟨[], [0]⟩, ⟨[], [0, 4]⟩, ⟨[], [0, 2, 3, 4]⟩, ⟨[(0, 1)], [0, 2, 3, 5]⟩, ⟨[], [0, 2, 3, 5, 33, 34, 35]⟩, ⟨[], [0, 2, 3, 5, 33, 34, 35, 36]⟩, ⟨[], [0, 2, 3, 5, 6, 7, 33, 34, 35]⟩, ⟨[(0, 1)], [0, 2, 3, 5, 6, 33, 34, 35, 40, 41, 42]⟩, ⟨[], [0, 2, 3, 5, 6, 33, 34, 35, 40, 41, 42, 43]⟩, ⟨[], [0, 2, 3, 5, 6, 9, 33, 34, 35, 40, 41, 42]⟩, ⟨[], [0, 2, 3, 5, 6, 9, 33, 34, 35, 40, 41, 42, 55]⟩, ⟨[], [0, 2, 3, 5, 6, 33, 34, 35, 40, 41, 42]⟩, ⟨[(1, 1)], [0, 2, 3, 5, 6, 33, 34, 35, 40, 41, 42]⟩, ⟨[(1, 1)], [0, 2, 3, 5, 33, 34, 35]⟩, ⟨[], [0, 2, 3, 5, 10]⟩, ⟨[(0, 1)], [0, 2, 3, 5, 63]⟩, ⟨[], [0, 2, 3, 5, 10]⟩, ⟨[], [0, 2, 3, 5, 10, 67, 68, 69]⟩, ⟨[], [0, 2, 3, 5, 10, 67, 68, 69, 70]⟩, ⟨[], [0, 2, 3, 5, 10, 11, 12, 67, 68, 69]⟩, ⟨[(0, 1)], [0, 2, 3, 5, 10, 11, 67, 68, 69, 74, 75, 76]⟩, ⟨[], [0, 2, 3, 5, 10, 11, 67, 68, 69, 74, 75, 76, 77]⟩, ⟨[], [0, 2, 3, 5, 10, 11, 14, 67, 68, 69, 74, 75, 76]⟩, ⟨[], [0, 2, 3, 5, 10, 11, 14, 15, 67, 68, 69, 74, 75, 76]⟩, ⟨[], [0, 2, 3, 5, 10, 11, 16, 67, 68, 69, 74, 75, 76]⟩, ⟨[], [0, 2, 3, 5, 10, 11, 16, 67, 68, 69, 74, 75, 76, 105]⟩, ⟨[(2, 1)], [0, 2, 3, 5, 10, 11, 67, 68, 69, 74, 75, 76]⟩, ⟨[(1, 1)], [0, 2, 3, 5, 10, 11, 67, 68, 69, 74, 75, 76]⟩, ⟨[(1, 1)], [0, 2, 3, 5, 10, 67, 68, 69]⟩, ⟨[], [0, 2, 3, 5, 115, 116, 117]⟩, ⟨[], [0, 2, 3, 5, 115, 116, 117, 118]⟩, ⟨[], [0, 2, 3, 5, 17, 18, 115, 116, 117]⟩, ⟨[(1, 1)], [0, 2, 3, 5, 115, 116, 117]⟩, ⟨[(1, 1)], [0, 2, 3, 5, 115, 116, 117]⟩, ⟨[(0, 1), (1, 1)], [0, 2, 3]⟩], heads := [(0, [0, 2, 3, 5, 33, 34, 35]), (2, [0, 2, 3, 5, 6, 33, 34, 35, 40, 41, 42]), (4, [0, 2, 3, 5, 10]), (6, [0, 2, 3, 5, 10, 67, 68, 69]), (8, [0, 2, 3, 5, 10, 11, 67, 68, 69, 74, 75, 76]), (10, [0, 2, 3, 5, 115, 116, 117])], exits := [(0, [0, 2, 3, 5]), (1, [0, 2, 3, 5, 33, 34, 35]), (2, [0, 2, 3, 5, 33, 34, 35]), (3, [0, 2, 3, 5, 6, 33, 34, 35, 40, 41, 42]), (4, [0, 2, 3, 5]), (5, [0, 2, 3, 5, 10]), (6, [0, 2, 3, 5, 10]), (7, [0, 2, 3, 5, 10, 67, 68, 69]), (8, [0, 2, 3, 5, 10, 67, 68, 69]), (9, [0, 2, 3, 5, 10, 11, 67, 68, 69, 74, 75, 76]), (10, [0, 2, 3]), (11, [0, 2, 3, 5, 115, 116, 117])], rets := [0, 2, 3], pins := [0], spec := [[true], [true]] }
abbrev g25_A : List Sh := [.a (.bx 0 [(.imm (.sl false (.pr (.int .i64) (.int .i64)))), (.nm 1 (.int .i64)), (.nm 2 (.int .i64)), (.nm 3 (.int .i64)), (.nm 4 (.int .i64))])]
abbrev g25_S : Sh := .tup [(.c (.nm 0 (.int .i64))), (.c (.nm 1 (.int .i64)))]
abbrev g25_U : List Sh := [.a (.bx 2 [(.imm (.sl false (.pr (.int .i64) (.int .i64)))), (.nm 3 (.int .i64)), (.nm 4 (.int .i64)), (.nm 5 (.int .i64)), (.nm 6 (.int .i64))])]
def g25_R (m : Nat) : ShLVal g25_A → Option (g25_S.Val × ShLVal g25_U) := fun (x : ((List (List (Int × Int))) × List Int × List Int × List Int × List Int × Unit) × Unit) => g25 m x.1.1 x.1.2.1 x.1.2.2.1 x.1.2.2.2.1 x.1.2.2.2.2.1
def g25_T (m : Nat) : FunT := ⟨25, g25_A, g25_S, g25_U, g25_R m⟩
noncomputable def g25_C : Code := codeOf Tryz.f25
noncomputable def g25_B0 : Code := loopAt g25_C 0 0
noncomputable def g25_B2 : Code := loopAt g25_B0 0 0
theorem g25_B2_ls : loopsL g25_B2 2 = [] := by kernel_rfl
theorem g25_B0_ls : loopsL g25_B0 0 = [(2, g25_B2)] := by kernel_rfl
noncomputable def g25_B4 : Code := loopAt g25_C 0 1
noncomputable def g25_B6 : Code := loopAt g25_B4 4 0
noncomputable def g25_B8 : Code := loopAt g25_B6 6 0
theorem g25_B8_ls : loopsL g25_B8 8 = [] := by kernel_rfl
theorem g25_B6_ls : loopsL g25_B6 6 = [(8, g25_B8)] := by kernel_rfl
theorem g25_B4_ls : loopsL g25_B4 4 = [(6, g25_B6)] := by kernel_rfl
noncomputable def g25_B10 : Code := loopAt g25_C 0 2
theorem g25_B10_ls : loopsL g25_B10 10 = [] := by kernel_rfl
theorem g25_C_ls : loopsL g25_C 0 = [(0, g25_B0), (4, g25_B4), (10, g25_B10)] := by kernel_rfl
abbrev g25_L5_I : SS := [(0, .a (.bx 0 [(.imm (.sl false (.pr (.int .i64) (.int .i64)))), (.nm 1 (.int .i64)), (.nm 2 (.int .i64)), (.nm 3 (.int .i64)), (.nm 4 (.int .i64))])), (2, .a (.c (.nm 5 (.int .i64)))), (3, .a (.c (.nm 6 (.int .i64)))), (5, .a (.c (.nm 7 (.int .i64)))), (115, .a (.c (.ref 0 3 1))), (116, .a (.c (.int .i64))), (117, .a (.c (.int .i64)))]
abbrev g25_L5_O : List (Ex × SS) := [(.exit 10, [(0, .a (.bx 0 [(.imm (.sl false (.pr (.int .i64) (.int .i64)))), (.nm 1 (.int .i64)), (.nm 2 (.int .i64)), (.nm 3 (.int .i64)), (.nm 4 (.int .i64))])), (2, .a (.c (.nm 5 (.int .i64)))), (3, .a (.c (.nm 6 (.int .i64))))])]
def g25_L5_R (m n : Nat) : g25_L5_I.Val → Option (outVal g25_L5_O) := (fun (x : ((List (List (Int × Int))) × List Int × List Int × List Int × List Int × Unit) × List Int × List Int × List Int × Unit × Int × Int × Unit) => g25_L5 m n x.1.1 x.1.2.1 x.1.2.2.1 x.1.2.2.2.1 x.1.2.2.2.2.1 x.2.1 x.2.2.1 x.2.2.2.1 x.2.2.2.2.2.1 x.2.2.2.2.2.2.1)
def g25_L5_T (m n : Nat) : LoopT := ⟨10, g25_L5_I, g25_L5_O, g25_L5_R m n⟩
theorem g25_L5_kr (m n : Nat) (x : g25_L5_I.Val) : roundK (mkC (outVal g25_L5_O) [g36_T m]) (mkLp (outVal g25_L5_O) []) tt 137 g25_H g25_B10 10 (g25_L5_I.enc x) (Kl (ins := g25_L5_I) (outs := g25_L5_O) (g25_L5_R m n)) = g25_L5 m (n + 1) x.1.1 x.1.2.1 x.1.2.2.1 x.1.2.2.2.1 x.1.2.2.2.2.1 x.2.1 x.2.2.1 x.2.2.2.1 x.2.2.2.2.2.1 x.2.2.2.2.2.2.1 := by kernel_rfl
theorem g25_L5_ok {E : Entry} (hE : EOf Tryz.prog E 137 g25_H.pins) (m : Nat) (n : Nat) : LoopOK Tryz.prog E g25_B10 (g25_L5_T m n) :=
  loop_ok (CO := CallOK Tryz.prog) hmix htt (fun _ _ _ _ h => h) hE (C := fun R => mkC R [g36_T m]) (L := []) (fun _ _ _ _ _ h => mkC_spec (AllF.mem (l := [g36_T m]) ⟨g36_ok m, trivial⟩) h) (fun _ _ => loopsIn_of g25_B10_ls trivial) (fun n => (g25_L5_R m n)) (fun _ => by kernel_rfl) (fun n x => (g25_L5_kr m n x).trans (by kernel_rfl)) n
abbrev g25_L4_I : SS := [(0, .a (.bx 0 [(.imm (.sl false (.pr (.int .i64) (.int .i64)))), (.nm 1 (.int .i64)), (.nm 2 (.int .i64)), (.nm 3 (.int .i64)), (.nm 4 (.int .i64))])), (2, .a (.c (.nm 5 (.int .i64)))), (3, .a (.c (.nm 6 (.int .i64)))), (5, .a (.c (.nm 7 (.int .i64)))), (10, .a (.c .bool)), (11, .a (.c (.int .i64))), (67, .a (.c (.imm (.sl false (.pr (.int .i64) (.int .i64)))))), (68, .a (.c (.int .i64))), (69, .a (.c (.int .i64))), (74, .a (.c (.imm (.pr (.int .i64) (.int .i64))))), (75, .a (.c (.int .i64))), (76, .a (.c (.int .i64)))]
abbrev g25_L4_O : List (Ex × SS) := [(.exit 8, [(0, .a (.bx 0 [(.imm (.sl false (.pr (.int .i64) (.int .i64)))), (.nm 1 (.int .i64)), (.nm 2 (.int .i64)), (.nm 3 (.int .i64)), (.nm 4 (.int .i64))])), (2, .a (.c (.nm 5 (.int .i64)))), (3, .a (.c (.nm 6 (.int .i64)))), (5, .a (.c (.nm 7 (.int .i64)))), (10, .a (.c .bool)), (67, .a (.c (.imm (.sl false (.pr (.int .i64) (.int .i64)))))), (68, .a (.c (.int .i64))), (69, .a (.c (.int .i64)))])]
def g25_L4_R (m n : Nat) : g25_L4_I.Val → Option (outVal g25_L4_O) := (fun (x : ((List (List (Int × Int))) × List Int × List Int × List Int × List Int × Unit) × List Int × List Int × List Int × Bool × Int × (List (List (Int × Int))) × Int × Int × (List (Int × Int)) × Int × Int × Unit) => g25_L4 m n x.1.1 x.1.2.1 x.1.2.2.1 x.1.2.2.2.1 x.1.2.2.2.2.1 x.2.1 x.2.2.1 x.2.2.2.1 x.2.2.2.2.1 x.2.2.2.2.2.1 x.2.2.2.2.2.2.1 x.2.2.2.2.2.2.2.1 x.2.2.2.2.2.2.2.2.1 x.2.2.2.2.2.2.2.2.2.1 x.2.2.2.2.2.2.2.2.2.2.1 x.2.2.2.2.2.2.2.2.2.2.2.1)
def g25_L4_T (m n : Nat) : LoopT := ⟨8, g25_L4_I, g25_L4_O, g25_L4_R m n⟩
theorem g25_L4_kr (m n : Nat) (x : g25_L4_I.Val) : roundK (mkC (outVal g25_L4_O) [g36_T m]) (mkLp (outVal g25_L4_O) []) tt 137 g25_H g25_B8 8 (g25_L4_I.enc x) (Kl (ins := g25_L4_I) (outs := g25_L4_O) (g25_L4_R m n)) = g25_L4 m (n + 1) x.1.1 x.1.2.1 x.1.2.2.1 x.1.2.2.2.1 x.1.2.2.2.2.1 x.2.1 x.2.2.1 x.2.2.2.1 x.2.2.2.2.1 x.2.2.2.2.2.1 x.2.2.2.2.2.2.1 x.2.2.2.2.2.2.2.1 x.2.2.2.2.2.2.2.2.1 x.2.2.2.2.2.2.2.2.2.1 x.2.2.2.2.2.2.2.2.2.2.1 x.2.2.2.2.2.2.2.2.2.2.2.1 := by kernel_rfl
theorem g25_L4_ok {E : Entry} (hE : EOf Tryz.prog E 137 g25_H.pins) (m : Nat) (n : Nat) : LoopOK Tryz.prog E g25_B8 (g25_L4_T m n) :=
  loop_ok (CO := CallOK Tryz.prog) hmix htt (fun _ _ _ _ h => h) hE (C := fun R => mkC R [g36_T m]) (L := []) (fun _ _ _ _ _ h => mkC_spec (AllF.mem (l := [g36_T m]) ⟨g36_ok m, trivial⟩) h) (fun _ _ => loopsIn_of g25_B8_ls trivial) (fun n => (g25_L4_R m n)) (fun _ => by kernel_rfl) (fun n x => (g25_L4_kr m n x).trans (by kernel_rfl)) n
abbrev g25_L3_I : SS := [(0, .a (.bx 0 [(.imm (.sl false (.pr (.int .i64) (.int .i64)))), (.nm 1 (.int .i64)), (.nm 2 (.int .i64)), (.nm 3 (.int .i64)), (.nm 4 (.int .i64))])), (2, .a (.c (.nm 5 (.int .i64)))), (3, .a (.c (.nm 6 (.int .i64)))), (5, .a (.c (.nm 7 (.int .i64)))), (10, .a (.c .bool)), (67, .a (.c (.imm (.sl false (.pr (.int .i64) (.int .i64)))))), (68, .a (.c (.int .i64))), (69, .a (.c (.int .i64)))]
abbrev g25_L3_O : List (Ex × SS) := [(.exit 6, [(0, .a (.bx 0 [(.imm (.sl false (.pr (.int .i64) (.int .i64)))), (.nm 1 (.int .i64)), (.nm 2 (.int .i64)), (.nm 3 (.int .i64)), (.nm 4 (.int .i64))])), (2, .a (.c (.nm 5 (.int .i64)))), (3, .a (.c (.nm 6 (.int .i64)))), (5, .a (.c (.nm 7 (.int .i64)))), (10, .a (.c .bool))])]
def g25_L3_R (m n : Nat) : g25_L3_I.Val → Option (outVal g25_L3_O) := (fun (x : ((List (List (Int × Int))) × List Int × List Int × List Int × List Int × Unit) × List Int × List Int × List Int × Bool × (List (List (Int × Int))) × Int × Int × Unit) => g25_L3 m n x.1.1 x.1.2.1 x.1.2.2.1 x.1.2.2.2.1 x.1.2.2.2.2.1 x.2.1 x.2.2.1 x.2.2.2.1 x.2.2.2.2.1 x.2.2.2.2.2.1 x.2.2.2.2.2.2.1 x.2.2.2.2.2.2.2.1)
def g25_L3_T (m n : Nat) : LoopT := ⟨6, g25_L3_I, g25_L3_O, g25_L3_R m n⟩
theorem g25_L3_kr (m n : Nat) (x : g25_L3_I.Val) : roundK (mkC (outVal g25_L3_O) [g36_T m]) (mkLp (outVal g25_L3_O) [g25_L4_T m m]) tt 137 g25_H g25_B6 6 (g25_L3_I.enc x) (Kl (ins := g25_L3_I) (outs := g25_L3_O) (g25_L3_R m n)) = g25_L3 m (n + 1) x.1.1 x.1.2.1 x.1.2.2.1 x.1.2.2.2.1 x.1.2.2.2.2.1 x.2.1 x.2.2.1 x.2.2.2.1 x.2.2.2.2.1 x.2.2.2.2.2.1 x.2.2.2.2.2.2.1 x.2.2.2.2.2.2.2.1 := by kernel_rfl
theorem g25_L3_ok {E : Entry} (hE : EOf Tryz.prog E 137 g25_H.pins) (m : Nat) (n : Nat) : LoopOK Tryz.prog E g25_B6 (g25_L3_T m n) :=
  loop_ok (CO := CallOK Tryz.prog) hmix htt (fun _ _ _ _ h => h) hE (C := fun R => mkC R [g36_T m]) (L := [g25_L4_T m m]) (fun _ _ _ _ _ h => mkC_spec (AllF.mem (l := [g36_T m]) ⟨g36_ok m, trivial⟩) h) (fun _ _ => loopsIn_of g25_B6_ls ⟨mkLp_all ⟨fun _ => g25_L4_ok hE m m, trivial⟩, trivial⟩) (fun n => (g25_L3_R m n)) (fun _ => by kernel_rfl) (fun n x => (g25_L3_kr m n x).trans (by kernel_rfl)) n
abbrev g25_L2_I : SS := [(0, .a (.bx 0 [(.imm (.sl false (.pr (.int .i64) (.int .i64)))), (.nm 1 (.int .i64)), (.nm 2 (.int .i64)), (.nm 3 (.int .i64)), (.nm 4 (.int .i64))])), (2, .a (.c (.nm 5 (.int .i64)))), (3, .a (.c (.nm 6 (.int .i64)))), (5, .a (.c (.nm 7 (.int .i64)))), (10, .a (.c .bool))]
abbrev g25_L2_O : List (Ex × SS) := [(.exit 4, [(0, .a (.bx 0 [(.imm (.sl false (.pr (.int .i64) (.int .i64)))), (.nm 1 (.int .i64)), (.nm 2 (.int .i64)), (.nm 3 (.int .i64)), (.nm 4 (.int .i64))])), (2, .a (.c (.nm 5 (.int .i64)))), (3, .a (.c (.nm 6 (.int .i64)))), (5, .a (.c (.nm 7 (.int .i64))))])]
def g25_L2_R (m n : Nat) : g25_L2_I.Val → Option (outVal g25_L2_O) := (fun (x : ((List (List (Int × Int))) × List Int × List Int × List Int × List Int × Unit) × List Int × List Int × List Int × Bool × Unit) => g25_L2 m n x.1.1 x.1.2.1 x.1.2.2.1 x.1.2.2.2.1 x.1.2.2.2.2.1 x.2.1 x.2.2.1 x.2.2.2.1 x.2.2.2.2.1)
def g25_L2_T (m n : Nat) : LoopT := ⟨4, g25_L2_I, g25_L2_O, g25_L2_R m n⟩
theorem g25_L2_kr (m n : Nat) (x : g25_L2_I.Val) : roundK (mkC (outVal g25_L2_O) [g36_T m]) (mkLp (outVal g25_L2_O) [g25_L3_T m m]) tt 137 g25_H g25_B4 4 (g25_L2_I.enc x) (Kl (ins := g25_L2_I) (outs := g25_L2_O) (g25_L2_R m n)) = g25_L2 m (n + 1) x.1.1 x.1.2.1 x.1.2.2.1 x.1.2.2.2.1 x.1.2.2.2.2.1 x.2.1 x.2.2.1 x.2.2.2.1 x.2.2.2.2.1 := by kernel_rfl
theorem g25_L2_ok {E : Entry} (hE : EOf Tryz.prog E 137 g25_H.pins) (m : Nat) (n : Nat) : LoopOK Tryz.prog E g25_B4 (g25_L2_T m n) :=
  loop_ok (CO := CallOK Tryz.prog) hmix htt (fun _ _ _ _ h => h) hE (C := fun R => mkC R [g36_T m]) (L := [g25_L3_T m m]) (fun _ _ _ _ _ h => mkC_spec (AllF.mem (l := [g36_T m]) ⟨g36_ok m, trivial⟩) h) (fun _ _ => loopsIn_of g25_B4_ls ⟨mkLp_all ⟨fun _ => g25_L3_ok hE m m, trivial⟩, trivial⟩) (fun n => (g25_L2_R m n)) (fun _ => by kernel_rfl) (fun n x => (g25_L2_kr m n x).trans (by kernel_rfl)) n
abbrev g25_L1_I : SS := [(0, .a (.bx 0 [(.imm (.sl false (.pr (.int .i64) (.int .i64)))), (.nm 1 (.int .i64)), (.nm 2 (.int .i64)), (.nm 3 (.int .i64)), (.nm 4 (.int .i64))])), (2, .a (.c (.nm 5 (.int .i64)))), (3, .a (.c (.nm 6 (.int .i64)))), (5, .a (.c (.nm 7 (.int .i64)))), (6, .a (.c (.int .i64))), (33, .a (.c (.imm (.sl false (.pr (.int .i64) (.int .i64)))))), (34, .a (.c (.int .i64))), (35, .a (.c (.int .i64))), (40, .a (.c (.imm (.pr (.int .i64) (.int .i64))))), (41, .a (.c (.int .i64))), (42, .a (.c (.int .i64)))]
abbrev g25_L1_O : List (Ex × SS) := [(.exit 2, [(0, .a (.bx 0 [(.imm (.sl false (.pr (.int .i64) (.int .i64)))), (.nm 1 (.int .i64)), (.nm 2 (.int .i64)), (.nm 3 (.int .i64)), (.nm 4 (.int .i64))])), (2, .a (.c (.nm 5 (.int .i64)))), (3, .a (.c (.nm 6 (.int .i64)))), (5, .a (.c (.nm 7 (.int .i64)))), (33, .a (.c (.imm (.sl false (.pr (.int .i64) (.int .i64)))))), (34, .a (.c (.int .i64))), (35, .a (.c (.int .i64)))])]
def g25_L1_R (m n : Nat) : g25_L1_I.Val → Option (outVal g25_L1_O) := (fun (x : ((List (List (Int × Int))) × List Int × List Int × List Int × List Int × Unit) × List Int × List Int × List Int × Int × (List (List (Int × Int))) × Int × Int × (List (Int × Int)) × Int × Int × Unit) => g25_L1 m n x.1.1 x.1.2.1 x.1.2.2.1 x.1.2.2.2.1 x.1.2.2.2.2.1 x.2.1 x.2.2.1 x.2.2.2.1 x.2.2.2.2.1 x.2.2.2.2.2.1 x.2.2.2.2.2.2.1 x.2.2.2.2.2.2.2.1 x.2.2.2.2.2.2.2.2.1 x.2.2.2.2.2.2.2.2.2.1 x.2.2.2.2.2.2.2.2.2.2.1)
def g25_L1_T (m n : Nat) : LoopT := ⟨2, g25_L1_I, g25_L1_O, g25_L1_R m n⟩
theorem g25_L1_kr (m n : Nat) (x : g25_L1_I.Val) : roundK (mkC (outVal g25_L1_O) [g36_T m]) (mkLp (outVal g25_L1_O) []) tt 137 g25_H g25_B2 2 (g25_L1_I.enc x) (Kl (ins := g25_L1_I) (outs := g25_L1_O) (g25_L1_R m n)) = g25_L1 m (n + 1) x.1.1 x.1.2.1 x.1.2.2.1 x.1.2.2.2.1 x.1.2.2.2.2.1 x.2.1 x.2.2.1 x.2.2.2.1 x.2.2.2.2.1 x.2.2.2.2.2.1 x.2.2.2.2.2.2.1 x.2.2.2.2.2.2.2.1 x.2.2.2.2.2.2.2.2.1 x.2.2.2.2.2.2.2.2.2.1 x.2.2.2.2.2.2.2.2.2.2.1 := by kernel_rfl
theorem g25_L1_ok {E : Entry} (hE : EOf Tryz.prog E 137 g25_H.pins) (m : Nat) (n : Nat) : LoopOK Tryz.prog E g25_B2 (g25_L1_T m n) :=
  loop_ok (CO := CallOK Tryz.prog) hmix htt (fun _ _ _ _ h => h) hE (C := fun R => mkC R [g36_T m]) (L := []) (fun _ _ _ _ _ h => mkC_spec (AllF.mem (l := [g36_T m]) ⟨g36_ok m, trivial⟩) h) (fun _ _ => loopsIn_of g25_B2_ls trivial) (fun n => (g25_L1_R m n)) (fun _ => by kernel_rfl) (fun n x => (g25_L1_kr m n x).trans (by kernel_rfl)) n
abbrev g25_L0_I : SS := [(0, .a (.bx 0 [(.imm (.sl false (.pr (.int .i64) (.int .i64)))), (.nm 1 (.int .i64)), (.nm 2 (.int .i64)), (.nm 3 (.int .i64)), (.nm 4 (.int .i64))])), (2, .a (.c (.nm 5 (.int .i64)))), (3, .a (.c (.nm 6 (.int .i64)))), (5, .a (.c (.nm 7 (.int .i64)))), (33, .a (.c (.imm (.sl false (.pr (.int .i64) (.int .i64)))))), (34, .a (.c (.int .i64))), (35, .a (.c (.int .i64)))]
abbrev g25_L0_O : List (Ex × SS) := [(.exit 0, [(0, .a (.bx 0 [(.imm (.sl false (.pr (.int .i64) (.int .i64)))), (.nm 1 (.int .i64)), (.nm 2 (.int .i64)), (.nm 3 (.int .i64)), (.nm 4 (.int .i64))])), (2, .a (.c (.nm 5 (.int .i64)))), (3, .a (.c (.nm 6 (.int .i64)))), (5, .a (.c (.nm 7 (.int .i64))))])]
def g25_L0_R (m n : Nat) : g25_L0_I.Val → Option (outVal g25_L0_O) := (fun (x : ((List (List (Int × Int))) × List Int × List Int × List Int × List Int × Unit) × List Int × List Int × List Int × (List (List (Int × Int))) × Int × Int × Unit) => g25_L0 m n x.1.1 x.1.2.1 x.1.2.2.1 x.1.2.2.2.1 x.1.2.2.2.2.1 x.2.1 x.2.2.1 x.2.2.2.1 x.2.2.2.2.1 x.2.2.2.2.2.1 x.2.2.2.2.2.2.1)
def g25_L0_T (m n : Nat) : LoopT := ⟨0, g25_L0_I, g25_L0_O, g25_L0_R m n⟩
theorem g25_L0_kr (m n : Nat) (x : g25_L0_I.Val) : roundK (mkC (outVal g25_L0_O) [g36_T m]) (mkLp (outVal g25_L0_O) [g25_L1_T m m]) tt 137 g25_H g25_B0 0 (g25_L0_I.enc x) (Kl (ins := g25_L0_I) (outs := g25_L0_O) (g25_L0_R m n)) = g25_L0 m (n + 1) x.1.1 x.1.2.1 x.1.2.2.1 x.1.2.2.2.1 x.1.2.2.2.2.1 x.2.1 x.2.2.1 x.2.2.2.1 x.2.2.2.2.1 x.2.2.2.2.2.1 x.2.2.2.2.2.2.1 := by kernel_rfl
theorem g25_L0_ok {E : Entry} (hE : EOf Tryz.prog E 137 g25_H.pins) (m : Nat) (n : Nat) : LoopOK Tryz.prog E g25_B0 (g25_L0_T m n) :=
  loop_ok (CO := CallOK Tryz.prog) hmix htt (fun _ _ _ _ h => h) hE (C := fun R => mkC R [g36_T m]) (L := [g25_L1_T m m]) (fun _ _ _ _ _ h => mkC_spec (AllF.mem (l := [g36_T m]) ⟨g36_ok m, trivial⟩) h) (fun _ _ => loopsIn_of g25_B0_ls ⟨mkLp_all ⟨fun _ => g25_L1_ok hE m m, trivial⟩, trivial⟩) (fun n => (g25_L0_R m n)) (fun _ => by kernel_rfl) (fun n x => (g25_L0_kr m n x).trans (by kernel_rfl)) n
theorem g25_kr (m : Nat) (x : ShLVal g25_A) : fnK (mkC (g25_S.Val × ShLVal g25_U) [g36_T m]) (mkLp (g25_S.Val × ShLVal g25_U) [g25_L0_T m m, g25_L2_T m m, g25_L5_T m m]) tt g25_H Tryz.f25 (encS g25_A x) (Kd g25_S g25_U) = g25 m x.1.1 x.1.2.1 x.1.2.2.1 x.1.2.2.2.1 x.1.2.2.2.2.1 := by kernel_rfl
theorem g25_ok (m : Nat) : FunOK Tryz.prog (g25_T m) :=
  fun_ok hmix htt (g25_T m) Tryz.func25 (c := g25_C) (by kernel_rfl) (by kernel_rfl) (Lc := [g36_T m]) (AllF.mem (l := [g36_T m]) ⟨g36_ok m, trivial⟩) (L := [g25_L0_T m m, g25_L2_T m m, g25_L5_T m m]) (fun _ hE _ _ => loopsIn_of g25_C_ls ⟨mkLp_all ⟨fun _ => g25_L0_ok hE m m, fun h => absurd (show (4 : Nat) = 0 from h) (by decide), fun h => absurd (show (10 : Nat) = 0 from h) (by decide), trivial⟩, mkLp_all ⟨fun h => absurd (show (0 : Nat) = 4 from h) (by decide), fun _ => g25_L2_ok hE m m, fun h => absurd (show (10 : Nat) = 4 from h) (by decide), trivial⟩, mkLp_all ⟨fun h => absurd (show (0 : Nat) = 10 from h) (by decide), fun h => absurd (show (4 : Nat) = 10 from h) (by decide), fun _ => g25_L5_ok hE m m, trivial⟩, trivial⟩) (fun x => (g25_kr m x).trans (by kernel_rfl))
/-! 8 sparse/transversal.Maximum -/
def g8_H : Hints := { regs := [⟨[], [1, 2]⟩, ⟨[], [1, 2, 4]⟩, ⟨[], [1, 2, 4, 12]⟩, ⟨[(1, 1)], [2, 3]⟩, ⟨[(3, 1)], [2, 5, 6]⟩, ⟨[(0, 1)], [2, 5, 22]⟩, ⟨[], [2, 3]⟩, ⟨[], [2, 5]⟩, ⟨[(2, 1)], [2, 5, 7, 8]⟩, ⟨[(0, 1), (3, 1), (4, 1), (5, 1)], [2, 3]⟩], heads := [], exits := [], rets := [2, 3], pins := [], spec := [[true, true, true], [false]] }
abbrev g8_A : List Sh := [.a (.agg [(.int .i64), (.int .i64), (.imm (.int .i64)), (.imm (.int .i64)), (.imm (.int .u64))])]
abbrev g8_S : Sh := .tup [(.agg [(.nm 0 (.int .i64)), (.nm 1 (.int .i64)), (.nm 2 (.int .i64))]), (.c (.int .i64))]
abbrev g8_U : List Sh := [.a (.c .dead)]
def g8_R (m : Nat) : ShLVal g8_A → Option (g8_S.Val × ShLVal g8_U) := fun (x : (Int × Int × List Int × List Int × List Int × Unit) × Unit) => g8 m x.1.1 x.1.2.1 x.1.2.2.1 x.1.2.2.2.1 x.1.2.2.2.2.1
def g8_T (m : Nat) : FunT := ⟨8, g8_A, g8_S, g8_U, g8_R m⟩
noncomputable def g8_C : Code := codeOf Tryz.f8
theorem g8_C_ls : loopsL g8_C 0 = [] := by kernel_rfl
theorem g8_kr (m : Nat) (x : ShLVal g8_A) : fnK (mkC (g8_S.Val × ShLVal g8_U) [g21_T m, g23_T m, g22_T m, g24_T m, g25_T m]) (mkLp (g8_S.Val × ShLVal g8_U) []) tt g8_H Tryz.f8 (encS g8_A x) (Kd g8_S g8_U) = g8 m x.1.1 x.1.2.1 x.1.2.2.1 x.1.2.2.2.1 x.1.2.2.2.2.1 := by kernel_rfl
theorem g8_ok (m : Nat) : FunOK Tryz.prog (g8_T m) :=
  fun_ok hmix htt (g8_T m) Tryz.func8 (c := g8_C) (by kernel_rfl) (by kernel_rfl) (Lc := [g21_T m, g23_T m, g22_T m, g24_T m, g25_T m]) (AllF.mem (l := [g21_T m, g23_T m, g22_T m, g24_T m, g25_T m]) ⟨g21_ok m, g23_ok m, g22_ok m, g24_ok m, g25_ok m, trivial⟩) (L := []) (fun _ hE _ _ => loopsIn_of g8_C_ls trivial) (fun x => (g8_kr m x).trans (by kernel_rfl))
/-! 17 sparse/sparsekit.Ints -/
def g17_H : Hints := { regs := [⟨[], [0, 1]⟩, ⟨[], [0, 1, 10]⟩, ⟨[], [4]⟩, ⟨[], [0, 1, 5]⟩, ⟨[], [0, 1, 5, 14]⟩, ⟨[(0, 1)], [0, 1, 5]⟩, ⟨[], [0, 1, 5, 25]⟩, ⟨[], [4]⟩, ⟨[], [4]⟩], heads := [(0, [0, 1, 5])], exits := [(0, []), (1, [0, 1, 5])], rets := [4], pins := [], spec := [[false]] }
abbrev g17_A : List Sh := [.a (.c (.imm (.int .i64))), .a (.c (.imm (.int .i64)))]
abbrev g17_S : Sh := .a (.c .bool)
abbrev g17_U : List Sh := [.a (.c .dead), .a (.c .dead)]
def g17_R (m : Nat) : ShLVal g17_A → Option (g17_S.Val × ShLVal g17_U) := fun (x : List Int × List Int × Unit) => g17 m x.1 x.2.1
def g17_T (m : Nat) : FunT := ⟨17, g17_A, g17_S, g17_U, g17_R m⟩
noncomputable def g17_C : Code := codeOf Tryz.f17
noncomputable def g17_B0 : Code := loopAt g17_C 0 0
theorem g17_B0_ls : loopsL g17_B0 0 = [] := by kernel_rfl
theorem g17_C_ls : loopsL g17_C 0 = [(0, g17_B0)] := by kernel_rfl
abbrev g17_L0_I : SS := [(0, .a (.c (.imm (.int .i64)))), (1, .a (.c (.imm (.int .i64)))), (5, .a (.c (.int .i64)))]
abbrev g17_L0_O : List (Ex × SS) := [(.ret, [(4, .a (.c .bool))]), (.exit 0, [])]
def g17_L0_R (m n : Nat) : g17_L0_I.Val → Option (outVal g17_L0_O) := (fun (x : List Int × List Int × Int × Unit) => g17_L0 m n x.1 x.2.1 x.2.2.1)
def g17_L0_T (m n : Nat) : LoopT := ⟨0, g17_L0_I, g17_L0_O, g17_L0_R m n⟩
theorem g17_L0_kr (m n : Nat) (x : g17_L0_I.Val) : roundK (mkC (outVal g17_L0_O) []) (mkLp (outVal g17_L0_O) []) tt 26 g17_H g17_B0 0 (g17_L0_I.enc x) (Kl (ins := g17_L0_I) (outs := g17_L0_O) (g17_L0_R m n)) = g17_L0 m (n + 1) x.1 x.2.1 x.2.2.1 := by kernel_rfl
theorem g17_L0_ok {E : Entry} (hE : EOf Tryz.prog E 26 g17_H.pins) (m : Nat) (n : Nat) : LoopOK Tryz.prog E g17_B0 (g17_L0_T m n) :=
  loop_ok (CO := CallOK Tryz.prog) hmix htt (fun _ _ _ _ h => h) hE (C := fun R => mkC R []) (L := []) (fun _ _ _ _ _ h => mkC_spec (AllF.mem (l := []) trivial) h) (fun _ _ => loopsIn_of g17_B0_ls trivial) (fun n => (g17_L0_R m n)) (fun _ => by kernel_rfl) (fun n x => (g17_L0_kr m n x).trans (by kernel_rfl)) n
theorem g17_kr (m : Nat) (x : ShLVal g17_A) : fnK (mkC (g17_S.Val × ShLVal g17_U) []) (mkLp (g17_S.Val × ShLVal g17_U) [g17_L0_T m m]) tt g17_H Tryz.f17 (encS g17_A x) (Kd g17_S g17_U) = g17 m x.1 x.2.1 := by kernel_rfl
theorem g17_ok (m : Nat) : FunOK Tryz.prog (g17_T m) :=
  fun_ok hmix htt (g17_T m) Tryz.func17 (c := g17_C) (by kernel_rfl) (by kernel_rfl) (Lc := []) (AllF.mem (l := []) trivial) (L := [g17_L0_T m m]) (fun _ hE _ _ => loopsIn_of g17_C_ls ⟨mkLp_all ⟨fun _ => g17_L0_ok hE m m, trivial⟩, trivial⟩) (fun x => (g17_kr m x).trans (by kernel_rfl))
/-! 31 sparse/transversal.matched -/
def g31_H : Hints := { regs := [⟨[], [0, 1]⟩, ⟨[], [0, 1, 5]⟩, ⟨[(0, 1)], [0, 5, 14, 15, 16]⟩, ⟨[], [0, 5, 14, 15, 16, 17]⟩, ⟨[], [0, 5, 6, 7, 14, 15, 16]⟩, ⟨[], [0, 5, 6, 7, 8, 14, 15, 16]⟩, ⟨[(1, 1)], [0, 5, 7, 8, 14, 15, 16, 24, 25, 26]⟩, ⟨[], [0, 5, 7, 8, 14, 15, 16, 24, 25, 26, 27]⟩, ⟨[], [0, 5, 7, 8, 10, 14, 15, 16, 24, 25, 26]⟩, ⟨[(0, 1), (1, 1)], [0, 5, 7, 8, 14, 15, 16, 24, 25, 26]⟩, ⟨[(1, 1)], [0, 5, 7, 8, 14, 15, 16, 24, 25, 26]⟩, ⟨[(0, 1), (2, 1)], [0, 5, 7, 14, 15, 16, 45]⟩, ⟨[], [4]⟩, ⟨[(1, 1)], [0, 5, 14, 15, 16]⟩, ⟨[(1, 1)], [0, 5, 14, 15, 16]⟩, ⟨[], [4]⟩], heads := [(0, [0, 5, 14, 15, 16]), (2, [0, 5, 7, 8, 14, 15, 16, 24, 25, 26])], exits := [(0, []), (1, [0, 5, 14, 15, 16]), (2, [0, 5, 7, 8, 14, 15, 16]), (3, [0, 5, 7, 8, 14, 15, 16, 24, 25, 26])], rets := [4], pins := [], spec := [[false]] }
abbrev g31_A : List Sh := [.a (.c (.imm (.sl false (.pr (.int .i64) (.int .i64))))), .a (.c (.imm (.int .i64)))]
abbrev g31_S : Sh := .a (.c .bool)
abbrev g31_U : List Sh := [.a (.c .dead), .a (.c .dead)]
def g31_R (m : Nat) : ShLVal g31_A → Option (g31_S.Val × ShLVal g31_U) := fun (x : (List (List (Int × Int))) × List Int × Unit) => g31 m x.1 x.2.1
def g31_T (m : Nat) : FunT := ⟨31, g31_A, g31_S, g31_U, g31_R m⟩
noncomputable def g31_C : Code := codeOf Tryz.f31
noncomputable def g31_B0 : Code := loopAt g31_C 0 0
noncomputable def g31_B2 : Code := loopAt g31_B0 0 0
theorem g31_B2_ls : loopsL g31_B2 2 = [] := by kernel_rfl
theorem g31_B0_ls : loopsL g31_B0 0 = [(2, g31_B2)] := by kernel_rfl
theorem g31_C_ls : loopsL g31_C 0 = [(0, g31_B0)] := by kernel_rfl
abbrev g31_L1_I : SS := [(0, .a (.c (.imm (.sl false (.pr (.int .i64) (.int .i64)))))), (5, .a (.c (.nm 0 .bool))), (7, .a (.c (.int .i64))), (8, .a (.c .bool)), (14, .a (.c (.imm (.int .i64)))), (15, .a (.c (.int .i64))), (16, .a (.c (.int .i64))), (24, .a (.c (.imm (.pr (.int .i64) (.int .i64))))), (25, .a (.c (.int .i64))), (26, .a (.c (.int .i64)))]
abbrev g31_L1_O : List (Ex × SS) := [(.exit 2, [(0, .a (.c (.imm (.sl false (.pr (.int .i64) (.int .i64)))))), (5, .a (.c (.nm 0 .bool))), (7, .a (.c (.int .i64))), (8, .a (.c .bool)), (14, .a (.c (.imm (.int .i64)))), (15, .a (.c (.int .i64))), (16, .a (.c (.int .i64)))])]
def g31_L1_R (m n : Nat) : g31_L1_I.Val → Option (outVal g31_L1_O) := (fun (x : (List (List (Int × Int))) × List Bool × Int × Bool × List Int × Int × Int × (List (Int × Int)) × Int × Int × Unit) => g31_L1 m n x.1 x.2.1 x.2.2.1 x.2.2.2.1 x.2.2.2.2.1 x.2.2.2.2.2.1 x.2.2.2.2.2.2.1 x.2.2.2.2.2.2.2.1 x.2.2.2.2.2.2.2.2.1 x.2.2.2.2.2.2.2.2.2.1)
def g31_L1_T (m n : Nat) : LoopT := ⟨2, g31_L1_I, g31_L1_O, g31_L1_R m n⟩
theorem g31_L1_kr (m n : Nat) (x : g31_L1_I.Val) : roundK (mkC (outVal g31_L1_O) []) (mkLp (outVal g31_L1_O) []) tt 50 g31_H g31_B2 2 (g31_L1_I.enc x) (Kl (ins := g31_L1_I) (outs := g31_L1_O) (g31_L1_R m n)) = g31_L1 m (n + 1) x.1 x.2.1 x.2.2.1 x.2.2.2.1 x.2.2.2.2.1 x.2.2.2.2.2.1 x.2.2.2.2.2.2.1 x.2.2.2.2.2.2.2.1 x.2.2.2.2.2.2.2.2.1 x.2.2.2.2.2.2.2.2.2.1 := by kernel_rfl
theorem g31_L1_ok {E : Entry} (hE : EOf Tryz.prog E 50 g31_H.pins) (m : Nat) (n : Nat) : LoopOK Tryz.prog E g31_B2 (g31_L1_T m n) :=
  loop_ok (CO := CallOK Tryz.prog) hmix htt (fun _ _ _ _ h => h) hE (C := fun R => mkC R []) (L := []) (fun _ _ _ _ _ h => mkC_spec (AllF.mem (l := []) trivial) h) (fun _ _ => loopsIn_of g31_B2_ls trivial) (fun n => (g31_L1_R m n)) (fun _ => by kernel_rfl) (fun n x => (g31_L1_kr m n x).trans (by kernel_rfl)) n
abbrev g31_L0_I : SS := [(0, .a (.c (.imm (.sl false (.pr (.int .i64) (.int .i64)))))), (5, .a (.c (.nm 0 .bool))), (14, .a (.c (.imm (.int .i64)))), (15, .a (.c (.int .i64))), (16, .a (.c (.int .i64)))]
abbrev g31_L0_O : List (Ex × SS) := [(.ret, [(4, .a (.c .bool))]), (.exit 0, [])]
def g31_L0_R (m n : Nat) : g31_L0_I.Val → Option (outVal g31_L0_O) := (fun (x : (List (List (Int × Int))) × List Bool × List Int × Int × Int × Unit) => g31_L0 m n x.1 x.2.1 x.2.2.1 x.2.2.2.1 x.2.2.2.2.1)
def g31_L0_T (m n : Nat) : LoopT := ⟨0, g31_L0_I, g31_L0_O, g31_L0_R m n⟩
theorem g31_L0_kr (m n : Nat) (x : g31_L0_I.Val) : roundK (mkC (outVal g31_L0_O) []) (mkLp (outVal g31_L0_O) [g31_L1_T m m]) tt 50 g31_H g31_B0 0 (g31_L0_I.enc x) (Kl (ins := g31_L0_I) (outs := g31_L0_O) (g31_L0_R m n)) = g31_L0 m (n + 1) x.1 x.2.1 x.2.2.1 x.2.2.2.1 x.2.2.2.2.1 := by kernel_rfl
theorem g31_L0_ok {E : Entry} (hE : EOf Tryz.prog E 50 g31_H.pins) (m : Nat) (n : Nat) : LoopOK Tryz.prog E g31_B0 (g31_L0_T m n) :=
  loop_ok (CO := CallOK Tryz.prog) hmix htt (fun _ _ _ _ h => h) hE (C := fun R => mkC R []) (L := [g31_L1_T m m]) (fun _ _ _ _ _ h => mkC_spec (AllF.mem (l := []) trivial) h) (fun _ _ => loopsIn_of g31_B0_ls ⟨mkLp_all ⟨fun _ => g31_L1_ok hE m m, trivial⟩, trivial⟩) (fun n => (g31_L0_R m n)) (fun _ => by kernel_rfl) (fun n x => (g31_L0_kr m n x).trans (by kernel_rfl)) n
theorem g31_kr (m : Nat) (x : ShLVal g31_A) : fnK (mkC (g31_S.Val × ShLVal g31_U) []) (mkLp (g31_S.Val × ShLVal g31_U) [g31_L0_T m m]) tt g31_H Tryz.f31 (encS g31_A x) (Kd g31_S g31_U) = g31 m x.1 x.2.1 := by kernel_rfl
theorem g31_ok (m : Nat) : FunOK Tryz.prog (g31_T m) :=
  fun_ok hmix htt (g31_T m) Tryz.func31 (c := g31_C) (by kernel_rfl) (by kernel_rfl) (Lc := []) (AllF.mem (l := []) trivial) (L := [g31_L0_T m m]) (fun _ hE _ _ => loopsIn_of g31_C_ls ⟨mkLp_all ⟨fun _ => g31_L0_ok hE m m, trivial⟩, trivial⟩) (fun x => (g31_kr m x).trans (by kernel_rfl))
/-! 52 sparse/transversal.sum -/
def g52_H : Hints := { regs := [⟨[], [0, 1]⟩, ⟨[], [0, 1, 5]⟩, ⟨[(2, 1), (6, 1)], [0, 1, 5, 9]⟩, ⟨[], [4]⟩, ⟨[(0, 1), (2, 1), (3, 1), (6, 1)], [5, 20]⟩, ⟨[], [4]⟩, ⟨[(0, 1)], [4]⟩], heads := [], exits := [(0, [5])], rets := [4], pins := [], spec := [[false]] }
abbrev g52_A : List Sh := [.a (.c (.int .i64)), .a (.c (.int .i64))]
abbrev g52_S : Sh := .a (.c (.int .i64))
abbrev g52_U : List Sh := [.a (.c .dead), .a (.c .dead)]
def g52_R (m : Nat) : ShLVal g52_A → Option (g52_S.Val × ShLVal g52_U) := fun (x : Int × Int × Unit) => g52 m x.1 x.2.1
def g52_T (m : Nat) : FunT := ⟨52, g52_A, g52_S, g52_U, g52_R m⟩
noncomputable def g52_C : Code := codeOf Tryz.f52
theorem g52_C_ls : loopsL g52_C 0 = [] := by kernel_rfl
theorem g52_kr (m : Nat) (x : ShLVal g52_A) : fnK (mkC (g52_S.Val × ShLVal g52_U) []) (mkLp (g52_S.Val × ShLVal g52_U) []) tt g52_H Tryz.f52 (encS g52_A x) (Kd g52_S g52_U) = g52 m x.1 x.2.1 := by kernel_rfl
theorem g52_ok (m : Nat) : FunOK Tryz.prog (g52_T m) :=
  fun_ok hmix htt (g52_T m) Tryz.func52 (c := g52_C) (by kernel_rfl) (by kernel_rfl) (Lc := []) (AllF.mem (l := []) trivial) (L := []) (fun _ hE _ _ => loopsIn_of g52_C_ls trivial) (fun x => (g52_kr m x).trans (by kernel_rfl))
/-! 32 sparse/transversal.proved -/
def g32_H : Hints := { regs := [⟨[], [0, 3]⟩, ⟨[(0, 1)], [3, 10, 11, 12]⟩, ⟨[], [3, 10, 11, 12, 13]⟩, ⟨[], [3, 5, 6, 10, 11, 12]⟩, ⟨[(0, 1)], [3, 5, 10, 11, 12, 17, 18, 19]⟩, ⟨[], [3, 5, 10, 11, 12, 17, 18, 19, 20]⟩, ⟨[], [3, 5, 8, 10, 11, 12, 17, 18, 19]⟩, ⟨[], [3, 5, 8, 9, 10, 11, 12, 17, 18, 19]⟩, ⟨[(4, 1), (9, 1)], [3, 5, 10, 11, 12, 17, 18, 19, 54]⟩, ⟨[], [4]⟩, ⟨[(1, 1)], [3, 5, 10, 11, 12, 17, 18, 19]⟩, ⟨[(1, 1)], [3, 10, 11, 12]⟩, ⟨[], [4]⟩], heads := [(0, [3, 10, 11, 12]), (2, [3, 5, 10, 11, 12, 17, 18, 19])], exits := [(0, []), (1, [3, 10, 11, 12]), (2, [3, 10, 11, 12]), (3, [3, 5, 10, 11, 12, 17, 18, 19])], rets := [4], pins := [], spec := [[false]] }
abbrev g32_A : List Sh := [.a (.c (.imm (.sl false (.pr (.int .i64) (.int .i64))))), .a (.agg [(.imm (.int .i64)), (.imm (.int .i64)), (.imm (.int .i64))])]
abbrev g32_S : Sh := .a (.c .bool)
abbrev g32_U : List Sh := [.a (.c .dead), .a (.c .dead)]
def g32_R (m : Nat) : ShLVal g32_A → Option (g32_S.Val × ShLVal g32_U) := fun (x : (List (List (Int × Int))) × (List Int × List Int × List Int × Unit) × Unit) => g32 m x.1 x.2.1.1 x.2.1.2.1 x.2.1.2.2.1
def g32_T (m : Nat) : FunT := ⟨32, g32_A, g32_S, g32_U, g32_R m⟩
noncomputable def g32_C : Code := codeOf Tryz.f32
noncomputable def g32_B0 : Code := loopAt g32_C 0 0
noncomputable def g32_B2 : Code := loopAt g32_B0 0 0
theorem g32_B2_ls : loopsL g32_B2 2 = [] := by kernel_rfl
theorem g32_B0_ls : loopsL g32_B0 0 = [(2, g32_B2)] := by kernel_rfl
theorem g32_C_ls : loopsL g32_C 0 = [(0, g32_B0)] := by kernel_rfl
abbrev g32_L1_I : SS := [(3, .a (.bx 0 [(.imm (.int .i64)), (.imm (.int .i64)), (.imm (.int .i64))])), (5, .a (.c (.int .i64))), (10, .a (.c (.imm (.sl false (.pr (.int .i64) (.int .i64)))))), (11, .a (.c (.int .i64))), (12, .a (.c (.int .i64))), (17, .a (.c (.imm (.pr (.int .i64) (.int .i64))))), (18, .a (.c (.int .i64))), (19, .a (.c (.int .i64)))]
abbrev g32_L1_O : List (Ex × SS) := [(.ret, [(4, .a (.c .bool))]), (.exit 2, [(3, .a (.bx 0 [(.imm (.int .i64)), (.imm (.int .i64)), (.imm (.int .i64))])), (10, .a (.c (.imm (.sl false (.pr (.int .i64) (.int .i64)))))), (11, .a (.c (.int .i64))), (12, .a (.c (.int .i64)))])]
def g32_L1_R (m n : Nat) : g32_L1_I.Val → Option (outVal g32_L1_O) := (fun (x : (List Int × List Int × List Int × Unit) × Int × (List (List (Int × Int))) × Int × Int × (List (Int × Int)) × Int × Int × Unit) => g32_L1 m n x.1.1 x.1.2.1 x.1.2.2.1 x.2.1 x.2.2.1 x.2.2.2.1 x.2.2.2.2.1 x.2.2.2.2.2.1 x.2.2.2.2.2.2.1 x.2.2.2.2.2.2.2.1)
def g32_L1_T (m n : Nat) : LoopT := ⟨2, g32_L1_I, g32_L1_O, g32_L1_R m n⟩
theorem g32_L1_kr (m n : Nat) (x : g32_L1_I.Val) : roundK (mkC (outVal g32_L1_O) [g52_T m]) (mkLp (outVal g32_L1_O) []) tt 57 g32_H g32_B2 2 (g32_L1_I.enc x) (Kl (ins := g32_L1_I) (outs := g32_L1_O) (g32_L1_R m n)) = g32_L1 m (n + 1) x.1.1 x.1.2.1 x.1.2.2.1 x.2.1 x.2.2.1 x.2.2.2.1 x.2.2.2.2.1 x.2.2.2.2.2.1 x.2.2.2.2.2.2.1 x.2.2.2.2.2.2.2.1 := by kernel_rfl
theorem g32_L1_ok {E : Entry} (hE : EOf Tryz.prog E 57 g32_H.pins) (m : Nat) (n : Nat) : LoopOK Tryz.prog E g32_B2 (g32_L1_T m n) :=
  loop_ok (CO := CallOK Tryz.prog) hmix htt (fun _ _ _ _ h => h) hE (C := fun R => mkC R [g52_T m]) (L := []) (fun _ _ _ _ _ h => mkC_spec (AllF.mem (l := [g52_T m]) ⟨g52_ok m, trivial⟩) h) (fun _ _ => loopsIn_of g32_B2_ls trivial) (fun n => (g32_L1_R m n)) (fun _ => by kernel_rfl) (fun n x => (g32_L1_kr m n x).trans (by kernel_rfl)) n
abbrev g32_L0_I : SS := [(3, .a (.bx 0 [(.imm (.int .i64)), (.imm (.int .i64)), (.imm (.int .i64))])), (10, .a (.c (.imm (.sl false (.pr (.int .i64) (.int .i64)))))), (11, .a (.c (.int .i64))), (12, .a (.c (.int .i64)))]
abbrev g32_L0_O : List (Ex × SS) := [(.ret, [(4, .a (.c .bool))]), (.exit 0, [])]
def g32_L0_R (m n : Nat) : g32_L0_I.Val → Option (outVal g32_L0_O) := (fun (x : (List Int × List Int × List Int × Unit) × (List (List (Int × Int))) × Int × Int × Unit) => g32_L0 m n x.1.1 x.1.2.1 x.1.2.2.1 x.2.1 x.2.2.1 x.2.2.2.1)
def g32_L0_T (m n : Nat) : LoopT := ⟨0, g32_L0_I, g32_L0_O, g32_L0_R m n⟩
theorem g32_L0_kr (m n : Nat) (x : g32_L0_I.Val) : roundK (mkC (outVal g32_L0_O) [g52_T m]) (mkLp (outVal g32_L0_O) [g32_L1_T m m]) tt 57 g32_H g32_B0 0 (g32_L0_I.enc x) (Kl (ins := g32_L0_I) (outs := g32_L0_O) (g32_L0_R m n)) = g32_L0 m (n + 1) x.1.1 x.1.2.1 x.1.2.2.1 x.2.1 x.2.2.1 x.2.2.2.1 := by kernel_rfl
theorem g32_L0_ok {E : Entry} (hE : EOf Tryz.prog E 57 g32_H.pins) (m : Nat) (n : Nat) : LoopOK Tryz.prog E g32_B0 (g32_L0_T m n) :=
  loop_ok (CO := CallOK Tryz.prog) hmix htt (fun _ _ _ _ h => h) hE (C := fun R => mkC R [g52_T m]) (L := [g32_L1_T m m]) (fun _ _ _ _ _ h => mkC_spec (AllF.mem (l := [g52_T m]) ⟨g52_ok m, trivial⟩) h) (fun _ _ => loopsIn_of g32_B0_ls ⟨mkLp_all ⟨fun _ => g32_L1_ok hE m m, trivial⟩, trivial⟩) (fun n => (g32_L0_R m n)) (fun _ => by kernel_rfl) (fun n x => (g32_L0_kr m n x).trans (by kernel_rfl)) n
theorem g32_kr (m : Nat) (x : ShLVal g32_A) : fnK (mkC (g32_S.Val × ShLVal g32_U) [g52_T m]) (mkLp (g32_S.Val × ShLVal g32_U) [g32_L0_T m m]) tt g32_H Tryz.f32 (encS g32_A x) (Kd g32_S g32_U) = g32 m x.1 x.2.1.1 x.2.1.2.1 x.2.1.2.2.1 := by kernel_rfl
theorem g32_ok (m : Nat) : FunOK Tryz.prog (g32_T m) :=
  fun_ok hmix htt (g32_T m) Tryz.func32 (c := g32_C) (by kernel_rfl) (by kernel_rfl) (Lc := [g52_T m]) (AllF.mem (l := [g52_T m]) ⟨g52_ok m, trivial⟩) (L := [g32_L0_T m m]) (fun _ hE _ _ => loopsIn_of g32_C_ls ⟨mkLp_all ⟨fun _ => g32_L0_ok hE m m, trivial⟩, trivial⟩) (fun x => (g32_kr m x).trans (by kernel_rfl))
/-! 18 sparse/transversal.Check -/
def g18_H : Hints := { regs := [⟨[], [2, 3]⟩, ⟨[], [2, 3, 5]⟩, ⟨[], [2, 3, 5, 9]⟩, ⟨[(0, 1)], [4]⟩, ⟨[(6, 1), (14, 1)], [2, 3, 13]⟩, ⟨[], [4]⟩, ⟨[], [3, 6]⟩, ⟨[], [3, 6, 38]⟩, ⟨[], [4]⟩, ⟨[(0, 1)], [44]⟩, ⟨[], [4]⟩, ⟨[], [4]⟩], heads := [], exits := [(0, [2, 3]), (1, [])], rets := [4], pins := [], spec := [[false]] }
abbrev g18_A : List Sh := [.a (.agg [(.int .i64), (.int .i64), (.imm (.int .i64)), (.imm (.int .i64)), (.imm (.int .u64))]), .a (.agg [(.imm (.int .i64)), (.imm (.int .i64)), (.imm (.int .i64))])]
abbrev g18_S : Sh := .a (.c (.int .i64))
abbrev g18_U : List Sh := [.a (.c .dead), .a (.c .dead)]
def g18_R (m : Nat) : ShLVal g18_A → Option (g18_S.Val × ShLVal g18_U) := fun (x : (Int × Int × List Int × List Int × List Int × Unit) × (List Int × List Int × List Int × Unit) × Unit) => g18 m x.1.1 x.1.2.1 x.1.2.2.1 x.1.2.2.2.1 x.1.2.2.2.2.1 x.2.1.1 x.2.1.2.1 x.2.1.2.2.1
def g18_T (m : Nat) : FunT := ⟨18, g18_A, g18_S, g18_U, g18_R m⟩
noncomputable def g18_C : Code := codeOf Tryz.f18
theorem g18_C_ls : loopsL g18_C 0 = [] := by kernel_rfl
theorem g18_kr (m : Nat) (x : ShLVal g18_A) : fnK (mkC (g18_S.Val × ShLVal g18_U) [g21_T m, g23_T m, g31_T m, g32_T m]) (mkLp (g18_S.Val × ShLVal g18_U) []) tt g18_H Tryz.f18 (encS g18_A x) (Kd g18_S g18_U) = g18 m x.1.1 x.1.2.1 x.1.2.2.1 x.1.2.2.2.1 x.1.2.2.2.2.1 x.2.1.1 x.2.1.2.1 x.2.1.2.2.1 := by kernel_rfl
theorem g18_ok (m : Nat) : FunOK Tryz.prog (g18_T m) :=
  fun_ok hmix htt (g18_T m) Tryz.func18 (c := g18_C) (by kernel_rfl) (by kernel_rfl) (Lc := [g21_T m, g23_T m, g31_T m, g32_T m]) (AllF.mem (l := [g21_T m, g23_T m, g31_T m, g32_T m]) ⟨g21_ok m, g23_ok m, g31_ok m, g32_ok m, trivial⟩) (L := []) (fun _ hE _ _ => loopsIn_of g18_C_ls trivial) (fun x => (g18_kr m x).trans (by kernel_rfl))
/-! 5 sparse/sparselaw14.awake -/
def sparselaw14_awake_H : Hints := { regs := [⟨[], []⟩, ⟨[], [1]⟩, ⟨[(2, 1)], [1, 2, 3]⟩, ⟨[(0, 1), (2, 1), (8, 1), (14, 1), (20, 1)], [0]⟩], heads := [], exits := [], rets := [0], pins := [], spec := [[false]] }
abbrev sparselaw14_awake_A : List Sh := []
abbrev sparselaw14_awake_S : Sh := .a (.c .bool)
abbrev sparselaw14_awake_U : List Sh := []
def sparselaw14_awake_R (m : Nat) : ShLVal sparselaw14_awake_A → Option (sparselaw14_awake_S.Val × ShLVal sparselaw14_awake_U) := fun (x : Unit) => sparselaw14_awake m
def sparselaw14_awake_T (m : Nat) : FunT := ⟨5, sparselaw14_awake_A, sparselaw14_awake_S, sparselaw14_awake_U, sparselaw14_awake_R m⟩
noncomputable def sparselaw14_awake_C : Code := codeOf Tryz.f5
theorem sparselaw14_awake_C_ls : loopsL sparselaw14_awake_C 0 = [] := by kernel_rfl
theorem sparselaw14_awake_kr (m : Nat) (x : ShLVal sparselaw14_awake_A) : fnK (mkC (sparselaw14_awake_S.Val × ShLVal sparselaw14_awake_U) [g8_T m, g17_T m, g18_T m]) (mkLp (sparselaw14_awake_S.Val × ShLVal sparselaw14_awake_U) []) tt sparselaw14_awake_H Tryz.f5 (encS sparselaw14_awake_A x) (Kd sparselaw14_awake_S sparselaw14_awake_U) = sparselaw14_awake m := by kernel_rfl
theorem sparselaw14_awake_ok (m : Nat) : FunOK Tryz.prog (sparselaw14_awake_T m) :=
  fun_ok hmix htt (sparselaw14_awake_T m) Tryz.func5 (c := sparselaw14_awake_C) (by kernel_rfl) (by kernel_rfl) (Lc := [g8_T m, g17_T m, g18_T m]) (AllF.mem (l := [g8_T m, g17_T m, g18_T m]) ⟨g8_ok m, g17_ok m, g18_ok m, trivial⟩) (L := []) (fun _ hE _ _ => loopsIn_of sparselaw14_awake_C_ls trivial) (fun x => (sparselaw14_awake_kr m x).trans (by kernel_rfl))
/-! 6 sparse/sparsekit.Place -/
def g6_H : Hints := { regs := [⟨[], [0, 1]⟩, ⟨[(0, 1), (2, 1)], [4]⟩], heads := [], exits := [], rets := [4], pins := [], spec := [[false]] }
abbrev g6_A : List Sh := [.a (.c (.int .i64)), .a (.c (.int .i64))]
abbrev g6_S : Sh := .a (.c (.int .i64))
abbrev g6_U : List Sh := [.a (.c .dead), .a (.c .dead)]
def g6_R (m : Nat) : ShLVal g6_A → Option (g6_S.Val × ShLVal g6_U) := fun (x : Int × Int × Unit) => g6 m x.1 x.2.1
def g6_T (m : Nat) : FunT := ⟨6, g6_A, g6_S, g6_U, g6_R m⟩
noncomputable def g6_C : Code := codeOf Tryz.f6
theorem g6_C_ls : loopsL g6_C 0 = [] := by kernel_rfl
theorem g6_kr (m : Nat) (x : ShLVal g6_A) : fnK (mkC (g6_S.Val × ShLVal g6_U) []) (mkLp (g6_S.Val × ShLVal g6_U) []) tt g6_H Tryz.f6 (encS g6_A x) (Kd g6_S g6_U) = g6 m x.1 x.2.1 := by kernel_rfl
theorem g6_ok (m : Nat) : FunOK Tryz.prog (g6_T m) :=
  fun_ok hmix htt (g6_T m) Tryz.func6 (c := g6_C) (by kernel_rfl) (by kernel_rfl) (Lc := []) (AllF.mem (l := []) trivial) (L := []) (fun _ hE _ _ => loopsIn_of g6_C_ls trivial) (fun x => (g6_kr m x).trans (by kernel_rfl))
/-! 20 sparse/sparsemake.At -/
/-! 87 sparse/sparseref01.trim -/
def g87_H : Hints := { regs := [⟨[], [0]⟩, ⟨[], [0, 3]⟩, ⟨[(2, 1)], [0, 3, 17]⟩, ⟨[(0, 1)], [0, 3]⟩, ⟨[], [0, 3, 4]⟩, ⟨[], [0, 3, 4, 5]⟩, ⟨[], [0, 3, 4, 5, 22]⟩, ⟨[(0, 1)], [0, 3, 4, 5]⟩, ⟨[(0, 1)], [0, 3, 4, 5]⟩, ⟨[(0, 1)], [2]⟩], heads := [(0, [0, 3]), (2, [0, 3, 4, 5])], exits := [(0, [0, 3]), (1, [0, 3]), (2, [4]), (3, [0, 3, 4, 5])], rets := [2], pins := [], spec := [[true]] }
abbrev g87_A : List Sh := [.a (.c (.imm (.int .u32)))]
abbrev g87_S : Sh := .a (.c (.nm 0 (.int .u32)))
abbrev g87_U : List Sh := [.a (.c .dead)]
def g87_R (m : Nat) : ShLVal g87_A → Option (g87_S.Val × ShLVal g87_U) := fun (x : List Int × Unit) => g87 m x.1
def g87_T (m : Nat) : FunT := ⟨87, g87_A, g87_S, g87_U, g87_R m⟩
noncomputable def g87_C : Code := codeOf Tryz.f87
noncomputable def g87_B0 : Code := loopAt g87_C 0 0
theorem g87_B0_ls : loopsL g87_B0 0 = [] := by kernel_rfl
noncomputable def g87_B2 : Code := loopAt g87_C 0 1
theorem g87_B2_ls : loopsL g87_B2 2 = [] := by kernel_rfl
theorem g87_C_ls : loopsL g87_C 0 = [(0, g87_B0), (2, g87_B2)] := by kernel_rfl
abbrev g87_L1_I : SS := [(0, .a (.c (.imm (.int .u32)))), (3, .a (.c (.int .i64))), (4, .a (.c (.nm 0 (.int .u32)))), (5, .a (.c (.int .i64)))]
abbrev g87_L1_O : List (Ex × SS) := [(.exit 2, [(4, .a (.c (.nm 0 (.int .u32))))])]
def g87_L1_R (m n : Nat) : g87_L1_I.Val → Option (outVal g87_L1_O) := (fun (x : List Int × Int × List Int × Int × Unit) => g87_L1 m n x.1 x.2.1 x.2.2.1 x.2.2.2.1)
def g87_L1_T (m n : Nat) : LoopT := ⟨2, g87_L1_I, g87_L1_O, g87_L1_R m n⟩
theorem g87_L1_kr (m n : Nat) (x : g87_L1_I.Val) : roundK (mkC (outVal g87_L1_O) []) (mkLp (outVal g87_L1_O) []) tt 33 g87_H g87_B2 2 (g87_L1_I.enc x) (Kl (ins := g87_L1_I) (outs := g87_L1_O) (g87_L1_R m n)) = g87_L1 m (n + 1) x.1 x.2.1 x.2.2.1 x.2.2.2.1 := by kernel_rfl
theorem g87_L1_ok {E : Entry} (hE : EOf Tryz.prog E 33 g87_H.pins) (m : Nat) (n : Nat) : LoopOK Tryz.prog E g87_B2 (g87_L1_T m n) :=
  loop_ok (CO := CallOK Tryz.prog) hmix htt (fun _ _ _ _ h => h) hE (C := fun R => mkC R []) (L := []) (fun _ _ _ _ _ h => mkC_spec (AllF.mem (l := []) trivial) h) (fun _ _ => loopsIn_of g87_B2_ls trivial) (fun n => (g87_L1_R m n)) (fun _ => by kernel_rfl) (fun n x => (g87_L1_kr m n x).trans (by kernel_rfl)) n
abbrev g87_L0_I : SS := [(0, .a (.c (.imm (.int .u32)))), (3, .a (.c (.int .i64)))]
abbrev g87_L0_O : List (Ex × SS) := [(.exit 0, [(0, .a (.c (.imm (.int .u32)))), (3, .a (.c (.int .i64)))])]
def g87_L0_R (m n : Nat) : g87_L0_I.Val → Option (outVal g87_L0_O) := (fun (x : List Int × Int × Unit) => g87_L0 m n x.1 x.2.1)
def g87_L0_T (m n : Nat) : LoopT := ⟨0, g87_L0_I, g87_L0_O, g87_L0_R m n⟩
theorem g87_L0_kr (m n : Nat) (x : g87_L0_I.Val) : roundK (mkC (outVal g87_L0_O) []) (mkLp (outVal g87_L0_O) []) tt 33 g87_H g87_B0 0 (g87_L0_I.enc x) (Kl (ins := g87_L0_I) (outs := g87_L0_O) (g87_L0_R m n)) = g87_L0 m (n + 1) x.1 x.2.1 := by kernel_rfl
theorem g87_L0_ok {E : Entry} (hE : EOf Tryz.prog E 33 g87_H.pins) (m : Nat) (n : Nat) : LoopOK Tryz.prog E g87_B0 (g87_L0_T m n) :=
  loop_ok (CO := CallOK Tryz.prog) hmix htt (fun _ _ _ _ h => h) hE (C := fun R => mkC R []) (L := []) (fun _ _ _ _ _ h => mkC_spec (AllF.mem (l := []) trivial) h) (fun _ _ => loopsIn_of g87_B0_ls trivial) (fun n => (g87_L0_R m n)) (fun _ => by kernel_rfl) (fun n x => (g87_L0_kr m n x).trans (by kernel_rfl)) n
theorem g87_kr (m : Nat) (x : ShLVal g87_A) : fnK (mkC (g87_S.Val × ShLVal g87_U) []) (mkLp (g87_S.Val × ShLVal g87_U) [g87_L0_T m m, g87_L1_T m m]) tt g87_H Tryz.f87 (encS g87_A x) (Kd g87_S g87_U) = g87 m x.1 := by kernel_rfl
theorem g87_ok (m : Nat) : FunOK Tryz.prog (g87_T m) :=
  fun_ok hmix htt (g87_T m) Tryz.func87 (c := g87_C) (by kernel_rfl) (by kernel_rfl) (Lc := []) (AllF.mem (l := []) trivial) (L := [g87_L0_T m m, g87_L1_T m m]) (fun _ hE _ _ => loopsIn_of g87_C_ls ⟨mkLp_all ⟨fun _ => g87_L0_ok hE m m, fun h => absurd (show (2 : Nat) = 0 from h) (by decide), trivial⟩, mkLp_all ⟨fun h => absurd (show (0 : Nat) = 2 from h) (by decide), fun _ => g87_L1_ok hE m m, trivial⟩, trivial⟩) (fun x => (g87_kr m x).trans (by kernel_rfl))
/-! 77 sparse/sparseref01.make1 -/
def g77_H : Hints := { regs := [⟨[], [0, 1, 4]⟩, ⟨[(0, 1)], [0, 1, 4]⟩, ⟨[(0, 1), (1, 1), (6, 1)], [4]⟩], heads := [], exits := [], rets := [4], pins := [], spec := [[false, true]] }
abbrev g77_A : List Sh := [.a (.c .bool), .a (.c (.imm (.int .u32)))]
abbrev g77_S : Sh := .a (.agg [.bool, (.nm 0 (.int .u32))])
abbrev g77_U : List Sh := [.a (.c .dead), .a (.c .dead)]
def g77_R (m : Nat) : ShLVal g77_A → Option (g77_S.Val × ShLVal g77_U) := fun (x : Bool × List Int × Unit) => g77 m x.1 x.2.1
def g77_T (m : Nat) : FunT := ⟨77, g77_A, g77_S, g77_U, g77_R m⟩
noncomputable def g77_C : Code := codeOf Tryz.f77
theorem g77_C_ls : loopsL g77_C 0 = [] := by kernel_rfl
theorem g77_kr (m : Nat) (x : ShLVal g77_A) : fnK (mkC (g77_S.Val × ShLVal g77_U) [g87_T m]) (mkLp (g77_S.Val × ShLVal g77_U) []) tt g77_H Tryz.f77 (encS g77_A x) (Kd g77_S g77_U) = g77 m x.1 x.2.1 := by kernel_rfl
theorem g77_ok (m : Nat) : FunOK Tryz.prog (g77_T m) :=
  fun_ok hmix htt (g77_T m) Tryz.func77 (c := g77_C) (by kernel_rfl) (by kernel_rfl) (Lc := [g87_T m]) (AllF.mem (l := [g87_T m]) ⟨g87_ok m, trivial⟩) (L := []) (fun _ hE _ _ => loopsIn_of g77_C_ls trivial) (fun x => (g77_kr m x).trans (by kernel_rfl))
/-! 59 sparse/sparseref01.FromInt -/
def g59_H : Hints := { regs := [⟨[], [0, 2]⟩, ⟨[], [0, 2, 3]⟩, ⟨[], [0, 2, 3, 7]⟩, ⟨[], [0, 2, 3]⟩, ⟨[(0, 1)], [2]⟩], heads := [], exits := [], rets := [2], pins := [], spec := [[false, true]] }
abbrev g59_A : List Sh := [.a (.c (.int .i64))]
abbrev g59_S : Sh := .a (.agg [.bool, (.nm 0 (.int .u32))])
abbrev g59_U : List Sh := [.a (.c .dead)]
def g59_R (m : Nat) : ShLVal g59_A → Option (g59_S.Val × ShLVal g59_U) := fun (x : Int × Unit) => g59 m x.1
def g59_T (m : Nat) : FunT := ⟨59, g59_A, g59_S, g59_U, g59_R m⟩
noncomputable def g59_C : Code := codeOf Tryz.f59
theorem g59_C_ls : loopsL g59_C 0 = [] := by kernel_rfl
theorem g59_kr (m : Nat) (x : ShLVal g59_A) : fnK (mkC (g59_S.Val × ShLVal g59_U) [g77_T m]) (mkLp (g59_S.Val × ShLVal g59_U) []) tt g59_H Tryz.f59 (encS g59_A x) (Kd g59_S g59_U) = g59 m x.1 := by kernel_rfl
theorem g59_ok (m : Nat) : FunOK Tryz.prog (g59_T m) :=
  fun_ok hmix htt (g59_T m) Tryz.func59 (c := g59_C) (by kernel_rfl) (by kernel_rfl) (Lc := [g77_T m]) (AllF.mem (l := [g77_T m]) ⟨g77_ok m, trivial⟩) (L := []) (fun _ hE _ _ => loopsIn_of g59_C_ls trivial) (fun x => (g59_kr m x).trans (by kernel_rfl))
/-! 71 sparse/sparseref01.Norm -/
def g71_H : Hints := { regs := [⟨[], [1, 2]⟩, ⟨[], [2]⟩], heads := [], exits := [], rets := [2], pins := [], spec := [[false, true]] }
abbrev g71_A : List Sh := [.a (.agg [.bool, (.imm (.int .u32))])]
abbrev g71_S : Sh := .a (.agg [.bool, (.nm 0 (.int .u32))])
abbrev g71_U : List Sh := [.a (.c .dead)]
def g71_R (m : Nat) : ShLVal g71_A → Option (g71_S.Val × ShLVal g71_U) := fun (x : (Bool × List Int × Unit) × Unit) => g71 m x.1.1 x.1.2.1
def g71_T (m : Nat) : FunT := ⟨71, g71_A, g71_S, g71_U, g71_R m⟩
noncomputable def g71_C : Code := codeOf Tryz.f71
theorem g71_C_ls : loopsL g71_C 0 = [] := by kernel_rfl
theorem g71_kr (m : Nat) (x : ShLVal g71_A) : fnK (mkC (g71_S.Val × ShLVal g71_U) [g77_T m]) (mkLp (g71_S.Val × ShLVal g71_U) []) tt g71_H Tryz.f71 (encS g71_A x) (Kd g71_S g71_U) = g71 m x.1.1 x.1.2.1 := by kernel_rfl
theorem g71_ok (m : Nat) : FunOK Tryz.prog (g71_T m) :=
  fun_ok hmix htt (g71_T m) Tryz.func71 (c := g71_C) (by kernel_rfl) (by kernel_rfl) (Lc := [g77_T m]) (AllF.mem (l := [g77_T m]) ⟨g77_ok m, trivial⟩) (L := []) (fun _ hE _ _ => loopsIn_of g71_C_ls trivial) (fun x => (g71_kr m x).trans (by kernel_rfl))
/-! 57 sparse/sparseref02.Bad -/
def g57_H : Hints := { regs := [⟨[], [0]⟩, ⟨[], [0]⟩], heads := [], exits := [], rets := [0], pins := [], spec := [[false, false, true, false]] }
abbrev g57_A : List Sh := []
abbrev g57_S : Sh := .a (.agg [.bool, .bool, (.nm 0 (.int .u32)), (.int .i64)])
abbrev g57_U : List Sh := []
def g57_R (m : Nat) : ShLVal g57_A → Option (g57_S.Val × ShLVal g57_U) := fun (x : Unit) => g57 m
def g57_T (m : Nat) : FunT := ⟨57, g57_A, g57_S, g57_U, g57_R m⟩
noncomputable def g57_C : Code := codeOf Tryz.f57
theorem g57_C_ls : loopsL g57_C 0 = [] := by kernel_rfl
theorem g57_kr (m : Nat) (x : ShLVal g57_A) : fnK (mkC (g57_S.Val × ShLVal g57_U) []) (mkLp (g57_S.Val × ShLVal g57_U) []) tt g57_H Tryz.f57 (encS g57_A x) (Kd g57_S g57_U) = g57 m := by kernel_rfl
theorem g57_ok (m : Nat) : FunOK Tryz.prog (g57_T m) :=
  fun_ok hmix htt (g57_T m) Tryz.func57 (c := g57_C) (by kernel_rfl) (by kernel_rfl) (Lc := []) (AllF.mem (l := []) trivial) (L := []) (fun _ hE _ _ => loopsIn_of g57_C_ls trivial) (fun x => (g57_kr m x).trans (by kernel_rfl))
/-! 78 sparse/sparseref01.TrailingZeros -/
def g78_H : Hints := { regs := [⟨[], [1]⟩, ⟨[], [3]⟩, ⟨[], [3, 4]⟩, ⟨[], [3, 4, 11]⟩, ⟨[(0, 1)], [3, 4]⟩, ⟨[], [3, 4, 18]⟩, ⟨[(2, 1)], [2]⟩, ⟨[], [2]⟩], heads := [(0, [3, 4])], exits := [(0, []), (1, [3, 4])], rets := [2], pins := [], spec := [[false]] }
abbrev g78_A : List Sh := [.a (.agg [.bool, (.imm (.int .u32))])]
abbrev g78_S : Sh := .a (.c (.int .i64))
abbrev g78_U : List Sh := [.a (.c .dead)]
def g78_R (m : Nat) : ShLVal g78_A → Option (g78_S.Val × ShLVal g78_U) := fun (x : (Bool × List Int × Unit) × Unit) => g78 m x.1.1 x.1.2.1
def g78_T (m : Nat) : FunT := ⟨78, g78_A, g78_S, g78_U, g78_R m⟩
noncomputable def g78_C : Code := codeOf Tryz.f78
noncomputable def g78_B0 : Code := loopAt g78_C 0 0
theorem g78_B0_ls : loopsL g78_B0 0 = [] := by kernel_rfl
theorem g78_C_ls : loopsL g78_C 0 = [(0, g78_B0)] := by kernel_rfl
abbrev g78_L0_I : SS := [(3, .a (.c (.nm 0 (.int .u32)))), (4, .a (.c (.int .i64)))]
abbrev g78_L0_O : List (Ex × SS) := [(.ret, [(2, .a (.c (.int .i64)))]), (.exit 0, [])]
def g78_L0_R (m n : Nat) : g78_L0_I.Val → Option (outVal g78_L0_O) := (fun (x : List Int × Int × Unit) => g78_L0 m n x.1 x.2.1)
def g78_L0_T (m n : Nat) : LoopT := ⟨0, g78_L0_I, g78_L0_O, g78_L0_R m n⟩
theorem g78_L0_kr (m n : Nat) (x : g78_L0_I.Val) : roundK (mkC (outVal g78_L0_O) [g87_T m, g96_T m]) (mkLp (outVal g78_L0_O) []) tt 27 g78_H g78_B0 0 (g78_L0_I.enc x) (Kl (ins := g78_L0_I) (outs := g78_L0_O) (g78_L0_R m n)) = g78_L0 m (n + 1) x.1 x.2.1 := by kernel_rfl
theorem g78_L0_ok {E : Entry} (hE : EOf Tryz.prog E 27 g78_H.pins) (m : Nat) (n : Nat) : LoopOK Tryz.prog E g78_B0 (g78_L0_T m n) :=
  loop_ok (CO := CallOK Tryz.prog) hmix htt (fun _ _ _ _ h => h) hE (C := fun R => mkC R [g87_T m, g96_T m]) (L := []) (fun _ _ _ _ _ h => mkC_spec (AllF.mem (l := [g87_T m, g96_T m]) ⟨g87_ok m, g96_ok m, trivial⟩) h) (fun _ _ => loopsIn_of g78_B0_ls trivial) (fun n => (g78_L0_R m n)) (fun _ => by kernel_rfl) (fun n x => (g78_L0_kr m n x).trans (by kernel_rfl)) n
theorem g78_kr (m : Nat) (x : ShLVal g78_A) : fnK (mkC (g78_S.Val × ShLVal g78_U) [g87_T m, g96_T m]) (mkLp (g78_S.Val × ShLVal g78_U) [g78_L0_T m m]) tt g78_H Tryz.f78 (encS g78_A x) (Kd g78_S g78_U) = g78 m x.1.1 x.1.2.1 := by kernel_rfl
theorem g78_ok (m : Nat) : FunOK Tryz.prog (g78_T m) :=
  fun_ok hmix htt (g78_T m) Tryz.func78 (c := g78_C) (by kernel_rfl) (by kernel_rfl) (Lc := [g87_T m, g96_T m]) (AllF.mem (l := [g87_T m, g96_T m]) ⟨g87_ok m, g96_ok m, trivial⟩) (L := [g78_L0_T m m]) (fun _ hE _ _ => loopsIn_of g78_C_ls ⟨mkLp_all ⟨fun _ => g78_L0_ok hE m m, trivial⟩, trivial⟩) (fun x => (g78_kr m x).trans (by kernel_rfl))
/-! 56 sparse/sparseref01.Abs -/
def g56_H : Hints := { regs := [⟨[], [1, 2]⟩, ⟨[], [2]⟩], heads := [], exits := [], rets := [2], pins := [], spec := [[false, true]] }
abbrev g56_A : List Sh := [.a (.agg [.bool, (.imm (.int .u32))])]
abbrev g56_S : Sh := .a (.agg [.bool, (.nm 0 (.int .u32))])
abbrev g56_U : List Sh := [.a (.c .dead)]
def g56_R (m : Nat) : ShLVal g56_A → Option (g56_S.Val × ShLVal g56_U) := fun (x : (Bool × List Int × Unit) × Unit) => g56 m x.1.1 x.1.2.1
def g56_T (m : Nat) : FunT := ⟨56, g56_A, g56_S, g56_U, g56_R m⟩
noncomputable def g56_C : Code := codeOf Tryz.f56
theorem g56_C_ls : loopsL g56_C 0 = [] := by kernel_rfl
theorem g56_kr (m : Nat) (x : ShLVal g56_A) : fnK (mkC (g56_S.Val × ShLVal g56_U) [g77_T m]) (mkLp (g56_S.Val × ShLVal g56_U) []) tt g56_H Tryz.f56 (encS g56_A x) (Kd g56_S g56_U) = g56 m x.1.1 x.1.2.1 := by kernel_rfl
theorem g56_ok (m : Nat) : FunOK Tryz.prog (g56_T m) :=
  fun_ok hmix htt (g56_T m) Tryz.func56 (c := g56_C) (by kernel_rfl) (by kernel_rfl) (Lc := [g77_T m]) (AllF.mem (l := [g77_T m]) ⟨g77_ok m, trivial⟩) (L := []) (fun _ hE _ _ => loopsIn_of g56_C_ls trivial) (fun x => (g56_kr m x).trans (by kernel_rfl))
/-! 93 sparse/sparseref01.shl -/
def g93_H : Hints := { regs := [⟨[], [0, 1]⟩, ⟨[], [0, 1, 5]⟩, ⟨[], [0, 1, 5, 6]⟩, ⟨[], [0, 1, 5, 6, 7]⟩, ⟨[], [0, 1, 5, 6, 7, 14]⟩, ⟨[(0, 1)], [0, 1, 5, 6, 7]⟩, ⟨[(0, 1)], [0, 1, 5, 6, 7]⟩, ⟨[(0, 1)], [0, 1, 5, 6, 7]⟩, ⟨[(0, 1)], [0, 1, 5, 6, 7]⟩, ⟨[(0, 1), (1, 1)], [4]⟩], heads := [(0, [0, 1, 5, 6, 7])], exits := [(0, [5, 6]), (1, [0, 1, 5, 6, 7])], rets := [4], pins := [], spec := [[true]] }
abbrev g93_A : List Sh := [.a (.c (.imm (.int .u32))), .a (.c (.int .i64))]
abbrev g93_S : Sh := .a (.c (.nm 0 (.int .u32)))
abbrev g93_U : List Sh := [.a (.c .dead), .a (.c .dead)]
def g93_R (m : Nat) : ShLVal g93_A → Option (g93_S.Val × ShLVal g93_U) := fun (x : List Int × Int × Unit) => g93 m x.1 x.2.1
def g93_T (m : Nat) : FunT := ⟨93, g93_A, g93_S, g93_U, g93_R m⟩
noncomputable def g93_C : Code := codeOf Tryz.f93
noncomputable def g93_B0 : Code := loopAt g93_C 0 0
theorem g93_B0_ls : loopsL g93_B0 0 = [] := by kernel_rfl
theorem g93_C_ls : loopsL g93_C 0 = [(0, g93_B0)] := by kernel_rfl
abbrev g93_L0_I : SS := [(0, .a (.c (.imm (.int .u32)))), (1, .a (.c (.int .i64))), (5, .a (.c (.nm 0 (.int .u32)))), (6, .a (.c (.int .u64))), (7, .a (.c (.int .i64)))]
abbrev g93_L0_O : List (Ex × SS) := [(.exit 0, [(5, .a (.c (.nm 0 (.int .u32)))), (6, .a (.c (.int .u64)))])]
def g93_L0_R (m n : Nat) : g93_L0_I.Val → Option (outVal g93_L0_O) := (fun (x : List Int × Int × List Int × Int × Int × Unit) => g93_L0 m n x.1 x.2.1 x.2.2.1 x.2.2.2.1 x.2.2.2.2.1)
def g93_L0_T (m n : Nat) : LoopT := ⟨0, g93_L0_I, g93_L0_O, g93_L0_R m n⟩
theorem g93_L0_kr (m n : Nat) (x : g93_L0_I.Val) : roundK (mkC (outVal g93_L0_O) []) (mkLp (outVal g93_L0_O) []) tt 39 g93_H g93_B0 0 (g93_L0_I.enc x) (Kl (ins := g93_L0_I) (outs := g93_L0_O) (g93_L0_R m n)) = g93_L0 m (n + 1) x.1 x.2.1 x.2.2.1 x.2.2.2.1 x.2.2.2.2.1 := by kernel_rfl
theorem g93_L0_ok {E : Entry} (hE : EOf Tryz.prog E 39 g93_H.pins) (m : Nat) (n : Nat) : LoopOK Tryz.prog E g93_B0 (g93_L0_T m n) :=
  loop_ok (CO := CallOK Tryz.prog) hmix htt (fun _ _ _ _ h => h) hE (C := fun R => mkC R []) (L := []) (fun _ _ _ _ _ h => mkC_spec (AllF.mem (l := []) trivial) h) (fun _ _ => loopsIn_of g93_B0_ls trivial) (fun n => (g93_L0_R m n)) (fun _ => by kernel_rfl) (fun n x => (g93_L0_kr m n x).trans (by kernel_rfl)) n
theorem g93_kr (m : Nat) (x : ShLVal g93_A) : fnK (mkC (g93_S.Val × ShLVal g93_U) []) (mkLp (g93_S.Val × ShLVal g93_U) [g93_L0_T m m]) tt g93_H Tryz.f93 (encS g93_A x) (Kd g93_S g93_U) = g93 m x.1 x.2.1 := by kernel_rfl
theorem g93_ok (m : Nat) : FunOK Tryz.prog (g93_T m) :=
  fun_ok hmix htt (g93_T m) Tryz.func93 (c := g93_C) (by kernel_rfl) (by kernel_rfl) (Lc := []) (AllF.mem (l := []) trivial) (L := [g93_L0_T m m]) (fun _ hE _ _ => loopsIn_of g93_C_ls ⟨mkLp_all ⟨fun _ => g93_L0_ok hE m m, trivial⟩, trivial⟩) (fun x => (g93_kr m x).trans (by kernel_rfl))
/-! 94 sparse/sparseref01.shr -/
def g94_H : Hints := { regs := [⟨[], [0, 1]⟩, ⟨[], [0, 1, 6]⟩, ⟨[], [0, 1, 6, 7]⟩, ⟨[(4, 1)], [0, 1, 6, 7, 21]⟩, ⟨[(0, 1)], [0, 1, 6, 7]⟩, ⟨[(0, 1), (1, 1)], [0, 1, 6, 7]⟩, ⟨[], [0, 1, 6, 8]⟩, ⟨[], [0, 1, 6, 8, 9]⟩, ⟨[], [0, 1, 6, 8, 9, 10]⟩, ⟨[], [0, 1, 6, 8, 9, 10, 39]⟩, ⟨[(0, 1)], [0, 1, 6, 8, 9, 10]⟩, ⟨[], [0, 1, 6, 8, 9, 10, 11]⟩, ⟨[], [0, 1, 6, 8, 9, 10, 11, 51]⟩, ⟨[(0, 1)], [0, 1, 6, 8, 9, 10, 11]⟩, ⟨[(4, 1)], [0, 1, 6, 8, 9, 10, 11, 75]⟩, ⟨[], [0, 1, 6, 8, 9, 10, 11]⟩, ⟨[(0, 1), (1, 1)], [0, 1, 6, 8, 9, 10]⟩, ⟨[(0, 1), (1, 1)], [4, 5]⟩], heads := [(0, [0, 1, 6, 7]), (2, [0, 1, 6, 8, 9, 10])], exits := [(0, [0, 1, 6]), (1, [0, 1, 6, 7]), (2, [6, 8]), (3, [0, 1, 6, 8, 9, 10])], rets := [4, 5], pins := [], spec := [[true], [false]] }
abbrev g94_A : List Sh := [.a (.c (.imm (.int .u32))), .a (.c (.int .i64))]
abbrev g94_S : Sh := .tup [(.c (.nm 0 (.int .u32))), (.c .bool)]
abbrev g94_U : List Sh := [.a (.c .dead), .a (.c .dead)]
def g94_R (m : Nat) : ShLVal g94_A → Option (g94_S.Val × ShLVal g94_U) := fun (x : List Int × Int × Unit) => g94 m x.1 x.2.1
def g94_T (m : Nat) : FunT := ⟨94, g94_A, g94_S, g94_U, g94_R m⟩
noncomputable def g94_C : Code := codeOf Tryz.f94
noncomputable def g94_B0 : Code := loopAt g94_C 0 0
theorem g94_B0_ls : loopsL g94_B0 0 = [] := by kernel_rfl
noncomputable def g94_B2 : Code := loopAt g94_C 0 1
theorem g94_B2_ls : loopsL g94_B2 2 = [] := by kernel_rfl
theorem g94_C_ls : loopsL g94_C 0 = [(0, g94_B0), (2, g94_B2)] := by kernel_rfl
abbrev g94_L1_I : SS := [(0, .a (.c (.imm (.int .u32)))), (1, .a (.c (.int .i64))), (6, .a (.c .bool)), (8, .a (.c (.nm 0 (.int .u32)))), (9, .a (.c (.int .i64))), (10, .a (.c (.int .i64)))]
abbrev g94_L1_O : List (Ex × SS) := [(.exit 2, [(6, .a (.c .bool)), (8, .a (.c (.nm 0 (.int .u32))))])]
def g94_L1_R (m n : Nat) : g94_L1_I.Val → Option (outVal g94_L1_O) := (fun (x : List Int × Int × Bool × List Int × Int × Int × Unit) => g94_L1 m n x.1 x.2.1 x.2.2.1 x.2.2.2.1 x.2.2.2.2.1 x.2.2.2.2.2.1)
def g94_L1_T (m n : Nat) : LoopT := ⟨2, g94_L1_I, g94_L1_O, g94_L1_R m n⟩
theorem g94_L1_kr (m n : Nat) (x : g94_L1_I.Val) : roundK (mkC (outVal g94_L1_O) []) (mkLp (outVal g94_L1_O) []) tt 85 g94_H g94_B2 2 (g94_L1_I.enc x) (Kl (ins := g94_L1_I) (outs := g94_L1_O) (g94_L1_R m n)) = g94_L1 m (n + 1) x.1 x.2.1 x.2.2.1 x.2.2.2.1 x.2.2.2.2.1 x.2.2.2.2.2.1 := by kernel_rfl
theorem g94_L1_ok {E : Entry} (hE : EOf Tryz.prog E 85 g94_H.pins) (m : Nat) (n : Nat) : LoopOK Tryz.prog E g94_B2 (g94_L1_T m n) :=
  loop_ok (CO := CallOK Tryz.prog) hmix htt (fun _ _ _ _ h => h) hE (C := fun R => mkC R []) (L := []) (fun _ _ _ _ _ h => mkC_spec (AllF.mem (l := []) trivial) h) (fun _ _ => loopsIn_of g94_B2_ls trivial) (fun n => (g94_L1_R m n)) (fun _ => by kernel_rfl) (fun n x => (g94_L1_kr m n x).trans (by kernel_rfl)) n
abbrev g94_L0_I : SS := [(0, .a (.c (.imm (.int .u32)))), (1, .a (.c (.int .i64))), (6, .a (.c .bool)), (7, .a (.c (.int .i64)))]
abbrev g94_L0_O : List (Ex × SS) := [(.exit 0, [(0, .a (.c (.imm (.int .u32)))), (1, .a (.c (.int .i64))), (6, .a (.c .bool))])]
def g94_L0_R (m n : Nat) : g94_L0_I.Val → Option (outVal g94_L0_O) := (fun (x : List Int × Int × Bool × Int × Unit) => g94_L0 m n x.1 x.2.1 x.2.2.1 x.2.2.2.1)
def g94_L0_T (m n : Nat) : LoopT := ⟨0, g94_L0_I, g94_L0_O, g94_L0_R m n⟩
theorem g94_L0_kr (m n : Nat) (x : g94_L0_I.Val) : roundK (mkC (outVal g94_L0_O) []) (mkLp (outVal g94_L0_O) []) tt 85 g94_H g94_B0 0 (g94_L0_I.enc x) (Kl (ins := g94_L0_I) (outs := g94_L0_O) (g94_L0_R m n)) = g94_L0 m (n + 1) x.1 x.2.1 x.2.2.1 x.2.2.2.1 := by kernel_rfl
theorem g94_L0_ok {E : Entry} (hE : EOf Tryz.prog E 85 g94_H.pins) (m : Nat) (n : Nat) : LoopOK Tryz.prog E g94_B0 (g94_L0_T m n) :=
  loop_ok (CO := CallOK Tryz.prog) hmix htt (fun _ _ _ _ h => h) hE (C := fun R => mkC R []) (L := []) (fun _ _ _ _ _ h => mkC_spec (AllF.mem (l := []) trivial) h) (fun _ _ => loopsIn_of g94_B0_ls trivial) (fun n => (g94_L0_R m n)) (fun _ => by kernel_rfl) (fun n x => (g94_L0_kr m n x).trans (by kernel_rfl)) n
theorem g94_kr (m : Nat) (x : ShLVal g94_A) : fnK (mkC (g94_S.Val × ShLVal g94_U) []) (mkLp (g94_S.Val × ShLVal g94_U) [g94_L0_T m m, g94_L1_T m m]) tt g94_H Tryz.f94 (encS g94_A x) (Kd g94_S g94_U) = g94 m x.1 x.2.1 := by kernel_rfl
theorem g94_ok (m : Nat) : FunOK Tryz.prog (g94_T m) :=
  fun_ok hmix htt (g94_T m) Tryz.func94 (c := g94_C) (by kernel_rfl) (by kernel_rfl) (Lc := []) (AllF.mem (l := []) trivial) (L := [g94_L0_T m m, g94_L1_T m m]) (fun _ hE _ _ => loopsIn_of g94_C_ls ⟨mkLp_all ⟨fun _ => g94_L0_ok hE m m, fun h => absurd (show (2 : Nat) = 0 from h) (by decide), trivial⟩, mkLp_all ⟨fun h => absurd (show (0 : Nat) = 2 from h) (by decide), fun _ => g94_L1_ok hE m m, trivial⟩, trivial⟩) (fun x => (g94_kr m x).trans (by kernel_rfl))
/-! 109 sparse/sparseref01.Neg -/
def g109_H : Hints := { regs := [⟨[], [1, 2]⟩, ⟨[], [2]⟩], heads := [], exits := [], rets := [2], pins := [], spec := [[false, true]] }
abbrev g109_A : List Sh := [.a (.agg [.bool, (.imm (.int .u32))])]
abbrev g109_S : Sh := .a (.agg [.bool, (.nm 0 (.int .u32))])
abbrev g109_U : List Sh := [.a (.c .dead)]
def g109_R (m : Nat) : ShLVal g109_A → Option (g109_S.Val × ShLVal g109_U) := fun (x : (Bool × List Int × Unit) × Unit) => g109 m x.1.1 x.1.2.1
def g109_T (m : Nat) : FunT := ⟨109, g109_A, g109_S, g109_U, g109_R m⟩
noncomputable def g109_C : Code := codeOf Tryz.f109
theorem g109_C_ls : loopsL g109_C 0 = [] := by kernel_rfl
theorem g109_kr (m : Nat) (x : ShLVal g109_A) : fnK (mkC (g109_S.Val × ShLVal g109_U) [g77_T m]) (mkLp (g109_S.Val × ShLVal g109_U) []) tt g109_H Tryz.f109 (encS g109_A x) (Kd g109_S g109_U) = g109 m x.1.1 x.1.2.1 := by kernel_rfl
theorem g109_ok (m : Nat) : FunOK Tryz.prog (g109_T m) :=
  fun_ok hmix htt (g109_T m) Tryz.func109 (c := g109_C) (by kernel_rfl) (by kernel_rfl) (Lc := [g77_T m]) (AllF.mem (l := [g77_T m]) ⟨g77_ok m, trivial⟩) (L := []) (fun _ hE _ _ => loopsIn_of g109_C_ls trivial) (fun x => (g109_kr m x).trans (by kernel_rfl))
/-! 106 sparse/sparseref01.addMag -/
def g106_H : Hints := { regs := [⟨[], [0, 1]⟩, ⟨[], [0, 1, 5]⟩, ⟨[], [0, 1, 5, 6]⟩, ⟨[], [0, 1, 5, 6, 7]⟩, ⟨[], [0, 1, 5, 6, 7, 14]⟩, ⟨[(0, 1)], [0, 1, 5, 6, 7]⟩, ⟨[], [0, 1, 5, 6, 7, 20]⟩, ⟨[(0, 1)], [0, 1, 5, 6, 7]⟩, ⟨[], [0, 1, 5, 6, 7, 31]⟩, ⟨[(0, 1)], [0, 1, 5, 6, 7]⟩, ⟨[(0, 1)], [0, 1, 5, 6, 7]⟩, ⟨[(0, 1)], [0, 1, 5, 6, 7]⟩, ⟨[(0, 1), (1, 1)], [4]⟩], heads := [(0, [0, 1, 5, 6, 7])], exits := [(0, [5, 6]), (1, [0, 1, 5, 6, 7])], rets := [4], pins := [], spec := [[true]] }
abbrev g106_A : List Sh := [.a (.c (.imm (.int .u32))), .a (.c (.imm (.int .u32)))]
abbrev g106_S : Sh := .a (.c (.nm 0 (.int .u32)))
abbrev g106_U : List Sh := [.a (.c .dead), .a (.c .dead)]
def g106_R (m : Nat) : ShLVal g106_A → Option (g106_S.Val × ShLVal g106_U) := fun (x : List Int × List Int × Unit) => g106 m x.1 x.2.1
def g106_T (m : Nat) : FunT := ⟨106, g106_A, g106_S, g106_U, g106_R m⟩
noncomputable def g106_C : Code := codeOf Tryz.f106
noncomputable def g106_B0 : Code := loopAt g106_C 0 0
theorem g106_B0_ls : loopsL g106_B0 0 = [] := by kernel_rfl
theorem g106_C_ls : loopsL g106_C 0 = [(0, g106_B0)] := by kernel_rfl
abbrev g106_L0_I : SS := [(0, .a (.c (.imm (.int .u32)))), (1, .a (.c (.imm (.int .u32)))), (5, .a (.c (.nm 0 (.int .u32)))), (6, .a (.c (.int .u64))), (7, .a (.c (.int .i64)))]
abbrev g106_L0_O : List (Ex × SS) := [(.exit 0, [(5, .a (.c (.nm 0 (.int .u32)))), (6, .a (.c (.int .u64)))])]
def g106_L0_R (m n : Nat) : g106_L0_I.Val → Option (outVal g106_L0_O) := (fun (x : List Int × List Int × List Int × Int × Int × Unit) => g106_L0 m n x.1 x.2.1 x.2.2.1 x.2.2.2.1 x.2.2.2.2.1)
def g106_L0_T (m n : Nat) : LoopT := ⟨0, g106_L0_I, g106_L0_O, g106_L0_R m n⟩
theorem g106_L0_kr (m n : Nat) (x : g106_L0_I.Val) : roundK (mkC (outVal g106_L0_O) []) (mkLp (outVal g106_L0_O) []) tt 51 g106_H g106_B0 0 (g106_L0_I.enc x) (Kl (ins := g106_L0_I) (outs := g106_L0_O) (g106_L0_R m n)) = g106_L0 m (n + 1) x.1 x.2.1 x.2.2.1 x.2.2.2.1 x.2.2.2.2.1 := by kernel_rfl
theorem g106_L0_ok {E : Entry} (hE : EOf Tryz.prog E 51 g106_H.pins) (m : Nat) (n : Nat) : LoopOK Tryz.prog E g106_B0 (g106_L0_T m n) :=
  loop_ok (CO := CallOK Tryz.prog) hmix htt (fun _ _ _ _ h => h) hE (C := fun R => mkC R []) (L := []) (fun _ _ _ _ _ h => mkC_spec (AllF.mem (l := []) trivial) h) (fun _ _ => loopsIn_of g106_B0_ls trivial) (fun n => (g106_L0_R m n)) (fun _ => by kernel_rfl) (fun n x => (g106_L0_kr m n x).trans (by kernel_rfl)) n
theorem g106_kr (m : Nat) (x : ShLVal g106_A) : fnK (mkC (g106_S.Val × ShLVal g106_U) []) (mkLp (g106_S.Val × ShLVal g106_U) [g106_L0_T m m]) tt g106_H Tryz.f106 (encS g106_A x) (Kd g106_S g106_U) = g106 m x.1 x.2.1 := by kernel_rfl
theorem g106_ok (m : Nat) : FunOK Tryz.prog (g106_T m) :=
  fun_ok hmix htt (g106_T m) Tryz.func106 (c := g106_C) (by kernel_rfl) (by kernel_rfl) (Lc := []) (AllF.mem (l := []) trivial) (L := [g106_L0_T m m]) (fun _ hE _ _ => loopsIn_of g106_C_ls ⟨mkLp_all ⟨fun _ => g106_L0_ok hE m m, trivial⟩, trivial⟩) (fun x => (g106_kr m x).trans (by kernel_rfl))
/-! 107 sparse/sparseref01.cmpMag -/
def g107_H : Hints := { regs := [⟨[], [0, 1]⟩, ⟨[], [0, 1, 10]⟩, ⟨[(0, 1), (2, 1)], [15]⟩, ⟨[], [4]⟩, ⟨[], [4]⟩, ⟨[], [0, 1, 5]⟩, ⟨[], [0, 1, 5, 20]⟩, ⟨[(0, 1)], [0, 1, 5]⟩, ⟨[], [0, 1, 5, 31]⟩, ⟨[(0, 1), (4, 1)], [40]⟩, ⟨[], [4]⟩, ⟨[], [4]⟩, ⟨[], [4]⟩], heads := [(0, [0, 1, 5])], exits := [(0, []), (1, [0, 1, 5])], rets := [4], pins := [], spec := [[false]] }
abbrev g107_A : List Sh := [.a (.c (.imm (.int .u32))), .a (.c (.imm (.int .u32)))]
abbrev g107_S : Sh := .a (.c (.int .i64))
abbrev g107_U : List Sh := [.a (.c .dead), .a (.c .dead)]
def g107_R (m : Nat) : ShLVal g107_A → Option (g107_S.Val × ShLVal g107_U) := fun (x : List Int × List Int × Unit) => g107 m x.1 x.2.1
def g107_T (m : Nat) : FunT := ⟨107, g107_A, g107_S, g107_U, g107_R m⟩
noncomputable def g107_C : Code := codeOf Tryz.f107
noncomputable def g107_B0 : Code := loopAt g107_C 0 0
theorem g107_B0_ls : loopsL g107_B0 0 = [] := by kernel_rfl
theorem g107_C_ls : loopsL g107_C 0 = [(0, g107_B0)] := by kernel_rfl
abbrev g107_L0_I : SS := [(0, .a (.c (.imm (.int .u32)))), (1, .a (.c (.imm (.int .u32)))), (5, .a (.c (.int .i64)))]
abbrev g107_L0_O : List (Ex × SS) := [(.ret, [(4, .a (.c (.int .i64)))]), (.exit 0, [])]
def g107_L0_R (m n : Nat) : g107_L0_I.Val → Option (outVal g107_L0_O) := (fun (x : List Int × List Int × Int × Unit) => g107_L0 m n x.1 x.2.1 x.2.2.1)
def g107_L0_T (m n : Nat) : LoopT := ⟨0, g107_L0_I, g107_L0_O, g107_L0_R m n⟩
theorem g107_L0_kr (m n : Nat) (x : g107_L0_I.Val) : roundK (mkC (outVal g107_L0_O) []) (mkLp (outVal g107_L0_O) []) tt 41 g107_H g107_B0 0 (g107_L0_I.enc x) (Kl (ins := g107_L0_I) (outs := g107_L0_O) (g107_L0_R m n)) = g107_L0 m (n + 1) x.1 x.2.1 x.2.2.1 := by kernel_rfl
theorem g107_L0_ok {E : Entry} (hE : EOf Tryz.prog E 41 g107_H.pins) (m : Nat) (n : Nat) : LoopOK Tryz.prog E g107_B0 (g107_L0_T m n) :=
  loop_ok (CO := CallOK Tryz.prog) hmix htt (fun _ _ _ _ h => h) hE (C := fun R => mkC R []) (L := []) (fun _ _ _ _ _ h => mkC_spec (AllF.mem (l := []) trivial) h) (fun _ _ => loopsIn_of g107_B0_ls trivial) (fun n => (g107_L0_R m n)) (fun _ => by kernel_rfl) (fun n x => (g107_L0_kr m n x).trans (by kernel_rfl)) n
theorem g107_kr (m : Nat) (x : ShLVal g107_A) : fnK (mkC (g107_S.Val × ShLVal g107_U) []) (mkLp (g107_S.Val × ShLVal g107_U) [g107_L0_T m m]) tt g107_H Tryz.f107 (encS g107_A x) (Kd g107_S g107_U) = g107 m x.1 x.2.1 := by kernel_rfl
theorem g107_ok (m : Nat) : FunOK Tryz.prog (g107_T m) :=
  fun_ok hmix htt (g107_T m) Tryz.func107 (c := g107_C) (by kernel_rfl) (by kernel_rfl) (Lc := []) (AllF.mem (l := []) trivial) (L := [g107_L0_T m m]) (fun _ hE _ _ => loopsIn_of g107_C_ls ⟨mkLp_all ⟨fun _ => g107_L0_ok hE m m, trivial⟩, trivial⟩) (fun x => (g107_kr m x).trans (by kernel_rfl))
/-! 108 sparse/sparseref01.subMag -/
def g108_H : Hints := { regs := [⟨[], [0, 1]⟩, ⟨[], [0, 1, 5]⟩, ⟨[], [0, 1, 5, 6]⟩, ⟨[], [0, 1, 5, 6, 7]⟩, ⟨[], [0, 1, 5, 6, 7, 12]⟩, ⟨[(0, 1)], [0, 1, 5, 6, 7]⟩, ⟨[(5, 1)], [0, 1, 5, 7, 8]⟩, ⟨[], [0, 1, 5, 7, 8, 25]⟩, ⟨[(0, 1)], [0, 1, 5, 7, 8]⟩, ⟨[(0, 1)], [0, 1, 5, 7, 8]⟩, ⟨[(0, 1)], [0, 1, 5, 6, 7]⟩, ⟨[(0, 1)], [4]⟩], heads := [(0, [0, 1, 5, 6, 7])], exits := [(0, [5]), (1, [0, 1, 5, 6, 7])], rets := [4], pins := [], spec := [[true]] }
abbrev g108_A : List Sh := [.a (.c (.imm (.int .u32))), .a (.c (.imm (.int .u32)))]
abbrev g108_S : Sh := .a (.c (.nm 0 (.int .u32)))
abbrev g108_U : List Sh := [.a (.c .dead), .a (.c .dead)]
def g108_R (m : Nat) : ShLVal g108_A → Option (g108_S.Val × ShLVal g108_U) := fun (x : List Int × List Int × Unit) => g108 m x.1 x.2.1
def g108_T (m : Nat) : FunT := ⟨108, g108_A, g108_S, g108_U, g108_R m⟩
noncomputable def g108_C : Code := codeOf Tryz.f108
noncomputable def g108_B0 : Code := loopAt g108_C 0 0
theorem g108_B0_ls : loopsL g108_B0 0 = [] := by kernel_rfl
theorem g108_C_ls : loopsL g108_C 0 = [(0, g108_B0)] := by kernel_rfl
abbrev g108_L0_I : SS := [(0, .a (.c (.imm (.int .u32)))), (1, .a (.c (.imm (.int .u32)))), (5, .a (.c (.nm 0 (.int .u32)))), (6, .a (.c (.int .u64))), (7, .a (.c (.int .i64)))]
abbrev g108_L0_O : List (Ex × SS) := [(.exit 0, [(5, .a (.c (.nm 0 (.int .u32))))])]
def g108_L0_R (m n : Nat) : g108_L0_I.Val → Option (outVal g108_L0_O) := (fun (x : List Int × List Int × List Int × Int × Int × Unit) => g108_L0 m n x.1 x.2.1 x.2.2.1 x.2.2.2.1 x.2.2.2.2.1)
def g108_L0_T (m n : Nat) : LoopT := ⟨0, g108_L0_I, g108_L0_O, g108_L0_R m n⟩
theorem g108_L0_kr (m n : Nat) (x : g108_L0_I.Val) : roundK (mkC (outVal g108_L0_O) []) (mkLp (outVal g108_L0_O) []) tt 41 g108_H g108_B0 0 (g108_L0_I.enc x) (Kl (ins := g108_L0_I) (outs := g108_L0_O) (g108_L0_R m n)) = g108_L0 m (n + 1) x.1 x.2.1 x.2.2.1 x.2.2.2.1 x.2.2.2.2.1 := by kernel_rfl
theorem g108_L0_ok {E : Entry} (hE : EOf Tryz.prog E 41 g108_H.pins) (m : Nat) (n : Nat) : LoopOK Tryz.prog E g108_B0 (g108_L0_T m n) :=
  loop_ok (CO := CallOK Tryz.prog) hmix htt (fun _ _ _ _ h => h) hE (C := fun R => mkC R []) (L := []) (fun _ _ _ _ _ h => mkC_spec (AllF.mem (l := []) trivial) h) (fun _ _ => loopsIn_of g108_B0_ls trivial) (fun n => (g108_L0_R m n)) (fun _ => by kernel_rfl) (fun n x => (g108_L0_kr m n x).trans (by kernel_rfl)) n
theorem g108_kr (m : Nat) (x : ShLVal g108_A) : fnK (mkC (g108_S.Val × ShLVal g108_U) []) (mkLp (g108_S.Val × ShLVal g108_U) [g108_L0_T m m]) tt g108_H Tryz.f108 (encS g108_A x) (Kd g108_S g108_U) = g108 m x.1 x.2.1 := by kernel_rfl
theorem g108_ok (m : Nat) : FunOK Tryz.prog (g108_T m) :=
  fun_ok hmix htt (g108_T m) Tryz.func108 (c := g108_C) (by kernel_rfl) (by kernel_rfl) (Lc := []) (AllF.mem (l := []) trivial) (L := [g108_L0_T m m]) (fun _ hE _ _ => loopsIn_of g108_C_ls ⟨mkLp_all ⟨fun _ => g108_L0_ok hE m m, trivial⟩, trivial⟩) (fun x => (g108_kr m x).trans (by kernel_rfl))
/-! 92 sparse/sparseref01.Add -/
def g92_H : Hints := { regs := [⟨[], [2, 3, 4]⟩, ⟨[], [2, 3, 4, 5, 6]⟩, ⟨[], [2, 3, 4, 5, 6, 17]⟩, ⟨[(2, 1), (3, 1)], [4]⟩, ⟨[], [2, 3, 4, 5, 6, 27]⟩, ⟨[(2, 1), (3, 1)], [4]⟩, ⟨[(2, 1), (3, 1)], [4]⟩], heads := [], exits := [], rets := [4], pins := [], spec := [[false, true]] }
abbrev g92_A : List Sh := [.a (.agg [.bool, (.imm (.int .u32))]), .a (.agg [.bool, (.imm (.int .u32))])]
abbrev g92_S : Sh := .a (.agg [.bool, (.nm 0 (.int .u32))])
abbrev g92_U : List Sh := [.a (.c .dead), .a (.c .dead)]
def g92_R (m : Nat) : ShLVal g92_A → Option (g92_S.Val × ShLVal g92_U) := fun (x : (Bool × List Int × Unit) × (Bool × List Int × Unit) × Unit) => g92 m x.1.1 x.1.2.1 x.2.1.1 x.2.1.2.1
def g92_T (m : Nat) : FunT := ⟨92, g92_A, g92_S, g92_U, g92_R m⟩
noncomputable def g92_C : Code := codeOf Tryz.f92
theorem g92_C_ls : loopsL g92_C 0 = [] := by kernel_rfl
theorem g92_kr (m : Nat) (x : ShLVal g92_A) : fnK (mkC (g92_S.Val × ShLVal g92_U) [g87_T m, g106_T m, g77_T m, g107_T m, g108_T m]) (mkLp (g92_S.Val × ShLVal g92_U) []) tt g92_H Tryz.f92 (encS g92_A x) (Kd g92_S g92_U) = g92 m x.1.1 x.1.2.1 x.2.1.1 x.2.1.2.1 := by kernel_rfl
theorem g92_ok (m : Nat) : FunOK Tryz.prog (g92_T m) :=
  fun_ok hmix htt (g92_T m) Tryz.func92 (c := g92_C) (by kernel_rfl) (by kernel_rfl) (Lc := [g87_T m, g106_T m, g77_T m, g107_T m, g108_T m]) (AllF.mem (l := [g87_T m, g106_T m, g77_T m, g107_T m, g108_T m]) ⟨g87_ok m, g106_ok m, g77_ok m, g107_ok m, g108_ok m, trivial⟩) (L := []) (fun _ hE _ _ => loopsIn_of g92_C_ls trivial) (fun x => (g92_kr m x).trans (by kernel_rfl))
/-! 95 sparse/sparseref01.Sub -/
def g95_H : Hints := { regs := [⟨[], [2, 3, 4]⟩, ⟨[], [4]⟩], heads := [], exits := [], rets := [4], pins := [], spec := [[false, true]] }
abbrev g95_A : List Sh := [.a (.agg [.bool, (.imm (.int .u32))]), .a (.agg [.bool, (.imm (.int .u32))])]
abbrev g95_S : Sh := .a (.agg [.bool, (.nm 0 (.int .u32))])
abbrev g95_U : List Sh := [.a (.c .dead), .a (.c .dead)]
def g95_R (m : Nat) : ShLVal g95_A → Option (g95_S.Val × ShLVal g95_U) := fun (x : (Bool × List Int × Unit) × (Bool × List Int × Unit) × Unit) => g95 m x.1.1 x.1.2.1 x.2.1.1 x.2.1.2.1
def g95_T (m : Nat) : FunT := ⟨95, g95_A, g95_S, g95_U, g95_R m⟩
noncomputable def g95_C : Code := codeOf Tryz.f95
theorem g95_C_ls : loopsL g95_C 0 = [] := by kernel_rfl
theorem g95_kr (m : Nat) (x : ShLVal g95_A) : fnK (mkC (g95_S.Val × ShLVal g95_U) [g109_T m, g92_T m]) (mkLp (g95_S.Val × ShLVal g95_U) []) tt g95_H Tryz.f95 (encS g95_A x) (Kd g95_S g95_U) = g95 m x.1.1 x.1.2.1 x.2.1.1 x.2.1.2.1 := by kernel_rfl
theorem g95_ok (m : Nat) : FunOK Tryz.prog (g95_T m) :=
  fun_ok hmix htt (g95_T m) Tryz.func95 (c := g95_C) (by kernel_rfl) (by kernel_rfl) (Lc := [g109_T m, g92_T m]) (AllF.mem (l := [g109_T m, g92_T m]) ⟨g109_ok m, g92_ok m, trivial⟩) (L := []) (fun _ hE _ _ => loopsIn_of g95_C_ls trivial) (fun x => (g95_kr m x).trans (by kernel_rfl))
/-! 74 sparse/sparseref01.Shift -/
def g74_H : Hints := { regs := [⟨[], [1, 2, 4]⟩, ⟨[], [1, 2, 4]⟩, ⟨[], [1, 2, 4, 11]⟩, ⟨[(4, 1)], [4]⟩, ⟨[(2, 1), (5, 1)], [2, 4, 5, 6]⟩, ⟨[(2, 1)], [2, 4, 6, 7]⟩, ⟨[(2, 1), (3, 1)], [4, 7, 35]⟩, ⟨[], [4, 7]⟩, ⟨[(0, 1)], [4]⟩], heads := [], exits := [], rets := [4], pins := [], spec := [[false, true]] }
abbrev g74_A : List Sh := [.a (.agg [.bool, (.imm (.int .u32))]), .a (.c (.int .i64))]
abbrev g74_S : Sh := .a (.agg [.bool, (.nm 0 (.int .u32))])
abbrev g74_U : List Sh := [.a (.c .dead), .a (.c .dead)]
def g74_R (m : Nat) : ShLVal g74_A → Option (g74_S.Val × ShLVal g74_U) := fun (x : (Bool × List Int × Unit) × Int × Unit) => g74 m x.1.1 x.1.2.1 x.2.1
def g74_T (m : Nat) : FunT := ⟨74, g74_A, g74_S, g74_U, g74_R m⟩
noncomputable def g74_C : Code := codeOf Tryz.f74
theorem g74_C_ls : loopsL g74_C 0 = [] := by kernel_rfl
theorem g74_kr (m : Nat) (x : ShLVal g74_A) : fnK (mkC (g74_S.Val × ShLVal g74_U) [g71_T m, g93_T m, g77_T m, g94_T m, g59_T m, g95_T m]) (mkLp (g74_S.Val × ShLVal g74_U) []) tt g74_H Tryz.f74 (encS g74_A x) (Kd g74_S g74_U) = g74 m x.1.1 x.1.2.1 x.2.1 := by kernel_rfl
theorem g74_ok (m : Nat) : FunOK Tryz.prog (g74_T m) :=
  fun_ok hmix htt (g74_T m) Tryz.func74 (c := g74_C) (by kernel_rfl) (by kernel_rfl) (Lc := [g71_T m, g93_T m, g77_T m, g94_T m, g59_T m, g95_T m]) (AllF.mem (l := [g71_T m, g93_T m, g77_T m, g94_T m, g59_T m, g95_T m]) ⟨g71_ok m, g93_ok m, g77_ok m, g94_ok m, g59_ok m, g95_ok m, trivial⟩) (L := []) (fun _ hE _ _ => loopsIn_of g74_C_ls trivial) (fun x => (g74_kr m x).trans (by kernel_rfl))
/-! 79 sparse/sparseref02.down -/
def g79_H : Hints := { regs := [⟨[(1, 2)], [1, 2, 4]⟩, ⟨[], [1, 2, 4, 6]⟩, ⟨[(2, 2)], [1, 2, 4]⟩, ⟨[(0, 1)], [1, 2, 4]⟩, ⟨[(1, 1)], [4]⟩], heads := [(0, [1, 2, 4])], exits := [(0, [1, 2, 4]), (1, [1, 2, 4])], rets := [4], pins := [], spec := [[false, true]] }
abbrev g79_A : List Sh := [.a (.agg [.bool, (.imm (.int .u32))]), .a (.c (.int .i64))]
abbrev g79_S : Sh := .a (.agg [.bool, (.nm 0 (.int .u32))])
abbrev g79_U : List Sh := [.a (.c .dead), .a (.c .dead)]
def g79_R (m : Nat) : ShLVal g79_A → Option (g79_S.Val × ShLVal g79_U) := fun (x : (Bool × List Int × Unit) × Int × Unit) => g79 m x.1.1 x.1.2.1 x.2.1
def g79_T (m : Nat) : FunT := ⟨79, g79_A, g79_S, g79_U, g79_R m⟩
noncomputable def g79_C : Code := codeOf Tryz.f79
noncomputable def g79_B0 : Code := loopAt g79_C 0 0
theorem g79_B0_ls : loopsL g79_B0 0 = [] := by kernel_rfl
theorem g79_C_ls : loopsL g79_C 0 = [(0, g79_B0)] := by kernel_rfl
abbrev g79_L0_I : SS := [(1, .a (.c (.int .i64))), (2, .a (.bx 0 [.bool, (.imm (.int .u32))])), (4, .a (.bx 1 [.bool, (.imm (.int .u32))]))]
abbrev g79_L0_O : List (Ex × SS) := [(.exit 0, [(1, .a (.c (.int .i64))), (2, .a (.bx 0 [.bool, (.imm (.int .u32))])), (4, .a (.bx 1 [.bool, (.imm (.int .u32))]))])]
def g79_L0_R (m n : Nat) : g79_L0_I.Val → Option (outVal g79_L0_O) := (fun (x : Int × (Bool × List Int × Unit) × (Bool × List Int × Unit) × Unit) => g79_L0 m n x.1 x.2.1.1 x.2.1.2.1 x.2.2.1.1 x.2.2.1.2.1)
def g79_L0_T (m n : Nat) : LoopT := ⟨0, g79_L0_I, g79_L0_O, g79_L0_R m n⟩
theorem g79_L0_kr (m n : Nat) (x : g79_L0_I.Val) : roundK (mkC (outVal g79_L0_O) [g74_T m]) (mkLp (outVal g79_L0_O) []) tt 15 g79_H g79_B0 0 (g79_L0_I.enc x) (Kl (ins := g79_L0_I) (outs := g79_L0_O) (g79_L0_R m n)) = g79_L0 m (n + 1) x.1 x.2.1.1 x.2.1.2.1 x.2.2.1.1 x.2.2.1.2.1 := by kernel_rfl
theorem g79_L0_ok {E : Entry} (hE : EOf Tryz.prog E 15 g79_H.pins) (m : Nat) (n : Nat) : LoopOK Tryz.prog E g79_B0 (g79_L0_T m n) :=
  loop_ok (CO := CallOK Tryz.prog) hmix htt (fun _ _ _ _ h => h) hE (C := fun R => mkC R [g74_T m]) (L := []) (fun _ _ _ _ _ h => mkC_spec (AllF.mem (l := [g74_T m]) ⟨g74_ok m, trivial⟩) h) (fun _ _ => loopsIn_of g79_B0_ls trivial) (fun n => (g79_L0_R m n)) (fun _ => by kernel_rfl) (fun n x => (g79_L0_kr m n x).trans (by kernel_rfl)) n
theorem g79_kr (m : Nat) (x : ShLVal g79_A) : fnK (mkC (g79_S.Val × ShLVal g79_U) [g74_T m]) (mkLp (g79_S.Val × ShLVal g79_U) [g79_L0_T m m]) tt g79_H Tryz.f79 (encS g79_A x) (Kd g79_S g79_U) = g79 m x.1.1 x.1.2.1 x.2.1 := by kernel_rfl
theorem g79_ok (m : Nat) : FunOK Tryz.prog (g79_T m) :=
  fun_ok hmix htt (g79_T m) Tryz.func79 (c := g79_C) (by kernel_rfl) (by kernel_rfl) (Lc := [g74_T m]) (AllF.mem (l := [g74_T m]) ⟨g74_ok m, trivial⟩) (L := [g79_L0_T m m]) (fun _ hE _ _ => loopsIn_of g79_C_ls ⟨mkLp_all ⟨fun _ => g79_L0_ok hE m m, trivial⟩, trivial⟩) (fun x => (g79_kr m x).trans (by kernel_rfl))
/-! 65 sparse/sparseref01.BitLen -/
def g65_H : Hints := { regs := [⟨[], [1]⟩, ⟨[], [3]⟩, ⟨[], [3, 9]⟩, ⟨[], [2]⟩, ⟨[], [2]⟩], heads := [], exits := [], rets := [2], pins := [], spec := [[false]] }
abbrev g65_A : List Sh := [.a (.agg [.bool, (.imm (.int .u32))])]
abbrev g65_S : Sh := .a (.c (.int .i64))
abbrev g65_U : List Sh := [.a (.c .dead)]
def g65_R (m : Nat) : ShLVal g65_A → Option (g65_S.Val × ShLVal g65_U) := fun (x : (Bool × List Int × Unit) × Unit) => g65 m x.1.1 x.1.2.1
def g65_T (m : Nat) : FunT := ⟨65, g65_A, g65_S, g65_U, g65_R m⟩
noncomputable def g65_C : Code := codeOf Tryz.f65
theorem g65_C_ls : loopsL g65_C 0 = [] := by kernel_rfl
theorem g65_kr (m : Nat) (x : ShLVal g65_A) : fnK (mkC (g65_S.Val × ShLVal g65_U) [g87_T m, g88_T m]) (mkLp (g65_S.Val × ShLVal g65_U) []) tt g65_H Tryz.f65 (encS g65_A x) (Kd g65_S g65_U) = g65 m x.1.1 x.1.2.1 := by kernel_rfl
theorem g65_ok (m : Nat) : FunOK Tryz.prog (g65_T m) :=
  fun_ok hmix htt (g65_T m) Tryz.func65 (c := g65_C) (by kernel_rfl) (by kernel_rfl) (Lc := [g87_T m, g88_T m]) (AllF.mem (l := [g87_T m, g88_T m]) ⟨g87_ok m, g88_ok m, trivial⟩) (L := []) (fun _ hE _ _ => loopsIn_of g65_C_ls trivial) (fun x => (g65_kr m x).trans (by kernel_rfl))
/-! 58 sparse/sparseref02.Make -/
def g58_H : Hints := { regs := [⟨[], [1, 2, 4]⟩, ⟨[], [1, 2, 4, 5]⟩, ⟨[], [1, 2, 4, 5, 13]⟩, ⟨[], [4]⟩, ⟨[], [1, 2, 4, 5, 16]⟩, ⟨[], [4]⟩, ⟨[], [1, 2, 4, 5, 6]⟩, ⟨[(0, 1)], [2, 4, 5, 6, 7]⟩, ⟨[], [2, 4, 5, 6, 7]⟩, ⟨[(1, 1)], [2, 4, 5, 7]⟩, ⟨[(2, 1)], [2, 4, 5, 7, 36]⟩, ⟨[], [4]⟩, ⟨[], [4, 5, 7]⟩, ⟨[(0, 1), (1, 1)], [4]⟩], heads := [], exits := [], rets := [4], pins := [], spec := [[false, false, true, false]] }
abbrev g58_A : List Sh := [.a (.agg [.bool, (.imm (.int .u32))]), .a (.c (.int .i64))]
abbrev g58_S : Sh := .a (.agg [.bool, .bool, (.nm 0 (.int .u32)), (.int .i64)])
abbrev g58_U : List Sh := [.a (.c .dead), .a (.c .dead)]
def g58_R (m : Nat) : ShLVal g58_A → Option (g58_S.Val × ShLVal g58_U) := fun (x : (Bool × List Int × Unit) × Int × Unit) => g58 m x.1.1 x.1.2.1 x.2.1
def g58_T (m : Nat) : FunT := ⟨58, g58_A, g58_S, g58_U, g58_R m⟩
noncomputable def g58_C : Code := codeOf Tryz.f58
theorem g58_C_ls : loopsL g58_C 0 = [] := by kernel_rfl
theorem g58_kr (m : Nat) (x : ShLVal g58_A) : fnK (mkC (g58_S.Val × ShLVal g58_U) [g71_T m, g57_T m, g78_T m, g56_T m, g79_T m, g65_T m]) (mkLp (g58_S.Val × ShLVal g58_U) []) tt g58_H Tryz.f58 (encS g58_A x) (Kd g58_S g58_U) = g58 m x.1.1 x.1.2.1 x.2.1 := by kernel_rfl
theorem g58_ok (m : Nat) : FunOK Tryz.prog (g58_T m) :=
  fun_ok hmix htt (g58_T m) Tryz.func58 (c := g58_C) (by kernel_rfl) (by kernel_rfl) (Lc := [g71_T m, g57_T m, g78_T m, g56_T m, g79_T m, g65_T m]) (AllF.mem (l := [g71_T m, g57_T m, g78_T m, g56_T m, g79_T m, g65_T m]) ⟨g71_ok m, g57_ok m, g78_ok m, g56_ok m, g79_ok m, g65_ok m, trivial⟩) (L := []) (fun _ hE _ _ => loopsIn_of g58_C_ls trivial) (fun x => (g58_kr m x).trans (by kernel_rfl))
/-! 35 sparse/sparseref02.FromInt -/
def g35_H : Hints := { regs := [⟨[], [0, 2]⟩, ⟨[(0, 1)], [2]⟩], heads := [], exits := [], rets := [2], pins := [], spec := [[false, false, true, false]] }
abbrev g35_A : List Sh := [.a (.c (.int .i64))]
abbrev g35_S : Sh := .a (.agg [.bool, .bool, (.nm 0 (.int .u32)), (.int .i64)])
abbrev g35_U : List Sh := [.a (.c .dead)]
def g35_R (m : Nat) : ShLVal g35_A → Option (g35_S.Val × ShLVal g35_U) := fun (x : Int × Unit) => g35 m x.1
def g35_T (m : Nat) : FunT := ⟨35, g35_A, g35_S, g35_U, g35_R m⟩
noncomputable def g35_C : Code := codeOf Tryz.f35
theorem g35_C_ls : loopsL g35_C 0 = [] := by kernel_rfl
theorem g35_kr (m : Nat) (x : ShLVal g35_A) : fnK (mkC (g35_S.Val × ShLVal g35_U) [g59_T m, g58_T m]) (mkLp (g35_S.Val × ShLVal g35_U) []) tt g35_H Tryz.f35 (encS g35_A x) (Kd g35_S g35_U) = g35 m x.1 := by kernel_rfl
theorem g35_ok (m : Nat) : FunOK Tryz.prog (g35_T m) :=
  fun_ok hmix htt (g35_T m) Tryz.func35 (c := g35_C) (by kernel_rfl) (by kernel_rfl) (Lc := [g59_T m, g58_T m]) (AllF.mem (l := [g59_T m, g58_T m]) ⟨g59_ok m, g58_ok m, trivial⟩) (L := []) (fun _ hE _ _ => loopsIn_of g35_C_ls trivial) (fun x => (g35_kr m x).trans (by kernel_rfl))
/-! 53 sparse/sparseref02.Norm -/
def g53_H : Hints := { regs := [⟨[], [1, 2]⟩, ⟨[], [1, 2, 4]⟩, ⟨[], [2]⟩, ⟨[], [2]⟩], heads := [], exits := [], rets := [2], pins := [], spec := [[false, false, true, false]] }
abbrev g53_A : List Sh := [.a (.agg [.bool, .bool, (.imm (.int .u32)), (.int .i64)])]
abbrev g53_S : Sh := .a (.agg [.bool, .bool, (.nm 0 (.int .u32)), (.int .i64)])
abbrev g53_U : List Sh := [.a (.c .dead)]
def g53_R (m : Nat) : ShLVal g53_A → Option (g53_S.Val × ShLVal g53_U) := fun (x : (Bool × Bool × List Int × Int × Unit) × Unit) => g53 m x.1.1 x.1.2.1 x.1.2.2.1 x.1.2.2.2.1
def g53_T (m : Nat) : FunT := ⟨53, g53_A, g53_S, g53_U, g53_R m⟩
noncomputable def g53_C : Code := codeOf Tryz.f53
theorem g53_C_ls : loopsL g53_C 0 = [] := by kernel_rfl
theorem g53_kr (m : Nat) (x : ShLVal g53_A) : fnK (mkC (g53_S.Val × ShLVal g53_U) [g57_T m, g58_T m]) (mkLp (g53_S.Val × ShLVal g53_U) []) tt g53_H Tryz.f53 (encS g53_A x) (Kd g53_S g53_U) = g53 m x.1.1 x.1.2.1 x.1.2.2.1 x.1.2.2.2.1 := by kernel_rfl
theorem g53_ok (m : Nat) : FunOK Tryz.prog (g53_T m) :=
  fun_ok hmix htt (g53_T m) Tryz.func53 (c := g53_C) (by kernel_rfl) (by kernel_rfl) (Lc := [g57_T m, g58_T m]) (AllF.mem (l := [g57_T m, g58_T m]) ⟨g57_ok m, g58_ok m, trivial⟩) (L := []) (fun _ hE _ _ => loopsIn_of g53_C_ls trivial) (fun x => (g53_kr m x).trans (by kernel_rfl))
/-! 54 sparse/sparseref01.Sign -/
def g54_H : Hints := { regs := [⟨[], [1]⟩, ⟨[], [1]⟩, ⟨[], [1, 5]⟩, ⟨[], [2]⟩, ⟨[], [10]⟩, ⟨[], [2]⟩, ⟨[], [2]⟩], heads := [], exits := [(0, [])], rets := [2], pins := [], spec := [[false]] }
abbrev g54_A : List Sh := [.a (.agg [.bool, (.imm (.int .u32))])]
abbrev g54_S : Sh := .a (.c (.int .i64))
abbrev g54_U : List Sh := [.a (.c .dead)]
def g54_R (m : Nat) : ShLVal g54_A → Option (g54_S.Val × ShLVal g54_U) := fun (x : (Bool × List Int × Unit) × Unit) => g54 m x.1.1 x.1.2.1
def g54_T (m : Nat) : FunT := ⟨54, g54_A, g54_S, g54_U, g54_R m⟩
noncomputable def g54_C : Code := codeOf Tryz.f54
theorem g54_C_ls : loopsL g54_C 0 = [] := by kernel_rfl
theorem g54_kr (m : Nat) (x : ShLVal g54_A) : fnK (mkC (g54_S.Val × ShLVal g54_U) [g71_T m]) (mkLp (g54_S.Val × ShLVal g54_U) []) tt g54_H Tryz.f54 (encS g54_A x) (Kd g54_S g54_U) = g54 m x.1.1 x.1.2.1 := by kernel_rfl
theorem g54_ok (m : Nat) : FunOK Tryz.prog (g54_T m) :=
  fun_ok hmix htt (g54_T m) Tryz.func54 (c := g54_C) (by kernel_rfl) (by kernel_rfl) (Lc := [g71_T m]) (AllF.mem (l := [g71_T m]) ⟨g71_ok m, trivial⟩) (L := []) (fun _ hE _ _ => loopsIn_of g54_C_ls trivial) (fun x => (g54_kr m x).trans (by kernel_rfl))
/-! 34 sparse/sparseref02.Scale -/
def g34_H : Hints := { regs := [⟨[], [1, 2, 4]⟩, ⟨[], [1, 2, 4]⟩, ⟨[(2, 1)], [1, 2, 4, 14]⟩, ⟨[(0, 1)], [4]⟩, ⟨[(2, 1)], [1, 2, 4, 21]⟩, ⟨[], [4]⟩, ⟨[(4, 1)], [4]⟩], heads := [], exits := [], rets := [4], pins := [], spec := [[false, false, true, false]] }
abbrev g34_A : List Sh := [.a (.agg [.bool, .bool, (.imm (.int .u32)), (.int .i64)]), .a (.c (.int .i64))]
abbrev g34_S : Sh := .a (.agg [.bool, .bool, (.nm 0 (.int .u32)), (.int .i64)])
abbrev g34_U : List Sh := [.a (.c .dead), .a (.c .dead)]
def g34_R (m : Nat) : ShLVal g34_A → Option (g34_S.Val × ShLVal g34_U) := fun (x : (Bool × Bool × List Int × Int × Unit) × Int × Unit) => g34 m x.1.1 x.1.2.1 x.1.2.2.1 x.1.2.2.2.1 x.2.1
def g34_T (m : Nat) : FunT := ⟨34, g34_A, g34_S, g34_U, g34_R m⟩
noncomputable def g34_C : Code := codeOf Tryz.f34
theorem g34_C_ls : loopsL g34_C 0 = [] := by kernel_rfl
theorem g34_kr (m : Nat) (x : ShLVal g34_A) : fnK (mkC (g34_S.Val × ShLVal g34_U) [g53_T m, g54_T m, g57_T m, g58_T m]) (mkLp (g34_S.Val × ShLVal g34_U) []) tt g34_H Tryz.f34 (encS g34_A x) (Kd g34_S g34_U) = g34 m x.1.1 x.1.2.1 x.1.2.2.1 x.1.2.2.2.1 x.2.1 := by kernel_rfl
theorem g34_ok (m : Nat) : FunOK Tryz.prog (g34_T m) :=
  fun_ok hmix htt (g34_T m) Tryz.func34 (c := g34_C) (by kernel_rfl) (by kernel_rfl) (Lc := [g53_T m, g54_T m, g57_T m, g58_T m]) (AllF.mem (l := [g53_T m, g54_T m, g57_T m, g58_T m]) ⟨g53_ok m, g54_ok m, g57_ok m, g58_ok m, trivial⟩) (L := []) (fun _ hE _ _ => loopsIn_of g34_C_ls trivial) (fun x => (g34_kr m x).trans (by kernel_rfl))
/-! 76 sparse/sparseref03.signed -/
def g76_H : Hints := { regs := [⟨[], [0, 1]⟩, ⟨[(0, 1)], [1, 5]⟩, ⟨[(0, 1)], [4]⟩, ⟨[(0, 1)], [4]⟩], heads := [], exits := [], rets := [4], pins := [], spec := [[false]] }
abbrev g76_A : List Sh := [.a (.c .bool), .a (.c (.int .u64))]
abbrev g76_S : Sh := .a (.c (.int .u64))
abbrev g76_U : List Sh := [.a (.c .dead), .a (.c .dead)]
def g76_R (m : Nat) : ShLVal g76_A → Option (g76_S.Val × ShLVal g76_U) := fun (x : Bool × Int × Unit) => g76 m x.1 x.2.1
def g76_T (m : Nat) : FunT := ⟨76, g76_A, g76_S, g76_U, g76_R m⟩
noncomputable def g76_C : Code := codeOf Tryz.f76
theorem g76_C_ls : loopsL g76_C 0 = [] := by kernel_rfl
theorem g76_kr (m : Nat) (x : ShLVal g76_A) : fnK (mkC (g76_S.Val × ShLVal g76_U) []) (mkLp (g76_S.Val × ShLVal g76_U) []) tt g76_H Tryz.f76 (encS g76_A x) (Kd g76_S g76_U) = g76 m x.1 x.2.1 := by kernel_rfl
theorem g76_ok (m : Nat) : FunOK Tryz.prog (g76_T m) :=
  fun_ok hmix htt (g76_T m) Tryz.func76 (c := g76_C) (by kernel_rfl) (by kernel_rfl) (Lc := []) (AllF.mem (l := []) trivial) (L := []) (fun _ hE _ _ => loopsIn_of g76_C_ls trivial) (fun x => (g76_kr m x).trans (by kernel_rfl))
/-! 72 sparse/sparseref03.over -/
def g72_H : Hints := { regs := [⟨[], [0, 1]⟩, ⟨[(2, 1), (5, 1), (10, 1), (13, 1)], [0, 21]⟩, ⟨[(0, 1)], [4]⟩, ⟨[(0, 1)], [4]⟩], heads := [], exits := [], rets := [4], pins := [], spec := [[false]] }
abbrev g72_A : List Sh := [.a (.c .bool), .a (.c (.int .i64))]
abbrev g72_S : Sh := .a (.c (.int .u64))
abbrev g72_U : List Sh := [.a (.c .dead), .a (.c .dead)]
def g72_R (m : Nat) : ShLVal g72_A → Option (g72_S.Val × ShLVal g72_U) := fun (x : Bool × Int × Unit) => g72 m x.1 x.2.1
def g72_T (m : Nat) : FunT := ⟨72, g72_A, g72_S, g72_U, g72_R m⟩
noncomputable def g72_C : Code := codeOf Tryz.f72
theorem g72_C_ls : loopsL g72_C 0 = [] := by kernel_rfl
theorem g72_kr (m : Nat) (x : ShLVal g72_A) : fnK (mkC (g72_S.Val × ShLVal g72_U) [g76_T m]) (mkLp (g72_S.Val × ShLVal g72_U) []) tt g72_H Tryz.f72 (encS g72_A x) (Kd g72_S g72_U) = g72 m x.1 x.2.1 := by kernel_rfl
theorem g72_ok (m : Nat) : FunOK Tryz.prog (g72_T m) :=
  fun_ok hmix htt (g72_T m) Tryz.func72 (c := g72_C) (by kernel_rfl) (by kernel_rfl) (Lc := [g76_T m]) (AllF.mem (l := [g76_T m]) ⟨g76_ok m, trivial⟩) (L := []) (fun _ hE _ _ => loopsIn_of g72_C_ls trivial) (fun x => (g72_kr m x).trans (by kernel_rfl))
/-! 90 sparse/sparseref01.Lost -/
def g90_H : Hints := { regs := [⟨[], [1, 2]⟩, ⟨[(3, 1), (5, 1)], [6]⟩, ⟨[(0, 1)], [4]⟩], heads := [], exits := [], rets := [4], pins := [], spec := [[false]] }
abbrev g90_A : List Sh := [.a (.agg [.bool, (.imm (.int .u32))]), .a (.c (.int .i64))]
abbrev g90_S : Sh := .a (.c .bool)
abbrev g90_U : List Sh := [.a (.c .dead), .a (.c .dead)]
def g90_R (m : Nat) : ShLVal g90_A → Option (g90_S.Val × ShLVal g90_U) := fun (x : (Bool × List Int × Unit) × Int × Unit) => g90 m x.1.1 x.1.2.1 x.2.1
def g90_T (m : Nat) : FunT := ⟨90, g90_A, g90_S, g90_U, g90_R m⟩
noncomputable def g90_C : Code := codeOf Tryz.f90
theorem g90_C_ls : loopsL g90_C 0 = [] := by kernel_rfl
theorem g90_kr (m : Nat) (x : ShLVal g90_A) : fnK (mkC (g90_S.Val × ShLVal g90_U) [g87_T m, g94_T m]) (mkLp (g90_S.Val × ShLVal g90_U) []) tt g90_H Tryz.f90 (encS g90_A x) (Kd g90_S g90_U) = g90 m x.1.1 x.1.2.1 x.2.1 := by kernel_rfl
theorem g90_ok (m : Nat) : FunOK Tryz.prog (g90_T m) :=
  fun_ok hmix htt (g90_T m) Tryz.func90 (c := g90_C) (by kernel_rfl) (by kernel_rfl) (Lc := [g87_T m, g94_T m]) (AllF.mem (l := [g87_T m, g94_T m]) ⟨g87_ok m, g94_ok m, trivial⟩) (L := []) (fun _ hE _ _ => loopsIn_of g90_C_ls trivial) (fun x => (g90_kr m x).trans (by kernel_rfl))
/-! 91 sparse/sparseref02.Up -/
def g91_H : Hints := { regs := [⟨[], [0, 1, 2, 3]⟩, ⟨[(0, 1)], [0, 1, 2, 9]⟩, ⟨[], [0, 1, 2, 9, 10]⟩, ⟨[(0, 1)], [8]⟩, ⟨[], [0, 1, 2, 9, 13]⟩, ⟨[(0, 1)], [8]⟩, ⟨[], [1, 2, 17]⟩, ⟨[], [8]⟩, ⟨[(2, 1), (5, 1), (6, 1)], [8]⟩], heads := [], exits := [(0, [1, 2])], rets := [8], pins := [], spec := [[false]] }
abbrev g91_A : List Sh := [.a (.c .bool), .a (.c (.int .i64)), .a (.c .bool), .a (.c (.int .i64))]
abbrev g91_S : Sh := .a (.c .bool)
abbrev g91_U : List Sh := [.a (.c .dead), .a (.c .dead), .a (.c .dead), .a (.c .dead)]
def g91_R (m : Nat) : ShLVal g91_A → Option (g91_S.Val × ShLVal g91_U) := fun (x : Bool × Int × Bool × Int × Unit) => g91 m x.1 x.2.1 x.2.2.1 x.2.2.2.1
def g91_T (m : Nat) : FunT := ⟨91, g91_A, g91_S, g91_U, g91_R m⟩
noncomputable def g91_C : Code := codeOf Tryz.f91
theorem g91_C_ls : loopsL g91_C 0 = [] := by kernel_rfl
theorem g91_kr (m : Nat) (x : ShLVal g91_A) : fnK (mkC (g91_S.Val × ShLVal g91_U) []) (mkLp (g91_S.Val × ShLVal g91_U) []) tt g91_H Tryz.f91 (encS g91_A x) (Kd g91_S g91_U) = g91 m x.1 x.2.1 x.2.2.1 x.2.2.2.1 := by kernel_rfl
theorem g91_ok (m : Nat) : FunOK Tryz.prog (g91_T m) :=
  fun_ok hmix htt (g91_T m) Tryz.func91 (c := g91_C) (by kernel_rfl) (by kernel_rfl) (Lc := []) (AllF.mem (l := []) trivial) (L := []) (fun _ hE _ _ => loopsIn_of g91_C_ls trivial) (fun x => (g91_kr m x).trans (by kernel_rfl))
/-! 73 sparse/sparseref02.Cut -/
def g73_H : Hints := { regs := [⟨[], [0, 2, 3, 4, 6, 10]⟩, ⟨[], [0, 2, 3, 4, 6, 10, 11]⟩, ⟨[], [0, 2, 3, 4, 6, 10, 11, 12]⟩, ⟨[(0, 1), (2, 1)], [0, 2, 3, 4, 6, 10, 11, 27]⟩, ⟨[(0, 1)], [10]⟩, ⟨[], [0, 2, 3, 4, 6, 10, 11, 13]⟩, ⟨[], [0, 2, 3, 4, 6, 10, 11, 13, 30]⟩, ⟨[], [0, 2, 3, 4, 6, 10, 11, 13, 14]⟩, ⟨[(3, 1)], [0, 2, 3, 4, 6, 10, 11, 13, 42]⟩, ⟨[], [0, 2, 3, 4, 6, 10, 11, 13]⟩, ⟨[(0, 1), (1, 1), (3, 1)], [0, 4, 10, 11, 13, 49]⟩, ⟨[], [0, 4, 10, 11, 13]⟩, ⟨[(3, 1)], [0, 4, 10, 11, 13, 15]⟩, ⟨[(0, 1), (1, 1), (2, 1), (3, 1)], [10, 11, 62]⟩, ⟨[], [10, 11]⟩, ⟨[(0, 1)], [10]⟩], heads := [], exits := [], rets := [10], pins := [], spec := [[false, true]] }
abbrev g73_A : List Sh := [.a (.c .bool), .a (.agg [.bool, (.imm (.int .u32))]), .a (.c (.int .i64)), .a (.c .bool), .a (.c (.int .i64))]
abbrev g73_S : Sh := .a (.agg [.bool, (.nm 0 (.int .u32))])
abbrev g73_U : List Sh := [.a (.c .dead), .a (.c .dead), .a (.c .dead), .a (.c .dead), .a (.c .dead)]
def g73_R (m : Nat) : ShLVal g73_A → Option (g73_S.Val × ShLVal g73_U) := fun (x : Bool × (Bool × List Int × Unit) × Int × Bool × Int × Unit) => g73 m x.1 x.2.1.1 x.2.1.2.1 x.2.2.1 x.2.2.2.1 x.2.2.2.2.1
def g73_T (m : Nat) : FunT := ⟨73, g73_A, g73_S, g73_U, g73_R m⟩
noncomputable def g73_C : Code := codeOf Tryz.f73
theorem g73_C_ls : loopsL g73_C 0 = [] := by kernel_rfl
theorem g73_kr (m : Nat) (x : ShLVal g73_A) : fnK (mkC (g73_S.Val × ShLVal g73_U) [g79_T m, g90_T m, g78_T m, g54_T m, g91_T m, g59_T m, g92_T m]) (mkLp (g73_S.Val × ShLVal g73_U) []) tt g73_H Tryz.f73 (encS g73_A x) (Kd g73_S g73_U) = g73 m x.1 x.2.1.1 x.2.1.2.1 x.2.2.1 x.2.2.2.1 x.2.2.2.2.1 := by kernel_rfl
theorem g73_ok (m : Nat) : FunOK Tryz.prog (g73_T m) :=
  fun_ok hmix htt (g73_T m) Tryz.func73 (c := g73_C) (by kernel_rfl) (by kernel_rfl) (Lc := [g79_T m, g90_T m, g78_T m, g54_T m, g91_T m, g59_T m, g92_T m]) (AllF.mem (l := [g79_T m, g90_T m, g78_T m, g54_T m, g91_T m, g59_T m, g92_T m]) ⟨g79_ok m, g90_ok m, g78_ok m, g54_ok m, g91_ok m, g59_ok m, g92_ok m, trivial⟩) (L := []) (fun _ hE _ _ => loopsIn_of g73_C_ls trivial) (fun x => (g73_kr m x).trans (by kernel_rfl))
/-! 75 sparse/sparseref01.Int -/
def g75_H : Hints := { regs := [⟨[], [1]⟩, ⟨[], [1]⟩, ⟨[], [1, 11]⟩, ⟨[], [2, 3]⟩, ⟨[], [1, 4]⟩, ⟨[], [1, 4, 5]⟩, ⟨[], [1, 4, 5, 16]⟩, ⟨[(0, 1)], [1, 4, 5]⟩, ⟨[(0, 1)], [1, 4, 5]⟩, ⟨[], [4, 31]⟩, ⟨[], [4, 33]⟩, ⟨[], [2, 3]⟩, ⟨[(0, 1)], [2, 3]⟩, ⟨[], [4, 40]⟩, ⟨[], [2, 3]⟩, ⟨[(0, 1)], [2, 3]⟩], heads := [(0, [1, 4, 5])], exits := [(0, [1, 4]), (1, [1, 4, 5])], rets := [2, 3], pins := [], spec := [[false], [false]] }
abbrev g75_A : List Sh := [.a (.agg [.bool, (.imm (.int .u32))])]
abbrev g75_S : Sh := .tup [(.c (.int .i64)), (.c .bool)]
abbrev g75_U : List Sh := [.a (.c .dead)]
def g75_R (m : Nat) : ShLVal g75_A → Option (g75_S.Val × ShLVal g75_U) := fun (x : (Bool × List Int × Unit) × Unit) => g75 m x.1.1 x.1.2.1
def g75_T (m : Nat) : FunT := ⟨75, g75_A, g75_S, g75_U, g75_R m⟩
noncomputable def g75_C : Code := codeOf Tryz.f75
noncomputable def g75_B0 : Code := loopAt g75_C 0 0
theorem g75_B0_ls : loopsL g75_B0 0 = [] := by kernel_rfl
theorem g75_C_ls : loopsL g75_C 0 = [(0, g75_B0)] := by kernel_rfl
abbrev g75_L0_I : SS := [(1, .a (.bx 0 [.bool, (.nm 1 (.int .u32))])), (4, .a (.c (.int .u64))), (5, .a (.c (.int .i64)))]
abbrev g75_L0_O : List (Ex × SS) := [(.exit 0, [(1, .a (.bx 0 [.bool, (.nm 1 (.int .u32))])), (4, .a (.c (.int .u64)))])]
def g75_L0_R (m n : Nat) : g75_L0_I.Val → Option (outVal g75_L0_O) := (fun (x : (Bool × List Int × Unit) × Int × Int × Unit) => g75_L0 m n x.1.1 x.1.2.1 x.2.1 x.2.2.1)
def g75_L0_T (m n : Nat) : LoopT := ⟨0, g75_L0_I, g75_L0_O, g75_L0_R m n⟩
theorem g75_L0_kr (m n : Nat) (x : g75_L0_I.Val) : roundK (mkC (outVal g75_L0_O) [g71_T m]) (mkLp (outVal g75_L0_O) []) tt 43 g75_H g75_B0 0 (g75_L0_I.enc x) (Kl (ins := g75_L0_I) (outs := g75_L0_O) (g75_L0_R m n)) = g75_L0 m (n + 1) x.1.1 x.1.2.1 x.2.1 x.2.2.1 := by kernel_rfl
theorem g75_L0_ok {E : Entry} (hE : EOf Tryz.prog E 43 g75_H.pins) (m : Nat) (n : Nat) : LoopOK Tryz.prog E g75_B0 (g75_L0_T m n) :=
  loop_ok (CO := CallOK Tryz.prog) hmix htt (fun _ _ _ _ h => h) hE (C := fun R => mkC R [g71_T m]) (L := []) (fun _ _ _ _ _ h => mkC_spec (AllF.mem (l := [g71_T m]) ⟨g71_ok m, trivial⟩) h) (fun _ _ => loopsIn_of g75_B0_ls trivial) (fun n => (g75_L0_R m n)) (fun _ => by kernel_rfl) (fun n x => (g75_L0_kr m n x).trans (by kernel_rfl)) n
theorem g75_kr (m : Nat) (x : ShLVal g75_A) : fnK (mkC (g75_S.Val × ShLVal g75_U) [g71_T m]) (mkLp (g75_S.Val × ShLVal g75_U) [g75_L0_T m m]) tt g75_H Tryz.f75 (encS g75_A x) (Kd g75_S g75_U) = g75 m x.1.1 x.1.2.1 := by kernel_rfl
theorem g75_ok (m : Nat) : FunOK Tryz.prog (g75_T m) :=
  fun_ok hmix htt (g75_T m) Tryz.func75 (c := g75_C) (by kernel_rfl) (by kernel_rfl) (Lc := [g71_T m]) (AllF.mem (l := [g71_T m]) ⟨g71_ok m, trivial⟩) (L := [g75_L0_T m m]) (fun _ hE _ _ => loopsIn_of g75_C_ls ⟨mkLp_all ⟨fun _ => g75_L0_ok hE m m, trivial⟩, trivial⟩) (fun x => (g75_kr m x).trans (by kernel_rfl))
end Go.Vs.F
