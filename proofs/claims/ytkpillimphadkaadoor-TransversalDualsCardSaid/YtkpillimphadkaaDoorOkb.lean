/- The plain functions are what the code does (by program: gen.py). -/
import Derived.Test.YtkpillimphadkaaDoorOka

/-! TdOk2 -/
set_option linter.unusedVariables false
set_option maxRecDepth 100000
namespace Go.Vs.F
open Go.Proofs
/-! 18 __sparse/transversal.hungarian_.duals -/
def g18_H : Hints := { regs := [⟨[], [0]⟩, ⟨[], [0, 4]⟩, ⟨[], [0, 2, 3, 4]⟩, ⟨[(0, 1)], [0, 2, 3, 5]⟩, ⟨[], [0, 2, 3, 5, 33, 34, 35]⟩, ⟨[], [0, 2, 3, 5, 33, 34, 35, 36]⟩, ⟨[], [0, 2, 3, 5, 6, 7, 33, 34, 35]⟩, ⟨[(0, 1)], [0, 2, 3, 5, 6, 33, 34, 35, 40, 41, 42]⟩, ⟨[], [0, 2, 3, 5, 6, 33, 34, 35, 40, 41, 42, 43]⟩, ⟨[], [0, 2, 3, 5, 6, 9, 33, 34, 35, 40, 41, 42]⟩, ⟨[], [0, 2, 3, 5, 6, 9, 33, 34, 35, 40, 41, 42, 55]⟩, ⟨[], [0, 2, 3, 5, 6, 33, 34, 35, 40, 41, 42]⟩, ⟨[(1, 1)], [0, 2, 3, 5, 6, 33, 34, 35, 40, 41, 42]⟩, ⟨[(1, 1)], [0, 2, 3, 5, 33, 34, 35]⟩, ⟨[], [0, 2, 3, 5, 10]⟩, ⟨[(0, 1)], [0, 2, 3, 5, 63]⟩, ⟨[], [0, 2, 3, 5, 10]⟩, ⟨[], [0, 2, 3, 5, 10, 67, 68, 69]⟩, ⟨[], [0, 2, 3, 5, 10, 67, 68, 69, 70]⟩, ⟨[], [0, 2, 3, 5, 10, 11, 12, 67, 68, 69]⟩, ⟨[(0, 1)], [0, 2, 3, 5, 10, 11, 67, 68, 69, 74, 75, 76]⟩, ⟨[], [0, 2, 3, 5, 10, 11, 67, 68, 69, 74, 75, 76, 77]⟩, ⟨[], [0, 2, 3, 5, 10, 11, 14, 67, 68, 69, 74, 75, 76]⟩, ⟨[], [0, 2, 3, 5, 10, 11, 14, 15, 67, 68, 69, 74, 75, 76]⟩, ⟨[], [0, 2, 3, 5, 10, 11, 16, 67, 68, 69, 74, 75, 76]⟩, ⟨[], [0, 2, 3, 5, 10, 11, 16, 67, 68, 69, 74, 75, 76, 105]⟩, ⟨[(2, 1)], [0, 2, 3, 5, 10, 11, 67, 68, 69, 74, 75, 76]⟩, ⟨[(1, 1)], [0, 2, 3, 5, 10, 11, 67, 68, 69, 74, 75, 76]⟩, ⟨[(1, 1)], [0, 2, 3, 5, 10, 67, 68, 69]⟩, ⟨[], [0, 2, 3, 5, 115, 116, 117]⟩, ⟨[], [0, 2, 3, 5, 115, 116, 117, 118]⟩, ⟨[], [0, 2, 3, 5, 17, 18, 115, 116, 117]⟩, ⟨[(1, 1)], [0, 2, 3, 5, 115, 116, 117]⟩, ⟨[(1, 1)], [0, 2, 3, 5, 115, 116, 117]⟩, ⟨[(0, 1), (1, 1)], [0, 2, 3]⟩], heads := [(0, [0, 2, 3, 5, 33, 34, 35]), (2, [0, 2, 3, 5, 6, 33, 34, 35, 40, 41, 42]), (4, [0, 2, 3, 5, 10]), (6, [0, 2, 3, 5, 10, 67, 68, 69]), (8, [0, 2, 3, 5, 10, 11, 67, 68, 69, 74, 75, 76]), (10, [0, 2, 3, 5, 115, 116, 117])], exits := [(0, [0, 2, 3, 5]), (1, [0, 2, 3, 5, 33, 34, 35]), (2, [0, 2, 3, 5, 33, 34, 35]), (3, [0, 2, 3, 5, 6, 33, 34, 35, 40, 41, 42]), (4, [0, 2, 3, 5]), (5, [0, 2, 3, 5, 10]), (6, [0, 2, 3, 5, 10]), (7, [0, 2, 3, 5, 10, 67, 68, 69]), (8, [0, 2, 3, 5, 10, 67, 68, 69]), (9, [0, 2, 3, 5, 10, 11, 67, 68, 69, 74, 75, 76]), (10, [0, 2, 3]), (11, [0, 2, 3, 5, 115, 116, 117])], rets := [0, 2, 3], pins := [0], spec := [[true], [true]] }
abbrev g18_A : List Sh := [.a (.bx 0 [(.imm (.sl false (.pr (.int .i64) (.int .i64)))), (.nm 1 (.int .i64)), (.nm 2 (.int .i64)), (.nm 3 (.int .i64)), (.nm 4 (.int .i64))])]
abbrev g18_S : Sh := .tup [(.c (.nm 0 (.int .i64))), (.c (.nm 1 (.int .i64)))]
abbrev g18_U : List Sh := [.a (.bx 2 [(.imm (.sl false (.pr (.int .i64) (.int .i64)))), (.nm 3 (.int .i64)), (.nm 4 (.int .i64)), (.nm 5 (.int .i64)), (.nm 6 (.int .i64))])]
def g18_R (m : Nat) : ShLVal g18_A → Option (g18_S.Val × ShLVal g18_U) := fun (x : ((List (List (Int × Int))) × List Int × List Int × List Int × List Int × Unit) × Unit) => g18 m x.1.1 x.1.2.1 x.1.2.2.1 x.1.2.2.2.1 x.1.2.2.2.2.1
def g18_T (m : Nat) : FunT := ⟨18, g18_A, g18_S, g18_U, g18_R m⟩
noncomputable def g18_C : Code := codeOf Tryd.f18
noncomputable def g18_B0 : Code := loopAt g18_C 0 0
noncomputable def g18_B2 : Code := loopAt g18_B0 0 0
theorem g18_B2_ls : loopsL g18_B2 2 = [] := by kernel_rfl
theorem g18_B0_ls : loopsL g18_B0 0 = [(2, g18_B2)] := by kernel_rfl
noncomputable def g18_B4 : Code := loopAt g18_C 0 1
noncomputable def g18_B6 : Code := loopAt g18_B4 4 0
noncomputable def g18_B8 : Code := loopAt g18_B6 6 0
theorem g18_B8_ls : loopsL g18_B8 8 = [] := by kernel_rfl
theorem g18_B6_ls : loopsL g18_B6 6 = [(8, g18_B8)] := by kernel_rfl
theorem g18_B4_ls : loopsL g18_B4 4 = [(6, g18_B6)] := by kernel_rfl
noncomputable def g18_B10 : Code := loopAt g18_C 0 2
theorem g18_B10_ls : loopsL g18_B10 10 = [] := by kernel_rfl
theorem g18_C_ls : loopsL g18_C 0 = [(0, g18_B0), (4, g18_B4), (10, g18_B10)] := by kernel_rfl
abbrev g18_L5_I : SS := [(0, .a (.bx 0 [(.imm (.sl false (.pr (.int .i64) (.int .i64)))), (.nm 1 (.int .i64)), (.nm 2 (.int .i64)), (.nm 3 (.int .i64)), (.nm 4 (.int .i64))])), (2, .a (.c (.nm 5 (.int .i64)))), (3, .a (.c (.nm 6 (.int .i64)))), (5, .a (.c (.nm 7 (.int .i64)))), (115, .a (.c (.ref 0 3 1))), (116, .a (.c (.int .i64))), (117, .a (.c (.int .i64)))]
abbrev g18_L5_O : List (Ex × SS) := [(.exit 10, [(0, .a (.bx 0 [(.imm (.sl false (.pr (.int .i64) (.int .i64)))), (.nm 1 (.int .i64)), (.nm 2 (.int .i64)), (.nm 3 (.int .i64)), (.nm 4 (.int .i64))])), (2, .a (.c (.nm 5 (.int .i64)))), (3, .a (.c (.nm 6 (.int .i64))))])]
def g18_L5_R (m n : Nat) : g18_L5_I.Val → Option (outVal g18_L5_O) := (fun (x : ((List (List (Int × Int))) × List Int × List Int × List Int × List Int × Unit) × List Int × List Int × List Int × Unit × Int × Int × Unit) => g18_L5 m n x.1.1 x.1.2.1 x.1.2.2.1 x.1.2.2.2.1 x.1.2.2.2.2.1 x.2.1 x.2.2.1 x.2.2.2.1 x.2.2.2.2.2.1 x.2.2.2.2.2.2.1)
def g18_L5_T (m n : Nat) : LoopT := ⟨10, g18_L5_I, g18_L5_O, g18_L5_R m n⟩
theorem g18_L5_kr (m n : Nat) (x : g18_L5_I.Val) : roundK (mkC (outVal g18_L5_O) [g25_T m]) (mkLp (outVal g18_L5_O) []) tt 137 g18_H g18_B10 10 (g18_L5_I.enc x) (Kl (ins := g18_L5_I) (outs := g18_L5_O) (g18_L5_R m n)) = g18_L5 m (n + 1) x.1.1 x.1.2.1 x.1.2.2.1 x.1.2.2.2.1 x.1.2.2.2.2.1 x.2.1 x.2.2.1 x.2.2.2.1 x.2.2.2.2.2.1 x.2.2.2.2.2.2.1 := by kernel_rfl
theorem g18_L5_ok {E : Entry} (hE : EOf Tryd.prog E 137 g18_H.pins) (m : Nat) (n : Nat) : LoopOK Tryd.prog E g18_B10 (g18_L5_T m n) :=
  loop_ok (CO := CallOK Tryd.prog) hmix htt (fun _ _ _ _ h => h) hE (C := fun R => mkC R [g25_T m]) (L := []) (fun _ _ _ _ _ h => mkC_spec (AllF.mem (l := [g25_T m]) ⟨g25_ok m, trivial⟩) h) (fun _ _ => loopsIn_of g18_B10_ls trivial) (fun n => (g18_L5_R m n)) (fun _ => by kernel_rfl) (fun n x => (g18_L5_kr m n x).trans (by kernel_rfl)) n
abbrev g18_L4_I : SS := [(0, .a (.bx 0 [(.imm (.sl false (.pr (.int .i64) (.int .i64)))), (.nm 1 (.int .i64)), (.nm 2 (.int .i64)), (.nm 3 (.int .i64)), (.nm 4 (.int .i64))])), (2, .a (.c (.nm 5 (.int .i64)))), (3, .a (.c (.nm 6 (.int .i64)))), (5, .a (.c (.nm 7 (.int .i64)))), (10, .a (.c .bool)), (11, .a (.c (.int .i64))), (67, .a (.c (.imm (.sl false (.pr (.int .i64) (.int .i64)))))), (68, .a (.c (.int .i64))), (69, .a (.c (.int .i64))), (74, .a (.c (.imm (.pr (.int .i64) (.int .i64))))), (75, .a (.c (.int .i64))), (76, .a (.c (.int .i64)))]
abbrev g18_L4_O : List (Ex × SS) := [(.exit 8, [(0, .a (.bx 0 [(.imm (.sl false (.pr (.int .i64) (.int .i64)))), (.nm 1 (.int .i64)), (.nm 2 (.int .i64)), (.nm 3 (.int .i64)), (.nm 4 (.int .i64))])), (2, .a (.c (.nm 5 (.int .i64)))), (3, .a (.c (.nm 6 (.int .i64)))), (5, .a (.c (.nm 7 (.int .i64)))), (10, .a (.c .bool)), (67, .a (.c (.imm (.sl false (.pr (.int .i64) (.int .i64)))))), (68, .a (.c (.int .i64))), (69, .a (.c (.int .i64)))])]
def g18_L4_R (m n : Nat) : g18_L4_I.Val → Option (outVal g18_L4_O) := (fun (x : ((List (List (Int × Int))) × List Int × List Int × List Int × List Int × Unit) × List Int × List Int × List Int × Bool × Int × (List (List (Int × Int))) × Int × Int × (List (Int × Int)) × Int × Int × Unit) => g18_L4 m n x.1.1 x.1.2.1 x.1.2.2.1 x.1.2.2.2.1 x.1.2.2.2.2.1 x.2.1 x.2.2.1 x.2.2.2.1 x.2.2.2.2.1 x.2.2.2.2.2.1 x.2.2.2.2.2.2.1 x.2.2.2.2.2.2.2.1 x.2.2.2.2.2.2.2.2.1 x.2.2.2.2.2.2.2.2.2.1 x.2.2.2.2.2.2.2.2.2.2.1 x.2.2.2.2.2.2.2.2.2.2.2.1)
def g18_L4_T (m n : Nat) : LoopT := ⟨8, g18_L4_I, g18_L4_O, g18_L4_R m n⟩
theorem g18_L4_kr (m n : Nat) (x : g18_L4_I.Val) : roundK (mkC (outVal g18_L4_O) [g25_T m]) (mkLp (outVal g18_L4_O) []) tt 137 g18_H g18_B8 8 (g18_L4_I.enc x) (Kl (ins := g18_L4_I) (outs := g18_L4_O) (g18_L4_R m n)) = g18_L4 m (n + 1) x.1.1 x.1.2.1 x.1.2.2.1 x.1.2.2.2.1 x.1.2.2.2.2.1 x.2.1 x.2.2.1 x.2.2.2.1 x.2.2.2.2.1 x.2.2.2.2.2.1 x.2.2.2.2.2.2.1 x.2.2.2.2.2.2.2.1 x.2.2.2.2.2.2.2.2.1 x.2.2.2.2.2.2.2.2.2.1 x.2.2.2.2.2.2.2.2.2.2.1 x.2.2.2.2.2.2.2.2.2.2.2.1 := by kernel_rfl
theorem g18_L4_ok {E : Entry} (hE : EOf Tryd.prog E 137 g18_H.pins) (m : Nat) (n : Nat) : LoopOK Tryd.prog E g18_B8 (g18_L4_T m n) :=
  loop_ok (CO := CallOK Tryd.prog) hmix htt (fun _ _ _ _ h => h) hE (C := fun R => mkC R [g25_T m]) (L := []) (fun _ _ _ _ _ h => mkC_spec (AllF.mem (l := [g25_T m]) ⟨g25_ok m, trivial⟩) h) (fun _ _ => loopsIn_of g18_B8_ls trivial) (fun n => (g18_L4_R m n)) (fun _ => by kernel_rfl) (fun n x => (g18_L4_kr m n x).trans (by kernel_rfl)) n
abbrev g18_L3_I : SS := [(0, .a (.bx 0 [(.imm (.sl false (.pr (.int .i64) (.int .i64)))), (.nm 1 (.int .i64)), (.nm 2 (.int .i64)), (.nm 3 (.int .i64)), (.nm 4 (.int .i64))])), (2, .a (.c (.nm 5 (.int .i64)))), (3, .a (.c (.nm 6 (.int .i64)))), (5, .a (.c (.nm 7 (.int .i64)))), (10, .a (.c .bool)), (67, .a (.c (.imm (.sl false (.pr (.int .i64) (.int .i64)))))), (68, .a (.c (.int .i64))), (69, .a (.c (.int .i64)))]
abbrev g18_L3_O : List (Ex × SS) := [(.exit 6, [(0, .a (.bx 0 [(.imm (.sl false (.pr (.int .i64) (.int .i64)))), (.nm 1 (.int .i64)), (.nm 2 (.int .i64)), (.nm 3 (.int .i64)), (.nm 4 (.int .i64))])), (2, .a (.c (.nm 5 (.int .i64)))), (3, .a (.c (.nm 6 (.int .i64)))), (5, .a (.c (.nm 7 (.int .i64)))), (10, .a (.c .bool))])]
def g18_L3_R (m n : Nat) : g18_L3_I.Val → Option (outVal g18_L3_O) := (fun (x : ((List (List (Int × Int))) × List Int × List Int × List Int × List Int × Unit) × List Int × List Int × List Int × Bool × (List (List (Int × Int))) × Int × Int × Unit) => g18_L3 m n x.1.1 x.1.2.1 x.1.2.2.1 x.1.2.2.2.1 x.1.2.2.2.2.1 x.2.1 x.2.2.1 x.2.2.2.1 x.2.2.2.2.1 x.2.2.2.2.2.1 x.2.2.2.2.2.2.1 x.2.2.2.2.2.2.2.1)
def g18_L3_T (m n : Nat) : LoopT := ⟨6, g18_L3_I, g18_L3_O, g18_L3_R m n⟩
theorem g18_L3_kr (m n : Nat) (x : g18_L3_I.Val) : roundK (mkC (outVal g18_L3_O) [g25_T m]) (mkLp (outVal g18_L3_O) [g18_L4_T m m]) tt 137 g18_H g18_B6 6 (g18_L3_I.enc x) (Kl (ins := g18_L3_I) (outs := g18_L3_O) (g18_L3_R m n)) = g18_L3 m (n + 1) x.1.1 x.1.2.1 x.1.2.2.1 x.1.2.2.2.1 x.1.2.2.2.2.1 x.2.1 x.2.2.1 x.2.2.2.1 x.2.2.2.2.1 x.2.2.2.2.2.1 x.2.2.2.2.2.2.1 x.2.2.2.2.2.2.2.1 := by kernel_rfl
theorem g18_L3_ok {E : Entry} (hE : EOf Tryd.prog E 137 g18_H.pins) (m : Nat) (n : Nat) : LoopOK Tryd.prog E g18_B6 (g18_L3_T m n) :=
  loop_ok (CO := CallOK Tryd.prog) hmix htt (fun _ _ _ _ h => h) hE (C := fun R => mkC R [g25_T m]) (L := [g18_L4_T m m]) (fun _ _ _ _ _ h => mkC_spec (AllF.mem (l := [g25_T m]) ⟨g25_ok m, trivial⟩) h) (fun _ _ => loopsIn_of g18_B6_ls ⟨mkLp_all ⟨fun _ => g18_L4_ok hE m m, trivial⟩, trivial⟩) (fun n => (g18_L3_R m n)) (fun _ => by kernel_rfl) (fun n x => (g18_L3_kr m n x).trans (by kernel_rfl)) n
abbrev g18_L2_I : SS := [(0, .a (.bx 0 [(.imm (.sl false (.pr (.int .i64) (.int .i64)))), (.nm 1 (.int .i64)), (.nm 2 (.int .i64)), (.nm 3 (.int .i64)), (.nm 4 (.int .i64))])), (2, .a (.c (.nm 5 (.int .i64)))), (3, .a (.c (.nm 6 (.int .i64)))), (5, .a (.c (.nm 7 (.int .i64)))), (10, .a (.c .bool))]
abbrev g18_L2_O : List (Ex × SS) := [(.exit 4, [(0, .a (.bx 0 [(.imm (.sl false (.pr (.int .i64) (.int .i64)))), (.nm 1 (.int .i64)), (.nm 2 (.int .i64)), (.nm 3 (.int .i64)), (.nm 4 (.int .i64))])), (2, .a (.c (.nm 5 (.int .i64)))), (3, .a (.c (.nm 6 (.int .i64)))), (5, .a (.c (.nm 7 (.int .i64))))])]
def g18_L2_R (m n : Nat) : g18_L2_I.Val → Option (outVal g18_L2_O) := (fun (x : ((List (List (Int × Int))) × List Int × List Int × List Int × List Int × Unit) × List Int × List Int × List Int × Bool × Unit) => g18_L2 m n x.1.1 x.1.2.1 x.1.2.2.1 x.1.2.2.2.1 x.1.2.2.2.2.1 x.2.1 x.2.2.1 x.2.2.2.1 x.2.2.2.2.1)
def g18_L2_T (m n : Nat) : LoopT := ⟨4, g18_L2_I, g18_L2_O, g18_L2_R m n⟩
theorem g18_L2_kr (m n : Nat) (x : g18_L2_I.Val) : roundK (mkC (outVal g18_L2_O) [g25_T m]) (mkLp (outVal g18_L2_O) [g18_L3_T m m]) tt 137 g18_H g18_B4 4 (g18_L2_I.enc x) (Kl (ins := g18_L2_I) (outs := g18_L2_O) (g18_L2_R m n)) = g18_L2 m (n + 1) x.1.1 x.1.2.1 x.1.2.2.1 x.1.2.2.2.1 x.1.2.2.2.2.1 x.2.1 x.2.2.1 x.2.2.2.1 x.2.2.2.2.1 := by kernel_rfl
theorem g18_L2_ok {E : Entry} (hE : EOf Tryd.prog E 137 g18_H.pins) (m : Nat) (n : Nat) : LoopOK Tryd.prog E g18_B4 (g18_L2_T m n) :=
  loop_ok (CO := CallOK Tryd.prog) hmix htt (fun _ _ _ _ h => h) hE (C := fun R => mkC R [g25_T m]) (L := [g18_L3_T m m]) (fun _ _ _ _ _ h => mkC_spec (AllF.mem (l := [g25_T m]) ⟨g25_ok m, trivial⟩) h) (fun _ _ => loopsIn_of g18_B4_ls ⟨mkLp_all ⟨fun _ => g18_L3_ok hE m m, trivial⟩, trivial⟩) (fun n => (g18_L2_R m n)) (fun _ => by kernel_rfl) (fun n x => (g18_L2_kr m n x).trans (by kernel_rfl)) n
abbrev g18_L1_I : SS := [(0, .a (.bx 0 [(.imm (.sl false (.pr (.int .i64) (.int .i64)))), (.nm 1 (.int .i64)), (.nm 2 (.int .i64)), (.nm 3 (.int .i64)), (.nm 4 (.int .i64))])), (2, .a (.c (.nm 5 (.int .i64)))), (3, .a (.c (.nm 6 (.int .i64)))), (5, .a (.c (.nm 7 (.int .i64)))), (6, .a (.c (.int .i64))), (33, .a (.c (.imm (.sl false (.pr (.int .i64) (.int .i64)))))), (34, .a (.c (.int .i64))), (35, .a (.c (.int .i64))), (40, .a (.c (.imm (.pr (.int .i64) (.int .i64))))), (41, .a (.c (.int .i64))), (42, .a (.c (.int .i64)))]
abbrev g18_L1_O : List (Ex × SS) := [(.exit 2, [(0, .a (.bx 0 [(.imm (.sl false (.pr (.int .i64) (.int .i64)))), (.nm 1 (.int .i64)), (.nm 2 (.int .i64)), (.nm 3 (.int .i64)), (.nm 4 (.int .i64))])), (2, .a (.c (.nm 5 (.int .i64)))), (3, .a (.c (.nm 6 (.int .i64)))), (5, .a (.c (.nm 7 (.int .i64)))), (33, .a (.c (.imm (.sl false (.pr (.int .i64) (.int .i64)))))), (34, .a (.c (.int .i64))), (35, .a (.c (.int .i64)))])]
def g18_L1_R (m n : Nat) : g18_L1_I.Val → Option (outVal g18_L1_O) := (fun (x : ((List (List (Int × Int))) × List Int × List Int × List Int × List Int × Unit) × List Int × List Int × List Int × Int × (List (List (Int × Int))) × Int × Int × (List (Int × Int)) × Int × Int × Unit) => g18_L1 m n x.1.1 x.1.2.1 x.1.2.2.1 x.1.2.2.2.1 x.1.2.2.2.2.1 x.2.1 x.2.2.1 x.2.2.2.1 x.2.2.2.2.1 x.2.2.2.2.2.1 x.2.2.2.2.2.2.1 x.2.2.2.2.2.2.2.1 x.2.2.2.2.2.2.2.2.1 x.2.2.2.2.2.2.2.2.2.1 x.2.2.2.2.2.2.2.2.2.2.1)
def g18_L1_T (m n : Nat) : LoopT := ⟨2, g18_L1_I, g18_L1_O, g18_L1_R m n⟩
theorem g18_L1_kr (m n : Nat) (x : g18_L1_I.Val) : roundK (mkC (outVal g18_L1_O) [g25_T m]) (mkLp (outVal g18_L1_O) []) tt 137 g18_H g18_B2 2 (g18_L1_I.enc x) (Kl (ins := g18_L1_I) (outs := g18_L1_O) (g18_L1_R m n)) = g18_L1 m (n + 1) x.1.1 x.1.2.1 x.1.2.2.1 x.1.2.2.2.1 x.1.2.2.2.2.1 x.2.1 x.2.2.1 x.2.2.2.1 x.2.2.2.2.1 x.2.2.2.2.2.1 x.2.2.2.2.2.2.1 x.2.2.2.2.2.2.2.1 x.2.2.2.2.2.2.2.2.1 x.2.2.2.2.2.2.2.2.2.1 x.2.2.2.2.2.2.2.2.2.2.1 := by kernel_rfl
theorem g18_L1_ok {E : Entry} (hE : EOf Tryd.prog E 137 g18_H.pins) (m : Nat) (n : Nat) : LoopOK Tryd.prog E g18_B2 (g18_L1_T m n) :=
  loop_ok (CO := CallOK Tryd.prog) hmix htt (fun _ _ _ _ h => h) hE (C := fun R => mkC R [g25_T m]) (L := []) (fun _ _ _ _ _ h => mkC_spec (AllF.mem (l := [g25_T m]) ⟨g25_ok m, trivial⟩) h) (fun _ _ => loopsIn_of g18_B2_ls trivial) (fun n => (g18_L1_R m n)) (fun _ => by kernel_rfl) (fun n x => (g18_L1_kr m n x).trans (by kernel_rfl)) n
abbrev g18_L0_I : SS := [(0, .a (.bx 0 [(.imm (.sl false (.pr (.int .i64) (.int .i64)))), (.nm 1 (.int .i64)), (.nm 2 (.int .i64)), (.nm 3 (.int .i64)), (.nm 4 (.int .i64))])), (2, .a (.c (.nm 5 (.int .i64)))), (3, .a (.c (.nm 6 (.int .i64)))), (5, .a (.c (.nm 7 (.int .i64)))), (33, .a (.c (.imm (.sl false (.pr (.int .i64) (.int .i64)))))), (34, .a (.c (.int .i64))), (35, .a (.c (.int .i64)))]
abbrev g18_L0_O : List (Ex × SS) := [(.exit 0, [(0, .a (.bx 0 [(.imm (.sl false (.pr (.int .i64) (.int .i64)))), (.nm 1 (.int .i64)), (.nm 2 (.int .i64)), (.nm 3 (.int .i64)), (.nm 4 (.int .i64))])), (2, .a (.c (.nm 5 (.int .i64)))), (3, .a (.c (.nm 6 (.int .i64)))), (5, .a (.c (.nm 7 (.int .i64))))])]
def g18_L0_R (m n : Nat) : g18_L0_I.Val → Option (outVal g18_L0_O) := (fun (x : ((List (List (Int × Int))) × List Int × List Int × List Int × List Int × Unit) × List Int × List Int × List Int × (List (List (Int × Int))) × Int × Int × Unit) => g18_L0 m n x.1.1 x.1.2.1 x.1.2.2.1 x.1.2.2.2.1 x.1.2.2.2.2.1 x.2.1 x.2.2.1 x.2.2.2.1 x.2.2.2.2.1 x.2.2.2.2.2.1 x.2.2.2.2.2.2.1)
def g18_L0_T (m n : Nat) : LoopT := ⟨0, g18_L0_I, g18_L0_O, g18_L0_R m n⟩
theorem g18_L0_kr (m n : Nat) (x : g18_L0_I.Val) : roundK (mkC (outVal g18_L0_O) [g25_T m]) (mkLp (outVal g18_L0_O) [g18_L1_T m m]) tt 137 g18_H g18_B0 0 (g18_L0_I.enc x) (Kl (ins := g18_L0_I) (outs := g18_L0_O) (g18_L0_R m n)) = g18_L0 m (n + 1) x.1.1 x.1.2.1 x.1.2.2.1 x.1.2.2.2.1 x.1.2.2.2.2.1 x.2.1 x.2.2.1 x.2.2.2.1 x.2.2.2.2.1 x.2.2.2.2.2.1 x.2.2.2.2.2.2.1 := by kernel_rfl
theorem g18_L0_ok {E : Entry} (hE : EOf Tryd.prog E 137 g18_H.pins) (m : Nat) (n : Nat) : LoopOK Tryd.prog E g18_B0 (g18_L0_T m n) :=
  loop_ok (CO := CallOK Tryd.prog) hmix htt (fun _ _ _ _ h => h) hE (C := fun R => mkC R [g25_T m]) (L := [g18_L1_T m m]) (fun _ _ _ _ _ h => mkC_spec (AllF.mem (l := [g25_T m]) ⟨g25_ok m, trivial⟩) h) (fun _ _ => loopsIn_of g18_B0_ls ⟨mkLp_all ⟨fun _ => g18_L1_ok hE m m, trivial⟩, trivial⟩) (fun n => (g18_L0_R m n)) (fun _ => by kernel_rfl) (fun n x => (g18_L0_kr m n x).trans (by kernel_rfl)) n
theorem g18_kr (m : Nat) (x : ShLVal g18_A) : fnK (mkC (g18_S.Val × ShLVal g18_U) [g25_T m]) (mkLp (g18_S.Val × ShLVal g18_U) [g18_L0_T m m, g18_L2_T m m, g18_L5_T m m]) tt g18_H Tryd.f18 (encS g18_A x) (Kd g18_S g18_U) = g18 m x.1.1 x.1.2.1 x.1.2.2.1 x.1.2.2.2.1 x.1.2.2.2.2.1 := by kernel_rfl
theorem g18_ok (m : Nat) : FunOK Tryd.prog (g18_T m) :=
  fun_ok hmix htt (g18_T m) Tryd.func18 (c := g18_C) (by kernel_rfl) (by kernel_rfl) (Lc := [g25_T m]) (AllF.mem (l := [g25_T m]) ⟨g25_ok m, trivial⟩) (L := [g18_L0_T m m, g18_L2_T m m, g18_L5_T m m]) (fun _ hE _ _ => loopsIn_of g18_C_ls ⟨mkLp_all ⟨fun _ => g18_L0_ok hE m m, fun h => absurd (show (4 : Nat) = 0 from h) (by decide), fun h => absurd (show (10 : Nat) = 0 from h) (by decide), trivial⟩, mkLp_all ⟨fun h => absurd (show (0 : Nat) = 4 from h) (by decide), fun _ => g18_L2_ok hE m m, fun h => absurd (show (10 : Nat) = 4 from h) (by decide), trivial⟩, mkLp_all ⟨fun h => absurd (show (0 : Nat) = 10 from h) (by decide), fun h => absurd (show (4 : Nat) = 10 from h) (by decide), fun _ => g18_L5_ok hE m m, trivial⟩, trivial⟩) (fun x => (g18_kr m x).trans (by kernel_rfl))
/-! 7 sparse/transversal.Maximum -/
def g7_H : Hints := { regs := [⟨[], [1, 2]⟩, ⟨[], [1, 2, 4]⟩, ⟨[], [1, 2, 4, 12]⟩, ⟨[(1, 1)], [2, 3]⟩, ⟨[(3, 1)], [2, 5, 6]⟩, ⟨[(0, 1)], [2, 5, 22]⟩, ⟨[], [2, 3]⟩, ⟨[], [2, 5]⟩, ⟨[(2, 1)], [2, 5, 7, 8]⟩, ⟨[(0, 1), (3, 1), (4, 1), (5, 1)], [2, 3]⟩], heads := [], exits := [], rets := [2, 3], pins := [], spec := [[true, true, true], [false]] }
abbrev g7_A : List Sh := [.a (.agg [(.int .i64), (.int .i64), (.imm (.int .i64)), (.imm (.int .i64)), (.imm (.int .u64))])]
abbrev g7_S : Sh := .tup [(.agg [(.nm 0 (.int .i64)), (.nm 1 (.int .i64)), (.nm 2 (.int .i64))]), (.c (.int .i64))]
abbrev g7_U : List Sh := [.a (.c .dead)]
def g7_R (m : Nat) : ShLVal g7_A → Option (g7_S.Val × ShLVal g7_U) := fun (x : (Int × Int × List Int × List Int × List Int × Unit) × Unit) => g7 m x.1.1 x.1.2.1 x.1.2.2.1 x.1.2.2.2.1 x.1.2.2.2.2.1
def g7_T (m : Nat) : FunT := ⟨7, g7_A, g7_S, g7_U, g7_R m⟩
noncomputable def g7_C : Code := codeOf Tryd.f7
theorem g7_C_ls : loopsL g7_C 0 = [] := by kernel_rfl
theorem g7_kr (m : Nat) (x : ShLVal g7_A) : fnK (mkC (g7_S.Val × ShLVal g7_U) [g14_T m, g16_T m, g15_T m, g17_T m, g18_T m]) (mkLp (g7_S.Val × ShLVal g7_U) []) tt g7_H Tryd.f7 (encS g7_A x) (Kd g7_S g7_U) = g7 m x.1.1 x.1.2.1 x.1.2.2.1 x.1.2.2.2.1 x.1.2.2.2.2.1 := by kernel_rfl
theorem g7_ok (m : Nat) : FunOK Tryd.prog (g7_T m) :=
  fun_ok hmix htt (g7_T m) Tryd.func7 (c := g7_C) (by kernel_rfl) (by kernel_rfl) (Lc := [g14_T m, g16_T m, g15_T m, g17_T m, g18_T m]) (AllF.mem (l := [g14_T m, g16_T m, g15_T m, g17_T m, g18_T m]) ⟨g14_ok m, g16_ok m, g15_ok m, g17_ok m, g18_ok m, trivial⟩) (L := []) (fun _ hE _ _ => loopsIn_of g7_C_ls trivial) (fun x => (g7_kr m x).trans (by kernel_rfl))
/-! 10 sparse/sparsekit.Ints -/
def g10_H : Hints := { regs := [⟨[], [0, 1]⟩, ⟨[], [0, 1, 10]⟩, ⟨[], [4]⟩, ⟨[], [0, 1, 5]⟩, ⟨[], [0, 1, 5, 14]⟩, ⟨[(0, 1)], [0, 1, 5]⟩, ⟨[], [0, 1, 5, 25]⟩, ⟨[], [4]⟩, ⟨[], [4]⟩], heads := [(0, [0, 1, 5])], exits := [(0, []), (1, [0, 1, 5])], rets := [4], pins := [], spec := [[false]] }
abbrev g10_A : List Sh := [.a (.c (.imm (.int .i64))), .a (.c (.imm (.int .i64)))]
abbrev g10_S : Sh := .a (.c .bool)
abbrev g10_U : List Sh := [.a (.c .dead), .a (.c .dead)]
def g10_R (m : Nat) : ShLVal g10_A → Option (g10_S.Val × ShLVal g10_U) := fun (x : List Int × List Int × Unit) => g10 m x.1 x.2.1
def g10_T (m : Nat) : FunT := ⟨10, g10_A, g10_S, g10_U, g10_R m⟩
noncomputable def g10_C : Code := codeOf Tryd.f10
noncomputable def g10_B0 : Code := loopAt g10_C 0 0
theorem g10_B0_ls : loopsL g10_B0 0 = [] := by kernel_rfl
theorem g10_C_ls : loopsL g10_C 0 = [(0, g10_B0)] := by kernel_rfl
abbrev g10_L0_I : SS := [(0, .a (.c (.imm (.int .i64)))), (1, .a (.c (.imm (.int .i64)))), (5, .a (.c (.int .i64)))]
abbrev g10_L0_O : List (Ex × SS) := [(.ret, [(4, .a (.c .bool))]), (.exit 0, [])]
def g10_L0_R (m n : Nat) : g10_L0_I.Val → Option (outVal g10_L0_O) := (fun (x : List Int × List Int × Int × Unit) => g10_L0 m n x.1 x.2.1 x.2.2.1)
def g10_L0_T (m n : Nat) : LoopT := ⟨0, g10_L0_I, g10_L0_O, g10_L0_R m n⟩
theorem g10_L0_kr (m n : Nat) (x : g10_L0_I.Val) : roundK (mkC (outVal g10_L0_O) []) (mkLp (outVal g10_L0_O) []) tt 26 g10_H g10_B0 0 (g10_L0_I.enc x) (Kl (ins := g10_L0_I) (outs := g10_L0_O) (g10_L0_R m n)) = g10_L0 m (n + 1) x.1 x.2.1 x.2.2.1 := by kernel_rfl
theorem g10_L0_ok {E : Entry} (hE : EOf Tryd.prog E 26 g10_H.pins) (m : Nat) (n : Nat) : LoopOK Tryd.prog E g10_B0 (g10_L0_T m n) :=
  loop_ok (CO := CallOK Tryd.prog) hmix htt (fun _ _ _ _ h => h) hE (C := fun R => mkC R []) (L := []) (fun _ _ _ _ _ h => mkC_spec (AllF.mem (l := []) trivial) h) (fun _ _ => loopsIn_of g10_B0_ls trivial) (fun n => (g10_L0_R m n)) (fun _ => by kernel_rfl) (fun n x => (g10_L0_kr m n x).trans (by kernel_rfl)) n
theorem g10_kr (m : Nat) (x : ShLVal g10_A) : fnK (mkC (g10_S.Val × ShLVal g10_U) []) (mkLp (g10_S.Val × ShLVal g10_U) [g10_L0_T m m]) tt g10_H Tryd.f10 (encS g10_A x) (Kd g10_S g10_U) = g10 m x.1 x.2.1 := by kernel_rfl
theorem g10_ok (m : Nat) : FunOK Tryd.prog (g10_T m) :=
  fun_ok hmix htt (g10_T m) Tryd.func10 (c := g10_C) (by kernel_rfl) (by kernel_rfl) (Lc := []) (AllF.mem (l := []) trivial) (L := [g10_L0_T m m]) (fun _ hE _ _ => loopsIn_of g10_C_ls ⟨mkLp_all ⟨fun _ => g10_L0_ok hE m m, trivial⟩, trivial⟩) (fun x => (g10_kr m x).trans (by kernel_rfl))
/-! 19 sparse/transversal.matched -/
def g19_H : Hints := { regs := [⟨[], [0, 1]⟩, ⟨[], [0, 1, 5]⟩, ⟨[(0, 1)], [0, 5, 14, 15, 16]⟩, ⟨[], [0, 5, 14, 15, 16, 17]⟩, ⟨[], [0, 5, 6, 7, 14, 15, 16]⟩, ⟨[], [0, 5, 6, 7, 8, 14, 15, 16]⟩, ⟨[(1, 1)], [0, 5, 7, 8, 14, 15, 16, 24, 25, 26]⟩, ⟨[], [0, 5, 7, 8, 14, 15, 16, 24, 25, 26, 27]⟩, ⟨[], [0, 5, 7, 8, 10, 14, 15, 16, 24, 25, 26]⟩, ⟨[(0, 1), (1, 1)], [0, 5, 7, 8, 14, 15, 16, 24, 25, 26]⟩, ⟨[(1, 1)], [0, 5, 7, 8, 14, 15, 16, 24, 25, 26]⟩, ⟨[(0, 1), (2, 1)], [0, 5, 7, 14, 15, 16, 45]⟩, ⟨[], [4]⟩, ⟨[(1, 1)], [0, 5, 14, 15, 16]⟩, ⟨[(1, 1)], [0, 5, 14, 15, 16]⟩, ⟨[], [4]⟩], heads := [(0, [0, 5, 14, 15, 16]), (2, [0, 5, 7, 8, 14, 15, 16, 24, 25, 26])], exits := [(0, []), (1, [0, 5, 14, 15, 16]), (2, [0, 5, 7, 8, 14, 15, 16]), (3, [0, 5, 7, 8, 14, 15, 16, 24, 25, 26])], rets := [4], pins := [], spec := [[false]] }
abbrev g19_A : List Sh := [.a (.c (.imm (.sl false (.pr (.int .i64) (.int .i64))))), .a (.c (.imm (.int .i64)))]
abbrev g19_S : Sh := .a (.c .bool)
abbrev g19_U : List Sh := [.a (.c .dead), .a (.c .dead)]
def g19_R (m : Nat) : ShLVal g19_A → Option (g19_S.Val × ShLVal g19_U) := fun (x : (List (List (Int × Int))) × List Int × Unit) => g19 m x.1 x.2.1
def g19_T (m : Nat) : FunT := ⟨19, g19_A, g19_S, g19_U, g19_R m⟩
noncomputable def g19_C : Code := codeOf Tryd.f19
noncomputable def g19_B0 : Code := loopAt g19_C 0 0
noncomputable def g19_B2 : Code := loopAt g19_B0 0 0
theorem g19_B2_ls : loopsL g19_B2 2 = [] := by kernel_rfl
theorem g19_B0_ls : loopsL g19_B0 0 = [(2, g19_B2)] := by kernel_rfl
theorem g19_C_ls : loopsL g19_C 0 = [(0, g19_B0)] := by kernel_rfl
abbrev g19_L1_I : SS := [(0, .a (.c (.imm (.sl false (.pr (.int .i64) (.int .i64)))))), (5, .a (.c (.nm 0 .bool))), (7, .a (.c (.int .i64))), (8, .a (.c .bool)), (14, .a (.c (.imm (.int .i64)))), (15, .a (.c (.int .i64))), (16, .a (.c (.int .i64))), (24, .a (.c (.imm (.pr (.int .i64) (.int .i64))))), (25, .a (.c (.int .i64))), (26, .a (.c (.int .i64)))]
abbrev g19_L1_O : List (Ex × SS) := [(.exit 2, [(0, .a (.c (.imm (.sl false (.pr (.int .i64) (.int .i64)))))), (5, .a (.c (.nm 0 .bool))), (7, .a (.c (.int .i64))), (8, .a (.c .bool)), (14, .a (.c (.imm (.int .i64)))), (15, .a (.c (.int .i64))), (16, .a (.c (.int .i64)))])]
def g19_L1_R (m n : Nat) : g19_L1_I.Val → Option (outVal g19_L1_O) := (fun (x : (List (List (Int × Int))) × List Bool × Int × Bool × List Int × Int × Int × (List (Int × Int)) × Int × Int × Unit) => g19_L1 m n x.1 x.2.1 x.2.2.1 x.2.2.2.1 x.2.2.2.2.1 x.2.2.2.2.2.1 x.2.2.2.2.2.2.1 x.2.2.2.2.2.2.2.1 x.2.2.2.2.2.2.2.2.1 x.2.2.2.2.2.2.2.2.2.1)
def g19_L1_T (m n : Nat) : LoopT := ⟨2, g19_L1_I, g19_L1_O, g19_L1_R m n⟩
theorem g19_L1_kr (m n : Nat) (x : g19_L1_I.Val) : roundK (mkC (outVal g19_L1_O) []) (mkLp (outVal g19_L1_O) []) tt 50 g19_H g19_B2 2 (g19_L1_I.enc x) (Kl (ins := g19_L1_I) (outs := g19_L1_O) (g19_L1_R m n)) = g19_L1 m (n + 1) x.1 x.2.1 x.2.2.1 x.2.2.2.1 x.2.2.2.2.1 x.2.2.2.2.2.1 x.2.2.2.2.2.2.1 x.2.2.2.2.2.2.2.1 x.2.2.2.2.2.2.2.2.1 x.2.2.2.2.2.2.2.2.2.1 := by kernel_rfl
theorem g19_L1_ok {E : Entry} (hE : EOf Tryd.prog E 50 g19_H.pins) (m : Nat) (n : Nat) : LoopOK Tryd.prog E g19_B2 (g19_L1_T m n) :=
  loop_ok (CO := CallOK Tryd.prog) hmix htt (fun _ _ _ _ h => h) hE (C := fun R => mkC R []) (L := []) (fun _ _ _ _ _ h => mkC_spec (AllF.mem (l := []) trivial) h) (fun _ _ => loopsIn_of g19_B2_ls trivial) (fun n => (g19_L1_R m n)) (fun _ => by kernel_rfl) (fun n x => (g19_L1_kr m n x).trans (by kernel_rfl)) n
abbrev g19_L0_I : SS := [(0, .a (.c (.imm (.sl false (.pr (.int .i64) (.int .i64)))))), (5, .a (.c (.nm 0 .bool))), (14, .a (.c (.imm (.int .i64)))), (15, .a (.c (.int .i64))), (16, .a (.c (.int .i64)))]
abbrev g19_L0_O : List (Ex × SS) := [(.ret, [(4, .a (.c .bool))]), (.exit 0, [])]
def g19_L0_R (m n : Nat) : g19_L0_I.Val → Option (outVal g19_L0_O) := (fun (x : (List (List (Int × Int))) × List Bool × List Int × Int × Int × Unit) => g19_L0 m n x.1 x.2.1 x.2.2.1 x.2.2.2.1 x.2.2.2.2.1)
def g19_L0_T (m n : Nat) : LoopT := ⟨0, g19_L0_I, g19_L0_O, g19_L0_R m n⟩
theorem g19_L0_kr (m n : Nat) (x : g19_L0_I.Val) : roundK (mkC (outVal g19_L0_O) []) (mkLp (outVal g19_L0_O) [g19_L1_T m m]) tt 50 g19_H g19_B0 0 (g19_L0_I.enc x) (Kl (ins := g19_L0_I) (outs := g19_L0_O) (g19_L0_R m n)) = g19_L0 m (n + 1) x.1 x.2.1 x.2.2.1 x.2.2.2.1 x.2.2.2.2.1 := by kernel_rfl
theorem g19_L0_ok {E : Entry} (hE : EOf Tryd.prog E 50 g19_H.pins) (m : Nat) (n : Nat) : LoopOK Tryd.prog E g19_B0 (g19_L0_T m n) :=
  loop_ok (CO := CallOK Tryd.prog) hmix htt (fun _ _ _ _ h => h) hE (C := fun R => mkC R []) (L := [g19_L1_T m m]) (fun _ _ _ _ _ h => mkC_spec (AllF.mem (l := []) trivial) h) (fun _ _ => loopsIn_of g19_B0_ls ⟨mkLp_all ⟨fun _ => g19_L1_ok hE m m, trivial⟩, trivial⟩) (fun n => (g19_L0_R m n)) (fun _ => by kernel_rfl) (fun n x => (g19_L0_kr m n x).trans (by kernel_rfl)) n
theorem g19_kr (m : Nat) (x : ShLVal g19_A) : fnK (mkC (g19_S.Val × ShLVal g19_U) []) (mkLp (g19_S.Val × ShLVal g19_U) [g19_L0_T m m]) tt g19_H Tryd.f19 (encS g19_A x) (Kd g19_S g19_U) = g19 m x.1 x.2.1 := by kernel_rfl
theorem g19_ok (m : Nat) : FunOK Tryd.prog (g19_T m) :=
  fun_ok hmix htt (g19_T m) Tryd.func19 (c := g19_C) (by kernel_rfl) (by kernel_rfl) (Lc := []) (AllF.mem (l := []) trivial) (L := [g19_L0_T m m]) (fun _ hE _ _ => loopsIn_of g19_C_ls ⟨mkLp_all ⟨fun _ => g19_L0_ok hE m m, trivial⟩, trivial⟩) (fun x => (g19_kr m x).trans (by kernel_rfl))
/-! 30 sparse/transversal.sum -/
def g30_H : Hints := { regs := [⟨[], [0, 1]⟩, ⟨[], [0, 1, 5]⟩, ⟨[(2, 1), (6, 1)], [0, 1, 5, 9]⟩, ⟨[], [4]⟩, ⟨[(0, 1), (2, 1), (3, 1), (6, 1)], [5, 20]⟩, ⟨[], [4]⟩, ⟨[(0, 1)], [4]⟩], heads := [], exits := [(0, [5])], rets := [4], pins := [], spec := [[false]] }
abbrev g30_A : List Sh := [.a (.c (.int .i64)), .a (.c (.int .i64))]
abbrev g30_S : Sh := .a (.c (.int .i64))
abbrev g30_U : List Sh := [.a (.c .dead), .a (.c .dead)]
def g30_R (m : Nat) : ShLVal g30_A → Option (g30_S.Val × ShLVal g30_U) := fun (x : Int × Int × Unit) => g30 m x.1 x.2.1
def g30_T (m : Nat) : FunT := ⟨30, g30_A, g30_S, g30_U, g30_R m⟩
noncomputable def g30_C : Code := codeOf Tryd.f30
theorem g30_C_ls : loopsL g30_C 0 = [] := by kernel_rfl
theorem g30_kr (m : Nat) (x : ShLVal g30_A) : fnK (mkC (g30_S.Val × ShLVal g30_U) []) (mkLp (g30_S.Val × ShLVal g30_U) []) tt g30_H Tryd.f30 (encS g30_A x) (Kd g30_S g30_U) = g30 m x.1 x.2.1 := by kernel_rfl
theorem g30_ok (m : Nat) : FunOK Tryd.prog (g30_T m) :=
  fun_ok hmix htt (g30_T m) Tryd.func30 (c := g30_C) (by kernel_rfl) (by kernel_rfl) (Lc := []) (AllF.mem (l := []) trivial) (L := []) (fun _ hE _ _ => loopsIn_of g30_C_ls trivial) (fun x => (g30_kr m x).trans (by kernel_rfl))
/-! 20 sparse/transversal.proved -/
def g20_H : Hints := { regs := [⟨[], [0, 3]⟩, ⟨[(0, 1)], [3, 10, 11, 12]⟩, ⟨[], [3, 10, 11, 12, 13]⟩, ⟨[], [3, 5, 6, 10, 11, 12]⟩, ⟨[(0, 1)], [3, 5, 10, 11, 12, 17, 18, 19]⟩, ⟨[], [3, 5, 10, 11, 12, 17, 18, 19, 20]⟩, ⟨[], [3, 5, 8, 10, 11, 12, 17, 18, 19]⟩, ⟨[], [3, 5, 8, 9, 10, 11, 12, 17, 18, 19]⟩, ⟨[(4, 1), (9, 1)], [3, 5, 10, 11, 12, 17, 18, 19, 54]⟩, ⟨[], [4]⟩, ⟨[(1, 1)], [3, 5, 10, 11, 12, 17, 18, 19]⟩, ⟨[(1, 1)], [3, 10, 11, 12]⟩, ⟨[], [4]⟩], heads := [(0, [3, 10, 11, 12]), (2, [3, 5, 10, 11, 12, 17, 18, 19])], exits := [(0, []), (1, [3, 10, 11, 12]), (2, [3, 10, 11, 12]), (3, [3, 5, 10, 11, 12, 17, 18, 19])], rets := [4], pins := [], spec := [[false]] }
abbrev g20_A : List Sh := [.a (.c (.imm (.sl false (.pr (.int .i64) (.int .i64))))), .a (.agg [(.imm (.int .i64)), (.imm (.int .i64)), (.imm (.int .i64))])]
abbrev g20_S : Sh := .a (.c .bool)
abbrev g20_U : List Sh := [.a (.c .dead), .a (.c .dead)]
def g20_R (m : Nat) : ShLVal g20_A → Option (g20_S.Val × ShLVal g20_U) := fun (x : (List (List (Int × Int))) × (List Int × List Int × List Int × Unit) × Unit) => g20 m x.1 x.2.1.1 x.2.1.2.1 x.2.1.2.2.1
def g20_T (m : Nat) : FunT := ⟨20, g20_A, g20_S, g20_U, g20_R m⟩
noncomputable def g20_C : Code := codeOf Tryd.f20
noncomputable def g20_B0 : Code := loopAt g20_C 0 0
noncomputable def g20_B2 : Code := loopAt g20_B0 0 0
theorem g20_B2_ls : loopsL g20_B2 2 = [] := by kernel_rfl
theorem g20_B0_ls : loopsL g20_B0 0 = [(2, g20_B2)] := by kernel_rfl
theorem g20_C_ls : loopsL g20_C 0 = [(0, g20_B0)] := by kernel_rfl
abbrev g20_L1_I : SS := [(3, .a (.bx 0 [(.imm (.int .i64)), (.imm (.int .i64)), (.imm (.int .i64))])), (5, .a (.c (.int .i64))), (10, .a (.c (.imm (.sl false (.pr (.int .i64) (.int .i64)))))), (11, .a (.c (.int .i64))), (12, .a (.c (.int .i64))), (17, .a (.c (.imm (.pr (.int .i64) (.int .i64))))), (18, .a (.c (.int .i64))), (19, .a (.c (.int .i64)))]
abbrev g20_L1_O : List (Ex × SS) := [(.ret, [(4, .a (.c .bool))]), (.exit 2, [(3, .a (.bx 0 [(.imm (.int .i64)), (.imm (.int .i64)), (.imm (.int .i64))])), (10, .a (.c (.imm (.sl false (.pr (.int .i64) (.int .i64)))))), (11, .a (.c (.int .i64))), (12, .a (.c (.int .i64)))])]
def g20_L1_R (m n : Nat) : g20_L1_I.Val → Option (outVal g20_L1_O) := (fun (x : (List Int × List Int × List Int × Unit) × Int × (List (List (Int × Int))) × Int × Int × (List (Int × Int)) × Int × Int × Unit) => g20_L1 m n x.1.1 x.1.2.1 x.1.2.2.1 x.2.1 x.2.2.1 x.2.2.2.1 x.2.2.2.2.1 x.2.2.2.2.2.1 x.2.2.2.2.2.2.1 x.2.2.2.2.2.2.2.1)
def g20_L1_T (m n : Nat) : LoopT := ⟨2, g20_L1_I, g20_L1_O, g20_L1_R m n⟩
theorem g20_L1_kr (m n : Nat) (x : g20_L1_I.Val) : roundK (mkC (outVal g20_L1_O) [g30_T m]) (mkLp (outVal g20_L1_O) []) tt 57 g20_H g20_B2 2 (g20_L1_I.enc x) (Kl (ins := g20_L1_I) (outs := g20_L1_O) (g20_L1_R m n)) = g20_L1 m (n + 1) x.1.1 x.1.2.1 x.1.2.2.1 x.2.1 x.2.2.1 x.2.2.2.1 x.2.2.2.2.1 x.2.2.2.2.2.1 x.2.2.2.2.2.2.1 x.2.2.2.2.2.2.2.1 := by kernel_rfl
theorem g20_L1_ok {E : Entry} (hE : EOf Tryd.prog E 57 g20_H.pins) (m : Nat) (n : Nat) : LoopOK Tryd.prog E g20_B2 (g20_L1_T m n) :=
  loop_ok (CO := CallOK Tryd.prog) hmix htt (fun _ _ _ _ h => h) hE (C := fun R => mkC R [g30_T m]) (L := []) (fun _ _ _ _ _ h => mkC_spec (AllF.mem (l := [g30_T m]) ⟨g30_ok m, trivial⟩) h) (fun _ _ => loopsIn_of g20_B2_ls trivial) (fun n => (g20_L1_R m n)) (fun _ => by kernel_rfl) (fun n x => (g20_L1_kr m n x).trans (by kernel_rfl)) n
abbrev g20_L0_I : SS := [(3, .a (.bx 0 [(.imm (.int .i64)), (.imm (.int .i64)), (.imm (.int .i64))])), (10, .a (.c (.imm (.sl false (.pr (.int .i64) (.int .i64)))))), (11, .a (.c (.int .i64))), (12, .a (.c (.int .i64)))]
abbrev g20_L0_O : List (Ex × SS) := [(.ret, [(4, .a (.c .bool))]), (.exit 0, [])]
def g20_L0_R (m n : Nat) : g20_L0_I.Val → Option (outVal g20_L0_O) := (fun (x : (List Int × List Int × List Int × Unit) × (List (List (Int × Int))) × Int × Int × Unit) => g20_L0 m n x.1.1 x.1.2.1 x.1.2.2.1 x.2.1 x.2.2.1 x.2.2.2.1)
def g20_L0_T (m n : Nat) : LoopT := ⟨0, g20_L0_I, g20_L0_O, g20_L0_R m n⟩
theorem g20_L0_kr (m n : Nat) (x : g20_L0_I.Val) : roundK (mkC (outVal g20_L0_O) [g30_T m]) (mkLp (outVal g20_L0_O) [g20_L1_T m m]) tt 57 g20_H g20_B0 0 (g20_L0_I.enc x) (Kl (ins := g20_L0_I) (outs := g20_L0_O) (g20_L0_R m n)) = g20_L0 m (n + 1) x.1.1 x.1.2.1 x.1.2.2.1 x.2.1 x.2.2.1 x.2.2.2.1 := by kernel_rfl
theorem g20_L0_ok {E : Entry} (hE : EOf Tryd.prog E 57 g20_H.pins) (m : Nat) (n : Nat) : LoopOK Tryd.prog E g20_B0 (g20_L0_T m n) :=
  loop_ok (CO := CallOK Tryd.prog) hmix htt (fun _ _ _ _ h => h) hE (C := fun R => mkC R [g30_T m]) (L := [g20_L1_T m m]) (fun _ _ _ _ _ h => mkC_spec (AllF.mem (l := [g30_T m]) ⟨g30_ok m, trivial⟩) h) (fun _ _ => loopsIn_of g20_B0_ls ⟨mkLp_all ⟨fun _ => g20_L1_ok hE m m, trivial⟩, trivial⟩) (fun n => (g20_L0_R m n)) (fun _ => by kernel_rfl) (fun n x => (g20_L0_kr m n x).trans (by kernel_rfl)) n
theorem g20_kr (m : Nat) (x : ShLVal g20_A) : fnK (mkC (g20_S.Val × ShLVal g20_U) [g30_T m]) (mkLp (g20_S.Val × ShLVal g20_U) [g20_L0_T m m]) tt g20_H Tryd.f20 (encS g20_A x) (Kd g20_S g20_U) = g20 m x.1 x.2.1.1 x.2.1.2.1 x.2.1.2.2.1 := by kernel_rfl
theorem g20_ok (m : Nat) : FunOK Tryd.prog (g20_T m) :=
  fun_ok hmix htt (g20_T m) Tryd.func20 (c := g20_C) (by kernel_rfl) (by kernel_rfl) (Lc := [g30_T m]) (AllF.mem (l := [g30_T m]) ⟨g30_ok m, trivial⟩) (L := [g20_L0_T m m]) (fun _ hE _ _ => loopsIn_of g20_C_ls ⟨mkLp_all ⟨fun _ => g20_L0_ok hE m m, trivial⟩, trivial⟩) (fun x => (g20_kr m x).trans (by kernel_rfl))
/-! 9 sparse/transversal.Check -/
def g9_H : Hints := { regs := [⟨[], [2, 3]⟩, ⟨[], [2, 3, 5]⟩, ⟨[], [2, 3, 5, 9]⟩, ⟨[(0, 1)], [4]⟩, ⟨[(6, 1), (14, 1)], [2, 3, 13]⟩, ⟨[], [4]⟩, ⟨[], [3, 6]⟩, ⟨[], [3, 6, 38]⟩, ⟨[], [4]⟩, ⟨[(0, 1)], [44]⟩, ⟨[], [4]⟩, ⟨[], [4]⟩], heads := [], exits := [(0, [2, 3]), (1, [])], rets := [4], pins := [], spec := [[false]] }
abbrev g9_A : List Sh := [.a (.agg [(.int .i64), (.int .i64), (.imm (.int .i64)), (.imm (.int .i64)), (.imm (.int .u64))]), .a (.agg [(.imm (.int .i64)), (.imm (.int .i64)), (.imm (.int .i64))])]
abbrev g9_S : Sh := .a (.c (.int .i64))
abbrev g9_U : List Sh := [.a (.c .dead), .a (.c .dead)]
def g9_R (m : Nat) : ShLVal g9_A → Option (g9_S.Val × ShLVal g9_U) := fun (x : (Int × Int × List Int × List Int × List Int × Unit) × (List Int × List Int × List Int × Unit) × Unit) => g9 m x.1.1 x.1.2.1 x.1.2.2.1 x.1.2.2.2.1 x.1.2.2.2.2.1 x.2.1.1 x.2.1.2.1 x.2.1.2.2.1
def g9_T (m : Nat) : FunT := ⟨9, g9_A, g9_S, g9_U, g9_R m⟩
noncomputable def g9_C : Code := codeOf Tryd.f9
theorem g9_C_ls : loopsL g9_C 0 = [] := by kernel_rfl
theorem g9_kr (m : Nat) (x : ShLVal g9_A) : fnK (mkC (g9_S.Val × ShLVal g9_U) [g14_T m, g16_T m, g19_T m, g20_T m]) (mkLp (g9_S.Val × ShLVal g9_U) []) tt g9_H Tryd.f9 (encS g9_A x) (Kd g9_S g9_U) = g9 m x.1.1 x.1.2.1 x.1.2.2.1 x.1.2.2.2.1 x.1.2.2.2.2.1 x.2.1.1 x.2.1.2.1 x.2.1.2.2.1 := by kernel_rfl
theorem g9_ok (m : Nat) : FunOK Tryd.prog (g9_T m) :=
  fun_ok hmix htt (g9_T m) Tryd.func9 (c := g9_C) (by kernel_rfl) (by kernel_rfl) (Lc := [g14_T m, g16_T m, g19_T m, g20_T m]) (AllF.mem (l := [g14_T m, g16_T m, g19_T m, g20_T m]) ⟨g14_ok m, g16_ok m, g19_ok m, g20_ok m, trivial⟩) (L := []) (fun _ hE _ _ => loopsIn_of g9_C_ls trivial) (fun x => (g9_kr m x).trans (by kernel_rfl))
/-! 4 sparse/sparselaw14.awake -/
def sparselaw14_awake_H : Hints := { regs := [⟨[], []⟩, ⟨[], [1]⟩, ⟨[(2, 1)], [1, 2, 3]⟩, ⟨[(0, 1), (2, 1), (8, 1), (14, 1), (20, 1)], [0]⟩], heads := [], exits := [], rets := [0], pins := [], spec := [[false]] }
abbrev sparselaw14_awake_A : List Sh := []
abbrev sparselaw14_awake_S : Sh := .a (.c .bool)
abbrev sparselaw14_awake_U : List Sh := []
def sparselaw14_awake_R (m : Nat) : ShLVal sparselaw14_awake_A → Option (sparselaw14_awake_S.Val × ShLVal sparselaw14_awake_U) := fun (x : Unit) => sparselaw14_awake m
def sparselaw14_awake_T (m : Nat) : FunT := ⟨4, sparselaw14_awake_A, sparselaw14_awake_S, sparselaw14_awake_U, sparselaw14_awake_R m⟩
noncomputable def sparselaw14_awake_C : Code := codeOf Tryd.f4
theorem sparselaw14_awake_C_ls : loopsL sparselaw14_awake_C 0 = [] := by kernel_rfl
theorem sparselaw14_awake_kr (m : Nat) (x : ShLVal sparselaw14_awake_A) : fnK (mkC (sparselaw14_awake_S.Val × ShLVal sparselaw14_awake_U) [g7_T m, g10_T m, g9_T m]) (mkLp (sparselaw14_awake_S.Val × ShLVal sparselaw14_awake_U) []) tt sparselaw14_awake_H Tryd.f4 (encS sparselaw14_awake_A x) (Kd sparselaw14_awake_S sparselaw14_awake_U) = sparselaw14_awake m := by kernel_rfl
theorem sparselaw14_awake_ok (m : Nat) : FunOK Tryd.prog (sparselaw14_awake_T m) :=
  fun_ok hmix htt (sparselaw14_awake_T m) Tryd.func4 (c := sparselaw14_awake_C) (by kernel_rfl) (by kernel_rfl) (Lc := [g7_T m, g10_T m, g9_T m]) (AllF.mem (l := [g7_T m, g10_T m, g9_T m]) ⟨g7_ok m, g10_ok m, g9_ok m, trivial⟩) (L := []) (fun _ hE _ _ => loopsIn_of sparselaw14_awake_C_ls trivial) (fun x => (sparselaw14_awake_kr m x).trans (by kernel_rfl))
/-! 5 sparse/sparsekit.Place -/
def g5_H : Hints := { regs := [⟨[], [0, 1]⟩, ⟨[(0, 1), (2, 1)], [4]⟩], heads := [], exits := [], rets := [4], pins := [], spec := [[false]] }
abbrev g5_A : List Sh := [.a (.c (.int .i64)), .a (.c (.int .i64))]
abbrev g5_S : Sh := .a (.c (.int .i64))
abbrev g5_U : List Sh := [.a (.c .dead), .a (.c .dead)]
def g5_R (m : Nat) : ShLVal g5_A → Option (g5_S.Val × ShLVal g5_U) := fun (x : Int × Int × Unit) => g5 m x.1 x.2.1
def g5_T (m : Nat) : FunT := ⟨5, g5_A, g5_S, g5_U, g5_R m⟩
noncomputable def g5_C : Code := codeOf Tryd.f5
theorem g5_C_ls : loopsL g5_C 0 = [] := by kernel_rfl
theorem g5_kr (m : Nat) (x : ShLVal g5_A) : fnK (mkC (g5_S.Val × ShLVal g5_U) []) (mkLp (g5_S.Val × ShLVal g5_U) []) tt g5_H Tryd.f5 (encS g5_A x) (Kd g5_S g5_U) = g5 m x.1 x.2.1 := by kernel_rfl
theorem g5_ok (m : Nat) : FunOK Tryd.prog (g5_T m) :=
  fun_ok hmix htt (g5_T m) Tryd.func5 (c := g5_C) (by kernel_rfl) (by kernel_rfl) (Lc := []) (AllF.mem (l := []) trivial) (L := []) (fun _ hE _ _ => loopsIn_of g5_C_ls trivial) (fun x => (g5_kr m x).trans (by kernel_rfl))
/-! 12 sparse/sparsemake.At -/
def g12_H : Hints := { regs := [⟨[], [0, 1]⟩, ⟨[], [0, 1, 8]⟩, ⟨[(0, 1), (1, 1)], [4]⟩, ⟨[], [4]⟩], heads := [], exits := [], rets := [4], pins := [], spec := [[false]] }
abbrev g12_A : List Sh := [.a (.c (.imm (.int .i64))), .a (.c (.int .i64))]
abbrev g12_S : Sh := .a (.c (.int .i64))
abbrev g12_U : List Sh := [.a (.c .dead), .a (.c .dead)]
def g12_R (m : Nat) : ShLVal g12_A → Option (g12_S.Val × ShLVal g12_U) := fun (x : List Int × Int × Unit) => g12 m x.1 x.2.1
def g12_T (m : Nat) : FunT := ⟨12, g12_A, g12_S, g12_U, g12_R m⟩
noncomputable def g12_C : Code := codeOf Tryd.f12
theorem g12_C_ls : loopsL g12_C 0 = [] := by kernel_rfl
theorem g12_kr (m : Nat) (x : ShLVal g12_A) : fnK (mkC (g12_S.Val × ShLVal g12_U) []) (mkLp (g12_S.Val × ShLVal g12_U) []) tt g12_H Tryd.f12 (encS g12_A x) (Kd g12_S g12_U) = g12 m x.1 x.2.1 := by kernel_rfl
theorem g12_ok (m : Nat) : FunOK Tryd.prog (g12_T m) :=
  fun_ok hmix htt (g12_T m) Tryd.func12 (c := g12_C) (by kernel_rfl) (by kernel_rfl) (Lc := []) (AllF.mem (l := []) trivial) (L := []) (fun _ hE _ _ => loopsIn_of g12_C_ls trivial) (fun x => (g12_kr m x).trans (by kernel_rfl))
/-! 68 sparse/sparseref01.trim -/
def g68_H : Hints := { regs := [⟨[], [0]⟩, ⟨[], [0, 3]⟩, ⟨[(2, 1)], [0, 3, 17]⟩, ⟨[(0, 1)], [0, 3]⟩, ⟨[], [0, 3, 4]⟩, ⟨[], [0, 3, 4, 5]⟩, ⟨[], [0, 3, 4, 5, 22]⟩, ⟨[(0, 1)], [0, 3, 4, 5]⟩, ⟨[(0, 1)], [0, 3, 4, 5]⟩, ⟨[(0, 1)], [2]⟩], heads := [(0, [0, 3]), (2, [0, 3, 4, 5])], exits := [(0, [0, 3]), (1, [0, 3]), (2, [4]), (3, [0, 3, 4, 5])], rets := [2], pins := [], spec := [[true]] }
abbrev g68_A : List Sh := [.a (.c (.imm (.int .u32)))]
abbrev g68_S : Sh := .a (.c (.nm 0 (.int .u32)))
abbrev g68_U : List Sh := [.a (.c .dead)]
def g68_R (m : Nat) : ShLVal g68_A → Option (g68_S.Val × ShLVal g68_U) := fun (x : List Int × Unit) => g68 m x.1
def g68_T (m : Nat) : FunT := ⟨68, g68_A, g68_S, g68_U, g68_R m⟩
noncomputable def g68_C : Code := codeOf Tryd.f68
noncomputable def g68_B0 : Code := loopAt g68_C 0 0
theorem g68_B0_ls : loopsL g68_B0 0 = [] := by kernel_rfl
noncomputable def g68_B2 : Code := loopAt g68_C 0 1
theorem g68_B2_ls : loopsL g68_B2 2 = [] := by kernel_rfl
theorem g68_C_ls : loopsL g68_C 0 = [(0, g68_B0), (2, g68_B2)] := by kernel_rfl
abbrev g68_L1_I : SS := [(0, .a (.c (.imm (.int .u32)))), (3, .a (.c (.int .i64))), (4, .a (.c (.nm 0 (.int .u32)))), (5, .a (.c (.int .i64)))]
abbrev g68_L1_O : List (Ex × SS) := [(.exit 2, [(4, .a (.c (.nm 0 (.int .u32))))])]
def g68_L1_R (m n : Nat) : g68_L1_I.Val → Option (outVal g68_L1_O) := (fun (x : List Int × Int × List Int × Int × Unit) => g68_L1 m n x.1 x.2.1 x.2.2.1 x.2.2.2.1)
def g68_L1_T (m n : Nat) : LoopT := ⟨2, g68_L1_I, g68_L1_O, g68_L1_R m n⟩
theorem g68_L1_kr (m n : Nat) (x : g68_L1_I.Val) : roundK (mkC (outVal g68_L1_O) []) (mkLp (outVal g68_L1_O) []) tt 33 g68_H g68_B2 2 (g68_L1_I.enc x) (Kl (ins := g68_L1_I) (outs := g68_L1_O) (g68_L1_R m n)) = g68_L1 m (n + 1) x.1 x.2.1 x.2.2.1 x.2.2.2.1 := by kernel_rfl
theorem g68_L1_ok {E : Entry} (hE : EOf Tryd.prog E 33 g68_H.pins) (m : Nat) (n : Nat) : LoopOK Tryd.prog E g68_B2 (g68_L1_T m n) :=
  loop_ok (CO := CallOK Tryd.prog) hmix htt (fun _ _ _ _ h => h) hE (C := fun R => mkC R []) (L := []) (fun _ _ _ _ _ h => mkC_spec (AllF.mem (l := []) trivial) h) (fun _ _ => loopsIn_of g68_B2_ls trivial) (fun n => (g68_L1_R m n)) (fun _ => by kernel_rfl) (fun n x => (g68_L1_kr m n x).trans (by kernel_rfl)) n
abbrev g68_L0_I : SS := [(0, .a (.c (.imm (.int .u32)))), (3, .a (.c (.int .i64)))]
abbrev g68_L0_O : List (Ex × SS) := [(.exit 0, [(0, .a (.c (.imm (.int .u32)))), (3, .a (.c (.int .i64)))])]
def g68_L0_R (m n : Nat) : g68_L0_I.Val → Option (outVal g68_L0_O) := (fun (x : List Int × Int × Unit) => g68_L0 m n x.1 x.2.1)
def g68_L0_T (m n : Nat) : LoopT := ⟨0, g68_L0_I, g68_L0_O, g68_L0_R m n⟩
theorem g68_L0_kr (m n : Nat) (x : g68_L0_I.Val) : roundK (mkC (outVal g68_L0_O) []) (mkLp (outVal g68_L0_O) []) tt 33 g68_H g68_B0 0 (g68_L0_I.enc x) (Kl (ins := g68_L0_I) (outs := g68_L0_O) (g68_L0_R m n)) = g68_L0 m (n + 1) x.1 x.2.1 := by kernel_rfl
theorem g68_L0_ok {E : Entry} (hE : EOf Tryd.prog E 33 g68_H.pins) (m : Nat) (n : Nat) : LoopOK Tryd.prog E g68_B0 (g68_L0_T m n) :=
  loop_ok (CO := CallOK Tryd.prog) hmix htt (fun _ _ _ _ h => h) hE (C := fun R => mkC R []) (L := []) (fun _ _ _ _ _ h => mkC_spec (AllF.mem (l := []) trivial) h) (fun _ _ => loopsIn_of g68_B0_ls trivial) (fun n => (g68_L0_R m n)) (fun _ => by kernel_rfl) (fun n x => (g68_L0_kr m n x).trans (by kernel_rfl)) n
theorem g68_kr (m : Nat) (x : ShLVal g68_A) : fnK (mkC (g68_S.Val × ShLVal g68_U) []) (mkLp (g68_S.Val × ShLVal g68_U) [g68_L0_T m m, g68_L1_T m m]) tt g68_H Tryd.f68 (encS g68_A x) (Kd g68_S g68_U) = g68 m x.1 := by kernel_rfl
theorem g68_ok (m : Nat) : FunOK Tryd.prog (g68_T m) :=
  fun_ok hmix htt (g68_T m) Tryd.func68 (c := g68_C) (by kernel_rfl) (by kernel_rfl) (Lc := []) (AllF.mem (l := []) trivial) (L := [g68_L0_T m m, g68_L1_T m m]) (fun _ hE _ _ => loopsIn_of g68_C_ls ⟨mkLp_all ⟨fun _ => g68_L0_ok hE m m, fun h => absurd (show (2 : Nat) = 0 from h) (by decide), trivial⟩, mkLp_all ⟨fun h => absurd (show (0 : Nat) = 2 from h) (by decide), fun _ => g68_L1_ok hE m m, trivial⟩, trivial⟩) (fun x => (g68_kr m x).trans (by kernel_rfl))
/-! 55 sparse/sparseref01.make1 -/
def g55_H : Hints := { regs := [⟨[], [0, 1, 4]⟩, ⟨[(0, 1)], [0, 1, 4]⟩, ⟨[(0, 1), (1, 1), (6, 1)], [4]⟩], heads := [], exits := [], rets := [4], pins := [], spec := [[false, true]] }
abbrev g55_A : List Sh := [.a (.c .bool), .a (.c (.imm (.int .u32)))]
abbrev g55_S : Sh := .a (.agg [.bool, (.nm 0 (.int .u32))])
abbrev g55_U : List Sh := [.a (.c .dead), .a (.c .dead)]
def g55_R (m : Nat) : ShLVal g55_A → Option (g55_S.Val × ShLVal g55_U) := fun (x : Bool × List Int × Unit) => g55 m x.1 x.2.1
def g55_T (m : Nat) : FunT := ⟨55, g55_A, g55_S, g55_U, g55_R m⟩
noncomputable def g55_C : Code := codeOf Tryd.f55
theorem g55_C_ls : loopsL g55_C 0 = [] := by kernel_rfl
theorem g55_kr (m : Nat) (x : ShLVal g55_A) : fnK (mkC (g55_S.Val × ShLVal g55_U) [g68_T m]) (mkLp (g55_S.Val × ShLVal g55_U) []) tt g55_H Tryd.f55 (encS g55_A x) (Kd g55_S g55_U) = g55 m x.1 x.2.1 := by kernel_rfl
theorem g55_ok (m : Nat) : FunOK Tryd.prog (g55_T m) :=
  fun_ok hmix htt (g55_T m) Tryd.func55 (c := g55_C) (by kernel_rfl) (by kernel_rfl) (Lc := [g68_T m]) (AllF.mem (l := [g68_T m]) ⟨g68_ok m, trivial⟩) (L := []) (fun _ hE _ _ => loopsIn_of g55_C_ls trivial) (fun x => (g55_kr m x).trans (by kernel_rfl))
/-! 37 sparse/sparseref01.FromInt -/
def g37_H : Hints := { regs := [⟨[], [0, 2]⟩, ⟨[], [0, 2, 3]⟩, ⟨[], [0, 2, 3, 7]⟩, ⟨[], [0, 2, 3]⟩, ⟨[(0, 1)], [2]⟩], heads := [], exits := [], rets := [2], pins := [], spec := [[false, true]] }
abbrev g37_A : List Sh := [.a (.c (.int .i64))]
abbrev g37_S : Sh := .a (.agg [.bool, (.nm 0 (.int .u32))])
abbrev g37_U : List Sh := [.a (.c .dead)]
def g37_R (m : Nat) : ShLVal g37_A → Option (g37_S.Val × ShLVal g37_U) := fun (x : Int × Unit) => g37 m x.1
def g37_T (m : Nat) : FunT := ⟨37, g37_A, g37_S, g37_U, g37_R m⟩
noncomputable def g37_C : Code := codeOf Tryd.f37
theorem g37_C_ls : loopsL g37_C 0 = [] := by kernel_rfl
theorem g37_kr (m : Nat) (x : ShLVal g37_A) : fnK (mkC (g37_S.Val × ShLVal g37_U) [g55_T m]) (mkLp (g37_S.Val × ShLVal g37_U) []) tt g37_H Tryd.f37 (encS g37_A x) (Kd g37_S g37_U) = g37 m x.1 := by kernel_rfl
theorem g37_ok (m : Nat) : FunOK Tryd.prog (g37_T m) :=
  fun_ok hmix htt (g37_T m) Tryd.func37 (c := g37_C) (by kernel_rfl) (by kernel_rfl) (Lc := [g55_T m]) (AllF.mem (l := [g55_T m]) ⟨g55_ok m, trivial⟩) (L := []) (fun _ hE _ _ => loopsIn_of g37_C_ls trivial) (fun x => (g37_kr m x).trans (by kernel_rfl))
/-! 48 sparse/sparseref01.Norm -/
def g48_H : Hints := { regs := [⟨[], [1, 2]⟩, ⟨[], [2]⟩], heads := [], exits := [], rets := [2], pins := [], spec := [[false, true]] }
abbrev g48_A : List Sh := [.a (.agg [.bool, (.imm (.int .u32))])]
abbrev g48_S : Sh := .a (.agg [.bool, (.nm 0 (.int .u32))])
abbrev g48_U : List Sh := [.a (.c .dead)]
def g48_R (m : Nat) : ShLVal g48_A → Option (g48_S.Val × ShLVal g48_U) := fun (x : (Bool × List Int × Unit) × Unit) => g48 m x.1.1 x.1.2.1
def g48_T (m : Nat) : FunT := ⟨48, g48_A, g48_S, g48_U, g48_R m⟩
noncomputable def g48_C : Code := codeOf Tryd.f48
theorem g48_C_ls : loopsL g48_C 0 = [] := by kernel_rfl
theorem g48_kr (m : Nat) (x : ShLVal g48_A) : fnK (mkC (g48_S.Val × ShLVal g48_U) [g55_T m]) (mkLp (g48_S.Val × ShLVal g48_U) []) tt g48_H Tryd.f48 (encS g48_A x) (Kd g48_S g48_U) = g48 m x.1.1 x.1.2.1 := by kernel_rfl
theorem g48_ok (m : Nat) : FunOK Tryd.prog (g48_T m) :=
  fun_ok hmix htt (g48_T m) Tryd.func48 (c := g48_C) (by kernel_rfl) (by kernel_rfl) (Lc := [g55_T m]) (AllF.mem (l := [g55_T m]) ⟨g55_ok m, trivial⟩) (L := []) (fun _ hE _ _ => loopsIn_of g48_C_ls trivial) (fun x => (g48_kr m x).trans (by kernel_rfl))
/-! 35 sparse/sparseref02.Bad -/
def g35_H : Hints := { regs := [⟨[], [0]⟩, ⟨[], [0]⟩], heads := [], exits := [], rets := [0], pins := [], spec := [[false, false, true, false]] }
abbrev g35_A : List Sh := []
abbrev g35_S : Sh := .a (.agg [.bool, .bool, (.nm 0 (.int .u32)), (.int .i64)])
abbrev g35_U : List Sh := []
def g35_R (m : Nat) : ShLVal g35_A → Option (g35_S.Val × ShLVal g35_U) := fun (x : Unit) => g35 m
def g35_T (m : Nat) : FunT := ⟨35, g35_A, g35_S, g35_U, g35_R m⟩
noncomputable def g35_C : Code := codeOf Tryd.f35
theorem g35_C_ls : loopsL g35_C 0 = [] := by kernel_rfl
theorem g35_kr (m : Nat) (x : ShLVal g35_A) : fnK (mkC (g35_S.Val × ShLVal g35_U) []) (mkLp (g35_S.Val × ShLVal g35_U) []) tt g35_H Tryd.f35 (encS g35_A x) (Kd g35_S g35_U) = g35 m := by kernel_rfl
theorem g35_ok (m : Nat) : FunOK Tryd.prog (g35_T m) :=
  fun_ok hmix htt (g35_T m) Tryd.func35 (c := g35_C) (by kernel_rfl) (by kernel_rfl) (Lc := []) (AllF.mem (l := []) trivial) (L := []) (fun _ hE _ _ => loopsIn_of g35_C_ls trivial) (fun x => (g35_kr m x).trans (by kernel_rfl))
/-! 56 sparse/sparseref01.TrailingZeros -/
def g56_H : Hints := { regs := [⟨[], [1]⟩, ⟨[], [3]⟩, ⟨[], [3, 4]⟩, ⟨[], [3, 4, 11]⟩, ⟨[(0, 1)], [3, 4]⟩, ⟨[], [3, 4, 18]⟩, ⟨[(2, 1)], [2]⟩, ⟨[], [2]⟩], heads := [(0, [3, 4])], exits := [(0, []), (1, [3, 4])], rets := [2], pins := [], spec := [[false]] }
abbrev g56_A : List Sh := [.a (.agg [.bool, (.imm (.int .u32))])]
abbrev g56_S : Sh := .a (.c (.int .i64))
abbrev g56_U : List Sh := [.a (.c .dead)]
def g56_R (m : Nat) : ShLVal g56_A → Option (g56_S.Val × ShLVal g56_U) := fun (x : (Bool × List Int × Unit) × Unit) => g56 m x.1.1 x.1.2.1
def g56_T (m : Nat) : FunT := ⟨56, g56_A, g56_S, g56_U, g56_R m⟩
noncomputable def g56_C : Code := codeOf Tryd.f56
noncomputable def g56_B0 : Code := loopAt g56_C 0 0
theorem g56_B0_ls : loopsL g56_B0 0 = [] := by kernel_rfl
theorem g56_C_ls : loopsL g56_C 0 = [(0, g56_B0)] := by kernel_rfl
abbrev g56_L0_I : SS := [(3, .a (.c (.nm 0 (.int .u32)))), (4, .a (.c (.int .i64)))]
abbrev g56_L0_O : List (Ex × SS) := [(.ret, [(2, .a (.c (.int .i64)))]), (.exit 0, [])]
def g56_L0_R (m n : Nat) : g56_L0_I.Val → Option (outVal g56_L0_O) := (fun (x : List Int × Int × Unit) => g56_L0 m n x.1 x.2.1)
def g56_L0_T (m n : Nat) : LoopT := ⟨0, g56_L0_I, g56_L0_O, g56_L0_R m n⟩
theorem g56_L0_kr (m n : Nat) (x : g56_L0_I.Val) : roundK (mkC (outVal g56_L0_O) [g68_T m, g76_T m]) (mkLp (outVal g56_L0_O) []) tt 27 g56_H g56_B0 0 (g56_L0_I.enc x) (Kl (ins := g56_L0_I) (outs := g56_L0_O) (g56_L0_R m n)) = g56_L0 m (n + 1) x.1 x.2.1 := by kernel_rfl
theorem g56_L0_ok {E : Entry} (hE : EOf Tryd.prog E 27 g56_H.pins) (m : Nat) (n : Nat) : LoopOK Tryd.prog E g56_B0 (g56_L0_T m n) :=
  loop_ok (CO := CallOK Tryd.prog) hmix htt (fun _ _ _ _ h => h) hE (C := fun R => mkC R [g68_T m, g76_T m]) (L := []) (fun _ _ _ _ _ h => mkC_spec (AllF.mem (l := [g68_T m, g76_T m]) ⟨g68_ok m, g76_ok m, trivial⟩) h) (fun _ _ => loopsIn_of g56_B0_ls trivial) (fun n => (g56_L0_R m n)) (fun _ => by kernel_rfl) (fun n x => (g56_L0_kr m n x).trans (by kernel_rfl)) n
theorem g56_kr (m : Nat) (x : ShLVal g56_A) : fnK (mkC (g56_S.Val × ShLVal g56_U) [g68_T m, g76_T m]) (mkLp (g56_S.Val × ShLVal g56_U) [g56_L0_T m m]) tt g56_H Tryd.f56 (encS g56_A x) (Kd g56_S g56_U) = g56 m x.1.1 x.1.2.1 := by kernel_rfl
theorem g56_ok (m : Nat) : FunOK Tryd.prog (g56_T m) :=
  fun_ok hmix htt (g56_T m) Tryd.func56 (c := g56_C) (by kernel_rfl) (by kernel_rfl) (Lc := [g68_T m, g76_T m]) (AllF.mem (l := [g68_T m, g76_T m]) ⟨g68_ok m, g76_ok m, trivial⟩) (L := [g56_L0_T m m]) (fun _ hE _ _ => loopsIn_of g56_C_ls ⟨mkLp_all ⟨fun _ => g56_L0_ok hE m m, trivial⟩, trivial⟩) (fun x => (g56_kr m x).trans (by kernel_rfl))
/-! 34 sparse/sparseref01.Abs -/
def g34_H : Hints := { regs := [⟨[], [1, 2]⟩, ⟨[], [2]⟩], heads := [], exits := [], rets := [2], pins := [], spec := [[false, true]] }
abbrev g34_A : List Sh := [.a (.agg [.bool, (.imm (.int .u32))])]
abbrev g34_S : Sh := .a (.agg [.bool, (.nm 0 (.int .u32))])
abbrev g34_U : List Sh := [.a (.c .dead)]
def g34_R (m : Nat) : ShLVal g34_A → Option (g34_S.Val × ShLVal g34_U) := fun (x : (Bool × List Int × Unit) × Unit) => g34 m x.1.1 x.1.2.1
def g34_T (m : Nat) : FunT := ⟨34, g34_A, g34_S, g34_U, g34_R m⟩
noncomputable def g34_C : Code := codeOf Tryd.f34
theorem g34_C_ls : loopsL g34_C 0 = [] := by kernel_rfl
theorem g34_kr (m : Nat) (x : ShLVal g34_A) : fnK (mkC (g34_S.Val × ShLVal g34_U) [g55_T m]) (mkLp (g34_S.Val × ShLVal g34_U) []) tt g34_H Tryd.f34 (encS g34_A x) (Kd g34_S g34_U) = g34 m x.1.1 x.1.2.1 := by kernel_rfl
theorem g34_ok (m : Nat) : FunOK Tryd.prog (g34_T m) :=
  fun_ok hmix htt (g34_T m) Tryd.func34 (c := g34_C) (by kernel_rfl) (by kernel_rfl) (Lc := [g55_T m]) (AllF.mem (l := [g55_T m]) ⟨g55_ok m, trivial⟩) (L := []) (fun _ hE _ _ => loopsIn_of g34_C_ls trivial) (fun x => (g34_kr m x).trans (by kernel_rfl))
/-! 73 sparse/sparseref01.shl -/
def g73_H : Hints := { regs := [⟨[], [0, 1]⟩, ⟨[], [0, 1, 5]⟩, ⟨[], [0, 1, 5, 6]⟩, ⟨[], [0, 1, 5, 6, 7]⟩, ⟨[], [0, 1, 5, 6, 7, 14]⟩, ⟨[(0, 1)], [0, 1, 5, 6, 7]⟩, ⟨[(0, 1)], [0, 1, 5, 6, 7]⟩, ⟨[(0, 1)], [0, 1, 5, 6, 7]⟩, ⟨[(0, 1)], [0, 1, 5, 6, 7]⟩, ⟨[(0, 1), (1, 1)], [4]⟩], heads := [(0, [0, 1, 5, 6, 7])], exits := [(0, [5, 6]), (1, [0, 1, 5, 6, 7])], rets := [4], pins := [], spec := [[true]] }
abbrev g73_A : List Sh := [.a (.c (.imm (.int .u32))), .a (.c (.int .i64))]
abbrev g73_S : Sh := .a (.c (.nm 0 (.int .u32)))
abbrev g73_U : List Sh := [.a (.c .dead), .a (.c .dead)]
def g73_R (m : Nat) : ShLVal g73_A → Option (g73_S.Val × ShLVal g73_U) := fun (x : List Int × Int × Unit) => g73 m x.1 x.2.1
def g73_T (m : Nat) : FunT := ⟨73, g73_A, g73_S, g73_U, g73_R m⟩
noncomputable def g73_C : Code := codeOf Tryd.f73
noncomputable def g73_B0 : Code := loopAt g73_C 0 0
theorem g73_B0_ls : loopsL g73_B0 0 = [] := by kernel_rfl
theorem g73_C_ls : loopsL g73_C 0 = [(0, g73_B0)] := by kernel_rfl
abbrev g73_L0_I : SS := [(0, .a (.c (.imm (.int .u32)))), (1, .a (.c (.int .i64))), (5, .a (.c (.nm 0 (.int .u32)))), (6, .a (.c (.int .u64))), (7, .a (.c (.int .i64)))]
abbrev g73_L0_O : List (Ex × SS) := [(.exit 0, [(5, .a (.c (.nm 0 (.int .u32)))), (6, .a (.c (.int .u64)))])]
def g73_L0_R (m n : Nat) : g73_L0_I.Val → Option (outVal g73_L0_O) := (fun (x : List Int × Int × List Int × Int × Int × Unit) => g73_L0 m n x.1 x.2.1 x.2.2.1 x.2.2.2.1 x.2.2.2.2.1)
def g73_L0_T (m n : Nat) : LoopT := ⟨0, g73_L0_I, g73_L0_O, g73_L0_R m n⟩
theorem g73_L0_kr (m n : Nat) (x : g73_L0_I.Val) : roundK (mkC (outVal g73_L0_O) []) (mkLp (outVal g73_L0_O) []) tt 39 g73_H g73_B0 0 (g73_L0_I.enc x) (Kl (ins := g73_L0_I) (outs := g73_L0_O) (g73_L0_R m n)) = g73_L0 m (n + 1) x.1 x.2.1 x.2.2.1 x.2.2.2.1 x.2.2.2.2.1 := by kernel_rfl
theorem g73_L0_ok {E : Entry} (hE : EOf Tryd.prog E 39 g73_H.pins) (m : Nat) (n : Nat) : LoopOK Tryd.prog E g73_B0 (g73_L0_T m n) :=
  loop_ok (CO := CallOK Tryd.prog) hmix htt (fun _ _ _ _ h => h) hE (C := fun R => mkC R []) (L := []) (fun _ _ _ _ _ h => mkC_spec (AllF.mem (l := []) trivial) h) (fun _ _ => loopsIn_of g73_B0_ls trivial) (fun n => (g73_L0_R m n)) (fun _ => by kernel_rfl) (fun n x => (g73_L0_kr m n x).trans (by kernel_rfl)) n
theorem g73_kr (m : Nat) (x : ShLVal g73_A) : fnK (mkC (g73_S.Val × ShLVal g73_U) []) (mkLp (g73_S.Val × ShLVal g73_U) [g73_L0_T m m]) tt g73_H Tryd.f73 (encS g73_A x) (Kd g73_S g73_U) = g73 m x.1 x.2.1 := by kernel_rfl
theorem g73_ok (m : Nat) : FunOK Tryd.prog (g73_T m) :=
  fun_ok hmix htt (g73_T m) Tryd.func73 (c := g73_C) (by kernel_rfl) (by kernel_rfl) (Lc := []) (AllF.mem (l := []) trivial) (L := [g73_L0_T m m]) (fun _ hE _ _ => loopsIn_of g73_C_ls ⟨mkLp_all ⟨fun _ => g73_L0_ok hE m m, trivial⟩, trivial⟩) (fun x => (g73_kr m x).trans (by kernel_rfl))
/-! 74 sparse/sparseref01.shr -/
def g74_H : Hints := { regs := [⟨[], [0, 1]⟩, ⟨[], [0, 1, 6]⟩, ⟨[], [0, 1, 6, 7]⟩, ⟨[(4, 1)], [0, 1, 6, 7, 21]⟩, ⟨[(0, 1)], [0, 1, 6, 7]⟩, ⟨[(0, 1), (1, 1)], [0, 1, 6, 7]⟩, ⟨[], [0, 1, 6, 8]⟩, ⟨[], [0, 1, 6, 8, 9]⟩, ⟨[], [0, 1, 6, 8, 9, 10]⟩, ⟨[], [0, 1, 6, 8, 9, 10, 39]⟩, ⟨[(0, 1)], [0, 1, 6, 8, 9, 10]⟩, ⟨[], [0, 1, 6, 8, 9, 10, 11]⟩, ⟨[], [0, 1, 6, 8, 9, 10, 11, 51]⟩, ⟨[(0, 1)], [0, 1, 6, 8, 9, 10, 11]⟩, ⟨[(4, 1)], [0, 1, 6, 8, 9, 10, 11, 75]⟩, ⟨[], [0, 1, 6, 8, 9, 10, 11]⟩, ⟨[(0, 1), (1, 1)], [0, 1, 6, 8, 9, 10]⟩, ⟨[(0, 1), (1, 1)], [4, 5]⟩], heads := [(0, [0, 1, 6, 7]), (2, [0, 1, 6, 8, 9, 10])], exits := [(0, [0, 1, 6]), (1, [0, 1, 6, 7]), (2, [6, 8]), (3, [0, 1, 6, 8, 9, 10])], rets := [4, 5], pins := [], spec := [[true], [false]] }
abbrev g74_A : List Sh := [.a (.c (.imm (.int .u32))), .a (.c (.int .i64))]
abbrev g74_S : Sh := .tup [(.c (.nm 0 (.int .u32))), (.c .bool)]
abbrev g74_U : List Sh := [.a (.c .dead), .a (.c .dead)]
def g74_R (m : Nat) : ShLVal g74_A → Option (g74_S.Val × ShLVal g74_U) := fun (x : List Int × Int × Unit) => g74 m x.1 x.2.1
def g74_T (m : Nat) : FunT := ⟨74, g74_A, g74_S, g74_U, g74_R m⟩
noncomputable def g74_C : Code := codeOf Tryd.f74
noncomputable def g74_B0 : Code := loopAt g74_C 0 0
theorem g74_B0_ls : loopsL g74_B0 0 = [] := by kernel_rfl
noncomputable def g74_B2 : Code := loopAt g74_C 0 1
theorem g74_B2_ls : loopsL g74_B2 2 = [] := by kernel_rfl
theorem g74_C_ls : loopsL g74_C 0 = [(0, g74_B0), (2, g74_B2)] := by kernel_rfl
abbrev g74_L1_I : SS := [(0, .a (.c (.imm (.int .u32)))), (1, .a (.c (.int .i64))), (6, .a (.c .bool)), (8, .a (.c (.nm 0 (.int .u32)))), (9, .a (.c (.int .i64))), (10, .a (.c (.int .i64)))]
abbrev g74_L1_O : List (Ex × SS) := [(.exit 2, [(6, .a (.c .bool)), (8, .a (.c (.nm 0 (.int .u32))))])]
def g74_L1_R (m n : Nat) : g74_L1_I.Val → Option (outVal g74_L1_O) := (fun (x : List Int × Int × Bool × List Int × Int × Int × Unit) => g74_L1 m n x.1 x.2.1 x.2.2.1 x.2.2.2.1 x.2.2.2.2.1 x.2.2.2.2.2.1)
def g74_L1_T (m n : Nat) : LoopT := ⟨2, g74_L1_I, g74_L1_O, g74_L1_R m n⟩
theorem g74_L1_kr (m n : Nat) (x : g74_L1_I.Val) : roundK (mkC (outVal g74_L1_O) []) (mkLp (outVal g74_L1_O) []) tt 85 g74_H g74_B2 2 (g74_L1_I.enc x) (Kl (ins := g74_L1_I) (outs := g74_L1_O) (g74_L1_R m n)) = g74_L1 m (n + 1) x.1 x.2.1 x.2.2.1 x.2.2.2.1 x.2.2.2.2.1 x.2.2.2.2.2.1 := by kernel_rfl
theorem g74_L1_ok {E : Entry} (hE : EOf Tryd.prog E 85 g74_H.pins) (m : Nat) (n : Nat) : LoopOK Tryd.prog E g74_B2 (g74_L1_T m n) :=
  loop_ok (CO := CallOK Tryd.prog) hmix htt (fun _ _ _ _ h => h) hE (C := fun R => mkC R []) (L := []) (fun _ _ _ _ _ h => mkC_spec (AllF.mem (l := []) trivial) h) (fun _ _ => loopsIn_of g74_B2_ls trivial) (fun n => (g74_L1_R m n)) (fun _ => by kernel_rfl) (fun n x => (g74_L1_kr m n x).trans (by kernel_rfl)) n
abbrev g74_L0_I : SS := [(0, .a (.c (.imm (.int .u32)))), (1, .a (.c (.int .i64))), (6, .a (.c .bool)), (7, .a (.c (.int .i64)))]
abbrev g74_L0_O : List (Ex × SS) := [(.exit 0, [(0, .a (.c (.imm (.int .u32)))), (1, .a (.c (.int .i64))), (6, .a (.c .bool))])]
def g74_L0_R (m n : Nat) : g74_L0_I.Val → Option (outVal g74_L0_O) := (fun (x : List Int × Int × Bool × Int × Unit) => g74_L0 m n x.1 x.2.1 x.2.2.1 x.2.2.2.1)
def g74_L0_T (m n : Nat) : LoopT := ⟨0, g74_L0_I, g74_L0_O, g74_L0_R m n⟩
theorem g74_L0_kr (m n : Nat) (x : g74_L0_I.Val) : roundK (mkC (outVal g74_L0_O) []) (mkLp (outVal g74_L0_O) []) tt 85 g74_H g74_B0 0 (g74_L0_I.enc x) (Kl (ins := g74_L0_I) (outs := g74_L0_O) (g74_L0_R m n)) = g74_L0 m (n + 1) x.1 x.2.1 x.2.2.1 x.2.2.2.1 := by kernel_rfl
theorem g74_L0_ok {E : Entry} (hE : EOf Tryd.prog E 85 g74_H.pins) (m : Nat) (n : Nat) : LoopOK Tryd.prog E g74_B0 (g74_L0_T m n) :=
  loop_ok (CO := CallOK Tryd.prog) hmix htt (fun _ _ _ _ h => h) hE (C := fun R => mkC R []) (L := []) (fun _ _ _ _ _ h => mkC_spec (AllF.mem (l := []) trivial) h) (fun _ _ => loopsIn_of g74_B0_ls trivial) (fun n => (g74_L0_R m n)) (fun _ => by kernel_rfl) (fun n x => (g74_L0_kr m n x).trans (by kernel_rfl)) n
theorem g74_kr (m : Nat) (x : ShLVal g74_A) : fnK (mkC (g74_S.Val × ShLVal g74_U) []) (mkLp (g74_S.Val × ShLVal g74_U) [g74_L0_T m m, g74_L1_T m m]) tt g74_H Tryd.f74 (encS g74_A x) (Kd g74_S g74_U) = g74 m x.1 x.2.1 := by kernel_rfl
theorem g74_ok (m : Nat) : FunOK Tryd.prog (g74_T m) :=
  fun_ok hmix htt (g74_T m) Tryd.func74 (c := g74_C) (by kernel_rfl) (by kernel_rfl) (Lc := []) (AllF.mem (l := []) trivial) (L := [g74_L0_T m m, g74_L1_T m m]) (fun _ hE _ _ => loopsIn_of g74_C_ls ⟨mkLp_all ⟨fun _ => g74_L0_ok hE m m, fun h => absurd (show (2 : Nat) = 0 from h) (by decide), trivial⟩, mkLp_all ⟨fun h => absurd (show (0 : Nat) = 2 from h) (by decide), fun _ => g74_L1_ok hE m m, trivial⟩, trivial⟩) (fun x => (g74_kr m x).trans (by kernel_rfl))
/-! 89 sparse/sparseref01.Neg -/
def g89_H : Hints := { regs := [⟨[], [1, 2]⟩, ⟨[], [2]⟩], heads := [], exits := [], rets := [2], pins := [], spec := [[false, true]] }
abbrev g89_A : List Sh := [.a (.agg [.bool, (.imm (.int .u32))])]
abbrev g89_S : Sh := .a (.agg [.bool, (.nm 0 (.int .u32))])
abbrev g89_U : List Sh := [.a (.c .dead)]
def g89_R (m : Nat) : ShLVal g89_A → Option (g89_S.Val × ShLVal g89_U) := fun (x : (Bool × List Int × Unit) × Unit) => g89 m x.1.1 x.1.2.1
def g89_T (m : Nat) : FunT := ⟨89, g89_A, g89_S, g89_U, g89_R m⟩
noncomputable def g89_C : Code := codeOf Tryd.f89
theorem g89_C_ls : loopsL g89_C 0 = [] := by kernel_rfl
theorem g89_kr (m : Nat) (x : ShLVal g89_A) : fnK (mkC (g89_S.Val × ShLVal g89_U) [g55_T m]) (mkLp (g89_S.Val × ShLVal g89_U) []) tt g89_H Tryd.f89 (encS g89_A x) (Kd g89_S g89_U) = g89 m x.1.1 x.1.2.1 := by kernel_rfl
theorem g89_ok (m : Nat) : FunOK Tryd.prog (g89_T m) :=
  fun_ok hmix htt (g89_T m) Tryd.func89 (c := g89_C) (by kernel_rfl) (by kernel_rfl) (Lc := [g55_T m]) (AllF.mem (l := [g55_T m]) ⟨g55_ok m, trivial⟩) (L := []) (fun _ hE _ _ => loopsIn_of g89_C_ls trivial) (fun x => (g89_kr m x).trans (by kernel_rfl))
/-! 86 sparse/sparseref01.addMag -/
def g86_H : Hints := { regs := [⟨[], [0, 1]⟩, ⟨[], [0, 1, 5]⟩, ⟨[], [0, 1, 5, 6]⟩, ⟨[], [0, 1, 5, 6, 7]⟩, ⟨[], [0, 1, 5, 6, 7, 14]⟩, ⟨[(0, 1)], [0, 1, 5, 6, 7]⟩, ⟨[], [0, 1, 5, 6, 7, 20]⟩, ⟨[(0, 1)], [0, 1, 5, 6, 7]⟩, ⟨[], [0, 1, 5, 6, 7, 31]⟩, ⟨[(0, 1)], [0, 1, 5, 6, 7]⟩, ⟨[(0, 1)], [0, 1, 5, 6, 7]⟩, ⟨[(0, 1)], [0, 1, 5, 6, 7]⟩, ⟨[(0, 1), (1, 1)], [4]⟩], heads := [(0, [0, 1, 5, 6, 7])], exits := [(0, [5, 6]), (1, [0, 1, 5, 6, 7])], rets := [4], pins := [], spec := [[true]] }
abbrev g86_A : List Sh := [.a (.c (.imm (.int .u32))), .a (.c (.imm (.int .u32)))]
abbrev g86_S : Sh := .a (.c (.nm 0 (.int .u32)))
abbrev g86_U : List Sh := [.a (.c .dead), .a (.c .dead)]
def g86_R (m : Nat) : ShLVal g86_A → Option (g86_S.Val × ShLVal g86_U) := fun (x : List Int × List Int × Unit) => g86 m x.1 x.2.1
def g86_T (m : Nat) : FunT := ⟨86, g86_A, g86_S, g86_U, g86_R m⟩
noncomputable def g86_C : Code := codeOf Tryd.f86
noncomputable def g86_B0 : Code := loopAt g86_C 0 0
theorem g86_B0_ls : loopsL g86_B0 0 = [] := by kernel_rfl
theorem g86_C_ls : loopsL g86_C 0 = [(0, g86_B0)] := by kernel_rfl
abbrev g86_L0_I : SS := [(0, .a (.c (.imm (.int .u32)))), (1, .a (.c (.imm (.int .u32)))), (5, .a (.c (.nm 0 (.int .u32)))), (6, .a (.c (.int .u64))), (7, .a (.c (.int .i64)))]
abbrev g86_L0_O : List (Ex × SS) := [(.exit 0, [(5, .a (.c (.nm 0 (.int .u32)))), (6, .a (.c (.int .u64)))])]
def g86_L0_R (m n : Nat) : g86_L0_I.Val → Option (outVal g86_L0_O) := (fun (x : List Int × List Int × List Int × Int × Int × Unit) => g86_L0 m n x.1 x.2.1 x.2.2.1 x.2.2.2.1 x.2.2.2.2.1)
def g86_L0_T (m n : Nat) : LoopT := ⟨0, g86_L0_I, g86_L0_O, g86_L0_R m n⟩
theorem g86_L0_kr (m n : Nat) (x : g86_L0_I.Val) : roundK (mkC (outVal g86_L0_O) []) (mkLp (outVal g86_L0_O) []) tt 51 g86_H g86_B0 0 (g86_L0_I.enc x) (Kl (ins := g86_L0_I) (outs := g86_L0_O) (g86_L0_R m n)) = g86_L0 m (n + 1) x.1 x.2.1 x.2.2.1 x.2.2.2.1 x.2.2.2.2.1 := by kernel_rfl
theorem g86_L0_ok {E : Entry} (hE : EOf Tryd.prog E 51 g86_H.pins) (m : Nat) (n : Nat) : LoopOK Tryd.prog E g86_B0 (g86_L0_T m n) :=
  loop_ok (CO := CallOK Tryd.prog) hmix htt (fun _ _ _ _ h => h) hE (C := fun R => mkC R []) (L := []) (fun _ _ _ _ _ h => mkC_spec (AllF.mem (l := []) trivial) h) (fun _ _ => loopsIn_of g86_B0_ls trivial) (fun n => (g86_L0_R m n)) (fun _ => by kernel_rfl) (fun n x => (g86_L0_kr m n x).trans (by kernel_rfl)) n
theorem g86_kr (m : Nat) (x : ShLVal g86_A) : fnK (mkC (g86_S.Val × ShLVal g86_U) []) (mkLp (g86_S.Val × ShLVal g86_U) [g86_L0_T m m]) tt g86_H Tryd.f86 (encS g86_A x) (Kd g86_S g86_U) = g86 m x.1 x.2.1 := by kernel_rfl
theorem g86_ok (m : Nat) : FunOK Tryd.prog (g86_T m) :=
  fun_ok hmix htt (g86_T m) Tryd.func86 (c := g86_C) (by kernel_rfl) (by kernel_rfl) (Lc := []) (AllF.mem (l := []) trivial) (L := [g86_L0_T m m]) (fun _ hE _ _ => loopsIn_of g86_C_ls ⟨mkLp_all ⟨fun _ => g86_L0_ok hE m m, trivial⟩, trivial⟩) (fun x => (g86_kr m x).trans (by kernel_rfl))
/-! 87 sparse/sparseref01.cmpMag -/
def g87_H : Hints := { regs := [⟨[], [0, 1]⟩, ⟨[], [0, 1, 10]⟩, ⟨[(0, 1), (2, 1)], [15]⟩, ⟨[], [4]⟩, ⟨[], [4]⟩, ⟨[], [0, 1, 5]⟩, ⟨[], [0, 1, 5, 20]⟩, ⟨[(0, 1)], [0, 1, 5]⟩, ⟨[], [0, 1, 5, 31]⟩, ⟨[(0, 1), (4, 1)], [40]⟩, ⟨[], [4]⟩, ⟨[], [4]⟩, ⟨[], [4]⟩], heads := [(0, [0, 1, 5])], exits := [(0, []), (1, [0, 1, 5])], rets := [4], pins := [], spec := [[false]] }
abbrev g87_A : List Sh := [.a (.c (.imm (.int .u32))), .a (.c (.imm (.int .u32)))]
abbrev g87_S : Sh := .a (.c (.int .i64))
abbrev g87_U : List Sh := [.a (.c .dead), .a (.c .dead)]
def g87_R (m : Nat) : ShLVal g87_A → Option (g87_S.Val × ShLVal g87_U) := fun (x : List Int × List Int × Unit) => g87 m x.1 x.2.1
def g87_T (m : Nat) : FunT := ⟨87, g87_A, g87_S, g87_U, g87_R m⟩
noncomputable def g87_C : Code := codeOf Tryd.f87
noncomputable def g87_B0 : Code := loopAt g87_C 0 0
theorem g87_B0_ls : loopsL g87_B0 0 = [] := by kernel_rfl
theorem g87_C_ls : loopsL g87_C 0 = [(0, g87_B0)] := by kernel_rfl
abbrev g87_L0_I : SS := [(0, .a (.c (.imm (.int .u32)))), (1, .a (.c (.imm (.int .u32)))), (5, .a (.c (.int .i64)))]
abbrev g87_L0_O : List (Ex × SS) := [(.ret, [(4, .a (.c (.int .i64)))]), (.exit 0, [])]
def g87_L0_R (m n : Nat) : g87_L0_I.Val → Option (outVal g87_L0_O) := (fun (x : List Int × List Int × Int × Unit) => g87_L0 m n x.1 x.2.1 x.2.2.1)
def g87_L0_T (m n : Nat) : LoopT := ⟨0, g87_L0_I, g87_L0_O, g87_L0_R m n⟩
theorem g87_L0_kr (m n : Nat) (x : g87_L0_I.Val) : roundK (mkC (outVal g87_L0_O) []) (mkLp (outVal g87_L0_O) []) tt 41 g87_H g87_B0 0 (g87_L0_I.enc x) (Kl (ins := g87_L0_I) (outs := g87_L0_O) (g87_L0_R m n)) = g87_L0 m (n + 1) x.1 x.2.1 x.2.2.1 := by kernel_rfl
theorem g87_L0_ok {E : Entry} (hE : EOf Tryd.prog E 41 g87_H.pins) (m : Nat) (n : Nat) : LoopOK Tryd.prog E g87_B0 (g87_L0_T m n) :=
  loop_ok (CO := CallOK Tryd.prog) hmix htt (fun _ _ _ _ h => h) hE (C := fun R => mkC R []) (L := []) (fun _ _ _ _ _ h => mkC_spec (AllF.mem (l := []) trivial) h) (fun _ _ => loopsIn_of g87_B0_ls trivial) (fun n => (g87_L0_R m n)) (fun _ => by kernel_rfl) (fun n x => (g87_L0_kr m n x).trans (by kernel_rfl)) n
theorem g87_kr (m : Nat) (x : ShLVal g87_A) : fnK (mkC (g87_S.Val × ShLVal g87_U) []) (mkLp (g87_S.Val × ShLVal g87_U) [g87_L0_T m m]) tt g87_H Tryd.f87 (encS g87_A x) (Kd g87_S g87_U) = g87 m x.1 x.2.1 := by kernel_rfl
theorem g87_ok (m : Nat) : FunOK Tryd.prog (g87_T m) :=
  fun_ok hmix htt (g87_T m) Tryd.func87 (c := g87_C) (by kernel_rfl) (by kernel_rfl) (Lc := []) (AllF.mem (l := []) trivial) (L := [g87_L0_T m m]) (fun _ hE _ _ => loopsIn_of g87_C_ls ⟨mkLp_all ⟨fun _ => g87_L0_ok hE m m, trivial⟩, trivial⟩) (fun x => (g87_kr m x).trans (by kernel_rfl))
/-! 88 sparse/sparseref01.subMag -/
def g88_H : Hints := { regs := [⟨[], [0, 1]⟩, ⟨[], [0, 1, 5]⟩, ⟨[], [0, 1, 5, 6]⟩, ⟨[], [0, 1, 5, 6, 7]⟩, ⟨[], [0, 1, 5, 6, 7, 12]⟩, ⟨[(0, 1)], [0, 1, 5, 6, 7]⟩, ⟨[(5, 1)], [0, 1, 5, 7, 8]⟩, ⟨[], [0, 1, 5, 7, 8, 25]⟩, ⟨[(0, 1)], [0, 1, 5, 7, 8]⟩, ⟨[(0, 1)], [0, 1, 5, 7, 8]⟩, ⟨[(0, 1)], [0, 1, 5, 6, 7]⟩, ⟨[(0, 1)], [4]⟩], heads := [(0, [0, 1, 5, 6, 7])], exits := [(0, [5]), (1, [0, 1, 5, 6, 7])], rets := [4], pins := [], spec := [[true]] }
abbrev g88_A : List Sh := [.a (.c (.imm (.int .u32))), .a (.c (.imm (.int .u32)))]
abbrev g88_S : Sh := .a (.c (.nm 0 (.int .u32)))
abbrev g88_U : List Sh := [.a (.c .dead), .a (.c .dead)]
def g88_R (m : Nat) : ShLVal g88_A → Option (g88_S.Val × ShLVal g88_U) := fun (x : List Int × List Int × Unit) => g88 m x.1 x.2.1
def g88_T (m : Nat) : FunT := ⟨88, g88_A, g88_S, g88_U, g88_R m⟩
noncomputable def g88_C : Code := codeOf Tryd.f88
noncomputable def g88_B0 : Code := loopAt g88_C 0 0
theorem g88_B0_ls : loopsL g88_B0 0 = [] := by kernel_rfl
theorem g88_C_ls : loopsL g88_C 0 = [(0, g88_B0)] := by kernel_rfl
abbrev g88_L0_I : SS := [(0, .a (.c (.imm (.int .u32)))), (1, .a (.c (.imm (.int .u32)))), (5, .a (.c (.nm 0 (.int .u32)))), (6, .a (.c (.int .u64))), (7, .a (.c (.int .i64)))]
abbrev g88_L0_O : List (Ex × SS) := [(.exit 0, [(5, .a (.c (.nm 0 (.int .u32))))])]
def g88_L0_R (m n : Nat) : g88_L0_I.Val → Option (outVal g88_L0_O) := (fun (x : List Int × List Int × List Int × Int × Int × Unit) => g88_L0 m n x.1 x.2.1 x.2.2.1 x.2.2.2.1 x.2.2.2.2.1)
def g88_L0_T (m n : Nat) : LoopT := ⟨0, g88_L0_I, g88_L0_O, g88_L0_R m n⟩
theorem g88_L0_kr (m n : Nat) (x : g88_L0_I.Val) : roundK (mkC (outVal g88_L0_O) []) (mkLp (outVal g88_L0_O) []) tt 41 g88_H g88_B0 0 (g88_L0_I.enc x) (Kl (ins := g88_L0_I) (outs := g88_L0_O) (g88_L0_R m n)) = g88_L0 m (n + 1) x.1 x.2.1 x.2.2.1 x.2.2.2.1 x.2.2.2.2.1 := by kernel_rfl
theorem g88_L0_ok {E : Entry} (hE : EOf Tryd.prog E 41 g88_H.pins) (m : Nat) (n : Nat) : LoopOK Tryd.prog E g88_B0 (g88_L0_T m n) :=
  loop_ok (CO := CallOK Tryd.prog) hmix htt (fun _ _ _ _ h => h) hE (C := fun R => mkC R []) (L := []) (fun _ _ _ _ _ h => mkC_spec (AllF.mem (l := []) trivial) h) (fun _ _ => loopsIn_of g88_B0_ls trivial) (fun n => (g88_L0_R m n)) (fun _ => by kernel_rfl) (fun n x => (g88_L0_kr m n x).trans (by kernel_rfl)) n
theorem g88_kr (m : Nat) (x : ShLVal g88_A) : fnK (mkC (g88_S.Val × ShLVal g88_U) []) (mkLp (g88_S.Val × ShLVal g88_U) [g88_L0_T m m]) tt g88_H Tryd.f88 (encS g88_A x) (Kd g88_S g88_U) = g88 m x.1 x.2.1 := by kernel_rfl
theorem g88_ok (m : Nat) : FunOK Tryd.prog (g88_T m) :=
  fun_ok hmix htt (g88_T m) Tryd.func88 (c := g88_C) (by kernel_rfl) (by kernel_rfl) (Lc := []) (AllF.mem (l := []) trivial) (L := [g88_L0_T m m]) (fun _ hE _ _ => loopsIn_of g88_C_ls ⟨mkLp_all ⟨fun _ => g88_L0_ok hE m m, trivial⟩, trivial⟩) (fun x => (g88_kr m x).trans (by kernel_rfl))
/-! 72 sparse/sparseref01.Add -/
def g72_H : Hints := { regs := [⟨[], [2, 3, 4]⟩, ⟨[], [2, 3, 4, 5, 6]⟩, ⟨[], [2, 3, 4, 5, 6, 17]⟩, ⟨[(2, 1), (3, 1)], [4]⟩, ⟨[], [2, 3, 4, 5, 6, 27]⟩, ⟨[(2, 1), (3, 1)], [4]⟩, ⟨[(2, 1), (3, 1)], [4]⟩], heads := [], exits := [], rets := [4], pins := [], spec := [[false, true]] }
abbrev g72_A : List Sh := [.a (.agg [.bool, (.imm (.int .u32))]), .a (.agg [.bool, (.imm (.int .u32))])]
abbrev g72_S : Sh := .a (.agg [.bool, (.nm 0 (.int .u32))])
abbrev g72_U : List Sh := [.a (.c .dead), .a (.c .dead)]
def g72_R (m : Nat) : ShLVal g72_A → Option (g72_S.Val × ShLVal g72_U) := fun (x : (Bool × List Int × Unit) × (Bool × List Int × Unit) × Unit) => g72 m x.1.1 x.1.2.1 x.2.1.1 x.2.1.2.1
def g72_T (m : Nat) : FunT := ⟨72, g72_A, g72_S, g72_U, g72_R m⟩
noncomputable def g72_C : Code := codeOf Tryd.f72
theorem g72_C_ls : loopsL g72_C 0 = [] := by kernel_rfl
theorem g72_kr (m : Nat) (x : ShLVal g72_A) : fnK (mkC (g72_S.Val × ShLVal g72_U) [g68_T m, g86_T m, g55_T m, g87_T m, g88_T m]) (mkLp (g72_S.Val × ShLVal g72_U) []) tt g72_H Tryd.f72 (encS g72_A x) (Kd g72_S g72_U) = g72 m x.1.1 x.1.2.1 x.2.1.1 x.2.1.2.1 := by kernel_rfl
theorem g72_ok (m : Nat) : FunOK Tryd.prog (g72_T m) :=
  fun_ok hmix htt (g72_T m) Tryd.func72 (c := g72_C) (by kernel_rfl) (by kernel_rfl) (Lc := [g68_T m, g86_T m, g55_T m, g87_T m, g88_T m]) (AllF.mem (l := [g68_T m, g86_T m, g55_T m, g87_T m, g88_T m]) ⟨g68_ok m, g86_ok m, g55_ok m, g87_ok m, g88_ok m, trivial⟩) (L := []) (fun _ hE _ _ => loopsIn_of g72_C_ls trivial) (fun x => (g72_kr m x).trans (by kernel_rfl))
/-! 75 sparse/sparseref01.Sub -/
def g75_H : Hints := { regs := [⟨[], [2, 3, 4]⟩, ⟨[], [4]⟩], heads := [], exits := [], rets := [4], pins := [], spec := [[false, true]] }
abbrev g75_A : List Sh := [.a (.agg [.bool, (.imm (.int .u32))]), .a (.agg [.bool, (.imm (.int .u32))])]
abbrev g75_S : Sh := .a (.agg [.bool, (.nm 0 (.int .u32))])
abbrev g75_U : List Sh := [.a (.c .dead), .a (.c .dead)]
def g75_R (m : Nat) : ShLVal g75_A → Option (g75_S.Val × ShLVal g75_U) := fun (x : (Bool × List Int × Unit) × (Bool × List Int × Unit) × Unit) => g75 m x.1.1 x.1.2.1 x.2.1.1 x.2.1.2.1
def g75_T (m : Nat) : FunT := ⟨75, g75_A, g75_S, g75_U, g75_R m⟩
noncomputable def g75_C : Code := codeOf Tryd.f75
theorem g75_C_ls : loopsL g75_C 0 = [] := by kernel_rfl
theorem g75_kr (m : Nat) (x : ShLVal g75_A) : fnK (mkC (g75_S.Val × ShLVal g75_U) [g89_T m, g72_T m]) (mkLp (g75_S.Val × ShLVal g75_U) []) tt g75_H Tryd.f75 (encS g75_A x) (Kd g75_S g75_U) = g75 m x.1.1 x.1.2.1 x.2.1.1 x.2.1.2.1 := by kernel_rfl
theorem g75_ok (m : Nat) : FunOK Tryd.prog (g75_T m) :=
  fun_ok hmix htt (g75_T m) Tryd.func75 (c := g75_C) (by kernel_rfl) (by kernel_rfl) (Lc := [g89_T m, g72_T m]) (AllF.mem (l := [g89_T m, g72_T m]) ⟨g89_ok m, g72_ok m, trivial⟩) (L := []) (fun _ hE _ _ => loopsIn_of g75_C_ls trivial) (fun x => (g75_kr m x).trans (by kernel_rfl))
/-! 52 sparse/sparseref01.Shift -/
def g52_H : Hints := { regs := [⟨[], [1, 2, 4]⟩, ⟨[], [1, 2, 4]⟩, ⟨[], [1, 2, 4, 11]⟩, ⟨[(4, 1)], [4]⟩, ⟨[(2, 1), (5, 1)], [2, 4, 5, 6]⟩, ⟨[(2, 1)], [2, 4, 6, 7]⟩, ⟨[(2, 1), (3, 1)], [4, 7, 35]⟩, ⟨[], [4, 7]⟩, ⟨[(0, 1)], [4]⟩], heads := [], exits := [], rets := [4], pins := [], spec := [[false, true]] }
abbrev g52_A : List Sh := [.a (.agg [.bool, (.imm (.int .u32))]), .a (.c (.int .i64))]
abbrev g52_S : Sh := .a (.agg [.bool, (.nm 0 (.int .u32))])
abbrev g52_U : List Sh := [.a (.c .dead), .a (.c .dead)]
def g52_R (m : Nat) : ShLVal g52_A → Option (g52_S.Val × ShLVal g52_U) := fun (x : (Bool × List Int × Unit) × Int × Unit) => g52 m x.1.1 x.1.2.1 x.2.1
def g52_T (m : Nat) : FunT := ⟨52, g52_A, g52_S, g52_U, g52_R m⟩
noncomputable def g52_C : Code := codeOf Tryd.f52
theorem g52_C_ls : loopsL g52_C 0 = [] := by kernel_rfl
theorem g52_kr (m : Nat) (x : ShLVal g52_A) : fnK (mkC (g52_S.Val × ShLVal g52_U) [g48_T m, g73_T m, g55_T m, g74_T m, g37_T m, g75_T m]) (mkLp (g52_S.Val × ShLVal g52_U) []) tt g52_H Tryd.f52 (encS g52_A x) (Kd g52_S g52_U) = g52 m x.1.1 x.1.2.1 x.2.1 := by kernel_rfl
theorem g52_ok (m : Nat) : FunOK Tryd.prog (g52_T m) :=
  fun_ok hmix htt (g52_T m) Tryd.func52 (c := g52_C) (by kernel_rfl) (by kernel_rfl) (Lc := [g48_T m, g73_T m, g55_T m, g74_T m, g37_T m, g75_T m]) (AllF.mem (l := [g48_T m, g73_T m, g55_T m, g74_T m, g37_T m, g75_T m]) ⟨g48_ok m, g73_ok m, g55_ok m, g74_ok m, g37_ok m, g75_ok m, trivial⟩) (L := []) (fun _ hE _ _ => loopsIn_of g52_C_ls trivial) (fun x => (g52_kr m x).trans (by kernel_rfl))
/-! 57 sparse/sparseref02.down -/
def g57_H : Hints := { regs := [⟨[(1, 2)], [1, 2, 4]⟩, ⟨[], [1, 2, 4, 6]⟩, ⟨[(2, 2)], [1, 2, 4]⟩, ⟨[(0, 1)], [1, 2, 4]⟩, ⟨[(1, 1)], [4]⟩], heads := [(0, [1, 2, 4])], exits := [(0, [1, 2, 4]), (1, [1, 2, 4])], rets := [4], pins := [], spec := [[false, true]] }
abbrev g57_A : List Sh := [.a (.agg [.bool, (.imm (.int .u32))]), .a (.c (.int .i64))]
abbrev g57_S : Sh := .a (.agg [.bool, (.nm 0 (.int .u32))])
abbrev g57_U : List Sh := [.a (.c .dead), .a (.c .dead)]
def g57_R (m : Nat) : ShLVal g57_A → Option (g57_S.Val × ShLVal g57_U) := fun (x : (Bool × List Int × Unit) × Int × Unit) => g57 m x.1.1 x.1.2.1 x.2.1
def g57_T (m : Nat) : FunT := ⟨57, g57_A, g57_S, g57_U, g57_R m⟩
noncomputable def g57_C : Code := codeOf Tryd.f57
noncomputable def g57_B0 : Code := loopAt g57_C 0 0
theorem g57_B0_ls : loopsL g57_B0 0 = [] := by kernel_rfl
theorem g57_C_ls : loopsL g57_C 0 = [(0, g57_B0)] := by kernel_rfl
abbrev g57_L0_I : SS := [(1, .a (.c (.int .i64))), (2, .a (.bx 0 [.bool, (.imm (.int .u32))])), (4, .a (.bx 1 [.bool, (.imm (.int .u32))]))]
abbrev g57_L0_O : List (Ex × SS) := [(.exit 0, [(1, .a (.c (.int .i64))), (2, .a (.bx 0 [.bool, (.imm (.int .u32))])), (4, .a (.bx 1 [.bool, (.imm (.int .u32))]))])]
def g57_L0_R (m n : Nat) : g57_L0_I.Val → Option (outVal g57_L0_O) := (fun (x : Int × (Bool × List Int × Unit) × (Bool × List Int × Unit) × Unit) => g57_L0 m n x.1 x.2.1.1 x.2.1.2.1 x.2.2.1.1 x.2.2.1.2.1)
def g57_L0_T (m n : Nat) : LoopT := ⟨0, g57_L0_I, g57_L0_O, g57_L0_R m n⟩
theorem g57_L0_kr (m n : Nat) (x : g57_L0_I.Val) : roundK (mkC (outVal g57_L0_O) [g52_T m]) (mkLp (outVal g57_L0_O) []) tt 15 g57_H g57_B0 0 (g57_L0_I.enc x) (Kl (ins := g57_L0_I) (outs := g57_L0_O) (g57_L0_R m n)) = g57_L0 m (n + 1) x.1 x.2.1.1 x.2.1.2.1 x.2.2.1.1 x.2.2.1.2.1 := by kernel_rfl
theorem g57_L0_ok {E : Entry} (hE : EOf Tryd.prog E 15 g57_H.pins) (m : Nat) (n : Nat) : LoopOK Tryd.prog E g57_B0 (g57_L0_T m n) :=
  loop_ok (CO := CallOK Tryd.prog) hmix htt (fun _ _ _ _ h => h) hE (C := fun R => mkC R [g52_T m]) (L := []) (fun _ _ _ _ _ h => mkC_spec (AllF.mem (l := [g52_T m]) ⟨g52_ok m, trivial⟩) h) (fun _ _ => loopsIn_of g57_B0_ls trivial) (fun n => (g57_L0_R m n)) (fun _ => by kernel_rfl) (fun n x => (g57_L0_kr m n x).trans (by kernel_rfl)) n
theorem g57_kr (m : Nat) (x : ShLVal g57_A) : fnK (mkC (g57_S.Val × ShLVal g57_U) [g52_T m]) (mkLp (g57_S.Val × ShLVal g57_U) [g57_L0_T m m]) tt g57_H Tryd.f57 (encS g57_A x) (Kd g57_S g57_U) = g57 m x.1.1 x.1.2.1 x.2.1 := by kernel_rfl
theorem g57_ok (m : Nat) : FunOK Tryd.prog (g57_T m) :=
  fun_ok hmix htt (g57_T m) Tryd.func57 (c := g57_C) (by kernel_rfl) (by kernel_rfl) (Lc := [g52_T m]) (AllF.mem (l := [g52_T m]) ⟨g52_ok m, trivial⟩) (L := [g57_L0_T m m]) (fun _ hE _ _ => loopsIn_of g57_C_ls ⟨mkLp_all ⟨fun _ => g57_L0_ok hE m m, trivial⟩, trivial⟩) (fun x => (g57_kr m x).trans (by kernel_rfl))
/-! 49 sparse/sparseref01.BitLen -/
def g49_H : Hints := { regs := [⟨[], [1]⟩, ⟨[], [3]⟩, ⟨[], [3, 9]⟩, ⟨[], [2]⟩, ⟨[], [2]⟩], heads := [], exits := [], rets := [2], pins := [], spec := [[false]] }
abbrev g49_A : List Sh := [.a (.agg [.bool, (.imm (.int .u32))])]
abbrev g49_S : Sh := .a (.c (.int .i64))
abbrev g49_U : List Sh := [.a (.c .dead)]
def g49_R (m : Nat) : ShLVal g49_A → Option (g49_S.Val × ShLVal g49_U) := fun (x : (Bool × List Int × Unit) × Unit) => g49 m x.1.1 x.1.2.1
def g49_T (m : Nat) : FunT := ⟨49, g49_A, g49_S, g49_U, g49_R m⟩
noncomputable def g49_C : Code := codeOf Tryd.f49
theorem g49_C_ls : loopsL g49_C 0 = [] := by kernel_rfl
theorem g49_kr (m : Nat) (x : ShLVal g49_A) : fnK (mkC (g49_S.Val × ShLVal g49_U) [g68_T m, g69_T m]) (mkLp (g49_S.Val × ShLVal g49_U) []) tt g49_H Tryd.f49 (encS g49_A x) (Kd g49_S g49_U) = g49 m x.1.1 x.1.2.1 := by kernel_rfl
theorem g49_ok (m : Nat) : FunOK Tryd.prog (g49_T m) :=
  fun_ok hmix htt (g49_T m) Tryd.func49 (c := g49_C) (by kernel_rfl) (by kernel_rfl) (Lc := [g68_T m, g69_T m]) (AllF.mem (l := [g68_T m, g69_T m]) ⟨g68_ok m, g69_ok m, trivial⟩) (L := []) (fun _ hE _ _ => loopsIn_of g49_C_ls trivial) (fun x => (g49_kr m x).trans (by kernel_rfl))
/-! 36 sparse/sparseref02.Make -/
def g36_H : Hints := { regs := [⟨[], [1, 2, 4]⟩, ⟨[], [1, 2, 4, 5]⟩, ⟨[], [1, 2, 4, 5, 13]⟩, ⟨[], [4]⟩, ⟨[], [1, 2, 4, 5, 16]⟩, ⟨[], [4]⟩, ⟨[], [1, 2, 4, 5, 6]⟩, ⟨[(0, 1)], [2, 4, 5, 6, 7]⟩, ⟨[], [2, 4, 5, 6, 7]⟩, ⟨[(1, 1)], [2, 4, 5, 7]⟩, ⟨[(2, 1)], [2, 4, 5, 7, 36]⟩, ⟨[], [4]⟩, ⟨[], [4, 5, 7]⟩, ⟨[(0, 1), (1, 1)], [4]⟩], heads := [], exits := [], rets := [4], pins := [], spec := [[false, false, true, false]] }
abbrev g36_A : List Sh := [.a (.agg [.bool, (.imm (.int .u32))]), .a (.c (.int .i64))]
abbrev g36_S : Sh := .a (.agg [.bool, .bool, (.nm 0 (.int .u32)), (.int .i64)])
abbrev g36_U : List Sh := [.a (.c .dead), .a (.c .dead)]
def g36_R (m : Nat) : ShLVal g36_A → Option (g36_S.Val × ShLVal g36_U) := fun (x : (Bool × List Int × Unit) × Int × Unit) => g36 m x.1.1 x.1.2.1 x.2.1
def g36_T (m : Nat) : FunT := ⟨36, g36_A, g36_S, g36_U, g36_R m⟩
noncomputable def g36_C : Code := codeOf Tryd.f36
theorem g36_C_ls : loopsL g36_C 0 = [] := by kernel_rfl
theorem g36_kr (m : Nat) (x : ShLVal g36_A) : fnK (mkC (g36_S.Val × ShLVal g36_U) [g48_T m, g35_T m, g56_T m, g34_T m, g57_T m, g49_T m]) (mkLp (g36_S.Val × ShLVal g36_U) []) tt g36_H Tryd.f36 (encS g36_A x) (Kd g36_S g36_U) = g36 m x.1.1 x.1.2.1 x.2.1 := by kernel_rfl
theorem g36_ok (m : Nat) : FunOK Tryd.prog (g36_T m) :=
  fun_ok hmix htt (g36_T m) Tryd.func36 (c := g36_C) (by kernel_rfl) (by kernel_rfl) (Lc := [g48_T m, g35_T m, g56_T m, g34_T m, g57_T m, g49_T m]) (AllF.mem (l := [g48_T m, g35_T m, g56_T m, g34_T m, g57_T m, g49_T m]) ⟨g48_ok m, g35_ok m, g56_ok m, g34_ok m, g57_ok m, g49_ok m, trivial⟩) (L := []) (fun _ hE _ _ => loopsIn_of g36_C_ls trivial) (fun x => (g36_kr m x).trans (by kernel_rfl))
/-! 23 sparse/sparseref02.FromInt -/
def g23_H : Hints := { regs := [⟨[], [0, 2]⟩, ⟨[(0, 1)], [2]⟩], heads := [], exits := [], rets := [2], pins := [], spec := [[false, false, true, false]] }
abbrev g23_A : List Sh := [.a (.c (.int .i64))]
abbrev g23_S : Sh := .a (.agg [.bool, .bool, (.nm 0 (.int .u32)), (.int .i64)])
abbrev g23_U : List Sh := [.a (.c .dead)]
def g23_R (m : Nat) : ShLVal g23_A → Option (g23_S.Val × ShLVal g23_U) := fun (x : Int × Unit) => g23 m x.1
def g23_T (m : Nat) : FunT := ⟨23, g23_A, g23_S, g23_U, g23_R m⟩
noncomputable def g23_C : Code := codeOf Tryd.f23
theorem g23_C_ls : loopsL g23_C 0 = [] := by kernel_rfl
theorem g23_kr (m : Nat) (x : ShLVal g23_A) : fnK (mkC (g23_S.Val × ShLVal g23_U) [g37_T m, g36_T m]) (mkLp (g23_S.Val × ShLVal g23_U) []) tt g23_H Tryd.f23 (encS g23_A x) (Kd g23_S g23_U) = g23 m x.1 := by kernel_rfl
theorem g23_ok (m : Nat) : FunOK Tryd.prog (g23_T m) :=
  fun_ok hmix htt (g23_T m) Tryd.func23 (c := g23_C) (by kernel_rfl) (by kernel_rfl) (Lc := [g37_T m, g36_T m]) (AllF.mem (l := [g37_T m, g36_T m]) ⟨g37_ok m, g36_ok m, trivial⟩) (L := []) (fun _ hE _ _ => loopsIn_of g23_C_ls trivial) (fun x => (g23_kr m x).trans (by kernel_rfl))
/-! 31 sparse/sparseref02.Norm -/
def g31_H : Hints := { regs := [⟨[], [1, 2]⟩, ⟨[], [1, 2, 4]⟩, ⟨[], [2]⟩, ⟨[], [2]⟩], heads := [], exits := [], rets := [2], pins := [], spec := [[false, false, true, false]] }
abbrev g31_A : List Sh := [.a (.agg [.bool, .bool, (.imm (.int .u32)), (.int .i64)])]
abbrev g31_S : Sh := .a (.agg [.bool, .bool, (.nm 0 (.int .u32)), (.int .i64)])
abbrev g31_U : List Sh := [.a (.c .dead)]
def g31_R (m : Nat) : ShLVal g31_A → Option (g31_S.Val × ShLVal g31_U) := fun (x : (Bool × Bool × List Int × Int × Unit) × Unit) => g31 m x.1.1 x.1.2.1 x.1.2.2.1 x.1.2.2.2.1
def g31_T (m : Nat) : FunT := ⟨31, g31_A, g31_S, g31_U, g31_R m⟩
noncomputable def g31_C : Code := codeOf Tryd.f31
theorem g31_C_ls : loopsL g31_C 0 = [] := by kernel_rfl
theorem g31_kr (m : Nat) (x : ShLVal g31_A) : fnK (mkC (g31_S.Val × ShLVal g31_U) [g35_T m, g36_T m]) (mkLp (g31_S.Val × ShLVal g31_U) []) tt g31_H Tryd.f31 (encS g31_A x) (Kd g31_S g31_U) = g31 m x.1.1 x.1.2.1 x.1.2.2.1 x.1.2.2.2.1 := by kernel_rfl
theorem g31_ok (m : Nat) : FunOK Tryd.prog (g31_T m) :=
  fun_ok hmix htt (g31_T m) Tryd.func31 (c := g31_C) (by kernel_rfl) (by kernel_rfl) (Lc := [g35_T m, g36_T m]) (AllF.mem (l := [g35_T m, g36_T m]) ⟨g35_ok m, g36_ok m, trivial⟩) (L := []) (fun _ hE _ _ => loopsIn_of g31_C_ls trivial) (fun x => (g31_kr m x).trans (by kernel_rfl))
/-! 32 sparse/sparseref01.Sign -/
def g32_H : Hints := { regs := [⟨[], [1]⟩, ⟨[], [1]⟩, ⟨[], [1, 5]⟩, ⟨[], [2]⟩, ⟨[], [10]⟩, ⟨[], [2]⟩, ⟨[], [2]⟩], heads := [], exits := [(0, [])], rets := [2], pins := [], spec := [[false]] }
abbrev g32_A : List Sh := [.a (.agg [.bool, (.imm (.int .u32))])]
abbrev g32_S : Sh := .a (.c (.int .i64))
abbrev g32_U : List Sh := [.a (.c .dead)]
def g32_R (m : Nat) : ShLVal g32_A → Option (g32_S.Val × ShLVal g32_U) := fun (x : (Bool × List Int × Unit) × Unit) => g32 m x.1.1 x.1.2.1
def g32_T (m : Nat) : FunT := ⟨32, g32_A, g32_S, g32_U, g32_R m⟩
noncomputable def g32_C : Code := codeOf Tryd.f32
theorem g32_C_ls : loopsL g32_C 0 = [] := by kernel_rfl
theorem g32_kr (m : Nat) (x : ShLVal g32_A) : fnK (mkC (g32_S.Val × ShLVal g32_U) [g48_T m]) (mkLp (g32_S.Val × ShLVal g32_U) []) tt g32_H Tryd.f32 (encS g32_A x) (Kd g32_S g32_U) = g32 m x.1.1 x.1.2.1 := by kernel_rfl
theorem g32_ok (m : Nat) : FunOK Tryd.prog (g32_T m) :=
  fun_ok hmix htt (g32_T m) Tryd.func32 (c := g32_C) (by kernel_rfl) (by kernel_rfl) (Lc := [g48_T m]) (AllF.mem (l := [g48_T m]) ⟨g48_ok m, trivial⟩) (L := []) (fun _ hE _ _ => loopsIn_of g32_C_ls trivial) (fun x => (g32_kr m x).trans (by kernel_rfl))
/-! 22 sparse/sparseref02.Scale -/
def g22_H : Hints := { regs := [⟨[], [1, 2, 4]⟩, ⟨[], [1, 2, 4]⟩, ⟨[(2, 1)], [1, 2, 4, 14]⟩, ⟨[(0, 1)], [4]⟩, ⟨[(2, 1)], [1, 2, 4, 21]⟩, ⟨[], [4]⟩, ⟨[(4, 1)], [4]⟩], heads := [], exits := [], rets := [4], pins := [], spec := [[false, false, true, false]] }
abbrev g22_A : List Sh := [.a (.agg [.bool, .bool, (.imm (.int .u32)), (.int .i64)]), .a (.c (.int .i64))]
abbrev g22_S : Sh := .a (.agg [.bool, .bool, (.nm 0 (.int .u32)), (.int .i64)])
abbrev g22_U : List Sh := [.a (.c .dead), .a (.c .dead)]
def g22_R (m : Nat) : ShLVal g22_A → Option (g22_S.Val × ShLVal g22_U) := fun (x : (Bool × Bool × List Int × Int × Unit) × Int × Unit) => g22 m x.1.1 x.1.2.1 x.1.2.2.1 x.1.2.2.2.1 x.2.1
def g22_T (m : Nat) : FunT := ⟨22, g22_A, g22_S, g22_U, g22_R m⟩
noncomputable def g22_C : Code := codeOf Tryd.f22
theorem g22_C_ls : loopsL g22_C 0 = [] := by kernel_rfl
theorem g22_kr (m : Nat) (x : ShLVal g22_A) : fnK (mkC (g22_S.Val × ShLVal g22_U) [g31_T m, g32_T m, g35_T m, g36_T m]) (mkLp (g22_S.Val × ShLVal g22_U) []) tt g22_H Tryd.f22 (encS g22_A x) (Kd g22_S g22_U) = g22 m x.1.1 x.1.2.1 x.1.2.2.1 x.1.2.2.2.1 x.2.1 := by kernel_rfl
theorem g22_ok (m : Nat) : FunOK Tryd.prog (g22_T m) :=
  fun_ok hmix htt (g22_T m) Tryd.func22 (c := g22_C) (by kernel_rfl) (by kernel_rfl) (Lc := [g31_T m, g32_T m, g35_T m, g36_T m]) (AllF.mem (l := [g31_T m, g32_T m, g35_T m, g36_T m]) ⟨g31_ok m, g32_ok m, g35_ok m, g36_ok m, trivial⟩) (L := []) (fun _ hE _ _ => loopsIn_of g22_C_ls trivial) (fun x => (g22_kr m x).trans (by kernel_rfl))
/-! 54 sparse/sparseref03.signed -/
def g54_H : Hints := { regs := [⟨[], [0, 1]⟩, ⟨[(0, 1)], [1, 5]⟩, ⟨[(0, 1)], [4]⟩, ⟨[(0, 1)], [4]⟩], heads := [], exits := [], rets := [4], pins := [], spec := [[false]] }
abbrev g54_A : List Sh := [.a (.c .bool), .a (.c (.int .u64))]
abbrev g54_S : Sh := .a (.c (.int .u64))
abbrev g54_U : List Sh := [.a (.c .dead), .a (.c .dead)]
def g54_R (m : Nat) : ShLVal g54_A → Option (g54_S.Val × ShLVal g54_U) := fun (x : Bool × Int × Unit) => g54 m x.1 x.2.1
def g54_T (m : Nat) : FunT := ⟨54, g54_A, g54_S, g54_U, g54_R m⟩
noncomputable def g54_C : Code := codeOf Tryd.f54
theorem g54_C_ls : loopsL g54_C 0 = [] := by kernel_rfl
theorem g54_kr (m : Nat) (x : ShLVal g54_A) : fnK (mkC (g54_S.Val × ShLVal g54_U) []) (mkLp (g54_S.Val × ShLVal g54_U) []) tt g54_H Tryd.f54 (encS g54_A x) (Kd g54_S g54_U) = g54 m x.1 x.2.1 := by kernel_rfl
theorem g54_ok (m : Nat) : FunOK Tryd.prog (g54_T m) :=
  fun_ok hmix htt (g54_T m) Tryd.func54 (c := g54_C) (by kernel_rfl) (by kernel_rfl) (Lc := []) (AllF.mem (l := []) trivial) (L := []) (fun _ hE _ _ => loopsIn_of g54_C_ls trivial) (fun x => (g54_kr m x).trans (by kernel_rfl))
/-! 50 sparse/sparseref03.over -/
def g50_H : Hints := { regs := [⟨[], [0, 1]⟩, ⟨[(2, 1), (5, 1), (10, 1), (13, 1)], [0, 21]⟩, ⟨[(0, 1)], [4]⟩, ⟨[(0, 1)], [4]⟩], heads := [], exits := [], rets := [4], pins := [], spec := [[false]] }
abbrev g50_A : List Sh := [.a (.c .bool), .a (.c (.int .i64))]
abbrev g50_S : Sh := .a (.c (.int .u64))
abbrev g50_U : List Sh := [.a (.c .dead), .a (.c .dead)]
def g50_R (m : Nat) : ShLVal g50_A → Option (g50_S.Val × ShLVal g50_U) := fun (x : Bool × Int × Unit) => g50 m x.1 x.2.1
def g50_T (m : Nat) : FunT := ⟨50, g50_A, g50_S, g50_U, g50_R m⟩
noncomputable def g50_C : Code := codeOf Tryd.f50
theorem g50_C_ls : loopsL g50_C 0 = [] := by kernel_rfl
theorem g50_kr (m : Nat) (x : ShLVal g50_A) : fnK (mkC (g50_S.Val × ShLVal g50_U) [g54_T m]) (mkLp (g50_S.Val × ShLVal g50_U) []) tt g50_H Tryd.f50 (encS g50_A x) (Kd g50_S g50_U) = g50 m x.1 x.2.1 := by kernel_rfl
theorem g50_ok (m : Nat) : FunOK Tryd.prog (g50_T m) :=
  fun_ok hmix htt (g50_T m) Tryd.func50 (c := g50_C) (by kernel_rfl) (by kernel_rfl) (Lc := [g54_T m]) (AllF.mem (l := [g54_T m]) ⟨g54_ok m, trivial⟩) (L := []) (fun _ hE _ _ => loopsIn_of g50_C_ls trivial) (fun x => (g50_kr m x).trans (by kernel_rfl))
/-! 70 sparse/sparseref01.Lost -/
def g70_H : Hints := { regs := [⟨[], [1, 2]⟩, ⟨[(3, 1), (5, 1)], [6]⟩, ⟨[(0, 1)], [4]⟩], heads := [], exits := [], rets := [4], pins := [], spec := [[false]] }
abbrev g70_A : List Sh := [.a (.agg [.bool, (.imm (.int .u32))]), .a (.c (.int .i64))]
abbrev g70_S : Sh := .a (.c .bool)
abbrev g70_U : List Sh := [.a (.c .dead), .a (.c .dead)]
def g70_R (m : Nat) : ShLVal g70_A → Option (g70_S.Val × ShLVal g70_U) := fun (x : (Bool × List Int × Unit) × Int × Unit) => g70 m x.1.1 x.1.2.1 x.2.1
def g70_T (m : Nat) : FunT := ⟨70, g70_A, g70_S, g70_U, g70_R m⟩
noncomputable def g70_C : Code := codeOf Tryd.f70
theorem g70_C_ls : loopsL g70_C 0 = [] := by kernel_rfl
theorem g70_kr (m : Nat) (x : ShLVal g70_A) : fnK (mkC (g70_S.Val × ShLVal g70_U) [g68_T m, g74_T m]) (mkLp (g70_S.Val × ShLVal g70_U) []) tt g70_H Tryd.f70 (encS g70_A x) (Kd g70_S g70_U) = g70 m x.1.1 x.1.2.1 x.2.1 := by kernel_rfl
theorem g70_ok (m : Nat) : FunOK Tryd.prog (g70_T m) :=
  fun_ok hmix htt (g70_T m) Tryd.func70 (c := g70_C) (by kernel_rfl) (by kernel_rfl) (Lc := [g68_T m, g74_T m]) (AllF.mem (l := [g68_T m, g74_T m]) ⟨g68_ok m, g74_ok m, trivial⟩) (L := []) (fun _ hE _ _ => loopsIn_of g70_C_ls trivial) (fun x => (g70_kr m x).trans (by kernel_rfl))
/-! 71 sparse/sparseref02.Up -/
def g71_H : Hints := { regs := [⟨[], [0, 1, 2, 3]⟩, ⟨[(0, 1)], [0, 1, 2, 9]⟩, ⟨[], [0, 1, 2, 9, 10]⟩, ⟨[(0, 1)], [8]⟩, ⟨[], [0, 1, 2, 9, 13]⟩, ⟨[(0, 1)], [8]⟩, ⟨[], [1, 2, 17]⟩, ⟨[], [8]⟩, ⟨[(2, 1), (5, 1), (6, 1)], [8]⟩], heads := [], exits := [(0, [1, 2])], rets := [8], pins := [], spec := [[false]] }
abbrev g71_A : List Sh := [.a (.c .bool), .a (.c (.int .i64)), .a (.c .bool), .a (.c (.int .i64))]
abbrev g71_S : Sh := .a (.c .bool)
abbrev g71_U : List Sh := [.a (.c .dead), .a (.c .dead), .a (.c .dead), .a (.c .dead)]
def g71_R (m : Nat) : ShLVal g71_A → Option (g71_S.Val × ShLVal g71_U) := fun (x : Bool × Int × Bool × Int × Unit) => g71 m x.1 x.2.1 x.2.2.1 x.2.2.2.1
def g71_T (m : Nat) : FunT := ⟨71, g71_A, g71_S, g71_U, g71_R m⟩
noncomputable def g71_C : Code := codeOf Tryd.f71
theorem g71_C_ls : loopsL g71_C 0 = [] := by kernel_rfl
theorem g71_kr (m : Nat) (x : ShLVal g71_A) : fnK (mkC (g71_S.Val × ShLVal g71_U) []) (mkLp (g71_S.Val × ShLVal g71_U) []) tt g71_H Tryd.f71 (encS g71_A x) (Kd g71_S g71_U) = g71 m x.1 x.2.1 x.2.2.1 x.2.2.2.1 := by kernel_rfl
theorem g71_ok (m : Nat) : FunOK Tryd.prog (g71_T m) :=
  fun_ok hmix htt (g71_T m) Tryd.func71 (c := g71_C) (by kernel_rfl) (by kernel_rfl) (Lc := []) (AllF.mem (l := []) trivial) (L := []) (fun _ hE _ _ => loopsIn_of g71_C_ls trivial) (fun x => (g71_kr m x).trans (by kernel_rfl))
/-! 51 sparse/sparseref02.Cut -/
def g51_H : Hints := { regs := [⟨[], [0, 2, 3, 4, 6, 10]⟩, ⟨[], [0, 2, 3, 4, 6, 10, 11]⟩, ⟨[], [0, 2, 3, 4, 6, 10, 11, 12]⟩, ⟨[(0, 1), (2, 1)], [0, 2, 3, 4, 6, 10, 11, 27]⟩, ⟨[(0, 1)], [10]⟩, ⟨[], [0, 2, 3, 4, 6, 10, 11, 13]⟩, ⟨[], [0, 2, 3, 4, 6, 10, 11, 13, 30]⟩, ⟨[], [0, 2, 3, 4, 6, 10, 11, 13, 14]⟩, ⟨[(3, 1)], [0, 2, 3, 4, 6, 10, 11, 13, 42]⟩, ⟨[], [0, 2, 3, 4, 6, 10, 11, 13]⟩, ⟨[(0, 1), (1, 1), (3, 1)], [0, 4, 10, 11, 13, 49]⟩, ⟨[], [0, 4, 10, 11, 13]⟩, ⟨[(3, 1)], [0, 4, 10, 11, 13, 15]⟩, ⟨[(0, 1), (1, 1), (2, 1), (3, 1)], [10, 11, 62]⟩, ⟨[], [10, 11]⟩, ⟨[(0, 1)], [10]⟩], heads := [], exits := [], rets := [10], pins := [], spec := [[false, true]] }
abbrev g51_A : List Sh := [.a (.c .bool), .a (.agg [.bool, (.imm (.int .u32))]), .a (.c (.int .i64)), .a (.c .bool), .a (.c (.int .i64))]
abbrev g51_S : Sh := .a (.agg [.bool, (.nm 0 (.int .u32))])
abbrev g51_U : List Sh := [.a (.c .dead), .a (.c .dead), .a (.c .dead), .a (.c .dead), .a (.c .dead)]
def g51_R (m : Nat) : ShLVal g51_A → Option (g51_S.Val × ShLVal g51_U) := fun (x : Bool × (Bool × List Int × Unit) × Int × Bool × Int × Unit) => g51 m x.1 x.2.1.1 x.2.1.2.1 x.2.2.1 x.2.2.2.1 x.2.2.2.2.1
def g51_T (m : Nat) : FunT := ⟨51, g51_A, g51_S, g51_U, g51_R m⟩
noncomputable def g51_C : Code := codeOf Tryd.f51
theorem g51_C_ls : loopsL g51_C 0 = [] := by kernel_rfl
theorem g51_kr (m : Nat) (x : ShLVal g51_A) : fnK (mkC (g51_S.Val × ShLVal g51_U) [g57_T m, g70_T m, g56_T m, g32_T m, g71_T m, g37_T m, g72_T m]) (mkLp (g51_S.Val × ShLVal g51_U) []) tt g51_H Tryd.f51 (encS g51_A x) (Kd g51_S g51_U) = g51 m x.1 x.2.1.1 x.2.1.2.1 x.2.2.1 x.2.2.2.1 x.2.2.2.2.1 := by kernel_rfl
theorem g51_ok (m : Nat) : FunOK Tryd.prog (g51_T m) :=
  fun_ok hmix htt (g51_T m) Tryd.func51 (c := g51_C) (by kernel_rfl) (by kernel_rfl) (Lc := [g57_T m, g70_T m, g56_T m, g32_T m, g71_T m, g37_T m, g72_T m]) (AllF.mem (l := [g57_T m, g70_T m, g56_T m, g32_T m, g71_T m, g37_T m, g72_T m]) ⟨g57_ok m, g70_ok m, g56_ok m, g32_ok m, g71_ok m, g37_ok m, g72_ok m, trivial⟩) (L := []) (fun _ hE _ _ => loopsIn_of g51_C_ls trivial) (fun x => (g51_kr m x).trans (by kernel_rfl))
/-! 53 sparse/sparseref01.Int -/
def g53_H : Hints := { regs := [⟨[], [1]⟩, ⟨[], [1]⟩, ⟨[], [1, 11]⟩, ⟨[], [2, 3]⟩, ⟨[], [1, 4]⟩, ⟨[], [1, 4, 5]⟩, ⟨[], [1, 4, 5, 16]⟩, ⟨[(0, 1)], [1, 4, 5]⟩, ⟨[(0, 1)], [1, 4, 5]⟩, ⟨[], [4, 31]⟩, ⟨[], [4, 33]⟩, ⟨[], [2, 3]⟩, ⟨[(0, 1)], [2, 3]⟩, ⟨[], [4, 40]⟩, ⟨[], [2, 3]⟩, ⟨[(0, 1)], [2, 3]⟩], heads := [(0, [1, 4, 5])], exits := [(0, [1, 4]), (1, [1, 4, 5])], rets := [2, 3], pins := [], spec := [[false], [false]] }
abbrev g53_A : List Sh := [.a (.agg [.bool, (.imm (.int .u32))])]
abbrev g53_S : Sh := .tup [(.c (.int .i64)), (.c .bool)]
abbrev g53_U : List Sh := [.a (.c .dead)]
def g53_R (m : Nat) : ShLVal g53_A → Option (g53_S.Val × ShLVal g53_U) := fun (x : (Bool × List Int × Unit) × Unit) => g53 m x.1.1 x.1.2.1
def g53_T (m : Nat) : FunT := ⟨53, g53_A, g53_S, g53_U, g53_R m⟩
noncomputable def g53_C : Code := codeOf Tryd.f53
noncomputable def g53_B0 : Code := loopAt g53_C 0 0
theorem g53_B0_ls : loopsL g53_B0 0 = [] := by kernel_rfl
theorem g53_C_ls : loopsL g53_C 0 = [(0, g53_B0)] := by kernel_rfl
abbrev g53_L0_I : SS := [(1, .a (.bx 0 [.bool, (.nm 1 (.int .u32))])), (4, .a (.c (.int .u64))), (5, .a (.c (.int .i64)))]
abbrev g53_L0_O : List (Ex × SS) := [(.exit 0, [(1, .a (.bx 0 [.bool, (.nm 1 (.int .u32))])), (4, .a (.c (.int .u64)))])]
def g53_L0_R (m n : Nat) : g53_L0_I.Val → Option (outVal g53_L0_O) := (fun (x : (Bool × List Int × Unit) × Int × Int × Unit) => g53_L0 m n x.1.1 x.1.2.1 x.2.1 x.2.2.1)
def g53_L0_T (m n : Nat) : LoopT := ⟨0, g53_L0_I, g53_L0_O, g53_L0_R m n⟩
theorem g53_L0_kr (m n : Nat) (x : g53_L0_I.Val) : roundK (mkC (outVal g53_L0_O) [g48_T m]) (mkLp (outVal g53_L0_O) []) tt 43 g53_H g53_B0 0 (g53_L0_I.enc x) (Kl (ins := g53_L0_I) (outs := g53_L0_O) (g53_L0_R m n)) = g53_L0 m (n + 1) x.1.1 x.1.2.1 x.2.1 x.2.2.1 := by kernel_rfl
theorem g53_L0_ok {E : Entry} (hE : EOf Tryd.prog E 43 g53_H.pins) (m : Nat) (n : Nat) : LoopOK Tryd.prog E g53_B0 (g53_L0_T m n) :=
  loop_ok (CO := CallOK Tryd.prog) hmix htt (fun _ _ _ _ h => h) hE (C := fun R => mkC R [g48_T m]) (L := []) (fun _ _ _ _ _ h => mkC_spec (AllF.mem (l := [g48_T m]) ⟨g48_ok m, trivial⟩) h) (fun _ _ => loopsIn_of g53_B0_ls trivial) (fun n => (g53_L0_R m n)) (fun _ => by kernel_rfl) (fun n x => (g53_L0_kr m n x).trans (by kernel_rfl)) n
theorem g53_kr (m : Nat) (x : ShLVal g53_A) : fnK (mkC (g53_S.Val × ShLVal g53_U) [g48_T m]) (mkLp (g53_S.Val × ShLVal g53_U) [g53_L0_T m m]) tt g53_H Tryd.f53 (encS g53_A x) (Kd g53_S g53_U) = g53 m x.1.1 x.1.2.1 := by kernel_rfl
theorem g53_ok (m : Nat) : FunOK Tryd.prog (g53_T m) :=
  fun_ok hmix htt (g53_T m) Tryd.func53 (c := g53_C) (by kernel_rfl) (by kernel_rfl) (Lc := [g48_T m]) (AllF.mem (l := [g48_T m]) ⟨g48_ok m, trivial⟩) (L := [g53_L0_T m m]) (fun _ hE _ _ => loopsIn_of g53_C_ls ⟨mkLp_all ⟨fun _ => g53_L0_ok hE m m, trivial⟩, trivial⟩) (fun x => (g53_kr m x).trans (by kernel_rfl))
/-! 33 sparse/sparseref03.rounded -/
def g33_H : Hints := { regs := [⟨[], [0, 2, 3, 4, 6]⟩, ⟨[], [0, 2, 3, 4, 6, 11]⟩, ⟨[], [0, 2, 3, 4, 6, 11, 22]⟩, ⟨[(0, 1), (1, 1)], [10]⟩, ⟨[(0, 1)], [0, 2, 3, 4, 6, 12]⟩, ⟨[], [0, 2, 3, 4, 6, 12, 13]⟩, ⟨[], [0, 2, 3, 4, 6, 12, 13, 31]⟩, ⟨[(3, 1), (5, 1)], [0, 4, 12, 13]⟩, ⟨[(1, 1)], [0, 4, 12, 13]⟩, ⟨[(2, 1)], [0, 4, 12, 14]⟩, ⟨[], [0, 4, 12, 14, 51]⟩, ⟨[], [0, 4, 12, 14]⟩, ⟨[(0, 1)], [0, 4, 12, 14]⟩, ⟨[(2, 1)], [0, 4, 12, 14, 54]⟩, ⟨[(0, 1), (1, 1)], [10]⟩, ⟨[], [0, 12, 14, 65]⟩, ⟨[(0, 1), (1, 1), (5, 1)], [10]⟩, ⟨[(0, 1), (1, 1)], [10]⟩], heads := [], exits := [(0, [0, 14])], rets := [10], pins := [], spec := [[false]] }
abbrev g33_A : List Sh := [.a (.c .bool), .a (.agg [.bool, (.imm (.int .u32))]), .a (.c (.int .i64)), .a (.c .bool), .a (.c (.int .i64))]
abbrev g33_S : Sh := .a (.c (.int .u64))
abbrev g33_U : List Sh := [.a (.c .dead), .a (.c .dead), .a (.c .dead), .a (.c .dead), .a (.c .dead)]
def g33_R (m : Nat) : ShLVal g33_A → Option (g33_S.Val × ShLVal g33_U) := fun (x : Bool × (Bool × List Int × Unit) × Int × Bool × Int × Unit) => g33 m x.1 x.2.1.1 x.2.1.2.1 x.2.2.1 x.2.2.2.1 x.2.2.2.2.1
def g33_T (m : Nat) : FunT := ⟨33, g33_A, g33_S, g33_U, g33_R m⟩
noncomputable def g33_C : Code := codeOf Tryd.f33
theorem g33_C_ls : loopsL g33_C 0 = [] := by kernel_rfl
theorem g33_kr (m : Nat) (x : ShLVal g33_A) : fnK (mkC (g33_S.Val × ShLVal g33_U) [g49_T m, g50_T m, g51_T m, g53_T m, g54_T m, g52_T m]) (mkLp (g33_S.Val × ShLVal g33_U) []) tt g33_H Tryd.f33 (encS g33_A x) (Kd g33_S g33_U) = g33 m x.1 x.2.1.1 x.2.1.2.1 x.2.2.1 x.2.2.2.1 x.2.2.2.2.1 := by kernel_rfl
theorem g33_ok (m : Nat) : FunOK Tryd.prog (g33_T m) :=
  fun_ok hmix htt (g33_T m) Tryd.func33 (c := g33_C) (by kernel_rfl) (by kernel_rfl) (Lc := [g49_T m, g50_T m, g51_T m, g53_T m, g54_T m, g52_T m]) (AllF.mem (l := [g49_T m, g50_T m, g51_T m, g53_T m, g54_T m, g52_T m]) ⟨g49_ok m, g50_ok m, g51_ok m, g53_ok m, g54_ok m, g52_ok m, trivial⟩) (L := []) (fun _ hE _ _ => loopsIn_of g33_C_ls trivial) (fun x => (g33_kr m x).trans (by kernel_rfl))
/-! 21 sparse/sparseref03.Round -/
def g21_H : Hints := { regs := [⟨[], [1, 2]⟩, ⟨[], [1, 2]⟩, ⟨[], [1, 2, 8]⟩, ⟨[], [4]⟩, ⟨[], [1, 2, 12]⟩, ⟨[], [4]⟩, ⟨[(8, 1)], [4]⟩], heads := [], exits := [], rets := [4], pins := [], spec := [[false]] }
abbrev g21_A : List Sh := [.a (.agg [.bool, .bool, (.imm (.int .u32)), (.int .i64)]), .a (.c (.int .i64))]
abbrev g21_S : Sh := .a (.c (.int .u64))
abbrev g21_U : List Sh := [.a (.c .dead), .a (.c .dead)]
def g21_R (m : Nat) : ShLVal g21_A → Option (g21_S.Val × ShLVal g21_U) := fun (x : (Bool × Bool × List Int × Int × Unit) × Int × Unit) => g21 m x.1.1 x.1.2.1 x.1.2.2.1 x.1.2.2.2.1 x.2.1
def g21_T (m : Nat) : FunT := ⟨21, g21_A, g21_S, g21_U, g21_R m⟩
noncomputable def g21_C : Code := codeOf Tryd.f21
theorem g21_C_ls : loopsL g21_C 0 = [] := by kernel_rfl
theorem g21_kr (m : Nat) (x : ShLVal g21_A) : fnK (mkC (g21_S.Val × ShLVal g21_U) [g31_T m, g32_T m, g34_T m, g33_T m]) (mkLp (g21_S.Val × ShLVal g21_U) []) tt g21_H Tryd.f21 (encS g21_A x) (Kd g21_S g21_U) = g21 m x.1.1 x.1.2.1 x.1.2.2.1 x.1.2.2.2.1 x.2.1 := by kernel_rfl
theorem g21_ok (m : Nat) : FunOK Tryd.prog (g21_T m) :=
  fun_ok hmix htt (g21_T m) Tryd.func21 (c := g21_C) (by kernel_rfl) (by kernel_rfl) (Lc := [g31_T m, g32_T m, g34_T m, g33_T m]) (AllF.mem (l := [g31_T m, g32_T m, g34_T m, g33_T m]) ⟨g31_ok m, g32_ok m, g34_ok m, g33_ok m, trivial⟩) (L := []) (fun _ hE _ _ => loopsIn_of g21_C_ls trivial) (fun x => (g21_kr m x).trans (by kernel_rfl))
/-! 11 sparse/sparsemake.Value -/
def g11_H : Hints := { regs := [⟨[], [0]⟩, ⟨[], [0, 3]⟩, ⟨[], [0, 3, 4]⟩, ⟨[(0, 1)], [3, 4, 5]⟩, ⟨[], [3, 4, 5, 15]⟩, ⟨[(0, 1)], [3, 4]⟩, ⟨[(0, 1), (2, 1)], [2]⟩], heads := [], exits := [], rets := [2], pins := [], spec := [[false]] }
abbrev g11_A : List Sh := [.a (.c (.int .i64))]
abbrev g11_S : Sh := .a (.c (.int .u64))
abbrev g11_U : List Sh := [.a (.c .dead)]
def g11_R (m : Nat) : ShLVal g11_A → Option (g11_S.Val × ShLVal g11_U) := fun (x : Int × Unit) => g11 m x.1
def g11_T (m : Nat) : FunT := ⟨11, g11_A, g11_S, g11_U, g11_R m⟩
noncomputable def g11_C : Code := codeOf Tryd.f11
theorem g11_C_ls : loopsL g11_C 0 = [] := by kernel_rfl
theorem g11_kr (m : Nat) (x : ShLVal g11_A) : fnK (mkC (g11_S.Val × ShLVal g11_U) [g5_T m, g23_T m, g22_T m, g21_T m]) (mkLp (g11_S.Val × ShLVal g11_U) []) tt g11_H Tryd.f11 (encS g11_A x) (Kd g11_S g11_U) = g11 m x.1 := by kernel_rfl
theorem g11_ok (m : Nat) : FunOK Tryd.prog (g11_T m) :=
  fun_ok hmix htt (g11_T m) Tryd.func11 (c := g11_C) (by kernel_rfl) (by kernel_rfl) (Lc := [g5_T m, g23_T m, g22_T m, g21_T m]) (AllF.mem (l := [g5_T m, g23_T m, g22_T m, g21_T m]) ⟨g5_ok m, g23_ok m, g22_ok m, g21_ok m, trivial⟩) (L := []) (fun _ hE _ _ => loopsIn_of g11_C_ls trivial) (fun x => (g11_kr m x).trans (by kernel_rfl))
/-! 13 sparse/sparseref09.Pack -/
def g13_H : Hints := { regs := [⟨[], [0, 1, 2, 6]⟩, ⟨[], [0, 1, 2, 6, 7]⟩, ⟨[], [0, 1, 2, 6, 7, 8]⟩, ⟨[], [0, 1, 2, 6, 7, 8, 9]⟩, ⟨[], [0, 1, 2, 6, 7, 8, 9, 24]⟩, ⟨[(0, 1)], [0, 1, 2, 6, 7, 8, 9]⟩, ⟨[], [0, 1, 2, 6, 7, 8, 9]⟩, ⟨[], [0, 1, 2, 6, 7, 8, 10]⟩, ⟨[], [0, 1, 2, 6, 7, 8, 10, 46]⟩, ⟨[(0, 1)], [0, 1, 2, 6, 7, 8, 10]⟩, ⟨[], [0, 1, 2, 6, 7, 8, 10, 11]⟩, ⟨[], [0, 1, 2, 6, 7, 8, 10, 11, 51]⟩, ⟨[(0, 1)], [0, 1, 2, 6, 7, 8, 10, 11]⟩, ⟨[], [0, 1, 2, 6, 7, 8, 10, 11, 12]⟩, ⟨[], [0, 1, 2, 6, 7, 8, 10, 11, 12, 63]⟩, ⟨[(1, 1)], [0, 1, 2, 6, 7, 8, 10, 11, 12]⟩, ⟨[(3, 1), (9, 3)], [0, 1, 2, 6, 7, 8, 10, 11]⟩, ⟨[(1, 1)], [0, 1, 2, 6, 7, 8, 10]⟩, ⟨[(0, 1)], [6]⟩], heads := [(0, [0, 1, 2, 6, 7, 8, 9]), (2, [0, 1, 2, 6, 7, 8, 10]), (4, [0, 1, 2, 6, 7, 8, 10, 11])], exits := [(0, [0, 1, 2, 6, 7, 8]), (1, [0, 1, 2, 6, 7, 8, 9]), (2, [6, 7]), (3, [0, 1, 2, 6, 7, 8, 10]), (4, [0, 1, 2, 6, 7, 8, 10]), (5, [0, 1, 2, 6, 7, 8, 10, 11])], rets := [6], pins := [], spec := [[false, false, true, true, true]] }
abbrev g13_A : List Sh := [.a (.c (.int .i64)), .a (.c (.int .i64)), .a (.c (.imm (.pr (.int .i64) (.pr (.int .i64) (.int .u64)))))]
abbrev g13_S : Sh := .a (.agg [(.int .i64), (.int .i64), (.nm 0 (.int .i64)), (.nm 1 (.int .i64)), (.nm 2 (.int .u64))])
abbrev g13_U : List Sh := [.a (.c .dead), .a (.c .dead), .a (.c .dead)]
def g13_R (m : Nat) : ShLVal g13_A → Option (g13_S.Val × ShLVal g13_U) := fun (x : Int × Int × (List (Int × Int × Int)) × Unit) => g13 m x.1 x.2.1 x.2.2.1
def g13_T (m : Nat) : FunT := ⟨13, g13_A, g13_S, g13_U, g13_R m⟩
noncomputable def g13_C : Code := codeOf Tryd.f13
noncomputable def g13_B0 : Code := loopAt g13_C 0 0
theorem g13_B0_ls : loopsL g13_B0 0 = [] := by kernel_rfl
noncomputable def g13_B2 : Code := loopAt g13_C 0 1
noncomputable def g13_B4 : Code := loopAt g13_B2 2 0
theorem g13_B4_ls : loopsL g13_B4 4 = [] := by kernel_rfl
theorem g13_B2_ls : loopsL g13_B2 2 = [(4, g13_B4)] := by kernel_rfl
theorem g13_C_ls : loopsL g13_C 0 = [(0, g13_B0), (2, g13_B2)] := by kernel_rfl
abbrev g13_L2_I : SS := [(0, .a (.c (.int .i64))), (1, .a (.c (.int .i64))), (2, .a (.c (.imm (.pr (.int .i64) (.pr (.int .i64) (.int .u64)))))), (6, .a (.bx 0 [(.int .i64), (.int .i64), (.nm 1 (.int .i64)), (.nm 2 (.int .i64)), (.nm 3 (.int .u64))])), (7, .a (.bx 4 [(.int .i64), (.int .i64), (.nm 5 (.int .i64)), (.nm 6 (.int .i64)), (.nm 7 (.int .u64))])), (8, .a (.c (.nm 8 (.int .i64)))), (10, .a (.c (.int .i64))), (11, .a (.c (.int .i64)))]
abbrev g13_L2_O : List (Ex × SS) := [(.exit 4, [(0, .a (.c (.int .i64))), (1, .a (.c (.int .i64))), (2, .a (.c (.imm (.pr (.int .i64) (.pr (.int .i64) (.int .u64)))))), (6, .a (.bx 0 [(.int .i64), (.int .i64), (.nm 1 (.int .i64)), (.nm 2 (.int .i64)), (.nm 3 (.int .u64))])), (7, .a (.bx 4 [(.int .i64), (.int .i64), (.nm 5 (.int .i64)), (.nm 6 (.int .i64)), (.nm 7 (.int .u64))])), (8, .a (.c (.nm 8 (.int .i64)))), (10, .a (.c (.int .i64)))])]
def g13_L2_R (m n : Nat) : g13_L2_I.Val → Option (outVal g13_L2_O) := (fun (x : Int × Int × (List (Int × Int × Int)) × (Int × Int × List Int × List Int × List Int × Unit) × (Int × Int × List Int × List Int × List Int × Unit) × List Int × Int × Int × Unit) => g13_L2 m n x.1 x.2.1 x.2.2.1 x.2.2.2.1.1 x.2.2.2.1.2.1 x.2.2.2.1.2.2.1 x.2.2.2.1.2.2.2.1 x.2.2.2.1.2.2.2.2.1 x.2.2.2.2.1.1 x.2.2.2.2.1.2.1 x.2.2.2.2.1.2.2.1 x.2.2.2.2.1.2.2.2.1 x.2.2.2.2.1.2.2.2.2.1 x.2.2.2.2.2.1 x.2.2.2.2.2.2.1 x.2.2.2.2.2.2.2.1)
def g13_L2_T (m n : Nat) : LoopT := ⟨4, g13_L2_I, g13_L2_O, g13_L2_R m n⟩
theorem g13_L2_kr (m n : Nat) (x : g13_L2_I.Val) : roundK (mkC (outVal g13_L2_O) []) (mkLp (outVal g13_L2_O) []) tt 90 g13_H g13_B4 4 (g13_L2_I.enc x) (Kl (ins := g13_L2_I) (outs := g13_L2_O) (g13_L2_R m n)) = g13_L2 m (n + 1) x.1 x.2.1 x.2.2.1 x.2.2.2.1.1 x.2.2.2.1.2.1 x.2.2.2.1.2.2.1 x.2.2.2.1.2.2.2.1 x.2.2.2.1.2.2.2.2.1 x.2.2.2.2.1.1 x.2.2.2.2.1.2.1 x.2.2.2.2.1.2.2.1 x.2.2.2.2.1.2.2.2.1 x.2.2.2.2.1.2.2.2.2.1 x.2.2.2.2.2.1 x.2.2.2.2.2.2.1 x.2.2.2.2.2.2.2.1 := by kernel_rfl
theorem g13_L2_ok {E : Entry} (hE : EOf Tryd.prog E 90 g13_H.pins) (m : Nat) (n : Nat) : LoopOK Tryd.prog E g13_B4 (g13_L2_T m n) :=
  loop_ok (CO := CallOK Tryd.prog) hmix htt (fun _ _ _ _ h => h) hE (C := fun R => mkC R []) (L := []) (fun _ _ _ _ _ h => mkC_spec (AllF.mem (l := []) trivial) h) (fun _ _ => loopsIn_of g13_B4_ls trivial) (fun n => (g13_L2_R m n)) (fun _ => by kernel_rfl) (fun n x => (g13_L2_kr m n x).trans (by kernel_rfl)) n
abbrev g13_L1_I : SS := [(0, .a (.c (.int .i64))), (1, .a (.c (.int .i64))), (2, .a (.c (.imm (.pr (.int .i64) (.pr (.int .i64) (.int .u64)))))), (6, .a (.bx 0 [(.int .i64), (.int .i64), (.nm 1 (.int .i64)), (.nm 2 (.int .i64)), (.nm 3 (.int .u64))])), (7, .a (.bx 4 [(.int .i64), (.int .i64), (.nm 5 (.int .i64)), (.nm 6 (.int .i64)), (.nm 7 (.int .u64))])), (8, .a (.c (.nm 8 (.int .i64)))), (10, .a (.c (.int .i64)))]
abbrev g13_L1_O : List (Ex × SS) := [(.exit 2, [(6, .a (.bx 0 [(.int .i64), (.int .i64), (.nm 1 (.int .i64)), (.nm 2 (.int .i64)), (.nm 3 (.int .u64))])), (7, .a (.bx 4 [(.int .i64), (.int .i64), (.nm 5 (.int .i64)), (.nm 6 (.int .i64)), (.nm 7 (.int .u64))]))])]
def g13_L1_R (m n : Nat) : g13_L1_I.Val → Option (outVal g13_L1_O) := (fun (x : Int × Int × (List (Int × Int × Int)) × (Int × Int × List Int × List Int × List Int × Unit) × (Int × Int × List Int × List Int × List Int × Unit) × List Int × Int × Unit) => g13_L1 m n x.1 x.2.1 x.2.2.1 x.2.2.2.1.1 x.2.2.2.1.2.1 x.2.2.2.1.2.2.1 x.2.2.2.1.2.2.2.1 x.2.2.2.1.2.2.2.2.1 x.2.2.2.2.1.1 x.2.2.2.2.1.2.1 x.2.2.2.2.1.2.2.1 x.2.2.2.2.1.2.2.2.1 x.2.2.2.2.1.2.2.2.2.1 x.2.2.2.2.2.1 x.2.2.2.2.2.2.1)
def g13_L1_T (m n : Nat) : LoopT := ⟨2, g13_L1_I, g13_L1_O, g13_L1_R m n⟩
theorem g13_L1_kr (m n : Nat) (x : g13_L1_I.Val) : roundK (mkC (outVal g13_L1_O) []) (mkLp (outVal g13_L1_O) [g13_L2_T m m]) tt 90 g13_H g13_B2 2 (g13_L1_I.enc x) (Kl (ins := g13_L1_I) (outs := g13_L1_O) (g13_L1_R m n)) = g13_L1 m (n + 1) x.1 x.2.1 x.2.2.1 x.2.2.2.1.1 x.2.2.2.1.2.1 x.2.2.2.1.2.2.1 x.2.2.2.1.2.2.2.1 x.2.2.2.1.2.2.2.2.1 x.2.2.2.2.1.1 x.2.2.2.2.1.2.1 x.2.2.2.2.1.2.2.1 x.2.2.2.2.1.2.2.2.1 x.2.2.2.2.1.2.2.2.2.1 x.2.2.2.2.2.1 x.2.2.2.2.2.2.1 := by kernel_rfl
theorem g13_L1_ok {E : Entry} (hE : EOf Tryd.prog E 90 g13_H.pins) (m : Nat) (n : Nat) : LoopOK Tryd.prog E g13_B2 (g13_L1_T m n) :=
  loop_ok (CO := CallOK Tryd.prog) hmix htt (fun _ _ _ _ h => h) hE (C := fun R => mkC R []) (L := [g13_L2_T m m]) (fun _ _ _ _ _ h => mkC_spec (AllF.mem (l := []) trivial) h) (fun _ _ => loopsIn_of g13_B2_ls ⟨mkLp_all ⟨fun _ => g13_L2_ok hE m m, trivial⟩, trivial⟩) (fun n => (g13_L1_R m n)) (fun _ => by kernel_rfl) (fun n x => (g13_L1_kr m n x).trans (by kernel_rfl)) n
abbrev g13_L0_I : SS := [(0, .a (.c (.int .i64))), (1, .a (.c (.int .i64))), (2, .a (.c (.imm (.pr (.int .i64) (.pr (.int .i64) (.int .u64)))))), (6, .a (.bx 0 [(.int .i64), (.int .i64), (.nm 1 (.int .i64)), (.nm 2 (.int .i64)), (.nm 3 (.int .u64))])), (7, .a (.bx 4 [(.int .i64), (.int .i64), (.nm 5 (.int .i64)), (.nm 6 (.int .i64)), (.nm 7 (.int .u64))])), (8, .a (.c (.nm 8 (.int .i64)))), (9, .a (.c (.int .i64)))]
abbrev g13_L0_O : List (Ex × SS) := [(.exit 0, [(0, .a (.c (.int .i64))), (1, .a (.c (.int .i64))), (2, .a (.c (.imm (.pr (.int .i64) (.pr (.int .i64) (.int .u64)))))), (6, .a (.bx 0 [(.int .i64), (.int .i64), (.nm 1 (.int .i64)), (.nm 2 (.int .i64)), (.nm 3 (.int .u64))])), (7, .a (.bx 4 [(.int .i64), (.int .i64), (.nm 5 (.int .i64)), (.nm 6 (.int .i64)), (.nm 7 (.int .u64))])), (8, .a (.c (.nm 8 (.int .i64))))])]
def g13_L0_R (m n : Nat) : g13_L0_I.Val → Option (outVal g13_L0_O) := (fun (x : Int × Int × (List (Int × Int × Int)) × (Int × Int × List Int × List Int × List Int × Unit) × (Int × Int × List Int × List Int × List Int × Unit) × List Int × Int × Unit) => g13_L0 m n x.1 x.2.1 x.2.2.1 x.2.2.2.1.1 x.2.2.2.1.2.1 x.2.2.2.1.2.2.1 x.2.2.2.1.2.2.2.1 x.2.2.2.1.2.2.2.2.1 x.2.2.2.2.1.1 x.2.2.2.2.1.2.1 x.2.2.2.2.1.2.2.1 x.2.2.2.2.1.2.2.2.1 x.2.2.2.2.1.2.2.2.2.1 x.2.2.2.2.2.1 x.2.2.2.2.2.2.1)
def g13_L0_T (m n : Nat) : LoopT := ⟨0, g13_L0_I, g13_L0_O, g13_L0_R m n⟩
theorem g13_L0_kr (m n : Nat) (x : g13_L0_I.Val) : roundK (mkC (outVal g13_L0_O) []) (mkLp (outVal g13_L0_O) []) tt 90 g13_H g13_B0 0 (g13_L0_I.enc x) (Kl (ins := g13_L0_I) (outs := g13_L0_O) (g13_L0_R m n)) = g13_L0 m (n + 1) x.1 x.2.1 x.2.2.1 x.2.2.2.1.1 x.2.2.2.1.2.1 x.2.2.2.1.2.2.1 x.2.2.2.1.2.2.2.1 x.2.2.2.1.2.2.2.2.1 x.2.2.2.2.1.1 x.2.2.2.2.1.2.1 x.2.2.2.2.1.2.2.1 x.2.2.2.2.1.2.2.2.1 x.2.2.2.2.1.2.2.2.2.1 x.2.2.2.2.2.1 x.2.2.2.2.2.2.1 := by kernel_rfl
theorem g13_L0_ok {E : Entry} (hE : EOf Tryd.prog E 90 g13_H.pins) (m : Nat) (n : Nat) : LoopOK Tryd.prog E g13_B0 (g13_L0_T m n) :=
  loop_ok (CO := CallOK Tryd.prog) hmix htt (fun _ _ _ _ h => h) hE (C := fun R => mkC R []) (L := []) (fun _ _ _ _ _ h => mkC_spec (AllF.mem (l := []) trivial) h) (fun _ _ => loopsIn_of g13_B0_ls trivial) (fun n => (g13_L0_R m n)) (fun _ => by kernel_rfl) (fun n x => (g13_L0_kr m n x).trans (by kernel_rfl)) n
theorem g13_kr (m : Nat) (x : ShLVal g13_A) : fnK (mkC (g13_S.Val × ShLVal g13_U) []) (mkLp (g13_S.Val × ShLVal g13_U) [g13_L0_T m m, g13_L1_T m m]) tt g13_H Tryd.f13 (encS g13_A x) (Kd g13_S g13_U) = g13 m x.1 x.2.1 x.2.2.1 := by kernel_rfl
theorem g13_ok (m : Nat) : FunOK Tryd.prog (g13_T m) :=
  fun_ok hmix htt (g13_T m) Tryd.func13 (c := g13_C) (by kernel_rfl) (by kernel_rfl) (Lc := []) (AllF.mem (l := []) trivial) (L := [g13_L0_T m m, g13_L1_T m m]) (fun _ hE _ _ => loopsIn_of g13_C_ls ⟨mkLp_all ⟨fun _ => g13_L0_ok hE m m, fun h => absurd (show (2 : Nat) = 0 from h) (by decide), trivial⟩, mkLp_all ⟨fun h => absurd (show (0 : Nat) = 2 from h) (by decide), fun _ => g13_L1_ok hE m m, trivial⟩, trivial⟩) (fun x => (g13_kr m x).trans (by kernel_rfl))
/-! 6 sparse/sparsemake.Square -/
def g6_H : Hints := { regs := [⟨[], [0, 1, 4]⟩, ⟨[], [0, 1, 4, 5]⟩, ⟨[], [0, 1, 4, 5, 6]⟩, ⟨[], [0, 1, 4, 5, 6, 10]⟩, ⟨[(0, 1)], [0, 1, 4, 5, 6]⟩, ⟨[(0, 1)], [0, 1, 4, 5, 6]⟩, ⟨[], [0, 1, 4, 5, 7]⟩, ⟨[(5, 1)], [0, 1, 4, 5, 7, 33]⟩, ⟨[(0, 1)], [0, 1, 4, 5, 7]⟩, ⟨[(0, 1)], [0, 1, 4, 5, 7]⟩, ⟨[(2, 1)], [4]⟩], heads := [(0, [0, 1, 4, 5, 6]), (2, [0, 1, 4, 5, 7])], exits := [(0, [0, 1, 4, 5]), (1, [0, 1, 4, 5, 6]), (2, [0, 4, 5]), (3, [0, 1, 4, 5, 7])], rets := [4], pins := [], spec := [[false, false, true, true, true]] }
abbrev g6_A : List Sh := [.a (.c (.int .i64)), .a (.c (.imm (.int .i64)))]
abbrev g6_S : Sh := .a (.agg [(.int .i64), (.int .i64), (.nm 0 (.int .i64)), (.nm 1 (.int .i64)), (.nm 2 (.int .u64))])
abbrev g6_U : List Sh := [.a (.c .dead), .a (.c .dead)]
def g6_R (m : Nat) : ShLVal g6_A → Option (g6_S.Val × ShLVal g6_U) := fun (x : Int × List Int × Unit) => g6 m x.1 x.2.1
def g6_T (m : Nat) : FunT := ⟨6, g6_A, g6_S, g6_U, g6_R m⟩
noncomputable def g6_C : Code := codeOf Tryd.f6
noncomputable def g6_B0 : Code := loopAt g6_C 0 0
theorem g6_B0_ls : loopsL g6_B0 0 = [] := by kernel_rfl
noncomputable def g6_B2 : Code := loopAt g6_C 0 1
theorem g6_B2_ls : loopsL g6_B2 2 = [] := by kernel_rfl
theorem g6_C_ls : loopsL g6_C 0 = [(0, g6_B0), (2, g6_B2)] := by kernel_rfl
abbrev g6_L1_I : SS := [(0, .a (.c (.int .i64))), (1, .a (.c (.imm (.int .i64)))), (4, .a (.bx 0 [(.int .i64), (.int .i64), (.nm 1 (.int .i64)), (.nm 2 (.int .i64)), (.nm 3 (.int .u64))])), (5, .a (.c (.nm 4 (.pr (.int .i64) (.pr (.int .i64) (.int .u64)))))), (7, .a (.c (.int .i64)))]
abbrev g6_L1_O : List (Ex × SS) := [(.exit 2, [(0, .a (.c (.int .i64))), (4, .a (.bx 0 [(.int .i64), (.int .i64), (.nm 1 (.int .i64)), (.nm 2 (.int .i64)), (.nm 3 (.int .u64))])), (5, .a (.c (.nm 4 (.pr (.int .i64) (.pr (.int .i64) (.int .u64))))))])]
def g6_L1_R (m n : Nat) : g6_L1_I.Val → Option (outVal g6_L1_O) := (fun (x : Int × List Int × (Int × Int × List Int × List Int × List Int × Unit) × (List (Int × Int × Int)) × Int × Unit) => g6_L1 m n x.1 x.2.1 x.2.2.1.1 x.2.2.1.2.1 x.2.2.1.2.2.1 x.2.2.1.2.2.2.1 x.2.2.1.2.2.2.2.1 x.2.2.2.1 x.2.2.2.2.1)
def g6_L1_T (m n : Nat) : LoopT := ⟨2, g6_L1_I, g6_L1_O, g6_L1_R m n⟩
theorem g6_L1_kr (m n : Nat) (x : g6_L1_I.Val) : roundK (mkC (outVal g6_L1_O) [g12_T m, g11_T m, g5_T m, g13_T m]) (mkLp (outVal g6_L1_O) []) tt 63 g6_H g6_B2 2 (g6_L1_I.enc x) (Kl (ins := g6_L1_I) (outs := g6_L1_O) (g6_L1_R m n)) = g6_L1 m (n + 1) x.1 x.2.1 x.2.2.1.1 x.2.2.1.2.1 x.2.2.1.2.2.1 x.2.2.1.2.2.2.1 x.2.2.1.2.2.2.2.1 x.2.2.2.1 x.2.2.2.2.1 := by kernel_rfl
theorem g6_L1_ok {E : Entry} (hE : EOf Tryd.prog E 63 g6_H.pins) (m : Nat) (n : Nat) : LoopOK Tryd.prog E g6_B2 (g6_L1_T m n) :=
  loop_ok (CO := CallOK Tryd.prog) hmix htt (fun _ _ _ _ h => h) hE (C := fun R => mkC R [g12_T m, g11_T m, g5_T m, g13_T m]) (L := []) (fun _ _ _ _ _ h => mkC_spec (AllF.mem (l := [g12_T m, g11_T m, g5_T m, g13_T m]) ⟨g12_ok m, g11_ok m, g5_ok m, g13_ok m, trivial⟩) h) (fun _ _ => loopsIn_of g6_B2_ls trivial) (fun n => (g6_L1_R m n)) (fun _ => by kernel_rfl) (fun n x => (g6_L1_kr m n x).trans (by kernel_rfl)) n
abbrev g6_L0_I : SS := [(0, .a (.c (.int .i64))), (1, .a (.c (.imm (.int .i64)))), (4, .a (.bx 0 [(.int .i64), (.int .i64), (.nm 1 (.int .i64)), (.nm 2 (.int .i64)), (.nm 3 (.int .u64))])), (5, .a (.c (.nm 4 (.pr (.int .i64) (.pr (.int .i64) (.int .u64)))))), (6, .a (.c (.int .i64)))]
abbrev g6_L0_O : List (Ex × SS) := [(.exit 0, [(0, .a (.c (.int .i64))), (1, .a (.c (.imm (.int .i64)))), (4, .a (.bx 0 [(.int .i64), (.int .i64), (.nm 1 (.int .i64)), (.nm 2 (.int .i64)), (.nm 3 (.int .u64))])), (5, .a (.c (.nm 4 (.pr (.int .i64) (.pr (.int .i64) (.int .u64))))))])]
def g6_L0_R (m n : Nat) : g6_L0_I.Val → Option (outVal g6_L0_O) := (fun (x : Int × List Int × (Int × Int × List Int × List Int × List Int × Unit) × (List (Int × Int × Int)) × Int × Unit) => g6_L0 m n x.1 x.2.1 x.2.2.1.1 x.2.2.1.2.1 x.2.2.1.2.2.1 x.2.2.1.2.2.2.1 x.2.2.1.2.2.2.2.1 x.2.2.2.1 x.2.2.2.2.1)
def g6_L0_T (m n : Nat) : LoopT := ⟨0, g6_L0_I, g6_L0_O, g6_L0_R m n⟩
theorem g6_L0_kr (m n : Nat) (x : g6_L0_I.Val) : roundK (mkC (outVal g6_L0_O) [g12_T m, g11_T m, g5_T m, g13_T m]) (mkLp (outVal g6_L0_O) []) tt 63 g6_H g6_B0 0 (g6_L0_I.enc x) (Kl (ins := g6_L0_I) (outs := g6_L0_O) (g6_L0_R m n)) = g6_L0 m (n + 1) x.1 x.2.1 x.2.2.1.1 x.2.2.1.2.1 x.2.2.1.2.2.1 x.2.2.1.2.2.2.1 x.2.2.1.2.2.2.2.1 x.2.2.2.1 x.2.2.2.2.1 := by kernel_rfl
theorem g6_L0_ok {E : Entry} (hE : EOf Tryd.prog E 63 g6_H.pins) (m : Nat) (n : Nat) : LoopOK Tryd.prog E g6_B0 (g6_L0_T m n) :=
  loop_ok (CO := CallOK Tryd.prog) hmix htt (fun _ _ _ _ h => h) hE (C := fun R => mkC R [g12_T m, g11_T m, g5_T m, g13_T m]) (L := []) (fun _ _ _ _ _ h => mkC_spec (AllF.mem (l := [g12_T m, g11_T m, g5_T m, g13_T m]) ⟨g12_ok m, g11_ok m, g5_ok m, g13_ok m, trivial⟩) h) (fun _ _ => loopsIn_of g6_B0_ls trivial) (fun n => (g6_L0_R m n)) (fun _ => by kernel_rfl) (fun n x => (g6_L0_kr m n x).trans (by kernel_rfl)) n
theorem g6_kr (m : Nat) (x : ShLVal g6_A) : fnK (mkC (g6_S.Val × ShLVal g6_U) [g12_T m, g11_T m, g5_T m, g13_T m]) (mkLp (g6_S.Val × ShLVal g6_U) [g6_L0_T m m, g6_L1_T m m]) tt g6_H Tryd.f6 (encS g6_A x) (Kd g6_S g6_U) = g6 m x.1 x.2.1 := by kernel_rfl
theorem g6_ok (m : Nat) : FunOK Tryd.prog (g6_T m) :=
  fun_ok hmix htt (g6_T m) Tryd.func6 (c := g6_C) (by kernel_rfl) (by kernel_rfl) (Lc := [g12_T m, g11_T m, g5_T m, g13_T m]) (AllF.mem (l := [g12_T m, g11_T m, g5_T m, g13_T m]) ⟨g12_ok m, g11_ok m, g5_ok m, g13_ok m, trivial⟩) (L := [g6_L0_T m m, g6_L1_T m m]) (fun _ hE _ _ => loopsIn_of g6_C_ls ⟨mkLp_all ⟨fun _ => g6_L0_ok hE m m, fun h => absurd (show (2 : Nat) = 0 from h) (by decide), trivial⟩, mkLp_all ⟨fun h => absurd (show (0 : Nat) = 2 from h) (by decide), fun _ => g6_L1_ok hE m m, trivial⟩, trivial⟩) (fun x => (g6_kr m x).trans (by kernel_rfl))
/-! 8 sparse/sparsekit.TwinInts -/
def g8_H : Hints := { regs := [⟨[], [0]⟩, ⟨[], [0, 3]⟩, ⟨[], [0, 3, 4]⟩, ⟨[], [0, 3, 4, 8]⟩, ⟨[(0, 1)], [0, 3, 4]⟩, ⟨[(0, 1)], [0, 3, 4]⟩, ⟨[(0, 1)], [2]⟩], heads := [(0, [0, 3, 4])], exits := [(0, [3]), (1, [0, 3, 4])], rets := [2], pins := [], spec := [[true]] }
abbrev g8_A : List Sh := [.a (.c (.imm (.int .i64)))]
abbrev g8_S : Sh := .a (.c (.nm 0 (.int .i64)))
abbrev g8_U : List Sh := [.a (.c .dead)]
def g8_R (m : Nat) : ShLVal g8_A → Option (g8_S.Val × ShLVal g8_U) := fun (x : List Int × Unit) => g8 m x.1
def g8_T (m : Nat) : FunT := ⟨8, g8_A, g8_S, g8_U, g8_R m⟩
noncomputable def g8_C : Code := codeOf Tryd.f8
noncomputable def g8_B0 : Code := loopAt g8_C 0 0
theorem g8_B0_ls : loopsL g8_B0 0 = [] := by kernel_rfl
theorem g8_C_ls : loopsL g8_C 0 = [(0, g8_B0)] := by kernel_rfl
abbrev g8_L0_I : SS := [(0, .a (.c (.imm (.int .i64)))), (3, .a (.c (.nm 0 (.int .i64)))), (4, .a (.c (.int .i64)))]
abbrev g8_L0_O : List (Ex × SS) := [(.exit 0, [(3, .a (.c (.nm 0 (.int .i64))))])]
def g8_L0_R (m n : Nat) : g8_L0_I.Val → Option (outVal g8_L0_O) := (fun (x : List Int × List Int × Int × Unit) => g8_L0 m n x.1 x.2.1 x.2.2.1)
def g8_L0_T (m n : Nat) : LoopT := ⟨0, g8_L0_I, g8_L0_O, g8_L0_R m n⟩
theorem g8_L0_kr (m n : Nat) (x : g8_L0_I.Val) : roundK (mkC (outVal g8_L0_O) []) (mkLp (outVal g8_L0_O) []) tt 19 g8_H g8_B0 0 (g8_L0_I.enc x) (Kl (ins := g8_L0_I) (outs := g8_L0_O) (g8_L0_R m n)) = g8_L0 m (n + 1) x.1 x.2.1 x.2.2.1 := by kernel_rfl
theorem g8_L0_ok {E : Entry} (hE : EOf Tryd.prog E 19 g8_H.pins) (m : Nat) (n : Nat) : LoopOK Tryd.prog E g8_B0 (g8_L0_T m n) :=
  loop_ok (CO := CallOK Tryd.prog) hmix htt (fun _ _ _ _ h => h) hE (C := fun R => mkC R []) (L := []) (fun _ _ _ _ _ h => mkC_spec (AllF.mem (l := []) trivial) h) (fun _ _ => loopsIn_of g8_B0_ls trivial) (fun n => (g8_L0_R m n)) (fun _ => by kernel_rfl) (fun n x => (g8_L0_kr m n x).trans (by kernel_rfl)) n
theorem g8_kr (m : Nat) (x : ShLVal g8_A) : fnK (mkC (g8_S.Val × ShLVal g8_U) []) (mkLp (g8_S.Val × ShLVal g8_U) [g8_L0_T m m]) tt g8_H Tryd.f8 (encS g8_A x) (Kd g8_S g8_U) = g8 m x.1 := by kernel_rfl
theorem g8_ok (m : Nat) : FunOK Tryd.prog (g8_T m) :=
  fun_ok hmix htt (g8_T m) Tryd.func8 (c := g8_C) (by kernel_rfl) (by kernel_rfl) (Lc := []) (AllF.mem (l := []) trivial) (L := [g8_L0_T m m]) (fun _ hE _ _ => loopsIn_of g8_C_ls ⟨mkLp_all ⟨fun _ => g8_L0_ok hE m m, trivial⟩, trivial⟩) (fun x => (g8_kr m x).trans (by kernel_rfl))
/-! 3 sparse/sparselaw14.TransversalDuals -/
def sparselaw14_TransversalDuals_H : Hints := { regs := [⟨[], [0, 1, 2, 3]⟩, ⟨[], [0, 1, 2, 3, 19]⟩, ⟨[], [8]⟩, ⟨[(0, 1)], [0, 1, 2, 3]⟩, ⟨[(1, 1)], [0, 2, 3, 9]⟩, ⟨[(2, 1), (5, 2), (6, 2)], [0, 2, 3, 9, 10, 11]⟩, ⟨[], [0, 2, 3, 9, 10, 11, 33]⟩, ⟨[(0, 1), (2, 1)], [8]⟩, ⟨[(5, 1), (12, 1)], [0, 2, 3, 9, 10, 57]⟩, ⟨[], [8]⟩, ⟨[], [0, 2, 3, 9, 10, 12]⟩, ⟨[], [0, 2, 3, 9, 10, 12, 60]⟩, ⟨[(0, 1)], [0, 2, 3, 9, 10, 12]⟩, ⟨[], [0, 2, 3, 9, 10, 12, 68]⟩, ⟨[], [8]⟩, ⟨[(0, 1)], [0, 2, 3, 9, 10]⟩, ⟨[], [0, 2, 3, 9, 10, 13]⟩, ⟨[], [0, 2, 3, 9, 10, 13]⟩, ⟨[(2, 1)], [0, 2, 3, 9, 10, 14]⟩, ⟨[(0, 1), (7, 1)], [0, 2, 9, 10, 97]⟩, ⟨[], [8]⟩, ⟨[], [0, 2, 9, 10, 15]⟩, ⟨[], [0, 9, 10, 15]⟩, ⟨[(1, 1)], [0, 9, 10, 16]⟩, ⟨[(0, 1), (2, 1), (3, 1), (6, 1), (16, 1), (22, 1)], [8]⟩], heads := [(0, [0, 2, 3, 9, 10, 12])], exits := [(0, [0, 2, 3, 9, 10]), (1, [0, 2, 3, 9, 10, 12])], rets := [8], pins := [], spec := [[false]] }
abbrev sparselaw14_TransversalDuals_A : List Sh := [.a (.c (.int .i64)), .a (.c (.imm (.int .i64))), .a (.c (.int .i64)), .a (.c (.int .i64))]
abbrev sparselaw14_TransversalDuals_S : Sh := .a (.c .bool)
abbrev sparselaw14_TransversalDuals_U : List Sh := [.a (.c .dead), .a (.c .dead), .a (.c .dead), .a (.c .dead)]
def sparselaw14_TransversalDuals_R (m : Nat) : ShLVal sparselaw14_TransversalDuals_A → Option (sparselaw14_TransversalDuals_S.Val × ShLVal sparselaw14_TransversalDuals_U) := fun (x : Int × List Int × Int × Int × Unit) => sparselaw14_TransversalDuals m x.1 x.2.1 x.2.2.1 x.2.2.2.1
def sparselaw14_TransversalDuals_T (m : Nat) : FunT := ⟨3, sparselaw14_TransversalDuals_A, sparselaw14_TransversalDuals_S, sparselaw14_TransversalDuals_U, sparselaw14_TransversalDuals_R m⟩
noncomputable def sparselaw14_TransversalDuals_C : Code := codeOf Tryd.f3
noncomputable def sparselaw14_TransversalDuals_B0 : Code := loopAt sparselaw14_TransversalDuals_C 0 0
theorem sparselaw14_TransversalDuals_B0_ls : loopsL sparselaw14_TransversalDuals_B0 0 = [] := by kernel_rfl
theorem sparselaw14_TransversalDuals_C_ls : loopsL sparselaw14_TransversalDuals_C 0 = [(0, sparselaw14_TransversalDuals_B0)] := by kernel_rfl
abbrev sparselaw14_TransversalDuals_L0_I : SS := [(0, .a (.c (.int .i64))), (2, .a (.c (.int .i64))), (3, .a (.c (.int .i64))), (9, .a (.bx 0 [(.int .i64), (.int .i64), (.nm 1 (.int .i64)), (.nm 2 (.int .i64)), (.nm 3 (.int .u64))])), (10, .a (.bx 4 [(.imm (.int .i64)), (.imm (.int .i64)), (.imm (.int .i64))])), (12, .a (.c (.int .i64)))]
abbrev sparselaw14_TransversalDuals_L0_O : List (Ex × SS) := [(.ret, [(8, .a (.c .bool))]), (.exit 0, [(0, .a (.c (.int .i64))), (2, .a (.c (.int .i64))), (3, .a (.c (.int .i64))), (9, .a (.bx 0 [(.int .i64), (.int .i64), (.nm 1 (.int .i64)), (.nm 2 (.int .i64)), (.nm 3 (.int .u64))])), (10, .a (.bx 4 [(.imm (.int .i64)), (.imm (.int .i64)), (.imm (.int .i64))]))])]
def sparselaw14_TransversalDuals_L0_R (m n : Nat) : sparselaw14_TransversalDuals_L0_I.Val → Option (outVal sparselaw14_TransversalDuals_L0_O) := (fun (x : Int × Int × Int × (Int × Int × List Int × List Int × List Int × Unit) × (List Int × List Int × List Int × Unit) × Int × Unit) => sparselaw14_TransversalDuals_L0 m n x.1 x.2.1 x.2.2.1 x.2.2.2.1.1 x.2.2.2.1.2.1 x.2.2.2.1.2.2.1 x.2.2.2.1.2.2.2.1 x.2.2.2.1.2.2.2.2.1 x.2.2.2.2.1.1 x.2.2.2.2.1.2.1 x.2.2.2.2.1.2.2.1 x.2.2.2.2.2.1)
def sparselaw14_TransversalDuals_L0_T (m n : Nat) : LoopT := ⟨0, sparselaw14_TransversalDuals_L0_I, sparselaw14_TransversalDuals_L0_O, sparselaw14_TransversalDuals_L0_R m n⟩
theorem sparselaw14_TransversalDuals_L0_kr (m n : Nat) (x : sparselaw14_TransversalDuals_L0_I.Val) : roundK (mkC (outVal sparselaw14_TransversalDuals_L0_O) [sparselaw14_awake_T m, g5_T m, g6_T m, g7_T m, g8_T m, g9_T m]) (mkLp (outVal sparselaw14_TransversalDuals_L0_O) []) tt 144 sparselaw14_TransversalDuals_H sparselaw14_TransversalDuals_B0 0 (sparselaw14_TransversalDuals_L0_I.enc x) (Kl (ins := sparselaw14_TransversalDuals_L0_I) (outs := sparselaw14_TransversalDuals_L0_O) (sparselaw14_TransversalDuals_L0_R m n)) = sparselaw14_TransversalDuals_L0 m (n + 1) x.1 x.2.1 x.2.2.1 x.2.2.2.1.1 x.2.2.2.1.2.1 x.2.2.2.1.2.2.1 x.2.2.2.1.2.2.2.1 x.2.2.2.1.2.2.2.2.1 x.2.2.2.2.1.1 x.2.2.2.2.1.2.1 x.2.2.2.2.1.2.2.1 x.2.2.2.2.2.1 := by kernel_rfl
theorem sparselaw14_TransversalDuals_L0_ok {E : Entry} (hE : EOf Tryd.prog E 144 sparselaw14_TransversalDuals_H.pins) (m : Nat) (n : Nat) : LoopOK Tryd.prog E sparselaw14_TransversalDuals_B0 (sparselaw14_TransversalDuals_L0_T m n) :=
  loop_ok (CO := CallOK Tryd.prog) hmix htt (fun _ _ _ _ h => h) hE (C := fun R => mkC R [sparselaw14_awake_T m, g5_T m, g6_T m, g7_T m, g8_T m, g9_T m]) (L := []) (fun _ _ _ _ _ h => mkC_spec (AllF.mem (l := [sparselaw14_awake_T m, g5_T m, g6_T m, g7_T m, g8_T m, g9_T m]) ⟨sparselaw14_awake_ok m, g5_ok m, g6_ok m, g7_ok m, g8_ok m, g9_ok m, trivial⟩) h) (fun _ _ => loopsIn_of sparselaw14_TransversalDuals_B0_ls trivial) (fun n => (sparselaw14_TransversalDuals_L0_R m n)) (fun _ => by kernel_rfl) (fun n x => (sparselaw14_TransversalDuals_L0_kr m n x).trans (by kernel_rfl)) n
theorem sparselaw14_TransversalDuals_kr (m : Nat) (x : ShLVal sparselaw14_TransversalDuals_A) : fnK (mkC (sparselaw14_TransversalDuals_S.Val × ShLVal sparselaw14_TransversalDuals_U) [sparselaw14_awake_T m, g5_T m, g6_T m, g7_T m, g8_T m, g9_T m]) (mkLp (sparselaw14_TransversalDuals_S.Val × ShLVal sparselaw14_TransversalDuals_U) [sparselaw14_TransversalDuals_L0_T m m]) tt sparselaw14_TransversalDuals_H Tryd.f3 (encS sparselaw14_TransversalDuals_A x) (Kd sparselaw14_TransversalDuals_S sparselaw14_TransversalDuals_U) = sparselaw14_TransversalDuals m x.1 x.2.1 x.2.2.1 x.2.2.2.1 := by kernel_rfl
theorem sparselaw14_TransversalDuals_ok (m : Nat) : FunOK Tryd.prog (sparselaw14_TransversalDuals_T m) :=
  fun_ok hmix htt (sparselaw14_TransversalDuals_T m) Tryd.func3 (c := sparselaw14_TransversalDuals_C) (by kernel_rfl) (by kernel_rfl) (Lc := [sparselaw14_awake_T m, g5_T m, g6_T m, g7_T m, g8_T m, g9_T m]) (AllF.mem (l := [sparselaw14_awake_T m, g5_T m, g6_T m, g7_T m, g8_T m, g9_T m]) ⟨sparselaw14_awake_ok m, g5_ok m, g6_ok m, g7_ok m, g8_ok m, g9_ok m, trivial⟩) (L := [sparselaw14_TransversalDuals_L0_T m m]) (fun _ hE _ _ => loopsIn_of sparselaw14_TransversalDuals_C_ls ⟨mkLp_all ⟨fun _ => sparselaw14_TransversalDuals_L0_ok hE m m, trivial⟩, trivial⟩) (fun x => (sparselaw14_TransversalDuals_kr m x).trans (by kernel_rfl))
end Go.Vs.F
