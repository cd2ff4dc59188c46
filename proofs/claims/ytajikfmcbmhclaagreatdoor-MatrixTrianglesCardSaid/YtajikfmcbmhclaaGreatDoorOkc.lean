/- The plain functions are what the code does (by program: gen.py). -/
import Derived.Test.YtajikfmcbmhclaaGreatDoorOkb

/-! MwOk3 -/
set_option linter.unusedVariables false
set_option maxRecDepth 100000
namespace Go.Vs.F
open Go.Proofs
/-! 155 sparse/sparseref01.subMag -/
def g155_H : Hints := { regs := [⟨[], [0, 1]⟩, ⟨[], [0, 1, 5]⟩, ⟨[], [0, 1, 5, 6]⟩, ⟨[], [0, 1, 5, 6, 7]⟩, ⟨[], [0, 1, 5, 6, 7, 12]⟩, ⟨[(0, 1)], [0, 1, 5, 6, 7]⟩, ⟨[(5, 1)], [0, 1, 5, 7, 8]⟩, ⟨[], [0, 1, 5, 7, 8, 25]⟩, ⟨[(0, 1)], [0, 1, 5, 7, 8]⟩, ⟨[(0, 1)], [0, 1, 5, 7, 8]⟩, ⟨[(0, 1)], [0, 1, 5, 6, 7]⟩, ⟨[(0, 1)], [4]⟩], heads := [(0, [0, 1, 5, 6, 7])], exits := [(0, [5]), (1, [0, 1, 5, 6, 7])], rets := [4], pins := [], spec := [[true]] }
abbrev g155_A : List Sh := [.a (.c (.imm (.int .u32))), .a (.c (.imm (.int .u32)))]
abbrev g155_S : Sh := .a (.c (.nm 0 (.int .u32)))
abbrev g155_U : List Sh := [.a (.c .dead), .a (.c .dead)]
def g155_R (m : Nat) : ShLVal g155_A → Option (g155_S.Val × ShLVal g155_U) := fun (x : List Int × List Int × Unit) => g155 m x.1 x.2.1
def g155_T (m : Nat) : FunT := ⟨155, g155_A, g155_S, g155_U, g155_R m⟩
noncomputable def g155_C : Code := codeOf Tryz.f155
noncomputable def g155_B0 : Code := loopAt g155_C 0 0
theorem g155_B0_ls : loopsL g155_B0 0 = [] := by kernel_rfl
theorem g155_C_ls : loopsL g155_C 0 = [(0, g155_B0)] := by kernel_rfl
abbrev g155_L0_I : SS := [(0, .a (.c (.imm (.int .u32)))), (1, .a (.c (.imm (.int .u32)))), (5, .a (.c (.nm 0 (.int .u32)))), (6, .a (.c (.int .u64))), (7, .a (.c (.int .i64)))]
abbrev g155_L0_O : List (Ex × SS) := [(.exit 0, [(5, .a (.c (.nm 0 (.int .u32))))])]
def g155_L0_R (m n : Nat) : g155_L0_I.Val → Option (outVal g155_L0_O) := (fun (x : List Int × List Int × List Int × Int × Int × Unit) => g155_L0 m n x.1 x.2.1 x.2.2.1 x.2.2.2.1 x.2.2.2.2.1)
def g155_L0_T (m n : Nat) : LoopT := ⟨0, g155_L0_I, g155_L0_O, g155_L0_R m n⟩
theorem g155_L0_kr (m n : Nat) (x : g155_L0_I.Val) : roundK (mkC (outVal g155_L0_O) []) (mkLp (outVal g155_L0_O) []) tt 41 g155_H g155_B0 0 (g155_L0_I.enc x) (Kl (ins := g155_L0_I) (outs := g155_L0_O) (g155_L0_R m n)) = g155_L0 m (n + 1) x.1 x.2.1 x.2.2.1 x.2.2.2.1 x.2.2.2.2.1 := by kernel_rfl
theorem g155_L0_ok {E : Entry} (hE : EOf Tryz.prog E 41 g155_H.pins) (m : Nat) (n : Nat) : LoopOK Tryz.prog E g155_B0 (g155_L0_T m n) :=
  loop_ok (CO := CallOK Tryz.prog) hmix htt (fun _ _ _ _ h => h) hE (C := fun R => mkC R []) (L := []) (fun _ _ _ _ _ h => mkC_spec (AllF.mem (l := []) trivial) h) (fun _ _ => loopsIn_of g155_B0_ls trivial) (fun n => (g155_L0_R m n)) (fun _ => by kernel_rfl) (fun n x => (g155_L0_kr m n x).trans (by kernel_rfl)) n
theorem g155_kr (m : Nat) (x : ShLVal g155_A) : fnK (mkC (g155_S.Val × ShLVal g155_U) []) (mkLp (g155_S.Val × ShLVal g155_U) [g155_L0_T m m]) tt g155_H Tryz.f155 (encS g155_A x) (Kd g155_S g155_U) = g155 m x.1 x.2.1 := by kernel_rfl
theorem g155_ok (m : Nat) : FunOK Tryz.prog (g155_T m) :=
  fun_ok hmix htt (g155_T m) Tryz.func155 (c := g155_C) (by kernel_rfl) (by kernel_rfl) (Lc := []) (AllF.mem (l := []) trivial) (L := [g155_L0_T m m]) (fun _ hE _ _ => loopsIn_of g155_C_ls ⟨mkLp_all ⟨fun _ => g155_L0_ok hE m m, trivial⟩, trivial⟩) (fun x => (g155_kr m x).trans (by kernel_rfl))
/-! 143 sparse/sparseref01.Add -/
def g143_H : Hints := { regs := [⟨[], [2, 3, 4]⟩, ⟨[], [2, 3, 4, 5, 6]⟩, ⟨[], [2, 3, 4, 5, 6, 17]⟩, ⟨[(2, 1), (3, 1)], [4]⟩, ⟨[], [2, 3, 4, 5, 6, 27]⟩, ⟨[(2, 1), (3, 1)], [4]⟩, ⟨[(2, 1), (3, 1)], [4]⟩], heads := [], exits := [], rets := [4], pins := [], spec := [[false, true]] }
abbrev g143_A : List Sh := [.a (.agg [.bool, (.imm (.int .u32))]), .a (.agg [.bool, (.imm (.int .u32))])]
abbrev g143_S : Sh := .a (.agg [.bool, (.nm 0 (.int .u32))])
abbrev g143_U : List Sh := [.a (.c .dead), .a (.c .dead)]
def g143_R (m : Nat) : ShLVal g143_A → Option (g143_S.Val × ShLVal g143_U) := fun (x : (Bool × List Int × Unit) × (Bool × List Int × Unit) × Unit) => g143 m x.1.1 x.1.2.1 x.2.1.1 x.2.1.2.1
def g143_T (m : Nat) : FunT := ⟨143, g143_A, g143_S, g143_U, g143_R m⟩
noncomputable def g143_C : Code := codeOf Tryz.f143
theorem g143_C_ls : loopsL g143_C 0 = [] := by kernel_rfl
theorem g143_kr (m : Nat) (x : ShLVal g143_A) : fnK (mkC (g143_S.Val × ShLVal g143_U) [g139_T m, g153_T m, g127_T m, g154_T m, g155_T m]) (mkLp (g143_S.Val × ShLVal g143_U) []) tt g143_H Tryz.f143 (encS g143_A x) (Kd g143_S g143_U) = g143 m x.1.1 x.1.2.1 x.2.1.1 x.2.1.2.1 := by kernel_rfl
theorem g143_ok (m : Nat) : FunOK Tryz.prog (g143_T m) :=
  fun_ok hmix htt (g143_T m) Tryz.func143 (c := g143_C) (by kernel_rfl) (by kernel_rfl) (Lc := [g139_T m, g153_T m, g127_T m, g154_T m, g155_T m]) (AllF.mem (l := [g139_T m, g153_T m, g127_T m, g154_T m, g155_T m]) ⟨g139_ok m, g153_ok m, g127_ok m, g154_ok m, g155_ok m, trivial⟩) (L := []) (fun _ hE _ _ => loopsIn_of g143_C_ls trivial) (fun x => (g143_kr m x).trans (by kernel_rfl))
/-! 146 sparse/sparseref01.Sub -/
def g146_H : Hints := { regs := [⟨[], [2, 3, 4]⟩, ⟨[], [4]⟩], heads := [], exits := [], rets := [4], pins := [], spec := [[false, true]] }
abbrev g146_A : List Sh := [.a (.agg [.bool, (.imm (.int .u32))]), .a (.agg [.bool, (.imm (.int .u32))])]
abbrev g146_S : Sh := .a (.agg [.bool, (.nm 0 (.int .u32))])
abbrev g146_U : List Sh := [.a (.c .dead), .a (.c .dead)]
def g146_R (m : Nat) : ShLVal g146_A → Option (g146_S.Val × ShLVal g146_U) := fun (x : (Bool × List Int × Unit) × (Bool × List Int × Unit) × Unit) => g146 m x.1.1 x.1.2.1 x.2.1.1 x.2.1.2.1
def g146_T (m : Nat) : FunT := ⟨146, g146_A, g146_S, g146_U, g146_R m⟩
noncomputable def g146_C : Code := codeOf Tryz.f146
theorem g146_C_ls : loopsL g146_C 0 = [] := by kernel_rfl
theorem g146_kr (m : Nat) (x : ShLVal g146_A) : fnK (mkC (g146_S.Val × ShLVal g146_U) [g156_T m, g143_T m]) (mkLp (g146_S.Val × ShLVal g146_U) []) tt g146_H Tryz.f146 (encS g146_A x) (Kd g146_S g146_U) = g146 m x.1.1 x.1.2.1 x.2.1.1 x.2.1.2.1 := by kernel_rfl
theorem g146_ok (m : Nat) : FunOK Tryz.prog (g146_T m) :=
  fun_ok hmix htt (g146_T m) Tryz.func146 (c := g146_C) (by kernel_rfl) (by kernel_rfl) (Lc := [g156_T m, g143_T m]) (AllF.mem (l := [g156_T m, g143_T m]) ⟨g156_ok m, g143_ok m, trivial⟩) (L := []) (fun _ hE _ _ => loopsIn_of g146_C_ls trivial) (fun x => (g146_kr m x).trans (by kernel_rfl))
/-! 124 sparse/sparseref01.Shift -/
def g124_H : Hints := { regs := [⟨[], [1, 2, 4]⟩, ⟨[], [1, 2, 4]⟩, ⟨[], [1, 2, 4, 11]⟩, ⟨[(4, 1)], [4]⟩, ⟨[(2, 1), (5, 1)], [2, 4, 5, 6]⟩, ⟨[(2, 1)], [2, 4, 6, 7]⟩, ⟨[(2, 1), (3, 1)], [4, 7, 35]⟩, ⟨[], [4, 7]⟩, ⟨[(0, 1)], [4]⟩], heads := [], exits := [], rets := [4], pins := [], spec := [[false, true]] }
abbrev g124_A : List Sh := [.a (.agg [.bool, (.imm (.int .u32))]), .a (.c (.int .i64))]
abbrev g124_S : Sh := .a (.agg [.bool, (.nm 0 (.int .u32))])
abbrev g124_U : List Sh := [.a (.c .dead), .a (.c .dead)]
def g124_R (m : Nat) : ShLVal g124_A → Option (g124_S.Val × ShLVal g124_U) := fun (x : (Bool × List Int × Unit) × Int × Unit) => g124 m x.1.1 x.1.2.1 x.2.1
def g124_T (m : Nat) : FunT := ⟨124, g124_A, g124_S, g124_U, g124_R m⟩
noncomputable def g124_C : Code := codeOf Tryz.f124
theorem g124_C_ls : loopsL g124_C 0 = [] := by kernel_rfl
theorem g124_kr (m : Nat) (x : ShLVal g124_A) : fnK (mkC (g124_S.Val × ShLVal g124_U) [g120_T m, g144_T m, g127_T m, g145_T m, g93_T m, g146_T m]) (mkLp (g124_S.Val × ShLVal g124_U) []) tt g124_H Tryz.f124 (encS g124_A x) (Kd g124_S g124_U) = g124 m x.1.1 x.1.2.1 x.2.1 := by kernel_rfl
theorem g124_ok (m : Nat) : FunOK Tryz.prog (g124_T m) :=
  fun_ok hmix htt (g124_T m) Tryz.func124 (c := g124_C) (by kernel_rfl) (by kernel_rfl) (Lc := [g120_T m, g144_T m, g127_T m, g145_T m, g93_T m, g146_T m]) (AllF.mem (l := [g120_T m, g144_T m, g127_T m, g145_T m, g93_T m, g146_T m]) ⟨g120_ok m, g144_ok m, g127_ok m, g145_ok m, g93_ok m, g146_ok m, trivial⟩) (L := []) (fun _ hE _ _ => loopsIn_of g124_C_ls trivial) (fun x => (g124_kr m x).trans (by kernel_rfl))
/-! 129 sparse/sparseref02.down -/
def g129_H : Hints := { regs := [⟨[(1, 2)], [1, 2, 4]⟩, ⟨[], [1, 2, 4, 6]⟩, ⟨[(2, 2)], [1, 2, 4]⟩, ⟨[(0, 1)], [1, 2, 4]⟩, ⟨[(1, 1)], [4]⟩], heads := [(0, [1, 2, 4])], exits := [(0, [1, 2, 4]), (1, [1, 2, 4])], rets := [4], pins := [], spec := [[false, true]] }
abbrev g129_A : List Sh := [.a (.agg [.bool, (.imm (.int .u32))]), .a (.c (.int .i64))]
abbrev g129_S : Sh := .a (.agg [.bool, (.nm 0 (.int .u32))])
abbrev g129_U : List Sh := [.a (.c .dead), .a (.c .dead)]
def g129_R (m : Nat) : ShLVal g129_A → Option (g129_S.Val × ShLVal g129_U) := fun (x : (Bool × List Int × Unit) × Int × Unit) => g129 m x.1.1 x.1.2.1 x.2.1
def g129_T (m : Nat) : FunT := ⟨129, g129_A, g129_S, g129_U, g129_R m⟩
noncomputable def g129_C : Code := codeOf Tryz.f129
noncomputable def g129_B0 : Code := loopAt g129_C 0 0
theorem g129_B0_ls : loopsL g129_B0 0 = [] := by kernel_rfl
theorem g129_C_ls : loopsL g129_C 0 = [(0, g129_B0)] := by kernel_rfl
abbrev g129_L0_I : SS := [(1, .a (.c (.int .i64))), (2, .a (.bx 0 [.bool, (.imm (.int .u32))])), (4, .a (.bx 1 [.bool, (.imm (.int .u32))]))]
abbrev g129_L0_O : List (Ex × SS) := [(.exit 0, [(1, .a (.c (.int .i64))), (2, .a (.bx 0 [.bool, (.imm (.int .u32))])), (4, .a (.bx 1 [.bool, (.imm (.int .u32))]))])]
def g129_L0_R (m n : Nat) : g129_L0_I.Val → Option (outVal g129_L0_O) := (fun (x : Int × (Bool × List Int × Unit) × (Bool × List Int × Unit) × Unit) => g129_L0 m n x.1 x.2.1.1 x.2.1.2.1 x.2.2.1.1 x.2.2.1.2.1)
def g129_L0_T (m n : Nat) : LoopT := ⟨0, g129_L0_I, g129_L0_O, g129_L0_R m n⟩
theorem g129_L0_kr (m n : Nat) (x : g129_L0_I.Val) : roundK (mkC (outVal g129_L0_O) [g124_T m]) (mkLp (outVal g129_L0_O) []) tt 15 g129_H g129_B0 0 (g129_L0_I.enc x) (Kl (ins := g129_L0_I) (outs := g129_L0_O) (g129_L0_R m n)) = g129_L0 m (n + 1) x.1 x.2.1.1 x.2.1.2.1 x.2.2.1.1 x.2.2.1.2.1 := by kernel_rfl
theorem g129_L0_ok {E : Entry} (hE : EOf Tryz.prog E 15 g129_H.pins) (m : Nat) (n : Nat) : LoopOK Tryz.prog E g129_B0 (g129_L0_T m n) :=
  loop_ok (CO := CallOK Tryz.prog) hmix htt (fun _ _ _ _ h => h) hE (C := fun R => mkC R [g124_T m]) (L := []) (fun _ _ _ _ _ h => mkC_spec (AllF.mem (l := [g124_T m]) ⟨g124_ok m, trivial⟩) h) (fun _ _ => loopsIn_of g129_B0_ls trivial) (fun n => (g129_L0_R m n)) (fun _ => by kernel_rfl) (fun n x => (g129_L0_kr m n x).trans (by kernel_rfl)) n
theorem g129_kr (m : Nat) (x : ShLVal g129_A) : fnK (mkC (g129_S.Val × ShLVal g129_U) [g124_T m]) (mkLp (g129_S.Val × ShLVal g129_U) [g129_L0_T m m]) tt g129_H Tryz.f129 (encS g129_A x) (Kd g129_S g129_U) = g129 m x.1.1 x.1.2.1 x.2.1 := by kernel_rfl
theorem g129_ok (m : Nat) : FunOK Tryz.prog (g129_T m) :=
  fun_ok hmix htt (g129_T m) Tryz.func129 (c := g129_C) (by kernel_rfl) (by kernel_rfl) (Lc := [g124_T m]) (AllF.mem (l := [g124_T m]) ⟨g124_ok m, trivial⟩) (L := [g129_L0_T m m]) (fun _ hE _ _ => loopsIn_of g129_C_ls ⟨mkLp_all ⟨fun _ => g129_L0_ok hE m m, trivial⟩, trivial⟩) (fun x => (g129_kr m x).trans (by kernel_rfl))
/-! 121 sparse/sparseref01.BitLen -/
def g121_H : Hints := { regs := [⟨[], [1]⟩, ⟨[], [3]⟩, ⟨[], [3, 9]⟩, ⟨[], [2]⟩, ⟨[], [2]⟩], heads := [], exits := [], rets := [2], pins := [], spec := [[false]] }
abbrev g121_A : List Sh := [.a (.agg [.bool, (.imm (.int .u32))])]
abbrev g121_S : Sh := .a (.c (.int .i64))
abbrev g121_U : List Sh := [.a (.c .dead)]
def g121_R (m : Nat) : ShLVal g121_A → Option (g121_S.Val × ShLVal g121_U) := fun (x : (Bool × List Int × Unit) × Unit) => g121 m x.1.1 x.1.2.1
def g121_T (m : Nat) : FunT := ⟨121, g121_A, g121_S, g121_U, g121_R m⟩
noncomputable def g121_C : Code := codeOf Tryz.f121
theorem g121_C_ls : loopsL g121_C 0 = [] := by kernel_rfl
theorem g121_kr (m : Nat) (x : ShLVal g121_A) : fnK (mkC (g121_S.Val × ShLVal g121_U) [g139_T m, g140_T m]) (mkLp (g121_S.Val × ShLVal g121_U) []) tt g121_H Tryz.f121 (encS g121_A x) (Kd g121_S g121_U) = g121 m x.1.1 x.1.2.1 := by kernel_rfl
theorem g121_ok (m : Nat) : FunOK Tryz.prog (g121_T m) :=
  fun_ok hmix htt (g121_T m) Tryz.func121 (c := g121_C) (by kernel_rfl) (by kernel_rfl) (Lc := [g139_T m, g140_T m]) (AllF.mem (l := [g139_T m, g140_T m]) ⟨g139_ok m, g140_ok m, trivial⟩) (L := []) (fun _ hE _ _ => loopsIn_of g121_C_ls trivial) (fun x => (g121_kr m x).trans (by kernel_rfl))
/-! 92 sparse/sparseref02.Make -/
def g92_H : Hints := { regs := [⟨[], [1, 2, 4]⟩, ⟨[], [1, 2, 4, 5]⟩, ⟨[], [1, 2, 4, 5, 13]⟩, ⟨[], [4]⟩, ⟨[], [1, 2, 4, 5, 16]⟩, ⟨[], [4]⟩, ⟨[], [1, 2, 4, 5, 6]⟩, ⟨[(0, 1)], [2, 4, 5, 6, 7]⟩, ⟨[], [2, 4, 5, 6, 7]⟩, ⟨[(1, 1)], [2, 4, 5, 7]⟩, ⟨[(2, 1)], [2, 4, 5, 7, 36]⟩, ⟨[], [4]⟩, ⟨[], [4, 5, 7]⟩, ⟨[(0, 1), (1, 1)], [4]⟩], heads := [], exits := [], rets := [4], pins := [], spec := [[false, false, true, false]] }
abbrev g92_A : List Sh := [.a (.agg [.bool, (.imm (.int .u32))]), .a (.c (.int .i64))]
abbrev g92_S : Sh := .a (.agg [.bool, .bool, (.nm 0 (.int .u32)), (.int .i64)])
abbrev g92_U : List Sh := [.a (.c .dead), .a (.c .dead)]
def g92_R (m : Nat) : ShLVal g92_A → Option (g92_S.Val × ShLVal g92_U) := fun (x : (Bool × List Int × Unit) × Int × Unit) => g92 m x.1.1 x.1.2.1 x.2.1
def g92_T (m : Nat) : FunT := ⟨92, g92_A, g92_S, g92_U, g92_R m⟩
noncomputable def g92_C : Code := codeOf Tryz.f92
theorem g92_C_ls : loopsL g92_C 0 = [] := by kernel_rfl
theorem g92_kr (m : Nat) (x : ShLVal g92_A) : fnK (mkC (g92_S.Val × ShLVal g92_U) [g120_T m, g91_T m, g128_T m, g90_T m, g129_T m, g121_T m]) (mkLp (g92_S.Val × ShLVal g92_U) []) tt g92_H Tryz.f92 (encS g92_A x) (Kd g92_S g92_U) = g92 m x.1.1 x.1.2.1 x.2.1 := by kernel_rfl
theorem g92_ok (m : Nat) : FunOK Tryz.prog (g92_T m) :=
  fun_ok hmix htt (g92_T m) Tryz.func92 (c := g92_C) (by kernel_rfl) (by kernel_rfl) (Lc := [g120_T m, g91_T m, g128_T m, g90_T m, g129_T m, g121_T m]) (AllF.mem (l := [g120_T m, g91_T m, g128_T m, g90_T m, g129_T m, g121_T m]) ⟨g120_ok m, g91_ok m, g128_ok m, g90_ok m, g129_ok m, g121_ok m, trivial⟩) (L := []) (fun _ hE _ _ => loopsIn_of g92_C_ls trivial) (fun x => (g92_kr m x).trans (by kernel_rfl))
/-! 58 sparse/sparseref02.FromInt -/
def g58_H : Hints := { regs := [⟨[], [0, 2]⟩, ⟨[(0, 1)], [2]⟩], heads := [], exits := [], rets := [2], pins := [], spec := [[false, false, true, false]] }
abbrev g58_A : List Sh := [.a (.c (.int .i64))]
abbrev g58_S : Sh := .a (.agg [.bool, .bool, (.nm 0 (.int .u32)), (.int .i64)])
abbrev g58_U : List Sh := [.a (.c .dead)]
def g58_R (m : Nat) : ShLVal g58_A → Option (g58_S.Val × ShLVal g58_U) := fun (x : Int × Unit) => g58 m x.1
def g58_T (m : Nat) : FunT := ⟨58, g58_A, g58_S, g58_U, g58_R m⟩
noncomputable def g58_C : Code := codeOf Tryz.f58
theorem g58_C_ls : loopsL g58_C 0 = [] := by kernel_rfl
theorem g58_kr (m : Nat) (x : ShLVal g58_A) : fnK (mkC (g58_S.Val × ShLVal g58_U) [g93_T m, g92_T m]) (mkLp (g58_S.Val × ShLVal g58_U) []) tt g58_H Tryz.f58 (encS g58_A x) (Kd g58_S g58_U) = g58 m x.1 := by kernel_rfl
theorem g58_ok (m : Nat) : FunOK Tryz.prog (g58_T m) :=
  fun_ok hmix htt (g58_T m) Tryz.func58 (c := g58_C) (by kernel_rfl) (by kernel_rfl) (Lc := [g93_T m, g92_T m]) (AllF.mem (l := [g93_T m, g92_T m]) ⟨g93_ok m, g92_ok m, trivial⟩) (L := []) (fun _ hE _ _ => loopsIn_of g58_C_ls trivial) (fun x => (g58_kr m x).trans (by kernel_rfl))
/-! 87 sparse/sparseref02.Norm -/
def g87_H : Hints := { regs := [⟨[], [1, 2]⟩, ⟨[], [1, 2, 4]⟩, ⟨[], [2]⟩, ⟨[], [2]⟩], heads := [], exits := [], rets := [2], pins := [], spec := [[false, false, true, false]] }
abbrev g87_A : List Sh := [.a (.agg [.bool, .bool, (.imm (.int .u32)), (.int .i64)])]
abbrev g87_S : Sh := .a (.agg [.bool, .bool, (.nm 0 (.int .u32)), (.int .i64)])
abbrev g87_U : List Sh := [.a (.c .dead)]
def g87_R (m : Nat) : ShLVal g87_A → Option (g87_S.Val × ShLVal g87_U) := fun (x : (Bool × Bool × List Int × Int × Unit) × Unit) => g87 m x.1.1 x.1.2.1 x.1.2.2.1 x.1.2.2.2.1
def g87_T (m : Nat) : FunT := ⟨87, g87_A, g87_S, g87_U, g87_R m⟩
noncomputable def g87_C : Code := codeOf Tryz.f87
theorem g87_C_ls : loopsL g87_C 0 = [] := by kernel_rfl
theorem g87_kr (m : Nat) (x : ShLVal g87_A) : fnK (mkC (g87_S.Val × ShLVal g87_U) [g91_T m, g92_T m]) (mkLp (g87_S.Val × ShLVal g87_U) []) tt g87_H Tryz.f87 (encS g87_A x) (Kd g87_S g87_U) = g87 m x.1.1 x.1.2.1 x.1.2.2.1 x.1.2.2.2.1 := by kernel_rfl
theorem g87_ok (m : Nat) : FunOK Tryz.prog (g87_T m) :=
  fun_ok hmix htt (g87_T m) Tryz.func87 (c := g87_C) (by kernel_rfl) (by kernel_rfl) (Lc := [g91_T m, g92_T m]) (AllF.mem (l := [g91_T m, g92_T m]) ⟨g91_ok m, g92_ok m, trivial⟩) (L := []) (fun _ hE _ _ => loopsIn_of g87_C_ls trivial) (fun x => (g87_kr m x).trans (by kernel_rfl))
/-! 88 sparse/sparseref01.Sign -/
def g88_H : Hints := { regs := [⟨[], [1]⟩, ⟨[], [1]⟩, ⟨[], [1, 5]⟩, ⟨[], [2]⟩, ⟨[], [10]⟩, ⟨[], [2]⟩, ⟨[], [2]⟩], heads := [], exits := [(0, [])], rets := [2], pins := [], spec := [[false]] }
abbrev g88_A : List Sh := [.a (.agg [.bool, (.imm (.int .u32))])]
abbrev g88_S : Sh := .a (.c (.int .i64))
abbrev g88_U : List Sh := [.a (.c .dead)]
def g88_R (m : Nat) : ShLVal g88_A → Option (g88_S.Val × ShLVal g88_U) := fun (x : (Bool × List Int × Unit) × Unit) => g88 m x.1.1 x.1.2.1
def g88_T (m : Nat) : FunT := ⟨88, g88_A, g88_S, g88_U, g88_R m⟩
noncomputable def g88_C : Code := codeOf Tryz.f88
theorem g88_C_ls : loopsL g88_C 0 = [] := by kernel_rfl
theorem g88_kr (m : Nat) (x : ShLVal g88_A) : fnK (mkC (g88_S.Val × ShLVal g88_U) [g120_T m]) (mkLp (g88_S.Val × ShLVal g88_U) []) tt g88_H Tryz.f88 (encS g88_A x) (Kd g88_S g88_U) = g88 m x.1.1 x.1.2.1 := by kernel_rfl
theorem g88_ok (m : Nat) : FunOK Tryz.prog (g88_T m) :=
  fun_ok hmix htt (g88_T m) Tryz.func88 (c := g88_C) (by kernel_rfl) (by kernel_rfl) (Lc := [g120_T m]) (AllF.mem (l := [g120_T m]) ⟨g120_ok m, trivial⟩) (L := []) (fun _ hE _ _ => loopsIn_of g88_C_ls trivial) (fun x => (g88_kr m x).trans (by kernel_rfl))
/-! 57 sparse/sparseref02.Scale -/
def g57_H : Hints := { regs := [⟨[], [1, 2, 4]⟩, ⟨[], [1, 2, 4]⟩, ⟨[(2, 1)], [1, 2, 4, 14]⟩, ⟨[(0, 1)], [4]⟩, ⟨[(2, 1)], [1, 2, 4, 21]⟩, ⟨[], [4]⟩, ⟨[(4, 1)], [4]⟩], heads := [], exits := [], rets := [4], pins := [], spec := [[false, false, true, false]] }
abbrev g57_A : List Sh := [.a (.agg [.bool, .bool, (.imm (.int .u32)), (.int .i64)]), .a (.c (.int .i64))]
abbrev g57_S : Sh := .a (.agg [.bool, .bool, (.nm 0 (.int .u32)), (.int .i64)])
abbrev g57_U : List Sh := [.a (.c .dead), .a (.c .dead)]
def g57_R (m : Nat) : ShLVal g57_A → Option (g57_S.Val × ShLVal g57_U) := fun (x : (Bool × Bool × List Int × Int × Unit) × Int × Unit) => g57 m x.1.1 x.1.2.1 x.1.2.2.1 x.1.2.2.2.1 x.2.1
def g57_T (m : Nat) : FunT := ⟨57, g57_A, g57_S, g57_U, g57_R m⟩
noncomputable def g57_C : Code := codeOf Tryz.f57
theorem g57_C_ls : loopsL g57_C 0 = [] := by kernel_rfl
theorem g57_kr (m : Nat) (x : ShLVal g57_A) : fnK (mkC (g57_S.Val × ShLVal g57_U) [g87_T m, g88_T m, g91_T m, g92_T m]) (mkLp (g57_S.Val × ShLVal g57_U) []) tt g57_H Tryz.f57 (encS g57_A x) (Kd g57_S g57_U) = g57 m x.1.1 x.1.2.1 x.1.2.2.1 x.1.2.2.2.1 x.2.1 := by kernel_rfl
theorem g57_ok (m : Nat) : FunOK Tryz.prog (g57_T m) :=
  fun_ok hmix htt (g57_T m) Tryz.func57 (c := g57_C) (by kernel_rfl) (by kernel_rfl) (Lc := [g87_T m, g88_T m, g91_T m, g92_T m]) (AllF.mem (l := [g87_T m, g88_T m, g91_T m, g92_T m]) ⟨g87_ok m, g88_ok m, g91_ok m, g92_ok m, trivial⟩) (L := []) (fun _ hE _ _ => loopsIn_of g57_C_ls trivial) (fun x => (g57_kr m x).trans (by kernel_rfl))
/-! 126 sparse/sparseref03.signed -/
def g126_H : Hints := { regs := [⟨[], [0, 1]⟩, ⟨[(0, 1)], [1, 5]⟩, ⟨[(0, 1)], [4]⟩, ⟨[(0, 1)], [4]⟩], heads := [], exits := [], rets := [4], pins := [], spec := [[false]] }
abbrev g126_A : List Sh := [.a (.c .bool), .a (.c (.int .u64))]
abbrev g126_S : Sh := .a (.c (.int .u64))
abbrev g126_U : List Sh := [.a (.c .dead), .a (.c .dead)]
def g126_R (m : Nat) : ShLVal g126_A → Option (g126_S.Val × ShLVal g126_U) := fun (x : Bool × Int × Unit) => g126 m x.1 x.2.1
def g126_T (m : Nat) : FunT := ⟨126, g126_A, g126_S, g126_U, g126_R m⟩
noncomputable def g126_C : Code := codeOf Tryz.f126
theorem g126_C_ls : loopsL g126_C 0 = [] := by kernel_rfl
theorem g126_kr (m : Nat) (x : ShLVal g126_A) : fnK (mkC (g126_S.Val × ShLVal g126_U) []) (mkLp (g126_S.Val × ShLVal g126_U) []) tt g126_H Tryz.f126 (encS g126_A x) (Kd g126_S g126_U) = g126 m x.1 x.2.1 := by kernel_rfl
theorem g126_ok (m : Nat) : FunOK Tryz.prog (g126_T m) :=
  fun_ok hmix htt (g126_T m) Tryz.func126 (c := g126_C) (by kernel_rfl) (by kernel_rfl) (Lc := []) (AllF.mem (l := []) trivial) (L := []) (fun _ hE _ _ => loopsIn_of g126_C_ls trivial) (fun x => (g126_kr m x).trans (by kernel_rfl))
/-! 122 sparse/sparseref03.over -/
def g122_H : Hints := { regs := [⟨[], [0, 1]⟩, ⟨[(2, 1), (5, 1), (10, 1), (13, 1)], [0, 21]⟩, ⟨[(0, 1)], [4]⟩, ⟨[(0, 1)], [4]⟩], heads := [], exits := [], rets := [4], pins := [], spec := [[false]] }
abbrev g122_A : List Sh := [.a (.c .bool), .a (.c (.int .i64))]
abbrev g122_S : Sh := .a (.c (.int .u64))
abbrev g122_U : List Sh := [.a (.c .dead), .a (.c .dead)]
def g122_R (m : Nat) : ShLVal g122_A → Option (g122_S.Val × ShLVal g122_U) := fun (x : Bool × Int × Unit) => g122 m x.1 x.2.1
def g122_T (m : Nat) : FunT := ⟨122, g122_A, g122_S, g122_U, g122_R m⟩
noncomputable def g122_C : Code := codeOf Tryz.f122
theorem g122_C_ls : loopsL g122_C 0 = [] := by kernel_rfl
theorem g122_kr (m : Nat) (x : ShLVal g122_A) : fnK (mkC (g122_S.Val × ShLVal g122_U) [g126_T m]) (mkLp (g122_S.Val × ShLVal g122_U) []) tt g122_H Tryz.f122 (encS g122_A x) (Kd g122_S g122_U) = g122 m x.1 x.2.1 := by kernel_rfl
theorem g122_ok (m : Nat) : FunOK Tryz.prog (g122_T m) :=
  fun_ok hmix htt (g122_T m) Tryz.func122 (c := g122_C) (by kernel_rfl) (by kernel_rfl) (Lc := [g126_T m]) (AllF.mem (l := [g126_T m]) ⟨g126_ok m, trivial⟩) (L := []) (fun _ hE _ _ => loopsIn_of g122_C_ls trivial) (fun x => (g122_kr m x).trans (by kernel_rfl))
/-! 141 sparse/sparseref01.Lost -/
def g141_H : Hints := { regs := [⟨[], [1, 2]⟩, ⟨[(3, 1), (5, 1)], [6]⟩, ⟨[(0, 1)], [4]⟩], heads := [], exits := [], rets := [4], pins := [], spec := [[false]] }
abbrev g141_A : List Sh := [.a (.agg [.bool, (.imm (.int .u32))]), .a (.c (.int .i64))]
abbrev g141_S : Sh := .a (.c .bool)
abbrev g141_U : List Sh := [.a (.c .dead), .a (.c .dead)]
def g141_R (m : Nat) : ShLVal g141_A → Option (g141_S.Val × ShLVal g141_U) := fun (x : (Bool × List Int × Unit) × Int × Unit) => g141 m x.1.1 x.1.2.1 x.2.1
def g141_T (m : Nat) : FunT := ⟨141, g141_A, g141_S, g141_U, g141_R m⟩
noncomputable def g141_C : Code := codeOf Tryz.f141
theorem g141_C_ls : loopsL g141_C 0 = [] := by kernel_rfl
theorem g141_kr (m : Nat) (x : ShLVal g141_A) : fnK (mkC (g141_S.Val × ShLVal g141_U) [g139_T m, g145_T m]) (mkLp (g141_S.Val × ShLVal g141_U) []) tt g141_H Tryz.f141 (encS g141_A x) (Kd g141_S g141_U) = g141 m x.1.1 x.1.2.1 x.2.1 := by kernel_rfl
theorem g141_ok (m : Nat) : FunOK Tryz.prog (g141_T m) :=
  fun_ok hmix htt (g141_T m) Tryz.func141 (c := g141_C) (by kernel_rfl) (by kernel_rfl) (Lc := [g139_T m, g145_T m]) (AllF.mem (l := [g139_T m, g145_T m]) ⟨g139_ok m, g145_ok m, trivial⟩) (L := []) (fun _ hE _ _ => loopsIn_of g141_C_ls trivial) (fun x => (g141_kr m x).trans (by kernel_rfl))
/-! 142 sparse/sparseref02.Up -/
def g142_H : Hints := { regs := [⟨[], [0, 1, 2, 3]⟩, ⟨[(0, 1)], [0, 1, 2, 9]⟩, ⟨[], [0, 1, 2, 9, 10]⟩, ⟨[(0, 1)], [8]⟩, ⟨[], [0, 1, 2, 9, 13]⟩, ⟨[(0, 1)], [8]⟩, ⟨[], [1, 2, 17]⟩, ⟨[], [8]⟩, ⟨[(2, 1), (5, 1), (6, 1)], [8]⟩], heads := [], exits := [(0, [1, 2])], rets := [8], pins := [], spec := [[false]] }
abbrev g142_A : List Sh := [.a (.c .bool), .a (.c (.int .i64)), .a (.c .bool), .a (.c (.int .i64))]
abbrev g142_S : Sh := .a (.c .bool)
abbrev g142_U : List Sh := [.a (.c .dead), .a (.c .dead), .a (.c .dead), .a (.c .dead)]
def g142_R (m : Nat) : ShLVal g142_A → Option (g142_S.Val × ShLVal g142_U) := fun (x : Bool × Int × Bool × Int × Unit) => g142 m x.1 x.2.1 x.2.2.1 x.2.2.2.1
def g142_T (m : Nat) : FunT := ⟨142, g142_A, g142_S, g142_U, g142_R m⟩
noncomputable def g142_C : Code := codeOf Tryz.f142
theorem g142_C_ls : loopsL g142_C 0 = [] := by kernel_rfl
theorem g142_kr (m : Nat) (x : ShLVal g142_A) : fnK (mkC (g142_S.Val × ShLVal g142_U) []) (mkLp (g142_S.Val × ShLVal g142_U) []) tt g142_H Tryz.f142 (encS g142_A x) (Kd g142_S g142_U) = g142 m x.1 x.2.1 x.2.2.1 x.2.2.2.1 := by kernel_rfl
theorem g142_ok (m : Nat) : FunOK Tryz.prog (g142_T m) :=
  fun_ok hmix htt (g142_T m) Tryz.func142 (c := g142_C) (by kernel_rfl) (by kernel_rfl) (Lc := []) (AllF.mem (l := []) trivial) (L := []) (fun _ hE _ _ => loopsIn_of g142_C_ls trivial) (fun x => (g142_kr m x).trans (by kernel_rfl))
/-! 123 sparse/sparseref02.Cut -/
def g123_H : Hints := { regs := [⟨[], [0, 2, 3, 4, 6, 10]⟩, ⟨[], [0, 2, 3, 4, 6, 10, 11]⟩, ⟨[], [0, 2, 3, 4, 6, 10, 11, 12]⟩, ⟨[(0, 1), (2, 1)], [0, 2, 3, 4, 6, 10, 11, 27]⟩, ⟨[(0, 1)], [10]⟩, ⟨[], [0, 2, 3, 4, 6, 10, 11, 13]⟩, ⟨[], [0, 2, 3, 4, 6, 10, 11, 13, 30]⟩, ⟨[], [0, 2, 3, 4, 6, 10, 11, 13, 14]⟩, ⟨[(3, 1)], [0, 2, 3, 4, 6, 10, 11, 13, 42]⟩, ⟨[], [0, 2, 3, 4, 6, 10, 11, 13]⟩, ⟨[(0, 1), (1, 1), (3, 1)], [0, 4, 10, 11, 13, 49]⟩, ⟨[], [0, 4, 10, 11, 13]⟩, ⟨[(3, 1)], [0, 4, 10, 11, 13, 15]⟩, ⟨[(0, 1), (1, 1), (2, 1), (3, 1)], [10, 11, 62]⟩, ⟨[], [10, 11]⟩, ⟨[(0, 1)], [10]⟩], heads := [], exits := [], rets := [10], pins := [], spec := [[false, true]] }
abbrev g123_A : List Sh := [.a (.c .bool), .a (.agg [.bool, (.imm (.int .u32))]), .a (.c (.int .i64)), .a (.c .bool), .a (.c (.int .i64))]
abbrev g123_S : Sh := .a (.agg [.bool, (.nm 0 (.int .u32))])
abbrev g123_U : List Sh := [.a (.c .dead), .a (.c .dead), .a (.c .dead), .a (.c .dead), .a (.c .dead)]
def g123_R (m : Nat) : ShLVal g123_A → Option (g123_S.Val × ShLVal g123_U) := fun (x : Bool × (Bool × List Int × Unit) × Int × Bool × Int × Unit) => g123 m x.1 x.2.1.1 x.2.1.2.1 x.2.2.1 x.2.2.2.1 x.2.2.2.2.1
def g123_T (m : Nat) : FunT := ⟨123, g123_A, g123_S, g123_U, g123_R m⟩
noncomputable def g123_C : Code := codeOf Tryz.f123
theorem g123_C_ls : loopsL g123_C 0 = [] := by kernel_rfl
theorem g123_kr (m : Nat) (x : ShLVal g123_A) : fnK (mkC (g123_S.Val × ShLVal g123_U) [g129_T m, g141_T m, g128_T m, g88_T m, g142_T m, g93_T m, g143_T m]) (mkLp (g123_S.Val × ShLVal g123_U) []) tt g123_H Tryz.f123 (encS g123_A x) (Kd g123_S g123_U) = g123 m x.1 x.2.1.1 x.2.1.2.1 x.2.2.1 x.2.2.2.1 x.2.2.2.2.1 := by kernel_rfl
theorem g123_ok (m : Nat) : FunOK Tryz.prog (g123_T m) :=
  fun_ok hmix htt (g123_T m) Tryz.func123 (c := g123_C) (by kernel_rfl) (by kernel_rfl) (Lc := [g129_T m, g141_T m, g128_T m, g88_T m, g142_T m, g93_T m, g143_T m]) (AllF.mem (l := [g129_T m, g141_T m, g128_T m, g88_T m, g142_T m, g93_T m, g143_T m]) ⟨g129_ok m, g141_ok m, g128_ok m, g88_ok m, g142_ok m, g93_ok m, g143_ok m, trivial⟩) (L := []) (fun _ hE _ _ => loopsIn_of g123_C_ls trivial) (fun x => (g123_kr m x).trans (by kernel_rfl))
/-! 125 sparse/sparseref01.Int -/
def g125_H : Hints := { regs := [⟨[], [1]⟩, ⟨[], [1]⟩, ⟨[], [1, 11]⟩, ⟨[], [2, 3]⟩, ⟨[], [1, 4]⟩, ⟨[], [1, 4, 5]⟩, ⟨[], [1, 4, 5, 16]⟩, ⟨[(0, 1)], [1, 4, 5]⟩, ⟨[(0, 1)], [1, 4, 5]⟩, ⟨[], [4, 31]⟩, ⟨[], [4, 33]⟩, ⟨[], [2, 3]⟩, ⟨[(0, 1)], [2, 3]⟩, ⟨[], [4, 40]⟩, ⟨[], [2, 3]⟩, ⟨[(0, 1)], [2, 3]⟩], heads := [(0, [1, 4, 5])], exits := [(0, [1, 4]), (1, [1, 4, 5])], rets := [2, 3], pins := [], spec := [[false], [false]] }
abbrev g125_A : List Sh := [.a (.agg [.bool, (.imm (.int .u32))])]
abbrev g125_S : Sh := .tup [(.c (.int .i64)), (.c .bool)]
abbrev g125_U : List Sh := [.a (.c .dead)]
def g125_R (m : Nat) : ShLVal g125_A → Option (g125_S.Val × ShLVal g125_U) := fun (x : (Bool × List Int × Unit) × Unit) => g125 m x.1.1 x.1.2.1
def g125_T (m : Nat) : FunT := ⟨125, g125_A, g125_S, g125_U, g125_R m⟩
noncomputable def g125_C : Code := codeOf Tryz.f125
noncomputable def g125_B0 : Code := loopAt g125_C 0 0
theorem g125_B0_ls : loopsL g125_B0 0 = [] := by kernel_rfl
theorem g125_C_ls : loopsL g125_C 0 = [(0, g125_B0)] := by kernel_rfl
abbrev g125_L0_I : SS := [(1, .a (.bx 0 [.bool, (.nm 1 (.int .u32))])), (4, .a (.c (.int .u64))), (5, .a (.c (.int .i64)))]
abbrev g125_L0_O : List (Ex × SS) := [(.exit 0, [(1, .a (.bx 0 [.bool, (.nm 1 (.int .u32))])), (4, .a (.c (.int .u64)))])]
def g125_L0_R (m n : Nat) : g125_L0_I.Val → Option (outVal g125_L0_O) := (fun (x : (Bool × List Int × Unit) × Int × Int × Unit) => g125_L0 m n x.1.1 x.1.2.1 x.2.1 x.2.2.1)
def g125_L0_T (m n : Nat) : LoopT := ⟨0, g125_L0_I, g125_L0_O, g125_L0_R m n⟩
theorem g125_L0_kr (m n : Nat) (x : g125_L0_I.Val) : roundK (mkC (outVal g125_L0_O) [g120_T m]) (mkLp (outVal g125_L0_O) []) tt 43 g125_H g125_B0 0 (g125_L0_I.enc x) (Kl (ins := g125_L0_I) (outs := g125_L0_O) (g125_L0_R m n)) = g125_L0 m (n + 1) x.1.1 x.1.2.1 x.2.1 x.2.2.1 := by kernel_rfl
theorem g125_L0_ok {E : Entry} (hE : EOf Tryz.prog E 43 g125_H.pins) (m : Nat) (n : Nat) : LoopOK Tryz.prog E g125_B0 (g125_L0_T m n) :=
  loop_ok (CO := CallOK Tryz.prog) hmix htt (fun _ _ _ _ h => h) hE (C := fun R => mkC R [g120_T m]) (L := []) (fun _ _ _ _ _ h => mkC_spec (AllF.mem (l := [g120_T m]) ⟨g120_ok m, trivial⟩) h) (fun _ _ => loopsIn_of g125_B0_ls trivial) (fun n => (g125_L0_R m n)) (fun _ => by kernel_rfl) (fun n x => (g125_L0_kr m n x).trans (by kernel_rfl)) n
theorem g125_kr (m : Nat) (x : ShLVal g125_A) : fnK (mkC (g125_S.Val × ShLVal g125_U) [g120_T m]) (mkLp (g125_S.Val × ShLVal g125_U) [g125_L0_T m m]) tt g125_H Tryz.f125 (encS g125_A x) (Kd g125_S g125_U) = g125 m x.1.1 x.1.2.1 := by kernel_rfl
theorem g125_ok (m : Nat) : FunOK Tryz.prog (g125_T m) :=
  fun_ok hmix htt (g125_T m) Tryz.func125 (c := g125_C) (by kernel_rfl) (by kernel_rfl) (Lc := [g120_T m]) (AllF.mem (l := [g120_T m]) ⟨g120_ok m, trivial⟩) (L := [g125_L0_T m m]) (fun _ hE _ _ => loopsIn_of g125_C_ls ⟨mkLp_all ⟨fun _ => g125_L0_ok hE m m, trivial⟩, trivial⟩) (fun x => (g125_kr m x).trans (by kernel_rfl))
/-! 89 sparse/sparseref03.rounded -/
def g89_H : Hints := { regs := [⟨[], [0, 2, 3, 4, 6]⟩, ⟨[], [0, 2, 3, 4, 6, 11]⟩, ⟨[], [0, 2, 3, 4, 6, 11, 22]⟩, ⟨[(0, 1), (1, 1)], [10]⟩, ⟨[(0, 1)], [0, 2, 3, 4, 6, 12]⟩, ⟨[], [0, 2, 3, 4, 6, 12, 13]⟩, ⟨[], [0, 2, 3, 4, 6, 12, 13, 31]⟩, ⟨[(3, 1), (5, 1)], [0, 4, 12, 13]⟩, ⟨[(1, 1)], [0, 4, 12, 13]⟩, ⟨[(2, 1)], [0, 4, 12, 14]⟩, ⟨[], [0, 4, 12, 14, 51]⟩, ⟨[], [0, 4, 12, 14]⟩, ⟨[(0, 1)], [0, 4, 12, 14]⟩, ⟨[(2, 1)], [0, 4, 12, 14, 54]⟩, ⟨[(0, 1), (1, 1)], [10]⟩, ⟨[], [0, 12, 14, 65]⟩, ⟨[(0, 1), (1, 1), (5, 1)], [10]⟩, ⟨[(0, 1), (1, 1)], [10]⟩], heads := [], exits := [(0, [0, 14])], rets := [10], pins := [], spec := [[false]] }
abbrev g89_A : List Sh := [.a (.c .bool), .a (.agg [.bool, (.imm (.int .u32))]), .a (.c (.int .i64)), .a (.c .bool), .a (.c (.int .i64))]
abbrev g89_S : Sh := .a (.c (.int .u64))
abbrev g89_U : List Sh := [.a (.c .dead), .a (.c .dead), .a (.c .dead), .a (.c .dead), .a (.c .dead)]
def g89_R (m : Nat) : ShLVal g89_A → Option (g89_S.Val × ShLVal g89_U) := fun (x : Bool × (Bool × List Int × Unit) × Int × Bool × Int × Unit) => g89 m x.1 x.2.1.1 x.2.1.2.1 x.2.2.1 x.2.2.2.1 x.2.2.2.2.1
def g89_T (m : Nat) : FunT := ⟨89, g89_A, g89_S, g89_U, g89_R m⟩
noncomputable def g89_C : Code := codeOf Tryz.f89
theorem g89_C_ls : loopsL g89_C 0 = [] := by kernel_rfl
theorem g89_kr (m : Nat) (x : ShLVal g89_A) : fnK (mkC (g89_S.Val × ShLVal g89_U) [g121_T m, g122_T m, g123_T m, g125_T m, g126_T m, g124_T m]) (mkLp (g89_S.Val × ShLVal g89_U) []) tt g89_H Tryz.f89 (encS g89_A x) (Kd g89_S g89_U) = g89 m x.1 x.2.1.1 x.2.1.2.1 x.2.2.1 x.2.2.2.1 x.2.2.2.2.1 := by kernel_rfl
theorem g89_ok (m : Nat) : FunOK Tryz.prog (g89_T m) :=
  fun_ok hmix htt (g89_T m) Tryz.func89 (c := g89_C) (by kernel_rfl) (by kernel_rfl) (Lc := [g121_T m, g122_T m, g123_T m, g125_T m, g126_T m, g124_T m]) (AllF.mem (l := [g121_T m, g122_T m, g123_T m, g125_T m, g126_T m, g124_T m]) ⟨g121_ok m, g122_ok m, g123_ok m, g125_ok m, g126_ok m, g124_ok m, trivial⟩) (L := []) (fun _ hE _ _ => loopsIn_of g89_C_ls trivial) (fun x => (g89_kr m x).trans (by kernel_rfl))
/-! 56 sparse/sparseref03.Round -/
def g56_H : Hints := { regs := [⟨[], [1, 2]⟩, ⟨[], [1, 2]⟩, ⟨[], [1, 2, 8]⟩, ⟨[], [4]⟩, ⟨[], [1, 2, 12]⟩, ⟨[], [4]⟩, ⟨[(8, 1)], [4]⟩], heads := [], exits := [], rets := [4], pins := [], spec := [[false]] }
abbrev g56_A : List Sh := [.a (.agg [.bool, .bool, (.imm (.int .u32)), (.int .i64)]), .a (.c (.int .i64))]
abbrev g56_S : Sh := .a (.c (.int .u64))
abbrev g56_U : List Sh := [.a (.c .dead), .a (.c .dead)]
def g56_R (m : Nat) : ShLVal g56_A → Option (g56_S.Val × ShLVal g56_U) := fun (x : (Bool × Bool × List Int × Int × Unit) × Int × Unit) => g56 m x.1.1 x.1.2.1 x.1.2.2.1 x.1.2.2.2.1 x.2.1
def g56_T (m : Nat) : FunT := ⟨56, g56_A, g56_S, g56_U, g56_R m⟩
noncomputable def g56_C : Code := codeOf Tryz.f56
theorem g56_C_ls : loopsL g56_C 0 = [] := by kernel_rfl
theorem g56_kr (m : Nat) (x : ShLVal g56_A) : fnK (mkC (g56_S.Val × ShLVal g56_U) [g87_T m, g88_T m, g90_T m, g89_T m]) (mkLp (g56_S.Val × ShLVal g56_U) []) tt g56_H Tryz.f56 (encS g56_A x) (Kd g56_S g56_U) = g56 m x.1.1 x.1.2.1 x.1.2.2.1 x.1.2.2.2.1 x.2.1 := by kernel_rfl
theorem g56_ok (m : Nat) : FunOK Tryz.prog (g56_T m) :=
  fun_ok hmix htt (g56_T m) Tryz.func56 (c := g56_C) (by kernel_rfl) (by kernel_rfl) (Lc := [g87_T m, g88_T m, g90_T m, g89_T m]) (AllF.mem (l := [g87_T m, g88_T m, g90_T m, g89_T m]) ⟨g87_ok m, g88_ok m, g90_ok m, g89_ok m, trivial⟩) (L := []) (fun _ hE _ _ => loopsIn_of g56_C_ls trivial) (fun x => (g56_kr m x).trans (by kernel_rfl))
/-! 29 sparse/sparsemake.Value -/
def g29_H : Hints := { regs := [⟨[], [0]⟩, ⟨[], [0, 3]⟩, ⟨[], [0, 3, 4]⟩, ⟨[(0, 1)], [3, 4, 5]⟩, ⟨[], [3, 4, 5, 15]⟩, ⟨[(0, 1)], [3, 4]⟩, ⟨[(0, 1), (2, 1)], [2]⟩], heads := [], exits := [], rets := [2], pins := [], spec := [[false]] }
abbrev g29_A : List Sh := [.a (.c (.int .i64))]
abbrev g29_S : Sh := .a (.c (.int .u64))
abbrev g29_U : List Sh := [.a (.c .dead)]
def g29_R (m : Nat) : ShLVal g29_A → Option (g29_S.Val × ShLVal g29_U) := fun (x : Int × Unit) => g29 m x.1
def g29_T (m : Nat) : FunT := ⟨29, g29_A, g29_S, g29_U, g29_R m⟩
noncomputable def g29_C : Code := codeOf Tryz.f29
theorem g29_C_ls : loopsL g29_C 0 = [] := by kernel_rfl
theorem g29_kr (m : Nat) (x : ShLVal g29_A) : fnK (mkC (g29_S.Val × ShLVal g29_U) [g7_T m, g58_T m, g57_T m, g56_T m]) (mkLp (g29_S.Val × ShLVal g29_U) []) tt g29_H Tryz.f29 (encS g29_A x) (Kd g29_S g29_U) = g29 m x.1 := by kernel_rfl
theorem g29_ok (m : Nat) : FunOK Tryz.prog (g29_T m) :=
  fun_ok hmix htt (g29_T m) Tryz.func29 (c := g29_C) (by kernel_rfl) (by kernel_rfl) (Lc := [g7_T m, g58_T m, g57_T m, g56_T m]) (AllF.mem (l := [g7_T m, g58_T m, g57_T m, g56_T m]) ⟨g7_ok m, g58_ok m, g57_ok m, g56_ok m, trivial⟩) (L := []) (fun _ hE _ _ => loopsIn_of g29_C_ls trivial) (fun x => (g29_kr m x).trans (by kernel_rfl))
/-! 30 sparse/sparseref09.Pack -/
def g30_H : Hints := { regs := [⟨[], [0, 1, 2, 6]⟩, ⟨[], [0, 1, 2, 6, 7]⟩, ⟨[], [0, 1, 2, 6, 7, 8]⟩, ⟨[], [0, 1, 2, 6, 7, 8, 9]⟩, ⟨[], [0, 1, 2, 6, 7, 8, 9, 24]⟩, ⟨[(0, 1)], [0, 1, 2, 6, 7, 8, 9]⟩, ⟨[], [0, 1, 2, 6, 7, 8, 9]⟩, ⟨[], [0, 1, 2, 6, 7, 8, 10]⟩, ⟨[], [0, 1, 2, 6, 7, 8, 10, 46]⟩, ⟨[(0, 1)], [0, 1, 2, 6, 7, 8, 10]⟩, ⟨[], [0, 1, 2, 6, 7, 8, 10, 11]⟩, ⟨[], [0, 1, 2, 6, 7, 8, 10, 11, 51]⟩, ⟨[(0, 1)], [0, 1, 2, 6, 7, 8, 10, 11]⟩, ⟨[], [0, 1, 2, 6, 7, 8, 10, 11, 12]⟩, ⟨[], [0, 1, 2, 6, 7, 8, 10, 11, 12, 63]⟩, ⟨[(1, 1)], [0, 1, 2, 6, 7, 8, 10, 11, 12]⟩, ⟨[(3, 1), (9, 3)], [0, 1, 2, 6, 7, 8, 10, 11]⟩, ⟨[(1, 1)], [0, 1, 2, 6, 7, 8, 10]⟩, ⟨[(0, 1)], [6]⟩], heads := [(0, [0, 1, 2, 6, 7, 8, 9]), (2, [0, 1, 2, 6, 7, 8, 10]), (4, [0, 1, 2, 6, 7, 8, 10, 11])], exits := [(0, [0, 1, 2, 6, 7, 8]), (1, [0, 1, 2, 6, 7, 8, 9]), (2, [6, 7]), (3, [0, 1, 2, 6, 7, 8, 10]), (4, [0, 1, 2, 6, 7, 8, 10]), (5, [0, 1, 2, 6, 7, 8, 10, 11])], rets := [6], pins := [], spec := [[false, false, true, true, true]] }
abbrev g30_A : List Sh := [.a (.c (.int .i64)), .a (.c (.int .i64)), .a (.c (.imm (.pr (.int .i64) (.pr (.int .i64) (.int .u64)))))]
abbrev g30_S : Sh := .a (.agg [(.int .i64), (.int .i64), (.nm 0 (.int .i64)), (.nm 1 (.int .i64)), (.nm 2 (.int .u64))])
abbrev g30_U : List Sh := [.a (.c .dead), .a (.c .dead), .a (.c .dead)]
def g30_R (m : Nat) : ShLVal g30_A → Option (g30_S.Val × ShLVal g30_U) := fun (x : Int × Int × (List (Int × Int × Int)) × Unit) => g30 m x.1 x.2.1 x.2.2.1
def g30_T (m : Nat) : FunT := ⟨30, g30_A, g30_S, g30_U, g30_R m⟩
noncomputable def g30_C : Code := codeOf Tryz.f30
noncomputable def g30_B0 : Code := loopAt g30_C 0 0
theorem g30_B0_ls : loopsL g30_B0 0 = [] := by kernel_rfl
noncomputable def g30_B2 : Code := loopAt g30_C 0 1
noncomputable def g30_B4 : Code := loopAt g30_B2 2 0
theorem g30_B4_ls : loopsL g30_B4 4 = [] := by kernel_rfl
theorem g30_B2_ls : loopsL g30_B2 2 = [(4, g30_B4)] := by kernel_rfl
theorem g30_C_ls : loopsL g30_C 0 = [(0, g30_B0), (2, g30_B2)] := by kernel_rfl
abbrev g30_L2_I : SS := [(0, .a (.c (.int .i64))), (1, .a (.c (.int .i64))), (2, .a (.c (.imm (.pr (.int .i64) (.pr (.int .i64) (.int .u64)))))), (6, .a (.bx 0 [(.int .i64), (.int .i64), (.nm 1 (.int .i64)), (.nm 2 (.int .i64)), (.nm 3 (.int .u64))])), (7, .a (.bx 4 [(.int .i64), (.int .i64), (.nm 5 (.int .i64)), (.nm 6 (.int .i64)), (.nm 7 (.int .u64))])), (8, .a (.c (.nm 8 (.int .i64)))), (10, .a (.c (.int .i64))), (11, .a (.c (.int .i64)))]
abbrev g30_L2_O : List (Ex × SS) := [(.exit 4, [(0, .a (.c (.int .i64))), (1, .a (.c (.int .i64))), (2, .a (.c (.imm (.pr (.int .i64) (.pr (.int .i64) (.int .u64)))))), (6, .a (.bx 0 [(.int .i64), (.int .i64), (.nm 1 (.int .i64)), (.nm 2 (.int .i64)), (.nm 3 (.int .u64))])), (7, .a (.bx 4 [(.int .i64), (.int .i64), (.nm 5 (.int .i64)), (.nm 6 (.int .i64)), (.nm 7 (.int .u64))])), (8, .a (.c (.nm 8 (.int .i64)))), (10, .a (.c (.int .i64)))])]
def g30_L2_R (m n : Nat) : g30_L2_I.Val → Option (outVal g30_L2_O) := (fun (x : Int × Int × (List (Int × Int × Int)) × (Int × Int × List Int × List Int × List Int × Unit) × (Int × Int × List Int × List Int × List Int × Unit) × List Int × Int × Int × Unit) => g30_L2 m n x.1 x.2.1 x.2.2.1 x.2.2.2.1.1 x.2.2.2.1.2.1 x.2.2.2.1.2.2.1 x.2.2.2.1.2.2.2.1 x.2.2.2.1.2.2.2.2.1 x.2.2.2.2.1.1 x.2.2.2.2.1.2.1 x.2.2.2.2.1.2.2.1 x.2.2.2.2.1.2.2.2.1 x.2.2.2.2.1.2.2.2.2.1 x.2.2.2.2.2.1 x.2.2.2.2.2.2.1 x.2.2.2.2.2.2.2.1)
def g30_L2_T (m n : Nat) : LoopT := ⟨4, g30_L2_I, g30_L2_O, g30_L2_R m n⟩
theorem g30_L2_kr (m n : Nat) (x : g30_L2_I.Val) : roundK (mkC (outVal g30_L2_O) []) (mkLp (outVal g30_L2_O) []) tt 90 g30_H g30_B4 4 (g30_L2_I.enc x) (Kl (ins := g30_L2_I) (outs := g30_L2_O) (g30_L2_R m n)) = g30_L2 m (n + 1) x.1 x.2.1 x.2.2.1 x.2.2.2.1.1 x.2.2.2.1.2.1 x.2.2.2.1.2.2.1 x.2.2.2.1.2.2.2.1 x.2.2.2.1.2.2.2.2.1 x.2.2.2.2.1.1 x.2.2.2.2.1.2.1 x.2.2.2.2.1.2.2.1 x.2.2.2.2.1.2.2.2.1 x.2.2.2.2.1.2.2.2.2.1 x.2.2.2.2.2.1 x.2.2.2.2.2.2.1 x.2.2.2.2.2.2.2.1 := by kernel_rfl
theorem g30_L2_ok {E : Entry} (hE : EOf Tryz.prog E 90 g30_H.pins) (m : Nat) (n : Nat) : LoopOK Tryz.prog E g30_B4 (g30_L2_T m n) :=
  loop_ok (CO := CallOK Tryz.prog) hmix htt (fun _ _ _ _ h => h) hE (C := fun R => mkC R []) (L := []) (fun _ _ _ _ _ h => mkC_spec (AllF.mem (l := []) trivial) h) (fun _ _ => loopsIn_of g30_B4_ls trivial) (fun n => (g30_L2_R m n)) (fun _ => by kernel_rfl) (fun n x => (g30_L2_kr m n x).trans (by kernel_rfl)) n
abbrev g30_L1_I : SS := [(0, .a (.c (.int .i64))), (1, .a (.c (.int .i64))), (2, .a (.c (.imm (.pr (.int .i64) (.pr (.int .i64) (.int .u64)))))), (6, .a (.bx 0 [(.int .i64), (.int .i64), (.nm 1 (.int .i64)), (.nm 2 (.int .i64)), (.nm 3 (.int .u64))])), (7, .a (.bx 4 [(.int .i64), (.int .i64), (.nm 5 (.int .i64)), (.nm 6 (.int .i64)), (.nm 7 (.int .u64))])), (8, .a (.c (.nm 8 (.int .i64)))), (10, .a (.c (.int .i64)))]
abbrev g30_L1_O : List (Ex × SS) := [(.exit 2, [(6, .a (.bx 0 [(.int .i64), (.int .i64), (.nm 1 (.int .i64)), (.nm 2 (.int .i64)), (.nm 3 (.int .u64))])), (7, .a (.bx 4 [(.int .i64), (.int .i64), (.nm 5 (.int .i64)), (.nm 6 (.int .i64)), (.nm 7 (.int .u64))]))])]
def g30_L1_R (m n : Nat) : g30_L1_I.Val → Option (outVal g30_L1_O) := (fun (x : Int × Int × (List (Int × Int × Int)) × (Int × Int × List Int × List Int × List Int × Unit) × (Int × Int × List Int × List Int × List Int × Unit) × List Int × Int × Unit) => g30_L1 m n x.1 x.2.1 x.2.2.1 x.2.2.2.1.1 x.2.2.2.1.2.1 x.2.2.2.1.2.2.1 x.2.2.2.1.2.2.2.1 x.2.2.2.1.2.2.2.2.1 x.2.2.2.2.1.1 x.2.2.2.2.1.2.1 x.2.2.2.2.1.2.2.1 x.2.2.2.2.1.2.2.2.1 x.2.2.2.2.1.2.2.2.2.1 x.2.2.2.2.2.1 x.2.2.2.2.2.2.1)
def g30_L1_T (m n : Nat) : LoopT := ⟨2, g30_L1_I, g30_L1_O, g30_L1_R m n⟩
theorem g30_L1_kr (m n : Nat) (x : g30_L1_I.Val) : roundK (mkC (outVal g30_L1_O) []) (mkLp (outVal g30_L1_O) [g30_L2_T m m]) tt 90 g30_H g30_B2 2 (g30_L1_I.enc x) (Kl (ins := g30_L1_I) (outs := g30_L1_O) (g30_L1_R m n)) = g30_L1 m (n + 1) x.1 x.2.1 x.2.2.1 x.2.2.2.1.1 x.2.2.2.1.2.1 x.2.2.2.1.2.2.1 x.2.2.2.1.2.2.2.1 x.2.2.2.1.2.2.2.2.1 x.2.2.2.2.1.1 x.2.2.2.2.1.2.1 x.2.2.2.2.1.2.2.1 x.2.2.2.2.1.2.2.2.1 x.2.2.2.2.1.2.2.2.2.1 x.2.2.2.2.2.1 x.2.2.2.2.2.2.1 := by kernel_rfl
theorem g30_L1_ok {E : Entry} (hE : EOf Tryz.prog E 90 g30_H.pins) (m : Nat) (n : Nat) : LoopOK Tryz.prog E g30_B2 (g30_L1_T m n) :=
  loop_ok (CO := CallOK Tryz.prog) hmix htt (fun _ _ _ _ h => h) hE (C := fun R => mkC R []) (L := [g30_L2_T m m]) (fun _ _ _ _ _ h => mkC_spec (AllF.mem (l := []) trivial) h) (fun _ _ => loopsIn_of g30_B2_ls ⟨mkLp_all ⟨fun _ => g30_L2_ok hE m m, trivial⟩, trivial⟩) (fun n => (g30_L1_R m n)) (fun _ => by kernel_rfl) (fun n x => (g30_L1_kr m n x).trans (by kernel_rfl)) n
abbrev g30_L0_I : SS := [(0, .a (.c (.int .i64))), (1, .a (.c (.int .i64))), (2, .a (.c (.imm (.pr (.int .i64) (.pr (.int .i64) (.int .u64)))))), (6, .a (.bx 0 [(.int .i64), (.int .i64), (.nm 1 (.int .i64)), (.nm 2 (.int .i64)), (.nm 3 (.int .u64))])), (7, .a (.bx 4 [(.int .i64), (.int .i64), (.nm 5 (.int .i64)), (.nm 6 (.int .i64)), (.nm 7 (.int .u64))])), (8, .a (.c (.nm 8 (.int .i64)))), (9, .a (.c (.int .i64)))]
abbrev g30_L0_O : List (Ex × SS) := [(.exit 0, [(0, .a (.c (.int .i64))), (1, .a (.c (.int .i64))), (2, .a (.c (.imm (.pr (.int .i64) (.pr (.int .i64) (.int .u64)))))), (6, .a (.bx 0 [(.int .i64), (.int .i64), (.nm 1 (.int .i64)), (.nm 2 (.int .i64)), (.nm 3 (.int .u64))])), (7, .a (.bx 4 [(.int .i64), (.int .i64), (.nm 5 (.int .i64)), (.nm 6 (.int .i64)), (.nm 7 (.int .u64))])), (8, .a (.c (.nm 8 (.int .i64))))])]
def g30_L0_R (m n : Nat) : g30_L0_I.Val → Option (outVal g30_L0_O) := (fun (x : Int × Int × (List (Int × Int × Int)) × (Int × Int × List Int × List Int × List Int × Unit) × (Int × Int × List Int × List Int × List Int × Unit) × List Int × Int × Unit) => g30_L0 m n x.1 x.2.1 x.2.2.1 x.2.2.2.1.1 x.2.2.2.1.2.1 x.2.2.2.1.2.2.1 x.2.2.2.1.2.2.2.1 x.2.2.2.1.2.2.2.2.1 x.2.2.2.2.1.1 x.2.2.2.2.1.2.1 x.2.2.2.2.1.2.2.1 x.2.2.2.2.1.2.2.2.1 x.2.2.2.2.1.2.2.2.2.1 x.2.2.2.2.2.1 x.2.2.2.2.2.2.1)
def g30_L0_T (m n : Nat) : LoopT := ⟨0, g30_L0_I, g30_L0_O, g30_L0_R m n⟩
theorem g30_L0_kr (m n : Nat) (x : g30_L0_I.Val) : roundK (mkC (outVal g30_L0_O) []) (mkLp (outVal g30_L0_O) []) tt 90 g30_H g30_B0 0 (g30_L0_I.enc x) (Kl (ins := g30_L0_I) (outs := g30_L0_O) (g30_L0_R m n)) = g30_L0 m (n + 1) x.1 x.2.1 x.2.2.1 x.2.2.2.1.1 x.2.2.2.1.2.1 x.2.2.2.1.2.2.1 x.2.2.2.1.2.2.2.1 x.2.2.2.1.2.2.2.2.1 x.2.2.2.2.1.1 x.2.2.2.2.1.2.1 x.2.2.2.2.1.2.2.1 x.2.2.2.2.1.2.2.2.1 x.2.2.2.2.1.2.2.2.2.1 x.2.2.2.2.2.1 x.2.2.2.2.2.2.1 := by kernel_rfl
theorem g30_L0_ok {E : Entry} (hE : EOf Tryz.prog E 90 g30_H.pins) (m : Nat) (n : Nat) : LoopOK Tryz.prog E g30_B0 (g30_L0_T m n) :=
  loop_ok (CO := CallOK Tryz.prog) hmix htt (fun _ _ _ _ h => h) hE (C := fun R => mkC R []) (L := []) (fun _ _ _ _ _ h => mkC_spec (AllF.mem (l := []) trivial) h) (fun _ _ => loopsIn_of g30_B0_ls trivial) (fun n => (g30_L0_R m n)) (fun _ => by kernel_rfl) (fun n x => (g30_L0_kr m n x).trans (by kernel_rfl)) n
theorem g30_kr (m : Nat) (x : ShLVal g30_A) : fnK (mkC (g30_S.Val × ShLVal g30_U) []) (mkLp (g30_S.Val × ShLVal g30_U) [g30_L0_T m m, g30_L1_T m m]) tt g30_H Tryz.f30 (encS g30_A x) (Kd g30_S g30_U) = g30 m x.1 x.2.1 x.2.2.1 := by kernel_rfl
theorem g30_ok (m : Nat) : FunOK Tryz.prog (g30_T m) :=
  fun_ok hmix htt (g30_T m) Tryz.func30 (c := g30_C) (by kernel_rfl) (by kernel_rfl) (Lc := []) (AllF.mem (l := []) trivial) (L := [g30_L0_T m m, g30_L1_T m m]) (fun _ hE _ _ => loopsIn_of g30_C_ls ⟨mkLp_all ⟨fun _ => g30_L0_ok hE m m, fun h => absurd (show (2 : Nat) = 0 from h) (by decide), trivial⟩, mkLp_all ⟨fun h => absurd (show (0 : Nat) = 2 from h) (by decide), fun _ => g30_L1_ok hE m m, trivial⟩, trivial⟩) (fun x => (g30_kr m x).trans (by kernel_rfl))
/-! 8 sparse/sparsemake.Matrix -/
/-! 10 sparse/matrix.Entries -/
def g10_H : Hints := { regs := [⟨[], [1]⟩, ⟨[], [1, 5]⟩, ⟨[], [2]⟩, ⟨[], [2]⟩], heads := [], exits := [], rets := [2], pins := [], spec := [[true]] }
abbrev g10_A : List Sh := [.a (.agg [(.int .i64), (.int .i64), (.imm (.int .i64)), (.imm (.int .i64)), (.imm (.int .u64))])]
abbrev g10_S : Sh := .a (.c (.nm 0 (.pr (.int .i64) (.pr (.int .i64) (.int .u64)))))
abbrev g10_U : List Sh := [.a (.c .dead)]
def g10_R (m : Nat) : ShLVal g10_A → Option (g10_S.Val × ShLVal g10_U) := fun (x : (Int × Int × List Int × List Int × List Int × Unit) × Unit) => g10 m x.1.1 x.1.2.1 x.1.2.2.1 x.1.2.2.2.1 x.1.2.2.2.2.1
def g10_T (m : Nat) : FunT := ⟨10, g10_A, g10_S, g10_U, g10_R m⟩
noncomputable def g10_C : Code := codeOf Tryz.f10
theorem g10_C_ls : loopsL g10_C 0 = [] := by kernel_rfl
theorem g10_kr (m : Nat) (x : ShLVal g10_A) : fnK (mkC (g10_S.Val × ShLVal g10_U) [g28_T m, g38_T m]) (mkLp (g10_S.Val × ShLVal g10_U) []) tt g10_H Tryz.f10 (encS g10_A x) (Kd g10_S g10_U) = g10 m x.1.1 x.1.2.1 x.1.2.2.1 x.1.2.2.2.1 x.1.2.2.2.2.1 := by kernel_rfl
theorem g10_ok (m : Nat) : FunOK Tryz.prog (g10_T m) :=
  fun_ok hmix htt (g10_T m) Tryz.func10 (c := g10_C) (by kernel_rfl) (by kernel_rfl) (Lc := [g28_T m, g38_T m]) (AllF.mem (l := [g28_T m, g38_T m]) ⟨g28_ok m, g38_ok m, trivial⟩) (L := []) (fun _ hE _ _ => loopsIn_of g10_C_ls trivial) (fun x => (g10_kr m x).trans (by kernel_rfl))
/-! 11 sparse/matrix.Transpose -/
def g11_H : Hints := { regs := [⟨[], [1, 2]⟩, ⟨[], [1, 2, 4]⟩, ⟨[], [1, 2, 4, 11]⟩, ⟨[(1, 1)], [2, 3]⟩, ⟨[], [1, 2, 5]⟩, ⟨[], [1, 2, 5, 16, 17, 18]⟩, ⟨[], [1, 2, 5, 16, 17, 18, 19]⟩, ⟨[], [1, 2, 5, 6, 7, 16, 17, 18]⟩, ⟨[], [1, 2, 5, 16, 17, 18]⟩, ⟨[(1, 1)], [1, 2, 5, 16, 17, 18]⟩, ⟨[(4, 1)], [2, 3]⟩], heads := [(0, [1, 2, 5, 16, 17, 18])], exits := [(0, [1, 2, 5]), (1, [1, 2, 5, 16, 17, 18])], rets := [2, 3], pins := [], spec := [[false, false, true, true, true], [false]] }
abbrev g11_A : List Sh := [.a (.agg [(.int .i64), (.int .i64), (.imm (.int .i64)), (.imm (.int .i64)), (.imm (.int .u64))])]
abbrev g11_S : Sh := .tup [(.agg [(.int .i64), (.int .i64), (.nm 0 (.int .i64)), (.nm 1 (.int .i64)), (.nm 2 (.int .u64))]), (.c (.int .i64))]
abbrev g11_U : List Sh := [.a (.c .dead)]
def g11_R (m : Nat) : ShLVal g11_A → Option (g11_S.Val × ShLVal g11_U) := fun (x : (Int × Int × List Int × List Int × List Int × Unit) × Unit) => g11 m x.1.1 x.1.2.1 x.1.2.2.1 x.1.2.2.2.1 x.1.2.2.2.2.1
def g11_T (m : Nat) : FunT := ⟨11, g11_A, g11_S, g11_U, g11_R m⟩
noncomputable def g11_C : Code := codeOf Tryz.f11
noncomputable def g11_B0 : Code := loopAt g11_C 0 0
theorem g11_B0_ls : loopsL g11_B0 0 = [] := by kernel_rfl
theorem g11_C_ls : loopsL g11_C 0 = [(0, g11_B0)] := by kernel_rfl
abbrev g11_L0_I : SS := [(1, .a (.bx 0 [(.int .i64), (.int .i64), (.imm (.int .i64)), (.imm (.int .i64)), (.imm (.int .u64))])), (2, .a (.bx 1 [(.int .i64), (.int .i64), (.nm 2 (.int .i64)), (.nm 3 (.int .i64)), (.nm 4 (.int .u64))])), (5, .a (.c (.nm 5 (.pr (.int .i64) (.pr (.int .i64) (.int .u64)))))), (16, .a (.c (.ref 5 5 3))), (17, .a (.c (.int .i64))), (18, .a (.c (.int .i64)))]
abbrev g11_L0_O : List (Ex × SS) := [(.exit 0, [(1, .a (.bx 0 [(.int .i64), (.int .i64), (.imm (.int .i64)), (.imm (.int .i64)), (.imm (.int .u64))])), (2, .a (.bx 1 [(.int .i64), (.int .i64), (.nm 2 (.int .i64)), (.nm 3 (.int .i64)), (.nm 4 (.int .u64))])), (5, .a (.c (.nm 5 (.pr (.int .i64) (.pr (.int .i64) (.int .u64))))))])]
def g11_L0_R (m n : Nat) : g11_L0_I.Val → Option (outVal g11_L0_O) := (fun (x : (Int × Int × List Int × List Int × List Int × Unit) × (Int × Int × List Int × List Int × List Int × Unit) × (List (Int × Int × Int)) × Unit × Int × Int × Unit) => g11_L0 m n x.1.1 x.1.2.1 x.1.2.2.1 x.1.2.2.2.1 x.1.2.2.2.2.1 x.2.1.1 x.2.1.2.1 x.2.1.2.2.1 x.2.1.2.2.2.1 x.2.1.2.2.2.2.1 x.2.2.1 x.2.2.2.2.1 x.2.2.2.2.2.1)
def g11_L0_T (m n : Nat) : LoopT := ⟨0, g11_L0_I, g11_L0_O, g11_L0_R m n⟩
theorem g11_L0_kr (m n : Nat) (x : g11_L0_I.Val) : roundK (mkC (outVal g11_L0_O) [g28_T m, g38_T m, g37_T m]) (mkLp (outVal g11_L0_O) []) tt 42 g11_H g11_B0 0 (g11_L0_I.enc x) (Kl (ins := g11_L0_I) (outs := g11_L0_O) (g11_L0_R m n)) = g11_L0 m (n + 1) x.1.1 x.1.2.1 x.1.2.2.1 x.1.2.2.2.1 x.1.2.2.2.2.1 x.2.1.1 x.2.1.2.1 x.2.1.2.2.1 x.2.1.2.2.2.1 x.2.1.2.2.2.2.1 x.2.2.1 x.2.2.2.2.1 x.2.2.2.2.2.1 := by kernel_rfl
theorem g11_L0_ok {E : Entry} (hE : EOf Tryz.prog E 42 g11_H.pins) (m : Nat) (n : Nat) : LoopOK Tryz.prog E g11_B0 (g11_L0_T m n) :=
  loop_ok (CO := CallOK Tryz.prog) hmix htt (fun _ _ _ _ h => h) hE (C := fun R => mkC R [g28_T m, g38_T m, g37_T m]) (L := []) (fun _ _ _ _ _ h => mkC_spec (AllF.mem (l := [g28_T m, g38_T m, g37_T m]) ⟨g28_ok m, g38_ok m, g37_ok m, trivial⟩) h) (fun _ _ => loopsIn_of g11_B0_ls trivial) (fun n => (g11_L0_R m n)) (fun _ => by kernel_rfl) (fun n x => (g11_L0_kr m n x).trans (by kernel_rfl)) n
theorem g11_kr (m : Nat) (x : ShLVal g11_A) : fnK (mkC (g11_S.Val × ShLVal g11_U) [g28_T m, g38_T m, g37_T m]) (mkLp (g11_S.Val × ShLVal g11_U) [g11_L0_T m m]) tt g11_H Tryz.f11 (encS g11_A x) (Kd g11_S g11_U) = g11 m x.1.1 x.1.2.1 x.1.2.2.1 x.1.2.2.2.1 x.1.2.2.2.2.1 := by kernel_rfl
theorem g11_ok (m : Nat) : FunOK Tryz.prog (g11_T m) :=
  fun_ok hmix htt (g11_T m) Tryz.func11 (c := g11_C) (by kernel_rfl) (by kernel_rfl) (Lc := [g28_T m, g38_T m, g37_T m]) (AllF.mem (l := [g28_T m, g38_T m, g37_T m]) ⟨g28_ok m, g38_ok m, g37_ok m, trivial⟩) (L := [g11_L0_T m m]) (fun _ hE _ _ => loopsIn_of g11_C_ls ⟨mkLp_all ⟨fun _ => g11_L0_ok hE m m, trivial⟩, trivial⟩) (fun x => (g11_kr m x).trans (by kernel_rfl))
/-! 12 sparse/sparsekit.Shuffle -/
/-! 39 sparse/matrix.places -/
/-! 40 sparse/matrix.selected -/
/-! 13 sparse/matrix.Permute -/
/-! 14 sparse/sparsekit.Invert -/
/-! 41 sparse/sparsekit.Floats -/
def g41_H : Hints := { regs := [⟨[], [0, 1]⟩, ⟨[], [0, 1, 10]⟩, ⟨[], [4]⟩, ⟨[], [0, 1, 5]⟩, ⟨[], [0, 1, 5, 14]⟩, ⟨[(0, 1)], [0, 1, 5]⟩, ⟨[], [0, 1, 5, 25]⟩, ⟨[], [4]⟩, ⟨[], [4]⟩], heads := [(0, [0, 1, 5])], exits := [(0, []), (1, [0, 1, 5])], rets := [4], pins := [], spec := [[false]] }
abbrev g41_A : List Sh := [.a (.c (.imm (.int .u64))), .a (.c (.imm (.int .u64)))]
abbrev g41_S : Sh := .a (.c .bool)
abbrev g41_U : List Sh := [.a (.c .dead), .a (.c .dead)]
def g41_R (m : Nat) : ShLVal g41_A → Option (g41_S.Val × ShLVal g41_U) := fun (x : List Int × List Int × Unit) => g41 m x.1 x.2.1
def g41_T (m : Nat) : FunT := ⟨41, g41_A, g41_S, g41_U, g41_R m⟩
noncomputable def g41_C : Code := codeOf Tryz.f41
noncomputable def g41_B0 : Code := loopAt g41_C 0 0
theorem g41_B0_ls : loopsL g41_B0 0 = [] := by kernel_rfl
theorem g41_C_ls : loopsL g41_C 0 = [(0, g41_B0)] := by kernel_rfl
abbrev g41_L0_I : SS := [(0, .a (.c (.imm (.int .u64)))), (1, .a (.c (.imm (.int .u64)))), (5, .a (.c (.int .i64)))]
abbrev g41_L0_O : List (Ex × SS) := [(.ret, [(4, .a (.c .bool))]), (.exit 0, [])]
def g41_L0_R (m n : Nat) : g41_L0_I.Val → Option (outVal g41_L0_O) := (fun (x : List Int × List Int × Int × Unit) => g41_L0 m n x.1 x.2.1 x.2.2.1)
def g41_L0_T (m n : Nat) : LoopT := ⟨0, g41_L0_I, g41_L0_O, g41_L0_R m n⟩
theorem g41_L0_kr (m n : Nat) (x : g41_L0_I.Val) : roundK (mkC (outVal g41_L0_O) []) (mkLp (outVal g41_L0_O) []) tt 26 g41_H g41_B0 0 (g41_L0_I.enc x) (Kl (ins := g41_L0_I) (outs := g41_L0_O) (g41_L0_R m n)) = g41_L0 m (n + 1) x.1 x.2.1 x.2.2.1 := by kernel_rfl
theorem g41_L0_ok {E : Entry} (hE : EOf Tryz.prog E 26 g41_H.pins) (m : Nat) (n : Nat) : LoopOK Tryz.prog E g41_B0 (g41_L0_T m n) :=
  loop_ok (CO := CallOK Tryz.prog) hmix htt (fun _ _ _ _ h => h) hE (C := fun R => mkC R []) (L := []) (fun _ _ _ _ _ h => mkC_spec (AllF.mem (l := []) trivial) h) (fun _ _ => loopsIn_of g41_B0_ls trivial) (fun n => (g41_L0_R m n)) (fun _ => by kernel_rfl) (fun n x => (g41_L0_kr m n x).trans (by kernel_rfl)) n
theorem g41_kr (m : Nat) (x : ShLVal g41_A) : fnK (mkC (g41_S.Val × ShLVal g41_U) []) (mkLp (g41_S.Val × ShLVal g41_U) [g41_L0_T m m]) tt g41_H Tryz.f41 (encS g41_A x) (Kd g41_S g41_U) = g41 m x.1 x.2.1 := by kernel_rfl
theorem g41_ok (m : Nat) : FunOK Tryz.prog (g41_T m) :=
  fun_ok hmix htt (g41_T m) Tryz.func41 (c := g41_C) (by kernel_rfl) (by kernel_rfl) (Lc := []) (AllF.mem (l := []) trivial) (L := [g41_L0_T m m]) (fun _ hE _ _ => loopsIn_of g41_C_ls ⟨mkLp_all ⟨fun _ => g41_L0_ok hE m m, trivial⟩, trivial⟩) (fun x => (g41_kr m x).trans (by kernel_rfl))
/-! 15 sparse/sparsekit.Matrix -/
def g15_H : Hints := { regs := [⟨[], [2, 3]⟩, ⟨[(5, 1), (12, 1), (19, 1), (26, 1)], [4]⟩], heads := [], exits := [], rets := [4], pins := [], spec := [[false]] }
abbrev g15_A : List Sh := [.a (.agg [(.int .i64), (.int .i64), (.imm (.int .i64)), (.imm (.int .i64)), (.imm (.int .u64))]), .a (.agg [(.int .i64), (.int .i64), (.imm (.int .i64)), (.imm (.int .i64)), (.imm (.int .u64))])]
abbrev g15_S : Sh := .a (.c .bool)
abbrev g15_U : List Sh := [.a (.c .dead), .a (.c .dead)]
def g15_R (m : Nat) : ShLVal g15_A → Option (g15_S.Val × ShLVal g15_U) := fun (x : (Int × Int × List Int × List Int × List Int × Unit) × (Int × Int × List Int × List Int × List Int × Unit) × Unit) => g15 m x.1.1 x.1.2.1 x.1.2.2.1 x.1.2.2.2.1 x.1.2.2.2.2.1 x.2.1.1 x.2.1.2.1 x.2.1.2.2.1 x.2.1.2.2.2.1 x.2.1.2.2.2.2.1
def g15_T (m : Nat) : FunT := ⟨15, g15_A, g15_S, g15_U, g15_R m⟩
noncomputable def g15_C : Code := codeOf Tryz.f15
theorem g15_C_ls : loopsL g15_C 0 = [] := by kernel_rfl
theorem g15_kr (m : Nat) (x : ShLVal g15_A) : fnK (mkC (g15_S.Val × ShLVal g15_U) [g27_T m, g41_T m]) (mkLp (g15_S.Val × ShLVal g15_U) []) tt g15_H Tryz.f15 (encS g15_A x) (Kd g15_S g15_U) = g15 m x.1.1 x.1.2.1 x.1.2.2.1 x.1.2.2.2.1 x.1.2.2.2.2.1 x.2.1.1 x.2.1.2.1 x.2.1.2.2.1 x.2.1.2.2.2.1 x.2.1.2.2.2.2.1 := by kernel_rfl
theorem g15_ok (m : Nat) : FunOK Tryz.prog (g15_T m) :=
  fun_ok hmix htt (g15_T m) Tryz.func15 (c := g15_C) (by kernel_rfl) (by kernel_rfl) (Lc := [g27_T m, g41_T m]) (AllF.mem (l := [g27_T m, g41_T m]) ⟨g27_ok m, g41_ok m, trivial⟩) (L := []) (fun _ hE _ _ => loopsIn_of g15_C_ls trivial) (fun x => (g15_kr m x).trans (by kernel_rfl))
/-! 3 sparse/sparselaw09.MatrixRound -/
/-! 16 sparse/sparselaw09.small -/
/-! 114 sparse/sparseref03.IsFinite -/
/-! 77 sparse/sparseref06.Finite -/
/-! 42 sparse/sparseref09.Check -/
/-! 43 sparse/sparseref09.Entries -/
/-! 17 sparse/sparseref09.Transpose -/
/-! 18 sparse/matrix.Lower -/
def g18_H : Hints := { regs := [⟨[], [1, 2]⟩, ⟨[], [1, 2, 4]⟩, ⟨[], [1, 2, 4, 11]⟩, ⟨[(1, 1)], [2, 3]⟩, ⟨[], [1, 2, 5]⟩, ⟨[], [1, 2, 5, 15, 16, 17]⟩, ⟨[], [1, 2, 5, 15, 16, 17, 18]⟩, ⟨[], [1, 2, 5, 7, 15, 16, 17]⟩, ⟨[], [1, 2, 5, 7, 15, 16, 17, 25]⟩, ⟨[(0, 1)], [1, 2, 5, 15, 16, 17]⟩, ⟨[(1, 1)], [1, 2, 5, 15, 16, 17]⟩, ⟨[(4, 1)], [2, 3]⟩], heads := [(0, [1, 2, 5, 15, 16, 17])], exits := [(0, [1, 2, 5]), (1, [1, 2, 5, 15, 16, 17])], rets := [2, 3], pins := [], spec := [[false, false, true, true, true], [false]] }
abbrev g18_A : List Sh := [.a (.agg [(.int .i64), (.int .i64), (.imm (.int .i64)), (.imm (.int .i64)), (.imm (.int .u64))])]
abbrev g18_S : Sh := .tup [(.agg [(.int .i64), (.int .i64), (.nm 0 (.int .i64)), (.nm 1 (.int .i64)), (.nm 2 (.int .u64))]), (.c (.int .i64))]
abbrev g18_U : List Sh := [.a (.c .dead)]
def g18_R (m : Nat) : ShLVal g18_A → Option (g18_S.Val × ShLVal g18_U) := fun (x : (Int × Int × List Int × List Int × List Int × Unit) × Unit) => g18 m x.1.1 x.1.2.1 x.1.2.2.1 x.1.2.2.2.1 x.1.2.2.2.2.1
def g18_T (m : Nat) : FunT := ⟨18, g18_A, g18_S, g18_U, g18_R m⟩
noncomputable def g18_C : Code := codeOf Tryz.f18
noncomputable def g18_B0 : Code := loopAt g18_C 0 0
theorem g18_B0_ls : loopsL g18_B0 0 = [] := by kernel_rfl
theorem g18_C_ls : loopsL g18_C 0 = [(0, g18_B0)] := by kernel_rfl
abbrev g18_L0_I : SS := [(1, .a (.bx 0 [(.int .i64), (.int .i64), (.imm (.int .i64)), (.imm (.int .i64)), (.imm (.int .u64))])), (2, .a (.bx 1 [(.int .i64), (.int .i64), (.nm 2 (.int .i64)), (.nm 3 (.int .i64)), (.nm 4 (.int .u64))])), (5, .a (.c (.nm 5 (.pr (.int .i64) (.pr (.int .i64) (.int .u64)))))), (15, .a (.c (.nm 6 (.pr (.int .i64) (.pr (.int .i64) (.int .u64)))))), (16, .a (.c (.int .i64))), (17, .a (.c (.int .i64)))]
abbrev g18_L0_O : List (Ex × SS) := [(.exit 0, [(1, .a (.bx 0 [(.int .i64), (.int .i64), (.imm (.int .i64)), (.imm (.int .i64)), (.imm (.int .u64))])), (2, .a (.bx 1 [(.int .i64), (.int .i64), (.nm 2 (.int .i64)), (.nm 3 (.int .i64)), (.nm 4 (.int .u64))])), (5, .a (.c (.nm 5 (.pr (.int .i64) (.pr (.int .i64) (.int .u64))))))])]
def g18_L0_R (m n : Nat) : g18_L0_I.Val → Option (outVal g18_L0_O) := (fun (x : (Int × Int × List Int × List Int × List Int × Unit) × (Int × Int × List Int × List Int × List Int × Unit) × (List (Int × Int × Int)) × (List (Int × Int × Int)) × Int × Int × Unit) => g18_L0 m n x.1.1 x.1.2.1 x.1.2.2.1 x.1.2.2.2.1 x.1.2.2.2.2.1 x.2.1.1 x.2.1.2.1 x.2.1.2.2.1 x.2.1.2.2.2.1 x.2.1.2.2.2.2.1 x.2.2.1 x.2.2.2.1 x.2.2.2.2.1 x.2.2.2.2.2.1)
def g18_L0_T (m n : Nat) : LoopT := ⟨0, g18_L0_I, g18_L0_O, g18_L0_R m n⟩
theorem g18_L0_kr (m n : Nat) (x : g18_L0_I.Val) : roundK (mkC (outVal g18_L0_O) [g28_T m, g38_T m, g37_T m]) (mkLp (outVal g18_L0_O) []) tt 37 g18_H g18_B0 0 (g18_L0_I.enc x) (Kl (ins := g18_L0_I) (outs := g18_L0_O) (g18_L0_R m n)) = g18_L0 m (n + 1) x.1.1 x.1.2.1 x.1.2.2.1 x.1.2.2.2.1 x.1.2.2.2.2.1 x.2.1.1 x.2.1.2.1 x.2.1.2.2.1 x.2.1.2.2.2.1 x.2.1.2.2.2.2.1 x.2.2.1 x.2.2.2.1 x.2.2.2.2.1 x.2.2.2.2.2.1 := by kernel_rfl
theorem g18_L0_ok {E : Entry} (hE : EOf Tryz.prog E 37 g18_H.pins) (m : Nat) (n : Nat) : LoopOK Tryz.prog E g18_B0 (g18_L0_T m n) :=
  loop_ok (CO := CallOK Tryz.prog) hmix htt (fun _ _ _ _ h => h) hE (C := fun R => mkC R [g28_T m, g38_T m, g37_T m]) (L := []) (fun _ _ _ _ _ h => mkC_spec (AllF.mem (l := [g28_T m, g38_T m, g37_T m]) ⟨g28_ok m, g38_ok m, g37_ok m, trivial⟩) h) (fun _ _ => loopsIn_of g18_B0_ls trivial) (fun n => (g18_L0_R m n)) (fun _ => by kernel_rfl) (fun n x => (g18_L0_kr m n x).trans (by kernel_rfl)) n
theorem g18_kr (m : Nat) (x : ShLVal g18_A) : fnK (mkC (g18_S.Val × ShLVal g18_U) [g28_T m, g38_T m, g37_T m]) (mkLp (g18_S.Val × ShLVal g18_U) [g18_L0_T m m]) tt g18_H Tryz.f18 (encS g18_A x) (Kd g18_S g18_U) = g18 m x.1.1 x.1.2.1 x.1.2.2.1 x.1.2.2.2.1 x.1.2.2.2.2.1 := by kernel_rfl
theorem g18_ok (m : Nat) : FunOK Tryz.prog (g18_T m) :=
  fun_ok hmix htt (g18_T m) Tryz.func18 (c := g18_C) (by kernel_rfl) (by kernel_rfl) (Lc := [g28_T m, g38_T m, g37_T m]) (AllF.mem (l := [g28_T m, g38_T m, g37_T m]) ⟨g28_ok m, g38_ok m, g37_ok m, trivial⟩) (L := [g18_L0_T m m]) (fun _ hE _ _ => loopsIn_of g18_C_ls ⟨mkLp_all ⟨fun _ => g18_L0_ok hE m m, trivial⟩, trivial⟩) (fun x => (g18_kr m x).trans (by kernel_rfl))
/-! 19 sparse/sparseref09.Lower -/
end Go.Vs.F
