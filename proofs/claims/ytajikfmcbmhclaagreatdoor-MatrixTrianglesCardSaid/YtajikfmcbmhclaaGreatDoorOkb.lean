/- The plain functions are what the code does (by program: gen.py). -/
import Derived.Test.YtajikfmcbmhclaaGreatDoorOka

/-! MwOk2 -/
set_option linter.unusedVariables false
set_option maxRecDepth 100000
namespace Go.Vs.F
open Go.Proofs
/-! 99 _sparse/dyad.Real_.Log2 -/
def g99_H : Hints := { regs := [⟨[], [1]⟩, ⟨[], [2]⟩], heads := [], exits := [], rets := [2], pins := [], spec := [[false]] }
abbrev g99_A : List Sh := [.a (.agg [.bool, .bool, (.imm (.int .u32)), (.int .i64), .bool])]
abbrev g99_S : Sh := .a (.c (.int .i64))
abbrev g99_U : List Sh := [.a (.c .dead)]
def g99_R (m : Nat) : ShLVal g99_A → Option (g99_S.Val × ShLVal g99_U) := fun (x : (Bool × Bool × List Int × Int × Bool × Unit) × Unit) => g99 m x.1.1 x.1.2.1 x.1.2.2.1 x.1.2.2.2.1 x.1.2.2.2.2.1
def g99_T (m : Nat) : FunT := ⟨99, g99_A, g99_S, g99_U, g99_R m⟩
noncomputable def g99_C : Code := codeOf Tryz.f99
theorem g99_C_ls : loopsL g99_C 0 = [] := by kernel_rfl
theorem g99_kr (m : Nat) (x : ShLVal g99_A) : fnK (mkC (g99_S.Val × ShLVal g99_U) [g107_T m]) (mkLp (g99_S.Val × ShLVal g99_U) []) tt g99_H Tryz.f99 (encS g99_A x) (Kd g99_S g99_U) = g99 m x.1.1 x.1.2.1 x.1.2.2.1 x.1.2.2.2.1 x.1.2.2.2.2.1 := by kernel_rfl
theorem g99_ok (m : Nat) : FunOK Tryz.prog (g99_T m) :=
  fun_ok hmix htt (g99_T m) Tryz.func99 (c := g99_C) (by kernel_rfl) (by kernel_rfl) (Lc := [g107_T m]) (AllF.mem (l := [g107_T m]) ⟨g107_ok m, trivial⟩) (L := []) (fun _ hE _ _ => loopsIn_of g99_C_ls trivial) (fun x => (g99_kr m x).trans (by kernel_rfl))
/-! 148 sparse/integer.Sub -/
def g148_H : Hints := { regs := [⟨[], [2, 3, 4]⟩, ⟨[], [2, 3, 4]⟩, ⟨[], [4]⟩], heads := [], exits := [], rets := [4], pins := [], spec := [[false, false]] }
abbrev g148_A : List Sh := [.a (.agg [.bool, (.imm (.int .u32))]), .a (.agg [.bool, (.imm (.int .u32))])]
abbrev g148_S : Sh := .a (.agg [.bool, (.imm (.int .u32))])
abbrev g148_U : List Sh := [.a (.c .dead), .a (.c .dead)]
def g148_R (m : Nat) : ShLVal g148_A → Option (g148_S.Val × ShLVal g148_U) := fun (x : (Bool × List Int × Unit) × (Bool × List Int × Unit) × Unit) => g148 m x.1.1 x.1.2.1 x.2.1.1 x.2.1.2.1
def g148_T (m : Nat) : FunT := ⟨148, g148_A, g148_S, g148_U, g148_R m⟩
noncomputable def g148_C : Code := codeOf Tryz.f148
theorem g148_C_ls : loopsL g148_C 0 = [] := by kernel_rfl
theorem g148_kr (m : Nat) (x : ShLVal g148_A) : fnK (mkC (g148_S.Val × ShLVal g148_U) [g75_T m]) (mkLp (g148_S.Val × ShLVal g148_U) []) tt g148_H Tryz.f148 (encS g148_A x) (Kd g148_S g148_U) = g148 m x.1.1 x.1.2.1 x.2.1.1 x.2.1.2.1 := by kernel_rfl
theorem g148_ok (m : Nat) : FunOK Tryz.prog (g148_T m) :=
  fun_ok hmix htt (g148_T m) Tryz.func148 (c := g148_C) (by kernel_rfl) (by kernel_rfl) (Lc := [g75_T m]) (AllF.mem (l := [g75_T m]) ⟨g75_ok m, trivial⟩) (L := []) (fun _ hE _ _ => loopsIn_of g148_C_ls trivial) (fun x => (g148_kr m x).trans (by kernel_rfl))
/-! 149 sparse/integer.Cmp -/
def g149_H : Hints := { regs := [⟨[], [2, 3]⟩, ⟨[], [2, 3, 5, 6]⟩, ⟨[], [2, 3, 5, 6, 11]⟩, ⟨[], [4]⟩, ⟨[(1, 1)], [2, 3, 5, 15]⟩, ⟨[], [4]⟩, ⟨[(0, 1)], [4]⟩], heads := [], exits := [(0, [2, 3, 5])], rets := [4], pins := [], spec := [[false]] }
abbrev g149_A : List Sh := [.a (.agg [.bool, (.imm (.int .u32))]), .a (.agg [.bool, (.imm (.int .u32))])]
abbrev g149_S : Sh := .a (.c (.int .i64))
abbrev g149_U : List Sh := [.a (.c .dead), .a (.c .dead)]
def g149_R (m : Nat) : ShLVal g149_A → Option (g149_S.Val × ShLVal g149_U) := fun (x : (Bool × List Int × Unit) × (Bool × List Int × Unit) × Unit) => g149 m x.1.1 x.1.2.1 x.2.1.1 x.2.1.2.1
def g149_T (m : Nat) : FunT := ⟨149, g149_A, g149_S, g149_U, g149_R m⟩
noncomputable def g149_C : Code := codeOf Tryz.f149
theorem g149_C_ls : loopsL g149_C 0 = [] := by kernel_rfl
theorem g149_kr (m : Nat) (x : ShLVal g149_A) : fnK (mkC (g149_S.Val × ShLVal g149_U) [g98_T m, g109_T m, g111_T m]) (mkLp (g149_S.Val × ShLVal g149_U) []) tt g149_H Tryz.f149 (encS g149_A x) (Kd g149_S g149_U) = g149 m x.1.1 x.1.2.1 x.2.1.1 x.2.1.2.1 := by kernel_rfl
theorem g149_ok (m : Nat) : FunOK Tryz.prog (g149_T m) :=
  fun_ok hmix htt (g149_T m) Tryz.func149 (c := g149_C) (by kernel_rfl) (by kernel_rfl) (Lc := [g98_T m, g109_T m, g111_T m]) (AllF.mem (l := [g98_T m, g109_T m, g111_T m]) ⟨g98_ok m, g109_ok m, g111_ok m, trivial⟩) (L := []) (fun _ hE _ _ => loopsIn_of g149_C_ls trivial) (fun x => (g149_kr m x).trans (by kernel_rfl))
/-! 132 _sparse/dyad.Real_.cut -/
def g132_H : Hints := { regs := [⟨[], [1, 2, 4]⟩, ⟨[], [1, 2, 4, 7]⟩, ⟨[(1, 1)], [1, 2, 4, 14]⟩, ⟨[], [4, 5, 6]⟩, ⟨[], [1, 2, 4]⟩, ⟨[], [1, 2, 4, 8]⟩, ⟨[(2, 1)], [2, 4, 5, 8]⟩, ⟨[(2, 1)], [2, 4, 5, 8, 37]⟩, ⟨[], [2, 4, 5, 8]⟩, ⟨[(1, 1), (5, 1)], [4, 5, 6]⟩], heads := [], exits := [], rets := [4, 5, 6], pins := [], spec := [[false, false], [false], [false]] }
abbrev g132_A : List Sh := [.a (.agg [.bool, .bool, (.imm (.int .u32)), (.int .i64), .bool]), .a (.c (.int .i64))]
abbrev g132_S : Sh := .tup [(.agg [.bool, (.imm (.int .u32))]), (.c (.int .i64)), (.c .bool)]
abbrev g132_U : List Sh := [.a (.c .dead), .a (.c .dead)]
def g132_R (m : Nat) : ShLVal g132_A → Option (g132_S.Val × ShLVal g132_U) := fun (x : (Bool × Bool × List Int × Int × Bool × Unit) × Int × Unit) => g132 m x.1.1 x.1.2.1 x.1.2.2.1 x.1.2.2.2.1 x.1.2.2.2.2.1 x.2.1
def g132_T (m : Nat) : FunT := ⟨132, g132_A, g132_S, g132_U, g132_R m⟩
noncomputable def g132_C : Code := codeOf Tryz.f132
theorem g132_C_ls : loopsL g132_C 0 = [] := by kernel_rfl
theorem g132_kr (m : Nat) (x : ShLVal g132_A) : fnK (mkC (g132_S.Val × ShLVal g132_U) [g107_T m, g108_T m, g76_T m, g148_T m, g65_T m, g149_T m, g98_T m]) (mkLp (g132_S.Val × ShLVal g132_U) []) tt g132_H Tryz.f132 (encS g132_A x) (Kd g132_S g132_U) = g132 m x.1.1 x.1.2.1 x.1.2.2.1 x.1.2.2.2.1 x.1.2.2.2.2.1 x.2.1 := by kernel_rfl
theorem g132_ok (m : Nat) : FunOK Tryz.prog (g132_T m) :=
  fun_ok hmix htt (g132_T m) Tryz.func132 (c := g132_C) (by kernel_rfl) (by kernel_rfl) (Lc := [g107_T m, g108_T m, g76_T m, g148_T m, g65_T m, g149_T m, g98_T m]) (AllF.mem (l := [g107_T m, g108_T m, g76_T m, g148_T m, g65_T m, g149_T m, g98_T m]) ⟨g107_ok m, g108_ok m, g76_ok m, g148_ok m, g65_ok m, g149_ok m, g98_ok m, trivial⟩) (L := []) (fun _ hE _ _ => loopsIn_of g132_C_ls trivial) (fun x => (g132_kr m x).trans (by kernel_rfl))
/-! 102 _sparse/dyad.Real_.Multiple -/
def g102_H : Hints := { regs := [⟨[], [1, 2, 3, 6]⟩, ⟨[], [1, 2, 3, 6, 7, 8, 9]⟩, ⟨[], [1, 2, 3, 6, 7, 8, 9, 16]⟩, ⟨[(3, 1)], [2, 3, 6, 7, 8, 9]⟩, ⟨[(1, 1), (6, 1)], [2, 3, 6, 7, 8, 9]⟩, ⟨[], [2, 3, 6, 7, 8, 9, 10]⟩, ⟨[(2, 1), (5, 1), (10, 1)], [3, 6, 7, 10]⟩, ⟨[(0, 1)], [2, 3, 6, 7, 8, 10, 49]⟩, ⟨[], [2, 3, 6, 7, 8, 10, 51]⟩, ⟨[], [3, 6, 7, 10]⟩, ⟨[], [2, 3, 6, 7, 8, 10, 56]⟩, ⟨[], [3, 6, 7, 10]⟩, ⟨[(0, 1)], [3, 6, 7, 8, 10, 62]⟩, ⟨[(0, 1)], [3, 6, 7, 65]⟩, ⟨[], [3, 6, 7]⟩, ⟨[], [6, 7, 70]⟩, ⟨[], [6, 7]⟩, ⟨[], [6]⟩], heads := [], exits := [(0, [3, 6, 7, 10])], rets := [6], pins := [], spec := [[false, false]] }
abbrev g102_A : List Sh := [.a (.agg [.bool, .bool, (.imm (.int .u32)), (.int .i64), .bool]), .a (.c (.int .i64)), .a (.c (.int .i64))]
abbrev g102_S : Sh := .a (.agg [.bool, (.imm (.int .u32))])
abbrev g102_U : List Sh := [.a (.c .dead), .a (.c .dead), .a (.c .dead)]
def g102_R (m : Nat) : ShLVal g102_A → Option (g102_S.Val × ShLVal g102_U) := fun (x : (Bool × Bool × List Int × Int × Bool × Unit) × Int × Int × Unit) => g102 m x.1.1 x.1.2.1 x.1.2.2.1 x.1.2.2.2.1 x.1.2.2.2.2.1 x.2.1 x.2.2.1
def g102_T (m : Nat) : FunT := ⟨102, g102_A, g102_S, g102_U, g102_R m⟩
noncomputable def g102_C : Code := codeOf Tryz.f102
theorem g102_C_ls : loopsL g102_C 0 = [] := by kernel_rfl
theorem g102_kr (m : Nat) (x : ShLVal g102_A) : fnK (mkC (g102_S.Val × ShLVal g102_U) [g76_T m, g67_T m, g132_T m, g65_T m, g75_T m, g98_T m, g106_T m]) (mkLp (g102_S.Val × ShLVal g102_U) []) tt g102_H Tryz.f102 (encS g102_A x) (Kd g102_S g102_U) = g102 m x.1.1 x.1.2.1 x.1.2.2.1 x.1.2.2.2.1 x.1.2.2.2.2.1 x.2.1 x.2.2.1 := by kernel_rfl
theorem g102_ok (m : Nat) : FunOK Tryz.prog (g102_T m) :=
  fun_ok hmix htt (g102_T m) Tryz.func102 (c := g102_C) (by kernel_rfl) (by kernel_rfl) (Lc := [g76_T m, g67_T m, g132_T m, g65_T m, g75_T m, g98_T m, g106_T m]) (AllF.mem (l := [g76_T m, g67_T m, g132_T m, g65_T m, g75_T m, g98_T m, g106_T m]) ⟨g76_ok m, g67_ok m, g132_ok m, g65_ok m, g75_ok m, g98_ok m, g106_ok m, trivial⟩) (L := []) (fun _ hE _ _ => loopsIn_of g102_C_ls trivial) (fun x => (g102_kr m x).trans (by kernel_rfl))
/-! 100 sparse/integer.Int -/
def g100_H : Hints := { regs := [⟨[], [1]⟩, ⟨[], [1, 4]⟩, ⟨[], [1, 4, 13]⟩, ⟨[], [2, 3]⟩, ⟨[], [1, 4, 5]⟩, ⟨[(0, 1)], [1, 5, 14, 15, 16]⟩, ⟨[], [1, 5, 14, 15, 16, 17]⟩, ⟨[], [1, 5, 6, 7, 14, 15, 16]⟩, ⟨[(0, 1), (1, 1), (3, 1)], [1, 5, 14, 15, 16]⟩, ⟨[(1, 1)], [1, 5, 14, 15, 16]⟩, ⟨[(2, 1), (6, 1)], [1, 5, 29]⟩, ⟨[(0, 1)], [2, 3]⟩, ⟨[(2, 1), (6, 1)], [5, 45]⟩, ⟨[(0, 1)], [2, 3]⟩, ⟨[], [2, 3]⟩], heads := [(0, [1, 5, 14, 15, 16])], exits := [(0, [1, 5]), (1, [1, 5, 14, 15, 16]), (2, [])], rets := [2, 3], pins := [], spec := [[false], [false]] }
abbrev g100_A : List Sh := [.a (.agg [.bool, (.imm (.int .u32))])]
abbrev g100_S : Sh := .tup [(.c (.int .i64)), (.c .bool)]
abbrev g100_U : List Sh := [.a (.c .dead)]
def g100_R (m : Nat) : ShLVal g100_A → Option (g100_S.Val × ShLVal g100_U) := fun (x : (Bool × List Int × Unit) × Unit) => g100 m x.1.1 x.1.2.1
def g100_T (m : Nat) : FunT := ⟨100, g100_A, g100_S, g100_U, g100_R m⟩
noncomputable def g100_C : Code := codeOf Tryz.f100
noncomputable def g100_B0 : Code := loopAt g100_C 0 0
theorem g100_B0_ls : loopsL g100_B0 0 = [] := by kernel_rfl
theorem g100_C_ls : loopsL g100_C 0 = [(0, g100_B0)] := by kernel_rfl
abbrev g100_L0_I : SS := [(1, .a (.bx 0 [.bool, (.imm (.int .u32))])), (5, .a (.c (.int .u64))), (14, .a (.c (.imm (.int .u32)))), (15, .a (.c (.int .i64))), (16, .a (.c (.int .i64)))]
abbrev g100_L0_O : List (Ex × SS) := [(.exit 0, [(1, .a (.bx 0 [.bool, (.imm (.int .u32))])), (5, .a (.c (.int .u64)))])]
def g100_L0_R (m n : Nat) : g100_L0_I.Val → Option (outVal g100_L0_O) := (fun (x : (Bool × List Int × Unit) × Int × List Int × Int × Int × Unit) => g100_L0 m n x.1.1 x.1.2.1 x.2.1 x.2.2.1 x.2.2.2.1 x.2.2.2.2.1)
def g100_L0_T (m n : Nat) : LoopT := ⟨0, g100_L0_I, g100_L0_O, g100_L0_R m n⟩
theorem g100_L0_kr (m n : Nat) (x : g100_L0_I.Val) : roundK (mkC (outVal g100_L0_O) [g109_T m]) (mkLp (outVal g100_L0_O) []) tt 59 g100_H g100_B0 0 (g100_L0_I.enc x) (Kl (ins := g100_L0_I) (outs := g100_L0_O) (g100_L0_R m n)) = g100_L0 m (n + 1) x.1.1 x.1.2.1 x.2.1 x.2.2.1 x.2.2.2.1 x.2.2.2.2.1 := by kernel_rfl
theorem g100_L0_ok {E : Entry} (hE : EOf Tryz.prog E 59 g100_H.pins) (m : Nat) (n : Nat) : LoopOK Tryz.prog E g100_B0 (g100_L0_T m n) :=
  loop_ok (CO := CallOK Tryz.prog) hmix htt (fun _ _ _ _ h => h) hE (C := fun R => mkC R [g109_T m]) (L := []) (fun _ _ _ _ _ h => mkC_spec (AllF.mem (l := [g109_T m]) ⟨g109_ok m, trivial⟩) h) (fun _ _ => loopsIn_of g100_B0_ls trivial) (fun n => (g100_L0_R m n)) (fun _ => by kernel_rfl) (fun n x => (g100_L0_kr m n x).trans (by kernel_rfl)) n
theorem g100_kr (m : Nat) (x : ShLVal g100_A) : fnK (mkC (g100_S.Val × ShLVal g100_U) [g109_T m]) (mkLp (g100_S.Val × ShLVal g100_U) [g100_L0_T m m]) tt g100_H Tryz.f100 (encS g100_A x) (Kd g100_S g100_U) = g100 m x.1.1 x.1.2.1 := by kernel_rfl
theorem g100_ok (m : Nat) : FunOK Tryz.prog (g100_T m) :=
  fun_ok hmix htt (g100_T m) Tryz.func100 (c := g100_C) (by kernel_rfl) (by kernel_rfl) (Lc := [g109_T m]) (AllF.mem (l := [g109_T m]) ⟨g109_ok m, trivial⟩) (L := [g100_L0_T m m]) (fun _ hE _ _ => loopsIn_of g100_C_ls ⟨mkLp_all ⟨fun _ => g100_L0_ok hE m m, trivial⟩, trivial⟩) (fun x => (g100_kr m x).trans (by kernel_rfl))
/-! 103 sparse/float.signed -/
def g103_H : Hints := { regs := [⟨[], [0, 1]⟩, ⟨[(0, 1)], [0, 5]⟩, ⟨[(0, 1)], [4]⟩, ⟨[(0, 1)], [4]⟩], heads := [], exits := [], rets := [4], pins := [], spec := [[false]] }
abbrev g103_A : List Sh := [.a (.c (.int .u64)), .a (.c .bool)]
abbrev g103_S : Sh := .a (.c (.int .u64))
abbrev g103_U : List Sh := [.a (.c .dead), .a (.c .dead)]
def g103_R (m : Nat) : ShLVal g103_A → Option (g103_S.Val × ShLVal g103_U) := fun (x : Int × Bool × Unit) => g103 m x.1 x.2.1
def g103_T (m : Nat) : FunT := ⟨103, g103_A, g103_S, g103_U, g103_R m⟩
noncomputable def g103_C : Code := codeOf Tryz.f103
theorem g103_C_ls : loopsL g103_C 0 = [] := by kernel_rfl
theorem g103_kr (m : Nat) (x : ShLVal g103_A) : fnK (mkC (g103_S.Val × ShLVal g103_U) []) (mkLp (g103_S.Val × ShLVal g103_U) []) tt g103_H Tryz.f103 (encS g103_A x) (Kd g103_S g103_U) = g103 m x.1 x.2.1 := by kernel_rfl
theorem g103_ok (m : Nat) : FunOK Tryz.prog (g103_T m) :=
  fun_ok hmix htt (g103_T m) Tryz.func103 (c := g103_C) (by kernel_rfl) (by kernel_rfl) (Lc := []) (AllF.mem (l := []) trivial) (L := []) (fun _ hE _ _ => loopsIn_of g103_C_ls trivial) (fun x => (g103_kr m x).trans (by kernel_rfl))
/-! 104 sparse/float.overflow -/
def g104_H : Hints := { regs := [⟨[], [0, 1]⟩, ⟨[(2, 1), (5, 1), (10, 1), (13, 1)], [0, 21]⟩, ⟨[(0, 1)], [4]⟩, ⟨[(0, 1)], [4]⟩], heads := [], exits := [], rets := [4], pins := [], spec := [[false]] }
abbrev g104_A : List Sh := [.a (.c .bool), .a (.c (.int .i64))]
abbrev g104_S : Sh := .a (.c (.int .u64))
abbrev g104_U : List Sh := [.a (.c .dead), .a (.c .dead)]
def g104_R (m : Nat) : ShLVal g104_A → Option (g104_S.Val × ShLVal g104_U) := fun (x : Bool × Int × Unit) => g104 m x.1 x.2.1
def g104_T (m : Nat) : FunT := ⟨104, g104_A, g104_S, g104_U, g104_R m⟩
noncomputable def g104_C : Code := codeOf Tryz.f104
theorem g104_C_ls : loopsL g104_C 0 = [] := by kernel_rfl
theorem g104_kr (m : Nat) (x : ShLVal g104_A) : fnK (mkC (g104_S.Val × ShLVal g104_U) [g103_T m]) (mkLp (g104_S.Val × ShLVal g104_U) []) tt g104_H Tryz.f104 (encS g104_A x) (Kd g104_S g104_U) = g104 m x.1 x.2.1 := by kernel_rfl
theorem g104_ok (m : Nat) : FunOK Tryz.prog (g104_T m) :=
  fun_ok hmix htt (g104_T m) Tryz.func104 (c := g104_C) (by kernel_rfl) (by kernel_rfl) (Lc := [g103_T m]) (AllF.mem (l := [g103_T m]) ⟨g103_ok m, trivial⟩) (L := []) (fun _ hE _ _ => loopsIn_of g104_C_ls trivial) (fun x => (g104_kr m x).trans (by kernel_rfl))
/-! 71 sparse/float.rounded -/
def g71_H : Hints := { regs := [⟨[], [1, 2]⟩, ⟨[], [1, 2, 5]⟩, ⟨[(6, 1)], [1, 2, 5, 6]⟩, ⟨[(0, 1)], [1, 2, 5, 8]⟩, ⟨[], [1, 2, 5, 8, 25]⟩, ⟨[(0, 1)], [1, 2, 5, 8]⟩, ⟨[], [1, 2, 5, 8, 29]⟩, ⟨[(0, 1)], [4]⟩, ⟨[], [1, 2, 5, 8, 36]⟩, ⟨[(2, 1)], [4]⟩, ⟨[(0, 1), (4, 1)], [4]⟩], heads := [], exits := [], rets := [4], pins := [], spec := [[false]] }
abbrev g71_A : List Sh := [.a (.agg [.bool, .bool, (.imm (.int .u32)), (.int .i64), .bool]), .a (.c (.int .i64))]
abbrev g71_S : Sh := .a (.c (.int .u64))
abbrev g71_U : List Sh := [.a (.c .dead), .a (.c .dead)]
def g71_R (m : Nat) : ShLVal g71_A → Option (g71_S.Val × ShLVal g71_U) := fun (x : (Bool × Bool × List Int × Int × Bool × Unit) × Int × Unit) => g71 m x.1.1 x.1.2.1 x.1.2.2.1 x.1.2.2.2.1 x.1.2.2.2.2.1 x.2.1
def g71_T (m : Nat) : FunT := ⟨71, g71_A, g71_S, g71_U, g71_R m⟩
noncomputable def g71_C : Code := codeOf Tryz.f71
theorem g71_C_ls : loopsL g71_C 0 = [] := by kernel_rfl
theorem g71_kr (m : Nat) (x : ShLVal g71_A) : fnK (mkC (g71_S.Val × ShLVal g71_U) [g99_T m, g102_T m, g101_T m, g100_T m, g104_T m, g103_T m]) (mkLp (g71_S.Val × ShLVal g71_U) []) tt g71_H Tryz.f71 (encS g71_A x) (Kd g71_S g71_U) = g71 m x.1.1 x.1.2.1 x.1.2.2.1 x.1.2.2.2.1 x.1.2.2.2.2.1 x.2.1 := by kernel_rfl
theorem g71_ok (m : Nat) : FunOK Tryz.prog (g71_T m) :=
  fun_ok hmix htt (g71_T m) Tryz.func71 (c := g71_C) (by kernel_rfl) (by kernel_rfl) (Lc := [g99_T m, g102_T m, g101_T m, g100_T m, g104_T m, g103_T m]) (AllF.mem (l := [g99_T m, g102_T m, g101_T m, g100_T m, g104_T m, g103_T m]) ⟨g99_ok m, g102_ok m, g101_ok m, g100_ok m, g104_ok m, g103_ok m, trivial⟩) (L := []) (fun _ hE _ _ => loopsIn_of g71_C_ls trivial) (fun x => (g71_kr m x).trans (by kernel_rfl))
/-! 35 sparse/float.Round -/
def g35_H : Hints := { regs := [⟨[], [1, 2]⟩, ⟨[], [1, 2]⟩, ⟨[], [1, 2, 7]⟩, ⟨[], [4]⟩, ⟨[], [1, 2, 10]⟩, ⟨[], [4]⟩, ⟨[(2, 1)], [4]⟩], heads := [], exits := [(0, [1, 2])], rets := [4], pins := [], spec := [[false]] }
abbrev g35_A : List Sh := [.a (.agg [.bool, .bool, (.imm (.int .u32)), (.int .i64)]), .a (.c (.int .i64))]
abbrev g35_S : Sh := .a (.c (.int .u64))
abbrev g35_U : List Sh := [.a (.c .dead), .a (.c .dead)]
def g35_R (m : Nat) : ShLVal g35_A → Option (g35_S.Val × ShLVal g35_U) := fun (x : (Bool × Bool × List Int × Int × Unit) × Int × Unit) => g35 m x.1.1 x.1.2.1 x.1.2.2.1 x.1.2.2.2.1 x.2.1
def g35_T (m : Nat) : FunT := ⟨35, g35_A, g35_S, g35_U, g35_R m⟩
noncomputable def g35_C : Code := codeOf Tryz.f35
theorem g35_C_ls : loopsL g35_C 0 = [] := by kernel_rfl
theorem g35_kr (m : Nat) (x : ShLVal g35_A) : fnK (mkC (g35_S.Val × ShLVal g35_U) [g69_T m, g70_T m, g72_T m, g71_T m]) (mkLp (g35_S.Val × ShLVal g35_U) []) tt g35_H Tryz.f35 (encS g35_A x) (Kd g35_S g35_U) = g35 m x.1.1 x.1.2.1 x.1.2.2.1 x.1.2.2.2.1 x.2.1 := by kernel_rfl
theorem g35_ok (m : Nat) : FunOK Tryz.prog (g35_T m) :=
  fun_ok hmix htt (g35_T m) Tryz.func35 (c := g35_C) (by kernel_rfl) (by kernel_rfl) (Lc := [g69_T m, g70_T m, g72_T m, g71_T m]) (AllF.mem (l := [g69_T m, g70_T m, g72_T m, g71_T m]) ⟨g69_ok m, g70_ok m, g72_ok m, g71_ok m, trivial⟩) (L := []) (fun _ hE _ _ => loopsIn_of g35_C_ls trivial) (fun x => (g35_kr m x).trans (by kernel_rfl))
/-! 37 sparse/matrix.build -/
def g37_H : Hints := { regs := [⟨[], [0, 1, 2, 6]⟩, ⟨[(0, 1)], [1, 2, 6, 7]⟩, ⟨[(0, 1)], [1, 6, 7, 18, 19, 20]⟩, ⟨[], [1, 6, 7, 18, 19, 20, 21]⟩, ⟨[], [1, 6, 7, 9, 18, 19, 20]⟩, ⟨[(5, 3), (11, 3)], [1, 6, 7, 9, 18, 19, 20]⟩, ⟨[], [1, 6, 7, 18, 19, 20]⟩, ⟨[(1, 1)], [1, 6, 7, 18, 19, 20]⟩, ⟨[(0, 1)], [6, 7, 48, 49]⟩, ⟨[], [6, 7, 48, 49, 50]⟩, ⟨[], [6, 7, 10, 48, 49]⟩, ⟨[], [6, 7, 48, 49]⟩, ⟨[(1, 1)], [6, 7, 48, 49]⟩, ⟨[(0, 1)], [6]⟩], heads := [(0, [1, 6, 7, 18, 19, 20]), (2, [6, 7, 48, 49])], exits := [(0, [1, 6, 7]), (1, [1, 6, 7, 18, 19, 20]), (2, [6, 7]), (3, [6, 7, 48, 49])], rets := [6], pins := [], spec := [[false, false, true, true, true]] }
abbrev g37_A : List Sh := [.a (.c (.int .i64)), .a (.c (.int .i64)), .a (.c (.imm (.pr (.int .i64) (.pr (.int .i64) (.int .u64)))))]
abbrev g37_S : Sh := .a (.agg [(.int .i64), (.int .i64), (.nm 0 (.int .i64)), (.nm 1 (.int .i64)), (.nm 2 (.int .u64))])
abbrev g37_U : List Sh := [.a (.c .dead), .a (.c .dead), .a (.c .dead)]
def g37_R (m : Nat) : ShLVal g37_A → Option (g37_S.Val × ShLVal g37_U) := fun (x : Int × Int × (List (Int × Int × Int)) × Unit) => g37 m x.1 x.2.1 x.2.2.1
def g37_T (m : Nat) : FunT := ⟨37, g37_A, g37_S, g37_U, g37_R m⟩
noncomputable def g37_C : Code := codeOf Tryz.f37
noncomputable def g37_B0 : Code := loopAt g37_C 0 0
theorem g37_B0_ls : loopsL g37_B0 0 = [] := by kernel_rfl
noncomputable def g37_B2 : Code := loopAt g37_C 0 1
theorem g37_B2_ls : loopsL g37_B2 2 = [] := by kernel_rfl
theorem g37_C_ls : loopsL g37_C 0 = [(0, g37_B0), (2, g37_B2)] := by kernel_rfl
abbrev g37_L1_I : SS := [(6, .a (.bx 0 [(.int .i64), (.int .i64), (.nm 1 (.int .i64)), (.nm 2 (.int .i64)), (.nm 3 (.int .u64))])), (7, .a (.bx 4 [(.int .i64), (.int .i64), (.nm 5 (.int .i64)), (.nm 6 (.int .i64)), (.nm 7 (.int .u64))])), (48, .a (.c (.int .i64))), (49, .a (.c (.int .i64)))]
abbrev g37_L1_O : List (Ex × SS) := [(.exit 2, [(6, .a (.bx 0 [(.int .i64), (.int .i64), (.nm 1 (.int .i64)), (.nm 2 (.int .i64)), (.nm 3 (.int .u64))])), (7, .a (.bx 4 [(.int .i64), (.int .i64), (.nm 5 (.int .i64)), (.nm 6 (.int .i64)), (.nm 7 (.int .u64))]))])]
def g37_L1_R (m n : Nat) : g37_L1_I.Val → Option (outVal g37_L1_O) := (fun (x : (Int × Int × List Int × List Int × List Int × Unit) × (Int × Int × List Int × List Int × List Int × Unit) × Int × Int × Unit) => g37_L1 m n x.1.1 x.1.2.1 x.1.2.2.1 x.1.2.2.2.1 x.1.2.2.2.2.1 x.2.1.1 x.2.1.2.1 x.2.1.2.2.1 x.2.1.2.2.2.1 x.2.1.2.2.2.2.1 x.2.2.1 x.2.2.2.1)
def g37_L1_T (m n : Nat) : LoopT := ⟨2, g37_L1_I, g37_L1_O, g37_L1_R m n⟩
theorem g37_L1_kr (m n : Nat) (x : g37_L1_I.Val) : roundK (mkC (outVal g37_L1_O) [g33_T m]) (mkLp (outVal g37_L1_O) []) tt 67 g37_H g37_B2 2 (g37_L1_I.enc x) (Kl (ins := g37_L1_I) (outs := g37_L1_O) (g37_L1_R m n)) = g37_L1 m (n + 1) x.1.1 x.1.2.1 x.1.2.2.1 x.1.2.2.2.1 x.1.2.2.2.2.1 x.2.1.1 x.2.1.2.1 x.2.1.2.2.1 x.2.1.2.2.2.1 x.2.1.2.2.2.2.1 x.2.2.1 x.2.2.2.1 := by kernel_rfl
theorem g37_L1_ok {E : Entry} (hE : EOf Tryz.prog E 67 g37_H.pins) (m : Nat) (n : Nat) : LoopOK Tryz.prog E g37_B2 (g37_L1_T m n) :=
  loop_ok (CO := CallOK Tryz.prog) hmix htt (fun _ _ _ _ h => h) hE (C := fun R => mkC R [g33_T m]) (L := []) (fun _ _ _ _ _ h => mkC_spec (AllF.mem (l := [g33_T m]) ⟨g33_ok m, trivial⟩) h) (fun _ _ => loopsIn_of g37_B2_ls trivial) (fun n => (g37_L1_R m n)) (fun _ => by kernel_rfl) (fun n x => (g37_L1_kr m n x).trans (by kernel_rfl)) n
abbrev g37_L0_I : SS := [(1, .a (.c (.int .i64))), (6, .a (.bx 0 [(.int .i64), (.int .i64), (.nm 1 (.int .i64)), (.nm 2 (.int .i64)), (.nm 3 (.int .u64))])), (7, .a (.bx 4 [(.int .i64), (.int .i64), (.nm 5 (.int .i64)), (.nm 6 (.int .i64)), (.nm 7 (.int .u64))])), (18, .a (.c (.nm 8 (.pr (.int .i64) (.pr (.int .i64) (.int .u64)))))), (19, .a (.c (.int .i64))), (20, .a (.c (.int .i64)))]
abbrev g37_L0_O : List (Ex × SS) := [(.exit 0, [(1, .a (.c (.int .i64))), (6, .a (.bx 0 [(.int .i64), (.int .i64), (.nm 1 (.int .i64)), (.nm 2 (.int .i64)), (.nm 3 (.int .u64))])), (7, .a (.bx 4 [(.int .i64), (.int .i64), (.nm 5 (.int .i64)), (.nm 6 (.int .i64)), (.nm 7 (.int .u64))]))])]
def g37_L0_R (m n : Nat) : g37_L0_I.Val → Option (outVal g37_L0_O) := (fun (x : Int × (Int × Int × List Int × List Int × List Int × Unit) × (Int × Int × List Int × List Int × List Int × Unit) × (List (Int × Int × Int)) × Int × Int × Unit) => g37_L0 m n x.1 x.2.1.1 x.2.1.2.1 x.2.1.2.2.1 x.2.1.2.2.2.1 x.2.1.2.2.2.2.1 x.2.2.1.1 x.2.2.1.2.1 x.2.2.1.2.2.1 x.2.2.1.2.2.2.1 x.2.2.1.2.2.2.2.1 x.2.2.2.1 x.2.2.2.2.1 x.2.2.2.2.2.1)
def g37_L0_T (m n : Nat) : LoopT := ⟨0, g37_L0_I, g37_L0_O, g37_L0_R m n⟩
theorem g37_L0_kr (m n : Nat) (x : g37_L0_I.Val) : roundK (mkC (outVal g37_L0_O) [g33_T m]) (mkLp (outVal g37_L0_O) []) tt 67 g37_H g37_B0 0 (g37_L0_I.enc x) (Kl (ins := g37_L0_I) (outs := g37_L0_O) (g37_L0_R m n)) = g37_L0 m (n + 1) x.1 x.2.1.1 x.2.1.2.1 x.2.1.2.2.1 x.2.1.2.2.2.1 x.2.1.2.2.2.2.1 x.2.2.1.1 x.2.2.1.2.1 x.2.2.1.2.2.1 x.2.2.1.2.2.2.1 x.2.2.1.2.2.2.2.1 x.2.2.2.1 x.2.2.2.2.1 x.2.2.2.2.2.1 := by kernel_rfl
theorem g37_L0_ok {E : Entry} (hE : EOf Tryz.prog E 67 g37_H.pins) (m : Nat) (n : Nat) : LoopOK Tryz.prog E g37_B0 (g37_L0_T m n) :=
  loop_ok (CO := CallOK Tryz.prog) hmix htt (fun _ _ _ _ h => h) hE (C := fun R => mkC R [g33_T m]) (L := []) (fun _ _ _ _ _ h => mkC_spec (AllF.mem (l := [g33_T m]) ⟨g33_ok m, trivial⟩) h) (fun _ _ => loopsIn_of g37_B0_ls trivial) (fun n => (g37_L0_R m n)) (fun _ => by kernel_rfl) (fun n x => (g37_L0_kr m n x).trans (by kernel_rfl)) n
theorem g37_kr (m : Nat) (x : ShLVal g37_A) : fnK (mkC (g37_S.Val × ShLVal g37_U) [g33_T m]) (mkLp (g37_S.Val × ShLVal g37_U) [g37_L0_T m m, g37_L1_T m m]) tt g37_H Tryz.f37 (encS g37_A x) (Kd g37_S g37_U) = g37 m x.1 x.2.1 x.2.2.1 := by kernel_rfl
theorem g37_ok (m : Nat) : FunOK Tryz.prog (g37_T m) :=
  fun_ok hmix htt (g37_T m) Tryz.func37 (c := g37_C) (by kernel_rfl) (by kernel_rfl) (Lc := [g33_T m]) (AllF.mem (l := [g33_T m]) ⟨g33_ok m, trivial⟩) (L := [g37_L0_T m m, g37_L1_T m m]) (fun _ hE _ _ => loopsIn_of g37_C_ls ⟨mkLp_all ⟨fun _ => g37_L0_ok hE m m, fun h => absurd (show (2 : Nat) = 0 from h) (by decide), trivial⟩, mkLp_all ⟨fun h => absurd (show (0 : Nat) = 2 from h) (by decide), fun _ => g37_L1_ok hE m m, trivial⟩, trivial⟩) (fun x => (g37_kr m x).trans (by kernel_rfl))
/-! 9 sparse/matrix.FromEntries -/
def g9_H : Hints := { regs := [⟨[], [0, 1, 2, 6]⟩, ⟨[(3, 1), (8, 1)], [0, 1, 2, 6, 27]⟩, ⟨[], [6, 7]⟩, ⟨[], [0, 1, 2, 6, 29, 30, 31]⟩, ⟨[], [0, 1, 2, 6, 29, 30, 31, 32]⟩, ⟨[], [0, 1, 2, 6, 9, 29, 30, 31]⟩, ⟨[(6, 1)], [0, 1, 2, 6, 29, 30, 31, 48]⟩, ⟨[], [6, 7]⟩, ⟨[(1, 1)], [0, 1, 2, 6, 29, 30, 31]⟩, ⟨[], [0, 1, 2, 6, 51, 52, 53]⟩, ⟨[], [0, 1, 2, 6, 51, 52, 53, 54]⟩, ⟨[], [0, 1, 2, 6, 11, 51, 52, 53]⟩, ⟨[], [0, 1, 2, 6, 51, 52, 53, 60]⟩, ⟨[], [6, 7]⟩, ⟨[(1, 1)], [0, 1, 2, 6, 51, 52, 53]⟩, ⟨[(0, 1), (2, 2)], [0, 1, 2, 6]⟩, ⟨[], [0, 1, 2, 6, 12]⟩, ⟨[], [0, 1, 2, 6, 12, 67]⟩, ⟨[], [0, 1, 2, 6, 12, 13]⟩, ⟨[], [0, 1, 2, 6, 12, 13, 14]⟩, ⟨[(3, 1), (12, 1)], [0, 1, 2, 6, 12, 13, 14, 91]⟩, ⟨[(0, 1), (11, 2)], [0, 1, 2, 6, 12, 13, 14]⟩, ⟨[(0, 1)], [0, 1, 2, 6, 12, 13]⟩, ⟨[], [0, 1, 2, 6, 12, 13, 109]⟩, ⟨[], [6, 7]⟩, ⟨[(0, 1)], [0, 1, 2, 6, 12]⟩, ⟨[(0, 1), (1, 1), (2, 1)], [6, 7]⟩], heads := [(0, [0, 1, 2, 6, 29, 30, 31]), (2, [0, 1, 2, 6, 51, 52, 53]), (4, [0, 1, 2, 6, 12]), (6, [0, 1, 2, 6, 12, 13, 14])], exits := [(0, [0, 1, 2, 6]), (1, [0, 1, 2, 6, 29, 30, 31]), (2, [0, 1, 2, 6]), (3, [0, 1, 2, 6, 51, 52, 53]), (4, [0, 1, 6, 12]), (5, [0, 1, 2, 6, 12]), (6, [0, 1, 2, 6, 12, 13, 14]), (7, [0, 1, 2, 6, 12, 13, 14])], rets := [6, 7], pins := [], spec := [[false, false, true, true, true], [false]] }
abbrev g9_A : List Sh := [.a (.c (.int .i64)), .a (.c (.int .i64)), .a (.c (.imm (.pr (.int .i64) (.pr (.int .i64) (.int .u64)))))]
abbrev g9_S : Sh := .tup [(.agg [(.int .i64), (.int .i64), (.nm 0 (.int .i64)), (.nm 1 (.int .i64)), (.nm 2 (.int .u64))]), (.c (.int .i64))]
abbrev g9_U : List Sh := [.a (.c .dead), .a (.c .dead), .a (.c .dead)]
def g9_R (m : Nat) : ShLVal g9_A → Option (g9_S.Val × ShLVal g9_U) := fun (x : Int × Int × (List (Int × Int × Int)) × Unit) => g9 m x.1 x.2.1 x.2.2.1
def g9_T (m : Nat) : FunT := ⟨9, g9_A, g9_S, g9_U, g9_R m⟩
noncomputable def g9_C : Code := codeOf Tryz.f9
noncomputable def g9_B0 : Code := loopAt g9_C 0 0
theorem g9_B0_ls : loopsL g9_B0 0 = [] := by kernel_rfl
noncomputable def g9_B2 : Code := loopAt g9_C 0 1
theorem g9_B2_ls : loopsL g9_B2 2 = [] := by kernel_rfl
noncomputable def g9_B4 : Code := loopAt g9_C 0 2
noncomputable def g9_B6 : Code := loopAt g9_B4 4 0
theorem g9_B6_ls : loopsL g9_B6 6 = [] := by kernel_rfl
theorem g9_B4_ls : loopsL g9_B4 4 = [(6, g9_B6)] := by kernel_rfl
theorem g9_C_ls : loopsL g9_C 0 = [(0, g9_B0), (2, g9_B2), (4, g9_B4)] := by kernel_rfl
abbrev g9_L3_I : SS := [(0, .a (.c (.int .i64))), (1, .a (.c (.int .i64))), (2, .a (.c (.imm (.pr (.int .i64) (.pr (.int .i64) (.int .u64)))))), (6, .a (.bx 0 [(.int .i64), (.int .i64), (.nm 1 (.int .i64)), (.nm 2 (.int .i64)), (.nm 3 (.int .u64))])), (12, .a (.c (.nm 4 (.pr (.int .i64) (.pr (.int .i64) (.int .u64)))))), (13, .a (.bx 5 [(.int .i64), (.int .i64), (.int .u64)])), (14, .a (.c (.nm 6 (.pr .bool (.pr (.pr .bool (.sl false (.int .u32))) (.int .i64))))))]
abbrev g9_L3_O : List (Ex × SS) := [(.exit 6, [(0, .a (.c (.int .i64))), (1, .a (.c (.int .i64))), (2, .a (.c (.imm (.pr (.int .i64) (.pr (.int .i64) (.int .u64)))))), (6, .a (.bx 0 [(.int .i64), (.int .i64), (.nm 1 (.int .i64)), (.nm 2 (.int .i64)), (.nm 3 (.int .u64))])), (12, .a (.c (.nm 4 (.pr (.int .i64) (.pr (.int .i64) (.int .u64)))))), (13, .a (.bx 5 [(.int .i64), (.int .i64), (.int .u64)])), (14, .a (.c (.nm 6 (.pr .bool (.pr (.pr .bool (.sl false (.int .u32))) (.int .i64))))))])]
def g9_L3_R (m n : Nat) : g9_L3_I.Val → Option (outVal g9_L3_O) := (fun (x : Int × Int × (List (Int × Int × Int)) × (Int × Int × List Int × List Int × List Int × Unit) × (List (Int × Int × Int)) × (Int × Int × Int × Unit) × (List (Bool × (Bool × List Int) × Int)) × Unit) => g9_L3 m n x.1 x.2.1 x.2.2.1 x.2.2.2.1.1 x.2.2.2.1.2.1 x.2.2.2.1.2.2.1 x.2.2.2.1.2.2.2.1 x.2.2.2.1.2.2.2.2.1 x.2.2.2.2.1 x.2.2.2.2.2.1.1 x.2.2.2.2.2.1.2.1 x.2.2.2.2.2.1.2.2.1 x.2.2.2.2.2.2.1)
def g9_L3_T (m n : Nat) : LoopT := ⟨6, g9_L3_I, g9_L3_O, g9_L3_R m n⟩
theorem g9_L3_kr (m n : Nat) (x : g9_L3_I.Val) : roundK (mkC (outVal g9_L3_O) [g31_T m, g32_T m, g33_T m, g34_T m, g36_T m, g35_T m, g37_T m]) (mkLp (outVal g9_L3_O) []) tt 119 g9_H g9_B6 6 (g9_L3_I.enc x) (Kl (ins := g9_L3_I) (outs := g9_L3_O) (g9_L3_R m n)) = g9_L3 m (n + 1) x.1 x.2.1 x.2.2.1 x.2.2.2.1.1 x.2.2.2.1.2.1 x.2.2.2.1.2.2.1 x.2.2.2.1.2.2.2.1 x.2.2.2.1.2.2.2.2.1 x.2.2.2.2.1 x.2.2.2.2.2.1.1 x.2.2.2.2.2.1.2.1 x.2.2.2.2.2.1.2.2.1 x.2.2.2.2.2.2.1 := by kernel_rfl
theorem g9_L3_ok {E : Entry} (hE : EOf Tryz.prog E 119 g9_H.pins) (m : Nat) (n : Nat) : LoopOK Tryz.prog E g9_B6 (g9_L3_T m n) :=
  loop_ok (CO := CallOK Tryz.prog) hmix htt (fun _ _ _ _ h => h) hE (C := fun R => mkC R [g31_T m, g32_T m, g33_T m, g34_T m, g36_T m, g35_T m, g37_T m]) (L := []) (fun _ _ _ _ _ h => mkC_spec (AllF.mem (l := [g31_T m, g32_T m, g33_T m, g34_T m, g36_T m, g35_T m, g37_T m]) ⟨g31_ok m, g32_ok m, g33_ok m, g34_ok m, g36_ok m, g35_ok m, g37_ok m, trivial⟩) h) (fun _ _ => loopsIn_of g9_B6_ls trivial) (fun n => (g9_L3_R m n)) (fun _ => by kernel_rfl) (fun n x => (g9_L3_kr m n x).trans (by kernel_rfl)) n
abbrev g9_L2_I : SS := [(0, .a (.c (.int .i64))), (1, .a (.c (.int .i64))), (2, .a (.c (.imm (.pr (.int .i64) (.pr (.int .i64) (.int .u64)))))), (6, .a (.bx 0 [(.int .i64), (.int .i64), (.nm 1 (.int .i64)), (.nm 2 (.int .i64)), (.nm 3 (.int .u64))])), (12, .a (.c (.nm 4 (.pr (.int .i64) (.pr (.int .i64) (.int .u64))))))]
abbrev g9_L2_O : List (Ex × SS) := [(.ret, [(6, .a (.bx 0 [(.int .i64), (.int .i64), (.nm 1 (.int .i64)), (.nm 2 (.int .i64)), (.nm 3 (.int .u64))])), (7, .a (.c (.int .i64)))]), (.exit 4, [(0, .a (.c (.int .i64))), (1, .a (.c (.int .i64))), (6, .a (.bx 0 [(.int .i64), (.int .i64), (.nm 1 (.int .i64)), (.nm 2 (.int .i64)), (.nm 3 (.int .u64))])), (12, .a (.c (.nm 4 (.pr (.int .i64) (.pr (.int .i64) (.int .u64))))))])]
def g9_L2_R (m n : Nat) : g9_L2_I.Val → Option (outVal g9_L2_O) := (fun (x : Int × Int × (List (Int × Int × Int)) × (Int × Int × List Int × List Int × List Int × Unit) × (List (Int × Int × Int)) × Unit) => g9_L2 m n x.1 x.2.1 x.2.2.1 x.2.2.2.1.1 x.2.2.2.1.2.1 x.2.2.2.1.2.2.1 x.2.2.2.1.2.2.2.1 x.2.2.2.1.2.2.2.2.1 x.2.2.2.2.1)
def g9_L2_T (m n : Nat) : LoopT := ⟨4, g9_L2_I, g9_L2_O, g9_L2_R m n⟩
theorem g9_L2_kr (m n : Nat) (x : g9_L2_I.Val) : roundK (mkC (outVal g9_L2_O) [g31_T m, g32_T m, g33_T m, g34_T m, g36_T m, g35_T m, g37_T m]) (mkLp (outVal g9_L2_O) [g9_L3_T m m]) tt 119 g9_H g9_B4 4 (g9_L2_I.enc x) (Kl (ins := g9_L2_I) (outs := g9_L2_O) (g9_L2_R m n)) = g9_L2 m (n + 1) x.1 x.2.1 x.2.2.1 x.2.2.2.1.1 x.2.2.2.1.2.1 x.2.2.2.1.2.2.1 x.2.2.2.1.2.2.2.1 x.2.2.2.1.2.2.2.2.1 x.2.2.2.2.1 := by kernel_rfl
theorem g9_L2_ok {E : Entry} (hE : EOf Tryz.prog E 119 g9_H.pins) (m : Nat) (n : Nat) : LoopOK Tryz.prog E g9_B4 (g9_L2_T m n) :=
  loop_ok (CO := CallOK Tryz.prog) hmix htt (fun _ _ _ _ h => h) hE (C := fun R => mkC R [g31_T m, g32_T m, g33_T m, g34_T m, g36_T m, g35_T m, g37_T m]) (L := [g9_L3_T m m]) (fun _ _ _ _ _ h => mkC_spec (AllF.mem (l := [g31_T m, g32_T m, g33_T m, g34_T m, g36_T m, g35_T m, g37_T m]) ⟨g31_ok m, g32_ok m, g33_ok m, g34_ok m, g36_ok m, g35_ok m, g37_ok m, trivial⟩) h) (fun _ _ => loopsIn_of g9_B4_ls ⟨mkLp_all ⟨fun _ => g9_L3_ok hE m m, trivial⟩, trivial⟩) (fun n => (g9_L2_R m n)) (fun _ => by kernel_rfl) (fun n x => (g9_L2_kr m n x).trans (by kernel_rfl)) n
abbrev g9_L1_I : SS := [(0, .a (.c (.int .i64))), (1, .a (.c (.int .i64))), (2, .a (.c (.imm (.pr (.int .i64) (.pr (.int .i64) (.int .u64)))))), (6, .a (.bx 0 [(.int .i64), (.int .i64), (.nm 1 (.int .i64)), (.nm 2 (.int .i64)), (.nm 3 (.int .u64))])), (51, .a (.c (.imm (.pr (.int .i64) (.pr (.int .i64) (.int .u64)))))), (52, .a (.c (.int .i64))), (53, .a (.c (.int .i64)))]
abbrev g9_L1_O : List (Ex × SS) := [(.ret, [(6, .a (.bx 0 [(.int .i64), (.int .i64), (.nm 1 (.int .i64)), (.nm 2 (.int .i64)), (.nm 3 (.int .u64))])), (7, .a (.c (.int .i64)))]), (.exit 2, [(0, .a (.c (.int .i64))), (1, .a (.c (.int .i64))), (2, .a (.c (.imm (.pr (.int .i64) (.pr (.int .i64) (.int .u64)))))), (6, .a (.bx 0 [(.int .i64), (.int .i64), (.nm 1 (.int .i64)), (.nm 2 (.int .i64)), (.nm 3 (.int .u64))]))])]
def g9_L1_R (m n : Nat) : g9_L1_I.Val → Option (outVal g9_L1_O) := (fun (x : Int × Int × (List (Int × Int × Int)) × (Int × Int × List Int × List Int × List Int × Unit) × (List (Int × Int × Int)) × Int × Int × Unit) => g9_L1 m n x.1 x.2.1 x.2.2.1 x.2.2.2.1.1 x.2.2.2.1.2.1 x.2.2.2.1.2.2.1 x.2.2.2.1.2.2.2.1 x.2.2.2.1.2.2.2.2.1 x.2.2.2.2.1 x.2.2.2.2.2.1 x.2.2.2.2.2.2.1)
def g9_L1_T (m n : Nat) : LoopT := ⟨2, g9_L1_I, g9_L1_O, g9_L1_R m n⟩
theorem g9_L1_kr (m n : Nat) (x : g9_L1_I.Val) : roundK (mkC (outVal g9_L1_O) [g31_T m, g32_T m, g33_T m, g34_T m, g36_T m, g35_T m, g37_T m]) (mkLp (outVal g9_L1_O) []) tt 119 g9_H g9_B2 2 (g9_L1_I.enc x) (Kl (ins := g9_L1_I) (outs := g9_L1_O) (g9_L1_R m n)) = g9_L1 m (n + 1) x.1 x.2.1 x.2.2.1 x.2.2.2.1.1 x.2.2.2.1.2.1 x.2.2.2.1.2.2.1 x.2.2.2.1.2.2.2.1 x.2.2.2.1.2.2.2.2.1 x.2.2.2.2.1 x.2.2.2.2.2.1 x.2.2.2.2.2.2.1 := by kernel_rfl
theorem g9_L1_ok {E : Entry} (hE : EOf Tryz.prog E 119 g9_H.pins) (m : Nat) (n : Nat) : LoopOK Tryz.prog E g9_B2 (g9_L1_T m n) :=
  loop_ok (CO := CallOK Tryz.prog) hmix htt (fun _ _ _ _ h => h) hE (C := fun R => mkC R [g31_T m, g32_T m, g33_T m, g34_T m, g36_T m, g35_T m, g37_T m]) (L := []) (fun _ _ _ _ _ h => mkC_spec (AllF.mem (l := [g31_T m, g32_T m, g33_T m, g34_T m, g36_T m, g35_T m, g37_T m]) ⟨g31_ok m, g32_ok m, g33_ok m, g34_ok m, g36_ok m, g35_ok m, g37_ok m, trivial⟩) h) (fun _ _ => loopsIn_of g9_B2_ls trivial) (fun n => (g9_L1_R m n)) (fun _ => by kernel_rfl) (fun n x => (g9_L1_kr m n x).trans (by kernel_rfl)) n
abbrev g9_L0_I : SS := [(0, .a (.c (.int .i64))), (1, .a (.c (.int .i64))), (2, .a (.c (.imm (.pr (.int .i64) (.pr (.int .i64) (.int .u64)))))), (6, .a (.bx 0 [(.int .i64), (.int .i64), (.nm 1 (.int .i64)), (.nm 2 (.int .i64)), (.nm 3 (.int .u64))])), (29, .a (.c (.imm (.pr (.int .i64) (.pr (.int .i64) (.int .u64)))))), (30, .a (.c (.int .i64))), (31, .a (.c (.int .i64)))]
abbrev g9_L0_O : List (Ex × SS) := [(.ret, [(6, .a (.bx 0 [(.int .i64), (.int .i64), (.nm 1 (.int .i64)), (.nm 2 (.int .i64)), (.nm 3 (.int .u64))])), (7, .a (.c (.int .i64)))]), (.exit 0, [(0, .a (.c (.int .i64))), (1, .a (.c (.int .i64))), (2, .a (.c (.imm (.pr (.int .i64) (.pr (.int .i64) (.int .u64)))))), (6, .a (.bx 0 [(.int .i64), (.int .i64), (.nm 1 (.int .i64)), (.nm 2 (.int .i64)), (.nm 3 (.int .u64))]))])]
def g9_L0_R (m n : Nat) : g9_L0_I.Val → Option (outVal g9_L0_O) := (fun (x : Int × Int × (List (Int × Int × Int)) × (Int × Int × List Int × List Int × List Int × Unit) × (List (Int × Int × Int)) × Int × Int × Unit) => g9_L0 m n x.1 x.2.1 x.2.2.1 x.2.2.2.1.1 x.2.2.2.1.2.1 x.2.2.2.1.2.2.1 x.2.2.2.1.2.2.2.1 x.2.2.2.1.2.2.2.2.1 x.2.2.2.2.1 x.2.2.2.2.2.1 x.2.2.2.2.2.2.1)
def g9_L0_T (m n : Nat) : LoopT := ⟨0, g9_L0_I, g9_L0_O, g9_L0_R m n⟩
theorem g9_L0_kr (m n : Nat) (x : g9_L0_I.Val) : roundK (mkC (outVal g9_L0_O) [g31_T m, g32_T m, g33_T m, g34_T m, g36_T m, g35_T m, g37_T m]) (mkLp (outVal g9_L0_O) []) tt 119 g9_H g9_B0 0 (g9_L0_I.enc x) (Kl (ins := g9_L0_I) (outs := g9_L0_O) (g9_L0_R m n)) = g9_L0 m (n + 1) x.1 x.2.1 x.2.2.1 x.2.2.2.1.1 x.2.2.2.1.2.1 x.2.2.2.1.2.2.1 x.2.2.2.1.2.2.2.1 x.2.2.2.1.2.2.2.2.1 x.2.2.2.2.1 x.2.2.2.2.2.1 x.2.2.2.2.2.2.1 := by kernel_rfl
theorem g9_L0_ok {E : Entry} (hE : EOf Tryz.prog E 119 g9_H.pins) (m : Nat) (n : Nat) : LoopOK Tryz.prog E g9_B0 (g9_L0_T m n) :=
  loop_ok (CO := CallOK Tryz.prog) hmix htt (fun _ _ _ _ h => h) hE (C := fun R => mkC R [g31_T m, g32_T m, g33_T m, g34_T m, g36_T m, g35_T m, g37_T m]) (L := []) (fun _ _ _ _ _ h => mkC_spec (AllF.mem (l := [g31_T m, g32_T m, g33_T m, g34_T m, g36_T m, g35_T m, g37_T m]) ⟨g31_ok m, g32_ok m, g33_ok m, g34_ok m, g36_ok m, g35_ok m, g37_ok m, trivial⟩) h) (fun _ _ => loopsIn_of g9_B0_ls trivial) (fun n => (g9_L0_R m n)) (fun _ => by kernel_rfl) (fun n x => (g9_L0_kr m n x).trans (by kernel_rfl)) n
theorem g9_kr (m : Nat) (x : ShLVal g9_A) : fnK (mkC (g9_S.Val × ShLVal g9_U) [g31_T m, g32_T m, g33_T m, g34_T m, g36_T m, g35_T m, g37_T m]) (mkLp (g9_S.Val × ShLVal g9_U) [g9_L0_T m m, g9_L1_T m m, g9_L2_T m m]) tt g9_H Tryz.f9 (encS g9_A x) (Kd g9_S g9_U) = g9 m x.1 x.2.1 x.2.2.1 := by kernel_rfl
theorem g9_ok (m : Nat) : FunOK Tryz.prog (g9_T m) :=
  fun_ok hmix htt (g9_T m) Tryz.func9 (c := g9_C) (by kernel_rfl) (by kernel_rfl) (Lc := [g31_T m, g32_T m, g33_T m, g34_T m, g36_T m, g35_T m, g37_T m]) (AllF.mem (l := [g31_T m, g32_T m, g33_T m, g34_T m, g36_T m, g35_T m, g37_T m]) ⟨g31_ok m, g32_ok m, g33_ok m, g34_ok m, g36_ok m, g35_ok m, g37_ok m, trivial⟩) (L := [g9_L0_T m m, g9_L1_T m m, g9_L2_T m m]) (fun _ hE _ _ => loopsIn_of g9_C_ls ⟨mkLp_all ⟨fun _ => g9_L0_ok hE m m, fun h => absurd (show (2 : Nat) = 0 from h) (by decide), fun h => absurd (show (4 : Nat) = 0 from h) (by decide), trivial⟩, mkLp_all ⟨fun h => absurd (show (0 : Nat) = 2 from h) (by decide), fun _ => g9_L1_ok hE m m, fun h => absurd (show (4 : Nat) = 2 from h) (by decide), trivial⟩, mkLp_all ⟨fun h => absurd (show (0 : Nat) = 4 from h) (by decide), fun h => absurd (show (2 : Nat) = 4 from h) (by decide), fun _ => g9_L2_ok hE m m, trivial⟩, trivial⟩) (fun x => (g9_kr m x).trans (by kernel_rfl))
/-! 115 cmp.Less_int_ -/
def g115_H : Hints := { regs := [⟨[], [0, 1]⟩, ⟨[(2, 1), (7, 1)], [4]⟩], heads := [], exits := [], rets := [4], pins := [], spec := [[false]] }
abbrev g115_A : List Sh := [.a (.c (.int .i64)), .a (.c (.int .i64))]
abbrev g115_S : Sh := .a (.c .bool)
abbrev g115_U : List Sh := [.a (.c .dead), .a (.c .dead)]
def g115_R (m : Nat) : ShLVal g115_A → Option (g115_S.Val × ShLVal g115_U) := fun (x : Int × Int × Unit) => g115 m x.1 x.2.1
def g115_T (m : Nat) : FunT := ⟨115, g115_A, g115_S, g115_U, g115_R m⟩
noncomputable def g115_C : Code := codeOf Tryz.f115
theorem g115_C_ls : loopsL g115_C 0 = [] := by kernel_rfl
theorem g115_kr (m : Nat) (x : ShLVal g115_A) : fnK (mkC (g115_S.Val × ShLVal g115_U) [g95_T m]) (mkLp (g115_S.Val × ShLVal g115_U) []) tt g115_H Tryz.f115 (encS g115_A x) (Kd g115_S g115_U) = g115 m x.1 x.2.1 := by kernel_rfl
theorem g115_ok (m : Nat) : FunOK Tryz.prog (g115_T m) :=
  fun_ok hmix htt (g115_T m) Tryz.func115 (c := g115_C) (by kernel_rfl) (by kernel_rfl) (Lc := [g95_T m]) (AllF.mem (l := [g95_T m]) ⟨g95_ok m, trivial⟩) (L := []) (fun _ hE _ _ => loopsIn_of g115_C_ls trivial) (fun x => (g115_kr m x).trans (by kernel_rfl))
/-! 85 slices.IsSorted___int_int_ -/
def g85_H : Hints := { regs := [⟨[], [0]⟩, ⟨[], [0, 3]⟩, ⟨[], [0, 3, 8]⟩, ⟨[(0, 1)], [0, 3]⟩, ⟨[], [0, 3, 20]⟩, ⟨[], [2]⟩, ⟨[], [2]⟩], heads := [(0, [0, 3])], exits := [(0, []), (1, [0, 3])], rets := [2], pins := [], spec := [[false]] }
abbrev g85_A : List Sh := [.a (.c (.imm (.int .i64)))]
abbrev g85_S : Sh := .a (.c .bool)
abbrev g85_U : List Sh := [.a (.c .dead)]
def g85_R (m : Nat) : ShLVal g85_A → Option (g85_S.Val × ShLVal g85_U) := fun (x : List Int × Unit) => g85 m x.1
def g85_T (m : Nat) : FunT := ⟨85, g85_A, g85_S, g85_U, g85_R m⟩
noncomputable def g85_C : Code := codeOf Tryz.f85
noncomputable def g85_B0 : Code := loopAt g85_C 0 0
theorem g85_B0_ls : loopsL g85_B0 0 = [] := by kernel_rfl
theorem g85_C_ls : loopsL g85_C 0 = [(0, g85_B0)] := by kernel_rfl
abbrev g85_L0_I : SS := [(0, .a (.c (.imm (.int .i64)))), (3, .a (.c (.int .i64)))]
abbrev g85_L0_O : List (Ex × SS) := [(.ret, [(2, .a (.c .bool))]), (.exit 0, [])]
def g85_L0_R (m n : Nat) : g85_L0_I.Val → Option (outVal g85_L0_O) := (fun (x : List Int × Int × Unit) => g85_L0 m n x.1 x.2.1)
def g85_L0_T (m n : Nat) : LoopT := ⟨0, g85_L0_I, g85_L0_O, g85_L0_R m n⟩
theorem g85_L0_kr (m n : Nat) (x : g85_L0_I.Val) : roundK (mkC (outVal g85_L0_O) [g115_T m]) (mkLp (outVal g85_L0_O) []) tt 21 g85_H g85_B0 0 (g85_L0_I.enc x) (Kl (ins := g85_L0_I) (outs := g85_L0_O) (g85_L0_R m n)) = g85_L0 m (n + 1) x.1 x.2.1 := by kernel_rfl
theorem g85_L0_ok {E : Entry} (hE : EOf Tryz.prog E 21 g85_H.pins) (m : Nat) (n : Nat) : LoopOK Tryz.prog E g85_B0 (g85_L0_T m n) :=
  loop_ok (CO := CallOK Tryz.prog) hmix htt (fun _ _ _ _ h => h) hE (C := fun R => mkC R [g115_T m]) (L := []) (fun _ _ _ _ _ h => mkC_spec (AllF.mem (l := [g115_T m]) ⟨g115_ok m, trivial⟩) h) (fun _ _ => loopsIn_of g85_B0_ls trivial) (fun n => (g85_L0_R m n)) (fun _ => by kernel_rfl) (fun n x => (g85_L0_kr m n x).trans (by kernel_rfl)) n
theorem g85_kr (m : Nat) (x : ShLVal g85_A) : fnK (mkC (g85_S.Val × ShLVal g85_U) [g115_T m]) (mkLp (g85_S.Val × ShLVal g85_U) [g85_L0_T m m]) tt g85_H Tryz.f85 (encS g85_A x) (Kd g85_S g85_U) = g85 m x.1 := by kernel_rfl
theorem g85_ok (m : Nat) : FunOK Tryz.prog (g85_T m) :=
  fun_ok hmix htt (g85_T m) Tryz.func85 (c := g85_C) (by kernel_rfl) (by kernel_rfl) (Lc := [g115_T m]) (AllF.mem (l := [g115_T m]) ⟨g115_ok m, trivial⟩) (L := [g85_L0_T m m]) (fun _ hE _ _ => loopsIn_of g85_C_ls ⟨mkLp_all ⟨fun _ => g85_L0_ok hE m m, trivial⟩, trivial⟩) (fun x => (g85_kr m x).trans (by kernel_rfl))
/-! 53 sparse/matrix.columns -/
def g53_H : Hints := { regs := [⟨[], [1]⟩, ⟨[(7, 1), (14, 1), (20, 1), (32, 1)], [1, 47]⟩, ⟨[], [2]⟩, ⟨[], [1, 49, 50]⟩, ⟨[], [1, 49, 50, 51]⟩, ⟨[], [1, 3, 49, 50]⟩, ⟨[], [1, 3, 4, 49, 50]⟩, ⟨[], [1, 4, 49, 50, 66, 67, 68]⟩, ⟨[], [1, 4, 49, 50, 66, 67, 68, 69]⟩, ⟨[], [1, 4, 6, 49, 50, 66, 67, 68]⟩, ⟨[(1, 1), (3, 1)], [1, 6, 49, 50, 66, 67, 68, 80]⟩, ⟨[], [2]⟩, ⟨[(0, 1)], [1, 4, 49, 50, 66, 67, 68]⟩, ⟨[(1, 1)], [1, 4, 49, 50, 66, 67, 68]⟩, ⟨[(1, 1)], [1, 49, 50]⟩, ⟨[], [2]⟩], heads := [(0, [1, 49, 50]), (2, [1, 4, 49, 50, 66, 67, 68])], exits := [(0, []), (1, [1, 49, 50]), (2, [1, 49, 50]), (3, [1, 4, 49, 50, 66, 67, 68])], rets := [2], pins := [], spec := [[false]] }
abbrev g53_A : List Sh := [.a (.agg [(.int .i64), (.int .i64), (.imm (.int .i64)), (.imm (.int .i64)), (.imm (.int .u64))])]
abbrev g53_S : Sh := .a (.c .bool)
abbrev g53_U : List Sh := [.a (.c .dead)]
def g53_R (m : Nat) : ShLVal g53_A → Option (g53_S.Val × ShLVal g53_U) := fun (x : (Int × Int × List Int × List Int × List Int × Unit) × Unit) => g53 m x.1.1 x.1.2.1 x.1.2.2.1 x.1.2.2.2.1 x.1.2.2.2.2.1
def g53_T (m : Nat) : FunT := ⟨53, g53_A, g53_S, g53_U, g53_R m⟩
noncomputable def g53_C : Code := codeOf Tryz.f53
noncomputable def g53_B0 : Code := loopAt g53_C 0 0
noncomputable def g53_B2 : Code := loopAt g53_B0 0 0
theorem g53_B2_ls : loopsL g53_B2 2 = [] := by kernel_rfl
theorem g53_B0_ls : loopsL g53_B0 0 = [(2, g53_B2)] := by kernel_rfl
theorem g53_C_ls : loopsL g53_C 0 = [(0, g53_B0)] := by kernel_rfl
abbrev g53_L1_I : SS := [(1, .a (.bx 0 [(.int .i64), (.int .i64), (.imm (.int .i64)), (.imm (.int .i64)), (.imm (.int .u64))])), (4, .a (.c (.int .i64))), (49, .a (.c (.int .i64))), (50, .a (.c (.int .i64))), (66, .a (.c (.imm (.int .i64)))), (67, .a (.c (.int .i64))), (68, .a (.c (.int .i64)))]
abbrev g53_L1_O : List (Ex × SS) := [(.ret, [(2, .a (.c .bool))]), (.exit 2, [(1, .a (.bx 0 [(.int .i64), (.int .i64), (.imm (.int .i64)), (.imm (.int .i64)), (.imm (.int .u64))])), (49, .a (.c (.int .i64))), (50, .a (.c (.int .i64)))])]
def g53_L1_R (m n : Nat) : g53_L1_I.Val → Option (outVal g53_L1_O) := (fun (x : (Int × Int × List Int × List Int × List Int × Unit) × Int × Int × Int × List Int × Int × Int × Unit) => g53_L1 m n x.1.1 x.1.2.1 x.1.2.2.1 x.1.2.2.2.1 x.1.2.2.2.2.1 x.2.1 x.2.2.1 x.2.2.2.1 x.2.2.2.2.1 x.2.2.2.2.2.1 x.2.2.2.2.2.2.1)
def g53_L1_T (m n : Nat) : LoopT := ⟨2, g53_L1_I, g53_L1_O, g53_L1_R m n⟩
theorem g53_L1_kr (m n : Nat) (x : g53_L1_I.Val) : roundK (mkC (outVal g53_L1_O) [g85_T m]) (mkLp (outVal g53_L1_O) []) tt 84 g53_H g53_B2 2 (g53_L1_I.enc x) (Kl (ins := g53_L1_I) (outs := g53_L1_O) (g53_L1_R m n)) = g53_L1 m (n + 1) x.1.1 x.1.2.1 x.1.2.2.1 x.1.2.2.2.1 x.1.2.2.2.2.1 x.2.1 x.2.2.1 x.2.2.2.1 x.2.2.2.2.1 x.2.2.2.2.2.1 x.2.2.2.2.2.2.1 := by kernel_rfl
theorem g53_L1_ok {E : Entry} (hE : EOf Tryz.prog E 84 g53_H.pins) (m : Nat) (n : Nat) : LoopOK Tryz.prog E g53_B2 (g53_L1_T m n) :=
  loop_ok (CO := CallOK Tryz.prog) hmix htt (fun _ _ _ _ h => h) hE (C := fun R => mkC R [g85_T m]) (L := []) (fun _ _ _ _ _ h => mkC_spec (AllF.mem (l := [g85_T m]) ⟨g85_ok m, trivial⟩) h) (fun _ _ => loopsIn_of g53_B2_ls trivial) (fun n => (g53_L1_R m n)) (fun _ => by kernel_rfl) (fun n x => (g53_L1_kr m n x).trans (by kernel_rfl)) n
abbrev g53_L0_I : SS := [(1, .a (.bx 0 [(.int .i64), (.int .i64), (.imm (.int .i64)), (.imm (.int .i64)), (.imm (.int .u64))])), (49, .a (.c (.int .i64))), (50, .a (.c (.int .i64)))]
abbrev g53_L0_O : List (Ex × SS) := [(.ret, [(2, .a (.c .bool))]), (.exit 0, [])]
def g53_L0_R (m n : Nat) : g53_L0_I.Val → Option (outVal g53_L0_O) := (fun (x : (Int × Int × List Int × List Int × List Int × Unit) × Int × Int × Unit) => g53_L0 m n x.1.1 x.1.2.1 x.1.2.2.1 x.1.2.2.2.1 x.1.2.2.2.2.1 x.2.1 x.2.2.1)
def g53_L0_T (m n : Nat) : LoopT := ⟨0, g53_L0_I, g53_L0_O, g53_L0_R m n⟩
theorem g53_L0_kr (m n : Nat) (x : g53_L0_I.Val) : roundK (mkC (outVal g53_L0_O) [g85_T m]) (mkLp (outVal g53_L0_O) [g53_L1_T m m]) tt 84 g53_H g53_B0 0 (g53_L0_I.enc x) (Kl (ins := g53_L0_I) (outs := g53_L0_O) (g53_L0_R m n)) = g53_L0 m (n + 1) x.1.1 x.1.2.1 x.1.2.2.1 x.1.2.2.2.1 x.1.2.2.2.2.1 x.2.1 x.2.2.1 := by kernel_rfl
theorem g53_L0_ok {E : Entry} (hE : EOf Tryz.prog E 84 g53_H.pins) (m : Nat) (n : Nat) : LoopOK Tryz.prog E g53_B0 (g53_L0_T m n) :=
  loop_ok (CO := CallOK Tryz.prog) hmix htt (fun _ _ _ _ h => h) hE (C := fun R => mkC R [g85_T m]) (L := [g53_L1_T m m]) (fun _ _ _ _ _ h => mkC_spec (AllF.mem (l := [g85_T m]) ⟨g85_ok m, trivial⟩) h) (fun _ _ => loopsIn_of g53_B0_ls ⟨mkLp_all ⟨fun _ => g53_L1_ok hE m m, trivial⟩, trivial⟩) (fun n => (g53_L0_R m n)) (fun _ => by kernel_rfl) (fun n x => (g53_L0_kr m n x).trans (by kernel_rfl)) n
theorem g53_kr (m : Nat) (x : ShLVal g53_A) : fnK (mkC (g53_S.Val × ShLVal g53_U) [g85_T m]) (mkLp (g53_S.Val × ShLVal g53_U) [g53_L0_T m m]) tt g53_H Tryz.f53 (encS g53_A x) (Kd g53_S g53_U) = g53 m x.1.1 x.1.2.1 x.1.2.2.1 x.1.2.2.2.1 x.1.2.2.2.2.1 := by kernel_rfl
theorem g53_ok (m : Nat) : FunOK Tryz.prog (g53_T m) :=
  fun_ok hmix htt (g53_T m) Tryz.func53 (c := g53_C) (by kernel_rfl) (by kernel_rfl) (Lc := [g85_T m]) (AllF.mem (l := [g85_T m]) ⟨g85_ok m, trivial⟩) (L := [g53_L0_T m m]) (fun _ hE _ _ => loopsIn_of g53_C_ls ⟨mkLp_all ⟨fun _ => g53_L0_ok hE m m, trivial⟩, trivial⟩) (fun x => (g53_kr m x).trans (by kernel_rfl))
/-! 55 sparse/matrix.Check_1 -/
def g55_H : Hints := { regs := [⟨[], [0]⟩, ⟨[(0, 1)], [2]⟩], heads := [], exits := [], rets := [2], pins := [], spec := [[false]] }
abbrev g55_A : List Sh := [.a (.c (.int .u64))]
abbrev g55_S : Sh := .a (.c .bool)
abbrev g55_U : List Sh := [.a (.c .dead)]
def g55_R (m : Nat) : ShLVal g55_A → Option (g55_S.Val × ShLVal g55_U) := fun (x : Int × Unit) => g55 m x.1
def g55_T (m : Nat) : FunT := ⟨55, g55_A, g55_S, g55_U, g55_R m⟩
noncomputable def g55_C : Code := codeOf Tryz.f55
theorem g55_C_ls : loopsL g55_C 0 = [] := by kernel_rfl
theorem g55_kr (m : Nat) (x : ShLVal g55_A) : fnK (mkC (g55_S.Val × ShLVal g55_U) [g32_T m]) (mkLp (g55_S.Val × ShLVal g55_U) []) tt g55_H Tryz.f55 (encS g55_A x) (Kd g55_S g55_U) = g55 m x.1 := by kernel_rfl
theorem g55_ok (m : Nat) : FunOK Tryz.prog (g55_T m) :=
  fun_ok hmix htt (g55_T m) Tryz.func55 (c := g55_C) (by kernel_rfl) (by kernel_rfl) (Lc := [g32_T m]) (AllF.mem (l := [g32_T m]) ⟨g32_ok m, trivial⟩) (L := []) (fun _ hE _ _ => loopsIn_of g55_C_ls trivial) (fun x => (g55_kr m x).trans (by kernel_rfl))
/-! 86 slices.IndexFunc___sparse/api.Float_sparse/api.Float_ -/
def g86_H : Hints := { regs := [⟨[], [0, 1]⟩, ⟨[], [0, 1, 7, 8]⟩, ⟨[], [0, 1, 7, 8, 9]⟩, ⟨[], [0, 1, 5, 7, 8]⟩, ⟨[], [0, 1, 5, 7, 8, 16]⟩, ⟨[(0, 1)], [4]⟩, ⟨[(1, 1)], [0, 1, 7, 8]⟩, ⟨[], [4]⟩], heads := [(0, [0, 1, 7, 8])], exits := [(0, []), (1, [0, 1, 7, 8])], rets := [4], pins := [], spec := [[false]] }
abbrev g86_A : List Sh := [.a (.c (.imm (.int .u64))), .a (.c (.fn 55))]
abbrev g86_S : Sh := .a (.c (.int .i64))
abbrev g86_U : List Sh := [.a (.c .dead), .a (.c .dead)]
def g86_R (m : Nat) : ShLVal g86_A → Option (g86_S.Val × ShLVal g86_U) := fun (x : List Int × Unit × Unit) => g86 m x.1
def g86_T (m : Nat) : FunT := ⟨86, g86_A, g86_S, g86_U, g86_R m⟩
noncomputable def g86_C : Code := codeOf Tryz.f86
noncomputable def g86_B0 : Code := loopAt g86_C 0 0
theorem g86_B0_ls : loopsL g86_B0 0 = [] := by kernel_rfl
theorem g86_C_ls : loopsL g86_C 0 = [(0, g86_B0)] := by kernel_rfl
abbrev g86_L0_I : SS := [(0, .a (.c (.imm (.int .u64)))), (1, .a (.c (.fn 55))), (7, .a (.c (.int .i64))), (8, .a (.c (.int .i64)))]
abbrev g86_L0_O : List (Ex × SS) := [(.ret, [(4, .a (.c (.int .i64)))]), (.exit 0, [])]
def g86_L0_R (m n : Nat) : g86_L0_I.Val → Option (outVal g86_L0_O) := (fun (x : List Int × Unit × Int × Int × Unit) => g86_L0 m n x.1 x.2.2.1 x.2.2.2.1)
def g86_L0_T (m n : Nat) : LoopT := ⟨0, g86_L0_I, g86_L0_O, g86_L0_R m n⟩
theorem g86_L0_kr (m n : Nat) (x : g86_L0_I.Val) : roundK (mkC (outVal g86_L0_O) [g55_T m]) (mkLp (outVal g86_L0_O) []) tt 19 g86_H g86_B0 0 (g86_L0_I.enc x) (Kl (ins := g86_L0_I) (outs := g86_L0_O) (g86_L0_R m n)) = g86_L0 m (n + 1) x.1 x.2.2.1 x.2.2.2.1 := by kernel_rfl
theorem g86_L0_ok {E : Entry} (hE : EOf Tryz.prog E 19 g86_H.pins) (m : Nat) (n : Nat) : LoopOK Tryz.prog E g86_B0 (g86_L0_T m n) :=
  loop_ok (CO := CallOK Tryz.prog) hmix htt (fun _ _ _ _ h => h) hE (C := fun R => mkC R [g55_T m]) (L := []) (fun _ _ _ _ _ h => mkC_spec (AllF.mem (l := [g55_T m]) ⟨g55_ok m, trivial⟩) h) (fun _ _ => loopsIn_of g86_B0_ls trivial) (fun n => (g86_L0_R m n)) (fun _ => by kernel_rfl) (fun n x => (g86_L0_kr m n x).trans (by kernel_rfl)) n
theorem g86_kr (m : Nat) (x : ShLVal g86_A) : fnK (mkC (g86_S.Val × ShLVal g86_U) [g55_T m]) (mkLp (g86_S.Val × ShLVal g86_U) [g86_L0_T m m]) tt g86_H Tryz.f86 (encS g86_A x) (Kd g86_S g86_U) = g86 m x.1 := by kernel_rfl
theorem g86_ok (m : Nat) : FunOK Tryz.prog (g86_T m) :=
  fun_ok hmix htt (g86_T m) Tryz.func86 (c := g86_C) (by kernel_rfl) (by kernel_rfl) (Lc := [g55_T m]) (AllF.mem (l := [g55_T m]) ⟨g55_ok m, trivial⟩) (L := [g86_L0_T m m]) (fun _ hE _ _ => loopsIn_of g86_C_ls ⟨mkLp_all ⟨fun _ => g86_L0_ok hE m m, trivial⟩, trivial⟩) (fun x => (g86_kr m x).trans (by kernel_rfl))
/-! 54 slices.ContainsFunc___sparse/api.Float_sparse/api.Float_ -/
def g54_H : Hints := { regs := [⟨[], [0, 1]⟩, ⟨[(0, 1), (1, 1)], [4]⟩], heads := [], exits := [], rets := [4], pins := [], spec := [[false]] }
abbrev g54_A : List Sh := [.a (.c (.imm (.int .u64))), .a (.c (.fn 55))]
abbrev g54_S : Sh := .a (.c .bool)
abbrev g54_U : List Sh := [.a (.c .dead), .a (.c .dead)]
def g54_R (m : Nat) : ShLVal g54_A → Option (g54_S.Val × ShLVal g54_U) := fun (x : List Int × Unit × Unit) => g54 m x.1
def g54_T (m : Nat) : FunT := ⟨54, g54_A, g54_S, g54_U, g54_R m⟩
noncomputable def g54_C : Code := codeOf Tryz.f54
theorem g54_C_ls : loopsL g54_C 0 = [] := by kernel_rfl
theorem g54_kr (m : Nat) (x : ShLVal g54_A) : fnK (mkC (g54_S.Val × ShLVal g54_U) [g86_T m]) (mkLp (g54_S.Val × ShLVal g54_U) []) tt g54_H Tryz.f54 (encS g54_A x) (Kd g54_S g54_U) = g54 m x.1 := by kernel_rfl
theorem g54_ok (m : Nat) : FunOK Tryz.prog (g54_T m) :=
  fun_ok hmix htt (g54_T m) Tryz.func54 (c := g54_C) (by kernel_rfl) (by kernel_rfl) (Lc := [g86_T m]) (AllF.mem (l := [g86_T m]) ⟨g86_ok m, trivial⟩) (L := []) (fun _ hE _ _ => loopsIn_of g54_C_ls trivial) (fun x => (g54_kr m x).trans (by kernel_rfl))
/-! 28 sparse/matrix.Check -/
def g28_H : Hints := { regs := [⟨[], [1]⟩, ⟨[(4, 1), (10, 1)], [1, 3]⟩, ⟨[], [2]⟩, ⟨[], [1, 20]⟩, ⟨[], [2]⟩, ⟨[], [24]⟩, ⟨[], [2]⟩, ⟨[], [2]⟩], heads := [], exits := [(0, [])], rets := [2], pins := [], spec := [[false]] }
abbrev g28_A : List Sh := [.a (.agg [(.int .i64), (.int .i64), (.imm (.int .i64)), (.imm (.int .i64)), (.imm (.int .u64))])]
abbrev g28_S : Sh := .a (.c (.int .i64))
abbrev g28_U : List Sh := [.a (.c .dead)]
def g28_R (m : Nat) : ShLVal g28_A → Option (g28_S.Val × ShLVal g28_U) := fun (x : (Int × Int × List Int × List Int × List Int × Unit) × Unit) => g28 m x.1.1 x.1.2.1 x.1.2.2.1 x.1.2.2.2.1 x.1.2.2.2.2.1
def g28_T (m : Nat) : FunT := ⟨28, g28_A, g28_S, g28_U, g28_R m⟩
noncomputable def g28_C : Code := codeOf Tryz.f28
theorem g28_C_ls : loopsL g28_C 0 = [] := by kernel_rfl
theorem g28_kr (m : Nat) (x : ShLVal g28_A) : fnK (mkC (g28_S.Val × ShLVal g28_U) [g31_T m, g53_T m, g54_T m]) (mkLp (g28_S.Val × ShLVal g28_U) []) tt g28_H Tryz.f28 (encS g28_A x) (Kd g28_S g28_U) = g28 m x.1.1 x.1.2.1 x.1.2.2.1 x.1.2.2.2.1 x.1.2.2.2.2.1 := by kernel_rfl
theorem g28_ok (m : Nat) : FunOK Tryz.prog (g28_T m) :=
  fun_ok hmix htt (g28_T m) Tryz.func28 (c := g28_C) (by kernel_rfl) (by kernel_rfl) (Lc := [g31_T m, g53_T m, g54_T m]) (AllF.mem (l := [g31_T m, g53_T m, g54_T m]) ⟨g31_ok m, g53_ok m, g54_ok m, trivial⟩) (L := []) (fun _ hE _ _ => loopsIn_of g28_C_ls trivial) (fun x => (g28_kr m x).trans (by kernel_rfl))
/-! 38 sparse/matrix.entries -/
def g38_H : Hints := { regs := [⟨[], [1]⟩, ⟨[], [1, 3]⟩, ⟨[], [1, 3, 7, 8]⟩, ⟨[], [1, 3, 7, 8, 9]⟩, ⟨[], [1, 3, 4, 7, 8]⟩, ⟨[], [1, 3, 4, 5, 7, 8]⟩, ⟨[], [1, 3, 4, 5, 7, 8, 23]⟩, ⟨[(0, 1)], [1, 3, 4, 5, 7, 8]⟩, ⟨[(0, 1)], [1, 3, 4, 5, 7, 8]⟩, ⟨[(1, 1)], [1, 3, 7, 8]⟩, ⟨[(0, 1)], [2]⟩], heads := [(0, [1, 3, 7, 8]), (2, [1, 3, 4, 5, 7, 8])], exits := [(0, [3]), (1, [1, 3, 7, 8]), (2, [1, 3, 7, 8]), (3, [1, 3, 4, 5, 7, 8])], rets := [2], pins := [], spec := [[true]] }
abbrev g38_A : List Sh := [.a (.agg [(.int .i64), (.int .i64), (.imm (.int .i64)), (.imm (.int .i64)), (.imm (.int .u64))])]
abbrev g38_S : Sh := .a (.c (.nm 0 (.pr (.int .i64) (.pr (.int .i64) (.int .u64)))))
abbrev g38_U : List Sh := [.a (.c .dead)]
def g38_R (m : Nat) : ShLVal g38_A → Option (g38_S.Val × ShLVal g38_U) := fun (x : (Int × Int × List Int × List Int × List Int × Unit) × Unit) => g38 m x.1.1 x.1.2.1 x.1.2.2.1 x.1.2.2.2.1 x.1.2.2.2.2.1
def g38_T (m : Nat) : FunT := ⟨38, g38_A, g38_S, g38_U, g38_R m⟩
noncomputable def g38_C : Code := codeOf Tryz.f38
noncomputable def g38_B0 : Code := loopAt g38_C 0 0
noncomputable def g38_B2 : Code := loopAt g38_B0 0 0
theorem g38_B2_ls : loopsL g38_B2 2 = [] := by kernel_rfl
theorem g38_B0_ls : loopsL g38_B0 0 = [(2, g38_B2)] := by kernel_rfl
theorem g38_C_ls : loopsL g38_C 0 = [(0, g38_B0)] := by kernel_rfl
abbrev g38_L1_I : SS := [(1, .a (.bx 0 [(.int .i64), (.int .i64), (.imm (.int .i64)), (.imm (.int .i64)), (.imm (.int .u64))])), (3, .a (.c (.nm 1 (.pr (.int .i64) (.pr (.int .i64) (.int .u64)))))), (4, .a (.c (.int .i64))), (5, .a (.c (.int .i64))), (7, .a (.c (.int .i64))), (8, .a (.c (.int .i64)))]
abbrev g38_L1_O : List (Ex × SS) := [(.exit 2, [(1, .a (.bx 0 [(.int .i64), (.int .i64), (.imm (.int .i64)), (.imm (.int .i64)), (.imm (.int .u64))])), (3, .a (.c (.nm 1 (.pr (.int .i64) (.pr (.int .i64) (.int .u64)))))), (7, .a (.c (.int .i64))), (8, .a (.c (.int .i64)))])]
def g38_L1_R (m n : Nat) : g38_L1_I.Val → Option (outVal g38_L1_O) := (fun (x : (Int × Int × List Int × List Int × List Int × Unit) × (List (Int × Int × Int)) × Int × Int × Int × Int × Unit) => g38_L1 m n x.1.1 x.1.2.1 x.1.2.2.1 x.1.2.2.2.1 x.1.2.2.2.2.1 x.2.1 x.2.2.1 x.2.2.2.1 x.2.2.2.2.1 x.2.2.2.2.2.1)
def g38_L1_T (m n : Nat) : LoopT := ⟨2, g38_L1_I, g38_L1_O, g38_L1_R m n⟩
theorem g38_L1_kr (m n : Nat) (x : g38_L1_I.Val) : roundK (mkC (outVal g38_L1_O) []) (mkLp (outVal g38_L1_O) []) tt 43 g38_H g38_B2 2 (g38_L1_I.enc x) (Kl (ins := g38_L1_I) (outs := g38_L1_O) (g38_L1_R m n)) = g38_L1 m (n + 1) x.1.1 x.1.2.1 x.1.2.2.1 x.1.2.2.2.1 x.1.2.2.2.2.1 x.2.1 x.2.2.1 x.2.2.2.1 x.2.2.2.2.1 x.2.2.2.2.2.1 := by kernel_rfl
theorem g38_L1_ok {E : Entry} (hE : EOf Tryz.prog E 43 g38_H.pins) (m : Nat) (n : Nat) : LoopOK Tryz.prog E g38_B2 (g38_L1_T m n) :=
  loop_ok (CO := CallOK Tryz.prog) hmix htt (fun _ _ _ _ h => h) hE (C := fun R => mkC R []) (L := []) (fun _ _ _ _ _ h => mkC_spec (AllF.mem (l := []) trivial) h) (fun _ _ => loopsIn_of g38_B2_ls trivial) (fun n => (g38_L1_R m n)) (fun _ => by kernel_rfl) (fun n x => (g38_L1_kr m n x).trans (by kernel_rfl)) n
abbrev g38_L0_I : SS := [(1, .a (.bx 0 [(.int .i64), (.int .i64), (.imm (.int .i64)), (.imm (.int .i64)), (.imm (.int .u64))])), (3, .a (.c (.nm 1 (.pr (.int .i64) (.pr (.int .i64) (.int .u64)))))), (7, .a (.c (.int .i64))), (8, .a (.c (.int .i64)))]
abbrev g38_L0_O : List (Ex × SS) := [(.exit 0, [(3, .a (.c (.nm 0 (.pr (.int .i64) (.pr (.int .i64) (.int .u64))))))])]
def g38_L0_R (m n : Nat) : g38_L0_I.Val → Option (outVal g38_L0_O) := (fun (x : (Int × Int × List Int × List Int × List Int × Unit) × (List (Int × Int × Int)) × Int × Int × Unit) => g38_L0 m n x.1.1 x.1.2.1 x.1.2.2.1 x.1.2.2.2.1 x.1.2.2.2.2.1 x.2.1 x.2.2.1 x.2.2.2.1)
def g38_L0_T (m n : Nat) : LoopT := ⟨0, g38_L0_I, g38_L0_O, g38_L0_R m n⟩
theorem g38_L0_kr (m n : Nat) (x : g38_L0_I.Val) : roundK (mkC (outVal g38_L0_O) []) (mkLp (outVal g38_L0_O) [g38_L1_T m m]) tt 43 g38_H g38_B0 0 (g38_L0_I.enc x) (Kl (ins := g38_L0_I) (outs := g38_L0_O) (g38_L0_R m n)) = g38_L0 m (n + 1) x.1.1 x.1.2.1 x.1.2.2.1 x.1.2.2.2.1 x.1.2.2.2.2.1 x.2.1 x.2.2.1 x.2.2.2.1 := by kernel_rfl
theorem g38_L0_ok {E : Entry} (hE : EOf Tryz.prog E 43 g38_H.pins) (m : Nat) (n : Nat) : LoopOK Tryz.prog E g38_B0 (g38_L0_T m n) :=
  loop_ok (CO := CallOK Tryz.prog) hmix htt (fun _ _ _ _ h => h) hE (C := fun R => mkC R []) (L := [g38_L1_T m m]) (fun _ _ _ _ _ h => mkC_spec (AllF.mem (l := []) trivial) h) (fun _ _ => loopsIn_of g38_B0_ls ⟨mkLp_all ⟨fun _ => g38_L1_ok hE m m, trivial⟩, trivial⟩) (fun n => (g38_L0_R m n)) (fun _ => by kernel_rfl) (fun n x => (g38_L0_kr m n x).trans (by kernel_rfl)) n
theorem g38_kr (m : Nat) (x : ShLVal g38_A) : fnK (mkC (g38_S.Val × ShLVal g38_U) []) (mkLp (g38_S.Val × ShLVal g38_U) [g38_L0_T m m]) tt g38_H Tryz.f38 (encS g38_A x) (Kd g38_S g38_U) = g38 m x.1.1 x.1.2.1 x.1.2.2.1 x.1.2.2.2.1 x.1.2.2.2.2.1 := by kernel_rfl
theorem g38_ok (m : Nat) : FunOK Tryz.prog (g38_T m) :=
  fun_ok hmix htt (g38_T m) Tryz.func38 (c := g38_C) (by kernel_rfl) (by kernel_rfl) (Lc := []) (AllF.mem (l := []) trivial) (L := [g38_L0_T m m]) (fun _ hE _ _ => loopsIn_of g38_C_ls ⟨mkLp_all ⟨fun _ => g38_L0_ok hE m m, trivial⟩, trivial⟩) (fun x => (g38_kr m x).trans (by kernel_rfl))
/-! 52 sparse/matrix.MulVec_1 -/
def g52_H : Hints := { regs := [⟨[], [1]⟩, ⟨[], [2, 3]⟩], heads := [], exits := [], rets := [2, 3], pins := [], spec := [[false], [false]] }
abbrev g52_A : List Sh := [.a (.agg [(.int .i64), (.int .i64), (.int .u64)])]
abbrev g52_S : Sh := .tup [(.c (.int .i64)), (.c (.int .i64))]
abbrev g52_U : List Sh := [.a (.c .dead)]
def g52_R (m : Nat) : ShLVal g52_A → Option (g52_S.Val × ShLVal g52_U) := fun (x : (Int × Int × Int × Unit) × Unit) => g52 m x.1.1 x.1.2.1 x.1.2.2.1
def g52_T (m : Nat) : FunT := ⟨52, g52_A, g52_S, g52_U, g52_R m⟩
noncomputable def g52_C : Code := codeOf Tryz.f52
theorem g52_C_ls : loopsL g52_C 0 = [] := by kernel_rfl
theorem g52_kr (m : Nat) (x : ShLVal g52_A) : fnK (mkC (g52_S.Val × ShLVal g52_U) []) (mkLp (g52_S.Val × ShLVal g52_U) []) tt g52_H Tryz.f52 (encS g52_A x) (Kd g52_S g52_U) = g52 m x.1.1 x.1.2.1 x.1.2.2.1 := by kernel_rfl
theorem g52_ok (m : Nat) : FunOK Tryz.prog (g52_T m) :=
  fun_ok hmix htt (g52_T m) Tryz.func52 (c := g52_C) (by kernel_rfl) (by kernel_rfl) (Lc := []) (AllF.mem (l := []) trivial) (L := []) (fun _ hE _ _ => loopsIn_of g52_C_ls trivial) (fun x => (g52_kr m x).trans (by kernel_rfl))
/-! 118 sparse/dyad.two -/
def g118_H : Hints := { regs := [⟨[], [2, 3, 4, 5]⟩, ⟨[(2, 1)], [3, 4, 5, 6]⟩, ⟨[(2, 1)], [4, 5, 6, 7]⟩, ⟨[(2, 1), (3, 1), (4, 1)], [4, 5, 6]⟩], heads := [], exits := [], rets := [4, 5, 6], pins := [], spec := [[false, false, false, false], [false, false, false, false], [false]] }
abbrev g118_A : List Sh := [.a (.agg [.bool, .bool, (.imm (.int .u32)), (.int .i64)]), .a (.agg [.bool, .bool, (.imm (.int .u32)), (.int .i64)])]
abbrev g118_S : Sh := .tup [(.agg [.bool, .bool, (.imm (.int .u32)), (.int .i64)]), (.agg [.bool, .bool, (.imm (.int .u32)), (.int .i64)]), (.c .bool)]
abbrev g118_U : List Sh := [.a (.c .dead), .a (.c .dead)]
def g118_R (m : Nat) : ShLVal g118_A → Option (g118_S.Val × ShLVal g118_U) := fun (x : (Bool × Bool × List Int × Int × Unit) × (Bool × Bool × List Int × Int × Unit) × Unit) => g118 m x.1.1 x.1.2.1 x.1.2.2.1 x.1.2.2.2.1 x.2.1.1 x.2.1.2.1 x.2.1.2.2.1 x.2.1.2.2.2.1
def g118_T (m : Nat) : FunT := ⟨118, g118_A, g118_S, g118_U, g118_R m⟩
noncomputable def g118_C : Code := codeOf Tryz.f118
theorem g118_C_ls : loopsL g118_C 0 = [] := by kernel_rfl
theorem g118_kr (m : Nat) (x : ShLVal g118_A) : fnK (mkC (g118_S.Val × ShLVal g118_U) [g73_T m]) (mkLp (g118_S.Val × ShLVal g118_U) []) tt g118_H Tryz.f118 (encS g118_A x) (Kd g118_S g118_U) = g118 m x.1.1 x.1.2.1 x.1.2.2.1 x.1.2.2.2.1 x.2.1.1 x.2.1.2.1 x.2.1.2.2.1 x.2.1.2.2.2.1 := by kernel_rfl
theorem g118_ok (m : Nat) : FunOK Tryz.prog (g118_T m) :=
  fun_ok hmix htt (g118_T m) Tryz.func118 (c := g118_C) (by kernel_rfl) (by kernel_rfl) (Lc := [g73_T m]) (AllF.mem (l := [g73_T m]) ⟨g73_ok m, trivial⟩) (L := []) (fun _ hE _ _ => loopsIn_of g118_C_ls trivial) (fun x => (g118_kr m x).trans (by kernel_rfl))
/-! 138 sparse/integer.times -/
def g138_H : Hints := { regs := [⟨[], [0, 1]⟩, ⟨[(3, 1)], [0, 1, 19]⟩, ⟨[], [4]⟩, ⟨[], [0, 1, 5]⟩, ⟨[(0, 1)], [1, 5, 26, 27, 28]⟩, ⟨[], [1, 5, 26, 27, 28, 29]⟩, ⟨[], [1, 5, 6, 7, 26, 27, 28]⟩, ⟨[], [1, 5, 6, 7, 8, 26, 27, 28]⟩, ⟨[], [1, 5, 6, 7, 8, 26, 27, 28, 33, 34, 35]⟩, ⟨[], [1, 5, 6, 7, 8, 26, 27, 28, 33, 34, 35, 36]⟩, ⟨[], [1, 5, 6, 7, 8, 9, 10, 26, 27, 28, 33, 34, 35]⟩, ⟨[(2, 1), (13, 1)], [1, 5, 6, 7, 9, 11, 26, 27, 28, 33, 34, 35]⟩, ⟨[(2, 1)], [1, 5, 6, 7, 11, 26, 27, 28, 33, 34, 35]⟩, ⟨[(0, 1)], [1, 5, 6, 7, 8, 26, 27, 28, 33, 34, 35]⟩, ⟨[(1, 1)], [1, 5, 6, 7, 8, 26, 27, 28, 33, 34, 35]⟩, ⟨[(1, 1), (5, 1)], [1, 5, 26, 27, 28]⟩, ⟨[(1, 1)], [1, 5, 26, 27, 28]⟩, ⟨[(0, 1)], [4]⟩], heads := [(0, [1, 5, 26, 27, 28]), (2, [1, 5, 6, 7, 8, 26, 27, 28, 33, 34, 35])], exits := [(0, [5]), (1, [1, 5, 26, 27, 28]), (2, [1, 5, 6, 8, 26, 27, 28]), (3, [1, 5, 6, 7, 8, 26, 27, 28, 33, 34, 35])], rets := [4], pins := [], spec := [[false]] }
abbrev g138_A : List Sh := [.a (.c (.imm (.int .u32))), .a (.c (.imm (.int .u32)))]
abbrev g138_S : Sh := .a (.c (.imm (.int .u32)))
abbrev g138_U : List Sh := [.a (.c .dead), .a (.c .dead)]
def g138_R (m : Nat) : ShLVal g138_A → Option (g138_S.Val × ShLVal g138_U) := fun (x : List Int × List Int × Unit) => g138 m x.1 x.2.1
def g138_T (m : Nat) : FunT := ⟨138, g138_A, g138_S, g138_U, g138_R m⟩
noncomputable def g138_C : Code := codeOf Tryz.f138
noncomputable def g138_B0 : Code := loopAt g138_C 0 0
noncomputable def g138_B2 : Code := loopAt g138_B0 0 0
theorem g138_B2_ls : loopsL g138_B2 2 = [] := by kernel_rfl
theorem g138_B0_ls : loopsL g138_B0 0 = [(2, g138_B2)] := by kernel_rfl
theorem g138_C_ls : loopsL g138_C 0 = [(0, g138_B0)] := by kernel_rfl
abbrev g138_L1_I : SS := [(1, .a (.c (.imm (.int .u32)))), (5, .a (.c (.nm 0 (.int .u32)))), (6, .a (.c (.int .i64))), (7, .a (.c (.int .u32))), (8, .a (.c (.int .u64))), (26, .a (.c (.imm (.int .u32)))), (27, .a (.c (.int .i64))), (28, .a (.c (.int .i64))), (33, .a (.c (.imm (.int .u32)))), (34, .a (.c (.int .i64))), (35, .a (.c (.int .i64)))]
abbrev g138_L1_O : List (Ex × SS) := [(.exit 2, [(1, .a (.c (.imm (.int .u32)))), (5, .a (.c (.nm 0 (.int .u32)))), (6, .a (.c (.int .i64))), (8, .a (.c (.int .u64))), (26, .a (.c (.imm (.int .u32)))), (27, .a (.c (.int .i64))), (28, .a (.c (.int .i64)))])]
def g138_L1_R (m n : Nat) : g138_L1_I.Val → Option (outVal g138_L1_O) := (fun (x : List Int × List Int × Int × Int × Int × List Int × Int × Int × List Int × Int × Int × Unit) => g138_L1 m n x.1 x.2.1 x.2.2.1 x.2.2.2.1 x.2.2.2.2.1 x.2.2.2.2.2.1 x.2.2.2.2.2.2.1 x.2.2.2.2.2.2.2.1 x.2.2.2.2.2.2.2.2.1 x.2.2.2.2.2.2.2.2.2.1 x.2.2.2.2.2.2.2.2.2.2.1)
def g138_L1_T (m n : Nat) : LoopT := ⟨2, g138_L1_I, g138_L1_O, g138_L1_R m n⟩
theorem g138_L1_kr (m n : Nat) (x : g138_L1_I.Val) : roundK (mkC (outVal g138_L1_O) [g109_T m]) (mkLp (outVal g138_L1_O) []) tt 77 g138_H g138_B2 2 (g138_L1_I.enc x) (Kl (ins := g138_L1_I) (outs := g138_L1_O) (g138_L1_R m n)) = g138_L1 m (n + 1) x.1 x.2.1 x.2.2.1 x.2.2.2.1 x.2.2.2.2.1 x.2.2.2.2.2.1 x.2.2.2.2.2.2.1 x.2.2.2.2.2.2.2.1 x.2.2.2.2.2.2.2.2.1 x.2.2.2.2.2.2.2.2.2.1 x.2.2.2.2.2.2.2.2.2.2.1 := by kernel_rfl
theorem g138_L1_ok {E : Entry} (hE : EOf Tryz.prog E 77 g138_H.pins) (m : Nat) (n : Nat) : LoopOK Tryz.prog E g138_B2 (g138_L1_T m n) :=
  loop_ok (CO := CallOK Tryz.prog) hmix htt (fun _ _ _ _ h => h) hE (C := fun R => mkC R [g109_T m]) (L := []) (fun _ _ _ _ _ h => mkC_spec (AllF.mem (l := [g109_T m]) ⟨g109_ok m, trivial⟩) h) (fun _ _ => loopsIn_of g138_B2_ls trivial) (fun n => (g138_L1_R m n)) (fun _ => by kernel_rfl) (fun n x => (g138_L1_kr m n x).trans (by kernel_rfl)) n
abbrev g138_L0_I : SS := [(1, .a (.c (.imm (.int .u32)))), (5, .a (.c (.nm 0 (.int .u32)))), (26, .a (.c (.imm (.int .u32)))), (27, .a (.c (.int .i64))), (28, .a (.c (.int .i64)))]
abbrev g138_L0_O : List (Ex × SS) := [(.exit 0, [(5, .a (.c (.nm 0 (.int .u32))))])]
def g138_L0_R (m n : Nat) : g138_L0_I.Val → Option (outVal g138_L0_O) := (fun (x : List Int × List Int × List Int × Int × Int × Unit) => g138_L0 m n x.1 x.2.1 x.2.2.1 x.2.2.2.1 x.2.2.2.2.1)
def g138_L0_T (m n : Nat) : LoopT := ⟨0, g138_L0_I, g138_L0_O, g138_L0_R m n⟩
theorem g138_L0_kr (m n : Nat) (x : g138_L0_I.Val) : roundK (mkC (outVal g138_L0_O) [g109_T m]) (mkLp (outVal g138_L0_O) [g138_L1_T m m]) tt 77 g138_H g138_B0 0 (g138_L0_I.enc x) (Kl (ins := g138_L0_I) (outs := g138_L0_O) (g138_L0_R m n)) = g138_L0 m (n + 1) x.1 x.2.1 x.2.2.1 x.2.2.2.1 x.2.2.2.2.1 := by kernel_rfl
theorem g138_L0_ok {E : Entry} (hE : EOf Tryz.prog E 77 g138_H.pins) (m : Nat) (n : Nat) : LoopOK Tryz.prog E g138_B0 (g138_L0_T m n) :=
  loop_ok (CO := CallOK Tryz.prog) hmix htt (fun _ _ _ _ h => h) hE (C := fun R => mkC R [g109_T m]) (L := [g138_L1_T m m]) (fun _ _ _ _ _ h => mkC_spec (AllF.mem (l := [g109_T m]) ⟨g109_ok m, trivial⟩) h) (fun _ _ => loopsIn_of g138_B0_ls ⟨mkLp_all ⟨fun _ => g138_L1_ok hE m m, trivial⟩, trivial⟩) (fun n => (g138_L0_R m n)) (fun _ => by kernel_rfl) (fun n x => (g138_L0_kr m n x).trans (by kernel_rfl)) n
theorem g138_kr (m : Nat) (x : ShLVal g138_A) : fnK (mkC (g138_S.Val × ShLVal g138_U) [g109_T m]) (mkLp (g138_S.Val × ShLVal g138_U) [g138_L0_T m m]) tt g138_H Tryz.f138 (encS g138_A x) (Kd g138_S g138_U) = g138 m x.1 x.2.1 := by kernel_rfl
theorem g138_ok (m : Nat) : FunOK Tryz.prog (g138_T m) :=
  fun_ok hmix htt (g138_T m) Tryz.func138 (c := g138_C) (by kernel_rfl) (by kernel_rfl) (Lc := [g109_T m]) (AllF.mem (l := [g109_T m]) ⟨g109_ok m, trivial⟩) (L := [g138_L0_T m m]) (fun _ hE _ _ => loopsIn_of g138_C_ls ⟨mkLp_all ⟨fun _ => g138_L0_ok hE m m, trivial⟩, trivial⟩) (fun x => (g138_kr m x).trans (by kernel_rfl))
/-! 119 sparse/integer.Mul -/
def g119_H : Hints := { regs := [⟨[], [2, 3, 4]⟩, ⟨[], [4]⟩], heads := [], exits := [], rets := [4], pins := [], spec := [[false, false]] }
abbrev g119_A : List Sh := [.a (.agg [.bool, (.imm (.int .u32))]), .a (.agg [.bool, (.imm (.int .u32))])]
abbrev g119_S : Sh := .a (.agg [.bool, (.imm (.int .u32))])
abbrev g119_U : List Sh := [.a (.c .dead), .a (.c .dead)]
def g119_R (m : Nat) : ShLVal g119_A → Option (g119_S.Val × ShLVal g119_U) := fun (x : (Bool × List Int × Unit) × (Bool × List Int × Unit) × Unit) => g119 m x.1.1 x.1.2.1 x.2.1.1 x.2.1.2.1
def g119_T (m : Nat) : FunT := ⟨119, g119_A, g119_S, g119_U, g119_R m⟩
noncomputable def g119_C : Code := codeOf Tryz.f119
theorem g119_C_ls : loopsL g119_C 0 = [] := by kernel_rfl
theorem g119_kr (m : Nat) (x : ShLVal g119_A) : fnK (mkC (g119_S.Val × ShLVal g119_U) [g109_T m, g138_T m, g96_T m]) (mkLp (g119_S.Val × ShLVal g119_U) []) tt g119_H Tryz.f119 (encS g119_A x) (Kd g119_S g119_U) = g119 m x.1.1 x.1.2.1 x.2.1.1 x.2.1.2.1 := by kernel_rfl
theorem g119_ok (m : Nat) : FunOK Tryz.prog (g119_T m) :=
  fun_ok hmix htt (g119_T m) Tryz.func119 (c := g119_C) (by kernel_rfl) (by kernel_rfl) (Lc := [g109_T m, g138_T m, g96_T m]) (AllF.mem (l := [g109_T m, g138_T m, g96_T m]) ⟨g109_ok m, g138_ok m, g96_ok m, trivial⟩) (L := []) (fun _ hE _ _ => loopsIn_of g119_C_ls trivial) (fun x => (g119_kr m x).trans (by kernel_rfl))
/-! 84 sparse/dyad.Mul -/
def g84_H : Hints := { regs := [⟨[], [2, 3, 4]⟩, ⟨[(3, 1)], [2, 3, 4, 5]⟩, ⟨[(0, 1)], [2, 3, 4, 14]⟩, ⟨[], [4]⟩, ⟨[], [4]⟩], heads := [], exits := [], rets := [4], pins := [], spec := [[false, false, false, false]] }
abbrev g84_A : List Sh := [.a (.agg [.bool, .bool, (.imm (.int .u32)), (.int .i64)]), .a (.agg [.bool, .bool, (.imm (.int .u32)), (.int .i64)])]
abbrev g84_S : Sh := .a (.agg [.bool, .bool, (.imm (.int .u32)), (.int .i64)])
abbrev g84_U : List Sh := [.a (.c .dead), .a (.c .dead)]
def g84_R (m : Nat) : ShLVal g84_A → Option (g84_S.Val × ShLVal g84_U) := fun (x : (Bool × Bool × List Int × Int × Unit) × (Bool × Bool × List Int × Int × Unit) × Unit) => g84 m x.1.1 x.1.2.1 x.1.2.2.1 x.1.2.2.2.1 x.2.1.1 x.2.1.2.1 x.2.1.2.2.1 x.2.1.2.2.2.1
def g84_T (m : Nat) : FunT := ⟨84, g84_A, g84_S, g84_U, g84_R m⟩
noncomputable def g84_C : Code := codeOf Tryz.f84
theorem g84_C_ls : loopsL g84_C 0 = [] := by kernel_rfl
theorem g84_kr (m : Nat) (x : ShLVal g84_A) : fnK (mkC (g84_S.Val × ShLVal g84_U) [g118_T m, g74_T m, g119_T m, g68_T m]) (mkLp (g84_S.Val × ShLVal g84_U) []) tt g84_H Tryz.f84 (encS g84_A x) (Kd g84_S g84_U) = g84 m x.1.1 x.1.2.1 x.1.2.2.1 x.1.2.2.2.1 x.2.1.1 x.2.1.2.1 x.2.1.2.2.1 x.2.1.2.2.2.1 := by kernel_rfl
theorem g84_ok (m : Nat) : FunOK Tryz.prog (g84_T m) :=
  fun_ok hmix htt (g84_T m) Tryz.func84 (c := g84_C) (by kernel_rfl) (by kernel_rfl) (Lc := [g118_T m, g74_T m, g119_T m, g68_T m]) (AllF.mem (l := [g118_T m, g74_T m, g119_T m, g68_T m]) ⟨g118_ok m, g74_ok m, g119_ok m, g68_ok m, trivial⟩) (L := []) (fun _ hE _ _ => loopsIn_of g84_C_ls trivial) (fun x => (g84_kr m x).trans (by kernel_rfl))
/-! 51 sparse/matrix.multiplied -/
def g51_H : Hints := { regs := [⟨[], [1, 2, 3, 4, 5]⟩, ⟨[], [1, 2, 3, 4, 5, 12]⟩, ⟨[], [1, 2, 3, 4, 5, 12, 27]⟩, ⟨[(0, 1)], [10, 11]⟩, ⟨[(2, 1)], [1, 2, 4, 5, 31]⟩, ⟨[], [10, 11]⟩, ⟨[], [1, 2, 4, 5, 13]⟩, ⟨[(0, 1)], [2, 4, 5, 13, 36, 37, 38]⟩, ⟨[], [2, 4, 5, 13, 36, 37, 38, 39]⟩, ⟨[], [2, 4, 5, 13, 15, 36, 37, 38]⟩, ⟨[], [2, 4, 5, 13, 15, 36, 37, 38, 44]⟩, ⟨[], [10, 11]⟩, ⟨[(0, 1), (1, 1)], [2, 4, 5, 13, 36, 37, 38]⟩, ⟨[(1, 1)], [2, 4, 5, 13, 36, 37, 38]⟩, ⟨[(0, 1), (1, 4)], [4, 5, 13, 16]⟩, ⟨[], [4, 13, 16, 54, 55, 56]⟩, ⟨[], [4, 13, 16, 54, 55, 56, 57]⟩, ⟨[], [4, 13, 16, 18, 54, 55, 56]⟩, ⟨[(3, 1)], [4, 13, 16, 18, 19, 20, 54, 55, 56]⟩, ⟨[(5, 4), (10, 1), (17, 4)], [4, 13, 16, 54, 55, 56]⟩, ⟨[(1, 1)], [4, 13, 16, 54, 55, 56]⟩, ⟨[], [16, 21]⟩, ⟨[(0, 2)], [21, 84, 85, 86]⟩, ⟨[], [21, 84, 85, 86, 87]⟩, ⟨[], [21, 23, 84, 85, 86]⟩, ⟨[(0, 1)], [21, 24, 84, 85, 86]⟩, ⟨[], [21, 24, 84, 85, 86, 95]⟩, ⟨[], [10, 11]⟩, ⟨[(0, 1), (1, 1)], [21, 84, 85, 86]⟩, ⟨[(1, 1)], [21, 84, 85, 86]⟩, ⟨[(0, 1)], [10, 11]⟩], heads := [(1, [2, 4, 5, 13, 36, 37, 38]), (3, [4, 13, 16, 54, 55, 56]), (5, [21, 84, 85, 86])], exits := [(0, [1, 2, 4, 5]), (1, [2, 4, 5, 13]), (2, [2, 4, 5, 13, 36, 37, 38]), (3, [16]), (4, [4, 13, 16, 54, 55, 56]), (5, [21]), (6, [21, 84, 85, 86])], rets := [10, 11], pins := [], spec := [[true], [false]] }
abbrev g51_A : List Sh := [.a (.agg [(.int .i64), (.int .i64), (.imm (.int .i64)), (.imm (.int .i64)), (.imm (.int .u64))]), .a (.c (.imm (.int .u64))), .a (.c (.int .i64)), .a (.c (.int .i64)), .a (.c (.fn 52))]
abbrev g51_S : Sh := .tup [(.c (.nm 0 (.int .u64))), (.c (.int .i64))]
abbrev g51_U : List Sh := [.a (.c .dead), .a (.c .dead), .a (.c .dead), .a (.c .dead), .a (.c .dead)]
def g51_R (m : Nat) : ShLVal g51_A → Option (g51_S.Val × ShLVal g51_U) := fun (x : (Int × Int × List Int × List Int × List Int × Unit) × List Int × Int × Int × Unit × Unit) => g51 m x.1.1 x.1.2.1 x.1.2.2.1 x.1.2.2.2.1 x.1.2.2.2.2.1 x.2.1 x.2.2.1 x.2.2.2.1
def g51_T (m : Nat) : FunT := ⟨51, g51_A, g51_S, g51_U, g51_R m⟩
noncomputable def g51_C : Code := codeOf Tryz.f51
noncomputable def g51_B1 : Code := loopAt g51_C 0 0
theorem g51_B1_ls : loopsL g51_B1 1 = [] := by kernel_rfl
noncomputable def g51_B3 : Code := loopAt g51_C 0 1
theorem g51_B3_ls : loopsL g51_B3 3 = [] := by kernel_rfl
noncomputable def g51_B5 : Code := loopAt g51_C 0 2
theorem g51_B5_ls : loopsL g51_B5 5 = [] := by kernel_rfl
theorem g51_C_ls : loopsL g51_C 0 = [(1, g51_B1), (3, g51_B3), (5, g51_B5)] := by kernel_rfl
abbrev g51_L2_I : SS := [(21, .a (.c (.nm 0 (.int .u64)))), (84, .a (.c (.imm (.sl false (.pr .bool (.pr (.pr .bool (.sl false (.int .u32))) (.int .i64))))))), (85, .a (.c (.int .i64))), (86, .a (.c (.int .i64)))]
abbrev g51_L2_O : List (Ex × SS) := [(.ret, [(10, .a (.c (.nm 0 (.int .u64)))), (11, .a (.c (.int .i64)))]), (.exit 5, [(21, .a (.c (.nm 0 (.int .u64))))])]
def g51_L2_R (m n : Nat) : g51_L2_I.Val → Option (outVal g51_L2_O) := (fun (x : List Int × (List (List (Bool × (Bool × List Int) × Int))) × Int × Int × Unit) => g51_L2 m n x.1 x.2.1 x.2.2.1 x.2.2.2.1)
def g51_L2_T (m n : Nat) : LoopT := ⟨5, g51_L2_I, g51_L2_O, g51_L2_R m n⟩
theorem g51_L2_kr (m n : Nat) (x : g51_L2_I.Val) : roundK (mkC (outVal g51_L2_O) [g28_T m, g32_T m, g34_T m, g38_T m, g52_T m, g84_T m, g36_T m, g35_T m]) (mkLp (outVal g51_L2_O) []) tt 102 g51_H g51_B5 5 (g51_L2_I.enc x) (Kl (ins := g51_L2_I) (outs := g51_L2_O) (g51_L2_R m n)) = g51_L2 m (n + 1) x.1 x.2.1 x.2.2.1 x.2.2.2.1 := by kernel_rfl
theorem g51_L2_ok {E : Entry} (hE : EOf Tryz.prog E 102 g51_H.pins) (m : Nat) (n : Nat) : LoopOK Tryz.prog E g51_B5 (g51_L2_T m n) :=
  loop_ok (CO := CallOK Tryz.prog) hmix htt (fun _ _ _ _ h => h) hE (C := fun R => mkC R [g28_T m, g32_T m, g34_T m, g38_T m, g52_T m, g84_T m, g36_T m, g35_T m]) (L := []) (fun _ _ _ _ _ h => mkC_spec (AllF.mem (l := [g28_T m, g32_T m, g34_T m, g38_T m, g52_T m, g84_T m, g36_T m, g35_T m]) ⟨g28_ok m, g32_ok m, g34_ok m, g38_ok m, g52_ok m, g84_ok m, g36_ok m, g35_ok m, trivial⟩) h) (fun _ _ => loopsIn_of g51_B5_ls trivial) (fun n => (g51_L2_R m n)) (fun _ => by kernel_rfl) (fun n x => (g51_L2_kr m n x).trans (by kernel_rfl)) n
abbrev g51_L1_I : SS := [(4, .a (.c (.fn 52))), (13, .a (.c (.nm 0 (.pr .bool (.pr (.pr .bool (.sl false (.int .u32))) (.int .i64)))))), (16, .a (.c (.dp 1 (.pr .bool (.pr (.pr .bool (.sl false (.int .u32))) (.int .i64)))))), (54, .a (.c (.nm 2 (.pr (.int .i64) (.pr (.int .i64) (.int .u64)))))), (55, .a (.c (.int .i64))), (56, .a (.c (.int .i64)))]
abbrev g51_L1_O : List (Ex × SS) := [(.exit 3, [(16, .a (.c (.dp 0 (.pr .bool (.pr (.pr .bool (.sl false (.int .u32))) (.int .i64))))))])]
def g51_L1_R (m n : Nat) : g51_L1_I.Val → Option (outVal g51_L1_O) := (fun (x : Unit × (List (Bool × (Bool × List Int) × Int)) × (List (List (Bool × (Bool × List Int) × Int))) × (List (Int × Int × Int)) × Int × Int × Unit) => g51_L1 m n x.2.1 x.2.2.1 x.2.2.2.1 x.2.2.2.2.1 x.2.2.2.2.2.1)
def g51_L1_T (m n : Nat) : LoopT := ⟨3, g51_L1_I, g51_L1_O, g51_L1_R m n⟩
theorem g51_L1_kr (m n : Nat) (x : g51_L1_I.Val) : roundK (mkC (outVal g51_L1_O) [g28_T m, g32_T m, g34_T m, g38_T m, g52_T m, g84_T m, g36_T m, g35_T m]) (mkLp (outVal g51_L1_O) []) tt 102 g51_H g51_B3 3 (g51_L1_I.enc x) (Kl (ins := g51_L1_I) (outs := g51_L1_O) (g51_L1_R m n)) = g51_L1 m (n + 1) x.2.1 x.2.2.1 x.2.2.2.1 x.2.2.2.2.1 x.2.2.2.2.2.1 := by kernel_rfl
theorem g51_L1_ok {E : Entry} (hE : EOf Tryz.prog E 102 g51_H.pins) (m : Nat) (n : Nat) : LoopOK Tryz.prog E g51_B3 (g51_L1_T m n) :=
  loop_ok (CO := CallOK Tryz.prog) hmix htt (fun _ _ _ _ h => h) hE (C := fun R => mkC R [g28_T m, g32_T m, g34_T m, g38_T m, g52_T m, g84_T m, g36_T m, g35_T m]) (L := []) (fun _ _ _ _ _ h => mkC_spec (AllF.mem (l := [g28_T m, g32_T m, g34_T m, g38_T m, g52_T m, g84_T m, g36_T m, g35_T m]) ⟨g28_ok m, g32_ok m, g34_ok m, g38_ok m, g52_ok m, g84_ok m, g36_ok m, g35_ok m, trivial⟩) h) (fun _ _ => loopsIn_of g51_B3_ls trivial) (fun n => (g51_L1_R m n)) (fun _ => by kernel_rfl) (fun n x => (g51_L1_kr m n x).trans (by kernel_rfl)) n
abbrev g51_L0_I : SS := [(2, .a (.c (.int .i64))), (4, .a (.c (.fn 52))), (5, .a (.bx 0 [(.int .i64), (.int .i64), (.imm (.int .i64)), (.imm (.int .i64)), (.imm (.int .u64))])), (13, .a (.c (.nm 1 (.pr .bool (.pr (.pr .bool (.sl false (.int .u32))) (.int .i64)))))), (36, .a (.c (.imm (.int .u64)))), (37, .a (.c (.int .i64))), (38, .a (.c (.int .i64)))]
abbrev g51_L0_O : List (Ex × SS) := [(.ret, [(10, .a (.c (.nm 0 (.int .u64)))), (11, .a (.c (.int .i64)))]), (.exit 1, [(2, .a (.c (.int .i64))), (4, .a (.c (.fn 52))), (5, .a (.bx 0 [(.int .i64), (.int .i64), (.imm (.int .i64)), (.imm (.int .i64)), (.imm (.int .u64))])), (13, .a (.c (.nm 1 (.pr .bool (.pr (.pr .bool (.sl false (.int .u32))) (.int .i64))))))])]
def g51_L0_R (m n : Nat) : g51_L0_I.Val → Option (outVal g51_L0_O) := (fun (x : Int × Unit × (Int × Int × List Int × List Int × List Int × Unit) × (List (Bool × (Bool × List Int) × Int)) × List Int × Int × Int × Unit) => g51_L0 m n x.1 x.2.2.1.1 x.2.2.1.2.1 x.2.2.1.2.2.1 x.2.2.1.2.2.2.1 x.2.2.1.2.2.2.2.1 x.2.2.2.1 x.2.2.2.2.1 x.2.2.2.2.2.1 x.2.2.2.2.2.2.1)
def g51_L0_T (m n : Nat) : LoopT := ⟨1, g51_L0_I, g51_L0_O, g51_L0_R m n⟩
theorem g51_L0_kr (m n : Nat) (x : g51_L0_I.Val) : roundK (mkC (outVal g51_L0_O) [g28_T m, g32_T m, g34_T m, g38_T m, g52_T m, g84_T m, g36_T m, g35_T m]) (mkLp (outVal g51_L0_O) []) tt 102 g51_H g51_B1 1 (g51_L0_I.enc x) (Kl (ins := g51_L0_I) (outs := g51_L0_O) (g51_L0_R m n)) = g51_L0 m (n + 1) x.1 x.2.2.1.1 x.2.2.1.2.1 x.2.2.1.2.2.1 x.2.2.1.2.2.2.1 x.2.2.1.2.2.2.2.1 x.2.2.2.1 x.2.2.2.2.1 x.2.2.2.2.2.1 x.2.2.2.2.2.2.1 := by kernel_rfl
theorem g51_L0_ok {E : Entry} (hE : EOf Tryz.prog E 102 g51_H.pins) (m : Nat) (n : Nat) : LoopOK Tryz.prog E g51_B1 (g51_L0_T m n) :=
  loop_ok (CO := CallOK Tryz.prog) hmix htt (fun _ _ _ _ h => h) hE (C := fun R => mkC R [g28_T m, g32_T m, g34_T m, g38_T m, g52_T m, g84_T m, g36_T m, g35_T m]) (L := []) (fun _ _ _ _ _ h => mkC_spec (AllF.mem (l := [g28_T m, g32_T m, g34_T m, g38_T m, g52_T m, g84_T m, g36_T m, g35_T m]) ⟨g28_ok m, g32_ok m, g34_ok m, g38_ok m, g52_ok m, g84_ok m, g36_ok m, g35_ok m, trivial⟩) h) (fun _ _ => loopsIn_of g51_B1_ls trivial) (fun n => (g51_L0_R m n)) (fun _ => by kernel_rfl) (fun n x => (g51_L0_kr m n x).trans (by kernel_rfl)) n
theorem g51_kr (m : Nat) (x : ShLVal g51_A) : fnK (mkC (g51_S.Val × ShLVal g51_U) [g28_T m, g32_T m, g34_T m, g38_T m, g52_T m, g84_T m, g36_T m, g35_T m]) (mkLp (g51_S.Val × ShLVal g51_U) [g51_L0_T m m, g51_L1_T m m, g51_L2_T m m]) tt g51_H Tryz.f51 (encS g51_A x) (Kd g51_S g51_U) = g51 m x.1.1 x.1.2.1 x.1.2.2.1 x.1.2.2.2.1 x.1.2.2.2.2.1 x.2.1 x.2.2.1 x.2.2.2.1 := by kernel_rfl
theorem g51_ok (m : Nat) : FunOK Tryz.prog (g51_T m) :=
  fun_ok hmix htt (g51_T m) Tryz.func51 (c := g51_C) (by kernel_rfl) (by kernel_rfl) (Lc := [g28_T m, g32_T m, g34_T m, g38_T m, g52_T m, g84_T m, g36_T m, g35_T m]) (AllF.mem (l := [g28_T m, g32_T m, g34_T m, g38_T m, g52_T m, g84_T m, g36_T m, g35_T m]) ⟨g28_ok m, g32_ok m, g34_ok m, g38_ok m, g52_ok m, g84_ok m, g36_ok m, g35_ok m, trivial⟩) (L := [g51_L0_T m m, g51_L1_T m m, g51_L2_T m m]) (fun _ hE _ _ => loopsIn_of g51_C_ls ⟨mkLp_all ⟨fun _ => g51_L0_ok hE m m, fun h => absurd (show (3 : Nat) = 1 from h) (by decide), fun h => absurd (show (5 : Nat) = 1 from h) (by decide), trivial⟩, mkLp_all ⟨fun h => absurd (show (1 : Nat) = 3 from h) (by decide), fun _ => g51_L1_ok hE m m, fun h => absurd (show (5 : Nat) = 3 from h) (by decide), trivial⟩, mkLp_all ⟨fun h => absurd (show (1 : Nat) = 5 from h) (by decide), fun h => absurd (show (3 : Nat) = 5 from h) (by decide), fun _ => g51_L2_ok hE m m, trivial⟩, trivial⟩) (fun x => (g51_kr m x).trans (by kernel_rfl))
/-! 26 sparse/matrix.MulVec -/
def g26_H : Hints := { regs := [⟨[], [1, 2]⟩, ⟨[(1, 1)], [4, 5]⟩], heads := [], exits := [], rets := [4, 5], pins := [], spec := [[true], [false]] }
abbrev g26_A : List Sh := [.a (.agg [(.int .i64), (.int .i64), (.imm (.int .i64)), (.imm (.int .i64)), (.imm (.int .u64))]), .a (.c (.imm (.int .u64)))]
abbrev g26_S : Sh := .tup [(.c (.nm 0 (.int .u64))), (.c (.int .i64))]
abbrev g26_U : List Sh := [.a (.c .dead), .a (.c .dead)]
def g26_R (m : Nat) : ShLVal g26_A → Option (g26_S.Val × ShLVal g26_U) := fun (x : (Int × Int × List Int × List Int × List Int × Unit) × List Int × Unit) => g26 m x.1.1 x.1.2.1 x.1.2.2.1 x.1.2.2.2.1 x.1.2.2.2.2.1 x.2.1
def g26_T (m : Nat) : FunT := ⟨26, g26_A, g26_S, g26_U, g26_R m⟩
noncomputable def g26_C : Code := codeOf Tryz.f26
theorem g26_C_ls : loopsL g26_C 0 = [] := by kernel_rfl
theorem g26_kr (m : Nat) (x : ShLVal g26_A) : fnK (mkC (g26_S.Val × ShLVal g26_U) [g51_T m]) (mkLp (g26_S.Val × ShLVal g26_U) []) tt g26_H Tryz.f26 (encS g26_A x) (Kd g26_S g26_U) = g26 m x.1.1 x.1.2.1 x.1.2.2.1 x.1.2.2.2.1 x.1.2.2.2.2.1 x.2.1 := by kernel_rfl
theorem g26_ok (m : Nat) : FunOK Tryz.prog (g26_T m) :=
  fun_ok hmix htt (g26_T m) Tryz.func26 (c := g26_C) (by kernel_rfl) (by kernel_rfl) (Lc := [g51_T m]) (AllF.mem (l := [g51_T m]) ⟨g51_ok m, trivial⟩) (L := []) (fun _ hE _ _ => loopsIn_of g26_C_ls trivial) (fun x => (g26_kr m x).trans (by kernel_rfl))
/-! 27 sparse/sparsekit.Ints -/
def g27_H : Hints := { regs := [⟨[], [0, 1]⟩, ⟨[], [0, 1, 10]⟩, ⟨[], [4]⟩, ⟨[], [0, 1, 5]⟩, ⟨[], [0, 1, 5, 14]⟩, ⟨[(0, 1)], [0, 1, 5]⟩, ⟨[], [0, 1, 5, 25]⟩, ⟨[], [4]⟩, ⟨[], [4]⟩], heads := [(0, [0, 1, 5])], exits := [(0, []), (1, [0, 1, 5])], rets := [4], pins := [], spec := [[false]] }
abbrev g27_A : List Sh := [.a (.c (.imm (.int .i64))), .a (.c (.imm (.int .i64)))]
abbrev g27_S : Sh := .a (.c .bool)
abbrev g27_U : List Sh := [.a (.c .dead), .a (.c .dead)]
def g27_R (m : Nat) : ShLVal g27_A → Option (g27_S.Val × ShLVal g27_U) := fun (x : List Int × List Int × Unit) => g27 m x.1 x.2.1
def g27_T (m : Nat) : FunT := ⟨27, g27_A, g27_S, g27_U, g27_R m⟩
noncomputable def g27_C : Code := codeOf Tryz.f27
noncomputable def g27_B0 : Code := loopAt g27_C 0 0
theorem g27_B0_ls : loopsL g27_B0 0 = [] := by kernel_rfl
theorem g27_C_ls : loopsL g27_C 0 = [(0, g27_B0)] := by kernel_rfl
abbrev g27_L0_I : SS := [(0, .a (.c (.imm (.int .i64)))), (1, .a (.c (.imm (.int .i64)))), (5, .a (.c (.int .i64)))]
abbrev g27_L0_O : List (Ex × SS) := [(.ret, [(4, .a (.c .bool))]), (.exit 0, [])]
def g27_L0_R (m n : Nat) : g27_L0_I.Val → Option (outVal g27_L0_O) := (fun (x : List Int × List Int × Int × Unit) => g27_L0 m n x.1 x.2.1 x.2.2.1)
def g27_L0_T (m n : Nat) : LoopT := ⟨0, g27_L0_I, g27_L0_O, g27_L0_R m n⟩
theorem g27_L0_kr (m n : Nat) (x : g27_L0_I.Val) : roundK (mkC (outVal g27_L0_O) []) (mkLp (outVal g27_L0_O) []) tt 26 g27_H g27_B0 0 (g27_L0_I.enc x) (Kl (ins := g27_L0_I) (outs := g27_L0_O) (g27_L0_R m n)) = g27_L0 m (n + 1) x.1 x.2.1 x.2.2.1 := by kernel_rfl
theorem g27_L0_ok {E : Entry} (hE : EOf Tryz.prog E 26 g27_H.pins) (m : Nat) (n : Nat) : LoopOK Tryz.prog E g27_B0 (g27_L0_T m n) :=
  loop_ok (CO := CallOK Tryz.prog) hmix htt (fun _ _ _ _ h => h) hE (C := fun R => mkC R []) (L := []) (fun _ _ _ _ _ h => mkC_spec (AllF.mem (l := []) trivial) h) (fun _ _ => loopsIn_of g27_B0_ls trivial) (fun n => (g27_L0_R m n)) (fun _ => by kernel_rfl) (fun n x => (g27_L0_kr m n x).trans (by kernel_rfl)) n
theorem g27_kr (m : Nat) (x : ShLVal g27_A) : fnK (mkC (g27_S.Val × ShLVal g27_U) []) (mkLp (g27_S.Val × ShLVal g27_U) [g27_L0_T m m]) tt g27_H Tryz.f27 (encS g27_A x) (Kd g27_S g27_U) = g27 m x.1 x.2.1 := by kernel_rfl
theorem g27_ok (m : Nat) : FunOK Tryz.prog (g27_T m) :=
  fun_ok hmix htt (g27_T m) Tryz.func27 (c := g27_C) (by kernel_rfl) (by kernel_rfl) (Lc := []) (AllF.mem (l := []) trivial) (L := [g27_L0_T m m]) (fun _ hE _ _ => loopsIn_of g27_C_ls ⟨mkLp_all ⟨fun _ => g27_L0_ok hE m m, trivial⟩, trivial⟩) (fun x => (g27_kr m x).trans (by kernel_rfl))
/-! 6 sparse/sparselaw09.awake -/
def sparselaw09_awake_H : Hints := { regs := [⟨[], []⟩, ⟨[(5, 1)], [1, 2]⟩, ⟨[(3, 1)], [1, 2, 3, 4]⟩, ⟨[(0, 1), (2, 1), (3, 1), (6, 1), (12, 1), (18, 1), (23, 1), (29, 1)], [0]⟩], heads := [], exits := [], rets := [0], pins := [], spec := [[false]] }
abbrev sparselaw09_awake_A : List Sh := []
abbrev sparselaw09_awake_S : Sh := .a (.c .bool)
abbrev sparselaw09_awake_U : List Sh := []
def sparselaw09_awake_R (m : Nat) : ShLVal sparselaw09_awake_A → Option (sparselaw09_awake_S.Val × ShLVal sparselaw09_awake_U) := fun (x : Unit) => sparselaw09_awake m
def sparselaw09_awake_T (m : Nat) : FunT := ⟨6, sparselaw09_awake_A, sparselaw09_awake_S, sparselaw09_awake_U, sparselaw09_awake_R m⟩
noncomputable def sparselaw09_awake_C : Code := codeOf Tryz.f6
theorem sparselaw09_awake_C_ls : loopsL sparselaw09_awake_C 0 = [] := by kernel_rfl
theorem sparselaw09_awake_kr (m : Nat) (x : ShLVal sparselaw09_awake_A) : fnK (mkC (sparselaw09_awake_S.Val × ShLVal sparselaw09_awake_U) [g9_T m, g26_T m, g27_T m, g28_T m]) (mkLp (sparselaw09_awake_S.Val × ShLVal sparselaw09_awake_U) []) tt sparselaw09_awake_H Tryz.f6 (encS sparselaw09_awake_A x) (Kd sparselaw09_awake_S sparselaw09_awake_U) = sparselaw09_awake m := by kernel_rfl
theorem sparselaw09_awake_ok (m : Nat) : FunOK Tryz.prog (sparselaw09_awake_T m) :=
  fun_ok hmix htt (sparselaw09_awake_T m) Tryz.func6 (c := sparselaw09_awake_C) (by kernel_rfl) (by kernel_rfl) (Lc := [g9_T m, g26_T m, g27_T m, g28_T m]) (AllF.mem (l := [g9_T m, g26_T m, g27_T m, g28_T m]) ⟨g9_ok m, g26_ok m, g27_ok m, g28_ok m, trivial⟩) (L := []) (fun _ hE _ _ => loopsIn_of sparselaw09_awake_C_ls trivial) (fun x => (sparselaw09_awake_kr m x).trans (by kernel_rfl))
/-! 7 sparse/sparsekit.Place -/
def g7_H : Hints := { regs := [⟨[], [0, 1]⟩, ⟨[(0, 1), (2, 1)], [4]⟩], heads := [], exits := [], rets := [4], pins := [], spec := [[false]] }
abbrev g7_A : List Sh := [.a (.c (.int .i64)), .a (.c (.int .i64))]
abbrev g7_S : Sh := .a (.c (.int .i64))
abbrev g7_U : List Sh := [.a (.c .dead), .a (.c .dead)]
def g7_R (m : Nat) : ShLVal g7_A → Option (g7_S.Val × ShLVal g7_U) := fun (x : Int × Int × Unit) => g7 m x.1 x.2.1
def g7_T (m : Nat) : FunT := ⟨7, g7_A, g7_S, g7_U, g7_R m⟩
noncomputable def g7_C : Code := codeOf Tryz.f7
theorem g7_C_ls : loopsL g7_C 0 = [] := by kernel_rfl
theorem g7_kr (m : Nat) (x : ShLVal g7_A) : fnK (mkC (g7_S.Val × ShLVal g7_U) []) (mkLp (g7_S.Val × ShLVal g7_U) []) tt g7_H Tryz.f7 (encS g7_A x) (Kd g7_S g7_U) = g7 m x.1 x.2.1 := by kernel_rfl
theorem g7_ok (m : Nat) : FunOK Tryz.prog (g7_T m) :=
  fun_ok hmix htt (g7_T m) Tryz.func7 (c := g7_C) (by kernel_rfl) (by kernel_rfl) (Lc := []) (AllF.mem (l := []) trivial) (L := []) (fun _ hE _ _ => loopsIn_of g7_C_ls trivial) (fun x => (g7_kr m x).trans (by kernel_rfl))
/-! 139 sparse/sparseref01.trim -/
def g139_H : Hints := { regs := [⟨[], [0]⟩, ⟨[], [0, 3]⟩, ⟨[(2, 1)], [0, 3, 17]⟩, ⟨[(0, 1)], [0, 3]⟩, ⟨[], [0, 3, 4]⟩, ⟨[], [0, 3, 4, 5]⟩, ⟨[], [0, 3, 4, 5, 22]⟩, ⟨[(0, 1)], [0, 3, 4, 5]⟩, ⟨[(0, 1)], [0, 3, 4, 5]⟩, ⟨[(0, 1)], [2]⟩], heads := [(0, [0, 3]), (2, [0, 3, 4, 5])], exits := [(0, [0, 3]), (1, [0, 3]), (2, [4]), (3, [0, 3, 4, 5])], rets := [2], pins := [], spec := [[true]] }
abbrev g139_A : List Sh := [.a (.c (.imm (.int .u32)))]
abbrev g139_S : Sh := .a (.c (.nm 0 (.int .u32)))
abbrev g139_U : List Sh := [.a (.c .dead)]
def g139_R (m : Nat) : ShLVal g139_A → Option (g139_S.Val × ShLVal g139_U) := fun (x : List Int × Unit) => g139 m x.1
def g139_T (m : Nat) : FunT := ⟨139, g139_A, g139_S, g139_U, g139_R m⟩
noncomputable def g139_C : Code := codeOf Tryz.f139
noncomputable def g139_B0 : Code := loopAt g139_C 0 0
theorem g139_B0_ls : loopsL g139_B0 0 = [] := by kernel_rfl
noncomputable def g139_B2 : Code := loopAt g139_C 0 1
theorem g139_B2_ls : loopsL g139_B2 2 = [] := by kernel_rfl
theorem g139_C_ls : loopsL g139_C 0 = [(0, g139_B0), (2, g139_B2)] := by kernel_rfl
abbrev g139_L1_I : SS := [(0, .a (.c (.imm (.int .u32)))), (3, .a (.c (.int .i64))), (4, .a (.c (.nm 0 (.int .u32)))), (5, .a (.c (.int .i64)))]
abbrev g139_L1_O : List (Ex × SS) := [(.exit 2, [(4, .a (.c (.nm 0 (.int .u32))))])]
def g139_L1_R (m n : Nat) : g139_L1_I.Val → Option (outVal g139_L1_O) := (fun (x : List Int × Int × List Int × Int × Unit) => g139_L1 m n x.1 x.2.1 x.2.2.1 x.2.2.2.1)
def g139_L1_T (m n : Nat) : LoopT := ⟨2, g139_L1_I, g139_L1_O, g139_L1_R m n⟩
theorem g139_L1_kr (m n : Nat) (x : g139_L1_I.Val) : roundK (mkC (outVal g139_L1_O) []) (mkLp (outVal g139_L1_O) []) tt 33 g139_H g139_B2 2 (g139_L1_I.enc x) (Kl (ins := g139_L1_I) (outs := g139_L1_O) (g139_L1_R m n)) = g139_L1 m (n + 1) x.1 x.2.1 x.2.2.1 x.2.2.2.1 := by kernel_rfl
theorem g139_L1_ok {E : Entry} (hE : EOf Tryz.prog E 33 g139_H.pins) (m : Nat) (n : Nat) : LoopOK Tryz.prog E g139_B2 (g139_L1_T m n) :=
  loop_ok (CO := CallOK Tryz.prog) hmix htt (fun _ _ _ _ h => h) hE (C := fun R => mkC R []) (L := []) (fun _ _ _ _ _ h => mkC_spec (AllF.mem (l := []) trivial) h) (fun _ _ => loopsIn_of g139_B2_ls trivial) (fun n => (g139_L1_R m n)) (fun _ => by kernel_rfl) (fun n x => (g139_L1_kr m n x).trans (by kernel_rfl)) n
abbrev g139_L0_I : SS := [(0, .a (.c (.imm (.int .u32)))), (3, .a (.c (.int .i64)))]
abbrev g139_L0_O : List (Ex × SS) := [(.exit 0, [(0, .a (.c (.imm (.int .u32)))), (3, .a (.c (.int .i64)))])]
def g139_L0_R (m n : Nat) : g139_L0_I.Val → Option (outVal g139_L0_O) := (fun (x : List Int × Int × Unit) => g139_L0 m n x.1 x.2.1)
def g139_L0_T (m n : Nat) : LoopT := ⟨0, g139_L0_I, g139_L0_O, g139_L0_R m n⟩
theorem g139_L0_kr (m n : Nat) (x : g139_L0_I.Val) : roundK (mkC (outVal g139_L0_O) []) (mkLp (outVal g139_L0_O) []) tt 33 g139_H g139_B0 0 (g139_L0_I.enc x) (Kl (ins := g139_L0_I) (outs := g139_L0_O) (g139_L0_R m n)) = g139_L0 m (n + 1) x.1 x.2.1 := by kernel_rfl
theorem g139_L0_ok {E : Entry} (hE : EOf Tryz.prog E 33 g139_H.pins) (m : Nat) (n : Nat) : LoopOK Tryz.prog E g139_B0 (g139_L0_T m n) :=
  loop_ok (CO := CallOK Tryz.prog) hmix htt (fun _ _ _ _ h => h) hE (C := fun R => mkC R []) (L := []) (fun _ _ _ _ _ h => mkC_spec (AllF.mem (l := []) trivial) h) (fun _ _ => loopsIn_of g139_B0_ls trivial) (fun n => (g139_L0_R m n)) (fun _ => by kernel_rfl) (fun n x => (g139_L0_kr m n x).trans (by kernel_rfl)) n
theorem g139_kr (m : Nat) (x : ShLVal g139_A) : fnK (mkC (g139_S.Val × ShLVal g139_U) []) (mkLp (g139_S.Val × ShLVal g139_U) [g139_L0_T m m, g139_L1_T m m]) tt g139_H Tryz.f139 (encS g139_A x) (Kd g139_S g139_U) = g139 m x.1 := by kernel_rfl
theorem g139_ok (m : Nat) : FunOK Tryz.prog (g139_T m) :=
  fun_ok hmix htt (g139_T m) Tryz.func139 (c := g139_C) (by kernel_rfl) (by kernel_rfl) (Lc := []) (AllF.mem (l := []) trivial) (L := [g139_L0_T m m, g139_L1_T m m]) (fun _ hE _ _ => loopsIn_of g139_C_ls ⟨mkLp_all ⟨fun _ => g139_L0_ok hE m m, fun h => absurd (show (2 : Nat) = 0 from h) (by decide), trivial⟩, mkLp_all ⟨fun h => absurd (show (0 : Nat) = 2 from h) (by decide), fun _ => g139_L1_ok hE m m, trivial⟩, trivial⟩) (fun x => (g139_kr m x).trans (by kernel_rfl))
/-! 127 sparse/sparseref01.make1 -/
def g127_H : Hints := { regs := [⟨[], [0, 1, 4]⟩, ⟨[(0, 1)], [0, 1, 4]⟩, ⟨[(0, 1), (1, 1), (6, 1)], [4]⟩], heads := [], exits := [], rets := [4], pins := [], spec := [[false, true]] }
abbrev g127_A : List Sh := [.a (.c .bool), .a (.c (.imm (.int .u32)))]
abbrev g127_S : Sh := .a (.agg [.bool, (.nm 0 (.int .u32))])
abbrev g127_U : List Sh := [.a (.c .dead), .a (.c .dead)]
def g127_R (m : Nat) : ShLVal g127_A → Option (g127_S.Val × ShLVal g127_U) := fun (x : Bool × List Int × Unit) => g127 m x.1 x.2.1
def g127_T (m : Nat) : FunT := ⟨127, g127_A, g127_S, g127_U, g127_R m⟩
noncomputable def g127_C : Code := codeOf Tryz.f127
theorem g127_C_ls : loopsL g127_C 0 = [] := by kernel_rfl
theorem g127_kr (m : Nat) (x : ShLVal g127_A) : fnK (mkC (g127_S.Val × ShLVal g127_U) [g139_T m]) (mkLp (g127_S.Val × ShLVal g127_U) []) tt g127_H Tryz.f127 (encS g127_A x) (Kd g127_S g127_U) = g127 m x.1 x.2.1 := by kernel_rfl
theorem g127_ok (m : Nat) : FunOK Tryz.prog (g127_T m) :=
  fun_ok hmix htt (g127_T m) Tryz.func127 (c := g127_C) (by kernel_rfl) (by kernel_rfl) (Lc := [g139_T m]) (AllF.mem (l := [g139_T m]) ⟨g139_ok m, trivial⟩) (L := []) (fun _ hE _ _ => loopsIn_of g127_C_ls trivial) (fun x => (g127_kr m x).trans (by kernel_rfl))
/-! 93 sparse/sparseref01.FromInt -/
def g93_H : Hints := { regs := [⟨[], [0, 2]⟩, ⟨[], [0, 2, 3]⟩, ⟨[], [0, 2, 3, 7]⟩, ⟨[], [0, 2, 3]⟩, ⟨[(0, 1)], [2]⟩], heads := [], exits := [], rets := [2], pins := [], spec := [[false, true]] }
abbrev g93_A : List Sh := [.a (.c (.int .i64))]
abbrev g93_S : Sh := .a (.agg [.bool, (.nm 0 (.int .u32))])
abbrev g93_U : List Sh := [.a (.c .dead)]
def g93_R (m : Nat) : ShLVal g93_A → Option (g93_S.Val × ShLVal g93_U) := fun (x : Int × Unit) => g93 m x.1
def g93_T (m : Nat) : FunT := ⟨93, g93_A, g93_S, g93_U, g93_R m⟩
noncomputable def g93_C : Code := codeOf Tryz.f93
theorem g93_C_ls : loopsL g93_C 0 = [] := by kernel_rfl
theorem g93_kr (m : Nat) (x : ShLVal g93_A) : fnK (mkC (g93_S.Val × ShLVal g93_U) [g127_T m]) (mkLp (g93_S.Val × ShLVal g93_U) []) tt g93_H Tryz.f93 (encS g93_A x) (Kd g93_S g93_U) = g93 m x.1 := by kernel_rfl
theorem g93_ok (m : Nat) : FunOK Tryz.prog (g93_T m) :=
  fun_ok hmix htt (g93_T m) Tryz.func93 (c := g93_C) (by kernel_rfl) (by kernel_rfl) (Lc := [g127_T m]) (AllF.mem (l := [g127_T m]) ⟨g127_ok m, trivial⟩) (L := []) (fun _ hE _ _ => loopsIn_of g93_C_ls trivial) (fun x => (g93_kr m x).trans (by kernel_rfl))
/-! 120 sparse/sparseref01.Norm -/
def g120_H : Hints := { regs := [⟨[], [1, 2]⟩, ⟨[], [2]⟩], heads := [], exits := [], rets := [2], pins := [], spec := [[false, true]] }
abbrev g120_A : List Sh := [.a (.agg [.bool, (.imm (.int .u32))])]
abbrev g120_S : Sh := .a (.agg [.bool, (.nm 0 (.int .u32))])
abbrev g120_U : List Sh := [.a (.c .dead)]
def g120_R (m : Nat) : ShLVal g120_A → Option (g120_S.Val × ShLVal g120_U) := fun (x : (Bool × List Int × Unit) × Unit) => g120 m x.1.1 x.1.2.1
def g120_T (m : Nat) : FunT := ⟨120, g120_A, g120_S, g120_U, g120_R m⟩
noncomputable def g120_C : Code := codeOf Tryz.f120
theorem g120_C_ls : loopsL g120_C 0 = [] := by kernel_rfl
theorem g120_kr (m : Nat) (x : ShLVal g120_A) : fnK (mkC (g120_S.Val × ShLVal g120_U) [g127_T m]) (mkLp (g120_S.Val × ShLVal g120_U) []) tt g120_H Tryz.f120 (encS g120_A x) (Kd g120_S g120_U) = g120 m x.1.1 x.1.2.1 := by kernel_rfl
theorem g120_ok (m : Nat) : FunOK Tryz.prog (g120_T m) :=
  fun_ok hmix htt (g120_T m) Tryz.func120 (c := g120_C) (by kernel_rfl) (by kernel_rfl) (Lc := [g127_T m]) (AllF.mem (l := [g127_T m]) ⟨g127_ok m, trivial⟩) (L := []) (fun _ hE _ _ => loopsIn_of g120_C_ls trivial) (fun x => (g120_kr m x).trans (by kernel_rfl))
/-! 91 sparse/sparseref02.Bad -/
def g91_H : Hints := { regs := [⟨[], [0]⟩, ⟨[], [0]⟩], heads := [], exits := [], rets := [0], pins := [], spec := [[false, false, true, false]] }
abbrev g91_A : List Sh := []
abbrev g91_S : Sh := .a (.agg [.bool, .bool, (.nm 0 (.int .u32)), (.int .i64)])
abbrev g91_U : List Sh := []
def g91_R (m : Nat) : ShLVal g91_A → Option (g91_S.Val × ShLVal g91_U) := fun (x : Unit) => g91 m
def g91_T (m : Nat) : FunT := ⟨91, g91_A, g91_S, g91_U, g91_R m⟩
noncomputable def g91_C : Code := codeOf Tryz.f91
theorem g91_C_ls : loopsL g91_C 0 = [] := by kernel_rfl
theorem g91_kr (m : Nat) (x : ShLVal g91_A) : fnK (mkC (g91_S.Val × ShLVal g91_U) []) (mkLp (g91_S.Val × ShLVal g91_U) []) tt g91_H Tryz.f91 (encS g91_A x) (Kd g91_S g91_U) = g91 m := by kernel_rfl
theorem g91_ok (m : Nat) : FunOK Tryz.prog (g91_T m) :=
  fun_ok hmix htt (g91_T m) Tryz.func91 (c := g91_C) (by kernel_rfl) (by kernel_rfl) (Lc := []) (AllF.mem (l := []) trivial) (L := []) (fun _ hE _ _ => loopsIn_of g91_C_ls trivial) (fun x => (g91_kr m x).trans (by kernel_rfl))
/-! 128 sparse/sparseref01.TrailingZeros -/
def g128_H : Hints := { regs := [⟨[], [1]⟩, ⟨[], [3]⟩, ⟨[], [3, 4]⟩, ⟨[], [3, 4, 11]⟩, ⟨[(0, 1)], [3, 4]⟩, ⟨[], [3, 4, 18]⟩, ⟨[(2, 1)], [2]⟩, ⟨[], [2]⟩], heads := [(0, [3, 4])], exits := [(0, []), (1, [3, 4])], rets := [2], pins := [], spec := [[false]] }
abbrev g128_A : List Sh := [.a (.agg [.bool, (.imm (.int .u32))])]
abbrev g128_S : Sh := .a (.c (.int .i64))
abbrev g128_U : List Sh := [.a (.c .dead)]
def g128_R (m : Nat) : ShLVal g128_A → Option (g128_S.Val × ShLVal g128_U) := fun (x : (Bool × List Int × Unit) × Unit) => g128 m x.1.1 x.1.2.1
def g128_T (m : Nat) : FunT := ⟨128, g128_A, g128_S, g128_U, g128_R m⟩
noncomputable def g128_C : Code := codeOf Tryz.f128
noncomputable def g128_B0 : Code := loopAt g128_C 0 0
theorem g128_B0_ls : loopsL g128_B0 0 = [] := by kernel_rfl
theorem g128_C_ls : loopsL g128_C 0 = [(0, g128_B0)] := by kernel_rfl
abbrev g128_L0_I : SS := [(3, .a (.c (.nm 0 (.int .u32)))), (4, .a (.c (.int .i64)))]
abbrev g128_L0_O : List (Ex × SS) := [(.ret, [(2, .a (.c (.int .i64)))]), (.exit 0, [])]
def g128_L0_R (m n : Nat) : g128_L0_I.Val → Option (outVal g128_L0_O) := (fun (x : List Int × Int × Unit) => g128_L0 m n x.1 x.2.1)
def g128_L0_T (m n : Nat) : LoopT := ⟨0, g128_L0_I, g128_L0_O, g128_L0_R m n⟩
theorem g128_L0_kr (m n : Nat) (x : g128_L0_I.Val) : roundK (mkC (outVal g128_L0_O) [g139_T m, g133_T m]) (mkLp (outVal g128_L0_O) []) tt 27 g128_H g128_B0 0 (g128_L0_I.enc x) (Kl (ins := g128_L0_I) (outs := g128_L0_O) (g128_L0_R m n)) = g128_L0 m (n + 1) x.1 x.2.1 := by kernel_rfl
theorem g128_L0_ok {E : Entry} (hE : EOf Tryz.prog E 27 g128_H.pins) (m : Nat) (n : Nat) : LoopOK Tryz.prog E g128_B0 (g128_L0_T m n) :=
  loop_ok (CO := CallOK Tryz.prog) hmix htt (fun _ _ _ _ h => h) hE (C := fun R => mkC R [g139_T m, g133_T m]) (L := []) (fun _ _ _ _ _ h => mkC_spec (AllF.mem (l := [g139_T m, g133_T m]) ⟨g139_ok m, g133_ok m, trivial⟩) h) (fun _ _ => loopsIn_of g128_B0_ls trivial) (fun n => (g128_L0_R m n)) (fun _ => by kernel_rfl) (fun n x => (g128_L0_kr m n x).trans (by kernel_rfl)) n
theorem g128_kr (m : Nat) (x : ShLVal g128_A) : fnK (mkC (g128_S.Val × ShLVal g128_U) [g139_T m, g133_T m]) (mkLp (g128_S.Val × ShLVal g128_U) [g128_L0_T m m]) tt g128_H Tryz.f128 (encS g128_A x) (Kd g128_S g128_U) = g128 m x.1.1 x.1.2.1 := by kernel_rfl
theorem g128_ok (m : Nat) : FunOK Tryz.prog (g128_T m) :=
  fun_ok hmix htt (g128_T m) Tryz.func128 (c := g128_C) (by kernel_rfl) (by kernel_rfl) (Lc := [g139_T m, g133_T m]) (AllF.mem (l := [g139_T m, g133_T m]) ⟨g139_ok m, g133_ok m, trivial⟩) (L := [g128_L0_T m m]) (fun _ hE _ _ => loopsIn_of g128_C_ls ⟨mkLp_all ⟨fun _ => g128_L0_ok hE m m, trivial⟩, trivial⟩) (fun x => (g128_kr m x).trans (by kernel_rfl))
/-! 90 sparse/sparseref01.Abs -/
def g90_H : Hints := { regs := [⟨[], [1, 2]⟩, ⟨[], [2]⟩], heads := [], exits := [], rets := [2], pins := [], spec := [[false, true]] }
abbrev g90_A : List Sh := [.a (.agg [.bool, (.imm (.int .u32))])]
abbrev g90_S : Sh := .a (.agg [.bool, (.nm 0 (.int .u32))])
abbrev g90_U : List Sh := [.a (.c .dead)]
def g90_R (m : Nat) : ShLVal g90_A → Option (g90_S.Val × ShLVal g90_U) := fun (x : (Bool × List Int × Unit) × Unit) => g90 m x.1.1 x.1.2.1
def g90_T (m : Nat) : FunT := ⟨90, g90_A, g90_S, g90_U, g90_R m⟩
noncomputable def g90_C : Code := codeOf Tryz.f90
theorem g90_C_ls : loopsL g90_C 0 = [] := by kernel_rfl
theorem g90_kr (m : Nat) (x : ShLVal g90_A) : fnK (mkC (g90_S.Val × ShLVal g90_U) [g127_T m]) (mkLp (g90_S.Val × ShLVal g90_U) []) tt g90_H Tryz.f90 (encS g90_A x) (Kd g90_S g90_U) = g90 m x.1.1 x.1.2.1 := by kernel_rfl
theorem g90_ok (m : Nat) : FunOK Tryz.prog (g90_T m) :=
  fun_ok hmix htt (g90_T m) Tryz.func90 (c := g90_C) (by kernel_rfl) (by kernel_rfl) (Lc := [g127_T m]) (AllF.mem (l := [g127_T m]) ⟨g127_ok m, trivial⟩) (L := []) (fun _ hE _ _ => loopsIn_of g90_C_ls trivial) (fun x => (g90_kr m x).trans (by kernel_rfl))
/-! 144 sparse/sparseref01.shl -/
def g144_H : Hints := { regs := [⟨[], [0, 1]⟩, ⟨[], [0, 1, 5]⟩, ⟨[], [0, 1, 5, 6]⟩, ⟨[], [0, 1, 5, 6, 7]⟩, ⟨[], [0, 1, 5, 6, 7, 14]⟩, ⟨[(0, 1)], [0, 1, 5, 6, 7]⟩, ⟨[(0, 1)], [0, 1, 5, 6, 7]⟩, ⟨[(0, 1)], [0, 1, 5, 6, 7]⟩, ⟨[(0, 1)], [0, 1, 5, 6, 7]⟩, ⟨[(0, 1), (1, 1)], [4]⟩], heads := [(0, [0, 1, 5, 6, 7])], exits := [(0, [5, 6]), (1, [0, 1, 5, 6, 7])], rets := [4], pins := [], spec := [[true]] }
abbrev g144_A : List Sh := [.a (.c (.imm (.int .u32))), .a (.c (.int .i64))]
abbrev g144_S : Sh := .a (.c (.nm 0 (.int .u32)))
abbrev g144_U : List Sh := [.a (.c .dead), .a (.c .dead)]
def g144_R (m : Nat) : ShLVal g144_A → Option (g144_S.Val × ShLVal g144_U) := fun (x : List Int × Int × Unit) => g144 m x.1 x.2.1
def g144_T (m : Nat) : FunT := ⟨144, g144_A, g144_S, g144_U, g144_R m⟩
noncomputable def g144_C : Code := codeOf Tryz.f144
noncomputable def g144_B0 : Code := loopAt g144_C 0 0
theorem g144_B0_ls : loopsL g144_B0 0 = [] := by kernel_rfl
theorem g144_C_ls : loopsL g144_C 0 = [(0, g144_B0)] := by kernel_rfl
abbrev g144_L0_I : SS := [(0, .a (.c (.imm (.int .u32)))), (1, .a (.c (.int .i64))), (5, .a (.c (.nm 0 (.int .u32)))), (6, .a (.c (.int .u64))), (7, .a (.c (.int .i64)))]
abbrev g144_L0_O : List (Ex × SS) := [(.exit 0, [(5, .a (.c (.nm 0 (.int .u32)))), (6, .a (.c (.int .u64)))])]
def g144_L0_R (m n : Nat) : g144_L0_I.Val → Option (outVal g144_L0_O) := (fun (x : List Int × Int × List Int × Int × Int × Unit) => g144_L0 m n x.1 x.2.1 x.2.2.1 x.2.2.2.1 x.2.2.2.2.1)
def g144_L0_T (m n : Nat) : LoopT := ⟨0, g144_L0_I, g144_L0_O, g144_L0_R m n⟩
theorem g144_L0_kr (m n : Nat) (x : g144_L0_I.Val) : roundK (mkC (outVal g144_L0_O) []) (mkLp (outVal g144_L0_O) []) tt 39 g144_H g144_B0 0 (g144_L0_I.enc x) (Kl (ins := g144_L0_I) (outs := g144_L0_O) (g144_L0_R m n)) = g144_L0 m (n + 1) x.1 x.2.1 x.2.2.1 x.2.2.2.1 x.2.2.2.2.1 := by kernel_rfl
theorem g144_L0_ok {E : Entry} (hE : EOf Tryz.prog E 39 g144_H.pins) (m : Nat) (n : Nat) : LoopOK Tryz.prog E g144_B0 (g144_L0_T m n) :=
  loop_ok (CO := CallOK Tryz.prog) hmix htt (fun _ _ _ _ h => h) hE (C := fun R => mkC R []) (L := []) (fun _ _ _ _ _ h => mkC_spec (AllF.mem (l := []) trivial) h) (fun _ _ => loopsIn_of g144_B0_ls trivial) (fun n => (g144_L0_R m n)) (fun _ => by kernel_rfl) (fun n x => (g144_L0_kr m n x).trans (by kernel_rfl)) n
theorem g144_kr (m : Nat) (x : ShLVal g144_A) : fnK (mkC (g144_S.Val × ShLVal g144_U) []) (mkLp (g144_S.Val × ShLVal g144_U) [g144_L0_T m m]) tt g144_H Tryz.f144 (encS g144_A x) (Kd g144_S g144_U) = g144 m x.1 x.2.1 := by kernel_rfl
theorem g144_ok (m : Nat) : FunOK Tryz.prog (g144_T m) :=
  fun_ok hmix htt (g144_T m) Tryz.func144 (c := g144_C) (by kernel_rfl) (by kernel_rfl) (Lc := []) (AllF.mem (l := []) trivial) (L := [g144_L0_T m m]) (fun _ hE _ _ => loopsIn_of g144_C_ls ⟨mkLp_all ⟨fun _ => g144_L0_ok hE m m, trivial⟩, trivial⟩) (fun x => (g144_kr m x).trans (by kernel_rfl))
/-! 145 sparse/sparseref01.shr -/
def g145_H : Hints := { regs := [⟨[], [0, 1]⟩, ⟨[], [0, 1, 6]⟩, ⟨[], [0, 1, 6, 7]⟩, ⟨[(4, 1)], [0, 1, 6, 7, 21]⟩, ⟨[(0, 1)], [0, 1, 6, 7]⟩, ⟨[(0, 1), (1, 1)], [0, 1, 6, 7]⟩, ⟨[], [0, 1, 6, 8]⟩, ⟨[], [0, 1, 6, 8, 9]⟩, ⟨[], [0, 1, 6, 8, 9, 10]⟩, ⟨[], [0, 1, 6, 8, 9, 10, 39]⟩, ⟨[(0, 1)], [0, 1, 6, 8, 9, 10]⟩, ⟨[], [0, 1, 6, 8, 9, 10, 11]⟩, ⟨[], [0, 1, 6, 8, 9, 10, 11, 51]⟩, ⟨[(0, 1)], [0, 1, 6, 8, 9, 10, 11]⟩, ⟨[(4, 1)], [0, 1, 6, 8, 9, 10, 11, 75]⟩, ⟨[], [0, 1, 6, 8, 9, 10, 11]⟩, ⟨[(0, 1), (1, 1)], [0, 1, 6, 8, 9, 10]⟩, ⟨[(0, 1), (1, 1)], [4, 5]⟩], heads := [(0, [0, 1, 6, 7]), (2, [0, 1, 6, 8, 9, 10])], exits := [(0, [0, 1, 6]), (1, [0, 1, 6, 7]), (2, [6, 8]), (3, [0, 1, 6, 8, 9, 10])], rets := [4, 5], pins := [], spec := [[true], [false]] }
abbrev g145_A : List Sh := [.a (.c (.imm (.int .u32))), .a (.c (.int .i64))]
abbrev g145_S : Sh := .tup [(.c (.nm 0 (.int .u32))), (.c .bool)]
abbrev g145_U : List Sh := [.a (.c .dead), .a (.c .dead)]
def g145_R (m : Nat) : ShLVal g145_A → Option (g145_S.Val × ShLVal g145_U) := fun (x : List Int × Int × Unit) => g145 m x.1 x.2.1
def g145_T (m : Nat) : FunT := ⟨145, g145_A, g145_S, g145_U, g145_R m⟩
noncomputable def g145_C : Code := codeOf Tryz.f145
noncomputable def g145_B0 : Code := loopAt g145_C 0 0
theorem g145_B0_ls : loopsL g145_B0 0 = [] := by kernel_rfl
noncomputable def g145_B2 : Code := loopAt g145_C 0 1
theorem g145_B2_ls : loopsL g145_B2 2 = [] := by kernel_rfl
theorem g145_C_ls : loopsL g145_C 0 = [(0, g145_B0), (2, g145_B2)] := by kernel_rfl
abbrev g145_L1_I : SS := [(0, .a (.c (.imm (.int .u32)))), (1, .a (.c (.int .i64))), (6, .a (.c .bool)), (8, .a (.c (.nm 0 (.int .u32)))), (9, .a (.c (.int .i64))), (10, .a (.c (.int .i64)))]
abbrev g145_L1_O : List (Ex × SS) := [(.exit 2, [(6, .a (.c .bool)), (8, .a (.c (.nm 0 (.int .u32))))])]
def g145_L1_R (m n : Nat) : g145_L1_I.Val → Option (outVal g145_L1_O) := (fun (x : List Int × Int × Bool × List Int × Int × Int × Unit) => g145_L1 m n x.1 x.2.1 x.2.2.1 x.2.2.2.1 x.2.2.2.2.1 x.2.2.2.2.2.1)
def g145_L1_T (m n : Nat) : LoopT := ⟨2, g145_L1_I, g145_L1_O, g145_L1_R m n⟩
theorem g145_L1_kr (m n : Nat) (x : g145_L1_I.Val) : roundK (mkC (outVal g145_L1_O) []) (mkLp (outVal g145_L1_O) []) tt 85 g145_H g145_B2 2 (g145_L1_I.enc x) (Kl (ins := g145_L1_I) (outs := g145_L1_O) (g145_L1_R m n)) = g145_L1 m (n + 1) x.1 x.2.1 x.2.2.1 x.2.2.2.1 x.2.2.2.2.1 x.2.2.2.2.2.1 := by kernel_rfl
theorem g145_L1_ok {E : Entry} (hE : EOf Tryz.prog E 85 g145_H.pins) (m : Nat) (n : Nat) : LoopOK Tryz.prog E g145_B2 (g145_L1_T m n) :=
  loop_ok (CO := CallOK Tryz.prog) hmix htt (fun _ _ _ _ h => h) hE (C := fun R => mkC R []) (L := []) (fun _ _ _ _ _ h => mkC_spec (AllF.mem (l := []) trivial) h) (fun _ _ => loopsIn_of g145_B2_ls trivial) (fun n => (g145_L1_R m n)) (fun _ => by kernel_rfl) (fun n x => (g145_L1_kr m n x).trans (by kernel_rfl)) n
abbrev g145_L0_I : SS := [(0, .a (.c (.imm (.int .u32)))), (1, .a (.c (.int .i64))), (6, .a (.c .bool)), (7, .a (.c (.int .i64)))]
abbrev g145_L0_O : List (Ex × SS) := [(.exit 0, [(0, .a (.c (.imm (.int .u32)))), (1, .a (.c (.int .i64))), (6, .a (.c .bool))])]
def g145_L0_R (m n : Nat) : g145_L0_I.Val → Option (outVal g145_L0_O) := (fun (x : List Int × Int × Bool × Int × Unit) => g145_L0 m n x.1 x.2.1 x.2.2.1 x.2.2.2.1)
def g145_L0_T (m n : Nat) : LoopT := ⟨0, g145_L0_I, g145_L0_O, g145_L0_R m n⟩
theorem g145_L0_kr (m n : Nat) (x : g145_L0_I.Val) : roundK (mkC (outVal g145_L0_O) []) (mkLp (outVal g145_L0_O) []) tt 85 g145_H g145_B0 0 (g145_L0_I.enc x) (Kl (ins := g145_L0_I) (outs := g145_L0_O) (g145_L0_R m n)) = g145_L0 m (n + 1) x.1 x.2.1 x.2.2.1 x.2.2.2.1 := by kernel_rfl
theorem g145_L0_ok {E : Entry} (hE : EOf Tryz.prog E 85 g145_H.pins) (m : Nat) (n : Nat) : LoopOK Tryz.prog E g145_B0 (g145_L0_T m n) :=
  loop_ok (CO := CallOK Tryz.prog) hmix htt (fun _ _ _ _ h => h) hE (C := fun R => mkC R []) (L := []) (fun _ _ _ _ _ h => mkC_spec (AllF.mem (l := []) trivial) h) (fun _ _ => loopsIn_of g145_B0_ls trivial) (fun n => (g145_L0_R m n)) (fun _ => by kernel_rfl) (fun n x => (g145_L0_kr m n x).trans (by kernel_rfl)) n
theorem g145_kr (m : Nat) (x : ShLVal g145_A) : fnK (mkC (g145_S.Val × ShLVal g145_U) []) (mkLp (g145_S.Val × ShLVal g145_U) [g145_L0_T m m, g145_L1_T m m]) tt g145_H Tryz.f145 (encS g145_A x) (Kd g145_S g145_U) = g145 m x.1 x.2.1 := by kernel_rfl
theorem g145_ok (m : Nat) : FunOK Tryz.prog (g145_T m) :=
  fun_ok hmix htt (g145_T m) Tryz.func145 (c := g145_C) (by kernel_rfl) (by kernel_rfl) (Lc := []) (AllF.mem (l := []) trivial) (L := [g145_L0_T m m, g145_L1_T m m]) (fun _ hE _ _ => loopsIn_of g145_C_ls ⟨mkLp_all ⟨fun _ => g145_L0_ok hE m m, fun h => absurd (show (2 : Nat) = 0 from h) (by decide), trivial⟩, mkLp_all ⟨fun h => absurd (show (0 : Nat) = 2 from h) (by decide), fun _ => g145_L1_ok hE m m, trivial⟩, trivial⟩) (fun x => (g145_kr m x).trans (by kernel_rfl))
/-! 156 sparse/sparseref01.Neg -/
def g156_H : Hints := { regs := [⟨[], [1, 2]⟩, ⟨[], [2]⟩], heads := [], exits := [], rets := [2], pins := [], spec := [[false, true]] }
abbrev g156_A : List Sh := [.a (.agg [.bool, (.imm (.int .u32))])]
abbrev g156_S : Sh := .a (.agg [.bool, (.nm 0 (.int .u32))])
abbrev g156_U : List Sh := [.a (.c .dead)]
def g156_R (m : Nat) : ShLVal g156_A → Option (g156_S.Val × ShLVal g156_U) := fun (x : (Bool × List Int × Unit) × Unit) => g156 m x.1.1 x.1.2.1
def g156_T (m : Nat) : FunT := ⟨156, g156_A, g156_S, g156_U, g156_R m⟩
noncomputable def g156_C : Code := codeOf Tryz.f156
theorem g156_C_ls : loopsL g156_C 0 = [] := by kernel_rfl
theorem g156_kr (m : Nat) (x : ShLVal g156_A) : fnK (mkC (g156_S.Val × ShLVal g156_U) [g127_T m]) (mkLp (g156_S.Val × ShLVal g156_U) []) tt g156_H Tryz.f156 (encS g156_A x) (Kd g156_S g156_U) = g156 m x.1.1 x.1.2.1 := by kernel_rfl
theorem g156_ok (m : Nat) : FunOK Tryz.prog (g156_T m) :=
  fun_ok hmix htt (g156_T m) Tryz.func156 (c := g156_C) (by kernel_rfl) (by kernel_rfl) (Lc := [g127_T m]) (AllF.mem (l := [g127_T m]) ⟨g127_ok m, trivial⟩) (L := []) (fun _ hE _ _ => loopsIn_of g156_C_ls trivial) (fun x => (g156_kr m x).trans (by kernel_rfl))
/-! 153 sparse/sparseref01.addMag -/
def g153_H : Hints := { regs := [⟨[], [0, 1]⟩, ⟨[], [0, 1, 5]⟩, ⟨[], [0, 1, 5, 6]⟩, ⟨[], [0, 1, 5, 6, 7]⟩, ⟨[], [0, 1, 5, 6, 7, 14]⟩, ⟨[(0, 1)], [0, 1, 5, 6, 7]⟩, ⟨[], [0, 1, 5, 6, 7, 20]⟩, ⟨[(0, 1)], [0, 1, 5, 6, 7]⟩, ⟨[], [0, 1, 5, 6, 7, 31]⟩, ⟨[(0, 1)], [0, 1, 5, 6, 7]⟩, ⟨[(0, 1)], [0, 1, 5, 6, 7]⟩, ⟨[(0, 1)], [0, 1, 5, 6, 7]⟩, ⟨[(0, 1), (1, 1)], [4]⟩], heads := [(0, [0, 1, 5, 6, 7])], exits := [(0, [5, 6]), (1, [0, 1, 5, 6, 7])], rets := [4], pins := [], spec := [[true]] }
abbrev g153_A : List Sh := [.a (.c (.imm (.int .u32))), .a (.c (.imm (.int .u32)))]
abbrev g153_S : Sh := .a (.c (.nm 0 (.int .u32)))
abbrev g153_U : List Sh := [.a (.c .dead), .a (.c .dead)]
def g153_R (m : Nat) : ShLVal g153_A → Option (g153_S.Val × ShLVal g153_U) := fun (x : List Int × List Int × Unit) => g153 m x.1 x.2.1
def g153_T (m : Nat) : FunT := ⟨153, g153_A, g153_S, g153_U, g153_R m⟩
noncomputable def g153_C : Code := codeOf Tryz.f153
noncomputable def g153_B0 : Code := loopAt g153_C 0 0
theorem g153_B0_ls : loopsL g153_B0 0 = [] := by kernel_rfl
theorem g153_C_ls : loopsL g153_C 0 = [(0, g153_B0)] := by kernel_rfl
abbrev g153_L0_I : SS := [(0, .a (.c (.imm (.int .u32)))), (1, .a (.c (.imm (.int .u32)))), (5, .a (.c (.nm 0 (.int .u32)))), (6, .a (.c (.int .u64))), (7, .a (.c (.int .i64)))]
abbrev g153_L0_O : List (Ex × SS) := [(.exit 0, [(5, .a (.c (.nm 0 (.int .u32)))), (6, .a (.c (.int .u64)))])]
def g153_L0_R (m n : Nat) : g153_L0_I.Val → Option (outVal g153_L0_O) := (fun (x : List Int × List Int × List Int × Int × Int × Unit) => g153_L0 m n x.1 x.2.1 x.2.2.1 x.2.2.2.1 x.2.2.2.2.1)
def g153_L0_T (m n : Nat) : LoopT := ⟨0, g153_L0_I, g153_L0_O, g153_L0_R m n⟩
theorem g153_L0_kr (m n : Nat) (x : g153_L0_I.Val) : roundK (mkC (outVal g153_L0_O) []) (mkLp (outVal g153_L0_O) []) tt 51 g153_H g153_B0 0 (g153_L0_I.enc x) (Kl (ins := g153_L0_I) (outs := g153_L0_O) (g153_L0_R m n)) = g153_L0 m (n + 1) x.1 x.2.1 x.2.2.1 x.2.2.2.1 x.2.2.2.2.1 := by kernel_rfl
theorem g153_L0_ok {E : Entry} (hE : EOf Tryz.prog E 51 g153_H.pins) (m : Nat) (n : Nat) : LoopOK Tryz.prog E g153_B0 (g153_L0_T m n) :=
  loop_ok (CO := CallOK Tryz.prog) hmix htt (fun _ _ _ _ h => h) hE (C := fun R => mkC R []) (L := []) (fun _ _ _ _ _ h => mkC_spec (AllF.mem (l := []) trivial) h) (fun _ _ => loopsIn_of g153_B0_ls trivial) (fun n => (g153_L0_R m n)) (fun _ => by kernel_rfl) (fun n x => (g153_L0_kr m n x).trans (by kernel_rfl)) n
theorem g153_kr (m : Nat) (x : ShLVal g153_A) : fnK (mkC (g153_S.Val × ShLVal g153_U) []) (mkLp (g153_S.Val × ShLVal g153_U) [g153_L0_T m m]) tt g153_H Tryz.f153 (encS g153_A x) (Kd g153_S g153_U) = g153 m x.1 x.2.1 := by kernel_rfl
theorem g153_ok (m : Nat) : FunOK Tryz.prog (g153_T m) :=
  fun_ok hmix htt (g153_T m) Tryz.func153 (c := g153_C) (by kernel_rfl) (by kernel_rfl) (Lc := []) (AllF.mem (l := []) trivial) (L := [g153_L0_T m m]) (fun _ hE _ _ => loopsIn_of g153_C_ls ⟨mkLp_all ⟨fun _ => g153_L0_ok hE m m, trivial⟩, trivial⟩) (fun x => (g153_kr m x).trans (by kernel_rfl))
/-! 154 sparse/sparseref01.cmpMag -/
def g154_H : Hints := { regs := [⟨[], [0, 1]⟩, ⟨[], [0, 1, 10]⟩, ⟨[(0, 1), (2, 1)], [15]⟩, ⟨[], [4]⟩, ⟨[], [4]⟩, ⟨[], [0, 1, 5]⟩, ⟨[], [0, 1, 5, 20]⟩, ⟨[(0, 1)], [0, 1, 5]⟩, ⟨[], [0, 1, 5, 31]⟩, ⟨[(0, 1), (4, 1)], [40]⟩, ⟨[], [4]⟩, ⟨[], [4]⟩, ⟨[], [4]⟩], heads := [(0, [0, 1, 5])], exits := [(0, []), (1, [0, 1, 5])], rets := [4], pins := [], spec := [[false]] }
abbrev g154_A : List Sh := [.a (.c (.imm (.int .u32))), .a (.c (.imm (.int .u32)))]
abbrev g154_S : Sh := .a (.c (.int .i64))
abbrev g154_U : List Sh := [.a (.c .dead), .a (.c .dead)]
def g154_R (m : Nat) : ShLVal g154_A → Option (g154_S.Val × ShLVal g154_U) := fun (x : List Int × List Int × Unit) => g154 m x.1 x.2.1
def g154_T (m : Nat) : FunT := ⟨154, g154_A, g154_S, g154_U, g154_R m⟩
noncomputable def g154_C : Code := codeOf Tryz.f154
noncomputable def g154_B0 : Code := loopAt g154_C 0 0
theorem g154_B0_ls : loopsL g154_B0 0 = [] := by kernel_rfl
theorem g154_C_ls : loopsL g154_C 0 = [(0, g154_B0)] := by kernel_rfl
abbrev g154_L0_I : SS := [(0, .a (.c (.imm (.int .u32)))), (1, .a (.c (.imm (.int .u32)))), (5, .a (.c (.int .i64)))]
abbrev g154_L0_O : List (Ex × SS) := [(.ret, [(4, .a (.c (.int .i64)))]), (.exit 0, [])]
def g154_L0_R (m n : Nat) : g154_L0_I.Val → Option (outVal g154_L0_O) := (fun (x : List Int × List Int × Int × Unit) => g154_L0 m n x.1 x.2.1 x.2.2.1)
def g154_L0_T (m n : Nat) : LoopT := ⟨0, g154_L0_I, g154_L0_O, g154_L0_R m n⟩
theorem g154_L0_kr (m n : Nat) (x : g154_L0_I.Val) : roundK (mkC (outVal g154_L0_O) []) (mkLp (outVal g154_L0_O) []) tt 41 g154_H g154_B0 0 (g154_L0_I.enc x) (Kl (ins := g154_L0_I) (outs := g154_L0_O) (g154_L0_R m n)) = g154_L0 m (n + 1) x.1 x.2.1 x.2.2.1 := by kernel_rfl
theorem g154_L0_ok {E : Entry} (hE : EOf Tryz.prog E 41 g154_H.pins) (m : Nat) (n : Nat) : LoopOK Tryz.prog E g154_B0 (g154_L0_T m n) :=
  loop_ok (CO := CallOK Tryz.prog) hmix htt (fun _ _ _ _ h => h) hE (C := fun R => mkC R []) (L := []) (fun _ _ _ _ _ h => mkC_spec (AllF.mem (l := []) trivial) h) (fun _ _ => loopsIn_of g154_B0_ls trivial) (fun n => (g154_L0_R m n)) (fun _ => by kernel_rfl) (fun n x => (g154_L0_kr m n x).trans (by kernel_rfl)) n
theorem g154_kr (m : Nat) (x : ShLVal g154_A) : fnK (mkC (g154_S.Val × ShLVal g154_U) []) (mkLp (g154_S.Val × ShLVal g154_U) [g154_L0_T m m]) tt g154_H Tryz.f154 (encS g154_A x) (Kd g154_S g154_U) = g154 m x.1 x.2.1 := by kernel_rfl
theorem g154_ok (m : Nat) : FunOK Tryz.prog (g154_T m) :=
  fun_ok hmix htt (g154_T m) Tryz.func154 (c := g154_C) (by kernel_rfl) (by kernel_rfl) (Lc := []) (AllF.mem (l := []) trivial) (L := [g154_L0_T m m]) (fun _ hE _ _ => loopsIn_of g154_C_ls ⟨mkLp_all ⟨fun _ => g154_L0_ok hE m m, trivial⟩, trivial⟩) (fun x => (g154_kr m x).trans (by kernel_rfl))
end Go.Vs.F
