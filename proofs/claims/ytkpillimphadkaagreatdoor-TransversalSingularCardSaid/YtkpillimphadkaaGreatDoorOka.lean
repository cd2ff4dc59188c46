/- The plain functions are what the code does (by program: gen.py). -/
import Derived.Test.YtkpillimphadkaaGreatDoorFn
import Derived.Test.YtkpillimphadkaaGreatDoorVc
import Derived.Test.YtkpillimphadkaaGreatDoorProg
import Derived.KernelRfl

/-! TzOk1 -/
set_option linter.unusedVariables false
set_option maxRecDepth 100000
namespace Go.Vs.F
open Go.Proofs
def tt : TT := [none, none, none, some ⟨(.int .i64), [.int .i64]⟩, some ⟨.bool, [.bool]⟩, some ⟨(.int .u8), [.int .u8]⟩, none, none, none, some ⟨.string, [.other]⟩, none, none, none, none, none, none, none, none, none, none, none, none, some ⟨(.slice 3 (.int .i64)), [.nil (.int .i64)]⟩, none, none, some ⟨(.slice 44 (.int .u64)), [.nil (.int .u64)]⟩, none, some ⟨(.struct [(0, 1), (1, 1), (2, 1), (3, 1), (4, 1)]), [.int .i64, .int .i64, .nil (.int .i64), .nil (.int .i64), .nil (.int .u64)]⟩, none, none, some ⟨(.struct [(0, 1), (1, 1), (2, 1)]), [.nil (.int .i64), .nil (.int .i64), .nil (.int .i64)]⟩, none, none, none, none, none, none, none, none, none, some ⟨(.slice 46 (.pr (.int .i64) (.pr (.int .i64) (.int .u64)))), [.nil (.pr (.int .i64) (.pr (.int .i64) (.int .u64)))]⟩, none, none, some ⟨(.int .u64), [.int .u64]⟩, some ⟨(.int .u64), [.int .u64]⟩, none, some ⟨(.struct [(0, 1), (1, 1), (2, 1)]), [.int .i64, .int .i64, .int .u64]⟩, none, none, none, none, none, none, some ⟨(.int .u64), [.int .u64]⟩, none, none, none, none, none, none, some ⟨(.slice 85 (.sl false (.pr (.int .i64) (.int .i64)))), [.nil (.sl false (.pr (.int .i64) (.int .i64)))]⟩, none, none, none, none, some ⟨(.struct [(0, 1), (1, 1), (2, 1), (3, 1), (4, 1)]), [.nil (.sl false (.pr (.int .i64) (.int .i64))), .nil (.int .i64), .nil (.int .i64), .nil (.int .i64), .nil (.int .i64)]⟩, none, none, some ⟨(.slice 4 .bool), [.nil .bool]⟩, some ⟨(.slice 22 (.sl false (.int .i64))), [.nil (.sl false (.int .i64))]⟩, none, some ⟨(.struct [(0, 1), (1, 1), (2, 1), (3, 1)]), [.nil (.sl false (.int .i64)), .nil (.int .i64), .nil (.int .i64), .nil .bool]⟩, none, none, none, none, none, some ⟨(.slice 107 (.int .u32)), [.nil (.int .u32)]⟩, none, some ⟨(.struct [(0, 1), (1, 1)]), [.bool, .nil (.int .u32)]⟩, none, some ⟨(.struct [(0, 1), (1, 2), (3, 1)]), [.bool, .bool, .nil (.int .u32), .int .i64]⟩, none, none, none, some ⟨(.slice 87 (.pr (.int .i64) (.int .i64))), [.nil (.pr (.int .i64) (.int .i64))]⟩, none, some ⟨(.struct [(0, 1), (1, 1)]), [.int .i64, .int .i64]⟩, none, none, none, none, none, none, none, none, none, none, none, none, none, none, none, none, none, none, none, some ⟨(.int .u32), [.int .u32]⟩, none, none, none, none, none, none, none, none, none, none, none, none, none, none, none, none, none, none, none, none, none, none, none, none, some ⟨(.tab 0 .u8 [0, 1, 28, 2, 29, 14, 24, 3, 30, 22, 20, 15, 25, 17, 4, 8, 31, 27, 13, 23, 21, 19, 16, 7, 26, 12, 18, 6, 11, 5, 10, 9]), [.other, .other, .other, .other, .other, .other, .other, .other, .other, .other, .other, .other, .other, .other, .other, .other, .other, .other, .other, .other, .other, .other, .other, .other, .other, .other, .other, .other, .other, .other, .other, .other]⟩]
theorem htt : TTok Tryz.prog tt := ttChk_spec (by kernel_rfl)
theorem hmix : Tryz.prog.follows .mixedOrders = true := by kernel_rfl
/-! 44 sparse/matrix.within -/
def g44_H : Hints := { regs := [⟨[], [0, 1, 2]⟩, ⟨[(1, 1), (3, 1), (5, 1)], [6]⟩], heads := [], exits := [], rets := [6], pins := [], spec := [[false]] }
abbrev g44_A : List Sh := [.a (.c (.int .i64)), .a (.c (.int .i64)), .a (.c (.int .i64))]
abbrev g44_S : Sh := .a (.c .bool)
abbrev g44_U : List Sh := [.a (.c .dead), .a (.c .dead), .a (.c .dead)]
def g44_R (m : Nat) : ShLVal g44_A → Option (g44_S.Val × ShLVal g44_U) := fun (x : Int × Int × Int × Unit) => g44 m x.1 x.2.1 x.2.2.1
def g44_T (m : Nat) : FunT := ⟨44, g44_A, g44_S, g44_U, g44_R m⟩
noncomputable def g44_C : Code := codeOf Tryz.f44
theorem g44_C_ls : loopsL g44_C 0 = [] := by kernel_rfl
theorem g44_kr (m : Nat) (x : ShLVal g44_A) : fnK (mkC (g44_S.Val × ShLVal g44_U) []) (mkLp (g44_S.Val × ShLVal g44_U) []) tt g44_H Tryz.f44 (encS g44_A x) (Kd g44_S g44_U) = g44 m x.1 x.2.1 x.2.2.1 := by kernel_rfl
theorem g44_ok (m : Nat) : FunOK Tryz.prog (g44_T m) :=
  fun_ok hmix htt (g44_T m) Tryz.func44 (c := g44_C) (by kernel_rfl) (by kernel_rfl) (Lc := []) (AllF.mem (l := []) trivial) (L := []) (fun _ hE _ _ => loopsIn_of g44_C_ls trivial) (fun x => (g44_kr m x).trans (by kernel_rfl))
/-! 105 cmp.isNaN_int_ -/
def g105_H : Hints := { regs := [⟨[], [0]⟩, ⟨[], [2]⟩], heads := [], exits := [], rets := [2], pins := [], spec := [[false]] }
abbrev g105_A : List Sh := [.a (.c (.int .i64))]
abbrev g105_S : Sh := .a (.c .bool)
abbrev g105_U : List Sh := [.a (.c .dead)]
def g105_R (m : Nat) : ShLVal g105_A → Option (g105_S.Val × ShLVal g105_U) := fun (x : Int × Unit) => g105 m x.1
def g105_T (m : Nat) : FunT := ⟨105, g105_A, g105_S, g105_U, g105_R m⟩
noncomputable def g105_C : Code := codeOf Tryz.f105
theorem g105_C_ls : loopsL g105_C 0 = [] := by kernel_rfl
theorem g105_kr (m : Nat) (x : ShLVal g105_A) : fnK (mkC (g105_S.Val × ShLVal g105_U) []) (mkLp (g105_S.Val × ShLVal g105_U) []) tt g105_H Tryz.f105 (encS g105_A x) (Kd g105_S g105_U) = g105 m x.1 := by kernel_rfl
theorem g105_ok (m : Nat) : FunOK Tryz.prog (g105_T m) :=
  fun_ok hmix htt (g105_T m) Tryz.func105 (c := g105_C) (by kernel_rfl) (by kernel_rfl) (Lc := []) (AllF.mem (l := []) trivial) (L := []) (fun _ hE _ _ => loopsIn_of g105_C_ls trivial) (fun x => (g105_kr m x).trans (by kernel_rfl))
/-! 89 cmp.Less_int_ -/
def g89_H : Hints := { regs := [⟨[], [0, 1]⟩, ⟨[(2, 1), (7, 1)], [4]⟩], heads := [], exits := [], rets := [4], pins := [], spec := [[false]] }
abbrev g89_A : List Sh := [.a (.c (.int .i64)), .a (.c (.int .i64))]
abbrev g89_S : Sh := .a (.c .bool)
abbrev g89_U : List Sh := [.a (.c .dead), .a (.c .dead)]
def g89_R (m : Nat) : ShLVal g89_A → Option (g89_S.Val × ShLVal g89_U) := fun (x : Int × Int × Unit) => g89 m x.1 x.2.1
def g89_T (m : Nat) : FunT := ⟨89, g89_A, g89_S, g89_U, g89_R m⟩
noncomputable def g89_C : Code := codeOf Tryz.f89
theorem g89_C_ls : loopsL g89_C 0 = [] := by kernel_rfl
theorem g89_kr (m : Nat) (x : ShLVal g89_A) : fnK (mkC (g89_S.Val × ShLVal g89_U) [g105_T m]) (mkLp (g89_S.Val × ShLVal g89_U) []) tt g89_H Tryz.f89 (encS g89_A x) (Kd g89_S g89_U) = g89 m x.1 x.2.1 := by kernel_rfl
theorem g89_ok (m : Nat) : FunOK Tryz.prog (g89_T m) :=
  fun_ok hmix htt (g89_T m) Tryz.func89 (c := g89_C) (by kernel_rfl) (by kernel_rfl) (Lc := [g105_T m]) (AllF.mem (l := [g105_T m]) ⟨g105_ok m, trivial⟩) (L := []) (fun _ hE _ _ => loopsIn_of g89_C_ls trivial) (fun x => (g89_kr m x).trans (by kernel_rfl))
/-! 68 slices.IsSorted___int_int_ -/
def g68_H : Hints := { regs := [⟨[], [0]⟩, ⟨[], [0, 3]⟩, ⟨[], [0, 3, 8]⟩, ⟨[(0, 1)], [0, 3]⟩, ⟨[], [0, 3, 20]⟩, ⟨[], [2]⟩, ⟨[], [2]⟩], heads := [(0, [0, 3])], exits := [(0, []), (1, [0, 3])], rets := [2], pins := [], spec := [[false]] }
abbrev g68_A : List Sh := [.a (.c (.imm (.int .i64)))]
abbrev g68_S : Sh := .a (.c .bool)
abbrev g68_U : List Sh := [.a (.c .dead)]
def g68_R (m : Nat) : ShLVal g68_A → Option (g68_S.Val × ShLVal g68_U) := fun (x : List Int × Unit) => g68 m x.1
def g68_T (m : Nat) : FunT := ⟨68, g68_A, g68_S, g68_U, g68_R m⟩
noncomputable def g68_C : Code := codeOf Tryz.f68
noncomputable def g68_B0 : Code := loopAt g68_C 0 0
theorem g68_B0_ls : loopsL g68_B0 0 = [] := by kernel_rfl
theorem g68_C_ls : loopsL g68_C 0 = [(0, g68_B0)] := by kernel_rfl
abbrev g68_L0_I : SS := [(0, .a (.c (.imm (.int .i64)))), (3, .a (.c (.int .i64)))]
abbrev g68_L0_O : List (Ex × SS) := [(.ret, [(2, .a (.c .bool))]), (.exit 0, [])]
def g68_L0_R (m n : Nat) : g68_L0_I.Val → Option (outVal g68_L0_O) := (fun (x : List Int × Int × Unit) => g68_L0 m n x.1 x.2.1)
def g68_L0_T (m n : Nat) : LoopT := ⟨0, g68_L0_I, g68_L0_O, g68_L0_R m n⟩
theorem g68_L0_kr (m n : Nat) (x : g68_L0_I.Val) : roundK (mkC (outVal g68_L0_O) [g89_T m]) (mkLp (outVal g68_L0_O) []) tt 21 g68_H g68_B0 0 (g68_L0_I.enc x) (Kl (ins := g68_L0_I) (outs := g68_L0_O) (g68_L0_R m n)) = g68_L0 m (n + 1) x.1 x.2.1 := by kernel_rfl
theorem g68_L0_ok {E : Entry} (hE : EOf Tryz.prog E 21 g68_H.pins) (m : Nat) (n : Nat) : LoopOK Tryz.prog E g68_B0 (g68_L0_T m n) :=
  loop_ok (CO := CallOK Tryz.prog) hmix htt (fun _ _ _ _ h => h) hE (C := fun R => mkC R [g89_T m]) (L := []) (fun _ _ _ _ _ h => mkC_spec (AllF.mem (l := [g89_T m]) ⟨g89_ok m, trivial⟩) h) (fun _ _ => loopsIn_of g68_B0_ls trivial) (fun n => (g68_L0_R m n)) (fun _ => by kernel_rfl) (fun n x => (g68_L0_kr m n x).trans (by kernel_rfl)) n
theorem g68_kr (m : Nat) (x : ShLVal g68_A) : fnK (mkC (g68_S.Val × ShLVal g68_U) [g89_T m]) (mkLp (g68_S.Val × ShLVal g68_U) [g68_L0_T m m]) tt g68_H Tryz.f68 (encS g68_A x) (Kd g68_S g68_U) = g68 m x.1 := by kernel_rfl
theorem g68_ok (m : Nat) : FunOK Tryz.prog (g68_T m) :=
  fun_ok hmix htt (g68_T m) Tryz.func68 (c := g68_C) (by kernel_rfl) (by kernel_rfl) (Lc := [g89_T m]) (AllF.mem (l := [g89_T m]) ⟨g89_ok m, trivial⟩) (L := [g68_L0_T m m]) (fun _ hE _ _ => loopsIn_of g68_C_ls ⟨mkLp_all ⟨fun _ => g68_L0_ok hE m m, trivial⟩, trivial⟩) (fun x => (g68_kr m x).trans (by kernel_rfl))
/-! 45 sparse/matrix.columns -/
def g45_H : Hints := { regs := [⟨[], [1]⟩, ⟨[(7, 1), (14, 1), (20, 1), (32, 1)], [1, 47]⟩, ⟨[], [2]⟩, ⟨[], [1, 49, 50]⟩, ⟨[], [1, 49, 50, 51]⟩, ⟨[], [1, 3, 49, 50]⟩, ⟨[], [1, 3, 4, 49, 50]⟩, ⟨[], [1, 4, 49, 50, 66, 67, 68]⟩, ⟨[], [1, 4, 49, 50, 66, 67, 68, 69]⟩, ⟨[], [1, 4, 6, 49, 50, 66, 67, 68]⟩, ⟨[(1, 1), (3, 1)], [1, 6, 49, 50, 66, 67, 68, 80]⟩, ⟨[], [2]⟩, ⟨[(0, 1)], [1, 4, 49, 50, 66, 67, 68]⟩, ⟨[(1, 1)], [1, 4, 49, 50, 66, 67, 68]⟩, ⟨[(1, 1)], [1, 49, 50]⟩, ⟨[], [2]⟩], heads := [(0, [1, 49, 50]), (2, [1, 4, 49, 50, 66, 67, 68])], exits := [(0, []), (1, [1, 49, 50]), (2, [1, 49, 50]), (3, [1, 4, 49, 50, 66, 67, 68])], rets := [2], pins := [], spec := [[false]] }
abbrev g45_A : List Sh := [.a (.agg [(.int .i64), (.int .i64), (.imm (.int .i64)), (.imm (.int .i64)), (.imm (.int .u64))])]
abbrev g45_S : Sh := .a (.c .bool)
abbrev g45_U : List Sh := [.a (.c .dead)]
def g45_R (m : Nat) : ShLVal g45_A → Option (g45_S.Val × ShLVal g45_U) := fun (x : (Int × Int × List Int × List Int × List Int × Unit) × Unit) => g45 m x.1.1 x.1.2.1 x.1.2.2.1 x.1.2.2.2.1 x.1.2.2.2.2.1
def g45_T (m : Nat) : FunT := ⟨45, g45_A, g45_S, g45_U, g45_R m⟩
noncomputable def g45_C : Code := codeOf Tryz.f45
noncomputable def g45_B0 : Code := loopAt g45_C 0 0
noncomputable def g45_B2 : Code := loopAt g45_B0 0 0
theorem g45_B2_ls : loopsL g45_B2 2 = [] := by kernel_rfl
theorem g45_B0_ls : loopsL g45_B0 0 = [(2, g45_B2)] := by kernel_rfl
theorem g45_C_ls : loopsL g45_C 0 = [(0, g45_B0)] := by kernel_rfl
abbrev g45_L1_I : SS := [(1, .a (.bx 0 [(.int .i64), (.int .i64), (.imm (.int .i64)), (.imm (.int .i64)), (.imm (.int .u64))])), (4, .a (.c (.int .i64))), (49, .a (.c (.int .i64))), (50, .a (.c (.int .i64))), (66, .a (.c (.imm (.int .i64)))), (67, .a (.c (.int .i64))), (68, .a (.c (.int .i64)))]
abbrev g45_L1_O : List (Ex × SS) := [(.ret, [(2, .a (.c .bool))]), (.exit 2, [(1, .a (.bx 0 [(.int .i64), (.int .i64), (.imm (.int .i64)), (.imm (.int .i64)), (.imm (.int .u64))])), (49, .a (.c (.int .i64))), (50, .a (.c (.int .i64)))])]
def g45_L1_R (m n : Nat) : g45_L1_I.Val → Option (outVal g45_L1_O) := (fun (x : (Int × Int × List Int × List Int × List Int × Unit) × Int × Int × Int × List Int × Int × Int × Unit) => g45_L1 m n x.1.1 x.1.2.1 x.1.2.2.1 x.1.2.2.2.1 x.1.2.2.2.2.1 x.2.1 x.2.2.1 x.2.2.2.1 x.2.2.2.2.1 x.2.2.2.2.2.1 x.2.2.2.2.2.2.1)
def g45_L1_T (m n : Nat) : LoopT := ⟨2, g45_L1_I, g45_L1_O, g45_L1_R m n⟩
theorem g45_L1_kr (m n : Nat) (x : g45_L1_I.Val) : roundK (mkC (outVal g45_L1_O) [g68_T m]) (mkLp (outVal g45_L1_O) []) tt 84 g45_H g45_B2 2 (g45_L1_I.enc x) (Kl (ins := g45_L1_I) (outs := g45_L1_O) (g45_L1_R m n)) = g45_L1 m (n + 1) x.1.1 x.1.2.1 x.1.2.2.1 x.1.2.2.2.1 x.1.2.2.2.2.1 x.2.1 x.2.2.1 x.2.2.2.1 x.2.2.2.2.1 x.2.2.2.2.2.1 x.2.2.2.2.2.2.1 := by kernel_rfl
theorem g45_L1_ok {E : Entry} (hE : EOf Tryz.prog E 84 g45_H.pins) (m : Nat) (n : Nat) : LoopOK Tryz.prog E g45_B2 (g45_L1_T m n) :=
  loop_ok (CO := CallOK Tryz.prog) hmix htt (fun _ _ _ _ h => h) hE (C := fun R => mkC R [g68_T m]) (L := []) (fun _ _ _ _ _ h => mkC_spec (AllF.mem (l := [g68_T m]) ⟨g68_ok m, trivial⟩) h) (fun _ _ => loopsIn_of g45_B2_ls trivial) (fun n => (g45_L1_R m n)) (fun _ => by kernel_rfl) (fun n x => (g45_L1_kr m n x).trans (by kernel_rfl)) n
abbrev g45_L0_I : SS := [(1, .a (.bx 0 [(.int .i64), (.int .i64), (.imm (.int .i64)), (.imm (.int .i64)), (.imm (.int .u64))])), (49, .a (.c (.int .i64))), (50, .a (.c (.int .i64)))]
abbrev g45_L0_O : List (Ex × SS) := [(.ret, [(2, .a (.c .bool))]), (.exit 0, [])]
def g45_L0_R (m n : Nat) : g45_L0_I.Val → Option (outVal g45_L0_O) := (fun (x : (Int × Int × List Int × List Int × List Int × Unit) × Int × Int × Unit) => g45_L0 m n x.1.1 x.1.2.1 x.1.2.2.1 x.1.2.2.2.1 x.1.2.2.2.2.1 x.2.1 x.2.2.1)
def g45_L0_T (m n : Nat) : LoopT := ⟨0, g45_L0_I, g45_L0_O, g45_L0_R m n⟩
theorem g45_L0_kr (m n : Nat) (x : g45_L0_I.Val) : roundK (mkC (outVal g45_L0_O) [g68_T m]) (mkLp (outVal g45_L0_O) [g45_L1_T m m]) tt 84 g45_H g45_B0 0 (g45_L0_I.enc x) (Kl (ins := g45_L0_I) (outs := g45_L0_O) (g45_L0_R m n)) = g45_L0 m (n + 1) x.1.1 x.1.2.1 x.1.2.2.1 x.1.2.2.2.1 x.1.2.2.2.2.1 x.2.1 x.2.2.1 := by kernel_rfl
theorem g45_L0_ok {E : Entry} (hE : EOf Tryz.prog E 84 g45_H.pins) (m : Nat) (n : Nat) : LoopOK Tryz.prog E g45_B0 (g45_L0_T m n) :=
  loop_ok (CO := CallOK Tryz.prog) hmix htt (fun _ _ _ _ h => h) hE (C := fun R => mkC R [g68_T m]) (L := [g45_L1_T m m]) (fun _ _ _ _ _ h => mkC_spec (AllF.mem (l := [g68_T m]) ⟨g68_ok m, trivial⟩) h) (fun _ _ => loopsIn_of g45_B0_ls ⟨mkLp_all ⟨fun _ => g45_L1_ok hE m m, trivial⟩, trivial⟩) (fun n => (g45_L0_R m n)) (fun _ => by kernel_rfl) (fun n x => (g45_L0_kr m n x).trans (by kernel_rfl)) n
theorem g45_kr (m : Nat) (x : ShLVal g45_A) : fnK (mkC (g45_S.Val × ShLVal g45_U) [g68_T m]) (mkLp (g45_S.Val × ShLVal g45_U) [g45_L0_T m m]) tt g45_H Tryz.f45 (encS g45_A x) (Kd g45_S g45_U) = g45 m x.1.1 x.1.2.1 x.1.2.2.1 x.1.2.2.2.1 x.1.2.2.2.2.1 := by kernel_rfl
theorem g45_ok (m : Nat) : FunOK Tryz.prog (g45_T m) :=
  fun_ok hmix htt (g45_T m) Tryz.func45 (c := g45_C) (by kernel_rfl) (by kernel_rfl) (Lc := [g68_T m]) (AllF.mem (l := [g68_T m]) ⟨g68_ok m, trivial⟩) (L := [g45_L0_T m m]) (fun _ hE _ _ => loopsIn_of g45_C_ls ⟨mkLp_all ⟨fun _ => g45_L0_ok hE m m, trivial⟩, trivial⟩) (fun x => (g45_kr m x).trans (by kernel_rfl))
/-! 70 sparse/float.parts -/
def g70_H : Hints := { regs := [⟨[], [0]⟩, ⟨[], [2, 3]⟩], heads := [], exits := [], rets := [2, 3], pins := [], spec := [[false], [false]] }
abbrev g70_A : List Sh := [.a (.c (.int .u64))]
abbrev g70_S : Sh := .tup [(.c (.int .i64)), (.c (.int .u64))]
abbrev g70_U : List Sh := [.a (.c .dead)]
def g70_R (m : Nat) : ShLVal g70_A → Option (g70_S.Val × ShLVal g70_U) := fun (x : Int × Unit) => g70 m x.1
def g70_T (m : Nat) : FunT := ⟨70, g70_A, g70_S, g70_U, g70_R m⟩
noncomputable def g70_C : Code := codeOf Tryz.f70
theorem g70_C_ls : loopsL g70_C 0 = [] := by kernel_rfl
theorem g70_kr (m : Nat) (x : ShLVal g70_A) : fnK (mkC (g70_S.Val × ShLVal g70_U) []) (mkLp (g70_S.Val × ShLVal g70_U) []) tt g70_H Tryz.f70 (encS g70_A x) (Kd g70_S g70_U) = g70 m x.1 := by kernel_rfl
theorem g70_ok (m : Nat) : FunOK Tryz.prog (g70_T m) :=
  fun_ok hmix htt (g70_T m) Tryz.func70 (c := g70_C) (by kernel_rfl) (by kernel_rfl) (Lc := []) (AllF.mem (l := []) trivial) (L := []) (fun _ hE _ _ => loopsIn_of g70_C_ls trivial) (fun x => (g70_kr m x).trans (by kernel_rfl))
/-! 48 sparse/float.IsFinite -/
def g48_H : Hints := { regs := [⟨[], [0]⟩, ⟨[(0, 1), (2, 1)], [3]⟩, ⟨[(0, 1)], [2]⟩], heads := [], exits := [], rets := [2], pins := [], spec := [[false]] }
abbrev g48_A : List Sh := [.a (.c (.int .u64))]
abbrev g48_S : Sh := .a (.c .bool)
abbrev g48_U : List Sh := [.a (.c .dead)]
def g48_R (m : Nat) : ShLVal g48_A → Option (g48_S.Val × ShLVal g48_U) := fun (x : Int × Unit) => g48 m x.1
def g48_T (m : Nat) : FunT := ⟨48, g48_A, g48_S, g48_U, g48_R m⟩
noncomputable def g48_C : Code := codeOf Tryz.f48
theorem g48_C_ls : loopsL g48_C 0 = [] := by kernel_rfl
theorem g48_kr (m : Nat) (x : ShLVal g48_A) : fnK (mkC (g48_S.Val × ShLVal g48_U) [g70_T m]) (mkLp (g48_S.Val × ShLVal g48_U) []) tt g48_H Tryz.f48 (encS g48_A x) (Kd g48_S g48_U) = g48 m x.1 := by kernel_rfl
theorem g48_ok (m : Nat) : FunOK Tryz.prog (g48_T m) :=
  fun_ok hmix htt (g48_T m) Tryz.func48 (c := g48_C) (by kernel_rfl) (by kernel_rfl) (Lc := [g70_T m]) (AllF.mem (l := [g70_T m]) ⟨g70_ok m, trivial⟩) (L := []) (fun _ hE _ _ => loopsIn_of g48_C_ls trivial) (fun x => (g48_kr m x).trans (by kernel_rfl))
/-! 47 sparse/matrix.Check_1 -/
def g47_H : Hints := { regs := [⟨[], [0]⟩, ⟨[(0, 1)], [2]⟩], heads := [], exits := [], rets := [2], pins := [], spec := [[false]] }
abbrev g47_A : List Sh := [.a (.c (.int .u64))]
abbrev g47_S : Sh := .a (.c .bool)
abbrev g47_U : List Sh := [.a (.c .dead)]
def g47_R (m : Nat) : ShLVal g47_A → Option (g47_S.Val × ShLVal g47_U) := fun (x : Int × Unit) => g47 m x.1
def g47_T (m : Nat) : FunT := ⟨47, g47_A, g47_S, g47_U, g47_R m⟩
noncomputable def g47_C : Code := codeOf Tryz.f47
theorem g47_C_ls : loopsL g47_C 0 = [] := by kernel_rfl
theorem g47_kr (m : Nat) (x : ShLVal g47_A) : fnK (mkC (g47_S.Val × ShLVal g47_U) [g48_T m]) (mkLp (g47_S.Val × ShLVal g47_U) []) tt g47_H Tryz.f47 (encS g47_A x) (Kd g47_S g47_U) = g47 m x.1 := by kernel_rfl
theorem g47_ok (m : Nat) : FunOK Tryz.prog (g47_T m) :=
  fun_ok hmix htt (g47_T m) Tryz.func47 (c := g47_C) (by kernel_rfl) (by kernel_rfl) (Lc := [g48_T m]) (AllF.mem (l := [g48_T m]) ⟨g48_ok m, trivial⟩) (L := []) (fun _ hE _ _ => loopsIn_of g47_C_ls trivial) (fun x => (g47_kr m x).trans (by kernel_rfl))
/-! 69 slices.IndexFunc___sparse/api.Float_sparse/api.Float_ -/
def g69_H : Hints := { regs := [⟨[], [0, 1]⟩, ⟨[], [0, 1, 7, 8]⟩, ⟨[], [0, 1, 7, 8, 9]⟩, ⟨[], [0, 1, 5, 7, 8]⟩, ⟨[], [0, 1, 5, 7, 8, 16]⟩, ⟨[(0, 1)], [4]⟩, ⟨[(1, 1)], [0, 1, 7, 8]⟩, ⟨[], [4]⟩], heads := [(0, [0, 1, 7, 8])], exits := [(0, []), (1, [0, 1, 7, 8])], rets := [4], pins := [], spec := [[false]] }
abbrev g69_A : List Sh := [.a (.c (.imm (.int .u64))), .a (.c (.fn 47))]
abbrev g69_S : Sh := .a (.c (.int .i64))
abbrev g69_U : List Sh := [.a (.c .dead), .a (.c .dead)]
def g69_R (m : Nat) : ShLVal g69_A → Option (g69_S.Val × ShLVal g69_U) := fun (x : List Int × Unit × Unit) => g69 m x.1
def g69_T (m : Nat) : FunT := ⟨69, g69_A, g69_S, g69_U, g69_R m⟩
noncomputable def g69_C : Code := codeOf Tryz.f69
noncomputable def g69_B0 : Code := loopAt g69_C 0 0
theorem g69_B0_ls : loopsL g69_B0 0 = [] := by kernel_rfl
theorem g69_C_ls : loopsL g69_C 0 = [(0, g69_B0)] := by kernel_rfl
abbrev g69_L0_I : SS := [(0, .a (.c (.imm (.int .u64)))), (1, .a (.c (.fn 47))), (7, .a (.c (.int .i64))), (8, .a (.c (.int .i64)))]
abbrev g69_L0_O : List (Ex × SS) := [(.ret, [(4, .a (.c (.int .i64)))]), (.exit 0, [])]
def g69_L0_R (m n : Nat) : g69_L0_I.Val → Option (outVal g69_L0_O) := (fun (x : List Int × Unit × Int × Int × Unit) => g69_L0 m n x.1 x.2.2.1 x.2.2.2.1)
def g69_L0_T (m n : Nat) : LoopT := ⟨0, g69_L0_I, g69_L0_O, g69_L0_R m n⟩
theorem g69_L0_kr (m n : Nat) (x : g69_L0_I.Val) : roundK (mkC (outVal g69_L0_O) [g47_T m]) (mkLp (outVal g69_L0_O) []) tt 19 g69_H g69_B0 0 (g69_L0_I.enc x) (Kl (ins := g69_L0_I) (outs := g69_L0_O) (g69_L0_R m n)) = g69_L0 m (n + 1) x.1 x.2.2.1 x.2.2.2.1 := by kernel_rfl
theorem g69_L0_ok {E : Entry} (hE : EOf Tryz.prog E 19 g69_H.pins) (m : Nat) (n : Nat) : LoopOK Tryz.prog E g69_B0 (g69_L0_T m n) :=
  loop_ok (CO := CallOK Tryz.prog) hmix htt (fun _ _ _ _ h => h) hE (C := fun R => mkC R [g47_T m]) (L := []) (fun _ _ _ _ _ h => mkC_spec (AllF.mem (l := [g47_T m]) ⟨g47_ok m, trivial⟩) h) (fun _ _ => loopsIn_of g69_B0_ls trivial) (fun n => (g69_L0_R m n)) (fun _ => by kernel_rfl) (fun n x => (g69_L0_kr m n x).trans (by kernel_rfl)) n
theorem g69_kr (m : Nat) (x : ShLVal g69_A) : fnK (mkC (g69_S.Val × ShLVal g69_U) [g47_T m]) (mkLp (g69_S.Val × ShLVal g69_U) [g69_L0_T m m]) tt g69_H Tryz.f69 (encS g69_A x) (Kd g69_S g69_U) = g69 m x.1 := by kernel_rfl
theorem g69_ok (m : Nat) : FunOK Tryz.prog (g69_T m) :=
  fun_ok hmix htt (g69_T m) Tryz.func69 (c := g69_C) (by kernel_rfl) (by kernel_rfl) (Lc := [g47_T m]) (AllF.mem (l := [g47_T m]) ⟨g47_ok m, trivial⟩) (L := [g69_L0_T m m]) (fun _ hE _ _ => loopsIn_of g69_C_ls ⟨mkLp_all ⟨fun _ => g69_L0_ok hE m m, trivial⟩, trivial⟩) (fun x => (g69_kr m x).trans (by kernel_rfl))
/-! 46 slices.ContainsFunc___sparse/api.Float_sparse/api.Float_ -/
def g46_H : Hints := { regs := [⟨[], [0, 1]⟩, ⟨[(0, 1), (1, 1)], [4]⟩], heads := [], exits := [], rets := [4], pins := [], spec := [[false]] }
abbrev g46_A : List Sh := [.a (.c (.imm (.int .u64))), .a (.c (.fn 47))]
abbrev g46_S : Sh := .a (.c .bool)
abbrev g46_U : List Sh := [.a (.c .dead), .a (.c .dead)]
def g46_R (m : Nat) : ShLVal g46_A → Option (g46_S.Val × ShLVal g46_U) := fun (x : List Int × Unit × Unit) => g46 m x.1
def g46_T (m : Nat) : FunT := ⟨46, g46_A, g46_S, g46_U, g46_R m⟩
noncomputable def g46_C : Code := codeOf Tryz.f46
theorem g46_C_ls : loopsL g46_C 0 = [] := by kernel_rfl
theorem g46_kr (m : Nat) (x : ShLVal g46_A) : fnK (mkC (g46_S.Val × ShLVal g46_U) [g69_T m]) (mkLp (g46_S.Val × ShLVal g46_U) []) tt g46_H Tryz.f46 (encS g46_A x) (Kd g46_S g46_U) = g46 m x.1 := by kernel_rfl
theorem g46_ok (m : Nat) : FunOK Tryz.prog (g46_T m) :=
  fun_ok hmix htt (g46_T m) Tryz.func46 (c := g46_C) (by kernel_rfl) (by kernel_rfl) (Lc := [g69_T m]) (AllF.mem (l := [g69_T m]) ⟨g69_ok m, trivial⟩) (L := []) (fun _ hE _ _ => loopsIn_of g46_C_ls trivial) (fun x => (g46_kr m x).trans (by kernel_rfl))
/-! 29 sparse/matrix.Check -/
def g29_H : Hints := { regs := [⟨[], [1]⟩, ⟨[(4, 1), (10, 1)], [1, 3]⟩, ⟨[], [2]⟩, ⟨[], [1, 20]⟩, ⟨[], [2]⟩, ⟨[], [24]⟩, ⟨[], [2]⟩, ⟨[], [2]⟩], heads := [], exits := [(0, [])], rets := [2], pins := [], spec := [[false]] }
abbrev g29_A : List Sh := [.a (.agg [(.int .i64), (.int .i64), (.imm (.int .i64)), (.imm (.int .i64)), (.imm (.int .u64))])]
abbrev g29_S : Sh := .a (.c (.int .i64))
abbrev g29_U : List Sh := [.a (.c .dead)]
def g29_R (m : Nat) : ShLVal g29_A → Option (g29_S.Val × ShLVal g29_U) := fun (x : (Int × Int × List Int × List Int × List Int × Unit) × Unit) => g29 m x.1.1 x.1.2.1 x.1.2.2.1 x.1.2.2.2.1 x.1.2.2.2.2.1
def g29_T (m : Nat) : FunT := ⟨29, g29_A, g29_S, g29_U, g29_R m⟩
noncomputable def g29_C : Code := codeOf Tryz.f29
theorem g29_C_ls : loopsL g29_C 0 = [] := by kernel_rfl
theorem g29_kr (m : Nat) (x : ShLVal g29_A) : fnK (mkC (g29_S.Val × ShLVal g29_U) [g44_T m, g45_T m, g46_T m]) (mkLp (g29_S.Val × ShLVal g29_U) []) tt g29_H Tryz.f29 (encS g29_A x) (Kd g29_S g29_U) = g29 m x.1.1 x.1.2.1 x.1.2.2.1 x.1.2.2.2.1 x.1.2.2.2.2.1 := by kernel_rfl
theorem g29_ok (m : Nat) : FunOK Tryz.prog (g29_T m) :=
  fun_ok hmix htt (g29_T m) Tryz.func29 (c := g29_C) (by kernel_rfl) (by kernel_rfl) (Lc := [g44_T m, g45_T m, g46_T m]) (AllF.mem (l := [g44_T m, g45_T m, g46_T m]) ⟨g44_ok m, g45_ok m, g46_ok m, trivial⟩) (L := []) (fun _ hE _ _ => loopsIn_of g29_C_ls trivial) (fun x => (g29_kr m x).trans (by kernel_rfl))
/-! 21 sparse/transversal.square -/
def g21_H : Hints := { regs := [⟨[], [1]⟩, ⟨[], [1, 3]⟩, ⟨[(2, 1)], [3, 14]⟩, ⟨[], [2]⟩, ⟨[(0, 1)], [2]⟩], heads := [], exits := [], rets := [2], pins := [], spec := [[false]] }
abbrev g21_A : List Sh := [.a (.agg [(.int .i64), (.int .i64), (.imm (.int .i64)), (.imm (.int .i64)), (.imm (.int .u64))])]
abbrev g21_S : Sh := .a (.c (.int .i64))
abbrev g21_U : List Sh := [.a (.c .dead)]
def g21_R (m : Nat) : ShLVal g21_A → Option (g21_S.Val × ShLVal g21_U) := fun (x : (Int × Int × List Int × List Int × List Int × Unit) × Unit) => g21 m x.1.1 x.1.2.1 x.1.2.2.1 x.1.2.2.2.1 x.1.2.2.2.2.1
def g21_T (m : Nat) : FunT := ⟨21, g21_A, g21_S, g21_U, g21_R m⟩
noncomputable def g21_C : Code := codeOf Tryz.f21
theorem g21_C_ls : loopsL g21_C 0 = [] := by kernel_rfl
theorem g21_kr (m : Nat) (x : ShLVal g21_A) : fnK (mkC (g21_S.Val × ShLVal g21_U) [g29_T m]) (mkLp (g21_S.Val × ShLVal g21_U) []) tt g21_H Tryz.f21 (encS g21_A x) (Kd g21_S g21_U) = g21 m x.1.1 x.1.2.1 x.1.2.2.1 x.1.2.2.2.1 x.1.2.2.2.2.1 := by kernel_rfl
theorem g21_ok (m : Nat) : FunOK Tryz.prog (g21_T m) :=
  fun_ok hmix htt (g21_T m) Tryz.func21 (c := g21_C) (by kernel_rfl) (by kernel_rfl) (Lc := [g29_T m]) (AllF.mem (l := [g29_T m]) ⟨g29_ok m, trivial⟩) (L := []) (fun _ hE _ _ => loopsIn_of g21_C_ls trivial) (fun x => (g21_kr m x).trans (by kernel_rfl))
/-! 62 sparse/matrix.entries -/
def g62_H : Hints := { regs := [⟨[], [1]⟩, ⟨[], [1, 3]⟩, ⟨[], [1, 3, 7, 8]⟩, ⟨[], [1, 3, 7, 8, 9]⟩, ⟨[], [1, 3, 4, 7, 8]⟩, ⟨[], [1, 3, 4, 5, 7, 8]⟩, ⟨[], [1, 3, 4, 5, 7, 8, 23]⟩, ⟨[(0, 1)], [1, 3, 4, 5, 7, 8]⟩, ⟨[(0, 1)], [1, 3, 4, 5, 7, 8]⟩, ⟨[(1, 1)], [1, 3, 7, 8]⟩, ⟨[(0, 1)], [2]⟩], heads := [(0, [1, 3, 7, 8]), (2, [1, 3, 4, 5, 7, 8])], exits := [(0, [3]), (1, [1, 3, 7, 8]), (2, [1, 3, 7, 8]), (3, [1, 3, 4, 5, 7, 8])], rets := [2], pins := [], spec := [[true]] }
abbrev g62_A : List Sh := [.a (.agg [(.int .i64), (.int .i64), (.imm (.int .i64)), (.imm (.int .i64)), (.imm (.int .u64))])]
abbrev g62_S : Sh := .a (.c (.nm 0 (.pr (.int .i64) (.pr (.int .i64) (.int .u64)))))
abbrev g62_U : List Sh := [.a (.c .dead)]
def g62_R (m : Nat) : ShLVal g62_A → Option (g62_S.Val × ShLVal g62_U) := fun (x : (Int × Int × List Int × List Int × List Int × Unit) × Unit) => g62 m x.1.1 x.1.2.1 x.1.2.2.1 x.1.2.2.2.1 x.1.2.2.2.2.1
def g62_T (m : Nat) : FunT := ⟨62, g62_A, g62_S, g62_U, g62_R m⟩
noncomputable def g62_C : Code := codeOf Tryz.f62
noncomputable def g62_B0 : Code := loopAt g62_C 0 0
noncomputable def g62_B2 : Code := loopAt g62_B0 0 0
theorem g62_B2_ls : loopsL g62_B2 2 = [] := by kernel_rfl
theorem g62_B0_ls : loopsL g62_B0 0 = [(2, g62_B2)] := by kernel_rfl
theorem g62_C_ls : loopsL g62_C 0 = [(0, g62_B0)] := by kernel_rfl
abbrev g62_L1_I : SS := [(1, .a (.bx 0 [(.int .i64), (.int .i64), (.imm (.int .i64)), (.imm (.int .i64)), (.imm (.int .u64))])), (3, .a (.c (.nm 1 (.pr (.int .i64) (.pr (.int .i64) (.int .u64)))))), (4, .a (.c (.int .i64))), (5, .a (.c (.int .i64))), (7, .a (.c (.int .i64))), (8, .a (.c (.int .i64)))]
abbrev g62_L1_O : List (Ex × SS) := [(.exit 2, [(1, .a (.bx 0 [(.int .i64), (.int .i64), (.imm (.int .i64)), (.imm (.int .i64)), (.imm (.int .u64))])), (3, .a (.c (.nm 1 (.pr (.int .i64) (.pr (.int .i64) (.int .u64)))))), (7, .a (.c (.int .i64))), (8, .a (.c (.int .i64)))])]
def g62_L1_R (m n : Nat) : g62_L1_I.Val → Option (outVal g62_L1_O) := (fun (x : (Int × Int × List Int × List Int × List Int × Unit) × (List (Int × Int × Int)) × Int × Int × Int × Int × Unit) => g62_L1 m n x.1.1 x.1.2.1 x.1.2.2.1 x.1.2.2.2.1 x.1.2.2.2.2.1 x.2.1 x.2.2.1 x.2.2.2.1 x.2.2.2.2.1 x.2.2.2.2.2.1)
def g62_L1_T (m n : Nat) : LoopT := ⟨2, g62_L1_I, g62_L1_O, g62_L1_R m n⟩
theorem g62_L1_kr (m n : Nat) (x : g62_L1_I.Val) : roundK (mkC (outVal g62_L1_O) []) (mkLp (outVal g62_L1_O) []) tt 43 g62_H g62_B2 2 (g62_L1_I.enc x) (Kl (ins := g62_L1_I) (outs := g62_L1_O) (g62_L1_R m n)) = g62_L1 m (n + 1) x.1.1 x.1.2.1 x.1.2.2.1 x.1.2.2.2.1 x.1.2.2.2.2.1 x.2.1 x.2.2.1 x.2.2.2.1 x.2.2.2.2.1 x.2.2.2.2.2.1 := by kernel_rfl
theorem g62_L1_ok {E : Entry} (hE : EOf Tryz.prog E 43 g62_H.pins) (m : Nat) (n : Nat) : LoopOK Tryz.prog E g62_B2 (g62_L1_T m n) :=
  loop_ok (CO := CallOK Tryz.prog) hmix htt (fun _ _ _ _ h => h) hE (C := fun R => mkC R []) (L := []) (fun _ _ _ _ _ h => mkC_spec (AllF.mem (l := []) trivial) h) (fun _ _ => loopsIn_of g62_B2_ls trivial) (fun n => (g62_L1_R m n)) (fun _ => by kernel_rfl) (fun n x => (g62_L1_kr m n x).trans (by kernel_rfl)) n
abbrev g62_L0_I : SS := [(1, .a (.bx 0 [(.int .i64), (.int .i64), (.imm (.int .i64)), (.imm (.int .i64)), (.imm (.int .u64))])), (3, .a (.c (.nm 1 (.pr (.int .i64) (.pr (.int .i64) (.int .u64)))))), (7, .a (.c (.int .i64))), (8, .a (.c (.int .i64)))]
abbrev g62_L0_O : List (Ex × SS) := [(.exit 0, [(3, .a (.c (.nm 0 (.pr (.int .i64) (.pr (.int .i64) (.int .u64))))))])]
def g62_L0_R (m n : Nat) : g62_L0_I.Val → Option (outVal g62_L0_O) := (fun (x : (Int × Int × List Int × List Int × List Int × Unit) × (List (Int × Int × Int)) × Int × Int × Unit) => g62_L0 m n x.1.1 x.1.2.1 x.1.2.2.1 x.1.2.2.2.1 x.1.2.2.2.2.1 x.2.1 x.2.2.1 x.2.2.2.1)
def g62_L0_T (m n : Nat) : LoopT := ⟨0, g62_L0_I, g62_L0_O, g62_L0_R m n⟩
theorem g62_L0_kr (m n : Nat) (x : g62_L0_I.Val) : roundK (mkC (outVal g62_L0_O) []) (mkLp (outVal g62_L0_O) [g62_L1_T m m]) tt 43 g62_H g62_B0 0 (g62_L0_I.enc x) (Kl (ins := g62_L0_I) (outs := g62_L0_O) (g62_L0_R m n)) = g62_L0 m (n + 1) x.1.1 x.1.2.1 x.1.2.2.1 x.1.2.2.2.1 x.1.2.2.2.2.1 x.2.1 x.2.2.1 x.2.2.2.1 := by kernel_rfl
theorem g62_L0_ok {E : Entry} (hE : EOf Tryz.prog E 43 g62_H.pins) (m : Nat) (n : Nat) : LoopOK Tryz.prog E g62_B0 (g62_L0_T m n) :=
  loop_ok (CO := CallOK Tryz.prog) hmix htt (fun _ _ _ _ h => h) hE (C := fun R => mkC R []) (L := [g62_L1_T m m]) (fun _ _ _ _ _ h => mkC_spec (AllF.mem (l := []) trivial) h) (fun _ _ => loopsIn_of g62_B0_ls ⟨mkLp_all ⟨fun _ => g62_L1_ok hE m m, trivial⟩, trivial⟩) (fun n => (g62_L0_R m n)) (fun _ => by kernel_rfl) (fun n x => (g62_L0_kr m n x).trans (by kernel_rfl)) n
theorem g62_kr (m : Nat) (x : ShLVal g62_A) : fnK (mkC (g62_S.Val × ShLVal g62_U) []) (mkLp (g62_S.Val × ShLVal g62_U) [g62_L0_T m m]) tt g62_H Tryz.f62 (encS g62_A x) (Kd g62_S g62_U) = g62 m x.1.1 x.1.2.1 x.1.2.2.1 x.1.2.2.2.1 x.1.2.2.2.2.1 := by kernel_rfl
theorem g62_ok (m : Nat) : FunOK Tryz.prog (g62_T m) :=
  fun_ok hmix htt (g62_T m) Tryz.func62 (c := g62_C) (by kernel_rfl) (by kernel_rfl) (Lc := []) (AllF.mem (l := []) trivial) (L := [g62_L0_T m m]) (fun _ hE _ _ => loopsIn_of g62_C_ls ⟨mkLp_all ⟨fun _ => g62_L0_ok hE m m, trivial⟩, trivial⟩) (fun x => (g62_kr m x).trans (by kernel_rfl))
/-! 38 sparse/matrix.Entries -/
def g38_H : Hints := { regs := [⟨[], [1]⟩, ⟨[], [1, 5]⟩, ⟨[], [2]⟩, ⟨[], [2]⟩], heads := [], exits := [], rets := [2], pins := [], spec := [[true]] }
abbrev g38_A : List Sh := [.a (.agg [(.int .i64), (.int .i64), (.imm (.int .i64)), (.imm (.int .i64)), (.imm (.int .u64))])]
abbrev g38_S : Sh := .a (.c (.nm 0 (.pr (.int .i64) (.pr (.int .i64) (.int .u64)))))
abbrev g38_U : List Sh := [.a (.c .dead)]
def g38_R (m : Nat) : ShLVal g38_A → Option (g38_S.Val × ShLVal g38_U) := fun (x : (Int × Int × List Int × List Int × List Int × Unit) × Unit) => g38 m x.1.1 x.1.2.1 x.1.2.2.1 x.1.2.2.2.1 x.1.2.2.2.2.1
def g38_T (m : Nat) : FunT := ⟨38, g38_A, g38_S, g38_U, g38_R m⟩
noncomputable def g38_C : Code := codeOf Tryz.f38
theorem g38_C_ls : loopsL g38_C 0 = [] := by kernel_rfl
theorem g38_kr (m : Nat) (x : ShLVal g38_A) : fnK (mkC (g38_S.Val × ShLVal g38_U) [g29_T m, g62_T m]) (mkLp (g38_S.Val × ShLVal g38_U) []) tt g38_H Tryz.f38 (encS g38_A x) (Kd g38_S g38_U) = g38 m x.1.1 x.1.2.1 x.1.2.2.1 x.1.2.2.2.1 x.1.2.2.2.2.1 := by kernel_rfl
theorem g38_ok (m : Nat) : FunOK Tryz.prog (g38_T m) :=
  fun_ok hmix htt (g38_T m) Tryz.func38 (c := g38_C) (by kernel_rfl) (by kernel_rfl) (Lc := [g29_T m, g62_T m]) (AllF.mem (l := [g29_T m, g62_T m]) ⟨g29_ok m, g62_ok m, trivial⟩) (L := []) (fun _ hE _ _ => loopsIn_of g38_C_ls trivial) (fun x => (g38_kr m x).trans (by kernel_rfl))
/-! 101 sparse/integer.trim -/
def g101_H : Hints := { regs := [⟨[], [0]⟩, ⟨[], [0, 3]⟩, ⟨[(2, 1)], [0, 3, 15]⟩, ⟨[(0, 1)], [0, 3]⟩, ⟨[(0, 1), (1, 1)], [2]⟩], heads := [(0, [0, 3])], exits := [(0, [0, 3]), (1, [0, 3])], rets := [2], pins := [], spec := [[false]] }
abbrev g101_A : List Sh := [.a (.c (.imm (.int .u32)))]
abbrev g101_S : Sh := .a (.c (.imm (.int .u32)))
abbrev g101_U : List Sh := [.a (.c .dead)]
def g101_R (m : Nat) : ShLVal g101_A → Option (g101_S.Val × ShLVal g101_U) := fun (x : List Int × Unit) => g101 m x.1
def g101_T (m : Nat) : FunT := ⟨101, g101_A, g101_S, g101_U, g101_R m⟩
noncomputable def g101_C : Code := codeOf Tryz.f101
noncomputable def g101_B0 : Code := loopAt g101_C 0 0
theorem g101_B0_ls : loopsL g101_B0 0 = [] := by kernel_rfl
theorem g101_C_ls : loopsL g101_C 0 = [(0, g101_B0)] := by kernel_rfl
abbrev g101_L0_I : SS := [(0, .a (.c (.imm (.int .u32)))), (3, .a (.c (.int .i64)))]
abbrev g101_L0_O : List (Ex × SS) := [(.exit 0, [(0, .a (.c (.imm (.int .u32)))), (3, .a (.c (.int .i64)))])]
def g101_L0_R (m n : Nat) : g101_L0_I.Val → Option (outVal g101_L0_O) := (fun (x : List Int × Int × Unit) => g101_L0 m n x.1 x.2.1)
def g101_L0_T (m n : Nat) : LoopT := ⟨0, g101_L0_I, g101_L0_O, g101_L0_R m n⟩
theorem g101_L0_kr (m n : Nat) (x : g101_L0_I.Val) : roundK (mkC (outVal g101_L0_O) []) (mkLp (outVal g101_L0_O) []) tt 21 g101_H g101_B0 0 (g101_L0_I.enc x) (Kl (ins := g101_L0_I) (outs := g101_L0_O) (g101_L0_R m n)) = g101_L0 m (n + 1) x.1 x.2.1 := by kernel_rfl
theorem g101_L0_ok {E : Entry} (hE : EOf Tryz.prog E 21 g101_H.pins) (m : Nat) (n : Nat) : LoopOK Tryz.prog E g101_B0 (g101_L0_T m n) :=
  loop_ok (CO := CallOK Tryz.prog) hmix htt (fun _ _ _ _ h => h) hE (C := fun R => mkC R []) (L := []) (fun _ _ _ _ _ h => mkC_spec (AllF.mem (l := []) trivial) h) (fun _ _ => loopsIn_of g101_B0_ls trivial) (fun n => (g101_L0_R m n)) (fun _ => by kernel_rfl) (fun n x => (g101_L0_kr m n x).trans (by kernel_rfl)) n
theorem g101_kr (m : Nat) (x : ShLVal g101_A) : fnK (mkC (g101_S.Val × ShLVal g101_U) []) (mkLp (g101_S.Val × ShLVal g101_U) [g101_L0_T m m]) tt g101_H Tryz.f101 (encS g101_A x) (Kd g101_S g101_U) = g101 m x.1 := by kernel_rfl
theorem g101_ok (m : Nat) : FunOK Tryz.prog (g101_T m) :=
  fun_ok hmix htt (g101_T m) Tryz.func101 (c := g101_C) (by kernel_rfl) (by kernel_rfl) (Lc := []) (AllF.mem (l := []) trivial) (L := [g101_L0_T m m]) (fun _ hE _ _ => loopsIn_of g101_C_ls ⟨mkLp_all ⟨fun _ => g101_L0_ok hE m m, trivial⟩, trivial⟩) (fun x => (g101_kr m x).trans (by kernel_rfl))
/-! 103 sparse/integer.big -/
def g103_H : Hints := { regs := [⟨[], [0, 1, 4]⟩, ⟨[(0, 1)], [0, 1, 4]⟩, ⟨[], [0, 1, 4, 9]⟩, ⟨[], [4]⟩, ⟨[(0, 1), (1, 1)], [4]⟩], heads := [], exits := [], rets := [4], pins := [], spec := [[false, false]] }
abbrev g103_A : List Sh := [.a (.c .bool), .a (.c (.imm (.int .u32)))]
abbrev g103_S : Sh := .a (.agg [.bool, (.imm (.int .u32))])
abbrev g103_U : List Sh := [.a (.c .dead), .a (.c .dead)]
def g103_R (m : Nat) : ShLVal g103_A → Option (g103_S.Val × ShLVal g103_U) := fun (x : Bool × List Int × Unit) => g103 m x.1 x.2.1
def g103_T (m : Nat) : FunT := ⟨103, g103_A, g103_S, g103_U, g103_R m⟩
noncomputable def g103_C : Code := codeOf Tryz.f103
theorem g103_C_ls : loopsL g103_C 0 = [] := by kernel_rfl
theorem g103_kr (m : Nat) (x : ShLVal g103_A) : fnK (mkC (g103_S.Val × ShLVal g103_U) [g101_T m]) (mkLp (g103_S.Val × ShLVal g103_U) []) tt g103_H Tryz.f103 (encS g103_A x) (Kd g103_S g103_U) = g103 m x.1 x.2.1 := by kernel_rfl
theorem g103_ok (m : Nat) : FunOK Tryz.prog (g103_T m) :=
  fun_ok hmix htt (g103_T m) Tryz.func103 (c := g103_C) (by kernel_rfl) (by kernel_rfl) (Lc := [g101_T m]) (AllF.mem (l := [g101_T m]) ⟨g101_ok m, trivial⟩) (L := []) (fun _ hE _ _ => loopsIn_of g103_C_ls trivial) (fun x => (g103_kr m x).trans (by kernel_rfl))
/-! 83 sparse/integer.FromInt -/
def g83_H : Hints := { regs := [⟨[], [0, 2]⟩, ⟨[], [0, 2, 3]⟩, ⟨[], [0, 2, 3, 7]⟩, ⟨[(0, 1)], [0, 2, 3]⟩, ⟨[(0, 1)], [2]⟩], heads := [], exits := [], rets := [2], pins := [], spec := [[false, false]] }
abbrev g83_A : List Sh := [.a (.c (.int .i64))]
abbrev g83_S : Sh := .a (.agg [.bool, (.imm (.int .u32))])
abbrev g83_U : List Sh := [.a (.c .dead)]
def g83_R (m : Nat) : ShLVal g83_A → Option (g83_S.Val × ShLVal g83_U) := fun (x : Int × Unit) => g83 m x.1
def g83_T (m : Nat) : FunT := ⟨83, g83_A, g83_S, g83_U, g83_R m⟩
noncomputable def g83_C : Code := codeOf Tryz.f83
theorem g83_C_ls : loopsL g83_C 0 = [] := by kernel_rfl
theorem g83_kr (m : Nat) (x : ShLVal g83_A) : fnK (mkC (g83_S.Val × ShLVal g83_U) [g103_T m]) (mkLp (g83_S.Val × ShLVal g83_U) []) tt g83_H Tryz.f83 (encS g83_A x) (Kd g83_S g83_U) = g83 m x.1 := by kernel_rfl
theorem g83_ok (m : Nat) : FunOK Tryz.prog (g83_T m) :=
  fun_ok hmix htt (g83_T m) Tryz.func83 (c := g83_C) (by kernel_rfl) (by kernel_rfl) (Lc := [g103_T m]) (AllF.mem (l := [g103_T m]) ⟨g103_ok m, trivial⟩) (L := []) (fun _ hE _ _ => loopsIn_of g83_C_ls trivial) (fun x => (g83_kr m x).trans (by kernel_rfl))
/-! 84 sparse/float.negative -/
def g84_H : Hints := { regs := [⟨[], [0]⟩, ⟨[(0, 1)], [2]⟩], heads := [], exits := [], rets := [2], pins := [], spec := [[false]] }
abbrev g84_A : List Sh := [.a (.c (.int .u64))]
abbrev g84_S : Sh := .a (.c .bool)
abbrev g84_U : List Sh := [.a (.c .dead)]
def g84_R (m : Nat) : ShLVal g84_A → Option (g84_S.Val × ShLVal g84_U) := fun (x : Int × Unit) => g84 m x.1
def g84_T (m : Nat) : FunT := ⟨84, g84_A, g84_S, g84_U, g84_R m⟩
noncomputable def g84_C : Code := codeOf Tryz.f84
theorem g84_C_ls : loopsL g84_C 0 = [] := by kernel_rfl
theorem g84_kr (m : Nat) (x : ShLVal g84_A) : fnK (mkC (g84_S.Val × ShLVal g84_U) []) (mkLp (g84_S.Val × ShLVal g84_U) []) tt g84_H Tryz.f84 (encS g84_A x) (Kd g84_S g84_U) = g84 m x.1 := by kernel_rfl
theorem g84_ok (m : Nat) : FunOK Tryz.prog (g84_T m) :=
  fun_ok hmix htt (g84_T m) Tryz.func84 (c := g84_C) (by kernel_rfl) (by kernel_rfl) (Lc := []) (AllF.mem (l := []) trivial) (L := []) (fun _ hE _ _ => loopsIn_of g84_C_ls trivial) (fun x => (g84_kr m x).trans (by kernel_rfl))
/-! 104 slices.Clone___uint32_uint32_ -/
def g104_H : Hints := { regs := [⟨[], [0]⟩, ⟨[], [0]⟩, ⟨[], [2]⟩, ⟨[], [2]⟩], heads := [], exits := [], rets := [2], pins := [], spec := [[true]] }
abbrev g104_A : List Sh := [.a (.c (.imm (.int .u32)))]
abbrev g104_S : Sh := .a (.c (.nm 0 (.int .u32)))
abbrev g104_U : List Sh := [.a (.c .dead)]
def g104_R (m : Nat) : ShLVal g104_A → Option (g104_S.Val × ShLVal g104_U) := fun (x : List Int × Unit) => g104 m x.1
def g104_T (m : Nat) : FunT := ⟨104, g104_A, g104_S, g104_U, g104_R m⟩
noncomputable def g104_C : Code := codeOf Tryz.f104
theorem g104_ok (m : Nat) : FunOK Tryz.prog (g104_T m) :=
  clone_ok hmix htt (H := g104_H) (fn := Tryz.f104) (f := 104) (t := (.int .u32)) (ty := 77) (e := 107) (ty2 := 77) (k := 1) (cells := [.nil (.int .u32)]) (A := pA g104_C) (X := pX (pB (pA (pB g104_C)))) (Y := pB (pB g104_C)) (o0 := pO 0 (pA (pA (pB g104_C)))) (o1 := pO 1 (pA (pA (pB g104_C)))) Tryz.func104 (by kernel_rfl) (by kernel_rfl) (by kernel_rfl) (by kernel_rfl) (by kernel_rfl) (by kernel_rfl) (by kernel_rfl) (by kernel_rfl) (by kernel_rfl) (of_decide_eq_true (by kernel_rfl)) rfl (by kernel_rfl) (by kernel_rfl) (by kernel_rfl) (fun xs => [(0, .sl .imm (.int .u32) xs)]) (fun xs => [(2, .sl (.nm 0) (.int .u32) xs)]) (fun xs => by kernel_rfl) (fun _ => rfl) (fun _ => rfl) (fun _ => rfl) (by kernel_rfl) (fun xs => by kernel_rfl) (fun xs => by kernel_rfl)
/-! 85 sparse/integer.Neg -/
def g85_H : Hints := { regs := [⟨[], [1, 2]⟩, ⟨[], [2]⟩], heads := [], exits := [], rets := [2], pins := [], spec := [[false, false]] }
abbrev g85_A : List Sh := [.a (.agg [.bool, (.imm (.int .u32))])]
abbrev g85_S : Sh := .a (.agg [.bool, (.imm (.int .u32))])
abbrev g85_U : List Sh := [.a (.c .dead)]
def g85_R (m : Nat) : ShLVal g85_A → Option (g85_S.Val × ShLVal g85_U) := fun (x : (Bool × List Int × Unit) × Unit) => g85 m x.1.1 x.1.2.1
def g85_T (m : Nat) : FunT := ⟨85, g85_A, g85_S, g85_U, g85_R m⟩
noncomputable def g85_C : Code := codeOf Tryz.f85
theorem g85_C_ls : loopsL g85_C 0 = [] := by kernel_rfl
theorem g85_kr (m : Nat) (x : ShLVal g85_A) : fnK (mkC (g85_S.Val × ShLVal g85_U) [g104_T m, g103_T m]) (mkLp (g85_S.Val × ShLVal g85_U) []) tt g85_H Tryz.f85 (encS g85_A x) (Kd g85_S g85_U) = g85 m x.1.1 x.1.2.1 := by kernel_rfl
theorem g85_ok (m : Nat) : FunOK Tryz.prog (g85_T m) :=
  fun_ok hmix htt (g85_T m) Tryz.func85 (c := g85_C) (by kernel_rfl) (by kernel_rfl) (Lc := [g104_T m, g103_T m]) (AllF.mem (l := [g104_T m, g103_T m]) ⟨g104_ok m, g103_ok m, trivial⟩) (L := []) (fun _ hE _ _ => loopsIn_of g85_C_ls trivial) (fun x => (g85_kr m x).trans (by kernel_rfl))
/-! 97 sparse/dyad.bad -/
def g97_H : Hints := { regs := [⟨[], [0]⟩, ⟨[], [0]⟩], heads := [], exits := [], rets := [0], pins := [], spec := [[false, false, true, false]] }
abbrev g97_A : List Sh := []
abbrev g97_S : Sh := .a (.agg [.bool, .bool, (.nm 0 (.int .u32)), (.int .i64)])
abbrev g97_U : List Sh := []
def g97_R (m : Nat) : ShLVal g97_A → Option (g97_S.Val × ShLVal g97_U) := fun (x : Unit) => g97 m
def g97_T (m : Nat) : FunT := ⟨97, g97_A, g97_S, g97_U, g97_R m⟩
noncomputable def g97_C : Code := codeOf Tryz.f97
theorem g97_C_ls : loopsL g97_C 0 = [] := by kernel_rfl
theorem g97_kr (m : Nat) (x : ShLVal g97_A) : fnK (mkC (g97_S.Val × ShLVal g97_U) []) (mkLp (g97_S.Val × ShLVal g97_U) []) tt g97_H Tryz.f97 (encS g97_A x) (Kd g97_S g97_U) = g97 m := by kernel_rfl
theorem g97_ok (m : Nat) : FunOK Tryz.prog (g97_T m) :=
  fun_ok hmix htt (g97_T m) Tryz.func97 (c := g97_C) (by kernel_rfl) (by kernel_rfl) (Lc := []) (AllF.mem (l := []) trivial) (L := []) (fun _ hE _ _ => loopsIn_of g97_C_ls trivial) (fun x => (g97_kr m x).trans (by kernel_rfl))
/-! 98 sparse/integer.Norm -/
def g98_H : Hints := { regs := [⟨[], [1, 2]⟩, ⟨[], [2]⟩], heads := [], exits := [], rets := [2], pins := [], spec := [[false, false]] }
abbrev g98_A : List Sh := [.a (.agg [.bool, (.imm (.int .u32))])]
abbrev g98_S : Sh := .a (.agg [.bool, (.imm (.int .u32))])
abbrev g98_U : List Sh := [.a (.c .dead)]
def g98_R (m : Nat) : ShLVal g98_A → Option (g98_S.Val × ShLVal g98_U) := fun (x : (Bool × List Int × Unit) × Unit) => g98 m x.1.1 x.1.2.1
def g98_T (m : Nat) : FunT := ⟨98, g98_A, g98_S, g98_U, g98_R m⟩
noncomputable def g98_C : Code := codeOf Tryz.f98
theorem g98_C_ls : loopsL g98_C 0 = [] := by kernel_rfl
theorem g98_kr (m : Nat) (x : ShLVal g98_A) : fnK (mkC (g98_S.Val × ShLVal g98_U) [g104_T m, g103_T m]) (mkLp (g98_S.Val × ShLVal g98_U) []) tt g98_H Tryz.f98 (encS g98_A x) (Kd g98_S g98_U) = g98 m x.1.1 x.1.2.1 := by kernel_rfl
theorem g98_ok (m : Nat) : FunOK Tryz.prog (g98_T m) :=
  fun_ok hmix htt (g98_T m) Tryz.func98 (c := g98_C) (by kernel_rfl) (by kernel_rfl) (Lc := [g104_T m, g103_T m]) (AllF.mem (l := [g104_T m, g103_T m]) ⟨g104_ok m, g103_ok m, trivial⟩) (L := []) (fun _ hE _ _ => loopsIn_of g98_C_ls trivial) (fun x => (g98_kr m x).trans (by kernel_rfl))
/-! 81 sparse/integer.Sign -/
def g81_H : Hints := { regs := [⟨[], [1]⟩, ⟨[], [1, 3]⟩, ⟨[], [2]⟩, ⟨[], [9]⟩, ⟨[], [2]⟩, ⟨[], [2]⟩], heads := [], exits := [(0, [])], rets := [2], pins := [], spec := [[false]] }
abbrev g81_A : List Sh := [.a (.agg [.bool, (.imm (.int .u32))])]
abbrev g81_S : Sh := .a (.c (.int .i64))
abbrev g81_U : List Sh := [.a (.c .dead)]
def g81_R (m : Nat) : ShLVal g81_A → Option (g81_S.Val × ShLVal g81_U) := fun (x : (Bool × List Int × Unit) × Unit) => g81 m x.1.1 x.1.2.1
def g81_T (m : Nat) : FunT := ⟨81, g81_A, g81_S, g81_U, g81_R m⟩
noncomputable def g81_C : Code := codeOf Tryz.f81
theorem g81_C_ls : loopsL g81_C 0 = [] := by kernel_rfl
theorem g81_kr (m : Nat) (x : ShLVal g81_A) : fnK (mkC (g81_S.Val × ShLVal g81_U) [g101_T m]) (mkLp (g81_S.Val × ShLVal g81_U) []) tt g81_H Tryz.f81 (encS g81_A x) (Kd g81_S g81_U) = g81 m x.1.1 x.1.2.1 := by kernel_rfl
theorem g81_ok (m : Nat) : FunOK Tryz.prog (g81_T m) :=
  fun_ok hmix htt (g81_T m) Tryz.func81 (c := g81_C) (by kernel_rfl) (by kernel_rfl) (Lc := [g101_T m]) (AllF.mem (l := [g101_T m]) ⟨g101_ok m, trivial⟩) (L := []) (fun _ hE _ _ => loopsIn_of g81_C_ls trivial) (fun x => (g81_kr m x).trans (by kernel_rfl))
/-! 96 math/bits.TrailingZeros32 -/
def g96_H : Hints := { regs := [⟨[], [0]⟩, ⟨[], [0, 4]⟩, ⟨[], [2]⟩, ⟨[], [2]⟩], heads := [], exits := [], rets := [2], pins := [], spec := [[false]] }
abbrev g96_A : List Sh := [.a (.c (.int .u32))]
abbrev g96_S : Sh := .a (.c (.int .i64))
abbrev g96_U : List Sh := [.a (.c .dead)]
def g96_R (m : Nat) : ShLVal g96_A → Option (g96_S.Val × ShLVal g96_U) := fun (x : Int × Unit) => g96 m x.1
def g96_T (m : Nat) : FunT := ⟨96, g96_A, g96_S, g96_U, g96_R m⟩
noncomputable def g96_C : Code := codeOf Tryz.f96
theorem g96_C_ls : loopsL g96_C 0 = [] := by kernel_rfl
theorem g96_kr (m : Nat) (x : ShLVal g96_A) : fnK (mkC (g96_S.Val × ShLVal g96_U) []) (mkLp (g96_S.Val × ShLVal g96_U) []) tt g96_H Tryz.f96 (encS g96_A x) (Kd g96_S g96_U) = g96 m x.1 := by kernel_rfl
theorem g96_ok (m : Nat) : FunOK Tryz.prog (g96_T m) :=
  fun_ok hmix htt (g96_T m) Tryz.func96 (c := g96_C) (by kernel_rfl) (by kernel_rfl) (Lc := []) (AllF.mem (l := []) trivial) (L := []) (fun _ hE _ _ => loopsIn_of g96_C_ls trivial) (fun x => (g96_kr m x).trans (by kernel_rfl))
/-! 99 sparse/integer.TrailingZeros -/
def g99_H : Hints := { regs := [⟨[], [1]⟩, ⟨[], [6, 7, 8]⟩, ⟨[], [6, 7, 8, 9]⟩, ⟨[], [3, 4, 6, 7, 8]⟩, ⟨[], [3, 4, 6, 7, 8, 14]⟩, ⟨[(0, 1), (2, 1)], [2]⟩, ⟨[(1, 1)], [6, 7, 8]⟩, ⟨[], [2]⟩], heads := [(0, [6, 7, 8])], exits := [(0, []), (1, [6, 7, 8])], rets := [2], pins := [], spec := [[false]] }
abbrev g99_A : List Sh := [.a (.agg [.bool, (.imm (.int .u32))])]
abbrev g99_S : Sh := .a (.c (.int .i64))
abbrev g99_U : List Sh := [.a (.c .dead)]
def g99_R (m : Nat) : ShLVal g99_A → Option (g99_S.Val × ShLVal g99_U) := fun (x : (Bool × List Int × Unit) × Unit) => g99 m x.1.1 x.1.2.1
def g99_T (m : Nat) : FunT := ⟨99, g99_A, g99_S, g99_U, g99_R m⟩
noncomputable def g99_C : Code := codeOf Tryz.f99
noncomputable def g99_B0 : Code := loopAt g99_C 0 0
theorem g99_B0_ls : loopsL g99_B0 0 = [] := by kernel_rfl
theorem g99_C_ls : loopsL g99_C 0 = [(0, g99_B0)] := by kernel_rfl
abbrev g99_L0_I : SS := [(6, .a (.c (.imm (.int .u32)))), (7, .a (.c (.int .i64))), (8, .a (.c (.int .i64)))]
abbrev g99_L0_O : List (Ex × SS) := [(.ret, [(2, .a (.c (.int .i64)))]), (.exit 0, [])]
def g99_L0_R (m n : Nat) : g99_L0_I.Val → Option (outVal g99_L0_O) := (fun (x : List Int × Int × Int × Unit) => g99_L0 m n x.1 x.2.1 x.2.2.1)
def g99_L0_T (m n : Nat) : LoopT := ⟨0, g99_L0_I, g99_L0_O, g99_L0_R m n⟩
theorem g99_L0_kr (m n : Nat) (x : g99_L0_I.Val) : roundK (mkC (outVal g99_L0_O) [g96_T m]) (mkLp (outVal g99_L0_O) []) tt 21 g99_H g99_B0 0 (g99_L0_I.enc x) (Kl (ins := g99_L0_I) (outs := g99_L0_O) (g99_L0_R m n)) = g99_L0 m (n + 1) x.1 x.2.1 x.2.2.1 := by kernel_rfl
theorem g99_L0_ok {E : Entry} (hE : EOf Tryz.prog E 21 g99_H.pins) (m : Nat) (n : Nat) : LoopOK Tryz.prog E g99_B0 (g99_L0_T m n) :=
  loop_ok (CO := CallOK Tryz.prog) hmix htt (fun _ _ _ _ h => h) hE (C := fun R => mkC R [g96_T m]) (L := []) (fun _ _ _ _ _ h => mkC_spec (AllF.mem (l := [g96_T m]) ⟨g96_ok m, trivial⟩) h) (fun _ _ => loopsIn_of g99_B0_ls trivial) (fun n => (g99_L0_R m n)) (fun _ => by kernel_rfl) (fun n x => (g99_L0_kr m n x).trans (by kernel_rfl)) n
theorem g99_kr (m : Nat) (x : ShLVal g99_A) : fnK (mkC (g99_S.Val × ShLVal g99_U) [g96_T m]) (mkLp (g99_S.Val × ShLVal g99_U) [g99_L0_T m m]) tt g99_H Tryz.f99 (encS g99_A x) (Kd g99_S g99_U) = g99 m x.1.1 x.1.2.1 := by kernel_rfl
theorem g99_ok (m : Nat) : FunOK Tryz.prog (g99_T m) :=
  fun_ok hmix htt (g99_T m) Tryz.func99 (c := g99_C) (by kernel_rfl) (by kernel_rfl) (Lc := [g96_T m]) (AllF.mem (l := [g96_T m]) ⟨g96_ok m, trivial⟩) (L := [g99_L0_T m m]) (fun _ hE _ _ => loopsIn_of g99_C_ls ⟨mkLp_all ⟨fun _ => g99_L0_ok hE m m, trivial⟩, trivial⟩) (fun x => (g99_kr m x).trans (by kernel_rfl))
/-! 88 math/bits.Len32 -/
def g88_H : Hints := { regs := [⟨[], [0, 2]⟩, ⟨[], [0, 2, 4]⟩, ⟨[(0, 1)], [0]⟩, ⟨[], [0, 2]⟩, ⟨[], [0, 2, 8]⟩, ⟨[(0, 1)], [0, 2]⟩, ⟨[(0, 1)], [0, 2]⟩, ⟨[(0, 1), (1, 1)], [2]⟩], heads := [], exits := [], rets := [2], pins := [], spec := [[false]] }
abbrev g88_A : List Sh := [.a (.c (.int .u32))]
abbrev g88_S : Sh := .a (.c (.int .i64))
abbrev g88_U : List Sh := [.a (.c .dead)]
def g88_R (m : Nat) : ShLVal g88_A → Option (g88_S.Val × ShLVal g88_U) := fun (x : Int × Unit) => g88 m x.1
def g88_T (m : Nat) : FunT := ⟨88, g88_A, g88_S, g88_U, g88_R m⟩
noncomputable def g88_C : Code := codeOf Tryz.f88
theorem g88_C_ls : loopsL g88_C 0 = [] := by kernel_rfl
theorem g88_kr (m : Nat) (x : ShLVal g88_A) : fnK (mkC (g88_S.Val × ShLVal g88_U) []) (mkLp (g88_S.Val × ShLVal g88_U) []) tt g88_H Tryz.f88 (encS g88_A x) (Kd g88_S g88_U) = g88 m x.1 := by kernel_rfl
theorem g88_ok (m : Nat) : FunOK Tryz.prog (g88_T m) :=
  fun_ok hmix htt (g88_T m) Tryz.func88 (c := g88_C) (by kernel_rfl) (by kernel_rfl) (Lc := []) (AllF.mem (l := []) trivial) (L := []) (fun _ hE _ _ => loopsIn_of g88_C_ls trivial) (fun x => (g88_kr m x).trans (by kernel_rfl))
/-! 102 sparse/integer.length -/
def g102_H : Hints := { regs := [⟨[], [0]⟩, ⟨[], [0, 5]⟩, ⟨[], [2]⟩, ⟨[], [2]⟩], heads := [], exits := [], rets := [2], pins := [], spec := [[false]] }
abbrev g102_A : List Sh := [.a (.c (.imm (.int .u32)))]
abbrev g102_S : Sh := .a (.c (.int .i64))
abbrev g102_U : List Sh := [.a (.c .dead)]
def g102_R (m : Nat) : ShLVal g102_A → Option (g102_S.Val × ShLVal g102_U) := fun (x : List Int × Unit) => g102 m x.1
def g102_T (m : Nat) : FunT := ⟨102, g102_A, g102_S, g102_U, g102_R m⟩
noncomputable def g102_C : Code := codeOf Tryz.f102
theorem g102_C_ls : loopsL g102_C 0 = [] := by kernel_rfl
theorem g102_kr (m : Nat) (x : ShLVal g102_A) : fnK (mkC (g102_S.Val × ShLVal g102_U) [g88_T m]) (mkLp (g102_S.Val × ShLVal g102_U) []) tt g102_H Tryz.f102 (encS g102_A x) (Kd g102_S g102_U) = g102 m x.1 := by kernel_rfl
theorem g102_ok (m : Nat) : FunOK Tryz.prog (g102_T m) :=
  fun_ok hmix htt (g102_T m) Tryz.func102 (c := g102_C) (by kernel_rfl) (by kernel_rfl) (Lc := [g88_T m]) (AllF.mem (l := [g88_T m]) ⟨g88_ok m, trivial⟩) (L := []) (fun _ hE _ _ => loopsIn_of g102_C_ls trivial) (fun x => (g102_kr m x).trans (by kernel_rfl))
/-! 82 sparse/integer.BitLen -/
def g82_H : Hints := { regs := [⟨[], [1]⟩, ⟨[], [2]⟩], heads := [], exits := [], rets := [2], pins := [], spec := [[false]] }
abbrev g82_A : List Sh := [.a (.agg [.bool, (.imm (.int .u32))])]
abbrev g82_S : Sh := .a (.c (.int .i64))
abbrev g82_U : List Sh := [.a (.c .dead)]
def g82_R (m : Nat) : ShLVal g82_A → Option (g82_S.Val × ShLVal g82_U) := fun (x : (Bool × List Int × Unit) × Unit) => g82 m x.1.1 x.1.2.1
def g82_T (m : Nat) : FunT := ⟨82, g82_A, g82_S, g82_U, g82_R m⟩
noncomputable def g82_C : Code := codeOf Tryz.f82
theorem g82_C_ls : loopsL g82_C 0 = [] := by kernel_rfl
theorem g82_kr (m : Nat) (x : ShLVal g82_A) : fnK (mkC (g82_S.Val × ShLVal g82_U) [g101_T m, g102_T m]) (mkLp (g82_S.Val × ShLVal g82_U) []) tt g82_H Tryz.f82 (encS g82_A x) (Kd g82_S g82_U) = g82 m x.1.1 x.1.2.1 := by kernel_rfl
theorem g82_ok (m : Nat) : FunOK Tryz.prog (g82_T m) :=
  fun_ok hmix htt (g82_T m) Tryz.func82 (c := g82_C) (by kernel_rfl) (by kernel_rfl) (Lc := [g101_T m, g102_T m]) (AllF.mem (l := [g101_T m, g102_T m]) ⟨g101_ok m, g102_ok m, trivial⟩) (L := []) (fun _ hE _ _ => loopsIn_of g82_C_ls trivial) (fun x => (g82_kr m x).trans (by kernel_rfl))
/-! 111 sparse/integer.up -/
def g111_H : Hints := { regs := [⟨[], [0, 1]⟩, ⟨[], [0, 1, 13]⟩, ⟨[], [4]⟩, ⟨[], [0, 5, 6]⟩, ⟨[], [0, 5, 6, 7]⟩, ⟨[(0, 1)], [5, 6, 7, 25, 26, 27]⟩, ⟨[], [5, 6, 7, 25, 26, 27, 28]⟩, ⟨[], [5, 6, 7, 8, 9, 25, 26, 27]⟩, ⟨[(0, 1)], [5, 6, 7, 8, 10, 25, 26, 27]⟩, ⟨[], [5, 6, 7, 8, 10, 25, 26, 27]⟩, ⟨[(2, 1), (5, 1)], [5, 6, 7, 25, 26, 27]⟩, ⟨[(1, 1)], [5, 6, 7, 25, 26, 27]⟩, ⟨[(0, 1)], [4]⟩], heads := [(0, [5, 6, 7, 25, 26, 27])], exits := [(0, [7]), (1, [5, 6, 7, 25, 26, 27])], rets := [4], pins := [], spec := [[false]] }
abbrev g111_A : List Sh := [.a (.c (.imm (.int .u32))), .a (.c (.int .i64))]
abbrev g111_S : Sh := .a (.c (.imm (.int .u32)))
abbrev g111_U : List Sh := [.a (.c .dead), .a (.c .dead)]
def g111_R (m : Nat) : ShLVal g111_A → Option (g111_S.Val × ShLVal g111_U) := fun (x : List Int × Int × Unit) => g111 m x.1 x.2.1
def g111_T (m : Nat) : FunT := ⟨111, g111_A, g111_S, g111_U, g111_R m⟩
noncomputable def g111_C : Code := codeOf Tryz.f111
noncomputable def g111_B0 : Code := loopAt g111_C 0 0
theorem g111_B0_ls : loopsL g111_B0 0 = [] := by kernel_rfl
theorem g111_C_ls : loopsL g111_C 0 = [(0, g111_B0)] := by kernel_rfl
abbrev g111_L0_I : SS := [(5, .a (.c (.int .i64))), (6, .a (.c (.int .u64))), (7, .a (.c (.nm 0 (.int .u32)))), (25, .a (.c (.imm (.int .u32)))), (26, .a (.c (.int .i64))), (27, .a (.c (.int .i64)))]
abbrev g111_L0_O : List (Ex × SS) := [(.exit 0, [(7, .a (.c (.nm 0 (.int .u32))))])]
def g111_L0_R (m n : Nat) : g111_L0_I.Val → Option (outVal g111_L0_O) := (fun (x : Int × Int × List Int × List Int × Int × Int × Unit) => g111_L0 m n x.1 x.2.1 x.2.2.1 x.2.2.2.1 x.2.2.2.2.1 x.2.2.2.2.2.1)
def g111_L0_T (m n : Nat) : LoopT := ⟨0, g111_L0_I, g111_L0_O, g111_L0_R m n⟩
theorem g111_L0_kr (m n : Nat) (x : g111_L0_I.Val) : roundK (mkC (outVal g111_L0_O) [g101_T m]) (mkLp (outVal g111_L0_O) []) tt 59 g111_H g111_B0 0 (g111_L0_I.enc x) (Kl (ins := g111_L0_I) (outs := g111_L0_O) (g111_L0_R m n)) = g111_L0 m (n + 1) x.1 x.2.1 x.2.2.1 x.2.2.2.1 x.2.2.2.2.1 x.2.2.2.2.2.1 := by kernel_rfl
theorem g111_L0_ok {E : Entry} (hE : EOf Tryz.prog E 59 g111_H.pins) (m : Nat) (n : Nat) : LoopOK Tryz.prog E g111_B0 (g111_L0_T m n) :=
  loop_ok (CO := CallOK Tryz.prog) hmix htt (fun _ _ _ _ h => h) hE (C := fun R => mkC R [g101_T m]) (L := []) (fun _ _ _ _ _ h => mkC_spec (AllF.mem (l := [g101_T m]) ⟨g101_ok m, trivial⟩) h) (fun _ _ => loopsIn_of g111_B0_ls trivial) (fun n => (g111_L0_R m n)) (fun _ => by kernel_rfl) (fun n x => (g111_L0_kr m n x).trans (by kernel_rfl)) n
theorem g111_kr (m : Nat) (x : ShLVal g111_A) : fnK (mkC (g111_S.Val × ShLVal g111_U) [g101_T m]) (mkLp (g111_S.Val × ShLVal g111_U) [g111_L0_T m m]) tt g111_H Tryz.f111 (encS g111_A x) (Kd g111_S g111_U) = g111 m x.1 x.2.1 := by kernel_rfl
theorem g111_ok (m : Nat) : FunOK Tryz.prog (g111_T m) :=
  fun_ok hmix htt (g111_T m) Tryz.func111 (c := g111_C) (by kernel_rfl) (by kernel_rfl) (Lc := [g101_T m]) (AllF.mem (l := [g101_T m]) ⟨g101_ok m, trivial⟩) (L := [g111_L0_T m m]) (fun _ hE _ _ => loopsIn_of g111_C_ls ⟨mkLp_all ⟨fun _ => g111_L0_ok hE m m, trivial⟩, trivial⟩) (fun x => (g111_kr m x).trans (by kernel_rfl))
/-! 115 sparse/integer.down_1 -/
def g115_H : Hints := { regs := [⟨[], [0]⟩, ⟨[(0, 1)], [2]⟩], heads := [], exits := [], rets := [2], pins := [], spec := [[false]] }
abbrev g115_A : List Sh := [.a (.c (.int .u32))]
abbrev g115_S : Sh := .a (.c .bool)
abbrev g115_U : List Sh := [.a (.c .dead)]
def g115_R (m : Nat) : ShLVal g115_A → Option (g115_S.Val × ShLVal g115_U) := fun (x : Int × Unit) => g115 m x.1
def g115_T (m : Nat) : FunT := ⟨115, g115_A, g115_S, g115_U, g115_R m⟩
noncomputable def g115_C : Code := codeOf Tryz.f115
theorem g115_C_ls : loopsL g115_C 0 = [] := by kernel_rfl
theorem g115_kr (m : Nat) (x : ShLVal g115_A) : fnK (mkC (g115_S.Val × ShLVal g115_U) []) (mkLp (g115_S.Val × ShLVal g115_U) []) tt g115_H Tryz.f115 (encS g115_A x) (Kd g115_S g115_U) = g115 m x.1 := by kernel_rfl
theorem g115_ok (m : Nat) : FunOK Tryz.prog (g115_T m) :=
  fun_ok hmix htt (g115_T m) Tryz.func115 (c := g115_C) (by kernel_rfl) (by kernel_rfl) (Lc := []) (AllF.mem (l := []) trivial) (L := []) (fun _ hE _ _ => loopsIn_of g115_C_ls trivial) (fun x => (g115_kr m x).trans (by kernel_rfl))
/-! 116 slices.IndexFunc___uint32_uint32_ -/
def g116_H : Hints := { regs := [⟨[], [0, 1]⟩, ⟨[], [0, 1, 7, 8]⟩, ⟨[], [0, 1, 7, 8, 9]⟩, ⟨[], [0, 1, 5, 7, 8]⟩, ⟨[], [0, 1, 5, 7, 8, 16]⟩, ⟨[(0, 1)], [4]⟩, ⟨[(1, 1)], [0, 1, 7, 8]⟩, ⟨[], [4]⟩], heads := [(0, [0, 1, 7, 8])], exits := [(0, []), (1, [0, 1, 7, 8])], rets := [4], pins := [], spec := [[false]] }
abbrev g116_A : List Sh := [.a (.c (.imm (.int .u32))), .a (.c (.fn 115))]
abbrev g116_S : Sh := .a (.c (.int .i64))
abbrev g116_U : List Sh := [.a (.c .dead), .a (.c .dead)]
def g116_R (m : Nat) : ShLVal g116_A → Option (g116_S.Val × ShLVal g116_U) := fun (x : List Int × Unit × Unit) => g116 m x.1
def g116_T (m : Nat) : FunT := ⟨116, g116_A, g116_S, g116_U, g116_R m⟩
noncomputable def g116_C : Code := codeOf Tryz.f116
noncomputable def g116_B0 : Code := loopAt g116_C 0 0
theorem g116_B0_ls : loopsL g116_B0 0 = [] := by kernel_rfl
theorem g116_C_ls : loopsL g116_C 0 = [(0, g116_B0)] := by kernel_rfl
abbrev g116_L0_I : SS := [(0, .a (.c (.imm (.int .u32)))), (1, .a (.c (.fn 115))), (7, .a (.c (.int .i64))), (8, .a (.c (.int .i64)))]
abbrev g116_L0_O : List (Ex × SS) := [(.ret, [(4, .a (.c (.int .i64)))]), (.exit 0, [])]
def g116_L0_R (m n : Nat) : g116_L0_I.Val → Option (outVal g116_L0_O) := (fun (x : List Int × Unit × Int × Int × Unit) => g116_L0 m n x.1 x.2.2.1 x.2.2.2.1)
def g116_L0_T (m n : Nat) : LoopT := ⟨0, g116_L0_I, g116_L0_O, g116_L0_R m n⟩
theorem g116_L0_kr (m n : Nat) (x : g116_L0_I.Val) : roundK (mkC (outVal g116_L0_O) [g115_T m]) (mkLp (outVal g116_L0_O) []) tt 19 g116_H g116_B0 0 (g116_L0_I.enc x) (Kl (ins := g116_L0_I) (outs := g116_L0_O) (g116_L0_R m n)) = g116_L0 m (n + 1) x.1 x.2.2.1 x.2.2.2.1 := by kernel_rfl
theorem g116_L0_ok {E : Entry} (hE : EOf Tryz.prog E 19 g116_H.pins) (m : Nat) (n : Nat) : LoopOK Tryz.prog E g116_B0 (g116_L0_T m n) :=
  loop_ok (CO := CallOK Tryz.prog) hmix htt (fun _ _ _ _ h => h) hE (C := fun R => mkC R [g115_T m]) (L := []) (fun _ _ _ _ _ h => mkC_spec (AllF.mem (l := [g115_T m]) ⟨g115_ok m, trivial⟩) h) (fun _ _ => loopsIn_of g116_B0_ls trivial) (fun n => (g116_L0_R m n)) (fun _ => by kernel_rfl) (fun n x => (g116_L0_kr m n x).trans (by kernel_rfl)) n
theorem g116_kr (m : Nat) (x : ShLVal g116_A) : fnK (mkC (g116_S.Val × ShLVal g116_U) [g115_T m]) (mkLp (g116_S.Val × ShLVal g116_U) [g116_L0_T m m]) tt g116_H Tryz.f116 (encS g116_A x) (Kd g116_S g116_U) = g116 m x.1 := by kernel_rfl
theorem g116_ok (m : Nat) : FunOK Tryz.prog (g116_T m) :=
  fun_ok hmix htt (g116_T m) Tryz.func116 (c := g116_C) (by kernel_rfl) (by kernel_rfl) (Lc := [g115_T m]) (AllF.mem (l := [g115_T m]) ⟨g115_ok m, trivial⟩) (L := [g116_L0_T m m]) (fun _ hE _ _ => loopsIn_of g116_C_ls ⟨mkLp_all ⟨fun _ => g116_L0_ok hE m m, trivial⟩, trivial⟩) (fun x => (g116_kr m x).trans (by kernel_rfl))
/-! 114 slices.ContainsFunc___uint32_uint32_ -/
def g114_H : Hints := { regs := [⟨[], [0, 1]⟩, ⟨[(0, 1), (1, 1)], [4]⟩], heads := [], exits := [], rets := [4], pins := [], spec := [[false]] }
abbrev g114_A : List Sh := [.a (.c (.imm (.int .u32))), .a (.c (.fn 115))]
abbrev g114_S : Sh := .a (.c .bool)
abbrev g114_U : List Sh := [.a (.c .dead), .a (.c .dead)]
def g114_R (m : Nat) : ShLVal g114_A → Option (g114_S.Val × ShLVal g114_U) := fun (x : List Int × Unit × Unit) => g114 m x.1
def g114_T (m : Nat) : FunT := ⟨114, g114_A, g114_S, g114_U, g114_R m⟩
noncomputable def g114_C : Code := codeOf Tryz.f114
theorem g114_C_ls : loopsL g114_C 0 = [] := by kernel_rfl
theorem g114_kr (m : Nat) (x : ShLVal g114_A) : fnK (mkC (g114_S.Val × ShLVal g114_U) [g116_T m]) (mkLp (g114_S.Val × ShLVal g114_U) []) tt g114_H Tryz.f114 (encS g114_A x) (Kd g114_S g114_U) = g114 m x.1 := by kernel_rfl
theorem g114_ok (m : Nat) : FunOK Tryz.prog (g114_T m) :=
  fun_ok hmix htt (g114_T m) Tryz.func114 (c := g114_C) (by kernel_rfl) (by kernel_rfl) (Lc := [g116_T m]) (AllF.mem (l := [g116_T m]) ⟨g116_ok m, trivial⟩) (L := []) (fun _ hE _ _ => loopsIn_of g114_C_ls trivial) (fun x => (g114_kr m x).trans (by kernel_rfl))
/-! 112 sparse/integer.down -/
def g112_H : Hints := { regs := [⟨[], [0, 1]⟩, ⟨[], [0, 6, 7]⟩, ⟨[], [0, 6, 7, 20]⟩, ⟨[(0, 1)], [4, 5]⟩, ⟨[(4, 1)], [0, 6, 7, 8]⟩, ⟨[], [0, 6, 7, 8, 9]⟩, ⟨[], [0, 6, 7, 8, 9, 45, 46]⟩, ⟨[], [0, 6, 7, 8, 9, 45, 46, 47]⟩, ⟨[], [0, 6, 7, 8, 9, 10, 45, 46]⟩, ⟨[], [0, 6, 7, 8, 9, 10, 11, 45, 46]⟩, ⟨[], [0, 6, 7, 8, 9, 10, 11, 45, 46, 62]⟩, ⟨[(0, 1)], [0, 6, 7, 8, 9, 10, 11, 45, 46]⟩, ⟨[(1, 1), (2, 1)], [0, 6, 7, 8, 9, 45, 46]⟩, ⟨[(1, 1)], [0, 6, 7, 8, 9, 45, 46]⟩, ⟨[(0, 1), (2, 1)], [4, 5]⟩], heads := [(0, [0, 6, 7, 8, 9, 45, 46])], exits := [(0, [8, 9]), (1, [0, 6, 7, 8, 9, 45, 46])], rets := [4, 5], pins := [], spec := [[false], [false]] }
abbrev g112_A : List Sh := [.a (.c (.imm (.int .u32))), .a (.c (.int .i64))]
abbrev g112_S : Sh := .tup [(.c (.imm (.int .u32))), (.c .bool)]
abbrev g112_U : List Sh := [.a (.c .dead), .a (.c .dead)]
def g112_R (m : Nat) : ShLVal g112_A → Option (g112_S.Val × ShLVal g112_U) := fun (x : List Int × Int × Unit) => g112 m x.1 x.2.1
def g112_T (m : Nat) : FunT := ⟨112, g112_A, g112_S, g112_U, g112_R m⟩
noncomputable def g112_C : Code := codeOf Tryz.f112
noncomputable def g112_B0 : Code := loopAt g112_C 0 0
theorem g112_B0_ls : loopsL g112_B0 0 = [] := by kernel_rfl
theorem g112_C_ls : loopsL g112_C 0 = [(0, g112_B0)] := by kernel_rfl
abbrev g112_L0_I : SS := [(0, .a (.c (.imm (.int .u32)))), (6, .a (.c (.int .i64))), (7, .a (.c (.int .u64))), (8, .a (.c .bool)), (9, .a (.c (.nm 0 (.int .u32)))), (45, .a (.c (.int .i64))), (46, .a (.c (.int .i64)))]
abbrev g112_L0_O : List (Ex × SS) := [(.exit 0, [(8, .a (.c .bool)), (9, .a (.c (.nm 0 (.int .u32))))])]
def g112_L0_R (m n : Nat) : g112_L0_I.Val → Option (outVal g112_L0_O) := (fun (x : List Int × Int × Int × Bool × List Int × Int × Int × Unit) => g112_L0 m n x.1 x.2.1 x.2.2.1 x.2.2.2.1 x.2.2.2.2.1 x.2.2.2.2.2.1 x.2.2.2.2.2.2.1)
def g112_L0_T (m n : Nat) : LoopT := ⟨0, g112_L0_I, g112_L0_O, g112_L0_R m n⟩
theorem g112_L0_kr (m n : Nat) (x : g112_L0_I.Val) : roundK (mkC (outVal g112_L0_O) [g114_T m, g101_T m]) (mkLp (outVal g112_L0_O) []) tt 86 g112_H g112_B0 0 (g112_L0_I.enc x) (Kl (ins := g112_L0_I) (outs := g112_L0_O) (g112_L0_R m n)) = g112_L0 m (n + 1) x.1 x.2.1 x.2.2.1 x.2.2.2.1 x.2.2.2.2.1 x.2.2.2.2.2.1 x.2.2.2.2.2.2.1 := by kernel_rfl
theorem g112_L0_ok {E : Entry} (hE : EOf Tryz.prog E 86 g112_H.pins) (m : Nat) (n : Nat) : LoopOK Tryz.prog E g112_B0 (g112_L0_T m n) :=
  loop_ok (CO := CallOK Tryz.prog) hmix htt (fun _ _ _ _ h => h) hE (C := fun R => mkC R [g114_T m, g101_T m]) (L := []) (fun _ _ _ _ _ h => mkC_spec (AllF.mem (l := [g114_T m, g101_T m]) ⟨g114_ok m, g101_ok m, trivial⟩) h) (fun _ _ => loopsIn_of g112_B0_ls trivial) (fun n => (g112_L0_R m n)) (fun _ => by kernel_rfl) (fun n x => (g112_L0_kr m n x).trans (by kernel_rfl)) n
theorem g112_kr (m : Nat) (x : ShLVal g112_A) : fnK (mkC (g112_S.Val × ShLVal g112_U) [g114_T m, g101_T m]) (mkLp (g112_S.Val × ShLVal g112_U) [g112_L0_T m m]) tt g112_H Tryz.f112 (encS g112_A x) (Kd g112_S g112_U) = g112 m x.1 x.2.1 := by kernel_rfl
theorem g112_ok (m : Nat) : FunOK Tryz.prog (g112_T m) :=
  fun_ok hmix htt (g112_T m) Tryz.func112 (c := g112_C) (by kernel_rfl) (by kernel_rfl) (Lc := [g114_T m, g101_T m]) (AllF.mem (l := [g114_T m, g101_T m]) ⟨g114_ok m, g101_ok m, trivial⟩) (L := [g112_L0_T m m]) (fun _ hE _ _ => loopsIn_of g112_C_ls ⟨mkLp_all ⟨fun _ => g112_L0_ok hE m m, trivial⟩, trivial⟩) (fun x => (g112_kr m x).trans (by kernel_rfl))
/-! 113 sparse/integer.plus -/
def g113_H : Hints := { regs := [⟨[], [0, 1]⟩, ⟨[], [0, 1, 14]⟩, ⟨[(0, 1), (1, 1)], [0, 1]⟩, ⟨[], [0, 1, 5]⟩, ⟨[], [0, 1, 5, 6]⟩, ⟨[(0, 1)], [1, 5, 6, 21, 22, 23]⟩, ⟨[], [1, 5, 6, 21, 22, 23, 24]⟩, ⟨[], [1, 5, 6, 7, 8, 21, 22, 23]⟩, ⟨[(0, 1), (2, 1)], [1, 5, 7, 9, 21, 22, 23]⟩, ⟨[], [1, 5, 7, 9, 21, 22, 23, 35]⟩, ⟨[(0, 1), (2, 1)], [1, 5, 9, 21, 22, 23]⟩, ⟨[(0, 1)], [1, 5, 9, 21, 22, 23]⟩, ⟨[(0, 1)], [1, 5, 6, 21, 22, 23]⟩, ⟨[(1, 1)], [1, 5, 6, 21, 22, 23]⟩, ⟨[(0, 1), (1, 1)], [4]⟩], heads := [(0, [1, 5, 6, 21, 22, 23])], exits := [(0, [5, 6]), (1, [1, 5, 6, 21, 22, 23])], rets := [4], pins := [], spec := [[false]] }
abbrev g113_A : List Sh := [.a (.c (.imm (.int .u32))), .a (.c (.imm (.int .u32)))]
abbrev g113_S : Sh := .a (.c (.imm (.int .u32)))
abbrev g113_U : List Sh := [.a (.c .dead), .a (.c .dead)]
def g113_R (m : Nat) : ShLVal g113_A → Option (g113_S.Val × ShLVal g113_U) := fun (x : List Int × List Int × Unit) => g113 m x.1 x.2.1
def g113_T (m : Nat) : FunT := ⟨113, g113_A, g113_S, g113_U, g113_R m⟩
noncomputable def g113_C : Code := codeOf Tryz.f113
noncomputable def g113_B0 : Code := loopAt g113_C 0 0
theorem g113_B0_ls : loopsL g113_B0 0 = [] := by kernel_rfl
theorem g113_C_ls : loopsL g113_C 0 = [(0, g113_B0)] := by kernel_rfl
abbrev g113_L0_I : SS := [(1, .a (.c (.imm (.int .u32)))), (5, .a (.c (.nm 0 (.int .u32)))), (6, .a (.c (.int .u64))), (21, .a (.c (.imm (.int .u32)))), (22, .a (.c (.int .i64))), (23, .a (.c (.int .i64)))]
abbrev g113_L0_O : List (Ex × SS) := [(.exit 0, [(5, .a (.c (.nm 0 (.int .u32)))), (6, .a (.c (.int .u64)))])]
def g113_L0_R (m n : Nat) : g113_L0_I.Val → Option (outVal g113_L0_O) := (fun (x : List Int × List Int × Int × List Int × Int × Int × Unit) => g113_L0 m n x.1 x.2.1 x.2.2.1 x.2.2.2.1 x.2.2.2.2.1 x.2.2.2.2.2.1)
def g113_L0_T (m n : Nat) : LoopT := ⟨0, g113_L0_I, g113_L0_O, g113_L0_R m n⟩
theorem g113_L0_kr (m n : Nat) (x : g113_L0_I.Val) : roundK (mkC (outVal g113_L0_O) [g101_T m]) (mkLp (outVal g113_L0_O) []) tt 58 g113_H g113_B0 0 (g113_L0_I.enc x) (Kl (ins := g113_L0_I) (outs := g113_L0_O) (g113_L0_R m n)) = g113_L0 m (n + 1) x.1 x.2.1 x.2.2.1 x.2.2.2.1 x.2.2.2.2.1 x.2.2.2.2.2.1 := by kernel_rfl
theorem g113_L0_ok {E : Entry} (hE : EOf Tryz.prog E 58 g113_H.pins) (m : Nat) (n : Nat) : LoopOK Tryz.prog E g113_B0 (g113_L0_T m n) :=
  loop_ok (CO := CallOK Tryz.prog) hmix htt (fun _ _ _ _ h => h) hE (C := fun R => mkC R [g101_T m]) (L := []) (fun _ _ _ _ _ h => mkC_spec (AllF.mem (l := [g101_T m]) ⟨g101_ok m, trivial⟩) h) (fun _ _ => loopsIn_of g113_B0_ls trivial) (fun n => (g113_L0_R m n)) (fun _ => by kernel_rfl) (fun n x => (g113_L0_kr m n x).trans (by kernel_rfl)) n
theorem g113_kr (m : Nat) (x : ShLVal g113_A) : fnK (mkC (g113_S.Val × ShLVal g113_U) [g101_T m]) (mkLp (g113_S.Val × ShLVal g113_U) [g113_L0_T m m]) tt g113_H Tryz.f113 (encS g113_A x) (Kd g113_S g113_U) = g113 m x.1 x.2.1 := by kernel_rfl
theorem g113_ok (m : Nat) : FunOK Tryz.prog (g113_T m) :=
  fun_ok hmix htt (g113_T m) Tryz.func113 (c := g113_C) (by kernel_rfl) (by kernel_rfl) (Lc := [g101_T m]) (AllF.mem (l := [g101_T m]) ⟨g101_ok m, trivial⟩) (L := [g113_L0_T m m]) (fun _ hE _ _ => loopsIn_of g113_C_ls ⟨mkLp_all ⟨fun _ => g113_L0_ok hE m m, trivial⟩, trivial⟩) (fun x => (g113_kr m x).trans (by kernel_rfl))
/-! 110 sparse/integer.Shift -/
def g110_H : Hints := { regs := [⟨[], [1, 2, 4]⟩, ⟨[(2, 1)], [1, 2, 4, 14]⟩, ⟨[], [4, 5]⟩, ⟨[], [1, 2, 4, 6]⟩, ⟨[], [1, 2, 4, 6, 20]⟩, ⟨[(2, 1), (3, 1)], [4, 5]⟩, ⟨[(0, 1), (1, 1), (4, 1)], [2, 4, 7, 8]⟩, ⟨[(2, 1), (3, 1)], [2, 4, 7, 38]⟩, ⟨[(0, 1)], [2, 4, 7]⟩, ⟨[(2, 1)], [4, 5]⟩], heads := [], exits := [], rets := [4, 5], pins := [], spec := [[false, false], [false]] }
abbrev g110_A : List Sh := [.a (.agg [.bool, (.imm (.int .u32))]), .a (.c (.int .i64))]
abbrev g110_S : Sh := .tup [(.agg [.bool, (.imm (.int .u32))]), (.c (.int .i64))]
abbrev g110_U : List Sh := [.a (.c .dead), .a (.c .dead)]
def g110_R (m : Nat) : ShLVal g110_A → Option (g110_S.Val × ShLVal g110_U) := fun (x : (Bool × List Int × Unit) × Int × Unit) => g110 m x.1.1 x.1.2.1 x.2.1
def g110_T (m : Nat) : FunT := ⟨110, g110_A, g110_S, g110_U, g110_R m⟩
noncomputable def g110_C : Code := codeOf Tryz.f110
theorem g110_C_ls : loopsL g110_C 0 = [] := by kernel_rfl
theorem g110_kr (m : Nat) (x : ShLVal g110_A) : fnK (mkC (g110_S.Val × ShLVal g110_U) [g101_T m, g111_T m, g103_T m, g112_T m, g113_T m]) (mkLp (g110_S.Val × ShLVal g110_U) []) tt g110_H Tryz.f110 (encS g110_A x) (Kd g110_S g110_U) = g110 m x.1.1 x.1.2.1 x.2.1 := by kernel_rfl
theorem g110_ok (m : Nat) : FunOK Tryz.prog (g110_T m) :=
  fun_ok hmix htt (g110_T m) Tryz.func110 (c := g110_C) (by kernel_rfl) (by kernel_rfl) (Lc := [g101_T m, g111_T m, g103_T m, g112_T m, g113_T m]) (AllF.mem (l := [g101_T m, g111_T m, g103_T m, g112_T m, g113_T m]) ⟨g101_ok m, g111_ok m, g103_ok m, g112_ok m, g113_ok m, trivial⟩) (L := []) (fun _ hE _ _ => loopsIn_of g110_C_ls trivial) (fun x => (g110_kr m x).trans (by kernel_rfl))
/-! 100 sparse/dyad.right -/
def g100_H : Hints := { regs := [⟨[], [1, 2, 4]⟩, ⟨[], [1, 2, 4, 6]⟩, ⟨[(2, 1)], [1, 2, 4]⟩, ⟨[(0, 1)], [1, 2, 4]⟩, ⟨[(1, 1), (4, 1)], [2, 4]⟩, ⟨[], [4]⟩], heads := [(0, [1, 2, 4])], exits := [(0, [1, 2, 4]), (1, [1, 2, 4])], rets := [4], pins := [], spec := [[false, false]] }
abbrev g100_A : List Sh := [.a (.agg [.bool, (.imm (.int .u32))]), .a (.c (.int .i64))]
abbrev g100_S : Sh := .a (.agg [.bool, (.imm (.int .u32))])
abbrev g100_U : List Sh := [.a (.c .dead), .a (.c .dead)]
def g100_R (m : Nat) : ShLVal g100_A → Option (g100_S.Val × ShLVal g100_U) := fun (x : (Bool × List Int × Unit) × Int × Unit) => g100 m x.1.1 x.1.2.1 x.2.1
def g100_T (m : Nat) : FunT := ⟨100, g100_A, g100_S, g100_U, g100_R m⟩
noncomputable def g100_C : Code := codeOf Tryz.f100
noncomputable def g100_B0 : Code := loopAt g100_C 0 0
theorem g100_B0_ls : loopsL g100_B0 0 = [] := by kernel_rfl
theorem g100_C_ls : loopsL g100_C 0 = [(0, g100_B0)] := by kernel_rfl
abbrev g100_L0_I : SS := [(1, .a (.c (.int .i64))), (2, .a (.bx 0 [.bool, (.imm (.int .u32))])), (4, .a (.bx 1 [.bool, (.nm 2 (.int .u32))]))]
abbrev g100_L0_O : List (Ex × SS) := [(.exit 0, [(1, .a (.c (.int .i64))), (2, .a (.bx 0 [.bool, (.imm (.int .u32))])), (4, .a (.bx 1 [.bool, (.nm 2 (.int .u32))]))])]
def g100_L0_R (m n : Nat) : g100_L0_I.Val → Option (outVal g100_L0_O) := (fun (x : Int × (Bool × List Int × Unit) × (Bool × List Int × Unit) × Unit) => g100_L0 m n x.1 x.2.1.1 x.2.1.2.1 x.2.2.1.1 x.2.2.1.2.1)
def g100_L0_T (m n : Nat) : LoopT := ⟨0, g100_L0_I, g100_L0_O, g100_L0_R m n⟩
theorem g100_L0_kr (m n : Nat) (x : g100_L0_I.Val) : roundK (mkC (outVal g100_L0_O) [g110_T m]) (mkLp (outVal g100_L0_O) []) tt 22 g100_H g100_B0 0 (g100_L0_I.enc x) (Kl (ins := g100_L0_I) (outs := g100_L0_O) (g100_L0_R m n)) = g100_L0 m (n + 1) x.1 x.2.1.1 x.2.1.2.1 x.2.2.1.1 x.2.2.1.2.1 := by kernel_rfl
theorem g100_L0_ok {E : Entry} (hE : EOf Tryz.prog E 22 g100_H.pins) (m : Nat) (n : Nat) : LoopOK Tryz.prog E g100_B0 (g100_L0_T m n) :=
  loop_ok (CO := CallOK Tryz.prog) hmix htt (fun _ _ _ _ h => h) hE (C := fun R => mkC R [g110_T m]) (L := []) (fun _ _ _ _ _ h => mkC_spec (AllF.mem (l := [g110_T m]) ⟨g110_ok m, trivial⟩) h) (fun _ _ => loopsIn_of g100_B0_ls trivial) (fun n => (g100_L0_R m n)) (fun _ => by kernel_rfl) (fun n x => (g100_L0_kr m n x).trans (by kernel_rfl)) n
theorem g100_kr (m : Nat) (x : ShLVal g100_A) : fnK (mkC (g100_S.Val × ShLVal g100_U) [g110_T m]) (mkLp (g100_S.Val × ShLVal g100_U) [g100_L0_T m m]) tt g100_H Tryz.f100 (encS g100_A x) (Kd g100_S g100_U) = g100 m x.1.1 x.1.2.1 x.2.1 := by kernel_rfl
theorem g100_ok (m : Nat) : FunOK Tryz.prog (g100_T m) :=
  fun_ok hmix htt (g100_T m) Tryz.func100 (c := g100_C) (by kernel_rfl) (by kernel_rfl) (Lc := [g110_T m]) (AllF.mem (l := [g110_T m]) ⟨g110_ok m, trivial⟩) (L := [g100_L0_T m m]) (fun _ hE _ _ => loopsIn_of g100_C_ls ⟨mkLp_all ⟨fun _ => g100_L0_ok hE m m, trivial⟩, trivial⟩) (fun x => (g100_kr m x).trans (by kernel_rfl))
/-! 80 sparse/dyad.norm -/
def g80_H : Hints := { regs := [⟨[], [1, 2]⟩, ⟨[], [1, 2, 7]⟩, ⟨[], [2, 3]⟩, ⟨[], [1, 2, 4]⟩, ⟨[], [1, 2, 4, 14]⟩, ⟨[], [2, 3]⟩, ⟨[], [1, 2, 4, 5]⟩, ⟨[(6, 1)], [1, 2, 4, 5, 30]⟩, ⟨[], [2, 3]⟩, ⟨[], [2, 3]⟩], heads := [], exits := [], rets := [2, 3], pins := [], spec := [[false, false, false, false], [false]] }
abbrev g80_A : List Sh := [.a (.agg [.bool, .bool, (.imm (.int .u32)), (.int .i64)])]
abbrev g80_S : Sh := .tup [(.agg [.bool, .bool, (.imm (.int .u32)), (.int .i64)]), (.c .bool)]
abbrev g80_U : List Sh := [.a (.c .dead)]
def g80_R (m : Nat) : ShLVal g80_A → Option (g80_S.Val × ShLVal g80_U) := fun (x : (Bool × Bool × List Int × Int × Unit) × Unit) => g80 m x.1.1 x.1.2.1 x.1.2.2.1 x.1.2.2.2.1
def g80_T (m : Nat) : FunT := ⟨80, g80_A, g80_S, g80_U, g80_R m⟩
noncomputable def g80_C : Code := codeOf Tryz.f80
theorem g80_C_ls : loopsL g80_C 0 = [] := by kernel_rfl
theorem g80_kr (m : Nat) (x : ShLVal g80_A) : fnK (mkC (g80_S.Val × ShLVal g80_U) [g97_T m, g98_T m, g81_T m, g99_T m, g82_T m, g100_T m]) (mkLp (g80_S.Val × ShLVal g80_U) []) tt g80_H Tryz.f80 (encS g80_A x) (Kd g80_S g80_U) = g80 m x.1.1 x.1.2.1 x.1.2.2.1 x.1.2.2.2.1 := by kernel_rfl
theorem g80_ok (m : Nat) : FunOK Tryz.prog (g80_T m) :=
  fun_ok hmix htt (g80_T m) Tryz.func80 (c := g80_C) (by kernel_rfl) (by kernel_rfl) (Lc := [g97_T m, g98_T m, g81_T m, g99_T m, g82_T m, g100_T m]) (AllF.mem (l := [g97_T m, g98_T m, g81_T m, g99_T m, g82_T m, g100_T m]) ⟨g97_ok m, g98_ok m, g81_ok m, g99_ok m, g82_ok m, g100_ok m, trivial⟩) (L := []) (fun _ hE _ _ => loopsIn_of g80_C_ls trivial) (fun x => (g80_kr m x).trans (by kernel_rfl))
/-! 86 sparse/dyad.Make -/
def g86_H : Hints := { regs := [⟨[], [1, 2, 4]⟩, ⟨[(1, 1), (4, 1)], [4, 5]⟩, ⟨[], [4]⟩], heads := [], exits := [], rets := [4], pins := [], spec := [[false, false, false, false]] }
abbrev g86_A : List Sh := [.a (.agg [.bool, (.imm (.int .u32))]), .a (.c (.int .i64))]
abbrev g86_S : Sh := .a (.agg [.bool, .bool, (.imm (.int .u32)), (.int .i64)])
abbrev g86_U : List Sh := [.a (.c .dead), .a (.c .dead)]
def g86_R (m : Nat) : ShLVal g86_A → Option (g86_S.Val × ShLVal g86_U) := fun (x : (Bool × List Int × Unit) × Int × Unit) => g86 m x.1.1 x.1.2.1 x.2.1
def g86_T (m : Nat) : FunT := ⟨86, g86_A, g86_S, g86_U, g86_R m⟩
noncomputable def g86_C : Code := codeOf Tryz.f86
theorem g86_C_ls : loopsL g86_C 0 = [] := by kernel_rfl
theorem g86_kr (m : Nat) (x : ShLVal g86_A) : fnK (mkC (g86_S.Val × ShLVal g86_U) [g80_T m]) (mkLp (g86_S.Val × ShLVal g86_U) []) tt g86_H Tryz.f86 (encS g86_A x) (Kd g86_S g86_U) = g86 m x.1.1 x.1.2.1 x.2.1 := by kernel_rfl
theorem g86_ok (m : Nat) : FunOK Tryz.prog (g86_T m) :=
  fun_ok hmix htt (g86_T m) Tryz.func86 (c := g86_C) (by kernel_rfl) (by kernel_rfl) (Lc := [g80_T m]) (AllF.mem (l := [g80_T m]) ⟨g80_ok m, trivial⟩) (L := []) (fun _ hE _ _ => loopsIn_of g86_C_ls trivial) (fun x => (g86_kr m x).trans (by kernel_rfl))
/-! 64 sparse/float.Of -/
def g64_H : Hints := { regs := [⟨[], [0, 2]⟩, ⟨[(2, 1)], [0, 2, 3, 4]⟩, ⟨[], [0, 2, 3, 4, 11]⟩, ⟨[(0, 1)], [0, 2, 3, 4]⟩, ⟨[(0, 1)], [0, 2, 3, 4]⟩, ⟨[], [0, 2, 3, 4, 11, 16]⟩, ⟨[], [2]⟩, ⟨[], [0, 2, 3, 4, 19]⟩, ⟨[], [0, 2, 3, 4]⟩, ⟨[(0, 1)], [0, 2, 3, 5]⟩, ⟨[(0, 1)], [2, 3, 5, 25]⟩, ⟨[], [2, 3, 5]⟩, ⟨[(1, 1)], [2]⟩], heads := [], exits := [(0, [0, 2, 3, 4])], rets := [2], pins := [], spec := [[false, false, false, false]] }
abbrev g64_A : List Sh := [.a (.c (.int .u64))]
abbrev g64_S : Sh := .a (.agg [.bool, .bool, (.imm (.int .u32)), (.int .i64)])
abbrev g64_U : List Sh := [.a (.c .dead)]
def g64_R (m : Nat) : ShLVal g64_A → Option (g64_S.Val × ShLVal g64_U) := fun (x : Int × Unit) => g64 m x.1
def g64_T (m : Nat) : FunT := ⟨64, g64_A, g64_S, g64_U, g64_R m⟩
noncomputable def g64_C : Code := codeOf Tryz.f64
theorem g64_C_ls : loopsL g64_C 0 = [] := by kernel_rfl
theorem g64_kr (m : Nat) (x : ShLVal g64_A) : fnK (mkC (g64_S.Val × ShLVal g64_U) [g70_T m, g83_T m, g84_T m, g85_T m, g86_T m]) (mkLp (g64_S.Val × ShLVal g64_U) []) tt g64_H Tryz.f64 (encS g64_A x) (Kd g64_S g64_U) = g64 m x.1 := by kernel_rfl
theorem g64_ok (m : Nat) : FunOK Tryz.prog (g64_T m) :=
  fun_ok hmix htt (g64_T m) Tryz.func64 (c := g64_C) (by kernel_rfl) (by kernel_rfl) (Lc := [g70_T m, g83_T m, g84_T m, g85_T m, g86_T m]) (AllF.mem (l := [g70_T m, g83_T m, g84_T m, g85_T m, g86_T m]) ⟨g70_ok m, g83_ok m, g84_ok m, g85_ok m, g86_ok m, trivial⟩) (L := []) (fun _ hE _ _ => loopsIn_of g64_C_ls trivial) (fun x => (g64_kr m x).trans (by kernel_rfl))
/-! 63 sparse/dyad.Log2 -/
def g63_H : Hints := { regs := [⟨[], [1]⟩, ⟨[(2, 1)], [1, 4]⟩, ⟨[(0, 1), (2, 1)], [1, 17]⟩, ⟨[], [2, 3]⟩, ⟨[], [2, 3]⟩], heads := [], exits := [], rets := [2, 3], pins := [], spec := [[false], [false]] }
abbrev g63_A : List Sh := [.a (.agg [.bool, .bool, (.imm (.int .u32)), (.int .i64)])]
abbrev g63_S : Sh := .tup [(.c (.int .i64)), (.c .bool)]
abbrev g63_U : List Sh := [.a (.c .dead)]
def g63_R (m : Nat) : ShLVal g63_A → Option (g63_S.Val × ShLVal g63_U) := fun (x : (Bool × Bool × List Int × Int × Unit) × Unit) => g63 m x.1.1 x.1.2.1 x.1.2.2.1 x.1.2.2.2.1
def g63_T (m : Nat) : FunT := ⟨63, g63_A, g63_S, g63_U, g63_R m⟩
noncomputable def g63_C : Code := codeOf Tryz.f63
theorem g63_C_ls : loopsL g63_C 0 = [] := by kernel_rfl
theorem g63_kr (m : Nat) (x : ShLVal g63_A) : fnK (mkC (g63_S.Val × ShLVal g63_U) [g80_T m, g81_T m, g82_T m]) (mkLp (g63_S.Val × ShLVal g63_U) []) tt g63_H Tryz.f63 (encS g63_A x) (Kd g63_S g63_U) = g63 m x.1.1 x.1.2.1 x.1.2.2.1 x.1.2.2.2.1 := by kernel_rfl
theorem g63_ok (m : Nat) : FunOK Tryz.prog (g63_T m) :=
  fun_ok hmix htt (g63_T m) Tryz.func63 (c := g63_C) (by kernel_rfl) (by kernel_rfl) (Lc := [g80_T m, g81_T m, g82_T m]) (AllF.mem (l := [g80_T m, g81_T m, g82_T m]) ⟨g80_ok m, g81_ok m, g82_ok m, trivial⟩) (L := []) (fun _ hE _ _ => loopsIn_of g63_C_ls trivial) (fun x => (g63_kr m x).trans (by kernel_rfl))
/-! 39 sparse/float.Exponent -/
def g39_H : Hints := { regs := [⟨[], [0]⟩, ⟨[(0, 1)], [2, 3]⟩], heads := [], exits := [], rets := [2, 3], pins := [], spec := [[false], [false]] }
abbrev g39_A : List Sh := [.a (.c (.int .u64))]
abbrev g39_S : Sh := .tup [(.c (.int .i64)), (.c .bool)]
abbrev g39_U : List Sh := [.a (.c .dead)]
def g39_R (m : Nat) : ShLVal g39_A → Option (g39_S.Val × ShLVal g39_U) := fun (x : Int × Unit) => g39 m x.1
def g39_T (m : Nat) : FunT := ⟨39, g39_A, g39_S, g39_U, g39_R m⟩
noncomputable def g39_C : Code := codeOf Tryz.f39
theorem g39_C_ls : loopsL g39_C 0 = [] := by kernel_rfl
theorem g39_kr (m : Nat) (x : ShLVal g39_A) : fnK (mkC (g39_S.Val × ShLVal g39_U) [g64_T m, g63_T m]) (mkLp (g39_S.Val × ShLVal g39_U) []) tt g39_H Tryz.f39 (encS g39_A x) (Kd g39_S g39_U) = g39 m x.1 := by kernel_rfl
theorem g39_ok (m : Nat) : FunOK Tryz.prog (g39_T m) :=
  fun_ok hmix htt (g39_T m) Tryz.func39 (c := g39_C) (by kernel_rfl) (by kernel_rfl) (Lc := [g64_T m, g63_T m]) (AllF.mem (l := [g64_T m, g63_T m]) ⟨g64_ok m, g63_ok m, trivial⟩) (L := []) (fun _ hE _ _ => loopsIn_of g39_C_ls trivial) (fun x => (g39_kr m x).trans (by kernel_rfl))
/-! 23 sparse/transversal.edges -/
def g23_H : Hints := { regs := [⟨[], [1]⟩, ⟨[(2, 4)], [1, 3]⟩, ⟨[], [3, 12, 13, 14]⟩, ⟨[], [3, 12, 13, 14, 15]⟩, ⟨[], [3, 5, 12, 13, 14]⟩, ⟨[(3, 1)], [3, 5, 6, 7, 12, 13, 14]⟩, ⟨[(0, 1)], [3, 5, 6, 12, 13, 14, 24]⟩, ⟨[(7, 4), (10, 1), (15, 4)], [3, 12, 13, 14]⟩, ⟨[(1, 1)], [3, 12, 13, 14]⟩, ⟨[(0, 1)], [2]⟩], heads := [(0, [3, 12, 13, 14])], exits := [(0, [3]), (1, [3, 12, 13, 14])], rets := [2], pins := [], spec := [[false]] }
abbrev g23_A : List Sh := [.a (.agg [(.int .i64), (.int .i64), (.imm (.int .i64)), (.imm (.int .i64)), (.imm (.int .u64))])]
abbrev g23_S : Sh := .a (.c (.imm (.sl false (.pr (.int .i64) (.int .i64)))))
abbrev g23_U : List Sh := [.a (.c .dead)]
def g23_R (m : Nat) : ShLVal g23_A → Option (g23_S.Val × ShLVal g23_U) := fun (x : (Int × Int × List Int × List Int × List Int × Unit) × Unit) => g23 m x.1.1 x.1.2.1 x.1.2.2.1 x.1.2.2.2.1 x.1.2.2.2.2.1
def g23_T (m : Nat) : FunT := ⟨23, g23_A, g23_S, g23_U, g23_R m⟩
noncomputable def g23_C : Code := codeOf Tryz.f23
noncomputable def g23_B0 : Code := loopAt g23_C 0 0
theorem g23_B0_ls : loopsL g23_B0 0 = [] := by kernel_rfl
theorem g23_C_ls : loopsL g23_C 0 = [(0, g23_B0)] := by kernel_rfl
abbrev g23_L0_I : SS := [(3, .a (.c (.dp 0 (.pr (.int .i64) (.int .i64))))), (12, .a (.c (.nm 1 (.pr (.int .i64) (.pr (.int .i64) (.int .u64)))))), (13, .a (.c (.int .i64))), (14, .a (.c (.int .i64)))]
abbrev g23_L0_O : List (Ex × SS) := [(.exit 0, [(3, .a (.c (.dp 0 (.pr (.int .i64) (.int .i64)))))])]
def g23_L0_R (m n : Nat) : g23_L0_I.Val → Option (outVal g23_L0_O) := (fun (x : (List (List (Int × Int))) × (List (Int × Int × Int)) × Int × Int × Unit) => g23_L0 m n x.1 x.2.1 x.2.2.1 x.2.2.2.1)
def g23_L0_T (m n : Nat) : LoopT := ⟨0, g23_L0_I, g23_L0_O, g23_L0_R m n⟩
theorem g23_L0_kr (m n : Nat) (x : g23_L0_I.Val) : roundK (mkC (outVal g23_L0_O) [g38_T m, g39_T m]) (mkLp (outVal g23_L0_O) []) tt 42 g23_H g23_B0 0 (g23_L0_I.enc x) (Kl (ins := g23_L0_I) (outs := g23_L0_O) (g23_L0_R m n)) = g23_L0 m (n + 1) x.1 x.2.1 x.2.2.1 x.2.2.2.1 := by kernel_rfl
theorem g23_L0_ok {E : Entry} (hE : EOf Tryz.prog E 42 g23_H.pins) (m : Nat) (n : Nat) : LoopOK Tryz.prog E g23_B0 (g23_L0_T m n) :=
  loop_ok (CO := CallOK Tryz.prog) hmix htt (fun _ _ _ _ h => h) hE (C := fun R => mkC R [g38_T m, g39_T m]) (L := []) (fun _ _ _ _ _ h => mkC_spec (AllF.mem (l := [g38_T m, g39_T m]) ⟨g38_ok m, g39_ok m, trivial⟩) h) (fun _ _ => loopsIn_of g23_B0_ls trivial) (fun n => (g23_L0_R m n)) (fun _ => by kernel_rfl) (fun n x => (g23_L0_kr m n x).trans (by kernel_rfl)) n
theorem g23_kr (m : Nat) (x : ShLVal g23_A) : fnK (mkC (g23_S.Val × ShLVal g23_U) [g38_T m, g39_T m]) (mkLp (g23_S.Val × ShLVal g23_U) [g23_L0_T m m]) tt g23_H Tryz.f23 (encS g23_A x) (Kd g23_S g23_U) = g23 m x.1.1 x.1.2.1 x.1.2.2.1 x.1.2.2.2.1 x.1.2.2.2.2.1 := by kernel_rfl
theorem g23_ok (m : Nat) : FunOK Tryz.prog (g23_T m) :=
  fun_ok hmix htt (g23_T m) Tryz.func23 (c := g23_C) (by kernel_rfl) (by kernel_rfl) (Lc := [g38_T m, g39_T m]) (AllF.mem (l := [g38_T m, g39_T m]) ⟨g38_ok m, g39_ok m, trivial⟩) (L := [g23_L0_T m m]) (fun _ hE _ _ => loopsIn_of g23_C_ls ⟨mkLp_all ⟨fun _ => g23_L0_ok hE m m, trivial⟩, trivial⟩) (fun x => (g23_kr m x).trans (by kernel_rfl))
/-! 36 sparse/transversal.full -/
def g36_H : Hints := { regs := [⟨[], [0, 1]⟩, ⟨[(0, 1)], [1, 5]⟩, ⟨[], [1, 5, 10, 11]⟩, ⟨[], [1, 5, 10, 11, 12]⟩, ⟨[], [1, 5, 6, 10, 11]⟩, ⟨[(1, 1)], [1, 5, 10, 11]⟩, ⟨[(1, 1)], [1, 5, 10, 11]⟩, ⟨[(0, 1)], [4]⟩], heads := [(0, [1, 5, 10, 11])], exits := [(0, [5]), (1, [1, 5, 10, 11])], rets := [4], pins := [], spec := [[true]] }
abbrev g36_A : List Sh := [.a (.c (.int .i64)), .a (.c (.int .i64))]
abbrev g36_S : Sh := .a (.c (.nm 0 (.int .i64)))
abbrev g36_U : List Sh := [.a (.c .dead), .a (.c .dead)]
def g36_R (m : Nat) : ShLVal g36_A → Option (g36_S.Val × ShLVal g36_U) := fun (x : Int × Int × Unit) => g36 m x.1 x.2.1
def g36_T (m : Nat) : FunT := ⟨36, g36_A, g36_S, g36_U, g36_R m⟩
noncomputable def g36_C : Code := codeOf Tryz.f36
noncomputable def g36_B0 : Code := loopAt g36_C 0 0
theorem g36_B0_ls : loopsL g36_B0 0 = [] := by kernel_rfl
theorem g36_C_ls : loopsL g36_C 0 = [(0, g36_B0)] := by kernel_rfl
abbrev g36_L0_I : SS := [(1, .a (.c (.int .i64))), (5, .a (.c (.nm 0 (.int .i64)))), (10, .a (.c (.int .i64))), (11, .a (.c (.int .i64)))]
abbrev g36_L0_O : List (Ex × SS) := [(.exit 0, [(5, .a (.c (.nm 0 (.int .i64))))])]
def g36_L0_R (m n : Nat) : g36_L0_I.Val → Option (outVal g36_L0_O) := (fun (x : Int × List Int × Int × Int × Unit) => g36_L0 m n x.1 x.2.1 x.2.2.1 x.2.2.2.1)
def g36_L0_T (m n : Nat) : LoopT := ⟨0, g36_L0_I, g36_L0_O, g36_L0_R m n⟩
theorem g36_L0_kr (m n : Nat) (x : g36_L0_I.Val) : roundK (mkC (outVal g36_L0_O) []) (mkLp (outVal g36_L0_O) []) tt 20 g36_H g36_B0 0 (g36_L0_I.enc x) (Kl (ins := g36_L0_I) (outs := g36_L0_O) (g36_L0_R m n)) = g36_L0 m (n + 1) x.1 x.2.1 x.2.2.1 x.2.2.2.1 := by kernel_rfl
theorem g36_L0_ok {E : Entry} (hE : EOf Tryz.prog E 20 g36_H.pins) (m : Nat) (n : Nat) : LoopOK Tryz.prog E g36_B0 (g36_L0_T m n) :=
  loop_ok (CO := CallOK Tryz.prog) hmix htt (fun _ _ _ _ h => h) hE (C := fun R => mkC R []) (L := []) (fun _ _ _ _ _ h => mkC_spec (AllF.mem (l := []) trivial) h) (fun _ _ => loopsIn_of g36_B0_ls trivial) (fun n => (g36_L0_R m n)) (fun _ => by kernel_rfl) (fun n x => (g36_L0_kr m n x).trans (by kernel_rfl)) n
theorem g36_kr (m : Nat) (x : ShLVal g36_A) : fnK (mkC (g36_S.Val × ShLVal g36_U) []) (mkLp (g36_S.Val × ShLVal g36_U) [g36_L0_T m m]) tt g36_H Tryz.f36 (encS g36_A x) (Kd g36_S g36_U) = g36 m x.1 x.2.1 := by kernel_rfl
theorem g36_ok (m : Nat) : FunOK Tryz.prog (g36_T m) :=
  fun_ok hmix htt (g36_T m) Tryz.func36 (c := g36_C) (by kernel_rfl) (by kernel_rfl) (Lc := []) (AllF.mem (l := []) trivial) (L := [g36_L0_T m m]) (fun _ hE _ _ => loopsIn_of g36_C_ls ⟨mkLp_all ⟨fun _ => g36_L0_ok hE m m, trivial⟩, trivial⟩) (fun x => (g36_kr m x).trans (by kernel_rfl))
/-! 60 __sparse/transversal.hungarian_.change -/
def g60_H : Hints := { regs := [⟨[(4, 1)], [0, 2, 3, 4]⟩, ⟨[(0, 1)], [0, 2, 4, 23, 24, 25]⟩, ⟨[], [0, 2, 4, 23, 24, 25, 26]⟩, ⟨[], [0, 2, 4, 10, 11, 23, 24, 25]⟩, ⟨[(0, 1)], [0, 2, 4, 10, 23, 24, 25, 30]⟩, ⟨[], [0, 2, 4, 10, 23, 24, 25]⟩, ⟨[], [0, 2, 4, 10, 12, 23, 24, 25]⟩, ⟨[], [0, 2, 4, 10, 12, 23, 24, 25, 54]⟩, ⟨[(4, 1), (9, 1)], [0, 2, 4, 23, 24, 25]⟩, ⟨[(1, 1)], [0, 2, 4, 23, 24, 25]⟩], heads := [(0, [0, 2, 4, 23, 24, 25])], exits := [(0, [0]), (1, [0, 2, 4, 23, 24, 25])], rets := [0], pins := [0], spec := [] }
abbrev g60_A : List Sh := [.a (.bx 0 [(.imm (.sl false (.pr (.int .i64) (.int .i64)))), (.nm 1 (.int .i64)), (.nm 2 (.int .i64)), (.nm 3 (.int .i64)), (.nm 4 (.int .i64))]), .a (.c (.int .i64)), .a (.c (.imm (.int .i64))), .a (.c (.imm .bool)), .a (.c (.int .i64))]
abbrev g60_S : Sh := .tup []
abbrev g60_U : List Sh := [.a (.bx 0 [(.imm (.sl false (.pr (.int .i64) (.int .i64)))), (.nm 1 (.int .i64)), (.nm 2 (.int .i64)), (.nm 3 (.int .i64)), (.nm 4 (.int .i64))]), .a (.c .dead), .a (.c .dead), .a (.c .dead), .a (.c .dead)]
def g60_R (m : Nat) : ShLVal g60_A → Option (g60_S.Val × ShLVal g60_U) := fun (x : ((List (List (Int × Int))) × List Int × List Int × List Int × List Int × Unit) × Int × List Int × List Bool × Int × Unit) => g60 m x.1.1 x.1.2.1 x.1.2.2.1 x.1.2.2.2.1 x.1.2.2.2.2.1 x.2.1 x.2.2.1 x.2.2.2.1 x.2.2.2.2.1
def g60_T (m : Nat) : FunT := ⟨60, g60_A, g60_S, g60_U, g60_R m⟩
noncomputable def g60_C : Code := codeOf Tryz.f60
noncomputable def g60_B0 : Code := loopAt g60_C 0 0
theorem g60_B0_ls : loopsL g60_B0 0 = [] := by kernel_rfl
theorem g60_C_ls : loopsL g60_C 0 = [(0, g60_B0)] := by kernel_rfl
abbrev g60_L0_I : SS := [(0, .a (.bx 0 [(.imm (.sl false (.pr (.int .i64) (.int .i64)))), (.nm 1 (.int .i64)), (.nm 2 (.int .i64)), (.nm 3 (.int .i64)), (.nm 4 (.int .i64))])), (2, .a (.c (.imm (.int .i64)))), (4, .a (.c (.int .i64))), (23, .a (.c (.imm .bool))), (24, .a (.c (.int .i64))), (25, .a (.c (.int .i64)))]
abbrev g60_L0_O : List (Ex × SS) := [(.exit 0, [(0, .a (.bx 0 [(.imm (.sl false (.pr (.int .i64) (.int .i64)))), (.nm 1 (.int .i64)), (.nm 2 (.int .i64)), (.nm 3 (.int .i64)), (.nm 4 (.int .i64))]))])]
def g60_L0_R (m n : Nat) : g60_L0_I.Val → Option (outVal g60_L0_O) := (fun (x : ((List (List (Int × Int))) × List Int × List Int × List Int × List Int × Unit) × List Int × Int × List Bool × Int × Int × Unit) => g60_L0 m n x.1.1 x.1.2.1 x.1.2.2.1 x.1.2.2.2.1 x.1.2.2.2.2.1 x.2.1 x.2.2.1 x.2.2.2.1 x.2.2.2.2.1 x.2.2.2.2.2.1)
def g60_L0_T (m n : Nat) : LoopT := ⟨0, g60_L0_I, g60_L0_O, g60_L0_R m n⟩
theorem g60_L0_kr (m n : Nat) (x : g60_L0_I.Val) : roundK (mkC (outVal g60_L0_O) []) (mkLp (outVal g60_L0_O) []) tt 71 g60_H g60_B0 0 (g60_L0_I.enc x) (Kl (ins := g60_L0_I) (outs := g60_L0_O) (g60_L0_R m n)) = g60_L0 m (n + 1) x.1.1 x.1.2.1 x.1.2.2.1 x.1.2.2.2.1 x.1.2.2.2.2.1 x.2.1 x.2.2.1 x.2.2.2.1 x.2.2.2.2.1 x.2.2.2.2.2.1 := by kernel_rfl
theorem g60_L0_ok {E : Entry} (hE : EOf Tryz.prog E 71 g60_H.pins) (m : Nat) (n : Nat) : LoopOK Tryz.prog E g60_B0 (g60_L0_T m n) :=
  loop_ok (CO := CallOK Tryz.prog) hmix htt (fun _ _ _ _ h => h) hE (C := fun R => mkC R []) (L := []) (fun _ _ _ _ _ h => mkC_spec (AllF.mem (l := []) trivial) h) (fun _ _ => loopsIn_of g60_B0_ls trivial) (fun n => (g60_L0_R m n)) (fun _ => by kernel_rfl) (fun n x => (g60_L0_kr m n x).trans (by kernel_rfl)) n
theorem g60_kr (m : Nat) (x : ShLVal g60_A) : fnK (mkC (g60_S.Val × ShLVal g60_U) []) (mkLp (g60_S.Val × ShLVal g60_U) [g60_L0_T m m]) tt g60_H Tryz.f60 (encS g60_A x) (Kd g60_S g60_U) = g60 m x.1.1 x.1.2.1 x.1.2.2.1 x.1.2.2.2.1 x.1.2.2.2.2.1 x.2.1 x.2.2.1 x.2.2.2.1 x.2.2.2.2.1 := by kernel_rfl
theorem g60_ok (m : Nat) : FunOK Tryz.prog (g60_T m) :=
  fun_ok hmix htt (g60_T m) Tryz.func60 (c := g60_C) (by kernel_rfl) (by kernel_rfl) (Lc := []) (AllF.mem (l := []) trivial) (L := [g60_L0_T m m]) (fun _ hE _ _ => loopsIn_of g60_C_ls ⟨mkLp_all ⟨fun _ => g60_L0_ok hE m m, trivial⟩, trivial⟩) (fun x => (g60_kr m x).trans (by kernel_rfl))
/-! 61 __sparse/transversal.hungarian_.turn -/
def g61_H : Hints := { regs := [⟨[], [0, 1, 2, 3, 8]⟩, ⟨[], [0, 1, 2, 3, 8, 9]⟩, ⟨[], [0, 1, 3, 8, 9]⟩, ⟨[(0, 1)], [0, 1, 3, 9, 37]⟩, ⟨[(0, 1)], [0, 1, 2, 3]⟩], heads := [(0, [0, 1, 2, 3])], exits := [(0, [0]), (1, [0, 1, 2, 3])], rets := [0], pins := [0], spec := [] }
abbrev g61_A : List Sh := [.a (.bx 0 [(.imm (.sl false (.pr (.int .i64) (.int .i64)))), (.nm 1 (.int .i64)), (.nm 2 (.int .i64)), (.nm 3 (.int .i64)), (.nm 4 (.int .i64))]), .a (.c (.int .i64)), .a (.c (.int .i64)), .a (.c (.imm (.int .i64)))]
abbrev g61_S : Sh := .tup []
abbrev g61_U : List Sh := [.a (.bx 0 [(.imm (.sl false (.pr (.int .i64) (.int .i64)))), (.nm 1 (.int .i64)), (.nm 2 (.int .i64)), (.nm 3 (.int .i64)), (.nm 4 (.int .i64))]), .a (.c .dead), .a (.c .dead), .a (.c .dead)]
def g61_R (m : Nat) : ShLVal g61_A → Option (g61_S.Val × ShLVal g61_U) := fun (x : ((List (List (Int × Int))) × List Int × List Int × List Int × List Int × Unit) × Int × Int × List Int × Unit) => g61 m x.1.1 x.1.2.1 x.1.2.2.1 x.1.2.2.2.1 x.1.2.2.2.2.1 x.2.1 x.2.2.1 x.2.2.2.1
def g61_T (m : Nat) : FunT := ⟨61, g61_A, g61_S, g61_U, g61_R m⟩
noncomputable def g61_C : Code := codeOf Tryz.f61
noncomputable def g61_B0 : Code := loopAt g61_C 0 0
theorem g61_B0_ls : loopsL g61_B0 0 = [] := by kernel_rfl
theorem g61_C_ls : loopsL g61_C 0 = [(0, g61_B0)] := by kernel_rfl
abbrev g61_L0_I : SS := [(0, .a (.bx 0 [(.imm (.sl false (.pr (.int .i64) (.int .i64)))), (.nm 1 (.int .i64)), (.nm 2 (.int .i64)), (.nm 3 (.int .i64)), (.nm 4 (.int .i64))])), (1, .a (.c (.int .i64))), (2, .a (.c (.int .i64))), (3, .a (.c (.imm (.int .i64))))]
abbrev g61_L0_O : List (Ex × SS) := [(.ret, [(0, .a (.bx 0 [(.imm (.sl false (.pr (.int .i64) (.int .i64)))), (.nm 1 (.int .i64)), (.nm 2 (.int .i64)), (.nm 3 (.int .i64)), (.nm 4 (.int .i64))]))])]
def g61_L0_R (m n : Nat) : g61_L0_I.Val → Option (outVal g61_L0_O) := (fun (x : ((List (List (Int × Int))) × List Int × List Int × List Int × List Int × Unit) × Int × Int × List Int × Unit) => g61_L0 m n x.1.1 x.1.2.1 x.1.2.2.1 x.1.2.2.2.1 x.1.2.2.2.2.1 x.2.1 x.2.2.1 x.2.2.2.1)
def g61_L0_T (m n : Nat) : LoopT := ⟨0, g61_L0_I, g61_L0_O, g61_L0_R m n⟩
theorem g61_L0_kr (m n : Nat) (x : g61_L0_I.Val) : roundK (mkC (outVal g61_L0_O) []) (mkLp (outVal g61_L0_O) []) tt 39 g61_H g61_B0 0 (g61_L0_I.enc x) (Kl (ins := g61_L0_I) (outs := g61_L0_O) (g61_L0_R m n)) = g61_L0 m (n + 1) x.1.1 x.1.2.1 x.1.2.2.1 x.1.2.2.2.1 x.1.2.2.2.2.1 x.2.1 x.2.2.1 x.2.2.2.1 := by kernel_rfl
theorem g61_L0_ok {E : Entry} (hE : EOf Tryz.prog E 39 g61_H.pins) (m : Nat) (n : Nat) : LoopOK Tryz.prog E g61_B0 (g61_L0_T m n) :=
  loop_ok (CO := CallOK Tryz.prog) hmix htt (fun _ _ _ _ h => h) hE (C := fun R => mkC R []) (L := []) (fun _ _ _ _ _ h => mkC_spec (AllF.mem (l := []) trivial) h) (fun _ _ => loopsIn_of g61_B0_ls trivial) (fun n => (g61_L0_R m n)) (fun _ => by kernel_rfl) (fun n x => (g61_L0_kr m n x).trans (by kernel_rfl)) n
theorem g61_kr (m : Nat) (x : ShLVal g61_A) : fnK (mkC (g61_S.Val × ShLVal g61_U) []) (mkLp (g61_S.Val × ShLVal g61_U) [g61_L0_T m m]) tt g61_H Tryz.f61 (encS g61_A x) (Kd g61_S g61_U) = g61 m x.1.1 x.1.2.1 x.1.2.2.1 x.1.2.2.2.1 x.1.2.2.2.2.1 x.2.1 x.2.2.1 x.2.2.2.1 := by kernel_rfl
theorem g61_ok (m : Nat) : FunOK Tryz.prog (g61_T m) :=
  fun_ok hmix htt (g61_T m) Tryz.func61 (c := g61_C) (by kernel_rfl) (by kernel_rfl) (Lc := []) (AllF.mem (l := []) trivial) (L := [g61_L0_T m m]) (fun _ hE _ _ => loopsIn_of g61_C_ls ⟨mkLp_all ⟨fun _ => g61_L0_ok hE m m, trivial⟩, trivial⟩) (fun x => (g61_kr m x).trans (by kernel_rfl))
/-! 37 __sparse/transversal.hungarian_.add -/
def g37_H : Hints := { regs := [⟨[], [0, 1]⟩, ⟨[], [0, 1, 5]⟩, ⟨[], [0, 1, 5, 6, 7]⟩, ⟨[], [0, 1, 5, 6, 7, 8]⟩, ⟨[], [0, 1, 5, 6, 7, 8, 9, 10]⟩, ⟨[], [0, 1, 5, 6, 7, 8, 9, 10, 34, 35, 36]⟩, ⟨[], [0, 1, 5, 6, 7, 8, 9, 10, 34, 35, 36, 37]⟩, ⟨[], [0, 1, 5, 6, 7, 8, 9, 10, 12, 34, 35, 36]⟩, ⟨[], [0, 1, 5, 6, 7, 8, 9, 10, 12, 13, 34, 35, 36]⟩, ⟨[(6, 1)], [0, 1, 5, 6, 7, 8, 9, 10, 12, 13, 34, 35, 36, 75]⟩, ⟨[(6, 1)], [0, 1, 5, 6, 7, 8, 9, 10, 34, 35, 36]⟩, ⟨[(1, 1)], [0, 1, 5, 6, 7, 8, 9, 10, 34, 35, 36]⟩, ⟨[], [0, 1, 5, 6, 7, 8, 14]⟩, ⟨[], [0, 1, 5, 6, 7, 8, 14, 87, 88]⟩, ⟨[], [0, 1, 5, 6, 7, 8, 14, 87, 88, 89]⟩, ⟨[], [0, 1, 5, 6, 7, 8, 14, 15, 87, 88]⟩, ⟨[(5, 1), (12, 1), (15, 1)], [0, 1, 5, 6, 7, 8, 14, 15, 87, 88, 117]⟩, ⟨[(0, 1)], [0, 1, 5, 6, 7, 8, 14, 87, 88]⟩, ⟨[(1, 1)], [0, 1, 5, 6, 7, 8, 14, 87, 88]⟩, ⟨[], [0, 1, 5, 6, 7, 8, 14, 121]⟩, ⟨[], [0, 4]⟩, ⟨[], [0, 1, 5, 6, 7, 8, 10, 14]⟩, ⟨[], [0, 1, 5, 6, 7, 8, 10, 14, 136]⟩, ⟨[(2, 1), (3, 1), (4, 1)], [0, 1, 7, 14]⟩, ⟨[(1, 1), (2, 1), (3, 1)], [0]⟩, ⟨[], [0, 4]⟩, ⟨[(4, 1)], [0, 1, 5, 6, 7, 8, 9, 10]⟩], heads := [(0, [0, 1, 5, 6, 7, 8, 9, 10]), (2, [0, 1, 5, 6, 7, 8, 9, 10, 34, 35, 36]), (4, [0, 1, 5, 6, 7, 8, 14, 87, 88])], exits := [(0, [0, 4]), (1, [0, 1, 5, 6, 7, 8, 9, 10]), (2, [0, 1, 5, 6, 7, 8]), (3, [0, 1, 5, 6, 7, 8, 9, 10, 34, 35, 36]), (4, [0, 1, 5, 6, 7, 8, 14]), (5, [0, 1, 5, 6, 7, 8, 14, 87, 88])], rets := [0, 4], pins := [0], spec := [[false]] }
abbrev g37_A : List Sh := [.a (.bx 0 [(.imm (.sl false (.pr (.int .i64) (.int .i64)))), (.nm 1 (.int .i64)), (.nm 2 (.int .i64)), (.nm 3 (.int .i64)), (.nm 4 (.int .i64))]), .a (.c (.int .i64))]
abbrev g37_S : Sh := .a (.c .bool)
abbrev g37_U : List Sh := [.a (.bx 0 [(.imm (.sl false (.pr (.int .i64) (.int .i64)))), (.nm 1 (.int .i64)), (.nm 2 (.int .i64)), (.nm 3 (.int .i64)), (.nm 4 (.int .i64))]), .a (.c .dead)]
def g37_R (m : Nat) : ShLVal g37_A → Option (g37_S.Val × ShLVal g37_U) := fun (x : ((List (List (Int × Int))) × List Int × List Int × List Int × List Int × Unit) × Int × Unit) => g37 m x.1.1 x.1.2.1 x.1.2.2.1 x.1.2.2.2.1 x.1.2.2.2.2.1 x.2.1
def g37_T (m : Nat) : FunT := ⟨37, g37_A, g37_S, g37_U, g37_R m⟩
noncomputable def g37_C : Code := codeOf Tryz.f37
noncomputable def g37_B0 : Code := loopAt g37_C 0 0
noncomputable def g37_B2 : Code := loopAt g37_B0 0 0
theorem g37_B2_ls : loopsL g37_B2 2 = [] := by kernel_rfl
noncomputable def g37_B4 : Code := loopAt g37_B0 0 1
theorem g37_B4_ls : loopsL g37_B4 4 = [] := by kernel_rfl
theorem g37_B0_ls : loopsL g37_B0 0 = [(2, g37_B2), (4, g37_B4)] := by kernel_rfl
theorem g37_C_ls : loopsL g37_C 0 = [(0, g37_B0)] := by kernel_rfl
abbrev g37_L2_I : SS := [(0, .a (.bx 0 [(.imm (.sl false (.pr (.int .i64) (.int .i64)))), (.nm 1 (.int .i64)), (.nm 2 (.int .i64)), (.nm 3 (.int .i64)), (.nm 4 (.int .i64))])), (1, .a (.c (.int .i64))), (5, .a (.c (.int .i64))), (6, .a (.c (.nm 5 (.int .i64)))), (7, .a (.c (.nm 6 (.int .i64)))), (8, .a (.c (.nm 7 .bool))), (14, .a (.c (.int .i64))), (87, .a (.c (.int .i64))), (88, .a (.c (.int .i64)))]
abbrev g37_L2_O : List (Ex × SS) := [(.exit 4, [(0, .a (.bx 0 [(.imm (.sl false (.pr (.int .i64) (.int .i64)))), (.nm 1 (.int .i64)), (.nm 2 (.int .i64)), (.nm 3 (.int .i64)), (.nm 4 (.int .i64))])), (1, .a (.c (.int .i64))), (5, .a (.c (.int .i64))), (6, .a (.c (.nm 5 (.int .i64)))), (7, .a (.c (.nm 6 (.int .i64)))), (8, .a (.c (.nm 7 .bool))), (14, .a (.c (.int .i64)))])]
def g37_L2_R (m n : Nat) : g37_L2_I.Val → Option (outVal g37_L2_O) := (fun (x : ((List (List (Int × Int))) × List Int × List Int × List Int × List Int × Unit) × Int × Int × List Int × List Int × List Bool × Int × Int × Int × Unit) => g37_L2 m n x.1.1 x.1.2.1 x.1.2.2.1 x.1.2.2.2.1 x.1.2.2.2.2.1 x.2.1 x.2.2.1 x.2.2.2.1 x.2.2.2.2.1 x.2.2.2.2.2.1 x.2.2.2.2.2.2.1 x.2.2.2.2.2.2.2.1 x.2.2.2.2.2.2.2.2.1)
def g37_L2_T (m n : Nat) : LoopT := ⟨4, g37_L2_I, g37_L2_O, g37_L2_R m n⟩
theorem g37_L2_kr (m n : Nat) (x : g37_L2_I.Val) : roundK (mkC (outVal g37_L2_O) [g36_T m, g60_T m, g61_T m]) (mkLp (outVal g37_L2_O) []) tt 155 g37_H g37_B4 4 (g37_L2_I.enc x) (Kl (ins := g37_L2_I) (outs := g37_L2_O) (g37_L2_R m n)) = g37_L2 m (n + 1) x.1.1 x.1.2.1 x.1.2.2.1 x.1.2.2.2.1 x.1.2.2.2.2.1 x.2.1 x.2.2.1 x.2.2.2.1 x.2.2.2.2.1 x.2.2.2.2.2.1 x.2.2.2.2.2.2.1 x.2.2.2.2.2.2.2.1 x.2.2.2.2.2.2.2.2.1 := by kernel_rfl
theorem g37_L2_ok {E : Entry} (hE : EOf Tryz.prog E 155 g37_H.pins) (m : Nat) (n : Nat) : LoopOK Tryz.prog E g37_B4 (g37_L2_T m n) :=
  loop_ok (CO := CallOK Tryz.prog) hmix htt (fun _ _ _ _ h => h) hE (C := fun R => mkC R [g36_T m, g60_T m, g61_T m]) (L := []) (fun _ _ _ _ _ h => mkC_spec (AllF.mem (l := [g36_T m, g60_T m, g61_T m]) ⟨g36_ok m, g60_ok m, g61_ok m, trivial⟩) h) (fun _ _ => loopsIn_of g37_B4_ls trivial) (fun n => (g37_L2_R m n)) (fun _ => by kernel_rfl) (fun n x => (g37_L2_kr m n x).trans (by kernel_rfl)) n
abbrev g37_L1_I : SS := [(0, .a (.bx 0 [(.imm (.sl false (.pr (.int .i64) (.int .i64)))), (.nm 1 (.int .i64)), (.nm 2 (.int .i64)), (.nm 3 (.int .i64)), (.nm 4 (.int .i64))])), (1, .a (.c (.int .i64))), (5, .a (.c (.int .i64))), (6, .a (.c (.nm 5 (.int .i64)))), (7, .a (.c (.nm 6 (.int .i64)))), (8, .a (.c (.nm 7 .bool))), (9, .a (.c (.int .i64))), (10, .a (.c (.int .i64))), (34, .a (.c (.imm (.pr (.int .i64) (.int .i64))))), (35, .a (.c (.int .i64))), (36, .a (.c (.int .i64)))]
abbrev g37_L1_O : List (Ex × SS) := [(.exit 2, [(0, .a (.bx 0 [(.imm (.sl false (.pr (.int .i64) (.int .i64)))), (.nm 1 (.int .i64)), (.nm 2 (.int .i64)), (.nm 3 (.int .i64)), (.nm 4 (.int .i64))])), (1, .a (.c (.int .i64))), (5, .a (.c (.int .i64))), (6, .a (.c (.nm 5 (.int .i64)))), (7, .a (.c (.nm 6 (.int .i64)))), (8, .a (.c (.nm 7 .bool)))])]
def g37_L1_R (m n : Nat) : g37_L1_I.Val → Option (outVal g37_L1_O) := (fun (x : ((List (List (Int × Int))) × List Int × List Int × List Int × List Int × Unit) × Int × Int × List Int × List Int × List Bool × Int × Int × (List (Int × Int)) × Int × Int × Unit) => g37_L1 m n x.1.1 x.1.2.1 x.1.2.2.1 x.1.2.2.2.1 x.1.2.2.2.2.1 x.2.1 x.2.2.1 x.2.2.2.1 x.2.2.2.2.1 x.2.2.2.2.2.1 x.2.2.2.2.2.2.1 x.2.2.2.2.2.2.2.1 x.2.2.2.2.2.2.2.2.1 x.2.2.2.2.2.2.2.2.2.1 x.2.2.2.2.2.2.2.2.2.2.1)
def g37_L1_T (m n : Nat) : LoopT := ⟨2, g37_L1_I, g37_L1_O, g37_L1_R m n⟩
theorem g37_L1_kr (m n : Nat) (x : g37_L1_I.Val) : roundK (mkC (outVal g37_L1_O) [g36_T m, g60_T m, g61_T m]) (mkLp (outVal g37_L1_O) []) tt 155 g37_H g37_B2 2 (g37_L1_I.enc x) (Kl (ins := g37_L1_I) (outs := g37_L1_O) (g37_L1_R m n)) = g37_L1 m (n + 1) x.1.1 x.1.2.1 x.1.2.2.1 x.1.2.2.2.1 x.1.2.2.2.2.1 x.2.1 x.2.2.1 x.2.2.2.1 x.2.2.2.2.1 x.2.2.2.2.2.1 x.2.2.2.2.2.2.1 x.2.2.2.2.2.2.2.1 x.2.2.2.2.2.2.2.2.1 x.2.2.2.2.2.2.2.2.2.1 x.2.2.2.2.2.2.2.2.2.2.1 := by kernel_rfl
theorem g37_L1_ok {E : Entry} (hE : EOf Tryz.prog E 155 g37_H.pins) (m : Nat) (n : Nat) : LoopOK Tryz.prog E g37_B2 (g37_L1_T m n) :=
  loop_ok (CO := CallOK Tryz.prog) hmix htt (fun _ _ _ _ h => h) hE (C := fun R => mkC R [g36_T m, g60_T m, g61_T m]) (L := []) (fun _ _ _ _ _ h => mkC_spec (AllF.mem (l := [g36_T m, g60_T m, g61_T m]) ⟨g36_ok m, g60_ok m, g61_ok m, trivial⟩) h) (fun _ _ => loopsIn_of g37_B2_ls trivial) (fun n => (g37_L1_R m n)) (fun _ => by kernel_rfl) (fun n x => (g37_L1_kr m n x).trans (by kernel_rfl)) n
abbrev g37_L0_I : SS := [(0, .a (.bx 0 [(.imm (.sl false (.pr (.int .i64) (.int .i64)))), (.nm 1 (.int .i64)), (.nm 2 (.int .i64)), (.nm 3 (.int .i64)), (.nm 4 (.int .i64))])), (1, .a (.c (.int .i64))), (5, .a (.c (.int .i64))), (6, .a (.c (.nm 5 (.int .i64)))), (7, .a (.c (.nm 6 (.int .i64)))), (8, .a (.c (.nm 7 .bool))), (9, .a (.c (.int .i64))), (10, .a (.c (.int .i64)))]
abbrev g37_L0_O : List (Ex × SS) := [(.ret, [(0, .a (.bx 0 [(.imm (.sl false (.pr (.int .i64) (.int .i64)))), (.nm 1 (.int .i64)), (.nm 2 (.int .i64)), (.nm 3 (.int .i64)), (.nm 4 (.int .i64))])), (4, .a (.c .bool))])]
def g37_L0_R (m n : Nat) : g37_L0_I.Val → Option (outVal g37_L0_O) := (fun (x : ((List (List (Int × Int))) × List Int × List Int × List Int × List Int × Unit) × Int × Int × List Int × List Int × List Bool × Int × Int × Unit) => g37_L0 m n x.1.1 x.1.2.1 x.1.2.2.1 x.1.2.2.2.1 x.1.2.2.2.2.1 x.2.1 x.2.2.1 x.2.2.2.1 x.2.2.2.2.1 x.2.2.2.2.2.1 x.2.2.2.2.2.2.1 x.2.2.2.2.2.2.2.1)
def g37_L0_T (m n : Nat) : LoopT := ⟨0, g37_L0_I, g37_L0_O, g37_L0_R m n⟩
theorem g37_L0_kr (m n : Nat) (x : g37_L0_I.Val) : roundK (mkC (outVal g37_L0_O) [g36_T m, g60_T m, g61_T m]) (mkLp (outVal g37_L0_O) [g37_L1_T m m, g37_L2_T m m]) tt 155 g37_H g37_B0 0 (g37_L0_I.enc x) (Kl (ins := g37_L0_I) (outs := g37_L0_O) (g37_L0_R m n)) = g37_L0 m (n + 1) x.1.1 x.1.2.1 x.1.2.2.1 x.1.2.2.2.1 x.1.2.2.2.2.1 x.2.1 x.2.2.1 x.2.2.2.1 x.2.2.2.2.1 x.2.2.2.2.2.1 x.2.2.2.2.2.2.1 x.2.2.2.2.2.2.2.1 := by kernel_rfl
theorem g37_L0_ok {E : Entry} (hE : EOf Tryz.prog E 155 g37_H.pins) (m : Nat) (n : Nat) : LoopOK Tryz.prog E g37_B0 (g37_L0_T m n) :=
  loop_ok (CO := CallOK Tryz.prog) hmix htt (fun _ _ _ _ h => h) hE (C := fun R => mkC R [g36_T m, g60_T m, g61_T m]) (L := [g37_L1_T m m, g37_L2_T m m]) (fun _ _ _ _ _ h => mkC_spec (AllF.mem (l := [g36_T m, g60_T m, g61_T m]) ⟨g36_ok m, g60_ok m, g61_ok m, trivial⟩) h) (fun _ _ => loopsIn_of g37_B0_ls ⟨mkLp_all ⟨fun _ => g37_L1_ok hE m m, fun h => absurd (show (4 : Nat) = 2 from h) (by decide), trivial⟩, mkLp_all ⟨fun h => absurd (show (2 : Nat) = 4 from h) (by decide), fun _ => g37_L2_ok hE m m, trivial⟩, trivial⟩) (fun n => (g37_L0_R m n)) (fun _ => by kernel_rfl) (fun n x => (g37_L0_kr m n x).trans (by kernel_rfl)) n
theorem g37_kr (m : Nat) (x : ShLVal g37_A) : fnK (mkC (g37_S.Val × ShLVal g37_U) [g36_T m, g60_T m, g61_T m]) (mkLp (g37_S.Val × ShLVal g37_U) [g37_L0_T m m]) tt g37_H Tryz.f37 (encS g37_A x) (Kd g37_S g37_U) = g37 m x.1.1 x.1.2.1 x.1.2.2.1 x.1.2.2.2.1 x.1.2.2.2.2.1 x.2.1 := by kernel_rfl
theorem g37_ok (m : Nat) : FunOK Tryz.prog (g37_T m) :=
  fun_ok hmix htt (g37_T m) Tryz.func37 (c := g37_C) (by kernel_rfl) (by kernel_rfl) (Lc := [g36_T m, g60_T m, g61_T m]) (AllF.mem (l := [g36_T m, g60_T m, g61_T m]) ⟨g36_ok m, g60_ok m, g61_ok m, trivial⟩) (L := [g37_L0_T m m]) (fun _ hE _ _ => loopsIn_of g37_C_ls ⟨mkLp_all ⟨fun _ => g37_L0_ok hE m m, trivial⟩, trivial⟩) (fun x => (g37_kr m x).trans (by kernel_rfl))
/-! 22 sparse/transversal.best -/
def g22_H : Hints := { regs := [⟨[], [0]⟩, ⟨[], [0, 4]⟩, ⟨[], [0, 4, 5]⟩, ⟨[(0, 1)], [4, 5, 24, 25, 26]⟩, ⟨[], [4, 5, 24, 25, 26, 27]⟩, ⟨[], [4, 5, 6, 7, 24, 25, 26]⟩, ⟨[], [4, 5, 6, 7, 24, 25, 26, 33]⟩, ⟨[], [2, 3]⟩, ⟨[], [4, 5, 6, 7, 24, 25, 26]⟩, ⟨[(0, 1)], [4, 5, 6, 24, 25, 26, 44, 45, 46]⟩, ⟨[], [4, 5, 6, 24, 25, 26, 44, 45, 46, 47]⟩, ⟨[], [4, 5, 6, 9, 24, 25, 26, 44, 45, 46]⟩, ⟨[], [4, 5, 6, 24, 25, 26, 44, 45, 46]⟩, ⟨[(1, 1)], [4, 5, 6, 24, 25, 26, 44, 45, 46]⟩, ⟨[(1, 1)], [4, 5, 24, 25, 26]⟩, ⟨[(0, 1)], [5, 68, 69]⟩, ⟨[], [5, 68, 69, 70]⟩, ⟨[], [5, 10, 68, 69]⟩, ⟨[(1, 1)], [5, 68, 69, 75]⟩, ⟨[], [2, 3]⟩, ⟨[(1, 1)], [5, 68, 69]⟩, ⟨[(0, 1)], [2, 3]⟩], heads := [(0, [4, 5, 24, 25, 26]), (2, [4, 5, 6, 24, 25, 26, 44, 45, 46]), (4, [5, 68, 69])], exits := [(0, [4, 5]), (1, [4, 5, 24, 25, 26]), (2, [4, 5, 24, 25, 26]), (3, [4, 5, 6, 24, 25, 26, 44, 45, 46]), (4, [5]), (5, [5, 68, 69])], rets := [2, 3], pins := [], spec := [[false, true, true, true, true], [false]] }
abbrev g22_A : List Sh := [.a (.c (.imm (.sl false (.pr (.int .i64) (.int .i64)))))]
abbrev g22_S : Sh := .altT [(.c .nilp), (.c (.bconst false))] [(.bx 0 [(.imm (.sl false (.pr (.int .i64) (.int .i64)))), (.nm 1 (.int .i64)), (.nm 2 (.int .i64)), (.nm 3 (.int .i64)), (.nm 4 (.int .i64))]), (.c (.bconst true))]
abbrev g22_U : List Sh := [.a (.c .dead)]
def g22_R (m : Nat) : ShLVal g22_A → Option (g22_S.Val × ShLVal g22_U) := fun (x : (List (List (Int × Int))) × Unit) => g22 m x.1
def g22_T (m : Nat) : FunT := ⟨22, g22_A, g22_S, g22_U, g22_R m⟩
noncomputable def g22_C : Code := codeOf Tryz.f22
noncomputable def g22_B0 : Code := loopAt g22_C 0 0
noncomputable def g22_B2 : Code := loopAt g22_B0 0 0
theorem g22_B2_ls : loopsL g22_B2 2 = [] := by kernel_rfl
theorem g22_B0_ls : loopsL g22_B0 0 = [(2, g22_B2)] := by kernel_rfl
noncomputable def g22_B4 : Code := loopAt g22_C 0 1
theorem g22_B4_ls : loopsL g22_B4 4 = [] := by kernel_rfl
theorem g22_C_ls : loopsL g22_C 0 = [(0, g22_B0), (4, g22_B4)] := by kernel_rfl
abbrev g22_L2_I : SS := [(5, .a (.bx 0 [(.imm (.sl false (.pr (.int .i64) (.int .i64)))), (.nm 1 (.int .i64)), (.nm 2 (.int .i64)), (.nm 3 (.int .i64)), (.nm 4 (.int .i64))])), (68, .a (.c (.int .i64))), (69, .a (.c (.int .i64)))]
abbrev g22_L2_O : List (Ex × SS) := [(.ret, [(2, .a (.c .nilp)), (3, .a (.c (.bconst false)))]), (.exit 4, [(5, .a (.bx 0 [(.imm (.sl false (.pr (.int .i64) (.int .i64)))), (.nm 1 (.int .i64)), (.nm 2 (.int .i64)), (.nm 3 (.int .i64)), (.nm 4 (.int .i64))]))])]
def g22_L2_R (m n : Nat) : g22_L2_I.Val → Option (outVal g22_L2_O) := (fun (x : ((List (List (Int × Int))) × List Int × List Int × List Int × List Int × Unit) × Int × Int × Unit) => g22_L2 m n x.1.1 x.1.2.1 x.1.2.2.1 x.1.2.2.2.1 x.1.2.2.2.2.1 x.2.1 x.2.2.1)
def g22_L2_T (m n : Nat) : LoopT := ⟨4, g22_L2_I, g22_L2_O, g22_L2_R m n⟩
theorem g22_L2_kr (m n : Nat) (x : g22_L2_I.Val) : roundK (mkC (outVal g22_L2_O) [g36_T m, g37_T m]) (mkLp (outVal g22_L2_O) []) tt 78 g22_H g22_B4 4 (g22_L2_I.enc x) (Kl (ins := g22_L2_I) (outs := g22_L2_O) (g22_L2_R m n)) = g22_L2 m (n + 1) x.1.1 x.1.2.1 x.1.2.2.1 x.1.2.2.2.1 x.1.2.2.2.2.1 x.2.1 x.2.2.1 := by kernel_rfl
theorem g22_L2_ok {E : Entry} (hE : EOf Tryz.prog E 78 g22_H.pins) (m : Nat) (n : Nat) : LoopOK Tryz.prog E g22_B4 (g22_L2_T m n) :=
  loop_ok (CO := CallOK Tryz.prog) hmix htt (fun _ _ _ _ h => h) hE (C := fun R => mkC R [g36_T m, g37_T m]) (L := []) (fun _ _ _ _ _ h => mkC_spec (AllF.mem (l := [g36_T m, g37_T m]) ⟨g36_ok m, g37_ok m, trivial⟩) h) (fun _ _ => loopsIn_of g22_B4_ls trivial) (fun n => (g22_L2_R m n)) (fun _ => by kernel_rfl) (fun n x => (g22_L2_kr m n x).trans (by kernel_rfl)) n
abbrev g22_L1_I : SS := [(4, .a (.c (.int .i64))), (5, .a (.bx 0 [(.imm (.sl false (.pr (.int .i64) (.int .i64)))), (.nm 1 (.int .i64)), (.nm 2 (.int .i64)), (.nm 3 (.int .i64)), (.nm 4 (.int .i64))])), (6, .a (.c (.int .i64))), (24, .a (.c (.imm (.sl false (.pr (.int .i64) (.int .i64)))))), (25, .a (.c (.int .i64))), (26, .a (.c (.int .i64))), (44, .a (.c (.imm (.pr (.int .i64) (.int .i64))))), (45, .a (.c (.int .i64))), (46, .a (.c (.int .i64)))]
abbrev g22_L1_O : List (Ex × SS) := [(.exit 2, [(4, .a (.c (.int .i64))), (5, .a (.bx 0 [(.imm (.sl false (.pr (.int .i64) (.int .i64)))), (.nm 1 (.int .i64)), (.nm 2 (.int .i64)), (.nm 3 (.int .i64)), (.nm 4 (.int .i64))])), (24, .a (.c (.imm (.sl false (.pr (.int .i64) (.int .i64)))))), (25, .a (.c (.int .i64))), (26, .a (.c (.int .i64)))])]
def g22_L1_R (m n : Nat) : g22_L1_I.Val → Option (outVal g22_L1_O) := (fun (x : Int × ((List (List (Int × Int))) × List Int × List Int × List Int × List Int × Unit) × Int × (List (List (Int × Int))) × Int × Int × (List (Int × Int)) × Int × Int × Unit) => g22_L1 m n x.1 x.2.1.1 x.2.1.2.1 x.2.1.2.2.1 x.2.1.2.2.2.1 x.2.1.2.2.2.2.1 x.2.2.1 x.2.2.2.1 x.2.2.2.2.1 x.2.2.2.2.2.1 x.2.2.2.2.2.2.1 x.2.2.2.2.2.2.2.1 x.2.2.2.2.2.2.2.2.1)
def g22_L1_T (m n : Nat) : LoopT := ⟨2, g22_L1_I, g22_L1_O, g22_L1_R m n⟩
theorem g22_L1_kr (m n : Nat) (x : g22_L1_I.Val) : roundK (mkC (outVal g22_L1_O) [g36_T m, g37_T m]) (mkLp (outVal g22_L1_O) []) tt 78 g22_H g22_B2 2 (g22_L1_I.enc x) (Kl (ins := g22_L1_I) (outs := g22_L1_O) (g22_L1_R m n)) = g22_L1 m (n + 1) x.1 x.2.1.1 x.2.1.2.1 x.2.1.2.2.1 x.2.1.2.2.2.1 x.2.1.2.2.2.2.1 x.2.2.1 x.2.2.2.1 x.2.2.2.2.1 x.2.2.2.2.2.1 x.2.2.2.2.2.2.1 x.2.2.2.2.2.2.2.1 x.2.2.2.2.2.2.2.2.1 := by kernel_rfl
theorem g22_L1_ok {E : Entry} (hE : EOf Tryz.prog E 78 g22_H.pins) (m : Nat) (n : Nat) : LoopOK Tryz.prog E g22_B2 (g22_L1_T m n) :=
  loop_ok (CO := CallOK Tryz.prog) hmix htt (fun _ _ _ _ h => h) hE (C := fun R => mkC R [g36_T m, g37_T m]) (L := []) (fun _ _ _ _ _ h => mkC_spec (AllF.mem (l := [g36_T m, g37_T m]) ⟨g36_ok m, g37_ok m, trivial⟩) h) (fun _ _ => loopsIn_of g22_B2_ls trivial) (fun n => (g22_L1_R m n)) (fun _ => by kernel_rfl) (fun n x => (g22_L1_kr m n x).trans (by kernel_rfl)) n
abbrev g22_L0_I : SS := [(4, .a (.c (.int .i64))), (5, .a (.bx 0 [(.imm (.sl false (.pr (.int .i64) (.int .i64)))), (.nm 1 (.int .i64)), (.nm 2 (.int .i64)), (.nm 3 (.int .i64)), (.nm 4 (.int .i64))])), (24, .a (.c (.imm (.sl false (.pr (.int .i64) (.int .i64)))))), (25, .a (.c (.int .i64))), (26, .a (.c (.int .i64)))]
abbrev g22_L0_O : List (Ex × SS) := [(.ret, [(2, .a (.c .nilp)), (3, .a (.c (.bconst false)))]), (.exit 0, [(4, .a (.c (.int .i64))), (5, .a (.bx 0 [(.imm (.sl false (.pr (.int .i64) (.int .i64)))), (.nm 1 (.int .i64)), (.nm 2 (.int .i64)), (.nm 3 (.int .i64)), (.nm 4 (.int .i64))]))])]
def g22_L0_R (m n : Nat) : g22_L0_I.Val → Option (outVal g22_L0_O) := (fun (x : Int × ((List (List (Int × Int))) × List Int × List Int × List Int × List Int × Unit) × (List (List (Int × Int))) × Int × Int × Unit) => g22_L0 m n x.1 x.2.1.1 x.2.1.2.1 x.2.1.2.2.1 x.2.1.2.2.2.1 x.2.1.2.2.2.2.1 x.2.2.1 x.2.2.2.1 x.2.2.2.2.1)
def g22_L0_T (m n : Nat) : LoopT := ⟨0, g22_L0_I, g22_L0_O, g22_L0_R m n⟩
theorem g22_L0_kr (m n : Nat) (x : g22_L0_I.Val) : roundK (mkC (outVal g22_L0_O) [g36_T m, g37_T m]) (mkLp (outVal g22_L0_O) [g22_L1_T m m]) tt 78 g22_H g22_B0 0 (g22_L0_I.enc x) (Kl (ins := g22_L0_I) (outs := g22_L0_O) (g22_L0_R m n)) = g22_L0 m (n + 1) x.1 x.2.1.1 x.2.1.2.1 x.2.1.2.2.1 x.2.1.2.2.2.1 x.2.1.2.2.2.2.1 x.2.2.1 x.2.2.2.1 x.2.2.2.2.1 := by kernel_rfl
theorem g22_L0_ok {E : Entry} (hE : EOf Tryz.prog E 78 g22_H.pins) (m : Nat) (n : Nat) : LoopOK Tryz.prog E g22_B0 (g22_L0_T m n) :=
  loop_ok (CO := CallOK Tryz.prog) hmix htt (fun _ _ _ _ h => h) hE (C := fun R => mkC R [g36_T m, g37_T m]) (L := [g22_L1_T m m]) (fun _ _ _ _ _ h => mkC_spec (AllF.mem (l := [g36_T m, g37_T m]) ⟨g36_ok m, g37_ok m, trivial⟩) h) (fun _ _ => loopsIn_of g22_B0_ls ⟨mkLp_all ⟨fun _ => g22_L1_ok hE m m, trivial⟩, trivial⟩) (fun n => (g22_L0_R m n)) (fun _ => by kernel_rfl) (fun n x => (g22_L0_kr m n x).trans (by kernel_rfl)) n
theorem g22_kr (m : Nat) (x : ShLVal g22_A) : fnK (mkC (g22_S.Val × ShLVal g22_U) [g36_T m, g37_T m]) (mkLp (g22_S.Val × ShLVal g22_U) [g22_L0_T m m, g22_L2_T m m]) tt g22_H Tryz.f22 (encS g22_A x) (Kd g22_S g22_U) = g22 m x.1 := by kernel_rfl
theorem g22_ok (m : Nat) : FunOK Tryz.prog (g22_T m) :=
  fun_ok hmix htt (g22_T m) Tryz.func22 (c := g22_C) (by kernel_rfl) (by kernel_rfl) (Lc := [g36_T m, g37_T m]) (AllF.mem (l := [g36_T m, g37_T m]) ⟨g36_ok m, g37_ok m, trivial⟩) (L := [g22_L0_T m m, g22_L2_T m m]) (fun _ hE _ _ => loopsIn_of g22_C_ls ⟨mkLp_all ⟨fun _ => g22_L0_ok hE m m, fun h => absurd (show (4 : Nat) = 0 from h) (by decide), trivial⟩, mkLp_all ⟨fun h => absurd (show (0 : Nat) = 4 from h) (by decide), fun _ => g22_L2_ok hE m m, trivial⟩, trivial⟩) (fun x => (g22_kr m x).trans (by kernel_rfl))
/-! 40 __sparse/transversal.hungarian_.move -/
def g40_H : Hints := { regs := [⟨[], [0, 1, 2, 3, 4, 5]⟩, ⟨[], [0, 1, 2, 3, 4, 5, 18, 19, 20]⟩, ⟨[], [0, 1, 2, 3, 4, 5, 18, 19, 20, 21]⟩, ⟨[], [0, 1, 2, 3, 4, 5, 14, 18, 19, 20]⟩, ⟨[], [0, 1, 2, 3, 4, 5, 14, 18, 19, 20, 27]⟩, ⟨[(3, 1)], [0, 1, 2, 3, 4, 5, 14, 18, 19, 20, 41]⟩, ⟨[], [0, 1, 2, 3, 4, 5, 14, 18, 19, 20]⟩, ⟨[(3, 1), (16, 16)], [0, 1, 2, 3, 4, 5, 14, 18, 19, 20, 62]⟩, ⟨[], [0, 5]⟩, ⟨[], [0, 5, 12]⟩, ⟨[(1, 1)], [0, 1, 2, 3, 4, 5, 18, 19, 20]⟩, ⟨[], [0, 5, 12]⟩], heads := [(0, [0, 1, 2, 3, 4, 5, 18, 19, 20])], exits := [(0, [0, 5]), (1, [0, 1, 2, 3, 4, 5, 18, 19, 20])], rets := [0, 5, 12], pins := [0, 5], spec := [[false]] }
abbrev g40_A : List Sh := [.a (.bx 0 [(.imm (.sl false (.pr (.int .i64) (.int .i64)))), (.nm 1 (.int .i64)), (.nm 2 (.int .i64)), (.nm 3 (.int .i64)), (.nm 4 (.int .i64))]), .a (.c (.imm (.sl false (.int .i64)))), .a (.c (.int .i64)), .a (.c (.int .i64)), .a (.c (.int .i64)), .a (.c (.nm 5 .bool))]
abbrev g40_S : Sh := .a (.c .bool)
abbrev g40_U : List Sh := [.a (.bx 0 [(.imm (.sl false (.pr (.int .i64) (.int .i64)))), (.nm 1 (.int .i64)), (.nm 2 (.int .i64)), (.nm 3 (.int .i64)), (.nm 4 (.int .i64))]), .a (.c .dead), .a (.c .dead), .a (.c .dead), .a (.c .dead), .a (.c (.nm 5 .bool))]
def g40_R (m : Nat) : ShLVal g40_A → Option (g40_S.Val × ShLVal g40_U) := fun (x : ((List (List (Int × Int))) × List Int × List Int × List Int × List Int × Unit) × List (List Int) × Int × Int × Int × List Bool × Unit) => g40 m x.1.1 x.1.2.1 x.1.2.2.1 x.1.2.2.2.1 x.1.2.2.2.2.1 x.2.1 x.2.2.1 x.2.2.2.1 x.2.2.2.2.1 x.2.2.2.2.2.1
def g40_T (m : Nat) : FunT := ⟨40, g40_A, g40_S, g40_U, g40_R m⟩
noncomputable def g40_C : Code := codeOf Tryz.f40
noncomputable def g40_B0 : Code := loopAt g40_C 0 0
theorem g40_B0_ls : loopsL g40_B0 0 = [] := by kernel_rfl
theorem g40_C_ls : loopsL g40_C 0 = [(0, g40_B0)] := by kernel_rfl
abbrev g40_L0_I : SS := [(0, .a (.bx 0 [(.imm (.sl false (.pr (.int .i64) (.int .i64)))), (.nm 1 (.int .i64)), (.nm 2 (.int .i64)), (.nm 3 (.int .i64)), (.nm 4 (.int .i64))])), (1, .a (.c (.imm (.sl false (.int .i64))))), (2, .a (.c (.int .i64))), (3, .a (.c (.int .i64))), (4, .a (.c (.int .i64))), (5, .a (.c (.nm 5 .bool))), (18, .a (.c (.imm (.int .i64)))), (19, .a (.c (.int .i64))), (20, .a (.c (.int .i64)))]
abbrev g40_L0_O : List (Ex × SS) := [(.ret, [(0, .a (.bx 0 [(.imm (.sl false (.pr (.int .i64) (.int .i64)))), (.nm 1 (.int .i64)), (.nm 2 (.int .i64)), (.nm 3 (.int .i64)), (.nm 4 (.int .i64))])), (5, .a (.c (.nm 5 .bool))), (12, .a (.c .bool))]), (.exit 0, [(0, .a (.bx 0 [(.imm (.sl false (.pr (.int .i64) (.int .i64)))), (.nm 1 (.int .i64)), (.nm 2 (.int .i64)), (.nm 3 (.int .i64)), (.nm 4 (.int .i64))])), (5, .a (.c (.nm 5 .bool)))])]
def g40_L0_R (m n : Nat) : g40_L0_I.Val → Option (outVal g40_L0_O) := (fun (x : ((List (List (Int × Int))) × List Int × List Int × List Int × List Int × Unit) × List (List Int) × Int × Int × Int × List Bool × List Int × Int × Int × Unit) => g40_L0 (fun a0 a1 a2 a3 a4 a5 a6 a7 a8 a9 => g40 m a0 a1 a2 a3 a4 a5 a6 a7 a8 a9) m n x.1.1 x.1.2.1 x.1.2.2.1 x.1.2.2.2.1 x.1.2.2.2.2.1 x.2.1 x.2.2.1 x.2.2.2.1 x.2.2.2.2.1 x.2.2.2.2.2.1 x.2.2.2.2.2.2.1 x.2.2.2.2.2.2.2.1 x.2.2.2.2.2.2.2.2.1)
def g40_L0_T (m n : Nat) : LoopT := ⟨0, g40_L0_I, g40_L0_O, g40_L0_R m n⟩
theorem g40_L0_kr (m n : Nat) (x : g40_L0_I.Val) : roundK (mkC (outVal g40_L0_O) [g40_T m]) (mkLp (outVal g40_L0_O) []) tt 78 g40_H g40_B0 0 (g40_L0_I.enc x) (Kl (ins := g40_L0_I) (outs := g40_L0_O) (g40_L0_R m n)) = g40_L0 (fun a0 a1 a2 a3 a4 a5 a6 a7 a8 a9 => g40 m a0 a1 a2 a3 a4 a5 a6 a7 a8 a9) m (n + 1) x.1.1 x.1.2.1 x.1.2.2.1 x.1.2.2.2.1 x.1.2.2.2.2.1 x.2.1 x.2.2.1 x.2.2.2.1 x.2.2.2.2.1 x.2.2.2.2.2.1 x.2.2.2.2.2.2.1 x.2.2.2.2.2.2.2.1 x.2.2.2.2.2.2.2.2.1 := by kernel_rfl
theorem g40_L0_ok {E : Entry} (hE : EOf Tryz.prog E 78 g40_H.pins) (m : Nat) (hself : FunOK Tryz.prog (g40_T m)) (n : Nat) : LoopOK Tryz.prog E g40_B0 (g40_L0_T m n) :=
  loop_ok (CO := CallOK Tryz.prog) hmix htt (fun _ _ _ _ h => h) hE (C := fun R => mkC R [g40_T m]) (L := []) (fun _ _ _ _ _ h => mkC_spec (AllF.mem (l := [g40_T m]) ⟨hself, trivial⟩) h) (fun _ _ => loopsIn_of g40_B0_ls trivial) (fun n => (g40_L0_R m n)) (fun _ => by kernel_rfl) (fun n x => (g40_L0_kr m n x).trans (by kernel_rfl)) n
theorem g40_kr (m : Nat) (x : ShLVal g40_A) : fnK (mkC (g40_S.Val × ShLVal g40_U) [g40_T m]) (mkLp (g40_S.Val × ShLVal g40_U) [g40_L0_T m m]) tt g40_H Tryz.f40 (encS g40_A x) (Kd g40_S g40_U) = g40 (m + 1) x.1.1 x.1.2.1 x.1.2.2.1 x.1.2.2.2.1 x.1.2.2.2.2.1 x.2.1 x.2.2.1 x.2.2.2.1 x.2.2.2.2.1 x.2.2.2.2.2.1 := by kernel_rfl
theorem g40_ok : ∀ m : Nat, FunOK Tryz.prog (g40_T m)
  | 0 => fun _ _ h => by cases h
  | m + 1 => by
    have hself := g40_ok m
    exact fun_ok hmix htt (g40_T (m + 1)) Tryz.func40 (c := g40_C) (by kernel_rfl) (by kernel_rfl) (Lc := [g40_T m]) (AllF.mem (l := [g40_T m]) ⟨hself, trivial⟩) (L := [g40_L0_T m m]) (fun _ hE _ _ => loopsIn_of g40_C_ls ⟨mkLp_all ⟨fun _ => g40_L0_ok hE m hself m, trivial⟩, trivial⟩) (fun x => (g40_kr m x).trans (by kernel_rfl))
end Go.Vs.F
