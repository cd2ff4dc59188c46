/- The plain functions are what the code does (by program: gen.py). -/
import Derived.Test.YtajikfmcbmhclaaGreatDoorFn
import Derived.Test.YtajikfmcbmhclaaGreatDoorVc
import Derived.Test.YtajikfmcbmhclaaGreatDoorProg
import Derived.KernelRfl

/-! MwOk1 -/
set_option linter.unusedVariables false
set_option maxRecDepth 100000
namespace Go.Vs.F
open Go.Proofs
def tt : TT := [none, none, none, some ⟨(.int .i64), [.int .i64]⟩, some ⟨.bool, [.bool]⟩, some ⟨(.int .u8), [.int .u8]⟩, none, none, none, some ⟨.string, [.other]⟩, none, none, none, none, none, none, none, none, none, none, none, none, some ⟨(.slice 3 (.int .i64)), [.nil (.int .i64)]⟩, none, none, some ⟨(.slice 45 (.int .u64)), [.nil (.int .u64)]⟩, none, some ⟨(.struct [(0, 1), (1, 1), (2, 1), (3, 1), (4, 1)]), [.int .i64, .int .i64, .nil (.int .i64), .nil (.int .i64), .nil (.int .u64)]⟩, none, none, none, none, some ⟨(.slice 47 (.pr (.int .i64) (.pr (.int .i64) (.int .u64)))), [.nil (.pr (.int .i64) (.pr (.int .i64) (.int .u64)))]⟩, none, none, none, none, none, none, none, none, none, none, none, some ⟨(.int .u64), [.int .u64]⟩, some ⟨(.int .u64), [.int .u64]⟩, none, some ⟨(.struct [(0, 1), (1, 1), (2, 1)]), [.int .i64, .int .i64, .int .u64]⟩, none, none, none, none, none, some ⟨(.int .u64), [.int .u64]⟩, none, none, none, none, none, some ⟨(.slice 64 (.pr .bool (.pr (.pr .bool (.sl false (.int .u32))) (.int .i64)))), [.nil (.pr .bool (.pr (.pr .bool (.sl false (.int .u32))) (.int .i64)))]⟩, some ⟨(.slice 120 (.int .u32)), [.nil (.int .u32)]⟩, none, some ⟨(.struct [(0, 1), (1, 1)]), [.bool, .nil (.int .u32)]⟩, none, some ⟨(.struct [(0, 1), (1, 2), (3, 1)]), [.bool, .bool, .nil (.int .u32), .int .i64]⟩, none, none, none, none, none, none, none, none, none, none, none, none, none, none, none, none, none, none, none, none, none, none, none, none, none, none, none, none, none, none, none, none, some ⟨(.struct [(0, 1), (1, 2), (3, 1), (4, 1)]), [.bool, .bool, .nil (.int .u32), .int .i64, .bool]⟩, none, none, none, none, none, none, none, some ⟨(.slice 4 .bool), [.nil .bool]⟩, none, none, none, none, none, some ⟨(.slice 59 (.sl false (.pr .bool (.pr (.pr .bool (.sl false (.int .u32))) (.int .i64))))), [.nil (.sl false (.pr .bool (.pr (.pr .bool (.sl false (.int .u32))) (.int .i64))))]⟩, none, none, none, none, none, none, none, none, some ⟨(.int .u32), [.int .u32]⟩, none, none, none, none, none, none, none, none, none, none, none, none, none, none, none, none, none, none, none, none, none, none, none, none, none, none, none, none, some ⟨(.tab 0 .u8 [0, 1, 28, 2, 29, 14, 24, 3, 30, 22, 20, 15, 25, 17, 4, 8, 31, 27, 13, 23, 21, 19, 16, 7, 26, 12, 18, 6, 11, 5, 10, 9]), [.other, .other, .other, .other, .other, .other, .other, .other, .other, .other, .other, .other, .other, .other, .other, .other, .other, .other, .other, .other, .other, .other, .other, .other, .other, .other, .other, .other, .other, .other, .other, .other]⟩]
theorem htt : TTok Tryz.prog tt := ttChk_spec (by kernel_rfl)
theorem hmix : Tryz.prog.follows .mixedOrders = true := by kernel_rfl
/-! 31 sparse/matrix.within -/
def g31_H : Hints := { regs := [⟨[], [0, 1, 2]⟩, ⟨[(1, 1), (3, 1), (5, 1)], [6]⟩], heads := [], exits := [], rets := [6], pins := [], spec := [[false]] }
abbrev g31_A : List Sh := [.a (.c (.int .i64)), .a (.c (.int .i64)), .a (.c (.int .i64))]
abbrev g31_S : Sh := .a (.c .bool)
abbrev g31_U : List Sh := [.a (.c .dead), .a (.c .dead), .a (.c .dead)]
def g31_R (m : Nat) : ShLVal g31_A → Option (g31_S.Val × ShLVal g31_U) := fun (x : Int × Int × Int × Unit) => g31 m x.1 x.2.1 x.2.2.1
def g31_T (m : Nat) : FunT := ⟨31, g31_A, g31_S, g31_U, g31_R m⟩
noncomputable def g31_C : Code := codeOf Tryz.f31
theorem g31_C_ls : loopsL g31_C 0 = [] := by kernel_rfl
theorem g31_kr (m : Nat) (x : ShLVal g31_A) : fnK (mkC (g31_S.Val × ShLVal g31_U) []) (mkLp (g31_S.Val × ShLVal g31_U) []) tt g31_H Tryz.f31 (encS g31_A x) (Kd g31_S g31_U) = g31 m x.1 x.2.1 x.2.2.1 := by kernel_rfl
theorem g31_ok (m : Nat) : FunOK Tryz.prog (g31_T m) :=
  fun_ok hmix htt (g31_T m) Tryz.func31 (c := g31_C) (by kernel_rfl) (by kernel_rfl) (Lc := []) (AllF.mem (l := []) trivial) (L := []) (fun _ hE _ _ => loopsIn_of g31_C_ls trivial) (fun x => (g31_kr m x).trans (by kernel_rfl))
/-! 59 sparse/float.parts -/
def g59_H : Hints := { regs := [⟨[], [0]⟩, ⟨[], [2, 3]⟩], heads := [], exits := [], rets := [2, 3], pins := [], spec := [[false], [false]] }
abbrev g59_A : List Sh := [.a (.c (.int .u64))]
abbrev g59_S : Sh := .tup [(.c (.int .i64)), (.c (.int .u64))]
abbrev g59_U : List Sh := [.a (.c .dead)]
def g59_R (m : Nat) : ShLVal g59_A → Option (g59_S.Val × ShLVal g59_U) := fun (x : Int × Unit) => g59 m x.1
def g59_T (m : Nat) : FunT := ⟨59, g59_A, g59_S, g59_U, g59_R m⟩
noncomputable def g59_C : Code := codeOf Tryz.f59
theorem g59_C_ls : loopsL g59_C 0 = [] := by kernel_rfl
theorem g59_kr (m : Nat) (x : ShLVal g59_A) : fnK (mkC (g59_S.Val × ShLVal g59_U) []) (mkLp (g59_S.Val × ShLVal g59_U) []) tt g59_H Tryz.f59 (encS g59_A x) (Kd g59_S g59_U) = g59 m x.1 := by kernel_rfl
theorem g59_ok (m : Nat) : FunOK Tryz.prog (g59_T m) :=
  fun_ok hmix htt (g59_T m) Tryz.func59 (c := g59_C) (by kernel_rfl) (by kernel_rfl) (Lc := []) (AllF.mem (l := []) trivial) (L := []) (fun _ hE _ _ => loopsIn_of g59_C_ls trivial) (fun x => (g59_kr m x).trans (by kernel_rfl))
/-! 32 sparse/float.IsFinite -/
def g32_H : Hints := { regs := [⟨[], [0]⟩, ⟨[(0, 1), (2, 1)], [3]⟩, ⟨[(0, 1)], [2]⟩], heads := [], exits := [], rets := [2], pins := [], spec := [[false]] }
abbrev g32_A : List Sh := [.a (.c (.int .u64))]
abbrev g32_S : Sh := .a (.c .bool)
abbrev g32_U : List Sh := [.a (.c .dead)]
def g32_R (m : Nat) : ShLVal g32_A → Option (g32_S.Val × ShLVal g32_U) := fun (x : Int × Unit) => g32 m x.1
def g32_T (m : Nat) : FunT := ⟨32, g32_A, g32_S, g32_U, g32_R m⟩
noncomputable def g32_C : Code := codeOf Tryz.f32
theorem g32_C_ls : loopsL g32_C 0 = [] := by kernel_rfl
theorem g32_kr (m : Nat) (x : ShLVal g32_A) : fnK (mkC (g32_S.Val × ShLVal g32_U) [g59_T m]) (mkLp (g32_S.Val × ShLVal g32_U) []) tt g32_H Tryz.f32 (encS g32_A x) (Kd g32_S g32_U) = g32 m x.1 := by kernel_rfl
theorem g32_ok (m : Nat) : FunOK Tryz.prog (g32_T m) :=
  fun_ok hmix htt (g32_T m) Tryz.func32 (c := g32_C) (by kernel_rfl) (by kernel_rfl) (Lc := [g59_T m]) (AllF.mem (l := [g59_T m]) ⟨g59_ok m, trivial⟩) (L := []) (fun _ hE _ _ => loopsIn_of g32_C_ls trivial) (fun x => (g32_kr m x).trans (by kernel_rfl))
/-! 60 slices.Clone___sparse/api.Entry_sparse/api.Entry_ -/
def g60_H : Hints := { regs := [⟨[], [0]⟩, ⟨[], [0]⟩, ⟨[], [2]⟩, ⟨[], [2]⟩], heads := [], exits := [], rets := [2], pins := [], spec := [[true]] }
abbrev g60_A : List Sh := [.a (.c (.imm (.pr (.int .i64) (.pr (.int .i64) (.int .u64)))))]
abbrev g60_S : Sh := .a (.c (.nm 0 (.pr (.int .i64) (.pr (.int .i64) (.int .u64)))))
abbrev g60_U : List Sh := [.a (.c .dead)]
def g60_R (m : Nat) : ShLVal g60_A → Option (g60_S.Val × ShLVal g60_U) := fun (x : (List (Int × Int × Int)) × Unit) => g60 m x.1
def g60_T (m : Nat) : FunT := ⟨60, g60_A, g60_S, g60_U, g60_R m⟩
noncomputable def g60_C : Code := codeOf Tryz.f60
theorem g60_ok (m : Nat) : FunOK Tryz.prog (g60_T m) :=
  clone_ok hmix htt (H := g60_H) (fn := Tryz.f60) (f := 60) (t := (.pr (.int .i64) (.pr (.int .i64) (.int .u64)))) (ty := 32) (e := 47) (ty2 := 32) (k := 1) (cells := [.nil (.pr (.int .i64) (.pr (.int .i64) (.int .u64)))]) (A := pA g60_C) (X := pX (pB (pA (pB g60_C)))) (Y := pB (pB g60_C)) (o0 := pO 0 (pA (pA (pB g60_C)))) (o1 := pO 1 (pA (pA (pB g60_C)))) Tryz.func60 (by kernel_rfl) (by kernel_rfl) (by kernel_rfl) (by kernel_rfl) (by kernel_rfl) (by kernel_rfl) (by kernel_rfl) (by kernel_rfl) (by kernel_rfl) (of_decide_eq_true (by kernel_rfl)) rfl (by kernel_rfl) (by kernel_rfl) (by kernel_rfl) (fun xs => [(0, .sl .imm (.pr (.int .i64) (.pr (.int .i64) (.int .u64))) xs)]) (fun xs => [(2, .sl (.nm 0) (.pr (.int .i64) (.pr (.int .i64) (.int .u64))) xs)]) (fun xs => by kernel_rfl) (fun _ => rfl) (fun _ => rfl) (fun _ => rfl) (by kernel_rfl) (fun xs => by kernel_rfl) (fun xs => by kernel_rfl)
/-! 95 cmp.isNaN_int_ -/
def g95_H : Hints := { regs := [⟨[], [0]⟩, ⟨[], [2]⟩], heads := [], exits := [], rets := [2], pins := [], spec := [[false]] }
abbrev g95_A : List Sh := [.a (.c (.int .i64))]
abbrev g95_S : Sh := .a (.c .bool)
abbrev g95_U : List Sh := [.a (.c .dead)]
def g95_R (m : Nat) : ShLVal g95_A → Option (g95_S.Val × ShLVal g95_U) := fun (x : Int × Unit) => g95 m x.1
def g95_T (m : Nat) : FunT := ⟨95, g95_A, g95_S, g95_U, g95_R m⟩
noncomputable def g95_C : Code := codeOf Tryz.f95
theorem g95_C_ls : loopsL g95_C 0 = [] := by kernel_rfl
theorem g95_kr (m : Nat) (x : ShLVal g95_A) : fnK (mkC (g95_S.Val × ShLVal g95_U) []) (mkLp (g95_S.Val × ShLVal g95_U) []) tt g95_H Tryz.f95 (encS g95_A x) (Kd g95_S g95_U) = g95 m x.1 := by kernel_rfl
theorem g95_ok (m : Nat) : FunOK Tryz.prog (g95_T m) :=
  fun_ok hmix htt (g95_T m) Tryz.func95 (c := g95_C) (by kernel_rfl) (by kernel_rfl) (Lc := []) (AllF.mem (l := []) trivial) (L := []) (fun _ hE _ _ => loopsIn_of g95_C_ls trivial) (fun x => (g95_kr m x).trans (by kernel_rfl))
/-! 64 cmp.Compare_int_ -/
def g64_H : Hints := { regs := [⟨[], [0, 1]⟩, ⟨[], [0, 1, 5]⟩, ⟨[], [0, 1, 5, 6]⟩, ⟨[(0, 1)], [0, 1, 6, 11]⟩, ⟨[(0, 1)], [12]⟩, ⟨[], [4]⟩, ⟨[], [4]⟩, ⟨[(0, 1)], [0, 1, 13]⟩, ⟨[], [4]⟩, ⟨[], [0, 1, 16]⟩, ⟨[], [4]⟩, ⟨[(0, 1), (1, 1)], [19]⟩, ⟨[], [4]⟩, ⟨[], [4]⟩], heads := [], exits := [], rets := [4], pins := [], spec := [[false]] }
abbrev g64_A : List Sh := [.a (.c (.int .i64)), .a (.c (.int .i64))]
abbrev g64_S : Sh := .a (.c (.int .i64))
abbrev g64_U : List Sh := [.a (.c .dead), .a (.c .dead)]
def g64_R (m : Nat) : ShLVal g64_A → Option (g64_S.Val × ShLVal g64_U) := fun (x : Int × Int × Unit) => g64 m x.1 x.2.1
def g64_T (m : Nat) : FunT := ⟨64, g64_A, g64_S, g64_U, g64_R m⟩
noncomputable def g64_C : Code := codeOf Tryz.f64
theorem g64_C_ls : loopsL g64_C 0 = [] := by kernel_rfl
theorem g64_kr (m : Nat) (x : ShLVal g64_A) : fnK (mkC (g64_S.Val × ShLVal g64_U) [g95_T m]) (mkLp (g64_S.Val × ShLVal g64_U) []) tt g64_H Tryz.f64 (encS g64_A x) (Kd g64_S g64_U) = g64 m x.1 x.2.1 := by kernel_rfl
theorem g64_ok (m : Nat) : FunOK Tryz.prog (g64_T m) :=
  fun_ok hmix htt (g64_T m) Tryz.func64 (c := g64_C) (by kernel_rfl) (by kernel_rfl) (Lc := [g95_T m]) (AllF.mem (l := [g95_T m]) ⟨g95_ok m, trivial⟩) (L := []) (fun _ hE _ _ => loopsIn_of g64_C_ls trivial) (fun x => (g64_kr m x).trans (by kernel_rfl))
/-! 63 cmp.Or_int_ -/
def g63_H : Hints := { regs := [⟨[], [0]⟩, ⟨[], [0, 3]⟩, ⟨[(0, 1)], [3, 6, 7, 8]⟩, ⟨[], [3, 6, 7, 8, 9]⟩, ⟨[], [3, 5, 6, 7, 8]⟩, ⟨[], [3, 5, 6, 7, 8, 14]⟩, ⟨[(0, 1)], [2]⟩, ⟨[(1, 1)], [3, 6, 7, 8]⟩, ⟨[(0, 1)], [2]⟩], heads := [(0, [3, 6, 7, 8])], exits := [(0, [3]), (1, [3, 6, 7, 8])], rets := [2], pins := [], spec := [[false]] }
abbrev g63_A : List Sh := [.a (.c (.imm (.int .i64)))]
abbrev g63_S : Sh := .a (.c (.int .i64))
abbrev g63_U : List Sh := [.a (.c .dead)]
def g63_R (m : Nat) : ShLVal g63_A → Option (g63_S.Val × ShLVal g63_U) := fun (x : List Int × Unit) => g63 m x.1
def g63_T (m : Nat) : FunT := ⟨63, g63_A, g63_S, g63_U, g63_R m⟩
noncomputable def g63_C : Code := codeOf Tryz.f63
noncomputable def g63_B0 : Code := loopAt g63_C 0 0
theorem g63_B0_ls : loopsL g63_B0 0 = [] := by kernel_rfl
theorem g63_C_ls : loopsL g63_C 0 = [(0, g63_B0)] := by kernel_rfl
abbrev g63_L0_I : SS := [(3, .a (.c (.int .i64))), (6, .a (.c (.imm (.int .i64)))), (7, .a (.c (.int .i64))), (8, .a (.c (.int .i64)))]
abbrev g63_L0_O : List (Ex × SS) := [(.ret, [(2, .a (.c (.int .i64)))]), (.exit 0, [(3, .a (.c (.int .i64)))])]
def g63_L0_R (m n : Nat) : g63_L0_I.Val → Option (outVal g63_L0_O) := (fun (x : Int × List Int × Int × Int × Unit) => g63_L0 m n x.1 x.2.1 x.2.2.1 x.2.2.2.1)
def g63_L0_T (m n : Nat) : LoopT := ⟨0, g63_L0_I, g63_L0_O, g63_L0_R m n⟩
theorem g63_L0_kr (m n : Nat) (x : g63_L0_I.Val) : roundK (mkC (outVal g63_L0_O) []) (mkLp (outVal g63_L0_O) []) tt 18 g63_H g63_B0 0 (g63_L0_I.enc x) (Kl (ins := g63_L0_I) (outs := g63_L0_O) (g63_L0_R m n)) = g63_L0 m (n + 1) x.1 x.2.1 x.2.2.1 x.2.2.2.1 := by kernel_rfl
theorem g63_L0_ok {E : Entry} (hE : EOf Tryz.prog E 18 g63_H.pins) (m : Nat) (n : Nat) : LoopOK Tryz.prog E g63_B0 (g63_L0_T m n) :=
  loop_ok (CO := CallOK Tryz.prog) hmix htt (fun _ _ _ _ h => h) hE (C := fun R => mkC R []) (L := []) (fun _ _ _ _ _ h => mkC_spec (AllF.mem (l := []) trivial) h) (fun _ _ => loopsIn_of g63_B0_ls trivial) (fun n => (g63_L0_R m n)) (fun _ => by kernel_rfl) (fun n x => (g63_L0_kr m n x).trans (by kernel_rfl)) n
theorem g63_kr (m : Nat) (x : ShLVal g63_A) : fnK (mkC (g63_S.Val × ShLVal g63_U) []) (mkLp (g63_S.Val × ShLVal g63_U) [g63_L0_T m m]) tt g63_H Tryz.f63 (encS g63_A x) (Kd g63_S g63_U) = g63 m x.1 := by kernel_rfl
theorem g63_ok (m : Nat) : FunOK Tryz.prog (g63_T m) :=
  fun_ok hmix htt (g63_T m) Tryz.func63 (c := g63_C) (by kernel_rfl) (by kernel_rfl) (Lc := []) (AllF.mem (l := []) trivial) (L := [g63_L0_T m m]) (fun _ hE _ _ => loopsIn_of g63_C_ls ⟨mkLp_all ⟨fun _ => g63_L0_ok hE m m, trivial⟩, trivial⟩) (fun x => (g63_kr m x).trans (by kernel_rfl))
/-! 62 sparse/matrix.sorted_1 -/
def g62_H : Hints := { regs := [⟨[], [2, 3]⟩, ⟨[], [4]⟩], heads := [], exits := [], rets := [4], pins := [], spec := [[false]] }
abbrev g62_A : List Sh := [.a (.agg [(.int .i64), (.int .i64), (.int .u64)]), .a (.agg [(.int .i64), (.int .i64), (.int .u64)])]
abbrev g62_S : Sh := .a (.c (.int .i64))
abbrev g62_U : List Sh := [.a (.c .dead), .a (.c .dead)]
def g62_R (m : Nat) : ShLVal g62_A → Option (g62_S.Val × ShLVal g62_U) := fun (x : (Int × Int × Int × Unit) × (Int × Int × Int × Unit) × Unit) => g62 m x.1.1 x.1.2.1 x.1.2.2.1 x.2.1.1 x.2.1.2.1 x.2.1.2.2.1
def g62_T (m : Nat) : FunT := ⟨62, g62_A, g62_S, g62_U, g62_R m⟩
noncomputable def g62_C : Code := codeOf Tryz.f62
theorem g62_C_ls : loopsL g62_C 0 = [] := by kernel_rfl
theorem g62_kr (m : Nat) (x : ShLVal g62_A) : fnK (mkC (g62_S.Val × ShLVal g62_U) [g64_T m, g63_T m]) (mkLp (g62_S.Val × ShLVal g62_U) []) tt g62_H Tryz.f62 (encS g62_A x) (Kd g62_S g62_U) = g62 m x.1.1 x.1.2.1 x.1.2.2.1 x.2.1.1 x.2.1.2.1 x.2.1.2.2.1 := by kernel_rfl
theorem g62_ok (m : Nat) : FunOK Tryz.prog (g62_T m) :=
  fun_ok hmix htt (g62_T m) Tryz.func62 (c := g62_C) (by kernel_rfl) (by kernel_rfl) (Lc := [g64_T m, g63_T m]) (AllF.mem (l := [g64_T m, g63_T m]) ⟨g64_ok m, g63_ok m, trivial⟩) (L := []) (fun _ hE _ _ => loopsIn_of g62_C_ls trivial) (fun x => (g62_kr m x).trans (by kernel_rfl))
/-! 130 slices.insertionSortCmpFunc_sparse/api.Entry_ -/
def g130_H : Hints := { regs := [⟨[], [0, 1, 2, 3, 8]⟩, ⟨[], [0, 1, 2, 3, 8, 14]⟩, ⟨[(0, 1)], [0, 1, 2, 3, 8]⟩, ⟨[], [0, 1, 2, 3, 8, 9]⟩, ⟨[(3, 1)], [0, 1, 2, 3, 8, 9, 34]⟩, ⟨[(0, 1)], [0, 1, 2, 3, 8, 9]⟩, ⟨[], [0, 1, 2, 3, 8, 9]⟩], heads := [(0, [0, 1, 2, 3, 8]), (2, [0, 1, 2, 3, 8, 9])], exits := [(0, [0]), (1, [0, 1, 2, 3, 8]), (2, [0, 1, 2, 3, 8]), (3, [0, 1, 2, 3, 8, 9])], rets := [0], pins := [0], spec := [] }
abbrev g130_A : List Sh := [.a (.c (.nm 0 (.pr (.int .i64) (.pr (.int .i64) (.int .u64))))), .a (.c (.int .i64)), .a (.c (.int .i64)), .a (.c (.fn 62))]
abbrev g130_S : Sh := .tup []
abbrev g130_U : List Sh := [.a (.c (.nm 0 (.pr (.int .i64) (.pr (.int .i64) (.int .u64))))), .a (.c .dead), .a (.c .dead), .a (.c .dead)]
def g130_R (m : Nat) : ShLVal g130_A → Option (g130_S.Val × ShLVal g130_U) := fun (x : (List (Int × Int × Int)) × Int × Int × Unit × Unit) => g130 m x.1 x.2.1 x.2.2.1
def g130_T (m : Nat) : FunT := ⟨130, g130_A, g130_S, g130_U, g130_R m⟩
noncomputable def g130_C : Code := codeOf Tryz.f130
noncomputable def g130_B0 : Code := loopAt g130_C 0 0
noncomputable def g130_B2 : Code := loopAt g130_B0 0 0
theorem g130_B2_ls : loopsL g130_B2 2 = [] := by kernel_rfl
theorem g130_B0_ls : loopsL g130_B0 0 = [(2, g130_B2)] := by kernel_rfl
theorem g130_C_ls : loopsL g130_C 0 = [(0, g130_B0)] := by kernel_rfl
abbrev g130_L1_I : SS := [(0, .a (.c (.nm 0 (.pr (.int .i64) (.pr (.int .i64) (.int .u64)))))), (1, .a (.c (.int .i64))), (2, .a (.c (.int .i64))), (3, .a (.c (.fn 62))), (8, .a (.c (.int .i64))), (9, .a (.c (.int .i64)))]
abbrev g130_L1_O : List (Ex × SS) := [(.exit 2, [(0, .a (.c (.nm 0 (.pr (.int .i64) (.pr (.int .i64) (.int .u64)))))), (1, .a (.c (.int .i64))), (2, .a (.c (.int .i64))), (3, .a (.c (.fn 62))), (8, .a (.c (.int .i64)))])]
def g130_L1_R (m n : Nat) : g130_L1_I.Val → Option (outVal g130_L1_O) := (fun (x : (List (Int × Int × Int)) × Int × Int × Unit × Int × Int × Unit) => g130_L1 m n x.1 x.2.1 x.2.2.1 x.2.2.2.2.1 x.2.2.2.2.2.1)
def g130_L1_T (m n : Nat) : LoopT := ⟨2, g130_L1_I, g130_L1_O, g130_L1_R m n⟩
theorem g130_L1_kr (m n : Nat) (x : g130_L1_I.Val) : roundK (mkC (outVal g130_L1_O) [g62_T m]) (mkLp (outVal g130_L1_O) []) tt 53 g130_H g130_B2 2 (g130_L1_I.enc x) (Kl (ins := g130_L1_I) (outs := g130_L1_O) (g130_L1_R m n)) = g130_L1 m (n + 1) x.1 x.2.1 x.2.2.1 x.2.2.2.2.1 x.2.2.2.2.2.1 := by kernel_rfl
theorem g130_L1_ok {E : Entry} (hE : EOf Tryz.prog E 53 g130_H.pins) (m : Nat) (n : Nat) : LoopOK Tryz.prog E g130_B2 (g130_L1_T m n) :=
  loop_ok (CO := CallOK Tryz.prog) hmix htt (fun _ _ _ _ h => h) hE (C := fun R => mkC R [g62_T m]) (L := []) (fun _ _ _ _ _ h => mkC_spec (AllF.mem (l := [g62_T m]) ⟨g62_ok m, trivial⟩) h) (fun _ _ => loopsIn_of g130_B2_ls trivial) (fun n => (g130_L1_R m n)) (fun _ => by kernel_rfl) (fun n x => (g130_L1_kr m n x).trans (by kernel_rfl)) n
abbrev g130_L0_I : SS := [(0, .a (.c (.nm 0 (.pr (.int .i64) (.pr (.int .i64) (.int .u64)))))), (1, .a (.c (.int .i64))), (2, .a (.c (.int .i64))), (3, .a (.c (.fn 62))), (8, .a (.c (.int .i64)))]
abbrev g130_L0_O : List (Ex × SS) := [(.exit 0, [(0, .a (.c (.nm 0 (.pr (.int .i64) (.pr (.int .i64) (.int .u64))))))])]
def g130_L0_R (m n : Nat) : g130_L0_I.Val → Option (outVal g130_L0_O) := (fun (x : (List (Int × Int × Int)) × Int × Int × Unit × Int × Unit) => g130_L0 m n x.1 x.2.1 x.2.2.1 x.2.2.2.2.1)
def g130_L0_T (m n : Nat) : LoopT := ⟨0, g130_L0_I, g130_L0_O, g130_L0_R m n⟩
theorem g130_L0_kr (m n : Nat) (x : g130_L0_I.Val) : roundK (mkC (outVal g130_L0_O) [g62_T m]) (mkLp (outVal g130_L0_O) [g130_L1_T m m]) tt 53 g130_H g130_B0 0 (g130_L0_I.enc x) (Kl (ins := g130_L0_I) (outs := g130_L0_O) (g130_L0_R m n)) = g130_L0 m (n + 1) x.1 x.2.1 x.2.2.1 x.2.2.2.2.1 := by kernel_rfl
theorem g130_L0_ok {E : Entry} (hE : EOf Tryz.prog E 53 g130_H.pins) (m : Nat) (n : Nat) : LoopOK Tryz.prog E g130_B0 (g130_L0_T m n) :=
  loop_ok (CO := CallOK Tryz.prog) hmix htt (fun _ _ _ _ h => h) hE (C := fun R => mkC R [g62_T m]) (L := [g130_L1_T m m]) (fun _ _ _ _ _ h => mkC_spec (AllF.mem (l := [g62_T m]) ⟨g62_ok m, trivial⟩) h) (fun _ _ => loopsIn_of g130_B0_ls ⟨mkLp_all ⟨fun _ => g130_L1_ok hE m m, trivial⟩, trivial⟩) (fun n => (g130_L0_R m n)) (fun _ => by kernel_rfl) (fun n x => (g130_L0_kr m n x).trans (by kernel_rfl)) n
theorem g130_kr (m : Nat) (x : ShLVal g130_A) : fnK (mkC (g130_S.Val × ShLVal g130_U) [g62_T m]) (mkLp (g130_S.Val × ShLVal g130_U) [g130_L0_T m m]) tt g130_H Tryz.f130 (encS g130_A x) (Kd g130_S g130_U) = g130 m x.1 x.2.1 x.2.2.1 := by kernel_rfl
theorem g130_ok (m : Nat) : FunOK Tryz.prog (g130_T m) :=
  fun_ok hmix htt (g130_T m) Tryz.func130 (c := g130_C) (by kernel_rfl) (by kernel_rfl) (Lc := [g62_T m]) (AllF.mem (l := [g62_T m]) ⟨g62_ok m, trivial⟩) (L := [g130_L0_T m m]) (fun _ hE _ _ => loopsIn_of g130_C_ls ⟨mkLp_all ⟨fun _ => g130_L0_ok hE m m, trivial⟩, trivial⟩) (fun x => (g130_kr m x).trans (by kernel_rfl))
/-! 157 slices.swapRangeCmpFunc_sparse/api.Entry_ -/
def g157_H : Hints := { regs := [⟨[], [0, 1, 2, 3, 10]⟩, ⟨[], [0, 1, 2, 3, 10, 13]⟩, ⟨[(0, 1)], [0, 1, 2, 3, 10]⟩, ⟨[], [0, 1, 2, 3, 10]⟩], heads := [(0, [0, 1, 2, 3, 10])], exits := [(0, [0]), (1, [0, 1, 2, 3, 10])], rets := [0], pins := [0], spec := [] }
abbrev g157_A : List Sh := [.a (.c (.nm 0 (.pr (.int .i64) (.pr (.int .i64) (.int .u64))))), .a (.c (.int .i64)), .a (.c (.int .i64)), .a (.c (.int .i64)), .a (.c (.fn 62))]
abbrev g157_S : Sh := .tup []
abbrev g157_U : List Sh := [.a (.c (.nm 0 (.pr (.int .i64) (.pr (.int .i64) (.int .u64))))), .a (.c .dead), .a (.c .dead), .a (.c .dead), .a (.c .dead)]
def g157_R (m : Nat) : ShLVal g157_A → Option (g157_S.Val × ShLVal g157_U) := fun (x : (List (Int × Int × Int)) × Int × Int × Int × Unit × Unit) => g157 m x.1 x.2.1 x.2.2.1 x.2.2.2.1
def g157_T (m : Nat) : FunT := ⟨157, g157_A, g157_S, g157_U, g157_R m⟩
noncomputable def g157_C : Code := codeOf Tryz.f157
noncomputable def g157_B0 : Code := loopAt g157_C 0 0
theorem g157_B0_ls : loopsL g157_B0 0 = [] := by kernel_rfl
theorem g157_C_ls : loopsL g157_C 0 = [(0, g157_B0)] := by kernel_rfl
abbrev g157_L0_I : SS := [(0, .a (.c (.nm 0 (.pr (.int .i64) (.pr (.int .i64) (.int .u64)))))), (1, .a (.c (.int .i64))), (2, .a (.c (.int .i64))), (3, .a (.c (.int .i64))), (10, .a (.c (.int .i64)))]
abbrev g157_L0_O : List (Ex × SS) := [(.exit 0, [(0, .a (.c (.nm 0 (.pr (.int .i64) (.pr (.int .i64) (.int .u64))))))])]
def g157_L0_R (m n : Nat) : g157_L0_I.Val → Option (outVal g157_L0_O) := (fun (x : (List (Int × Int × Int)) × Int × Int × Int × Int × Unit) => g157_L0 m n x.1 x.2.1 x.2.2.1 x.2.2.2.1 x.2.2.2.2.1)
def g157_L0_T (m n : Nat) : LoopT := ⟨0, g157_L0_I, g157_L0_O, g157_L0_R m n⟩
theorem g157_L0_kr (m n : Nat) (x : g157_L0_I.Val) : roundK (mkC (outVal g157_L0_O) []) (mkLp (outVal g157_L0_O) []) tt 38 g157_H g157_B0 0 (g157_L0_I.enc x) (Kl (ins := g157_L0_I) (outs := g157_L0_O) (g157_L0_R m n)) = g157_L0 m (n + 1) x.1 x.2.1 x.2.2.1 x.2.2.2.1 x.2.2.2.2.1 := by kernel_rfl
theorem g157_L0_ok {E : Entry} (hE : EOf Tryz.prog E 38 g157_H.pins) (m : Nat) (n : Nat) : LoopOK Tryz.prog E g157_B0 (g157_L0_T m n) :=
  loop_ok (CO := CallOK Tryz.prog) hmix htt (fun _ _ _ _ h => h) hE (C := fun R => mkC R []) (L := []) (fun _ _ _ _ _ h => mkC_spec (AllF.mem (l := []) trivial) h) (fun _ _ => loopsIn_of g157_B0_ls trivial) (fun n => (g157_L0_R m n)) (fun _ => by kernel_rfl) (fun n x => (g157_L0_kr m n x).trans (by kernel_rfl)) n
theorem g157_kr (m : Nat) (x : ShLVal g157_A) : fnK (mkC (g157_S.Val × ShLVal g157_U) []) (mkLp (g157_S.Val × ShLVal g157_U) [g157_L0_T m m]) tt g157_H Tryz.f157 (encS g157_A x) (Kd g157_S g157_U) = g157 m x.1 x.2.1 x.2.2.1 x.2.2.2.1 := by kernel_rfl
theorem g157_ok (m : Nat) : FunOK Tryz.prog (g157_T m) :=
  fun_ok hmix htt (g157_T m) Tryz.func157 (c := g157_C) (by kernel_rfl) (by kernel_rfl) (Lc := []) (AllF.mem (l := []) trivial) (L := [g157_L0_T m m]) (fun _ hE _ _ => loopsIn_of g157_C_ls ⟨mkLp_all ⟨fun _ => g157_L0_ok hE m m, trivial⟩, trivial⟩) (fun x => (g157_kr m x).trans (by kernel_rfl))
/-! 147 slices.rotateCmpFunc_sparse/api.Entry_ -/
def g147_H : Hints := { regs := [⟨[(1, 1)], [0, 2, 3, 4, 10]⟩, ⟨[(0, 1)], [0, 2, 4, 10, 11]⟩, ⟨[], [0, 2, 4, 10, 11, 20]⟩, ⟨[], [0, 2, 4, 10, 11, 23]⟩, ⟨[(7, 11)], [0, 2, 4, 10, 11]⟩, ⟨[(0, 1)], [0, 2, 4, 10, 11]⟩, ⟨[(11, 11)], [0, 2, 4, 10, 11]⟩, ⟨[(0, 1)], [0, 2, 4, 10, 11]⟩, ⟨[(6, 1), (7, 11)], [0]⟩], heads := [(0, [0, 2, 4, 10, 11])], exits := [(0, [0, 2, 4, 10]), (1, [0, 2, 4, 10, 11])], rets := [0], pins := [0], spec := [] }
abbrev g147_A : List Sh := [.a (.c (.nm 0 (.pr (.int .i64) (.pr (.int .i64) (.int .u64))))), .a (.c (.int .i64)), .a (.c (.int .i64)), .a (.c (.int .i64)), .a (.c (.fn 62))]
abbrev g147_S : Sh := .tup []
abbrev g147_U : List Sh := [.a (.c (.nm 0 (.pr (.int .i64) (.pr (.int .i64) (.int .u64))))), .a (.c .dead), .a (.c .dead), .a (.c .dead), .a (.c .dead)]
def g147_R (m : Nat) : ShLVal g147_A → Option (g147_S.Val × ShLVal g147_U) := fun (x : (List (Int × Int × Int)) × Int × Int × Int × Unit × Unit) => g147 m x.1 x.2.1 x.2.2.1 x.2.2.2.1
def g147_T (m : Nat) : FunT := ⟨147, g147_A, g147_S, g147_U, g147_R m⟩
noncomputable def g147_C : Code := codeOf Tryz.f147
noncomputable def g147_B0 : Code := loopAt g147_C 0 0
theorem g147_B0_ls : loopsL g147_B0 0 = [] := by kernel_rfl
theorem g147_C_ls : loopsL g147_C 0 = [(0, g147_B0)] := by kernel_rfl
abbrev g147_L0_I : SS := [(0, .a (.c (.nm 0 (.pr (.int .i64) (.pr (.int .i64) (.int .u64)))))), (2, .a (.c (.int .i64))), (4, .a (.c (.fn 62))), (10, .a (.c (.int .i64))), (11, .a (.c (.int .i64)))]
abbrev g147_L0_O : List (Ex × SS) := [(.exit 0, [(0, .a (.c (.nm 0 (.pr (.int .i64) (.pr (.int .i64) (.int .u64)))))), (2, .a (.c (.int .i64))), (4, .a (.c (.fn 62))), (10, .a (.c (.int .i64)))])]
def g147_L0_R (m n : Nat) : g147_L0_I.Val → Option (outVal g147_L0_O) := (fun (x : (List (Int × Int × Int)) × Int × Unit × Int × Int × Unit) => g147_L0 m n x.1 x.2.1 x.2.2.2.1 x.2.2.2.2.1)
def g147_L0_T (m n : Nat) : LoopT := ⟨0, g147_L0_I, g147_L0_O, g147_L0_R m n⟩
theorem g147_L0_kr (m n : Nat) (x : g147_L0_I.Val) : roundK (mkC (outVal g147_L0_O) [g157_T m]) (mkLp (outVal g147_L0_O) []) tt 58 g147_H g147_B0 0 (g147_L0_I.enc x) (Kl (ins := g147_L0_I) (outs := g147_L0_O) (g147_L0_R m n)) = g147_L0 m (n + 1) x.1 x.2.1 x.2.2.2.1 x.2.2.2.2.1 := by kernel_rfl
theorem g147_L0_ok {E : Entry} (hE : EOf Tryz.prog E 58 g147_H.pins) (m : Nat) (n : Nat) : LoopOK Tryz.prog E g147_B0 (g147_L0_T m n) :=
  loop_ok (CO := CallOK Tryz.prog) hmix htt (fun _ _ _ _ h => h) hE (C := fun R => mkC R [g157_T m]) (L := []) (fun _ _ _ _ _ h => mkC_spec (AllF.mem (l := [g157_T m]) ⟨g157_ok m, trivial⟩) h) (fun _ _ => loopsIn_of g147_B0_ls trivial) (fun n => (g147_L0_R m n)) (fun _ => by kernel_rfl) (fun n x => (g147_L0_kr m n x).trans (by kernel_rfl)) n
theorem g147_kr (m : Nat) (x : ShLVal g147_A) : fnK (mkC (g147_S.Val × ShLVal g147_U) [g157_T m]) (mkLp (g147_S.Val × ShLVal g147_U) [g147_L0_T m m]) tt g147_H Tryz.f147 (encS g147_A x) (Kd g147_S g147_U) = g147 m x.1 x.2.1 x.2.2.1 x.2.2.2.1 := by kernel_rfl
theorem g147_ok (m : Nat) : FunOK Tryz.prog (g147_T m) :=
  fun_ok hmix htt (g147_T m) Tryz.func147 (c := g147_C) (by kernel_rfl) (by kernel_rfl) (Lc := [g157_T m]) (AllF.mem (l := [g157_T m]) ⟨g157_ok m, trivial⟩) (L := [g147_L0_T m m]) (fun _ hE _ _ => loopsIn_of g147_C_ls ⟨mkLp_all ⟨fun _ => g147_L0_ok hE m m, trivial⟩, trivial⟩) (fun x => (g147_kr m x).trans (by kernel_rfl))
/-! 131 slices.symMergeCmpFunc_sparse/api.Entry_ -/
def g131_H : Hints := { regs := [⟨[], [0, 1, 2, 3, 4, 28]⟩, ⟨[(0, 1)], [0, 1, 3, 4, 10]⟩, ⟨[(0, 1)], [0, 1, 4, 10, 11]⟩, ⟨[], [0, 1, 4, 10, 11, 33]⟩, ⟨[], [0, 1, 4, 10, 11, 12]⟩, ⟨[], [0, 1, 4, 10, 11, 12, 50]⟩, ⟨[(0, 1)], [0, 1, 4, 10, 11]⟩, ⟨[(0, 1)], [0, 1, 4, 10, 11]⟩, ⟨[(0, 1)], [0, 10, 13]⟩, ⟨[], [0, 10, 13, 58]⟩, ⟨[(0, 1)], [0, 10, 13]⟩, ⟨[], [0, 10, 13]⟩, ⟨[], [0, 1, 2, 3, 4, 80]⟩, ⟨[(0, 1)], [0, 2, 4, 14]⟩, ⟨[], [0, 2, 4, 14, 15]⟩, ⟨[], [0, 2, 4, 14, 15, 85]⟩, ⟨[], [0, 2, 4, 14, 15, 16]⟩, ⟨[], [0, 2, 4, 14, 15, 16, 103]⟩, ⟨[(0, 1)], [0, 2, 4, 14, 15]⟩, ⟨[(0, 1)], [0, 2, 4, 14, 15]⟩, ⟨[(0, 1)], [0, 14, 17]⟩, ⟨[], [0, 14, 17, 110]⟩, ⟨[(0, 1)], [0, 14, 17]⟩, ⟨[], [0, 14, 17]⟩, ⟨[], [0, 1, 2, 3, 4, 18]⟩, ⟨[], [0, 1, 2, 3, 4, 18, 19]⟩, ⟨[], [0, 1, 2, 3, 4, 18, 19]⟩, ⟨[], [0, 1, 2, 3, 4, 18, 19, 140]⟩, ⟨[], [0, 1, 2, 3, 4, 18, 19, 20]⟩, ⟨[], [0, 1, 2, 3, 4, 18, 19, 20, 21]⟩, ⟨[], [0, 1, 2, 3, 4, 18, 19, 20]⟩, ⟨[], [0, 1, 2, 3, 4, 18, 19, 20, 21]⟩, ⟨[], [0, 1, 2, 3, 4, 18, 19, 20, 21, 22]⟩, ⟨[], [0, 1, 2, 3, 4, 18, 19, 20, 21, 22, 151]⟩, ⟨[], [0, 1, 2, 3, 4, 18, 19, 20, 21, 22, 23]⟩, ⟨[], [0, 1, 2, 3, 4, 18, 19, 20, 21, 22, 23, 171]⟩, ⟨[(0, 1)], [0, 1, 2, 3, 4, 18, 19, 20, 21, 22]⟩, ⟨[(0, 1)], [0, 1, 2, 3, 4, 18, 19, 20, 21, 22]⟩, ⟨[(0, 1)], [0, 1, 2, 3, 4, 18, 20, 24]⟩, ⟨[(3, 1)], [0, 1, 2, 3, 4, 18, 20, 24, 185]⟩, ⟨[(2, 1), (5, 11)], [0, 1, 3, 4, 18, 20, 24]⟩, ⟨[(3, 1)], [0, 1, 3, 4, 18, 20, 24, 199]⟩, ⟨[(1, 1), (2, 1), (5, 11)], [0, 3, 4, 18, 24]⟩, ⟨[(3, 1)], [0, 3, 4, 18, 24, 213]⟩, ⟨[(1, 1), (2, 1), (3, 1), (4, 1), (5, 11)], [0]⟩], heads := [(0, [0, 1, 4, 10, 11]), (2, [0, 10, 13]), (4, [0, 2, 4, 14, 15]), (6, [0, 14, 17]), (8, [0, 1, 2, 3, 4, 18, 19, 20, 21, 22])], exits := [(0, [0, 1, 10]), (1, [0, 1, 4, 10, 11]), (2, [0]), (3, [0, 10, 13]), (4, [0, 2, 14]), (5, [0, 2, 4, 14, 15]), (6, [0]), (7, [0, 14, 17]), (8, [0, 1, 2, 3, 4, 18, 19, 20]), (9, [0, 1, 2, 3, 4, 18, 19, 20, 21, 22])], rets := [0], pins := [0], spec := [] }
abbrev g131_A : List Sh := [.a (.c (.nm 0 (.pr (.int .i64) (.pr (.int .i64) (.int .u64))))), .a (.c (.int .i64)), .a (.c (.int .i64)), .a (.c (.int .i64)), .a (.c (.fn 62))]
abbrev g131_S : Sh := .tup []
abbrev g131_U : List Sh := [.a (.c (.nm 0 (.pr (.int .i64) (.pr (.int .i64) (.int .u64))))), .a (.c .dead), .a (.c .dead), .a (.c .dead), .a (.c .dead)]
def g131_R (m : Nat) : ShLVal g131_A → Option (g131_S.Val × ShLVal g131_U) := fun (x : (List (Int × Int × Int)) × Int × Int × Int × Unit × Unit) => g131 m x.1 x.2.1 x.2.2.1 x.2.2.2.1
def g131_T (m : Nat) : FunT := ⟨131, g131_A, g131_S, g131_U, g131_R m⟩
noncomputable def g131_C : Code := codeOf Tryz.f131
noncomputable def g131_B0 : Code := loopAt g131_C 0 0
theorem g131_B0_ls : loopsL g131_B0 0 = [] := by kernel_rfl
noncomputable def g131_B2 : Code := loopAt g131_C 0 1
theorem g131_B2_ls : loopsL g131_B2 2 = [] := by kernel_rfl
noncomputable def g131_B4 : Code := loopAt g131_C 0 2
theorem g131_B4_ls : loopsL g131_B4 4 = [] := by kernel_rfl
noncomputable def g131_B6 : Code := loopAt g131_C 0 3
theorem g131_B6_ls : loopsL g131_B6 6 = [] := by kernel_rfl
noncomputable def g131_B8 : Code := loopAt g131_C 0 4
theorem g131_B8_ls : loopsL g131_B8 8 = [] := by kernel_rfl
theorem g131_C_ls : loopsL g131_C 0 = [(0, g131_B0), (2, g131_B2), (4, g131_B4), (6, g131_B6), (8, g131_B8)] := by kernel_rfl
abbrev g131_L4_I : SS := [(0, .a (.c (.nm 0 (.pr (.int .i64) (.pr (.int .i64) (.int .u64)))))), (1, .a (.c (.int .i64))), (2, .a (.c (.int .i64))), (3, .a (.c (.int .i64))), (4, .a (.c (.fn 62))), (18, .a (.c (.int .i64))), (19, .a (.c (.int .i64))), (20, .a (.c (.int .i64))), (21, .a (.c (.int .i64))), (22, .a (.c (.int .i64)))]
abbrev g131_L4_O : List (Ex × SS) := [(.exit 8, [(0, .a (.c (.nm 0 (.pr (.int .i64) (.pr (.int .i64) (.int .u64)))))), (1, .a (.c (.int .i64))), (2, .a (.c (.int .i64))), (3, .a (.c (.int .i64))), (4, .a (.c (.fn 62))), (18, .a (.c (.int .i64))), (19, .a (.c (.int .i64))), (20, .a (.c (.int .i64)))])]
def g131_L4_R (m n : Nat) : g131_L4_I.Val → Option (outVal g131_L4_O) := (fun (x : (List (Int × Int × Int)) × Int × Int × Int × Unit × Int × Int × Int × Int × Int × Unit) => g131_L4 (fun a0 a1 a2 a3 => g131 m a0 a1 a2 a3) m n x.1 x.2.1 x.2.2.1 x.2.2.2.1 x.2.2.2.2.2.1 x.2.2.2.2.2.2.1 x.2.2.2.2.2.2.2.1 x.2.2.2.2.2.2.2.2.1 x.2.2.2.2.2.2.2.2.2.1)
def g131_L4_T (m n : Nat) : LoopT := ⟨8, g131_L4_I, g131_L4_O, g131_L4_R m n⟩
theorem g131_L4_kr (m n : Nat) (x : g131_L4_I.Val) : roundK (mkC (outVal g131_L4_O) [g62_T m, g147_T m, g131_T m]) (mkLp (outVal g131_L4_O) []) tt 220 g131_H g131_B8 8 (g131_L4_I.enc x) (Kl (ins := g131_L4_I) (outs := g131_L4_O) (g131_L4_R m n)) = g131_L4 (fun a0 a1 a2 a3 => g131 m a0 a1 a2 a3) m (n + 1) x.1 x.2.1 x.2.2.1 x.2.2.2.1 x.2.2.2.2.2.1 x.2.2.2.2.2.2.1 x.2.2.2.2.2.2.2.1 x.2.2.2.2.2.2.2.2.1 x.2.2.2.2.2.2.2.2.2.1 := by kernel_rfl
theorem g131_L4_ok {E : Entry} (hE : EOf Tryz.prog E 220 g131_H.pins) (m : Nat) (hself : FunOK Tryz.prog (g131_T m)) (n : Nat) : LoopOK Tryz.prog E g131_B8 (g131_L4_T m n) :=
  loop_ok (CO := CallOK Tryz.prog) hmix htt (fun _ _ _ _ h => h) hE (C := fun R => mkC R [g62_T m, g147_T m, g131_T m]) (L := []) (fun _ _ _ _ _ h => mkC_spec (AllF.mem (l := [g62_T m, g147_T m, g131_T m]) ⟨g62_ok m, g147_ok m, hself, trivial⟩) h) (fun _ _ => loopsIn_of g131_B8_ls trivial) (fun n => (g131_L4_R m n)) (fun _ => by kernel_rfl) (fun n x => (g131_L4_kr m n x).trans (by kernel_rfl)) n
abbrev g131_L3_I : SS := [(0, .a (.c (.nm 0 (.pr (.int .i64) (.pr (.int .i64) (.int .u64)))))), (14, .a (.c (.int .i64))), (17, .a (.c (.int .i64)))]
abbrev g131_L3_O : List (Ex × SS) := [(.exit 6, [(0, .a (.c (.nm 0 (.pr (.int .i64) (.pr (.int .i64) (.int .u64))))))])]
def g131_L3_R (m n : Nat) : g131_L3_I.Val → Option (outVal g131_L3_O) := (fun (x : (List (Int × Int × Int)) × Int × Int × Unit) => g131_L3 (fun a0 a1 a2 a3 => g131 m a0 a1 a2 a3) m n x.1 x.2.1 x.2.2.1)
def g131_L3_T (m n : Nat) : LoopT := ⟨6, g131_L3_I, g131_L3_O, g131_L3_R m n⟩
theorem g131_L3_kr (m n : Nat) (x : g131_L3_I.Val) : roundK (mkC (outVal g131_L3_O) [g62_T m, g147_T m, g131_T m]) (mkLp (outVal g131_L3_O) []) tt 220 g131_H g131_B6 6 (g131_L3_I.enc x) (Kl (ins := g131_L3_I) (outs := g131_L3_O) (g131_L3_R m n)) = g131_L3 (fun a0 a1 a2 a3 => g131 m a0 a1 a2 a3) m (n + 1) x.1 x.2.1 x.2.2.1 := by kernel_rfl
theorem g131_L3_ok {E : Entry} (hE : EOf Tryz.prog E 220 g131_H.pins) (m : Nat) (hself : FunOK Tryz.prog (g131_T m)) (n : Nat) : LoopOK Tryz.prog E g131_B6 (g131_L3_T m n) :=
  loop_ok (CO := CallOK Tryz.prog) hmix htt (fun _ _ _ _ h => h) hE (C := fun R => mkC R [g62_T m, g147_T m, g131_T m]) (L := []) (fun _ _ _ _ _ h => mkC_spec (AllF.mem (l := [g62_T m, g147_T m, g131_T m]) ⟨g62_ok m, g147_ok m, hself, trivial⟩) h) (fun _ _ => loopsIn_of g131_B6_ls trivial) (fun n => (g131_L3_R m n)) (fun _ => by kernel_rfl) (fun n x => (g131_L3_kr m n x).trans (by kernel_rfl)) n
abbrev g131_L2_I : SS := [(0, .a (.c (.nm 0 (.pr (.int .i64) (.pr (.int .i64) (.int .u64)))))), (2, .a (.c (.int .i64))), (4, .a (.c (.fn 62))), (14, .a (.c (.int .i64))), (15, .a (.c (.int .i64)))]
abbrev g131_L2_O : List (Ex × SS) := [(.exit 4, [(0, .a (.c (.nm 0 (.pr (.int .i64) (.pr (.int .i64) (.int .u64)))))), (2, .a (.c (.int .i64))), (14, .a (.c (.int .i64)))])]
def g131_L2_R (m n : Nat) : g131_L2_I.Val → Option (outVal g131_L2_O) := (fun (x : (List (Int × Int × Int)) × Int × Unit × Int × Int × Unit) => g131_L2 (fun a0 a1 a2 a3 => g131 m a0 a1 a2 a3) m n x.1 x.2.1 x.2.2.2.1 x.2.2.2.2.1)
def g131_L2_T (m n : Nat) : LoopT := ⟨4, g131_L2_I, g131_L2_O, g131_L2_R m n⟩
theorem g131_L2_kr (m n : Nat) (x : g131_L2_I.Val) : roundK (mkC (outVal g131_L2_O) [g62_T m, g147_T m, g131_T m]) (mkLp (outVal g131_L2_O) []) tt 220 g131_H g131_B4 4 (g131_L2_I.enc x) (Kl (ins := g131_L2_I) (outs := g131_L2_O) (g131_L2_R m n)) = g131_L2 (fun a0 a1 a2 a3 => g131 m a0 a1 a2 a3) m (n + 1) x.1 x.2.1 x.2.2.2.1 x.2.2.2.2.1 := by kernel_rfl
theorem g131_L2_ok {E : Entry} (hE : EOf Tryz.prog E 220 g131_H.pins) (m : Nat) (hself : FunOK Tryz.prog (g131_T m)) (n : Nat) : LoopOK Tryz.prog E g131_B4 (g131_L2_T m n) :=
  loop_ok (CO := CallOK Tryz.prog) hmix htt (fun _ _ _ _ h => h) hE (C := fun R => mkC R [g62_T m, g147_T m, g131_T m]) (L := []) (fun _ _ _ _ _ h => mkC_spec (AllF.mem (l := [g62_T m, g147_T m, g131_T m]) ⟨g62_ok m, g147_ok m, hself, trivial⟩) h) (fun _ _ => loopsIn_of g131_B4_ls trivial) (fun n => (g131_L2_R m n)) (fun _ => by kernel_rfl) (fun n x => (g131_L2_kr m n x).trans (by kernel_rfl)) n
abbrev g131_L1_I : SS := [(0, .a (.c (.nm 0 (.pr (.int .i64) (.pr (.int .i64) (.int .u64)))))), (10, .a (.c (.int .i64))), (13, .a (.c (.int .i64)))]
abbrev g131_L1_O : List (Ex × SS) := [(.exit 2, [(0, .a (.c (.nm 0 (.pr (.int .i64) (.pr (.int .i64) (.int .u64))))))])]
def g131_L1_R (m n : Nat) : g131_L1_I.Val → Option (outVal g131_L1_O) := (fun (x : (List (Int × Int × Int)) × Int × Int × Unit) => g131_L1 (fun a0 a1 a2 a3 => g131 m a0 a1 a2 a3) m n x.1 x.2.1 x.2.2.1)
def g131_L1_T (m n : Nat) : LoopT := ⟨2, g131_L1_I, g131_L1_O, g131_L1_R m n⟩
theorem g131_L1_kr (m n : Nat) (x : g131_L1_I.Val) : roundK (mkC (outVal g131_L1_O) [g62_T m, g147_T m, g131_T m]) (mkLp (outVal g131_L1_O) []) tt 220 g131_H g131_B2 2 (g131_L1_I.enc x) (Kl (ins := g131_L1_I) (outs := g131_L1_O) (g131_L1_R m n)) = g131_L1 (fun a0 a1 a2 a3 => g131 m a0 a1 a2 a3) m (n + 1) x.1 x.2.1 x.2.2.1 := by kernel_rfl
theorem g131_L1_ok {E : Entry} (hE : EOf Tryz.prog E 220 g131_H.pins) (m : Nat) (hself : FunOK Tryz.prog (g131_T m)) (n : Nat) : LoopOK Tryz.prog E g131_B2 (g131_L1_T m n) :=
  loop_ok (CO := CallOK Tryz.prog) hmix htt (fun _ _ _ _ h => h) hE (C := fun R => mkC R [g62_T m, g147_T m, g131_T m]) (L := []) (fun _ _ _ _ _ h => mkC_spec (AllF.mem (l := [g62_T m, g147_T m, g131_T m]) ⟨g62_ok m, g147_ok m, hself, trivial⟩) h) (fun _ _ => loopsIn_of g131_B2_ls trivial) (fun n => (g131_L1_R m n)) (fun _ => by kernel_rfl) (fun n x => (g131_L1_kr m n x).trans (by kernel_rfl)) n
abbrev g131_L0_I : SS := [(0, .a (.c (.nm 0 (.pr (.int .i64) (.pr (.int .i64) (.int .u64)))))), (1, .a (.c (.int .i64))), (4, .a (.c (.fn 62))), (10, .a (.c (.int .i64))), (11, .a (.c (.int .i64)))]
abbrev g131_L0_O : List (Ex × SS) := [(.exit 0, [(0, .a (.c (.nm 0 (.pr (.int .i64) (.pr (.int .i64) (.int .u64)))))), (1, .a (.c (.int .i64))), (10, .a (.c (.int .i64)))])]
def g131_L0_R (m n : Nat) : g131_L0_I.Val → Option (outVal g131_L0_O) := (fun (x : (List (Int × Int × Int)) × Int × Unit × Int × Int × Unit) => g131_L0 (fun a0 a1 a2 a3 => g131 m a0 a1 a2 a3) m n x.1 x.2.1 x.2.2.2.1 x.2.2.2.2.1)
def g131_L0_T (m n : Nat) : LoopT := ⟨0, g131_L0_I, g131_L0_O, g131_L0_R m n⟩
theorem g131_L0_kr (m n : Nat) (x : g131_L0_I.Val) : roundK (mkC (outVal g131_L0_O) [g62_T m, g147_T m, g131_T m]) (mkLp (outVal g131_L0_O) []) tt 220 g131_H g131_B0 0 (g131_L0_I.enc x) (Kl (ins := g131_L0_I) (outs := g131_L0_O) (g131_L0_R m n)) = g131_L0 (fun a0 a1 a2 a3 => g131 m a0 a1 a2 a3) m (n + 1) x.1 x.2.1 x.2.2.2.1 x.2.2.2.2.1 := by kernel_rfl
theorem g131_L0_ok {E : Entry} (hE : EOf Tryz.prog E 220 g131_H.pins) (m : Nat) (hself : FunOK Tryz.prog (g131_T m)) (n : Nat) : LoopOK Tryz.prog E g131_B0 (g131_L0_T m n) :=
  loop_ok (CO := CallOK Tryz.prog) hmix htt (fun _ _ _ _ h => h) hE (C := fun R => mkC R [g62_T m, g147_T m, g131_T m]) (L := []) (fun _ _ _ _ _ h => mkC_spec (AllF.mem (l := [g62_T m, g147_T m, g131_T m]) ⟨g62_ok m, g147_ok m, hself, trivial⟩) h) (fun _ _ => loopsIn_of g131_B0_ls trivial) (fun n => (g131_L0_R m n)) (fun _ => by kernel_rfl) (fun n x => (g131_L0_kr m n x).trans (by kernel_rfl)) n
theorem g131_kr (m : Nat) (x : ShLVal g131_A) : fnK (mkC (g131_S.Val × ShLVal g131_U) [g62_T m, g147_T m, g131_T m]) (mkLp (g131_S.Val × ShLVal g131_U) [g131_L0_T m m, g131_L1_T m m, g131_L2_T m m, g131_L3_T m m, g131_L4_T m m]) tt g131_H Tryz.f131 (encS g131_A x) (Kd g131_S g131_U) = g131 (m + 1) x.1 x.2.1 x.2.2.1 x.2.2.2.1 := by kernel_rfl
theorem g131_ok : ∀ m : Nat, FunOK Tryz.prog (g131_T m)
  | 0 => fun _ _ h => by cases h
  | m + 1 => by
    have hself := g131_ok m
    exact fun_ok hmix htt (g131_T (m + 1)) Tryz.func131 (c := g131_C) (by kernel_rfl) (by kernel_rfl) (Lc := [g62_T m, g147_T m, g131_T m]) (AllF.mem (l := [g62_T m, g147_T m, g131_T m]) ⟨g62_ok m, g147_ok m, hself, trivial⟩) (L := [g131_L0_T m m, g131_L1_T m m, g131_L2_T m m, g131_L3_T m m, g131_L4_T m m]) (fun _ hE _ _ => loopsIn_of g131_C_ls ⟨mkLp_all ⟨fun _ => g131_L0_ok hE m hself m, fun h => absurd (show (2 : Nat) = 0 from h) (by decide), fun h => absurd (show (4 : Nat) = 0 from h) (by decide), fun h => absurd (show (6 : Nat) = 0 from h) (by decide), fun h => absurd (show (8 : Nat) = 0 from h) (by decide), trivial⟩, mkLp_all ⟨fun h => absurd (show (0 : Nat) = 2 from h) (by decide), fun _ => g131_L1_ok hE m hself m, fun h => absurd (show (4 : Nat) = 2 from h) (by decide), fun h => absurd (show (6 : Nat) = 2 from h) (by decide), fun h => absurd (show (8 : Nat) = 2 from h) (by decide), trivial⟩, mkLp_all ⟨fun h => absurd (show (0 : Nat) = 4 from h) (by decide), fun h => absurd (show (2 : Nat) = 4 from h) (by decide), fun _ => g131_L2_ok hE m hself m, fun h => absurd (show (6 : Nat) = 4 from h) (by decide), fun h => absurd (show (8 : Nat) = 4 from h) (by decide), trivial⟩, mkLp_all ⟨fun h => absurd (show (0 : Nat) = 6 from h) (by decide), fun h => absurd (show (2 : Nat) = 6 from h) (by decide), fun h => absurd (show (4 : Nat) = 6 from h) (by decide), fun _ => g131_L3_ok hE m hself m, fun h => absurd (show (8 : Nat) = 6 from h) (by decide), trivial⟩, mkLp_all ⟨fun h => absurd (show (0 : Nat) = 8 from h) (by decide), fun h => absurd (show (2 : Nat) = 8 from h) (by decide), fun h => absurd (show (4 : Nat) = 8 from h) (by decide), fun h => absurd (show (6 : Nat) = 8 from h) (by decide), fun _ => g131_L4_ok hE m hself m, trivial⟩, trivial⟩) (fun x => (g131_kr m x).trans (by kernel_rfl))
/-! 94 slices.stableCmpFunc_sparse/api.Entry_ -/
def g94_H : Hints := { regs := [⟨[], [0, 1, 2, 6]⟩, ⟨[], [0, 1, 2, 6, 7, 8]⟩, ⟨[], [0, 1, 2, 6, 7, 8, 13]⟩, ⟨[(1, 1), (4, 11)], [0, 1, 2, 6, 8]⟩, ⟨[], [0, 1, 2, 6, 7, 8]⟩, ⟨[(0, 1)], [0, 1, 2, 6, 7, 8]⟩, ⟨[(1, 1), (4, 11)], [0, 1, 2, 6]⟩, ⟨[], [0, 1, 2, 6, 30]⟩, ⟨[], [0, 1, 2, 6, 7, 8]⟩, ⟨[], [0, 1, 2, 6, 7, 8, 35]⟩, ⟨[(7, 11)], [0, 1, 2, 6, 8]⟩, ⟨[], [0, 1, 2, 6, 7, 8]⟩, ⟨[(0, 1)], [0, 1, 2, 6, 7, 8]⟩, ⟨[], [0, 1, 2, 6, 7, 9]⟩, ⟨[], [0, 1, 2, 6, 7, 9, 54]⟩, ⟨[(1, 1), (2, 1), (5, 11)], [0, 1, 2, 6]⟩, ⟨[(0, 1)], [0, 1, 2, 6]⟩], heads := [(0, [0, 1, 2, 6, 7, 8]), (2, [0, 1, 2, 6]), (4, [0, 1, 2, 6, 7, 8])], exits := [(0, [0, 1, 2, 6, 7]), (1, [0, 1, 2, 6, 7, 8]), (2, [0]), (3, [0, 1, 2, 6]), (4, [0, 1, 2, 6, 7]), (5, [0, 1, 2, 6, 7, 8])], rets := [0], pins := [0], spec := [] }
abbrev g94_A : List Sh := [.a (.c (.nm 0 (.pr (.int .i64) (.pr (.int .i64) (.int .u64))))), .a (.c (.int .i64)), .a (.c (.fn 62))]
abbrev g94_S : Sh := .tup []
abbrev g94_U : List Sh := [.a (.c (.nm 0 (.pr (.int .i64) (.pr (.int .i64) (.int .u64))))), .a (.c .dead), .a (.c .dead)]
def g94_R (m : Nat) : ShLVal g94_A → Option (g94_S.Val × ShLVal g94_U) := fun (x : (List (Int × Int × Int)) × Int × Unit × Unit) => g94 m x.1 x.2.1
def g94_T (m : Nat) : FunT := ⟨94, g94_A, g94_S, g94_U, g94_R m⟩
noncomputable def g94_C : Code := codeOf Tryz.f94
noncomputable def g94_B0 : Code := loopAt g94_C 0 0
theorem g94_B0_ls : loopsL g94_B0 0 = [] := by kernel_rfl
noncomputable def g94_B2 : Code := loopAt g94_C 0 1
noncomputable def g94_B4 : Code := loopAt g94_B2 2 0
theorem g94_B4_ls : loopsL g94_B4 4 = [] := by kernel_rfl
theorem g94_B2_ls : loopsL g94_B2 2 = [(4, g94_B4)] := by kernel_rfl
theorem g94_C_ls : loopsL g94_C 0 = [(0, g94_B0), (2, g94_B2)] := by kernel_rfl
abbrev g94_L2_I : SS := [(0, .a (.c (.nm 0 (.pr (.int .i64) (.pr (.int .i64) (.int .u64)))))), (1, .a (.c (.int .i64))), (2, .a (.c (.fn 62))), (6, .a (.c (.int .i64))), (7, .a (.c (.int .i64))), (8, .a (.c (.int .i64)))]
abbrev g94_L2_O : List (Ex × SS) := [(.exit 4, [(0, .a (.c (.nm 0 (.pr (.int .i64) (.pr (.int .i64) (.int .u64)))))), (1, .a (.c (.int .i64))), (2, .a (.c (.fn 62))), (6, .a (.c (.int .i64))), (7, .a (.c (.int .i64)))])]
def g94_L2_R (m n : Nat) : g94_L2_I.Val → Option (outVal g94_L2_O) := (fun (x : (List (Int × Int × Int)) × Int × Unit × Int × Int × Int × Unit) => g94_L2 m n x.1 x.2.1 x.2.2.2.1 x.2.2.2.2.1 x.2.2.2.2.2.1)
def g94_L2_T (m n : Nat) : LoopT := ⟨4, g94_L2_I, g94_L2_O, g94_L2_R m n⟩
theorem g94_L2_kr (m n : Nat) (x : g94_L2_I.Val) : roundK (mkC (outVal g94_L2_O) [g130_T m, g131_T m]) (mkLp (outVal g94_L2_O) []) tt 63 g94_H g94_B4 4 (g94_L2_I.enc x) (Kl (ins := g94_L2_I) (outs := g94_L2_O) (g94_L2_R m n)) = g94_L2 m (n + 1) x.1 x.2.1 x.2.2.2.1 x.2.2.2.2.1 x.2.2.2.2.2.1 := by kernel_rfl
theorem g94_L2_ok {E : Entry} (hE : EOf Tryz.prog E 63 g94_H.pins) (m : Nat) (n : Nat) : LoopOK Tryz.prog E g94_B4 (g94_L2_T m n) :=
  loop_ok (CO := CallOK Tryz.prog) hmix htt (fun _ _ _ _ h => h) hE (C := fun R => mkC R [g130_T m, g131_T m]) (L := []) (fun _ _ _ _ _ h => mkC_spec (AllF.mem (l := [g130_T m, g131_T m]) ⟨g130_ok m, g131_ok m, trivial⟩) h) (fun _ _ => loopsIn_of g94_B4_ls trivial) (fun n => (g94_L2_R m n)) (fun _ => by kernel_rfl) (fun n x => (g94_L2_kr m n x).trans (by kernel_rfl)) n
abbrev g94_L1_I : SS := [(0, .a (.c (.nm 0 (.pr (.int .i64) (.pr (.int .i64) (.int .u64)))))), (1, .a (.c (.int .i64))), (2, .a (.c (.fn 62))), (6, .a (.c (.int .i64)))]
abbrev g94_L1_O : List (Ex × SS) := [(.exit 2, [(0, .a (.c (.nm 0 (.pr (.int .i64) (.pr (.int .i64) (.int .u64))))))])]
def g94_L1_R (m n : Nat) : g94_L1_I.Val → Option (outVal g94_L1_O) := (fun (x : (List (Int × Int × Int)) × Int × Unit × Int × Unit) => g94_L1 m n x.1 x.2.1 x.2.2.2.1)
def g94_L1_T (m n : Nat) : LoopT := ⟨2, g94_L1_I, g94_L1_O, g94_L1_R m n⟩
theorem g94_L1_kr (m n : Nat) (x : g94_L1_I.Val) : roundK (mkC (outVal g94_L1_O) [g130_T m, g131_T m]) (mkLp (outVal g94_L1_O) [g94_L2_T m m]) tt 63 g94_H g94_B2 2 (g94_L1_I.enc x) (Kl (ins := g94_L1_I) (outs := g94_L1_O) (g94_L1_R m n)) = g94_L1 m (n + 1) x.1 x.2.1 x.2.2.2.1 := by kernel_rfl
theorem g94_L1_ok {E : Entry} (hE : EOf Tryz.prog E 63 g94_H.pins) (m : Nat) (n : Nat) : LoopOK Tryz.prog E g94_B2 (g94_L1_T m n) :=
  loop_ok (CO := CallOK Tryz.prog) hmix htt (fun _ _ _ _ h => h) hE (C := fun R => mkC R [g130_T m, g131_T m]) (L := [g94_L2_T m m]) (fun _ _ _ _ _ h => mkC_spec (AllF.mem (l := [g130_T m, g131_T m]) ⟨g130_ok m, g131_ok m, trivial⟩) h) (fun _ _ => loopsIn_of g94_B2_ls ⟨mkLp_all ⟨fun _ => g94_L2_ok hE m m, trivial⟩, trivial⟩) (fun n => (g94_L1_R m n)) (fun _ => by kernel_rfl) (fun n x => (g94_L1_kr m n x).trans (by kernel_rfl)) n
abbrev g94_L0_I : SS := [(0, .a (.c (.nm 0 (.pr (.int .i64) (.pr (.int .i64) (.int .u64)))))), (1, .a (.c (.int .i64))), (2, .a (.c (.fn 62))), (6, .a (.c (.int .i64))), (7, .a (.c (.int .i64))), (8, .a (.c (.int .i64)))]
abbrev g94_L0_O : List (Ex × SS) := [(.exit 0, [(0, .a (.c (.nm 0 (.pr (.int .i64) (.pr (.int .i64) (.int .u64)))))), (1, .a (.c (.int .i64))), (2, .a (.c (.fn 62))), (6, .a (.c (.int .i64))), (7, .a (.c (.int .i64)))])]
def g94_L0_R (m n : Nat) : g94_L0_I.Val → Option (outVal g94_L0_O) := (fun (x : (List (Int × Int × Int)) × Int × Unit × Int × Int × Int × Unit) => g94_L0 m n x.1 x.2.1 x.2.2.2.1 x.2.2.2.2.1 x.2.2.2.2.2.1)
def g94_L0_T (m n : Nat) : LoopT := ⟨0, g94_L0_I, g94_L0_O, g94_L0_R m n⟩
theorem g94_L0_kr (m n : Nat) (x : g94_L0_I.Val) : roundK (mkC (outVal g94_L0_O) [g130_T m, g131_T m]) (mkLp (outVal g94_L0_O) []) tt 63 g94_H g94_B0 0 (g94_L0_I.enc x) (Kl (ins := g94_L0_I) (outs := g94_L0_O) (g94_L0_R m n)) = g94_L0 m (n + 1) x.1 x.2.1 x.2.2.2.1 x.2.2.2.2.1 x.2.2.2.2.2.1 := by kernel_rfl
theorem g94_L0_ok {E : Entry} (hE : EOf Tryz.prog E 63 g94_H.pins) (m : Nat) (n : Nat) : LoopOK Tryz.prog E g94_B0 (g94_L0_T m n) :=
  loop_ok (CO := CallOK Tryz.prog) hmix htt (fun _ _ _ _ h => h) hE (C := fun R => mkC R [g130_T m, g131_T m]) (L := []) (fun _ _ _ _ _ h => mkC_spec (AllF.mem (l := [g130_T m, g131_T m]) ⟨g130_ok m, g131_ok m, trivial⟩) h) (fun _ _ => loopsIn_of g94_B0_ls trivial) (fun n => (g94_L0_R m n)) (fun _ => by kernel_rfl) (fun n x => (g94_L0_kr m n x).trans (by kernel_rfl)) n
theorem g94_kr (m : Nat) (x : ShLVal g94_A) : fnK (mkC (g94_S.Val × ShLVal g94_U) [g130_T m, g131_T m]) (mkLp (g94_S.Val × ShLVal g94_U) [g94_L0_T m m, g94_L1_T m m]) tt g94_H Tryz.f94 (encS g94_A x) (Kd g94_S g94_U) = g94 m x.1 x.2.1 := by kernel_rfl
theorem g94_ok (m : Nat) : FunOK Tryz.prog (g94_T m) :=
  fun_ok hmix htt (g94_T m) Tryz.func94 (c := g94_C) (by kernel_rfl) (by kernel_rfl) (Lc := [g130_T m, g131_T m]) (AllF.mem (l := [g130_T m, g131_T m]) ⟨g130_ok m, g131_ok m, trivial⟩) (L := [g94_L0_T m m, g94_L1_T m m]) (fun _ hE _ _ => loopsIn_of g94_C_ls ⟨mkLp_all ⟨fun _ => g94_L0_ok hE m m, fun h => absurd (show (2 : Nat) = 0 from h) (by decide), trivial⟩, mkLp_all ⟨fun h => absurd (show (0 : Nat) = 2 from h) (by decide), fun _ => g94_L1_ok hE m m, trivial⟩, trivial⟩) (fun x => (g94_kr m x).trans (by kernel_rfl))
/-! 61 slices.SortStableFunc___sparse/api.Entry_sparse/api.Entry_ -/
def g61_H : Hints := { regs := [⟨[(3, 1), (4, 11)], [0]⟩], heads := [], exits := [], rets := [0], pins := [0], spec := [] }
abbrev g61_A : List Sh := [.a (.c (.nm 0 (.pr (.int .i64) (.pr (.int .i64) (.int .u64))))), .a (.c (.fn 62))]
abbrev g61_S : Sh := .tup []
abbrev g61_U : List Sh := [.a (.c (.nm 0 (.pr (.int .i64) (.pr (.int .i64) (.int .u64))))), .a (.c .dead)]
def g61_R (m : Nat) : ShLVal g61_A → Option (g61_S.Val × ShLVal g61_U) := fun (x : (List (Int × Int × Int)) × Unit × Unit) => g61 m x.1
def g61_T (m : Nat) : FunT := ⟨61, g61_A, g61_S, g61_U, g61_R m⟩
noncomputable def g61_C : Code := codeOf Tryz.f61
theorem g61_C_ls : loopsL g61_C 0 = [] := by kernel_rfl
theorem g61_kr (m : Nat) (x : ShLVal g61_A) : fnK (mkC (g61_S.Val × ShLVal g61_U) [g94_T m]) (mkLp (g61_S.Val × ShLVal g61_U) []) tt g61_H Tryz.f61 (encS g61_A x) (Kd g61_S g61_U) = g61 m x.1 := by kernel_rfl
theorem g61_ok (m : Nat) : FunOK Tryz.prog (g61_T m) :=
  fun_ok hmix htt (g61_T m) Tryz.func61 (c := g61_C) (by kernel_rfl) (by kernel_rfl) (Lc := [g94_T m]) (AllF.mem (l := [g94_T m]) ⟨g94_ok m, trivial⟩) (L := []) (fun _ hE _ _ => loopsIn_of g61_C_ls trivial) (fun x => (g61_kr m x).trans (by kernel_rfl))
/-! 33 sparse/matrix.sorted -/
def g33_H : Hints := { regs := [⟨[], [0]⟩, ⟨[(0, 1)], [0]⟩, ⟨[(1, 11)], [0]⟩, ⟨[(0, 1)], [2]⟩], heads := [], exits := [], rets := [2], pins := [], spec := [[true]] }
abbrev g33_A : List Sh := [.a (.c (.imm (.pr (.int .i64) (.pr (.int .i64) (.int .u64)))))]
abbrev g33_S : Sh := .a (.c (.nm 0 (.pr (.int .i64) (.pr (.int .i64) (.int .u64)))))
abbrev g33_U : List Sh := [.a (.c .dead)]
def g33_R (m : Nat) : ShLVal g33_A → Option (g33_S.Val × ShLVal g33_U) := fun (x : (List (Int × Int × Int)) × Unit) => g33 m x.1
def g33_T (m : Nat) : FunT := ⟨33, g33_A, g33_S, g33_U, g33_R m⟩
noncomputable def g33_C : Code := codeOf Tryz.f33
theorem g33_C_ls : loopsL g33_C 0 = [] := by kernel_rfl
theorem g33_kr (m : Nat) (x : ShLVal g33_A) : fnK (mkC (g33_S.Val × ShLVal g33_U) [g60_T m, g61_T m]) (mkLp (g33_S.Val × ShLVal g33_U) []) tt g33_H Tryz.f33 (encS g33_A x) (Kd g33_S g33_U) = g33 m x.1 := by kernel_rfl
theorem g33_ok (m : Nat) : FunOK Tryz.prog (g33_T m) :=
  fun_ok hmix htt (g33_T m) Tryz.func33 (c := g33_C) (by kernel_rfl) (by kernel_rfl) (Lc := [g60_T m, g61_T m]) (AllF.mem (l := [g60_T m, g61_T m]) ⟨g60_ok m, g61_ok m, trivial⟩) (L := []) (fun _ hE _ _ => loopsIn_of g33_C_ls trivial) (fun x => (g33_kr m x).trans (by kernel_rfl))
/-! 109 sparse/integer.trim -/
def g109_H : Hints := { regs := [⟨[], [0]⟩, ⟨[], [0, 3]⟩, ⟨[(2, 1)], [0, 3, 15]⟩, ⟨[(0, 1)], [0, 3]⟩, ⟨[(0, 1), (1, 1)], [2]⟩], heads := [(0, [0, 3])], exits := [(0, [0, 3]), (1, [0, 3])], rets := [2], pins := [], spec := [[false]] }
abbrev g109_A : List Sh := [.a (.c (.imm (.int .u32)))]
abbrev g109_S : Sh := .a (.c (.imm (.int .u32)))
abbrev g109_U : List Sh := [.a (.c .dead)]
def g109_R (m : Nat) : ShLVal g109_A → Option (g109_S.Val × ShLVal g109_U) := fun (x : List Int × Unit) => g109 m x.1
def g109_T (m : Nat) : FunT := ⟨109, g109_A, g109_S, g109_U, g109_R m⟩
noncomputable def g109_C : Code := codeOf Tryz.f109
noncomputable def g109_B0 : Code := loopAt g109_C 0 0
theorem g109_B0_ls : loopsL g109_B0 0 = [] := by kernel_rfl
theorem g109_C_ls : loopsL g109_C 0 = [(0, g109_B0)] := by kernel_rfl
abbrev g109_L0_I : SS := [(0, .a (.c (.imm (.int .u32)))), (3, .a (.c (.int .i64)))]
abbrev g109_L0_O : List (Ex × SS) := [(.exit 0, [(0, .a (.c (.imm (.int .u32)))), (3, .a (.c (.int .i64)))])]
def g109_L0_R (m n : Nat) : g109_L0_I.Val → Option (outVal g109_L0_O) := (fun (x : List Int × Int × Unit) => g109_L0 m n x.1 x.2.1)
def g109_L0_T (m n : Nat) : LoopT := ⟨0, g109_L0_I, g109_L0_O, g109_L0_R m n⟩
theorem g109_L0_kr (m n : Nat) (x : g109_L0_I.Val) : roundK (mkC (outVal g109_L0_O) []) (mkLp (outVal g109_L0_O) []) tt 21 g109_H g109_B0 0 (g109_L0_I.enc x) (Kl (ins := g109_L0_I) (outs := g109_L0_O) (g109_L0_R m n)) = g109_L0 m (n + 1) x.1 x.2.1 := by kernel_rfl
theorem g109_L0_ok {E : Entry} (hE : EOf Tryz.prog E 21 g109_H.pins) (m : Nat) (n : Nat) : LoopOK Tryz.prog E g109_B0 (g109_L0_T m n) :=
  loop_ok (CO := CallOK Tryz.prog) hmix htt (fun _ _ _ _ h => h) hE (C := fun R => mkC R []) (L := []) (fun _ _ _ _ _ h => mkC_spec (AllF.mem (l := []) trivial) h) (fun _ _ => loopsIn_of g109_B0_ls trivial) (fun n => (g109_L0_R m n)) (fun _ => by kernel_rfl) (fun n x => (g109_L0_kr m n x).trans (by kernel_rfl)) n
theorem g109_kr (m : Nat) (x : ShLVal g109_A) : fnK (mkC (g109_S.Val × ShLVal g109_U) []) (mkLp (g109_S.Val × ShLVal g109_U) [g109_L0_T m m]) tt g109_H Tryz.f109 (encS g109_A x) (Kd g109_S g109_U) = g109 m x.1 := by kernel_rfl
theorem g109_ok (m : Nat) : FunOK Tryz.prog (g109_T m) :=
  fun_ok hmix htt (g109_T m) Tryz.func109 (c := g109_C) (by kernel_rfl) (by kernel_rfl) (Lc := []) (AllF.mem (l := []) trivial) (L := [g109_L0_T m m]) (fun _ hE _ _ => loopsIn_of g109_C_ls ⟨mkLp_all ⟨fun _ => g109_L0_ok hE m m, trivial⟩, trivial⟩) (fun x => (g109_kr m x).trans (by kernel_rfl))
/-! 96 sparse/integer.big -/
def g96_H : Hints := { regs := [⟨[], [0, 1, 4]⟩, ⟨[(0, 1)], [0, 1, 4]⟩, ⟨[], [0, 1, 4, 9]⟩, ⟨[], [4]⟩, ⟨[(0, 1), (1, 1)], [4]⟩], heads := [], exits := [], rets := [4], pins := [], spec := [[false, false]] }
abbrev g96_A : List Sh := [.a (.c .bool), .a (.c (.imm (.int .u32)))]
abbrev g96_S : Sh := .a (.agg [.bool, (.imm (.int .u32))])
abbrev g96_U : List Sh := [.a (.c .dead), .a (.c .dead)]
def g96_R (m : Nat) : ShLVal g96_A → Option (g96_S.Val × ShLVal g96_U) := fun (x : Bool × List Int × Unit) => g96 m x.1 x.2.1
def g96_T (m : Nat) : FunT := ⟨96, g96_A, g96_S, g96_U, g96_R m⟩
noncomputable def g96_C : Code := codeOf Tryz.f96
theorem g96_C_ls : loopsL g96_C 0 = [] := by kernel_rfl
theorem g96_kr (m : Nat) (x : ShLVal g96_A) : fnK (mkC (g96_S.Val × ShLVal g96_U) [g109_T m]) (mkLp (g96_S.Val × ShLVal g96_U) []) tt g96_H Tryz.f96 (encS g96_A x) (Kd g96_S g96_U) = g96 m x.1 x.2.1 := by kernel_rfl
theorem g96_ok (m : Nat) : FunOK Tryz.prog (g96_T m) :=
  fun_ok hmix htt (g96_T m) Tryz.func96 (c := g96_C) (by kernel_rfl) (by kernel_rfl) (Lc := [g109_T m]) (AllF.mem (l := [g109_T m]) ⟨g109_ok m, trivial⟩) (L := []) (fun _ hE _ _ => loopsIn_of g96_C_ls trivial) (fun x => (g96_kr m x).trans (by kernel_rfl))
/-! 65 sparse/integer.FromInt -/
def g65_H : Hints := { regs := [⟨[], [0, 2]⟩, ⟨[], [0, 2, 3]⟩, ⟨[], [0, 2, 3, 7]⟩, ⟨[(0, 1)], [0, 2, 3]⟩, ⟨[(0, 1)], [2]⟩], heads := [], exits := [], rets := [2], pins := [], spec := [[false, false]] }
abbrev g65_A : List Sh := [.a (.c (.int .i64))]
abbrev g65_S : Sh := .a (.agg [.bool, (.imm (.int .u32))])
abbrev g65_U : List Sh := [.a (.c .dead)]
def g65_R (m : Nat) : ShLVal g65_A → Option (g65_S.Val × ShLVal g65_U) := fun (x : Int × Unit) => g65 m x.1
def g65_T (m : Nat) : FunT := ⟨65, g65_A, g65_S, g65_U, g65_R m⟩
noncomputable def g65_C : Code := codeOf Tryz.f65
theorem g65_C_ls : loopsL g65_C 0 = [] := by kernel_rfl
theorem g65_kr (m : Nat) (x : ShLVal g65_A) : fnK (mkC (g65_S.Val × ShLVal g65_U) [g96_T m]) (mkLp (g65_S.Val × ShLVal g65_U) []) tt g65_H Tryz.f65 (encS g65_A x) (Kd g65_S g65_U) = g65 m x.1 := by kernel_rfl
theorem g65_ok (m : Nat) : FunOK Tryz.prog (g65_T m) :=
  fun_ok hmix htt (g65_T m) Tryz.func65 (c := g65_C) (by kernel_rfl) (by kernel_rfl) (Lc := [g96_T m]) (AllF.mem (l := [g96_T m]) ⟨g96_ok m, trivial⟩) (L := []) (fun _ hE _ _ => loopsIn_of g65_C_ls trivial) (fun x => (g65_kr m x).trans (by kernel_rfl))
/-! 66 sparse/float.negative -/
def g66_H : Hints := { regs := [⟨[], [0]⟩, ⟨[(0, 1)], [2]⟩], heads := [], exits := [], rets := [2], pins := [], spec := [[false]] }
abbrev g66_A : List Sh := [.a (.c (.int .u64))]
abbrev g66_S : Sh := .a (.c .bool)
abbrev g66_U : List Sh := [.a (.c .dead)]
def g66_R (m : Nat) : ShLVal g66_A → Option (g66_S.Val × ShLVal g66_U) := fun (x : Int × Unit) => g66 m x.1
def g66_T (m : Nat) : FunT := ⟨66, g66_A, g66_S, g66_U, g66_R m⟩
noncomputable def g66_C : Code := codeOf Tryz.f66
theorem g66_C_ls : loopsL g66_C 0 = [] := by kernel_rfl
theorem g66_kr (m : Nat) (x : ShLVal g66_A) : fnK (mkC (g66_S.Val × ShLVal g66_U) []) (mkLp (g66_S.Val × ShLVal g66_U) []) tt g66_H Tryz.f66 (encS g66_A x) (Kd g66_S g66_U) = g66 m x.1 := by kernel_rfl
theorem g66_ok (m : Nat) : FunOK Tryz.prog (g66_T m) :=
  fun_ok hmix htt (g66_T m) Tryz.func66 (c := g66_C) (by kernel_rfl) (by kernel_rfl) (Lc := []) (AllF.mem (l := []) trivial) (L := []) (fun _ hE _ _ => loopsIn_of g66_C_ls trivial) (fun x => (g66_kr m x).trans (by kernel_rfl))
/-! 97 slices.Clone___uint32_uint32_ -/
def g97_H : Hints := { regs := [⟨[], [0]⟩, ⟨[], [0]⟩, ⟨[], [2]⟩, ⟨[], [2]⟩], heads := [], exits := [], rets := [2], pins := [], spec := [[true]] }
abbrev g97_A : List Sh := [.a (.c (.imm (.int .u32)))]
abbrev g97_S : Sh := .a (.c (.nm 0 (.int .u32)))
abbrev g97_U : List Sh := [.a (.c .dead)]
def g97_R (m : Nat) : ShLVal g97_A → Option (g97_S.Val × ShLVal g97_U) := fun (x : List Int × Unit) => g97 m x.1
def g97_T (m : Nat) : FunT := ⟨97, g97_A, g97_S, g97_U, g97_R m⟩
noncomputable def g97_C : Code := codeOf Tryz.f97
theorem g97_ok (m : Nat) : FunOK Tryz.prog (g97_T m) :=
  clone_ok hmix htt (H := g97_H) (fn := Tryz.f97) (f := 97) (t := (.int .u32)) (ty := 60) (e := 120) (ty2 := 60) (k := 1) (cells := [.nil (.int .u32)]) (A := pA g97_C) (X := pX (pB (pA (pB g97_C)))) (Y := pB (pB g97_C)) (o0 := pO 0 (pA (pA (pB g97_C)))) (o1 := pO 1 (pA (pA (pB g97_C)))) Tryz.func97 (by kernel_rfl) (by kernel_rfl) (by kernel_rfl) (by kernel_rfl) (by kernel_rfl) (by kernel_rfl) (by kernel_rfl) (by kernel_rfl) (by kernel_rfl) (of_decide_eq_true (by kernel_rfl)) rfl (by kernel_rfl) (by kernel_rfl) (by kernel_rfl) (fun xs => [(0, .sl .imm (.int .u32) xs)]) (fun xs => [(2, .sl (.nm 0) (.int .u32) xs)]) (fun xs => by kernel_rfl) (fun _ => rfl) (fun _ => rfl) (fun _ => rfl) (by kernel_rfl) (fun xs => by kernel_rfl) (fun xs => by kernel_rfl)
/-! 67 sparse/integer.Neg -/
def g67_H : Hints := { regs := [⟨[], [1, 2]⟩, ⟨[], [2]⟩], heads := [], exits := [], rets := [2], pins := [], spec := [[false, false]] }
abbrev g67_A : List Sh := [.a (.agg [.bool, (.imm (.int .u32))])]
abbrev g67_S : Sh := .a (.agg [.bool, (.imm (.int .u32))])
abbrev g67_U : List Sh := [.a (.c .dead)]
def g67_R (m : Nat) : ShLVal g67_A → Option (g67_S.Val × ShLVal g67_U) := fun (x : (Bool × List Int × Unit) × Unit) => g67 m x.1.1 x.1.2.1
def g67_T (m : Nat) : FunT := ⟨67, g67_A, g67_S, g67_U, g67_R m⟩
noncomputable def g67_C : Code := codeOf Tryz.f67
theorem g67_C_ls : loopsL g67_C 0 = [] := by kernel_rfl
theorem g67_kr (m : Nat) (x : ShLVal g67_A) : fnK (mkC (g67_S.Val × ShLVal g67_U) [g97_T m, g96_T m]) (mkLp (g67_S.Val × ShLVal g67_U) []) tt g67_H Tryz.f67 (encS g67_A x) (Kd g67_S g67_U) = g67 m x.1.1 x.1.2.1 := by kernel_rfl
theorem g67_ok (m : Nat) : FunOK Tryz.prog (g67_T m) :=
  fun_ok hmix htt (g67_T m) Tryz.func67 (c := g67_C) (by kernel_rfl) (by kernel_rfl) (Lc := [g97_T m, g96_T m]) (AllF.mem (l := [g97_T m, g96_T m]) ⟨g97_ok m, g96_ok m, trivial⟩) (L := []) (fun _ hE _ _ => loopsIn_of g67_C_ls trivial) (fun x => (g67_kr m x).trans (by kernel_rfl))
/-! 74 sparse/dyad.bad -/
def g74_H : Hints := { regs := [⟨[], [0]⟩, ⟨[], [0]⟩], heads := [], exits := [], rets := [0], pins := [], spec := [[false, false, true, false]] }
abbrev g74_A : List Sh := []
abbrev g74_S : Sh := .a (.agg [.bool, .bool, (.nm 0 (.int .u32)), (.int .i64)])
abbrev g74_U : List Sh := []
def g74_R (m : Nat) : ShLVal g74_A → Option (g74_S.Val × ShLVal g74_U) := fun (x : Unit) => g74 m
def g74_T (m : Nat) : FunT := ⟨74, g74_A, g74_S, g74_U, g74_R m⟩
noncomputable def g74_C : Code := codeOf Tryz.f74
theorem g74_C_ls : loopsL g74_C 0 = [] := by kernel_rfl
theorem g74_kr (m : Nat) (x : ShLVal g74_A) : fnK (mkC (g74_S.Val × ShLVal g74_U) []) (mkLp (g74_S.Val × ShLVal g74_U) []) tt g74_H Tryz.f74 (encS g74_A x) (Kd g74_S g74_U) = g74 m := by kernel_rfl
theorem g74_ok (m : Nat) : FunOK Tryz.prog (g74_T m) :=
  fun_ok hmix htt (g74_T m) Tryz.func74 (c := g74_C) (by kernel_rfl) (by kernel_rfl) (Lc := []) (AllF.mem (l := []) trivial) (L := []) (fun _ hE _ _ => loopsIn_of g74_C_ls trivial) (fun x => (g74_kr m x).trans (by kernel_rfl))
/-! 105 sparse/integer.Norm -/
def g105_H : Hints := { regs := [⟨[], [1, 2]⟩, ⟨[], [2]⟩], heads := [], exits := [], rets := [2], pins := [], spec := [[false, false]] }
abbrev g105_A : List Sh := [.a (.agg [.bool, (.imm (.int .u32))])]
abbrev g105_S : Sh := .a (.agg [.bool, (.imm (.int .u32))])
abbrev g105_U : List Sh := [.a (.c .dead)]
def g105_R (m : Nat) : ShLVal g105_A → Option (g105_S.Val × ShLVal g105_U) := fun (x : (Bool × List Int × Unit) × Unit) => g105 m x.1.1 x.1.2.1
def g105_T (m : Nat) : FunT := ⟨105, g105_A, g105_S, g105_U, g105_R m⟩
noncomputable def g105_C : Code := codeOf Tryz.f105
theorem g105_C_ls : loopsL g105_C 0 = [] := by kernel_rfl
theorem g105_kr (m : Nat) (x : ShLVal g105_A) : fnK (mkC (g105_S.Val × ShLVal g105_U) [g97_T m, g96_T m]) (mkLp (g105_S.Val × ShLVal g105_U) []) tt g105_H Tryz.f105 (encS g105_A x) (Kd g105_S g105_U) = g105 m x.1.1 x.1.2.1 := by kernel_rfl
theorem g105_ok (m : Nat) : FunOK Tryz.prog (g105_T m) :=
  fun_ok hmix htt (g105_T m) Tryz.func105 (c := g105_C) (by kernel_rfl) (by kernel_rfl) (Lc := [g97_T m, g96_T m]) (AllF.mem (l := [g97_T m, g96_T m]) ⟨g97_ok m, g96_ok m, trivial⟩) (L := []) (fun _ hE _ _ => loopsIn_of g105_C_ls trivial) (fun x => (g105_kr m x).trans (by kernel_rfl))
/-! 98 sparse/integer.Sign -/
def g98_H : Hints := { regs := [⟨[], [1]⟩, ⟨[], [1, 3]⟩, ⟨[], [2]⟩, ⟨[], [9]⟩, ⟨[], [2]⟩, ⟨[], [2]⟩], heads := [], exits := [(0, [])], rets := [2], pins := [], spec := [[false]] }
abbrev g98_A : List Sh := [.a (.agg [.bool, (.imm (.int .u32))])]
abbrev g98_S : Sh := .a (.c (.int .i64))
abbrev g98_U : List Sh := [.a (.c .dead)]
def g98_R (m : Nat) : ShLVal g98_A → Option (g98_S.Val × ShLVal g98_U) := fun (x : (Bool × List Int × Unit) × Unit) => g98 m x.1.1 x.1.2.1
def g98_T (m : Nat) : FunT := ⟨98, g98_A, g98_S, g98_U, g98_R m⟩
noncomputable def g98_C : Code := codeOf Tryz.f98
theorem g98_C_ls : loopsL g98_C 0 = [] := by kernel_rfl
theorem g98_kr (m : Nat) (x : ShLVal g98_A) : fnK (mkC (g98_S.Val × ShLVal g98_U) [g109_T m]) (mkLp (g98_S.Val × ShLVal g98_U) []) tt g98_H Tryz.f98 (encS g98_A x) (Kd g98_S g98_U) = g98 m x.1.1 x.1.2.1 := by kernel_rfl
theorem g98_ok (m : Nat) : FunOK Tryz.prog (g98_T m) :=
  fun_ok hmix htt (g98_T m) Tryz.func98 (c := g98_C) (by kernel_rfl) (by kernel_rfl) (Lc := [g109_T m]) (AllF.mem (l := [g109_T m]) ⟨g109_ok m, trivial⟩) (L := []) (fun _ hE _ _ => loopsIn_of g98_C_ls trivial) (fun x => (g98_kr m x).trans (by kernel_rfl))
/-! 133 math/bits.TrailingZeros32 -/
def g133_H : Hints := { regs := [⟨[], [0]⟩, ⟨[], [0, 4]⟩, ⟨[], [2]⟩, ⟨[], [2]⟩], heads := [], exits := [], rets := [2], pins := [], spec := [[false]] }
abbrev g133_A : List Sh := [.a (.c (.int .u32))]
abbrev g133_S : Sh := .a (.c (.int .i64))
abbrev g133_U : List Sh := [.a (.c .dead)]
def g133_R (m : Nat) : ShLVal g133_A → Option (g133_S.Val × ShLVal g133_U) := fun (x : Int × Unit) => g133 m x.1
def g133_T (m : Nat) : FunT := ⟨133, g133_A, g133_S, g133_U, g133_R m⟩
noncomputable def g133_C : Code := codeOf Tryz.f133
theorem g133_C_ls : loopsL g133_C 0 = [] := by kernel_rfl
theorem g133_kr (m : Nat) (x : ShLVal g133_A) : fnK (mkC (g133_S.Val × ShLVal g133_U) []) (mkLp (g133_S.Val × ShLVal g133_U) []) tt g133_H Tryz.f133 (encS g133_A x) (Kd g133_S g133_U) = g133 m x.1 := by kernel_rfl
theorem g133_ok (m : Nat) : FunOK Tryz.prog (g133_T m) :=
  fun_ok hmix htt (g133_T m) Tryz.func133 (c := g133_C) (by kernel_rfl) (by kernel_rfl) (Lc := []) (AllF.mem (l := []) trivial) (L := []) (fun _ hE _ _ => loopsIn_of g133_C_ls trivial) (fun x => (g133_kr m x).trans (by kernel_rfl))
/-! 106 sparse/integer.TrailingZeros -/
def g106_H : Hints := { regs := [⟨[], [1]⟩, ⟨[], [6, 7, 8]⟩, ⟨[], [6, 7, 8, 9]⟩, ⟨[], [3, 4, 6, 7, 8]⟩, ⟨[], [3, 4, 6, 7, 8, 14]⟩, ⟨[(0, 1), (2, 1)], [2]⟩, ⟨[(1, 1)], [6, 7, 8]⟩, ⟨[], [2]⟩], heads := [(0, [6, 7, 8])], exits := [(0, []), (1, [6, 7, 8])], rets := [2], pins := [], spec := [[false]] }
abbrev g106_A : List Sh := [.a (.agg [.bool, (.imm (.int .u32))])]
abbrev g106_S : Sh := .a (.c (.int .i64))
abbrev g106_U : List Sh := [.a (.c .dead)]
def g106_R (m : Nat) : ShLVal g106_A → Option (g106_S.Val × ShLVal g106_U) := fun (x : (Bool × List Int × Unit) × Unit) => g106 m x.1.1 x.1.2.1
def g106_T (m : Nat) : FunT := ⟨106, g106_A, g106_S, g106_U, g106_R m⟩
noncomputable def g106_C : Code := codeOf Tryz.f106
noncomputable def g106_B0 : Code := loopAt g106_C 0 0
theorem g106_B0_ls : loopsL g106_B0 0 = [] := by kernel_rfl
theorem g106_C_ls : loopsL g106_C 0 = [(0, g106_B0)] := by kernel_rfl
abbrev g106_L0_I : SS := [(6, .a (.c (.imm (.int .u32)))), (7, .a (.c (.int .i64))), (8, .a (.c (.int .i64)))]
abbrev g106_L0_O : List (Ex × SS) := [(.ret, [(2, .a (.c (.int .i64)))]), (.exit 0, [])]
def g106_L0_R (m n : Nat) : g106_L0_I.Val → Option (outVal g106_L0_O) := (fun (x : List Int × Int × Int × Unit) => g106_L0 m n x.1 x.2.1 x.2.2.1)
def g106_L0_T (m n : Nat) : LoopT := ⟨0, g106_L0_I, g106_L0_O, g106_L0_R m n⟩
theorem g106_L0_kr (m n : Nat) (x : g106_L0_I.Val) : roundK (mkC (outVal g106_L0_O) [g133_T m]) (mkLp (outVal g106_L0_O) []) tt 21 g106_H g106_B0 0 (g106_L0_I.enc x) (Kl (ins := g106_L0_I) (outs := g106_L0_O) (g106_L0_R m n)) = g106_L0 m (n + 1) x.1 x.2.1 x.2.2.1 := by kernel_rfl
theorem g106_L0_ok {E : Entry} (hE : EOf Tryz.prog E 21 g106_H.pins) (m : Nat) (n : Nat) : LoopOK Tryz.prog E g106_B0 (g106_L0_T m n) :=
  loop_ok (CO := CallOK Tryz.prog) hmix htt (fun _ _ _ _ h => h) hE (C := fun R => mkC R [g133_T m]) (L := []) (fun _ _ _ _ _ h => mkC_spec (AllF.mem (l := [g133_T m]) ⟨g133_ok m, trivial⟩) h) (fun _ _ => loopsIn_of g106_B0_ls trivial) (fun n => (g106_L0_R m n)) (fun _ => by kernel_rfl) (fun n x => (g106_L0_kr m n x).trans (by kernel_rfl)) n
theorem g106_kr (m : Nat) (x : ShLVal g106_A) : fnK (mkC (g106_S.Val × ShLVal g106_U) [g133_T m]) (mkLp (g106_S.Val × ShLVal g106_U) [g106_L0_T m m]) tt g106_H Tryz.f106 (encS g106_A x) (Kd g106_S g106_U) = g106 m x.1.1 x.1.2.1 := by kernel_rfl
theorem g106_ok (m : Nat) : FunOK Tryz.prog (g106_T m) :=
  fun_ok hmix htt (g106_T m) Tryz.func106 (c := g106_C) (by kernel_rfl) (by kernel_rfl) (Lc := [g133_T m]) (AllF.mem (l := [g133_T m]) ⟨g133_ok m, trivial⟩) (L := [g106_L0_T m m]) (fun _ hE _ _ => loopsIn_of g106_C_ls ⟨mkLp_all ⟨fun _ => g106_L0_ok hE m m, trivial⟩, trivial⟩) (fun x => (g106_kr m x).trans (by kernel_rfl))
/-! 140 math/bits.Len32 -/
def g140_H : Hints := { regs := [⟨[], [0, 2]⟩, ⟨[], [0, 2, 4]⟩, ⟨[(0, 1)], [0]⟩, ⟨[], [0, 2]⟩, ⟨[], [0, 2, 8]⟩, ⟨[(0, 1)], [0, 2]⟩, ⟨[(0, 1)], [0, 2]⟩, ⟨[(0, 1), (1, 1)], [2]⟩], heads := [], exits := [], rets := [2], pins := [], spec := [[false]] }
abbrev g140_A : List Sh := [.a (.c (.int .u32))]
abbrev g140_S : Sh := .a (.c (.int .i64))
abbrev g140_U : List Sh := [.a (.c .dead)]
def g140_R (m : Nat) : ShLVal g140_A → Option (g140_S.Val × ShLVal g140_U) := fun (x : Int × Unit) => g140 m x.1
def g140_T (m : Nat) : FunT := ⟨140, g140_A, g140_S, g140_U, g140_R m⟩
noncomputable def g140_C : Code := codeOf Tryz.f140
theorem g140_C_ls : loopsL g140_C 0 = [] := by kernel_rfl
theorem g140_kr (m : Nat) (x : ShLVal g140_A) : fnK (mkC (g140_S.Val × ShLVal g140_U) []) (mkLp (g140_S.Val × ShLVal g140_U) []) tt g140_H Tryz.f140 (encS g140_A x) (Kd g140_S g140_U) = g140 m x.1 := by kernel_rfl
theorem g140_ok (m : Nat) : FunOK Tryz.prog (g140_T m) :=
  fun_ok hmix htt (g140_T m) Tryz.func140 (c := g140_C) (by kernel_rfl) (by kernel_rfl) (Lc := []) (AllF.mem (l := []) trivial) (L := []) (fun _ hE _ _ => loopsIn_of g140_C_ls trivial) (fun x => (g140_kr m x).trans (by kernel_rfl))
/-! 134 sparse/integer.length -/
def g134_H : Hints := { regs := [⟨[], [0]⟩, ⟨[], [0, 5]⟩, ⟨[], [2]⟩, ⟨[], [2]⟩], heads := [], exits := [], rets := [2], pins := [], spec := [[false]] }
abbrev g134_A : List Sh := [.a (.c (.imm (.int .u32)))]
abbrev g134_S : Sh := .a (.c (.int .i64))
abbrev g134_U : List Sh := [.a (.c .dead)]
def g134_R (m : Nat) : ShLVal g134_A → Option (g134_S.Val × ShLVal g134_U) := fun (x : List Int × Unit) => g134 m x.1
def g134_T (m : Nat) : FunT := ⟨134, g134_A, g134_S, g134_U, g134_R m⟩
noncomputable def g134_C : Code := codeOf Tryz.f134
theorem g134_C_ls : loopsL g134_C 0 = [] := by kernel_rfl
theorem g134_kr (m : Nat) (x : ShLVal g134_A) : fnK (mkC (g134_S.Val × ShLVal g134_U) [g140_T m]) (mkLp (g134_S.Val × ShLVal g134_U) []) tt g134_H Tryz.f134 (encS g134_A x) (Kd g134_S g134_U) = g134 m x.1 := by kernel_rfl
theorem g134_ok (m : Nat) : FunOK Tryz.prog (g134_T m) :=
  fun_ok hmix htt (g134_T m) Tryz.func134 (c := g134_C) (by kernel_rfl) (by kernel_rfl) (Lc := [g140_T m]) (AllF.mem (l := [g140_T m]) ⟨g140_ok m, trivial⟩) (L := []) (fun _ hE _ _ => loopsIn_of g134_C_ls trivial) (fun x => (g134_kr m x).trans (by kernel_rfl))
/-! 107 sparse/integer.BitLen -/
def g107_H : Hints := { regs := [⟨[], [1]⟩, ⟨[], [2]⟩], heads := [], exits := [], rets := [2], pins := [], spec := [[false]] }
abbrev g107_A : List Sh := [.a (.agg [.bool, (.imm (.int .u32))])]
abbrev g107_S : Sh := .a (.c (.int .i64))
abbrev g107_U : List Sh := [.a (.c .dead)]
def g107_R (m : Nat) : ShLVal g107_A → Option (g107_S.Val × ShLVal g107_U) := fun (x : (Bool × List Int × Unit) × Unit) => g107 m x.1.1 x.1.2.1
def g107_T (m : Nat) : FunT := ⟨107, g107_A, g107_S, g107_U, g107_R m⟩
noncomputable def g107_C : Code := codeOf Tryz.f107
theorem g107_C_ls : loopsL g107_C 0 = [] := by kernel_rfl
theorem g107_kr (m : Nat) (x : ShLVal g107_A) : fnK (mkC (g107_S.Val × ShLVal g107_U) [g109_T m, g134_T m]) (mkLp (g107_S.Val × ShLVal g107_U) []) tt g107_H Tryz.f107 (encS g107_A x) (Kd g107_S g107_U) = g107 m x.1.1 x.1.2.1 := by kernel_rfl
theorem g107_ok (m : Nat) : FunOK Tryz.prog (g107_T m) :=
  fun_ok hmix htt (g107_T m) Tryz.func107 (c := g107_C) (by kernel_rfl) (by kernel_rfl) (Lc := [g109_T m, g134_T m]) (AllF.mem (l := [g109_T m, g134_T m]) ⟨g109_ok m, g134_ok m, trivial⟩) (L := []) (fun _ hE _ _ => loopsIn_of g107_C_ls trivial) (fun x => (g107_kr m x).trans (by kernel_rfl))
/-! 136 sparse/integer.up -/
def g136_H : Hints := { regs := [⟨[], [0, 1]⟩, ⟨[], [0, 1, 13]⟩, ⟨[], [4]⟩, ⟨[], [0, 5, 6]⟩, ⟨[], [0, 5, 6, 7]⟩, ⟨[(0, 1)], [5, 6, 7, 25, 26, 27]⟩, ⟨[], [5, 6, 7, 25, 26, 27, 28]⟩, ⟨[], [5, 6, 7, 8, 9, 25, 26, 27]⟩, ⟨[(0, 1)], [5, 6, 7, 8, 10, 25, 26, 27]⟩, ⟨[], [5, 6, 7, 8, 10, 25, 26, 27]⟩, ⟨[(2, 1), (5, 1)], [5, 6, 7, 25, 26, 27]⟩, ⟨[(1, 1)], [5, 6, 7, 25, 26, 27]⟩, ⟨[(0, 1)], [4]⟩], heads := [(0, [5, 6, 7, 25, 26, 27])], exits := [(0, [7]), (1, [5, 6, 7, 25, 26, 27])], rets := [4], pins := [], spec := [[false]] }
abbrev g136_A : List Sh := [.a (.c (.imm (.int .u32))), .a (.c (.int .i64))]
abbrev g136_S : Sh := .a (.c (.imm (.int .u32)))
abbrev g136_U : List Sh := [.a (.c .dead), .a (.c .dead)]
def g136_R (m : Nat) : ShLVal g136_A → Option (g136_S.Val × ShLVal g136_U) := fun (x : List Int × Int × Unit) => g136 m x.1 x.2.1
def g136_T (m : Nat) : FunT := ⟨136, g136_A, g136_S, g136_U, g136_R m⟩
noncomputable def g136_C : Code := codeOf Tryz.f136
noncomputable def g136_B0 : Code := loopAt g136_C 0 0
theorem g136_B0_ls : loopsL g136_B0 0 = [] := by kernel_rfl
theorem g136_C_ls : loopsL g136_C 0 = [(0, g136_B0)] := by kernel_rfl
abbrev g136_L0_I : SS := [(5, .a (.c (.int .i64))), (6, .a (.c (.int .u64))), (7, .a (.c (.nm 0 (.int .u32)))), (25, .a (.c (.imm (.int .u32)))), (26, .a (.c (.int .i64))), (27, .a (.c (.int .i64)))]
abbrev g136_L0_O : List (Ex × SS) := [(.exit 0, [(7, .a (.c (.nm 0 (.int .u32))))])]
def g136_L0_R (m n : Nat) : g136_L0_I.Val → Option (outVal g136_L0_O) := (fun (x : Int × Int × List Int × List Int × Int × Int × Unit) => g136_L0 m n x.1 x.2.1 x.2.2.1 x.2.2.2.1 x.2.2.2.2.1 x.2.2.2.2.2.1)
def g136_L0_T (m n : Nat) : LoopT := ⟨0, g136_L0_I, g136_L0_O, g136_L0_R m n⟩
theorem g136_L0_kr (m n : Nat) (x : g136_L0_I.Val) : roundK (mkC (outVal g136_L0_O) [g109_T m]) (mkLp (outVal g136_L0_O) []) tt 59 g136_H g136_B0 0 (g136_L0_I.enc x) (Kl (ins := g136_L0_I) (outs := g136_L0_O) (g136_L0_R m n)) = g136_L0 m (n + 1) x.1 x.2.1 x.2.2.1 x.2.2.2.1 x.2.2.2.2.1 x.2.2.2.2.2.1 := by kernel_rfl
theorem g136_L0_ok {E : Entry} (hE : EOf Tryz.prog E 59 g136_H.pins) (m : Nat) (n : Nat) : LoopOK Tryz.prog E g136_B0 (g136_L0_T m n) :=
  loop_ok (CO := CallOK Tryz.prog) hmix htt (fun _ _ _ _ h => h) hE (C := fun R => mkC R [g109_T m]) (L := []) (fun _ _ _ _ _ h => mkC_spec (AllF.mem (l := [g109_T m]) ⟨g109_ok m, trivial⟩) h) (fun _ _ => loopsIn_of g136_B0_ls trivial) (fun n => (g136_L0_R m n)) (fun _ => by kernel_rfl) (fun n x => (g136_L0_kr m n x).trans (by kernel_rfl)) n
theorem g136_kr (m : Nat) (x : ShLVal g136_A) : fnK (mkC (g136_S.Val × ShLVal g136_U) [g109_T m]) (mkLp (g136_S.Val × ShLVal g136_U) [g136_L0_T m m]) tt g136_H Tryz.f136 (encS g136_A x) (Kd g136_S g136_U) = g136 m x.1 x.2.1 := by kernel_rfl
theorem g136_ok (m : Nat) : FunOK Tryz.prog (g136_T m) :=
  fun_ok hmix htt (g136_T m) Tryz.func136 (c := g136_C) (by kernel_rfl) (by kernel_rfl) (Lc := [g109_T m]) (AllF.mem (l := [g109_T m]) ⟨g109_ok m, trivial⟩) (L := [g136_L0_T m m]) (fun _ hE _ _ => loopsIn_of g136_C_ls ⟨mkLp_all ⟨fun _ => g136_L0_ok hE m m, trivial⟩, trivial⟩) (fun x => (g136_kr m x).trans (by kernel_rfl))
/-! 152 sparse/integer.down_1 -/
def g152_H : Hints := { regs := [⟨[], [0]⟩, ⟨[(0, 1)], [2]⟩], heads := [], exits := [], rets := [2], pins := [], spec := [[false]] }
abbrev g152_A : List Sh := [.a (.c (.int .u32))]
abbrev g152_S : Sh := .a (.c .bool)
abbrev g152_U : List Sh := [.a (.c .dead)]
def g152_R (m : Nat) : ShLVal g152_A → Option (g152_S.Val × ShLVal g152_U) := fun (x : Int × Unit) => g152 m x.1
def g152_T (m : Nat) : FunT := ⟨152, g152_A, g152_S, g152_U, g152_R m⟩
noncomputable def g152_C : Code := codeOf Tryz.f152
theorem g152_C_ls : loopsL g152_C 0 = [] := by kernel_rfl
theorem g152_kr (m : Nat) (x : ShLVal g152_A) : fnK (mkC (g152_S.Val × ShLVal g152_U) []) (mkLp (g152_S.Val × ShLVal g152_U) []) tt g152_H Tryz.f152 (encS g152_A x) (Kd g152_S g152_U) = g152 m x.1 := by kernel_rfl
theorem g152_ok (m : Nat) : FunOK Tryz.prog (g152_T m) :=
  fun_ok hmix htt (g152_T m) Tryz.func152 (c := g152_C) (by kernel_rfl) (by kernel_rfl) (Lc := []) (AllF.mem (l := []) trivial) (L := []) (fun _ hE _ _ => loopsIn_of g152_C_ls trivial) (fun x => (g152_kr m x).trans (by kernel_rfl))
/-! 158 slices.IndexFunc___uint32_uint32_ -/
def g158_H : Hints := { regs := [⟨[], [0, 1]⟩, ⟨[], [0, 1, 7, 8]⟩, ⟨[], [0, 1, 7, 8, 9]⟩, ⟨[], [0, 1, 5, 7, 8]⟩, ⟨[], [0, 1, 5, 7, 8, 16]⟩, ⟨[(0, 1)], [4]⟩, ⟨[(1, 1)], [0, 1, 7, 8]⟩, ⟨[], [4]⟩], heads := [(0, [0, 1, 7, 8])], exits := [(0, []), (1, [0, 1, 7, 8])], rets := [4], pins := [], spec := [[false]] }
abbrev g158_A : List Sh := [.a (.c (.imm (.int .u32))), .a (.c (.fn 152))]
abbrev g158_S : Sh := .a (.c (.int .i64))
abbrev g158_U : List Sh := [.a (.c .dead), .a (.c .dead)]
def g158_R (m : Nat) : ShLVal g158_A → Option (g158_S.Val × ShLVal g158_U) := fun (x : List Int × Unit × Unit) => g158 m x.1
def g158_T (m : Nat) : FunT := ⟨158, g158_A, g158_S, g158_U, g158_R m⟩
noncomputable def g158_C : Code := codeOf Tryz.f158
noncomputable def g158_B0 : Code := loopAt g158_C 0 0
theorem g158_B0_ls : loopsL g158_B0 0 = [] := by kernel_rfl
theorem g158_C_ls : loopsL g158_C 0 = [(0, g158_B0)] := by kernel_rfl
abbrev g158_L0_I : SS := [(0, .a (.c (.imm (.int .u32)))), (1, .a (.c (.fn 152))), (7, .a (.c (.int .i64))), (8, .a (.c (.int .i64)))]
abbrev g158_L0_O : List (Ex × SS) := [(.ret, [(4, .a (.c (.int .i64)))]), (.exit 0, [])]
def g158_L0_R (m n : Nat) : g158_L0_I.Val → Option (outVal g158_L0_O) := (fun (x : List Int × Unit × Int × Int × Unit) => g158_L0 m n x.1 x.2.2.1 x.2.2.2.1)
def g158_L0_T (m n : Nat) : LoopT := ⟨0, g158_L0_I, g158_L0_O, g158_L0_R m n⟩
theorem g158_L0_kr (m n : Nat) (x : g158_L0_I.Val) : roundK (mkC (outVal g158_L0_O) [g152_T m]) (mkLp (outVal g158_L0_O) []) tt 19 g158_H g158_B0 0 (g158_L0_I.enc x) (Kl (ins := g158_L0_I) (outs := g158_L0_O) (g158_L0_R m n)) = g158_L0 m (n + 1) x.1 x.2.2.1 x.2.2.2.1 := by kernel_rfl
theorem g158_L0_ok {E : Entry} (hE : EOf Tryz.prog E 19 g158_H.pins) (m : Nat) (n : Nat) : LoopOK Tryz.prog E g158_B0 (g158_L0_T m n) :=
  loop_ok (CO := CallOK Tryz.prog) hmix htt (fun _ _ _ _ h => h) hE (C := fun R => mkC R [g152_T m]) (L := []) (fun _ _ _ _ _ h => mkC_spec (AllF.mem (l := [g152_T m]) ⟨g152_ok m, trivial⟩) h) (fun _ _ => loopsIn_of g158_B0_ls trivial) (fun n => (g158_L0_R m n)) (fun _ => by kernel_rfl) (fun n x => (g158_L0_kr m n x).trans (by kernel_rfl)) n
theorem g158_kr (m : Nat) (x : ShLVal g158_A) : fnK (mkC (g158_S.Val × ShLVal g158_U) [g152_T m]) (mkLp (g158_S.Val × ShLVal g158_U) [g158_L0_T m m]) tt g158_H Tryz.f158 (encS g158_A x) (Kd g158_S g158_U) = g158 m x.1 := by kernel_rfl
theorem g158_ok (m : Nat) : FunOK Tryz.prog (g158_T m) :=
  fun_ok hmix htt (g158_T m) Tryz.func158 (c := g158_C) (by kernel_rfl) (by kernel_rfl) (Lc := [g152_T m]) (AllF.mem (l := [g152_T m]) ⟨g152_ok m, trivial⟩) (L := [g158_L0_T m m]) (fun _ hE _ _ => loopsIn_of g158_C_ls ⟨mkLp_all ⟨fun _ => g158_L0_ok hE m m, trivial⟩, trivial⟩) (fun x => (g158_kr m x).trans (by kernel_rfl))
/-! 151 slices.ContainsFunc___uint32_uint32_ -/
def g151_H : Hints := { regs := [⟨[], [0, 1]⟩, ⟨[(0, 1), (1, 1)], [4]⟩], heads := [], exits := [], rets := [4], pins := [], spec := [[false]] }
abbrev g151_A : List Sh := [.a (.c (.imm (.int .u32))), .a (.c (.fn 152))]
abbrev g151_S : Sh := .a (.c .bool)
abbrev g151_U : List Sh := [.a (.c .dead), .a (.c .dead)]
def g151_R (m : Nat) : ShLVal g151_A → Option (g151_S.Val × ShLVal g151_U) := fun (x : List Int × Unit × Unit) => g151 m x.1
def g151_T (m : Nat) : FunT := ⟨151, g151_A, g151_S, g151_U, g151_R m⟩
noncomputable def g151_C : Code := codeOf Tryz.f151
theorem g151_C_ls : loopsL g151_C 0 = [] := by kernel_rfl
theorem g151_kr (m : Nat) (x : ShLVal g151_A) : fnK (mkC (g151_S.Val × ShLVal g151_U) [g158_T m]) (mkLp (g151_S.Val × ShLVal g151_U) []) tt g151_H Tryz.f151 (encS g151_A x) (Kd g151_S g151_U) = g151 m x.1 := by kernel_rfl
theorem g151_ok (m : Nat) : FunOK Tryz.prog (g151_T m) :=
  fun_ok hmix htt (g151_T m) Tryz.func151 (c := g151_C) (by kernel_rfl) (by kernel_rfl) (Lc := [g158_T m]) (AllF.mem (l := [g158_T m]) ⟨g158_ok m, trivial⟩) (L := []) (fun _ hE _ _ => loopsIn_of g151_C_ls trivial) (fun x => (g151_kr m x).trans (by kernel_rfl))
/-! 137 sparse/integer.down -/
def g137_H : Hints := { regs := [⟨[], [0, 1]⟩, ⟨[], [0, 6, 7]⟩, ⟨[], [0, 6, 7, 20]⟩, ⟨[(0, 1)], [4, 5]⟩, ⟨[(4, 1)], [0, 6, 7, 8]⟩, ⟨[], [0, 6, 7, 8, 9]⟩, ⟨[], [0, 6, 7, 8, 9, 45, 46]⟩, ⟨[], [0, 6, 7, 8, 9, 45, 46, 47]⟩, ⟨[], [0, 6, 7, 8, 9, 10, 45, 46]⟩, ⟨[], [0, 6, 7, 8, 9, 10, 11, 45, 46]⟩, ⟨[], [0, 6, 7, 8, 9, 10, 11, 45, 46, 62]⟩, ⟨[(0, 1)], [0, 6, 7, 8, 9, 10, 11, 45, 46]⟩, ⟨[(1, 1), (2, 1)], [0, 6, 7, 8, 9, 45, 46]⟩, ⟨[(1, 1)], [0, 6, 7, 8, 9, 45, 46]⟩, ⟨[(0, 1), (2, 1)], [4, 5]⟩], heads := [(0, [0, 6, 7, 8, 9, 45, 46])], exits := [(0, [8, 9]), (1, [0, 6, 7, 8, 9, 45, 46])], rets := [4, 5], pins := [], spec := [[false], [false]] }
abbrev g137_A : List Sh := [.a (.c (.imm (.int .u32))), .a (.c (.int .i64))]
abbrev g137_S : Sh := .tup [(.c (.imm (.int .u32))), (.c .bool)]
abbrev g137_U : List Sh := [.a (.c .dead), .a (.c .dead)]
def g137_R (m : Nat) : ShLVal g137_A → Option (g137_S.Val × ShLVal g137_U) := fun (x : List Int × Int × Unit) => g137 m x.1 x.2.1
def g137_T (m : Nat) : FunT := ⟨137, g137_A, g137_S, g137_U, g137_R m⟩
noncomputable def g137_C : Code := codeOf Tryz.f137
noncomputable def g137_B0 : Code := loopAt g137_C 0 0
theorem g137_B0_ls : loopsL g137_B0 0 = [] := by kernel_rfl
theorem g137_C_ls : loopsL g137_C 0 = [(0, g137_B0)] := by kernel_rfl
abbrev g137_L0_I : SS := [(0, .a (.c (.imm (.int .u32)))), (6, .a (.c (.int .i64))), (7, .a (.c (.int .u64))), (8, .a (.c .bool)), (9, .a (.c (.nm 0 (.int .u32)))), (45, .a (.c (.int .i64))), (46, .a (.c (.int .i64)))]
abbrev g137_L0_O : List (Ex × SS) := [(.exit 0, [(8, .a (.c .bool)), (9, .a (.c (.nm 0 (.int .u32))))])]
def g137_L0_R (m n : Nat) : g137_L0_I.Val → Option (outVal g137_L0_O) := (fun (x : List Int × Int × Int × Bool × List Int × Int × Int × Unit) => g137_L0 m n x.1 x.2.1 x.2.2.1 x.2.2.2.1 x.2.2.2.2.1 x.2.2.2.2.2.1 x.2.2.2.2.2.2.1)
def g137_L0_T (m n : Nat) : LoopT := ⟨0, g137_L0_I, g137_L0_O, g137_L0_R m n⟩
theorem g137_L0_kr (m n : Nat) (x : g137_L0_I.Val) : roundK (mkC (outVal g137_L0_O) [g151_T m, g109_T m]) (mkLp (outVal g137_L0_O) []) tt 86 g137_H g137_B0 0 (g137_L0_I.enc x) (Kl (ins := g137_L0_I) (outs := g137_L0_O) (g137_L0_R m n)) = g137_L0 m (n + 1) x.1 x.2.1 x.2.2.1 x.2.2.2.1 x.2.2.2.2.1 x.2.2.2.2.2.1 x.2.2.2.2.2.2.1 := by kernel_rfl
theorem g137_L0_ok {E : Entry} (hE : EOf Tryz.prog E 86 g137_H.pins) (m : Nat) (n : Nat) : LoopOK Tryz.prog E g137_B0 (g137_L0_T m n) :=
  loop_ok (CO := CallOK Tryz.prog) hmix htt (fun _ _ _ _ h => h) hE (C := fun R => mkC R [g151_T m, g109_T m]) (L := []) (fun _ _ _ _ _ h => mkC_spec (AllF.mem (l := [g151_T m, g109_T m]) ⟨g151_ok m, g109_ok m, trivial⟩) h) (fun _ _ => loopsIn_of g137_B0_ls trivial) (fun n => (g137_L0_R m n)) (fun _ => by kernel_rfl) (fun n x => (g137_L0_kr m n x).trans (by kernel_rfl)) n
theorem g137_kr (m : Nat) (x : ShLVal g137_A) : fnK (mkC (g137_S.Val × ShLVal g137_U) [g151_T m, g109_T m]) (mkLp (g137_S.Val × ShLVal g137_U) [g137_L0_T m m]) tt g137_H Tryz.f137 (encS g137_A x) (Kd g137_S g137_U) = g137 m x.1 x.2.1 := by kernel_rfl
theorem g137_ok (m : Nat) : FunOK Tryz.prog (g137_T m) :=
  fun_ok hmix htt (g137_T m) Tryz.func137 (c := g137_C) (by kernel_rfl) (by kernel_rfl) (Lc := [g151_T m, g109_T m]) (AllF.mem (l := [g151_T m, g109_T m]) ⟨g151_ok m, g109_ok m, trivial⟩) (L := [g137_L0_T m m]) (fun _ hE _ _ => loopsIn_of g137_C_ls ⟨mkLp_all ⟨fun _ => g137_L0_ok hE m m, trivial⟩, trivial⟩) (fun x => (g137_kr m x).trans (by kernel_rfl))
/-! 110 sparse/integer.plus -/
def g110_H : Hints := { regs := [⟨[], [0, 1]⟩, ⟨[], [0, 1, 14]⟩, ⟨[(0, 1), (1, 1)], [0, 1]⟩, ⟨[], [0, 1, 5]⟩, ⟨[], [0, 1, 5, 6]⟩, ⟨[(0, 1)], [1, 5, 6, 21, 22, 23]⟩, ⟨[], [1, 5, 6, 21, 22, 23, 24]⟩, ⟨[], [1, 5, 6, 7, 8, 21, 22, 23]⟩, ⟨[(0, 1), (2, 1)], [1, 5, 7, 9, 21, 22, 23]⟩, ⟨[], [1, 5, 7, 9, 21, 22, 23, 35]⟩, ⟨[(0, 1), (2, 1)], [1, 5, 9, 21, 22, 23]⟩, ⟨[(0, 1)], [1, 5, 9, 21, 22, 23]⟩, ⟨[(0, 1)], [1, 5, 6, 21, 22, 23]⟩, ⟨[(1, 1)], [1, 5, 6, 21, 22, 23]⟩, ⟨[(0, 1), (1, 1)], [4]⟩], heads := [(0, [1, 5, 6, 21, 22, 23])], exits := [(0, [5, 6]), (1, [1, 5, 6, 21, 22, 23])], rets := [4], pins := [], spec := [[false]] }
abbrev g110_A : List Sh := [.a (.c (.imm (.int .u32))), .a (.c (.imm (.int .u32)))]
abbrev g110_S : Sh := .a (.c (.imm (.int .u32)))
abbrev g110_U : List Sh := [.a (.c .dead), .a (.c .dead)]
def g110_R (m : Nat) : ShLVal g110_A → Option (g110_S.Val × ShLVal g110_U) := fun (x : List Int × List Int × Unit) => g110 m x.1 x.2.1
def g110_T (m : Nat) : FunT := ⟨110, g110_A, g110_S, g110_U, g110_R m⟩
noncomputable def g110_C : Code := codeOf Tryz.f110
noncomputable def g110_B0 : Code := loopAt g110_C 0 0
theorem g110_B0_ls : loopsL g110_B0 0 = [] := by kernel_rfl
theorem g110_C_ls : loopsL g110_C 0 = [(0, g110_B0)] := by kernel_rfl
abbrev g110_L0_I : SS := [(1, .a (.c (.imm (.int .u32)))), (5, .a (.c (.nm 0 (.int .u32)))), (6, .a (.c (.int .u64))), (21, .a (.c (.imm (.int .u32)))), (22, .a (.c (.int .i64))), (23, .a (.c (.int .i64)))]
abbrev g110_L0_O : List (Ex × SS) := [(.exit 0, [(5, .a (.c (.nm 0 (.int .u32)))), (6, .a (.c (.int .u64)))])]
def g110_L0_R (m n : Nat) : g110_L0_I.Val → Option (outVal g110_L0_O) := (fun (x : List Int × List Int × Int × List Int × Int × Int × Unit) => g110_L0 m n x.1 x.2.1 x.2.2.1 x.2.2.2.1 x.2.2.2.2.1 x.2.2.2.2.2.1)
def g110_L0_T (m n : Nat) : LoopT := ⟨0, g110_L0_I, g110_L0_O, g110_L0_R m n⟩
theorem g110_L0_kr (m n : Nat) (x : g110_L0_I.Val) : roundK (mkC (outVal g110_L0_O) [g109_T m]) (mkLp (outVal g110_L0_O) []) tt 58 g110_H g110_B0 0 (g110_L0_I.enc x) (Kl (ins := g110_L0_I) (outs := g110_L0_O) (g110_L0_R m n)) = g110_L0 m (n + 1) x.1 x.2.1 x.2.2.1 x.2.2.2.1 x.2.2.2.2.1 x.2.2.2.2.2.1 := by kernel_rfl
theorem g110_L0_ok {E : Entry} (hE : EOf Tryz.prog E 58 g110_H.pins) (m : Nat) (n : Nat) : LoopOK Tryz.prog E g110_B0 (g110_L0_T m n) :=
  loop_ok (CO := CallOK Tryz.prog) hmix htt (fun _ _ _ _ h => h) hE (C := fun R => mkC R [g109_T m]) (L := []) (fun _ _ _ _ _ h => mkC_spec (AllF.mem (l := [g109_T m]) ⟨g109_ok m, trivial⟩) h) (fun _ _ => loopsIn_of g110_B0_ls trivial) (fun n => (g110_L0_R m n)) (fun _ => by kernel_rfl) (fun n x => (g110_L0_kr m n x).trans (by kernel_rfl)) n
theorem g110_kr (m : Nat) (x : ShLVal g110_A) : fnK (mkC (g110_S.Val × ShLVal g110_U) [g109_T m]) (mkLp (g110_S.Val × ShLVal g110_U) [g110_L0_T m m]) tt g110_H Tryz.f110 (encS g110_A x) (Kd g110_S g110_U) = g110 m x.1 x.2.1 := by kernel_rfl
theorem g110_ok (m : Nat) : FunOK Tryz.prog (g110_T m) :=
  fun_ok hmix htt (g110_T m) Tryz.func110 (c := g110_C) (by kernel_rfl) (by kernel_rfl) (Lc := [g109_T m]) (AllF.mem (l := [g109_T m]) ⟨g109_ok m, trivial⟩) (L := [g110_L0_T m m]) (fun _ hE _ _ => loopsIn_of g110_C_ls ⟨mkLp_all ⟨fun _ => g110_L0_ok hE m m, trivial⟩, trivial⟩) (fun x => (g110_kr m x).trans (by kernel_rfl))
/-! 113 sparse/integer.Shift -/
def g113_H : Hints := { regs := [⟨[], [1, 2, 4]⟩, ⟨[(2, 1)], [1, 2, 4, 14]⟩, ⟨[], [4, 5]⟩, ⟨[], [1, 2, 4, 6]⟩, ⟨[], [1, 2, 4, 6, 20]⟩, ⟨[(2, 1), (3, 1)], [4, 5]⟩, ⟨[(0, 1), (1, 1), (4, 1)], [2, 4, 7, 8]⟩, ⟨[(2, 1), (3, 1)], [2, 4, 7, 38]⟩, ⟨[(0, 1)], [2, 4, 7]⟩, ⟨[(2, 1)], [4, 5]⟩], heads := [], exits := [], rets := [4, 5], pins := [], spec := [[false, false], [false]] }
abbrev g113_A : List Sh := [.a (.agg [.bool, (.imm (.int .u32))]), .a (.c (.int .i64))]
abbrev g113_S : Sh := .tup [(.agg [.bool, (.imm (.int .u32))]), (.c (.int .i64))]
abbrev g113_U : List Sh := [.a (.c .dead), .a (.c .dead)]
def g113_R (m : Nat) : ShLVal g113_A → Option (g113_S.Val × ShLVal g113_U) := fun (x : (Bool × List Int × Unit) × Int × Unit) => g113 m x.1.1 x.1.2.1 x.2.1
def g113_T (m : Nat) : FunT := ⟨113, g113_A, g113_S, g113_U, g113_R m⟩
noncomputable def g113_C : Code := codeOf Tryz.f113
theorem g113_C_ls : loopsL g113_C 0 = [] := by kernel_rfl
theorem g113_kr (m : Nat) (x : ShLVal g113_A) : fnK (mkC (g113_S.Val × ShLVal g113_U) [g109_T m, g136_T m, g96_T m, g137_T m, g110_T m]) (mkLp (g113_S.Val × ShLVal g113_U) []) tt g113_H Tryz.f113 (encS g113_A x) (Kd g113_S g113_U) = g113 m x.1.1 x.1.2.1 x.2.1 := by kernel_rfl
theorem g113_ok (m : Nat) : FunOK Tryz.prog (g113_T m) :=
  fun_ok hmix htt (g113_T m) Tryz.func113 (c := g113_C) (by kernel_rfl) (by kernel_rfl) (Lc := [g109_T m, g136_T m, g96_T m, g137_T m, g110_T m]) (AllF.mem (l := [g109_T m, g136_T m, g96_T m, g137_T m, g110_T m]) ⟨g109_ok m, g136_ok m, g96_ok m, g137_ok m, g110_ok m, trivial⟩) (L := []) (fun _ hE _ _ => loopsIn_of g113_C_ls trivial) (fun x => (g113_kr m x).trans (by kernel_rfl))
/-! 108 sparse/dyad.right -/
def g108_H : Hints := { regs := [⟨[], [1, 2, 4]⟩, ⟨[], [1, 2, 4, 6]⟩, ⟨[(2, 1)], [1, 2, 4]⟩, ⟨[(0, 1)], [1, 2, 4]⟩, ⟨[(1, 1), (4, 1)], [2, 4]⟩, ⟨[], [4]⟩], heads := [(0, [1, 2, 4])], exits := [(0, [1, 2, 4]), (1, [1, 2, 4])], rets := [4], pins := [], spec := [[false, false]] }
abbrev g108_A : List Sh := [.a (.agg [.bool, (.imm (.int .u32))]), .a (.c (.int .i64))]
abbrev g108_S : Sh := .a (.agg [.bool, (.imm (.int .u32))])
abbrev g108_U : List Sh := [.a (.c .dead), .a (.c .dead)]
def g108_R (m : Nat) : ShLVal g108_A → Option (g108_S.Val × ShLVal g108_U) := fun (x : (Bool × List Int × Unit) × Int × Unit) => g108 m x.1.1 x.1.2.1 x.2.1
def g108_T (m : Nat) : FunT := ⟨108, g108_A, g108_S, g108_U, g108_R m⟩
noncomputable def g108_C : Code := codeOf Tryz.f108
noncomputable def g108_B0 : Code := loopAt g108_C 0 0
theorem g108_B0_ls : loopsL g108_B0 0 = [] := by kernel_rfl
theorem g108_C_ls : loopsL g108_C 0 = [(0, g108_B0)] := by kernel_rfl
abbrev g108_L0_I : SS := [(1, .a (.c (.int .i64))), (2, .a (.bx 0 [.bool, (.imm (.int .u32))])), (4, .a (.bx 1 [.bool, (.nm 2 (.int .u32))]))]
abbrev g108_L0_O : List (Ex × SS) := [(.exit 0, [(1, .a (.c (.int .i64))), (2, .a (.bx 0 [.bool, (.imm (.int .u32))])), (4, .a (.bx 1 [.bool, (.nm 2 (.int .u32))]))])]
def g108_L0_R (m n : Nat) : g108_L0_I.Val → Option (outVal g108_L0_O) := (fun (x : Int × (Bool × List Int × Unit) × (Bool × List Int × Unit) × Unit) => g108_L0 m n x.1 x.2.1.1 x.2.1.2.1 x.2.2.1.1 x.2.2.1.2.1)
def g108_L0_T (m n : Nat) : LoopT := ⟨0, g108_L0_I, g108_L0_O, g108_L0_R m n⟩
theorem g108_L0_kr (m n : Nat) (x : g108_L0_I.Val) : roundK (mkC (outVal g108_L0_O) [g113_T m]) (mkLp (outVal g108_L0_O) []) tt 22 g108_H g108_B0 0 (g108_L0_I.enc x) (Kl (ins := g108_L0_I) (outs := g108_L0_O) (g108_L0_R m n)) = g108_L0 m (n + 1) x.1 x.2.1.1 x.2.1.2.1 x.2.2.1.1 x.2.2.1.2.1 := by kernel_rfl
theorem g108_L0_ok {E : Entry} (hE : EOf Tryz.prog E 22 g108_H.pins) (m : Nat) (n : Nat) : LoopOK Tryz.prog E g108_B0 (g108_L0_T m n) :=
  loop_ok (CO := CallOK Tryz.prog) hmix htt (fun _ _ _ _ h => h) hE (C := fun R => mkC R [g113_T m]) (L := []) (fun _ _ _ _ _ h => mkC_spec (AllF.mem (l := [g113_T m]) ⟨g113_ok m, trivial⟩) h) (fun _ _ => loopsIn_of g108_B0_ls trivial) (fun n => (g108_L0_R m n)) (fun _ => by kernel_rfl) (fun n x => (g108_L0_kr m n x).trans (by kernel_rfl)) n
theorem g108_kr (m : Nat) (x : ShLVal g108_A) : fnK (mkC (g108_S.Val × ShLVal g108_U) [g113_T m]) (mkLp (g108_S.Val × ShLVal g108_U) [g108_L0_T m m]) tt g108_H Tryz.f108 (encS g108_A x) (Kd g108_S g108_U) = g108 m x.1.1 x.1.2.1 x.2.1 := by kernel_rfl
theorem g108_ok (m : Nat) : FunOK Tryz.prog (g108_T m) :=
  fun_ok hmix htt (g108_T m) Tryz.func108 (c := g108_C) (by kernel_rfl) (by kernel_rfl) (Lc := [g113_T m]) (AllF.mem (l := [g113_T m]) ⟨g113_ok m, trivial⟩) (L := [g108_L0_T m m]) (fun _ hE _ _ => loopsIn_of g108_C_ls ⟨mkLp_all ⟨fun _ => g108_L0_ok hE m m, trivial⟩, trivial⟩) (fun x => (g108_kr m x).trans (by kernel_rfl))
/-! 73 sparse/dyad.norm -/
def g73_H : Hints := { regs := [⟨[], [1, 2]⟩, ⟨[], [1, 2, 7]⟩, ⟨[], [2, 3]⟩, ⟨[], [1, 2, 4]⟩, ⟨[], [1, 2, 4, 14]⟩, ⟨[], [2, 3]⟩, ⟨[], [1, 2, 4, 5]⟩, ⟨[(6, 1)], [1, 2, 4, 5, 30]⟩, ⟨[], [2, 3]⟩, ⟨[], [2, 3]⟩], heads := [], exits := [], rets := [2, 3], pins := [], spec := [[false, false, false, false], [false]] }
abbrev g73_A : List Sh := [.a (.agg [.bool, .bool, (.imm (.int .u32)), (.int .i64)])]
abbrev g73_S : Sh := .tup [(.agg [.bool, .bool, (.imm (.int .u32)), (.int .i64)]), (.c .bool)]
abbrev g73_U : List Sh := [.a (.c .dead)]
def g73_R (m : Nat) : ShLVal g73_A → Option (g73_S.Val × ShLVal g73_U) := fun (x : (Bool × Bool × List Int × Int × Unit) × Unit) => g73 m x.1.1 x.1.2.1 x.1.2.2.1 x.1.2.2.2.1
def g73_T (m : Nat) : FunT := ⟨73, g73_A, g73_S, g73_U, g73_R m⟩
noncomputable def g73_C : Code := codeOf Tryz.f73
theorem g73_C_ls : loopsL g73_C 0 = [] := by kernel_rfl
theorem g73_kr (m : Nat) (x : ShLVal g73_A) : fnK (mkC (g73_S.Val × ShLVal g73_U) [g74_T m, g105_T m, g98_T m, g106_T m, g107_T m, g108_T m]) (mkLp (g73_S.Val × ShLVal g73_U) []) tt g73_H Tryz.f73 (encS g73_A x) (Kd g73_S g73_U) = g73 m x.1.1 x.1.2.1 x.1.2.2.1 x.1.2.2.2.1 := by kernel_rfl
theorem g73_ok (m : Nat) : FunOK Tryz.prog (g73_T m) :=
  fun_ok hmix htt (g73_T m) Tryz.func73 (c := g73_C) (by kernel_rfl) (by kernel_rfl) (Lc := [g74_T m, g105_T m, g98_T m, g106_T m, g107_T m, g108_T m]) (AllF.mem (l := [g74_T m, g105_T m, g98_T m, g106_T m, g107_T m, g108_T m]) ⟨g74_ok m, g105_ok m, g98_ok m, g106_ok m, g107_ok m, g108_ok m, trivial⟩) (L := []) (fun _ hE _ _ => loopsIn_of g73_C_ls trivial) (fun x => (g73_kr m x).trans (by kernel_rfl))
/-! 68 sparse/dyad.Make -/
def g68_H : Hints := { regs := [⟨[], [1, 2, 4]⟩, ⟨[(1, 1), (4, 1)], [4, 5]⟩, ⟨[], [4]⟩], heads := [], exits := [], rets := [4], pins := [], spec := [[false, false, false, false]] }
abbrev g68_A : List Sh := [.a (.agg [.bool, (.imm (.int .u32))]), .a (.c (.int .i64))]
abbrev g68_S : Sh := .a (.agg [.bool, .bool, (.imm (.int .u32)), (.int .i64)])
abbrev g68_U : List Sh := [.a (.c .dead), .a (.c .dead)]
def g68_R (m : Nat) : ShLVal g68_A → Option (g68_S.Val × ShLVal g68_U) := fun (x : (Bool × List Int × Unit) × Int × Unit) => g68 m x.1.1 x.1.2.1 x.2.1
def g68_T (m : Nat) : FunT := ⟨68, g68_A, g68_S, g68_U, g68_R m⟩
noncomputable def g68_C : Code := codeOf Tryz.f68
theorem g68_C_ls : loopsL g68_C 0 = [] := by kernel_rfl
theorem g68_kr (m : Nat) (x : ShLVal g68_A) : fnK (mkC (g68_S.Val × ShLVal g68_U) [g73_T m]) (mkLp (g68_S.Val × ShLVal g68_U) []) tt g68_H Tryz.f68 (encS g68_A x) (Kd g68_S g68_U) = g68 m x.1.1 x.1.2.1 x.2.1 := by kernel_rfl
theorem g68_ok (m : Nat) : FunOK Tryz.prog (g68_T m) :=
  fun_ok hmix htt (g68_T m) Tryz.func68 (c := g68_C) (by kernel_rfl) (by kernel_rfl) (Lc := [g73_T m]) (AllF.mem (l := [g73_T m]) ⟨g73_ok m, trivial⟩) (L := []) (fun _ hE _ _ => loopsIn_of g68_C_ls trivial) (fun x => (g68_kr m x).trans (by kernel_rfl))
/-! 34 sparse/float.Of -/
def g34_H : Hints := { regs := [⟨[], [0, 2]⟩, ⟨[(2, 1)], [0, 2, 3, 4]⟩, ⟨[], [0, 2, 3, 4, 11]⟩, ⟨[(0, 1)], [0, 2, 3, 4]⟩, ⟨[(0, 1)], [0, 2, 3, 4]⟩, ⟨[], [0, 2, 3, 4, 11, 16]⟩, ⟨[], [2]⟩, ⟨[], [0, 2, 3, 4, 19]⟩, ⟨[], [0, 2, 3, 4]⟩, ⟨[(0, 1)], [0, 2, 3, 5]⟩, ⟨[(0, 1)], [2, 3, 5, 25]⟩, ⟨[], [2, 3, 5]⟩, ⟨[(1, 1)], [2]⟩], heads := [], exits := [(0, [0, 2, 3, 4])], rets := [2], pins := [], spec := [[false, false, false, false]] }
abbrev g34_A : List Sh := [.a (.c (.int .u64))]
abbrev g34_S : Sh := .a (.agg [.bool, .bool, (.imm (.int .u32)), (.int .i64)])
abbrev g34_U : List Sh := [.a (.c .dead)]
def g34_R (m : Nat) : ShLVal g34_A → Option (g34_S.Val × ShLVal g34_U) := fun (x : Int × Unit) => g34 m x.1
def g34_T (m : Nat) : FunT := ⟨34, g34_A, g34_S, g34_U, g34_R m⟩
noncomputable def g34_C : Code := codeOf Tryz.f34
theorem g34_C_ls : loopsL g34_C 0 = [] := by kernel_rfl
theorem g34_kr (m : Nat) (x : ShLVal g34_A) : fnK (mkC (g34_S.Val × ShLVal g34_U) [g59_T m, g65_T m, g66_T m, g67_T m, g68_T m]) (mkLp (g34_S.Val × ShLVal g34_U) []) tt g34_H Tryz.f34 (encS g34_A x) (Kd g34_S g34_U) = g34 m x.1 := by kernel_rfl
theorem g34_ok (m : Nat) : FunOK Tryz.prog (g34_T m) :=
  fun_ok hmix htt (g34_T m) Tryz.func34 (c := g34_C) (by kernel_rfl) (by kernel_rfl) (Lc := [g59_T m, g65_T m, g66_T m, g67_T m, g68_T m]) (AllF.mem (l := [g59_T m, g65_T m, g66_T m, g67_T m, g68_T m]) ⟨g59_ok m, g65_ok m, g66_ok m, g67_ok m, g68_ok m, trivial⟩) (L := []) (fun _ hE _ _ => loopsIn_of g34_C_ls trivial) (fun x => (g34_kr m x).trans (by kernel_rfl))
/-! 76 sparse/dyad.left -/
def g76_H : Hints := { regs := [⟨[], [1, 2, 4]⟩, ⟨[(1, 1), (3, 1)], [2, 4]⟩, ⟨[], [4]⟩], heads := [], exits := [], rets := [4], pins := [], spec := [[false, false]] }
abbrev g76_A : List Sh := [.a (.agg [.bool, (.imm (.int .u32))]), .a (.c (.int .i64))]
abbrev g76_S : Sh := .a (.agg [.bool, (.imm (.int .u32))])
abbrev g76_U : List Sh := [.a (.c .dead), .a (.c .dead)]
def g76_R (m : Nat) : ShLVal g76_A → Option (g76_S.Val × ShLVal g76_U) := fun (x : (Bool × List Int × Unit) × Int × Unit) => g76 m x.1.1 x.1.2.1 x.2.1
def g76_T (m : Nat) : FunT := ⟨76, g76_A, g76_S, g76_U, g76_R m⟩
noncomputable def g76_C : Code := codeOf Tryz.f76
theorem g76_C_ls : loopsL g76_C 0 = [] := by kernel_rfl
theorem g76_kr (m : Nat) (x : ShLVal g76_A) : fnK (mkC (g76_S.Val × ShLVal g76_U) [g113_T m]) (mkLp (g76_S.Val × ShLVal g76_U) []) tt g76_H Tryz.f76 (encS g76_A x) (Kd g76_S g76_U) = g76 m x.1.1 x.1.2.1 x.2.1 := by kernel_rfl
theorem g76_ok (m : Nat) : FunOK Tryz.prog (g76_T m) :=
  fun_ok hmix htt (g76_T m) Tryz.func76 (c := g76_C) (by kernel_rfl) (by kernel_rfl) (Lc := [g113_T m]) (AllF.mem (l := [g113_T m]) ⟨g113_ok m, trivial⟩) (L := []) (fun _ hE _ _ => loopsIn_of g76_C_ls trivial) (fun x => (g76_kr m x).trans (by kernel_rfl))
/-! 150 cmp.isNaN_uint32_ -/
def g150_H : Hints := { regs := [⟨[], [0]⟩, ⟨[], [2]⟩], heads := [], exits := [], rets := [2], pins := [], spec := [[false]] }
abbrev g150_A : List Sh := [.a (.c (.int .u32))]
abbrev g150_S : Sh := .a (.c .bool)
abbrev g150_U : List Sh := [.a (.c .dead)]
def g150_R (m : Nat) : ShLVal g150_A → Option (g150_S.Val × ShLVal g150_U) := fun (x : Int × Unit) => g150 m x.1
def g150_T (m : Nat) : FunT := ⟨150, g150_A, g150_S, g150_U, g150_R m⟩
noncomputable def g150_C : Code := codeOf Tryz.f150
theorem g150_C_ls : loopsL g150_C 0 = [] := by kernel_rfl
theorem g150_kr (m : Nat) (x : ShLVal g150_A) : fnK (mkC (g150_S.Val × ShLVal g150_U) []) (mkLp (g150_S.Val × ShLVal g150_U) []) tt g150_H Tryz.f150 (encS g150_A x) (Kd g150_S g150_U) = g150 m x.1 := by kernel_rfl
theorem g150_ok (m : Nat) : FunOK Tryz.prog (g150_T m) :=
  fun_ok hmix htt (g150_T m) Tryz.func150 (c := g150_C) (by kernel_rfl) (by kernel_rfl) (Lc := []) (AllF.mem (l := []) trivial) (L := []) (fun _ hE _ _ => loopsIn_of g150_C_ls trivial) (fun x => (g150_kr m x).trans (by kernel_rfl))
/-! 135 cmp.Compare_uint32_ -/
def g135_H : Hints := { regs := [⟨[], [0, 1]⟩, ⟨[], [0, 1, 5]⟩, ⟨[], [0, 1, 5, 6]⟩, ⟨[(0, 1)], [0, 1, 6, 11]⟩, ⟨[(0, 1)], [12]⟩, ⟨[], [4]⟩, ⟨[], [4]⟩, ⟨[(0, 1)], [0, 1, 13]⟩, ⟨[], [4]⟩, ⟨[], [0, 1, 16]⟩, ⟨[], [4]⟩, ⟨[(0, 1), (1, 1)], [19]⟩, ⟨[], [4]⟩, ⟨[], [4]⟩], heads := [], exits := [], rets := [4], pins := [], spec := [[false]] }
abbrev g135_A : List Sh := [.a (.c (.int .u32)), .a (.c (.int .u32))]
abbrev g135_S : Sh := .a (.c (.int .i64))
abbrev g135_U : List Sh := [.a (.c .dead), .a (.c .dead)]
def g135_R (m : Nat) : ShLVal g135_A → Option (g135_S.Val × ShLVal g135_U) := fun (x : Int × Int × Unit) => g135 m x.1 x.2.1
def g135_T (m : Nat) : FunT := ⟨135, g135_A, g135_S, g135_U, g135_R m⟩
noncomputable def g135_C : Code := codeOf Tryz.f135
theorem g135_C_ls : loopsL g135_C 0 = [] := by kernel_rfl
theorem g135_kr (m : Nat) (x : ShLVal g135_A) : fnK (mkC (g135_S.Val × ShLVal g135_U) [g150_T m]) (mkLp (g135_S.Val × ShLVal g135_U) []) tt g135_H Tryz.f135 (encS g135_A x) (Kd g135_S g135_U) = g135 m x.1 x.2.1 := by kernel_rfl
theorem g135_ok (m : Nat) : FunOK Tryz.prog (g135_T m) :=
  fun_ok hmix htt (g135_T m) Tryz.func135 (c := g135_C) (by kernel_rfl) (by kernel_rfl) (Lc := [g150_T m]) (AllF.mem (l := [g150_T m]) ⟨g150_ok m, trivial⟩) (L := []) (fun _ hE _ _ => loopsIn_of g135_C_ls trivial) (fun x => (g135_kr m x).trans (by kernel_rfl))
/-! 111 sparse/integer.compare -/
def g111_H : Hints := { regs := [⟨[], [0, 1]⟩, ⟨[], [0, 1, 10]⟩, ⟨[(0, 1), (2, 1)], [4]⟩, ⟨[], [0, 1, 5]⟩, ⟨[], [0, 1, 5, 20]⟩, ⟨[(0, 1)], [0, 1, 5]⟩, ⟨[], [0, 1, 5, 31]⟩, ⟨[(0, 1), (4, 1)], [4]⟩, ⟨[], [4]⟩], heads := [(0, [0, 1, 5])], exits := [(0, []), (1, [0, 1, 5])], rets := [4], pins := [], spec := [[false]] }
abbrev g111_A : List Sh := [.a (.c (.imm (.int .u32))), .a (.c (.imm (.int .u32)))]
abbrev g111_S : Sh := .a (.c (.int .i64))
abbrev g111_U : List Sh := [.a (.c .dead), .a (.c .dead)]
def g111_R (m : Nat) : ShLVal g111_A → Option (g111_S.Val × ShLVal g111_U) := fun (x : List Int × List Int × Unit) => g111 m x.1 x.2.1
def g111_T (m : Nat) : FunT := ⟨111, g111_A, g111_S, g111_U, g111_R m⟩
noncomputable def g111_C : Code := codeOf Tryz.f111
noncomputable def g111_B0 : Code := loopAt g111_C 0 0
theorem g111_B0_ls : loopsL g111_B0 0 = [] := by kernel_rfl
theorem g111_C_ls : loopsL g111_C 0 = [(0, g111_B0)] := by kernel_rfl
abbrev g111_L0_I : SS := [(0, .a (.c (.imm (.int .u32)))), (1, .a (.c (.imm (.int .u32)))), (5, .a (.c (.int .i64)))]
abbrev g111_L0_O : List (Ex × SS) := [(.ret, [(4, .a (.c (.int .i64)))]), (.exit 0, [])]
def g111_L0_R (m n : Nat) : g111_L0_I.Val → Option (outVal g111_L0_O) := (fun (x : List Int × List Int × Int × Unit) => g111_L0 m n x.1 x.2.1 x.2.2.1)
def g111_L0_T (m n : Nat) : LoopT := ⟨0, g111_L0_I, g111_L0_O, g111_L0_R m n⟩
theorem g111_L0_kr (m n : Nat) (x : g111_L0_I.Val) : roundK (mkC (outVal g111_L0_O) [g64_T m, g135_T m]) (mkLp (outVal g111_L0_O) []) tt 41 g111_H g111_B0 0 (g111_L0_I.enc x) (Kl (ins := g111_L0_I) (outs := g111_L0_O) (g111_L0_R m n)) = g111_L0 m (n + 1) x.1 x.2.1 x.2.2.1 := by kernel_rfl
theorem g111_L0_ok {E : Entry} (hE : EOf Tryz.prog E 41 g111_H.pins) (m : Nat) (n : Nat) : LoopOK Tryz.prog E g111_B0 (g111_L0_T m n) :=
  loop_ok (CO := CallOK Tryz.prog) hmix htt (fun _ _ _ _ h => h) hE (C := fun R => mkC R [g64_T m, g135_T m]) (L := []) (fun _ _ _ _ _ h => mkC_spec (AllF.mem (l := [g64_T m, g135_T m]) ⟨g64_ok m, g135_ok m, trivial⟩) h) (fun _ _ => loopsIn_of g111_B0_ls trivial) (fun n => (g111_L0_R m n)) (fun _ => by kernel_rfl) (fun n x => (g111_L0_kr m n x).trans (by kernel_rfl)) n
theorem g111_kr (m : Nat) (x : ShLVal g111_A) : fnK (mkC (g111_S.Val × ShLVal g111_U) [g64_T m, g135_T m]) (mkLp (g111_S.Val × ShLVal g111_U) [g111_L0_T m m]) tt g111_H Tryz.f111 (encS g111_A x) (Kd g111_S g111_U) = g111 m x.1 x.2.1 := by kernel_rfl
theorem g111_ok (m : Nat) : FunOK Tryz.prog (g111_T m) :=
  fun_ok hmix htt (g111_T m) Tryz.func111 (c := g111_C) (by kernel_rfl) (by kernel_rfl) (Lc := [g64_T m, g135_T m]) (AllF.mem (l := [g64_T m, g135_T m]) ⟨g64_ok m, g135_ok m, trivial⟩) (L := [g111_L0_T m m]) (fun _ hE _ _ => loopsIn_of g111_C_ls ⟨mkLp_all ⟨fun _ => g111_L0_ok hE m m, trivial⟩, trivial⟩) (fun x => (g111_kr m x).trans (by kernel_rfl))
/-! 112 sparse/integer.minus -/
def g112_H : Hints := { regs := [⟨[], [0, 1]⟩, ⟨[], [0, 1, 5]⟩, ⟨[], [0, 1, 5, 6]⟩, ⟨[(0, 1)], [1, 5, 6, 13, 14, 15]⟩, ⟨[], [1, 5, 6, 13, 14, 15, 16]⟩, ⟨[], [1, 5, 6, 7, 8, 13, 14, 15]⟩, ⟨[(0, 1), (2, 1)], [1, 5, 7, 9, 13, 14, 15]⟩, ⟨[], [1, 5, 7, 9, 13, 14, 15, 27]⟩, ⟨[(0, 1)], [1, 5, 7, 9, 13, 14, 15]⟩, ⟨[(1, 1)], [1, 5, 9, 13, 14, 15]⟩, ⟨[(0, 1)], [1, 5, 6, 13, 14, 15]⟩, ⟨[(1, 1)], [1, 5, 6, 13, 14, 15]⟩, ⟨[(0, 1)], [4]⟩], heads := [(0, [1, 5, 6, 13, 14, 15])], exits := [(0, [5]), (1, [1, 5, 6, 13, 14, 15])], rets := [4], pins := [], spec := [[false]] }
abbrev g112_A : List Sh := [.a (.c (.imm (.int .u32))), .a (.c (.imm (.int .u32)))]
abbrev g112_S : Sh := .a (.c (.imm (.int .u32)))
abbrev g112_U : List Sh := [.a (.c .dead), .a (.c .dead)]
def g112_R (m : Nat) : ShLVal g112_A → Option (g112_S.Val × ShLVal g112_U) := fun (x : List Int × List Int × Unit) => g112 m x.1 x.2.1
def g112_T (m : Nat) : FunT := ⟨112, g112_A, g112_S, g112_U, g112_R m⟩
noncomputable def g112_C : Code := codeOf Tryz.f112
noncomputable def g112_B0 : Code := loopAt g112_C 0 0
theorem g112_B0_ls : loopsL g112_B0 0 = [] := by kernel_rfl
theorem g112_C_ls : loopsL g112_C 0 = [(0, g112_B0)] := by kernel_rfl
abbrev g112_L0_I : SS := [(1, .a (.c (.imm (.int .u32)))), (5, .a (.c (.nm 0 (.int .u32)))), (6, .a (.c (.int .u64))), (13, .a (.c (.imm (.int .u32)))), (14, .a (.c (.int .i64))), (15, .a (.c (.int .i64)))]
abbrev g112_L0_O : List (Ex × SS) := [(.exit 0, [(5, .a (.c (.nm 0 (.int .u32))))])]
def g112_L0_R (m n : Nat) : g112_L0_I.Val → Option (outVal g112_L0_O) := (fun (x : List Int × List Int × Int × List Int × Int × Int × Unit) => g112_L0 m n x.1 x.2.1 x.2.2.1 x.2.2.2.1 x.2.2.2.2.1 x.2.2.2.2.2.1)
def g112_L0_T (m n : Nat) : LoopT := ⟨0, g112_L0_I, g112_L0_O, g112_L0_R m n⟩
theorem g112_L0_kr (m n : Nat) (x : g112_L0_I.Val) : roundK (mkC (outVal g112_L0_O) [g109_T m]) (mkLp (outVal g112_L0_O) []) tt 47 g112_H g112_B0 0 (g112_L0_I.enc x) (Kl (ins := g112_L0_I) (outs := g112_L0_O) (g112_L0_R m n)) = g112_L0 m (n + 1) x.1 x.2.1 x.2.2.1 x.2.2.2.1 x.2.2.2.2.1 x.2.2.2.2.2.1 := by kernel_rfl
theorem g112_L0_ok {E : Entry} (hE : EOf Tryz.prog E 47 g112_H.pins) (m : Nat) (n : Nat) : LoopOK Tryz.prog E g112_B0 (g112_L0_T m n) :=
  loop_ok (CO := CallOK Tryz.prog) hmix htt (fun _ _ _ _ h => h) hE (C := fun R => mkC R [g109_T m]) (L := []) (fun _ _ _ _ _ h => mkC_spec (AllF.mem (l := [g109_T m]) ⟨g109_ok m, trivial⟩) h) (fun _ _ => loopsIn_of g112_B0_ls trivial) (fun n => (g112_L0_R m n)) (fun _ => by kernel_rfl) (fun n x => (g112_L0_kr m n x).trans (by kernel_rfl)) n
theorem g112_kr (m : Nat) (x : ShLVal g112_A) : fnK (mkC (g112_S.Val × ShLVal g112_U) [g109_T m]) (mkLp (g112_S.Val × ShLVal g112_U) [g112_L0_T m m]) tt g112_H Tryz.f112 (encS g112_A x) (Kd g112_S g112_U) = g112 m x.1 x.2.1 := by kernel_rfl
theorem g112_ok (m : Nat) : FunOK Tryz.prog (g112_T m) :=
  fun_ok hmix htt (g112_T m) Tryz.func112 (c := g112_C) (by kernel_rfl) (by kernel_rfl) (Lc := [g109_T m]) (AllF.mem (l := [g109_T m]) ⟨g109_ok m, trivial⟩) (L := [g112_L0_T m m]) (fun _ hE _ _ => loopsIn_of g112_C_ls ⟨mkLp_all ⟨fun _ => g112_L0_ok hE m m, trivial⟩, trivial⟩) (fun x => (g112_kr m x).trans (by kernel_rfl))
/-! 75 sparse/integer.Add -/
def g75_H : Hints := { regs := [⟨[], [2, 3, 4]⟩, ⟨[], [2, 3, 4, 5, 6]⟩, ⟨[], [2, 3, 4, 5, 6, 13]⟩, ⟨[(2, 1), (3, 1)], [4]⟩, ⟨[], [2, 3, 4, 5, 6, 25]⟩, ⟨[(2, 1), (3, 1)], [4]⟩, ⟨[(2, 1), (3, 1)], [4]⟩], heads := [], exits := [(0, [3, 4, 5, 6])], rets := [4], pins := [], spec := [[false, false]] }
abbrev g75_A : List Sh := [.a (.agg [.bool, (.imm (.int .u32))]), .a (.agg [.bool, (.imm (.int .u32))])]
abbrev g75_S : Sh := .a (.agg [.bool, (.imm (.int .u32))])
abbrev g75_U : List Sh := [.a (.c .dead), .a (.c .dead)]
def g75_R (m : Nat) : ShLVal g75_A → Option (g75_S.Val × ShLVal g75_U) := fun (x : (Bool × List Int × Unit) × (Bool × List Int × Unit) × Unit) => g75 m x.1.1 x.1.2.1 x.2.1.1 x.2.1.2.1
def g75_T (m : Nat) : FunT := ⟨75, g75_A, g75_S, g75_U, g75_R m⟩
noncomputable def g75_C : Code := codeOf Tryz.f75
theorem g75_C_ls : loopsL g75_C 0 = [] := by kernel_rfl
theorem g75_kr (m : Nat) (x : ShLVal g75_A) : fnK (mkC (g75_S.Val × ShLVal g75_U) [g109_T m, g110_T m, g96_T m, g111_T m, g112_T m]) (mkLp (g75_S.Val × ShLVal g75_U) []) tt g75_H Tryz.f75 (encS g75_A x) (Kd g75_S g75_U) = g75 m x.1.1 x.1.2.1 x.2.1.1 x.2.1.2.1 := by kernel_rfl
theorem g75_ok (m : Nat) : FunOK Tryz.prog (g75_T m) :=
  fun_ok hmix htt (g75_T m) Tryz.func75 (c := g75_C) (by kernel_rfl) (by kernel_rfl) (Lc := [g109_T m, g110_T m, g96_T m, g111_T m, g112_T m]) (AllF.mem (l := [g109_T m, g110_T m, g96_T m, g111_T m, g112_T m]) ⟨g109_ok m, g110_ok m, g96_ok m, g111_ok m, g112_ok m, trivial⟩) (L := []) (fun _ hE _ _ => loopsIn_of g75_C_ls trivial) (fun x => (g75_kr m x).trans (by kernel_rfl))
/-! 36 sparse/dyad.Sum -/
def g36_H : Hints := { regs := [⟨[], [0, 2]⟩, ⟨[], [0, 2, 3]⟩, ⟨[], [0, 2, 3, 4]⟩, ⟨[(0, 1)], [2, 3, 4, 12, 13, 14]⟩, ⟨[], [2, 3, 4, 12, 13, 14, 15]⟩, ⟨[], [2, 3, 4, 6, 12, 13, 14]⟩, ⟨[(2, 1)], [2, 3, 4, 7, 8, 12, 13, 14]⟩, ⟨[(0, 1)], [2, 3, 4, 7, 12, 13, 14, 24]⟩, ⟨[], [2]⟩, ⟨[(0, 1)], [2, 3, 4, 7, 12, 13, 14]⟩, ⟨[(0, 1)], [2, 3, 4, 12, 13, 14]⟩, ⟨[(1, 1)], [2, 3, 4, 12, 13, 14]⟩, ⟨[(0, 2)], [2, 3, 4, 9]⟩, ⟨[(0, 1)], [2, 4, 9, 35, 36, 37]⟩, ⟨[], [2, 4, 9, 35, 36, 37, 38]⟩, ⟨[], [2, 4, 9, 11, 35, 36, 37]⟩, ⟨[(0, 2)], [2, 4, 9, 35, 36, 37]⟩, ⟨[(1, 1)], [2, 4, 9, 35, 36, 37]⟩, ⟨[(1, 1)], [2]⟩], heads := [(0, [2, 3, 4, 12, 13, 14]), (2, [2, 4, 9, 35, 36, 37])], exits := [(0, [2, 3, 4]), (1, [2, 3, 4, 12, 13, 14]), (2, [2, 4, 9]), (3, [2, 4, 9, 35, 36, 37])], rets := [2], pins := [], spec := [[false, false, false, false]] }
abbrev g36_A : List Sh := [.a (.c (.imm (.pr .bool (.pr (.pr .bool (.sl false (.int .u32))) (.int .i64)))))]
abbrev g36_S : Sh := .a (.agg [.bool, .bool, (.imm (.int .u32)), (.int .i64)])
abbrev g36_U : List Sh := [.a (.c .dead)]
def g36_R (m : Nat) : ShLVal g36_A → Option (g36_S.Val × ShLVal g36_U) := fun (x : (List (Bool × (Bool × List Int) × Int)) × Unit) => g36 m x.1
def g36_T (m : Nat) : FunT := ⟨36, g36_A, g36_S, g36_U, g36_R m⟩
noncomputable def g36_C : Code := codeOf Tryz.f36
noncomputable def g36_B0 : Code := loopAt g36_C 0 0
theorem g36_B0_ls : loopsL g36_B0 0 = [] := by kernel_rfl
noncomputable def g36_B2 : Code := loopAt g36_C 0 1
theorem g36_B2_ls : loopsL g36_B2 2 = [] := by kernel_rfl
theorem g36_C_ls : loopsL g36_C 0 = [(0, g36_B0), (2, g36_B2)] := by kernel_rfl
abbrev g36_L1_I : SS := [(2, .a (.bx 0 [.bool, .bool, (.nm 1 (.int .u32)), (.int .i64)])), (4, .a (.c (.int .i64))), (9, .a (.bx 2 [.bool, (.imm (.int .u32))])), (35, .a (.c (.nm 3 (.pr .bool (.pr (.pr .bool (.sl false (.int .u32))) (.int .i64)))))), (36, .a (.c (.int .i64))), (37, .a (.c (.int .i64)))]
abbrev g36_L1_O : List (Ex × SS) := [(.exit 2, [(2, .a (.bx 0 [.bool, .bool, (.nm 1 (.int .u32)), (.int .i64)])), (4, .a (.c (.int .i64))), (9, .a (.bx 2 [.bool, (.imm (.int .u32))]))])]
def g36_L1_R (m n : Nat) : g36_L1_I.Val → Option (outVal g36_L1_O) := (fun (x : (Bool × Bool × List Int × Int × Unit) × Int × (Bool × List Int × Unit) × (List (Bool × (Bool × List Int) × Int)) × Int × Int × Unit) => g36_L1 m n x.1.1 x.1.2.1 x.1.2.2.1 x.1.2.2.2.1 x.2.1 x.2.2.1.1 x.2.2.1.2.1 x.2.2.2.1 x.2.2.2.2.1 x.2.2.2.2.2.1)
def g36_L1_T (m n : Nat) : LoopT := ⟨2, g36_L1_I, g36_L1_O, g36_L1_R m n⟩
theorem g36_L1_kr (m n : Nat) (x : g36_L1_I.Val) : roundK (mkC (outVal g36_L1_O) [g73_T m, g74_T m, g76_T m, g75_T m, g68_T m]) (mkLp (outVal g36_L1_O) []) tt 54 g36_H g36_B2 2 (g36_L1_I.enc x) (Kl (ins := g36_L1_I) (outs := g36_L1_O) (g36_L1_R m n)) = g36_L1 m (n + 1) x.1.1 x.1.2.1 x.1.2.2.1 x.1.2.2.2.1 x.2.1 x.2.2.1.1 x.2.2.1.2.1 x.2.2.2.1 x.2.2.2.2.1 x.2.2.2.2.2.1 := by kernel_rfl
theorem g36_L1_ok {E : Entry} (hE : EOf Tryz.prog E 54 g36_H.pins) (m : Nat) (n : Nat) : LoopOK Tryz.prog E g36_B2 (g36_L1_T m n) :=
  loop_ok (CO := CallOK Tryz.prog) hmix htt (fun _ _ _ _ h => h) hE (C := fun R => mkC R [g73_T m, g74_T m, g76_T m, g75_T m, g68_T m]) (L := []) (fun _ _ _ _ _ h => mkC_spec (AllF.mem (l := [g73_T m, g74_T m, g76_T m, g75_T m, g68_T m]) ⟨g73_ok m, g74_ok m, g76_ok m, g75_ok m, g68_ok m, trivial⟩) h) (fun _ _ => loopsIn_of g36_B2_ls trivial) (fun n => (g36_L1_R m n)) (fun _ => by kernel_rfl) (fun n x => (g36_L1_kr m n x).trans (by kernel_rfl)) n
abbrev g36_L0_I : SS := [(2, .a (.bx 0 [.bool, .bool, (.nm 1 (.int .u32)), (.int .i64)])), (3, .a (.c (.nm 2 (.pr .bool (.pr (.pr .bool (.sl false (.int .u32))) (.int .i64)))))), (4, .a (.c (.int .i64))), (12, .a (.c (.imm (.pr .bool (.pr (.pr .bool (.sl false (.int .u32))) (.int .i64)))))), (13, .a (.c (.int .i64))), (14, .a (.c (.int .i64)))]
abbrev g36_L0_O : List (Ex × SS) := [(.ret, [(2, .a (.bx 0 [.bool, .bool, (.nm 1 (.int .u32)), (.int .i64)]))]), (.exit 0, [(2, .a (.bx 0 [.bool, .bool, (.nm 1 (.int .u32)), (.int .i64)])), (3, .a (.c (.nm 2 (.pr .bool (.pr (.pr .bool (.sl false (.int .u32))) (.int .i64)))))), (4, .a (.c (.int .i64)))])]
def g36_L0_R (m n : Nat) : g36_L0_I.Val → Option (outVal g36_L0_O) := (fun (x : (Bool × Bool × List Int × Int × Unit) × (List (Bool × (Bool × List Int) × Int)) × Int × (List (Bool × (Bool × List Int) × Int)) × Int × Int × Unit) => g36_L0 m n x.1.1 x.1.2.1 x.1.2.2.1 x.1.2.2.2.1 x.2.1 x.2.2.1 x.2.2.2.1 x.2.2.2.2.1 x.2.2.2.2.2.1)
def g36_L0_T (m n : Nat) : LoopT := ⟨0, g36_L0_I, g36_L0_O, g36_L0_R m n⟩
theorem g36_L0_kr (m n : Nat) (x : g36_L0_I.Val) : roundK (mkC (outVal g36_L0_O) [g73_T m, g74_T m, g76_T m, g75_T m, g68_T m]) (mkLp (outVal g36_L0_O) []) tt 54 g36_H g36_B0 0 (g36_L0_I.enc x) (Kl (ins := g36_L0_I) (outs := g36_L0_O) (g36_L0_R m n)) = g36_L0 m (n + 1) x.1.1 x.1.2.1 x.1.2.2.1 x.1.2.2.2.1 x.2.1 x.2.2.1 x.2.2.2.1 x.2.2.2.2.1 x.2.2.2.2.2.1 := by kernel_rfl
theorem g36_L0_ok {E : Entry} (hE : EOf Tryz.prog E 54 g36_H.pins) (m : Nat) (n : Nat) : LoopOK Tryz.prog E g36_B0 (g36_L0_T m n) :=
  loop_ok (CO := CallOK Tryz.prog) hmix htt (fun _ _ _ _ h => h) hE (C := fun R => mkC R [g73_T m, g74_T m, g76_T m, g75_T m, g68_T m]) (L := []) (fun _ _ _ _ _ h => mkC_spec (AllF.mem (l := [g73_T m, g74_T m, g76_T m, g75_T m, g68_T m]) ⟨g73_ok m, g74_ok m, g76_ok m, g75_ok m, g68_ok m, trivial⟩) h) (fun _ _ => loopsIn_of g36_B0_ls trivial) (fun n => (g36_L0_R m n)) (fun _ => by kernel_rfl) (fun n x => (g36_L0_kr m n x).trans (by kernel_rfl)) n
theorem g36_kr (m : Nat) (x : ShLVal g36_A) : fnK (mkC (g36_S.Val × ShLVal g36_U) [g73_T m, g74_T m, g76_T m, g75_T m, g68_T m]) (mkLp (g36_S.Val × ShLVal g36_U) [g36_L0_T m m, g36_L1_T m m]) tt g36_H Tryz.f36 (encS g36_A x) (Kd g36_S g36_U) = g36 m x.1 := by kernel_rfl
theorem g36_ok (m : Nat) : FunOK Tryz.prog (g36_T m) :=
  fun_ok hmix htt (g36_T m) Tryz.func36 (c := g36_C) (by kernel_rfl) (by kernel_rfl) (Lc := [g73_T m, g74_T m, g76_T m, g75_T m, g68_T m]) (AllF.mem (l := [g73_T m, g74_T m, g76_T m, g75_T m, g68_T m]) ⟨g73_ok m, g74_ok m, g76_ok m, g75_ok m, g68_ok m, trivial⟩) (L := [g36_L0_T m m, g36_L1_T m m]) (fun _ hE _ _ => loopsIn_of g36_C_ls ⟨mkLp_all ⟨fun _ => g36_L0_ok hE m m, fun h => absurd (show (2 : Nat) = 0 from h) (by decide), trivial⟩, mkLp_all ⟨fun h => absurd (show (0 : Nat) = 2 from h) (by decide), fun _ => g36_L1_ok hE m m, trivial⟩, trivial⟩) (fun x => (g36_kr m x).trans (by kernel_rfl))
/-! 69 sparse/dyad.Norm -/
def g69_H : Hints := { regs := [⟨[], [1, 2]⟩, ⟨[(2, 1)], [1, 2]⟩, ⟨[], [2]⟩], heads := [], exits := [], rets := [2], pins := [], spec := [[false, false, false, false]] }
abbrev g69_A : List Sh := [.a (.agg [.bool, .bool, (.imm (.int .u32)), (.int .i64)])]
abbrev g69_S : Sh := .a (.agg [.bool, .bool, (.imm (.int .u32)), (.int .i64)])
abbrev g69_U : List Sh := [.a (.c .dead)]
def g69_R (m : Nat) : ShLVal g69_A → Option (g69_S.Val × ShLVal g69_U) := fun (x : (Bool × Bool × List Int × Int × Unit) × Unit) => g69 m x.1.1 x.1.2.1 x.1.2.2.1 x.1.2.2.2.1
def g69_T (m : Nat) : FunT := ⟨69, g69_A, g69_S, g69_U, g69_R m⟩
noncomputable def g69_C : Code := codeOf Tryz.f69
theorem g69_C_ls : loopsL g69_C 0 = [] := by kernel_rfl
theorem g69_kr (m : Nat) (x : ShLVal g69_A) : fnK (mkC (g69_S.Val × ShLVal g69_U) [g73_T m]) (mkLp (g69_S.Val × ShLVal g69_U) []) tt g69_H Tryz.f69 (encS g69_A x) (Kd g69_S g69_U) = g69 m x.1.1 x.1.2.1 x.1.2.2.1 x.1.2.2.2.1 := by kernel_rfl
theorem g69_ok (m : Nat) : FunOK Tryz.prog (g69_T m) :=
  fun_ok hmix htt (g69_T m) Tryz.func69 (c := g69_C) (by kernel_rfl) (by kernel_rfl) (Lc := [g73_T m]) (AllF.mem (l := [g73_T m]) ⟨g73_ok m, trivial⟩) (L := []) (fun _ hE _ _ => loopsIn_of g69_C_ls trivial) (fun x => (g69_kr m x).trans (by kernel_rfl))
/-! 70 sparse/dyad.Sign -/
def g70_H : Hints := { regs := [⟨[], [1]⟩, ⟨[(2, 1)], [1]⟩, ⟨[], [2]⟩], heads := [], exits := [], rets := [2], pins := [], spec := [[false]] }
abbrev g70_A : List Sh := [.a (.agg [.bool, .bool, (.imm (.int .u32)), (.int .i64)])]
abbrev g70_S : Sh := .a (.c (.int .i64))
abbrev g70_U : List Sh := [.a (.c .dead)]
def g70_R (m : Nat) : ShLVal g70_A → Option (g70_S.Val × ShLVal g70_U) := fun (x : (Bool × Bool × List Int × Int × Unit) × Unit) => g70 m x.1.1 x.1.2.1 x.1.2.2.1 x.1.2.2.2.1
def g70_T (m : Nat) : FunT := ⟨70, g70_A, g70_S, g70_U, g70_R m⟩
noncomputable def g70_C : Code := codeOf Tryz.f70
theorem g70_C_ls : loopsL g70_C 0 = [] := by kernel_rfl
theorem g70_kr (m : Nat) (x : ShLVal g70_A) : fnK (mkC (g70_S.Val × ShLVal g70_U) [g73_T m, g98_T m]) (mkLp (g70_S.Val × ShLVal g70_U) []) tt g70_H Tryz.f70 (encS g70_A x) (Kd g70_S g70_U) = g70 m x.1.1 x.1.2.1 x.1.2.2.1 x.1.2.2.2.1 := by kernel_rfl
theorem g70_ok (m : Nat) : FunOK Tryz.prog (g70_T m) :=
  fun_ok hmix htt (g70_T m) Tryz.func70 (c := g70_C) (by kernel_rfl) (by kernel_rfl) (Lc := [g73_T m, g98_T m]) (AllF.mem (l := [g73_T m, g98_T m]) ⟨g73_ok m, g98_ok m, trivial⟩) (L := []) (fun _ hE _ _ => loopsIn_of g70_C_ls trivial) (fun x => (g70_kr m x).trans (by kernel_rfl))
/-! 101 sparse/integer.Abs -/
def g101_H : Hints := { regs := [⟨[], [1, 2]⟩, ⟨[], [2]⟩], heads := [], exits := [], rets := [2], pins := [], spec := [[false, false]] }
abbrev g101_A : List Sh := [.a (.agg [.bool, (.imm (.int .u32))])]
abbrev g101_S : Sh := .a (.agg [.bool, (.imm (.int .u32))])
abbrev g101_U : List Sh := [.a (.c .dead)]
def g101_R (m : Nat) : ShLVal g101_A → Option (g101_S.Val × ShLVal g101_U) := fun (x : (Bool × List Int × Unit) × Unit) => g101 m x.1.1 x.1.2.1
def g101_T (m : Nat) : FunT := ⟨101, g101_A, g101_S, g101_U, g101_R m⟩
noncomputable def g101_C : Code := codeOf Tryz.f101
theorem g101_C_ls : loopsL g101_C 0 = [] := by kernel_rfl
theorem g101_kr (m : Nat) (x : ShLVal g101_A) : fnK (mkC (g101_S.Val × ShLVal g101_U) [g97_T m, g96_T m]) (mkLp (g101_S.Val × ShLVal g101_U) []) tt g101_H Tryz.f101 (encS g101_A x) (Kd g101_S g101_U) = g101 m x.1.1 x.1.2.1 := by kernel_rfl
theorem g101_ok (m : Nat) : FunOK Tryz.prog (g101_T m) :=
  fun_ok hmix htt (g101_T m) Tryz.func101 (c := g101_C) (by kernel_rfl) (by kernel_rfl) (Lc := [g97_T m, g96_T m]) (AllF.mem (l := [g97_T m, g96_T m]) ⟨g97_ok m, g96_ok m, trivial⟩) (L := []) (fun _ hE _ _ => loopsIn_of g101_C_ls trivial) (fun x => (g101_kr m x).trans (by kernel_rfl))
/-! 72 sparse/dyad.Of -/
def g72_H : Hints := { regs := [⟨[], [1, 2]⟩, ⟨[], [2]⟩], heads := [], exits := [], rets := [2], pins := [], spec := [[false, false, false, false, false]] }
abbrev g72_A : List Sh := [.a (.agg [.bool, .bool, (.imm (.int .u32)), (.int .i64)])]
abbrev g72_S : Sh := .a (.agg [.bool, .bool, (.imm (.int .u32)), (.int .i64), .bool])
abbrev g72_U : List Sh := [.a (.c .dead)]
def g72_R (m : Nat) : ShLVal g72_A → Option (g72_S.Val × ShLVal g72_U) := fun (x : (Bool × Bool × List Int × Int × Unit) × Unit) => g72 m x.1.1 x.1.2.1 x.1.2.2.1 x.1.2.2.2.1
def g72_T (m : Nat) : FunT := ⟨72, g72_A, g72_S, g72_U, g72_R m⟩
noncomputable def g72_C : Code := codeOf Tryz.f72
theorem g72_C_ls : loopsL g72_C 0 = [] := by kernel_rfl
theorem g72_kr (m : Nat) (x : ShLVal g72_A) : fnK (mkC (g72_S.Val × ShLVal g72_U) [g101_T m]) (mkLp (g72_S.Val × ShLVal g72_U) []) tt g72_H Tryz.f72 (encS g72_A x) (Kd g72_S g72_U) = g72 m x.1.1 x.1.2.1 x.1.2.2.1 x.1.2.2.2.1 := by kernel_rfl
theorem g72_ok (m : Nat) : FunOK Tryz.prog (g72_T m) :=
  fun_ok hmix htt (g72_T m) Tryz.func72 (c := g72_C) (by kernel_rfl) (by kernel_rfl) (Lc := [g101_T m]) (AllF.mem (l := [g101_T m]) ⟨g101_ok m, trivial⟩) (L := []) (fun _ hE _ _ => loopsIn_of g72_C_ls trivial) (fun x => (g72_kr m x).trans (by kernel_rfl))
end Go.Vs.F
