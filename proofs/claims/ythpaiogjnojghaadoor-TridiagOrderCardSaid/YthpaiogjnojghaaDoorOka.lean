/- The plain functions are what the code does (by program: gen.py). -/
import Derived.Test.YthpaiogjnojghaaDoorFn
import Derived.Test.YthpaiogjnojghaaDoorVc
import Derived.Test.YthpaiogjnojghaaDoorProg
import Derived.KernelRfl

/-! MqOk -/
set_option linter.unusedVariables false
set_option maxRecDepth 100000
namespace Go.Vs.F
open Go.Proofs
def tt : TT := [none,none,none,some ⟨(.int .i64),[.int .i64]⟩,some ⟨.bool,[.bool]⟩,some ⟨(.int .u8),[.int .u8]⟩,none,none,none,some ⟨.string,[.other]⟩,none,none,none,none,none,none,none,none,none,none,none,none,some ⟨(.int .u64),[.int .u64]⟩,some ⟨(.int .u64),[.int .u64]⟩,none,none,none,none,none,none,none,none,none,none,some ⟨(.int .u64),[.int .u64]⟩,none,none,some ⟨(.slice 23 (.int .u64)),[.nil (.int .u64)]⟩,none,none,none,none,none,none,none,none,none,none,none,none,some ⟨(.slice 56 (.sl false (.pr .bool (.sl false (.int .u32))))),[.nil (.sl false (.pr .bool (.sl false (.int .u32))))]⟩,none,some ⟨(.slice 64 (.sl false (.pr .bool (.pr (.pr .bool (.sl false (.int .u32))) (.int .i64))))),[.nil (.sl false (.pr .bool (.pr (.pr .bool (.sl false (.int .u32))) (.int .i64))))]⟩,none,none,none,some ⟨(.slice 59 (.pr .bool (.sl false (.int .u32)))),[.nil (.pr .bool (.sl false (.int .u32)))]⟩,some ⟨(.slice 89 (.int .u32)),[.nil (.int .u32)]⟩,none,some ⟨(.struct [(0,1),(1,1)]),[.bool,.nil (.int .u32)]⟩,none,none,none,none,some ⟨(.slice 66 (.pr .bool (.pr (.pr .bool (.sl false (.int .u32))) (.int .i64)))),[.nil (.pr .bool (.pr (.pr .bool (.sl false (.int .u32))) (.int .i64)))]⟩,none,some ⟨(.struct [(0,1),(1,2),(3,1)]),[.bool,.bool,.nil (.int .u32),.int .i64]⟩,none,none,none,none,none,none,none,none,none,none,none,none,none,none,none,none,none,none,none,none,none,none,some ⟨(.int .u32),[.int .u32]⟩,none,none,none,none,none,none,none,none,none,none,none,none,none,none,none,none,none,none,none,none,none,none,none,none,none,some ⟨(.tab 0 .u8 [0,1,28,2,29,14,24,3,30,22,20,15,25,17,4,8,31,27,13,23,21,19,16,7,26,12,18,6,11,5,10,9]),[.other,.other,.other,.other,.other,.other,.other,.other,.other,.other,.other,.other,.other,.other,.other,.other,.other,.other,.other,.other,.other,.other,.other,.other,.other,.other,.other,.other,.other,.other,.other,.other]⟩]
theorem htt : TTok Tryd.prog tt := q6q (by kernel_rfl)
theorem hmix : Tryd.prog.follows .mixedOrders = true := by kernel_rfl
/-! 5 sparse/sparsegen.Mod -/
/-! 24 sparse/float.parts -/
def g24_H : Hints := ⟨[⟨[],[0]⟩,⟨[],[2,3]⟩],[],[],[2,3],[],[[false],[false]]⟩
def g24_T (m : Nat) : FunT := ⟨24,[.a (.c (.int .u64))],.tup [(.c (.int .i64)),(.c (.int .u64))],[.a (.c .dead)],fun (x : Int × Unit) => g24 m x.1⟩
theorem g24_ok (m : Nat) : FunOK Tryd.prog (g24_T m) :=
  fok hmix htt (H := g24_H) (g24_T m) Tryd.func24 (by kernel_rfl) noF (L := []) (l := []) (by kernel_rfl) (fun _ hE _ _ => trivial) (fun x => by kernel_rfl)
/-! 14 sparse/float.Kind -/
def g14_H : Hints := ⟨[⟨[],[0]⟩,⟨[(0,1),(2,1)],[3,4]⟩,⟨[(2,1)],[3,4,10]⟩,⟨[],[2]⟩,⟨[],[3,4,17]⟩,⟨[],[2]⟩,⟨[(0,1),(2,1),(3,1)],[20]⟩,⟨[],[2]⟩,⟨[],[2]⟩],[],[(0,[])],[2],[],[[false]]⟩
def g14_T (m : Nat) : FunT := ⟨14,[.a (.c (.int .u64))],.a (.c (.int .i64)),[.a (.c .dead)],fun (x : Int × Unit) => g14 m x.1⟩
theorem g14_ok (m : Nat) : FunOK Tryd.prog (g14_T m) :=
  fok hmix htt (H := g14_H) (g14_T m) Tryd.func14 (by kernel_rfl) (AllF.mem (l := [g24_T m]) ⟨g24_ok m,trivial⟩) (L := []) (l := []) (by kernel_rfl) (fun _ hE _ _ => trivial) (fun x => by kernel_rfl)
/-! 25 sparse/float.nan -/
def g25_H : Hints := ⟨[⟨[],[0]⟩,⟨[(0,1)],[5,6,7]⟩,⟨[],[5,6,7,8]⟩,⟨[],[4,5,6,7]⟩,⟨[(0,1)],[5,6,7,13]⟩,⟨[],[2]⟩,⟨[(1,1)],[5,6,7]⟩,⟨[],[2]⟩],[(0,[5,6,7])],[(0,[]),(1,[5,6,7])],[2],[],[[false]]⟩
def g25_T (m : Nat) : FunT := ⟨25,[.a (.c (.imm (.int .u64)))],.a (.c .bool),[.a (.c .dead)],fun (x : List Int × Unit) => g25 m x.1⟩
noncomputable def g25_C : Code := codeOf Tryd.f25
noncomputable def g25_B0 : Code := Q9 g25_C 0 0
theorem g25_K (m : Nat) : ∀ u ∈ [g14_T m],FunOK Tryd.prog u := AllF.mem ⟨g14_ok m,trivial⟩
def g25_L0_X (m : Nat) : LT := ⟨0,[(5,.a (.c (.imm (.int .u64)))),(6,.a (.c (.int .i64))),(7,.a (.c (.int .i64)))],[(.ret,[(2,.a (.c .bool))]),(.exit 0,[])],fun n (x : List Int × Int × Int × Unit) => g25_L0 m n x.1 x.2.1 x.2.2.1⟩
theorem g25_L0_ok {E : Entry} (hE : EOf Tryd.prog E 15 g25_H.pins) (m : Nat) (n : Nat) : qy Tryd.prog E g25_B0 ((g25_L0_X m).at n) :=
  lok hmix htt hE (g25_K m) (L := []) (g25_L0_X m) (l := []) (by kernel_rfl) (fun _ _ => trivial) (fun n x => by kernel_rfl) (fun _ => by kernel_rfl) n
theorem g25_ok (m : Nat) : FunOK Tryd.prog (g25_T m) :=
  fok hmix htt (H := g25_H) (g25_T m) Tryd.func25 (by kernel_rfl) (g25_K m) (L := [(g25_L0_X m).at m]) (l := [(0,g25_B0)]) (by kernel_rfl) (fun _ hE _ _ => ⟨ql ⟨yb (g25_L0_ok hE m m),trivial⟩,trivial⟩) (fun x => by kernel_rfl)
/-! 15 sparse/float.Abs -/
def g15_H : Hints := ⟨[⟨[],[0]⟩,⟨[],[0,5]⟩,⟨[],[2]⟩,⟨[(0,1)],[2]⟩],[],[],[2],[],[[false]]⟩
def g15_T (m : Nat) : FunT := ⟨15,[.a (.c (.int .u64))],.a (.c (.int .u64)),[.a (.c .dead)],fun (x : Int × Unit) => g15 m x.1⟩
theorem g15_ok (m : Nat) : FunOK Tryd.prog (g15_T m) :=
  fok hmix htt (H := g15_H) (g15_T m) Tryd.func15 (by kernel_rfl) (AllF.mem (l := [g25_T m]) ⟨g25_ok m,trivial⟩) (L := []) (l := []) (by kernel_rfl) (fun _ hE _ _ => trivial) (fun x => by kernel_rfl)
/-! 6 sparse/tridiag.Key -/
def g6_H : Hints := ⟨[⟨[],[0]⟩,⟨[],[0,7]⟩,⟨[],[2,3]⟩,⟨[],[0,4]⟩,⟨[],[4,14]⟩,⟨[(0,1)],[4]⟩,⟨[(0,1)],[2,3]⟩],[],[],[2,3],[],[[false],[false]]⟩
def g6_T (m : Nat) : FunT := ⟨6,[.a (.c (.int .u64))],.tup [(.c (.int .i64)),(.c .bool)],[.a (.c .dead)],fun (x : Int × Unit) => g6 m x.1⟩
theorem g6_ok (m : Nat) : FunOK Tryd.prog (g6_T m) :=
  fok hmix htt (H := g6_H) (g6_T m) Tryd.func6 (by kernel_rfl) (AllF.mem (l := [g14_T m,g15_T m]) ⟨g14_ok m,g15_ok m,trivial⟩) (L := []) (l := []) (by kernel_rfl) (fun _ hE _ _ => trivial) (fun x => by kernel_rfl)
/-! 16 sparse/sparseref03.Kind -/
def g16_H : Hints := ⟨[⟨[],[0]⟩,⟨[],[3,4]⟩,⟨[(2,1)],[3,4,10]⟩,⟨[],[2]⟩,⟨[],[3,4,17]⟩,⟨[],[2]⟩,⟨[(0,1),(2,1),(3,1)],[20]⟩,⟨[],[2]⟩,⟨[],[2]⟩],[],[(0,[])],[2],[],[[false]]⟩
def g16_T (m : Nat) : FunT := ⟨16,[.a (.c (.int .u64))],.a (.c (.int .i64)),[.a (.c .dead)],fun (x : Int × Unit) => g16 m x.1⟩
theorem g16_ok (m : Nat) : FunOK Tryd.prog (g16_T m) :=
  fok hmix htt (H := g16_H) (g16_T m) Tryd.func16 (by kernel_rfl) noF (L := []) (l := []) (by kernel_rfl) (fun _ hE _ _ => trivial) (fun x => by kernel_rfl)
/-! 7 sparse/sparseref37.Key -/
/-! 17 sparse/float.Neg -/
def g17_H : Hints := ⟨[⟨[],[0]⟩,⟨[],[0,5]⟩,⟨[],[2]⟩,⟨[(0,1)],[2]⟩],[],[],[2],[],[[false]]⟩
def g17_T (m : Nat) : FunT := ⟨17,[.a (.c (.int .u64))],.a (.c (.int .u64)),[.a (.c .dead)],fun (x : Int × Unit) => g17 m x.1⟩
theorem g17_ok (m : Nat) : FunOK Tryd.prog (g17_T m) :=
  fok hmix htt (H := g17_H) (g17_T m) Tryd.func17 (by kernel_rfl) (AllF.mem (l := [g25_T m]) ⟨g25_ok m,trivial⟩) (L := []) (l := []) (by kernel_rfl) (fun _ hE _ _ => trivial) (fun x => by kernel_rfl)
/-! 8 sparse/tridiag.FromKey -/
def g8_H : Hints := ⟨[⟨[],[0]⟩,⟨[(2,1)],[0,4]⟩,⟨[],[2,3]⟩,⟨[],[0,11]⟩,⟨[(0,1)],[2,3]⟩,⟨[(0,1)],[2,3]⟩],[],[(0,[0])],[2,3],[],[[false],[false]]⟩
def g8_T (m : Nat) : FunT := ⟨8,[.a (.c (.int .i64))],.tup [(.c (.int .u64)),(.c .bool)],[.a (.c .dead)],fun (x : Int × Unit) => g8 m x.1⟩
theorem g8_ok (m : Nat) : FunOK Tryd.prog (g8_T m) :=
  fok hmix htt (H := g8_H) (g8_T m) Tryd.func8 (by kernel_rfl) (AllF.mem (l := [g17_T m]) ⟨g17_ok m,trivial⟩) (L := []) (l := []) (by kernel_rfl) (fun _ hE _ _ => trivial) (fun x => by kernel_rfl)
/-! 9 sparse/sparseref37.FromKey -/
/-! 18 sparse/tridiag.middle -/
def g18_H : Hints := ⟨[⟨[],[0,1]⟩,⟨[],[4]⟩],[],[],[4],[],[[false]]⟩
def g18_T (m : Nat) : FunT := ⟨18,[.a (.c (.int .i64)),.a (.c (.int .i64))],.a (.c (.int .i64)),[.a (.c .dead),.a (.c .dead)],fun (x : Int × Int × Unit) => g18 m x.1 x.2.1⟩
theorem g18_ok (m : Nat) : FunOK Tryd.prog (g18_T m) :=
  fok hmix htt (H := g18_H) (g18_T m) Tryd.func18 (by kernel_rfl) noF (L := []) (l := []) (by kernel_rfl) (fun _ hE _ _ => trivial) (fun x => by kernel_rfl)
/-! 10 sparse/tridiag.Middle -/
def g10_H : Hints := ⟨[⟨[],[0,1]⟩,⟨[(0,1),(2,1)],[1,6,7]⟩,⟨[(0,1),(2,1)],[6,7,8,9]⟩,⟨[(0,1),(2,1),(3,1)],[6,8,25]⟩,⟨[],[4,5]⟩,⟨[(0,1),(1,1)],[4,5]⟩],[],[],[4,5],[],[[false],[false]]⟩
def g10_T (m : Nat) : FunT := ⟨10,[.a (.c (.int .u64)),.a (.c (.int .u64))],.tup [(.c (.int .u64)),(.c .bool)],[.a (.c .dead),.a (.c .dead)],fun (x : Int × Int × Unit) => g10 m x.1 x.2.1⟩
theorem g10_ok (m : Nat) : FunOK Tryd.prog (g10_T m) :=
  fok hmix htt (H := g10_H) (g10_T m) Tryd.func10 (by kernel_rfl) (AllF.mem (l := [g6_T m,g18_T m,g8_T m]) ⟨g6_ok m,g18_ok m,g8_ok m,trivial⟩) (L := []) (l := []) (by kernel_rfl) (fun _ hE _ _ => trivial) (fun x => by kernel_rfl)
/-! 19 sparse/sparseref37.Half -/
/-! 11 sparse/sparseref37.Middle -/
/-! 22 sparse/sparseref03.nan -/
def g22_H : Hints := ⟨[⟨[],[0]⟩,⟨[(0,1)],[2]⟩],[],[],[2],[],[[false]]⟩
def g22_T (m : Nat) : FunT := ⟨22,[.a (.c (.int .u64))],.a (.c .bool),[.a (.c .dead)],fun (x : Int × Unit) => g22 m x.1⟩
theorem g22_ok (m : Nat) : FunOK Tryd.prog (g22_T m) :=
  fok hmix htt (H := g22_H) (g22_T m) Tryd.func22 (by kernel_rfl) (AllF.mem (l := [g16_T m]) ⟨g16_ok m,trivial⟩) (L := []) (l := []) (by kernel_rfl) (fun _ hE _ _ => trivial) (fun x => by kernel_rfl)
/-! 21 sparse/sparseref03.Neg -/
def g21_H : Hints := ⟨[⟨[],[0]⟩,⟨[],[0,4]⟩,⟨[],[2]⟩,⟨[(0,1)],[2]⟩],[],[],[2],[],[[false]]⟩
def g21_T (m : Nat) : FunT := ⟨21,[.a (.c (.int .u64))],.a (.c (.int .u64)),[.a (.c .dead)],fun (x : Int × Unit) => g21 m x.1⟩
theorem g21_ok (m : Nat) : FunOK Tryd.prog (g21_T m) :=
  fok hmix htt (H := g21_H) (g21_T m) Tryd.func21 (by kernel_rfl) (AllF.mem (l := [g22_T m]) ⟨g22_ok m,trivial⟩) (L := []) (l := []) (by kernel_rfl) (fun _ hE _ _ => trivial) (fun x => by kernel_rfl)
/-! 30 sparse/float.IsFinite -/
def g30_H : Hints := ⟨[⟨[],[0]⟩,⟨[(0,1),(2,1)],[3]⟩,⟨[(0,1)],[2]⟩],[],[],[2],[],[[false]]⟩
def g30_T (m : Nat) : FunT := ⟨30,[.a (.c (.int .u64))],.a (.c .bool),[.a (.c .dead)],fun (x : Int × Unit) => g30 m x.1⟩
theorem g30_ok (m : Nat) : FunOK Tryd.prog (g30_T m) :=
  fok hmix htt (H := g30_H) (g30_T m) Tryd.func30 (by kernel_rfl) (AllF.mem (l := [g24_T m]) ⟨g24_ok m,trivial⟩) (L := []) (l := []) (by kernel_rfl) (fun _ hE _ _ => trivial) (fun x => by kernel_rfl)
/-! 29 sparse/tridiag.check_1 -/
def g29_H : Hints := ⟨[⟨[],[0]⟩,⟨[(0,1)],[2]⟩],[],[],[2],[],[[false]]⟩
def g29_T (m : Nat) : FunT := ⟨29,[.a (.c (.int .u64))],.a (.c .bool),[.a (.c .dead)],fun (x : Int × Unit) => g29 m x.1⟩
theorem g29_ok (m : Nat) : FunOK Tryd.prog (g29_T m) :=
  fok hmix htt (H := g29_H) (g29_T m) Tryd.func29 (by kernel_rfl) (AllF.mem (l := [g30_T m]) ⟨g30_ok m,trivial⟩) (L := []) (l := []) (by kernel_rfl) (fun _ hE _ _ => trivial) (fun x => by kernel_rfl)
/-! 35 slices.IndexFunc___sparse/api.Float_sparse/api.Float_ -/
def g35_H : Hints := ⟨[⟨[],[0,1]⟩,⟨[],[0,1,7,8]⟩,⟨[],[0,1,7,8,9]⟩,⟨[],[0,1,5,7,8]⟩,⟨[],[0,1,5,7,8,16]⟩,⟨[(0,1)],[4]⟩,⟨[(1,1)],[0,1,7,8]⟩,⟨[],[4]⟩],[(0,[0,1,7,8])],[(0,[]),(1,[0,1,7,8])],[4],[],[[false]]⟩
def g35_T (m : Nat) : FunT := ⟨35,[.a (.c (.imm (.int .u64))),.a (.c (.fn 29))],.a (.c (.int .i64)),[.a (.c .dead),.a (.c .dead)],fun (x : List Int × Unit × Unit) => g35 m x.1⟩
noncomputable def g35_C : Code := codeOf Tryd.f35
noncomputable def g35_B0 : Code := Q9 g35_C 0 0
theorem g35_K (m : Nat) : ∀ u ∈ [g29_T m],FunOK Tryd.prog u := AllF.mem ⟨g29_ok m,trivial⟩
def g35_L0_X (m : Nat) : LT := ⟨0,[(0,.a (.c (.imm (.int .u64)))),(1,.a (.c (.fn 29))),(7,.a (.c (.int .i64))),(8,.a (.c (.int .i64)))],[(.ret,[(4,.a (.c (.int .i64)))]),(.exit 0,[])],fun n (x : List Int × Unit × Int × Int × Unit) => g35_L0 m n x.1 x.2.2.1 x.2.2.2.1⟩
theorem g35_L0_ok {E : Entry} (hE : EOf Tryd.prog E 19 g35_H.pins) (m : Nat) (n : Nat) : qy Tryd.prog E g35_B0 ((g35_L0_X m).at n) :=
  lok hmix htt hE (g35_K m) (L := []) (g35_L0_X m) (l := []) (by kernel_rfl) (fun _ _ => trivial) (fun n x => by kernel_rfl) (fun _ => by kernel_rfl) n
theorem g35_ok (m : Nat) : FunOK Tryd.prog (g35_T m) :=
  fok hmix htt (H := g35_H) (g35_T m) Tryd.func35 (by kernel_rfl) (g35_K m) (L := [(g35_L0_X m).at m]) (l := [(0,g35_B0)]) (by kernel_rfl) (fun _ hE _ _ => ⟨ql ⟨yb (g35_L0_ok hE m m),trivial⟩,trivial⟩) (fun x => by kernel_rfl)
/-! 31 slices.ContainsFunc___sparse/api.Float_sparse/api.Float_ -/
def g31_H : Hints := ⟨[⟨[],[0,1]⟩,⟨[(0,1),(1,1)],[4]⟩],[],[],[4],[],[[false]]⟩
def g31_T (m : Nat) : FunT := ⟨31,[.a (.c (.imm (.int .u64))),.a (.c (.fn 29))],.a (.c .bool),[.a (.c .dead),.a (.c .dead)],fun (x : List Int × Unit × Unit) => g31 m x.1⟩
theorem g31_ok (m : Nat) : FunOK Tryd.prog (g31_T m) :=
  fok hmix htt (H := g31_H) (g31_T m) Tryd.func31 (by kernel_rfl) (AllF.mem (l := [g35_T m]) ⟨g35_ok m,trivial⟩) (L := []) (l := []) (by kernel_rfl) (fun _ hE _ _ => trivial) (fun x => by kernel_rfl)
/-! 26 sparse/tridiag.check -/
def g26_H : Hints := ⟨[⟨[],[0,1]⟩,⟨[],[0,1,5]⟩,⟨[],[0,1,5,6]⟩,⟨[],[4]⟩,⟨[],[0,1,5,10]⟩,⟨[],[4]⟩,⟨[(0,1),(3,1),(4,1)],[18]⟩,⟨[],[4]⟩,⟨[],[4]⟩],[],[(0,[])],[4],[],[[false]]⟩
def g26_T (m : Nat) : FunT := ⟨26,[.a (.c (.imm (.int .u64))),.a (.c (.imm (.int .u64)))],.a (.c (.int .i64)),[.a (.c .dead),.a (.c .dead)],fun (x : List Int × List Int × Unit) => g26 m x.1 x.2.1⟩
theorem g26_ok (m : Nat) : FunOK Tryd.prog (g26_T m) :=
  fok hmix htt (H := g26_H) (g26_T m) Tryd.func26 (by kernel_rfl) (AllF.mem (l := [g31_T m]) ⟨g31_ok m,trivial⟩) (L := []) (l := []) (by kernel_rfl) (fun _ hE _ _ => trivial) (fun x => by kernel_rfl)
/-! 51 sparse/integer.trim -/
def g51_H : Hints := ⟨[⟨[],[0]⟩,⟨[],[0,3]⟩,⟨[(2,1)],[0,3,15]⟩,⟨[(0,1)],[0,3]⟩,⟨[(0,1),(1,1)],[2]⟩],[(0,[0,3])],[(0,[0,3]),(1,[0,3])],[2],[],[[false]]⟩
def g51_T (m : Nat) : FunT := ⟨51,[.a (.c (.imm (.int .u32)))],.a (.c (.imm (.int .u32))),[.a (.c .dead)],fun (x : List Int × Unit) => g51 m x.1⟩
noncomputable def g51_C : Code := codeOf Tryd.f51
noncomputable def g51_B0 : Code := Q9 g51_C 0 0
def g51_L0_X (m : Nat) : LT := ⟨0,[(0,.a (.c (.imm (.int .u32)))),(3,.a (.c (.int .i64)))],[(.exit 0,[(0,.a (.c (.imm (.int .u32)))),(3,.a (.c (.int .i64)))])],fun n (x : List Int × Int × Unit) => g51_L0 m n x.1 x.2.1⟩
theorem g51_L0_ok {E : Entry} (hE : EOf Tryd.prog E 21 g51_H.pins) (m : Nat) (n : Nat) : qy Tryd.prog E g51_B0 ((g51_L0_X m).at n) :=
  lok hmix htt hE noF (L := []) (g51_L0_X m) (l := []) (by kernel_rfl) (fun _ _ => trivial) (fun n x => by kernel_rfl) (fun _ => by kernel_rfl) n
theorem g51_ok (m : Nat) : FunOK Tryd.prog (g51_T m) :=
  fok hmix htt (H := g51_H) (g51_T m) Tryd.func51 (by kernel_rfl) noF (L := [(g51_L0_X m).at m]) (l := [(0,g51_B0)]) (by kernel_rfl) (fun _ hE _ _ => ⟨ql ⟨yb (g51_L0_ok hE m m),trivial⟩,trivial⟩) (fun x => by kernel_rfl)
/-! 61 sparse/integer.big -/
def g61_H : Hints := ⟨[⟨[],[0,1,4]⟩,⟨[(0,1)],[0,1,4]⟩,⟨[],[0,1,4,9]⟩,⟨[],[4]⟩,⟨[(0,1),(1,1)],[4]⟩],[],[],[4],[],[[false,false]]⟩
def g61_T (m : Nat) : FunT := ⟨61,[.a (.c .bool),.a (.c (.imm (.int .u32)))],.a (.agg [.bool,(.imm (.int .u32))]),[.a (.c .dead),.a (.c .dead)],fun (x : Bool × List Int × Unit) => g61 m x.1 x.2.1⟩
theorem g61_ok (m : Nat) : FunOK Tryd.prog (g61_T m) :=
  fok hmix htt (H := g61_H) (g61_T m) Tryd.func61 (by kernel_rfl) (AllF.mem (l := [g51_T m]) ⟨g51_ok m,trivial⟩) (L := []) (l := []) (by kernel_rfl) (fun _ hE _ _ => trivial) (fun x => by kernel_rfl)
/-! 52 sparse/integer.FromInt -/
def g52_H : Hints := ⟨[⟨[],[0,2]⟩,⟨[],[0,2,3]⟩,⟨[],[0,2,3,7]⟩,⟨[(0,1)],[0,2,3]⟩,⟨[(0,1)],[2]⟩],[],[],[2],[],[[false,false]]⟩
def g52_T (m : Nat) : FunT := ⟨52,[.a (.c (.int .i64))],.a (.agg [.bool,(.imm (.int .u32))]),[.a (.c .dead)],fun (x : Int × Unit) => g52 m x.1⟩
theorem g52_ok (m : Nat) : FunOK Tryd.prog (g52_T m) :=
  fok hmix htt (H := g52_H) (g52_T m) Tryd.func52 (by kernel_rfl) (AllF.mem (l := [g61_T m]) ⟨g61_ok m,trivial⟩) (L := []) (l := []) (by kernel_rfl) (fun _ hE _ _ => trivial) (fun x => by kernel_rfl)
/-! 65 sparse/float.negative -/
def g65_H : Hints := ⟨[⟨[],[0]⟩,⟨[(0,1)],[2]⟩],[],[],[2],[],[[false]]⟩
def g65_T (m : Nat) : FunT := ⟨65,[.a (.c (.int .u64))],.a (.c .bool),[.a (.c .dead)],fun (x : Int × Unit) => g65 m x.1⟩
theorem g65_ok (m : Nat) : FunOK Tryd.prog (g65_T m) :=
  fok hmix htt (H := g65_H) (g65_T m) Tryd.func65 (by kernel_rfl) noF (L := []) (l := []) (by kernel_rfl) (fun _ hE _ _ => trivial) (fun x => by kernel_rfl)
/-! 62 slices.Clone___uint32_uint32_ -/
def g62_H : Hints := { regs := [⟨[],[0]⟩,⟨[],[0]⟩,⟨[],[2]⟩,⟨[],[2]⟩],heads := [],exits := [],rets := [2],pins := [],spec := [[true]] }
abbrev g62_A : List Sh := [.a (.c (.imm (.int .u32)))]
abbrev g62_S : Sh := .a (.c (.nm 0 (.int .u32)))
abbrev g62_U : List Sh := [.a (.c .dead)]
def g62_R (m : Nat) : Qk g62_A → Option (g62_S.Val × Qk g62_U) := fun (x : List Int × Unit) => g62 m x.1
def g62_T (m : Nat) : FunT := ⟨62,g62_A,g62_S,g62_U,g62_R m⟩
noncomputable def g62_C : Code := codeOf Tryd.f62
theorem g62_ok (m : Nat) : FunOK Tryd.prog (g62_T m) :=
  q8q hmix htt (H := g62_H) (fn := Tryd.f62) (f := 62) (t := (.int .u32)) (ty := 57) (e := 89) (ty2 := 57) (k := 1) (cells := [.nil (.int .u32)]) (A := pA g62_C) (X := pX (pB (pA (pB g62_C)))) (Y := pB (pB g62_C)) (o0 := pO 0 (pA (pA (pB g62_C)))) (o1 := pO 1 (pA (pA (pB g62_C)))) Tryd.func62 (by kernel_rfl) (by kernel_rfl) (by kernel_rfl) (by kernel_rfl) (by kernel_rfl) (by kernel_rfl) (by kernel_rfl) (by kernel_rfl) (by kernel_rfl) (of_decide_eq_true (by kernel_rfl)) rfl (by kernel_rfl) (by kernel_rfl) (by kernel_rfl) (fun xs => [(0,.sl .imm (.int .u32) xs)]) (fun xs => [(2,.sl (.nm 0) (.int .u32) xs)]) (fun xs => by kernel_rfl) (fun _ => rfl) (fun _ => rfl) (fun _ => rfl) (by kernel_rfl) (fun xs => by kernel_rfl) (fun xs => by kernel_rfl)
/-! 56 sparse/integer.Neg -/
def g56_H : Hints := ⟨[⟨[],[1,2]⟩,⟨[],[2]⟩],[],[],[2],[],[[false,false]]⟩
def g56_T (m : Nat) : FunT := ⟨56,[.a (.agg [.bool,(.imm (.int .u32))])],.a (.agg [.bool,(.imm (.int .u32))]),[.a (.c .dead)],fun (x : (Bool × List Int × Unit) × Unit) => g56 m x.1.1 x.1.2.1⟩
theorem g56_ok (m : Nat) : FunOK Tryd.prog (g56_T m) :=
  fok hmix htt (H := g56_H) (g56_T m) Tryd.func56 (by kernel_rfl) (AllF.mem (l := [g62_T m,g61_T m]) ⟨g62_ok m,g61_ok m,trivial⟩) (L := []) (l := []) (by kernel_rfl) (fun _ hE _ _ => trivial) (fun x => by kernel_rfl)
/-! 59 sparse/dyad.bad -/
def g59_H : Hints := ⟨[⟨[],[0]⟩,⟨[],[0]⟩],[],[],[0],[],[[false,false,true,false]]⟩
def g59_T (m : Nat) : FunT := ⟨59,[],.a (.agg [.bool,.bool,(.nm 0 (.int .u32)),(.int .i64)]),[],fun (x : Unit) => g59 m⟩
theorem g59_ok (m : Nat) : FunOK Tryd.prog (g59_T m) :=
  fok hmix htt (H := g59_H) (g59_T m) Tryd.func59 (by kernel_rfl) noF (L := []) (l := []) (by kernel_rfl) (fun _ hE _ _ => trivial) (fun x => by kernel_rfl)
/-! 45 sparse/integer.Norm -/
def g45_H : Hints := ⟨[⟨[],[1,2]⟩,⟨[],[2]⟩],[],[],[2],[],[[false,false]]⟩
def g45_T (m : Nat) : FunT := ⟨45,[.a (.agg [.bool,(.imm (.int .u32))])],.a (.agg [.bool,(.imm (.int .u32))]),[.a (.c .dead)],fun (x : (Bool × List Int × Unit) × Unit) => g45 m x.1.1 x.1.2.1⟩
theorem g45_ok (m : Nat) : FunOK Tryd.prog (g45_T m) :=
  fok hmix htt (H := g45_H) (g45_T m) Tryd.func45 (by kernel_rfl) (AllF.mem (l := [g62_T m,g61_T m]) ⟨g62_ok m,g61_ok m,trivial⟩) (L := []) (l := []) (by kernel_rfl) (fun _ hE _ _ => trivial) (fun x => by kernel_rfl)
/-! 40 sparse/integer.Sign -/
def g40_H : Hints := ⟨[⟨[],[1]⟩,⟨[],[1,3]⟩,⟨[],[2]⟩,⟨[],[9]⟩,⟨[],[2]⟩,⟨[],[2]⟩],[],[(0,[])],[2],[],[[false]]⟩
def g40_T (m : Nat) : FunT := ⟨40,[.a (.agg [.bool,(.imm (.int .u32))])],.a (.c (.int .i64)),[.a (.c .dead)],fun (x : (Bool × List Int × Unit) × Unit) => g40 m x.1.1 x.1.2.1⟩
theorem g40_ok (m : Nat) : FunOK Tryd.prog (g40_T m) :=
  fok hmix htt (H := g40_H) (g40_T m) Tryd.func40 (by kernel_rfl) (AllF.mem (l := [g51_T m]) ⟨g51_ok m,trivial⟩) (L := []) (l := []) (by kernel_rfl) (fun _ hE _ _ => trivial) (fun x => by kernel_rfl)
/-! 86 math/bits.TrailingZeros32 -/
def g86_H : Hints := ⟨[⟨[],[0]⟩,⟨[],[0,4]⟩,⟨[],[2]⟩,⟨[],[2]⟩],[],[],[2],[],[[false]]⟩
def g86_T (m : Nat) : FunT := ⟨86,[.a (.c (.int .u32))],.a (.c (.int .i64)),[.a (.c .dead)],fun (x : Int × Unit) => g86 m x.1⟩
theorem g86_ok (m : Nat) : FunOK Tryd.prog (g86_T m) :=
  fok hmix htt (H := g86_H) (g86_T m) Tryd.func86 (by kernel_rfl) noF (L := []) (l := []) (by kernel_rfl) (fun _ hE _ _ => trivial) (fun x => by kernel_rfl)
/-! 74 sparse/integer.TrailingZeros -/
def g74_H : Hints := ⟨[⟨[],[1]⟩,⟨[],[6,7,8]⟩,⟨[],[6,7,8,9]⟩,⟨[],[3,4,6,7,8]⟩,⟨[],[3,4,6,7,8,14]⟩,⟨[(0,1),(2,1)],[2]⟩,⟨[(1,1)],[6,7,8]⟩,⟨[],[2]⟩],[(0,[6,7,8])],[(0,[]),(1,[6,7,8])],[2],[],[[false]]⟩
def g74_T (m : Nat) : FunT := ⟨74,[.a (.agg [.bool,(.imm (.int .u32))])],.a (.c (.int .i64)),[.a (.c .dead)],fun (x : (Bool × List Int × Unit) × Unit) => g74 m x.1.1 x.1.2.1⟩
noncomputable def g74_C : Code := codeOf Tryd.f74
noncomputable def g74_B0 : Code := Q9 g74_C 0 0
theorem g74_K (m : Nat) : ∀ u ∈ [g86_T m],FunOK Tryd.prog u := AllF.mem ⟨g86_ok m,trivial⟩
def g74_L0_X (m : Nat) : LT := ⟨0,[(6,.a (.c (.imm (.int .u32)))),(7,.a (.c (.int .i64))),(8,.a (.c (.int .i64)))],[(.ret,[(2,.a (.c (.int .i64)))]),(.exit 0,[])],fun n (x : List Int × Int × Int × Unit) => g74_L0 m n x.1 x.2.1 x.2.2.1⟩
theorem g74_L0_ok {E : Entry} (hE : EOf Tryd.prog E 21 g74_H.pins) (m : Nat) (n : Nat) : qy Tryd.prog E g74_B0 ((g74_L0_X m).at n) :=
  lok hmix htt hE (g74_K m) (L := []) (g74_L0_X m) (l := []) (by kernel_rfl) (fun _ _ => trivial) (fun n x => by kernel_rfl) (fun _ => by kernel_rfl) n
theorem g74_ok (m : Nat) : FunOK Tryd.prog (g74_T m) :=
  fok hmix htt (H := g74_H) (g74_T m) Tryd.func74 (by kernel_rfl) (g74_K m) (L := [(g74_L0_X m).at m]) (l := [(0,g74_B0)]) (by kernel_rfl) (fun _ hE _ _ => ⟨ql ⟨yb (g74_L0_ok hE m m),trivial⟩,trivial⟩) (fun x => by kernel_rfl)
/-! 94 math/bits.Len32 -/
def g94_H : Hints := ⟨[⟨[],[0,2]⟩,⟨[],[0,2,4]⟩,⟨[(0,1)],[0]⟩,⟨[],[0,2]⟩,⟨[],[0,2,8]⟩,⟨[(0,1)],[0,2]⟩,⟨[(0,1)],[0,2]⟩,⟨[(0,1),(1,1)],[2]⟩],[],[],[2],[],[[false]]⟩
def g94_T (m : Nat) : FunT := ⟨94,[.a (.c (.int .u32))],.a (.c (.int .i64)),[.a (.c .dead)],fun (x : Int × Unit) => g94 m x.1⟩
theorem g94_ok (m : Nat) : FunOK Tryd.prog (g94_T m) :=
  fok hmix htt (H := g94_H) (g94_T m) Tryd.func94 (by kernel_rfl) noF (L := []) (l := []) (by kernel_rfl) (fun _ hE _ _ => trivial) (fun x => by kernel_rfl)
/-! 87 sparse/integer.length -/
def g87_H : Hints := ⟨[⟨[],[0]⟩,⟨[],[0,5]⟩,⟨[],[2]⟩,⟨[],[2]⟩],[],[],[2],[],[[false]]⟩
def g87_T (m : Nat) : FunT := ⟨87,[.a (.c (.imm (.int .u32)))],.a (.c (.int .i64)),[.a (.c .dead)],fun (x : List Int × Unit) => g87 m x.1⟩
theorem g87_ok (m : Nat) : FunOK Tryd.prog (g87_T m) :=
  fok hmix htt (H := g87_H) (g87_T m) Tryd.func87 (by kernel_rfl) (AllF.mem (l := [g94_T m]) ⟨g94_ok m,trivial⟩) (L := []) (l := []) (by kernel_rfl) (fun _ hE _ _ => trivial) (fun x => by kernel_rfl)
/-! 75 sparse/integer.BitLen -/
def g75_H : Hints := ⟨[⟨[],[1]⟩,⟨[],[2]⟩],[],[],[2],[],[[false]]⟩
def g75_T (m : Nat) : FunT := ⟨75,[.a (.agg [.bool,(.imm (.int .u32))])],.a (.c (.int .i64)),[.a (.c .dead)],fun (x : (Bool × List Int × Unit) × Unit) => g75 m x.1.1 x.1.2.1⟩
theorem g75_ok (m : Nat) : FunOK Tryd.prog (g75_T m) :=
  fok hmix htt (H := g75_H) (g75_T m) Tryd.func75 (by kernel_rfl) (AllF.mem (l := [g51_T m,g87_T m]) ⟨g51_ok m,g87_ok m,trivial⟩) (L := []) (l := []) (by kernel_rfl) (fun _ hE _ _ => trivial) (fun x => by kernel_rfl)
/-! 77 sparse/integer.up -/
def g77_H : Hints := ⟨[⟨[],[0,1]⟩,⟨[],[0,1,13]⟩,⟨[],[4]⟩,⟨[],[0,5,6]⟩,⟨[],[0,5,6,7]⟩,⟨[(0,1)],[5,6,7,25,26,27]⟩,⟨[],[5,6,7,25,26,27,28]⟩,⟨[],[5,6,7,8,9,25,26,27]⟩,⟨[(0,1)],[5,6,7,8,10,25,26,27]⟩,⟨[],[5,6,7,8,10,25,26,27]⟩,⟨[(2,1),(5,1)],[5,6,7,25,26,27]⟩,⟨[(1,1)],[5,6,7,25,26,27]⟩,⟨[(0,1)],[4]⟩],[(0,[5,6,7,25,26,27])],[(0,[7]),(1,[5,6,7,25,26,27])],[4],[],[[false]]⟩
def g77_T (m : Nat) : FunT := ⟨77,[.a (.c (.imm (.int .u32))),.a (.c (.int .i64))],.a (.c (.imm (.int .u32))),[.a (.c .dead),.a (.c .dead)],fun (x : List Int × Int × Unit) => g77 m x.1 x.2.1⟩
noncomputable def g77_C : Code := codeOf Tryd.f77
noncomputable def g77_B0 : Code := Q9 g77_C 0 0
theorem g77_K (m : Nat) : ∀ u ∈ [g51_T m],FunOK Tryd.prog u := AllF.mem ⟨g51_ok m,trivial⟩
def g77_L0_X (m : Nat) : LT := ⟨0,[(5,.a (.c (.int .i64))),(6,.a (.c (.int .u64))),(7,.a (.c (.nm 0 (.int .u32)))),(25,.a (.c (.imm (.int .u32)))),(26,.a (.c (.int .i64))),(27,.a (.c (.int .i64)))],[(.exit 0,[(7,.a (.c (.nm 0 (.int .u32))))])],fun n (x : Int × Int × List Int × List Int × Int × Int × Unit) => g77_L0 m n x.1 x.2.1 x.2.2.1 x.2.2.2.1 x.2.2.2.2.1 x.2.2.2.2.2.1⟩
theorem g77_L0_ok {E : Entry} (hE : EOf Tryd.prog E 59 g77_H.pins) (m : Nat) (n : Nat) : qy Tryd.prog E g77_B0 ((g77_L0_X m).at n) :=
  lok hmix htt hE (g77_K m) (L := []) (g77_L0_X m) (l := []) (by kernel_rfl) (fun _ _ => trivial) (fun n x => by kernel_rfl) (fun _ => by kernel_rfl) n
theorem g77_ok (m : Nat) : FunOK Tryd.prog (g77_T m) :=
  fok hmix htt (H := g77_H) (g77_T m) Tryd.func77 (by kernel_rfl) (g77_K m) (L := [(g77_L0_X m).at m]) (l := [(0,g77_B0)]) (by kernel_rfl) (fun _ hE _ _ => ⟨ql ⟨yb (g77_L0_ok hE m m),trivial⟩,trivial⟩) (fun x => by kernel_rfl)
/-! 89 sparse/integer.down_1 -/
def g89_H : Hints := ⟨[⟨[],[0]⟩,⟨[(0,1)],[2]⟩],[],[],[2],[],[[false]]⟩
def g89_T (m : Nat) : FunT := ⟨89,[.a (.c (.int .u32))],.a (.c .bool),[.a (.c .dead)],fun (x : Int × Unit) => g89 m x.1⟩
theorem g89_ok (m : Nat) : FunOK Tryd.prog (g89_T m) :=
  fok hmix htt (H := g89_H) (g89_T m) Tryd.func89 (by kernel_rfl) noF (L := []) (l := []) (by kernel_rfl) (fun _ hE _ _ => trivial) (fun x => by kernel_rfl)
/-! 95 slices.IndexFunc___uint32_uint32_ -/
def g95_H : Hints := ⟨[⟨[],[0,1]⟩,⟨[],[0,1,7,8]⟩,⟨[],[0,1,7,8,9]⟩,⟨[],[0,1,5,7,8]⟩,⟨[],[0,1,5,7,8,16]⟩,⟨[(0,1)],[4]⟩,⟨[(1,1)],[0,1,7,8]⟩,⟨[],[4]⟩],[(0,[0,1,7,8])],[(0,[]),(1,[0,1,7,8])],[4],[],[[false]]⟩
def g95_T (m : Nat) : FunT := ⟨95,[.a (.c (.imm (.int .u32))),.a (.c (.fn 89))],.a (.c (.int .i64)),[.a (.c .dead),.a (.c .dead)],fun (x : List Int × Unit × Unit) => g95 m x.1⟩
noncomputable def g95_C : Code := codeOf Tryd.f95
noncomputable def g95_B0 : Code := Q9 g95_C 0 0
theorem g95_K (m : Nat) : ∀ u ∈ [g89_T m],FunOK Tryd.prog u := AllF.mem ⟨g89_ok m,trivial⟩
def g95_L0_X (m : Nat) : LT := ⟨0,[(0,.a (.c (.imm (.int .u32)))),(1,.a (.c (.fn 89))),(7,.a (.c (.int .i64))),(8,.a (.c (.int .i64)))],[(.ret,[(4,.a (.c (.int .i64)))]),(.exit 0,[])],fun n (x : List Int × Unit × Int × Int × Unit) => g95_L0 m n x.1 x.2.2.1 x.2.2.2.1⟩
theorem g95_L0_ok {E : Entry} (hE : EOf Tryd.prog E 19 g95_H.pins) (m : Nat) (n : Nat) : qy Tryd.prog E g95_B0 ((g95_L0_X m).at n) :=
  lok hmix htt hE (g95_K m) (L := []) (g95_L0_X m) (l := []) (by kernel_rfl) (fun _ _ => trivial) (fun n x => by kernel_rfl) (fun _ => by kernel_rfl) n
theorem g95_ok (m : Nat) : FunOK Tryd.prog (g95_T m) :=
  fok hmix htt (H := g95_H) (g95_T m) Tryd.func95 (by kernel_rfl) (g95_K m) (L := [(g95_L0_X m).at m]) (l := [(0,g95_B0)]) (by kernel_rfl) (fun _ hE _ _ => ⟨ql ⟨yb (g95_L0_ok hE m m),trivial⟩,trivial⟩) (fun x => by kernel_rfl)
/-! 88 slices.ContainsFunc___uint32_uint32_ -/
def g88_H : Hints := ⟨[⟨[],[0,1]⟩,⟨[(0,1),(1,1)],[4]⟩],[],[],[4],[],[[false]]⟩
def g88_T (m : Nat) : FunT := ⟨88,[.a (.c (.imm (.int .u32))),.a (.c (.fn 89))],.a (.c .bool),[.a (.c .dead),.a (.c .dead)],fun (x : List Int × Unit × Unit) => g88 m x.1⟩
theorem g88_ok (m : Nat) : FunOK Tryd.prog (g88_T m) :=
  fok hmix htt (H := g88_H) (g88_T m) Tryd.func88 (by kernel_rfl) (AllF.mem (l := [g95_T m]) ⟨g95_ok m,trivial⟩) (L := []) (l := []) (by kernel_rfl) (fun _ hE _ _ => trivial) (fun x => by kernel_rfl)
/-! 78 sparse/integer.down -/
def g78_H : Hints := ⟨[⟨[],[0,1]⟩,⟨[],[0,6,7]⟩,⟨[],[0,6,7,20]⟩,⟨[(0,1)],[4,5]⟩,⟨[(4,1)],[0,6,7,8]⟩,⟨[],[0,6,7,8,9]⟩,⟨[],[0,6,7,8,9,45,46]⟩,⟨[],[0,6,7,8,9,45,46,47]⟩,⟨[],[0,6,7,8,9,10,45,46]⟩,⟨[],[0,6,7,8,9,10,11,45,46]⟩,⟨[],[0,6,7,8,9,10,11,45,46,62]⟩,⟨[(0,1)],[0,6,7,8,9,10,11,45,46]⟩,⟨[(1,1),(2,1)],[0,6,7,8,9,45,46]⟩,⟨[(1,1)],[0,6,7,8,9,45,46]⟩,⟨[(0,1),(2,1)],[4,5]⟩],[(0,[0,6,7,8,9,45,46])],[(0,[8,9]),(1,[0,6,7,8,9,45,46])],[4,5],[],[[false],[false]]⟩
def g78_T (m : Nat) : FunT := ⟨78,[.a (.c (.imm (.int .u32))),.a (.c (.int .i64))],.tup [(.c (.imm (.int .u32))),(.c .bool)],[.a (.c .dead),.a (.c .dead)],fun (x : List Int × Int × Unit) => g78 m x.1 x.2.1⟩
noncomputable def g78_C : Code := codeOf Tryd.f78
noncomputable def g78_B0 : Code := Q9 g78_C 0 0
theorem g78_K (m : Nat) : ∀ u ∈ [g88_T m,g51_T m],FunOK Tryd.prog u := AllF.mem ⟨g88_ok m,g51_ok m,trivial⟩
def g78_L0_X (m : Nat) : LT := ⟨0,[(0,.a (.c (.imm (.int .u32)))),(6,.a (.c (.int .i64))),(7,.a (.c (.int .u64))),(8,.a (.c .bool)),(9,.a (.c (.nm 0 (.int .u32)))),(45,.a (.c (.int .i64))),(46,.a (.c (.int .i64)))],[(.exit 0,[(8,.a (.c .bool)),(9,.a (.c (.nm 0 (.int .u32))))])],fun n (x : List Int × Int × Int × Bool × List Int × Int × Int × Unit) => g78_L0 m n x.1 x.2.1 x.2.2.1 x.2.2.2.1 x.2.2.2.2.1 x.2.2.2.2.2.1 x.2.2.2.2.2.2.1⟩
theorem g78_L0_ok {E : Entry} (hE : EOf Tryd.prog E 86 g78_H.pins) (m : Nat) (n : Nat) : qy Tryd.prog E g78_B0 ((g78_L0_X m).at n) :=
  lok hmix htt hE (g78_K m) (L := []) (g78_L0_X m) (l := []) (by kernel_rfl) (fun _ _ => trivial) (fun n x => by kernel_rfl) (fun _ => by kernel_rfl) n
theorem g78_ok (m : Nat) : FunOK Tryd.prog (g78_T m) :=
  fok hmix htt (H := g78_H) (g78_T m) Tryd.func78 (by kernel_rfl) (g78_K m) (L := [(g78_L0_X m).at m]) (l := [(0,g78_B0)]) (by kernel_rfl) (fun _ hE _ _ => ⟨ql ⟨yb (g78_L0_ok hE m m),trivial⟩,trivial⟩) (fun x => by kernel_rfl)
/-! 70 sparse/integer.plus -/
def g70_H : Hints := ⟨[⟨[],[0,1]⟩,⟨[],[0,1,14]⟩,⟨[(0,1),(1,1)],[0,1]⟩,⟨[],[0,1,5]⟩,⟨[],[0,1,5,6]⟩,⟨[(0,1)],[1,5,6,21,22,23]⟩,⟨[],[1,5,6,21,22,23,24]⟩,⟨[],[1,5,6,7,8,21,22,23]⟩,⟨[(0,1),(2,1)],[1,5,7,9,21,22,23]⟩,⟨[],[1,5,7,9,21,22,23,35]⟩,⟨[(0,1),(2,1)],[1,5,9,21,22,23]⟩,⟨[(0,1)],[1,5,9,21,22,23]⟩,⟨[(0,1)],[1,5,6,21,22,23]⟩,⟨[(1,1)],[1,5,6,21,22,23]⟩,⟨[(0,1),(1,1)],[4]⟩],[(0,[1,5,6,21,22,23])],[(0,[5,6]),(1,[1,5,6,21,22,23])],[4],[],[[false]]⟩
def g70_T (m : Nat) : FunT := ⟨70,[.a (.c (.imm (.int .u32))),.a (.c (.imm (.int .u32)))],.a (.c (.imm (.int .u32))),[.a (.c .dead),.a (.c .dead)],fun (x : List Int × List Int × Unit) => g70 m x.1 x.2.1⟩
noncomputable def g70_C : Code := codeOf Tryd.f70
noncomputable def g70_B0 : Code := Q9 g70_C 0 0
theorem g70_K (m : Nat) : ∀ u ∈ [g51_T m],FunOK Tryd.prog u := AllF.mem ⟨g51_ok m,trivial⟩
def g70_L0_X (m : Nat) : LT := ⟨0,[(1,.a (.c (.imm (.int .u32)))),(5,.a (.c (.nm 0 (.int .u32)))),(6,.a (.c (.int .u64))),(21,.a (.c (.imm (.int .u32)))),(22,.a (.c (.int .i64))),(23,.a (.c (.int .i64)))],[(.exit 0,[(5,.a (.c (.nm 0 (.int .u32)))),(6,.a (.c (.int .u64)))])],fun n (x : List Int × List Int × Int × List Int × Int × Int × Unit) => g70_L0 m n x.1 x.2.1 x.2.2.1 x.2.2.2.1 x.2.2.2.2.1 x.2.2.2.2.2.1⟩
theorem g70_L0_ok {E : Entry} (hE : EOf Tryd.prog E 58 g70_H.pins) (m : Nat) (n : Nat) : qy Tryd.prog E g70_B0 ((g70_L0_X m).at n) :=
  lok hmix htt hE (g70_K m) (L := []) (g70_L0_X m) (l := []) (by kernel_rfl) (fun _ _ => trivial) (fun n x => by kernel_rfl) (fun _ => by kernel_rfl) n
theorem g70_ok (m : Nat) : FunOK Tryd.prog (g70_T m) :=
  fok hmix htt (H := g70_H) (g70_T m) Tryd.func70 (by kernel_rfl) (g70_K m) (L := [(g70_L0_X m).at m]) (l := [(0,g70_B0)]) (by kernel_rfl) (fun _ hE _ _ => ⟨ql ⟨yb (g70_L0_ok hE m m),trivial⟩,trivial⟩) (fun x => by kernel_rfl)
/-! 58 sparse/integer.Shift -/
def g58_H : Hints := ⟨[⟨[],[1,2,4]⟩,⟨[(2,1)],[1,2,4,14]⟩,⟨[],[4,5]⟩,⟨[],[1,2,4,6]⟩,⟨[],[1,2,4,6,20]⟩,⟨[(2,1),(3,1)],[4,5]⟩,⟨[(0,1),(1,1),(4,1)],[2,4,7,8]⟩,⟨[(2,1),(3,1)],[2,4,7,38]⟩,⟨[(0,1)],[2,4,7]⟩,⟨[(2,1)],[4,5]⟩],[],[],[4,5],[],[[false,false],[false]]⟩
def g58_T (m : Nat) : FunT := ⟨58,[.a (.agg [.bool,(.imm (.int .u32))]),.a (.c (.int .i64))],.tup [(.agg [.bool,(.imm (.int .u32))]),(.c (.int .i64))],[.a (.c .dead),.a (.c .dead)],fun (x : (Bool × List Int × Unit) × Int × Unit) => g58 m x.1.1 x.1.2.1 x.2.1⟩
theorem g58_ok (m : Nat) : FunOK Tryd.prog (g58_T m) :=
  fok hmix htt (H := g58_H) (g58_T m) Tryd.func58 (by kernel_rfl) (AllF.mem (l := [g51_T m,g77_T m,g61_T m,g78_T m,g70_T m]) ⟨g51_ok m,g77_ok m,g61_ok m,g78_ok m,g70_ok m,trivial⟩) (L := []) (l := []) (by kernel_rfl) (fun _ hE _ _ => trivial) (fun x => by kernel_rfl)
/-! 76 sparse/dyad.right -/
def g76_H : Hints := ⟨[⟨[],[1,2,4]⟩,⟨[],[1,2,4,6]⟩,⟨[(2,1)],[1,2,4]⟩,⟨[(0,1)],[1,2,4]⟩,⟨[(1,1),(4,1)],[2,4]⟩,⟨[],[4]⟩],[(0,[1,2,4])],[(0,[1,2,4]),(1,[1,2,4])],[4],[],[[false,false]]⟩
def g76_T (m : Nat) : FunT := ⟨76,[.a (.agg [.bool,(.imm (.int .u32))]),.a (.c (.int .i64))],.a (.agg [.bool,(.imm (.int .u32))]),[.a (.c .dead),.a (.c .dead)],fun (x : (Bool × List Int × Unit) × Int × Unit) => g76 m x.1.1 x.1.2.1 x.2.1⟩
noncomputable def g76_C : Code := codeOf Tryd.f76
noncomputable def g76_B0 : Code := Q9 g76_C 0 0
theorem g76_K (m : Nat) : ∀ u ∈ [g58_T m],FunOK Tryd.prog u := AllF.mem ⟨g58_ok m,trivial⟩
def g76_L0_X (m : Nat) : LT := ⟨0,[(1,.a (.c (.int .i64))),(2,.a (.bx 0 [.bool,(.imm (.int .u32))])),(4,.a (.bx 1 [.bool,(.nm 2 (.int .u32))]))],[(.exit 0,[(1,.a (.c (.int .i64))),(2,.a (.bx 0 [.bool,(.imm (.int .u32))])),(4,.a (.bx 1 [.bool,(.nm 2 (.int .u32))]))])],fun n (x : Int × (Bool × List Int × Unit) × (Bool × List Int × Unit) × Unit) => g76_L0 m n x.1 x.2.1.1 x.2.1.2.1 x.2.2.1.1 x.2.2.1.2.1⟩
theorem g76_L0_ok {E : Entry} (hE : EOf Tryd.prog E 22 g76_H.pins) (m : Nat) (n : Nat) : qy Tryd.prog E g76_B0 ((g76_L0_X m).at n) :=
  lok hmix htt hE (g76_K m) (L := []) (g76_L0_X m) (l := []) (by kernel_rfl) (fun _ _ => trivial) (fun n x => by kernel_rfl) (fun _ => by kernel_rfl) n
theorem g76_ok (m : Nat) : FunOK Tryd.prog (g76_T m) :=
  fok hmix htt (H := g76_H) (g76_T m) Tryd.func76 (by kernel_rfl) (g76_K m) (L := [(g76_L0_X m).at m]) (l := [(0,g76_B0)]) (by kernel_rfl) (fun _ hE _ _ => ⟨ql ⟨yb (g76_L0_ok hE m m),trivial⟩,trivial⟩) (fun x => by kernel_rfl)
/-! 57 sparse/dyad.norm -/
def g57_H : Hints := ⟨[⟨[],[1,2]⟩,⟨[],[1,2,7]⟩,⟨[],[2,3]⟩,⟨[],[1,2,4]⟩,⟨[],[1,2,4,14]⟩,⟨[],[2,3]⟩,⟨[],[1,2,4,5]⟩,⟨[(6,1)],[1,2,4,5,30]⟩,⟨[],[2,3]⟩,⟨[],[2,3]⟩],[],[],[2,3],[],[[false,false,false,false],[false]]⟩
def g57_T (m : Nat) : FunT := ⟨57,[.a (.agg [.bool,.bool,(.imm (.int .u32)),(.int .i64)])],.tup [(.agg [.bool,.bool,(.imm (.int .u32)),(.int .i64)]),(.c .bool)],[.a (.c .dead)],fun (x : (Bool × Bool × List Int × Int × Unit) × Unit) => g57 m x.1.1 x.1.2.1 x.1.2.2.1 x.1.2.2.2.1⟩
theorem g57_ok (m : Nat) : FunOK Tryd.prog (g57_T m) :=
  fok hmix htt (H := g57_H) (g57_T m) Tryd.func57 (by kernel_rfl) (AllF.mem (l := [g59_T m,g45_T m,g40_T m,g74_T m,g75_T m,g76_T m]) ⟨g59_ok m,g45_ok m,g40_ok m,g74_ok m,g75_ok m,g76_ok m,trivial⟩) (L := []) (l := []) (by kernel_rfl) (fun _ hE _ _ => trivial) (fun x => by kernel_rfl)
/-! 60 sparse/dyad.Make -/
def g60_H : Hints := ⟨[⟨[],[1,2,4]⟩,⟨[(1,1),(4,1)],[4,5]⟩,⟨[],[4]⟩],[],[],[4],[],[[false,false,false,false]]⟩
def g60_T (m : Nat) : FunT := ⟨60,[.a (.agg [.bool,(.imm (.int .u32))]),.a (.c (.int .i64))],.a (.agg [.bool,.bool,(.imm (.int .u32)),(.int .i64)]),[.a (.c .dead),.a (.c .dead)],fun (x : (Bool × List Int × Unit) × Int × Unit) => g60 m x.1.1 x.1.2.1 x.2.1⟩
theorem g60_ok (m : Nat) : FunOK Tryd.prog (g60_T m) :=
  fok hmix htt (H := g60_H) (g60_T m) Tryd.func60 (by kernel_rfl) (AllF.mem (l := [g57_T m]) ⟨g57_ok m,trivial⟩) (L := []) (l := []) (by kernel_rfl) (fun _ hE _ _ => trivial) (fun x => by kernel_rfl)
/-! 47 sparse/float.Of -/
def g47_H : Hints := ⟨[⟨[],[0,2]⟩,⟨[(2,1)],[0,2,3,4]⟩,⟨[],[0,2,3,4,11]⟩,⟨[(0,1)],[0,2,3,4]⟩,⟨[(0,1)],[0,2,3,4]⟩,⟨[],[0,2,3,4,11,16]⟩,⟨[],[2]⟩,⟨[],[0,2,3,4,19]⟩,⟨[],[0,2,3,4]⟩,⟨[(0,1)],[0,2,3,5]⟩,⟨[(0,1)],[2,3,5,25]⟩,⟨[],[2,3,5]⟩,⟨[(1,1)],[2]⟩],[],[(0,[0,2,3,4])],[2],[],[[false,false,false,false]]⟩
def g47_T (m : Nat) : FunT := ⟨47,[.a (.c (.int .u64))],.a (.agg [.bool,.bool,(.imm (.int .u32)),(.int .i64)]),[.a (.c .dead)],fun (x : Int × Unit) => g47 m x.1⟩
theorem g47_ok (m : Nat) : FunOK Tryd.prog (g47_T m) :=
  fok hmix htt (H := g47_H) (g47_T m) Tryd.func47 (by kernel_rfl) (AllF.mem (l := [g24_T m,g52_T m,g65_T m,g56_T m,g60_T m]) ⟨g24_ok m,g52_ok m,g65_ok m,g56_ok m,g60_ok m,trivial⟩) (L := []) (l := []) (by kernel_rfl) (fun _ hE _ _ => trivial) (fun x => by kernel_rfl)
/-! 64 sparse/dyad.Neg -/
def g64_H : Hints := ⟨[⟨[],[1,2]⟩,⟨[(2,1)],[1,2,3]⟩,⟨[(0,1)],[1,2,9]⟩,⟨[],[1,2]⟩,⟨[],[2]⟩],[],[],[2],[],[[false,false,false,false]]⟩
def g64_T (m : Nat) : FunT := ⟨64,[.a (.agg [.bool,.bool,(.imm (.int .u32)),(.int .i64)])],.a (.agg [.bool,.bool,(.imm (.int .u32)),(.int .i64)]),[.a (.c .dead)],fun (x : (Bool × Bool × List Int × Int × Unit) × Unit) => g64 m x.1.1 x.1.2.1 x.1.2.2.1 x.1.2.2.2.1⟩
theorem g64_ok (m : Nat) : FunOK Tryd.prog (g64_T m) :=
  fok hmix htt (H := g64_H) (g64_T m) Tryd.func64 (by kernel_rfl) (AllF.mem (l := [g57_T m,g56_T m]) ⟨g57_ok m,g56_ok m,trivial⟩) (L := []) (l := []) (by kernel_rfl) (fun _ hE _ _ => trivial) (fun x => by kernel_rfl)
/-! 79 sparse/dyad.two -/
def g79_H : Hints := ⟨[⟨[],[2,3,4,5]⟩,⟨[(2,1)],[3,4,5,6]⟩,⟨[(2,1)],[4,5,6,7]⟩,⟨[(2,1),(3,1),(4,1)],[4,5,6]⟩],[],[],[4,5,6],[],[[false,false,false,false],[false,false,false,false],[false]]⟩
def g79_T (m : Nat) : FunT := ⟨79,[.a (.agg [.bool,.bool,(.imm (.int .u32)),(.int .i64)]),.a (.agg [.bool,.bool,(.imm (.int .u32)),(.int .i64)])],.tup [(.agg [.bool,.bool,(.imm (.int .u32)),(.int .i64)]),(.agg [.bool,.bool,(.imm (.int .u32)),(.int .i64)]),(.c .bool)],[.a (.c .dead),.a (.c .dead)],fun (x : (Bool × Bool × List Int × Int × Unit) × (Bool × Bool × List Int × Int × Unit) × Unit) => g79 m x.1.1 x.1.2.1 x.1.2.2.1 x.1.2.2.2.1 x.2.1.1 x.2.1.2.1 x.2.1.2.2.1 x.2.1.2.2.2.1⟩
theorem g79_ok (m : Nat) : FunOK Tryd.prog (g79_T m) :=
  fok hmix htt (H := g79_H) (g79_T m) Tryd.func79 (by kernel_rfl) (AllF.mem (l := [g57_T m]) ⟨g57_ok m,trivial⟩) (L := []) (l := []) (by kernel_rfl) (fun _ hE _ _ => trivial) (fun x => by kernel_rfl)
/-! 90 sparse/dyad.left -/
def g90_H : Hints := ⟨[⟨[],[1,2,4]⟩,⟨[(1,1),(3,1)],[2,4]⟩,⟨[],[4]⟩],[],[],[4],[],[[false,false]]⟩
def g90_T (m : Nat) : FunT := ⟨90,[.a (.agg [.bool,(.imm (.int .u32))]),.a (.c (.int .i64))],.a (.agg [.bool,(.imm (.int .u32))]),[.a (.c .dead),.a (.c .dead)],fun (x : (Bool × List Int × Unit) × Int × Unit) => g90 m x.1.1 x.1.2.1 x.2.1⟩
theorem g90_ok (m : Nat) : FunOK Tryd.prog (g90_T m) :=
  fok hmix htt (H := g90_H) (g90_T m) Tryd.func90 (by kernel_rfl) (AllF.mem (l := [g58_T m]) ⟨g58_ok m,trivial⟩) (L := []) (l := []) (by kernel_rfl) (fun _ hE _ _ => trivial) (fun x => by kernel_rfl)
/-! 80 sparse/dyad.aligned -/
def g80_H : Hints := ⟨[⟨[],[2,3,4,5]⟩,⟨[],[2,3,4,5,6]⟩,⟨[],[4,5,6]⟩],[],[],[4,5,6],[],[[false,false],[false,false],[false]]⟩
def g80_T (m : Nat) : FunT := ⟨80,[.a (.agg [.bool,.bool,(.imm (.int .u32)),(.int .i64)]),.a (.agg [.bool,.bool,(.imm (.int .u32)),(.int .i64)])],.tup [(.agg [.bool,(.imm (.int .u32))]),(.agg [.bool,(.imm (.int .u32))]),(.c (.int .i64))],[.a (.c .dead),.a (.c .dead)],fun (x : (Bool × Bool × List Int × Int × Unit) × (Bool × Bool × List Int × Int × Unit) × Unit) => g80 m x.1.1 x.1.2.1 x.1.2.2.1 x.1.2.2.2.1 x.2.1.1 x.2.1.2.1 x.2.1.2.2.1 x.2.1.2.2.2.1⟩
theorem g80_ok (m : Nat) : FunOK Tryd.prog (g80_T m) :=
  fok hmix htt (H := g80_H) (g80_T m) Tryd.func80 (by kernel_rfl) (AllF.mem (l := [g90_T m]) ⟨g90_ok m,trivial⟩) (L := []) (l := []) (by kernel_rfl) (fun _ hE _ _ => trivial) (fun x => by kernel_rfl)
/-! 82 cmp.isNaN_int_ -/
def g82_H : Hints := ⟨[⟨[],[0]⟩,⟨[],[2]⟩],[],[],[2],[],[[false]]⟩
def g82_T (m : Nat) : FunT := ⟨82,[.a (.c (.int .i64))],.a (.c .bool),[.a (.c .dead)],fun (x : Int × Unit) => g82 m x.1⟩
theorem g82_ok (m : Nat) : FunOK Tryd.prog (g82_T m) :=
  fok hmix htt (H := g82_H) (g82_T m) Tryd.func82 (by kernel_rfl) noF (L := []) (l := []) (by kernel_rfl) (fun _ hE _ _ => trivial) (fun x => by kernel_rfl)
/-! 68 cmp.Compare_int_ -/
def g68_H : Hints := ⟨[⟨[],[0,1]⟩,⟨[],[0,1,5]⟩,⟨[],[0,1,5,6]⟩,⟨[(0,1)],[0,1,6,11]⟩,⟨[(0,1)],[12]⟩,⟨[],[4]⟩,⟨[],[4]⟩,⟨[(0,1)],[0,1,13]⟩,⟨[],[4]⟩,⟨[],[0,1,16]⟩,⟨[],[4]⟩,⟨[(0,1),(1,1)],[19]⟩,⟨[],[4]⟩,⟨[],[4]⟩],[],[],[4],[],[[false]]⟩
def g68_T (m : Nat) : FunT := ⟨68,[.a (.c (.int .i64)),.a (.c (.int .i64))],.a (.c (.int .i64)),[.a (.c .dead),.a (.c .dead)],fun (x : Int × Int × Unit) => g68 m x.1 x.2.1⟩
theorem g68_ok (m : Nat) : FunOK Tryd.prog (g68_T m) :=
  fok hmix htt (H := g68_H) (g68_T m) Tryd.func68 (by kernel_rfl) (AllF.mem (l := [g82_T m]) ⟨g82_ok m,trivial⟩) (L := []) (l := []) (by kernel_rfl) (fun _ hE _ _ => trivial) (fun x => by kernel_rfl)
/-! 83 cmp.isNaN_uint32_ -/
def g83_H : Hints := ⟨[⟨[],[0]⟩,⟨[],[2]⟩],[],[],[2],[],[[false]]⟩
def g83_T (m : Nat) : FunT := ⟨83,[.a (.c (.int .u32))],.a (.c .bool),[.a (.c .dead)],fun (x : Int × Unit) => g83 m x.1⟩
theorem g83_ok (m : Nat) : FunOK Tryd.prog (g83_T m) :=
  fok hmix htt (H := g83_H) (g83_T m) Tryd.func83 (by kernel_rfl) noF (L := []) (l := []) (by kernel_rfl) (fun _ hE _ _ => trivial) (fun x => by kernel_rfl)
/-! 69 cmp.Compare_uint32_ -/
def g69_H : Hints := ⟨[⟨[],[0,1]⟩,⟨[],[0,1,5]⟩,⟨[],[0,1,5,6]⟩,⟨[(0,1)],[0,1,6,11]⟩,⟨[(0,1)],[12]⟩,⟨[],[4]⟩,⟨[],[4]⟩,⟨[(0,1)],[0,1,13]⟩,⟨[],[4]⟩,⟨[],[0,1,16]⟩,⟨[],[4]⟩,⟨[(0,1),(1,1)],[19]⟩,⟨[],[4]⟩,⟨[],[4]⟩],[],[],[4],[],[[false]]⟩
def g69_T (m : Nat) : FunT := ⟨69,[.a (.c (.int .u32)),.a (.c (.int .u32))],.a (.c (.int .i64)),[.a (.c .dead),.a (.c .dead)],fun (x : Int × Int × Unit) => g69 m x.1 x.2.1⟩
theorem g69_ok (m : Nat) : FunOK Tryd.prog (g69_T m) :=
  fok hmix htt (H := g69_H) (g69_T m) Tryd.func69 (by kernel_rfl) (AllF.mem (l := [g83_T m]) ⟨g83_ok m,trivial⟩) (L := []) (l := []) (by kernel_rfl) (fun _ hE _ _ => trivial) (fun x => by kernel_rfl)
/-! 50 sparse/integer.compare -/
def g50_H : Hints := ⟨[⟨[],[0,1]⟩,⟨[],[0,1,10]⟩,⟨[(0,1),(2,1)],[4]⟩,⟨[],[0,1,5]⟩,⟨[],[0,1,5,20]⟩,⟨[(0,1)],[0,1,5]⟩,⟨[],[0,1,5,31]⟩,⟨[(0,1),(4,1)],[4]⟩,⟨[],[4]⟩],[(0,[0,1,5])],[(0,[]),(1,[0,1,5])],[4],[],[[false]]⟩
def g50_T (m : Nat) : FunT := ⟨50,[.a (.c (.imm (.int .u32))),.a (.c (.imm (.int .u32)))],.a (.c (.int .i64)),[.a (.c .dead),.a (.c .dead)],fun (x : List Int × List Int × Unit) => g50 m x.1 x.2.1⟩
noncomputable def g50_C : Code := codeOf Tryd.f50
noncomputable def g50_B0 : Code := Q9 g50_C 0 0
theorem g50_K (m : Nat) : ∀ u ∈ [g68_T m,g69_T m],FunOK Tryd.prog u := AllF.mem ⟨g68_ok m,g69_ok m,trivial⟩
def g50_L0_X (m : Nat) : LT := ⟨0,[(0,.a (.c (.imm (.int .u32)))),(1,.a (.c (.imm (.int .u32)))),(5,.a (.c (.int .i64)))],[(.ret,[(4,.a (.c (.int .i64)))]),(.exit 0,[])],fun n (x : List Int × List Int × Int × Unit) => g50_L0 m n x.1 x.2.1 x.2.2.1⟩
theorem g50_L0_ok {E : Entry} (hE : EOf Tryd.prog E 41 g50_H.pins) (m : Nat) (n : Nat) : qy Tryd.prog E g50_B0 ((g50_L0_X m).at n) :=
  lok hmix htt hE (g50_K m) (L := []) (g50_L0_X m) (l := []) (by kernel_rfl) (fun _ _ => trivial) (fun n x => by kernel_rfl) (fun _ => by kernel_rfl) n
theorem g50_ok (m : Nat) : FunOK Tryd.prog (g50_T m) :=
  fok hmix htt (H := g50_H) (g50_T m) Tryd.func50 (by kernel_rfl) (g50_K m) (L := [(g50_L0_X m).at m]) (l := [(0,g50_B0)]) (by kernel_rfl) (fun _ hE _ _ => ⟨ql ⟨yb (g50_L0_ok hE m m),trivial⟩,trivial⟩) (fun x => by kernel_rfl)
/-! 71 sparse/integer.minus -/
def g71_H : Hints := ⟨[⟨[],[0,1]⟩,⟨[],[0,1,5]⟩,⟨[],[0,1,5,6]⟩,⟨[(0,1)],[1,5,6,13,14,15]⟩,⟨[],[1,5,6,13,14,15,16]⟩,⟨[],[1,5,6,7,8,13,14,15]⟩,⟨[(0,1),(2,1)],[1,5,7,9,13,14,15]⟩,⟨[],[1,5,7,9,13,14,15,27]⟩,⟨[(0,1)],[1,5,7,9,13,14,15]⟩,⟨[(1,1)],[1,5,9,13,14,15]⟩,⟨[(0,1)],[1,5,6,13,14,15]⟩,⟨[(1,1)],[1,5,6,13,14,15]⟩,⟨[(0,1)],[4]⟩],[(0,[1,5,6,13,14,15])],[(0,[5]),(1,[1,5,6,13,14,15])],[4],[],[[false]]⟩
def g71_T (m : Nat) : FunT := ⟨71,[.a (.c (.imm (.int .u32))),.a (.c (.imm (.int .u32)))],.a (.c (.imm (.int .u32))),[.a (.c .dead),.a (.c .dead)],fun (x : List Int × List Int × Unit) => g71 m x.1 x.2.1⟩
noncomputable def g71_C : Code := codeOf Tryd.f71
noncomputable def g71_B0 : Code := Q9 g71_C 0 0
theorem g71_K (m : Nat) : ∀ u ∈ [g51_T m],FunOK Tryd.prog u := AllF.mem ⟨g51_ok m,trivial⟩
def g71_L0_X (m : Nat) : LT := ⟨0,[(1,.a (.c (.imm (.int .u32)))),(5,.a (.c (.nm 0 (.int .u32)))),(6,.a (.c (.int .u64))),(13,.a (.c (.imm (.int .u32)))),(14,.a (.c (.int .i64))),(15,.a (.c (.int .i64)))],[(.exit 0,[(5,.a (.c (.nm 0 (.int .u32))))])],fun n (x : List Int × List Int × Int × List Int × Int × Int × Unit) => g71_L0 m n x.1 x.2.1 x.2.2.1 x.2.2.2.1 x.2.2.2.2.1 x.2.2.2.2.2.1⟩
theorem g71_L0_ok {E : Entry} (hE : EOf Tryd.prog E 47 g71_H.pins) (m : Nat) (n : Nat) : qy Tryd.prog E g71_B0 ((g71_L0_X m).at n) :=
  lok hmix htt hE (g71_K m) (L := []) (g71_L0_X m) (l := []) (by kernel_rfl) (fun _ _ => trivial) (fun n x => by kernel_rfl) (fun _ => by kernel_rfl) n
theorem g71_ok (m : Nat) : FunOK Tryd.prog (g71_T m) :=
  fok hmix htt (H := g71_H) (g71_T m) Tryd.func71 (by kernel_rfl) (g71_K m) (L := [(g71_L0_X m).at m]) (l := [(0,g71_B0)]) (by kernel_rfl) (fun _ hE _ _ => ⟨ql ⟨yb (g71_L0_ok hE m m),trivial⟩,trivial⟩) (fun x => by kernel_rfl)
/-! 53 sparse/integer.Add -/
def g53_H : Hints := ⟨[⟨[],[2,3,4]⟩,⟨[],[2,3,4,5,6]⟩,⟨[],[2,3,4,5,6,13]⟩,⟨[(2,1),(3,1)],[4]⟩,⟨[],[2,3,4,5,6,25]⟩,⟨[(2,1),(3,1)],[4]⟩,⟨[(2,1),(3,1)],[4]⟩],[],[(0,[3,4,5,6])],[4],[],[[false,false]]⟩
def g53_T (m : Nat) : FunT := ⟨53,[.a (.agg [.bool,(.imm (.int .u32))]),.a (.agg [.bool,(.imm (.int .u32))])],.a (.agg [.bool,(.imm (.int .u32))]),[.a (.c .dead),.a (.c .dead)],fun (x : (Bool × List Int × Unit) × (Bool × List Int × Unit) × Unit) => g53 m x.1.1 x.1.2.1 x.2.1.1 x.2.1.2.1⟩
theorem g53_ok (m : Nat) : FunOK Tryd.prog (g53_T m) :=
  fok hmix htt (H := g53_H) (g53_T m) Tryd.func53 (by kernel_rfl) (AllF.mem (l := [g51_T m,g70_T m,g61_T m,g50_T m,g71_T m]) ⟨g51_ok m,g70_ok m,g61_ok m,g50_ok m,g71_ok m,trivial⟩) (L := []) (l := []) (by kernel_rfl) (fun _ hE _ _ => trivial) (fun x => by kernel_rfl)
/-! 63 sparse/dyad.Add -/
def g63_H : Hints := ⟨[⟨[],[2,3,4]⟩,⟨[(3,1)],[2,3,4,5]⟩,⟨[(0,1)],[2,3,4,17]⟩,⟨[],[4]⟩,⟨[(3,1)],[4,6,7,8]⟩,⟨[(3,1)],[4]⟩],[],[],[4],[],[[false,false,false,false]]⟩
def g63_T (m : Nat) : FunT := ⟨63,[.a (.agg [.bool,.bool,(.imm (.int .u32)),(.int .i64)]),.a (.agg [.bool,.bool,(.imm (.int .u32)),(.int .i64)])],.a (.agg [.bool,.bool,(.imm (.int .u32)),(.int .i64)]),[.a (.c .dead),.a (.c .dead)],fun (x : (Bool × Bool × List Int × Int × Unit) × (Bool × Bool × List Int × Int × Unit) × Unit) => g63 m x.1.1 x.1.2.1 x.1.2.2.1 x.1.2.2.2.1 x.2.1.1 x.2.1.2.1 x.2.1.2.2.1 x.2.1.2.2.2.1⟩
theorem g63_ok (m : Nat) : FunOK Tryd.prog (g63_T m) :=
  fok hmix htt (H := g63_H) (g63_T m) Tryd.func63 (by kernel_rfl) (AllF.mem (l := [g79_T m,g59_T m,g80_T m,g53_T m,g60_T m]) ⟨g79_ok m,g59_ok m,g80_ok m,g53_ok m,g60_ok m,trivial⟩) (L := []) (l := []) (by kernel_rfl) (fun _ hE _ _ => trivial) (fun x => by kernel_rfl)
/-! 46 sparse/dyad.Sub -/
def g46_H : Hints := ⟨[⟨[],[2,3,4]⟩,⟨[],[4]⟩],[],[],[4],[],[[false,false,false,false]]⟩
def g46_T (m : Nat) : FunT := ⟨46,[.a (.agg [.bool,.bool,(.imm (.int .u32)),(.int .i64)]),.a (.agg [.bool,.bool,(.imm (.int .u32)),(.int .i64)])],.a (.agg [.bool,.bool,(.imm (.int .u32)),(.int .i64)]),[.a (.c .dead),.a (.c .dead)],fun (x : (Bool × Bool × List Int × Int × Unit) × (Bool × Bool × List Int × Int × Unit) × Unit) => g46 m x.1.1 x.1.2.1 x.1.2.2.1 x.1.2.2.2.1 x.2.1.1 x.2.1.2.1 x.2.1.2.2.1 x.2.1.2.2.2.1⟩
theorem g46_ok (m : Nat) : FunOK Tryd.prog (g46_T m) :=
  fok hmix htt (H := g46_H) (g46_T m) Tryd.func46 (by kernel_rfl) (AllF.mem (l := [g64_T m,g63_T m]) ⟨g64_ok m,g63_ok m,trivial⟩) (L := []) (l := []) (by kernel_rfl) (fun _ hE _ _ => trivial) (fun x => by kernel_rfl)
/-! 34 sparse/tridiag.shifted -/
def g34_H : Hints := ⟨[⟨[],[0,1,2]⟩,⟨[(2,4)],[0,1,2,7]⟩,⟨[],[0,1,2,7,15,16]⟩,⟨[],[0,1,2,7,15,16,17]⟩,⟨[],[0,1,2,7,8,15,16]⟩,⟨[(6,4)],[0,1,2,7,8,15,16]⟩,⟨[],[0,1,2,7,15,16]⟩,⟨[(1,1)],[0,1,2,7,15,16]⟩,⟨[(0,1)],[7,40,41,42]⟩,⟨[],[7,40,41,42,43]⟩,⟨[],[7,9,10,40,41,42]⟩,⟨[],[7,40,41,42]⟩,⟨[(1,1)],[7,40,41,42]⟩,⟨[(0,1)],[6]⟩],[(0,[0,1,2,7,15,16]),(2,[7,40,41,42])],[(0,[1,7]),(1,[0,1,2,7,15,16]),(2,[7]),(3,[7,40,41,42])],[6],[],[[false]]⟩
def g34_T (m : Nat) : FunT := ⟨34,[.a (.c (.imm (.int .u64))),.a (.c (.imm (.int .u64))),.a (.c (.int .u64))],.a (.c (.imm (.sl false (.pr .bool (.pr (.pr .bool (.sl false (.int .u32))) (.int .i64)))))),[.a (.c .dead),.a (.c .dead),.a (.c .dead)],fun (x : List Int × List Int × Int × Unit) => g34 m x.1 x.2.1 x.2.2.1⟩
noncomputable def g34_C : Code := codeOf Tryd.f34
noncomputable def g34_B0 : Code := Q9 g34_C 0 0
noncomputable def g34_B2 : Code := Q9 g34_C 0 1
theorem g34_K (m : Nat) : ∀ u ∈ [g47_T m,g46_T m],FunOK Tryd.prog u := AllF.mem ⟨g47_ok m,g46_ok m,trivial⟩
def g34_L1_X (m : Nat) : LT := ⟨2,[(7,.a (.c (.dp 0 (.pr .bool (.pr (.pr .bool (.sl false (.int .u32))) (.int .i64)))))),(40,.a (.c (.imm (.int .u64)))),(41,.a (.c (.int .i64))),(42,.a (.c (.int .i64)))],[(.exit 2,[(7,.a (.c (.dp 0 (.pr .bool (.pr (.pr .bool (.sl false (.int .u32))) (.int .i64))))))])],fun n (x : (List (List (Bool × (Bool × List Int) × Int))) × List Int × Int × Int × Unit) => g34_L1 m n x.1 x.2.1 x.2.2.1 x.2.2.2.1⟩
theorem g34_L1_ok {E : Entry} (hE : EOf Tryd.prog E 67 g34_H.pins) (m : Nat) (n : Nat) : qy Tryd.prog E g34_B2 ((g34_L1_X m).at n) :=
  lok hmix htt hE (g34_K m) (L := []) (g34_L1_X m) (l := []) (by kernel_rfl) (fun _ _ => trivial) (fun n x => by kernel_rfl) (fun _ => by kernel_rfl) n
def g34_L0_X (m : Nat) : LT := ⟨0,[(0,.a (.c (.imm (.int .u64)))),(1,.a (.c (.imm (.int .u64)))),(2,.a (.c (.int .u64))),(7,.a (.c (.dp 0 (.pr .bool (.pr (.pr .bool (.sl false (.int .u32))) (.int .i64)))))),(15,.a (.c (.int .i64))),(16,.a (.c (.int .i64)))],[(.exit 0,[(1,.a (.c (.imm (.int .u64)))),(7,.a (.c (.dp 0 (.pr .bool (.pr (.pr .bool (.sl false (.int .u32))) (.int .i64))))))])],fun n (x : List Int × List Int × Int × (List (List (Bool × (Bool × List Int) × Int))) × Int × Int × Unit) => g34_L0 m n x.1 x.2.1 x.2.2.1 x.2.2.2.1 x.2.2.2.2.1 x.2.2.2.2.2.1⟩
theorem g34_L0_ok {E : Entry} (hE : EOf Tryd.prog E 67 g34_H.pins) (m : Nat) (n : Nat) : qy Tryd.prog E g34_B0 ((g34_L0_X m).at n) :=
  lok hmix htt hE (g34_K m) (L := []) (g34_L0_X m) (l := []) (by kernel_rfl) (fun _ _ => trivial) (fun n x => by kernel_rfl) (fun _ => by kernel_rfl) n
theorem g34_ok (m : Nat) : FunOK Tryd.prog (g34_T m) :=
  fok hmix htt (H := g34_H) (g34_T m) Tryd.func34 (by kernel_rfl) (g34_K m) (L := [(g34_L0_X m).at m,(g34_L1_X m).at m]) (l := [(0,g34_B0),(2,g34_B2)]) (by kernel_rfl) (fun _ hE _ _ => ⟨ql ⟨yb (g34_L0_ok hE m m),nb rfl,trivial⟩,ql ⟨nb rfl,yb (g34_L1_ok hE m m),trivial⟩,trivial⟩) (fun x => by kernel_rfl)
/-! 41 sparse/dyad.Norm -/
def g41_H : Hints := ⟨[⟨[],[1,2]⟩,⟨[(2,1)],[1,2]⟩,⟨[],[2]⟩],[],[],[2],[],[[false,false,false,false]]⟩
def g41_T (m : Nat) : FunT := ⟨41,[.a (.agg [.bool,.bool,(.imm (.int .u32)),(.int .i64)])],.a (.agg [.bool,.bool,(.imm (.int .u32)),(.int .i64)]),[.a (.c .dead)],fun (x : (Bool × Bool × List Int × Int × Unit) × Unit) => g41 m x.1.1 x.1.2.1 x.1.2.2.1 x.1.2.2.2.1⟩
theorem g41_ok (m : Nat) : FunOK Tryd.prog (g41_T m) :=
  fok hmix htt (H := g41_H) (g41_T m) Tryd.func41 (by kernel_rfl) (AllF.mem (l := [g57_T m]) ⟨g57_ok m,trivial⟩) (L := []) (l := []) (by kernel_rfl) (fun _ hE _ _ => trivial) (fun x => by kernel_rfl)
/-! 42 sparse/dyad.Sign -/
def g42_H : Hints := ⟨[⟨[],[1]⟩,⟨[(2,1)],[1]⟩,⟨[],[2]⟩],[],[],[2],[],[[false]]⟩
def g42_T (m : Nat) : FunT := ⟨42,[.a (.agg [.bool,.bool,(.imm (.int .u32)),(.int .i64)])],.a (.c (.int .i64)),[.a (.c .dead)],fun (x : (Bool × Bool × List Int × Int × Unit) × Unit) => g42 m x.1.1 x.1.2.1 x.1.2.2.1 x.1.2.2.2.1⟩
theorem g42_ok (m : Nat) : FunOK Tryd.prog (g42_T m) :=
  fok hmix htt (H := g42_H) (g42_T m) Tryd.func42 (by kernel_rfl) (AllF.mem (l := [g57_T m,g40_T m]) ⟨g57_ok m,g40_ok m,trivial⟩) (L := []) (l := []) (by kernel_rfl) (fun _ hE _ _ => trivial) (fun x => by kernel_rfl)
/-! 44 sparse/dyad.Scale -/
def g44_H : Hints := ⟨[⟨[],[1,2,4]⟩,⟨[(2,1)],[1,2,4,5]⟩,⟨[(0,1)],[1,2,4,12]⟩,⟨[],[4]⟩,⟨[(4,1)],[4]⟩],[],[],[4],[],[[false,false,false,false]]⟩
def g44_T (m : Nat) : FunT := ⟨44,[.a (.agg [.bool,.bool,(.imm (.int .u32)),(.int .i64)]),.a (.c (.int .i64))],.a (.agg [.bool,.bool,(.imm (.int .u32)),(.int .i64)]),[.a (.c .dead),.a (.c .dead)],fun (x : (Bool × Bool × List Int × Int × Unit) × Int × Unit) => g44 m x.1.1 x.1.2.1 x.1.2.2.1 x.1.2.2.2.1 x.2.1⟩
theorem g44_ok (m : Nat) : FunOK Tryd.prog (g44_T m) :=
  fok hmix htt (H := g44_H) (g44_T m) Tryd.func44 (by kernel_rfl) (AllF.mem (l := [g57_T m,g59_T m,g60_T m]) ⟨g57_ok m,g59_ok m,g60_ok m,trivial⟩) (L := []) (l := []) (by kernel_rfl) (fun _ hE _ _ => trivial) (fun x => by kernel_rfl)
/-! 43 sparse/dyad.Floor -/
def g43_H : Hints := ⟨[⟨[],[1,2]⟩,⟨[(2,1)],[1,2,4]⟩,⟨[(0,1)],[1,2,13]⟩,⟨[],[2,3]⟩,⟨[(5,1)],[2,5]⟩,⟨[],[2,3]⟩],[],[],[2,3],[],[[false,false],[false]]⟩
def g43_T (m : Nat) : FunT := ⟨43,[.a (.agg [.bool,.bool,(.imm (.int .u32)),(.int .i64)])],.tup [(.agg [.bool,(.imm (.int .u32))]),(.c .bool)],[.a (.c .dead)],fun (x : (Bool × Bool × List Int × Int × Unit) × Unit) => g43 m x.1.1 x.1.2.1 x.1.2.2.1 x.1.2.2.2.1⟩
theorem g43_ok (m : Nat) : FunOK Tryd.prog (g43_T m) :=
  fok hmix htt (H := g43_H) (g43_T m) Tryd.func43 (by kernel_rfl) (AllF.mem (l := [g57_T m,g58_T m]) ⟨g57_ok m,g58_ok m,trivial⟩) (L := []) (l := []) (by kernel_rfl) (fun _ hE _ _ => trivial) (fun x => by kernel_rfl)
/-! 33 sparse/integral.Rows -/
def g33_H : Hints := ⟨[⟨[],[0]⟩,⟨[],[0,3]⟩,⟨[],[0,3,15,16,17]⟩,⟨[],[0,3,15,16,17,18]⟩,⟨[],[0,3,5,15,16,17]⟩,⟨[(0,1)],[0,3,15,16,17,21,22,23]⟩,⟨[],[0,3,15,16,17,21,22,23,24]⟩,⟨[],[0,3,7,15,16,17,21,22,23]⟩,⟨[],[0,3,7,15,16,17,21,22,23]⟩,⟨[],[0,3,7,15,16,17,21,22,23,31]⟩,⟨[(0,1)],[0,3,15,16,17,21,22,23]⟩,⟨[(1,1)],[0,3,15,16,17,21,22,23]⟩,⟨[(1,1)],[0,3,15,16,17]⟩,⟨[(2,4)],[0,3,8]⟩,⟨[(0,1)],[3,8,41,42,43]⟩,⟨[],[3,8,41,42,43,44]⟩,⟨[],[3,8,9,10,41,42,43]⟩,⟨[(0,1)],[3,8,9,41,42,43,48,49,50]⟩,⟨[],[3,8,9,41,42,43,48,49,50,51]⟩,⟨[],[3,8,9,12,41,42,43,48,49,50]⟩,⟨[(5,1)],[3,8,9,13,41,42,43,48,49,50]⟩,⟨[(5,4),(11,4)],[3,8,9,41,42,43,48,49,50]⟩,⟨[(1,1)],[3,8,9,41,42,43,48,49,50]⟩,⟨[(1,1)],[3,8,41,42,43]⟩,⟨[(0,1)],[2]⟩],[(0,[0,3,15,16,17]),(2,[0,3,15,16,17,21,22,23]),(4,[3,8,41,42,43]),(6,[3,8,9,41,42,43,48,49,50])],[(0,[0,3]),(1,[0,3,15,16,17]),(2,[0,3,15,16,17]),(3,[0,3,15,16,17,21,22,23]),(4,[8]),(5,[3,8,41,42,43]),(6,[3,8,41,42,43]),(7,[3,8,9,41,42,43,48,49,50])],[2],[],[[false]]⟩
def g33_T (m : Nat) : FunT := ⟨33,[.a (.c (.imm (.sl false (.pr .bool (.pr (.pr .bool (.sl false (.int .u32))) (.int .i64))))))],.a (.c (.imm (.sl false (.pr .bool (.sl false (.int .u32)))))),[.a (.c .dead)],fun (x : (List (List (Bool × (Bool × List Int) × Int))) × Unit) => g33 m x.1⟩
noncomputable def g33_C : Code := codeOf Tryd.f33
noncomputable def g33_B0 : Code := Q9 g33_C 0 0
noncomputable def g33_B2 : Code := Q9 g33_B0 0 0
noncomputable def g33_B4 : Code := Q9 g33_C 0 1
noncomputable def g33_B6 : Code := Q9 g33_B4 4 0
theorem g33_K (m : Nat) : ∀ u ∈ [g41_T m,g42_T m,g44_T m,g43_T m,g45_T m],FunOK Tryd.prog u := AllF.mem ⟨g41_ok m,g42_ok m,g44_ok m,g43_ok m,g45_ok m,trivial⟩
def g33_L3_X (m : Nat) : LT := ⟨6,[(3,.a (.c (.int .i64))),(8,.a (.c (.dp 0 (.pr .bool (.sl false (.int .u32)))))),(9,.a (.c (.int .i64))),(41,.a (.c (.imm (.sl false (.pr .bool (.pr (.pr .bool (.sl false (.int .u32))) (.int .i64))))))),(42,.a (.c (.int .i64))),(43,.a (.c (.int .i64))),(48,.a (.c (.imm (.pr .bool (.pr (.pr .bool (.sl false (.int .u32))) (.int .i64)))))),(49,.a (.c (.int .i64))),(50,.a (.c (.int .i64)))],[(.exit 6,[(3,.a (.c (.int .i64))),(8,.a (.c (.dp 0 (.pr .bool (.sl false (.int .u32)))))),(41,.a (.c (.imm (.sl false (.pr .bool (.pr (.pr .bool (.sl false (.int .u32))) (.int .i64))))))),(42,.a (.c (.int .i64))),(43,.a (.c (.int .i64)))])],fun n (x : Int × (List (List (Bool × List Int))) × Int × (List (List (Bool × (Bool × List Int) × Int))) × Int × Int × (List (Bool × (Bool × List Int) × Int)) × Int × Int × Unit) => g33_L3 m n x.1 x.2.1 x.2.2.1 x.2.2.2.1 x.2.2.2.2.1 x.2.2.2.2.2.1 x.2.2.2.2.2.2.1 x.2.2.2.2.2.2.2.1 x.2.2.2.2.2.2.2.2.1⟩
theorem g33_L3_ok {E : Entry} (hE : EOf Tryd.prog E 76 g33_H.pins) (m : Nat) (n : Nat) : qy Tryd.prog E g33_B6 ((g33_L3_X m).at n) :=
  lok hmix htt hE (g33_K m) (L := []) (g33_L3_X m) (l := []) (by kernel_rfl) (fun _ _ => trivial) (fun n x => by kernel_rfl) (fun _ => by kernel_rfl) n
def g33_L2_X (m : Nat) : LT := ⟨4,[(3,.a (.c (.int .i64))),(8,.a (.c (.dp 0 (.pr .bool (.sl false (.int .u32)))))),(41,.a (.c (.imm (.sl false (.pr .bool (.pr (.pr .bool (.sl false (.int .u32))) (.int .i64))))))),(42,.a (.c (.int .i64))),(43,.a (.c (.int .i64)))],[(.exit 4,[(8,.a (.c (.dp 0 (.pr .bool (.sl false (.int .u32))))))])],fun n (x : Int × (List (List (Bool × List Int))) × (List (List (Bool × (Bool × List Int) × Int))) × Int × Int × Unit) => g33_L2 m n x.1 x.2.1 x.2.2.1 x.2.2.2.1 x.2.2.2.2.1⟩
theorem g33_L2_ok {E : Entry} (hE : EOf Tryd.prog E 76 g33_H.pins) (m : Nat) (n : Nat) : qy Tryd.prog E g33_B4 ((g33_L2_X m).at n) :=
  lok hmix htt hE (g33_K m) (L := [(g33_L3_X m).at m]) (g33_L2_X m) (l := [(6,g33_B6)]) (by kernel_rfl) (fun _ _ => ⟨ql ⟨yb (g33_L3_ok hE m m),trivial⟩,trivial⟩) (fun n x => by kernel_rfl) (fun _ => by kernel_rfl) n
def g33_L1_X (m : Nat) : LT := ⟨2,[(0,.a (.c (.imm (.sl false (.pr .bool (.pr (.pr .bool (.sl false (.int .u32))) (.int .i64))))))),(3,.a (.c (.int .i64))),(15,.a (.c (.imm (.sl false (.pr .bool (.pr (.pr .bool (.sl false (.int .u32))) (.int .i64))))))),(16,.a (.c (.int .i64))),(17,.a (.c (.int .i64))),(21,.a (.c (.imm (.pr .bool (.pr (.pr .bool (.sl false (.int .u32))) (.int .i64)))))),(22,.a (.c (.int .i64))),(23,.a (.c (.int .i64)))],[(.exit 2,[(0,.a (.c (.imm (.sl false (.pr .bool (.pr (.pr .bool (.sl false (.int .u32))) (.int .i64))))))),(3,.a (.c (.int .i64))),(15,.a (.c (.imm (.sl false (.pr .bool (.pr (.pr .bool (.sl false (.int .u32))) (.int .i64))))))),(16,.a (.c (.int .i64))),(17,.a (.c (.int .i64)))])],fun n (x : (List (List (Bool × (Bool × List Int) × Int))) × Int × (List (List (Bool × (Bool × List Int) × Int))) × Int × Int × (List (Bool × (Bool × List Int) × Int)) × Int × Int × Unit) => g33_L1 m n x.1 x.2.1 x.2.2.1 x.2.2.2.1 x.2.2.2.2.1 x.2.2.2.2.2.1 x.2.2.2.2.2.2.1 x.2.2.2.2.2.2.2.1⟩
theorem g33_L1_ok {E : Entry} (hE : EOf Tryd.prog E 76 g33_H.pins) (m : Nat) (n : Nat) : qy Tryd.prog E g33_B2 ((g33_L1_X m).at n) :=
  lok hmix htt hE (g33_K m) (L := []) (g33_L1_X m) (l := []) (by kernel_rfl) (fun _ _ => trivial) (fun n x => by kernel_rfl) (fun _ => by kernel_rfl) n
def g33_L0_X (m : Nat) : LT := ⟨0,[(0,.a (.c (.imm (.sl false (.pr .bool (.pr (.pr .bool (.sl false (.int .u32))) (.int .i64))))))),(3,.a (.c (.int .i64))),(15,.a (.c (.imm (.sl false (.pr .bool (.pr (.pr .bool (.sl false (.int .u32))) (.int .i64))))))),(16,.a (.c (.int .i64))),(17,.a (.c (.int .i64)))],[(.exit 0,[(0,.a (.c (.imm (.sl false (.pr .bool (.pr (.pr .bool (.sl false (.int .u32))) (.int .i64))))))),(3,.a (.c (.int .i64)))])],fun n (x : (List (List (Bool × (Bool × List Int) × Int))) × Int × (List (List (Bool × (Bool × List Int) × Int))) × Int × Int × Unit) => g33_L0 m n x.1 x.2.1 x.2.2.1 x.2.2.2.1 x.2.2.2.2.1⟩
theorem g33_L0_ok {E : Entry} (hE : EOf Tryd.prog E 76 g33_H.pins) (m : Nat) (n : Nat) : qy Tryd.prog E g33_B0 ((g33_L0_X m).at n) :=
  lok hmix htt hE (g33_K m) (L := [(g33_L1_X m).at m]) (g33_L0_X m) (l := [(2,g33_B2)]) (by kernel_rfl) (fun _ _ => ⟨ql ⟨yb (g33_L1_ok hE m m),trivial⟩,trivial⟩) (fun n x => by kernel_rfl) (fun _ => by kernel_rfl) n
theorem g33_ok (m : Nat) : FunOK Tryd.prog (g33_T m) :=
  fok hmix htt (H := g33_H) (g33_T m) Tryd.func33 (by kernel_rfl) (g33_K m) (L := [(g33_L0_X m).at m,(g33_L2_X m).at m]) (l := [(0,g33_B0),(4,g33_B4)]) (by kernel_rfl) (fun _ hE _ _ => ⟨ql ⟨yb (g33_L0_ok hE m m),nb rfl,trivial⟩,ql ⟨nb rfl,yb (g33_L2_ok hE m m),trivial⟩,trivial⟩) (fun x => by kernel_rfl)
/-! 49 sparse/exact.columns -/
def g49_H : Hints := ⟨[⟨[],[0]⟩,⟨[],[0,5]⟩,⟨[],[2]⟩,⟨[(0,1)],[2]⟩],[],[],[2],[],[[false]]⟩
def g49_T (m : Nat) : FunT := ⟨49,[.a (.c (.imm (.sl false (.pr .bool (.sl false (.int .u32))))))],.a (.c (.int .i64)),[.a (.c .dead)],fun (x : (List (List (Bool × List Int))) × Unit) => g49 m x.1⟩
theorem g49_ok (m : Nat) : FunOK Tryd.prog (g49_T m) :=
  fok hmix htt (H := g49_H) (g49_T m) Tryd.func49 (by kernel_rfl) noF (L := []) (l := []) (by kernel_rfl) (fun _ hE _ _ => trivial) (fun x => by kernel_rfl)
/-! 67 sparse/exact.check_1 -/
def g67_H : Hints := ⟨[⟨[],[0,1]⟩,⟨[(0,1)],[3]⟩],[],[],[3],[],[[false]]⟩
def g67_T (m : Nat) : FunT := ⟨67,[.a (.c (.imm (.pr .bool (.sl false (.int .u32))))),.a (.c (.iptr none (.int .i64) 0))],.a (.c .bool),[.a (.c .dead),.a (.c .dead)],fun (x : (List (Bool × List Int)) × (List Int × Nat) × Unit) => g67 m x.1 x.2.1⟩
theorem g67_ok (m : Nat) : FunOK Tryd.prog (g67_T m) :=
  fok hmix htt (H := g67_H) (g67_T m) Tryd.func67 (by kernel_rfl) noF (L := []) (l := []) (by kernel_rfl) (fun _ hE _ _ => trivial) (fun x => by kernel_rfl)
/-! 81 slices.IndexFunc_____sparse/api.Big___sparse/api.Big_ -/
def g81_H : Hints := ⟨[⟨[],[0,1]⟩,⟨[],[0,1,7,8]⟩,⟨[],[0,1,7,8,9]⟩,⟨[],[0,1,5,7,8]⟩,⟨[],[0,1,5,7,8,16]⟩,⟨[(0,1)],[4]⟩,⟨[(1,1)],[0,1,7,8]⟩,⟨[],[4]⟩],[(0,[0,1,7,8])],[(0,[]),(1,[0,1,7,8])],[4],[],[[false]]⟩
def g81_T (m : Nat) : FunT := ⟨81,[.a (.c (.imm (.sl false (.pr .bool (.sl false (.int .u32)))))),.a (.c (.iptr (some 67) (.int .i64) 0))],.a (.c (.int .i64)),[.a (.c .dead),.a (.c .dead)],fun (x : (List (List (Bool × List Int))) × (List Int × Nat) × Unit) => g81 m x.1 x.2.1⟩
noncomputable def g81_C : Code := codeOf Tryd.f81
noncomputable def g81_B0 : Code := Q9 g81_C 0 0
theorem g81_K (m : Nat) : ∀ u ∈ [g67_T m],FunOK Tryd.prog u := AllF.mem ⟨g67_ok m,trivial⟩
def g81_L0_X (m : Nat) : LT := ⟨0,[(0,.a (.c (.imm (.sl false (.pr .bool (.sl false (.int .u32))))))),(1,.a (.c (.iptr (some 67) (.int .i64) 0))),(7,.a (.c (.int .i64))),(8,.a (.c (.int .i64)))],[(.ret,[(4,.a (.c (.int .i64)))]),(.exit 0,[])],fun n (x : (List (List (Bool × List Int))) × (List Int × Nat) × Int × Int × Unit) => g81_L0 m n x.1 x.2.1 x.2.2.1 x.2.2.2.1⟩
theorem g81_L0_ok {E : Entry} (hE : EOf Tryd.prog E 19 g81_H.pins) (m : Nat) (n : Nat) : qy Tryd.prog E g81_B0 ((g81_L0_X m).at n) :=
  lok hmix htt hE (g81_K m) (L := []) (g81_L0_X m) (l := []) (by kernel_rfl) (fun _ _ => trivial) (fun n x => by kernel_rfl) (fun _ => by kernel_rfl) n
theorem g81_ok (m : Nat) : FunOK Tryd.prog (g81_T m) :=
  fok hmix htt (H := g81_H) (g81_T m) Tryd.func81 (by kernel_rfl) (g81_K m) (L := [(g81_L0_X m).at m]) (l := [(0,g81_B0)]) (by kernel_rfl) (fun _ hE _ _ => ⟨ql ⟨yb (g81_L0_ok hE m m),trivial⟩,trivial⟩) (fun x => by kernel_rfl)
/-! 66 slices.ContainsFunc_____sparse/api.Big___sparse/api.Big_ -/
def g66_H : Hints := ⟨[⟨[],[0,1]⟩,⟨[(0,1),(1,1)],[4]⟩],[],[],[4],[],[[false]]⟩
def g66_T (m : Nat) : FunT := ⟨66,[.a (.c (.imm (.sl false (.pr .bool (.sl false (.int .u32)))))),.a (.c (.iptr (some 67) (.int .i64) 0))],.a (.c .bool),[.a (.c .dead),.a (.c .dead)],fun (x : (List (List (Bool × List Int))) × (List Int × Nat) × Unit) => g66 m x.1 x.2.1⟩
theorem g66_ok (m : Nat) : FunOK Tryd.prog (g66_T m) :=
  fok hmix htt (H := g66_H) (g66_T m) Tryd.func66 (by kernel_rfl) (AllF.mem (l := [g81_T m]) ⟨g81_ok m,trivial⟩) (L := []) (l := []) (by kernel_rfl) (fun _ hE _ _ => trivial) (fun x => by kernel_rfl)
/-! 48 sparse/exact.check -/
def g48_H : Hints := ⟨[⟨[],[0]⟩,⟨[],[0,3]⟩,⟨[],[0,3,6]⟩,⟨[],[2]⟩,⟨[(0,1),(3,1)],[10]⟩,⟨[],[2]⟩,⟨[],[2]⟩],[],[(0,[])],[2],[],[[false]]⟩
def g48_T (m : Nat) : FunT := ⟨48,[.a (.c (.imm (.sl false (.pr .bool (.sl false (.int .u32))))))],.a (.c (.int .i64)),[.a (.c .dead)],fun (x : (List (List (Bool × List Int))) × Unit) => g48 m x.1⟩
theorem g48_ok (m : Nat) : FunOK Tryd.prog (g48_T m) :=
  fok hmix htt (H := g48_H) (g48_T m) Tryd.func48 (by kernel_rfl) (AllF.mem (l := [g49_T m,g66_T m]) ⟨g49_ok m,g66_ok m,trivial⟩) (L := []) (l := []) (by kernel_rfl) (fun _ hE _ _ => trivial) (fun x => by kernel_rfl)
/-! 36 sparse/exact.square -/
def g36_H : Hints := ⟨[⟨[],[0]⟩,⟨[],[0,3]⟩,⟨[(2,1)],[3,14]⟩,⟨[],[2]⟩,⟨[(0,1)],[2]⟩],[],[],[2],[],[[false]]⟩
def g36_T (m : Nat) : FunT := ⟨36,[.a (.c (.imm (.sl false (.pr .bool (.sl false (.int .u32))))))],.a (.c (.int .i64)),[.a (.c .dead)],fun (x : (List (List (Bool × List Int))) × Unit) => g36 m x.1⟩
theorem g36_ok (m : Nat) : FunOK Tryd.prog (g36_T m) :=
  fok hmix htt (H := g36_H) (g36_T m) Tryd.func36 (by kernel_rfl) (AllF.mem (l := [g48_T m,g49_T m]) ⟨g48_ok m,g49_ok m,trivial⟩) (L := []) (l := []) (by kernel_rfl) (fun _ hE _ _ => trivial) (fun x => by kernel_rfl)
/-! 37 sparse/integer.Cmp -/
def g37_H : Hints := ⟨[⟨[],[2,3]⟩,⟨[],[2,3,5,6]⟩,⟨[],[2,3,5,6,11]⟩,⟨[],[4]⟩,⟨[(1,1)],[2,3,5,15]⟩,⟨[],[4]⟩,⟨[(0,1)],[4]⟩],[],[(0,[2,3,5])],[4],[],[[false]]⟩
def g37_T (m : Nat) : FunT := ⟨37,[.a (.agg [.bool,(.imm (.int .u32))]),.a (.agg [.bool,(.imm (.int .u32))])],.a (.c (.int .i64)),[.a (.c .dead),.a (.c .dead)],fun (x : (Bool × List Int × Unit) × (Bool × List Int × Unit) × Unit) => g37 m x.1.1 x.1.2.1 x.2.1.1 x.2.1.2.1⟩
theorem g37_ok (m : Nat) : FunOK Tryd.prog (g37_T m) :=
  fok hmix htt (H := g37_H) (g37_T m) Tryd.func37 (by kernel_rfl) (AllF.mem (l := [g40_T m,g51_T m,g50_T m]) ⟨g40_ok m,g51_ok m,g50_ok m,trivial⟩) (L := []) (l := []) (by kernel_rfl) (fun _ hE _ _ => trivial) (fun x => by kernel_rfl)
/-! 39 sparse/exact.twin -/
def g39_H : Hints := ⟨[⟨[],[0,1]⟩,⟨[(0,6)],[0,1,5]⟩,⟨[(0,1)],[1,5,11,12,13]⟩,⟨[],[1,5,11,12,13,14]⟩,⟨[],[1,5,6,7,11,12,13]⟩,⟨[],[1,5,6,7,8,11,12,13]⟩,⟨[(0,1)],[1,5,6,8,11,12,13,18,19,20]⟩,⟨[],[1,5,6,8,11,12,13,18,19,20,21]⟩,⟨[],[1,5,6,8,10,11,12,13,18,19,20]⟩,⟨[(0,1)],[1,5,6,8,11,12,13,18,19,20]⟩,⟨[(1,1)],[1,5,6,8,11,12,13,18,19,20]⟩,⟨[],[1,5,6,8,11,12,13,33]⟩,⟨[(0,1),(2,1)],[1,5,8,11,12,13]⟩,⟨[(0,1),(1,1),(2,6),(3,6)],[1,5,11,12,13]⟩,⟨[(1,1)],[1,5,11,12,13]⟩,⟨[(0,1)],[4]⟩],[(0,[1,5,11,12,13]),(2,[1,5,6,8,11,12,13,18,19,20])],[(0,[5]),(1,[1,5,11,12,13]),(2,[1,5,6,8,11,12,13]),(3,[1,5,6,8,11,12,13,18,19,20])],[4],[],[[false]]⟩
def g39_T (m : Nat) : FunT := ⟨39,[.a (.c (.imm (.sl false (.pr .bool (.sl false (.int .u32)))))),.a (.c (.imm (.pr .bool (.sl false (.int .u32)))))],.a (.c (.imm (.sl false (.pr .bool (.sl false (.int .u32)))))),[.a (.c .dead),.a (.c .dead)],fun (x : (List (List (Bool × List Int))) × (List (Bool × List Int)) × Unit) => g39 m x.1 x.2.1⟩
noncomputable def g39_C : Code := codeOf Tryd.f39
noncomputable def g39_B0 : Code := Q9 g39_C 0 0
noncomputable def g39_B2 : Code := Q9 g39_B0 0 0
theorem g39_K (m : Nat) : ∀ u ∈ [g45_T m],FunOK Tryd.prog u := AllF.mem ⟨g45_ok m,trivial⟩
def g39_L1_X (m : Nat) : LT := ⟨2,[(1,.a (.c (.imm (.pr .bool (.sl false (.int .u32)))))),(5,.a (.c (.dp 0 (.pr .bool (.sl false (.int .u32)))))),(6,.a (.c (.int .i64))),(8,.a (.c (.nm 1 (.pr .bool (.sl false (.int .u32)))))),(11,.a (.c (.imm (.sl false (.pr .bool (.sl false (.int .u32))))))),(12,.a (.c (.int .i64))),(13,.a (.c (.int .i64))),(18,.a (.c (.imm (.pr .bool (.sl false (.int .u32)))))),(19,.a (.c (.int .i64))),(20,.a (.c (.int .i64)))],[(.exit 2,[(1,.a (.c (.imm (.pr .bool (.sl false (.int .u32)))))),(5,.a (.c (.dp 0 (.pr .bool (.sl false (.int .u32)))))),(6,.a (.c (.int .i64))),(8,.a (.c (.nm 1 (.pr .bool (.sl false (.int .u32)))))),(11,.a (.c (.imm (.sl false (.pr .bool (.sl false (.int .u32))))))),(12,.a (.c (.int .i64))),(13,.a (.c (.int .i64)))])],fun n (x : (List (Bool × List Int)) × (List (List (Bool × List Int))) × Int × (List (Bool × List Int)) × (List (List (Bool × List Int))) × Int × Int × (List (Bool × List Int)) × Int × Int × Unit) => g39_L1 m n x.1 x.2.1 x.2.2.1 x.2.2.2.1 x.2.2.2.2.1 x.2.2.2.2.2.1 x.2.2.2.2.2.2.1 x.2.2.2.2.2.2.2.1 x.2.2.2.2.2.2.2.2.1 x.2.2.2.2.2.2.2.2.2.1⟩
theorem g39_L1_ok {E : Entry} (hE : EOf Tryd.prog E 48 g39_H.pins) (m : Nat) (n : Nat) : qy Tryd.prog E g39_B2 ((g39_L1_X m).at n) :=
  lok hmix htt hE (g39_K m) (L := []) (g39_L1_X m) (l := []) (by kernel_rfl) (fun _ _ => trivial) (fun n x => by kernel_rfl) (fun _ => by kernel_rfl) n
def g39_L0_X (m : Nat) : LT := ⟨0,[(1,.a (.c (.imm (.pr .bool (.sl false (.int .u32)))))),(5,.a (.c (.dp 0 (.pr .bool (.sl false (.int .u32)))))),(11,.a (.c (.imm (.sl false (.pr .bool (.sl false (.int .u32))))))),(12,.a (.c (.int .i64))),(13,.a (.c (.int .i64)))],[(.exit 0,[(5,.a (.c (.dp 0 (.pr .bool (.sl false (.int .u32))))))])],fun n (x : (List (Bool × List Int)) × (List (List (Bool × List Int))) × (List (List (Bool × List Int))) × Int × Int × Unit) => g39_L0 m n x.1 x.2.1 x.2.2.1 x.2.2.2.1 x.2.2.2.2.1⟩
theorem g39_L0_ok {E : Entry} (hE : EOf Tryd.prog E 48 g39_H.pins) (m : Nat) (n : Nat) : qy Tryd.prog E g39_B0 ((g39_L0_X m).at n) :=
  lok hmix htt hE (g39_K m) (L := [(g39_L1_X m).at m]) (g39_L0_X m) (l := [(2,g39_B2)]) (by kernel_rfl) (fun _ _ => ⟨ql ⟨yb (g39_L1_ok hE m m),trivial⟩,trivial⟩) (fun n x => by kernel_rfl) (fun _ => by kernel_rfl) n
theorem g39_ok (m : Nat) : FunOK Tryd.prog (g39_T m) :=
  fok hmix htt (H := g39_H) (g39_T m) Tryd.func39 (by kernel_rfl) (g39_K m) (L := [(g39_L0_X m).at m]) (l := [(0,g39_B0)]) (by kernel_rfl) (fun _ hE _ _ => ⟨ql ⟨yb (g39_L0_ok hE m m),trivial⟩,trivial⟩) (fun x => by kernel_rfl)
/-! 84 sparse/integer.times -/
def g84_H : Hints := ⟨[⟨[],[0,1]⟩,⟨[(3,1)],[0,1,19]⟩,⟨[],[4]⟩,⟨[],[0,1,5]⟩,⟨[(0,1)],[1,5,26,27,28]⟩,⟨[],[1,5,26,27,28,29]⟩,⟨[],[1,5,6,7,26,27,28]⟩,⟨[],[1,5,6,7,8,26,27,28]⟩,⟨[],[1,5,6,7,8,26,27,28,33,34,35]⟩,⟨[],[1,5,6,7,8,26,27,28,33,34,35,36]⟩,⟨[],[1,5,6,7,8,9,10,26,27,28,33,34,35]⟩,⟨[(2,1),(13,1)],[1,5,6,7,9,11,26,27,28,33,34,35]⟩,⟨[(2,1)],[1,5,6,7,11,26,27,28,33,34,35]⟩,⟨[(0,1)],[1,5,6,7,8,26,27,28,33,34,35]⟩,⟨[(1,1)],[1,5,6,7,8,26,27,28,33,34,35]⟩,⟨[(1,1),(5,1)],[1,5,26,27,28]⟩,⟨[(1,1)],[1,5,26,27,28]⟩,⟨[(0,1)],[4]⟩],[(0,[1,5,26,27,28]),(2,[1,5,6,7,8,26,27,28,33,34,35])],[(0,[5]),(1,[1,5,26,27,28]),(2,[1,5,6,8,26,27,28]),(3,[1,5,6,7,8,26,27,28,33,34,35])],[4],[],[[false]]⟩
def g84_T (m : Nat) : FunT := ⟨84,[.a (.c (.imm (.int .u32))),.a (.c (.imm (.int .u32)))],.a (.c (.imm (.int .u32))),[.a (.c .dead),.a (.c .dead)],fun (x : List Int × List Int × Unit) => g84 m x.1 x.2.1⟩
noncomputable def g84_C : Code := codeOf Tryd.f84
noncomputable def g84_B0 : Code := Q9 g84_C 0 0
noncomputable def g84_B2 : Code := Q9 g84_B0 0 0
theorem g84_K (m : Nat) : ∀ u ∈ [g51_T m],FunOK Tryd.prog u := AllF.mem ⟨g51_ok m,trivial⟩
def g84_L1_X (m : Nat) : LT := ⟨2,[(1,.a (.c (.imm (.int .u32)))),(5,.a (.c (.nm 0 (.int .u32)))),(6,.a (.c (.int .i64))),(7,.a (.c (.int .u32))),(8,.a (.c (.int .u64))),(26,.a (.c (.imm (.int .u32)))),(27,.a (.c (.int .i64))),(28,.a (.c (.int .i64))),(33,.a (.c (.imm (.int .u32)))),(34,.a (.c (.int .i64))),(35,.a (.c (.int .i64)))],[(.exit 2,[(1,.a (.c (.imm (.int .u32)))),(5,.a (.c (.nm 0 (.int .u32)))),(6,.a (.c (.int .i64))),(8,.a (.c (.int .u64))),(26,.a (.c (.imm (.int .u32)))),(27,.a (.c (.int .i64))),(28,.a (.c (.int .i64)))])],fun n (x : List Int × List Int × Int × Int × Int × List Int × Int × Int × List Int × Int × Int × Unit) => g84_L1 m n x.1 x.2.1 x.2.2.1 x.2.2.2.1 x.2.2.2.2.1 x.2.2.2.2.2.1 x.2.2.2.2.2.2.1 x.2.2.2.2.2.2.2.1 x.2.2.2.2.2.2.2.2.1 x.2.2.2.2.2.2.2.2.2.1 x.2.2.2.2.2.2.2.2.2.2.1⟩
theorem g84_L1_ok {E : Entry} (hE : EOf Tryd.prog E 77 g84_H.pins) (m : Nat) (n : Nat) : qy Tryd.prog E g84_B2 ((g84_L1_X m).at n) :=
  lok hmix htt hE (g84_K m) (L := []) (g84_L1_X m) (l := []) (by kernel_rfl) (fun _ _ => trivial) (fun n x => by kernel_rfl) (fun _ => by kernel_rfl) n
def g84_L0_X (m : Nat) : LT := ⟨0,[(1,.a (.c (.imm (.int .u32)))),(5,.a (.c (.nm 0 (.int .u32)))),(26,.a (.c (.imm (.int .u32)))),(27,.a (.c (.int .i64))),(28,.a (.c (.int .i64)))],[(.exit 0,[(5,.a (.c (.nm 0 (.int .u32))))])],fun n (x : List Int × List Int × List Int × Int × Int × Unit) => g84_L0 m n x.1 x.2.1 x.2.2.1 x.2.2.2.1 x.2.2.2.2.1⟩
theorem g84_L0_ok {E : Entry} (hE : EOf Tryd.prog E 77 g84_H.pins) (m : Nat) (n : Nat) : qy Tryd.prog E g84_B0 ((g84_L0_X m).at n) :=
  lok hmix htt hE (g84_K m) (L := [(g84_L1_X m).at m]) (g84_L0_X m) (l := [(2,g84_B2)]) (by kernel_rfl) (fun _ _ => ⟨ql ⟨yb (g84_L1_ok hE m m),trivial⟩,trivial⟩) (fun n x => by kernel_rfl) (fun _ => by kernel_rfl) n
theorem g84_ok (m : Nat) : FunOK Tryd.prog (g84_T m) :=
  fok hmix htt (H := g84_H) (g84_T m) Tryd.func84 (by kernel_rfl) (g84_K m) (L := [(g84_L0_X m).at m]) (l := [(0,g84_B0)]) (by kernel_rfl) (fun _ hE _ _ => ⟨ql ⟨yb (g84_L0_ok hE m m),trivial⟩,trivial⟩) (fun x => by kernel_rfl)
/-! 72 sparse/integer.Mul -/
def g72_H : Hints := ⟨[⟨[],[2,3,4]⟩,⟨[],[4]⟩],[],[],[4],[],[[false,false]]⟩
def g72_T (m : Nat) : FunT := ⟨72,[.a (.agg [.bool,(.imm (.int .u32))]),.a (.agg [.bool,(.imm (.int .u32))])],.a (.agg [.bool,(.imm (.int .u32))]),[.a (.c .dead),.a (.c .dead)],fun (x : (Bool × List Int × Unit) × (Bool × List Int × Unit) × Unit) => g72 m x.1.1 x.1.2.1 x.2.1.1 x.2.1.2.1⟩
theorem g72_ok (m : Nat) : FunOK Tryd.prog (g72_T m) :=
  fok hmix htt (H := g72_H) (g72_T m) Tryd.func72 (by kernel_rfl) (AllF.mem (l := [g51_T m,g84_T m,g61_T m]) ⟨g51_ok m,g84_ok m,g61_ok m,trivial⟩) (L := []) (l := []) (by kernel_rfl) (fun _ hE _ _ => trivial) (fun x => by kernel_rfl)
/-! 54 sparse/exact.product -/
def g54_H : Hints := ⟨[⟨[],[0,1]⟩,⟨[(0,6)],[0,1,5]⟩,⟨[(0,1)],[1,5,13,14,15]⟩,⟨[],[1,5,13,14,15,16]⟩,⟨[],[1,5,7,13,14,15]⟩,⟨[],[1,5,7,8,13,14,15]⟩,⟨[],[1,5,7,8,13,14,15,20,21]⟩,⟨[],[1,5,7,8,13,14,15,20,21,22]⟩,⟨[],[1,5,7,8,9,13,14,15,20,21]⟩,⟨[(0,2)],[1,5,7,8,9,10,13,14,15,20,21]⟩,⟨[],[1,5,7,8,9,10,13,14,15,20,21,24,25,26]⟩,⟨[],[1,5,7,8,9,10,13,14,15,20,21,24,25,26,27]⟩,⟨[],[1,5,7,8,9,10,11,12,13,14,15,20,21,24,25,26]⟩,⟨[(0,2),(3,1)],[1,5,7,8,9,10,13,14,15,20,21,24,25,26]⟩,⟨[(1,1)],[1,5,7,8,9,10,13,14,15,20,21,24,25,26]⟩,⟨[(0,1)],[1,5,7,8,13,14,15,20,21]⟩,⟨[(1,1)],[1,5,7,8,13,14,15,20,21]⟩,⟨[(0,1),(1,1),(2,6),(3,6)],[1,5,13,14,15]⟩,⟨[(1,1)],[1,5,13,14,15]⟩,⟨[(0,1)],[4]⟩],[(0,[1,5,13,14,15]),(2,[1,5,7,8,13,14,15,20,21]),(4,[1,5,7,8,9,10,13,14,15,20,21,24,25,26])],[(0,[5]),(1,[1,5,13,14,15]),(2,[1,5,8,13,14,15]),(3,[1,5,7,8,13,14,15,20,21]),(4,[1,5,7,8,10,13,14,15,20,21]),(5,[1,5,7,8,9,10,13,14,15,20,21,24,25,26])],[4],[],[[true]]⟩
def g54_T (m : Nat) : FunT := ⟨54,[.a (.c (.imm (.sl false (.pr .bool (.sl false (.int .u32)))))),.a (.c (.imm (.sl false (.pr .bool (.sl false (.int .u32))))))],.a (.c (.dp 0 (.pr .bool (.sl false (.int .u32))))),[.a (.c .dead),.a (.c .dead)],fun (x : (List (List (Bool × List Int))) × (List (List (Bool × List Int))) × Unit) => g54 m x.1 x.2.1⟩
noncomputable def g54_C : Code := codeOf Tryd.f54
noncomputable def g54_B0 : Code := Q9 g54_C 0 0
noncomputable def g54_B2 : Code := Q9 g54_B0 0 0
noncomputable def g54_B4 : Code := Q9 g54_B2 2 0
theorem g54_K (m : Nat) : ∀ u ∈ [g72_T m,g53_T m],FunOK Tryd.prog u := AllF.mem ⟨g72_ok m,g53_ok m,trivial⟩
def g54_L2_X (m : Nat) : LT := ⟨4,[(1,.a (.c (.imm (.sl false (.pr .bool (.sl false (.int .u32))))))),(5,.a (.c (.dp 0 (.pr .bool (.sl false (.int .u32)))))),(7,.a (.c (.imm (.pr .bool (.sl false (.int .u32)))))),(8,.a (.c (.nm 1 (.pr .bool (.sl false (.int .u32)))))),(9,.a (.c (.int .i64))),(10,.a (.bx 2 [.bool,(.imm (.int .u32))])),(13,.a (.c (.imm (.sl false (.pr .bool (.sl false (.int .u32))))))),(14,.a (.c (.int .i64))),(15,.a (.c (.int .i64))),(20,.a (.c (.int .i64))),(21,.a (.c (.int .i64))),(24,.a (.c (.imm (.pr .bool (.sl false (.int .u32)))))),(25,.a (.c (.int .i64))),(26,.a (.c (.int .i64)))],[(.exit 4,[(1,.a (.c (.imm (.sl false (.pr .bool (.sl false (.int .u32))))))),(5,.a (.c (.dp 0 (.pr .bool (.sl false (.int .u32)))))),(7,.a (.c (.imm (.pr .bool (.sl false (.int .u32)))))),(8,.a (.c (.nm 1 (.pr .bool (.sl false (.int .u32)))))),(10,.a (.bx 2 [.bool,(.imm (.int .u32))])),(13,.a (.c (.imm (.sl false (.pr .bool (.sl false (.int .u32))))))),(14,.a (.c (.int .i64))),(15,.a (.c (.int .i64))),(20,.a (.c (.int .i64))),(21,.a (.c (.int .i64)))])],fun n (x : (List (List (Bool × List Int))) × (List (List (Bool × List Int))) × (List (Bool × List Int)) × (List (Bool × List Int)) × Int × (Bool × List Int × Unit) × (List (List (Bool × List Int))) × Int × Int × Int × Int × (List (Bool × List Int)) × Int × Int × Unit) => g54_L2 m n x.1 x.2.1 x.2.2.1 x.2.2.2.1 x.2.2.2.2.1 x.2.2.2.2.2.1.1 x.2.2.2.2.2.1.2.1 x.2.2.2.2.2.2.1 x.2.2.2.2.2.2.2.1 x.2.2.2.2.2.2.2.2.1 x.2.2.2.2.2.2.2.2.2.1 x.2.2.2.2.2.2.2.2.2.2.1 x.2.2.2.2.2.2.2.2.2.2.2.1 x.2.2.2.2.2.2.2.2.2.2.2.2.1 x.2.2.2.2.2.2.2.2.2.2.2.2.2.1⟩
theorem g54_L2_ok {E : Entry} (hE : EOf Tryd.prog E 54 g54_H.pins) (m : Nat) (n : Nat) : qy Tryd.prog E g54_B4 ((g54_L2_X m).at n) :=
  lok hmix htt hE (g54_K m) (L := []) (g54_L2_X m) (l := []) (by kernel_rfl) (fun _ _ => trivial) (fun n x => by kernel_rfl) (fun _ => by kernel_rfl) n
def g54_L1_X (m : Nat) : LT := ⟨2,[(1,.a (.c (.imm (.sl false (.pr .bool (.sl false (.int .u32))))))),(5,.a (.c (.dp 0 (.pr .bool (.sl false (.int .u32)))))),(7,.a (.c (.imm (.pr .bool (.sl false (.int .u32)))))),(8,.a (.c (.nm 1 (.pr .bool (.sl false (.int .u32)))))),(13,.a (.c (.imm (.sl false (.pr .bool (.sl false (.int .u32))))))),(14,.a (.c (.int .i64))),(15,.a (.c (.int .i64))),(20,.a (.c (.int .i64))),(21,.a (.c (.int .i64)))],[(.exit 2,[(1,.a (.c (.imm (.sl false (.pr .bool (.sl false (.int .u32))))))),(5,.a (.c (.dp 0 (.pr .bool (.sl false (.int .u32)))))),(8,.a (.c (.nm 1 (.pr .bool (.sl false (.int .u32)))))),(13,.a (.c (.imm (.sl false (.pr .bool (.sl false (.int .u32))))))),(14,.a (.c (.int .i64))),(15,.a (.c (.int .i64)))])],fun n (x : (List (List (Bool × List Int))) × (List (List (Bool × List Int))) × (List (Bool × List Int)) × (List (Bool × List Int)) × (List (List (Bool × List Int))) × Int × Int × Int × Int × Unit) => g54_L1 m n x.1 x.2.1 x.2.2.1 x.2.2.2.1 x.2.2.2.2.1 x.2.2.2.2.2.1 x.2.2.2.2.2.2.1 x.2.2.2.2.2.2.2.1 x.2.2.2.2.2.2.2.2.1⟩
theorem g54_L1_ok {E : Entry} (hE : EOf Tryd.prog E 54 g54_H.pins) (m : Nat) (n : Nat) : qy Tryd.prog E g54_B2 ((g54_L1_X m).at n) :=
  lok hmix htt hE (g54_K m) (L := [(g54_L2_X m).at m]) (g54_L1_X m) (l := [(4,g54_B4)]) (by kernel_rfl) (fun _ _ => ⟨ql ⟨yb (g54_L2_ok hE m m),trivial⟩,trivial⟩) (fun n x => by kernel_rfl) (fun _ => by kernel_rfl) n
def g54_L0_X (m : Nat) : LT := ⟨0,[(1,.a (.c (.imm (.sl false (.pr .bool (.sl false (.int .u32))))))),(5,.a (.c (.dp 0 (.pr .bool (.sl false (.int .u32)))))),(13,.a (.c (.imm (.sl false (.pr .bool (.sl false (.int .u32))))))),(14,.a (.c (.int .i64))),(15,.a (.c (.int .i64)))],[(.exit 0,[(5,.a (.c (.dp 0 (.pr .bool (.sl false (.int .u32))))))])],fun n (x : (List (List (Bool × List Int))) × (List (List (Bool × List Int))) × (List (List (Bool × List Int))) × Int × Int × Unit) => g54_L0 m n x.1 x.2.1 x.2.2.1 x.2.2.2.1 x.2.2.2.2.1⟩
theorem g54_L0_ok {E : Entry} (hE : EOf Tryd.prog E 54 g54_H.pins) (m : Nat) (n : Nat) : qy Tryd.prog E g54_B0 ((g54_L0_X m).at n) :=
  lok hmix htt hE (g54_K m) (L := [(g54_L1_X m).at m]) (g54_L0_X m) (l := [(2,g54_B2)]) (by kernel_rfl) (fun _ _ => ⟨ql ⟨yb (g54_L1_ok hE m m),trivial⟩,trivial⟩) (fun n x => by kernel_rfl) (fun _ => by kernel_rfl) n
theorem g54_ok (m : Nat) : FunOK Tryd.prog (g54_T m) :=
  fok hmix htt (H := g54_H) (g54_T m) Tryd.func54 (by kernel_rfl) (g54_K m) (L := [(g54_L0_X m).at m]) (l := [(0,g54_B0)]) (by kernel_rfl) (fun _ hE _ _ => ⟨ql ⟨yb (g54_L0_ok hE m m),trivial⟩,trivial⟩) (fun x => by kernel_rfl)
/-! 91 sparse/integer.short -/
def g91_H : Hints := ⟨[⟨[],[0,1]⟩,⟨[],[0,1,6]⟩,⟨[],[0,1,6,7]⟩,⟨[],[0,1,6,7,8]⟩,⟨[],[0,1,6,7,8,17]⟩,⟨[(0,1)],[0,1,6,7,8]⟩,⟨[(0,1)],[0,1,6,8,9]⟩,⟨[],[0,1,6,8,9]⟩,⟨[(0,1)],[0,1,6,7,8]⟩,⟨[(0,1),(2,1)],[4,5]⟩],[(0,[0,1,6,7,8])],[(0,[6,7]),(1,[0,1,6,7,8])],[4,5],[],[[false],[false]]⟩
def g91_T (m : Nat) : FunT := ⟨91,[.a (.c (.imm (.int .u32))),.a (.c (.int .u32))],.tup [(.c (.imm (.int .u32))),(.c (.int .u32))],[.a (.c .dead),.a (.c .dead)],fun (x : List Int × Int × Unit) => g91 m x.1 x.2.1⟩
noncomputable def g91_C : Code := codeOf Tryd.f91
noncomputable def g91_B0 : Code := Q9 g91_C 0 0
theorem g91_K (m : Nat) : ∀ u ∈ [g51_T m],FunOK Tryd.prog u := AllF.mem ⟨g51_ok m,trivial⟩
def g91_L0_X (m : Nat) : LT := ⟨0,[(0,.a (.c (.imm (.int .u32)))),(1,.a (.c (.int .u32))),(6,.a (.c (.nm 0 (.int .u32)))),(7,.a (.c (.int .u64))),(8,.a (.c (.int .i64)))],[(.exit 0,[(6,.a (.c (.nm 0 (.int .u32)))),(7,.a (.c (.int .u64)))])],fun n (x : List Int × Int × List Int × Int × Int × Unit) => g91_L0 m n x.1 x.2.1 x.2.2.1 x.2.2.2.1 x.2.2.2.2.1⟩
theorem g91_L0_ok {E : Entry} (hE : EOf Tryd.prog E 44 g91_H.pins) (m : Nat) (n : Nat) : qy Tryd.prog E g91_B0 ((g91_L0_X m).at n) :=
  lok hmix htt hE (g91_K m) (L := []) (g91_L0_X m) (l := []) (by kernel_rfl) (fun _ _ => trivial) (fun n x => by kernel_rfl) (fun _ => by kernel_rfl) n
theorem g91_ok (m : Nat) : FunOK Tryd.prog (g91_T m) :=
  fok hmix htt (H := g91_H) (g91_T m) Tryd.func91 (by kernel_rfl) (g91_K m) (L := [(g91_L0_X m).at m]) (l := [(0,g91_B0)]) (by kernel_rfl) (fun _ hE _ _ => ⟨ql ⟨yb (g91_L0_ok hE m m),trivial⟩,trivial⟩) (fun x => by kernel_rfl)
/-! 92 math/bits.LeadingZeros32 -/
def g92_H : Hints := ⟨[⟨[],[0]⟩,⟨[(0,1)],[2]⟩],[],[],[2],[],[[false]]⟩
def g92_T (m : Nat) : FunT := ⟨92,[.a (.c (.int .u32))],.a (.c (.int .i64)),[.a (.c .dead)],fun (x : Int × Unit) => g92 m x.1⟩
theorem g92_ok (m : Nat) : FunOK Tryd.prog (g92_T m) :=
  fok hmix htt (H := g92_H) (g92_T m) Tryd.func92 (by kernel_rfl) (AllF.mem (l := [g94_T m]) ⟨g94_ok m,trivial⟩) (L := []) (l := []) (by kernel_rfl) (fun _ hE _ _ => trivial) (fun x => by kernel_rfl)
/-! 85 sparse/integer.divide -/
def g85_H : Hints := ⟨[⟨[],[0,1]⟩,⟨[],[0,1,16]⟩,⟨[(0,1)],[4,5]⟩,⟨[],[0,1,21]⟩,⟨[(0,1),(1,1),(5,1)],[6,7]⟩,⟨[(0,1),(1,1)],[4,5]⟩,⟨[],[0,1,8]⟩,⟨[(0,1)],[0,8,9]⟩,⟨[],[0,8,9,10]⟩,⟨[(1,1)],[8,9,10]⟩,⟨[],[8,9,10,11]⟩,⟨[],[4,8,9,10,11]⟩,⟨[],[4,8,9,10,11,12]⟩,⟨[],[4,8,9,10,11,12,64]⟩,⟨[(0,1)],[4,8,9,10,11,12]⟩,⟨[],[4,8,9,10,11,12]⟩,⟨[(0,1),(1,1),(4,1),(6,1)],[4,5]⟩,⟨[(0,1),(2,1)],[4,5]⟩],[(0,[4,8,9,10,11,12])],[(0,[4,8,10,11]),(1,[4,8,9,10,11,12])],[4,5],[],[[false],[false]]⟩
def g85_T (m : Nat) : FunT := ⟨85,[.a (.c (.imm (.int .u32))),.a (.c (.imm (.int .u32)))],.tup [(.c (.imm (.int .u32))),(.c (.imm (.int .u32)))],[.a (.c .dead),.a (.c .dead)],fun (x : List Int × List Int × Unit) => g85 m x.1 x.2.1⟩
noncomputable def g85_C : Code := codeOf Tryd.f85
noncomputable def g85_B0 : Code := Q9 g85_C 0 0
theorem g85_ok (m : Nat) : FunOK Tryd.prog (g85_T m) :=
  fok hmix htt (H := g85_H) (g85_T m) Tryd.func85 (by kernel_rfl) (AllF.mem (l := [g50_T m,g62_T m,g91_T m,g51_T m,g92_T m,g77_T m]) ⟨g50_ok m,g62_ok m,g91_ok m,g51_ok m,g92_ok m,g77_ok m,trivial⟩) (L := []) (l := [(0,g85_B0)]) (by kernel_rfl) (fun _ hE _ _ => ⟨ql trivial,trivial⟩) (fun x => by kernel_rfl)
/-! 73 sparse/integer.DivMod -/
def g73_H : Hints := ⟨[⟨[],[2,3,4,5]⟩,⟨[],[2,3,4,5,7]⟩,⟨[],[2,3,4,5,7,15]⟩,⟨[],[4,5,6]⟩,⟨[(5,1)],[2,3,4,5,7,8,9]⟩,⟨[(2,1)],[2,3,4,5,7,8,9,32]⟩,⟨[(0,1),(3,1),(4,1)],[2,3,4,5,8,9]⟩,⟨[(5,1),(7,1)],[4,5,6]⟩],[],[],[4,5,6],[],[[false,false],[false,false],[false]]⟩
def g73_T (m : Nat) : FunT := ⟨73,[.a (.agg [.bool,(.imm (.int .u32))]),.a (.agg [.bool,(.imm (.int .u32))])],.tup [(.agg [.bool,(.imm (.int .u32))]),(.agg [.bool,(.imm (.int .u32))]),(.c (.int .i64))],[.a (.c .dead),.a (.c .dead)],fun (x : (Bool × List Int × Unit) × (Bool × List Int × Unit) × Unit) => g73 m x.1.1 x.1.2.1 x.2.1.1 x.2.1.2.1⟩
theorem g73_ok (m : Nat) : FunOK Tryd.prog (g73_T m) :=
  fok hmix htt (H := g73_H) (g73_T m) Tryd.func73 (by kernel_rfl) (AllF.mem (l := [g51_T m,g85_T m,g70_T m,g71_T m,g61_T m]) ⟨g51_ok m,g85_ok m,g70_ok m,g71_ok m,g61_ok m,trivial⟩) (L := []) (l := []) (by kernel_rfl) (fun _ hE _ _ => trivial) (fun x => by kernel_rfl)
/-! 55 sparse/integer.Quo -/
def g55_H : Hints := ⟨[⟨[],[2,3,4]⟩,⟨[(3,1)],[4,6,7,8]⟩,⟨[(2,1)],[4,6,8,23]⟩,⟨[],[4,5]⟩,⟨[(1,1)],[4,5]⟩],[],[],[4,5],[],[[false,false],[false]]⟩
def g55_T (m : Nat) : FunT := ⟨55,[.a (.agg [.bool,(.imm (.int .u32))]),.a (.agg [.bool,(.imm (.int .u32))])],.tup [(.agg [.bool,(.imm (.int .u32))]),(.c (.int .i64))],[.a (.c .dead),.a (.c .dead)],fun (x : (Bool × List Int × Unit) × (Bool × List Int × Unit) × Unit) => g55 m x.1.1 x.1.2.1 x.2.1.1 x.2.1.2.1⟩
theorem g55_ok (m : Nat) : FunOK Tryd.prog (g55_T m) :=
  fok hmix htt (H := g55_H) (g55_T m) Tryd.func55 (by kernel_rfl) (AllF.mem (l := [g73_T m]) ⟨g73_ok m,trivial⟩) (L := []) (l := []) (by kernel_rfl) (fun _ hE _ _ => trivial) (fun x => by kernel_rfl)
/-! 38 sparse/exact.characteristic -/
def g38_H : Hints := ⟨[⟨[],[0]⟩,⟨[],[0,3]⟩,⟨[],[0,3,4]⟩,⟨[],[0,3,4]⟩,⟨[(1,4)],[0,3,4,5]⟩,⟨[],[0,3,4,5,26,27]⟩,⟨[],[0,3,4,5,26,27,28]⟩,⟨[],[0,3,4,5,6,26,27]⟩,⟨[(1,1),(5,4)],[0,3,4,5,26,27]⟩,⟨[(1,1)],[0,3,4,5,26,27]⟩,⟨[],[0,3,4,5,7]⟩,⟨[],[0,3,4,5,7,38]⟩,⟨[(0,1)],[0,3,4,5,7]⟩,⟨[],[0,3,4,5,7,42,43]⟩,⟨[],[0,3,4,5,7,42,43,44]⟩,⟨[],[0,3,4,5,7,8,42,43]⟩,⟨[],[0,3,4,5,7,42,43]⟩,⟨[(1,1)],[0,3,4,5,7,42,43]⟩,⟨[(1,1)],[0,3,4,7,9]⟩,⟨[(0,2)],[0,3,4,7,9,10]⟩,⟨[],[0,3,4,7,9,10,72,73]⟩,⟨[],[0,3,4,7,9,10,72,73,74]⟩,⟨[],[0,3,4,7,9,10,11,72,73]⟩,⟨[(0,2)],[0,3,4,7,9,10,72,73]⟩,⟨[(1,1)],[0,3,4,7,9,10,72,73]⟩,⟨[(4,1)],[0,3,4,7,9,12]⟩,⟨[(6,1)],[0,3,4,5,7]⟩,⟨[(0,1)],[2]⟩],[(0,[0,3,4,5,26,27]),(2,[0,3,4,5,7]),(4,[0,3,4,5,7,42,43]),(6,[0,3,4,7,9,10,72,73])],[(0,[0,3,4,5]),(1,[0,3,4,5,26,27]),(2,[4]),(3,[0,3,4,5,7]),(4,[0,3,4,5,7]),(5,[0,3,4,5,7,42,43]),(6,[0,3,4,7,9,10]),(7,[0,3,4,7,9,10,72,73])],[2],[],[[true]]⟩
def g38_T (m : Nat) : FunT := ⟨38,[.a (.c (.imm (.sl false (.pr .bool (.sl false (.int .u32))))))],.a (.c (.nm 0 (.pr .bool (.sl false (.int .u32))))),[.a (.c .dead)],fun (x : (List (List (Bool × List Int))) × Unit) => g38 m x.1⟩
noncomputable def g38_C : Code := codeOf Tryd.f38
noncomputable def g38_B0 : Code := Q9 g38_C 0 0
noncomputable def g38_B2 : Code := Q9 g38_C 0 1
noncomputable def g38_B4 : Code := Q9 g38_B2 2 0
noncomputable def g38_B6 : Code := Q9 g38_B2 2 1
theorem g38_K (m : Nat) : ∀ u ∈ [g52_T m,g53_T m,g54_T m,g55_T m,g56_T m],FunOK Tryd.prog u := AllF.mem ⟨g52_ok m,g53_ok m,g54_ok m,g55_ok m,g56_ok m,trivial⟩
def g38_L3_X (m : Nat) : LT := ⟨6,[(0,.a (.c (.imm (.sl false (.pr .bool (.sl false (.int .u32))))))),(3,.a (.c (.int .i64))),(4,.a (.c (.nm 0 (.pr .bool (.sl false (.int .u32)))))),(7,.a (.c (.int .i64))),(9,.a (.c (.dp 1 (.pr .bool (.sl false (.int .u32)))))),(10,.a (.bx 2 [.bool,(.imm (.int .u32))])),(72,.a (.c (.int .i64))),(73,.a (.c (.int .i64)))],[(.exit 6,[(0,.a (.c (.imm (.sl false (.pr .bool (.sl false (.int .u32))))))),(3,.a (.c (.int .i64))),(4,.a (.c (.nm 0 (.pr .bool (.sl false (.int .u32)))))),(7,.a (.c (.int .i64))),(9,.a (.c (.dp 1 (.pr .bool (.sl false (.int .u32)))))),(10,.a (.bx 2 [.bool,(.imm (.int .u32))]))])],fun n (x : (List (List (Bool × List Int))) × Int × (List (Bool × List Int)) × Int × (List (List (Bool × List Int))) × (Bool × List Int × Unit) × Int × Int × Unit) => g38_L3 m n x.1 x.2.1 x.2.2.1 x.2.2.2.1 x.2.2.2.2.1 x.2.2.2.2.2.1.1 x.2.2.2.2.2.1.2.1 x.2.2.2.2.2.2.1 x.2.2.2.2.2.2.2.1⟩
theorem g38_L3_ok {E : Entry} (hE : EOf Tryd.prog E 102 g38_H.pins) (m : Nat) (n : Nat) : qy Tryd.prog E g38_B6 ((g38_L3_X m).at n) :=
  lok hmix htt hE (g38_K m) (L := []) (g38_L3_X m) (l := []) (by kernel_rfl) (fun _ _ => trivial) (fun n x => by kernel_rfl) (fun _ => by kernel_rfl) n
def g38_L2_X (m : Nat) : LT := ⟨4,[(0,.a (.c (.imm (.sl false (.pr .bool (.sl false (.int .u32))))))),(3,.a (.c (.int .i64))),(4,.a (.c (.nm 0 (.pr .bool (.sl false (.int .u32)))))),(5,.a (.c (.dp 1 (.pr .bool (.sl false (.int .u32)))))),(7,.a (.c (.int .i64))),(42,.a (.c (.int .i64))),(43,.a (.c (.int .i64)))],[(.exit 4,[(0,.a (.c (.imm (.sl false (.pr .bool (.sl false (.int .u32))))))),(3,.a (.c (.int .i64))),(4,.a (.c (.nm 0 (.pr .bool (.sl false (.int .u32)))))),(5,.a (.c (.dp 1 (.pr .bool (.sl false (.int .u32)))))),(7,.a (.c (.int .i64)))])],fun n (x : (List (List (Bool × List Int))) × Int × (List (Bool × List Int)) × (List (List (Bool × List Int))) × Int × Int × Int × Unit) => g38_L2 m n x.1 x.2.1 x.2.2.1 x.2.2.2.1 x.2.2.2.2.1 x.2.2.2.2.2.1 x.2.2.2.2.2.2.1⟩
theorem g38_L2_ok {E : Entry} (hE : EOf Tryd.prog E 102 g38_H.pins) (m : Nat) (n : Nat) : qy Tryd.prog E g38_B4 ((g38_L2_X m).at n) :=
  lok hmix htt hE (g38_K m) (L := []) (g38_L2_X m) (l := []) (by kernel_rfl) (fun _ _ => trivial) (fun n x => by kernel_rfl) (fun _ => by kernel_rfl) n
def g38_L1_X (m : Nat) : LT := ⟨2,[(0,.a (.c (.imm (.sl false (.pr .bool (.sl false (.int .u32))))))),(3,.a (.c (.int .i64))),(4,.a (.c (.nm 0 (.pr .bool (.sl false (.int .u32)))))),(5,.a (.c (.dp 1 (.pr .bool (.sl false (.int .u32)))))),(7,.a (.c (.int .i64)))],[(.exit 2,[(4,.a (.c (.nm 0 (.pr .bool (.sl false (.int .u32))))))])],fun n (x : (List (List (Bool × List Int))) × Int × (List (Bool × List Int)) × (List (List (Bool × List Int))) × Int × Unit) => g38_L1 m n x.1 x.2.1 x.2.2.1 x.2.2.2.1 x.2.2.2.2.1⟩
theorem g38_L1_ok {E : Entry} (hE : EOf Tryd.prog E 102 g38_H.pins) (m : Nat) (n : Nat) : qy Tryd.prog E g38_B2 ((g38_L1_X m).at n) :=
  lok hmix htt hE (g38_K m) (L := [(g38_L2_X m).at m,(g38_L3_X m).at m]) (g38_L1_X m) (l := [(4,g38_B4),(6,g38_B6)]) (by kernel_rfl) (fun _ _ => ⟨ql ⟨yb (g38_L2_ok hE m m),nb rfl,trivial⟩,ql ⟨nb rfl,yb (g38_L3_ok hE m m),trivial⟩,trivial⟩) (fun n x => by kernel_rfl) (fun _ => by kernel_rfl) n
def g38_L0_X (m : Nat) : LT := ⟨0,[(0,.a (.c (.imm (.sl false (.pr .bool (.sl false (.int .u32))))))),(3,.a (.c (.int .i64))),(4,.a (.c (.nm 0 (.pr .bool (.sl false (.int .u32)))))),(5,.a (.c (.dp 1 (.pr .bool (.sl false (.int .u32)))))),(26,.a (.c (.int .i64))),(27,.a (.c (.int .i64)))],[(.exit 0,[(0,.a (.c (.imm (.sl false (.pr .bool (.sl false (.int .u32))))))),(3,.a (.c (.int .i64))),(4,.a (.c (.nm 0 (.pr .bool (.sl false (.int .u32)))))),(5,.a (.c (.dp 1 (.pr .bool (.sl false (.int .u32))))))])],fun n (x : (List (List (Bool × List Int))) × Int × (List (Bool × List Int)) × (List (List (Bool × List Int))) × Int × Int × Unit) => g38_L0 m n x.1 x.2.1 x.2.2.1 x.2.2.2.1 x.2.2.2.2.1 x.2.2.2.2.2.1⟩
theorem g38_L0_ok {E : Entry} (hE : EOf Tryd.prog E 102 g38_H.pins) (m : Nat) (n : Nat) : qy Tryd.prog E g38_B0 ((g38_L0_X m).at n) :=
  lok hmix htt hE (g38_K m) (L := []) (g38_L0_X m) (l := []) (by kernel_rfl) (fun _ _ => trivial) (fun n x => by kernel_rfl) (fun _ => by kernel_rfl) n
theorem g38_ok (m : Nat) : FunOK Tryd.prog (g38_T m) :=
  fok hmix htt (H := g38_H) (g38_T m) Tryd.func38 (by kernel_rfl) (g38_K m) (L := [(g38_L0_X m).at m,(g38_L1_X m).at m]) (l := [(0,g38_B0),(2,g38_B2)]) (by kernel_rfl) (fun _ hE _ _ => ⟨ql ⟨yb (g38_L0_ok hE m m),nb rfl,trivial⟩,ql ⟨nb rfl,yb (g38_L1_ok hE m m),trivial⟩,trivial⟩) (fun x => by kernel_rfl)
/-! 32 sparse/exact.Inertia -/
def g32_H : Hints := ⟨[⟨[],[0,3,4]⟩,⟨[],[0,3,4,5]⟩,⟨[],[0,3,4,5,18]⟩,⟨[(0,1)],[2,3,4,5]⟩,⟨[],[0,3,4,20,21,22]⟩,⟨[],[0,3,4,20,21,22,23]⟩,⟨[],[0,3,4,6,7,20,21,22]⟩,⟨[(0,1)],[0,3,4,6,20,21,22,27,28,29]⟩,⟨[],[0,3,4,6,20,21,22,27,28,29,30]⟩,⟨[],[0,3,4,6,8,9,20,21,22,27,28,29]⟩,⟨[(2,1)],[0,3,4,6,20,21,22,27,28,29,43]⟩,⟨[],[2,3,4,5]⟩,⟨[(1,1)],[0,3,4,6,20,21,22,27,28,29]⟩,⟨[(1,1)],[0,3,4,20,21,22]⟩,⟨[],[0,3,4,10]⟩,⟨[(4,1)],[0,3,4,10,60]⟩,⟨[(0,1)],[0,3,4,10]⟩,⟨[],[0,3,4,10,11]⟩,⟨[(0,1)],[0,3,4,11,63,64,65]⟩,⟨[],[0,3,4,11,63,64,65,66]⟩,⟨[],[0,3,4,11,13,63,64,65]⟩,⟨[],[0,3,4,11,14,63,64,65]⟩,⟨[],[0,3,4,11,14,63,64,65,74]⟩,⟨[(0,1)],[0,3,4,11,14,63,64,65]⟩,⟨[],[0,3,4,11,14,63,64,65,78]⟩,⟨[(0,1)],[0,3,4,11,63,64,65]⟩,⟨[(1,1)],[0,3,4,11,63,64,65]⟩,⟨[(0,1)],[2,3,4,5]⟩],[(0,[0,3,4,20,21,22]),(2,[0,3,4,6,20,21,22,27,28,29]),(4,[0,3,4,10]),(6,[0,3,4,11,63,64,65])],[(0,[0,3,4]),(1,[0,3,4,20,21,22]),(2,[0,3,4,20,21,22]),(3,[0,3,4,6,20,21,22,27,28,29]),(4,[0,3,4,10]),(5,[0,3,4,10]),(6,[0,3,4]),(7,[0,3,4,11,63,64,65])],[2,3,4,5],[],[[false],[false],[false],[false]]⟩
def g32_T (m : Nat) : FunT := ⟨32,[.a (.c (.imm (.sl false (.pr .bool (.sl false (.int .u32))))))],.tup [(.c (.int .i64)),(.c (.int .i64)),(.c (.int .i64)),(.c (.int .i64))],[.a (.c .dead)],fun (x : (List (List (Bool × List Int))) × Unit) => g32 m x.1⟩
noncomputable def g32_C : Code := codeOf Tryd.f32
noncomputable def g32_B0 : Code := Q9 g32_C 0 0
noncomputable def g32_B2 : Code := Q9 g32_B0 0 0
noncomputable def g32_B4 : Code := Q9 g32_C 0 1
noncomputable def g32_B6 : Code := Q9 g32_C 0 2
theorem g32_K (m : Nat) : ∀ u ∈ [g36_T m,g37_T m,g39_T m,g38_T m,g40_T m],FunOK Tryd.prog u := AllF.mem ⟨g36_ok m,g37_ok m,g39_ok m,g38_ok m,g40_ok m,trivial⟩
def g32_L3_X (m : Nat) : LT := ⟨6,[(0,.a (.c (.imm (.sl false (.pr .bool (.sl false (.int .u32))))))),(3,.a (.c (.int .i64))),(4,.a (.c (.int .i64))),(11,.a (.c (.int .i64))),(63,.a (.c (.nm 0 (.pr .bool (.sl false (.int .u32)))))),(64,.a (.c (.int .i64))),(65,.a (.c (.int .i64)))],[(.exit 6,[(0,.a (.c (.imm (.sl false (.pr .bool (.sl false (.int .u32))))))),(3,.a (.c (.int .i64))),(4,.a (.c (.int .i64)))])],fun n (x : (List (List (Bool × List Int))) × Int × Int × Int × (List (Bool × List Int)) × Int × Int × Unit) => g32_L3 m n x.1 x.2.1 x.2.2.1 x.2.2.2.1 x.2.2.2.2.1 x.2.2.2.2.2.1 x.2.2.2.2.2.2.1⟩
theorem g32_L3_ok {E : Entry} (hE : EOf Tryd.prog E 89 g32_H.pins) (m : Nat) (n : Nat) : qy Tryd.prog E g32_B6 ((g32_L3_X m).at n) :=
  lok hmix htt hE (g32_K m) (L := []) (g32_L3_X m) (l := []) (by kernel_rfl) (fun _ _ => trivial) (fun n x => by kernel_rfl) (fun _ => by kernel_rfl) n
def g32_L2_X (m : Nat) : LT := ⟨4,[(0,.a (.c (.imm (.sl false (.pr .bool (.sl false (.int .u32))))))),(3,.a (.c (.int .i64))),(4,.a (.c (.int .i64))),(10,.a (.c (.nm 0 (.pr .bool (.sl false (.int .u32))))))],[(.exit 4,[(0,.a (.c (.imm (.sl false (.pr .bool (.sl false (.int .u32))))))),(3,.a (.c (.int .i64))),(4,.a (.c (.int .i64))),(10,.a (.c (.nm 0 (.pr .bool (.sl false (.int .u32))))))])],fun n (x : (List (List (Bool × List Int))) × Int × Int × (List (Bool × List Int)) × Unit) => g32_L2 m n x.1 x.2.1 x.2.2.1 x.2.2.2.1⟩
theorem g32_L2_ok {E : Entry} (hE : EOf Tryd.prog E 89 g32_H.pins) (m : Nat) (n : Nat) : qy Tryd.prog E g32_B4 ((g32_L2_X m).at n) :=
  lok hmix htt hE (g32_K m) (L := []) (g32_L2_X m) (l := []) (by kernel_rfl) (fun _ _ => trivial) (fun n x => by kernel_rfl) (fun _ => by kernel_rfl) n
def g32_L1_X (m : Nat) : LT := ⟨2,[(0,.a (.c (.imm (.sl false (.pr .bool (.sl false (.int .u32))))))),(3,.a (.c (.int .i64))),(4,.a (.c (.int .i64))),(6,.a (.c (.int .i64))),(20,.a (.c (.imm (.sl false (.pr .bool (.sl false (.int .u32))))))),(21,.a (.c (.int .i64))),(22,.a (.c (.int .i64))),(27,.a (.c (.imm (.pr .bool (.sl false (.int .u32)))))),(28,.a (.c (.int .i64))),(29,.a (.c (.int .i64)))],[(.ret,[(2,.a (.c (.int .i64))),(3,.a (.c (.int .i64))),(4,.a (.c (.int .i64))),(5,.a (.c (.int .i64)))]),(.exit 2,[(0,.a (.c (.imm (.sl false (.pr .bool (.sl false (.int .u32))))))),(3,.a (.c (.int .i64))),(4,.a (.c (.int .i64))),(20,.a (.c (.imm (.sl false (.pr .bool (.sl false (.int .u32))))))),(21,.a (.c (.int .i64))),(22,.a (.c (.int .i64)))])],fun n (x : (List (List (Bool × List Int))) × Int × Int × Int × (List (List (Bool × List Int))) × Int × Int × (List (Bool × List Int)) × Int × Int × Unit) => g32_L1 m n x.1 x.2.1 x.2.2.1 x.2.2.2.1 x.2.2.2.2.1 x.2.2.2.2.2.1 x.2.2.2.2.2.2.1 x.2.2.2.2.2.2.2.1 x.2.2.2.2.2.2.2.2.1 x.2.2.2.2.2.2.2.2.2.1⟩
theorem g32_L1_ok {E : Entry} (hE : EOf Tryd.prog E 89 g32_H.pins) (m : Nat) (n : Nat) : qy Tryd.prog E g32_B2 ((g32_L1_X m).at n) :=
  lok hmix htt hE (g32_K m) (L := []) (g32_L1_X m) (l := []) (by kernel_rfl) (fun _ _ => trivial) (fun n x => by kernel_rfl) (fun _ => by kernel_rfl) n
def g32_L0_X (m : Nat) : LT := ⟨0,[(0,.a (.c (.imm (.sl false (.pr .bool (.sl false (.int .u32))))))),(3,.a (.c (.int .i64))),(4,.a (.c (.int .i64))),(20,.a (.c (.imm (.sl false (.pr .bool (.sl false (.int .u32))))))),(21,.a (.c (.int .i64))),(22,.a (.c (.int .i64)))],[(.ret,[(2,.a (.c (.int .i64))),(3,.a (.c (.int .i64))),(4,.a (.c (.int .i64))),(5,.a (.c (.int .i64)))]),(.exit 0,[(0,.a (.c (.imm (.sl false (.pr .bool (.sl false (.int .u32))))))),(3,.a (.c (.int .i64))),(4,.a (.c (.int .i64)))])],fun n (x : (List (List (Bool × List Int))) × Int × Int × (List (List (Bool × List Int))) × Int × Int × Unit) => g32_L0 m n x.1 x.2.1 x.2.2.1 x.2.2.2.1 x.2.2.2.2.1 x.2.2.2.2.2.1⟩
theorem g32_L0_ok {E : Entry} (hE : EOf Tryd.prog E 89 g32_H.pins) (m : Nat) (n : Nat) : qy Tryd.prog E g32_B0 ((g32_L0_X m).at n) :=
  lok hmix htt hE (g32_K m) (L := [(g32_L1_X m).at m]) (g32_L0_X m) (l := [(2,g32_B2)]) (by kernel_rfl) (fun _ _ => ⟨ql ⟨yb (g32_L1_ok hE m m),trivial⟩,trivial⟩) (fun n x => by kernel_rfl) (fun _ => by kernel_rfl) n
theorem g32_ok (m : Nat) : FunOK Tryd.prog (g32_T m) :=
  fok hmix htt (H := g32_H) (g32_T m) Tryd.func32 (by kernel_rfl) (g32_K m) (L := [(g32_L0_X m).at m,(g32_L2_X m).at m,(g32_L3_X m).at m]) (l := [(0,g32_B0),(4,g32_B4),(6,g32_B6)]) (by kernel_rfl) (fun _ hE _ _ => ⟨ql ⟨yb (g32_L0_ok hE m m),nb rfl,nb rfl,trivial⟩,ql ⟨nb rfl,yb (g32_L2_ok hE m m),nb rfl,trivial⟩,ql ⟨nb rfl,nb rfl,yb (g32_L3_ok hE m m),trivial⟩,trivial⟩) (fun x => by kernel_rfl)
/-! 27 sparse/tridiag.atMost -/
def g27_H : Hints := ⟨[⟨[],[0,1,2]⟩,⟨[],[0,1,2,11]⟩,⟨[(0,1)],[6]⟩,⟨[],[0,1,2,16]⟩,⟨[],[6]⟩,⟨[(0,1),(1,1),(2,1),(6,1)],[7,8]⟩,⟨[(0,1),(1,1)],[6]⟩],[],[(0,[0,1,2])],[6],[],[[false]]⟩
def g27_T (m : Nat) : FunT := ⟨27,[.a (.c (.imm (.int .u64))),.a (.c (.imm (.int .u64))),.a (.c (.int .u64))],.a (.c (.int .i64)),[.a (.c .dead),.a (.c .dead),.a (.c .dead)],fun (x : List Int × List Int × Int × Unit) => g27 m x.1 x.2.1 x.2.2.1⟩
theorem g27_ok (m : Nat) : FunOK Tryd.prog (g27_T m) :=
  fok hmix htt (H := g27_H) (g27_T m) Tryd.func27 (by kernel_rfl) (AllF.mem (l := [g30_T m,g34_T m,g33_T m,g32_T m]) ⟨g30_ok m,g34_ok m,g33_ok m,g32_ok m,trivial⟩) (L := []) (l := []) (by kernel_rfl) (fun _ hE _ _ => trivial) (fun x => by kernel_rfl)
/-! 20 sparse/tridiag.AtMost -/
def g20_H : Hints := ⟨[⟨[],[0,1,2]⟩,⟨[],[0,1,2,8]⟩,⟨[],[0,1,2,8,13]⟩,⟨[(0,1)],[6,7]⟩,⟨[],[0,1,2,17]⟩,⟨[],[6,7]⟩,⟨[(0,1),(1,1),(2,1)],[6,7]⟩],[],[],[6,7],[],[[false],[false]]⟩
def g20_T (m : Nat) : FunT := ⟨20,[.a (.c (.imm (.int .u64))),.a (.c (.imm (.int .u64))),.a (.c (.int .u64))],.tup [(.c (.int .i64)),(.c (.int .i64))],[.a (.c .dead),.a (.c .dead),.a (.c .dead)],fun (x : List Int × List Int × Int × Unit) => g20 m x.1 x.2.1 x.2.2.1⟩
theorem g20_ok (m : Nat) : FunOK Tryd.prog (g20_T m) :=
  fok hmix htt (H := g20_H) (g20_T m) Tryd.func20 (by kernel_rfl) (AllF.mem (l := [g26_T m,g14_T m,g27_T m]) ⟨g26_ok m,g14_ok m,g27_ok m,trivial⟩) (L := []) (l := []) (by kernel_rfl) (fun _ hE _ _ => trivial) (fun x => by kernel_rfl)
/-! 12 sparse/sparselaw37.awake -/
def sparselaw37_awake_H : Hints := ⟨[⟨[],[]⟩,⟨[],[1,2]⟩,⟨[(4,1)],[1,2,3,4]⟩,⟨[(3,1)],[1,2,3,4,5,6]⟩,⟨[(0,1),(1,1),(3,1)],[3,4,5,6,7,8]⟩,⟨[(0,1),(2,1),(3,1),(6,1),(7,1),(10,1),(11,1),(14,1),(15,1),(18,1),(19,1)],[0]⟩],[],[],[0],[],[[false]]⟩
abbrev sparselaw37_awake_A : List Sh := []
abbrev sparselaw37_awake_S : Sh := .a (.c .bool)
abbrev sparselaw37_awake_U : List Sh := []
def sparselaw37_awake_R (m : Nat) : Qk sparselaw37_awake_A → Option (sparselaw37_awake_S.Val × Qk sparselaw37_awake_U) := fun (x : Unit) => sparselaw37_awake m
def sparselaw37_awake_T (m : Nat) : FunT := ⟨12,sparselaw37_awake_A,sparselaw37_awake_S,sparselaw37_awake_U,sparselaw37_awake_R m⟩
theorem sparselaw37_awake_ok (m : Nat) : FunOK Tryd.prog (sparselaw37_awake_T m) :=
  fok hmix htt (H := sparselaw37_awake_H) (sparselaw37_awake_T m) Tryd.func12 (by kernel_rfl) (AllF.mem (l := [g21_T m,g20_T m]) ⟨g21_ok m,g20_ok m,trivial⟩) (L := []) (l := []) (by kernel_rfl) (fun _ hE _ _ => trivial) (fun x => by kernel_rfl)
/-! 28 sparse/sparseref03.Minus -/
def g28_H : Hints := ⟨[⟨[],[0]⟩,⟨[(0,1)],[2]⟩],[],[],[2],[],[[false]]⟩
def g28_T (m : Nat) : FunT := ⟨28,[.a (.c (.int .u64))],.a (.c .bool),[.a (.c .dead)],fun (x : Int × Unit) => g28 m x.1⟩
theorem g28_ok (m : Nat) : FunOK Tryd.prog (g28_T m) :=
  fok hmix htt (H := g28_H) (g28_T m) Tryd.func28 (by kernel_rfl) noF (L := []) (l := []) (by kernel_rfl) (fun _ hE _ _ => trivial) (fun x => by kernel_rfl)
/-! 23 sparse/sparseref03.key -/
def g23_H : Hints := ⟨[⟨[],[0]⟩,⟨[],[0,4]⟩,⟨[(0,1)],[2]⟩,⟨[(0,1)],[2]⟩],[],[],[2],[],[[false]]⟩
def g23_T (m : Nat) : FunT := ⟨23,[.a (.c (.int .u64))],.a (.c (.int .i64)),[.a (.c .dead)],fun (x : Int × Unit) => g23 m x.1⟩
theorem g23_ok (m : Nat) : FunOK Tryd.prog (g23_T m) :=
  fok hmix htt (H := g23_H) (g23_T m) Tryd.func23 (by kernel_rfl) (AllF.mem (l := [g28_T m]) ⟨g28_ok m,trivial⟩) (L := []) (l := []) (by kernel_rfl) (fun _ hE _ _ => trivial) (fun x => by kernel_rfl)
/-! 13 sparse/sparseref03.Cmp -/
def g13_H : Hints := ⟨[⟨[],[0,1]⟩,⟨[(2,1)],[0,1,11]⟩,⟨[],[4,5]⟩,⟨[],[0,1,12]⟩,⟨[],[4,5]⟩,⟨[(0,1),(2,1)],[18]⟩,⟨[],[4,5]⟩,⟨[],[4,5]⟩],[],[(0,[])],[4,5],[],[[false],[false]]⟩
def g13_T (m : Nat) : FunT := ⟨13,[.a (.c (.int .u64)),.a (.c (.int .u64))],.tup [(.c (.int .i64)),(.c .bool)],[.a (.c .dead),.a (.c .dead)],fun (x : Int × Int × Unit) => g13 m x.1 x.2.1⟩
theorem g13_ok (m : Nat) : FunOK Tryd.prog (g13_T m) :=
  fok hmix htt (H := g13_H) (g13_T m) Tryd.func13 (by kernel_rfl) (AllF.mem (l := [g22_T m,g23_T m]) ⟨g22_ok m,g23_ok m,trivial⟩) (L := []) (l := []) (by kernel_rfl) (fun _ hE _ _ => trivial) (fun x => by kernel_rfl)
/-! 3 sparse/sparselaw37.TridiagKeys -/
/-! 4 sparse/sparselaw37.TridiagOrder -/
def sparselaw37_TridiagOrder_H : Hints := ⟨[⟨[],[0,1]⟩,⟨[(0,1),(1,1)],[5,6]⟩,⟨[(2,1)],[5,6,7,8]⟩,⟨[(2,1)],[5,6,7,8,9,10]⟩,⟨[(3,1)],[5,6,7,8,9,10,11,12]⟩,⟨[(2,1),(6,1)],[5,6,7,8,9,10,11,12,46]⟩,⟨[(0,1),(1,1),(2,1),(4,1),(6,1)],[4]⟩,⟨[(2,1),(7,1),(10,1),(16,1),(19,1)],[5,6,80]⟩,⟨[],[4]⟩,⟨[(3,1)],[5,6,13,14]⟩,⟨[(1,1),(3,1)],[6,13,14,15]⟩,⟨[(0,1),(1,1),(3,1)],[14,15,17]⟩,⟨[(0,1),(1,1),(4,1),(8,1),(11,1),(17,1)],[4]⟩],[],[],[4],[],[[false]]⟩
abbrev sparselaw37_TridiagOrder_A : List Sh := [.a (.c (.int .u64)),.a (.c (.int .u64))]
abbrev sparselaw37_TridiagOrder_S : Sh := .a (.c .bool)
abbrev sparselaw37_TridiagOrder_U : List Sh := [.a (.c .dead),.a (.c .dead)]
def sparselaw37_TridiagOrder_R (m : Nat) : Qk sparselaw37_TridiagOrder_A → Option (sparselaw37_TridiagOrder_S.Val × Qk sparselaw37_TridiagOrder_U) := fun (x : Int × Int × Unit) => sparselaw37_TridiagOrder m x.1 x.2.1
def sparselaw37_TridiagOrder_T (m : Nat) : FunT := ⟨4,sparselaw37_TridiagOrder_A,sparselaw37_TridiagOrder_S,sparselaw37_TridiagOrder_U,sparselaw37_TridiagOrder_R m⟩
theorem sparselaw37_TridiagOrder_ok (m : Nat) : FunOK Tryd.prog (sparselaw37_TridiagOrder_T m) :=
  fok hmix htt (H := sparselaw37_TridiagOrder_H) (sparselaw37_TridiagOrder_T m) Tryd.func4 (by kernel_rfl) (AllF.mem (l := [g6_T m,g13_T m,sparselaw37_awake_T m,g10_T m]) ⟨g6_ok m,g13_ok m,sparselaw37_awake_ok m,g10_ok m,trivial⟩) (L := []) (l := []) (by kernel_rfl) (fun _ hE _ _ => trivial) (fun x => by kernel_rfl)
end Go.Vs.F
