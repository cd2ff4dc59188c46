/- The plain functions are what the code does (by program: gen.py). -/
import Derived.Test.YtjjndhlkoehkdaaGreatDoorOka

/-! MxOk2 -/
set_option linter.unusedVariables false
set_option maxRecDepth 100000
namespace Go.Vs.F
open Go.Proofs
/-! 163 sparse/sparseref01.addMag -/
def g163_H : Hints := ⟨[⟨[],[0,1]⟩,⟨[],[0,1,5]⟩,⟨[],[0,1,5,6]⟩,⟨[],[0,1,5,6,7]⟩,⟨[],[0,1,5,6,7,14]⟩,⟨[(0,1)],[0,1,5,6,7]⟩,⟨[],[0,1,5,6,7,20]⟩,⟨[(0,1)],[0,1,5,6,7]⟩,⟨[],[0,1,5,6,7,31]⟩,⟨[(0,1)],[0,1,5,6,7]⟩,⟨[(0,1)],[0,1,5,6,7]⟩,⟨[(0,1)],[0,1,5,6,7]⟩,⟨[(0,1),(1,1)],[4]⟩],[(0,[0,1,5,6,7])],[(0,[5,6]),(1,[0,1,5,6,7])],[4],[],[[true]]⟩
def g163_T (m : Nat) : FunT := ⟨163,[.a (.c (.imm (.int .u32))),.a (.c (.imm (.int .u32)))],.a (.c (.nm 0 (.int .u32))),[.a (.c .dead),.a (.c .dead)],fun (x : List Int × List Int × Unit) => g163 m x.1 x.2.1⟩
noncomputable def g163_C : Code := codeOf Tryz.f163
noncomputable def g163_B0 : Code := qo g163_C 0 0
def g163_L0_X (m : Nat) : LT := ⟨0,[(0,.a (.c (.imm (.int .u32)))),(1,.a (.c (.imm (.int .u32)))),(5,.a (.c (.nm 0 (.int .u32)))),(6,.a (.c (.int .u64))),(7,.a (.c (.int .i64)))],[(.exit 0,[(5,.a (.c (.nm 0 (.int .u32)))),(6,.a (.c (.int .u64)))])],fun n (x : List Int × List Int × List Int × Int × Int × Unit) => g163_L0 m n x.1 x.2.1 x.2.2.1 x.2.2.2.1 x.2.2.2.2.1⟩
theorem g163_L0_ok {E : Entry} (hE : EOf Tryz.prog E 51 g163_H.pins) (m : Nat) (n : Nat) : qm Tryz.prog E g163_B0 ((g163_L0_X m).at n) :=
  lok hmix htt hE noF (L := []) (g163_L0_X m) (l := []) (by kernel_rfl) (fun _ _ => trivial) (fun n x => by kernel_rfl) (fun _ => by kernel_rfl) n
theorem g163_ok (m : Nat) : FunOK Tryz.prog (g163_T m) :=
  fok hmix htt (H := g163_H) (g163_T m) Tryz.func163 (by kernel_rfl) noF (L := [(g163_L0_X m).at m]) (l := [(0,g163_B0)]) (by kernel_rfl) (fun _ hE _ _ => ⟨qh ⟨yb (g163_L0_ok hE m m),trivial⟩,trivial⟩) (fun x => by kernel_rfl)
/-! 164 sparse/sparseref01.cmpMag -/
def g164_H : Hints := ⟨[⟨[],[0,1]⟩,⟨[],[0,1,10]⟩,⟨[(0,1),(2,1)],[15]⟩,⟨[],[4]⟩,⟨[],[4]⟩,⟨[],[0,1,5]⟩,⟨[],[0,1,5,20]⟩,⟨[(0,1)],[0,1,5]⟩,⟨[],[0,1,5,31]⟩,⟨[(0,1),(4,1)],[40]⟩,⟨[],[4]⟩,⟨[],[4]⟩,⟨[],[4]⟩],[(0,[0,1,5])],[(0,[]),(1,[0,1,5])],[4],[],[[false]]⟩
def g164_T (m : Nat) : FunT := ⟨164,[.a (.c (.imm (.int .u32))),.a (.c (.imm (.int .u32)))],.a (.c (.int .i64)),[.a (.c .dead),.a (.c .dead)],fun (x : List Int × List Int × Unit) => g164 m x.1 x.2.1⟩
noncomputable def g164_C : Code := codeOf Tryz.f164
noncomputable def g164_B0 : Code := qo g164_C 0 0
def g164_L0_X (m : Nat) : LT := ⟨0,[(0,.a (.c (.imm (.int .u32)))),(1,.a (.c (.imm (.int .u32)))),(5,.a (.c (.int .i64)))],[(.ret,[(4,.a (.c (.int .i64)))]),(.exit 0,[])],fun n (x : List Int × List Int × Int × Unit) => g164_L0 m n x.1 x.2.1 x.2.2.1⟩
theorem g164_L0_ok {E : Entry} (hE : EOf Tryz.prog E 41 g164_H.pins) (m : Nat) (n : Nat) : qm Tryz.prog E g164_B0 ((g164_L0_X m).at n) :=
  lok hmix htt hE noF (L := []) (g164_L0_X m) (l := []) (by kernel_rfl) (fun _ _ => trivial) (fun n x => by kernel_rfl) (fun _ => by kernel_rfl) n
theorem g164_ok (m : Nat) : FunOK Tryz.prog (g164_T m) :=
  fok hmix htt (H := g164_H) (g164_T m) Tryz.func164 (by kernel_rfl) noF (L := [(g164_L0_X m).at m]) (l := [(0,g164_B0)]) (by kernel_rfl) (fun _ hE _ _ => ⟨qh ⟨yb (g164_L0_ok hE m m),trivial⟩,trivial⟩) (fun x => by kernel_rfl)
/-! 165 sparse/sparseref01.subMag -/
def g165_H : Hints := ⟨[⟨[],[0,1]⟩,⟨[],[0,1,5]⟩,⟨[],[0,1,5,6]⟩,⟨[],[0,1,5,6,7]⟩,⟨[],[0,1,5,6,7,12]⟩,⟨[(0,1)],[0,1,5,6,7]⟩,⟨[(5,1)],[0,1,5,7,8]⟩,⟨[],[0,1,5,7,8,25]⟩,⟨[(0,1)],[0,1,5,7,8]⟩,⟨[(0,1)],[0,1,5,7,8]⟩,⟨[(0,1)],[0,1,5,6,7]⟩,⟨[(0,1)],[4]⟩],[(0,[0,1,5,6,7])],[(0,[5]),(1,[0,1,5,6,7])],[4],[],[[true]]⟩
def g165_T (m : Nat) : FunT := ⟨165,[.a (.c (.imm (.int .u32))),.a (.c (.imm (.int .u32)))],.a (.c (.nm 0 (.int .u32))),[.a (.c .dead),.a (.c .dead)],fun (x : List Int × List Int × Unit) => g165 m x.1 x.2.1⟩
noncomputable def g165_C : Code := codeOf Tryz.f165
noncomputable def g165_B0 : Code := qo g165_C 0 0
def g165_L0_X (m : Nat) : LT := ⟨0,[(0,.a (.c (.imm (.int .u32)))),(1,.a (.c (.imm (.int .u32)))),(5,.a (.c (.nm 0 (.int .u32)))),(6,.a (.c (.int .u64))),(7,.a (.c (.int .i64)))],[(.exit 0,[(5,.a (.c (.nm 0 (.int .u32))))])],fun n (x : List Int × List Int × List Int × Int × Int × Unit) => g165_L0 m n x.1 x.2.1 x.2.2.1 x.2.2.2.1 x.2.2.2.2.1⟩
theorem g165_L0_ok {E : Entry} (hE : EOf Tryz.prog E 41 g165_H.pins) (m : Nat) (n : Nat) : qm Tryz.prog E g165_B0 ((g165_L0_X m).at n) :=
  lok hmix htt hE noF (L := []) (g165_L0_X m) (l := []) (by kernel_rfl) (fun _ _ => trivial) (fun n x => by kernel_rfl) (fun _ => by kernel_rfl) n
theorem g165_ok (m : Nat) : FunOK Tryz.prog (g165_T m) :=
  fok hmix htt (H := g165_H) (g165_T m) Tryz.func165 (by kernel_rfl) noF (L := [(g165_L0_X m).at m]) (l := [(0,g165_B0)]) (by kernel_rfl) (fun _ hE _ _ => ⟨qh ⟨yb (g165_L0_ok hE m m),trivial⟩,trivial⟩) (fun x => by kernel_rfl)
/-! 113 sparse/sparseref01.Add -/
def g113_H : Hints := ⟨[⟨[],[2,3,4]⟩,⟨[],[2,3,4,5,6]⟩,⟨[],[2,3,4,5,6,17]⟩,⟨[(2,1),(3,1)],[4]⟩,⟨[],[2,3,4,5,6,27]⟩,⟨[(2,1),(3,1)],[4]⟩,⟨[(2,1),(3,1)],[4]⟩],[],[],[4],[],[[false,true]]⟩
def g113_T (m : Nat) : FunT := ⟨113,[.a (.agg [.bool,(.imm (.int .u32))]),.a (.agg [.bool,(.imm (.int .u32))])],.a (.agg [.bool,(.nm 0 (.int .u32))]),[.a (.c .dead),.a (.c .dead)],fun (x : (Bool × List Int × Unit) × (Bool × List Int × Unit) × Unit) => g113 m x.1.1 x.1.2.1 x.2.1.1 x.2.1.2.1⟩
theorem g113_ok (m : Nat) : FunOK Tryz.prog (g113_T m) :=
  fok hmix htt (H := g113_H) (g113_T m) Tryz.func113 (by kernel_rfl) (AllF.mem (l := [g162_T m,g163_T m,g153_T m,g164_T m,g165_T m]) ⟨g162_ok m,g163_ok m,g153_ok m,g164_ok m,g165_ok m,trivial⟩) (L := []) (l := []) (by kernel_rfl) (fun _ hE _ _ => trivial) (fun x => by kernel_rfl)
/-! 156 sparse/sparseref01.Sub -/
def g156_H : Hints := ⟨[⟨[],[2,3,4]⟩,⟨[],[4]⟩],[],[],[4],[],[[false,true]]⟩
def g156_T (m : Nat) : FunT := ⟨156,[.a (.agg [.bool,(.imm (.int .u32))]),.a (.agg [.bool,(.imm (.int .u32))])],.a (.agg [.bool,(.nm 0 (.int .u32))]),[.a (.c .dead),.a (.c .dead)],fun (x : (Bool × List Int × Unit) × (Bool × List Int × Unit) × Unit) => g156 m x.1.1 x.1.2.1 x.2.1.1 x.2.1.2.1⟩
theorem g156_ok (m : Nat) : FunOK Tryz.prog (g156_T m) :=
  fok hmix htt (H := g156_H) (g156_T m) Tryz.func156 (by kernel_rfl) (AllF.mem (l := [g152_T m,g113_T m]) ⟨g152_ok m,g113_ok m,trivial⟩) (L := []) (l := []) (by kernel_rfl) (fun _ hE _ _ => trivial) (fun x => by kernel_rfl)
/-! 101 sparse/sparseref01.Shift -/
def g101_H : Hints := ⟨[⟨[],[1,2,4]⟩,⟨[],[1,2,4]⟩,⟨[],[1,2,4,11]⟩,⟨[(4,1)],[4]⟩,⟨[(2,1),(5,1)],[2,4,5,6]⟩,⟨[(2,1)],[2,4,6,7]⟩,⟨[(2,1),(3,1)],[4,7,35]⟩,⟨[],[4,7]⟩,⟨[(0,1)],[4]⟩],[],[],[4],[],[[false,true]]⟩
def g101_T (m : Nat) : FunT := ⟨101,[.a (.agg [.bool,(.imm (.int .u32))]),.a (.c (.int .i64))],.a (.agg [.bool,(.nm 0 (.int .u32))]),[.a (.c .dead),.a (.c .dead)],fun (x : (Bool × List Int × Unit) × Int × Unit) => g101 m x.1.1 x.1.2.1 x.2.1⟩
theorem g101_ok (m : Nat) : FunOK Tryz.prog (g101_T m) :=
  fok hmix htt (H := g101_H) (g101_T m) Tryz.func101 (by kernel_rfl) (AllF.mem (l := [g147_T m,g154_T m,g153_T m,g155_T m,g114_T m,g156_T m]) ⟨g147_ok m,g154_ok m,g153_ok m,g155_ok m,g114_ok m,g156_ok m,trivial⟩) (L := []) (l := []) (by kernel_rfl) (fun _ hE _ _ => trivial) (fun x => by kernel_rfl)
/-! 149 sparse/sparseref02.down -/
def g149_H : Hints := ⟨[⟨[(1,2)],[1,2,4]⟩,⟨[],[1,2,4,6]⟩,⟨[(2,2)],[1,2,4]⟩,⟨[(0,1)],[1,2,4]⟩,⟨[(1,1)],[4]⟩],[(0,[1,2,4])],[(0,[1,2,4]),(1,[1,2,4])],[4],[],[[false,true]]⟩
def g149_T (m : Nat) : FunT := ⟨149,[.a (.agg [.bool,(.imm (.int .u32))]),.a (.c (.int .i64))],.a (.agg [.bool,(.nm 0 (.int .u32))]),[.a (.c .dead),.a (.c .dead)],fun (x : (Bool × List Int × Unit) × Int × Unit) => g149 m x.1.1 x.1.2.1 x.2.1⟩
noncomputable def g149_C : Code := codeOf Tryz.f149
noncomputable def g149_B0 : Code := qo g149_C 0 0
theorem g149_K (m : Nat) : ∀ u ∈ [g101_T m],FunOK Tryz.prog u := AllF.mem ⟨g101_ok m,trivial⟩
def g149_L0_X (m : Nat) : LT := ⟨0,[(1,.a (.c (.int .i64))),(2,.a (.bx 0 [.bool,(.imm (.int .u32))])),(4,.a (.bx 1 [.bool,(.imm (.int .u32))]))],[(.exit 0,[(1,.a (.c (.int .i64))),(2,.a (.bx 0 [.bool,(.imm (.int .u32))])),(4,.a (.bx 1 [.bool,(.imm (.int .u32))]))])],fun n (x : Int × (Bool × List Int × Unit) × (Bool × List Int × Unit) × Unit) => g149_L0 m n x.1 x.2.1.1 x.2.1.2.1 x.2.2.1.1 x.2.2.1.2.1⟩
theorem g149_L0_ok {E : Entry} (hE : EOf Tryz.prog E 15 g149_H.pins) (m : Nat) (n : Nat) : qm Tryz.prog E g149_B0 ((g149_L0_X m).at n) :=
  lok hmix htt hE (g149_K m) (L := []) (g149_L0_X m) (l := []) (by kernel_rfl) (fun _ _ => trivial) (fun n x => by kernel_rfl) (fun _ => by kernel_rfl) n
theorem g149_ok (m : Nat) : FunOK Tryz.prog (g149_T m) :=
  fok hmix htt (H := g149_H) (g149_T m) Tryz.func149 (by kernel_rfl) (g149_K m) (L := [(g149_L0_X m).at m]) (l := [(0,g149_B0)]) (by kernel_rfl) (fun _ hE _ _ => ⟨qh ⟨yb (g149_L0_ok hE m m),trivial⟩,trivial⟩) (fun x => by kernel_rfl)
/-! 150 sparse/sparseref01.BitLen -/
def g150_H : Hints := ⟨[⟨[],[1]⟩,⟨[],[3]⟩,⟨[],[3,9]⟩,⟨[],[2]⟩,⟨[],[2]⟩],[],[],[2],[],[[false]]⟩
def g150_T (m : Nat) : FunT := ⟨150,[.a (.agg [.bool,(.imm (.int .u32))])],.a (.c (.int .i64)),[.a (.c .dead)],fun (x : (Bool × List Int × Unit) × Unit) => g150 m x.1.1 x.1.2.1⟩
theorem g150_ok (m : Nat) : FunOK Tryz.prog (g150_T m) :=
  fok hmix htt (H := g150_H) (g150_T m) Tryz.func150 (by kernel_rfl) (AllF.mem (l := [g162_T m,g190_T m]) ⟨g162_ok m,g190_ok m,trivial⟩) (L := []) (l := []) (by kernel_rfl) (fun _ hE _ _ => trivial) (fun x => by kernel_rfl)
/-! 94 sparse/sparseref02.Make -/
def g94_H : Hints := ⟨[⟨[],[1,2,4]⟩,⟨[],[1,2,4,5]⟩,⟨[],[1,2,4,5,13]⟩,⟨[],[4]⟩,⟨[],[1,2,4,5,16]⟩,⟨[],[4]⟩,⟨[],[1,2,4,5,6]⟩,⟨[(0,1)],[2,4,5,6,7]⟩,⟨[],[2,4,5,6,7]⟩,⟨[(1,1)],[2,4,5,7]⟩,⟨[(2,1)],[2,4,5,7,36]⟩,⟨[],[4]⟩,⟨[],[4,5,7]⟩,⟨[(0,1),(1,1)],[4]⟩],[],[],[4],[],[[false,false,true,false]]⟩
def g94_T (m : Nat) : FunT := ⟨94,[.a (.agg [.bool,(.imm (.int .u32))]),.a (.c (.int .i64))],.a (.agg [.bool,.bool,(.nm 0 (.int .u32)),(.int .i64)]),[.a (.c .dead),.a (.c .dead)],fun (x : (Bool × List Int × Unit) × Int × Unit) => g94 m x.1.1 x.1.2.1 x.2.1⟩
theorem g94_ok (m : Nat) : FunOK Tryz.prog (g94_T m) :=
  fok hmix htt (H := g94_H) (g94_T m) Tryz.func94 (by kernel_rfl) (AllF.mem (l := [g147_T m,g93_T m,g148_T m,g131_T m,g149_T m,g150_T m]) ⟨g147_ok m,g93_ok m,g148_ok m,g131_ok m,g149_ok m,g150_ok m,trivial⟩) (L := []) (l := []) (by kernel_rfl) (fun _ hE _ _ => trivial) (fun x => by kernel_rfl)
/-! 89 sparse/sparseref02.FromInt -/
def g89_H : Hints := ⟨[⟨[],[0,2]⟩,⟨[(0,1)],[2]⟩],[],[],[2],[],[[false,false,true,false]]⟩
def g89_T (m : Nat) : FunT := ⟨89,[.a (.c (.int .i64))],.a (.agg [.bool,.bool,(.nm 0 (.int .u32)),(.int .i64)]),[.a (.c .dead)],fun (x : Int × Unit) => g89 m x.1⟩
theorem g89_ok (m : Nat) : FunOK Tryz.prog (g89_T m) :=
  fok hmix htt (H := g89_H) (g89_T m) Tryz.func89 (by kernel_rfl) (AllF.mem (l := [g114_T m,g94_T m]) ⟨g114_ok m,g94_ok m,trivial⟩) (L := []) (l := []) (by kernel_rfl) (fun _ hE _ _ => trivial) (fun x => by kernel_rfl)
/-! 128 sparse/sparseref02.Norm -/
def g128_H : Hints := ⟨[⟨[],[1,2]⟩,⟨[],[1,2,4]⟩,⟨[],[2]⟩,⟨[],[2]⟩],[],[],[2],[],[[false,false,true,false]]⟩
def g128_T (m : Nat) : FunT := ⟨128,[.a (.agg [.bool,.bool,(.imm (.int .u32)),(.int .i64)])],.a (.agg [.bool,.bool,(.nm 0 (.int .u32)),(.int .i64)]),[.a (.c .dead)],fun (x : (Bool × Bool × List Int × Int × Unit) × Unit) => g128 m x.1.1 x.1.2.1 x.1.2.2.1 x.1.2.2.2.1⟩
theorem g128_ok (m : Nat) : FunOK Tryz.prog (g128_T m) :=
  fok hmix htt (H := g128_H) (g128_T m) Tryz.func128 (by kernel_rfl) (AllF.mem (l := [g93_T m,g94_T m]) ⟨g93_ok m,g94_ok m,trivial⟩) (L := []) (l := []) (by kernel_rfl) (fun _ hE _ _ => trivial) (fun x => by kernel_rfl)
/-! 129 sparse/sparseref01.Sign -/
def g129_H : Hints := ⟨[⟨[],[1]⟩,⟨[],[1]⟩,⟨[],[1,5]⟩,⟨[],[2]⟩,⟨[],[10]⟩,⟨[],[2]⟩,⟨[],[2]⟩],[],[(0,[])],[2],[],[[false]]⟩
def g129_T (m : Nat) : FunT := ⟨129,[.a (.agg [.bool,(.imm (.int .u32))])],.a (.c (.int .i64)),[.a (.c .dead)],fun (x : (Bool × List Int × Unit) × Unit) => g129 m x.1.1 x.1.2.1⟩
theorem g129_ok (m : Nat) : FunOK Tryz.prog (g129_T m) :=
  fok hmix htt (H := g129_H) (g129_T m) Tryz.func129 (by kernel_rfl) (AllF.mem (l := [g147_T m]) ⟨g147_ok m,trivial⟩) (L := []) (l := []) (by kernel_rfl) (fun _ hE _ _ => trivial) (fun x => by kernel_rfl)
/-! 88 sparse/sparseref02.Scale -/
def g88_H : Hints := ⟨[⟨[],[1,2,4]⟩,⟨[],[1,2,4]⟩,⟨[(2,1)],[1,2,4,14]⟩,⟨[(0,1)],[4]⟩,⟨[(2,1)],[1,2,4,21]⟩,⟨[],[4]⟩,⟨[(4,1)],[4]⟩],[],[],[4],[],[[false,false,true,false]]⟩
def g88_T (m : Nat) : FunT := ⟨88,[.a (.agg [.bool,.bool,(.imm (.int .u32)),(.int .i64)]),.a (.c (.int .i64))],.a (.agg [.bool,.bool,(.nm 0 (.int .u32)),(.int .i64)]),[.a (.c .dead),.a (.c .dead)],fun (x : (Bool × Bool × List Int × Int × Unit) × Int × Unit) => g88 m x.1.1 x.1.2.1 x.1.2.2.1 x.1.2.2.2.1 x.2.1⟩
theorem g88_ok (m : Nat) : FunOK Tryz.prog (g88_T m) :=
  fok hmix htt (H := g88_H) (g88_T m) Tryz.func88 (by kernel_rfl) (AllF.mem (l := [g128_T m,g129_T m,g93_T m,g94_T m]) ⟨g128_ok m,g129_ok m,g93_ok m,g94_ok m,trivial⟩) (L := []) (l := []) (by kernel_rfl) (fun _ hE _ _ => trivial) (fun x => by kernel_rfl)
/-! 179 sparse/sparseref03.signed -/
def g179_H : Hints := ⟨[⟨[],[0,1]⟩,⟨[(0,1)],[1,5]⟩,⟨[(0,1)],[4]⟩,⟨[(0,1)],[4]⟩],[],[],[4],[],[[false]]⟩
def g179_T (m : Nat) : FunT := ⟨179,[.a (.c .bool),.a (.c (.int .u64))],.a (.c (.int .u64)),[.a (.c .dead),.a (.c .dead)],fun (x : Bool × Int × Unit) => g179 m x.1 x.2.1⟩
theorem g179_ok (m : Nat) : FunOK Tryz.prog (g179_T m) :=
  fok hmix htt (H := g179_H) (g179_T m) Tryz.func179 (by kernel_rfl) noF (L := []) (l := []) (by kernel_rfl) (fun _ hE _ _ => trivial) (fun x => by kernel_rfl)
/-! 177 sparse/sparseref03.over -/
def g177_H : Hints := ⟨[⟨[],[0,1]⟩,⟨[(2,1),(5,1),(10,1),(13,1)],[0,21]⟩,⟨[(0,1)],[4]⟩,⟨[(0,1)],[4]⟩],[],[],[4],[],[[false]]⟩
def g177_T (m : Nat) : FunT := ⟨177,[.a (.c .bool),.a (.c (.int .i64))],.a (.c (.int .u64)),[.a (.c .dead),.a (.c .dead)],fun (x : Bool × Int × Unit) => g177 m x.1 x.2.1⟩
theorem g177_ok (m : Nat) : FunOK Tryz.prog (g177_T m) :=
  fok hmix htt (H := g177_H) (g177_T m) Tryz.func177 (by kernel_rfl) (AllF.mem (l := [g179_T m]) ⟨g179_ok m,trivial⟩) (L := []) (l := []) (by kernel_rfl) (fun _ hE _ _ => trivial) (fun x => by kernel_rfl)
/-! 196 sparse/sparseref01.Lost -/
def g196_H : Hints := ⟨[⟨[],[1,2]⟩,⟨[(3,1),(5,1)],[6]⟩,⟨[(0,1)],[4]⟩],[],[],[4],[],[[false]]⟩
def g196_T (m : Nat) : FunT := ⟨196,[.a (.agg [.bool,(.imm (.int .u32))]),.a (.c (.int .i64))],.a (.c .bool),[.a (.c .dead),.a (.c .dead)],fun (x : (Bool × List Int × Unit) × Int × Unit) => g196 m x.1.1 x.1.2.1 x.2.1⟩
theorem g196_ok (m : Nat) : FunOK Tryz.prog (g196_T m) :=
  fok hmix htt (H := g196_H) (g196_T m) Tryz.func196 (by kernel_rfl) (AllF.mem (l := [g162_T m,g155_T m]) ⟨g162_ok m,g155_ok m,trivial⟩) (L := []) (l := []) (by kernel_rfl) (fun _ hE _ _ => trivial) (fun x => by kernel_rfl)
/-! 197 sparse/sparseref02.Up -/
def g197_H : Hints := ⟨[⟨[],[0,1,2,3]⟩,⟨[(0,1)],[0,1,2,9]⟩,⟨[],[0,1,2,9,10]⟩,⟨[(0,1)],[8]⟩,⟨[],[0,1,2,9,13]⟩,⟨[(0,1)],[8]⟩,⟨[],[1,2,17]⟩,⟨[],[8]⟩,⟨[(2,1),(5,1),(6,1)],[8]⟩],[],[(0,[1,2])],[8],[],[[false]]⟩
def g197_T (m : Nat) : FunT := ⟨197,[.a (.c .bool),.a (.c (.int .i64)),.a (.c .bool),.a (.c (.int .i64))],.a (.c .bool),[.a (.c .dead),.a (.c .dead),.a (.c .dead),.a (.c .dead)],fun (x : Bool × Int × Bool × Int × Unit) => g197 m x.1 x.2.1 x.2.2.1 x.2.2.2.1⟩
theorem g197_ok (m : Nat) : FunOK Tryz.prog (g197_T m) :=
  fok hmix htt (H := g197_H) (g197_T m) Tryz.func197 (by kernel_rfl) noF (L := []) (l := []) (by kernel_rfl) (fun _ hE _ _ => trivial) (fun x => by kernel_rfl)
/-! 178 sparse/sparseref02.Cut -/
def g178_H : Hints := ⟨[⟨[],[0,2,3,4,6,10]⟩,⟨[],[0,2,3,4,6,10,11]⟩,⟨[],[0,2,3,4,6,10,11,12]⟩,⟨[(0,1),(2,1)],[0,2,3,4,6,10,11,27]⟩,⟨[(0,1)],[10]⟩,⟨[],[0,2,3,4,6,10,11,13]⟩,⟨[],[0,2,3,4,6,10,11,13,30]⟩,⟨[],[0,2,3,4,6,10,11,13,14]⟩,⟨[(3,1)],[0,2,3,4,6,10,11,13,42]⟩,⟨[],[0,2,3,4,6,10,11,13]⟩,⟨[(0,1),(1,1),(3,1)],[0,4,10,11,13,49]⟩,⟨[],[0,4,10,11,13]⟩,⟨[(3,1)],[0,4,10,11,13,15]⟩,⟨[(0,1),(1,1),(2,1),(3,1)],[10,11,62]⟩,⟨[],[10,11]⟩,⟨[(0,1)],[10]⟩],[],[],[10],[],[[false,true]]⟩
def g178_T (m : Nat) : FunT := ⟨178,[.a (.c .bool),.a (.agg [.bool,(.imm (.int .u32))]),.a (.c (.int .i64)),.a (.c .bool),.a (.c (.int .i64))],.a (.agg [.bool,(.nm 0 (.int .u32))]),[.a (.c .dead),.a (.c .dead),.a (.c .dead),.a (.c .dead),.a (.c .dead)],fun (x : Bool × (Bool × List Int × Unit) × Int × Bool × Int × Unit) => g178 m x.1 x.2.1.1 x.2.1.2.1 x.2.2.1 x.2.2.2.1 x.2.2.2.2.1⟩
theorem g178_ok (m : Nat) : FunOK Tryz.prog (g178_T m) :=
  fok hmix htt (H := g178_H) (g178_T m) Tryz.func178 (by kernel_rfl) (AllF.mem (l := [g149_T m,g196_T m,g148_T m,g129_T m,g197_T m,g114_T m,g113_T m]) ⟨g149_ok m,g196_ok m,g148_ok m,g129_ok m,g197_ok m,g114_ok m,g113_ok m,trivial⟩) (L := []) (l := []) (by kernel_rfl) (fun _ hE _ _ => trivial) (fun x => by kernel_rfl)
/-! 112 sparse/sparseref01.Int -/
def g112_H : Hints := ⟨[⟨[],[1]⟩,⟨[],[1]⟩,⟨[],[1,11]⟩,⟨[],[2,3]⟩,⟨[],[1,4]⟩,⟨[],[1,4,5]⟩,⟨[],[1,4,5,16]⟩,⟨[(0,1)],[1,4,5]⟩,⟨[(0,1)],[1,4,5]⟩,⟨[],[4,31]⟩,⟨[],[4,33]⟩,⟨[],[2,3]⟩,⟨[(0,1)],[2,3]⟩,⟨[],[4,40]⟩,⟨[],[2,3]⟩,⟨[(0,1)],[2,3]⟩],[(0,[1,4,5])],[(0,[1,4]),(1,[1,4,5])],[2,3],[],[[false],[false]]⟩
def g112_T (m : Nat) : FunT := ⟨112,[.a (.agg [.bool,(.imm (.int .u32))])],.tup [(.c (.int .i64)),(.c .bool)],[.a (.c .dead)],fun (x : (Bool × List Int × Unit) × Unit) => g112 m x.1.1 x.1.2.1⟩
noncomputable def g112_C : Code := codeOf Tryz.f112
noncomputable def g112_B0 : Code := qo g112_C 0 0
theorem g112_K (m : Nat) : ∀ u ∈ [g147_T m],FunOK Tryz.prog u := AllF.mem ⟨g147_ok m,trivial⟩
def g112_L0_X (m : Nat) : LT := ⟨0,[(1,.a (.bx 0 [.bool,(.nm 1 (.int .u32))])),(4,.a (.c (.int .u64))),(5,.a (.c (.int .i64)))],[(.exit 0,[(1,.a (.bx 0 [.bool,(.nm 1 (.int .u32))])),(4,.a (.c (.int .u64)))])],fun n (x : (Bool × List Int × Unit) × Int × Int × Unit) => g112_L0 m n x.1.1 x.1.2.1 x.2.1 x.2.2.1⟩
theorem g112_L0_ok {E : Entry} (hE : EOf Tryz.prog E 43 g112_H.pins) (m : Nat) (n : Nat) : qm Tryz.prog E g112_B0 ((g112_L0_X m).at n) :=
  lok hmix htt hE (g112_K m) (L := []) (g112_L0_X m) (l := []) (by kernel_rfl) (fun _ _ => trivial) (fun n x => by kernel_rfl) (fun _ => by kernel_rfl) n
theorem g112_ok (m : Nat) : FunOK Tryz.prog (g112_T m) :=
  fok hmix htt (H := g112_H) (g112_T m) Tryz.func112 (by kernel_rfl) (g112_K m) (L := [(g112_L0_X m).at m]) (l := [(0,g112_B0)]) (by kernel_rfl) (fun _ hE _ _ => ⟨qh ⟨yb (g112_L0_ok hE m m),trivial⟩,trivial⟩) (fun x => by kernel_rfl)
/-! 130 sparse/sparseref03.rounded -/
def g130_H : Hints := ⟨[⟨[],[0,2,3,4,6]⟩,⟨[],[0,2,3,4,6,11]⟩,⟨[],[0,2,3,4,6,11,22]⟩,⟨[(0,1),(1,1)],[10]⟩,⟨[(0,1)],[0,2,3,4,6,12]⟩,⟨[],[0,2,3,4,6,12,13]⟩,⟨[],[0,2,3,4,6,12,13,31]⟩,⟨[(3,1),(5,1)],[0,4,12,13]⟩,⟨[(1,1)],[0,4,12,13]⟩,⟨[(2,1)],[0,4,12,14]⟩,⟨[],[0,4,12,14,51]⟩,⟨[],[0,4,12,14]⟩,⟨[(0,1)],[0,4,12,14]⟩,⟨[(2,1)],[0,4,12,14,54]⟩,⟨[(0,1),(1,1)],[10]⟩,⟨[],[0,12,14,65]⟩,⟨[(0,1),(1,1),(5,1)],[10]⟩,⟨[(0,1),(1,1)],[10]⟩],[],[(0,[0,14])],[10],[],[[false]]⟩
def g130_T (m : Nat) : FunT := ⟨130,[.a (.c .bool),.a (.agg [.bool,(.imm (.int .u32))]),.a (.c (.int .i64)),.a (.c .bool),.a (.c (.int .i64))],.a (.c (.int .u64)),[.a (.c .dead),.a (.c .dead),.a (.c .dead),.a (.c .dead),.a (.c .dead)],fun (x : Bool × (Bool × List Int × Unit) × Int × Bool × Int × Unit) => g130 m x.1 x.2.1.1 x.2.1.2.1 x.2.2.1 x.2.2.2.1 x.2.2.2.2.1⟩
theorem g130_ok (m : Nat) : FunOK Tryz.prog (g130_T m) :=
  fok hmix htt (H := g130_H) (g130_T m) Tryz.func130 (by kernel_rfl) (AllF.mem (l := [g150_T m,g177_T m,g178_T m,g112_T m,g179_T m,g101_T m]) ⟨g150_ok m,g177_ok m,g178_ok m,g112_ok m,g179_ok m,g101_ok m,trivial⟩) (L := []) (l := []) (by kernel_rfl) (fun _ hE _ _ => trivial) (fun x => by kernel_rfl)
/-! 64 sparse/sparseref03.Round -/
def g64_H : Hints := ⟨[⟨[],[1,2]⟩,⟨[],[1,2]⟩,⟨[],[1,2,8]⟩,⟨[],[4]⟩,⟨[],[1,2,12]⟩,⟨[],[4]⟩,⟨[(8,1)],[4]⟩],[],[],[4],[],[[false]]⟩
def g64_T (m : Nat) : FunT := ⟨64,[.a (.agg [.bool,.bool,(.imm (.int .u32)),(.int .i64)]),.a (.c (.int .i64))],.a (.c (.int .u64)),[.a (.c .dead),.a (.c .dead)],fun (x : (Bool × Bool × List Int × Int × Unit) × Int × Unit) => g64 m x.1.1 x.1.2.1 x.1.2.2.1 x.1.2.2.2.1 x.2.1⟩
theorem g64_ok (m : Nat) : FunOK Tryz.prog (g64_T m) :=
  fok hmix htt (H := g64_H) (g64_T m) Tryz.func64 (by kernel_rfl) (AllF.mem (l := [g128_T m,g129_T m,g131_T m,g130_T m]) ⟨g128_ok m,g129_ok m,g131_ok m,g130_ok m,trivial⟩) (L := []) (l := []) (by kernel_rfl) (fun _ hE _ _ => trivial) (fun x => by kernel_rfl)
/-! 34 sparse/sparsemake.Value -/
def g34_H : Hints := ⟨[⟨[],[0]⟩,⟨[],[0,3]⟩,⟨[],[0,3,4]⟩,⟨[(0,1)],[3,4,5]⟩,⟨[],[3,4,5,15]⟩,⟨[(0,1)],[3,4]⟩,⟨[(0,1),(2,1)],[2]⟩],[],[],[2],[],[[false]]⟩
def g34_T (m : Nat) : FunT := ⟨34,[.a (.c (.int .i64))],.a (.c (.int .u64)),[.a (.c .dead)],fun (x : Int × Unit) => g34 m x.1⟩
theorem g34_ok (m : Nat) : FunOK Tryz.prog (g34_T m) :=
  fok hmix htt (H := g34_H) (g34_T m) Tryz.func34 (by kernel_rfl) (AllF.mem (l := [g20_T m,g89_T m,g88_T m,g64_T m]) ⟨g20_ok m,g89_ok m,g88_ok m,g64_ok m,trivial⟩) (L := []) (l := []) (by kernel_rfl) (fun _ hE _ _ => trivial) (fun x => by kernel_rfl)
/-! 72 sparse/sparseref09.Pack -/
def g72_H : Hints := ⟨[⟨[],[0,1,2,6]⟩,⟨[],[0,1,2,6,7]⟩,⟨[],[0,1,2,6,7,8]⟩,⟨[],[0,1,2,6,7,8,9]⟩,⟨[],[0,1,2,6,7,8,9,24]⟩,⟨[(0,1)],[0,1,2,6,7,8,9]⟩,⟨[],[0,1,2,6,7,8,9]⟩,⟨[],[0,1,2,6,7,8,10]⟩,⟨[],[0,1,2,6,7,8,10,46]⟩,⟨[(0,1)],[0,1,2,6,7,8,10]⟩,⟨[],[0,1,2,6,7,8,10,11]⟩,⟨[],[0,1,2,6,7,8,10,11,51]⟩,⟨[(0,1)],[0,1,2,6,7,8,10,11]⟩,⟨[],[0,1,2,6,7,8,10,11,12]⟩,⟨[],[0,1,2,6,7,8,10,11,12,63]⟩,⟨[(1,1)],[0,1,2,6,7,8,10,11,12]⟩,⟨[(3,1),(9,3)],[0,1,2,6,7,8,10,11]⟩,⟨[(1,1)],[0,1,2,6,7,8,10]⟩,⟨[(0,1)],[6]⟩],[(0,[0,1,2,6,7,8,9]),(2,[0,1,2,6,7,8,10]),(4,[0,1,2,6,7,8,10,11])],[(0,[0,1,2,6,7,8]),(1,[0,1,2,6,7,8,9]),(2,[6,7]),(3,[0,1,2,6,7,8,10]),(4,[0,1,2,6,7,8,10]),(5,[0,1,2,6,7,8,10,11])],[6],[],[[false,false,true,true,true]]⟩
def g72_T (m : Nat) : FunT := ⟨72,[.a (.c (.int .i64)),.a (.c (.int .i64)),.a (.c (.imm (.pr (.int .i64) (.pr (.int .i64) (.int .u64)))))],.a (.agg [(.int .i64),(.int .i64),(.nm 0 (.int .i64)),(.nm 1 (.int .i64)),(.nm 2 (.int .u64))]),[.a (.c .dead),.a (.c .dead),.a (.c .dead)],fun (x : Int × Int × (List (Int × Int × Int)) × Unit) => g72 m x.1 x.2.1 x.2.2.1⟩
noncomputable def g72_C : Code := codeOf Tryz.f72
noncomputable def g72_B0 : Code := qo g72_C 0 0
noncomputable def g72_B2 : Code := qo g72_C 0 1
noncomputable def g72_B4 : Code := qo g72_B2 2 0
def g72_L2_X (m : Nat) : LT := ⟨4,[(0,.a (.c (.int .i64))),(1,.a (.c (.int .i64))),(2,.a (.c (.imm (.pr (.int .i64) (.pr (.int .i64) (.int .u64)))))),(6,.a (.bx 0 [(.int .i64),(.int .i64),(.nm 1 (.int .i64)),(.nm 2 (.int .i64)),(.nm 3 (.int .u64))])),(7,.a (.bx 4 [(.int .i64),(.int .i64),(.nm 5 (.int .i64)),(.nm 6 (.int .i64)),(.nm 7 (.int .u64))])),(8,.a (.c (.nm 8 (.int .i64)))),(10,.a (.c (.int .i64))),(11,.a (.c (.int .i64)))],[(.exit 4,[(0,.a (.c (.int .i64))),(1,.a (.c (.int .i64))),(2,.a (.c (.imm (.pr (.int .i64) (.pr (.int .i64) (.int .u64)))))),(6,.a (.bx 0 [(.int .i64),(.int .i64),(.nm 1 (.int .i64)),(.nm 2 (.int .i64)),(.nm 3 (.int .u64))])),(7,.a (.bx 4 [(.int .i64),(.int .i64),(.nm 5 (.int .i64)),(.nm 6 (.int .i64)),(.nm 7 (.int .u64))])),(8,.a (.c (.nm 8 (.int .i64)))),(10,.a (.c (.int .i64)))])],fun n (x : Int × Int × (List (Int × Int × Int)) × (Int × Int × List Int × List Int × List Int × Unit) × (Int × Int × List Int × List Int × List Int × Unit) × List Int × Int × Int × Unit) => g72_L2 m n x.1 x.2.1 x.2.2.1 x.2.2.2.1.1 x.2.2.2.1.2.1 x.2.2.2.1.2.2.1 x.2.2.2.1.2.2.2.1 x.2.2.2.1.2.2.2.2.1 x.2.2.2.2.1.1 x.2.2.2.2.1.2.1 x.2.2.2.2.1.2.2.1 x.2.2.2.2.1.2.2.2.1 x.2.2.2.2.1.2.2.2.2.1 x.2.2.2.2.2.1 x.2.2.2.2.2.2.1 x.2.2.2.2.2.2.2.1⟩
theorem g72_L2_ok {E : Entry} (hE : EOf Tryz.prog E 90 g72_H.pins) (m : Nat) (n : Nat) : qm Tryz.prog E g72_B4 ((g72_L2_X m).at n) :=
  lok hmix htt hE noF (L := []) (g72_L2_X m) (l := []) (by kernel_rfl) (fun _ _ => trivial) (fun n x => by kernel_rfl) (fun _ => by kernel_rfl) n
def g72_L1_X (m : Nat) : LT := ⟨2,[(0,.a (.c (.int .i64))),(1,.a (.c (.int .i64))),(2,.a (.c (.imm (.pr (.int .i64) (.pr (.int .i64) (.int .u64)))))),(6,.a (.bx 0 [(.int .i64),(.int .i64),(.nm 1 (.int .i64)),(.nm 2 (.int .i64)),(.nm 3 (.int .u64))])),(7,.a (.bx 4 [(.int .i64),(.int .i64),(.nm 5 (.int .i64)),(.nm 6 (.int .i64)),(.nm 7 (.int .u64))])),(8,.a (.c (.nm 8 (.int .i64)))),(10,.a (.c (.int .i64)))],[(.exit 2,[(6,.a (.bx 0 [(.int .i64),(.int .i64),(.nm 1 (.int .i64)),(.nm 2 (.int .i64)),(.nm 3 (.int .u64))])),(7,.a (.bx 4 [(.int .i64),(.int .i64),(.nm 5 (.int .i64)),(.nm 6 (.int .i64)),(.nm 7 (.int .u64))]))])],fun n (x : Int × Int × (List (Int × Int × Int)) × (Int × Int × List Int × List Int × List Int × Unit) × (Int × Int × List Int × List Int × List Int × Unit) × List Int × Int × Unit) => g72_L1 m n x.1 x.2.1 x.2.2.1 x.2.2.2.1.1 x.2.2.2.1.2.1 x.2.2.2.1.2.2.1 x.2.2.2.1.2.2.2.1 x.2.2.2.1.2.2.2.2.1 x.2.2.2.2.1.1 x.2.2.2.2.1.2.1 x.2.2.2.2.1.2.2.1 x.2.2.2.2.1.2.2.2.1 x.2.2.2.2.1.2.2.2.2.1 x.2.2.2.2.2.1 x.2.2.2.2.2.2.1⟩
theorem g72_L1_ok {E : Entry} (hE : EOf Tryz.prog E 90 g72_H.pins) (m : Nat) (n : Nat) : qm Tryz.prog E g72_B2 ((g72_L1_X m).at n) :=
  lok hmix htt hE noF (L := [(g72_L2_X m).at m]) (g72_L1_X m) (l := [(4,g72_B4)]) (by kernel_rfl) (fun _ _ => ⟨qh ⟨yb (g72_L2_ok hE m m),trivial⟩,trivial⟩) (fun n x => by kernel_rfl) (fun _ => by kernel_rfl) n
def g72_L0_X (m : Nat) : LT := ⟨0,[(0,.a (.c (.int .i64))),(1,.a (.c (.int .i64))),(2,.a (.c (.imm (.pr (.int .i64) (.pr (.int .i64) (.int .u64)))))),(6,.a (.bx 0 [(.int .i64),(.int .i64),(.nm 1 (.int .i64)),(.nm 2 (.int .i64)),(.nm 3 (.int .u64))])),(7,.a (.bx 4 [(.int .i64),(.int .i64),(.nm 5 (.int .i64)),(.nm 6 (.int .i64)),(.nm 7 (.int .u64))])),(8,.a (.c (.nm 8 (.int .i64)))),(9,.a (.c (.int .i64)))],[(.exit 0,[(0,.a (.c (.int .i64))),(1,.a (.c (.int .i64))),(2,.a (.c (.imm (.pr (.int .i64) (.pr (.int .i64) (.int .u64)))))),(6,.a (.bx 0 [(.int .i64),(.int .i64),(.nm 1 (.int .i64)),(.nm 2 (.int .i64)),(.nm 3 (.int .u64))])),(7,.a (.bx 4 [(.int .i64),(.int .i64),(.nm 5 (.int .i64)),(.nm 6 (.int .i64)),(.nm 7 (.int .u64))])),(8,.a (.c (.nm 8 (.int .i64))))])],fun n (x : Int × Int × (List (Int × Int × Int)) × (Int × Int × List Int × List Int × List Int × Unit) × (Int × Int × List Int × List Int × List Int × Unit) × List Int × Int × Unit) => g72_L0 m n x.1 x.2.1 x.2.2.1 x.2.2.2.1.1 x.2.2.2.1.2.1 x.2.2.2.1.2.2.1 x.2.2.2.1.2.2.2.1 x.2.2.2.1.2.2.2.2.1 x.2.2.2.2.1.1 x.2.2.2.2.1.2.1 x.2.2.2.2.1.2.2.1 x.2.2.2.2.1.2.2.2.1 x.2.2.2.2.1.2.2.2.2.1 x.2.2.2.2.2.1 x.2.2.2.2.2.2.1⟩
theorem g72_L0_ok {E : Entry} (hE : EOf Tryz.prog E 90 g72_H.pins) (m : Nat) (n : Nat) : qm Tryz.prog E g72_B0 ((g72_L0_X m).at n) :=
  lok hmix htt hE noF (L := []) (g72_L0_X m) (l := []) (by kernel_rfl) (fun _ _ => trivial) (fun n x => by kernel_rfl) (fun _ => by kernel_rfl) n
theorem g72_ok (m : Nat) : FunOK Tryz.prog (g72_T m) :=
  fok hmix htt (H := g72_H) (g72_T m) Tryz.func72 (by kernel_rfl) noF (L := [(g72_L0_X m).at m,(g72_L1_X m).at m]) (l := [(0,g72_B0),(2,g72_B2)]) (by kernel_rfl) (fun _ hE _ _ => ⟨qh ⟨yb (g72_L0_ok hE m m),nb rfl,trivial⟩,qh ⟨nb rfl,yb (g72_L1_ok hE m m),trivial⟩,trivial⟩) (fun x => by kernel_rfl)
/-! 21 sparse/sparsemake.Matrix -/
def g21_H : Hints := ⟨[⟨[],[0,1,2,6]⟩,⟨[],[0,1,2,6,7]⟩,⟨[],[0,1,2,6,7,8]⟩,⟨[(5,1),(9,1)],[0,1,2,6,7,8,21]⟩,⟨[(0,1)],[0,1,2,6,7,8]⟩,⟨[(0,1)],[0,1,2,6,7,8]⟩,⟨[(0,1),(1,1),(2,1)],[6]⟩],[(0,[0,1,2,6,7,8])],[(0,[0,1,6,7]),(1,[0,1,2,6,7,8])],[6],[],[[false,false,true,true,true]]⟩
def g21_T (m : Nat) : FunT := ⟨21,[.a (.c (.int .i64)),.a (.c (.int .i64)),.a (.c (.imm (.int .i64)))],.a (.agg [(.int .i64),(.int .i64),(.nm 0 (.int .i64)),(.nm 1 (.int .i64)),(.nm 2 (.int .u64))]),[.a (.c .dead),.a (.c .dead),.a (.c .dead)],fun (x : Int × Int × List Int × Unit) => g21 m x.1 x.2.1 x.2.2.1⟩
noncomputable def g21_C : Code := codeOf Tryz.f21
noncomputable def g21_B0 : Code := qo g21_C 0 0
theorem g21_K (m : Nat) : ∀ u ∈ [g20_T m,g34_T m,g72_T m],FunOK Tryz.prog u := AllF.mem ⟨g20_ok m,g34_ok m,g72_ok m,trivial⟩
def g21_L0_X (m : Nat) : LT := ⟨0,[(0,.a (.c (.int .i64))),(1,.a (.c (.int .i64))),(2,.a (.c (.imm (.int .i64)))),(6,.a (.bx 0 [(.int .i64),(.int .i64),(.nm 1 (.int .i64)),(.nm 2 (.int .i64)),(.nm 3 (.int .u64))])),(7,.a (.c (.nm 4 (.pr (.int .i64) (.pr (.int .i64) (.int .u64)))))),(8,.a (.c (.int .i64)))],[(.exit 0,[(0,.a (.c (.int .i64))),(1,.a (.c (.int .i64))),(6,.a (.bx 0 [(.int .i64),(.int .i64),(.nm 1 (.int .i64)),(.nm 2 (.int .i64)),(.nm 3 (.int .u64))])),(7,.a (.c (.nm 4 (.pr (.int .i64) (.pr (.int .i64) (.int .u64))))))])],fun n (x : Int × Int × List Int × (Int × Int × List Int × List Int × List Int × Unit) × (List (Int × Int × Int)) × Int × Unit) => g21_L0 m n x.1 x.2.1 x.2.2.1 x.2.2.2.1.1 x.2.2.2.1.2.1 x.2.2.2.1.2.2.1 x.2.2.2.1.2.2.2.1 x.2.2.2.1.2.2.2.2.1 x.2.2.2.2.1 x.2.2.2.2.2.1⟩
theorem g21_L0_ok {E : Entry} (hE : EOf Tryz.prog E 51 g21_H.pins) (m : Nat) (n : Nat) : qm Tryz.prog E g21_B0 ((g21_L0_X m).at n) :=
  lok hmix htt hE (g21_K m) (L := []) (g21_L0_X m) (l := []) (by kernel_rfl) (fun _ _ => trivial) (fun n x => by kernel_rfl) (fun _ => by kernel_rfl) n
theorem g21_ok (m : Nat) : FunOK Tryz.prog (g21_T m) :=
  fok hmix htt (H := g21_H) (g21_T m) Tryz.func21 (by kernel_rfl) (g21_K m) (L := [(g21_L0_X m).at m]) (l := [(0,g21_B0)]) (by kernel_rfl) (fun _ hE _ _ => ⟨qh ⟨yb (g21_L0_ok hE m m),trivial⟩,trivial⟩) (fun x => by kernel_rfl)
/-! 22 sparse/matrix.Transpose -/
def g22_H : Hints := ⟨[⟨[],[1,2]⟩,⟨[],[1,2,4]⟩,⟨[],[1,2,4,11]⟩,⟨[(1,1)],[2,3]⟩,⟨[],[1,2,5]⟩,⟨[],[1,2,5,16,17,18]⟩,⟨[],[1,2,5,16,17,18,19]⟩,⟨[],[1,2,5,6,7,16,17,18]⟩,⟨[],[1,2,5,16,17,18]⟩,⟨[(1,1)],[1,2,5,16,17,18]⟩,⟨[(4,1)],[2,3]⟩],[(0,[1,2,5,16,17,18])],[(0,[1,2,5]),(1,[1,2,5,16,17,18])],[2,3],[],[[false,false,true,true,true],[false]]⟩
def g22_T (m : Nat) : FunT := ⟨22,[.a (.agg [(.int .i64),(.int .i64),(.imm (.int .i64)),(.imm (.int .i64)),(.imm (.int .u64))])],.tup [(.agg [(.int .i64),(.int .i64),(.nm 0 (.int .i64)),(.nm 1 (.int .i64)),(.nm 2 (.int .u64))]),(.c (.int .i64))],[.a (.c .dead)],fun (x : (Int × Int × List Int × List Int × List Int × Unit) × Unit) => g22 m x.1.1 x.1.2.1 x.1.2.2.1 x.1.2.2.2.1 x.1.2.2.2.2.1⟩
noncomputable def g22_C : Code := codeOf Tryz.f22
noncomputable def g22_B0 : Code := qo g22_C 0 0
theorem g22_K (m : Nat) : ∀ u ∈ [g44_T m,g73_T m,g62_T m],FunOK Tryz.prog u := AllF.mem ⟨g44_ok m,g73_ok m,g62_ok m,trivial⟩
def g22_L0_X (m : Nat) : LT := ⟨0,[(1,.a (.bx 0 [(.int .i64),(.int .i64),(.imm (.int .i64)),(.imm (.int .i64)),(.imm (.int .u64))])),(2,.a (.bx 1 [(.int .i64),(.int .i64),(.nm 2 (.int .i64)),(.nm 3 (.int .i64)),(.nm 4 (.int .u64))])),(5,.a (.c (.nm 5 (.pr (.int .i64) (.pr (.int .i64) (.int .u64)))))),(16,.a (.c (.ref 5 5 3))),(17,.a (.c (.int .i64))),(18,.a (.c (.int .i64)))],[(.exit 0,[(1,.a (.bx 0 [(.int .i64),(.int .i64),(.imm (.int .i64)),(.imm (.int .i64)),(.imm (.int .u64))])),(2,.a (.bx 1 [(.int .i64),(.int .i64),(.nm 2 (.int .i64)),(.nm 3 (.int .i64)),(.nm 4 (.int .u64))])),(5,.a (.c (.nm 5 (.pr (.int .i64) (.pr (.int .i64) (.int .u64))))))])],fun n (x : (Int × Int × List Int × List Int × List Int × Unit) × (Int × Int × List Int × List Int × List Int × Unit) × (List (Int × Int × Int)) × Unit × Int × Int × Unit) => g22_L0 m n x.1.1 x.1.2.1 x.1.2.2.1 x.1.2.2.2.1 x.1.2.2.2.2.1 x.2.1.1 x.2.1.2.1 x.2.1.2.2.1 x.2.1.2.2.2.1 x.2.1.2.2.2.2.1 x.2.2.1 x.2.2.2.2.1 x.2.2.2.2.2.1⟩
theorem g22_L0_ok {E : Entry} (hE : EOf Tryz.prog E 42 g22_H.pins) (m : Nat) (n : Nat) : qm Tryz.prog E g22_B0 ((g22_L0_X m).at n) :=
  lok hmix htt hE (g22_K m) (L := []) (g22_L0_X m) (l := []) (by kernel_rfl) (fun _ _ => trivial) (fun n x => by kernel_rfl) (fun _ => by kernel_rfl) n
theorem g22_ok (m : Nat) : FunOK Tryz.prog (g22_T m) :=
  fok hmix htt (H := g22_H) (g22_T m) Tryz.func22 (by kernel_rfl) (g22_K m) (L := [(g22_L0_X m).at m]) (l := [(0,g22_B0)]) (by kernel_rfl) (fun _ hE _ _ => ⟨qh ⟨yb (g22_L0_ok hE m m),trivial⟩,trivial⟩) (fun x => by kernel_rfl)
/-! 74 sparse/sparsemake.At -/
def g74_H : Hints := ⟨[⟨[],[0,1]⟩,⟨[],[0,1,8]⟩,⟨[(0,1),(1,1)],[4]⟩,⟨[],[4]⟩],[],[],[4],[],[[false]]⟩
def g74_T (m : Nat) : FunT := ⟨74,[.a (.c (.imm (.int .i64))),.a (.c (.int .i64))],.a (.c (.int .i64)),[.a (.c .dead),.a (.c .dead)],fun (x : List Int × Int × Unit) => g74 m x.1 x.2.1⟩
theorem g74_ok (m : Nat) : FunOK Tryz.prog (g74_T m) :=
  fok hmix htt (H := g74_H) (g74_T m) Tryz.func74 (by kernel_rfl) noF (L := []) (l := []) (by kernel_rfl) (fun _ hE _ _ => trivial) (fun x => by kernel_rfl)
/-! 23 sparse/sparsemake.Values -/
def g23_H : Hints := ⟨[⟨[],[0,1]⟩,⟨[],[0,1,5]⟩,⟨[],[0,1,5,6]⟩,⟨[],[0,1,5,6,9]⟩,⟨[(0,1)],[0,1,5,6]⟩,⟨[(0,1)],[0,1,5,6]⟩,⟨[(0,1)],[4]⟩],[(0,[0,1,5,6])],[(0,[5]),(1,[0,1,5,6])],[4],[],[[true]]⟩
def g23_T (m : Nat) : FunT := ⟨23,[.a (.c (.imm (.int .i64))),.a (.c (.int .i64))],.a (.c (.nm 0 (.int .u64))),[.a (.c .dead),.a (.c .dead)],fun (x : List Int × Int × Unit) => g23 m x.1 x.2.1⟩
noncomputable def g23_C : Code := codeOf Tryz.f23
noncomputable def g23_B0 : Code := qo g23_C 0 0
theorem g23_K (m : Nat) : ∀ u ∈ [g74_T m,g34_T m],FunOK Tryz.prog u := AllF.mem ⟨g74_ok m,g34_ok m,trivial⟩
def g23_L0_X (m : Nat) : LT := ⟨0,[(0,.a (.c (.imm (.int .i64)))),(1,.a (.c (.int .i64))),(5,.a (.c (.nm 0 (.int .u64)))),(6,.a (.c (.int .i64)))],[(.exit 0,[(5,.a (.c (.nm 0 (.int .u64))))])],fun n (x : List Int × Int × List Int × Int × Unit) => g23_L0 m n x.1 x.2.1 x.2.2.1 x.2.2.2.1⟩
theorem g23_L0_ok {E : Entry} (hE : EOf Tryz.prog E 20 g23_H.pins) (m : Nat) (n : Nat) : qm Tryz.prog E g23_B0 ((g23_L0_X m).at n) :=
  lok hmix htt hE (g23_K m) (L := []) (g23_L0_X m) (l := []) (by kernel_rfl) (fun _ _ => trivial) (fun n x => by kernel_rfl) (fun _ => by kernel_rfl) n
theorem g23_ok (m : Nat) : FunOK Tryz.prog (g23_T m) :=
  fok hmix htt (H := g23_H) (g23_T m) Tryz.func23 (by kernel_rfl) (g23_K m) (L := [(g23_L0_X m).at m]) (l := [(0,g23_B0)]) (by kernel_rfl) (fun _ hE _ _ => ⟨qh ⟨yb (g23_L0_ok hE m m),trivial⟩,trivial⟩) (fun x => by kernel_rfl)
/-! 70 sparse/matrix.MulTrans_1 -/
def g70_H : Hints := ⟨[⟨[],[1]⟩,⟨[],[2,3]⟩],[],[],[2,3],[],[[false],[false]]⟩
def g70_T (m : Nat) : FunT := ⟨70,[.a (.agg [(.int .i64),(.int .i64),(.int .u64)])],.tup [(.c (.int .i64)),(.c (.int .i64))],[.a (.c .dead)],fun (x : (Int × Int × Int × Unit) × Unit) => g70 m x.1.1 x.1.2.1 x.1.2.2.1⟩
theorem g70_ok (m : Nat) : FunOK Tryz.prog (g70_T m) :=
  fok hmix htt (H := g70_H) (g70_T m) Tryz.func70 (by kernel_rfl) noF (L := []) (l := []) (by kernel_rfl) (fun _ hE _ _ => trivial) (fun x => by kernel_rfl)
/-! 66 sparse/matrix.multiplied -/
def g66b_H : Hints := ⟨[⟨[],[1,2,3,4,5]⟩,⟨[],[1,2,3,4,5,12]⟩,⟨[],[1,2,3,4,5,12,27]⟩,⟨[(0,1)],[10,11]⟩,⟨[(2,1)],[1,2,4,5,31]⟩,⟨[],[10,11]⟩,⟨[],[1,2,4,5,13]⟩,⟨[(0,1)],[2,4,5,13,36,37,38]⟩,⟨[],[2,4,5,13,36,37,38,39]⟩,⟨[],[2,4,5,13,15,36,37,38]⟩,⟨[],[2,4,5,13,15,36,37,38,44]⟩,⟨[],[10,11]⟩,⟨[(0,1),(1,1)],[2,4,5,13,36,37,38]⟩,⟨[(1,1)],[2,4,5,13,36,37,38]⟩,⟨[(0,1),(1,4)],[4,5,13,16]⟩,⟨[],[4,13,16,54,55,56]⟩,⟨[],[4,13,16,54,55,56,57]⟩,⟨[],[4,13,16,18,54,55,56]⟩,⟨[(3,1)],[4,13,16,18,19,20,54,55,56]⟩,⟨[(5,4),(10,1),(17,4)],[4,13,16,54,55,56]⟩,⟨[(1,1)],[4,13,16,54,55,56]⟩,⟨[],[16,21]⟩,⟨[(0,2)],[21,84,85,86]⟩,⟨[],[21,84,85,86,87]⟩,⟨[],[21,23,84,85,86]⟩,⟨[(0,1)],[21,24,84,85,86]⟩,⟨[],[21,24,84,85,86,95]⟩,⟨[],[10,11]⟩,⟨[(0,1),(1,1)],[21,84,85,86]⟩,⟨[(1,1)],[21,84,85,86]⟩,⟨[(0,1)],[10,11]⟩],[(1,[2,4,5,13,36,37,38]),(3,[4,13,16,54,55,56]),(5,[21,84,85,86])],[(0,[1,2,4,5]),(1,[2,4,5,13]),(2,[2,4,5,13,36,37,38]),(3,[16]),(4,[4,13,16,54,55,56]),(5,[21]),(6,[21,84,85,86])],[10,11],[],[[true],[false]]⟩
def g66b_T (m : Nat) : FunT := ⟨66,[.a (.agg [(.int .i64),(.int .i64),(.imm (.int .i64)),(.imm (.int .i64)),(.imm (.int .u64))]),.a (.c (.imm (.int .u64))),.a (.c (.int .i64)),.a (.c (.int .i64)),.a (.c (.fn 70))],.tup [(.c (.nm 0 (.int .u64))),(.c (.int .i64))],[.a (.c .dead),.a (.c .dead),.a (.c .dead),.a (.c .dead),.a (.c .dead)],fun (x : (Int × Int × List Int × List Int × List Int × Unit) × List Int × Int × Int × Unit × Unit) => g66b m x.1.1 x.1.2.1 x.1.2.2.1 x.1.2.2.2.1 x.1.2.2.2.2.1 x.2.1 x.2.2.1 x.2.2.2.1⟩
noncomputable def g66b_C : Code := codeOf Tryz.f66
noncomputable def g66b_B1 : Code := qo g66b_C 0 0
noncomputable def g66b_B3 : Code := qo g66b_C 0 1
noncomputable def g66b_B5 : Code := qo g66b_C 0 2
theorem g66b_K (m : Nat) : ∀ u ∈ [g44_T m,g58_T m,g29_T m,g73_T m,g70_T m,g132_T m,g61_T m,g60_T m],FunOK Tryz.prog u := AllF.mem ⟨g44_ok m,g58_ok m,g29_ok m,g73_ok m,g70_ok m,g132_ok m,g61_ok m,g60_ok m,trivial⟩
def g66b_L2_X (m : Nat) : LT := ⟨5,[(21,.a (.c (.nm 0 (.int .u64)))),(84,.a (.c (.imm (.sl false (.pr .bool (.pr (.pr .bool (.sl false (.int .u32))) (.int .i64))))))),(85,.a (.c (.int .i64))),(86,.a (.c (.int .i64)))],[(.ret,[(10,.a (.c (.nm 0 (.int .u64)))),(11,.a (.c (.int .i64)))]),(.exit 5,[(21,.a (.c (.nm 0 (.int .u64))))])],fun n (x : List Int × (List (List (Bool × (Bool × List Int) × Int))) × Int × Int × Unit) => g66b_L2 m n x.1 x.2.1 x.2.2.1 x.2.2.2.1⟩
theorem g66b_L2_ok {E : Entry} (hE : EOf Tryz.prog E 102 g66b_H.pins) (m : Nat) (n : Nat) : qm Tryz.prog E g66b_B5 ((g66b_L2_X m).at n) :=
  lok hmix htt hE (g66b_K m) (L := []) (g66b_L2_X m) (l := []) (by kernel_rfl) (fun _ _ => trivial) (fun n x => by kernel_rfl) (fun _ => by kernel_rfl) n
def g66b_L1_X (m : Nat) : LT := ⟨3,[(4,.a (.c (.fn 70))),(13,.a (.c (.nm 0 (.pr .bool (.pr (.pr .bool (.sl false (.int .u32))) (.int .i64)))))),(16,.a (.c (.dp 1 (.pr .bool (.pr (.pr .bool (.sl false (.int .u32))) (.int .i64)))))),(54,.a (.c (.nm 2 (.pr (.int .i64) (.pr (.int .i64) (.int .u64)))))),(55,.a (.c (.int .i64))),(56,.a (.c (.int .i64)))],[(.exit 3,[(16,.a (.c (.dp 0 (.pr .bool (.pr (.pr .bool (.sl false (.int .u32))) (.int .i64))))))])],fun n (x : Unit × (List (Bool × (Bool × List Int) × Int)) × (List (List (Bool × (Bool × List Int) × Int))) × (List (Int × Int × Int)) × Int × Int × Unit) => g66b_L1 m n x.2.1 x.2.2.1 x.2.2.2.1 x.2.2.2.2.1 x.2.2.2.2.2.1⟩
theorem g66b_L1_ok {E : Entry} (hE : EOf Tryz.prog E 102 g66b_H.pins) (m : Nat) (n : Nat) : qm Tryz.prog E g66b_B3 ((g66b_L1_X m).at n) :=
  lok hmix htt hE (g66b_K m) (L := []) (g66b_L1_X m) (l := []) (by kernel_rfl) (fun _ _ => trivial) (fun n x => by kernel_rfl) (fun _ => by kernel_rfl) n
def g66b_L0_X (m : Nat) : LT := ⟨1,[(2,.a (.c (.int .i64))),(4,.a (.c (.fn 70))),(5,.a (.bx 0 [(.int .i64),(.int .i64),(.imm (.int .i64)),(.imm (.int .i64)),(.imm (.int .u64))])),(13,.a (.c (.nm 1 (.pr .bool (.pr (.pr .bool (.sl false (.int .u32))) (.int .i64)))))),(36,.a (.c (.imm (.int .u64)))),(37,.a (.c (.int .i64))),(38,.a (.c (.int .i64)))],[(.ret,[(10,.a (.c (.nm 0 (.int .u64)))),(11,.a (.c (.int .i64)))]),(.exit 1,[(2,.a (.c (.int .i64))),(4,.a (.c (.fn 70))),(5,.a (.bx 0 [(.int .i64),(.int .i64),(.imm (.int .i64)),(.imm (.int .i64)),(.imm (.int .u64))])),(13,.a (.c (.nm 1 (.pr .bool (.pr (.pr .bool (.sl false (.int .u32))) (.int .i64))))))])],fun n (x : Int × Unit × (Int × Int × List Int × List Int × List Int × Unit) × (List (Bool × (Bool × List Int) × Int)) × List Int × Int × Int × Unit) => g66b_L0 m n x.1 x.2.2.1.1 x.2.2.1.2.1 x.2.2.1.2.2.1 x.2.2.1.2.2.2.1 x.2.2.1.2.2.2.2.1 x.2.2.2.1 x.2.2.2.2.1 x.2.2.2.2.2.1 x.2.2.2.2.2.2.1⟩
theorem g66b_L0_ok {E : Entry} (hE : EOf Tryz.prog E 102 g66b_H.pins) (m : Nat) (n : Nat) : qm Tryz.prog E g66b_B1 ((g66b_L0_X m).at n) :=
  lok hmix htt hE (g66b_K m) (L := []) (g66b_L0_X m) (l := []) (by kernel_rfl) (fun _ _ => trivial) (fun n x => by kernel_rfl) (fun _ => by kernel_rfl) n
theorem g66b_ok (m : Nat) : FunOK Tryz.prog (g66b_T m) :=
  fok hmix htt (H := g66b_H) (g66b_T m) Tryz.func66 (by kernel_rfl) (g66b_K m) (L := [(g66b_L0_X m).at m,(g66b_L1_X m).at m,(g66b_L2_X m).at m]) (l := [(1,g66b_B1),(3,g66b_B3),(5,g66b_B5)]) (by kernel_rfl) (fun _ hE _ _ => ⟨qh ⟨yb (g66b_L0_ok hE m m),nb rfl,nb rfl,trivial⟩,qh ⟨nb rfl,yb (g66b_L1_ok hE m m),nb rfl,trivial⟩,qh ⟨nb rfl,nb rfl,yb (g66b_L2_ok hE m m),trivial⟩,trivial⟩) (fun x => by kernel_rfl)
/-! 17 sparse/matrix.MulTrans -/
def g17_H : Hints := ⟨[⟨[],[1,2]⟩,⟨[(1,1)],[4,5]⟩],[],[],[4,5],[],[[true],[false]]⟩
def g17_T (m : Nat) : FunT := ⟨17,[.a (.agg [(.int .i64),(.int .i64),(.imm (.int .i64)),(.imm (.int .i64)),(.imm (.int .u64))]),.a (.c (.imm (.int .u64)))],.tup [(.c (.nm 0 (.int .u64))),(.c (.int .i64))],[.a (.c .dead),.a (.c .dead)],fun (x : (Int × Int × List Int × List Int × List Int × Unit) × List Int × Unit) => g17 m x.1.1 x.1.2.1 x.1.2.2.1 x.1.2.2.2.1 x.1.2.2.2.2.1 x.2.1⟩
theorem g17_ok (m : Nat) : FunOK Tryz.prog (g17_T m) :=
  fok hmix htt (H := g17_H) (g17_T m) Tryz.func17 (by kernel_rfl) (AllF.mem (l := [g66b_T m]) ⟨g66b_ok m,trivial⟩) (L := []) (l := []) (by kernel_rfl) (fun _ hE _ _ => trivial) (fun x => by kernel_rfl)
/-! 19 sparse/sparsekit.Floats -/
def g19_H : Hints := ⟨[⟨[],[0,1]⟩,⟨[],[0,1,10]⟩,⟨[],[4]⟩,⟨[],[0,1,5]⟩,⟨[],[0,1,5,14]⟩,⟨[(0,1)],[0,1,5]⟩,⟨[],[0,1,5,25]⟩,⟨[],[4]⟩,⟨[],[4]⟩],[(0,[0,1,5])],[(0,[]),(1,[0,1,5])],[4],[],[[false]]⟩
def g19_T (m : Nat) : FunT := ⟨19,[.a (.c (.imm (.int .u64))),.a (.c (.imm (.int .u64)))],.a (.c .bool),[.a (.c .dead),.a (.c .dead)],fun (x : List Int × List Int × Unit) => g19 m x.1 x.2.1⟩
noncomputable def g19_C : Code := codeOf Tryz.f19
noncomputable def g19_B0 : Code := qo g19_C 0 0
def g19_L0_X (m : Nat) : LT := ⟨0,[(0,.a (.c (.imm (.int .u64)))),(1,.a (.c (.imm (.int .u64)))),(5,.a (.c (.int .i64)))],[(.ret,[(4,.a (.c .bool))]),(.exit 0,[])],fun n (x : List Int × List Int × Int × Unit) => g19_L0 m n x.1 x.2.1 x.2.2.1⟩
theorem g19_L0_ok {E : Entry} (hE : EOf Tryz.prog E 26 g19_H.pins) (m : Nat) (n : Nat) : qm Tryz.prog E g19_B0 ((g19_L0_X m).at n) :=
  lok hmix htt hE noF (L := []) (g19_L0_X m) (l := []) (by kernel_rfl) (fun _ _ => trivial) (fun n x => by kernel_rfl) (fun _ => by kernel_rfl) n
theorem g19_ok (m : Nat) : FunOK Tryz.prog (g19_T m) :=
  fok hmix htt (H := g19_H) (g19_T m) Tryz.func19 (by kernel_rfl) noF (L := [(g19_L0_X m).at m]) (l := [(0,g19_B0)]) (by kernel_rfl) (fun _ hE _ _ => ⟨qh ⟨yb (g19_L0_ok hE m m),trivial⟩,trivial⟩) (fun x => by kernel_rfl)
/-! 24 sparse/sparsekit.Shuffle -/
def g24_H : Hints := ⟨[⟨[],[0,1]⟩,⟨[],[0,1,5]⟩,⟨[],[0,1,5,6]⟩,⟨[],[0,1,5,6,12]⟩,⟨[(0,1)],[0,1,5,6]⟩,⟨[(0,1)],[0,1,5,6]⟩,⟨[],[0,1,5,7]⟩,⟨[],[0,1,5,7,8]⟩,⟨[],[0,1,5,7,8,21]⟩,⟨[(0,1)],[0,1,5,7,8]⟩,⟨[],[0,1,5,7,8,9]⟩,⟨[],[0,1,5,7,8,9,27]⟩,⟨[],[0,1,5,7,8,9]⟩,⟨[(0,1)],[0,1,5,7,8,9]⟩,⟨[(7,5)],[0,1,5,7,8]⟩,⟨[(0,1)],[4]⟩],[(0,[0,1,5,6]),(2,[0,1,5,7,8])],[(0,[0,1,5]),(1,[0,1,5,6]),(2,[7]),(3,[0,1,5,7,8])],[4],[],[[true]]⟩
def g24_T (m : Nat) : FunT := ⟨24,[.a (.c (.imm (.int .i64))),.a (.c (.int .i64))],.a (.c (.nm 0 (.int .i64))),[.a (.c .dead),.a (.c .dead)],fun (x : List Int × Int × Unit) => g24 m x.1 x.2.1⟩
noncomputable def g24_C : Code := codeOf Tryz.f24
noncomputable def g24_B0 : Code := qo g24_C 0 0
noncomputable def g24_B2 : Code := qo g24_C 0 1
theorem g24_K (m : Nat) : ∀ u ∈ [g20_T m],FunOK Tryz.prog u := AllF.mem ⟨g20_ok m,trivial⟩
def g24_L1_X (m : Nat) : LT := ⟨2,[(0,.a (.c (.imm (.int .i64)))),(1,.a (.c (.int .i64))),(5,.a (.c (.nm 0 (.int .i64)))),(7,.a (.c (.nm 1 (.int .i64)))),(8,.a (.c (.int .i64)))],[(.exit 2,[(7,.a (.c (.nm 0 (.int .i64))))])],fun n (x : List Int × Int × List Int × List Int × Int × Unit) => g24_L1 m n x.1 x.2.1 x.2.2.1 x.2.2.2.1 x.2.2.2.2.1⟩
theorem g24_L1_ok {E : Entry} (hE : EOf Tryz.prog E 51 g24_H.pins) (m : Nat) (n : Nat) : qm Tryz.prog E g24_B2 ((g24_L1_X m).at n) :=
  lok hmix htt hE (g24_K m) (L := []) (g24_L1_X m) (l := []) (by kernel_rfl) (fun _ _ => trivial) (fun n x => by kernel_rfl) (fun _ => by kernel_rfl) n
def g24_L0_X (m : Nat) : LT := ⟨0,[(0,.a (.c (.imm (.int .i64)))),(1,.a (.c (.int .i64))),(5,.a (.c (.nm 0 (.int .i64)))),(6,.a (.c (.int .i64)))],[(.exit 0,[(0,.a (.c (.imm (.int .i64)))),(1,.a (.c (.int .i64))),(5,.a (.c (.nm 0 (.int .i64))))])],fun n (x : List Int × Int × List Int × Int × Unit) => g24_L0 m n x.1 x.2.1 x.2.2.1 x.2.2.2.1⟩
theorem g24_L0_ok {E : Entry} (hE : EOf Tryz.prog E 51 g24_H.pins) (m : Nat) (n : Nat) : qm Tryz.prog E g24_B0 ((g24_L0_X m).at n) :=
  lok hmix htt hE (g24_K m) (L := []) (g24_L0_X m) (l := []) (by kernel_rfl) (fun _ _ => trivial) (fun n x => by kernel_rfl) (fun _ => by kernel_rfl) n
theorem g24_ok (m : Nat) : FunOK Tryz.prog (g24_T m) :=
  fok hmix htt (H := g24_H) (g24_T m) Tryz.func24 (by kernel_rfl) (g24_K m) (L := [(g24_L0_X m).at m,(g24_L1_X m).at m]) (l := [(0,g24_B0),(2,g24_B2)]) (by kernel_rfl) (fun _ hE _ _ => ⟨qh ⟨yb (g24_L0_ok hE m m),nb rfl,trivial⟩,qh ⟨nb rfl,yb (g24_L1_ok hE m m),trivial⟩,trivial⟩) (fun x => by kernel_rfl)
/-! 75 sparse/matrix.places -/
def g75_H : Hints := ⟨[⟨[],[0,1]⟩,⟨[],[0,1,6]⟩,⟨[],[0,1,6,15,16]⟩,⟨[],[0,1,6,15,16,17]⟩,⟨[],[0,1,6,7,15,16]⟩,⟨[(1,1)],[0,1,6,15,16]⟩,⟨[(1,1)],[0,1,6,15,16]⟩,⟨[],[0,1,6,23,24,25]⟩,⟨[],[0,1,6,23,24,25,26]⟩,⟨[],[0,1,6,9,23,24,25]⟩,⟨[(0,1)],[0,1,6,23,24,25,33]⟩,⟨[],[4,5]⟩,⟨[(1,1)],[0,1,6,23,24,25]⟩,⟨[(0,1)],[6,35,36,37]⟩,⟨[],[6,35,36,37,38]⟩,⟨[],[6,10,11,35,36,37]⟩,⟨[],[6,10,11,35,36,37,46]⟩,⟨[],[4,5]⟩,⟨[(1,1),(2,1)],[6,35,36,37]⟩,⟨[(1,1)],[6,35,36,37]⟩,⟨[(0,1)],[4,5]⟩],[(0,[0,1,6,15,16]),(2,[0,1,6,23,24,25]),(4,[6,35,36,37])],[(0,[0,1,6]),(1,[0,1,6,15,16]),(2,[0,6]),(3,[0,1,6,23,24,25]),(4,[6]),(5,[6,35,36,37])],[4,5],[],[[true],[false]]⟩
def g75_T (m : Nat) : FunT := ⟨75,[.a (.c (.imm (.int .i64))),.a (.c (.int .i64))],.tup [(.c (.nm 0 (.int .i64))),(.c (.int .i64))],[.a (.c .dead),.a (.c .dead)],fun (x : List Int × Int × Unit) => g75 m x.1 x.2.1⟩
noncomputable def g75_C : Code := codeOf Tryz.f75
noncomputable def g75_B0 : Code := qo g75_C 0 0
noncomputable def g75_B2 : Code := qo g75_C 0 1
noncomputable def g75_B4 : Code := qo g75_C 0 2
theorem g75_K (m : Nat) : ∀ u ∈ [g57_T m],FunOK Tryz.prog u := AllF.mem ⟨g57_ok m,trivial⟩
def g75_L2_X (m : Nat) : LT := ⟨4,[(6,.a (.c (.nm 0 (.int .i64)))),(35,.a (.c (.imm (.int .i64)))),(36,.a (.c (.int .i64))),(37,.a (.c (.int .i64)))],[(.ret,[(4,.a (.c (.nm 0 (.int .i64)))),(5,.a (.c (.int .i64)))]),(.exit 4,[(6,.a (.c (.nm 0 (.int .i64))))])],fun n (x : List Int × List Int × Int × Int × Unit) => g75_L2 m n x.1 x.2.1 x.2.2.1 x.2.2.2.1⟩
theorem g75_L2_ok {E : Entry} (hE : EOf Tryz.prog E 53 g75_H.pins) (m : Nat) (n : Nat) : qm Tryz.prog E g75_B4 ((g75_L2_X m).at n) :=
  lok hmix htt hE (g75_K m) (L := []) (g75_L2_X m) (l := []) (by kernel_rfl) (fun _ _ => trivial) (fun n x => by kernel_rfl) (fun _ => by kernel_rfl) n
def g75_L1_X (m : Nat) : LT := ⟨2,[(0,.a (.c (.imm (.int .i64)))),(1,.a (.c (.int .i64))),(6,.a (.c (.nm 0 (.int .i64)))),(23,.a (.c (.imm (.int .i64)))),(24,.a (.c (.int .i64))),(25,.a (.c (.int .i64)))],[(.ret,[(4,.a (.c (.nm 0 (.int .i64)))),(5,.a (.c (.int .i64)))]),(.exit 2,[(0,.a (.c (.imm (.int .i64)))),(6,.a (.c (.nm 0 (.int .i64))))])],fun n (x : List Int × Int × List Int × List Int × Int × Int × Unit) => g75_L1 m n x.1 x.2.1 x.2.2.1 x.2.2.2.1 x.2.2.2.2.1 x.2.2.2.2.2.1⟩
theorem g75_L1_ok {E : Entry} (hE : EOf Tryz.prog E 53 g75_H.pins) (m : Nat) (n : Nat) : qm Tryz.prog E g75_B2 ((g75_L1_X m).at n) :=
  lok hmix htt hE (g75_K m) (L := []) (g75_L1_X m) (l := []) (by kernel_rfl) (fun _ _ => trivial) (fun n x => by kernel_rfl) (fun _ => by kernel_rfl) n
def g75_L0_X (m : Nat) : LT := ⟨0,[(0,.a (.c (.imm (.int .i64)))),(1,.a (.c (.int .i64))),(6,.a (.c (.nm 0 (.int .i64)))),(15,.a (.c (.int .i64))),(16,.a (.c (.int .i64)))],[(.exit 0,[(0,.a (.c (.imm (.int .i64)))),(1,.a (.c (.int .i64))),(6,.a (.c (.nm 0 (.int .i64))))])],fun n (x : List Int × Int × List Int × Int × Int × Unit) => g75_L0 m n x.1 x.2.1 x.2.2.1 x.2.2.2.1 x.2.2.2.2.1⟩
theorem g75_L0_ok {E : Entry} (hE : EOf Tryz.prog E 53 g75_H.pins) (m : Nat) (n : Nat) : qm Tryz.prog E g75_B0 ((g75_L0_X m).at n) :=
  lok hmix htt hE (g75_K m) (L := []) (g75_L0_X m) (l := []) (by kernel_rfl) (fun _ _ => trivial) (fun n x => by kernel_rfl) (fun _ => by kernel_rfl) n
theorem g75_ok (m : Nat) : FunOK Tryz.prog (g75_T m) :=
  fok hmix htt (H := g75_H) (g75_T m) Tryz.func75 (by kernel_rfl) (g75_K m) (L := [(g75_L0_X m).at m,(g75_L1_X m).at m,(g75_L2_X m).at m]) (l := [(0,g75_B0),(2,g75_B2),(4,g75_B4)]) (by kernel_rfl) (fun _ hE _ _ => ⟨qh ⟨yb (g75_L0_ok hE m m),nb rfl,nb rfl,trivial⟩,qh ⟨nb rfl,yb (g75_L1_ok hE m m),nb rfl,trivial⟩,qh ⟨nb rfl,nb rfl,yb (g75_L2_ok hE m m),trivial⟩,trivial⟩) (fun x => by kernel_rfl)
/-! 76 sparse/matrix.selected -/
def g76_H : Hints := ⟨[⟨[],[1,2,3,4,5,10]⟩,⟨[],[1,2,3,4,5,10,11]⟩,⟨[],[1,2,3,4,10,11,15,16,17]⟩,⟨[],[1,2,3,4,10,11,15,16,17,18]⟩,⟨[],[1,2,3,4,10,11,13,15,16,17]⟩,⟨[(6,1)],[1,2,3,4,10,11,13,15,16,17,34]⟩,⟨[(0,1)],[1,2,3,4,10,11,15,16,17]⟩,⟨[(1,1)],[1,2,3,4,10,11,15,16,17]⟩,⟨[(0,1),(2,1),(4,1)],[10]⟩],[(0,[1,2,3,4,10,11,15,16,17])],[(0,[1,2,10,11]),(1,[1,2,3,4,10,11,15,16,17])],[10],[],[[false,false,true,true,true]]⟩
def g76_T (m : Nat) : FunT := ⟨76,[.a (.agg [(.int .i64),(.int .i64),(.imm (.int .i64)),(.imm (.int .i64)),(.imm (.int .u64))]),.a (.c (.imm (.int .i64))),.a (.c (.imm (.int .i64))),.a (.c (.imm (.int .i64))),.a (.c (.imm (.int .i64)))],.a (.agg [(.int .i64),(.int .i64),(.nm 0 (.int .i64)),(.nm 1 (.int .i64)),(.nm 2 (.int .u64))]),[.a (.c .dead),.a (.c .dead),.a (.c .dead),.a (.c .dead),.a (.c .dead)],fun (x : (Int × Int × List Int × List Int × List Int × Unit) × List Int × List Int × List Int × List Int × Unit) => g76 m x.1.1 x.1.2.1 x.1.2.2.1 x.1.2.2.2.1 x.1.2.2.2.2.1 x.2.1 x.2.2.1 x.2.2.2.1 x.2.2.2.2.1⟩
noncomputable def g76_C : Code := codeOf Tryz.f76
noncomputable def g76_B0 : Code := qo g76_C 0 0
theorem g76_K (m : Nat) : ∀ u ∈ [g73_T m,g62_T m],FunOK Tryz.prog u := AllF.mem ⟨g73_ok m,g62_ok m,trivial⟩
def g76_L0_X (m : Nat) : LT := ⟨0,[(1,.a (.c (.imm (.int .i64)))),(2,.a (.c (.imm (.int .i64)))),(3,.a (.c (.imm (.int .i64)))),(4,.a (.c (.imm (.int .i64)))),(10,.a (.bx 0 [(.int .i64),(.int .i64),(.nm 1 (.int .i64)),(.nm 2 (.int .i64)),(.nm 3 (.int .u64))])),(11,.a (.c (.nm 4 (.pr (.int .i64) (.pr (.int .i64) (.int .u64)))))),(15,.a (.c (.nm 5 (.pr (.int .i64) (.pr (.int .i64) (.int .u64)))))),(16,.a (.c (.int .i64))),(17,.a (.c (.int .i64)))],[(.exit 0,[(1,.a (.c (.imm (.int .i64)))),(2,.a (.c (.imm (.int .i64)))),(10,.a (.bx 0 [(.int .i64),(.int .i64),(.nm 1 (.int .i64)),(.nm 2 (.int .i64)),(.nm 3 (.int .u64))])),(11,.a (.c (.nm 4 (.pr (.int .i64) (.pr (.int .i64) (.int .u64))))))])],fun n (x : List Int × List Int × List Int × List Int × (Int × Int × List Int × List Int × List Int × Unit) × (List (Int × Int × Int)) × (List (Int × Int × Int)) × Int × Int × Unit) => g76_L0 m n x.1 x.2.1 x.2.2.1 x.2.2.2.1 x.2.2.2.2.1.1 x.2.2.2.2.1.2.1 x.2.2.2.2.1.2.2.1 x.2.2.2.2.1.2.2.2.1 x.2.2.2.2.1.2.2.2.2.1 x.2.2.2.2.2.1 x.2.2.2.2.2.2.1 x.2.2.2.2.2.2.2.1 x.2.2.2.2.2.2.2.2.1⟩
theorem g76_L0_ok {E : Entry} (hE : EOf Tryz.prog E 58 g76_H.pins) (m : Nat) (n : Nat) : qm Tryz.prog E g76_B0 ((g76_L0_X m).at n) :=
  lok hmix htt hE (g76_K m) (L := []) (g76_L0_X m) (l := []) (by kernel_rfl) (fun _ _ => trivial) (fun n x => by kernel_rfl) (fun _ => by kernel_rfl) n
theorem g76_ok (m : Nat) : FunOK Tryz.prog (g76_T m) :=
  fok hmix htt (H := g76_H) (g76_T m) Tryz.func76 (by kernel_rfl) (g76_K m) (L := [(g76_L0_X m).at m]) (l := [(0,g76_B0)]) (by kernel_rfl) (fun _ hE _ _ => ⟨qh ⟨yb (g76_L0_ok hE m m),trivial⟩,trivial⟩) (fun x => by kernel_rfl)
/-! 25 sparse/matrix.Permute -/
def g25_H : Hints := ⟨[⟨[],[1,2,3,6]⟩,⟨[],[1,2,3,6,8]⟩,⟨[],[1,2,3,6,8,14]⟩,⟨[(1,1)],[6,7]⟩,⟨[(5,1)],[1,2,3,6,19]⟩,⟨[],[6,7]⟩,⟨[(4,1)],[1,2,3,6,8,9]⟩,⟨[(4,1)],[1,2,3,6,8,9,10,11]⟩,⟨[(0,1),(2,1),(3,1)],[1,2,3,6,9,10,52]⟩,⟨[],[6,7]⟩,⟨[(1,1),(2,1),(3,1),(4,1)],[6,7]⟩],[],[(0,[1,2,3,6])],[6,7],[],[[false,false,true,true,true],[false]]⟩
def g25_T (m : Nat) : FunT := ⟨25,[.a (.agg [(.int .i64),(.int .i64),(.imm (.int .i64)),(.imm (.int .i64)),(.imm (.int .u64))]),.a (.c (.imm (.int .i64))),.a (.c (.imm (.int .i64)))],.tup [(.agg [(.int .i64),(.int .i64),(.nm 0 (.int .i64)),(.nm 1 (.int .i64)),(.nm 2 (.int .u64))]),(.c (.int .i64))],[.a (.c .dead),.a (.c .dead),.a (.c .dead)],fun (x : (Int × Int × List Int × List Int × List Int × Unit) × List Int × List Int × Unit) => g25 m x.1.1 x.1.2.1 x.1.2.2.1 x.1.2.2.2.1 x.1.2.2.2.2.1 x.2.1 x.2.2.1⟩
theorem g25_ok (m : Nat) : FunOK Tryz.prog (g25_T m) :=
  fok hmix htt (H := g25_H) (g25_T m) Tryz.func25 (by kernel_rfl) (AllF.mem (l := [g44_T m,g75_T m,g76_T m]) ⟨g44_ok m,g75_ok m,g76_ok m,trivial⟩) (L := []) (l := []) (by kernel_rfl) (fun _ hE _ _ => trivial) (fun x => by kernel_rfl)
/-! 5 sparse/sparselaw09.MatrixAdjoint -/
def sparselaw09_MatrixAdjoint_H : Hints := ⟨[⟨[],[0,1,2,3,4,5]⟩,⟨[],[0,1,2,3,4,5,35]⟩,⟨[],[12]⟩,⟨[(0,1),(2,1)],[0,1,2,3,4,5]⟩,⟨[(2,1)],[0,1,3,4,5,13]⟩,⟨[(2,1)],[0,1,3,4,5,13,14,15]⟩,⟨[],[0,1,3,4,5,13,14,15,16]⟩,⟨[(3,1)],[0,1,3,4,5,13,15,16,17,18]⟩,⟨[(1,1),(3,1)],[0,1,3,4,5,13,15,17,18,19,20]⟩,⟨[(0,1),(2,1),(3,1),(6,1),(7,1),(10,1),(16,1),(17,1)],[0,1,3,4,5,13,86]⟩,⟨[],[12]⟩,⟨[(0,1),(3,1)],[0,1,3,13,21,22]⟩,⟨[(4,1)],[0,1,3,13,21,22,23,24]⟩,⟨[(0,1)],[0,1,13,21,22,23,24,25]⟩,⟨[],[0,1,13,21,22,23,24,25,26]⟩,⟨[],[0,1,13,21,22,23,24,25,26,27]⟩,⟨[],[0,1,13,21,22,23,24,25,26,27,105]⟩,⟨[(0,1)],[0,1,13,21,22,23,24,25,26,27]⟩,⟨[(0,1)],[0,1,13,21,22,23,24,25,26,27]⟩,⟨[(1,1),(3,1)],[0,21,23,24,26,28,29]⟩,⟨[(1,1),(3,1)],[0,21,24,28,29,30,31]⟩,⟨[(0,1),(2,1),(3,1),(6,1),(7,1),(10,1),(16,1)],[0,21,28,30,151]⟩,⟨[],[12]⟩,⟨[],[0,21,28,30,32]⟩,⟨[],[0,21,28,30,32,154]⟩,⟨[(0,1)],[0,21,28,30,32]⟩,⟨[],[0,21,28,30,32,168]⟩,⟨[],[12]⟩,⟨[],[12]⟩],[(0,[0,1,13,21,22,23,24,25,26,27]),(2,[0,21,28,30,32])],[(0,[0,13,21,23,24,25,26]),(1,[0,1,13,21,22,23,24,25,26,27]),(2,[]),(3,[0,21,28,30,32])],[12],[],[[false]]⟩
abbrev sparselaw09_MatrixAdjoint_A : List Sh := [.a (.c (.int .i64)),.a (.c (.int .i64)),.a (.c (.imm (.int .i64))),.a (.c (.imm (.int .i64))),.a (.c (.imm (.int .i64))),.a (.c (.imm (.int .i64)))]
abbrev sparselaw09_MatrixAdjoint_S : Sh := .a (.c .bool)
abbrev sparselaw09_MatrixAdjoint_U : List Sh := [.a (.c .dead),.a (.c .dead),.a (.c .dead),.a (.c .dead),.a (.c .dead),.a (.c .dead)]
def sparselaw09_MatrixAdjoint_R (m : Nat) : Qq sparselaw09_MatrixAdjoint_A → Option (sparselaw09_MatrixAdjoint_S.Val × Qq sparselaw09_MatrixAdjoint_U) := fun (x : Int × Int × List Int × List Int × List Int × List Int × Unit) => sparselaw09_MatrixAdjoint m x.1 x.2.1 x.2.2.1 x.2.2.2.1 x.2.2.2.2.1 x.2.2.2.2.2.1
def sparselaw09_MatrixAdjoint_T (m : Nat) : FunT := ⟨5,sparselaw09_MatrixAdjoint_A,sparselaw09_MatrixAdjoint_S,sparselaw09_MatrixAdjoint_U,sparselaw09_MatrixAdjoint_R m⟩
noncomputable def sparselaw09_MatrixAdjoint_C : Code := codeOf Tryz.f5
noncomputable def sparselaw09_MatrixAdjoint_B0 : Code := qo sparselaw09_MatrixAdjoint_C 0 0
noncomputable def sparselaw09_MatrixAdjoint_B2 : Code := qo sparselaw09_MatrixAdjoint_C 0 1
theorem sparselaw09_MatrixAdjoint_K (m : Nat) : ∀ u ∈ [sparselaw09_awake_T m,g20_T m,g21_T m,g22_T m,g23_T m,g15_T m,g17_T m,g19_T m,g24_T m,g25_T m],FunOK Tryz.prog u := AllF.mem ⟨sparselaw09_awake_ok m,g20_ok m,g21_ok m,g22_ok m,g23_ok m,g15_ok m,g17_ok m,g19_ok m,g24_ok m,g25_ok m,trivial⟩
def sparselaw09_MatrixAdjoint_L1_X (m : Nat) : LT := ⟨2,[(0,.a (.c (.int .i64))),(21,.a (.c (.nm 0 (.int .i64)))),(28,.a (.c (.nm 1 (.int .u64)))),(30,.a (.c (.nm 2 (.int .u64)))),(32,.a (.c (.int .i64)))],[(.ret,[(12,.a (.c .bool))]),(.exit 2,[])],fun n (x : Int × List Int × List Int × List Int × Int × Unit) => sparselaw09_MatrixAdjoint_L1 m n x.1 x.2.1 x.2.2.1 x.2.2.2.1 x.2.2.2.2.1⟩
theorem sparselaw09_MatrixAdjoint_L1_ok {E : Entry} (hE : EOf Tryz.prog E 170 sparselaw09_MatrixAdjoint_H.pins) (m : Nat) (n : Nat) : qm Tryz.prog E sparselaw09_MatrixAdjoint_B2 ((sparselaw09_MatrixAdjoint_L1_X m).at n) :=
  lok hmix htt hE (sparselaw09_MatrixAdjoint_K m) (L := []) (sparselaw09_MatrixAdjoint_L1_X m) (l := []) (by kernel_rfl) (fun _ _ => trivial) (fun n x => by kernel_rfl) (fun _ => by kernel_rfl) n
def sparselaw09_MatrixAdjoint_L0_X (m : Nat) : LT := ⟨0,[(0,.a (.c (.int .i64))),(1,.a (.c (.int .i64))),(13,.a (.bx 0 [(.int .i64),(.int .i64),(.nm 1 (.int .i64)),(.nm 2 (.int .i64)),(.nm 3 (.int .u64))])),(21,.a (.c (.nm 4 (.int .i64)))),(22,.a (.c (.nm 5 (.int .i64)))),(23,.a (.bx 6 [(.int .i64),(.int .i64),(.nm 7 (.int .i64)),(.nm 8 (.int .i64)),(.nm 9 (.int .u64))])),(24,.a (.c (.int .i64))),(25,.a (.c (.nm 10 (.int .u64)))),(26,.a (.c (.nm 11 (.int .u64)))),(27,.a (.c (.int .i64)))],[(.exit 0,[(0,.a (.c (.int .i64))),(13,.a (.bx 0 [(.int .i64),(.int .i64),(.nm 1 (.int .i64)),(.nm 2 (.int .i64)),(.nm 3 (.int .u64))])),(21,.a (.c (.nm 4 (.int .i64)))),(23,.a (.bx 5 [(.int .i64),(.int .i64),(.nm 6 (.int .i64)),(.nm 7 (.int .i64)),(.nm 8 (.int .u64))])),(24,.a (.c (.int .i64))),(25,.a (.c (.nm 9 (.int .u64)))),(26,.a (.c (.nm 10 (.int .u64))))])],fun n (x : Int × Int × (Int × Int × List Int × List Int × List Int × Unit) × List Int × List Int × (Int × Int × List Int × List Int × List Int × Unit) × Int × List Int × List Int × Int × Unit) => sparselaw09_MatrixAdjoint_L0 m n x.1 x.2.1 x.2.2.1.1 x.2.2.1.2.1 x.2.2.1.2.2.1 x.2.2.1.2.2.2.1 x.2.2.1.2.2.2.2.1 x.2.2.2.1 x.2.2.2.2.1 x.2.2.2.2.2.1.1 x.2.2.2.2.2.1.2.1 x.2.2.2.2.2.1.2.2.1 x.2.2.2.2.2.1.2.2.2.1 x.2.2.2.2.2.1.2.2.2.2.1 x.2.2.2.2.2.2.1 x.2.2.2.2.2.2.2.1 x.2.2.2.2.2.2.2.2.1 x.2.2.2.2.2.2.2.2.2.1⟩
theorem sparselaw09_MatrixAdjoint_L0_ok {E : Entry} (hE : EOf Tryz.prog E 170 sparselaw09_MatrixAdjoint_H.pins) (m : Nat) (n : Nat) : qm Tryz.prog E sparselaw09_MatrixAdjoint_B0 ((sparselaw09_MatrixAdjoint_L0_X m).at n) :=
  lok hmix htt hE (sparselaw09_MatrixAdjoint_K m) (L := []) (sparselaw09_MatrixAdjoint_L0_X m) (l := []) (by kernel_rfl) (fun _ _ => trivial) (fun n x => by kernel_rfl) (fun _ => by kernel_rfl) n
theorem sparselaw09_MatrixAdjoint_ok (m : Nat) : FunOK Tryz.prog (sparselaw09_MatrixAdjoint_T m) :=
  fok hmix htt (H := sparselaw09_MatrixAdjoint_H) (sparselaw09_MatrixAdjoint_T m) Tryz.func5 (by kernel_rfl) (sparselaw09_MatrixAdjoint_K m) (L := [(sparselaw09_MatrixAdjoint_L0_X m).at m,(sparselaw09_MatrixAdjoint_L1_X m).at m]) (l := [(0,sparselaw09_MatrixAdjoint_B0),(2,sparselaw09_MatrixAdjoint_B2)]) (by kernel_rfl) (fun _ hE _ _ => ⟨qh ⟨yb (sparselaw09_MatrixAdjoint_L0_ok hE m m),nb rfl,trivial⟩,qh ⟨nb rfl,yb (sparselaw09_MatrixAdjoint_L1_ok hE m m),trivial⟩,trivial⟩) (fun x => by kernel_rfl)
/-! 26 sparse/matrix.Integers -/
/-! 187 slices.isNaN_int_ -/
/-! 143 slices.BinarySearch___int_int_ -/
/-! 85 sparse/matrix.at -/
/-! 30 sparse/matrix.At -/
/-! 138 sparse/sparsekit.Limbs -/
/-! 79 sparse/sparsekit.Big -/
/-! 27 sparse/sparsekit.Dyad -/
/-! 6 sparse/sparselaw09.MatrixWhole -/
/-! 33 sparse/sparsemake.Square -/
/-! 146 sparse/dyad.Neg -/
/-! 188 sparse/dyad.aligned -/
/-! 145 sparse/dyad.Add -/
/-! 91 sparse/dyad.Sub -/
/-! 144 sparse/dyad.Cmp -/
/-! 90 sparse/matrix.exactly -/
/-! 35 sparse/matrix.Shift -/
/-! 108 sparse/float.Kind -/
/-! 92 sparse/float.nan -/
/-! 36 sparse/float.Neg -/
/-! 63 sparse/sparseref03.IsFinite -/
/-! 68 sparse/sparseref06.Finite -/
/-! 45 sparse/sparseref09.Check -/
/-! 38 sparse/sparseref09.At -/
/-! 95 sparse/sparseref03.Minus -/
/-! 37 sparse/sparseref03.Of -/
/-! 97 sparse/sparseref02.Neg -/
/-! 151 sparse/sparseref02.align -/
/-! 96 sparse/sparseref02.Add -/
/-! 39 sparse/sparseref02.Sub -/
/-! 7 sparse/sparselaw09.MatrixShifted -/
/-! 14 sparse/sparselaw09.small -/
/-! 110 sparse/matrix.plus -/
/-! 109 sparse/dyad.Scale -/
/-! 53 sparse/matrix.Scale -/
/-! 48 sparse/sparseref09.Entries -/
/-! 111 sparse/sparseref03.Kind -/
/-! 116 sparse/sparseref09.far -/
/-! 191 sparse/sparseref01.Cmp -/
/-! 166 sparse/sparseref02.Cmp -/
/-! 115 sparse/sparseref09.Whole -/
end Go.Vs.F
