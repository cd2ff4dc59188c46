/- The plain functions are what the code does (by program: gen.py). -/
import Derived.Test.YtjjndhlkoehkdaaGreatDoorOka

/-! MzOk2 -/
set_option linter.unusedVariables false
set_option maxRecDepth 100000
namespace Go.Vs.F
open Go.Proofs
/-! 42 sparse/sparseref09.Dense -/
def g42_H : Hints := ⟨[⟨[],[1]⟩,⟨[],[1,4]⟩,⟨[],[1,4,12]⟩,⟨[(0,1)],[2,3]⟩,⟨[(0,6)],[1,5]⟩,⟨[],[1,5,6]⟩,⟨[],[1,5,6,17]⟩,⟨[(0,1)],[1,5,6]⟩,⟨[(0,1),(4,6),(5,6)],[1,5,6]⟩,⟨[],[5,7]⟩,⟨[],[5,7,8]⟩,⟨[],[5,7,8,31]⟩,⟨[(0,1)],[5,7,8]⟩,⟨[],[5,7,8]⟩,⟨[(0,1)],[2,3]⟩],[(0,[1,5,6]),(2,[5,7,8])],[(0,[1,5]),(1,[1,5,6]),(2,[5]),(3,[5,7,8])],[2,3],[],[[false],[false]]⟩
def g42_T (m : Nat) : FunT := ⟨42,[.a (.agg [(.int .i64),(.int .i64),(.imm (.int .i64)),(.imm (.int .i64)),(.imm (.int .u64))])],.tup [(.c (.imm (.sl false (.int .u64)))),(.c (.int .i64))],[.a (.c .dead)],fun (x : (Int × Int × List Int × List Int × List Int × Unit) × Unit) => g42 m x.1.1 x.1.2.1 x.1.2.2.1 x.1.2.2.2.1 x.1.2.2.2.2.1⟩
noncomputable def g42_C : Code := codeOf Tryz.f42
noncomputable def g42_B0 : Code := qo g42_C 0 0
noncomputable def g42_B2 : Code := qo g42_C 0 1
theorem g42_K (m : Nat) : ∀ u ∈ [g45_T m,g48_T m],FunOK Tryz.prog u := AllF.mem ⟨g45_ok m,g48_ok m,trivial⟩
def g42_L1_X (m : Nat) : LT := ⟨2,[(5,.a (.c (.dp 0 (.int .u64)))),(7,.a (.c (.nm 1 (.pr (.int .i64) (.pr (.int .i64) (.int .u64)))))),(8,.a (.c (.int .i64)))],[(.exit 2,[(5,.a (.c (.dp 0 (.int .u64))))])],fun n (x : List (List Int) × (List (Int × Int × Int)) × Int × Unit) => g42_L1 m n x.1 x.2.1 x.2.2.1⟩
theorem g42_L1_ok {E : Entry} (hE : EOf Tryz.prog E 54 g42_H.pins) (m : Nat) (n : Nat) : ql Tryz.prog E g42_B2 ((g42_L1_X m).at n) :=
  lok hmix htt hE (g42_K m) (L := []) (g42_L1_X m) (l := []) (by kernel_rfl) (fun _ _ => trivial) (fun n x => by kernel_rfl) (fun _ => by kernel_rfl) n
def g42_L0_X (m : Nat) : LT := ⟨0,[(1,.a (.bx 0 [(.int .i64),(.int .i64),(.imm (.int .i64)),(.imm (.int .i64)),(.imm (.int .u64))])),(5,.a (.c (.dp 1 (.int .u64)))),(6,.a (.c (.int .i64)))],[(.exit 0,[(1,.a (.bx 0 [(.int .i64),(.int .i64),(.imm (.int .i64)),(.imm (.int .i64)),(.imm (.int .u64))])),(5,.a (.c (.dp 1 (.int .u64))))])],fun n (x : (Int × Int × List Int × List Int × List Int × Unit) × List (List Int) × Int × Unit) => g42_L0 m n x.1.1 x.1.2.1 x.1.2.2.1 x.1.2.2.2.1 x.1.2.2.2.2.1 x.2.1 x.2.2.1⟩
theorem g42_L0_ok {E : Entry} (hE : EOf Tryz.prog E 54 g42_H.pins) (m : Nat) (n : Nat) : ql Tryz.prog E g42_B0 ((g42_L0_X m).at n) :=
  lok hmix htt hE (g42_K m) (L := []) (g42_L0_X m) (l := []) (by kernel_rfl) (fun _ _ => trivial) (fun n x => by kernel_rfl) (fun _ => by kernel_rfl) n
theorem g42_ok (m : Nat) : FunOK Tryz.prog (g42_T m) :=
  fok hmix htt (H := g42_H) (g42_T m) Tryz.func42 (by kernel_rfl) (g42_K m) (L := [(g42_L0_X m).at m,(g42_L1_X m).at m]) (l := [(0,g42_B0),(2,g42_B2)]) (by kernel_rfl) (fun _ hE _ _ => ⟨qi ⟨yb (g42_L0_ok hE m m),nb rfl,trivial⟩,qi ⟨nb rfl,yb (g42_L1_ok hE m m),trivial⟩,trivial⟩) (fun x => by kernel_rfl)
/-! 93 sparse/sparseref02.Bad -/
def g93_H : Hints := ⟨[⟨[],[0]⟩,⟨[],[0]⟩],[],[],[0],[],[[false,false,true,false]]⟩
def g93_T (m : Nat) : FunT := ⟨93,[],.a (.agg [.bool,.bool,(.nm 0 (.int .u32)),(.int .i64)]),[],fun (x : Unit) => g93 m⟩
theorem g93_ok (m : Nat) : FunOK Tryz.prog (g93_T m) :=
  fok hmix htt (H := g93_H) (g93_T m) Tryz.func93 (by kernel_rfl) noF (L := []) (l := []) (by kernel_rfl) (fun _ hE _ _ => trivial) (fun x => by kernel_rfl)
/-! 95 sparse/sparseref03.Minus -/
def g95_H : Hints := ⟨[⟨[],[0]⟩,⟨[(0,1)],[2]⟩],[],[],[2],[],[[false]]⟩
def g95_T (m : Nat) : FunT := ⟨95,[.a (.c (.int .u64))],.a (.c .bool),[.a (.c .dead)],fun (x : Int × Unit) => g95 m x.1⟩
theorem g95_ok (m : Nat) : FunOK Tryz.prog (g95_T m) :=
  fok hmix htt (H := g95_H) (g95_T m) Tryz.func95 (by kernel_rfl) noF (L := []) (l := []) (by kernel_rfl) (fun _ hE _ _ => trivial) (fun x => by kernel_rfl)
/-! 162 sparse/sparseref01.trim -/
def g162_H : Hints := ⟨[⟨[],[0]⟩,⟨[],[0,3]⟩,⟨[(2,1)],[0,3,17]⟩,⟨[(0,1)],[0,3]⟩,⟨[],[0,3,4]⟩,⟨[],[0,3,4,5]⟩,⟨[],[0,3,4,5,22]⟩,⟨[(0,1)],[0,3,4,5]⟩,⟨[(0,1)],[0,3,4,5]⟩,⟨[(0,1)],[2]⟩],[(0,[0,3]),(2,[0,3,4,5])],[(0,[0,3]),(1,[0,3]),(2,[4]),(3,[0,3,4,5])],[2],[],[[true]]⟩
def g162_T (m : Nat) : FunT := ⟨162,[.a (.c (.imm (.int .u32)))],.a (.c (.nm 0 (.int .u32))),[.a (.c .dead)],fun (x : List Int × Unit) => g162 m x.1⟩
noncomputable def g162_C : Code := codeOf Tryz.f162
noncomputable def g162_B0 : Code := qo g162_C 0 0
noncomputable def g162_B2 : Code := qo g162_C 0 1
def g162_L1_X (m : Nat) : LT := ⟨2,[(0,.a (.c (.imm (.int .u32)))),(3,.a (.c (.int .i64))),(4,.a (.c (.nm 0 (.int .u32)))),(5,.a (.c (.int .i64)))],[(.exit 2,[(4,.a (.c (.nm 0 (.int .u32))))])],fun n (x : List Int × Int × List Int × Int × Unit) => g162_L1 m n x.1 x.2.1 x.2.2.1 x.2.2.2.1⟩
theorem g162_L1_ok {E : Entry} (hE : EOf Tryz.prog E 33 g162_H.pins) (m : Nat) (n : Nat) : ql Tryz.prog E g162_B2 ((g162_L1_X m).at n) :=
  lok hmix htt hE noF (L := []) (g162_L1_X m) (l := []) (by kernel_rfl) (fun _ _ => trivial) (fun n x => by kernel_rfl) (fun _ => by kernel_rfl) n
def g162_L0_X (m : Nat) : LT := ⟨0,[(0,.a (.c (.imm (.int .u32)))),(3,.a (.c (.int .i64)))],[(.exit 0,[(0,.a (.c (.imm (.int .u32)))),(3,.a (.c (.int .i64)))])],fun n (x : List Int × Int × Unit) => g162_L0 m n x.1 x.2.1⟩
theorem g162_L0_ok {E : Entry} (hE : EOf Tryz.prog E 33 g162_H.pins) (m : Nat) (n : Nat) : ql Tryz.prog E g162_B0 ((g162_L0_X m).at n) :=
  lok hmix htt hE noF (L := []) (g162_L0_X m) (l := []) (by kernel_rfl) (fun _ _ => trivial) (fun n x => by kernel_rfl) (fun _ => by kernel_rfl) n
theorem g162_ok (m : Nat) : FunOK Tryz.prog (g162_T m) :=
  fok hmix htt (H := g162_H) (g162_T m) Tryz.func162 (by kernel_rfl) noF (L := [(g162_L0_X m).at m,(g162_L1_X m).at m]) (l := [(0,g162_B0),(2,g162_B2)]) (by kernel_rfl) (fun _ hE _ _ => ⟨qi ⟨yb (g162_L0_ok hE m m),nb rfl,trivial⟩,qi ⟨nb rfl,yb (g162_L1_ok hE m m),trivial⟩,trivial⟩) (fun x => by kernel_rfl)
/-! 153 sparse/sparseref01.make1 -/
def g153_H : Hints := ⟨[⟨[],[0,1,4]⟩,⟨[(0,1)],[0,1,4]⟩,⟨[(0,1),(1,1),(6,1)],[4]⟩],[],[],[4],[],[[false,true]]⟩
def g153_T (m : Nat) : FunT := ⟨153,[.a (.c .bool),.a (.c (.imm (.int .u32)))],.a (.agg [.bool,(.nm 0 (.int .u32))]),[.a (.c .dead),.a (.c .dead)],fun (x : Bool × List Int × Unit) => g153 m x.1 x.2.1⟩
theorem g153_ok (m : Nat) : FunOK Tryz.prog (g153_T m) :=
  fok hmix htt (H := g153_H) (g153_T m) Tryz.func153 (by kernel_rfl) (AllF.mem (l := [g162_T m]) ⟨g162_ok m,trivial⟩) (L := []) (l := []) (by kernel_rfl) (fun _ hE _ _ => trivial) (fun x => by kernel_rfl)
/-! 147 sparse/sparseref01.Norm -/
def g147_H : Hints := ⟨[⟨[],[1,2]⟩,⟨[],[2]⟩],[],[],[2],[],[[false,true]]⟩
def g147_T (m : Nat) : FunT := ⟨147,[.a (.agg [.bool,(.imm (.int .u32))])],.a (.agg [.bool,(.nm 0 (.int .u32))]),[.a (.c .dead)],fun (x : (Bool × List Int × Unit) × Unit) => g147 m x.1.1 x.1.2.1⟩
theorem g147_ok (m : Nat) : FunOK Tryz.prog (g147_T m) :=
  fok hmix htt (H := g147_H) (g147_T m) Tryz.func147 (by kernel_rfl) (AllF.mem (l := [g153_T m]) ⟨g153_ok m,trivial⟩) (L := []) (l := []) (by kernel_rfl) (fun _ hE _ _ => trivial) (fun x => by kernel_rfl)
/-! 148 sparse/sparseref01.TrailingZeros -/
def g148_H : Hints := ⟨[⟨[],[1]⟩,⟨[],[3]⟩,⟨[],[3,4]⟩,⟨[],[3,4,11]⟩,⟨[(0,1)],[3,4]⟩,⟨[],[3,4,18]⟩,⟨[(2,1)],[2]⟩,⟨[],[2]⟩],[(0,[3,4])],[(0,[]),(1,[3,4])],[2],[],[[false]]⟩
def g148_T (m : Nat) : FunT := ⟨148,[.a (.agg [.bool,(.imm (.int .u32))])],.a (.c (.int .i64)),[.a (.c .dead)],fun (x : (Bool × List Int × Unit) × Unit) => g148 m x.1.1 x.1.2.1⟩
noncomputable def g148_C : Code := codeOf Tryz.f148
noncomputable def g148_B0 : Code := qo g148_C 0 0
theorem g148_K (m : Nat) : ∀ u ∈ [g162_T m,g87_T m],FunOK Tryz.prog u := AllF.mem ⟨g162_ok m,g87_ok m,trivial⟩
def g148_L0_X (m : Nat) : LT := ⟨0,[(3,.a (.c (.nm 0 (.int .u32)))),(4,.a (.c (.int .i64)))],[(.ret,[(2,.a (.c (.int .i64)))]),(.exit 0,[])],fun n (x : List Int × Int × Unit) => g148_L0 m n x.1 x.2.1⟩
theorem g148_L0_ok {E : Entry} (hE : EOf Tryz.prog E 27 g148_H.pins) (m : Nat) (n : Nat) : ql Tryz.prog E g148_B0 ((g148_L0_X m).at n) :=
  lok hmix htt hE (g148_K m) (L := []) (g148_L0_X m) (l := []) (by kernel_rfl) (fun _ _ => trivial) (fun n x => by kernel_rfl) (fun _ => by kernel_rfl) n
theorem g148_ok (m : Nat) : FunOK Tryz.prog (g148_T m) :=
  fok hmix htt (H := g148_H) (g148_T m) Tryz.func148 (by kernel_rfl) (g148_K m) (L := [(g148_L0_X m).at m]) (l := [(0,g148_B0)]) (by kernel_rfl) (fun _ hE _ _ => ⟨qi ⟨yb (g148_L0_ok hE m m),trivial⟩,trivial⟩) (fun x => by kernel_rfl)
/-! 131 sparse/sparseref01.Abs -/
def g131_H : Hints := ⟨[⟨[],[1,2]⟩,⟨[],[2]⟩],[],[],[2],[],[[false,true]]⟩
def g131_T (m : Nat) : FunT := ⟨131,[.a (.agg [.bool,(.imm (.int .u32))])],.a (.agg [.bool,(.nm 0 (.int .u32))]),[.a (.c .dead)],fun (x : (Bool × List Int × Unit) × Unit) => g131 m x.1.1 x.1.2.1⟩
theorem g131_ok (m : Nat) : FunOK Tryz.prog (g131_T m) :=
  fok hmix htt (H := g131_H) (g131_T m) Tryz.func131 (by kernel_rfl) (AllF.mem (l := [g153_T m]) ⟨g153_ok m,trivial⟩) (L := []) (l := []) (by kernel_rfl) (fun _ hE _ _ => trivial) (fun x => by kernel_rfl)
/-! 154 sparse/sparseref01.shl -/
def g154_H : Hints := ⟨[⟨[],[0,1]⟩,⟨[],[0,1,5]⟩,⟨[],[0,1,5,6]⟩,⟨[],[0,1,5,6,7]⟩,⟨[],[0,1,5,6,7,14]⟩,⟨[(0,1)],[0,1,5,6,7]⟩,⟨[(0,1)],[0,1,5,6,7]⟩,⟨[(0,1)],[0,1,5,6,7]⟩,⟨[(0,1)],[0,1,5,6,7]⟩,⟨[(0,1),(1,1)],[4]⟩],[(0,[0,1,5,6,7])],[(0,[5,6]),(1,[0,1,5,6,7])],[4],[],[[true]]⟩
def g154_T (m : Nat) : FunT := ⟨154,[.a (.c (.imm (.int .u32))),.a (.c (.int .i64))],.a (.c (.nm 0 (.int .u32))),[.a (.c .dead),.a (.c .dead)],fun (x : List Int × Int × Unit) => g154 m x.1 x.2.1⟩
noncomputable def g154_C : Code := codeOf Tryz.f154
noncomputable def g154_B0 : Code := qo g154_C 0 0
def g154_L0_X (m : Nat) : LT := ⟨0,[(0,.a (.c (.imm (.int .u32)))),(1,.a (.c (.int .i64))),(5,.a (.c (.nm 0 (.int .u32)))),(6,.a (.c (.int .u64))),(7,.a (.c (.int .i64)))],[(.exit 0,[(5,.a (.c (.nm 0 (.int .u32)))),(6,.a (.c (.int .u64)))])],fun n (x : List Int × Int × List Int × Int × Int × Unit) => g154_L0 m n x.1 x.2.1 x.2.2.1 x.2.2.2.1 x.2.2.2.2.1⟩
theorem g154_L0_ok {E : Entry} (hE : EOf Tryz.prog E 39 g154_H.pins) (m : Nat) (n : Nat) : ql Tryz.prog E g154_B0 ((g154_L0_X m).at n) :=
  lok hmix htt hE noF (L := []) (g154_L0_X m) (l := []) (by kernel_rfl) (fun _ _ => trivial) (fun n x => by kernel_rfl) (fun _ => by kernel_rfl) n
theorem g154_ok (m : Nat) : FunOK Tryz.prog (g154_T m) :=
  fok hmix htt (H := g154_H) (g154_T m) Tryz.func154 (by kernel_rfl) noF (L := [(g154_L0_X m).at m]) (l := [(0,g154_B0)]) (by kernel_rfl) (fun _ hE _ _ => ⟨qi ⟨yb (g154_L0_ok hE m m),trivial⟩,trivial⟩) (fun x => by kernel_rfl)
/-! 155 sparse/sparseref01.shr -/
def g155_H : Hints := ⟨[⟨[],[0,1]⟩,⟨[],[0,1,6]⟩,⟨[],[0,1,6,7]⟩,⟨[(4,1)],[0,1,6,7,21]⟩,⟨[(0,1)],[0,1,6,7]⟩,⟨[(0,1),(1,1)],[0,1,6,7]⟩,⟨[],[0,1,6,8]⟩,⟨[],[0,1,6,8,9]⟩,⟨[],[0,1,6,8,9,10]⟩,⟨[],[0,1,6,8,9,10,39]⟩,⟨[(0,1)],[0,1,6,8,9,10]⟩,⟨[],[0,1,6,8,9,10,11]⟩,⟨[],[0,1,6,8,9,10,11,51]⟩,⟨[(0,1)],[0,1,6,8,9,10,11]⟩,⟨[(4,1)],[0,1,6,8,9,10,11,75]⟩,⟨[],[0,1,6,8,9,10,11]⟩,⟨[(0,1),(1,1)],[0,1,6,8,9,10]⟩,⟨[(0,1),(1,1)],[4,5]⟩],[(0,[0,1,6,7]),(2,[0,1,6,8,9,10])],[(0,[0,1,6]),(1,[0,1,6,7]),(2,[6,8]),(3,[0,1,6,8,9,10])],[4,5],[],[[true],[false]]⟩
def g155_T (m : Nat) : FunT := ⟨155,[.a (.c (.imm (.int .u32))),.a (.c (.int .i64))],.tup [(.c (.nm 0 (.int .u32))),(.c .bool)],[.a (.c .dead),.a (.c .dead)],fun (x : List Int × Int × Unit) => g155 m x.1 x.2.1⟩
noncomputable def g155_C : Code := codeOf Tryz.f155
noncomputable def g155_B0 : Code := qo g155_C 0 0
noncomputable def g155_B2 : Code := qo g155_C 0 1
def g155_L1_X (m : Nat) : LT := ⟨2,[(0,.a (.c (.imm (.int .u32)))),(1,.a (.c (.int .i64))),(6,.a (.c .bool)),(8,.a (.c (.nm 0 (.int .u32)))),(9,.a (.c (.int .i64))),(10,.a (.c (.int .i64)))],[(.exit 2,[(6,.a (.c .bool)),(8,.a (.c (.nm 0 (.int .u32))))])],fun n (x : List Int × Int × Bool × List Int × Int × Int × Unit) => g155_L1 m n x.1 x.2.1 x.2.2.1 x.2.2.2.1 x.2.2.2.2.1 x.2.2.2.2.2.1⟩
theorem g155_L1_ok {E : Entry} (hE : EOf Tryz.prog E 85 g155_H.pins) (m : Nat) (n : Nat) : ql Tryz.prog E g155_B2 ((g155_L1_X m).at n) :=
  lok hmix htt hE noF (L := []) (g155_L1_X m) (l := []) (by kernel_rfl) (fun _ _ => trivial) (fun n x => by kernel_rfl) (fun _ => by kernel_rfl) n
def g155_L0_X (m : Nat) : LT := ⟨0,[(0,.a (.c (.imm (.int .u32)))),(1,.a (.c (.int .i64))),(6,.a (.c .bool)),(7,.a (.c (.int .i64)))],[(.exit 0,[(0,.a (.c (.imm (.int .u32)))),(1,.a (.c (.int .i64))),(6,.a (.c .bool))])],fun n (x : List Int × Int × Bool × Int × Unit) => g155_L0 m n x.1 x.2.1 x.2.2.1 x.2.2.2.1⟩
theorem g155_L0_ok {E : Entry} (hE : EOf Tryz.prog E 85 g155_H.pins) (m : Nat) (n : Nat) : ql Tryz.prog E g155_B0 ((g155_L0_X m).at n) :=
  lok hmix htt hE noF (L := []) (g155_L0_X m) (l := []) (by kernel_rfl) (fun _ _ => trivial) (fun n x => by kernel_rfl) (fun _ => by kernel_rfl) n
theorem g155_ok (m : Nat) : FunOK Tryz.prog (g155_T m) :=
  fok hmix htt (H := g155_H) (g155_T m) Tryz.func155 (by kernel_rfl) noF (L := [(g155_L0_X m).at m,(g155_L1_X m).at m]) (l := [(0,g155_B0),(2,g155_B2)]) (by kernel_rfl) (fun _ hE _ _ => ⟨qi ⟨yb (g155_L0_ok hE m m),nb rfl,trivial⟩,qi ⟨nb rfl,yb (g155_L1_ok hE m m),trivial⟩,trivial⟩) (fun x => by kernel_rfl)
/-! 114 sparse/sparseref01.FromInt -/
def g114_H : Hints := ⟨[⟨[],[0,2]⟩,⟨[],[0,2,3]⟩,⟨[],[0,2,3,7]⟩,⟨[],[0,2,3]⟩,⟨[(0,1)],[2]⟩],[],[],[2],[],[[false,true]]⟩
def g114_T (m : Nat) : FunT := ⟨114,[.a (.c (.int .i64))],.a (.agg [.bool,(.nm 0 (.int .u32))]),[.a (.c .dead)],fun (x : Int × Unit) => g114 m x.1⟩
theorem g114_ok (m : Nat) : FunOK Tryz.prog (g114_T m) :=
  fok hmix htt (H := g114_H) (g114_T m) Tryz.func114 (by kernel_rfl) (AllF.mem (l := [g153_T m]) ⟨g153_ok m,trivial⟩) (L := []) (l := []) (by kernel_rfl) (fun _ hE _ _ => trivial) (fun x => by kernel_rfl)
/-! 152 sparse/sparseref01.Neg -/
def g152_H : Hints := ⟨[⟨[],[1,2]⟩,⟨[],[2]⟩],[],[],[2],[],[[false,true]]⟩
def g152_T (m : Nat) : FunT := ⟨152,[.a (.agg [.bool,(.imm (.int .u32))])],.a (.agg [.bool,(.nm 0 (.int .u32))]),[.a (.c .dead)],fun (x : (Bool × List Int × Unit) × Unit) => g152 m x.1.1 x.1.2.1⟩
theorem g152_ok (m : Nat) : FunOK Tryz.prog (g152_T m) :=
  fok hmix htt (H := g152_H) (g152_T m) Tryz.func152 (by kernel_rfl) (AllF.mem (l := [g153_T m]) ⟨g153_ok m,trivial⟩) (L := []) (l := []) (by kernel_rfl) (fun _ hE _ _ => trivial) (fun x => by kernel_rfl)
/-! 163 sparse/sparseref01.addMag -/
def g163_H : Hints := ⟨[⟨[],[0,1]⟩,⟨[],[0,1,5]⟩,⟨[],[0,1,5,6]⟩,⟨[],[0,1,5,6,7]⟩,⟨[],[0,1,5,6,7,14]⟩,⟨[(0,1)],[0,1,5,6,7]⟩,⟨[],[0,1,5,6,7,20]⟩,⟨[(0,1)],[0,1,5,6,7]⟩,⟨[],[0,1,5,6,7,31]⟩,⟨[(0,1)],[0,1,5,6,7]⟩,⟨[(0,1)],[0,1,5,6,7]⟩,⟨[(0,1)],[0,1,5,6,7]⟩,⟨[(0,1),(1,1)],[4]⟩],[(0,[0,1,5,6,7])],[(0,[5,6]),(1,[0,1,5,6,7])],[4],[],[[true]]⟩
def g163_T (m : Nat) : FunT := ⟨163,[.a (.c (.imm (.int .u32))),.a (.c (.imm (.int .u32)))],.a (.c (.nm 0 (.int .u32))),[.a (.c .dead),.a (.c .dead)],fun (x : List Int × List Int × Unit) => g163 m x.1 x.2.1⟩
noncomputable def g163_C : Code := codeOf Tryz.f163
noncomputable def g163_B0 : Code := qo g163_C 0 0
def g163_L0_X (m : Nat) : LT := ⟨0,[(0,.a (.c (.imm (.int .u32)))),(1,.a (.c (.imm (.int .u32)))),(5,.a (.c (.nm 0 (.int .u32)))),(6,.a (.c (.int .u64))),(7,.a (.c (.int .i64)))],[(.exit 0,[(5,.a (.c (.nm 0 (.int .u32)))),(6,.a (.c (.int .u64)))])],fun n (x : List Int × List Int × List Int × Int × Int × Unit) => g163_L0 m n x.1 x.2.1 x.2.2.1 x.2.2.2.1 x.2.2.2.2.1⟩
theorem g163_L0_ok {E : Entry} (hE : EOf Tryz.prog E 51 g163_H.pins) (m : Nat) (n : Nat) : ql Tryz.prog E g163_B0 ((g163_L0_X m).at n) :=
  lok hmix htt hE noF (L := []) (g163_L0_X m) (l := []) (by kernel_rfl) (fun _ _ => trivial) (fun n x => by kernel_rfl) (fun _ => by kernel_rfl) n
theorem g163_ok (m : Nat) : FunOK Tryz.prog (g163_T m) :=
  fok hmix htt (H := g163_H) (g163_T m) Tryz.func163 (by kernel_rfl) noF (L := [(g163_L0_X m).at m]) (l := [(0,g163_B0)]) (by kernel_rfl) (fun _ hE _ _ => ⟨qi ⟨yb (g163_L0_ok hE m m),trivial⟩,trivial⟩) (fun x => by kernel_rfl)
/-! 164 sparse/sparseref01.cmpMag -/
def g164_H : Hints := ⟨[⟨[],[0,1]⟩,⟨[],[0,1,10]⟩,⟨[(0,1),(2,1)],[15]⟩,⟨[],[4]⟩,⟨[],[4]⟩,⟨[],[0,1,5]⟩,⟨[],[0,1,5,20]⟩,⟨[(0,1)],[0,1,5]⟩,⟨[],[0,1,5,31]⟩,⟨[(0,1),(4,1)],[40]⟩,⟨[],[4]⟩,⟨[],[4]⟩,⟨[],[4]⟩],[(0,[0,1,5])],[(0,[]),(1,[0,1,5])],[4],[],[[false]]⟩
def g164_T (m : Nat) : FunT := ⟨164,[.a (.c (.imm (.int .u32))),.a (.c (.imm (.int .u32)))],.a (.c (.int .i64)),[.a (.c .dead),.a (.c .dead)],fun (x : List Int × List Int × Unit) => g164 m x.1 x.2.1⟩
noncomputable def g164_C : Code := codeOf Tryz.f164
noncomputable def g164_B0 : Code := qo g164_C 0 0
def g164_L0_X (m : Nat) : LT := ⟨0,[(0,.a (.c (.imm (.int .u32)))),(1,.a (.c (.imm (.int .u32)))),(5,.a (.c (.int .i64)))],[(.ret,[(4,.a (.c (.int .i64)))]),(.exit 0,[])],fun n (x : List Int × List Int × Int × Unit) => g164_L0 m n x.1 x.2.1 x.2.2.1⟩
theorem g164_L0_ok {E : Entry} (hE : EOf Tryz.prog E 41 g164_H.pins) (m : Nat) (n : Nat) : ql Tryz.prog E g164_B0 ((g164_L0_X m).at n) :=
  lok hmix htt hE noF (L := []) (g164_L0_X m) (l := []) (by kernel_rfl) (fun _ _ => trivial) (fun n x => by kernel_rfl) (fun _ => by kernel_rfl) n
theorem g164_ok (m : Nat) : FunOK Tryz.prog (g164_T m) :=
  fok hmix htt (H := g164_H) (g164_T m) Tryz.func164 (by kernel_rfl) noF (L := [(g164_L0_X m).at m]) (l := [(0,g164_B0)]) (by kernel_rfl) (fun _ hE _ _ => ⟨qi ⟨yb (g164_L0_ok hE m m),trivial⟩,trivial⟩) (fun x => by kernel_rfl)
/-! 165 sparse/sparseref01.subMag -/
def g165_H : Hints := ⟨[⟨[],[0,1]⟩,⟨[],[0,1,5]⟩,⟨[],[0,1,5,6]⟩,⟨[],[0,1,5,6,7]⟩,⟨[],[0,1,5,6,7,12]⟩,⟨[(0,1)],[0,1,5,6,7]⟩,⟨[(5,1)],[0,1,5,7,8]⟩,⟨[],[0,1,5,7,8,25]⟩,⟨[(0,1)],[0,1,5,7,8]⟩,⟨[(0,1)],[0,1,5,7,8]⟩,⟨[(0,1)],[0,1,5,6,7]⟩,⟨[(0,1)],[4]⟩],[(0,[0,1,5,6,7])],[(0,[5]),(1,[0,1,5,6,7])],[4],[],[[true]]⟩
def g165_T (m : Nat) : FunT := ⟨165,[.a (.c (.imm (.int .u32))),.a (.c (.imm (.int .u32)))],.a (.c (.nm 0 (.int .u32))),[.a (.c .dead),.a (.c .dead)],fun (x : List Int × List Int × Unit) => g165 m x.1 x.2.1⟩
noncomputable def g165_C : Code := codeOf Tryz.f165
noncomputable def g165_B0 : Code := qo g165_C 0 0
def g165_L0_X (m : Nat) : LT := ⟨0,[(0,.a (.c (.imm (.int .u32)))),(1,.a (.c (.imm (.int .u32)))),(5,.a (.c (.nm 0 (.int .u32)))),(6,.a (.c (.int .u64))),(7,.a (.c (.int .i64)))],[(.exit 0,[(5,.a (.c (.nm 0 (.int .u32))))])],fun n (x : List Int × List Int × List Int × Int × Int × Unit) => g165_L0 m n x.1 x.2.1 x.2.2.1 x.2.2.2.1 x.2.2.2.2.1⟩
theorem g165_L0_ok {E : Entry} (hE : EOf Tryz.prog E 41 g165_H.pins) (m : Nat) (n : Nat) : ql Tryz.prog E g165_B0 ((g165_L0_X m).at n) :=
  lok hmix htt hE noF (L := []) (g165_L0_X m) (l := []) (by kernel_rfl) (fun _ _ => trivial) (fun n x => by kernel_rfl) (fun _ => by kernel_rfl) n
theorem g165_ok (m : Nat) : FunOK Tryz.prog (g165_T m) :=
  fok hmix htt (H := g165_H) (g165_T m) Tryz.func165 (by kernel_rfl) noF (L := [(g165_L0_X m).at m]) (l := [(0,g165_B0)]) (by kernel_rfl) (fun _ hE _ _ => ⟨qi ⟨yb (g165_L0_ok hE m m),trivial⟩,trivial⟩) (fun x => by kernel_rfl)
/-! 113 sparse/sparseref01.Add -/
def g113_H : Hints := ⟨[⟨[],[2,3,4]⟩,⟨[],[2,3,4,5,6]⟩,⟨[],[2,3,4,5,6,17]⟩,⟨[(2,1),(3,1)],[4]⟩,⟨[],[2,3,4,5,6,27]⟩,⟨[(2,1),(3,1)],[4]⟩,⟨[(2,1),(3,1)],[4]⟩],[],[],[4],[],[[false,true]]⟩
def g113_T (m : Nat) : FunT := ⟨113,[.a (.agg [.bool,(.imm (.int .u32))]),.a (.agg [.bool,(.imm (.int .u32))])],.a (.agg [.bool,(.nm 0 (.int .u32))]),[.a (.c .dead),.a (.c .dead)],fun (x : (Bool × List Int × Unit) × (Bool × List Int × Unit) × Unit) => g113 m x.1.1 x.1.2.1 x.2.1.1 x.2.1.2.1⟩
theorem g113_ok (m : Nat) : FunOK Tryz.prog (g113_T m) :=
  fok hmix htt (H := g113_H) (g113_T m) Tryz.func113 (by kernel_rfl) (AllF.mem (l := [g162_T m,g163_T m,g153_T m,g164_T m,g165_T m]) ⟨g162_ok m,g163_ok m,g153_ok m,g164_ok m,g165_ok m,trivial⟩) (L := []) (l := []) (by kernel_rfl) (fun _ hE _ _ => trivial) (fun x => by kernel_rfl)
/-! 156 sparse/sparseref01.Sub -/
def g156_H : Hints := ⟨[⟨[],[2,3,4]⟩,⟨[],[4]⟩],[],[],[4],[],[[false,true]]⟩
def g156_T (m : Nat) : FunT := ⟨156,[.a (.agg [.bool,(.imm (.int .u32))]),.a (.agg [.bool,(.imm (.int .u32))])],.a (.agg [.bool,(.nm 0 (.int .u32))]),[.a (.c .dead),.a (.c .dead)],fun (x : (Bool × List Int × Unit) × (Bool × List Int × Unit) × Unit) => g156 m x.1.1 x.1.2.1 x.2.1.1 x.2.1.2.1⟩
theorem g156_ok (m : Nat) : FunOK Tryz.prog (g156_T m) :=
  fok hmix htt (H := g156_H) (g156_T m) Tryz.func156 (by kernel_rfl) (AllF.mem (l := [g152_T m,g113_T m]) ⟨g152_ok m,g113_ok m,trivial⟩) (L := []) (l := []) (by kernel_rfl) (fun _ hE _ _ => trivial) (fun x => by kernel_rfl)
/-! 101 sparse/sparseref01.Shift -/
def g101_H : Hints := ⟨[⟨[],[1,2,4]⟩,⟨[],[1,2,4]⟩,⟨[],[1,2,4,11]⟩,⟨[(4,1)],[4]⟩,⟨[(2,1),(5,1)],[2,4,5,6]⟩,⟨[(2,1)],[2,4,6,7]⟩,⟨[(2,1),(3,1)],[4,7,35]⟩,⟨[],[4,7]⟩,⟨[(0,1)],[4]⟩],[],[],[4],[],[[false,true]]⟩
def g101_T (m : Nat) : FunT := ⟨101,[.a (.agg [.bool,(.imm (.int .u32))]),.a (.c (.int .i64))],.a (.agg [.bool,(.nm 0 (.int .u32))]),[.a (.c .dead),.a (.c .dead)],fun (x : (Bool × List Int × Unit) × Int × Unit) => g101 m x.1.1 x.1.2.1 x.2.1⟩
theorem g101_ok (m : Nat) : FunOK Tryz.prog (g101_T m) :=
  fok hmix htt (H := g101_H) (g101_T m) Tryz.func101 (by kernel_rfl) (AllF.mem (l := [g147_T m,g154_T m,g153_T m,g155_T m,g114_T m,g156_T m]) ⟨g147_ok m,g154_ok m,g153_ok m,g155_ok m,g114_ok m,g156_ok m,trivial⟩) (L := []) (l := []) (by kernel_rfl) (fun _ hE _ _ => trivial) (fun x => by kernel_rfl)
/-! 149 sparse/sparseref02.down -/
def g149_H : Hints := ⟨[⟨[(1,2)],[1,2,4]⟩,⟨[],[1,2,4,6]⟩,⟨[(2,2)],[1,2,4]⟩,⟨[(0,1)],[1,2,4]⟩,⟨[(1,1)],[4]⟩],[(0,[1,2,4])],[(0,[1,2,4]),(1,[1,2,4])],[4],[],[[false,true]]⟩
def g149_T (m : Nat) : FunT := ⟨149,[.a (.agg [.bool,(.imm (.int .u32))]),.a (.c (.int .i64))],.a (.agg [.bool,(.nm 0 (.int .u32))]),[.a (.c .dead),.a (.c .dead)],fun (x : (Bool × List Int × Unit) × Int × Unit) => g149 m x.1.1 x.1.2.1 x.2.1⟩
noncomputable def g149_C : Code := codeOf Tryz.f149
noncomputable def g149_B0 : Code := qo g149_C 0 0
theorem g149_K (m : Nat) : ∀ u ∈ [g101_T m],FunOK Tryz.prog u := AllF.mem ⟨g101_ok m,trivial⟩
def g149_L0_X (m : Nat) : LT := ⟨0,[(1,.a (.c (.int .i64))),(2,.a (.bx 0 [.bool,(.imm (.int .u32))])),(4,.a (.bx 1 [.bool,(.imm (.int .u32))]))],[(.exit 0,[(1,.a (.c (.int .i64))),(2,.a (.bx 0 [.bool,(.imm (.int .u32))])),(4,.a (.bx 1 [.bool,(.imm (.int .u32))]))])],fun n (x : Int × (Bool × List Int × Unit) × (Bool × List Int × Unit) × Unit) => g149_L0 m n x.1 x.2.1.1 x.2.1.2.1 x.2.2.1.1 x.2.2.1.2.1⟩
theorem g149_L0_ok {E : Entry} (hE : EOf Tryz.prog E 15 g149_H.pins) (m : Nat) (n : Nat) : ql Tryz.prog E g149_B0 ((g149_L0_X m).at n) :=
  lok hmix htt hE (g149_K m) (L := []) (g149_L0_X m) (l := []) (by kernel_rfl) (fun _ _ => trivial) (fun n x => by kernel_rfl) (fun _ => by kernel_rfl) n
theorem g149_ok (m : Nat) : FunOK Tryz.prog (g149_T m) :=
  fok hmix htt (H := g149_H) (g149_T m) Tryz.func149 (by kernel_rfl) (g149_K m) (L := [(g149_L0_X m).at m]) (l := [(0,g149_B0)]) (by kernel_rfl) (fun _ hE _ _ => ⟨qi ⟨yb (g149_L0_ok hE m m),trivial⟩,trivial⟩) (fun x => by kernel_rfl)
/-! 150 sparse/sparseref01.BitLen -/
def g150_H : Hints := ⟨[⟨[],[1]⟩,⟨[],[3]⟩,⟨[],[3,9]⟩,⟨[],[2]⟩,⟨[],[2]⟩],[],[],[2],[],[[false]]⟩
def g150_T (m : Nat) : FunT := ⟨150,[.a (.agg [.bool,(.imm (.int .u32))])],.a (.c (.int .i64)),[.a (.c .dead)],fun (x : (Bool × List Int × Unit) × Unit) => g150 m x.1.1 x.1.2.1⟩
theorem g150_ok (m : Nat) : FunOK Tryz.prog (g150_T m) :=
  fok hmix htt (H := g150_H) (g150_T m) Tryz.func150 (by kernel_rfl) (AllF.mem (l := [g162_T m,g190_T m]) ⟨g162_ok m,g190_ok m,trivial⟩) (L := []) (l := []) (by kernel_rfl) (fun _ hE _ _ => trivial) (fun x => by kernel_rfl)
/-! 94 sparse/sparseref02.Make -/
def g94_H : Hints := ⟨[⟨[],[1,2,4]⟩,⟨[],[1,2,4,5]⟩,⟨[],[1,2,4,5,13]⟩,⟨[],[4]⟩,⟨[],[1,2,4,5,16]⟩,⟨[],[4]⟩,⟨[],[1,2,4,5,6]⟩,⟨[(0,1)],[2,4,5,6,7]⟩,⟨[],[2,4,5,6,7]⟩,⟨[(1,1)],[2,4,5,7]⟩,⟨[(2,1)],[2,4,5,7,36]⟩,⟨[],[4]⟩,⟨[],[4,5,7]⟩,⟨[(0,1),(1,1)],[4]⟩],[],[],[4],[],[[false,false,true,false]]⟩
def g94_T (m : Nat) : FunT := ⟨94,[.a (.agg [.bool,(.imm (.int .u32))]),.a (.c (.int .i64))],.a (.agg [.bool,.bool,(.nm 0 (.int .u32)),(.int .i64)]),[.a (.c .dead),.a (.c .dead)],fun (x : (Bool × List Int × Unit) × Int × Unit) => g94 m x.1.1 x.1.2.1 x.2.1⟩
theorem g94_ok (m : Nat) : FunOK Tryz.prog (g94_T m) :=
  fok hmix htt (H := g94_H) (g94_T m) Tryz.func94 (by kernel_rfl) (AllF.mem (l := [g147_T m,g93_T m,g148_T m,g131_T m,g149_T m,g150_T m]) ⟨g147_ok m,g93_ok m,g148_ok m,g131_ok m,g149_ok m,g150_ok m,trivial⟩) (L := []) (l := []) (by kernel_rfl) (fun _ hE _ _ => trivial) (fun x => by kernel_rfl)
/-! 37 sparse/sparseref03.Of -/
def g37_H : Hints := ⟨[⟨[],[0,2]⟩,⟨[],[0,2,8]⟩,⟨[],[2]⟩,⟨[],[0,2,3,4]⟩,⟨[],[0,2,3,4,5]⟩,⟨[],[0,2,3,4,5,17]⟩,⟨[(0,1)],[0,2,3,4]⟩,⟨[(0,1)],[0,2,4,5]⟩,⟨[(0,1),(9,1)],[2]⟩],[],[],[2],[],[[false,false,true,false]]⟩
def g37_T (m : Nat) : FunT := ⟨37,[.a (.c (.int .u64))],.a (.agg [.bool,.bool,(.nm 0 (.int .u32)),(.int .i64)]),[.a (.c .dead)],fun (x : Int × Unit) => g37 m x.1⟩
theorem g37_ok (m : Nat) : FunOK Tryz.prog (g37_T m) :=
  fok hmix htt (H := g37_H) (g37_T m) Tryz.func37 (by kernel_rfl) (AllF.mem (l := [g63_T m,g93_T m,g95_T m,g94_T m]) ⟨g63_ok m,g93_ok m,g95_ok m,g94_ok m,trivial⟩) (L := []) (l := []) (by kernel_rfl) (fun _ hE _ _ => trivial) (fun x => by kernel_rfl)
/-! 128 sparse/sparseref02.Norm -/
def g128_H : Hints := ⟨[⟨[],[1,2]⟩,⟨[],[1,2,4]⟩,⟨[],[2]⟩,⟨[],[2]⟩],[],[],[2],[],[[false,false,true,false]]⟩
def g128_T (m : Nat) : FunT := ⟨128,[.a (.agg [.bool,.bool,(.imm (.int .u32)),(.int .i64)])],.a (.agg [.bool,.bool,(.nm 0 (.int .u32)),(.int .i64)]),[.a (.c .dead)],fun (x : (Bool × Bool × List Int × Int × Unit) × Unit) => g128 m x.1.1 x.1.2.1 x.1.2.2.1 x.1.2.2.2.1⟩
theorem g128_ok (m : Nat) : FunOK Tryz.prog (g128_T m) :=
  fok hmix htt (H := g128_H) (g128_T m) Tryz.func128 (by kernel_rfl) (AllF.mem (l := [g93_T m,g94_T m]) ⟨g93_ok m,g94_ok m,trivial⟩) (L := []) (l := []) (by kernel_rfl) (fun _ hE _ _ => trivial) (fun x => by kernel_rfl)
/-! 199 sparse/sparseref01.mulMag -/
def g199_H : Hints := ⟨[⟨[],[0,1]⟩,⟨[],[0,1,5]⟩,⟨[],[0,1,5,6]⟩,⟨[],[0,1,5,6,18]⟩,⟨[(0,1)],[0,1,5,6]⟩,⟨[],[0,1,5,6,7]⟩,⟨[],[0,1,5,6,7,8]⟩,⟨[],[0,1,5,6,7,8,24]⟩,⟨[(0,1)],[0,1,5,6,7,8]⟩,⟨[(0,1)],[0,1,5,6,7,8]⟩,⟨[],[0,1,5,6,7,8]⟩,⟨[(0,1)],[0,1,5,6,7,8]⟩,⟨[(5,1)],[0,1,5,6]⟩,⟨[(0,1)],[4]⟩],[(0,[0,1,5,6]),(2,[0,1,5,6,7,8])],[(0,[5]),(1,[0,1,5,6]),(2,[0,1,5,6,7]),(3,[0,1,5,6,7,8])],[4],[],[[true]]⟩
def g199_T (m : Nat) : FunT := ⟨199,[.a (.c (.imm (.int .u32))),.a (.c (.imm (.int .u32)))],.a (.c (.nm 0 (.int .u32))),[.a (.c .dead),.a (.c .dead)],fun (x : List Int × List Int × Unit) => g199 m x.1 x.2.1⟩
noncomputable def g199_C : Code := codeOf Tryz.f199
noncomputable def g199_B0 : Code := qo g199_C 0 0
noncomputable def g199_B2 : Code := qo g199_B0 0 0
def g199_L1_X (m : Nat) : LT := ⟨2,[(0,.a (.c (.imm (.int .u32)))),(1,.a (.c (.imm (.int .u32)))),(5,.a (.c (.nm 0 (.int .u32)))),(6,.a (.c (.int .i64))),(7,.a (.c (.int .u64))),(8,.a (.c (.int .i64)))],[(.exit 2,[(0,.a (.c (.imm (.int .u32)))),(1,.a (.c (.imm (.int .u32)))),(5,.a (.c (.nm 0 (.int .u32)))),(6,.a (.c (.int .i64))),(7,.a (.c (.int .u64)))])],fun n (x : List Int × List Int × List Int × Int × Int × Int × Unit) => g199_L1 m n x.1 x.2.1 x.2.2.1 x.2.2.2.1 x.2.2.2.2.1 x.2.2.2.2.2.1⟩
theorem g199_L1_ok {E : Entry} (hE : EOf Tryz.prog E 66 g199_H.pins) (m : Nat) (n : Nat) : ql Tryz.prog E g199_B2 ((g199_L1_X m).at n) :=
  lok hmix htt hE noF (L := []) (g199_L1_X m) (l := []) (by kernel_rfl) (fun _ _ => trivial) (fun n x => by kernel_rfl) (fun _ => by kernel_rfl) n
def g199_L0_X (m : Nat) : LT := ⟨0,[(0,.a (.c (.imm (.int .u32)))),(1,.a (.c (.imm (.int .u32)))),(5,.a (.c (.nm 0 (.int .u32)))),(6,.a (.c (.int .i64)))],[(.exit 0,[(5,.a (.c (.nm 0 (.int .u32))))])],fun n (x : List Int × List Int × List Int × Int × Unit) => g199_L0 m n x.1 x.2.1 x.2.2.1 x.2.2.2.1⟩
theorem g199_L0_ok {E : Entry} (hE : EOf Tryz.prog E 66 g199_H.pins) (m : Nat) (n : Nat) : ql Tryz.prog E g199_B0 ((g199_L0_X m).at n) :=
  lok hmix htt hE noF (L := [(g199_L1_X m).at m]) (g199_L0_X m) (l := [(2,g199_B2)]) (by kernel_rfl) (fun _ _ => ⟨qi ⟨yb (g199_L1_ok hE m m),trivial⟩,trivial⟩) (fun n x => by kernel_rfl) (fun _ => by kernel_rfl) n
theorem g199_ok (m : Nat) : FunOK Tryz.prog (g199_T m) :=
  fok hmix htt (H := g199_H) (g199_T m) Tryz.func199 (by kernel_rfl) noF (L := [(g199_L0_X m).at m]) (l := [(0,g199_B0)]) (by kernel_rfl) (fun _ hE _ _ => ⟨qi ⟨yb (g199_L0_ok hE m m),trivial⟩,trivial⟩) (fun x => by kernel_rfl)
/-! 182 sparse/sparseref01.Mul -/
def g182_H : Hints := ⟨[⟨[],[2,3,4]⟩,⟨[],[4]⟩],[],[],[4],[],[[false,true]]⟩
def g182_T (m : Nat) : FunT := ⟨182,[.a (.agg [.bool,(.imm (.int .u32))]),.a (.agg [.bool,(.imm (.int .u32))])],.a (.agg [.bool,(.nm 0 (.int .u32))]),[.a (.c .dead),.a (.c .dead)],fun (x : (Bool × List Int × Unit) × (Bool × List Int × Unit) × Unit) => g182 m x.1.1 x.1.2.1 x.2.1.1 x.2.1.2.1⟩
theorem g182_ok (m : Nat) : FunOK Tryz.prog (g182_T m) :=
  fok hmix htt (H := g182_H) (g182_T m) Tryz.func182 (by kernel_rfl) (AllF.mem (l := [g162_T m,g199_T m,g153_T m]) ⟨g162_ok m,g199_ok m,g153_ok m,trivial⟩) (L := []) (l := []) (by kernel_rfl) (fun _ hE _ _ => trivial) (fun x => by kernel_rfl)
/-! 133 sparse/sparseref02.Mul -/
def g133_H : Hints := ⟨[⟨[],[2,3,4]⟩,⟨[],[2,3,4]⟩,⟨[(2,1)],[2,3,4,14]⟩,⟨[],[4]⟩,⟨[],[4]⟩],[],[],[4],[],[[false,false,true,false]]⟩
def g133_T (m : Nat) : FunT := ⟨133,[.a (.agg [.bool,.bool,(.imm (.int .u32)),(.int .i64)]),.a (.agg [.bool,.bool,(.imm (.int .u32)),(.int .i64)])],.a (.agg [.bool,.bool,(.nm 0 (.int .u32)),(.int .i64)]),[.a (.c .dead),.a (.c .dead)],fun (x : (Bool × Bool × List Int × Int × Unit) × (Bool × Bool × List Int × Int × Unit) × Unit) => g133 m x.1.1 x.1.2.1 x.1.2.2.1 x.1.2.2.2.1 x.2.1.1 x.2.1.2.1 x.2.1.2.2.1 x.2.1.2.2.2.1⟩
theorem g133_ok (m : Nat) : FunOK Tryz.prog (g133_T m) :=
  fok hmix htt (H := g133_H) (g133_T m) Tryz.func133 (by kernel_rfl) (AllF.mem (l := [g128_T m,g93_T m,g182_T m,g94_T m]) ⟨g128_ok m,g93_ok m,g182_ok m,g94_ok m,trivial⟩) (L := []) (l := []) (by kernel_rfl) (fun _ hE _ _ => trivial) (fun x => by kernel_rfl)
/-! 129 sparse/sparseref01.Sign -/
def g129_H : Hints := ⟨[⟨[],[1]⟩,⟨[],[1]⟩,⟨[],[1,5]⟩,⟨[],[2]⟩,⟨[],[10]⟩,⟨[],[2]⟩,⟨[],[2]⟩],[],[(0,[])],[2],[],[[false]]⟩
def g129_T (m : Nat) : FunT := ⟨129,[.a (.agg [.bool,(.imm (.int .u32))])],.a (.c (.int .i64)),[.a (.c .dead)],fun (x : (Bool × List Int × Unit) × Unit) => g129 m x.1.1 x.1.2.1⟩
theorem g129_ok (m : Nat) : FunOK Tryz.prog (g129_T m) :=
  fok hmix htt (H := g129_H) (g129_T m) Tryz.func129 (by kernel_rfl) (AllF.mem (l := [g147_T m]) ⟨g147_ok m,trivial⟩) (L := []) (l := []) (by kernel_rfl) (fun _ hE _ _ => trivial) (fun x => by kernel_rfl)
/-! 151 sparse/sparseref02.align -/
def g151_H : Hints := ⟨[⟨[],[2,3,4,5]⟩,⟨[],[2,3,4,5,7,8]⟩,⟨[],[2,3,4,5,7,8,13]⟩,⟨[],[4,5,6]⟩,⟨[],[2,3,4,5,7,8,21]⟩,⟨[],[4,5,6]⟩,⟨[],[2,3,4,5,7,8,29]⟩,⟨[],[4,5,6]⟩,⟨[],[4,5,6]⟩],[],[(0,[2,3,4,5,7,8])],[4,5,6],[],[[false,false],[false,false],[false]]⟩
def g151_T (m : Nat) : FunT := ⟨151,[.a (.agg [.bool,.bool,(.imm (.int .u32)),(.int .i64)]),.a (.agg [.bool,.bool,(.imm (.int .u32)),(.int .i64)])],.tup [(.agg [.bool,(.imm (.int .u32))]),(.agg [.bool,(.imm (.int .u32))]),(.c (.int .i64))],[.a (.c .dead),.a (.c .dead)],fun (x : (Bool × Bool × List Int × Int × Unit) × (Bool × Bool × List Int × Int × Unit) × Unit) => g151 m x.1.1 x.1.2.1 x.1.2.2.1 x.1.2.2.2.1 x.2.1.1 x.2.1.2.1 x.2.1.2.2.1 x.2.1.2.2.2.1⟩
theorem g151_ok (m : Nat) : FunOK Tryz.prog (g151_T m) :=
  fok hmix htt (H := g151_H) (g151_T m) Tryz.func151 (by kernel_rfl) (AllF.mem (l := [g129_T m,g101_T m]) ⟨g129_ok m,g101_ok m,trivial⟩) (L := []) (l := []) (by kernel_rfl) (fun _ hE _ _ => trivial) (fun x => by kernel_rfl)
/-! 96 sparse/sparseref02.Add -/
def g96_H : Hints := ⟨[⟨[],[2,3,4]⟩,⟨[(4,2),(5,2)],[2,3,4]⟩,⟨[(2,1)],[2,3,4,17]⟩,⟨[],[4]⟩,⟨[(0,2),(1,2),(3,1)],[4,5,6,7]⟩,⟨[(3,1)],[4]⟩],[],[],[4],[],[[false,false,true,false]]⟩
def g96_T (m : Nat) : FunT := ⟨96,[.a (.agg [.bool,.bool,(.imm (.int .u32)),(.int .i64)]),.a (.agg [.bool,.bool,(.imm (.int .u32)),(.int .i64)])],.a (.agg [.bool,.bool,(.nm 0 (.int .u32)),(.int .i64)]),[.a (.c .dead),.a (.c .dead)],fun (x : (Bool × Bool × List Int × Int × Unit) × (Bool × Bool × List Int × Int × Unit) × Unit) => g96 m x.1.1 x.1.2.1 x.1.2.2.1 x.1.2.2.2.1 x.2.1.1 x.2.1.2.1 x.2.1.2.2.1 x.2.1.2.2.2.1⟩
theorem g96_ok (m : Nat) : FunOK Tryz.prog (g96_T m) :=
  fok hmix htt (H := g96_H) (g96_T m) Tryz.func96 (by kernel_rfl) (AllF.mem (l := [g128_T m,g93_T m,g151_T m,g113_T m,g94_T m]) ⟨g128_ok m,g93_ok m,g151_ok m,g113_ok m,g94_ok m,trivial⟩) (L := []) (l := []) (by kernel_rfl) (fun _ hE _ _ => trivial) (fun x => by kernel_rfl)
/-! 69 sparse/sparseref06.Dot -/
def g69_H : Hints := ⟨[⟨[],[0,1,4]⟩,⟨[],[0,1,4,12]⟩,⟨[],[4,5]⟩,⟨[(3,1)],[0,1,4,21]⟩,⟨[],[4,5]⟩,⟨[],[0,1,4,6]⟩,⟨[],[0,1,4,6,7]⟩,⟨[],[0,1,4,6,7,27]⟩,⟨[(0,1)],[0,1,4,6,7]⟩,⟨[],[0,1,4,6,7]⟩,⟨[(0,1)],[4,5]⟩],[(0,[0,1,4,6,7])],[(0,[4,6]),(1,[0,1,4,6,7])],[4,5],[],[[false,false,true,false],[false]]⟩
def g69_T (m : Nat) : FunT := ⟨69,[.a (.c (.imm (.int .u64))),.a (.c (.imm (.int .u64)))],.tup [(.agg [.bool,.bool,(.nm 0 (.int .u32)),(.int .i64)]),(.c (.int .i64))],[.a (.c .dead),.a (.c .dead)],fun (x : List Int × List Int × Unit) => g69 m x.1 x.2.1⟩
noncomputable def g69_C : Code := codeOf Tryz.f69
noncomputable def g69_B0 : Code := qo g69_C 0 0
theorem g69_K (m : Nat) : ∀ u ∈ [g68_T m,g37_T m,g133_T m,g96_T m],FunOK Tryz.prog u := AllF.mem ⟨g68_ok m,g37_ok m,g133_ok m,g96_ok m,trivial⟩
def g69_L0_X (m : Nat) : LT := ⟨0,[(0,.a (.c (.imm (.int .u64)))),(1,.a (.c (.imm (.int .u64)))),(4,.a (.bx 0 [.bool,.bool,(.nm 1 (.int .u32)),(.int .i64)])),(6,.a (.bx 2 [.bool,.bool,(.nm 3 (.int .u32)),(.int .i64)])),(7,.a (.c (.int .i64)))],[(.exit 0,[(4,.a (.bx 0 [.bool,.bool,(.nm 1 (.int .u32)),(.int .i64)])),(6,.a (.bx 2 [.bool,.bool,(.nm 3 (.int .u32)),(.int .i64)]))])],fun n (x : List Int × List Int × (Bool × Bool × List Int × Int × Unit) × (Bool × Bool × List Int × Int × Unit) × Int × Unit) => g69_L0 m n x.1 x.2.1 x.2.2.1.1 x.2.2.1.2.1 x.2.2.1.2.2.1 x.2.2.1.2.2.2.1 x.2.2.2.1.1 x.2.2.2.1.2.1 x.2.2.2.1.2.2.1 x.2.2.2.1.2.2.2.1 x.2.2.2.2.1⟩
theorem g69_L0_ok {E : Entry} (hE : EOf Tryz.prog E 44 g69_H.pins) (m : Nat) (n : Nat) : ql Tryz.prog E g69_B0 ((g69_L0_X m).at n) :=
  lok hmix htt hE (g69_K m) (L := []) (g69_L0_X m) (l := []) (by kernel_rfl) (fun _ _ => trivial) (fun n x => by kernel_rfl) (fun _ => by kernel_rfl) n
theorem g69_ok (m : Nat) : FunOK Tryz.prog (g69_T m) :=
  fok hmix htt (H := g69_H) (g69_T m) Tryz.func69 (by kernel_rfl) (g69_K m) (L := [(g69_L0_X m).at m]) (l := [(0,g69_B0)]) (by kernel_rfl) (fun _ hE _ _ => ⟨qi ⟨yb (g69_L0_ok hE m m),trivial⟩,trivial⟩) (fun x => by kernel_rfl)
/-! 179 sparse/sparseref03.signed -/
def g179_H : Hints := ⟨[⟨[],[0,1]⟩,⟨[(0,1)],[1,5]⟩,⟨[(0,1)],[4]⟩,⟨[(0,1)],[4]⟩],[],[],[4],[],[[false]]⟩
def g179_T (m : Nat) : FunT := ⟨179,[.a (.c .bool),.a (.c (.int .u64))],.a (.c (.int .u64)),[.a (.c .dead),.a (.c .dead)],fun (x : Bool × Int × Unit) => g179 m x.1 x.2.1⟩
theorem g179_ok (m : Nat) : FunOK Tryz.prog (g179_T m) :=
  fok hmix htt (H := g179_H) (g179_T m) Tryz.func179 (by kernel_rfl) noF (L := []) (l := []) (by kernel_rfl) (fun _ hE _ _ => trivial) (fun x => by kernel_rfl)
/-! 177 sparse/sparseref03.over -/
def g177_H : Hints := ⟨[⟨[],[0,1]⟩,⟨[(2,1),(5,1),(10,1),(13,1)],[0,21]⟩,⟨[(0,1)],[4]⟩,⟨[(0,1)],[4]⟩],[],[],[4],[],[[false]]⟩
def g177_T (m : Nat) : FunT := ⟨177,[.a (.c .bool),.a (.c (.int .i64))],.a (.c (.int .u64)),[.a (.c .dead),.a (.c .dead)],fun (x : Bool × Int × Unit) => g177 m x.1 x.2.1⟩
theorem g177_ok (m : Nat) : FunOK Tryz.prog (g177_T m) :=
  fok hmix htt (H := g177_H) (g177_T m) Tryz.func177 (by kernel_rfl) (AllF.mem (l := [g179_T m]) ⟨g179_ok m,trivial⟩) (L := []) (l := []) (by kernel_rfl) (fun _ hE _ _ => trivial) (fun x => by kernel_rfl)
/-! 196 sparse/sparseref01.Lost -/
def g196_H : Hints := ⟨[⟨[],[1,2]⟩,⟨[(3,1),(5,1)],[6]⟩,⟨[(0,1)],[4]⟩],[],[],[4],[],[[false]]⟩
def g196_T (m : Nat) : FunT := ⟨196,[.a (.agg [.bool,(.imm (.int .u32))]),.a (.c (.int .i64))],.a (.c .bool),[.a (.c .dead),.a (.c .dead)],fun (x : (Bool × List Int × Unit) × Int × Unit) => g196 m x.1.1 x.1.2.1 x.2.1⟩
theorem g196_ok (m : Nat) : FunOK Tryz.prog (g196_T m) :=
  fok hmix htt (H := g196_H) (g196_T m) Tryz.func196 (by kernel_rfl) (AllF.mem (l := [g162_T m,g155_T m]) ⟨g162_ok m,g155_ok m,trivial⟩) (L := []) (l := []) (by kernel_rfl) (fun _ hE _ _ => trivial) (fun x => by kernel_rfl)
/-! 197 sparse/sparseref02.Up -/
def g197_H : Hints := ⟨[⟨[],[0,1,2,3]⟩,⟨[(0,1)],[0,1,2,9]⟩,⟨[],[0,1,2,9,10]⟩,⟨[(0,1)],[8]⟩,⟨[],[0,1,2,9,13]⟩,⟨[(0,1)],[8]⟩,⟨[],[1,2,17]⟩,⟨[],[8]⟩,⟨[(2,1),(5,1),(6,1)],[8]⟩],[],[(0,[1,2])],[8],[],[[false]]⟩
def g197_T (m : Nat) : FunT := ⟨197,[.a (.c .bool),.a (.c (.int .i64)),.a (.c .bool),.a (.c (.int .i64))],.a (.c .bool),[.a (.c .dead),.a (.c .dead),.a (.c .dead),.a (.c .dead)],fun (x : Bool × Int × Bool × Int × Unit) => g197 m x.1 x.2.1 x.2.2.1 x.2.2.2.1⟩
theorem g197_ok (m : Nat) : FunOK Tryz.prog (g197_T m) :=
  fok hmix htt (H := g197_H) (g197_T m) Tryz.func197 (by kernel_rfl) noF (L := []) (l := []) (by kernel_rfl) (fun _ hE _ _ => trivial) (fun x => by kernel_rfl)
/-! 178 sparse/sparseref02.Cut -/
def g178_H : Hints := ⟨[⟨[],[0,2,3,4,6,10]⟩,⟨[],[0,2,3,4,6,10,11]⟩,⟨[],[0,2,3,4,6,10,11,12]⟩,⟨[(0,1),(2,1)],[0,2,3,4,6,10,11,27]⟩,⟨[(0,1)],[10]⟩,⟨[],[0,2,3,4,6,10,11,13]⟩,⟨[],[0,2,3,4,6,10,11,13,30]⟩,⟨[],[0,2,3,4,6,10,11,13,14]⟩,⟨[(3,1)],[0,2,3,4,6,10,11,13,42]⟩,⟨[],[0,2,3,4,6,10,11,13]⟩,⟨[(0,1),(1,1),(3,1)],[0,4,10,11,13,49]⟩,⟨[],[0,4,10,11,13]⟩,⟨[(3,1)],[0,4,10,11,13,15]⟩,⟨[(0,1),(1,1),(2,1),(3,1)],[10,11,62]⟩,⟨[],[10,11]⟩,⟨[(0,1)],[10]⟩],[],[],[10],[],[[false,true]]⟩
def g178_T (m : Nat) : FunT := ⟨178,[.a (.c .bool),.a (.agg [.bool,(.imm (.int .u32))]),.a (.c (.int .i64)),.a (.c .bool),.a (.c (.int .i64))],.a (.agg [.bool,(.nm 0 (.int .u32))]),[.a (.c .dead),.a (.c .dead),.a (.c .dead),.a (.c .dead),.a (.c .dead)],fun (x : Bool × (Bool × List Int × Unit) × Int × Bool × Int × Unit) => g178 m x.1 x.2.1.1 x.2.1.2.1 x.2.2.1 x.2.2.2.1 x.2.2.2.2.1⟩
theorem g178_ok (m : Nat) : FunOK Tryz.prog (g178_T m) :=
  fok hmix htt (H := g178_H) (g178_T m) Tryz.func178 (by kernel_rfl) (AllF.mem (l := [g149_T m,g196_T m,g148_T m,g129_T m,g197_T m,g114_T m,g113_T m]) ⟨g149_ok m,g196_ok m,g148_ok m,g129_ok m,g197_ok m,g114_ok m,g113_ok m,trivial⟩) (L := []) (l := []) (by kernel_rfl) (fun _ hE _ _ => trivial) (fun x => by kernel_rfl)
/-! 112 sparse/sparseref01.Int -/
def g112_H : Hints := ⟨[⟨[],[1]⟩,⟨[],[1]⟩,⟨[],[1,11]⟩,⟨[],[2,3]⟩,⟨[],[1,4]⟩,⟨[],[1,4,5]⟩,⟨[],[1,4,5,16]⟩,⟨[(0,1)],[1,4,5]⟩,⟨[(0,1)],[1,4,5]⟩,⟨[],[4,31]⟩,⟨[],[4,33]⟩,⟨[],[2,3]⟩,⟨[(0,1)],[2,3]⟩,⟨[],[4,40]⟩,⟨[],[2,3]⟩,⟨[(0,1)],[2,3]⟩],[(0,[1,4,5])],[(0,[1,4]),(1,[1,4,5])],[2,3],[],[[false],[false]]⟩
def g112_T (m : Nat) : FunT := ⟨112,[.a (.agg [.bool,(.imm (.int .u32))])],.tup [(.c (.int .i64)),(.c .bool)],[.a (.c .dead)],fun (x : (Bool × List Int × Unit) × Unit) => g112 m x.1.1 x.1.2.1⟩
noncomputable def g112_C : Code := codeOf Tryz.f112
noncomputable def g112_B0 : Code := qo g112_C 0 0
theorem g112_K (m : Nat) : ∀ u ∈ [g147_T m],FunOK Tryz.prog u := AllF.mem ⟨g147_ok m,trivial⟩
def g112_L0_X (m : Nat) : LT := ⟨0,[(1,.a (.bx 0 [.bool,(.nm 1 (.int .u32))])),(4,.a (.c (.int .u64))),(5,.a (.c (.int .i64)))],[(.exit 0,[(1,.a (.bx 0 [.bool,(.nm 1 (.int .u32))])),(4,.a (.c (.int .u64)))])],fun n (x : (Bool × List Int × Unit) × Int × Int × Unit) => g112_L0 m n x.1.1 x.1.2.1 x.2.1 x.2.2.1⟩
theorem g112_L0_ok {E : Entry} (hE : EOf Tryz.prog E 43 g112_H.pins) (m : Nat) (n : Nat) : ql Tryz.prog E g112_B0 ((g112_L0_X m).at n) :=
  lok hmix htt hE (g112_K m) (L := []) (g112_L0_X m) (l := []) (by kernel_rfl) (fun _ _ => trivial) (fun n x => by kernel_rfl) (fun _ => by kernel_rfl) n
theorem g112_ok (m : Nat) : FunOK Tryz.prog (g112_T m) :=
  fok hmix htt (H := g112_H) (g112_T m) Tryz.func112 (by kernel_rfl) (g112_K m) (L := [(g112_L0_X m).at m]) (l := [(0,g112_B0)]) (by kernel_rfl) (fun _ hE _ _ => ⟨qi ⟨yb (g112_L0_ok hE m m),trivial⟩,trivial⟩) (fun x => by kernel_rfl)
/-! 130 sparse/sparseref03.rounded -/
def g130_H : Hints := ⟨[⟨[],[0,2,3,4,6]⟩,⟨[],[0,2,3,4,6,11]⟩,⟨[],[0,2,3,4,6,11,22]⟩,⟨[(0,1),(1,1)],[10]⟩,⟨[(0,1)],[0,2,3,4,6,12]⟩,⟨[],[0,2,3,4,6,12,13]⟩,⟨[],[0,2,3,4,6,12,13,31]⟩,⟨[(3,1),(5,1)],[0,4,12,13]⟩,⟨[(1,1)],[0,4,12,13]⟩,⟨[(2,1)],[0,4,12,14]⟩,⟨[],[0,4,12,14,51]⟩,⟨[],[0,4,12,14]⟩,⟨[(0,1)],[0,4,12,14]⟩,⟨[(2,1)],[0,4,12,14,54]⟩,⟨[(0,1),(1,1)],[10]⟩,⟨[],[0,12,14,65]⟩,⟨[(0,1),(1,1),(5,1)],[10]⟩,⟨[(0,1),(1,1)],[10]⟩],[],[(0,[0,14])],[10],[],[[false]]⟩
def g130_T (m : Nat) : FunT := ⟨130,[.a (.c .bool),.a (.agg [.bool,(.imm (.int .u32))]),.a (.c (.int .i64)),.a (.c .bool),.a (.c (.int .i64))],.a (.c (.int .u64)),[.a (.c .dead),.a (.c .dead),.a (.c .dead),.a (.c .dead),.a (.c .dead)],fun (x : Bool × (Bool × List Int × Unit) × Int × Bool × Int × Unit) => g130 m x.1 x.2.1.1 x.2.1.2.1 x.2.2.1 x.2.2.2.1 x.2.2.2.2.1⟩
theorem g130_ok (m : Nat) : FunOK Tryz.prog (g130_T m) :=
  fok hmix htt (H := g130_H) (g130_T m) Tryz.func130 (by kernel_rfl) (AllF.mem (l := [g150_T m,g177_T m,g178_T m,g112_T m,g179_T m,g101_T m]) ⟨g150_ok m,g177_ok m,g178_ok m,g112_ok m,g179_ok m,g101_ok m,trivial⟩) (L := []) (l := []) (by kernel_rfl) (fun _ hE _ _ => trivial) (fun x => by kernel_rfl)
/-! 64 sparse/sparseref03.Round -/
def g64_H : Hints := ⟨[⟨[],[1,2]⟩,⟨[],[1,2]⟩,⟨[],[1,2,8]⟩,⟨[],[4]⟩,⟨[],[1,2,12]⟩,⟨[],[4]⟩,⟨[(8,1)],[4]⟩],[],[],[4],[],[[false]]⟩
def g64_T (m : Nat) : FunT := ⟨64,[.a (.agg [.bool,.bool,(.imm (.int .u32)),(.int .i64)]),.a (.c (.int .i64))],.a (.c (.int .u64)),[.a (.c .dead),.a (.c .dead)],fun (x : (Bool × Bool × List Int × Int × Unit) × Int × Unit) => g64 m x.1.1 x.1.2.1 x.1.2.2.1 x.1.2.2.2.1 x.2.1⟩
theorem g64_ok (m : Nat) : FunOK Tryz.prog (g64_T m) :=
  fok hmix htt (H := g64_H) (g64_T m) Tryz.func64 (by kernel_rfl) (AllF.mem (l := [g128_T m,g129_T m,g131_T m,g130_T m]) ⟨g128_ok m,g129_ok m,g131_ok m,g130_ok m,trivial⟩) (L := []) (l := []) (by kernel_rfl) (fun _ hE _ _ => trivial) (fun x => by kernel_rfl)
/-! 16 sparse/sparseref09.MulVec -/
def g16_H : Hints := ⟨[⟨[],[1,2]⟩,⟨[],[1,2,6]⟩,⟨[],[1,2,6,17]⟩,⟨[(0,1)],[4,5]⟩,⟨[],[1,2,23]⟩,⟨[],[4,5]⟩,⟨[],[1,2,26]⟩,⟨[],[4,5]⟩,⟨[(2,1)],[1,2,7]⟩,⟨[],[1,2,7,9]⟩,⟨[],[1,2,7,9,10]⟩,⟨[],[1,2,7,9,10,35]⟩,⟨[(0,1)],[1,2,7,9,10]⟩,⟨[(6,1)],[1,2,7,9,10,11]⟩,⟨[],[1,2,7,9,10,13]⟩,⟨[],[1,2,7,9,10,13,51]⟩,⟨[],[4,5]⟩,⟨[(0,1),(1,1)],[1,2,7,9,10]⟩,⟨[(0,1)],[4,5]⟩],[(0,[1,2,7,9,10])],[(0,[9]),(1,[1,2,7,9,10])],[4,5],[],[[true],[false]]⟩
def g16_T (m : Nat) : FunT := ⟨16,[.a (.agg [(.int .i64),(.int .i64),(.imm (.int .i64)),(.imm (.int .i64)),(.imm (.int .u64))]),.a (.c (.imm (.int .u64)))],.tup [(.c (.nm 0 (.int .u64))),(.c (.int .i64))],[.a (.c .dead),.a (.c .dead)],fun (x : (Int × Int × List Int × List Int × List Int × Unit) × List Int × Unit) => g16 m x.1.1 x.1.2.1 x.1.2.2.1 x.1.2.2.2.1 x.1.2.2.2.2.1 x.2.1⟩
noncomputable def g16_C : Code := codeOf Tryz.f16
noncomputable def g16_B0 : Code := qo g16_C 0 0
theorem g16_K (m : Nat) : ∀ u ∈ [g45_T m,g68_T m,g42_T m,g69_T m,g64_T m,g63_T m],FunOK Tryz.prog u := AllF.mem ⟨g45_ok m,g68_ok m,g42_ok m,g69_ok m,g64_ok m,g63_ok m,trivial⟩
def g16_L0_X (m : Nat) : LT := ⟨0,[(1,.a (.c (.imm (.int .u64)))),(2,.a (.bx 0 [(.int .i64),(.int .i64),(.imm (.int .i64)),(.imm (.int .i64)),(.imm (.int .u64))])),(7,.a (.c (.imm (.sl false (.int .u64))))),(9,.a (.c (.nm 1 (.int .u64)))),(10,.a (.c (.int .i64)))],[(.ret,[(4,.a (.c (.nm 0 (.int .u64)))),(5,.a (.c (.int .i64)))]),(.exit 0,[(9,.a (.c (.nm 0 (.int .u64))))])],fun n (x : List Int × (Int × Int × List Int × List Int × List Int × Unit) × List (List Int) × List Int × Int × Unit) => g16_L0 m n x.1 x.2.1.1 x.2.1.2.1 x.2.1.2.2.1 x.2.1.2.2.2.1 x.2.1.2.2.2.2.1 x.2.2.1 x.2.2.2.1 x.2.2.2.2.1⟩
theorem g16_L0_ok {E : Entry} (hE : EOf Tryz.prog E 57 g16_H.pins) (m : Nat) (n : Nat) : ql Tryz.prog E g16_B0 ((g16_L0_X m).at n) :=
  lok hmix htt hE (g16_K m) (L := []) (g16_L0_X m) (l := []) (by kernel_rfl) (fun _ _ => trivial) (fun n x => by kernel_rfl) (fun _ => by kernel_rfl) n
theorem g16_ok (m : Nat) : FunOK Tryz.prog (g16_T m) :=
  fok hmix htt (H := g16_H) (g16_T m) Tryz.func16 (by kernel_rfl) (g16_K m) (L := [(g16_L0_X m).at m]) (l := [(0,g16_B0)]) (by kernel_rfl) (fun _ hE _ _ => ⟨qi ⟨yb (g16_L0_ok hE m m),trivial⟩,trivial⟩) (fun x => by kernel_rfl)
/-! 70 sparse/matrix.MulTrans_1 -/
def g70_H : Hints := ⟨[⟨[],[1]⟩,⟨[],[2,3]⟩],[],[],[2,3],[],[[false],[false]]⟩
def g70_T (m : Nat) : FunT := ⟨70,[.a (.agg [(.int .i64),(.int .i64),(.int .u64)])],.tup [(.c (.int .i64)),(.c (.int .i64))],[.a (.c .dead)],fun (x : (Int × Int × Int × Unit) × Unit) => g70 m x.1.1 x.1.2.1 x.1.2.2.1⟩
theorem g70_ok (m : Nat) : FunOK Tryz.prog (g70_T m) :=
  fok hmix htt (H := g70_H) (g70_T m) Tryz.func70 (by kernel_rfl) noF (L := []) (l := []) (by kernel_rfl) (fun _ hE _ _ => trivial) (fun x => by kernel_rfl)
/-! 66 sparse/matrix.multiplied -/
def g66b_H : Hints := ⟨[⟨[],[1,2,3,4,5]⟩,⟨[],[1,2,3,4,5,12]⟩,⟨[],[1,2,3,4,5,12,27]⟩,⟨[(0,1)],[10,11]⟩,⟨[(2,1)],[1,2,4,5,31]⟩,⟨[],[10,11]⟩,⟨[],[1,2,4,5,13]⟩,⟨[(0,1)],[2,4,5,13,36,37,38]⟩,⟨[],[2,4,5,13,36,37,38,39]⟩,⟨[],[2,4,5,13,15,36,37,38]⟩,⟨[],[2,4,5,13,15,36,37,38,44]⟩,⟨[],[10,11]⟩,⟨[(0,1),(1,1)],[2,4,5,13,36,37,38]⟩,⟨[(1,1)],[2,4,5,13,36,37,38]⟩,⟨[(0,1),(1,4)],[4,5,13,16]⟩,⟨[],[4,13,16,54,55,56]⟩,⟨[],[4,13,16,54,55,56,57]⟩,⟨[],[4,13,16,18,54,55,56]⟩,⟨[(3,1)],[4,13,16,18,19,20,54,55,56]⟩,⟨[(5,4),(10,1),(17,4)],[4,13,16,54,55,56]⟩,⟨[(1,1)],[4,13,16,54,55,56]⟩,⟨[],[16,21]⟩,⟨[(0,2)],[21,84,85,86]⟩,⟨[],[21,84,85,86,87]⟩,⟨[],[21,23,84,85,86]⟩,⟨[(0,1)],[21,24,84,85,86]⟩,⟨[],[21,24,84,85,86,95]⟩,⟨[],[10,11]⟩,⟨[(0,1),(1,1)],[21,84,85,86]⟩,⟨[(1,1)],[21,84,85,86]⟩,⟨[(0,1)],[10,11]⟩],[(1,[2,4,5,13,36,37,38]),(3,[4,13,16,54,55,56]),(5,[21,84,85,86])],[(0,[1,2,4,5]),(1,[2,4,5,13]),(2,[2,4,5,13,36,37,38]),(3,[16]),(4,[4,13,16,54,55,56]),(5,[21]),(6,[21,84,85,86])],[10,11],[],[[true],[false]]⟩
def g66b_T (m : Nat) : FunT := ⟨66,[.a (.agg [(.int .i64),(.int .i64),(.imm (.int .i64)),(.imm (.int .i64)),(.imm (.int .u64))]),.a (.c (.imm (.int .u64))),.a (.c (.int .i64)),.a (.c (.int .i64)),.a (.c (.fn 70))],.tup [(.c (.nm 0 (.int .u64))),(.c (.int .i64))],[.a (.c .dead),.a (.c .dead),.a (.c .dead),.a (.c .dead),.a (.c .dead)],fun (x : (Int × Int × List Int × List Int × List Int × Unit) × List Int × Int × Int × Unit × Unit) => g66b m x.1.1 x.1.2.1 x.1.2.2.1 x.1.2.2.2.1 x.1.2.2.2.2.1 x.2.1 x.2.2.1 x.2.2.2.1⟩
noncomputable def g66b_C : Code := codeOf Tryz.f66
noncomputable def g66b_B1 : Code := qo g66b_C 0 0
noncomputable def g66b_B3 : Code := qo g66b_C 0 1
noncomputable def g66b_B5 : Code := qo g66b_C 0 2
theorem g66b_K (m : Nat) : ∀ u ∈ [g44_T m,g58_T m,g29_T m,g73_T m,g70_T m,g132_T m,g61_T m,g60_T m],FunOK Tryz.prog u := AllF.mem ⟨g44_ok m,g58_ok m,g29_ok m,g73_ok m,g70_ok m,g132_ok m,g61_ok m,g60_ok m,trivial⟩
def g66b_L2_X (m : Nat) : LT := ⟨5,[(21,.a (.c (.nm 0 (.int .u64)))),(84,.a (.c (.imm (.sl false (.pr .bool (.pr (.pr .bool (.sl false (.int .u32))) (.int .i64))))))),(85,.a (.c (.int .i64))),(86,.a (.c (.int .i64)))],[(.ret,[(10,.a (.c (.nm 0 (.int .u64)))),(11,.a (.c (.int .i64)))]),(.exit 5,[(21,.a (.c (.nm 0 (.int .u64))))])],fun n (x : List Int × (List (List (Bool × (Bool × List Int) × Int))) × Int × Int × Unit) => g66b_L2 m n x.1 x.2.1 x.2.2.1 x.2.2.2.1⟩
theorem g66b_L2_ok {E : Entry} (hE : EOf Tryz.prog E 102 g66b_H.pins) (m : Nat) (n : Nat) : ql Tryz.prog E g66b_B5 ((g66b_L2_X m).at n) :=
  lok hmix htt hE (g66b_K m) (L := []) (g66b_L2_X m) (l := []) (by kernel_rfl) (fun _ _ => trivial) (fun n x => by kernel_rfl) (fun _ => by kernel_rfl) n
def g66b_L1_X (m : Nat) : LT := ⟨3,[(4,.a (.c (.fn 70))),(13,.a (.c (.nm 0 (.pr .bool (.pr (.pr .bool (.sl false (.int .u32))) (.int .i64)))))),(16,.a (.c (.dp 1 (.pr .bool (.pr (.pr .bool (.sl false (.int .u32))) (.int .i64)))))),(54,.a (.c (.nm 2 (.pr (.int .i64) (.pr (.int .i64) (.int .u64)))))),(55,.a (.c (.int .i64))),(56,.a (.c (.int .i64)))],[(.exit 3,[(16,.a (.c (.dp 0 (.pr .bool (.pr (.pr .bool (.sl false (.int .u32))) (.int .i64))))))])],fun n (x : Unit × (List (Bool × (Bool × List Int) × Int)) × (List (List (Bool × (Bool × List Int) × Int))) × (List (Int × Int × Int)) × Int × Int × Unit) => g66b_L1 m n x.2.1 x.2.2.1 x.2.2.2.1 x.2.2.2.2.1 x.2.2.2.2.2.1⟩
theorem g66b_L1_ok {E : Entry} (hE : EOf Tryz.prog E 102 g66b_H.pins) (m : Nat) (n : Nat) : ql Tryz.prog E g66b_B3 ((g66b_L1_X m).at n) :=
  lok hmix htt hE (g66b_K m) (L := []) (g66b_L1_X m) (l := []) (by kernel_rfl) (fun _ _ => trivial) (fun n x => by kernel_rfl) (fun _ => by kernel_rfl) n
def g66b_L0_X (m : Nat) : LT := ⟨1,[(2,.a (.c (.int .i64))),(4,.a (.c (.fn 70))),(5,.a (.bx 0 [(.int .i64),(.int .i64),(.imm (.int .i64)),(.imm (.int .i64)),(.imm (.int .u64))])),(13,.a (.c (.nm 1 (.pr .bool (.pr (.pr .bool (.sl false (.int .u32))) (.int .i64)))))),(36,.a (.c (.imm (.int .u64)))),(37,.a (.c (.int .i64))),(38,.a (.c (.int .i64)))],[(.ret,[(10,.a (.c (.nm 0 (.int .u64)))),(11,.a (.c (.int .i64)))]),(.exit 1,[(2,.a (.c (.int .i64))),(4,.a (.c (.fn 70))),(5,.a (.bx 0 [(.int .i64),(.int .i64),(.imm (.int .i64)),(.imm (.int .i64)),(.imm (.int .u64))])),(13,.a (.c (.nm 1 (.pr .bool (.pr (.pr .bool (.sl false (.int .u32))) (.int .i64))))))])],fun n (x : Int × Unit × (Int × Int × List Int × List Int × List Int × Unit) × (List (Bool × (Bool × List Int) × Int)) × List Int × Int × Int × Unit) => g66b_L0 m n x.1 x.2.2.1.1 x.2.2.1.2.1 x.2.2.1.2.2.1 x.2.2.1.2.2.2.1 x.2.2.1.2.2.2.2.1 x.2.2.2.1 x.2.2.2.2.1 x.2.2.2.2.2.1 x.2.2.2.2.2.2.1⟩
theorem g66b_L0_ok {E : Entry} (hE : EOf Tryz.prog E 102 g66b_H.pins) (m : Nat) (n : Nat) : ql Tryz.prog E g66b_B1 ((g66b_L0_X m).at n) :=
  lok hmix htt hE (g66b_K m) (L := []) (g66b_L0_X m) (l := []) (by kernel_rfl) (fun _ _ => trivial) (fun n x => by kernel_rfl) (fun _ => by kernel_rfl) n
theorem g66b_ok (m : Nat) : FunOK Tryz.prog (g66b_T m) :=
  fok hmix htt (H := g66b_H) (g66b_T m) Tryz.func66 (by kernel_rfl) (g66b_K m) (L := [(g66b_L0_X m).at m,(g66b_L1_X m).at m,(g66b_L2_X m).at m]) (l := [(1,g66b_B1),(3,g66b_B3),(5,g66b_B5)]) (by kernel_rfl) (fun _ hE _ _ => ⟨qi ⟨yb (g66b_L0_ok hE m m),nb rfl,nb rfl,trivial⟩,qi ⟨nb rfl,yb (g66b_L1_ok hE m m),nb rfl,trivial⟩,qi ⟨nb rfl,nb rfl,yb (g66b_L2_ok hE m m),trivial⟩,trivial⟩) (fun x => by kernel_rfl)
/-! 17 sparse/matrix.MulTrans -/
def g17_H : Hints := ⟨[⟨[],[1,2]⟩,⟨[(1,1)],[4,5]⟩],[],[],[4,5],[],[[true],[false]]⟩
def g17_T (m : Nat) : FunT := ⟨17,[.a (.agg [(.int .i64),(.int .i64),(.imm (.int .i64)),(.imm (.int .i64)),(.imm (.int .u64))]),.a (.c (.imm (.int .u64)))],.tup [(.c (.nm 0 (.int .u64))),(.c (.int .i64))],[.a (.c .dead),.a (.c .dead)],fun (x : (Int × Int × List Int × List Int × List Int × Unit) × List Int × Unit) => g17 m x.1.1 x.1.2.1 x.1.2.2.1 x.1.2.2.2.1 x.1.2.2.2.2.1 x.2.1⟩
theorem g17_ok (m : Nat) : FunOK Tryz.prog (g17_T m) :=
  fok hmix htt (H := g17_H) (g17_T m) Tryz.func17 (by kernel_rfl) (AllF.mem (l := [g66b_T m]) ⟨g66b_ok m,trivial⟩) (L := []) (l := []) (by kernel_rfl) (fun _ hE _ _ => trivial) (fun x => by kernel_rfl)
/-! 72 sparse/sparseref09.Pack -/
def g72_H : Hints := ⟨[⟨[],[0,1,2,6]⟩,⟨[],[0,1,2,6,7]⟩,⟨[],[0,1,2,6,7,8]⟩,⟨[],[0,1,2,6,7,8,9]⟩,⟨[],[0,1,2,6,7,8,9,24]⟩,⟨[(0,1)],[0,1,2,6,7,8,9]⟩,⟨[],[0,1,2,6,7,8,9]⟩,⟨[],[0,1,2,6,7,8,10]⟩,⟨[],[0,1,2,6,7,8,10,46]⟩,⟨[(0,1)],[0,1,2,6,7,8,10]⟩,⟨[],[0,1,2,6,7,8,10,11]⟩,⟨[],[0,1,2,6,7,8,10,11,51]⟩,⟨[(0,1)],[0,1,2,6,7,8,10,11]⟩,⟨[],[0,1,2,6,7,8,10,11,12]⟩,⟨[],[0,1,2,6,7,8,10,11,12,63]⟩,⟨[(1,1)],[0,1,2,6,7,8,10,11,12]⟩,⟨[(3,1),(9,3)],[0,1,2,6,7,8,10,11]⟩,⟨[(1,1)],[0,1,2,6,7,8,10]⟩,⟨[(0,1)],[6]⟩],[(0,[0,1,2,6,7,8,9]),(2,[0,1,2,6,7,8,10]),(4,[0,1,2,6,7,8,10,11])],[(0,[0,1,2,6,7,8]),(1,[0,1,2,6,7,8,9]),(2,[6,7]),(3,[0,1,2,6,7,8,10]),(4,[0,1,2,6,7,8,10]),(5,[0,1,2,6,7,8,10,11])],[6],[],[[false,false,true,true,true]]⟩
def g72_T (m : Nat) : FunT := ⟨72,[.a (.c (.int .i64)),.a (.c (.int .i64)),.a (.c (.imm (.pr (.int .i64) (.pr (.int .i64) (.int .u64)))))],.a (.agg [(.int .i64),(.int .i64),(.nm 0 (.int .i64)),(.nm 1 (.int .i64)),(.nm 2 (.int .u64))]),[.a (.c .dead),.a (.c .dead),.a (.c .dead)],fun (x : Int × Int × (List (Int × Int × Int)) × Unit) => g72 m x.1 x.2.1 x.2.2.1⟩
noncomputable def g72_C : Code := codeOf Tryz.f72
noncomputable def g72_B0 : Code := qo g72_C 0 0
noncomputable def g72_B2 : Code := qo g72_C 0 1
noncomputable def g72_B4 : Code := qo g72_B2 2 0
def g72_L2_X (m : Nat) : LT := ⟨4,[(0,.a (.c (.int .i64))),(1,.a (.c (.int .i64))),(2,.a (.c (.imm (.pr (.int .i64) (.pr (.int .i64) (.int .u64)))))),(6,.a (.bx 0 [(.int .i64),(.int .i64),(.nm 1 (.int .i64)),(.nm 2 (.int .i64)),(.nm 3 (.int .u64))])),(7,.a (.bx 4 [(.int .i64),(.int .i64),(.nm 5 (.int .i64)),(.nm 6 (.int .i64)),(.nm 7 (.int .u64))])),(8,.a (.c (.nm 8 (.int .i64)))),(10,.a (.c (.int .i64))),(11,.a (.c (.int .i64)))],[(.exit 4,[(0,.a (.c (.int .i64))),(1,.a (.c (.int .i64))),(2,.a (.c (.imm (.pr (.int .i64) (.pr (.int .i64) (.int .u64)))))),(6,.a (.bx 0 [(.int .i64),(.int .i64),(.nm 1 (.int .i64)),(.nm 2 (.int .i64)),(.nm 3 (.int .u64))])),(7,.a (.bx 4 [(.int .i64),(.int .i64),(.nm 5 (.int .i64)),(.nm 6 (.int .i64)),(.nm 7 (.int .u64))])),(8,.a (.c (.nm 8 (.int .i64)))),(10,.a (.c (.int .i64)))])],fun n (x : Int × Int × (List (Int × Int × Int)) × (Int × Int × List Int × List Int × List Int × Unit) × (Int × Int × List Int × List Int × List Int × Unit) × List Int × Int × Int × Unit) => g72_L2 m n x.1 x.2.1 x.2.2.1 x.2.2.2.1.1 x.2.2.2.1.2.1 x.2.2.2.1.2.2.1 x.2.2.2.1.2.2.2.1 x.2.2.2.1.2.2.2.2.1 x.2.2.2.2.1.1 x.2.2.2.2.1.2.1 x.2.2.2.2.1.2.2.1 x.2.2.2.2.1.2.2.2.1 x.2.2.2.2.1.2.2.2.2.1 x.2.2.2.2.2.1 x.2.2.2.2.2.2.1 x.2.2.2.2.2.2.2.1⟩
theorem g72_L2_ok {E : Entry} (hE : EOf Tryz.prog E 90 g72_H.pins) (m : Nat) (n : Nat) : ql Tryz.prog E g72_B4 ((g72_L2_X m).at n) :=
  lok hmix htt hE noF (L := []) (g72_L2_X m) (l := []) (by kernel_rfl) (fun _ _ => trivial) (fun n x => by kernel_rfl) (fun _ => by kernel_rfl) n
def g72_L1_X (m : Nat) : LT := ⟨2,[(0,.a (.c (.int .i64))),(1,.a (.c (.int .i64))),(2,.a (.c (.imm (.pr (.int .i64) (.pr (.int .i64) (.int .u64)))))),(6,.a (.bx 0 [(.int .i64),(.int .i64),(.nm 1 (.int .i64)),(.nm 2 (.int .i64)),(.nm 3 (.int .u64))])),(7,.a (.bx 4 [(.int .i64),(.int .i64),(.nm 5 (.int .i64)),(.nm 6 (.int .i64)),(.nm 7 (.int .u64))])),(8,.a (.c (.nm 8 (.int .i64)))),(10,.a (.c (.int .i64)))],[(.exit 2,[(6,.a (.bx 0 [(.int .i64),(.int .i64),(.nm 1 (.int .i64)),(.nm 2 (.int .i64)),(.nm 3 (.int .u64))])),(7,.a (.bx 4 [(.int .i64),(.int .i64),(.nm 5 (.int .i64)),(.nm 6 (.int .i64)),(.nm 7 (.int .u64))]))])],fun n (x : Int × Int × (List (Int × Int × Int)) × (Int × Int × List Int × List Int × List Int × Unit) × (Int × Int × List Int × List Int × List Int × Unit) × List Int × Int × Unit) => g72_L1 m n x.1 x.2.1 x.2.2.1 x.2.2.2.1.1 x.2.2.2.1.2.1 x.2.2.2.1.2.2.1 x.2.2.2.1.2.2.2.1 x.2.2.2.1.2.2.2.2.1 x.2.2.2.2.1.1 x.2.2.2.2.1.2.1 x.2.2.2.2.1.2.2.1 x.2.2.2.2.1.2.2.2.1 x.2.2.2.2.1.2.2.2.2.1 x.2.2.2.2.2.1 x.2.2.2.2.2.2.1⟩
theorem g72_L1_ok {E : Entry} (hE : EOf Tryz.prog E 90 g72_H.pins) (m : Nat) (n : Nat) : ql Tryz.prog E g72_B2 ((g72_L1_X m).at n) :=
  lok hmix htt hE noF (L := [(g72_L2_X m).at m]) (g72_L1_X m) (l := [(4,g72_B4)]) (by kernel_rfl) (fun _ _ => ⟨qi ⟨yb (g72_L2_ok hE m m),trivial⟩,trivial⟩) (fun n x => by kernel_rfl) (fun _ => by kernel_rfl) n
def g72_L0_X (m : Nat) : LT := ⟨0,[(0,.a (.c (.int .i64))),(1,.a (.c (.int .i64))),(2,.a (.c (.imm (.pr (.int .i64) (.pr (.int .i64) (.int .u64)))))),(6,.a (.bx 0 [(.int .i64),(.int .i64),(.nm 1 (.int .i64)),(.nm 2 (.int .i64)),(.nm 3 (.int .u64))])),(7,.a (.bx 4 [(.int .i64),(.int .i64),(.nm 5 (.int .i64)),(.nm 6 (.int .i64)),(.nm 7 (.int .u64))])),(8,.a (.c (.nm 8 (.int .i64)))),(9,.a (.c (.int .i64)))],[(.exit 0,[(0,.a (.c (.int .i64))),(1,.a (.c (.int .i64))),(2,.a (.c (.imm (.pr (.int .i64) (.pr (.int .i64) (.int .u64)))))),(6,.a (.bx 0 [(.int .i64),(.int .i64),(.nm 1 (.int .i64)),(.nm 2 (.int .i64)),(.nm 3 (.int .u64))])),(7,.a (.bx 4 [(.int .i64),(.int .i64),(.nm 5 (.int .i64)),(.nm 6 (.int .i64)),(.nm 7 (.int .u64))])),(8,.a (.c (.nm 8 (.int .i64))))])],fun n (x : Int × Int × (List (Int × Int × Int)) × (Int × Int × List Int × List Int × List Int × Unit) × (Int × Int × List Int × List Int × List Int × Unit) × List Int × Int × Unit) => g72_L0 m n x.1 x.2.1 x.2.2.1 x.2.2.2.1.1 x.2.2.2.1.2.1 x.2.2.2.1.2.2.1 x.2.2.2.1.2.2.2.1 x.2.2.2.1.2.2.2.2.1 x.2.2.2.2.1.1 x.2.2.2.2.1.2.1 x.2.2.2.2.1.2.2.1 x.2.2.2.2.1.2.2.2.1 x.2.2.2.2.1.2.2.2.2.1 x.2.2.2.2.2.1 x.2.2.2.2.2.2.1⟩
theorem g72_L0_ok {E : Entry} (hE : EOf Tryz.prog E 90 g72_H.pins) (m : Nat) (n : Nat) : ql Tryz.prog E g72_B0 ((g72_L0_X m).at n) :=
  lok hmix htt hE noF (L := []) (g72_L0_X m) (l := []) (by kernel_rfl) (fun _ _ => trivial) (fun n x => by kernel_rfl) (fun _ => by kernel_rfl) n
theorem g72_ok (m : Nat) : FunOK Tryz.prog (g72_T m) :=
  fok hmix htt (H := g72_H) (g72_T m) Tryz.func72 (by kernel_rfl) noF (L := [(g72_L0_X m).at m,(g72_L1_X m).at m]) (l := [(0,g72_B0),(2,g72_B2)]) (by kernel_rfl) (fun _ hE _ _ => ⟨qi ⟨yb (g72_L0_ok hE m m),nb rfl,trivial⟩,qi ⟨nb rfl,yb (g72_L1_ok hE m m),trivial⟩,trivial⟩) (fun x => by kernel_rfl)
/-! 71 sparse/sparseref09.Transpose -/
def g71_H : Hints := ⟨[⟨[],[1,2]⟩,⟨[],[1,2,4]⟩,⟨[],[1,2,4,10]⟩,⟨[(1,1)],[2,3]⟩,⟨[],[1,2,5]⟩,⟨[],[1,2,5,6]⟩,⟨[],[1,2,5,6,18]⟩,⟨[(0,1)],[1,2,5,6]⟩,⟨[],[1,2,5,6]⟩,⟨[(4,1)],[2,3]⟩],[(0,[1,2,5,6])],[(0,[1,2,5]),(1,[1,2,5,6])],[2,3],[],[[false,false,true,true,true],[false]]⟩
def g71_T (m : Nat) : FunT := ⟨71,[.a (.agg [(.int .i64),(.int .i64),(.imm (.int .i64)),(.imm (.int .i64)),(.imm (.int .u64))])],.tup [(.agg [(.int .i64),(.int .i64),(.nm 0 (.int .i64)),(.nm 1 (.int .i64)),(.nm 2 (.int .u64))]),(.c (.int .i64))],[.a (.c .dead)],fun (x : (Int × Int × List Int × List Int × List Int × Unit) × Unit) => g71 m x.1.1 x.1.2.1 x.1.2.2.1 x.1.2.2.2.1 x.1.2.2.2.2.1⟩
noncomputable def g71_C : Code := codeOf Tryz.f71
noncomputable def g71_B0 : Code := qo g71_C 0 0
theorem g71_K (m : Nat) : ∀ u ∈ [g45_T m,g48_T m,g72_T m],FunOK Tryz.prog u := AllF.mem ⟨g45_ok m,g48_ok m,g72_ok m,trivial⟩
def g71_L0_X (m : Nat) : LT := ⟨0,[(1,.a (.bx 0 [(.int .i64),(.int .i64),(.imm (.int .i64)),(.imm (.int .i64)),(.imm (.int .u64))])),(2,.a (.bx 1 [(.int .i64),(.int .i64),(.nm 2 (.int .i64)),(.nm 3 (.int .i64)),(.nm 4 (.int .u64))])),(5,.a (.c (.nm 5 (.pr (.int .i64) (.pr (.int .i64) (.int .u64)))))),(6,.a (.c (.int .i64)))],[(.exit 0,[(1,.a (.bx 0 [(.int .i64),(.int .i64),(.imm (.int .i64)),(.imm (.int .i64)),(.imm (.int .u64))])),(2,.a (.bx 1 [(.int .i64),(.int .i64),(.nm 2 (.int .i64)),(.nm 3 (.int .i64)),(.nm 4 (.int .u64))])),(5,.a (.c (.nm 5 (.pr (.int .i64) (.pr (.int .i64) (.int .u64))))))])],fun n (x : (Int × Int × List Int × List Int × List Int × Unit) × (Int × Int × List Int × List Int × List Int × Unit) × (List (Int × Int × Int)) × Int × Unit) => g71_L0 m n x.1.1 x.1.2.1 x.1.2.2.1 x.1.2.2.2.1 x.1.2.2.2.2.1 x.2.1.1 x.2.1.2.1 x.2.1.2.2.1 x.2.1.2.2.2.1 x.2.1.2.2.2.2.1 x.2.2.1 x.2.2.2.1⟩
theorem g71_L0_ok {E : Entry} (hE : EOf Tryz.prog E 45 g71_H.pins) (m : Nat) (n : Nat) : ql Tryz.prog E g71_B0 ((g71_L0_X m).at n) :=
  lok hmix htt hE (g71_K m) (L := []) (g71_L0_X m) (l := []) (by kernel_rfl) (fun _ _ => trivial) (fun n x => by kernel_rfl) (fun _ => by kernel_rfl) n
theorem g71_ok (m : Nat) : FunOK Tryz.prog (g71_T m) :=
  fok hmix htt (H := g71_H) (g71_T m) Tryz.func71 (by kernel_rfl) (g71_K m) (L := [(g71_L0_X m).at m]) (l := [(0,g71_B0)]) (by kernel_rfl) (fun _ hE _ _ => ⟨qi ⟨yb (g71_L0_ok hE m m),trivial⟩,trivial⟩) (fun x => by kernel_rfl)
/-! 18 sparse/sparseref09.MulTrans -/
def g18_H : Hints := ⟨[⟨[],[1,2]⟩,⟨[(2,1)],[1,6,7]⟩,⟨[],[1,6,7,14]⟩,⟨[(0,1)],[4,5]⟩,⟨[(1,1)],[4,5]⟩],[],[],[4,5],[],[[true],[false]]⟩
def g18_T (m : Nat) : FunT := ⟨18,[.a (.agg [(.int .i64),(.int .i64),(.imm (.int .i64)),(.imm (.int .i64)),(.imm (.int .u64))]),.a (.c (.imm (.int .u64)))],.tup [(.c (.nm 0 (.int .u64))),(.c (.int .i64))],[.a (.c .dead),.a (.c .dead)],fun (x : (Int × Int × List Int × List Int × List Int × Unit) × List Int × Unit) => g18 m x.1.1 x.1.2.1 x.1.2.2.1 x.1.2.2.2.1 x.1.2.2.2.2.1 x.2.1⟩
theorem g18_ok (m : Nat) : FunOK Tryz.prog (g18_T m) :=
  fok hmix htt (H := g18_H) (g18_T m) Tryz.func18 (by kernel_rfl) (AllF.mem (l := [g71_T m,g16_T m]) ⟨g71_ok m,g16_ok m,trivial⟩) (L := []) (l := []) (by kernel_rfl) (fun _ hE _ _ => trivial) (fun x => by kernel_rfl)
/-! 19 sparse/sparsekit.Floats -/
def g19_H : Hints := ⟨[⟨[],[0,1]⟩,⟨[],[0,1,10]⟩,⟨[],[4]⟩,⟨[],[0,1,5]⟩,⟨[],[0,1,5,14]⟩,⟨[(0,1)],[0,1,5]⟩,⟨[],[0,1,5,25]⟩,⟨[],[4]⟩,⟨[],[4]⟩],[(0,[0,1,5])],[(0,[]),(1,[0,1,5])],[4],[],[[false]]⟩
def g19_T (m : Nat) : FunT := ⟨19,[.a (.c (.imm (.int .u64))),.a (.c (.imm (.int .u64)))],.a (.c .bool),[.a (.c .dead),.a (.c .dead)],fun (x : List Int × List Int × Unit) => g19 m x.1 x.2.1⟩
noncomputable def g19_C : Code := codeOf Tryz.f19
noncomputable def g19_B0 : Code := qo g19_C 0 0
def g19_L0_X (m : Nat) : LT := ⟨0,[(0,.a (.c (.imm (.int .u64)))),(1,.a (.c (.imm (.int .u64)))),(5,.a (.c (.int .i64)))],[(.ret,[(4,.a (.c .bool))]),(.exit 0,[])],fun n (x : List Int × List Int × Int × Unit) => g19_L0 m n x.1 x.2.1 x.2.2.1⟩
theorem g19_L0_ok {E : Entry} (hE : EOf Tryz.prog E 26 g19_H.pins) (m : Nat) (n : Nat) : ql Tryz.prog E g19_B0 ((g19_L0_X m).at n) :=
  lok hmix htt hE noF (L := []) (g19_L0_X m) (l := []) (by kernel_rfl) (fun _ _ => trivial) (fun n x => by kernel_rfl) (fun _ => by kernel_rfl) n
theorem g19_ok (m : Nat) : FunOK Tryz.prog (g19_T m) :=
  fok hmix htt (H := g19_H) (g19_T m) Tryz.func19 (by kernel_rfl) noF (L := [(g19_L0_X m).at m]) (l := [(0,g19_B0)]) (by kernel_rfl) (fun _ hE _ _ => ⟨qi ⟨yb (g19_L0_ok hE m m),trivial⟩,trivial⟩) (fun x => by kernel_rfl)
/-! 4 sparse/sparselaw09.MatrixProducts -/
def sparselaw09_MatrixProducts_H : Hints := ⟨[⟨[],[1,2]⟩,⟨[(3,1)],[1,2,20]⟩,⟨[],[4]⟩,⟨[(3,1)],[1,2,5,6]⟩,⟨[(3,1)],[1,2,5,6,7,8]⟩,⟨[(3,1)],[1,2,5,6,7,8,9,10]⟩,⟨[(1,1),(3,1)],[5,6,7,8,9,10,11,12]⟩,⟨[(0,1),(1,1),(3,1),(4,1),(5,1),(8,1),(9,1),(10,1),(13,1),(14,1),(15,1),(18,1)],[4]⟩],[],[],[4],[],[[false]]⟩
abbrev sparselaw09_MatrixProducts_A : List Sh := [.a (.agg [(.int .i64),(.int .i64),(.imm (.int .i64)),(.imm (.int .i64)),(.imm (.int .u64))]),.a (.c (.imm (.int .u64)))]
abbrev sparselaw09_MatrixProducts_S : Sh := .a (.c .bool)
abbrev sparselaw09_MatrixProducts_U : List Sh := [.a (.c .dead),.a (.c .dead)]
def sparselaw09_MatrixProducts_R (m : Nat) : Qq sparselaw09_MatrixProducts_A → Option (sparselaw09_MatrixProducts_S.Val × Qq sparselaw09_MatrixProducts_U) := fun (x : (Int × Int × List Int × List Int × List Int × Unit) × List Int × Unit) => sparselaw09_MatrixProducts m x.1.1 x.1.2.1 x.1.2.2.1 x.1.2.2.2.1 x.1.2.2.2.2.1 x.2.1
def sparselaw09_MatrixProducts_T (m : Nat) : FunT := ⟨4,sparselaw09_MatrixProducts_A,sparselaw09_MatrixProducts_S,sparselaw09_MatrixProducts_U,sparselaw09_MatrixProducts_R m⟩
theorem sparselaw09_MatrixProducts_ok (m : Nat) : FunOK Tryz.prog (sparselaw09_MatrixProducts_T m) :=
  fok hmix htt (H := sparselaw09_MatrixProducts_H) (sparselaw09_MatrixProducts_T m) Tryz.func4 (by kernel_rfl) (AllF.mem (l := [sparselaw09_small_T m,sparselaw09_awake_T m,g15_T m,g16_T m,g17_T m,g18_T m,g19_T m]) ⟨sparselaw09_small_ok m,sparselaw09_awake_ok m,g15_ok m,g16_ok m,g17_ok m,g18_ok m,g19_ok m,trivial⟩) (L := []) (l := []) (by kernel_rfl) (fun _ hE _ _ => trivial) (fun x => by kernel_rfl)
end Go.Vs.F
