/-Proved:for every input,the law InertiaSound returns true and leaves its arguments as they were;the tied card. There is no condition. -/
import Derived.Test.YtikppifemlpjlaaGreatDoorVc
import Derived.Test.YtikppifemlpjlaaGreatDoorOkc
import Derived.Test.YtikppifemlpjlaaGreatDoorLj
import Derived.Test.YtikppifemlpjlaaGreatDoorRows
import Derived.Test.YtikppifemlpjlaaGreatDoorCards
import Derived.Test.YtikppifemlpjlaaGreatDoorTie
import Derived.ProofKit
import Derived.LaidLaws
import Derived.LaidHandle
set_option linter.unusedVariables false
namespace Go.Proofs.YtikppifemlpjlaaGreatDoor
open Go.Vs Go.Vs.F Go.ChangeShapes Go.WideShapes Go.ChangeAt Go.RowKit
theorem own:ownKnob Tryz.prog.godebug=none:=by kernel_rfl
theorem laidOut:laidOutB Tryz.prog=true:=by kernel_rfl
noncomputable def laidWorld (os:Os):World:=
 let w0:=World.holding Tryz.prog os ⟨#[], #[],[]⟩
 {w0 with heap:=w0.heap.modify 0 fun
   | .cells _ t frozen=> .cells (q33.map fun x=>Value.int .u8 x).toArray t frozen
   |o=>o}
abbrev theLaid:List (String×DataW Unit):=[("math/bits.deBruijn32tab",Rows.laid_math_bits_deBruijn32tab)]
set_option maxRecDepth 100000 in
theorem laidWorld_met (os:Os) (args:Array Value):laidMetH Tryz.prog theLaid ((laidWorld os).forCall (fun _ _=>0) ⟨#[],args,[]⟩).memory:=
 laidMetH_of_parts (laidMet_of_run' 8 (by kernel_rfl) (by kernel_rfl)) (by kernel_rfl)
theorem laid_glob {w:World} (h:laidMetH Tryz.prog theLaid w):GlobOK Tryz.prog nobody w:=
 qjb (g:=0) (k:= .u8) (xs:=q33) (name:= "math/bits.deBruijn32tab") (t:=202) (e:=5) (n:=32) (d:=Rows.laid_math_bits_deBruijn32tab) (by kernel_rfl) (by kernel_rfl) (by kernel_rfl) (by kernel_rfl) (by kernel_rfl) (by kernel_rfl) (by decide) rfl (by kernel_rfl) h
set_option maxRecDepth 100000 in
theorem lifted (HL: ∀x:X4 sparselaw39_InertiaSound_A,q9j sparselaw39_InertiaSound_A x→ ∃m,sparselaw39_InertiaSound_R m x=some (true,(),(),(),(),(),(),())) (os:Os) (started:os.Started) (H:Type) (enc:TypeId×Value→H):
 ReturnsInHanded {} Tryz.checked os 4 .any (fun w args=>(Rows.inertiaSoundSpec.pre enc Tryz.prog Tryz.f4 [] false w args∧laidMetH Tryz.prog theLaid w)∧sizedMet enc Tryz.prog Tryz.f4 (OpenSpec.ofChange Rows.inertiaSoundSpec) false w args)
  (Rows.inertiaSoundSpec.post enc Tryz.prog Tryz.f4 false true false false):=by
 refine returnsInHanded_of_change_and (C:=Tryz.checked) (X:=fun w _=>laidMetH Tryz.prog theLaid w) (fun _ _ _ hh h=>h.of_heap hh) own started (by kernel_rfl) Tryz.func4
  (ChangeSpec.witness_at (enc:=enc) (C:=Tryz.checked) (os:=os) (X:=fun w _=>laidMetH Tryz.prog theLaid w) false (laidWorld os) #[.slice none 0 0,.int .i64 0,.int .i64 0,.int .u64 0,.bool false,.int .i64 0] 8 rfl (by kernel_rfl) (by kernel_rfl) (by kernel_rfl) (by kernel_rfl) (by kernel_rfl) (laidWorld_met os _)) ?_
 intro W base args ds gs before hval hW hcnd _ hL _
 exact q9h (P:=Tryz.prog) (ss:=sparselaw39_InertiaSound_A) laidOut (by kernel_rfl) (by kernel_rfl) rfl rfl (by kernel_rfl) Tryz.underlying4
  (fun ds h=>by
    obtain⟨d1,d2,d3,d4,d5,d6,rfl⟩: ∃d1 d2 d3 d4 d5 d6,ds=[d1,d2,d3,d4,d5,d6]:=by
     match ds,h with
     |[d1,d2,d3,d4,d5,d6],_=>exact⟨d1,d2,d3,d4,d5,d6,rfl⟩
    rfl)
  (fun x hx=>by
    obtain⟨m,hm⟩:=HL x hx
    exact⟨_,sparselaw39_InertiaSound_ok m x _ hm⟩) hval hW (laid_glob hL)
theorem over (HL: ∀x:X4 sparselaw39_InertiaSound_A,q9j sparselaw39_InertiaSound_A x→ ∃m,sparselaw39_InertiaSound_R m x=some (true,(),(),(),(),(),(),())):Rows.InertiaSoundSaid:=
 OpenClaim.holds_of_wide 4 Tryz.f4 rfl rfl rfl rfl rfl rfl rfl ⟨rfl,rfl,rfl,rfl,rfl⟩ rfl rfl rfl rfl rfl (by kernel_rfl) Tryz.func4 (by kernel_rfl)
  (of_decide_eq_true (by kernel_rfl)) (by unfold Func.isWrapper;first|(rw[if_pos (by decide+kernel)];kernel_rfl)|(rw[if_neg (by decide+kernel)];exact⟨rfl,rfl⟩))
  (fun os started H enc _=>lifted HL os started H enc)
theorem inertiaSound_holds:Rows.InertiaSoundSaid:=over fun x hx=>by
 obtain⟨x1,x2,x3,x4,x5,x6,_⟩:=x
 exact qov x1 x2 x3 x4 x5 x6 (wfLen hx.1) (wfu64 hx.2.2.2.1)
theorem inertiaSound_card_holds:Rows.InertiaSoundCardSaid:=
 Claim7.holds_tied_plain_at .later [] [.data] _ _ _
  inertiaSound_holds (fun _ h=>by cases h) (by kernel_rfl) (fun _ h=>by cases h) inertiaSound_row_tie rfl ⟨rfl,rfl⟩ (by kernel_rfl) rfl
  (fun f fn hf hfn=>by
    obtain rfl:f=4:=Option.some.inj ((show Tryz.prog.funcNamed "sparse/sparselaw39.InertiaSound" =some 4 by kernel_rfl).symm.trans hf)|>.symm
    obtain rfl:fn=Tryz.f4:=(Option.some.inj (Tryz.func4.symm.trans hfn)).symm
    exact⟨by kernel_rfl,fun j t ht=>by
     have hp:Tryz.f4.params= #[22,3,3,23,4,3]:=Tryz.params4
     rw[hp]at ht
     have hm:t=3∨t=4∨t=22∨t=23:=by
      match j,ht with
      |0,ht=>right;right;left;simpa using ht.symm
      |1,ht=>left;simpa using ht.symm
      |2,ht=>left;simpa using ht.symm
      |3,ht=>right;right;right;simpa using ht.symm
      |4,ht=>right;left;simpa using ht.symm
      |5,ht=>left;simpa using ht.symm
      |j+6,ht=>simp at ht
     rcases hm with rfl|rfl|rfl|rfl
     · exact(show Tryz.prog.wantsStandIn 3=false by kernel_rfl)
     · exact(show Tryz.prog.wantsStandIn 4=false by kernel_rfl)
     · exact(show Tryz.prog.wantsStandIn 22=false by kernel_rfl)
     · exact(show Tryz.prog.wantsStandIn 23=false by kernel_rfl)⟩)
  (by kernel_rfl)
end Go.Proofs.YtikppifemlpjlaaGreatDoor
