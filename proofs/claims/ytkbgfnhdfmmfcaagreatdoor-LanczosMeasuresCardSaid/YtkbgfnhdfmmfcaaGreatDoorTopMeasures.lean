/-Proved:for every input,the law LanczosMeasures returns true and leaves its arguments as they were;the tied card. There is no condition. -/
import Derived.Test.YtkbgfnhdfmmfcaaGreatDoorVc
import Derived.Test.YtkbgfnhdfmmfcaaGreatDoorOkb
import Derived.Test.YtkbgfnhdfmmfcaaGreatDoorLe
import Derived.Test.YtkbgfnhdfmmfcaaGreatDoorRows
import Derived.Test.YtkbgfnhdfmmfcaaGreatDoorCards
import Derived.Test.YtkbgfnhdfmmfcaaGreatDoorTie
import Derived.ProofKit
import Derived.LaidLaws
import Derived.LaidHandle
set_option linter.unusedVariables false
namespace Go.Proofs.YtkbgfnhdfmmfcaaGreatDoor
open Go.Vs Go.Vs.F Go.ChangeShapes Go.WideShapes Go.ChangeAt Go.RowKit
theorem own:ownKnob Tryz.prog.godebug=none:=by kernel_rfl
theorem laidOut:laidOutB Tryz.prog=true:=by kernel_rfl
noncomputable def laidWorld (os:Os):World:=
 let w0:=World.holding Tryz.prog os ⟨#[], #[],[]⟩
 {w0 with heap:=w0.heap.modify 0 fun
   | .cells _ t frozen=> .cells (q1l.map fun x=>Value.int .u8 x).toArray t frozen
   |o=>o}
abbrev theLaid:List (String×DataW Unit):=[("math/bits.deBruijn32tab",Rows.laid_math_bits_deBruijn32tab)]
set_option maxRecDepth 100000 in
theorem laidWorld_met (os:Os) (args:Array Value):laidMetH Tryz.prog theLaid ((laidWorld os).forCall (fun _ _=>0) ⟨#[],args,[]⟩).memory:=
 laidMetH_of_parts (laidMet_of_run' 8 (by kernel_rfl) (by kernel_rfl)) (by kernel_rfl)
theorem laid_glob {w:World} (h:laidMetH Tryz.prog theLaid w):GlobOK Tryz.prog nobody w:=
 qff (g:=0) (k:= .u8) (xs:=q1l) (name:= "math/bits.deBruijn32tab") (t:=258) (e:=5) (n:=32) (d:=Rows.laid_math_bits_deBruijn32tab) (by kernel_rfl) (by kernel_rfl) (by kernel_rfl) (by kernel_rfl) (by kernel_rfl) (by kernel_rfl) (by decide) rfl (by kernel_rfl) h
set_option maxRecDepth 100000 in
theorem lifted (HL: ∀x:Qr sparselaw38_LanczosMeasures_A,q8c sparselaw38_LanczosMeasures_A x→ ∃m,sparselaw38_LanczosMeasures_R m x=some (true,(),(),(),(),(),(),())) (os:Os) (started:os.Started) (H:Type) (enc:TypeId×Value→H):
 ReturnsInHanded {} Tryz.checked os 7 .any (fun w args=>(Rows.lanczosMeasuresSpec.pre enc Tryz.prog Tryz.f7 [] false w args∧laidMetH Tryz.prog theLaid w)∧sizedMet enc Tryz.prog Tryz.f7 (OpenSpec.ofChange Rows.lanczosMeasuresSpec) false w args)
  (Rows.lanczosMeasuresSpec.post enc Tryz.prog Tryz.f7 false true false false):=by
 refine returnsInHanded_of_change_and (C:=Tryz.checked) (X:=fun w _=>laidMetH Tryz.prog theLaid w) (fun _ _ _ hh h=>h.of_heap hh) own started (by kernel_rfl) Tryz.func7
  (ChangeSpec.witness_at (enc:=enc) (C:=Tryz.checked) (os:=os) (X:=fun w _=>laidMetH Tryz.prog theLaid w) false (laidWorld os) #[.slice none 0 0,.int .i64 0,.int .i64 0,.int .i64 0,.bool false,.int .u64 0] 8 rfl (by kernel_rfl) (by kernel_rfl) (by kernel_rfl) (by kernel_rfl) (by kernel_rfl) (laidWorld_met os _)) ?_
 intro W base args ds gs before hval hW hcnd _ hL _
 exact q7h (P:=Tryz.prog) (ss:=sparselaw38_LanczosMeasures_A) laidOut (by kernel_rfl) (by kernel_rfl) rfl rfl (by kernel_rfl) Tryz.underlying4
  (fun ds h=>by
    obtain⟨d1,d2,d3,d4,d5,d6,rfl⟩: ∃d1 d2 d3 d4 d5 d6,ds=[d1,d2,d3,d4,d5,d6]:=by
     match ds,h with
     |[d1,d2,d3,d4,d5,d6],_=>exact⟨d1,d2,d3,d4,d5,d6,rfl⟩
    rfl)
  (fun x hx=>by
    obtain⟨m,hm⟩:=HL x hx
    exact⟨_,sparselaw38_LanczosMeasures_ok m x _ hm⟩) hval hW (laid_glob hL)
theorem over (HL: ∀x:Qr sparselaw38_LanczosMeasures_A,q8c sparselaw38_LanczosMeasures_A x→ ∃m,sparselaw38_LanczosMeasures_R m x=some (true,(),(),(),(),(),(),())):Rows.LanczosMeasuresSaid:=
 OpenClaim.holds_of_wide 7 Tryz.f7 rfl rfl rfl rfl rfl rfl rfl ⟨rfl,rfl,rfl,rfl,rfl⟩ rfl rfl rfl rfl rfl (by kernel_rfl) Tryz.func7 (by kernel_rfl)
  (of_decide_eq_true (by kernel_rfl)) (by unfold Func.isWrapper;first|(rw[if_pos (by decide+kernel)];kernel_rfl)|(rw[if_neg (by decide+kernel)];exact⟨rfl,rfl⟩))
  (fun os started H enc _=>lifted HL os started H enc)
theorem lanczosMeasures_holds:Rows.LanczosMeasuresSaid:=over fun x hx=>by
 obtain⟨x1,x2,x3,x4,x5,x6,_⟩:=x
 exact q09 x1 x2 x3 x4 x5 x6 (wfLen hx.1) (wfu64 hx.2.2.2.2.2.1)
theorem lanczosMeasures_card_holds:Rows.LanczosMeasuresCardSaid:=
 Claim7.holds_tied_plain_at .later [] [.data] _ _ _
  lanczosMeasures_holds (fun _ h=>by cases h) (by kernel_rfl) (fun _ h=>by cases h) lanczosMeasures_row_tie rfl ⟨rfl,rfl⟩ (by kernel_rfl) rfl
  (fun f fn hf hfn=>by
    obtain rfl:f=7:=Option.some.inj ((show Tryz.prog.funcNamed "sparse/sparselaw38.LanczosMeasures" =some 7 by kernel_rfl).symm.trans hf)|>.symm
    obtain rfl:fn=Tryz.f7:=(Option.some.inj (Tryz.func7.symm.trans hfn)).symm
    exact⟨by kernel_rfl,fun j t ht=>by
     have hp:Tryz.f7.params= #[22,3,3,3,4,39]:=Tryz.params7
     rw[hp]at ht
     have hm:t=3∨t=4∨t=22∨t=39:=by
      match j,ht with
      |0,ht=>right;right;left;simpa using ht.symm
      |1,ht=>left;simpa using ht.symm
      |2,ht=>left;simpa using ht.symm
      |3,ht=>left;simpa using ht.symm
      |4,ht=>right;left;simpa using ht.symm
      |5,ht=>right;right;right;simpa using ht.symm
      |j+6,ht=>simp at ht
     rcases hm with rfl|rfl|rfl|rfl
     · exact(show Tryz.prog.wantsStandIn 3=false by kernel_rfl)
     · exact(show Tryz.prog.wantsStandIn 4=false by kernel_rfl)
     · exact(show Tryz.prog.wantsStandIn 22=false by kernel_rfl)
     · exact(show Tryz.prog.wantsStandIn 39=false by kernel_rfl)⟩)
  (by kernel_rfl)
end Go.Proofs.YtkbgfnhdfmmfcaaGreatDoor
