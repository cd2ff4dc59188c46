/-Proved:for every input,the law LanczosDiagonal returns true and leaves its arguments as they were;the tied card. There is no condition. -/
import Derived.Test.YtkbgfnhdfmmfcaaGreatDoorVc
import Derived.Test.YtkbgfnhdfmmfcaaGreatDoorOka
import Derived.Test.YtkbgfnhdfmmfcaaGreatDoorLe
import Derived.Test.YtkbgfnhdfmmfcaaGreatDoorRows
import Derived.Test.YtkbgfnhdfmmfcaaGreatDoorCards
import Derived.Test.YtkbgfnhdfmmfcaaGreatDoorTie
import Derived.ProofKit
import Derived.LaidLaws
import Derived.LaidHandle
set_option linter.unusedVariables false
namespace Go.Proofs.YtkbgfnhdfmmfcaaGreatDoor
open Go.Vs Go.Vs.F Go.ChangeShapes Go.WideShapes Go.ChangeAt Go.RowKit
theorem own:ownKnob Tryz.prog.godebug=none:=by kernel_rfl
theorem laidOut:laidOutB Tryz.prog=true:=by kernel_rfl
noncomputable def laidWorld (os:Os):World:=
 let w0:=World.holding Tryz.prog os ⟨#[], #[],[]⟩
 {w0 with heap:=w0.heap.modify 0 fun
   | .cells _ t frozen=> .cells (q4c.map fun x=>Value.int .u8 x).toArray t frozen
   |o=>o}
abbrev theLaid:List (String×DataW Unit):=[("math/bits.deBruijn32tab",Rows.laid_math_bits_deBruijn32tab)]
set_option maxRecDepth 100000 in
theorem laidWorld_met (os:Os) (args:Array Value):laidMetH Tryz.prog theLaid ((laidWorld os).forCall (fun _ _=>0) ⟨#[],args,[]⟩).memory:=
 laidMetH_of_parts (laidMet_of_run' 8 (by kernel_rfl) (by kernel_rfl)) (by kernel_rfl)
theorem laid_glob {w:World} (h:laidMetH Tryz.prog theLaid w):GlobOK Tryz.prog nobody w:=
 qm5 (g:=0) (k:= .u8) (xs:=q4c) (name:= "math/bits.deBruijn32tab") (t:=258) (e:=5) (n:=32) (d:=Rows.laid_math_bits_deBruijn32tab) (by kernel_rfl) (by kernel_rfl) (by kernel_rfl) (by kernel_rfl) (by kernel_rfl) (by kernel_rfl) (by decide) rfl (by kernel_rfl) h
set_option maxRecDepth 100000 in
theorem lifted (HL: ∀x:X7 sparselaw38_LanczosDiagonal_A,qch sparselaw38_LanczosDiagonal_A x→ ∃m,sparselaw38_LanczosDiagonal_R m x=some (true,(),(),(),(),())) (os:Os) (started:os.Started) (H:Type) (enc:TypeId×Value→H):
 ReturnsInHanded {} Tryz.checked os 6 .any (fun w args=>(Rows.lanczosDiagonalSpec.pre enc Tryz.prog Tryz.f6 [] false w args∧laidMetH Tryz.prog theLaid w)∧sizedMet enc Tryz.prog Tryz.f6 (OpenSpec.ofChange Rows.lanczosDiagonalSpec) false w args)
  (Rows.lanczosDiagonalSpec.post enc Tryz.prog Tryz.f6 false true false false):=by
 refine returnsInHanded_of_change_and (C:=Tryz.checked) (X:=fun w _=>laidMetH Tryz.prog theLaid w) (fun _ _ _ hh h=>h.of_heap hh) own started (by kernel_rfl) Tryz.func6
  (ChangeSpec.witness_at (enc:=enc) (C:=Tryz.checked) (os:=os) (X:=fun w _=>laidMetH Tryz.prog theLaid w) false (laidWorld os) #[.slice none 0 0,.int .i64 0,.int .i64 0,.int .i64 0] 8 rfl (by kernel_rfl) (by kernel_rfl) (by kernel_rfl) (by kernel_rfl) (by kernel_rfl) (laidWorld_met os _)) ?_
 intro W base args ds gs before hval hW hcnd _ hL _
 exact qba (P:=Tryz.prog) (ss:=sparselaw38_LanczosDiagonal_A) laidOut (by kernel_rfl) (by kernel_rfl) rfl rfl (by kernel_rfl) Tryz.underlying4
  (fun ds h=>by
    obtain⟨d1,d2,d3,d4,rfl⟩: ∃d1 d2 d3 d4,ds=[d1,d2,d3,d4]:=by
     match ds,h with
     |[d1,d2,d3,d4],_=>exact⟨d1,d2,d3,d4,rfl⟩
    rfl)
  (fun x hx=>by
    obtain⟨m,hm⟩:=HL x hx
    exact⟨_,sparselaw38_LanczosDiagonal_ok m x _ hm⟩) hval hW (laid_glob hL)
theorem over (HL: ∀x:X7 sparselaw38_LanczosDiagonal_A,qch sparselaw38_LanczosDiagonal_A x→ ∃m,sparselaw38_LanczosDiagonal_R m x=some (true,(),(),(),(),())):Rows.LanczosDiagonalSaid:=
 OpenClaim.holds_of_wide 6 Tryz.f6 rfl rfl rfl rfl rfl rfl rfl ⟨rfl,rfl,rfl,rfl,rfl⟩ rfl rfl rfl rfl rfl (by kernel_rfl) Tryz.func6 (by kernel_rfl)
  (of_decide_eq_true (by kernel_rfl)) (by unfold Func.isWrapper;first|(rw[if_pos (by decide+kernel)];kernel_rfl)|(rw[if_neg (by decide+kernel)];exact⟨rfl,rfl⟩))
  (fun os started H enc _=>lifted HL os started H enc)
theorem lanczosDiagonal_holds:Rows.LanczosDiagonalSaid:=over fun x hx=>by
 obtain⟨x1,x2,x3,x4,_⟩:=x
 exact qsf x1 x2 x3 x4 (wfLen hx.1)
theorem lanczosDiagonal_card_holds:Rows.LanczosDiagonalCardSaid:=
 Claim7.holds_tied_plain_at .later [] [.data] _ _ _
  lanczosDiagonal_holds (fun _ h=>by cases h) (by kernel_rfl) (fun _ h=>by cases h) lanczosDiagonal_row_tie rfl ⟨rfl,rfl⟩ (by kernel_rfl) rfl
  (fun f fn hf hfn=>by
    obtain rfl:f=6:=Option.some.inj ((show Tryz.prog.funcNamed "sparse/sparselaw38.LanczosDiagonal" =some 6 by kernel_rfl).symm.trans hf)|>.symm
    obtain rfl:fn=Tryz.f6:=(Option.some.inj (Tryz.func6.symm.trans hfn)).symm
    exact⟨by kernel_rfl,fun j t ht=>by
     have hp:Tryz.f6.params= #[22,3,3,3]:=Tryz.params6
     rw[hp]at ht
     have hm:t=3∨t=22:=by
      match j,ht with
      |0,ht=>right;simpa using ht.symm
      |1,ht=>left;simpa using ht.symm
      |2,ht=>left;simpa using ht.symm
      |3,ht=>left;simpa using ht.symm
      |j+4,ht=>simp at ht
     rcases hm with rfl|rfl
     · exact(show Tryz.prog.wantsStandIn 3=false by kernel_rfl)
     · exact(show Tryz.prog.wantsStandIn 22=false by kernel_rfl)⟩)
  (by kernel_rfl)
end Go.Proofs.YtkbgfnhdfmmfcaaGreatDoor
