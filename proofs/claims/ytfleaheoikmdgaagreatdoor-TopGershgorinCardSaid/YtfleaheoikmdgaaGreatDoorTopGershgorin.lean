import Derived.Test.YtfleaheoikmdgaaGreatDoorVc
import Derived.Test.YtfleaheoikmdgaaGreatDoorTp
import Derived.Test.YtfleaheoikmdgaaGreatDoorLh
import Derived.Test.YtfleaheoikmdgaaGreatDoorRows
import Derived.Test.YtfleaheoikmdgaaGreatDoorCards
import Derived.Test.YtfleaheoikmdgaaGreatDoorTie
import Derived.ProofKit
import Derived.LaidLaws
import Derived.LaidHandle
set_option linter.unusedVariables false
set_option linter.unusedSimpArgs false
set_option linter.unusedSectionVars false
set_option linter.defProp false
namespace Go.Proofs.YtfleaheoikmdgaaGreatDoor
open Go.Vs Go.Vs.F Go.ChangeShapes Go.WideShapes Go.ChangeAt Go.RowKit
theorem wfLen {t:Ty} {xs:List (Den t)} (h:wfC (.imm t) xs):xs.length≤9223372036854775807:=Nat.le_trans h.2 (by decide)
theorem topGershgorin_holds:Rows.TopGershgorinSaid:=over λx hx=>by
 obtain⟨x1,x2,x3,_⟩:=x
 exact q41 x1 x2 x3 (wfLen hx.1)
theorem topGershgorin_card_holds:Rows.TopGershgorinCardSaid:=
 Claim7.holds_tied_plain_at .later [] [.data] _ _ _
  topGershgorin_holds (λ_ h=>by cases h) (by as_aux_lemma=>kernel_rfl) (λ_ h=>by cases h) topGershgorin_row_tie rfl ⟨rfl,rfl⟩ (by as_aux_lemma=>kernel_rfl) rfl
  (fun f fn hf hfn=>by
    obtain rfl:f=3:=Option.some.inj ((show Tryz.prog.funcNamed "sparse/sparsetop.TopGershgorin" =some 3 by as_aux_lemma=>kernel_rfl).symm.trans hf)|>.symm
    obtain rfl:fn=Tryz.f3:=(Option.some.inj (Tryz.func3.symm.trans hfn)).symm
    exact⟨by as_aux_lemma=>kernel_rfl,λj t ht=>by
     have hp:Tryz.f3.params= #[22,3,3]:=Tryz.params3
     rw[hp]at ht
     have hm:t=3∨t=22:=by
      match j,ht with
      |0,ht=>right;simpa using ht.symm
      |1,ht=>left;simpa using ht.symm
      |2,ht=>left;simpa using ht.symm
      |j+3,ht=>simp at ht
     rcases hm with rfl|rfl
     · exact(show Tryz.prog.wantsStandIn 3=false by as_aux_lemma=>kernel_rfl)
     · exact(show Tryz.prog.wantsStandIn 22=false by as_aux_lemma=>kernel_rfl)⟩)
  (by as_aux_lemma=>kernel_rfl)
end Go.Proofs.YtfleaheoikmdgaaGreatDoor
