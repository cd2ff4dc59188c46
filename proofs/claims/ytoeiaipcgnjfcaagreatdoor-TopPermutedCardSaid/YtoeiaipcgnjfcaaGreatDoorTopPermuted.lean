import Derived.Test.YtoeiaipcgnjfcaaGreatDoorVc
import Derived.Test.YtoeiaipcgnjfcaaGreatDoorTp
import Derived.Test.YtoeiaipcgnjfcaaGreatDoorLg
import Derived.Test.YtoeiaipcgnjfcaaGreatDoorRows
import Derived.Test.YtoeiaipcgnjfcaaGreatDoorCards
import Derived.Test.YtoeiaipcgnjfcaaGreatDoorTie
import Derived.ProofKit
import Derived.LaidLaws
import Derived.LaidHandle
set_option linter.unusedVariables false
set_option linter.unusedSimpArgs false
set_option linter.unusedSectionVars false
set_option linter.defProp false
namespace Go.Proofs.YtoeiaipcgnjfcaaGreatDoor
open Go.Vs Go.Vs.F Go.ChangeShapes Go.WideShapes Go.ChangeAt Go.RowKit
theorem wfLen {t:Ty} {xs:List (aM t)} (h:Pu (.imm t) xs):xs.length≤9223372036854775807:=Nat.le_trans h.2 (by decide)
theorem topPermuted_holds:Rows.TopPermutedSaid:=S7 λx hx=>by
 obtain⟨x1,x2,x3,_⟩:=x
 exact q6w x1 x2 x3 (wfLen hx.1)
theorem topPermuted_card_holds:Rows.TopPermutedCardSaid:=
 Claim7.holds_tied_plain_at .later [] [.data] _ _ _
  topPermuted_holds (λ_ h=>by cases h) (by as_aux_lemma=>kernel_rfl) (λ_ h=>by cases h) topPermuted_row_tie rfl ⟨rfl,rfl⟩ (by as_aux_lemma=>kernel_rfl) rfl
  (fun f fn hf hfn=>by
    obtain rfl:f=4:=Option.some.inj ((show Tryz.prog.funcNamed "sparse/sparsetop.TopPermuted" =some 4 by as_aux_lemma=>kernel_rfl).symm.trans hf)|>.symm
    obtain rfl:fn=Tryz.f4:=(Option.some.inj (Tryz.func4.symm.trans hfn)).symm
    exact⟨by as_aux_lemma=>kernel_rfl,λj t ht=>by
     have hp:Tryz.f4.params= #[45,3,3]:=Tryz.params4
     rw[hp]at ht
     have hm:t=3∨t=45:=by
      match j,ht with
      |0,ht=>right;simpa using ht.symm
      |1,ht=>left;simpa using ht.symm
      |2,ht=>left;simpa using ht.symm
      |j+3,ht=>simp at ht
     rcases hm with rfl|rfl
     · exact(show Tryz.prog.wantsStandIn 3=false by as_aux_lemma=>kernel_rfl)
     · exact(show Tryz.prog.wantsStandIn 45=false by as_aux_lemma=>kernel_rfl)⟩)
  (by as_aux_lemma=>kernel_rfl)
end Go.Proofs.YtoeiaipcgnjfcaaGreatDoor
