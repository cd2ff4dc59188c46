import Derived.Test.YtkbgfnhdfmmfcaaGreatDoorVc
import Derived.Test.YtkbgfnhdfmmfcaaGreatDoorOka
import Derived.Test.YtkbgfnhdfmmfcaaGreatDoorLh
import Derived.Test.YtkbgfnhdfmmfcaaGreatDoorRows
import Derived.Test.YtkbgfnhdfmmfcaaGreatDoorCards
import Derived.Test.YtkbgfnhdfmmfcaaGreatDoorTie
import Derived.ProofKit
import Derived.LaidLaws
import Derived.LaidHandle
set_option linter.unusedSimpArgs false
set_option linter.unusedVariables false
namespace Go.Proofs.YtkbgfnhdfmmfcaaGreatDoor
open Go.Vs Go.Vs.F Go.ChangeShapes Go.WideShapes Go.ChangeAt Go.RowKit
theorem own:ownKnob Tryz.prog.godebug=none:=by kernel_rfl
theorem laidOut:laidOutB Tryz.prog=true:=by kernel_rfl
noncomputable def laidWorld (os:Os):World:=
 let w0:=World.holding Tryz.prog os ⟨#[], #[],[]⟩
 {w0 with heap:=w0.heap.modify 0 λ
   | .cells _ t frozen=> .cells (L5.map λx=>Value.int .u8 x).toArray t frozen
   |o=>o}
abbrev theLaid:List (String×DataW Unit):=[("math/bits.deBruijn32tab",Rows.laid_math_bits_deBruijn32tab)]
set_option maxRecDepth 100000 in
theorem laidWorld_met (os:Os) (args:Array Value):laidMetH Tryz.prog theLaid ((laidWorld os).forCall (λ_ _=>0) ⟨#[],args,[]⟩).memory:=
 laidMetH_of_parts (laidMet_of_run' 8 (by kernel_rfl) (by kernel_rfl)) (by kernel_rfl)
theorem laid_glob {w:World} (h:laidMetH Tryz.prog theLaid w):cE Tryz.prog en w:=
 qqn (g:=0) (k:= .u8) (xs:=L5) (name:= "math/bits.deBruijn32tab") (t:=258) (e:=5) (n:=32) (d:=Rows.laid_math_bits_deBruijn32tab) (by kernel_rfl) (by kernel_rfl) (by kernel_rfl) (by kernel_rfl) (by kernel_rfl) (by kernel_rfl) (by decide) rfl (by kernel_rfl) h
set_option maxRecDepth 100000 in
theorem lifted (HL: ∀x:Xl aQ,Nt aQ x→ ∃m,bO m x=some (true,(),(),(),(),(),(),())) (os:Os) (started:os.Started) (H:Type) (enc:TypeId×Value→H):
 ReturnsInHanded {} Tryz.checked os 4 .any (λw args=>(Rows.lanczosRefusesSpec.pre enc Tryz.prog Tryz.f4 [] false w args∧laidMetH Tryz.prog theLaid w)∧sizedMet enc Tryz.prog Tryz.f4 (OpenSpec.ofChange Rows.lanczosRefusesSpec) false w args)
  (Rows.lanczosRefusesSpec.post enc Tryz.prog Tryz.f4 false true false false):=by
 refine returnsInHanded_of_change_and (C:=Tryz.checked) (X:=λw _=>laidMetH Tryz.prog theLaid w) (λ_ _ _ hh h=>h.of_heap hh) own started (by kernel_rfl) Tryz.func4
  (ChangeSpec.witness_at (enc:=enc) (C:=Tryz.checked) (os:=os) (X:=λw _=>laidMetH Tryz.prog theLaid w) false (laidWorld os) #[.slice none 0 0,.int .i64 0,.int .i64 0,.int .u64 0,.int .i64 0,.int .i64 0] 8 rfl (by kernel_rfl) (by kernel_rfl) (by kernel_rfl) (by kernel_rfl) (by kernel_rfl) (laidWorld_met os _)) ?_
 intro W base args ds gs before hval hW hcnd _ hL _
 exact qdt (P:=Tryz.prog) (ss:=aQ) laidOut (by kernel_rfl) (by kernel_rfl) rfl rfl (by kernel_rfl) Tryz.underlying4
  (fun ds h=>by
    obtain⟨d1,d2,d3,d4,d5,d6,rfl⟩: ∃d1 d2 d3 d4 d5 d6,ds=[d1,d2,d3,d4,d5,d6]:=by
     match ds,h with
     |[d1,d2,d3,d4,d5,d6],_=>exact⟨d1,d2,d3,d4,d5,d6,rfl⟩
    rfl)
  (fun x hx=>by
    obtain⟨m,hm⟩:=HL x hx
    exact⟨_,dF m x _ hm⟩) hval hW (laid_glob hL)
theorem an {a b:Bool} (h:a=true) (k:b=true):(a&&b)=true:=by rw[h,k];rfl
theorem jA:(Rows.lanczosRefusesRow.inPlace==Tryz.pinned.checked.prog.inPlace 4)=true:=by kernel_rfl
theorem jB:(Rows.lanczosRefusesRow.unfollowed==Tryz.pinned.checked.prog.unfollowed 4)=true:=by kernel_rfl
theorem jC:(Rows.lanczosRefusesRow.recurses==Tryz.pinned.checked.prog.recurses 4)=true:=by kernel_rfl
theorem jD:(Rows.lanczosRefusesRow.named==Tryz.pinned.checked.prog.varsNamed 4)=true:=by kernel_rfl
theorem joinedN:joinedFacts Tryz.pinned.checked.prog 4 Tryz.f4 Rows.lanczosRefusesSpec Rows.lanczosRefusesRow=true:=by
 unfold joinedFacts
 exact an (an (an (an (an (an (an (an (an (an (an (an (an (an (an (an (an (an (an (an (an (an (an (an (an (an (an (an (an (an (an (by kernel_rfl) (by kernel_rfl)) (by kernel_rfl)) (by kernel_rfl)) (by kernel_rfl)) (by kernel_rfl)) (by kernel_rfl)) (by kernel_rfl)) (by kernel_rfl)) jA) jB) jC) jD) (by kernel_rfl)) (by kernel_rfl)) (by kernel_rfl)) (by kernel_rfl)) (by kernel_rfl)) (by kernel_rfl)) (by kernel_rfl)) (by kernel_rfl)) (by kernel_rfl)) (by kernel_rfl)) (by kernel_rfl)) (by kernel_rfl)) (by kernel_rfl)) (by kernel_rfl)) (by kernel_rfl)) (by kernel_rfl)) (by kernel_rfl)) (by kernel_rfl)) (by kernel_rfl)
theorem over (HL: ∀x:Xl aQ,Nt aQ x→ ∃m,bO m x=some (true,(),(),(),(),(),(),())):Rows.LanczosRefusesSaid:=
 OpenClaim.holds_of_wide 4 Tryz.f4 rfl rfl rfl rfl rfl rfl rfl ⟨rfl,rfl,rfl,rfl,rfl⟩ rfl rfl rfl rfl rfl (by kernel_rfl) Tryz.func4 joinedN
  (of_decide_eq_true (by kernel_rfl)) (by unfold Func.isWrapper;first|(rw[if_pos (by decide+kernel)];kernel_rfl)|(rw[if_neg (by decide+kernel)];exact⟨rfl,rfl⟩))
  (λos started H enc _=>lifted HL os started H enc)
theorem lanczosRefuses_holds:Rows.LanczosRefusesSaid:=over λx hx=>by
 obtain⟨x1,x2,x3,x4,x5,x6,_⟩:=x
 exact q47 x1 x2 x3 x4 x5 x6 (MS hx.1) (MQ hx.2.2.2.1)
theorem lanczosRefuses_card_holds:Rows.LanczosRefusesCardSaid:=
 Claim7.holds_tied_plain_at .later [] [.data] _ _ _
  lanczosRefuses_holds (λ_ h=>by cases h) (by kernel_rfl) (λ_ h=>by cases h) lanczosRefuses_row_tie rfl ⟨rfl,rfl⟩ (by kernel_rfl) rfl
  (fun f fn hf hfn=>by
    obtain rfl:f=4:=Option.some.inj ((show Tryz.prog.funcNamed "sparse/sparselaw38.LanczosRefuses" =some 4 by kernel_rfl).symm.trans hf)|>.symm
    obtain rfl:fn=Tryz.f4:=(Option.some.inj (Tryz.func4.symm.trans hfn)).symm
    exact⟨by kernel_rfl,λj t ht=>by
     have hp:Tryz.f4.params= #[22,3,3,39,3,3]:=Tryz.params4
     rw[hp]at ht
     have hm:t=3∨t=22∨t=39:=by
      match j,ht with
      |0,ht=>right;left;simpa using ht.symm
      |1,ht=>left;simpa using ht.symm
      |2,ht=>left;simpa using ht.symm
      |3,ht=>right;right;simpa using ht.symm
      |4,ht=>left;simpa using ht.symm
      |5,ht=>left;simpa using ht.symm
      |j+6,ht=>simp at ht
     rcases hm with rfl|rfl|rfl
     · exact(show Tryz.prog.wantsStandIn 3=false by kernel_rfl)
     · exact(show Tryz.prog.wantsStandIn 22=false by kernel_rfl)
     · exact(show Tryz.prog.wantsStandIn 39=false by kernel_rfl)⟩)
  (by kernel_rfl)
end Go.Proofs.YtkbgfnhdfmmfcaaGreatDoor
