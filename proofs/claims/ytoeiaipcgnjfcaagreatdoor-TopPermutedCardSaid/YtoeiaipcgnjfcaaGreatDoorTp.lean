import Derived.Test.YtoeiaipcgnjfcaaGreatDoorVc
import Derived.Test.YtoeiaipcgnjfcaaGreatDoorOka
import Derived.Test.YtoeiaipcgnjfcaaGreatDoorRows
import Derived.Test.YtoeiaipcgnjfcaaGreatDoorCards
import Derived.Test.YtoeiaipcgnjfcaaGreatDoorTie
import Derived.ProofKit
import Derived.LaidLaws
import Derived.LaidHandle
set_option linter.unusedVariables false
set_option linter.unusedSimpArgs false
set_option linter.unusedSectionVars false
set_option linter.defProp false
namespace Go.Proofs.YtoeiaipcgnjfcaaGreatDoor
open Go.Vs Go.Vs.F Go.ChangeShapes Go.WideShapes Go.ChangeAt Go.RowKit
def own:ownKnob Tryz.prog.godebug=none:=by kernel_rfl
def yi:laidOutB Tryz.prog=true:=by kernel_rfl
noncomputable def mE (os:Os):World:=
 let w0:=World.holding Tryz.prog os ⟨#[],#[],[]⟩
 {w0 with heap:=w0.heap.modify 0 λ
   | .cells _ t frozen=> .cells (HY.map λx=>Value.int .u8 x).toArray t frozen
   |o=>o}
abbrev JA:List (String×DataW Unit):=[("math/bits.deBruijn32tab",Rows.laid_math_bits_deBruijn32tab)]
set_option maxRecDepth 100000 in
def mh (os:Os) (args:Array Value):laidMetH Tryz.prog JA ((mE os).forCall (λ_ _=>0) ⟨#[],args,[]⟩).memory:=
 laidMetH_of_parts (laidMet_of_run' 8 (by kernel_rfl) (by kernel_rfl)) (by kernel_rfl)
def qo1 {w:World} (h:laidMetH Tryz.prog JA w):ct Tryz.prog dS w:=
 qqk (g:=0) (k:= .u8) (xs:=HY) (name:= "math/bits.deBruijn32tab") (t:=370) (e:=5) (n:=32) (d:=Rows.laid_math_bits_deBruijn32tab) (by kernel_rfl) (by kernel_rfl) (by kernel_rfl) (by kernel_rfl) (by kernel_rfl) (by kernel_rfl) (by decide) rfl (by kernel_rfl) h
set_option maxRecDepth 100000 in
def FZ (HL: ∀x:Qq C3,IZ C3 x-> ∃m,TF m x=some (true,(),(),(),())) (os:Os) (started:os.Started) (H:Type) (enc:TypeId×Value->H):
 ReturnsInHanded {} Tryz.checked os 4 .any (λw args=>(Rows.topPermutedSpec.pre enc Tryz.prog Tryz.f4 [] false w args/\laidMetH Tryz.prog JA w)/\sizedMet enc Tryz.prog Tryz.f4 (OpenSpec.ofChange Rows.topPermutedSpec) false w args)
  (Rows.topPermutedSpec.post enc Tryz.prog Tryz.f4 false true false false):=by
 refine returnsInHanded_of_change_and (C:=Tryz.checked) (X:=λw _=>laidMetH Tryz.prog JA w) (λ_ _ _ hh h=>h.of_heap hh) own started (by kernel_rfl) Tryz.func4
  (ChangeSpec.witness_at (enc:=enc) (C:=Tryz.checked) (os:=os) (X:=λw _=>laidMetH Tryz.prog JA w) false (mE os) #[.slice none 0 0,.int .i64 0,.int .i64 0] 8 rfl (by kernel_rfl) (by kernel_rfl) (by kernel_rfl) (by kernel_rfl) (by kernel_rfl) (mh os _)) ?_
 intro W base args ds gs before hval hW hcnd _ hL _
 exact qen (P:=Tryz.prog) (ss:=C3) yi (by kernel_rfl) (by kernel_rfl) rfl rfl (by kernel_rfl) Tryz.underlying4
  (fun ds h=>by
    obtain⟨d1,d2,d3,rfl⟩: ∃d1 d2 d3,ds=[d1,d2,d3]:=by
     match ds,h with
     |[d1,d2,d3],_=>exact⟨d1,d2,d3,rfl⟩
    rfl)
  (fun x hx=>by
    obtain⟨m,hm⟩:=HL x hx;exact⟨_,TB m x _ hm⟩) hval hW (qo1 hL)
def an {a b:Bool} (h:a=true) (k:b=true):(a&&b)=true:=by rw[h,k];rfl
def jA:(Rows.topPermutedRow.inPlace==Tryz.pinned.checked.prog.inPlace 4)=true:=by kernel_rfl
def jB:(Rows.topPermutedRow.unfollowed==Tryz.pinned.checked.prog.unfollowed 4)=true:=by kernel_rfl
def jC:(Rows.topPermutedRow.recurses==Tryz.pinned.checked.prog.recurses 4)=true:=by kernel_rfl
def jD:(Rows.topPermutedRow.named==Tryz.pinned.checked.prog.varsNamed 4)=true:=by kernel_rfl
def qto:joinedFacts Tryz.pinned.checked.prog 4 Tryz.f4 Rows.topPermutedSpec Rows.topPermutedRow=true:=by
 unfold joinedFacts;exact an (an (an (an (an (an (an (an (an (an (an (an (an (an (an (an (an (an (an (an (an (an (an (an (an (an (an (an (an (an (an (by kernel_rfl) (by kernel_rfl)) (by kernel_rfl)) (by kernel_rfl)) (by kernel_rfl)) (by kernel_rfl)) (by kernel_rfl)) (by kernel_rfl)) (by kernel_rfl)) jA) jB) jC) jD) (by kernel_rfl)) (by kernel_rfl)) (by kernel_rfl)) (by kernel_rfl)) (by kernel_rfl)) (by kernel_rfl)) (by kernel_rfl)) (by kernel_rfl)) (by kernel_rfl)) (by kernel_rfl)) (by kernel_rfl)) (by kernel_rfl)) (by kernel_rfl)) (by kernel_rfl)) (by kernel_rfl)) (by kernel_rfl)) (by kernel_rfl)) (by kernel_rfl)) (by kernel_rfl)
def S7 (HL: ∀x:Qq C3,IZ C3 x-> ∃m,TF m x=some (true,(),(),(),())):Rows.TopPermutedSaid:=
 OpenClaim.holds_of_wide 4 Tryz.f4 rfl rfl rfl rfl rfl rfl rfl ⟨rfl,rfl,rfl,rfl,rfl⟩ rfl rfl rfl rfl rfl (by kernel_rfl) Tryz.func4 qto
  (of_decide_eq_true (by kernel_rfl)) (by unfold Func.isWrapper;first|(rw[iP (by decide+kernel)];kernel_rfl)|(rw[ao (by decide+kernel)];exact⟨rfl,rfl⟩))
  (λos started H enc _=>FZ HL os started H enc)
end Go.Proofs.YtoeiaipcgnjfcaaGreatDoor
