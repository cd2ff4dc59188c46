import Derived.Test.YtfleaheoikmdgaaGreatDoorVc
import Derived.Test.YtfleaheoikmdgaaGreatDoorOka
import Derived.Test.YtfleaheoikmdgaaGreatDoorRows
import Derived.Test.YtfleaheoikmdgaaGreatDoorCards
import Derived.Test.YtfleaheoikmdgaaGreatDoorTie
import Derived.ProofKit
import Derived.LaidLaws
import Derived.LaidHandle
set_option linter.unusedVariables false
set_option linter.unusedSimpArgs false
set_option linter.unusedSectionVars false
set_option linter.defProp false
namespace Go.Proofs.YtfleaheoikmdgaaGreatDoor
open Go.Vs Go.Vs.F Go.ChangeShapes Go.WideShapes Go.ChangeAt Go.RowKit
def own:ownKnob Tryz.prog.godebug=none:=by kernel_rfl
def laidOut:laidOutB Tryz.prog=true:=by kernel_rfl
noncomputable def laidWorld (os:Os):World:=
 let w0:=World.holding Tryz.prog os ⟨#[],#[],[]⟩
 {w0 with heap:=w0.heap.modify 0 λ
   | .cells _ t frozen=> .cells (q3r.map λx=>Value.int .u8 x).toArray t frozen
   |o=>o}
abbrev q66:List (String×DataW Unit):=[("math/bits.deBruijn32tab",Rows.laid_math_bits_deBruijn32tab)]
set_option maxRecDepth 100000 in
def laidWorld_met (os:Os) (args:Array Value):laidMetH Tryz.prog q66 ((laidWorld os).forCall (λ_ _=>0) ⟨#[],args,[]⟩).memory:=
 laidMetH_of_parts (laidMet_of_run' 8 (by kernel_rfl) (by kernel_rfl)) (by kernel_rfl)
def qk7 {w:World} (h:laidMetH Tryz.prog q66 w):GlobOK Tryz.prog nobody w:=
 qn2 (g:=0) (k:= .u8) (xs:=q3r) (name:= "math/bits.deBruijn32tab") (t:=241) (e:=5) (n:=32) (d:=Rows.laid_math_bits_deBruijn32tab) (by kernel_rfl) (by kernel_rfl) (by kernel_rfl) (by kernel_rfl) (by kernel_rfl) (by kernel_rfl) (by decide) rfl (by kernel_rfl) h
set_option maxRecDepth 100000 in
def lifted (HL: ∀x:Qv g3A,qb4 g3A x-> ∃m,g3R m x=some (true,(),(),(),())) (os:Os) (started:os.Started) (H:Type) (enc:TypeId×Value->H):
 ReturnsInHanded {} Tryz.checked os 3 .any (λw args=>(Rows.topGershgorinSpec.pre enc Tryz.prog Tryz.f3 [] false w args/\laidMetH Tryz.prog q66 w)/\sizedMet enc Tryz.prog Tryz.f3 (OpenSpec.ofChange Rows.topGershgorinSpec) false w args)
  (Rows.topGershgorinSpec.post enc Tryz.prog Tryz.f3 false true false false):=by
 refine returnsInHanded_of_change_and (C:=Tryz.checked) (X:=λw _=>laidMetH Tryz.prog q66 w) (λ_ _ _ hh h=>h.of_heap hh) own started (by kernel_rfl) Tryz.func3
  (ChangeSpec.witness_at (enc:=enc) (C:=Tryz.checked) (os:=os) (X:=λw _=>laidMetH Tryz.prog q66 w) false (laidWorld os) #[.slice none 0 0,.int .i64 0,.int .i64 0] 8 rfl (by kernel_rfl) (by kernel_rfl) (by kernel_rfl) (by kernel_rfl) (by kernel_rfl) (laidWorld_met os _)) ?_
 intro W base args ds gs before hval hW hcnd _ hL _
 exact qbp (P:=Tryz.prog) (ss:=g3A) laidOut (by kernel_rfl) (by kernel_rfl) rfl rfl (by kernel_rfl) Tryz.underlying4
  (fun ds h=>by
    obtain⟨d1,d2,d3,rfl⟩: ∃d1 d2 d3,ds=[d1,d2,d3]:=by
     match ds,h with
     |[d1,d2,d3],_=>exact⟨d1,d2,d3,rfl⟩
    rfl)
  (fun x hx=>by
    obtain⟨m,hm⟩:=HL x hx;exact⟨_,g3ok m x _ hm⟩) hval hW (qk7 hL)
def an {a b:Bool} (h:a=true) (k:b=true):(a&&b)=true:=by rw[h,k];rfl
def jA:(Rows.topGershgorinRow.inPlace==Tryz.pinned.checked.prog.inPlace 3)=true:=by kernel_rfl
def jB:(Rows.topGershgorinRow.unfollowed==Tryz.pinned.checked.prog.unfollowed 3)=true:=by kernel_rfl
def jC:(Rows.topGershgorinRow.recurses==Tryz.pinned.checked.prog.recurses 3)=true:=by kernel_rfl
def jD:(Rows.topGershgorinRow.named==Tryz.pinned.checked.prog.varsNamed 3)=true:=by kernel_rfl
def qq8:joinedFacts Tryz.pinned.checked.prog 3 Tryz.f3 Rows.topGershgorinSpec Rows.topGershgorinRow=true:=by
 unfold joinedFacts;exact an (an (an (an (an (an (an (an (an (an (an (an (an (an (an (an (an (an (an (an (an (an (an (an (an (an (an (an (an (an (an (by kernel_rfl) (by kernel_rfl)) (by kernel_rfl)) (by kernel_rfl)) (by kernel_rfl)) (by kernel_rfl)) (by kernel_rfl)) (by kernel_rfl)) (by kernel_rfl)) jA) jB) jC) jD) (by kernel_rfl)) (by kernel_rfl)) (by kernel_rfl)) (by kernel_rfl)) (by kernel_rfl)) (by kernel_rfl)) (by kernel_rfl)) (by kernel_rfl)) (by kernel_rfl)) (by kernel_rfl)) (by kernel_rfl)) (by kernel_rfl)) (by kernel_rfl)) (by kernel_rfl)) (by kernel_rfl)) (by kernel_rfl)) (by kernel_rfl)) (by kernel_rfl)) (by kernel_rfl)
def over (HL: ∀x:Qv g3A,qb4 g3A x-> ∃m,g3R m x=some (true,(),(),(),())):Rows.TopGershgorinSaid:=
 OpenClaim.holds_of_wide 3 Tryz.f3 rfl rfl rfl rfl rfl rfl rfl ⟨rfl,rfl,rfl,rfl,rfl⟩ rfl rfl rfl rfl rfl (by kernel_rfl) Tryz.func3 qq8
  (of_decide_eq_true (by kernel_rfl)) (by unfold Func.isWrapper;first|(rw[iP (by decide+kernel)];kernel_rfl)|(rw[iN' (by decide+kernel)];exact⟨rfl,rfl⟩))
  (λos started H enc _=>lifted HL os started H enc)
end Go.Proofs.YtfleaheoikmdgaaGreatDoor
