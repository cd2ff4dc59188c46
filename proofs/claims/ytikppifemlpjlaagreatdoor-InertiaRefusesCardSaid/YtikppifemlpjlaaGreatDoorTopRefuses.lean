import Derived.Test.YtikppifemlpjlaaGreatDoorVc
import Derived.Test.YtikppifemlpjlaaGreatDoorOkc
import Derived.Test.YtikppifemlpjlaaGreatDoorLj
import Derived.Test.YtikppifemlpjlaaGreatDoorRows
import Derived.Test.YtikppifemlpjlaaGreatDoorCards
import Derived.Test.YtikppifemlpjlaaGreatDoorTie
import Derived.ProofKit
import Derived.LaidLaws
import Derived.LaidHandle
set_option linter.unusedVariables false
namespace Go.Proofs.YtikppifemlpjlaaGreatDoor
open Go.Vs Go.Vs.F Go.ChangeShapes Go.WideShapes Go.ChangeAt Go.RowKit
theorem own:ownKnob Tryz.prog.godebug=none:=by kernel_rfl
theorem laidOut:laidOutB Tryz.prog=true:=by kernel_rfl
noncomputable def laidWorld (os:Os):World:=
 let w0:=World.holding Tryz.prog os ⟨#[], #[],[]⟩
 {w0 with heap:=w0.heap.modify 0 λ
   | .cells _ t frozen=> .cells (q42.map λx=>Value.int .u8 x).toArray t frozen
   |o=>o}
abbrev theLaid:List (String×DataW Unit):=[("math/bits.deBruijn32tab",Rows.laid_math_bits_deBruijn32tab)]
set_option maxRecDepth 100000 in
theorem laidWorld_met (os:Os) (args:Array Value):laidMetH Tryz.prog theLaid ((laidWorld os).forCall (λ_ _=>0) ⟨#[],args,[]⟩).memory:=
 laidMetH_of_parts (laidMet_of_run' 8 (by kernel_rfl) (by kernel_rfl)) (by kernel_rfl)
theorem laid_glob {w:World} (h:laidMetH Tryz.prog theLaid w):GlobOK Tryz.prog nobody w:=
 qnb (g:=0) (k:= .u8) (xs:=q42) (name:= "math/bits.deBruijn32tab") (t:=202) (e:=5) (n:=32) (d:=Rows.laid_math_bits_deBruijn32tab) (by kernel_rfl) (by kernel_rfl) (by kernel_rfl) (by kernel_rfl) (by kernel_rfl) (by kernel_rfl) (by decide) rfl (by kernel_rfl) h
set_option maxRecDepth 100000 in
theorem lifted (HL: ∀x:Xc sparselaw39_InertiaRefuses_A,qbt sparselaw39_InertiaRefuses_A x→ ∃m,sparselaw39_InertiaRefuses_R m x=some (true,(),(),(),(),(),(),())) (os:Os) (started:os.Started) (H:Type) (enc:TypeId×Value→H):
 ReturnsInHanded {} Tryz.checked os 10 .any (λw args=>(Rows.inertiaRefusesSpec.pre enc Tryz.prog Tryz.f10 [] false w args∧laidMetH Tryz.prog theLaid w)∧sizedMet enc Tryz.prog Tryz.f10 (OpenSpec.ofChange Rows.inertiaRefusesSpec) false w args)
  (Rows.inertiaRefusesSpec.post enc Tryz.prog Tryz.f10 false true false false):=by
 refine returnsInHanded_of_change_and (C:=Tryz.checked) (X:=λw _=>laidMetH Tryz.prog theLaid w) (λ_ _ _ hh h=>h.of_heap hh) own started (by kernel_rfl) Tryz.func10
  (ChangeSpec.witness_at (enc:=enc) (C:=Tryz.checked) (os:=os) (X:=λw _=>laidMetH Tryz.prog theLaid w) false (laidWorld os) #[.slice none 0 0,.int .i64 0,.int .i64 0,.int .u64 0,.int .i64 0,.int .i64 0] 8 rfl (by kernel_rfl) (by kernel_rfl) (by kernel_rfl) (by kernel_rfl) (by kernel_rfl) (laidWorld_met os _)) ?_
 intro W base args ds gs before hval hW hcnd _ hL _
 exact qd4 (P:=Tryz.prog) (ss:=sparselaw39_InertiaRefuses_A) laidOut (by kernel_rfl) (by kernel_rfl) rfl rfl (by kernel_rfl) Tryz.underlying4
  (fun ds h=>by
    obtain⟨d1,d2,d3,d4,d5,d6,rfl⟩: ∃d1 d2 d3 d4 d5 d6,ds=[d1,d2,d3,d4,d5,d6]:=by
     match ds,h with
     |[d1,d2,d3,d4,d5,d6],_=>exact⟨d1,d2,d3,d4,d5,d6,rfl⟩
    rfl)
  (fun x hx=>by
    obtain⟨m,hm⟩:=HL x hx
    exact⟨_,sparselaw39_InertiaRefuses_ok m x _ hm⟩) hval hW (laid_glob hL)
theorem over (HL: ∀x:Xc sparselaw39_InertiaRefuses_A,qbt sparselaw39_InertiaRefuses_A x→ ∃m,sparselaw39_InertiaRefuses_R m x=some (true,(),(),(),(),(),(),())):Rows.InertiaRefusesSaid:=
 OpenClaim.holds_of_wide 10 Tryz.f10 rfl rfl rfl rfl rfl rfl rfl ⟨rfl,rfl,rfl,rfl,rfl⟩ rfl rfl rfl rfl rfl (by kernel_rfl) Tryz.func10 (by kernel_rfl)
  (of_decide_eq_true (by kernel_rfl)) (by unfold Func.isWrapper;first|(rw[if_pos (by decide+kernel)];kernel_rfl)|(rw[if_neg (by decide+kernel)];exact⟨rfl,rfl⟩))
  (λos started H enc _=>lifted HL os started H enc)
theorem inertiaRefuses_holds:Rows.InertiaRefusesSaid:=over λx hx=>by
 obtain⟨x1,x2,x3,x4,x5,x6,_⟩:=x
 exact q2u x1 x2 x3 x4 x5 x6 (wfLen hx.1) (wfu64 hx.2.2.2.1)
theorem inertiaRefuses_card_holds:Rows.InertiaRefusesCardSaid:=
 Claim7.holds_tied_plain_at .later [] [.data] _ _ _
  inertiaRefuses_holds (λ_ h=>by cases h) (by kernel_rfl) (λ_ h=>by cases h) inertiaRefuses_row_tie rfl ⟨rfl,rfl⟩ (by kernel_rfl) rfl
  (fun f fn hf hfn=>by
    obtain rfl:f=10:=Option.some.inj ((show Tryz.prog.funcNamed "sparse/sparselaw39.InertiaRefuses" =some 10 by kernel_rfl).symm.trans hf)|>.symm
    obtain rfl:fn=Tryz.f10:=(Option.some.inj (Tryz.func10.symm.trans hfn)).symm
    exact⟨by kernel_rfl,λj t ht=>by
     have hp:Tryz.f10.params= #[22,3,3,23,3,3]:=Tryz.params10
     rw[hp]at ht
     have hm:t=3∨t=22∨t=23:=by
      match j,ht with
      |0,ht=>right;left;simpa using ht.symm
      |1,ht=>left;simpa using ht.symm
      |2,ht=>left;simpa using ht.symm
      |3,ht=>right;right;simpa using ht.symm
      |4,ht=>left;simpa using ht.symm
      |5,ht=>left;simpa using ht.symm
      |j+6,ht=>simp at ht
     rcases hm with rfl|rfl|rfl
     · exact(show Tryz.prog.wantsStandIn 3=false by kernel_rfl)
     · exact(show Tryz.prog.wantsStandIn 22=false by kernel_rfl)
     · exact(show Tryz.prog.wantsStandIn 23=false by kernel_rfl)⟩)
  (by kernel_rfl)
end Go.Proofs.YtikppifemlpjlaaGreatDoor
