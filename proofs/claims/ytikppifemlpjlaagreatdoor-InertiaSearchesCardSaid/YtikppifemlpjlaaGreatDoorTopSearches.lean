import Derived.Test.YtikppifemlpjlaaGreatDoorVc
import Derived.Test.YtikppifemlpjlaaGreatDoorOkc
import Derived.Test.YtikppifemlpjlaaGreatDoorLj
import Derived.Test.YtikppifemlpjlaaGreatDoorRows
import Derived.Test.YtikppifemlpjlaaGreatDoorCards
import Derived.Test.YtikppifemlpjlaaGreatDoorTie
import Derived.ProofKit
import Derived.LaidLaws
import Derived.LaidHandle
set_option linter.unusedVariables false
namespace Go.Proofs.YtikppifemlpjlaaGreatDoor
open Go.Vs Go.Vs.F Go.ChangeShapes Go.WideShapes Go.ChangeAt Go.RowKit
theorem own:ownKnob Tryz.prog.godebug=none:=by kernel_rfl
theorem laidOut:laidOutB Tryz.prog=true:=by kernel_rfl
noncomputable def laidWorld (os:Os):World:=
 let w0:=World.holding Tryz.prog os ⟨#[], #[],[]⟩
 {w0 with heap:=w0.heap.modify 0 λ
   | .cells _ t frozen=> .cells (q33.map λx=>Value.int .u8 x).toArray t frozen
   |o=>o}
abbrev theLaid:List (String×DataW Unit):=[("math/bits.deBruijn32tab",Rows.laid_math_bits_deBruijn32tab)]
set_option maxRecDepth 100000 in
theorem laidWorld_met (os:Os) (args:Array Value):laidMetH Tryz.prog theLaid ((laidWorld os).forCall (λ_ _=>0) ⟨#[],args,[]⟩).memory:=
 laidMetH_of_parts (laidMet_of_run' 8 (by kernel_rfl) (by kernel_rfl)) (by kernel_rfl)
theorem laid_glob {w:World} (h:laidMetH Tryz.prog theLaid w):GlobOK Tryz.prog nobody w:=
 qjb (g:=0) (k:= .u8) (xs:=q33) (name:= "math/bits.deBruijn32tab") (t:=202) (e:=5) (n:=32) (d:=Rows.laid_math_bits_deBruijn32tab) (by kernel_rfl) (by kernel_rfl) (by kernel_rfl) (by kernel_rfl) (by kernel_rfl) (by kernel_rfl) (by decide) rfl (by kernel_rfl) h
set_option maxRecDepth 100000 in
theorem lifted (HL: ∀x:X4 sparselaw39_InertiaSearches_A,q9j sparselaw39_InertiaSearches_A x→ ∃m,sparselaw39_InertiaSearches_R m x=some (true,(),(),(),(),(),())) (os:Os) (started:os.Started) (H:Type) (enc:TypeId×Value→H):
 ReturnsInHanded {} Tryz.checked os 8 .any (λw args=>(Rows.inertiaSearchesSpec.pre enc Tryz.prog Tryz.f8 [] false w args∧laidMetH Tryz.prog theLaid w)∧sizedMet enc Tryz.prog Tryz.f8 (OpenSpec.ofChange Rows.inertiaSearchesSpec) false w args)
  (Rows.inertiaSearchesSpec.post enc Tryz.prog Tryz.f8 false true false false):=by
 refine returnsInHanded_of_change_and (C:=Tryz.checked) (X:=λw _=>laidMetH Tryz.prog theLaid w) (λ_ _ _ hh h=>h.of_heap hh) own started (by kernel_rfl) Tryz.func8
  (ChangeSpec.witness_at (enc:=enc) (C:=Tryz.checked) (os:=os) (X:=λw _=>laidMetH Tryz.prog theLaid w) false (laidWorld os) #[.slice none 0 0,.int .i64 0,.int .i64 0,.int .u64 0,.bool false] 8 rfl (by kernel_rfl) (by kernel_rfl) (by kernel_rfl) (by kernel_rfl) (by kernel_rfl) (laidWorld_met os _)) ?_
 intro W base args ds gs before hval hW hcnd _ hL _
 exact q9h (P:=Tryz.prog) (ss:=sparselaw39_InertiaSearches_A) laidOut (by kernel_rfl) (by kernel_rfl) rfl rfl (by kernel_rfl) Tryz.underlying4
  (fun ds h=>by
    obtain⟨d1,d2,d3,d4,d5,rfl⟩: ∃d1 d2 d3 d4 d5,ds=[d1,d2,d3,d4,d5]:=by
     match ds,h with
     |[d1,d2,d3,d4,d5],_=>exact⟨d1,d2,d3,d4,d5,rfl⟩
    rfl)
  (fun x hx=>by
    obtain⟨m,hm⟩:=HL x hx
    exact⟨_,sparselaw39_InertiaSearches_ok m x _ hm⟩) hval hW (laid_glob hL)
theorem over (HL: ∀x:X4 sparselaw39_InertiaSearches_A,q9j sparselaw39_InertiaSearches_A x→ ∃m,sparselaw39_InertiaSearches_R m x=some (true,(),(),(),(),(),())):Rows.InertiaSearchesSaid:=
 OpenClaim.holds_of_wide 8 Tryz.f8 rfl rfl rfl rfl rfl rfl rfl ⟨rfl,rfl,rfl,rfl,rfl⟩ rfl rfl rfl rfl rfl (by kernel_rfl) Tryz.func8 (by kernel_rfl)
  (of_decide_eq_true (by kernel_rfl)) (by unfold Func.isWrapper;first|(rw[if_pos (by decide+kernel)];kernel_rfl)|(rw[if_neg (by decide+kernel)];exact⟨rfl,rfl⟩))
  (λos started H enc _=>lifted HL os started H enc)
theorem inertiaSearches_holds:Rows.InertiaSearchesSaid:=over λx hx=>by
 obtain⟨x1,x2,x3,x4,x5,_⟩:=x
 exact qus x1 x2 x3 x4 x5 (wfLen hx.1) (wfu64 hx.2.2.2.1)
theorem inertiaSearches_card_holds:Rows.InertiaSearchesCardSaid:=
 Claim7.holds_tied_plain_at .later [] [.data] _ _ _
  inertiaSearches_holds (λ_ h=>by cases h) (by kernel_rfl) (λ_ h=>by cases h) inertiaSearches_row_tie rfl ⟨rfl,rfl⟩ (by kernel_rfl) rfl
  (fun f fn hf hfn=>by
    obtain rfl:f=8:=Option.some.inj ((show Tryz.prog.funcNamed "sparse/sparselaw39.InertiaSearches" =some 8 by kernel_rfl).symm.trans hf)|>.symm
    obtain rfl:fn=Tryz.f8:=(Option.some.inj (Tryz.func8.symm.trans hfn)).symm
    exact⟨by kernel_rfl,λj t ht=>by
     have hp:Tryz.f8.params= #[22,3,3,23,4]:=Tryz.params8
     rw[hp]at ht
     have hm:t=3∨t=4∨t=22∨t=23:=by
      match j,ht with
      |0,ht=>right;right;left;simpa using ht.symm
      |1,ht=>left;simpa using ht.symm
      |2,ht=>left;simpa using ht.symm
      |3,ht=>right;right;right;simpa using ht.symm
      |4,ht=>right;left;simpa using ht.symm
      |j+5,ht=>simp at ht
     rcases hm with rfl|rfl|rfl|rfl
     · exact(show Tryz.prog.wantsStandIn 3=false by kernel_rfl)
     · exact(show Tryz.prog.wantsStandIn 4=false by kernel_rfl)
     · exact(show Tryz.prog.wantsStandIn 22=false by kernel_rfl)
     · exact(show Tryz.prog.wantsStandIn 23=false by kernel_rfl)⟩)
  (by kernel_rfl)
end Go.Proofs.YtikppifemlpjlaaGreatDoor
