/-Closed evaluations for the diagonal law,the long ones (printed by gen/mlba.py). -/
import Derived.Test.YtkbgfnhdfmmfcaaGreatDoorLa
set_option linter.unusedVariables false
set_option maxRecDepth 100000
namespace Go.Vs.F
theorem qsj:combP=[(1,0),(2,0),(2,1),(3,0),(3,1),(3,2),(4,0),(4,1),(4,2),(4,3),(5,0),(5,1),(5,2),(5,3),(5,4)]:=by decide
def finMP (j:Nat) (n p:Nat):Prop:=(tabQ.map fun q=>g251 (j+300) (eN n p q))=tabQ.map fun q=>some (0,(),())
theorem qtv (j:Nat):finMP j 1 0:=by unfold finMP;kernel_rfl
theorem qu1 (j:Nat):finMP j 2 0:=by unfold finMP;kernel_rfl
theorem qu6 (j:Nat):finMP j 2 1:=by unfold finMP;kernel_rfl
theorem qu8 (j:Nat):finMP j 3 0:=by unfold finMP;kernel_rfl
theorem qtz (j:Nat):finMP j 3 1:=by unfold finMP;kernel_rfl
theorem qum (j:Nat):finMP j 3 2:=by unfold finMP;kernel_rfl
theorem qun (j:Nat):finMP j 4 0:=by unfold finMP;kernel_rfl
theorem qug (j:Nat):finMP j 4 1:=by unfold finMP;kernel_rfl
theorem que (j:Nat):finMP j 4 2:=by unfold finMP;kernel_rfl
theorem qtl (j:Nat):finMP j 4 3:=by unfold finMP;kernel_rfl
theorem qtf (j:Nat):finMP j 5 0:=by unfold finMP;kernel_rfl
theorem quq (j:Nat):finMP j 5 1:=by unfold finMP;kernel_rfl
theorem qtu (j:Nat):finMP j 5 2:=by unfold finMP;kernel_rfl
theorem qtr (j:Nat):finMP j 5 3:=by unfold finMP;kernel_rfl
theorem qtb (j:Nat):finMP j 5 4:=by unfold finMP;kernel_rfl
theorem qt2 (j:Nat) {n p:Nat} (hn:n<=5) (hp:p<n):finMP j n p:=by
 have h:=qf hn hp;simp only[qsj,List.mem_cons,List.not_mem_nil,or_false,Prod.mk.injEq]at h;rcases h with⟨rfl,rfl⟩|⟨rfl,rfl⟩|⟨rfl,rfl⟩|⟨rfl,rfl⟩|⟨rfl,rfl⟩|⟨rfl,rfl⟩|⟨rfl,rfl⟩|⟨rfl,rfl⟩|⟨rfl,rfl⟩|⟨rfl,rfl⟩|⟨rfl,rfl⟩|⟨rfl,rfl⟩|⟨rfl,rfl⟩|⟨rfl,rfl⟩|⟨rfl,rfl⟩
 . exact qtv j
 . exact qu1 j
 . exact qu6 j
 . exact qu8 j
 . exact qtz j
 . exact qum j
 . exact qun j
 . exact qug j
 . exact que j
 . exact qtl j
 . exact qtf j
 . exact quq j
 . exact qtu j
 . exact qtr j
 . exact qtb j
def backP (f0 f1 f2:LI) (j:Nat) (n p:Nat):Prop:=(tabQ.map fun q=>((g202 (j+300) (eN n p q)).bind fun y7=>g106L0 (j+300) (j+300) f0 f1 f2 (List.replicate (n+1) 0) [] [] 0 y7.1 (List.replicate n 0) (((n-1:Nat)):Int)))=tabQ.map fun q=>some (.inr (.inl ((f0,f1,f2,List.replicate (n+1) 0,[],[],0,()),eN n p q,())))
theorem qui (f0 f1 f2:LI) (j:Nat):backP f0 f1 f2 j 1 0:=by unfold backP;kernel_rfl
theorem qtx (f0 f1 f2:LI) (j:Nat):backP f0 f1 f2 j 2 0:=by unfold backP;kernel_rfl
theorem qtc (f0 f1 f2:LI) (j:Nat):backP f0 f1 f2 j 2 1:=by unfold backP;kernel_rfl
theorem qtm (f0 f1 f2:LI) (j:Nat):backP f0 f1 f2 j 3 0:=by unfold backP;kernel_rfl
theorem qtj (f0 f1 f2:LI) (j:Nat):backP f0 f1 f2 j 3 1:=by unfold backP;kernel_rfl
theorem qth (f0 f1 f2:LI) (j:Nat):backP f0 f1 f2 j 3 2:=by unfold backP;kernel_rfl
theorem qte (f0 f1 f2:LI) (j:Nat):backP f0 f1 f2 j 4 0:=by unfold backP;kernel_rfl
theorem quh (f0 f1 f2:LI) (j:Nat):backP f0 f1 f2 j 4 1:=by unfold backP;kernel_rfl
theorem quc (f0 f1 f2:LI) (j:Nat):backP f0 f1 f2 j 4 2:=by unfold backP;kernel_rfl
theorem qtd (f0 f1 f2:LI) (j:Nat):backP f0 f1 f2 j 4 3:=by unfold backP;kernel_rfl
theorem quk (f0 f1 f2:LI) (j:Nat):backP f0 f1 f2 j 5 0:=by unfold backP;kernel_rfl
theorem qul (f0 f1 f2:LI) (j:Nat):backP f0 f1 f2 j 5 1:=by unfold backP;kernel_rfl
theorem qud (f0 f1 f2:LI) (j:Nat):backP f0 f1 f2 j 5 2:=by unfold backP;kernel_rfl
theorem qti (f0 f1 f2:LI) (j:Nat):backP f0 f1 f2 j 5 3:=by unfold backP;kernel_rfl
theorem quj (f0 f1 f2:LI) (j:Nat):backP f0 f1 f2 j 5 4:=by unfold backP;kernel_rfl
theorem qt8 (f0 f1 f2:LI) (j:Nat) {n p:Nat} (hn:n<=5) (hp:p<n):backP f0 f1 f2 j n p:=by
 have h:=qf hn hp;simp only[qsj,List.mem_cons,List.not_mem_nil,or_false,Prod.mk.injEq]at h;rcases h with⟨rfl,rfl⟩|⟨rfl,rfl⟩|⟨rfl,rfl⟩|⟨rfl,rfl⟩|⟨rfl,rfl⟩|⟨rfl,rfl⟩|⟨rfl,rfl⟩|⟨rfl,rfl⟩|⟨rfl,rfl⟩|⟨rfl,rfl⟩|⟨rfl,rfl⟩|⟨rfl,rfl⟩|⟨rfl,rfl⟩|⟨rfl,rfl⟩|⟨rfl,rfl⟩
 . exact qui f0 f1 f2 j
 . exact qtx f0 f1 f2 j
 . exact qtc f0 f1 f2 j
 . exact qtm f0 f1 f2 j
 . exact qtj f0 f1 f2 j
 . exact qth f0 f1 f2 j
 . exact qte f0 f1 f2 j
 . exact quh f0 f1 f2 j
 . exact quc f0 f1 f2 j
 . exact qtd f0 f1 f2 j
 . exact quk f0 f1 f2 j
 . exact qul f0 f1 f2 j
 . exact qud f0 f1 f2 j
 . exact qti f0 f1 f2 j
 . exact quj f0 f1 f2 j
end Go.Vs.F
