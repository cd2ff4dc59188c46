/-Closed evaluations for the diagonal law,the long ones (printed by gen/mlba.py). -/
import Derived.Test.YtkbgfnhdfmmfcaaGreatDoorLb
import Derived.Test.YtkbgfnhdfmmfcaaGreatDoorLc
set_option linter.unusedVariables false
set_option maxRecDepth 100000
namespace Go.Vs.F
def qsr (m:Nat) (e x:LI):Option ((LI×Int×Unit)×(LI×LI×List LI×Unit)×Unit×Unit):=
 (g82b m e x).bind fun y2=>
 (g107 m y2.1.1 y2.1.2.1 y2.1.2.2.1 y2.1.2.2.2.1 0).bind fun y3=>
 (g47 m y3.1).bind fun y4=>
 bif !y4.1 then
  some ((([]:LI),233,()),((([]:LI),([]:LI),[e],()),(),()))
 else
  if([]:LI).length+([y3.1]:LI).length<=1073741824 then
  (g43L0 m m (([]:LI)++([y3.1]:LI)) ([]:LI) [e] y2.2.2.1 0).bind fun y5=>
  match y5 with
  | .inl z6=>
    some ((z6.2.1,z6.2.2.1,()),((z6.1.1,z6.1.2.1,z6.1.2.2.1,()),(),()))
  | .inr (.inl z7)=>
    some ((z7.2.1,0,()),((z7.1.1,z7.1.2.1,z7.1.2.2.1,()),(),()))
  | .inr (.inr e)=>
    e.elim
  else none
def wT:LI:=0::tabQ
abbrev Dy:=Bool×(Bool×LI)×Int
def zT:Dy:=(false,((false,[]),0))
def listT (n p:Nat) (t:Dy):List Dy:=(List.replicate n zT).set p t
def tm3 (y:(Bool×Bool×LI×Int×Unit)×Unit×Unit×Unit):Dy:=(y.1.1,((y.1.2.1,y.1.2.2.1),y.1.2.2.2.1))
def mulT (m:Nat) (a b:Int):Option ((Bool×Bool×LI×Int×Unit)×Unit×Unit×Unit):=
 (g112 m a).bind fun y1=>(g112 m b).bind fun y2=>g147 m y1.1.1 y1.1.2.1 y1.1.2.2.1 y1.1.2.2.2.1 y2.1.1 y2.1.2.1 y2.1.2.2.1 y2.1.2.2.2.1
def orT (m:Nat) (a h v:Int):Option (Int×Unit×Unit×Unit):=
 (g112 m a).bind fun y1=>(g112 m h).bind fun y2=>(g112 m v).bind fun y3=>
 (g147 m y2.1.1 y2.1.2.1 y2.1.2.2.1 y2.1.2.2.2.1 y3.1.1 y3.1.2.1 y3.1.2.2.1 y3.1.2.2.2.1).bind fun y4=>
 (g83 m y1.1.1 y1.1.2.1 y1.1.2.2.1 y1.1.2.2.2.1 y4.1.1 y4.1.2.1 y4.1.2.2.1 y4.1.2.2.2.1).bind fun y5=>
 (g107 m y5.1.1 y5.1.2.1 y5.1.2.2.1 y5.1.2.2.2.1 0)
theorem qu3 (j:Nat):(wT.map fun h=>orT (j+300) 0 h 0)=wT.map fun h=>some (0,(),(),()):=by kernel_rfl
theorem qts (j:Nat):(wT.map fun h=>orT (j+300) h h oneF)=wT.map fun h=>some (0,(),(),()):=by kernel_rfl
theorem qt3 (j:Nat):((mulT (j+300) 0 0).map tm3)=some zT:=by kernel_rfl
theorem qto (j:Nat):(wT.map fun h=>g47 (j+300) h)=wT.map fun h=>some (true,(),()):=by kernel_rfl
theorem qu5 (j:Nat):(combP.map fun c=>g105 (j+300) (eN c.1 c.2 0))=combP.map fun c=>some (true,(),()):=by kernel_rfl
def sumP (j:Nat) (n p:Nat):Prop:=(wT.map fun w=>(mulT (j+300) oneF w).bind fun t=>(g148 (j+300) (listT n p (tm3 t))).bind fun s=>g107 (j+300) s.1.1 s.1.2.1 s.1.2.2.1 s.1.2.2.2.1 0)=wT.map fun w=>some (w,(),(),())
theorem quz (j:Nat):sumP j 1 0:=by unfold sumP;kernel_rfl
theorem qv2 (j:Nat):sumP j 2 0:=by unfold sumP;kernel_rfl
theorem qv3 (j:Nat):sumP j 2 1:=by unfold sumP;kernel_rfl
theorem qva (j:Nat):sumP j 3 0:=by unfold sumP;kernel_rfl
theorem qvf (j:Nat):sumP j 3 1:=by unfold sumP;kernel_rfl
theorem qv6 (j:Nat):sumP j 3 2:=by unfold sumP;kernel_rfl
theorem qv7 (j:Nat):sumP j 4 0:=by unfold sumP;kernel_rfl
theorem qvk (j:Nat):sumP j 4 1:=by unfold sumP;kernel_rfl
theorem qv5 (j:Nat):sumP j 4 2:=by unfold sumP;kernel_rfl
theorem quy (j:Nat):sumP j 4 3:=by unfold sumP;kernel_rfl
theorem quv (j:Nat):sumP j 5 0:=by unfold sumP;kernel_rfl
theorem qve (j:Nat):sumP j 5 1:=by unfold sumP;kernel_rfl
theorem qvi (j:Nat):sumP j 5 2:=by unfold sumP;kernel_rfl
theorem qvb (j:Nat):sumP j 5 3:=by unfold sumP;kernel_rfl
theorem qvj (j:Nat):sumP j 5 4:=by unfold sumP;kernel_rfl
theorem qtk (j:Nat) {n p:Nat} (hn:n<=5) (hp:p<n):sumP j n p:=by
 have h:=qf hn hp;simp only[qsj,List.mem_cons,List.not_mem_nil,or_false,Prod.mk.injEq]at h;rcases h with⟨rfl,rfl⟩|⟨rfl,rfl⟩|⟨rfl,rfl⟩|⟨rfl,rfl⟩|⟨rfl,rfl⟩|⟨rfl,rfl⟩|⟨rfl,rfl⟩|⟨rfl,rfl⟩|⟨rfl,rfl⟩|⟨rfl,rfl⟩|⟨rfl,rfl⟩|⟨rfl,rfl⟩|⟨rfl,rfl⟩|⟨rfl,rfl⟩|⟨rfl,rfl⟩
 . exact quz j
 . exact qv2 j
 . exact qv3 j
 . exact qva j
 . exact qvf j
 . exact qv6 j
 . exact qv7 j
 . exact qvk j
 . exact qv5 j
 . exact quy j
 . exact quv j
 . exact qve j
 . exact qvi j
 . exact qvb j
 . exact qvj j
end Go.Vs.F
