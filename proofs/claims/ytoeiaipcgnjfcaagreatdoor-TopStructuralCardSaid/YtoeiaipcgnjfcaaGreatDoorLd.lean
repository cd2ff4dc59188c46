import Derived.Test.YtoeiaipcgnjfcaaGreatDoorLc
set_option linter.unusedSectionVars false
set_option linter.unusedVariables false
set_option linter.unusedSimpArgs false
set_option linter.defProp false
namespace Go.Vs.F
def Lm.get' {l:LI} (h:Lm l) (k:Nat): ∃x:Nat,l.getD k 0=(x:Int)/\x<4294967296/\vl (l.drop k)=x+4294967296*vl (l.drop (k+1)):=by
 by_cases hk:k<l.length
 . obtain⟨x,ex,hx⟩:=h.get hk;exact⟨x,ex,hx,by rw[Xn hk,ex,tN]⟩
 . exact⟨0,by rw[q4q O];rfl,O,by rw[Q5 O,Q5 O]⟩
end Go.Vs.F
