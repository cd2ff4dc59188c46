import Derived.Test.YtfleaheoikmdgaaGreatDoorLc
set_option linter.unusedVariables false
set_option linter.unusedSimpArgs false
set_option linter.unusedSectionVars false
set_option linter.defProp false
namespace Go.Vs.F
def Lm.get' {l:LI} (h:Lm l) (k:Nat): ∃x:Nat,l.getD k 0=(x:Int)/\x<4294967296/\vl (l.drop k)=x+4294967296*vl (l.drop (k+1)):=by
 by_cases hk:k<l.length
 . obtain⟨x,ex,hx⟩:=h.get hk;exact⟨x,ex,hx,by rw[Xr hk,ex,tN]⟩
 . exact⟨0,by rw[q7b O];rfl,O,by rw[Qh O,Qh O]⟩
def qo1 {f:Int} (h:U64 f):qo .u64 (shr_ .u64 f 52) 2047=fexp f/\qo .u64 f 4503599627370495=ffrac f:=by
 have:=parts_eq (m:=0) h;rw[g44]at this;simp only[zH,zC3,and_true]at this;have hl:=q6p f;refine⟨?_,this.2⟩;have h2:=qnw (x:=shr_ .u64 f 52);have:=this.1
 rwa [wQ,wi O O]at this
def qlh {m:Nat} {f:Int} (h:U64 f):g62 m f=some (fneg f,(),()):=by
 have:=q1p (m:=m) h
 rwa [g87]at this
end Go.Vs.F
