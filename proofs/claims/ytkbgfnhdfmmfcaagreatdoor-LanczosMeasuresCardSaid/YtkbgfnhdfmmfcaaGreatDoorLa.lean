/-Matrices:checks,entries,building,permuting (turned from the matching laws). -/
import Derived.Test.YtkbgfnhdfmmfcaaGreatDoorVc
import Derived.Test.YtkbgfnhdfmmfcaaGreatDoorFn
set_option linter.unusedVariables false
set_option linter.unusedSimpArgs false
set_option maxRecDepth 100000
namespace Go.Vs.F
section
theorem qhp {x:Int}:0<=qw .u64 x 2047/\qw .u64 x 2047<2048:=by
 unfold qw
 have h:(BitVec.ofInt IntKind.u64.bits x&&&BitVec.ofInt IntKind.u64.bits 2047).toNat<2048:=by
  rw[BitVec.toNat_and];have:(BitVec.ofInt IntKind.u64.bits 2047).toNat=2047:=by decide
  rw[this];exact Nat.lt_of_le_of_lt Nat.and_le_right (by decide)
 generalize (BitVec.ofInt IntKind.u64.bits x&&&BitVec.ofInt IntKind.u64.bits 2047).toNat=y at h
 rw[wu O O];omega
def finB (x:Int):Bool:=qw .u64 (shr_ .u64 x 52) 2047 !=2047
def finL (a:LI):Bool:=Q8 (fun i=>finB (a.getD i 0)) 0 a.length
end
section
def le2 (S:LI) (i:Nat):Bool:=decide (S.getD i 0<=S.getD (i+1) 0)
def entOK (R:Int) (S I:LI) (j k:Nat):Bool:=
 decide (0<=I.getD k 0)&&decide (I.getD k 0<R)&&(!decide ((S.getD j 0).toNat<k)||decide (I.getD (k-1) 0<I.getD k 0))
def qhz (R:Int) (S I:LI) (j:Nat):Bool:=Q8 (entOK R S I j) (S.getD j 0).toNat (S.getD (j+1) 0).toNat
def strB (R C:Int) (S I V:LI):Bool:=
 decide ((S.length:Int)=C+1)&&decide (S.getD 0 0=0)&&Q8 (le2 S) 0 C.toNat&&decide (S.getD C.toNat 0=(I.length:Int))&&decide (I.length=V.length)&&Q8 (fun j=>qhz R S I j) 0 C.toNat
def chk (R C:Int) (S I V:LI):Int:=
 if(decide (0<=R)&&decide (R<=200)&&decide (0<=C)&&decide (C<=200)&&decide (I.length<=10000))=false then 6 else if strB R C S I V=false then 1 else if finL V=false then 4 else 0
end
section
end
section
end
section
end
section
end
section
theorem q0m {xs:LI} {k:Nat} (h:k<xs.length):xs.getD k 0∈xs:=by simp[List.getD,h]
section
variable {E:List LI} {R C:Nat}
end
end
section
section
variable {R C:Nat} {S I V:LI}
end
end
section
theorem qdm (a:Int):0<=IntKind.wrap .u64 a/\IntKind.wrap .u64 a<18446744073709551616:=by
 have e:IntKind.wrap .u64 a=a%18446744073709551616:=by
  unfold IntKind.wrap;show(if(false&&decide (a%18446744073709551616>=9223372036854775808))=true then a%18446744073709551616-18446744073709551616 else a%18446744073709551616)=_
  simp only[Bool.false_and];rfl
 rw[e];omega
theorem qhv (a:Int): ∃x:Nat,IntKind.wrap .u64 a=(x:Int)/\x<18446744073709551616:=
 ⟨(IntKind.wrap .u64 a).toNat,by have:=qdm a;omega,by have:=qdm a;omega⟩
theorem tm (x n:Nat):Int.tmod (x:Int) (n:Int)=((x%n:Nat):Int):=by
 rw[Int.tmod_eq_emod_of_nonneg O];rfl
end
section
abbrev Ent:=Int×Int×Int
theorem cell {r c i j:Nat} (hi:i<r) (hj:j<c):j*r+i<r*c:=by
 have h1:(j+1)*r<=c*r:=Nat.mul_le_mul_right r hj;have h2:=Nat.succ_mul j r;have h3:=Nat.mul_comm r c;simp only[Nat.succ_eq_add_one]at h2;omega
variable {es:List Ent} {r c:Nat}
end
section
variable {es:List Ent} {r c:Nat}
end
section
end
section
abbrev zE:Ent:=(0,(0,0))
theorem qbg {m:Nat} (x y:Int):g267 m x y=some (if x<y then-1 else if x>y then 1 else 0,(),(),()):=by
 simp only[g267,g284,bS,bne_self_eq_false,cond_false,bQ];by_cases h:x<y
 . simp[h]
 . by_cases h2:x>y
   . simp[h,h2]
   . simp[h,h2]
end
section
end
section
section
variable (self:(List (Int×Int×Int))->Int->Int->Int->Option (Unit×(List (Int×Int×Int))×Unit×Unit×Unit×Unit×Unit)) (m:Nat) (hm:2<m)
end
end
section
end
section
end
section
end
section
def DistE (es:List Ent):Prop:= ∀k k',k<es.length->k'<es.length->(es.getD k zE).1=(es.getD k' zE).1->(es.getD k zE).2.1=(es.getD k' zE).2.1->k=k'
section
variable {es:List Ent} {r c:Nat}
end
end
section
section
variable {R C:Nat} {S I V:LI}
end
end
section
end
section
theorem Xx {α:Type} {L:List α} {i:Nat} {d:α} (h:L.length<=i):L.getD i d=d:=by
 rw[List.getD,List.getElem?_eq_none h];rfl
end
section
end
section
end
section
variable {S I V:LI} {N:Nat}
end
end Go.Vs.F
