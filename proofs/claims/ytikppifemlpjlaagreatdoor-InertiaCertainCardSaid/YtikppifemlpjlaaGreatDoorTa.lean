/-Sums over lists of indices,with rational terms. Power series,Newton's identities,and integrality of the characteristic polynomial. Quadratic forms:diagonal form by elimination,Sylvester's law. Orthogonal changes of a symmetric matrix;Jacobi's method with rational rotations. Jacobi's method:a symmetric matrix is,up to orthogonal changes,as near to a diagonal one as we like. Sign changes,and Descartes' rule with room to spare. Products of linear factors:coefficients,Newton's identities,many sign changes. Nearness:powers and coefficients of a matrix that is nearly diagonal. The signs of the coefficients of the characteristic polynomial count the eigenvalues' signs. Descartes' rule of signs counts the eigenvalues of a symmetric matrix. Descartes' rule:the sign changes of the characteristic polynomial of a symmetric matrix count its positive eigenvalues. -/
import Derived.Test.YtikppifemlpjlaaGreatDoorVc
set_option linter.unusedVariables false
set_option linter.unusedSimpArgs false
namespace Go.Vs.F
def sm {α:Type}:List α->(α->Rat)->Rat
 |[],_=>0
 |i::L,f=>f i+sm L f
variable {α β:Type}
@[simp] theorem sm_nil {f:α->Rat}:sm [] f=0:=rfl
end Go.Vs.F
set_option linter.unusedSectionVars false
namespace Go.Vs.F
def cv (g:Nat->Rat):(Nat->Rat)->Nat->Rat
 |f,0=>f 0*g 0
 |f,k+1=>f 0*g (k+1)+cv g (fun i=>f (i+1)) k
variable {α:Type} [DecidableEq α]
def mp (L:List α) (A:α->α->Rat):Nat->α->α->Rat
 |0,i,j=>if i=j then 1 else 0
 |k+1,i,j=>sm L (fun l=>A i l*mp L A k l j)
def tr (L:List α) (A:α->α->Rat) (k:Nat):Rat:=sm L (fun i=>mp L A k i i)
def sp (L:List α) (A:α->α->Rat) (k:Nat):Rat:=if k=0 then 0 else tr L A k
section
variable (p:α) (R:List α) (A:α->α->Rat)
variable {p R A}
end
variable {α:Type} [DecidableEq α]
variable {α:Type} [DecidableEq α]
def mm (L:List α) (A B:α->α->Rat) (i j:α):Rat:=sm L (fun k=>A i k*B k j)
def tp (A:α->α->Rat) (i j:α):Rat:=A j i
def cj (L:List α) (Q A:α->α->Rat):α->α->Rat:=mm L (tp Q) (mm L A Q)
section
variable {L R:List α} {p q:α} {c s:Rat}
end
def off (L:List α) (A:α->α->Rat):Rat:=sm L (fun i=>sm L (fun j=>if i=j then 0 else A i j*A i j))
variable {α:Type} [DecidableEq α]
def gg (b d u:Rat):Rat:=2*u*(1-u*u)*d+((1-u*u)*(1-u*u)-4*(u*u))*b
def sgq (x:Rat):Int:=if x<0 then-1 else if x=0 then 0 else 1
def vs:Int->List Rat->Nat
 |_,[]=>0
 |s,x::l=>(if sgq x*s<0 then 1 else 0)+vs (if sgq x=0 then s else sgq x) l
def sn (k:Nat):Rat:=if k%2=0 then 1 else-1
variable {α:Type} [DecidableEq α]
variable {α:Type} [DecidableEq α]
variable {α:Type} [DecidableEq α]
variable {α:Type} [DecidableEq α]
def cs (c:Nat->Rat) (r:Nat):List Rat:=(List.range r).map fun i=>c (i+1)
end Go.Vs.F
