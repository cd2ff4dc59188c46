import Derived.Test.YtoeiaipcgnjfcaaGreatDoorVc
set_option linter.unusedVariables false
set_option linter.unusedSimpArgs false
set_option linter.unusedSectionVars false
set_option linter.defProp false
namespace Go.Vs.F
abbrev Ca:=(Int×Unit)
abbrev sw:=(List Bool)
abbrev HO:=(LI×LI×Unit)
abbrev gf:=(Int×Int×Int)
abbrev xC:=(LI×Unit×Unit)
abbrev sx:=(List LI×Unit)
abbrev n9:=(Bool×LI×Unit)
abbrev l7:=(Int×Unit×Unit)
abbrev pU:=(Bool×Unit×Unit)
abbrev ob:=((LI×Unit)⊕Empty)
abbrev tW:=(LI×LI×LI×LI×Unit)
abbrev tx:=(LI×Unit×Unit×Unit)
abbrev j9:=(Bool×(Bool×LI)×Int)
abbrev dM:=(List gf )
abbrev jY:=(Int×Unit×Unit×Unit)
abbrev xD:=(Bool×Unit×Unit×Unit)
abbrev FI:=((LI×Int×Unit)⊕Empty)
abbrev gU:=(Int×Int×LI×LI×LI×Unit)
abbrev ub:=( Ca ⊕Unit⊕Empty)
abbrev oc:=(Bool×Bool×LI×Int×Unit)
abbrev xE:=((Bool×Unit)⊕Unit⊕Empty)
abbrev NI:=(Int×Bool×(Bool×LI)×Int)
abbrev NJ:=(Bool×Unit×Unit×Unit×Unit)
abbrev Cb:=( n9 ×Unit×Unit)
abbrev mc:=(List j9 )
abbrev T7:=((Int×Bool×Unit)×Unit×Unit)
abbrev Pv:=(( HO ×Unit)⊕Empty)
abbrev T8:=(Bool×Bool×LI×Int×Bool×Unit)
abbrev Pw:=((LI×Int×Int×Int×Unit)⊕Empty)
abbrev NK:=((LI×Int×Unit)×Unit×Unit×Unit)
abbrev NL:=( oc ×Unit)
abbrev Px:=((LI×Bool×Unit)×Unit×Unit×Unit)
abbrev NM:=(List NI )
abbrev Py:=((LI×Int×Unit)⊕(LI×Unit)⊕Empty)
abbrev ud:=( n9 ×Unit×Unit×Unit)
abbrev NN:=( dM ×Unit×Unit)
abbrev T9:=(( n9 ×Int×Unit)⊕Empty)
abbrev Ua:=( tW ×Int×Int×Unit)
abbrev ue:=(List mc )
abbrev Pz:=( gU ×Int×Unit)
abbrev FJ:=(( dM ×Unit)⊕Empty)
abbrev xW:=( oc ×Unit×Unit)
abbrev Ub:=(List LI×List LI×Unit×List LI×Unit)
abbrev PA:=( oc ×Unit×Unit×Unit)
abbrev Cc:=(Option NM )
abbrev Uc:=(( dM ×Int×Int×Unit)⊕Empty)
abbrev PB:=( gU ×Unit×Unit×Unit×Unit)
abbrev Ud:=(( sx ×List sw ×Unit)⊕Empty)
abbrev tu:=(List Cc )
abbrev tq:=((Int× n9 × n9 ×Unit)⊕Empty)
abbrev tZ:=( Ca ⊕( gU ×Unit)⊕Empty)
abbrev tY:=(Unit× dM ×Unit×Unit×Unit×Unit×Unit)
abbrev tX:=(( dM ×Int×Unit×Int×Int×Unit)⊕Empty)
abbrev tV:=(( gU × gU ×Unit)⊕Empty)
abbrev tK:=(Int×List LI× tu ×Unit)
abbrev tJ:=(List LI×List LI× tu ×List LI×Unit)
abbrev tH:=(( gU × gU × dM ×Unit)⊕Empty)
abbrev tC:=( tJ × tK ×Unit)
abbrev qz:Bool×(Bool×List Int)×Int:=(false,((false,[]),0))
def HY:LI:=[0,1,28,2,29,14,24,3,30,22,20,15,25,17,4,8,31,27,13,23,21,19,16,7,26,12,18,6,11,5,10,9]
def Qi:LI:=[0,1,2,2,3,3,3,3,4,4,4,4,4,4,4,4,5,5,5,5,5,5,5,5,5,5,5,5,5,5,5,5,6,6,6,6,6,6,6,6,6,6,6,6,6,6,6,6,6,6,6,6,6,6,6,6,6,6,6,6,6,6,6,6,7,7,7,7,7,7,7,7,7,7,7,7,7,7,7,7,7,7,7,7,7,7,7,7,7,7,7,7,7,7,7,7,7,7,7,7,7,7,7,7,7,7,7,7,7,7,7,7,7,7,7,7,7,7,7,7,7,7,7,7,7,7,7,7,8,8,8,8,8,8,8,8,8,8,8,8,8,8,8,8,8,8,8,8,8,8,8,8,8,8,8,8,8,8,8,8,8,8,8,8,8,8,8,8,8,8,8,8,8,8,8,8,8,8,8,8,8,8,8,8,8,8,8,8,8,8,8,8,8,8,8,8,8,8,8,8,8,8,8,8,8,8,8,8,8,8,8,8,8,8,8,8,8,8,8,8,8,8,8,8,8,8,8,8,8,8,8,8,8,8,8,8,8,8,8,8,8,8,8,8,8,8,8,8,8,8,8,8,8,8,8,8]
def Bw (m:Nat) (a:Int) (b:Int):Option jY:=if(wJ b)≠0 then some (wI (Int.tmod (wJ a) (wJ b)),((),(),()))else none
def Ie (m:Nat) (a:LI) (b:Int):Option jY:=bif decide ((a.length:Int)>0)then (Bw m b (a.length:Int)).bind λy1=>if 0<=y1.1/\y1.1<(a.length:Int)then some (Xo .u64 (wJ ((Xo .u64 (Xo .u64 (wJ ((wJ (wI (b+1)))*11400714819323198485)) (a.getD y1.1.toNat 0)) (az .u64 (Xo .u64 (wJ ((wJ (wI (b+1)))*11400714819323198485)) (a.getD y1.1.toNat 0)) 31))*13787848793156543929)) (az .u64 (wJ ((Xo .u64 (Xo .u64 (wJ ((wJ (wI (b+1)))*11400714819323198485)) (a.getD y1.1.toNat 0)) (az .u64 (Xo .u64 (wJ ((wJ (wI (b+1)))*11400714819323198485)) (a.getD y1.1.toNat 0)) 31))*13787848793156543929)) 29),((),(),()))else none else some (Xo .u64 (wJ ((Xo .u64 (wJ ((wJ (wI (b+1)))*11400714819323198485)) (az .u64 (wJ ((wJ (wI (b+1)))*11400714819323198485)) 31))*13787848793156543929)) (az .u64 (wJ ((Xo .u64 (wJ ((wJ (wI (b+1)))*11400714819323198485)) (az .u64 (wJ ((wJ (wI (b+1)))*11400714819323198485)) 31))*13787848793156543929)) 29),((),(),()))
def qJ (m:Nat) (a:Int):Option pU:=some ((qp .u64 (az .u64 a 52) 2047) !=2047,((),()))
def lD (m:Nat):Nat->LI->Int->LI->Int->Option ob
 |0,_,_,_,_=>none
 |n+1,a,b,c,d=>bif decide (d<b)then if 0<=d/\d<(a.length:Int)then if c.length+([a.getD d.toNat 0]:LI).length<=1073741824 then lD m n a b (c++([a.getD d.toNat 0]:LI)) (wI (d+1))else none else none else some (.inl (c,()))
def iO (m:Nat):Nat->LI->Int->Option FI
 |0,_,_=>none
 |n+1,a,b=>bif decide (b>0)then if 0<=(wI (b-1))/\(wI (b-1))<(a.length:Int)then bif (a.getD (wI (b-1)).toNat 0)==0 then iO m n a (wI (b-1))else some (.inl (a,b,()))else none else some (.inl (a,b,()))
def nK (m:Nat) (a:LI):Option xC:=(iO m m a (a.length:Int)).bind λy1=>match y1 with
 | .inl z2=>(lD m m z2.1 z2.2.1 ([]:LI) 0).bind λy3=>match y3 with
  | .inl z4=>some (z4.1,((),()))
  | .inr e=>e.elim
 | .inr e=>e.elim
def ie (m:Nat) (a:Bool) (b:LI):Option ud:=(nK m b).bind λy1=>bif a then some ((decide ((y1.1.length:Int)>0),y1.1,()),((),(),()))else some ((false,y1.1,()),((),(),()))
def cO (m:Nat) (a:Int):Option Cb:=bif decide (a<0)then (ie m (decide (a<0)) ([wK (wJ ((wJ (wI (0-(wI (a+1)))))+1)),wK (az .u64 (wJ ((wJ (wI (0-(wI (a+1)))))+1)) 32)]:LI)).bind λy1=>some ((y1.1.1,y1.1.2.1,()),((),()))else (ie m (decide (a<0)) ([wK (wJ a),wK (az .u64 (wJ a) 32)]:LI)).bind λy2=>some ((y2.1.1,y2.1.2.1,()),((),()))
def qE (m:Nat) (a:Bool) (b:LI):Option Cb:=(ie m a b).bind λy1=>some ((y1.1.1,y1.1.2.1,()),((),()))
def qI (m:Nat):Option NL:=some ((true,false,[],0,()),())
def vz (m:Nat) (a:Int):Option l7:=bif a==0 then some (32,((),()))else if(0:Int)<=27 then if 0<=(az .u32 (wK ((qp .u32 a (wK (0-a)))*125613361)) 27)/\(az .u32 (wK ((qp .u32 a (wK (0-a)))*125613361)) 27)<(HY.length:Int)then some (wI (HY.getD (az .u32 (wK ((qp .u32 a (wK (0-a)))*125613361)) 27).toNat 0),((),()))else none else none
def iR (m:Nat):Nat->LI->Int->Option ub
 |0,_,_=>none
 |n+1,a,b=>bif decide (b<(a.length:Int))then if 0<=b/\b<(a.length:Int)then bif (a.getD (0+b.toNat) 0) !=0 then if 0<=b/\b<(a.length:Int)then (vz m (a.getD (0+b.toNat) 0)).bind λy1=>some (.inl (wI ((wI (32*b))+y1.1),()))else none else iR m n a (wI (b+1))else none else some (.inr (.inl ()))
def eX (m:Nat) (a:Bool) (b:LI):Option l7:=(nK m b).bind λy1=>(iR m m y1.1 0).bind λy2=>match y2 with
 | .inl z3=>some (z3.1,((),()))
 | .inr (.inl z4)=>some (0,((),()))
 | .inr (.inr e)=>e.elim
def s6 (m:Nat) (a:Bool) (b:LI):Option Cb:=(ie m false b).bind λy1=>some ((y1.1.1,y1.1.2.1,()),((),()))
def lC (m:Nat):Nat->LI->Int->LI->Int->Int->Option FI
 |0,_,_,_,_,_=>none
 |n+1,a,b,c,d,f=>bif decide (f<(a.length:Int))then if 0<=f/\f<(a.length:Int)then if 0<=(Int.tmod b 32)then if c.length+([wK (bc .u64 d (bu .u64 (wJ (a.getD f.toNat 0)) (Int.tmod b 32)))]:LI).length<=1073741824 then lC m n a b (c++([wK (bc .u64 d (bu .u64 (wJ (a.getD f.toNat 0)) (Int.tmod b 32)))]:LI)) (az .u64 (bc .u64 d (bu .u64 (wJ (a.getD f.toNat 0)) (Int.tmod b 32))) 32) (wI (f+1))else none else none else none else some (.inl (c,d,()))
def vX (m:Nat) (a:LI) (b:Int):Option tx:=if 0<=(wI (Int.tdiv b 32))/\(wI (Int.tdiv b 32))<=(wI (Int.tdiv b 32))/\(wI (Int.tdiv b 32))<=1073741824 then (lC m m a b (List.replicate (wI (Int.tdiv b 32)).toNat (0:Int)) 0 0).bind λy1=>match y1 with
 | .inl z2=>if z2.1.length+([wK z2.2.1]:LI).length<=1073741824 then some (z2.1++([wK z2.2.1]:LI),((),(),()))else none
 | .inr e=>e.elim else none
def dW (m:Nat):Nat->LI->Int->Bool->LI->Int->Int->Option (n9⊕Empty)
 |0,_,_,_,_,_,_=>none
 |n+1,a,b,c,d,f,h=>bif decide (h<(a.length:Int))then if 0<=h/\h<(a.length:Int)then bif decide ((wI (h+1))<(a.length:Int))then if 0<=(wI (h+1))/\(wI (h+1))<(a.length:Int)then bif h==(wI (Int.tdiv b 32))then if 0<=h/\h<(a.length:Int)then if 0<=f then bif (qp .u32 (a.getD h.toNat 0) (wK ((bu .u32 1 f)-1))) !=0 then if 0<=f then if d.length+([wK (az .u64 (bc .u64 (wJ (a.getD h.toNat 0)) (bu .u64 (wJ (a.getD (wI (h+1)).toNat 0)) 32)) f)]:LI).length<=1073741824 then dW m n a b true (d++([wK (az .u64 (bc .u64 (wJ (a.getD h.toNat 0)) (bu .u64 (wJ (a.getD (wI (h+1)).toNat 0)) 32)) f)]:LI)) f (wI (h+1))else none else none else if 0<=f then if d.length+([wK (az .u64 (bc .u64 (wJ (a.getD h.toNat 0)) (bu .u64 (wJ (a.getD (wI (h+1)).toNat 0)) 32)) f)]:LI).length<=1073741824 then dW m n a b c (d++([wK (az .u64 (bc .u64 (wJ (a.getD h.toNat 0)) (bu .u64 (wJ (a.getD (wI (h+1)).toNat 0)) 32)) f)]:LI)) f (wI (h+1))else none else none else none else none else if 0<=f then if d.length+([wK (az .u64 (bc .u64 (wJ (a.getD h.toNat 0)) (bu .u64 (wJ (a.getD (wI (h+1)).toNat 0)) 32)) f)]:LI).length<=1073741824 then dW m n a b c (d++([wK (az .u64 (bc .u64 (wJ (a.getD h.toNat 0)) (bu .u64 (wJ (a.getD (wI (h+1)).toNat 0)) 32)) f)]:LI)) f (wI (h+1))else none else none else none else bif h==(wI (Int.tdiv b 32))then if 0<=h/\h<(a.length:Int)then if 0<=f then bif (qp .u32 (a.getD h.toNat 0) (wK ((bu .u32 1 f)-1))) !=0 then if 0<=f then if d.length+([wK (az .u64 (wJ (a.getD h.toNat 0)) f)]:LI).length<=1073741824 then dW m n a b true (d++([wK (az .u64 (wJ (a.getD h.toNat 0)) f)]:LI)) f (wI (h+1))else none else none else if 0<=f then if d.length+([wK (az .u64 (wJ (a.getD h.toNat 0)) f)]:LI).length<=1073741824 then dW m n a b c (d++([wK (az .u64 (wJ (a.getD h.toNat 0)) f)]:LI)) f (wI (h+1))else none else none else none else none else if 0<=f then if d.length+([wK (az .u64 (wJ (a.getD h.toNat 0)) f)]:LI).length<=1073741824 then dW m n a b c (d++([wK (az .u64 (wJ (a.getD h.toNat 0)) f)]:LI)) f (wI (h+1))else none else none else none else some (.inl (c,d,()))
def iM (m:Nat):Nat->LI->Int->Bool->Int->Option ((LI×Int×Bool×Unit)⊕Empty)
 |0,_,_,_,_=>none
 |n+1,a,b,c,d=>bif decide (d<(wI (Int.tdiv b 32)))then bif decide (d<(a.length:Int))then bif c then iM m n a b true (wI (d+1))else if 0<=d/\d<(a.length:Int)then iM m n a b ((a.getD d.toNat 0) !=0) (wI (d+1))else none else some (.inl (a,b,c,()))else some (.inl (a,b,c,()))
def sY (m:Nat) (a:LI) (b:Int):Option Px:=(iM m m a b false 0).bind λy1=>match y1 with
 | .inl z2=>(dW m m z2.1 z2.2.1 z2.2.2.1 ([]:LI) (Int.tmod z2.2.1 32) (wI (Int.tdiv z2.2.1 32))).bind λy3=>match y3 with
  | .inl z4=>some ((z4.2.1,z4.1,()),((),(),()))
  | .inr e=>e.elim
 | .inr e=>e.elim
def zj (m:Nat) (a:Bool) (b:LI):Option Cb:=(ie m (!a) b).bind λy1=>some ((y1.1.1,y1.1.2.1,()),((),()))
def fg (m:Nat):Nat->LI->LI->LI->Int->Int->Option FI
 |0,_,_,_,_,_=>none
 |n+1,a,b,c,d,f=>bif decide (f<(if(b.length:Int)>(a.length:Int)then(b.length:Int)else(a.length:Int)))then bif decide (f<(a.length:Int))then if 0<=f/\f<(a.length:Int)then bif decide (f<(b.length:Int))then if 0<=f/\f<(b.length:Int)then if c.length+([wK (wJ ((wJ (d+(wJ (a.getD f.toNat 0))))+(wJ (b.getD f.toNat 0))))]:LI).length<=1073741824 then fg m n a b (c++([wK (wJ ((wJ (d+(wJ (a.getD f.toNat 0))))+(wJ (b.getD f.toNat 0))))]:LI)) (az .u64 (wJ ((wJ (d+(wJ (a.getD f.toNat 0))))+(wJ (b.getD f.toNat 0)))) 32) (wI (f+1))else none else none else if c.length+([wK (wJ (d+(wJ (a.getD f.toNat 0))))]:LI).length<=1073741824 then fg m n a b (c++([wK (wJ (d+(wJ (a.getD f.toNat 0))))]:LI)) (az .u64 (wJ (d+(wJ (a.getD f.toNat 0)))) 32) (wI (f+1))else none else none else bif decide (f<(b.length:Int))then if 0<=f/\f<(b.length:Int)then if c.length+([wK (wJ (d+(wJ (b.getD f.toNat 0))))]:LI).length<=1073741824 then fg m n a b (c++([wK (wJ (d+(wJ (b.getD f.toNat 0))))]:LI)) (az .u64 (wJ (d+(wJ (b.getD f.toNat 0)))) 32) (wI (f+1))else none else none else if c.length+([wK d]:LI).length<=1073741824 then fg m n a b (c++([wK d]:LI)) (az .u64 d 32) (wI (f+1))else none else some (.inl (c,d,()))
def AF (m:Nat) (a:LI) (b:LI):Option tx:=(fg m m a b ([]:LI) 0 0).bind λy1=>match y1 with
 | .inl z2=>if z2.1.length+([wK z2.2.1]:LI).length<=1073741824 then some (z2.1++([wK z2.2.1]:LI),((),(),()))else none
 | .inr e=>e.elim
def iN (m:Nat):Nat->LI->LI->Int->Option ub
 |0,_,_,_=>none
 |n+1,a,b,c=>bif decide (c>=0)then if 0<=c/\c<(a.length:Int)then if 0<=c/\c<(b.length:Int)then bif (a.getD c.toNat 0) !=(b.getD c.toNat 0)then if 0<=c/\c<(a.length:Int)then if 0<=c/\c<(b.length:Int)then bif decide ((a.getD c.toNat 0)<(b.getD c.toNat 0))then some (.inl ((-1),()))else some (.inl (1,()))else none else none else iN m n a b (wI (c-1))else none else none else some (.inr (.inl ()))
def AD (m:Nat) (a:LI) (b:LI):Option jY:=bif (a.length:Int) !=(b.length:Int)then bif decide ((a.length:Int)<(b.length:Int))then some ((-1),((),(),()))else some (1,((),(),()))else (iN m m a b (wI ((a.length:Int)-1))).bind λy1=>match y1 with
  | .inl z2=>some (z2.1,((),(),()))
  | .inr (.inl z3)=>some (0,((),(),()))
  | .inr (.inr e)=>e.elim
def gM (m:Nat):Nat->LI->LI->LI->Int->Int->Option ob
 |0,_,_,_,_,_=>none
 |n+1,a,b,c,d,f=>bif decide (f<(a.length:Int))then if 0<=f/\f<(a.length:Int)then bif decide (f<(b.length:Int))then if 0<=f/\f<(b.length:Int)then if c.length+([wK (wJ ((wJ ((wJ (a.getD f.toNat 0))-d))-(wJ (b.getD f.toNat 0))))]:LI).length<=1073741824 then gM m n a b (c++([wK (wJ ((wJ ((wJ (a.getD f.toNat 0))-d))-(wJ (b.getD f.toNat 0))))]:LI)) (az .u64 (wJ ((wJ ((wJ (a.getD f.toNat 0))-d))-(wJ (b.getD f.toNat 0)))) 63) (wI (f+1))else none else none else if c.length+([wK (wJ ((wJ (a.getD f.toNat 0))-d))]:LI).length<=1073741824 then gM m n a b (c++([wK (wJ ((wJ (a.getD f.toNat 0))-d))]:LI)) (az .u64 (wJ ((wJ (a.getD f.toNat 0))-d)) 63) (wI (f+1))else none else none else some (.inl (c,()))
def vY (m:Nat) (a:LI) (b:LI):Option tx:=(gM m m a b ([]:LI) 0 0).bind λy1=>match y1 with
 | .inl z2=>some (z2.1,((),(),()))
 | .inr e=>e.elim
def cI (m:Nat) (a:Bool) (b:LI) (c:Bool) (d:LI):Option ud:=(nK m b).bind λy1=>(nK m d).bind λy2=>bif a==c then (AF m y1.1 y2.1).bind λy3=>(ie m a y3.1).bind λy4=>some ((y4.1.1,y4.1.2.1,()),((),(),()))else (AD m y1.1 y2.1).bind λy5=>bif decide (y5.1>=0)then (vY m y1.1 y2.1).bind λy6=>(ie m a y6.1).bind λy7=>some ((y7.1.1,y7.1.2.1,()),((),(),()))else (vY m y2.1 y1.1).bind λy8=>(ie m c y8.1).bind λy9=>some ((y9.1.1,y9.1.2.1,()),((),(),()))
def Ax (m:Nat) (a:Bool) (b:LI) (c:Bool) (d:LI):Option ud:=(zj m c d).bind λy1=>(cI m a b y1.1.1 y1.1.2.1).bind λy2=>some ((y2.1.1,y2.1.2.1,()),((),(),()))
def lN (m:Nat) (a:Bool) (b:LI) (c:Int):Option ud:=(qE m a b).bind λy1=>bif decide (c>=0)then (vX m y1.1.2.1 c).bind λy2=>(ie m y1.1.1 y2.1).bind λy3=>some ((y3.1.1,y3.1.2.1,()),((),(),()))else (sY m y1.1.2.1 (wI (0-c))).bind λy4=>(ie m y1.1.1 y4.1.1).bind λy5=>bif y1.1.1 then bif y4.1.2.1 then (cO m 1).bind λy6=>(Ax m y5.1.1 y5.1.2.1 y6.1.1 y6.1.2.1).bind λy7=>some ((y7.1.1,y7.1.2.1,()),((),(),()))else some ((y5.1.1,y5.1.2.1,()),((),(),()))else some ((y5.1.1,y5.1.2.1,()),((),(),()))
def nM (m:Nat):Nat->Int->Bool->LI->Bool->LI->Option tq
 |0,_,_,_,_,_=>none
 |n+1,a,b,c,d,f=>bif decide (a>1048576)then (lN m b c (-1048576)).bind λy1=>nM m n (wI (a-1048576)) y1.1.1 y1.1.2.1 d f else some (.inl (a,(b,c,()),(d,f,()),()))
def o8 (m:Nat) (a:Bool) (b:LI) (c:Int):Option ud:=(nM m m c a b false ([]:LI)).bind λy1=>match y1 with
 | .inl z2=>(lN m z2.2.1.1 z2.2.1.2.1 (wI (0-z2.1))).bind λy3=>some ((y3.1.1,y3.1.2.1,()),((),(),()))
 | .inr e=>e.elim
def sX (m:Nat) (a:Int):Option l7:=bif decide (a>=65536)then bif decide ((az .u32 a 16)>=256)then if 0<=(b9 (az .u32 (az .u32 a 16) 8))/\(b9 (az .u32 (az .u32 a 16) 8))<(Qi.length:Int)then some (wI (24+(wI (Qi.getD (b9 (az .u32 (az .u32 a 16) 8)).toNat 0))),((),()))else none else if 0<=(b9 (az .u32 a 16))/\(b9 (az .u32 a 16))<(Qi.length:Int)then some (wI (16+(wI (Qi.getD (b9 (az .u32 a 16)).toNat 0))),((),()))else none else bif decide (a>=256)then if 0<=(b9 (az .u32 a 8))/\(b9 (az .u32 a 8))<(Qi.length:Int)then some (wI (8+(wI (Qi.getD (b9 (az .u32 a 8)).toNat 0))),((),()))else none else if 0<=(b9 a)/\(b9 a)<(Qi.length:Int)then some (wI (0+(wI (Qi.getD (b9 a).toNat 0))),((),()))else none
def v5 (m:Nat) (a:Bool) (b:LI):Option l7:=(nK m b).bind λy1=>bif (y1.1.length:Int)==0 then some (0,((),()))else if 0<=(wI ((y1.1.length:Int)-1))/\(wI ((y1.1.length:Int)-1))<(y1.1.length:Int)then (sX m (y1.1.getD (0+(wI ((y1.1.length:Int)-1)).toNat) 0)).bind λy2=>some (wI ((wI (32*(wI ((y1.1.length:Int)-1))))+y2.1),((),()))else none
def lO (m:Nat) (a:Bool) (b:LI) (c:Int):Option PA:=(qE m a b).bind λy1=>bif (y1.1.2.1.length:Int)==0 then some ((false,false,[],0,()),((),(),()))else bif decide (c>65536)then (qI m).bind λy2=>some ((y2.1.1,y2.1.2.1,y2.1.2.2.1,y2.1.2.2.2.1,()),((),(),()))else (eX m y1.1.1 y1.1.2.1).bind λy3=>(s6 m y1.1.1 y1.1.2.1).bind λy4=>(o8 m y4.1.1 y4.1.2.1 y3.1).bind λy5=>bif decide ((wI (c+y3.1))<(-65536))then (qI m).bind λy6=>some ((y6.1.1,y6.1.2.1,y6.1.2.2.1,y6.1.2.2.2.1,()),((),(),()))else (v5 m y5.1.1 y5.1.2.1).bind λy7=>bif decide ((wI ((wI (c+y3.1))+y7.1))>65536)then (qI m).bind λy8=>some ((y8.1.1,y8.1.2.1,y8.1.2.2.1,y8.1.2.2.2.1,()),((),(),()))else some ((false,a,y5.1.2.1,wI (c+y3.1),()),((),(),()))
def KM (m:Nat) (a:Int):Option xW:=(cO m a).bind λy1=>(lO m y1.1.1 y1.1.2.1 0).bind λy2=>some ((y2.1.1,y2.1.2.1,y2.1.2.2.1,y2.1.2.2.2.1,()),((),()))
def qK (m:Nat) (a:Bool) (b:Bool) (c:LI) (d:Int):Option xW:=bif a then (qI m).bind λy1=>some ((y1.1.1,y1.1.2.1,y1.1.2.2.1,y1.1.2.2.2.1,()),((),()))else (lO m b c d).bind λy2=>some ((y2.1.1,y2.1.2.1,y2.1.2.2.1,y2.1.2.2.2.1,()),((),()))
def dX (m:Nat) (a:Bool) (b:LI):Option l7:=(qE m a b).bind λy1=>bif (y1.1.2.1.length:Int)==0 then some (0,((),()))else bif y1.1.1 then some ((-1),((),()))else some (1,((),()))
def dz (m:Nat) (a:Bool) (b:Int):Option jY:=bif a then some (bc .u64 b 9223372036854775808,((),(),()))else some (b,((),(),()))
def mi (m:Nat) (a:Bool) (b:Int):Option jY:=bif b==3 then (dz m a 9218868437227405311).bind λy1=>some (y1.1,((),(),()))else bif b==1 then bif !a then (dz m a 9218868437227405311).bind λy2=>some (y2.1,((),(),()))else bif b==2 then bif a then (dz m a 9218868437227405311).bind λy3=>some (y3.1,((),(),()))else (dz m a 9218868437227405312).bind λy4=>some (y4.1,((),(),()))else (dz m a 9218868437227405312).bind λy5=>some (y5.1,((),(),()))else bif b==2 then bif a then (dz m a 9218868437227405311).bind λy6=>some (y6.1,((),(),()))else (dz m a 9218868437227405312).bind λy7=>some (y7.1,((),(),()))else (dz m a 9218868437227405312).bind λy8=>some (y8.1,((),(),()))
def qq (m:Nat) (a:Bool) (b:LI) (c:Int):Option xD:=(nK m b).bind λy1=>(sY m y1.1 c).bind λy2=>some (y2.1.2.1,((),(),()))
def da (m:Nat) (a:Bool) (b:Int) (c:Bool) (d:Int):Option (Bool×Unit×Unit×Unit×Unit×Unit):=bif d==1 then some (a,((),(),(),(),()))else bif d==2 then some (!a,((),(),(),(),()))else bif d==3 then some (false,((),(),(),(),()))else bif decide (b>0)then some (true,((),(),(),(),()))else bif b==0 then some (c,((),(),(),(),()))else some (false,((),(),(),(),()))
def v3 (m:Nat) (a:Bool) (b:Bool) (c:LI) (d:Int) (f:Bool) (h:Int):Option (n9×Unit×Unit×Unit×Unit×Unit×Unit):=(o8 m b c d).bind λy1=>(qq m b c d).bind λy2=>bif !y2.1 then bif !f then some ((y1.1.1,y1.1.2.1,()),((),(),(),(),(),()))else bif decide (d>0)then (o8 m b c (wI (d-1))).bind λy3=>(eX m y3.1.1 y3.1.2.1).bind λy4=>bif y4.1==0 then (dX m y3.1.1 y3.1.2.1).bind λy5=>bif y5.1 !=0 then bif f then (dX m y1.1.1 y1.1.2.1).bind λy6=>bif y6.1 !=0 then (eX m y1.1.1 y1.1.2.1).bind λy7=>(da m a 1 (y7.1==0) h).bind λy8=>bif y8.1 then (cO m 1).bind λy9=>(cI m y1.1.1 y1.1.2.1 y9.1.1 y9.1.2.1).bind λy10=>some ((y10.1.1,y10.1.2.1,()),((),(),(),(),(),()))else some ((y1.1.1,y1.1.2.1,()),((),(),(),(),(),()))else (da m a 1 false h).bind λy11=>bif y11.1 then (cO m 1).bind λy12=>(cI m y1.1.1 y1.1.2.1 y12.1.1 y12.1.2.1).bind λy13=>some ((y13.1.1,y13.1.2.1,()),((),(),(),(),(),()))else some ((y1.1.1,y1.1.2.1,()),((),(),(),(),(),()))else (qq m b c (wI (d-1))).bind λy14=>bif y14.1 then (dX m y1.1.1 y1.1.2.1).bind λy15=>bif y15.1 !=0 then (eX m y1.1.1 y1.1.2.1).bind λy16=>(da m a 1 (y16.1==0) h).bind λy17=>bif y17.1 then (cO m 1).bind λy18=>(cI m y1.1.1 y1.1.2.1 y18.1.1 y18.1.2.1).bind λy19=>some ((y19.1.1,y19.1.2.1,()),((),(),(),(),(),()))else some ((y1.1.1,y1.1.2.1,()),((),(),(),(),(),()))else (da m a 1 false h).bind λy20=>bif y20.1 then (cO m 1).bind λy21=>(cI m y1.1.1 y1.1.2.1 y21.1.1 y21.1.2.1).bind λy22=>some ((y22.1.1,y22.1.2.1,()),((),(),(),(),(),()))else some ((y1.1.1,y1.1.2.1,()),((),(),(),(),(),()))else (dX m y1.1.1 y1.1.2.1).bind λy23=>bif y23.1 !=0 then (eX m y1.1.1 y1.1.2.1).bind λy24=>(da m a 0 (y24.1==0) h).bind λy25=>bif y25.1 then (cO m 1).bind λy26=>(cI m y1.1.1 y1.1.2.1 y26.1.1 y26.1.2.1).bind λy27=>some ((y27.1.1,y27.1.2.1,()),((),(),(),(),(),()))else some ((y1.1.1,y1.1.2.1,()),((),(),(),(),(),()))else (da m a 0 false h).bind λy28=>bif y28.1 then (cO m 1).bind λy29=>(cI m y1.1.1 y1.1.2.1 y29.1.1 y29.1.2.1).bind λy30=>some ((y30.1.1,y30.1.2.1,()),((),(),(),(),(),()))else some ((y1.1.1,y1.1.2.1,()),((),(),(),(),(),()))else (dX m y1.1.1 y1.1.2.1).bind λy31=>bif y31.1 !=0 then (eX m y1.1.1 y1.1.2.1).bind λy32=>(da m a (-1) (y32.1==0) h).bind λy33=>bif y33.1 then (cO m 1).bind λy34=>(cI m y1.1.1 y1.1.2.1 y34.1.1 y34.1.2.1).bind λy35=>some ((y35.1.1,y35.1.2.1,()),((),(),(),(),(),()))else some ((y1.1.1,y1.1.2.1,()),((),(),(),(),(),()))else (da m a (-1) false h).bind λy36=>bif y36.1 then (cO m 1).bind λy37=>(cI m y1.1.1 y1.1.2.1 y37.1.1 y37.1.2.1).bind λy38=>some ((y38.1.1,y38.1.2.1,()),((),(),(),(),(),()))else some ((y1.1.1,y1.1.2.1,()),((),(),(),(),(),()))else (dX m y1.1.1 y1.1.2.1).bind λy39=>bif y39.1 !=0 then (eX m y1.1.1 y1.1.2.1).bind λy40=>(da m a (-1) (y40.1==0) h).bind λy41=>bif y41.1 then (cO m 1).bind λy42=>(cI m y1.1.1 y1.1.2.1 y42.1.1 y42.1.2.1).bind λy43=>some ((y43.1.1,y43.1.2.1,()),((),(),(),(),(),()))else some ((y1.1.1,y1.1.2.1,()),((),(),(),(),(),()))else (da m a (-1) false h).bind λy44=>bif y44.1 then (cO m 1).bind λy45=>(cI m y1.1.1 y1.1.2.1 y45.1.1 y45.1.2.1).bind λy46=>some ((y46.1.1,y46.1.2.1,()),((),(),(),(),(),()))else some ((y1.1.1,y1.1.2.1,()),((),(),(),(),(),()))else (dX m y1.1.1 y1.1.2.1).bind λy47=>bif y47.1 !=0 then (eX m y1.1.1 y1.1.2.1).bind λy48=>(da m a (-1) (y48.1==0) h).bind λy49=>bif y49.1 then (cO m 1).bind λy50=>(cI m y1.1.1 y1.1.2.1 y50.1.1 y50.1.2.1).bind λy51=>some ((y51.1.1,y51.1.2.1,()),((),(),(),(),(),()))else some ((y1.1.1,y1.1.2.1,()),((),(),(),(),(),()))else (da m a (-1) false h).bind λy52=>bif y52.1 then (cO m 1).bind λy53=>(cI m y1.1.1 y1.1.2.1 y53.1.1 y53.1.2.1).bind λy54=>some ((y54.1.1,y54.1.2.1,()),((),(),(),(),(),()))else some ((y1.1.1,y1.1.2.1,()),((),(),(),(),(),()))else bif decide (d>0)then (o8 m b c (wI (d-1))).bind λy55=>(eX m y55.1.1 y55.1.2.1).bind λy56=>bif y56.1==0 then (dX m y55.1.1 y55.1.2.1).bind λy57=>bif y57.1 !=0 then bif f then (dX m y1.1.1 y1.1.2.1).bind λy58=>bif y58.1 !=0 then (eX m y1.1.1 y1.1.2.1).bind λy59=>(da m a 1 (y59.1==0) h).bind λy60=>bif y60.1 then (cO m 1).bind λy61=>(cI m y1.1.1 y1.1.2.1 y61.1.1 y61.1.2.1).bind λy62=>some ((y62.1.1,y62.1.2.1,()),((),(),(),(),(),()))else some ((y1.1.1,y1.1.2.1,()),((),(),(),(),(),()))else (da m a 1 false h).bind λy63=>bif y63.1 then (cO m 1).bind λy64=>(cI m y1.1.1 y1.1.2.1 y64.1.1 y64.1.2.1).bind λy65=>some ((y65.1.1,y65.1.2.1,()),((),(),(),(),(),()))else some ((y1.1.1,y1.1.2.1,()),((),(),(),(),(),()))else (qq m b c (wI (d-1))).bind λy66=>bif y66.1 then (dX m y1.1.1 y1.1.2.1).bind λy67=>bif y67.1 !=0 then (eX m y1.1.1 y1.1.2.1).bind λy68=>(da m a 1 (y68.1==0) h).bind λy69=>bif y69.1 then (cO m 1).bind λy70=>(cI m y1.1.1 y1.1.2.1 y70.1.1 y70.1.2.1).bind λy71=>some ((y71.1.1,y71.1.2.1,()),((),(),(),(),(),()))else some ((y1.1.1,y1.1.2.1,()),((),(),(),(),(),()))else (da m a 1 false h).bind λy72=>bif y72.1 then (cO m 1).bind λy73=>(cI m y1.1.1 y1.1.2.1 y73.1.1 y73.1.2.1).bind λy74=>some ((y74.1.1,y74.1.2.1,()),((),(),(),(),(),()))else some ((y1.1.1,y1.1.2.1,()),((),(),(),(),(),()))else (dX m y1.1.1 y1.1.2.1).bind λy75=>bif y75.1 !=0 then (eX m y1.1.1 y1.1.2.1).bind λy76=>(da m a 0 (y76.1==0) h).bind λy77=>bif y77.1 then (cO m 1).bind λy78=>(cI m y1.1.1 y1.1.2.1 y78.1.1 y78.1.2.1).bind λy79=>some ((y79.1.1,y79.1.2.1,()),((),(),(),(),(),()))else some ((y1.1.1,y1.1.2.1,()),((),(),(),(),(),()))else (da m a 0 false h).bind λy80=>bif y80.1 then (cO m 1).bind λy81=>(cI m y1.1.1 y1.1.2.1 y81.1.1 y81.1.2.1).bind λy82=>some ((y82.1.1,y82.1.2.1,()),((),(),(),(),(),()))else some ((y1.1.1,y1.1.2.1,()),((),(),(),(),(),()))else (dX m y1.1.1 y1.1.2.1).bind λy83=>bif y83.1 !=0 then (eX m y1.1.1 y1.1.2.1).bind λy84=>(da m a (-1) (y84.1==0) h).bind λy85=>bif y85.1 then (cO m 1).bind λy86=>(cI m y1.1.1 y1.1.2.1 y86.1.1 y86.1.2.1).bind λy87=>some ((y87.1.1,y87.1.2.1,()),((),(),(),(),(),()))else some ((y1.1.1,y1.1.2.1,()),((),(),(),(),(),()))else (da m a (-1) false h).bind λy88=>bif y88.1 then (cO m 1).bind λy89=>(cI m y1.1.1 y1.1.2.1 y89.1.1 y89.1.2.1).bind λy90=>some ((y90.1.1,y90.1.2.1,()),((),(),(),(),(),()))else some ((y1.1.1,y1.1.2.1,()),((),(),(),(),(),()))else (dX m y1.1.1 y1.1.2.1).bind λy91=>bif y91.1 !=0 then (eX m y1.1.1 y1.1.2.1).bind λy92=>(da m a (-1) (y92.1==0) h).bind λy93=>bif y93.1 then (cO m 1).bind λy94=>(cI m y1.1.1 y1.1.2.1 y94.1.1 y94.1.2.1).bind λy95=>some ((y95.1.1,y95.1.2.1,()),((),(),(),(),(),()))else some ((y1.1.1,y1.1.2.1,()),((),(),(),(),(),()))else (da m a (-1) false h).bind λy96=>bif y96.1 then (cO m 1).bind λy97=>(cI m y1.1.1 y1.1.2.1 y97.1.1 y97.1.2.1).bind λy98=>some ((y98.1.1,y98.1.2.1,()),((),(),(),(),(),()))else some ((y1.1.1,y1.1.2.1,()),((),(),(),(),(),()))else (dX m y1.1.1 y1.1.2.1).bind λy99=>bif y99.1 !=0 then (eX m y1.1.1 y1.1.2.1).bind λy100=>(da m a (-1) (y100.1==0) h).bind λy101=>bif y101.1 then (cO m 1).bind λy102=>(cI m y1.1.1 y1.1.2.1 y102.1.1 y102.1.2.1).bind λy103=>some ((y103.1.1,y103.1.2.1,()),((),(),(),(),(),()))else some ((y1.1.1,y1.1.2.1,()),((),(),(),(),(),()))else (da m a (-1) false h).bind λy104=>bif y104.1 then (cO m 1).bind λy105=>(cI m y1.1.1 y1.1.2.1 y105.1.1 y105.1.2.1).bind λy106=>some ((y106.1.1,y106.1.2.1,()),((),(),(),(),(),()))else some ((y1.1.1,y1.1.2.1,()),((),(),(),(),(),()))
def iQ (m:Nat):Nat->Bool->LI->Int->Int->Option T9
 |0,_,_,_,_=>none
 |n+1,a,b,c,d=>bif decide (d<(b.length:Int))then if 0<=d/\d<(b.length:Int)then if 0<=(wI (32*d))then iQ m n a b (bc .u64 c (bu .u64 (wJ (b.getD d.toNat 0)) (wI (32*d)))) (wI (d+1))else none else none else some (.inl ((a,b,()),c,()))
def o7 (m:Nat) (a:Bool) (b:LI):Option T7:=(qE m a b).bind λy1=>bif decide ((y1.1.2.1.length:Int)>2)then some ((0,false,()),((),()))else (iQ m m y1.1.1 y1.1.2.1 0 0).bind λy2=>match y2 with
  | .inl z3=>bif z3.1.1 then bif decide (z3.2.1>9223372036854775808)then some ((0,false,()),((),()))else some ((wI ((wI (0-(wI (wJ (z3.2.1-1)))))-1),true,()),((),()))else bif decide (z3.2.1>9223372036854775807)then some ((0,false,()),((),()))else some ((wI z3.2.1,true,()),((),()))
  | .inr e=>e.elim
def Bu (m:Nat) (a:Bool) (b:Bool) (c:LI) (d:Int) (f:Bool) (h:Int):Option (Int×Unit×Unit×Unit×Unit×Unit×Unit):=(v5 m b c).bind λy1=>bif decide ((wI ((wI (d+y1.1))-1))>=1024)then (mi m a h).bind λy2=>some (y2.1,((),(),(),(),(),()))else bif decide ((if(-1074)>(wI ((wI ((wI (d+y1.1))-1))-52))then(-1074)else(wI ((wI ((wI (d+y1.1))-1))-52)))>=d)then (v3 m a b c (wI ((if(-1074)>(wI ((wI ((wI (d+y1.1))-1))-52))then(-1074)else(wI ((wI ((wI (d+y1.1))-1))-52)))-d)) f h).bind λy3=>(o7 m y3.1.1 y3.1.2.1).bind λy4=>bif y4.1.1==9007199254740992 then bif decide ((wI ((wI ((if(-1074)>(wI ((wI ((wI (d+y1.1))-1))-52))then(-1074)else(wI ((wI ((wI (d+y1.1))-1))-52)))+1))+53))>1024)then (mi m a h).bind λy5=>some (y5.1,((),(),(),(),(),()))else (dz m a (bc .u64 (bu .u64 (wJ (wI ((wI ((if(-1074)>(wI ((wI ((wI (d+y1.1))-1))-52))then(-1074)else(wI ((wI ((wI (d+y1.1))-1))-52)))+1))+1075))) 52) 0)).bind λy6=>some (y6.1,((),(),(),(),(),()))else bif decide (y4.1.1>=4503599627370496)then bif decide ((wI ((if(-1074)>(wI ((wI ((wI (d+y1.1))-1))-52))then(-1074)else(wI ((wI ((wI (d+y1.1))-1))-52)))+53))>1024)then (mi m a h).bind λy7=>some (y7.1,((),(),(),(),(),()))else bif decide (y4.1.1>=4503599627370496)then (dz m a (bc .u64 (bu .u64 (wJ (wI ((if(-1074)>(wI ((wI ((wI (d+y1.1))-1))-52))then(-1074)else(wI ((wI ((wI (d+y1.1))-1))-52)))+1075))) 52) (wJ (wI (y4.1.1-4503599627370496))))).bind λy8=>some (y8.1,((),(),(),(),(),()))else (dz m a (wJ y4.1.1)).bind λy9=>some (y9.1,((),(),(),(),(),()))else bif decide (y4.1.1>=4503599627370496)then (dz m a (bc .u64 (bu .u64 (wJ (wI ((if(-1074)>(wI ((wI ((wI (d+y1.1))-1))-52))then(-1074)else(wI ((wI ((wI (d+y1.1))-1))-52)))+1075))) 52) (wJ (wI (y4.1.1-4503599627370496))))).bind λy10=>some (y10.1,((),(),(),(),(),()))else (dz m a (wJ y4.1.1)).bind λy11=>some (y11.1,((),(),(),(),(),()))else (lN m b c (wI (d-(if(-1074)>(wI ((wI ((wI (d+y1.1))-1))-52))then(-1074)else(wI ((wI ((wI (d+y1.1))-1))-52)))))).bind λy12=>(o7 m y12.1.1 y12.1.2.1).bind λy13=>bif y13.1.1==9007199254740992 then bif decide ((wI ((wI ((if(-1074)>(wI ((wI ((wI (d+y1.1))-1))-52))then(-1074)else(wI ((wI ((wI (d+y1.1))-1))-52)))+1))+53))>1024)then (mi m a h).bind λy14=>some (y14.1,((),(),(),(),(),()))else (dz m a (bc .u64 (bu .u64 (wJ (wI ((wI ((if(-1074)>(wI ((wI ((wI (d+y1.1))-1))-52))then(-1074)else(wI ((wI ((wI (d+y1.1))-1))-52)))+1))+1075))) 52) 0)).bind λy15=>some (y15.1,((),(),(),(),(),()))else bif decide (y13.1.1>=4503599627370496)then bif decide ((wI ((if(-1074)>(wI ((wI ((wI (d+y1.1))-1))-52))then(-1074)else(wI ((wI ((wI (d+y1.1))-1))-52)))+53))>1024)then (mi m a h).bind λy16=>some (y16.1,((),(),(),(),(),()))else bif decide (y13.1.1>=4503599627370496)then (dz m a (bc .u64 (bu .u64 (wJ (wI ((if(-1074)>(wI ((wI ((wI (d+y1.1))-1))-52))then(-1074)else(wI ((wI ((wI (d+y1.1))-1))-52)))+1075))) 52) (wJ (wI (y13.1.1-4503599627370496))))).bind λy17=>some (y17.1,((),(),(),(),(),()))else (dz m a (wJ y13.1.1)).bind λy18=>some (y18.1,((),(),(),(),(),()))else bif decide (y13.1.1>=4503599627370496)then (dz m a (bc .u64 (bu .u64 (wJ (wI ((if(-1074)>(wI ((wI ((wI (d+y1.1))-1))-52))then(-1074)else(wI ((wI ((wI (d+y1.1))-1))-52)))+1075))) 52) (wJ (wI (y13.1.1-4503599627370496))))).bind λy19=>some (y19.1,((),(),(),(),(),()))else (dz m a (wJ y13.1.1)).bind λy20=>some (y20.1,((),(),(),(),(),()))
def KI (m:Nat) (a:Bool) (b:Bool) (c:LI) (d:Int) (f:Int):Option jY:=(qK m a b c d).bind λy1=>bif y1.1.1 then some (9221120237041090560,((),(),()))else (dX m y1.1.2.1 y1.1.2.2.1).bind λy2=>bif y2.1==0 then some (0,((),(),()))else (s6 m y1.1.2.1 y1.1.2.2.1).bind λy3=>(Bu m y1.1.2.1 y3.1.1 y3.1.2.1 y1.1.2.2.2.1 false f).bind λy4=>some (y4.1,((),(),()))
def LY (m:Nat) (a:Int) (b:Int):Option jY:=(KM m a).bind λy1=>(KI m y1.1.1 y1.1.2.1 y1.1.2.2.1 y1.1.2.2.2.1 b).bind λy2=>some (y2.1,((),(),()))
def ph (m:Nat) (a:Int):Option l7:=(LY m (wI ((wI (Int.tmod a 19))-9)) 0).bind λy1=>some (y1.1,((),()))
def KC (m:Nat) (a:Int) (b:Int):Option jY:=(Bw m b 4).bind λy1=>bif y1.1==1 then some (bc .u64 (qp .u64 a 9227875636482146303) (bu .u64 (wJ (1019+(qp .u64 (az .u64 a 52) 7))) 52),((),(),()))else bif y1.1==2 then some (bc .u64 (qp .u64 a 9225623836668461056) (bu .u64 (wJ (983+(Int.tmod (az .u64 a 8) 81))) 52),((),(),()))else bif y1.1==3 then (qJ m a).bind λy2=>bif !y2.1 then some (0,((),(),()))else some (a,((),(),()))else (ph m a).bind λy3=>some (y3.1,((),(),()))
def nk (m:Nat):Nat->LI->Int->Int->Int->Int->Int->LI->LI->LI->Int->Int->LI->LI->LI->Int->Int->Option ((LI×Int×Int×Int×gU×gU×Int×Unit)⊕Empty)
 |0,_,_,_,_,_,_,_,_,_,_,_,_,_,_,_,_=>none
 |n+1,a,b,c,d,f,h,i,j,k,l,o,p,q,r,s,t=>bif decide (t<b)then (Ie m a (wI ((wI (100+(wI (s*b))))+t))).bind λy1=>bif decide ((Int.tmod (az .u64 y1.1 40) 3)>0)then if q.length+([t]:LI).length<=1073741824 then (KC m y1.1 d).bind λy2=>if r.length+([y2.1]:LI).length<=1073741824 then nk m n a b c d f h i j k l o p (q++([t]:LI)) (r++([y2.1]:LI)) s (wI (t+1))else none else none else nk m n a b c d f h i j k l o p q r s (wI (t+1))else some (.inl (a,b,c,d,(f,h,i,j,k,()),(l,o,p,q,r,()),s,()))
def oX (m:Nat):Nat->LI->Int->Int->Int->Int->Int->LI->LI->LI->Int->Int->LI->LI->LI->Int->Option tV
 |0,_,_,_,_,_,_,_,_,_,_,_,_,_,_,_=>none
 |n+1,a,b,c,d,f,h,i,j,k,l,o,p,q,r,s=>bif decide (s<c)then (nk m m a b c d f h i j k l o p q r s 0).bind λy1=>match y1 with
   | .inl z2=>if z2.2.2.2.2.2.1.2.2.1.length+([(z2.2.2.2.2.2.1.2.2.2.1.length:Int)]:LI).length<=1073741824 then oX m n z2.1 z2.2.1 z2.2.2.1 z2.2.2.2.1 z2.2.2.2.2.1.1 z2.2.2.2.2.1.2.1 z2.2.2.2.2.1.2.2.1 z2.2.2.2.2.1.2.2.2.1 z2.2.2.2.2.1.2.2.2.2.1 z2.2.2.2.2.2.1.1 z2.2.2.2.2.2.1.2.1 (z2.2.2.2.2.2.1.2.2.1++([(z2.2.2.2.2.2.1.2.2.2.1.length:Int)]:LI)) z2.2.2.2.2.2.1.2.2.2.1 z2.2.2.2.2.2.1.2.2.2.2.1 (wI (z2.2.2.2.2.2.2.1+1))else none
   | .inr e=>e.elim else some (.inl ((f,h,i,j,k,()),(l,o,p,q,r,()),()))
def Ph (m:Nat) (a:LI) (b:Int) (c:Int) (d:Int):Option (gU×Unit×Unit×Unit×Unit×Unit):=(oX m m a b c d 0 0 ([]:LI) ([]:LI) ([]:LI) b c ([0]:LI) ([]:LI) ([]:LI) 0).bind λy1=>match y1 with
 | .inl z2=>some ((z2.2.1.1,z2.2.1.2.1,z2.2.1.2.2.1,z2.2.1.2.2.2.1,z2.2.1.2.2.2.2.1,()),((),(),(),(),()))
 | .inr e=>e.elim
def lE (m:Nat):Nat->LI->Int->Option xE
 |0,_,_=>none
 |n+1,a,b=>bif decide (b<(a.length:Int))then if 0<=b/\b<(a.length:Int)then (qJ m (a.getD b.toNat 0)).bind λy1=>bif !y1.1 then some (.inl (false,()))else lE m n a (wI (b+1))else none else some (.inr (.inl ()))
def AM (m:Nat) (a:LI):Option pU:=(lE m m a 0).bind λy1=>match y1 with
 | .inl z2=>some (z2.1,((),()))
 | .inr (.inl z3)=>some (true,((),()))
 | .inr (.inr e)=>e.elim
def iZ (m:Nat):Nat->Int->Int->LI->LI->LI->Int->Int->Option (Ca⊕Pz⊕Empty)
 |0,_,_,_,_,_,_,_=>none
 |n+1,a,b,c,d,f,h,i=>if 0<=(wI (h+1))/\(wI (h+1))<(c.length:Int)then bif decide (i<(c.getD (wI (h+1)).toNat 0))then if 0<=i/\i<(d.length:Int)then bif decide ((d.getD i.toNat 0)<0)then some (.inl (1,()))else if 0<=i/\i<(d.length:Int)then bif decide ((d.getD i.toNat 0)>=a)then some (.inl (1,()))else if 0<=h/\h<(c.length:Int)then bif decide (i>(c.getD h.toNat 0))then if 0<=i/\i<(d.length:Int)then if 0<=(wI (i-1))/\(wI (i-1))<(d.length:Int)then bif decide ((d.getD i.toNat 0)<=(d.getD (wI (i-1)).toNat 0))then some (.inl (1,()))else iZ m n a b c d f h (wI (i+1))else none else none else iZ m n a b c d f h (wI (i+1))else none else none else none else some (.inr (.inl ((a,b,c,d,f,()),h,())))else none
def lP (m:Nat):Nat->Int->Int->LI->LI->LI->Int->Option tZ
 |0,_,_,_,_,_,_=>none
 |n+1,a,b,c,d,f,h=>bif decide (h<b)then if 0<=h/\h<(c.length:Int)then (iZ m m a b c d f h (c.getD h.toNat 0)).bind λy1=>match y1 with
   | .inl z2=>some (.inl (z2.1,()))
   | .inr (.inl z3)=>lP m n z3.1.1 z3.1.2.1 z3.1.2.2.1 z3.1.2.2.2.1 z3.1.2.2.2.2.1 (wI (z3.2.1+1))
   | .inr (.inr e)=>e.elim else none else some (.inr (.inl ((a,b,c,d,f,()),())))
def lQ (m:Nat):Nat->Int->Int->LI->LI->LI->Int->Option tZ
 |0,_,_,_,_,_,_=>none
 |n+1,a,b,c,d,f,h=>bif decide (h<b)then if 0<=h/\h<(c.length:Int)then if 0<=(wI (h+1))/\(wI (h+1))<(c.length:Int)then bif decide ((c.getD h.toNat 0)>(c.getD (wI (h+1)).toNat 0))then some (.inl (1,()))else lQ m n a b c d f (wI (h+1))else none else none else some (.inr (.inl ((a,b,c,d,f,()),())))
def wM (m:Nat) (a:Int) (b:Int) (c:LI) (d:LI) (f:LI):Option l7:=bif decide (a<0)then some (6,((),()))else bif decide (a>200)then some (6,((),()))else bif decide (b<0)then some (6,((),()))else bif decide (b>200)then some (6,((),()))else bif decide ((d.length:Int)>10000)then some (6,((),()))else bif (f.length:Int) !=(d.length:Int)then some (1,((),()))else bif (c.length:Int) !=(wI (b+1))then some (1,((),()))else if(0:Int)<=0/\0<(c.length:Int)then bif (c.getD 0 0) !=0 then some (1,((),()))else if 0<=b/\b<(c.length:Int)then bif (c.getD b.toNat 0) !=(d.length:Int)then some (1,((),()))else (lQ m m a b c d f 0).bind λy1=>match y1 with
        | .inl z2=>some (z2.1,((),()))
        | .inr (.inl z3)=>(lP m m z3.1.1 z3.1.2.1 z3.1.2.2.1 z3.1.2.2.2.1 z3.1.2.2.2.2.1 0).bind λy4=>match y4 with
         | .inl z5=>some (z5.1,((),()))
         | .inr (.inl z6)=>(AM m z6.1.2.2.2.2.1).bind λy7=>bif !y7.1 then some (4,((),()))else some (0,((),()))
         | .inr (.inr e)=>e.elim
        | .inr (.inr e)=>e.elim else none else none
def m9 (m:Nat):Nat->Int->Int->Int->Int->LI->LI->LI->Int->Option ub
 |0,_,_,_,_,_,_,_,_=>none
 |n+1,a,b,c,d,f,h,i,j=>if 0<=(wI (b+1))/\(wI (b+1))<(f.length:Int)then bif decide (j<(f.getD (wI (b+1)).toNat 0))then if 0<=j/\j<(h.length:Int)then bif (h.getD j.toNat 0)==a then if 0<=j/\j<(i.length:Int)then some (.inl (i.getD j.toNat 0,()))else none else m9 m n a b c d f h i (wI (j+1))else none else some (.inr (.inl ()))else none
def If (m:Nat) (a:Int) (b:Int) (c:LI) (d:LI) (f:LI) (h:Int) (i:Int):Option (Int×Unit×Unit×Unit×Unit):=(wM m a b c d f).bind λy1=>bif y1.1 !=0 then some (0,((),(),(),()))else bif decide (i<0)then some (0,((),(),(),()))else bif decide (i>=b)then some (0,((),(),(),()))else if 0<=i/\i<(c.length:Int)then (m9 m m h i a b c d f (c.getD i.toNat 0)).bind λy2=>match y2 with
    | .inl z3=>some (z3.1,((),(),(),()))
    | .inr (.inl z4)=>some (0,((),(),(),()))
    | .inr (.inr e)=>e.elim else none
def Bx (m:Nat) (a:Int):Option pU:=some ((qp .u64 a 9223372036854775808) !=0,((),()))
def Pe (m:Nat) (a:Int):Option xW:=(qJ m a).bind λy1=>bif !y1.1 then (qI m).bind λy2=>some ((y2.1.1,y2.1.2.1,y2.1.2.2.1,y2.1.2.2.2.1,()),((),()))else bif decide ((wI (qp .u64 (az .u64 a 52) 2047))>0)then (Bx m a).bind λy3=>(lO m y3.1 ([wK (bc .u64 (qp .u64 a 4503599627370495) 4503599627370496),wK (az .u64 (bc .u64 (qp .u64 a 4503599627370495) 4503599627370496) 32)]:LI) (wI ((wI (qp .u64 (az .u64 a 52) 2047))-1075))).bind λy4=>some ((y4.1.1,y4.1.2.1,y4.1.2.2.1,y4.1.2.2.2.1,()),((),()))else (Bx m a).bind λy5=>(lO m y5.1 ([wK (qp .u64 a 4503599627370495),wK (az .u64 (qp .u64 a 4503599627370495) 32)]:LI) (-1074)).bind λy6=>some ((y6.1.1,y6.1.2.1,y6.1.2.2.1,y6.1.2.2.2.1,()),((),()))
def Pf (m:Nat) (a:Bool) (b:Bool) (c:LI) (d:Int):Option xW:=(qK m a b c d).bind λy1=>bif y1.1.1 then some ((y1.1.1,y1.1.2.1,y1.1.2.2.1,y1.1.2.2.2.1,()),((),()))else (s6 m y1.1.2.1 y1.1.2.2.1).bind λy2=>(lO m y2.1.1 y2.1.2.1 y1.1.2.2.2.1).bind λy3=>some ((y3.1.1,y3.1.2.1,y3.1.2.2.1,y3.1.2.2.2.1,()),((),()))
def jG (m:Nat):Nat->mc->Bool->Bool->LI->Int->Bool->LI->Int->Int->Option (NL⊕(oc×n9×Int×Unit)⊕Empty)
 |0,_,_,_,_,_,_,_,_,_=>none
 |n+1,a,b,c,d,f,h,i,j,k=>bif decide (k<(a.length:Int))then if 0<=k/\k<(a.length:Int)then (qK m (a.getD k.toNat qz).1 (a.getD k.toNat qz).2.1.1 (a.getD k.toNat qz).2.1.2 (a.getD k.toNat qz).2.2).bind λy1=>bif y1.1.1 then (qI m).bind λy2=>some (.inl ((y2.1.1,y2.1.2.1,y2.1.2.2.1,y2.1.2.2.2.1,()),()))else (dX m y1.1.2.1 y1.1.2.2.1).bind λy3=>bif y3.1==0 then jG m n a b c d f h i j (wI (k+1))else (dX m h i).bind λy4=>bif y4.1==0 then jG m n a b c d f y1.1.2.1 y1.1.2.2.1 y1.1.2.2.2.1 (wI (k+1))else bif decide (y1.1.2.2.2.1>=j)then (lN m y1.1.2.1 y1.1.2.2.1 (wI (y1.1.2.2.2.1-j))).bind λy5=>(cI m h i y5.1.1 y5.1.2.1).bind λy6=>jG m n a b c d f y6.1.1 y6.1.2.1 j (wI (k+1))else (lN m h i (wI (j-y1.1.2.2.2.1))).bind λy7=>(cI m y7.1.1 y7.1.2.1 y1.1.2.1 y1.1.2.2.1).bind λy8=>jG m n a b c d f y8.1.1 y8.1.2.1 y1.1.2.2.2.1 (wI (k+1))else none else some (.inr (.inl ((b,c,d,f,()),(h,i,()),j,())))
def KG (m:Nat) (a:List j9):Option xW:=(jG m m a false false ([]:LI) 0 false ([]:LI) 0 0).bind λy1=>match y1 with
 | .inl z2=>some ((z2.1.1,z2.1.2.1,z2.1.2.2.1,z2.1.2.2.2.1,()),((),()))
 | .inr (.inl z3)=>(lO m z3.2.1.1 z3.2.1.2.1 z3.2.2.1).bind λy4=>some ((y4.1.1,y4.1.2.1,y4.1.2.2.1,y4.1.2.2.2.1,()),((),()))
 | .inr (.inr e)=>e.elim
def oO (m:Nat):Nat->Int->Int->Int->Int->LI->LI->LI->Int->Option xE
 |0,_,_,_,_,_,_,_,_=>none
 |n+1,a,b,c,d,f,h,i,j=>if 0<=(wI (b+1))/\(wI (b+1))<(f.length:Int)then bif decide (j<(f.getD (wI (b+1)).toNat 0))then if 0<=j/\j<(h.length:Int)then bif (h.getD j.toNat 0)==a then some (.inl (true,()))else oO m n a b c d f h i (wI (j+1))else none else some (.inr (.inl ()))else none
def Pd (m:Nat) (a:Int) (b:Int) (c:LI) (d:LI) (f:LI) (h:Int) (i:Int):Option NJ:=bif decide (h<0)then some (false,((),(),(),()))else bif decide (h>=a)then some (false,((),(),(),()))else bif decide (i<0)then some (false,((),(),(),()))else bif decide (i>=b)then some (false,((),(),(),()))else if 0<=i/\i<(c.length:Int)then (oO m m h i a b c d f (c.getD i.toNat 0)).bind λy1=>match y1 with
     | .inl z2=>some (z2.1,((),(),(),()))
     | .inr (.inl z3)=>some (false,((),(),(),()))
     | .inr (.inr e)=>e.elim else none
def np (m:Nat):Nat->Int->Int->Int->LI->LI->LI->Int->Int->LI->LI->LI->Int->Int->LI->LI->LI->Int->Int->mc->Int->Option ((Int×gU×gU×gU×Int×Int×mc×Unit)⊕Empty)
 |0,_,_,_,_,_,_,_,_,_,_,_,_,_,_,_,_,_,_,_,_=>none
 |n+1,a,b,c,d,f,h,i,j,k,l,o,p,q,r,s,t,u,v,w,a0=>bif decide (a0<a)then bif a0 !=v then (If m i j k l o (if a0>v then a0 else v) (if a0<v then a0 else v)).bind λy1=>(Pe m y1.1).bind λy2=>(Pf m y2.1.1 y2.1.2.1 y2.1.2.2.1 y2.1.2.2.2.1).bind λy3=>if w.length+([(y3.1.1,((y3.1.2.1,y3.1.2.2.1),y3.1.2.2.2.1))]:List j9).length<=1073741824 then np m n a b c d f h i j k l o p q r s t u v (w++([(y3.1.1,((y3.1.2.1,y3.1.2.2.1),y3.1.2.2.2.1))]:List j9)) (wI (a0+1))else none else np m n a b c d f h i j k l o p q r s t u v w (wI (a0+1))else some (.inl (a,(b,c,d,f,h,()),(i,j,k,l,o,()),(p,q,r,s,t,()),u,v,w,()))
def lH (m:Nat):Nat->Int->Int->Int->LI->LI->LI->Int->Int->LI->LI->LI->Int->Int->LI->LI->LI->Int->Int->Option ((Int×gU×gU×gU×Int×Unit)⊕Empty)
 |0,_,_,_,_,_,_,_,_,_,_,_,_,_,_,_,_,_,_=>none
 |n+1,a,b,c,d,f,h,i,j,k,l,o,p,q,r,s,t,u,v=>bif decide (v<a)then bif v==u then (KM m 1).bind λy1=>(np m m a b c d f h i j k l o p q r s t u v ([(y1.1.1,((y1.1.2.1,y1.1.2.2.1),y1.1.2.2.2.1))]:List j9) 0).bind λy2=>match y2 with
    | .inl z3=>if z3.2.2.2.1.2.2.2.1.length+([z3.2.2.2.2.2.1]:LI).length<=1073741824 then (KG m z3.2.2.2.2.2.2.1).bind λy4=>(KI m y4.1.1 y4.1.2.1 y4.1.2.2.1 y4.1.2.2.2.1 2).bind λy5=>if z3.2.2.2.1.2.2.2.2.1.length+([y5.1]:LI).length<=1073741824 then lH m n z3.1 z3.2.1.1 z3.2.1.2.1 z3.2.1.2.2.1 z3.2.1.2.2.2.1 z3.2.1.2.2.2.2.1 z3.2.2.1.1 z3.2.2.1.2.1 z3.2.2.1.2.2.1 z3.2.2.1.2.2.2.1 z3.2.2.1.2.2.2.2.1 z3.2.2.2.1.1 z3.2.2.2.1.2.1 z3.2.2.2.1.2.2.1 (z3.2.2.2.1.2.2.2.1++([z3.2.2.2.2.2.1]:LI)) (z3.2.2.2.1.2.2.2.2.1++([y5.1]:LI)) z3.2.2.2.2.1 (wI (z3.2.2.2.2.2.1+1))else none else none
    | .inr e=>e.elim else (Pd m i j k l o v u).bind λy6=>bif y6.1 then if s.length+([v]:LI).length<=1073741824 then (If m i j k l o v u).bind λy7=>if t.length+([y7.1]:LI).length<=1073741824 then lH m n a b c d f h i j k l o p q r (s++([v]:LI)) (t++([y7.1]:LI)) u (wI (v+1))else none else none else lH m n a b c d f h i j k l o p q r s t u (wI (v+1))else some (.inl (a,(b,c,d,f,h,()),(i,j,k,l,o,()),(p,q,r,s,t,()),u,()))
def pf (m:Nat):Nat->Int->Int->Int->LI->LI->LI->Int->Int->LI->LI->LI->Int->Int->LI->LI->LI->Int->Option tV
 |0,_,_,_,_,_,_,_,_,_,_,_,_,_,_,_,_,_=>none
 |n+1,a,b,c,d,f,h,i,j,k,l,o,p,q,r,s,t,u=>bif decide (u<a)then (lH m m a b c d f h i j k l o p q r s t u 0).bind λy1=>match y1 with
   | .inl z2=>if z2.2.2.2.1.2.2.1.length+([(z2.2.2.2.1.2.2.2.1.length:Int)]:LI).length<=1073741824 then pf m n z2.1 z2.2.1.1 z2.2.1.2.1 z2.2.1.2.2.1 z2.2.1.2.2.2.1 z2.2.1.2.2.2.2.1 z2.2.2.1.1 z2.2.2.1.2.1 z2.2.2.1.2.2.1 z2.2.2.1.2.2.2.1 z2.2.2.1.2.2.2.2.1 z2.2.2.2.1.1 z2.2.2.2.1.2.1 (z2.2.2.2.1.2.2.1++([(z2.2.2.2.1.2.2.2.1.length:Int)]:LI)) z2.2.2.2.1.2.2.2.1 z2.2.2.2.1.2.2.2.2.1 (wI (z2.2.2.2.2.1+1))else none
   | .inr e=>e.elim else some (.inl ((b,c,d,f,h,()),(p,q,r,s,t,()),()))
def Po (m:Nat) (a:LI) (b:Int) (c:Int):Option PB:=(Bw m c 3).bind λy1=>(Ph m a b b y1.1).bind λy2=>(pf m m b 0 0 ([]:LI) ([]:LI) ([]:LI) y2.1.1 y2.1.2.1 y2.1.2.2.1 y2.1.2.2.2.1 y2.1.2.2.2.2.1 b b ([0]:LI) ([]:LI) ([]:LI) 0).bind λy3=>match y3 with
 | .inl z4=>some ((z4.2.1.1,z4.2.1.2.1,z4.2.1.2.2.1,z4.2.1.2.2.2.1,z4.2.1.2.2.2.2.1,()),((),(),(),()))
 | .inr e=>e.elim
def oP (m:Nat):Nat->Int->Int->LI->LI->LI->dM->Int->Int->Option ((gU×dM×Int×Unit)⊕Empty)
 |0,_,_,_,_,_,_,_,_=>none
 |n+1,a,b,c,d,f,h,i,j=>if 0<=(wI (i+1))/\(wI (i+1))<(c.length:Int)then bif decide (j<(c.getD (wI (i+1)).toNat 0))then if 0<=j/\j<(d.length:Int)then if 0<=j/\j<(f.length:Int)then if h.length+([(d.getD j.toNat 0,(i,f.getD j.toNat 0))]:List gf).length<=1073741824 then oP m n a b c d f (h++([(d.getD j.toNat 0,(i,f.getD j.toNat 0))]:List gf)) i (wI (j+1))else none else none else none else some (.inl ((a,b,c,d,f,()),h,i,()))else none
def na (m:Nat):Nat->Int->Int->LI->LI->LI->dM->Int->Option FJ
 |0,_,_,_,_,_,_,_=>none
 |n+1,a,b,c,d,f,h,i=>bif decide (i<b)then if 0<=i/\i<(c.length:Int)then (oP m m a b c d f h i (c.getD i.toNat 0)).bind λy1=>match y1 with
   | .inl z2=>na m n z2.1.1 z2.1.2.1 z2.1.2.2.1 z2.1.2.2.2.1 z2.1.2.2.2.2.1 z2.2.1 (wI (z2.2.2.1+1))
   | .inr e=>e.elim else none else some (.inl (h,()))
def Ig (m:Nat) (a:Int) (b:Int) (c:LI) (d:LI) (f:LI):Option NN:=(wM m a b c d f).bind λy1=>bif y1.1 !=0 then some (([]:List gf),((),()))else (na m m a b c d f ([]:List gf) 0).bind λy2=>match y2 with
  | .inl z3=>some (z3.1,((),()))
  | .inr e=>e.elim
def kO (m:Nat):Nat->Int->Int->dM->Int->Int->LI->LI->LI->Int->Int->LI->LI->LI->LI->Int->Int->Option ((Int×Int×dM×gU×gU×LI×Int×Unit)⊕Empty)
 |0,_,_,_,_,_,_,_,_,_,_,_,_,_,_,_,_=>none
 |n+1,a,b,c,d,f,h,i,j,k,l,o,p,q,r,s,t=>bif decide (t<a)then if 0<=(wI ((wI (s*a))+t))/\(wI ((wI (s*a))+t))<(r.length:Int)then bif decide ((r.getD (0+(wI ((wI (s*a))+t)).toNat) 0)>0)then if p.length+([t]:LI).length<=1073741824 then if 0<=(wI ((r.getD (0+(wI ((wI (s*a))+t)).toNat) 0)-1))/\(wI ((r.getD (0+(wI ((wI (s*a))+t)).toNat) 0)-1))<(c.length:Int)then if q.length+([(c.getD (wI ((r.getD (0+(wI ((wI (s*a))+t)).toNat) 0)-1)).toNat (0,(0,0))).2.2]:LI).length<=1073741824 then kO m n a b c d f h i j k l o (p++([t]:LI)) (q++([(c.getD (wI ((r.getD (0+(wI ((wI (s*a))+t)).toNat) 0)-1)).toNat (0,(0,0))).2.2]:LI)) r s (wI (t+1))else none else none else none else kO m n a b c d f h i j k l o p q r s (wI (t+1))else none else some (.inl (a,b,c,(d,f,h,i,j,()),(k,l,o,p,q,()),r,s,()))
def ng (m:Nat):Nat->Int->Int->dM->Int->Int->LI->LI->LI->Int->Int->LI->LI->LI->LI->Int->Option tV
 |0,_,_,_,_,_,_,_,_,_,_,_,_,_,_,_=>none
 |n+1,a,b,c,d,f,h,i,j,k,l,o,p,q,r,s=>bif decide (s<b)then (kO m m a b c d f h i j k l o p q r s 0).bind λy1=>match y1 with
   | .inl z2=>if z2.2.2.2.2.1.2.2.1.length+([(z2.2.2.2.2.1.2.2.2.1.length:Int)]:LI).length<=1073741824 then ng m n z2.1 z2.2.1 z2.2.2.1 z2.2.2.2.1.1 z2.2.2.2.1.2.1 z2.2.2.2.1.2.2.1 z2.2.2.2.1.2.2.2.1 z2.2.2.2.1.2.2.2.2.1 z2.2.2.2.2.1.1 z2.2.2.2.2.1.2.1 (z2.2.2.2.2.1.2.2.1++([(z2.2.2.2.2.1.2.2.2.1.length:Int)]:LI)) z2.2.2.2.2.1.2.2.2.1 z2.2.2.2.2.1.2.2.2.2.1 z2.2.2.2.2.2.1 (wI (z2.2.2.2.2.2.2.1+1))else none
   | .inr e=>e.elim else some (.inl ((d,f,h,i,j,()),(k,l,o,p,q,()),()))
def oS (m:Nat):Nat->Int->Int->dM->Int->Int->LI->LI->LI->Int->Int->LI->LI->LI->LI->Int->Option ((Int×Int×dM×gU×gU×LI×Unit)⊕Empty)
 |0,_,_,_,_,_,_,_,_,_,_,_,_,_,_,_=>none
 |n+1,a,b,c,d,f,h,i,j,k,l,o,p,q,r,s=>bif decide (s<(c.length:Int))then if 0<=s/\s<(c.length:Int)then if 0<=s/\s<(c.length:Int)then if 0<=(wI ((wI ((c.getD s.toNat (0,(0,0))).2.1*a))+(c.getD s.toNat (0,(0,0))).1))/\(wI ((wI ((c.getD s.toNat (0,(0,0))).2.1*a))+(c.getD s.toNat (0,(0,0))).1))<(r.length:Int)then oS m n a b c d f h i j k l o p q (r.set (0+(wI ((wI ((c.getD s.toNat (0,(0,0))).2.1*a))+(c.getD s.toNat (0,(0,0))).1)).toNat) (wI (s+1))) (wI (s+1))else none else none else none else some (.inl (a,b,c,(d,f,h,i,j,()),(k,l,o,p,q,()),r,()))
def Pg (m:Nat) (a:Int) (b:Int) (c:List gf):Option PB:=if 0<=(wI (a*b))/\(wI (a*b))<=(wI (a*b))/\(wI (a*b))<=1073741824 then (oS m m a b c 0 0 ([]:LI) ([]:LI) ([]:LI) a b ([0]:LI) ([]:LI) ([]:LI) (List.replicate (wI (a*b)).toNat (0:Int)) 0).bind λy1=>match y1 with
 | .inl z2=>(ng m m z2.1 z2.2.1 z2.2.2.1 z2.2.2.2.1.1 z2.2.2.2.1.2.1 z2.2.2.2.1.2.2.1 z2.2.2.2.1.2.2.2.1 z2.2.2.2.1.2.2.2.2.1 z2.2.2.2.2.1.1 z2.2.2.2.2.1.2.1 z2.2.2.2.2.1.2.2.1 z2.2.2.2.2.1.2.2.2.1 z2.2.2.2.2.1.2.2.2.2.1 z2.2.2.2.2.2.1 0).bind λy3=>match y3 with
  | .inl z4=>some ((z4.2.1.1,z4.2.1.2.1,z4.2.1.2.2.1,z4.2.1.2.2.2.1,z4.2.1.2.2.2.2.1,()),((),(),(),()))
  | .inr e=>e.elim
 | .inr e=>e.elim else none
def gu (m:Nat):Nat->Int->Int->LI->LI->LI->Int->Int->LI->LI->LI->dM->dM->Int->Option tH
 |0,_,_,_,_,_,_,_,_,_,_,_,_,_=>none
 |n+1,a,b,c,d,f,h,i,j,k,l,o,p,q=>bif decide (q<(p.length:Int))then if 0<=q/\q<(p.length:Int)then bif decide ((p.getD (0+q.toNat) (0,(0,0))).1<(p.getD (0+q.toNat) (0,(0,0))).2.1)then gu m n a b c d f h i j k l o p (wI (q+1))else if o.length+([((p.getD (0+q.toNat) (0,(0,0))).1,((p.getD (0+q.toNat) (0,(0,0))).2.1,(p.getD (0+q.toNat) (0,(0,0))).2.2))]:List gf).length<=1073741824 then bif decide ((p.getD (0+q.toNat) (0,(0,0))).1>(p.getD (0+q.toNat) (0,(0,0))).2.1)then if(o++([((p.getD (0+q.toNat) (0,(0,0))).1,((p.getD (0+q.toNat) (0,(0,0))).2.1,(p.getD (0+q.toNat) (0,(0,0))).2.2))]:List gf)).length+([((p.getD (0+q.toNat) (0,(0,0))).2.1,((p.getD (0+q.toNat) (0,(0,0))).1,(p.getD (0+q.toNat) (0,(0,0))).2.2))]:List gf).length<=1073741824 then gu m n a b c d f h i j k l ((o++([((p.getD (0+q.toNat) (0,(0,0))).1,((p.getD (0+q.toNat) (0,(0,0))).2.1,(p.getD (0+q.toNat) (0,(0,0))).2.2))]:List gf))++([((p.getD (0+q.toNat) (0,(0,0))).2.1,((p.getD (0+q.toNat) (0,(0,0))).1,(p.getD (0+q.toNat) (0,(0,0))).2.2))]:List gf)) p (wI (q+1))else none else gu m n a b c d f h i j k l (o++([((p.getD (0+q.toNat) (0,(0,0))).1,((p.getD (0+q.toNat) (0,(0,0))).2.1,(p.getD (0+q.toNat) (0,(0,0))).2.2))]:List gf)) p (wI (q+1))else none else none else some (.inl ((a,b,c,d,f,()),(h,i,j,k,l,()),o,()))
def Pp (m:Nat) (a:Int) (b:Int) (c:LI) (d:LI) (f:LI):Option (gU×Unit×Unit):=(Ig m a b c d f).bind λy1=>(gu m m a b c d f 0 0 ([]:LI) ([]:LI) ([]:LI) ([]:List gf) y1.1 0).bind λy2=>match y2 with
 | .inl z3=>(Pg m z3.1.1 z3.1.1 z3.2.2.1).bind λy4=>some ((y4.1.1,y4.1.2.1,y4.1.2.2.1,y4.1.2.2.2.1,y4.1.2.2.2.2.1,()),((),()))
 | .inr e=>e.elim
def pe (m:Nat):Nat->LI->Int->LI->Int->Option ob
 |0,_,_,_,_=>none
 |n+1,a,b,c,d=>bif decide (d<b)then (Ie m a (wI (700+d))).bind λy1=>(Bw m (wI (az .u64 y1.1 1)) (wI (d+1))).bind λy2=>if(0:Int)<=0/\0<=y2.1/\y2.1<=(c.length:Int)then if([]:LI).length+((c.drop 0).take (y2.1.toNat-0)).length<=1073741824 then if(([]:LI)++((c.drop 0).take (y2.1.toNat-0))).length+([d]:LI).length<=1073741824 then if 0<=y2.1/\y2.1<=(c.length:Int)/\(c.length:Int)<=(c.length:Int)then if((([]:LI)++((c.drop 0).take (y2.1.toNat-0)))++([d]:LI)).length+((c.drop (0+y2.1.toNat)).take (c.length-y2.1.toNat)).length<=1073741824 then pe m n a b (((([]:LI)++((c.drop 0).take (y2.1.toNat-0)))++([d]:LI))++((c.drop (0+y2.1.toNat)).take (c.length-y2.1.toNat))) (wI (d+1))else none else none else none else none else none else some (.inl (c,()))
def Pn (m:Nat) (a:LI) (b:Int):Option tx:=(pe m m a b ([]:LI) 0).bind λy1=>match y1 with
 | .inl z2=>some (z2.1,((),(),()))
 | .inr e=>e.elim
def pd (m:Nat):Nat->LI->Int->Int->Int->LI->Int->Option ob
 |0,_,_,_,_,_,_=>none
 |n+1,a,b,c,d,f,h=>bif decide (h<c)then (Ie m a (wI (b+h))).bind λy1=>(KC m y1.1 d).bind λy2=>if f.length+([y2.1]:LI).length<=1073741824 then pd m n a b c d (f++([y2.1]:LI)) (wI (h+1))else none else some (.inl (f,()))
def Pm (m:Nat) (a:LI) (b:Int) (c:Int) (d:Int):Option (LI×Unit×Unit×Unit×Unit×Unit):=(pd m m a b c d ([]:LI) 0).bind λy1=>match y1 with
 | .inl z2=>some (z2.1,((),(),(),(),()))
 | .inr e=>e.elim
def Ic (m:Nat) (a:Int) (b:Int) (c:Int):Option NJ:=bif decide (a>=b)then some (decide (a<=c),((),(),(),()))else some (false,((),(),(),()))
def nG (m:Nat) (a:Int):Option pU:=some (a !=a,((),()))
def qu (m:Nat) (a:Int) (b:Int):Option xD:=(nG m a).bind λy1=>bif y1.1 then (nG m b).bind λy2=>bif !y2.1 then some (true,((),(),()))else some (decide (a<b),((),(),()))else some (decide (a<b),((),(),()))
def iW (m:Nat):Nat->LI->Int->Option xE
 |0,_,_=>none
 |n+1,a,b=>bif decide (b>0)then if 0<=b/\b<(a.length:Int)then if 0<=(wI (b-1))/\(wI (b-1))<(a.length:Int)then (qu m (a.getD b.toNat 0) (a.getD (wI (b-1)).toNat 0)).bind λy1=>bif y1.1 then some (.inl (false,()))else iW m n a (wI (b-1))else none else none else some (.inr (.inl ()))
def A4 (m:Nat) (a:LI):Option pU:=(iW m m a (wI ((a.length:Int)-1))).bind λy1=>match y1 with
 | .inl z2=>some (z2.1,((),()))
 | .inr (.inl z3)=>some (true,((),()))
 | .inr (.inr e)=>e.elim
def lU (m:Nat):Nat->Int->Int->LI->LI->LI->Int->Int->Int->LI->Int->Int->Option ((Bool×Unit)⊕(gU×Int×Int×Unit)⊕Empty)
 |0,_,_,_,_,_,_,_,_,_,_,_=>none
 |n+1,a,b,c,d,f,h,i,j,k,l,o=>bif decide (o<l)then if 0<=o/\o<(k.length:Int)then bif decide ((k.getD o.toNat 0)<=h)then some (.inl (false,()))else bif decide ((k.getD o.toNat 0)>=a)then some (.inl (false,()))else lU m n a b c d f (k.getD o.toNat 0) i j k l (wI (o+1))else none else some (.inr (.inl ((a,b,c,d,f,()),i,j,())))
def lV (m:Nat):Nat->Int->Int->LI->LI->LI->Int->Int->Option xE
 |0,_,_,_,_,_,_,_=>none
 |n+1,a,b,c,d,f,h,i=>bif decide (i<h)then if 0<=i/\i<(c.length:Int)then if 0<=(wI (i+1))/\(wI (i+1))<(c.length:Int)then if 0<=(c.getD i.toNat 0)/\(c.getD i.toNat 0)<=(c.getD (wI (i+1)).toNat 0)/\(c.getD (wI (i+1)).toNat 0)<=(d.length:Int)then (lU m m a b c d f (-1) h i ((d.drop (c.getD i.toNat 0).toNat).take ((c.getD (wI (i+1)).toNat 0).toNat-(c.getD i.toNat 0).toNat)) (((d.drop (c.getD i.toNat 0).toNat).take ((c.getD (wI (i+1)).toNat 0).toNat-(c.getD i.toNat 0).toNat)).length:Int) 0).bind λy1=>match y1 with
   | .inl z2=>some (.inl (z2.1,()))
   | .inr (.inl z3)=>lV m n z3.1.1 z3.1.2.1 z3.1.2.2.1 z3.1.2.2.2.1 z3.1.2.2.2.2.1 z3.2.1 (wI (z3.2.2.1+1))
   | .inr (.inr e)=>e.elim else none else none else none else some (.inr (.inl ()))
def BN (m:Nat) (a:Int) (b:Int) (c:LI) (d:LI) (f:LI):Option pU:=bif (c.length:Int) !=(wI (b+1))then some (false,((),()))else if(0:Int)<=0/\0<(c.length:Int)then bif (c.getD 0 0) !=0 then some (false,((),()))else (A4 m c).bind λy1=>bif !y1.1 then some (false,((),()))else if 0<=b/\b<(c.length:Int)then bif (c.getD b.toNat 0) !=(d.length:Int)then some (false,((),()))else bif (d.length:Int) !=(f.length:Int)then some (false,((),()))else (lV m m a b c d f b 0).bind λy2=>match y2 with
      | .inl z3=>some (z3.1,((),()))
      | .inr (.inl z4)=>some (true,((),()))
      | .inr (.inr e)=>e.elim else none else none
def nP (m:Nat) (a:Int):Option ((Int×Int×Unit)×Unit×Unit):=some ((wI (qp .u64 (az .u64 a 52) 2047),qp .u64 a 4503599627370495,()),((),()))
def tI (m:Nat) (a:Int):Option pU:=(nP m a).bind λy1=>some (y1.1.1 !=2047,((),()))
def Hv (m:Nat) (a:Int):Option pU:=(tI m a).bind λy1=>some (!y1.1,((),()))
def lG (m:Nat):Nat->LI->Int->Int->Option ub
 |0,_,_,_=>none
 |n+1,a,b,c=>bif decide (c<b)then if 0<=c/\c<(a.length:Int)then (Hv m (a.getD c.toNat 0)).bind λy1=>bif y1.1 then some (.inl (c,()))else lG m n a b (wI (c+1))else none else some (.inr (.inl ()))
def Hk (m:Nat) (a:LI):Option jY:=(lG m m a (a.length:Int) 0).bind λy1=>match y1 with
 | .inl z2=>some (z2.1,((),(),()))
 | .inr (.inl z3)=>some ((-1),((),(),()))
 | .inr (.inr e)=>e.elim
def BK (m:Nat) (a:LI):Option xD:=(Hk m a).bind λy1=>some (decide (y1.1>=0),((),(),()))
def C5 (m:Nat) (a:Int) (b:Int) (c:LI) (d:LI) (f:LI):Option l7:=(Ic m a 0 200).bind λy1=>bif !y1.1 then some (6,((),()))else (Ic m b 0 200).bind λy2=>bif !y2.1 then some (6,((),()))else bif decide ((d.length:Int)>10000)then some (6,((),()))else (BN m a b c d f).bind λy3=>bif !y3.1 then some (1,((),()))else (BK m f).bind λy4=>bif y4.1 then some (4,((),()))else some (0,((),()))
def mZ (m:Nat):Nat->LI->LI->Int->Int->Option Py
 |0,_,_,_,_=>none
 |n+1,a,b,c,d=>bif decide (d<c)then if 0<=d/\d<(b.length:Int)then if 0<=(b.getD d.toNat 0)/\(b.getD d.toNat 0)<(a.length:Int)then bif decide ((a.getD (0+(b.getD d.toNat 0).toNat) 0)>=0)then some (.inl ([],90,()))else if 0<=(b.getD d.toNat 0)/\(b.getD d.toNat 0)<(a.length:Int)then mZ m n (a.set (0+(b.getD d.toNat 0).toNat) d) b c (wI (d+1))else none else none else none else some (.inr (.inl (a,())))
def m8 (m:Nat):Nat->LI->Int->LI->LI->Int->Int->Option ((LI×Int×Unit)⊕HO⊕Empty)
 |0,_,_,_,_,_,_=>none
 |n+1,a,b,c,d,f,h=>bif decide (h<f)then if 0<=h/\h<(d.length:Int)then (Ic m (d.getD h.toNat 0) 0 (wI (b-1))).bind λy1=>bif !y1.1 then some (.inl ([],3,()))else m8 m n a b c d f (wI (h+1))else none else some (.inr (.inl (a,c,())))
def oN (m:Nat):Nat->LI->Int->LI->Int->Int->Option ((LI×Int×LI×Unit)⊕Empty)
 |0,_,_,_,_,_=>none
 |n+1,a,b,c,d,f=>bif decide (f<d)then if 0<=f/\f<(c.length:Int)then oN m n a b (c.set (0+f.toNat) (-1)) d (wI (f+1))else none else some (.inl (a,b,c,()))
def Gv (m:Nat) (a:LI) (b:Int):Option NK:=if 0<=b/\b<=b/\b<=1073741824 then (oN m m a b (List.replicate b.toNat (0:Int)) ((List.replicate b.toNat (0:Int)).length:Int) 0).bind λy1=>match y1 with
 | .inl z2=>(m8 m m z2.1 z2.2.1 z2.2.2.1 z2.1 (z2.1.length:Int) 0).bind λy3=>match y3 with
  | .inl z4=>some ((z4.1,z4.2.1,()),((),(),()))
  | .inr (.inl z5)=>(mZ m m z5.2.1 z5.1 (z5.1.length:Int) 0).bind λy6=>match y6 with
   | .inl z7=>some ((z7.1,z7.2.1,()),((),(),()))
   | .inr (.inl z8)=>some ((z8.1,0,()),((),(),()))
   | .inr (.inr e)=>e.elim
  | .inr (.inr e)=>e.elim
 | .inr e=>e.elim else none
def oQ (m:Nat):Nat->Int->Int->LI->LI->LI->dM->Int->Int->Int->Int->Option ((gU×dM×Int×Int×Unit)⊕Empty)
 |0,_,_,_,_,_,_,_,_,_,_=>none
 |n+1,a,b,c,d,f,h,i,j,k,l=>if 0<=(wI (i+1))/\(wI (i+1))<(c.length:Int)then bif decide (j<(c.getD (wI (i+1)).toNat 0))then if 0<=j/\j<(d.length:Int)then if 0<=j/\j<(f.length:Int)then if h.length+([(d.getD j.toNat 0,(i,f.getD j.toNat 0))]:List gf).length<=1073741824 then oQ m n a b c d f (h++([(d.getD j.toNat 0,(i,f.getD j.toNat 0))]:List gf)) i (wI (j+1)) k l else none else none else none else some (.inl ((a,b,c,d,f,()),h,k,l,()))else none
def nc (m:Nat):Nat->Int->Int->LI->LI->LI->dM->Int->Int->Option FJ
 |0,_,_,_,_,_,_,_,_=>none
 |n+1,a,b,c,d,f,h,i,j=>bif decide (j<i)then if 0<=j/\j<(c.length:Int)then (oQ m m a b c d f h j (c.getD j.toNat 0) i j).bind λy1=>match y1 with
   | .inl z2=>nc m n z2.1.1 z2.1.2.1 z2.1.2.2.1 z2.1.2.2.2.1 z2.1.2.2.2.2.1 z2.2.1 z2.2.2.1 (wI (z2.2.2.2.1+1))
   | .inr e=>e.elim else none else some (.inl (h,()))
def Ii (m:Nat) (a:Int) (b:Int) (c:LI) (d:LI) (f:LI):Option NN:=(nc m m a b c d f ([]:List gf) b 0).bind λy1=>match y1 with
 | .inl z2=>some (z2.1,((),()))
 | .inr e=>e.elim
def G2 (m:Nat) (a:List gf):Option (List gf×Unit×Unit):=if([]:List gf).length+a.length<=1073741824 then some (a,((),()))else none
def sW (m:Nat) (a:Int) (b:Int):Option jY:=(nG m a).bind λy1=>(nG m b).bind λy2=>bif y1.1 then bif y2.1 then some (0,((),(),()))else some ((-1),((),(),()))else bif y2.1 then some (1,((),(),()))else bif decide (a<b)then some ((-1),((),(),()))else bif decide (a>b)then some (1,((),(),()))else some (0,((),(),()))
def iJ (m:Nat):Nat->Int->LI->Int->Int->Option (Ca⊕Ca⊕Empty)
 |0,_,_,_,_=>none
 |n+1,a,b,c,d=>bif decide (d<c)then if 0<=d/\d<(b.length:Int)then bif (b.getD d.toNat 0) !=a then some (.inl (b.getD d.toNat 0,()))else iJ m n a b c (wI (d+1))else none else some (.inr (.inl (a,())))
def sV (m:Nat) (a:LI):Option l7:=(iJ m m 0 a (a.length:Int) 0).bind λy1=>match y1 with
 | .inl z2=>some (z2.1,((),()))
 | .inr (.inl z3)=>some (z3.1,((),()))
 | .inr (.inr e)=>e.elim
def oV (m:Nat) (a:Int) (b:Int) (c:Int) (d:Int) (f:Int) (h:Int):Option jY:=(sW m b f).bind λy1=>(sW m a d).bind λy2=>(sV m ([y1.1,y2.1]:LI)).bind λy3=>some (y3.1,((),(),()))
def gI (m:Nat):Nat->dM->Int->Int->Int->Int->Option ((dM×Int×Int×Unit×Int×Unit)⊕Empty)
 |0,_,_,_,_,_=>none
 |n+1,a,b,c,d,f=>bif decide (f>b)then if 0<=f/\f<(a.length:Int)then if 0<=(wI (f-1))/\(wI (f-1))<(a.length:Int)then (oV m (a.getD (0+f.toNat) (0,(0,0))).1 (a.getD (0+f.toNat) (0,(0,0))).2.1 (a.getD (0+f.toNat) (0,(0,0))).2.2 (a.getD (0+(wI (f-1)).toNat) (0,(0,0))).1 (a.getD (0+(wI (f-1)).toNat) (0,(0,0))).2.1 (a.getD (0+(wI (f-1)).toNat) (0,(0,0))).2.2).bind λy1=>bif decide (y1.1<0)then if 0<=(wI (f-1))/\(wI (f-1))<(a.length:Int)then if 0<=f/\f<(a.length:Int)then if 0<=f/\f<(a.length:Int)then if 0<=(wI (f-1))/\(wI (f-1))<((a.set (0+f.toNat) ((a.getD (0+(wI (f-1)).toNat) (0,(0,0))).1,((a.getD (0+(wI (f-1)).toNat) (0,(0,0))).2.1,(a.getD (0+(wI (f-1)).toNat) (0,(0,0))).2.2))).length:Int)then gI m n ((a.set (0+f.toNat) ((a.getD (0+(wI (f-1)).toNat) (0,(0,0))).1,((a.getD (0+(wI (f-1)).toNat) (0,(0,0))).2.1,(a.getD (0+(wI (f-1)).toNat) (0,(0,0))).2.2))).set (0+(wI (f-1)).toNat) ((a.getD (0+f.toNat) (0,(0,0))).1,((a.getD (0+f.toNat) (0,(0,0))).2.1,(a.getD (0+f.toNat) (0,(0,0))).2.2))) b c d (wI (f-1))else none else none else none else none else some (.inl (a,b,c,(),d,()))else none else none else some (.inl (a,b,c,(),d,()))
def gJ (m:Nat):Nat->dM->Int->Int->Int->Option FJ
 |0,_,_,_,_=>none
 |n+1,a,b,c,d=>bif decide (d<c)then (gI m m a b c d d).bind λy1=>match y1 with
   | .inl z2=>gJ m n z2.1 z2.2.1 z2.2.2.1 (wI (z2.2.2.2.2.1+1))
   | .inr e=>e.elim else some (.inl (a,()))
def qk (m:Nat) (a:List gf) (b:Int) (c:Int):Option (Unit×dM×Unit×Unit×Unit×Unit):=(gJ m m a b c (wI (b+1))).bind λy1=>match y1 with
 | .inl z2=>some ((),(z2.1,(),(),(),()))
 | .inr e=>e.elim
def gF (m:Nat):Nat->dM->Int->Int->Int->Int->Option FJ
 |0,_,_,_,_,_=>none
 |n+1,a,b,c,d,f=>bif decide (f<d)then if 0<=(wI (c+f))/\(wI (c+f))<(a.length:Int)then if 0<=(wI (b+f))/\(wI (b+f))<(a.length:Int)then if 0<=(wI (b+f))/\(wI (b+f))<(a.length:Int)then if 0<=(wI (c+f))/\(wI (c+f))<((a.set (0+(wI (b+f)).toNat) ((a.getD (0+(wI (c+f)).toNat) (0,(0,0))).1,((a.getD (0+(wI (c+f)).toNat) (0,(0,0))).2.1,(a.getD (0+(wI (c+f)).toNat) (0,(0,0))).2.2))).length:Int)then gF m n ((a.set (0+(wI (b+f)).toNat) ((a.getD (0+(wI (c+f)).toNat) (0,(0,0))).1,((a.getD (0+(wI (c+f)).toNat) (0,(0,0))).2.1,(a.getD (0+(wI (c+f)).toNat) (0,(0,0))).2.2))).set (0+(wI (c+f)).toNat) ((a.getD (0+(wI (b+f)).toNat) (0,(0,0))).1,((a.getD (0+(wI (b+f)).toNat) (0,(0,0))).2.1,(a.getD (0+(wI (b+f)).toNat) (0,(0,0))).2.2))) b c d (wI (f+1))else none else none else none else none else some (.inl (a,()))
def sQ (m:Nat) (a:List gf) (b:Int) (c:Int) (d:Int):Option tY:=(gF m m a b c d 0).bind λy1=>match y1 with
 | .inl z2=>some ((),(z2.1,(),(),(),(),()))
 | .inr e=>e.elim
def iD (m:Nat):Nat->dM->Int->Int->Int->Option ((dM×Int×Unit×Int×Unit)⊕Empty)
 |0,_,_,_,_=>none
 |n+1,a,b,c,d=>bif c !=d then bif decide (c>d)then (sQ m a (wI (b-c)) b d).bind λy1=>iD m n y1.2.1 b (wI (c-d)) d else (sQ m a (wI (b-c)) (wI ((wI (b+d))-c)) c).bind λy2=>iD m n y2.2.1 b c (wI (d-c))else some (.inl (a,b,(),c,()))
def qe (m:Nat) (a:List gf) (b:Int) (c:Int) (d:Int):Option tY:=(iD m m a c (wI (c-b)) (wI (d-c))).bind λy1=>match y1 with
 | .inl z2=>(sQ m z2.1 (wI (z2.2.1-z2.2.2.2.1)) z2.2.1 z2.2.2.2.1).bind λy3=>some ((),(y3.2.1,(),(),(),(),()))
 | .inr e=>e.elim
def fN (self:dM->Int->Int->Int->Option tY) (m:Nat):Nat->dM->Int->Int->Int->Int->Int->Int->Int->Int->Option ((dM×Int×Int×Int×Unit×Int×Int×Int×Unit)⊕Empty)
 |0,_,_,_,_,_,_,_,_,_=>none
 |n+1,a,b,c,d,f,h,i,j,k=>bif decide (i<j)then if 0<=(wI (k-(wI (az .u64 (wJ (wI (i+j))) 1))))/\(wI (k-(wI (az .u64 (wJ (wI (i+j))) 1))))<(a.length:Int)then if 0<=(wI (az .u64 (wJ (wI (i+j))) 1))/\(wI (az .u64 (wJ (wI (i+j))) 1))<(a.length:Int)then (oV m (a.getD (0+(wI (k-(wI (az .u64 (wJ (wI (i+j))) 1)))).toNat) (0,(0,0))).1 (a.getD (0+(wI (k-(wI (az .u64 (wJ (wI (i+j))) 1)))).toNat) (0,(0,0))).2.1 (a.getD (0+(wI (k-(wI (az .u64 (wJ (wI (i+j))) 1)))).toNat) (0,(0,0))).2.2 (a.getD (0+(wI (az .u64 (wJ (wI (i+j))) 1)).toNat) (0,(0,0))).1 (a.getD (0+(wI (az .u64 (wJ (wI (i+j))) 1)).toNat) (0,(0,0))).2.1 (a.getD (0+(wI (az .u64 (wJ (wI (i+j))) 1)).toNat) (0,(0,0))).2.2).bind λy1=>bif !(decide (y1.1<0))then fN self m n a b c d f h (wI ((wI (az .u64 (wJ (wI (i+j))) 1))+1)) j k else fN self m n a b c d f h i (wI (az .u64 (wJ (wI (i+j))) 1)) k else none else none else some (.inl (a,b,c,d,(),f,h,i,()))
def gG (self:dM->Int->Int->Int->Option tY) (m:Nat):Nat->dM->Int->Int->Option FJ
 |0,_,_,_=>none
 |n+1,a,b,c=>bif decide (c>b)then if 0<=(wI (c-1))/\(wI (c-1))<(a.length:Int)then if 0<=c/\c<(a.length:Int)then if 0<=c/\c<(a.length:Int)then if 0<=(wI (c-1))/\(wI (c-1))<((a.set (0+c.toNat) ((a.getD (0+(wI (c-1)).toNat) (0,(0,0))).1,((a.getD (0+(wI (c-1)).toNat) (0,(0,0))).2.1,(a.getD (0+(wI (c-1)).toNat) (0,(0,0))).2.2))).length:Int)then gG self m n ((a.set (0+c.toNat) ((a.getD (0+(wI (c-1)).toNat) (0,(0,0))).1,((a.getD (0+(wI (c-1)).toNat) (0,(0,0))).2.1,(a.getD (0+(wI (c-1)).toNat) (0,(0,0))).2.2))).set (0+(wI (c-1)).toNat) ((a.getD (0+c.toNat) (0,(0,0))).1,((a.getD (0+c.toNat) (0,(0,0))).2.1,(a.getD (0+c.toNat) (0,(0,0))).2.2))) b (wI (c-1))else none else none else none else none else some (.inl (a,()))
def iE (self:dM->Int->Int->Int->Option tY) (m:Nat):Nat->dM->Int->Int->Int->Option Uc
 |0,_,_,_,_=>none
 |n+1,a,b,c,d=>bif decide (c<d)then if 0<=b/\b<(a.length:Int)then if 0<=(wI (az .u64 (wJ (wI (c+d))) 1))/\(wI (az .u64 (wJ (wI (c+d))) 1))<(a.length:Int)then (oV m (a.getD (0+b.toNat) (0,(0,0))).1 (a.getD (0+b.toNat) (0,(0,0))).2.1 (a.getD (0+b.toNat) (0,(0,0))).2.2 (a.getD (0+(wI (az .u64 (wJ (wI (c+d))) 1)).toNat) (0,(0,0))).1 (a.getD (0+(wI (az .u64 (wJ (wI (c+d))) 1)).toNat) (0,(0,0))).2.1 (a.getD (0+(wI (az .u64 (wJ (wI (c+d))) 1)).toNat) (0,(0,0))).2.2).bind λy1=>bif !(decide (y1.1<0))then iE self m n a b (wI ((wI (az .u64 (wJ (wI (c+d))) 1))+1)) d else iE self m n a b c (wI (az .u64 (wJ (wI (c+d))) 1))else none else none else some (.inl (a,b,c,()))
def gH (self:dM->Int->Int->Int->Option tY) (m:Nat):Nat->dM->Int->Int->Option FJ
 |0,_,_,_=>none
 |n+1,a,b,c=>bif decide (c<(wI (b-1)))then if 0<=(wI (c+1))/\(wI (c+1))<(a.length:Int)then if 0<=c/\c<(a.length:Int)then if 0<=c/\c<(a.length:Int)then if 0<=(wI (c+1))/\(wI (c+1))<((a.set (0+c.toNat) ((a.getD (0+(wI (c+1)).toNat) (0,(0,0))).1,((a.getD (0+(wI (c+1)).toNat) (0,(0,0))).2.1,(a.getD (0+(wI (c+1)).toNat) (0,(0,0))).2.2))).length:Int)then gH self m n ((a.set (0+c.toNat) ((a.getD (0+(wI (c+1)).toNat) (0,(0,0))).1,((a.getD (0+(wI (c+1)).toNat) (0,(0,0))).2.1,(a.getD (0+(wI (c+1)).toNat) (0,(0,0))).2.2))).set (0+(wI (c+1)).toNat) ((a.getD (0+c.toNat) (0,(0,0))).1,((a.getD (0+c.toNat) (0,(0,0))).2.1,(a.getD (0+c.toNat) (0,(0,0))).2.2))) b (wI (c+1))else none else none else none else none else some (.inl (a,()))
def iF (self:dM->Int->Int->Int->Option tY) (m:Nat):Nat->dM->Int->Int->Int->Option Uc
 |0,_,_,_,_=>none
 |n+1,a,b,c,d=>bif decide (c<d)then if 0<=(wI (az .u64 (wJ (wI (c+d))) 1))/\(wI (az .u64 (wJ (wI (c+d))) 1))<(a.length:Int)then if 0<=b/\b<(a.length:Int)then (oV m (a.getD (0+(wI (az .u64 (wJ (wI (c+d))) 1)).toNat) (0,(0,0))).1 (a.getD (0+(wI (az .u64 (wJ (wI (c+d))) 1)).toNat) (0,(0,0))).2.1 (a.getD (0+(wI (az .u64 (wJ (wI (c+d))) 1)).toNat) (0,(0,0))).2.2 (a.getD (0+b.toNat) (0,(0,0))).1 (a.getD (0+b.toNat) (0,(0,0))).2.1 (a.getD (0+b.toNat) (0,(0,0))).2.2).bind λy1=>bif decide (y1.1<0)then iF self m n a b (wI ((wI (az .u64 (wJ (wI (c+d))) 1))+1)) d else iF self m n a b c (wI (az .u64 (wJ (wI (c+d))) 1))else none else none else some (.inl (a,b,c,()))
def bz:Nat->dM->Int->Int->Int->Option tY
 |0,_,_,_,_=>none
 |m+1,a,b,c,d=>bif (wI (c-b))==1 then (iF (λa0 a1 a2 a3=>bz m a0 a1 a2 a3) m m a b c d).bind λy1=>match y1 with
   | .inl z2=>(gH (λa0 a1 a2 a3=>bz m a0 a1 a2 a3) m m z2.1 z2.2.2.1 z2.2.1).bind λy3=>match y3 with
    | .inl z4=>some ((),(z4.1,(),(),(),(),()))
    | .inr e=>e.elim
   | .inr e=>e.elim else bif (wI (d-c))==1 then (iE (λa0 a1 a2 a3=>bz m a0 a1 a2 a3) m m a c b c).bind λy5=>match y5 with
    | .inl z6=>(gG (λa0 a1 a2 a3=>bz m a0 a1 a2 a3) m m z6.1 z6.2.2.1 z6.2.1).bind λy7=>match y7 with
     | .inl z8=>some ((),(z8.1,(),(),(),(),()))
     | .inr e=>e.elim
    | .inr e=>e.elim else bif decide (c>(wI (az .u64 (wJ (wI (b+d))) 1)))then (fN (λa0 a1 a2 a3=>bz m a0 a1 a2 a3) m m a b c d (wI (az .u64 (wJ (wI (b+d))) 1)) (wI ((wI (az .u64 (wJ (wI (b+d))) 1))+c)) (wI ((wI ((wI (az .u64 (wJ (wI (b+d))) 1))+c))-d)) (wI (az .u64 (wJ (wI (b+d))) 1)) (wI ((wI ((wI (az .u64 (wJ (wI (b+d))) 1))+c))-1))).bind λy9=>match y9 with
     | .inl z10=>bif decide (z10.2.2.2.2.2.2.2.1<z10.2.2.1)then bif decide (z10.2.2.1<(wI (z10.2.2.2.2.2.2.1-z10.2.2.2.2.2.2.2.1)))then (qe m z10.1 z10.2.2.2.2.2.2.2.1 z10.2.2.1 (wI (z10.2.2.2.2.2.2.1-z10.2.2.2.2.2.2.2.1))).bind λy11=>bif decide (z10.2.1<z10.2.2.2.2.2.2.2.1)then bif decide (z10.2.2.2.2.2.2.2.1<z10.2.2.2.2.2.1)then (bz m y11.2.1 z10.2.1 z10.2.2.2.2.2.2.2.1 z10.2.2.2.2.2.1).bind λy12=>bif decide (z10.2.2.2.2.2.1<(wI (z10.2.2.2.2.2.2.1-z10.2.2.2.2.2.2.2.1)))then bif decide ((wI (z10.2.2.2.2.2.2.1-z10.2.2.2.2.2.2.2.1))<z10.2.2.2.1)then (bz m y12.2.1 z10.2.2.2.2.2.1 (wI (z10.2.2.2.2.2.2.1-z10.2.2.2.2.2.2.2.1)) z10.2.2.2.1).bind λy13=>some ((),(y13.2.1,(),(),(),(),()))else some ((),(y12.2.1,(),(),(),(),()))else some ((),(y12.2.1,(),(),(),(),()))else bif decide (z10.2.2.2.2.2.1<(wI (z10.2.2.2.2.2.2.1-z10.2.2.2.2.2.2.2.1)))then bif decide ((wI (z10.2.2.2.2.2.2.1-z10.2.2.2.2.2.2.2.1))<z10.2.2.2.1)then (bz m y11.2.1 z10.2.2.2.2.2.1 (wI (z10.2.2.2.2.2.2.1-z10.2.2.2.2.2.2.2.1)) z10.2.2.2.1).bind λy14=>some ((),(y14.2.1,(),(),(),(),()))else some ((),(y11.2.1,(),(),(),(),()))else some ((),(y11.2.1,(),(),(),(),()))else bif decide (z10.2.2.2.2.2.1<(wI (z10.2.2.2.2.2.2.1-z10.2.2.2.2.2.2.2.1)))then bif decide ((wI (z10.2.2.2.2.2.2.1-z10.2.2.2.2.2.2.2.1))<z10.2.2.2.1)then (bz m y11.2.1 z10.2.2.2.2.2.1 (wI (z10.2.2.2.2.2.2.1-z10.2.2.2.2.2.2.2.1)) z10.2.2.2.1).bind λy15=>some ((),(y15.2.1,(),(),(),(),()))else some ((),(y11.2.1,(),(),(),(),()))else some ((),(y11.2.1,(),(),(),(),()))else bif decide (z10.2.1<z10.2.2.2.2.2.2.2.1)then bif decide (z10.2.2.2.2.2.2.2.1<z10.2.2.2.2.2.1)then (bz m z10.1 z10.2.1 z10.2.2.2.2.2.2.2.1 z10.2.2.2.2.2.1).bind λy16=>bif decide (z10.2.2.2.2.2.1<(wI (z10.2.2.2.2.2.2.1-z10.2.2.2.2.2.2.2.1)))then bif decide ((wI (z10.2.2.2.2.2.2.1-z10.2.2.2.2.2.2.2.1))<z10.2.2.2.1)then (bz m y16.2.1 z10.2.2.2.2.2.1 (wI (z10.2.2.2.2.2.2.1-z10.2.2.2.2.2.2.2.1)) z10.2.2.2.1).bind λy17=>some ((),(y17.2.1,(),(),(),(),()))else some ((),(y16.2.1,(),(),(),(),()))else some ((),(y16.2.1,(),(),(),(),()))else bif decide (z10.2.2.2.2.2.1<(wI (z10.2.2.2.2.2.2.1-z10.2.2.2.2.2.2.2.1)))then bif decide ((wI (z10.2.2.2.2.2.2.1-z10.2.2.2.2.2.2.2.1))<z10.2.2.2.1)then (bz m z10.1 z10.2.2.2.2.2.1 (wI (z10.2.2.2.2.2.2.1-z10.2.2.2.2.2.2.2.1)) z10.2.2.2.1).bind λy18=>some ((),(y18.2.1,(),(),(),(),()))else some ((),(z10.1,(),(),(),(),()))else some ((),(z10.1,(),(),(),(),()))else bif decide (z10.2.2.2.2.2.1<(wI (z10.2.2.2.2.2.2.1-z10.2.2.2.2.2.2.2.1)))then bif decide ((wI (z10.2.2.2.2.2.2.1-z10.2.2.2.2.2.2.2.1))<z10.2.2.2.1)then (bz m z10.1 z10.2.2.2.2.2.1 (wI (z10.2.2.2.2.2.2.1-z10.2.2.2.2.2.2.2.1)) z10.2.2.2.1).bind λy19=>some ((),(y19.2.1,(),(),(),(),()))else some ((),(z10.1,(),(),(),(),()))else some ((),(z10.1,(),(),(),(),()))else bif decide (z10.2.1<z10.2.2.2.2.2.2.2.1)then bif decide (z10.2.2.2.2.2.2.2.1<z10.2.2.2.2.2.1)then (bz m z10.1 z10.2.1 z10.2.2.2.2.2.2.2.1 z10.2.2.2.2.2.1).bind λy20=>bif decide (z10.2.2.2.2.2.1<(wI (z10.2.2.2.2.2.2.1-z10.2.2.2.2.2.2.2.1)))then bif decide ((wI (z10.2.2.2.2.2.2.1-z10.2.2.2.2.2.2.2.1))<z10.2.2.2.1)then (bz m y20.2.1 z10.2.2.2.2.2.1 (wI (z10.2.2.2.2.2.2.1-z10.2.2.2.2.2.2.2.1)) z10.2.2.2.1).bind λy21=>some ((),(y21.2.1,(),(),(),(),()))else some ((),(y20.2.1,(),(),(),(),()))else some ((),(y20.2.1,(),(),(),(),()))else bif decide (z10.2.2.2.2.2.1<(wI (z10.2.2.2.2.2.2.1-z10.2.2.2.2.2.2.2.1)))then bif decide ((wI (z10.2.2.2.2.2.2.1-z10.2.2.2.2.2.2.2.1))<z10.2.2.2.1)then (bz m z10.1 z10.2.2.2.2.2.1 (wI (z10.2.2.2.2.2.2.1-z10.2.2.2.2.2.2.2.1)) z10.2.2.2.1).bind λy22=>some ((),(y22.2.1,(),(),(),(),()))else some ((),(z10.1,(),(),(),(),()))else some ((),(z10.1,(),(),(),(),()))else bif decide (z10.2.2.2.2.2.1<(wI (z10.2.2.2.2.2.2.1-z10.2.2.2.2.2.2.2.1)))then bif decide ((wI (z10.2.2.2.2.2.2.1-z10.2.2.2.2.2.2.2.1))<z10.2.2.2.1)then (bz m z10.1 z10.2.2.2.2.2.1 (wI (z10.2.2.2.2.2.2.1-z10.2.2.2.2.2.2.2.1)) z10.2.2.2.1).bind λy23=>some ((),(y23.2.1,(),(),(),(),()))else some ((),(z10.1,(),(),(),(),()))else some ((),(z10.1,(),(),(),(),()))
     | .inr e=>e.elim else (fN (λa0 a1 a2 a3=>bz m a0 a1 a2 a3) m m a b c d (wI (az .u64 (wJ (wI (b+d))) 1)) (wI ((wI (az .u64 (wJ (wI (b+d))) 1))+c)) b c (wI ((wI ((wI (az .u64 (wJ (wI (b+d))) 1))+c))-1))).bind λy24=>match y24 with
     | .inl z25=>bif decide (z25.2.2.2.2.2.2.2.1<z25.2.2.1)then bif decide (z25.2.2.1<(wI (z25.2.2.2.2.2.2.1-z25.2.2.2.2.2.2.2.1)))then (qe m z25.1 z25.2.2.2.2.2.2.2.1 z25.2.2.1 (wI (z25.2.2.2.2.2.2.1-z25.2.2.2.2.2.2.2.1))).bind λy26=>bif decide (z25.2.1<z25.2.2.2.2.2.2.2.1)then bif decide (z25.2.2.2.2.2.2.2.1<z25.2.2.2.2.2.1)then (bz m y26.2.1 z25.2.1 z25.2.2.2.2.2.2.2.1 z25.2.2.2.2.2.1).bind λy27=>bif decide (z25.2.2.2.2.2.1<(wI (z25.2.2.2.2.2.2.1-z25.2.2.2.2.2.2.2.1)))then bif decide ((wI (z25.2.2.2.2.2.2.1-z25.2.2.2.2.2.2.2.1))<z25.2.2.2.1)then (bz m y27.2.1 z25.2.2.2.2.2.1 (wI (z25.2.2.2.2.2.2.1-z25.2.2.2.2.2.2.2.1)) z25.2.2.2.1).bind λy28=>some ((),(y28.2.1,(),(),(),(),()))else some ((),(y27.2.1,(),(),(),(),()))else some ((),(y27.2.1,(),(),(),(),()))else bif decide (z25.2.2.2.2.2.1<(wI (z25.2.2.2.2.2.2.1-z25.2.2.2.2.2.2.2.1)))then bif decide ((wI (z25.2.2.2.2.2.2.1-z25.2.2.2.2.2.2.2.1))<z25.2.2.2.1)then (bz m y26.2.1 z25.2.2.2.2.2.1 (wI (z25.2.2.2.2.2.2.1-z25.2.2.2.2.2.2.2.1)) z25.2.2.2.1).bind λy29=>some ((),(y29.2.1,(),(),(),(),()))else some ((),(y26.2.1,(),(),(),(),()))else some ((),(y26.2.1,(),(),(),(),()))else bif decide (z25.2.2.2.2.2.1<(wI (z25.2.2.2.2.2.2.1-z25.2.2.2.2.2.2.2.1)))then bif decide ((wI (z25.2.2.2.2.2.2.1-z25.2.2.2.2.2.2.2.1))<z25.2.2.2.1)then (bz m y26.2.1 z25.2.2.2.2.2.1 (wI (z25.2.2.2.2.2.2.1-z25.2.2.2.2.2.2.2.1)) z25.2.2.2.1).bind λy30=>some ((),(y30.2.1,(),(),(),(),()))else some ((),(y26.2.1,(),(),(),(),()))else some ((),(y26.2.1,(),(),(),(),()))else bif decide (z25.2.1<z25.2.2.2.2.2.2.2.1)then bif decide (z25.2.2.2.2.2.2.2.1<z25.2.2.2.2.2.1)then (bz m z25.1 z25.2.1 z25.2.2.2.2.2.2.2.1 z25.2.2.2.2.2.1).bind λy31=>bif decide (z25.2.2.2.2.2.1<(wI (z25.2.2.2.2.2.2.1-z25.2.2.2.2.2.2.2.1)))then bif decide ((wI (z25.2.2.2.2.2.2.1-z25.2.2.2.2.2.2.2.1))<z25.2.2.2.1)then (bz m y31.2.1 z25.2.2.2.2.2.1 (wI (z25.2.2.2.2.2.2.1-z25.2.2.2.2.2.2.2.1)) z25.2.2.2.1).bind λy32=>some ((),(y32.2.1,(),(),(),(),()))else some ((),(y31.2.1,(),(),(),(),()))else some ((),(y31.2.1,(),(),(),(),()))else bif decide (z25.2.2.2.2.2.1<(wI (z25.2.2.2.2.2.2.1-z25.2.2.2.2.2.2.2.1)))then bif decide ((wI (z25.2.2.2.2.2.2.1-z25.2.2.2.2.2.2.2.1))<z25.2.2.2.1)then (bz m z25.1 z25.2.2.2.2.2.1 (wI (z25.2.2.2.2.2.2.1-z25.2.2.2.2.2.2.2.1)) z25.2.2.2.1).bind λy33=>some ((),(y33.2.1,(),(),(),(),()))else some ((),(z25.1,(),(),(),(),()))else some ((),(z25.1,(),(),(),(),()))else bif decide (z25.2.2.2.2.2.1<(wI (z25.2.2.2.2.2.2.1-z25.2.2.2.2.2.2.2.1)))then bif decide ((wI (z25.2.2.2.2.2.2.1-z25.2.2.2.2.2.2.2.1))<z25.2.2.2.1)then (bz m z25.1 z25.2.2.2.2.2.1 (wI (z25.2.2.2.2.2.2.1-z25.2.2.2.2.2.2.2.1)) z25.2.2.2.1).bind λy34=>some ((),(y34.2.1,(),(),(),(),()))else some ((),(z25.1,(),(),(),(),()))else some ((),(z25.1,(),(),(),(),()))else bif decide (z25.2.1<z25.2.2.2.2.2.2.2.1)then bif decide (z25.2.2.2.2.2.2.2.1<z25.2.2.2.2.2.1)then (bz m z25.1 z25.2.1 z25.2.2.2.2.2.2.2.1 z25.2.2.2.2.2.1).bind λy35=>bif decide (z25.2.2.2.2.2.1<(wI (z25.2.2.2.2.2.2.1-z25.2.2.2.2.2.2.2.1)))then bif decide ((wI (z25.2.2.2.2.2.2.1-z25.2.2.2.2.2.2.2.1))<z25.2.2.2.1)then (bz m y35.2.1 z25.2.2.2.2.2.1 (wI (z25.2.2.2.2.2.2.1-z25.2.2.2.2.2.2.2.1)) z25.2.2.2.1).bind λy36=>some ((),(y36.2.1,(),(),(),(),()))else some ((),(y35.2.1,(),(),(),(),()))else some ((),(y35.2.1,(),(),(),(),()))else bif decide (z25.2.2.2.2.2.1<(wI (z25.2.2.2.2.2.2.1-z25.2.2.2.2.2.2.2.1)))then bif decide ((wI (z25.2.2.2.2.2.2.1-z25.2.2.2.2.2.2.2.1))<z25.2.2.2.1)then (bz m z25.1 z25.2.2.2.2.2.1 (wI (z25.2.2.2.2.2.2.1-z25.2.2.2.2.2.2.2.1)) z25.2.2.2.1).bind λy37=>some ((),(y37.2.1,(),(),(),(),()))else some ((),(z25.1,(),(),(),(),()))else some ((),(z25.1,(),(),(),(),()))else bif decide (z25.2.2.2.2.2.1<(wI (z25.2.2.2.2.2.2.1-z25.2.2.2.2.2.2.2.1)))then bif decide ((wI (z25.2.2.2.2.2.2.1-z25.2.2.2.2.2.2.2.1))<z25.2.2.2.1)then (bz m z25.1 z25.2.2.2.2.2.1 (wI (z25.2.2.2.2.2.2.1-z25.2.2.2.2.2.2.2.1)) z25.2.2.2.1).bind λy38=>some ((),(y38.2.1,(),(),(),(),()))else some ((),(z25.1,(),(),(),(),()))else some ((),(z25.1,(),(),(),(),()))
     | .inr e=>e.elim
def kV (m:Nat):Nat->dM->Int->Int->Int->Int->Option tX
 |0,_,_,_,_,_=>none
 |n+1,a,b,c,d,f=>bif decide (f<=b)then (bz m a d (wI (d+c)) f).bind λy1=>kV m n y1.2.1 b c f (wI (f+(wI (2*c))))else some (.inl (a,b,(),c,d,()))
def gK (m:Nat):Nat->dM->Int->Int->Option FJ
 |0,_,_,_=>none
 |n+1,a,b,c=>bif decide (c<b)then (kV m m a b c 0 (wI (2*c))).bind λy1=>match y1 with
   | .inl z2=>bif decide ((wI (z2.2.2.2.2.1+z2.2.2.2.1))<z2.2.1)then (bz m z2.1 z2.2.2.2.2.1 (wI (z2.2.2.2.2.1+z2.2.2.2.1)) z2.2.1).bind λy3=>gK m n y3.2.1 z2.2.1 (wI (z2.2.2.2.1*2))else gK m n z2.1 z2.2.1 (wI (z2.2.2.2.1*2))
   | .inr e=>e.elim else some (.inl (a,()))
def iG (m:Nat):Nat->dM->Int->Int->Int->Int->Option tX
 |0,_,_,_,_,_=>none
 |n+1,a,b,c,d,f=>bif decide (f<=b)then (qk m a d f).bind λy1=>iG m n y1.2.1 b c f (wI (f+c))else some (.inl (a,b,(),c,d,()))
def GT (m:Nat) (a:List gf) (b:Int):Option (Unit×dM×Unit×Unit×Unit):=(iG m m a b 20 0 20).bind λy1=>match y1 with
 | .inl z2=>(qk m z2.1 z2.2.2.2.2.1 z2.2.1).bind λy3=>(gK m m y3.2.1 z2.2.1 z2.2.2.2.1).bind λy4=>match y4 with
  | .inl z5=>some ((),(z5.1,(),(),()))
  | .inr e=>e.elim
 | .inr e=>e.elim
def zp (m:Nat) (a:List gf):Option (Unit×dM×Unit×Unit):=(GT m a (a.length:Int)).bind λy1=>some ((),(y1.2.1,(),()))
def AN (m:Nat) (a:List gf):Option NN:=(G2 m a).bind λy1=>(zp m y1.1).bind λy2=>some (y2.2.1,((),()))
def i6 (m:Nat):Nat->Int->Int->LI->LI->LI->Int->Int->LI->LI->LI->Int->Int->Option tV
 |0,_,_,_,_,_,_,_,_,_,_,_,_=>none
 |n+1,a,b,c,d,f,h,i,j,k,l,o,p=>bif decide (p<o)then if 0<=(wI (p+1))/\(wI (p+1))<(j.length:Int)then if 0<=p/\p<(j.length:Int)then if 0<=(wI (p+1))/\(wI (p+1))<(j.length:Int)then i6 m n a b c d f h i (j.set (0+(wI (p+1)).toNat) (wI ((j.getD (0+(wI (p+1)).toNat) 0)+(j.getD (0+p.toNat) 0)))) k l o (wI (p+1))else none else none else none else some (.inl ((a,b,c,d,f,()),(h,i,j,k,l,()),()))
def gP (m:Nat):Nat->Int->Int->Int->LI->LI->LI->Int->Int->LI->LI->LI->dM->Int->Int->Option ((Int×gU×gU×Unit)⊕Empty)
 |0,_,_,_,_,_,_,_,_,_,_,_,_,_,_=>none
 |n+1,a,b,c,d,f,h,i,j,k,l,o,p,q,r=>bif decide (r<q)then if 0<=r/\r<(p.length:Int)then if l.length+([(p.getD (0+r.toNat) (0,(0,0))).1]:LI).length<=1073741824 then if o.length+([(p.getD (0+r.toNat) (0,(0,0))).2.2]:LI).length<=1073741824 then if 0<=(wI ((p.getD (0+r.toNat) (0,(0,0))).2.1+1))/\(wI ((p.getD (0+r.toNat) (0,(0,0))).2.1+1))<(k.length:Int)then if 0<=(wI ((p.getD (0+r.toNat) (0,(0,0))).2.1+1))/\(wI ((p.getD (0+r.toNat) (0,(0,0))).2.1+1))<(k.length:Int)then gP m n a b c d f h i j (k.set (0+(wI ((p.getD (0+r.toNat) (0,(0,0))).2.1+1)).toNat) (wI ((k.getD (0+(wI ((p.getD (0+r.toNat) (0,(0,0))).2.1+1)).toNat) 0)+1))) (l++([(p.getD (0+r.toNat) (0,(0,0))).1]:LI)) (o++([(p.getD (0+r.toNat) (0,(0,0))).2.2]:LI)) p q (wI (r+1))else none else none else none else none else none else some (.inl (a,(b,c,d,f,h,()),(i,j,k,l,o,()),()))
def wP (m:Nat) (a:Int) (b:Int) (c:List gf):Option PB:=if 0<=(wI (b+1))/\(wI (b+1))<=(wI (b+1))/\(wI (b+1))<=1073741824 then (AN m c).bind λy1=>(gP m m b 0 0 ([]:LI) ([]:LI) ([]:LI) a b (List.replicate (wI (b+1)).toNat (0:Int)) ([]:LI) ([]:LI) y1.1 (y1.1.length:Int) 0).bind λy2=>match y2 with
 | .inl z3=>(i6 m m z3.2.1.1 z3.2.1.2.1 z3.2.1.2.2.1 z3.2.1.2.2.2.1 z3.2.1.2.2.2.2.1 z3.2.2.1.1 z3.2.2.1.2.1 z3.2.2.1.2.2.1 z3.2.2.1.2.2.2.1 z3.2.2.1.2.2.2.2.1 z3.1 0).bind λy4=>match y4 with
  | .inl z5=>some ((z5.2.1.1,z5.2.1.2.1,z5.2.1.2.2.1,z5.2.1.2.2.2.1,z5.2.1.2.2.2.2.1,()),((),(),(),()))
  | .inr e=>e.elim
 | .inr e=>e.elim else none
def kM (m:Nat):Nat->LI->LI->LI->LI->Int->Int->LI->LI->LI->dM->dM->Int->Int->Option ((LI×LI×gU×dM×Unit)⊕Empty)
 |0,_,_,_,_,_,_,_,_,_,_,_,_,_=>none
 |n+1,a,b,c,d,f,h,i,j,k,l,o,p,q=>bif decide (q<p)then if 0<=q/\q<(o.length:Int)then if 0<=(o.getD (0+q.toNat) (0,(0,0))).1/\(o.getD (0+q.toNat) (0,(0,0))).1<(c.length:Int)then bif decide ((c.getD (o.getD (0+q.toNat) (0,(0,0))).1.toNat 0)>=0)then if 0<=(o.getD (0+q.toNat) (0,(0,0))).2.1/\(o.getD (0+q.toNat) (0,(0,0))).2.1<(d.length:Int)then bif decide ((d.getD (o.getD (0+q.toNat) (0,(0,0))).2.1.toNat 0)>=0)then if 0<=(o.getD (0+q.toNat) (0,(0,0))).1/\(o.getD (0+q.toNat) (0,(0,0))).1<(c.length:Int)then if 0<=(o.getD (0+q.toNat) (0,(0,0))).2.1/\(o.getD (0+q.toNat) (0,(0,0))).2.1<(d.length:Int)then if l.length+([(c.getD (o.getD (0+q.toNat) (0,(0,0))).1.toNat 0,(d.getD (o.getD (0+q.toNat) (0,(0,0))).2.1.toNat 0,(o.getD (0+q.toNat) (0,(0,0))).2.2))]:List gf).length<=1073741824 then kM m n a b c d f h i j k (l++([(c.getD (o.getD (0+q.toNat) (0,(0,0))).1.toNat 0,(d.getD (o.getD (0+q.toNat) (0,(0,0))).2.1.toNat 0,(o.getD (0+q.toNat) (0,(0,0))).2.2))]:List gf)) o p (wI (q+1))else none else none else none else kM m n a b c d f h i j k l o p (wI (q+1))else none else kM m n a b c d f h i j k l o p (wI (q+1))else none else none else some (.inl (a,b,(f,h,i,j,k,()),l,()))
def Pc (m:Nat) (a:Int) (b:Int) (c:LI) (d:LI) (f:LI) (h:LI) (i:LI) (j:LI) (k:LI):Option (gU×Unit×Unit×Unit×Unit×Unit×Unit):=(Ii m a b c d f).bind λy1=>(kM m m h i j k 0 0 ([]:LI) ([]:LI) ([]:LI) ([]:List gf) y1.1 (y1.1.length:Int) 0).bind λy2=>match y2 with
 | .inl z3=>(wP m (z3.1.length:Int) (z3.2.1.length:Int) z3.2.2.2.1).bind λy4=>some ((y4.1.1,y4.1.2.1,y4.1.2.2.1,y4.1.2.2.2.1,y4.1.2.2.2.2.1,()),((),(),(),(),(),()))
 | .inr e=>e.elim
def Pk (m:Nat) (a:Int) (b:Int) (c:LI) (d:LI) (f:LI) (h:LI) (i:LI):Option (Pz×Unit×Unit×Unit×Unit):=(C5 m a b c d f).bind λy1=>bif y1.1 !=0 then some (((0,0,[],[],[],()),y1.1,()),((),(),(),()))else bif (h.length:Int) !=a then some (((0,0,[],[],[],()),2,()),((),(),(),()))else bif (i.length:Int) !=b then some (((0,0,[],[],[],()),2,()),((),(),(),()))else (Gv m h a).bind λy2=>(Gv m i b).bind λy3=>bif y2.1.2.1 !=0 then some (((0,0,[],[],[],()),90,()),((),(),(),()))else bif y3.1.2.1 !=0 then some (((0,0,[],[],[],()),90,()),((),(),(),()))else (Pc m a b c d f h i y2.1.1 y3.1.1).bind λy4=>some (((y4.1.1,y4.1.2.1,y4.1.2.2.1,y4.1.2.2.2.1,y4.1.2.2.2.2.1,()),0,()),((),(),(),()))
def lM (m:Nat):Nat->Int->LI->List Bool->LI->Int->Int->Option ((LI×Bool×Unit)⊕(LI×Unit)⊕Empty)
 |0,_,_,_,_,_,_=>none
 |n+1,a,b,c,d,f,h=>bif decide (h<f)then if 0<=h/\h<(d.length:Int)then bif decide ((d.getD h.toNat 0)<0)then some (.inl ([],false,()))else bif decide ((d.getD h.toNat 0)>=a)then some (.inl ([],false,()))else if 0<=(d.getD h.toNat 0)/\(d.getD h.toNat 0)<(c.length:Int)then bif c.getD (0+(d.getD h.toNat 0).toNat) false then some (.inl ([],false,()))else if 0<=(d.getD h.toNat 0)/\(d.getD h.toNat 0)<(b.length:Int)then if 0<=(d.getD h.toNat 0)/\(d.getD h.toNat 0)<(c.length:Int)then lM m n a (b.set (0+(d.getD h.toNat 0).toNat) h) (c.set (0+(d.getD h.toNat 0).toNat) true) d f (wI (h+1))else none else none else none else none else some (.inr (.inl (b,())))
def Bt (m:Nat) (a:LI) (b:Int):Option Px:=bif (a.length:Int) !=b then some (([],false,()),((),(),()))else if 0<=b/\b<=b/\b<=1073741824 then if 0<=b/\b<=b/\b<=1073741824 then (lM m m b (List.replicate b.toNat (0:Int)) (List.replicate b.toNat false) a (a.length:Int) 0).bind λy1=>match y1 with
  | .inl z2=>some ((z2.1,z2.2.1,()),((),(),()))
  | .inr (.inl z3)=>some ((z3.1,true,()),((),(),()))
  | .inr (.inr e)=>e.elim else none else none
def iY (m:Nat):Nat->Int->Int->LI->LI->LI->Int->Int->LI->LI->LI->dM->dM->Int->Int->Option tH
 |0,_,_,_,_,_,_,_,_,_,_,_,_,_,_=>none
 |n+1,a,b,c,d,f,h,i,j,k,l,o,p,q,r=>bif decide (r<q)then if 0<=r/\r<(p.length:Int)then bif decide ((p.getD (0+r.toNat) (0,(0,0))).1>=(p.getD (0+r.toNat) (0,(0,0))).2.1)then if o.length+([((p.getD (0+r.toNat) (0,(0,0))).1,((p.getD (0+r.toNat) (0,(0,0))).2.1,(p.getD (0+r.toNat) (0,(0,0))).2.2))]:List gf).length<=1073741824 then iY m n a b c d f h i j k l (o++([((p.getD (0+r.toNat) (0,(0,0))).1,((p.getD (0+r.toNat) (0,(0,0))).2.1,(p.getD (0+r.toNat) (0,(0,0))).2.2))]:List gf)) p q (wI (r+1))else none else iY m n a b c d f h i j k l o p q (wI (r+1))else none else some (.inl ((a,b,c,d,f,()),(h,i,j,k,l,()),o,()))
def Bq (m:Nat) (a:Int) (b:Int) (c:LI) (d:LI) (f:LI):Option (Pz×Unit×Unit):=(C5 m a b c d f).bind λy1=>bif y1.1 !=0 then some (((0,0,[],[],[],()),y1.1,()),((),()))else (Ii m a b c d f).bind λy2=>(iY m m a b c d f 0 0 ([]:LI) ([]:LI) ([]:LI) ([]:List gf) y2.1 (y2.1.length:Int) 0).bind λy3=>match y3 with
  | .inl z4=>(wP m z4.1.1 z4.1.2.1 z4.2.2.1).bind λy5=>some (((y5.1.1,y5.1.2.1,y5.1.2.2.1,y5.1.2.2.2.1,y5.1.2.2.2.2.1,()),0,()),((),()))
  | .inr e=>e.elim
def lB (m:Nat):Nat->Int->List sw->Int->Int->Option ((List sw×Unit)⊕Empty)
 |0,_,_,_,_=>none
 |n+1,a,b,c,d=>bif decide (d<c)then if 0<=a/\a<=a/\a<=1073741824 then if 0<=d/\d<(b.length:Int)then lB m n a (b.set d.toNat (List.replicate a.toNat false)) c (wI (d+1))else none else none else some (.inl (b,()))
def vV (m:Nat) (a:Int):Option (List sw×Unit×Unit):=if 0<=a/\a<=a/\a<=1073741824 then (lB m m a (List.replicate a.toNat ([]:List Bool)) ((List.replicate a.toNat ([]:List Bool)).length:Int) 0).bind λy1=>match y1 with
 | .inl z2=>some (z2.1,((),()))
 | .inr e=>e.elim else none
def A7 (m:Nat) (a:Int) (b:Int) (c:LI) (d:LI) (f:LI):Option NN:=(C5 m a b c d f).bind λy1=>bif y1.1 !=0 then some (([]:List gf),((),()))else (Ii m a b c d f).bind λy2=>some (y2.1,((),()))
def vU (m:Nat) (a:List sw) (b:Int) (c:Int):Option (Unit×List sw×Unit×Unit×Unit):=bif b !=c then if 0<=b/\b<(a.length:Int)then if 0<=c/\c<(a.length:Int)then if 0<=c/\c<((a.getD b.toNat ([]:List Bool)).length:Int)then if 0<=b/\b<(((a.set b.toNat ((a.getD b.toNat ([]:List Bool)).set c.toNat true)).getD c.toNat ([]:List Bool)).length:Int)then some ((),((a.set b.toNat ((a.getD b.toNat ([]:List Bool)).set c.toNat true)).set c.toNat (((a.set b.toNat ((a.getD b.toNat ([]:List Bool)).set c.toNat true)).getD c.toNat ([]:List Bool)).set b.toNat true),(),(),()))else none else none else none else none else some ((),(a,(),(),()))
def iI (m:Nat):Nat->LI->List Bool->Int->Int->Option ob
 |0,_,_,_,_=>none
 |n+1,a,b,c,d=>bif decide (d<c)then if 0<=d/\d<(b.length:Int)then bif b.getD d.toNat false then if a.length+([d]:LI).length<=1073741824 then iI m n (a++([d]:LI)) b c (wI (d+1))else none else iI m n a b c (wI (d+1))else none else some (.inl (a,()))
def zg (m:Nat) (a:List sw) (b:Int):Option tx:=if 0<=b/\b<(a.length:Int)then (iI m m ([]:LI) (a.getD b.toNat ([]:List Bool)) ((a.getD b.toNat ([]:List Bool)).length:Int) 0).bind λy1=>match y1 with
 | .inl z2=>some (z2.1,((),(),()))
 | .inr e=>e.elim else none
def lA (m:Nat):Nat->List sw->List LI->List LI->Int->Int->Option ((sx×sx×Unit)⊕Empty)
 |0,_,_,_,_,_=>none
 |n+1,a,b,c,d,f=>bif decide (f<d)then (zg m a f).bind λy1=>if 0<=f/\f<(c.length:Int)then lA m n a b (c.set f.toNat y1.1) d (wI (f+1))else none else some (.inl ((b,()),(c,()),()))
def vT (m:Nat) (a:List sw):Option (sx×Unit×Unit):=if 0<=(a.length:Int)/\(a.length:Int)<=(a.length:Int)/\(a.length:Int)<=1073741824 then (lA m m a ([]:List LI) (List.replicate (a.length:Int).toNat ([]:LI)) (a.length:Int) 0).bind λy1=>match y1 with
 | .inl z2=>some ((z2.2.1.1,()),((),()))
 | .inr e=>e.elim else none
def lL (m:Nat):Nat->List LI->List sw->dM->Int->Int->Option Ud
 |0,_,_,_,_,_=>none
 |n+1,a,b,c,d,f=>bif decide (f<d)then if 0<=f/\f<(c.length:Int)then (vU m b (c.getD (0+f.toNat) (0,(0,0))).1 (c.getD (0+f.toNat) (0,(0,0))).2.1).bind λy1=>lL m n a y1.2.1 c d (wI (f+1))else none else some (.inl ((a,()),b,()))
def Bo (m:Nat) (a:Int) (b:Int) (c:LI) (d:LI) (f:LI):Option ((sx×Int×Unit)×Unit×Unit):=(C5 m a b c d f).bind λy1=>bif y1.1 !=0 then some (((([]:List LI),()),y1.1,()),((),()))else bif a !=b then some (((([]:List LI),()),5,()),((),()))else (vV m b).bind λy2=>(A7 m a b c d f).bind λy3=>(lL m m ([]:List LI) y2.1 y3.1 (y3.1.length:Int) 0).bind λy4=>match y4 with
   | .inl z5=>(vT m z5.2.1).bind λy6=>some (((y6.1.1,()),0,()),((),()))
   | .inr e=>e.elim
def kU (m:Nat):Nat->Int->Int->LI->Int->Int->Option xE
 |0,_,_,_,_,_=>none
 |n+1,a,b,c,d,f=>bif decide (f<d)then if 0<=f/\f<(c.length:Int)then bif decide ((c.getD f.toNat 0)<=b)then some (.inl (false,()))else bif decide ((c.getD f.toNat 0)>=a)then some (.inl (false,()))else kU m n a (c.getD f.toNat 0) c d (wI (f+1))else none else some (.inr (.inl ()))
def yI (m:Nat) (a:LI) (b:Int):Option xD:=(kU m m b (-1) a (a.length:Int) 0).bind λy1=>match y1 with
 | .inl z2=>some (z2.1,((),(),()))
 | .inr (.inl z3)=>some (true,((),(),()))
 | .inr (.inr e)=>e.elim
def zR (m:Nat) (a:Int):Option pU:=some (a !=a,((),()))
def iX (m:Nat):Nat->LI->Int->Int->Int->Int->Option Pw
 |0,_,_,_,_,_=>none
 |n+1,a,b,c,d,f=>bif decide (d<f)then if 0<=(wI (az .u64 (wJ (wI (d+f))) 1))/\(wI (az .u64 (wJ (wI (d+f))) 1))<(a.length:Int)then (qu m (a.getD (wI (az .u64 (wJ (wI (d+f))) 1)).toNat 0) b).bind λy1=>bif y1.1 then iX m n a b c (wI ((wI (az .u64 (wJ (wI (d+f))) 1))+1)) f else iX m n a b c d (wI (az .u64 (wJ (wI (d+f))) 1))else none else some (.inl (a,b,c,d,()))
def Bb (m:Nat) (a:LI) (b:Int):Option ((Int×Bool×Unit)×Unit×Unit×Unit):=(iX m m a b (a.length:Int) 0 (a.length:Int)).bind λy1=>match y1 with
 | .inl z2=>bif decide (z2.2.2.2.1<z2.2.2.1)then if 0<=z2.2.2.2.1/\z2.2.2.2.1<(z2.1.length:Int)then bif (z2.1.getD z2.2.2.2.1.toNat 0)==z2.2.1 then some ((z2.2.2.2.1,true,()),((),(),()))else if 0<=z2.2.2.2.1/\z2.2.2.2.1<(z2.1.length:Int)then (zR m (z2.1.getD z2.2.2.2.1.toNat 0)).bind λy3=>bif y3.1 then (zR m z2.2.1).bind λy4=>some ((z2.2.2.2.1,y4.1,()),((),(),()))else some ((z2.2.2.2.1,false,()),((),(),()))else none else none else some ((z2.2.2.2.1,false,()),((),(),()))
 | .inr e=>e.elim
def sS (m:Nat) (a:List LI) (b:Int) (c:Int):Option NJ:=if 0<=b/\b<(a.length:Int)then (Bb m (a.getD b.toNat ([]:LI)) c).bind λy1=>some (y1.1.2.1,((),(),(),()))else none
def k8 (m:Nat):Nat->List LI->Int->List LI->Int->Int->LI->Int->Int->Option (Ca⊕(sx×List LI×Int×Int×Unit)⊕Empty)
 |0,_,_,_,_,_,_,_,_=>none
 |n+1,a,b,c,d,f,h,i,j=>bif decide (j<i)then if 0<=j/\j<(h.length:Int)then (sS m a (h.getD j.toNat 0) b).bind λy1=>bif !y1.1 then some (.inl (1,()))else k8 m n a b c d f h i (wI (j+1))else none else some (.inr (.inl ((a,()),c,d,f,())))
def k9 (m:Nat):Nat->List LI->List LI->Int->Int->Option ub
 |0,_,_,_,_=>none
 |n+1,a,b,c,d=>bif decide (d<c)then if 0<=d/\d<(b.length:Int)then (k8 m m a d b c d (b.getD d.toNat ([]:LI)) ((b.getD d.toNat ([]:LI)).length:Int) 0).bind λy1=>match y1 with
   | .inl z2=>some (.inl (z2.1,()))
   | .inr (.inl z3)=>k9 m n z3.1.1 z3.2.1 z3.2.2.1 (wI (z3.2.2.2.1+1))
   | .inr (.inr e)=>e.elim else none else some (.inr (.inl ()))
def ld (m:Nat):Nat->List LI->Int->List LI->Int->Int->Option (Ca⊕(sx×Unit)⊕Empty)
 |0,_,_,_,_,_=>none
 |n+1,a,b,c,d,f=>bif decide (f<d)then if 0<=f/\f<(c.length:Int)then (yI m (c.getD f.toNat ([]:LI)) b).bind λy1=>bif !y1.1 then some (.inl (1,()))else (sS m a f f).bind λy2=>bif y2.1 then some (.inl (1,()))else ld m n a b c d (wI (f+1))else none else some (.inr (.inl ((a,()),())))
def sT (m:Nat) (a:List LI):Option l7:=bif decide ((a.length:Int)>200)then some (6,((),()))else (ld m m a (a.length:Int) a (a.length:Int) 0).bind λy1=>match y1 with
  | .inl z2=>some (z2.1,((),()))
  | .inr (.inl z3)=>(k9 m m z3.1.1 z3.1.1 (z3.1.1.length:Int) 0).bind λy4=>match y4 with
   | .inl z5=>some (z5.1,((),()))
   | .inr (.inl z6)=>some (0,((),()))
   | .inr (.inr e)=>e.elim
  | .inr (.inr e)=>e.elim
def GX (m:Nat) (a:List LI) (b:Int):Option xD:=bif decide (b>=0)then some (decide (b<(a.length:Int)),((),(),()))else some (false,((),(),()))
def GY (m:Nat) (a:Int) (b:List (List LI)×Nat):Option xD:=(GX m (b.1.getD b.2 ([]:List LI)) a).bind λy1=>some (!y1.1,((),(),()))
def kT (m:Nat):Nat->LI->(List (List LI)×Nat)->Int->Int->Option ub
 |0,_,_,_,_=>none
 |n+1,a,b,c,d=>bif decide (d<c)then if 0<=d/\d<(a.length:Int)then (GY m (a.getD d.toNat 0) (b.1,b.2)).bind λy1=>bif y1.1 then some (.inl (d,()))else kT m n a (b.1,b.2) c (wI (d+1))else none else some (.inr (.inl ()))
def GS (m:Nat) (a:LI) (b:List (List LI)×Nat):Option jY:=(kT m m a (b.1,b.2) (a.length:Int) 0).bind λy1=>match y1 with
 | .inl z2=>some (z2.1,((),(),()))
 | .inr (.inl z3)=>some ((-1),((),(),()))
 | .inr (.inr e)=>e.elim
def yY (m:Nat) (a:LI) (b:List (List LI)×Nat):Option xD:=(GS m a (b.1,b.2)).bind λy1=>some (decide (y1.1>=0),((),(),()))
def GQ (m:Nat) (a:LI):Option ((List LI×Nat)×Unit×Unit):=some (([a],0),((),()))
def GP (m:Nat) (a:List LI×Nat):Option xC:=if(a.1.getD a.2 []).length<=1073741824 then some (a.1.getD a.2 [],((),()))else none
def LA (m:Nat) (a:Int):Option l7:=bif decide (a>=4294967296)then bif decide ((az .u64 a 32)>=65536)then bif decide ((az .u64 (az .u64 a 32) 16)>=256)then if 0<=(b9 (az .u64 (az .u64 (az .u64 a 32) 16) 8))/\(b9 (az .u64 (az .u64 (az .u64 a 32) 16) 8))<(Qi.length:Int)then some (wI (56+(wI (Qi.getD (b9 (az .u64 (az .u64 (az .u64 a 32) 16) 8)).toNat 0))),((),()))else none else if 0<=(b9 (az .u64 (az .u64 a 32) 16))/\(b9 (az .u64 (az .u64 a 32) 16))<(Qi.length:Int)then some (wI (48+(wI (Qi.getD (b9 (az .u64 (az .u64 a 32) 16)).toNat 0))),((),()))else none else bif decide ((az .u64 a 32)>=256)then if 0<=(b9 (az .u64 (az .u64 a 32) 8))/\(b9 (az .u64 (az .u64 a 32) 8))<(Qi.length:Int)then some (wI (40+(wI (Qi.getD (b9 (az .u64 (az .u64 a 32) 8)).toNat 0))),((),()))else none else if 0<=(b9 (az .u64 a 32))/\(b9 (az .u64 a 32))<(Qi.length:Int)then some (wI (32+(wI (Qi.getD (b9 (az .u64 a 32)).toNat 0))),((),()))else none else bif decide (a>=65536)then bif decide ((az .u64 a 16)>=256)then if 0<=(b9 (az .u64 (az .u64 a 16) 8))/\(b9 (az .u64 (az .u64 a 16) 8))<(Qi.length:Int)then some (wI (24+(wI (Qi.getD (b9 (az .u64 (az .u64 a 16) 8)).toNat 0))),((),()))else none else if 0<=(b9 (az .u64 a 16))/\(b9 (az .u64 a 16))<(Qi.length:Int)then some (wI (16+(wI (Qi.getD (b9 (az .u64 a 16)).toNat 0))),((),()))else none else bif decide (a>=256)then if 0<=(b9 (az .u64 a 8))/\(b9 (az .u64 a 8))<(Qi.length:Int)then some (wI (8+(wI (Qi.getD (b9 (az .u64 a 8)).toNat 0))),((),()))else none else if 0<=(b9 a)/\(b9 a)<(Qi.length:Int)then some (wI (0+(wI (Qi.getD (b9 a).toNat 0))),((),()))else none
def A5 (m:Nat) (a:Int):Option l7:=(LA m a).bind λy1=>some (y1.1,((),()))
def lg (m:Nat):Nat->LI->Int->Int->Int->Int->Option Pw
 |0,_,_,_,_,_=>none
 |n+1,a,b,c,d,f=>bif decide (f>b)then if 0<=f/\f<(a.length:Int)then if 0<=(wI (f-1))/\(wI (f-1))<(a.length:Int)then (qu m (a.getD (0+f.toNat) 0) (a.getD (0+(wI (f-1)).toNat) 0)).bind λy1=>bif y1.1 then if 0<=(wI (f-1))/\(wI (f-1))<(a.length:Int)then if 0<=f/\f<(a.length:Int)then if 0<=f/\f<(a.length:Int)then if 0<=(wI (f-1))/\(wI (f-1))<((a.set (0+f.toNat) (a.getD (0+(wI (f-1)).toNat) 0)).length:Int)then lg m n ((a.set (0+f.toNat) (a.getD (0+(wI (f-1)).toNat) 0)).set (0+(wI (f-1)).toNat) (a.getD (0+f.toNat) 0)) b c d (wI (f-1))else none else none else none else none else some (.inl (a,b,c,d,()))else none else none else some (.inl (a,b,c,d,()))
def iK (m:Nat):Nat->LI->Int->Int->Int->Option ob
 |0,_,_,_,_=>none
 |n+1,a,b,c,d=>bif decide (d<c)then (lg m m a b c d d).bind λy1=>match y1 with
   | .inl z2=>iK m n z2.1 z2.2.1 z2.2.2.1 (wI (z2.2.2.2.1+1))
   | .inr e=>e.elim else some (.inl (a,()))
def G8 (m:Nat) (a:LI) (b:Int) (c:Int):Option (Unit×LI×Unit×Unit×Unit):=(iK m m a b c (wI (b+1))).bind λy1=>match y1 with
 | .inl z2=>some ((),(z2.1,(),(),()))
 | .inr e=>e.elim
def qH (m:Nat):Nat->LI->Int->Int->Int->Bool->Bool->Option ob
 |0,_,_,_,_,_,_=>none
 |n+1,a,b,c,d,f,h=>bif decide ((wI (c-b))<=12)then (G8 m a b c).bind λy1=>some (.inl (y1.2.1,()))else bif d==0 then none else bif !f then none else none
def Hm (m:Nat) (a:LI) (b:Int) (c:Int) (d:Int):Option (Unit×LI×Unit×Unit×Unit×Unit):=(qH m m a b c d true true).bind λy1=>match y1 with
 | .inl z2=>some ((),(z2.1,(),(),(),()))
 | .inr e=>e.elim
def wY (m:Nat) (a:LI):Option (Unit×LI×Unit):=(A5 m (wJ (a.length:Int))).bind λy1=>(Hm m a 0 (a.length:Int) y1.1).bind λy2=>some ((),(y2.2.1,()))
def GR (m:Nat) (a:List LI×Nat):Option xC:=(GP m (a.1,a.2)).bind λy1=>(wY m y1.1).bind λy2=>some (y2.2.1,((),()))
def nF (m:Nat):Nat->LI->Int->(Nat×Nat)->Int->Option FI
 |0,_,_,_,_=>none
 |n+1,a,b,c,d=>bif decide (d<(((a.drop c.1).take c.2).length:Int))then if 0<=d/\d<(((a.drop c.1).take c.2).length:Int)then if 0<=(wI (d-1))/\(wI (d-1))<(((a.drop c.1).take c.2).length:Int)then bif (a.getD (c.1+d.toNat) 0) !=(a.getD (c.1+(wI (d-1)).toNat) 0)then if 0<=d/\d<(((a.drop c.1).take c.2).length:Int)then if 0<=b/\b<(a.length:Int)then nF m n (a.set (0+b.toNat) (a.getD (c.1+d.toNat) 0)) (wI (b+1)) (c.1,c.2) (wI (d+1))else none else none else nF m n a b (c.1,c.2) (wI (d+1))else none else none else some (.inl (a,b,()))
def kS (m:Nat):Nat->LI->Int->Option ob
 |0,_,_=>none
 |n+1,a,b=>bif decide (b<(a.length:Int))then if 0<=b/\b<(a.length:Int)then if 0<=(wI (b-1))/\(wI (b-1))<(a.length:Int)then bif (a.getD (0+b.toNat) 0)==(a.getD (0+(wI (b-1)).toNat) 0)then if 0<=b/\b<=(a.length:Int)/\(a.length:Int)<=(a.length:Int)then (nF m m a b (0+b.toNat,a.length-b.toNat) 1).bind λy1=>match y1 with
    | .inl z2=>if 0<=z2.2.1/\z2.2.1<=(z2.1.length:Int)/\(z2.1.length:Int)<=(z2.1.length:Int)then none else none
    | .inr e=>e.elim else none else kS m n a (wI (b+1))else none else none else some (.inl (a,()))
def yF (m:Nat) (a:LI):Option xC:=bif decide ((a.length:Int)<2)then some (a,((),()))else (kS m m a 1).bind λy1=>match y1 with
  | .inl z2=>some (z2.1,((),()))
  | .inr e=>e.elim
def yX (m:Nat) (a:LI):Option pU:=(GQ m a).bind λy1=>(GR m (y1.1.1,y1.1.2)).bind λy2=>(yF m y2.1).bind λy3=>some (decide ((y3.1.length:Int)<(a.length:Int)),((),()))
def At (m:Nat) (a:List LI) (b:LI):Option jY:=(sT m a).bind λy1=>bif y1.1 !=0 then some (y1.1,((),(),()))else bif (b.length:Int) !=(a.length:Int)then some (2,((),(),()))else (yY m b ([a],0)).bind λy2=>bif y2.1 then some (90,((),(),()))else (yX m b).bind λy3=>bif y3.1 then some (90,((),(),()))else some (0,((),(),()))
def gL (m:Nat):Nat->LI->List LI->List LI->List sw->Int->Int->LI->Int->Int->LI->Int->Int->Option ((LI×sx×sx×List sw×LI×Int×Int×Unit)⊕Empty)
 |0,_,_,_,_,_,_,_,_,_,_,_,_=>none
 |n+1,a,b,c,d,f,h,i,j,k,l,o,p=>bif decide (p<o)then if 0<=p/\p<(l.length:Int)then (sS m b h (l.getD p.toNat 0)).bind λy1=>bif y1.1 then (vU m d f p).bind λy2=>gL m n a b c y2.2.1 f h i j k l o (wI (p+1))else gL m n a b c d f h i j k l o (wI (p+1))else none else some (.inl (a,(b,()),(c,()),d,i,j,k,()))
def lz (m:Nat):Nat->LI->List LI->List LI->List sw->LI->Int->Int->Option Ud
 |0,_,_,_,_,_,_,_=>none
 |n+1,a,b,c,d,f,h,i=>bif decide (i<h)then if 0<=i/\i<(f.length:Int)then if(0:Int)<=0/\0<=i/\i<=(a.length:Int)then (gL m m a b c d i (f.getD i.toNat 0) f h i (a.take i.toNat) ((a.take i.toNat).length:Int) 0).bind λy1=>match y1 with
   | .inl z2=>lz m n z2.1 z2.2.1.1 z2.2.2.1.1 z2.2.2.2.1 z2.2.2.2.2.1 z2.2.2.2.2.2.1 (wI (z2.2.2.2.2.2.2.1+1))
   | .inr e=>e.elim else none else none else some (.inl ((c,()),d,()))
def Hf (m:Nat) (a:List LI) (b:LI):Option (sx×Unit×Unit×Unit):=(vV m (b.length:Int)).bind λy1=>(lz m m b a ([]:List LI) y1.1 b (b.length:Int) 0).bind λy2=>match y2 with
 | .inl z3=>(vT m z3.2.1).bind λy4=>some ((y4.1.1,()),((),(),()))
 | .inr e=>e.elim
def Bm (m:Nat) (a:List LI) (b:LI):Option ((sx×Int×Unit)×Unit×Unit×Unit):=(At m a b).bind λy1=>bif y1.1 !=0 then some (((([]:List LI),()),y1.1,()),((),(),()))else (Hf m a b).bind λy2=>some (((y2.1.1,()),0,()),((),(),()))
def i9 (m:Nat):Nat->LI->Int->Option FI
 |0,_,_=>none
 |n+1,a,b=>bif decide (b>0)then if 0<=(wI (b-1))/\(wI (b-1))<(a.length:Int)then bif (a.getD (wI (b-1)).toNat 0)==0 then i9 m n a (wI (b-1))else some (.inl (a,b,()))else none else some (.inl (a,b,()))
def cZ (m:Nat) (a:LI):Option xC:=(i9 m m a (a.length:Int)).bind λy1=>match y1 with
 | .inl z2=>if(0:Int)<=0/\0<=z2.2.1/\z2.2.1<=(z2.1.length:Int)then some (z2.1.take z2.2.1.toNat,((),()))else none
 | .inr e=>e.elim
def dA (m:Nat) (a:Bool) (b:LI):Option ud:=(cZ m b).bind λy1=>bif (y1.1.length:Int)==0 then some ((false,[],()),((),(),()))else some ((a,y1.1,()),((),(),()))
def jS (m:Nat) (a:Int):Option Cb:=bif decide (a<0)then (dA m (decide (a<0)) ([wK (qp .u64 (wJ (0-(wJ a))) 4294967295),wK (az .u64 (wJ (0-(wJ a))) 32)]:LI)).bind λy1=>some ((y1.1.1,y1.1.2.1,()),((),()))else (dA m (decide (a<0)) ([wK (qp .u64 (wJ a) 4294967295),wK (az .u64 (wJ a) 32)]:LI)).bind λy2=>some ((y2.1.1,y2.1.2.1,()),((),()))
def s9 (m:Nat) (a:Int):Option pU:=some ((qp .u64 a 9223372036854775808) !=0,((),()))
def qL (m:Nat) (a:LI):Option xC:=if([]:LI).length+a.length<=1073741824 then some (a,((),()))else none
def kN (m:Nat) (a:Bool) (b:LI):Option Cb:=(qL m b).bind λy1=>(dA m (!a) y1.1).bind λy2=>some ((y2.1.1,y2.1.2.1,()),((),()))
def qG (m:Nat):Option NL:=some ((true,false,[],0,()),())
def BE (m:Nat) (a:Bool) (b:LI):Option Cb:=(qL m b).bind λy1=>(dA m a y1.1).bind λy2=>some ((y2.1.1,y2.1.2.1,()),((),()))
def ja (m:Nat) (a:Bool) (b:LI):Option l7:=(cZ m b).bind λy1=>bif (y1.1.length:Int)==0 then some (0,((),()))else bif a then some ((-1),((),()))else some (1,((),()))
def lF (m:Nat):Nat->LI->Int->Int->Option ub
 |0,_,_,_=>none
 |n+1,a,b,c=>bif decide (c<b)then if 0<=c/\c<(a.length:Int)then bif (a.getD c.toNat 0) !=0 then (vz m (a.getD c.toNat 0)).bind λy1=>some (.inl (wI ((wI (c*32))+y1.1),()))else lF m n a b (wI (c+1))else none else some (.inr (.inl ()))
def v9 (m:Nat) (a:Bool) (b:LI):Option l7:=(lF m m b (b.length:Int) 0).bind λy1=>match y1 with
 | .inl z2=>some (z2.1,((),()))
 | .inr (.inl z3)=>some (0,((),()))
 | .inr (.inr e)=>e.elim
def vy (m:Nat) (a:LI):Option l7:=bif (a.length:Int)==0 then some (0,((),()))else if 0<=(wI ((a.length:Int)-1))/\(wI ((a.length:Int)-1))<(a.length:Int)then (sX m (a.getD (wI ((a.length:Int)-1)).toNat 0)).bind λy1=>some (wI ((wI ((wI ((a.length:Int)-1))*32))+y1.1),((),()))else none
def nO (m:Nat) (a:Bool) (b:LI):Option l7:=(cZ m b).bind λy1=>(vy m y1.1).bind λy2=>some (y2.1,((),()))
def lR (m:Nat):Nat->Int->Int->LI->LI->Int->Int->Option ob
 |0,_,_,_,_,_,_=>none
 |n+1,a,b,c,d,f,h=>bif decide (h<f)then if 0<=h/\h<(d.length:Int)then if 0<=b then if 0<=(wI (a+h))/\(wI (a+h))<(c.length:Int)then if 0<=(wI (a+h))/\(wI (a+h))<(c.length:Int)then if 0<=(wI ((wI (a+h))+1))/\(wI ((wI (a+h))+1))<((c.set (0+(wI (a+h)).toNat) (bc .u32 (c.getD (0+(wI (a+h)).toNat) 0) (wK (qp .u64 (bu .u64 (wJ (d.getD h.toNat 0)) b) 4294967295)))).length:Int)then lR m n a b ((c.set (0+(wI (a+h)).toNat) (bc .u32 (c.getD (0+(wI (a+h)).toNat) 0) (wK (qp .u64 (bu .u64 (wJ (d.getD h.toNat 0)) b) 4294967295)))).set (0+(wI ((wI (a+h))+1)).toNat) (wK (az .u64 (bu .u64 (wJ (d.getD h.toNat 0)) b) 32))) d f (wI (h+1))else none else none else none else none else none else some (.inl (c,()))
def qN (m:Nat) (a:LI) (b:Int):Option tx:=bif (a.length:Int)==0 then some ([],((),(),()))else if 0<=(wI ((wI ((wI (Int.tdiv b 32))+(a.length:Int)))+1))/\(wI ((wI ((wI (Int.tdiv b 32))+(a.length:Int)))+1))<=(wI ((wI ((wI (Int.tdiv b 32))+(a.length:Int)))+1))/\(wI ((wI ((wI (Int.tdiv b 32))+(a.length:Int)))+1))<=1073741824 then (lR m m (wI (Int.tdiv b 32)) (wJ (Int.tmod b 32)) (List.replicate (wI ((wI ((wI (Int.tdiv b 32))+(a.length:Int)))+1)).toNat (0:Int)) a (a.length:Int) 0).bind λy1=>match y1 with
  | .inl z2=>(cZ m z2.1).bind λy3=>some (y3.1,((),(),()))
  | .inr e=>e.elim else none
def Hj (m:Nat) (a:Int):Option pU:=some (a !=0,((),()))
def lf (m:Nat):Nat->LI->Int->Int->Option ub
 |0,_,_,_=>none
 |n+1,a,b,c=>bif decide (c<b)then if 0<=c/\c<(a.length:Int)then (Hj m (a.getD c.toNat 0)).bind λy1=>bif y1.1 then some (.inl (c,()))else lf m n a b (wI (c+1))else none else some (.inr (.inl ()))
def G3 (m:Nat) (a:LI):Option jY:=(lf m m a (a.length:Int) 0).bind λy1=>match y1 with
 | .inl z2=>some (z2.1,((),(),()))
 | .inr (.inl z3)=>some ((-1),((),(),()))
 | .inr (.inr e)=>e.elim
def AX (m:Nat) (a:LI):Option xD:=(G3 m a).bind λy1=>some (decide (y1.1>=0),((),(),()))
def fh (m:Nat):Nat->LI->Int->Int->Bool->LI->Int->Int->Option (n9⊕Empty)
 |0,_,_,_,_,_,_,_=>none
 |n+1,a,b,c,d,f,h,i=>bif decide (i<h)then if 0<=(wI (b+i))/\(wI (b+i))<(a.length:Int)then bif decide ((wI ((wI (b+i))+1))<(a.length:Int))then if 0<=(wI ((wI (b+i))+1))/\(wI ((wI (b+i))+1))<(a.length:Int)then if 0<=c then if 0<=i/\i<(f.length:Int)then fh m n a b c d (f.set (0+i.toNat) (wK (qp .u64 (az .u64 (bc .u64 (wJ (a.getD (wI (b+i)).toNat 0)) (bu .u64 (wJ (a.getD (wI ((wI (b+i))+1)).toNat 0)) 32)) c) 4294967295))) h (wI (i+1))else none else none else none else if 0<=c then if 0<=i/\i<(f.length:Int)then fh m n a b c d (f.set (0+i.toNat) (wK (qp .u64 (az .u64 (wJ (a.getD (wI (b+i)).toNat 0)) c) 4294967295))) h (wI (i+1))else none else none else none else some (.inl (d,f,()))
def s7 (m:Nat) (a:LI) (b:Int):Option Px:=bif decide ((wI (Int.tdiv b 32))>=(a.length:Int))then some (([],decide ((a.length:Int)>0),()),((),(),()))else if(0:Int)<=0/\0<=(wI (Int.tdiv b 32))/\(wI (Int.tdiv b 32))<=(a.length:Int)then (AX m (a.take (wI (Int.tdiv b 32)).toNat)).bind λy1=>bif y1.1 then if 0<=(wI ((a.length:Int)-(wI (Int.tdiv b 32))))/\(wI ((a.length:Int)-(wI (Int.tdiv b 32))))<=(wI ((a.length:Int)-(wI (Int.tdiv b 32))))/\(wI ((a.length:Int)-(wI (Int.tdiv b 32))))<=1073741824 then (fh m m a (wI (Int.tdiv b 32)) (wJ (Int.tmod b 32)) true (List.replicate (wI ((a.length:Int)-(wI (Int.tdiv b 32)))).toNat (0:Int)) ((List.replicate (wI ((a.length:Int)-(wI (Int.tdiv b 32)))).toNat (0:Int)).length:Int) 0).bind λy2=>match y2 with
   | .inl z3=>(cZ m z3.2.1).bind λy4=>some ((y4.1,z3.1,()),((),(),()))
   | .inr e=>e.elim else none else if 0<=(wI (Int.tdiv b 32))/\(wI (Int.tdiv b 32))<(a.length:Int)then if 0<=(wJ (Int.tmod b 32))then if 0<=(wI ((a.length:Int)-(wI (Int.tdiv b 32))))/\(wI ((a.length:Int)-(wI (Int.tdiv b 32))))<=(wI ((a.length:Int)-(wI (Int.tdiv b 32))))/\(wI ((a.length:Int)-(wI (Int.tdiv b 32))))<=1073741824 then (fh m m a (wI (Int.tdiv b 32)) (wJ (Int.tmod b 32)) ((qp .u32 (a.getD (wI (Int.tdiv b 32)).toNat 0) (wK ((bu .u32 1 (wJ (Int.tmod b 32)))-1))) !=0) (List.replicate (wI ((a.length:Int)-(wI (Int.tdiv b 32)))).toNat (0:Int)) ((List.replicate (wI ((a.length:Int)-(wI (Int.tdiv b 32)))).toNat (0:Int)).length:Int) 0).bind λy5=>match y5 with
   | .inl z6=>(cZ m z6.2.1).bind λy7=>some ((y7.1,z6.1,()),((),(),()))
   | .inr e=>e.elim else none else none else none else none
def fR (m:Nat):Nat->LI->LI->Int->LI->Int->Int->Option FI
 |0,_,_,_,_,_,_=>none
 |n+1,a,b,c,d,f,h=>bif decide (h<f)then if 0<=h/\h<(d.length:Int)then bif decide (h<(a.length:Int))then if 0<=h/\h<(a.length:Int)then if b.length+([wK (qp .u64 (wJ ((wJ ((wJ (d.getD h.toNat 0))+c))+(wJ (a.getD h.toNat 0)))) 4294967295)]:LI).length<=1073741824 then fR m n a (b++([wK (qp .u64 (wJ ((wJ ((wJ (d.getD h.toNat 0))+c))+(wJ (a.getD h.toNat 0)))) 4294967295)]:LI)) (az .u64 (wJ ((wJ ((wJ (d.getD h.toNat 0))+c))+(wJ (a.getD h.toNat 0)))) 32) d f (wI (h+1))else none else none else if b.length+([wK (qp .u64 (wJ ((wJ (d.getD h.toNat 0))+c)) 4294967295)]:LI).length<=1073741824 then fR m n a (b++([wK (qp .u64 (wJ ((wJ (d.getD h.toNat 0))+c)) 4294967295)]:LI)) (az .u64 (wJ ((wJ (d.getD h.toNat 0))+c)) 32) d f (wI (h+1))else none else none else some (.inl (b,c,()))
def qM (m:Nat) (a:LI) (b:LI):Option tx:=bif decide ((a.length:Int)<(b.length:Int))then if(0:Int)<=0/\0<=(wI ((b.length:Int)+1))/\(wI ((b.length:Int)+1))<=1073741824 then (fR m m a (List.replicate 0 (0:Int)) 0 b (b.length:Int) 0).bind λy1=>match y1 with
  | .inl z2=>if z2.1.length+([wK z2.2.1]:LI).length<=1073741824 then (cZ m (z2.1++([wK z2.2.1]:LI))).bind λy3=>some (y3.1,((),(),()))else none
  | .inr e=>e.elim else none else if(0:Int)<=0/\0<=(wI ((a.length:Int)+1))/\(wI ((a.length:Int)+1))<=1073741824 then (fR m m b (List.replicate 0 (0:Int)) 0 a (a.length:Int) 0).bind λy4=>match y4 with
  | .inl z5=>if z5.1.length+([wK z5.2.1]:LI).length<=1073741824 then (cZ m (z5.1++([wK z5.2.1]:LI))).bind λy6=>some (y6.1,((),(),()))else none
  | .inr e=>e.elim else none
def C4 (m:Nat) (a:Bool) (b:LI) (c:Int):Option ((n9×Int×Unit)×Unit×Unit×Unit):=bif decide (c<(-1048576))then some (((false,[],()),3,()),((),(),()))else bif decide (c>1048576)then some (((false,[],()),3,()),((),(),()))else (cZ m b).bind λy1=>bif decide (c>=0)then (qN m y1.1 c).bind λy2=>(dA m a y2.1).bind λy3=>some (((y3.1.1,y3.1.2.1,()),0,()),((),(),()))else (s7 m y1.1 (wI (0-c))).bind λy4=>bif a then bif y4.1.2.1 then (qM m y4.1.1 ([1]:LI)).bind λy5=>(dA m a y5.1).bind λy6=>some (((y6.1.1,y6.1.2.1,()),0,()),((),(),()))else (dA m a y4.1.1).bind λy7=>some (((y7.1.1,y7.1.2.1,()),0,()),((),(),()))else (dA m a y4.1.1).bind λy8=>some (((y8.1.1,y8.1.2.1,()),0,()),((),(),()))
def nN (m:Nat):Nat->Int->Bool->LI->Bool->LI->Option tq
 |0,_,_,_,_,_=>none
 |n+1,a,b,c,d,f=>bif decide (a>1048576)then (C4 m b c (-1048576)).bind λy1=>nN m n (wI (a-1048576)) y1.1.1.1 y1.1.1.2.1 d f else some (.inl (a,(b,c,()),(d,f,()),()))
def v8 (m:Nat) (a:Bool) (b:LI) (c:Int):Option ud:=(nN m m c a b false ([]:LI)).bind λy1=>match y1 with
 | .inl z2=>(C4 m z2.2.1.1 z2.2.1.2.1 (wI (0-z2.1))).bind λy3=>some ((y3.1.1.1,y3.1.1.2.1,()),((),(),()))
 | .inr e=>e.elim
def gQ (m:Nat) (a:Bool) (b:Bool) (c:LI) (d:Int):Option ((oc×Bool×Unit)×Unit×Unit):=bif a then (qG m).bind λy1=>some (((y1.1.1,y1.1.2.1,y1.1.2.2.1,y1.1.2.2.2.1,()),false,()),((),()))else (BE m b c).bind λy2=>(ja m y2.1.1 y2.1.2.1).bind λy3=>bif y3.1==0 then some (((false,false,[],0,()),true,()),((),()))else (v9 m y2.1.1 y2.1.2.1).bind λy4=>(nO m y2.1.1 y2.1.2.1).bind λy5=>bif decide (d>(wI (65536-y5.1)))then (qG m).bind λy6=>some (((y6.1.1,y6.1.2.1,y6.1.2.2.1,y6.1.2.2.2.1,()),false,()),((),()))else bif decide (d<(wI ((-65536)-y4.1)))then (qG m).bind λy7=>some (((y7.1.1,y7.1.2.1,y7.1.2.2.1,y7.1.2.2.2.1,()),false,()),((),()))else (v8 m y2.1.1 y2.1.2.1 y4.1).bind λy8=>some (((false,y8.1.1,y8.1.2.1,wI (d+y4.1),()),true,()),((),()))
def jR (m:Nat) (a:Bool) (b:LI) (c:Int):Option PA:=(gQ m false a b c).bind λy1=>some ((y1.1.1.1,y1.1.1.2.1,y1.1.1.2.2.1,y1.1.1.2.2.2.1,()),((),(),()))
def sP (m:Nat) (a:Int):Option xW:=(nP m a).bind λy1=>bif y1.1.1==2047 then some ((true,false,[],0,()),((),()))else bif y1.1.1==0 then (jS m (wI y1.1.2.1)).bind λy2=>(s9 m a).bind λy3=>bif y3.1 then (kN m y2.1.1 y2.1.2.1).bind λy4=>(jR m y4.1.1 y4.1.2.1 (-1074)).bind λy5=>some ((y5.1.1,y5.1.2.1,y5.1.2.2.1,y5.1.2.2.2.1,()),((),()))else (jR m y2.1.1 y2.1.2.1 (-1074)).bind λy6=>some ((y6.1.1,y6.1.2.1,y6.1.2.2.1,y6.1.2.2.2.1,()),((),()))else (jS m (wI (bc .u64 y1.1.2.1 4503599627370496))).bind λy7=>(s9 m a).bind λy8=>bif y8.1 then (kN m y7.1.1 y7.1.2.1).bind λy9=>(jR m y9.1.1 y9.1.2.1 (wI (y1.1.1-1075))).bind λy10=>some ((y10.1.1,y10.1.2.1,y10.1.2.2.1,y10.1.2.2.2.1,()),((),()))else (jR m y7.1.1 y7.1.2.1 (wI (y1.1.1-1075))).bind λy11=>some ((y11.1.1,y11.1.2.1,y11.1.2.2.1,y11.1.2.2.2.1,()),((),()))
def mX (m:Nat):Nat->Int->Int->LI->LI->LI->LI->Int->List LI->tu->Int->Int->Int->Int->Option ((gU×LI×tK×Int×Int×Unit)⊕Empty)
 |0,_,_,_,_,_,_,_,_,_,_,_,_,_=>none
 |n+1,a,b,c,d,f,h,i,j,k,l,o,p,q=>if 0<=(wI (l+1))/\(wI (l+1))<(c.length:Int)then bif decide (o<(c.getD (wI (l+1)).toNat 0))then if 0<=o/\o<(d.length:Int)then bif decide ((d.getD o.toNat 0)>=l)then if 0<=(d.getD o.toNat 0)/\(d.getD o.toNat 0)<(h.length:Int)then if 0<=l/\l<(h.length:Int)then if 0<=(if(h.getD (0+l.toNat) 0)<(h.getD (0+(d.getD o.toNat 0).toNat) 0)then(h.getD (0+l.toNat) 0)else(h.getD (0+(d.getD o.toNat 0).toNat) 0))/\(if(h.getD (0+l.toNat) 0)<(h.getD (0+(d.getD o.toNat 0).toNat) 0)then(h.getD (0+l.toNat) 0)else(h.getD (0+(d.getD o.toNat 0).toNat) 0))<(k.length:Int)then if 0<=o/\o<(f.length:Int)then (sP m (f.getD o.toNat 0)).bind λy1=>if(k.getD (if(h.getD (0+l.toNat) 0)<(h.getD (0+(d.getD o.toNat 0).toNat) 0)then(h.getD (0+l.toNat) 0)else(h.getD (0+(d.getD o.toNat 0).toNat) 0)).toNat none).isSome=true then mX m n a b c d f h i j (k.set (if(h.getD (0+l.toNat) 0)<(h.getD (0+(d.getD o.toNat 0).toNat) 0)then(h.getD (0+l.toNat) 0)else(h.getD (0+(d.getD o.toNat 0).toNat) 0)).toNat (some (bY ((k.getD (if(h.getD (0+l.toNat) 0)<(h.getD (0+(d.getD o.toNat 0).toNat) 0)then(h.getD (0+l.toNat) 0)else(h.getD (0+(d.getD o.toNat 0).toNat) 0)).toNat none).getD []) (if(h.getD (0+l.toNat) 0)>(h.getD (0+(d.getD o.toNat 0).toNat) 0)then(h.getD (0+l.toNat) 0)else(h.getD (0+(d.getD o.toNat 0).toNat) 0)) (y1.1.1,((y1.1.2.1,y1.1.2.2.1),y1.1.2.2.2.1))))) l (wI (o+1)) p q else none else none else none else none else none else mX m n a b c d f h i j k l (wI (o+1)) p q else none else some (.inl ((a,b,c,d,f,()),h,(i,j,k,()),p,q,()))else none
def oM (m:Nat):Nat->Int->Int->LI->LI->LI->LI->Int->List LI->tu->Int->Int->Option ((tK×Unit)⊕Empty)
 |0,_,_,_,_,_,_,_,_,_,_,_=>none
 |n+1,a,b,c,d,f,h,i,j,k,l,o=>bif decide (o<l)then if 0<=o/\o<(c.length:Int)then (mX m m a b c d f h i j k o (c.getD o.toNat 0) l o).bind λy1=>match y1 with
   | .inl z2=>oM m n z2.1.1 z2.1.2.1 z2.1.2.2.1 z2.1.2.2.2.1 z2.1.2.2.2.2.1 z2.2.1 z2.2.2.1.1 z2.2.2.1.2.1 z2.2.2.1.2.2.1 z2.2.2.2.1 (wI (z2.2.2.2.2.1+1))
   | .inr e=>e.elim else none else some (.inl ((i,j,k,()),()))
def mY (m:Nat):Nat->Int->Int->LI->LI->LI->LI->Int->List LI->tu->Int->Int->Option ((gU×LI×tK×Unit)⊕Empty)
 |0,_,_,_,_,_,_,_,_,_,_,_=>none
 |n+1,a,b,c,d,f,h,i,j,k,l,o=>bif decide (o<l)then if 0<=o/\o<(k.length:Int)then mY m n a b c d f h i j (k.set o.toNat (some ([]:List NI))) l (wI (o+1))else none else some (.inl ((a,b,c,d,f,()),h,(i,j,k,()),()))
def Ky (m:Nat) (a:Int) (b:Int) (c:LI) (d:LI) (f:LI) (h:LI):Option (((Unit×Int×Unit)⊕(tK×Int×Unit))×Unit×Unit×Unit):=(C5 m a b c d f).bind λy1=>bif y1.1 !=0 then some (.inl (((),y1.1,())),((),(),()))else bif a !=b then some (.inl (((),5,())),((),(),()))else (Bt m h b).bind λy2=>bif !y2.1.2.1 then some (.inl (((),90,())),((),(),()))else (Bq m a b c d f).bind λy3=>(Bo m y3.1.1.1 y3.1.1.2.1 y3.1.1.2.2.1 y3.1.1.2.2.2.1 y3.1.1.2.2.2.2.1).bind λy4=>(Bm m y4.1.1.1 h).bind λy5=>if 0<=b/\b<=b/\b<=1073741824 then (mY m m a b c d f y2.1.1 b y5.1.1.1 (List.replicate b.toNat (none:Option NM)) ((List.replicate b.toNat (none:Option NM)).length:Int) 0).bind λy6=>match y6 with
    | .inl z7=>(oM m m z7.1.1 z7.1.2.1 z7.1.2.2.1 z7.1.2.2.2.1 z7.1.2.2.2.2.1 z7.2.1 z7.2.2.1.1 z7.2.2.1.2.1 z7.2.2.1.2.2.1 z7.1.2.1 0).bind λy8=>match y8 with
     | .inl z9=>some (.inr (((z9.1.1,z9.1.2.1,z9.1.2.2.1,()),0,())),((),(),()))
     | .inr e=>e.elim
    | .inr e=>e.elim else none
def kZ (m:Nat):Nat->LI->LI->Int->Int->Option Pv
 |0,_,_,_,_=>none
 |n+1,a,b,c,d=>bif decide (d<c)then if 0<=d/\d<(a.length:Int)then if 0<=d/\d<(b.length:Int)then kZ m n (a.set (0+d.toNat) (-1)) (b.set (0+d.toNat) (-1)) c (wI (d+1))else none else none else some (.inl ((a,b,()),()))
def yW (m:Nat) (a:Int):Option (HO×Unit×Unit):=if 0<=a/\a<=a/\a<=1073741824 then if 0<=a/\a<=a/\a<=1073741824 then (kZ m m (List.replicate a.toNat (0:Int)) (List.replicate a.toNat (0:Int)) a 0).bind λy1=>match y1 with
 | .inl z2=>some ((z2.1.1,z2.1.2.1,()),((),()))
 | .inr e=>e.elim else none else none
def iH (m:Nat):Nat->LI->LI->Int->Int->Option Pv
 |0,_,_,_,_=>none
 |n+1,a,b,c,d=>bif c !=(-1)then bif decide (c<d)then if 0<=c/\c<(b.length:Int)then if 0<=c/\c<(b.length:Int)then bif (b.getD (0+c.toNat) 0)==(-1)then if 0<=c/\c<(a.length:Int)then iH m n (a.set (0+c.toNat) d) (b.set (0+c.toNat) d) (b.getD (0+c.toNat) 0) d else none else iH m n a (b.set (0+c.toNat) d) (b.getD (0+c.toNat) 0) d else none else none else some (.inl ((a,b,()),()))else some (.inl ((a,b,()),()))
def yU (m:Nat) (a:LI) (b:LI) (c:Int) (d:Int):Option (Unit×HO×Unit×Unit×Unit):=(iH m m a b c d).bind λy1=>match y1 with
 | .inl z2=>some ((),((z2.1.1,z2.1.2.1,()),(),(),()))
 | .inr e=>e.elim
def lx (m:Nat):Nat->LI->LI->Int->List LI->Int->Int->LI->Int->Int->Option ((HO×List LI×Int×Int×Unit)⊕Empty)
 |0,_,_,_,_,_,_,_,_,_=>none
 |n+1,a,b,c,d,f,h,i,j,k=>bif decide (k<j)then if 0<=k/\k<(i.length:Int)then (yU m a b (i.getD k.toNat 0) c).bind λy1=>lx m n y1.2.1.1 y1.2.1.2.1 c d f h i j (wI (k+1))else none else some (.inl ((a,b,()),d,f,h,()))
def ly (m:Nat):Nat->LI->LI->List LI->Int->Int->Option Pv
 |0,_,_,_,_,_=>none
 |n+1,a,b,c,d,f=>bif decide (f<d)then if 0<=f/\f<(c.length:Int)then (lx m m a b f c d f (c.getD f.toNat ([]:LI)) ((c.getD f.toNat ([]:LI)).length:Int) 0).bind λy1=>match y1 with
   | .inl z2=>ly m n z2.1.1 z2.1.2.1 z2.2.1 z2.2.2.1 (wI (z2.2.2.2.1+1))
   | .inr e=>e.elim else none else some (.inl ((a,b,()),()))
def Ap (m:Nat) (a:List LI):Option ((LI×Int×Unit)×Unit×Unit):=(sT m a).bind λy1=>bif y1.1 !=0 then some (([],y1.1,()),((),()))else (yW m (a.length:Int)).bind λy2=>(ly m m y2.1.1 y2.1.2.1 a (a.length:Int) 0).bind λy3=>match y3 with
  | .inl z4=>some ((z4.1.1,0,()),((),()))
  | .inr e=>e.elim
def iL (m:Nat):Nat->LI->List Bool->Int->Int->Option ob
 |0,_,_,_,_=>none
 |n+1,a,b,c,d=>bif decide (d<c)then if 0<=d/\d<(b.length:Int)then bif b.getD (0+d.toNat) false then if a.length+([d]:LI).length<=1073741824 then iL m n (a++([d]:LI)) b c (wI (d+1))else none else iL m n a b c (wI (d+1))else none else some (.inl (a,()))
def lr (m:Nat):Nat->LI->Int->List Bool->Int->LI->Int->Int->Option ((LI×Int×List Bool×LI×Int×Int×Unit)⊕Empty)
 |0,_,_,_,_,_,_,_=>none
 |n+1,a,b,c,d,f,h,i=>bif decide (d>=0)then bif decide (d<b)then if 0<=d/\d<(c.length:Int)then bif !(c.getD (0+d.toNat) false)then if 0<=d/\d<(c.length:Int)then if 0<=d/\d<(a.length:Int)then lr m n a b (c.set (0+d.toNat) true) (a.getD d.toNat 0) f h i else none else none else some (.inl (a,b,c,f,h,i,()))else none else some (.inl (a,b,c,f,h,i,()))else some (.inl (a,b,c,f,h,i,()))
def ls (m:Nat):Nat->LI->Int->List Bool->LI->Int->Int->Option ((List Bool×Unit)⊕Empty)
 |0,_,_,_,_,_,_=>none
 |n+1,a,b,c,d,f,h=>bif decide (h<f)then if 0<=h/\h<(d.length:Int)then (lr m m a b c (d.getD h.toNat 0) d f h).bind λy1=>match y1 with
   | .inl z2=>ls m n z2.1 z2.2.1 z2.2.2.1 z2.2.2.2.1 z2.2.2.2.2.1 (wI (z2.2.2.2.2.2.1+1))
   | .inr e=>e.elim else none else some (.inl (c,()))
def Ao (m:Nat) (a:List LI) (b:LI) (c:Int):Option (LI×Unit×Unit×Unit×Unit):=if 0<=(wI (c+1))/\(wI (c+1))<=(wI (c+1))/\(wI (c+1))<=1073741824 then if 0<=c/\c<((List.replicate (wI (c+1)).toNat false).length:Int)then if 0<=c/\c<(a.length:Int)then (ls m m b c ((List.replicate (wI (c+1)).toNat false).set (0+c.toNat) true) (a.getD c.toNat ([]:LI)) ((a.getD c.toNat ([]:LI)).length:Int) 0).bind λy1=>match y1 with
 | .inl z2=>(iL m m ([]:LI) z2.1 (z2.1.length:Int) 0).bind λy3=>match y3 with
  | .inl z4=>some (z4.1,((),(),(),()))
  | .inr e=>e.elim
 | .inr e=>e.elim else none else none else none
def lJ (m:Nat):Nat->List LI->LI->List LI->Int->Int->Int->LI->Int->Int->Option ((sx×LI×List LI×Int×Int×Unit)⊕Empty)
 |0,_,_,_,_,_,_,_,_,_=>none
 |n+1,a,b,c,d,f,h,i,j,k=>bif decide (k<j)then if 0<=k/\k<(i.length:Int)then if 0<=(i.getD (0+k.toNat) 0)/\(i.getD (0+k.toNat) 0)<(c.length:Int)then if(c.getD (i.getD (0+k.toNat) 0).toNat ([]:LI)).length+([d]:LI).length<=1073741824 then if 0<=(i.getD (0+k.toNat) 0)/\(i.getD (0+k.toNat) 0)<(c.length:Int)then if(i.getD (0+k.toNat) 0).toNat=(i.getD (0+k.toNat) 0).toNat then lJ m n a b (c.set (i.getD (0+k.toNat) 0).toNat ((c.getD (i.getD (0+k.toNat) 0).toNat ([]:LI))++([d]:LI))) d f h i j (wI (k+1))else none else none else none else none else none else some (.inl ((a,()),b,c,f,h,()))
def lK (m:Nat):Nat->List LI->LI->List LI->Int->Int->Option (sx⊕Empty)
 |0,_,_,_,_,_=>none
 |n+1,a,b,c,d,f=>bif decide (f<d)then (Ao m a b f).bind λy1=>(lJ m m a b c f d f y1.1 (y1.1.length:Int) 0).bind λy2=>match y2 with
   | .inl z3=>lK m n z3.1.1 z3.2.1 z3.2.2.1 z3.2.2.2.1 (wI (z3.2.2.2.2.1+1))
   | .inr e=>e.elim else some (.inl (c,()))
def Bl (m:Nat) (a:List LI):Option ((List LI×Int×Unit)×Unit×Unit):=(Ap m a).bind λy1=>bif y1.1.2.1 !=0 then some ((([]:List LI),y1.1.2.1,()),((),()))else if 0<=(y1.1.1.length:Int)/\(y1.1.1.length:Int)<=(y1.1.1.length:Int)/\(y1.1.1.length:Int)<=1073741824 then (lK m m a y1.1.1 (List.replicate (y1.1.1.length:Int).toNat ([]:LI)) (y1.1.1.length:Int) 0).bind λy2=>match y2 with
  | .inl z3=>some ((z3.1,0,()),((),()))
  | .inr e=>e.elim else none
def jF (m:Nat):Nat->Int->List LI->tu->List LI->List LI->tu->List LI->Int->List LI->Int->Int->LI->Int->Int->Option ((tK×tJ×List LI×Int×Int×Unit)⊕Empty)
 |0,_,_,_,_,_,_,_,_,_,_,_,_,_,_=>none
 |n+1,a,b,c,d,f,h,i,j,k,l,o,p,q,r=>bif decide (r<q)then if 0<=r/\r<(p.length:Int)then bif decide ((p.getD r.toNat 0)>j)then if 0<=(p.getD r.toNat 0)/\(p.getD r.toNat 0)<(i.length:Int)then if(i.getD (p.getD r.toNat 0).toNat ([]:LI)).length+([j]:LI).length<=1073741824 then if 0<=(p.getD r.toNat 0)/\(p.getD r.toNat 0)<(i.length:Int)then if(p.getD r.toNat 0).toNat=(p.getD r.toNat 0).toNat then jF m n a b c d f h (i.set (p.getD r.toNat 0).toNat ((i.getD (p.getD r.toNat 0).toNat ([]:LI))++([j]:LI))) j k l o p q (wI (r+1))else none else none else none else none else jF m n a b c d f h i j k l o p q (wI (r+1))else none else some (.inl ((a,b,c,()),(d,f,h,i,()),k,l,o,()))
def mW (m:Nat):Nat->Int->List LI->tu->List LI->List LI->tu->List LI->List LI->Int->Int->Option ((tK×tJ×Unit)⊕Empty)
 |0,_,_,_,_,_,_,_,_,_,_=>none
 |n+1,a,b,c,d,f,h,i,j,k,l=>bif decide (l<k)then if 0<=l/\l<(j.length:Int)then (jF m m a b c d f h i l j k l (j.getD l.toNat ([]:LI)) ((j.getD l.toNat ([]:LI)).length:Int) 0).bind λy1=>match y1 with
   | .inl z2=>mW m n z2.1.1 z2.1.2.1 z2.1.2.2.1 z2.2.1.1 z2.2.1.2.1 z2.2.1.2.2.1 z2.2.1.2.2.2.1 z2.2.2.1 z2.2.2.2.1 (wI (z2.2.2.2.2.1+1))
   | .inr e=>e.elim else none else some (.inl ((a,b,c,()),(d,f,h,i,()),()))
def Pb (m:Nat) (a:Int) (b:List LI) (c:List Cc):Option tC:=(Bl m b).bind λy1=>if 0<=a/\a<=a/\a<=1073741824 then if 0<=a/\a<=a/\a<=1073741824 then if 0<=a/\a<=a/\a<=1073741824 then (mW m m a b c y1.1.1 (List.replicate a.toNat ([]:LI)) (List.replicate a.toNat (none:Option NM)) (List.replicate a.toNat ([]:LI)) y1.1.1 (y1.1.1.length:Int) 0).bind λy2=>match y2 with
 | .inl z3=>some ((z3.2.1.1,z3.2.1.2.1,z3.2.1.2.2.1,z3.2.1.2.2.2.1,()),((z3.1.1,z3.1.2.1,z3.1.2.2.1,()),()))
 | .inr e=>e.elim else none else none else none
def Hc (m:Nat) (a:Int) (b:List LI) (c:List Cc) (d:Int) (f:Int):Option (oc×tK×Unit×Unit×Unit):=if 0<=(if f<d then f else d)/\(if f<d then f else d)<(c.length:Int)then some ((((aZ ((c.getD (if f<d then f else d).toNat none).getD []) (if f>d then f else d)).getD qz).1,((aZ ((c.getD (if f<d then f else d).toNat none).getD []) (if f>d then f else d)).getD qz).2.1.1,((aZ ((c.getD (if f<d then f else d).toNat none).getD []) (if f>d then f else d)).getD qz).2.1.2,((aZ ((c.getD (if f<d then f else d).toNat none).getD []) (if f>d then f else d)).getD qz).2.2,()),((a,b,c,()),(),(),()))else none
def Aa (m:Nat) (a:Bool) (b:Bool) (c:LI) (d:Int) (f:Bool) (h:Bool) (i:LI) (j:Int):Option ((oc×oc×Bool×Unit)×Unit×Unit×Unit):=(gQ m a b c d).bind λy1=>(gQ m f h i j).bind λy2=>bif y1.1.2.1 then some (((y1.1.1.1,y1.1.1.2.1,y1.1.1.2.2.1,y1.1.1.2.2.2.1,()),(y2.1.1.1,y2.1.1.2.1,y2.1.1.2.2.1,y2.1.1.2.2.2.1,()),y2.1.2.1,()),((),(),()))else some (((y1.1.1.1,y1.1.1.2.1,y1.1.1.2.2.1,y1.1.1.2.2.2.1,()),(y2.1.1.1,y2.1.1.2.1,y2.1.1.2.2.1,y2.1.1.2.2.2.1,()),false,()),((),(),()))
def kW (m:Nat):Nat->LI->LI->Int->Int->Int->LI->Int->Int->LI->Int->Int->Option ((LI×LI×Int×Int×LI×Int×Int×Unit)⊕Empty)
 |0,_,_,_,_,_,_,_,_,_,_,_=>none
 |n+1,a,b,c,d,f,h,i,j,k,l,o=>bif decide (o<l)then if 0<=o/\o<(k.length:Int)then if 0<=(wI (c+o))/\(wI (c+o))<(b.length:Int)then if 0<=(wI (c+o))/\(wI (c+o))<(b.length:Int)then kW m n a (b.set (0+(wI (c+o)).toNat) (wK (qp .u64 (wJ ((wJ ((wJ ((wJ d)*(wJ (k.getD o.toNat 0))))+(wJ (b.getD (0+(wI (c+o)).toNat) 0))))+f)) 4294967295))) c d (az .u64 (wJ ((wJ ((wJ ((wJ d)*(wJ (k.getD o.toNat 0))))+(wJ (b.getD (0+(wI (c+o)).toNat) 0))))+f)) 32) h i j k l (wI (o+1))else none else none else none else some (.inl (a,b,c,f,h,i,j,()))
def kX (m:Nat):Nat->LI->LI->LI->Int->Int->Option ob
 |0,_,_,_,_,_=>none
 |n+1,a,b,c,d,f=>bif decide (f<d)then if 0<=f/\f<(c.length:Int)then (kW m m a b f (c.getD f.toNat 0) 0 c d f a (a.length:Int) 0).bind λy1=>match y1 with
   | .inl z2=>if 0<=(wI (z2.2.2.1+(z2.1.length:Int)))/\(wI (z2.2.2.1+(z2.1.length:Int)))<(z2.2.1.length:Int)then kX m n z2.1 (z2.2.1.set (0+(wI (z2.2.2.1+(z2.1.length:Int))).toNat) (wK z2.2.2.2.1)) z2.2.2.2.2.1 z2.2.2.2.2.2.1 (wI (z2.2.2.2.2.2.2.1+1))else none
   | .inr e=>e.elim else none else some (.inl (b,()))
def yP (m:Nat) (a:LI) (b:LI):Option tx:=bif (a.length:Int)==0 then some ([],((),(),()))else bif (b.length:Int)==0 then some ([],((),(),()))else if 0<=(wI ((a.length:Int)+(b.length:Int)))/\(wI ((a.length:Int)+(b.length:Int)))<=(wI ((a.length:Int)+(b.length:Int)))/\(wI ((a.length:Int)+(b.length:Int)))<=1073741824 then (kX m m b (List.replicate (wI ((a.length:Int)+(b.length:Int))).toNat (0:Int)) a (a.length:Int) 0).bind λy1=>match y1 with
   | .inl z2=>(cZ m z2.1).bind λy3=>some (y3.1,((),(),()))
   | .inr e=>e.elim else none
def qs (m:Nat) (a:Bool) (b:LI) (c:Bool) (d:LI):Option ud:=(cZ m b).bind λy1=>(cZ m d).bind λy2=>(yP m y1.1 y2.1).bind λy3=>(dA m (!(a==c)) y3.1).bind λy4=>some ((y4.1.1,y4.1.2.1,()),((),(),()))
def qC (m:Nat) (a:Bool) (b:Bool) (c:LI) (d:Int) (f:Bool) (h:Bool) (i:LI) (j:Int):Option PA:=(Aa m a b c d f h i j).bind λy1=>bif !y1.1.2.2.1 then (qG m).bind λy2=>some ((y2.1.1,y2.1.2.1,y2.1.2.2.1,y2.1.2.2.2.1,()),((),(),()))else (qs m y1.1.1.2.1 y1.1.1.2.2.1 y1.1.2.1.2.1 y1.1.2.1.2.2.1).bind λy3=>(jR m y3.1.1 y3.1.2.1 (wI (y1.1.1.2.2.2.1+y1.1.2.1.2.2.2.1))).bind λy4=>some ((y4.1.1,y4.1.2.1,y4.1.2.2.1,y4.1.2.2.2.1,()),((),(),()))
def vK (m:Nat) (a:Bool) (b:Bool) (c:LI) (d:Int):Option xW:=(gQ m a b c d).bind λy1=>bif y1.1.2.1 then (kN m y1.1.1.2.1 y1.1.1.2.2.1).bind λy2=>some ((y1.1.1.1,y2.1.1,y2.1.2.1,y1.1.1.2.2.2.1,()),((),()))else some ((y1.1.1.1,y1.1.1.2.1,y1.1.1.2.2.1,y1.1.1.2.2.2.1,()),((),()))
def jP (m:Nat) (a:Bool) (b:LI) (c:Int):Option ud:=(C4 m a b c).bind λy1=>some ((y1.1.1.1,y1.1.1.2.1,()),((),(),()))
def yM (m:Nat) (a:Int):Option pU:=some (a !=a,((),()))
def zr (m:Nat) (a:Int) (b:Int):Option jY:=(yM m a).bind λy1=>(yM m b).bind λy2=>bif y1.1 then bif y2.1 then some (0,((),(),()))else some ((-1),((),(),()))else bif y2.1 then some (1,((),(),()))else bif decide (a<b)then some ((-1),((),(),()))else bif decide (a>b)then some (1,((),(),()))else some (0,((),(),()))
def iV (m:Nat):Nat->LI->LI->Int->Option ub
 |0,_,_,_=>none
 |n+1,a,b,c=>bif decide (c>=0)then if 0<=c/\c<(a.length:Int)then if 0<=c/\c<(b.length:Int)then bif (a.getD c.toNat 0) !=(b.getD c.toNat 0)then if 0<=c/\c<(a.length:Int)then if 0<=c/\c<(b.length:Int)then (zr m (a.getD c.toNat 0) (b.getD c.toNat 0)).bind λy1=>some (.inl (y1.1,()))else none else none else iV m n a b (wI (c-1))else none else none else some (.inr (.inl ()))
def qF (m:Nat) (a:LI) (b:LI):Option jY:=bif (a.length:Int) !=(b.length:Int)then (sW m (a.length:Int) (b.length:Int)).bind λy1=>some (y1.1,((),(),()))else (iV m m a b (wI ((a.length:Int)-1))).bind λy2=>match y2 with
  | .inl z3=>some (z3.1,((),(),()))
  | .inr (.inl z4)=>some (0,((),(),()))
  | .inr (.inr e)=>e.elim
def gN (m:Nat):Nat->LI->LI->Int->LI->Int->Int->Option ob
 |0,_,_,_,_,_,_=>none
 |n+1,a,b,c,d,f,h=>bif decide (h<f)then if 0<=h/\h<(d.length:Int)then bif decide (h<(a.length:Int))then if 0<=h/\h<(a.length:Int)then if 0<=h/\h<(b.length:Int)then gN m n a (b.set (0+h.toNat) (wK (qp .u64 (wJ ((wJ ((wJ (d.getD h.toNat 0))-c))-(wJ (a.getD h.toNat 0)))) 4294967295))) (qp .u64 (az .u64 (wJ ((wJ ((wJ (d.getD h.toNat 0))-c))-(wJ (a.getD h.toNat 0)))) 32) 1) d f (wI (h+1))else none else none else if 0<=h/\h<(b.length:Int)then gN m n a (b.set (0+h.toNat) (wK (qp .u64 (wJ ((wJ (d.getD h.toNat 0))-c)) 4294967295))) (qp .u64 (az .u64 (wJ ((wJ (d.getD h.toNat 0))-c)) 32) 1) d f (wI (h+1))else none else none else some (.inl (b,()))
def sZ (m:Nat) (a:LI) (b:LI):Option tx:=if 0<=(a.length:Int)/\(a.length:Int)<=(a.length:Int)/\(a.length:Int)<=1073741824 then (gN m m b (List.replicate (a.length:Int).toNat (0:Int)) 0 a (a.length:Int) 0).bind λy1=>match y1 with
 | .inl z2=>(cZ m z2.1).bind λy3=>some (y3.1,((),(),()))
 | .inr e=>e.elim else none
def jQ (m:Nat) (a:Bool) (b:LI) (c:Bool) (d:LI):Option ud:=(cZ m b).bind λy1=>(cZ m d).bind λy2=>bif a==c then (qM m y1.1 y2.1).bind λy3=>(dA m a y3.1).bind λy4=>some ((y4.1.1,y4.1.2.1,()),((),(),()))else (qF m y1.1 y2.1).bind λy5=>bif decide (y5.1>=0)then (sZ m y1.1 y2.1).bind λy6=>(dA m a y6.1).bind λy7=>some ((y7.1.1,y7.1.2.1,()),((),(),()))else (sZ m y2.1 y1.1).bind λy8=>(dA m c y8.1).bind λy9=>some ((y9.1.1,y9.1.2.1,()),((),(),()))
def ll (m:Nat):Nat->Bool->Bool->LI->Int->Int->Bool->LI->mc->Int->Int->Option ((oc×Int×n9×Unit)⊕Empty)
 |0,_,_,_,_,_,_,_,_,_,_=>none
 |n+1,a,b,c,d,f,h,i,j,k,l=>bif decide (l<k)then if 0<=l/\l<(j.length:Int)then (jP m (j.getD (0+l.toNat) qz).2.1.1 (j.getD (0+l.toNat) qz).2.1.2 (wI ((j.getD (0+l.toNat) qz).2.2-f))).bind λy1=>(jQ m h i y1.1.1 y1.1.2.1).bind λy2=>ll m n a b c d f y2.1.1 y2.1.2.1 j k (wI (l+1))else none else some (.inl ((a,b,c,d,()),f,(h,i,()),()))
def lq (m:Nat):Nat->Bool->Bool->LI->Int->mc->Int->mc->Int->Int->Option (NL⊕(oc×mc×Int×Unit)⊕Empty)
 |0,_,_,_,_,_,_,_,_,_=>none
 |n+1,a,b,c,d,f,h,i,j,k=>bif decide (k<j)then if 0<=k/\k<(i.length:Int)then (gQ m (i.getD k.toNat qz).1 (i.getD k.toNat qz).2.1.1 (i.getD k.toNat qz).2.1.2 (i.getD k.toNat qz).2.2).bind λy1=>bif !y1.1.2.1 then (qG m).bind λy2=>some (.inl ((y2.1.1,y2.1.2.1,y2.1.2.2.1,y2.1.2.2.2.1,()),()))else if f.length+([(y1.1.1.1,((y1.1.1.2.1,y1.1.1.2.2.1),y1.1.1.2.2.2.1))]:List j9).length<=1073741824 then lq m n a b c d (f++([(y1.1.1.1,((y1.1.1.2.1,y1.1.1.2.2.1),y1.1.1.2.2.2.1))]:List j9)) (if y1.1.1.2.2.2.1<h then y1.1.1.2.2.2.1 else h) i j (wI (k+1))else none else none else some (.inr (.inl ((a,b,c,d,()),f,h,())))
def Ak (m:Nat) (a:List j9):Option xW:=(lq m m false false ([]:LI) 0 ([]:List j9) 0 a (a.length:Int) 0).bind λy1=>match y1 with
 | .inl z2=>some ((z2.1.1,z2.1.2.1,z2.1.2.2.1,z2.1.2.2.2.1,()),((),()))
 | .inr (.inl z3)=>(ll m m z3.1.1 z3.1.2.1 z3.1.2.2.1 z3.1.2.2.2.1 z3.2.2.1 false ([]:LI) z3.2.1 (z3.2.1.length:Int) 0).bind λy4=>match y4 with
  | .inl z5=>(jR m z5.2.2.1.1 z5.2.2.1.2.1 z5.2.1).bind λy6=>some ((y6.1.1,y6.1.2.1,y6.1.2.2.1,y6.1.2.2.2.1,()),((),()))
  | .inr e=>e.elim
 | .inr (.inr e)=>e.elim
def eN (m:Nat):Nat->List LI->List LI->tu->List LI->Int->List LI->tu->Int->Int->Bool->Bool->LI->Int->mc->Nat->Int->Int->Option ((tJ×tK×oc×mc×Unit)⊕Empty)
 |0,_,_,_,_,_,_,_,_,_,_,_,_,_,_,_,_,_=>none
 |n+1,a,b,c,d,f,h,i,j,k,l,o,p,q,r,s,t,u=>bif decide (u<t)then if 0<=u/\u<((d.getD s ([]:LI)).length:Int)then if 0<=((d.getD s ([]:LI)).getD u.toNat 0)/\((d.getD s ([]:LI)).getD u.toNat 0)<(c.length:Int)then bif (aZ ((c.getD ((d.getD s ([]:LI)).getD u.toNat 0).toNat none).getD []) j).isSome then if 0<=((d.getD s ([]:LI)).getD u.toNat 0)/\((d.getD s ([]:LI)).getD u.toNat 0)<(c.length:Int)then (qC m ((aZ ((c.getD ((d.getD s ([]:LI)).getD u.toNat 0).toNat none).getD []) j).getD qz).1 ((aZ ((c.getD ((d.getD s ([]:LI)).getD u.toNat 0).toNat none).getD []) j).getD qz).2.1.1 ((aZ ((c.getD ((d.getD s ([]:LI)).getD u.toNat 0).toNat none).getD []) j).getD qz).2.1.2 ((aZ ((c.getD ((d.getD s ([]:LI)).getD u.toNat 0).toNat none).getD []) j).getD qz).2.2 ((aZ ((c.getD ((d.getD s ([]:LI)).getD u.toNat 0).toNat none).getD []) k).getD qz).1 ((aZ ((c.getD ((d.getD s ([]:LI)).getD u.toNat 0).toNat none).getD []) k).getD qz).2.1.1 ((aZ ((c.getD ((d.getD s ([]:LI)).getD u.toNat 0).toNat none).getD []) k).getD qz).2.1.2 ((aZ ((c.getD ((d.getD s ([]:LI)).getD u.toNat 0).toNat none).getD []) k).getD qz).2.2).bind λy1=>(vK m y1.1.1 y1.1.2.1 y1.1.2.2.1 y1.1.2.2.2.1).bind λy2=>if r.length+([(y2.1.1,((y2.1.2.1,y2.1.2.2.1),y2.1.2.2.2.1))]:List j9).length<=1073741824 then eN m n a b c d f h i j k l o p q (r++([(y2.1.1,((y2.1.2.1,y2.1.2.2.1),y2.1.2.2.2.1))]:List j9)) s t (wI (u+1))else none else none else eN m n a b c d f h i j k l o p q r s t (wI (u+1))else none else none else some (.inl ((a,b,c,d,()),(f,h,i,()),(l,o,p,q,()),r,()))
def wo (m:Nat) (a:List LI) (b:List LI) (c:List Cc) (d:List LI) (f:Int) (h:List LI) (i:List Cc) (j:Int) (k:Int):Option (oc×tJ×tK×Unit×Unit×Unit):=(Hc m f h i j k).bind λy1=>if 0<=k/\k<(d.length:Int)then (eN m m a b c d y1.2.1.1 y1.2.1.2.1 y1.2.1.2.2.1 j k false false ([]:LI) 0 ([(y1.1.1,((y1.1.2.1,y1.1.2.2.1),y1.1.2.2.2.1))]:List j9) k.toNat ((d.getD k.toNat ([]:LI)).length:Int) 0).bind λy2=>match y2 with
 | .inl z3=>(Ak m z3.2.2.2.1).bind λy4=>some ((y4.1.1,y4.1.2.1,y4.1.2.2.1,y4.1.2.2.2.1,()),((z3.1.1,z3.1.2.1,z3.1.2.2.1,z3.1.2.2.2.1,()),(z3.2.1.1,z3.2.1.2.1,z3.2.1.2.2.1,()),(),(),()))
 | .inr e=>e.elim else none
def u7 (m:Nat) (a:Bool) (b:Bool) (c:LI) (d:Int):Option l7:=(gQ m a b c d).bind λy1=>(ja m y1.1.1.2.1 y1.1.1.2.2.1).bind λy2=>some (y2.1,((),()))
def nH (m:Nat) (a:Bool) (b:Bool) (c:LI) (d:Int):Option xW:=(gQ m a b c d).bind λy1=>some ((y1.1.1.1,y1.1.1.2.1,y1.1.1.2.2.1,y1.1.1.2.2.2.1,()),((),()))
def iU (m:Nat):Nat->LI->Int->LI->Int->Int->Option FI
 |0,_,_,_,_,_=>none
 |n+1,a,b,c,d,f=>bif decide (f>=0)then if 0<=f/\f<(a.length:Int)then if(wJ b)≠0 then if 0<=f/\f<(c.length:Int)then if(wJ b)≠0 then iU m n a b (c.set (0+f.toNat) (wK (wJ (Int.tdiv (bc .u64 (bu .u64 d 32) (wJ (a.getD f.toNat 0))) (wJ b))))) (Int.tmod (bc .u64 (bu .u64 d 32) (wJ (a.getD f.toNat 0))) (wJ b)) (wI (f-1))else none else none else none else none else some (.inl (c,d,()))
def v7 (m:Nat) (a:LI) (b:Int):Option NK:=if 0<=(a.length:Int)/\(a.length:Int)<=(a.length:Int)/\(a.length:Int)<=1073741824 then (iU m m a b (List.replicate (a.length:Int).toNat (0:Int)) 0 (wI ((a.length:Int)-1))).bind λy1=>match y1 with
 | .inl z2=>(cZ m z2.1).bind λy3=>some ((y3.1,wK z2.2.1,()),((),(),()))
 | .inr e=>e.elim else none
def AT (m:Nat) (a:Int):Option l7:=(sX m a).bind λy1=>some (wI (32-y1.1),((),()))
def iS (m:Nat):Nat->LI->Int->Int->Int->LI->Int->Int->Option Pw
 |0,_,_,_,_,_,_,_=>none
 |n+1,a,b,c,d,f,h,i=>bif decide (i<h)then if 0<=i/\i<(f.length:Int)then if 0<=i/\i<(a.length:Int)then if 0<=i/\i<(a.length:Int)then iS m n (a.set (0+i.toNat) (wK (qp .u64 (wJ ((wJ ((wJ (a.getD (0+i.toNat) 0))+(wJ (f.getD i.toNat 0))))+d)) 4294967295))) b c (az .u64 (wJ ((wJ ((wJ (a.getD (0+i.toNat) 0))+(wJ (f.getD i.toNat 0))))+d)) 32) f h (wI (i+1))else none else none else none else some (.inl (a,b,c,d,()))
def iT (m:Nat):Nat->LI->LI->Int->Int->Int->Int->LI->Int->Int->Option ((LI×LI×Int×Int×Int×Int×Unit)⊕Empty)
 |0,_,_,_,_,_,_,_,_,_=>none
 |n+1,a,b,c,d,f,h,i,j,k=>bif decide (k<j)then if 0<=k/\k<(i.length:Int)then if 0<=k/\k<(a.length:Int)then if 0<=k/\k<(a.length:Int)then iT m n (a.set (0+k.toNat) (wK (qp .u64 (wJ ((wJ ((wJ (a.getD (0+k.toNat) 0))-(qp .u64 (wJ ((wJ (d*(wJ (i.getD k.toNat 0))))+f)) 4294967295)))-h)) 4294967295))) b c d (az .u64 (wJ ((wJ (d*(wJ (i.getD k.toNat 0))))+f)) 32) (qp .u64 (az .u64 (wJ ((wJ ((wJ (a.getD (0+k.toNat) 0))-(qp .u64 (wJ ((wJ (d*(wJ (i.getD k.toNat 0))))+f)) 4294967295)))-h)) 32) 1) i j (wI (k+1))else none else none else none else some (.inl (a,b,c,d,f,h,()))
def gO (m:Nat):Nat->LI->LI->Int->Int->Int->Option ((LI×LI×Int×Int×Unit)⊕Empty)
 |0,_,_,_,_,_=>none
 |n+1,a,b,c,d,f=>bif decide (d>4294967295)then if 0<=(wI (c-1))/\(wI (c-1))<(b.length:Int)then bif decide ((wJ (f+(wJ (b.getD (wI (c-1)).toNat 0))))>4294967295)then some (.inl (a,b,c,wJ (d-1),()))else gO m n a b c (wJ (d-1)) (wJ (f+(wJ (b.getD (wI (c-1)).toNat 0))))else none else if 0<=(wI (c-2))/\(wI (c-2))<(b.length:Int)then if 0<=(wI (c-2))/\(wI (c-2))<(a.length:Int)then bif decide ((wJ (d*(wJ (b.getD (wI (c-2)).toNat 0))))>(bc .u64 (bu .u64 f 32) (wJ (a.getD (0+(wI (c-2)).toNat) 0))))then if 0<=(wI (c-1))/\(wI (c-1))<(b.length:Int)then bif decide ((wJ (f+(wJ (b.getD (wI (c-1)).toNat 0))))>4294967295)then some (.inl (a,b,c,wJ (d-1),()))else gO m n a b c (wJ (d-1)) (wJ (f+(wJ (b.getD (wI (c-1)).toNat 0))))else none else some (.inl (a,b,c,d,()))else none else none
def AS (m:Nat) (a:LI) (b:LI):Option (Int×LI×Unit×Unit):=if 0<=(b.length:Int)/\(b.length:Int)<(a.length:Int)then if 0<=(wI ((b.length:Int)-1))/\(wI ((b.length:Int)-1))<(a.length:Int)then if 0<=(wI ((b.length:Int)-1))/\(wI ((b.length:Int)-1))<(b.length:Int)then if(wJ (b.getD (wI ((b.length:Int)-1)).toNat 0))≠0 then if 0<=(wI ((b.length:Int)-1))/\(wI ((b.length:Int)-1))<(b.length:Int)then if(wJ (b.getD (wI ((b.length:Int)-1)).toNat 0))≠0 then (gO m m a b (b.length:Int) (wJ (Int.tdiv (bc .u64 (bu .u64 (wJ (a.getD (0+(b.length:Int).toNat) 0)) 32) (wJ (a.getD (0+(wI ((b.length:Int)-1)).toNat) 0))) (wJ (b.getD (wI ((b.length:Int)-1)).toNat 0)))) (Int.tmod (bc .u64 (bu .u64 (wJ (a.getD (0+(b.length:Int).toNat) 0)) 32) (wJ (a.getD (0+(wI ((b.length:Int)-1)).toNat) 0))) (wJ (b.getD (wI ((b.length:Int)-1)).toNat 0)))).bind λy1=>match y1 with
 | .inl z2=>(iT m m z2.1 z2.2.1 z2.2.2.1 z2.2.2.2.1 0 0 z2.2.1 (z2.2.1.length:Int) 0).bind λy3=>match y3 with
  | .inl z4=>if 0<=z4.2.2.1/\z4.2.2.1<(z4.1.length:Int)then if 0<=z4.2.2.1/\z4.2.2.1<(z4.1.length:Int)then bif (qp .u64 (az .u64 (wJ ((wJ ((wJ (z4.1.getD (0+z4.2.2.1.toNat) 0))-z4.2.2.2.2.1))-z4.2.2.2.2.2.1)) 32) 1)==0 then some (wK z4.2.2.2.1,(z4.1.set (0+z4.2.2.1.toNat) (wK (qp .u64 (wJ ((wJ ((wJ (z4.1.getD (0+z4.2.2.1.toNat) 0))-z4.2.2.2.2.1))-z4.2.2.2.2.2.1)) 4294967295)),(),()))else (iS m m (z4.1.set (0+z4.2.2.1.toNat) (wK (qp .u64 (wJ ((wJ ((wJ (z4.1.getD (0+z4.2.2.1.toNat) 0))-z4.2.2.2.2.1))-z4.2.2.2.2.2.1)) 4294967295))) z4.2.2.1 z4.2.2.2.1 0 z4.2.1 (z4.2.1.length:Int) 0).bind λy5=>match y5 with
    | .inl z6=>if 0<=z6.2.1/\z6.2.1<(z6.1.length:Int)then if 0<=z6.2.1/\z6.2.1<(z6.1.length:Int)then some (wK (wJ (z6.2.2.1-1)),(z6.1.set (0+z6.2.1.toNat) (wK ((z6.1.getD (0+z6.2.1.toNat) 0)+(wK z6.2.2.2.1))),(),()))else none else none
    | .inr e=>e.elim else none else none
  | .inr e=>e.elim
 | .inr e=>e.elim else none else none else none else none else none else none
def i7 (m:Nat):Nat->LI->Int->LI->LI->Int->Int->Option ((LI×Int×LI×Int×Unit)⊕Empty)
 |0,_,_,_,_,_,_=>none
 |n+1,a,b,c,d,f,h=>bif decide (h>=0)then if 0<=h/\h<=(wI ((wI (h+f))+1))/\(wI ((wI (h+f))+1))<=(d.length:Int)then if 0<((wI ((wI (h+f))+1)).toNat-h.toNat)then (AS m ((d.drop (0+h.toNat)).take ((wI ((wI (h+f))+1)).toNat-h.toNat)) c).bind λy1=>if 0<=h/\h<(a.length:Int)then i7 m n (a.set (0+h.toNat) y1.1) b c (d.take (0+h.toNat)++(y1.2.1++d.drop ((0+h.toNat)+((wI ((wI (h+f))+1)).toNat-h.toNat)))) f (wI (h-1))else none else none else none else some (.inl (a,b,d,f,()))
def pk (m:Nat) (a:LI) (b:LI):Option (HO×Unit×Unit×Unit):=(qF m a b).bind λy1=>bif decide (y1.1<0)then (qL m a).bind λy2=>some (([],y2.1,()),((),(),()))else bif (b.length:Int)==1 then if(0:Int)<=0/\0<(b.length:Int)then (v7 m a (b.getD 0 0)).bind λy3=>(cZ m ([y3.1.2.1]:LI)).bind λy4=>some ((y3.1.1,y4.1,()),((),(),()))else none else if 0<=(wI ((b.length:Int)-1))/\(wI ((b.length:Int)-1))<(b.length:Int)then (AT m (b.getD (wI ((b.length:Int)-1)).toNat 0)).bind λy5=>(qN m b y5.1).bind λy6=>if 0<=(wI ((a.length:Int)+1))/\(wI ((a.length:Int)+1))<=(wI ((a.length:Int)+1))/\(wI ((a.length:Int)+1))<=1073741824 then (qN m a y5.1).bind λy7=>if 0<y7.1.length/\0<(List.replicate (wI ((a.length:Int)+1)).toNat (0:Int)).length then if 0<=(wI (((y7.1.take (List.replicate (wI ((a.length:Int)+1)).toNat (0:Int)).length++(List.replicate (wI ((a.length:Int)+1)).toNat (0:Int)).drop y7.1.length).length:Int)-(y6.1.length:Int)))/\(wI (((y7.1.take (List.replicate (wI ((a.length:Int)+1)).toNat (0:Int)).length++(List.replicate (wI ((a.length:Int)+1)).toNat (0:Int)).drop y7.1.length).length:Int)-(y6.1.length:Int)))<=(wI (((y7.1.take (List.replicate (wI ((a.length:Int)+1)).toNat (0:Int)).length++(List.replicate (wI ((a.length:Int)+1)).toNat (0:Int)).drop y7.1.length).length:Int)-(y6.1.length:Int)))/\(wI (((y7.1.take (List.replicate (wI ((a.length:Int)+1)).toNat (0:Int)).length++(List.replicate (wI ((a.length:Int)+1)).toNat (0:Int)).drop y7.1.length).length:Int)-(y6.1.length:Int)))<=1073741824 then (i7 m m (List.replicate (wI (((y7.1.take (List.replicate (wI ((a.length:Int)+1)).toNat (0:Int)).length++(List.replicate (wI ((a.length:Int)+1)).toNat (0:Int)).drop y7.1.length).length:Int)-(y6.1.length:Int))).toNat (0:Int)) y5.1 y6.1 (y7.1.take (List.replicate (wI ((a.length:Int)+1)).toNat (0:Int)).length++(List.replicate (wI ((a.length:Int)+1)).toNat (0:Int)).drop y7.1.length) (y6.1.length:Int) (wI (((List.replicate (wI (((y7.1.take (List.replicate (wI ((a.length:Int)+1)).toNat (0:Int)).length++(List.replicate (wI ((a.length:Int)+1)).toNat (0:Int)).drop y7.1.length).length:Int)-(y6.1.length:Int))).toNat (0:Int)).length:Int)-1))).bind λy8=>match y8 with
   | .inl z9=>if(0:Int)<=0/\0<=z9.2.2.2.1/\z9.2.2.2.1<=(z9.2.2.1.length:Int)then (cZ m (z9.2.2.1.take z9.2.2.2.1.toNat)).bind λy10=>(s7 m y10.1 z9.2.1).bind λy11=>(cZ m z9.1).bind λy12=>some ((y12.1,y11.1.1,()),((),(),()))else none
   | .inr e=>e.elim else none else none else none else none
def kP (m:Nat):Nat->LI->LI->Option ob
 |0,_,_=>none
 |n+1,a,b=>(pk m a b).bind λy1=>(qM m b y1.1.1).bind λy2=>(s7 m y2.1 1).bind λy3=>(qF m y3.1.1 b).bind λy4=>bif decide (y4.1>=0)then some (.inl (b,()))else kP m n a y3.1.1
def yB (m:Nat) (a:LI):Option xC:=bif (a.length:Int)==0 then some ([],((),()))else (vy m a).bind λy1=>(qN m ([1]:LI) (wI (Int.tdiv (wI (y1.1+1)) 2))).bind λy2=>(kP m m a y2.1).bind λy3=>match y3 with
  | .inl z4=>some (z4.1,((),()))
  | .inr e=>e.elim
def sR (m:Nat) (a:Bool) (b:LI):Option ((n9×Int×Unit)×Unit×Unit):=(ja m a b).bind λy1=>bif decide (y1.1<0)then some (((false,[],()),11,()),((),()))else (cZ m b).bind λy2=>(yB m y2.1).bind λy3=>(dA m false y3.1).bind λy4=>some (((y4.1.1,y4.1.2.1,()),0,()),((),()))
def qt (m:Nat) (a:Bool) (b:LI) (c:Bool) (d:LI):Option jY:=(ja m a b).bind λy1=>(ja m c d).bind λy2=>bif decide (y1.1<y2.1)then some ((-1),((),(),()))else bif decide (y1.1>y2.1)then some (1,((),(),()))else (cZ m b).bind λy3=>(cZ m d).bind λy4=>(qF m y3.1 y4.1).bind λy5=>some (wI (y1.1*y5.1),((),(),()))
def Ah (m:Nat) (a:Bool) (b:Bool) (c:LI) (d:Int) (f:Int):Option (T8×Unit×Unit×Unit):=(nO m b c).bind λy1=>bif (Int.tmod (wI (d-(if(wI ((wI (2*(wI (f+3))))-y1.1))>0 then(wI ((wI (2*(wI (f+3))))-y1.1))else 0))) 2) !=0 then (jP m b c (wI ((if(wI ((wI (2*(wI (f+3))))-y1.1))>0 then(wI ((wI (2*(wI (f+3))))-y1.1))else 0)+1))).bind λy2=>(sR m y2.1.1 y2.1.2.1).bind λy3=>(qs m y3.1.1.1 y3.1.1.2.1 y3.1.1.1 y3.1.1.2.1).bind λy4=>(qt m y4.1.1 y4.1.2.1 y2.1.1 y2.1.2.1).bind λy5=>some ((false,y3.1.1.1,y3.1.1.2.1,wI (Int.tdiv (wI (d-(wI ((if(wI ((wI (2*(wI (f+3))))-y1.1))>0 then(wI ((wI (2*(wI (f+3))))-y1.1))else 0)+1)))) 2),y5.1 !=0,()),((),(),()))else (jP m b c (if(wI ((wI (2*(wI (f+3))))-y1.1))>0 then(wI ((wI (2*(wI (f+3))))-y1.1))else 0)).bind λy6=>(sR m y6.1.1 y6.1.2.1).bind λy7=>(qs m y7.1.1.1 y7.1.1.2.1 y7.1.1.1 y7.1.1.2.1).bind λy8=>(qt m y8.1.1 y8.1.2.1 y6.1.1 y6.1.2.1).bind λy9=>some ((false,y7.1.1.1,y7.1.1.2.1,wI (Int.tdiv (wI (d-(if(wI ((wI (2*(wI (f+3))))-y1.1))>0 then(wI ((wI (2*(wI (f+3))))-y1.1))else 0))) 2),y9.1 !=0,()),((),(),()))
def yS (m:Nat) (a:Bool) (b:Bool) (c:LI) (d:Int) (f:Bool):Option l7:=(nO m b c).bind λy1=>some (wI ((wI (d+y1.1))-1),((),()))
def zt (m:Nat) (a:Bool) (b:LI) (c:Bool) (d:LI):Option ud:=(jQ m a b (!c) d).bind λy1=>some ((y1.1.1,y1.1.2.1,()),((),(),()))
def yC (m:Nat) (a:Bool) (b:Bool) (c:LI) (d:Int) (f:Bool) (h:Int):Option ((n9×Int×Bool×Unit)×Unit×Unit×Unit):=(nO m b c).bind λy1=>bif decide (h>y1.1)then some (((false,[],()),(-1),false,()),((),(),()))else (v8 m b c h).bind λy2=>(jP m y2.1.1 y2.1.2.1 h).bind λy3=>(zt m b c y3.1.1 y3.1.2.1).bind λy4=>(jS m 1).bind λy5=>(jP m y5.1.1 y5.1.2.1 (wI (h-1))).bind λy6=>(qt m y4.1.1 y4.1.2.1 y6.1.1 y6.1.2.1).bind λy7=>bif y7.1==0 then bif f then (ja m y4.1.1 y4.1.2.1).bind λy8=>bif y8.1==0 then some (((y2.1.1,y2.1.2.1,()),1,!f,()),((),(),()))else some (((y2.1.1,y2.1.2.1,()),1,false,()),((),(),()))else (ja m y4.1.1 y4.1.2.1).bind λy9=>bif y9.1==0 then some (((y2.1.1,y2.1.2.1,()),y7.1,!f,()),((),(),()))else some (((y2.1.1,y2.1.2.1,()),y7.1,false,()),((),(),()))else (ja m y4.1.1 y4.1.2.1).bind λy10=>bif y10.1==0 then some (((y2.1.1,y2.1.2.1,()),y7.1,!f,()),((),(),()))else some (((y2.1.1,y2.1.2.1,()),y7.1,false,()),((),(),()))
def qn (m:Nat) (a:Bool) (b:Bool) (c:LI) (d:Int) (f:Bool) (h:Int) (i:Int):Option (n9×Unit×Unit×Unit×Unit):=bif decide (h<=d)then (jP m b c (wI (d-h))).bind λy1=>bif a then (kN m y1.1.1 y1.1.2.1).bind λy2=>some ((y2.1.1,y2.1.2.1,()),((),(),(),()))else some ((y1.1.1,y1.1.2.1,()),((),(),(),()))else (yC m a b c d f (wI (h-d))).bind λy3=>bif y3.1.2.2.1 then bif a then (kN m y3.1.1.1 y3.1.1.2.1).bind λy4=>some ((y4.1.1,y4.1.2.1,()),((),(),(),()))else some ((y3.1.1.1,y3.1.1.2.1,()),((),(),(),()))else bif i==1 then bif a then (jS m 1).bind λy5=>(jQ m y3.1.1.1 y3.1.1.2.1 y5.1.1 y5.1.2.1).bind λy6=>bif a then (kN m y6.1.1 y6.1.2.1).bind λy7=>some ((y7.1.1,y7.1.2.1,()),((),(),(),()))else some ((y6.1.1,y6.1.2.1,()),((),(),(),()))else bif a then (kN m y3.1.1.1 y3.1.1.2.1).bind λy8=>some ((y8.1.1,y8.1.2.1,()),((),(),(),()))else some ((y3.1.1.1,y3.1.1.2.1,()),((),(),(),()))else bif i==2 then bif !a then (jS m 1).bind λy9=>(jQ m y3.1.1.1 y3.1.1.2.1 y9.1.1 y9.1.2.1).bind λy10=>bif a then (kN m y10.1.1 y10.1.2.1).bind λy11=>some ((y11.1.1,y11.1.2.1,()),((),(),(),()))else some ((y10.1.1,y10.1.2.1,()),((),(),(),()))else bif a then (kN m y3.1.1.1 y3.1.1.2.1).bind λy12=>some ((y12.1.1,y12.1.2.1,()),((),(),(),()))else some ((y3.1.1.1,y3.1.1.2.1,()),((),(),(),()))else bif i==3 then bif a then (kN m y3.1.1.1 y3.1.1.2.1).bind λy13=>some ((y13.1.1,y13.1.2.1,()),((),(),(),()))else some ((y3.1.1.1,y3.1.1.2.1,()),((),(),(),()))else bif decide (y3.1.2.1>0)then (jS m 1).bind λy14=>(jQ m y3.1.1.1 y3.1.1.2.1 y14.1.1 y14.1.2.1).bind λy15=>bif a then (kN m y15.1.1 y15.1.2.1).bind λy16=>some ((y16.1.1,y16.1.2.1,()),((),(),(),()))else some ((y15.1.1,y15.1.2.1,()),((),(),(),()))else bif y3.1.2.1==0 then (ja m y3.1.1.1 y3.1.1.2.1).bind λy17=>bif y17.1 !=0 then (v9 m y3.1.1.1 y3.1.1.2.1).bind λy18=>bif y18.1==0 then (jS m 1).bind λy19=>(jQ m y3.1.1.1 y3.1.1.2.1 y19.1.1 y19.1.2.1).bind λy20=>bif a then (kN m y20.1.1 y20.1.2.1).bind λy21=>some ((y21.1.1,y21.1.2.1,()),((),(),(),()))else some ((y20.1.1,y20.1.2.1,()),((),(),(),()))else bif a then (kN m y3.1.1.1 y3.1.1.2.1).bind λy22=>some ((y22.1.1,y22.1.2.1,()),((),(),(),()))else some ((y3.1.1.1,y3.1.1.2.1,()),((),(),(),()))else bif a then (kN m y3.1.1.1 y3.1.1.2.1).bind λy23=>some ((y23.1.1,y23.1.2.1,()),((),(),(),()))else some ((y3.1.1.1,y3.1.1.2.1,()),((),(),(),()))else bif a then (kN m y3.1.1.1 y3.1.1.2.1).bind λy24=>some ((y24.1.1,y24.1.2.1,()),((),(),(),()))else some ((y3.1.1.1,y3.1.1.2.1,()),((),(),(),()))
def Ih (m:Nat) (a:Bool) (b:LI):Option Cb:=(qL m b).bind λy1=>(dA m false y1.1).bind λy2=>some ((y2.1.1,y2.1.2.1,()),((),()))
def kY (m:Nat):Nat->Bool->LI->Int->LI->Int->Int->Option T9
 |0,_,_,_,_,_,_=>none
 |n+1,a,b,c,d,f,h=>bif decide (h<f)then if 0<=h/\h<(d.length:Int)then if 0<=(wI (32*h))then kY m n a b (bc .u64 c (bu .u64 (wJ (d.getD h.toNat 0)) (wI (32*h)))) d f (wI (h+1))else none else none else some (.inl ((a,b,()),c,()))
def yR (m:Nat) (a:Bool) (b:LI):Option T7:=(cZ m b).bind λy1=>bif decide ((y1.1.length:Int)>2)then some ((0,false,()),((),()))else (kY m m a b 0 y1.1 (y1.1.length:Int) 0).bind λy2=>match y2 with
  | .inl z3=>bif z3.1.1 then bif decide (z3.2.1>0)then bif decide (z3.2.1<=9223372036854775808)then some ((wI ((wI (0-(wI (wJ (z3.2.1-1)))))-1),true,()),((),()))else bif decide (z3.2.1<9223372036854775808)then bif !z3.1.1 then some ((wI z3.2.1,true,()),((),()))else bif z3.2.1==0 then some ((wI z3.2.1,true,()),((),()))else some ((0,false,()),((),()))else some ((0,false,()),((),()))else bif decide (z3.2.1<9223372036854775808)then bif !z3.1.1 then some ((wI z3.2.1,true,()),((),()))else bif z3.2.1==0 then some ((wI z3.2.1,true,()),((),()))else some ((0,false,()),((),()))else some ((0,false,()),((),()))else bif decide (z3.2.1<9223372036854775808)then bif !z3.1.1 then some ((wI z3.2.1,true,()),((),()))else bif z3.2.1==0 then some ((wI z3.2.1,true,()),((),()))else some ((0,false,()),((),()))else some ((0,false,()),((),()))
  | .inr e=>e.elim
def ia (m:Nat) (a:Int) (b:Bool):Option jY:=bif b then some (bc .u64 a 9223372036854775808,((),(),()))else some (a,((),(),()))
def vt (m:Nat) (a:Bool) (b:Int):Option jY:=bif b==3 then (ia m 9218868437227405311 a).bind λy1=>some (y1.1,((),(),()))else bif b==1 then bif !a then (ia m 9218868437227405311 a).bind λy2=>some (y2.1,((),(),()))else bif b==2 then bif a then (ia m 9218868437227405311 a).bind λy3=>some (y3.1,((),(),()))else (ia m 9218868437227405312 a).bind λy4=>some (y4.1,((),(),()))else (ia m 9218868437227405312 a).bind λy5=>some (y5.1,((),(),()))else bif b==2 then bif a then (ia m 9218868437227405311 a).bind λy6=>some (y6.1,((),(),()))else (ia m 9218868437227405312 a).bind λy7=>some (y7.1,((),(),()))else (ia m 9218868437227405312 a).bind λy8=>some (y8.1,((),(),()))
def vF (m:Nat) (a:Bool) (b:Bool) (c:LI) (d:Int) (f:Bool) (h:Int):Option jY:=(yS m a b c d f).bind λy1=>(qn m a b c d f (if(-1074)>(wI (y1.1-52))then(-1074)else(wI (y1.1-52))) h).bind λy2=>(Ih m y2.1.1 y2.1.2.1).bind λy3=>(yR m y3.1.1 y3.1.2.1).bind λy4=>bif (wJ y4.1.1)==9007199254740992 then bif decide ((wI ((wI ((if(-1074)>(wI (y1.1-52))then(-1074)else(wI (y1.1-52)))+1))+1075))>=2047)then (vt m a h).bind λy5=>some (y5.1,((),(),()))else (ia m (bc .u64 (bu .u64 (wJ (wI ((wI ((if(-1074)>(wI (y1.1-52))then(-1074)else(wI (y1.1-52)))+1))+1075))) 52) 0) a).bind λy6=>some (y6.1,((),(),()))else bif decide ((wJ y4.1.1)<4503599627370496)then (ia m (wJ y4.1.1) a).bind λy7=>some (y7.1,((),(),()))else bif decide ((wI ((if(-1074)>(wI (y1.1-52))then(-1074)else(wI (y1.1-52)))+1075))>=2047)then (vt m a h).bind λy8=>some (y8.1,((),(),()))else (ia m (bc .u64 (bu .u64 (wJ (wI ((if(-1074)>(wI (y1.1-52))then(-1074)else(wI (y1.1-52)))+1075))) 52) (wJ ((wJ y4.1.1)-4503599627370496))) a).bind λy9=>some (y9.1,((),(),()))
def Bh (m:Nat) (a:Bool) (b:Bool) (c:LI) (d:Int) (f:Int):Option jY:=(nH m a b c d).bind λy1=>bif y1.1.1 then some (9221120237041090560,((),(),()))else (u7 m y1.1.1 y1.1.2.1 y1.1.2.2.1 y1.1.2.2.2.1).bind λy2=>bif decide (y2.1<0)then some (9221120237041090560,((),(),()))else (u7 m y1.1.1 y1.1.2.1 y1.1.2.2.1 y1.1.2.2.2.1).bind λy3=>bif y3.1==0 then some (0,((),(),()))else (Ah m y1.1.1 y1.1.2.1 y1.1.2.2.1 y1.1.2.2.2.1 56).bind λy4=>(vF m y4.1.1 y4.1.2.1 y4.1.2.2.1 y4.1.2.2.2.1 y4.1.2.2.2.2.1 f).bind λy5=>some (y5.1,((),(),()))
def Bg (m:Nat) (a:Int):Option l7:=(nP m a).bind λy1=>bif y1.1.1==2047 then bif y1.1.2.1 !=0 then some (3,((),()))else bif y1.1.1==2047 then some (2,((),()))else bif y1.1.1==0 then bif y1.1.2.1==0 then some (0,((),()))else some (1,((),()))else some (1,((),()))else bif y1.1.1==2047 then some (2,((),()))else bif y1.1.1==0 then bif y1.1.2.1==0 then some (0,((),()))else some (1,((),()))else some (1,((),()))
def wR (m:Nat) (a:Bool) (b:LI) (c:Bool) (d:LI):Option ((n9×n9×Int×Unit)×Unit×Unit×Unit):=(cZ m d).bind λy1=>bif (y1.1.length:Int)==0 then some (((false,[],()),(false,[],()),8,()),((),(),()))else (cZ m b).bind λy2=>(pk m y2.1 y1.1).bind λy3=>bif a then bif decide ((y3.1.2.1.length:Int)>0)then (qM m y3.1.1 ([1]:LI)).bind λy4=>(sZ m y1.1 y3.1.2.1).bind λy5=>(dA m (!(a==c)) y4.1).bind λy6=>(dA m false y5.1).bind λy7=>some (((y6.1.1,y6.1.2.1,()),(y7.1.1,y7.1.2.1,()),0,()),((),(),()))else (dA m (!(a==c)) y3.1.1).bind λy8=>(dA m false y3.1.2.1).bind λy9=>some (((y8.1.1,y8.1.2.1,()),(y9.1.1,y9.1.2.1,()),0,()),((),(),()))else (dA m (!(a==c)) y3.1.1).bind λy10=>(dA m false y3.1.2.1).bind λy11=>some (((y10.1.1,y10.1.2.1,()),(y11.1.1,y11.1.2.1,()),0,()),((),(),()))
def Ag (m:Nat) (a:Bool) (b:Bool) (c:LI) (d:Int) (f:Bool) (h:Bool) (i:LI) (j:Int) (k:Int):Option (T8×Unit×Unit×Unit×Unit):=(nO m h i).bind λy1=>(nO m b c).bind λy2=>(Ih m b c).bind λy3=>(jP m y3.1.1 y3.1.2.1 (if(wI ((wI ((wI (k+3))+y1.1))-y2.1))>0 then(wI ((wI ((wI (k+3))+y1.1))-y2.1))else 0)).bind λy4=>(Ih m h i).bind λy5=>(wR m y4.1.1 y4.1.2.1 y5.1.1 y5.1.2.1).bind λy6=>(ja m y6.1.2.1.1 y6.1.2.1.2.1).bind λy7=>some ((!(b==h),y6.1.1.1,y6.1.1.2.1,wI ((wI (d-(if(wI ((wI ((wI (k+3))+y1.1))-y2.1))>0 then(wI ((wI ((wI (k+3))+y1.1))-y2.1))else 0)))-j),y7.1 !=0,()),((),(),(),()))
def s5 (m:Nat) (a:Bool) (b:Bool) (c:LI) (d:Int) (f:Bool) (h:Bool) (i:LI) (j:Int) (k:Int):Option (Int×Unit×Unit×Unit×Unit):=(nH m a b c d).bind λy1=>(nH m f h i j).bind λy2=>bif y1.1.1 then some (9221120237041090560,((),(),(),()))else bif y2.1.1 then some (9221120237041090560,((),(),(),()))else (u7 m y2.1.1 y2.1.2.1 y2.1.2.2.1 y2.1.2.2.2.1).bind λy3=>bif y3.1==0 then some (9221120237041090560,((),(),(),()))else (u7 m y1.1.1 y1.1.2.1 y1.1.2.2.1 y1.1.2.2.2.1).bind λy4=>bif y4.1==0 then some (0,((),(),(),()))else (Ag m y1.1.1 y1.1.2.1 y1.1.2.2.1 y1.1.2.2.2.1 y2.1.1 y2.1.2.1 y2.1.2.2.1 y2.1.2.2.2.1 56).bind λy5=>(vF m y5.1.1 y5.1.2.1 y5.1.2.2.1 y5.1.2.2.2.1 y5.1.2.2.2.2.1 k).bind λy6=>some (y6.1,((),(),(),()))
def kL (m:Nat):Nat->List LI->List LI->tu->List LI->Int->List LI->tu->Int->Int->LI->Int->Int->Option ((tJ×tK×Int×Unit)⊕tC⊕Empty)
 |0,_,_,_,_,_,_,_,_,_,_,_,_=>none
 |n+1,a,b,c,d,f,h,i,j,k,l,o,p=>bif decide (p<o)then if 0<=p/\p<(l.length:Int)then (wo m a b c d f h i (l.getD p.toNat 0) j).bind λy1=>(sP m k).bind λy2=>(s5 m y1.1.1 y1.1.2.1 y1.1.2.2.1 y1.1.2.2.2.1 y2.1.1 y2.1.2.1 y2.1.2.2.1 y2.1.2.2.2.1 0).bind λy3=>(tI m y3.1).bind λy4=>bif !y4.1 then some (.inl ((y1.2.1.1,y1.2.1.2.1,y1.2.1.2.2.1,y1.2.1.2.2.2.1,()),(y1.2.2.1.1,y1.2.2.1.2.1,y1.2.2.1.2.2.1,()),233,()))else if 0<=j/\j<(y1.2.1.2.2.1.length:Int)then if 0<=j/\j<(y1.2.1.2.1.length:Int)then if(y1.2.1.2.1.getD j.toNat ([]:LI)).length+([y3.1]:LI).length<=1073741824 then (sP m y3.1).bind λy5=>if 0<=j/\j<(y1.2.1.2.1.length:Int)then if j.toNat=j.toNat then if(y1.2.1.2.2.1.getD j.toNat none).isSome=true then if((y1.2.1.2.2.1.set j.toNat (some (bY ((y1.2.1.2.2.1.getD j.toNat none).getD []) (l.getD p.toNat 0) ((aZ ((y1.2.1.2.2.1.getD j.toNat none).getD []) (l.getD p.toNat 0)).getD qz)))).getD j.toNat none).isSome=true then if 0<=((eO ((y1.2.1.2.2.1.getD j.toNat none).getD []) (l.getD p.toNat 0):Nat):Int)/\((eO ((y1.2.1.2.2.1.getD j.toNat none).getD []) (l.getD p.toNat 0):Nat):Int)<((((y1.2.1.2.2.1.set j.toNat (some (bY ((y1.2.1.2.2.1.getD j.toNat none).getD []) (l.getD p.toNat 0) ((aZ ((y1.2.1.2.2.1.getD j.toNat none).getD []) (l.getD p.toNat 0)).getD qz)))).getD j.toNat none).getD []).length:Int)then kL m n y1.2.1.1 (y1.2.1.2.1.set j.toNat ((y1.2.1.2.1.getD j.toNat ([]:LI))++([y3.1]:LI))) ((y1.2.1.2.2.1.set j.toNat (some (bY ((y1.2.1.2.2.1.getD j.toNat none).getD []) (l.getD p.toNat 0) ((aZ ((y1.2.1.2.2.1.getD j.toNat none).getD []) (l.getD p.toNat 0)).getD qz)))).set j.toNat (some (xI (((y1.2.1.2.2.1.set j.toNat (some (bY ((y1.2.1.2.2.1.getD j.toNat none).getD []) (l.getD p.toNat 0) ((aZ ((y1.2.1.2.2.1.getD j.toNat none).getD []) (l.getD p.toNat 0)).getD qz)))).getD j.toNat none).getD []) ((eO ((y1.2.1.2.2.1.getD j.toNat none).getD []) (l.getD p.toNat 0):Nat):Int).toNat (y5.1.1,((y5.1.2.1,y5.1.2.2.1),y5.1.2.2.2.1))))) y1.2.1.2.2.2.1 y1.2.2.1.1 y1.2.2.1.2.1 y1.2.2.1.2.2.1 j k l o (wI (p+1))else none else none else none else none else none else none else none else none else none else some (.inr (.inl ((a,b,c,d,()),(f,h,i,()),())))
def Gi (m:Nat) (a:List LI) (b:List LI) (c:List Cc) (d:List LI) (f:Int) (h:List LI) (i:List Cc) (j:Int):Option (Int×tJ×tK×Unit×Unit):=(wo m a b c d f h i j j).bind λy1=>(u7 m y1.1.1 y1.1.2.1 y1.1.2.2.1 y1.1.2.2.2.1).bind λy2=>bif decide (y2.1<=0)then some (231,((y1.2.1.1,y1.2.1.2.1,y1.2.1.2.2.1,y1.2.1.2.2.2.1,()),(y1.2.2.1.1,y1.2.2.1.2.1,y1.2.2.1.2.2.1,()),(),()))else (Bh m y1.1.1 y1.1.2.1 y1.1.2.2.1 y1.1.2.2.2.1 0).bind λy3=>(Bg m y3.1).bind λy4=>bif y4.1==0 then some (231,((y1.2.1.1,y1.2.1.2.1,y1.2.1.2.2.1,y1.2.1.2.2.2.1,()),(y1.2.2.1.1,y1.2.2.1.2.1,y1.2.2.1.2.2.1,()),(),()))else (sP m y3.1).bind λy5=>if 0<=j/\j<(y1.2.1.2.1.length:Int)then if 0<=j/\j<(y1.2.1.2.2.1.length:Int)then (tI m y3.1).bind λy6=>bif !y6.1 then some (233,((y1.2.1.1,y1.2.1.2.1.set j.toNat ([y3.1]:LI),y1.2.1.2.2.1.set j.toNat (some (bY ([]:List NI) j (y5.1.1,((y5.1.2.1,y5.1.2.2.1),y5.1.2.2.2.1)))),y1.2.1.2.2.2.1,()),(y1.2.2.1.1,y1.2.2.1.2.1,y1.2.2.1.2.2.1,()),(),()))else if 0<=j/\j<(y1.2.1.1.length:Int)then if(0:Int)<=1/\1<=((y1.2.1.1.getD j.toNat ([]:LI)).length:Int)/\((y1.2.1.1.getD j.toNat ([]:LI)).length:Int)<=((y1.2.1.1.getD j.toNat ([]:LI)).length:Int)then (kL m m y1.2.1.1 (y1.2.1.2.1.set j.toNat ([y3.1]:LI)) (y1.2.1.2.2.1.set j.toNat (some (bY ([]:List NI) j (y5.1.1,((y5.1.2.1,y5.1.2.2.1),y5.1.2.2.2.1))))) y1.2.1.2.2.2.1 y1.2.2.1.1 y1.2.2.1.2.1 y1.2.2.1.2.2.1 j y3.1 ((y1.2.1.1.getD j.toNat ([]:LI)).drop 1) (((y1.2.1.1.getD j.toNat ([]:LI)).drop 1).length:Int) 0).bind λy7=>match y7 with
    | .inl z8=>some (z8.2.2.1,((z8.1.1,z8.1.2.1,z8.1.2.2.1,z8.1.2.2.2.1,()),(z8.2.1.1,z8.2.1.2.1,z8.2.1.2.2.1,()),(),()))
    | .inr (.inl z9)=>some (0,((z9.1.1,z9.1.2.1,z9.1.2.2.1,z9.1.2.2.2.1,()),(z9.2.1.1,z9.2.1.2.1,z9.2.1.2.2.1,()),(),()))
    | .inr (.inr e)=>e.elim else none else none else none else none
def Ht (m:Nat) (a:LI):Option xC:=if([]:LI).length+a.length<=1073741824 then some (a,((),()))else none
def mV (m:Nat):Nat->List LI->List LI->List LI->LI->LI->LI->LI->LI->LI->LI->LI->Int->Int->Option ((Ub×tW×tW×Unit)⊕Empty)
 |0,_,_,_,_,_,_,_,_,_,_,_,_,_=>none
 |n+1,a,b,c,d,f,h,i,j,k,l,o,p,q=>bif decide (q<p)then if 0<=q/\q<(a.length:Int)then if l.length+(a.getD q.toNat ([]:LI)).length<=1073741824 then if 0<=q/\q<(b.length:Int)then if o.length+(b.getD q.toNat ([]:LI)).length<=1073741824 then if k.length+([((l++(a.getD q.toNat ([]:LI))).length:Int)]:LI).length<=1073741824 then mV m n a b c d f h i j (k++([((l++(a.getD q.toNat ([]:LI))).length:Int)]:LI)) (l++(a.getD q.toNat ([]:LI))) (o++(b.getD q.toNat ([]:LI))) p (wI (q+1))else none else none else none else none else none else some (.inl ((a,b,(),c,()),(d,f,h,i,()),(j,k,l,o,()),()))
def Pa (m:Nat) (a:List LI) (b:List LI) (c:List Cc) (d:List LI) (f:LI):Option (tW×Ub×Unit×Unit):=(Ht m f).bind λy1=>(mV m m a b d ([]:LI) ([]:LI) ([]:LI) ([]:LI) y1.1 ([0]:LI) ([]:LI) ([]:LI) (a.length:Int) 0).bind λy2=>match y2 with
 | .inl z3=>some ((z3.2.2.1.1,z3.2.2.1.2.1,z3.2.2.1.2.2.1,z3.2.2.1.2.2.2.1,()),((z3.1.1,z3.1.2.1,(),z3.1.2.2.2.1,()),(),()))
 | .inr e=>e.elim
def jH (m:Nat):Nat->LI->LI->LI->LI->LI->Int->List LI->tu->List LI->List LI->tu->List LI->Int->Int->Option (Ua⊕(LI×tW×tK×tJ×Unit)⊕Empty)
 |0,_,_,_,_,_,_,_,_,_,_,_,_,_,_=>none
 |n+1,a,b,c,d,f,h,i,j,k,l,o,p,q,r=>bif decide (r<q)then (Gi m k l o p h i j r).bind λy1=>bif y1.1==0 then jH m n a b c d f y1.2.2.1.1 y1.2.2.1.2.1 y1.2.2.1.2.2.1 y1.2.1.1 y1.2.1.2.1 y1.2.1.2.2.1 y1.2.1.2.2.2.1 q (wI (r+1))else bif y1.1==231 then some (.inl (([],[],[],[],()),r,y1.1,()))else some (.inl (([],[],[],[],()),0,y1.1,()))else some (.inr (.inl (a,(b,c,d,f,()),(h,i,j,()),(k,l,o,p,()),())))
def Hi (m:Nat) (a:Int) (b:Int) (c:LI) (d:LI) (f:LI) (h:LI):Option (Ua×Unit×Unit×Unit):=(Ky m a b c d f h).bind λy1=>match y1.1 with
 | .inl r2=>bif r2.2.1 !=0 then some ((([],[],[],[],()),0,r2.2.1,()),((),(),()))else none
 | .inr r3=>bif r3.2.1 !=0 then some ((([],[],[],[],()),0,r3.2.1,()),((),(),()))else (Pb m r3.1.1 r3.1.2.1 r3.1.2.2.1).bind λy4=>(jH m m h ([]:LI) ([]:LI) ([]:LI) ([]:LI) y4.2.1.1 y4.2.1.2.1 y4.2.1.2.2.1 y4.1.1 y4.1.2.1 y4.1.2.2.1 y4.1.2.2.2.1 y4.2.1.1 0).bind λy5=>match y5 with
   | .inl z6=>some (((z6.1.1,z6.1.2.1,z6.1.2.2.1,z6.1.2.2.2.1,()),z6.2.1,z6.2.2.1,()),((),(),()))
   | .inr (.inl z7)=>(Pa m z7.2.2.2.1.1 z7.2.2.2.1.2.1 z7.2.2.2.1.2.2.1 z7.2.2.2.1.2.2.2.1 z7.1).bind λy8=>some (((y8.1.1,y8.1.2.1,y8.1.2.2.1,y8.1.2.2.2.1,()),z7.2.2.1.1,0,()),((),(),()))
   | .inr (.inr e)=>e.elim
def g8 (m:Nat) (a:Int) (b:Int):Option jY:=if(wJ b)≠0 then some (wI (Int.tmod (wJ a) (wJ b)),((),(),()))else none
def rJ (m:Nat):Nat->LI->Int->LI->LI->Int->Option ob
 |0,_,_,_,_,_=>none
 |n+1,a,b,c,d,f=>bif decide (f<b)then bif decide (f<(a.length:Int))then if 0<=f/\f<(a.length:Int)then (g8 m (a.getD f.toNat 0) (c.length:Int)).bind λy1=>if 0<=y1.1/\y1.1<(c.length:Int)then if d.length+([c.getD (0+y1.1.toNat) 0]:LI).length<=1073741824 then if(0:Int)<=0/\0<=y1.1/\y1.1<=(c.length:Int)then if 0<=(wI (y1.1+1))/\(wI (y1.1+1))<=(c.length:Int)/\(c.length:Int)<=(c.length:Int)then if 0=0/\(y1.1.toNat-0)<=c.length/\0<c.length/\(y1.1.toNat-0)+((c.drop (0+(wI (y1.1+1)).toNat)).take (c.length-(wI (y1.1+1)).toNat)).length<=1073741824 then rJ m n a b (c.take (y1.1.toNat-0)++((c.drop (0+(wI (y1.1+1)).toNat)).take (c.length-(wI (y1.1+1)).toNat))) (d++([c.getD (0+y1.1.toNat) 0]:LI)) (wI (f+1))else none else none else none else none else none else none else if(0:Int)<=0/\0<(c.length:Int)then if d.length+([c.getD (0+0) 0]:LI).length<=1073741824 then if(0:Int)<=0/\(0:Int)<=0/\0<=(c.length:Int)then if(0:Int)<=1/\1<=(c.length:Int)/\(c.length:Int)<=(c.length:Int)then if 0=0/\0<=c.length/\0<c.length/\0+((c.drop 1).take (c.length-1)).length<=1073741824 then rJ m n a b (c.take 0++((c.drop 1).take (c.length-1))) (d++([c.getD (0+0) 0]:LI)) (wI (f+1))else none else none else none else none else none else some (.inl (d,()))
def u5 (m:Nat):Nat->LI->Int->LI->Int->Option ((LI×Int×LI×Unit)⊕Empty)
 |0,_,_,_,_=>none
 |n+1,a,b,c,d=>bif decide (d<b)then if c.length+([d]:LI).length<=1073741824 then u5 m n a b (c++([d]:LI)) (wI (d+1))else none else some (.inl (a,b,c,()))
def g75 (m:Nat) (a:LI) (b:Int):Option tx:=(u5 m m a b ([]:LI) 0).bind λy1=>match y1 with
 | .inl z2=>(rJ m m z2.1 z2.2.1 z2.2.2.1 ([]:LI) 0).bind λy3=>match y3 with
  | .inl z4=>some (z4.1,((),(),()))
  | .inr e=>e.elim
 | .inr e=>e.elim
def TP (m:Nat) (a:Int):Option xC:=(g75 m ([]:LI) a).bind λy1=>some (y1.1,((),()))
def o5 (m:Nat):Nat->LI->LI->Int->Option xE
 |0,_,_,_=>none
 |n+1,a,b,c=>bif decide (c<(a.length:Int))then if 0<=c/\c<(a.length:Int)then if 0<=c/\c<(b.length:Int)then bif (a.getD c.toNat 0) !=(b.getD c.toNat 0)then some (.inl (false,()))else o5 m n a b (wI (c+1))else none else none else some (.inr (.inl ()))
def Ij (m:Nat) (a:LI) (b:LI):Option xD:=bif (a.length:Int) !=(b.length:Int)then some (false,((),(),()))else (o5 m m a b 0).bind λy1=>match y1 with
  | .inl z2=>some (z2.1,((),(),()))
  | .inr (.inl z3)=>some (true,((),(),()))
  | .inr (.inr e)=>e.elim
def oY (m:Nat):Nat->LI->LI->Int->Option xE
 |0,_,_,_=>none
 |n+1,a,b,c=>bif decide (c<(a.length:Int))then if 0<=c/\c<(a.length:Int)then if 0<=c/\c<(b.length:Int)then bif (a.getD c.toNat 0) !=(b.getD c.toNat 0)then some (.inl (false,()))else oY m n a b (wI (c+1))else none else none else some (.inr (.inl ()))
def Pj (m:Nat) (a:LI) (b:LI):Option xD:=bif (a.length:Int) !=(b.length:Int)then some (false,((),(),()))else (oY m m a b 0).bind λy1=>match y1 with
  | .inl z2=>some (z2.1,((),(),()))
  | .inr (.inl z3)=>some (true,((),(),()))
  | .inr (.inr e)=>e.elim
def lk (m:Nat):Nat->LI->List Bool->LI->Int->Int->Option xE
 |0,_,_,_,_,_=>none
 |n+1,a,b,c,d,f=>bif decide (f<d)then if 0<=f/\f<(c.length:Int)then bif decide ((c.getD f.toNat 0)<0)then some (.inl (false,()))else bif decide ((c.getD f.toNat 0)>=(a.length:Int))then some (.inl (false,()))else if 0<=(c.getD f.toNat 0)/\(c.getD f.toNat 0)<(b.length:Int)then bif b.getD (0+(c.getD f.toNat 0).toNat) false then some (.inl (false,()))else if 0<=(c.getD f.toNat 0)/\(c.getD f.toNat 0)<(b.length:Int)then lk m n a (b.set (0+(c.getD f.toNat 0).toNat) true) c d (wI (f+1))else none else none else none else some (.inr (.inl ()))
def Af (m:Nat) (a:LI):Option pU:=if 0<=(a.length:Int)/\(a.length:Int)<=(a.length:Int)/\(a.length:Int)<=1073741824 then (lk m m a (List.replicate (a.length:Int).toNat false) a (a.length:Int) 0).bind λy1=>match y1 with
 | .inl z2=>some (z2.1,((),()))
 | .inr (.inl z3)=>some (true,((),()))
 | .inr (.inr e)=>e.elim else none
def fO (m:Nat):Nat->LI->LI->LI->LI->Int->LI->Int->Int->Int->Option ((Bool×Unit)⊕(tW×Int×Int×Int×Unit)⊕Empty)
 |0,_,_,_,_,_,_,_,_,_=>none
 |n+1,a,b,c,d,f,h,i,j,k=>bif decide (i<(h.length:Int))then if 0<=(wI (i-1))/\(wI (i-1))<(h.length:Int)then if 0<=i/\i<(h.length:Int)then bif decide ((h.getD (wI (i-1)).toNat 0)>=(h.getD i.toNat 0))then some (.inl (false,()))else fO m n a b c d f h (wI (i+1)) j k else none else none else some (.inr (.inl ((a,b,c,d,()),f,j,k,())))
def eM (m:Nat):Nat->LI->LI->LI->LI->Int->Int->Int->Option xE
 |0,_,_,_,_,_,_,_=>none
 |n+1,a,b,c,d,f,h,i=>bif decide (i<h)then if 0<=i/\i<(b.length:Int)then if 0<=(wI (i+1))/\(wI (i+1))<(b.length:Int)then bif decide ((b.getD i.toNat 0)>(b.getD (wI (i+1)).toNat 0))then some (.inl (false,()))else if 0<=(wI (i+1))/\(wI (i+1))<(b.length:Int)then bif decide ((b.getD (wI (i+1)).toNat 0)>(c.length:Int))then some (.inl (false,()))else if 0<=i/\i<(b.length:Int)then if 0<=(wI (i+1))/\(wI (i+1))<(b.length:Int)then if 0<=(b.getD i.toNat 0)/\(b.getD i.toNat 0)<=(b.getD (wI (i+1)).toNat 0)/\(b.getD (wI (i+1)).toNat 0)<=(c.length:Int)then bif (((c.drop (b.getD i.toNat 0).toNat).take ((b.getD (wI (i+1)).toNat 0).toNat-(b.getD i.toNat 0).toNat)).length:Int)==0 then some (.inl (false,()))else if(0:Int)<=0/\0<(((c.drop (b.getD i.toNat 0).toNat).take ((b.getD (wI (i+1)).toNat 0).toNat-(b.getD i.toNat 0).toNat)).length:Int)then bif (((c.drop (b.getD i.toNat 0).toNat).take ((b.getD (wI (i+1)).toNat 0).toNat-(b.getD i.toNat 0).toNat)).getD 0 0) !=i then some (.inl (false,()))else if 0<=(wI ((((c.drop (b.getD i.toNat 0).toNat).take ((b.getD (wI (i+1)).toNat 0).toNat-(b.getD i.toNat 0).toNat)).length:Int)-1))/\(wI ((((c.drop (b.getD i.toNat 0).toNat).take ((b.getD (wI (i+1)).toNat 0).toNat-(b.getD i.toNat 0).toNat)).length:Int)-1))<(((c.drop (b.getD i.toNat 0).toNat).take ((b.getD (wI (i+1)).toNat 0).toNat-(b.getD i.toNat 0).toNat)).length:Int)then bif decide ((((c.drop (b.getD i.toNat 0).toNat).take ((b.getD (wI (i+1)).toNat 0).toNat-(b.getD i.toNat 0).toNat)).getD (wI ((((c.drop (b.getD i.toNat 0).toNat).take ((b.getD (wI (i+1)).toNat 0).toNat-(b.getD i.toNat 0).toNat)).length:Int)-1)).toNat 0)>=f)then some (.inl (false,()))else (fO m m a b c d f ((c.drop (b.getD i.toNat 0).toNat).take ((b.getD (wI (i+1)).toNat 0).toNat-(b.getD i.toNat 0).toNat)) 1 h i).bind λy1=>match y1 with
        | .inl z2=>some (.inl (z2.1,()))
        | .inr (.inl z3)=>eM m n z3.1.1 z3.1.2.1 z3.1.2.2.1 z3.1.2.2.2.1 z3.2.1 z3.2.2.1 (wI (z3.2.2.2.1+1))
        | .inr (.inr e)=>e.elim else none else none else none else none else none else none else none else none else some (.inr (.inl ()))
def qv (m:Nat) (a:LI) (b:LI) (c:LI) (d:LI):Option pU:=if(0:Int)<=0/\0<(b.length:Int)then bif (b.getD 0 0) !=0 then some (false,((),()))else if 0<=(a.length:Int)/\(a.length:Int)<(b.length:Int)then bif (b.getD (a.length:Int).toNat 0) !=(c.length:Int)then some (false,((),()))else (eM m m a b c d (a.length:Int) (a.length:Int) 0).bind λy1=>match y1 with
   | .inl z2=>some (z2.1,((),()))
   | .inr (.inl z3)=>some (true,((),()))
   | .inr (.inr e)=>e.elim else none else none
def fP (m:Nat):Nat->LI->LI->LI->LI->Int->Int->Option ub
 |0,_,_,_,_,_,_=>none
 |n+1,a,b,c,d,f,h=>bif decide (h<f)then if 0<=h/\h<(b.length:Int)then if 0<=(b.getD h.toNat 0)/\(b.getD h.toNat 0)<(d.length:Int)then (sP m (d.getD (b.getD h.toNat 0).toNat 0)).bind λy1=>(u7 m y1.1.1 y1.1.2.1 y1.1.2.2.1 y1.1.2.2.2.1).bind λy2=>bif decide (y2.1<=0)then some (.inl (4,()))else fP m n a b c d f (wI (h+1))else none else none else some (.inr (.inl ()))
def fQ (m:Nat):Nat->LI->LI->LI->LI->Int->LI->Int->Int->Option (Ca⊕(tW×Int×Unit)⊕Empty)
 |0,_,_,_,_,_,_,_,_=>none
 |n+1,a,b,c,d,f,h,i,j=>bif decide (j<i)then if 0<=j/\j<(h.length:Int)then (tI m (h.getD j.toNat 0)).bind λy1=>bif !y1.1 then some (.inl (4,()))else fQ m n a b c d f h i (wI (j+1))else none else some (.inr (.inl ((a,b,c,d,()),f,())))
def wj (m:Nat) (a:LI) (b:LI) (c:LI) (d:LI):Option l7:=bif decide ((a.length:Int)>200)then some (6,((),()))else (Af m a).bind λy1=>bif !y1.1 then some (90,((),()))else bif (b.length:Int) !=(wI ((a.length:Int)+1))then some (2,((),()))else bif (c.length:Int) !=(d.length:Int)then some (2,((),()))else (qv m a b c d).bind λy2=>bif !y2.1 then some (240,((),()))else (fQ m m a b c d (a.length:Int) d (d.length:Int) 0).bind λy3=>match y3 with
      | .inl z4=>some (z4.1,((),()))
      | .inr (.inl z5)=>(fP m m z5.1.1 z5.1.2.1 z5.1.2.2.1 z5.1.2.2.2.1 z5.2.1 0).bind λy6=>match y6 with
       | .inl z7=>some (z7.1,((),()))
       | .inr (.inl z8)=>some (0,((),()))
       | .inr (.inr e)=>e.elim
      | .inr (.inr e)=>e.elim
def lh (m:Nat):Nat->LI->Int->Int->Option ub
 |0,_,_,_=>none
 |n+1,a,b,c=>bif decide (c<b)then if 0<=c/\c<(a.length:Int)then (tI m (a.getD c.toNat 0)).bind λy1=>bif !y1.1 then some (.inl (4,()))else lh m n a b (wI (c+1))else none else some (.inr (.inl ()))
def G9 (m:Nat) (a:LI):Option l7:=(lh m m a (a.length:Int) 0).bind λy1=>match y1 with
 | .inl z2=>some (z2.1,((),()))
 | .inr (.inl z3)=>some (0,((),()))
 | .inr (.inr e)=>e.elim
def Bd (m:Nat) (a:LI) (b:Int):Option jY:=bif (a.length:Int) !=b then some (2,((),(),()))else (G9 m a).bind λy1=>some (y1.1,((),(),()))
def Kt (m:Nat) (a:LI) (b:LI) (c:LI) (d:LI) (f:LI):Option jY:=(wj m a b c d).bind λy1=>bif y1.1 !=0 then some (y1.1,((),(),()))else (Bd m f (a.length:Int)).bind λy2=>some (y2.1,((),(),()))
def oL (m:Nat):Nat->LI->LI->LI->Int->Int->Option ob
 |0,_,_,_,_,_=>none
 |n+1,a,b,c,d,f=>bif decide (f<d)then if 0<=f/\f<(c.length:Int)then if 0<=(c.getD f.toNat 0)/\(c.getD f.toNat 0)<(a.length:Int)then if 0<=f/\f<(b.length:Int)then oL m n a (b.set (0+f.toNat) (a.getD (c.getD f.toNat 0).toNat 0)) c d (wI (f+1))else none else none else none else some (.inl (b,()))
def O8 (m:Nat) (a:LI) (b:LI):Option tx:=if 0<=(a.length:Int)/\(a.length:Int)<=(a.length:Int)/\(a.length:Int)<=1073741824 then (oL m m a (List.replicate (a.length:Int).toNat (0:Int)) b (b.length:Int) 0).bind λy1=>match y1 with
 | .inl z2=>some (z2.1,((),(),()))
 | .inr e=>e.elim else none
def oK (m:Nat):Nat->LI->Int->Int->Option ob
 |0,_,_,_=>none
 |n+1,a,b,c=>bif decide (c<b)then if a.length+([c]:LI).length<=1073741824 then oK m n (a++([c]:LI)) b (wI (c+1))else none else some (.inl (a,()))
def O7 (m:Nat) (a:Int):Option xC:=(oK m m ([]:LI) a 0).bind λy1=>match y1 with
 | .inl z2=>some (z2.1,((),()))
 | .inr e=>e.elim
def lI (m:Nat):Nat->ue->LI->Int->Int->Option ((ue×Unit)⊕Empty)
 |0,_,_,_,_=>none
 |n+1,a,b,c,d=>bif decide (d<c)then if 0<=d/\d<(b.length:Int)then (sP m (b.getD d.toNat 0)).bind λy1=>if 0<=d/\d<(a.length:Int)then lI m n (a.set d.toNat ([(y1.1.1,((y1.1.2.1,y1.1.2.2.1),y1.1.2.2.2.1))]:List j9)) b c (wI (d+1))else none else none else some (.inl (a,()))
def we (m:Nat) (a:LI):Option (ue×Unit×Unit):=if 0<=(a.length:Int)/\(a.length:Int)<=(a.length:Int)/\(a.length:Int)<=1073741824 then (lI m m (List.replicate (a.length:Int).toNat ([]:List j9)) a (a.length:Int) 0).bind λy1=>match y1 with
 | .inl z2=>some (z2.1,((),()))
 | .inr e=>e.elim else none
def ib (m:Nat):Nat->mc->Bool->Bool->LI->Int->Int->Bool->LI->mc->Int->Int->Option ((mc×oc×Int×n9×Unit)⊕Empty)
 |0,_,_,_,_,_,_,_,_,_,_,_=>none
 |n+1,a,b,c,d,f,h,i,j,k,l,o=>bif decide (o<l)then if 0<=o/\o<(k.length:Int)then (jP m (k.getD (0+o.toNat) qz).2.1.1 (k.getD (0+o.toNat) qz).2.1.2 (wI ((k.getD (0+o.toNat) qz).2.2-h))).bind λy1=>(jQ m i j y1.1.1 y1.1.2.1).bind λy2=>ib m n a b c d f h y2.1.1 y2.1.2.1 k l (wI (o+1))else none else some (.inl (a,(b,c,d,f,()),h,(i,j,()),()))
def ic (m:Nat):Nat->mc->Bool->Bool->LI->Int->mc->Int->Int->Int->Option ((mc×oc×Unit)⊕(mc×oc×mc×Int×Unit)⊕Empty)
 |0,_,_,_,_,_,_,_,_,_=>none
 |n+1,a,b,c,d,f,h,i,j,k=>bif decide (k<j)then if 0<=k/\k<(a.length:Int)then (gQ m (a.getD (0+k.toNat) qz).1 (a.getD (0+k.toNat) qz).2.1.1 (a.getD (0+k.toNat) qz).2.1.2 (a.getD (0+k.toNat) qz).2.2).bind λy1=>bif !y1.1.2.1 then (qG m).bind λy2=>some (.inl (a,(y2.1.1,y2.1.2.1,y2.1.2.2.1,y2.1.2.2.2.1,()),()))else if h.length+([(y1.1.1.1,((y1.1.1.2.1,y1.1.1.2.2.1),y1.1.1.2.2.2.1))]:List j9).length<=1073741824 then ic m n a b c d f (h++([(y1.1.1.1,((y1.1.1.2.1,y1.1.1.2.2.1),y1.1.1.2.2.2.1))]:List j9)) (if y1.1.1.2.2.2.1<i then y1.1.1.2.2.2.1 else i) j (wI (k+1))else none else none else some (.inr (.inl (a,(b,c,d,f,()),h,i,())))
def oZ (m:Nat) (a:List j9):Option (oc×mc×Unit):=(ic m m a false false ([]:LI) 0 ([]:List j9) 0 (a.length:Int) 0).bind λy1=>match y1 with
 | .inl z2=>some ((z2.2.1.1,z2.2.1.2.1,z2.2.1.2.2.1,z2.2.1.2.2.2.1,()),(z2.1,()))
 | .inr (.inl z3)=>(ib m m z3.1 z3.2.1.1 z3.2.1.2.1 z3.2.1.2.2.1 z3.2.1.2.2.2.1 z3.2.2.2.1 false ([]:LI) z3.2.2.1 (z3.2.2.1.length:Int) 0).bind λy4=>match y4 with
  | .inl z5=>(jR m z5.2.2.2.1.1 z5.2.2.2.1.2.1 z5.2.2.1).bind λy6=>some ((y6.1.1,y6.1.2.1,y6.1.2.2.1,y6.1.2.2.2.1,()),(z5.1,()))
  | .inr e=>e.elim
 | .inr (.inr e)=>e.elim
def wb (m:Nat) (a:List mc) (b:Int):Option (oc×ue×Unit×Unit):=if 0<=b/\b<(a.length:Int)then (oZ m (a.getD b.toNat ([]:List j9))).bind λy1=>some ((y1.1.1,y1.1.2.1,y1.1.2.2.1,y1.1.2.2.2.1,()),(a.set b.toNat y1.2.1,(),()))else none
def wa (m:Nat) (a:List mc) (b:Int) (c:Int) (d:Int):Option (Unit×ue×Unit×Unit×Unit×Unit):=if 0<=b/\b<(a.length:Int)then (sP m c).bind λy1=>(sP m d).bind λy2=>(qC m y1.1.1 y1.1.2.1 y1.1.2.2.1 y1.1.2.2.2.1 y2.1.1 y2.1.2.1 y2.1.2.2.1 y2.1.2.2.2.1).bind λy3=>(vK m y3.1.1 y3.1.2.1 y3.1.2.2.1 y3.1.2.2.2.1).bind λy4=>if(a.getD b.toNat ([]:List j9)).length+([(y4.1.1,((y4.1.2.1,y4.1.2.2.1),y4.1.2.2.2.1))]:List j9).length<=1073741824 then if 0<=b/\b<(a.length:Int)then if b.toNat=b.toNat then some ((),(a.set b.toNat ((a.getD b.toNat ([]:List j9))++([(y4.1.1,((y4.1.2.1,y4.1.2.2.1),y4.1.2.2.2.1))]:List j9)),(),(),(),()))else none else none else none else none
def mU (m:Nat):Nat->LI->LI->LI->LI->ue->LI->Int->Int->LI->Int->Int->Option ((tW×ue×LI×LI×Int×Int×Unit)⊕Empty)
 |0,_,_,_,_,_,_,_,_,_,_,_=>none
 |n+1,a,b,c,d,f,h,i,j,k,l,o=>if 0<=(wI (i+1))/\(wI (i+1))<(b.length:Int)then bif decide (j<(b.getD (wI (i+1)).toNat 0))then if 0<=j/\j<(c.length:Int)then if 0<=j/\j<(d.length:Int)then if 0<=i/\i<(h.length:Int)then (wa m f (c.getD j.toNat 0) (d.getD j.toNat 0) (h.getD (0+i.toNat) 0)).bind λy1=>mU m n a b c d y1.2.1 h i (wI (j+1)) k l o else none else none else none else some (.inl ((a,b,c,d,()),f,h,k,l,o,()))else none
def kK (m:Nat):Nat->LI->LI->LI->LI->ue->LI->LI->Int->Int->Option Py
 |0,_,_,_,_,_,_,_,_,_=>none
 |n+1,a,b,c,d,f,h,i,j,k=>bif decide (k<j)then if 0<=k/\k<(i.length:Int)then (wb m f (i.getD k.toNat 0)).bind λy1=>if 0<=(i.getD k.toNat 0)/\(i.getD k.toNat 0)<(b.length:Int)then if 0<=(b.getD (i.getD k.toNat 0).toNat 0)/\(b.getD (i.getD k.toNat 0).toNat 0)<(d.length:Int)then (sP m (d.getD (b.getD (i.getD k.toNat 0).toNat 0).toNat 0)).bind λy2=>(s5 m y1.1.1 y1.1.2.1 y1.1.2.2.1 y1.1.2.2.2.1 y2.1.1 y2.1.2.1 y2.1.2.2.1 y2.1.2.2.2.1 0).bind λy3=>if 0<=(i.getD k.toNat 0)/\(i.getD k.toNat 0)<(h.length:Int)then if 0<=(i.getD k.toNat 0)/\(i.getD k.toNat 0)<((h.set (0+(i.getD k.toNat 0).toNat) y3.1).length:Int)then (tI m ((h.set (0+(i.getD k.toNat 0).toNat) y3.1).getD (0+(i.getD k.toNat 0).toNat) 0)).bind λy4=>bif !y4.1 then some (.inl ([],233,()))else if 0<=(i.getD k.toNat 0)/\(i.getD k.toNat 0)<(b.length:Int)then (mU m m a b c d y1.2.1 (h.set (0+(i.getD k.toNat 0).toNat) y3.1) (i.getD k.toNat 0) (wI ((b.getD (i.getD k.toNat 0).toNat 0)+1)) i j k).bind λy5=>match y5 with
    | .inl z6=>kK m n z6.1.1 z6.1.2.1 z6.1.2.2.1 z6.1.2.2.2.1 z6.2.1 z6.2.2.1 z6.2.2.2.1 z6.2.2.2.2.1 (wI (z6.2.2.2.2.2.1+1))
    | .inr e=>e.elim else none else none else none else none else none else none else some (.inr (.inl (h,())))
def O9 (m:Nat) (a:LI) (b:LI) (c:LI) (d:LI) (f:LI) (h:LI):Option ((LI×Int×Unit)×Unit×Unit×Unit×Unit):=(we m f).bind λy1=>if 0<=(f.length:Int)/\(f.length:Int)<=(f.length:Int)/\(f.length:Int)<=1073741824 then (kK m m a b c d y1.1 (List.replicate (f.length:Int).toNat (0:Int)) h (h.length:Int) 0).bind λy2=>match y2 with
 | .inl z3=>some ((z3.1,z3.2.1,()),((),(),(),()))
 | .inr (.inl z4)=>some ((z4.1,0,()),((),(),(),()))
 | .inr (.inr e)=>e.elim else none
def mR (m:Nat):Nat->LI->LI->LI->LI->ue->LI->Int->Int->Option ((tW×ue×LI×Int×Unit)⊕Empty)
 |0,_,_,_,_,_,_,_,_=>none
 |n+1,a,b,c,d,f,h,i,j=>if 0<=(wI (i+1))/\(wI (i+1))<(b.length:Int)then bif decide (j<(b.getD (wI (i+1)).toNat 0))then if 0<=j/\j<(d.length:Int)then if 0<=j/\j<(c.length:Int)then if 0<=(c.getD j.toNat 0)/\(c.getD j.toNat 0)<(h.length:Int)then (wa m f i (d.getD j.toNat 0) (h.getD (0+(c.getD j.toNat 0).toNat) 0)).bind λy1=>mR m n a b c d y1.2.1 h i (wI (j+1))else none else none else none else some (.inl ((a,b,c,d,()),f,h,i,()))else none
def kJ (m:Nat):Nat->LI->LI->LI->LI->ue->LI->Int->Option Py
 |0,_,_,_,_,_,_,_=>none
 |n+1,a,b,c,d,f,h,i=>bif decide (i>=0)then if 0<=i/\i<(b.length:Int)then (mR m m a b c d f h i (wI ((b.getD i.toNat 0)+1))).bind λy1=>match y1 with
   | .inl z2=>(wb m z2.2.1 z2.2.2.2.1).bind λy3=>if 0<=z2.2.2.2.1/\z2.2.2.2.1<(z2.1.2.1.length:Int)then if 0<=(z2.1.2.1.getD z2.2.2.2.1.toNat 0)/\(z2.1.2.1.getD z2.2.2.2.1.toNat 0)<(z2.1.2.2.2.1.length:Int)then (sP m (z2.1.2.2.2.1.getD (z2.1.2.1.getD z2.2.2.2.1.toNat 0).toNat 0)).bind λy4=>(s5 m y3.1.1 y3.1.2.1 y3.1.2.2.1 y3.1.2.2.2.1 y4.1.1 y4.1.2.1 y4.1.2.2.1 y4.1.2.2.2.1 0).bind λy5=>if 0<=z2.2.2.2.1/\z2.2.2.2.1<(z2.2.2.1.length:Int)then if 0<=z2.2.2.2.1/\z2.2.2.2.1<((z2.2.2.1.set (0+z2.2.2.2.1.toNat) y5.1).length:Int)then (tI m ((z2.2.2.1.set (0+z2.2.2.2.1.toNat) y5.1).getD (0+z2.2.2.2.1.toNat) 0)).bind λy6=>bif !y6.1 then some (.inl ([],233,()))else kJ m n z2.1.1 z2.1.2.1 z2.1.2.2.1 z2.1.2.2.2.1 y3.2.1 (z2.2.2.1.set (0+z2.2.2.2.1.toNat) y5.1) (wI (z2.2.2.2.1-1))else none else none else none else none
   | .inr e=>e.elim else none else some (.inr (.inl (h,())))
def O6 (m:Nat) (a:LI) (b:LI) (c:LI) (d:LI) (f:LI):Option NK:=(we m f).bind λy1=>if 0<=(f.length:Int)/\(f.length:Int)<=(f.length:Int)/\(f.length:Int)<=1073741824 then (kJ m m a b c d y1.1 (List.replicate (f.length:Int).toNat (0:Int)) (wI ((f.length:Int)-1))).bind λy2=>match y2 with
 | .inl z3=>some ((z3.1,z3.2.1,()),((),(),()))
 | .inr (.inl z4)=>some ((z4.1,0,()),((),(),()))
 | .inr (.inr e)=>e.elim else none
def oJ (m:Nat):Nat->LI->LI->LI->Int->Int->Option ob
 |0,_,_,_,_,_=>none
 |n+1,a,b,c,d,f=>bif decide (f<d)then if 0<=f/\f<(c.length:Int)then if 0<=f/\f<(a.length:Int)then if 0<=(c.getD f.toNat 0)/\(c.getD f.toNat 0)<(b.length:Int)then oJ m n a (b.set (0+(c.getD f.toNat 0).toNat) (a.getD f.toNat 0)) c d (wI (f+1))else none else none else none else some (.inl (b,()))
def Tg (m:Nat) (a:LI) (b:LI):Option tx:=if 0<=(a.length:Int)/\(a.length:Int)<=(a.length:Int)/\(a.length:Int)<=1073741824 then (oJ m m a (List.replicate (a.length:Int).toNat (0:Int)) b (b.length:Int) 0).bind λy1=>match y1 with
 | .inl z2=>some (z2.1,((),(),()))
 | .inr e=>e.elim else none
def xK (m:Nat) (a:LI) (b:LI) (c:LI) (d:LI) (f:LI):Option NK:=(Kt m a b c d f).bind λy1=>bif y1.1 !=0 then some (([],y1.1,()),((),(),()))else (O8 m f a).bind λy2=>(O7 m (f.length:Int)).bind λy3=>(O9 m a b c d y2.1 y3.1).bind λy4=>bif y4.1.2.1 !=0 then some (([],y4.1.2.1,()),((),(),()))else (O6 m a b c d y4.1.1).bind λy5=>bif y5.1.2.1 !=0 then some (([],y5.1.2.1,()),((),(),()))else (Tg m y5.1.1 a).bind λy6=>some ((y6.1,0,()),((),(),()))
def LH (m:Nat):Option (Bool×Unit):=(Hi m 1 1 ([0,1]:LI) ([0]:LI) ([4616189618054758400]:LI) ([0]:LI)).bind λy1=>(xK m y1.1.1.1 y1.1.1.2.1 y1.1.1.2.2.1 y1.1.1.2.2.2.1 ([4620693217682128896]:LI)).bind λy2=>bif y1.1.2.2.1==0 then bif y1.1.2.1==1 then bif y2.1.2.1==0 then bif (y2.1.1.length:Int)==1 then if(0:Int)<=0/\0<(y2.1.1.length:Int)then some ((y2.1.1.getD (0+0) 0)==4611686018427387904,())else none else some (false,())else some (false,())else some (false,())else some (false,())
def sO (m:Nat):Nat->Int->LI->LI->Int->LI->Int->Option xE
 |0,_,_,_,_,_,_=>none
 |n+1,a,b,c,d,f,h=>bif decide (h<a)then bif d==0 then if 0<=h/\h<(f.length:Int)then if 0<=h/\h<(b.length:Int)then if 0<=(b.getD (0+h.toNat) 0)/\(b.getD (0+h.toNat) 0)<(c.length:Int)then bif (f.getD (0+h.toNat) 0) !=(c.getD (0+(b.getD (0+h.toNat) 0).toNat) 0)then some (.inl (false,()))else sO m n a b c d f (wI (h+1))else none else none else none else some (.inr (.inl ()))else some (.inr (.inl ()))
def u6 (m:Nat):Nat->Int->LI->LI->LI->LI->LI->LI->LI->LI->LI->LI->LI->Int->Option ((Int×LI×LI×tW×tW×LI×Unit)⊕Empty)
 |0,_,_,_,_,_,_,_,_,_,_,_,_,_=>none
 |n+1,a,b,c,d,f,h,i,j,k,l,o,p,q=>bif decide (q<a)then if 0<=q/\q<(b.length:Int)then if 0<=(b.getD (0+q.toNat) 0)/\(b.getD (0+q.toNat) 0)<(c.length:Int)then if p.length+([c.getD (0+(b.getD (0+q.toNat) 0).toNat) 0]:LI).length<=1073741824 then u6 m n a b c d f h i j k l o (p++([c.getD (0+(b.getD (0+q.toNat) 0).toNat) 0]:LI)) (wI (q+1))else none else none else none else some (.inl (a,b,c,(d,f,h,i,()),(j,k,l,o,()),p,()))
def g4 (m:Nat) (a:LI) (b:Int) (c:Int):Option NJ:=(Bw m b 6).bind λy1=>(Po m a y1.1 c).bind λy2=>(Pp m y2.1.1 y2.1.2.1 y2.1.2.2.1 y2.1.2.2.2.1 y2.1.2.2.2.2.1).bind λy3=>(Pn m a y1.1).bind λy4=>(Bw m c 3).bind λy5=>(Pm m a 50 y1.1 y5.1).bind λy6=>(Pk m y3.1.1 y3.1.2.1 y3.1.2.2.1 y3.1.2.2.2.1 y3.1.2.2.2.2.1 y4.1 y4.1).bind λy7=>(Hi m y3.1.1 y3.1.2.1 y3.1.2.2.1 y3.1.2.2.2.1 y3.1.2.2.2.2.1 y4.1).bind λy8=>(TP m y1.1).bind λy9=>(Hi m y7.1.1.1 y7.1.1.2.1 y7.1.1.2.2.1 y7.1.1.2.2.2.1 y7.1.1.2.2.2.2.1 y9.1).bind λy10=>bif y7.1.2.1 !=0 then some (false,((),(),(),()))else bif y8.1.2.2.1 !=y10.1.2.2.1 then some (false,((),(),(),()))else bif y8.1.2.1 !=y10.1.2.1 then some (false,((),(),(),()))else (Ij m y8.1.1.2.1 y10.1.1.2.1).bind λy11=>bif !y11.1 then some (false,((),(),(),()))else (Ij m y8.1.1.2.2.1 y10.1.1.2.2.1).bind λy12=>bif !y12.1 then some (false,((),(),(),()))else (Pj m y8.1.1.2.2.2.1 y10.1.1.2.2.2.1).bind λy13=>bif !y13.1 then some (false,((),(),(),()))else bif y8.1.2.2.1 !=0 then (LH m).bind λy14=>some (y14.1,((),(),(),()))else (u6 m m y1.1 y4.1 y6.1 y8.1.1.1 y8.1.1.2.1 y8.1.1.2.2.1 y8.1.1.2.2.2.1 y10.1.1.1 y10.1.1.2.1 y10.1.1.2.2.1 y10.1.1.2.2.2.1 ([]:LI) 0).bind λy15=>match y15 with
        | .inl z16=>(xK m z16.2.2.2.1.1 z16.2.2.2.1.2.1 z16.2.2.2.1.2.2.1 z16.2.2.2.1.2.2.2.1 z16.2.2.1).bind λy17=>(xK m z16.2.2.2.2.1.1 z16.2.2.2.2.1.2.1 z16.2.2.2.2.1.2.2.1 z16.2.2.2.2.1.2.2.2.1 z16.2.2.2.2.2.1).bind λy18=>bif y17.1.2.1 !=y18.1.2.1 then some (false,((),(),(),()))else bif y17.1.2.1==0 then bif (y17.1.1.length:Int) !=z16.1 then some (false,((),(),(),()))else bif (y18.1.1.length:Int) !=z16.1 then some (false,((),(),(),()))else (sO m m z16.1 z16.2.1 y17.1.1 y17.1.2.1 y18.1.1 0).bind λy19=>match y19 with
             | .inl z20=>some (z20.1,((),(),(),()))
             | .inr (.inl z21)=>(LH m).bind λy22=>some (y22.1,((),(),(),()))
             | .inr (.inr e)=>e.elim else (sO m m z16.1 z16.2.1 y17.1.1 y17.1.2.1 y18.1.1 0).bind λy23=>match y23 with
           | .inl z24=>some (z24.1,((),(),(),()))
           | .inr (.inl z25)=>(LH m).bind λy26=>some (y26.1,((),(),(),()))
           | .inr (.inr e)=>e.elim
        | .inr e=>e.elim
end Go.Vs.F
