import Derived.Test.YtkbgfnhdfmmfcaaGreatDoorVc
set_option linter.unusedVariables false
namespace Go.Vs.F
abbrev uX:=((),(),())
abbrev Bv:=((),())
abbrev Dv:=((),(),(),())
abbrev Dw:=((),(),(),(),(),())
abbrev Ue1:=((),(),(),(),())
abbrev IK:=(Bool×Unit)
abbrev dU:=(List Bool)
abbrev Bn:=(LI×Int×Unit)
abbrev Bo:=(Int×Int×Int)
abbrev IL:=(LI×Bool×Unit)
abbrev sN:=(List LI×Unit)
abbrev nE:=(Bool×LI×Unit)
abbrev RS:=(LI×Unit×Unit)
abbrev lg:=(Int×Unit×Unit)
abbrev fW:=(Int×Int×LI×Int)
abbrev pF:=(Bool×Unit×Unit)
abbrev pG:=((LI×Unit)⊕Empty)
abbrev xv:=(LI×LI×LI×List LI)
abbrev vL:=(LI×Unit×Unit×Unit)
abbrev E9:=(LI×LI×List LI×Unit)
abbrev uI:=(List Bo )
abbrev jJ:=(Int×Unit×Unit×Unit)
abbrev bF:=(Bool×(Bool×LI)×Int)
abbrev LH:=( Bn ⊕Empty)
abbrev vK:=(Bool×Unit×Unit×Unit)
abbrev sW:=((Int×Unit)⊕Unit⊕Empty)
abbrev lC:=(Bool×Bool×LI×Int×Unit)
abbrev lx:=(Int×Int×LI×LI×LI×Unit)
abbrev fS:=(List fW )
abbrev Bl:=(LI×LI×LI×List LI×Unit)
abbrev sX:=( IK ⊕Unit⊕Empty)
abbrev MN:=(Int×Unit×Unit×Unit×Unit)
abbrev sY:=(List xv )
abbrev Bm:=( nE ×Unit×Unit)
abbrev XX:=((Int×Bool×Unit)×Unit×Unit)
abbrev cW:=(List bF )
abbrev gO:=(LI×LI×LI×LI×LI×LI×Int×Unit)
abbrev XY:=(List dU ×Unit×Unit)
abbrev TY:=(Bool×Bool×LI×Int×Bool×Unit)
abbrev XZ:=(LI×Unit×Unit×Unit×Unit×Unit)
abbrev X1:=((LI×LI×Unit)×Unit×Unit×Unit)
abbrev RP:=( Bn ×Unit×Unit×Unit)
abbrev RQ:=( lC ×Unit)
abbrev X2:=((List dU ×Unit)⊕Empty)
abbrev wW:=( nE ×Unit×Unit×Unit)
abbrev RR:=( IL ×Unit×Unit×Unit)
abbrev Ys:=(( nE ×Int×Unit)⊕Empty)
abbrev LJ:=(List dU ×List Bool×Unit)
abbrev dA:=(List cW )
abbrev YA:=( lx ×Int×Unit)
abbrev TZ:=( E9 ×LI×Int×Unit)
abbrev wX:=( lC ×Unit×Unit)
abbrev YB:=( gO ×Int×Unit)
abbrev YC:=( cW ×Bool×Unit)
abbrev YD:=(( E9 ×Int×Unit)⊕Empty)
abbrev xu:=( lC ×Unit×Unit×Unit)
abbrev MO:=(LI×Int×List cW )
abbrev YE:=(( sN ×Int×Unit)×Unit×Unit×Unit)
abbrev YF:=( lx ×Unit×Unit×Unit×Unit)
abbrev YG:=(( sN ×List dU ×Unit)⊕Empty)
abbrev YH:=( dA ×Unit×Unit)
abbrev gY:=(LI×Int× dA ×Unit)
abbrev YI:=((Int× nE × nE ×Unit)⊕Empty)
abbrev pE:=(List MO )
abbrev YJ:=((Int×Unit)⊕( lx ×Unit)⊕Empty)
abbrev YK:=(( dA ×Unit)⊕Empty)
abbrev YL:=( gO ×Int×List LI×LI×Unit)
abbrev YM:=(( nE ×Int×Bool×Unit)×Unit×Unit×Unit×Unit)
abbrev YN:=(( E9 ×Int×Unit)×Unit×Unit×Unit×Unit)
abbrev T0:=((Int×Unit)⊕( gO ×Unit)⊕Empty)
abbrev T1:=(( nE × nE ×Int×Unit)×Unit×Unit×Unit)
abbrev tu:=((LI× gO ×Int×List LI×Unit)⊕Empty)
abbrev tZ:=( Bn ⊕( gO ×LI×Unit)⊕Empty)
abbrev tY:=(( lx × lx ×Unit)⊕Empty)
abbrev tX:=(( lC × cW ×Unit)⊕Empty)
abbrev tV:=((LI× lC × cW ×Unit)⊕Empty)
abbrev tK:=((Int×Unit)⊕( fS × sN ×Int×Int×Unit)⊕Empty)
abbrev tJ:=( gY × Bl ×Bool×Unit)
abbrev tH:=( gY × Bl × gY × Bl ×Unit)
abbrev tC:=((LI× fS ×Int× pE × lx × gY × gY ×Unit)⊕Empty)
abbrev qz:Bool×(Bool×List Int)×Int:=(false,((false,[]),0))
def LY:LI:=[0,1,28,2,29,14,24,3,30,22,20,15,25,17,4,8,31,27,13,23,21,19,16,7,26,12,18,6,11,5,10,9]
def Y2:LI:=[0,1,2,2,3,3,3,3,4,4,4,4,4,4,4,4,5,5,5,5,5,5,5,5,5,5,5,5,5,5,5,5,6,6,6,6,6,6,6,6,6,6,6,6,6,6,6,6,6,6,6,6,6,6,6,6,6,6,6,6,6,6,6,6,7,7,7,7,7,7,7,7,7,7,7,7,7,7,7,7,7,7,7,7,7,7,7,7,7,7,7,7,7,7,7,7,7,7,7,7,7,7,7,7,7,7,7,7,7,7,7,7,7,7,7,7,7,7,7,7,7,7,7,7,7,7,7,7,8,8,8,8,8,8,8,8,8,8,8,8,8,8,8,8,8,8,8,8,8,8,8,8,8,8,8,8,8,8,8,8,8,8,8,8,8,8,8,8,8,8,8,8,8,8,8,8,8,8,8,8,8,8,8,8,8,8,8,8,8,8,8,8,8,8,8,8,8,8,8,8,8,8,8,8,8,8,8,8,8,8,8,8,8,8,8,8,8,8,8,8,8,8,8,8,8,8,8,8,8,8,8,8,8,8,8,8,8,8,8,8,8,8,8,8,8,8,8,8,8,8,8,8,8,8,8,8]
def Ev (m:Nat) (a:Int) (b:Int):Option jJ:=if(wJ b)≠0 then some (wI (Int.tmod (wJ a) (wJ b)),uX)else none
variable (m:Nat)
def Cd (a:LI) (b:Int):Option jJ:=bif decide ((a.length:Int)>0)then (Ev m b (a.length:Int)).bind λe=>if 0<=e.1/\e.1<(a.length:Int)then some (vQ .u64 (wJ ((vQ .u64 (vQ .u64 (wJ ((wJ (wI (b+1)))*11400714819323198485)) (a.getD e.1.toNat 0)) (aK .u64 (vQ .u64 (wJ ((wJ (wI (b+1)))*11400714819323198485)) (a.getD e.1.toNat 0)) 31))*13787848793156543929)) (aK .u64 (wJ ((vQ .u64 (vQ .u64 (wJ ((wJ (wI (b+1)))*11400714819323198485)) (a.getD e.1.toNat 0)) (aK .u64 (vQ .u64 (wJ ((wJ (wI (b+1)))*11400714819323198485)) (a.getD e.1.toNat 0)) 31))*13787848793156543929)) 29),uX)else none else some (vQ .u64 (wJ ((vQ .u64 (wJ ((wJ (wI (b+1)))*11400714819323198485)) (aK .u64 (wJ ((wJ (wI (b+1)))*11400714819323198485)) 31))*13787848793156543929)) (aK .u64 (wJ ((vQ .u64 (wJ ((wJ (wI (b+1)))*11400714819323198485)) (aK .u64 (wJ ((wJ (wI (b+1)))*11400714819323198485)) 31))*13787848793156543929)) 29),uX)
def oI (m:Nat) (a:Int):Option pF:=some ((qp .u64 (aK .u64 a 52) 2047) !=2047,Bv)
def na (m:Nat):Nat->LI->Int->LI->Int->Option pG
 |0,_,_,_,_=>none
 |n+1,a,b,c,d=>bif decide (d<b)then if 0<=d/\d<(a.length:Int)then if c.length+([a.getD d.toNat 0]:LI).length<=1073741824 then na m n a b (c++([a.getD d.toNat 0]:LI)) (wI (d+1))else none else none else some (.inl (c,()))
def kj (m:Nat):Nat->LI->Int->Option LH
 |0,_,_=>none
 |n+1,a,b=>bif decide (b>0)then if 0<=(wI (b-1))/\(wI (b-1))<(a.length:Int)then bif (a.getD (wI (b-1)).toNat 0)==0 then kj m n a (wI (b-1))else some (.inl (a,b,()))else none else some (.inl (a,b,()))
def gx (a:LI):Option RS:=(kj m m a (a.length:Int)).bind λx=>match x with
 | .inl g=>(na m m g.1 g.2.1 ([]:LI) 0).bind λy=>match y with
  | .inl z=>some (z.1,Bv)
  | .inr e=>e.elim
 | .inr e=>e.elim
def fO (a:Bool) (b:LI):Option wW:=(gx m b).bind λe=>bif a then some ((decide ((e.1.length:Int)>0),e.1,()),uX)else some ((false,e.1,()),uX)
def gq (a:Int):Option Bm:=bif decide (a<0)then (fO m (decide (a<0)) ([wK (wJ ((wJ (wI (0-(wI (a+1)))))+1)),wK (aK .u64 (wJ ((wJ (wI (0-(wI (a+1)))))+1)) 32)]:LI)).bind λe=>some ((e.1.1,e.1.2.1,()),Bv)else (fO m (decide (a<0)) ([wK (wJ a),wK (aK .u64 (wJ a) 32)]:LI)).bind λg=>some ((g.1.1,g.1.2.1,()),Bv)
def nO (a:Bool) (b:LI):Option Bm:=(fO m a b).bind λe=>some ((e.1.1,e.1.2.1,()),Bv)
def x7 (m:Nat):Option RQ:=some ((true,false,[],0,()),())
def yx (m:Nat) (a:Int):Option lg:=bif a==0 then some (32,Bv)else if(0:Int)<=27 then if 0<=(aK .u32 (wK ((qp .u32 a (wK (0-a)))*125613361)) 27)/\(aK .u32 (wK ((qp .u32 a (wK (0-a)))*125613361)) 27)<(LY.length:Int)then some (wI (LY.getD (aK .u32 (wK ((qp .u32 a (wK (0-a)))*125613361)) 27).toNat 0),Bv)else none else none
def kl:Nat->LI->Int->Option sW
 |0,_,_=>none
 |n+1,a,b=>bif decide (b<(a.length:Int))then if 0<=b/\b<(a.length:Int)then bif (a.getD (0+b.toNat) 0) !=0 then if 0<=b/\b<(a.length:Int)then (yx m (a.getD (0+b.toNat) 0)).bind λe=>some (.inl (wI ((wI (32*b))+e.1),()))else none else kl n a (wI (b+1))else none else some (.inr (.inl ()))
def fk (a:Bool) (b:LI):Option lg:=(gx m b).bind λg=>(kl m m g.1 0).bind λx=>match x with
 | .inl y=>some (y.1,Bv)
 | .inr (.inl z)=>some (0,Bv)
 | .inr (.inr e)=>e.elim
def BK (a:Bool) (b:LI):Option Bm:=(fO m false b).bind λe=>some ((e.1.1,e.1.2.1,()),Bv)
def m8 (m:Nat):Nat->LI->Int->LI->Int->Int->Option LH
 |0,_,_,_,_,_=>none
 |n+1,a,b,c,d,f=>bif decide (f<(a.length:Int))then if 0<=f/\f<(a.length:Int)then if 0<=(Int.tmod b 32)then if c.length+([wK (bf .u64 d (bz .u64 (wJ (a.getD f.toNat 0)) (Int.tmod b 32)))]:LI).length<=1073741824 then m8 m n a b (c++([wK (bf .u64 d (bz .u64 (wJ (a.getD f.toNat 0)) (Int.tmod b 32)))]:LI)) (aK .u64 (bf .u64 d (bz .u64 (wJ (a.getD f.toNat 0)) (Int.tmod b 32))) 32) (wI (f+1))else none else none else none else some (.inl (c,d,()))
def pk (a:LI) (b:Int):Option vL:=if 0<=(wI (Int.tdiv b 32))/\(wI (Int.tdiv b 32))<=(wI (Int.tdiv b 32))/\(wI (Int.tdiv b 32))<=1073741824 then (m8 m m a b (List.replicate (wI (Int.tdiv b 32)).toNat (0:Int)) 0 0).bind λx=>match x with
 | .inl g=>if g.1.length+([wK g.2.1]:LI).length<=1073741824 then some (g.1++([wK g.2.1]:LI),uX)else none
 | .inr e=>e.elim else none
def ej (m:Nat):Nat->LI->Int->Bool->LI->Int->Int->Option (nE⊕Empty)
 |0,_,_,_,_,_,_=>none
 |n+1,a,b,c,d,f,h=>bif decide (h<(a.length:Int))then if 0<=h/\h<(a.length:Int)then bif decide ((wI (h+1))<(a.length:Int))then if 0<=(wI (h+1))/\(wI (h+1))<(a.length:Int)then bif h==(wI (Int.tdiv b 32))then if 0<=h/\h<(a.length:Int)then if 0<=f then bif (qp .u32 (a.getD h.toNat 0) (wK ((bz .u32 1 f)-1))) !=0 then if 0<=f then if d.length+([wK (aK .u64 (bf .u64 (wJ (a.getD h.toNat 0)) (bz .u64 (wJ (a.getD (wI (h+1)).toNat 0)) 32)) f)]:LI).length<=1073741824 then ej m n a b true (d++([wK (aK .u64 (bf .u64 (wJ (a.getD h.toNat 0)) (bz .u64 (wJ (a.getD (wI (h+1)).toNat 0)) 32)) f)]:LI)) f (wI (h+1))else none else none else if 0<=f then if d.length+([wK (aK .u64 (bf .u64 (wJ (a.getD h.toNat 0)) (bz .u64 (wJ (a.getD (wI (h+1)).toNat 0)) 32)) f)]:LI).length<=1073741824 then ej m n a b c (d++([wK (aK .u64 (bf .u64 (wJ (a.getD h.toNat 0)) (bz .u64 (wJ (a.getD (wI (h+1)).toNat 0)) 32)) f)]:LI)) f (wI (h+1))else none else none else none else none else if 0<=f then if d.length+([wK (aK .u64 (bf .u64 (wJ (a.getD h.toNat 0)) (bz .u64 (wJ (a.getD (wI (h+1)).toNat 0)) 32)) f)]:LI).length<=1073741824 then ej m n a b c (d++([wK (aK .u64 (bf .u64 (wJ (a.getD h.toNat 0)) (bz .u64 (wJ (a.getD (wI (h+1)).toNat 0)) 32)) f)]:LI)) f (wI (h+1))else none else none else none else bif h==(wI (Int.tdiv b 32))then if 0<=h/\h<(a.length:Int)then if 0<=f then bif (qp .u32 (a.getD h.toNat 0) (wK ((bz .u32 1 f)-1))) !=0 then if 0<=f then if d.length+([wK (aK .u64 (wJ (a.getD h.toNat 0)) f)]:LI).length<=1073741824 then ej m n a b true (d++([wK (aK .u64 (wJ (a.getD h.toNat 0)) f)]:LI)) f (wI (h+1))else none else none else if 0<=f then if d.length+([wK (aK .u64 (wJ (a.getD h.toNat 0)) f)]:LI).length<=1073741824 then ej m n a b c (d++([wK (aK .u64 (wJ (a.getD h.toNat 0)) f)]:LI)) f (wI (h+1))else none else none else none else none else if 0<=f then if d.length+([wK (aK .u64 (wJ (a.getD h.toNat 0)) f)]:LI).length<=1073741824 then ej m n a b c (d++([wK (aK .u64 (wJ (a.getD h.toNat 0)) f)]:LI)) f (wI (h+1))else none else none else none else some (.inl (c,d,()))
def kh (m:Nat):Nat->LI->Int->Bool->Int->Option ((LI×Int×Bool×Unit)⊕Empty)
 |0,_,_,_,_=>none
 |n+1,a,b,c,d=>bif decide (d<(wI (Int.tdiv b 32)))then bif decide (d<(a.length:Int))then bif c then kh m n a b true (wI (d+1))else if 0<=d/\d<(a.length:Int)then kh m n a b ((a.getD d.toNat 0) !=0) (wI (d+1))else none else some (.inl (a,b,c,()))else some (.inl (a,b,c,()))
def rR (a:LI) (b:Int):Option RR:=(kh m m a b false 0).bind λy=>match y with
 | .inl g=>(ej m m g.1 g.2.1 g.2.2.1 ([]:LI) (Int.tmod g.2.1 32) (wI (Int.tdiv g.2.1 32))).bind λz=>match z with
  | .inl x=>some ((x.2.1,x.1,()),uX)
  | .inr e=>e.elim
 | .inr e=>e.elim
def Ac (a:Bool) (b:LI):Option Bm:=(fO m (!a) b).bind λe=>some ((e.1.1,e.1.2.1,()),Bv)
def fw (m:Nat):Nat->LI->LI->LI->Int->Int->Option LH
 |0,_,_,_,_,_=>none
 |n+1,a,b,c,d,f=>bif decide (f<(if(b.length:Int)>(a.length:Int)then(b.length:Int)else(a.length:Int)))then bif decide (f<(a.length:Int))then if 0<=f/\f<(a.length:Int)then bif decide (f<(b.length:Int))then if 0<=f/\f<(b.length:Int)then if c.length+([wK (wJ ((wJ (d+(wJ (a.getD f.toNat 0))))+(wJ (b.getD f.toNat 0))))]:LI).length<=1073741824 then fw m n a b (c++([wK (wJ ((wJ (d+(wJ (a.getD f.toNat 0))))+(wJ (b.getD f.toNat 0))))]:LI)) (aK .u64 (wJ ((wJ (d+(wJ (a.getD f.toNat 0))))+(wJ (b.getD f.toNat 0)))) 32) (wI (f+1))else none else none else if c.length+([wK (wJ (d+(wJ (a.getD f.toNat 0))))]:LI).length<=1073741824 then fw m n a b (c++([wK (wJ (d+(wJ (a.getD f.toNat 0))))]:LI)) (aK .u64 (wJ (d+(wJ (a.getD f.toNat 0)))) 32) (wI (f+1))else none else none else bif decide (f<(b.length:Int))then if 0<=f/\f<(b.length:Int)then if c.length+([wK (wJ (d+(wJ (b.getD f.toNat 0))))]:LI).length<=1073741824 then fw m n a b (c++([wK (wJ (d+(wJ (b.getD f.toNat 0))))]:LI)) (aK .u64 (wJ (d+(wJ (b.getD f.toNat 0)))) 32) (wI (f+1))else none else none else if c.length+([wK d]:LI).length<=1073741824 then fw m n a b (c++([wK d]:LI)) (aK .u64 d 32) (wI (f+1))else none else some (.inl (c,d,()))
def D6 (a:LI) (b:LI):Option vL:=(fw m m a b ([]:LI) 0 0).bind λx=>match x with
 | .inl g=>if g.1.length+([wK g.2.1]:LI).length<=1073741824 then some (g.1++([wK g.2.1]:LI),uX)else none
 | .inr e=>e.elim
def ki (m:Nat):Nat->LI->LI->Int->Option sW
 |0,_,_,_=>none
 |n+1,a,b,c=>bif decide (c>=0)then if 0<=c/\c<(a.length:Int)then if 0<=c/\c<(b.length:Int)then bif (a.getD c.toNat 0) !=(b.getD c.toNat 0)then if 0<=c/\c<(a.length:Int)then if 0<=c/\c<(b.length:Int)then bif decide ((a.getD c.toNat 0)<(b.getD c.toNat 0))then some (.inl ((-1),()))else some (.inl (1,()))else none else none else ki m n a b (wI (c-1))else none else none else some (.inr (.inl ()))
def Ab (a:LI) (b:LI):Option jJ:=bif (a.length:Int) !=(b.length:Int)then bif decide ((a.length:Int)<(b.length:Int))then some ((-1),uX)else some (1,uX)else (ki m m a b (wI ((a.length:Int)-1))).bind λg=>match g with
  | .inl x=>some (x.1,uX)
  | .inr (.inl y)=>some (0,uX)
  | .inr (.inr e)=>e.elim
def iR (m:Nat):Nat->LI->LI->LI->Int->Int->Option pG
 |0,_,_,_,_,_=>none
 |n+1,a,b,c,d,f=>bif decide (f<(a.length:Int))then if 0<=f/\f<(a.length:Int)then bif decide (f<(b.length:Int))then if 0<=f/\f<(b.length:Int)then if c.length+([wK (wJ ((wJ ((wJ (a.getD f.toNat 0))-d))-(wJ (b.getD f.toNat 0))))]:LI).length<=1073741824 then iR m n a b (c++([wK (wJ ((wJ ((wJ (a.getD f.toNat 0))-d))-(wJ (b.getD f.toNat 0))))]:LI)) (aK .u64 (wJ ((wJ ((wJ (a.getD f.toNat 0))-d))-(wJ (b.getD f.toNat 0)))) 63) (wI (f+1))else none else none else if c.length+([wK (wJ ((wJ (a.getD f.toNat 0))-d))]:LI).length<=1073741824 then iR m n a b (c++([wK (wJ ((wJ (a.getD f.toNat 0))-d))]:LI)) (aK .u64 (wJ ((wJ (a.getD f.toNat 0))-d)) 63) (wI (f+1))else none else none else some (.inl (c,()))
def Aa (a:LI) (b:LI):Option vL:=(iR m m a b ([]:LI) 0 0).bind λg=>match g with
 | .inl x=>some (x.1,uX)
 | .inr e=>e.elim
def fN (a:Bool) (b:LI) (c:Bool) (d:LI):Option wW:=(gx m b).bind λe=>(gx m d).bind λg=>bif a==c then (D6 m e.1 g.1).bind λA=>(fO m a A.1).bind λx=>some ((x.1.1,x.1.2.1,()),uX)else (Ab m e.1 g.1).bind λB=>bif decide (B.1>=0)then (Aa m e.1 g.1).bind λC=>(fO m a C.1).bind λy=>some ((y.1.1,y.1.2.1,()),uX)else (Aa m g.1 e.1).bind λD=>(fO m c D.1).bind λz=>some ((z.1.1,z.1.2.1,()),uX)
def wF (a:Bool) (b:LI) (c:Bool) (d:LI):Option wW:=(Ac m c d).bind λe=>(fN m a b e.1.1 e.1.2.1).bind λg=>some ((g.1.1,g.1.2.1,()),uX)
def o8 (a:Bool) (b:LI) (c:Int):Option wW:=(nO m a b).bind λg=>bif decide (c>=0)then (pk m g.1.2.1 c).bind λB=>(fO m g.1.1 B.1).bind λx=>some ((x.1.1,x.1.2.1,()),uX)else (rR m g.1.2.1 (wI (0-c))).bind λy=>(fO m g.1.1 y.1.1).bind λe=>bif g.1.1 then bif y.1.2.1 then (gq m 1).bind λz=>(wF m e.1.1 e.1.2.1 z.1.1 z.1.2.1).bind λA=>some ((A.1.1,A.1.2.1,()),uX)else some ((e.1.1,e.1.2.1,()),uX)else some ((e.1.1,e.1.2.1,()),uX)
def po:Nat->Int->Bool->LI->Bool->LI->Option YI
 |0,_,_,_,_,_=>none
 |n+1,a,b,c,d,f=>bif decide (a>1048576)then (o8 m b c (-1048576)).bind λe=>po n (wI (a-1048576)) e.1.1 e.1.2.1 d f else some (.inl (a,(b,c,()),(d,f,()),()))
def rU (a:Bool) (b:LI) (c:Int):Option wW:=(po m m c a b false ([]:LI)).bind λy=>match y with
 | .inl g=>(o8 m g.2.1.1 g.2.1.2.1 (wI (0-g.1))).bind λx=>some ((x.1.1,x.1.2.1,()),uX)
 | .inr e=>e.elim
def wz (m:Nat) (a:Int):Option lg:=bif decide (a>=65536)then bif decide ((aK .u32 a 16)>=256)then if 0<=(gN (aK .u32 (aK .u32 a 16) 8))/\(gN (aK .u32 (aK .u32 a 16) 8))<(Y2.length:Int)then some (wI (24+(wI (Y2.getD (gN (aK .u32 (aK .u32 a 16) 8)).toNat 0))),Bv)else none else if 0<=(gN (aK .u32 a 16))/\(gN (aK .u32 a 16))<(Y2.length:Int)then some (wI (16+(wI (Y2.getD (gN (aK .u32 a 16)).toNat 0))),Bv)else none else bif decide (a>=256)then if 0<=(gN (aK .u32 a 8))/\(gN (aK .u32 a 8))<(Y2.length:Int)then some (wI (8+(wI (Y2.getD (gN (aK .u32 a 8)).toNat 0))),Bv)else none else if 0<=(gN a)/\(gN a)<(Y2.length:Int)then some (wI (0+(wI (Y2.getD (gN a).toNat 0))),Bv)else none
def pn (a:Bool) (b:LI):Option lg:=(gx m b).bind λe=>bif (e.1.length:Int)==0 then some (0,Bv)else if 0<=(wI ((e.1.length:Int)-1))/\(wI ((e.1.length:Int)-1))<(e.1.length:Int)then (wz m (e.1.getD (0+(wI ((e.1.length:Int)-1)).toNat) 0)).bind λg=>some (wI ((wI (32*(wI ((e.1.length:Int)-1))))+g.1),Bv)else none
def vc (a:Bool) (b:LI) (c:Int):Option xu:=(nO m a b).bind λe=>bif (e.1.2.1.length:Int)==0 then some ((false,false,[],0,()),uX)else bif decide (c>65536)then (x7 m).bind λg=>some ((g.1.1,g.1.2.1,g.1.2.2.1,g.1.2.2.2.1,()),uX)else (fk m e.1.1 e.1.2.1).bind λx=>(BK m e.1.1 e.1.2.1).bind λB=>(rU m B.1.1 B.1.2.1 x.1).bind λA=>bif decide ((wI (c+x.1))<(-65536))then (x7 m).bind λy=>some ((y.1.1,y.1.2.1,y.1.2.2.1,y.1.2.2.2.1,()),uX)else (pn m A.1.1 A.1.2.1).bind λC=>bif decide ((wI ((wI (c+x.1))+C.1))>65536)then (x7 m).bind λz=>some ((z.1.1,z.1.2.1,z.1.2.2.1,z.1.2.2.2.1,()),uX)else some ((false,a,A.1.2.1,wI (c+x.1),()),uX)
def KZ (a:Int):Option wX:=(gq m a).bind λg=>(vc m g.1.1 g.1.2.1 0).bind λe=>some ((e.1.1,e.1.2.1,e.1.2.2.1,e.1.2.2.2.1,()),Bv)
def nI (a:Bool) (b:Bool) (c:LI) (d:Int):Option wX:=bif a then (x7 m).bind λe=>some ((e.1.1,e.1.2.1,e.1.2.2.1,e.1.2.2.2.1,()),Bv)else (vc m b c d).bind λg=>some ((g.1.1,g.1.2.1,g.1.2.2.1,g.1.2.2.2.1,()),Bv)
def fU (a:Bool) (b:LI):Option lg:=(nO m a b).bind λe=>bif (e.1.2.1.length:Int)==0 then some (0,Bv)else bif e.1.1 then some ((-1),Bv)else some (1,Bv)
def kT (m:Nat) (a:Bool) (b:Int):Option jJ:=bif a then some (bf .u64 b 9223372036854775808,uX)else some (b,uX)
def nK (a:Bool) (b:Int):Option jJ:=bif b==3 then (kT m a 9218868437227405311).bind λe=>some (e.1,uX)else bif b==1 then bif !a then (kT m a 9218868437227405311).bind λg=>some (g.1,uX)else bif b==2 then bif a then (kT m a 9218868437227405311).bind λx=>some (x.1,uX)else (kT m a 9218868437227405312).bind λy=>some (y.1,uX)else (kT m a 9218868437227405312).bind λz=>some (z.1,uX)else bif b==2 then bif a then (kT m a 9218868437227405311).bind λA=>some (A.1,uX)else (kT m a 9218868437227405312).bind λB=>some (B.1,uX)else (kT m a 9218868437227405312).bind λC=>some (C.1,uX)
def tp (a:Bool) (b:LI) (c:Int):Option vK:=(gx m b).bind λe=>(rR m e.1 c).bind λg=>some (g.1.2.1,uX)
def dw (m:Nat) (a:Bool) (b:Int) (c:Bool) (d:Int):Option (Bool×Unit×Unit×Unit×Unit×Unit):=bif d==1 then some (a,Ue1)else bif d==2 then some (!a,Ue1)else bif d==3 then some (false,Ue1)else bif decide (b>0)then some (true,Ue1)else bif b==0 then some (c,Ue1)else some (false,Ue1)
def yv (a:Bool) (b:Bool) (c:LI) (d:Int) (f:Bool) (h:Int):Option (nE×Unit×Unit×Unit×Unit×Unit×Unit):=(rU m b c d).bind λe=>(tp m b c d).bind λy2=>bif !y2.1 then bif !f then some ((e.1.1,e.1.2.1,()),Dw)else bif decide (d>0)then (rU m b c (wI (d-1))).bind λy3=>(fk m y3.1.1 y3.1.2.1).bind λy4=>bif y4.1==0 then (fU m y3.1.1 y3.1.2.1).bind λy5=>bif y5.1 !=0 then bif f then (fU m e.1.1 e.1.2.1).bind λy6=>bif y6.1 !=0 then (fk m e.1.1 e.1.2.1).bind λy7=>(dw m a 1 (y7.1==0) h).bind λy8=>bif y8.1 then (gq m 1).bind λy9=>(fN m e.1.1 e.1.2.1 y9.1.1 y9.1.2.1).bind λB=>some ((B.1.1,B.1.2.1,()),Dw)else some ((e.1.1,e.1.2.1,()),Dw)else (dw m a 1 false h).bind λz2=>bif z2.1 then (gq m 1).bind λC=>(fN m e.1.1 e.1.2.1 C.1.1 C.1.2.1).bind λD=>some ((D.1.1,D.1.2.1,()),Dw)else some ((e.1.1,e.1.2.1,()),Dw)else (tp m b c (wI (d-1))).bind λe2=>bif e2.1 then (fU m e.1.1 e.1.2.1).bind λg2=>bif g2.1 !=0 then (fk m e.1.1 e.1.2.1).bind λx2=>(dw m a 1 (x2.1==0) h).bind λz3=>bif z3.1 then (gq m 1).bind λE=>(fN m e.1.1 e.1.2.1 E.1.1 E.1.2.1).bind λF=>some ((F.1.1,F.1.2.1,()),Dw)else some ((e.1.1,e.1.2.1,()),Dw)else (dw m a 1 false h).bind λe3=>bif e3.1 then (gq m 1).bind λG=>(fN m e.1.1 e.1.2.1 G.1.1 G.1.2.1).bind λH=>some ((H.1.1,H.1.2.1,()),Dw)else some ((e.1.1,e.1.2.1,()),Dw)else (fU m e.1.1 e.1.2.1).bind λg3=>bif g3.1 !=0 then (fk m e.1.1 e.1.2.1).bind λx3=>(dw m a 0 (x3.1==0) h).bind λz4=>bif z4.1 then (gq m 1).bind λI=>(fN m e.1.1 e.1.2.1 I.1.1 I.1.2.1).bind λJ=>some ((J.1.1,J.1.2.1,()),Dw)else some ((e.1.1,e.1.2.1,()),Dw)else (dw m a 0 false h).bind λe4=>bif e4.1 then (gq m 1).bind λK=>(fN m e.1.1 e.1.2.1 K.1.1 K.1.2.1).bind λL=>some ((L.1.1,L.1.2.1,()),Dw)else some ((e.1.1,e.1.2.1,()),Dw)else (fU m e.1.1 e.1.2.1).bind λg4=>bif g4.1 !=0 then (fk m e.1.1 e.1.2.1).bind λx4=>(dw m a (-1) (x4.1==0) h).bind λz5=>bif z5.1 then (gq m 1).bind λM=>(fN m e.1.1 e.1.2.1 M.1.1 M.1.2.1).bind λN=>some ((N.1.1,N.1.2.1,()),Dw)else some ((e.1.1,e.1.2.1,()),Dw)else (dw m a (-1) false h).bind λe5=>bif e5.1 then (gq m 1).bind λP=>(fN m e.1.1 e.1.2.1 P.1.1 P.1.2.1).bind λQ=>some ((Q.1.1,Q.1.2.1,()),Dw)else some ((e.1.1,e.1.2.1,()),Dw)else (fU m e.1.1 e.1.2.1).bind λg5=>bif g5.1 !=0 then (fk m e.1.1 e.1.2.1).bind λx5=>(dw m a (-1) (x5.1==0) h).bind λz6=>bif z6.1 then (gq m 1).bind λR=>(fN m e.1.1 e.1.2.1 R.1.1 R.1.2.1).bind λS=>some ((S.1.1,S.1.2.1,()),Dw)else some ((e.1.1,e.1.2.1,()),Dw)else (dw m a (-1) false h).bind λe6=>bif e6.1 then (gq m 1).bind λT=>(fN m e.1.1 e.1.2.1 T.1.1 T.1.2.1).bind λU=>some ((U.1.1,U.1.2.1,()),Dw)else some ((e.1.1,e.1.2.1,()),Dw)else (fU m e.1.1 e.1.2.1).bind λg6=>bif g6.1 !=0 then (fk m e.1.1 e.1.2.1).bind λx6=>(dw m a (-1) (x6.1==0) h).bind λz7=>bif z7.1 then (gq m 1).bind λV=>(fN m e.1.1 e.1.2.1 V.1.1 V.1.2.1).bind λW=>some ((W.1.1,W.1.2.1,()),Dw)else some ((e.1.1,e.1.2.1,()),Dw)else (dw m a (-1) false h).bind λe7=>bif e7.1 then (gq m 1).bind λX=>(fN m e.1.1 e.1.2.1 X.1.1 X.1.2.1).bind λY=>some ((Y.1.1,Y.1.2.1,()),Dw)else some ((e.1.1,e.1.2.1,()),Dw)else bif decide (d>0)then (rU m b c (wI (d-1))).bind λg=>(fk m g.1.1 g.1.2.1).bind λg7=>bif g7.1==0 then (fU m g.1.1 g.1.2.1).bind λz8=>bif z8.1 !=0 then bif f then (fU m e.1.1 e.1.2.1).bind λe8=>bif e8.1 !=0 then (fk m e.1.1 e.1.2.1).bind λg8=>(dw m a 1 (g8.1==0) h).bind λx8=>bif x8.1 then (gq m 1).bind λZ=>(fN m e.1.1 e.1.2.1 Z.1.1 Z.1.2.1).bind λi=>some ((i.1.1,i.1.2.1,()),Dw)else some ((e.1.1,e.1.2.1,()),Dw)else (dw m a 1 false h).bind λz9=>bif z9.1 then (gq m 1).bind λj=>(fN m e.1.1 e.1.2.1 j.1.1 j.1.2.1).bind λk=>some ((k.1.1,k.1.2.1,()),Dw)else some ((e.1.1,e.1.2.1,()),Dw)else (tp m b c (wI (d-1))).bind λe9=>bif e9.1 then (fU m e.1.1 e.1.2.1).bind λg9=>bif g9.1 !=0 then (fk m e.1.1 e.1.2.1).bind λy68=>(dw m a 1 (y68.1==0) h).bind λy69=>bif y69.1 then (gq m 1).bind λl=>(fN m e.1.1 e.1.2.1 l.1.1 l.1.2.1).bind λo=>some ((o.1.1,o.1.2.1,()),Dw)else some ((e.1.1,e.1.2.1,()),Dw)else (dw m a 1 false h).bind λy72=>bif y72.1 then (gq m 1).bind λp=>(fN m e.1.1 e.1.2.1 p.1.1 p.1.2.1).bind λq=>some ((q.1.1,q.1.2.1,()),Dw)else some ((e.1.1,e.1.2.1,()),Dw)else (fU m e.1.1 e.1.2.1).bind λy75=>bif y75.1 !=0 then (fk m e.1.1 e.1.2.1).bind λy76=>(dw m a 0 (y76.1==0) h).bind λy77=>bif y77.1 then (gq m 1).bind λr=>(fN m e.1.1 e.1.2.1 r.1.1 r.1.2.1).bind λs=>some ((s.1.1,s.1.2.1,()),Dw)else some ((e.1.1,e.1.2.1,()),Dw)else (dw m a 0 false h).bind λy80=>bif y80.1 then (gq m 1).bind λt=>(fN m e.1.1 e.1.2.1 t.1.1 t.1.2.1).bind λu=>some ((u.1.1,u.1.2.1,()),Dw)else some ((e.1.1,e.1.2.1,()),Dw)else (fU m e.1.1 e.1.2.1).bind λy83=>bif y83.1 !=0 then (fk m e.1.1 e.1.2.1).bind λy84=>(dw m a (-1) (y84.1==0) h).bind λy85=>bif y85.1 then (gq m 1).bind λv=>(fN m e.1.1 e.1.2.1 v.1.1 v.1.2.1).bind λw=>some ((w.1.1,w.1.2.1,()),Dw)else some ((e.1.1,e.1.2.1,()),Dw)else (dw m a (-1) false h).bind λy88=>bif y88.1 then (gq m 1).bind λy0=>(fN m e.1.1 e.1.2.1 y0.1.1 y0.1.2.1).bind λz0=>some ((z0.1.1,z0.1.2.1,()),Dw)else some ((e.1.1,e.1.2.1,()),Dw)else (fU m e.1.1 e.1.2.1).bind λy91=>bif y91.1 !=0 then (fk m e.1.1 e.1.2.1).bind λy92=>(dw m a (-1) (y92.1==0) h).bind λy93=>bif y93.1 then (gq m 1).bind λe0=>(fN m e.1.1 e.1.2.1 e0.1.1 e0.1.2.1).bind λg0=>some ((g0.1.1,g0.1.2.1,()),Dw)else some ((e.1.1,e.1.2.1,()),Dw)else (dw m a (-1) false h).bind λy96=>bif y96.1 then (gq m 1).bind λx0=>(fN m e.1.1 e.1.2.1 x0.1.1 x0.1.2.1).bind λz1=>some ((z1.1.1,z1.1.2.1,()),Dw)else some ((e.1.1,e.1.2.1,()),Dw)else (fU m e.1.1 e.1.2.1).bind λy99=>bif y99.1 !=0 then (fk m e.1.1 e.1.2.1).bind λe1=>(dw m a (-1) (e1.1==0) h).bind λg1=>bif g1.1 then (gq m 1).bind λx=>(fN m e.1.1 e.1.2.1 x.1.1 x.1.2.1).bind λy=>some ((y.1.1,y.1.2.1,()),Dw)else some ((e.1.1,e.1.2.1,()),Dw)else (dw m a (-1) false h).bind λx1=>bif x1.1 then (gq m 1).bind λz=>(fN m e.1.1 e.1.2.1 z.1.1 z.1.2.1).bind λA=>some ((A.1.1,A.1.2.1,()),Dw)else some ((e.1.1,e.1.2.1,()),Dw)
def jX (m:Nat):Nat->Bool->LI->Int->Int->Option Ys
 |0,_,_,_,_=>none
 |n+1,a,b,c,d=>bif decide (d<(b.length:Int))then if 0<=d/\d<(b.length:Int)then if 0<=(wI (32*d))then jX m n a b (bf .u64 c (bz .u64 (wJ (b.getD d.toNat 0)) (wI (32*d)))) (wI (d+1))else none else none else some (.inl ((a,b,()),c,()))
def rI (a:Bool) (b:LI):Option XX:=(nO m a b).bind λx=>bif decide ((x.1.2.1.length:Int)>2)then some ((0,false,()),Bv)else (jX m m x.1.1 x.1.2.1 0 0).bind λy=>match y with
  | .inl g=>bif g.1.1 then bif decide (g.2.1>9223372036854775808)then some ((0,false,()),Bv)else some ((wI ((wI (0-(wI (wJ (g.2.1-1)))))-1),true,()),Bv)else bif decide (g.2.1>9223372036854775807)then some ((0,false,()),Bv)else some ((wI g.2.1,true,()),Bv)
  | .inr e=>e.elim
def wE (a:Bool) (b:Bool) (c:LI) (d:Int) (f:Bool) (h:Int):Option (Int×Unit×Unit×Unit×Unit×Unit×Unit):=(pn m b c).bind λe=>bif decide ((wI ((wI (d+e.1))-1))>=1024)then (nK m a h).bind λJ=>some (J.1,Dw)else bif decide ((if(-1074)>(wI ((wI ((wI (d+e.1))-1))-52))then(-1074)else(wI ((wI ((wI (d+e.1))-1))-52)))>=d)then (yv m a b c (wI ((if(-1074)>(wI ((wI ((wI (d+e.1))-1))-52))then(-1074)else(wI ((wI ((wI (d+e.1))-1))-52)))-d)) f h).bind λI=>(rI m I.1.1 I.1.2.1).bind λx=>bif x.1.1==9007199254740992 then bif decide ((wI ((wI ((if(-1074)>(wI ((wI ((wI (d+e.1))-1))-52))then(-1074)else(wI ((wI ((wI (d+e.1))-1))-52)))+1))+53))>1024)then (nK m a h).bind λK=>some (K.1,Dw)else (kT m a (bf .u64 (bz .u64 (wJ (wI ((wI ((if(-1074)>(wI ((wI ((wI (d+e.1))-1))-52))then(-1074)else(wI ((wI ((wI (d+e.1))-1))-52)))+1))+1075))) 52) 0)).bind λL=>some (L.1,Dw)else bif decide (x.1.1>=4503599627370496)then bif decide ((wI ((if(-1074)>(wI ((wI ((wI (d+e.1))-1))-52))then(-1074)else(wI ((wI ((wI (d+e.1))-1))-52)))+53))>1024)then (nK m a h).bind λM=>some (M.1,Dw)else bif decide (x.1.1>=4503599627370496)then (kT m a (bf .u64 (bz .u64 (wJ (wI ((if(-1074)>(wI ((wI ((wI (d+e.1))-1))-52))then(-1074)else(wI ((wI ((wI (d+e.1))-1))-52)))+1075))) 52) (wJ (wI (x.1.1-4503599627370496))))).bind λN=>some (N.1,Dw)else (kT m a (wJ x.1.1)).bind λP=>some (P.1,Dw)else bif decide (x.1.1>=4503599627370496)then (kT m a (bf .u64 (bz .u64 (wJ (wI ((if(-1074)>(wI ((wI ((wI (d+e.1))-1))-52))then(-1074)else(wI ((wI ((wI (d+e.1))-1))-52)))+1075))) 52) (wJ (wI (x.1.1-4503599627370496))))).bind λz=>some (z.1,Dw)else (kT m a (wJ x.1.1)).bind λA=>some (A.1,Dw)else (o8 m b c (wI (d-(if(-1074)>(wI ((wI ((wI (d+e.1))-1))-52))then(-1074)else(wI ((wI ((wI (d+e.1))-1))-52)))))).bind λy=>(rI m y.1.1 y.1.2.1).bind λg=>bif g.1.1==9007199254740992 then bif decide ((wI ((wI ((if(-1074)>(wI ((wI ((wI (d+e.1))-1))-52))then(-1074)else(wI ((wI ((wI (d+e.1))-1))-52)))+1))+53))>1024)then (nK m a h).bind λB=>some (B.1,Dw)else (kT m a (bf .u64 (bz .u64 (wJ (wI ((wI ((if(-1074)>(wI ((wI ((wI (d+e.1))-1))-52))then(-1074)else(wI ((wI ((wI (d+e.1))-1))-52)))+1))+1075))) 52) 0)).bind λC=>some (C.1,Dw)else bif decide (g.1.1>=4503599627370496)then bif decide ((wI ((if(-1074)>(wI ((wI ((wI (d+e.1))-1))-52))then(-1074)else(wI ((wI ((wI (d+e.1))-1))-52)))+53))>1024)then (nK m a h).bind λD=>some (D.1,Dw)else bif decide (g.1.1>=4503599627370496)then (kT m a (bf .u64 (bz .u64 (wJ (wI ((if(-1074)>(wI ((wI ((wI (d+e.1))-1))-52))then(-1074)else(wI ((wI ((wI (d+e.1))-1))-52)))+1075))) 52) (wJ (wI (g.1.1-4503599627370496))))).bind λE=>some (E.1,Dw)else (kT m a (wJ g.1.1)).bind λF=>some (F.1,Dw)else bif decide (g.1.1>=4503599627370496)then (kT m a (bf .u64 (bz .u64 (wJ (wI ((if(-1074)>(wI ((wI ((wI (d+e.1))-1))-52))then(-1074)else(wI ((wI ((wI (d+e.1))-1))-52)))+1075))) 52) (wJ (wI (g.1.1-4503599627370496))))).bind λG=>some (G.1,Dw)else (kT m a (wJ g.1.1)).bind λH=>some (H.1,Dw)
def Mh (a:Bool) (b:Bool) (c:LI) (d:Int) (f:Int):Option jJ:=(nI m a b c d).bind λe=>bif e.1.1 then some (9221120237041090560,uX)else (fU m e.1.2.1 e.1.2.2.1).bind λx=>bif x.1==0 then some (0,uX)else (BK m e.1.2.1 e.1.2.2.1).bind λg=>(wE m e.1.2.1 g.1.1 g.1.2.1 e.1.2.2.2.1 false f).bind λy=>some (y.1,uX)
def TS (a:Int) (b:Int):Option jJ:=(KZ m a).bind λe=>(Mh m e.1.1 e.1.2.1 e.1.2.2.1 e.1.2.2.2.1 b).bind λg=>some (g.1,uX)
def rW (a:Int):Option lg:=(TS m (wI ((wI (Int.tmod a 19))-9)) 0).bind λe=>some (e.1,Bv)
def Oy (a:Int) (b:Int):Option jJ:=(Ev m b 4).bind λe=>bif e.1==1 then some (bf .u64 (qp .u64 a 9227875636482146303) (bz .u64 (wJ (1019+(qp .u64 (aK .u64 a 52) 7))) 52),uX)else bif e.1==2 then some (bf .u64 (qp .u64 a 9225623836668461056) (bz .u64 (wJ (983+(Int.tmod (aK .u64 a 8) 81))) 52),uX)else bif e.1==3 then (oI m a).bind λg=>bif !g.1 then some (0,uX)else some (a,uX)else (rW m a).bind λx=>some (x.1,uX)
def oM:Nat->LI->Int->Int->Int->Int->Int->LI->LI->LI->Int->Int->LI->LI->LI->Int->Int->Option ((LI×Int×Int×Int×lx×lx×Int×Unit)⊕Empty)
 |0,_,_,_,_,_,_,_,_,_,_,_,_,_,_,_,_=>none
 |n+1,a,b,c,d,f,h,i,j,k,l,o,p,q,r,s,t=>bif decide (t<b)then (Cd m a (wI ((wI (100+(wI (s*b))))+t))).bind λe=>bif decide ((Int.tmod (aK .u64 e.1 40) 3)>0)then if q.length+([t]:LI).length<=1073741824 then (Oy m e.1 d).bind λg=>if r.length+([g.1]:LI).length<=1073741824 then oM n a b c d f h i j k l o p (q++([t]:LI)) (r++([g.1]:LI)) s (wI (t+1))else none else none else oM n a b c d f h i j k l o p q r s (wI (t+1))else some (.inl (a,b,c,d,(f,h,i,j,k,()),(l,o,p,q,r,()),s,()))
def ru:Nat->LI->Int->Int->Int->Int->Int->LI->LI->LI->Int->Int->LI->LI->LI->Int->Option tY
 |0,_,_,_,_,_,_,_,_,_,_,_,_,_,_,_=>none
 |n+1,a,b,c,d,f,h,i,j,k,l,o,p,q,r,s=>bif decide (s<c)then (oM m m a b c d f h i j k l o p q r s 0).bind λx=>match x with
   | .inl g=>if g.2.2.2.2.2.1.2.2.1.length+([(g.2.2.2.2.2.1.2.2.2.1.length:Int)]:LI).length<=1073741824 then ru n g.1 g.2.1 g.2.2.1 g.2.2.2.1 g.2.2.2.2.1.1 g.2.2.2.2.1.2.1 g.2.2.2.2.1.2.2.1 g.2.2.2.2.1.2.2.2.1 g.2.2.2.2.1.2.2.2.2.1 g.2.2.2.2.2.1.1 g.2.2.2.2.2.1.2.1 (g.2.2.2.2.2.1.2.2.1++([(g.2.2.2.2.2.1.2.2.2.1.length:Int)]:LI)) g.2.2.2.2.2.1.2.2.2.1 g.2.2.2.2.2.1.2.2.2.2.1 (wI (g.2.2.2.2.2.2.1+1))else none
   | .inr e=>e.elim else some (.inl ((f,h,i,j,k,()),(l,o,p,q,r,()),()))
def OS (a:LI) (b:Int) (c:Int) (d:Int):Option (lx×Unit×Unit×Unit×Unit×Unit):=(ru m m a b c d 0 0 ([]:LI) ([]:LI) ([]:LI) b c ([0]:LI) ([]:LI) ([]:LI) 0).bind λx=>match x with
 | .inl g=>some ((g.2.1.1,g.2.1.2.1,g.2.1.2.2.1,g.2.1.2.2.2.1,g.2.1.2.2.2.2.1,()),Ue1)
 | .inr e=>e.elim
def mq:Nat->LI->Int->Option sX
 |0,_,_=>none
 |n+1,a,b=>bif decide (b<(a.length:Int))then if 0<=b/\b<(a.length:Int)then (oI m (a.getD b.toNat 0)).bind λe=>bif !e.1 then some (.inl (false,()))else mq n a (wI (b+1))else none else some (.inr (.inl ()))
def CG (a:LI):Option pF:=(mq m m a 0).bind λg=>match g with
 | .inl x=>some (x.1,Bv)
 | .inr (.inl y)=>some (true,Bv)
 | .inr (.inr e)=>e.elim
def kf (m:Nat):Nat->Int->Int->LI->LI->LI->Int->Int->Option ((Int×Unit)⊕YA⊕Empty)
 |0,_,_,_,_,_,_,_=>none
 |n+1,a,b,c,d,f,h,i=>if 0<=(wI (h+1))/\(wI (h+1))<(c.length:Int)then bif decide (i<(c.getD (wI (h+1)).toNat 0))then if 0<=i/\i<(d.length:Int)then bif decide ((d.getD i.toNat 0)<0)then some (.inl (1,()))else if 0<=i/\i<(d.length:Int)then bif decide ((d.getD i.toNat 0)>=a)then some (.inl (1,()))else if 0<=h/\h<(c.length:Int)then bif decide (i>(c.getD h.toNat 0))then if 0<=i/\i<(d.length:Int)then if 0<=(wI (i-1))/\(wI (i-1))<(d.length:Int)then bif decide ((d.getD i.toNat 0)<=(d.getD (wI (i-1)).toNat 0))then some (.inl (1,()))else kf m n a b c d f h (wI (i+1))else none else none else kf m n a b c d f h (wI (i+1))else none else none else none else some (.inr (.inl ((a,b,c,d,f,()),h,())))else none
def mV:Nat->Int->Int->LI->LI->LI->Int->Option YJ
 |0,_,_,_,_,_,_=>none
 |n+1,a,b,c,d,f,h=>bif decide (h<b)then if 0<=h/\h<(c.length:Int)then (kf m m a b c d f h (c.getD h.toNat 0)).bind λx=>match x with
   | .inl y=>some (.inl (y.1,()))
   | .inr (.inl g)=>mV n g.1.1 g.1.2.1 g.1.2.2.1 g.1.2.2.2.1 g.1.2.2.2.2.1 (wI (g.2.1+1))
   | .inr (.inr e)=>e.elim else none else some (.inr (.inl ((a,b,c,d,f,()),())))
def mW (m:Nat):Nat->Int->Int->LI->LI->LI->Int->Option YJ
 |0,_,_,_,_,_,_=>none
 |n+1,a,b,c,d,f,h=>bif decide (h<b)then if 0<=h/\h<(c.length:Int)then if 0<=(wI (h+1))/\(wI (h+1))<(c.length:Int)then bif decide ((c.getD h.toNat 0)>(c.getD (wI (h+1)).toNat 0))then some (.inl (1,()))else mW m n a b c d f (wI (h+1))else none else none else some (.inr (.inl ((a,b,c,d,f,()),())))
def rM (a:Int) (b:Int) (c:LI) (d:LI) (f:LI):Option lg:=bif decide (a<0)then some (6,Bv)else bif decide (a>200)then some (6,Bv)else bif decide (b<0)then some (6,Bv)else bif decide (b>200)then some (6,Bv)else bif decide ((d.length:Int)>10000)then some (6,Bv)else bif (f.length:Int) !=(d.length:Int)then some (1,Bv)else bif (c.length:Int) !=(wI (b+1))then some (1,Bv)else if(0:Int)<=0/\0<(c.length:Int)then bif (c.getD 0 0) !=0 then some (1,Bv)else if 0<=b/\b<(c.length:Int)then bif (c.getD b.toNat 0) !=(d.length:Int)then some (1,Bv)else (mW m m a b c d f 0).bind λx=>match x with
        | .inl y=>some (y.1,Bv)
        | .inr (.inl g)=>(mV m m g.1.1 g.1.2.1 g.1.2.2.1 g.1.2.2.2.1 g.1.2.2.2.2.1 0).bind λz=>match z with
         | .inl A=>some (A.1,Bv)
         | .inr (.inl B)=>(CG m B.1.2.2.2.2.1).bind λC=>bif !C.1 then some (4,Bv)else some (0,Bv)
         | .inr (.inr e)=>e.elim
        | .inr (.inr e)=>e.elim else none else none
def oE (m:Nat):Nat->Int->Int->Int->Int->LI->LI->LI->Int->Option sW
 |0,_,_,_,_,_,_,_,_=>none
 |n+1,a,b,c,d,f,h,i,j=>if 0<=(wI (b+1))/\(wI (b+1))<(f.length:Int)then bif decide (j<(f.getD (wI (b+1)).toNat 0))then if 0<=j/\j<(h.length:Int)then bif (h.getD j.toNat 0)==a then if 0<=j/\j<(i.length:Int)then some (.inl (i.getD j.toNat 0,()))else none else oE m n a b c d f h i (wI (j+1))else none else some (.inr (.inl ()))else none
def JU (a:Int) (b:Int) (c:LI) (d:LI) (f:LI) (h:Int) (i:Int):Option MN:=(rM m a b c d f).bind λg=>bif g.1 !=0 then some (0,Dv)else bif decide (i<0)then some (0,Dv)else bif decide (i>=b)then some (0,Dv)else if 0<=i/\i<(c.length:Int)then (oE m m h i a b c d f (c.getD i.toNat 0)).bind λx=>match x with
    | .inl y=>some (y.1,Dv)
    | .inr (.inl z)=>some (0,Dv)
    | .inr (.inr e)=>e.elim else none
def TM (m:Nat) (a:Int):Option pF:=some ((qp .u64 a 9223372036854775808) !=0,Bv)
def j6 (a:Int):Option wX:=(oI m a).bind λy=>bif !y.1 then (x7 m).bind λe=>some ((e.1.1,e.1.2.1,e.1.2.2.1,e.1.2.2.2.1,()),Bv)else bif decide ((wI (qp .u64 (aK .u64 a 52) 2047))>0)then (TM m a).bind λz=>(vc m z.1 ([wK (bf .u64 (qp .u64 a 4503599627370495) 4503599627370496),wK (aK .u64 (bf .u64 (qp .u64 a 4503599627370495) 4503599627370496) 32)]:LI) (wI ((wI (qp .u64 (aK .u64 a 52) 2047))-1075))).bind λg=>some ((g.1.1,g.1.2.1,g.1.2.2.1,g.1.2.2.2.1,()),Bv)else (TM m a).bind λA=>(vc m A.1 ([wK (qp .u64 a 4503599627370495),wK (aK .u64 (qp .u64 a 4503599627370495) 32)]:LI) (-1074)).bind λx=>some ((x.1.1,x.1.2.1,x.1.2.2.1,x.1.2.2.2.1,()),Bv)
def Mn (a:Bool) (b:Bool) (c:LI) (d:Int):Option wX:=(nI m a b c d).bind λe=>bif e.1.1 then some ((e.1.1,e.1.2.1,e.1.2.2.1,e.1.2.2.2.1,()),Bv)else (BK m e.1.2.1 e.1.2.2.1).bind λx=>(vc m x.1.1 x.1.2.1 e.1.2.2.2.1).bind λg=>some ((g.1.1,g.1.2.1,g.1.2.2.1,g.1.2.2.2.1,()),Bv)
def kU:Nat->cW->Bool->Bool->LI->Int->Bool->LI->Int->Int->Option (RQ⊕(lC×nE×Int×Unit)⊕Empty)
 |0,_,_,_,_,_,_,_,_,_=>none
 |n+1,a,b,c,d,f,h,i,j,k=>bif decide (k<(a.length:Int))then if 0<=k/\k<(a.length:Int)then (nI m (a.getD k.toNat qz).1 (a.getD k.toNat qz).2.1.1 (a.getD k.toNat qz).2.1.2 (a.getD k.toNat qz).2.2).bind λe=>bif e.1.1 then (x7 m).bind λg=>some (.inl ((g.1.1,g.1.2.1,g.1.2.2.1,g.1.2.2.2.1,()),()))else (fU m e.1.2.1 e.1.2.2.1).bind λB=>bif B.1==0 then kU n a b c d f h i j (wI (k+1))else (fU m h i).bind λC=>bif C.1==0 then kU n a b c d f e.1.2.1 e.1.2.2.1 e.1.2.2.2.1 (wI (k+1))else bif decide (e.1.2.2.2.1>=j)then (o8 m e.1.2.1 e.1.2.2.1 (wI (e.1.2.2.2.1-j))).bind λx=>(fN m h i x.1.1 x.1.2.1).bind λy=>kU n a b c d f y.1.1 y.1.2.1 j (wI (k+1))else (o8 m h i (wI (j-e.1.2.2.2.1))).bind λz=>(fN m z.1.1 z.1.2.1 e.1.2.1 e.1.2.2.1).bind λA=>kU n a b c d f A.1.1 A.1.2.1 e.1.2.2.2.1 (wI (k+1))else none else some (.inr (.inl ((b,c,d,f,()),(h,i,()),j,())))
def K2 (a:List bF):Option wX:=(kU m m a false false ([]:LI) 0 false ([]:LI) 0 0).bind λz=>match z with
 | .inl g=>some ((g.1.1,g.1.2.1,g.1.2.2.1,g.1.2.2.2.1,()),Bv)
 | .inr (.inl y)=>(vc m y.2.1.1 y.2.1.2.1 y.2.2.1).bind λx=>some ((x.1.1,x.1.2.1,x.1.2.2.1,x.1.2.2.2.1,()),Bv)
 | .inr (.inr e)=>e.elim
def qN (m:Nat):Nat->Int->Int->Int->Int->LI->LI->LI->Int->Option sX
 |0,_,_,_,_,_,_,_,_=>none
 |n+1,a,b,c,d,f,h,i,j=>if 0<=(wI (b+1))/\(wI (b+1))<(f.length:Int)then bif decide (j<(f.getD (wI (b+1)).toNat 0))then if 0<=j/\j<(h.length:Int)then bif (h.getD j.toNat 0)==a then some (.inl (true,()))else qN m n a b c d f h i (wI (j+1))else none else some (.inr (.inl ()))else none
def TH (a:Int) (b:Int) (c:LI) (d:LI) (f:LI) (h:Int) (i:Int):Option (Bool×Unit×Unit×Unit×Unit):=bif decide (h<0)then some (false,Dv)else bif decide (h>=a)then some (false,Dv)else bif decide (i<0)then some (false,Dv)else bif decide (i>=b)then some (false,Dv)else if 0<=i/\i<(c.length:Int)then (qN m m h i a b c d f (c.getD i.toNat 0)).bind λg=>match g with
     | .inl x=>some (x.1,Dv)
     | .inr (.inl y)=>some (false,Dv)
     | .inr (.inr e)=>e.elim else none
def oL:Nat->Int->Int->Int->LI->LI->LI->Int->Int->LI->LI->LI->Int->Int->LI->LI->LI->Int->Int->cW->Int->Option ((Int×lx×lx×lx×Int×Int×cW×Unit)⊕Empty)
 |0,_,_,_,_,_,_,_,_,_,_,_,_,_,_,_,_,_,_,_,_=>none
 |n+1,a,b,c,d,f,h,i,j,k,l,o,p,q,r,s,t,u,v,w,e=>bif decide (e<a)then bif e !=v then (JU m i j k l o (if e>v then e else v) (if e<v then e else v)).bind λy=>(j6 m y.1).bind λx=>(Mn m x.1.1 x.1.2.1 x.1.2.2.1 x.1.2.2.2.1).bind λg=>if w.length+([(g.1.1,((g.1.2.1,g.1.2.2.1),g.1.2.2.2.1))]:List bF).length<=1073741824 then oL n a b c d f h i j k l o p q r s t u v (w++([(g.1.1,((g.1.2.1,g.1.2.2.1),g.1.2.2.2.1))]:List bF)) (wI (e+1))else none else oL n a b c d f h i j k l o p q r s t u v w (wI (e+1))else some (.inl (a,(b,c,d,f,h,()),(i,j,k,l,o,()),(p,q,r,s,t,()),u,v,w,()))
def lW:Nat->Int->Int->Int->LI->LI->LI->Int->Int->LI->LI->LI->Int->Int->LI->LI->LI->Int->Int->Option ((Int×lx×lx×lx×Int×Unit)⊕Empty)
 |0,_,_,_,_,_,_,_,_,_,_,_,_,_,_,_,_,_,_=>none
 |n+1,a,b,c,d,f,h,i,j,k,l,o,p,q,r,s,t,u,v=>bif decide (v<a)then bif v==u then (KZ m 1).bind λx=>(oL m m a b c d f h i j k l o p q r s t u v ([(x.1.1,((x.1.2.1,x.1.2.2.1),x.1.2.2.2.1))]:List bF) 0).bind λB=>match B with
    | .inl g=>if g.2.2.2.1.2.2.2.1.length+([g.2.2.2.2.2.1]:LI).length<=1073741824 then (K2 m g.2.2.2.2.2.2.1).bind λy=>(Mh m y.1.1 y.1.2.1 y.1.2.2.1 y.1.2.2.2.1 2).bind λz=>if g.2.2.2.1.2.2.2.2.1.length+([z.1]:LI).length<=1073741824 then lW n g.1 g.2.1.1 g.2.1.2.1 g.2.1.2.2.1 g.2.1.2.2.2.1 g.2.1.2.2.2.2.1 g.2.2.1.1 g.2.2.1.2.1 g.2.2.1.2.2.1 g.2.2.1.2.2.2.1 g.2.2.1.2.2.2.2.1 g.2.2.2.1.1 g.2.2.2.1.2.1 g.2.2.2.1.2.2.1 (g.2.2.2.1.2.2.2.1++([g.2.2.2.2.2.1]:LI)) (g.2.2.2.1.2.2.2.2.1++([z.1]:LI)) g.2.2.2.2.1 (wI (g.2.2.2.2.2.1+1))else none else none
    | .inr e=>e.elim else (TH m i j k l o v u).bind λC=>bif C.1 then if s.length+([v]:LI).length<=1073741824 then (JU m i j k l o v u).bind λA=>if t.length+([A.1]:LI).length<=1073741824 then lW n a b c d f h i j k l o p q r (s++([v]:LI)) (t++([A.1]:LI)) u (wI (v+1))else none else none else lW n a b c d f h i j k l o p q r s t u (wI (v+1))else some (.inl (a,(b,c,d,f,h,()),(i,j,k,l,o,()),(p,q,r,s,t,()),u,()))
def rq:Nat->Int->Int->Int->LI->LI->LI->Int->Int->LI->LI->LI->Int->Int->LI->LI->LI->Int->Option tY
 |0,_,_,_,_,_,_,_,_,_,_,_,_,_,_,_,_,_=>none
 |n+1,a,b,c,d,f,h,i,j,k,l,o,p,q,r,s,t,u=>bif decide (u<a)then (lW m m a b c d f h i j k l o p q r s t u 0).bind λx=>match x with
   | .inl g=>if g.2.2.2.1.2.2.1.length+([(g.2.2.2.1.2.2.2.1.length:Int)]:LI).length<=1073741824 then rq n g.1 g.2.1.1 g.2.1.2.1 g.2.1.2.2.1 g.2.1.2.2.2.1 g.2.1.2.2.2.2.1 g.2.2.1.1 g.2.2.1.2.1 g.2.2.1.2.2.1 g.2.2.1.2.2.2.1 g.2.2.1.2.2.2.2.1 g.2.2.2.1.1 g.2.2.2.1.2.1 (g.2.2.2.1.2.2.1++([(g.2.2.2.1.2.2.2.1.length:Int)]:LI)) g.2.2.2.1.2.2.2.1 g.2.2.2.1.2.2.2.2.1 (wI (g.2.2.2.2.1+1))else none
   | .inr e=>e.elim else some (.inl ((b,c,d,f,h,()),(p,q,r,s,t,()),()))
def TR (a:LI) (b:Int) (c:Int):Option YF:=(Ev m c 3).bind λy=>(OS m a b b y.1).bind λg=>(rq m m b 0 0 ([]:LI) ([]:LI) ([]:LI) g.1.1 g.1.2.1 g.1.2.2.1 g.1.2.2.2.1 g.1.2.2.2.2.1 b b ([0]:LI) ([]:LI) ([]:LI) 0).bind λz=>match z with
 | .inl x=>some ((x.2.1.1,x.2.1.2.1,x.2.1.2.2.1,x.2.1.2.2.2.1,x.2.1.2.2.2.2.1,()),Dv)
 | .inr e=>e.elim
def rC:Nat->LI->Int->LI->Int->Option pG
 |0,_,_,_,_=>none
 |n+1,a,b,c,d=>bif decide (d<b)then (Cd m a (wI (700+d))).bind λg=>(Ev m (wI (aK .u64 g.1 1)) (wI (d+1))).bind λe=>if(0:Int)<=0/\0<=e.1/\e.1<=(c.length:Int)then if([]:LI).length+((c.drop 0).take (e.1.toNat-0)).length<=1073741824 then if(([]:LI)++((c.drop 0).take (e.1.toNat-0))).length+([d]:LI).length<=1073741824 then if 0<=e.1/\e.1<=(c.length:Int)/\(c.length:Int)<=(c.length:Int)then if((([]:LI)++((c.drop 0).take (e.1.toNat-0)))++([d]:LI)).length+((c.drop (0+e.1.toNat)).take (c.length-e.1.toNat)).length<=1073741824 then rC n a b (((([]:LI)++((c.drop 0).take (e.1.toNat-0)))++([d]:LI))++((c.drop (0+e.1.toNat)).take (c.length-e.1.toNat))) (wI (d+1))else none else none else none else none else none else some (.inl (c,()))
def Po (a:LI) (b:Int):Option vL:=(rC m m a b ([]:LI) 0).bind λg=>match g with
 | .inl x=>some (x.1,uX)
 | .inr e=>e.elim
def mU (m:Nat):Nat->Int->Int->LI->LI->LI->uI->Int->Int->Option ((lx×uI×Int×Unit)⊕Empty)
 |0,_,_,_,_,_,_,_,_=>none
 |n+1,a,b,c,d,f,h,i,j=>if 0<=(wI (i+1))/\(wI (i+1))<(c.length:Int)then bif decide (j<(c.getD (wI (i+1)).toNat 0))then if 0<=j/\j<(d.length:Int)then if 0<=j/\j<(f.length:Int)then if h.length+([(d.getD j.toNat 0,(i,f.getD j.toNat 0))]:List Bo).length<=1073741824 then mU m n a b c d f (h++([(d.getD j.toNat 0,(i,f.getD j.toNat 0))]:List Bo)) i (wI (j+1))else none else none else none else some (.inl ((a,b,c,d,f,()),h,i,()))else none
def j7:Nat->Int->Int->LI->LI->LI->uI->Int->Option ((uI×Unit)⊕Empty)
 |0,_,_,_,_,_,_,_=>none
 |n+1,a,b,c,d,f,h,i=>bif decide (i<b)then if 0<=i/\i<(c.length:Int)then (mU m m a b c d f h i (c.getD i.toNat 0)).bind λx=>match x with
   | .inl g=>j7 n g.1.1 g.1.2.1 g.1.2.2.1 g.1.2.2.2.1 g.1.2.2.2.2.1 g.2.1 (wI (g.2.2.1+1))
   | .inr e=>e.elim else none else some (.inl (h,()))
def yU (a:Int) (b:Int) (c:LI) (d:LI) (f:LI):Option (uI×Unit×Unit):=(rM m a b c d f).bind λg=>bif g.1 !=0 then some (([]:List Bo),Bv)else (j7 m m a b c d f ([]:List Bo) 0).bind λx=>match x with
  | .inl y=>some (y.1,Bv)
  | .inr e=>e.elim
def iO (m:Nat):Nat->Int->Int->uI->Int->Int->LI->LI->LI->Int->Int->LI->LI->LI->LI->Int->Int->Option ((Int×Int×uI×lx×lx×LI×Int×Unit)⊕Empty)
 |0,_,_,_,_,_,_,_,_,_,_,_,_,_,_,_,_=>none
 |n+1,a,b,c,d,f,h,i,j,k,l,o,p,q,r,s,t=>bif decide (t<a)then if 0<=(wI ((wI (s*a))+t))/\(wI ((wI (s*a))+t))<(r.length:Int)then bif decide ((r.getD (0+(wI ((wI (s*a))+t)).toNat) 0)>0)then if p.length+([t]:LI).length<=1073741824 then if 0<=(wI ((r.getD (0+(wI ((wI (s*a))+t)).toNat) 0)-1))/\(wI ((r.getD (0+(wI ((wI (s*a))+t)).toNat) 0)-1))<(c.length:Int)then if q.length+([(c.getD (wI ((r.getD (0+(wI ((wI (s*a))+t)).toNat) 0)-1)).toNat (0,(0,0))).2.2]:LI).length<=1073741824 then iO m n a b c d f h i j k l o (p++([t]:LI)) (q++([(c.getD (wI ((r.getD (0+(wI ((wI (s*a))+t)).toNat) 0)-1)).toNat (0,(0,0))).2.2]:LI)) r s (wI (t+1))else none else none else none else iO m n a b c d f h i j k l o p q r s (wI (t+1))else none else some (.inl (a,b,c,(d,f,h,i,j,()),(k,l,o,p,q,()),r,s,()))
def j5:Nat->Int->Int->uI->Int->Int->LI->LI->LI->Int->Int->LI->LI->LI->LI->Int->Option tY
 |0,_,_,_,_,_,_,_,_,_,_,_,_,_,_,_=>none
 |n+1,a,b,c,d,f,h,i,j,k,l,o,p,q,r,s=>bif decide (s<b)then (iO m m a b c d f h i j k l o p q r s 0).bind λx=>match x with
   | .inl g=>if g.2.2.2.2.1.2.2.1.length+([(g.2.2.2.2.1.2.2.2.1.length:Int)]:LI).length<=1073741824 then j5 n g.1 g.2.1 g.2.2.1 g.2.2.2.1.1 g.2.2.2.1.2.1 g.2.2.2.1.2.2.1 g.2.2.2.1.2.2.2.1 g.2.2.2.1.2.2.2.2.1 g.2.2.2.2.1.1 g.2.2.2.2.1.2.1 (g.2.2.2.2.1.2.2.1++([(g.2.2.2.2.1.2.2.2.1.length:Int)]:LI)) g.2.2.2.2.1.2.2.2.1 g.2.2.2.2.1.2.2.2.2.1 g.2.2.2.2.2.1 (wI (g.2.2.2.2.2.2.1+1))else none
   | .inr e=>e.elim else some (.inl ((d,f,h,i,j,()),(k,l,o,p,q,()),()))
def mR (m:Nat):Nat->Int->Int->uI->Int->Int->LI->LI->LI->Int->Int->LI->LI->LI->LI->Int->Option ((Int×Int×uI×lx×lx×LI×Unit)⊕Empty)
 |0,_,_,_,_,_,_,_,_,_,_,_,_,_,_,_=>none
 |n+1,a,b,c,d,f,h,i,j,k,l,o,p,q,r,s=>bif decide (s<(c.length:Int))then if 0<=s/\s<(c.length:Int)then if 0<=s/\s<(c.length:Int)then if 0<=(wI ((wI ((c.getD s.toNat (0,(0,0))).2.1*a))+(c.getD s.toNat (0,(0,0))).1))/\(wI ((wI ((c.getD s.toNat (0,(0,0))).2.1*a))+(c.getD s.toNat (0,(0,0))).1))<(r.length:Int)then mR m n a b c d f h i j k l o p q (r.set (0+(wI ((wI ((c.getD s.toNat (0,(0,0))).2.1*a))+(c.getD s.toNat (0,(0,0))).1)).toNat) (wI (s+1))) (wI (s+1))else none else none else none else some (.inl (a,b,c,(d,f,h,i,j,()),(k,l,o,p,q,()),r,()))
def Du (a:Int) (b:Int) (c:List Bo):Option YF:=if 0<=(wI (a*b))/\(wI (a*b))<=(wI (a*b))/\(wI (a*b))<=1073741824 then (mR m m a b c 0 0 ([]:LI) ([]:LI) ([]:LI) a b ([0]:LI) ([]:LI) ([]:LI) (List.replicate (wI (a*b)).toNat (0:Int)) 0).bind λy=>match y with
 | .inl g=>(j5 m m g.1 g.2.1 g.2.2.1 g.2.2.2.1.1 g.2.2.2.1.2.1 g.2.2.2.1.2.2.1 g.2.2.2.1.2.2.2.1 g.2.2.2.1.2.2.2.2.1 g.2.2.2.2.1.1 g.2.2.2.2.1.2.1 g.2.2.2.2.1.2.2.1 g.2.2.2.2.1.2.2.2.1 g.2.2.2.2.1.2.2.2.2.1 g.2.2.2.2.2.1 0).bind λz=>match z with
  | .inl x=>some ((x.2.1.1,x.2.1.2.1,x.2.1.2.2.1,x.2.1.2.2.2.1,x.2.1.2.2.2.2.1,()),Dv)
  | .inr e=>e.elim
 | .inr e=>e.elim else none
def kt (m:Nat):Nat->Int->Int->LI->LI->LI->Int->Int->LI->LI->LI->uI->uI->Int->Option ((lx×lx×uI×Unit)⊕Empty)
 |0,_,_,_,_,_,_,_,_,_,_,_,_,_=>none
 |n+1,a,b,c,d,f,h,i,j,k,l,o,p,q=>bif decide (q<(p.length:Int))then if 0<=q/\q<(p.length:Int)then if 0<=q/\q<(p.length:Int)then bif decide ((p.getD (0+q.toNat) (0,(0,0))).1>=(p.getD (0+q.toNat) (0,(0,0))).2.1)then if 0<=q/\q<(p.length:Int)then if o.length+([((p.getD (0+q.toNat) (0,(0,0))).1,((p.getD (0+q.toNat) (0,(0,0))).2.1,(p.getD (0+q.toNat) (0,(0,0))).2.2))]:List Bo).length<=1073741824 then kt m n a b c d f h i j k l (o++([((p.getD (0+q.toNat) (0,(0,0))).1,((p.getD (0+q.toNat) (0,(0,0))).2.1,(p.getD (0+q.toNat) (0,(0,0))).2.2))]:List Bo)) p (wI (q+1))else none else none else kt m n a b c d f h i j k l o p (wI (q+1))else none else none else some (.inl ((a,b,c,d,f,()),(h,i,j,k,l,()),o,()))
def sd (a:Int) (b:Int) (c:LI) (d:LI) (f:LI):Option (YA×Unit×Unit):=(rM m a b c d f).bind λy=>bif y.1 !=0 then some (((0,0,[],[],[],()),y.1,()),Bv)else (yU m a b c d f).bind λz=>(kt m m a b c d f 0 0 ([]:LI) ([]:LI) ([]:LI) ([]:List Bo) z.1 0).bind λA=>match A with
  | .inl x=>(Du m x.1.1 x.1.2.1 x.2.2.1).bind λg=>some (((g.1.1,g.1.2.1,g.1.2.2.1,g.1.2.2.2.1,g.1.2.2.2.2.1,()),0,()),Bv)
  | .inr e=>e.elim
def mQ (m:Nat):Nat->Int->List dU->Int->Option X2
 |0,_,_,_=>none
 |n+1,a,b,c=>bif decide (c<a)then if 0<=a/\a<=a/\a<=1073741824 then if 0<([List.replicate a.toNat false]:List dU).length/\b.length+([List.replicate a.toNat false]:List dU).length<=1073741824 then mQ m n a (b++([List.replicate a.toNat false]:List dU)) (wI (c+1))else none else none else some (.inl (b,()))
def yQ (a:Int):Option XY:=(mQ m m a ([]:List dU) 0).bind λg=>match g with
 | .inl x=>some (x.1,Bv)
 | .inr e=>e.elim
def gv (m:Nat):Nat->List dU->List LI->List LI->Int->LI->Int->Option ((List dU×sN×sN×Int×LI×Unit)⊕Empty)
 |0,_,_,_,_,_,_=>none
 |n+1,a,b,c,d,f,h=>bif decide (h<(a.length:Int))then bif d !=h then if 0<=d/\d<(a.length:Int)then if 0<=h/\h<((a.getD d.toNat ([]:List Bool)).length:Int)then bif (a.getD d.toNat ([]:List Bool)).getD h.toNat false then if f.length+([h]:LI).length<=1073741824 then gv m n a b c d (f++([h]:LI)) (wI (h+1))else none else if 0<=h/\h<(a.length:Int)then if 0<=d/\d<((a.getD h.toNat ([]:List Bool)).length:Int)then bif (a.getD h.toNat ([]:List Bool)).getD d.toNat false then if f.length+([h]:LI).length<=1073741824 then gv m n a b c d (f++([h]:LI)) (wI (h+1))else none else gv m n a b c d f (wI (h+1))else none else none else none else none else gv m n a b c d f (wI (h+1))else some (.inl (a,(b,()),(c,()),d,f,()))
def mP:Nat->List dU->List LI->List LI->Int->Option ((sN×sN×Unit)⊕Empty)
 |0,_,_,_,_=>none
 |n+1,a,b,c,d=>bif decide (d<(a.length:Int))then (gv m m a b c d ([]:LI) 0).bind λx=>match x with
   | .inl g=>if 0<([g.2.2.2.2.1]:List LI).length/\g.2.2.1.1.length+([g.2.2.2.2.1]:List LI).length<=1073741824 then mP n g.1 g.2.1.1 (g.2.2.1.1++([g.2.2.2.2.1]:List LI)) (wI (g.2.2.2.1+1))else none
   | .inr e=>e.elim else some (.inl ((b,()),(c,()),()))
def yP (a:List dU):Option (sN×Unit×Unit):=(mP m m a ([]:List LI) ([]:List LI) 0).bind λg=>match g with
 | .inl x=>some ((x.2.1.1,()),Bv)
 | .inr e=>e.elim
def nu (m:Nat):Nat->List LI->List dU->uI->Int->Option YG
 |0,_,_,_,_=>none
 |n+1,a,b,c,d=>bif decide (d<(c.length:Int))then if 0<=d/\d<(c.length:Int)then if 0<=(c.getD (0+d.toNat) (0,(0,0))).1/\(c.getD (0+d.toNat) (0,(0,0))).1<(b.length:Int)then if 0<=d/\d<(c.length:Int)then if 0<=(c.getD (0+d.toNat) (0,(0,0))).2.1/\(c.getD (0+d.toNat) (0,(0,0))).2.1<((b.getD (c.getD (0+d.toNat) (0,(0,0))).1.toNat ([]:List Bool)).length:Int)then nu m n a (b.set (c.getD (0+d.toNat) (0,(0,0))).1.toNat ((b.getD (c.getD (0+d.toNat) (0,(0,0))).1.toNat ([]:List Bool)).set (c.getD (0+d.toNat) (0,(0,0))).2.1.toNat true)) c (wI (d+1))else none else none else none else none else some (.inl ((a,()),b,()))
def sb (a:Int) (b:Int) (c:LI) (d:LI) (f:LI):Option ((sN×Int×Unit)×Unit×Unit):=(rM m a b c d f).bind λg=>bif g.1 !=0 then some (((([]:List LI),()),g.1,()),Bv)else bif a !=b then some (((([]:List LI),()),5,()),Bv)else (yQ m a).bind λx=>(yU m a b c d f).bind λy=>(nu m m ([]:List LI) x.1 y.1 0).bind λz=>match z with
   | .inl A=>(yP m A.2.1).bind λB=>some (((B.1.1,()),0,()),Bv)
   | .inr e=>e.elim
def ml (m:Nat):Nat->LI->Int->Option sX
 |0,_,_=>none
 |n+1,a,b=>bif decide (b<(a.length:Int))then if 0<=b/\b<(a.length:Int)then if 0<=(wI (b-1))/\(wI (b-1))<(a.length:Int)then bif decide ((a.getD b.toNat 0)<=(a.getD (wI (b-1)).toNat 0))then some (.inl (false,()))else ml m n a (wI (b+1))else none else none else some (.inr (.inl ()))
def yq (a:LI):Option pF:=(ml m m a 1).bind λg=>match g with
 | .inl x=>some (x.1,Bv)
 | .inr (.inl y)=>some (true,Bv)
 | .inr (.inr e)=>e.elim
def mj (m:Nat):Nat->LI->Int->Int->Option sX
 |0,_,_,_=>none
 |n+1,a,b,c=>bif decide (c<(a.length:Int))then if 0<=c/\c<(a.length:Int)then bif (a.getD c.toNat 0)==b then some (.inl (true,()))else mj m n a b (wI (c+1))else none else some (.inr (.inl ()))
def tw (a:LI) (b:Int):Option vK:=(mj m m a b 0).bind λg=>match g with
 | .inl x=>some (x.1,uX)
 | .inr (.inl y)=>some (false,uX)
 | .inr (.inr e)=>e.elim
def j4:Nat->List LI->Int->Int->Int->Option ((Int×Unit)⊕(sN×Int×Int×Unit)⊕Empty)
 |0,_,_,_,_=>none
 |n+1,a,b,c,d=>if 0<=c/\c<(a.length:Int)then bif decide (d<((a.getD c.toNat ([]:LI)).length:Int))then if 0<=c/\c<(a.length:Int)then if 0<=d/\d<((a.getD c.toNat ([]:LI)).length:Int)then bif decide (((a.getD c.toNat ([]:LI)).getD d.toNat 0)<0)then some (.inl (1,()))else bif decide (((a.getD c.toNat ([]:LI)).getD d.toNat 0)>=b)then some (.inl (1,()))else bif ((a.getD c.toNat ([]:LI)).getD d.toNat 0)==c then some (.inl (1,()))else if 0<=((a.getD c.toNat ([]:LI)).getD d.toNat 0)/\((a.getD c.toNat ([]:LI)).getD d.toNat 0)<(a.length:Int)then (tw m (a.getD ((a.getD c.toNat ([]:LI)).getD d.toNat 0).toNat ([]:LI)) c).bind λe=>bif !e.1 then some (.inl (1,()))else j4 n a b c (wI (d+1))else none else none else none else some (.inr (.inl ((a,()),b,c,())))else none
def mO:Nat->List LI->Int->Int->Option sW
 |0,_,_,_=>none
 |n+1,a,b,c=>bif decide (c<b)then if 0<=c/\c<(a.length:Int)then (yq m (a.getD c.toNat ([]:LI))).bind λx=>bif !x.1 then some (.inl (1,()))else (j4 m m a b c 0).bind λy=>match y with
    | .inl z=>some (.inl (z.1,()))
    | .inr (.inl g)=>mO n g.1.1 g.2.1 (wI (g.2.2.1+1))
    | .inr (.inr e)=>e.elim else none else some (.inr (.inl ()))
def tO (a:List LI):Option lg:=bif decide ((a.length:Int)>200)then some (6,Bv)else (mO m m a (a.length:Int) 0).bind λg=>match g with
  | .inl x=>some (x.1,Bv)
  | .inr (.inl y)=>some (0,Bv)
  | .inr (.inr e)=>e.elim
def mM (m:Nat):Nat->LI->Int->List Bool->Int->Option sX
 |0,_,_,_,_=>none
 |n+1,a,b,c,d=>bif decide (d<b)then if 0<=d/\d<(a.length:Int)then bif decide ((a.getD d.toNat 0)<0)then some (.inl (false,()))else if 0<=d/\d<(a.length:Int)then bif decide ((a.getD d.toNat 0)>=b)then some (.inl (false,()))else if 0<=d/\d<(a.length:Int)then if 0<=(a.getD d.toNat 0)/\(a.getD d.toNat 0)<(c.length:Int)then bif c.getD (0+(a.getD d.toNat 0).toNat) false then some (.inl (false,()))else if 0<=d/\d<(a.length:Int)then if 0<=(a.getD d.toNat 0)/\(a.getD d.toNat 0)<(c.length:Int)then mM m n a b (c.set (0+(a.getD d.toNat 0).toNat) true) (wI (d+1))else none else none else none else none else none else none else some (.inr (.inl ()))
def Dk (a:LI) (b:Int):Option vK:=bif (a.length:Int) !=b then some (false,uX)else if 0<=b/\b<=b/\b<=1073741824 then (mM m m a b (List.replicate b.toNat false) 0).bind λg=>match g with
  | .inl x=>some (x.1,uX)
  | .inr (.inl y)=>some (true,uX)
  | .inr (.inr e)=>e.elim else none
def mi (m:Nat):Nat->LI->Int->Int->Option sX
 |0,_,_,_=>none
 |n+1,a,b,c=>bif decide (c<(a.length:Int))then if 0<=c/\c<(a.length:Int)then bif decide ((a.getD c.toNat 0)<0)then some (.inl (false,()))else if 0<=c/\c<(a.length:Int)then bif decide ((a.getD c.toNat 0)>=b)then some (.inl (false,()))else mi m n a b (wI (c+1))else none else none else some (.inr (.inl ()))
def CA (a:LI) (b:Int):Option vK:=(mi m m a b 0).bind λg=>match g with
 | .inl x=>some (x.1,uX)
 | .inr (.inl y)=>some (true,uX)
 | .inr (.inr e)=>e.elim
def mh:Nat->LI->Int->Option sX
 |0,_,_=>none
 |n+1,a,b=>bif decide (b<(a.length:Int))then if(0:Int)<=0/\0<=b/\b<=(a.length:Int)then if 0<=b/\b<(a.length:Int)then (tw m (a.take b.toNat) (a.getD b.toNat 0)).bind λe=>bif e.1 then some (.inl (true,()))else mh n a (wI (b+1))else none else none else some (.inr (.inl ()))
def Cx (a:LI):Option pF:=(mh m m a 0).bind λg=>match g with
 | .inl x=>some (x.1,Bv)
 | .inr (.inl y)=>some (false,Bv)
 | .inr (.inr e)=>e.elim
def mf (m:Nat):Nat->List LI->Int->List dU->Int->List Bool->Int->Option ((sN×Int×List dU×Int×List Bool×Unit)⊕Empty)
 |0,_,_,_,_,_,_=>none
 |n+1,a,b,c,d,f,h=>if 0<=d/\d<(a.length:Int)then bif decide (h<((a.getD d.toNat ([]:LI)).length:Int))then if 0<=d/\d<(a.length:Int)then if 0<=h/\h<((a.getD d.toNat ([]:LI)).length:Int)then if 0<=((a.getD d.toNat ([]:LI)).getD h.toNat 0)/\((a.getD d.toNat ([]:LI)).getD h.toNat 0)<(f.length:Int)then mf m n a b c d (f.set (0+((a.getD d.toNat ([]:LI)).getD h.toNat 0).toNat) true) (wI (h+1))else none else none else none else some (.inl ((a,()),b,c,d,f,()))else none
def mg:Nat->List LI->Int->List dU->Int->Option X2
 |0,_,_,_,_=>none
 |n+1,a,b,c,d=>bif decide (d<b)then if 0<=b/\b<=b/\b<=1073741824 then (mf m m a b c d (List.replicate b.toNat false) 0).bind λx=>match x with
   | .inl g=>if 0<([g.2.2.2.2.1]:List dU).length/\g.2.2.1.length+([g.2.2.2.2.1]:List dU).length<=1073741824 then mg n g.1.1 g.2.1 (g.2.2.1++([g.2.2.2.2.1]:List dU)) (wI (g.2.2.2.1+1))else none
   | .inr e=>e.elim else none else some (.inl (c,()))
def yo (a:List LI):Option XY:=(mg m m a (a.length:Int) ([]:List dU) 0).bind λg=>match g with
 | .inl x=>some (x.1,Bv)
 | .inr e=>e.elim
def mK (m:Nat):Nat->LI->List LI->List dU->List dU->Int->Int->Option ((LI×sN×List dU×List dU×Int×Unit)⊕Empty)
 |0,_,_,_,_,_,_=>none
 |n+1,a,b,c,d,f,h=>bif decide (h<(a.length:Int))then if 0<=f/\f<(d.length:Int)then if 0<=f/\f<(a.length:Int)then if 0<=(a.getD f.toNat 0)/\(a.getD f.toNat 0)<(c.length:Int)then if 0<=h/\h<(a.length:Int)then if 0<=(a.getD h.toNat 0)/\(a.getD h.toNat 0)<((c.getD (a.getD f.toNat 0).toNat ([]:List Bool)).length:Int)then if 0<=h/\h<((d.getD f.toNat ([]:List Bool)).length:Int)then mK m n a b c (d.set f.toNat ((d.getD f.toNat ([]:List Bool)).set h.toNat ((c.getD (a.getD f.toNat 0).toNat ([]:List Bool)).getD (a.getD h.toNat 0).toNat false))) f (wI (h+1))else none else none else none else none else none else none else some (.inl (a,(b,()),c,d,f,()))
def mL:Nat->LI->List LI->List dU->List dU->Int->Option YG
 |0,_,_,_,_,_=>none
 |n+1,a,b,c,d,f=>bif decide (f<(a.length:Int))then (mK m m a b c d f 0).bind λx=>match x with
   | .inl g=>mL n g.1 g.2.1.1 g.2.2.1 g.2.2.2.1 (wI (g.2.2.2.2.1+1))
   | .inr e=>e.elim else some (.inl ((b,()),d,()))
def K8 (a:List LI) (b:LI):Option YE:=(tO m a).bind λg=>bif g.1 !=0 then some (((([]:List LI),()),g.1,()),uX)else (CA m b (a.length:Int)).bind λx=>bif !x.1 then some (((([]:List LI),()),3,()),uX)else (Cx m b).bind λy=>bif y.1 then some (((([]:List LI),()),90,()),uX)else (yo m a).bind λz=>(yQ m (b.length:Int)).bind λA=>(mL m m b ([]:List LI) z.1 A.1 0).bind λB=>match B with
    | .inl C=>(yP m C.2.1).bind λD=>some (((D.1.1,()),0,()),uX)
    | .inr e=>e.elim
def wN (a:List LI) (b:LI):Option YE:=(tO m a).bind λe=>bif e.1 !=0 then some (((([]:List LI),()),e.1,()),uX)else bif (b.length:Int) !=(a.length:Int)then some (((([]:List LI),()),2,()),uX)else (Dk m b (a.length:Int)).bind λx=>bif !x.1 then some (((([]:List LI),()),90,()),uX)else (K8 m a b).bind λg=>some (((g.1.1.1,()),g.1.2.1,()),uX)
def P3 (a:List LI):Option (LJ×Unit×Unit):=(yo m a).bind λe=>if 0<=(a.length:Int)/\(a.length:Int)<=(a.length:Int)/\(a.length:Int)<=1073741824 then some ((e.1,List.replicate (a.length:Int).toNat false,()),Bv)else none
def mJ (m:Nat):Nat->List dU->List Bool->Int->LI->Int->Option ((LJ×LI×Unit)⊕Empty)
 |0,_,_,_,_,_=>none
 |n+1,a,b,c,d,f=>bif decide (f<(a.length:Int))then if 0<=c/\c<(a.length:Int)then if 0<=f/\f<((a.getD c.toNat ([]:List Bool)).length:Int)then bif (a.getD c.toNat ([]:List Bool)).getD f.toNat false then if 0<=f/\f<(b.length:Int)then bif !(b.getD (0+f.toNat) false)then if d.length+([f]:LI).length<=1073741824 then mJ m n a b c (d++([f]:LI)) (wI (f+1))else none else mJ m n a b c d (wI (f+1))else none else mJ m n a b c d (wI (f+1))else none else none else some (.inl ((a,b,()),d,()))
def K7 (a:List dU) (b:List Bool) (c:Int):Option (LI×LJ×Unit×Unit):=(mJ m m a b c ([]:LI) 0).bind λx=>match x with
 | .inl g=>some (g.2.1,((g.1.1,g.1.2.1,()),(),()))
 | .inr e=>e.elim
def pf (m:Nat):Nat->List dU->List Bool->Int->LI->Int->Int->Option ((LJ×Int×LI×Int×Unit)⊕Empty)
 |0,_,_,_,_,_,_=>none
 |n+1,a,b,c,d,f,h=>bif decide (h<(d.length:Int))then bif f !=h then if 0<=f/\f<(d.length:Int)then if 0<=(d.getD (0+f.toNat) 0)/\(d.getD (0+f.toNat) 0)<(a.length:Int)then if 0<=h/\h<(d.length:Int)then if 0<=(d.getD (0+h.toNat) 0)/\(d.getD (0+h.toNat) 0)<((a.getD (d.getD (0+f.toNat) 0).toNat ([]:List Bool)).length:Int)then pf m n (a.set (d.getD (0+f.toNat) 0).toNat ((a.getD (d.getD (0+f.toNat) 0).toNat ([]:List Bool)).set (d.getD (0+h.toNat) 0).toNat true)) b c d f (wI (h+1))else none else none else none else none else pf m n a b c d f (wI (h+1))else some (.inl ((a,b,()),c,d,f,()))
def tM:Nat->List dU->List Bool->Int->LI->Int->Option ((LJ×Int×Unit)⊕Empty)
 |0,_,_,_,_,_=>none
 |n+1,a,b,c,d,f=>bif decide (f<(d.length:Int))then (pf m m a b c d f 0).bind λx=>match x with
   | .inl g=>tM n g.1.1 g.1.2.1 g.2.1 g.2.2.1 (wI (g.2.2.2.1+1))
   | .inr e=>e.elim else some (.inl ((a,b,()),c,()))
def P1 (a:List dU) (b:List Bool) (c:Int):Option (Unit×LJ×Unit×Unit):=(K7 m a b c).bind λx=>(tM m m x.2.1.1 x.2.1.2.1 c x.1 0).bind λy=>match y with
 | .inl g=>if 0<=g.2.1/\g.2.1<(g.1.2.1.length:Int)then some ((),((g.1.1,g.1.2.1.set (0+g.2.1.toNat) true,()),(),()))else none
 | .inr e=>e.elim
def ub:Nat->List LI->List dU->List Bool->List LI->Int->Option (sN⊕Empty)
 |0,_,_,_,_,_=>none
 |n+1,a,b,c,d,f=>bif decide (f<(a.length:Int))then (K7 m b c f).bind λe=>if([f]:LI).length+e.1.length<=1073741824 then if 0<([([f]:LI)++e.1]:List LI).length/\d.length+([([f]:LI)++e.1]:List LI).length<=1073741824 then (P1 m e.2.1.1 e.2.1.2.1 f).bind λg=>ub n a g.2.1.1 g.2.1.2.1 (d++([([f]:LI)++e.1]:List LI)) (wI (f+1))else none else none else some (.inl (d,()))
def Aq (a:List LI):Option ((List LI×Int×Unit)×Unit×Unit):=(tO m a).bind λg=>bif g.1 !=0 then some ((([]:List LI),g.1,()),Bv)else (P3 m a).bind λx=>(ub m m a x.1.1 x.1.2.1 ([]:List LI) 0).bind λy=>match y with
  | .inl z=>some ((z.1,0,()),Bv)
  | .inr e=>e.elim
def rm (m:Nat):Nat->Int->fS->List dU->Int->Int->Int->Option ((Int×fS×List dU×Int×Int×Unit)⊕Empty)
 |0,_,_,_,_,_,_=>none
 |n+1,a,b,c,d,f,h=>bif decide (h<(b.length:Int))then if 0<=h/\h<(b.length:Int)then bif decide (f>=(b.getD h.toNat (0,(0,([],0)))).1)then if 0<=h/\h<(b.length:Int)then bif decide (f<(b.getD h.toNat (0,(0,([],0)))).2.1)then if 0<=d/\d<(b.length:Int)then rm m n a (b.set d.toNat ((b.getD d.toNat (0,(0,([],0)))).1,((b.getD d.toNat (0,(0,([],0)))).2.1,((b.getD d.toNat (0,(0,([],0)))).2.2.1,h)))) c d f (wI (h+1))else none else rm m n a b c d f (wI (h+1))else none else rm m n a b c d f (wI (h+1))else none else some (.inl (a,b,c,d,f,()))
def jo:Nat->Int->fS->List dU->Int->Int->Option ((Int×fS×List dU×Int×Unit)⊕Empty)
 |0,_,_,_,_,_=>none
 |n+1,a,b,c,d,f=>bif decide (f<a)then if 0<=d/\d<(c.length:Int)then if 0<=f/\f<((c.getD d.toNat ([]:List Bool)).length:Int)then bif !((c.getD d.toNat ([]:List Bool)).getD f.toNat false)then jo n a b c d (wI (f+1))else if 0<=d/\d<(b.length:Int)then if(b.getD d.toNat (0,(0,([],0)))).2.2.1.length+([f]:LI).length<=1073741824 then if 0<=d/\d<(b.length:Int)then if((d.toNat*4)+2)=((d.toNat*4)+2)then if 0<=d/\d<((b.set d.toNat ((b.getD d.toNat (0,(0,([],0)))).1,((b.getD d.toNat (0,(0,([],0)))).2.1,((b.getD d.toNat (0,(0,([],0)))).2.2.1++([f]:LI),(b.getD d.toNat (0,(0,([],0)))).2.2.2)))).length:Int)then bif decide (f>=((b.set d.toNat ((b.getD d.toNat (0,(0,([],0)))).1,((b.getD d.toNat (0,(0,([],0)))).2.1,((b.getD d.toNat (0,(0,([],0)))).2.2.1++([f]:LI),(b.getD d.toNat (0,(0,([],0)))).2.2.2)))).getD d.toNat (0,(0,([],0)))).2.1)then if 0<=d/\d<((b.set d.toNat ((b.getD d.toNat (0,(0,([],0)))).1,((b.getD d.toNat (0,(0,([],0)))).2.1,((b.getD d.toNat (0,(0,([],0)))).2.2.1++([f]:LI),(b.getD d.toNat (0,(0,([],0)))).2.2.2)))).length:Int)then bif decide (((b.set d.toNat ((b.getD d.toNat (0,(0,([],0)))).1,((b.getD d.toNat (0,(0,([],0)))).2.1,((b.getD d.toNat (0,(0,([],0)))).2.2.1++([f]:LI),(b.getD d.toNat (0,(0,([],0)))).2.2.2)))).getD d.toNat (0,(0,([],0)))).2.2.2<0)then (rm m m a (b.set d.toNat ((b.getD d.toNat (0,(0,([],0)))).1,((b.getD d.toNat (0,(0,([],0)))).2.1,((b.getD d.toNat (0,(0,([],0)))).2.2.1++([f]:LI),(b.getD d.toNat (0,(0,([],0)))).2.2.2)))) c d f (wI (d+1))).bind λx=>match x with
      | .inl g=>if 0<=g.2.2.2.1/\g.2.2.2.1<(g.2.1.length:Int)then bif decide (g.2.2.2.2.1>=(g.2.1.getD g.2.2.2.1.toNat (0,(0,([],0)))).2.1)then if 0<=g.2.2.2.1/\g.2.2.2.1<(g.2.1.length:Int)then if 0<=(g.2.1.getD g.2.2.2.1.toNat (0,(0,([],0)))).2.2.2/\(g.2.1.getD g.2.2.2.1.toNat (0,(0,([],0)))).2.2.2<(g.2.2.1.length:Int)then if 0<=g.2.2.2.2.1/\g.2.2.2.2.1<((g.2.2.1.getD (g.2.1.getD g.2.2.2.1.toNat (0,(0,([],0)))).2.2.2.toNat ([]:List Bool)).length:Int)then jo n g.1 g.2.1 (g.2.2.1.set (g.2.1.getD g.2.2.2.1.toNat (0,(0,([],0)))).2.2.2.toNat ((g.2.2.1.getD (g.2.1.getD g.2.2.2.1.toNat (0,(0,([],0)))).2.2.2.toNat ([]:List Bool)).set g.2.2.2.2.1.toNat true)) g.2.2.2.1 (wI (g.2.2.2.2.1+1))else none else none else none else jo n g.1 g.2.1 g.2.2.1 g.2.2.2.1 (wI (g.2.2.2.2.1+1))else none
      | .inr e=>e.elim else if 0<=d/\d<((b.set d.toNat ((b.getD d.toNat (0,(0,([],0)))).1,((b.getD d.toNat (0,(0,([],0)))).2.1,((b.getD d.toNat (0,(0,([],0)))).2.2.1++([f]:LI),(b.getD d.toNat (0,(0,([],0)))).2.2.2)))).length:Int)then bif decide (f>=((b.set d.toNat ((b.getD d.toNat (0,(0,([],0)))).1,((b.getD d.toNat (0,(0,([],0)))).2.1,((b.getD d.toNat (0,(0,([],0)))).2.2.1++([f]:LI),(b.getD d.toNat (0,(0,([],0)))).2.2.2)))).getD d.toNat (0,(0,([],0)))).2.1)then if 0<=d/\d<((b.set d.toNat ((b.getD d.toNat (0,(0,([],0)))).1,((b.getD d.toNat (0,(0,([],0)))).2.1,((b.getD d.toNat (0,(0,([],0)))).2.2.1++([f]:LI),(b.getD d.toNat (0,(0,([],0)))).2.2.2)))).length:Int)then if 0<=((b.set d.toNat ((b.getD d.toNat (0,(0,([],0)))).1,((b.getD d.toNat (0,(0,([],0)))).2.1,((b.getD d.toNat (0,(0,([],0)))).2.2.1++([f]:LI),(b.getD d.toNat (0,(0,([],0)))).2.2.2)))).getD d.toNat (0,(0,([],0)))).2.2.2/\((b.set d.toNat ((b.getD d.toNat (0,(0,([],0)))).1,((b.getD d.toNat (0,(0,([],0)))).2.1,((b.getD d.toNat (0,(0,([],0)))).2.2.1++([f]:LI),(b.getD d.toNat (0,(0,([],0)))).2.2.2)))).getD d.toNat (0,(0,([],0)))).2.2.2<(c.length:Int)then if 0<=f/\f<((c.getD ((b.set d.toNat ((b.getD d.toNat (0,(0,([],0)))).1,((b.getD d.toNat (0,(0,([],0)))).2.1,((b.getD d.toNat (0,(0,([],0)))).2.2.1++([f]:LI),(b.getD d.toNat (0,(0,([],0)))).2.2.2)))).getD d.toNat (0,(0,([],0)))).2.2.2.toNat ([]:List Bool)).length:Int)then jo n a (b.set d.toNat ((b.getD d.toNat (0,(0,([],0)))).1,((b.getD d.toNat (0,(0,([],0)))).2.1,((b.getD d.toNat (0,(0,([],0)))).2.2.1++([f]:LI),(b.getD d.toNat (0,(0,([],0)))).2.2.2)))) (c.set ((b.set d.toNat ((b.getD d.toNat (0,(0,([],0)))).1,((b.getD d.toNat (0,(0,([],0)))).2.1,((b.getD d.toNat (0,(0,([],0)))).2.2.1++([f]:LI),(b.getD d.toNat (0,(0,([],0)))).2.2.2)))).getD d.toNat (0,(0,([],0)))).2.2.2.toNat ((c.getD ((b.set d.toNat ((b.getD d.toNat (0,(0,([],0)))).1,((b.getD d.toNat (0,(0,([],0)))).2.1,((b.getD d.toNat (0,(0,([],0)))).2.2.1++([f]:LI),(b.getD d.toNat (0,(0,([],0)))).2.2.2)))).getD d.toNat (0,(0,([],0)))).2.2.2.toNat ([]:List Bool)).set f.toNat true)) d (wI (f+1))else none else none else none else jo n a (b.set d.toNat ((b.getD d.toNat (0,(0,([],0)))).1,((b.getD d.toNat (0,(0,([],0)))).2.1,((b.getD d.toNat (0,(0,([],0)))).2.2.1++([f]:LI),(b.getD d.toNat (0,(0,([],0)))).2.2.2)))) c d (wI (f+1))else none else none else if 0<=d/\d<((b.set d.toNat ((b.getD d.toNat (0,(0,([],0)))).1,((b.getD d.toNat (0,(0,([],0)))).2.1,((b.getD d.toNat (0,(0,([],0)))).2.2.1++([f]:LI),(b.getD d.toNat (0,(0,([],0)))).2.2.2)))).length:Int)then bif decide (f>=((b.set d.toNat ((b.getD d.toNat (0,(0,([],0)))).1,((b.getD d.toNat (0,(0,([],0)))).2.1,((b.getD d.toNat (0,(0,([],0)))).2.2.1++([f]:LI),(b.getD d.toNat (0,(0,([],0)))).2.2.2)))).getD d.toNat (0,(0,([],0)))).2.1)then if 0<=d/\d<((b.set d.toNat ((b.getD d.toNat (0,(0,([],0)))).1,((b.getD d.toNat (0,(0,([],0)))).2.1,((b.getD d.toNat (0,(0,([],0)))).2.2.1++([f]:LI),(b.getD d.toNat (0,(0,([],0)))).2.2.2)))).length:Int)then if 0<=((b.set d.toNat ((b.getD d.toNat (0,(0,([],0)))).1,((b.getD d.toNat (0,(0,([],0)))).2.1,((b.getD d.toNat (0,(0,([],0)))).2.2.1++([f]:LI),(b.getD d.toNat (0,(0,([],0)))).2.2.2)))).getD d.toNat (0,(0,([],0)))).2.2.2/\((b.set d.toNat ((b.getD d.toNat (0,(0,([],0)))).1,((b.getD d.toNat (0,(0,([],0)))).2.1,((b.getD d.toNat (0,(0,([],0)))).2.2.1++([f]:LI),(b.getD d.toNat (0,(0,([],0)))).2.2.2)))).getD d.toNat (0,(0,([],0)))).2.2.2<(c.length:Int)then if 0<=f/\f<((c.getD ((b.set d.toNat ((b.getD d.toNat (0,(0,([],0)))).1,((b.getD d.toNat (0,(0,([],0)))).2.1,((b.getD d.toNat (0,(0,([],0)))).2.2.1++([f]:LI),(b.getD d.toNat (0,(0,([],0)))).2.2.2)))).getD d.toNat (0,(0,([],0)))).2.2.2.toNat ([]:List Bool)).length:Int)then jo n a (b.set d.toNat ((b.getD d.toNat (0,(0,([],0)))).1,((b.getD d.toNat (0,(0,([],0)))).2.1,((b.getD d.toNat (0,(0,([],0)))).2.2.1++([f]:LI),(b.getD d.toNat (0,(0,([],0)))).2.2.2)))) (c.set ((b.set d.toNat ((b.getD d.toNat (0,(0,([],0)))).1,((b.getD d.toNat (0,(0,([],0)))).2.1,((b.getD d.toNat (0,(0,([],0)))).2.2.1++([f]:LI),(b.getD d.toNat (0,(0,([],0)))).2.2.2)))).getD d.toNat (0,(0,([],0)))).2.2.2.toNat ((c.getD ((b.set d.toNat ((b.getD d.toNat (0,(0,([],0)))).1,((b.getD d.toNat (0,(0,([],0)))).2.1,((b.getD d.toNat (0,(0,([],0)))).2.2.1++([f]:LI),(b.getD d.toNat (0,(0,([],0)))).2.2.2)))).getD d.toNat (0,(0,([],0)))).2.2.2.toNat ([]:List Bool)).set f.toNat true)) d (wI (f+1))else none else none else none else jo n a (b.set d.toNat ((b.getD d.toNat (0,(0,([],0)))).1,((b.getD d.toNat (0,(0,([],0)))).2.1,((b.getD d.toNat (0,(0,([],0)))).2.2.1++([f]:LI),(b.getD d.toNat (0,(0,([],0)))).2.2.2)))) c d (wI (f+1))else none else none else none else none else none else none else none else none else some (.inl (a,b,c,d,()))
def rp:Nat->Int->fS->List dU->Int->Option ((fS×Unit)⊕Empty)
 |0,_,_,_,_=>none
 |n+1,a,b,c,d=>bif decide (d<(b.length:Int))then if 0<=d/\d<(b.length:Int)then (jo m m a b c d (b.getD d.toNat (0,(0,([],0)))).1).bind λx=>match x with
   | .inl g=>rp n g.1 g.2.1 g.2.2.1 (wI (g.2.2.2.1+1))
   | .inr e=>e.elim else none else some (.inl (b,()))
def iw (m:Nat):Nat->LI->List LI->Int->fS->List dU->Int->Int->Int->Option ((LI×List LI×Int×fS×List dU×Int×Unit)⊕Empty)
 |0,_,_,_,_,_,_,_,_=>none
 |n+1,a,b,c,d,f,h,i,j=>if 0<=h/\h<(b.length:Int)then bif decide (j<((b.getD h.toNat ([]:LI)).length:Int))then if 0<=i/\i<(f.length:Int)then if 0<=h/\h<(b.length:Int)then if 0<=j/\j<((b.getD h.toNat ([]:LI)).length:Int)then if 0<=((b.getD h.toNat ([]:LI)).getD j.toNat 0)/\((b.getD h.toNat ([]:LI)).getD j.toNat 0)<((f.getD i.toNat ([]:List Bool)).length:Int)then iw m n a b c d (f.set i.toNat ((f.getD i.toNat ([]:List Bool)).set ((b.getD h.toNat ([]:LI)).getD j.toNat 0).toNat true)) h i (wI (j+1))else none else none else none else none else some (.inl (a,b,c,d,f,h,()))else none
def jq:Nat->LI->List LI->Int->fS->List dU->Int->Option ((Int×fS×List dU×Unit)⊕Empty)
 |0,_,_,_,_,_,_=>none
 |n+1,a,b,c,d,f,h=>bif decide (h<c)then bif h==0 then if 0<([(h,(wI (h+1),([],(-1))))]:List fW).length/\d.length+([(h,(wI (h+1),([],(-1))))]:List fW).length<=1073741824 then if 0<=c/\c<=c/\c<=1073741824 then if 0<([List.replicate c.toNat false]:List dU).length/\f.length+([List.replicate c.toNat false]:List dU).length<=1073741824 then if 0<=(wI (((d++([(h,(wI (h+1),([],(-1))))]:List fW)).length:Int)-1))/\(wI (((d++([(h,(wI (h+1),([],(-1))))]:List fW)).length:Int)-1))<((d++([(h,(wI (h+1),([],(-1))))]:List fW)).length:Int)then (iw m m a b c ((d++([(h,(wI (h+1),([],(-1))))]:List fW)).set (wI (((d++([(h,(wI (h+1),([],(-1))))]:List fW)).length:Int)-1)).toNat (((d++([(h,(wI (h+1),([],(-1))))]:List fW)).getD (wI (((d++([(h,(wI (h+1),([],(-1))))]:List fW)).length:Int)-1)).toNat (0,(0,([],0)))).1,(wI (h+1),(((d++([(h,(wI (h+1),([],(-1))))]:List fW)).getD (wI (((d++([(h,(wI (h+1),([],(-1))))]:List fW)).length:Int)-1)).toNat (0,(0,([],0)))).2.2.1,((d++([(h,(wI (h+1),([],(-1))))]:List fW)).getD (wI (((d++([(h,(wI (h+1),([],(-1))))]:List fW)).length:Int)-1)).toNat (0,(0,([],0)))).2.2.2)))) (f++([List.replicate c.toNat false]:List dU)) h (wI (((d++([(h,(wI (h+1),([],(-1))))]:List fW)).length:Int)-1)) 0).bind λz=>match z with
    | .inl g=>jq n g.1 g.2.1 g.2.2.1 g.2.2.2.1 g.2.2.2.2.1 (wI (g.2.2.2.2.2.1+1))
    | .inr e=>e.elim else none else none else none else none else (Cd m a (wI (900+h))).bind λA=>bif decide ((Int.tmod (aK .u64 A.1 7) 3)>0)then if 0<([(h,(wI (h+1),([],(-1))))]:List fW).length/\d.length+([(h,(wI (h+1),([],(-1))))]:List fW).length<=1073741824 then if 0<=c/\c<=c/\c<=1073741824 then if 0<([List.replicate c.toNat false]:List dU).length/\f.length+([List.replicate c.toNat false]:List dU).length<=1073741824 then if 0<=(wI (((d++([(h,(wI (h+1),([],(-1))))]:List fW)).length:Int)-1))/\(wI (((d++([(h,(wI (h+1),([],(-1))))]:List fW)).length:Int)-1))<((d++([(h,(wI (h+1),([],(-1))))]:List fW)).length:Int)then (iw m m a b c ((d++([(h,(wI (h+1),([],(-1))))]:List fW)).set (wI (((d++([(h,(wI (h+1),([],(-1))))]:List fW)).length:Int)-1)).toNat (((d++([(h,(wI (h+1),([],(-1))))]:List fW)).getD (wI (((d++([(h,(wI (h+1),([],(-1))))]:List fW)).length:Int)-1)).toNat (0,(0,([],0)))).1,(wI (h+1),(((d++([(h,(wI (h+1),([],(-1))))]:List fW)).getD (wI (((d++([(h,(wI (h+1),([],(-1))))]:List fW)).length:Int)-1)).toNat (0,(0,([],0)))).2.2.1,((d++([(h,(wI (h+1),([],(-1))))]:List fW)).getD (wI (((d++([(h,(wI (h+1),([],(-1))))]:List fW)).length:Int)-1)).toNat (0,(0,([],0)))).2.2.2)))) (f++([List.replicate c.toNat false]:List dU)) h (wI (((d++([(h,(wI (h+1),([],(-1))))]:List fW)).length:Int)-1)) 0).bind λB=>match B with
     | .inl x=>jq n x.1 x.2.1 x.2.2.1 x.2.2.2.1 x.2.2.2.2.1 (wI (x.2.2.2.2.2.1+1))
     | .inr e=>e.elim else none else none else none else none else if 0<=(wI ((d.length:Int)-1))/\(wI ((d.length:Int)-1))<(d.length:Int)then (iw m m a b c (d.set (wI ((d.length:Int)-1)).toNat ((d.getD (wI ((d.length:Int)-1)).toNat (0,(0,([],0)))).1,(wI (h+1),((d.getD (wI ((d.length:Int)-1)).toNat (0,(0,([],0)))).2.2.1,(d.getD (wI ((d.length:Int)-1)).toNat (0,(0,([],0)))).2.2.2)))) f h (wI ((d.length:Int)-1)) 0).bind λC=>match C with
     | .inl y=>jq n y.1 y.2.1 y.2.2.1 y.2.2.2.1 y.2.2.2.2.1 (wI (y.2.2.2.2.2.1+1))
     | .inr e=>e.elim else none else some (.inl (c,d,f,()))
def KC (a:Int) (b:Int) (c:LI) (d:LI) (f:LI) (h:LI) (i:LI):Option (fS×Unit×Unit×Unit×Unit):=(sd m a b c d f).bind λg=>(sb m g.1.1.1 g.1.1.2.1 g.1.1.2.2.1 g.1.1.2.2.2.1 g.1.1.2.2.2.2.1).bind λz=>(wN m z.1.1.1 h).bind λA=>(Aq m A.1.1.1).bind λy=>(jq m m i y.1.1 (y.1.1.length:Int) ([]:List fW) ([]:List dU) 0).bind λB=>match B with
 | .inl x=>(rp m m x.1 x.2.1 x.2.2.1 0).bind λC=>match C with
  | .inl D=>some (D.1,Dv)
  | .inr e=>e.elim
 | .inr e=>e.elim
def ko (m:Nat):Nat->LI->Int->List Bool->Int->Option sX
 |0,_,_,_,_=>none
 |n+1,a,b,c,d=>bif decide (d<b)then if 0<=d/\d<(a.length:Int)then bif decide ((a.getD d.toNat 0)<0)then some (.inl (false,()))else if 0<=d/\d<(a.length:Int)then bif decide ((a.getD d.toNat 0)>=b)then some (.inl (false,()))else if 0<=d/\d<(a.length:Int)then if 0<=(a.getD d.toNat 0)/\(a.getD d.toNat 0)<(c.length:Int)then bif c.getD (0+(a.getD d.toNat 0).toNat) false then some (.inl (false,()))else if 0<=d/\d<(a.length:Int)then if 0<=(a.getD d.toNat 0)/\(a.getD d.toNat 0)<(c.length:Int)then ko m n a b (c.set (0+(a.getD d.toNat 0).toNat) true) (wI (d+1))else none else none else none else none else none else none else some (.inr (.inl ()))
def Ak (a:LI) (b:Int):Option vK:=bif (a.length:Int) !=b then some (false,uX)else if 0<=b/\b<=b/\b<=1073741824 then (ko m m a b (List.replicate b.toNat false) 0).bind λg=>match g with
  | .inl x=>some (x.1,uX)
  | .inr (.inl y)=>some (true,uX)
  | .inr (.inr e)=>e.elim else none
def DP (a:Int) (b:Int) (c:LI) (d:LI) (f:LI) (h:LI):Option jJ:=(rM m a b c d f).bind λe=>bif e.1 !=0 then some (e.1,uX)else bif a !=b then some (5,uX)else (Ak m h a).bind λg=>bif !g.1 then some (90,uX)else some (0,uX)
def DH (a:Int) (b:Int) (c:LI) (d:LI) (f:LI) (h:LI):Option (sN×Unit×Unit×Unit):=(sd m a b c d f).bind λe=>(sb m e.1.1.1 e.1.1.2.1 e.1.1.2.2.1 e.1.1.2.2.2.1 e.1.1.2.2.2.2.1).bind λg=>(wN m g.1.1.1 h).bind λx=>some ((x.1.1.1,()),uX)
def pa (m:Nat):Nat->fS->Int->Int->Option sW
 |0,_,_,_=>none
 |n+1,a,b,c=>bif decide (c<(a.length:Int))then if 0<=c/\c<(a.length:Int)then bif decide ((a.getD c.toNat (0,(0,([],0)))).1<=b)then if 0<=c/\c<(a.length:Int)then bif decide (b<(a.getD c.toNat (0,(0,([],0)))).2.1)then some (.inl (c,()))else pa m n a b (wI (c+1))else none else pa m n a b (wI (c+1))else none else some (.inr (.inl ()))
def KW (a:List fW) (b:Int):Option jJ:=(pa m m a b 0).bind λg=>match g with
 | .inl x=>some (x.1,uX)
 | .inr (.inl y)=>some ((-1),uX)
 | .inr (.inr e)=>e.elim
def pg:Nat->fS->List LI->Int->Int->Int->Option tK
 |0,_,_,_,_,_=>none
 |n+1,a,b,c,d,f=>if 0<=d/\d<(b.length:Int)then bif decide (f<((b.getD d.toNat ([]:LI)).length:Int))then if 0<=d/\d<(b.length:Int)then if 0<=f/\f<((b.getD d.toNat ([]:LI)).length:Int)then bif decide (((b.getD d.toNat ([]:LI)).getD f.toNat 0)>d)then (KW m a d).bind λe=>if 0<=e.1/\e.1<(a.length:Int)then (tw m (a.getD e.1.toNat (0,(0,([],0)))).2.2.1 ((b.getD d.toNat ([]:LI)).getD f.toNat 0)).bind λg=>bif !g.1 then some (.inl (211,()))else pg n a b c d (wI (f+1))else none else pg n a b c d (wI (f+1))else none else none else some (.inr (.inl (a,(b,()),c,d,())))else none
def tP:Nat->fS->List LI->Int->Int->Option sW
 |0,_,_,_,_=>none
 |n+1,a,b,c,d=>bif decide (d<c)then (pg m m a b c d 0).bind λx=>match x with
   | .inl y=>some (.inl (y.1,()))
   | .inr (.inl g)=>tP n g.1 g.2.1.1 g.2.2.1 (wI (g.2.2.2.1+1))
   | .inr (.inr e)=>e.elim else some (.inr (.inl ()))
def ph:Nat->fS->List LI->Int->Int->LI->Int->Int->Option tK
 |0,_,_,_,_,_,_,_=>none
 |n+1,a,b,c,d,f,h,i=>bif decide (i<(f.length:Int))then if 0<=h/\h<(a.length:Int)then if 0<=i/\i<(f.length:Int)then (tw m (a.getD h.toNat (0,(0,([],0)))).2.2.1 (f.getD i.toNat 0)).bind λe=>bif !e.1 then some (.inl (211,()))else ph n a b c d f h (wI (i+1))else none else none else some (.inr (.inl (a,(b,()),c,d,())))
def pj:Nat->fS->List LI->Int->Int->Option ((Int×Unit)⊕(fS×sN×Int×Unit)⊕Empty)
 |0,_,_,_,_=>none
 |n+1,a,b,c,d=>bif decide (d<(a.length:Int))then if 0<=d/\d<(a.length:Int)then if 0<=d/\d<(a.length:Int)then if 0<=d/\d<(a.length:Int)then (yq m (a.getD d.toNat (0,(0,([],0)))).2.2.1).bind λz=>bif !z.1 then some (.inl (211,()))else bif decide (((a.getD d.toNat (0,(0,([],0)))).2.2.1.length:Int)<(wI ((a.getD d.toNat (0,(0,([],0)))).2.1-(a.getD d.toNat (0,(0,([],0)))).1)))then some (.inl (211,()))else if(0:Int)<=0/\0<((a.getD d.toNat (0,(0,([],0)))).2.2.1.length:Int)then if 0<=d/\d<(a.length:Int)then bif ((a.getD d.toNat (0,(0,([],0)))).2.2.1.getD 0 0) !=(a.getD d.toNat (0,(0,([],0)))).1 then some (.inl (211,()))else if 0<=(wI ((wI ((a.getD d.toNat (0,(0,([],0)))).2.1-(a.getD d.toNat (0,(0,([],0)))).1))-1))/\(wI ((wI ((a.getD d.toNat (0,(0,([],0)))).2.1-(a.getD d.toNat (0,(0,([],0)))).1))-1))<((a.getD d.toNat (0,(0,([],0)))).2.2.1.length:Int)then if 0<=d/\d<(a.length:Int)then bif ((a.getD d.toNat (0,(0,([],0)))).2.2.1.getD (wI ((wI ((a.getD d.toNat (0,(0,([],0)))).2.1-(a.getD d.toNat (0,(0,([],0)))).1))-1)).toNat 0) !=(wI ((a.getD d.toNat (0,(0,([],0)))).2.1-1))then some (.inl (211,()))else if 0<=(wI (((a.getD d.toNat (0,(0,([],0)))).2.2.1.length:Int)-1))/\(wI (((a.getD d.toNat (0,(0,([],0)))).2.2.1.length:Int)-1))<((a.getD d.toNat (0,(0,([],0)))).2.2.1.length:Int)then bif decide (((a.getD d.toNat (0,(0,([],0)))).2.2.1.getD (wI (((a.getD d.toNat (0,(0,([],0)))).2.2.1.length:Int)-1)).toNat 0)>=c)then some (.inl (211,()))else bif decide (((a.getD d.toNat (0,(0,([],0)))).2.2.1.length:Int)>(wI ((a.getD d.toNat (0,(0,([],0)))).2.1-(a.getD d.toNat (0,(0,([],0)))).1)))then if 0<=(wI ((a.getD d.toNat (0,(0,([],0)))).2.1-(a.getD d.toNat (0,(0,([],0)))).1))/\(wI ((a.getD d.toNat (0,(0,([],0)))).2.1-(a.getD d.toNat (0,(0,([],0)))).1))<((a.getD d.toNat (0,(0,([],0)))).2.2.1.length:Int)then (KW m a ((a.getD d.toNat (0,(0,([],0)))).2.2.1.getD (wI ((a.getD d.toNat (0,(0,([],0)))).2.1-(a.getD d.toNat (0,(0,([],0)))).1)).toNat 0)).bind λy=>if 0<=d/\d<(a.length:Int)then bif (a.getD d.toNat (0,(0,([],0)))).2.2.2 !=y.1 then some (.inl (211,()))else (ph m m a b c d (a.getD d.toNat (0,(0,([],0)))).2.2.1 y.1 (wI ((a.getD d.toNat (0,(0,([],0)))).2.1-(a.getD d.toNat (0,(0,([],0)))).1))).bind λA=>match A with
          | .inl B=>some (.inl (B.1,()))
          | .inr (.inl g)=>pj n g.1 g.2.1.1 g.2.2.1 (wI (g.2.2.2.1+1))
          | .inr (.inr e)=>e.elim else none else none else if 0<=d/\d<(a.length:Int)then bif (a.getD d.toNat (0,(0,([],0)))).2.2.2 !=(-1)then some (.inl (211,()))else (ph m m a b c d (a.getD d.toNat (0,(0,([],0)))).2.2.1 (-1) (wI ((a.getD d.toNat (0,(0,([],0)))).2.1-(a.getD d.toNat (0,(0,([],0)))).1))).bind λC=>match C with
          | .inl D=>some (.inl (D.1,()))
          | .inr (.inl x)=>pj n x.1 x.2.1.1 x.2.2.1 (wI (x.2.2.2.1+1))
          | .inr (.inr e)=>e.elim else none else none else none else none else none else none else none else none else none else some (.inr (.inl (a,(b,()),c,())))
def tQ (m:Nat):Nat->fS->List LI->Int->Int->Int->Option tK
 |0,_,_,_,_,_=>none
 |n+1,a,b,c,d,f=>bif decide (f<(a.length:Int))then if 0<=f/\f<(a.length:Int)then bif (a.getD f.toNat (0,(0,([],0)))).1 !=d then some (.inl (211,()))else if 0<=f/\f<(a.length:Int)then bif decide ((a.getD f.toNat (0,(0,([],0)))).2.1<=d)then some (.inl (211,()))else if 0<=f/\f<(a.length:Int)then bif decide ((a.getD f.toNat (0,(0,([],0)))).2.1>c)then some (.inl (211,()))else if 0<=f/\f<(a.length:Int)then tQ m n a b c (a.getD f.toNat (0,(0,([],0)))).2.1 (wI (f+1))else none else none else none else none else some (.inr (.inl (a,(b,()),c,d,())))
def La (a:List LI) (b:List fW):Option jJ:=(tO m a).bind λy=>bif y.1 !=0 then some (y.1,uX)else (tQ m m b a (a.length:Int) 0 0).bind λz=>match z with
  | .inl A=>some (A.1,uX)
  | .inr (.inl g)=>bif g.2.2.2.1 !=g.2.2.1 then some (211,uX)else (pj m m g.1 g.2.1.1 g.2.2.1 0).bind λB=>match B with
    | .inl C=>some (C.1,uX)
    | .inr (.inl x)=>(tP m m x.1 x.2.1.1 x.2.2.1 0).bind λD=>match D with
     | .inl E=>some (E.1,uX)
     | .inr (.inl F)=>some (0,uX)
     | .inr (.inr e)=>e.elim
    | .inr (.inr e)=>e.elim
  | .inr (.inr e)=>e.elim
def qM (m:Nat):Nat->fS->Int->Option sW
 |0,_,_=>none
 |n+1,a,b=>bif decide (b<(a.length:Int))then if 0<=b/\b<(a.length:Int)then bif decide (((a.getD b.toNat (0,(0,([],0)))).2.2.1.length:Int)>64)then some (.inl (6,()))else qM m n a (wI (b+1))else none else some (.inr (.inl ()))
def JR (a:Int) (b:Int) (c:LI) (d:LI) (f:LI) (h:LI) (i:List fW):Option MN:=(DP m a b c d f h).bind λg=>bif g.1 !=0 then some (g.1,Dv)else (DH m a b c d f h).bind λy=>(La m y.1.1 i).bind λx=>bif x.1 !=0 then some (x.1,Dv)else (qM m m i 0).bind λz=>match z with
   | .inl A=>some (A.1,Dv)
   | .inr (.inl B)=>some (0,Dv)
   | .inr (.inr e)=>e.elim
def DG (a:Int) (b:Int) (c:LI) (d:LI) (f:LI) (h:LI) (i:Int) (j:Int):Option (lC×Unit×Unit×Unit×Unit×Unit):=if 0<=i/\i<(h.length:Int)then if 0<=j/\j<(h.length:Int)then (JU m a b c d f (if(h.getD j.toNat 0)>(h.getD i.toNat 0)then(h.getD j.toNat 0)else(h.getD i.toNat 0)) (if(h.getD j.toNat 0)<(h.getD i.toNat 0)then(h.getD j.toNat 0)else(h.getD i.toNat 0))).bind λg=>(j6 m g.1).bind λe=>some ((e.1.1,e.1.2.1,e.1.2.2.1,e.1.2.2.2.1,()),Ue1)else none else none
def kd (m:Nat):Nat->LI->Int->Int->Option sW
 |0,_,_,_=>none
 |n+1,a,b,c=>bif decide (c<(a.length:Int))then if 0<=c/\c<(a.length:Int)then bif (a.getD c.toNat 0)==b then some (.inl (c,()))else kd m n a b (wI (c+1))else none else some (.inr (.inl ()))
def ke (a:LI) (b:Int):Option jJ:=(kd m m a b 0).bind λg=>match g with
 | .inl x=>some (x.1,uX)
 | .inr (.inl y)=>some ((-1),uX)
 | .inr (.inr e)=>e.elim
def Ad (a:Bool) (b:Bool) (c:LI) (d:Int) (f:Bool) (h:Bool) (i:LI) (j:Int):Option T1:=(fU m b c).bind λx=>bif x.1==0 then some (((b,c,()),(h,i,()),j,()),uX)else (fU m h i).bind λy=>bif y.1==0 then some (((b,c,()),(h,i,()),d,()),uX)else bif decide (d>j)then (o8 m b c (wI (d-j))).bind λe=>some (((e.1.1,e.1.2.1,()),(h,i,()),j,()),uX)else (o8 m h i (wI (j-d))).bind λg=>some (((b,c,()),(g.1.1,g.1.2.1,()),d,()),uX)
def A9 (a:Bool) (b:Bool) (c:LI) (d:Int) (f:Bool) (h:Bool) (i:LI) (j:Int):Option xu:=(nI m a b c d).bind λe=>(nI m f h i j).bind λg=>bif e.1.1 then (x7 m).bind λy=>some ((y.1.1,y.1.2.1,y.1.2.2.1,y.1.2.2.2.1,()),uX)else bif g.1.1 then (x7 m).bind λz=>some ((z.1.1,z.1.2.1,z.1.2.2.1,z.1.2.2.2.1,()),uX)else (Ad m e.1.1 e.1.2.1 e.1.2.2.1 e.1.2.2.2.1 g.1.1 g.1.2.1 g.1.2.2.1 g.1.2.2.2.1).bind λx=>(fN m x.1.1.1 x.1.1.2.1 x.1.2.1.1 x.1.2.1.2.1).bind λB=>(vc m B.1.1 B.1.2.1 x.1.2.2.1).bind λA=>some ((A.1.1,A.1.2.1,A.1.2.2.1,A.1.2.2.2.1,()),uX)
def qI:Nat->fS->Int->pE->LI->Int->dA->LI->Int->dA->Int->LI->Int->dA->Int->Int->Option ((fS×Int×pE×gY×gY×Int×gY×Int×Unit)⊕Empty)
 |0,_,_,_,_,_,_,_,_,_,_,_,_,_,_,_=>none
 |n+1,a,b,c,d,f,h,i,j,k,l,o,p,q,r,s=>bif decide (s<(o.length:Int))then if 0<=r/\r<(o.length:Int)then (ke m i (o.getD r.toNat 0)).bind λe=>if 0<=s/\s<(o.length:Int)then (ke m i (o.getD s.toNat 0)).bind λg=>if 0<=e.1/\e.1<(k.length:Int)then if 0<=e.1/\e.1<(k.length:Int)then if 0<=g.1/\g.1<((k.getD e.1.toNat ([]:List bF)).length:Int)then if 0<=r/\r<(q.length:Int)then if 0<=s/\s<((q.getD r.toNat ([]:List bF)).length:Int)then (A9 m ((k.getD e.1.toNat ([]:List bF)).getD g.1.toNat qz).1 ((k.getD e.1.toNat ([]:List bF)).getD g.1.toNat qz).2.1.1 ((k.getD e.1.toNat ([]:List bF)).getD g.1.toNat qz).2.1.2 ((k.getD e.1.toNat ([]:List bF)).getD g.1.toNat qz).2.2 ((q.getD r.toNat ([]:List bF)).getD s.toNat qz).1 ((q.getD r.toNat ([]:List bF)).getD s.toNat qz).2.1.1 ((q.getD r.toNat ([]:List bF)).getD s.toNat qz).2.1.2 ((q.getD r.toNat ([]:List bF)).getD s.toNat qz).2.2).bind λx=>if 0<=g.1/\g.1<((k.getD e.1.toNat ([]:List bF)).length:Int)then qI n a b c d f h i j (k.set e.1.toNat ((k.getD e.1.toNat ([]:List bF)).set g.1.toNat (x.1.1,((x.1.2.1,x.1.2.2.1),x.1.2.2.2.1)))) l o p q r (wI (s+1))else none else none else none else none else none else none else none else none else some (.inl (a,b,c,(d,f,h,()),(i,j,k,()),l,(o,p,q,()),r,()))
def qJ:Nat->fS->Int->pE->LI->Int->dA->LI->Int->dA->Int->LI->Int->dA->Int->Option ((fS×Int×pE×gY×gY×Int×Unit)⊕Empty)
 |0,_,_,_,_,_,_,_,_,_,_,_,_,_,_=>none
 |n+1,a,b,c,d,f,h,i,j,k,l,o,p,q,r=>bif decide (r<(o.length:Int))then (qI m m a b c d f h i j k l o p q r 0).bind λx=>match x with
   | .inl g=>qJ n g.1 g.2.1 g.2.2.1 g.2.2.2.1.1 g.2.2.2.1.2.1 g.2.2.2.1.2.2.1 g.2.2.2.2.1.1 g.2.2.2.2.1.2.1 g.2.2.2.2.1.2.2.1 g.2.2.2.2.2.1 g.2.2.2.2.2.2.1.1 g.2.2.2.2.2.2.1.2.1 g.2.2.2.2.2.2.1.2.2.1 (wI (g.2.2.2.2.2.2.2.1+1))
   | .inr e=>e.elim else some (.inl (a,b,c,(d,f,h,()),(i,j,k,()),l,()))
def oB:Nat->fS->Int->pE->LI->Int->dA->LI->Int->dA->Int->Option ((pE×gY×gY×Unit)⊕Empty)
 |0,_,_,_,_,_,_,_,_,_,_=>none
 |n+1,a,b,c,d,f,h,i,j,k,l=>bif decide (l<b)then if 0<=l/\l<(a.length:Int)then bif (a.getD l.toNat (0,(0,([],0)))).2.2.2 !=b then oB n a b c d f h i j k (wI (l+1))else if 0<=l/\l<(c.length:Int)then (qJ m m a b c d f h i j k l (c.getD (0+l.toNat) ([],(0,([]:List cW)))).1 (c.getD (0+l.toNat) ([],(0,([]:List cW)))).2.1 (c.getD (0+l.toNat) ([],(0,([]:List cW)))).2.2 0).bind λx=>match x with
    | .inl g=>oB n g.1 g.2.1 g.2.2.1 g.2.2.2.1.1 g.2.2.2.1.2.1 g.2.2.2.1.2.2.1 g.2.2.2.2.1.1 g.2.2.2.2.1.2.1 g.2.2.2.2.1.2.2.1 (wI (g.2.2.2.2.2.1+1))
    | .inr e=>e.elim else none else none else some (.inl (c,(d,f,h,()),(i,j,k,()),()))
def lS:Nat->LI->fS->Int->pE->Int->Int->LI->LI->LI->LI->Int->dA->LI->Int->dA->Int->Int->Int->Option ((LI×fS×Int×pE×lx×gY×gY×Int×Int×Unit)⊕Empty)
 |0,_,_,_,_,_,_,_,_,_,_,_,_,_,_,_,_,_,_=>none
 |n+1,a,b,c,d,f,h,i,j,k,l,o,p,q,r,s,t,u,v=>bif decide (v<t)then if 0<=u/\u<(q.length:Int)then if 0<=v/\v<(q.length:Int)then if 0<=c/\c<(b.length:Int)then bif decide ((if(q.getD (0+v.toNat) 0)<(q.getD (0+u.toNat) 0)then(q.getD (0+v.toNat) 0)else(q.getD (0+u.toNat) 0))>=(b.getD c.toNat (0,(0,([],0)))).1)then if 0<=c/\c<(b.length:Int)then bif decide ((if(q.getD (0+v.toNat) 0)<(q.getD (0+u.toNat) 0)then(q.getD (0+v.toNat) 0)else(q.getD (0+u.toNat) 0))<(b.getD c.toNat (0,(0,([],0)))).2.1)then if 0<=u/\u<(s.length:Int)then if 0<=u/\u<(q.length:Int)then if 0<=v/\v<(q.length:Int)then (DG m f h i j k a (q.getD (0+u.toNat) 0) (q.getD (0+v.toNat) 0)).bind λe=>if 0<=v/\v<((s.getD u.toNat ([]:List bF)).length:Int)then lS n a b c d f h i j k l o p q r (s.set u.toNat ((s.getD u.toNat ([]:List bF)).set v.toNat (e.1.1,((e.1.2.1,e.1.2.2.1),e.1.2.2.2.1)))) t u (wI (v+1))else none else none else none else none else lS n a b c d f h i j k l o p q r s t u (wI (v+1))else none else lS n a b c d f h i j k l o p q r s t u (wI (v+1))else none else none else none else some (.inl (a,b,c,d,(f,h,i,j,k,()),(l,o,p,()),(q,r,s,()),t,u,()))
def qK:Nat->LI->fS->Int->pE->Int->Int->LI->LI->LI->LI->Int->dA->LI->Int->dA->Int->Int->Option ((fS×Int×pE×gY×gY×Unit)⊕Empty)
 |0,_,_,_,_,_,_,_,_,_,_,_,_,_,_,_,_,_=>none
 |n+1,a,b,c,d,f,h,i,j,k,l,o,p,q,r,s,t,u=>bif decide (u<t)then if 0<=t/\t<=t/\t<=1073741824 then if 0<([List.replicate t.toNat (qz:Bool×(Bool×LI)×Int)]:List cW).length/\s.length+([List.replicate t.toNat (qz:Bool×(Bool×LI)×Int)]:List cW).length<=1073741824 then (lS m m a b c d f h i j k l o p q r (s++([List.replicate t.toNat (qz:Bool×(Bool×LI)×Int)]:List cW)) t u 0).bind λx=>match x with
   | .inl g=>qK n g.1 g.2.1 g.2.2.1 g.2.2.2.1 g.2.2.2.2.1.1 g.2.2.2.2.1.2.1 g.2.2.2.2.1.2.2.1 g.2.2.2.2.1.2.2.2.1 g.2.2.2.2.1.2.2.2.2.1 g.2.2.2.2.2.1.1 g.2.2.2.2.2.1.2.1 g.2.2.2.2.2.1.2.2.1 g.2.2.2.2.2.2.1.1 g.2.2.2.2.2.2.1.2.1 g.2.2.2.2.2.2.1.2.2.1 g.2.2.2.2.2.2.2.1 (wI (g.2.2.2.2.2.2.2.2.1+1))
   | .inr e=>e.elim else none else none else some (.inl (b,c,d,(l,o,p,()),(q,r,s,()),()))
def oC (m:Nat):Nat->LI->fS->Int->pE->Int->Int->LI->LI->LI->LI->Int->dA->LI->Int->dA->Int->Option tC
 |0,_,_,_,_,_,_,_,_,_,_,_,_,_,_,_,_=>none
 |n+1,a,b,c,d,f,h,i,j,k,l,o,p,q,r,s,t=>if 0<=c/\c<(b.length:Int)then bif decide (t<((b.getD c.toNat (0,(0,([],0)))).2.2.1.length:Int))then if 0<=c/\c<(b.length:Int)then if 0<=t/\t<((b.getD c.toNat (0,(0,([],0)))).2.2.1.length:Int)then if 0<=c/\c<(b.length:Int)then bif decide (((b.getD c.toNat (0,(0,([],0)))).2.2.1.getD t.toNat 0)>=(b.getD c.toNat (0,(0,([],0)))).2.1)then if 0<=c/\c<(b.length:Int)then if 0<=t/\t<((b.getD c.toNat (0,(0,([],0)))).2.2.1.length:Int)then if q.length+([(b.getD c.toNat (0,(0,([],0)))).2.2.1.getD t.toNat 0]:LI).length<=1073741824 then oC m n a b c d f h i j k l o p (q++([(b.getD c.toNat (0,(0,([],0)))).2.2.1.getD t.toNat 0]:LI)) r s (wI (t+1))else none else none else none else oC m n a b c d f h i j k l o p q r s (wI (t+1))else none else none else none else some (.inl (a,b,c,d,(f,h,i,j,k,()),(l,o,p,()),(q,r,s,()),()))else none
def qL (m:Nat):Nat->LI->fS->Int->pE->Int->Int->LI->LI->LI->LI->Int->dA->LI->Int->dA->Int->Option tC
 |0,_,_,_,_,_,_,_,_,_,_,_,_,_,_,_,_=>none
 |n+1,a,b,c,d,f,h,i,j,k,l,o,p,q,r,s,t=>if 0<=c/\c<(b.length:Int)then bif decide (t<(b.getD c.toNat (0,(0,([],0)))).2.1)then if q.length+([t]:LI).length<=1073741824 then qL m n a b c d f h i j k l o p (q++([t]:LI)) r s (wI (t+1))else none else some (.inl (a,b,c,d,(f,h,i,j,k,()),(l,o,p,()),(q,r,s,()),()))else none
def oD (m:Nat):Nat->LI->fS->Int->pE->Int->Int->LI->LI->LI->LI->Int->dA->LI->Int->dA->Int->Option tC
 |0,_,_,_,_,_,_,_,_,_,_,_,_,_,_,_,_=>none
 |n+1,a,b,c,d,f,h,i,j,k,l,o,p,q,r,s,t=>bif decide (t<c)then if 0<=t/\t<(b.length:Int)then bif (b.getD t.toNat (0,(0,([],0)))).2.2.2==c then if 0<=t/\t<(d.length:Int)then if 0<=t/\t<(d.length:Int)then if(0:Int)<=0/\0<=(d.getD (0+t.toNat) ([],(0,([]:List cW)))).2.1/\(d.getD (0+t.toNat) ([],(0,([]:List cW)))).2.1<=((d.getD (0+t.toNat) ([],(0,([]:List cW)))).1.length:Int)then if q.length+((d.getD (0+t.toNat) ([],(0,([]:List cW)))).1.take (d.getD (0+t.toNat) ([],(0,([]:List cW)))).2.1.toNat).length<=1073741824 then oD m n a b c d f h i j k l o p (q++((d.getD (0+t.toNat) ([],(0,([]:List cW)))).1.take (d.getD (0+t.toNat) ([],(0,([]:List cW)))).2.1.toNat)) r s (wI (t+1))else none else none else none else none else oD m n a b c d f h i j k l o p q r s (wI (t+1))else none else some (.inl (a,b,c,d,(f,h,i,j,k,()),(l,o,p,()),(q,r,s,()),()))
def TG (a:Int) (b:Int) (c:LI) (d:LI) (f:LI) (h:LI) (i:List fW) (j:Int) (k:List MO):Option (gY×Unit×Unit×Unit×Unit×pE×Unit):=(oD m m h i j k a b c d f ([]:LI) 0 ([]:List cW) ([]:LI) 0 ([]:List cW) 0).bind λB=>match B with
 | .inl g=>if 0<=g.2.2.1/\g.2.2.1<(g.2.1.length:Int)then (qL m m g.1 g.2.1 g.2.2.1 g.2.2.2.1 g.2.2.2.2.1.1 g.2.2.2.2.1.2.1 g.2.2.2.2.1.2.2.1 g.2.2.2.2.1.2.2.2.1 g.2.2.2.2.1.2.2.2.2.1 g.2.2.2.2.2.1.1 g.2.2.2.2.2.1.2.1 g.2.2.2.2.2.1.2.2.1 g.2.2.2.2.2.2.1.1 g.2.2.2.2.2.2.1.2.1 g.2.2.2.2.2.2.1.2.2.1 (g.2.1.getD g.2.2.1.toNat (0,(0,([],0)))).1).bind λC=>match C with
  | .inl y=>(oC m m y.1 y.2.1 y.2.2.1 y.2.2.2.1 y.2.2.2.2.1.1 y.2.2.2.2.1.2.1 y.2.2.2.2.1.2.2.1 y.2.2.2.2.1.2.2.2.1 y.2.2.2.2.1.2.2.2.2.1 y.2.2.2.2.2.1.1 y.2.2.2.2.2.1.2.1 y.2.2.2.2.2.1.2.2.1 y.2.2.2.2.2.2.1.1 (y.2.2.2.2.2.2.1.1.length:Int) y.2.2.2.2.2.2.1.2.2.1 0).bind λD=>match D with
   | .inl x=>(qK m m x.1 x.2.1 x.2.2.1 x.2.2.2.1 x.2.2.2.2.1.1 x.2.2.2.2.1.2.1 x.2.2.2.2.1.2.2.1 x.2.2.2.2.1.2.2.2.1 x.2.2.2.2.1.2.2.2.2.1 x.2.2.2.2.2.1.1 x.2.2.2.2.2.1.2.1 x.2.2.2.2.2.1.2.2.1 x.2.2.2.2.2.2.1.1 x.2.2.2.2.2.2.1.2.1 x.2.2.2.2.2.2.1.2.2.1 (x.2.2.2.2.2.2.1.1.length:Int) 0).bind λE=>match E with
    | .inl z=>(oB m m z.1 z.2.1 z.2.2.1 z.2.2.2.1.1 z.2.2.2.1.2.1 z.2.2.2.1.2.2.1 z.2.2.2.2.1.1 z.2.2.2.2.1.2.1 z.2.2.2.2.1.2.2.1 0).bind λF=>match F with
     | .inl A=>some ((A.2.2.1.1,A.2.2.1.2.1,A.2.2.1.2.2.1,()),((),(),(),(),A.1,()))
     | .inr e=>e.elim
    | .inr e=>e.elim
   | .inr e=>e.elim
  | .inr e=>e.elim else none
 | .inr e=>e.elim
def v9 (a:Bool) (b:Bool) (c:LI) (d:Int):Option lg:=(Mh m a b c d 0).bind λe=>some (e.1,Bv)
def kc:Nat->Int->LI->Int->dA->cW->Int->Option (YC⊕(cW×Unit)⊕Empty)
 |0,_,_,_,_,_,_=>none
 |n+1,a,b,c,d,f,h=>bif decide (h<(b.length:Int))then if 0<=h/\h<(d.length:Int)then if 0<=a/\a<((d.getD h.toNat ([]:List bF)).length:Int)then (v9 m ((d.getD h.toNat ([]:List bF)).getD a.toNat qz).1 ((d.getD h.toNat ([]:List bF)).getD a.toNat qz).2.1.1 ((d.getD h.toNat ([]:List bF)).getD a.toNat qz).2.1.2 ((d.getD h.toNat ([]:List bF)).getD a.toNat qz).2.2).bind λx=>(oI m x.1).bind λy=>bif !y.1 then some (.inl (([]:List bF),false,()))else (j6 m x.1).bind λg=>(Mn m g.1.1 g.1.2.1 g.1.2.2.1 g.1.2.2.2.1).bind λe=>if f.length+([(e.1.1,((e.1.2.1,e.1.2.2.1),e.1.2.2.2.1))]:List bF).length<=1073741824 then kc n a b c d (f++([(e.1.1,((e.1.2.1,e.1.2.2.1),e.1.2.2.2.1))]:List bF)) (wI (h+1))else none else none else none else some (.inr (.inl (f,())))
def wD (a:LI) (b:Int) (c:List cW) (d:Int):Option (YC×Unit×Unit×Unit):=(kc m m d a b c ([]:List bF) 0).bind λx=>match x with
 | .inl g=>some ((g.1,g.2.1,()),uX)
 | .inr (.inl y)=>some ((y.1,true,()),uX)
 | .inr (.inr e)=>e.elim
def rP (a:Bool) (b:LI) (c:Bool) (d:LI):Option jJ:=(wF m a b c d).bind λe=>(fU m e.1.1 e.1.2.1).bind λg=>some (g.1,uX)
def TL (a:Bool) (b:Bool) (c:LI) (d:Int) (f:Bool) (h:Bool) (i:LI) (j:Int):Option ((Int×Bool×Unit)×Unit×Unit×Unit):=(nI m a b c d).bind λe=>(nI m f h i j).bind λg=>bif e.1.1 then some ((0,false,()),uX)else bif g.1.1 then some ((0,false,()),uX)else (Ad m e.1.1 e.1.2.1 e.1.2.2.1 e.1.2.2.2.1 g.1.1 g.1.2.1 g.1.2.2.1 g.1.2.2.2.1).bind λx=>(rP m x.1.1.1 x.1.1.2.1 x.1.2.1.1 x.1.2.1.2.1).bind λy=>some ((y.1,true,()),uX)
def On (a:Bool) (b:Bool) (c:LI) (d:Int) (f:Bool) (h:Bool) (i:LI) (j:Int):Option vK:=(TL m a b c d f h i j).bind λe=>some (decide (e.1.1<0),uX)
def eT:Nat->cW->Int->Bool->Bool->LI->Int->Bool->Bool->LI->Int->Int->Int->Option ((lC×lC×Int×Unit)⊕Empty)
 |0,_,_,_,_,_,_,_,_,_,_,_,_=>none
 |n+1,a,b,c,d,f,h,i,j,k,l,o,p=>bif decide (p<(a.length:Int))then bif p !=b then bif decide (o<0)then if 0<=p/\p<(a.length:Int)then eT n a b c d f h (a.getD p.toNat qz).1 (a.getD p.toNat qz).2.1.1 (a.getD p.toNat qz).2.1.2 (a.getD p.toNat qz).2.2 p (wI (p+1))else none else if 0<=p/\p<(a.length:Int)then (On m i j k l (a.getD p.toNat qz).1 (a.getD p.toNat qz).2.1.1 (a.getD p.toNat qz).2.1.2 (a.getD p.toNat qz).2.2).bind λe=>bif e.1 then if 0<=p/\p<(a.length:Int)then eT n a b c d f h (a.getD p.toNat qz).1 (a.getD p.toNat qz).2.1.1 (a.getD p.toNat qz).2.1.2 (a.getD p.toNat qz).2.2 p (wI (p+1))else none else eT n a b c d f h i j k l o (wI (p+1))else none else eT n a b c d f h i j k l o (wI (p+1))else some (.inl ((c,d,f,h,()),(i,j,k,l,()),o,()))
def yY (a:List bF) (b:Int):Option ((lC×Int×Unit)×Unit×Unit×Unit):=(eT m m a b false false ([]:LI) 0 false false ([]:LI) 0 (-1) 0).bind λx=>match x with
 | .inl g=>some (((g.2.1.1,g.2.1.2.1,g.2.1.2.2.1,g.2.1.2.2.2.1,()),g.2.2.1,()),uX)
 | .inr e=>e.elim
def tW (a:Bool) (b:Bool) (c:LI) (d:Int):Option lg:=(nI m a b c d).bind λe=>bif e.1.1 then some (0,Bv)else (fU m e.1.2.1 e.1.2.2.1).bind λg=>some (g.1,Bv)
def nb (m:Nat):Nat->LI->LI->LI->Int->Int->Int->Option ((LI×LI×LI×Int×Int×Unit)⊕Empty)
 |0,_,_,_,_,_,_=>none
 |n+1,a,b,c,d,f,h=>bif decide (h<(b.length:Int))then if 0<=d/\d<(a.length:Int)then if 0<=h/\h<(b.length:Int)then if 0<=(wI (d+h))/\(wI (d+h))<(c.length:Int)then if 0<=(wI (d+h))/\(wI (d+h))<(c.length:Int)then nb m n a b (c.set (0+(wI (d+h)).toNat) (wK (wJ ((wJ (f+(wJ ((wJ (a.getD d.toNat 0))*(wJ (b.getD h.toNat 0))))))+(wJ (c.getD (0+(wI (d+h)).toNat) 0)))))) d (aK .u64 (wJ ((wJ (f+(wJ ((wJ (a.getD d.toNat 0))*(wJ (b.getD h.toNat 0))))))+(wJ (c.getD (0+(wI (d+h)).toNat) 0)))) 32) (wI (h+1))else none else none else none else none else some (.inl (a,b,c,d,f,()))
def nc:Nat->LI->LI->LI->Int->Option pG
 |0,_,_,_,_=>none
 |n+1,a,b,c,d=>bif decide (d<(a.length:Int))then (nb m m a b c d 0 0).bind λx=>match x with
   | .inl g=>if 0<=(wI (g.2.2.2.1+(g.2.1.length:Int)))/\(wI (g.2.2.2.1+(g.2.1.length:Int)))<(g.2.2.1.length:Int)then nc n g.1 g.2.1 (g.2.2.1.set (0+(wI (g.2.2.2.1+(g.2.1.length:Int))).toNat) (wK g.2.2.2.2.1)) (wI (g.2.2.2.1+1))else none
   | .inr e=>e.elim else some (.inl (c,()))
def Eb (a:LI) (b:LI):Option vL:=if 0<=(wI ((a.length:Int)+(b.length:Int)))/\(wI ((a.length:Int)+(b.length:Int)))<=(wI ((a.length:Int)+(b.length:Int)))/\(wI ((a.length:Int)+(b.length:Int)))<=1073741824 then (nc m m a b (List.replicate (wI ((a.length:Int)+(b.length:Int))).toNat (0:Int)) 0).bind λg=>match g with
 | .inl x=>some (x.1,uX)
 | .inr e=>e.elim else none
def JY (a:Bool) (b:LI) (c:Bool) (d:LI):Option wW:=(gx m b).bind λg=>(gx m d).bind λx=>(Eb m g.1 x.1).bind λy=>(fO m (!(a==c)) y.1).bind λe=>some ((e.1.1,e.1.2.1,()),uX)
def nN (a:Bool) (b:Bool) (c:LI) (d:Int) (f:Bool) (h:Bool) (i:LI) (j:Int):Option xu:=(nI m a b c d).bind λe=>(nI m f h i j).bind λg=>bif e.1.1 then (x7 m).bind λx=>some ((x.1.1,x.1.2.1,x.1.2.2.1,x.1.2.2.2.1,()),uX)else bif g.1.1 then (x7 m).bind λy=>some ((y.1.1,y.1.2.1,y.1.2.2.1,y.1.2.2.2.1,()),uX)else (JY m e.1.2.1 e.1.2.2.1 g.1.2.1 g.1.2.2.1).bind λA=>(vc m A.1.1 A.1.2.1 (wI (e.1.2.2.2.1+g.1.2.2.2.1))).bind λz=>some ((z.1.1,z.1.2.1,z.1.2.2.1,z.1.2.2.2.1,()),uX)
def wC (a:Bool) (b:Bool) (c:LI) (d:Int) (f:Bool) (h:Bool) (i:LI) (j:Int):Option vK:=(KZ m 64).bind λe=>(nN m e.1.1 e.1.2.1 e.1.2.2.1 e.1.2.2.2.1 a b c d).bind λg=>(KZ m 41).bind λx=>(nN m x.1.1 x.1.2.1 x.1.2.2.1 x.1.2.2.2.1 f h i j).bind λy=>(On m g.1.1 g.1.2.1 g.1.2.2.1 g.1.2.2.2.1 y.1.1 y.1.2.1 y.1.2.2.1 y.1.2.2.2.1).bind λz=>some (!z.1,uX)
def qH:Nat->LI->Int->dA->Int->Option (IL⊕Unit⊕Empty)
 |0,_,_,_,_=>none
 |n+1,a,b,c,d=>bif decide (d<b)then (wD m a b c d).bind λg=>bif !g.1.2.1 then some (.inl ([],false,()))else (yY m g.1.1 d).bind λe=>(tW m e.1.1.1 e.1.1.2.1 e.1.1.2.2.1 e.1.1.2.2.2.1).bind λC=>bif C.1==0 then some (.inl (([d]:LI),true,()))else if 0<=d/\d<(g.1.1.length:Int)then (wC m (g.1.1.getD d.toNat qz).1 (g.1.1.getD d.toNat qz).2.1.1 (g.1.1.getD d.toNat qz).2.1.2 (g.1.1.getD d.toNat qz).2.2 e.1.1.1 e.1.1.2.1 e.1.1.2.2.1 e.1.1.2.2.2.1).bind λD=>bif D.1 then some (.inl (([d]:LI),true,()))else bif decide (e.1.2.1>=b)then qH n a b c (wI (d+1))else (wD m a b c e.1.2.1).bind λy=>bif !y.1.2.1 then some (.inl ([],false,()))else (yY m y.1.1 e.1.2.1).bind λx=>if 0<=d/\d<(g.1.1.length:Int)then (nN m (g.1.1.getD d.toNat qz).1 (g.1.1.getD d.toNat qz).2.1.1 (g.1.1.getD d.toNat qz).2.1.2 (g.1.1.getD d.toNat qz).2.2 x.1.1.1 x.1.1.2.1 x.1.1.2.2.1 x.1.1.2.2.2.1).bind λz=>(nN m e.1.1.1 e.1.1.2.1 e.1.1.2.2.1 e.1.1.2.2.2.1 e.1.1.1 e.1.1.2.1 e.1.1.2.2.1 e.1.1.2.2.2.1).bind λA=>(wC m z.1.1 z.1.2.1 z.1.2.2.1 z.1.2.2.2.1 A.1.1 A.1.2.1 A.1.2.2.1 A.1.2.2.2.1).bind λE=>bif E.1 then some (.inl (([d]:LI),true,()))else if 0<=e.1.2.1/\e.1.2.1<(y.1.1.length:Int)then (wC m (y.1.1.getD e.1.2.1.toNat qz).1 (y.1.1.getD e.1.2.1.toNat qz).2.1.1 (y.1.1.getD e.1.2.1.toNat qz).2.1.2 (y.1.1.getD e.1.2.1.toNat qz).2.2 x.1.1.1 x.1.1.2.1 x.1.1.2.2.1 x.1.1.2.2.2.1).bind λB=>bif B.1 then some (.inl (([e.1.2.1]:LI),true,()))else some (.inl (([d,e.1.2.1]:LI),true,()))else none else none else none else some (.inr (.inl ()))
def TF (a:LI) (b:Int) (c:List cW):Option (IL×Unit×Unit):=(qH m m a b c 0).bind λx=>match x with
 | .inl g=>some ((g.1,g.2.1,()),Bv)
 | .inr (.inl y)=>some (([],true,()),Bv)
 | .inr (.inr e)=>e.elim
def j8:Nat->LI->LI->Int->dA->LI->Int->dA->LI->Int->dA->Int->cW->Int->Option ((LI×gY×gY×gY×Int×cW×Unit)⊕Empty)
 |0,_,_,_,_,_,_,_,_,_,_,_,_,_=>none
 |n+1,a,b,c,d,f,h,i,j,k,l,o,p,q=>bif decide (q<(b.length:Int))then (ke m a q).bind λe=>bif decide (e.1<0)then if 0<=o/\o<(d.length:Int)then if 0<=q/\q<((d.getD o.toNat ([]:List bF)).length:Int)then if p.length+([(((d.getD o.toNat ([]:List bF)).getD q.toNat qz).1,((((d.getD o.toNat ([]:List bF)).getD q.toNat qz).2.1.1,((d.getD o.toNat ([]:List bF)).getD q.toNat qz).2.1.2),((d.getD o.toNat ([]:List bF)).getD q.toNat qz).2.2))]:List bF).length<=1073741824 then j8 n a b c d f h i j k l o (p++([(((d.getD o.toNat ([]:List bF)).getD q.toNat qz).1,((((d.getD o.toNat ([]:List bF)).getD q.toNat qz).2.1.1,((d.getD o.toNat ([]:List bF)).getD q.toNat qz).2.1.2),((d.getD o.toNat ([]:List bF)).getD q.toNat qz).2.2))]:List bF)) (wI (q+1))else none else none else none else j8 n a b c d f h i j k l o p (wI (q+1))else some (.inl (a,(b,c,d,()),(f,h,i,()),(j,k,l,()),o,p,()))
def j9:Nat->LI->LI->Int->dA->LI->Int->dA->LI->Int->dA->Int->Option ((gY×gY×Unit)⊕Empty)
 |0,_,_,_,_,_,_,_,_,_,_,_=>none
 |n+1,a,b,c,d,f,h,i,j,k,l,o=>bif decide (o<(b.length:Int))then (ke m a o).bind λx=>bif decide (x.1>=0)then j9 n a b c d f h i j k l (wI (o+1))else if 0<=o/\o<(b.length:Int)then if j.length+([b.getD o.toNat 0]:LI).length<=1073741824 then (j8 m m a b c d f h i (j++([b.getD o.toNat 0]:LI)) k l o ([]:List bF) 0).bind λy=>match y with
    | .inl g=>if 0<([g.2.2.2.2.2.1]:List cW).length/\g.2.2.2.1.2.2.1.length+([g.2.2.2.2.2.1]:List cW).length<=1073741824 then j9 n g.1 g.2.1.1 g.2.1.2.1 g.2.1.2.2.1 g.2.2.1.1 g.2.2.1.2.1 g.2.2.1.2.2.1 g.2.2.2.1.1 g.2.2.2.1.2.1 (g.2.2.2.1.2.2.1++([g.2.2.2.2.2.1]:List cW)) (wI (g.2.2.2.2.1+1))else none
    | .inr e=>e.elim else none else none else some (.inl ((f,h,i,()),(j,k,l,()),()))
def DC (a:LI) (b:Int) (c:List cW) (d:LI):Option (gY×Unit×Unit×Unit):=(j9 m m d a b c ([]:LI) 0 ([]:List cW) ([]:LI) (wI (b-(d.length:Int))) ([]:List cW) 0).bind λx=>match x with
 | .inl g=>some ((g.2.1.1,g.2.1.2.1,g.2.1.2.2.1,()),uX)
 | .inr e=>e.elim
def FV (m:Nat) (a:Int):Option pF:=bif a==0 then some (true,Bv)else some (a==9223372036854775808,Bv)
def tl (a:Int):Option lg:=(wz m a).bind λe=>some (wI (32-e.1),Bv)
def jR (m:Nat):Nat->LI->Int->Int->LI->Int->Option pG
 |0,_,_,_,_,_=>none
 |n+1,a,b,c,d,f=>bif decide (f<=c)then if 0<=f/\f<(d.length:Int)then if 0<=(wI (f+b))/\(wI (f+b))<(a.length:Int)then jR m n (a.set (0+(wI (f+b)).toNat) (d.getD (0+f.toNat) 0)) b c d (wI (f+1))else none else none else some (.inl (a,()))
def iL (m:Nat):Nat->LI->LI->Int->Int->Int->LI->Int->Int->Int->Option ((LI×Int×Int×LI×Int×Unit)⊕Empty)
 |0,_,_,_,_,_,_,_,_,_=>none
 |n+1,a,b,c,d,f,h,i,j,k=>bif decide (k<=f)then bif decide (k<f)then if 0<=k/\k<(b.length:Int)then if 0<=(wI (k+c))/\(wI (k+c))<(a.length:Int)then if 0<=k/\k<(h.length:Int)then iL m n a b c d f (h.set (0+k.toNat) (wK (wJ ((wJ ((wJ (a.getD (0+(wI (k+c)).toNat) 0))-i))-(qp .u64 (wJ (j+(wJ (d*(wJ (b.getD k.toNat 0)))))) 4294967295))))) (aK .u64 (wJ ((wJ ((wJ (a.getD (0+(wI (k+c)).toNat) 0))-i))-(qp .u64 (wJ (j+(wJ (d*(wJ (b.getD k.toNat 0)))))) 4294967295))) 63) (aK .u64 (wJ (j+(wJ (d*(wJ (b.getD k.toNat 0)))))) 32) (wI (k+1))else none else none else none else if 0<=(wI (k+c))/\(wI (k+c))<(a.length:Int)then if 0<=k/\k<(h.length:Int)then iL m n a b c d f (h.set (0+k.toNat) (wK (wJ ((wJ ((wJ (a.getD (0+(wI (k+c)).toNat) 0))-i))-(qp .u64 j 4294967295))))) (aK .u64 (wJ ((wJ ((wJ (a.getD (0+(wI (k+c)).toNat) 0))-i))-(qp .u64 j 4294967295))) 63) (aK .u64 j 32) (wI (k+1))else none else none else some (.inl (a,c,f,h,i,()))
def wg (a:LI) (b:LI) (c:Int) (d:Int):Option (Bool×LI×Unit×Unit×Unit×Unit):=if 0<=(wI ((b.length:Int)+1))/\(wI ((b.length:Int)+1))<=(wI ((b.length:Int)+1))/\(wI ((b.length:Int)+1))<=1073741824 then (iL m m a b c d (b.length:Int) (List.replicate (wI ((b.length:Int)+1)).toNat (0:Int)) 0 0 0).bind λx=>match x with
 | .inl g=>bif g.2.2.2.2.1 !=0 then some (false,(g.1,(),(),(),()))else (jR m m g.1 g.2.1 g.2.2.1 g.2.2.2.1 0).bind λy=>match y with
   | .inl z=>some (true,(z.1,(),(),(),()))
   | .inr e=>e.elim
 | .inr e=>e.elim else none
def l9:Nat->Int->Int->LI->LI->LI->Int->Int->Option ((Int×Int×LI×LI×LI×Int×Int×Unit)⊕Empty)
 |0,_,_,_,_,_,_,_=>none
 |n+1,a,b,c,d,f,h,i=>(wg m c d h i).bind λe=>bif !e.1 then l9 n a b e.2.1 d f h (wJ (i-1))else some (.inl (a,b,e.2.1,d,f,h,i,()))
def iN:Nat->Int->Int->LI->LI->LI->Int->Option ((Int×LI×LI×Unit)⊕Empty)
 |0,_,_,_,_,_,_=>none
 |n+1,a,b,c,d,f,h=>bif decide (h>=0)then if 0<=(wI (h+a))/\(wI (h+a))<(c.length:Int)then if 0<=(wI ((wI (h+a))-1))/\(wI ((wI (h+a))-1))<(c.length:Int)then if 0<=(wI (a-1))/\(wI (a-1))<(d.length:Int)then if(wJ (d.getD (0+(wI (a-1)).toNat) 0))≠0 then (l9 m m a b c d f h (if 4294967295<(wJ (Int.tdiv (bf .u64 (bz .u64 (wJ (c.getD (0+(wI (h+a)).toNat) 0)) 32) (wJ (c.getD (0+(wI ((wI (h+a))-1)).toNat) 0))) (wJ (d.getD (0+(wI (a-1)).toNat) 0))))then 4294967295 else(wJ (Int.tdiv (bf .u64 (bz .u64 (wJ (c.getD (0+(wI (h+a)).toNat) 0)) 32) (wJ (c.getD (0+(wI ((wI (h+a))-1)).toNat) 0))) (wJ (d.getD (0+(wI (a-1)).toNat) 0)))))).bind λx=>match x with
   | .inl g=>if 0<=g.2.2.2.2.2.1/\g.2.2.2.2.2.1<(g.2.2.2.2.1.length:Int)then iN n g.1 g.2.1 g.2.2.1 g.2.2.2.1 (g.2.2.2.2.1.set (0+g.2.2.2.2.2.1.toNat) (wK g.2.2.2.2.2.2.1)) (wI (g.2.2.2.2.2.1-1))else none
   | .inr e=>e.elim else none else none else none else none else some (.inl (b,c,f,()))
def yi (a:LI) (b:LI):Option X1:=(Ab m a b).bind λH=>bif decide (H.1<0)then some (([],a,()),uX)else if 0<=(wI ((b.length:Int)-1))/\(wI ((b.length:Int)-1))<(b.length:Int)then (tl m (b.getD (wI ((b.length:Int)-1)).toNat 0)).bind λx=>(pk m a x.1).bind λy=>(pk m b x.1).bind λz=>if(0:Int)<=0/\0<=(b.length:Int)/\(b.length:Int)<=(z.1.length:Int)then bif (y.1.length:Int)==(a.length:Int)then if y.1.length+([0]:LI).length<=1073741824 then if 0<=(wI ((wI ((a.length:Int)-(b.length:Int)))+1))/\(wI ((wI ((a.length:Int)-(b.length:Int)))+1))<=(wI ((wI ((a.length:Int)-(b.length:Int)))+1))/\(wI ((wI ((a.length:Int)-(b.length:Int)))+1))<=1073741824 then (iN m m (b.length:Int) x.1 (y.1++([0]:LI)) (z.1.take (b.length:Int).toNat) (List.replicate (wI ((wI ((a.length:Int)-(b.length:Int)))+1)).toNat (0:Int)) (wI ((a.length:Int)-(b.length:Int)))).bind λI=>match I with
   | .inl A=>(gx m A.2.1).bind λJ=>(rR m J.1 A.1).bind λK=>(gx m A.2.2.1).bind λL=>(gx m K.1.1).bind λB=>some ((L.1,B.1,()),uX)
   | .inr e=>e.elim else none else none else if 0<=(wI ((wI ((a.length:Int)-(b.length:Int)))+1))/\(wI ((wI ((a.length:Int)-(b.length:Int)))+1))<=(wI ((wI ((a.length:Int)-(b.length:Int)))+1))/\(wI ((wI ((a.length:Int)-(b.length:Int)))+1))<=1073741824 then (iN m m (b.length:Int) x.1 y.1 (z.1.take (b.length:Int).toNat) (List.replicate (wI ((wI ((a.length:Int)-(b.length:Int)))+1)).toNat (0:Int)) (wI ((a.length:Int)-(b.length:Int)))).bind λC=>match C with
   | .inl g=>(gx m g.2.1).bind λD=>(rR m D.1 g.1).bind λE=>(gx m g.2.2.1).bind λF=>(gx m E.1.1).bind λG=>some ((F.1,G.1,()),uX)
   | .inr e=>e.elim else none else none else none
def tD (a:Bool) (b:LI) (c:Bool) (d:LI):Option ((nE×nE×Unit)×Unit×Unit×Unit):=(nO m a b).bind λC=>(nO m c d).bind λx=>(yi m C.1.2.1 x.1.2.1).bind λD=>(fO m (!(C.1.1==x.1.1)) D.1.1).bind λe=>(fO m C.1.1 D.1.2.1).bind λg=>(fU m g.1.1 g.1.2.1).bind λG=>bif decide (G.1<0)then (BK m x.1.1 x.1.2.1).bind λE=>(fN m g.1.1 g.1.2.1 E.1.1 E.1.2.1).bind λB=>bif x.1.1 then (gq m 1).bind λF=>(fN m e.1.1 e.1.2.1 F.1.1 F.1.2.1).bind λy=>some (((y.1.1,y.1.2.1,()),(B.1.1,B.1.2.1,()),()),uX)else (gq m 1).bind λz=>(wF m e.1.1 e.1.2.1 z.1.1 z.1.2.1).bind λA=>some (((A.1.1,A.1.2.1,()),(B.1.1,B.1.2.1,()),()),uX)else some (((e.1.1,e.1.2.1,()),(g.1.1,g.1.2.1,()),()),uX)
def DX (a:Bool) (b:LI) (c:Bool) (d:LI) (f:Int):Option YM:=(pn m c d).bind λe=>(pn m a b).bind λg=>(o8 m a b (if 0>(wI ((wI ((wI (f+2))+e.1))-g.1))then 0 else(wI ((wI ((wI (f+2))+e.1))-g.1)))).bind λy=>(tD m y.1.1 y.1.2.1 c d).bind λx=>(fU m x.1.2.1.1 x.1.2.1.2.1).bind λz=>some (((x.1.1.1,x.1.1.2.1,()),wI (0-(if 0>(wI ((wI ((wI (f+2))+e.1))-g.1))then 0 else(wI ((wI ((wI (f+2))+e.1))-g.1)))),z.1 !=0,()),Dv)
def TK (a:Bool) (b:Bool) (c:LI) (d:Int) (f:Bool) (h:Bool) (i:LI) (j:Int) (k:Int):Option MN:=(nI m a b c d).bind λe=>(nI m f h i j).bind λg=>bif e.1.1 then some (9221120237041090560,Dv)else bif g.1.1 then some (9221120237041090560,Dv)else (fU m g.1.2.1 g.1.2.2.1).bind λA=>bif A.1==0 then some (9221120237041090560,Dv)else (fU m e.1.2.1 e.1.2.2.1).bind λB=>bif B.1==0 then some (0,Dv)else (BK m e.1.2.1 e.1.2.2.1).bind λy=>(BK m g.1.2.1 g.1.2.2.1).bind λz=>(DX m y.1.1 y.1.2.1 z.1.1 z.1.2.1 60).bind λx=>(wE m (!(e.1.2.1==g.1.2.1)) x.1.1.1 x.1.1.2.1 (wI ((wI (e.1.2.2.2.1-g.1.2.2.2.1))+x.1.2.1)) x.1.2.2.1 k).bind λC=>some (C.1,Dv)
def np (a:Bool) (b:Bool) (c:LI) (d:Int) (f:Bool) (h:Bool) (i:LI) (j:Int):Option jJ:=(TK m a b c d f h i j 0).bind λe=>some (e.1,uX)
def Ov (a:Bool) (b:Bool) (c:LI) (d:Int):Option wX:=(nI m a b c d).bind λe=>bif e.1.1 then some ((e.1.1,e.1.2.1,e.1.2.2.1,e.1.2.2.2.1,()),Bv)else (Ac m e.1.2.1 e.1.2.2.1).bind λx=>(vc m x.1.1 x.1.2.1 e.1.2.2.2.1).bind λg=>some ((g.1.1,g.1.2.1,g.1.2.2.1,g.1.2.2.2.1,()),Bv)
def Ba (a:Bool) (b:Bool) (c:LI) (d:Int) (f:Bool) (h:Bool) (i:LI) (j:Int):Option xu:=(Ov m f h i j).bind λe=>(A9 m a b c d e.1.1 e.1.2.1 e.1.2.2.1 e.1.2.2.2.1).bind λg=>some ((g.1.1,g.1.2.1,g.1.2.2.1,g.1.2.2.2.1,()),uX)
def jy (a:Int) (b:Int):Option xu:=(j6 m a).bind λe=>(j6 m b).bind λg=>(nN m e.1.1 e.1.2.1 e.1.2.2.1 e.1.2.2.2.1 g.1.1 g.1.2.1 g.1.2.2.1 g.1.2.2.2.1).bind λx=>some ((x.1.1,x.1.2.1,x.1.2.2.1,x.1.2.2.2.1,()),uX)
def nP (a:LI):Option wX:=if(0:Int)<=0/\0<(a.length:Int)then if(0:Int)<=2/\2<(a.length:Int)then (jy m (a.getD 0 0) (a.getD 2 0)).bind λe=>if(0:Int)<=1/\1<(a.length:Int)then if(0:Int)<=1/\1<(a.length:Int)then (jy m (a.getD 1 0) (a.getD 1 0)).bind λg=>(Ba m e.1.1 e.1.2.1 e.1.2.2.1 e.1.2.2.2.1 g.1.1 g.1.2.1 g.1.2.2.1 g.1.2.2.2.1).bind λx=>some ((x.1.1,x.1.2.1,x.1.2.2.1,x.1.2.2.2.1,()),Bv)else none else none else none else none
def yV (a:LI) (b:LI) (c:LI) (d:List LI) (f:LI) (h:Int) (i:List cW) (j:LI) (k:Int):Option XZ:=if 0<=k/\k<(i.length:Int)then if(0:Int)<=0/\0<(j.length:Int)then if 0<=(j.getD 0 0)/\(j.getD 0 0)<((i.getD k.toNat ([]:List bF)).length:Int)then bif (j.length:Int)==1 then if(0:Int)<=0/\0<(b.length:Int)then (FV m (b.getD 0 0)).bind λJ=>bif J.1 then some (([0]:LI),Ue1)else if(0:Int)<=0/\0<(b.length:Int)then (j6 m (b.getD 0 0)).bind λB=>(np m ((i.getD k.toNat ([]:List bF)).getD (j.getD 0 0).toNat qz).1 ((i.getD k.toNat ([]:List bF)).getD (j.getD 0 0).toNat qz).2.1.1 ((i.getD k.toNat ([]:List bF)).getD (j.getD 0 0).toNat qz).2.1.2 ((i.getD k.toNat ([]:List bF)).getD (j.getD 0 0).toNat qz).2.2 B.1.1 B.1.2.1 B.1.2.2.1 B.1.2.2.2.1).bind λK=>some (([K.1]:LI),Ue1)else none else none else if 0<=k/\k<(i.length:Int)then if(0:Int)<=1/\1<(j.length:Int)then if 0<=(j.getD 1 0)/\(j.getD 1 0)<((i.getD k.toNat ([]:List bF)).length:Int)then if(0:Int)<=0/\0<(b.length:Int)then (j6 m (b.getD 0 0)).bind λC=>if(0:Int)<=1/\1<(b.length:Int)then (j6 m (b.getD 1 0)).bind λA=>if(0:Int)<=2/\2<(b.length:Int)then (j6 m (b.getD 2 0)).bind λD=>(nN m ((i.getD k.toNat ([]:List bF)).getD (j.getD 0 0).toNat qz).1 ((i.getD k.toNat ([]:List bF)).getD (j.getD 0 0).toNat qz).2.1.1 ((i.getD k.toNat ([]:List bF)).getD (j.getD 0 0).toNat qz).2.1.2 ((i.getD k.toNat ([]:List bF)).getD (j.getD 0 0).toNat qz).2.2 D.1.1 D.1.2.1 D.1.2.2.1 D.1.2.2.2.1).bind λE=>(nN m ((i.getD k.toNat ([]:List bF)).getD (j.getD 1 0).toNat qz).1 ((i.getD k.toNat ([]:List bF)).getD (j.getD 1 0).toNat qz).2.1.1 ((i.getD k.toNat ([]:List bF)).getD (j.getD 1 0).toNat qz).2.1.2 ((i.getD k.toNat ([]:List bF)).getD (j.getD 1 0).toNat qz).2.2 A.1.1 A.1.2.1 A.1.2.2.1 A.1.2.2.2.1).bind λF=>(Ba m E.1.1 E.1.2.1 E.1.2.2.1 E.1.2.2.2.1 F.1.1 F.1.2.1 F.1.2.2.1 F.1.2.2.2.1).bind λG=>(nN m ((i.getD k.toNat ([]:List bF)).getD (j.getD 1 0).toNat qz).1 ((i.getD k.toNat ([]:List bF)).getD (j.getD 1 0).toNat qz).2.1.1 ((i.getD k.toNat ([]:List bF)).getD (j.getD 1 0).toNat qz).2.1.2 ((i.getD k.toNat ([]:List bF)).getD (j.getD 1 0).toNat qz).2.2 C.1.1 C.1.2.1 C.1.2.2.1 C.1.2.2.2.1).bind λe=>(nN m ((i.getD k.toNat ([]:List bF)).getD (j.getD 0 0).toNat qz).1 ((i.getD k.toNat ([]:List bF)).getD (j.getD 0 0).toNat qz).2.1.1 ((i.getD k.toNat ([]:List bF)).getD (j.getD 0 0).toNat qz).2.1.2 ((i.getD k.toNat ([]:List bF)).getD (j.getD 0 0).toNat qz).2.2 A.1.1 A.1.2.1 A.1.2.2.1 A.1.2.2.2.1).bind λg=>(Ba m e.1.1 e.1.2.1 e.1.2.2.1 e.1.2.2.2.1 g.1.1 g.1.2.1 g.1.2.2.1 g.1.2.2.2.1).bind λx=>(nP m b).bind λy=>(np m G.1.1 G.1.2.1 G.1.2.2.1 G.1.2.2.2.1 y.1.1 y.1.2.1 y.1.2.2.1 y.1.2.2.2.1).bind λH=>(nP m b).bind λz=>(np m x.1.1 x.1.2.1 x.1.2.2.1 x.1.2.2.2.1 z.1.1 z.1.2.1 z.1.2.2.1 z.1.2.2.2.1).bind λI=>some (([H.1,I.1]:LI),Ue1)else none else none else none else none else none else none else none else none else none
def Dz (a:LI) (b:LI) (c:LI) (d:List LI) (f:Int) (h:Int):Option (lC×Unit×Unit×Unit×Unit):=if(0:Int)<=0/\0<(d.length:Int)then if 0<=f/\f<((d.getD 0 ([]:LI)).length:Int)then (j6 m ((d.getD 0 ([]:LI)).getD f.toNat 0)).bind λE=>if(0:Int)<=0/\0<(d.length:Int)then if 0<=h/\h<((d.getD 0 ([]:LI)).length:Int)then (j6 m ((d.getD 0 ([]:LI)).getD h.toNat 0)).bind λF=>if(0:Int)<=0/\0<(b.length:Int)then (j6 m (b.getD 0 0)).bind λK=>(nN m E.1.1 E.1.2.1 E.1.2.2.1 E.1.2.2.2.1 K.1.1 K.1.2.1 K.1.2.2.1 K.1.2.2.2.1).bind λL=>(nN m L.1.1 L.1.2.1 L.1.2.2.1 L.1.2.2.2.1 F.1.1 F.1.2.1 F.1.2.2.1 F.1.2.2.2.1).bind λG=>bif (a.length:Int)==2 then if(0:Int)<=1/\1<(d.length:Int)then if 0<=f/\f<((d.getD 1 ([]:LI)).length:Int)then (j6 m ((d.getD 1 ([]:LI)).getD f.toNat 0)).bind λH=>if(0:Int)<=1/\1<(d.length:Int)then if 0<=h/\h<((d.getD 1 ([]:LI)).length:Int)then (j6 m ((d.getD 1 ([]:LI)).getD h.toNat 0)).bind λI=>if(0:Int)<=1/\1<(b.length:Int)then (j6 m (b.getD 1 0)).bind λJ=>if(0:Int)<=2/\2<(b.length:Int)then (j6 m (b.getD 2 0)).bind λM=>(nN m E.1.1 E.1.2.1 E.1.2.2.1 E.1.2.2.2.1 J.1.1 J.1.2.1 J.1.2.2.1 J.1.2.2.2.1).bind λe=>(nN m e.1.1 e.1.2.1 e.1.2.2.1 e.1.2.2.2.1 I.1.1 I.1.2.1 I.1.2.2.1 I.1.2.2.2.1).bind λg=>(A9 m G.1.1 G.1.2.1 G.1.2.2.1 G.1.2.2.2.1 g.1.1 g.1.2.1 g.1.2.2.1 g.1.2.2.2.1).bind λx=>(nN m H.1.1 H.1.2.1 H.1.2.2.1 H.1.2.2.2.1 J.1.1 J.1.2.1 J.1.2.2.1 J.1.2.2.2.1).bind λy=>(nN m y.1.1 y.1.2.1 y.1.2.2.1 y.1.2.2.2.1 F.1.1 F.1.2.1 F.1.2.2.1 F.1.2.2.2.1).bind λz=>(A9 m x.1.1 x.1.2.1 x.1.2.2.1 x.1.2.2.2.1 z.1.1 z.1.2.1 z.1.2.2.1 z.1.2.2.2.1).bind λA=>(nN m H.1.1 H.1.2.1 H.1.2.2.1 H.1.2.2.2.1 M.1.1 M.1.2.1 M.1.2.2.1 M.1.2.2.2.1).bind λB=>(nN m B.1.1 B.1.2.1 B.1.2.2.1 B.1.2.2.2.1 I.1.1 I.1.2.1 I.1.2.2.1 I.1.2.2.2.1).bind λC=>(A9 m A.1.1 A.1.2.1 A.1.2.2.1 A.1.2.2.2.1 C.1.1 C.1.2.1 C.1.2.2.1 C.1.2.2.2.1).bind λD=>some ((D.1.1,D.1.2.1,D.1.2.2.1,D.1.2.2.2.1,()),Dv)else none else none else none else none else none else none else some ((G.1.1,G.1.2.1,G.1.2.2.1,G.1.2.2.2.1,()),Dv)else none else none else none else none else none
def qF:Nat->LI->Int->dA->LI->LI->LI->List LI->LI->Int->dA->LI->LI->LI->List LI->Int->Int->Option ((gY×Bl×gY×Bl×Int×Unit)⊕Empty)
 |0,_,_,_,_,_,_,_,_,_,_,_,_,_,_,_,_=>none
 |n+1,a,b,c,d,f,h,i,j,k,l,o,p,q,r,s,t=>bif decide (t<(j.length:Int))then if 0<=s/\s<(l.length:Int)then if 0<=s/\s<(l.length:Int)then if 0<=t/\t<((l.getD s.toNat ([]:List bF)).length:Int)then (Dz m o p q r s t).bind λe=>(Ba m ((l.getD s.toNat ([]:List bF)).getD t.toNat qz).1 ((l.getD s.toNat ([]:List bF)).getD t.toNat qz).2.1.1 ((l.getD s.toNat ([]:List bF)).getD t.toNat qz).2.1.2 ((l.getD s.toNat ([]:List bF)).getD t.toNat qz).2.2 e.1.1 e.1.2.1 e.1.2.2.1 e.1.2.2.2.1).bind λg=>if 0<=t/\t<((l.getD s.toNat ([]:List bF)).length:Int)then qF n a b c d f h i j k (l.set s.toNat ((l.getD s.toNat ([]:List bF)).set t.toNat (g.1.1,((g.1.2.1,g.1.2.2.1),g.1.2.2.2.1)))) o p q r s (wI (t+1))else none else none else none else none else some (.inl ((a,b,c,()),(d,f,h,i,()),(j,k,l,()),(o,p,q,r,()),s,()))
def lR:Nat->LI->Int->dA->LI->LI->LI->List LI->LI->Int->dA->LI->LI->LI->List LI->Int->Option (tH⊕Empty)
 |0,_,_,_,_,_,_,_,_,_,_,_,_,_,_,_=>none
 |n+1,a,b,c,d,f,h,i,j,k,l,o,p,q,r,s=>bif decide (s<(j.length:Int))then (qF m m a b c d f h i j k l o p q r s 0).bind λx=>match x with
   | .inl g=>lR n g.1.1 g.1.2.1 g.1.2.2.1 g.2.1.1 g.2.1.2.1 g.2.1.2.2.1 g.2.1.2.2.2.1 g.2.2.1.1 g.2.2.1.2.1 g.2.2.1.2.2.1 g.2.2.2.1.1 g.2.2.2.1.2.1 g.2.2.2.1.2.2.1 g.2.2.2.1.2.2.2.1 (wI (g.2.2.2.2.1+1))
   | .inr e=>e.elim else some (.inl ((a,b,c,()),(d,f,h,i,()),(j,k,l,()),(o,p,q,r,()),()))
def oA:Nat->LI->LI->Int->dA->LI->Int->dA->LI->LI->LI->List LI->LI->Int->dA->LI->LI->LI->List LI->Int->LI->Int->Option (tJ⊕(LI×gY×gY×Bl×gY×Bl×Int×Unit)⊕Empty)
 |0,_,_,_,_,_,_,_,_,_,_,_,_,_,_,_,_,_,_,_,_,_=>none
 |n+1,a,b,c,d,f,h,i,j,k,l,o,p,q,r,s,t,u,v,w,g,e=>bif decide (e<(g.length:Int))then if 0<=e/\e<(g.length:Int)then (oI m (g.getD (0+e.toNat) 0)).bind λx=>bif !x.1 then some (.inl ((p,q,r,()),(s,t,u,v,()),false,()))else if 0<=e/\e<(v.length:Int)then if 0<=e/\e<(g.length:Int)then if(v.getD e.toNat ([]:LI)).length+([g.getD (0+e.toNat) 0]:LI).length<=1073741824 then if 0<=e/\e<(v.length:Int)then if e.toNat=e.toNat then oA n a b c d f h i j k l o p q r s t u (v.set e.toNat ((v.getD e.toNat ([]:LI))++([g.getD (0+e.toNat) 0]:LI))) w g (wI (e+1))else none else none else none else none else none else none else some (.inr (.inl (a,(b,c,d,()),(f,h,i,()),(j,k,l,o,()),(p,q,r,()),(s,t,u,v,()),w,())))
def iv:Nat->LI->LI->Int->dA->LI->Int->dA->LI->LI->LI->List LI->LI->Int->dA->LI->LI->LI->List LI->Int->Option (tJ⊕tH⊕Empty)
 |0,_,_,_,_,_,_,_,_,_,_,_,_,_,_,_,_,_,_,_=>none
 |n+1,a,b,c,d,f,h,i,j,k,l,o,p,q,r,s,t,u,v,w=>bif decide (w<(b.length:Int))then (ke m a w).bind λy=>bif decide (y.1>=0)then iv n a b c d f h i j k l o p q r s t u v (wI (w+1))else (yV m s t u v b c d a w).bind λz=>(oA m m a b c d f h i j k l o p q r s t u v w z.1 0).bind λA=>match A with
    | .inl x=>some (.inl ((x.1.1,x.1.2.1,x.1.2.2.1,()),(x.2.1.1,x.2.1.2.1,x.2.1.2.2.1,x.2.1.2.2.2.1,()),x.2.2.1,()))
    | .inr (.inl g)=>iv n g.1 g.2.1.1 g.2.1.2.1 g.2.1.2.2.1 g.2.2.1.1 g.2.2.1.2.1 g.2.2.1.2.2.1 g.2.2.2.1.1 g.2.2.2.1.2.1 g.2.2.2.1.2.2.1 g.2.2.2.1.2.2.2.1 g.2.2.2.2.1.1 g.2.2.2.2.1.2.1 g.2.2.2.2.1.2.2.1 g.2.2.2.2.2.1.1 g.2.2.2.2.2.1.2.1 g.2.2.2.2.2.1.2.2.1 g.2.2.2.2.2.1.2.2.2.1 (wI (g.2.2.2.2.2.2.1+1))
    | .inr (.inr e)=>e.elim else some (.inr (.inl ((f,h,i,()),(j,k,l,o,()),(p,q,r,()),(s,t,u,v,()),())))
def qG (m:Nat):Nat->LI->LI->Int->dA->LI->Int->dA->LI->LI->LI->List LI->LI->Int->dA->LI->LI->LI->List LI->Int->Option ((LI×gY×gY×Bl×gY×Bl×Unit)⊕Empty)
 |0,_,_,_,_,_,_,_,_,_,_,_,_,_,_,_,_,_,_,_=>none
 |n+1,a,b,c,d,f,h,i,j,k,l,o,p,q,r,s,t,u,v,w=>bif decide (w<(a.length:Int))then if 0<=w/\w<(a.length:Int)then if 0<=(a.getD w.toNat 0)/\(a.getD w.toNat 0)<(b.length:Int)then if s.length+([b.getD (a.getD w.toNat 0).toNat 0]:LI).length<=1073741824 then if 0<([[]]:List LI).length/\v.length+([[]]:List LI).length<=1073741824 then qG m n a b c d f h i j k l o p q r (s++([b.getD (a.getD w.toNat 0).toNat 0]:LI)) t u (v++([[]]:List LI)) (wI (w+1))else none else none else none else none else some (.inl (a,(b,c,d,()),(f,h,i,()),(j,k,l,o,()),(p,q,r,()),(s,t,u,v,()),()))
def Od (a:LI) (b:Int) (c:List cW) (d:LI):Option (tJ×Unit×Unit×Unit):=(DC m a b c d).bind λD=>(qG m m d a b c ([]:LI) 0 ([]:List cW) ([]:LI) ([]:LI) ([]:LI) ([]:List LI) D.1.1 D.1.2.1 D.1.2.2.1 ([]:LI) ([]:LI) D.1.1 ([]:List LI) 0).bind λK=>match K with
 | .inl g=>if(0:Int)<=0/\0<(g.1.length:Int)then if 0<=(g.1.getD 0 0)/\(g.1.getD 0 0)<(g.2.1.2.2.1.length:Int)then if(0:Int)<=0/\0<(g.1.length:Int)then if 0<=(g.1.getD 0 0)/\(g.1.getD 0 0)<((g.2.1.2.2.1.getD (g.1.getD 0 0).toNat ([]:List bF)).length:Int)then (v9 m ((g.2.1.2.2.1.getD (g.1.getD 0 0).toNat ([]:List bF)).getD (g.1.getD 0 0).toNat qz).1 ((g.2.1.2.2.1.getD (g.1.getD 0 0).toNat ([]:List bF)).getD (g.1.getD 0 0).toNat qz).2.1.1 ((g.2.1.2.2.1.getD (g.1.getD 0 0).toNat ([]:List bF)).getD (g.1.getD 0 0).toNat qz).2.1.2 ((g.2.1.2.2.1.getD (g.1.getD 0 0).toNat ([]:List bF)).getD (g.1.getD 0 0).toNat qz).2.2).bind λE=>bif (g.1.length:Int)==2 then if(0:Int)<=1/\1<(g.1.length:Int)then if 0<=(g.1.getD 1 0)/\(g.1.getD 1 0)<(g.2.1.2.2.1.length:Int)then if(0:Int)<=0/\0<(g.1.length:Int)then if 0<=(g.1.getD 0 0)/\(g.1.getD 0 0)<((g.2.1.2.2.1.getD (g.1.getD 1 0).toNat ([]:List bF)).length:Int)then (v9 m ((g.2.1.2.2.1.getD (g.1.getD 1 0).toNat ([]:List bF)).getD (g.1.getD 0 0).toNat qz).1 ((g.2.1.2.2.1.getD (g.1.getD 1 0).toNat ([]:List bF)).getD (g.1.getD 0 0).toNat qz).2.1.1 ((g.2.1.2.2.1.getD (g.1.getD 1 0).toNat ([]:List bF)).getD (g.1.getD 0 0).toNat qz).2.1.2 ((g.2.1.2.2.1.getD (g.1.getD 1 0).toNat ([]:List bF)).getD (g.1.getD 0 0).toNat qz).2.2).bind λI=>if(0:Int)<=1/\1<(g.1.length:Int)then if 0<=(g.1.getD 1 0)/\(g.1.getD 1 0)<(g.2.1.2.2.1.length:Int)then if(0:Int)<=1/\1<(g.1.length:Int)then if 0<=(g.1.getD 1 0)/\(g.1.getD 1 0)<((g.2.1.2.2.1.getD (g.1.getD 1 0).toNat ([]:List bF)).length:Int)then (v9 m ((g.2.1.2.2.1.getD (g.1.getD 1 0).toNat ([]:List bF)).getD (g.1.getD 1 0).toNat qz).1 ((g.2.1.2.2.1.getD (g.1.getD 1 0).toNat ([]:List bF)).getD (g.1.getD 1 0).toNat qz).2.1.1 ((g.2.1.2.2.1.getD (g.1.getD 1 0).toNat ([]:List bF)).getD (g.1.getD 1 0).toNat qz).2.1.2 ((g.2.1.2.2.1.getD (g.1.getD 1 0).toNat ([]:List bF)).getD (g.1.getD 1 0).toNat qz).2.2).bind λJ=>if([E.1]:LI).length+([I.1,J.1]:LI).length<=1073741824 then (iv m m g.1 g.2.1.1 g.2.1.2.1 g.2.1.2.2.1 g.2.2.1.1 g.2.2.1.2.1 g.2.2.1.2.2.1 g.2.2.2.1.1 g.2.2.2.1.2.1 g.2.2.2.1.2.2.1 g.2.2.2.1.2.2.2.1 g.2.2.2.2.1.1 g.2.2.2.2.1.2.1 g.2.2.2.2.1.2.2.1 g.2.2.2.2.2.1.1 (([E.1]:LI)++([I.1,J.1]:LI)) g.2.2.2.2.2.1.2.2.1 g.2.2.2.2.2.1.2.2.2.1 0).bind λL=>match L with
   | .inl C=>some (((C.1.1,C.1.2.1,C.1.2.2.1,()),(C.2.1.1,C.2.1.2.1,C.2.1.2.2.1,C.2.1.2.2.2.1,()),C.2.2.1,()),uX)
   | .inr (.inl B)=>(lR m m B.1.1 B.1.2.1 B.1.2.2.1 B.2.1.1 B.2.1.2.1 B.2.1.2.2.1 B.2.1.2.2.2.1 B.2.2.1.1 B.2.2.1.2.1 B.2.2.1.2.2.1 B.2.2.2.1.1 B.2.2.2.1.2.1 B.2.2.2.1.2.2.1 B.2.2.2.1.2.2.2.1 0).bind λF=>match F with
    | .inl z=>some (((z.2.2.1.1,z.2.2.1.2.1,z.2.2.1.2.2.1,()),(z.2.2.2.1.1,z.2.2.2.1.2.1,z.2.2.2.1.2.2.1,z.2.2.2.1.2.2.2.1,()),true,()),uX)
    | .inr e=>e.elim
   | .inr (.inr e)=>e.elim else none else none else none else none else none else none else none else none else none else (iv m m g.1 g.2.1.1 g.2.1.2.1 g.2.1.2.2.1 g.2.2.1.1 g.2.2.1.2.1 g.2.2.1.2.2.1 g.2.2.2.1.1 g.2.2.2.1.2.1 g.2.2.2.1.2.2.1 g.2.2.2.1.2.2.2.1 g.2.2.2.2.1.1 g.2.2.2.2.1.2.1 g.2.2.2.2.1.2.2.1 g.2.2.2.2.2.1.1 ([E.1]:LI) g.2.2.2.2.2.1.2.2.1 g.2.2.2.2.2.1.2.2.2.1 0).bind λG=>match G with
   | .inl y=>some (((y.1.1,y.1.2.1,y.1.2.2.1,()),(y.2.1.1,y.2.1.2.1,y.2.1.2.2.1,y.2.1.2.2.2.1,()),y.2.2.1,()),uX)
   | .inr (.inl x)=>(lR m m x.1.1 x.1.2.1 x.1.2.2.1 x.2.1.1 x.2.1.2.1 x.2.1.2.2.1 x.2.1.2.2.2.1 x.2.2.1.1 x.2.2.1.2.1 x.2.2.1.2.2.1 x.2.2.2.1.1 x.2.2.2.1.2.1 x.2.2.2.1.2.2.1 x.2.2.2.1.2.2.2.1 0).bind λH=>match H with
    | .inl A=>some (((A.2.2.1.1,A.2.2.1.2.1,A.2.2.1.2.2.1,()),(A.2.2.2.1.1,A.2.2.2.1.2.1,A.2.2.2.1.2.2.1,A.2.2.2.1.2.2.2.1,()),true,()),uX)
    | .inr e=>e.elim
   | .inr (.inr e)=>e.elim else none else none else none else none
 | .inr e=>e.elim
def qv (m:Nat):Nat->sY->LI->LI->LI->LI->LI->LI->Int->LI->LI->LI->LI->LI->LI->LI->Int->Int->Int->LI->LI->Int->Int->Int->Option ((sY×gO×LI×gO×Int×Int×LI×LI×Int×Int×Int×Unit)⊕Empty)
 |0,_,_,_,_,_,_,_,_,_,_,_,_,_,_,_,_,_,_,_,_,_,_,_=>none
 |n+1,a,b,c,d,f,h,i,j,k,l,o,p,q,r,s,t,u,v,w,x,y,g,e=>bif decide (e<(w.length:Int))then if 0<=e/\e<(w.length:Int)then bif decide ((w.getD (0+e.toNat) 0)<g)then qv m n a b c d f h i j k l o p q r s t u v w x y g (wI (e+1))else some (.inl (a,(b,c,d,f,h,i,j,()),k,(l,o,p,q,r,s,t,()),u,v,w,x,y,g,e,()))else none else some (.inl (a,(b,c,d,f,h,i,j,()),k,(l,o,p,q,r,s,t,()),u,v,w,x,y,g,e,()))
def qA:Nat->sY->LI->LI->LI->LI->LI->LI->Int->LI->LI->LI->LI->LI->LI->LI->Int->Int->Int->LI->LI->Int->Option ((sY×gO×LI×gO×Int×Int×LI×LI×Unit)⊕Empty)
 |0,_,_,_,_,_,_,_,_,_,_,_,_,_,_,_,_,_,_,_,_,_=>none
 |n+1,a,b,c,d,f,h,i,j,k,l,o,p,q,r,s,t,u,v,w,y,x=>if 0<=u/\u<(a.length:Int)then bif decide (x<((a.getD u.toNat ([],([],([],([]:List LI))))).2.2.1.length:Int))then if 0<=u/\u<(a.length:Int)then if 0<=x/\x<((a.getD u.toNat ([],([],([],([]:List LI))))).2.2.1.length:Int)then if 0<=((a.getD u.toNat ([],([],([],([]:List LI))))).2.2.1.getD x.toNat 0)/\((a.getD u.toNat ([],([],([],([]:List LI))))).2.2.1.getD x.toNat 0)<(k.length:Int)then (qv m m a b c d f h i j k l o p q r s t u v w y x (k.getD (0+((a.getD u.toNat ([],([],([],([]:List LI))))).2.2.1.getD x.toNat 0).toNat) 0) 0).bind λz=>match z with
   | .inl g=>if(0:Int)<=0/\0<=g.2.2.2.2.2.2.2.2.2.2.1/\g.2.2.2.2.2.2.2.2.2.2.1<=(g.2.2.2.2.2.2.1.length:Int)then if([]:LI).length+((g.2.2.2.2.2.2.1.drop 0).take (g.2.2.2.2.2.2.2.2.2.2.1.toNat-0)).length<=1073741824 then if(([]:LI)++((g.2.2.2.2.2.2.1.drop 0).take (g.2.2.2.2.2.2.2.2.2.2.1.toNat-0))).length+([g.2.2.2.2.2.2.2.2.2.1]:LI).length<=1073741824 then if 0<=g.2.2.2.2.2.2.2.2.2.2.1/\g.2.2.2.2.2.2.2.2.2.2.1<=(g.2.2.2.2.2.2.1.length:Int)/\(g.2.2.2.2.2.2.1.length:Int)<=(g.2.2.2.2.2.2.1.length:Int)then if((([]:LI)++((g.2.2.2.2.2.2.1.drop 0).take (g.2.2.2.2.2.2.2.2.2.2.1.toNat-0)))++([g.2.2.2.2.2.2.2.2.2.1]:LI)).length+((g.2.2.2.2.2.2.1.drop (0+g.2.2.2.2.2.2.2.2.2.2.1.toNat)).take (g.2.2.2.2.2.2.1.length-g.2.2.2.2.2.2.2.2.2.2.1.toNat)).length<=1073741824 then if(0:Int)<=0/\0<=g.2.2.2.2.2.2.2.2.2.2.1/\g.2.2.2.2.2.2.2.2.2.2.1<=(g.2.2.2.2.2.2.2.1.length:Int)then if([]:LI).length+((g.2.2.2.2.2.2.2.1.drop 0).take (g.2.2.2.2.2.2.2.2.2.2.1.toNat-0)).length<=1073741824 then if 0<=g.2.2.2.2.1/\g.2.2.2.2.1<(g.1.length:Int)then if 0<=g.2.2.2.2.2.1/\g.2.2.2.2.2.1<((g.1.getD g.2.2.2.2.1.toNat ([],([],([],([]:List LI))))).2.2.2.length:Int)then if 0<=g.2.2.2.2.2.2.2.2.1/\g.2.2.2.2.2.2.2.2.1<(((g.1.getD g.2.2.2.2.1.toNat ([],([],([],([]:List LI))))).2.2.2.getD g.2.2.2.2.2.1.toNat ([]:LI)).length:Int)then if(([]:LI)++((g.2.2.2.2.2.2.2.1.drop 0).take (g.2.2.2.2.2.2.2.2.2.2.1.toNat-0))).length+([((g.1.getD g.2.2.2.2.1.toNat ([],([],([],([]:List LI))))).2.2.2.getD g.2.2.2.2.2.1.toNat ([]:LI)).getD g.2.2.2.2.2.2.2.2.1.toNat 0]:LI).length<=1073741824 then if 0<=g.2.2.2.2.2.2.2.2.2.2.1/\g.2.2.2.2.2.2.2.2.2.2.1<=(g.2.2.2.2.2.2.2.1.length:Int)/\(g.2.2.2.2.2.2.2.1.length:Int)<=(g.2.2.2.2.2.2.2.1.length:Int)then if((([]:LI)++((g.2.2.2.2.2.2.2.1.drop 0).take (g.2.2.2.2.2.2.2.2.2.2.1.toNat-0)))++([((g.1.getD g.2.2.2.2.1.toNat ([],([],([],([]:List LI))))).2.2.2.getD g.2.2.2.2.2.1.toNat ([]:LI)).getD g.2.2.2.2.2.2.2.2.1.toNat 0]:LI)).length+((g.2.2.2.2.2.2.2.1.drop (0+g.2.2.2.2.2.2.2.2.2.2.1.toNat)).take (g.2.2.2.2.2.2.2.1.length-g.2.2.2.2.2.2.2.2.2.2.1.toNat)).length<=1073741824 then qA n g.1 g.2.1.1 g.2.1.2.1 g.2.1.2.2.1 g.2.1.2.2.2.1 g.2.1.2.2.2.2.1 g.2.1.2.2.2.2.2.1 g.2.1.2.2.2.2.2.2.1 g.2.2.1 g.2.2.2.1.1 g.2.2.2.1.2.1 g.2.2.2.1.2.2.1 g.2.2.2.1.2.2.2.1 g.2.2.2.1.2.2.2.2.1 g.2.2.2.1.2.2.2.2.2.1 g.2.2.2.1.2.2.2.2.2.2.1 g.2.2.2.2.1 g.2.2.2.2.2.1 (((([]:LI)++((g.2.2.2.2.2.2.1.drop 0).take (g.2.2.2.2.2.2.2.2.2.2.1.toNat-0)))++([g.2.2.2.2.2.2.2.2.2.1]:LI))++((g.2.2.2.2.2.2.1.drop (0+g.2.2.2.2.2.2.2.2.2.2.1.toNat)).take (g.2.2.2.2.2.2.1.length-g.2.2.2.2.2.2.2.2.2.2.1.toNat))) (((([]:LI)++((g.2.2.2.2.2.2.2.1.drop 0).take (g.2.2.2.2.2.2.2.2.2.2.1.toNat-0)))++([((g.1.getD g.2.2.2.2.1.toNat ([],([],([],([]:List LI))))).2.2.2.getD g.2.2.2.2.2.1.toNat ([]:LI)).getD g.2.2.2.2.2.2.2.2.1.toNat 0]:LI))++((g.2.2.2.2.2.2.2.1.drop (0+g.2.2.2.2.2.2.2.2.2.2.1.toNat)).take (g.2.2.2.2.2.2.2.1.length-g.2.2.2.2.2.2.2.2.2.2.1.toNat))) (wI (g.2.2.2.2.2.2.2.2.1+1))else none else none else none else none else none else none else none else none else none else none else none else none else none
   | .inr e=>e.elim else none else none else none else some (.inl (a,(b,c,d,f,h,i,j,()),k,(l,o,p,q,r,s,t,()),u,v,w,y,()))else none
def qB:Nat->sY->LI->LI->LI->LI->LI->LI->Int->LI->LI->LI->LI->LI->LI->LI->Int->Int->Int->Option ((sY×gO×LI×gO×Int×Unit)⊕Empty)
 |0,_,_,_,_,_,_,_,_,_,_,_,_,_,_,_,_,_,_=>none
 |n+1,a,b,c,d,f,h,i,j,k,l,o,p,q,r,s,t,u,v=>if 0<=u/\u<(a.length:Int)then bif decide (v<((a.getD u.toNat ([],([],([],([]:List LI))))).1.length:Int))then (qA m m a b c d f h i j k l o p q r s t u v ([]:LI) ([]:LI) 0).bind λx=>match x with
   | .inl g=>if g.2.2.2.1.2.2.2.2.1.length+g.2.2.2.2.2.2.1.length<=1073741824 then if g.2.2.2.1.2.2.2.2.2.1.length+g.2.2.2.2.2.2.2.1.length<=1073741824 then if g.2.2.2.1.2.2.2.1.length+([((g.2.2.2.1.2.2.2.2.1++g.2.2.2.2.2.2.1).length:Int)]:LI).length<=1073741824 then qB n g.1 g.2.1.1 g.2.1.2.1 g.2.1.2.2.1 g.2.1.2.2.2.1 g.2.1.2.2.2.2.1 g.2.1.2.2.2.2.2.1 g.2.1.2.2.2.2.2.2.1 g.2.2.1 g.2.2.2.1.1 g.2.2.2.1.2.1 g.2.2.2.1.2.2.1 (g.2.2.2.1.2.2.2.1++([((g.2.2.2.1.2.2.2.2.1++g.2.2.2.2.2.2.1).length:Int)]:LI)) (g.2.2.2.1.2.2.2.2.1++g.2.2.2.2.2.2.1) (g.2.2.2.1.2.2.2.2.2.1++g.2.2.2.2.2.2.2.1) g.2.2.2.1.2.2.2.2.2.2.1 g.2.2.2.2.1 (wI (g.2.2.2.2.2.1+1))else none else none else none
   | .inr e=>e.elim else some (.inl (a,(b,c,d,f,h,i,j,()),k,(l,o,p,q,r,s,t,()),u,()))else none
def qC:Nat->sY->LI->LI->LI->LI->LI->LI->Int->LI->LI->LI->LI->LI->LI->LI->Int->Int->Option ((gO×gO×Unit)⊕Empty)
 |0,_,_,_,_,_,_,_,_,_,_,_,_,_,_,_,_,_=>none
 |n+1,a,b,c,d,f,h,i,j,k,l,o,p,q,r,s,t,u=>bif decide (u<(a.length:Int))then (qB m m a b c d f h i j k l o p q r s t u 0).bind λx=>match x with
   | .inl g=>qC n g.1 g.2.1.1 g.2.1.2.1 g.2.1.2.2.1 g.2.1.2.2.2.1 g.2.1.2.2.2.2.1 g.2.1.2.2.2.2.2.1 g.2.1.2.2.2.2.2.2.1 g.2.2.1 g.2.2.2.1.1 g.2.2.2.1.2.1 g.2.2.2.1.2.2.1 g.2.2.2.1.2.2.2.1 g.2.2.2.1.2.2.2.2.1 g.2.2.2.1.2.2.2.2.2.1 g.2.2.2.1.2.2.2.2.2.2.1 (wI (g.2.2.2.2.1+1))
   | .inr e=>e.elim else some (.inl ((b,c,d,f,h,i,j,()),(l,o,p,q,r,s,t,()),()))
def qD (m:Nat):Nat->LI->sY->LI->LI->LI->LI->LI->LI->Int->LI->LI->LI->LI->LI->LI->LI->Int->Int->Int->Option ((LI×sY×gO×LI×gO×Int×Unit)⊕Empty)
 |0,_,_,_,_,_,_,_,_,_,_,_,_,_,_,_,_,_,_,_=>none
 |n+1,a,b,c,d,f,h,i,j,k,l,o,p,q,r,s,t,u,v,w=>if 0<=v/\v<(b.length:Int)then bif decide (w<((b.getD v.toNat ([],([],([],([]:List LI))))).1.length:Int))then if 0<=v/\v<(b.length:Int)then if 0<=w/\w<((b.getD v.toNat ([],([],([],([]:List LI))))).1.length:Int)then if 0<=((b.getD v.toNat ([],([],([],([]:List LI))))).1.getD w.toNat 0)/\((b.getD v.toNat ([],([],([],([]:List LI))))).1.getD w.toNat 0)<(l.length:Int)then if 0<=v/\v<(b.length:Int)then if 0<=w/\w<((b.getD v.toNat ([],([],([],([]:List LI))))).1.length:Int)then if 0<=((b.getD v.toNat ([],([],([],([]:List LI))))).1.getD w.toNat 0)/\((b.getD v.toNat ([],([],([],([]:List LI))))).1.getD w.toNat 0)<(a.length:Int)then if o.length+([a.getD ((b.getD v.toNat ([],([],([],([]:List LI))))).1.getD w.toNat 0).toNat 0]:LI).length<=1073741824 then qD m n a b c d f h i j k (l.set (0+((b.getD v.toNat ([],([],([],([]:List LI))))).1.getD w.toNat 0).toNat) (o.length:Int)) (o++([a.getD ((b.getD v.toNat ([],([],([],([]:List LI))))).1.getD w.toNat 0).toNat 0]:LI)) p q r s t u v (wI (w+1))else none else none else none else none else none else none else none else some (.inl (a,b,(c,d,f,h,i,j,k,()),l,(o,p,q,r,s,t,u,()),v,()))else none
def qE:Nat->LI->sY->LI->LI->LI->LI->LI->LI->Int->LI->LI->LI->LI->LI->LI->LI->Int->Int->Option ((sY×gO×LI×gO×Unit)⊕Empty)
 |0,_,_,_,_,_,_,_,_,_,_,_,_,_,_,_,_,_,_=>none
 |n+1,a,b,c,d,f,h,i,j,k,l,o,p,q,r,s,t,u,v=>bif decide (v<(b.length:Int))then (qD m m a b c d f h i j k l o p q r s t u v 0).bind λx=>match x with
   | .inl g=>if 0<=g.2.2.2.2.2.1/\g.2.2.2.2.2.1<(g.2.1.length:Int)then if g.2.2.2.2.1.2.1.length+([((g.2.1.getD g.2.2.2.2.2.1.toNat ([],([],([],([]:List LI))))).1.length:Int)]:LI).length<=1073741824 then if 0<=g.2.2.2.2.2.1/\g.2.2.2.2.2.1<(g.2.1.length:Int)then if g.2.2.2.2.1.2.2.1.length+(g.2.1.getD g.2.2.2.2.2.1.toNat ([],([],([],([]:List LI))))).2.1.length<=1073741824 then qE n g.1 g.2.1 g.2.2.1.1 g.2.2.1.2.1 g.2.2.1.2.2.1 g.2.2.1.2.2.2.1 g.2.2.1.2.2.2.2.1 g.2.2.1.2.2.2.2.2.1 g.2.2.1.2.2.2.2.2.2.1 g.2.2.2.1 g.2.2.2.2.1.1 (g.2.2.2.2.1.2.1++([((g.2.1.getD g.2.2.2.2.2.1.toNat ([],([],([],([]:List LI))))).1.length:Int)]:LI)) (g.2.2.2.2.1.2.2.1++(g.2.1.getD g.2.2.2.2.2.1.toNat ([],([],([],([]:List LI))))).2.1) g.2.2.2.2.1.2.2.2.1 g.2.2.2.2.1.2.2.2.2.1 g.2.2.2.2.1.2.2.2.2.2.1 g.2.2.2.2.1.2.2.2.2.2.2.1 (wI (g.2.2.2.2.2.1+1))else none else none else none else none
   | .inr e=>e.elim else some (.inl (b,(c,d,f,h,i,j,k,()),l,(o,p,q,r,s,t,u,()),()))
def TE (a:LI) (b:List xv) (c:Int):Option (gO×Unit×Unit×Unit×Unit):=if 0<=(a.length:Int)/\(a.length:Int)<=(a.length:Int)/\(a.length:Int)<=1073741824 then (qE m m a b ([]:LI) ([]:LI) ([]:LI) ([]:LI) ([]:LI) ([]:LI) 0 (List.replicate (a.length:Int).toNat (0:Int)) ([]:LI) ([]:LI) ([]:LI) ([0]:LI) ([]:LI) ([]:LI) c 0).bind λy=>match y with
 | .inl g=>(qC m m g.1 g.2.1.1 g.2.1.2.1 g.2.1.2.2.1 g.2.1.2.2.2.1 g.2.1.2.2.2.2.1 g.2.1.2.2.2.2.2.1 g.2.1.2.2.2.2.2.2.1 g.2.2.1 g.2.2.2.1.1 g.2.2.2.1.2.1 g.2.2.2.1.2.2.1 g.2.2.2.1.2.2.2.1 g.2.2.2.1.2.2.2.2.1 g.2.2.2.1.2.2.2.2.2.1 g.2.2.2.1.2.2.2.2.2.2.1 0).bind λz=>match z with
  | .inl x=>some ((x.2.1.1,x.2.1.2.1,x.2.1.2.2.1,x.2.1.2.2.2.1,x.2.1.2.2.2.2.1,x.2.1.2.2.2.2.2.1,x.2.1.2.2.2.2.2.2.1,()),Dv)
  | .inr e=>e.elim
 | .inr e=>e.elim else none
def ix:Nat->LI->fS->Int->Int->LI->LI->LI->LI->LI->LI->LI->LI->LI->Int->pE->sY->Int->Bool->Int->LI->Int->dA->Option ((LI×fS×lx×gO×pE×sY×Int×Bool×Int×gY×Unit)⊕Empty)
 |0,_,_,_,_,_,_,_,_,_,_,_,_,_,_,_,_,_,_,_,_,_,_=>none
 |n+1,a,b,c,d,f,h,i,j,k,l,o,p,q,r,s,t,u,v,w,x,y,z=>bif !v then (TF m x y z).bind λA=>bif !A.1.2.1 then bif (A.1.1.length:Int)==0 then some (.inl (a,b,(c,d,f,h,i,()),(j,k,l,o,p,q,r,()),s,t,u,true,w,(x,y,z,()),()))else (Od m x y z A.1.1).bind λe=>bif !e.1.2.2.1 then if t.length+([(e.1.2.1.1,(e.1.2.1.2.1,(e.1.2.1.2.2.1,e.1.2.1.2.2.2.1)))]:List xv).length<=1073741824 then ix n a b c d f h i j k l o p q r s (t++([(e.1.2.1.1,(e.1.2.1.2.1,(e.1.2.1.2.2.1,e.1.2.1.2.2.2.1)))]:List xv)) u true w e.1.1.1 e.1.1.2.1 e.1.1.2.2.1 else none else if t.length+([(e.1.2.1.1,(e.1.2.1.2.1,(e.1.2.1.2.2.1,e.1.2.1.2.2.2.1)))]:List xv).length<=1073741824 then ix n a b c d f h i j k l o p q r s (t++([(e.1.2.1.1,(e.1.2.1.2.1,(e.1.2.1.2.2.1,e.1.2.1.2.2.2.1)))]:List xv)) u true w e.1.1.1 e.1.1.2.1 e.1.1.2.2.1 else none else bif (A.1.1.length:Int)==0 then some (.inl (a,b,(c,d,f,h,i,()),(j,k,l,o,p,q,r,()),s,t,u,v,w,(x,y,z,()),()))else (Od m x y z A.1.1).bind λg=>bif !g.1.2.2.1 then if t.length+([(g.1.2.1.1,(g.1.2.1.2.1,(g.1.2.1.2.2.1,g.1.2.1.2.2.2.1)))]:List xv).length<=1073741824 then ix n a b c d f h i j k l o p q r s (t++([(g.1.2.1.1,(g.1.2.1.2.1,(g.1.2.1.2.2.1,g.1.2.1.2.2.2.1)))]:List xv)) u true w g.1.1.1 g.1.1.2.1 g.1.1.2.2.1 else none else if t.length+([(g.1.2.1.1,(g.1.2.1.2.1,(g.1.2.1.2.2.1,g.1.2.1.2.2.2.1)))]:List xv).length<=1073741824 then ix n a b c d f h i j k l o p q r s (t++([(g.1.2.1.1,(g.1.2.1.2.1,(g.1.2.1.2.2.1,g.1.2.1.2.2.2.1)))]:List xv)) u v w g.1.1.1 g.1.1.2.1 g.1.1.2.2.1 else none else some (.inl (a,b,(c,d,f,h,i,()),(j,k,l,o,p,q,r,()),s,t,u,v,w,(x,y,z,()),()))
def oK:Nat->LI->fS->Int->Int->LI->LI->LI->LI->LI->LI->LI->LI->LI->Int->pE->sY->Int->Bool->Int->Option (YB⊕(LI×gO×sY×Int×Unit)⊕Empty)
 |0,_,_,_,_,_,_,_,_,_,_,_,_,_,_,_,_,_,_,_=>none
 |n+1,a,b,c,d,f,h,i,j,k,l,o,p,q,r,s,t,u,v,w=>bif decide (w<(b.length:Int))then (TG m c d f h i a b w s).bind λx=>bif decide ((x.1.1.length:Int)>64)then some (.inl (([],[],[],[],[],[],0,()),6,()))else (ix m m a b c d f h i j k l o p q r x.2.2.2.2.2.1 t u v w x.1.1 x.1.2.1 x.1.2.2.1).bind λy=>match y with
    | .inl g=>bif g.2.2.2.2.2.2.2.1 then some (.inl (([],[],[],[],[],[],0,()),233,()))else if g.2.2.2.2.1.length+([(g.2.2.2.2.2.2.2.2.2.1.1,(g.2.2.2.2.2.2.2.2.2.1.2.1,g.2.2.2.2.2.2.2.2.2.1.2.2.1))]:List MO).length<=1073741824 then oK n g.1 g.2.1 g.2.2.1.1 g.2.2.1.2.1 g.2.2.1.2.2.1 g.2.2.1.2.2.2.1 g.2.2.1.2.2.2.2.1 g.2.2.2.1.1 g.2.2.2.1.2.1 g.2.2.2.1.2.2.1 g.2.2.2.1.2.2.2.1 g.2.2.2.1.2.2.2.2.1 g.2.2.2.1.2.2.2.2.2.1 g.2.2.2.1.2.2.2.2.2.2.1 (g.2.2.2.2.1++([(g.2.2.2.2.2.2.2.2.2.1.1,(g.2.2.2.2.2.2.2.2.2.1.2.1,g.2.2.2.2.2.2.2.2.2.1.2.2.1))]:List MO)) g.2.2.2.2.2.1 (wI (g.2.2.2.2.2.2.1+g.2.2.2.2.2.2.2.2.2.1.2.1)) g.2.2.2.2.2.2.2.1 (wI (g.2.2.2.2.2.2.2.2.1+1))else none
    | .inr e=>e.elim else some (.inr (.inl (a,(j,k,l,o,p,q,r,()),t,u,())))
def Mm (a:Int) (b:Int) (c:LI) (d:LI) (f:LI) (h:LI) (i:List fW):Option (YB×Unit×Unit×Unit×Unit):=(JR m a b c d f h i).bind λz=>bif z.1 !=0 then some ((([],[],[],[],[],[],0,()),z.1,()),Dv)else (oK m m h i a b c d f ([]:LI) ([]:LI) ([]:LI) ([]:LI) ([]:LI) ([]:LI) 0 ([]:List MO) ([]:List xv) 0 false 0).bind λA=>match A with
  | .inl g=>some (((g.1.1,g.1.2.1,g.1.2.2.1,g.1.2.2.2.1,g.1.2.2.2.2.1,g.1.2.2.2.2.2.1,g.1.2.2.2.2.2.2.1,()),g.2.1,()),Dv)
  | .inr (.inl y)=>(TE m y.1 y.2.2.1 y.2.2.2.1).bind λx=>some (((x.1.1,x.1.2.1,x.1.2.2.1,x.1.2.2.2.1,x.1.2.2.2.2.1,x.1.2.2.2.2.2.1,x.1.2.2.2.2.2.2.1,()),0,()),Dv)
  | .inr (.inr e)=>e.elim
def rK:Nat->LI->Int->Int->Int->LI->Int->Option pG
 |0,_,_,_,_,_,_=>none
 |n+1,a,b,c,d,f,h=>bif decide (h<c)then (Cd m a (wI (b+h))).bind λg=>(Oy m g.1 d).bind λe=>if f.length+([e.1]:LI).length<=1073741824 then rK n a b c d (f++([e.1]:LI)) (wI (h+1))else none else some (.inl (f,()))
def Mo (a:LI) (b:Int) (c:Int) (d:Int):Option XZ:=(rK m m a b c d ([]:LI) 0).bind λg=>match g with
 | .inl x=>some (x.1,Ue1)
 | .inr e=>e.elim
def cG (a:LI) (b:Int) (c:Int) (d:Bool):Option ((gO×LI×Unit)×Unit×Unit×Unit×Unit×Unit):=(Ev m b 5).bind λz=>(OS m a z.1 z.1 c).bind λg=>bif d then (TR m a z.1 c).bind λx=>(Po m a z.1).bind λB=>(KC m x.1.1 x.1.2.1 x.1.2.2.1 x.1.2.2.2.1 x.1.2.2.2.2.1 B.1 a).bind λD=>(Mm m x.1.1 x.1.2.1 x.1.2.2.1 x.1.2.2.2.1 x.1.2.2.2.2.1 B.1 D.1).bind λy=>(Mo m a 30 (y.1.1.1.length:Int) c).bind λE=>some (((y.1.1.1,y.1.1.2.1,y.1.1.2.2.1,y.1.1.2.2.2.1,y.1.1.2.2.2.2.1,y.1.1.2.2.2.2.2.1,y.1.1.2.2.2.2.2.2.1,()),E.1,()),Ue1)else (Po m a z.1).bind λC=>(KC m g.1.1 g.1.2.1 g.1.2.2.1 g.1.2.2.2.1 g.1.2.2.2.2.1 C.1 a).bind λF=>(Mm m g.1.1 g.1.2.1 g.1.2.2.1 g.1.2.2.2.1 g.1.2.2.2.2.1 C.1 F.1).bind λe=>(Mo m a 30 (e.1.1.1.length:Int) c).bind λA=>some (((e.1.1.1,e.1.1.2.1,e.1.1.2.2.1,e.1.1.2.2.2.1,e.1.1.2.2.2.2.1,e.1.1.2.2.2.2.2.1,e.1.1.2.2.2.2.2.2.1,()),A.1,()),Ue1)
def j3 (m:Nat):Nat->LI->List Bool->LI->Int->Int->Option sX
 |0,_,_,_,_,_=>none
 |n+1,a,b,c,d,f=>bif decide (f<d)then if 0<=f/\f<(c.length:Int)then bif decide ((c.getD f.toNat 0)<0)then some (.inl (false,()))else bif decide ((c.getD f.toNat 0)>=(a.length:Int))then some (.inl (false,()))else if 0<=(c.getD f.toNat 0)/\(c.getD f.toNat 0)<(b.length:Int)then bif b.getD (0+(c.getD f.toNat 0).toNat) false then some (.inl (false,()))else if 0<=(c.getD f.toNat 0)/\(c.getD f.toNat 0)<(b.length:Int)then j3 m n a (b.set (0+(c.getD f.toNat 0).toNat) true) c d (wI (f+1))else none else none else none else some (.inr (.inl ()))
def Dd (a:LI):Option pF:=if 0<=(a.length:Int)/\(a.length:Int)<=(a.length:Int)/\(a.length:Int)<=1073741824 then (j3 m m a (List.replicate (a.length:Int).toNat false) a (a.length:Int) 0).bind λg=>match g with
 | .inl x=>some (x.1,Bv)
 | .inr (.inl y)=>some (true,Bv)
 | .inr (.inr e)=>e.elim else none
def gu (m:Nat):Nat->LI->LI->LI->LI->LI->LI->Int->LI->Int->Int->LI->Int->Int->Option (IL⊕(gO×LI×Int×Int×Unit)⊕Empty)
 |0,_,_,_,_,_,_,_,_,_,_,_,_,_=>none
 |n+1,a,b,c,d,f,h,i,j,k,l,o,p,q=>bif decide (q<p)then if 0<=q/\q<(o.length:Int)then bif (o.getD q.toNat 0) !=1 then bif (o.getD q.toNat 0) !=2 then some (.inl ([],false,()))else bif decide (k>=(a.length:Int))then some (.inl ([],false,()))else if j.length+([k]:LI).length<=1073741824 then gu m n a b c d f h i (j++([k]:LI)) (wI (k+(o.getD q.toNat 0))) (wI (l+(wI ((wI (2*(o.getD q.toNat 0)))-1)))) o p (wI (q+1))else none else bif decide (k>=(a.length:Int))then some (.inl ([],false,()))else if j.length+([k]:LI).length<=1073741824 then gu m n a b c d f h i (j++([k]:LI)) (wI (k+(o.getD q.toNat 0))) (wI (l+(wI ((wI (2*(o.getD q.toNat 0)))-1)))) o p (wI (q+1))else none else none else some (.inr (.inl ((a,b,c,d,f,h,i,()),j,k,l,())))
def Db (a:LI) (b:LI) (c:LI) (d:LI) (f:LI) (h:LI) (i:Int):Option (IL×Unit×Unit):=(gu m m a b c d f h i ([]:LI) 0 0 b (b.length:Int) 0).bind λy=>match y with
 | .inl x=>some ((x.1,x.2.1,()),Bv)
 | .inr (.inl g)=>bif g.2.2.1==(g.1.1.length:Int)then some ((g.2.1,g.2.2.2.1==(g.1.2.2.1.length:Int),()),Bv)else some ((g.2.1,false,()),Bv)
 | .inr (.inr e)=>e.elim
def mG (m:Nat):Nat->LI->LI->LI->LI->LI->LI->Int->Int->Int->Int->Int->LI->Int->Int->LI->Int->Int->Option (IK⊕(gO×Int×Int×Int×LI×Int×Int×Unit)⊕Empty)
 |0,_,_,_,_,_,_,_,_,_,_,_,_,_,_,_,_,_=>none
 |n+1,a,b,c,d,f,h,i,j,k,l,o,p,q,r,s,t,u=>bif decide (u<t)then if 0<=u/\u<(s.length:Int)then bif decide ((s.getD u.toNat 0)<=o)then some (.inl (false,()))else bif decide ((s.getD u.toNat 0)>=j)then some (.inl (false,()))else mG m n a b c d f h i j k l (s.getD u.toNat 0) p q r s t (wI (u+1))else none else some (.inr (.inl ((a,b,c,d,f,h,i,()),j,k,l,p,q,r,())))
def mH:Nat->LI->LI->LI->LI->LI->LI->Int->Int->Int->Int->LI->Int->Int->Option (IK⊕(gO×Int×LI×Int×Int×Unit)⊕Empty)
 |0,_,_,_,_,_,_,_,_,_,_,_,_,_=>none
 |n+1,a,b,c,d,f,h,i,j,k,l,o,p,q=>bif decide (l<=k)then if 0<=l/\l<(d.length:Int)then if 0<=(wI (l+1))/\(wI (l+1))<(d.length:Int)then bif decide ((d.getD l.toNat 0)>(d.getD (wI (l+1)).toNat 0))then some (.inl (false,()))else if 0<=(wI (l+1))/\(wI (l+1))<(d.length:Int)then bif decide ((d.getD (wI (l+1)).toNat 0)>(f.length:Int))then some (.inl (false,()))else if 0<=l/\l<(d.length:Int)then if 0<=(wI (l+1))/\(wI (l+1))<(d.length:Int)then if 0<=(d.getD l.toNat 0)/\(d.getD l.toNat 0)<=(d.getD (wI (l+1)).toNat 0)/\(d.getD (wI (l+1)).toNat 0)<=(f.length:Int)then (mG m m a b c d f h i j k l k o p q ((f.drop (d.getD l.toNat 0).toNat).take ((d.getD (wI (l+1)).toNat 0).toNat-(d.getD l.toNat 0).toNat)) (((f.drop (d.getD l.toNat 0).toNat).take ((d.getD (wI (l+1)).toNat 0).toNat-(d.getD l.toNat 0).toNat)).length:Int) 0).bind λx=>match x with
     | .inl y=>some (.inl (y.1,()))
     | .inr (.inl g)=>mH n g.1.1 g.1.2.1 g.1.2.2.1 g.1.2.2.2.1 g.1.2.2.2.2.1 g.1.2.2.2.2.2.1 g.1.2.2.2.2.2.2.1 g.2.1 g.2.2.1 (wI (g.2.2.2.1+1)) g.2.2.2.2.1 g.2.2.2.2.2.1 g.2.2.2.2.2.2.1
     | .inr (.inr e)=>e.elim else none else none else none else none else none else none else some (.inr (.inl ((a,b,c,d,f,h,i,()),j,o,p,q,())))
def mI:Nat->LI->LI->LI->LI->LI->LI->Int->Int->LI->Int->Int->Option sX
 |0,_,_,_,_,_,_,_,_,_,_,_=>none
 |n+1,a,b,c,d,f,h,i,j,k,l,o=>bif decide (o<l)then if 0<=o/\o<(k.length:Int)then if 0<=o/\o<(b.length:Int)then (mH m m a b c d f h i j (wI ((wI ((k.getD o.toNat 0)+(b.getD o.toNat 0)))-1)) (k.getD o.toNat 0) k l o).bind λx=>match x with
   | .inl y=>some (.inl (y.1,()))
   | .inr (.inl g)=>mI n g.1.1 g.1.2.1 g.1.2.2.1 g.1.2.2.2.1 g.1.2.2.2.2.1 g.1.2.2.2.2.2.1 g.1.2.2.2.2.2.2.1 g.2.1 g.2.2.1 g.2.2.2.1 (wI (g.2.2.2.2.1+1))
   | .inr (.inr e)=>e.elim else none else none else some (.inr (.inl ()))
def C9 (a:LI) (b:LI) (c:LI) (d:LI) (f:LI) (h:LI) (i:Int) (j:LI):Option vK:=if(0:Int)<=0/\0<(d.length:Int)then bif (d.getD 0 0) !=0 then some (false,uX)else if 0<=(a.length:Int)/\(a.length:Int)<(d.length:Int)then bif (d.getD (a.length:Int).toNat 0) !=(f.length:Int)then some (false,uX)else (mI m m a b c d f h i (a.length:Int) j (j.length:Int) 0).bind λg=>match g with
   | .inl x=>some (x.1,uX)
   | .inr (.inl y)=>some (true,uX)
   | .inr (.inr e)=>e.elim else none else none
def r8 (m:Nat) (a:Int):Option ((Int×Int×Unit)×Unit×Unit):=some ((wI (qp .u64 (aK .u64 a 52) 2047),qp .u64 a 4503599627370495,()),Bv)
def tj (a:Int):Option pF:=(r8 m a).bind λe=>some (e.1.1 !=2047,Bv)
def jT (m:Nat):Nat->LI->Int->Option LH
 |0,_,_=>none
 |n+1,a,b=>bif decide (b>0)then if 0<=(wI (b-1))/\(wI (b-1))<(a.length:Int)then bif (a.getD (wI (b-1)).toNat 0)==0 then jT m n a (wI (b-1))else some (.inl (a,b,()))else none else some (.inl (a,b,()))
def dk (a:LI):Option RS:=(jT m m a (a.length:Int)).bind λx=>match x with
 | .inl g=>if(0:Int)<=0/\0<=g.2.1/\g.2.1<=(g.1.length:Int)then some (g.1.take g.2.1.toNat,Bv)else none
 | .inr e=>e.elim
def dI (a:Bool) (b:LI):Option wW:=(dk m b).bind λe=>bif (e.1.length:Int)==0 then some ((false,[],()),uX)else some ((a,e.1,()),uX)
def ll (a:Int):Option Bm:=bif decide (a<0)then (dI m (decide (a<0)) ([wK (qp .u64 (wJ (0-(wJ a))) 4294967295),wK (aK .u64 (wJ (0-(wJ a))) 32)]:LI)).bind λe=>some ((e.1.1,e.1.2.1,()),Bv)else (dI m (decide (a<0)) ([wK (qp .u64 (wJ a) 4294967295),wK (aK .u64 (wJ a) 32)]:LI)).bind λg=>some ((g.1.1,g.1.2.1,()),Bv)
def wA (m:Nat) (a:Int):Option pF:=some ((qp .u64 a 9223372036854775808) !=0,Bv)
def tx (m:Nat) (a:LI):Option RS:=if([]:LI).length+a.length<=1073741824 then some (a,Bv)else none
def eh (a:Bool) (b:LI):Option Bm:=(tx m b).bind λg=>(dI m (!a) g.1).bind λe=>some ((e.1.1,e.1.2.1,()),Bv)
def rH (m:Nat):Option RQ:=some ((true,false,[],0,()),())
def CJ (a:Bool) (b:LI):Option Bm:=(tx m b).bind λg=>(dI m a g.1).bind λe=>some ((e.1.1,e.1.2.1,()),Bv)
def jV (a:Bool) (b:LI):Option lg:=(dk m b).bind λe=>bif (e.1.length:Int)==0 then some (0,Bv)else bif a then some ((-1),Bv)else some (1,Bv)
def mr:Nat->LI->Int->Int->Option sW
 |0,_,_,_=>none
 |n+1,a,b,c=>bif decide (c<b)then if 0<=c/\c<(a.length:Int)then bif (a.getD c.toNat 0) !=0 then (yx m (a.getD c.toNat 0)).bind λe=>some (.inl (wI ((wI (c*32))+e.1),()))else mr n a b (wI (c+1))else none else some (.inr (.inl ()))
def yu (a:Bool) (b:LI):Option lg:=(mr m m b (b.length:Int) 0).bind λg=>match g with
 | .inl x=>some (x.1,Bv)
 | .inr (.inl y)=>some (0,Bv)
 | .inr (.inr e)=>e.elim
def yd (a:LI):Option lg:=bif (a.length:Int)==0 then some (0,Bv)else if 0<=(wI ((a.length:Int)-1))/\(wI ((a.length:Int)-1))<(a.length:Int)then (wz m (a.getD (wI ((a.length:Int)-1)).toNat 0)).bind λe=>some (wI ((wI ((wI ((a.length:Int)-1))*32))+e.1),Bv)else none
def pc (a:Bool) (b:LI):Option lg:=(dk m b).bind λe=>(yd m e.1).bind λg=>some (g.1,Bv)
def lY (m:Nat):Nat->Int->Int->LI->LI->Int->Int->Option pG
 |0,_,_,_,_,_,_=>none
 |n+1,a,b,c,d,f,h=>bif decide (h<f)then if 0<=h/\h<(d.length:Int)then if 0<=b then if 0<=(wI (a+h))/\(wI (a+h))<(c.length:Int)then if 0<=(wI (a+h))/\(wI (a+h))<(c.length:Int)then if 0<=(wI ((wI (a+h))+1))/\(wI ((wI (a+h))+1))<((c.set (0+(wI (a+h)).toNat) (bf .u32 (c.getD (0+(wI (a+h)).toNat) 0) (wK (qp .u64 (bz .u64 (wJ (d.getD h.toNat 0)) b) 4294967295)))).length:Int)then lY m n a b ((c.set (0+(wI (a+h)).toNat) (bf .u32 (c.getD (0+(wI (a+h)).toNat) 0) (wK (qp .u64 (bz .u64 (wJ (d.getD h.toNat 0)) b) 4294967295)))).set (0+(wI ((wI (a+h))+1)).toNat) (wK (aK .u64 (bz .u64 (wJ (d.getD h.toNat 0)) b) 32))) d f (wI (h+1))else none else none else none else none else none else some (.inl (c,()))
def tk (a:LI) (b:Int):Option vL:=bif (a.length:Int)==0 then some ([],uX)else if 0<=(wI ((wI ((wI (Int.tdiv b 32))+(a.length:Int)))+1))/\(wI ((wI ((wI (Int.tdiv b 32))+(a.length:Int)))+1))<=(wI ((wI ((wI (Int.tdiv b 32))+(a.length:Int)))+1))/\(wI ((wI ((wI (Int.tdiv b 32))+(a.length:Int)))+1))<=1073741824 then (lY m m (wI (Int.tdiv b 32)) (wJ (Int.tmod b 32)) (List.replicate (wI ((wI ((wI (Int.tdiv b 32))+(a.length:Int)))+1)).toNat (0:Int)) a (a.length:Int) 0).bind λg=>match g with
  | .inl x=>(dk m x.1).bind λy=>some (y.1,uX)
  | .inr e=>e.elim else none
def KS (m:Nat) (a:Int):Option pF:=some (a !=0,Bv)
def lX:Nat->LI->Int->Int->Option sW
 |0,_,_,_=>none
 |n+1,a,b,c=>bif decide (c<b)then if 0<=c/\c<(a.length:Int)then (KS m (a.getD c.toNat 0)).bind λe=>bif e.1 then some (.inl (c,()))else lX n a b (wI (c+1))else none else some (.inr (.inl ()))
def KO (a:LI):Option jJ:=(lX m m a (a.length:Int) 0).bind λg=>match g with
 | .inl x=>some (x.1,uX)
 | .inr (.inl y)=>some ((-1),uX)
 | .inr (.inr e)=>e.elim
def BS (a:LI):Option vK:=(KO m a).bind λe=>some (decide (e.1>=0),uX)
def fu (m:Nat):Nat->LI->Int->Int->Bool->LI->Int->Int->Option (nE⊕Empty)
 |0,_,_,_,_,_,_,_=>none
 |n+1,a,b,c,d,f,h,i=>bif decide (i<h)then if 0<=(wI (b+i))/\(wI (b+i))<(a.length:Int)then bif decide ((wI ((wI (b+i))+1))<(a.length:Int))then if 0<=(wI ((wI (b+i))+1))/\(wI ((wI (b+i))+1))<(a.length:Int)then if 0<=c then if 0<=i/\i<(f.length:Int)then fu m n a b c d (f.set (0+i.toNat) (wK (qp .u64 (aK .u64 (bf .u64 (wJ (a.getD (wI (b+i)).toNat 0)) (bz .u64 (wJ (a.getD (wI ((wI (b+i))+1)).toNat 0)) 32)) c) 4294967295))) h (wI (i+1))else none else none else none else if 0<=c then if 0<=i/\i<(f.length:Int)then fu m n a b c d (f.set (0+i.toNat) (wK (qp .u64 (aK .u64 (wJ (a.getD (wI (b+i)).toNat 0)) c) 4294967295))) h (wI (i+1))else none else none else none else some (.inl (d,f,()))
def we (a:LI) (b:Int):Option RR:=bif decide ((wI (Int.tdiv b 32))>=(a.length:Int))then some (([],decide ((a.length:Int)>0),()),uX)else if(0:Int)<=0/\0<=(wI (Int.tdiv b 32))/\(wI (Int.tdiv b 32))<=(a.length:Int)then (BS m (a.take (wI (Int.tdiv b 32)).toNat)).bind λy=>bif y.1 then if 0<=(wI ((a.length:Int)-(wI (Int.tdiv b 32))))/\(wI ((a.length:Int)-(wI (Int.tdiv b 32))))<=(wI ((a.length:Int)-(wI (Int.tdiv b 32))))/\(wI ((a.length:Int)-(wI (Int.tdiv b 32))))<=1073741824 then (fu m m a (wI (Int.tdiv b 32)) (wJ (Int.tmod b 32)) true (List.replicate (wI ((a.length:Int)-(wI (Int.tdiv b 32)))).toNat (0:Int)) ((List.replicate (wI ((a.length:Int)-(wI (Int.tdiv b 32)))).toNat (0:Int)).length:Int) 0).bind λz=>match z with
   | .inl g=>(dk m g.2.1).bind λA=>some ((A.1,g.1,()),uX)
   | .inr e=>e.elim else none else if 0<=(wI (Int.tdiv b 32))/\(wI (Int.tdiv b 32))<(a.length:Int)then if 0<=(wJ (Int.tmod b 32))then if 0<=(wI ((a.length:Int)-(wI (Int.tdiv b 32))))/\(wI ((a.length:Int)-(wI (Int.tdiv b 32))))<=(wI ((a.length:Int)-(wI (Int.tdiv b 32))))/\(wI ((a.length:Int)-(wI (Int.tdiv b 32))))<=1073741824 then (fu m m a (wI (Int.tdiv b 32)) (wJ (Int.tmod b 32)) ((qp .u32 (a.getD (wI (Int.tdiv b 32)).toNat 0) (wK ((bz .u32 1 (wJ (Int.tmod b 32)))-1))) !=0) (List.replicate (wI ((a.length:Int)-(wI (Int.tdiv b 32)))).toNat (0:Int)) ((List.replicate (wI ((a.length:Int)-(wI (Int.tdiv b 32)))).toNat (0:Int)).length:Int) 0).bind λB=>match B with
   | .inl x=>(dk m x.2.1).bind λC=>some ((C.1,x.1,()),uX)
   | .inr e=>e.elim else none else none else none else none
def gr (m:Nat):Nat->LI->LI->Int->LI->Int->Int->Option LH
 |0,_,_,_,_,_,_=>none
 |n+1,a,b,c,d,f,h=>bif decide (h<f)then if 0<=h/\h<(d.length:Int)then bif decide (h<(a.length:Int))then if 0<=h/\h<(a.length:Int)then if b.length+([wK (qp .u64 (wJ ((wJ ((wJ (d.getD h.toNat 0))+c))+(wJ (a.getD h.toNat 0)))) 4294967295)]:LI).length<=1073741824 then gr m n a (b++([wK (qp .u64 (wJ ((wJ ((wJ (d.getD h.toNat 0))+c))+(wJ (a.getD h.toNat 0)))) 4294967295)]:LI)) (aK .u64 (wJ ((wJ ((wJ (d.getD h.toNat 0))+c))+(wJ (a.getD h.toNat 0)))) 32) d f (wI (h+1))else none else none else if b.length+([wK (qp .u64 (wJ ((wJ (d.getD h.toNat 0))+c)) 4294967295)]:LI).length<=1073741824 then gr m n a (b++([wK (qp .u64 (wJ ((wJ (d.getD h.toNat 0))+c)) 4294967295)]:LI)) (aK .u64 (wJ ((wJ (d.getD h.toNat 0))+c)) 32) d f (wI (h+1))else none else none else some (.inl (b,c,()))
def tn (a:LI) (b:LI):Option vL:=bif decide ((a.length:Int)<(b.length:Int))then if(0:Int)<=0/\0<=(wI ((b.length:Int)+1))/\(wI ((b.length:Int)+1))<=1073741824 then (gr m m a (List.replicate 0 (0:Int)) 0 b (b.length:Int) 0).bind λy=>match y with
  | .inl g=>if g.1.length+([wK g.2.1]:LI).length<=1073741824 then (dk m (g.1++([wK g.2.1]:LI))).bind λz=>some (z.1,uX)else none
  | .inr e=>e.elim else none else if(0:Int)<=0/\0<=(wI ((a.length:Int)+1))/\(wI ((a.length:Int)+1))<=1073741824 then (gr m m b (List.replicate 0 (0:Int)) 0 a (a.length:Int) 0).bind λA=>match A with
  | .inl x=>if x.1.length+([wK x.2.1]:LI).length<=1073741824 then (dk m (x.1++([wK x.2.1]:LI))).bind λB=>some (B.1,uX)else none
  | .inr e=>e.elim else none
def rB (a:Bool) (b:LI) (c:Int):Option ((nE×Int×Unit)×Unit×Unit×Unit):=bif decide (c<(-1048576))then some (((false,[],()),3,()),uX)else bif decide (c>1048576)then some (((false,[],()),3,()),uX)else (dk m b).bind λg=>bif decide (c>=0)then (tk m g.1 c).bind λB=>(dI m a B.1).bind λx=>some (((x.1.1,x.1.2.1,()),0,()),uX)else (we m g.1 (wI (0-c))).bind λe=>bif a then bif e.1.2.1 then (tn m e.1.1 ([1]:LI)).bind λC=>(dI m a C.1).bind λy=>some (((y.1.1,y.1.2.1,()),0,()),uX)else (dI m a e.1.1).bind λz=>some (((z.1.1,z.1.2.1,()),0,()),uX)else (dI m a e.1.1).bind λA=>some (((A.1.1,A.1.2.1,()),0,()),uX)
def pb:Nat->Int->Bool->LI->Bool->LI->Option YI
 |0,_,_,_,_,_=>none
 |n+1,a,b,c,d,f=>bif decide (a>1048576)then (rB m b c (-1048576)).bind λe=>pb n (wI (a-1048576)) e.1.1.1 e.1.1.2.1 d f else some (.inl (a,(b,c,()),(d,f,()),()))
def yr (a:Bool) (b:LI) (c:Int):Option wW:=(pb m m c a b false ([]:LI)).bind λy=>match y with
 | .inl g=>(rB m g.2.1.1 g.2.1.2.1 (wI (0-g.1))).bind λx=>some ((x.1.1.1,x.1.1.2.1,()),uX)
 | .inr e=>e.elim
def iQ (a:Bool) (b:Bool) (c:LI) (d:Int):Option ((lC×Bool×Unit)×Unit×Unit):=bif a then (rH m).bind λg=>some (((g.1.1,g.1.2.1,g.1.2.2.1,g.1.2.2.2.1,()),false,()),Bv)else (CJ m b c).bind λe=>(jV m e.1.1 e.1.2.1).bind λB=>bif B.1==0 then some (((false,false,[],0,()),true,()),Bv)else (yu m e.1.1 e.1.2.1).bind λz=>(pc m e.1.1 e.1.2.1).bind λC=>bif decide (d>(wI (65536-C.1)))then (rH m).bind λx=>some (((x.1.1,x.1.2.1,x.1.2.2.1,x.1.2.2.2.1,()),false,()),Bv)else bif decide (d<(wI ((-65536)-z.1)))then (rH m).bind λy=>some (((y.1.1,y.1.2.1,y.1.2.2.1,y.1.2.2.2.1,()),false,()),Bv)else (yr m e.1.1 e.1.2.1 z.1).bind λA=>some (((false,A.1.1,A.1.2.1,wI (d+z.1),()),true,()),Bv)
def kg (a:Bool) (b:LI) (c:Int):Option xu:=(iQ m false a b c).bind λe=>some ((e.1.1.1,e.1.1.2.1,e.1.1.2.2.1,e.1.1.2.2.2.1,()),uX)
def en (a:Int):Option wX:=(r8 m a).bind λx=>bif x.1.1==2047 then some ((true,false,[],0,()),Bv)else bif x.1.1==0 then (ll m (wI x.1.2.1)).bind λy=>(wA m a).bind λE=>bif E.1 then (eh m y.1.1 y.1.2.1).bind λC=>(kg m C.1.1 C.1.2.1 (-1074)).bind λz=>some ((z.1.1,z.1.2.1,z.1.2.2.1,z.1.2.2.2.1,()),Bv)else (kg m y.1.1 y.1.2.1 (-1074)).bind λA=>some ((A.1.1,A.1.2.1,A.1.2.2.1,A.1.2.2.2.1,()),Bv)else (ll m (wI (bf .u64 x.1.2.1 4503599627370496))).bind λB=>(wA m a).bind λF=>bif F.1 then (eh m B.1.1 B.1.2.1).bind λD=>(kg m D.1.1 D.1.2.1 (wI (x.1.1-1075))).bind λe=>some ((e.1.1,e.1.2.1,e.1.2.2.1,e.1.2.2.2.1,()),Bv)else (kg m B.1.1 B.1.2.1 (wI (x.1.1-1075))).bind λg=>some ((g.1.1,g.1.2.1,g.1.2.2.1,g.1.2.2.2.1,()),Bv)
def mE:Nat->LI->LI->LI->LI->LI->LI->Int->dA->Int->cW->LI->Int->Int->Int->Int->Option ((gO×dA×Int×cW×LI×Int×Int×Unit)⊕Empty)
 |0,_,_,_,_,_,_,_,_,_,_,_,_,_,_,_=>none
 |n+1,a,b,c,d,f,h,i,j,k,l,o,p,q,r,s=>bif decide (s<r)then if 0<=k/\k<(c.length:Int)then (en m (c.getD k.toNat 0)).bind λe=>if l.length+([(e.1.1,((e.1.2.1,e.1.2.2.1),e.1.2.2.2.1))]:List bF).length<=1073741824 then mE n a b c d f h i j (wI (k+1)) (l++([(e.1.1,((e.1.2.1,e.1.2.2.1),e.1.2.2.2.1))]:List bF)) o p q r (wI (s+1))else none else none else some (.inl ((a,b,c,d,f,h,i,()),j,k,l,o,p,q,()))
def mF:Nat->LI->LI->LI->LI->LI->LI->Int->dA->Int->LI->Int->Int->Option YK
 |0,_,_,_,_,_,_,_,_,_,_,_,_=>none
 |n+1,a,b,c,d,f,h,i,j,k,l,o,p=>bif decide (p<o)then if 0<=p/\p<(l.length:Int)then (mE m m a b c d f h i j k ([]:List bF) l o p (wI ((wI (2*(l.getD p.toNat 0)))-1)) 0).bind λx=>match x with
   | .inl g=>if 0<([g.2.2.2.1]:List cW).length/\g.2.1.length+([g.2.2.2.1]:List cW).length<=1073741824 then mF n g.1.1 g.1.2.1 g.1.2.2.1 g.1.2.2.2.1 g.1.2.2.2.2.1 g.1.2.2.2.2.2.1 g.1.2.2.2.2.2.2.1 (g.2.1++([g.2.2.2.1]:List cW)) g.2.2.1 g.2.2.2.2.1 g.2.2.2.2.2.1 (wI (g.2.2.2.2.2.2.1+1))else none
   | .inr e=>e.elim else none else some (.inl (j,()))
def K6 (a:LI) (b:LI) (c:LI) (d:LI) (f:LI) (h:LI) (i:Int):Option YH:=(mF m m a b c d f h i ([]:List cW) 0 b (b.length:Int) 0).bind λg=>match g with
 | .inl x=>some (x.1,Bv)
 | .inr e=>e.elim
def zc (a:Bool) (b:Bool) (c:LI) (d:Int) (f:Bool) (h:Bool) (i:LI) (j:Int):Option ((lC×lC×Bool×Unit)×Unit×Unit×Unit):=(iQ m a b c d).bind λe=>(iQ m f h i j).bind λg=>bif e.1.2.1 then some (((e.1.1.1,e.1.1.2.1,e.1.1.2.2.1,e.1.1.2.2.2.1,()),(g.1.1.1,g.1.1.2.1,g.1.1.2.2.1,g.1.1.2.2.2.1,()),g.1.2.1,()),uX)else some (((e.1.1.1,e.1.1.2.1,e.1.1.2.2.1,e.1.1.2.2.2.1,()),(g.1.1.1,g.1.1.2.1,g.1.1.2.2.1,g.1.1.2.2.2.1,()),false,()),uX)
def l7 (m:Nat):Nat->LI->LI->Int->Int->Int->LI->Int->Int->LI->Int->Int->Option ((LI×LI×Int×Int×LI×Int×Int×Unit)⊕Empty)
 |0,_,_,_,_,_,_,_,_,_,_,_=>none
 |n+1,a,b,c,d,f,h,i,j,k,l,o=>bif decide (o<l)then if 0<=o/\o<(k.length:Int)then if 0<=(wI (c+o))/\(wI (c+o))<(b.length:Int)then if 0<=(wI (c+o))/\(wI (c+o))<(b.length:Int)then l7 m n a (b.set (0+(wI (c+o)).toNat) (wK (qp .u64 (wJ ((wJ ((wJ ((wJ d)*(wJ (k.getD o.toNat 0))))+(wJ (b.getD (0+(wI (c+o)).toNat) 0))))+f)) 4294967295))) c d (aK .u64 (wJ ((wJ ((wJ ((wJ d)*(wJ (k.getD o.toNat 0))))+(wJ (b.getD (0+(wI (c+o)).toNat) 0))))+f)) 32) h i j k l (wI (o+1))else none else none else none else some (.inl (a,b,c,f,h,i,j,()))
def l8:Nat->LI->LI->LI->Int->Int->Option pG
 |0,_,_,_,_,_=>none
 |n+1,a,b,c,d,f=>bif decide (f<d)then if 0<=f/\f<(c.length:Int)then (l7 m m a b f (c.getD f.toNat 0) 0 c d f a (a.length:Int) 0).bind λx=>match x with
   | .inl g=>if 0<=(wI (g.2.2.1+(g.1.length:Int)))/\(wI (g.2.2.1+(g.1.length:Int)))<(g.2.1.length:Int)then l8 n g.1 (g.2.1.set (0+(wI (g.2.2.1+(g.1.length:Int))).toNat) (wK g.2.2.2.1)) g.2.2.2.2.1 g.2.2.2.2.2.1 (wI (g.2.2.2.2.2.2.1+1))else none
   | .inr e=>e.elim else none else some (.inl (b,()))
def Ck (a:LI) (b:LI):Option vL:=bif (a.length:Int)==0 then some ([],uX)else bif (b.length:Int)==0 then some ([],uX)else if 0<=(wI ((a.length:Int)+(b.length:Int)))/\(wI ((a.length:Int)+(b.length:Int)))<=(wI ((a.length:Int)+(b.length:Int)))/\(wI ((a.length:Int)+(b.length:Int)))<=1073741824 then (l8 m m b (List.replicate (wI ((a.length:Int)+(b.length:Int))).toNat (0:Int)) a (a.length:Int) 0).bind λg=>match g with
   | .inl x=>(dk m x.1).bind λy=>some (y.1,uX)
   | .inr e=>e.elim else none
def tB (a:Bool) (b:LI) (c:Bool) (d:LI):Option wW:=(dk m b).bind λg=>(dk m d).bind λx=>(Ck m g.1 x.1).bind λy=>(dI m (!(a==c)) y.1).bind λe=>some ((e.1.1,e.1.2.1,()),uX)
def gR (a:Bool) (b:Bool) (c:LI) (d:Int) (f:Bool) (h:Bool) (i:LI) (j:Int):Option xu:=(zc m a b c d f h i j).bind λe=>bif !e.1.2.2.1 then (rH m).bind λg=>some ((g.1.1,g.1.2.1,g.1.2.2.1,g.1.2.2.2.1,()),uX)else (tB m e.1.1.2.1 e.1.1.2.2.1 e.1.2.1.2.1 e.1.2.1.2.2.1).bind λy=>(kg m y.1.1 y.1.2.1 (wI (e.1.1.2.2.2.1+e.1.2.1.2.2.2.1))).bind λx=>some ((x.1.1,x.1.2.1,x.1.2.2.1,x.1.2.2.2.1,()),uX)
def zd (a:Bool) (b:Bool) (c:LI) (d:Int):Option wX:=(iQ m a b c d).bind λe=>bif e.1.2.1 then (eh m e.1.1.2.1 e.1.1.2.2.1).bind λg=>some ((e.1.1.1,g.1.1,g.1.2.1,e.1.1.2.2.2.1,()),Bv)else some ((e.1.1.1,e.1.1.2.1,e.1.1.2.2.1,e.1.1.2.2.2.1,()),Bv)
def jt (a:Bool) (b:LI) (c:Int):Option wW:=(rB m a b c).bind λe=>some ((e.1.1.1,e.1.1.2.1,()),uX)
def DT (a:Bool) (b:Bool) (c:LI) (d:Int) (f:Bool) (h:Bool) (i:LI) (j:Int):Option T1:=(jt m b c (wI (d-(if j<d then j else d)))).bind λe=>(jt m h i (wI (j-(if j<d then j else d)))).bind λg=>some (((e.1.1,e.1.2.1,()),(g.1.1,g.1.2.1,()),if j<d then j else d,()),uX)
def B3 (m:Nat) (a:Int):Option pF:=some (a !=a,Bv)
def Cf (a:Int) (b:Int):Option jJ:=(B3 m a).bind λg=>(B3 m b).bind λe=>bif g.1 then bif e.1 then some (0,uX)else some ((-1),uX)else bif e.1 then some (1,uX)else bif decide (a<b)then some ((-1),uX)else bif decide (a>b)then some (1,uX)else some (0,uX)
def B0 (m:Nat) (a:Int):Option pF:=some (a !=a,Bv)
def Ce (a:Int) (b:Int):Option jJ:=(B0 m a).bind λg=>(B0 m b).bind λe=>bif g.1 then bif e.1 then some (0,uX)else some ((-1),uX)else bif e.1 then some (1,uX)else bif decide (a<b)then some ((-1),uX)else bif decide (a>b)then some (1,uX)else some (0,uX)
def jU:Nat->LI->LI->Int->Option sW
 |0,_,_,_=>none
 |n+1,a,b,c=>bif decide (c>=0)then if 0<=c/\c<(a.length:Int)then if 0<=c/\c<(b.length:Int)then bif (a.getD c.toNat 0) !=(b.getD c.toNat 0)then if 0<=c/\c<(a.length:Int)then if 0<=c/\c<(b.length:Int)then (Ce m (a.getD c.toNat 0) (b.getD c.toNat 0)).bind λe=>some (.inl (e.1,()))else none else none else jU n a b (wI (c-1))else none else none else some (.inr (.inl ()))
def tA (a:LI) (b:LI):Option jJ:=bif (a.length:Int) !=(b.length:Int)then (Cf m (a.length:Int) (b.length:Int)).bind λg=>some (g.1,uX)else (jU m m a b (wI ((a.length:Int)-1))).bind λx=>match x with
  | .inl y=>some (y.1,uX)
  | .inr (.inl z)=>some (0,uX)
  | .inr (.inr e)=>e.elim
def iM (m:Nat):Nat->LI->LI->Int->LI->Int->Int->Option pG
 |0,_,_,_,_,_,_=>none
 |n+1,a,b,c,d,f,h=>bif decide (h<f)then if 0<=h/\h<(d.length:Int)then bif decide (h<(a.length:Int))then if 0<=h/\h<(a.length:Int)then if 0<=h/\h<(b.length:Int)then iM m n a (b.set (0+h.toNat) (wK (qp .u64 (wJ ((wJ ((wJ (d.getD h.toNat 0))-c))-(wJ (a.getD h.toNat 0)))) 4294967295))) (qp .u64 (aK .u64 (wJ ((wJ ((wJ (d.getD h.toNat 0))-c))-(wJ (a.getD h.toNat 0)))) 32) 1) d f (wI (h+1))else none else none else if 0<=h/\h<(b.length:Int)then iM m n a (b.set (0+h.toNat) (wK (qp .u64 (wJ ((wJ (d.getD h.toNat 0))-c)) 4294967295))) (qp .u64 (aK .u64 (wJ ((wJ (d.getD h.toNat 0))-c)) 32) 1) d f (wI (h+1))else none else none else some (.inl (b,()))
def wh (a:LI) (b:LI):Option vL:=if 0<=(a.length:Int)/\(a.length:Int)<=(a.length:Int)/\(a.length:Int)<=1073741824 then (iM m m b (List.replicate (a.length:Int).toNat (0:Int)) 0 a (a.length:Int) 0).bind λg=>match g with
 | .inl x=>(dk m x.1).bind λy=>some (y.1,uX)
 | .inr e=>e.elim else none
def jW (a:Bool) (b:LI) (c:Bool) (d:LI):Option wW:=(dk m b).bind λe=>(dk m d).bind λg=>bif a==c then (tn m e.1 g.1).bind λA=>(dI m a A.1).bind λx=>some ((x.1.1,x.1.2.1,()),uX)else (tA m e.1 g.1).bind λB=>bif decide (B.1>=0)then (wh m e.1 g.1).bind λC=>(dI m a C.1).bind λy=>some ((y.1.1,y.1.2.1,()),uX)else (wh m g.1 e.1).bind λD=>(dI m c D.1).bind λz=>some ((z.1.1,z.1.2.1,()),uX)
def DU (a:Bool) (b:Bool) (c:LI) (d:Int) (f:Bool) (h:Bool) (i:LI) (j:Int):Option xu:=(zc m a b c d f h i j).bind λe=>bif !e.1.2.2.1 then (rH m).bind λx=>some ((x.1.1,x.1.2.1,x.1.2.2.1,x.1.2.2.2.1,()),uX)else (DT m e.1.1.1 e.1.1.2.1 e.1.1.2.2.1 e.1.1.2.2.2.1 e.1.2.1.1 e.1.2.1.2.1 e.1.2.1.2.2.1 e.1.2.1.2.2.2.1).bind λg=>(jW m g.1.1.1 g.1.1.2.1 g.1.2.1.1 g.1.2.1.2.1).bind λz=>(kg m z.1.1 z.1.2.1 g.1.2.2.1).bind λy=>some ((y.1.1,y.1.2.1,y.1.2.2.1,y.1.2.2.2.1,()),uX)
def FR (a:Bool) (b:Bool) (c:LI) (d:Int) (f:Bool) (h:Bool) (i:LI) (j:Int):Option xu:=(zd m f h i j).bind λe=>(DU m a b c d e.1.1 e.1.2.1 e.1.2.2.1 e.1.2.2.2.1).bind λg=>some ((g.1.1,g.1.2.1,g.1.2.2.1,g.1.2.2.2.1,()),uX)
def C3 (a:List bF):Option wX:=if(0:Int)<=0/\0<(a.length:Int)then if(0:Int)<=2/\2<(a.length:Int)then (gR m (a.getD 0 qz).1 (a.getD 0 qz).2.1.1 (a.getD 0 qz).2.1.2 (a.getD 0 qz).2.2 (a.getD 2 qz).1 (a.getD 2 qz).2.1.1 (a.getD 2 qz).2.1.2 (a.getD 2 qz).2.2).bind λe=>if(0:Int)<=1/\1<(a.length:Int)then if(0:Int)<=1/\1<(a.length:Int)then (gR m (a.getD 1 qz).1 (a.getD 1 qz).2.1.1 (a.getD 1 qz).2.1.2 (a.getD 1 qz).2.2 (a.getD 1 qz).1 (a.getD 1 qz).2.1.1 (a.getD 1 qz).2.1.2 (a.getD 1 qz).2.2).bind λg=>(FR m e.1.1 e.1.2.1 e.1.2.2.1 e.1.2.2.2.1 g.1.1 g.1.2.1 g.1.2.2.1 g.1.2.2.2.1).bind λx=>some ((x.1.1,x.1.2.1,x.1.2.2.1,x.1.2.2.2.1,()),Bv)else none else none else none else none
def pd (a:Bool) (b:Bool) (c:LI) (d:Int):Option lg:=(iQ m a b c d).bind λe=>(jV m e.1.1.2.1 e.1.1.2.2.1).bind λg=>some (g.1,Bv)
def kq:Nat->dA->Int->Int->Option sW
 |0,_,_,_=>none
 |n+1,a,b,c=>bif decide (c<b)then if 0<=c/\c<(a.length:Int)then bif ((a.getD c.toNat ([]:List bF)).length:Int)==3 then (C3 m (a.getD c.toNat ([]:List bF))).bind λe=>(pd m e.1.1 e.1.2.1 e.1.2.2.1 e.1.2.2.2.1).bind λg=>bif g.1==0 then some (.inl (4,()))else kq n a b (wI (c+1))else kq n a b (wI (c+1))else none else some (.inr (.inl ()))
def nt:Nat->LI->LI->LI->LI->LI->LI->Int->List LI->Int->Int->LI->Int->Int->Option ((Int×Unit)⊕(gO×List LI×Int×Int×Unit)⊕Empty)
 |0,_,_,_,_,_,_,_,_,_,_,_,_,_=>none
 |n+1,a,b,c,d,f,h,i,j,k,l,o,p,q=>bif decide (q<p)then if 0<=q/\q<(o.length:Int)then (tj m (o.getD q.toNat 0)).bind λe=>bif !e.1 then some (.inl (4,()))else nt n a b c d f h i j k l o p (wI (q+1))else none else some (.inr (.inl ((a,b,c,d,f,h,i,()),j,k,l,())))
def iU:Nat->LI->LI->LI->LI->LI->LI->Int->List LI->Int->Int->Option T0
 |0,_,_,_,_,_,_,_,_,_,_=>none
 |n+1,a,b,c,d,f,h,i,j,k,l=>bif decide (l<k)then if 0<=l/\l<(j.length:Int)then (nt m m a b c d f h i j k l (j.getD (0+l.toNat) ([]:LI)) ((j.getD (0+l.toNat) ([]:LI)).length:Int) 0).bind λx=>match x with
   | .inl y=>some (.inl (y.1,()))
   | .inr (.inl g)=>iU n g.1.1 g.1.2.1 g.1.2.2.1 g.1.2.2.2.1 g.1.2.2.2.2.1 g.1.2.2.2.2.2.1 g.1.2.2.2.2.2.2.1 g.2.1 g.2.2.1 (wI (g.2.2.2.1+1))
   | .inr (.inr e)=>e.elim else none else some (.inr (.inl ((a,b,c,d,f,h,i,()),())))
def wM (a:LI) (b:LI) (c:LI) (d:LI) (f:LI) (h:LI) (i:Int):Option lg:=bif decide ((a.length:Int)>200)then some (6,Bv)else (Dd m a).bind λz=>bif !z.1 then some (90,Bv)else bif (d.length:Int) !=(wI ((a.length:Int)+1))then some (2,Bv)else bif (f.length:Int) !=(h.length:Int)then some (2,Bv)else (Db m a b c d f h i).bind λx=>bif !x.1.2.1 then some (240,Bv)else bif decide (i<0)then some (240,Bv)else (C9 m a b c d f h i x.1.1).bind λA=>bif !A.1 then some (240,Bv)else (iU m m a b c d f h i ([h,c]:List LI) 2 0).bind λB=>match B with
        | .inl C=>some (C.1,Bv)
        | .inr (.inl g)=>(K6 m g.1.1 g.1.2.1 g.1.2.2.1 g.1.2.2.2.1 g.1.2.2.2.2.1 g.1.2.2.2.2.2.1 g.1.2.2.2.2.2.2.1).bind λy=>(kq m m y.1 (y.1.length:Int) 0).bind λD=>match D with
         | .inl E=>some (E.1,Bv)
         | .inr (.inl F)=>some (0,Bv)
         | .inr (.inr e)=>e.elim
        | .inr (.inr e)=>e.elim
def mY:Nat->Bool->Bool->LI->Int->Int->Bool->LI->cW->Int->Int->Option ((lC×Int×nE×Unit)⊕Empty)
 |0,_,_,_,_,_,_,_,_,_,_=>none
 |n+1,a,b,c,d,f,h,i,j,k,l=>bif decide (l<k)then if 0<=l/\l<(j.length:Int)then (jt m (j.getD (0+l.toNat) qz).2.1.1 (j.getD (0+l.toNat) qz).2.1.2 (wI ((j.getD (0+l.toNat) qz).2.2-f))).bind λe=>(jW m h i e.1.1 e.1.2.1).bind λg=>mY n a b c d f g.1.1 g.1.2.1 j k (wI (l+1))else none else some (.inl ((a,b,c,d,()),f,(h,i,()),()))
def mZ:Nat->Bool->Bool->LI->Int->cW->Int->cW->Int->Int->Option (RQ⊕(lC×cW×Int×Unit)⊕Empty)
 |0,_,_,_,_,_,_,_,_,_=>none
 |n+1,a,b,c,d,f,h,i,j,k=>bif decide (k<j)then if 0<=k/\k<(i.length:Int)then (iQ m (i.getD k.toNat qz).1 (i.getD k.toNat qz).2.1.1 (i.getD k.toNat qz).2.1.2 (i.getD k.toNat qz).2.2).bind λe=>bif !e.1.2.1 then (rH m).bind λg=>some (.inl ((g.1.1,g.1.2.1,g.1.2.2.1,g.1.2.2.2.1,()),()))else if f.length+([(e.1.1.1,((e.1.1.2.1,e.1.1.2.2.1),e.1.1.2.2.2.1))]:List bF).length<=1073741824 then mZ n a b c d (f++([(e.1.1.1,((e.1.1.2.1,e.1.1.2.2.1),e.1.1.2.2.2.1))]:List bF)) (if e.1.1.2.2.2.1<h then e.1.1.2.2.2.1 else h) i j (wI (k+1))else none else none else some (.inr (.inl ((a,b,c,d,()),f,h,())))
def zp (a:List bF):Option wX:=(mZ m m false false ([]:LI) 0 ([]:List bF) 0 a (a.length:Int) 0).bind λA=>match A with
 | .inl x=>some ((x.1.1,x.1.2.1,x.1.2.2.1,x.1.2.2.2.1,()),Bv)
 | .inr (.inl g)=>(mY m m g.1.1 g.1.2.1 g.1.2.2.1 g.1.2.2.2.1 g.2.2.1 false ([]:LI) g.2.1 (g.2.1.length:Int) 0).bind λB=>match B with
  | .inl z=>(kg m z.2.2.1.1 z.2.2.1.2.1 z.2.1).bind λy=>some ((y.1.1,y.1.2.1,y.1.2.2.1,y.1.2.2.2.1,()),Bv)
  | .inr e=>e.elim
 | .inr (.inr e)=>e.elim
def qO:Nat->LI->LI->Bool->Bool->LI->Int->cW->Int->Int->Option tX
 |0,_,_,_,_,_,_,_,_,_=>none
 |n+1,a,b,c,d,f,h,i,j,k=>bif decide (k<j)then if 0<=k/\k<(a.length:Int)then (en m (a.getD k.toNat 0)).bind λg=>if 0<=k/\k<(b.length:Int)then (en m (b.getD k.toNat 0)).bind λx=>(gR m g.1.1 g.1.2.1 g.1.2.2.1 g.1.2.2.2.1 x.1.1 x.1.2.1 x.1.2.2.1 x.1.2.2.2.1).bind λe=>if i.length+([(e.1.1,((e.1.2.1,e.1.2.2.1),e.1.2.2.2.1))]:List bF).length<=1073741824 then qO n a b c d f h (i++([(e.1.1,((e.1.2.1,e.1.2.2.1),e.1.2.2.2.1))]:List bF)) j (wI (k+1))else none else none else none else some (.inl ((c,d,f,h,()),i,()))
def TJ (a:LI) (b:LI):Option xu:=(qO m m a b false false ([]:LI) 0 ([]:List bF) (a.length:Int) 0).bind λx=>match x with
 | .inl y=>(zp m y.2.1).bind λg=>some ((g.1.1,g.1.2.1,g.1.2.2.1,g.1.2.2.2.1,()),uX)
 | .inr e=>e.elim
def nM (a:Bool) (b:Bool) (c:LI) (d:Int):Option wX:=(iQ m a b c d).bind λe=>some ((e.1.1.1,e.1.1.2.1,e.1.1.2.2.1,e.1.1.2.2.2.1,()),Bv)
def jQ (m:Nat):Nat->LI->Int->LI->Int->Int->Option LH
 |0,_,_,_,_,_=>none
 |n+1,a,b,c,d,f=>bif decide (f>=0)then if 0<=f/\f<(a.length:Int)then if(wJ b)≠0 then if 0<=f/\f<(c.length:Int)then if(wJ b)≠0 then jQ m n a b (c.set (0+f.toNat) (wK (wJ (Int.tdiv (bf .u64 (bz .u64 d 32) (wJ (a.getD f.toNat 0))) (wJ b))))) (Int.tmod (bf .u64 (bz .u64 d 32) (wJ (a.getD f.toNat 0))) (wJ b)) (wI (f-1))else none else none else none else none else some (.inl (c,d,()))
def x9 (a:LI) (b:Int):Option RP:=if 0<=(a.length:Int)/\(a.length:Int)<=(a.length:Int)/\(a.length:Int)<=1073741824 then (jQ m m a b (List.replicate (a.length:Int).toNat (0:Int)) 0 (wI ((a.length:Int)-1))).bind λx=>match x with
 | .inl g=>(dk m g.1).bind λy=>some ((y.1,wK g.2.1,()),uX)
 | .inr e=>e.elim else none
def jO (m:Nat):Nat->LI->Int->Int->Int->LI->Int->Int->Option ((LI×Int×Int×Int×Unit)⊕Empty)
 |0,_,_,_,_,_,_,_=>none
 |n+1,a,b,c,d,f,h,i=>bif decide (i<h)then if 0<=i/\i<(f.length:Int)then if 0<=i/\i<(a.length:Int)then if 0<=i/\i<(a.length:Int)then jO m n (a.set (0+i.toNat) (wK (qp .u64 (wJ ((wJ ((wJ (a.getD (0+i.toNat) 0))+(wJ (f.getD i.toNat 0))))+d)) 4294967295))) b c (aK .u64 (wJ ((wJ ((wJ (a.getD (0+i.toNat) 0))+(wJ (f.getD i.toNat 0))))+d)) 32) f h (wI (i+1))else none else none else none else some (.inl (a,b,c,d,()))
def jP (m:Nat):Nat->LI->LI->Int->Int->Int->Int->LI->Int->Int->Option ((LI×LI×Int×Int×Int×Int×Unit)⊕Empty)
 |0,_,_,_,_,_,_,_,_,_=>none
 |n+1,a,b,c,d,f,h,i,j,k=>bif decide (k<j)then if 0<=k/\k<(i.length:Int)then if 0<=k/\k<(a.length:Int)then if 0<=k/\k<(a.length:Int)then jP m n (a.set (0+k.toNat) (wK (qp .u64 (wJ ((wJ ((wJ (a.getD (0+k.toNat) 0))-(qp .u64 (wJ ((wJ (d*(wJ (i.getD k.toNat 0))))+f)) 4294967295)))-h)) 4294967295))) b c d (aK .u64 (wJ ((wJ (d*(wJ (i.getD k.toNat 0))))+f)) 32) (qp .u64 (aK .u64 (wJ ((wJ ((wJ (a.getD (0+k.toNat) 0))-(qp .u64 (wJ ((wJ (d*(wJ (i.getD k.toNat 0))))+f)) 4294967295)))-h)) 32) 1) i j (wI (k+1))else none else none else none else some (.inl (a,b,c,d,f,h,()))
def iK (m:Nat):Nat->LI->LI->Int->Int->Int->Option ((LI×LI×Int×Int×Unit)⊕Empty)
 |0,_,_,_,_,_=>none
 |n+1,a,b,c,d,f=>bif decide (d>4294967295)then if 0<=(wI (c-1))/\(wI (c-1))<(b.length:Int)then bif decide ((wJ (f+(wJ (b.getD (wI (c-1)).toNat 0))))>4294967295)then some (.inl (a,b,c,wJ (d-1),()))else iK m n a b c (wJ (d-1)) (wJ (f+(wJ (b.getD (wI (c-1)).toNat 0))))else none else if 0<=(wI (c-2))/\(wI (c-2))<(b.length:Int)then if 0<=(wI (c-2))/\(wI (c-2))<(a.length:Int)then bif decide ((wJ (d*(wJ (b.getD (wI (c-2)).toNat 0))))>(bf .u64 (bz .u64 f 32) (wJ (a.getD (0+(wI (c-2)).toNat) 0))))then if 0<=(wI (c-1))/\(wI (c-1))<(b.length:Int)then bif decide ((wJ (f+(wJ (b.getD (wI (c-1)).toNat 0))))>4294967295)then some (.inl (a,b,c,wJ (d-1),()))else iK m n a b c (wJ (d-1)) (wJ (f+(wJ (b.getD (wI (c-1)).toNat 0))))else none else some (.inl (a,b,c,d,()))else none else none
def BW (a:LI) (b:LI):Option (Int×LI×Unit×Unit):=if 0<=(b.length:Int)/\(b.length:Int)<(a.length:Int)then if 0<=(wI ((b.length:Int)-1))/\(wI ((b.length:Int)-1))<(a.length:Int)then if 0<=(wI ((b.length:Int)-1))/\(wI ((b.length:Int)-1))<(b.length:Int)then if(wJ (b.getD (wI ((b.length:Int)-1)).toNat 0))≠0 then if 0<=(wI ((b.length:Int)-1))/\(wI ((b.length:Int)-1))<(b.length:Int)then if(wJ (b.getD (wI ((b.length:Int)-1)).toNat 0))≠0 then (iK m m a b (b.length:Int) (wJ (Int.tdiv (bf .u64 (bz .u64 (wJ (a.getD (0+(b.length:Int).toNat) 0)) 32) (wJ (a.getD (0+(wI ((b.length:Int)-1)).toNat) 0))) (wJ (b.getD (wI ((b.length:Int)-1)).toNat 0)))) (Int.tmod (bf .u64 (bz .u64 (wJ (a.getD (0+(b.length:Int).toNat) 0)) 32) (wJ (a.getD (0+(wI ((b.length:Int)-1)).toNat) 0))) (wJ (b.getD (wI ((b.length:Int)-1)).toNat 0)))).bind λz=>match z with
 | .inl y=>(jP m m y.1 y.2.1 y.2.2.1 y.2.2.2.1 0 0 y.2.1 (y.2.1.length:Int) 0).bind λA=>match A with
  | .inl g=>if 0<=g.2.2.1/\g.2.2.1<(g.1.length:Int)then if 0<=g.2.2.1/\g.2.2.1<(g.1.length:Int)then bif (qp .u64 (aK .u64 (wJ ((wJ ((wJ (g.1.getD (0+g.2.2.1.toNat) 0))-g.2.2.2.2.1))-g.2.2.2.2.2.1)) 32) 1)==0 then some (wK g.2.2.2.1,(g.1.set (0+g.2.2.1.toNat) (wK (qp .u64 (wJ ((wJ ((wJ (g.1.getD (0+g.2.2.1.toNat) 0))-g.2.2.2.2.1))-g.2.2.2.2.2.1)) 4294967295)),(),()))else (jO m m (g.1.set (0+g.2.2.1.toNat) (wK (qp .u64 (wJ ((wJ ((wJ (g.1.getD (0+g.2.2.1.toNat) 0))-g.2.2.2.2.1))-g.2.2.2.2.2.1)) 4294967295))) g.2.2.1 g.2.2.2.1 0 g.2.1 (g.2.1.length:Int) 0).bind λB=>match B with
    | .inl x=>if 0<=x.2.1/\x.2.1<(x.1.length:Int)then if 0<=x.2.1/\x.2.1<(x.1.length:Int)then some (wK (wJ (x.2.2.1-1)),(x.1.set (0+x.2.1.toNat) (wK ((x.1.getD (0+x.2.1.toNat) 0)+(wK x.2.2.2.1))),(),()))else none else none
    | .inr e=>e.elim else none else none
  | .inr e=>e.elim
 | .inr e=>e.elim else none else none else none else none else none else none
def jS:Nat->LI->Int->LI->LI->Int->Int->Option ((LI×Int×LI×Int×Unit)⊕Empty)
 |0,_,_,_,_,_,_=>none
 |n+1,a,b,c,d,f,h=>bif decide (h>=0)then if 0<=h/\h<=(wI ((wI (h+f))+1))/\(wI ((wI (h+f))+1))<=(d.length:Int)then if 0<d.length then (BW m ((d.drop (0+h.toNat)).take ((wI ((wI (h+f))+1)).toNat-h.toNat)) c).bind λe=>if 0<=h/\h<(a.length:Int)then jS n (a.set (0+h.toNat) e.1) b c (d.take (0+h.toNat)++(e.2.1++d.drop ((0+h.toNat)+((wI ((wI (h+f))+1)).toNat-h.toNat)))) f (wI (h-1))else none else none else none else some (.inl (a,b,d,f,()))
def rA (a:LI) (b:LI):Option X1:=(tA m a b).bind λE=>bif decide (E.1<0)then (tx m a).bind λF=>some (([],F.1,()),uX)else bif (b.length:Int)==1 then if(0:Int)<=0/\0<(b.length:Int)then (x9 m a (b.getD 0 0)).bind λD=>(dk m ([D.1.2.1]:LI)).bind λG=>some ((D.1.1,G.1,()),uX)else none else if 0<=(wI ((b.length:Int)-1))/\(wI ((b.length:Int)-1))<(b.length:Int)then (tl m (b.getD (wI ((b.length:Int)-1)).toNat 0)).bind λz=>(tk m b z.1).bind λx=>if 0<=(wI ((a.length:Int)+1))/\(wI ((a.length:Int)+1))<=(wI ((a.length:Int)+1))/\(wI ((a.length:Int)+1))<=1073741824 then (tk m a z.1).bind λg=>if 0<g.1.length/\0<(List.replicate (wI ((a.length:Int)+1)).toNat (0:Int)).length then if 0<=(wI (((g.1.take (List.replicate (wI ((a.length:Int)+1)).toNat (0:Int)).length++(List.replicate (wI ((a.length:Int)+1)).toNat (0:Int)).drop g.1.length).length:Int)-(x.1.length:Int)))/\(wI (((g.1.take (List.replicate (wI ((a.length:Int)+1)).toNat (0:Int)).length++(List.replicate (wI ((a.length:Int)+1)).toNat (0:Int)).drop g.1.length).length:Int)-(x.1.length:Int)))<=(wI (((g.1.take (List.replicate (wI ((a.length:Int)+1)).toNat (0:Int)).length++(List.replicate (wI ((a.length:Int)+1)).toNat (0:Int)).drop g.1.length).length:Int)-(x.1.length:Int)))/\(wI (((g.1.take (List.replicate (wI ((a.length:Int)+1)).toNat (0:Int)).length++(List.replicate (wI ((a.length:Int)+1)).toNat (0:Int)).drop g.1.length).length:Int)-(x.1.length:Int)))<=1073741824 then (jS m m (List.replicate (wI (((g.1.take (List.replicate (wI ((a.length:Int)+1)).toNat (0:Int)).length++(List.replicate (wI ((a.length:Int)+1)).toNat (0:Int)).drop g.1.length).length:Int)-(x.1.length:Int))).toNat (0:Int)) z.1 x.1 (g.1.take (List.replicate (wI ((a.length:Int)+1)).toNat (0:Int)).length++(List.replicate (wI ((a.length:Int)+1)).toNat (0:Int)).drop g.1.length) (x.1.length:Int) (wI (((List.replicate (wI (((g.1.take (List.replicate (wI ((a.length:Int)+1)).toNat (0:Int)).length++(List.replicate (wI ((a.length:Int)+1)).toNat (0:Int)).drop g.1.length).length:Int)-(x.1.length:Int))).toNat (0:Int)).length:Int)-1))).bind λH=>match H with
   | .inl y=>if(0:Int)<=0/\0<=y.2.2.2.1/\y.2.2.2.1<=(y.2.2.1.length:Int)then (dk m (y.2.2.1.take y.2.2.2.1.toNat)).bind λA=>(we m A.1 y.2.1).bind λB=>(dk m y.1).bind λC=>some ((C.1,B.1.1,()),uX)else none
   | .inr e=>e.elim else none else none else none else none
def lZ:Nat->LI->LI->Option pG
 |0,_,_=>none
 |n+1,a,b=>(rA m a b).bind λg=>(tn m b g.1.1).bind λx=>(we m x.1 1).bind λe=>(tA m e.1.1 b).bind λy=>bif decide (y.1>=0)then some (.inl (b,()))else lZ n a e.1.1
def Cb (a:LI):Option RS:=bif (a.length:Int)==0 then some ([],Bv)else (yd m a).bind λg=>(tk m ([1]:LI) (wI (Int.tdiv (wI (g.1+1)) 2))).bind λx=>(lZ m m a x.1).bind λy=>match y with
  | .inl z=>some (z.1,Bv)
  | .inr e=>e.elim
def wv (a:Bool) (b:LI):Option ((nE×Int×Unit)×Unit×Unit):=(jV m a b).bind λg=>bif decide (g.1<0)then some (((false,[],()),11,()),Bv)else (dk m b).bind λx=>(Cb m x.1).bind λy=>(dI m false y.1).bind λe=>some (((e.1.1,e.1.2.1,()),0,()),Bv)
def tS (a:Bool) (b:LI) (c:Bool) (d:LI):Option jJ:=(jV m a b).bind λe=>(jV m c d).bind λg=>bif decide (e.1<g.1)then some ((-1),uX)else bif decide (e.1>g.1)then some (1,uX)else (dk m b).bind λx=>(dk m d).bind λy=>(tA m x.1 y.1).bind λz=>some (wI (e.1*z.1),uX)
def CT (a:Bool) (b:Bool) (c:LI) (d:Int) (f:Int):Option (TY×Unit×Unit×Unit):=(pc m b c).bind λe=>bif (Int.tmod (wI (d-(if(wI ((wI (2*(wI (f+3))))-e.1))>0 then(wI ((wI (2*(wI (f+3))))-e.1))else 0))) 2) !=0 then (jt m b c (wI ((if(wI ((wI (2*(wI (f+3))))-e.1))>0 then(wI ((wI (2*(wI (f+3))))-e.1))else 0)+1))).bind λy=>(wv m y.1.1 y.1.2.1).bind λg=>(tB m g.1.1.1 g.1.1.2.1 g.1.1.1 g.1.1.2.1).bind λA=>(tS m A.1.1 A.1.2.1 y.1.1 y.1.2.1).bind λC=>some ((false,g.1.1.1,g.1.1.2.1,wI (Int.tdiv (wI (d-(wI ((if(wI ((wI (2*(wI (f+3))))-e.1))>0 then(wI ((wI (2*(wI (f+3))))-e.1))else 0)+1)))) 2),C.1 !=0,()),uX)else (jt m b c (if(wI ((wI (2*(wI (f+3))))-e.1))>0 then(wI ((wI (2*(wI (f+3))))-e.1))else 0)).bind λz=>(wv m z.1.1 z.1.2.1).bind λx=>(tB m x.1.1.1 x.1.1.2.1 x.1.1.1 x.1.1.2.1).bind λB=>(tS m B.1.1 B.1.2.1 z.1.1 z.1.2.1).bind λD=>some ((false,x.1.1.1,x.1.1.2.1,wI (Int.tdiv (wI (d-(if(wI ((wI (2*(wI (f+3))))-e.1))>0 then(wI ((wI (2*(wI (f+3))))-e.1))else 0))) 2),D.1 !=0,()),uX)
def Cr (a:Bool) (b:Bool) (c:LI) (d:Int) (f:Bool):Option lg:=(pc m b c).bind λe=>some (wI ((wI (d+e.1))-1),Bv)
def BY (a:Bool) (b:LI) (c:Bool) (d:LI):Option wW:=(jW m a b (!c) d).bind λe=>some ((e.1.1,e.1.2.1,()),uX)
def Cc (a:Bool) (b:Bool) (c:LI) (d:Int) (f:Bool) (h:Int):Option ((nE×Int×Bool×Unit)×Unit×Unit×Unit):=(pc m b c).bind λC=>bif decide (h>C.1)then some (((false,[],()),(-1),false,()),uX)else (yr m b c h).bind λe=>(jt m e.1.1 e.1.2.1 h).bind λz=>(BY m b c z.1.1 z.1.2.1).bind λg=>(ll m 1).bind λA=>(jt m A.1.1 A.1.2.1 (wI (h-1))).bind λB=>(tS m g.1.1 g.1.2.1 B.1.1 B.1.2.1).bind λx=>bif x.1==0 then bif f then (jV m g.1.1 g.1.2.1).bind λD=>bif D.1==0 then some (((e.1.1,e.1.2.1,()),1,!f,()),uX)else some (((e.1.1,e.1.2.1,()),1,false,()),uX)else (jV m g.1.1 g.1.2.1).bind λE=>bif E.1==0 then some (((e.1.1,e.1.2.1,()),x.1,!f,()),uX)else some (((e.1.1,e.1.2.1,()),x.1,false,()),uX)else (jV m g.1.1 g.1.2.1).bind λy=>bif y.1==0 then some (((e.1.1,e.1.2.1,()),x.1,!f,()),uX)else some (((e.1.1,e.1.2.1,()),x.1,false,()),uX)
def tv (a:Bool) (b:Bool) (c:LI) (d:Int) (f:Bool) (h:Int) (i:Int):Option (nE×Unit×Unit×Unit×Unit):=bif decide (h<=d)then (jt m b c (wI (d-h))).bind λJ=>bif a then (eh m J.1.1 J.1.2.1).bind λN=>some ((N.1.1,N.1.2.1,()),Dv)else some ((J.1.1,J.1.2.1,()),Dv)else (Cc m a b c d f (wI (h-d))).bind λe=>bif e.1.2.2.1 then bif a then (eh m e.1.1.1 e.1.1.2.1).bind λP=>some ((P.1.1,P.1.2.1,()),Dv)else some ((e.1.1.1,e.1.1.2.1,()),Dv)else bif i==1 then bif a then (ll m 1).bind λQ=>(jW m e.1.1.1 e.1.1.2.1 Q.1.1 Q.1.2.1).bind λK=>bif a then (eh m K.1.1 K.1.2.1).bind λR=>some ((R.1.1,R.1.2.1,()),Dv)else some ((K.1.1,K.1.2.1,()),Dv)else bif a then (eh m e.1.1.1 e.1.1.2.1).bind λS=>some ((S.1.1,S.1.2.1,()),Dv)else some ((e.1.1.1,e.1.1.2.1,()),Dv)else bif i==2 then bif !a then (ll m 1).bind λT=>(jW m e.1.1.1 e.1.1.2.1 T.1.1 T.1.2.1).bind λg=>bif a then (eh m g.1.1 g.1.2.1).bind λz=>some ((z.1.1,z.1.2.1,()),Dv)else some ((g.1.1,g.1.2.1,()),Dv)else bif a then (eh m e.1.1.1 e.1.1.2.1).bind λA=>some ((A.1.1,A.1.2.1,()),Dv)else some ((e.1.1.1,e.1.1.2.1,()),Dv)else bif i==3 then bif a then (eh m e.1.1.1 e.1.1.2.1).bind λB=>some ((B.1.1,B.1.2.1,()),Dv)else some ((e.1.1.1,e.1.1.2.1,()),Dv)else bif decide (e.1.2.1>0)then (ll m 1).bind λC=>(jW m e.1.1.1 e.1.1.2.1 C.1.1 C.1.2.1).bind λx=>bif a then (eh m x.1.1 x.1.2.1).bind λD=>some ((D.1.1,D.1.2.1,()),Dv)else some ((x.1.1,x.1.2.1,()),Dv)else bif e.1.2.1==0 then (jV m e.1.1.1 e.1.1.2.1).bind λL=>bif L.1 !=0 then (yu m e.1.1.1 e.1.1.2.1).bind λM=>bif M.1==0 then (ll m 1).bind λE=>(jW m e.1.1.1 e.1.1.2.1 E.1.1 E.1.2.1).bind λy=>bif a then (eh m y.1.1 y.1.2.1).bind λF=>some ((F.1.1,F.1.2.1,()),Dv)else some ((y.1.1,y.1.2.1,()),Dv)else bif a then (eh m e.1.1.1 e.1.1.2.1).bind λG=>some ((G.1.1,G.1.2.1,()),Dv)else some ((e.1.1.1,e.1.1.2.1,()),Dv)else bif a then (eh m e.1.1.1 e.1.1.2.1).bind λH=>some ((H.1.1,H.1.2.1,()),Dv)else some ((e.1.1.1,e.1.1.2.1,()),Dv)else bif a then (eh m e.1.1.1 e.1.1.2.1).bind λI=>some ((I.1.1,I.1.2.1,()),Dv)else some ((e.1.1.1,e.1.1.2.1,()),Dv)
def tR (a:Bool) (b:LI):Option Bm:=(tx m b).bind λg=>(dI m false g.1).bind λe=>some ((e.1.1,e.1.2.1,()),Bv)
def mb (m:Nat):Nat->Bool->LI->Int->LI->Int->Int->Option Ys
 |0,_,_,_,_,_,_=>none
 |n+1,a,b,c,d,f,h=>bif decide (h<f)then if 0<=h/\h<(d.length:Int)then if 0<=(wI (32*h))then mb m n a b (bf .u64 c (bz .u64 (wJ (d.getD h.toNat 0)) (wI (32*h)))) d f (wI (h+1))else none else none else some (.inl ((a,b,()),c,()))
def Cq (a:Bool) (b:LI):Option XX:=(dk m b).bind λx=>bif decide ((x.1.length:Int)>2)then some ((0,false,()),Bv)else (mb m m a b 0 x.1 (x.1.length:Int) 0).bind λy=>match y with
  | .inl g=>bif g.1.1 then bif decide (g.2.1>0)then bif decide (g.2.1<=9223372036854775808)then some ((wI ((wI (0-(wI (wJ (g.2.1-1)))))-1),true,()),Bv)else bif decide (g.2.1<9223372036854775808)then bif !g.1.1 then some ((wI g.2.1,true,()),Bv)else bif g.2.1==0 then some ((wI g.2.1,true,()),Bv)else some ((0,false,()),Bv)else some ((0,false,()),Bv)else bif decide (g.2.1<9223372036854775808)then bif !g.1.1 then some ((wI g.2.1,true,()),Bv)else bif g.2.1==0 then some ((wI g.2.1,true,()),Bv)else some ((0,false,()),Bv)else some ((0,false,()),Bv)else bif decide (g.2.1<9223372036854775808)then bif !g.1.1 then some ((wI g.2.1,true,()),Bv)else bif g.2.1==0 then some ((wI g.2.1,true,()),Bv)else some ((0,false,()),Bv)else some ((0,false,()),Bv)
  | .inr e=>e.elim
def jr (m:Nat) (a:Int) (b:Bool):Option jJ:=bif b then some (bf .u64 a 9223372036854775808,uX)else some (a,uX)
def yk (a:Bool) (b:Int):Option jJ:=bif b==3 then (jr m 9218868437227405311 a).bind λe=>some (e.1,uX)else bif b==1 then bif !a then (jr m 9218868437227405311 a).bind λg=>some (g.1,uX)else bif b==2 then bif a then (jr m 9218868437227405311 a).bind λx=>some (x.1,uX)else (jr m 9218868437227405312 a).bind λy=>some (y.1,uX)else (jr m 9218868437227405312 a).bind λz=>some (z.1,uX)else bif b==2 then bif a then (jr m 9218868437227405311 a).bind λA=>some (A.1,uX)else (jr m 9218868437227405312 a).bind λB=>some (B.1,uX)else (jr m 9218868437227405312 a).bind λC=>some (C.1,uX)
def wB (a:Bool) (b:Bool) (c:LI) (d:Int) (f:Bool) (h:Int):Option jJ:=(Cr m a b c d f).bind λe=>(tv m a b c d f (if(-1074)>(wI (e.1-52))then(-1074)else(wI (e.1-52))) h).bind λx=>(tR m x.1.1 x.1.2.1).bind λy=>(Cq m y.1.1 y.1.2.1).bind λg=>bif (wJ g.1.1)==9007199254740992 then bif decide ((wI ((wI ((if(-1074)>(wI (e.1-52))then(-1074)else(wI (e.1-52)))+1))+1075))>=2047)then (yk m a h).bind λz=>some (z.1,uX)else (jr m (bf .u64 (bz .u64 (wJ (wI ((wI ((if(-1074)>(wI (e.1-52))then(-1074)else(wI (e.1-52)))+1))+1075))) 52) 0) a).bind λA=>some (A.1,uX)else bif decide ((wJ g.1.1)<4503599627370496)then (jr m (wJ g.1.1) a).bind λB=>some (B.1,uX)else bif decide ((wI ((if(-1074)>(wI (e.1-52))then(-1074)else(wI (e.1-52)))+1075))>=2047)then (yk m a h).bind λC=>some (C.1,uX)else (jr m (bf .u64 (bz .u64 (wJ (wI ((if(-1074)>(wI (e.1-52))then(-1074)else(wI (e.1-52)))+1075))) 52) (wJ ((wJ g.1.1)-4503599627370496))) a).bind λD=>some (D.1,uX)
def Ew (a:Bool) (b:Bool) (c:LI) (d:Int) (f:Int):Option jJ:=(nM m a b c d).bind λe=>bif e.1.1 then some (9221120237041090560,uX)else (pd m e.1.1 e.1.2.1 e.1.2.2.1 e.1.2.2.2.1).bind λx=>bif decide (x.1<0)then some (9221120237041090560,uX)else (pd m e.1.1 e.1.2.1 e.1.2.2.1 e.1.2.2.2.1).bind λy=>bif y.1==0 then some (0,uX)else (CT m e.1.1 e.1.2.1 e.1.2.2.1 e.1.2.2.2.1 56).bind λg=>(wB m g.1.1 g.1.2.1 g.1.2.2.1 g.1.2.2.2.1 g.1.2.2.2.2.1 f).bind λz=>some (z.1,uX)
def Ml (a:LI):Option lg:=(TJ m a a).bind λe=>(Ew m e.1.1 e.1.2.1 e.1.2.2.1 e.1.2.2.2.1 0).bind λg=>some (g.1,Bv)
def Ks (a:Int):Option lg:=(r8 m a).bind λe=>bif e.1.1==2047 then bif e.1.2.1 !=0 then some (3,Bv)else bif e.1.1==2047 then some (2,Bv)else bif e.1.1==0 then bif e.1.2.1==0 then some (0,Bv)else some (1,Bv)else some (1,Bv)else bif e.1.1==2047 then some (2,Bv)else bif e.1.1==0 then bif e.1.2.1==0 then some (0,Bv)else some (1,Bv)else some (1,Bv)
def yj (a:Bool) (b:LI) (c:Bool) (d:LI):Option T1:=(dk m d).bind λy=>bif (y.1.length:Int)==0 then some (((false,[],()),(false,[],()),8,()),uX)else (dk m b).bind λD=>(rA m D.1 y.1).bind λe=>bif a then bif decide ((e.1.2.1.length:Int)>0)then (tn m e.1.1 ([1]:LI)).bind λE=>(wh m y.1 e.1.2.1).bind λF=>(dI m (!(a==c)) E.1).bind λz=>(dI m false F.1).bind λA=>some (((z.1.1,z.1.2.1,()),(A.1.1,A.1.2.1,()),0,()),uX)else (dI m (!(a==c)) e.1.1).bind λB=>(dI m false e.1.2.1).bind λC=>some (((B.1.1,B.1.2.1,()),(C.1.1,C.1.2.1,()),0,()),uX)else (dI m (!(a==c)) e.1.1).bind λg=>(dI m false e.1.2.1).bind λx=>some (((g.1.1,g.1.2.1,()),(x.1.1,x.1.2.1,()),0,()),uX)
def CR (a:Bool) (b:Bool) (c:LI) (d:Int) (f:Bool) (h:Bool) (i:LI) (j:Int) (k:Int):Option (TY×Unit×Unit×Unit×Unit):=(pc m h i).bind λe=>(pc m b c).bind λg=>(tR m b c).bind λy=>(jt m y.1.1 y.1.2.1 (if(wI ((wI ((wI (k+3))+e.1))-g.1))>0 then(wI ((wI ((wI (k+3))+e.1))-g.1))else 0)).bind λz=>(tR m h i).bind λA=>(yj m z.1.1 z.1.2.1 A.1.1 A.1.2.1).bind λx=>(jV m x.1.2.1.1 x.1.2.1.2.1).bind λB=>some ((!(b==h),x.1.1.1,x.1.1.2.1,wI ((wI (d-(if(wI ((wI ((wI (k+3))+e.1))-g.1))>0 then(wI ((wI ((wI (k+3))+e.1))-g.1))else 0)))-j),B.1 !=0,()),Dv)
def ua (a:Bool) (b:Bool) (c:LI) (d:Int) (f:Bool) (h:Bool) (i:LI) (j:Int) (k:Int):Option MN:=(nM m a b c d).bind λe=>(nM m f h i j).bind λg=>bif e.1.1 then some (9221120237041090560,Dv)else bif g.1.1 then some (9221120237041090560,Dv)else (pd m g.1.1 g.1.2.1 g.1.2.2.1 g.1.2.2.2.1).bind λy=>bif y.1==0 then some (9221120237041090560,Dv)else (pd m e.1.1 e.1.2.1 e.1.2.2.1 e.1.2.2.2.1).bind λz=>bif z.1==0 then some (0,Dv)else (CR m e.1.1 e.1.2.1 e.1.2.2.1 e.1.2.2.2.1 g.1.1 g.1.2.1 g.1.2.2.1 g.1.2.2.2.1 56).bind λx=>(wB m x.1.1 x.1.2.1 x.1.2.2.1 x.1.2.2.2.1 x.1.2.2.2.2.1 k).bind λA=>some (A.1,Dv)
def K4 (a:Int):Option pF:=(tj m a).bind λe=>some (!e.1,Bv)
def me:Nat->LI->Int->Int->Option sW
 |0,_,_,_=>none
 |n+1,a,b,c=>bif decide (c<b)then if 0<=c/\c<(a.length:Int)then (K4 m (a.getD c.toNat 0)).bind λe=>bif e.1 then some (.inl (c,()))else me n a b (wI (c+1))else none else some (.inr (.inl ()))
def KV (a:LI):Option jJ:=(me m m a (a.length:Int) 0).bind λg=>match g with
 | .inl x=>some (x.1,uX)
 | .inr (.inl y)=>some ((-1),uX)
 | .inr (.inr e)=>e.elim
def K5 (a:LI):Option vK:=(KV m a).bind λe=>some (decide (e.1>=0),uX)
def wH (a:LI):Option pF:=(K5 m a).bind λe=>some (!e.1,Bv)
def rj:Nat->Int->LI->LI->Int->Int->Option pG
 |0,_,_,_,_,_=>none
 |n+1,a,b,c,d,f=>bif decide (f<d)then if 0<=f/\f<(c.length:Int)then (en m (c.getD f.toNat 0)).bind λe=>(en m a).bind λg=>(ua m e.1.1 e.1.2.1 e.1.2.2.1 e.1.2.2.2.1 g.1.1 g.1.2.1 g.1.2.2.1 g.1.2.2.2.1 0).bind λx=>if b.length+([x.1]:LI).length<=1073741824 then rj n a (b++([x.1]:LI)) c d (wI (f+1))else none else none else some (.inl (b,()))
def Mk (a:LI) (b:Int):Option RR:=(rj m m b ([]:LI) a (a.length:Int) 0).bind λx=>match x with
 | .inl g=>(wH m g.1).bind λy=>some ((g.1,y.1,()),uX)
 | .inr e=>e.elim
def XH (a:LI) (b:LI) (c:LI) (d:LI) (f:LI) (h:LI) (i:Int) (j:LI) (k:Int):Option (Bn×Unit×Unit×Unit×Unit):=(wM m a b c d f h i).bind λe=>bif e.1 !=0 then bif e.1 !=0 then some (([],e.1,()),Dv)else (Ml m j).bind λx=>(Ks m x.1).bind λA=>bif A.1==0 then some (([],380,()),Dv)else (tj m x.1).bind λB=>bif !B.1 then some (([],233,()),Dv)else (Mk m j x.1).bind λz=>bif !z.1.2.1 then some (([],233,()),Dv)else some ((z.1.1,0,()),Dv)else bif (j.length:Int) !=(a.length:Int)then some (([],2,()),Dv)else (wH m j).bind λC=>bif !C.1 then some (([],4,()),Dv)else bif decide (k<1)then some (([],350,()),Dv)else bif decide (k>16)then some (([],350,()),Dv)else bif e.1 !=0 then some (([],e.1,()),Dv)else (Ml m j).bind λy=>(Ks m y.1).bind λD=>bif D.1==0 then some (([],380,()),Dv)else (tj m y.1).bind λE=>bif !E.1 then some (([],233,()),Dv)else (Mk m j y.1).bind λg=>bif !g.1.2.1 then some (([],233,()),Dv)else some ((g.1.1,0,()),Dv)
def mc:Nat->LI->Int->Int->Option sW
 |0,_,_,_=>none
 |n+1,a,b,c=>bif decide (c<b)then if 0<=c/\c<(a.length:Int)then (tj m (a.getD c.toNat 0)).bind λe=>bif !e.1 then some (.inl (4,()))else mc n a b (wI (c+1))else none else some (.inr (.inl ()))
def ym (a:LI):Option lg:=(mc m m a (a.length:Int) 0).bind λg=>match g with
 | .inl x=>some (x.1,Bv)
 | .inr (.inl y)=>some (0,Bv)
 | .inr (.inr e)=>e.elim
def C2 (a:LI) (b:Int):Option jJ:=bif (a.length:Int) !=b then some (2,uX)else (ym m a).bind λe=>some (e.1,uX)
def jZ:Nat->LI->LI->LI->LI->LI->LI->Int->Int->LI->Int->Int->Option sX
 |0,_,_,_,_,_,_,_,_,_,_,_=>none
 |n+1,a,b,c,d,f,h,i,j,k,l,o=>bif decide (o<l)then if 0<=o/\o<(k.length:Int)then bif (k.getD o.toNat 0)==1 then if 0<=j/\j<(c.length:Int)then (Ks m (c.getD j.toNat 0)).bind λe=>bif e.1==0 then some (.inl (true,()))else jZ n a b c d f h i (wI (j+(wI ((wI (2*(k.getD o.toNat 0)))-1)))) k l (wI (o+1))else none else jZ n a b c d f h i (wI (j+(wI ((wI (2*(k.getD o.toNat 0)))-1)))) k l (wI (o+1))else none else some (.inr (.inl ()))
def yF (a:LI) (b:LI) (c:LI) (d:LI) (f:LI) (h:LI) (i:Int):Option pF:=(jZ m m a b c d f h i 0 b (b.length:Int) 0).bind λg=>match g with
 | .inl x=>some (x.1,Bv)
 | .inr (.inl y)=>some (false,Bv)
 | .inr (.inr e)=>e.elim
def mA (m:Nat):Nat->LI->LI->LI->Int->Int->Option pG
 |0,_,_,_,_,_=>none
 |n+1,a,b,c,d,f=>bif decide (f<d)then if 0<=f/\f<(c.length:Int)then if 0<=(c.getD f.toNat 0)/\(c.getD f.toNat 0)<(a.length:Int)then if 0<=f/\f<(b.length:Int)then mA m n a (b.set (0+f.toNat) (a.getD (c.getD f.toNat 0).toNat 0)) c d (wI (f+1))else none else none else none else some (.inl (b,()))
def tI (a:LI) (b:LI):Option vL:=if 0<=(a.length:Int)/\(a.length:Int)<=(a.length:Int)/\(a.length:Int)<=1073741824 then (mA m m a (List.replicate (a.length:Int).toNat (0:Int)) b (b.length:Int) 0).bind λg=>match g with
 | .inl x=>some (x.1,uX)
 | .inr e=>e.elim else none
def mz:Nat->dA->LI->Int->Int->Option YK
 |0,_,_,_,_=>none
 |n+1,a,b,c,d=>bif decide (d<c)then if 0<=d/\d<(b.length:Int)then (en m (b.getD d.toNat 0)).bind λe=>if 0<=d/\d<(a.length:Int)then mz n (a.set d.toNat ([(e.1.1,((e.1.2.1,e.1.2.2.1),e.1.2.2.2.1))]:List bF)) b c (wI (d+1))else none else none else some (.inl (a,()))
def rJ (a:LI):Option YH:=if 0<=(a.length:Int)/\(a.length:Int)<=(a.length:Int)/\(a.length:Int)<=1073741824 then (mz m m (List.replicate (a.length:Int).toNat ([]:List bF)) a (a.length:Int) 0).bind λg=>match g with
 | .inl x=>some (x.1,Bv)
 | .inr e=>e.elim else none
def jv:Nat->cW->Bool->Bool->LI->Int->Int->Bool->LI->cW->Int->Int->Option ((cW×lC×Int×nE×Unit)⊕Empty)
 |0,_,_,_,_,_,_,_,_,_,_,_=>none
 |n+1,a,b,c,d,f,h,i,j,k,l,o=>bif decide (o<l)then if 0<=o/\o<(k.length:Int)then (jt m (k.getD (0+o.toNat) qz).2.1.1 (k.getD (0+o.toNat) qz).2.1.2 (wI ((k.getD (0+o.toNat) qz).2.2-h))).bind λe=>(jW m i j e.1.1 e.1.2.1).bind λg=>jv n a b c d f h g.1.1 g.1.2.1 k l (wI (o+1))else none else some (.inl (a,(b,c,d,f,()),h,(i,j,()),()))
def jx:Nat->cW->Bool->Bool->LI->Int->cW->Int->Int->Int->Option ((cW×lC×Unit)⊕(cW×lC×cW×Int×Unit)⊕Empty)
 |0,_,_,_,_,_,_,_,_,_=>none
 |n+1,a,b,c,d,f,h,i,j,k=>bif decide (k<j)then if 0<=k/\k<(a.length:Int)then (iQ m (a.getD (0+k.toNat) qz).1 (a.getD (0+k.toNat) qz).2.1.1 (a.getD (0+k.toNat) qz).2.1.2 (a.getD (0+k.toNat) qz).2.2).bind λe=>bif !e.1.2.1 then (rH m).bind λg=>some (.inl (a,(g.1.1,g.1.2.1,g.1.2.2.1,g.1.2.2.2.1,()),()))else if h.length+([(e.1.1.1,((e.1.1.2.1,e.1.1.2.2.1),e.1.1.2.2.2.1))]:List bF).length<=1073741824 then jx n a b c d f (h++([(e.1.1.1,((e.1.1.2.1,e.1.1.2.2.1),e.1.1.2.2.2.1))]:List bF)) (if e.1.1.2.2.2.1<i then e.1.1.2.2.2.1 else i) j (wI (k+1))else none else none else some (.inr (.inl (a,(b,c,d,f,()),h,i,())))
def rN (a:List bF):Option (lC×cW×Unit):=(jx m m a false false ([]:LI) 0 ([]:List bF) 0 (a.length:Int) 0).bind λA=>match A with
 | .inl x=>some ((x.2.1.1,x.2.1.2.1,x.2.1.2.2.1,x.2.1.2.2.2.1,()),(x.1,()))
 | .inr (.inl g)=>(jv m m g.1 g.2.1.1 g.2.1.2.1 g.2.1.2.2.1 g.2.1.2.2.2.1 g.2.2.2.1 false ([]:LI) g.2.2.1 (g.2.2.1.length:Int) 0).bind λB=>match B with
  | .inl y=>(kg m y.2.2.2.1.1 y.2.2.2.1.2.1 y.2.2.1).bind λz=>some ((z.1.1,z.1.2.1,z.1.2.2.1,z.1.2.2.2.1,()),(y.1,()))
  | .inr e=>e.elim
 | .inr (.inr e)=>e.elim
def yB (a:List cW) (b:Int):Option (lC×dA×Unit×Unit):=if 0<=b/\b<(a.length:Int)then (rN m (a.getD b.toNat ([]:List bF))).bind λe=>some ((e.1.1,e.1.2.1,e.1.2.2.1,e.1.2.2.2.1,()),(a.set b.toNat e.2.1,(),()))else none
def K3 (a:Bool) (b:Bool) (c:LI) (d:Int):Option (TY×Unit×Unit):=(tR m b c).bind λe=>some ((b,e.1.1,e.1.2.1,d,false,()),Bv)
def r9 (a:Bool) (b:Bool) (c:LI) (d:Int) (f:Int):Option jJ:=(nM m a b c d).bind λe=>bif e.1.1 then some (9221120237041090560,uX)else (pd m e.1.1 e.1.2.1 e.1.2.2.1 e.1.2.2.2.1).bind λx=>bif x.1==0 then some (0,uX)else (K3 m e.1.1 e.1.2.1 e.1.2.2.1 e.1.2.2.2.1).bind λg=>(wB m g.1.1 g.1.2.1 g.1.2.2.1 g.1.2.2.2.1 g.1.2.2.2.2.1 f).bind λy=>some (y.1,uX)
def yC (a:List cW) (b:Int) (c:Int) (d:Int):Option (Unit×dA×Unit×Unit×Unit×Unit):=if 0<=b/\b<(a.length:Int)then (en m c).bind λg=>(en m d).bind λx=>(gR m g.1.1 g.1.2.1 g.1.2.2.1 g.1.2.2.2.1 x.1.1 x.1.2.1 x.1.2.2.1 x.1.2.2.2.1).bind λy=>(zd m y.1.1 y.1.2.1 y.1.2.2.1 y.1.2.2.2.1).bind λe=>if(a.getD b.toNat ([]:List bF)).length+([(e.1.1,((e.1.2.1,e.1.2.2.1),e.1.2.2.2.1))]:List bF).length<=1073741824 then if 0<=b/\b<(a.length:Int)then if b.toNat=b.toNat then some ((),(a.set b.toNat ((a.getD b.toNat ([]:List bF))++([(e.1.1,((e.1.2.1,e.1.2.2.1),e.1.2.2.2.1))]:List bF)),(),(),(),()))else none else none else none else none
def mB:Nat->LI->LI->LI->dA->LI->Int->Int->Int->Int->Option ((LI×LI×LI×dA×LI×Int×Int×Unit)⊕Empty)
 |0,_,_,_,_,_,_,_,_,_=>none
 |n+1,a,b,c,d,f,h,i,j,k=>if 0<=(wI (h+1))/\(wI (h+1))<(a.length:Int)then bif decide (i<(a.getD (wI (h+1)).toNat 0))then if 0<=i/\i<(b.length:Int)then if 0<=i/\i<(c.length:Int)then if 0<=h/\h<(f.length:Int)then (yC m d (b.getD i.toNat 0) (c.getD i.toNat 0) (f.getD (0+h.toNat) 0)).bind λe=>mB n a b c e.2.1 f h (wI (i+1)) j k else none else none else none else some (.inl (a,b,c,d,f,j,k,()))else none
def mD:Nat->LI->LI->LI->dA->LI->Int->Int->Option (Bn⊕(LI×Unit)⊕Empty)
 |0,_,_,_,_,_,_,_=>none
 |n+1,a,b,c,d,f,h,i=>bif decide (i<h)then (yB m d i).bind λx=>(r9 m x.1.1 x.1.2.1 x.1.2.2.1 x.1.2.2.2.1 0).bind λy=>if 0<=i/\i<(f.length:Int)then if 0<=i/\i<((f.set (0+i.toNat) y.1).length:Int)then (tj m ((f.set (0+i.toNat) y.1).getD (0+i.toNat) 0)).bind λz=>bif !z.1 then some (.inl ([],233,()))else if 0<=i/\i<(a.length:Int)then (mB m m a b c x.2.1 (f.set (0+i.toNat) y.1) i (a.getD i.toNat 0) h i).bind λA=>match A with
    | .inl g=>mD n g.1 g.2.1 g.2.2.1 g.2.2.2.1 g.2.2.2.2.1 g.2.2.2.2.2.1 (wI (g.2.2.2.2.2.2.1+1))
    | .inr e=>e.elim else none else none else none else some (.inr (.inl (f,())))
def tL (a:LI) (b:LI) (c:LI) (d:LI):Option (Bn×Unit×Unit×Unit×Unit×Unit):=(rJ m d).bind λx=>if 0<=(d.length:Int)/\(d.length:Int)<=(d.length:Int)/\(d.length:Int)<=1073741824 then (mD m m a b c x.1 (List.replicate (d.length:Int).toNat (0:Int)) (d.length:Int) 0).bind λy=>match y with
 | .inl g=>some ((g.1,g.2.1,()),Ue1)
 | .inr (.inl z)=>some ((z.1,0,()),Ue1)
 | .inr (.inr e)=>e.elim else none
def jY:Nat->LI->LI->LI->LI->LI->LI->LI->Int->LI->Int->Int->LI->Int->Int->Option pG
 |0,_,_,_,_,_,_,_,_,_,_,_,_,_,_=>none
 |n+1,a,b,c,d,f,h,i,j,k,l,o,p,q,r=>bif decide (r<q)then if 0<=r/\r<(p.length:Int)then bif (p.getD r.toNat 0)==1 then if 0<=l/\l<(a.length:Int)then (en m (a.getD l.toNat 0)).bind λI=>if 0<=o/\o<(d.length:Int)then (en m (d.getD o.toNat 0)).bind λJ=>(ua m I.1.1 I.1.2.1 I.1.2.2.1 I.1.2.2.2.1 J.1.1 J.1.2.1 J.1.2.2.1 J.1.2.2.2.1 0).bind λN=>if 0<=l/\l<(k.length:Int)then jY n a b c d f h i j (k.set (0+l.toNat) N.1) (wI (l+(p.getD r.toNat 0))) (wI ((wI (o+(wI (2*(p.getD r.toNat 0)))))-1)) p q (wI (r+1))else none else none else none else if 0<=o/\o<(d.length:Int)then (en m (d.getD o.toNat 0)).bind λE=>if 0<=(wI (o+1))/\(wI (o+1))<(d.length:Int)then (en m (d.getD (wI (o+1)).toNat 0)).bind λx=>if 0<=(wI (o+2))/\(wI (o+2))<(d.length:Int)then (en m (d.getD (wI (o+2)).toNat 0)).bind λF=>(gR m E.1.1 E.1.2.1 E.1.2.2.1 E.1.2.2.2.1 F.1.1 F.1.2.1 F.1.2.2.1 F.1.2.2.2.1).bind λK=>(gR m x.1.1 x.1.2.1 x.1.2.2.1 x.1.2.2.2.1 x.1.1 x.1.2.1 x.1.2.2.1 x.1.2.2.2.1).bind λL=>(FR m K.1.1 K.1.2.1 K.1.2.2.1 K.1.2.2.2.1 L.1.1 L.1.2.1 L.1.2.2.1 L.1.2.2.2.1).bind λG=>if 0<=l/\l<(a.length:Int)then (en m (a.getD l.toNat 0)).bind λe=>if 0<=(wI (l+1))/\(wI (l+1))<(a.length:Int)then (en m (a.getD (wI (l+1)).toNat 0)).bind λg=>(gR m e.1.1 e.1.2.1 e.1.2.2.1 e.1.2.2.2.1 F.1.1 F.1.2.1 F.1.2.2.1 F.1.2.2.2.1).bind λy=>(gR m g.1.1 g.1.2.1 g.1.2.2.1 g.1.2.2.2.1 x.1.1 x.1.2.1 x.1.2.2.1 x.1.2.2.2.1).bind λz=>(FR m y.1.1 y.1.2.1 y.1.2.2.1 y.1.2.2.2.1 z.1.1 z.1.2.1 z.1.2.2.1 z.1.2.2.2.1).bind λA=>(ua m A.1.1 A.1.2.1 A.1.2.2.1 A.1.2.2.2.1 G.1.1 G.1.2.1 G.1.2.2.1 G.1.2.2.2.1 0).bind λH=>if 0<=l/\l<(k.length:Int)then (gR m g.1.1 g.1.2.1 g.1.2.2.1 g.1.2.2.2.1 E.1.1 E.1.2.1 E.1.2.2.1 E.1.2.2.2.1).bind λB=>(gR m e.1.1 e.1.2.1 e.1.2.2.1 e.1.2.2.2.1 x.1.1 x.1.2.1 x.1.2.2.1 x.1.2.2.2.1).bind λC=>(FR m B.1.1 B.1.2.1 B.1.2.2.1 B.1.2.2.2.1 C.1.1 C.1.2.1 C.1.2.2.1 C.1.2.2.2.1).bind λD=>(ua m D.1.1 D.1.2.1 D.1.2.2.1 D.1.2.2.2.1 G.1.1 G.1.2.1 G.1.2.2.1 G.1.2.2.2.1 0).bind λM=>if 0<=(wI (l+1))/\(wI (l+1))<((k.set (0+l.toNat) H.1).length:Int)then jY n a b c d f h i j ((k.set (0+l.toNat) H.1).set (0+(wI (l+1)).toNat) M.1) (wI (l+(p.getD r.toNat 0))) (wI ((wI (o+(wI (2*(p.getD r.toNat 0)))))-1)) p q (wI (r+1))else none else none else none else none else none else none else none else none else some (.inl (k,()))
def tG (a:LI) (b:LI) (c:LI) (d:LI) (f:LI) (h:LI) (i:Int) (j:LI):Option RP:=if 0<=(j.length:Int)/\(j.length:Int)<=(j.length:Int)/\(j.length:Int)<=1073741824 then (jY m m j a b c d f h i (List.replicate (j.length:Int).toNat (0:Int)) 0 0 b (b.length:Int) 0).bind λx=>match x with
 | .inl g=>(ym m g.1).bind λy=>bif y.1 !=0 then some (([],233,()),uX)else some ((g.1,0,()),uX)
 | .inr e=>e.elim else none
def my (m:Nat):Nat->LI->LI->LI->Int->Int->Option pG
 |0,_,_,_,_,_=>none
 |n+1,a,b,c,d,f=>bif decide (f<d)then if 0<=f/\f<(c.length:Int)then if 0<=f/\f<(a.length:Int)then if 0<=(c.getD f.toNat 0)/\(c.getD f.toNat 0)<(b.length:Int)then my m n a (b.set (0+(c.getD f.toNat 0).toNat) (a.getD f.toNat 0)) c d (wI (f+1))else none else none else none else some (.inl (b,()))
def tE (a:LI) (b:LI):Option vL:=if 0<=(a.length:Int)/\(a.length:Int)<=(a.length:Int)/\(a.length:Int)<=1073741824 then (my m m a (List.replicate (a.length:Int).toNat (0:Int)) b (b.length:Int) 0).bind λg=>match g with
 | .inl x=>some (x.1,uX)
 | .inr e=>e.elim else none
def nr:Nat->LI->LI->LI->LI->LI->LI->Int->dA->LI->Int->Int->Option ((gO×dA×LI×Int×Unit)⊕Empty)
 |0,_,_,_,_,_,_,_,_,_,_,_=>none
 |n+1,a,b,c,d,f,h,i,j,k,l,o=>if 0<=(wI (l+1))/\(wI (l+1))<(d.length:Int)then bif decide (o<(d.getD (wI (l+1)).toNat 0))then if 0<=o/\o<(h.length:Int)then if 0<=o/\o<(f.length:Int)then if 0<=(f.getD o.toNat 0)/\(f.getD o.toNat 0)<(k.length:Int)then (yC m j l (h.getD o.toNat 0) (k.getD (0+(f.getD o.toNat 0).toNat) 0)).bind λe=>nr n a b c d f h i e.2.1 k l (wI (o+1))else none else none else none else some (.inl ((a,b,c,d,f,h,i,()),j,k,l,()))else none
def fx:Nat->LI->LI->LI->LI->LI->LI->Int->dA->LI->Int->Option tZ
 |0,_,_,_,_,_,_,_,_,_,_=>none
 |n+1,a,b,c,d,f,h,i,j,k,l=>bif decide (l>=0)then if 0<=l/\l<(d.length:Int)then (nr m m a b c d f h i j k l (d.getD l.toNat 0)).bind λz=>match z with
   | .inl g=>(yB m g.2.1 g.2.2.2.1).bind λx=>(r9 m x.1.1 x.1.2.1 x.1.2.2.1 x.1.2.2.2.1 0).bind λy=>if 0<=g.2.2.2.1/\g.2.2.2.1<(g.2.2.1.length:Int)then if 0<=g.2.2.2.1/\g.2.2.2.1<((g.2.2.1.set (0+g.2.2.2.1.toNat) y.1).length:Int)then (tj m ((g.2.2.1.set (0+g.2.2.2.1.toNat) y.1).getD (0+g.2.2.2.1.toNat) 0)).bind λA=>bif !A.1 then some (.inl ([],233,()))else fx n g.1.1 g.1.2.1 g.1.2.2.1 g.1.2.2.2.1 g.1.2.2.2.2.1 g.1.2.2.2.2.2.1 g.1.2.2.2.2.2.2.1 x.2.1 (g.2.2.1.set (0+g.2.2.2.1.toNat) y.1) (wI (g.2.2.2.1-1))else none else none
   | .inr e=>e.elim else none else some (.inr (.inl ((a,b,c,d,f,h,i,()),k,())))
def Ao (a:LI) (b:LI) (c:LI) (d:LI) (f:LI) (h:LI) (i:Int) (j:LI):Option RP:=(wM m a b c d f h i).bind λD=>bif D.1==0 then (C2 m j (a.length:Int)).bind λE=>bif E.1==0 then (yF m a b c d f h i).bind λp=>bif p.1 then some (([],9,()),uX)else bif E.1 !=0 then some (([],E.1,()),uX)else (tI m j a).bind λq=>(tL m d f h q.1).bind λM=>bif M.1.2.1 !=0 then some (([],M.1.2.1,()),uX)else (tG m a b c d f h i M.1.1).bind λz=>bif z.1.2.1 !=0 then some (([],z.1.2.1,()),uX)else (rJ m z.1.1).bind λr=>if 0<=(z.1.1.length:Int)/\(z.1.1.length:Int)<=(z.1.1.length:Int)/\(z.1.1.length:Int)<=1073741824 then (fx m m a b c d f h i r.1 (List.replicate (z.1.1.length:Int).toNat (0:Int)) (wI ((z.1.1.length:Int)-1))).bind λs=>match s with
       | .inl o=>some ((o.1,o.2.1,()),uX)
       | .inr (.inl F)=>(tE m F.2.1 F.1.1).bind λN=>some ((N.1,0,()),uX)
       | .inr (.inr e)=>e.elim else none else bif E.1 !=0 then some (([],E.1,()),uX)else (tI m j a).bind λP=>(tL m d f h P.1).bind λA=>bif A.1.2.1 !=0 then some (([],A.1.2.1,()),uX)else (tG m a b c d f h i A.1.1).bind λg=>bif g.1.2.1 !=0 then some (([],g.1.2.1,()),uX)else (rJ m g.1.1).bind λQ=>if 0<=(g.1.1.length:Int)/\(g.1.1.length:Int)<=(g.1.1.length:Int)/\(g.1.1.length:Int)<=1073741824 then (fx m m a b c d f h i Q.1 (List.replicate (g.1.1.length:Int).toNat (0:Int)) (wI ((g.1.1.length:Int)-1))).bind λR=>match R with
      | .inl G=>some ((G.1,G.2.1,()),uX)
      | .inr (.inl H)=>(tE m H.2.1 H.1.1).bind λS=>some ((S.1,0,()),uX)
      | .inr (.inr e)=>e.elim else none else bif D.1==0 then (yF m a b c d f h i).bind λT=>bif T.1 then some (([],9,()),uX)else bif D.1 !=0 then some (([],D.1,()),uX)else (tI m j a).bind λU=>(tL m d f h U.1).bind λB=>bif B.1.2.1 !=0 then some (([],B.1.2.1,()),uX)else (tG m a b c d f h i B.1.1).bind λx=>bif x.1.2.1 !=0 then some (([],x.1.2.1,()),uX)else (rJ m x.1.1).bind λV=>if 0<=(x.1.1.length:Int)/\(x.1.1.length:Int)<=(x.1.1.length:Int)/\(x.1.1.length:Int)<=1073741824 then (fx m m a b c d f h i V.1 (List.replicate (x.1.1.length:Int).toNat (0:Int)) (wI ((x.1.1.length:Int)-1))).bind λW=>match W with
       | .inl I=>some ((I.1,I.2.1,()),uX)
       | .inr (.inl J)=>(tE m J.2.1 J.1.1).bind λX=>some ((X.1,0,()),uX)
       | .inr (.inr e)=>e.elim else none else bif D.1 !=0 then some (([],D.1,()),uX)else (tI m j a).bind λY=>(tL m d f h Y.1).bind λC=>bif C.1.2.1 !=0 then some (([],C.1.2.1,()),uX)else (tG m a b c d f h i C.1.1).bind λy=>bif y.1.2.1 !=0 then some (([],y.1.2.1,()),uX)else (rJ m y.1.1).bind λZ=>if 0<=(y.1.1.length:Int)/\(y.1.1.length:Int)<=(y.1.1.length:Int)/\(y.1.1.length:Int)<=1073741824 then (fx m m a b c d f h i Z.1 (List.replicate (y.1.1.length:Int).toNat (0:Int)) (wI ((y.1.1.length:Int)-1))).bind λk=>match k with
      | .inl K=>some ((K.1,K.2.1,()),uX)
      | .inr (.inl L)=>(tE m L.2.1 L.1.1).bind λl=>some ((l.1,0,()),uX)
      | .inr (.inr e)=>e.elim else none
def lT:Nat->LI->LI->Bool->Bool->LI->Int->cW->Int->Int->Option tV
 |0,_,_,_,_,_,_,_,_,_=>none
 |n+1,a,b,c,d,f,h,i,j,k=>bif decide (k<j)then if 0<=k/\k<(a.length:Int)then (en m (a.getD k.toNat 0)).bind λg=>if 0<=k/\k<(b.length:Int)then (en m (b.getD (0+k.toNat) 0)).bind λx=>(gR m g.1.1 g.1.2.1 g.1.2.2.1 g.1.2.2.2.1 x.1.1 x.1.2.1 x.1.2.2.1 x.1.2.2.2.1).bind λe=>if i.length+([(e.1.1,((e.1.2.1,e.1.2.2.1),e.1.2.2.2.1))]:List bF).length<=1073741824 then lT n a b c d f h (i++([(e.1.1,((e.1.2.1,e.1.2.2.1),e.1.2.2.2.1))]:List bF)) j (wI (k+1))else none else none else none else some (.inl (b,(c,d,f,h,()),i,()))
def xY (a:LI) (b:LI):Option (lC×Unit×LI×Unit):=(lT m m a b false false ([]:LI) 0 ([]:List bF) (a.length:Int) 0).bind λy=>match y with
 | .inl x=>(zp m x.2.2.1).bind λg=>some ((g.1.1,g.1.2.1,g.1.2.2.1,g.1.2.2.2.1,()),((),x.1,()))
 | .inr e=>e.elim
def nq:Nat->LI->LI->Int->Int->Int->Option pG
 |0,_,_,_,_,_=>none
 |n+1,a,b,c,d,f=>bif decide (f<d)then if 0<=f/\f<(a.length:Int)then (en m (a.getD (0+f.toNat) 0)).bind λe=>(en m c).bind λg=>if 0<=f/\f<(b.length:Int)then (en m (b.getD f.toNat 0)).bind λx=>(gR m g.1.1 g.1.2.1 g.1.2.2.1 g.1.2.2.2.1 x.1.1 x.1.2.1 x.1.2.2.1 x.1.2.2.2.1).bind λy=>(FR m e.1.1 e.1.2.1 e.1.2.2.1 e.1.2.2.2.1 y.1.1 y.1.2.1 y.1.2.2.1 y.1.2.2.2.1).bind λz=>(r9 m z.1.1 z.1.2.1 z.1.2.2.1 z.1.2.2.2.1 0).bind λA=>if 0<=f/\f<(a.length:Int)then nq n (a.set (0+f.toNat) A.1) b c d (wI (f+1))else none else none else none else some (.inl (a,()))
def Ez (a:LI) (b:LI):Option (Bool×LI×Unit×Unit):=(xY m b a).bind λg=>(r9 m g.1.1 g.1.2.1 g.1.2.2.1 g.1.2.2.2.1 0).bind λx=>(tj m x.1).bind λz=>bif !z.1 then some (false,(g.2.2.1,(),()))else (nq m m g.2.2.1 b x.1 (g.2.2.1.length:Int) 0).bind λA=>match A with
  | .inl y=>(wH m y.1).bind λB=>some (B.1,(y.1,(),()))
  | .inr e=>e.elim
def rk:Nat->LI->LI->List LI->LI->Int->Int->Int->Option (TZ⊕TZ⊕Empty)
 |0,_,_,_,_,_,_,_=>none
 |n+1,a,b,c,d,f,h,i=>bif decide (i<h)then if 0<=i/\i<(c.length:Int)then (Ez m d (c.getD (0+i.toNat) ([]:LI))).bind λe=>bif !e.1 then some (.inl ((a,b,c,()),[],233,()))else rk n a b c e.2.1 f h (wI (i+1))else none else some (.inr (.inl ((a,b,c,()),d,f,())))
def lV:Nat->LI->LI->List LI->LI->Int->Option (TZ⊕(E9×LI×Unit)⊕Empty)
 |0,_,_,_,_,_=>none
 |n+1,a,b,c,d,f=>bif decide (f<2)then (rk m m a b c d f (c.length:Int) 0).bind λy=>match y with
   | .inl g=>some (.inl ((g.1.1,g.1.2.1,g.1.2.2.1,()),g.2.1,g.2.2.1,()))
   | .inr (.inl x)=>lV n x.1.1 x.1.2.1 x.1.2.2.1 x.2.1 (wI (x.2.2.1+1))
   | .inr (.inr e)=>e.elim else some (.inr (.inl ((a,b,c,()),d,())))
def TQ (a:LI) (b:LI) (c:List LI) (d:LI) (f:LI) (h:LI) (i:LI) (j:LI) (k:LI) (l:Int):Option (Bn×E9×Unit×Unit):=if 0<=(wI ((c.length:Int)-1))/\(wI ((c.length:Int)-1))<(c.length:Int)then (Ao m d f h i j k l (c.getD (0+(wI ((c.length:Int)-1)).toNat) ([]:LI))).bind λz=>bif z.1.2.1 !=0 then some (([],z.1.2.1,()),((a,b,c,()),(),()))else (xY m (c.getD (0+(wI ((c.length:Int)-1)).toNat) ([]:LI)) z.1.1).bind λg=>(r9 m g.1.1 g.1.2.1 g.1.2.2.1 g.1.2.2.2.1 0).bind λA=>(tj m A.1).bind λB=>bif !B.1 then some (([],233,()),((a,b,c,()),(),()))else if a.length+([A.1]:LI).length<=1073741824 then (lV m m (a++([A.1]:LI)) b c g.2.2.1 0).bind λC=>match C with
   | .inl x=>some ((x.2.1,x.2.2.1,()),((x.1.1,x.1.2.1,x.1.2.2.1,()),(),()))
   | .inr (.inl y)=>some ((y.2.1,0,()),((y.1.1,y.1.2.1,y.1.2.2.1,()),(),()))
   | .inr (.inr e)=>e.elim else none else none
def rS:Nat->Int->LI->LI->LI->LI->LI->LI->Int->LI->LI->List LI->LI->LI->List LI->Option YD
 |0,_,_,_,_,_,_,_,_,_,_,_,_,_,_=>none
 |n+1,a,b,c,d,f,h,i,j,k,l,o,p,q,r=>(TQ m p q r b c d f h i j).bind λe=>bif e.1.2.1 !=0 then some (.inl (([],[],([]:List LI),()),e.1.2.1,()))else bif (e.2.1.1.length:Int)==a then some (.inl ((e.2.1.1,e.2.1.2.1,e.2.1.2.2.1,()),0,()))else (Ml m e.1.1).bind λg=>(Ks m g.1).bind λy=>bif y.1==0 then some (.inl ((e.2.1.1,e.2.1.2.1,e.2.1.2.2.1,()),0,()))else (Mk m e.1.1 g.1).bind λx=>(tj m g.1).bind λz=>bif !z.1 then some (.inl (([],[],([]:List LI),()),233,()))else bif !x.1.2.1 then some (.inl (([],[],([]:List LI),()),233,()))else if e.2.1.2.1.length+([g.1]:LI).length<=1073741824 then if e.2.1.2.2.1.length+([x.1.1]:List LI).length<=1073741824 then rS n a b c d f h i j k l o e.2.1.1 (e.2.1.2.1++([g.1]:LI)) (e.2.1.2.2.1++([x.1.1]:List LI))else none else none
def En (a:LI) (b:LI) (c:LI) (d:LI) (f:LI) (h:LI) (i:Int) (j:LI) (k:Int):Option YN:=(XH m a b c d f h i j k).bind λx=>bif x.1.2.1 !=0 then some ((([],[],([]:List LI),()),x.1.2.1,()),Dv)else (rS m m k a b c d f h i ([]:LI) ([]:LI) ([]:List LI) ([]:LI) ([]:LI) ([x.1.1]:List LI)).bind λy=>match y with
  | .inl g=>some (((g.1.1,g.1.2.1,g.1.2.2.1,()),g.2.1,()),Dv)
  | .inr e=>e.elim
def mw (m:Nat):Nat->LI->Int->Int->Option sX
 |0,_,_,_=>none
 |n+1,a,b,c=>bif decide (c<b)then if 0<=c/\c<(a.length:Int)then if 0<=(wI (c+1))/\(wI (c+1))<(a.length:Int)then bif decide ((a.getD c.toNat 0)>(a.getD (wI (c+1)).toNat 0))then some (.inl (false,()))else mw m n a b (wI (c+1))else none else none else some (.inr (.inl ()))
def CQ (a:LI) (b:Int) (c:Int):Option (Bool×Unit×Unit×Unit×Unit):=bif (a.length:Int) !=(wI (b+1))then some (false,Dv)else if(0:Int)<=0/\0<(a.length:Int)then bif (a.getD 0 0) !=0 then some (false,Dv)else if 0<=b/\b<(a.length:Int)then bif (a.getD b.toNat 0) !=c then some (false,Dv)else (mw m m a b 0).bind λg=>match g with
    | .inl x=>some (x.1,Dv)
    | .inr (.inl y)=>some (true,Dv)
    | .inr (.inr e)=>e.elim else none else none
def km (m:Nat):Nat->LI->LI->LI->LI->LI->LI->Int->Int->Int->Int->Int->Int->Int->Option (IK⊕(gO×Int×Int×Int×Int×Int×Unit)⊕Empty)
 |0,_,_,_,_,_,_,_,_,_,_,_,_,_=>none
 |n+1,a,b,c,d,f,h,i,j,k,l,o,p,q=>if 0<=(wI (p+1))/\(wI (p+1))<(d.length:Int)then bif decide (q<(d.getD (wI (p+1)).toNat 0))then if 0<=q/\q<(f.length:Int)then bif decide ((f.getD q.toNat 0)<=o)then some (.inl (false,()))else if 0<=q/\q<(f.length:Int)then bif decide ((f.getD q.toNat 0)>=j)then some (.inl (false,()))else if 0<=p/\p<(d.length:Int)then bif decide (q>(d.getD p.toNat 0))then if 0<=q/\q<(f.length:Int)then if 0<=(wI (q-1))/\(wI (q-1))<(f.length:Int)then bif decide ((f.getD q.toNat 0)<=(f.getD (wI (q-1)).toNat 0))then some (.inl (false,()))else km m n a b c d f h i j k l o p (wI (q+1))else none else none else km m n a b c d f h i j k l o p (wI (q+1))else none else none else none else some (.inr (.inl ((a,b,c,d,f,h,i,()),j,k,l,o,p,())))else none
def iS:Nat->LI->LI->LI->LI->LI->LI->Int->Int->Int->Int->Int->Int->Option (IK⊕(gO×Int×Int×Int×Int×Unit)⊕Empty)
 |0,_,_,_,_,_,_,_,_,_,_,_,_=>none
 |n+1,a,b,c,d,f,h,i,j,k,l,o,p=>bif decide (p<=o)then if 0<=p/\p<(d.length:Int)then (km m m a b c d f h i j k l o p (d.getD p.toNat 0)).bind λx=>match x with
   | .inl y=>some (.inl (y.1,()))
   | .inr (.inl g)=>iS n g.1.1 g.1.2.1 g.1.2.2.1 g.1.2.2.2.1 g.1.2.2.2.2.1 g.1.2.2.2.2.2.1 g.1.2.2.2.2.2.2.1 g.2.1 g.2.2.1 g.2.2.2.1 g.2.2.2.2.1 (wI (g.2.2.2.2.2.1+1))
   | .inr (.inr e)=>e.elim else none else some (.inr (.inl ((a,b,c,d,f,h,i,()),j,k,l,o,())))
def iT:Nat->LI->LI->LI->LI->LI->LI->Int->Int->Int->Int->Int->Option (IK⊕(gO×Int×Int×Int×Unit)⊕Empty)
 |0,_,_,_,_,_,_,_,_,_,_,_=>none
 |n+1,a,b,c,d,f,h,i,j,k,l,o=>bif decide (o<(b.length:Int))then if 0<=o/\o<(b.length:Int)then bif (b.getD o.toNat 0) !=1 then if 0<=o/\o<(b.length:Int)then bif (b.getD o.toNat 0) !=2 then some (.inl (false,()))else if 0<=o/\o<(b.length:Int)then bif decide ((wI (k+(b.getD o.toNat 0)))>j)then some (.inl (false,()))else if 0<=o/\o<(b.length:Int)then (iS m m a b c d f h i j l o (wI ((wI (k+(b.getD o.toNat 0)))-1)) k).bind λy=>match y with
      | .inl z=>some (.inl (z.1,()))
      | .inr (.inl g)=>if 0<=g.2.2.2.1/\g.2.2.2.1<(g.1.2.1.length:Int)then iT n g.1.1 g.1.2.1 g.1.2.2.1 g.1.2.2.2.1 g.1.2.2.2.2.1 g.1.2.2.2.2.2.1 g.1.2.2.2.2.2.2.1 g.2.1 (wI (g.2.2.2.2.1+1)) (wI ((wI (g.2.2.1+(wI (2*(g.1.2.1.getD g.2.2.2.1.toNat 0)))))-1)) (wI (g.2.2.2.1+1))else none
      | .inr (.inr e)=>e.elim else none else none else none else if 0<=o/\o<(b.length:Int)then bif decide ((wI (k+(b.getD o.toNat 0)))>j)then some (.inl (false,()))else if 0<=o/\o<(b.length:Int)then (iS m m a b c d f h i j l o (wI ((wI (k+(b.getD o.toNat 0)))-1)) k).bind λA=>match A with
     | .inl B=>some (.inl (B.1,()))
     | .inr (.inl x)=>if 0<=x.2.2.2.1/\x.2.2.2.1<(x.1.2.1.length:Int)then iT n x.1.1 x.1.2.1 x.1.2.2.1 x.1.2.2.2.1 x.1.2.2.2.2.1 x.1.2.2.2.2.2.1 x.1.2.2.2.2.2.2.1 x.2.1 (wI (x.2.2.2.2.1+1)) (wI ((wI (x.2.2.1+(wI (2*(x.1.2.1.getD x.2.2.2.1.toNat 0)))))-1)) (wI (x.2.2.2.1+1))else none
     | .inr (.inr e)=>e.elim else none else none else none else some (.inr (.inl ((a,b,c,d,f,h,i,()),j,k,l,())))
def Et (a:LI) (b:LI) (c:LI) (d:LI) (f:LI) (h:LI) (i:Int):Option pF:=bif decide (i<0)then some (false,Bv)else (CQ m d (a.length:Int) (f.length:Int)).bind λx=>bif !x.1 then some (false,Bv)else (iT m m a b c d f h i (a.length:Int) 0 0 0).bind λy=>match y with
   | .inl z=>some (z.1,Bv)
   | .inr (.inl g)=>bif g.2.2.1==g.2.1 then some (g.2.2.2.1==(g.1.2.2.1.length:Int),Bv)else some (false,Bv)
   | .inr (.inr e)=>e.elim
def oJ:Nat->LI->LI->LI->LI->LI->LI->Int->Int->Int->Option sW
 |0,_,_,_,_,_,_,_,_,_=>none
 |n+1,a,b,c,d,f,h,i,j,k=>bif decide (k<(b.length:Int))then if 0<=k/\k<(b.length:Int)then bif (b.getD k.toNat 0)==2 then if 0<=j/\j<=(wI (j+3))/\(wI (j+3))<=(c.length:Int)then (nP m ((c.drop j.toNat).take ((wI (j+3)).toNat-j.toNat))).bind λe=>(tW m e.1.1 e.1.2.1 e.1.2.2.1 e.1.2.2.2.1).bind λg=>bif g.1==0 then some (.inl (4,()))else if 0<=k/\k<(b.length:Int)then oJ n a b c d f h i (wI ((wI (j+(wI (2*(b.getD k.toNat 0)))))-1)) (wI (k+1))else none else none else if 0<=k/\k<(b.length:Int)then oJ n a b c d f h i (wI ((wI (j+(wI (2*(b.getD k.toNat 0)))))-1)) (wI (k+1))else none else none else some (.inr (.inl ()))
def rh:Nat->LI->LI->LI->LI->LI->LI->Int->Int->Option T0
 |0,_,_,_,_,_,_,_,_=>none
 |n+1,a,b,c,d,f,h,i,j=>bif decide (j<(c.length:Int))then if 0<=j/\j<(c.length:Int)then (oI m (c.getD j.toNat 0)).bind λe=>bif !e.1 then some (.inl (4,()))else rh n a b c d f h i (wI (j+1))else none else some (.inr (.inl ((a,b,c,d,f,h,i,()),())))
def ri:Nat->LI->LI->LI->LI->LI->LI->Int->Int->Option T0
 |0,_,_,_,_,_,_,_,_=>none
 |n+1,a,b,c,d,f,h,i,j=>bif decide (j<(h.length:Int))then if 0<=j/\j<(h.length:Int)then (oI m (h.getD j.toNat 0)).bind λe=>bif !e.1 then some (.inl (4,()))else ri n a b c d f h i (wI (j+1))else none else some (.inr (.inl ((a,b,c,d,f,h,i,()),())))
def Mj (a:LI) (b:LI) (c:LI) (d:LI) (f:LI) (h:LI) (i:Int):Option lg:=bif decide ((a.length:Int)>200)then some (6,Bv)else (Ak m a (a.length:Int)).bind λz=>bif !z.1 then some (90,Bv)else bif (d.length:Int) !=(wI ((a.length:Int)+1))then some (2,Bv)else bif (f.length:Int) !=(h.length:Int)then some (2,Bv)else (Et m a b c d f h i).bind λA=>bif !A.1 then some (240,Bv)else (ri m m a b c d f h i 0).bind λB=>match B with
      | .inl C=>some (C.1,Bv)
      | .inr (.inl g)=>(rh m m g.1.1 g.1.2.1 g.1.2.2.1 g.1.2.2.2.1 g.1.2.2.2.2.1 g.1.2.2.2.2.2.1 g.1.2.2.2.2.2.2.1 0).bind λD=>match D with
       | .inl E=>some (E.1,Bv)
       | .inr (.inl x)=>(oJ m m x.1.1 x.1.2.1 x.1.2.2.1 x.1.2.2.2.1 x.1.2.2.2.2.1 x.1.2.2.2.2.2.1 x.1.2.2.2.2.2.2.1 0 0).bind λF=>match F with
        | .inl y=>some (y.1,Bv)
        | .inr (.inl G)=>some (0,Bv)
        | .inr (.inr e)=>e.elim
       | .inr (.inr e)=>e.elim
      | .inr (.inr e)=>e.elim
def rf:Nat->LI->Int->Option sX
 |0,_,_=>none
 |n+1,a,b=>bif decide (b<(a.length:Int))then if 0<=b/\b<(a.length:Int)then (oI m (a.getD b.toNat 0)).bind λe=>bif !e.1 then some (.inl (false,()))else rf n a (wI (b+1))else none else some (.inr (.inl ()))
def BM (a:LI):Option pF:=(rf m m a 0).bind λg=>match g with
 | .inl x=>some (x.1,Bv)
 | .inr (.inl y)=>some (true,Bv)
 | .inr (.inr e)=>e.elim
def re:Nat->LI->LI->Bool->Bool->LI->Int->cW->Int->Option tX
 |0,_,_,_,_,_,_,_,_=>none
 |n+1,a,b,c,d,f,h,i,j=>bif decide (j<(a.length:Int))then if 0<=j/\j<(a.length:Int)then if 0<=j/\j<(b.length:Int)then (jy m (a.getD j.toNat 0) (b.getD j.toNat 0)).bind λe=>if i.length+([(e.1.1,((e.1.2.1,e.1.2.2.1),e.1.2.2.2.1))]:List bF).length<=1073741824 then re n a b c d f h (i++([(e.1.1,((e.1.2.1,e.1.2.2.1),e.1.2.2.2.1))]:List bF)) (wI (j+1))else none else none else none else some (.inl ((c,d,f,h,()),i,()))
def Kk (a:LI) (b:LI):Option xu:=(re m m a b false false ([]:LI) 0 ([]:List bF) 0).bind λx=>match x with
 | .inl y=>(K2 m y.2.1).bind λg=>some ((g.1.1,g.1.2.1,g.1.2.2.1,g.1.2.2.2.1,()),uX)
 | .inr e=>e.elim
def ma:Nat->Bool->LI->Bool->LI->Bool->LI->Option ((nE×Unit)⊕Empty)
 |0,_,_,_,_,_,_=>none
 |n+1,a,b,c,d,f,h=>(tD m a b f h).bind λg=>(fN m f h g.1.1.1 g.1.1.2.1).bind λx=>(o8 m x.1.1 x.1.2.1 (-1)).bind λe=>(rP m e.1.1 e.1.2.1 f h).bind λy=>bif decide (y.1>=0)then some (.inl ((f,h,()),()))else ma n a b c d e.1.1 e.1.2.1
def wm (a:Bool) (b:LI):Option Bm:=(fU m a b).bind λz=>bif z.1==0 then some ((false,[],()),Bv)else (gq m 1).bind λg=>(pn m a b).bind λA=>(o8 m g.1.1 g.1.2.1 (wI (Int.tdiv (wI (A.1+1)) 2))).bind λx=>(ma m m a b false ([]:LI) x.1.1 x.1.2.1).bind λB=>match B with
  | .inl y=>some ((y.1.1,y.1.2.1,()),Bv)
  | .inr e=>e.elim
def CN (a:Bool) (b:LI) (c:Int) (d:Int):Option YM:=(pn m a b).bind λe=>bif (Int.tmod (wI (c-(if 0>(wI ((wI ((wI (2*d))+6))-e.1))then 0 else(wI ((wI ((wI (2*d))+6))-e.1))))) 2) !=0 then (o8 m a b (wI ((if 0>(wI ((wI ((wI (2*d))+6))-e.1))then 0 else(wI ((wI ((wI (2*d))+6))-e.1)))+1))).bind λy=>(wm m y.1.1 y.1.2.1).bind λg=>(JY m g.1.1 g.1.2.1 g.1.1 g.1.2.1).bind λA=>(rP m A.1.1 A.1.2.1 y.1.1 y.1.2.1).bind λC=>some (((g.1.1,g.1.2.1,()),wI (Int.tdiv (wI (c-(wI ((if 0>(wI ((wI ((wI (2*d))+6))-e.1))then 0 else(wI ((wI ((wI (2*d))+6))-e.1)))+1)))) 2),C.1 !=0,()),Dv)else (o8 m a b (if 0>(wI ((wI ((wI (2*d))+6))-e.1))then 0 else(wI ((wI ((wI (2*d))+6))-e.1)))).bind λz=>(wm m z.1.1 z.1.2.1).bind λx=>(JY m x.1.1 x.1.2.1 x.1.1 x.1.2.1).bind λB=>(rP m B.1.1 B.1.2.1 z.1.1 z.1.2.1).bind λD=>some (((x.1.1,x.1.2.1,()),wI (Int.tdiv (wI (c-(if 0>(wI ((wI ((wI (2*d))+6))-e.1))then 0 else(wI ((wI ((wI (2*d))+6))-e.1))))) 2),D.1 !=0,()),Dv)
def Eo (a:Bool) (b:Bool) (c:LI) (d:Int) (f:Int):Option jJ:=(nI m a b c d).bind λe=>bif e.1.1 then some (9221120237041090560,uX)else (fU m e.1.2.1 e.1.2.2.1).bind λx=>bif decide (x.1<0)then some (9221120237041090560,uX)else (fU m e.1.2.1 e.1.2.2.1).bind λy=>bif y.1==0 then some (0,uX)else (CN m e.1.2.1 e.1.2.2.1 e.1.2.2.2.1 60).bind λg=>(wE m false g.1.1.1 g.1.1.2.1 g.1.2.1 g.1.2.2.1 f).bind λz=>some (z.1,uX)
def OJ (a:Bool) (b:Bool) (c:LI) (d:Int):Option lg:=(Eo m a b c d 0).bind λe=>some (e.1,Bv)
def q9:Nat->LI->Int->LI->Int->Option pG
 |0,_,_,_,_=>none
 |n+1,a,b,c,d=>bif decide (d<(a.length:Int))then if 0<=d/\d<(a.length:Int)then (j6 m (a.getD d.toNat 0)).bind λe=>(j6 m b).bind λg=>(np m e.1.1 e.1.2.1 e.1.2.2.1 e.1.2.2.2.1 g.1.1 g.1.2.1 g.1.2.2.1 g.1.2.2.2.1).bind λx=>if 0<=d/\d<(c.length:Int)then q9 n a b (c.set (0+d.toNat) x.1) (wI (d+1))else none else none else some (.inl (c,()))
def Mi (a:LI) (b:Int):Option RR:=if 0<=(a.length:Int)/\(a.length:Int)<=(a.length:Int)/\(a.length:Int)<=1073741824 then (q9 m m a b (List.replicate (a.length:Int).toNat (0:Int)) 0).bind λx=>match x with
 | .inl g=>(BM m g.1).bind λy=>some ((g.1,y.1,()),uX)
 | .inr e=>e.elim else none
def Em (a:Int) (b:Int) (c:LI):Option MN:=bif a !=0 then some (a,Dv)else bif (c.length:Int) !=b then some (2,Dv)else (BM m c).bind λe=>bif !e.1 then some (4,Dv)else some (0,Dv)
def nk (m:Nat):Nat->LI->LI->LI->Int->Option pG
 |0,_,_,_,_=>none
 |n+1,a,b,c,d=>bif decide (d<(b.length:Int))then if 0<=d/\d<(b.length:Int)then if 0<=(b.getD d.toNat 0)/\(b.getD d.toNat 0)<(a.length:Int)then if 0<=d/\d<(c.length:Int)then nk m n a b (c.set (0+d.toNat) (a.getD (b.getD d.toNat 0).toNat 0)) (wI (d+1))else none else none else none else some (.inl (c,()))
def El (a:LI) (b:LI):Option vL:=if 0<=(b.length:Int)/\(b.length:Int)<=(b.length:Int)/\(b.length:Int)<=1073741824 then (nk m m a b (List.replicate (b.length:Int).toNat (0:Int)) 0).bind λg=>match g with
 | .inl x=>some (x.1,uX)
 | .inr e=>e.elim else none
def nj:Nat->LI->LI->Bool->Bool->LI->Int->cW->Int->Option tV
 |0,_,_,_,_,_,_,_,_=>none
 |n+1,a,b,c,d,f,h,i,j=>bif decide (j<(a.length:Int))then if 0<=j/\j<(a.length:Int)then if 0<=j/\j<(b.length:Int)then (jy m (a.getD j.toNat 0) (b.getD (0+j.toNat) 0)).bind λg=>(Ov m g.1.1 g.1.2.1 g.1.2.2.1 g.1.2.2.2.1).bind λe=>if i.length+([(e.1.1,((e.1.2.1,e.1.2.2.1),e.1.2.2.2.1))]:List bF).length<=1073741824 then nj n a b c d f h (i++([(e.1.1,((e.1.2.1,e.1.2.2.1),e.1.2.2.2.1))]:List bF)) (wI (j+1))else none else none else none else some (.inl (b,(c,d,f,h,()),i,()))
def Ah (a:Bool) (b:Bool) (c:LI) (d:Int) (f:LI) (h:LI):Option (lC×Unit×Unit×LI×Unit):=(nj m m f h false false ([]:LI) 0 ([(a,((b,c),d))]:List bF) 0).bind λy=>match y with
 | .inl x=>(K2 m x.2.2.1).bind λg=>some ((g.1.1,g.1.2.1,g.1.2.2.1,g.1.2.2.2.1,()),((),(),x.1,()))
 | .inr e=>e.elim
def nh (m:Nat):Nat->List LI->List LI->Int->Int->Option ((List LI×List LI×Int×Unit)⊕Empty)
 |0,_,_,_,_=>none
 |n+1,a,b,c,d=>bif decide (d<(a.length:Int))then if 0<=c/\c<(b.length:Int)then if 0<=d/\d<(a.length:Int)then if 0<=c/\c<((a.getD d.toNat ([]:LI)).length:Int)then if 0<=d/\d<((b.getD c.toNat ([]:LI)).length:Int)then nh m n a (b.set c.toNat ((b.getD c.toNat ([]:LI)).set d.toNat ((a.getD d.toNat ([]:LI)).getD c.toNat 0))) c (wI (d+1))else none else none else none else none else some (.inl (a,b,c,()))
def ni:Nat->List LI->List LI->Int->Option (sN⊕Empty)
 |0,_,_,_=>none
 |n+1,a,b,c=>bif decide (c<(a.length:Int))then if 0<=(a.length:Int)/\(a.length:Int)<=(a.length:Int)/\(a.length:Int)<=1073741824 then if 0<([List.replicate (a.length:Int).toNat (0:Int)]:List LI).length/\b.length+([List.replicate (a.length:Int).toNat (0:Int)]:List LI).length<=1073741824 then (nh m m a (b++([List.replicate (a.length:Int).toNat (0:Int)]:List LI)) c 0).bind λx=>match x with
   | .inl g=>ni n g.1 g.2.1 (wI (g.2.2.1+1))
   | .inr e=>e.elim else none else none else some (.inl (b,()))
def Ei (a:List LI):Option (List LI×Unit×Unit):=(ni m m a ([]:List LI) 0).bind λg=>match g with
 | .inl x=>some (x.1,Bv)
 | .inr e=>e.elim
def ng (m:Nat):Nat->LI->LI->LI->Int->Option pG
 |0,_,_,_,_=>none
 |n+1,a,b,c,d=>bif decide (d<(b.length:Int))then if 0<=d/\d<(b.length:Int)then if 0<=d/\d<(a.length:Int)then if 0<=(b.getD d.toNat 0)/\(b.getD d.toNat 0)<(c.length:Int)then ng m n a b (c.set (0+(b.getD d.toNat 0).toNat) (a.getD d.toNat 0)) (wI (d+1))else none else none else none else some (.inl (c,()))
def Ef (a:LI) (b:LI):Option vL:=if 0<=(b.length:Int)/\(b.length:Int)<=(b.length:Int)/\(b.length:Int)<=1073741824 then (ng m m a b (List.replicate (b.length:Int).toNat (0:Int)) 0).bind λg=>match g with
 | .inl x=>some (x.1,uX)
 | .inr e=>e.elim else none
def oF:Nat->LI->LI->LI->LI->LI->LI->Int->LI->List LI->Int->Option tZ
 |0,_,_,_,_,_,_,_,_,_,_=>none
 |n+1,a,b,c,d,f,h,i,j,k,l=>bif decide (l>=0)then if 0<=l/\l<(j.length:Int)then (j6 m (j.getD (0+l.toNat) 0)).bind λg=>if 0<=l/\l<(k.length:Int)then if 0<=(wI (l+1))/\(wI (l+1))<=((k.getD l.toNat ([]:LI)).length:Int)/\((k.getD l.toNat ([]:LI)).length:Int)<=((k.getD l.toNat ([]:LI)).length:Int)then if 0<=(wI (l+1))/\(wI (l+1))<=(j.length:Int)/\(j.length:Int)<=(j.length:Int)then if 0<j.length then (Ah m g.1.1 g.1.2.1 g.1.2.2.1 g.1.2.2.2.1 ((k.getD l.toNat ([]:LI)).drop (wI (l+1)).toNat) ((j.drop (0+(wI (l+1)).toNat)).take (j.length-(wI (l+1)).toNat))).bind λe=>(v9 m e.1.1 e.1.2.1 e.1.2.2.1 e.1.2.2.2.1).bind λx=>if 0<=l/\l<((j.take (0+(wI (l+1)).toNat)++(e.2.2.2.1++j.drop ((0+(wI (l+1)).toNat)+(j.length-(wI (l+1)).toNat)))).length:Int)then if 0<=l/\l<(((j.take (0+(wI (l+1)).toNat)++(e.2.2.2.1++j.drop ((0+(wI (l+1)).toNat)+(j.length-(wI (l+1)).toNat)))).set (0+l.toNat) x.1).length:Int)then (oI m (((j.take (0+(wI (l+1)).toNat)++(e.2.2.2.1++j.drop ((0+(wI (l+1)).toNat)+(j.length-(wI (l+1)).toNat)))).set (0+l.toNat) x.1).getD (0+l.toNat) 0)).bind λy=>bif !y.1 then some (.inl ([],233,()))else oF n a b c d f h i ((j.take (0+(wI (l+1)).toNat)++(e.2.2.2.1++j.drop ((0+(wI (l+1)).toNat)+(j.length-(wI (l+1)).toNat)))).set (0+l.toNat) x.1) k (wI (l-1))else none else none else none else none else none else none else none else some (.inr (.inl ((a,b,c,d,f,h,i,()),j,())))
def oG:Nat->LI->LI->LI->LI->LI->LI->Int->Int->Int->List LI->LI->Int->Int->Option (YL⊕Empty)
 |0,_,_,_,_,_,_,_,_,_,_,_,_,_=>none
 |n+1,a,b,c,d,f,h,i,j,k,l,o,p,q=>bif decide (q<(b.length:Int))then if 0<=q/\q<(b.length:Int)then if 0<=k/\k<=(wI ((wI (k+(wI (2*(b.getD q.toNat 0)))))-1))/\(wI ((wI (k+(wI (2*(b.getD q.toNat 0)))))-1))<=(c.length:Int)then if 0<=q/\q<(b.length:Int)then bif (b.getD q.toNat 0)==1 then if 0<=p/\p<(o.length:Int)then (j6 m (o.getD (0+p.toNat) 0)).bind λy=>if(0:Int)<=0/\0<(((c.drop k.toNat).take ((wI ((wI (k+(wI (2*(b.getD q.toNat 0)))))-1)).toNat-k.toNat)).length:Int)then (j6 m (((c.drop k.toNat).take ((wI ((wI (k+(wI (2*(b.getD q.toNat 0)))))-1)).toNat-k.toNat)).getD 0 0)).bind λz=>(np m y.1.1 y.1.2.1 y.1.2.2.1 y.1.2.2.2.1 z.1.1 z.1.2.1 z.1.2.2.1 z.1.2.2.2.1).bind λH=>if 0<=p/\p<(o.length:Int)then if 0<=q/\q<(b.length:Int)then oG n a b c d f h i j (wI (k+(((c.drop k.toNat).take ((wI ((wI (k+(wI (2*(b.getD q.toNat 0)))))-1)).toNat-k.toNat)).length:Int))) l (o.set (0+p.toNat) H.1) (wI (p+(b.getD q.toNat 0))) (wI (q+1))else none else none else none else none else if 0<=p/\p<(o.length:Int)then if(0:Int)<=2/\2<(((c.drop k.toNat).take ((wI ((wI (k+(wI (2*(b.getD q.toNat 0)))))-1)).toNat-k.toNat)).length:Int)then (jy m (o.getD (0+p.toNat) 0) (((c.drop k.toNat).take ((wI ((wI (k+(wI (2*(b.getD q.toNat 0)))))-1)).toNat-k.toNat)).getD 2 0)).bind λA=>if 0<=(wI (p+1))/\(wI (p+1))<(o.length:Int)then if(0:Int)<=1/\1<(((c.drop k.toNat).take ((wI ((wI (k+(wI (2*(b.getD q.toNat 0)))))-1)).toNat-k.toNat)).length:Int)then (jy m (o.getD (0+(wI (p+1)).toNat) 0) (((c.drop k.toNat).take ((wI ((wI (k+(wI (2*(b.getD q.toNat 0)))))-1)).toNat-k.toNat)).getD 1 0)).bind λB=>(Ba m A.1.1 A.1.2.1 A.1.2.2.1 A.1.2.2.2.1 B.1.1 B.1.2.1 B.1.2.2.1 B.1.2.2.2.1).bind λC=>if 0<=(wI (p+1))/\(wI (p+1))<(o.length:Int)then if(0:Int)<=0/\0<(((c.drop k.toNat).take ((wI ((wI (k+(wI (2*(b.getD q.toNat 0)))))-1)).toNat-k.toNat)).length:Int)then (jy m (o.getD (0+(wI (p+1)).toNat) 0) (((c.drop k.toNat).take ((wI ((wI (k+(wI (2*(b.getD q.toNat 0)))))-1)).toNat-k.toNat)).getD 0 0)).bind λD=>if 0<=p/\p<(o.length:Int)then if(0:Int)<=1/\1<(((c.drop k.toNat).take ((wI ((wI (k+(wI (2*(b.getD q.toNat 0)))))-1)).toNat-k.toNat)).length:Int)then (jy m (o.getD (0+p.toNat) 0) (((c.drop k.toNat).take ((wI ((wI (k+(wI (2*(b.getD q.toNat 0)))))-1)).toNat-k.toNat)).getD 1 0)).bind λE=>(Ba m D.1.1 D.1.2.1 D.1.2.2.1 D.1.2.2.2.1 E.1.1 E.1.2.1 E.1.2.2.1 E.1.2.2.2.1).bind λF=>(nP m ((c.drop k.toNat).take ((wI ((wI (k+(wI (2*(b.getD q.toNat 0)))))-1)).toNat-k.toNat))).bind λe=>(np m C.1.1 C.1.2.1 C.1.2.2.1 C.1.2.2.2.1 e.1.1 e.1.2.1 e.1.2.2.1 e.1.2.2.2.1).bind λx=>(nP m ((c.drop k.toNat).take ((wI ((wI (k+(wI (2*(b.getD q.toNat 0)))))-1)).toNat-k.toNat))).bind λg=>(np m F.1.1 F.1.2.1 F.1.2.2.1 F.1.2.2.2.1 g.1.1 g.1.2.1 g.1.2.2.1 g.1.2.2.2.1).bind λG=>if 0<=p/\p<(o.length:Int)then if 0<=(wI (p+1))/\(wI (p+1))<((o.set (0+p.toNat) x.1).length:Int)then if 0<=q/\q<(b.length:Int)then oG n a b c d f h i j (wI (k+(((c.drop k.toNat).take ((wI ((wI (k+(wI (2*(b.getD q.toNat 0)))))-1)).toNat-k.toNat)).length:Int))) l ((o.set (0+p.toNat) x.1).set (0+(wI (p+1)).toNat) G.1) (wI (p+(b.getD q.toNat 0))) (wI (q+1))else none else none else none else none else none else none else none else none else none else none else none else none else none else none else some (.inl ((a,b,c,d,f,h,i,()),j,l,o,()))
def qS:Nat->LI->LI->LI->LI->LI->LI->Int->Int->List LI->LI->Int->Option (Bn⊕YL⊕Empty)
 |0,_,_,_,_,_,_,_,_,_,_,_=>none
 |n+1,a,b,c,d,f,h,i,j,k,l,o=>bif decide (o<j)then if 0<=o/\o<(l.length:Int)then (j6 m (l.getD (0+o.toNat) 0)).bind λg=>if 0<=o/\o<(k.length:Int)then if(0:Int)<=0/\0<=o/\o<=((k.getD o.toNat ([]:LI)).length:Int)then if(0:Int)<=0/\0<=o/\o<=(l.length:Int)then if 0<l.length then (Ah m g.1.1 g.1.2.1 g.1.2.2.1 g.1.2.2.2.1 ((k.getD o.toNat ([]:LI)).take o.toNat) ((l.drop 0).take (o.toNat-0))).bind λe=>(v9 m e.1.1 e.1.2.1 e.1.2.2.1 e.1.2.2.2.1).bind λx=>if 0<=o/\o<((l.take 0++(e.2.2.2.1++l.drop (0+(o.toNat-0)))).length:Int)then if 0<=o/\o<(((l.take 0++(e.2.2.2.1++l.drop (0+(o.toNat-0)))).set (0+o.toNat) x.1).length:Int)then (oI m (((l.take 0++(e.2.2.2.1++l.drop (0+(o.toNat-0)))).set (0+o.toNat) x.1).getD (0+o.toNat) 0)).bind λy=>bif !y.1 then some (.inl ([],233,()))else qS n a b c d f h i j k ((l.take 0++(e.2.2.2.1++l.drop (0+(o.toNat-0)))).set (0+o.toNat) x.1) (wI (o+1))else none else none else none else none else none else none else none else some (.inr (.inl ((a,b,c,d,f,h,i,()),j,k,l,())))
def qT (m:Nat):Nat->LI->LI->LI->LI->LI->LI->LI->Int->Int->List LI->Int->Int->Option ((LI×gO×Int×List LI×Int×Unit)⊕Empty)
 |0,_,_,_,_,_,_,_,_,_,_,_,_=>none
 |n+1,a,b,c,d,f,h,i,j,k,l,o,p=>if 0<=(wI (o+1))/\(wI (o+1))<(f.length:Int)then bif decide (p<(f.getD (wI (o+1)).toNat 0))then if 0<=p/\p<(h.length:Int)then if 0<=(h.getD p.toNat 0)/\(h.getD p.toNat 0)<(l.length:Int)then if 0<=p/\p<(i.length:Int)then if 0<=o/\o<((l.getD (h.getD p.toNat 0).toNat ([]:LI)).length:Int)then qT m n a b c d f h i j k (l.set (h.getD p.toNat 0).toNat ((l.getD (h.getD p.toNat 0).toNat ([]:LI)).set o.toNat (i.getD p.toNat 0))) o (wI (p+1))else none else none else none else none else some (.inl (a,(b,c,d,f,h,i,j,()),k,l,o,()))else none
def qU:Nat->LI->LI->LI->LI->LI->LI->LI->Int->Int->List LI->Int->Option tu
 |0,_,_,_,_,_,_,_,_,_,_,_=>none
 |n+1,a,b,c,d,f,h,i,j,k,l,o=>bif decide (o<k)then if 0<=o/\o<(f.length:Int)then (qT m m a b c d f h i j k l o (f.getD o.toNat 0)).bind λx=>match x with
   | .inl g=>qU n g.1 g.2.1.1 g.2.1.2.1 g.2.1.2.2.1 g.2.1.2.2.2.1 g.2.1.2.2.2.2.1 g.2.1.2.2.2.2.2.1 g.2.1.2.2.2.2.2.2.1 g.2.2.1 g.2.2.2.1 (wI (g.2.2.2.2.1+1))
   | .inr e=>e.elim else none else some (.inl (a,(b,c,d,f,h,i,j,()),k,l,()))
def qV (m:Nat):Nat->LI->LI->LI->LI->LI->LI->LI->Int->Int->List LI->Int->Option tu
 |0,_,_,_,_,_,_,_,_,_,_,_=>none
 |n+1,a,b,c,d,f,h,i,j,k,l,o=>bif decide (o<k)then if 0<=k/\k<=k/\k<=1073741824 then if 0<([List.replicate k.toNat (0:Int)]:List LI).length/\l.length+([List.replicate k.toNat (0:Int)]:List LI).length<=1073741824 then qV m n a b c d f h i j k (l++([List.replicate k.toNat (0:Int)]:List LI)) (wI (o+1))else none else none else some (.inl (a,(b,c,d,f,h,i,j,()),k,l,()))
def oH:Nat->LI->LI->LI->LI->LI->LI->LI->Int->Int->Int->Int->Option (Bn⊕(LI×gO×Int×Unit)⊕Empty)
 |0,_,_,_,_,_,_,_,_,_,_,_=>none
 |n+1,a,b,c,d,f,h,i,j,k,l,o=>bif decide (o<(c.length:Int))then if 0<=o/\o<(c.length:Int)then bif (c.getD o.toNat 0)==1 then if 0<=l/\l<(d.length:Int)then (FV m (d.getD l.toNat 0)).bind λe=>bif e.1 then some (.inl ([],9,()))else if 0<=o/\o<(c.length:Int)then oH n a b c d f h i j k (wI ((wI (l+(wI (2*(c.getD o.toNat 0)))))-1)) (wI (o+1))else none else none else if 0<=o/\o<(c.length:Int)then oH n a b c d f h i j k (wI ((wI (l+(wI (2*(c.getD o.toNat 0)))))-1)) (wI (o+1))else none else none else some (.inr (.inl (a,(b,c,d,f,h,i,j,()),k,())))
def TP (a:LI) (b:LI) (c:LI) (d:LI) (f:LI) (h:LI) (i:Int) (j:LI):Option RP:=(Mj m a b c d f h i).bind λN=>(Em m N.1 (a.length:Int) j).bind λL=>bif L.1 !=0 then some (([],L.1,()),uX)else (oH m m j a b c d f h i (a.length:Int) 0 0).bind λP=>match P with
  | .inl M=>some ((M.1,M.2.1,()),uX)
  | .inr (.inl A)=>(qV m m A.1 A.2.1.1 A.2.1.2.1 A.2.1.2.2.1 A.2.1.2.2.2.1 A.2.1.2.2.2.2.1 A.2.1.2.2.2.2.2.1 A.2.1.2.2.2.2.2.2.1 A.2.2.1 ([]:List LI) 0).bind λQ=>match Q with
   | .inl z=>(qU m m z.1 z.2.1.1 z.2.1.2.1 z.2.1.2.2.1 z.2.1.2.2.2.1 z.2.1.2.2.2.2.1 z.2.1.2.2.2.2.2.1 z.2.1.2.2.2.2.2.2.1 z.2.2.1 z.2.2.2.1 0).bind λR=>match R with
    | .inl y=>(El m y.1 y.2.1.1).bind λE=>(qS m m y.2.1.1 y.2.1.2.1 y.2.1.2.2.1 y.2.1.2.2.2.1 y.2.1.2.2.2.2.1 y.2.1.2.2.2.2.2.1 y.2.1.2.2.2.2.2.2.1 y.2.2.1 y.2.2.2.1 E.1 0).bind λF=>match F with
     | .inl B=>some ((B.1,B.2.1,()),uX)
     | .inr (.inl x)=>(oG m m x.1.1 x.1.2.1 x.1.2.2.1 x.1.2.2.2.1 x.1.2.2.2.2.1 x.1.2.2.2.2.2.1 x.1.2.2.2.2.2.2.1 x.2.1 0 x.2.2.1 x.2.2.2.1 0 0).bind λG=>match G with
      | .inl g=>(BM m g.2.2.2.1).bind λH=>bif !H.1 then some (([],233,()),uX)else (Ei m g.2.2.1).bind λI=>(oF m m g.1.1 g.1.2.1 g.1.2.2.1 g.1.2.2.2.1 g.1.2.2.2.2.1 g.1.2.2.2.2.2.1 g.1.2.2.2.2.2.2.1 g.2.2.2.1 I.1 (wI (g.2.1-1))).bind λJ=>match J with
        | .inl C=>some ((C.1,C.2.1,()),uX)
        | .inr (.inl D)=>(Ef m D.2.1 D.1.1).bind λK=>some ((K.1,0,()),uX)
        | .inr (.inr e)=>e.elim
      | .inr e=>e.elim
     | .inr (.inr e)=>e.elim
    | .inr e=>e.elim
   | .inr e=>e.elim
  | .inr (.inr e)=>e.elim
def DY (m:Nat) (a:Int):Option lg:=bif (qp .u64 (aK .u64 a 52) 2047)==2047 then bif (qp .u64 a 4503599627370495) !=0 then some (3,Bv)else bif (qp .u64 (aK .u64 a 52) 2047)==2047 then some (2,Bv)else bif (qp .u64 (aK .u64 a 52) 2047)==0 then bif (qp .u64 a 4503599627370495)==0 then some (0,Bv)else some (1,Bv)else some (1,Bv)else bif (qp .u64 (aK .u64 a 52) 2047)==2047 then some (2,Bv)else bif (qp .u64 (aK .u64 a 52) 2047)==0 then bif (qp .u64 a 4503599627370495)==0 then some (0,Bv)else some (1,Bv)else some (1,Bv)
def W7 (a:Int):Option pF:=(DY m a).bind λe=>some (e.1==3,Bv)
def TN (a:Int):Option lg:=(W7 m a).bind λe=>bif e.1 then some (9221120237041090560,Bv)else some (vQ .u64 a 9223372036854775808,Bv)
def qR:Nat->LI->Int->LI->LI->Int->Option (IL⊕(LI×Unit)⊕Empty)
 |0,_,_,_,_,_=>none
 |n+1,a,b,c,d,f=>bif decide (f<(a.length:Int))then if 0<=f/\f<(a.length:Int)then (j6 m (a.getD f.toNat 0)).bind λe=>if 0<=f/\f<(c.length:Int)then (jy m b (c.getD f.toNat 0)).bind λg=>(A9 m e.1.1 e.1.2.1 e.1.2.2.1 e.1.2.2.2.1 g.1.1 g.1.2.1 g.1.2.2.1 g.1.2.2.2.1).bind λx=>(v9 m x.1.1 x.1.2.1 x.1.2.2.1 x.1.2.2.2.1).bind λy=>if 0<=f/\f<(d.length:Int)then if 0<=f/\f<((d.set (0+f.toNat) y.1).length:Int)then (oI m ((d.set (0+f.toNat) y.1).getD (0+f.toNat) 0)).bind λz=>bif !z.1 then some (.inl ([],false,()))else qR n a b c (d.set (0+f.toNat) y.1) (wI (f+1))else none else none else none else none else some (.inr (.inl (d,())))
def TO (a:LI) (b:Int) (c:LI):Option (IL×Unit×Unit×Unit×Unit):=if 0<=(a.length:Int)/\(a.length:Int)<=(a.length:Int)/\(a.length:Int)<=1073741824 then (qR m m a b c (List.replicate (a.length:Int).toNat (0:Int)) 0).bind λx=>match x with
 | .inl g=>some ((g.1,g.2.1,()),Dv)
 | .inr (.inl y)=>some ((y.1,true,()),Dv)
 | .inr (.inr e)=>e.elim else none
def rQ:Nat->Int->LI->LI->LI->LI->LI->LI->Int->LI->LI->List LI->LI->LI->List LI->Int->LI->Int->Option ((E9×Int×Unit)⊕(Int×gO×E9×E9×Int×LI×Unit)⊕Empty)
 |0,_,_,_,_,_,_,_,_,_,_,_,_,_,_,_,_,_=>none
 |n+1,a,b,c,d,f,h,i,j,k,l,o,p,q,r,s,t,u=>bif decide (u<(wI (2*(wI (s+1)))))then if(wI (s+1))≠0 then if 0<=(Int.tmod u (wI (s+1)))/\(Int.tmod u (wI (s+1)))<(r.length:Int)then (Kk m (r.getD (0+(Int.tmod u (wI (s+1))).toNat) ([]:LI)) t).bind λe=>(v9 m e.1.1 e.1.2.1 e.1.2.2.1 e.1.2.2.2.1).bind λg=>(oI m g.1).bind λy=>bif !y.1 then some (.inl (([],[],([]:List LI),()),233,()))else (TN m g.1).bind λz=>(TO m t z.1 (r.getD (0+(Int.tmod u (wI (s+1))).toNat) ([]:LI))).bind λx=>bif !x.1.2.1 then some (.inl (([],[],([]:List LI),()),233,()))else rQ n a b c d f h i j k l o p q r s x.1.1 (wI (u+1))else none else none else some (.inr (.inl (a,(b,c,d,f,h,i,j,()),(k,l,o,()),(p,q,r,()),s,t,())))
def oQ:Nat->Int->LI->LI->LI->LI->LI->LI->Int->LI->LI->List LI->LI->LI->List LI->Int->Option YD
 |0,_,_,_,_,_,_,_,_,_,_,_,_,_,_,_=>none
 |n+1,a,b,c,d,f,h,i,j,k,l,o,p,q,r,s=>if 0<=s/\s<(r.length:Int)then (TP m b c d f h i j (r.getD (0+s.toNat) ([]:LI))).bind λz=>bif z.1.2.1 !=0 then some (.inl (([],[],([]:List LI),()),z.1.2.1,()))else if 0<=s/\s<(r.length:Int)then (Kk m (r.getD (0+s.toNat) ([]:LI)) z.1.1).bind λA=>(v9 m A.1.1 A.1.2.1 A.1.2.2.1 A.1.2.2.2.1).bind λD=>(oI m D.1).bind λG=>bif !G.1 then some (.inl (([],[],([]:List LI),()),233,()))else if p.length+([D.1]:LI).length<=1073741824 then (rQ m m a b c d f h i j k l o (p++([D.1]:LI)) q r s z.1.1 0).bind λH=>match H with
    | .inl B=>some (.inl ((B.1.1,B.1.2.1,B.1.2.2.1,()),B.2.1,()))
    | .inr (.inl g)=>bif (wI (g.2.2.2.2.1+1))==g.1 then some (.inl ((g.2.2.2.1.1,g.2.2.2.1.2.1,g.2.2.2.1.2.2.1,()),0,()))else (Kk m g.2.2.2.2.2.1 g.2.2.2.2.2.1).bind λC=>(OJ m C.1.1 C.1.2.1 C.1.2.2.1 C.1.2.2.2.1).bind λy=>(FV m y.1).bind λE=>bif E.1 then some (.inl ((g.2.2.2.1.1,g.2.2.2.1.2.1,g.2.2.2.1.2.2.1,()),0,()))else (Mi m g.2.2.2.2.2.1 y.1).bind λx=>(oI m y.1).bind λF=>bif !F.1 then some (.inl (([],[],([]:List LI),()),233,()))else bif !x.1.2.1 then some (.inl (([],[],([]:List LI),()),233,()))else if g.2.2.2.1.2.1.length+([y.1]:LI).length<=1073741824 then if g.2.2.2.1.2.2.1.length+([x.1.1]:List LI).length<=1073741824 then oQ n g.1 g.2.1.1 g.2.1.2.1 g.2.1.2.2.1 g.2.1.2.2.2.1 g.2.1.2.2.2.2.1 g.2.1.2.2.2.2.2.1 g.2.1.2.2.2.2.2.2.1 g.2.2.1.1 g.2.2.1.2.1 g.2.2.1.2.2.1 g.2.2.2.1.1 (g.2.2.2.1.2.1++([y.1]:LI)) (g.2.2.2.1.2.2.1++([x.1.1]:List LI)) (wI (g.2.2.2.2.1+1))else none else none
    | .inr (.inr e)=>e.elim else none else none else none
def Hz (a:LI) (b:LI) (c:LI) (d:LI) (f:LI) (h:LI) (i:Int) (j:LI) (k:Int):Option YN:=(Mj m a b c d f h i).bind λF=>bif F.1 !=0 then some ((([],[],([]:List LI),()),F.1,()),Dv)else (BM m j).bind λH=>bif H.1 then (Kk m j j).bind λz=>(OJ m z.1.1 z.1.2.1 z.1.2.2.1 z.1.2.2.2.1).bind λA=>bif (j.length:Int) !=(a.length:Int)then some ((([],[],([]:List LI),()),2,()),Dv)else (BM m j).bind λI=>bif !I.1 then some ((([],[],([]:List LI),()),4,()),Dv)else bif decide (k<1)then some ((([],[],([]:List LI),()),350,()),Dv)else bif decide (k>16)then some ((([],[],([]:List LI),()),350,()),Dv)else (FV m A.1).bind λJ=>bif J.1 then some ((([],[],([]:List LI),()),380,()),Dv)else (oI m A.1).bind λK=>bif !K.1 then some ((([],[],([]:List LI),()),233,()),Dv)else (Mi m j A.1).bind λG=>bif !G.1.2.1 then some ((([],[],([]:List LI),()),233,()),Dv)else (oQ m m k a b c d f h i ([]:LI) ([]:LI) ([]:List LI) ([]:LI) ([]:LI) ([G.1.1]:List LI) 0).bind λL=>match L with
          | .inl g=>some (((g.1.1,g.1.2.1,g.1.2.2.1,()),g.2.1,()),Dv)
          | .inr e=>e.elim else bif (j.length:Int) !=(a.length:Int)then some ((([],[],([]:List LI),()),2,()),Dv)else (BM m j).bind λB=>bif !B.1 then some ((([],[],([]:List LI),()),4,()),Dv)else bif decide (k<1)then some ((([],[],([]:List LI),()),350,()),Dv)else bif decide (k>16)then some ((([],[],([]:List LI),()),350,()),Dv)else (FV m 0).bind λC=>bif C.1 then some ((([],[],([]:List LI),()),380,()),Dv)else (oI m 0).bind λD=>bif !D.1 then some ((([],[],([]:List LI),()),233,()),Dv)else (Mi m j 0).bind λy=>bif !y.1.2.1 then some ((([],[],([]:List LI),()),233,()),Dv)else (oQ m m k a b c d f h i ([]:LI) ([]:LI) ([]:List LI) ([]:LI) ([]:LI) ([y.1.1]:List LI) 0).bind λE=>match E with
          | .inl x=>some (((x.1.1,x.1.2.1,x.1.2.2.1,()),x.2.1,()),Dv)
          | .inr e=>e.elim
def ry (m:Nat):Nat->LI->LI->Int->Option sX
 |0,_,_,_=>none
 |n+1,a,b,c=>bif decide (c<(a.length:Int))then if 0<=c/\c<(a.length:Int)then if 0<=c/\c<(b.length:Int)then bif (a.getD c.toNat 0) !=(b.getD c.toNat 0)then some (.inl (false,()))else ry m n a b (wI (c+1))else none else none else some (.inr (.inl ()))
def KT (a:LI) (b:LI):Option vK:=bif (a.length:Int) !=(b.length:Int)then some (false,uX)else (ry m m a b 0).bind λg=>match g with
  | .inl x=>some (x.1,uX)
  | .inr (.inl y)=>some (true,uX)
  | .inr (.inr e)=>e.elim
def qQ:Nat->List LI->List LI->Int->Option sX
 |0,_,_,_=>none
 |n+1,a,b,c=>bif decide (c<(a.length:Int))then if 0<=c/\c<(a.length:Int)then if 0<=c/\c<(b.length:Int)then (KT m (a.getD c.toNat ([]:LI)) (b.getD c.toNat ([]:LI))).bind λe=>bif !e.1 then some (.inl (false,()))else qQ n a b (wI (c+1))else none else none else some (.inr (.inl ()))
def OC (a:List LI) (b:List LI):Option vK:=bif (a.length:Int) !=(b.length:Int)then some (false,uX)else (qQ m m a b 0).bind λg=>match g with
  | .inl x=>some (x.1,uX)
  | .inr (.inl y)=>some (true,uX)
  | .inr (.inr e)=>e.elim
def bu (a:LI) (b:LI) (c:List LI) (d:LI) (f:LI) (h:List LI):Option vK:=(KT m a d).bind λe=>bif e.1 then (KT m b f).bind λg=>bif g.1 then (OC m c h).bind λx=>some (x.1,uX)else some (false,uX)else some (false,uX)
def bD:Option IK:=(TS m 2 0).bind λg=>(TS m 4 0).bind λx=>(En m ([0,1]:LI) ([1,1]:LI) ([g.1,x.1]:LI) ([0,0,0]:LI) ([]:LI) ([]:LI) 0 ([0,4607182418800017408]:LI) 3).bind λe=>bif e.1.2.1==0 then (KT m e.1.1.1 ([4598175219545276416]:LI)).bind λy=>bif y.1 then bif (e.1.1.2.1.length:Int)==0 then (OC m e.1.1.2.2.1 ([([0,4607182418800017408]:LI)]:List LI)).bind λz=>some (z.1,())else some (false,())else some (false,())else some (false,())
def bN (a:LI) (b:Int) (c:Int) (d:Bool) (f:Int):Option (Bool×Unit×Unit×Unit×Unit×Unit×Unit):=(cG m a b c d).bind λe=>bif decide (f>3)then bif decide (f<=16)then (Ev m f 3).bind λF=>(En m e.1.1.1 e.1.1.2.1 e.1.1.2.2.1 e.1.1.2.2.2.1 e.1.1.2.2.2.2.1 e.1.1.2.2.2.2.2.1 e.1.1.2.2.2.2.2.2.1 e.1.2.1 (wI (1+F.1))).bind λy=>(Hz m e.1.1.1 e.1.1.2.1 e.1.1.2.2.1 e.1.1.2.2.2.1 e.1.1.2.2.2.2.1 e.1.1.2.2.2.2.2.1 e.1.1.2.2.2.2.2.2.1 e.1.2.1 (wI (1+F.1))).bind λz=>bif y.1.2.1==z.1.2.1 then (bu m y.1.1.1 y.1.1.2.1 y.1.1.2.2.1 z.1.1.1 z.1.1.2.1 z.1.1.2.2.1).bind λG=>bif G.1 then (bD m).bind λH=>some (H.1,Dw)else some (false,Dw)else some (false,Dw)else (En m e.1.1.1 e.1.1.2.1 e.1.1.2.2.1 e.1.1.2.2.2.1 e.1.1.2.2.2.2.1 e.1.1.2.2.2.2.2.1 e.1.1.2.2.2.2.2.2.1 e.1.2.1 f).bind λA=>(Hz m e.1.1.1 e.1.1.2.1 e.1.1.2.2.1 e.1.1.2.2.2.1 e.1.1.2.2.2.2.1 e.1.1.2.2.2.2.2.1 e.1.1.2.2.2.2.2.2.1 e.1.2.1 f).bind λB=>bif A.1.2.1==B.1.2.1 then (bu m A.1.1.1 A.1.1.2.1 A.1.1.2.2.1 B.1.1.1 B.1.1.2.1 B.1.1.2.2.1).bind λI=>bif I.1 then (bD m).bind λC=>some (C.1,Dw)else some (false,Dw)else some (false,Dw)else (En m e.1.1.1 e.1.1.2.1 e.1.1.2.2.1 e.1.1.2.2.2.1 e.1.1.2.2.2.2.1 e.1.1.2.2.2.2.2.1 e.1.1.2.2.2.2.2.2.1 e.1.2.1 f).bind λg=>(Hz m e.1.1.1 e.1.1.2.1 e.1.1.2.2.1 e.1.1.2.2.2.1 e.1.1.2.2.2.2.1 e.1.1.2.2.2.2.2.1 e.1.1.2.2.2.2.2.2.1 e.1.2.1 f).bind λx=>bif g.1.2.1==x.1.2.1 then (bu m g.1.1.1 g.1.1.2.1 g.1.1.2.2.1 x.1.1.1 x.1.1.2.1 x.1.1.2.2.1).bind λD=>bif D.1 then (bD m).bind λE=>some (E.1,Dw)else some (false,Dw)else some (false,Dw)
end Go.Vs.F
