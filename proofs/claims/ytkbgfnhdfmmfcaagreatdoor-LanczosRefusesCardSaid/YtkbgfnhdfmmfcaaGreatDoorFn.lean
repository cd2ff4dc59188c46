import Derived.Test.YtkbgfnhdfmmfcaaGreatDoorVc
set_option linter.unusedSimpArgs false
set_option linter.unusedVariables false
namespace Go.Vs.F
abbrev ul:=((),(),())
abbrev ut:=((),())
abbrev v4:=((),(),(),())
abbrev v6:=((),(),(),(),(),())
abbrev wr:=((),(),(),(),())
abbrev ww:=((),(),(),(),(),(),())
abbrev dY:=(List Bool)
abbrev IR:=(Bool×Unit)
abbrev Bp:=(LI×Int×Unit)
abbrev Bq:=(Int×Int×Int)
abbrev sJ:=(List LI×Unit)
abbrev R8:=(LI×Unit×Unit)
abbrev IS:=(LI×Bool×Unit)
abbrev nD:=(Bool×LI×Unit)
abbrev lg:=(Int×Unit×Unit)
abbrev fU:=(Int×Int×LI×Int)
abbrev pD:=(Bool×Unit×Unit)
abbrev pE:=((LI×Unit)⊕Empty)
abbrev xr:=(LI×LI×LI×List LI)
abbrev vI:=(LI×Unit×Unit×Unit)
abbrev bE:=(Bool×(Bool×LI)×Int)
abbrev uE:=(List Bq )
abbrev Fc:=(LI×LI×List LI×Unit)
abbrev jH:=(Int×Unit×Unit×Unit)
abbrev LM:=( Bp ⊕Empty)
abbrev vH:=(Bool×Unit×Unit×Unit)
abbrev Bn:=(LI×LI×LI×List LI×Unit)
abbrev sS:=((Int×Unit)⊕Unit⊕Empty)
abbrev fQ:=(List fU )
abbrev lx:=(Int×Int×LI×LI×LI×Unit)
abbrev lC:=(Bool×Bool×LI×Int×Unit)
abbrev sT:=( IR ⊕Unit⊕Empty)
abbrev MW:=(Int×Unit×Unit×Unit×Unit)
abbrev sV:=(List xr )
abbrev Bo:=( nD ×Unit×Unit)
abbrev cW:=(List bE )
abbrev YD:=((Int×Bool×Unit)×Unit×Unit)
abbrev Ub:=(Bool×Bool×LI×Int×Bool×Unit)
abbrev gL:=(LI×LI×LI×LI×LI×LI×Int×Unit)
abbrev YE:=(List dY ×Unit×Unit)
abbrev YF:=((LI×LI×Unit)×Unit×Unit×Unit)
abbrev YG:=(LI×Unit×Unit×Unit×Unit×Unit)
abbrev R5:=( lC ×Unit)
abbrev R6:=( Bp ×Unit×Unit×Unit)
abbrev wT:=( nD ×Unit×Unit×Unit)
abbrev YH:=((List dY ×Unit)⊕Empty)
abbrev R7:=( IS ×Unit×Unit×Unit)
abbrev LN:=(List dY ×List Bool×Unit)
abbrev YI:=(( nD ×Int×Unit)⊕Empty)
abbrev dA:=(List cW )
abbrev Uc:=( Fc ×LI×Int×Unit)
abbrev YJ:=( lx ×Int×Unit)
abbrev wU:=( lC ×Unit×Unit)
abbrev YK:=( cW ×Bool×Unit)
abbrev YL:=( gL ×Int×Unit)
abbrev YM:=(( Fc ×Int×Unit)⊕Empty)
abbrev xq:=( lC ×Unit×Unit×Unit)
abbrev YN:=(Bool×Unit×Unit×Unit×Unit×Unit×Unit×Unit)
abbrev MX:=(LI×Int×List cW )
abbrev YO:=(( sJ ×Int×Unit)×Unit×Unit×Unit)
abbrev YP:=( lx ×Unit×Unit×Unit×Unit)
abbrev YQ:=( dA ×Unit×Unit)
abbrev YR:=(( sJ ×List dY ×Unit)⊕Empty)
abbrev gV:=(LI×Int× dA ×Unit)
abbrev pC:=(List MX )
abbrev YS:=((Int× nD × nD ×Unit)⊕Empty)
abbrev YT:=((Int×Unit)⊕( lx ×Unit)⊕Empty)
abbrev YU:=(( dA ×Unit)⊕Empty)
abbrev YV:=( gL ×Int×List LI×LI×Unit)
abbrev YW:=(( nD ×Int×Bool×Unit)×Unit×Unit×Unit×Unit)
abbrev YX:=(( Fc ×Int×Unit)×Unit×Unit×Unit×Unit)
abbrev Ud:=((Int×Unit)⊕( gL ×Unit)⊕Empty)
abbrev Ue:=(( nD × nD ×Int×Unit)×Unit×Unit×Unit)
abbrev tu:=((LI× gL ×Int×List LI×Unit)⊕Empty)
abbrev tZ:=( Bp ⊕( gL ×LI×Unit)⊕Empty)
abbrev tY:=(( lx × lx ×Unit)⊕Empty)
abbrev tX:=(( lC × cW ×Unit)⊕Empty)
abbrev tV:=((LI× lC × cW ×Unit)⊕Empty)
abbrev tK:=((Int×Unit)⊕( fQ × sJ ×Int×Int×Unit)⊕Empty)
abbrev tJ:=( gV × Bn ×Bool×Unit)
abbrev tH:=( gV × Bn × gV × Bn ×Unit)
abbrev tC:=((LI× fQ ×Int× pC × lx × gV × gV ×Unit)⊕Empty)
abbrev qz:Bool×(Bool×List Int)×Int:=(false,((false,[]),0))
def L5:LI:=[0,1,28,2,29,14,24,3,30,22,20,15,25,17,4,8,31,27,13,23,21,19,16,7,26,12,18,6,11,5,10,9]
def Y9:LI:=[0,1,2,2,3,3,3,3,4,4,4,4,4,4,4,4,5,5,5,5,5,5,5,5,5,5,5,5,5,5,5,5,6,6,6,6,6,6,6,6,6,6,6,6,6,6,6,6,6,6,6,6,6,6,6,6,6,6,6,6,6,6,6,6,7,7,7,7,7,7,7,7,7,7,7,7,7,7,7,7,7,7,7,7,7,7,7,7,7,7,7,7,7,7,7,7,7,7,7,7,7,7,7,7,7,7,7,7,7,7,7,7,7,7,7,7,7,7,7,7,7,7,7,7,7,7,7,7,8,8,8,8,8,8,8,8,8,8,8,8,8,8,8,8,8,8,8,8,8,8,8,8,8,8,8,8,8,8,8,8,8,8,8,8,8,8,8,8,8,8,8,8,8,8,8,8,8,8,8,8,8,8,8,8,8,8,8,8,8,8,8,8,8,8,8,8,8,8,8,8,8,8,8,8,8,8,8,8,8,8,8,8,8,8,8,8,8,8,8,8,8,8,8,8,8,8,8,8,8,8,8,8,8,8,8,8,8,8,8,8,8,8,8,8,8,8,8,8,8,8,8,8,8,8,8,8]
def wW (m:Nat) (a:Int) (b:Int):Option jH:=if(wJ b)≠0 then some (wI (Int.tmod (wJ a) (wJ b)),ul)else none
variable (m:Nat)
def Ch (a:LI) (b:Int):Option jH:=bif decide ((a.length:Int)>0)then (wW m b (a.length:Int)).bind λe=>if 0<=e.1/\e.1<(a.length:Int)then some (vP .u64 (wJ ((vP .u64 (vP .u64 (wJ ((wJ (wI (b+1)))*11400714819323198485)) (a.getD e.1.toNat 0)) (aJ .u64 (vP .u64 (wJ ((wJ (wI (b+1)))*11400714819323198485)) (a.getD e.1.toNat 0)) 31))*13787848793156543929)) (aJ .u64 (wJ ((vP .u64 (vP .u64 (wJ ((wJ (wI (b+1)))*11400714819323198485)) (a.getD e.1.toNat 0)) (aJ .u64 (vP .u64 (wJ ((wJ (wI (b+1)))*11400714819323198485)) (a.getD e.1.toNat 0)) 31))*13787848793156543929)) 29),ul)else none else some (vP .u64 (wJ ((vP .u64 (wJ ((wJ (wI (b+1)))*11400714819323198485)) (aJ .u64 (wJ ((wJ (wI (b+1)))*11400714819323198485)) 31))*13787848793156543929)) (aJ .u64 (wJ ((vP .u64 (wJ ((wJ (wI (b+1)))*11400714819323198485)) (aJ .u64 (wJ ((wJ (wI (b+1)))*11400714819323198485)) 31))*13787848793156543929)) 29),ul)
def oH (m:Nat) (a:Int):Option pD:=some ((qp .u64 (aJ .u64 a 52) 2047) !=2047,ut)
def m9 (m:Nat):Nat->LI->Int->LI->Int->Option pE
 |0,_,_,_,_=>none
 |n+1,a,b,c,d=>bif decide (d<b)then if 0<=d/\d<(a.length:Int)then if c.length+([a.getD d.toNat 0]:LI).length<=1073741824 then m9 m n a b (c++([a.getD d.toNat 0]:LI)) (wI (d+1))else none else none else some (.inl (c,()))
def kh (m:Nat):Nat->LI->Int->Option LM
 |0,_,_=>none
 |n+1,a,b=>bif decide (b>0)then if 0<=(wI (b-1))/\(wI (b-1))<(a.length:Int)then bif (a.getD (wI (b-1)).toNat 0)==0 then kh m n a (wI (b-1))else some (.inl (a,b,()))else none else some (.inl (a,b,()))
def gr (a:LI):Option R8:=(kh m m a (a.length:Int)).bind λx=>match x with
 | .inl g=>(m9 m m g.1 g.2.1 ([]:LI) 0).bind λy=>match y with
  | .inl z=>some (z.1,ut)
  | .inr e=>e.elim
 | .inr e=>e.elim
def fN (a:Bool) (b:LI):Option wT:=(gr m b).bind λe=>bif a then some ((decide ((e.1.length:Int)>0),e.1,()),ul)else some ((false,e.1,()),ul)
def gm (a:Int):Option Bo:=bif decide (a<0)then (fN m (decide (a<0)) ([wK (wJ ((wJ (wI (0-(wI (a+1)))))+1)),wK (aJ .u64 (wJ ((wJ (wI (0-(wI (a+1)))))+1)) 32)]:LI)).bind λe=>some ((e.1.1,e.1.2.1,()),ut)else (fN m (decide (a<0)) ([wK (wJ a),wK (aJ .u64 (wJ a) 32)]:LI)).bind λg=>some ((g.1.1,g.1.2.1,()),ut)
def nN (a:Bool) (b:LI):Option Bo:=(fN m a b).bind λe=>some ((e.1.1,e.1.2.1,()),ut)
def x8 (m:Nat):Option R5:=some ((true,false,[],0,()),())
def yy (m:Nat) (a:Int):Option lg:=bif a==0 then some (32,ut)else if(0:Int)<=27 then if 0<=(aJ .u32 (wK ((qp .u32 a (wK (0-a)))*125613361)) 27)/\(aJ .u32 (wK ((qp .u32 a (wK (0-a)))*125613361)) 27)<(L5.length:Int)then some (wI (L5.getD (aJ .u32 (wK ((qp .u32 a (wK (0-a)))*125613361)) 27).toNat 0),ut)else none else none
def ki:Nat->LI->Int->Option sS
 |0,_,_=>none
 |n+1,a,b=>bif decide (b<(a.length:Int))then if 0<=b/\b<(a.length:Int)then bif (a.getD (0+b.toNat) 0) !=0 then if 0<=b/\b<(a.length:Int)then (yy m (a.getD (0+b.toNat) 0)).bind λe=>some (.inl (wI ((wI (32*b))+e.1),()))else none else ki n a (wI (b+1))else none else some (.inr (.inl ()))
def fj (a:Bool) (b:LI):Option lg:=(gr m b).bind λg=>(ki m m g.1 0).bind λx=>match x with
 | .inl y=>some (y.1,ut)
 | .inr (.inl z)=>some (0,ut)
 | .inr (.inr e)=>e.elim
def BO (a:Bool) (b:LI):Option Bo:=(fN m false b).bind λe=>some ((e.1.1,e.1.2.1,()),ut)
def mZ (m:Nat):Nat->LI->Int->LI->Int->Int->Option LM
 |0,_,_,_,_,_=>none
 |n+1,a,b,c,d,f=>bif decide (f<(a.length:Int))then if 0<=f/\f<(a.length:Int)then if 0<=(Int.tmod b 32)then if c.length+([wK (bf .u64 d (bw .u64 (wJ (a.getD f.toNat 0)) (Int.tmod b 32)))]:LI).length<=1073741824 then mZ m n a b (c++([wK (bf .u64 d (bw .u64 (wJ (a.getD f.toNat 0)) (Int.tmod b 32)))]:LI)) (aJ .u64 (bf .u64 d (bw .u64 (wJ (a.getD f.toNat 0)) (Int.tmod b 32))) 32) (wI (f+1))else none else none else none else some (.inl (c,d,()))
def ph (a:LI) (b:Int):Option vI:=if 0<=(wI (Int.tdiv b 32))/\(wI (Int.tdiv b 32))<=(wI (Int.tdiv b 32))/\(wI (Int.tdiv b 32))<=1073741824 then (mZ m m a b (List.replicate (wI (Int.tdiv b 32)).toNat (0:Int)) 0 0).bind λx=>match x with
 | .inl g=>if g.1.length+([wK g.2.1]:LI).length<=1073741824 then some (g.1++([wK g.2.1]:LI),ul)else none
 | .inr e=>e.elim else none
def eB (m:Nat):Nat->LI->Int->Bool->LI->Int->Int->Option (nD⊕Empty)
 |0,_,_,_,_,_,_=>none
 |n+1,a,b,c,d,f,h=>bif decide (h<(a.length:Int))then if 0<=h/\h<(a.length:Int)then bif decide ((wI (h+1))<(a.length:Int))then if 0<=(wI (h+1))/\(wI (h+1))<(a.length:Int)then bif h==(wI (Int.tdiv b 32))then if 0<=h/\h<(a.length:Int)then if 0<=f then bif (qp .u32 (a.getD h.toNat 0) (wK ((bw .u32 1 f)-1))) !=0 then if 0<=f then if d.length+([wK (aJ .u64 (bf .u64 (wJ (a.getD h.toNat 0)) (bw .u64 (wJ (a.getD (wI (h+1)).toNat 0)) 32)) f)]:LI).length<=1073741824 then eB m n a b true (d++([wK (aJ .u64 (bf .u64 (wJ (a.getD h.toNat 0)) (bw .u64 (wJ (a.getD (wI (h+1)).toNat 0)) 32)) f)]:LI)) f (wI (h+1))else none else none else if 0<=f then if d.length+([wK (aJ .u64 (bf .u64 (wJ (a.getD h.toNat 0)) (bw .u64 (wJ (a.getD (wI (h+1)).toNat 0)) 32)) f)]:LI).length<=1073741824 then eB m n a b c (d++([wK (aJ .u64 (bf .u64 (wJ (a.getD h.toNat 0)) (bw .u64 (wJ (a.getD (wI (h+1)).toNat 0)) 32)) f)]:LI)) f (wI (h+1))else none else none else none else none else if 0<=f then if d.length+([wK (aJ .u64 (bf .u64 (wJ (a.getD h.toNat 0)) (bw .u64 (wJ (a.getD (wI (h+1)).toNat 0)) 32)) f)]:LI).length<=1073741824 then eB m n a b c (d++([wK (aJ .u64 (bf .u64 (wJ (a.getD h.toNat 0)) (bw .u64 (wJ (a.getD (wI (h+1)).toNat 0)) 32)) f)]:LI)) f (wI (h+1))else none else none else none else bif h==(wI (Int.tdiv b 32))then if 0<=h/\h<(a.length:Int)then if 0<=f then bif (qp .u32 (a.getD h.toNat 0) (wK ((bw .u32 1 f)-1))) !=0 then if 0<=f then if d.length+([wK (aJ .u64 (wJ (a.getD h.toNat 0)) f)]:LI).length<=1073741824 then eB m n a b true (d++([wK (aJ .u64 (wJ (a.getD h.toNat 0)) f)]:LI)) f (wI (h+1))else none else none else if 0<=f then if d.length+([wK (aJ .u64 (wJ (a.getD h.toNat 0)) f)]:LI).length<=1073741824 then eB m n a b c (d++([wK (aJ .u64 (wJ (a.getD h.toNat 0)) f)]:LI)) f (wI (h+1))else none else none else none else none else if 0<=f then if d.length+([wK (aJ .u64 (wJ (a.getD h.toNat 0)) f)]:LI).length<=1073741824 then eB m n a b c (d++([wK (aJ .u64 (wJ (a.getD h.toNat 0)) f)]:LI)) f (wI (h+1))else none else none else none else some (.inl (c,d,()))
def kf (m:Nat):Nat->LI->Int->Bool->Int->Option ((LI×Int×Bool×Unit)⊕Empty)
 |0,_,_,_,_=>none
 |n+1,a,b,c,d=>bif decide (d<(wI (Int.tdiv b 32)))then bif decide (d<(a.length:Int))then bif c then kf m n a b true (wI (d+1))else if 0<=d/\d<(a.length:Int)then kf m n a b ((a.getD d.toNat 0) !=0) (wI (d+1))else none else some (.inl (a,b,c,()))else some (.inl (a,b,c,()))
def rP (a:LI) (b:Int):Option R7:=(kf m m a b false 0).bind λy=>match y with
 | .inl g=>(eB m m g.1 g.2.1 g.2.2.1 ([]:LI) (Int.tmod g.2.1 32) (wI (Int.tdiv g.2.1 32))).bind λz=>match z with
  | .inl x=>some ((x.2.1,x.1,()),ul)
  | .inr e=>e.elim
 | .inr e=>e.elim
def Ad (a:Bool) (b:LI):Option Bo:=(fN m (!a) b).bind λe=>some ((e.1.1,e.1.2.1,()),ut)
def fu (m:Nat):Nat->LI->LI->LI->Int->Int->Option LM
 |0,_,_,_,_,_=>none
 |n+1,a,b,c,d,f=>bif decide (f<(if(b.length:Int)>(a.length:Int)then(b.length:Int)else(a.length:Int)))then bif decide (f<(a.length:Int))then if 0<=f/\f<(a.length:Int)then bif decide (f<(b.length:Int))then if 0<=f/\f<(b.length:Int)then if c.length+([wK (wJ ((wJ (d+(wJ (a.getD f.toNat 0))))+(wJ (b.getD f.toNat 0))))]:LI).length<=1073741824 then fu m n a b (c++([wK (wJ ((wJ (d+(wJ (a.getD f.toNat 0))))+(wJ (b.getD f.toNat 0))))]:LI)) (aJ .u64 (wJ ((wJ (d+(wJ (a.getD f.toNat 0))))+(wJ (b.getD f.toNat 0)))) 32) (wI (f+1))else none else none else if c.length+([wK (wJ (d+(wJ (a.getD f.toNat 0))))]:LI).length<=1073741824 then fu m n a b (c++([wK (wJ (d+(wJ (a.getD f.toNat 0))))]:LI)) (aJ .u64 (wJ (d+(wJ (a.getD f.toNat 0)))) 32) (wI (f+1))else none else none else bif decide (f<(b.length:Int))then if 0<=f/\f<(b.length:Int)then if c.length+([wK (wJ (d+(wJ (b.getD f.toNat 0))))]:LI).length<=1073741824 then fu m n a b (c++([wK (wJ (d+(wJ (b.getD f.toNat 0))))]:LI)) (aJ .u64 (wJ (d+(wJ (b.getD f.toNat 0)))) 32) (wI (f+1))else none else none else if c.length+([wK d]:LI).length<=1073741824 then fu m n a b (c++([wK d]:LI)) (aJ .u64 d 32) (wI (f+1))else none else some (.inl (c,d,()))
def Ea (a:LI) (b:LI):Option vI:=(fu m m a b ([]:LI) 0 0).bind λx=>match x with
 | .inl g=>if g.1.length+([wK g.2.1]:LI).length<=1073741824 then some (g.1++([wK g.2.1]:LI),ul)else none
 | .inr e=>e.elim
def kg (m:Nat):Nat->LI->LI->Int->Option sS
 |0,_,_,_=>none
 |n+1,a,b,c=>bif decide (c>=0)then if 0<=c/\c<(a.length:Int)then if 0<=c/\c<(b.length:Int)then bif (a.getD c.toNat 0) !=(b.getD c.toNat 0)then if 0<=c/\c<(a.length:Int)then if 0<=c/\c<(b.length:Int)then bif decide ((a.getD c.toNat 0)<(b.getD c.toNat 0))then some (.inl ((-1),()))else some (.inl (1,()))else none else none else kg m n a b (wI (c-1))else none else none else some (.inr (.inl ()))
def Ac (a:LI) (b:LI):Option jH:=bif (a.length:Int) !=(b.length:Int)then bif decide ((a.length:Int)<(b.length:Int))then some ((-1),ul)else some (1,ul)else (kg m m a b (wI ((a.length:Int)-1))).bind λg=>match g with
  | .inl x=>some (x.1,ul)
  | .inr (.inl y)=>some (0,ul)
  | .inr (.inr e)=>e.elim
def iN (m:Nat):Nat->LI->LI->LI->Int->Int->Option pE
 |0,_,_,_,_,_=>none
 |n+1,a,b,c,d,f=>bif decide (f<(a.length:Int))then if 0<=f/\f<(a.length:Int)then bif decide (f<(b.length:Int))then if 0<=f/\f<(b.length:Int)then if c.length+([wK (wJ ((wJ ((wJ (a.getD f.toNat 0))-d))-(wJ (b.getD f.toNat 0))))]:LI).length<=1073741824 then iN m n a b (c++([wK (wJ ((wJ ((wJ (a.getD f.toNat 0))-d))-(wJ (b.getD f.toNat 0))))]:LI)) (aJ .u64 (wJ ((wJ ((wJ (a.getD f.toNat 0))-d))-(wJ (b.getD f.toNat 0)))) 63) (wI (f+1))else none else none else if c.length+([wK (wJ ((wJ (a.getD f.toNat 0))-d))]:LI).length<=1073741824 then iN m n a b (c++([wK (wJ ((wJ (a.getD f.toNat 0))-d))]:LI)) (aJ .u64 (wJ ((wJ (a.getD f.toNat 0))-d)) 63) (wI (f+1))else none else none else some (.inl (c,()))
def Ab (a:LI) (b:LI):Option vI:=(iN m m a b ([]:LI) 0 0).bind λg=>match g with
 | .inl x=>some (x.1,ul)
 | .inr e=>e.elim
def fM (a:Bool) (b:LI) (c:Bool) (d:LI):Option wT:=(gr m b).bind λe=>(gr m d).bind λg=>bif a==c then (Ea m e.1 g.1).bind λA=>(fN m a A.1).bind λx=>some ((x.1.1,x.1.2.1,()),ul)else (Ac m e.1 g.1).bind λB=>bif decide (B.1>=0)then (Ab m e.1 g.1).bind λC=>(fN m a C.1).bind λy=>some ((y.1.1,y.1.2.1,()),ul)else (Ab m g.1 e.1).bind λD=>(fN m c D.1).bind λz=>some ((z.1.1,z.1.2.1,()),ul)
def wC (a:Bool) (b:LI) (c:Bool) (d:LI):Option wT:=(Ad m c d).bind λe=>(fM m a b e.1.1 e.1.2.1).bind λg=>some ((g.1.1,g.1.2.1,()),ul)
def o6 (a:Bool) (b:LI) (c:Int):Option wT:=(nN m a b).bind λg=>bif decide (c>=0)then (ph m g.1.2.1 c).bind λB=>(fN m g.1.1 B.1).bind λx=>some ((x.1.1,x.1.2.1,()),ul)else (rP m g.1.2.1 (wI (0-c))).bind λy=>(fN m g.1.1 y.1.1).bind λe=>bif g.1.1 then bif y.1.2.1 then (gm m 1).bind λz=>(wC m e.1.1 e.1.2.1 z.1.1 z.1.2.1).bind λA=>some ((A.1.1,A.1.2.1,()),ul)else some ((e.1.1,e.1.2.1,()),ul)else some ((e.1.1,e.1.2.1,()),ul)
def pk:Nat->Int->Bool->LI->Bool->LI->Option YS
 |0,_,_,_,_,_=>none
 |n+1,a,b,c,d,f=>bif decide (a>1048576)then (o6 m b c (-1048576)).bind λe=>pk n (wI (a-1048576)) e.1.1 e.1.2.1 d f else some (.inl (a,(b,c,()),(d,f,()),()))
def rS (a:Bool) (b:LI) (c:Int):Option wT:=(pk m m c a b false ([]:LI)).bind λy=>match y with
 | .inl g=>(o6 m g.2.1.1 g.2.1.2.1 (wI (0-g.1))).bind λx=>some ((x.1.1,x.1.2.1,()),ul)
 | .inr e=>e.elim
def wh (m:Nat) (a:Int):Option lg:=bif decide (a>=65536)then bif decide ((aJ .u32 a 16)>=256)then if 0<=(gK (aJ .u32 (aJ .u32 a 16) 8))/\(gK (aJ .u32 (aJ .u32 a 16) 8))<(Y9.length:Int)then some (wI (24+(wI (Y9.getD (gK (aJ .u32 (aJ .u32 a 16) 8)).toNat 0))),ut)else none else if 0<=(gK (aJ .u32 a 16))/\(gK (aJ .u32 a 16))<(Y9.length:Int)then some (wI (16+(wI (Y9.getD (gK (aJ .u32 a 16)).toNat 0))),ut)else none else bif decide (a>=256)then if 0<=(gK (aJ .u32 a 8))/\(gK (aJ .u32 a 8))<(Y9.length:Int)then some (wI (8+(wI (Y9.getD (gK (aJ .u32 a 8)).toNat 0))),ut)else none else if 0<=(gK a)/\(gK a)<(Y9.length:Int)then some (wI (0+(wI (Y9.getD (gK a).toNat 0))),ut)else none
def pj (a:Bool) (b:LI):Option lg:=(gr m b).bind λe=>bif (e.1.length:Int)==0 then some (0,ut)else if 0<=(wI ((e.1.length:Int)-1))/\(wI ((e.1.length:Int)-1))<(e.1.length:Int)then (wh m (e.1.getD (0+(wI ((e.1.length:Int)-1)).toNat) 0)).bind λg=>some (wI ((wI (32*(wI ((e.1.length:Int)-1))))+g.1),ut)else none
def u9 (a:Bool) (b:LI) (c:Int):Option xq:=(nN m a b).bind λe=>bif (e.1.2.1.length:Int)==0 then some ((false,false,[],0,()),ul)else bif decide (c>65536)then (x8 m).bind λg=>some ((g.1.1,g.1.2.1,g.1.2.2.1,g.1.2.2.2.1,()),ul)else (fj m e.1.1 e.1.2.1).bind λx=>(BO m e.1.1 e.1.2.1).bind λB=>(rS m B.1.1 B.1.2.1 x.1).bind λA=>bif decide ((wI (c+x.1))<(-65536))then (x8 m).bind λy=>some ((y.1.1,y.1.2.1,y.1.2.2.1,y.1.2.2.2.1,()),ul)else (pj m A.1.1 A.1.2.1).bind λC=>bif decide ((wI ((wI (c+x.1))+C.1))>65536)then (x8 m).bind λz=>some ((z.1.1,z.1.2.1,z.1.2.2.1,z.1.2.2.2.1,()),ul)else some ((false,a,A.1.2.1,wI (c+x.1),()),ul)
def K2 (a:Int):Option wU:=(gm m a).bind λg=>(u9 m g.1.1 g.1.2.1 0).bind λe=>some ((e.1.1,e.1.2.1,e.1.2.2.1,e.1.2.2.2.1,()),ut)
def nH (a:Bool) (b:Bool) (c:LI) (d:Int):Option wU:=bif a then (x8 m).bind λe=>some ((e.1.1,e.1.2.1,e.1.2.2.1,e.1.2.2.2.1,()),ut)else (u9 m b c d).bind λg=>some ((g.1.1,g.1.2.1,g.1.2.2.1,g.1.2.2.2.1,()),ut)
def fR (a:Bool) (b:LI):Option lg:=(nN m a b).bind λe=>bif (e.1.2.1.length:Int)==0 then some (0,ut)else bif e.1.1 then some ((-1),ut)else some (1,ut)
def kT (m:Nat) (a:Bool) (b:Int):Option jH:=bif a then some (bf .u64 b 9223372036854775808,ul)else some (b,ul)
def nJ (a:Bool) (b:Int):Option jH:=bif b==3 then (kT m a 9218868437227405311).bind λe=>some (e.1,ul)else bif b==1 then bif !a then (kT m a 9218868437227405311).bind λg=>some (g.1,ul)else bif b==2 then bif a then (kT m a 9218868437227405311).bind λx=>some (x.1,ul)else (kT m a 9218868437227405312).bind λy=>some (y.1,ul)else (kT m a 9218868437227405312).bind λz=>some (z.1,ul)else bif b==2 then bif a then (kT m a 9218868437227405311).bind λA=>some (A.1,ul)else (kT m a 9218868437227405312).bind λB=>some (B.1,ul)else (kT m a 9218868437227405312).bind λC=>some (C.1,ul)
def tj (a:Bool) (b:LI) (c:Int):Option vH:=(gr m b).bind λe=>(rP m e.1 c).bind λg=>some (g.1.2.1,ul)
def dw (m:Nat) (a:Bool) (b:Int) (c:Bool) (d:Int):Option (Bool×Unit×Unit×Unit×Unit×Unit):=bif d==1 then some (a,wr)else bif d==2 then some (!a,wr)else bif d==3 then some (false,wr)else bif decide (b>0)then some (true,wr)else bif b==0 then some (c,wr)else some (false,wr)
def yw (a:Bool) (b:Bool) (c:LI) (d:Int) (f:Bool) (h:Int):Option (nD×Unit×Unit×Unit×Unit×Unit×Unit):=(rS m b c d).bind λe=>(tj m b c d).bind λy2=>bif !y2.1 then bif !f then some ((e.1.1,e.1.2.1,()),v6)else bif decide (d>0)then (rS m b c (wI (d-1))).bind λy3=>(fj m y3.1.1 y3.1.2.1).bind λy4=>bif y4.1==0 then (fR m y3.1.1 y3.1.2.1).bind λy5=>bif y5.1 !=0 then bif f then (fR m e.1.1 e.1.2.1).bind λy6=>bif y6.1 !=0 then (fj m e.1.1 e.1.2.1).bind λy7=>(dw m a 1 (y7.1==0) h).bind λy8=>bif y8.1 then (gm m 1).bind λy9=>(fM m e.1.1 e.1.2.1 y9.1.1 y9.1.2.1).bind λB=>some ((B.1.1,B.1.2.1,()),v6)else some ((e.1.1,e.1.2.1,()),v6)else (dw m a 1 false h).bind λz2=>bif z2.1 then (gm m 1).bind λC=>(fM m e.1.1 e.1.2.1 C.1.1 C.1.2.1).bind λD=>some ((D.1.1,D.1.2.1,()),v6)else some ((e.1.1,e.1.2.1,()),v6)else (tj m b c (wI (d-1))).bind λe2=>bif e2.1 then (fR m e.1.1 e.1.2.1).bind λg2=>bif g2.1 !=0 then (fj m e.1.1 e.1.2.1).bind λx2=>(dw m a 1 (x2.1==0) h).bind λz3=>bif z3.1 then (gm m 1).bind λE=>(fM m e.1.1 e.1.2.1 E.1.1 E.1.2.1).bind λF=>some ((F.1.1,F.1.2.1,()),v6)else some ((e.1.1,e.1.2.1,()),v6)else (dw m a 1 false h).bind λe3=>bif e3.1 then (gm m 1).bind λG=>(fM m e.1.1 e.1.2.1 G.1.1 G.1.2.1).bind λH=>some ((H.1.1,H.1.2.1,()),v6)else some ((e.1.1,e.1.2.1,()),v6)else (fR m e.1.1 e.1.2.1).bind λg3=>bif g3.1 !=0 then (fj m e.1.1 e.1.2.1).bind λx3=>(dw m a 0 (x3.1==0) h).bind λz4=>bif z4.1 then (gm m 1).bind λI=>(fM m e.1.1 e.1.2.1 I.1.1 I.1.2.1).bind λJ=>some ((J.1.1,J.1.2.1,()),v6)else some ((e.1.1,e.1.2.1,()),v6)else (dw m a 0 false h).bind λe4=>bif e4.1 then (gm m 1).bind λK=>(fM m e.1.1 e.1.2.1 K.1.1 K.1.2.1).bind λL=>some ((L.1.1,L.1.2.1,()),v6)else some ((e.1.1,e.1.2.1,()),v6)else (fR m e.1.1 e.1.2.1).bind λg4=>bif g4.1 !=0 then (fj m e.1.1 e.1.2.1).bind λx4=>(dw m a (-1) (x4.1==0) h).bind λz5=>bif z5.1 then (gm m 1).bind λM=>(fM m e.1.1 e.1.2.1 M.1.1 M.1.2.1).bind λN=>some ((N.1.1,N.1.2.1,()),v6)else some ((e.1.1,e.1.2.1,()),v6)else (dw m a (-1) false h).bind λe5=>bif e5.1 then (gm m 1).bind λP=>(fM m e.1.1 e.1.2.1 P.1.1 P.1.2.1).bind λQ=>some ((Q.1.1,Q.1.2.1,()),v6)else some ((e.1.1,e.1.2.1,()),v6)else (fR m e.1.1 e.1.2.1).bind λg5=>bif g5.1 !=0 then (fj m e.1.1 e.1.2.1).bind λx5=>(dw m a (-1) (x5.1==0) h).bind λz6=>bif z6.1 then (gm m 1).bind λR=>(fM m e.1.1 e.1.2.1 R.1.1 R.1.2.1).bind λS=>some ((S.1.1,S.1.2.1,()),v6)else some ((e.1.1,e.1.2.1,()),v6)else (dw m a (-1) false h).bind λe6=>bif e6.1 then (gm m 1).bind λT=>(fM m e.1.1 e.1.2.1 T.1.1 T.1.2.1).bind λU=>some ((U.1.1,U.1.2.1,()),v6)else some ((e.1.1,e.1.2.1,()),v6)else (fR m e.1.1 e.1.2.1).bind λg6=>bif g6.1 !=0 then (fj m e.1.1 e.1.2.1).bind λx6=>(dw m a (-1) (x6.1==0) h).bind λz7=>bif z7.1 then (gm m 1).bind λV=>(fM m e.1.1 e.1.2.1 V.1.1 V.1.2.1).bind λW=>some ((W.1.1,W.1.2.1,()),v6)else some ((e.1.1,e.1.2.1,()),v6)else (dw m a (-1) false h).bind λe7=>bif e7.1 then (gm m 1).bind λX=>(fM m e.1.1 e.1.2.1 X.1.1 X.1.2.1).bind λY=>some ((Y.1.1,Y.1.2.1,()),v6)else some ((e.1.1,e.1.2.1,()),v6)else bif decide (d>0)then (rS m b c (wI (d-1))).bind λg=>(fj m g.1.1 g.1.2.1).bind λg7=>bif g7.1==0 then (fR m g.1.1 g.1.2.1).bind λx7=>bif x7.1 !=0 then bif f then (fR m e.1.1 e.1.2.1).bind λz8=>bif z8.1 !=0 then (fj m e.1.1 e.1.2.1).bind λe8=>(dw m a 1 (e8.1==0) h).bind λg8=>bif g8.1 then (gm m 1).bind λZ=>(fM m e.1.1 e.1.2.1 Z.1.1 Z.1.2.1).bind λi=>some ((i.1.1,i.1.2.1,()),v6)else some ((e.1.1,e.1.2.1,()),v6)else (dw m a 1 false h).bind λz9=>bif z9.1 then (gm m 1).bind λj=>(fM m e.1.1 e.1.2.1 j.1.1 j.1.2.1).bind λk=>some ((k.1.1,k.1.2.1,()),v6)else some ((e.1.1,e.1.2.1,()),v6)else (tj m b c (wI (d-1))).bind λe9=>bif e9.1 then (fR m e.1.1 e.1.2.1).bind λg9=>bif g9.1 !=0 then (fj m e.1.1 e.1.2.1).bind λx9=>(dw m a 1 (x9.1==0) h).bind λy69=>bif y69.1 then (gm m 1).bind λl=>(fM m e.1.1 e.1.2.1 l.1.1 l.1.2.1).bind λo=>some ((o.1.1,o.1.2.1,()),v6)else some ((e.1.1,e.1.2.1,()),v6)else (dw m a 1 false h).bind λy72=>bif y72.1 then (gm m 1).bind λp=>(fM m e.1.1 e.1.2.1 p.1.1 p.1.2.1).bind λq=>some ((q.1.1,q.1.2.1,()),v6)else some ((e.1.1,e.1.2.1,()),v6)else (fR m e.1.1 e.1.2.1).bind λy75=>bif y75.1 !=0 then (fj m e.1.1 e.1.2.1).bind λy76=>(dw m a 0 (y76.1==0) h).bind λy77=>bif y77.1 then (gm m 1).bind λr=>(fM m e.1.1 e.1.2.1 r.1.1 r.1.2.1).bind λs=>some ((s.1.1,s.1.2.1,()),v6)else some ((e.1.1,e.1.2.1,()),v6)else (dw m a 0 false h).bind λy80=>bif y80.1 then (gm m 1).bind λt=>(fM m e.1.1 e.1.2.1 t.1.1 t.1.2.1).bind λu=>some ((u.1.1,u.1.2.1,()),v6)else some ((e.1.1,e.1.2.1,()),v6)else (fR m e.1.1 e.1.2.1).bind λy83=>bif y83.1 !=0 then (fj m e.1.1 e.1.2.1).bind λy84=>(dw m a (-1) (y84.1==0) h).bind λy85=>bif y85.1 then (gm m 1).bind λv=>(fM m e.1.1 e.1.2.1 v.1.1 v.1.2.1).bind λw=>some ((w.1.1,w.1.2.1,()),v6)else some ((e.1.1,e.1.2.1,()),v6)else (dw m a (-1) false h).bind λy88=>bif y88.1 then (gm m 1).bind λy0=>(fM m e.1.1 e.1.2.1 y0.1.1 y0.1.2.1).bind λz0=>some ((z0.1.1,z0.1.2.1,()),v6)else some ((e.1.1,e.1.2.1,()),v6)else (fR m e.1.1 e.1.2.1).bind λy91=>bif y91.1 !=0 then (fj m e.1.1 e.1.2.1).bind λy92=>(dw m a (-1) (y92.1==0) h).bind λy93=>bif y93.1 then (gm m 1).bind λe0=>(fM m e.1.1 e.1.2.1 e0.1.1 e0.1.2.1).bind λg0=>some ((g0.1.1,g0.1.2.1,()),v6)else some ((e.1.1,e.1.2.1,()),v6)else (dw m a (-1) false h).bind λy96=>bif y96.1 then (gm m 1).bind λx0=>(fM m e.1.1 e.1.2.1 x0.1.1 x0.1.2.1).bind λz1=>some ((z1.1.1,z1.1.2.1,()),v6)else some ((e.1.1,e.1.2.1,()),v6)else (fR m e.1.1 e.1.2.1).bind λy99=>bif y99.1 !=0 then (fj m e.1.1 e.1.2.1).bind λe1=>(dw m a (-1) (e1.1==0) h).bind λg1=>bif g1.1 then (gm m 1).bind λx=>(fM m e.1.1 e.1.2.1 x.1.1 x.1.2.1).bind λy=>some ((y.1.1,y.1.2.1,()),v6)else some ((e.1.1,e.1.2.1,()),v6)else (dw m a (-1) false h).bind λx1=>bif x1.1 then (gm m 1).bind λz=>(fM m e.1.1 e.1.2.1 z.1.1 z.1.2.1).bind λA=>some ((A.1.1,A.1.2.1,()),v6)else some ((e.1.1,e.1.2.1,()),v6)
def jV (m:Nat):Nat->Bool->LI->Int->Int->Option YI
 |0,_,_,_,_=>none
 |n+1,a,b,c,d=>bif decide (d<(b.length:Int))then if 0<=d/\d<(b.length:Int)then if 0<=(wI (32*d))then jV m n a b (bf .u64 c (bw .u64 (wJ (b.getD d.toNat 0)) (wI (32*d)))) (wI (d+1))else none else none else some (.inl ((a,b,()),c,()))
def rG (a:Bool) (b:LI):Option YD:=(nN m a b).bind λx=>bif decide ((x.1.2.1.length:Int)>2)then some ((0,false,()),ut)else (jV m m x.1.1 x.1.2.1 0 0).bind λy=>match y with
  | .inl g=>bif g.1.1 then bif decide (g.2.1>9223372036854775808)then some ((0,false,()),ut)else some ((wI ((wI (0-(wI (wJ (g.2.1-1)))))-1),true,()),ut)else bif decide (g.2.1>9223372036854775807)then some ((0,false,()),ut)else some ((wI g.2.1,true,()),ut)
  | .inr e=>e.elim
def wB (a:Bool) (b:Bool) (c:LI) (d:Int) (f:Bool) (h:Int):Option (Int×Unit×Unit×Unit×Unit×Unit×Unit):=(pj m b c).bind λe=>bif decide ((wI ((wI (d+e.1))-1))>=1024)then (nJ m a h).bind λJ=>some (J.1,v6)else bif decide ((if(-1074)>(wI ((wI ((wI (d+e.1))-1))-52))then(-1074)else(wI ((wI ((wI (d+e.1))-1))-52)))>=d)then (yw m a b c (wI ((if(-1074)>(wI ((wI ((wI (d+e.1))-1))-52))then(-1074)else(wI ((wI ((wI (d+e.1))-1))-52)))-d)) f h).bind λI=>(rG m I.1.1 I.1.2.1).bind λx=>bif x.1.1==9007199254740992 then bif decide ((wI ((wI ((if(-1074)>(wI ((wI ((wI (d+e.1))-1))-52))then(-1074)else(wI ((wI ((wI (d+e.1))-1))-52)))+1))+53))>1024)then (nJ m a h).bind λK=>some (K.1,v6)else (kT m a (bf .u64 (bw .u64 (wJ (wI ((wI ((if(-1074)>(wI ((wI ((wI (d+e.1))-1))-52))then(-1074)else(wI ((wI ((wI (d+e.1))-1))-52)))+1))+1075))) 52) 0)).bind λL=>some (L.1,v6)else bif decide (x.1.1>=4503599627370496)then bif decide ((wI ((if(-1074)>(wI ((wI ((wI (d+e.1))-1))-52))then(-1074)else(wI ((wI ((wI (d+e.1))-1))-52)))+53))>1024)then (nJ m a h).bind λM=>some (M.1,v6)else bif decide (x.1.1>=4503599627370496)then (kT m a (bf .u64 (bw .u64 (wJ (wI ((if(-1074)>(wI ((wI ((wI (d+e.1))-1))-52))then(-1074)else(wI ((wI ((wI (d+e.1))-1))-52)))+1075))) 52) (wJ (wI (x.1.1-4503599627370496))))).bind λN=>some (N.1,v6)else (kT m a (wJ x.1.1)).bind λP=>some (P.1,v6)else bif decide (x.1.1>=4503599627370496)then (kT m a (bf .u64 (bw .u64 (wJ (wI ((if(-1074)>(wI ((wI ((wI (d+e.1))-1))-52))then(-1074)else(wI ((wI ((wI (d+e.1))-1))-52)))+1075))) 52) (wJ (wI (x.1.1-4503599627370496))))).bind λz=>some (z.1,v6)else (kT m a (wJ x.1.1)).bind λA=>some (A.1,v6)else (o6 m b c (wI (d-(if(-1074)>(wI ((wI ((wI (d+e.1))-1))-52))then(-1074)else(wI ((wI ((wI (d+e.1))-1))-52)))))).bind λy=>(rG m y.1.1 y.1.2.1).bind λg=>bif g.1.1==9007199254740992 then bif decide ((wI ((wI ((if(-1074)>(wI ((wI ((wI (d+e.1))-1))-52))then(-1074)else(wI ((wI ((wI (d+e.1))-1))-52)))+1))+53))>1024)then (nJ m a h).bind λB=>some (B.1,v6)else (kT m a (bf .u64 (bw .u64 (wJ (wI ((wI ((if(-1074)>(wI ((wI ((wI (d+e.1))-1))-52))then(-1074)else(wI ((wI ((wI (d+e.1))-1))-52)))+1))+1075))) 52) 0)).bind λC=>some (C.1,v6)else bif decide (g.1.1>=4503599627370496)then bif decide ((wI ((if(-1074)>(wI ((wI ((wI (d+e.1))-1))-52))then(-1074)else(wI ((wI ((wI (d+e.1))-1))-52)))+53))>1024)then (nJ m a h).bind λD=>some (D.1,v6)else bif decide (g.1.1>=4503599627370496)then (kT m a (bf .u64 (bw .u64 (wJ (wI ((if(-1074)>(wI ((wI ((wI (d+e.1))-1))-52))then(-1074)else(wI ((wI ((wI (d+e.1))-1))-52)))+1075))) 52) (wJ (wI (g.1.1-4503599627370496))))).bind λE=>some (E.1,v6)else (kT m a (wJ g.1.1)).bind λF=>some (F.1,v6)else bif decide (g.1.1>=4503599627370496)then (kT m a (bf .u64 (bw .u64 (wJ (wI ((if(-1074)>(wI ((wI ((wI (d+e.1))-1))-52))then(-1074)else(wI ((wI ((wI (d+e.1))-1))-52)))+1075))) 52) (wJ (wI (g.1.1-4503599627370496))))).bind λG=>some (G.1,v6)else (kT m a (wJ g.1.1)).bind λH=>some (H.1,v6)
def Mo (a:Bool) (b:Bool) (c:LI) (d:Int) (f:Int):Option jH:=(nH m a b c d).bind λe=>bif e.1.1 then some (9221120237041090560,ul)else (fR m e.1.2.1 e.1.2.2.1).bind λx=>bif x.1==0 then some (0,ul)else (BO m e.1.2.1 e.1.2.2.1).bind λg=>(wB m e.1.2.1 g.1.1 g.1.2.1 e.1.2.2.2.1 false f).bind λy=>some (y.1,ul)
def T6 (a:Int) (b:Int):Option jH:=(K2 m a).bind λe=>(Mo m e.1.1 e.1.2.1 e.1.2.2.1 e.1.2.2.2.1 b).bind λg=>some (g.1,ul)
def rU (a:Int):Option lg:=(T6 m (wI ((wI (Int.tmod a 19))-9)) 0).bind λe=>some (e.1,ut)
def OI (a:Int) (b:Int):Option jH:=(wW m b 4).bind λe=>bif e.1==1 then some (bf .u64 (qp .u64 a 9227875636482146303) (bw .u64 (wJ (1019+(qp .u64 (aJ .u64 a 52) 7))) 52),ul)else bif e.1==2 then some (bf .u64 (qp .u64 a 9225623836668461056) (bw .u64 (wJ (983+(Int.tmod (aJ .u64 a 8) 81))) 52),ul)else bif e.1==3 then (oH m a).bind λg=>bif !g.1 then some (0,ul)else some (a,ul)else (rU m a).bind λx=>some (x.1,ul)
def oL:Nat->LI->Int->Int->Int->Int->Int->LI->LI->LI->Int->Int->LI->LI->LI->Int->Int->Option ((LI×Int×Int×Int×lx×lx×Int×Unit)⊕Empty)
 |0,_,_,_,_,_,_,_,_,_,_,_,_,_,_,_,_=>none
 |n+1,a,b,c,d,f,h,i,j,k,l,o,p,q,r,s,t=>bif decide (t<b)then (Ch m a (wI ((wI (100+(wI (s*b))))+t))).bind λe=>bif decide ((Int.tmod (aJ .u64 e.1 40) 3)>0)then if q.length+([t]:LI).length<=1073741824 then (OI m e.1 d).bind λg=>if r.length+([g.1]:LI).length<=1073741824 then oL n a b c d f h i j k l o p (q++([t]:LI)) (r++([g.1]:LI)) s (wI (t+1))else none else none else oL n a b c d f h i j k l o p q r s (wI (t+1))else some (.inl (a,b,c,d,(f,h,i,j,k,()),(l,o,p,q,r,()),s,()))
def rp:Nat->LI->Int->Int->Int->Int->Int->LI->LI->LI->Int->Int->LI->LI->LI->Int->Option tY
 |0,_,_,_,_,_,_,_,_,_,_,_,_,_,_,_=>none
 |n+1,a,b,c,d,f,h,i,j,k,l,o,p,q,r,s=>bif decide (s<c)then (oL m m a b c d f h i j k l o p q r s 0).bind λx=>match x with
   | .inl g=>if g.2.2.2.2.2.1.2.2.1.length+([(g.2.2.2.2.2.1.2.2.2.1.length:Int)]:LI).length<=1073741824 then rp n g.1 g.2.1 g.2.2.1 g.2.2.2.1 g.2.2.2.2.1.1 g.2.2.2.2.1.2.1 g.2.2.2.2.1.2.2.1 g.2.2.2.2.1.2.2.2.1 g.2.2.2.2.1.2.2.2.2.1 g.2.2.2.2.2.1.1 g.2.2.2.2.2.1.2.1 (g.2.2.2.2.2.1.2.2.1++([(g.2.2.2.2.2.1.2.2.2.1.length:Int)]:LI)) g.2.2.2.2.2.1.2.2.2.1 g.2.2.2.2.2.1.2.2.2.2.1 (wI (g.2.2.2.2.2.2.1+1))else none
   | .inr e=>e.elim else some (.inl ((f,h,i,j,k,()),(l,o,p,q,r,()),()))
def O2 (a:LI) (b:Int) (c:Int) (d:Int):Option (lx×Unit×Unit×Unit×Unit×Unit):=(rp m m a b c d 0 0 ([]:LI) ([]:LI) ([]:LI) b c ([0]:LI) ([]:LI) ([]:LI) 0).bind λx=>match x with
 | .inl g=>some ((g.2.1.1,g.2.1.2.1,g.2.1.2.2.1,g.2.1.2.2.2.1,g.2.1.2.2.2.2.1,()),wr)
 | .inr e=>e.elim
def ml:Nat->LI->Int->Option sT
 |0,_,_=>none
 |n+1,a,b=>bif decide (b<(a.length:Int))then if 0<=b/\b<(a.length:Int)then (oH m (a.getD b.toNat 0)).bind λe=>bif !e.1 then some (.inl (false,()))else ml n a (wI (b+1))else none else some (.inr (.inl ()))
def CK (a:LI):Option pD:=(ml m m a 0).bind λg=>match g with
 | .inl x=>some (x.1,ut)
 | .inr (.inl y)=>some (true,ut)
 | .inr (.inr e)=>e.elim
def kd (m:Nat):Nat->Int->Int->LI->LI->LI->Int->Int->Option ((Int×Unit)⊕YJ⊕Empty)
 |0,_,_,_,_,_,_,_=>none
 |n+1,a,b,c,d,f,h,i=>if 0<=(wI (h+1))/\(wI (h+1))<(c.length:Int)then bif decide (i<(c.getD (wI (h+1)).toNat 0))then if 0<=i/\i<(d.length:Int)then bif decide ((d.getD i.toNat 0)<0)then some (.inl (1,()))else if 0<=i/\i<(d.length:Int)then bif decide ((d.getD i.toNat 0)>=a)then some (.inl (1,()))else if 0<=h/\h<(c.length:Int)then bif decide (i>(c.getD h.toNat 0))then if 0<=i/\i<(d.length:Int)then if 0<=(wI (i-1))/\(wI (i-1))<(d.length:Int)then bif decide ((d.getD i.toNat 0)<=(d.getD (wI (i-1)).toNat 0))then some (.inl (1,()))else kd m n a b c d f h (wI (i+1))else none else none else kd m n a b c d f h (wI (i+1))else none else none else none else some (.inr (.inl ((a,b,c,d,f,()),h,())))else none
def mU:Nat->Int->Int->LI->LI->LI->Int->Option YT
 |0,_,_,_,_,_,_=>none
 |n+1,a,b,c,d,f,h=>bif decide (h<b)then if 0<=h/\h<(c.length:Int)then (kd m m a b c d f h (c.getD h.toNat 0)).bind λx=>match x with
   | .inl y=>some (.inl (y.1,()))
   | .inr (.inl g)=>mU n g.1.1 g.1.2.1 g.1.2.2.1 g.1.2.2.2.1 g.1.2.2.2.2.1 (wI (g.2.1+1))
   | .inr (.inr e)=>e.elim else none else some (.inr (.inl ((a,b,c,d,f,()),())))
def mV (m:Nat):Nat->Int->Int->LI->LI->LI->Int->Option YT
 |0,_,_,_,_,_,_=>none
 |n+1,a,b,c,d,f,h=>bif decide (h<b)then if 0<=h/\h<(c.length:Int)then if 0<=(wI (h+1))/\(wI (h+1))<(c.length:Int)then bif decide ((c.getD h.toNat 0)>(c.getD (wI (h+1)).toNat 0))then some (.inl (1,()))else mV m n a b c d f (wI (h+1))else none else none else some (.inr (.inl ((a,b,c,d,f,()),())))
def rK (a:Int) (b:Int) (c:LI) (d:LI) (f:LI):Option lg:=bif decide (a<0)then some (6,ut)else bif decide (a>200)then some (6,ut)else bif decide (b<0)then some (6,ut)else bif decide (b>200)then some (6,ut)else bif decide ((d.length:Int)>10000)then some (6,ut)else bif (f.length:Int) !=(d.length:Int)then some (1,ut)else bif (c.length:Int) !=(wI (b+1))then some (1,ut)else if(0:Int)<=0/\0<(c.length:Int)then bif (c.getD 0 0) !=0 then some (1,ut)else if 0<=b/\b<(c.length:Int)then bif (c.getD b.toNat 0) !=(d.length:Int)then some (1,ut)else (mV m m a b c d f 0).bind λx=>match x with
        | .inl y=>some (y.1,ut)
        | .inr (.inl g)=>(mU m m g.1.1 g.1.2.1 g.1.2.2.1 g.1.2.2.2.1 g.1.2.2.2.2.1 0).bind λz=>match z with
         | .inl A=>some (A.1,ut)
         | .inr (.inl B)=>(CK m B.1.2.2.2.2.1).bind λC=>bif !C.1 then some (4,ut)else some (0,ut)
         | .inr (.inr e)=>e.elim
        | .inr (.inr e)=>e.elim else none else none
def oD (m:Nat):Nat->Int->Int->Int->Int->LI->LI->LI->Int->Option sS
 |0,_,_,_,_,_,_,_,_=>none
 |n+1,a,b,c,d,f,h,i,j=>if 0<=(wI (b+1))/\(wI (b+1))<(f.length:Int)then bif decide (j<(f.getD (wI (b+1)).toNat 0))then if 0<=j/\j<(h.length:Int)then bif (h.getD j.toNat 0)==a then if 0<=j/\j<(i.length:Int)then some (.inl (i.getD j.toNat 0,()))else none else oD m n a b c d f h i (wI (j+1))else none else some (.inr (.inl ()))else none
def JX (a:Int) (b:Int) (c:LI) (d:LI) (f:LI) (h:Int) (i:Int):Option MW:=(rK m a b c d f).bind λg=>bif g.1 !=0 then some (0,v4)else bif decide (i<0)then some (0,v4)else bif decide (i>=b)then some (0,v4)else if 0<=i/\i<(c.length:Int)then (oD m m h i a b c d f (c.getD i.toNat 0)).bind λx=>match x with
    | .inl y=>some (y.1,v4)
    | .inr (.inl z)=>some (0,v4)
    | .inr (.inr e)=>e.elim else none
def T0 (m:Nat) (a:Int):Option pD:=some ((qp .u64 a 9223372036854775808) !=0,ut)
def j4 (a:Int):Option wU:=(oH m a).bind λy=>bif !y.1 then (x8 m).bind λe=>some ((e.1.1,e.1.2.1,e.1.2.2.1,e.1.2.2.2.1,()),ut)else bif decide ((wI (qp .u64 (aJ .u64 a 52) 2047))>0)then (T0 m a).bind λz=>(u9 m z.1 ([wK (bf .u64 (qp .u64 a 4503599627370495) 4503599627370496),wK (aJ .u64 (bf .u64 (qp .u64 a 4503599627370495) 4503599627370496) 32)]:LI) (wI ((wI (qp .u64 (aJ .u64 a 52) 2047))-1075))).bind λg=>some ((g.1.1,g.1.2.1,g.1.2.2.1,g.1.2.2.2.1,()),ut)else (T0 m a).bind λA=>(u9 m A.1 ([wK (qp .u64 a 4503599627370495),wK (aJ .u64 (qp .u64 a 4503599627370495) 32)]:LI) (-1074)).bind λx=>some ((x.1.1,x.1.2.1,x.1.2.2.1,x.1.2.2.2.1,()),ut)
def Mu (a:Bool) (b:Bool) (c:LI) (d:Int):Option wU:=(nH m a b c d).bind λe=>bif e.1.1 then some ((e.1.1,e.1.2.1,e.1.2.2.1,e.1.2.2.2.1,()),ut)else (BO m e.1.2.1 e.1.2.2.1).bind λx=>(u9 m x.1.1 x.1.2.1 e.1.2.2.2.1).bind λg=>some ((g.1.1,g.1.2.1,g.1.2.2.1,g.1.2.2.2.1,()),ut)
def kU:Nat->cW->Bool->Bool->LI->Int->Bool->LI->Int->Int->Option (R5⊕(lC×nD×Int×Unit)⊕Empty)
 |0,_,_,_,_,_,_,_,_,_=>none
 |n+1,a,b,c,d,f,h,i,j,k=>bif decide (k<(a.length:Int))then if 0<=k/\k<(a.length:Int)then (nH m (a.getD k.toNat qz).1 (a.getD k.toNat qz).2.1.1 (a.getD k.toNat qz).2.1.2 (a.getD k.toNat qz).2.2).bind λe=>bif e.1.1 then (x8 m).bind λg=>some (.inl ((g.1.1,g.1.2.1,g.1.2.2.1,g.1.2.2.2.1,()),()))else (fR m e.1.2.1 e.1.2.2.1).bind λB=>bif B.1==0 then kU n a b c d f h i j (wI (k+1))else (fR m h i).bind λC=>bif C.1==0 then kU n a b c d f e.1.2.1 e.1.2.2.1 e.1.2.2.2.1 (wI (k+1))else bif decide (e.1.2.2.2.1>=j)then (o6 m e.1.2.1 e.1.2.2.1 (wI (e.1.2.2.2.1-j))).bind λx=>(fM m h i x.1.1 x.1.2.1).bind λy=>kU n a b c d f y.1.1 y.1.2.1 j (wI (k+1))else (o6 m h i (wI (j-e.1.2.2.2.1))).bind λz=>(fM m z.1.1 z.1.2.1 e.1.2.1 e.1.2.2.1).bind λA=>kU n a b c d f A.1.1 A.1.2.1 e.1.2.2.2.1 (wI (k+1))else none else some (.inr (.inl ((b,c,d,f,()),(h,i,()),j,())))
def K5 (a:List bE):Option wU:=(kU m m a false false ([]:LI) 0 false ([]:LI) 0 0).bind λz=>match z with
 | .inl g=>some ((g.1.1,g.1.2.1,g.1.2.2.1,g.1.2.2.2.1,()),ut)
 | .inr (.inl y)=>(u9 m y.2.1.1 y.2.1.2.1 y.2.2.1).bind λx=>some ((x.1.1,x.1.2.1,x.1.2.2.1,x.1.2.2.2.1,()),ut)
 | .inr (.inr e)=>e.elim
def qL (m:Nat):Nat->Int->Int->Int->Int->LI->LI->LI->Int->Option sT
 |0,_,_,_,_,_,_,_,_=>none
 |n+1,a,b,c,d,f,h,i,j=>if 0<=(wI (b+1))/\(wI (b+1))<(f.length:Int)then bif decide (j<(f.getD (wI (b+1)).toNat 0))then if 0<=j/\j<(h.length:Int)then bif (h.getD j.toNat 0)==a then some (.inl (true,()))else qL m n a b c d f h i (wI (j+1))else none else some (.inr (.inl ()))else none
def TW (a:Int) (b:Int) (c:LI) (d:LI) (f:LI) (h:Int) (i:Int):Option (Bool×Unit×Unit×Unit×Unit):=bif decide (h<0)then some (false,v4)else bif decide (h>=a)then some (false,v4)else bif decide (i<0)then some (false,v4)else bif decide (i>=b)then some (false,v4)else if 0<=i/\i<(c.length:Int)then (qL m m h i a b c d f (c.getD i.toNat 0)).bind λg=>match g with
     | .inl x=>some (x.1,v4)
     | .inr (.inl y)=>some (false,v4)
     | .inr (.inr e)=>e.elim else none
def oK:Nat->Int->Int->Int->LI->LI->LI->Int->Int->LI->LI->LI->Int->Int->LI->LI->LI->Int->Int->cW->Int->Option ((Int×lx×lx×lx×Int×Int×cW×Unit)⊕Empty)
 |0,_,_,_,_,_,_,_,_,_,_,_,_,_,_,_,_,_,_,_,_=>none
 |n+1,a,b,c,d,f,h,i,j,k,l,o,p,q,r,s,t,u,v,w,e=>bif decide (e<a)then bif e !=v then (JX m i j k l o (if e>v then e else v) (if e<v then e else v)).bind λy=>(j4 m y.1).bind λx=>(Mu m x.1.1 x.1.2.1 x.1.2.2.1 x.1.2.2.2.1).bind λg=>if w.length+([(g.1.1,((g.1.2.1,g.1.2.2.1),g.1.2.2.2.1))]:List bE).length<=1073741824 then oK n a b c d f h i j k l o p q r s t u v (w++([(g.1.1,((g.1.2.1,g.1.2.2.1),g.1.2.2.2.1))]:List bE)) (wI (e+1))else none else oK n a b c d f h i j k l o p q r s t u v w (wI (e+1))else some (.inl (a,(b,c,d,f,h,()),(i,j,k,l,o,()),(p,q,r,s,t,()),u,v,w,()))
def lV:Nat->Int->Int->Int->LI->LI->LI->Int->Int->LI->LI->LI->Int->Int->LI->LI->LI->Int->Int->Option ((Int×lx×lx×lx×Int×Unit)⊕Empty)
 |0,_,_,_,_,_,_,_,_,_,_,_,_,_,_,_,_,_,_=>none
 |n+1,a,b,c,d,f,h,i,j,k,l,o,p,q,r,s,t,u,v=>bif decide (v<a)then bif v==u then (K2 m 1).bind λx=>(oK m m a b c d f h i j k l o p q r s t u v ([(x.1.1,((x.1.2.1,x.1.2.2.1),x.1.2.2.2.1))]:List bE) 0).bind λB=>match B with
    | .inl g=>if g.2.2.2.1.2.2.2.1.length+([g.2.2.2.2.2.1]:LI).length<=1073741824 then (K5 m g.2.2.2.2.2.2.1).bind λy=>(Mo m y.1.1 y.1.2.1 y.1.2.2.1 y.1.2.2.2.1 2).bind λz=>if g.2.2.2.1.2.2.2.2.1.length+([z.1]:LI).length<=1073741824 then lV n g.1 g.2.1.1 g.2.1.2.1 g.2.1.2.2.1 g.2.1.2.2.2.1 g.2.1.2.2.2.2.1 g.2.2.1.1 g.2.2.1.2.1 g.2.2.1.2.2.1 g.2.2.1.2.2.2.1 g.2.2.1.2.2.2.2.1 g.2.2.2.1.1 g.2.2.2.1.2.1 g.2.2.2.1.2.2.1 (g.2.2.2.1.2.2.2.1++([g.2.2.2.2.2.1]:LI)) (g.2.2.2.1.2.2.2.2.1++([z.1]:LI)) g.2.2.2.2.1 (wI (g.2.2.2.2.2.1+1))else none else none
    | .inr e=>e.elim else (TW m i j k l o v u).bind λC=>bif C.1 then if s.length+([v]:LI).length<=1073741824 then (JX m i j k l o v u).bind λA=>if t.length+([A.1]:LI).length<=1073741824 then lV n a b c d f h i j k l o p q r (s++([v]:LI)) (t++([A.1]:LI)) u (wI (v+1))else none else none else lV n a b c d f h i j k l o p q r s t u (wI (v+1))else some (.inl (a,(b,c,d,f,h,()),(i,j,k,l,o,()),(p,q,r,s,t,()),u,()))
def rm:Nat->Int->Int->Int->LI->LI->LI->Int->Int->LI->LI->LI->Int->Int->LI->LI->LI->Int->Option tY
 |0,_,_,_,_,_,_,_,_,_,_,_,_,_,_,_,_,_=>none
 |n+1,a,b,c,d,f,h,i,j,k,l,o,p,q,r,s,t,u=>bif decide (u<a)then (lV m m a b c d f h i j k l o p q r s t u 0).bind λx=>match x with
   | .inl g=>if g.2.2.2.1.2.2.1.length+([(g.2.2.2.1.2.2.2.1.length:Int)]:LI).length<=1073741824 then rm n g.1 g.2.1.1 g.2.1.2.1 g.2.1.2.2.1 g.2.1.2.2.2.1 g.2.1.2.2.2.2.1 g.2.2.1.1 g.2.2.1.2.1 g.2.2.1.2.2.1 g.2.2.1.2.2.2.1 g.2.2.1.2.2.2.2.1 g.2.2.2.1.1 g.2.2.2.1.2.1 (g.2.2.2.1.2.2.1++([(g.2.2.2.1.2.2.2.1.length:Int)]:LI)) g.2.2.2.1.2.2.2.1 g.2.2.2.1.2.2.2.2.1 (wI (g.2.2.2.2.1+1))else none
   | .inr e=>e.elim else some (.inl ((b,c,d,f,h,()),(p,q,r,s,t,()),()))
def T5 (a:LI) (b:Int) (c:Int):Option YP:=(wW m c 3).bind λy=>(O2 m a b b y.1).bind λg=>(rm m m b 0 0 ([]:LI) ([]:LI) ([]:LI) g.1.1 g.1.2.1 g.1.2.2.1 g.1.2.2.2.1 g.1.2.2.2.2.1 b b ([0]:LI) ([]:LI) ([]:LI) 0).bind λz=>match z with
 | .inl x=>some ((x.2.1.1,x.2.1.2.1,x.2.1.2.2.1,x.2.1.2.2.2.1,x.2.1.2.2.2.2.1,()),v4)
 | .inr e=>e.elim
def rA:Nat->LI->Int->LI->Int->Option pE
 |0,_,_,_,_=>none
 |n+1,a,b,c,d=>bif decide (d<b)then (Ch m a (wI (700+d))).bind λg=>(wW m (wI (aJ .u64 g.1 1)) (wI (d+1))).bind λe=>if(0:Int)<=0/\0<=e.1/\e.1<=(c.length:Int)then if([]:LI).length+((c.drop 0).take (e.1.toNat-0)).length<=1073741824 then if(([]:LI)++((c.drop 0).take (e.1.toNat-0))).length+([d]:LI).length<=1073741824 then if 0<=e.1/\e.1<=(c.length:Int)/\(c.length:Int)<=(c.length:Int)then if((([]:LI)++((c.drop 0).take (e.1.toNat-0)))++([d]:LI)).length+((c.drop (0+e.1.toNat)).take (c.length-e.1.toNat)).length<=1073741824 then rA n a b (((([]:LI)++((c.drop 0).take (e.1.toNat-0)))++([d]:LI))++((c.drop (0+e.1.toNat)).take (c.length-e.1.toNat))) (wI (d+1))else none else none else none else none else none else some (.inl (c,()))
def Pz (a:LI) (b:Int):Option vI:=(rA m m a b ([]:LI) 0).bind λg=>match g with
 | .inl x=>some (x.1,ul)
 | .inr e=>e.elim
def mR (m:Nat):Nat->Int->Int->LI->LI->LI->uE->Int->Int->Option ((lx×uE×Int×Unit)⊕Empty)
 |0,_,_,_,_,_,_,_,_=>none
 |n+1,a,b,c,d,f,h,i,j=>if 0<=(wI (i+1))/\(wI (i+1))<(c.length:Int)then bif decide (j<(c.getD (wI (i+1)).toNat 0))then if 0<=j/\j<(d.length:Int)then if 0<=j/\j<(f.length:Int)then if h.length+([(d.getD j.toNat 0,(i,f.getD j.toNat 0))]:List Bq).length<=1073741824 then mR m n a b c d f (h++([(d.getD j.toNat 0,(i,f.getD j.toNat 0))]:List Bq)) i (wI (j+1))else none else none else none else some (.inl ((a,b,c,d,f,()),h,i,()))else none
def j5:Nat->Int->Int->LI->LI->LI->uE->Int->Option ((uE×Unit)⊕Empty)
 |0,_,_,_,_,_,_,_=>none
 |n+1,a,b,c,d,f,h,i=>bif decide (i<b)then if 0<=i/\i<(c.length:Int)then (mR m m a b c d f h i (c.getD i.toNat 0)).bind λx=>match x with
   | .inl g=>j5 n g.1.1 g.1.2.1 g.1.2.2.1 g.1.2.2.2.1 g.1.2.2.2.2.1 g.2.1 (wI (g.2.2.1+1))
   | .inr e=>e.elim else none else some (.inl (h,()))
def yV (a:Int) (b:Int) (c:LI) (d:LI) (f:LI):Option (uE×Unit×Unit):=(rK m a b c d f).bind λg=>bif g.1 !=0 then some (([]:List Bq),ut)else (j5 m m a b c d f ([]:List Bq) 0).bind λx=>match x with
  | .inl y=>some (y.1,ut)
  | .inr e=>e.elim
def iL (m:Nat):Nat->Int->Int->uE->Int->Int->LI->LI->LI->Int->Int->LI->LI->LI->LI->Int->Int->Option ((Int×Int×uE×lx×lx×LI×Int×Unit)⊕Empty)
 |0,_,_,_,_,_,_,_,_,_,_,_,_,_,_,_,_=>none
 |n+1,a,b,c,d,f,h,i,j,k,l,o,p,q,r,s,t=>bif decide (t<a)then if 0<=(wI ((wI (s*a))+t))/\(wI ((wI (s*a))+t))<(r.length:Int)then bif decide ((r.getD (0+(wI ((wI (s*a))+t)).toNat) 0)>0)then if p.length+([t]:LI).length<=1073741824 then if 0<=(wI ((r.getD (0+(wI ((wI (s*a))+t)).toNat) 0)-1))/\(wI ((r.getD (0+(wI ((wI (s*a))+t)).toNat) 0)-1))<(c.length:Int)then if q.length+([(c.getD (wI ((r.getD (0+(wI ((wI (s*a))+t)).toNat) 0)-1)).toNat (0,(0,0))).2.2]:LI).length<=1073741824 then iL m n a b c d f h i j k l o (p++([t]:LI)) (q++([(c.getD (wI ((r.getD (0+(wI ((wI (s*a))+t)).toNat) 0)-1)).toNat (0,(0,0))).2.2]:LI)) r s (wI (t+1))else none else none else none else iL m n a b c d f h i j k l o p q r s (wI (t+1))else none else some (.inl (a,b,c,(d,f,h,i,j,()),(k,l,o,p,q,()),r,s,()))
def j3:Nat->Int->Int->uE->Int->Int->LI->LI->LI->Int->Int->LI->LI->LI->LI->Int->Option tY
 |0,_,_,_,_,_,_,_,_,_,_,_,_,_,_,_=>none
 |n+1,a,b,c,d,f,h,i,j,k,l,o,p,q,r,s=>bif decide (s<b)then (iL m m a b c d f h i j k l o p q r s 0).bind λx=>match x with
   | .inl g=>if g.2.2.2.2.1.2.2.1.length+([(g.2.2.2.2.1.2.2.2.1.length:Int)]:LI).length<=1073741824 then j3 n g.1 g.2.1 g.2.2.1 g.2.2.2.1.1 g.2.2.2.1.2.1 g.2.2.2.1.2.2.1 g.2.2.2.1.2.2.2.1 g.2.2.2.1.2.2.2.2.1 g.2.2.2.2.1.1 g.2.2.2.2.1.2.1 (g.2.2.2.2.1.2.2.1++([(g.2.2.2.2.1.2.2.2.1.length:Int)]:LI)) g.2.2.2.2.1.2.2.2.1 g.2.2.2.2.1.2.2.2.2.1 g.2.2.2.2.2.1 (wI (g.2.2.2.2.2.2.1+1))else none
   | .inr e=>e.elim else some (.inl ((d,f,h,i,j,()),(k,l,o,p,q,()),()))
def mQ (m:Nat):Nat->Int->Int->uE->Int->Int->LI->LI->LI->Int->Int->LI->LI->LI->LI->Int->Option ((Int×Int×uE×lx×lx×LI×Unit)⊕Empty)
 |0,_,_,_,_,_,_,_,_,_,_,_,_,_,_,_=>none
 |n+1,a,b,c,d,f,h,i,j,k,l,o,p,q,r,s=>bif decide (s<(c.length:Int))then if 0<=s/\s<(c.length:Int)then if 0<=s/\s<(c.length:Int)then if 0<=(wI ((wI ((c.getD s.toNat (0,(0,0))).2.1*a))+(c.getD s.toNat (0,(0,0))).1))/\(wI ((wI ((c.getD s.toNat (0,(0,0))).2.1*a))+(c.getD s.toNat (0,(0,0))).1))<(r.length:Int)then mQ m n a b c d f h i j k l o p q (r.set (0+(wI ((wI ((c.getD s.toNat (0,(0,0))).2.1*a))+(c.getD s.toNat (0,(0,0))).1)).toNat) (wI (s+1))) (wI (s+1))else none else none else none else some (.inl (a,b,c,(d,f,h,i,j,()),(k,l,o,p,q,()),r,()))
def DA (a:Int) (b:Int) (c:List Bq):Option YP:=if 0<=(wI (a*b))/\(wI (a*b))<=(wI (a*b))/\(wI (a*b))<=1073741824 then (mQ m m a b c 0 0 ([]:LI) ([]:LI) ([]:LI) a b ([0]:LI) ([]:LI) ([]:LI) (List.replicate (wI (a*b)).toNat (0:Int)) 0).bind λy=>match y with
 | .inl g=>(j3 m m g.1 g.2.1 g.2.2.1 g.2.2.2.1.1 g.2.2.2.1.2.1 g.2.2.2.1.2.2.1 g.2.2.2.1.2.2.2.1 g.2.2.2.1.2.2.2.2.1 g.2.2.2.2.1.1 g.2.2.2.2.1.2.1 g.2.2.2.2.1.2.2.1 g.2.2.2.2.1.2.2.2.1 g.2.2.2.2.1.2.2.2.2.1 g.2.2.2.2.2.1 0).bind λz=>match z with
  | .inl x=>some ((x.2.1.1,x.2.1.2.1,x.2.1.2.2.1,x.2.1.2.2.2.1,x.2.1.2.2.2.2.1,()),v4)
  | .inr e=>e.elim
 | .inr e=>e.elim else none
def ko (m:Nat):Nat->Int->Int->LI->LI->LI->Int->Int->LI->LI->LI->uE->uE->Int->Option ((lx×lx×uE×Unit)⊕Empty)
 |0,_,_,_,_,_,_,_,_,_,_,_,_,_=>none
 |n+1,a,b,c,d,f,h,i,j,k,l,o,p,q=>bif decide (q<(p.length:Int))then if 0<=q/\q<(p.length:Int)then if 0<=q/\q<(p.length:Int)then bif decide ((p.getD (0+q.toNat) (0,(0,0))).1>=(p.getD (0+q.toNat) (0,(0,0))).2.1)then if 0<=q/\q<(p.length:Int)then if o.length+([((p.getD (0+q.toNat) (0,(0,0))).1,((p.getD (0+q.toNat) (0,(0,0))).2.1,(p.getD (0+q.toNat) (0,(0,0))).2.2))]:List Bq).length<=1073741824 then ko m n a b c d f h i j k l (o++([((p.getD (0+q.toNat) (0,(0,0))).1,((p.getD (0+q.toNat) (0,(0,0))).2.1,(p.getD (0+q.toNat) (0,(0,0))).2.2))]:List Bq)) p (wI (q+1))else none else none else ko m n a b c d f h i j k l o p (wI (q+1))else none else none else some (.inl ((a,b,c,d,f,()),(h,i,j,k,l,()),o,()))
def r9 (a:Int) (b:Int) (c:LI) (d:LI) (f:LI):Option (YJ×Unit×Unit):=(rK m a b c d f).bind λy=>bif y.1 !=0 then some (((0,0,[],[],[],()),y.1,()),ut)else (yV m a b c d f).bind λz=>(ko m m a b c d f 0 0 ([]:LI) ([]:LI) ([]:LI) ([]:List Bq) z.1 0).bind λA=>match A with
  | .inl x=>(DA m x.1.1 x.1.2.1 x.2.2.1).bind λg=>some (((g.1.1,g.1.2.1,g.1.2.2.1,g.1.2.2.2.1,g.1.2.2.2.2.1,()),0,()),ut)
  | .inr e=>e.elim
def mP (m:Nat):Nat->Int->List dY->Int->Option YH
 |0,_,_,_=>none
 |n+1,a,b,c=>bif decide (c<a)then if 0<=a/\a<=a/\a<=1073741824 then if 0<([List.replicate a.toNat false]:List dY).length/\b.length+([List.replicate a.toNat false]:List dY).length<=1073741824 then mP m n a (b++([List.replicate a.toNat false]:List dY)) (wI (c+1))else none else none else some (.inl (b,()))
def yR (a:Int):Option YE:=(mP m m a ([]:List dY) 0).bind λg=>match g with
 | .inl x=>some (x.1,ut)
 | .inr e=>e.elim
def gq (m:Nat):Nat->List dY->List LI->List LI->Int->LI->Int->Option ((List dY×sJ×sJ×Int×LI×Unit)⊕Empty)
 |0,_,_,_,_,_,_=>none
 |n+1,a,b,c,d,f,h=>bif decide (h<(a.length:Int))then bif d !=h then if 0<=d/\d<(a.length:Int)then if 0<=h/\h<((a.getD d.toNat ([]:List Bool)).length:Int)then bif (a.getD d.toNat ([]:List Bool)).getD h.toNat false then if f.length+([h]:LI).length<=1073741824 then gq m n a b c d (f++([h]:LI)) (wI (h+1))else none else if 0<=h/\h<(a.length:Int)then if 0<=d/\d<((a.getD h.toNat ([]:List Bool)).length:Int)then bif (a.getD h.toNat ([]:List Bool)).getD d.toNat false then if f.length+([h]:LI).length<=1073741824 then gq m n a b c d (f++([h]:LI)) (wI (h+1))else none else gq m n a b c d f (wI (h+1))else none else none else none else none else gq m n a b c d f (wI (h+1))else some (.inl (a,(b,()),(c,()),d,f,()))
def mO:Nat->List dY->List LI->List LI->Int->Option ((sJ×sJ×Unit)⊕Empty)
 |0,_,_,_,_=>none
 |n+1,a,b,c,d=>bif decide (d<(a.length:Int))then (gq m m a b c d ([]:LI) 0).bind λx=>match x with
   | .inl g=>if 0<([g.2.2.2.2.1]:List LI).length/\g.2.2.1.1.length+([g.2.2.2.2.1]:List LI).length<=1073741824 then mO n g.1 g.2.1.1 (g.2.2.1.1++([g.2.2.2.2.1]:List LI)) (wI (g.2.2.2.1+1))else none
   | .inr e=>e.elim else some (.inl ((b,()),(c,()),()))
def yQ (a:List dY):Option (sJ×Unit×Unit):=(mO m m a ([]:List LI) ([]:List LI) 0).bind λg=>match g with
 | .inl x=>some ((x.2.1.1,()),ut)
 | .inr e=>e.elim
def nt (m:Nat):Nat->List LI->List dY->uE->Int->Option YR
 |0,_,_,_,_=>none
 |n+1,a,b,c,d=>bif decide (d<(c.length:Int))then if 0<=d/\d<(c.length:Int)then if 0<=(c.getD (0+d.toNat) (0,(0,0))).1/\(c.getD (0+d.toNat) (0,(0,0))).1<(b.length:Int)then if 0<=d/\d<(c.length:Int)then if 0<=(c.getD (0+d.toNat) (0,(0,0))).2.1/\(c.getD (0+d.toNat) (0,(0,0))).2.1<((b.getD (c.getD (0+d.toNat) (0,(0,0))).1.toNat ([]:List Bool)).length:Int)then nt m n a (b.set (c.getD (0+d.toNat) (0,(0,0))).1.toNat ((b.getD (c.getD (0+d.toNat) (0,(0,0))).1.toNat ([]:List Bool)).set (c.getD (0+d.toNat) (0,(0,0))).2.1.toNat true)) c (wI (d+1))else none else none else none else none else some (.inl ((a,()),b,()))
def r8 (a:Int) (b:Int) (c:LI) (d:LI) (f:LI):Option ((sJ×Int×Unit)×Unit×Unit):=(rK m a b c d f).bind λg=>bif g.1 !=0 then some (((([]:List LI),()),g.1,()),ut)else bif a !=b then some (((([]:List LI),()),5,()),ut)else (yR m a).bind λx=>(yV m a b c d f).bind λy=>(nt m m ([]:List LI) x.1 y.1 0).bind λz=>match z with
   | .inl A=>(yQ m A.2.1).bind λB=>some (((B.1.1,()),0,()),ut)
   | .inr e=>e.elim
def mj (m:Nat):Nat->LI->Int->Option sT
 |0,_,_=>none
 |n+1,a,b=>bif decide (b<(a.length:Int))then if 0<=b/\b<(a.length:Int)then if 0<=(wI (b-1))/\(wI (b-1))<(a.length:Int)then bif decide ((a.getD b.toNat 0)<=(a.getD (wI (b-1)).toNat 0))then some (.inl (false,()))else mj m n a (wI (b+1))else none else none else some (.inr (.inl ()))
def yr (a:LI):Option pD:=(mj m m a 1).bind λg=>match g with
 | .inl x=>some (x.1,ut)
 | .inr (.inl y)=>some (true,ut)
 | .inr (.inr e)=>e.elim
def mi (m:Nat):Nat->LI->Int->Int->Option sT
 |0,_,_,_=>none
 |n+1,a,b,c=>bif decide (c<(a.length:Int))then if 0<=c/\c<(a.length:Int)then bif (a.getD c.toNat 0)==b then some (.inl (true,()))else mi m n a b (wI (c+1))else none else some (.inr (.inl ()))
def tl (a:LI) (b:Int):Option vH:=(mi m m a b 0).bind λg=>match g with
 | .inl x=>some (x.1,ul)
 | .inr (.inl y)=>some (false,ul)
 | .inr (.inr e)=>e.elim
def jZ:Nat->List LI->Int->Int->Int->Option ((Int×Unit)⊕(sJ×Int×Int×Unit)⊕Empty)
 |0,_,_,_,_=>none
 |n+1,a,b,c,d=>if 0<=c/\c<(a.length:Int)then bif decide (d<((a.getD c.toNat ([]:LI)).length:Int))then if 0<=c/\c<(a.length:Int)then if 0<=d/\d<((a.getD c.toNat ([]:LI)).length:Int)then bif decide (((a.getD c.toNat ([]:LI)).getD d.toNat 0)<0)then some (.inl (1,()))else bif decide (((a.getD c.toNat ([]:LI)).getD d.toNat 0)>=b)then some (.inl (1,()))else bif ((a.getD c.toNat ([]:LI)).getD d.toNat 0)==c then some (.inl (1,()))else if 0<=((a.getD c.toNat ([]:LI)).getD d.toNat 0)/\((a.getD c.toNat ([]:LI)).getD d.toNat 0)<(a.length:Int)then (tl m (a.getD ((a.getD c.toNat ([]:LI)).getD d.toNat 0).toNat ([]:LI)) c).bind λe=>bif !e.1 then some (.inl (1,()))else jZ n a b c (wI (d+1))else none else none else none else some (.inr (.inl ((a,()),b,c,())))else none
def mM:Nat->List LI->Int->Int->Option sS
 |0,_,_,_=>none
 |n+1,a,b,c=>bif decide (c<b)then if 0<=c/\c<(a.length:Int)then (yr m (a.getD c.toNat ([]:LI))).bind λx=>bif !x.1 then some (.inl (1,()))else (jZ m m a b c 0).bind λy=>match y with
    | .inl z=>some (.inl (z.1,()))
    | .inr (.inl g)=>mM n g.1.1 g.2.1 (wI (g.2.2.1+1))
    | .inr (.inr e)=>e.elim else none else some (.inr (.inl ()))
def tG (a:List LI):Option lg:=bif decide ((a.length:Int)>200)then some (6,ut)else (mM m m a (a.length:Int) 0).bind λg=>match g with
  | .inl x=>some (x.1,ut)
  | .inr (.inl y)=>some (0,ut)
  | .inr (.inr e)=>e.elim
def mL (m:Nat):Nat->LI->Int->List Bool->Int->Option sT
 |0,_,_,_,_=>none
 |n+1,a,b,c,d=>bif decide (d<b)then if 0<=d/\d<(a.length:Int)then bif decide ((a.getD d.toNat 0)<0)then some (.inl (false,()))else if 0<=d/\d<(a.length:Int)then bif decide ((a.getD d.toNat 0)>=b)then some (.inl (false,()))else if 0<=d/\d<(a.length:Int)then if 0<=(a.getD d.toNat 0)/\(a.getD d.toNat 0)<(c.length:Int)then bif c.getD (0+(a.getD d.toNat 0).toNat) false then some (.inl (false,()))else if 0<=d/\d<(a.length:Int)then if 0<=(a.getD d.toNat 0)/\(a.getD d.toNat 0)<(c.length:Int)then mL m n a b (c.set (0+(a.getD d.toNat 0).toNat) true) (wI (d+1))else none else none else none else none else none else none else some (.inr (.inl ()))
def Dp (a:LI) (b:Int):Option vH:=bif (a.length:Int) !=b then some (false,ul)else if 0<=b/\b<=b/\b<=1073741824 then (mL m m a b (List.replicate b.toNat false) 0).bind λg=>match g with
  | .inl x=>some (x.1,ul)
  | .inr (.inl y)=>some (true,ul)
  | .inr (.inr e)=>e.elim else none
def mh (m:Nat):Nat->LI->Int->Int->Option sT
 |0,_,_,_=>none
 |n+1,a,b,c=>bif decide (c<(a.length:Int))then if 0<=c/\c<(a.length:Int)then bif decide ((a.getD c.toNat 0)<0)then some (.inl (false,()))else if 0<=c/\c<(a.length:Int)then bif decide ((a.getD c.toNat 0)>=b)then some (.inl (false,()))else mh m n a b (wI (c+1))else none else none else some (.inr (.inl ()))
def CE (a:LI) (b:Int):Option vH:=(mh m m a b 0).bind λg=>match g with
 | .inl x=>some (x.1,ul)
 | .inr (.inl y)=>some (true,ul)
 | .inr (.inr e)=>e.elim
def mg:Nat->LI->Int->Option sT
 |0,_,_=>none
 |n+1,a,b=>bif decide (b<(a.length:Int))then if(0:Int)<=0/\0<=b/\b<=(a.length:Int)then if 0<=b/\b<(a.length:Int)then (tl m (a.take b.toNat) (a.getD b.toNat 0)).bind λe=>bif e.1 then some (.inl (true,()))else mg n a (wI (b+1))else none else none else some (.inr (.inl ()))
def CC (a:LI):Option pD:=(mg m m a 0).bind λg=>match g with
 | .inl x=>some (x.1,ut)
 | .inr (.inl y)=>some (false,ut)
 | .inr (.inr e)=>e.elim
def me (m:Nat):Nat->List LI->Int->List dY->Int->List Bool->Int->Option ((sJ×Int×List dY×Int×List Bool×Unit)⊕Empty)
 |0,_,_,_,_,_,_=>none
 |n+1,a,b,c,d,f,h=>if 0<=d/\d<(a.length:Int)then bif decide (h<((a.getD d.toNat ([]:LI)).length:Int))then if 0<=d/\d<(a.length:Int)then if 0<=h/\h<((a.getD d.toNat ([]:LI)).length:Int)then if 0<=((a.getD d.toNat ([]:LI)).getD h.toNat 0)/\((a.getD d.toNat ([]:LI)).getD h.toNat 0)<(f.length:Int)then me m n a b c d (f.set (0+((a.getD d.toNat ([]:LI)).getD h.toNat 0).toNat) true) (wI (h+1))else none else none else none else some (.inl ((a,()),b,c,d,f,()))else none
def mf:Nat->List LI->Int->List dY->Int->Option YH
 |0,_,_,_,_=>none
 |n+1,a,b,c,d=>bif decide (d<b)then if 0<=b/\b<=b/\b<=1073741824 then (me m m a b c d (List.replicate b.toNat false) 0).bind λx=>match x with
   | .inl g=>if 0<([g.2.2.2.2.1]:List dY).length/\g.2.2.1.length+([g.2.2.2.2.1]:List dY).length<=1073741824 then mf n g.1.1 g.2.1 (g.2.2.1++([g.2.2.2.2.1]:List dY)) (wI (g.2.2.2.1+1))else none
   | .inr e=>e.elim else none else some (.inl (c,()))
def yp (a:List LI):Option YE:=(mf m m a (a.length:Int) ([]:List dY) 0).bind λg=>match g with
 | .inl x=>some (x.1,ut)
 | .inr e=>e.elim
def mJ (m:Nat):Nat->LI->List LI->List dY->List dY->Int->Int->Option ((LI×sJ×List dY×List dY×Int×Unit)⊕Empty)
 |0,_,_,_,_,_,_=>none
 |n+1,a,b,c,d,f,h=>bif decide (h<(a.length:Int))then if 0<=f/\f<(d.length:Int)then if 0<=f/\f<(a.length:Int)then if 0<=(a.getD f.toNat 0)/\(a.getD f.toNat 0)<(c.length:Int)then if 0<=h/\h<(a.length:Int)then if 0<=(a.getD h.toNat 0)/\(a.getD h.toNat 0)<((c.getD (a.getD f.toNat 0).toNat ([]:List Bool)).length:Int)then if 0<=h/\h<((d.getD f.toNat ([]:List Bool)).length:Int)then mJ m n a b c (d.set f.toNat ((d.getD f.toNat ([]:List Bool)).set h.toNat ((c.getD (a.getD f.toNat 0).toNat ([]:List Bool)).getD (a.getD h.toNat 0).toNat false))) f (wI (h+1))else none else none else none else none else none else none else some (.inl (a,(b,()),c,d,f,()))
def mK:Nat->LI->List LI->List dY->List dY->Int->Option YR
 |0,_,_,_,_,_=>none
 |n+1,a,b,c,d,f=>bif decide (f<(a.length:Int))then (mJ m m a b c d f 0).bind λx=>match x with
   | .inl g=>mK n g.1 g.2.1.1 g.2.2.1 g.2.2.2.1 (wI (g.2.2.2.2.1+1))
   | .inr e=>e.elim else some (.inl ((b,()),d,()))
def Lb (a:List LI) (b:LI):Option YO:=(tG m a).bind λg=>bif g.1 !=0 then some (((([]:List LI),()),g.1,()),ul)else (CE m b (a.length:Int)).bind λx=>bif !x.1 then some (((([]:List LI),()),3,()),ul)else (CC m b).bind λy=>bif y.1 then some (((([]:List LI),()),90,()),ul)else (yp m a).bind λz=>(yR m (b.length:Int)).bind λA=>(mK m m b ([]:List LI) z.1 A.1 0).bind λB=>match B with
    | .inl C=>(yQ m C.2.1).bind λD=>some (((D.1.1,()),0,()),ul)
    | .inr e=>e.elim
def wG (a:List LI) (b:LI):Option YO:=(tG m a).bind λe=>bif e.1 !=0 then some (((([]:List LI),()),e.1,()),ul)else bif (b.length:Int) !=(a.length:Int)then some (((([]:List LI),()),2,()),ul)else (Dp m b (a.length:Int)).bind λx=>bif !x.1 then some (((([]:List LI),()),90,()),ul)else (Lb m a b).bind λg=>some (((g.1.1.1,()),g.1.2.1,()),ul)
def QB (a:List LI):Option (LN×Unit×Unit):=(yp m a).bind λe=>if 0<=(a.length:Int)/\(a.length:Int)<=(a.length:Int)/\(a.length:Int)<=1073741824 then some ((e.1,List.replicate (a.length:Int).toNat false,()),ut)else none
def mI (m:Nat):Nat->List dY->List Bool->Int->LI->Int->Option ((LN×LI×Unit)⊕Empty)
 |0,_,_,_,_,_=>none
 |n+1,a,b,c,d,f=>bif decide (f<(a.length:Int))then if 0<=c/\c<(a.length:Int)then if 0<=f/\f<((a.getD c.toNat ([]:List Bool)).length:Int)then bif (a.getD c.toNat ([]:List Bool)).getD f.toNat false then if 0<=f/\f<(b.length:Int)then bif !(b.getD (0+f.toNat) false)then if d.length+([f]:LI).length<=1073741824 then mI m n a b c (d++([f]:LI)) (wI (f+1))else none else mI m n a b c d (wI (f+1))else none else mI m n a b c d (wI (f+1))else none else none else some (.inl ((a,b,()),d,()))
def La (a:List dY) (b:List Bool) (c:Int):Option (LI×LN×Unit×Unit):=(mI m m a b c ([]:LI) 0).bind λx=>match x with
 | .inl g=>some (g.2.1,((g.1.1,g.1.2.1,()),(),()))
 | .inr e=>e.elim
def pd (m:Nat):Nat->List dY->List Bool->Int->LI->Int->Int->Option ((LN×Int×LI×Int×Unit)⊕Empty)
 |0,_,_,_,_,_,_=>none
 |n+1,a,b,c,d,f,h=>bif decide (h<(d.length:Int))then bif f !=h then if 0<=f/\f<(d.length:Int)then if 0<=(d.getD (0+f.toNat) 0)/\(d.getD (0+f.toNat) 0)<(a.length:Int)then if 0<=h/\h<(d.length:Int)then if 0<=(d.getD (0+h.toNat) 0)/\(d.getD (0+h.toNat) 0)<((a.getD (d.getD (0+f.toNat) 0).toNat ([]:List Bool)).length:Int)then pd m n (a.set (d.getD (0+f.toNat) 0).toNat ((a.getD (d.getD (0+f.toNat) 0).toNat ([]:List Bool)).set (d.getD (0+h.toNat) 0).toNat true)) b c d f (wI (h+1))else none else none else none else none else pd m n a b c d f (wI (h+1))else some (.inl ((a,b,()),c,d,f,()))
def tE:Nat->List dY->List Bool->Int->LI->Int->Option ((LN×Int×Unit)⊕Empty)
 |0,_,_,_,_,_=>none
 |n+1,a,b,c,d,f=>bif decide (f<(d.length:Int))then (pd m m a b c d f 0).bind λx=>match x with
   | .inl g=>tE n g.1.1 g.1.2.1 g.2.1 g.2.2.1 (wI (g.2.2.2.1+1))
   | .inr e=>e.elim else some (.inl ((a,b,()),c,()))
def Qt (a:List dY) (b:List Bool) (c:Int):Option (Unit×LN×Unit×Unit):=(La m a b c).bind λx=>(tE m m x.2.1.1 x.2.1.2.1 c x.1 0).bind λy=>match y with
 | .inl g=>if 0<=g.2.1/\g.2.1<(g.1.2.1.length:Int)then some ((),((g.1.1,g.1.2.1.set (0+g.2.1.toNat) true,()),(),()))else none
 | .inr e=>e.elim
def tT:Nat->List LI->List dY->List Bool->List LI->Int->Option (sJ⊕Empty)
 |0,_,_,_,_,_=>none
 |n+1,a,b,c,d,f=>bif decide (f<(a.length:Int))then (La m b c f).bind λe=>if([f]:LI).length+e.1.length<=1073741824 then if 0<([([f]:LI)++e.1]:List LI).length/\d.length+([([f]:LI)++e.1]:List LI).length<=1073741824 then (Qt m e.2.1.1 e.2.1.2.1 f).bind λg=>tT n a g.2.1.1 g.2.1.2.1 (d++([([f]:LI)++e.1]:List LI)) (wI (f+1))else none else none else some (.inl (d,()))
def Ar (a:List LI):Option ((List LI×Int×Unit)×Unit×Unit):=(tG m a).bind λg=>bif g.1 !=0 then some ((([]:List LI),g.1,()),ut)else (QB m a).bind λx=>(tT m m a x.1.1 x.1.2.1 ([]:List LI) 0).bind λy=>match y with
  | .inl z=>some ((z.1,0,()),ut)
  | .inr e=>e.elim
def rj (m:Nat):Nat->Int->fQ->List dY->Int->Int->Int->Option ((Int×fQ×List dY×Int×Int×Unit)⊕Empty)
 |0,_,_,_,_,_,_=>none
 |n+1,a,b,c,d,f,h=>bif decide (h<(b.length:Int))then if 0<=h/\h<(b.length:Int)then bif decide (f>=(b.getD h.toNat (0,(0,([],0)))).1)then if 0<=h/\h<(b.length:Int)then bif decide (f<(b.getD h.toNat (0,(0,([],0)))).2.1)then if 0<=d/\d<(b.length:Int)then rj m n a (b.set d.toNat ((b.getD d.toNat (0,(0,([],0)))).1,((b.getD d.toNat (0,(0,([],0)))).2.1,((b.getD d.toNat (0,(0,([],0)))).2.2.1,h)))) c d f (wI (h+1))else none else rj m n a b c d f (wI (h+1))else none else rj m n a b c d f (wI (h+1))else none else some (.inl (a,b,c,d,f,()))
def jm:Nat->Int->fQ->List dY->Int->Int->Option ((Int×fQ×List dY×Int×Unit)⊕Empty)
 |0,_,_,_,_,_=>none
 |n+1,a,b,c,d,f=>bif decide (f<a)then if 0<=d/\d<(c.length:Int)then if 0<=f/\f<((c.getD d.toNat ([]:List Bool)).length:Int)then bif !((c.getD d.toNat ([]:List Bool)).getD f.toNat false)then jm n a b c d (wI (f+1))else if 0<=d/\d<(b.length:Int)then if(b.getD d.toNat (0,(0,([],0)))).2.2.1.length+([f]:LI).length<=1073741824 then if 0<=d/\d<(b.length:Int)then if((d.toNat*4)+2)=((d.toNat*4)+2)then if 0<=d/\d<((b.set d.toNat ((b.getD d.toNat (0,(0,([],0)))).1,((b.getD d.toNat (0,(0,([],0)))).2.1,((b.getD d.toNat (0,(0,([],0)))).2.2.1++([f]:LI),(b.getD d.toNat (0,(0,([],0)))).2.2.2)))).length:Int)then bif decide (f>=((b.set d.toNat ((b.getD d.toNat (0,(0,([],0)))).1,((b.getD d.toNat (0,(0,([],0)))).2.1,((b.getD d.toNat (0,(0,([],0)))).2.2.1++([f]:LI),(b.getD d.toNat (0,(0,([],0)))).2.2.2)))).getD d.toNat (0,(0,([],0)))).2.1)then if 0<=d/\d<((b.set d.toNat ((b.getD d.toNat (0,(0,([],0)))).1,((b.getD d.toNat (0,(0,([],0)))).2.1,((b.getD d.toNat (0,(0,([],0)))).2.2.1++([f]:LI),(b.getD d.toNat (0,(0,([],0)))).2.2.2)))).length:Int)then bif decide (((b.set d.toNat ((b.getD d.toNat (0,(0,([],0)))).1,((b.getD d.toNat (0,(0,([],0)))).2.1,((b.getD d.toNat (0,(0,([],0)))).2.2.1++([f]:LI),(b.getD d.toNat (0,(0,([],0)))).2.2.2)))).getD d.toNat (0,(0,([],0)))).2.2.2<0)then (rj m m a (b.set d.toNat ((b.getD d.toNat (0,(0,([],0)))).1,((b.getD d.toNat (0,(0,([],0)))).2.1,((b.getD d.toNat (0,(0,([],0)))).2.2.1++([f]:LI),(b.getD d.toNat (0,(0,([],0)))).2.2.2)))) c d f (wI (d+1))).bind λx=>match x with
      | .inl g=>if 0<=g.2.2.2.1/\g.2.2.2.1<(g.2.1.length:Int)then bif decide (g.2.2.2.2.1>=(g.2.1.getD g.2.2.2.1.toNat (0,(0,([],0)))).2.1)then if 0<=g.2.2.2.1/\g.2.2.2.1<(g.2.1.length:Int)then if 0<=(g.2.1.getD g.2.2.2.1.toNat (0,(0,([],0)))).2.2.2/\(g.2.1.getD g.2.2.2.1.toNat (0,(0,([],0)))).2.2.2<(g.2.2.1.length:Int)then if 0<=g.2.2.2.2.1/\g.2.2.2.2.1<((g.2.2.1.getD (g.2.1.getD g.2.2.2.1.toNat (0,(0,([],0)))).2.2.2.toNat ([]:List Bool)).length:Int)then jm n g.1 g.2.1 (g.2.2.1.set (g.2.1.getD g.2.2.2.1.toNat (0,(0,([],0)))).2.2.2.toNat ((g.2.2.1.getD (g.2.1.getD g.2.2.2.1.toNat (0,(0,([],0)))).2.2.2.toNat ([]:List Bool)).set g.2.2.2.2.1.toNat true)) g.2.2.2.1 (wI (g.2.2.2.2.1+1))else none else none else none else jm n g.1 g.2.1 g.2.2.1 g.2.2.2.1 (wI (g.2.2.2.2.1+1))else none
      | .inr e=>e.elim else if 0<=d/\d<((b.set d.toNat ((b.getD d.toNat (0,(0,([],0)))).1,((b.getD d.toNat (0,(0,([],0)))).2.1,((b.getD d.toNat (0,(0,([],0)))).2.2.1++([f]:LI),(b.getD d.toNat (0,(0,([],0)))).2.2.2)))).length:Int)then bif decide (f>=((b.set d.toNat ((b.getD d.toNat (0,(0,([],0)))).1,((b.getD d.toNat (0,(0,([],0)))).2.1,((b.getD d.toNat (0,(0,([],0)))).2.2.1++([f]:LI),(b.getD d.toNat (0,(0,([],0)))).2.2.2)))).getD d.toNat (0,(0,([],0)))).2.1)then if 0<=d/\d<((b.set d.toNat ((b.getD d.toNat (0,(0,([],0)))).1,((b.getD d.toNat (0,(0,([],0)))).2.1,((b.getD d.toNat (0,(0,([],0)))).2.2.1++([f]:LI),(b.getD d.toNat (0,(0,([],0)))).2.2.2)))).length:Int)then if 0<=((b.set d.toNat ((b.getD d.toNat (0,(0,([],0)))).1,((b.getD d.toNat (0,(0,([],0)))).2.1,((b.getD d.toNat (0,(0,([],0)))).2.2.1++([f]:LI),(b.getD d.toNat (0,(0,([],0)))).2.2.2)))).getD d.toNat (0,(0,([],0)))).2.2.2/\((b.set d.toNat ((b.getD d.toNat (0,(0,([],0)))).1,((b.getD d.toNat (0,(0,([],0)))).2.1,((b.getD d.toNat (0,(0,([],0)))).2.2.1++([f]:LI),(b.getD d.toNat (0,(0,([],0)))).2.2.2)))).getD d.toNat (0,(0,([],0)))).2.2.2<(c.length:Int)then if 0<=f/\f<((c.getD ((b.set d.toNat ((b.getD d.toNat (0,(0,([],0)))).1,((b.getD d.toNat (0,(0,([],0)))).2.1,((b.getD d.toNat (0,(0,([],0)))).2.2.1++([f]:LI),(b.getD d.toNat (0,(0,([],0)))).2.2.2)))).getD d.toNat (0,(0,([],0)))).2.2.2.toNat ([]:List Bool)).length:Int)then jm n a (b.set d.toNat ((b.getD d.toNat (0,(0,([],0)))).1,((b.getD d.toNat (0,(0,([],0)))).2.1,((b.getD d.toNat (0,(0,([],0)))).2.2.1++([f]:LI),(b.getD d.toNat (0,(0,([],0)))).2.2.2)))) (c.set ((b.set d.toNat ((b.getD d.toNat (0,(0,([],0)))).1,((b.getD d.toNat (0,(0,([],0)))).2.1,((b.getD d.toNat (0,(0,([],0)))).2.2.1++([f]:LI),(b.getD d.toNat (0,(0,([],0)))).2.2.2)))).getD d.toNat (0,(0,([],0)))).2.2.2.toNat ((c.getD ((b.set d.toNat ((b.getD d.toNat (0,(0,([],0)))).1,((b.getD d.toNat (0,(0,([],0)))).2.1,((b.getD d.toNat (0,(0,([],0)))).2.2.1++([f]:LI),(b.getD d.toNat (0,(0,([],0)))).2.2.2)))).getD d.toNat (0,(0,([],0)))).2.2.2.toNat ([]:List Bool)).set f.toNat true)) d (wI (f+1))else none else none else none else jm n a (b.set d.toNat ((b.getD d.toNat (0,(0,([],0)))).1,((b.getD d.toNat (0,(0,([],0)))).2.1,((b.getD d.toNat (0,(0,([],0)))).2.2.1++([f]:LI),(b.getD d.toNat (0,(0,([],0)))).2.2.2)))) c d (wI (f+1))else none else none else if 0<=d/\d<((b.set d.toNat ((b.getD d.toNat (0,(0,([],0)))).1,((b.getD d.toNat (0,(0,([],0)))).2.1,((b.getD d.toNat (0,(0,([],0)))).2.2.1++([f]:LI),(b.getD d.toNat (0,(0,([],0)))).2.2.2)))).length:Int)then bif decide (f>=((b.set d.toNat ((b.getD d.toNat (0,(0,([],0)))).1,((b.getD d.toNat (0,(0,([],0)))).2.1,((b.getD d.toNat (0,(0,([],0)))).2.2.1++([f]:LI),(b.getD d.toNat (0,(0,([],0)))).2.2.2)))).getD d.toNat (0,(0,([],0)))).2.1)then if 0<=d/\d<((b.set d.toNat ((b.getD d.toNat (0,(0,([],0)))).1,((b.getD d.toNat (0,(0,([],0)))).2.1,((b.getD d.toNat (0,(0,([],0)))).2.2.1++([f]:LI),(b.getD d.toNat (0,(0,([],0)))).2.2.2)))).length:Int)then if 0<=((b.set d.toNat ((b.getD d.toNat (0,(0,([],0)))).1,((b.getD d.toNat (0,(0,([],0)))).2.1,((b.getD d.toNat (0,(0,([],0)))).2.2.1++([f]:LI),(b.getD d.toNat (0,(0,([],0)))).2.2.2)))).getD d.toNat (0,(0,([],0)))).2.2.2/\((b.set d.toNat ((b.getD d.toNat (0,(0,([],0)))).1,((b.getD d.toNat (0,(0,([],0)))).2.1,((b.getD d.toNat (0,(0,([],0)))).2.2.1++([f]:LI),(b.getD d.toNat (0,(0,([],0)))).2.2.2)))).getD d.toNat (0,(0,([],0)))).2.2.2<(c.length:Int)then if 0<=f/\f<((c.getD ((b.set d.toNat ((b.getD d.toNat (0,(0,([],0)))).1,((b.getD d.toNat (0,(0,([],0)))).2.1,((b.getD d.toNat (0,(0,([],0)))).2.2.1++([f]:LI),(b.getD d.toNat (0,(0,([],0)))).2.2.2)))).getD d.toNat (0,(0,([],0)))).2.2.2.toNat ([]:List Bool)).length:Int)then jm n a (b.set d.toNat ((b.getD d.toNat (0,(0,([],0)))).1,((b.getD d.toNat (0,(0,([],0)))).2.1,((b.getD d.toNat (0,(0,([],0)))).2.2.1++([f]:LI),(b.getD d.toNat (0,(0,([],0)))).2.2.2)))) (c.set ((b.set d.toNat ((b.getD d.toNat (0,(0,([],0)))).1,((b.getD d.toNat (0,(0,([],0)))).2.1,((b.getD d.toNat (0,(0,([],0)))).2.2.1++([f]:LI),(b.getD d.toNat (0,(0,([],0)))).2.2.2)))).getD d.toNat (0,(0,([],0)))).2.2.2.toNat ((c.getD ((b.set d.toNat ((b.getD d.toNat (0,(0,([],0)))).1,((b.getD d.toNat (0,(0,([],0)))).2.1,((b.getD d.toNat (0,(0,([],0)))).2.2.1++([f]:LI),(b.getD d.toNat (0,(0,([],0)))).2.2.2)))).getD d.toNat (0,(0,([],0)))).2.2.2.toNat ([]:List Bool)).set f.toNat true)) d (wI (f+1))else none else none else none else jm n a (b.set d.toNat ((b.getD d.toNat (0,(0,([],0)))).1,((b.getD d.toNat (0,(0,([],0)))).2.1,((b.getD d.toNat (0,(0,([],0)))).2.2.1++([f]:LI),(b.getD d.toNat (0,(0,([],0)))).2.2.2)))) c d (wI (f+1))else none else none else none else none else none else none else none else none else some (.inl (a,b,c,d,()))
def rk:Nat->Int->fQ->List dY->Int->Option ((fQ×Unit)⊕Empty)
 |0,_,_,_,_=>none
 |n+1,a,b,c,d=>bif decide (d<(b.length:Int))then if 0<=d/\d<(b.length:Int)then (jm m m a b c d (b.getD d.toNat (0,(0,([],0)))).1).bind λx=>match x with
   | .inl g=>rk n g.1 g.2.1 g.2.2.1 (wI (g.2.2.2.1+1))
   | .inr e=>e.elim else none else some (.inl (b,()))
def ir (m:Nat):Nat->LI->List LI->Int->fQ->List dY->Int->Int->Int->Option ((LI×List LI×Int×fQ×List dY×Int×Unit)⊕Empty)
 |0,_,_,_,_,_,_,_,_=>none
 |n+1,a,b,c,d,f,h,i,j=>if 0<=h/\h<(b.length:Int)then bif decide (j<((b.getD h.toNat ([]:LI)).length:Int))then if 0<=i/\i<(f.length:Int)then if 0<=h/\h<(b.length:Int)then if 0<=j/\j<((b.getD h.toNat ([]:LI)).length:Int)then if 0<=((b.getD h.toNat ([]:LI)).getD j.toNat 0)/\((b.getD h.toNat ([]:LI)).getD j.toNat 0)<((f.getD i.toNat ([]:List Bool)).length:Int)then ir m n a b c d (f.set i.toNat ((f.getD i.toNat ([]:List Bool)).set ((b.getD h.toNat ([]:LI)).getD j.toNat 0).toNat true)) h i (wI (j+1))else none else none else none else none else some (.inl (a,b,c,d,f,h,()))else none
def jn:Nat->LI->List LI->Int->fQ->List dY->Int->Option ((Int×fQ×List dY×Unit)⊕Empty)
 |0,_,_,_,_,_,_=>none
 |n+1,a,b,c,d,f,h=>bif decide (h<c)then bif h==0 then if 0<([(h,(wI (h+1),([],(-1))))]:List fU).length/\d.length+([(h,(wI (h+1),([],(-1))))]:List fU).length<=1073741824 then if 0<=c/\c<=c/\c<=1073741824 then if 0<([List.replicate c.toNat false]:List dY).length/\f.length+([List.replicate c.toNat false]:List dY).length<=1073741824 then if 0<=(wI (((d++([(h,(wI (h+1),([],(-1))))]:List fU)).length:Int)-1))/\(wI (((d++([(h,(wI (h+1),([],(-1))))]:List fU)).length:Int)-1))<((d++([(h,(wI (h+1),([],(-1))))]:List fU)).length:Int)then (ir m m a b c ((d++([(h,(wI (h+1),([],(-1))))]:List fU)).set (wI (((d++([(h,(wI (h+1),([],(-1))))]:List fU)).length:Int)-1)).toNat (((d++([(h,(wI (h+1),([],(-1))))]:List fU)).getD (wI (((d++([(h,(wI (h+1),([],(-1))))]:List fU)).length:Int)-1)).toNat (0,(0,([],0)))).1,(wI (h+1),(((d++([(h,(wI (h+1),([],(-1))))]:List fU)).getD (wI (((d++([(h,(wI (h+1),([],(-1))))]:List fU)).length:Int)-1)).toNat (0,(0,([],0)))).2.2.1,((d++([(h,(wI (h+1),([],(-1))))]:List fU)).getD (wI (((d++([(h,(wI (h+1),([],(-1))))]:List fU)).length:Int)-1)).toNat (0,(0,([],0)))).2.2.2)))) (f++([List.replicate c.toNat false]:List dY)) h (wI (((d++([(h,(wI (h+1),([],(-1))))]:List fU)).length:Int)-1)) 0).bind λz=>match z with
    | .inl g=>jn n g.1 g.2.1 g.2.2.1 g.2.2.2.1 g.2.2.2.2.1 (wI (g.2.2.2.2.2.1+1))
    | .inr e=>e.elim else none else none else none else none else (Ch m a (wI (900+h))).bind λA=>bif decide ((Int.tmod (aJ .u64 A.1 7) 3)>0)then if 0<([(h,(wI (h+1),([],(-1))))]:List fU).length/\d.length+([(h,(wI (h+1),([],(-1))))]:List fU).length<=1073741824 then if 0<=c/\c<=c/\c<=1073741824 then if 0<([List.replicate c.toNat false]:List dY).length/\f.length+([List.replicate c.toNat false]:List dY).length<=1073741824 then if 0<=(wI (((d++([(h,(wI (h+1),([],(-1))))]:List fU)).length:Int)-1))/\(wI (((d++([(h,(wI (h+1),([],(-1))))]:List fU)).length:Int)-1))<((d++([(h,(wI (h+1),([],(-1))))]:List fU)).length:Int)then (ir m m a b c ((d++([(h,(wI (h+1),([],(-1))))]:List fU)).set (wI (((d++([(h,(wI (h+1),([],(-1))))]:List fU)).length:Int)-1)).toNat (((d++([(h,(wI (h+1),([],(-1))))]:List fU)).getD (wI (((d++([(h,(wI (h+1),([],(-1))))]:List fU)).length:Int)-1)).toNat (0,(0,([],0)))).1,(wI (h+1),(((d++([(h,(wI (h+1),([],(-1))))]:List fU)).getD (wI (((d++([(h,(wI (h+1),([],(-1))))]:List fU)).length:Int)-1)).toNat (0,(0,([],0)))).2.2.1,((d++([(h,(wI (h+1),([],(-1))))]:List fU)).getD (wI (((d++([(h,(wI (h+1),([],(-1))))]:List fU)).length:Int)-1)).toNat (0,(0,([],0)))).2.2.2)))) (f++([List.replicate c.toNat false]:List dY)) h (wI (((d++([(h,(wI (h+1),([],(-1))))]:List fU)).length:Int)-1)) 0).bind λB=>match B with
     | .inl x=>jn n x.1 x.2.1 x.2.2.1 x.2.2.2.1 x.2.2.2.2.1 (wI (x.2.2.2.2.2.1+1))
     | .inr e=>e.elim else none else none else none else none else if 0<=(wI ((d.length:Int)-1))/\(wI ((d.length:Int)-1))<(d.length:Int)then (ir m m a b c (d.set (wI ((d.length:Int)-1)).toNat ((d.getD (wI ((d.length:Int)-1)).toNat (0,(0,([],0)))).1,(wI (h+1),((d.getD (wI ((d.length:Int)-1)).toNat (0,(0,([],0)))).2.2.1,(d.getD (wI ((d.length:Int)-1)).toNat (0,(0,([],0)))).2.2.2)))) f h (wI ((d.length:Int)-1)) 0).bind λC=>match C with
     | .inl y=>jn n y.1 y.2.1 y.2.2.1 y.2.2.2.1 y.2.2.2.2.1 (wI (y.2.2.2.2.2.1+1))
     | .inr e=>e.elim else none else some (.inl (c,d,f,()))
def KF (a:Int) (b:Int) (c:LI) (d:LI) (f:LI) (h:LI) (i:LI):Option (fQ×Unit×Unit×Unit×Unit):=(r9 m a b c d f).bind λg=>(r8 m g.1.1.1 g.1.1.2.1 g.1.1.2.2.1 g.1.1.2.2.2.1 g.1.1.2.2.2.2.1).bind λz=>(wG m z.1.1.1 h).bind λA=>(Ar m A.1.1.1).bind λy=>(jn m m i y.1.1 (y.1.1.length:Int) ([]:List fU) ([]:List dY) 0).bind λB=>match B with
 | .inl x=>(rk m m x.1 x.2.1 x.2.2.1 0).bind λC=>match C with
  | .inl D=>some (D.1,v4)
  | .inr e=>e.elim
 | .inr e=>e.elim
def kl (m:Nat):Nat->LI->Int->List Bool->Int->Option sT
 |0,_,_,_,_=>none
 |n+1,a,b,c,d=>bif decide (d<b)then if 0<=d/\d<(a.length:Int)then bif decide ((a.getD d.toNat 0)<0)then some (.inl (false,()))else if 0<=d/\d<(a.length:Int)then bif decide ((a.getD d.toNat 0)>=b)then some (.inl (false,()))else if 0<=d/\d<(a.length:Int)then if 0<=(a.getD d.toNat 0)/\(a.getD d.toNat 0)<(c.length:Int)then bif c.getD (0+(a.getD d.toNat 0).toNat) false then some (.inl (false,()))else if 0<=d/\d<(a.length:Int)then if 0<=(a.getD d.toNat 0)/\(a.getD d.toNat 0)<(c.length:Int)then kl m n a b (c.set (0+(a.getD d.toNat 0).toNat) true) (wI (d+1))else none else none else none else none else none else none else some (.inr (.inl ()))
def Al (a:LI) (b:Int):Option vH:=bif (a.length:Int) !=b then some (false,ul)else if 0<=b/\b<=b/\b<=1073741824 then (kl m m a b (List.replicate b.toNat false) 0).bind λg=>match g with
  | .inl x=>some (x.1,ul)
  | .inr (.inl y)=>some (true,ul)
  | .inr (.inr e)=>e.elim else none
def DT (a:Int) (b:Int) (c:LI) (d:LI) (f:LI) (h:LI):Option jH:=(rK m a b c d f).bind λe=>bif e.1 !=0 then some (e.1,ul)else bif a !=b then some (5,ul)else (Al m h a).bind λg=>bif !g.1 then some (90,ul)else some (0,ul)
def DN (a:Int) (b:Int) (c:LI) (d:LI) (f:LI) (h:LI):Option (sJ×Unit×Unit×Unit):=(r9 m a b c d f).bind λe=>(r8 m e.1.1.1 e.1.1.2.1 e.1.1.2.2.1 e.1.1.2.2.2.1 e.1.1.2.2.2.2.1).bind λg=>(wG m g.1.1.1 h).bind λx=>some ((x.1.1.1,()),ul)
def o8 (m:Nat):Nat->fQ->Int->Int->Option sS
 |0,_,_,_=>none
 |n+1,a,b,c=>bif decide (c<(a.length:Int))then if 0<=c/\c<(a.length:Int)then bif decide ((a.getD c.toNat (0,(0,([],0)))).1<=b)then if 0<=c/\c<(a.length:Int)then bif decide (b<(a.getD c.toNat (0,(0,([],0)))).2.1)then some (.inl (c,()))else o8 m n a b (wI (c+1))else none else o8 m n a b (wI (c+1))else none else some (.inr (.inl ()))
def KZ (a:List fU) (b:Int):Option jH:=(o8 m m a b 0).bind λg=>match g with
 | .inl x=>some (x.1,ul)
 | .inr (.inl y)=>some ((-1),ul)
 | .inr (.inr e)=>e.elim
def pe:Nat->fQ->List LI->Int->Int->Int->Option tK
 |0,_,_,_,_,_=>none
 |n+1,a,b,c,d,f=>if 0<=d/\d<(b.length:Int)then bif decide (f<((b.getD d.toNat ([]:LI)).length:Int))then if 0<=d/\d<(b.length:Int)then if 0<=f/\f<((b.getD d.toNat ([]:LI)).length:Int)then bif decide (((b.getD d.toNat ([]:LI)).getD f.toNat 0)>d)then (KZ m a d).bind λe=>if 0<=e.1/\e.1<(a.length:Int)then (tl m (a.getD e.1.toNat (0,(0,([],0)))).2.2.1 ((b.getD d.toNat ([]:LI)).getD f.toNat 0)).bind λg=>bif !g.1 then some (.inl (211,()))else pe n a b c d (wI (f+1))else none else pe n a b c d (wI (f+1))else none else none else some (.inr (.inl (a,(b,()),c,d,())))else none
def tI:Nat->fQ->List LI->Int->Int->Option sS
 |0,_,_,_,_=>none
 |n+1,a,b,c,d=>bif decide (d<c)then (pe m m a b c d 0).bind λx=>match x with
   | .inl y=>some (.inl (y.1,()))
   | .inr (.inl g)=>tI n g.1 g.2.1.1 g.2.2.1 (wI (g.2.2.2.1+1))
   | .inr (.inr e)=>e.elim else some (.inr (.inl ()))
def pf:Nat->fQ->List LI->Int->Int->LI->Int->Int->Option tK
 |0,_,_,_,_,_,_,_=>none
 |n+1,a,b,c,d,f,h,i=>bif decide (i<(f.length:Int))then if 0<=h/\h<(a.length:Int)then if 0<=i/\i<(f.length:Int)then (tl m (a.getD h.toNat (0,(0,([],0)))).2.2.1 (f.getD i.toNat 0)).bind λe=>bif !e.1 then some (.inl (211,()))else pf n a b c d f h (wI (i+1))else none else none else some (.inr (.inl (a,(b,()),c,d,())))
def pg:Nat->fQ->List LI->Int->Int->Option ((Int×Unit)⊕(fQ×sJ×Int×Unit)⊕Empty)
 |0,_,_,_,_=>none
 |n+1,a,b,c,d=>bif decide (d<(a.length:Int))then if 0<=d/\d<(a.length:Int)then if 0<=d/\d<(a.length:Int)then if 0<=d/\d<(a.length:Int)then (yr m (a.getD d.toNat (0,(0,([],0)))).2.2.1).bind λz=>bif !z.1 then some (.inl (211,()))else bif decide (((a.getD d.toNat (0,(0,([],0)))).2.2.1.length:Int)<(wI ((a.getD d.toNat (0,(0,([],0)))).2.1-(a.getD d.toNat (0,(0,([],0)))).1)))then some (.inl (211,()))else if(0:Int)<=0/\0<((a.getD d.toNat (0,(0,([],0)))).2.2.1.length:Int)then if 0<=d/\d<(a.length:Int)then bif ((a.getD d.toNat (0,(0,([],0)))).2.2.1.getD 0 0) !=(a.getD d.toNat (0,(0,([],0)))).1 then some (.inl (211,()))else if 0<=(wI ((wI ((a.getD d.toNat (0,(0,([],0)))).2.1-(a.getD d.toNat (0,(0,([],0)))).1))-1))/\(wI ((wI ((a.getD d.toNat (0,(0,([],0)))).2.1-(a.getD d.toNat (0,(0,([],0)))).1))-1))<((a.getD d.toNat (0,(0,([],0)))).2.2.1.length:Int)then if 0<=d/\d<(a.length:Int)then bif ((a.getD d.toNat (0,(0,([],0)))).2.2.1.getD (wI ((wI ((a.getD d.toNat (0,(0,([],0)))).2.1-(a.getD d.toNat (0,(0,([],0)))).1))-1)).toNat 0) !=(wI ((a.getD d.toNat (0,(0,([],0)))).2.1-1))then some (.inl (211,()))else if 0<=(wI (((a.getD d.toNat (0,(0,([],0)))).2.2.1.length:Int)-1))/\(wI (((a.getD d.toNat (0,(0,([],0)))).2.2.1.length:Int)-1))<((a.getD d.toNat (0,(0,([],0)))).2.2.1.length:Int)then bif decide (((a.getD d.toNat (0,(0,([],0)))).2.2.1.getD (wI (((a.getD d.toNat (0,(0,([],0)))).2.2.1.length:Int)-1)).toNat 0)>=c)then some (.inl (211,()))else bif decide (((a.getD d.toNat (0,(0,([],0)))).2.2.1.length:Int)>(wI ((a.getD d.toNat (0,(0,([],0)))).2.1-(a.getD d.toNat (0,(0,([],0)))).1)))then if 0<=(wI ((a.getD d.toNat (0,(0,([],0)))).2.1-(a.getD d.toNat (0,(0,([],0)))).1))/\(wI ((a.getD d.toNat (0,(0,([],0)))).2.1-(a.getD d.toNat (0,(0,([],0)))).1))<((a.getD d.toNat (0,(0,([],0)))).2.2.1.length:Int)then (KZ m a ((a.getD d.toNat (0,(0,([],0)))).2.2.1.getD (wI ((a.getD d.toNat (0,(0,([],0)))).2.1-(a.getD d.toNat (0,(0,([],0)))).1)).toNat 0)).bind λy=>if 0<=d/\d<(a.length:Int)then bif (a.getD d.toNat (0,(0,([],0)))).2.2.2 !=y.1 then some (.inl (211,()))else (pf m m a b c d (a.getD d.toNat (0,(0,([],0)))).2.2.1 y.1 (wI ((a.getD d.toNat (0,(0,([],0)))).2.1-(a.getD d.toNat (0,(0,([],0)))).1))).bind λA=>match A with
          | .inl B=>some (.inl (B.1,()))
          | .inr (.inl g)=>pg n g.1 g.2.1.1 g.2.2.1 (wI (g.2.2.2.1+1))
          | .inr (.inr e)=>e.elim else none else none else if 0<=d/\d<(a.length:Int)then bif (a.getD d.toNat (0,(0,([],0)))).2.2.2 !=(-1)then some (.inl (211,()))else (pf m m a b c d (a.getD d.toNat (0,(0,([],0)))).2.2.1 (-1) (wI ((a.getD d.toNat (0,(0,([],0)))).2.1-(a.getD d.toNat (0,(0,([],0)))).1))).bind λC=>match C with
          | .inl D=>some (.inl (D.1,()))
          | .inr (.inl x)=>pg n x.1 x.2.1.1 x.2.2.1 (wI (x.2.2.2.1+1))
          | .inr (.inr e)=>e.elim else none else none else none else none else none else none else none else none else none else some (.inr (.inl (a,(b,()),c,())))
def tL (m:Nat):Nat->fQ->List LI->Int->Int->Int->Option tK
 |0,_,_,_,_,_=>none
 |n+1,a,b,c,d,f=>bif decide (f<(a.length:Int))then if 0<=f/\f<(a.length:Int)then bif (a.getD f.toNat (0,(0,([],0)))).1 !=d then some (.inl (211,()))else if 0<=f/\f<(a.length:Int)then bif decide ((a.getD f.toNat (0,(0,([],0)))).2.1<=d)then some (.inl (211,()))else if 0<=f/\f<(a.length:Int)then bif decide ((a.getD f.toNat (0,(0,([],0)))).2.1>c)then some (.inl (211,()))else if 0<=f/\f<(a.length:Int)then tL m n a b c (a.getD f.toNat (0,(0,([],0)))).2.1 (wI (f+1))else none else none else none else none else some (.inr (.inl (a,(b,()),c,d,())))
def Le (a:List LI) (b:List fU):Option jH:=(tG m a).bind λy=>bif y.1 !=0 then some (y.1,ul)else (tL m m b a (a.length:Int) 0 0).bind λz=>match z with
  | .inl A=>some (A.1,ul)
  | .inr (.inl g)=>bif g.2.2.2.1 !=g.2.2.1 then some (211,ul)else (pg m m g.1 g.2.1.1 g.2.2.1 0).bind λB=>match B with
    | .inl C=>some (C.1,ul)
    | .inr (.inl x)=>(tI m m x.1 x.2.1.1 x.2.2.1 0).bind λD=>match D with
     | .inl E=>some (E.1,ul)
     | .inr (.inl F)=>some (0,ul)
     | .inr (.inr e)=>e.elim
    | .inr (.inr e)=>e.elim
  | .inr (.inr e)=>e.elim
def qK (m:Nat):Nat->fQ->Int->Option sS
 |0,_,_=>none
 |n+1,a,b=>bif decide (b<(a.length:Int))then if 0<=b/\b<(a.length:Int)then bif decide (((a.getD b.toNat (0,(0,([],0)))).2.2.1.length:Int)>64)then some (.inl (6,()))else qK m n a (wI (b+1))else none else some (.inr (.inl ()))
def JU (a:Int) (b:Int) (c:LI) (d:LI) (f:LI) (h:LI) (i:List fU):Option MW:=(DT m a b c d f h).bind λg=>bif g.1 !=0 then some (g.1,v4)else (DN m a b c d f h).bind λy=>(Le m y.1.1 i).bind λx=>bif x.1 !=0 then some (x.1,v4)else (qK m m i 0).bind λz=>match z with
   | .inl A=>some (A.1,v4)
   | .inr (.inl B)=>some (0,v4)
   | .inr (.inr e)=>e.elim
def DM (a:Int) (b:Int) (c:LI) (d:LI) (f:LI) (h:LI) (i:Int) (j:Int):Option (lC×Unit×Unit×Unit×Unit×Unit):=if 0<=i/\i<(h.length:Int)then if 0<=j/\j<(h.length:Int)then (JX m a b c d f (if(h.getD j.toNat 0)>(h.getD i.toNat 0)then(h.getD j.toNat 0)else(h.getD i.toNat 0)) (if(h.getD j.toNat 0)<(h.getD i.toNat 0)then(h.getD j.toNat 0)else(h.getD i.toNat 0))).bind λg=>(j4 m g.1).bind λe=>some ((e.1.1,e.1.2.1,e.1.2.2.1,e.1.2.2.2.1,()),wr)else none else none
def j9 (m:Nat):Nat->LI->Int->Int->Option sS
 |0,_,_,_=>none
 |n+1,a,b,c=>bif decide (c<(a.length:Int))then if 0<=c/\c<(a.length:Int)then bif (a.getD c.toNat 0)==b then some (.inl (c,()))else j9 m n a b (wI (c+1))else none else some (.inr (.inl ()))
def kc (a:LI) (b:Int):Option jH:=(j9 m m a b 0).bind λg=>match g with
 | .inl x=>some (x.1,ul)
 | .inr (.inl y)=>some ((-1),ul)
 | .inr (.inr e)=>e.elim
def Ae (a:Bool) (b:Bool) (c:LI) (d:Int) (f:Bool) (h:Bool) (i:LI) (j:Int):Option Ue:=(fR m b c).bind λx=>bif x.1==0 then some (((b,c,()),(h,i,()),j,()),ul)else (fR m h i).bind λy=>bif y.1==0 then some (((b,c,()),(h,i,()),d,()),ul)else bif decide (d>j)then (o6 m b c (wI (d-j))).bind λe=>some (((e.1.1,e.1.2.1,()),(h,i,()),j,()),ul)else (o6 m h i (wI (j-d))).bind λg=>some (((b,c,()),(g.1.1,g.1.2.1,()),d,()),ul)
def Ba (a:Bool) (b:Bool) (c:LI) (d:Int) (f:Bool) (h:Bool) (i:LI) (j:Int):Option xq:=(nH m a b c d).bind λe=>(nH m f h i j).bind λg=>bif e.1.1 then (x8 m).bind λy=>some ((y.1.1,y.1.2.1,y.1.2.2.1,y.1.2.2.2.1,()),ul)else bif g.1.1 then (x8 m).bind λz=>some ((z.1.1,z.1.2.1,z.1.2.2.1,z.1.2.2.2.1,()),ul)else (Ae m e.1.1 e.1.2.1 e.1.2.2.1 e.1.2.2.2.1 g.1.1 g.1.2.1 g.1.2.2.1 g.1.2.2.2.1).bind λx=>(fM m x.1.1.1 x.1.1.2.1 x.1.2.1.1 x.1.2.1.2.1).bind λB=>(u9 m B.1.1 B.1.2.1 x.1.2.2.1).bind λA=>some ((A.1.1,A.1.2.1,A.1.2.2.1,A.1.2.2.2.1,()),ul)
def qG:Nat->fQ->Int->pC->LI->Int->dA->LI->Int->dA->Int->LI->Int->dA->Int->Int->Option ((fQ×Int×pC×gV×gV×Int×gV×Int×Unit)⊕Empty)
 |0,_,_,_,_,_,_,_,_,_,_,_,_,_,_,_=>none
 |n+1,a,b,c,d,f,h,i,j,k,l,o,p,q,r,s=>bif decide (s<(o.length:Int))then if 0<=r/\r<(o.length:Int)then (kc m i (o.getD r.toNat 0)).bind λe=>if 0<=s/\s<(o.length:Int)then (kc m i (o.getD s.toNat 0)).bind λg=>if 0<=e.1/\e.1<(k.length:Int)then if 0<=e.1/\e.1<(k.length:Int)then if 0<=g.1/\g.1<((k.getD e.1.toNat ([]:List bE)).length:Int)then if 0<=r/\r<(q.length:Int)then if 0<=s/\s<((q.getD r.toNat ([]:List bE)).length:Int)then (Ba m ((k.getD e.1.toNat ([]:List bE)).getD g.1.toNat qz).1 ((k.getD e.1.toNat ([]:List bE)).getD g.1.toNat qz).2.1.1 ((k.getD e.1.toNat ([]:List bE)).getD g.1.toNat qz).2.1.2 ((k.getD e.1.toNat ([]:List bE)).getD g.1.toNat qz).2.2 ((q.getD r.toNat ([]:List bE)).getD s.toNat qz).1 ((q.getD r.toNat ([]:List bE)).getD s.toNat qz).2.1.1 ((q.getD r.toNat ([]:List bE)).getD s.toNat qz).2.1.2 ((q.getD r.toNat ([]:List bE)).getD s.toNat qz).2.2).bind λx=>if 0<=g.1/\g.1<((k.getD e.1.toNat ([]:List bE)).length:Int)then qG n a b c d f h i j (k.set e.1.toNat ((k.getD e.1.toNat ([]:List bE)).set g.1.toNat (x.1.1,((x.1.2.1,x.1.2.2.1),x.1.2.2.2.1)))) l o p q r (wI (s+1))else none else none else none else none else none else none else none else none else some (.inl (a,b,c,(d,f,h,()),(i,j,k,()),l,(o,p,q,()),r,()))
def qH:Nat->fQ->Int->pC->LI->Int->dA->LI->Int->dA->Int->LI->Int->dA->Int->Option ((fQ×Int×pC×gV×gV×Int×Unit)⊕Empty)
 |0,_,_,_,_,_,_,_,_,_,_,_,_,_,_=>none
 |n+1,a,b,c,d,f,h,i,j,k,l,o,p,q,r=>bif decide (r<(o.length:Int))then (qG m m a b c d f h i j k l o p q r 0).bind λx=>match x with
   | .inl g=>qH n g.1 g.2.1 g.2.2.1 g.2.2.2.1.1 g.2.2.2.1.2.1 g.2.2.2.1.2.2.1 g.2.2.2.2.1.1 g.2.2.2.2.1.2.1 g.2.2.2.2.1.2.2.1 g.2.2.2.2.2.1 g.2.2.2.2.2.2.1.1 g.2.2.2.2.2.2.1.2.1 g.2.2.2.2.2.2.1.2.2.1 (wI (g.2.2.2.2.2.2.2.1+1))
   | .inr e=>e.elim else some (.inl (a,b,c,(d,f,h,()),(i,j,k,()),l,()))
def oA:Nat->fQ->Int->pC->LI->Int->dA->LI->Int->dA->Int->Option ((pC×gV×gV×Unit)⊕Empty)
 |0,_,_,_,_,_,_,_,_,_,_=>none
 |n+1,a,b,c,d,f,h,i,j,k,l=>bif decide (l<b)then if 0<=l/\l<(a.length:Int)then bif (a.getD l.toNat (0,(0,([],0)))).2.2.2 !=b then oA n a b c d f h i j k (wI (l+1))else if 0<=l/\l<(c.length:Int)then (qH m m a b c d f h i j k l (c.getD (0+l.toNat) ([],(0,([]:List cW)))).1 (c.getD (0+l.toNat) ([],(0,([]:List cW)))).2.1 (c.getD (0+l.toNat) ([],(0,([]:List cW)))).2.2 0).bind λx=>match x with
    | .inl g=>oA n g.1 g.2.1 g.2.2.1 g.2.2.2.1.1 g.2.2.2.1.2.1 g.2.2.2.1.2.2.1 g.2.2.2.2.1.1 g.2.2.2.2.1.2.1 g.2.2.2.2.1.2.2.1 (wI (g.2.2.2.2.2.1+1))
    | .inr e=>e.elim else none else none else some (.inl (c,(d,f,h,()),(i,j,k,()),()))
def lR:Nat->LI->fQ->Int->pC->Int->Int->LI->LI->LI->LI->Int->dA->LI->Int->dA->Int->Int->Int->Option ((LI×fQ×Int×pC×lx×gV×gV×Int×Int×Unit)⊕Empty)
 |0,_,_,_,_,_,_,_,_,_,_,_,_,_,_,_,_,_,_=>none
 |n+1,a,b,c,d,f,h,i,j,k,l,o,p,q,r,s,t,u,v=>bif decide (v<t)then if 0<=u/\u<(q.length:Int)then if 0<=v/\v<(q.length:Int)then if 0<=c/\c<(b.length:Int)then bif decide ((if(q.getD (0+v.toNat) 0)<(q.getD (0+u.toNat) 0)then(q.getD (0+v.toNat) 0)else(q.getD (0+u.toNat) 0))>=(b.getD c.toNat (0,(0,([],0)))).1)then if 0<=c/\c<(b.length:Int)then bif decide ((if(q.getD (0+v.toNat) 0)<(q.getD (0+u.toNat) 0)then(q.getD (0+v.toNat) 0)else(q.getD (0+u.toNat) 0))<(b.getD c.toNat (0,(0,([],0)))).2.1)then if 0<=u/\u<(s.length:Int)then if 0<=u/\u<(q.length:Int)then if 0<=v/\v<(q.length:Int)then (DM m f h i j k a (q.getD (0+u.toNat) 0) (q.getD (0+v.toNat) 0)).bind λe=>if 0<=v/\v<((s.getD u.toNat ([]:List bE)).length:Int)then lR n a b c d f h i j k l o p q r (s.set u.toNat ((s.getD u.toNat ([]:List bE)).set v.toNat (e.1.1,((e.1.2.1,e.1.2.2.1),e.1.2.2.2.1)))) t u (wI (v+1))else none else none else none else none else lR n a b c d f h i j k l o p q r s t u (wI (v+1))else none else lR n a b c d f h i j k l o p q r s t u (wI (v+1))else none else none else none else some (.inl (a,b,c,d,(f,h,i,j,k,()),(l,o,p,()),(q,r,s,()),t,u,()))
def qI:Nat->LI->fQ->Int->pC->Int->Int->LI->LI->LI->LI->Int->dA->LI->Int->dA->Int->Int->Option ((fQ×Int×pC×gV×gV×Unit)⊕Empty)
 |0,_,_,_,_,_,_,_,_,_,_,_,_,_,_,_,_,_=>none
 |n+1,a,b,c,d,f,h,i,j,k,l,o,p,q,r,s,t,u=>bif decide (u<t)then if 0<=t/\t<=t/\t<=1073741824 then if 0<([List.replicate t.toNat (qz:Bool×(Bool×LI)×Int)]:List cW).length/\s.length+([List.replicate t.toNat (qz:Bool×(Bool×LI)×Int)]:List cW).length<=1073741824 then (lR m m a b c d f h i j k l o p q r (s++([List.replicate t.toNat (qz:Bool×(Bool×LI)×Int)]:List cW)) t u 0).bind λx=>match x with
   | .inl g=>qI n g.1 g.2.1 g.2.2.1 g.2.2.2.1 g.2.2.2.2.1.1 g.2.2.2.2.1.2.1 g.2.2.2.2.1.2.2.1 g.2.2.2.2.1.2.2.2.1 g.2.2.2.2.1.2.2.2.2.1 g.2.2.2.2.2.1.1 g.2.2.2.2.2.1.2.1 g.2.2.2.2.2.1.2.2.1 g.2.2.2.2.2.2.1.1 g.2.2.2.2.2.2.1.2.1 g.2.2.2.2.2.2.1.2.2.1 g.2.2.2.2.2.2.2.1 (wI (g.2.2.2.2.2.2.2.2.1+1))
   | .inr e=>e.elim else none else none else some (.inl (b,c,d,(l,o,p,()),(q,r,s,()),()))
def oB (m:Nat):Nat->LI->fQ->Int->pC->Int->Int->LI->LI->LI->LI->Int->dA->LI->Int->dA->Int->Option tC
 |0,_,_,_,_,_,_,_,_,_,_,_,_,_,_,_,_=>none
 |n+1,a,b,c,d,f,h,i,j,k,l,o,p,q,r,s,t=>if 0<=c/\c<(b.length:Int)then bif decide (t<((b.getD c.toNat (0,(0,([],0)))).2.2.1.length:Int))then if 0<=c/\c<(b.length:Int)then if 0<=t/\t<((b.getD c.toNat (0,(0,([],0)))).2.2.1.length:Int)then if 0<=c/\c<(b.length:Int)then bif decide (((b.getD c.toNat (0,(0,([],0)))).2.2.1.getD t.toNat 0)>=(b.getD c.toNat (0,(0,([],0)))).2.1)then if 0<=c/\c<(b.length:Int)then if 0<=t/\t<((b.getD c.toNat (0,(0,([],0)))).2.2.1.length:Int)then if q.length+([(b.getD c.toNat (0,(0,([],0)))).2.2.1.getD t.toNat 0]:LI).length<=1073741824 then oB m n a b c d f h i j k l o p (q++([(b.getD c.toNat (0,(0,([],0)))).2.2.1.getD t.toNat 0]:LI)) r s (wI (t+1))else none else none else none else oB m n a b c d f h i j k l o p q r s (wI (t+1))else none else none else none else some (.inl (a,b,c,d,(f,h,i,j,k,()),(l,o,p,()),(q,r,s,()),()))else none
def qJ (m:Nat):Nat->LI->fQ->Int->pC->Int->Int->LI->LI->LI->LI->Int->dA->LI->Int->dA->Int->Option tC
 |0,_,_,_,_,_,_,_,_,_,_,_,_,_,_,_,_=>none
 |n+1,a,b,c,d,f,h,i,j,k,l,o,p,q,r,s,t=>if 0<=c/\c<(b.length:Int)then bif decide (t<(b.getD c.toNat (0,(0,([],0)))).2.1)then if q.length+([t]:LI).length<=1073741824 then qJ m n a b c d f h i j k l o p (q++([t]:LI)) r s (wI (t+1))else none else some (.inl (a,b,c,d,(f,h,i,j,k,()),(l,o,p,()),(q,r,s,()),()))else none
def oC (m:Nat):Nat->LI->fQ->Int->pC->Int->Int->LI->LI->LI->LI->Int->dA->LI->Int->dA->Int->Option tC
 |0,_,_,_,_,_,_,_,_,_,_,_,_,_,_,_,_=>none
 |n+1,a,b,c,d,f,h,i,j,k,l,o,p,q,r,s,t=>bif decide (t<c)then if 0<=t/\t<(b.length:Int)then bif (b.getD t.toNat (0,(0,([],0)))).2.2.2==c then if 0<=t/\t<(d.length:Int)then if 0<=t/\t<(d.length:Int)then if(0:Int)<=0/\0<=(d.getD (0+t.toNat) ([],(0,([]:List cW)))).2.1/\(d.getD (0+t.toNat) ([],(0,([]:List cW)))).2.1<=((d.getD (0+t.toNat) ([],(0,([]:List cW)))).1.length:Int)then if q.length+((d.getD (0+t.toNat) ([],(0,([]:List cW)))).1.take (d.getD (0+t.toNat) ([],(0,([]:List cW)))).2.1.toNat).length<=1073741824 then oC m n a b c d f h i j k l o p (q++((d.getD (0+t.toNat) ([],(0,([]:List cW)))).1.take (d.getD (0+t.toNat) ([],(0,([]:List cW)))).2.1.toNat)) r s (wI (t+1))else none else none else none else none else oC m n a b c d f h i j k l o p q r s (wI (t+1))else none else some (.inl (a,b,c,d,(f,h,i,j,k,()),(l,o,p,()),(q,r,s,()),()))
def TV (a:Int) (b:Int) (c:LI) (d:LI) (f:LI) (h:LI) (i:List fU) (j:Int) (k:List MX):Option (gV×Unit×Unit×Unit×Unit×pC×Unit):=(oC m m h i j k a b c d f ([]:LI) 0 ([]:List cW) ([]:LI) 0 ([]:List cW) 0).bind λB=>match B with
 | .inl g=>if 0<=g.2.2.1/\g.2.2.1<(g.2.1.length:Int)then (qJ m m g.1 g.2.1 g.2.2.1 g.2.2.2.1 g.2.2.2.2.1.1 g.2.2.2.2.1.2.1 g.2.2.2.2.1.2.2.1 g.2.2.2.2.1.2.2.2.1 g.2.2.2.2.1.2.2.2.2.1 g.2.2.2.2.2.1.1 g.2.2.2.2.2.1.2.1 g.2.2.2.2.2.1.2.2.1 g.2.2.2.2.2.2.1.1 g.2.2.2.2.2.2.1.2.1 g.2.2.2.2.2.2.1.2.2.1 (g.2.1.getD g.2.2.1.toNat (0,(0,([],0)))).1).bind λC=>match C with
  | .inl y=>(oB m m y.1 y.2.1 y.2.2.1 y.2.2.2.1 y.2.2.2.2.1.1 y.2.2.2.2.1.2.1 y.2.2.2.2.1.2.2.1 y.2.2.2.2.1.2.2.2.1 y.2.2.2.2.1.2.2.2.2.1 y.2.2.2.2.2.1.1 y.2.2.2.2.2.1.2.1 y.2.2.2.2.2.1.2.2.1 y.2.2.2.2.2.2.1.1 (y.2.2.2.2.2.2.1.1.length:Int) y.2.2.2.2.2.2.1.2.2.1 0).bind λD=>match D with
   | .inl x=>(qI m m x.1 x.2.1 x.2.2.1 x.2.2.2.1 x.2.2.2.2.1.1 x.2.2.2.2.1.2.1 x.2.2.2.2.1.2.2.1 x.2.2.2.2.1.2.2.2.1 x.2.2.2.2.1.2.2.2.2.1 x.2.2.2.2.2.1.1 x.2.2.2.2.2.1.2.1 x.2.2.2.2.2.1.2.2.1 x.2.2.2.2.2.2.1.1 x.2.2.2.2.2.2.1.2.1 x.2.2.2.2.2.2.1.2.2.1 (x.2.2.2.2.2.2.1.1.length:Int) 0).bind λE=>match E with
    | .inl z=>(oA m m z.1 z.2.1 z.2.2.1 z.2.2.2.1.1 z.2.2.2.1.2.1 z.2.2.2.1.2.2.1 z.2.2.2.2.1.1 z.2.2.2.2.1.2.1 z.2.2.2.2.1.2.2.1 0).bind λF=>match F with
     | .inl A=>some ((A.2.2.1.1,A.2.2.1.2.1,A.2.2.1.2.2.1,()),((),(),(),(),A.1,()))
     | .inr e=>e.elim
    | .inr e=>e.elim
   | .inr e=>e.elim
  | .inr e=>e.elim else none
 | .inr e=>e.elim
def v5 (a:Bool) (b:Bool) (c:LI) (d:Int):Option lg:=(Mo m a b c d 0).bind λe=>some (e.1,ut)
def j8:Nat->Int->LI->Int->dA->cW->Int->Option (YK⊕(cW×Unit)⊕Empty)
 |0,_,_,_,_,_,_=>none
 |n+1,a,b,c,d,f,h=>bif decide (h<(b.length:Int))then if 0<=h/\h<(d.length:Int)then if 0<=a/\a<((d.getD h.toNat ([]:List bE)).length:Int)then (v5 m ((d.getD h.toNat ([]:List bE)).getD a.toNat qz).1 ((d.getD h.toNat ([]:List bE)).getD a.toNat qz).2.1.1 ((d.getD h.toNat ([]:List bE)).getD a.toNat qz).2.1.2 ((d.getD h.toNat ([]:List bE)).getD a.toNat qz).2.2).bind λx=>(oH m x.1).bind λy=>bif !y.1 then some (.inl (([]:List bE),false,()))else (j4 m x.1).bind λg=>(Mu m g.1.1 g.1.2.1 g.1.2.2.1 g.1.2.2.2.1).bind λe=>if f.length+([(e.1.1,((e.1.2.1,e.1.2.2.1),e.1.2.2.2.1))]:List bE).length<=1073741824 then j8 n a b c d (f++([(e.1.1,((e.1.2.1,e.1.2.2.1),e.1.2.2.2.1))]:List bE)) (wI (h+1))else none else none else none else some (.inr (.inl (f,())))
def wA (a:LI) (b:Int) (c:List cW) (d:Int):Option (YK×Unit×Unit×Unit):=(j8 m m d a b c ([]:List bE) 0).bind λx=>match x with
 | .inl g=>some ((g.1,g.2.1,()),ul)
 | .inr (.inl y)=>some ((y.1,true,()),ul)
 | .inr (.inr e)=>e.elim
def rN (a:Bool) (b:LI) (c:Bool) (d:LI):Option jH:=(wC m a b c d).bind λe=>(fR m e.1.1 e.1.2.1).bind λg=>some (g.1,ul)
def TZ (a:Bool) (b:Bool) (c:LI) (d:Int) (f:Bool) (h:Bool) (i:LI) (j:Int):Option ((Int×Bool×Unit)×Unit×Unit×Unit):=(nH m a b c d).bind λe=>(nH m f h i j).bind λg=>bif e.1.1 then some ((0,false,()),ul)else bif g.1.1 then some ((0,false,()),ul)else (Ae m e.1.1 e.1.2.1 e.1.2.2.1 e.1.2.2.2.1 g.1.1 g.1.2.1 g.1.2.2.1 g.1.2.2.2.1).bind λx=>(rN m x.1.1.1 x.1.1.2.1 x.1.2.1.1 x.1.2.1.2.1).bind λy=>some ((y.1,true,()),ul)
def OA (a:Bool) (b:Bool) (c:LI) (d:Int) (f:Bool) (h:Bool) (i:LI) (j:Int):Option vH:=(TZ m a b c d f h i j).bind λe=>some (decide (e.1.1<0),ul)
def eT:Nat->cW->Int->Bool->Bool->LI->Int->Bool->Bool->LI->Int->Int->Int->Option ((lC×lC×Int×Unit)⊕Empty)
 |0,_,_,_,_,_,_,_,_,_,_,_,_=>none
 |n+1,a,b,c,d,f,h,i,j,k,l,o,p=>bif decide (p<(a.length:Int))then bif p !=b then bif decide (o<0)then if 0<=p/\p<(a.length:Int)then eT n a b c d f h (a.getD p.toNat qz).1 (a.getD p.toNat qz).2.1.1 (a.getD p.toNat qz).2.1.2 (a.getD p.toNat qz).2.2 p (wI (p+1))else none else if 0<=p/\p<(a.length:Int)then (OA m i j k l (a.getD p.toNat qz).1 (a.getD p.toNat qz).2.1.1 (a.getD p.toNat qz).2.1.2 (a.getD p.toNat qz).2.2).bind λe=>bif e.1 then if 0<=p/\p<(a.length:Int)then eT n a b c d f h (a.getD p.toNat qz).1 (a.getD p.toNat qz).2.1.1 (a.getD p.toNat qz).2.1.2 (a.getD p.toNat qz).2.2 p (wI (p+1))else none else eT n a b c d f h i j k l o (wI (p+1))else none else eT n a b c d f h i j k l o (wI (p+1))else some (.inl ((c,d,f,h,()),(i,j,k,l,()),o,()))
def yZ (a:List bE) (b:Int):Option ((lC×Int×Unit)×Unit×Unit×Unit):=(eT m m a b false false ([]:LI) 0 false false ([]:LI) 0 (-1) 0).bind λx=>match x with
 | .inl g=>some (((g.2.1.1,g.2.1.2.1,g.2.1.2.2.1,g.2.1.2.2.2.1,()),g.2.2.1,()),ul)
 | .inr e=>e.elim
def tR (a:Bool) (b:Bool) (c:LI) (d:Int):Option lg:=(nH m a b c d).bind λe=>bif e.1.1 then some (0,ut)else (fR m e.1.2.1 e.1.2.2.1).bind λg=>some (g.1,ut)
def na (m:Nat):Nat->LI->LI->LI->Int->Int->Int->Option ((LI×LI×LI×Int×Int×Unit)⊕Empty)
 |0,_,_,_,_,_,_=>none
 |n+1,a,b,c,d,f,h=>bif decide (h<(b.length:Int))then if 0<=d/\d<(a.length:Int)then if 0<=h/\h<(b.length:Int)then if 0<=(wI (d+h))/\(wI (d+h))<(c.length:Int)then if 0<=(wI (d+h))/\(wI (d+h))<(c.length:Int)then na m n a b (c.set (0+(wI (d+h)).toNat) (wK (wJ ((wJ (f+(wJ ((wJ (a.getD d.toNat 0))*(wJ (b.getD h.toNat 0))))))+(wJ (c.getD (0+(wI (d+h)).toNat) 0)))))) d (aJ .u64 (wJ ((wJ (f+(wJ ((wJ (a.getD d.toNat 0))*(wJ (b.getD h.toNat 0))))))+(wJ (c.getD (0+(wI (d+h)).toNat) 0)))) 32) (wI (h+1))else none else none else none else none else some (.inl (a,b,c,d,f,()))
def nb:Nat->LI->LI->LI->Int->Option pE
 |0,_,_,_,_=>none
 |n+1,a,b,c,d=>bif decide (d<(a.length:Int))then (na m m a b c d 0 0).bind λx=>match x with
   | .inl g=>if 0<=(wI (g.2.2.2.1+(g.2.1.length:Int)))/\(wI (g.2.2.2.1+(g.2.1.length:Int)))<(g.2.2.1.length:Int)then nb n g.1 g.2.1 (g.2.2.1.set (0+(wI (g.2.2.2.1+(g.2.1.length:Int))).toNat) (wK g.2.2.2.2.1)) (wI (g.2.2.2.1+1))else none
   | .inr e=>e.elim else some (.inl (c,()))
def Ef (a:LI) (b:LI):Option vI:=if 0<=(wI ((a.length:Int)+(b.length:Int)))/\(wI ((a.length:Int)+(b.length:Int)))<=(wI ((a.length:Int)+(b.length:Int)))/\(wI ((a.length:Int)+(b.length:Int)))<=1073741824 then (nb m m a b (List.replicate (wI ((a.length:Int)+(b.length:Int))).toNat (0:Int)) 0).bind λg=>match g with
 | .inl x=>some (x.1,ul)
 | .inr e=>e.elim else none
def J1 (a:Bool) (b:LI) (c:Bool) (d:LI):Option wT:=(gr m b).bind λg=>(gr m d).bind λx=>(Ef m g.1 x.1).bind λy=>(fN m (!(a==c)) y.1).bind λe=>some ((e.1.1,e.1.2.1,()),ul)
def nM (a:Bool) (b:Bool) (c:LI) (d:Int) (f:Bool) (h:Bool) (i:LI) (j:Int):Option xq:=(nH m a b c d).bind λe=>(nH m f h i j).bind λg=>bif e.1.1 then (x8 m).bind λx=>some ((x.1.1,x.1.2.1,x.1.2.2.1,x.1.2.2.2.1,()),ul)else bif g.1.1 then (x8 m).bind λy=>some ((y.1.1,y.1.2.1,y.1.2.2.1,y.1.2.2.2.1,()),ul)else (J1 m e.1.2.1 e.1.2.2.1 g.1.2.1 g.1.2.2.1).bind λA=>(u9 m A.1.1 A.1.2.1 (wI (e.1.2.2.2.1+g.1.2.2.2.1))).bind λz=>some ((z.1.1,z.1.2.1,z.1.2.2.1,z.1.2.2.2.1,()),ul)
def wz (a:Bool) (b:Bool) (c:LI) (d:Int) (f:Bool) (h:Bool) (i:LI) (j:Int):Option vH:=(K2 m 64).bind λe=>(nM m e.1.1 e.1.2.1 e.1.2.2.1 e.1.2.2.2.1 a b c d).bind λg=>(K2 m 41).bind λx=>(nM m x.1.1 x.1.2.1 x.1.2.2.1 x.1.2.2.2.1 f h i j).bind λy=>(OA m g.1.1 g.1.2.1 g.1.2.2.1 g.1.2.2.2.1 y.1.1 y.1.2.1 y.1.2.2.1 y.1.2.2.2.1).bind λz=>some (!z.1,ul)
def qF:Nat->LI->Int->dA->Int->Option (IS⊕Unit⊕Empty)
 |0,_,_,_,_=>none
 |n+1,a,b,c,d=>bif decide (d<b)then (wA m a b c d).bind λg=>bif !g.1.2.1 then some (.inl ([],false,()))else (yZ m g.1.1 d).bind λe=>(tR m e.1.1.1 e.1.1.2.1 e.1.1.2.2.1 e.1.1.2.2.2.1).bind λC=>bif C.1==0 then some (.inl (([d]:LI),true,()))else if 0<=d/\d<(g.1.1.length:Int)then (wz m (g.1.1.getD d.toNat qz).1 (g.1.1.getD d.toNat qz).2.1.1 (g.1.1.getD d.toNat qz).2.1.2 (g.1.1.getD d.toNat qz).2.2 e.1.1.1 e.1.1.2.1 e.1.1.2.2.1 e.1.1.2.2.2.1).bind λD=>bif D.1 then some (.inl (([d]:LI),true,()))else bif decide (e.1.2.1>=b)then qF n a b c (wI (d+1))else (wA m a b c e.1.2.1).bind λy=>bif !y.1.2.1 then some (.inl ([],false,()))else (yZ m y.1.1 e.1.2.1).bind λx=>if 0<=d/\d<(g.1.1.length:Int)then (nM m (g.1.1.getD d.toNat qz).1 (g.1.1.getD d.toNat qz).2.1.1 (g.1.1.getD d.toNat qz).2.1.2 (g.1.1.getD d.toNat qz).2.2 x.1.1.1 x.1.1.2.1 x.1.1.2.2.1 x.1.1.2.2.2.1).bind λz=>(nM m e.1.1.1 e.1.1.2.1 e.1.1.2.2.1 e.1.1.2.2.2.1 e.1.1.1 e.1.1.2.1 e.1.1.2.2.1 e.1.1.2.2.2.1).bind λA=>(wz m z.1.1 z.1.2.1 z.1.2.2.1 z.1.2.2.2.1 A.1.1 A.1.2.1 A.1.2.2.1 A.1.2.2.2.1).bind λE=>bif E.1 then some (.inl (([d]:LI),true,()))else if 0<=e.1.2.1/\e.1.2.1<(y.1.1.length:Int)then (wz m (y.1.1.getD e.1.2.1.toNat qz).1 (y.1.1.getD e.1.2.1.toNat qz).2.1.1 (y.1.1.getD e.1.2.1.toNat qz).2.1.2 (y.1.1.getD e.1.2.1.toNat qz).2.2 x.1.1.1 x.1.1.2.1 x.1.1.2.2.1 x.1.1.2.2.2.1).bind λB=>bif B.1 then some (.inl (([e.1.2.1]:LI),true,()))else some (.inl (([d,e.1.2.1]:LI),true,()))else none else none else none else some (.inr (.inl ()))
def TU (a:LI) (b:Int) (c:List cW):Option (IS×Unit×Unit):=(qF m m a b c 0).bind λx=>match x with
 | .inl g=>some ((g.1,g.2.1,()),ut)
 | .inr (.inl y)=>some (([],true,()),ut)
 | .inr (.inr e)=>e.elim
def j6:Nat->LI->LI->Int->dA->LI->Int->dA->LI->Int->dA->Int->cW->Int->Option ((LI×gV×gV×gV×Int×cW×Unit)⊕Empty)
 |0,_,_,_,_,_,_,_,_,_,_,_,_,_=>none
 |n+1,a,b,c,d,f,h,i,j,k,l,o,p,q=>bif decide (q<(b.length:Int))then (kc m a q).bind λe=>bif decide (e.1<0)then if 0<=o/\o<(d.length:Int)then if 0<=q/\q<((d.getD o.toNat ([]:List bE)).length:Int)then if p.length+([(((d.getD o.toNat ([]:List bE)).getD q.toNat qz).1,((((d.getD o.toNat ([]:List bE)).getD q.toNat qz).2.1.1,((d.getD o.toNat ([]:List bE)).getD q.toNat qz).2.1.2),((d.getD o.toNat ([]:List bE)).getD q.toNat qz).2.2))]:List bE).length<=1073741824 then j6 n a b c d f h i j k l o (p++([(((d.getD o.toNat ([]:List bE)).getD q.toNat qz).1,((((d.getD o.toNat ([]:List bE)).getD q.toNat qz).2.1.1,((d.getD o.toNat ([]:List bE)).getD q.toNat qz).2.1.2),((d.getD o.toNat ([]:List bE)).getD q.toNat qz).2.2))]:List bE)) (wI (q+1))else none else none else none else j6 n a b c d f h i j k l o p (wI (q+1))else some (.inl (a,(b,c,d,()),(f,h,i,()),(j,k,l,()),o,p,()))
def j7:Nat->LI->LI->Int->dA->LI->Int->dA->LI->Int->dA->Int->Option ((gV×gV×Unit)⊕Empty)
 |0,_,_,_,_,_,_,_,_,_,_,_=>none
 |n+1,a,b,c,d,f,h,i,j,k,l,o=>bif decide (o<(b.length:Int))then (kc m a o).bind λx=>bif decide (x.1>=0)then j7 n a b c d f h i j k l (wI (o+1))else if 0<=o/\o<(b.length:Int)then if j.length+([b.getD o.toNat 0]:LI).length<=1073741824 then (j6 m m a b c d f h i (j++([b.getD o.toNat 0]:LI)) k l o ([]:List bE) 0).bind λy=>match y with
    | .inl g=>if 0<([g.2.2.2.2.2.1]:List cW).length/\g.2.2.2.1.2.2.1.length+([g.2.2.2.2.2.1]:List cW).length<=1073741824 then j7 n g.1 g.2.1.1 g.2.1.2.1 g.2.1.2.2.1 g.2.2.1.1 g.2.2.1.2.1 g.2.2.1.2.2.1 g.2.2.2.1.1 g.2.2.2.1.2.1 (g.2.2.2.1.2.2.1++([g.2.2.2.2.2.1]:List cW)) (wI (g.2.2.2.2.1+1))else none
    | .inr e=>e.elim else none else none else some (.inl ((f,h,i,()),(j,k,l,()),()))
def DG (a:LI) (b:Int) (c:List cW) (d:LI):Option (gV×Unit×Unit×Unit):=(j7 m m d a b c ([]:LI) 0 ([]:List cW) ([]:LI) (wI (b-(d.length:Int))) ([]:List cW) 0).bind λx=>match x with
 | .inl g=>some ((g.2.1.1,g.2.1.2.1,g.2.1.2.2.1,()),ul)
 | .inr e=>e.elim
def F1 (m:Nat) (a:Int):Option pD:=bif a==0 then some (true,ut)else some (a==9223372036854775808,ut)
def tg (a:Int):Option lg:=(wh m a).bind λe=>some (wI (32-e.1),ut)
def jP (m:Nat):Nat->LI->Int->Int->LI->Int->Option pE
 |0,_,_,_,_,_=>none
 |n+1,a,b,c,d,f=>bif decide (f<=c)then if 0<=f/\f<(d.length:Int)then if 0<=(wI (f+b))/\(wI (f+b))<(a.length:Int)then jP m n (a.set (0+(wI (f+b)).toNat) (d.getD (0+f.toNat) 0)) b c d (wI (f+1))else none else none else some (.inl (a,()))
def iI (m:Nat):Nat->LI->LI->Int->Int->Int->LI->Int->Int->Int->Option ((LI×Int×Int×LI×Int×Unit)⊕Empty)
 |0,_,_,_,_,_,_,_,_,_=>none
 |n+1,a,b,c,d,f,h,i,j,k=>bif decide (k<=f)then bif decide (k<f)then if 0<=k/\k<(b.length:Int)then if 0<=(wI (k+c))/\(wI (k+c))<(a.length:Int)then if 0<=k/\k<(h.length:Int)then iI m n a b c d f (h.set (0+k.toNat) (wK (wJ ((wJ ((wJ (a.getD (0+(wI (k+c)).toNat) 0))-i))-(qp .u64 (wJ (j+(wJ (d*(wJ (b.getD k.toNat 0)))))) 4294967295))))) (aJ .u64 (wJ ((wJ ((wJ (a.getD (0+(wI (k+c)).toNat) 0))-i))-(qp .u64 (wJ (j+(wJ (d*(wJ (b.getD k.toNat 0)))))) 4294967295))) 63) (aJ .u64 (wJ (j+(wJ (d*(wJ (b.getD k.toNat 0)))))) 32) (wI (k+1))else none else none else none else if 0<=(wI (k+c))/\(wI (k+c))<(a.length:Int)then if 0<=k/\k<(h.length:Int)then iI m n a b c d f (h.set (0+k.toNat) (wK (wJ ((wJ ((wJ (a.getD (0+(wI (k+c)).toNat) 0))-i))-(qp .u64 j 4294967295))))) (aJ .u64 (wJ ((wJ ((wJ (a.getD (0+(wI (k+c)).toNat) 0))-i))-(qp .u64 j 4294967295))) 63) (aJ .u64 j 32) (wI (k+1))else none else none else some (.inl (a,c,f,h,i,()))
def wa (a:LI) (b:LI) (c:Int) (d:Int):Option (Bool×LI×Unit×Unit×Unit×Unit):=if 0<=(wI ((b.length:Int)+1))/\(wI ((b.length:Int)+1))<=(wI ((b.length:Int)+1))/\(wI ((b.length:Int)+1))<=1073741824 then (iI m m a b c d (b.length:Int) (List.replicate (wI ((b.length:Int)+1)).toNat (0:Int)) 0 0 0).bind λx=>match x with
 | .inl g=>bif g.2.2.2.2.1 !=0 then some (false,(g.1,(),(),(),()))else (jP m m g.1 g.2.1 g.2.2.1 g.2.2.2.1 0).bind λy=>match y with
   | .inl z=>some (true,(z.1,(),(),(),()))
   | .inr e=>e.elim
 | .inr e=>e.elim else none
def l8:Nat->Int->Int->LI->LI->LI->Int->Int->Option ((Int×Int×LI×LI×LI×Int×Int×Unit)⊕Empty)
 |0,_,_,_,_,_,_,_=>none
 |n+1,a,b,c,d,f,h,i=>(wa m c d h i).bind λe=>bif !e.1 then l8 n a b e.2.1 d f h (wJ (i-1))else some (.inl (a,b,e.2.1,d,f,h,i,()))
def iK:Nat->Int->Int->LI->LI->LI->Int->Option ((Int×LI×LI×Unit)⊕Empty)
 |0,_,_,_,_,_,_=>none
 |n+1,a,b,c,d,f,h=>bif decide (h>=0)then if 0<=(wI (h+a))/\(wI (h+a))<(c.length:Int)then if 0<=(wI ((wI (h+a))-1))/\(wI ((wI (h+a))-1))<(c.length:Int)then if 0<=(wI (a-1))/\(wI (a-1))<(d.length:Int)then if(wJ (d.getD (0+(wI (a-1)).toNat) 0))≠0 then (l8 m m a b c d f h (if 4294967295<(wJ (Int.tdiv (bf .u64 (bw .u64 (wJ (c.getD (0+(wI (h+a)).toNat) 0)) 32) (wJ (c.getD (0+(wI ((wI (h+a))-1)).toNat) 0))) (wJ (d.getD (0+(wI (a-1)).toNat) 0))))then 4294967295 else(wJ (Int.tdiv (bf .u64 (bw .u64 (wJ (c.getD (0+(wI (h+a)).toNat) 0)) 32) (wJ (c.getD (0+(wI ((wI (h+a))-1)).toNat) 0))) (wJ (d.getD (0+(wI (a-1)).toNat) 0)))))).bind λx=>match x with
   | .inl g=>if 0<=g.2.2.2.2.2.1/\g.2.2.2.2.2.1<(g.2.2.2.2.1.length:Int)then iK n g.1 g.2.1 g.2.2.1 g.2.2.2.1 (g.2.2.2.2.1.set (0+g.2.2.2.2.2.1.toNat) (wK g.2.2.2.2.2.2.1)) (wI (g.2.2.2.2.2.1-1))else none
   | .inr e=>e.elim else none else none else none else none else some (.inl (b,c,f,()))
def yj (a:LI) (b:LI):Option YF:=(Ac m a b).bind λH=>bif decide (H.1<0)then some (([],a,()),ul)else if 0<=(wI ((b.length:Int)-1))/\(wI ((b.length:Int)-1))<(b.length:Int)then (tg m (b.getD (wI ((b.length:Int)-1)).toNat 0)).bind λx=>(ph m a x.1).bind λy=>(ph m b x.1).bind λz=>if(0:Int)<=0/\0<=(b.length:Int)/\(b.length:Int)<=(z.1.length:Int)then bif (y.1.length:Int)==(a.length:Int)then if y.1.length+([0]:LI).length<=1073741824 then if 0<=(wI ((wI ((a.length:Int)-(b.length:Int)))+1))/\(wI ((wI ((a.length:Int)-(b.length:Int)))+1))<=(wI ((wI ((a.length:Int)-(b.length:Int)))+1))/\(wI ((wI ((a.length:Int)-(b.length:Int)))+1))<=1073741824 then (iK m m (b.length:Int) x.1 (y.1++([0]:LI)) (z.1.take (b.length:Int).toNat) (List.replicate (wI ((wI ((a.length:Int)-(b.length:Int)))+1)).toNat (0:Int)) (wI ((a.length:Int)-(b.length:Int)))).bind λI=>match I with
   | .inl A=>(gr m A.2.1).bind λJ=>(rP m J.1 A.1).bind λK=>(gr m A.2.2.1).bind λL=>(gr m K.1.1).bind λB=>some ((L.1,B.1,()),ul)
   | .inr e=>e.elim else none else none else if 0<=(wI ((wI ((a.length:Int)-(b.length:Int)))+1))/\(wI ((wI ((a.length:Int)-(b.length:Int)))+1))<=(wI ((wI ((a.length:Int)-(b.length:Int)))+1))/\(wI ((wI ((a.length:Int)-(b.length:Int)))+1))<=1073741824 then (iK m m (b.length:Int) x.1 y.1 (z.1.take (b.length:Int).toNat) (List.replicate (wI ((wI ((a.length:Int)-(b.length:Int)))+1)).toNat (0:Int)) (wI ((a.length:Int)-(b.length:Int)))).bind λC=>match C with
   | .inl g=>(gr m g.2.1).bind λD=>(rP m D.1 g.1).bind λE=>(gr m g.2.2.1).bind λF=>(gr m E.1.1).bind λG=>some ((F.1,G.1,()),ul)
   | .inr e=>e.elim else none else none else none
def tw (a:Bool) (b:LI) (c:Bool) (d:LI):Option ((nD×nD×Unit)×Unit×Unit×Unit):=(nN m a b).bind λC=>(nN m c d).bind λx=>(yj m C.1.2.1 x.1.2.1).bind λD=>(fN m (!(C.1.1==x.1.1)) D.1.1).bind λe=>(fN m C.1.1 D.1.2.1).bind λg=>(fR m g.1.1 g.1.2.1).bind λG=>bif decide (G.1<0)then (BO m x.1.1 x.1.2.1).bind λE=>(fM m g.1.1 g.1.2.1 E.1.1 E.1.2.1).bind λB=>bif x.1.1 then (gm m 1).bind λF=>(fM m e.1.1 e.1.2.1 F.1.1 F.1.2.1).bind λy=>some (((y.1.1,y.1.2.1,()),(B.1.1,B.1.2.1,()),()),ul)else (gm m 1).bind λz=>(wC m e.1.1 e.1.2.1 z.1.1 z.1.2.1).bind λA=>some (((A.1.1,A.1.2.1,()),(B.1.1,B.1.2.1,()),()),ul)else some (((e.1.1,e.1.2.1,()),(g.1.1,g.1.2.1,()),()),ul)
def D1 (a:Bool) (b:LI) (c:Bool) (d:LI) (f:Int):Option YW:=(pj m c d).bind λe=>(pj m a b).bind λg=>(o6 m a b (if 0>(wI ((wI ((wI (f+2))+e.1))-g.1))then 0 else(wI ((wI ((wI (f+2))+e.1))-g.1)))).bind λy=>(tw m y.1.1 y.1.2.1 c d).bind λx=>(fR m x.1.2.1.1 x.1.2.1.2.1).bind λz=>some (((x.1.1.1,x.1.1.2.1,()),wI (0-(if 0>(wI ((wI ((wI (f+2))+e.1))-g.1))then 0 else(wI ((wI ((wI (f+2))+e.1))-g.1)))),z.1 !=0,()),v4)
def TY (a:Bool) (b:Bool) (c:LI) (d:Int) (f:Bool) (h:Bool) (i:LI) (j:Int) (k:Int):Option MW:=(nH m a b c d).bind λe=>(nH m f h i j).bind λg=>bif e.1.1 then some (9221120237041090560,v4)else bif g.1.1 then some (9221120237041090560,v4)else (fR m g.1.2.1 g.1.2.2.1).bind λA=>bif A.1==0 then some (9221120237041090560,v4)else (fR m e.1.2.1 e.1.2.2.1).bind λB=>bif B.1==0 then some (0,v4)else (BO m e.1.2.1 e.1.2.2.1).bind λy=>(BO m g.1.2.1 g.1.2.2.1).bind λz=>(D1 m y.1.1 y.1.2.1 z.1.1 z.1.2.1 60).bind λx=>(wB m (!(e.1.2.1==g.1.2.1)) x.1.1.1 x.1.1.2.1 (wI ((wI (e.1.2.2.2.1-g.1.2.2.2.1))+x.1.2.1)) x.1.2.2.1 k).bind λC=>some (C.1,v4)
def nk (a:Bool) (b:Bool) (c:LI) (d:Int) (f:Bool) (h:Bool) (i:LI) (j:Int):Option jH:=(TY m a b c d f h i j 0).bind λe=>some (e.1,ul)
def OF (a:Bool) (b:Bool) (c:LI) (d:Int):Option wU:=(nH m a b c d).bind λe=>bif e.1.1 then some ((e.1.1,e.1.2.1,e.1.2.2.1,e.1.2.2.2.1,()),ut)else (Ad m e.1.2.1 e.1.2.2.1).bind λx=>(u9 m x.1.1 x.1.2.1 e.1.2.2.2.1).bind λg=>some ((g.1.1,g.1.2.1,g.1.2.2.1,g.1.2.2.2.1,()),ut)
def Bb (a:Bool) (b:Bool) (c:LI) (d:Int) (f:Bool) (h:Bool) (i:LI) (j:Int):Option xq:=(OF m f h i j).bind λe=>(Ba m a b c d e.1.1 e.1.2.1 e.1.2.2.1 e.1.2.2.2.1).bind λg=>some ((g.1.1,g.1.2.1,g.1.2.2.1,g.1.2.2.2.1,()),ul)
def jv (a:Int) (b:Int):Option xq:=(j4 m a).bind λe=>(j4 m b).bind λg=>(nM m e.1.1 e.1.2.1 e.1.2.2.1 e.1.2.2.2.1 g.1.1 g.1.2.1 g.1.2.2.1 g.1.2.2.2.1).bind λx=>some ((x.1.1,x.1.2.1,x.1.2.2.1,x.1.2.2.2.1,()),ul)
def nO (a:LI):Option wU:=if(0:Int)<=0/\0<(a.length:Int)then if(0:Int)<=2/\2<(a.length:Int)then (jv m (a.getD 0 0) (a.getD 2 0)).bind λe=>if(0:Int)<=1/\1<(a.length:Int)then if(0:Int)<=1/\1<(a.length:Int)then (jv m (a.getD 1 0) (a.getD 1 0)).bind λg=>(Bb m e.1.1 e.1.2.1 e.1.2.2.1 e.1.2.2.2.1 g.1.1 g.1.2.1 g.1.2.2.1 g.1.2.2.2.1).bind λx=>some ((x.1.1,x.1.2.1,x.1.2.2.1,x.1.2.2.2.1,()),ut)else none else none else none else none
def yW (a:LI) (b:LI) (c:LI) (d:List LI) (f:LI) (h:Int) (i:List cW) (j:LI) (k:Int):Option YG:=if 0<=k/\k<(i.length:Int)then if(0:Int)<=0/\0<(j.length:Int)then if 0<=(j.getD 0 0)/\(j.getD 0 0)<((i.getD k.toNat ([]:List bE)).length:Int)then bif (j.length:Int)==1 then if(0:Int)<=0/\0<(b.length:Int)then (F1 m (b.getD 0 0)).bind λJ=>bif J.1 then some (([0]:LI),wr)else if(0:Int)<=0/\0<(b.length:Int)then (j4 m (b.getD 0 0)).bind λB=>(nk m ((i.getD k.toNat ([]:List bE)).getD (j.getD 0 0).toNat qz).1 ((i.getD k.toNat ([]:List bE)).getD (j.getD 0 0).toNat qz).2.1.1 ((i.getD k.toNat ([]:List bE)).getD (j.getD 0 0).toNat qz).2.1.2 ((i.getD k.toNat ([]:List bE)).getD (j.getD 0 0).toNat qz).2.2 B.1.1 B.1.2.1 B.1.2.2.1 B.1.2.2.2.1).bind λK=>some (([K.1]:LI),wr)else none else none else if 0<=k/\k<(i.length:Int)then if(0:Int)<=1/\1<(j.length:Int)then if 0<=(j.getD 1 0)/\(j.getD 1 0)<((i.getD k.toNat ([]:List bE)).length:Int)then if(0:Int)<=0/\0<(b.length:Int)then (j4 m (b.getD 0 0)).bind λC=>if(0:Int)<=1/\1<(b.length:Int)then (j4 m (b.getD 1 0)).bind λA=>if(0:Int)<=2/\2<(b.length:Int)then (j4 m (b.getD 2 0)).bind λD=>(nM m ((i.getD k.toNat ([]:List bE)).getD (j.getD 0 0).toNat qz).1 ((i.getD k.toNat ([]:List bE)).getD (j.getD 0 0).toNat qz).2.1.1 ((i.getD k.toNat ([]:List bE)).getD (j.getD 0 0).toNat qz).2.1.2 ((i.getD k.toNat ([]:List bE)).getD (j.getD 0 0).toNat qz).2.2 D.1.1 D.1.2.1 D.1.2.2.1 D.1.2.2.2.1).bind λE=>(nM m ((i.getD k.toNat ([]:List bE)).getD (j.getD 1 0).toNat qz).1 ((i.getD k.toNat ([]:List bE)).getD (j.getD 1 0).toNat qz).2.1.1 ((i.getD k.toNat ([]:List bE)).getD (j.getD 1 0).toNat qz).2.1.2 ((i.getD k.toNat ([]:List bE)).getD (j.getD 1 0).toNat qz).2.2 A.1.1 A.1.2.1 A.1.2.2.1 A.1.2.2.2.1).bind λF=>(Bb m E.1.1 E.1.2.1 E.1.2.2.1 E.1.2.2.2.1 F.1.1 F.1.2.1 F.1.2.2.1 F.1.2.2.2.1).bind λG=>(nM m ((i.getD k.toNat ([]:List bE)).getD (j.getD 1 0).toNat qz).1 ((i.getD k.toNat ([]:List bE)).getD (j.getD 1 0).toNat qz).2.1.1 ((i.getD k.toNat ([]:List bE)).getD (j.getD 1 0).toNat qz).2.1.2 ((i.getD k.toNat ([]:List bE)).getD (j.getD 1 0).toNat qz).2.2 C.1.1 C.1.2.1 C.1.2.2.1 C.1.2.2.2.1).bind λe=>(nM m ((i.getD k.toNat ([]:List bE)).getD (j.getD 0 0).toNat qz).1 ((i.getD k.toNat ([]:List bE)).getD (j.getD 0 0).toNat qz).2.1.1 ((i.getD k.toNat ([]:List bE)).getD (j.getD 0 0).toNat qz).2.1.2 ((i.getD k.toNat ([]:List bE)).getD (j.getD 0 0).toNat qz).2.2 A.1.1 A.1.2.1 A.1.2.2.1 A.1.2.2.2.1).bind λg=>(Bb m e.1.1 e.1.2.1 e.1.2.2.1 e.1.2.2.2.1 g.1.1 g.1.2.1 g.1.2.2.1 g.1.2.2.2.1).bind λx=>(nO m b).bind λy=>(nk m G.1.1 G.1.2.1 G.1.2.2.1 G.1.2.2.2.1 y.1.1 y.1.2.1 y.1.2.2.1 y.1.2.2.2.1).bind λH=>(nO m b).bind λz=>(nk m x.1.1 x.1.2.1 x.1.2.2.1 x.1.2.2.2.1 z.1.1 z.1.2.1 z.1.2.2.1 z.1.2.2.2.1).bind λI=>some (([H.1,I.1]:LI),wr)else none else none else none else none else none else none else none else none else none
def DD (a:LI) (b:LI) (c:LI) (d:List LI) (f:Int) (h:Int):Option (lC×Unit×Unit×Unit×Unit):=if(0:Int)<=0/\0<(d.length:Int)then if 0<=f/\f<((d.getD 0 ([]:LI)).length:Int)then (j4 m ((d.getD 0 ([]:LI)).getD f.toNat 0)).bind λE=>if(0:Int)<=0/\0<(d.length:Int)then if 0<=h/\h<((d.getD 0 ([]:LI)).length:Int)then (j4 m ((d.getD 0 ([]:LI)).getD h.toNat 0)).bind λF=>if(0:Int)<=0/\0<(b.length:Int)then (j4 m (b.getD 0 0)).bind λK=>(nM m E.1.1 E.1.2.1 E.1.2.2.1 E.1.2.2.2.1 K.1.1 K.1.2.1 K.1.2.2.1 K.1.2.2.2.1).bind λL=>(nM m L.1.1 L.1.2.1 L.1.2.2.1 L.1.2.2.2.1 F.1.1 F.1.2.1 F.1.2.2.1 F.1.2.2.2.1).bind λG=>bif (a.length:Int)==2 then if(0:Int)<=1/\1<(d.length:Int)then if 0<=f/\f<((d.getD 1 ([]:LI)).length:Int)then (j4 m ((d.getD 1 ([]:LI)).getD f.toNat 0)).bind λH=>if(0:Int)<=1/\1<(d.length:Int)then if 0<=h/\h<((d.getD 1 ([]:LI)).length:Int)then (j4 m ((d.getD 1 ([]:LI)).getD h.toNat 0)).bind λI=>if(0:Int)<=1/\1<(b.length:Int)then (j4 m (b.getD 1 0)).bind λJ=>if(0:Int)<=2/\2<(b.length:Int)then (j4 m (b.getD 2 0)).bind λM=>(nM m E.1.1 E.1.2.1 E.1.2.2.1 E.1.2.2.2.1 J.1.1 J.1.2.1 J.1.2.2.1 J.1.2.2.2.1).bind λe=>(nM m e.1.1 e.1.2.1 e.1.2.2.1 e.1.2.2.2.1 I.1.1 I.1.2.1 I.1.2.2.1 I.1.2.2.2.1).bind λg=>(Ba m G.1.1 G.1.2.1 G.1.2.2.1 G.1.2.2.2.1 g.1.1 g.1.2.1 g.1.2.2.1 g.1.2.2.2.1).bind λx=>(nM m H.1.1 H.1.2.1 H.1.2.2.1 H.1.2.2.2.1 J.1.1 J.1.2.1 J.1.2.2.1 J.1.2.2.2.1).bind λy=>(nM m y.1.1 y.1.2.1 y.1.2.2.1 y.1.2.2.2.1 F.1.1 F.1.2.1 F.1.2.2.1 F.1.2.2.2.1).bind λz=>(Ba m x.1.1 x.1.2.1 x.1.2.2.1 x.1.2.2.2.1 z.1.1 z.1.2.1 z.1.2.2.1 z.1.2.2.2.1).bind λA=>(nM m H.1.1 H.1.2.1 H.1.2.2.1 H.1.2.2.2.1 M.1.1 M.1.2.1 M.1.2.2.1 M.1.2.2.2.1).bind λB=>(nM m B.1.1 B.1.2.1 B.1.2.2.1 B.1.2.2.2.1 I.1.1 I.1.2.1 I.1.2.2.1 I.1.2.2.2.1).bind λC=>(Ba m A.1.1 A.1.2.1 A.1.2.2.1 A.1.2.2.2.1 C.1.1 C.1.2.1 C.1.2.2.1 C.1.2.2.2.1).bind λD=>some ((D.1.1,D.1.2.1,D.1.2.2.1,D.1.2.2.2.1,()),v4)else none else none else none else none else none else none else some ((G.1.1,G.1.2.1,G.1.2.2.1,G.1.2.2.2.1,()),v4)else none else none else none else none else none
def qD:Nat->LI->Int->dA->LI->LI->LI->List LI->LI->Int->dA->LI->LI->LI->List LI->Int->Int->Option ((gV×Bn×gV×Bn×Int×Unit)⊕Empty)
 |0,_,_,_,_,_,_,_,_,_,_,_,_,_,_,_,_=>none
 |n+1,a,b,c,d,f,h,i,j,k,l,o,p,q,r,s,t=>bif decide (t<(j.length:Int))then if 0<=s/\s<(l.length:Int)then if 0<=s/\s<(l.length:Int)then if 0<=t/\t<((l.getD s.toNat ([]:List bE)).length:Int)then (DD m o p q r s t).bind λe=>(Bb m ((l.getD s.toNat ([]:List bE)).getD t.toNat qz).1 ((l.getD s.toNat ([]:List bE)).getD t.toNat qz).2.1.1 ((l.getD s.toNat ([]:List bE)).getD t.toNat qz).2.1.2 ((l.getD s.toNat ([]:List bE)).getD t.toNat qz).2.2 e.1.1 e.1.2.1 e.1.2.2.1 e.1.2.2.2.1).bind λg=>if 0<=t/\t<((l.getD s.toNat ([]:List bE)).length:Int)then qD n a b c d f h i j k (l.set s.toNat ((l.getD s.toNat ([]:List bE)).set t.toNat (g.1.1,((g.1.2.1,g.1.2.2.1),g.1.2.2.2.1)))) o p q r s (wI (t+1))else none else none else none else none else some (.inl ((a,b,c,()),(d,f,h,i,()),(j,k,l,()),(o,p,q,r,()),s,()))
def lQ:Nat->LI->Int->dA->LI->LI->LI->List LI->LI->Int->dA->LI->LI->LI->List LI->Int->Option (tH⊕Empty)
 |0,_,_,_,_,_,_,_,_,_,_,_,_,_,_,_=>none
 |n+1,a,b,c,d,f,h,i,j,k,l,o,p,q,r,s=>bif decide (s<(j.length:Int))then (qD m m a b c d f h i j k l o p q r s 0).bind λx=>match x with
   | .inl g=>lQ n g.1.1 g.1.2.1 g.1.2.2.1 g.2.1.1 g.2.1.2.1 g.2.1.2.2.1 g.2.1.2.2.2.1 g.2.2.1.1 g.2.2.1.2.1 g.2.2.1.2.2.1 g.2.2.2.1.1 g.2.2.2.1.2.1 g.2.2.2.1.2.2.1 g.2.2.2.1.2.2.2.1 (wI (g.2.2.2.2.1+1))
   | .inr e=>e.elim else some (.inl ((a,b,c,()),(d,f,h,i,()),(j,k,l,()),(o,p,q,r,()),()))
def ou:Nat->LI->LI->Int->dA->LI->Int->dA->LI->LI->LI->List LI->LI->Int->dA->LI->LI->LI->List LI->Int->LI->Int->Option (tJ⊕(LI×gV×gV×Bn×gV×Bn×Int×Unit)⊕Empty)
 |0,_,_,_,_,_,_,_,_,_,_,_,_,_,_,_,_,_,_,_,_,_=>none
 |n+1,a,b,c,d,f,h,i,j,k,l,o,p,q,r,s,t,u,v,w,g,e=>bif decide (e<(g.length:Int))then if 0<=e/\e<(g.length:Int)then (oH m (g.getD (0+e.toNat) 0)).bind λx=>bif !x.1 then some (.inl ((p,q,r,()),(s,t,u,v,()),false,()))else if 0<=e/\e<(v.length:Int)then if 0<=e/\e<(g.length:Int)then if(v.getD e.toNat ([]:LI)).length+([g.getD (0+e.toNat) 0]:LI).length<=1073741824 then if 0<=e/\e<(v.length:Int)then if e.toNat=e.toNat then ou n a b c d f h i j k l o p q r s t u (v.set e.toNat ((v.getD e.toNat ([]:LI))++([g.getD (0+e.toNat) 0]:LI))) w g (wI (e+1))else none else none else none else none else none else none else some (.inr (.inl (a,(b,c,d,()),(f,h,i,()),(j,k,l,o,()),(p,q,r,()),(s,t,u,v,()),w,())))
def iq:Nat->LI->LI->Int->dA->LI->Int->dA->LI->LI->LI->List LI->LI->Int->dA->LI->LI->LI->List LI->Int->Option (tJ⊕tH⊕Empty)
 |0,_,_,_,_,_,_,_,_,_,_,_,_,_,_,_,_,_,_,_=>none
 |n+1,a,b,c,d,f,h,i,j,k,l,o,p,q,r,s,t,u,v,w=>bif decide (w<(b.length:Int))then (kc m a w).bind λy=>bif decide (y.1>=0)then iq n a b c d f h i j k l o p q r s t u v (wI (w+1))else (yW m s t u v b c d a w).bind λz=>(ou m m a b c d f h i j k l o p q r s t u v w z.1 0).bind λA=>match A with
    | .inl x=>some (.inl ((x.1.1,x.1.2.1,x.1.2.2.1,()),(x.2.1.1,x.2.1.2.1,x.2.1.2.2.1,x.2.1.2.2.2.1,()),x.2.2.1,()))
    | .inr (.inl g)=>iq n g.1 g.2.1.1 g.2.1.2.1 g.2.1.2.2.1 g.2.2.1.1 g.2.2.1.2.1 g.2.2.1.2.2.1 g.2.2.2.1.1 g.2.2.2.1.2.1 g.2.2.2.1.2.2.1 g.2.2.2.1.2.2.2.1 g.2.2.2.2.1.1 g.2.2.2.2.1.2.1 g.2.2.2.2.1.2.2.1 g.2.2.2.2.2.1.1 g.2.2.2.2.2.1.2.1 g.2.2.2.2.2.1.2.2.1 g.2.2.2.2.2.1.2.2.2.1 (wI (g.2.2.2.2.2.2.1+1))
    | .inr (.inr e)=>e.elim else some (.inr (.inl ((f,h,i,()),(j,k,l,o,()),(p,q,r,()),(s,t,u,v,()),())))
def qE (m:Nat):Nat->LI->LI->Int->dA->LI->Int->dA->LI->LI->LI->List LI->LI->Int->dA->LI->LI->LI->List LI->Int->Option ((LI×gV×gV×Bn×gV×Bn×Unit)⊕Empty)
 |0,_,_,_,_,_,_,_,_,_,_,_,_,_,_,_,_,_,_,_=>none
 |n+1,a,b,c,d,f,h,i,j,k,l,o,p,q,r,s,t,u,v,w=>bif decide (w<(a.length:Int))then if 0<=w/\w<(a.length:Int)then if 0<=(a.getD w.toNat 0)/\(a.getD w.toNat 0)<(b.length:Int)then if s.length+([b.getD (a.getD w.toNat 0).toNat 0]:LI).length<=1073741824 then if 0<([[]]:List LI).length/\v.length+([[]]:List LI).length<=1073741824 then qE m n a b c d f h i j k l o p q r (s++([b.getD (a.getD w.toNat 0).toNat 0]:LI)) t u (v++([[]]:List LI)) (wI (w+1))else none else none else none else none else some (.inl (a,(b,c,d,()),(f,h,i,()),(j,k,l,o,()),(p,q,r,()),(s,t,u,v,()),()))
def On (a:LI) (b:Int) (c:List cW) (d:LI):Option (tJ×Unit×Unit×Unit):=(DG m a b c d).bind λD=>(qE m m d a b c ([]:LI) 0 ([]:List cW) ([]:LI) ([]:LI) ([]:LI) ([]:List LI) D.1.1 D.1.2.1 D.1.2.2.1 ([]:LI) ([]:LI) D.1.1 ([]:List LI) 0).bind λK=>match K with
 | .inl g=>if(0:Int)<=0/\0<(g.1.length:Int)then if 0<=(g.1.getD 0 0)/\(g.1.getD 0 0)<(g.2.1.2.2.1.length:Int)then if(0:Int)<=0/\0<(g.1.length:Int)then if 0<=(g.1.getD 0 0)/\(g.1.getD 0 0)<((g.2.1.2.2.1.getD (g.1.getD 0 0).toNat ([]:List bE)).length:Int)then (v5 m ((g.2.1.2.2.1.getD (g.1.getD 0 0).toNat ([]:List bE)).getD (g.1.getD 0 0).toNat qz).1 ((g.2.1.2.2.1.getD (g.1.getD 0 0).toNat ([]:List bE)).getD (g.1.getD 0 0).toNat qz).2.1.1 ((g.2.1.2.2.1.getD (g.1.getD 0 0).toNat ([]:List bE)).getD (g.1.getD 0 0).toNat qz).2.1.2 ((g.2.1.2.2.1.getD (g.1.getD 0 0).toNat ([]:List bE)).getD (g.1.getD 0 0).toNat qz).2.2).bind λE=>bif (g.1.length:Int)==2 then if(0:Int)<=1/\1<(g.1.length:Int)then if 0<=(g.1.getD 1 0)/\(g.1.getD 1 0)<(g.2.1.2.2.1.length:Int)then if(0:Int)<=0/\0<(g.1.length:Int)then if 0<=(g.1.getD 0 0)/\(g.1.getD 0 0)<((g.2.1.2.2.1.getD (g.1.getD 1 0).toNat ([]:List bE)).length:Int)then (v5 m ((g.2.1.2.2.1.getD (g.1.getD 1 0).toNat ([]:List bE)).getD (g.1.getD 0 0).toNat qz).1 ((g.2.1.2.2.1.getD (g.1.getD 1 0).toNat ([]:List bE)).getD (g.1.getD 0 0).toNat qz).2.1.1 ((g.2.1.2.2.1.getD (g.1.getD 1 0).toNat ([]:List bE)).getD (g.1.getD 0 0).toNat qz).2.1.2 ((g.2.1.2.2.1.getD (g.1.getD 1 0).toNat ([]:List bE)).getD (g.1.getD 0 0).toNat qz).2.2).bind λI=>if(0:Int)<=1/\1<(g.1.length:Int)then if 0<=(g.1.getD 1 0)/\(g.1.getD 1 0)<(g.2.1.2.2.1.length:Int)then if(0:Int)<=1/\1<(g.1.length:Int)then if 0<=(g.1.getD 1 0)/\(g.1.getD 1 0)<((g.2.1.2.2.1.getD (g.1.getD 1 0).toNat ([]:List bE)).length:Int)then (v5 m ((g.2.1.2.2.1.getD (g.1.getD 1 0).toNat ([]:List bE)).getD (g.1.getD 1 0).toNat qz).1 ((g.2.1.2.2.1.getD (g.1.getD 1 0).toNat ([]:List bE)).getD (g.1.getD 1 0).toNat qz).2.1.1 ((g.2.1.2.2.1.getD (g.1.getD 1 0).toNat ([]:List bE)).getD (g.1.getD 1 0).toNat qz).2.1.2 ((g.2.1.2.2.1.getD (g.1.getD 1 0).toNat ([]:List bE)).getD (g.1.getD 1 0).toNat qz).2.2).bind λJ=>if([E.1]:LI).length+([I.1,J.1]:LI).length<=1073741824 then (iq m m g.1 g.2.1.1 g.2.1.2.1 g.2.1.2.2.1 g.2.2.1.1 g.2.2.1.2.1 g.2.2.1.2.2.1 g.2.2.2.1.1 g.2.2.2.1.2.1 g.2.2.2.1.2.2.1 g.2.2.2.1.2.2.2.1 g.2.2.2.2.1.1 g.2.2.2.2.1.2.1 g.2.2.2.2.1.2.2.1 g.2.2.2.2.2.1.1 (([E.1]:LI)++([I.1,J.1]:LI)) g.2.2.2.2.2.1.2.2.1 g.2.2.2.2.2.1.2.2.2.1 0).bind λL=>match L with
   | .inl C=>some (((C.1.1,C.1.2.1,C.1.2.2.1,()),(C.2.1.1,C.2.1.2.1,C.2.1.2.2.1,C.2.1.2.2.2.1,()),C.2.2.1,()),ul)
   | .inr (.inl B)=>(lQ m m B.1.1 B.1.2.1 B.1.2.2.1 B.2.1.1 B.2.1.2.1 B.2.1.2.2.1 B.2.1.2.2.2.1 B.2.2.1.1 B.2.2.1.2.1 B.2.2.1.2.2.1 B.2.2.2.1.1 B.2.2.2.1.2.1 B.2.2.2.1.2.2.1 B.2.2.2.1.2.2.2.1 0).bind λF=>match F with
    | .inl z=>some (((z.2.2.1.1,z.2.2.1.2.1,z.2.2.1.2.2.1,()),(z.2.2.2.1.1,z.2.2.2.1.2.1,z.2.2.2.1.2.2.1,z.2.2.2.1.2.2.2.1,()),true,()),ul)
    | .inr e=>e.elim
   | .inr (.inr e)=>e.elim else none else none else none else none else none else none else none else none else none else (iq m m g.1 g.2.1.1 g.2.1.2.1 g.2.1.2.2.1 g.2.2.1.1 g.2.2.1.2.1 g.2.2.1.2.2.1 g.2.2.2.1.1 g.2.2.2.1.2.1 g.2.2.2.1.2.2.1 g.2.2.2.1.2.2.2.1 g.2.2.2.2.1.1 g.2.2.2.2.1.2.1 g.2.2.2.2.1.2.2.1 g.2.2.2.2.2.1.1 ([E.1]:LI) g.2.2.2.2.2.1.2.2.1 g.2.2.2.2.2.1.2.2.2.1 0).bind λG=>match G with
   | .inl y=>some (((y.1.1,y.1.2.1,y.1.2.2.1,()),(y.2.1.1,y.2.1.2.1,y.2.1.2.2.1,y.2.1.2.2.2.1,()),y.2.2.1,()),ul)
   | .inr (.inl x)=>(lQ m m x.1.1 x.1.2.1 x.1.2.2.1 x.2.1.1 x.2.1.2.1 x.2.1.2.2.1 x.2.1.2.2.2.1 x.2.2.1.1 x.2.2.1.2.1 x.2.2.1.2.2.1 x.2.2.2.1.1 x.2.2.2.1.2.1 x.2.2.2.1.2.2.1 x.2.2.2.1.2.2.2.1 0).bind λH=>match H with
    | .inl A=>some (((A.2.2.1.1,A.2.2.1.2.1,A.2.2.1.2.2.1,()),(A.2.2.2.1.1,A.2.2.2.1.2.1,A.2.2.2.1.2.2.1,A.2.2.2.1.2.2.2.1,()),true,()),ul)
    | .inr e=>e.elim
   | .inr (.inr e)=>e.elim else none else none else none else none
 | .inr e=>e.elim
def qt (m:Nat):Nat->sV->LI->LI->LI->LI->LI->LI->Int->LI->LI->LI->LI->LI->LI->LI->Int->Int->Int->LI->LI->Int->Int->Int->Option ((sV×gL×LI×gL×Int×Int×LI×LI×Int×Int×Int×Unit)⊕Empty)
 |0,_,_,_,_,_,_,_,_,_,_,_,_,_,_,_,_,_,_,_,_,_,_,_=>none
 |n+1,a,b,c,d,f,h,i,j,k,l,o,p,q,r,s,t,u,v,w,x,y,g,e=>bif decide (e<(w.length:Int))then if 0<=e/\e<(w.length:Int)then bif decide ((w.getD (0+e.toNat) 0)<g)then qt m n a b c d f h i j k l o p q r s t u v w x y g (wI (e+1))else some (.inl (a,(b,c,d,f,h,i,j,()),k,(l,o,p,q,r,s,t,()),u,v,w,x,y,g,e,()))else none else some (.inl (a,(b,c,d,f,h,i,j,()),k,(l,o,p,q,r,s,t,()),u,v,w,x,y,g,e,()))
def qu:Nat->sV->LI->LI->LI->LI->LI->LI->Int->LI->LI->LI->LI->LI->LI->LI->Int->Int->Int->LI->LI->Int->Option ((sV×gL×LI×gL×Int×Int×LI×LI×Unit)⊕Empty)
 |0,_,_,_,_,_,_,_,_,_,_,_,_,_,_,_,_,_,_,_,_,_=>none
 |n+1,a,b,c,d,f,h,i,j,k,l,o,p,q,r,s,t,u,v,w,y,x=>if 0<=u/\u<(a.length:Int)then bif decide (x<((a.getD u.toNat ([],([],([],([]:List LI))))).2.2.1.length:Int))then if 0<=u/\u<(a.length:Int)then if 0<=x/\x<((a.getD u.toNat ([],([],([],([]:List LI))))).2.2.1.length:Int)then if 0<=((a.getD u.toNat ([],([],([],([]:List LI))))).2.2.1.getD x.toNat 0)/\((a.getD u.toNat ([],([],([],([]:List LI))))).2.2.1.getD x.toNat 0)<(k.length:Int)then (qt m m a b c d f h i j k l o p q r s t u v w y x (k.getD (0+((a.getD u.toNat ([],([],([],([]:List LI))))).2.2.1.getD x.toNat 0).toNat) 0) 0).bind λz=>match z with
   | .inl g=>if(0:Int)<=0/\0<=g.2.2.2.2.2.2.2.2.2.2.1/\g.2.2.2.2.2.2.2.2.2.2.1<=(g.2.2.2.2.2.2.1.length:Int)then if([]:LI).length+((g.2.2.2.2.2.2.1.drop 0).take (g.2.2.2.2.2.2.2.2.2.2.1.toNat-0)).length<=1073741824 then if(([]:LI)++((g.2.2.2.2.2.2.1.drop 0).take (g.2.2.2.2.2.2.2.2.2.2.1.toNat-0))).length+([g.2.2.2.2.2.2.2.2.2.1]:LI).length<=1073741824 then if 0<=g.2.2.2.2.2.2.2.2.2.2.1/\g.2.2.2.2.2.2.2.2.2.2.1<=(g.2.2.2.2.2.2.1.length:Int)/\(g.2.2.2.2.2.2.1.length:Int)<=(g.2.2.2.2.2.2.1.length:Int)then if((([]:LI)++((g.2.2.2.2.2.2.1.drop 0).take (g.2.2.2.2.2.2.2.2.2.2.1.toNat-0)))++([g.2.2.2.2.2.2.2.2.2.1]:LI)).length+((g.2.2.2.2.2.2.1.drop (0+g.2.2.2.2.2.2.2.2.2.2.1.toNat)).take (g.2.2.2.2.2.2.1.length-g.2.2.2.2.2.2.2.2.2.2.1.toNat)).length<=1073741824 then if(0:Int)<=0/\0<=g.2.2.2.2.2.2.2.2.2.2.1/\g.2.2.2.2.2.2.2.2.2.2.1<=(g.2.2.2.2.2.2.2.1.length:Int)then if([]:LI).length+((g.2.2.2.2.2.2.2.1.drop 0).take (g.2.2.2.2.2.2.2.2.2.2.1.toNat-0)).length<=1073741824 then if 0<=g.2.2.2.2.1/\g.2.2.2.2.1<(g.1.length:Int)then if 0<=g.2.2.2.2.2.1/\g.2.2.2.2.2.1<((g.1.getD g.2.2.2.2.1.toNat ([],([],([],([]:List LI))))).2.2.2.length:Int)then if 0<=g.2.2.2.2.2.2.2.2.1/\g.2.2.2.2.2.2.2.2.1<(((g.1.getD g.2.2.2.2.1.toNat ([],([],([],([]:List LI))))).2.2.2.getD g.2.2.2.2.2.1.toNat ([]:LI)).length:Int)then if(([]:LI)++((g.2.2.2.2.2.2.2.1.drop 0).take (g.2.2.2.2.2.2.2.2.2.2.1.toNat-0))).length+([((g.1.getD g.2.2.2.2.1.toNat ([],([],([],([]:List LI))))).2.2.2.getD g.2.2.2.2.2.1.toNat ([]:LI)).getD g.2.2.2.2.2.2.2.2.1.toNat 0]:LI).length<=1073741824 then if 0<=g.2.2.2.2.2.2.2.2.2.2.1/\g.2.2.2.2.2.2.2.2.2.2.1<=(g.2.2.2.2.2.2.2.1.length:Int)/\(g.2.2.2.2.2.2.2.1.length:Int)<=(g.2.2.2.2.2.2.2.1.length:Int)then if((([]:LI)++((g.2.2.2.2.2.2.2.1.drop 0).take (g.2.2.2.2.2.2.2.2.2.2.1.toNat-0)))++([((g.1.getD g.2.2.2.2.1.toNat ([],([],([],([]:List LI))))).2.2.2.getD g.2.2.2.2.2.1.toNat ([]:LI)).getD g.2.2.2.2.2.2.2.2.1.toNat 0]:LI)).length+((g.2.2.2.2.2.2.2.1.drop (0+g.2.2.2.2.2.2.2.2.2.2.1.toNat)).take (g.2.2.2.2.2.2.2.1.length-g.2.2.2.2.2.2.2.2.2.2.1.toNat)).length<=1073741824 then qu n g.1 g.2.1.1 g.2.1.2.1 g.2.1.2.2.1 g.2.1.2.2.2.1 g.2.1.2.2.2.2.1 g.2.1.2.2.2.2.2.1 g.2.1.2.2.2.2.2.2.1 g.2.2.1 g.2.2.2.1.1 g.2.2.2.1.2.1 g.2.2.2.1.2.2.1 g.2.2.2.1.2.2.2.1 g.2.2.2.1.2.2.2.2.1 g.2.2.2.1.2.2.2.2.2.1 g.2.2.2.1.2.2.2.2.2.2.1 g.2.2.2.2.1 g.2.2.2.2.2.1 (((([]:LI)++((g.2.2.2.2.2.2.1.drop 0).take (g.2.2.2.2.2.2.2.2.2.2.1.toNat-0)))++([g.2.2.2.2.2.2.2.2.2.1]:LI))++((g.2.2.2.2.2.2.1.drop (0+g.2.2.2.2.2.2.2.2.2.2.1.toNat)).take (g.2.2.2.2.2.2.1.length-g.2.2.2.2.2.2.2.2.2.2.1.toNat))) (((([]:LI)++((g.2.2.2.2.2.2.2.1.drop 0).take (g.2.2.2.2.2.2.2.2.2.2.1.toNat-0)))++([((g.1.getD g.2.2.2.2.1.toNat ([],([],([],([]:List LI))))).2.2.2.getD g.2.2.2.2.2.1.toNat ([]:LI)).getD g.2.2.2.2.2.2.2.2.1.toNat 0]:LI))++((g.2.2.2.2.2.2.2.1.drop (0+g.2.2.2.2.2.2.2.2.2.2.1.toNat)).take (g.2.2.2.2.2.2.2.1.length-g.2.2.2.2.2.2.2.2.2.2.1.toNat))) (wI (g.2.2.2.2.2.2.2.2.1+1))else none else none else none else none else none else none else none else none else none else none else none else none else none
   | .inr e=>e.elim else none else none else none else some (.inl (a,(b,c,d,f,h,i,j,()),k,(l,o,p,q,r,s,t,()),u,v,w,y,()))else none
def qv:Nat->sV->LI->LI->LI->LI->LI->LI->Int->LI->LI->LI->LI->LI->LI->LI->Int->Int->Int->Option ((sV×gL×LI×gL×Int×Unit)⊕Empty)
 |0,_,_,_,_,_,_,_,_,_,_,_,_,_,_,_,_,_,_=>none
 |n+1,a,b,c,d,f,h,i,j,k,l,o,p,q,r,s,t,u,v=>if 0<=u/\u<(a.length:Int)then bif decide (v<((a.getD u.toNat ([],([],([],([]:List LI))))).1.length:Int))then (qu m m a b c d f h i j k l o p q r s t u v ([]:LI) ([]:LI) 0).bind λx=>match x with
   | .inl g=>if g.2.2.2.1.2.2.2.2.1.length+g.2.2.2.2.2.2.1.length<=1073741824 then if g.2.2.2.1.2.2.2.2.2.1.length+g.2.2.2.2.2.2.2.1.length<=1073741824 then if g.2.2.2.1.2.2.2.1.length+([((g.2.2.2.1.2.2.2.2.1++g.2.2.2.2.2.2.1).length:Int)]:LI).length<=1073741824 then qv n g.1 g.2.1.1 g.2.1.2.1 g.2.1.2.2.1 g.2.1.2.2.2.1 g.2.1.2.2.2.2.1 g.2.1.2.2.2.2.2.1 g.2.1.2.2.2.2.2.2.1 g.2.2.1 g.2.2.2.1.1 g.2.2.2.1.2.1 g.2.2.2.1.2.2.1 (g.2.2.2.1.2.2.2.1++([((g.2.2.2.1.2.2.2.2.1++g.2.2.2.2.2.2.1).length:Int)]:LI)) (g.2.2.2.1.2.2.2.2.1++g.2.2.2.2.2.2.1) (g.2.2.2.1.2.2.2.2.2.1++g.2.2.2.2.2.2.2.1) g.2.2.2.1.2.2.2.2.2.2.1 g.2.2.2.2.1 (wI (g.2.2.2.2.2.1+1))else none else none else none
   | .inr e=>e.elim else some (.inl (a,(b,c,d,f,h,i,j,()),k,(l,o,p,q,r,s,t,()),u,()))else none
def qA:Nat->sV->LI->LI->LI->LI->LI->LI->Int->LI->LI->LI->LI->LI->LI->LI->Int->Int->Option ((gL×gL×Unit)⊕Empty)
 |0,_,_,_,_,_,_,_,_,_,_,_,_,_,_,_,_,_=>none
 |n+1,a,b,c,d,f,h,i,j,k,l,o,p,q,r,s,t,u=>bif decide (u<(a.length:Int))then (qv m m a b c d f h i j k l o p q r s t u 0).bind λx=>match x with
   | .inl g=>qA n g.1 g.2.1.1 g.2.1.2.1 g.2.1.2.2.1 g.2.1.2.2.2.1 g.2.1.2.2.2.2.1 g.2.1.2.2.2.2.2.1 g.2.1.2.2.2.2.2.2.1 g.2.2.1 g.2.2.2.1.1 g.2.2.2.1.2.1 g.2.2.2.1.2.2.1 g.2.2.2.1.2.2.2.1 g.2.2.2.1.2.2.2.2.1 g.2.2.2.1.2.2.2.2.2.1 g.2.2.2.1.2.2.2.2.2.2.1 (wI (g.2.2.2.2.1+1))
   | .inr e=>e.elim else some (.inl ((b,c,d,f,h,i,j,()),(l,o,p,q,r,s,t,()),()))
def qB (m:Nat):Nat->LI->sV->LI->LI->LI->LI->LI->LI->Int->LI->LI->LI->LI->LI->LI->LI->Int->Int->Int->Option ((LI×sV×gL×LI×gL×Int×Unit)⊕Empty)
 |0,_,_,_,_,_,_,_,_,_,_,_,_,_,_,_,_,_,_,_=>none
 |n+1,a,b,c,d,f,h,i,j,k,l,o,p,q,r,s,t,u,v,w=>if 0<=v/\v<(b.length:Int)then bif decide (w<((b.getD v.toNat ([],([],([],([]:List LI))))).1.length:Int))then if 0<=v/\v<(b.length:Int)then if 0<=w/\w<((b.getD v.toNat ([],([],([],([]:List LI))))).1.length:Int)then if 0<=((b.getD v.toNat ([],([],([],([]:List LI))))).1.getD w.toNat 0)/\((b.getD v.toNat ([],([],([],([]:List LI))))).1.getD w.toNat 0)<(l.length:Int)then if 0<=v/\v<(b.length:Int)then if 0<=w/\w<((b.getD v.toNat ([],([],([],([]:List LI))))).1.length:Int)then if 0<=((b.getD v.toNat ([],([],([],([]:List LI))))).1.getD w.toNat 0)/\((b.getD v.toNat ([],([],([],([]:List LI))))).1.getD w.toNat 0)<(a.length:Int)then if o.length+([a.getD ((b.getD v.toNat ([],([],([],([]:List LI))))).1.getD w.toNat 0).toNat 0]:LI).length<=1073741824 then qB m n a b c d f h i j k (l.set (0+((b.getD v.toNat ([],([],([],([]:List LI))))).1.getD w.toNat 0).toNat) (o.length:Int)) (o++([a.getD ((b.getD v.toNat ([],([],([],([]:List LI))))).1.getD w.toNat 0).toNat 0]:LI)) p q r s t u v (wI (w+1))else none else none else none else none else none else none else none else some (.inl (a,b,(c,d,f,h,i,j,k,()),l,(o,p,q,r,s,t,u,()),v,()))else none
def qC:Nat->LI->sV->LI->LI->LI->LI->LI->LI->Int->LI->LI->LI->LI->LI->LI->LI->Int->Int->Option ((sV×gL×LI×gL×Unit)⊕Empty)
 |0,_,_,_,_,_,_,_,_,_,_,_,_,_,_,_,_,_,_=>none
 |n+1,a,b,c,d,f,h,i,j,k,l,o,p,q,r,s,t,u,v=>bif decide (v<(b.length:Int))then (qB m m a b c d f h i j k l o p q r s t u v 0).bind λx=>match x with
   | .inl g=>if 0<=g.2.2.2.2.2.1/\g.2.2.2.2.2.1<(g.2.1.length:Int)then if g.2.2.2.2.1.2.1.length+([((g.2.1.getD g.2.2.2.2.2.1.toNat ([],([],([],([]:List LI))))).1.length:Int)]:LI).length<=1073741824 then if 0<=g.2.2.2.2.2.1/\g.2.2.2.2.2.1<(g.2.1.length:Int)then if g.2.2.2.2.1.2.2.1.length+(g.2.1.getD g.2.2.2.2.2.1.toNat ([],([],([],([]:List LI))))).2.1.length<=1073741824 then qC n g.1 g.2.1 g.2.2.1.1 g.2.2.1.2.1 g.2.2.1.2.2.1 g.2.2.1.2.2.2.1 g.2.2.1.2.2.2.2.1 g.2.2.1.2.2.2.2.2.1 g.2.2.1.2.2.2.2.2.2.1 g.2.2.2.1 g.2.2.2.2.1.1 (g.2.2.2.2.1.2.1++([((g.2.1.getD g.2.2.2.2.2.1.toNat ([],([],([],([]:List LI))))).1.length:Int)]:LI)) (g.2.2.2.2.1.2.2.1++(g.2.1.getD g.2.2.2.2.2.1.toNat ([],([],([],([]:List LI))))).2.1) g.2.2.2.2.1.2.2.2.1 g.2.2.2.2.1.2.2.2.2.1 g.2.2.2.2.1.2.2.2.2.2.1 g.2.2.2.2.1.2.2.2.2.2.2.1 (wI (g.2.2.2.2.2.1+1))else none else none else none else none
   | .inr e=>e.elim else some (.inl (b,(c,d,f,h,i,j,k,()),l,(o,p,q,r,s,t,u,()),()))
def TS (a:LI) (b:List xr) (c:Int):Option (gL×Unit×Unit×Unit×Unit):=if 0<=(a.length:Int)/\(a.length:Int)<=(a.length:Int)/\(a.length:Int)<=1073741824 then (qC m m a b ([]:LI) ([]:LI) ([]:LI) ([]:LI) ([]:LI) ([]:LI) 0 (List.replicate (a.length:Int).toNat (0:Int)) ([]:LI) ([]:LI) ([]:LI) ([0]:LI) ([]:LI) ([]:LI) c 0).bind λy=>match y with
 | .inl g=>(qA m m g.1 g.2.1.1 g.2.1.2.1 g.2.1.2.2.1 g.2.1.2.2.2.1 g.2.1.2.2.2.2.1 g.2.1.2.2.2.2.2.1 g.2.1.2.2.2.2.2.2.1 g.2.2.1 g.2.2.2.1.1 g.2.2.2.1.2.1 g.2.2.2.1.2.2.1 g.2.2.2.1.2.2.2.1 g.2.2.2.1.2.2.2.2.1 g.2.2.2.1.2.2.2.2.2.1 g.2.2.2.1.2.2.2.2.2.2.1 0).bind λz=>match z with
  | .inl x=>some ((x.2.1.1,x.2.1.2.1,x.2.1.2.2.1,x.2.1.2.2.2.1,x.2.1.2.2.2.2.1,x.2.1.2.2.2.2.2.1,x.2.1.2.2.2.2.2.2.1,()),v4)
  | .inr e=>e.elim
 | .inr e=>e.elim else none
def iu:Nat->LI->fQ->Int->Int->LI->LI->LI->LI->LI->LI->LI->LI->LI->Int->pC->sV->Int->Bool->Int->LI->Int->dA->Option ((LI×fQ×lx×gL×pC×sV×Int×Bool×Int×gV×Unit)⊕Empty)
 |0,_,_,_,_,_,_,_,_,_,_,_,_,_,_,_,_,_,_,_,_,_,_=>none
 |n+1,a,b,c,d,f,h,i,j,k,l,o,p,q,r,s,t,u,v,w,x,y,z=>bif !v then (TU m x y z).bind λA=>bif !A.1.2.1 then bif (A.1.1.length:Int)==0 then some (.inl (a,b,(c,d,f,h,i,()),(j,k,l,o,p,q,r,()),s,t,u,true,w,(x,y,z,()),()))else (On m x y z A.1.1).bind λe=>bif !e.1.2.2.1 then if t.length+([(e.1.2.1.1,(e.1.2.1.2.1,(e.1.2.1.2.2.1,e.1.2.1.2.2.2.1)))]:List xr).length<=1073741824 then iu n a b c d f h i j k l o p q r s (t++([(e.1.2.1.1,(e.1.2.1.2.1,(e.1.2.1.2.2.1,e.1.2.1.2.2.2.1)))]:List xr)) u true w e.1.1.1 e.1.1.2.1 e.1.1.2.2.1 else none else if t.length+([(e.1.2.1.1,(e.1.2.1.2.1,(e.1.2.1.2.2.1,e.1.2.1.2.2.2.1)))]:List xr).length<=1073741824 then iu n a b c d f h i j k l o p q r s (t++([(e.1.2.1.1,(e.1.2.1.2.1,(e.1.2.1.2.2.1,e.1.2.1.2.2.2.1)))]:List xr)) u true w e.1.1.1 e.1.1.2.1 e.1.1.2.2.1 else none else bif (A.1.1.length:Int)==0 then some (.inl (a,b,(c,d,f,h,i,()),(j,k,l,o,p,q,r,()),s,t,u,v,w,(x,y,z,()),()))else (On m x y z A.1.1).bind λg=>bif !g.1.2.2.1 then if t.length+([(g.1.2.1.1,(g.1.2.1.2.1,(g.1.2.1.2.2.1,g.1.2.1.2.2.2.1)))]:List xr).length<=1073741824 then iu n a b c d f h i j k l o p q r s (t++([(g.1.2.1.1,(g.1.2.1.2.1,(g.1.2.1.2.2.1,g.1.2.1.2.2.2.1)))]:List xr)) u true w g.1.1.1 g.1.1.2.1 g.1.1.2.2.1 else none else if t.length+([(g.1.2.1.1,(g.1.2.1.2.1,(g.1.2.1.2.2.1,g.1.2.1.2.2.2.1)))]:List xr).length<=1073741824 then iu n a b c d f h i j k l o p q r s (t++([(g.1.2.1.1,(g.1.2.1.2.1,(g.1.2.1.2.2.1,g.1.2.1.2.2.2.1)))]:List xr)) u v w g.1.1.1 g.1.1.2.1 g.1.1.2.2.1 else none else some (.inl (a,b,(c,d,f,h,i,()),(j,k,l,o,p,q,r,()),s,t,u,v,w,(x,y,z,()),()))
def oJ:Nat->LI->fQ->Int->Int->LI->LI->LI->LI->LI->LI->LI->LI->LI->Int->pC->sV->Int->Bool->Int->Option (YL⊕(LI×gL×sV×Int×Unit)⊕Empty)
 |0,_,_,_,_,_,_,_,_,_,_,_,_,_,_,_,_,_,_,_=>none
 |n+1,a,b,c,d,f,h,i,j,k,l,o,p,q,r,s,t,u,v,w=>bif decide (w<(b.length:Int))then (TV m c d f h i a b w s).bind λx=>bif decide ((x.1.1.length:Int)>64)then some (.inl (([],[],[],[],[],[],0,()),6,()))else (iu m m a b c d f h i j k l o p q r x.2.2.2.2.2.1 t u v w x.1.1 x.1.2.1 x.1.2.2.1).bind λy=>match y with
    | .inl g=>bif g.2.2.2.2.2.2.2.1 then some (.inl (([],[],[],[],[],[],0,()),233,()))else if g.2.2.2.2.1.length+([(g.2.2.2.2.2.2.2.2.2.1.1,(g.2.2.2.2.2.2.2.2.2.1.2.1,g.2.2.2.2.2.2.2.2.2.1.2.2.1))]:List MX).length<=1073741824 then oJ n g.1 g.2.1 g.2.2.1.1 g.2.2.1.2.1 g.2.2.1.2.2.1 g.2.2.1.2.2.2.1 g.2.2.1.2.2.2.2.1 g.2.2.2.1.1 g.2.2.2.1.2.1 g.2.2.2.1.2.2.1 g.2.2.2.1.2.2.2.1 g.2.2.2.1.2.2.2.2.1 g.2.2.2.1.2.2.2.2.2.1 g.2.2.2.1.2.2.2.2.2.2.1 (g.2.2.2.2.1++([(g.2.2.2.2.2.2.2.2.2.1.1,(g.2.2.2.2.2.2.2.2.2.1.2.1,g.2.2.2.2.2.2.2.2.2.1.2.2.1))]:List MX)) g.2.2.2.2.2.1 (wI (g.2.2.2.2.2.2.1+g.2.2.2.2.2.2.2.2.2.1.2.1)) g.2.2.2.2.2.2.2.1 (wI (g.2.2.2.2.2.2.2.2.1+1))else none
    | .inr e=>e.elim else some (.inr (.inl (a,(j,k,l,o,p,q,r,()),t,u,())))
def Mt (a:Int) (b:Int) (c:LI) (d:LI) (f:LI) (h:LI) (i:List fU):Option (YL×Unit×Unit×Unit×Unit):=(JU m a b c d f h i).bind λz=>bif z.1 !=0 then some ((([],[],[],[],[],[],0,()),z.1,()),v4)else (oJ m m h i a b c d f ([]:LI) ([]:LI) ([]:LI) ([]:LI) ([]:LI) ([]:LI) 0 ([]:List MX) ([]:List xr) 0 false 0).bind λA=>match A with
  | .inl g=>some (((g.1.1,g.1.2.1,g.1.2.2.1,g.1.2.2.2.1,g.1.2.2.2.2.1,g.1.2.2.2.2.2.1,g.1.2.2.2.2.2.2.1,()),g.2.1,()),v4)
  | .inr (.inl y)=>(TS m y.1 y.2.2.1 y.2.2.2.1).bind λx=>some (((x.1.1,x.1.2.1,x.1.2.2.1,x.1.2.2.2.1,x.1.2.2.2.2.1,x.1.2.2.2.2.2.1,x.1.2.2.2.2.2.2.1,()),0,()),v4)
  | .inr (.inr e)=>e.elim
def rI:Nat->LI->Int->Int->Int->LI->Int->Option pE
 |0,_,_,_,_,_,_=>none
 |n+1,a,b,c,d,f,h=>bif decide (h<c)then (Ch m a (wI (b+h))).bind λg=>(OI m g.1 d).bind λe=>if f.length+([e.1]:LI).length<=1073741824 then rI n a b c d (f++([e.1]:LI)) (wI (h+1))else none else some (.inl (f,()))
def Lf (a:LI) (b:Int) (c:Int) (d:Int):Option YG:=(rI m m a b c d ([]:LI) 0).bind λg=>match g with
 | .inl x=>some (x.1,wr)
 | .inr e=>e.elim
def cF (a:LI) (b:Int) (c:Int) (d:Bool):Option ((gL×LI×Unit)×Unit×Unit×Unit×Unit×Unit):=(wW m b 5).bind λz=>(O2 m a z.1 z.1 c).bind λg=>bif d then (T5 m a z.1 c).bind λx=>(Pz m a z.1).bind λB=>(KF m x.1.1 x.1.2.1 x.1.2.2.1 x.1.2.2.2.1 x.1.2.2.2.2.1 B.1 a).bind λD=>(Mt m x.1.1 x.1.2.1 x.1.2.2.1 x.1.2.2.2.1 x.1.2.2.2.2.1 B.1 D.1).bind λy=>(Lf m a 30 (y.1.1.1.length:Int) c).bind λE=>some (((y.1.1.1,y.1.1.2.1,y.1.1.2.2.1,y.1.1.2.2.2.1,y.1.1.2.2.2.2.1,y.1.1.2.2.2.2.2.1,y.1.1.2.2.2.2.2.2.1,()),E.1,()),wr)else (Pz m a z.1).bind λC=>(KF m g.1.1 g.1.2.1 g.1.2.2.1 g.1.2.2.2.1 g.1.2.2.2.2.1 C.1 a).bind λF=>(Mt m g.1.1 g.1.2.1 g.1.2.2.1 g.1.2.2.2.1 g.1.2.2.2.2.1 C.1 F.1).bind λe=>(Lf m a 30 (e.1.1.1.length:Int) c).bind λA=>some (((e.1.1.1,e.1.1.2.1,e.1.1.2.2.1,e.1.1.2.2.2.1,e.1.1.2.2.2.2.1,e.1.1.2.2.2.2.2.1,e.1.1.2.2.2.2.2.2.1,()),A.1,()),wr)
def jY (m:Nat):Nat->LI->List Bool->LI->Int->Int->Option sT
 |0,_,_,_,_,_=>none
 |n+1,a,b,c,d,f=>bif decide (f<d)then if 0<=f/\f<(c.length:Int)then bif decide ((c.getD f.toNat 0)<0)then some (.inl (false,()))else bif decide ((c.getD f.toNat 0)>=(a.length:Int))then some (.inl (false,()))else if 0<=(c.getD f.toNat 0)/\(c.getD f.toNat 0)<(b.length:Int)then bif b.getD (0+(c.getD f.toNat 0).toNat) false then some (.inl (false,()))else if 0<=(c.getD f.toNat 0)/\(c.getD f.toNat 0)<(b.length:Int)then jY m n a (b.set (0+(c.getD f.toNat 0).toNat) true) c d (wI (f+1))else none else none else none else some (.inr (.inl ()))
def Dh (a:LI):Option pD:=if 0<=(a.length:Int)/\(a.length:Int)<=(a.length:Int)/\(a.length:Int)<=1073741824 then (jY m m a (List.replicate (a.length:Int).toNat false) a (a.length:Int) 0).bind λg=>match g with
 | .inl x=>some (x.1,ut)
 | .inr (.inl y)=>some (true,ut)
 | .inr (.inr e)=>e.elim else none
def gp (m:Nat):Nat->LI->LI->LI->LI->LI->LI->Int->LI->Int->Int->LI->Int->Int->Option (IS⊕(gL×LI×Int×Int×Unit)⊕Empty)
 |0,_,_,_,_,_,_,_,_,_,_,_,_,_=>none
 |n+1,a,b,c,d,f,h,i,j,k,l,o,p,q=>bif decide (q<p)then if 0<=q/\q<(o.length:Int)then bif (o.getD q.toNat 0) !=1 then bif (o.getD q.toNat 0) !=2 then some (.inl ([],false,()))else bif decide (k>=(a.length:Int))then some (.inl ([],false,()))else if j.length+([k]:LI).length<=1073741824 then gp m n a b c d f h i (j++([k]:LI)) (wI (k+(o.getD q.toNat 0))) (wI (l+(wI ((wI (2*(o.getD q.toNat 0)))-1)))) o p (wI (q+1))else none else bif decide (k>=(a.length:Int))then some (.inl ([],false,()))else if j.length+([k]:LI).length<=1073741824 then gp m n a b c d f h i (j++([k]:LI)) (wI (k+(o.getD q.toNat 0))) (wI (l+(wI ((wI (2*(o.getD q.toNat 0)))-1)))) o p (wI (q+1))else none else none else some (.inr (.inl ((a,b,c,d,f,h,i,()),j,k,l,())))
def Df (a:LI) (b:LI) (c:LI) (d:LI) (f:LI) (h:LI) (i:Int):Option (IS×Unit×Unit):=(gp m m a b c d f h i ([]:LI) 0 0 b (b.length:Int) 0).bind λy=>match y with
 | .inl x=>some ((x.1,x.2.1,()),ut)
 | .inr (.inl g)=>bif g.2.2.1==(g.1.1.length:Int)then some ((g.2.1,g.2.2.2.1==(g.1.2.2.1.length:Int),()),ut)else some ((g.2.1,false,()),ut)
 | .inr (.inr e)=>e.elim
def mF (m:Nat):Nat->LI->LI->LI->LI->LI->LI->Int->Int->Int->Int->Int->LI->Int->Int->LI->Int->Int->Option (IR⊕(gL×Int×Int×Int×LI×Int×Int×Unit)⊕Empty)
 |0,_,_,_,_,_,_,_,_,_,_,_,_,_,_,_,_,_=>none
 |n+1,a,b,c,d,f,h,i,j,k,l,o,p,q,r,s,t,u=>bif decide (u<t)then if 0<=u/\u<(s.length:Int)then bif decide ((s.getD u.toNat 0)<=o)then some (.inl (false,()))else bif decide ((s.getD u.toNat 0)>=j)then some (.inl (false,()))else mF m n a b c d f h i j k l (s.getD u.toNat 0) p q r s t (wI (u+1))else none else some (.inr (.inl ((a,b,c,d,f,h,i,()),j,k,l,p,q,r,())))
def mG:Nat->LI->LI->LI->LI->LI->LI->Int->Int->Int->Int->LI->Int->Int->Option (IR⊕(gL×Int×LI×Int×Int×Unit)⊕Empty)
 |0,_,_,_,_,_,_,_,_,_,_,_,_,_=>none
 |n+1,a,b,c,d,f,h,i,j,k,l,o,p,q=>bif decide (l<=k)then if 0<=l/\l<(d.length:Int)then if 0<=(wI (l+1))/\(wI (l+1))<(d.length:Int)then bif decide ((d.getD l.toNat 0)>(d.getD (wI (l+1)).toNat 0))then some (.inl (false,()))else if 0<=(wI (l+1))/\(wI (l+1))<(d.length:Int)then bif decide ((d.getD (wI (l+1)).toNat 0)>(f.length:Int))then some (.inl (false,()))else if 0<=l/\l<(d.length:Int)then if 0<=(wI (l+1))/\(wI (l+1))<(d.length:Int)then if 0<=(d.getD l.toNat 0)/\(d.getD l.toNat 0)<=(d.getD (wI (l+1)).toNat 0)/\(d.getD (wI (l+1)).toNat 0)<=(f.length:Int)then (mF m m a b c d f h i j k l k o p q ((f.drop (d.getD l.toNat 0).toNat).take ((d.getD (wI (l+1)).toNat 0).toNat-(d.getD l.toNat 0).toNat)) (((f.drop (d.getD l.toNat 0).toNat).take ((d.getD (wI (l+1)).toNat 0).toNat-(d.getD l.toNat 0).toNat)).length:Int) 0).bind λx=>match x with
     | .inl y=>some (.inl (y.1,()))
     | .inr (.inl g)=>mG n g.1.1 g.1.2.1 g.1.2.2.1 g.1.2.2.2.1 g.1.2.2.2.2.1 g.1.2.2.2.2.2.1 g.1.2.2.2.2.2.2.1 g.2.1 g.2.2.1 (wI (g.2.2.2.1+1)) g.2.2.2.2.1 g.2.2.2.2.2.1 g.2.2.2.2.2.2.1
     | .inr (.inr e)=>e.elim else none else none else none else none else none else none else some (.inr (.inl ((a,b,c,d,f,h,i,()),j,o,p,q,())))
def mH:Nat->LI->LI->LI->LI->LI->LI->Int->Int->LI->Int->Int->Option sT
 |0,_,_,_,_,_,_,_,_,_,_,_=>none
 |n+1,a,b,c,d,f,h,i,j,k,l,o=>bif decide (o<l)then if 0<=o/\o<(k.length:Int)then if 0<=o/\o<(b.length:Int)then (mG m m a b c d f h i j (wI ((wI ((k.getD o.toNat 0)+(b.getD o.toNat 0)))-1)) (k.getD o.toNat 0) k l o).bind λx=>match x with
   | .inl y=>some (.inl (y.1,()))
   | .inr (.inl g)=>mH n g.1.1 g.1.2.1 g.1.2.2.1 g.1.2.2.2.1 g.1.2.2.2.2.1 g.1.2.2.2.2.2.1 g.1.2.2.2.2.2.2.1 g.2.1 g.2.2.1 g.2.2.2.1 (wI (g.2.2.2.2.1+1))
   | .inr (.inr e)=>e.elim else none else none else some (.inr (.inl ()))
def Dd (a:LI) (b:LI) (c:LI) (d:LI) (f:LI) (h:LI) (i:Int) (j:LI):Option vH:=if(0:Int)<=0/\0<(d.length:Int)then bif (d.getD 0 0) !=0 then some (false,ul)else if 0<=(a.length:Int)/\(a.length:Int)<(d.length:Int)then bif (d.getD (a.length:Int).toNat 0) !=(f.length:Int)then some (false,ul)else (mH m m a b c d f h i (a.length:Int) j (j.length:Int) 0).bind λg=>match g with
   | .inl x=>some (x.1,ul)
   | .inr (.inl y)=>some (true,ul)
   | .inr (.inr e)=>e.elim else none else none
def rW (m:Nat) (a:Int):Option ((Int×Int×Unit)×Unit×Unit):=some ((wI (qp .u64 (aJ .u64 a 52) 2047),qp .u64 a 4503599627370495,()),ut)
def te (a:Int):Option pD:=(rW m a).bind λe=>some (e.1.1 !=2047,ut)
def jR (m:Nat):Nat->LI->Int->Option LM
 |0,_,_=>none
 |n+1,a,b=>bif decide (b>0)then if 0<=(wI (b-1))/\(wI (b-1))<(a.length:Int)then bif (a.getD (wI (b-1)).toNat 0)==0 then jR m n a (wI (b-1))else some (.inl (a,b,()))else none else some (.inl (a,b,()))
def dm (a:LI):Option R8:=(jR m m a (a.length:Int)).bind λx=>match x with
 | .inl g=>if(0:Int)<=0/\0<=g.2.1/\g.2.1<=(g.1.length:Int)then some (g.1.take g.2.1.toNat,ut)else none
 | .inr e=>e.elim
def dJ (a:Bool) (b:LI):Option wT:=(dm m b).bind λe=>bif (e.1.length:Int)==0 then some ((false,[],()),ul)else some ((a,e.1,()),ul)
def ll (a:Int):Option Bo:=bif decide (a<0)then (dJ m (decide (a<0)) ([wK (qp .u64 (wJ (0-(wJ a))) 4294967295),wK (aJ .u64 (wJ (0-(wJ a))) 32)]:LI)).bind λe=>some ((e.1.1,e.1.2.1,()),ut)else (dJ m (decide (a<0)) ([wK (qp .u64 (wJ a) 4294967295),wK (aJ .u64 (wJ a) 32)]:LI)).bind λg=>some ((g.1.1,g.1.2.1,()),ut)
def wm (m:Nat) (a:Int):Option pD:=some ((qp .u64 a 9223372036854775808) !=0,ut)
def tn (m:Nat) (a:LI):Option R8:=if([]:LI).length+a.length<=1073741824 then some (a,ut)else none
def eA (a:Bool) (b:LI):Option Bo:=(tn m b).bind λg=>(dJ m (!a) g.1).bind λe=>some ((e.1.1,e.1.2.1,()),ut)
def rF (m:Nat):Option R5:=some ((true,false,[],0,()),())
def CN (a:Bool) (b:LI):Option Bo:=(tn m b).bind λg=>(dJ m a g.1).bind λe=>some ((e.1.1,e.1.2.1,()),ut)
def jT (a:Bool) (b:LI):Option lg:=(dm m b).bind λe=>bif (e.1.length:Int)==0 then some (0,ut)else bif a then some ((-1),ut)else some (1,ut)
def mq:Nat->LI->Int->Int->Option sS
 |0,_,_,_=>none
 |n+1,a,b,c=>bif decide (c<b)then if 0<=c/\c<(a.length:Int)then bif (a.getD c.toNat 0) !=0 then (yy m (a.getD c.toNat 0)).bind λe=>some (.inl (wI ((wI (c*32))+e.1),()))else mq n a b (wI (c+1))else none else some (.inr (.inl ()))
def yv (a:Bool) (b:LI):Option lg:=(mq m m b (b.length:Int) 0).bind λg=>match g with
 | .inl x=>some (x.1,ut)
 | .inr (.inl y)=>some (0,ut)
 | .inr (.inr e)=>e.elim
def ye (a:LI):Option lg:=bif (a.length:Int)==0 then some (0,ut)else if 0<=(wI ((a.length:Int)-1))/\(wI ((a.length:Int)-1))<(a.length:Int)then (wh m (a.getD (wI ((a.length:Int)-1)).toNat 0)).bind λe=>some (wI ((wI ((wI ((a.length:Int)-1))*32))+e.1),ut)else none
def pa (a:Bool) (b:LI):Option lg:=(dm m b).bind λe=>(ye m e.1).bind λg=>some (g.1,ut)
def lX (m:Nat):Nat->Int->Int->LI->LI->Int->Int->Option pE
 |0,_,_,_,_,_,_=>none
 |n+1,a,b,c,d,f,h=>bif decide (h<f)then if 0<=h/\h<(d.length:Int)then if 0<=b then if 0<=(wI (a+h))/\(wI (a+h))<(c.length:Int)then if 0<=(wI (a+h))/\(wI (a+h))<(c.length:Int)then if 0<=(wI ((wI (a+h))+1))/\(wI ((wI (a+h))+1))<((c.set (0+(wI (a+h)).toNat) (bf .u32 (c.getD (0+(wI (a+h)).toNat) 0) (wK (qp .u64 (bw .u64 (wJ (d.getD h.toNat 0)) b) 4294967295)))).length:Int)then lX m n a b ((c.set (0+(wI (a+h)).toNat) (bf .u32 (c.getD (0+(wI (a+h)).toNat) 0) (wK (qp .u64 (bw .u64 (wJ (d.getD h.toNat 0)) b) 4294967295)))).set (0+(wI ((wI (a+h))+1)).toNat) (wK (aJ .u64 (bw .u64 (wJ (d.getD h.toNat 0)) b) 32))) d f (wI (h+1))else none else none else none else none else none else some (.inl (c,()))
def tf (a:LI) (b:Int):Option vI:=bif (a.length:Int)==0 then some ([],ul)else if 0<=(wI ((wI ((wI (Int.tdiv b 32))+(a.length:Int)))+1))/\(wI ((wI ((wI (Int.tdiv b 32))+(a.length:Int)))+1))<=(wI ((wI ((wI (Int.tdiv b 32))+(a.length:Int)))+1))/\(wI ((wI ((wI (Int.tdiv b 32))+(a.length:Int)))+1))<=1073741824 then (lX m m (wI (Int.tdiv b 32)) (wJ (Int.tmod b 32)) (List.replicate (wI ((wI ((wI (Int.tdiv b 32))+(a.length:Int)))+1)).toNat (0:Int)) a (a.length:Int) 0).bind λg=>match g with
  | .inl x=>(dm m x.1).bind λy=>some (y.1,ul)
  | .inr e=>e.elim else none
def KV (m:Nat) (a:Int):Option pD:=some (a !=0,ut)
def lW:Nat->LI->Int->Int->Option sS
 |0,_,_,_=>none
 |n+1,a,b,c=>bif decide (c<b)then if 0<=c/\c<(a.length:Int)then (KV m (a.getD c.toNat 0)).bind λe=>bif e.1 then some (.inl (c,()))else lW n a b (wI (c+1))else none else some (.inr (.inl ()))
def KS (a:LI):Option jH:=(lW m m a (a.length:Int) 0).bind λg=>match g with
 | .inl x=>some (x.1,ul)
 | .inr (.inl y)=>some ((-1),ul)
 | .inr (.inr e)=>e.elim
def BW (a:LI):Option vH:=(KS m a).bind λe=>some (decide (e.1>=0),ul)
def ft (m:Nat):Nat->LI->Int->Int->Bool->LI->Int->Int->Option (nD⊕Empty)
 |0,_,_,_,_,_,_,_=>none
 |n+1,a,b,c,d,f,h,i=>bif decide (i<h)then if 0<=(wI (b+i))/\(wI (b+i))<(a.length:Int)then bif decide ((wI ((wI (b+i))+1))<(a.length:Int))then if 0<=(wI ((wI (b+i))+1))/\(wI ((wI (b+i))+1))<(a.length:Int)then if 0<=c then if 0<=i/\i<(f.length:Int)then ft m n a b c d (f.set (0+i.toNat) (wK (qp .u64 (aJ .u64 (bf .u64 (wJ (a.getD (wI (b+i)).toNat 0)) (bw .u64 (wJ (a.getD (wI ((wI (b+i))+1)).toNat 0)) 32)) c) 4294967295))) h (wI (i+1))else none else none else none else if 0<=c then if 0<=i/\i<(f.length:Int)then ft m n a b c d (f.set (0+i.toNat) (wK (qp .u64 (aJ .u64 (wJ (a.getD (wI (b+i)).toNat 0)) c) 4294967295))) h (wI (i+1))else none else none else none else some (.inl (d,f,()))
def v9 (a:LI) (b:Int):Option R7:=bif decide ((wI (Int.tdiv b 32))>=(a.length:Int))then some (([],decide ((a.length:Int)>0),()),ul)else if(0:Int)<=0/\0<=(wI (Int.tdiv b 32))/\(wI (Int.tdiv b 32))<=(a.length:Int)then (BW m (a.take (wI (Int.tdiv b 32)).toNat)).bind λy=>bif y.1 then if 0<=(wI ((a.length:Int)-(wI (Int.tdiv b 32))))/\(wI ((a.length:Int)-(wI (Int.tdiv b 32))))<=(wI ((a.length:Int)-(wI (Int.tdiv b 32))))/\(wI ((a.length:Int)-(wI (Int.tdiv b 32))))<=1073741824 then (ft m m a (wI (Int.tdiv b 32)) (wJ (Int.tmod b 32)) true (List.replicate (wI ((a.length:Int)-(wI (Int.tdiv b 32)))).toNat (0:Int)) ((List.replicate (wI ((a.length:Int)-(wI (Int.tdiv b 32)))).toNat (0:Int)).length:Int) 0).bind λz=>match z with
   | .inl g=>(dm m g.2.1).bind λA=>some ((A.1,g.1,()),ul)
   | .inr e=>e.elim else none else if 0<=(wI (Int.tdiv b 32))/\(wI (Int.tdiv b 32))<(a.length:Int)then if 0<=(wJ (Int.tmod b 32))then if 0<=(wI ((a.length:Int)-(wI (Int.tdiv b 32))))/\(wI ((a.length:Int)-(wI (Int.tdiv b 32))))<=(wI ((a.length:Int)-(wI (Int.tdiv b 32))))/\(wI ((a.length:Int)-(wI (Int.tdiv b 32))))<=1073741824 then (ft m m a (wI (Int.tdiv b 32)) (wJ (Int.tmod b 32)) ((qp .u32 (a.getD (wI (Int.tdiv b 32)).toNat 0) (wK ((bw .u32 1 (wJ (Int.tmod b 32)))-1))) !=0) (List.replicate (wI ((a.length:Int)-(wI (Int.tdiv b 32)))).toNat (0:Int)) ((List.replicate (wI ((a.length:Int)-(wI (Int.tdiv b 32)))).toNat (0:Int)).length:Int) 0).bind λB=>match B with
   | .inl x=>(dm m x.2.1).bind λC=>some ((C.1,x.1,()),ul)
   | .inr e=>e.elim else none else none else none else none
def gn (m:Nat):Nat->LI->LI->Int->LI->Int->Int->Option LM
 |0,_,_,_,_,_,_=>none
 |n+1,a,b,c,d,f,h=>bif decide (h<f)then if 0<=h/\h<(d.length:Int)then bif decide (h<(a.length:Int))then if 0<=h/\h<(a.length:Int)then if b.length+([wK (qp .u64 (wJ ((wJ ((wJ (d.getD h.toNat 0))+c))+(wJ (a.getD h.toNat 0)))) 4294967295)]:LI).length<=1073741824 then gn m n a (b++([wK (qp .u64 (wJ ((wJ ((wJ (d.getD h.toNat 0))+c))+(wJ (a.getD h.toNat 0)))) 4294967295)]:LI)) (aJ .u64 (wJ ((wJ ((wJ (d.getD h.toNat 0))+c))+(wJ (a.getD h.toNat 0)))) 32) d f (wI (h+1))else none else none else if b.length+([wK (qp .u64 (wJ ((wJ (d.getD h.toNat 0))+c)) 4294967295)]:LI).length<=1073741824 then gn m n a (b++([wK (qp .u64 (wJ ((wJ (d.getD h.toNat 0))+c)) 4294967295)]:LI)) (aJ .u64 (wJ ((wJ (d.getD h.toNat 0))+c)) 32) d f (wI (h+1))else none else none else some (.inl (b,c,()))
def th (a:LI) (b:LI):Option vI:=bif decide ((a.length:Int)<(b.length:Int))then if(0:Int)<=0/\0<=(wI ((b.length:Int)+1))/\(wI ((b.length:Int)+1))<=1073741824 then (gn m m a (List.replicate 0 (0:Int)) 0 b (b.length:Int) 0).bind λy=>match y with
  | .inl g=>if g.1.length+([wK g.2.1]:LI).length<=1073741824 then (dm m (g.1++([wK g.2.1]:LI))).bind λz=>some (z.1,ul)else none
  | .inr e=>e.elim else none else if(0:Int)<=0/\0<=(wI ((a.length:Int)+1))/\(wI ((a.length:Int)+1))<=1073741824 then (gn m m b (List.replicate 0 (0:Int)) 0 a (a.length:Int) 0).bind λA=>match A with
  | .inl x=>if x.1.length+([wK x.2.1]:LI).length<=1073741824 then (dm m (x.1++([wK x.2.1]:LI))).bind λB=>some (B.1,ul)else none
  | .inr e=>e.elim else none
def ry (a:Bool) (b:LI) (c:Int):Option ((nD×Int×Unit)×Unit×Unit×Unit):=bif decide (c<(-1048576))then some (((false,[],()),3,()),ul)else bif decide (c>1048576)then some (((false,[],()),3,()),ul)else (dm m b).bind λg=>bif decide (c>=0)then (tf m g.1 c).bind λB=>(dJ m a B.1).bind λx=>some (((x.1.1,x.1.2.1,()),0,()),ul)else (v9 m g.1 (wI (0-c))).bind λe=>bif a then bif e.1.2.1 then (th m e.1.1 ([1]:LI)).bind λC=>(dJ m a C.1).bind λy=>some (((y.1.1,y.1.2.1,()),0,()),ul)else (dJ m a e.1.1).bind λz=>some (((z.1.1,z.1.2.1,()),0,()),ul)else (dJ m a e.1.1).bind λA=>some (((A.1.1,A.1.2.1,()),0,()),ul)
def o9:Nat->Int->Bool->LI->Bool->LI->Option YS
 |0,_,_,_,_,_=>none
 |n+1,a,b,c,d,f=>bif decide (a>1048576)then (ry m b c (-1048576)).bind λe=>o9 n (wI (a-1048576)) e.1.1.1 e.1.1.2.1 d f else some (.inl (a,(b,c,()),(d,f,()),()))
def yu (a:Bool) (b:LI) (c:Int):Option wT:=(o9 m m c a b false ([]:LI)).bind λy=>match y with
 | .inl g=>(ry m g.2.1.1 g.2.1.2.1 (wI (0-g.1))).bind λx=>some ((x.1.1.1,x.1.1.2.1,()),ul)
 | .inr e=>e.elim
def iM (a:Bool) (b:Bool) (c:LI) (d:Int):Option ((lC×Bool×Unit)×Unit×Unit):=bif a then (rF m).bind λg=>some (((g.1.1,g.1.2.1,g.1.2.2.1,g.1.2.2.2.1,()),false,()),ut)else (CN m b c).bind λe=>(jT m e.1.1 e.1.2.1).bind λB=>bif B.1==0 then some (((false,false,[],0,()),true,()),ut)else (yv m e.1.1 e.1.2.1).bind λz=>(pa m e.1.1 e.1.2.1).bind λC=>bif decide (d>(wI (65536-C.1)))then (rF m).bind λx=>some (((x.1.1,x.1.2.1,x.1.2.2.1,x.1.2.2.2.1,()),false,()),ut)else bif decide (d<(wI ((-65536)-z.1)))then (rF m).bind λy=>some (((y.1.1,y.1.2.1,y.1.2.2.1,y.1.2.2.2.1,()),false,()),ut)else (yu m e.1.1 e.1.2.1 z.1).bind λA=>some (((false,A.1.1,A.1.2.1,wI (d+z.1),()),true,()),ut)
def ke (a:Bool) (b:LI) (c:Int):Option xq:=(iM m false a b c).bind λe=>some ((e.1.1.1,e.1.1.2.1,e.1.1.2.2.1,e.1.1.2.2.2.1,()),ul)
def eC (a:Int):Option wU:=(rW m a).bind λx=>bif x.1.1==2047 then some ((true,false,[],0,()),ut)else bif x.1.1==0 then (ll m (wI x.1.2.1)).bind λy=>(wm m a).bind λE=>bif E.1 then (eA m y.1.1 y.1.2.1).bind λC=>(ke m C.1.1 C.1.2.1 (-1074)).bind λz=>some ((z.1.1,z.1.2.1,z.1.2.2.1,z.1.2.2.2.1,()),ut)else (ke m y.1.1 y.1.2.1 (-1074)).bind λA=>some ((A.1.1,A.1.2.1,A.1.2.2.1,A.1.2.2.2.1,()),ut)else (ll m (wI (bf .u64 x.1.2.1 4503599627370496))).bind λB=>(wm m a).bind λF=>bif F.1 then (eA m B.1.1 B.1.2.1).bind λD=>(ke m D.1.1 D.1.2.1 (wI (x.1.1-1075))).bind λe=>some ((e.1.1,e.1.2.1,e.1.2.2.1,e.1.2.2.2.1,()),ut)else (ke m B.1.1 B.1.2.1 (wI (x.1.1-1075))).bind λg=>some ((g.1.1,g.1.2.1,g.1.2.2.1,g.1.2.2.2.1,()),ut)
def mD:Nat->LI->LI->LI->LI->LI->LI->Int->dA->Int->cW->LI->Int->Int->Int->Int->Option ((gL×dA×Int×cW×LI×Int×Int×Unit)⊕Empty)
 |0,_,_,_,_,_,_,_,_,_,_,_,_,_,_,_=>none
 |n+1,a,b,c,d,f,h,i,j,k,l,o,p,q,r,s=>bif decide (s<r)then if 0<=k/\k<(c.length:Int)then (eC m (c.getD k.toNat 0)).bind λe=>if l.length+([(e.1.1,((e.1.2.1,e.1.2.2.1),e.1.2.2.2.1))]:List bE).length<=1073741824 then mD n a b c d f h i j (wI (k+1)) (l++([(e.1.1,((e.1.2.1,e.1.2.2.1),e.1.2.2.2.1))]:List bE)) o p q r (wI (s+1))else none else none else some (.inl ((a,b,c,d,f,h,i,()),j,k,l,o,p,q,()))
def mE:Nat->LI->LI->LI->LI->LI->LI->Int->dA->Int->LI->Int->Int->Option YU
 |0,_,_,_,_,_,_,_,_,_,_,_,_=>none
 |n+1,a,b,c,d,f,h,i,j,k,l,o,p=>bif decide (p<o)then if 0<=p/\p<(l.length:Int)then (mD m m a b c d f h i j k ([]:List bE) l o p (wI ((wI (2*(l.getD p.toNat 0)))-1)) 0).bind λx=>match x with
   | .inl g=>if 0<([g.2.2.2.1]:List cW).length/\g.2.1.length+([g.2.2.2.1]:List cW).length<=1073741824 then mE n g.1.1 g.1.2.1 g.1.2.2.1 g.1.2.2.2.1 g.1.2.2.2.2.1 g.1.2.2.2.2.2.1 g.1.2.2.2.2.2.2.1 (g.2.1++([g.2.2.2.1]:List cW)) g.2.2.1 g.2.2.2.2.1 g.2.2.2.2.2.1 (wI (g.2.2.2.2.2.2.1+1))else none
   | .inr e=>e.elim else none else some (.inl (j,()))
def K9 (a:LI) (b:LI) (c:LI) (d:LI) (f:LI) (h:LI) (i:Int):Option YQ:=(mE m m a b c d f h i ([]:List cW) 0 b (b.length:Int) 0).bind λg=>match g with
 | .inl x=>some (x.1,ut)
 | .inr e=>e.elim
def zd (a:Bool) (b:Bool) (c:LI) (d:Int) (f:Bool) (h:Bool) (i:LI) (j:Int):Option ((lC×lC×Bool×Unit)×Unit×Unit×Unit):=(iM m a b c d).bind λe=>(iM m f h i j).bind λg=>bif e.1.2.1 then some (((e.1.1.1,e.1.1.2.1,e.1.1.2.2.1,e.1.1.2.2.2.1,()),(g.1.1.1,g.1.1.2.1,g.1.1.2.2.1,g.1.1.2.2.2.1,()),g.1.2.1,()),ul)else some (((e.1.1.1,e.1.1.2.1,e.1.1.2.2.1,e.1.1.2.2.2.1,()),(g.1.1.1,g.1.1.2.1,g.1.1.2.2.1,g.1.1.2.2.2.1,()),false,()),ul)
def lZ (m:Nat):Nat->LI->LI->Int->Int->Int->LI->Int->Int->LI->Int->Int->Option ((LI×LI×Int×Int×LI×Int×Int×Unit)⊕Empty)
 |0,_,_,_,_,_,_,_,_,_,_,_=>none
 |n+1,a,b,c,d,f,h,i,j,k,l,o=>bif decide (o<l)then if 0<=o/\o<(k.length:Int)then if 0<=(wI (c+o))/\(wI (c+o))<(b.length:Int)then if 0<=(wI (c+o))/\(wI (c+o))<(b.length:Int)then lZ m n a (b.set (0+(wI (c+o)).toNat) (wK (qp .u64 (wJ ((wJ ((wJ ((wJ d)*(wJ (k.getD o.toNat 0))))+(wJ (b.getD (0+(wI (c+o)).toNat) 0))))+f)) 4294967295))) c d (aJ .u64 (wJ ((wJ ((wJ ((wJ d)*(wJ (k.getD o.toNat 0))))+(wJ (b.getD (0+(wI (c+o)).toNat) 0))))+f)) 32) h i j k l (wI (o+1))else none else none else none else some (.inl (a,b,c,f,h,i,j,()))
def l7:Nat->LI->LI->LI->Int->Int->Option pE
 |0,_,_,_,_,_=>none
 |n+1,a,b,c,d,f=>bif decide (f<d)then if 0<=f/\f<(c.length:Int)then (lZ m m a b f (c.getD f.toNat 0) 0 c d f a (a.length:Int) 0).bind λx=>match x with
   | .inl g=>if 0<=(wI (g.2.2.1+(g.1.length:Int)))/\(wI (g.2.2.1+(g.1.length:Int)))<(g.2.1.length:Int)then l7 n g.1 (g.2.1.set (0+(wI (g.2.2.1+(g.1.length:Int))).toNat) (wK g.2.2.2.1)) g.2.2.2.2.1 g.2.2.2.2.2.1 (wI (g.2.2.2.2.2.2.1+1))else none
   | .inr e=>e.elim else none else some (.inl (b,()))
def Cp (a:LI) (b:LI):Option vI:=bif (a.length:Int)==0 then some ([],ul)else bif (b.length:Int)==0 then some ([],ul)else if 0<=(wI ((a.length:Int)+(b.length:Int)))/\(wI ((a.length:Int)+(b.length:Int)))<=(wI ((a.length:Int)+(b.length:Int)))/\(wI ((a.length:Int)+(b.length:Int)))<=1073741824 then (l7 m m b (List.replicate (wI ((a.length:Int)+(b.length:Int))).toNat (0:Int)) a (a.length:Int) 0).bind λg=>match g with
   | .inl x=>(dm m x.1).bind λy=>some (y.1,ul)
   | .inr e=>e.elim else none
def tv (a:Bool) (b:LI) (c:Bool) (d:LI):Option wT:=(dm m b).bind λg=>(dm m d).bind λx=>(Cp m g.1 x.1).bind λy=>(dJ m (!(a==c)) y.1).bind λe=>some ((e.1.1,e.1.2.1,()),ul)
def gO (a:Bool) (b:Bool) (c:LI) (d:Int) (f:Bool) (h:Bool) (i:LI) (j:Int):Option xq:=(zd m a b c d f h i j).bind λe=>bif !e.1.2.2.1 then (rF m).bind λg=>some ((g.1.1,g.1.2.1,g.1.2.2.1,g.1.2.2.2.1,()),ul)else (tv m e.1.1.2.1 e.1.1.2.2.1 e.1.2.1.2.1 e.1.2.1.2.2.1).bind λy=>(ke m y.1.1 y.1.2.1 (wI (e.1.1.2.2.2.1+e.1.2.1.2.2.2.1))).bind λx=>some ((x.1.1,x.1.2.1,x.1.2.2.1,x.1.2.2.2.1,()),ul)
def ze (a:Bool) (b:Bool) (c:LI) (d:Int):Option wU:=(iM m a b c d).bind λe=>bif e.1.2.1 then (eA m e.1.1.2.1 e.1.1.2.2.1).bind λg=>some ((e.1.1.1,g.1.1,g.1.2.1,e.1.1.2.2.2.1,()),ut)else some ((e.1.1.1,e.1.1.2.1,e.1.1.2.2.1,e.1.1.2.2.2.1,()),ut)
def jq (a:Bool) (b:LI) (c:Int):Option wT:=(ry m a b c).bind λe=>some ((e.1.1.1,e.1.1.2.1,()),ul)
def DX (a:Bool) (b:Bool) (c:LI) (d:Int) (f:Bool) (h:Bool) (i:LI) (j:Int):Option Ue:=(jq m b c (wI (d-(if j<d then j else d)))).bind λe=>(jq m h i (wI (j-(if j<d then j else d)))).bind λg=>some (((e.1.1,e.1.2.1,()),(g.1.1,g.1.2.1,()),if j<d then j else d,()),ul)
def B7 (m:Nat) (a:Int):Option pD:=some (a !=a,ut)
def Cj (a:Int) (b:Int):Option jH:=(B7 m a).bind λg=>(B7 m b).bind λe=>bif g.1 then bif e.1 then some (0,ul)else some ((-1),ul)else bif e.1 then some (1,ul)else bif decide (a<b)then some ((-1),ul)else bif decide (a>b)then some (1,ul)else some (0,ul)
def B6 (m:Nat) (a:Int):Option pD:=some (a !=a,ut)
def Ci (a:Int) (b:Int):Option jH:=(B6 m a).bind λg=>(B6 m b).bind λe=>bif g.1 then bif e.1 then some (0,ul)else some ((-1),ul)else bif e.1 then some (1,ul)else bif decide (a<b)then some ((-1),ul)else bif decide (a>b)then some (1,ul)else some (0,ul)
def jS:Nat->LI->LI->Int->Option sS
 |0,_,_,_=>none
 |n+1,a,b,c=>bif decide (c>=0)then if 0<=c/\c<(a.length:Int)then if 0<=c/\c<(b.length:Int)then bif (a.getD c.toNat 0) !=(b.getD c.toNat 0)then if 0<=c/\c<(a.length:Int)then if 0<=c/\c<(b.length:Int)then (Ci m (a.getD c.toNat 0) (b.getD c.toNat 0)).bind λe=>some (.inl (e.1,()))else none else none else jS n a b (wI (c-1))else none else none else some (.inr (.inl ()))
def tp (a:LI) (b:LI):Option jH:=bif (a.length:Int) !=(b.length:Int)then (Cj m (a.length:Int) (b.length:Int)).bind λg=>some (g.1,ul)else (jS m m a b (wI ((a.length:Int)-1))).bind λx=>match x with
  | .inl y=>some (y.1,ul)
  | .inr (.inl z)=>some (0,ul)
  | .inr (.inr e)=>e.elim
def iJ (m:Nat):Nat->LI->LI->Int->LI->Int->Int->Option pE
 |0,_,_,_,_,_,_=>none
 |n+1,a,b,c,d,f,h=>bif decide (h<f)then if 0<=h/\h<(d.length:Int)then bif decide (h<(a.length:Int))then if 0<=h/\h<(a.length:Int)then if 0<=h/\h<(b.length:Int)then iJ m n a (b.set (0+h.toNat) (wK (qp .u64 (wJ ((wJ ((wJ (d.getD h.toNat 0))-c))-(wJ (a.getD h.toNat 0)))) 4294967295))) (qp .u64 (aJ .u64 (wJ ((wJ ((wJ (d.getD h.toNat 0))-c))-(wJ (a.getD h.toNat 0)))) 32) 1) d f (wI (h+1))else none else none else if 0<=h/\h<(b.length:Int)then iJ m n a (b.set (0+h.toNat) (wK (qp .u64 (wJ ((wJ (d.getD h.toNat 0))-c)) 4294967295))) (qp .u64 (aJ .u64 (wJ ((wJ (d.getD h.toNat 0))-c)) 32) 1) d f (wI (h+1))else none else none else some (.inl (b,()))
def wb (a:LI) (b:LI):Option vI:=if 0<=(a.length:Int)/\(a.length:Int)<=(a.length:Int)/\(a.length:Int)<=1073741824 then (iJ m m b (List.replicate (a.length:Int).toNat (0:Int)) 0 a (a.length:Int) 0).bind λg=>match g with
 | .inl x=>(dm m x.1).bind λy=>some (y.1,ul)
 | .inr e=>e.elim else none
def jU (a:Bool) (b:LI) (c:Bool) (d:LI):Option wT:=(dm m b).bind λe=>(dm m d).bind λg=>bif a==c then (th m e.1 g.1).bind λA=>(dJ m a A.1).bind λx=>some ((x.1.1,x.1.2.1,()),ul)else (tp m e.1 g.1).bind λB=>bif decide (B.1>=0)then (wb m e.1 g.1).bind λC=>(dJ m a C.1).bind λy=>some ((y.1.1,y.1.2.1,()),ul)else (wb m g.1 e.1).bind λD=>(dJ m c D.1).bind λz=>some ((z.1.1,z.1.2.1,()),ul)
def DY (a:Bool) (b:Bool) (c:LI) (d:Int) (f:Bool) (h:Bool) (i:LI) (j:Int):Option xq:=(zd m a b c d f h i j).bind λe=>bif !e.1.2.2.1 then (rF m).bind λx=>some ((x.1.1,x.1.2.1,x.1.2.2.1,x.1.2.2.2.1,()),ul)else (DX m e.1.1.1 e.1.1.2.1 e.1.1.2.2.1 e.1.1.2.2.2.1 e.1.2.1.1 e.1.2.1.2.1 e.1.2.1.2.2.1 e.1.2.1.2.2.2.1).bind λg=>(jU m g.1.1.1 g.1.1.2.1 g.1.2.1.1 g.1.2.1.2.1).bind λz=>(ke m z.1.1 z.1.2.1 g.1.2.2.1).bind λy=>some ((y.1.1,y.1.2.1,y.1.2.2.1,y.1.2.2.2.1,()),ul)
def FX (a:Bool) (b:Bool) (c:LI) (d:Int) (f:Bool) (h:Bool) (i:LI) (j:Int):Option xq:=(ze m f h i j).bind λe=>(DY m a b c d e.1.1 e.1.2.1 e.1.2.2.1 e.1.2.2.2.1).bind λg=>some ((g.1.1,g.1.2.1,g.1.2.2.1,g.1.2.2.2.1,()),ul)
def C7 (a:List bE):Option wU:=if(0:Int)<=0/\0<(a.length:Int)then if(0:Int)<=2/\2<(a.length:Int)then (gO m (a.getD 0 qz).1 (a.getD 0 qz).2.1.1 (a.getD 0 qz).2.1.2 (a.getD 0 qz).2.2 (a.getD 2 qz).1 (a.getD 2 qz).2.1.1 (a.getD 2 qz).2.1.2 (a.getD 2 qz).2.2).bind λe=>if(0:Int)<=1/\1<(a.length:Int)then if(0:Int)<=1/\1<(a.length:Int)then (gO m (a.getD 1 qz).1 (a.getD 1 qz).2.1.1 (a.getD 1 qz).2.1.2 (a.getD 1 qz).2.2 (a.getD 1 qz).1 (a.getD 1 qz).2.1.1 (a.getD 1 qz).2.1.2 (a.getD 1 qz).2.2).bind λg=>(FX m e.1.1 e.1.2.1 e.1.2.2.1 e.1.2.2.2.1 g.1.1 g.1.2.1 g.1.2.2.1 g.1.2.2.2.1).bind λx=>some ((x.1.1,x.1.2.1,x.1.2.2.1,x.1.2.2.2.1,()),ut)else none else none else none else none
def pb (a:Bool) (b:Bool) (c:LI) (d:Int):Option lg:=(iM m a b c d).bind λe=>(jT m e.1.1.2.1 e.1.1.2.2.1).bind λg=>some (g.1,ut)
def km:Nat->dA->Int->Int->Option sS
 |0,_,_,_=>none
 |n+1,a,b,c=>bif decide (c<b)then if 0<=c/\c<(a.length:Int)then bif ((a.getD c.toNat ([]:List bE)).length:Int)==3 then (C7 m (a.getD c.toNat ([]:List bE))).bind λe=>(pb m e.1.1 e.1.2.1 e.1.2.2.1 e.1.2.2.2.1).bind λg=>bif g.1==0 then some (.inl (4,()))else km n a b (wI (c+1))else km n a b (wI (c+1))else none else some (.inr (.inl ()))
def nr:Nat->LI->LI->LI->LI->LI->LI->Int->List LI->Int->Int->LI->Int->Int->Option ((Int×Unit)⊕(gL×List LI×Int×Int×Unit)⊕Empty)
 |0,_,_,_,_,_,_,_,_,_,_,_,_,_=>none
 |n+1,a,b,c,d,f,h,i,j,k,l,o,p,q=>bif decide (q<p)then if 0<=q/\q<(o.length:Int)then (te m (o.getD q.toNat 0)).bind λe=>bif !e.1 then some (.inl (4,()))else nr n a b c d f h i j k l o p (wI (q+1))else none else some (.inr (.inl ((a,b,c,d,f,h,i,()),j,k,l,())))
def iR:Nat->LI->LI->LI->LI->LI->LI->Int->List LI->Int->Int->Option Ud
 |0,_,_,_,_,_,_,_,_,_,_=>none
 |n+1,a,b,c,d,f,h,i,j,k,l=>bif decide (l<k)then if 0<=l/\l<(j.length:Int)then (nr m m a b c d f h i j k l (j.getD (0+l.toNat) ([]:LI)) ((j.getD (0+l.toNat) ([]:LI)).length:Int) 0).bind λx=>match x with
   | .inl y=>some (.inl (y.1,()))
   | .inr (.inl g)=>iR n g.1.1 g.1.2.1 g.1.2.2.1 g.1.2.2.2.1 g.1.2.2.2.2.1 g.1.2.2.2.2.2.1 g.1.2.2.2.2.2.2.1 g.2.1 g.2.2.1 (wI (g.2.2.2.1+1))
   | .inr (.inr e)=>e.elim else none else some (.inr (.inl ((a,b,c,d,f,h,i,()),())))
def wF (a:LI) (b:LI) (c:LI) (d:LI) (f:LI) (h:LI) (i:Int):Option lg:=bif decide ((a.length:Int)>200)then some (6,ut)else (Dh m a).bind λz=>bif !z.1 then some (90,ut)else bif (d.length:Int) !=(wI ((a.length:Int)+1))then some (2,ut)else bif (f.length:Int) !=(h.length:Int)then some (2,ut)else (Df m a b c d f h i).bind λx=>bif !x.1.2.1 then some (240,ut)else bif decide (i<0)then some (240,ut)else (Dd m a b c d f h i x.1.1).bind λA=>bif !A.1 then some (240,ut)else (iR m m a b c d f h i ([h,c]:List LI) 2 0).bind λB=>match B with
        | .inl C=>some (C.1,ut)
        | .inr (.inl g)=>(K9 m g.1.1 g.1.2.1 g.1.2.2.1 g.1.2.2.2.1 g.1.2.2.2.2.1 g.1.2.2.2.2.2.1 g.1.2.2.2.2.2.2.1).bind λy=>(km m m y.1 (y.1.length:Int) 0).bind λD=>match D with
         | .inl E=>some (E.1,ut)
         | .inr (.inl F)=>some (0,ut)
         | .inr (.inr e)=>e.elim
        | .inr (.inr e)=>e.elim
def mX:Nat->Bool->Bool->LI->Int->Int->Bool->LI->cW->Int->Int->Option ((lC×Int×nD×Unit)⊕Empty)
 |0,_,_,_,_,_,_,_,_,_,_=>none
 |n+1,a,b,c,d,f,h,i,j,k,l=>bif decide (l<k)then if 0<=l/\l<(j.length:Int)then (jq m (j.getD (0+l.toNat) qz).2.1.1 (j.getD (0+l.toNat) qz).2.1.2 (wI ((j.getD (0+l.toNat) qz).2.2-f))).bind λe=>(jU m h i e.1.1 e.1.2.1).bind λg=>mX n a b c d f g.1.1 g.1.2.1 j k (wI (l+1))else none else some (.inl ((a,b,c,d,()),f,(h,i,()),()))
def mY:Nat->Bool->Bool->LI->Int->cW->Int->cW->Int->Int->Option (R5⊕(lC×cW×Int×Unit)⊕Empty)
 |0,_,_,_,_,_,_,_,_,_=>none
 |n+1,a,b,c,d,f,h,i,j,k=>bif decide (k<j)then if 0<=k/\k<(i.length:Int)then (iM m (i.getD k.toNat qz).1 (i.getD k.toNat qz).2.1.1 (i.getD k.toNat qz).2.1.2 (i.getD k.toNat qz).2.2).bind λe=>bif !e.1.2.1 then (rF m).bind λg=>some (.inl ((g.1.1,g.1.2.1,g.1.2.2.1,g.1.2.2.2.1,()),()))else if f.length+([(e.1.1.1,((e.1.1.2.1,e.1.1.2.2.1),e.1.1.2.2.2.1))]:List bE).length<=1073741824 then mY n a b c d (f++([(e.1.1.1,((e.1.1.2.1,e.1.1.2.2.1),e.1.1.2.2.2.1))]:List bE)) (if e.1.1.2.2.2.1<h then e.1.1.2.2.2.1 else h) i j (wI (k+1))else none else none else some (.inr (.inl ((a,b,c,d,()),f,h,())))
def zr (a:List bE):Option wU:=(mY m m false false ([]:LI) 0 ([]:List bE) 0 a (a.length:Int) 0).bind λA=>match A with
 | .inl x=>some ((x.1.1,x.1.2.1,x.1.2.2.1,x.1.2.2.2.1,()),ut)
 | .inr (.inl g)=>(mX m m g.1.1 g.1.2.1 g.1.2.2.1 g.1.2.2.2.1 g.2.2.1 false ([]:LI) g.2.1 (g.2.1.length:Int) 0).bind λB=>match B with
  | .inl z=>(ke m z.2.2.1.1 z.2.2.1.2.1 z.2.1).bind λy=>some ((y.1.1,y.1.2.1,y.1.2.2.1,y.1.2.2.2.1,()),ut)
  | .inr e=>e.elim
 | .inr (.inr e)=>e.elim
def qM:Nat->LI->LI->Bool->Bool->LI->Int->cW->Int->Int->Option tX
 |0,_,_,_,_,_,_,_,_,_=>none
 |n+1,a,b,c,d,f,h,i,j,k=>bif decide (k<j)then if 0<=k/\k<(a.length:Int)then (eC m (a.getD k.toNat 0)).bind λg=>if 0<=k/\k<(b.length:Int)then (eC m (b.getD k.toNat 0)).bind λx=>(gO m g.1.1 g.1.2.1 g.1.2.2.1 g.1.2.2.2.1 x.1.1 x.1.2.1 x.1.2.2.1 x.1.2.2.2.1).bind λe=>if i.length+([(e.1.1,((e.1.2.1,e.1.2.2.1),e.1.2.2.2.1))]:List bE).length<=1073741824 then qM n a b c d f h (i++([(e.1.1,((e.1.2.1,e.1.2.2.1),e.1.2.2.2.1))]:List bE)) j (wI (k+1))else none else none else none else some (.inl ((c,d,f,h,()),i,()))
def TX (a:LI) (b:LI):Option xq:=(qM m m a b false false ([]:LI) 0 ([]:List bE) (a.length:Int) 0).bind λx=>match x with
 | .inl y=>(zr m y.2.1).bind λg=>some ((g.1.1,g.1.2.1,g.1.2.2.1,g.1.2.2.2.1,()),ul)
 | .inr e=>e.elim
def nK (a:Bool) (b:Bool) (c:LI) (d:Int):Option wU:=(iM m a b c d).bind λe=>some ((e.1.1.1,e.1.1.2.1,e.1.1.2.2.1,e.1.1.2.2.2.1,()),ut)
def jO (m:Nat):Nat->LI->Int->LI->Int->Int->Option LM
 |0,_,_,_,_,_=>none
 |n+1,a,b,c,d,f=>bif decide (f>=0)then if 0<=f/\f<(a.length:Int)then if(wJ b)≠0 then if 0<=f/\f<(c.length:Int)then if(wJ b)≠0 then jO m n a b (c.set (0+f.toNat) (wK (wJ (Int.tdiv (bf .u64 (bw .u64 d 32) (wJ (a.getD f.toNat 0))) (wJ b))))) (Int.tmod (bf .u64 (bw .u64 d 32) (wJ (a.getD f.toNat 0))) (wJ b)) (wI (f-1))else none else none else none else none else some (.inl (c,d,()))
def ya (a:LI) (b:Int):Option R6:=if 0<=(a.length:Int)/\(a.length:Int)<=(a.length:Int)/\(a.length:Int)<=1073741824 then (jO m m a b (List.replicate (a.length:Int).toNat (0:Int)) 0 (wI ((a.length:Int)-1))).bind λx=>match x with
 | .inl g=>(dm m g.1).bind λy=>some ((y.1,wK g.2.1,()),ul)
 | .inr e=>e.elim else none
def jM (m:Nat):Nat->LI->Int->Int->Int->LI->Int->Int->Option ((LI×Int×Int×Int×Unit)⊕Empty)
 |0,_,_,_,_,_,_,_=>none
 |n+1,a,b,c,d,f,h,i=>bif decide (i<h)then if 0<=i/\i<(f.length:Int)then if 0<=i/\i<(a.length:Int)then if 0<=i/\i<(a.length:Int)then jM m n (a.set (0+i.toNat) (wK (qp .u64 (wJ ((wJ ((wJ (a.getD (0+i.toNat) 0))+(wJ (f.getD i.toNat 0))))+d)) 4294967295))) b c (aJ .u64 (wJ ((wJ ((wJ (a.getD (0+i.toNat) 0))+(wJ (f.getD i.toNat 0))))+d)) 32) f h (wI (i+1))else none else none else none else some (.inl (a,b,c,d,()))
def jN (m:Nat):Nat->LI->LI->Int->Int->Int->Int->LI->Int->Int->Option ((LI×LI×Int×Int×Int×Int×Unit)⊕Empty)
 |0,_,_,_,_,_,_,_,_,_=>none
 |n+1,a,b,c,d,f,h,i,j,k=>bif decide (k<j)then if 0<=k/\k<(i.length:Int)then if 0<=k/\k<(a.length:Int)then if 0<=k/\k<(a.length:Int)then jN m n (a.set (0+k.toNat) (wK (qp .u64 (wJ ((wJ ((wJ (a.getD (0+k.toNat) 0))-(qp .u64 (wJ ((wJ (d*(wJ (i.getD k.toNat 0))))+f)) 4294967295)))-h)) 4294967295))) b c d (aJ .u64 (wJ ((wJ (d*(wJ (i.getD k.toNat 0))))+f)) 32) (qp .u64 (aJ .u64 (wJ ((wJ ((wJ (a.getD (0+k.toNat) 0))-(qp .u64 (wJ ((wJ (d*(wJ (i.getD k.toNat 0))))+f)) 4294967295)))-h)) 32) 1) i j (wI (k+1))else none else none else none else some (.inl (a,b,c,d,f,h,()))
def iH (m:Nat):Nat->LI->LI->Int->Int->Int->Option ((LI×LI×Int×Int×Unit)⊕Empty)
 |0,_,_,_,_,_=>none
 |n+1,a,b,c,d,f=>bif decide (d>4294967295)then if 0<=(wI (c-1))/\(wI (c-1))<(b.length:Int)then bif decide ((wJ (f+(wJ (b.getD (wI (c-1)).toNat 0))))>4294967295)then some (.inl (a,b,c,wJ (d-1),()))else iH m n a b c (wJ (d-1)) (wJ (f+(wJ (b.getD (wI (c-1)).toNat 0))))else none else if 0<=(wI (c-2))/\(wI (c-2))<(b.length:Int)then if 0<=(wI (c-2))/\(wI (c-2))<(a.length:Int)then bif decide ((wJ (d*(wJ (b.getD (wI (c-2)).toNat 0))))>(bf .u64 (bw .u64 f 32) (wJ (a.getD (0+(wI (c-2)).toNat) 0))))then if 0<=(wI (c-1))/\(wI (c-1))<(b.length:Int)then bif decide ((wJ (f+(wJ (b.getD (wI (c-1)).toNat 0))))>4294967295)then some (.inl (a,b,c,wJ (d-1),()))else iH m n a b c (wJ (d-1)) (wJ (f+(wJ (b.getD (wI (c-1)).toNat 0))))else none else some (.inl (a,b,c,d,()))else none else none
def B3 (a:LI) (b:LI):Option (Int×LI×Unit×Unit):=if 0<=(b.length:Int)/\(b.length:Int)<(a.length:Int)then if 0<=(wI ((b.length:Int)-1))/\(wI ((b.length:Int)-1))<(a.length:Int)then if 0<=(wI ((b.length:Int)-1))/\(wI ((b.length:Int)-1))<(b.length:Int)then if(wJ (b.getD (wI ((b.length:Int)-1)).toNat 0))≠0 then if 0<=(wI ((b.length:Int)-1))/\(wI ((b.length:Int)-1))<(b.length:Int)then if(wJ (b.getD (wI ((b.length:Int)-1)).toNat 0))≠0 then (iH m m a b (b.length:Int) (wJ (Int.tdiv (bf .u64 (bw .u64 (wJ (a.getD (0+(b.length:Int).toNat) 0)) 32) (wJ (a.getD (0+(wI ((b.length:Int)-1)).toNat) 0))) (wJ (b.getD (wI ((b.length:Int)-1)).toNat 0)))) (Int.tmod (bf .u64 (bw .u64 (wJ (a.getD (0+(b.length:Int).toNat) 0)) 32) (wJ (a.getD (0+(wI ((b.length:Int)-1)).toNat) 0))) (wJ (b.getD (wI ((b.length:Int)-1)).toNat 0)))).bind λz=>match z with
 | .inl y=>(jN m m y.1 y.2.1 y.2.2.1 y.2.2.2.1 0 0 y.2.1 (y.2.1.length:Int) 0).bind λA=>match A with
  | .inl g=>if 0<=g.2.2.1/\g.2.2.1<(g.1.length:Int)then if 0<=g.2.2.1/\g.2.2.1<(g.1.length:Int)then bif (qp .u64 (aJ .u64 (wJ ((wJ ((wJ (g.1.getD (0+g.2.2.1.toNat) 0))-g.2.2.2.2.1))-g.2.2.2.2.2.1)) 32) 1)==0 then some (wK g.2.2.2.1,(g.1.set (0+g.2.2.1.toNat) (wK (qp .u64 (wJ ((wJ ((wJ (g.1.getD (0+g.2.2.1.toNat) 0))-g.2.2.2.2.1))-g.2.2.2.2.2.1)) 4294967295)),(),()))else (jM m m (g.1.set (0+g.2.2.1.toNat) (wK (qp .u64 (wJ ((wJ ((wJ (g.1.getD (0+g.2.2.1.toNat) 0))-g.2.2.2.2.1))-g.2.2.2.2.2.1)) 4294967295))) g.2.2.1 g.2.2.2.1 0 g.2.1 (g.2.1.length:Int) 0).bind λB=>match B with
    | .inl x=>if 0<=x.2.1/\x.2.1<(x.1.length:Int)then if 0<=x.2.1/\x.2.1<(x.1.length:Int)then some (wK (wJ (x.2.2.1-1)),(x.1.set (0+x.2.1.toNat) (wK ((x.1.getD (0+x.2.1.toNat) 0)+(wK x.2.2.2.1))),(),()))else none else none
    | .inr e=>e.elim else none else none
  | .inr e=>e.elim
 | .inr e=>e.elim else none else none else none else none else none else none
def jQ:Nat->LI->Int->LI->LI->Int->Int->Option ((LI×Int×LI×Int×Unit)⊕Empty)
 |0,_,_,_,_,_,_=>none
 |n+1,a,b,c,d,f,h=>bif decide (h>=0)then if 0<=h/\h<=(wI ((wI (h+f))+1))/\(wI ((wI (h+f))+1))<=(d.length:Int)then if 0<d.length then (B3 m ((d.drop (0+h.toNat)).take ((wI ((wI (h+f))+1)).toNat-h.toNat)) c).bind λe=>if 0<=h/\h<(a.length:Int)then jQ n (a.set (0+h.toNat) e.1) b c (d.take (0+h.toNat)++(e.2.1++d.drop ((0+h.toNat)+((wI ((wI (h+f))+1)).toNat-h.toNat)))) f (wI (h-1))else none else none else none else some (.inl (a,b,d,f,()))
def ru (a:LI) (b:LI):Option YF:=(tp m a b).bind λE=>bif decide (E.1<0)then (tn m a).bind λF=>some (([],F.1,()),ul)else bif (b.length:Int)==1 then if(0:Int)<=0/\0<(b.length:Int)then (ya m a (b.getD 0 0)).bind λD=>(dm m ([D.1.2.1]:LI)).bind λG=>some ((D.1.1,G.1,()),ul)else none else if 0<=(wI ((b.length:Int)-1))/\(wI ((b.length:Int)-1))<(b.length:Int)then (tg m (b.getD (wI ((b.length:Int)-1)).toNat 0)).bind λz=>(tf m b z.1).bind λx=>if 0<=(wI ((a.length:Int)+1))/\(wI ((a.length:Int)+1))<=(wI ((a.length:Int)+1))/\(wI ((a.length:Int)+1))<=1073741824 then (tf m a z.1).bind λg=>if 0<g.1.length/\0<(List.replicate (wI ((a.length:Int)+1)).toNat (0:Int)).length then if 0<=(wI (((g.1.take (List.replicate (wI ((a.length:Int)+1)).toNat (0:Int)).length++(List.replicate (wI ((a.length:Int)+1)).toNat (0:Int)).drop g.1.length).length:Int)-(x.1.length:Int)))/\(wI (((g.1.take (List.replicate (wI ((a.length:Int)+1)).toNat (0:Int)).length++(List.replicate (wI ((a.length:Int)+1)).toNat (0:Int)).drop g.1.length).length:Int)-(x.1.length:Int)))<=(wI (((g.1.take (List.replicate (wI ((a.length:Int)+1)).toNat (0:Int)).length++(List.replicate (wI ((a.length:Int)+1)).toNat (0:Int)).drop g.1.length).length:Int)-(x.1.length:Int)))/\(wI (((g.1.take (List.replicate (wI ((a.length:Int)+1)).toNat (0:Int)).length++(List.replicate (wI ((a.length:Int)+1)).toNat (0:Int)).drop g.1.length).length:Int)-(x.1.length:Int)))<=1073741824 then (jQ m m (List.replicate (wI (((g.1.take (List.replicate (wI ((a.length:Int)+1)).toNat (0:Int)).length++(List.replicate (wI ((a.length:Int)+1)).toNat (0:Int)).drop g.1.length).length:Int)-(x.1.length:Int))).toNat (0:Int)) z.1 x.1 (g.1.take (List.replicate (wI ((a.length:Int)+1)).toNat (0:Int)).length++(List.replicate (wI ((a.length:Int)+1)).toNat (0:Int)).drop g.1.length) (x.1.length:Int) (wI (((List.replicate (wI (((g.1.take (List.replicate (wI ((a.length:Int)+1)).toNat (0:Int)).length++(List.replicate (wI ((a.length:Int)+1)).toNat (0:Int)).drop g.1.length).length:Int)-(x.1.length:Int))).toNat (0:Int)).length:Int)-1))).bind λH=>match H with
   | .inl y=>if(0:Int)<=0/\0<=y.2.2.2.1/\y.2.2.2.1<=(y.2.2.1.length:Int)then (dm m (y.2.2.1.take y.2.2.2.1.toNat)).bind λA=>(v9 m A.1 y.2.1).bind λB=>(dm m y.1).bind λC=>some ((C.1,B.1.1,()),ul)else none
   | .inr e=>e.elim else none else none else none else none
def lY:Nat->LI->LI->Option pE
 |0,_,_=>none
 |n+1,a,b=>(ru m a b).bind λg=>(th m b g.1.1).bind λx=>(v9 m x.1 1).bind λe=>(tp m e.1.1 b).bind λy=>bif decide (y.1>=0)then some (.inl (b,()))else lY n a e.1.1
def Cf (a:LI):Option R8:=bif (a.length:Int)==0 then some ([],ut)else (ye m a).bind λg=>(tf m ([1]:LI) (wI (Int.tdiv (wI (g.1+1)) 2))).bind λx=>(lY m m a x.1).bind λy=>match y with
  | .inl z=>some (z.1,ut)
  | .inr e=>e.elim
def wg (a:Bool) (b:LI):Option ((nD×Int×Unit)×Unit×Unit):=(jT m a b).bind λg=>bif decide (g.1<0)then some (((false,[],()),11,()),ut)else (dm m b).bind λx=>(Cf m x.1).bind λy=>(dJ m false y.1).bind λe=>some (((e.1.1,e.1.2.1,()),0,()),ut)
def tO (a:Bool) (b:LI) (c:Bool) (d:LI):Option jH:=(jT m a b).bind λe=>(jT m c d).bind λg=>bif decide (e.1<g.1)then some ((-1),ul)else bif decide (e.1>g.1)then some (1,ul)else (dm m b).bind λx=>(dm m d).bind λy=>(tp m x.1 y.1).bind λz=>some (wI (e.1*z.1),ul)
def CY (a:Bool) (b:Bool) (c:LI) (d:Int) (f:Int):Option (Ub×Unit×Unit×Unit):=(pa m b c).bind λe=>bif (Int.tmod (wI (d-(if(wI ((wI (2*(wI (f+3))))-e.1))>0 then(wI ((wI (2*(wI (f+3))))-e.1))else 0))) 2) !=0 then (jq m b c (wI ((if(wI ((wI (2*(wI (f+3))))-e.1))>0 then(wI ((wI (2*(wI (f+3))))-e.1))else 0)+1))).bind λy=>(wg m y.1.1 y.1.2.1).bind λg=>(tv m g.1.1.1 g.1.1.2.1 g.1.1.1 g.1.1.2.1).bind λA=>(tO m A.1.1 A.1.2.1 y.1.1 y.1.2.1).bind λC=>some ((false,g.1.1.1,g.1.1.2.1,wI (Int.tdiv (wI (d-(wI ((if(wI ((wI (2*(wI (f+3))))-e.1))>0 then(wI ((wI (2*(wI (f+3))))-e.1))else 0)+1)))) 2),C.1 !=0,()),ul)else (jq m b c (if(wI ((wI (2*(wI (f+3))))-e.1))>0 then(wI ((wI (2*(wI (f+3))))-e.1))else 0)).bind λz=>(wg m z.1.1 z.1.2.1).bind λx=>(tv m x.1.1.1 x.1.1.2.1 x.1.1.1 x.1.1.2.1).bind λB=>(tO m B.1.1 B.1.2.1 z.1.1 z.1.2.1).bind λD=>some ((false,x.1.1.1,x.1.1.2.1,wI (Int.tdiv (wI (d-(if(wI ((wI (2*(wI (f+3))))-e.1))>0 then(wI ((wI (2*(wI (f+3))))-e.1))else 0))) 2),D.1 !=0,()),ul)
def Cv (a:Bool) (b:Bool) (c:LI) (d:Int) (f:Bool):Option lg:=(pa m b c).bind λe=>some (wI ((wI (d+e.1))-1),ut)
def B5 (a:Bool) (b:LI) (c:Bool) (d:LI):Option wT:=(jU m a b (!c) d).bind λe=>some ((e.1.1,e.1.2.1,()),ul)
def Cg (a:Bool) (b:Bool) (c:LI) (d:Int) (f:Bool) (h:Int):Option ((nD×Int×Bool×Unit)×Unit×Unit×Unit):=(pa m b c).bind λC=>bif decide (h>C.1)then some (((false,[],()),(-1),false,()),ul)else (yu m b c h).bind λe=>(jq m e.1.1 e.1.2.1 h).bind λz=>(B5 m b c z.1.1 z.1.2.1).bind λg=>(ll m 1).bind λA=>(jq m A.1.1 A.1.2.1 (wI (h-1))).bind λB=>(tO m g.1.1 g.1.2.1 B.1.1 B.1.2.1).bind λx=>bif x.1==0 then bif f then (jT m g.1.1 g.1.2.1).bind λD=>bif D.1==0 then some (((e.1.1,e.1.2.1,()),1,!f,()),ul)else some (((e.1.1,e.1.2.1,()),1,false,()),ul)else (jT m g.1.1 g.1.2.1).bind λE=>bif E.1==0 then some (((e.1.1,e.1.2.1,()),x.1,!f,()),ul)else some (((e.1.1,e.1.2.1,()),x.1,false,()),ul)else (jT m g.1.1 g.1.2.1).bind λy=>bif y.1==0 then some (((e.1.1,e.1.2.1,()),x.1,!f,()),ul)else some (((e.1.1,e.1.2.1,()),x.1,false,()),ul)
def tk (a:Bool) (b:Bool) (c:LI) (d:Int) (f:Bool) (h:Int) (i:Int):Option (nD×Unit×Unit×Unit×Unit):=bif decide (h<=d)then (jq m b c (wI (d-h))).bind λJ=>bif a then (eA m J.1.1 J.1.2.1).bind λN=>some ((N.1.1,N.1.2.1,()),v4)else some ((J.1.1,J.1.2.1,()),v4)else (Cg m a b c d f (wI (h-d))).bind λe=>bif e.1.2.2.1 then bif a then (eA m e.1.1.1 e.1.1.2.1).bind λP=>some ((P.1.1,P.1.2.1,()),v4)else some ((e.1.1.1,e.1.1.2.1,()),v4)else bif i==1 then bif a then (ll m 1).bind λQ=>(jU m e.1.1.1 e.1.1.2.1 Q.1.1 Q.1.2.1).bind λK=>bif a then (eA m K.1.1 K.1.2.1).bind λR=>some ((R.1.1,R.1.2.1,()),v4)else some ((K.1.1,K.1.2.1,()),v4)else bif a then (eA m e.1.1.1 e.1.1.2.1).bind λS=>some ((S.1.1,S.1.2.1,()),v4)else some ((e.1.1.1,e.1.1.2.1,()),v4)else bif i==2 then bif !a then (ll m 1).bind λT=>(jU m e.1.1.1 e.1.1.2.1 T.1.1 T.1.2.1).bind λg=>bif a then (eA m g.1.1 g.1.2.1).bind λz=>some ((z.1.1,z.1.2.1,()),v4)else some ((g.1.1,g.1.2.1,()),v4)else bif a then (eA m e.1.1.1 e.1.1.2.1).bind λA=>some ((A.1.1,A.1.2.1,()),v4)else some ((e.1.1.1,e.1.1.2.1,()),v4)else bif i==3 then bif a then (eA m e.1.1.1 e.1.1.2.1).bind λB=>some ((B.1.1,B.1.2.1,()),v4)else some ((e.1.1.1,e.1.1.2.1,()),v4)else bif decide (e.1.2.1>0)then (ll m 1).bind λC=>(jU m e.1.1.1 e.1.1.2.1 C.1.1 C.1.2.1).bind λx=>bif a then (eA m x.1.1 x.1.2.1).bind λD=>some ((D.1.1,D.1.2.1,()),v4)else some ((x.1.1,x.1.2.1,()),v4)else bif e.1.2.1==0 then (jT m e.1.1.1 e.1.1.2.1).bind λL=>bif L.1 !=0 then (yv m e.1.1.1 e.1.1.2.1).bind λM=>bif M.1==0 then (ll m 1).bind λE=>(jU m e.1.1.1 e.1.1.2.1 E.1.1 E.1.2.1).bind λy=>bif a then (eA m y.1.1 y.1.2.1).bind λF=>some ((F.1.1,F.1.2.1,()),v4)else some ((y.1.1,y.1.2.1,()),v4)else bif a then (eA m e.1.1.1 e.1.1.2.1).bind λG=>some ((G.1.1,G.1.2.1,()),v4)else some ((e.1.1.1,e.1.1.2.1,()),v4)else bif a then (eA m e.1.1.1 e.1.1.2.1).bind λH=>some ((H.1.1,H.1.2.1,()),v4)else some ((e.1.1.1,e.1.1.2.1,()),v4)else bif a then (eA m e.1.1.1 e.1.1.2.1).bind λI=>some ((I.1.1,I.1.2.1,()),v4)else some ((e.1.1.1,e.1.1.2.1,()),v4)
def tM (a:Bool) (b:LI):Option Bo:=(tn m b).bind λg=>(dJ m false g.1).bind λe=>some ((e.1.1,e.1.2.1,()),ut)
def ma (m:Nat):Nat->Bool->LI->Int->LI->Int->Int->Option YI
 |0,_,_,_,_,_,_=>none
 |n+1,a,b,c,d,f,h=>bif decide (h<f)then if 0<=h/\h<(d.length:Int)then if 0<=(wI (32*h))then ma m n a b (bf .u64 c (bw .u64 (wJ (d.getD h.toNat 0)) (wI (32*h)))) d f (wI (h+1))else none else none else some (.inl ((a,b,()),c,()))
def Cu (a:Bool) (b:LI):Option YD:=(dm m b).bind λx=>bif decide ((x.1.length:Int)>2)then some ((0,false,()),ut)else (ma m m a b 0 x.1 (x.1.length:Int) 0).bind λy=>match y with
  | .inl g=>bif g.1.1 then bif decide (g.2.1>0)then bif decide (g.2.1<=9223372036854775808)then some ((wI ((wI (0-(wI (wJ (g.2.1-1)))))-1),true,()),ut)else bif decide (g.2.1<9223372036854775808)then bif !g.1.1 then some ((wI g.2.1,true,()),ut)else bif g.2.1==0 then some ((wI g.2.1,true,()),ut)else some ((0,false,()),ut)else some ((0,false,()),ut)else bif decide (g.2.1<9223372036854775808)then bif !g.1.1 then some ((wI g.2.1,true,()),ut)else bif g.2.1==0 then some ((wI g.2.1,true,()),ut)else some ((0,false,()),ut)else some ((0,false,()),ut)else bif decide (g.2.1<9223372036854775808)then bif !g.1.1 then some ((wI g.2.1,true,()),ut)else bif g.2.1==0 then some ((wI g.2.1,true,()),ut)else some ((0,false,()),ut)else some ((0,false,()),ut)
  | .inr e=>e.elim
def jo (m:Nat) (a:Int) (b:Bool):Option jH:=bif b then some (bf .u64 a 9223372036854775808,ul)else some (a,ul)
def ym (a:Bool) (b:Int):Option jH:=bif b==3 then (jo m 9218868437227405311 a).bind λe=>some (e.1,ul)else bif b==1 then bif !a then (jo m 9218868437227405311 a).bind λg=>some (g.1,ul)else bif b==2 then bif a then (jo m 9218868437227405311 a).bind λx=>some (x.1,ul)else (jo m 9218868437227405312 a).bind λy=>some (y.1,ul)else (jo m 9218868437227405312 a).bind λz=>some (z.1,ul)else bif b==2 then bif a then (jo m 9218868437227405311 a).bind λA=>some (A.1,ul)else (jo m 9218868437227405312 a).bind λB=>some (B.1,ul)else (jo m 9218868437227405312 a).bind λC=>some (C.1,ul)
def wv (a:Bool) (b:Bool) (c:LI) (d:Int) (f:Bool) (h:Int):Option jH:=(Cv m a b c d f).bind λe=>(tk m a b c d f (if(-1074)>(wI (e.1-52))then(-1074)else(wI (e.1-52))) h).bind λx=>(tM m x.1.1 x.1.2.1).bind λy=>(Cu m y.1.1 y.1.2.1).bind λg=>bif (wJ g.1.1)==9007199254740992 then bif decide ((wI ((wI ((if(-1074)>(wI (e.1-52))then(-1074)else(wI (e.1-52)))+1))+1075))>=2047)then (ym m a h).bind λz=>some (z.1,ul)else (jo m (bf .u64 (bw .u64 (wJ (wI ((wI ((if(-1074)>(wI (e.1-52))then(-1074)else(wI (e.1-52)))+1))+1075))) 52) 0) a).bind λA=>some (A.1,ul)else bif decide ((wJ g.1.1)<4503599627370496)then (jo m (wJ g.1.1) a).bind λB=>some (B.1,ul)else bif decide ((wI ((if(-1074)>(wI (e.1-52))then(-1074)else(wI (e.1-52)))+1075))>=2047)then (ym m a h).bind λC=>some (C.1,ul)else (jo m (bf .u64 (bw .u64 (wJ (wI ((if(-1074)>(wI (e.1-52))then(-1074)else(wI (e.1-52)))+1075))) 52) (wJ ((wJ g.1.1)-4503599627370496))) a).bind λD=>some (D.1,ul)
def Ez (a:Bool) (b:Bool) (c:LI) (d:Int) (f:Int):Option jH:=(nK m a b c d).bind λe=>bif e.1.1 then some (9221120237041090560,ul)else (pb m e.1.1 e.1.2.1 e.1.2.2.1 e.1.2.2.2.1).bind λx=>bif decide (x.1<0)then some (9221120237041090560,ul)else (pb m e.1.1 e.1.2.1 e.1.2.2.1 e.1.2.2.2.1).bind λy=>bif y.1==0 then some (0,ul)else (CY m e.1.1 e.1.2.1 e.1.2.2.1 e.1.2.2.2.1 56).bind λg=>(wv m g.1.1 g.1.2.1 g.1.2.2.1 g.1.2.2.2.1 g.1.2.2.2.2.1 f).bind λz=>some (z.1,ul)
def Ms (a:LI):Option lg:=(TX m a a).bind λe=>(Ez m e.1.1 e.1.2.1 e.1.2.2.1 e.1.2.2.2.1 0).bind λg=>some (g.1,ut)
def Kv (a:Int):Option lg:=(rW m a).bind λe=>bif e.1.1==2047 then bif e.1.2.1 !=0 then some (3,ut)else bif e.1.1==2047 then some (2,ut)else bif e.1.1==0 then bif e.1.2.1==0 then some (0,ut)else some (1,ut)else some (1,ut)else bif e.1.1==2047 then some (2,ut)else bif e.1.1==0 then bif e.1.2.1==0 then some (0,ut)else some (1,ut)else some (1,ut)
def yk (a:Bool) (b:LI) (c:Bool) (d:LI):Option Ue:=(dm m d).bind λy=>bif (y.1.length:Int)==0 then some (((false,[],()),(false,[],()),8,()),ul)else (dm m b).bind λD=>(ru m D.1 y.1).bind λe=>bif a then bif decide ((e.1.2.1.length:Int)>0)then (th m e.1.1 ([1]:LI)).bind λE=>(wb m y.1 e.1.2.1).bind λF=>(dJ m (!(a==c)) E.1).bind λz=>(dJ m false F.1).bind λA=>some (((z.1.1,z.1.2.1,()),(A.1.1,A.1.2.1,()),0,()),ul)else (dJ m (!(a==c)) e.1.1).bind λB=>(dJ m false e.1.2.1).bind λC=>some (((B.1.1,B.1.2.1,()),(C.1.1,C.1.2.1,()),0,()),ul)else (dJ m (!(a==c)) e.1.1).bind λg=>(dJ m false e.1.2.1).bind λx=>some (((g.1.1,g.1.2.1,()),(x.1.1,x.1.2.1,()),0,()),ul)
def CV (a:Bool) (b:Bool) (c:LI) (d:Int) (f:Bool) (h:Bool) (i:LI) (j:Int) (k:Int):Option (Ub×Unit×Unit×Unit×Unit):=(pa m h i).bind λe=>(pa m b c).bind λg=>(tM m b c).bind λy=>(jq m y.1.1 y.1.2.1 (if(wI ((wI ((wI (k+3))+e.1))-g.1))>0 then(wI ((wI ((wI (k+3))+e.1))-g.1))else 0)).bind λz=>(tM m h i).bind λA=>(yk m z.1.1 z.1.2.1 A.1.1 A.1.2.1).bind λx=>(jT m x.1.2.1.1 x.1.2.1.2.1).bind λB=>some ((!(b==h),x.1.1.1,x.1.1.2.1,wI ((wI (d-(if(wI ((wI ((wI (k+3))+e.1))-g.1))>0 then(wI ((wI ((wI (k+3))+e.1))-g.1))else 0)))-j),B.1 !=0,()),v4)
def tS (a:Bool) (b:Bool) (c:LI) (d:Int) (f:Bool) (h:Bool) (i:LI) (j:Int) (k:Int):Option MW:=(nK m a b c d).bind λe=>(nK m f h i j).bind λg=>bif e.1.1 then some (9221120237041090560,v4)else bif g.1.1 then some (9221120237041090560,v4)else (pb m g.1.1 g.1.2.1 g.1.2.2.1 g.1.2.2.2.1).bind λy=>bif y.1==0 then some (9221120237041090560,v4)else (pb m e.1.1 e.1.2.1 e.1.2.2.1 e.1.2.2.2.1).bind λz=>bif z.1==0 then some (0,v4)else (CV m e.1.1 e.1.2.1 e.1.2.2.1 e.1.2.2.2.1 g.1.1 g.1.2.1 g.1.2.2.1 g.1.2.2.2.1 56).bind λx=>(wv m x.1.1 x.1.2.1 x.1.2.2.1 x.1.2.2.2.1 x.1.2.2.2.2.1 k).bind λA=>some (A.1,v4)
def K7 (a:Int):Option pD:=(te m a).bind λe=>some (!e.1,ut)
def mc:Nat->LI->Int->Int->Option sS
 |0,_,_,_=>none
 |n+1,a,b,c=>bif decide (c<b)then if 0<=c/\c<(a.length:Int)then (K7 m (a.getD c.toNat 0)).bind λe=>bif e.1 then some (.inl (c,()))else mc n a b (wI (c+1))else none else some (.inr (.inl ()))
def KY (a:LI):Option jH:=(mc m m a (a.length:Int) 0).bind λg=>match g with
 | .inl x=>some (x.1,ul)
 | .inr (.inl y)=>some ((-1),ul)
 | .inr (.inr e)=>e.elim
def K8 (a:LI):Option vH:=(KY m a).bind λe=>some (decide (e.1>=0),ul)
def wE (a:LI):Option pD:=(K8 m a).bind λe=>some (!e.1,ut)
def rh:Nat->Int->LI->LI->Int->Int->Option pE
 |0,_,_,_,_,_=>none
 |n+1,a,b,c,d,f=>bif decide (f<d)then if 0<=f/\f<(c.length:Int)then (eC m (c.getD f.toNat 0)).bind λe=>(eC m a).bind λg=>(tS m e.1.1 e.1.2.1 e.1.2.2.1 e.1.2.2.2.1 g.1.1 g.1.2.1 g.1.2.2.1 g.1.2.2.2.1 0).bind λx=>if b.length+([x.1]:LI).length<=1073741824 then rh n a (b++([x.1]:LI)) c d (wI (f+1))else none else none else some (.inl (b,()))
def Mr (a:LI) (b:Int):Option R7:=(rh m m b ([]:LI) a (a.length:Int) 0).bind λx=>match x with
 | .inl g=>(wE m g.1).bind λy=>some ((g.1,y.1,()),ul)
 | .inr e=>e.elim
def XR (a:LI) (b:LI) (c:LI) (d:LI) (f:LI) (h:LI) (i:Int) (j:LI) (k:Int):Option (Bp×Unit×Unit×Unit×Unit):=(wF m a b c d f h i).bind λe=>bif e.1 !=0 then bif e.1 !=0 then some (([],e.1,()),v4)else (Ms m j).bind λx=>(Kv m x.1).bind λA=>bif A.1==0 then some (([],380,()),v4)else (te m x.1).bind λB=>bif !B.1 then some (([],233,()),v4)else (Mr m j x.1).bind λz=>bif !z.1.2.1 then some (([],233,()),v4)else some ((z.1.1,0,()),v4)else bif (j.length:Int) !=(a.length:Int)then some (([],2,()),v4)else (wE m j).bind λC=>bif !C.1 then some (([],4,()),v4)else bif decide (k<1)then some (([],350,()),v4)else bif decide (k>16)then some (([],350,()),v4)else bif e.1 !=0 then some (([],e.1,()),v4)else (Ms m j).bind λy=>(Kv m y.1).bind λD=>bif D.1==0 then some (([],380,()),v4)else (te m y.1).bind λE=>bif !E.1 then some (([],233,()),v4)else (Mr m j y.1).bind λg=>bif !g.1.2.1 then some (([],233,()),v4)else some ((g.1.1,0,()),v4)
def mb:Nat->LI->Int->Int->Option sS
 |0,_,_,_=>none
 |n+1,a,b,c=>bif decide (c<b)then if 0<=c/\c<(a.length:Int)then (te m (a.getD c.toNat 0)).bind λe=>bif !e.1 then some (.inl (4,()))else mb n a b (wI (c+1))else none else some (.inr (.inl ()))
def yn (a:LI):Option lg:=(mb m m a (a.length:Int) 0).bind λg=>match g with
 | .inl x=>some (x.1,ut)
 | .inr (.inl y)=>some (0,ut)
 | .inr (.inr e)=>e.elim
def C6 (a:LI) (b:Int):Option jH:=bif (a.length:Int) !=b then some (2,ul)else (yn m a).bind λe=>some (e.1,ul)
def jX:Nat->LI->LI->LI->LI->LI->LI->Int->Int->LI->Int->Int->Option sT
 |0,_,_,_,_,_,_,_,_,_,_,_=>none
 |n+1,a,b,c,d,f,h,i,j,k,l,o=>bif decide (o<l)then if 0<=o/\o<(k.length:Int)then bif (k.getD o.toNat 0)==1 then if 0<=j/\j<(c.length:Int)then (Kv m (c.getD j.toNat 0)).bind λe=>bif e.1==0 then some (.inl (true,()))else jX n a b c d f h i (wI (j+(wI ((wI (2*(k.getD o.toNat 0)))-1)))) k l (wI (o+1))else none else jX n a b c d f h i (wI (j+(wI ((wI (2*(k.getD o.toNat 0)))-1)))) k l (wI (o+1))else none else some (.inr (.inl ()))
def yG (a:LI) (b:LI) (c:LI) (d:LI) (f:LI) (h:LI) (i:Int):Option pD:=(jX m m a b c d f h i 0 b (b.length:Int) 0).bind λg=>match g with
 | .inl x=>some (x.1,ut)
 | .inr (.inl y)=>some (false,ut)
 | .inr (.inr e)=>e.elim
def mz (m:Nat):Nat->LI->LI->LI->Int->Int->Option pE
 |0,_,_,_,_,_=>none
 |n+1,a,b,c,d,f=>bif decide (f<d)then if 0<=f/\f<(c.length:Int)then if 0<=(c.getD f.toNat 0)/\(c.getD f.toNat 0)<(a.length:Int)then if 0<=f/\f<(b.length:Int)then mz m n a (b.set (0+f.toNat) (a.getD (c.getD f.toNat 0).toNat 0)) c d (wI (f+1))else none else none else none else some (.inl (b,()))
def tB (a:LI) (b:LI):Option vI:=if 0<=(a.length:Int)/\(a.length:Int)<=(a.length:Int)/\(a.length:Int)<=1073741824 then (mz m m a (List.replicate (a.length:Int).toNat (0:Int)) b (b.length:Int) 0).bind λg=>match g with
 | .inl x=>some (x.1,ul)
 | .inr e=>e.elim else none
def my:Nat->dA->LI->Int->Int->Option YU
 |0,_,_,_,_=>none
 |n+1,a,b,c,d=>bif decide (d<c)then if 0<=d/\d<(b.length:Int)then (eC m (b.getD d.toNat 0)).bind λe=>if 0<=d/\d<(a.length:Int)then my n (a.set d.toNat ([(e.1.1,((e.1.2.1,e.1.2.2.1),e.1.2.2.2.1))]:List bE)) b c (wI (d+1))else none else none else some (.inl (a,()))
def rH (a:LI):Option YQ:=if 0<=(a.length:Int)/\(a.length:Int)<=(a.length:Int)/\(a.length:Int)<=1073741824 then (my m m (List.replicate (a.length:Int).toNat ([]:List bE)) a (a.length:Int) 0).bind λg=>match g with
 | .inl x=>some (x.1,ut)
 | .inr e=>e.elim else none
def jt:Nat->cW->Bool->Bool->LI->Int->Int->Bool->LI->cW->Int->Int->Option ((cW×lC×Int×nD×Unit)⊕Empty)
 |0,_,_,_,_,_,_,_,_,_,_,_=>none
 |n+1,a,b,c,d,f,h,i,j,k,l,o=>bif decide (o<l)then if 0<=o/\o<(k.length:Int)then (jq m (k.getD (0+o.toNat) qz).2.1.1 (k.getD (0+o.toNat) qz).2.1.2 (wI ((k.getD (0+o.toNat) qz).2.2-h))).bind λe=>(jU m i j e.1.1 e.1.2.1).bind λg=>jt n a b c d f h g.1.1 g.1.2.1 k l (wI (o+1))else none else some (.inl (a,(b,c,d,f,()),h,(i,j,()),()))
def ju:Nat->cW->Bool->Bool->LI->Int->cW->Int->Int->Int->Option ((cW×lC×Unit)⊕(cW×lC×cW×Int×Unit)⊕Empty)
 |0,_,_,_,_,_,_,_,_,_=>none
 |n+1,a,b,c,d,f,h,i,j,k=>bif decide (k<j)then if 0<=k/\k<(a.length:Int)then (iM m (a.getD (0+k.toNat) qz).1 (a.getD (0+k.toNat) qz).2.1.1 (a.getD (0+k.toNat) qz).2.1.2 (a.getD (0+k.toNat) qz).2.2).bind λe=>bif !e.1.2.1 then (rF m).bind λg=>some (.inl (a,(g.1.1,g.1.2.1,g.1.2.2.1,g.1.2.2.2.1,()),()))else if h.length+([(e.1.1.1,((e.1.1.2.1,e.1.1.2.2.1),e.1.1.2.2.2.1))]:List bE).length<=1073741824 then ju n a b c d f (h++([(e.1.1.1,((e.1.1.2.1,e.1.1.2.2.1),e.1.1.2.2.2.1))]:List bE)) (if e.1.1.2.2.2.1<i then e.1.1.2.2.2.1 else i) j (wI (k+1))else none else none else some (.inr (.inl (a,(b,c,d,f,()),h,i,())))
def rL (a:List bE):Option (lC×cW×Unit):=(ju m m a false false ([]:LI) 0 ([]:List bE) 0 (a.length:Int) 0).bind λA=>match A with
 | .inl x=>some ((x.2.1.1,x.2.1.2.1,x.2.1.2.2.1,x.2.1.2.2.2.1,()),(x.1,()))
 | .inr (.inl g)=>(jt m m g.1 g.2.1.1 g.2.1.2.1 g.2.1.2.2.1 g.2.1.2.2.2.1 g.2.2.2.1 false ([]:LI) g.2.2.1 (g.2.2.1.length:Int) 0).bind λB=>match B with
  | .inl y=>(ke m y.2.2.2.1.1 y.2.2.2.1.2.1 y.2.2.1).bind λz=>some ((z.1.1,z.1.2.1,z.1.2.2.1,z.1.2.2.2.1,()),(y.1,()))
  | .inr e=>e.elim
 | .inr (.inr e)=>e.elim
def yC (a:List cW) (b:Int):Option (lC×dA×Unit×Unit):=if 0<=b/\b<(a.length:Int)then (rL m (a.getD b.toNat ([]:List bE))).bind λe=>some ((e.1.1,e.1.2.1,e.1.2.2.1,e.1.2.2.2.1,()),(a.set b.toNat e.2.1,(),()))else none
def K6 (a:Bool) (b:Bool) (c:LI) (d:Int):Option (Ub×Unit×Unit):=(tM m b c).bind λe=>some ((b,e.1.1,e.1.2.1,d,false,()),ut)
def rZ (a:Bool) (b:Bool) (c:LI) (d:Int) (f:Int):Option jH:=(nK m a b c d).bind λe=>bif e.1.1 then some (9221120237041090560,ul)else (pb m e.1.1 e.1.2.1 e.1.2.2.1 e.1.2.2.2.1).bind λx=>bif x.1==0 then some (0,ul)else (K6 m e.1.1 e.1.2.1 e.1.2.2.1 e.1.2.2.2.1).bind λg=>(wv m g.1.1 g.1.2.1 g.1.2.2.1 g.1.2.2.2.1 g.1.2.2.2.2.1 f).bind λy=>some (y.1,ul)
def yD (a:List cW) (b:Int) (c:Int) (d:Int):Option (Unit×dA×Unit×Unit×Unit×Unit):=if 0<=b/\b<(a.length:Int)then (eC m c).bind λg=>(eC m d).bind λx=>(gO m g.1.1 g.1.2.1 g.1.2.2.1 g.1.2.2.2.1 x.1.1 x.1.2.1 x.1.2.2.1 x.1.2.2.2.1).bind λy=>(ze m y.1.1 y.1.2.1 y.1.2.2.1 y.1.2.2.2.1).bind λe=>if(a.getD b.toNat ([]:List bE)).length+([(e.1.1,((e.1.2.1,e.1.2.2.1),e.1.2.2.2.1))]:List bE).length<=1073741824 then if 0<=b/\b<(a.length:Int)then if b.toNat=b.toNat then some ((),(a.set b.toNat ((a.getD b.toNat ([]:List bE))++([(e.1.1,((e.1.2.1,e.1.2.2.1),e.1.2.2.2.1))]:List bE)),(),(),(),()))else none else none else none else none
def mA:Nat->LI->LI->LI->dA->LI->Int->Int->Int->Int->Option ((LI×LI×LI×dA×LI×Int×Int×Unit)⊕Empty)
 |0,_,_,_,_,_,_,_,_,_=>none
 |n+1,a,b,c,d,f,h,i,j,k=>if 0<=(wI (h+1))/\(wI (h+1))<(a.length:Int)then bif decide (i<(a.getD (wI (h+1)).toNat 0))then if 0<=i/\i<(b.length:Int)then if 0<=i/\i<(c.length:Int)then if 0<=h/\h<(f.length:Int)then (yD m d (b.getD i.toNat 0) (c.getD i.toNat 0) (f.getD (0+h.toNat) 0)).bind λe=>mA n a b c e.2.1 f h (wI (i+1)) j k else none else none else none else some (.inl (a,b,c,d,f,j,k,()))else none
def mB:Nat->LI->LI->LI->dA->LI->Int->Int->Option (Bp⊕(LI×Unit)⊕Empty)
 |0,_,_,_,_,_,_,_=>none
 |n+1,a,b,c,d,f,h,i=>bif decide (i<h)then (yC m d i).bind λx=>(rZ m x.1.1 x.1.2.1 x.1.2.2.1 x.1.2.2.2.1 0).bind λy=>if 0<=i/\i<(f.length:Int)then if 0<=i/\i<((f.set (0+i.toNat) y.1).length:Int)then (te m ((f.set (0+i.toNat) y.1).getD (0+i.toNat) 0)).bind λz=>bif !z.1 then some (.inl ([],233,()))else if 0<=i/\i<(a.length:Int)then (mA m m a b c x.2.1 (f.set (0+i.toNat) y.1) i (a.getD i.toNat 0) h i).bind λA=>match A with
    | .inl g=>mB n g.1 g.2.1 g.2.2.1 g.2.2.2.1 g.2.2.2.2.1 g.2.2.2.2.2.1 (wI (g.2.2.2.2.2.2.1+1))
    | .inr e=>e.elim else none else none else none else some (.inr (.inl (f,())))
def tD (a:LI) (b:LI) (c:LI) (d:LI):Option (Bp×Unit×Unit×Unit×Unit×Unit):=(rH m d).bind λx=>if 0<=(d.length:Int)/\(d.length:Int)<=(d.length:Int)/\(d.length:Int)<=1073741824 then (mB m m a b c x.1 (List.replicate (d.length:Int).toNat (0:Int)) (d.length:Int) 0).bind λy=>match y with
 | .inl g=>some ((g.1,g.2.1,()),wr)
 | .inr (.inl z)=>some ((z.1,0,()),wr)
 | .inr (.inr e)=>e.elim else none
def jW:Nat->LI->LI->LI->LI->LI->LI->LI->Int->LI->Int->Int->LI->Int->Int->Option pE
 |0,_,_,_,_,_,_,_,_,_,_,_,_,_,_=>none
 |n+1,a,b,c,d,f,h,i,j,k,l,o,p,q,r=>bif decide (r<q)then if 0<=r/\r<(p.length:Int)then bif (p.getD r.toNat 0)==1 then if 0<=l/\l<(a.length:Int)then (eC m (a.getD l.toNat 0)).bind λI=>if 0<=o/\o<(d.length:Int)then (eC m (d.getD o.toNat 0)).bind λJ=>(tS m I.1.1 I.1.2.1 I.1.2.2.1 I.1.2.2.2.1 J.1.1 J.1.2.1 J.1.2.2.1 J.1.2.2.2.1 0).bind λN=>if 0<=l/\l<(k.length:Int)then jW n a b c d f h i j (k.set (0+l.toNat) N.1) (wI (l+(p.getD r.toNat 0))) (wI ((wI (o+(wI (2*(p.getD r.toNat 0)))))-1)) p q (wI (r+1))else none else none else none else if 0<=o/\o<(d.length:Int)then (eC m (d.getD o.toNat 0)).bind λE=>if 0<=(wI (o+1))/\(wI (o+1))<(d.length:Int)then (eC m (d.getD (wI (o+1)).toNat 0)).bind λx=>if 0<=(wI (o+2))/\(wI (o+2))<(d.length:Int)then (eC m (d.getD (wI (o+2)).toNat 0)).bind λF=>(gO m E.1.1 E.1.2.1 E.1.2.2.1 E.1.2.2.2.1 F.1.1 F.1.2.1 F.1.2.2.1 F.1.2.2.2.1).bind λK=>(gO m x.1.1 x.1.2.1 x.1.2.2.1 x.1.2.2.2.1 x.1.1 x.1.2.1 x.1.2.2.1 x.1.2.2.2.1).bind λL=>(FX m K.1.1 K.1.2.1 K.1.2.2.1 K.1.2.2.2.1 L.1.1 L.1.2.1 L.1.2.2.1 L.1.2.2.2.1).bind λG=>if 0<=l/\l<(a.length:Int)then (eC m (a.getD l.toNat 0)).bind λe=>if 0<=(wI (l+1))/\(wI (l+1))<(a.length:Int)then (eC m (a.getD (wI (l+1)).toNat 0)).bind λg=>(gO m e.1.1 e.1.2.1 e.1.2.2.1 e.1.2.2.2.1 F.1.1 F.1.2.1 F.1.2.2.1 F.1.2.2.2.1).bind λy=>(gO m g.1.1 g.1.2.1 g.1.2.2.1 g.1.2.2.2.1 x.1.1 x.1.2.1 x.1.2.2.1 x.1.2.2.2.1).bind λz=>(FX m y.1.1 y.1.2.1 y.1.2.2.1 y.1.2.2.2.1 z.1.1 z.1.2.1 z.1.2.2.1 z.1.2.2.2.1).bind λA=>(tS m A.1.1 A.1.2.1 A.1.2.2.1 A.1.2.2.2.1 G.1.1 G.1.2.1 G.1.2.2.1 G.1.2.2.2.1 0).bind λH=>if 0<=l/\l<(k.length:Int)then (gO m g.1.1 g.1.2.1 g.1.2.2.1 g.1.2.2.2.1 E.1.1 E.1.2.1 E.1.2.2.1 E.1.2.2.2.1).bind λB=>(gO m e.1.1 e.1.2.1 e.1.2.2.1 e.1.2.2.2.1 x.1.1 x.1.2.1 x.1.2.2.1 x.1.2.2.2.1).bind λC=>(FX m B.1.1 B.1.2.1 B.1.2.2.1 B.1.2.2.2.1 C.1.1 C.1.2.1 C.1.2.2.1 C.1.2.2.2.1).bind λD=>(tS m D.1.1 D.1.2.1 D.1.2.2.1 D.1.2.2.2.1 G.1.1 G.1.2.1 G.1.2.2.1 G.1.2.2.2.1 0).bind λM=>if 0<=(wI (l+1))/\(wI (l+1))<((k.set (0+l.toNat) H.1).length:Int)then jW n a b c d f h i j ((k.set (0+l.toNat) H.1).set (0+(wI (l+1)).toNat) M.1) (wI (l+(p.getD r.toNat 0))) (wI ((wI (o+(wI (2*(p.getD r.toNat 0)))))-1)) p q (wI (r+1))else none else none else none else none else none else none else none else none else some (.inl (k,()))
def tA (a:LI) (b:LI) (c:LI) (d:LI) (f:LI) (h:LI) (i:Int) (j:LI):Option R6:=if 0<=(j.length:Int)/\(j.length:Int)<=(j.length:Int)/\(j.length:Int)<=1073741824 then (jW m m j a b c d f h i (List.replicate (j.length:Int).toNat (0:Int)) 0 0 b (b.length:Int) 0).bind λx=>match x with
 | .inl g=>(yn m g.1).bind λy=>bif y.1 !=0 then some (([],233,()),ul)else some ((g.1,0,()),ul)
 | .inr e=>e.elim else none
def mw (m:Nat):Nat->LI->LI->LI->Int->Int->Option pE
 |0,_,_,_,_,_=>none
 |n+1,a,b,c,d,f=>bif decide (f<d)then if 0<=f/\f<(c.length:Int)then if 0<=f/\f<(a.length:Int)then if 0<=(c.getD f.toNat 0)/\(c.getD f.toNat 0)<(b.length:Int)then mw m n a (b.set (0+(c.getD f.toNat 0).toNat) (a.getD f.toNat 0)) c d (wI (f+1))else none else none else none else some (.inl (b,()))
def tx (a:LI) (b:LI):Option vI:=if 0<=(a.length:Int)/\(a.length:Int)<=(a.length:Int)/\(a.length:Int)<=1073741824 then (mw m m a (List.replicate (a.length:Int).toNat (0:Int)) b (b.length:Int) 0).bind λg=>match g with
 | .inl x=>some (x.1,ul)
 | .inr e=>e.elim else none
def nq:Nat->LI->LI->LI->LI->LI->LI->Int->dA->LI->Int->Int->Option ((gL×dA×LI×Int×Unit)⊕Empty)
 |0,_,_,_,_,_,_,_,_,_,_,_=>none
 |n+1,a,b,c,d,f,h,i,j,k,l,o=>if 0<=(wI (l+1))/\(wI (l+1))<(d.length:Int)then bif decide (o<(d.getD (wI (l+1)).toNat 0))then if 0<=o/\o<(h.length:Int)then if 0<=o/\o<(f.length:Int)then if 0<=(f.getD o.toNat 0)/\(f.getD o.toNat 0)<(k.length:Int)then (yD m j l (h.getD o.toNat 0) (k.getD (0+(f.getD o.toNat 0).toNat) 0)).bind λe=>nq n a b c d f h i e.2.1 k l (wI (o+1))else none else none else none else some (.inl ((a,b,c,d,f,h,i,()),j,k,l,()))else none
def fw:Nat->LI->LI->LI->LI->LI->LI->Int->dA->LI->Int->Option tZ
 |0,_,_,_,_,_,_,_,_,_,_=>none
 |n+1,a,b,c,d,f,h,i,j,k,l=>bif decide (l>=0)then if 0<=l/\l<(d.length:Int)then (nq m m a b c d f h i j k l (d.getD l.toNat 0)).bind λz=>match z with
   | .inl g=>(yC m g.2.1 g.2.2.2.1).bind λx=>(rZ m x.1.1 x.1.2.1 x.1.2.2.1 x.1.2.2.2.1 0).bind λy=>if 0<=g.2.2.2.1/\g.2.2.2.1<(g.2.2.1.length:Int)then if 0<=g.2.2.2.1/\g.2.2.2.1<((g.2.2.1.set (0+g.2.2.2.1.toNat) y.1).length:Int)then (te m ((g.2.2.1.set (0+g.2.2.2.1.toNat) y.1).getD (0+g.2.2.2.1.toNat) 0)).bind λA=>bif !A.1 then some (.inl ([],233,()))else fw n g.1.1 g.1.2.1 g.1.2.2.1 g.1.2.2.2.1 g.1.2.2.2.2.1 g.1.2.2.2.2.2.1 g.1.2.2.2.2.2.2.1 x.2.1 (g.2.2.1.set (0+g.2.2.2.1.toNat) y.1) (wI (g.2.2.2.1-1))else none else none
   | .inr e=>e.elim else none else some (.inr (.inl ((a,b,c,d,f,h,i,()),k,())))
def Ap (a:LI) (b:LI) (c:LI) (d:LI) (f:LI) (h:LI) (i:Int) (j:LI):Option R6:=(wF m a b c d f h i).bind λD=>bif D.1==0 then (C6 m j (a.length:Int)).bind λE=>bif E.1==0 then (yG m a b c d f h i).bind λp=>bif p.1 then some (([],9,()),ul)else bif E.1 !=0 then some (([],E.1,()),ul)else (tB m j a).bind λq=>(tD m d f h q.1).bind λM=>bif M.1.2.1 !=0 then some (([],M.1.2.1,()),ul)else (tA m a b c d f h i M.1.1).bind λz=>bif z.1.2.1 !=0 then some (([],z.1.2.1,()),ul)else (rH m z.1.1).bind λr=>if 0<=(z.1.1.length:Int)/\(z.1.1.length:Int)<=(z.1.1.length:Int)/\(z.1.1.length:Int)<=1073741824 then (fw m m a b c d f h i r.1 (List.replicate (z.1.1.length:Int).toNat (0:Int)) (wI ((z.1.1.length:Int)-1))).bind λs=>match s with
       | .inl o=>some ((o.1,o.2.1,()),ul)
       | .inr (.inl F)=>(tx m F.2.1 F.1.1).bind λN=>some ((N.1,0,()),ul)
       | .inr (.inr e)=>e.elim else none else bif E.1 !=0 then some (([],E.1,()),ul)else (tB m j a).bind λP=>(tD m d f h P.1).bind λA=>bif A.1.2.1 !=0 then some (([],A.1.2.1,()),ul)else (tA m a b c d f h i A.1.1).bind λg=>bif g.1.2.1 !=0 then some (([],g.1.2.1,()),ul)else (rH m g.1.1).bind λQ=>if 0<=(g.1.1.length:Int)/\(g.1.1.length:Int)<=(g.1.1.length:Int)/\(g.1.1.length:Int)<=1073741824 then (fw m m a b c d f h i Q.1 (List.replicate (g.1.1.length:Int).toNat (0:Int)) (wI ((g.1.1.length:Int)-1))).bind λR=>match R with
      | .inl G=>some ((G.1,G.2.1,()),ul)
      | .inr (.inl H)=>(tx m H.2.1 H.1.1).bind λS=>some ((S.1,0,()),ul)
      | .inr (.inr e)=>e.elim else none else bif D.1==0 then (yG m a b c d f h i).bind λT=>bif T.1 then some (([],9,()),ul)else bif D.1 !=0 then some (([],D.1,()),ul)else (tB m j a).bind λU=>(tD m d f h U.1).bind λB=>bif B.1.2.1 !=0 then some (([],B.1.2.1,()),ul)else (tA m a b c d f h i B.1.1).bind λx=>bif x.1.2.1 !=0 then some (([],x.1.2.1,()),ul)else (rH m x.1.1).bind λV=>if 0<=(x.1.1.length:Int)/\(x.1.1.length:Int)<=(x.1.1.length:Int)/\(x.1.1.length:Int)<=1073741824 then (fw m m a b c d f h i V.1 (List.replicate (x.1.1.length:Int).toNat (0:Int)) (wI ((x.1.1.length:Int)-1))).bind λW=>match W with
       | .inl I=>some ((I.1,I.2.1,()),ul)
       | .inr (.inl J)=>(tx m J.2.1 J.1.1).bind λX=>some ((X.1,0,()),ul)
       | .inr (.inr e)=>e.elim else none else bif D.1 !=0 then some (([],D.1,()),ul)else (tB m j a).bind λY=>(tD m d f h Y.1).bind λC=>bif C.1.2.1 !=0 then some (([],C.1.2.1,()),ul)else (tA m a b c d f h i C.1.1).bind λy=>bif y.1.2.1 !=0 then some (([],y.1.2.1,()),ul)else (rH m y.1.1).bind λZ=>if 0<=(y.1.1.length:Int)/\(y.1.1.length:Int)<=(y.1.1.length:Int)/\(y.1.1.length:Int)<=1073741824 then (fw m m a b c d f h i Z.1 (List.replicate (y.1.1.length:Int).toNat (0:Int)) (wI ((y.1.1.length:Int)-1))).bind λk=>match k with
      | .inl K=>some ((K.1,K.2.1,()),ul)
      | .inr (.inl L)=>(tx m L.2.1 L.1.1).bind λl=>some ((l.1,0,()),ul)
      | .inr (.inr e)=>e.elim else none
def lS:Nat->LI->LI->Bool->Bool->LI->Int->cW->Int->Int->Option tV
 |0,_,_,_,_,_,_,_,_,_=>none
 |n+1,a,b,c,d,f,h,i,j,k=>bif decide (k<j)then if 0<=k/\k<(a.length:Int)then (eC m (a.getD k.toNat 0)).bind λg=>if 0<=k/\k<(b.length:Int)then (eC m (b.getD (0+k.toNat) 0)).bind λx=>(gO m g.1.1 g.1.2.1 g.1.2.2.1 g.1.2.2.2.1 x.1.1 x.1.2.1 x.1.2.2.1 x.1.2.2.2.1).bind λe=>if i.length+([(e.1.1,((e.1.2.1,e.1.2.2.1),e.1.2.2.2.1))]:List bE).length<=1073741824 then lS n a b c d f h (i++([(e.1.1,((e.1.2.1,e.1.2.2.1),e.1.2.2.2.1))]:List bE)) j (wI (k+1))else none else none else none else some (.inl (b,(c,d,f,h,()),i,()))
def xY (a:LI) (b:LI):Option (lC×Unit×LI×Unit):=(lS m m a b false false ([]:LI) 0 ([]:List bE) (a.length:Int) 0).bind λy=>match y with
 | .inl x=>(zr m x.2.2.1).bind λg=>some ((g.1.1,g.1.2.1,g.1.2.2.1,g.1.2.2.2.1,()),((),x.1,()))
 | .inr e=>e.elim
def np:Nat->LI->LI->Int->Int->Int->Option pE
 |0,_,_,_,_,_=>none
 |n+1,a,b,c,d,f=>bif decide (f<d)then if 0<=f/\f<(a.length:Int)then (eC m (a.getD (0+f.toNat) 0)).bind λe=>(eC m c).bind λg=>if 0<=f/\f<(b.length:Int)then (eC m (b.getD f.toNat 0)).bind λx=>(gO m g.1.1 g.1.2.1 g.1.2.2.1 g.1.2.2.2.1 x.1.1 x.1.2.1 x.1.2.2.1 x.1.2.2.2.1).bind λy=>(FX m e.1.1 e.1.2.1 e.1.2.2.1 e.1.2.2.2.1 y.1.1 y.1.2.1 y.1.2.2.1 y.1.2.2.2.1).bind λz=>(rZ m z.1.1 z.1.2.1 z.1.2.2.1 z.1.2.2.2.1 0).bind λA=>if 0<=f/\f<(a.length:Int)then np n (a.set (0+f.toNat) A.1) b c d (wI (f+1))else none else none else none else some (.inl (a,()))
def EB (a:LI) (b:LI):Option (Bool×LI×Unit×Unit):=(xY m b a).bind λg=>(rZ m g.1.1 g.1.2.1 g.1.2.2.1 g.1.2.2.2.1 0).bind λx=>(te m x.1).bind λz=>bif !z.1 then some (false,(g.2.2.1,(),()))else (np m m g.2.2.1 b x.1 (g.2.2.1.length:Int) 0).bind λA=>match A with
  | .inl y=>(wE m y.1).bind λB=>some (B.1,(y.1,(),()))
  | .inr e=>e.elim
def ri:Nat->LI->LI->List LI->LI->Int->Int->Int->Option (Uc⊕Uc⊕Empty)
 |0,_,_,_,_,_,_,_=>none
 |n+1,a,b,c,d,f,h,i=>bif decide (i<h)then if 0<=i/\i<(c.length:Int)then (EB m d (c.getD (0+i.toNat) ([]:LI))).bind λe=>bif !e.1 then some (.inl ((a,b,c,()),[],233,()))else ri n a b c e.2.1 f h (wI (i+1))else none else some (.inr (.inl ((a,b,c,()),d,f,())))
def lU:Nat->LI->LI->List LI->LI->Int->Option (Uc⊕(Fc×LI×Unit)⊕Empty)
 |0,_,_,_,_,_=>none
 |n+1,a,b,c,d,f=>bif decide (f<2)then (ri m m a b c d f (c.length:Int) 0).bind λy=>match y with
   | .inl g=>some (.inl ((g.1.1,g.1.2.1,g.1.2.2.1,()),g.2.1,g.2.2.1,()))
   | .inr (.inl x)=>lU n x.1.1 x.1.2.1 x.1.2.2.1 x.2.1 (wI (x.2.2.1+1))
   | .inr (.inr e)=>e.elim else some (.inr (.inl ((a,b,c,()),d,())))
def T4 (a:LI) (b:LI) (c:List LI) (d:LI) (f:LI) (h:LI) (i:LI) (j:LI) (k:LI) (l:Int):Option (Bp×Fc×Unit×Unit):=if 0<=(wI ((c.length:Int)-1))/\(wI ((c.length:Int)-1))<(c.length:Int)then (Ap m d f h i j k l (c.getD (0+(wI ((c.length:Int)-1)).toNat) ([]:LI))).bind λz=>bif z.1.2.1 !=0 then some (([],z.1.2.1,()),((a,b,c,()),(),()))else (xY m (c.getD (0+(wI ((c.length:Int)-1)).toNat) ([]:LI)) z.1.1).bind λg=>(rZ m g.1.1 g.1.2.1 g.1.2.2.1 g.1.2.2.2.1 0).bind λA=>(te m A.1).bind λB=>bif !B.1 then some (([],233,()),((a,b,c,()),(),()))else if a.length+([A.1]:LI).length<=1073741824 then (lU m m (a++([A.1]:LI)) b c g.2.2.1 0).bind λC=>match C with
   | .inl x=>some ((x.2.1,x.2.2.1,()),((x.1.1,x.1.2.1,x.1.2.2.1,()),(),()))
   | .inr (.inl y)=>some ((y.2.1,0,()),((y.1.1,y.1.2.1,y.1.2.2.1,()),(),()))
   | .inr (.inr e)=>e.elim else none else none
def rQ:Nat->Int->LI->LI->LI->LI->LI->LI->Int->LI->LI->List LI->LI->LI->List LI->Option YM
 |0,_,_,_,_,_,_,_,_,_,_,_,_,_,_=>none
 |n+1,a,b,c,d,f,h,i,j,k,l,o,p,q,r=>(T4 m p q r b c d f h i j).bind λe=>bif e.1.2.1 !=0 then some (.inl (([],[],([]:List LI),()),e.1.2.1,()))else bif (e.2.1.1.length:Int)==a then some (.inl ((e.2.1.1,e.2.1.2.1,e.2.1.2.2.1,()),0,()))else (Ms m e.1.1).bind λg=>(Kv m g.1).bind λy=>bif y.1==0 then some (.inl ((e.2.1.1,e.2.1.2.1,e.2.1.2.2.1,()),0,()))else (Mr m e.1.1 g.1).bind λx=>(te m g.1).bind λz=>bif !z.1 then some (.inl (([],[],([]:List LI),()),233,()))else bif !x.1.2.1 then some (.inl (([],[],([]:List LI),()),233,()))else if e.2.1.2.1.length+([g.1]:LI).length<=1073741824 then if e.2.1.2.2.1.length+([x.1.1]:List LI).length<=1073741824 then rQ n a b c d f h i j k l o e.2.1.1 (e.2.1.2.1++([g.1]:LI)) (e.2.1.2.2.1++([x.1.1]:List LI))else none else none
def Mv (a:LI) (b:LI) (c:LI) (d:LI) (f:LI) (h:LI) (i:Int) (j:LI) (k:Int):Option YX:=(XR m a b c d f h i j k).bind λx=>bif x.1.2.1 !=0 then some ((([],[],([]:List LI),()),x.1.2.1,()),v4)else (rQ m m k a b c d f h i ([]:LI) ([]:LI) ([]:List LI) ([]:LI) ([]:LI) ([x.1.1]:List LI)).bind λy=>match y with
  | .inl g=>some (((g.1.1,g.1.2.1,g.1.2.2.1,()),g.2.1,()),v4)
  | .inr e=>e.elim
def mv (m:Nat):Nat->LI->Int->Int->Option sT
 |0,_,_,_=>none
 |n+1,a,b,c=>bif decide (c<b)then if 0<=c/\c<(a.length:Int)then if 0<=(wI (c+1))/\(wI (c+1))<(a.length:Int)then bif decide ((a.getD c.toNat 0)>(a.getD (wI (c+1)).toNat 0))then some (.inl (false,()))else mv m n a b (wI (c+1))else none else none else some (.inr (.inl ()))
def CU (a:LI) (b:Int) (c:Int):Option (Bool×Unit×Unit×Unit×Unit):=bif (a.length:Int) !=(wI (b+1))then some (false,v4)else if(0:Int)<=0/\0<(a.length:Int)then bif (a.getD 0 0) !=0 then some (false,v4)else if 0<=b/\b<(a.length:Int)then bif (a.getD b.toNat 0) !=c then some (false,v4)else (mv m m a b 0).bind λg=>match g with
    | .inl x=>some (x.1,v4)
    | .inr (.inl y)=>some (true,v4)
    | .inr (.inr e)=>e.elim else none else none
def kj (m:Nat):Nat->LI->LI->LI->LI->LI->LI->Int->Int->Int->Int->Int->Int->Int->Option (IR⊕(gL×Int×Int×Int×Int×Int×Unit)⊕Empty)
 |0,_,_,_,_,_,_,_,_,_,_,_,_,_=>none
 |n+1,a,b,c,d,f,h,i,j,k,l,o,p,q=>if 0<=(wI (p+1))/\(wI (p+1))<(d.length:Int)then bif decide (q<(d.getD (wI (p+1)).toNat 0))then if 0<=q/\q<(f.length:Int)then bif decide ((f.getD q.toNat 0)<=o)then some (.inl (false,()))else if 0<=q/\q<(f.length:Int)then bif decide ((f.getD q.toNat 0)>=j)then some (.inl (false,()))else if 0<=p/\p<(d.length:Int)then bif decide (q>(d.getD p.toNat 0))then if 0<=q/\q<(f.length:Int)then if 0<=(wI (q-1))/\(wI (q-1))<(f.length:Int)then bif decide ((f.getD q.toNat 0)<=(f.getD (wI (q-1)).toNat 0))then some (.inl (false,()))else kj m n a b c d f h i j k l o p (wI (q+1))else none else none else kj m n a b c d f h i j k l o p (wI (q+1))else none else none else none else some (.inr (.inl ((a,b,c,d,f,h,i,()),j,k,l,o,p,())))else none
def iO:Nat->LI->LI->LI->LI->LI->LI->Int->Int->Int->Int->Int->Int->Option (IR⊕(gL×Int×Int×Int×Int×Unit)⊕Empty)
 |0,_,_,_,_,_,_,_,_,_,_,_,_=>none
 |n+1,a,b,c,d,f,h,i,j,k,l,o,p=>bif decide (p<=o)then if 0<=p/\p<(d.length:Int)then (kj m m a b c d f h i j k l o p (d.getD p.toNat 0)).bind λx=>match x with
   | .inl y=>some (.inl (y.1,()))
   | .inr (.inl g)=>iO n g.1.1 g.1.2.1 g.1.2.2.1 g.1.2.2.2.1 g.1.2.2.2.2.1 g.1.2.2.2.2.2.1 g.1.2.2.2.2.2.2.1 g.2.1 g.2.2.1 g.2.2.2.1 g.2.2.2.2.1 (wI (g.2.2.2.2.2.1+1))
   | .inr (.inr e)=>e.elim else none else some (.inr (.inl ((a,b,c,d,f,h,i,()),j,k,l,o,())))
def iQ:Nat->LI->LI->LI->LI->LI->LI->Int->Int->Int->Int->Int->Option (IR⊕(gL×Int×Int×Int×Unit)⊕Empty)
 |0,_,_,_,_,_,_,_,_,_,_,_=>none
 |n+1,a,b,c,d,f,h,i,j,k,l,o=>bif decide (o<(b.length:Int))then if 0<=o/\o<(b.length:Int)then bif (b.getD o.toNat 0) !=1 then if 0<=o/\o<(b.length:Int)then bif (b.getD o.toNat 0) !=2 then some (.inl (false,()))else if 0<=o/\o<(b.length:Int)then bif decide ((wI (k+(b.getD o.toNat 0)))>j)then some (.inl (false,()))else if 0<=o/\o<(b.length:Int)then (iO m m a b c d f h i j l o (wI ((wI (k+(b.getD o.toNat 0)))-1)) k).bind λy=>match y with
      | .inl z=>some (.inl (z.1,()))
      | .inr (.inl g)=>if 0<=g.2.2.2.1/\g.2.2.2.1<(g.1.2.1.length:Int)then iQ n g.1.1 g.1.2.1 g.1.2.2.1 g.1.2.2.2.1 g.1.2.2.2.2.1 g.1.2.2.2.2.2.1 g.1.2.2.2.2.2.2.1 g.2.1 (wI (g.2.2.2.2.1+1)) (wI ((wI (g.2.2.1+(wI (2*(g.1.2.1.getD g.2.2.2.1.toNat 0)))))-1)) (wI (g.2.2.2.1+1))else none
      | .inr (.inr e)=>e.elim else none else none else none else if 0<=o/\o<(b.length:Int)then bif decide ((wI (k+(b.getD o.toNat 0)))>j)then some (.inl (false,()))else if 0<=o/\o<(b.length:Int)then (iO m m a b c d f h i j l o (wI ((wI (k+(b.getD o.toNat 0)))-1)) k).bind λA=>match A with
     | .inl B=>some (.inl (B.1,()))
     | .inr (.inl x)=>if 0<=x.2.2.2.1/\x.2.2.2.1<(x.1.2.1.length:Int)then iQ n x.1.1 x.1.2.1 x.1.2.2.1 x.1.2.2.2.1 x.1.2.2.2.2.1 x.1.2.2.2.2.2.1 x.1.2.2.2.2.2.2.1 x.2.1 (wI (x.2.2.2.2.1+1)) (wI ((wI (x.2.2.1+(wI (2*(x.1.2.1.getD x.2.2.2.1.toNat 0)))))-1)) (wI (x.2.2.2.1+1))else none
     | .inr (.inr e)=>e.elim else none else none else none else some (.inr (.inl ((a,b,c,d,f,h,i,()),j,k,l,())))
def Ew (a:LI) (b:LI) (c:LI) (d:LI) (f:LI) (h:LI) (i:Int):Option pD:=bif decide (i<0)then some (false,ut)else (CU m d (a.length:Int) (f.length:Int)).bind λx=>bif !x.1 then some (false,ut)else (iQ m m a b c d f h i (a.length:Int) 0 0 0).bind λy=>match y with
   | .inl z=>some (z.1,ut)
   | .inr (.inl g)=>bif g.2.2.1==g.2.1 then some (g.2.2.2.1==(g.1.2.2.1.length:Int),ut)else some (false,ut)
   | .inr (.inr e)=>e.elim
def oI:Nat->LI->LI->LI->LI->LI->LI->Int->Int->Int->Option sS
 |0,_,_,_,_,_,_,_,_,_=>none
 |n+1,a,b,c,d,f,h,i,j,k=>bif decide (k<(b.length:Int))then if 0<=k/\k<(b.length:Int)then bif (b.getD k.toNat 0)==2 then if 0<=j/\j<=(wI (j+3))/\(wI (j+3))<=(c.length:Int)then (nO m ((c.drop j.toNat).take ((wI (j+3)).toNat-j.toNat))).bind λe=>(tR m e.1.1 e.1.2.1 e.1.2.2.1 e.1.2.2.2.1).bind λg=>bif g.1==0 then some (.inl (4,()))else if 0<=k/\k<(b.length:Int)then oI n a b c d f h i (wI ((wI (j+(wI (2*(b.getD k.toNat 0)))))-1)) (wI (k+1))else none else none else if 0<=k/\k<(b.length:Int)then oI n a b c d f h i (wI ((wI (j+(wI (2*(b.getD k.toNat 0)))))-1)) (wI (k+1))else none else none else some (.inr (.inl ()))
def re:Nat->LI->LI->LI->LI->LI->LI->Int->Int->Option Ud
 |0,_,_,_,_,_,_,_,_=>none
 |n+1,a,b,c,d,f,h,i,j=>bif decide (j<(c.length:Int))then if 0<=j/\j<(c.length:Int)then (oH m (c.getD j.toNat 0)).bind λe=>bif !e.1 then some (.inl (4,()))else re n a b c d f h i (wI (j+1))else none else some (.inr (.inl ((a,b,c,d,f,h,i,()),())))
def rf:Nat->LI->LI->LI->LI->LI->LI->Int->Int->Option Ud
 |0,_,_,_,_,_,_,_,_=>none
 |n+1,a,b,c,d,f,h,i,j=>bif decide (j<(h.length:Int))then if 0<=j/\j<(h.length:Int)then (oH m (h.getD j.toNat 0)).bind λe=>bif !e.1 then some (.inl (4,()))else rf n a b c d f h i (wI (j+1))else none else some (.inr (.inl ((a,b,c,d,f,h,i,()),())))
def Mq (a:LI) (b:LI) (c:LI) (d:LI) (f:LI) (h:LI) (i:Int):Option lg:=bif decide ((a.length:Int)>200)then some (6,ut)else (Al m a (a.length:Int)).bind λz=>bif !z.1 then some (90,ut)else bif (d.length:Int) !=(wI ((a.length:Int)+1))then some (2,ut)else bif (f.length:Int) !=(h.length:Int)then some (2,ut)else (Ew m a b c d f h i).bind λA=>bif !A.1 then some (240,ut)else (rf m m a b c d f h i 0).bind λB=>match B with
      | .inl C=>some (C.1,ut)
      | .inr (.inl g)=>(re m m g.1.1 g.1.2.1 g.1.2.2.1 g.1.2.2.2.1 g.1.2.2.2.2.1 g.1.2.2.2.2.2.1 g.1.2.2.2.2.2.2.1 0).bind λD=>match D with
       | .inl E=>some (E.1,ut)
       | .inr (.inl x)=>(oI m m x.1.1 x.1.2.1 x.1.2.2.1 x.1.2.2.2.1 x.1.2.2.2.2.1 x.1.2.2.2.2.2.1 x.1.2.2.2.2.2.2.1 0 0).bind λF=>match F with
        | .inl y=>some (y.1,ut)
        | .inr (.inl G)=>some (0,ut)
        | .inr (.inr e)=>e.elim
       | .inr (.inr e)=>e.elim
      | .inr (.inr e)=>e.elim
def q9:Nat->LI->Int->Option sT
 |0,_,_=>none
 |n+1,a,b=>bif decide (b<(a.length:Int))then if 0<=b/\b<(a.length:Int)then (oH m (a.getD b.toNat 0)).bind λe=>bif !e.1 then some (.inl (false,()))else q9 n a (wI (b+1))else none else some (.inr (.inl ()))
def BQ (a:LI):Option pD:=(q9 m m a 0).bind λg=>match g with
 | .inl x=>some (x.1,ut)
 | .inr (.inl y)=>some (true,ut)
 | .inr (.inr e)=>e.elim
def qZ:Nat->LI->LI->Bool->Bool->LI->Int->cW->Int->Option tX
 |0,_,_,_,_,_,_,_,_=>none
 |n+1,a,b,c,d,f,h,i,j=>bif decide (j<(a.length:Int))then if 0<=j/\j<(a.length:Int)then if 0<=j/\j<(b.length:Int)then (jv m (a.getD j.toNat 0) (b.getD j.toNat 0)).bind λe=>if i.length+([(e.1.1,((e.1.2.1,e.1.2.2.1),e.1.2.2.2.1))]:List bE).length<=1073741824 then qZ n a b c d f h (i++([(e.1.1,((e.1.2.1,e.1.2.2.1),e.1.2.2.2.1))]:List bE)) (wI (j+1))else none else none else none else some (.inl ((c,d,f,h,()),i,()))
def Ko (a:LI) (b:LI):Option xq:=(qZ m m a b false false ([]:LI) 0 ([]:List bE) 0).bind λx=>match x with
 | .inl y=>(K5 m y.2.1).bind λg=>some ((g.1.1,g.1.2.1,g.1.2.2.1,g.1.2.2.2.1,()),ul)
 | .inr e=>e.elim
def l9:Nat->Bool->LI->Bool->LI->Bool->LI->Option ((nD×Unit)⊕Empty)
 |0,_,_,_,_,_,_=>none
 |n+1,a,b,c,d,f,h=>(tw m a b f h).bind λg=>(fM m f h g.1.1.1 g.1.1.2.1).bind λx=>(o6 m x.1.1 x.1.2.1 (-1)).bind λe=>(rN m e.1.1 e.1.2.1 f h).bind λy=>bif decide (y.1>=0)then some (.inl ((f,h,()),()))else l9 n a b c d e.1.1 e.1.2.1
def we (a:Bool) (b:LI):Option Bo:=(fR m a b).bind λz=>bif z.1==0 then some ((false,[],()),ut)else (gm m 1).bind λg=>(pj m a b).bind λA=>(o6 m g.1.1 g.1.2.1 (wI (Int.tdiv (wI (A.1+1)) 2))).bind λx=>(l9 m m a b false ([]:LI) x.1.1 x.1.2.1).bind λB=>match B with
  | .inl y=>some ((y.1.1,y.1.2.1,()),ut)
  | .inr e=>e.elim
def CS (a:Bool) (b:LI) (c:Int) (d:Int):Option YW:=(pj m a b).bind λe=>bif (Int.tmod (wI (c-(if 0>(wI ((wI ((wI (2*d))+6))-e.1))then 0 else(wI ((wI ((wI (2*d))+6))-e.1))))) 2) !=0 then (o6 m a b (wI ((if 0>(wI ((wI ((wI (2*d))+6))-e.1))then 0 else(wI ((wI ((wI (2*d))+6))-e.1)))+1))).bind λy=>(we m y.1.1 y.1.2.1).bind λg=>(J1 m g.1.1 g.1.2.1 g.1.1 g.1.2.1).bind λA=>(rN m A.1.1 A.1.2.1 y.1.1 y.1.2.1).bind λC=>some (((g.1.1,g.1.2.1,()),wI (Int.tdiv (wI (c-(wI ((if 0>(wI ((wI ((wI (2*d))+6))-e.1))then 0 else(wI ((wI ((wI (2*d))+6))-e.1)))+1)))) 2),C.1 !=0,()),v4)else (o6 m a b (if 0>(wI ((wI ((wI (2*d))+6))-e.1))then 0 else(wI ((wI ((wI (2*d))+6))-e.1)))).bind λz=>(we m z.1.1 z.1.2.1).bind λx=>(J1 m x.1.1 x.1.2.1 x.1.1 x.1.2.1).bind λB=>(rN m B.1.1 B.1.2.1 z.1.1 z.1.2.1).bind λD=>some (((x.1.1,x.1.2.1,()),wI (Int.tdiv (wI (c-(if 0>(wI ((wI ((wI (2*d))+6))-e.1))then 0 else(wI ((wI ((wI (2*d))+6))-e.1))))) 2),D.1 !=0,()),v4)
def Es (a:Bool) (b:Bool) (c:LI) (d:Int) (f:Int):Option jH:=(nH m a b c d).bind λe=>bif e.1.1 then some (9221120237041090560,ul)else (fR m e.1.2.1 e.1.2.2.1).bind λx=>bif decide (x.1<0)then some (9221120237041090560,ul)else (fR m e.1.2.1 e.1.2.2.1).bind λy=>bif y.1==0 then some (0,ul)else (CS m e.1.2.1 e.1.2.2.1 e.1.2.2.2.1 60).bind λg=>(wB m false g.1.1.1 g.1.1.2.1 g.1.2.1 g.1.2.2.1 f).bind λz=>some (z.1,ul)
def OT (a:Bool) (b:Bool) (c:LI) (d:Int):Option lg:=(Es m a b c d 0).bind λe=>some (e.1,ut)
def qW:Nat->LI->Int->LI->Int->Option pE
 |0,_,_,_,_=>none
 |n+1,a,b,c,d=>bif decide (d<(a.length:Int))then if 0<=d/\d<(a.length:Int)then (j4 m (a.getD d.toNat 0)).bind λe=>(j4 m b).bind λg=>(nk m e.1.1 e.1.2.1 e.1.2.2.1 e.1.2.2.2.1 g.1.1 g.1.2.1 g.1.2.2.1 g.1.2.2.2.1).bind λx=>if 0<=d/\d<(c.length:Int)then qW n a b (c.set (0+d.toNat) x.1) (wI (d+1))else none else none else some (.inl (c,()))
def Mp (a:LI) (b:Int):Option R7:=if 0<=(a.length:Int)/\(a.length:Int)<=(a.length:Int)/\(a.length:Int)<=1073741824 then (qW m m a b (List.replicate (a.length:Int).toNat (0:Int)) 0).bind λx=>match x with
 | .inl g=>(BQ m g.1).bind λy=>some ((g.1,y.1,()),ul)
 | .inr e=>e.elim else none
def Er (a:Int) (b:Int) (c:LI):Option MW:=bif a !=0 then some (a,v4)else bif (c.length:Int) !=b then some (2,v4)else (BQ m c).bind λe=>bif !e.1 then some (4,v4)else some (0,v4)
def nj (m:Nat):Nat->LI->LI->LI->Int->Option pE
 |0,_,_,_,_=>none
 |n+1,a,b,c,d=>bif decide (d<(b.length:Int))then if 0<=d/\d<(b.length:Int)then if 0<=(b.getD d.toNat 0)/\(b.getD d.toNat 0)<(a.length:Int)then if 0<=d/\d<(c.length:Int)then nj m n a b (c.set (0+d.toNat) (a.getD (b.getD d.toNat 0).toNat 0)) (wI (d+1))else none else none else none else some (.inl (c,()))
def Ep (a:LI) (b:LI):Option vI:=if 0<=(b.length:Int)/\(b.length:Int)<=(b.length:Int)/\(b.length:Int)<=1073741824 then (nj m m a b (List.replicate (b.length:Int).toNat (0:Int)) 0).bind λg=>match g with
 | .inl x=>some (x.1,ul)
 | .inr e=>e.elim else none
def ni:Nat->LI->LI->Bool->Bool->LI->Int->cW->Int->Option tV
 |0,_,_,_,_,_,_,_,_=>none
 |n+1,a,b,c,d,f,h,i,j=>bif decide (j<(a.length:Int))then if 0<=j/\j<(a.length:Int)then if 0<=j/\j<(b.length:Int)then (jv m (a.getD j.toNat 0) (b.getD (0+j.toNat) 0)).bind λg=>(OF m g.1.1 g.1.2.1 g.1.2.2.1 g.1.2.2.2.1).bind λe=>if i.length+([(e.1.1,((e.1.2.1,e.1.2.2.1),e.1.2.2.2.1))]:List bE).length<=1073741824 then ni n a b c d f h (i++([(e.1.1,((e.1.2.1,e.1.2.2.1),e.1.2.2.2.1))]:List bE)) (wI (j+1))else none else none else none else some (.inl (b,(c,d,f,h,()),i,()))
def Ai (a:Bool) (b:Bool) (c:LI) (d:Int) (f:LI) (h:LI):Option (lC×Unit×Unit×LI×Unit):=(ni m m f h false false ([]:LI) 0 ([(a,((b,c),d))]:List bE) 0).bind λy=>match y with
 | .inl x=>(K5 m x.2.2.1).bind λg=>some ((g.1.1,g.1.2.1,g.1.2.2.1,g.1.2.2.2.1,()),((),(),x.1,()))
 | .inr e=>e.elim
def ng (m:Nat):Nat->List LI->List LI->Int->Int->Option ((List LI×List LI×Int×Unit)⊕Empty)
 |0,_,_,_,_=>none
 |n+1,a,b,c,d=>bif decide (d<(a.length:Int))then if 0<=c/\c<(b.length:Int)then if 0<=d/\d<(a.length:Int)then if 0<=c/\c<((a.getD d.toNat ([]:LI)).length:Int)then if 0<=d/\d<((b.getD c.toNat ([]:LI)).length:Int)then ng m n a (b.set c.toNat ((b.getD c.toNat ([]:LI)).set d.toNat ((a.getD d.toNat ([]:LI)).getD c.toNat 0))) c (wI (d+1))else none else none else none else none else some (.inl (a,b,c,()))
def nh:Nat->List LI->List LI->Int->Option (sJ⊕Empty)
 |0,_,_,_=>none
 |n+1,a,b,c=>bif decide (c<(a.length:Int))then if 0<=(a.length:Int)/\(a.length:Int)<=(a.length:Int)/\(a.length:Int)<=1073741824 then if 0<([List.replicate (a.length:Int).toNat (0:Int)]:List LI).length/\b.length+([List.replicate (a.length:Int).toNat (0:Int)]:List LI).length<=1073741824 then (ng m m a (b++([List.replicate (a.length:Int).toNat (0:Int)]:List LI)) c 0).bind λx=>match x with
   | .inl g=>nh n g.1 g.2.1 (wI (g.2.2.1+1))
   | .inr e=>e.elim else none else none else some (.inl (b,()))
def Em (a:List LI):Option (List LI×Unit×Unit):=(nh m m a ([]:List LI) 0).bind λg=>match g with
 | .inl x=>some (x.1,ut)
 | .inr e=>e.elim
def nc (m:Nat):Nat->LI->LI->LI->Int->Option pE
 |0,_,_,_,_=>none
 |n+1,a,b,c,d=>bif decide (d<(b.length:Int))then if 0<=d/\d<(b.length:Int)then if 0<=d/\d<(a.length:Int)then if 0<=(b.getD d.toNat 0)/\(b.getD d.toNat 0)<(c.length:Int)then nc m n a b (c.set (0+(b.getD d.toNat 0).toNat) (a.getD d.toNat 0)) (wI (d+1))else none else none else none else some (.inl (c,()))
def Ej (a:LI) (b:LI):Option vI:=if 0<=(b.length:Int)/\(b.length:Int)<=(b.length:Int)/\(b.length:Int)<=1073741824 then (nc m m a b (List.replicate (b.length:Int).toNat (0:Int)) 0).bind λg=>match g with
 | .inl x=>some (x.1,ul)
 | .inr e=>e.elim else none
def oE:Nat->LI->LI->LI->LI->LI->LI->Int->LI->List LI->Int->Option tZ
 |0,_,_,_,_,_,_,_,_,_,_=>none
 |n+1,a,b,c,d,f,h,i,j,k,l=>bif decide (l>=0)then if 0<=l/\l<(j.length:Int)then (j4 m (j.getD (0+l.toNat) 0)).bind λg=>if 0<=l/\l<(k.length:Int)then if 0<=(wI (l+1))/\(wI (l+1))<=((k.getD l.toNat ([]:LI)).length:Int)/\((k.getD l.toNat ([]:LI)).length:Int)<=((k.getD l.toNat ([]:LI)).length:Int)then if 0<=(wI (l+1))/\(wI (l+1))<=(j.length:Int)/\(j.length:Int)<=(j.length:Int)then if 0<j.length then (Ai m g.1.1 g.1.2.1 g.1.2.2.1 g.1.2.2.2.1 ((k.getD l.toNat ([]:LI)).drop (wI (l+1)).toNat) ((j.drop (0+(wI (l+1)).toNat)).take (j.length-(wI (l+1)).toNat))).bind λe=>(v5 m e.1.1 e.1.2.1 e.1.2.2.1 e.1.2.2.2.1).bind λx=>if 0<=l/\l<((j.take (0+(wI (l+1)).toNat)++(e.2.2.2.1++j.drop ((0+(wI (l+1)).toNat)+(j.length-(wI (l+1)).toNat)))).length:Int)then if 0<=l/\l<(((j.take (0+(wI (l+1)).toNat)++(e.2.2.2.1++j.drop ((0+(wI (l+1)).toNat)+(j.length-(wI (l+1)).toNat)))).set (0+l.toNat) x.1).length:Int)then (oH m (((j.take (0+(wI (l+1)).toNat)++(e.2.2.2.1++j.drop ((0+(wI (l+1)).toNat)+(j.length-(wI (l+1)).toNat)))).set (0+l.toNat) x.1).getD (0+l.toNat) 0)).bind λy=>bif !y.1 then some (.inl ([],233,()))else oE n a b c d f h i ((j.take (0+(wI (l+1)).toNat)++(e.2.2.2.1++j.drop ((0+(wI (l+1)).toNat)+(j.length-(wI (l+1)).toNat)))).set (0+l.toNat) x.1) k (wI (l-1))else none else none else none else none else none else none else none else some (.inr (.inl ((a,b,c,d,f,h,i,()),j,())))
def oF:Nat->LI->LI->LI->LI->LI->LI->Int->Int->Int->List LI->LI->Int->Int->Option (YV⊕Empty)
 |0,_,_,_,_,_,_,_,_,_,_,_,_,_=>none
 |n+1,a,b,c,d,f,h,i,j,k,l,o,p,q=>bif decide (q<(b.length:Int))then if 0<=q/\q<(b.length:Int)then if 0<=k/\k<=(wI ((wI (k+(wI (2*(b.getD q.toNat 0)))))-1))/\(wI ((wI (k+(wI (2*(b.getD q.toNat 0)))))-1))<=(c.length:Int)then if 0<=q/\q<(b.length:Int)then bif (b.getD q.toNat 0)==1 then if 0<=p/\p<(o.length:Int)then (j4 m (o.getD (0+p.toNat) 0)).bind λy=>if(0:Int)<=0/\0<(((c.drop k.toNat).take ((wI ((wI (k+(wI (2*(b.getD q.toNat 0)))))-1)).toNat-k.toNat)).length:Int)then (j4 m (((c.drop k.toNat).take ((wI ((wI (k+(wI (2*(b.getD q.toNat 0)))))-1)).toNat-k.toNat)).getD 0 0)).bind λz=>(nk m y.1.1 y.1.2.1 y.1.2.2.1 y.1.2.2.2.1 z.1.1 z.1.2.1 z.1.2.2.1 z.1.2.2.2.1).bind λH=>if 0<=p/\p<(o.length:Int)then if 0<=q/\q<(b.length:Int)then oF n a b c d f h i j (wI (k+(((c.drop k.toNat).take ((wI ((wI (k+(wI (2*(b.getD q.toNat 0)))))-1)).toNat-k.toNat)).length:Int))) l (o.set (0+p.toNat) H.1) (wI (p+(b.getD q.toNat 0))) (wI (q+1))else none else none else none else none else if 0<=p/\p<(o.length:Int)then if(0:Int)<=2/\2<(((c.drop k.toNat).take ((wI ((wI (k+(wI (2*(b.getD q.toNat 0)))))-1)).toNat-k.toNat)).length:Int)then (jv m (o.getD (0+p.toNat) 0) (((c.drop k.toNat).take ((wI ((wI (k+(wI (2*(b.getD q.toNat 0)))))-1)).toNat-k.toNat)).getD 2 0)).bind λA=>if 0<=(wI (p+1))/\(wI (p+1))<(o.length:Int)then if(0:Int)<=1/\1<(((c.drop k.toNat).take ((wI ((wI (k+(wI (2*(b.getD q.toNat 0)))))-1)).toNat-k.toNat)).length:Int)then (jv m (o.getD (0+(wI (p+1)).toNat) 0) (((c.drop k.toNat).take ((wI ((wI (k+(wI (2*(b.getD q.toNat 0)))))-1)).toNat-k.toNat)).getD 1 0)).bind λB=>(Bb m A.1.1 A.1.2.1 A.1.2.2.1 A.1.2.2.2.1 B.1.1 B.1.2.1 B.1.2.2.1 B.1.2.2.2.1).bind λC=>if 0<=(wI (p+1))/\(wI (p+1))<(o.length:Int)then if(0:Int)<=0/\0<(((c.drop k.toNat).take ((wI ((wI (k+(wI (2*(b.getD q.toNat 0)))))-1)).toNat-k.toNat)).length:Int)then (jv m (o.getD (0+(wI (p+1)).toNat) 0) (((c.drop k.toNat).take ((wI ((wI (k+(wI (2*(b.getD q.toNat 0)))))-1)).toNat-k.toNat)).getD 0 0)).bind λD=>if 0<=p/\p<(o.length:Int)then if(0:Int)<=1/\1<(((c.drop k.toNat).take ((wI ((wI (k+(wI (2*(b.getD q.toNat 0)))))-1)).toNat-k.toNat)).length:Int)then (jv m (o.getD (0+p.toNat) 0) (((c.drop k.toNat).take ((wI ((wI (k+(wI (2*(b.getD q.toNat 0)))))-1)).toNat-k.toNat)).getD 1 0)).bind λE=>(Bb m D.1.1 D.1.2.1 D.1.2.2.1 D.1.2.2.2.1 E.1.1 E.1.2.1 E.1.2.2.1 E.1.2.2.2.1).bind λF=>(nO m ((c.drop k.toNat).take ((wI ((wI (k+(wI (2*(b.getD q.toNat 0)))))-1)).toNat-k.toNat))).bind λe=>(nk m C.1.1 C.1.2.1 C.1.2.2.1 C.1.2.2.2.1 e.1.1 e.1.2.1 e.1.2.2.1 e.1.2.2.2.1).bind λx=>(nO m ((c.drop k.toNat).take ((wI ((wI (k+(wI (2*(b.getD q.toNat 0)))))-1)).toNat-k.toNat))).bind λg=>(nk m F.1.1 F.1.2.1 F.1.2.2.1 F.1.2.2.2.1 g.1.1 g.1.2.1 g.1.2.2.1 g.1.2.2.2.1).bind λG=>if 0<=p/\p<(o.length:Int)then if 0<=(wI (p+1))/\(wI (p+1))<((o.set (0+p.toNat) x.1).length:Int)then if 0<=q/\q<(b.length:Int)then oF n a b c d f h i j (wI (k+(((c.drop k.toNat).take ((wI ((wI (k+(wI (2*(b.getD q.toNat 0)))))-1)).toNat-k.toNat)).length:Int))) l ((o.set (0+p.toNat) x.1).set (0+(wI (p+1)).toNat) G.1) (wI (p+(b.getD q.toNat 0))) (wI (q+1))else none else none else none else none else none else none else none else none else none else none else none else none else none else none else some (.inl ((a,b,c,d,f,h,i,()),j,l,o,()))
def qQ:Nat->LI->LI->LI->LI->LI->LI->Int->Int->List LI->LI->Int->Option (Bp⊕YV⊕Empty)
 |0,_,_,_,_,_,_,_,_,_,_,_=>none
 |n+1,a,b,c,d,f,h,i,j,k,l,o=>bif decide (o<j)then if 0<=o/\o<(l.length:Int)then (j4 m (l.getD (0+o.toNat) 0)).bind λg=>if 0<=o/\o<(k.length:Int)then if(0:Int)<=0/\0<=o/\o<=((k.getD o.toNat ([]:LI)).length:Int)then if(0:Int)<=0/\0<=o/\o<=(l.length:Int)then if 0<l.length then (Ai m g.1.1 g.1.2.1 g.1.2.2.1 g.1.2.2.2.1 ((k.getD o.toNat ([]:LI)).take o.toNat) ((l.drop 0).take (o.toNat-0))).bind λe=>(v5 m e.1.1 e.1.2.1 e.1.2.2.1 e.1.2.2.2.1).bind λx=>if 0<=o/\o<((l.take 0++(e.2.2.2.1++l.drop (0+(o.toNat-0)))).length:Int)then if 0<=o/\o<(((l.take 0++(e.2.2.2.1++l.drop (0+(o.toNat-0)))).set (0+o.toNat) x.1).length:Int)then (oH m (((l.take 0++(e.2.2.2.1++l.drop (0+(o.toNat-0)))).set (0+o.toNat) x.1).getD (0+o.toNat) 0)).bind λy=>bif !y.1 then some (.inl ([],233,()))else qQ n a b c d f h i j k ((l.take 0++(e.2.2.2.1++l.drop (0+(o.toNat-0)))).set (0+o.toNat) x.1) (wI (o+1))else none else none else none else none else none else none else none else some (.inr (.inl ((a,b,c,d,f,h,i,()),j,k,l,())))
def qR (m:Nat):Nat->LI->LI->LI->LI->LI->LI->LI->Int->Int->List LI->Int->Int->Option ((LI×gL×Int×List LI×Int×Unit)⊕Empty)
 |0,_,_,_,_,_,_,_,_,_,_,_,_=>none
 |n+1,a,b,c,d,f,h,i,j,k,l,o,p=>if 0<=(wI (o+1))/\(wI (o+1))<(f.length:Int)then bif decide (p<(f.getD (wI (o+1)).toNat 0))then if 0<=p/\p<(h.length:Int)then if 0<=(h.getD p.toNat 0)/\(h.getD p.toNat 0)<(l.length:Int)then if 0<=p/\p<(i.length:Int)then if 0<=o/\o<((l.getD (h.getD p.toNat 0).toNat ([]:LI)).length:Int)then qR m n a b c d f h i j k (l.set (h.getD p.toNat 0).toNat ((l.getD (h.getD p.toNat 0).toNat ([]:LI)).set o.toNat (i.getD p.toNat 0))) o (wI (p+1))else none else none else none else none else some (.inl (a,(b,c,d,f,h,i,j,()),k,l,o,()))else none
def qS:Nat->LI->LI->LI->LI->LI->LI->LI->Int->Int->List LI->Int->Option tu
 |0,_,_,_,_,_,_,_,_,_,_,_=>none
 |n+1,a,b,c,d,f,h,i,j,k,l,o=>bif decide (o<k)then if 0<=o/\o<(f.length:Int)then (qR m m a b c d f h i j k l o (f.getD o.toNat 0)).bind λx=>match x with
   | .inl g=>qS n g.1 g.2.1.1 g.2.1.2.1 g.2.1.2.2.1 g.2.1.2.2.2.1 g.2.1.2.2.2.2.1 g.2.1.2.2.2.2.2.1 g.2.1.2.2.2.2.2.2.1 g.2.2.1 g.2.2.2.1 (wI (g.2.2.2.2.1+1))
   | .inr e=>e.elim else none else some (.inl (a,(b,c,d,f,h,i,j,()),k,l,()))
def qT (m:Nat):Nat->LI->LI->LI->LI->LI->LI->LI->Int->Int->List LI->Int->Option tu
 |0,_,_,_,_,_,_,_,_,_,_,_=>none
 |n+1,a,b,c,d,f,h,i,j,k,l,o=>bif decide (o<k)then if 0<=k/\k<=k/\k<=1073741824 then if 0<([List.replicate k.toNat (0:Int)]:List LI).length/\l.length+([List.replicate k.toNat (0:Int)]:List LI).length<=1073741824 then qT m n a b c d f h i j k (l++([List.replicate k.toNat (0:Int)]:List LI)) (wI (o+1))else none else none else some (.inl (a,(b,c,d,f,h,i,j,()),k,l,()))
def oG:Nat->LI->LI->LI->LI->LI->LI->LI->Int->Int->Int->Int->Option (Bp⊕(LI×gL×Int×Unit)⊕Empty)
 |0,_,_,_,_,_,_,_,_,_,_,_=>none
 |n+1,a,b,c,d,f,h,i,j,k,l,o=>bif decide (o<(c.length:Int))then if 0<=o/\o<(c.length:Int)then bif (c.getD o.toNat 0)==1 then if 0<=l/\l<(d.length:Int)then (F1 m (d.getD l.toNat 0)).bind λe=>bif e.1 then some (.inl ([],9,()))else if 0<=o/\o<(c.length:Int)then oG n a b c d f h i j k (wI ((wI (l+(wI (2*(c.getD o.toNat 0)))))-1)) (wI (o+1))else none else none else if 0<=o/\o<(c.length:Int)then oG n a b c d f h i j k (wI ((wI (l+(wI (2*(c.getD o.toNat 0)))))-1)) (wI (o+1))else none else none else some (.inr (.inl (a,(b,c,d,f,h,i,j,()),k,())))
def T3 (a:LI) (b:LI) (c:LI) (d:LI) (f:LI) (h:LI) (i:Int) (j:LI):Option R6:=(Mq m a b c d f h i).bind λN=>(Er m N.1 (a.length:Int) j).bind λL=>bif L.1 !=0 then some (([],L.1,()),ul)else (oG m m j a b c d f h i (a.length:Int) 0 0).bind λP=>match P with
  | .inl M=>some ((M.1,M.2.1,()),ul)
  | .inr (.inl A)=>(qT m m A.1 A.2.1.1 A.2.1.2.1 A.2.1.2.2.1 A.2.1.2.2.2.1 A.2.1.2.2.2.2.1 A.2.1.2.2.2.2.2.1 A.2.1.2.2.2.2.2.2.1 A.2.2.1 ([]:List LI) 0).bind λQ=>match Q with
   | .inl z=>(qS m m z.1 z.2.1.1 z.2.1.2.1 z.2.1.2.2.1 z.2.1.2.2.2.1 z.2.1.2.2.2.2.1 z.2.1.2.2.2.2.2.1 z.2.1.2.2.2.2.2.2.1 z.2.2.1 z.2.2.2.1 0).bind λR=>match R with
    | .inl y=>(Ep m y.1 y.2.1.1).bind λE=>(qQ m m y.2.1.1 y.2.1.2.1 y.2.1.2.2.1 y.2.1.2.2.2.1 y.2.1.2.2.2.2.1 y.2.1.2.2.2.2.2.1 y.2.1.2.2.2.2.2.2.1 y.2.2.1 y.2.2.2.1 E.1 0).bind λF=>match F with
     | .inl B=>some ((B.1,B.2.1,()),ul)
     | .inr (.inl x)=>(oF m m x.1.1 x.1.2.1 x.1.2.2.1 x.1.2.2.2.1 x.1.2.2.2.2.1 x.1.2.2.2.2.2.1 x.1.2.2.2.2.2.2.1 x.2.1 0 x.2.2.1 x.2.2.2.1 0 0).bind λG=>match G with
      | .inl g=>(BQ m g.2.2.2.1).bind λH=>bif !H.1 then some (([],233,()),ul)else (Em m g.2.2.1).bind λI=>(oE m m g.1.1 g.1.2.1 g.1.2.2.1 g.1.2.2.2.1 g.1.2.2.2.2.1 g.1.2.2.2.2.2.1 g.1.2.2.2.2.2.2.1 g.2.2.2.1 I.1 (wI (g.2.1-1))).bind λJ=>match J with
        | .inl C=>some ((C.1,C.2.1,()),ul)
        | .inr (.inl D)=>(Ej m D.2.1 D.1.1).bind λK=>some ((K.1,0,()),ul)
        | .inr (.inr e)=>e.elim
      | .inr e=>e.elim
     | .inr (.inr e)=>e.elim
    | .inr e=>e.elim
   | .inr e=>e.elim
  | .inr (.inr e)=>e.elim
def D2 (m:Nat) (a:Int):Option lg:=bif (qp .u64 (aJ .u64 a 52) 2047)==2047 then bif (qp .u64 a 4503599627370495) !=0 then some (3,ut)else bif (qp .u64 (aJ .u64 a 52) 2047)==2047 then some (2,ut)else bif (qp .u64 (aJ .u64 a 52) 2047)==0 then bif (qp .u64 a 4503599627370495)==0 then some (0,ut)else some (1,ut)else some (1,ut)else bif (qp .u64 (aJ .u64 a 52) 2047)==2047 then some (2,ut)else bif (qp .u64 (aJ .u64 a 52) 2047)==0 then bif (qp .u64 a 4503599627370495)==0 then some (0,ut)else some (1,ut)else some (1,ut)
def XG (a:Int):Option pD:=(D2 m a).bind λe=>some (e.1==3,ut)
def T1 (a:Int):Option lg:=(XG m a).bind λe=>bif e.1 then some (9221120237041090560,ut)else some (vP .u64 a 9223372036854775808,ut)
def qP:Nat->LI->Int->LI->LI->Int->Option (IS⊕(LI×Unit)⊕Empty)
 |0,_,_,_,_,_=>none
 |n+1,a,b,c,d,f=>bif decide (f<(a.length:Int))then if 0<=f/\f<(a.length:Int)then (j4 m (a.getD f.toNat 0)).bind λe=>if 0<=f/\f<(c.length:Int)then (jv m b (c.getD f.toNat 0)).bind λg=>(Ba m e.1.1 e.1.2.1 e.1.2.2.1 e.1.2.2.2.1 g.1.1 g.1.2.1 g.1.2.2.1 g.1.2.2.2.1).bind λx=>(v5 m x.1.1 x.1.2.1 x.1.2.2.1 x.1.2.2.2.1).bind λy=>if 0<=f/\f<(d.length:Int)then if 0<=f/\f<((d.set (0+f.toNat) y.1).length:Int)then (oH m ((d.set (0+f.toNat) y.1).getD (0+f.toNat) 0)).bind λz=>bif !z.1 then some (.inl ([],false,()))else qP n a b c (d.set (0+f.toNat) y.1) (wI (f+1))else none else none else none else none else some (.inr (.inl (d,())))
def T2 (a:LI) (b:Int) (c:LI):Option (IS×Unit×Unit×Unit×Unit):=if 0<=(a.length:Int)/\(a.length:Int)<=(a.length:Int)/\(a.length:Int)<=1073741824 then (qP m m a b c (List.replicate (a.length:Int).toNat (0:Int)) 0).bind λx=>match x with
 | .inl g=>some ((g.1,g.2.1,()),v4)
 | .inr (.inl y)=>some ((y.1,true,()),v4)
 | .inr (.inr e)=>e.elim else none
def rO:Nat->Int->LI->LI->LI->LI->LI->LI->Int->LI->LI->List LI->LI->LI->List LI->Int->LI->Int->Option ((Fc×Int×Unit)⊕(Int×gL×Fc×Fc×Int×LI×Unit)⊕Empty)
 |0,_,_,_,_,_,_,_,_,_,_,_,_,_,_,_,_,_=>none
 |n+1,a,b,c,d,f,h,i,j,k,l,o,p,q,r,s,t,u=>bif decide (u<(wI (2*(wI (s+1)))))then if(wI (s+1))≠0 then if 0<=(Int.tmod u (wI (s+1)))/\(Int.tmod u (wI (s+1)))<(r.length:Int)then (Ko m (r.getD (0+(Int.tmod u (wI (s+1))).toNat) ([]:LI)) t).bind λe=>(v5 m e.1.1 e.1.2.1 e.1.2.2.1 e.1.2.2.2.1).bind λg=>(oH m g.1).bind λy=>bif !y.1 then some (.inl (([],[],([]:List LI),()),233,()))else (T1 m g.1).bind λz=>(T2 m t z.1 (r.getD (0+(Int.tmod u (wI (s+1))).toNat) ([]:LI))).bind λx=>bif !x.1.2.1 then some (.inl (([],[],([]:List LI),()),233,()))else rO n a b c d f h i j k l o p q r s x.1.1 (wI (u+1))else none else none else some (.inr (.inl (a,(b,c,d,f,h,i,j,()),(k,l,o,()),(p,q,r,()),s,t,())))
def oP:Nat->Int->LI->LI->LI->LI->LI->LI->Int->LI->LI->List LI->LI->LI->List LI->Int->Option YM
 |0,_,_,_,_,_,_,_,_,_,_,_,_,_,_,_=>none
 |n+1,a,b,c,d,f,h,i,j,k,l,o,p,q,r,s=>if 0<=s/\s<(r.length:Int)then (T3 m b c d f h i j (r.getD (0+s.toNat) ([]:LI))).bind λz=>bif z.1.2.1 !=0 then some (.inl (([],[],([]:List LI),()),z.1.2.1,()))else if 0<=s/\s<(r.length:Int)then (Ko m (r.getD (0+s.toNat) ([]:LI)) z.1.1).bind λA=>(v5 m A.1.1 A.1.2.1 A.1.2.2.1 A.1.2.2.2.1).bind λD=>(oH m D.1).bind λG=>bif !G.1 then some (.inl (([],[],([]:List LI),()),233,()))else if p.length+([D.1]:LI).length<=1073741824 then (rO m m a b c d f h i j k l o (p++([D.1]:LI)) q r s z.1.1 0).bind λH=>match H with
    | .inl B=>some (.inl ((B.1.1,B.1.2.1,B.1.2.2.1,()),B.2.1,()))
    | .inr (.inl g)=>bif (wI (g.2.2.2.2.1+1))==g.1 then some (.inl ((g.2.2.2.1.1,g.2.2.2.1.2.1,g.2.2.2.1.2.2.1,()),0,()))else (Ko m g.2.2.2.2.2.1 g.2.2.2.2.2.1).bind λC=>(OT m C.1.1 C.1.2.1 C.1.2.2.1 C.1.2.2.2.1).bind λy=>(F1 m y.1).bind λE=>bif E.1 then some (.inl ((g.2.2.2.1.1,g.2.2.2.1.2.1,g.2.2.2.1.2.2.1,()),0,()))else (Mp m g.2.2.2.2.2.1 y.1).bind λx=>(oH m y.1).bind λF=>bif !F.1 then some (.inl (([],[],([]:List LI),()),233,()))else bif !x.1.2.1 then some (.inl (([],[],([]:List LI),()),233,()))else if g.2.2.2.1.2.1.length+([y.1]:LI).length<=1073741824 then if g.2.2.2.1.2.2.1.length+([x.1.1]:List LI).length<=1073741824 then oP n g.1 g.2.1.1 g.2.1.2.1 g.2.1.2.2.1 g.2.1.2.2.2.1 g.2.1.2.2.2.2.1 g.2.1.2.2.2.2.2.1 g.2.1.2.2.2.2.2.2.1 g.2.2.1.1 g.2.2.1.2.1 g.2.2.1.2.2.1 g.2.2.2.1.1 (g.2.2.2.1.2.1++([y.1]:LI)) (g.2.2.2.1.2.2.1++([x.1.1]:List LI)) (wI (g.2.2.2.2.1+1))else none else none
    | .inr (.inr e)=>e.elim else none else none else none
def Q0 (a:LI) (b:LI) (c:LI) (d:LI) (f:LI) (h:LI) (i:Int) (j:LI) (k:Int):Option YX:=(Mq m a b c d f h i).bind λF=>bif F.1 !=0 then some ((([],[],([]:List LI),()),F.1,()),v4)else (BQ m j).bind λH=>bif H.1 then (Ko m j j).bind λz=>(OT m z.1.1 z.1.2.1 z.1.2.2.1 z.1.2.2.2.1).bind λA=>bif (j.length:Int) !=(a.length:Int)then some ((([],[],([]:List LI),()),2,()),v4)else (BQ m j).bind λI=>bif !I.1 then some ((([],[],([]:List LI),()),4,()),v4)else bif decide (k<1)then some ((([],[],([]:List LI),()),350,()),v4)else bif decide (k>16)then some ((([],[],([]:List LI),()),350,()),v4)else (F1 m A.1).bind λJ=>bif J.1 then some ((([],[],([]:List LI),()),380,()),v4)else (oH m A.1).bind λK=>bif !K.1 then some ((([],[],([]:List LI),()),233,()),v4)else (Mp m j A.1).bind λG=>bif !G.1.2.1 then some ((([],[],([]:List LI),()),233,()),v4)else (oP m m k a b c d f h i ([]:LI) ([]:LI) ([]:List LI) ([]:LI) ([]:LI) ([G.1.1]:List LI) 0).bind λL=>match L with
          | .inl g=>some (((g.1.1,g.1.2.1,g.1.2.2.1,()),g.2.1,()),v4)
          | .inr e=>e.elim else bif (j.length:Int) !=(a.length:Int)then some ((([],[],([]:List LI),()),2,()),v4)else (BQ m j).bind λB=>bif !B.1 then some ((([],[],([]:List LI),()),4,()),v4)else bif decide (k<1)then some ((([],[],([]:List LI),()),350,()),v4)else bif decide (k>16)then some ((([],[],([]:List LI),()),350,()),v4)else (F1 m 0).bind λC=>bif C.1 then some ((([],[],([]:List LI),()),380,()),v4)else (oH m 0).bind λD=>bif !D.1 then some ((([],[],([]:List LI),()),233,()),v4)else (Mp m j 0).bind λy=>bif !y.1.2.1 then some ((([],[],([]:List LI),()),233,()),v4)else (oP m m k a b c d f h i ([]:LI) ([]:LI) ([]:List LI) ([]:LI) ([]:LI) ([y.1.1]:List LI) 0).bind λE=>match E with
          | .inl x=>some (((x.1.1,x.1.2.1,x.1.2.2.1,()),x.2.1,()),v4)
          | .inr e=>e.elim
def rq (m:Nat):Nat->LI->LI->Int->Option sT
 |0,_,_,_=>none
 |n+1,a,b,c=>bif decide (c<(a.length:Int))then if 0<=c/\c<(a.length:Int)then if 0<=c/\c<(b.length:Int)then bif (a.getD c.toNat 0) !=(b.getD c.toNat 0)then some (.inl (false,()))else rq m n a b (wI (c+1))else none else none else some (.inr (.inl ()))
def KW (a:LI) (b:LI):Option vH:=bif (a.length:Int) !=(b.length:Int)then some (false,ul)else (rq m m a b 0).bind λg=>match g with
  | .inl x=>some (x.1,ul)
  | .inr (.inl y)=>some (true,ul)
  | .inr (.inr e)=>e.elim
def qO:Nat->List LI->List LI->Int->Option sT
 |0,_,_,_=>none
 |n+1,a,b,c=>bif decide (c<(a.length:Int))then if 0<=c/\c<(a.length:Int)then if 0<=c/\c<(b.length:Int)then (KW m (a.getD c.toNat ([]:LI)) (b.getD c.toNat ([]:LI))).bind λe=>bif !e.1 then some (.inl (false,()))else qO n a b (wI (c+1))else none else none else some (.inr (.inl ()))
def OM (a:List LI) (b:List LI):Option vH:=bif (a.length:Int) !=(b.length:Int)then some (false,ul)else (qO m m a b 0).bind λg=>match g with
  | .inl x=>some (x.1,ul)
  | .inr (.inl y)=>some (true,ul)
  | .inr (.inr e)=>e.elim
def cg (a:LI) (b:LI) (c:List LI) (d:LI) (f:LI) (h:List LI):Option vH:=(KW m a d).bind λe=>bif e.1 then (KW m b f).bind λg=>bif g.1 then (OM m c h).bind λx=>some (x.1,ul)else some (false,ul)else some (false,ul)
def cu:Option IR:=(T6 m 2 0).bind λg=>(T6 m 4 0).bind λx=>(Mv m ([0,1]:LI) ([1,1]:LI) ([g.1,x.1]:LI) ([0,0,0]:LI) ([]:LI) ([]:LI) 0 ([0,4607182418800017408]:LI) 3).bind λe=>bif e.1.2.1==0 then (KW m e.1.1.1 ([4598175219545276416]:LI)).bind λy=>bif y.1 then bif (e.1.1.2.1.length:Int)==0 then (OM m e.1.1.2.2.1 ([([0,4607182418800017408]:LI)]:List LI)).bind λz=>some (z.1,())else some (false,())else some (false,())else some (false,())
abbrev Iv:=LI×LI×LI×LI×LI×LI×Int×Unit
abbrev Rq:=Option YN
def pQ (x:Iv) (st:LI) (s:Int):Rq:=(Mv m x.1 x.2.1 x.2.2.1 x.2.2.2.1 x.2.2.2.2.1 x.2.2.2.2.2.1 x.2.2.2.2.2.2.1 st s).bind λe=>(Q0 m x.1 x.2.1 x.2.2.1 x.2.2.2.1 x.2.2.2.2.1 x.2.2.2.2.2.1 x.2.2.2.2.2.2.1 st s).bind λg=>bif e.1.2.1==g.1.2.1 then (cg m e.1.1.1 e.1.1.2.1 e.1.1.2.2.1 g.1.1.1 g.1.1.2.1 g.1.1.2.2.1).bind λy=>bif y.1 then (cu m).bind λz=>some (z.1,ww)else some (false,ww)else some (false,ww)
def M0 (x:Iv) (st:LI) (t4:Int):Rq:=bif decide (t4>2)then bif decide (t4<=16)then pQ m x st 2 else pQ m x st t4 else pQ m x st t4
def M1 (x:Iv) (st:LI) (t5 t4:Int):Rq:=bif decide ((x.2.1.length:Int)>0)then bif (Int.tmod t5 5)==0 then (wW m t5 (x.2.1.length:Int)).bind λe=>(wW m t5 4).bind λg=>if 0<=e.1/\e.1<(x.2.1.length:Int)then M0 m (x.1,x.2.1.set (0+e.1.toNat) g.1,x.2.2) st t4 else none else M0 m x st t4 else M0 m x st t4
def R9 (x:Iv) (st:LI) (t3 t5 t4:Int):Rq:=bif decide ((st.length:Int)>0)then bif (Int.tmod t5 2)==0 then (wW m t5 (st.length:Int)).bind λe=>if 0<=e.1/\e.1<(st.length:Int)then M1 m x (st.set (0+e.1.toNat) t3) t5 t4 else none else M1 m x st t5 t4 else M1 m x st t5 t4
def bC (a:LI) (b:Int) (c:Int) (d:Int) (f:Int) (h:Int):Option YN:=(cF m a b 0 true).bind λe=>(wW m c 6).bind λg=>(Lf m a 2 g.1 0).bind λx=>bif (Int.tmod c 4)==0 then if 0<=(e.1.1.1.length:Int)/\(e.1.1.1.length:Int)<=(e.1.1.1.length:Int)/\(e.1.1.1.length:Int)<=1073741824 then R9 m e.1.1 (List.replicate (e.1.1.1.length:Int).toNat (0:Int)) d h f else none else R9 m e.1.1 x.1 d h f
end Go.Vs.F
