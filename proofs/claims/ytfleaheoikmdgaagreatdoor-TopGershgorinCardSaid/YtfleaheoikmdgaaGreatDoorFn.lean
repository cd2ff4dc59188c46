import Derived.Test.YtfleaheoikmdgaaGreatDoorVc
set_option linter.unusedVariables false
set_option linter.unusedSimpArgs false
set_option linter.unusedSectionVars false
set_option linter.defProp false
namespace Go.Vs.F
abbrev tL2:=(Bool×LI)
abbrev tK2:=(Int×Int)
abbrev tJ2:=(Int×Unit)
abbrev tI2:=(Bool×Unit)
abbrev tH2:=(LI×LI×Unit)
abbrev tG2:=(Int×Int×Int)
abbrev tF2:=(List (LI×LI))
abbrev tE2:=(Int×Int×Unit)
abbrev tD2:=(LI×Unit×Unit)
abbrev tC2:=(Bool×LI×Unit)
abbrev tB2:=(Int×Unit×Unit)
abbrev tA2:=(List tL2 )
abbrev t81:=(Bool×Unit×Unit)
abbrev t01:=(List tK2 )
abbrev tz1:=((LI×Unit)⊕Empty)
abbrev ty1:=(Int×Int×LI×Unit)
abbrev tx1:=(LI×Unit×Unit×Unit)
abbrev tw1:=(Int×Unit×Unit×Unit)
abbrev tv1:=(Int×Int×LI×LI×Unit)
abbrev tu1:=(List tG2 )
abbrev tt1:=(Bool× tL2 ×Int)
abbrev ts1:=(Bool×Unit×Unit×Unit)
abbrev tr1:=((LI×Int×Unit)⊕Empty)
abbrev tq1:=(Int×Int×Int×Int×Unit)
abbrev tp1:=(Bool×Bool×LI×Int×Unit)
abbrev to1:=(Int×Int×LI×LI×LI×Unit)
abbrev tn1:=( tJ2 ⊕Unit⊕Empty)
abbrev tm1:=(List tA2 )
abbrev tj1:=( tI2 ⊕Unit⊕Empty)
abbrev ti1:=(Int×Unit×Unit×Unit×Unit)
abbrev th1:=( tC2 ×Unit×Unit)
abbrev tg1:=(Bool×Unit×Unit×Unit×Unit)
abbrev tf1:=(List tt1 )
abbrev te1:=((Int×Bool×Unit)×Unit×Unit)
abbrev td1:=(Bool×Bool×LI×Int×Bool×Unit)
abbrev tc1:=( ty1 ×Int×Unit)
abbrev tb1:=((LI×Int×Int×Int×Unit)⊕Empty)
abbrev ta1:=( t01 ×LI×Int×Unit)
abbrev tZ1:=( tp1 ×Unit)
abbrev tY1:=(Int× tt1 ×Int)
abbrev tX1:=((LI×Int×Unit)×Unit×Unit×Unit)
abbrev tW1:=(LI×LI×LI×LI×LI×LI×LI×LI×Unit)
abbrev tV1:=((LI×Bool×Unit)×Unit×Unit×Unit)
abbrev tU1:=( tC2 ×Unit×Unit×Unit)
abbrev tT1:=(List (Int×Bool× tL2 ×Int))
abbrev tS1:=(Int×List tt1 )
abbrev tR1:=(Bool×Unit×Unit×Unit×Unit×Unit)
abbrev tQ1:=( tE2 ×Unit×Unit×Unit)
abbrev tP1:=((Int×Bool×Unit)×Unit×Unit×Unit)
abbrev tO1:=(( tC2 ×Int×Unit)⊕Empty)
abbrev tN1:=(List tf1 )
abbrev tM1:=( tp1 ×Unit×Unit)
abbrev tL1:=(List tY1 )
abbrev tK1:=( tm1 ×Int×Int×Unit)
abbrev tJ1:=(List tS1 )
abbrev tI1:=(( tm1 ×Unit)⊕Empty)
abbrev tH1:=( tm1 ×Unit×Unit×Unit)
abbrev tG1:=( tp1 ×Unit×Unit×Unit)
abbrev tF1:=(( tf1 ×Unit)⊕Empty)
abbrev tE1:=(( tC2 ×Int×Unit)×Unit×Unit×Unit)
abbrev tD1:=( tW1 ×Int×Int×Unit)
abbrev tC1:=( tJ1 ×Unit)
abbrev tB1:=((Int× tC2 × tC2 ×Unit)⊕Empty)
abbrev tA1:=(( tN1 ×Unit)⊕Empty)
abbrev tu:=( tJ2 ⊕( to1 ×Unit)⊕Empty)
abbrev tq:=(( tC2 × tC2 ×Int×Unit)×Unit×Unit×Unit)
abbrev tZ:=( tp1 × tf1 ×Unit)
abbrev tY:=(( to1 × to1 ×Unit)⊕Empty)
abbrev tX:=(Int×Int×LI×LI×LI×LI×LI×LI×List Unit× tF2 × tF2 ×Unit)
abbrev tV:=(( to1 × tN1 ×Unit)⊕Empty)
abbrev tK:=(Int×Int×LI×LI×LI×LI×LI×Unit×List Unit× tF2 × tF2 ×Unit)
abbrev tJ:=( tX ×Int×Unit)
abbrev tH:=(Int× tX ×Unit×Unit×Unit×Unit)
abbrev tC:=((LI×Int×Int× to1 × tW1 × tX ×Unit)⊕Empty)
abbrev qz:Bool×(Bool×List Int)×Int:=(false,((false,[]),0))
def q3r:LI:=[0,1,28,2,29,14,24,3,30,22,20,15,25,17,4,8,31,27,13,23,21,19,16,7,26,12,18,6,11,5,10,9]
def Qc:LI:=[0,1,2,2,3,3,3,3,4,4,4,4,4,4,4,4,5,5,5,5,5,5,5,5,5,5,5,5,5,5,5,5,6,6,6,6,6,6,6,6,6,6,6,6,6,6,6,6,6,6,6,6,6,6,6,6,6,6,6,6,6,6,6,6,7,7,7,7,7,7,7,7,7,7,7,7,7,7,7,7,7,7,7,7,7,7,7,7,7,7,7,7,7,7,7,7,7,7,7,7,7,7,7,7,7,7,7,7,7,7,7,7,7,7,7,7,7,7,7,7,7,7,7,7,7,7,7,7,8,8,8,8,8,8,8,8,8,8,8,8,8,8,8,8,8,8,8,8,8,8,8,8,8,8,8,8,8,8,8,8,8,8,8,8,8,8,8,8,8,8,8,8,8,8,8,8,8,8,8,8,8,8,8,8,8,8,8,8,8,8,8,8,8,8,8,8,8,8,8,8,8,8,8,8,8,8,8,8,8,8,8,8,8,8,8,8,8,8,8,8,8,8,8,8,8,8,8,8,8,8,8,8,8,8,8,8,8,8,8,8,8,8,8,8,8,8,8,8,8,8,8,8,8,8,8,8]
def g4 (m:Nat) (a:Int) (b:Int):Option tw1:=if(wJ b)≠0 then some (wI (Int.tmod (wJ a) (wJ b)),((),(),()))else none
def g19 (m:Nat) (a:LI) (b:Int):Option tw1:=bif decide ((a.length:Int)>0)then (g4 m b (a.length:Int)).bind λy1=>if 0<=y1.1/\y1.1<(a.length:Int)then some (Zw .u64 (wJ ((Zw .u64 (Zw .u64 (wJ ((wJ (wI (b+1)))*11400714819323198485)) (a.getD y1.1.toNat 0)) (shr_ .u64 (Zw .u64 (wJ ((wJ (wI (b+1)))*11400714819323198485)) (a.getD y1.1.toNat 0)) 31))*13787848793156543929)) (shr_ .u64 (wJ ((Zw .u64 (Zw .u64 (wJ ((wJ (wI (b+1)))*11400714819323198485)) (a.getD y1.1.toNat 0)) (shr_ .u64 (Zw .u64 (wJ ((wJ (wI (b+1)))*11400714819323198485)) (a.getD y1.1.toNat 0)) 31))*13787848793156543929)) 29),((),(),()))else none else some (Zw .u64 (wJ ((Zw .u64 (wJ ((wJ (wI (b+1)))*11400714819323198485)) (shr_ .u64 (wJ ((wJ (wI (b+1)))*11400714819323198485)) 31))*13787848793156543929)) (shr_ .u64 (wJ ((Zw .u64 (wJ ((wJ (wI (b+1)))*11400714819323198485)) (shr_ .u64 (wJ ((wJ (wI (b+1)))*11400714819323198485)) 31))*13787848793156543929)) 29),((),(),()))
def g42 (m:Nat) (a:Int):Option t81:=some ((qo .u64 (shr_ .u64 a 52) 2047) !=2047,((),()))
def g179L1 (m:Nat):Nat->LI->Int->LI->Int->Option tz1
 |0,_,_,_,_=>none
 |n+1,a,b,c,d=>bif decide (d<b)then if 0<=d/\d<(a.length:Int)then if c.length+([a.getD d.toNat 0]:LI).length<=1073741824 then g179L1 m n a b (c++([a.getD d.toNat 0]:LI)) (wI (d+1))else none else none else some (.inl (c,()))
def g179L0 (m:Nat):Nat->LI->Int->Option tr1
 |0,_,_=>none
 |n+1,a,b=>bif decide (b>0)then if 0<=(wI (b-1))/\(wI (b-1))<(a.length:Int)then bif (a.getD (wI (b-1)).toNat 0)==0 then g179L0 m n a (wI (b-1))else some (.inl (a,b,()))else none else some (.inl (a,b,()))
def g179 (m:Nat) (a:LI):Option tD2:=(g179L0 m m a (a.length:Int)).bind λy1=>match y1 with
 | .inl z2=>(g179L1 m m z2.1 z2.2.1 ([]:LI) 0).bind λy3=>match y3 with
  | .inl z4=>some (z4.1,((),()))
  | .inr e=>e.elim
 | .inr e=>e.elim
def g178 (m:Nat) (a:Bool) (b:LI):Option tU1:=(g179 m b).bind λy1=>bif a then some ((decide ((y1.1.length:Int)>0),y1.1,()),((),(),()))else some ((false,y1.1,()),((),(),()))
def g186 (m:Nat) (a:Int):Option th1:=bif decide (a<0)then (g178 m (decide (a<0)) ([wK (wJ ((wJ (wI (0-(wI (a+1)))))+1)),wK (shr_ .u64 (wJ ((wJ (wI (0-(wI (a+1)))))+1)) 32)]:LI)).bind λy1=>some ((y1.1.1,y1.1.2.1,()),((),()))else (g178 m (decide (a<0)) ([wK (wJ a),wK (shr_ .u64 (wJ a) 32)]:LI)).bind λy2=>some ((y2.1.1,y2.1.2.1,()),((),()))
def g123 (m:Nat) (a:Bool) (b:LI):Option th1:=(g178 m a b).bind λy1=>some ((y1.1.1,y1.1.2.1,()),((),()))
def g76 (m:Nat):Option tZ1:=some ((true,false,[],0,()),())
def g180 (m:Nat) (a:Int):Option tB2:=bif a==0 then some (32,((),()))else if(0:Int)<=27 then if 0<=(shr_ .u32 (wK ((qo .u32 a (wK (0-a)))*125613361)) 27)/\(shr_ .u32 (wK ((qo .u32 a (wK (0-a)))*125613361)) 27)<(q3r.length:Int)then some (wI (q3r.getD (shr_ .u32 (wK ((qo .u32 a (wK (0-a)))*125613361)) 27).toNat 0),((),()))else none else none
def g124L0 (m:Nat):Nat->LI->Int->Option tn1
 |0,_,_=>none
 |n+1,a,b=>bif decide (b<(a.length:Int))then if 0<=b/\b<(a.length:Int)then bif (a.getD (0+b.toNat) 0) !=0 then if 0<=b/\b<(a.length:Int)then (g180 m (a.getD (0+b.toNat) 0)).bind λy1=>some (.inl (wI ((wI (32*b))+y1.1),()))else none else g124L0 m n a (wI (b+1))else none else some (.inr (.inl ()))
def g124 (m:Nat) (a:Bool) (b:LI):Option tB2:=(g179 m b).bind λy1=>(g124L0 m m y1.1 0).bind λy2=>match y2 with
 | .inl z3=>some (z3.1,((),()))
 | .inr (.inl z4)=>some (0,((),()))
 | .inr (.inr e)=>e.elim
def g125 (m:Nat) (a:Bool) (b:LI):Option th1:=(g178 m false b).bind λy1=>some ((y1.1.1,y1.1.2.1,()),((),()))
def g205L0 (m:Nat):Nat->LI->Int->LI->Int->Int->Option tr1
 |0,_,_,_,_,_=>none
 |n+1,a,b,c,d,f=>bif decide (f<(a.length:Int))then if 0<=f/\f<(a.length:Int)then if 0<=(Int.tmod b 32)then if c.length+([wK (b_or_ .u64 d (shl_ .u64 (wJ (a.getD f.toNat 0)) (Int.tmod b 32)))]:LI).length<=1073741824 then g205L0 m n a b (c++([wK (b_or_ .u64 d (shl_ .u64 (wJ (a.getD f.toNat 0)) (Int.tmod b 32)))]:LI)) (shr_ .u64 (b_or_ .u64 d (shl_ .u64 (wJ (a.getD f.toNat 0)) (Int.tmod b 32))) 32) (wI (f+1))else none else none else none else some (.inl (c,d,()))
def g205 (m:Nat) (a:LI) (b:Int):Option tx1:=if 0<=(wI (Int.tdiv b 32))/\(wI (Int.tdiv b 32))<=(wI (Int.tdiv b 32))/\(wI (Int.tdiv b 32))<=1073741824 then (g205L0 m m a b (List.replicate (wI (Int.tdiv b 32)).toNat (0:Int)) 0 0).bind λy1=>match y1 with
 | .inl z2=>if z2.1.length+([wK z2.2.1]:LI).length<=1073741824 then some (z2.1++([wK z2.2.1]:LI),((),(),()))else none
 | .inr e=>e.elim else none
def g206L1 (m:Nat):Nat->LI->Int->Bool->LI->Int->Int->Option (tC2⊕Empty)
 |0,_,_,_,_,_,_=>none
 |n+1,a,b,c,d,f,h=>bif decide (h<(a.length:Int))then if 0<=h/\h<(a.length:Int)then bif decide ((wI (h+1))<(a.length:Int))then if 0<=(wI (h+1))/\(wI (h+1))<(a.length:Int)then bif h==(wI (Int.tdiv b 32))then if 0<=h/\h<(a.length:Int)then if 0<=f then bif (qo .u32 (a.getD h.toNat 0) (wK ((shl_ .u32 1 f)-1))) !=0 then if 0<=f then if d.length+([wK (shr_ .u64 (b_or_ .u64 (wJ (a.getD h.toNat 0)) (shl_ .u64 (wJ (a.getD (wI (h+1)).toNat 0)) 32)) f)]:LI).length<=1073741824 then g206L1 m n a b true (d++([wK (shr_ .u64 (b_or_ .u64 (wJ (a.getD h.toNat 0)) (shl_ .u64 (wJ (a.getD (wI (h+1)).toNat 0)) 32)) f)]:LI)) f (wI (h+1))else none else none else if 0<=f then if d.length+([wK (shr_ .u64 (b_or_ .u64 (wJ (a.getD h.toNat 0)) (shl_ .u64 (wJ (a.getD (wI (h+1)).toNat 0)) 32)) f)]:LI).length<=1073741824 then g206L1 m n a b c (d++([wK (shr_ .u64 (b_or_ .u64 (wJ (a.getD h.toNat 0)) (shl_ .u64 (wJ (a.getD (wI (h+1)).toNat 0)) 32)) f)]:LI)) f (wI (h+1))else none else none else none else none else if 0<=f then if d.length+([wK (shr_ .u64 (b_or_ .u64 (wJ (a.getD h.toNat 0)) (shl_ .u64 (wJ (a.getD (wI (h+1)).toNat 0)) 32)) f)]:LI).length<=1073741824 then g206L1 m n a b c (d++([wK (shr_ .u64 (b_or_ .u64 (wJ (a.getD h.toNat 0)) (shl_ .u64 (wJ (a.getD (wI (h+1)).toNat 0)) 32)) f)]:LI)) f (wI (h+1))else none else none else none else bif h==(wI (Int.tdiv b 32))then if 0<=h/\h<(a.length:Int)then if 0<=f then bif (qo .u32 (a.getD h.toNat 0) (wK ((shl_ .u32 1 f)-1))) !=0 then if 0<=f then if d.length+([wK (shr_ .u64 (wJ (a.getD h.toNat 0)) f)]:LI).length<=1073741824 then g206L1 m n a b true (d++([wK (shr_ .u64 (wJ (a.getD h.toNat 0)) f)]:LI)) f (wI (h+1))else none else none else if 0<=f then if d.length+([wK (shr_ .u64 (wJ (a.getD h.toNat 0)) f)]:LI).length<=1073741824 then g206L1 m n a b c (d++([wK (shr_ .u64 (wJ (a.getD h.toNat 0)) f)]:LI)) f (wI (h+1))else none else none else none else none else if 0<=f then if d.length+([wK (shr_ .u64 (wJ (a.getD h.toNat 0)) f)]:LI).length<=1073741824 then g206L1 m n a b c (d++([wK (shr_ .u64 (wJ (a.getD h.toNat 0)) f)]:LI)) f (wI (h+1))else none else none else none else some (.inl (c,d,()))
def g206L0 (m:Nat):Nat->LI->Int->Bool->Int->Option ((LI×Int×Bool×Unit)⊕Empty)
 |0,_,_,_,_=>none
 |n+1,a,b,c,d=>bif decide (d<(wI (Int.tdiv b 32)))then bif decide (d<(a.length:Int))then bif c then g206L0 m n a b true (wI (d+1))else if 0<=d/\d<(a.length:Int)then g206L0 m n a b ((a.getD d.toNat 0) !=0) (wI (d+1))else none else some (.inl (a,b,c,()))else some (.inl (a,b,c,()))
def g206 (m:Nat) (a:LI) (b:Int):Option tV1:=(g206L0 m m a b false 0).bind λy1=>match y1 with
 | .inl z2=>(g206L1 m m z2.1 z2.2.1 z2.2.2.1 ([]:LI) (Int.tmod z2.2.1 32) (wI (Int.tdiv z2.2.1 32))).bind λy3=>match y3 with
  | .inl z4=>some ((z4.2.1,z4.1,()),((),(),()))
  | .inr e=>e.elim
 | .inr e=>e.elim
def g229 (m:Nat) (a:Bool) (b:LI):Option th1:=(g178 m (!a) b).bind λy1=>some ((y1.1.1,y1.1.2.1,()),((),()))
def g241L0 (m:Nat):Nat->LI->LI->LI->Int->Int->Option tr1
 |0,_,_,_,_,_=>none
 |n+1,a,b,c,d,f=>bif decide (f<(if(b.length:Int)>(a.length:Int)then(b.length:Int)else(a.length:Int)))then bif decide (f<(a.length:Int))then if 0<=f/\f<(a.length:Int)then bif decide (f<(b.length:Int))then if 0<=f/\f<(b.length:Int)then if c.length+([wK (wJ ((wJ (d+(wJ (a.getD f.toNat 0))))+(wJ (b.getD f.toNat 0))))]:LI).length<=1073741824 then g241L0 m n a b (c++([wK (wJ ((wJ (d+(wJ (a.getD f.toNat 0))))+(wJ (b.getD f.toNat 0))))]:LI)) (shr_ .u64 (wJ ((wJ (d+(wJ (a.getD f.toNat 0))))+(wJ (b.getD f.toNat 0)))) 32) (wI (f+1))else none else none else if c.length+([wK (wJ (d+(wJ (a.getD f.toNat 0))))]:LI).length<=1073741824 then g241L0 m n a b (c++([wK (wJ (d+(wJ (a.getD f.toNat 0))))]:LI)) (shr_ .u64 (wJ (d+(wJ (a.getD f.toNat 0)))) 32) (wI (f+1))else none else none else bif decide (f<(b.length:Int))then if 0<=f/\f<(b.length:Int)then if c.length+([wK (wJ (d+(wJ (b.getD f.toNat 0))))]:LI).length<=1073741824 then g241L0 m n a b (c++([wK (wJ (d+(wJ (b.getD f.toNat 0))))]:LI)) (shr_ .u64 (wJ (d+(wJ (b.getD f.toNat 0)))) 32) (wI (f+1))else none else none else if c.length+([wK d]:LI).length<=1073741824 then g241L0 m n a b (c++([wK d]:LI)) (shr_ .u64 d 32) (wI (f+1))else none else some (.inl (c,d,()))
def g241 (m:Nat) (a:LI) (b:LI):Option tx1:=(g241L0 m m a b ([]:LI) 0 0).bind λy1=>match y1 with
 | .inl z2=>if z2.1.length+([wK z2.2.1]:LI).length<=1073741824 then some (z2.1++([wK z2.2.1]:LI),((),(),()))else none
 | .inr e=>e.elim
def g242L0 (m:Nat):Nat->LI->LI->Int->Option tn1
 |0,_,_,_=>none
 |n+1,a,b,c=>bif decide (c>=0)then if 0<=c/\c<(a.length:Int)then if 0<=c/\c<(b.length:Int)then bif (a.getD c.toNat 0) !=(b.getD c.toNat 0)then if 0<=c/\c<(a.length:Int)then if 0<=c/\c<(b.length:Int)then bif decide ((a.getD c.toNat 0)<(b.getD c.toNat 0))then some (.inl ((-1),()))else some (.inl (1,()))else none else none else g242L0 m n a b (wI (c-1))else none else none else some (.inr (.inl ()))
def g242 (m:Nat) (a:LI) (b:LI):Option tw1:=bif (a.length:Int) !=(b.length:Int)then bif decide ((a.length:Int)<(b.length:Int))then some ((-1),((),(),()))else some (1,((),(),()))else (g242L0 m m a b (wI ((a.length:Int)-1))).bind λy1=>match y1 with
  | .inl z2=>some (z2.1,((),(),()))
  | .inr (.inl z3)=>some (0,((),(),()))
  | .inr (.inr e)=>e.elim
def g243L0 (m:Nat):Nat->LI->LI->LI->Int->Int->Option tz1
 |0,_,_,_,_,_=>none
 |n+1,a,b,c,d,f=>bif decide (f<(a.length:Int))then if 0<=f/\f<(a.length:Int)then bif decide (f<(b.length:Int))then if 0<=f/\f<(b.length:Int)then if c.length+([wK (wJ ((wJ ((wJ (a.getD f.toNat 0))-d))-(wJ (b.getD f.toNat 0))))]:LI).length<=1073741824 then g243L0 m n a b (c++([wK (wJ ((wJ ((wJ (a.getD f.toNat 0))-d))-(wJ (b.getD f.toNat 0))))]:LI)) (shr_ .u64 (wJ ((wJ ((wJ (a.getD f.toNat 0))-d))-(wJ (b.getD f.toNat 0)))) 63) (wI (f+1))else none else none else if c.length+([wK (wJ ((wJ (a.getD f.toNat 0))-d))]:LI).length<=1073741824 then g243L0 m n a b (c++([wK (wJ ((wJ (a.getD f.toNat 0))-d))]:LI)) (shr_ .u64 (wJ ((wJ (a.getD f.toNat 0))-d)) 63) (wI (f+1))else none else none else some (.inl (c,()))
def g243 (m:Nat) (a:LI) (b:LI):Option tx1:=(g243L0 m m a b ([]:LI) 0 0).bind λy1=>match y1 with
 | .inl z2=>some (z2.1,((),(),()))
 | .inr e=>e.elim
def g228 (m:Nat) (a:Bool) (b:LI) (c:Bool) (d:LI):Option tU1:=(g179 m b).bind λy1=>(g179 m d).bind λy2=>bif a==c then (g241 m y1.1 y2.1).bind λy3=>(g178 m a y3.1).bind λy4=>some ((y4.1.1,y4.1.2.1,()),((),(),()))else (g242 m y1.1 y2.1).bind λy5=>bif decide (y5.1>=0)then (g243 m y1.1 y2.1).bind λy6=>(g178 m a y6.1).bind λy7=>some ((y7.1.1,y7.1.2.1,()),((),(),()))else (g243 m y2.1 y1.1).bind λy8=>(g178 m c y8.1).bind λy9=>some ((y9.1.1,y9.1.2.1,()),((),(),()))
def g207 (m:Nat) (a:Bool) (b:LI) (c:Bool) (d:LI):Option tU1:=(g229 m c d).bind λy1=>(g228 m a b y1.1.1 y1.1.2.1).bind λy2=>some ((y2.1.1,y2.1.2.1,()),((),(),()))
def g181 (m:Nat) (a:Bool) (b:LI) (c:Int):Option tU1:=(g123 m a b).bind λy1=>bif decide (c>=0)then (g205 m y1.1.2.1 c).bind λy2=>(g178 m y1.1.1 y2.1).bind λy3=>some ((y3.1.1,y3.1.2.1,()),((),(),()))else (g206 m y1.1.2.1 (wI (0-c))).bind λy4=>(g178 m y1.1.1 y4.1.1).bind λy5=>bif y1.1.1 then bif y4.1.2.1 then (g186 m 1).bind λy6=>(g207 m y5.1.1 y5.1.2.1 y6.1.1 y6.1.2.1).bind λy7=>some ((y7.1.1,y7.1.2.1,()),((),(),()))else some ((y5.1.1,y5.1.2.1,()),((),(),()))else some ((y5.1.1,y5.1.2.1,()),((),(),()))
def g126L0 (m:Nat):Nat->Int->Bool->LI->Bool->LI->Option tB1
 |0,_,_,_,_,_=>none
 |n+1,a,b,c,d,f=>bif decide (a>1048576)then (g181 m b c (-1048576)).bind λy1=>g126L0 m n (wI (a-1048576)) y1.1.1 y1.1.2.1 d f else some (.inl (a,(b,c,()),(d,f,()),()))
def g126 (m:Nat) (a:Bool) (b:LI) (c:Int):Option tU1:=(g126L0 m m c a b false ([]:LI)).bind λy1=>match y1 with
 | .inl z2=>(g181 m z2.2.1.1 z2.2.1.2.1 (wI (0-z2.1))).bind λy3=>some ((y3.1.1,y3.1.2.1,()),((),(),()))
 | .inr e=>e.elim
def g182 (m:Nat) (a:Int):Option tB2:=bif decide (a>=65536)then bif decide ((shr_ .u32 a 16)>=256)then if 0<=(w_u8 (shr_ .u32 (shr_ .u32 a 16) 8))/\(w_u8 (shr_ .u32 (shr_ .u32 a 16) 8))<(Qc.length:Int)then some (wI (24+(wI (Qc.getD (w_u8 (shr_ .u32 (shr_ .u32 a 16) 8)).toNat 0))),((),()))else none else if 0<=(w_u8 (shr_ .u32 a 16))/\(w_u8 (shr_ .u32 a 16))<(Qc.length:Int)then some (wI (16+(wI (Qc.getD (w_u8 (shr_ .u32 a 16)).toNat 0))),((),()))else none else bif decide (a>=256)then if 0<=(w_u8 (shr_ .u32 a 8))/\(w_u8 (shr_ .u32 a 8))<(Qc.length:Int)then some (wI (8+(wI (Qc.getD (w_u8 (shr_ .u32 a 8)).toNat 0))),((),()))else none else if 0<=(w_u8 a)/\(w_u8 a)<(Qc.length:Int)then some (wI (0+(wI (Qc.getD (w_u8 a).toNat 0))),((),()))else none
def g127 (m:Nat) (a:Bool) (b:LI):Option tB2:=(g179 m b).bind λy1=>bif (y1.1.length:Int)==0 then some (0,((),()))else if 0<=(wI ((y1.1.length:Int)-1))/\(wI ((y1.1.length:Int)-1))<(y1.1.length:Int)then (g182 m (y1.1.getD (0+(wI ((y1.1.length:Int)-1)).toNat) 0)).bind λy2=>some (wI ((wI (32*(wI ((y1.1.length:Int)-1))))+y2.1),((),()))else none
def g77 (m:Nat) (a:Bool) (b:LI) (c:Int):Option tG1:=(g123 m a b).bind λy1=>bif (y1.1.2.1.length:Int)==0 then some ((false,false,[],0,()),((),(),()))else bif decide (c>65536)then (g76 m).bind λy2=>some ((y2.1.1,y2.1.2.1,y2.1.2.2.1,y2.1.2.2.2.1,()),((),(),()))else (g124 m y1.1.1 y1.1.2.1).bind λy3=>(g125 m y1.1.1 y1.1.2.1).bind λy4=>(g126 m y4.1.1 y4.1.2.1 y3.1).bind λy5=>bif decide ((wI (c+y3.1))<(-65536))then (g76 m).bind λy6=>some ((y6.1.1,y6.1.2.1,y6.1.2.2.1,y6.1.2.2.2.1,()),((),(),()))else (g127 m y5.1.1 y5.1.2.1).bind λy7=>bif decide ((wI ((wI (c+y3.1))+y7.1))>65536)then (g76 m).bind λy8=>some ((y8.1.1,y8.1.2.1,y8.1.2.2.1,y8.1.2.2.2.1,()),((),(),()))else some ((false,a,y5.1.2.1,wI (c+y3.1),()),((),(),()))
def g129 (m:Nat) (a:Int):Option tM1:=(g186 m a).bind λy1=>(g77 m y1.1.1 y1.1.2.1 0).bind λy2=>some ((y2.1.1,y2.1.2.1,y2.1.2.2.1,y2.1.2.2.2.1,()),((),()))
def g183 (m:Nat) (a:Bool) (b:Bool) (c:LI) (d:Int):Option tM1:=bif a then (g76 m).bind λy1=>some ((y1.1.1,y1.1.2.1,y1.1.2.2.1,y1.1.2.2.2.1,()),((),()))else (g77 m b c d).bind λy2=>some ((y2.1.1,y2.1.2.1,y2.1.2.2.1,y2.1.2.2.2.1,()),((),()))
def g184 (m:Nat) (a:Bool) (b:LI):Option tB2:=(g123 m a b).bind λy1=>bif (y1.1.2.1.length:Int)==0 then some (0,((),()))else bif y1.1.1 then some ((-1),((),()))else some (1,((),()))
def g211 (m:Nat) (a:Bool) (b:Int):Option tw1:=bif a then some (b_or_ .u64 b 9223372036854775808,((),(),()))else some (b,((),(),()))
def g208 (m:Nat) (a:Bool) (b:Int):Option tw1:=bif b==3 then (g211 m a 9218868437227405311).bind λy1=>some (y1.1,((),(),()))else bif b==1 then bif !a then (g211 m a 9218868437227405311).bind λy2=>some (y2.1,((),(),()))else bif b==2 then bif a then (g211 m a 9218868437227405311).bind λy3=>some (y3.1,((),(),()))else (g211 m a 9218868437227405312).bind λy4=>some (y4.1,((),(),()))else (g211 m a 9218868437227405312).bind λy5=>some (y5.1,((),(),()))else bif b==2 then bif a then (g211 m a 9218868437227405311).bind λy6=>some (y6.1,((),(),()))else (g211 m a 9218868437227405312).bind λy7=>some (y7.1,((),(),()))else (g211 m a 9218868437227405312).bind λy8=>some (y8.1,((),(),()))
def g230 (m:Nat) (a:Bool) (b:LI) (c:Int):Option ts1:=(g179 m b).bind λy1=>(g206 m y1.1 c).bind λy2=>some (y2.1.2.1,((),(),()))
def g231 (m:Nat) (a:Bool) (b:Int) (c:Bool) (d:Int):Option tR1:=bif d==1 then some (a,((),(),(),(),()))else bif d==2 then some (!a,((),(),(),(),()))else bif d==3 then some (false,((),(),(),(),()))else bif decide (b>0)then some (true,((),(),(),(),()))else bif b==0 then some (c,((),(),(),(),()))else some (false,((),(),(),(),()))
def g209 (m:Nat) (a:Bool) (b:Bool) (c:LI) (d:Int) (f:Bool) (h:Int):Option (tC2×Unit×Unit×Unit×Unit×Unit×Unit):=(g126 m b c d).bind λy1=>(g230 m b c d).bind λy2=>bif !y2.1 then bif !f then some ((y1.1.1,y1.1.2.1,()),((),(),(),(),(),()))else bif decide (d>0)then (g126 m b c (wI (d-1))).bind λy3=>(g124 m y3.1.1 y3.1.2.1).bind λy4=>bif y4.1==0 then (g184 m y3.1.1 y3.1.2.1).bind λy5=>bif y5.1 !=0 then bif f then (g184 m y1.1.1 y1.1.2.1).bind λy6=>bif y6.1 !=0 then (g124 m y1.1.1 y1.1.2.1).bind λy7=>(g231 m a 1 (y7.1==0) h).bind λy8=>bif y8.1 then (g186 m 1).bind λy9=>(g228 m y1.1.1 y1.1.2.1 y9.1.1 y9.1.2.1).bind λy10=>some ((y10.1.1,y10.1.2.1,()),((),(),(),(),(),()))else some ((y1.1.1,y1.1.2.1,()),((),(),(),(),(),()))else (g231 m a 1 false h).bind λy11=>bif y11.1 then (g186 m 1).bind λy12=>(g228 m y1.1.1 y1.1.2.1 y12.1.1 y12.1.2.1).bind λy13=>some ((y13.1.1,y13.1.2.1,()),((),(),(),(),(),()))else some ((y1.1.1,y1.1.2.1,()),((),(),(),(),(),()))else (g230 m b c (wI (d-1))).bind λy14=>bif y14.1 then (g184 m y1.1.1 y1.1.2.1).bind λy15=>bif y15.1 !=0 then (g124 m y1.1.1 y1.1.2.1).bind λy16=>(g231 m a 1 (y16.1==0) h).bind λy17=>bif y17.1 then (g186 m 1).bind λy18=>(g228 m y1.1.1 y1.1.2.1 y18.1.1 y18.1.2.1).bind λy19=>some ((y19.1.1,y19.1.2.1,()),((),(),(),(),(),()))else some ((y1.1.1,y1.1.2.1,()),((),(),(),(),(),()))else (g231 m a 1 false h).bind λy20=>bif y20.1 then (g186 m 1).bind λy21=>(g228 m y1.1.1 y1.1.2.1 y21.1.1 y21.1.2.1).bind λy22=>some ((y22.1.1,y22.1.2.1,()),((),(),(),(),(),()))else some ((y1.1.1,y1.1.2.1,()),((),(),(),(),(),()))else (g184 m y1.1.1 y1.1.2.1).bind λy23=>bif y23.1 !=0 then (g124 m y1.1.1 y1.1.2.1).bind λy24=>(g231 m a 0 (y24.1==0) h).bind λy25=>bif y25.1 then (g186 m 1).bind λy26=>(g228 m y1.1.1 y1.1.2.1 y26.1.1 y26.1.2.1).bind λy27=>some ((y27.1.1,y27.1.2.1,()),((),(),(),(),(),()))else some ((y1.1.1,y1.1.2.1,()),((),(),(),(),(),()))else (g231 m a 0 false h).bind λy28=>bif y28.1 then (g186 m 1).bind λy29=>(g228 m y1.1.1 y1.1.2.1 y29.1.1 y29.1.2.1).bind λy30=>some ((y30.1.1,y30.1.2.1,()),((),(),(),(),(),()))else some ((y1.1.1,y1.1.2.1,()),((),(),(),(),(),()))else (g184 m y1.1.1 y1.1.2.1).bind λy31=>bif y31.1 !=0 then (g124 m y1.1.1 y1.1.2.1).bind λy32=>(g231 m a (-1) (y32.1==0) h).bind λy33=>bif y33.1 then (g186 m 1).bind λy34=>(g228 m y1.1.1 y1.1.2.1 y34.1.1 y34.1.2.1).bind λy35=>some ((y35.1.1,y35.1.2.1,()),((),(),(),(),(),()))else some ((y1.1.1,y1.1.2.1,()),((),(),(),(),(),()))else (g231 m a (-1) false h).bind λy36=>bif y36.1 then (g186 m 1).bind λy37=>(g228 m y1.1.1 y1.1.2.1 y37.1.1 y37.1.2.1).bind λy38=>some ((y38.1.1,y38.1.2.1,()),((),(),(),(),(),()))else some ((y1.1.1,y1.1.2.1,()),((),(),(),(),(),()))else (g184 m y1.1.1 y1.1.2.1).bind λy39=>bif y39.1 !=0 then (g124 m y1.1.1 y1.1.2.1).bind λy40=>(g231 m a (-1) (y40.1==0) h).bind λy41=>bif y41.1 then (g186 m 1).bind λy42=>(g228 m y1.1.1 y1.1.2.1 y42.1.1 y42.1.2.1).bind λy43=>some ((y43.1.1,y43.1.2.1,()),((),(),(),(),(),()))else some ((y1.1.1,y1.1.2.1,()),((),(),(),(),(),()))else (g231 m a (-1) false h).bind λy44=>bif y44.1 then (g186 m 1).bind λy45=>(g228 m y1.1.1 y1.1.2.1 y45.1.1 y45.1.2.1).bind λy46=>some ((y46.1.1,y46.1.2.1,()),((),(),(),(),(),()))else some ((y1.1.1,y1.1.2.1,()),((),(),(),(),(),()))else (g184 m y1.1.1 y1.1.2.1).bind λy47=>bif y47.1 !=0 then (g124 m y1.1.1 y1.1.2.1).bind λy48=>(g231 m a (-1) (y48.1==0) h).bind λy49=>bif y49.1 then (g186 m 1).bind λy50=>(g228 m y1.1.1 y1.1.2.1 y50.1.1 y50.1.2.1).bind λy51=>some ((y51.1.1,y51.1.2.1,()),((),(),(),(),(),()))else some ((y1.1.1,y1.1.2.1,()),((),(),(),(),(),()))else (g231 m a (-1) false h).bind λy52=>bif y52.1 then (g186 m 1).bind λy53=>(g228 m y1.1.1 y1.1.2.1 y53.1.1 y53.1.2.1).bind λy54=>some ((y54.1.1,y54.1.2.1,()),((),(),(),(),(),()))else some ((y1.1.1,y1.1.2.1,()),((),(),(),(),(),()))else bif decide (d>0)then (g126 m b c (wI (d-1))).bind λy55=>(g124 m y55.1.1 y55.1.2.1).bind λy56=>bif y56.1==0 then (g184 m y55.1.1 y55.1.2.1).bind λy57=>bif y57.1 !=0 then bif f then (g184 m y1.1.1 y1.1.2.1).bind λy58=>bif y58.1 !=0 then (g124 m y1.1.1 y1.1.2.1).bind λy59=>(g231 m a 1 (y59.1==0) h).bind λy60=>bif y60.1 then (g186 m 1).bind λy61=>(g228 m y1.1.1 y1.1.2.1 y61.1.1 y61.1.2.1).bind λy62=>some ((y62.1.1,y62.1.2.1,()),((),(),(),(),(),()))else some ((y1.1.1,y1.1.2.1,()),((),(),(),(),(),()))else (g231 m a 1 false h).bind λy63=>bif y63.1 then (g186 m 1).bind λy64=>(g228 m y1.1.1 y1.1.2.1 y64.1.1 y64.1.2.1).bind λy65=>some ((y65.1.1,y65.1.2.1,()),((),(),(),(),(),()))else some ((y1.1.1,y1.1.2.1,()),((),(),(),(),(),()))else (g230 m b c (wI (d-1))).bind λy66=>bif y66.1 then (g184 m y1.1.1 y1.1.2.1).bind λy67=>bif y67.1 !=0 then (g124 m y1.1.1 y1.1.2.1).bind λy68=>(g231 m a 1 (y68.1==0) h).bind λy69=>bif y69.1 then (g186 m 1).bind λy70=>(g228 m y1.1.1 y1.1.2.1 y70.1.1 y70.1.2.1).bind λy71=>some ((y71.1.1,y71.1.2.1,()),((),(),(),(),(),()))else some ((y1.1.1,y1.1.2.1,()),((),(),(),(),(),()))else (g231 m a 1 false h).bind λy72=>bif y72.1 then (g186 m 1).bind λy73=>(g228 m y1.1.1 y1.1.2.1 y73.1.1 y73.1.2.1).bind λy74=>some ((y74.1.1,y74.1.2.1,()),((),(),(),(),(),()))else some ((y1.1.1,y1.1.2.1,()),((),(),(),(),(),()))else (g184 m y1.1.1 y1.1.2.1).bind λy75=>bif y75.1 !=0 then (g124 m y1.1.1 y1.1.2.1).bind λy76=>(g231 m a 0 (y76.1==0) h).bind λy77=>bif y77.1 then (g186 m 1).bind λy78=>(g228 m y1.1.1 y1.1.2.1 y78.1.1 y78.1.2.1).bind λy79=>some ((y79.1.1,y79.1.2.1,()),((),(),(),(),(),()))else some ((y1.1.1,y1.1.2.1,()),((),(),(),(),(),()))else (g231 m a 0 false h).bind λy80=>bif y80.1 then (g186 m 1).bind λy81=>(g228 m y1.1.1 y1.1.2.1 y81.1.1 y81.1.2.1).bind λy82=>some ((y82.1.1,y82.1.2.1,()),((),(),(),(),(),()))else some ((y1.1.1,y1.1.2.1,()),((),(),(),(),(),()))else (g184 m y1.1.1 y1.1.2.1).bind λy83=>bif y83.1 !=0 then (g124 m y1.1.1 y1.1.2.1).bind λy84=>(g231 m a (-1) (y84.1==0) h).bind λy85=>bif y85.1 then (g186 m 1).bind λy86=>(g228 m y1.1.1 y1.1.2.1 y86.1.1 y86.1.2.1).bind λy87=>some ((y87.1.1,y87.1.2.1,()),((),(),(),(),(),()))else some ((y1.1.1,y1.1.2.1,()),((),(),(),(),(),()))else (g231 m a (-1) false h).bind λy88=>bif y88.1 then (g186 m 1).bind λy89=>(g228 m y1.1.1 y1.1.2.1 y89.1.1 y89.1.2.1).bind λy90=>some ((y90.1.1,y90.1.2.1,()),((),(),(),(),(),()))else some ((y1.1.1,y1.1.2.1,()),((),(),(),(),(),()))else (g184 m y1.1.1 y1.1.2.1).bind λy91=>bif y91.1 !=0 then (g124 m y1.1.1 y1.1.2.1).bind λy92=>(g231 m a (-1) (y92.1==0) h).bind λy93=>bif y93.1 then (g186 m 1).bind λy94=>(g228 m y1.1.1 y1.1.2.1 y94.1.1 y94.1.2.1).bind λy95=>some ((y95.1.1,y95.1.2.1,()),((),(),(),(),(),()))else some ((y1.1.1,y1.1.2.1,()),((),(),(),(),(),()))else (g231 m a (-1) false h).bind λy96=>bif y96.1 then (g186 m 1).bind λy97=>(g228 m y1.1.1 y1.1.2.1 y97.1.1 y97.1.2.1).bind λy98=>some ((y98.1.1,y98.1.2.1,()),((),(),(),(),(),()))else some ((y1.1.1,y1.1.2.1,()),((),(),(),(),(),()))else (g184 m y1.1.1 y1.1.2.1).bind λy99=>bif y99.1 !=0 then (g124 m y1.1.1 y1.1.2.1).bind λy100=>(g231 m a (-1) (y100.1==0) h).bind λy101=>bif y101.1 then (g186 m 1).bind λy102=>(g228 m y1.1.1 y1.1.2.1 y102.1.1 y102.1.2.1).bind λy103=>some ((y103.1.1,y103.1.2.1,()),((),(),(),(),(),()))else some ((y1.1.1,y1.1.2.1,()),((),(),(),(),(),()))else (g231 m a (-1) false h).bind λy104=>bif y104.1 then (g186 m 1).bind λy105=>(g228 m y1.1.1 y1.1.2.1 y105.1.1 y105.1.2.1).bind λy106=>some ((y106.1.1,y106.1.2.1,()),((),(),(),(),(),()))else some ((y1.1.1,y1.1.2.1,()),((),(),(),(),(),()))
def g210L0 (m:Nat):Nat->Bool->LI->Int->Int->Option tO1
 |0,_,_,_,_=>none
 |n+1,a,b,c,d=>bif decide (d<(b.length:Int))then if 0<=d/\d<(b.length:Int)then if 0<=(wI (32*d))then g210L0 m n a b (b_or_ .u64 c (shl_ .u64 (wJ (b.getD d.toNat 0)) (wI (32*d)))) (wI (d+1))else none else none else some (.inl ((a,b,()),c,()))
def g210 (m:Nat) (a:Bool) (b:LI):Option te1:=(g123 m a b).bind λy1=>bif decide ((y1.1.2.1.length:Int)>2)then some ((0,false,()),((),()))else (g210L0 m m y1.1.1 y1.1.2.1 0 0).bind λy2=>match y2 with
  | .inl z3=>bif z3.1.1 then bif decide (z3.2.1>9223372036854775808)then some ((0,false,()),((),()))else some ((wI ((wI (0-(wI (wJ (z3.2.1-1)))))-1),true,()),((),()))else bif decide (z3.2.1>9223372036854775807)then some ((0,false,()),((),()))else some ((wI z3.2.1,true,()),((),()))
  | .inr e=>e.elim
def g185 (m:Nat) (a:Bool) (b:Bool) (c:LI) (d:Int) (f:Bool) (h:Int):Option (Int×Unit×Unit×Unit×Unit×Unit×Unit):=(g127 m b c).bind λy1=>bif decide ((wI ((wI (d+y1.1))-1))>=1024)then (g208 m a h).bind λy2=>some (y2.1,((),(),(),(),(),()))else bif decide ((if(-1074)>(wI ((wI ((wI (d+y1.1))-1))-52))then(-1074)else(wI ((wI ((wI (d+y1.1))-1))-52)))>=d)then (g209 m a b c (wI ((if(-1074)>(wI ((wI ((wI (d+y1.1))-1))-52))then(-1074)else(wI ((wI ((wI (d+y1.1))-1))-52)))-d)) f h).bind λy3=>(g210 m y3.1.1 y3.1.2.1).bind λy4=>bif y4.1.1==9007199254740992 then bif decide ((wI ((wI ((if(-1074)>(wI ((wI ((wI (d+y1.1))-1))-52))then(-1074)else(wI ((wI ((wI (d+y1.1))-1))-52)))+1))+53))>1024)then (g208 m a h).bind λy5=>some (y5.1,((),(),(),(),(),()))else (g211 m a (b_or_ .u64 (shl_ .u64 (wJ (wI ((wI ((if(-1074)>(wI ((wI ((wI (d+y1.1))-1))-52))then(-1074)else(wI ((wI ((wI (d+y1.1))-1))-52)))+1))+1075))) 52) 0)).bind λy6=>some (y6.1,((),(),(),(),(),()))else bif decide (y4.1.1>=4503599627370496)then bif decide ((wI ((if(-1074)>(wI ((wI ((wI (d+y1.1))-1))-52))then(-1074)else(wI ((wI ((wI (d+y1.1))-1))-52)))+53))>1024)then (g208 m a h).bind λy7=>some (y7.1,((),(),(),(),(),()))else bif decide (y4.1.1>=4503599627370496)then (g211 m a (b_or_ .u64 (shl_ .u64 (wJ (wI ((if(-1074)>(wI ((wI ((wI (d+y1.1))-1))-52))then(-1074)else(wI ((wI ((wI (d+y1.1))-1))-52)))+1075))) 52) (wJ (wI (y4.1.1-4503599627370496))))).bind λy8=>some (y8.1,((),(),(),(),(),()))else (g211 m a (wJ y4.1.1)).bind λy9=>some (y9.1,((),(),(),(),(),()))else bif decide (y4.1.1>=4503599627370496)then (g211 m a (b_or_ .u64 (shl_ .u64 (wJ (wI ((if(-1074)>(wI ((wI ((wI (d+y1.1))-1))-52))then(-1074)else(wI ((wI ((wI (d+y1.1))-1))-52)))+1075))) 52) (wJ (wI (y4.1.1-4503599627370496))))).bind λy10=>some (y10.1,((),(),(),(),(),()))else (g211 m a (wJ y4.1.1)).bind λy11=>some (y11.1,((),(),(),(),(),()))else (g181 m b c (wI (d-(if(-1074)>(wI ((wI ((wI (d+y1.1))-1))-52))then(-1074)else(wI ((wI ((wI (d+y1.1))-1))-52)))))).bind λy12=>(g210 m y12.1.1 y12.1.2.1).bind λy13=>bif y13.1.1==9007199254740992 then bif decide ((wI ((wI ((if(-1074)>(wI ((wI ((wI (d+y1.1))-1))-52))then(-1074)else(wI ((wI ((wI (d+y1.1))-1))-52)))+1))+53))>1024)then (g208 m a h).bind λy14=>some (y14.1,((),(),(),(),(),()))else (g211 m a (b_or_ .u64 (shl_ .u64 (wJ (wI ((wI ((if(-1074)>(wI ((wI ((wI (d+y1.1))-1))-52))then(-1074)else(wI ((wI ((wI (d+y1.1))-1))-52)))+1))+1075))) 52) 0)).bind λy15=>some (y15.1,((),(),(),(),(),()))else bif decide (y13.1.1>=4503599627370496)then bif decide ((wI ((if(-1074)>(wI ((wI ((wI (d+y1.1))-1))-52))then(-1074)else(wI ((wI ((wI (d+y1.1))-1))-52)))+53))>1024)then (g208 m a h).bind λy16=>some (y16.1,((),(),(),(),(),()))else bif decide (y13.1.1>=4503599627370496)then (g211 m a (b_or_ .u64 (shl_ .u64 (wJ (wI ((if(-1074)>(wI ((wI ((wI (d+y1.1))-1))-52))then(-1074)else(wI ((wI ((wI (d+y1.1))-1))-52)))+1075))) 52) (wJ (wI (y13.1.1-4503599627370496))))).bind λy17=>some (y17.1,((),(),(),(),(),()))else (g211 m a (wJ y13.1.1)).bind λy18=>some (y18.1,((),(),(),(),(),()))else bif decide (y13.1.1>=4503599627370496)then (g211 m a (b_or_ .u64 (shl_ .u64 (wJ (wI ((if(-1074)>(wI ((wI ((wI (d+y1.1))-1))-52))then(-1074)else(wI ((wI ((wI (d+y1.1))-1))-52)))+1075))) 52) (wJ (wI (y13.1.1-4503599627370496))))).bind λy19=>some (y19.1,((),(),(),(),(),()))else (g211 m a (wJ y13.1.1)).bind λy20=>some (y20.1,((),(),(),(),(),()))
def g128 (m:Nat) (a:Bool) (b:Bool) (c:LI) (d:Int) (f:Int):Option tw1:=(g183 m a b c d).bind λy1=>bif y1.1.1 then some (9221120237041090560,((),(),()))else (g184 m y1.1.2.1 y1.1.2.2.1).bind λy2=>bif y2.1==0 then some (0,((),(),()))else (g125 m y1.1.2.1 y1.1.2.2.1).bind λy3=>(g185 m y1.1.2.1 y3.1.1 y3.1.2.1 y1.1.2.2.2.1 false f).bind λy4=>some (y4.1,((),(),()))
def g79 (m:Nat) (a:Int) (b:Int):Option tw1:=(g129 m a).bind λy1=>(g128 m y1.1.1 y1.1.2.1 y1.1.2.2.1 y1.1.2.2.2.1 b).bind λy2=>some (y2.1,((),(),()))
def g43 (m:Nat) (a:Int):Option tB2:=(g79 m (wI ((wI (Int.tmod a 19))-9)) 0).bind λy1=>some (y1.1,((),()))
def g20 (m:Nat) (a:Int) (b:Int):Option tw1:=(g4 m b 4).bind λy1=>bif y1.1==1 then some (b_or_ .u64 (qo .u64 a 9227875636482146303) (shl_ .u64 (wJ (1019+(qo .u64 (shr_ .u64 a 52) 7))) 52),((),(),()))else bif y1.1==2 then some (b_or_ .u64 (qo .u64 a 9225623836668461056) (shl_ .u64 (wJ (983+(Int.tmod (shr_ .u64 a 8) 81))) 52),((),(),()))else bif y1.1==3 then (g42 m a).bind λy2=>bif !y2.1 then some (0,((),(),()))else some (a,((),(),()))else (g43 m a).bind λy3=>some (y3.1,((),(),()))
def g6L1 (m:Nat):Nat->LI->Int->Int->Int->Int->Int->LI->LI->LI->Int->Int->LI->LI->LI->Int->Int->Option ((LI×Int×Int×Int×to1×to1×Int×Unit)⊕Empty)
 |0,_,_,_,_,_,_,_,_,_,_,_,_,_,_,_,_=>none
 |n+1,a,b,c,d,f,h,i,j,k,l,o,p,q,r,s,t=>bif decide (t<b)then (g19 m a (wI ((wI (100+(wI (s*b))))+t))).bind λy1=>bif decide ((Int.tmod (shr_ .u64 y1.1 40) 3)>0)then if q.length+([t]:LI).length<=1073741824 then (g20 m y1.1 d).bind λy2=>if r.length+([y2.1]:LI).length<=1073741824 then g6L1 m n a b c d f h i j k l o p (q++([t]:LI)) (r++([y2.1]:LI)) s (wI (t+1))else none else none else g6L1 m n a b c d f h i j k l o p q r s (wI (t+1))else some (.inl (a,b,c,d,(f,h,i,j,k,()),(l,o,p,q,r,()),s,()))
def g6L0 (m:Nat):Nat->LI->Int->Int->Int->Int->Int->LI->LI->LI->Int->Int->LI->LI->LI->Int->Option tY
 |0,_,_,_,_,_,_,_,_,_,_,_,_,_,_,_=>none
 |n+1,a,b,c,d,f,h,i,j,k,l,o,p,q,r,s=>bif decide (s<c)then (g6L1 m m a b c d f h i j k l o p q r s 0).bind λy1=>match y1 with
   | .inl z2=>if z2.2.2.2.2.2.1.2.2.1.length+([(z2.2.2.2.2.2.1.2.2.2.1.length:Int)]:LI).length<=1073741824 then g6L0 m n z2.1 z2.2.1 z2.2.2.1 z2.2.2.2.1 z2.2.2.2.2.1.1 z2.2.2.2.2.1.2.1 z2.2.2.2.2.1.2.2.1 z2.2.2.2.2.1.2.2.2.1 z2.2.2.2.2.1.2.2.2.2.1 z2.2.2.2.2.2.1.1 z2.2.2.2.2.2.1.2.1 (z2.2.2.2.2.2.1.2.2.1++([(z2.2.2.2.2.2.1.2.2.2.1.length:Int)]:LI)) z2.2.2.2.2.2.1.2.2.2.1 z2.2.2.2.2.2.1.2.2.2.2.1 (wI (z2.2.2.2.2.2.2.1+1))else none
   | .inr e=>e.elim else some (.inl ((f,h,i,j,k,()),(l,o,p,q,r,()),()))
def g6 (m:Nat) (a:LI) (b:Int) (c:Int) (d:Int):Option (to1×Unit×Unit×Unit×Unit×Unit):=(g6L0 m m a b c d 0 0 ([]:LI) ([]:LI) ([]:LI) b c ([0]:LI) ([]:LI) ([]:LI) 0).bind λy1=>match y1 with
 | .inl z2=>some ((z2.2.1.1,z2.2.1.2.1,z2.2.1.2.2.1,z2.2.1.2.2.2.1,z2.2.1.2.2.2.2.1,()),((),(),(),(),()))
 | .inr e=>e.elim
def g78L0 (m:Nat):Nat->LI->Int->Option tj1
 |0,_,_=>none
 |n+1,a,b=>bif decide (b<(a.length:Int))then if 0<=b/\b<(a.length:Int)then (g42 m (a.getD b.toNat 0)).bind λy1=>bif !y1.1 then some (.inl (false,()))else g78L0 m n a (wI (b+1))else none else some (.inr (.inl ()))
def g78 (m:Nat) (a:LI):Option t81:=(g78L0 m m a 0).bind λy1=>match y1 with
 | .inl z2=>some (z2.1,((),()))
 | .inr (.inl z3)=>some (true,((),()))
 | .inr (.inr e)=>e.elim
def g41L2 (m:Nat):Nat->Int->Int->LI->LI->LI->Int->Int->Option (tJ2⊕(to1×Int×Unit)⊕Empty)
 |0,_,_,_,_,_,_,_=>none
 |n+1,a,b,c,d,f,h,i=>if 0<=(wI (h+1))/\(wI (h+1))<(c.length:Int)then bif decide (i<(c.getD (wI (h+1)).toNat 0))then if 0<=i/\i<(d.length:Int)then bif decide ((d.getD i.toNat 0)<0)then some (.inl (1,()))else if 0<=i/\i<(d.length:Int)then bif decide ((d.getD i.toNat 0)>=a)then some (.inl (1,()))else if 0<=h/\h<(c.length:Int)then bif decide (i>(c.getD h.toNat 0))then if 0<=i/\i<(d.length:Int)then if 0<=(wI (i-1))/\(wI (i-1))<(d.length:Int)then bif decide ((d.getD i.toNat 0)<=(d.getD (wI (i-1)).toNat 0))then some (.inl (1,()))else g41L2 m n a b c d f h (wI (i+1))else none else none else g41L2 m n a b c d f h (wI (i+1))else none else none else none else some (.inr (.inl ((a,b,c,d,f,()),h,())))else none
def g41L1 (m:Nat):Nat->Int->Int->LI->LI->LI->Int->Option tu
 |0,_,_,_,_,_,_=>none
 |n+1,a,b,c,d,f,h=>bif decide (h<b)then if 0<=h/\h<(c.length:Int)then (g41L2 m m a b c d f h (c.getD h.toNat 0)).bind λy1=>match y1 with
   | .inl z2=>some (.inl (z2.1,()))
   | .inr (.inl z3)=>g41L1 m n z3.1.1 z3.1.2.1 z3.1.2.2.1 z3.1.2.2.2.1 z3.1.2.2.2.2.1 (wI (z3.2.1+1))
   | .inr (.inr e)=>e.elim else none else some (.inr (.inl ((a,b,c,d,f,()),())))
def g41L0 (m:Nat):Nat->Int->Int->LI->LI->LI->Int->Option tu
 |0,_,_,_,_,_,_=>none
 |n+1,a,b,c,d,f,h=>bif decide (h<b)then if 0<=h/\h<(c.length:Int)then if 0<=(wI (h+1))/\(wI (h+1))<(c.length:Int)then bif decide ((c.getD h.toNat 0)>(c.getD (wI (h+1)).toNat 0))then some (.inl (1,()))else g41L0 m n a b c d f (wI (h+1))else none else none else some (.inr (.inl ((a,b,c,d,f,()),())))
def g41 (m:Nat) (a:Int) (b:Int) (c:LI) (d:LI) (f:LI):Option tB2:=bif decide (a<0)then some (6,((),()))else bif decide (a>200)then some (6,((),()))else bif decide (b<0)then some (6,((),()))else bif decide (b>200)then some (6,((),()))else bif decide ((d.length:Int)>10000)then some (6,((),()))else bif (f.length:Int) !=(d.length:Int)then some (1,((),()))else bif (c.length:Int) !=(wI (b+1))then some (1,((),()))else if(0:Int)<=0/\0<(c.length:Int)then bif (c.getD 0 0) !=0 then some (1,((),()))else if 0<=b/\b<(c.length:Int)then bif (c.getD b.toNat 0) !=(d.length:Int)then some (1,((),()))else (g41L0 m m a b c d f 0).bind λy1=>match y1 with
          | .inl z2=>some (z2.1,((),()))
          | .inr (.inl z3)=>(g41L1 m m z3.1.1 z3.1.2.1 z3.1.2.2.1 z3.1.2.2.2.1 z3.1.2.2.2.2.1 0).bind λy4=>match y4 with
           | .inl z5=>some (z5.1,((),()))
           | .inr (.inl z6)=>(g78 m z6.1.2.2.2.2.1).bind λy7=>bif !y7.1 then some (4,((),()))else some (0,((),()))
           | .inr (.inr e)=>e.elim
          | .inr (.inr e)=>e.elim else none else none
def g17L1 (m:Nat):Nat->Int->Int->LI->LI->LI->tu1->Int->Int->Option ((to1×tu1×Int×Unit)⊕Empty)
 |0,_,_,_,_,_,_,_,_=>none
 |n+1,a,b,c,d,f,h,i,j=>if 0<=(wI (i+1))/\(wI (i+1))<(c.length:Int)then bif decide (j<(c.getD (wI (i+1)).toNat 0))then if 0<=j/\j<(d.length:Int)then if 0<=j/\j<(f.length:Int)then if h.length+([(d.getD j.toNat 0,(i,f.getD j.toNat 0))]:List tG2).length<=1073741824 then g17L1 m n a b c d f (h++([(d.getD j.toNat 0,(i,f.getD j.toNat 0))]:List tG2)) i (wI (j+1))else none else none else none else some (.inl ((a,b,c,d,f,()),h,i,()))else none
def g17L0 (m:Nat):Nat->Int->Int->LI->LI->LI->tu1->Int->Option ((tu1×Unit)⊕Empty)
 |0,_,_,_,_,_,_,_=>none
 |n+1,a,b,c,d,f,h,i=>bif decide (i<b)then if 0<=i/\i<(c.length:Int)then (g17L1 m m a b c d f h i (c.getD i.toNat 0)).bind λy1=>match y1 with
   | .inl z2=>g17L0 m n z2.1.1 z2.1.2.1 z2.1.2.2.1 z2.1.2.2.2.1 z2.1.2.2.2.2.1 z2.2.1 (wI (z2.2.2.1+1))
   | .inr e=>e.elim else none else some (.inl (h,()))
def g17 (m:Nat) (a:Int) (b:Int) (c:LI) (d:LI) (f:LI):Option (tu1×Unit×Unit):=(g41 m a b c d f).bind λy1=>bif y1.1 !=0 then some (([]:List tG2),((),()))else (g17L0 m m a b c d f ([]:List tG2) 0).bind λy2=>match y2 with
  | .inl z3=>some (z3.1,((),()))
  | .inr e=>e.elim
def g18L2 (m:Nat):Nat->Int->Int->tu1->Int->Int->LI->LI->LI->Int->Int->LI->LI->LI->LI->Int->Int->Option ((Int×Int×tu1×to1×to1×LI×Int×Unit)⊕Empty)
 |0,_,_,_,_,_,_,_,_,_,_,_,_,_,_,_,_=>none
 |n+1,a,b,c,d,f,h,i,j,k,l,o,p,q,r,s,t=>bif decide (t<a)then if 0<=(wI ((wI (s*a))+t))/\(wI ((wI (s*a))+t))<(r.length:Int)then bif decide ((r.getD (0+(wI ((wI (s*a))+t)).toNat) 0)>0)then if p.length+([t]:LI).length<=1073741824 then if 0<=(wI ((r.getD (0+(wI ((wI (s*a))+t)).toNat) 0)-1))/\(wI ((r.getD (0+(wI ((wI (s*a))+t)).toNat) 0)-1))<(c.length:Int)then if q.length+([(c.getD (wI ((r.getD (0+(wI ((wI (s*a))+t)).toNat) 0)-1)).toNat (0,(0,0))).2.2]:LI).length<=1073741824 then g18L2 m n a b c d f h i j k l o (p++([t]:LI)) (q++([(c.getD (wI ((r.getD (0+(wI ((wI (s*a))+t)).toNat) 0)-1)).toNat (0,(0,0))).2.2]:LI)) r s (wI (t+1))else none else none else none else g18L2 m n a b c d f h i j k l o p q r s (wI (t+1))else none else some (.inl (a,b,c,(d,f,h,i,j,()),(k,l,o,p,q,()),r,s,()))
def g18L1 (m:Nat):Nat->Int->Int->tu1->Int->Int->LI->LI->LI->Int->Int->LI->LI->LI->LI->Int->Option tY
 |0,_,_,_,_,_,_,_,_,_,_,_,_,_,_,_=>none
 |n+1,a,b,c,d,f,h,i,j,k,l,o,p,q,r,s=>bif decide (s<b)then (g18L2 m m a b c d f h i j k l o p q r s 0).bind λy1=>match y1 with
   | .inl z2=>if z2.2.2.2.2.1.2.2.1.length+([(z2.2.2.2.2.1.2.2.2.1.length:Int)]:LI).length<=1073741824 then g18L1 m n z2.1 z2.2.1 z2.2.2.1 z2.2.2.2.1.1 z2.2.2.2.1.2.1 z2.2.2.2.1.2.2.1 z2.2.2.2.1.2.2.2.1 z2.2.2.2.1.2.2.2.2.1 z2.2.2.2.2.1.1 z2.2.2.2.2.1.2.1 (z2.2.2.2.2.1.2.2.1++([(z2.2.2.2.2.1.2.2.2.1.length:Int)]:LI)) z2.2.2.2.2.1.2.2.2.1 z2.2.2.2.2.1.2.2.2.2.1 z2.2.2.2.2.2.1 (wI (z2.2.2.2.2.2.2.1+1))else none
   | .inr e=>e.elim else some (.inl ((d,f,h,i,j,()),(k,l,o,p,q,()),()))
def g18L0 (m:Nat):Nat->Int->Int->tu1->Int->Int->LI->LI->LI->Int->Int->LI->LI->LI->LI->Int->Option ((Int×Int×tu1×to1×to1×LI×Unit)⊕Empty)
 |0,_,_,_,_,_,_,_,_,_,_,_,_,_,_,_=>none
 |n+1,a,b,c,d,f,h,i,j,k,l,o,p,q,r,s=>bif decide (s<(c.length:Int))then if 0<=s/\s<(c.length:Int)then if 0<=s/\s<(c.length:Int)then if 0<=(wI ((wI ((c.getD s.toNat (0,(0,0))).2.1*a))+(c.getD s.toNat (0,(0,0))).1))/\(wI ((wI ((c.getD s.toNat (0,(0,0))).2.1*a))+(c.getD s.toNat (0,(0,0))).1))<(r.length:Int)then g18L0 m n a b c d f h i j k l o p q (r.set (0+(wI ((wI ((c.getD s.toNat (0,(0,0))).2.1*a))+(c.getD s.toNat (0,(0,0))).1)).toNat) (wI (s+1))) (wI (s+1))else none else none else none else some (.inl (a,b,c,(d,f,h,i,j,()),(k,l,o,p,q,()),r,()))
def g18 (m:Nat) (a:Int) (b:Int) (c:List tG2):Option (to1×Unit×Unit×Unit×Unit):=if 0<=(wI (a*b))/\(wI (a*b))<=(wI (a*b))/\(wI (a*b))<=1073741824 then (g18L0 m m a b c 0 0 ([]:LI) ([]:LI) ([]:LI) a b ([0]:LI) ([]:LI) ([]:LI) (List.replicate (wI (a*b)).toNat (0:Int)) 0).bind λy1=>match y1 with
 | .inl z2=>(g18L1 m m z2.1 z2.2.1 z2.2.2.1 z2.2.2.2.1.1 z2.2.2.2.1.2.1 z2.2.2.2.1.2.2.1 z2.2.2.2.1.2.2.2.1 z2.2.2.2.1.2.2.2.2.1 z2.2.2.2.2.1.1 z2.2.2.2.2.1.2.1 z2.2.2.2.2.1.2.2.1 z2.2.2.2.2.1.2.2.2.1 z2.2.2.2.2.1.2.2.2.2.1 z2.2.2.2.2.2.1 0).bind λy3=>match y3 with
  | .inl z4=>some ((z4.2.1.1,z4.2.1.2.1,z4.2.1.2.2.1,z4.2.1.2.2.2.1,z4.2.1.2.2.2.2.1,()),((),(),(),()))
  | .inr e=>e.elim
 | .inr e=>e.elim else none
def g5L0 (m:Nat):Nat->Int->Int->LI->LI->LI->Int->Int->LI->LI->LI->tu1->tu1->Int->Option ((to1×to1×tu1×Unit)⊕Empty)
 |0,_,_,_,_,_,_,_,_,_,_,_,_,_=>none
 |n+1,a,b,c,d,f,h,i,j,k,l,o,p,q=>bif decide (q<(p.length:Int))then if 0<=q/\q<(p.length:Int)then bif decide ((p.getD (0+q.toNat) (0,(0,0))).1<(p.getD (0+q.toNat) (0,(0,0))).2.1)then g5L0 m n a b c d f h i j k l o p (wI (q+1))else if o.length+([((p.getD (0+q.toNat) (0,(0,0))).1,((p.getD (0+q.toNat) (0,(0,0))).2.1,(p.getD (0+q.toNat) (0,(0,0))).2.2))]:List tG2).length<=1073741824 then bif decide ((p.getD (0+q.toNat) (0,(0,0))).1>(p.getD (0+q.toNat) (0,(0,0))).2.1)then if(o++([((p.getD (0+q.toNat) (0,(0,0))).1,((p.getD (0+q.toNat) (0,(0,0))).2.1,(p.getD (0+q.toNat) (0,(0,0))).2.2))]:List tG2)).length+([((p.getD (0+q.toNat) (0,(0,0))).2.1,((p.getD (0+q.toNat) (0,(0,0))).1,(p.getD (0+q.toNat) (0,(0,0))).2.2))]:List tG2).length<=1073741824 then g5L0 m n a b c d f h i j k l ((o++([((p.getD (0+q.toNat) (0,(0,0))).1,((p.getD (0+q.toNat) (0,(0,0))).2.1,(p.getD (0+q.toNat) (0,(0,0))).2.2))]:List tG2))++([((p.getD (0+q.toNat) (0,(0,0))).2.1,((p.getD (0+q.toNat) (0,(0,0))).1,(p.getD (0+q.toNat) (0,(0,0))).2.2))]:List tG2)) p (wI (q+1))else none else g5L0 m n a b c d f h i j k l (o++([((p.getD (0+q.toNat) (0,(0,0))).1,((p.getD (0+q.toNat) (0,(0,0))).2.1,(p.getD (0+q.toNat) (0,(0,0))).2.2))]:List tG2)) p (wI (q+1))else none else none else some (.inl ((a,b,c,d,f,()),(h,i,j,k,l,()),o,()))
def g5 (m:Nat) (a:Int) (b:Int) (c:LI) (d:LI) (f:LI):Option (to1×Unit×Unit):=(g17 m a b c d f).bind λy1=>(g5L0 m m a b c d f 0 0 ([]:LI) ([]:LI) ([]:LI) ([]:List tG2) y1.1 0).bind λy2=>match y2 with
 | .inl z3=>(g18 m z3.1.1 z3.1.1 z3.2.2.1).bind λy4=>some ((y4.1.1,y4.1.2.1,y4.1.2.2.1,y4.1.2.2.2.1,y4.1.2.2.2.2.1,()),((),()))
 | .inr e=>e.elim
def g44 (m:Nat) (a:Int):Option (tE2×Unit×Unit):=some ((wI (qo .u64 (shr_ .u64 a 52) 2047),qo .u64 a 4503599627370495,()),((),()))
def g21 (m:Nat) (a:Int):Option t81:=(g44 m a).bind λy1=>some (y1.1.1 !=2047,((),()))
def g22 (m:Nat):Option (tE2×Unit):=some ((18442240474082181120,9218868437227405312,()),())
def g45 (m:Nat) (a:Int):Option tB2:=bif a==9223372036854775808 then some (0,((),()))else some (a,((),()))
def g23 (m:Nat) (a:Int) (b:Int):Option tQ1:=(g45 m a).bind λy1=>(g45 m b).bind λy2=>some ((y1.1,y2.1,()),((),(),()))
def g7 (m:Nat) (a:Int):Option (tE2×Unit×Unit):=(g21 m a).bind λy1=>bif !y1.1 then (g22 m).bind λy2=>some ((y2.1.1,y2.1.2.1,()),((),()))else (g23 m a a).bind λy3=>some ((y3.1.1,y3.1.2.1,()),((),()))
def g28 (m:Nat) (a:Int) (b:Int) (c:Int):Option tg1:=bif decide (a>=b)then some (decide (a<=c),((),(),(),()))else some (false,((),(),(),()))
def g146 (m:Nat) (a:Int):Option t81:=some (a !=a,((),()))
def g97 (m:Nat) (a:Int) (b:Int):Option ts1:=(g146 m a).bind λy1=>bif y1.1 then (g146 m b).bind λy2=>bif !y2.1 then some (true,((),(),()))else some (decide (a<b),((),(),()))else some (decide (a<b),((),(),()))
def g95L0 (m:Nat):Nat->LI->Int->Option tj1
 |0,_,_=>none
 |n+1,a,b=>bif decide (b>0)then if 0<=b/\b<(a.length:Int)then if 0<=(wI (b-1))/\(wI (b-1))<(a.length:Int)then (g97 m (a.getD b.toNat 0) (a.getD (wI (b-1)).toNat 0)).bind λy1=>bif y1.1 then some (.inl (false,()))else g95L0 m n a (wI (b-1))else none else none else some (.inr (.inl ()))
def g95 (m:Nat) (a:LI):Option t81:=(g95L0 m m a (wI ((a.length:Int)-1))).bind λy1=>match y1 with
 | .inl z2=>some (z2.1,((),()))
 | .inr (.inl z3)=>some (true,((),()))
 | .inr (.inr e)=>e.elim
def g56L1 (m:Nat):Nat->Int->Int->LI->LI->LI->Int->Int->Int->LI->Int->Int->Option (tI2⊕(to1×Int×Int×Unit)⊕Empty)
 |0,_,_,_,_,_,_,_,_,_,_,_=>none
 |n+1,a,b,c,d,f,h,i,j,k,l,o=>bif decide (o<l)then if 0<=o/\o<(k.length:Int)then bif decide ((k.getD o.toNat 0)<=h)then some (.inl (false,()))else bif decide ((k.getD o.toNat 0)>=a)then some (.inl (false,()))else g56L1 m n a b c d f (k.getD o.toNat 0) i j k l (wI (o+1))else none else some (.inr (.inl ((a,b,c,d,f,()),i,j,())))
def g56L0 (m:Nat):Nat->Int->Int->LI->LI->LI->Int->Int->Option tj1
 |0,_,_,_,_,_,_,_=>none
 |n+1,a,b,c,d,f,h,i=>bif decide (i<h)then if 0<=i/\i<(c.length:Int)then if 0<=(wI (i+1))/\(wI (i+1))<(c.length:Int)then if 0<=(c.getD i.toNat 0)/\(c.getD i.toNat 0)<=(c.getD (wI (i+1)).toNat 0)/\(c.getD (wI (i+1)).toNat 0)<=(d.length:Int)then (g56L1 m m a b c d f (-1) h i ((d.drop (c.getD i.toNat 0).toNat).take ((c.getD (wI (i+1)).toNat 0).toNat-(c.getD i.toNat 0).toNat)) (((d.drop (c.getD i.toNat 0).toNat).take ((c.getD (wI (i+1)).toNat 0).toNat-(c.getD i.toNat 0).toNat)).length:Int) 0).bind λy1=>match y1 with
   | .inl z2=>some (.inl (z2.1,()))
   | .inr (.inl z3)=>g56L0 m n z3.1.1 z3.1.2.1 z3.1.2.2.1 z3.1.2.2.2.1 z3.1.2.2.2.2.1 z3.2.1 (wI (z3.2.2.1+1))
   | .inr (.inr e)=>e.elim else none else none else none else some (.inr (.inl ()))
def g56 (m:Nat) (a:Int) (b:Int) (c:LI) (d:LI) (f:LI):Option t81:=bif (c.length:Int) !=(wI (b+1))then some (false,((),()))else if(0:Int)<=0/\0<(c.length:Int)then bif (c.getD 0 0) !=0 then some (false,((),()))else (g95 m c).bind λy1=>bif !y1.1 then some (false,((),()))else if 0<=b/\b<(c.length:Int)then bif (c.getD b.toNat 0) !=(d.length:Int)then some (false,((),()))else bif (d.length:Int) !=(f.length:Int)then some (false,((),()))else (g56L0 m m a b c d f b 0).bind λy2=>match y2 with
      | .inl z3=>some (z3.1,((),()))
      | .inr (.inl z4)=>some (true,((),()))
      | .inr (.inr e)=>e.elim else none else none
def g58 (m:Nat) (a:Int):Option t81:=(g21 m a).bind λy1=>some (!y1.1,((),()))
def g96L0 (m:Nat):Nat->LI->Int->Int->Option tn1
 |0,_,_,_=>none
 |n+1,a,b,c=>bif decide (c<b)then if 0<=c/\c<(a.length:Int)then (g58 m (a.getD c.toNat 0)).bind λy1=>bif y1.1 then some (.inl (c,()))else g96L0 m n a b (wI (c+1))else none else some (.inr (.inl ()))
def g96 (m:Nat) (a:LI):Option tw1:=(g96L0 m m a (a.length:Int) 0).bind λy1=>match y1 with
 | .inl z2=>some (z2.1,((),(),()))
 | .inr (.inl z3)=>some ((-1),((),(),()))
 | .inr (.inr e)=>e.elim
def g57 (m:Nat) (a:LI):Option ts1:=(g96 m a).bind λy1=>some (decide (y1.1>=0),((),(),()))
def g27 (m:Nat) (a:Int) (b:Int) (c:LI) (d:LI) (f:LI):Option tB2:=(g28 m a 0 200).bind λy1=>bif !y1.1 then some (6,((),()))else (g28 m b 0 200).bind λy2=>bif !y2.1 then some (6,((),()))else bif decide ((d.length:Int)>10000)then some (6,((),()))else (g56 m a b c d f).bind λy3=>bif !y3.1 then some (1,((),()))else (g57 m f).bind λy4=>bif y4.1 then some (4,((),()))else some (0,((),()))
def g98 (m:Nat) (a:Int):Option t81:=some (a !=a,((),()))
def g59L0 (m:Nat):Nat->LI->Int->Int->Int->Int->Option tb1
 |0,_,_,_,_,_=>none
 |n+1,a,b,c,d,f=>bif decide (d<f)then if 0<=(wI (shr_ .u64 (wJ (wI (d+f))) 1))/\(wI (shr_ .u64 (wJ (wI (d+f))) 1))<(a.length:Int)then (g97 m (a.getD (wI (shr_ .u64 (wJ (wI (d+f))) 1)).toNat 0) b).bind λy1=>bif y1.1 then g59L0 m n a b c (wI ((wI (shr_ .u64 (wJ (wI (d+f))) 1))+1)) f else g59L0 m n a b c d (wI (shr_ .u64 (wJ (wI (d+f))) 1))else none else some (.inl (a,b,c,d,()))
def g59 (m:Nat) (a:LI) (b:Int):Option tP1:=(g59L0 m m a b (a.length:Int) 0 (a.length:Int)).bind λy1=>match y1 with
 | .inl z2=>bif decide (z2.2.2.2.1<z2.2.2.1)then if 0<=z2.2.2.2.1/\z2.2.2.2.1<(z2.1.length:Int)then bif (z2.1.getD z2.2.2.2.1.toNat 0)==z2.2.1 then some ((z2.2.2.2.1,true,()),((),(),()))else if 0<=z2.2.2.2.1/\z2.2.2.2.1<(z2.1.length:Int)then (g98 m (z2.1.getD z2.2.2.2.1.toNat 0)).bind λy3=>bif y3.1 then (g98 m z2.2.1).bind λy4=>some ((z2.2.2.2.1,y4.1,()),((),(),()))else some ((z2.2.2.2.1,false,()),((),(),()))else none else none else some ((z2.2.2.2.1,false,()),((),(),()))
 | .inr e=>e.elim
def g29 (m:Nat) (a:Int) (b:Int) (c:LI) (d:LI) (f:LI) (h:Int) (i:Int):Option ((Int×Bool×Unit)×Unit×Unit×Unit×Unit):=if 0<=i/\i<(c.length:Int)then if 0<=(wI (i+1))/\(wI (i+1))<(c.length:Int)then if 0<=(c.getD i.toNat 0)/\(c.getD i.toNat 0)<=(c.getD (wI (i+1)).toNat 0)/\(c.getD (wI (i+1)).toNat 0)<=(d.length:Int)then (g59 m ((d.drop (c.getD i.toNat 0).toNat).take ((c.getD (wI (i+1)).toNat 0).toNat-(c.getD i.toNat 0).toNat)) h).bind λy1=>bif !y1.1.2.1 then some ((0,false,()),((),(),(),()))else if 0<=i/\i<(c.length:Int)then if 0<=(wI ((c.getD i.toNat 0)+y1.1.1))/\(wI ((c.getD i.toNat 0)+y1.1.1))<(f.length:Int)then some ((f.getD (wI ((c.getD i.toNat 0)+y1.1.1)).toNat 0,true,()),((),(),(),()))else none else none else none else none else none
def g10 (m:Nat) (a:Int) (b:Int) (c:LI) (d:LI) (f:LI) (h:Int) (i:Int):Option ti1:=(g27 m a b c d f).bind λy1=>bif y1.1 !=0 then some (0,((),(),(),()))else (g28 m h 0 (wI (a-1))).bind λy2=>bif !y2.1 then some (0,((),(),(),()))else (g28 m i 0 (wI (b-1))).bind λy3=>bif !y3.1 then some (0,((),(),(),()))else (g29 m a b c d f h i).bind λy4=>some (y4.1.1,((),(),(),()))
def g55 (m:Nat) (a:Int):Option tB2:=bif (qo .u64 (shr_ .u64 a 52) 2047)==2047 then bif (qo .u64 a 4503599627370495) !=0 then some (3,((),()))else bif (qo .u64 (shr_ .u64 a 52) 2047)==2047 then some (2,((),()))else bif (qo .u64 (shr_ .u64 a 52) 2047)==0 then bif (qo .u64 a 4503599627370495)==0 then some (0,((),()))else some (1,((),()))else some (1,((),()))else bif (qo .u64 (shr_ .u64 a 52) 2047)==2047 then some (2,((),()))else bif (qo .u64 (shr_ .u64 a 52) 2047)==0 then bif (qo .u64 a 4503599627370495)==0 then some (0,((),()))else some (1,((),()))else some (1,((),()))
def g26 (m:Nat) (a:Int):Option t81:=(g55 m a).bind λy1=>some (y1.1==3,((),()))
def g9 (m:Nat) (a:Int):Option tB2:=(g26 m a).bind λy1=>bif y1.1 then some (9221120237041090560,((),()))else some (Zo .u64 a 9223372036854775808,((),()))
def g63 (m:Nat) (a:Int):Option tB2:=(g44 m a).bind λy1=>bif y1.1.1==2047 then bif y1.1.2.1 !=0 then some (3,((),()))else bif y1.1.1==2047 then some (2,((),()))else bif y1.1.1==0 then bif y1.1.2.1==0 then some (0,((),()))else some (1,((),()))else some (1,((),()))else bif y1.1.1==2047 then some (2,((),()))else bif y1.1.1==0 then bif y1.1.2.1==0 then some (0,((),()))else some (1,((),()))else some (1,((),()))
def g47L0 (m:Nat):Nat->LI->Int->Int->Option tj1
 |0,_,_,_=>none
 |n+1,a,b,c=>bif decide (c<b)then if 0<=c/\c<(a.length:Int)then (g63 m (a.getD c.toNat 0)).bind λy1=>bif y1.1==3 then some (.inl (true,()))else g47L0 m n a b (wI (c+1))else none else some (.inr (.inl ()))
def g47 (m:Nat) (a:LI):Option t81:=(g47L0 m m a (a.length:Int) 0).bind λy1=>match y1 with
 | .inl z2=>some (z2.1,((),()))
 | .inr (.inl z3)=>some (false,((),()))
 | .inr (.inr e)=>e.elim
def g87 (m:Nat) (a:Int):Option t81:=some ((qo .u64 a 9223372036854775808) !=0,((),()))
def g130 (m:Nat) (a:Int):Option tB2:=(g87 m a).bind λy1=>bif y1.1 then some (wI (0-(wI (Zo .u64 a 9223372036854775808))),((),()))else some (wI (Zo .u64 a 9223372036854775808),((),()))
def g80 (m:Nat) (a:Int) (b:Int):Option tP1:=(g47 m ([a,b]:LI)).bind λy1=>bif y1.1 then some ((0,false,()),((),(),()))else (g130 m a).bind λy2=>(g130 m b).bind λy3=>bif decide (y2.1<y3.1)then some (((-1),true,()),((),(),()))else bif decide (y2.1>y3.1)then some ((1,true,()),((),(),()))else some ((0,true,()),((),(),()))
def g46 (m:Nat) (a:Int) (b:Int):Option t81:=(g80 m a b).bind λy1=>bif y1.1.2.1 then bif decide (y1.1.1<=0)then bif a !=9218868437227405312 then some (b !=18442240474082181120,((),()))else some (false,((),()))else some (false,((),()))else some (false,((),()))
def g24 (m:Nat) (a:Int) (b:Int) (c:Int) (d:Int):Option ts1:=(g46 m a b).bind λy1=>bif y1.1 then (g46 m c d).bind λy2=>some (y2.1,((),(),()))else some (false,((),(),()))
def g48 (m:Nat) (a:Int):Option t81:=(g63 m a).bind λy1=>some (y1.1==2,((),()))
def g49 (m:Nat) (a:Int):Option t81:=(g63 m a).bind λy1=>some (y1.1==0,((),()))
def g132L0 (m:Nat):Nat->LI->Int->Option tr1
 |0,_,_=>none
 |n+1,a,b=>bif decide (b>0)then if 0<=(wI (b-1))/\(wI (b-1))<(a.length:Int)then bif (a.getD (wI (b-1)).toNat 0)==0 then g132L0 m n a (wI (b-1))else some (.inl (a,b,()))else none else some (.inl (a,b,()))
def g132 (m:Nat) (a:LI):Option tD2:=(g132L0 m m a (a.length:Int)).bind λy1=>match y1 with
 | .inl z2=>if(0:Int)<=0/\0<=z2.2.1/\z2.2.1<=(z2.1.length:Int)then some (z2.1.take z2.2.1.toNat,((),()))else none
 | .inr e=>e.elim
def g133 (m:Nat) (a:Bool) (b:LI):Option tU1:=(g132 m b).bind λy1=>bif (y1.1.length:Int)==0 then some ((false,[],()),((),(),()))else some ((a,y1.1,()),((),(),()))
def g86 (m:Nat) (a:Int):Option th1:=bif decide (a<0)then (g133 m (decide (a<0)) ([wK (qo .u64 (wJ (0-(wJ a))) 4294967295),wK (shr_ .u64 (wJ (0-(wJ a))) 32)]:LI)).bind λy1=>some ((y1.1.1,y1.1.2.1,()),((),()))else (g133 m (decide (a<0)) ([wK (qo .u64 (wJ a) 4294967295),wK (shr_ .u64 (wJ a) 32)]:LI)).bind λy2=>some ((y2.1.1,y2.1.2.1,()),((),()))
def g137 (m:Nat) (a:LI):Option tD2:=if([]:LI).length+a.length<=1073741824 then some (a,((),()))else none
def g88 (m:Nat) (a:Bool) (b:LI):Option th1:=(g137 m b).bind λy1=>(g133 m (!a) y1.1).bind λy2=>some ((y2.1.1,y2.1.2.1,()),((),()))
def g82 (m:Nat):Option tZ1:=some ((true,false,[],0,()),())
def g105 (m:Nat) (a:Bool) (b:LI):Option th1:=(g137 m b).bind λy1=>(g133 m a y1.1).bind λy2=>some ((y2.1.1,y2.1.2.1,()),((),()))
def g90 (m:Nat) (a:Bool) (b:LI):Option tB2:=(g132 m b).bind λy1=>bif (y1.1.length:Int)==0 then some (0,((),()))else bif a then some ((-1),((),()))else some (1,((),()))
def g138L0 (m:Nat):Nat->LI->Int->Int->Option tn1
 |0,_,_,_=>none
 |n+1,a,b,c=>bif decide (c<b)then if 0<=c/\c<(a.length:Int)then bif (a.getD c.toNat 0) !=0 then (g180 m (a.getD c.toNat 0)).bind λy1=>some (.inl (wI ((wI (c*32))+y1.1),()))else g138L0 m n a b (wI (c+1))else none else some (.inr (.inl ()))
def g138 (m:Nat) (a:Bool) (b:LI):Option tB2:=(g138L0 m m b (b.length:Int) 0).bind λy1=>match y1 with
 | .inl z2=>some (z2.1,((),()))
 | .inr (.inl z3)=>some (0,((),()))
 | .inr (.inr e)=>e.elim
def g188 (m:Nat) (a:LI):Option tB2:=bif (a.length:Int)==0 then some (0,((),()))else if 0<=(wI ((a.length:Int)-1))/\(wI ((a.length:Int)-1))<(a.length:Int)then (g182 m (a.getD (wI ((a.length:Int)-1)).toNat 0)).bind λy1=>some (wI ((wI ((wI ((a.length:Int)-1))*32))+y1.1),((),()))else none
def g139 (m:Nat) (a:Bool) (b:LI):Option tB2:=(g132 m b).bind λy1=>(g188 m y1.1).bind λy2=>some (y2.1,((),()))
def g193L0 (m:Nat):Nat->Int->Int->LI->LI->Int->Int->Option tz1
 |0,_,_,_,_,_,_=>none
 |n+1,a,b,c,d,f,h=>bif decide (h<f)then if 0<=h/\h<(d.length:Int)then if 0<=b then if 0<=(wI (a+h))/\(wI (a+h))<(c.length:Int)then if 0<=(wI (a+h))/\(wI (a+h))<(c.length:Int)then if 0<=(wI ((wI (a+h))+1))/\(wI ((wI (a+h))+1))<((c.set (0+(wI (a+h)).toNat) (b_or_ .u32 (c.getD (0+(wI (a+h)).toNat) 0) (wK (qo .u64 (shl_ .u64 (wJ (d.getD h.toNat 0)) b) 4294967295)))).length:Int)then g193L0 m n a b ((c.set (0+(wI (a+h)).toNat) (b_or_ .u32 (c.getD (0+(wI (a+h)).toNat) 0) (wK (qo .u64 (shl_ .u64 (wJ (d.getD h.toNat 0)) b) 4294967295)))).set (0+(wI ((wI (a+h))+1)).toNat) (wK (shr_ .u64 (shl_ .u64 (wJ (d.getD h.toNat 0)) b) 32))) d f (wI (h+1))else none else none else none else none else none else some (.inl (c,()))
def g193 (m:Nat) (a:LI) (b:Int):Option tx1:=bif (a.length:Int)==0 then some ([],((),(),()))else if 0<=(wI ((wI ((wI (Int.tdiv b 32))+(a.length:Int)))+1))/\(wI ((wI ((wI (Int.tdiv b 32))+(a.length:Int)))+1))<=(wI ((wI ((wI (Int.tdiv b 32))+(a.length:Int)))+1))/\(wI ((wI ((wI (Int.tdiv b 32))+(a.length:Int)))+1))<=1073741824 then (g193L0 m m (wI (Int.tdiv b 32)) (wJ (Int.tmod b 32)) (List.replicate (wI ((wI ((wI (Int.tdiv b 32))+(a.length:Int)))+1)).toNat (0:Int)) a (a.length:Int) 0).bind λy1=>match y1 with
  | .inl z2=>(g132 m z2.1).bind λy3=>some (y3.1,((),(),()))
  | .inr e=>e.elim else none
def g217 (m:Nat) (a:Int):Option t81:=some (a !=0,((),()))
def g235L0 (m:Nat):Nat->LI->Int->Int->Option tn1
 |0,_,_,_=>none
 |n+1,a,b,c=>bif decide (c<b)then if 0<=c/\c<(a.length:Int)then (g217 m (a.getD c.toNat 0)).bind λy1=>bif y1.1 then some (.inl (c,()))else g235L0 m n a b (wI (c+1))else none else some (.inr (.inl ()))
def g235 (m:Nat) (a:LI):Option tw1:=(g235L0 m m a (a.length:Int) 0).bind λy1=>match y1 with
 | .inl z2=>some (z2.1,((),(),()))
 | .inr (.inl z3)=>some ((-1),((),(),()))
 | .inr (.inr e)=>e.elim
def g216 (m:Nat) (a:LI):Option ts1:=(g235 m a).bind λy1=>some (decide (y1.1>=0),((),(),()))
def g194L0 (m:Nat):Nat->LI->Int->Int->Bool->LI->Int->Int->Option (tC2⊕Empty)
 |0,_,_,_,_,_,_,_=>none
 |n+1,a,b,c,d,f,h,i=>bif decide (i<h)then if 0<=(wI (b+i))/\(wI (b+i))<(a.length:Int)then bif decide ((wI ((wI (b+i))+1))<(a.length:Int))then if 0<=(wI ((wI (b+i))+1))/\(wI ((wI (b+i))+1))<(a.length:Int)then if 0<=c then if 0<=i/\i<(f.length:Int)then g194L0 m n a b c d (f.set (0+i.toNat) (wK (qo .u64 (shr_ .u64 (b_or_ .u64 (wJ (a.getD (wI (b+i)).toNat 0)) (shl_ .u64 (wJ (a.getD (wI ((wI (b+i))+1)).toNat 0)) 32)) c) 4294967295))) h (wI (i+1))else none else none else none else if 0<=c then if 0<=i/\i<(f.length:Int)then g194L0 m n a b c d (f.set (0+i.toNat) (wK (qo .u64 (shr_ .u64 (wJ (a.getD (wI (b+i)).toNat 0)) c) 4294967295))) h (wI (i+1))else none else none else none else some (.inl (d,f,()))
def g194 (m:Nat) (a:LI) (b:Int):Option tV1:=bif decide ((wI (Int.tdiv b 32))>=(a.length:Int))then some (([],decide ((a.length:Int)>0),()),((),(),()))else if(0:Int)<=0/\0<=(wI (Int.tdiv b 32))/\(wI (Int.tdiv b 32))<=(a.length:Int)then (g216 m (a.take (wI (Int.tdiv b 32)).toNat)).bind λy1=>bif y1.1 then if 0<=(wI ((a.length:Int)-(wI (Int.tdiv b 32))))/\(wI ((a.length:Int)-(wI (Int.tdiv b 32))))<=(wI ((a.length:Int)-(wI (Int.tdiv b 32))))/\(wI ((a.length:Int)-(wI (Int.tdiv b 32))))<=1073741824 then (g194L0 m m a (wI (Int.tdiv b 32)) (wJ (Int.tmod b 32)) true (List.replicate (wI ((a.length:Int)-(wI (Int.tdiv b 32)))).toNat (0:Int)) ((List.replicate (wI ((a.length:Int)-(wI (Int.tdiv b 32)))).toNat (0:Int)).length:Int) 0).bind λy2=>match y2 with
   | .inl z3=>(g132 m z3.2.1).bind λy4=>some ((y4.1,z3.1,()),((),(),()))
   | .inr e=>e.elim else none else if 0<=(wI (Int.tdiv b 32))/\(wI (Int.tdiv b 32))<(a.length:Int)then if 0<=(wJ (Int.tmod b 32))then if 0<=(wI ((a.length:Int)-(wI (Int.tdiv b 32))))/\(wI ((a.length:Int)-(wI (Int.tdiv b 32))))<=(wI ((a.length:Int)-(wI (Int.tdiv b 32))))/\(wI ((a.length:Int)-(wI (Int.tdiv b 32))))<=1073741824 then (g194L0 m m a (wI (Int.tdiv b 32)) (wJ (Int.tmod b 32)) ((qo .u32 (a.getD (wI (Int.tdiv b 32)).toNat 0) (wK ((shl_ .u32 1 (wJ (Int.tmod b 32)))-1))) !=0) (List.replicate (wI ((a.length:Int)-(wI (Int.tdiv b 32)))).toNat (0:Int)) ((List.replicate (wI ((a.length:Int)-(wI (Int.tdiv b 32)))).toNat (0:Int)).length:Int) 0).bind λy5=>match y5 with
   | .inl z6=>(g132 m z6.2.1).bind λy7=>some ((y7.1,z6.1,()),((),(),()))
   | .inr e=>e.elim else none else none else none else none
def g134L0 (m:Nat):Nat->LI->LI->Int->LI->Int->Int->Option tr1
 |0,_,_,_,_,_,_=>none
 |n+1,a,b,c,d,f,h=>bif decide (h<f)then if 0<=h/\h<(d.length:Int)then bif decide (h<(a.length:Int))then if 0<=h/\h<(a.length:Int)then if b.length+([wK (qo .u64 (wJ ((wJ ((wJ (d.getD h.toNat 0))+c))+(wJ (a.getD h.toNat 0)))) 4294967295)]:LI).length<=1073741824 then g134L0 m n a (b++([wK (qo .u64 (wJ ((wJ ((wJ (d.getD h.toNat 0))+c))+(wJ (a.getD h.toNat 0)))) 4294967295)]:LI)) (shr_ .u64 (wJ ((wJ ((wJ (d.getD h.toNat 0))+c))+(wJ (a.getD h.toNat 0)))) 32) d f (wI (h+1))else none else none else if b.length+([wK (qo .u64 (wJ ((wJ (d.getD h.toNat 0))+c)) 4294967295)]:LI).length<=1073741824 then g134L0 m n a (b++([wK (qo .u64 (wJ ((wJ (d.getD h.toNat 0))+c)) 4294967295)]:LI)) (shr_ .u64 (wJ ((wJ (d.getD h.toNat 0))+c)) 32) d f (wI (h+1))else none else none else some (.inl (b,c,()))
def g134 (m:Nat) (a:LI) (b:LI):Option tx1:=bif decide ((a.length:Int)<(b.length:Int))then if(0:Int)<=0/\0<=(wI ((b.length:Int)+1))/\(wI ((b.length:Int)+1))<=1073741824 then (g134L0 m m a (List.replicate 0 (0:Int)) 0 b (b.length:Int) 0).bind λy1=>match y1 with
  | .inl z2=>if z2.1.length+([wK z2.2.1]:LI).length<=1073741824 then (g132 m (z2.1++([wK z2.2.1]:LI))).bind λy3=>some (y3.1,((),(),()))else none
  | .inr e=>e.elim else none else if(0:Int)<=0/\0<=(wI ((a.length:Int)+1))/\(wI ((a.length:Int)+1))<=1073741824 then (g134L0 m m b (List.replicate 0 (0:Int)) 0 a (a.length:Int) 0).bind λy4=>match y4 with
  | .inl z5=>if z5.1.length+([wK z5.2.1]:LI).length<=1073741824 then (g132 m (z5.1++([wK z5.2.1]:LI))).bind λy6=>some (y6.1,((),(),()))else none
  | .inr e=>e.elim else none
def g151 (m:Nat) (a:Bool) (b:LI) (c:Int):Option tE1:=bif decide (c<(-1048576))then some (((false,[],()),3,()),((),(),()))else bif decide (c>1048576)then some (((false,[],()),3,()),((),(),()))else (g132 m b).bind λy1=>bif decide (c>=0)then (g193 m y1.1 c).bind λy2=>(g133 m a y2.1).bind λy3=>some (((y3.1.1,y3.1.2.1,()),0,()),((),(),()))else (g194 m y1.1 (wI (0-c))).bind λy4=>bif a then bif y4.1.2.1 then (g134 m y4.1.1 ([1]:LI)).bind λy5=>(g133 m a y5.1).bind λy6=>some (((y6.1.1,y6.1.2.1,()),0,()),((),(),()))else (g133 m a y4.1.1).bind λy7=>some (((y7.1.1,y7.1.2.1,()),0,()),((),(),()))else (g133 m a y4.1.1).bind λy8=>some (((y8.1.1,y8.1.2.1,()),0,()),((),(),()))
def g140L0 (m:Nat):Nat->Int->Bool->LI->Bool->LI->Option tB1
 |0,_,_,_,_,_=>none
 |n+1,a,b,c,d,f=>bif decide (a>1048576)then (g151 m b c (-1048576)).bind λy1=>g140L0 m n (wI (a-1048576)) y1.1.1.1 y1.1.1.2.1 d f else some (.inl (a,(b,c,()),(d,f,()),()))
def g140 (m:Nat) (a:Bool) (b:LI) (c:Int):Option tU1:=(g140L0 m m c a b false ([]:LI)).bind λy1=>match y1 with
 | .inl z2=>(g151 m z2.2.1.1 z2.2.1.2.1 (wI (0-z2.1))).bind λy3=>some ((y3.1.1.1,y3.1.1.2.1,()),((),(),()))
 | .inr e=>e.elim
def g89 (m:Nat) (a:Bool) (b:Bool) (c:LI) (d:Int):Option ((tp1×Bool×Unit)×Unit×Unit):=bif a then (g82 m).bind λy1=>some (((y1.1.1,y1.1.2.1,y1.1.2.2.1,y1.1.2.2.2.1,()),false,()),((),()))else (g105 m b c).bind λy2=>(g90 m y2.1.1 y2.1.2.1).bind λy3=>bif y3.1==0 then some (((false,false,[],0,()),true,()),((),()))else (g138 m y2.1.1 y2.1.2.1).bind λy4=>(g139 m y2.1.1 y2.1.2.1).bind λy5=>bif decide (d>(wI (65536-y5.1)))then (g82 m).bind λy6=>some (((y6.1.1,y6.1.2.1,y6.1.2.2.1,y6.1.2.2.2.1,()),false,()),((),()))else bif decide (d<(wI ((-65536)-y4.1)))then (g82 m).bind λy7=>some (((y7.1.1,y7.1.2.1,y7.1.2.2.1,y7.1.2.2.2.1,()),false,()),((),()))else (g140 m y2.1.1 y2.1.2.1 y4.1).bind λy8=>some (((false,y8.1.1,y8.1.2.1,wI (d+y4.1),()),true,()),((),()))
def g84 (m:Nat) (a:Bool) (b:LI) (c:Int):Option tG1:=(g89 m false a b c).bind λy1=>some ((y1.1.1.1,y1.1.1.2.1,y1.1.1.2.2.1,y1.1.1.2.2.2.1,()),((),(),()))
def g51 (m:Nat) (a:Int):Option tM1:=(g44 m a).bind λy1=>bif y1.1.1==2047 then some ((true,false,[],0,()),((),()))else bif y1.1.1==0 then (g86 m (wI y1.1.2.1)).bind λy2=>(g87 m a).bind λy3=>bif y3.1 then (g88 m y2.1.1 y2.1.2.1).bind λy4=>(g84 m y4.1.1 y4.1.2.1 (-1074)).bind λy5=>some ((y5.1.1,y5.1.2.1,y5.1.2.2.1,y5.1.2.2.2.1,()),((),()))else (g84 m y2.1.1 y2.1.2.1 (-1074)).bind λy6=>some ((y6.1.1,y6.1.2.1,y6.1.2.2.1,y6.1.2.2.2.1,()),((),()))else (g86 m (wI (b_or_ .u64 y1.1.2.1 4503599627370496))).bind λy7=>(g87 m a).bind λy8=>bif y8.1 then (g88 m y7.1.1 y7.1.2.1).bind λy9=>(g84 m y9.1.1 y9.1.2.1 (wI (y1.1.1-1075))).bind λy10=>some ((y10.1.1,y10.1.2.1,y10.1.2.2.1,y10.1.2.2.2.1,()),((),()))else (g84 m y7.1.1 y7.1.2.1 (wI (y1.1.1-1075))).bind λy11=>some ((y11.1.1,y11.1.2.1,y11.1.2.2.1,y11.1.2.2.2.1,()),((),()))
def g81 (m:Nat) (a:Bool) (b:Bool) (c:LI) (d:Int) (f:Bool) (h:Bool) (i:LI) (j:Int):Option ((tp1×tp1×Bool×Unit)×Unit×Unit×Unit):=(g89 m a b c d).bind λy1=>(g89 m f h i j).bind λy2=>bif y1.1.2.1 then some (((y1.1.1.1,y1.1.1.2.1,y1.1.1.2.2.1,y1.1.1.2.2.2.1,()),(y2.1.1.1,y2.1.1.2.1,y2.1.1.2.2.1,y2.1.1.2.2.2.1,()),y2.1.2.1,()),((),(),()))else some (((y1.1.1.1,y1.1.1.2.1,y1.1.1.2.2.1,y1.1.1.2.2.2.1,()),(y2.1.1.1,y2.1.1.2.1,y2.1.1.2.2.1,y2.1.1.2.2.2.1,()),false,()),((),(),()))
def g131 (m:Nat) (a:Bool) (b:LI) (c:Int):Option tU1:=(g151 m a b c).bind λy1=>some ((y1.1.1.1,y1.1.1.2.1,()),((),(),()))
def g83 (m:Nat) (a:Bool) (b:Bool) (c:LI) (d:Int) (f:Bool) (h:Bool) (i:LI) (j:Int):Option tq:=(g131 m b c (wI (d-(if j<d then j else d)))).bind λy1=>(g131 m h i (wI (j-(if j<d then j else d)))).bind λy2=>some (((y1.1.1,y1.1.2.1,()),(y2.1.1,y2.1.2.1,()),if j<d then j else d,()),((),(),()))
def g160 (m:Nat) (a:Int) (b:Int):Option tw1:=(g146 m a).bind λy1=>(g146 m b).bind λy2=>bif y1.1 then bif y2.1 then some (0,((),(),()))else some ((-1),((),(),()))else bif y2.1 then some (1,((),(),()))else bif decide (a<b)then some ((-1),((),(),()))else bif decide (a>b)then some (1,((),(),()))else some (0,((),(),()))
def g212 (m:Nat) (a:Int):Option t81:=some (a !=a,((),()))
def g187 (m:Nat) (a:Int) (b:Int):Option tw1:=(g212 m a).bind λy1=>(g212 m b).bind λy2=>bif y1.1 then bif y2.1 then some (0,((),(),()))else some ((-1),((),(),()))else bif y2.1 then some (1,((),(),()))else bif decide (a<b)then some ((-1),((),(),()))else bif decide (a>b)then some (1,((),(),()))else some (0,((),(),()))
def g135L0 (m:Nat):Nat->LI->LI->Int->Option tn1
 |0,_,_,_=>none
 |n+1,a,b,c=>bif decide (c>=0)then if 0<=c/\c<(a.length:Int)then if 0<=c/\c<(b.length:Int)then bif (a.getD c.toNat 0) !=(b.getD c.toNat 0)then if 0<=c/\c<(a.length:Int)then if 0<=c/\c<(b.length:Int)then (g187 m (a.getD c.toNat 0) (b.getD c.toNat 0)).bind λy1=>some (.inl (y1.1,()))else none else none else g135L0 m n a b (wI (c-1))else none else none else some (.inr (.inl ()))
def g135 (m:Nat) (a:LI) (b:LI):Option tw1:=bif (a.length:Int) !=(b.length:Int)then (g160 m (a.length:Int) (b.length:Int)).bind λy1=>some (y1.1,((),(),()))else (g135L0 m m a b (wI ((a.length:Int)-1))).bind λy2=>match y2 with
  | .inl z3=>some (z3.1,((),(),()))
  | .inr (.inl z4)=>some (0,((),(),()))
  | .inr (.inr e)=>e.elim
def g136L0 (m:Nat):Nat->LI->LI->Int->LI->Int->Int->Option tz1
 |0,_,_,_,_,_,_=>none
 |n+1,a,b,c,d,f,h=>bif decide (h<f)then if 0<=h/\h<(d.length:Int)then bif decide (h<(a.length:Int))then if 0<=h/\h<(a.length:Int)then if 0<=h/\h<(b.length:Int)then g136L0 m n a (b.set (0+h.toNat) (wK (qo .u64 (wJ ((wJ ((wJ (d.getD h.toNat 0))-c))-(wJ (a.getD h.toNat 0)))) 4294967295))) (qo .u64 (shr_ .u64 (wJ ((wJ ((wJ (d.getD h.toNat 0))-c))-(wJ (a.getD h.toNat 0)))) 32) 1) d f (wI (h+1))else none else none else if 0<=h/\h<(b.length:Int)then g136L0 m n a (b.set (0+h.toNat) (wK (qo .u64 (wJ ((wJ (d.getD h.toNat 0))-c)) 4294967295))) (qo .u64 (shr_ .u64 (wJ ((wJ (d.getD h.toNat 0))-c)) 32) 1) d f (wI (h+1))else none else none else some (.inl (b,()))
def g136 (m:Nat) (a:LI) (b:LI):Option tx1:=if 0<=(a.length:Int)/\(a.length:Int)<=(a.length:Int)/\(a.length:Int)<=1073741824 then (g136L0 m m b (List.replicate (a.length:Int).toNat (0:Int)) 0 a (a.length:Int) 0).bind λy1=>match y1 with
 | .inl z2=>(g132 m z2.1).bind λy3=>some (y3.1,((),(),()))
 | .inr e=>e.elim else none
def g85 (m:Nat) (a:Bool) (b:LI) (c:Bool) (d:LI):Option tU1:=(g132 m b).bind λy1=>(g132 m d).bind λy2=>bif a==c then (g134 m y1.1 y2.1).bind λy3=>(g133 m a y3.1).bind λy4=>some ((y4.1.1,y4.1.2.1,()),((),(),()))else (g135 m y1.1 y2.1).bind λy5=>bif decide (y5.1>=0)then (g136 m y1.1 y2.1).bind λy6=>(g133 m a y6.1).bind λy7=>some ((y7.1.1,y7.1.2.1,()),((),(),()))else (g136 m y2.1 y1.1).bind λy8=>(g133 m c y8.1).bind λy9=>some ((y9.1.1,y9.1.2.1,()),((),(),()))
def g50 (m:Nat) (a:Bool) (b:Bool) (c:LI) (d:Int) (f:Bool) (h:Bool) (i:LI) (j:Int):Option tG1:=(g81 m a b c d f h i j).bind λy1=>bif !y1.1.2.2.1 then (g82 m).bind λy2=>some ((y2.1.1,y2.1.2.1,y2.1.2.2.1,y2.1.2.2.2.1,()),((),(),()))else (g83 m y1.1.1.1 y1.1.1.2.1 y1.1.1.2.2.1 y1.1.1.2.2.2.1 y1.1.2.1.1 y1.1.2.1.2.1 y1.1.2.1.2.2.1 y1.1.2.1.2.2.2.1).bind λy3=>(g85 m y3.1.1.1 y3.1.1.2.1 y3.1.2.1.1 y3.1.2.1.2.1).bind λy4=>(g84 m y4.1.1 y4.1.2.1 y3.1.2.2.1).bind λy5=>some ((y5.1.1,y5.1.2.1,y5.1.2.2.1,y5.1.2.2.2.1,()),((),(),()))
def g52 (m:Nat) (a:Bool) (b:Bool) (c:LI) (d:Int):Option tB2:=(g89 m a b c d).bind λy1=>(g90 m y1.1.1.2.1 y1.1.1.2.2.1).bind λy2=>some (y2.1,((),()))
def g91 (m:Nat) (a:Int) (b:Bool):Option tw1:=bif b then some (b_or_ .u64 a 9223372036854775808,((),(),()))else some (a,((),(),()))
def g53 (m:Nat) (a:Int):Option tB2:=(g91 m 0 (a==1)).bind λy1=>some (y1.1,((),()))
def g92 (m:Nat) (a:Bool) (b:Bool) (c:LI) (d:Int):Option tM1:=(g89 m a b c d).bind λy1=>some ((y1.1.1.1,y1.1.1.2.1,y1.1.1.2.2.1,y1.1.1.2.2.2.1,()),((),()))
def g143 (m:Nat) (a:Bool) (b:LI):Option th1:=(g137 m b).bind λy1=>(g133 m false y1.1).bind λy2=>some ((y2.1.1,y2.1.2.1,()),((),()))
def g94 (m:Nat) (a:Bool) (b:Bool) (c:LI) (d:Int):Option (td1×Unit×Unit):=(g143 m b c).bind λy1=>some ((b,y1.1.1,y1.1.2.1,d,false,()),((),()))
def g141 (m:Nat) (a:Bool) (b:Bool) (c:LI) (d:Int) (f:Bool):Option tB2:=(g139 m b c).bind λy1=>some (wI ((wI (d+y1.1))-1),((),()))
def g213 (m:Nat) (a:Bool) (b:LI) (c:Bool) (d:LI):Option tU1:=(g85 m a b (!c) d).bind λy1=>some ((y1.1.1,y1.1.2.1,()),((),(),()))
def g100 (m:Nat) (a:Bool) (b:LI) (c:Bool) (d:LI):Option tw1:=(g90 m a b).bind λy1=>(g90 m c d).bind λy2=>bif decide (y1.1<y2.1)then some ((-1),((),(),()))else bif decide (y1.1>y2.1)then some (1,((),(),()))else (g132 m b).bind λy3=>(g132 m d).bind λy4=>(g135 m y3.1 y4.1).bind λy5=>some (wI (y1.1*y5.1),((),(),()))
def g189 (m:Nat) (a:Bool) (b:Bool) (c:LI) (d:Int) (f:Bool) (h:Int):Option ((tC2×Int×Bool×Unit)×Unit×Unit×Unit):=(g139 m b c).bind λy1=>bif decide (h>y1.1)then some (((false,[],()),(-1),false,()),((),(),()))else (g140 m b c h).bind λy2=>(g131 m y2.1.1 y2.1.2.1 h).bind λy3=>(g213 m b c y3.1.1 y3.1.2.1).bind λy4=>(g86 m 1).bind λy5=>(g131 m y5.1.1 y5.1.2.1 (wI (h-1))).bind λy6=>(g100 m y4.1.1 y4.1.2.1 y6.1.1 y6.1.2.1).bind λy7=>bif y7.1==0 then bif f then (g90 m y4.1.1 y4.1.2.1).bind λy8=>bif y8.1==0 then some (((y2.1.1,y2.1.2.1,()),1,!f,()),((),(),()))else some (((y2.1.1,y2.1.2.1,()),1,false,()),((),(),()))else (g90 m y4.1.1 y4.1.2.1).bind λy9=>bif y9.1==0 then some (((y2.1.1,y2.1.2.1,()),y7.1,!f,()),((),(),()))else some (((y2.1.1,y2.1.2.1,()),y7.1,false,()),((),(),()))else (g90 m y4.1.1 y4.1.2.1).bind λy10=>bif y10.1==0 then some (((y2.1.1,y2.1.2.1,()),y7.1,!f,()),((),(),()))else some (((y2.1.1,y2.1.2.1,()),y7.1,false,()),((),(),()))
def g144 (m:Nat) (a:Bool) (b:Bool) (c:LI) (d:Int) (f:Bool) (h:Int) (i:Int):Option (tC2×Unit×Unit×Unit×Unit):=bif decide (h<=d)then (g131 m b c (wI (d-h))).bind λy1=>bif a then (g88 m y1.1.1 y1.1.2.1).bind λy2=>some ((y2.1.1,y2.1.2.1,()),((),(),(),()))else some ((y1.1.1,y1.1.2.1,()),((),(),(),()))else (g189 m a b c d f (wI (h-d))).bind λy3=>bif y3.1.2.2.1 then bif a then (g88 m y3.1.1.1 y3.1.1.2.1).bind λy4=>some ((y4.1.1,y4.1.2.1,()),((),(),(),()))else some ((y3.1.1.1,y3.1.1.2.1,()),((),(),(),()))else bif i==1 then bif a then (g86 m 1).bind λy5=>(g85 m y3.1.1.1 y3.1.1.2.1 y5.1.1 y5.1.2.1).bind λy6=>bif a then (g88 m y6.1.1 y6.1.2.1).bind λy7=>some ((y7.1.1,y7.1.2.1,()),((),(),(),()))else some ((y6.1.1,y6.1.2.1,()),((),(),(),()))else bif a then (g88 m y3.1.1.1 y3.1.1.2.1).bind λy8=>some ((y8.1.1,y8.1.2.1,()),((),(),(),()))else some ((y3.1.1.1,y3.1.1.2.1,()),((),(),(),()))else bif i==2 then bif !a then (g86 m 1).bind λy9=>(g85 m y3.1.1.1 y3.1.1.2.1 y9.1.1 y9.1.2.1).bind λy10=>bif a then (g88 m y10.1.1 y10.1.2.1).bind λy11=>some ((y11.1.1,y11.1.2.1,()),((),(),(),()))else some ((y10.1.1,y10.1.2.1,()),((),(),(),()))else bif a then (g88 m y3.1.1.1 y3.1.1.2.1).bind λy12=>some ((y12.1.1,y12.1.2.1,()),((),(),(),()))else some ((y3.1.1.1,y3.1.1.2.1,()),((),(),(),()))else bif i==3 then bif a then (g88 m y3.1.1.1 y3.1.1.2.1).bind λy13=>some ((y13.1.1,y13.1.2.1,()),((),(),(),()))else some ((y3.1.1.1,y3.1.1.2.1,()),((),(),(),()))else bif decide (y3.1.2.1>0)then (g86 m 1).bind λy14=>(g85 m y3.1.1.1 y3.1.1.2.1 y14.1.1 y14.1.2.1).bind λy15=>bif a then (g88 m y15.1.1 y15.1.2.1).bind λy16=>some ((y16.1.1,y16.1.2.1,()),((),(),(),()))else some ((y15.1.1,y15.1.2.1,()),((),(),(),()))else bif y3.1.2.1==0 then (g90 m y3.1.1.1 y3.1.1.2.1).bind λy17=>bif y17.1 !=0 then (g138 m y3.1.1.1 y3.1.1.2.1).bind λy18=>bif y18.1==0 then (g86 m 1).bind λy19=>(g85 m y3.1.1.1 y3.1.1.2.1 y19.1.1 y19.1.2.1).bind λy20=>bif a then (g88 m y20.1.1 y20.1.2.1).bind λy21=>some ((y21.1.1,y21.1.2.1,()),((),(),(),()))else some ((y20.1.1,y20.1.2.1,()),((),(),(),()))else bif a then (g88 m y3.1.1.1 y3.1.1.2.1).bind λy22=>some ((y22.1.1,y22.1.2.1,()),((),(),(),()))else some ((y3.1.1.1,y3.1.1.2.1,()),((),(),(),()))else bif a then (g88 m y3.1.1.1 y3.1.1.2.1).bind λy23=>some ((y23.1.1,y23.1.2.1,()),((),(),(),()))else some ((y3.1.1.1,y3.1.1.2.1,()),((),(),(),()))else bif a then (g88 m y3.1.1.1 y3.1.1.2.1).bind λy24=>some ((y24.1.1,y24.1.2.1,()),((),(),(),()))else some ((y3.1.1.1,y3.1.1.2.1,()),((),(),(),()))
def g142L0 (m:Nat):Nat->Bool->LI->Int->LI->Int->Int->Option tO1
 |0,_,_,_,_,_,_=>none
 |n+1,a,b,c,d,f,h=>bif decide (h<f)then if 0<=h/\h<(d.length:Int)then if 0<=(wI (32*h))then g142L0 m n a b (b_or_ .u64 c (shl_ .u64 (wJ (d.getD h.toNat 0)) (wI (32*h)))) d f (wI (h+1))else none else none else some (.inl ((a,b,()),c,()))
def g142 (m:Nat) (a:Bool) (b:LI):Option te1:=(g132 m b).bind λy1=>bif decide ((y1.1.length:Int)>2)then some ((0,false,()),((),()))else (g142L0 m m a b 0 y1.1 (y1.1.length:Int) 0).bind λy2=>match y2 with
  | .inl z3=>bif z3.1.1 then bif decide (z3.2.1>0)then bif decide (z3.2.1<=9223372036854775808)then some ((wI ((wI (0-(wI (wJ (z3.2.1-1)))))-1),true,()),((),()))else bif decide (z3.2.1<9223372036854775808)then bif !z3.1.1 then some ((wI z3.2.1,true,()),((),()))else bif z3.2.1==0 then some ((wI z3.2.1,true,()),((),()))else some ((0,false,()),((),()))else some ((0,false,()),((),()))else bif decide (z3.2.1<9223372036854775808)then bif !z3.1.1 then some ((wI z3.2.1,true,()),((),()))else bif z3.2.1==0 then some ((wI z3.2.1,true,()),((),()))else some ((0,false,()),((),()))else some ((0,false,()),((),()))else bif decide (z3.2.1<9223372036854775808)then bif !z3.1.1 then some ((wI z3.2.1,true,()),((),()))else bif z3.2.1==0 then some ((wI z3.2.1,true,()),((),()))else some ((0,false,()),((),()))else some ((0,false,()),((),()))
  | .inr e=>e.elim
def g145 (m:Nat) (a:Bool) (b:Int):Option tw1:=bif b==3 then (g91 m 9218868437227405311 a).bind λy1=>some (y1.1,((),(),()))else bif b==1 then bif !a then (g91 m 9218868437227405311 a).bind λy2=>some (y2.1,((),(),()))else bif b==2 then bif a then (g91 m 9218868437227405311 a).bind λy3=>some (y3.1,((),(),()))else (g91 m 9218868437227405312 a).bind λy4=>some (y4.1,((),(),()))else (g91 m 9218868437227405312 a).bind λy5=>some (y5.1,((),(),()))else bif b==2 then bif a then (g91 m 9218868437227405311 a).bind λy6=>some (y6.1,((),(),()))else (g91 m 9218868437227405312 a).bind λy7=>some (y7.1,((),(),()))else (g91 m 9218868437227405312 a).bind λy8=>some (y8.1,((),(),()))
def g93 (m:Nat) (a:Bool) (b:Bool) (c:LI) (d:Int) (f:Bool) (h:Int):Option tw1:=(g141 m a b c d f).bind λy1=>(g144 m a b c d f (if(-1074)>(wI (y1.1-52))then(-1074)else(wI (y1.1-52))) h).bind λy2=>(g143 m y2.1.1 y2.1.2.1).bind λy3=>(g142 m y3.1.1 y3.1.2.1).bind λy4=>bif (wJ y4.1.1)==9007199254740992 then bif decide ((wI ((wI ((if(-1074)>(wI (y1.1-52))then(-1074)else(wI (y1.1-52)))+1))+1075))>=2047)then (g145 m a h).bind λy5=>some (y5.1,((),(),()))else (g91 m (b_or_ .u64 (shl_ .u64 (wJ (wI ((wI ((if(-1074)>(wI (y1.1-52))then(-1074)else(wI (y1.1-52)))+1))+1075))) 52) 0) a).bind λy6=>some (y6.1,((),(),()))else bif decide ((wJ y4.1.1)<4503599627370496)then (g91 m (wJ y4.1.1) a).bind λy7=>some (y7.1,((),(),()))else bif decide ((wI ((if(-1074)>(wI (y1.1-52))then(-1074)else(wI (y1.1-52)))+1075))>=2047)then (g145 m a h).bind λy8=>some (y8.1,((),(),()))else (g91 m (b_or_ .u64 (shl_ .u64 (wJ (wI ((if(-1074)>(wI (y1.1-52))then(-1074)else(wI (y1.1-52)))+1075))) 52) (wJ ((wJ y4.1.1)-4503599627370496))) a).bind λy9=>some (y9.1,((),(),()))
def g54 (m:Nat) (a:Bool) (b:Bool) (c:LI) (d:Int) (f:Int):Option tw1:=(g92 m a b c d).bind λy1=>bif y1.1.1 then some (9221120237041090560,((),(),()))else (g52 m y1.1.1 y1.1.2.1 y1.1.2.2.1 y1.1.2.2.2.1).bind λy2=>bif y2.1==0 then some (0,((),(),()))else (g94 m y1.1.1 y1.1.2.1 y1.1.2.2.1 y1.1.2.2.2.1).bind λy3=>(g93 m y3.1.1 y3.1.2.1 y3.1.2.2.1 y3.1.2.2.2.1 y3.1.2.2.2.2.1 f).bind λy4=>some (y4.1,((),(),()))
def g25 (m:Nat) (a:Int) (b:Int) (c:Int):Option ti1:=(g47 m ([a,b]:LI)).bind λy1=>bif y1.1 then some (9221120237041090560,((),(),(),()))else (g48 m a).bind λy2=>bif y2.1 then (g48 m b).bind λy3=>bif y3.1 then bif a !=b then some (9221120237041090560,((),(),(),()))else (g48 m a).bind λy4=>bif y4.1 then some (a,((),(),(),()))else (g48 m b).bind λy5=>bif y5.1 then some (b,((),(),(),()))else (g49 m a).bind λy6=>bif y6.1 then bif a==b then some (a,((),(),(),()))else (g51 m a).bind λy7=>(g51 m b).bind λy8=>(g50 m y7.1.1 y7.1.2.1 y7.1.2.2.1 y7.1.2.2.2.1 y8.1.1 y8.1.2.1 y8.1.2.2.1 y8.1.2.2.2.1).bind λy9=>(g52 m y9.1.1 y9.1.2.1 y9.1.2.2.1 y9.1.2.2.2.1).bind λy10=>bif y10.1==0 then (g53 m c).bind λy11=>some (y11.1,((),(),(),()))else (g54 m y9.1.1 y9.1.2.1 y9.1.2.2.1 y9.1.2.2.2.1 c).bind λy12=>some (y12.1,((),(),(),()))else (g51 m a).bind λy13=>(g51 m b).bind λy14=>(g50 m y13.1.1 y13.1.2.1 y13.1.2.2.1 y13.1.2.2.2.1 y14.1.1 y14.1.2.1 y14.1.2.2.1 y14.1.2.2.2.1).bind λy15=>(g52 m y15.1.1 y15.1.2.1 y15.1.2.2.1 y15.1.2.2.2.1).bind λy16=>bif y16.1==0 then (g53 m c).bind λy17=>some (y17.1,((),(),(),()))else (g54 m y15.1.1 y15.1.2.1 y15.1.2.2.1 y15.1.2.2.2.1 c).bind λy18=>some (y18.1,((),(),(),()))else (g48 m a).bind λy19=>bif y19.1 then some (a,((),(),(),()))else (g48 m b).bind λy20=>bif y20.1 then some (b,((),(),(),()))else (g49 m a).bind λy21=>bif y21.1 then bif a==b then some (a,((),(),(),()))else (g51 m a).bind λy22=>(g51 m b).bind λy23=>(g50 m y22.1.1 y22.1.2.1 y22.1.2.2.1 y22.1.2.2.2.1 y23.1.1 y23.1.2.1 y23.1.2.2.1 y23.1.2.2.2.1).bind λy24=>(g52 m y24.1.1 y24.1.2.1 y24.1.2.2.1 y24.1.2.2.2.1).bind λy25=>bif y25.1==0 then (g53 m c).bind λy26=>some (y26.1,((),(),(),()))else (g54 m y24.1.1 y24.1.2.1 y24.1.2.2.1 y24.1.2.2.2.1 c).bind λy27=>some (y27.1,((),(),(),()))else (g51 m a).bind λy28=>(g51 m b).bind λy29=>(g50 m y28.1.1 y28.1.2.1 y28.1.2.2.1 y28.1.2.2.2.1 y29.1.1 y29.1.2.1 y29.1.2.2.1 y29.1.2.2.2.1).bind λy30=>(g52 m y30.1.1 y30.1.2.1 y30.1.2.2.1 y30.1.2.2.2.1).bind λy31=>bif y31.1==0 then (g53 m c).bind λy32=>some (y32.1,((),(),(),()))else (g54 m y30.1.1 y30.1.2.1 y30.1.2.2.1 y30.1.2.2.2.1 c).bind λy33=>some (y33.1,((),(),(),()))else (g48 m a).bind λy34=>bif y34.1 then some (a,((),(),(),()))else (g48 m b).bind λy35=>bif y35.1 then some (b,((),(),(),()))else (g49 m a).bind λy36=>bif y36.1 then bif a==b then some (a,((),(),(),()))else (g51 m a).bind λy37=>(g51 m b).bind λy38=>(g50 m y37.1.1 y37.1.2.1 y37.1.2.2.1 y37.1.2.2.2.1 y38.1.1 y38.1.2.1 y38.1.2.2.1 y38.1.2.2.2.1).bind λy39=>(g52 m y39.1.1 y39.1.2.1 y39.1.2.2.1 y39.1.2.2.2.1).bind λy40=>bif y40.1==0 then (g53 m c).bind λy41=>some (y41.1,((),(),(),()))else (g54 m y39.1.1 y39.1.2.1 y39.1.2.2.1 y39.1.2.2.2.1 c).bind λy42=>some (y42.1,((),(),(),()))else (g51 m a).bind λy43=>(g51 m b).bind λy44=>(g50 m y43.1.1 y43.1.2.1 y43.1.2.2.1 y43.1.2.2.2.1 y44.1.1 y44.1.2.1 y44.1.2.2.1 y44.1.2.2.2.1).bind λy45=>(g52 m y45.1.1 y45.1.2.1 y45.1.2.2.1 y45.1.2.2.2.1).bind λy46=>bif y46.1==0 then (g53 m c).bind λy47=>some (y47.1,((),(),(),()))else (g54 m y45.1.1 y45.1.2.1 y45.1.2.2.1 y45.1.2.2.2.1 c).bind λy48=>some (y48.1,((),(),(),()))
def g8 (m:Nat) (a:Int) (b:Int) (c:Int) (d:Int):Option tQ1:=(g24 m a b c d).bind λy1=>bif !y1.1 then (g22 m).bind λy2=>some ((y2.1.1,y2.1.2.1,()),((),(),()))else (g25 m a c 1).bind λy3=>(g25 m b d 2).bind λy4=>(g23 m y3.1 y4.1).bind λy5=>some ((y5.1.1,y5.1.2.1,()),((),(),()))
def g61 (m:Nat) (a:Int):Option tB2:=(g47 m ([a]:LI)).bind λy1=>bif y1.1 then some (9221120237041090560,((),()))else some (Zw .u64 a 9223372036854775808,((),()))
def g32 (m:Nat) (a:Int) (b:Int) (c:Int):Option ti1:=(g61 m b).bind λy1=>(g25 m a y1.1 c).bind λy2=>some (y2.1,((),(),(),()))
def g12 (m:Nat) (a:Int) (b:Int) (c:Int) (d:Int):Option tQ1:=(g24 m a b c d).bind λy1=>bif !y1.1 then (g22 m).bind λy2=>some ((y2.1.1,y2.1.2.1,()),((),(),()))else (g32 m a d 1).bind λy3=>(g32 m b c 2).bind λy4=>(g23 m y3.1 y4.1).bind λy5=>some ((y5.1.1,y5.1.2.1,()),((),(),()))
def g60 (m:Nat) (a:Int) (b:Int):Option ts1:=(g80 m a b).bind λy1=>some (decide (y1.1.1<0),((),(),()))
def g30L0 (m:Nat):Nat->Int->LI->Int->Int->Option (tJ2⊕Empty)
 |0,_,_,_,_=>none
 |n+1,a,b,c,d=>bif decide (d<c)then if 0<=d/\d<(b.length:Int)then (g60 m (b.getD d.toNat 0) a).bind λy1=>bif y1.1 then g30L0 m n (b.getD d.toNat 0) b c (wI (d+1))else g30L0 m n a b c (wI (d+1))else none else some (.inl (a,()))
def g30 (m:Nat) (a:LI):Option tB2:=if(0:Int)<=0/\0<(a.length:Int)then (g30L0 m m (a.getD 0 0) a (a.length:Int) 0).bind λy1=>match y1 with
 | .inl z2=>some (z2.1,((),()))
 | .inr e=>e.elim else none
def g31L0 (m:Nat):Nat->Int->LI->Int->Int->Option (tJ2⊕Empty)
 |0,_,_,_,_=>none
 |n+1,a,b,c,d=>bif decide (d<c)then if 0<=d/\d<(b.length:Int)then (g60 m a (b.getD d.toNat 0)).bind λy1=>bif y1.1 then g31L0 m n (b.getD d.toNat 0) b c (wI (d+1))else g31L0 m n a b c (wI (d+1))else none else some (.inl (a,()))
def g31 (m:Nat) (a:LI):Option tB2:=if(0:Int)<=0/\0<(a.length:Int)then (g31L0 m m (a.getD 0 0) a (a.length:Int) 0).bind λy1=>match y1 with
 | .inl z2=>some (z2.1,((),()))
 | .inr e=>e.elim else none
def g11 (m:Nat) (a:Int) (b:Int) (c:Int) (d:Int):Option tQ1:=(g24 m a b c d).bind λy1=>bif !y1.1 then (g22 m).bind λy2=>some ((y2.1.1,y2.1.2.1,()),((),(),()))else (g30 m ([a,c]:LI)).bind λy3=>(g31 m ([b,d]:LI)).bind λy4=>(g23 m y3.1 y4.1).bind λy5=>some ((y5.1.1,y5.1.2.1,()),((),(),()))
def g62 (m:Nat) (a:Int):Option t81:=some ((qo .u64 a 9223372036854775808) !=0,((),()))
def g33 (m:Nat) (a:Int):Option tB2:=(g62 m a).bind λy1=>bif y1.1 then some (wI (0-(wI (Zo .u64 a 9223372036854775808))),((),()))else some (wI a,((),()))
def g13 (m:Nat) (a:Int) (b:Int):Option tP1:=(g26 m a).bind λy1=>bif y1.1 then some ((0,false,()),((),(),()))else (g26 m b).bind λy2=>bif y2.1 then some ((0,false,()),((),(),()))else (g33 m a).bind λy3=>(g33 m b).bind λy4=>bif decide (y3.1<y4.1)then some (((-1),true,()),((),(),()))else (g33 m a).bind λy5=>(g33 m b).bind λy6=>bif decide (y5.1>y6.1)then some ((1,true,()),((),(),()))else some ((0,true,()),((),(),()))
def g36 (m:Nat) (a:Int):Option tB2:=(g26 m a).bind λy1=>bif y1.1 then some (9221120237041090560,((),()))else some (Zw .u64 a 9223372036854775808,((),()))
def g67 (m:Nat) (a:Int):Option t81:=(g55 m a).bind λy1=>some (y1.1==0,((),()))
def g37 (m:Nat) (a:Int):Option tB2:=(g26 m a).bind λy1=>bif y1.1 then some (9221120237041090560,((),()))else bif a==9218868437227405312 then some (a,((),()))else (g67 m a).bind λy2=>bif y2.1 then some (1,((),()))else (g62 m a).bind λy3=>bif y3.1 then some (wJ (a-1),((),()))else some (wJ (a+1),((),()))
def g15 (m:Nat) (a:Int):Option tB2:=(g36 m a).bind λy1=>(g37 m y1.1).bind λy2=>(g36 m y2.1).bind λy3=>some (y3.1,((),()))
def g34 (m:Nat) (a:Int) (b:Int) (c:LI) (d:LI) (f:LI) (h:Int) (i:Bool):Option ti1:=(g27 m a b c d f).bind λy1=>bif y1.1 !=0 then some (y1.1,((),(),(),()))else bif a !=b then some (5,((),(),(),()))else bif decide (a>16)then some (6,((),(),(),()))else (g63 m h).bind λy2=>bif y2.1==3 then some (4,((),(),(),()))else bif !i then (g21 m h).bind λy3=>bif !y3.1 then some (4,((),(),(),()))else some (0,((),(),(),()))else some (0,((),(),(),()))
def g152 (m:Nat) (a:Bool) (b:Bool) (c:LI) (d:Int):Option tM1:=(g89 m a b c d).bind λy1=>bif y1.1.2.1 then (g88 m y1.1.1.2.1 y1.1.1.2.2.1).bind λy2=>some ((y1.1.1.1,y2.1.1,y2.1.2.1,y1.1.1.2.2.2.1,()),((),()))else some ((y1.1.1.1,y1.1.1.2.1,y1.1.1.2.2.1,y1.1.1.2.2.2.1,()),((),()))
def g106 (m:Nat) (a:Bool) (b:Bool) (c:LI) (d:Int) (f:Bool) (h:Bool) (i:LI) (j:Int):Option tG1:=(g152 m f h i j).bind λy1=>(g50 m a b c d y1.1.1 y1.1.2.1 y1.1.2.2.1 y1.1.2.2.2.1).bind λy2=>some ((y2.1.1,y2.1.2.1,y2.1.2.2.1,y2.1.2.2.2.1,()),((),(),()))
def g66L3 (m:Nat):Nat->Int->tN1->Int->Int->Option tA1
 |0,_,_,_,_=>none
 |n+1,a,b,c,d=>bif decide (d<c)then if 0<=d/\d<(b.length:Int)then if 0<=d/\d<(b.length:Int)then if 0<=d/\d<((b.getD d.toNat ([]:List tt1)).length:Int)then (g51 m a).bind λy1=>(g106 m ((b.getD d.toNat ([]:List tt1)).getD d.toNat qz).1 ((b.getD d.toNat ([]:List tt1)).getD d.toNat qz).2.1.1 ((b.getD d.toNat ([]:List tt1)).getD d.toNat qz).2.1.2 ((b.getD d.toNat ([]:List tt1)).getD d.toNat qz).2.2 y1.1.1 y1.1.2.1 y1.1.2.2.1 y1.1.2.2.2.1).bind λy2=>if 0<=d/\d<((b.getD d.toNat ([]:List tt1)).length:Int)then g66L3 m n a (b.set d.toNat ((b.getD d.toNat ([]:List tt1)).set d.toNat (y2.1.1,((y2.1.2.1,y2.1.2.2.1),y2.1.2.2.2.1)))) c (wI (d+1))else none else none else none else none else some (.inl (b,()))
def g66L2 (m:Nat):Nat->Int->Int->Int->LI->LI->LI->tN1->Int->Int->Int->Int->Option ((Int×to1×tN1×Int×Int×Unit)⊕Empty)
 |0,_,_,_,_,_,_,_,_,_,_,_=>none
 |n+1,a,b,c,d,f,h,i,j,k,l,o=>if 0<=(wI (j+1))/\(wI (j+1))<(d.length:Int)then bif decide (k<(d.getD (wI (j+1)).toNat 0))then if 0<=k/\k<(f.length:Int)then bif decide ((f.getD k.toNat 0)>=j)then if 0<=(f.getD k.toNat 0)/\(f.getD k.toNat 0)<(i.length:Int)then if 0<=j/\j<(i.length:Int)then if 0<=k/\k<(h.length:Int)then (g51 m (h.getD k.toNat 0)).bind λy1=>if 0<=k/\k<(h.length:Int)then (g51 m (h.getD k.toNat 0)).bind λy2=>if 0<=j/\j<((i.getD (f.getD k.toNat 0).toNat ([]:List tt1)).length:Int)then if 0<=(f.getD k.toNat 0)/\(f.getD k.toNat 0)<(((i.set (f.getD k.toNat 0).toNat ((i.getD (f.getD k.toNat 0).toNat ([]:List tt1)).set j.toNat (y1.1.1,((y1.1.2.1,y1.1.2.2.1),y1.1.2.2.2.1)))).getD j.toNat ([]:List tt1)).length:Int)then g66L2 m n a b c d f h ((i.set (f.getD k.toNat 0).toNat ((i.getD (f.getD k.toNat 0).toNat ([]:List tt1)).set j.toNat (y1.1.1,((y1.1.2.1,y1.1.2.2.1),y1.1.2.2.2.1)))).set j.toNat (((i.set (f.getD k.toNat 0).toNat ((i.getD (f.getD k.toNat 0).toNat ([]:List tt1)).set j.toNat (y1.1.1,((y1.1.2.1,y1.1.2.2.1),y1.1.2.2.2.1)))).getD j.toNat ([]:List tt1)).set (f.getD k.toNat 0).toNat (y2.1.1,((y2.1.2.1,y2.1.2.2.1),y2.1.2.2.2.1)))) j (wI (k+1)) l o else none else none else none else none else none else none else g66L2 m n a b c d f h i j (wI (k+1)) l o else none else some (.inl (a,(b,c,d,f,h,()),i,l,o,()))else none
def g66L1 (m:Nat):Nat->Int->Int->Int->LI->LI->LI->tN1->Int->Int->Option ((Int×tN1×Unit)⊕Empty)
 |0,_,_,_,_,_,_,_,_,_=>none
 |n+1,a,b,c,d,f,h,i,j,k=>bif decide (k<j)then if 0<=k/\k<(d.length:Int)then (g66L2 m m a b c d f h i k (d.getD k.toNat 0) j k).bind λy1=>match y1 with
   | .inl z2=>g66L1 m n z2.1 z2.2.1.1 z2.2.1.2.1 z2.2.1.2.2.1 z2.2.1.2.2.2.1 z2.2.1.2.2.2.2.1 z2.2.2.1 z2.2.2.2.1 (wI (z2.2.2.2.2.1+1))
   | .inr e=>e.elim else none else some (.inl (a,i,()))
def g66L0 (m:Nat):Nat->Int->Int->Int->LI->LI->LI->tN1->Int->Int->Option ((Int×to1×tN1×Unit)⊕Empty)
 |0,_,_,_,_,_,_,_,_,_=>none
 |n+1,a,b,c,d,f,h,i,j,k=>bif decide (k<j)then if 0<=c/\c<=c/\c<=1073741824 then if 0<=k/\k<(i.length:Int)then g66L0 m n a b c d f h (i.set k.toNat (List.replicate c.toNat (qz:Bool×tL2×Int))) j (wI (k+1))else none else none else some (.inl (a,(b,c,d,f,h,()),i,()))
def g66 (m:Nat) (a:Int) (b:Int) (c:LI) (d:LI) (f:LI) (h:Int):Option (tN1×Unit×Unit×Unit):=if 0<=a/\a<=a/\a<=1073741824 then (g66L0 m m h a b c d f (List.replicate a.toNat ([]:List tt1)) ((List.replicate a.toNat ([]:List tt1)).length:Int) 0).bind λy1=>match y1 with
 | .inl z2=>(g66L1 m m z2.1 z2.2.1.1 z2.2.1.2.1 z2.2.1.2.2.1 z2.2.1.2.2.2.1 z2.2.1.2.2.2.2.1 z2.2.2.1 z2.2.1.2.1 0).bind λy3=>match y3 with
  | .inl z4=>(g66L3 m m z4.1 z4.2.1 (z4.2.1.length:Int) 0).bind λy5=>match y5 with
   | .inl z6=>some (z6.1,((),(),()))
   | .inr e=>e.elim
  | .inr e=>e.elim
 | .inr e=>e.elim else none
def g104 (m:Nat) (a:Bool) (b:Bool) (c:LI) (d:Int) (f:Int):Option tG1:=(g89 m a b c d).bind λy1=>bif !y1.1.2.1 then (g82 m).bind λy2=>some ((y2.1.1,y2.1.2.1,y2.1.2.2.1,y2.1.2.2.2.1,()),((),(),()))else (g84 m y1.1.1.2.1 y1.1.1.2.2.1 (wI (y1.1.1.2.2.2.1+(if(-262144)>(if 262144<f then 262144 else f)then(-262144)else(if 262144<f then 262144 else f))))).bind λy3=>some ((y3.1.1,y3.1.2.1,y3.1.2.2.1,y3.1.2.2.2.1,()),((),(),()))
def g103 (m:Nat) (a:Bool) (b:Bool) (c:LI) (d:Int):Option ((tC2×Bool×Unit)×Unit×Unit):=(g89 m a b c d).bind λy1=>bif !y1.1.2.1 then some (((false,[],()),false,()),((),()))else (g151 m y1.1.1.2.1 y1.1.1.2.2.1 y1.1.1.2.2.2.1).bind λy2=>some (((y2.1.1.1,y2.1.1.2.1,()),true,()),((),()))
def g65L3 (m:Nat):Nat->Int->tm1->Int->tN1->Int->Int->tf1->Int->Int->Option ((Int×tm1×tN1×Int×Int×Unit)⊕Empty)
 |0,_,_,_,_,_,_,_,_,_=>none
 |n+1,a,b,c,d,f,h,i,j,k=>bif decide (k<j)then if 0<=k/\k<(i.length:Int)then (g104 m (i.getD k.toNat qz).1 (i.getD k.toNat qz).2.1.1 (i.getD k.toNat qz).2.1.2 (i.getD k.toNat qz).2.2 (wI (0-a))).bind λy1=>(g103 m y1.1.1 y1.1.2.1 y1.1.2.2.1 y1.1.2.2.2.1).bind λy2=>if 0<=c/\c<(b.length:Int)then (g105 m y2.1.1.1 y2.1.1.2.1).bind λy3=>if(b.getD c.toNat ([]:List tL2)).length+([(y3.1.1,y3.1.2.1)]:List tL2).length<=1073741824 then if 0<=c/\c<(b.length:Int)then if c.toNat=c.toNat then g65L3 m n a (b.set c.toNat ((b.getD c.toNat ([]:List tL2))++([(y3.1.1,y3.1.2.1)]:List tL2))) c d f h i j (wI (k+1))else none else none else none else none else none else some (.inl (a,b,d,f,h,()))
def g65L2 (m:Nat):Nat->Int->tm1->tN1->Int->Int->Option tI1
 |0,_,_,_,_,_=>none
 |n+1,a,b,c,d,f=>bif decide (f<d)then if 0<=f/\f<(c.length:Int)then (g65L3 m m a b f c d f (c.getD f.toNat ([]:List tt1)) ((c.getD f.toNat ([]:List tt1)).length:Int) 0).bind λy1=>match y1 with
   | .inl z2=>g65L2 m n z2.1 z2.2.1 z2.2.2.1 z2.2.2.2.1 (wI (z2.2.2.2.2.1+1))
   | .inr e=>e.elim else none else some (.inl (b,()))
def g65L1 (m:Nat):Nat->tN1->Int->tN1->Int->Int->tf1->Int->Int->Option ((tN1×Int×tN1×Int×Int×Unit)⊕Empty)
 |0,_,_,_,_,_,_,_,_=>none
 |n+1,a,b,c,d,f,h,i,j=>bif decide (j<i)then if 0<=j/\j<(h.length:Int)then (g92 m (h.getD j.toNat qz).1 (h.getD j.toNat qz).2.1.1 (h.getD j.toNat qz).2.1.2 (h.getD j.toNat qz).2.2).bind λy1=>(g52 m y1.1.1 y1.1.2.1 y1.1.2.2.1 y1.1.2.2.2.1).bind λy2=>bif y2.1 !=0 then g65L1 m n a (if y1.1.2.2.2.1<b then y1.1.2.2.2.1 else b) c d f h i (wI (j+1))else g65L1 m n a b c d f h i (wI (j+1))else none else some (.inl (a,b,c,d,f,()))
def g65L0 (m:Nat):Nat->tN1->Int->tN1->Int->Int->Option ((tN1×Int×Unit)⊕Empty)
 |0,_,_,_,_,_=>none
 |n+1,a,b,c,d,f=>bif decide (f<d)then if 0<=f/\f<(c.length:Int)then (g65L1 m m a b c d f (c.getD f.toNat ([]:List tt1)) ((c.getD f.toNat ([]:List tt1)).length:Int) 0).bind λy1=>match y1 with
   | .inl z2=>g65L0 m n z2.1 z2.2.1 z2.2.2.1 z2.2.2.2.1 (wI (z2.2.2.2.2.1+1))
   | .inr e=>e.elim else none else some (.inl (a,b,()))
def g65 (m:Nat) (a:List tf1):Option (tm1×Unit×Unit):=(g65L0 m m a 0 a (a.length:Int) 0).bind λy1=>match y1 with
 | .inl z2=>if 0<=(z2.1.length:Int)/\(z2.1.length:Int)<=(z2.1.length:Int)/\(z2.1.length:Int)<=1073741824 then (g65L2 m m z2.2.1 (List.replicate (z2.1.length:Int).toNat ([]:List tL2)) z2.1 (z2.1.length:Int) 0).bind λy3=>match y3 with
  | .inl z4=>some (z4.1,((),()))
  | .inr e=>e.elim else none
 | .inr e=>e.elim
def g148 (m:Nat) (a:List tA2):Option tB2:=bif (a.length:Int)==0 then some (0,((),()))else if(0:Int)<=0/\0<(a.length:Int)then some (((a.getD 0 ([]:List tL2)).length:Int),((),()))else none
def g191 (m:Nat) (a:List tL2) (b:LI×Nat):Option ts1:=some ((a.length:Int) !=(b.1.getD b.2 0),((),(),()))
def g214L0 (m:Nat):Nat->tm1->(LI×Nat)->Int->Int->Option tn1
 |0,_,_,_,_=>none
 |n+1,a,b,c,d=>bif decide (d<c)then if 0<=d/\d<(a.length:Int)then (g191 m (a.getD d.toNat ([]:List tL2)) (b.1,b.2)).bind λy1=>bif y1.1 then some (.inl (d,()))else g214L0 m n a (b.1,b.2) c (wI (d+1))else none else some (.inr (.inl ()))
def g214 (m:Nat) (a:List tA2) (b:LI×Nat):Option tw1:=(g214L0 m m a (b.1,b.2) (a.length:Int) 0).bind λy1=>match y1 with
 | .inl z2=>some (z2.1,((),(),()))
 | .inr (.inl z3)=>some ((-1),((),(),()))
 | .inr (.inr e)=>e.elim
def g190 (m:Nat) (a:List tA2) (b:LI×Nat):Option ts1:=(g214 m a (b.1,b.2)).bind λy1=>some (decide (y1.1>=0),((),(),()))
def g147 (m:Nat) (a:List tA2):Option tB2:=(g148 m a).bind λy1=>(g190 m a ([y1.1],0)).bind λy2=>bif y2.1 then some (5,((),()))else bif decide ((a.length:Int)>16)then some (6,((),()))else bif decide (([y1.1].getD 0 0)>16)then some (6,((),()))else some (0,((),()))
def g99 (m:Nat) (a:List tA2):Option tB2:=(g147 m a).bind λy1=>bif y1.1==0 then (g148 m a).bind λy2=>bif (a.length:Int) !=y2.1 then some (5,((),()))else some (y1.1,((),()))else some (y1.1,((),()))
def g102L1 (m:Nat):Nat->tA2->tm1->Int->tA2->tm1->Int->Int->tA2->Int->Int->Option ((tA2×tm1×Int×tA2×tm1×Int×Int×Unit)⊕Empty)
 |0,_,_,_,_,_,_,_,_,_,_=>none
 |n+1,a,b,c,d,f,h,i,j,k,l=>bif decide (l<k)then if 0<=l/\l<(j.length:Int)then (g105 m (j.getD l.toNat (false,[])).1 (j.getD l.toNat (false,[])).2).bind λy1=>if d.length+([(y1.1.1,y1.1.2.1)]:List tL2).length<=1073741824 then g102L1 m n a b c (d++([(y1.1.1,y1.1.2.1)]:List tL2)) f h i j k (wI (l+1))else none else none else some (.inl (a,b,c,d,f,h,i,()))
def g102L0 (m:Nat):Nat->tA2->tm1->tm1->Int->Int->Option tI1
 |0,_,_,_,_,_=>none
 |n+1,a,b,c,d,f=>bif decide (f<d)then if 0<=f/\f<(c.length:Int)then (g102L1 m m a b f ([]:List tL2) c d f (c.getD f.toNat ([]:List tL2)) ((c.getD f.toNat ([]:List tL2)).length:Int) 0).bind λy1=>match y1 with
   | .inl z2=>bif decide (z2.2.2.1<(z2.1.length:Int))then if 0<=z2.2.2.1/\z2.2.2.1<(z2.1.length:Int)then (g105 m (z2.1.getD z2.2.2.1.toNat (false,[])).1 (z2.1.getD z2.2.2.1.toNat (false,[])).2).bind λy3=>if z2.2.2.2.1.length+([(y3.1.1,y3.1.2.1)]:List tL2).length<=1073741824 then if 0<([z2.2.2.2.1++([(y3.1.1,y3.1.2.1)]:List tL2)]:List tA2).length/\z2.2.1.length+([z2.2.2.2.1++([(y3.1.1,y3.1.2.1)]:List tL2)]:List tA2).length<=1073741824 then g102L0 m n z2.1 (z2.2.1++([z2.2.2.2.1++([(y3.1.1,y3.1.2.1)]:List tL2)]:List tA2)) z2.2.2.2.2.1 z2.2.2.2.2.2.1 (wI (z2.2.2.2.2.2.2.1+1))else none else none else none else if 0<([z2.2.2.2.1]:List tA2).length/\z2.2.1.length+([z2.2.2.2.1]:List tA2).length<=1073741824 then g102L0 m n z2.1 (z2.2.1++([z2.2.2.2.1]:List tA2)) z2.2.2.2.2.1 z2.2.2.2.2.2.1 (wI (z2.2.2.2.2.2.2.1+1))else none
   | .inr e=>e.elim else none else some (.inl (b,()))
def g102 (m:Nat) (a:List tA2) (b:List tL2):Option tH1:=(g102L0 m m b ([]:List tA2) a (a.length:Int) 0).bind λy1=>match y1 with
 | .inl z2=>some (z2.1,((),(),()))
 | .inr e=>e.elim
def g204L1 (m:Nat):Nat->LI->LI->Int->Int->Int->LI->Int->Int->LI->Int->Int->Option ((LI×LI×Int×Int×LI×Int×Int×Unit)⊕Empty)
 |0,_,_,_,_,_,_,_,_,_,_,_=>none
 |n+1,a,b,c,d,f,h,i,j,k,l,o=>bif decide (o<l)then if 0<=o/\o<(k.length:Int)then if 0<=(wI (c+o))/\(wI (c+o))<(b.length:Int)then if 0<=(wI (c+o))/\(wI (c+o))<(b.length:Int)then g204L1 m n a (b.set (0+(wI (c+o)).toNat) (wK (qo .u64 (wJ ((wJ ((wJ ((wJ d)*(wJ (k.getD o.toNat 0))))+(wJ (b.getD (0+(wI (c+o)).toNat) 0))))+f)) 4294967295))) c d (shr_ .u64 (wJ ((wJ ((wJ ((wJ d)*(wJ (k.getD o.toNat 0))))+(wJ (b.getD (0+(wI (c+o)).toNat) 0))))+f)) 32) h i j k l (wI (o+1))else none else none else none else some (.inl (a,b,c,f,h,i,j,()))
def g204L0 (m:Nat):Nat->LI->LI->LI->Int->Int->Option tz1
 |0,_,_,_,_,_=>none
 |n+1,a,b,c,d,f=>bif decide (f<d)then if 0<=f/\f<(c.length:Int)then (g204L1 m m a b f (c.getD f.toNat 0) 0 c d f a (a.length:Int) 0).bind λy1=>match y1 with
   | .inl z2=>if 0<=(wI (z2.2.2.1+(z2.1.length:Int)))/\(wI (z2.2.2.1+(z2.1.length:Int)))<(z2.2.1.length:Int)then g204L0 m n z2.1 (z2.2.1.set (0+(wI (z2.2.2.1+(z2.1.length:Int))).toNat) (wK z2.2.2.2.1)) z2.2.2.2.2.1 z2.2.2.2.2.2.1 (wI (z2.2.2.2.2.2.2.1+1))else none
   | .inr e=>e.elim else none else some (.inl (b,()))
def g204 (m:Nat) (a:LI) (b:LI):Option tx1:=bif (a.length:Int)==0 then some ([],((),(),()))else bif (b.length:Int)==0 then some ([],((),(),()))else if 0<=(wI ((a.length:Int)+(b.length:Int)))/\(wI ((a.length:Int)+(b.length:Int)))<=(wI ((a.length:Int)+(b.length:Int)))/\(wI ((a.length:Int)+(b.length:Int)))<=1073741824 then (g204L0 m m b (List.replicate (wI ((a.length:Int)+(b.length:Int))).toNat (0:Int)) a (a.length:Int) 0).bind λy1=>match y1 with
   | .inl z2=>(g132 m z2.1).bind λy3=>some (y3.1,((),(),()))
   | .inr e=>e.elim else none
def g177 (m:Nat) (a:Bool) (b:LI) (c:Bool) (d:LI):Option tU1:=(g132 m b).bind λy1=>(g132 m d).bind λy2=>(g204 m y1.1 y2.1).bind λy3=>(g133 m (!(a==c)) y3.1).bind λy4=>some ((y4.1.1,y4.1.2.1,()),((),(),()))
def g149L2 (m:Nat):Nat->tm1->tm1->tA2->tA2->Int->Bool->LI->tm1->Int->Int->Int->Int->tA2->Int->Int->Option ((tm1×tm1×tA2×tA2×tC2×tm1×Int×Int×Int×Int×Unit)⊕Empty)
 |0,_,_,_,_,_,_,_,_,_,_,_,_,_,_,_=>none
 |n+1,a,b,c,d,f,h,i,j,k,l,o,p,q,r,s=>bif decide (s<r)then if 0<=s/\s<(q.length:Int)then if 0<=s/\s<(a.length:Int)then if 0<=f/\f<((a.getD s.toNat ([]:List tL2)).length:Int)then (g177 m (q.getD s.toNat (false,[])).1 (q.getD s.toNat (false,[])).2 ((a.getD s.toNat ([]:List tL2)).getD f.toNat (false,[])).1 ((a.getD s.toNat ([]:List tL2)).getD f.toNat (false,[])).2).bind λy1=>(g85 m h i y1.1.1 y1.1.2.1).bind λy2=>g149L2 m n a b c d f y2.1.1 y2.1.2.1 j k l o p q r (wI (s+1))else none else none else none else some (.inl (a,b,c,d,(h,i,()),j,k,l,o,p,()))
def g149L1 (m:Nat):Nat->tm1->tm1->tA2->tA2->tm1->Int->Int->Int->Int->Option ((tm1×tm1×tA2×tm1×Int×Int×Unit)⊕Empty)
 |0,_,_,_,_,_,_,_,_,_=>none
 |n+1,a,b,c,d,f,h,i,j,k=>bif decide (k<j)then (g149L2 m m a b c d k false ([]:LI) f h i j k c (c.length:Int) 0).bind λy1=>match y1 with
   | .inl z2=>if z2.2.2.2.1.length+([(z2.2.2.2.2.1.1,z2.2.2.2.2.1.2.1)]:List tL2).length<=1073741824 then g149L1 m n z2.1 z2.2.1 z2.2.2.1 (z2.2.2.2.1++([(z2.2.2.2.2.1.1,z2.2.2.2.2.1.2.1)]:List tL2)) z2.2.2.2.2.2.1 z2.2.2.2.2.2.2.1 z2.2.2.2.2.2.2.2.1 z2.2.2.2.2.2.2.2.2.1 (wI (z2.2.2.2.2.2.2.2.2.2.1+1))else none
   | .inr e=>e.elim else some (.inl (a,b,d,f,h,i,()))
def g149L0 (m:Nat):Nat->tm1->tm1->tm1->Int->Int->Option tI1
 |0,_,_,_,_,_=>none
 |n+1,a,b,c,d,f=>bif decide (f<d)then if 0<=f/\f<(c.length:Int)then (g149L1 m m a b (c.getD f.toNat ([]:List tL2)) ([]:List tL2) c d f ((c.getD f.toNat ([]:List tL2)).length:Int) 0).bind λy1=>match y1 with
   | .inl z2=>if 0<([z2.2.2.1]:List tA2).length/\z2.2.1.length+([z2.2.2.1]:List tA2).length<=1073741824 then g149L0 m n z2.1 (z2.2.1++([z2.2.2.1]:List tA2)) z2.2.2.2.1 z2.2.2.2.2.1 (wI (z2.2.2.2.2.2.1+1))else none
   | .inr e=>e.elim else none else some (.inl (b,()))
def g149 (m:Nat) (a:List tA2) (b:List tA2):Option tH1:=(g149L0 m m b ([]:List tA2) a (a.length:Int) 0).bind λy1=>match y1 with
 | .inl z2=>some (z2.1,((),(),()))
 | .inr e=>e.elim
def g232L0 (m:Nat):Nat->LI->Int->LI->Int->Int->Option tr1
 |0,_,_,_,_,_=>none
 |n+1,a,b,c,d,f=>bif decide (f>=0)then if 0<=f/\f<(a.length:Int)then if(wJ b)≠0 then if 0<=f/\f<(c.length:Int)then if(wJ b)≠0 then g232L0 m n a b (c.set (0+f.toNat) (wK (wJ (Int.tdiv (b_or_ .u64 (shl_ .u64 d 32) (wJ (a.getD f.toNat 0))) (wJ b))))) (Int.tmod (b_or_ .u64 (shl_ .u64 d 32) (wJ (a.getD f.toNat 0))) (wJ b)) (wI (f-1))else none else none else none else none else some (.inl (c,d,()))
def g232 (m:Nat) (a:LI) (b:Int):Option tX1:=if 0<=(a.length:Int)/\(a.length:Int)<=(a.length:Int)/\(a.length:Int)<=1073741824 then (g232L0 m m a b (List.replicate (a.length:Int).toNat (0:Int)) 0 (wI ((a.length:Int)-1))).bind λy1=>match y1 with
 | .inl z2=>(g132 m z2.1).bind λy3=>some ((y3.1,wK z2.2.1,()),((),(),()))
 | .inr e=>e.elim else none
def g233 (m:Nat) (a:Int):Option tB2:=(g182 m a).bind λy1=>some (wI (32-y1.1),((),()))
def g234L2 (m:Nat):Nat->LI->Int->Int->Int->LI->Int->Int->Option tb1
 |0,_,_,_,_,_,_,_=>none
 |n+1,a,b,c,d,f,h,i=>bif decide (i<h)then if 0<=i/\i<(f.length:Int)then if 0<=i/\i<(a.length:Int)then if 0<=i/\i<(a.length:Int)then g234L2 m n (a.set (0+i.toNat) (wK (qo .u64 (wJ ((wJ ((wJ (a.getD (0+i.toNat) 0))+(wJ (f.getD i.toNat 0))))+d)) 4294967295))) b c (shr_ .u64 (wJ ((wJ ((wJ (a.getD (0+i.toNat) 0))+(wJ (f.getD i.toNat 0))))+d)) 32) f h (wI (i+1))else none else none else none else some (.inl (a,b,c,d,()))
def g234L1 (m:Nat):Nat->LI->LI->Int->Int->Int->Int->LI->Int->Int->Option ((LI×LI×Int×Int×Int×Int×Unit)⊕Empty)
 |0,_,_,_,_,_,_,_,_,_=>none
 |n+1,a,b,c,d,f,h,i,j,k=>bif decide (k<j)then if 0<=k/\k<(i.length:Int)then if 0<=k/\k<(a.length:Int)then if 0<=k/\k<(a.length:Int)then g234L1 m n (a.set (0+k.toNat) (wK (qo .u64 (wJ ((wJ ((wJ (a.getD (0+k.toNat) 0))-(qo .u64 (wJ ((wJ (d*(wJ (i.getD k.toNat 0))))+f)) 4294967295)))-h)) 4294967295))) b c d (shr_ .u64 (wJ ((wJ (d*(wJ (i.getD k.toNat 0))))+f)) 32) (qo .u64 (shr_ .u64 (wJ ((wJ ((wJ (a.getD (0+k.toNat) 0))-(qo .u64 (wJ ((wJ (d*(wJ (i.getD k.toNat 0))))+f)) 4294967295)))-h)) 32) 1) i j (wI (k+1))else none else none else none else some (.inl (a,b,c,d,f,h,()))
def g234L0 (m:Nat):Nat->LI->LI->Int->Int->Int->Option ((LI×LI×Int×Int×Unit)⊕Empty)
 |0,_,_,_,_,_=>none
 |n+1,a,b,c,d,f=>bif decide (d>4294967295)then if 0<=(wI (c-1))/\(wI (c-1))<(b.length:Int)then bif decide ((wJ (f+(wJ (b.getD (wI (c-1)).toNat 0))))>4294967295)then some (.inl (a,b,c,wJ (d-1),()))else g234L0 m n a b c (wJ (d-1)) (wJ (f+(wJ (b.getD (wI (c-1)).toNat 0))))else none else if 0<=(wI (c-2))/\(wI (c-2))<(b.length:Int)then if 0<=(wI (c-2))/\(wI (c-2))<(a.length:Int)then bif decide ((wJ (d*(wJ (b.getD (wI (c-2)).toNat 0))))>(b_or_ .u64 (shl_ .u64 f 32) (wJ (a.getD (0+(wI (c-2)).toNat) 0))))then if 0<=(wI (c-1))/\(wI (c-1))<(b.length:Int)then bif decide ((wJ (f+(wJ (b.getD (wI (c-1)).toNat 0))))>4294967295)then some (.inl (a,b,c,wJ (d-1),()))else g234L0 m n a b c (wJ (d-1)) (wJ (f+(wJ (b.getD (wI (c-1)).toNat 0))))else none else some (.inl (a,b,c,d,()))else none else none
def g234 (m:Nat) (a:LI) (b:LI):Option (Int×LI×Unit×Unit):=if 0<=(b.length:Int)/\(b.length:Int)<(a.length:Int)then if 0<=(wI ((b.length:Int)-1))/\(wI ((b.length:Int)-1))<(a.length:Int)then if 0<=(wI ((b.length:Int)-1))/\(wI ((b.length:Int)-1))<(b.length:Int)then if(wJ (b.getD (wI ((b.length:Int)-1)).toNat 0))≠0 then if 0<=(wI ((b.length:Int)-1))/\(wI ((b.length:Int)-1))<(b.length:Int)then if(wJ (b.getD (wI ((b.length:Int)-1)).toNat 0))≠0 then (g234L0 m m a b (b.length:Int) (wJ (Int.tdiv (b_or_ .u64 (shl_ .u64 (wJ (a.getD (0+(b.length:Int).toNat) 0)) 32) (wJ (a.getD (0+(wI ((b.length:Int)-1)).toNat) 0))) (wJ (b.getD (wI ((b.length:Int)-1)).toNat 0)))) (Int.tmod (b_or_ .u64 (shl_ .u64 (wJ (a.getD (0+(b.length:Int).toNat) 0)) 32) (wJ (a.getD (0+(wI ((b.length:Int)-1)).toNat) 0))) (wJ (b.getD (wI ((b.length:Int)-1)).toNat 0)))).bind λy1=>match y1 with
 | .inl z2=>(g234L1 m m z2.1 z2.2.1 z2.2.2.1 z2.2.2.2.1 0 0 z2.2.1 (z2.2.1.length:Int) 0).bind λy3=>match y3 with
  | .inl z4=>if 0<=z4.2.2.1/\z4.2.2.1<(z4.1.length:Int)then if 0<=z4.2.2.1/\z4.2.2.1<(z4.1.length:Int)then bif (qo .u64 (shr_ .u64 (wJ ((wJ ((wJ (z4.1.getD (0+z4.2.2.1.toNat) 0))-z4.2.2.2.2.1))-z4.2.2.2.2.2.1)) 32) 1)==0 then some (wK z4.2.2.2.1,(z4.1.set (0+z4.2.2.1.toNat) (wK (qo .u64 (wJ ((wJ ((wJ (z4.1.getD (0+z4.2.2.1.toNat) 0))-z4.2.2.2.2.1))-z4.2.2.2.2.2.1)) 4294967295)),(),()))else (g234L2 m m (z4.1.set (0+z4.2.2.1.toNat) (wK (qo .u64 (wJ ((wJ ((wJ (z4.1.getD (0+z4.2.2.1.toNat) 0))-z4.2.2.2.2.1))-z4.2.2.2.2.2.1)) 4294967295))) z4.2.2.1 z4.2.2.2.1 0 z4.2.1 (z4.2.1.length:Int) 0).bind λy5=>match y5 with
    | .inl z6=>if 0<=z6.2.1/\z6.2.1<(z6.1.length:Int)then if 0<=z6.2.1/\z6.2.1<(z6.1.length:Int)then some (wK (wJ (z6.2.2.1-1)),(z6.1.set (0+z6.2.1.toNat) (wK ((z6.1.getD (0+z6.2.1.toNat) 0)+(wK z6.2.2.2.1))),(),()))else none else none
    | .inr e=>e.elim else none else none
  | .inr e=>e.elim
 | .inr e=>e.elim else none else none else none else none else none else none
def g215L0 (m:Nat):Nat->LI->Int->LI->LI->Int->Int->Option ((LI×Int×LI×Int×Unit)⊕Empty)
 |0,_,_,_,_,_,_=>none
 |n+1,a,b,c,d,f,h=>bif decide (h>=0)then if 0<=h/\h<=(wI ((wI (h+f))+1))/\(wI ((wI (h+f))+1))<=(d.length:Int)then if 0<((wI ((wI (h+f))+1)).toNat-h.toNat)then (g234 m ((d.drop (0+h.toNat)).take ((wI ((wI (h+f))+1)).toNat-h.toNat)) c).bind λy1=>if 0<=h/\h<(a.length:Int)then g215L0 m n (a.set (0+h.toNat) y1.1) b c (d.take (0+h.toNat)++(y1.2.1++d.drop ((0+h.toNat)+((wI ((wI (h+f))+1)).toNat-h.toNat)))) f (wI (h-1))else none else none else none else some (.inl (a,b,d,f,()))
def g215 (m:Nat) (a:LI) (b:LI):Option (tH2×Unit×Unit×Unit):=(g135 m a b).bind λy1=>bif decide (y1.1<0)then (g137 m a).bind λy2=>some (([],y2.1,()),((),(),()))else bif (b.length:Int)==1 then if(0:Int)<=0/\0<(b.length:Int)then (g232 m a (b.getD 0 0)).bind λy3=>(g132 m ([y3.1.2.1]:LI)).bind λy4=>some ((y3.1.1,y4.1,()),((),(),()))else none else if 0<=(wI ((b.length:Int)-1))/\(wI ((b.length:Int)-1))<(b.length:Int)then (g233 m (b.getD (wI ((b.length:Int)-1)).toNat 0)).bind λy5=>(g193 m b y5.1).bind λy6=>if 0<=(wI ((a.length:Int)+1))/\(wI ((a.length:Int)+1))<=(wI ((a.length:Int)+1))/\(wI ((a.length:Int)+1))<=1073741824 then (g193 m a y5.1).bind λy7=>if 0<y7.1.length/\0<(List.replicate (wI ((a.length:Int)+1)).toNat (0:Int)).length then if 0<=(wI (((y7.1.take (List.replicate (wI ((a.length:Int)+1)).toNat (0:Int)).length++(List.replicate (wI ((a.length:Int)+1)).toNat (0:Int)).drop y7.1.length).length:Int)-(y6.1.length:Int)))/\(wI (((y7.1.take (List.replicate (wI ((a.length:Int)+1)).toNat (0:Int)).length++(List.replicate (wI ((a.length:Int)+1)).toNat (0:Int)).drop y7.1.length).length:Int)-(y6.1.length:Int)))<=(wI (((y7.1.take (List.replicate (wI ((a.length:Int)+1)).toNat (0:Int)).length++(List.replicate (wI ((a.length:Int)+1)).toNat (0:Int)).drop y7.1.length).length:Int)-(y6.1.length:Int)))/\(wI (((y7.1.take (List.replicate (wI ((a.length:Int)+1)).toNat (0:Int)).length++(List.replicate (wI ((a.length:Int)+1)).toNat (0:Int)).drop y7.1.length).length:Int)-(y6.1.length:Int)))<=1073741824 then (g215L0 m m (List.replicate (wI (((y7.1.take (List.replicate (wI ((a.length:Int)+1)).toNat (0:Int)).length++(List.replicate (wI ((a.length:Int)+1)).toNat (0:Int)).drop y7.1.length).length:Int)-(y6.1.length:Int))).toNat (0:Int)) y5.1 y6.1 (y7.1.take (List.replicate (wI ((a.length:Int)+1)).toNat (0:Int)).length++(List.replicate (wI ((a.length:Int)+1)).toNat (0:Int)).drop y7.1.length) (y6.1.length:Int) (wI (((List.replicate (wI (((y7.1.take (List.replicate (wI ((a.length:Int)+1)).toNat (0:Int)).length++(List.replicate (wI ((a.length:Int)+1)).toNat (0:Int)).drop y7.1.length).length:Int)-(y6.1.length:Int))).toNat (0:Int)).length:Int)-1))).bind λy8=>match y8 with
   | .inl z9=>if(0:Int)<=0/\0<=z9.2.2.2.1/\z9.2.2.2.1<=(z9.2.2.1.length:Int)then (g132 m (z9.2.2.1.take z9.2.2.2.1.toNat)).bind λy10=>(g194 m y10.1 z9.2.1).bind λy11=>(g132 m z9.1).bind λy12=>some ((y12.1,y11.1.1,()),((),(),()))else none
   | .inr e=>e.elim else none else none else none else none
def g192 (m:Nat) (a:Bool) (b:LI) (c:Bool) (d:LI):Option tq:=(g132 m d).bind λy1=>bif (y1.1.length:Int)==0 then some (((false,[],()),(false,[],()),8,()),((),(),()))else (g132 m b).bind λy2=>(g215 m y2.1 y1.1).bind λy3=>bif a then bif decide ((y3.1.2.1.length:Int)>0)then (g134 m y3.1.1 ([1]:LI)).bind λy4=>(g136 m y1.1 y3.1.2.1).bind λy5=>(g133 m (!(a==c)) y4.1).bind λy6=>(g133 m false y5.1).bind λy7=>some (((y6.1.1,y6.1.2.1,()),(y7.1.1,y7.1.2.1,()),0,()),((),(),()))else (g133 m (!(a==c)) y3.1.1).bind λy8=>(g133 m false y3.1.2.1).bind λy9=>some (((y8.1.1,y8.1.2.1,()),(y9.1.1,y9.1.2.1,()),0,()),((),(),()))else (g133 m (!(a==c)) y3.1.1).bind λy10=>(g133 m false y3.1.2.1).bind λy11=>some (((y10.1.1,y10.1.2.1,()),(y11.1.1,y11.1.2.1,()),0,()),((),(),()))
def g150 (m:Nat) (a:Bool) (b:LI) (c:Bool) (d:LI):Option tE1:=(g192 m a b c d).bind λy1=>bif y1.1.2.2.1==0 then bif decide ((y1.1.2.1.2.1.length:Int)>0)then some (((false,[],()),10,()),((),(),()))else some (((y1.1.1.1,y1.1.1.2.1,()),y1.1.2.2.1,()),((),(),()))else some (((y1.1.1.1,y1.1.1.2.1,()),y1.1.2.2.1,()),((),(),()))
def g101L3 (m:Nat):Nat->tm1->Int->tA2->Int->tm1->Bool->LI->Int->Int->Option ((tm1×Int×tA2×Int×tm1×tC2×Unit)⊕Empty)
 |0,_,_,_,_,_,_,_,_,_=>none
 |n+1,a,b,c,d,f,h,i,j,k=>bif decide (k<j)then if 0<=k/\k<(f.length:Int)then if 0<=k/\k<((f.getD k.toNat ([]:List tL2)).length:Int)then (g85 m h i ((f.getD k.toNat ([]:List tL2)).getD k.toNat (false,[])).1 ((f.getD k.toNat ([]:List tL2)).getD k.toNat (false,[])).2).bind λy1=>g101L3 m n a b c d f y1.1.1 y1.1.2.1 j (wI (k+1))else none else none else some (.inl (a,b,c,d,f,(h,i,()),()))
def g101L2 (m:Nat):Nat->tm1->Int->tA2->tm1->Int->Int->Int->Option ((tm1×Int×tA2×tm1×Int×Unit)⊕Empty)
 |0,_,_,_,_,_,_,_=>none
 |n+1,a,b,c,d,f,h,i=>bif decide (i<h)then if 0<=i/\i<(d.length:Int)then if 0<=i/\i<(d.length:Int)then if 0<=i/\i<((d.getD i.toNat ([]:List tL2)).length:Int)then if 0<=(wI ((wI (b-f))+1))/\(wI ((wI (b-f))+1))<(c.length:Int)then (g85 m ((d.getD i.toNat ([]:List tL2)).getD i.toNat (false,[])).1 ((d.getD i.toNat ([]:List tL2)).getD i.toNat (false,[])).2 (c.getD (0+(wI ((wI (b-f))+1)).toNat) (false,[])).1 (c.getD (0+(wI ((wI (b-f))+1)).toNat) (false,[])).2).bind λy1=>if 0<=i/\i<((d.getD i.toNat ([]:List tL2)).length:Int)then g101L2 m n a b c (d.set i.toNat ((d.getD i.toNat ([]:List tL2)).set i.toNat (y1.1.1,y1.1.2.1))) f h (wI (i+1))else none else none else none else none else none else some (.inl (a,b,c,d,f,()))
def g101L1 (m:Nat):Nat->tm1->Int->tA2->tm1->Int->Option ((tA2×Unit)⊕Empty)
 |0,_,_,_,_,_=>none
 |n+1,a,b,c,d,f=>bif decide (f<=b)then (g101L2 m m a b c d f (d.length:Int) 0).bind λy1=>match y1 with
   | .inl z2=>(g149 m z2.1 z2.2.2.2.1).bind λy3=>(g101L3 m m z2.1 z2.2.1 z2.2.2.1 z2.2.2.2.2.1 y3.1 false ([]:LI) (y3.1.length:Int) 0).bind λy4=>match y4 with
    | .inl z5=>(g86 m z5.2.2.2.1).bind λy6=>(g150 m z5.2.2.2.2.2.1.1 z5.2.2.2.2.2.1.2.1 y6.1.1 y6.1.2.1).bind λy7=>(g88 m y7.1.1.1 y7.1.1.2.1).bind λy8=>if 0<=(wI (z5.2.1-z5.2.2.2.1))/\(wI (z5.2.1-z5.2.2.2.1))<(z5.2.2.1.length:Int)then g101L1 m n z5.1 z5.2.1 (z5.2.2.1.set (0+(wI (z5.2.1-z5.2.2.2.1)).toNat) (y8.1.1,y8.1.2.1)) z5.2.2.2.2.1 (wI (z5.2.2.2.1+1))else none
    | .inr e=>e.elim
   | .inr e=>e.elim else some (.inl (c,()))
def g101L0 (m:Nat):Nat->tm1->Int->tA2->tm1->Int->Int->Option ((tm1×Int×tA2×tm1×Unit)⊕Empty)
 |0,_,_,_,_,_,_=>none
 |n+1,a,b,c,d,f,h=>bif decide (h<f)then if 0<=b/\b<=b/\b<=1073741824 then if 0<=h/\h<(d.length:Int)then g101L0 m n a b c (d.set h.toNat (List.replicate b.toNat ((false,[]):Bool×LI))) f (wI (h+1))else none else none else some (.inl (a,b,c,d,()))
def g101 (m:Nat) (a:List tA2):Option (tA2×Unit×Unit):=if 0<=(wI ((a.length:Int)+1))/\(wI ((a.length:Int)+1))<=(wI ((a.length:Int)+1))/\(wI ((a.length:Int)+1))<=1073741824 then (g86 m 1).bind λy1=>if 0<=(a.length:Int)/\(a.length:Int)<((List.replicate (wI ((a.length:Int)+1)).toNat ((false,[]):Bool×LI)).length:Int)then if 0<=(a.length:Int)/\(a.length:Int)<=(a.length:Int)/\(a.length:Int)<=1073741824 then (g101L0 m m a (a.length:Int) ((List.replicate (wI ((a.length:Int)+1)).toNat ((false,[]):Bool×LI)).set (0+(a.length:Int).toNat) (y1.1.1,y1.1.2.1)) (List.replicate (a.length:Int).toNat ([]:List tL2)) ((List.replicate (a.length:Int).toNat ([]:List tL2)).length:Int) 0).bind λy2=>match y2 with
 | .inl z3=>(g101L1 m m z3.1 z3.2.1 z3.2.2.1 z3.2.2.2.1 1).bind λy4=>match y4 with
  | .inl z5=>some (z5.1,((),()))
  | .inr e=>e.elim
 | .inr e=>e.elim else none else none else none
def g64L3 (m:Nat):Nat->tm1->Int->Int->Int->tA2->Int->Int->Option (tK1⊕Empty)
 |0,_,_,_,_,_,_,_=>none
 |n+1,a,b,c,d,f,h,i=>bif decide (i<h)then if 0<=i/\i<(f.length:Int)then (g90 m (f.getD (0+i.toNat) (false,[])).1 (f.getD (0+i.toNat) (false,[])).2).bind λy1=>bif decide ((wI (y1.1*d))<0)then bif y1.1 !=0 then g64L3 m n a b (wI (c+1)) y1.1 f h (wI (i+1))else g64L3 m n a b (wI (c+1)) d f h (wI (i+1))else bif y1.1 !=0 then g64L3 m n a b c y1.1 f h (wI (i+1))else g64L3 m n a b c d f h (wI (i+1))else none else some (.inl (a,b,c,()))
def g64L2 (m:Nat):Nat->tm1->Int->Int->tA2->Option ((tm1×Int×Int×tA2×Unit)⊕Empty)
 |0,_,_,_,_=>none
 |n+1,a,b,c,d=>bif decide (b<(a.length:Int))then if 0<=b/\b<(d.length:Int)then (g90 m (d.getD (0+b.toNat) (false,[])).1 (d.getD (0+b.toNat) (false,[])).2).bind λy1=>bif y1.1==0 then g64L2 m n a (wI (b+1)) c d else some (.inl (a,b,c,d,()))else none else some (.inl (a,b,c,d,()))
def g64L1 (m:Nat):Nat->tm1->Int->Int->Int->tm1->Int->Int->tA2->Int->Int->Option (tq1⊕(tm1×Int×Int×tm1×Int×Int×Unit)⊕Empty)
 |0,_,_,_,_,_,_,_,_,_,_=>none
 |n+1,a,b,c,d,f,h,i,j,k,l=>bif decide (l<k)then if 0<=l/\l<(j.length:Int)then if 0<=l/\l<(a.length:Int)then if 0<=d/\d<((a.getD l.toNat ([]:List tL2)).length:Int)then (g100 m (j.getD l.toNat (false,[])).1 (j.getD l.toNat (false,[])).2 ((a.getD l.toNat ([]:List tL2)).getD d.toNat (false,[])).1 ((a.getD l.toNat ([]:List tL2)).getD d.toNat (false,[])).2).bind λy1=>bif y1.1 !=0 then some (.inl (0,0,0,80,()))else g64L1 m n a b c d f h i j k (wI (l+1))else none else none else none else some (.inr (.inl (a,b,c,f,h,i,())))
def g64L0 (m:Nat):Nat->tm1->Int->Int->tm1->Int->Int->Option (tq1⊕tK1⊕Empty)
 |0,_,_,_,_,_,_=>none
 |n+1,a,b,c,d,f,h=>bif decide (h<f)then if 0<=h/\h<(d.length:Int)then (g64L1 m m a b c h d f h (d.getD h.toNat ([]:List tL2)) ((d.getD h.toNat ([]:List tL2)).length:Int) 0).bind λy1=>match y1 with
   | .inl z2=>some (.inl (z2.1,z2.2.1,z2.2.2.1,z2.2.2.2.1,()))
   | .inr (.inl z3)=>g64L0 m n z3.1 z3.2.1 z3.2.2.1 z3.2.2.2.1 z3.2.2.2.2.1 (wI (z3.2.2.2.2.2.1+1))
   | .inr (.inr e)=>e.elim else none else some (.inr (.inl (a,b,c,())))
def g64 (m:Nat) (a:List tA2):Option (tq1×Unit×Unit):=(g99 m a).bind λy1=>bif y1.1 !=0 then some ((0,0,0,y1.1,()),((),()))else (g64L0 m m a 0 0 a (a.length:Int) 0).bind λy2=>match y2 with
  | .inl z3=>some ((z3.1,z3.2.1,z3.2.2.1,z3.2.2.2.1,()),((),()))
  | .inr (.inl z4)=>(g102 m z4.1 ([]:List tL2)).bind λy5=>(g101 m y5.1).bind λy6=>(g64L2 m m z4.1 z4.2.1 z4.2.2.1 y6.1).bind λy7=>match y7 with
   | .inl z8=>(g64L3 m m z8.1 z8.2.1 z8.2.2.1 0 z8.2.2.2.1 (z8.2.2.2.1.length:Int) 0).bind λy9=>match y9 with
    | .inl z10=>some ((wI ((wI ((z10.1.length:Int)-z10.2.1))-z10.2.2.1),z10.2.1,z10.2.2.1,0,()),((),()))
    | .inr e=>e.elim
   | .inr e=>e.elim
  | .inr (.inr e)=>e.elim
def g35 (m:Nat) (a:Int) (b:Int) (c:LI) (d:LI) (f:LI) (h:Int):Option (((Int×Int×Int×Unit)×Int×Unit)×Unit×Unit×Unit):=(g34 m a b c d f h false).bind λy1=>bif y1.1 !=0 then some (((0,0,0,()),y1.1,()),((),(),()))else (g66 m a b c d f h).bind λy2=>(g65 m y2.1).bind λy3=>(g64 m y3.1).bind λy4=>some (((y4.1.1,y4.1.2.1,y4.1.2.2.1,()),y4.1.2.2.2.1,()),((),(),()))
def g14 (m:Nat) (a:Int) (b:Int) (c:LI) (d:LI) (f:LI) (h:Int):Option tQ1:=(g34 m a b c d f h true).bind λy1=>bif y1.1 !=0 then some ((0,y1.1,()),((),(),()))else bif h==9218868437227405312 then some ((a,0,()),((),(),()))else bif h==18442240474082181120 then some ((0,0,()),((),(),()))else (g35 m a b c d f h).bind λy2=>some ((wI (y2.1.1.1+y2.1.1.2.1),y2.1.2.1,()),((),(),()))
def g153L0 (m:Nat):Nat->Int->Int->LI->LI->LI->LI->LI->LI->List Unit->tF2->tF2->Int->tJ1->Int->Option ((tX×(Unit×Unit)×tC1×Unit)⊕Empty)
 |0,_,_,_,_,_,_,_,_,_,_,_,_,_,_=>none
 |n+1,a,b,c,d,f,h,i,j,k,l,o,p,q,r=>if 0<=(wI (p+1))/\(wI (p+1))<(c.length:Int)then bif decide (r<(c.getD (wI (p+1)).toNat 0))then if 0<=r/\r<(d.length:Int)then if 0<=r/\r<(f.length:Int)then (g51 m (f.getD r.toNat 0)).bind λy1=>g153L0 m n a b c d f h i j k l o p (mPut q (d.getD r.toNat 0) ([(y1.1.1,((y1.1.2.1,y1.1.2.2.1),y1.1.2.2.2.1))]:List tt1)) (wI (r+1))else none else none else some (.inl ((a,b,c,d,f,h,i,j,k,l,o,()),((),()),(q,()),()))else none
def g153 (m:Nat) (a:Int) (b:Int) (c:LI) (d:LI) (f:LI) (h:LI) (i:LI) (j:LI) (k:List Unit) (l:List (LI×LI)) (o:List (LI×LI)) (p:Int):Option (tC1×tX×Unit×Unit):=if 0<=p/\p<(c.length:Int)then (g153L0 m m a b c d f h i j k l o p ([]:List tS1) (c.getD p.toNat 0)).bind λy1=>match y1 with
 | .inl z2=>some ((z2.2.2.1.1,()),((z2.1.1,z2.1.2.1,z2.1.2.2.1,z2.1.2.2.2.1,z2.1.2.2.2.2.1,z2.1.2.2.2.2.2.1,z2.1.2.2.2.2.2.2.1,z2.1.2.2.2.2.2.2.2.1,z2.1.2.2.2.2.2.2.2.2.1,z2.1.2.2.2.2.2.2.2.2.2.1,z2.1.2.2.2.2.2.2.2.2.2.2.1,()),(),()))
 | .inr e=>e.elim else none
def g175L1 (m:Nat):Nat->Bool->Bool->LI->Int->Int->Bool->LI->tf1->Int->Int->Option ((tp1×Int×tC2×Unit)⊕Empty)
 |0,_,_,_,_,_,_,_,_,_,_=>none
 |n+1,a,b,c,d,f,h,i,j,k,l=>bif decide (l<k)then if 0<=l/\l<(j.length:Int)then (g131 m (j.getD (0+l.toNat) qz).2.1.1 (j.getD (0+l.toNat) qz).2.1.2 (wI ((j.getD (0+l.toNat) qz).2.2-f))).bind λy1=>(g85 m h i y1.1.1 y1.1.2.1).bind λy2=>g175L1 m n a b c d f y2.1.1 y2.1.2.1 j k (wI (l+1))else none else some (.inl ((a,b,c,d,()),f,(h,i,()),()))
def g175L0 (m:Nat):Nat->Bool->Bool->LI->Int->tf1->Int->tf1->Int->Int->Option (tZ1⊕(tp1×tf1×Int×Unit)⊕Empty)
 |0,_,_,_,_,_,_,_,_,_=>none
 |n+1,a,b,c,d,f,h,i,j,k=>bif decide (k<j)then if 0<=k/\k<(i.length:Int)then (g89 m (i.getD k.toNat qz).1 (i.getD k.toNat qz).2.1.1 (i.getD k.toNat qz).2.1.2 (i.getD k.toNat qz).2.2).bind λy1=>bif !y1.1.2.1 then (g82 m).bind λy2=>some (.inl ((y2.1.1,y2.1.2.1,y2.1.2.2.1,y2.1.2.2.2.1,()),()))else if f.length+([(y1.1.1.1,((y1.1.1.2.1,y1.1.1.2.2.1),y1.1.1.2.2.2.1))]:List tt1).length<=1073741824 then g175L0 m n a b c d (f++([(y1.1.1.1,((y1.1.1.2.1,y1.1.1.2.2.1),y1.1.1.2.2.2.1))]:List tt1)) (if y1.1.1.2.2.2.1<h then y1.1.1.2.2.2.1 else h) i j (wI (k+1))else none else none else some (.inr (.inl ((a,b,c,d,()),f,h,())))
def g175 (m:Nat) (a:List tt1):Option tM1:=(g175L0 m m false false ([]:LI) 0 ([]:List tt1) 0 a (a.length:Int) 0).bind λy1=>match y1 with
 | .inl z2=>some ((z2.1.1,z2.1.2.1,z2.1.2.2.1,z2.1.2.2.2.1,()),((),()))
 | .inr (.inl z3)=>(g175L1 m m z3.1.1 z3.1.2.1 z3.1.2.2.1 z3.1.2.2.2.1 z3.2.2.1 false ([]:LI) z3.2.1 (z3.2.1.length:Int) 0).bind λy4=>match y4 with
  | .inl z5=>(g84 m z5.2.2.1.1 z5.2.2.1.2.1 z5.2.1).bind λy6=>some ((y6.1.1,y6.1.2.1,y6.1.2.2.1,y6.1.2.2.2.1,()),((),()))
  | .inr e=>e.elim
 | .inr (.inr e)=>e.elim
def g157 (m:Nat) (a:LI) (b:LI) (c:Int) (d:Int):Option (Unit×tH2×Unit×Unit×Unit):=if a.length+([c]:LI).length<=1073741824 then if b.length+([d]:LI).length<=1073741824 then some ((),((a++([c]:LI),b++([d]:LI),()),(),(),()))else none else none
def g154L0 (m:Nat):Nat->Int->Int->LI->LI->LI->LI->LI->LI->List Unit->tF2->tF2->tJ1->LI->LI->LI->LI->Int->Int->Option ((tX×tC1×tH2×Int×Unit)⊕(tX×tC1×tH2×tH2×Unit)⊕Empty)
 |0,_,_,_,_,_,_,_,_,_,_,_,_,_,_,_,_,_,_=>none
 |n+1,a,b,c,d,f,h,i,j,k,l,o,p,q,r,s,t,u,v=>bif decide (v<u)then if 0<=v/\v<(j.length:Int)then (g175 m ((mGet p (j.getD (0+v.toNat) 0)).getD ([]:List tt1))).bind λy1=>(g52 m y1.1.1 y1.1.2.1 y1.1.2.2.1 y1.1.2.2.2.1).bind λy2=>bif y2.1==0 then g154L0 m n a b c d f h i j k l o p q r s t u (wI (v+1))else (g54 m y1.1.1 y1.1.2.1 y1.1.2.2.1 y1.1.2.2.2.1 0).bind λy3=>(g21 m y3.1).bind λy4=>bif !y4.1 then some (.inl ((a,b,c,d,f,h,i,j,k,l,o,()),(p,()),(s,t,()),233,()))else (g157 m s t (j.getD (0+v.toNat) 0) y3.1).bind λy5=>if 0<=v/\v<(k.length:Int)then (g51 m y3.1).bind λy6=>none else none else none else some (.inr (.inl ((a,b,c,d,f,h,i,j,k,l,o,()),(p,()),(q,r,()),(s,t,()),())))
def g154 (m:Nat) (a:Int) (b:Int) (c:LI) (d:LI) (f:LI) (h:LI) (i:LI) (j:LI) (k:List Unit) (l:List (LI×LI)) (o:List (LI×LI)) (p:List tS1):Option ((tH2×Int×Unit)×tX×tC1×Unit):=(g154L0 m m a b c d f h i j k l o p ([]:LI) ([]:LI) ([]:LI) ([]:LI) (j.length:Int) 0).bind λy1=>match y1 with
 | .inl z2=>some (((z2.2.2.1.1,z2.2.2.1.2.1,()),z2.2.2.2.1,()),((z2.1.1,z2.1.2.1,z2.1.2.2.1,z2.1.2.2.2.1,z2.1.2.2.2.2.1,z2.1.2.2.2.2.2.1,z2.1.2.2.2.2.2.2.1,z2.1.2.2.2.2.2.2.2.1,z2.1.2.2.2.2.2.2.2.2.1,z2.1.2.2.2.2.2.2.2.2.2.1,z2.1.2.2.2.2.2.2.2.2.2.2.1,()),(z2.2.1.1,()),()))
 | .inr (.inl z3)=>some (((z3.2.2.2.1.1,z3.2.2.2.1.2.1,()),0,()),((z3.1.1,z3.1.2.1,z3.1.2.2.1,z3.1.2.2.2.1,z3.1.2.2.2.2.1,z3.1.2.2.2.2.2.1,z3.1.2.2.2.2.2.2.1,z3.1.2.2.2.2.2.2.2.1,z3.1.2.2.2.2.2.2.2.2.1,z3.1.2.2.2.2.2.2.2.2.2.1,z3.1.2.2.2.2.2.2.2.2.2.2.1,()),(z3.2.1.1,()),()))
 | .inr (.inr e)=>e.elim
def g155L0 (m:Nat):Nat->Int->Int->LI->LI->LI->LI->LI->LI->List Unit->tF2->tF2->tJ1->tL1->Int->Int->Option ((tX×tC1×tL1×Int×Unit)⊕(tX×tC1×tL1×Unit)⊕Empty)
 |0,_,_,_,_,_,_,_,_,_,_,_,_,_,_,_=>none
 |n+1,a,b,c,d,f,h,i,j,k,l,o,p,q,r,s=>bif decide (s<r)then if 0<=s/\s<(i.length:Int)then bif decide ((i.getD (0+s.toNat) 0)>=0)then g155L0 m n a b c d f h i j k l o p q r (wI (s+1))else (g175 m ((mGet p s).getD ([]:List tt1))).bind λy1=>(g52 m y1.1.1 y1.1.2.1 y1.1.2.2.1 y1.1.2.2.2.1).bind λy2=>bif y2.1==0 then g155L0 m n a b c d f h i j k l o p q r (wI (s+1))else (g54 m y1.1.1 y1.1.2.1 y1.1.2.2.1 y1.1.2.2.2.1 0).bind λy3=>(g21 m y3.1).bind λy4=>bif !y4.1 then some (.inl ((a,b,c,d,f,h,i,j,k,l,o,()),(p,()),([]:List tY1),233,()))else if q.length+([(s,((y1.1.1,((y1.1.2.1,y1.1.2.2.1),y1.1.2.2.2.1)),y3.1))]:List tY1).length<=1073741824 then g155L0 m n a b c d f h i j k l o p (q++([(s,((y1.1.1,((y1.1.2.1,y1.1.2.2.1),y1.1.2.2.2.1)),y3.1))]:List tY1)) r (wI (s+1))else none else none else some (.inr (.inl ((a,b,c,d,f,h,i,j,k,l,o,()),(p,()),q,())))
def g155 (m:Nat) (a:Int) (b:Int) (c:LI) (d:LI) (f:LI) (h:LI) (i:LI) (j:LI) (k:List Unit) (l:List (LI×LI)) (o:List (LI×LI)) (p:List tS1):Option ((tL1×Int×Unit)×tX×tC1×Unit):=(g155L0 m m a b c d f h i j k l o p ([]:List tY1) a 0).bind λy1=>match y1 with
 | .inl z2=>some ((z2.2.2.1,z2.2.2.2.1,()),((z2.1.1,z2.1.2.1,z2.1.2.2.1,z2.1.2.2.2.1,z2.1.2.2.2.2.1,z2.1.2.2.2.2.2.1,z2.1.2.2.2.2.2.2.1,z2.1.2.2.2.2.2.2.2.1,z2.1.2.2.2.2.2.2.2.2.1,z2.1.2.2.2.2.2.2.2.2.2.1,z2.1.2.2.2.2.2.2.2.2.2.2.1,()),(z2.2.1.1,()),()))
 | .inr (.inl z3)=>some ((z3.2.2.1,0,()),((z3.1.1,z3.1.2.1,z3.1.2.2.1,z3.1.2.2.2.1,z3.1.2.2.2.2.1,z3.1.2.2.2.2.2.1,z3.1.2.2.2.2.2.2.1,z3.1.2.2.2.2.2.2.2.1,z3.1.2.2.2.2.2.2.2.2.1,z3.1.2.2.2.2.2.2.2.2.2.1,z3.1.2.2.2.2.2.2.2.2.2.2.1,()),(z3.2.1.1,()),()))
 | .inr (.inr e)=>e.elim
def g116 (m:Nat) (a:Int):Option tM1:=(g86 m a).bind λy1=>(g84 m y1.1.1 y1.1.2.1 0).bind λy2=>some ((y2.1.1,y2.1.2.1,y2.1.2.2.1,y2.1.2.2.2.1,()),((),()))
def g196 (m:Nat) (a:Int):Option tB2:=(g47 m ([a]:LI)).bind λy1=>bif y1.1 then some (9221120237041090560,((),()))else some (Zo .u64 a 9223372036854775808,((),()))
def g75 (m:Nat) (a:Bool) (b:Bool) (c:LI) (d:Int) (f:Bool) (h:Bool) (i:LI) (j:Int):Option tP1:=(g81 m a b c d f h i j).bind λy1=>bif !y1.1.2.2.1 then some ((0,false,()),((),(),()))else (g83 m y1.1.1.1 y1.1.1.2.1 y1.1.1.2.2.1 y1.1.1.2.2.2.1 y1.1.2.1.1 y1.1.2.1.2.1 y1.1.2.1.2.2.1 y1.1.2.1.2.2.2.1).bind λy2=>(g100 m y2.1.1.1 y2.1.1.2.1 y2.1.2.1.1 y2.1.2.1.2.1).bind λy3=>some ((y3.1,true,()),((),(),()))
def g122 (m:Nat) (a:Bool) (b:Bool) (c:LI) (d:Int) (f:Bool) (h:Bool) (i:LI) (j:Int):Option tG1:=(g81 m a b c d f h i j).bind λy1=>bif !y1.1.2.2.1 then (g82 m).bind λy2=>some ((y2.1.1,y2.1.2.1,y2.1.2.2.1,y2.1.2.2.2.1,()),((),(),()))else (g177 m y1.1.1.2.1 y1.1.1.2.2.1 y1.1.2.1.2.1 y1.1.2.1.2.2.1).bind λy3=>(g84 m y3.1.1 y3.1.2.1 (wI (y1.1.1.2.2.2.1+y1.1.2.1.2.2.2.1))).bind λy4=>some ((y4.1.1,y4.1.2.1,y4.1.2.2.1,y4.1.2.2.2.1,()),((),(),()))
def g156L1 (m:Nat):Nat->Int->Int->LI->LI->LI->LI->LI->LI->List Unit->tF2->tF2->tL1->Int->Bool->Bool->LI->Int->Int->tL1->Int->Int->Option (tJ⊕Empty)
 |0,_,_,_,_,_,_,_,_,_,_,_,_,_,_,_,_,_,_,_,_,_=>none
 |n+1,a,b,c,d,f,h,i,j,k,l,o,p,q,r,s,t,u,v,w,a0,a1=>bif decide (a1<a0)then if 0<=a1/\a1<(w.length:Int)then (g63 m (w.getD a1.toNat (0,(qz,0))).2.2).bind λy1=>bif y1.1==0 then g156L1 m n a b c d f h i j k l o p q r s t u v w a0 (wI (a1+1))else (g116 m q).bind λy2=>(g196 m (w.getD a1.toNat (0,(qz,0))).2.2).bind λy3=>(g51 m y3.1).bind λy4=>(g122 m y2.1.1 y2.1.2.1 y2.1.2.2.1 y2.1.2.2.2.1 y4.1.1 y4.1.2.1 y4.1.2.2.1 y4.1.2.2.2.1).bind λy5=>(g75 m y5.1.1 y5.1.2.1 y5.1.2.2.1 y5.1.2.2.2.1 r s t u).bind λy6=>bif decide (y6.1.1>=0)then bif decide (v<0)then g156L1 m n a b c d f h i j k l o p q r s t u a1 w a0 (wI (a1+1))else if 0<=(w.getD a1.toNat (0,(qz,0))).1/\(w.getD a1.toNat (0,(qz,0))).1<(h.length:Int)then if 0<=v/\v<(p.length:Int)then if 0<=(p.getD v.toNat (0,(qz,0))).1/\(p.getD v.toNat (0,(qz,0))).1<(h.length:Int)then bif decide ((h.getD (0+(w.getD a1.toNat (0,(qz,0))).1.toNat) 0)<(h.getD (0+(p.getD v.toNat (0,(qz,0))).1.toNat) 0))then g156L1 m n a b c d f h i j k l o p q r s t u a1 w a0 (wI (a1+1))else g156L1 m n a b c d f h i j k l o p q r s t u v w a0 (wI (a1+1))else none else none else none else g156L1 m n a b c d f h i j k l o p q r s t u v w a0 (wI (a1+1))else none else some (.inl ((a,b,c,d,f,h,i,j,k,l,o,()),v,()))
def g156L0 (m:Nat):Nat->Int->Int->LI->LI->LI->LI->LI->LI->List Unit->tF2->tF2->tL1->Int->Int->Bool->Bool->LI->Int->tL1->Int->Int->Option ((tX×tL1×Int×Int×tp1×Unit)⊕Empty)
 |0,_,_,_,_,_,_,_,_,_,_,_,_,_,_,_,_,_,_,_,_,_=>none
 |n+1,a,b,c,d,f,h,i,j,k,l,o,p,q,r,s,t,u,v,w,a0,a1=>bif decide (a1<a0)then if 0<=a1/\a1<(w.length:Int)then (g196 m (w.getD a1.toNat (0,(qz,0))).2.2).bind λy1=>(g51 m y1.1).bind λy2=>(g75 m y2.1.1 y2.1.2.1 y2.1.2.2.1 y2.1.2.2.2.1 s t u v).bind λy3=>bif decide (y3.1.1>0)then (g196 m (w.getD a1.toNat (0,(qz,0))).2.2).bind λy4=>(g51 m y4.1).bind λy5=>g156L0 m n a b c d f h i j k l o p q r y5.1.1 y5.1.2.1 y5.1.2.2.1 y5.1.2.2.2.1 w a0 (wI (a1+1))else g156L0 m n a b c d f h i j k l o p q r s t u v w a0 (wI (a1+1))else none else some (.inl ((a,b,c,d,f,h,i,j,k,l,o,()),p,q,r,(s,t,u,v,()),()))
def g156 (m:Nat) (a:Int) (b:Int) (c:LI) (d:LI) (f:LI) (h:LI) (i:LI) (j:LI) (k:List Unit) (l:List (LI×LI)) (o:List (LI×LI)) (p:List tY1) (q:Int) (r:Int):Option tH:=(g116 m 0).bind λy1=>(g156L0 m m a b c d f h i j k l o p q r y1.1.1 y1.1.2.1 y1.1.2.2.1 y1.1.2.2.2.1 p (p.length:Int) 0).bind λy2=>match y2 with
 | .inl z3=>(g116 m z3.2.2.1).bind λy4=>(g122 m y4.1.1 y4.1.2.1 y4.1.2.2.1 y4.1.2.2.2.1 z3.2.2.2.2.1.1 z3.2.2.2.2.1.2.1 z3.2.2.2.2.1.2.2.1 z3.2.2.2.2.1.2.2.2.1).bind λy5=>(g156L1 m m z3.1.1 z3.1.2.1 z3.1.2.2.1 z3.1.2.2.2.1 z3.1.2.2.2.2.1 z3.1.2.2.2.2.2.1 z3.1.2.2.2.2.2.2.1 z3.1.2.2.2.2.2.2.2.1 z3.1.2.2.2.2.2.2.2.2.1 z3.1.2.2.2.2.2.2.2.2.2.1 z3.1.2.2.2.2.2.2.2.2.2.2.1 z3.2.1 z3.2.2.2.1 y5.1.1 y5.1.2.1 y5.1.2.2.1 y5.1.2.2.2.1 (-1) z3.2.1 (z3.2.1.length:Int) 0).bind λy6=>match y6 with
  | .inl z7=>some (z7.2.1,((z7.1.1,z7.1.2.1,z7.1.2.2.1,z7.1.2.2.2.1,z7.1.2.2.2.2.1,z7.1.2.2.2.2.2.1,z7.1.2.2.2.2.2.2.1,z7.1.2.2.2.2.2.2.2.1,z7.1.2.2.2.2.2.2.2.2.1,z7.1.2.2.2.2.2.2.2.2.2.1,z7.1.2.2.2.2.2.2.2.2.2.2.1,()),(),(),(),()))
  | .inr e=>e.elim
 | .inr e=>e.elim
def g176 (m:Nat) (a:Bool) (b:Bool) (c:LI) (d:Int) (f:Bool) (h:Bool) (i:LI) (j:Int) (k:Int):Option (td1×Unit×Unit×Unit×Unit):=(g139 m h i).bind λy1=>(g139 m b c).bind λy2=>(g143 m b c).bind λy3=>(g131 m y3.1.1 y3.1.2.1 (if(wI ((wI ((wI (k+3))+y1.1))-y2.1))>0 then(wI ((wI ((wI (k+3))+y1.1))-y2.1))else 0)).bind λy4=>(g143 m h i).bind λy5=>(g192 m y4.1.1 y4.1.2.1 y5.1.1 y5.1.2.1).bind λy6=>(g90 m y6.1.2.1.1 y6.1.2.1.2.1).bind λy7=>some ((!(b==h),y6.1.1.1,y6.1.1.2.1,wI ((wI (d-(if(wI ((wI ((wI (k+3))+y1.1))-y2.1))>0 then(wI ((wI ((wI (k+3))+y1.1))-y2.1))else 0)))-j),y7.1 !=0,()),((),(),(),()))
def g121 (m:Nat) (a:Bool) (b:Bool) (c:LI) (d:Int) (f:Bool) (h:Bool) (i:LI) (j:Int) (k:Int):Option ti1:=(g92 m a b c d).bind λy1=>(g92 m f h i j).bind λy2=>bif y1.1.1 then some (9221120237041090560,((),(),(),()))else bif y2.1.1 then some (9221120237041090560,((),(),(),()))else (g52 m y2.1.1 y2.1.2.1 y2.1.2.2.1 y2.1.2.2.2.1).bind λy3=>bif y3.1==0 then some (9221120237041090560,((),(),(),()))else (g52 m y1.1.1 y1.1.2.1 y1.1.2.2.1 y1.1.2.2.2.1).bind λy4=>bif y4.1==0 then some (0,((),(),(),()))else (g176 m y1.1.1 y1.1.2.1 y1.1.2.2.1 y1.1.2.2.2.1 y2.1.1 y2.1.2.1 y2.1.2.2.1 y2.1.2.2.2.1 56).bind λy5=>(g93 m y5.1.1 y5.1.2.1 y5.1.2.2.1 y5.1.2.2.2.1 y5.1.2.2.2.2.1 k).bind λy6=>some (y6.1,((),(),(),()))
def g109L0 (m:Nat):Nat->Int->Int->LI->LI->LI->LI->LI->LI->List Unit->tF2->tF2->LI->LI->Int->Int->Bool->Bool->LI->Int->Int->LI->LI->tT1->tL1->Int->Int->Option (tJ⊕(tX×tH2×tH2×tT1×Unit)⊕Empty)
 |0,_,_,_,_,_,_,_,_,_,_,_,_,_,_,_,_,_,_,_,_,_,_,_,_,_,_=>none
 |n+1,a,b,c,d,f,h,i,j,k,l,o,p,q,r,s,t,u,v,w,a0,a1,a2,a3,a4,a5,a6=>bif decide (a6<a5)then if 0<=a6/\a6<(a4.length:Int)then bif a6==r then g109L0 m n a b c d f h i j k l o p q r s t u v w a0 a1 a2 a3 a4 a5 (wI (a6+1))else (g51 m a0).bind λy1=>(g121 m (a4.getD a6.toNat (0,(qz,0))).2.1.1 (a4.getD a6.toNat (0,(qz,0))).2.1.2.1.1 (a4.getD a6.toNat (0,(qz,0))).2.1.2.1.2 (a4.getD a6.toNat (0,(qz,0))).2.1.2.2 y1.1.1 y1.1.2.1 y1.1.2.2.1 y1.1.2.2.2.1 0).bind λy2=>(g21 m y2.1).bind λy3=>bif !y3.1 then some (.inl ((a,b,c,d,f,h,i,j,k,l,o,()),233,()))else (g157 m a1 a2 (a4.getD a6.toNat (0,(qz,0))).1 y2.1).bind λy4=>none else none else some (.inr (.inl ((a,b,c,d,f,h,i,j,k,l,o,()),(p,q,()),(a1,a2,()),a3,())))
def g109 (m:Nat) (a:Int) (b:Int) (c:LI) (d:LI) (f:LI) (h:LI) (i:LI) (j:LI) (k:List Unit) (l:List (LI×LI)) (o:List (LI×LI)) (p:Int) (q:Int) (r:Int):Option tH:=(g153 m a b c d f h i j k l o p).bind λy1=>(g154 m y1.2.1.1 y1.2.1.2.1 y1.2.1.2.2.1 y1.2.1.2.2.2.1 y1.2.1.2.2.2.2.1 y1.2.1.2.2.2.2.2.1 y1.2.1.2.2.2.2.2.2.1 y1.2.1.2.2.2.2.2.2.2.1 y1.2.1.2.2.2.2.2.2.2.2.1 y1.2.1.2.2.2.2.2.2.2.2.2.1 y1.2.1.2.2.2.2.2.2.2.2.2.2.1 y1.1.1).bind λy2=>bif y2.1.2.1 !=0 then some (y2.1.2.1,((y2.2.1.1,y2.2.1.2.1,y2.2.1.2.2.1,y2.2.1.2.2.2.1,y2.2.1.2.2.2.2.1,y2.2.1.2.2.2.2.2.1,y2.2.1.2.2.2.2.2.2.1,y2.2.1.2.2.2.2.2.2.2.1,y2.2.1.2.2.2.2.2.2.2.2.1,y2.2.1.2.2.2.2.2.2.2.2.2.1,y2.2.1.2.2.2.2.2.2.2.2.2.2.1,()),(),(),(),()))else (g155 m y2.2.1.1 y2.2.1.2.1 y2.2.1.2.2.1 y2.2.1.2.2.2.1 y2.2.1.2.2.2.2.1 y2.2.1.2.2.2.2.2.1 y2.2.1.2.2.2.2.2.2.1 y2.2.1.2.2.2.2.2.2.2.1 y2.2.1.2.2.2.2.2.2.2.2.1 y2.2.1.2.2.2.2.2.2.2.2.2.1 y2.2.1.2.2.2.2.2.2.2.2.2.2.1 y2.2.2.1.1).bind λy3=>bif y3.1.2.1 !=0 then some (y3.1.2.1,((y3.2.1.1,y3.2.1.2.1,y3.2.1.2.2.1,y3.2.1.2.2.2.1,y3.2.1.2.2.2.2.1,y3.2.1.2.2.2.2.2.1,y3.2.1.2.2.2.2.2.2.1,y3.2.1.2.2.2.2.2.2.2.1,y3.2.1.2.2.2.2.2.2.2.2.1,y3.2.1.2.2.2.2.2.2.2.2.2.1,y3.2.1.2.2.2.2.2.2.2.2.2.2.1,()),(),(),(),()))else (g156 m y3.2.1.1 y3.2.1.2.1 y3.2.1.2.2.1 y3.2.1.2.2.2.1 y3.2.1.2.2.2.2.1 y3.2.1.2.2.2.2.2.1 y3.2.1.2.2.2.2.2.2.1 y3.2.1.2.2.2.2.2.2.2.1 y3.2.1.2.2.2.2.2.2.2.2.1 y3.2.1.2.2.2.2.2.2.2.2.2.1 y3.2.1.2.2.2.2.2.2.2.2.2.2.1 y3.1.1 q r).bind λy4=>bif decide (y4.1<0)then some (9,((y4.2.1.1,y4.2.1.2.1,y4.2.1.2.2.1,y4.2.1.2.2.2.1,y4.2.1.2.2.2.2.1,y4.2.1.2.2.2.2.2.1,y4.2.1.2.2.2.2.2.2.1,y4.2.1.2.2.2.2.2.2.2.1,y4.2.1.2.2.2.2.2.2.2.2.1,y4.2.1.2.2.2.2.2.2.2.2.2.1,y4.2.1.2.2.2.2.2.2.2.2.2.2.1,()),(),(),(),()))else if 0<=y4.1/\y4.1<(y3.1.1.length:Int)then (g157 m y2.1.1.1 y2.1.1.2.1 (y3.1.1.getD y4.1.toNat (0,(qz,0))).1 (y3.1.1.getD y4.1.toNat (0,(qz,0))).2.2).bind λy5=>if 0<=(y3.1.1.getD y4.1.toNat (0,(qz,0))).1/\(y3.1.1.getD y4.1.toNat (0,(qz,0))).1<(y4.2.1.2.2.2.2.2.2.1.length:Int)then if y4.2.1.2.2.2.2.2.2.2.1.length+([(y3.1.1.getD y4.1.toNat (0,(qz,0))).1]:LI).length<=1073741824 then (g109L0 m m y4.2.1.1 y4.2.1.2.1 y4.2.1.2.2.1 y4.2.1.2.2.2.1 y4.2.1.2.2.2.2.1 y4.2.1.2.2.2.2.2.1 (y4.2.1.2.2.2.2.2.2.1.set (0+(y3.1.1.getD y4.1.toNat (0,(qz,0))).1.toNat) (y4.2.1.2.2.2.2.2.2.2.1.length:Int)) (y4.2.1.2.2.2.2.2.2.2.1++([(y3.1.1.getD y4.1.toNat (0,(qz,0))).1]:LI)) y4.2.1.2.2.2.2.2.2.2.2.1 y4.2.1.2.2.2.2.2.2.2.2.2.1 y4.2.1.2.2.2.2.2.2.2.2.2.2.1 y5.2.1.1 y5.2.1.2.1 y4.1 (y3.1.1.getD y4.1.toNat (0,(qz,0))).1 (y3.1.1.getD y4.1.toNat (0,(qz,0))).2.1.1 (y3.1.1.getD y4.1.toNat (0,(qz,0))).2.1.2.1.1 (y3.1.1.getD y4.1.toNat (0,(qz,0))).2.1.2.1.2 (y3.1.1.getD y4.1.toNat (0,(qz,0))).2.1.2.2 (y3.1.1.getD y4.1.toNat (0,(qz,0))).2.2 ([]:LI) ([]:LI) ([]:List (Int×Bool×tL2×Int)) y3.1.1 (y3.1.1.length:Int) 0).bind λy6=>match y6 with
    | .inl z7=>some (z7.2.1,((z7.1.1,z7.1.2.1,z7.1.2.2.1,z7.1.2.2.2.1,z7.1.2.2.2.2.1,z7.1.2.2.2.2.2.1,z7.1.2.2.2.2.2.2.1,z7.1.2.2.2.2.2.2.2.1,z7.1.2.2.2.2.2.2.2.2.1,z7.1.2.2.2.2.2.2.2.2.2.1,z7.1.2.2.2.2.2.2.2.2.2.2.1,()),(),(),(),()))
    | .inr (.inl z8)=>if z8.1.2.2.2.2.2.2.2.2.2.1.length+([(z8.2.2.1.1,z8.2.2.1.2.1)]:List (LI×LI)).length<=1073741824 then if z8.1.2.2.2.2.2.2.2.2.2.2.1.length+([(z8.2.1.1,z8.2.1.2.1)]:List (LI×LI)).length<=1073741824 then if z8.1.2.2.2.2.2.2.2.2.1.length+([()]:List Unit).length<=1073741824 then some (0,((z8.1.1,z8.1.2.1,z8.1.2.2.1,z8.1.2.2.2.1,z8.1.2.2.2.2.1,z8.1.2.2.2.2.2.1,z8.1.2.2.2.2.2.2.1,z8.1.2.2.2.2.2.2.2.1,z8.1.2.2.2.2.2.2.2.2.1++([()]:List Unit),z8.1.2.2.2.2.2.2.2.2.2.1++([(z8.2.2.1.1,z8.2.2.1.2.1)]:List (LI×LI)),z8.1.2.2.2.2.2.2.2.2.2.2.1++([(z8.2.1.1,z8.2.1.2.1)]:List (LI×LI)),()),(),(),(),()))else none else none else none
    | .inr (.inr e)=>e.elim else none else none else none
def g110 (m:Nat) (a:LI):Option tD2:=if([]:LI).length+a.length<=1073741824 then some (a,((),()))else none
def g227 (m:Nat) (a:Int):Option tB2:=bif decide (a>=4294967296)then bif decide ((shr_ .u64 a 32)>=65536)then bif decide ((shr_ .u64 (shr_ .u64 a 32) 16)>=256)then if 0<=(w_u8 (shr_ .u64 (shr_ .u64 (shr_ .u64 a 32) 16) 8))/\(w_u8 (shr_ .u64 (shr_ .u64 (shr_ .u64 a 32) 16) 8))<(Qc.length:Int)then some (wI (56+(wI (Qc.getD (w_u8 (shr_ .u64 (shr_ .u64 (shr_ .u64 a 32) 16) 8)).toNat 0))),((),()))else none else if 0<=(w_u8 (shr_ .u64 (shr_ .u64 a 32) 16))/\(w_u8 (shr_ .u64 (shr_ .u64 a 32) 16))<(Qc.length:Int)then some (wI (48+(wI (Qc.getD (w_u8 (shr_ .u64 (shr_ .u64 a 32) 16)).toNat 0))),((),()))else none else bif decide ((shr_ .u64 a 32)>=256)then if 0<=(w_u8 (shr_ .u64 (shr_ .u64 a 32) 8))/\(w_u8 (shr_ .u64 (shr_ .u64 a 32) 8))<(Qc.length:Int)then some (wI (40+(wI (Qc.getD (w_u8 (shr_ .u64 (shr_ .u64 a 32) 8)).toNat 0))),((),()))else none else if 0<=(w_u8 (shr_ .u64 a 32))/\(w_u8 (shr_ .u64 a 32))<(Qc.length:Int)then some (wI (32+(wI (Qc.getD (w_u8 (shr_ .u64 a 32)).toNat 0))),((),()))else none else bif decide (a>=65536)then bif decide ((shr_ .u64 a 16)>=256)then if 0<=(w_u8 (shr_ .u64 (shr_ .u64 a 16) 8))/\(w_u8 (shr_ .u64 (shr_ .u64 a 16) 8))<(Qc.length:Int)then some (wI (24+(wI (Qc.getD (w_u8 (shr_ .u64 (shr_ .u64 a 16) 8)).toNat 0))),((),()))else none else if 0<=(w_u8 (shr_ .u64 a 16))/\(w_u8 (shr_ .u64 a 16))<(Qc.length:Int)then some (wI (16+(wI (Qc.getD (w_u8 (shr_ .u64 a 16)).toNat 0))),((),()))else none else bif decide (a>=256)then if 0<=(w_u8 (shr_ .u64 a 8))/\(w_u8 (shr_ .u64 a 8))<(Qc.length:Int)then some (wI (8+(wI (Qc.getD (w_u8 (shr_ .u64 a 8)).toNat 0))),((),()))else none else if 0<=(w_u8 a)/\(w_u8 a)<(Qc.length:Int)then some (wI (0+(wI (Qc.getD (w_u8 a).toNat 0))),((),()))else none
def g198 (m:Nat) (a:Int):Option tB2:=(g227 m a).bind λy1=>some (y1.1,((),()))
def g219L1 (m:Nat):Nat->LI->Int->Int->Int->Int->Option ((LI×Int×Int×Unit×Int×Unit)⊕Empty)
 |0,_,_,_,_,_=>none
 |n+1,a,b,c,d,f=>bif decide (f>b)then if 0<=f/\f<(a.length:Int)then if 0<=(wI (f-1))/\(wI (f-1))<(a.length:Int)then none else none else none else some (.inl (a,b,c,(),d,()))
def g219L0 (m:Nat):Nat->LI->Int->Int->Int->Option tz1
 |0,_,_,_,_=>none
 |n+1,a,b,c,d=>bif decide (d<c)then (g219L1 m m a b c d d).bind λy1=>match y1 with
   | .inl z2=>g219L0 m n z2.1 z2.2.1 z2.2.2.1 (wI (z2.2.2.2.2.1+1))
   | .inr e=>e.elim else some (.inl (a,()))
def g219 (m:Nat) (a:LI) (b:Int) (c:Int):Option (Unit×LI×Unit×Unit×Unit×Unit):=(g219L0 m m a b c (wI (b+1))).bind λy1=>match y1 with
 | .inl z2=>some ((),(z2.1,(),(),(),()))
 | .inr e=>e.elim
def g197L0 (m:Nat):Nat->LI->Int->Int->Int->Bool->Bool->Option tz1
 |0,_,_,_,_,_,_=>none
 |n+1,a,b,c,d,f,h=>bif decide ((wI (c-b))<=12)then (g219 m a b c).bind λy1=>some (.inl (y1.2.1,()))else bif d==0 then none else bif !f then none else none
def g197 (m:Nat) (a:LI) (b:Int) (c:Int) (d:Int):Option (Unit×LI×Unit×Unit×Unit×Unit×Unit):=(g197L0 m m a b c d true true).bind λy1=>match y1 with
 | .inl z2=>some ((),(z2.1,(),(),(),(),()))
 | .inr e=>e.elim
def g158 (m:Nat) (a:LI):Option (Unit×LI×Unit×Unit):=(g198 m (wJ (a.length:Int))).bind λy1=>(g197 m a 0 (a.length:Int) y1.1).bind λy2=>some ((),(y2.2.1,(),()))
def g111L2 (m:Nat):Nat->Int->Int->LI->LI->LI->LI->LI->List Unit->tF2->tF2->Nat->LI->LI->LI->LI->LI->tF2->Int->Int->LI->Int->Int->Option ((tK×(Nat×Unit)×LI×LI×LI×tF2×Int×Int×Unit)⊕Empty)
 |0,_,_,_,_,_,_,_,_,_,_,_,_,_,_,_,_,_,_,_,_,_,_=>none
 |n+1,a,b,c,d,f,h,i,j,k,l,o,p,q,r,s,t,u,v,w,a0,a1,a2=>bif decide (a2<a1)then if 0<=a2/\a2<(a0.length:Int)then if 0<=(a0.getD (0+a2.toNat) 0)/\(a0.getD (0+a2.toNat) 0)<(s.length:Int)then if 0<=(s.getD (a0.getD (0+a2.toNat) 0).toNat 0)/\(s.getD (a0.getD (0+a2.toNat) 0).toNat 0)<(i.length:Int)then if q.length+([i.getD (s.getD (a0.getD (0+a2.toNat) 0).toNat 0).toNat 0]:LI).length<=1073741824 then if 0<=(a0.getD (0+a2.toNat) 0)/\(a0.getD (0+a2.toNat) 0)<(t.length:Int)then if r.length+([t.getD (a0.getD (0+a2.toNat) 0).toNat 0]:LI).length<=1073741824 then g111L2 m n a b c d f h i j k l o p (q++([i.getD (s.getD (a0.getD (0+a2.toNat) 0).toNat 0).toNat 0]:LI)) (r++([t.getD (a0.getD (0+a2.toNat) 0).toNat 0]:LI)) s t u v w a0 a1 (wI (a2+1))else none else none else none else none else none else none else some (.inl ((a,b,c,d,f,h,i,(),j,k,l,()),(o,()),p,q,r,u,v,w,()))
def g111L1 (m:Nat):Nat->Int->Int->LI->LI->LI->LI->LI->List Unit->tF2->tF2->Nat->LI->LI->LI->LI->LI->LI->tF2->Int->Int->Int->Int->Option ((tK×(Nat×Unit)×LI×LI×LI×tH2×LI×tF2×Int×Int×Unit)⊕Empty)
 |0,_,_,_,_,_,_,_,_,_,_,_,_,_,_,_,_,_,_,_,_,_,_=>none
 |n+1,a,b,c,d,f,h,i,j,k,l,o,p,q,r,s,t,u,v,w,a0,a1,a2=>bif decide (a2<a1)then if 0<=a2/\a2<(u.length:Int)then g111L1 m n a b c d f h i j k l o p q r s t (u.set (0+a2.toNat) a2) v w a0 a1 (wI (a2+1))else none else some (.inl ((a,b,c,d,f,h,i,(),j,k,l,()),(o,()),p,q,r,(s,t,()),u,v,w,a0,()))
def g111L0 (m:Nat):Nat->Int->Int->LI->LI->LI->LI->LI->List Unit->tF2->tF2->Nat->LI->LI->LI->tF2->Int->Int->Option ((tK×LI×LI×LI×Unit)⊕Empty)
 |0,_,_,_,_,_,_,_,_,_,_,_,_,_,_,_,_,_=>none
 |n+1,a,b,c,d,f,h,i,j,k,l,o,p,q,r,s,t,u=>bif decide (u<t)then if 0<=u/\u<(s.length:Int)then if 0<=((s.getD u.toNat ([],[])).1.length:Int)/\((s.getD u.toNat ([],[])).1.length:Int)<=((s.getD u.toNat ([],[])).1.length:Int)/\((s.getD u.toNat ([],[])).1.length:Int)<=1073741824 then (g111L1 m m a b c d f h i j k l o p q r (s.getD u.toNat ([],[])).1 (s.getD u.toNat ([],[])).2 (List.replicate ((s.getD u.toNat ([],[])).1.length:Int).toNat (0:Int)) s t u ((List.replicate ((s.getD u.toNat ([],[])).1.length:Int).toNat (0:Int)).length:Int) 0).bind λy1=>match y1 with
   | .inl z2=>(g158 m z2.2.2.2.2.2.2.1).bind λy3=>(g111L2 m m z2.1.1 z2.1.2.1 z2.1.2.2.1 z2.1.2.2.2.1 z2.1.2.2.2.2.1 z2.1.2.2.2.2.2.1 z2.1.2.2.2.2.2.2.1 z2.1.2.2.2.2.2.2.2.2.1 z2.1.2.2.2.2.2.2.2.2.2.1 z2.1.2.2.2.2.2.2.2.2.2.2.1 z2.2.1.1 z2.2.2.1 z2.2.2.2.1 z2.2.2.2.2.1 z2.2.2.2.2.2.1.1 z2.2.2.2.2.2.1.2.1 z2.2.2.2.2.2.2.2.1 z2.2.2.2.2.2.2.2.2.1 z2.2.2.2.2.2.2.2.2.2.1 y3.2.1 (y3.2.1.length:Int) 0).bind λy4=>match y4 with
    | .inl z5=>if z5.2.2.1.length+([(z5.2.2.2.1.length:Int)]:LI).length<=1073741824 then g111L0 m n z5.1.1 z5.1.2.1 z5.1.2.2.1 z5.1.2.2.2.1 z5.1.2.2.2.2.1 z5.1.2.2.2.2.2.1 z5.1.2.2.2.2.2.2.1 z5.1.2.2.2.2.2.2.2.2.1 z5.1.2.2.2.2.2.2.2.2.2.1 z5.1.2.2.2.2.2.2.2.2.2.2.1 z5.2.1.1 (z5.2.2.1++([(z5.2.2.2.1.length:Int)]:LI)) z5.2.2.2.1 z5.2.2.2.2.1 z5.2.2.2.2.2.1 z5.2.2.2.2.2.2.1 (wI (z5.2.2.2.2.2.2.2.1+1))else none
    | .inr e=>e.elim
   | .inr e=>e.elim else none else none else some (.inl ((a,b,c,d,f,h,i,(),j,k,l,()),p,q,r,()))
def g111 (m:Nat) (a:Int) (b:Int) (c:LI) (d:LI) (f:LI) (h:LI) (i:LI) (j:List Unit) (k:List (LI×LI)) (l:List (LI×LI)) (o:List (LI×LI)):Option ((LI×LI×LI×Unit)×tK×Unit×Unit):=(g111L0 m m a b c d f h i j k l 0 ([0]:LI) ([]:LI) ([]:LI) o (o.length:Int) 0).bind λy1=>match y1 with
 | .inl z2=>some ((z2.2.1,z2.2.2.1,z2.2.2.2.1,()),((z2.1.1,z2.1.2.1,z2.1.2.2.1,z2.1.2.2.2.1,z2.1.2.2.2.2.1,z2.1.2.2.2.2.2.1,z2.1.2.2.2.2.2.2.1,(),z2.1.2.2.2.2.2.2.2.2.1,z2.1.2.2.2.2.2.2.2.2.2.1,z2.1.2.2.2.2.2.2.2.2.2.2.1,()),(),()))
 | .inr e=>e.elim
def g108L0 (m:Nat):Nat->Int->List Bool->LI->Int->Int->Option tj1
 |0,_,_,_,_,_=>none
 |n+1,a,b,c,d,f=>bif decide (f<d)then if 0<=f/\f<(c.length:Int)then bif decide ((c.getD f.toNat 0)<0)then some (.inl (false,()))else bif decide ((c.getD f.toNat 0)>=a)then some (.inl (false,()))else if 0<=(c.getD f.toNat 0)/\(c.getD f.toNat 0)<(b.length:Int)then bif b.getD (0+(c.getD f.toNat 0).toNat) false then some (.inl (false,()))else if 0<=(c.getD f.toNat 0)/\(c.getD f.toNat 0)<(b.length:Int)then g108L0 m n a (b.set (0+(c.getD f.toNat 0).toNat) true) c d (wI (f+1))else none else none else none else some (.inr (.inl ()))
def g108 (m:Nat) (a:LI) (b:Int):Option ts1:=bif (a.length:Int) !=b then some (false,((),(),()))else if 0<=b/\b<=b/\b<=1073741824 then (g108L0 m m b (List.replicate b.toNat false) a (a.length:Int) 0).bind λy1=>match y1 with
  | .inl z2=>some (z2.1,((),(),()))
  | .inr (.inl z3)=>some (true,((),(),()))
  | .inr (.inr e)=>e.elim else none
def g69L2 (m:Nat):Nat->LI->Int->Int->Int->Int->LI->LI->LI->LI->LI->LI->LI->LI->LI->LI->LI->Int->Int->LI->LI->LI->LI->LI->LI->List Unit->tF2->tF2->LI->Int->Int->Option (tD1⊕(LI×to1×tW1×tX×Unit)⊕Empty)
 |0,_,_,_,_,_,_,_,_,_,_,_,_,_,_,_,_,_,_,_,_,_,_,_,_,_,_,_,_,_,_=>none
 |n+1,a,b,c,d,f,h,i,j,k,l,o,p,q,r,s,t,u,v,w,a0,a1,a2,a3,a4,a5,a6,a7,a8,a9,b0=>bif decide (b0<a9)then if 0<=b0/\b0<(a8.length:Int)then (g109 m u v w a0 a1 a2 a3 a4 a5 a6 a7 (a8.getD b0.toNat 0) b c).bind λy1=>bif y1.1==0 then g69L2 m n a b c d f h i j k l o p q r s t y1.2.1.1 y1.2.1.2.1 y1.2.1.2.2.1 y1.2.1.2.2.2.1 y1.2.1.2.2.2.2.1 y1.2.1.2.2.2.2.2.1 y1.2.1.2.2.2.2.2.2.1 y1.2.1.2.2.2.2.2.2.2.1 y1.2.1.2.2.2.2.2.2.2.2.1 y1.2.1.2.2.2.2.2.2.2.2.2.1 y1.2.1.2.2.2.2.2.2.2.2.2.2.1 a8 a9 (wI (b0+1))else bif y1.1==9 then some (.inl (([],[],[],[],[],[],[],[],()),b0,y1.1,()))else some (.inl (([],[],[],[],[],[],[],[],()),0,y1.1,()))else none else some (.inr (.inl (a,(d,f,h,i,j,()),(k,l,o,p,q,r,s,t,()),(u,v,w,a0,a1,a2,a3,a4,a5,a6,a7,()),())))
def g69L1 (m:Nat):Nat->LI->Int->Int->Int->Int->LI->LI->LI->LI->LI->LI->LI->LI->LI->LI->LI->Int->Int->LI->LI->LI->LI->LI->LI->List Unit->tF2->tF2->LI->Int->Int->Option tC
 |0,_,_,_,_,_,_,_,_,_,_,_,_,_,_,_,_,_,_,_,_,_,_,_,_,_,_,_,_,_,_=>none
 |n+1,a,b,c,d,f,h,i,j,k,l,o,p,q,r,s,t,u,v,w,a0,a1,a2,a3,a4,a5,a6,a7,a8,a9,b0=>bif decide (b0<a9)then if 0<=b0/\b0<(a8.length:Int)then if 0<=(a8.getD b0.toNat 0)/\(a8.getD b0.toNat 0)<(a2.length:Int)then if 0<=(a8.getD b0.toNat 0)/\(a8.getD b0.toNat 0)<(a2.length:Int)then g69L1 m n a b c d f h i j k l o p q r s t u v w a0 a1 (a2.set (0+(a8.getD b0.toNat 0).toNat) (wI ((a2.getD (0+(a8.getD b0.toNat 0).toNat) 0)+1))) a3 a4 a5 a6 a7 a8 a9 (wI (b0+1))else none else none else none else some (.inl (a,b,c,(d,f,h,i,j,()),(k,l,o,p,q,r,s,t,()),(u,v,w,a0,a1,a2,a3,a4,a5,a6,a7,()),()))
def g69L0 (m:Nat):Nat->LI->Int->Int->Int->Int->LI->LI->LI->LI->LI->LI->LI->LI->LI->LI->LI->Int->Int->LI->LI->LI->LI->LI->LI->List Unit->tF2->tF2->Int->Int->Option tC
 |0,_,_,_,_,_,_,_,_,_,_,_,_,_,_,_,_,_,_,_,_,_,_,_,_,_,_,_,_,_=>none
 |n+1,a,b,c,d,f,h,i,j,k,l,o,p,q,r,s,t,u,v,w,a0,a1,a2,a3,a4,a5,a6,a7,a8,a9=>bif decide (a9<a8)then if 0<=a9/\a9<(a3.length:Int)then g69L0 m n a b c d f h i j k l o p q r s t u v w a0 a1 a2 (a3.set (0+a9.toNat) (-1)) a4 a5 a6 a7 a8 (wI (a9+1))else none else some (.inl (a,b,c,(d,f,h,i,j,()),(k,l,o,p,q,r,s,t,()),(u,v,w,a0,a1,a2,a3,a4,a5,a6,a7,()),()))
def g69 (m:Nat) (a:Int) (b:Int) (c:LI) (d:LI) (f:LI) (h:LI) (i:Int) (j:Int):Option (tD1×Unit×Unit×Unit×Unit×Unit):=(g27 m a b c d f).bind λy1=>bif y1.1 !=0 then bif y1.1 !=0 then some ((([],[],[],[],[],[],[],[],()),0,y1.1,()),((),(),(),(),()))else if 0<=a/\a<=a/\a<=1073741824 then if 0<=a/\a<=a/\a<=1073741824 then (g69L0 m m h i j a b c d f ([]:LI) ([]:LI) ([]:LI) ([]:LI) ([]:LI) ([]:LI) ([]:LI) ([]:LI) a b c d f (List.replicate a.toNat (0:Int)) (List.replicate a.toNat (0:Int)) ([]:LI) ([]:List Unit) ([]:List (LI×LI)) ([]:List (LI×LI)) ((List.replicate a.toNat (0:Int)).length:Int) 0).bind λy2=>match y2 with
   | .inl z3=>(g69L1 m m z3.1 z3.2.1 z3.2.2.1 z3.2.2.2.1.1 z3.2.2.2.1.2.1 z3.2.2.2.1.2.2.1 z3.2.2.2.1.2.2.2.1 z3.2.2.2.1.2.2.2.2.1 z3.2.2.2.2.1.1 z3.2.2.2.2.1.2.1 z3.2.2.2.2.1.2.2.1 z3.2.2.2.2.1.2.2.2.1 z3.2.2.2.2.1.2.2.2.2.1 z3.2.2.2.2.1.2.2.2.2.2.1 z3.2.2.2.2.1.2.2.2.2.2.2.1 z3.2.2.2.2.1.2.2.2.2.2.2.2.1 z3.2.2.2.2.2.1.1 z3.2.2.2.2.2.1.2.1 z3.2.2.2.2.2.1.2.2.1 z3.2.2.2.2.2.1.2.2.2.1 z3.2.2.2.2.2.1.2.2.2.2.1 z3.2.2.2.2.2.1.2.2.2.2.2.1 z3.2.2.2.2.2.1.2.2.2.2.2.2.1 z3.2.2.2.2.2.1.2.2.2.2.2.2.2.1 z3.2.2.2.2.2.1.2.2.2.2.2.2.2.2.1 z3.2.2.2.2.2.1.2.2.2.2.2.2.2.2.2.1 z3.2.2.2.2.2.1.2.2.2.2.2.2.2.2.2.2.1 z3.2.2.2.1.2.2.2.1 (z3.2.2.2.1.2.2.2.1.length:Int) 0).bind λy4=>match y4 with
    | .inl z5=>(g69L2 m m z5.1 z5.2.1 z5.2.2.1 z5.2.2.2.1.1 z5.2.2.2.1.2.1 z5.2.2.2.1.2.2.1 z5.2.2.2.1.2.2.2.1 z5.2.2.2.1.2.2.2.2.1 z5.2.2.2.2.1.1 z5.2.2.2.2.1.2.1 z5.2.2.2.2.1.2.2.1 z5.2.2.2.2.1.2.2.2.1 z5.2.2.2.2.1.2.2.2.2.1 z5.2.2.2.2.1.2.2.2.2.2.1 z5.2.2.2.2.1.2.2.2.2.2.2.1 z5.2.2.2.2.1.2.2.2.2.2.2.2.1 z5.2.2.2.2.2.1.1 z5.2.2.2.2.2.1.2.1 z5.2.2.2.2.2.1.2.2.1 z5.2.2.2.2.2.1.2.2.2.1 z5.2.2.2.2.2.1.2.2.2.2.1 z5.2.2.2.2.2.1.2.2.2.2.2.1 z5.2.2.2.2.2.1.2.2.2.2.2.2.1 z5.2.2.2.2.2.1.2.2.2.2.2.2.2.1 z5.2.2.2.2.2.1.2.2.2.2.2.2.2.2.1 z5.2.2.2.2.2.1.2.2.2.2.2.2.2.2.2.1 z5.2.2.2.2.2.1.2.2.2.2.2.2.2.2.2.2.1 z5.1 (z5.1.length:Int) 0).bind λy6=>match y6 with
     | .inl z7=>some (((z7.1.1,z7.1.2.1,z7.1.2.2.1,z7.1.2.2.2.1,z7.1.2.2.2.2.1,z7.1.2.2.2.2.2.1,z7.1.2.2.2.2.2.2.1,z7.1.2.2.2.2.2.2.2.1,()),z7.2.1,z7.2.2.1,()),((),(),(),(),()))
     | .inr (.inl z8)=>(g110 m z8.1).bind λy9=>(g111 m z8.2.2.2.1.1 z8.2.2.2.1.2.1 z8.2.2.2.1.2.2.1 z8.2.2.2.1.2.2.2.1 z8.2.2.2.1.2.2.2.2.1 z8.2.2.2.1.2.2.2.2.2.1 z8.2.2.2.1.2.2.2.2.2.2.1 z8.2.2.2.1.2.2.2.2.2.2.2.2.1 z8.2.2.2.1.2.2.2.2.2.2.2.2.2.1 z8.2.2.2.1.2.2.2.2.2.2.2.2.2.2.1 z8.2.2.2.1.2.2.2.2.2.2.2.2.2.1).bind λy10=>(g111 m y10.2.1.1 y10.2.1.2.1 y10.2.1.2.2.1 y10.2.1.2.2.2.1 y10.2.1.2.2.2.2.1 y10.2.1.2.2.2.2.2.1 y10.2.1.2.2.2.2.2.2.1 y10.2.1.2.2.2.2.2.2.2.2.1 y10.2.1.2.2.2.2.2.2.2.2.2.1 y10.2.1.2.2.2.2.2.2.2.2.2.2.1 y10.2.1.2.2.2.2.2.2.2.2.2.2.1).bind λy11=>some (((z8.2.2.2.1.2.2.2.2.2.2.2.1,y9.1,y10.1.1,y10.1.2.1,y10.1.2.2.1,y11.1.1,y11.1.2.1,y11.1.2.2.1,()),z8.2.1.2.1,0,()),((),(),(),(),()))
     | .inr (.inr e)=>e.elim
    | .inr e=>e.elim
   | .inr e=>e.elim else none else none else bif a !=b then some ((([],[],[],[],[],[],[],[],()),0,5,()),((),(),(),(),()))else (g108 m h b).bind λy12=>bif !y12.1 then some ((([],[],[],[],[],[],[],[],()),0,90,()),((),(),(),(),()))else bif decide (i<0)then some ((([],[],[],[],[],[],[],[],()),0,260,()),((),(),(),(),()))else bif decide (i>j)then some ((([],[],[],[],[],[],[],[],()),0,260,()),((),(),(),(),()))else bif decide (j<1)then some ((([],[],[],[],[],[],[],[],()),0,260,()),((),(),(),(),()))else bif decide (j>1000)then some ((([],[],[],[],[],[],[],[],()),0,260,()),((),(),(),(),()))else bif y1.1 !=0 then some ((([],[],[],[],[],[],[],[],()),0,y1.1,()),((),(),(),(),()))else if 0<=a/\a<=a/\a<=1073741824 then if 0<=a/\a<=a/\a<=1073741824 then (g69L0 m m h i j a b c d f ([]:LI) ([]:LI) ([]:LI) ([]:LI) ([]:LI) ([]:LI) ([]:LI) ([]:LI) a b c d f (List.replicate a.toNat (0:Int)) (List.replicate a.toNat (0:Int)) ([]:LI) ([]:List Unit) ([]:List (LI×LI)) ([]:List (LI×LI)) ((List.replicate a.toNat (0:Int)).length:Int) 0).bind λy13=>match y13 with
         | .inl z14=>(g69L1 m m z14.1 z14.2.1 z14.2.2.1 z14.2.2.2.1.1 z14.2.2.2.1.2.1 z14.2.2.2.1.2.2.1 z14.2.2.2.1.2.2.2.1 z14.2.2.2.1.2.2.2.2.1 z14.2.2.2.2.1.1 z14.2.2.2.2.1.2.1 z14.2.2.2.2.1.2.2.1 z14.2.2.2.2.1.2.2.2.1 z14.2.2.2.2.1.2.2.2.2.1 z14.2.2.2.2.1.2.2.2.2.2.1 z14.2.2.2.2.1.2.2.2.2.2.2.1 z14.2.2.2.2.1.2.2.2.2.2.2.2.1 z14.2.2.2.2.2.1.1 z14.2.2.2.2.2.1.2.1 z14.2.2.2.2.2.1.2.2.1 z14.2.2.2.2.2.1.2.2.2.1 z14.2.2.2.2.2.1.2.2.2.2.1 z14.2.2.2.2.2.1.2.2.2.2.2.1 z14.2.2.2.2.2.1.2.2.2.2.2.2.1 z14.2.2.2.2.2.1.2.2.2.2.2.2.2.1 z14.2.2.2.2.2.1.2.2.2.2.2.2.2.2.1 z14.2.2.2.2.2.1.2.2.2.2.2.2.2.2.2.1 z14.2.2.2.2.2.1.2.2.2.2.2.2.2.2.2.2.1 z14.2.2.2.1.2.2.2.1 (z14.2.2.2.1.2.2.2.1.length:Int) 0).bind λy15=>match y15 with
          | .inl z16=>(g69L2 m m z16.1 z16.2.1 z16.2.2.1 z16.2.2.2.1.1 z16.2.2.2.1.2.1 z16.2.2.2.1.2.2.1 z16.2.2.2.1.2.2.2.1 z16.2.2.2.1.2.2.2.2.1 z16.2.2.2.2.1.1 z16.2.2.2.2.1.2.1 z16.2.2.2.2.1.2.2.1 z16.2.2.2.2.1.2.2.2.1 z16.2.2.2.2.1.2.2.2.2.1 z16.2.2.2.2.1.2.2.2.2.2.1 z16.2.2.2.2.1.2.2.2.2.2.2.1 z16.2.2.2.2.1.2.2.2.2.2.2.2.1 z16.2.2.2.2.2.1.1 z16.2.2.2.2.2.1.2.1 z16.2.2.2.2.2.1.2.2.1 z16.2.2.2.2.2.1.2.2.2.1 z16.2.2.2.2.2.1.2.2.2.2.1 z16.2.2.2.2.2.1.2.2.2.2.2.1 z16.2.2.2.2.2.1.2.2.2.2.2.2.1 z16.2.2.2.2.2.1.2.2.2.2.2.2.2.1 z16.2.2.2.2.2.1.2.2.2.2.2.2.2.2.1 z16.2.2.2.2.2.1.2.2.2.2.2.2.2.2.2.1 z16.2.2.2.2.2.1.2.2.2.2.2.2.2.2.2.2.1 z16.1 (z16.1.length:Int) 0).bind λy17=>match y17 with
           | .inl z18=>some (((z18.1.1,z18.1.2.1,z18.1.2.2.1,z18.1.2.2.2.1,z18.1.2.2.2.2.1,z18.1.2.2.2.2.2.1,z18.1.2.2.2.2.2.2.1,z18.1.2.2.2.2.2.2.2.1,()),z18.2.1,z18.2.2.1,()),((),(),(),(),()))
           | .inr (.inl z19)=>(g110 m z19.1).bind λy20=>(g111 m z19.2.2.2.1.1 z19.2.2.2.1.2.1 z19.2.2.2.1.2.2.1 z19.2.2.2.1.2.2.2.1 z19.2.2.2.1.2.2.2.2.1 z19.2.2.2.1.2.2.2.2.2.1 z19.2.2.2.1.2.2.2.2.2.2.1 z19.2.2.2.1.2.2.2.2.2.2.2.2.1 z19.2.2.2.1.2.2.2.2.2.2.2.2.2.1 z19.2.2.2.1.2.2.2.2.2.2.2.2.2.2.1 z19.2.2.2.1.2.2.2.2.2.2.2.2.2.1).bind λy21=>(g111 m y21.2.1.1 y21.2.1.2.1 y21.2.1.2.2.1 y21.2.1.2.2.2.1 y21.2.1.2.2.2.2.1 y21.2.1.2.2.2.2.2.1 y21.2.1.2.2.2.2.2.2.1 y21.2.1.2.2.2.2.2.2.2.2.1 y21.2.1.2.2.2.2.2.2.2.2.2.1 y21.2.1.2.2.2.2.2.2.2.2.2.2.1 y21.2.1.2.2.2.2.2.2.2.2.2.2.1).bind λy22=>some (((z19.2.2.2.1.2.2.2.2.2.2.2.1,y20.1,y21.1.1,y21.1.2.1,y21.1.2.2.1,y22.1.1,y22.1.2.1,y22.1.2.2.1,()),z19.2.1.2.1,0,()),((),(),(),(),()))
           | .inr (.inr e)=>e.elim
          | .inr e=>e.elim
         | .inr e=>e.elim else none else none
def g199 (m:Nat) (a:Int) (b:LI) (c:LI×Nat):Option tg1:=bif (b.length:Int)==0 then some (true,((),(),(),()))else if(0:Int)<=0/\0<(b.length:Int)then bif decide ((b.getD 0 0)>a)then if 0<=(wI ((b.length:Int)-1))/\(wI ((b.length:Int)-1))<(b.length:Int)then some (decide ((b.getD (wI ((b.length:Int)-1)).toNat 0)<(c.1.getD c.2 0)),((),(),(),()))else none else some (false,((),(),(),()))else none
def g201L1 (m:Nat):Nat->LI->LI->(LI×Nat)->Int->LI->Int->Int->Int->Option (tI2⊕(LI×LI×(LI×Nat)×Int×LI×Int×Int×Unit)⊕Empty)
 |0,_,_,_,_,_,_,_,_=>none
 |n+1,a,b,c,d,f,h,i,j=>bif decide (h<(f.length:Int))then if 0<=(wI (h-1))/\(wI (h-1))<(f.length:Int)then if 0<=h/\h<(f.length:Int)then bif decide ((f.getD (wI (h-1)).toNat 0)>=(f.getD h.toNat 0))then some (.inl (false,()))else g201L1 m n a b (c.1,c.2) d f (wI (h+1)) i j else none else none else some (.inr (.inl (a,b,(c.1,c.2),d,f,i,j,())))
def g201L0 (m:Nat):Nat->LI->LI->(LI×Nat)->Int->Int->Option tj1
 |0,_,_,_,_,_=>none
 |n+1,a,b,c,d,f=>bif decide (f<d)then if 0<=f/\f<(a.length:Int)then if 0<=(wI (f+1))/\(wI (f+1))<(a.length:Int)then bif decide ((a.getD f.toNat 0)>(a.getD (wI (f+1)).toNat 0))then some (.inl (false,()))else if 0<=(wI (f+1))/\(wI (f+1))<(a.length:Int)then bif decide ((a.getD (wI (f+1)).toNat 0)>(b.length:Int))then some (.inl (false,()))else if 0<=f/\f<(a.length:Int)then if 0<=(wI (f+1))/\(wI (f+1))<(a.length:Int)then if 0<=(a.getD f.toNat 0)/\(a.getD f.toNat 0)<=(a.getD (wI (f+1)).toNat 0)/\(a.getD (wI (f+1)).toNat 0)<=(b.length:Int)then (g201L1 m m a b (c.1,c.2) f ((b.drop (a.getD f.toNat 0).toNat).take ((a.getD (wI (f+1)).toNat 0).toNat-(a.getD f.toNat 0).toNat)) 1 d f).bind λy1=>match y1 with
     | .inl z2=>some (.inl (z2.1,()))
     | .inr (.inl z3)=>(g199 m z3.2.2.2.1 z3.2.2.2.2.1 (z3.2.2.1.1,z3.2.2.1.2)).bind λy4=>bif !y4.1 then some (.inl (false,()))else g201L0 m n z3.1 z3.2.1 (z3.2.2.1.1,z3.2.2.1.2) z3.2.2.2.2.2.1 (wI (z3.2.2.2.2.2.2.1+1))
     | .inr (.inr e)=>e.elim else none else none else none else none else none else none else some (.inr (.inl ()))
def g201 (m:Nat) (a:LI) (b:LI) (c:Int) (d:LI×Nat):Option tR1:=if(0:Int)<=0/\0<(a.length:Int)then bif (a.getD 0 0) !=0 then some (false,((),(),(),(),()))else if 0<=c/\c<(a.length:Int)then bif (a.getD c.toNat 0) !=(b.length:Int)then some (false,((),(),(),(),()))else (g201L0 m m a b (d.1,d.2) c 0).bind λy1=>match y1 with
   | .inl z2=>some (z2.1,((),(),(),(),()))
   | .inr (.inl z3)=>some (true,((),(),(),(),()))
   | .inr (.inr e)=>e.elim else none else none
def g200 (m:Nat) (a:Int) (b:LI):Option ts1:=bif decide ((b.length:Int)>0)then if(0:Int)<=0/\0<(b.length:Int)then bif decide ((b.getD 0 0)>=0)then if 0<=(wI ((b.length:Int)-1))/\(wI ((b.length:Int)-1))<(b.length:Int)then some ((b.getD (wI ((b.length:Int)-1)).toNat 0)==a,((),(),()))else none else some (false,((),(),()))else none else some (false,((),(),()))
def g201bL1 (m:Nat):Nat->LI->LI->Int->LI->Int->Int->Int->Option (tI2⊕(LI×LI×Unit×Int×LI×Int×Int×Unit)⊕Empty)
 |0,_,_,_,_,_,_,_=>none
 |n+1,a,b,c,d,f,h,i=>bif decide (f<(d.length:Int))then if 0<=(wI (f-1))/\(wI (f-1))<(d.length:Int)then if 0<=f/\f<(d.length:Int)then bif decide ((d.getD (wI (f-1)).toNat 0)>=(d.getD f.toNat 0))then some (.inl (false,()))else g201bL1 m n a b c d (wI (f+1)) h i else none else none else some (.inr (.inl (a,b,(),c,d,h,i,())))
def g201bL0 (m:Nat):Nat->LI->LI->Int->Int->Option tj1
 |0,_,_,_,_=>none
 |n+1,a,b,c,d=>bif decide (d<c)then if 0<=d/\d<(a.length:Int)then if 0<=(wI (d+1))/\(wI (d+1))<(a.length:Int)then bif decide ((a.getD d.toNat 0)>(a.getD (wI (d+1)).toNat 0))then some (.inl (false,()))else if 0<=(wI (d+1))/\(wI (d+1))<(a.length:Int)then bif decide ((a.getD (wI (d+1)).toNat 0)>(b.length:Int))then some (.inl (false,()))else if 0<=d/\d<(a.length:Int)then if 0<=(wI (d+1))/\(wI (d+1))<(a.length:Int)then if 0<=(a.getD d.toNat 0)/\(a.getD d.toNat 0)<=(a.getD (wI (d+1)).toNat 0)/\(a.getD (wI (d+1)).toNat 0)<=(b.length:Int)then (g201bL1 m m a b d ((b.drop (a.getD d.toNat 0).toNat).take ((a.getD (wI (d+1)).toNat 0).toNat-(a.getD d.toNat 0).toNat)) 1 c d).bind λy1=>match y1 with
     | .inl z2=>some (.inl (z2.1,()))
     | .inr (.inl z3)=>(g200 m z3.2.2.2.1 z3.2.2.2.2.1).bind λy4=>bif !y4.1 then some (.inl (false,()))else g201bL0 m n z3.1 z3.2.1 z3.2.2.2.2.2.1 (wI (z3.2.2.2.2.2.2.1+1))
     | .inr (.inr e)=>e.elim else none else none else none else none else none else none else some (.inr (.inl ()))
def g201b (m:Nat) (a:LI) (b:LI) (c:Int):Option tR1:=if(0:Int)<=0/\0<(a.length:Int)then bif (a.getD 0 0) !=0 then some (false,((),(),(),(),()))else if 0<=c/\c<(a.length:Int)then bif (a.getD c.toNat 0) !=(b.length:Int)then some (false,((),(),(),(),()))else (g201bL0 m m a b c 0).bind λy1=>match y1 with
   | .inl z2=>some (z2.1,((),(),(),(),()))
   | .inr (.inl z3)=>some (true,((),(),(),(),()))
   | .inr (.inr e)=>e.elim else none else none
def g161 (m:Nat) (a:LI) (b:LI) (c:LI) (d:LI) (f:LI) (h:LI) (i:LI) (j:LI):Option t81:=(g201 m c d ([(a.length:Int)].getD 0 0) ([(a.length:Int)],0)).bind λy1=>bif y1.1 then (g201b m h i ([(a.length:Int)].getD 0 0)).bind λy2=>some (y2.1,((),()))else some (false,((),()))
def g112L2 (m:Nat):Nat->LI->LI->LI->LI->LI->LI->LI->LI->Int->Int->Option tn1
 |0,_,_,_,_,_,_,_,_,_,_=>none
 |n+1,a,b,c,d,f,h,i,j,k,l=>bif decide (l<k)then if 0<=(wI (l+1))/\(wI (l+1))<(h.length:Int)then if 0<=(wI ((h.getD (wI (l+1)).toNat 0)-1))/\(wI ((h.getD (wI (l+1)).toNat 0)-1))<(j.length:Int)then (g63 m (j.getD (wI ((h.getD (wI (l+1)).toNat 0)-1)).toNat 0)).bind λy1=>bif y1.1==0 then some (.inl (4,()))else g112L2 m n a b c d f h i j k (wI (l+1))else none else none else some (.inr (.inl ()))
def g112L1 (m:Nat):Nat->LI->LI->LI->LI->LI->LI->LI->LI->Int->List LI->Int->Int->LI->Int->Int->Option (tJ2⊕(tW1×Int×List LI×Int×Int×Unit)⊕Empty)
 |0,_,_,_,_,_,_,_,_,_,_,_,_,_,_,_=>none
 |n+1,a,b,c,d,f,h,i,j,k,l,o,p,q,r,s=>bif decide (s<r)then if 0<=s/\s<(q.length:Int)then (g21 m (q.getD s.toNat 0)).bind λy1=>bif !y1.1 then some (.inl (4,()))else g112L1 m n a b c d f h i j k l o p q r (wI (s+1))else none else some (.inr (.inl ((a,b,c,d,f,h,i,j,()),k,l,o,p,())))
def g112L0 (m:Nat):Nat->LI->LI->LI->LI->LI->LI->LI->LI->Int->List LI->Int->Int->Option (tJ2⊕(tW1×Int×Unit)⊕Empty)
 |0,_,_,_,_,_,_,_,_,_,_,_,_=>none
 |n+1,a,b,c,d,f,h,i,j,k,l,o,p=>bif decide (p<o)then if 0<=p/\p<(l.length:Int)then (g112L1 m m a b c d f h i j k l o p (l.getD (0+p.toNat) ([]:LI)) ((l.getD (0+p.toNat) ([]:LI)).length:Int) 0).bind λy1=>match y1 with
   | .inl z2=>some (.inl (z2.1,()))
   | .inr (.inl z3)=>g112L0 m n z3.1.1 z3.1.2.1 z3.1.2.2.1 z3.1.2.2.2.1 z3.1.2.2.2.2.1 z3.1.2.2.2.2.2.1 z3.1.2.2.2.2.2.2.1 z3.1.2.2.2.2.2.2.2.1 z3.2.1 z3.2.2.1 z3.2.2.2.1 (wI (z3.2.2.2.2.1+1))
   | .inr (.inr e)=>e.elim else none else some (.inr (.inl ((a,b,c,d,f,h,i,j,()),k,())))
def g112 (m:Nat) (a:LI) (b:LI) (c:LI) (d:LI) (f:LI) (h:LI) (i:LI) (j:LI):Option tB2:=bif decide ((a.length:Int)>200)then some (6,((),()))else (g108 m a (a.length:Int)).bind λy1=>bif !y1.1 then some (90,((),()))else (g108 m b (a.length:Int)).bind λy2=>bif !y2.1 then some (90,((),()))else bif (c.length:Int) !=(wI ((a.length:Int)+1))then some (2,((),()))else bif (h.length:Int) !=(wI ((a.length:Int)+1))then some (2,((),()))else bif (d.length:Int) !=(f.length:Int)then some (2,((),()))else bif (i.length:Int) !=(j.length:Int)then some (2,((),()))else (g161 m a b c d f h i j).bind λy3=>bif !y3.1 then some (240,((),()))else (g112L0 m m a b c d f h i j (a.length:Int) ([f,j]:List LI) 2 0).bind λy4=>match y4 with
         | .inl z5=>some (z5.1,((),()))
         | .inr (.inl z6)=>(g112L2 m m z6.1.1 z6.1.2.1 z6.1.2.2.1 z6.1.2.2.2.1 z6.1.2.2.2.2.1 z6.1.2.2.2.2.2.1 z6.1.2.2.2.2.2.2.1 z6.1.2.2.2.2.2.2.2.1 z6.2.1 0).bind λy7=>match y7 with
          | .inl z8=>some (z8.1,((),()))
          | .inr (.inl z9)=>some (0,((),()))
          | .inr (.inr e)=>e.elim
         | .inr (.inr e)=>e.elim
def g202L0 (m:Nat):Nat->LI->Int->Int->Option tn1
 |0,_,_,_=>none
 |n+1,a,b,c=>bif decide (c<b)then if 0<=c/\c<(a.length:Int)then (g21 m (a.getD c.toNat 0)).bind λy1=>bif !y1.1 then some (.inl (4,()))else g202L0 m n a b (wI (c+1))else none else some (.inr (.inl ()))
def g202 (m:Nat) (a:LI):Option tB2:=(g202L0 m m a (a.length:Int) 0).bind λy1=>match y1 with
 | .inl z2=>some (z2.1,((),()))
 | .inr (.inl z3)=>some (0,((),()))
 | .inr (.inr e)=>e.elim
def g162 (m:Nat) (a:LI) (b:Int):Option tw1:=bif (a.length:Int) !=b then some (2,((),(),()))else (g202 m a).bind λy1=>some (y1.1,((),(),()))
def g164L0 (m:Nat):Nat->LI->LI->LI->Int->Int->Option tz1
 |0,_,_,_,_,_=>none
 |n+1,a,b,c,d,f=>bif decide (f<d)then if 0<=f/\f<(c.length:Int)then if 0<=(c.getD f.toNat 0)/\(c.getD f.toNat 0)<(a.length:Int)then if 0<=f/\f<(b.length:Int)then g164L0 m n a (b.set (0+f.toNat) (a.getD (c.getD f.toNat 0).toNat 0)) c d (wI (f+1))else none else none else none else some (.inl (b,()))
def g164 (m:Nat) (a:LI) (b:LI):Option tx1:=if 0<=(a.length:Int)/\(a.length:Int)<=(a.length:Int)/\(a.length:Int)<=1073741824 then (g164L0 m m a (List.replicate (a.length:Int).toNat (0:Int)) b (b.length:Int) 0).bind λy1=>match y1 with
 | .inl z2=>some (z2.1,((),(),()))
 | .inr e=>e.elim else none
def g165L0 (m:Nat):Nat->tN1->LI->Int->Int->Option tA1
 |0,_,_,_,_=>none
 |n+1,a,b,c,d=>bif decide (d<c)then if 0<=d/\d<(b.length:Int)then (g51 m (b.getD d.toNat 0)).bind λy1=>if 0<=d/\d<(a.length:Int)then g165L0 m n (a.set d.toNat ([(y1.1.1,((y1.1.2.1,y1.1.2.2.1),y1.1.2.2.2.1))]:List tt1)) b c (wI (d+1))else none else none else some (.inl (a,()))
def g165 (m:Nat) (a:LI):Option (tN1×Unit×Unit):=if 0<=(a.length:Int)/\(a.length:Int)<=(a.length:Int)/\(a.length:Int)<=1073741824 then (g165L0 m m (List.replicate (a.length:Int).toNat ([]:List tt1)) a (a.length:Int) 0).bind λy1=>match y1 with
 | .inl z2=>some (z2.1,((),()))
 | .inr e=>e.elim else none
def g175bL1 (m:Nat):Nat->tf1->Bool->Bool->LI->Int->Int->Bool->LI->tf1->Int->Int->Option ((tf1×tp1×Int×tC2×Unit)⊕Empty)
 |0,_,_,_,_,_,_,_,_,_,_,_=>none
 |n+1,a,b,c,d,f,h,i,j,k,l,o=>bif decide (o<l)then if 0<=o/\o<(k.length:Int)then (g131 m (k.getD (0+o.toNat) qz).2.1.1 (k.getD (0+o.toNat) qz).2.1.2 (wI ((k.getD (0+o.toNat) qz).2.2-h))).bind λy1=>(g85 m i j y1.1.1 y1.1.2.1).bind λy2=>g175bL1 m n a b c d f h y2.1.1 y2.1.2.1 k l (wI (o+1))else none else some (.inl (a,(b,c,d,f,()),h,(i,j,()),()))
def g175bL0 (m:Nat):Nat->tf1->Bool->Bool->LI->Int->tf1->Int->Int->Int->Option ((tf1×tp1×Unit)⊕(tf1×tp1×tf1×Int×Unit)⊕Empty)
 |0,_,_,_,_,_,_,_,_,_=>none
 |n+1,a,b,c,d,f,h,i,j,k=>bif decide (k<j)then if 0<=k/\k<(a.length:Int)then (g89 m (a.getD (0+k.toNat) qz).1 (a.getD (0+k.toNat) qz).2.1.1 (a.getD (0+k.toNat) qz).2.1.2 (a.getD (0+k.toNat) qz).2.2).bind λy1=>bif !y1.1.2.1 then (g82 m).bind λy2=>some (.inl (a,(y2.1.1,y2.1.2.1,y2.1.2.2.1,y2.1.2.2.2.1,()),()))else if h.length+([(y1.1.1.1,((y1.1.1.2.1,y1.1.1.2.2.1),y1.1.1.2.2.2.1))]:List tt1).length<=1073741824 then g175bL0 m n a b c d f (h++([(y1.1.1.1,((y1.1.1.2.1,y1.1.1.2.2.1),y1.1.1.2.2.2.1))]:List tt1)) (if y1.1.1.2.2.2.1<i then y1.1.1.2.2.2.1 else i) j (wI (k+1))else none else none else some (.inr (.inl (a,(b,c,d,f,()),h,i,())))
def g175b (m:Nat) (a:List tt1):Option tZ:=(g175bL0 m m a false false ([]:LI) 0 ([]:List tt1) 0 (a.length:Int) 0).bind λy1=>match y1 with
 | .inl z2=>some ((z2.2.1.1,z2.2.1.2.1,z2.2.1.2.2.1,z2.2.1.2.2.2.1,()),(z2.1,()))
 | .inr (.inl z3)=>(g175bL1 m m z3.1 z3.2.1.1 z3.2.1.2.1 z3.2.1.2.2.1 z3.2.1.2.2.2.1 z3.2.2.2.1 false ([]:LI) z3.2.2.1 (z3.2.2.1.length:Int) 0).bind λy4=>match y4 with
  | .inl z5=>(g84 m z5.2.2.2.1.1 z5.2.2.2.1.2.1 z5.2.2.1).bind λy6=>some ((y6.1.1,y6.1.2.1,y6.1.2.2.1,y6.1.2.2.2.1,()),(z5.1,()))
  | .inr e=>e.elim
 | .inr (.inr e)=>e.elim
def g166 (m:Nat) (a:List tf1) (b:Int):Option (tp1×tN1×Unit×Unit):=if 0<=b/\b<(a.length:Int)then (g175b m (a.getD b.toNat ([]:List tt1))).bind λy1=>some ((y1.1.1,y1.1.2.1,y1.1.2.2.1,y1.1.2.2.2.1,()),(a.set b.toNat y1.2.1,(),()))else none
def g167 (m:Nat) (a:List tf1) (b:Int) (c:Int) (d:Int):Option (Unit×tN1×Unit×Unit×Unit×Unit):=if 0<=b/\b<(a.length:Int)then (g51 m c).bind λy1=>(g51 m d).bind λy2=>(g122 m y1.1.1 y1.1.2.1 y1.1.2.2.1 y1.1.2.2.2.1 y2.1.1 y2.1.2.1 y2.1.2.2.1 y2.1.2.2.2.1).bind λy3=>(g152 m y3.1.1 y3.1.2.1 y3.1.2.2.1 y3.1.2.2.2.1).bind λy4=>if(a.getD b.toNat ([]:List tt1)).length+([(y4.1.1,((y4.1.2.1,y4.1.2.2.1),y4.1.2.2.2.1))]:List tt1).length<=1073741824 then if 0<=b/\b<(a.length:Int)then if b.toNat=b.toNat then some ((),(a.set b.toNat ((a.getD b.toNat ([]:List tt1))++([(y4.1.1,((y4.1.2.1,y4.1.2.2.1),y4.1.2.2.2.1))]:List tt1)),(),(),(),()))else none else none else none else none
def g163L1 (m:Nat):Nat->LI->LI->LI->tN1->LI->Int->Int->Int->Int->Option ((LI×LI×LI×tN1×LI×Int×Int×Unit)⊕Empty)
 |0,_,_,_,_,_,_,_,_,_=>none
 |n+1,a,b,c,d,f,h,i,j,k=>if 0<=(wI (h+1))/\(wI (h+1))<(a.length:Int)then bif decide (i<(a.getD (wI (h+1)).toNat 0))then if 0<=i/\i<(b.length:Int)then if 0<=i/\i<(c.length:Int)then if 0<=h/\h<(f.length:Int)then (g167 m d (b.getD i.toNat 0) (c.getD i.toNat 0) (f.getD (0+h.toNat) 0)).bind λy1=>g163L1 m n a b c y1.2.1 f h (wI (i+1)) j k else none else none else none else some (.inl (a,b,c,d,f,j,k,()))else none
def g163L0 (m:Nat):Nat->LI->LI->LI->tN1->LI->Int->Int->Option ((LI×Int×Unit)⊕(LI×Unit)⊕Empty)
 |0,_,_,_,_,_,_,_=>none
 |n+1,a,b,c,d,f,h,i=>bif decide (i<h)then (g166 m d i).bind λy1=>(g54 m y1.1.1 y1.1.2.1 y1.1.2.2.1 y1.1.2.2.2.1 0).bind λy2=>if 0<=i/\i<(f.length:Int)then if 0<=i/\i<((f.set (0+i.toNat) y2.1).length:Int)then (g21 m ((f.set (0+i.toNat) y2.1).getD (0+i.toNat) 0)).bind λy3=>bif !y3.1 then some (.inl ([],233,()))else if 0<=i/\i<(a.length:Int)then (g163L1 m m a b c y1.2.1 (f.set (0+i.toNat) y2.1) i (a.getD i.toNat 0) h i).bind λy4=>match y4 with
    | .inl z5=>g163L0 m n z5.1 z5.2.1 z5.2.2.1 z5.2.2.2.1 z5.2.2.2.2.1 z5.2.2.2.2.2.1 (wI (z5.2.2.2.2.2.2.1+1))
    | .inr e=>e.elim else none else none else none else some (.inr (.inl (f,())))
def g163 (m:Nat) (a:LI) (b:LI) (c:LI) (d:LI):Option ((LI×Int×Unit)×Unit×Unit×Unit×Unit×Unit):=(g165 m d).bind λy1=>if 0<=(d.length:Int)/\(d.length:Int)<=(d.length:Int)/\(d.length:Int)<=1073741824 then (g163L0 m m a b c y1.1 (List.replicate (d.length:Int).toNat (0:Int)) (d.length:Int) 0).bind λy2=>match y2 with
 | .inl z3=>some ((z3.1,z3.2.1,()),((),(),(),(),()))
 | .inr (.inl z4)=>some ((z4.1,0,()),((),(),(),(),()))
 | .inr (.inr e)=>e.elim else none
def g168L0 (m:Nat):Nat->LI->LI->LI->Int->Int->Option tz1
 |0,_,_,_,_,_=>none
 |n+1,a,b,c,d,f=>bif decide (f<d)then if 0<=f/\f<(c.length:Int)then if 0<=f/\f<(a.length:Int)then if 0<=(c.getD f.toNat 0)/\(c.getD f.toNat 0)<(b.length:Int)then g168L0 m n a (b.set (0+(c.getD f.toNat 0).toNat) (a.getD f.toNat 0)) c d (wI (f+1))else none else none else none else some (.inl (b,()))
def g168 (m:Nat) (a:LI) (b:LI):Option tx1:=if 0<=(a.length:Int)/\(a.length:Int)<=(a.length:Int)/\(a.length:Int)<=1073741824 then (g168L0 m m a (List.replicate (a.length:Int).toNat (0:Int)) b (b.length:Int) 0).bind λy1=>match y1 with
 | .inl z2=>some (z2.1,((),(),()))
 | .inr e=>e.elim else none
def g113L1 (m:Nat):Nat->LI->LI->LI->LI->LI->LI->LI->LI->tN1->LI->Int->Int->Int->Option ((tW1×tN1×LI×Int×Unit)⊕Empty)
 |0,_,_,_,_,_,_,_,_,_,_,_,_,_=>none
 |n+1,a,b,c,d,f,h,i,j,k,l,o,p,q=>bif decide (q<p)then if 0<=q/\q<(i.length:Int)then if 0<=q/\q<(j.length:Int)then if 0<=o/\o<(l.length:Int)then (g167 m k (i.getD q.toNat 0) (j.getD q.toNat 0) (l.getD (0+o.toNat) 0)).bind λy1=>g113L1 m n a b c d f h i j y1.2.1 l o p (wI (q+1))else none else none else none else some (.inl ((a,b,c,d,f,h,i,j,()),k,l,o,()))
def g113L0 (m:Nat):Nat->LI->LI->LI->LI->LI->LI->LI->LI->tN1->LI->Int->Option ((LI×Int×Unit)⊕(tW1×LI×Unit)⊕Empty)
 |0,_,_,_,_,_,_,_,_,_,_,_=>none
 |n+1,a,b,c,d,f,h,i,j,k,l,o=>bif decide (o>=0)then if 0<=(wI (o+1))/\(wI (o+1))<(h.length:Int)then (g166 m k o).bind λy1=>if 0<=(wI ((h.getD (wI (o+1)).toNat 0)-1))/\(wI ((h.getD (wI (o+1)).toNat 0)-1))<(j.length:Int)then (g51 m (j.getD (wI ((h.getD (wI (o+1)).toNat 0)-1)).toNat 0)).bind λy2=>(g121 m y1.1.1 y1.1.2.1 y1.1.2.2.1 y1.1.2.2.2.1 y2.1.1 y2.1.2.1 y2.1.2.2.1 y2.1.2.2.2.1 0).bind λy3=>if 0<=o/\o<(l.length:Int)then if 0<=o/\o<((l.set (0+o.toNat) y3.1).length:Int)then (g21 m ((l.set (0+o.toNat) y3.1).getD (0+o.toNat) 0)).bind λy4=>bif !y4.1 then some (.inl ([],233,()))else if 0<=o/\o<(h.length:Int)then (g113L1 m m a b c d f h i j y1.2.1 (l.set (0+o.toNat) y3.1) o (wI ((h.getD (wI (o+1)).toNat 0)-1)) (h.getD o.toNat 0)).bind λy5=>match y5 with
    | .inl z6=>g113L0 m n z6.1.1 z6.1.2.1 z6.1.2.2.1 z6.1.2.2.2.1 z6.1.2.2.2.2.1 z6.1.2.2.2.2.2.1 z6.1.2.2.2.2.2.2.1 z6.1.2.2.2.2.2.2.2.1 z6.2.1 z6.2.2.1 (wI (z6.2.2.2.1-1))
    | .inr e=>e.elim else none else none else none else none else none else some (.inr (.inl ((a,b,c,d,f,h,i,j,()),l,())))
def g113 (m:Nat) (a:LI) (b:LI) (c:LI) (d:LI) (f:LI) (h:LI) (i:LI) (j:LI) (k:LI):Option tX1:=(g112 m a b c d f h i j).bind λy1=>bif y1.1==0 then (g162 m k (a.length:Int)).bind λy2=>bif y2.1 !=0 then some (([],y2.1,()),((),(),()))else (g164 m k a).bind λy3=>(g163 m c d f y3.1).bind λy4=>bif y4.1.2.1 !=0 then some (([],y4.1.2.1,()),((),(),()))else (g165 m y4.1.1).bind λy5=>if 0<=(y4.1.1.length:Int)/\(y4.1.1.length:Int)<=(y4.1.1.length:Int)/\(y4.1.1.length:Int)<=1073741824 then (g113L0 m m a b c d f h i j y5.1 (List.replicate (y4.1.1.length:Int).toNat (0:Int)) (wI ((y4.1.1.length:Int)-1))).bind λy6=>match y6 with
    | .inl z7=>some ((z7.1,z7.2.1,()),((),(),()))
    | .inr (.inl z8)=>(g168 m z8.2.1 z8.1.2.1).bind λy9=>some ((y9.1,0,()),((),(),()))
    | .inr (.inr e)=>e.elim else none else bif y1.1 !=0 then some (([],y1.1,()),((),(),()))else (g164 m k a).bind λy10=>(g163 m c d f y10.1).bind λy11=>bif y11.1.2.1 !=0 then some (([],y11.1.2.1,()),((),(),()))else (g165 m y11.1.1).bind λy12=>if 0<=(y11.1.1.length:Int)/\(y11.1.1.length:Int)<=(y11.1.1.length:Int)/\(y11.1.1.length:Int)<=1073741824 then (g113L0 m m a b c d f h i j y12.1 (List.replicate (y11.1.1.length:Int).toNat (0:Int)) (wI ((y11.1.1.length:Int)-1))).bind λy13=>match y13 with
    | .inl z14=>some ((z14.1,z14.2.1,()),((),(),()))
    | .inr (.inl z15)=>(g168 m z15.2.1 z15.1.2.1).bind λy16=>some ((y16.1,0,()),((),(),()))
    | .inr (.inr e)=>e.elim else none
def g70L0 (m:Nat):Nat->LI->LI->LI->LI->LI->LI->LI->LI->Int->Int->LI->Int->Int->Int->LI->Int->Int->Option (tc1⊕(ty1×ty1×Unit)⊕Empty)
 |0,_,_,_,_,_,_,_,_,_,_,_,_,_,_,_,_,_=>none
 |n+1,a,b,c,d,f,h,i,j,k,l,o,p,q,r,s,t,u=>bif decide (u<t)then if 0<=p/\p<=p/\p<=1073741824 then if 0<=u/\u<((List.replicate p.toNat (0:Int)).length:Int)then (g113 m a b c d f h i j ((List.replicate p.toNat (0:Int)).set (0+u.toNat) 4607182418800017408)).bind λy1=>bif y1.1.2.1 !=0 then some (.inl ((0,0,[],()),y1.1.2.1,()))else if s.length+y1.1.1.length<=1073741824 then g70L0 m n a b c d f h i j k l o p q r (s++y1.1.1) t (wI (u+1))else none else none else none else some (.inr (.inl ((k,l,o,()),(q,r,s,()),())))
def g70 (m:Nat) (a:LI) (b:LI) (c:LI) (d:LI) (f:LI) (h:LI) (i:LI) (j:LI):Option (tc1×Unit×Unit):=(g112 m a b c d f h i j).bind λy1=>bif y1.1 !=0 then some (((0,0,[],()),y1.1,()),((),()))else bif decide ((a.length:Int)>64)then some (((0,0,[],()),6,()),((),()))else (g70L0 m m a b c d f h i j 0 0 ([]:LI) (a.length:Int) (a.length:Int) (a.length:Int) ([]:LI) (a.length:Int) 0).bind λy2=>match y2 with
   | .inl z3=>some (((z3.1.1,z3.1.2.1,z3.1.2.2.1,()),z3.2.1,()),((),()))
   | .inr (.inl z4)=>some (((z4.2.1.1,z4.2.1.2.1,z4.2.1.2.2.1,()),0,()),((),()))
   | .inr (.inr e)=>e.elim
def g169 (m:Nat) (a:Int) (b:Int) (c:LI) (d:LI) (f:LI) (h:LI) (i:LI) (j:LI) (k:LI) (l:LI) (o:LI) (p:LI) (q:LI) (r:Int):Option ti1:=(g27 m a b c d f).bind λy1=>bif y1.1 !=0 then some (y1.1,((),(),(),()))else (g112 m h i j k l o p q).bind λy2=>bif y2.1 !=0 then some (y2.1,((),(),(),()))else bif a !=(h.length:Int)then some (5,((),(),(),()))else bif b !=(h.length:Int)then some (5,((),(),(),()))else bif decide (r<0)then some (350,((),(),(),()))else bif decide (r>64)then some (350,((),(),(),()))else some (0,((),(),(),()))
def g171L0 (m:Nat):Nat->tf1->t01->Int->Int->Option tF1
 |0,_,_,_,_=>none
 |n+1,a,b,c,d=>bif decide (d<c)then if 0<=d/\d<(b.length:Int)then (g51 m (b.getD d.toNat (0,0)).1).bind λy1=>(g51 m (b.getD d.toNat (0,0)).2).bind λy2=>(g50 m y1.1.1 y1.1.2.1 y1.1.2.2.1 y1.1.2.2.2.1 y2.1.1 y2.1.2.1 y2.1.2.2.1 y2.1.2.2.2.1).bind λy3=>if a.length+([(y3.1.1,((y3.1.2.1,y3.1.2.2.1),y3.1.2.2.2.1))]:List tt1).length<=1073741824 then g171L0 m n (a++([(y3.1.1,((y3.1.2.1,y3.1.2.2.1),y3.1.2.2.2.1))]:List tt1)) b c (wI (d+1))else none else none else some (.inl (a,()))
def g171 (m:Nat) (a:List tK2):Option (tf1×Unit×Unit):=(g171L0 m m ([]:List tt1) a (a.length:Int) 0).bind λy1=>match y1 with
 | .inl z2=>some (z2.1,((),()))
 | .inr e=>e.elim
def g203L0 (m:Nat):Nat->LI->Int->Int->Option tj1
 |0,_,_,_=>none
 |n+1,a,b,c=>bif decide (c<b)then if 0<=c/\c<(a.length:Int)then (g21 m (a.getD c.toNat 0)).bind λy1=>bif !y1.1 then some (.inl (false,()))else g203L0 m n a b (wI (c+1))else none else some (.inr (.inl ()))
def g203 (m:Nat) (a:LI):Option t81:=(g203L0 m m a (a.length:Int) 0).bind λy1=>match y1 with
 | .inl z2=>some (z2.1,((),()))
 | .inr (.inl z3)=>some (true,((),()))
 | .inr (.inr e)=>e.elim
def g170L3 (m:Nat):Nat->LI->tN1->Int->Int->Option tz1
 |0,_,_,_,_=>none
 |n+1,a,b,c,d=>bif decide (d<c)then if 0<=d/\d<(b.length:Int)then (g175 m (b.getD d.toNat ([]:List tt1))).bind λy1=>(g54 m y1.1.1 y1.1.2.1 y1.1.2.2.1 y1.1.2.2.2.1 0).bind λy2=>if a.length+([y2.1]:LI).length<=1073741824 then g170L3 m n (a++([y2.1]:LI)) b c (wI (d+1))else none else none else some (.inl (a,()))
def g170L2 (m:Nat):Nat->tf1->Int->Int->LI->LI->LI->tN1->Int->Int->Int->Int->Option ((tf1×to1×tN1×Int×Int×Unit)⊕Empty)
 |0,_,_,_,_,_,_,_,_,_,_,_=>none
 |n+1,a,b,c,d,f,h,i,j,k,l,o=>if 0<=(wI (j+1))/\(wI (j+1))<(d.length:Int)then bif decide (k<(d.getD (wI (j+1)).toNat 0))then if 0<=k/\k<(f.length:Int)then if 0<=(f.getD k.toNat 0)/\(f.getD k.toNat 0)<(i.length:Int)then if 0<=k/\k<(h.length:Int)then (g51 m (h.getD k.toNat 0)).bind λy1=>if 0<=j/\j<(a.length:Int)then (g122 m y1.1.1 y1.1.2.1 y1.1.2.2.1 y1.1.2.2.2.1 (a.getD j.toNat qz).1 (a.getD j.toNat qz).2.1.1 (a.getD j.toNat qz).2.1.2 (a.getD j.toNat qz).2.2).bind λy2=>(g152 m y2.1.1 y2.1.2.1 y2.1.2.2.1 y2.1.2.2.2.1).bind λy3=>if(i.getD (f.getD k.toNat 0).toNat ([]:List tt1)).length+([(y3.1.1,((y3.1.2.1,y3.1.2.2.1),y3.1.2.2.2.1))]:List tt1).length<=1073741824 then if 0<=(f.getD k.toNat 0)/\(f.getD k.toNat 0)<(i.length:Int)then if(f.getD k.toNat 0).toNat=(f.getD k.toNat 0).toNat then g170L2 m n a b c d f h (i.set (f.getD k.toNat 0).toNat ((i.getD (f.getD k.toNat 0).toNat ([]:List tt1))++([(y3.1.1,((y3.1.2.1,y3.1.2.2.1),y3.1.2.2.2.1))]:List tt1))) j (wI (k+1)) l o else none else none else none else none else none else none else none else some (.inl (a,(b,c,d,f,h,()),i,l,o,()))else none
def g170L1 (m:Nat):Nat->tf1->Int->Int->LI->LI->LI->tN1->Int->Int->Option tA1
 |0,_,_,_,_,_,_,_,_,_=>none
 |n+1,a,b,c,d,f,h,i,j,k=>bif decide (k<j)then if 0<=k/\k<(d.length:Int)then (g170L2 m m a b c d f h i k (d.getD k.toNat 0) j k).bind λy1=>match y1 with
   | .inl z2=>g170L1 m n z2.1 z2.2.1.1 z2.2.1.2.1 z2.2.1.2.2.1 z2.2.1.2.2.2.1 z2.2.1.2.2.2.2.1 z2.2.2.1 z2.2.2.2.1 (wI (z2.2.2.2.2.1+1))
   | .inr e=>e.elim else none else some (.inl (i,()))
def g170L0 (m:Nat):Nat->tf1->Int->Int->LI->LI->LI->tN1->LI->Int->Int->Option ((tf1×to1×tN1×Unit)⊕Empty)
 |0,_,_,_,_,_,_,_,_,_,_=>none
 |n+1,a,b,c,d,f,h,i,j,k,l=>bif decide (l<k)then if 0<=l/\l<(j.length:Int)then (g51 m (j.getD l.toNat 0)).bind λy1=>if 0<=l/\l<(i.length:Int)then g170L0 m n a b c d f h (i.set l.toNat ([(y1.1.1,((y1.1.2.1,y1.1.2.2.1),y1.1.2.2.2.1))]:List tt1)) j k (wI (l+1))else none else none else some (.inl (a,(b,c,d,f,h,()),i,()))
def g170 (m:Nat) (a:Int) (b:Int) (c:LI) (d:LI) (f:LI) (h:List tt1) (i:LI):Option ((LI×Bool×Unit)×Unit×Unit×Unit×Unit):=if 0<=a/\a<=a/\a<=1073741824 then (g170L0 m m h a b c d f (List.replicate a.toNat ([]:List tt1)) i (i.length:Int) 0).bind λy1=>match y1 with
 | .inl z2=>(g170L1 m m z2.1 z2.2.1.1 z2.2.1.2.1 z2.2.1.2.2.1 z2.2.1.2.2.2.1 z2.2.1.2.2.2.2.1 z2.2.2.1 z2.2.1.2.1 0).bind λy3=>match y3 with
  | .inl z4=>(g170L3 m m ([]:LI) z4.1 (z4.1.length:Int) 0).bind λy5=>match y5 with
   | .inl z6=>(g203 m z6.1).bind λy7=>some ((z6.1,y7.1,()),((),(),(),()))
   | .inr e=>e.elim
  | .inr e=>e.elim
 | .inr e=>e.elim else none
def g172L0 (m:Nat):Nat->Int->LI->Int->Int->Option (tJ2⊕tJ2⊕Empty)
 |0,_,_,_,_=>none
 |n+1,a,b,c,d=>bif decide (d<c)then if 0<=d/\d<(b.length:Int)then (g63 m (b.getD d.toNat 0)).bind λy1=>bif y1.1==3 then some (.inl (9221120237041090560,()))else (g196 m (b.getD d.toNat 0)).bind λy2=>(g80 m y2.1 a).bind λy3=>bif decide (y3.1.1>0)then (g196 m (b.getD d.toNat 0)).bind λy4=>g172L0 m n y4.1 b c (wI (d+1))else g172L0 m n a b c (wI (d+1))else none else some (.inr (.inl (a,())))
def g172 (m:Nat) (a:LI):Option tB2:=(g172L0 m m 0 a (a.length:Int) 0).bind λy1=>match y1 with
 | .inl z2=>some (z2.1,((),()))
 | .inr (.inl z3)=>some (z3.1,((),()))
 | .inr (.inr e)=>e.elim
def g173 (m:Nat) (a:Int) (b:Int) (c:Int) (d:Bool):Option ((tE2×Bool×Unit)×Unit×Unit×Unit×Unit):=(g51 m a).bind λy1=>(g51 m b).bind λy2=>(g51 m c).bind λy3=>(g175 m ([(y1.1.1,((y1.1.2.1,y1.1.2.2.1),y1.1.2.2.2.1)),(y2.1.1,((y2.1.2.1,y2.1.2.2.1),y2.1.2.2.2.1)),(y3.1.1,((y3.1.2.1,y3.1.2.2.1),y3.1.2.2.2.1))]:List tt1)).bind λy4=>(g54 m y4.1.1 y4.1.2.1 y4.1.2.2.1 y4.1.2.2.2.1 0).bind λy5=>(g21 m y5.1).bind λy6=>bif !y6.1 then some (((y5.1,0,()),false,()),((),(),(),()))else bif d then (g51 m y5.1).bind λy7=>(g106 m y4.1.1 y4.1.2.1 y4.1.2.2.1 y4.1.2.2.2.1 y7.1.1 y7.1.2.1 y7.1.2.2.1 y7.1.2.2.2.1).bind λy8=>(g54 m y8.1.1 y8.1.2.1 y8.1.2.2.1 y8.1.2.2.2.1 0).bind λy9=>some (((y5.1,y9.1,()),true,()),((),(),(),()))else some (((y5.1,0,()),true,()),((),(),(),()))
def g174 (m:Nat) (a:Int) (b:Int):Option ts1:=(g51 m a).bind λy1=>(g104 m y1.1.1 y1.1.2.1 y1.1.2.2.1 y1.1.2.2.2.1 1).bind λy2=>(g51 m b).bind λy3=>(g75 m y2.1.1 y2.1.2.1 y2.1.2.2.1 y2.1.2.2.2.1 y3.1.1 y3.1.2.1 y3.1.2.2.1 y3.1.2.2.2.1).bind λy4=>some (decide (y4.1.1<=0),((),(),()))
def g114L2 (m:Nat):Nat->LI->Bool->Int->Int->LI->LI->LI->LI->LI->LI->LI->LI->LI->LI->LI->t01->LI->Int->LI->t01->Int->Int->Int->Int->Option (ta1⊕(LI×Bool×to1×tW1×t01×LI×Int×t01×Int×Int×Unit)⊕Empty)
 |0,_,_,_,_,_,_,_,_,_,_,_,_,_,_,_,_,_,_,_,_,_,_,_,_=>none
 |n+1,a,b,c,d,f,h,i,j,k,l,o,p,q,r,s,t,u,v,w,a0,a1,a2,a3,a4=>bif decide (a4<a3)then if 0<=a4/\a4<(t.length:Int)then if 0<=a4/\a4<(w.length:Int)then (g173 m (t.getD a4.toNat (0,0)).1 (t.getD a4.toNat (0,0)).2 (w.getD (0+a4.toNat) 0) b).bind λy1=>if 0<=a4/\a4<(a0.length:Int)then bif !y1.1.2.1 then some (.inl (([]:List tK2),[],233,()))else g114L2 m n a b c d f h i j k l o p q r s t u v w (a0.set (0+a4.toNat) (y1.1.1.1,y1.1.1.2.1)) a1 a2 a3 (wI (a4+1))else none else none else none else some (.inr (.inl (a,b,(c,d,f,h,i,()),(j,k,l,o,p,q,r,s,()),t,u,v,a0,a1,a2,())))
def g114L1 (m:Nat):Nat->LI->Bool->Int->Int->LI->LI->LI->LI->LI->LI->LI->LI->LI->LI->LI->t01->LI->LI->Int->Int->Option ((t01×LI×Unit)⊕ta1⊕Empty)
 |0,_,_,_,_,_,_,_,_,_,_,_,_,_,_,_,_,_,_,_,_=>none
 |n+1,a,b,c,d,f,h,i,j,k,l,o,p,q,r,s,t,u,v,w,a0=>bif decide (a0<w)then if 0<=(wI ((v.length:Int)-1))/\(wI ((v.length:Int)-1))<(v.length:Int)then (g63 m (v.getD (0+(wI ((v.length:Int)-1)).toNat) 0)).bind λy1=>bif y1.1==0 then some (.inl (t,v,()))else (g113 m j k l o p q r s u).bind λy2=>bif y2.1.2.1 !=0 then some (.inr (.inl (([]:List tK2),[],y2.1.2.1,())))else if 0<=(t.length:Int)/\(t.length:Int)<=(t.length:Int)/\(t.length:Int)<=1073741824 then (g114L2 m m a b c d f h i j k l o p q r s t v (v.getD (0+(wI ((v.length:Int)-1)).toNat) 0) y2.1.1 (List.replicate (t.length:Int).toNat ((0,0):Int×Int)) w a0 (t.length:Int) 0).bind λy3=>match y3 with
     | .inl z4=>some (.inr (.inl (z4.1,z4.2.1,z4.2.2.1,())))
     | .inr (.inl z5)=>(g171 m z5.2.2.2.2.2.2.2.1).bind λy6=>(g170 m z5.2.2.1.1 z5.2.2.1.2.1 z5.2.2.1.2.2.1 z5.2.2.1.2.2.2.1 z5.2.2.1.2.2.2.2.1 y6.1 z5.1).bind λy7=>bif !y7.1.2.1 then some (.inr (.inl (([]:List tK2),[],233,())))else (g172 m y7.1.1).bind λy8=>(g174 m y8.1 z5.2.2.2.2.2.2.1).bind λy9=>bif !y9.1 then some (.inl (z5.2.2.2.2.1,z5.2.2.2.2.2.1,()))else (g172 m y7.1.1).bind λy10=>if z5.2.2.2.2.2.1.length+([y10.1]:LI).length<=1073741824 then g114L1 m n z5.1 z5.2.1 z5.2.2.1.1 z5.2.2.1.2.1 z5.2.2.1.2.2.1 z5.2.2.1.2.2.2.1 z5.2.2.1.2.2.2.2.1 z5.2.2.2.1.1 z5.2.2.2.1.2.1 z5.2.2.2.1.2.2.1 z5.2.2.2.1.2.2.2.1 z5.2.2.2.1.2.2.2.2.1 z5.2.2.2.1.2.2.2.2.2.1 z5.2.2.2.1.2.2.2.2.2.2.1 z5.2.2.2.1.2.2.2.2.2.2.2.1 z5.2.2.2.2.2.2.2.1 y7.1.1 (z5.2.2.2.2.2.1++([y10.1]:LI)) z5.2.2.2.2.2.2.2.2.1 (wI (z5.2.2.2.2.2.2.2.2.2.1+1))else none
     | .inr (.inr e)=>e.elim else none else none else some (.inl (t,v,()))
def g114L0 (m:Nat):Nat->LI->Int->Bool->Int->Int->LI->LI->LI->LI->LI->LI->LI->LI->LI->LI->LI->t01->LI->Int->Int->Option ((LI×Int×Bool×to1×tW1×t01×Unit)⊕Empty)
 |0,_,_,_,_,_,_,_,_,_,_,_,_,_,_,_,_,_,_,_,_=>none
 |n+1,a,b,c,d,f,h,i,j,k,l,o,p,q,r,s,t,u,v,w,a0=>bif decide (a0<w)then if 0<=a0/\a0<(v.length:Int)then if u.length+([(v.getD (0+a0.toNat) 0,0)]:List tK2).length<=1073741824 then g114L0 m n a b c d f h i j k l o p q r s t (u++([(v.getD (0+a0.toNat) 0,0)]:List tK2)) v w (wI (a0+1))else none else none else some (.inl (a,b,c,(d,f,h,i,j,()),(k,l,o,p,q,r,s,t,()),u,()))
def g114 (m:Nat) (a:Int) (b:Int) (c:LI) (d:LI) (f:LI) (h:LI) (i:LI) (j:LI) (k:LI) (l:LI) (o:LI) (p:LI) (q:LI) (r:LI) (s:Int) (t:Bool):Option (ta1×Unit×Unit×Unit×Unit×Unit×Unit):=(g169 m a b c d f h i j k l o p q s).bind λy1=>bif y1.1 !=0 then some ((([]:List tK2),[],y1.1,()),((),(),(),(),(),()))else (g113 m h i j k l o p q r).bind λy2=>bif y2.1.2.1 !=0 then some ((([]:List tK2),[],y2.1.2.1,()),((),(),(),(),(),()))else (g114L0 m m r s t a b c d f h i j k l o p q ([]:List tK2) y2.1.1 (y2.1.1.length:Int) 0).bind λy3=>match y3 with
   | .inl z4=>(g171 m z4.2.2.2.2.2.1).bind λy5=>(g170 m z4.2.2.2.1.1 z4.2.2.2.1.2.1 z4.2.2.2.1.2.2.1 z4.2.2.2.1.2.2.2.1 z4.2.2.2.1.2.2.2.2.1 y5.1 z4.1).bind λy6=>bif !y6.1.2.1 then some ((([]:List tK2),[],233,()),((),(),(),(),(),()))else (g172 m y6.1.1).bind λy7=>(g114L1 m m z4.1 z4.2.2.1 z4.2.2.2.1.1 z4.2.2.2.1.2.1 z4.2.2.2.1.2.2.1 z4.2.2.2.1.2.2.2.1 z4.2.2.2.1.2.2.2.2.1 z4.2.2.2.2.1.1 z4.2.2.2.2.1.2.1 z4.2.2.2.2.1.2.2.1 z4.2.2.2.2.1.2.2.2.1 z4.2.2.2.2.1.2.2.2.2.1 z4.2.2.2.2.1.2.2.2.2.2.1 z4.2.2.2.2.1.2.2.2.2.2.2.1 z4.2.2.2.2.1.2.2.2.2.2.2.2.1 z4.2.2.2.2.2.1 y6.1.1 ([y7.1]:LI) z4.2.1 0).bind λy8=>match y8 with
     | .inl z9=>some ((z9.1,z9.2.1,0,()),((),(),(),(),(),()))
     | .inr (.inl z10)=>some ((z10.1,z10.2.1,z10.2.2.1,()),((),(),(),(),(),()))
     | .inr (.inr e)=>e.elim
   | .inr e=>e.elim
def g71L0 (m:Nat):Nat->LI->Int->LI->t01->Int->Int->Option ((LI×Int×LI×Unit)⊕Empty)
 |0,_,_,_,_,_,_=>none
 |n+1,a,b,c,d,f,h=>bif decide (h<f)then if 0<=h/\h<(d.length:Int)then if c.length+([(d.getD h.toNat (0,0)).1]:LI).length<=1073741824 then g71L0 m n a b (c++([(d.getD h.toNat (0,0)).1]:LI)) d f (wI (h+1))else none else none else some (.inl (a,b,c,()))
def g71 (m:Nat) (a:Int) (b:Int) (c:LI) (d:LI) (f:LI) (h:LI) (i:LI) (j:LI) (k:LI) (l:LI) (o:LI) (p:LI) (q:LI) (r:LI) (s:Int):Option ((LI×LI×Int×Unit)×Unit×Unit×Unit×Unit×Unit):=(g114 m a b c d f h i j k l o p q r s false).bind λy1=>(g71L0 m m y1.1.2.1 y1.1.2.2.1 ([]:LI) y1.1.1 (y1.1.1.length:Int) 0).bind λy2=>match y2 with
 | .inl z3=>some ((z3.2.2.1,z3.1,z3.2.1,()),((),(),(),(),()))
 | .inr e=>e.elim
def g119 (m:Nat) (a:Bool) (b:Bool) (c:LI) (d:Int):Option tM1:=(g89 m a b c d).bind λy1=>bif y1.1.2.1 then (g143 m y1.1.1.2.1 y1.1.1.2.2.1).bind λy2=>some ((y1.1.1.1,y2.1.1,y2.1.2.1,y1.1.1.2.2.2.1,()),((),()))else some ((y1.1.1.1,y1.1.1.2.1,y1.1.1.2.2.1,y1.1.1.2.2.2.1,()),((),()))
def g115L3 (m:Nat):Nat->tf1->tN1->Int->Int->Option tF1
 |0,_,_,_,_=>none
 |n+1,a,b,c,d=>bif decide (d<c)then if 0<=d/\d<(b.length:Int)then (g175 m (b.getD d.toNat ([]:List tt1))).bind λy1=>if 0<=d/\d<(a.length:Int)then g115L3 m n (a.set (0+d.toNat) (y1.1.1,((y1.1.2.1,y1.1.2.2.1),y1.1.2.2.2.1))) b c (wI (d+1))else none else none else some (.inl (a,()))
def g115L2 (m:Nat):Nat->Int->Int->LI->LI->LI->Int->Int->LI->tN1->Int->Int->tf1->Int->Int->Int->Int->Int->Option ((to1×ty1×tN1×Int×Int×tf1×Int×Int×Int×Int×Unit)⊕Empty)
 |0,_,_,_,_,_,_,_,_,_,_,_,_,_,_,_,_,_=>none
 |n+1,a,b,c,d,f,h,i,j,k,l,o,p,q,r,s,t,u=>if 0<=(wI (l+1))/\(wI (l+1))<(c.length:Int)then bif decide (q<(c.getD (wI (l+1)).toNat 0))then if 0<=q/\q<(d.length:Int)then if 0<=(wI ((wI ((d.getD q.toNat 0)*h))+o))/\(wI ((wI ((d.getD q.toNat 0)*h))+o))<(j.length:Int)then (g51 m (j.getD (wI ((wI ((d.getD q.toNat 0)*h))+o)).toNat 0)).bind λy1=>if 0<=q/\q<(f.length:Int)then (g51 m (f.getD q.toNat 0)).bind λy2=>(g122 m y1.1.1 y1.1.2.1 y1.1.2.2.1 y1.1.2.2.2.1 y2.1.1 y2.1.2.1 y2.1.2.2.1 y2.1.2.2.2.1).bind λy3=>(g152 m y3.1.1 y3.1.2.1 y3.1.2.2.1 y3.1.2.2.2.1).bind λy4=>if p.length+([(y4.1.1,((y4.1.2.1,y4.1.2.2.1),y4.1.2.2.2.1))]:List tt1).length<=1073741824 then g115L2 m n a b c d f h i j k l o (p++([(y4.1.1,((y4.1.2.1,y4.1.2.2.1),y4.1.2.2.2.1))]:List tt1)) (wI (q+1)) r s t u else none else none else none else none else some (.inl ((a,b,c,d,f,()),(h,i,j,()),k,l,o,p,r,s,t,u,()))else none
def g115L1 (m:Nat):Nat->Int->Int->LI->LI->LI->Int->Int->LI->tN1->Int->Int->Int->Int->Int->Option ((to1×ty1×tN1×Int×Int×Unit)⊕Empty)
 |0,_,_,_,_,_,_,_,_,_,_,_,_,_,_=>none
 |n+1,a,b,c,d,f,h,i,j,k,l,o,p,q,r=>bif decide (r<q)then bif r==l then (g116 m 1).bind λy1=>if([]:List tt1).length+([(y1.1.1,((y1.1.2.1,y1.1.2.2.1),y1.1.2.2.2.1))]:List tt1).length<=1073741824 then if 0<=l/\l<(c.length:Int)then (g115L2 m m a b c d f h i j k l r (([]:List tt1)++([(y1.1.1,((y1.1.2.1,y1.1.2.2.1),y1.1.2.2.2.1))]:List tt1)) (c.getD l.toNat 0) o p q r).bind λy2=>match y2 with
    | .inl z3=>if 0<=z3.2.2.2.2.1/\z3.2.2.2.2.1<(z3.2.2.1.length:Int)then (g175 m z3.2.2.2.2.2.1).bind λy4=>(g119 m y4.1.1 y4.1.2.1 y4.1.2.2.1 y4.1.2.2.2.1).bind λy5=>if(z3.2.2.1.getD z3.2.2.2.2.1.toNat ([]:List tt1)).length+([(y5.1.1,((y5.1.2.1,y5.1.2.2.1),y5.1.2.2.2.1))]:List tt1).length<=1073741824 then if 0<=z3.2.2.2.2.1/\z3.2.2.2.2.1<(z3.2.2.1.length:Int)then if z3.2.2.2.2.1.toNat=z3.2.2.2.2.1.toNat then g115L1 m n z3.1.1 z3.1.2.1 z3.1.2.2.1 z3.1.2.2.2.1 z3.1.2.2.2.2.1 z3.2.1.1 z3.2.1.2.1 z3.2.1.2.2.1 (z3.2.2.1.set z3.2.2.2.2.1.toNat ((z3.2.2.1.getD z3.2.2.2.2.1.toNat ([]:List tt1))++([(y5.1.1,((y5.1.2.1,y5.1.2.2.1),y5.1.2.2.2.1))]:List tt1))) z3.2.2.2.1 z3.2.2.2.2.2.2.1 z3.2.2.2.2.2.2.2.1 z3.2.2.2.2.2.2.2.2.1 (wI (z3.2.2.2.2.2.2.2.2.2.1+1))else none else none else none else none
    | .inr e=>e.elim else none else none else if 0<=l/\l<(c.length:Int)then (g115L2 m m a b c d f h i j k l r ([]:List tt1) (c.getD l.toNat 0) o p q r).bind λy6=>match y6 with
    | .inl z7=>if 0<=z7.2.2.2.2.1/\z7.2.2.2.2.1<(z7.2.2.1.length:Int)then (g175 m z7.2.2.2.2.2.1).bind λy8=>(g119 m y8.1.1 y8.1.2.1 y8.1.2.2.1 y8.1.2.2.2.1).bind λy9=>if(z7.2.2.1.getD z7.2.2.2.2.1.toNat ([]:List tt1)).length+([(y9.1.1,((y9.1.2.1,y9.1.2.2.1),y9.1.2.2.2.1))]:List tt1).length<=1073741824 then if 0<=z7.2.2.2.2.1/\z7.2.2.2.2.1<(z7.2.2.1.length:Int)then if z7.2.2.2.2.1.toNat=z7.2.2.2.2.1.toNat then g115L1 m n z7.1.1 z7.1.2.1 z7.1.2.2.1 z7.1.2.2.2.1 z7.1.2.2.2.2.1 z7.2.1.1 z7.2.1.2.1 z7.2.1.2.2.1 (z7.2.2.1.set z7.2.2.2.2.1.toNat ((z7.2.2.1.getD z7.2.2.2.2.1.toNat ([]:List tt1))++([(y9.1.1,((y9.1.2.1,y9.1.2.2.1),y9.1.2.2.2.1))]:List tt1))) z7.2.2.2.1 z7.2.2.2.2.2.2.1 z7.2.2.2.2.2.2.2.1 z7.2.2.2.2.2.2.2.2.1 (wI (z7.2.2.2.2.2.2.2.2.2.1+1))else none else none else none else none
    | .inr e=>e.elim else none else some (.inl ((a,b,c,d,f,()),(h,i,j,()),k,o,p,()))
def g115L0 (m:Nat):Nat->Int->Int->LI->LI->LI->Int->Int->LI->tN1->Int->Int->Option tV
 |0,_,_,_,_,_,_,_,_,_,_,_=>none
 |n+1,a,b,c,d,f,h,i,j,k,l,o=>bif decide (o<l)then (g115L1 m m a b c d f h i j k o l o a 0).bind λy1=>match y1 with
   | .inl z2=>g115L0 m n z2.1.1 z2.1.2.1 z2.1.2.2.1 z2.1.2.2.2.1 z2.1.2.2.2.2.1 z2.2.1.1 z2.2.1.2.1 z2.2.1.2.2.1 z2.2.2.1 z2.2.2.2.1 (wI (z2.2.2.2.2.1+1))
   | .inr e=>e.elim else some (.inl ((a,b,c,d,f,()),k,()))
def g115 (m:Nat) (a:Int) (b:Int) (c:LI) (d:LI) (f:LI) (h:Int) (i:Int) (j:LI):Option (tf1×Unit×Unit×Unit):=if 0<=a/\a<=a/\a<=1073741824 then (g115L0 m m a b c d f h i j (List.replicate a.toNat ([]:List tt1)) b 0).bind λy1=>match y1 with
 | .inl z2=>if 0<=z2.1.1/\z2.1.1<=z2.1.1/\z2.1.1<=1073741824 then (g115L3 m m (List.replicate z2.1.1.toNat (qz:Bool×tL2×Int)) z2.2.1 (z2.2.1.length:Int) 0).bind λy3=>match y3 with
  | .inl z4=>some (z4.1,((),(),()))
  | .inr e=>e.elim else none
 | .inr e=>e.elim else none
def g117L0 (m:Nat):Nat->Bool->Bool->LI->Int->Bool->Bool->LI->Int->tf1->Int->Int->Option ((tp1×tp1×Unit)⊕Empty)
 |0,_,_,_,_,_,_,_,_,_,_,_=>none
 |n+1,a,b,c,d,f,h,i,j,k,l,o=>bif decide (o<l)then if 0<=o/\o<(k.length:Int)then (g75 m (k.getD o.toNat qz).1 (k.getD o.toNat qz).2.1.1 (k.getD o.toNat qz).2.1.2 (k.getD o.toNat qz).2.2 f h i j).bind λy1=>bif decide (y1.1.1>0)then g117L0 m n a b c d (k.getD o.toNat qz).1 (k.getD o.toNat qz).2.1.1 (k.getD o.toNat qz).2.1.2 (k.getD o.toNat qz).2.2 k l (wI (o+1))else g117L0 m n a b c d f h i j k l (wI (o+1))else none else some (.inl ((a,b,c,d,()),(f,h,i,j,()),()))
def g117 (m:Nat) (a:List tt1):Option tM1:=(g116 m 0).bind λy1=>(g117L0 m m false false ([]:LI) 0 y1.1.1 y1.1.2.1 y1.1.2.2.1 y1.1.2.2.2.1 a (a.length:Int) 0).bind λy2=>match y2 with
 | .inl z3=>some ((z3.2.1.1,z3.2.1.2.1,z3.2.1.2.2.1,z3.2.1.2.2.2.1,()),((),()))
 | .inr e=>e.elim
def g118L3 (m:Nat):Nat->tf1->tN1->Int->Int->Option tF1
 |0,_,_,_,_=>none
 |n+1,a,b,c,d=>bif decide (d<c)then if 0<=d/\d<(b.length:Int)then (g175 m (b.getD d.toNat ([]:List tt1))).bind λy1=>if 0<=d/\d<(a.length:Int)then g118L3 m n (a.set (0+d.toNat) (y1.1.1,((y1.1.2.1,y1.1.2.2.1),y1.1.2.2.2.1))) b c (wI (d+1))else none else none else some (.inl (a,()))
def g118L2 (m:Nat):Nat->LI->Int->Int->LI->LI->LI->tN1->Int->Int->Int->Int->Option ((LI×to1×tN1×Int×Int×Unit)⊕Empty)
 |0,_,_,_,_,_,_,_,_,_,_,_=>none
 |n+1,a,b,c,d,f,h,i,j,k,l,o=>if 0<=(wI (j+1))/\(wI (j+1))<(d.length:Int)then bif decide (k<(d.getD (wI (j+1)).toNat 0))then if 0<=k/\k<(f.length:Int)then if 0<=(f.getD k.toNat 0)/\(f.getD k.toNat 0)<(i.length:Int)then if 0<=k/\k<(h.length:Int)then (g51 m (h.getD k.toNat 0)).bind λy1=>if 0<=j/\j<(a.length:Int)then (g51 m (a.getD j.toNat 0)).bind λy2=>(g122 m y1.1.1 y1.1.2.1 y1.1.2.2.1 y1.1.2.2.2.1 y2.1.1 y2.1.2.1 y2.1.2.2.1 y2.1.2.2.2.1).bind λy3=>(g152 m y3.1.1 y3.1.2.1 y3.1.2.2.1 y3.1.2.2.2.1).bind λy4=>if(i.getD (f.getD k.toNat 0).toNat ([]:List tt1)).length+([(y4.1.1,((y4.1.2.1,y4.1.2.2.1),y4.1.2.2.2.1))]:List tt1).length<=1073741824 then if 0<=(f.getD k.toNat 0)/\(f.getD k.toNat 0)<(i.length:Int)then if(f.getD k.toNat 0).toNat=(f.getD k.toNat 0).toNat then g118L2 m n a b c d f h (i.set (f.getD k.toNat 0).toNat ((i.getD (f.getD k.toNat 0).toNat ([]:List tt1))++([(y4.1.1,((y4.1.2.1,y4.1.2.2.1),y4.1.2.2.2.1))]:List tt1))) j (wI (k+1)) l o else none else none else none else none else none else none else none else some (.inl (a,(b,c,d,f,h,()),i,l,o,()))else none
def g118L1 (m:Nat):Nat->LI->Int->Int->LI->LI->LI->tN1->Int->Int->Option tV
 |0,_,_,_,_,_,_,_,_,_=>none
 |n+1,a,b,c,d,f,h,i,j,k=>bif decide (k<j)then if 0<=k/\k<(d.length:Int)then (g118L2 m m a b c d f h i k (d.getD k.toNat 0) j k).bind λy1=>match y1 with
   | .inl z2=>g118L1 m n z2.1 z2.2.1.1 z2.2.1.2.1 z2.2.1.2.2.1 z2.2.1.2.2.2.1 z2.2.1.2.2.2.2.1 z2.2.2.1 z2.2.2.2.1 (wI (z2.2.2.2.2.1+1))
   | .inr e=>e.elim else none else some (.inl ((b,c,d,f,h,()),i,()))
def g118L0 (m:Nat):Nat->LI->Int->Int->LI->LI->LI->tN1->LI->Int->Int->Option ((LI×to1×tN1×Unit)⊕Empty)
 |0,_,_,_,_,_,_,_,_,_,_=>none
 |n+1,a,b,c,d,f,h,i,j,k,l=>bif decide (l<k)then if 0<=l/\l<(j.length:Int)then (g51 m (j.getD l.toNat 0)).bind λy1=>if 0<=l/\l<(i.length:Int)then g118L0 m n a b c d f h (i.set l.toNat ([(y1.1.1,((y1.1.2.1,y1.1.2.2.1),y1.1.2.2.2.1))]:List tt1)) j k (wI (l+1))else none else none else some (.inl (a,(b,c,d,f,h,()),i,()))
def g118 (m:Nat) (a:Int) (b:Int) (c:LI) (d:LI) (f:LI) (h:LI) (i:LI):Option (tf1×Unit×Unit×Unit×Unit):=if 0<=a/\a<=a/\a<=1073741824 then (g118L0 m m h a b c d f (List.replicate a.toNat ([]:List tt1)) i (i.length:Int) 0).bind λy1=>match y1 with
 | .inl z2=>(g118L1 m m z2.1 z2.2.1.1 z2.2.1.2.1 z2.2.1.2.2.1 z2.2.1.2.2.2.1 z2.2.1.2.2.2.2.1 z2.2.2.1 z2.2.1.2.1 0).bind λy3=>match y3 with
  | .inl z4=>if 0<=z4.1.1/\z4.1.1<=z4.1.1/\z4.1.1<=1073741824 then (g118L3 m m (List.replicate z4.1.1.toNat (qz:Bool×tL2×Int)) z4.2.1 (z4.2.1.length:Int) 0).bind λy5=>match y5 with
   | .inl z6=>some (z6.1,((),(),(),()))
   | .inr e=>e.elim else none
  | .inr e=>e.elim
 | .inr e=>e.elim else none
def g120L0 (m:Nat):Nat->Int->tf1->Int->Int->LI->Bool->Bool->LI->Int->tf1->Int->Int->Option (tZ⊕Empty)
 |0,_,_,_,_,_,_,_,_,_,_,_,_=>none
 |n+1,a,b,c,d,f,h,i,j,k,l,o,p=>bif decide (p<o)then if 0<=(wI ((wI (p*c))+a))/\(wI ((wI (p*c))+a))<(f.length:Int)then (g51 m (f.getD (wI ((wI (p*c))+a)).toNat 0)).bind λy1=>if 0<=p/\p<(b.length:Int)then (g122 m y1.1.1 y1.1.2.1 y1.1.2.2.1 y1.1.2.2.2.1 (b.getD p.toNat qz).1 (b.getD p.toNat qz).2.1.1 (b.getD p.toNat qz).2.1.2 (b.getD p.toNat qz).2.2).bind λy2=>if l.length+([(y2.1.1,((y2.1.2.1,y2.1.2.2.1),y2.1.2.2.2.1))]:List tt1).length<=1073741824 then g120L0 m n a b c d f h i j k (l++([(y2.1.1,((y2.1.2.1,y2.1.2.2.1),y2.1.2.2.2.1))]:List tt1)) o (wI (p+1))else none else none else none else some (.inl ((h,i,j,k,()),l,()))
def g120 (m:Nat) (a:Int) (b:Int) (c:LI) (d:Int) (f:List tt1):Option (tp1×Unit×Unit×Unit×Unit):=(g120L0 m m d f a b c false false ([]:LI) 0 ([]:List tt1) b 0).bind λy1=>match y1 with
 | .inl z2=>(g175 m z2.2.1).bind λy3=>some ((y3.1.1,y3.1.2.1,y3.1.2.2.1,y3.1.2.2.2.1,()),((),(),(),()))
 | .inr e=>e.elim
def g72L1 (m:Nat):Nat->tf1->Bool->Bool->LI->Int->tf1->Bool->Bool->LI->Int->t01->LI->Int->Int->Option ((t01×Unit)⊕Empty)
 |0,_,_,_,_,_,_,_,_,_,_,_,_,_,_=>none
 |n+1,a,b,c,d,f,h,i,j,k,l,o,p,q,r=>bif decide (r<q)then if 0<=r/\r<(p.length:Int)then if 0<=r/\r<(h.length:Int)then (g122 m (h.getD r.toNat qz).1 (h.getD r.toNat qz).2.1.1 (h.getD r.toNat qz).2.1.2 (h.getD r.toNat qz).2.2 b c d f).bind λy1=>if 0<=r/\r<(a.length:Int)then (g122 m (a.getD r.toNat qz).1 (a.getD r.toNat qz).2.1.1 (a.getD r.toNat qz).2.1.2 (a.getD r.toNat qz).2.2 i j k l).bind λy2=>(g50 m y1.1.1 y1.1.2.1 y1.1.2.2.1 y1.1.2.2.2.1 y2.1.1 y2.1.2.1 y2.1.2.2.1 y2.1.2.2.2.1).bind λy3=>(g121 m y3.1.1 y3.1.2.1 y3.1.2.2.1 y3.1.2.2.2.1 b c d f 2).bind λy4=>(g32 m (p.getD r.toNat 0) y4.1 1).bind λy5=>(g25 m (p.getD r.toNat 0) y4.1 2).bind λy6=>if o.length+([(y5.1,y6.1)]:List tK2).length<=1073741824 then g72L1 m n a b c d f h i j k l (o++([(y5.1,y6.1)]:List tK2)) p q (wI (r+1))else none else none else none else none else some (.inl (o,()))
def g72L0 (m:Nat):Nat->Int->Int->LI->LI->tf1->Bool->Bool->LI->Int->tf1->tf1->Int->Int->Option ((tv1×tf1×tp1×tf1×Unit)⊕Empty)
 |0,_,_,_,_,_,_,_,_,_,_,_,_,_=>none
 |n+1,a,b,c,d,f,h,i,j,k,l,o,p,q=>bif decide (q<p)then (g120 m a b c q l).bind λy1=>(g119 m y1.1.1 y1.1.2.1 y1.1.2.2.1 y1.1.2.2.2.1).bind λy2=>if o.length+([(y2.1.1,((y2.1.2.1,y2.1.2.2.1),y2.1.2.2.2.1))]:List tt1).length<=1073741824 then g72L0 m n a b c d f h i j k l (o++([(y2.1.1,((y2.1.2.1,y2.1.2.2.1),y2.1.2.2.2.1))]:List tt1)) p (wI (q+1))else none else some (.inl ((a,b,c,d,()),f,(h,i,j,k,()),o,()))
def g72 (m:Nat) (a:Int) (b:Int) (c:LI) (d:LI) (f:LI) (h:LI) (i:Int) (j:Int) (k:LI) (l:LI):Option ((t01×Bool×Unit)×Unit×Unit×Unit×Unit):=(g115 m a b c d f i j k).bind λy1=>(g116 m 1).bind λy2=>(g117 m y1.1).bind λy3=>(g106 m y2.1.1 y2.1.2.1 y2.1.2.2.1 y2.1.2.2.2.1 y3.1.1 y3.1.2.1 y3.1.2.2.1 y3.1.2.2.2.1).bind λy4=>(g52 m y4.1.1 y4.1.2.1 y4.1.2.2.1 y4.1.2.2.2.1).bind λy5=>bif decide (y5.1<=0)then some ((([]:List tK2),false,()),((),(),(),()))else (g118 m a b c d f l h).bind λy6=>(g72L0 m m i j k l y1.1 y4.1.1 y4.1.2.1 y4.1.2.2.1 y4.1.2.2.2.1 y6.1 ([]:List tt1) (h.length:Int) 0).bind λy7=>match y7 with
  | .inl z8=>(g117 m z8.2.2.2.1).bind λy9=>(g72L1 m m z8.2.1 z8.2.2.1.1 z8.2.2.1.2.1 z8.2.2.1.2.2.1 z8.2.2.1.2.2.2.1 z8.2.2.2.1 y9.1.1 y9.1.2.1 y9.1.2.2.1 y9.1.2.2.2.1 ([]:List tK2) z8.1.2.2.2.1 (z8.1.2.2.2.1.length:Int) 0).bind λy10=>match y10 with
   | .inl z11=>some ((z11.1,true,()),((),(),(),()))
   | .inr e=>e.elim
  | .inr e=>e.elim
def g107 (m:Nat) (a:Int):Option t81:=(g21 m a).bind λy1=>some (!y1.1,((),()))
def g96bL0 (m:Nat):Nat->LI->Int->Int->Option tn1
 |0,_,_,_=>none
 |n+1,a,b,c=>bif decide (c<b)then if 0<=c/\c<(a.length:Int)then (g107 m (a.getD c.toNat 0)).bind λy1=>bif y1.1 then some (.inl (c,()))else g96bL0 m n a b (wI (c+1))else none else some (.inr (.inl ()))
def g96b (m:Nat) (a:LI):Option tw1:=(g96bL0 m m a (a.length:Int) 0).bind λy1=>match y1 with
 | .inl z2=>some (z2.1,((),(),()))
 | .inr (.inl z3)=>some ((-1),((),(),()))
 | .inr (.inr e)=>e.elim
def g57b (m:Nat) (a:LI):Option ts1:=(g96b m a).bind λy1=>some (decide (y1.1>=0),((),(),()))
def g68 (m:Nat) (a:LI):Option t81:=(g57b m a).bind λy1=>some (!y1.1,((),()))
def g38L0 (m:Nat):Nat->LI->Int->Int->LI->LI->LI->Int->Int->LI->LI->LI->Int->Int->Option ((LI×to1×tv1×LI×Unit)⊕Empty)
 |0,_,_,_,_,_,_,_,_,_,_,_,_,_=>none
 |n+1,a,b,c,d,f,h,i,j,k,l,o,p,q=>bif decide (q<p)then if 0<=q/\q<(o.length:Int)then g38L0 m n a b c d f h i j k l (o.set (0+q.toNat) q) p (wI (q+1))else none else some (.inl (a,(b,c,d,f,h,()),(i,j,k,l,()),o,()))
def g38 (m:Nat) (a:Int) (b:Int) (c:LI) (d:LI) (f:LI) (h:LI):Option ((t01×tv1×Int×Unit)×Unit×Unit×Unit):=(g27 m a b c d f).bind λy1=>bif y1.1 !=0 then bif y1.1 !=0 then some ((([]:List tK2),(0,0,[],[],()),y1.1,()),((),(),()))else if 0<=b/\b<=b/\b<=1073741824 then (g38L0 m m h a b c d f 0 0 ([]:LI) ([]:LI) (List.replicate b.toNat (0:Int)) ((List.replicate b.toNat (0:Int)).length:Int) 0).bind λy2=>match y2 with
   | .inl z3=>(g69 m z3.2.1.1 z3.2.1.2.1 z3.2.1.2.2.1 z3.2.1.2.2.2.1 z3.2.1.2.2.2.2.1 z3.2.2.2.1 1 1).bind λy4=>bif y4.1.2.2.1 !=0 then some ((([]:List tK2),(0,0,[],[],()),y4.1.2.2.1,()),((),(),()))else (g70 m y4.1.1.1 y4.1.1.2.1 y4.1.1.2.2.1 y4.1.1.2.2.2.1 y4.1.1.2.2.2.2.1 y4.1.1.2.2.2.2.2.1 y4.1.1.2.2.2.2.2.2.1 y4.1.1.2.2.2.2.2.2.2.1).bind λy5=>bif y5.1.2.1 !=0 then some ((([]:List tK2),(0,0,[],[],()),y5.1.2.1,()),((),(),()))else (g71 m z3.2.1.1 z3.2.1.2.1 z3.2.1.2.2.1 z3.2.1.2.2.2.1 z3.2.1.2.2.2.2.1 y4.1.1.1 y4.1.1.2.1 y4.1.1.2.2.1 y4.1.1.2.2.2.1 y4.1.1.2.2.2.2.1 y4.1.1.2.2.2.2.2.1 y4.1.1.2.2.2.2.2.2.1 y4.1.1.2.2.2.2.2.2.2.1 z3.1 2).bind λy6=>bif y6.1.2.2.1 !=0 then some ((([]:List tK2),(0,0,[],[],()),y6.1.2.2.1,()),((),(),()))else (g72 m z3.2.1.1 z3.2.1.2.1 z3.2.1.2.2.1 z3.2.1.2.2.2.1 z3.2.1.2.2.2.2.1 z3.1 y5.1.1.1 y5.1.1.2.1 y5.1.1.2.2.1 y6.1.1).bind λy7=>bif !y7.1.2.1 then some ((([]:List tK2),(0,0,[],[],()),410,()),((),(),()))else some ((y7.1.1,(y5.1.1.1,y5.1.1.2.1,y5.1.1.2.2.1,y6.1.1,()),0,()),((),(),()))
   | .inr e=>e.elim else none else bif a !=b then some ((([]:List tK2),(0,0,[],[],()),5,()),((),(),()))else bif decide (a>64)then some ((([]:List tK2),(0,0,[],[],()),6,()),((),(),()))else bif (h.length:Int) !=a then some ((([]:List tK2),(0,0,[],[],()),2,()),((),(),()))else (g68 m h).bind λy8=>bif !y8.1 then some ((([]:List tK2),(0,0,[],[],()),4,()),((),(),()))else bif y1.1 !=0 then some ((([]:List tK2),(0,0,[],[],()),y1.1,()),((),(),()))else if 0<=b/\b<=b/\b<=1073741824 then (g38L0 m m h a b c d f 0 0 ([]:LI) ([]:LI) (List.replicate b.toNat (0:Int)) ((List.replicate b.toNat (0:Int)).length:Int) 0).bind λy9=>match y9 with
       | .inl z10=>(g69 m z10.2.1.1 z10.2.1.2.1 z10.2.1.2.2.1 z10.2.1.2.2.2.1 z10.2.1.2.2.2.2.1 z10.2.2.2.1 1 1).bind λy11=>bif y11.1.2.2.1 !=0 then some ((([]:List tK2),(0,0,[],[],()),y11.1.2.2.1,()),((),(),()))else (g70 m y11.1.1.1 y11.1.1.2.1 y11.1.1.2.2.1 y11.1.1.2.2.2.1 y11.1.1.2.2.2.2.1 y11.1.1.2.2.2.2.2.1 y11.1.1.2.2.2.2.2.2.1 y11.1.1.2.2.2.2.2.2.2.1).bind λy12=>bif y12.1.2.1 !=0 then some ((([]:List tK2),(0,0,[],[],()),y12.1.2.1,()),((),(),()))else (g71 m z10.2.1.1 z10.2.1.2.1 z10.2.1.2.2.1 z10.2.1.2.2.2.1 z10.2.1.2.2.2.2.1 y11.1.1.1 y11.1.1.2.1 y11.1.1.2.2.1 y11.1.1.2.2.2.1 y11.1.1.2.2.2.2.1 y11.1.1.2.2.2.2.2.1 y11.1.1.2.2.2.2.2.2.1 y11.1.1.2.2.2.2.2.2.2.1 z10.1 2).bind λy13=>bif y13.1.2.2.1 !=0 then some ((([]:List tK2),(0,0,[],[],()),y13.1.2.2.1,()),((),(),()))else (g72 m z10.2.1.1 z10.2.1.2.1 z10.2.1.2.2.1 z10.2.1.2.2.2.1 z10.2.1.2.2.2.2.1 z10.1 y12.1.1.1 y12.1.1.2.1 y12.1.1.2.2.1 y13.1.1).bind λy14=>bif !y14.1.2.1 then some ((([]:List tK2),(0,0,[],[],()),410,()),((),(),()))else some ((y14.1.1,(y12.1.1.1,y12.1.1.2.1,y12.1.1.2.2.1,y13.1.1,()),0,()),((),(),()))
       | .inr e=>e.elim else none
def g40 (m:Nat) (a:Int):Option tM1:=(g42 m a).bind λy1=>bif !y1.1 then (g76 m).bind λy2=>some ((y2.1.1,y2.1.2.1,y2.1.2.2.1,y2.1.2.2.2.1,()),((),()))else bif decide ((wI (qo .u64 (shr_ .u64 a 52) 2047))>0)then (g62 m a).bind λy3=>(g77 m y3.1 ([wK (b_or_ .u64 (qo .u64 a 4503599627370495) 4503599627370496),wK (shr_ .u64 (b_or_ .u64 (qo .u64 a 4503599627370495) 4503599627370496) 32)]:LI) (wI ((wI (qo .u64 (shr_ .u64 a 52) 2047))-1075))).bind λy4=>some ((y4.1.1,y4.1.2.1,y4.1.2.2.1,y4.1.2.2.2.1,()),((),()))else (g62 m a).bind λy5=>(g77 m y5.1 ([wK (qo .u64 a 4503599627370495),wK (shr_ .u64 (qo .u64 a 4503599627370495) 32)]:LI) (-1074)).bind λy6=>some ((y6.1.1,y6.1.2.1,y6.1.2.2.1,y6.1.2.2.2.1,()),((),()))
def g73 (m:Nat) (a:Bool) (b:Bool) (c:LI) (d:Int):Option t81:=(g89 m a b c d).bind λy1=>some (y1.1.2.1,((),()))
def g74 (m:Nat) (a:Int) (b:List (Bool×Bool×LI×Int)×Nat):Option tw1:=(g51 m a).bind λy1=>(g75 m y1.1.1 y1.1.2.1 y1.1.2.2.1 y1.1.2.2.2.1 (b.1.getD b.2 (false,(false,([],0)))).1 (b.1.getD b.2 (false,(false,([],0)))).2.1 (b.1.getD b.2 (false,(false,([],0)))).2.2.1 (b.1.getD b.2 (false,(false,([],0)))).2.2.2).bind λy2=>some (y2.1.1,((),(),()))
def g39 (m:Nat) (a:Int) (b:Int) (c:Bool) (d:Bool) (f:LI) (h:Int):Option ts1:=(g46 m a b).bind λy1=>bif !y1.1 then some (false,((),(),()))else (g73 m c d f h).bind λy2=>bif !y2.1 then some (false,((),(),()))else bif a==18442240474082181120 then bif b==9218868437227405312 then some (true,((),(),()))else (g74 m b ([(c,(d,(f,h)))],0)).bind λy3=>some (decide (y3.1>=0),((),(),()))else (g74 m a ([(c,(d,(f,h)))],0)).bind λy4=>bif decide (y4.1<=0)then bif b==9218868437227405312 then some (true,((),(),()))else (g74 m b ([(c,(d,(f,h)))],0)).bind λy5=>some (decide (y5.1>=0),((),(),()))else some (false,((),(),()))
def g16 (m:Nat):Option tI2:=(g38 m 1 1 ([0,1]:LI) ([0]:LI) ([4611686018427387904]:LI) ([4607182418800017408]:LI)).bind λy1=>(g14 m 1 1 ([0,1]:LI) ([0]:LI) ([4611686018427387904]:LI) 4607182418800017408).bind λy2=>bif y1.1.2.2.1==0 then bif (y1.1.1.length:Int)==1 then if(0:Int)<=0/\0<(y1.1.1.length:Int)then (g40 m 4602678819172646912).bind λy3=>(g39 m (y1.1.1.getD (0+0) (0,0)).1 (y1.1.1.getD (0+0) (0,0)).2 y3.1.1 y3.1.2.1 y3.1.2.2.1 y3.1.2.2.2.1).bind λy4=>bif y4.1 then bif y2.1.2.1==0 then some (y2.1.1==0,())else some (false,())else some (false,())else none else some (false,())else some (false,())
def g3L1 (m:Nat):Nat->Int->Int->Int->LI->LI->LI->Int->Int->Int->Int->Int->Int->Option ((Int×to1×Int×Int×Int×tE2×Unit)⊕Empty)
 |0,_,_,_,_,_,_,_,_,_,_,_,_=>none
 |n+1,a,b,c,d,f,h,i,j,k,l,o,p=>bif decide (p<a)then bif p !=k then (g10 m b c d f h k p).bind λy1=>(g9 m y1.1).bind λy2=>(g7 m y2.1).bind λy3=>(g8 m l o y3.1.1 y3.1.2.1).bind λy4=>g3L1 m n a b c d f h i j k y4.1.1 y4.1.2.1 (wI (p+1))else g3L1 m n a b c d f h i j k l o (wI (p+1))else some (.inl (a,(b,c,d,f,h,()),i,j,k,(l,o,()),()))
def g3L0 (m:Nat):Nat->Int->Int->Int->LI->LI->LI->Int->Int->Int->Option ((Int×to1×Int×Int×Unit)⊕Empty)
 |0,_,_,_,_,_,_,_,_,_=>none
 |n+1,a,b,c,d,f,h,i,j,k=>bif decide (k<a)then (g7 m 0).bind λy1=>(g3L1 m m a b c d f h i j k y1.1.1 y1.1.2.1 0).bind λy2=>match y2 with
   | .inl z3=>(g10 m z3.2.1.1 z3.2.1.2.1 z3.2.1.2.2.1 z3.2.1.2.2.2.1 z3.2.1.2.2.2.2.1 z3.2.2.2.2.1 z3.2.2.2.2.1).bind λy4=>(g7 m y4.1).bind λy5=>(g12 m y5.1.1 y5.1.2.1 z3.2.2.2.2.2.1.1 z3.2.2.2.2.2.1.2.1).bind λy6=>(g8 m y5.1.1 y5.1.2.1 z3.2.2.2.2.2.1.1 z3.2.2.2.2.2.1.2.1).bind λy7=>(g11 m y6.1.1 y6.1.2.1 y7.1.1 y7.1.2.1).bind λy8=>(g13 m y8.1.1 z3.2.2.1).bind λy9=>bif !y9.1.2.1 then (g13 m z3.2.2.2.1 y8.1.2.1).bind λy10=>bif !y10.1.2.1 then g3L0 m n z3.1 z3.2.1.1 z3.2.1.2.1 z3.2.1.2.2.1 z3.2.1.2.2.2.1 z3.2.1.2.2.2.2.1 y8.1.1 y8.1.2.1 (wI (z3.2.2.2.2.1+1))else bif decide (y10.1.1<0)then g3L0 m n z3.1 z3.2.1.1 z3.2.1.2.1 z3.2.1.2.2.1 z3.2.1.2.2.2.1 z3.2.1.2.2.2.2.1 y8.1.1 y8.1.2.1 (wI (z3.2.2.2.2.1+1))else g3L0 m n z3.1 z3.2.1.1 z3.2.1.2.1 z3.2.1.2.2.1 z3.2.1.2.2.2.1 z3.2.1.2.2.2.2.1 y8.1.1 z3.2.2.2.1 (wI (z3.2.2.2.2.1+1))else bif decide (y9.1.1<0)then (g13 m z3.2.2.2.1 y8.1.2.1).bind λy11=>bif !y11.1.2.1 then g3L0 m n z3.1 z3.2.1.1 z3.2.1.2.1 z3.2.1.2.2.1 z3.2.1.2.2.2.1 z3.2.1.2.2.2.2.1 y8.1.1 y8.1.2.1 (wI (z3.2.2.2.2.1+1))else bif decide (y11.1.1<0)then g3L0 m n z3.1 z3.2.1.1 z3.2.1.2.1 z3.2.1.2.2.1 z3.2.1.2.2.2.1 z3.2.1.2.2.2.2.1 y8.1.1 y8.1.2.1 (wI (z3.2.2.2.2.1+1))else g3L0 m n z3.1 z3.2.1.1 z3.2.1.2.1 z3.2.1.2.2.1 z3.2.1.2.2.2.1 z3.2.1.2.2.2.2.1 y8.1.1 z3.2.2.2.1 (wI (z3.2.2.2.2.1+1))else (g13 m z3.2.2.2.1 y8.1.2.1).bind λy12=>bif !y12.1.2.1 then g3L0 m n z3.1 z3.2.1.1 z3.2.1.2.1 z3.2.1.2.2.1 z3.2.1.2.2.2.1 z3.2.1.2.2.2.2.1 z3.2.2.1 y8.1.2.1 (wI (z3.2.2.2.2.1+1))else bif decide (y12.1.1<0)then g3L0 m n z3.1 z3.2.1.1 z3.2.1.2.1 z3.2.1.2.2.1 z3.2.1.2.2.2.1 z3.2.1.2.2.2.2.1 z3.2.2.1 y8.1.2.1 (wI (z3.2.2.2.2.1+1))else g3L0 m n z3.1 z3.2.1.1 z3.2.1.2.1 z3.2.1.2.2.1 z3.2.1.2.2.2.1 z3.2.1.2.2.2.2.1 z3.2.2.1 z3.2.2.2.1 (wI (z3.2.2.2.2.1+1))
   | .inr e=>e.elim else some (.inl (a,(b,c,d,f,h,()),i,j,()))
def g3 (m:Nat) (a:LI) (b:Int) (c:Int):Option tg1:=(g4 m b 3).bind λy1=>(g4 m c 2).bind λy2=>(g6 m a (wI (1+y1.1)) (wI (1+y1.1)) (wI (y2.1*2))).bind λy3=>(g5 m y3.1.1 y3.1.2.1 y3.1.2.2.1 y3.1.2.2.2.1 y3.1.2.2.2.2.1).bind λy4=>(g3L0 m m (wI (1+y1.1)) y4.1.1 y4.1.2.1 y4.1.2.2.1 y4.1.2.2.2.1 y4.1.2.2.2.2.1 9218868437227405312 18442240474082181120 0).bind λy5=>match y5 with
 | .inl z6=>(g15 m z6.2.2.1).bind λy7=>(g14 m z6.2.1.1 z6.2.1.2.1 z6.2.1.2.2.1 z6.2.1.2.2.2.1 z6.2.1.2.2.2.2.1 y7.1).bind λy8=>(g14 m z6.2.1.1 z6.2.1.2.1 z6.2.1.2.2.1 z6.2.1.2.2.2.1 z6.2.1.2.2.2.2.1 z6.2.2.2.1).bind λy9=>bif y8.1.2.1==0 then bif y9.1.2.1==0 then bif y8.1.1==0 then bif y9.1.1==z6.1 then (g16 m).bind λy10=>some (y10.1,((),(),(),()))else some (false,((),(),(),()))else some (false,((),(),(),()))else some (false,((),(),(),()))else some (false,((),(),(),()))
 | .inr e=>e.elim
end Go.Vs.F
