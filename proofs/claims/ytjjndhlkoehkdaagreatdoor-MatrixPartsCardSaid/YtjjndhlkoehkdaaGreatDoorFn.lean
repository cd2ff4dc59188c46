/-The plain functions of the program,as the evaluator computes them (by program:gen.py). -/
import Derived.Test.YtjjndhlkoehkdaaGreatDoorVc
set_option linter.unusedVariables false
namespace Go.Vs.F
def q28:List Int:=[0,1,28,2,29,14,24,3,30,22,20,15,25,17,4,8,31,27,13,23,21,19,16,7,26,12,18,6,11,5,10,9]
def X7:List Int:=[0,1,2,2,3,3,3,3,4,4,4,4,4,4,4,4,5,5,5,5,5,5,5,5,5,5,5,5,5,5,5,5,6,6,6,6,6,6,6,6,6,6,6,6,6,6,6,6,6,6,6,6,6,6,6,6,6,6,6,6,6,6,6,6,7,7,7,7,7,7,7,7,7,7,7,7,7,7,7,7,7,7,7,7,7,7,7,7,7,7,7,7,7,7,7,7,7,7,7,7,7,7,7,7,7,7,7,7,7,7,7,7,7,7,7,7,7,7,7,7,7,7,7,7,7,7,7,7,8,8,8,8,8,8,8,8,8,8,8,8,8,8,8,8,8,8,8,8,8,8,8,8,8,8,8,8,8,8,8,8,8,8,8,8,8,8,8,8,8,8,8,8,8,8,8,8,8,8,8,8,8,8,8,8,8,8,8,8,8,8,8,8,8,8,8,8,8,8,8,8,8,8,8,8,8,8,8,8,8,8,8,8,8,8,8,8,8,8,8,8,8,8,8,8,8,8,8,8,8,8,8,8,8,8,8,8,8,8,8,8,8,8,8,8,8,8,8,8,8,8,8,8,8,8,8,8]
def sparselaw09_small (m:Nat) (a:Int) (b:Int) (c:List Int) (d:List Int) (f:List Int):Option (Bool×Unit×Unit):=
 bif decide ((d.length:Int)≤60)then
  bif decide ((f.length:Int)≤60)then
   bif decide ((c.length:Int)≤20)then
    bif decide (a≤12)then
     bif decide (b≤12)then
      some (true,((),()))
     else
      some (decide (b>200),((),()))
    else
     bif decide (a>200)then
      bif decide (b≤12)then
       some (true,((),()))
      else
       some (decide (b>200),((),()))
     else
      some (false,((),()))
   else
    some (false,((),()))
  else
   some (false,((),()))
 else
  some (false,((),()))
def g57 (m:Nat) (a:Int) (b:Int) (c:Int):Option (Bool×Unit×Unit×Unit×Unit):=
 bif decide (a≥b)then
  some (decide (a≤c),((),(),(),()))
 else
  some (false,((),(),(),()))
def g81 (m:Nat) (a:Int):Option ((Int×Int×Unit)×Unit×Unit):=
 some ((w_i64 (qx .u64 (shr_ .u64 a 52) 2047),qx .u64 a 4503599627370495,()),((),()))
def g58 (m:Nat) (a:Int):Option (Bool×Unit×Unit):=
 (g81 m a).bind fun y1=>
 some (y1.1.1 !=2047,((),()))
def g117 (m:Nat) (a:List (Int×Int×Int)):Option (List (Int×Int×Int)×Unit×Unit):=
 if([]:List (Int×Int×Int)).length+a.length≤1073741824 then some (a,((),()))else none
def g168 (m:Nat) (a:Int):Option (Bool×Unit×Unit):=
 some (a !=a,((),()))
def g121 (m:Nat) (a:Int) (b:Int):Option (Int×Unit×Unit×Unit):=
 (g168 m a).bind fun y1=>
 (g168 m b).bind fun y2=>
 bif y1.1 then
  bif y2.1 then
   some (0,((),(),()))
  else
   some ((-1),((),(),()))
 else
  bif y2.1 then
   some (1,((),(),()))
  else
   bif decide (a<b)then
    some ((-1),((),(),()))
   else
    bif decide (a>b)then
     some (1,((),(),()))
    else
     some (0,((),(),()))
def g120_L0 (m:Nat):Nat→Int→List Int→Int→Int→Option ((Int×Unit)⊕(Int×Unit)⊕Empty)
 |0,_,_,_,_=>none
 |n+1,a,b,c,d=>
  bif decide (d<c)then
   if(0:Int)≤d∧d<(b.length:Int)then
   bif (b.getD d.toNat 0) !=a then
    some (.inl (b.getD d.toNat 0,()))
   else
    g120_L0 m n a b c (w_i64 (d+1))
   else none
  else
   some (.inr (.inl (a,())))
def g120 (m:Nat) (a:List Int):Option (Int×Unit×Unit):=
 (g120_L0 m m 0 a (a.length:Int) 0).bind fun y1=>
 match y1 with
 | .inl z2=>
  some (z2.1,((),()))
 | .inr (.inl z3)=>
  some (z3.1,((),()))
 | .inr (.inr e)=>
  e.elim
def g119 (m:Nat) (a:Int) (b:Int) (c:Int) (d:Int) (f:Int) (h:Int):Option (Int×Unit×Unit×Unit):=
 (g121 m b f).bind fun y1=>
 (g121 m a d).bind fun y2=>
 (g120 m ([y1.1,y2.1]:List Int)).bind fun y3=>
 some (y3.1,((),(),()))
def g192_L1 (m:Nat):Nat→(List (Int×Int×Int))→Int→Int→Int→Int→Option (((List (Int×Int×Int))×Int×Int×Unit×Int×Unit)⊕Empty)
 |0,_,_,_,_,_=>none
 |n+1,a,b,c,d,f=>
  bif decide (f>b)then
   if(0:Int)≤f∧f<(a.length:Int)then
   if(0:Int)≤(w_i64 (f-1))∧(w_i64 (f-1))<(a.length:Int)then
   (g119 m (a.getD (0+f.toNat) (0,(0,0))).1 (a.getD (0+f.toNat) (0,(0,0))).2.1 (a.getD (0+f.toNat) (0,(0,0))).2.2 (a.getD (0+(w_i64 (f-1)).toNat) (0,(0,0))).1 (a.getD (0+(w_i64 (f-1)).toNat) (0,(0,0))).2.1 (a.getD (0+(w_i64 (f-1)).toNat) (0,(0,0))).2.2).bind fun y1=>
   bif decide (y1.1<0)then
    if(0:Int)≤(w_i64 (f-1))∧(w_i64 (f-1))<(a.length:Int)then
    if(0:Int)≤f∧f<(a.length:Int)then
    if(0:Int)≤f∧f<(a.length:Int)then
    if(0:Int)≤(w_i64 (f-1))∧(w_i64 (f-1))<((a.set (0+f.toNat) ((a.getD (0+(w_i64 (f-1)).toNat) (0,(0,0))).1,((a.getD (0+(w_i64 (f-1)).toNat) (0,(0,0))).2.1,(a.getD (0+(w_i64 (f-1)).toNat) (0,(0,0))).2.2))).length:Int)then
    g192_L1 m n ((a.set (0+f.toNat) ((a.getD (0+(w_i64 (f-1)).toNat) (0,(0,0))).1,((a.getD (0+(w_i64 (f-1)).toNat) (0,(0,0))).2.1,(a.getD (0+(w_i64 (f-1)).toNat) (0,(0,0))).2.2))).set (0+(w_i64 (f-1)).toNat) ((a.getD (0+f.toNat) (0,(0,0))).1,((a.getD (0+f.toNat) (0,(0,0))).2.1,(a.getD (0+f.toNat) (0,(0,0))).2.2))) b c d (w_i64 (f-1))
    else none
    else none
    else none
    else none
   else
    some (.inl (a,b,c,(),d,()))
   else none
   else none
  else
   some (.inl (a,b,c,(),d,()))
def g192_L0 (m:Nat):Nat→(List (Int×Int×Int))→Int→Int→Int→Option (((List (Int×Int×Int))×Unit)⊕Empty)
 |0,_,_,_,_=>none
 |n+1,a,b,c,d=>
  bif decide (d<c)then
   (g192_L1 m m a b c d d).bind fun y1=>
   match y1 with
   | .inl z2=>
    g192_L0 m n z2.1 z2.2.1 z2.2.2.1 (w_i64 (z2.2.2.2.2.1+1))
   | .inr e=>
    e.elim
  else
   some (.inl (a,()))
def g192 (m:Nat) (a:List (Int×Int×Int)) (b:Int) (c:Int):Option (Unit×(List (Int×Int×Int))×Unit×Unit×Unit×Unit):=
 (g192_L0 m m a b c (w_i64 (b+1))).bind fun y1=>
 match y1 with
 | .inl z2=>
  some ((),(z2.1,(),(),(),()))
 | .inr e=>
  e.elim
def g204_L0 (m:Nat):Nat→(List (Int×Int×Int))→Int→Int→Int→Int→Option (((List (Int×Int×Int))×Unit)⊕Empty)
 |0,_,_,_,_,_=>none
 |n+1,a,b,c,d,f=>
  bif decide (f<d)then
   if(0:Int)≤(w_i64 (c+f))∧(w_i64 (c+f))<(a.length:Int)then
   if(0:Int)≤(w_i64 (b+f))∧(w_i64 (b+f))<(a.length:Int)then
   if(0:Int)≤(w_i64 (b+f))∧(w_i64 (b+f))<(a.length:Int)then
   if(0:Int)≤(w_i64 (c+f))∧(w_i64 (c+f))<((a.set (0+(w_i64 (b+f)).toNat) ((a.getD (0+(w_i64 (c+f)).toNat) (0,(0,0))).1,((a.getD (0+(w_i64 (c+f)).toNat) (0,(0,0))).2.1,(a.getD (0+(w_i64 (c+f)).toNat) (0,(0,0))).2.2))).length:Int)then
   g204_L0 m n ((a.set (0+(w_i64 (b+f)).toNat) ((a.getD (0+(w_i64 (c+f)).toNat) (0,(0,0))).1,((a.getD (0+(w_i64 (c+f)).toNat) (0,(0,0))).2.1,(a.getD (0+(w_i64 (c+f)).toNat) (0,(0,0))).2.2))).set (0+(w_i64 (c+f)).toNat) ((a.getD (0+(w_i64 (b+f)).toNat) (0,(0,0))).1,((a.getD (0+(w_i64 (b+f)).toNat) (0,(0,0))).2.1,(a.getD (0+(w_i64 (b+f)).toNat) (0,(0,0))).2.2))) b c d (w_i64 (f+1))
   else none
   else none
   else none
   else none
  else
   some (.inl (a,()))
def g204 (m:Nat) (a:List (Int×Int×Int)) (b:Int) (c:Int) (d:Int):Option (Unit×(List (Int×Int×Int))×Unit×Unit×Unit×Unit×Unit):=
 (g204_L0 m m a b c d 0).bind fun y1=>
 match y1 with
 | .inl z2=>
  some ((),(z2.1,(),(),(),(),()))
 | .inr e=>
  e.elim
def g201_L0 (m:Nat):Nat→(List (Int×Int×Int))→Int→Int→Int→Option (((List (Int×Int×Int))×Int×Unit×Int×Unit)⊕Empty)
 |0,_,_,_,_=>none
 |n+1,a,b,c,d=>
  bif c !=d then
   bif decide (c>d)then
    (g204 m a (w_i64 (b-c)) b d).bind fun y1=>
    g201_L0 m n y1.2.1 b (w_i64 (c-d)) d
   else
    (g204 m a (w_i64 (b-c)) (w_i64 ((w_i64 (b+d))-c)) c).bind fun y2=>
    g201_L0 m n y2.2.1 b c (w_i64 (d-c))
  else
   some (.inl (a,b,(),c,()))
def g201 (m:Nat) (a:List (Int×Int×Int)) (b:Int) (c:Int) (d:Int):Option (Unit×(List (Int×Int×Int))×Unit×Unit×Unit×Unit×Unit):=
 (g201_L0 m m a c (w_i64 (c-b)) (w_i64 (d-c))).bind fun y1=>
 match y1 with
 | .inl z2=>
  (g204 m z2.1 (w_i64 (z2.2.1-z2.2.2.2.1)) z2.2.1 z2.2.2.2.1).bind fun y3=>
  some ((),(y3.2.1,(),(),(),(),()))
 | .inr e=>
  e.elim
def g193_L4 (self:(List (Int×Int×Int))→Int→Int→Int→Option (Unit×(List (Int×Int×Int))×Unit×Unit×Unit×Unit×Unit)) (m:Nat):Nat→(List (Int×Int×Int))→Int→Int→Int→Int→Int→Int→Int→Int→Option (((List (Int×Int×Int))×Int×Int×Int×Unit×Int×Int×Int×Unit)⊕Empty)
 |0,_,_,_,_,_,_,_,_,_=>none
 |n+1,a,b,c,d,f,h,i,j,k=>
  bif decide (i<j)then
   if(0:Int)≤(w_i64 (k-(w_i64 (shr_ .u64 (w_u64 (w_i64 (i+j))) 1))))∧(w_i64 (k-(w_i64 (shr_ .u64 (w_u64 (w_i64 (i+j))) 1))))<(a.length:Int)then
   if(0:Int)≤(w_i64 (shr_ .u64 (w_u64 (w_i64 (i+j))) 1))∧(w_i64 (shr_ .u64 (w_u64 (w_i64 (i+j))) 1))<(a.length:Int)then
   (g119 m (a.getD (0+(w_i64 (k-(w_i64 (shr_ .u64 (w_u64 (w_i64 (i+j))) 1)))).toNat) (0,(0,0))).1 (a.getD (0+(w_i64 (k-(w_i64 (shr_ .u64 (w_u64 (w_i64 (i+j))) 1)))).toNat) (0,(0,0))).2.1 (a.getD (0+(w_i64 (k-(w_i64 (shr_ .u64 (w_u64 (w_i64 (i+j))) 1)))).toNat) (0,(0,0))).2.2 (a.getD (0+(w_i64 (shr_ .u64 (w_u64 (w_i64 (i+j))) 1)).toNat) (0,(0,0))).1 (a.getD (0+(w_i64 (shr_ .u64 (w_u64 (w_i64 (i+j))) 1)).toNat) (0,(0,0))).2.1 (a.getD (0+(w_i64 (shr_ .u64 (w_u64 (w_i64 (i+j))) 1)).toNat) (0,(0,0))).2.2).bind fun y1=>
   bif !(decide (y1.1<0))then
    g193_L4 self m n a b c d f h (w_i64 ((w_i64 (shr_ .u64 (w_u64 (w_i64 (i+j))) 1))+1)) j k
   else
    g193_L4 self m n a b c d f h i (w_i64 (shr_ .u64 (w_u64 (w_i64 (i+j))) 1)) k
   else none
   else none
  else
   some (.inl (a,b,c,d,(),f,h,i,()))
def g193_L3 (self:(List (Int×Int×Int))→Int→Int→Int→Option (Unit×(List (Int×Int×Int))×Unit×Unit×Unit×Unit×Unit)) (m:Nat):Nat→(List (Int×Int×Int))→Int→Int→Option (((List (Int×Int×Int))×Unit)⊕Empty)
 |0,_,_,_=>none
 |n+1,a,b,c=>
  bif decide (c>b)then
   if(0:Int)≤(w_i64 (c-1))∧(w_i64 (c-1))<(a.length:Int)then
   if(0:Int)≤c∧c<(a.length:Int)then
   if(0:Int)≤c∧c<(a.length:Int)then
   if(0:Int)≤(w_i64 (c-1))∧(w_i64 (c-1))<((a.set (0+c.toNat) ((a.getD (0+(w_i64 (c-1)).toNat) (0,(0,0))).1,((a.getD (0+(w_i64 (c-1)).toNat) (0,(0,0))).2.1,(a.getD (0+(w_i64 (c-1)).toNat) (0,(0,0))).2.2))).length:Int)then
   g193_L3 self m n ((a.set (0+c.toNat) ((a.getD (0+(w_i64 (c-1)).toNat) (0,(0,0))).1,((a.getD (0+(w_i64 (c-1)).toNat) (0,(0,0))).2.1,(a.getD (0+(w_i64 (c-1)).toNat) (0,(0,0))).2.2))).set (0+(w_i64 (c-1)).toNat) ((a.getD (0+c.toNat) (0,(0,0))).1,((a.getD (0+c.toNat) (0,(0,0))).2.1,(a.getD (0+c.toNat) (0,(0,0))).2.2))) b (w_i64 (c-1))
   else none
   else none
   else none
   else none
  else
   some (.inl (a,()))
def g193_L2 (self:(List (Int×Int×Int))→Int→Int→Int→Option (Unit×(List (Int×Int×Int))×Unit×Unit×Unit×Unit×Unit)) (m:Nat):Nat→(List (Int×Int×Int))→Int→Int→Int→Option (((List (Int×Int×Int))×Int×Int×Unit)⊕Empty)
 |0,_,_,_,_=>none
 |n+1,a,b,c,d=>
  bif decide (c<d)then
   if(0:Int)≤b∧b<(a.length:Int)then
   if(0:Int)≤(w_i64 (shr_ .u64 (w_u64 (w_i64 (c+d))) 1))∧(w_i64 (shr_ .u64 (w_u64 (w_i64 (c+d))) 1))<(a.length:Int)then
   (g119 m (a.getD (0+b.toNat) (0,(0,0))).1 (a.getD (0+b.toNat) (0,(0,0))).2.1 (a.getD (0+b.toNat) (0,(0,0))).2.2 (a.getD (0+(w_i64 (shr_ .u64 (w_u64 (w_i64 (c+d))) 1)).toNat) (0,(0,0))).1 (a.getD (0+(w_i64 (shr_ .u64 (w_u64 (w_i64 (c+d))) 1)).toNat) (0,(0,0))).2.1 (a.getD (0+(w_i64 (shr_ .u64 (w_u64 (w_i64 (c+d))) 1)).toNat) (0,(0,0))).2.2).bind fun y1=>
   bif !(decide (y1.1<0))then
    g193_L2 self m n a b (w_i64 ((w_i64 (shr_ .u64 (w_u64 (w_i64 (c+d))) 1))+1)) d
   else
    g193_L2 self m n a b c (w_i64 (shr_ .u64 (w_u64 (w_i64 (c+d))) 1))
   else none
   else none
  else
   some (.inl (a,b,c,()))
def g193_L1 (self:(List (Int×Int×Int))→Int→Int→Int→Option (Unit×(List (Int×Int×Int))×Unit×Unit×Unit×Unit×Unit)) (m:Nat):Nat→(List (Int×Int×Int))→Int→Int→Option (((List (Int×Int×Int))×Unit)⊕Empty)
 |0,_,_,_=>none
 |n+1,a,b,c=>
  bif decide (c<(w_i64 (b-1)))then
   if(0:Int)≤(w_i64 (c+1))∧(w_i64 (c+1))<(a.length:Int)then
   if(0:Int)≤c∧c<(a.length:Int)then
   if(0:Int)≤c∧c<(a.length:Int)then
   if(0:Int)≤(w_i64 (c+1))∧(w_i64 (c+1))<((a.set (0+c.toNat) ((a.getD (0+(w_i64 (c+1)).toNat) (0,(0,0))).1,((a.getD (0+(w_i64 (c+1)).toNat) (0,(0,0))).2.1,(a.getD (0+(w_i64 (c+1)).toNat) (0,(0,0))).2.2))).length:Int)then
   g193_L1 self m n ((a.set (0+c.toNat) ((a.getD (0+(w_i64 (c+1)).toNat) (0,(0,0))).1,((a.getD (0+(w_i64 (c+1)).toNat) (0,(0,0))).2.1,(a.getD (0+(w_i64 (c+1)).toNat) (0,(0,0))).2.2))).set (0+(w_i64 (c+1)).toNat) ((a.getD (0+c.toNat) (0,(0,0))).1,((a.getD (0+c.toNat) (0,(0,0))).2.1,(a.getD (0+c.toNat) (0,(0,0))).2.2))) b (w_i64 (c+1))
   else none
   else none
   else none
   else none
  else
   some (.inl (a,()))
def g193_L0 (self:(List (Int×Int×Int))→Int→Int→Int→Option (Unit×(List (Int×Int×Int))×Unit×Unit×Unit×Unit×Unit)) (m:Nat):Nat→(List (Int×Int×Int))→Int→Int→Int→Option (((List (Int×Int×Int))×Int×Int×Unit)⊕Empty)
 |0,_,_,_,_=>none
 |n+1,a,b,c,d=>
  bif decide (c<d)then
   if(0:Int)≤(w_i64 (shr_ .u64 (w_u64 (w_i64 (c+d))) 1))∧(w_i64 (shr_ .u64 (w_u64 (w_i64 (c+d))) 1))<(a.length:Int)then
   if(0:Int)≤b∧b<(a.length:Int)then
   (g119 m (a.getD (0+(w_i64 (shr_ .u64 (w_u64 (w_i64 (c+d))) 1)).toNat) (0,(0,0))).1 (a.getD (0+(w_i64 (shr_ .u64 (w_u64 (w_i64 (c+d))) 1)).toNat) (0,(0,0))).2.1 (a.getD (0+(w_i64 (shr_ .u64 (w_u64 (w_i64 (c+d))) 1)).toNat) (0,(0,0))).2.2 (a.getD (0+b.toNat) (0,(0,0))).1 (a.getD (0+b.toNat) (0,(0,0))).2.1 (a.getD (0+b.toNat) (0,(0,0))).2.2).bind fun y1=>
   bif decide (y1.1<0)then
    g193_L0 self m n a b (w_i64 ((w_i64 (shr_ .u64 (w_u64 (w_i64 (c+d))) 1))+1)) d
   else
    g193_L0 self m n a b c (w_i64 (shr_ .u64 (w_u64 (w_i64 (c+d))) 1))
   else none
   else none
  else
   some (.inl (a,b,c,()))
def g193:Nat→(List (Int×Int×Int))→Int→Int→Int→Option (Unit×(List (Int×Int×Int))×Unit×Unit×Unit×Unit×Unit)
 |0,_,_,_,_=>none
 |m+1,a,b,c,d=>
  bif (w_i64 (c-b))==1 then
   (g193_L0 (fun a0 a1 a2 a3=>g193 m a0 a1 a2 a3) m m a b c d).bind fun y1=>
   match y1 with
   | .inl z2=>
    (g193_L1 (fun a0 a1 a2 a3=>g193 m a0 a1 a2 a3) m m z2.1 z2.2.2.1 z2.2.1).bind fun y3=>
    match y3 with
    | .inl z4=>
     some ((),(z4.1,(),(),(),(),()))
    | .inr e=>
     e.elim
   | .inr e=>
    e.elim
  else
   bif (w_i64 (d-c))==1 then
    (g193_L2 (fun a0 a1 a2 a3=>g193 m a0 a1 a2 a3) m m a c b c).bind fun y5=>
    match y5 with
    | .inl z6=>
     (g193_L3 (fun a0 a1 a2 a3=>g193 m a0 a1 a2 a3) m m z6.1 z6.2.2.1 z6.2.1).bind fun y7=>
     match y7 with
     | .inl z8=>
      some ((),(z8.1,(),(),(),(),()))
     | .inr e=>
      e.elim
    | .inr e=>
     e.elim
   else
    bif decide (c>(w_i64 (shr_ .u64 (w_u64 (w_i64 (b+d))) 1)))then
     (g193_L4 (fun a0 a1 a2 a3=>g193 m a0 a1 a2 a3) m m a b c d (w_i64 (shr_ .u64 (w_u64 (w_i64 (b+d))) 1)) (w_i64 ((w_i64 (shr_ .u64 (w_u64 (w_i64 (b+d))) 1))+c)) (w_i64 ((w_i64 ((w_i64 (shr_ .u64 (w_u64 (w_i64 (b+d))) 1))+c))-d)) (w_i64 (shr_ .u64 (w_u64 (w_i64 (b+d))) 1)) (w_i64 ((w_i64 ((w_i64 (shr_ .u64 (w_u64 (w_i64 (b+d))) 1))+c))-1))).bind fun y9=>
     match y9 with
     | .inl z10=>
      bif decide (z10.2.2.2.2.2.2.2.1<z10.2.2.1)then
       bif decide (z10.2.2.1<(w_i64 (z10.2.2.2.2.2.2.1-z10.2.2.2.2.2.2.2.1)))then
        (g201 m z10.1 z10.2.2.2.2.2.2.2.1 z10.2.2.1 (w_i64 (z10.2.2.2.2.2.2.1-z10.2.2.2.2.2.2.2.1))).bind fun y11=>
        bif decide (z10.2.1<z10.2.2.2.2.2.2.2.1)then
         bif decide (z10.2.2.2.2.2.2.2.1<z10.2.2.2.2.2.1)then
          (g193 m y11.2.1 z10.2.1 z10.2.2.2.2.2.2.2.1 z10.2.2.2.2.2.1).bind fun y12=>
          bif decide (z10.2.2.2.2.2.1<(w_i64 (z10.2.2.2.2.2.2.1-z10.2.2.2.2.2.2.2.1)))then
           bif decide ((w_i64 (z10.2.2.2.2.2.2.1-z10.2.2.2.2.2.2.2.1))<z10.2.2.2.1)then
            (g193 m y12.2.1 z10.2.2.2.2.2.1 (w_i64 (z10.2.2.2.2.2.2.1-z10.2.2.2.2.2.2.2.1)) z10.2.2.2.1).bind fun y13=>
            some ((),(y13.2.1,(),(),(),(),()))
           else
            some ((),(y12.2.1,(),(),(),(),()))
          else
           some ((),(y12.2.1,(),(),(),(),()))
         else
          bif decide (z10.2.2.2.2.2.1<(w_i64 (z10.2.2.2.2.2.2.1-z10.2.2.2.2.2.2.2.1)))then
           bif decide ((w_i64 (z10.2.2.2.2.2.2.1-z10.2.2.2.2.2.2.2.1))<z10.2.2.2.1)then
            (g193 m y11.2.1 z10.2.2.2.2.2.1 (w_i64 (z10.2.2.2.2.2.2.1-z10.2.2.2.2.2.2.2.1)) z10.2.2.2.1).bind fun y14=>
            some ((),(y14.2.1,(),(),(),(),()))
           else
            some ((),(y11.2.1,(),(),(),(),()))
          else
           some ((),(y11.2.1,(),(),(),(),()))
        else
         bif decide (z10.2.2.2.2.2.1<(w_i64 (z10.2.2.2.2.2.2.1-z10.2.2.2.2.2.2.2.1)))then
          bif decide ((w_i64 (z10.2.2.2.2.2.2.1-z10.2.2.2.2.2.2.2.1))<z10.2.2.2.1)then
           (g193 m y11.2.1 z10.2.2.2.2.2.1 (w_i64 (z10.2.2.2.2.2.2.1-z10.2.2.2.2.2.2.2.1)) z10.2.2.2.1).bind fun y15=>
           some ((),(y15.2.1,(),(),(),(),()))
          else
           some ((),(y11.2.1,(),(),(),(),()))
         else
          some ((),(y11.2.1,(),(),(),(),()))
       else
        bif decide (z10.2.1<z10.2.2.2.2.2.2.2.1)then
         bif decide (z10.2.2.2.2.2.2.2.1<z10.2.2.2.2.2.1)then
          (g193 m z10.1 z10.2.1 z10.2.2.2.2.2.2.2.1 z10.2.2.2.2.2.1).bind fun y16=>
          bif decide (z10.2.2.2.2.2.1<(w_i64 (z10.2.2.2.2.2.2.1-z10.2.2.2.2.2.2.2.1)))then
           bif decide ((w_i64 (z10.2.2.2.2.2.2.1-z10.2.2.2.2.2.2.2.1))<z10.2.2.2.1)then
            (g193 m y16.2.1 z10.2.2.2.2.2.1 (w_i64 (z10.2.2.2.2.2.2.1-z10.2.2.2.2.2.2.2.1)) z10.2.2.2.1).bind fun y17=>
            some ((),(y17.2.1,(),(),(),(),()))
           else
            some ((),(y16.2.1,(),(),(),(),()))
          else
           some ((),(y16.2.1,(),(),(),(),()))
         else
          bif decide (z10.2.2.2.2.2.1<(w_i64 (z10.2.2.2.2.2.2.1-z10.2.2.2.2.2.2.2.1)))then
           bif decide ((w_i64 (z10.2.2.2.2.2.2.1-z10.2.2.2.2.2.2.2.1))<z10.2.2.2.1)then
            (g193 m z10.1 z10.2.2.2.2.2.1 (w_i64 (z10.2.2.2.2.2.2.1-z10.2.2.2.2.2.2.2.1)) z10.2.2.2.1).bind fun y18=>
            some ((),(y18.2.1,(),(),(),(),()))
           else
            some ((),(z10.1,(),(),(),(),()))
          else
           some ((),(z10.1,(),(),(),(),()))
        else
         bif decide (z10.2.2.2.2.2.1<(w_i64 (z10.2.2.2.2.2.2.1-z10.2.2.2.2.2.2.2.1)))then
          bif decide ((w_i64 (z10.2.2.2.2.2.2.1-z10.2.2.2.2.2.2.2.1))<z10.2.2.2.1)then
           (g193 m z10.1 z10.2.2.2.2.2.1 (w_i64 (z10.2.2.2.2.2.2.1-z10.2.2.2.2.2.2.2.1)) z10.2.2.2.1).bind fun y19=>
           some ((),(y19.2.1,(),(),(),(),()))
          else
           some ((),(z10.1,(),(),(),(),()))
         else
          some ((),(z10.1,(),(),(),(),()))
      else
       bif decide (z10.2.1<z10.2.2.2.2.2.2.2.1)then
        bif decide (z10.2.2.2.2.2.2.2.1<z10.2.2.2.2.2.1)then
         (g193 m z10.1 z10.2.1 z10.2.2.2.2.2.2.2.1 z10.2.2.2.2.2.1).bind fun y20=>
         bif decide (z10.2.2.2.2.2.1<(w_i64 (z10.2.2.2.2.2.2.1-z10.2.2.2.2.2.2.2.1)))then
          bif decide ((w_i64 (z10.2.2.2.2.2.2.1-z10.2.2.2.2.2.2.2.1))<z10.2.2.2.1)then
           (g193 m y20.2.1 z10.2.2.2.2.2.1 (w_i64 (z10.2.2.2.2.2.2.1-z10.2.2.2.2.2.2.2.1)) z10.2.2.2.1).bind fun y21=>
           some ((),(y21.2.1,(),(),(),(),()))
          else
           some ((),(y20.2.1,(),(),(),(),()))
         else
          some ((),(y20.2.1,(),(),(),(),()))
        else
         bif decide (z10.2.2.2.2.2.1<(w_i64 (z10.2.2.2.2.2.2.1-z10.2.2.2.2.2.2.2.1)))then
          bif decide ((w_i64 (z10.2.2.2.2.2.2.1-z10.2.2.2.2.2.2.2.1))<z10.2.2.2.1)then
           (g193 m z10.1 z10.2.2.2.2.2.1 (w_i64 (z10.2.2.2.2.2.2.1-z10.2.2.2.2.2.2.2.1)) z10.2.2.2.1).bind fun y22=>
           some ((),(y22.2.1,(),(),(),(),()))
          else
           some ((),(z10.1,(),(),(),(),()))
         else
          some ((),(z10.1,(),(),(),(),()))
       else
        bif decide (z10.2.2.2.2.2.1<(w_i64 (z10.2.2.2.2.2.2.1-z10.2.2.2.2.2.2.2.1)))then
         bif decide ((w_i64 (z10.2.2.2.2.2.2.1-z10.2.2.2.2.2.2.2.1))<z10.2.2.2.1)then
          (g193 m z10.1 z10.2.2.2.2.2.1 (w_i64 (z10.2.2.2.2.2.2.1-z10.2.2.2.2.2.2.2.1)) z10.2.2.2.1).bind fun y23=>
          some ((),(y23.2.1,(),(),(),(),()))
         else
          some ((),(z10.1,(),(),(),(),()))
        else
         some ((),(z10.1,(),(),(),(),()))
     | .inr e=>
      e.elim
    else
     (g193_L4 (fun a0 a1 a2 a3=>g193 m a0 a1 a2 a3) m m a b c d (w_i64 (shr_ .u64 (w_u64 (w_i64 (b+d))) 1)) (w_i64 ((w_i64 (shr_ .u64 (w_u64 (w_i64 (b+d))) 1))+c)) b c (w_i64 ((w_i64 ((w_i64 (shr_ .u64 (w_u64 (w_i64 (b+d))) 1))+c))-1))).bind fun y24=>
     match y24 with
     | .inl z25=>
      bif decide (z25.2.2.2.2.2.2.2.1<z25.2.2.1)then
       bif decide (z25.2.2.1<(w_i64 (z25.2.2.2.2.2.2.1-z25.2.2.2.2.2.2.2.1)))then
        (g201 m z25.1 z25.2.2.2.2.2.2.2.1 z25.2.2.1 (w_i64 (z25.2.2.2.2.2.2.1-z25.2.2.2.2.2.2.2.1))).bind fun y26=>
        bif decide (z25.2.1<z25.2.2.2.2.2.2.2.1)then
         bif decide (z25.2.2.2.2.2.2.2.1<z25.2.2.2.2.2.1)then
          (g193 m y26.2.1 z25.2.1 z25.2.2.2.2.2.2.2.1 z25.2.2.2.2.2.1).bind fun y27=>
          bif decide (z25.2.2.2.2.2.1<(w_i64 (z25.2.2.2.2.2.2.1-z25.2.2.2.2.2.2.2.1)))then
           bif decide ((w_i64 (z25.2.2.2.2.2.2.1-z25.2.2.2.2.2.2.2.1))<z25.2.2.2.1)then
            (g193 m y27.2.1 z25.2.2.2.2.2.1 (w_i64 (z25.2.2.2.2.2.2.1-z25.2.2.2.2.2.2.2.1)) z25.2.2.2.1).bind fun y28=>
            some ((),(y28.2.1,(),(),(),(),()))
           else
            some ((),(y27.2.1,(),(),(),(),()))
          else
           some ((),(y27.2.1,(),(),(),(),()))
         else
          bif decide (z25.2.2.2.2.2.1<(w_i64 (z25.2.2.2.2.2.2.1-z25.2.2.2.2.2.2.2.1)))then
           bif decide ((w_i64 (z25.2.2.2.2.2.2.1-z25.2.2.2.2.2.2.2.1))<z25.2.2.2.1)then
            (g193 m y26.2.1 z25.2.2.2.2.2.1 (w_i64 (z25.2.2.2.2.2.2.1-z25.2.2.2.2.2.2.2.1)) z25.2.2.2.1).bind fun y29=>
            some ((),(y29.2.1,(),(),(),(),()))
           else
            some ((),(y26.2.1,(),(),(),(),()))
          else
           some ((),(y26.2.1,(),(),(),(),()))
        else
         bif decide (z25.2.2.2.2.2.1<(w_i64 (z25.2.2.2.2.2.2.1-z25.2.2.2.2.2.2.2.1)))then
          bif decide ((w_i64 (z25.2.2.2.2.2.2.1-z25.2.2.2.2.2.2.2.1))<z25.2.2.2.1)then
           (g193 m y26.2.1 z25.2.2.2.2.2.1 (w_i64 (z25.2.2.2.2.2.2.1-z25.2.2.2.2.2.2.2.1)) z25.2.2.2.1).bind fun y30=>
           some ((),(y30.2.1,(),(),(),(),()))
          else
           some ((),(y26.2.1,(),(),(),(),()))
         else
          some ((),(y26.2.1,(),(),(),(),()))
       else
        bif decide (z25.2.1<z25.2.2.2.2.2.2.2.1)then
         bif decide (z25.2.2.2.2.2.2.2.1<z25.2.2.2.2.2.1)then
          (g193 m z25.1 z25.2.1 z25.2.2.2.2.2.2.2.1 z25.2.2.2.2.2.1).bind fun y31=>
          bif decide (z25.2.2.2.2.2.1<(w_i64 (z25.2.2.2.2.2.2.1-z25.2.2.2.2.2.2.2.1)))then
           bif decide ((w_i64 (z25.2.2.2.2.2.2.1-z25.2.2.2.2.2.2.2.1))<z25.2.2.2.1)then
            (g193 m y31.2.1 z25.2.2.2.2.2.1 (w_i64 (z25.2.2.2.2.2.2.1-z25.2.2.2.2.2.2.2.1)) z25.2.2.2.1).bind fun y32=>
            some ((),(y32.2.1,(),(),(),(),()))
           else
            some ((),(y31.2.1,(),(),(),(),()))
          else
           some ((),(y31.2.1,(),(),(),(),()))
         else
          bif decide (z25.2.2.2.2.2.1<(w_i64 (z25.2.2.2.2.2.2.1-z25.2.2.2.2.2.2.2.1)))then
           bif decide ((w_i64 (z25.2.2.2.2.2.2.1-z25.2.2.2.2.2.2.2.1))<z25.2.2.2.1)then
            (g193 m z25.1 z25.2.2.2.2.2.1 (w_i64 (z25.2.2.2.2.2.2.1-z25.2.2.2.2.2.2.2.1)) z25.2.2.2.1).bind fun y33=>
            some ((),(y33.2.1,(),(),(),(),()))
           else
            some ((),(z25.1,(),(),(),(),()))
          else
           some ((),(z25.1,(),(),(),(),()))
        else
         bif decide (z25.2.2.2.2.2.1<(w_i64 (z25.2.2.2.2.2.2.1-z25.2.2.2.2.2.2.2.1)))then
          bif decide ((w_i64 (z25.2.2.2.2.2.2.1-z25.2.2.2.2.2.2.2.1))<z25.2.2.2.1)then
           (g193 m z25.1 z25.2.2.2.2.2.1 (w_i64 (z25.2.2.2.2.2.2.1-z25.2.2.2.2.2.2.2.1)) z25.2.2.2.1).bind fun y34=>
           some ((),(y34.2.1,(),(),(),(),()))
          else
           some ((),(z25.1,(),(),(),(),()))
         else
          some ((),(z25.1,(),(),(),(),()))
      else
       bif decide (z25.2.1<z25.2.2.2.2.2.2.2.1)then
        bif decide (z25.2.2.2.2.2.2.2.1<z25.2.2.2.2.2.1)then
         (g193 m z25.1 z25.2.1 z25.2.2.2.2.2.2.2.1 z25.2.2.2.2.2.1).bind fun y35=>
         bif decide (z25.2.2.2.2.2.1<(w_i64 (z25.2.2.2.2.2.2.1-z25.2.2.2.2.2.2.2.1)))then
          bif decide ((w_i64 (z25.2.2.2.2.2.2.1-z25.2.2.2.2.2.2.2.1))<z25.2.2.2.1)then
           (g193 m y35.2.1 z25.2.2.2.2.2.1 (w_i64 (z25.2.2.2.2.2.2.1-z25.2.2.2.2.2.2.2.1)) z25.2.2.2.1).bind fun y36=>
           some ((),(y36.2.1,(),(),(),(),()))
          else
           some ((),(y35.2.1,(),(),(),(),()))
         else
          some ((),(y35.2.1,(),(),(),(),()))
        else
         bif decide (z25.2.2.2.2.2.1<(w_i64 (z25.2.2.2.2.2.2.1-z25.2.2.2.2.2.2.2.1)))then
          bif decide ((w_i64 (z25.2.2.2.2.2.2.1-z25.2.2.2.2.2.2.2.1))<z25.2.2.2.1)then
           (g193 m z25.1 z25.2.2.2.2.2.1 (w_i64 (z25.2.2.2.2.2.2.1-z25.2.2.2.2.2.2.2.1)) z25.2.2.2.1).bind fun y37=>
           some ((),(y37.2.1,(),(),(),(),()))
          else
           some ((),(z25.1,(),(),(),(),()))
         else
          some ((),(z25.1,(),(),(),(),()))
       else
        bif decide (z25.2.2.2.2.2.1<(w_i64 (z25.2.2.2.2.2.2.1-z25.2.2.2.2.2.2.2.1)))then
         bif decide ((w_i64 (z25.2.2.2.2.2.2.1-z25.2.2.2.2.2.2.2.1))<z25.2.2.2.1)then
          (g193 m z25.1 z25.2.2.2.2.2.1 (w_i64 (z25.2.2.2.2.2.2.1-z25.2.2.2.2.2.2.2.1)) z25.2.2.2.1).bind fun y38=>
          some ((),(y38.2.1,(),(),(),(),()))
         else
          some ((),(z25.1,(),(),(),(),()))
        else
         some ((),(z25.1,(),(),(),(),()))
     | .inr e=>
      e.elim
def g167_L2 (m:Nat):Nat→(List (Int×Int×Int))→Int→Int→Int→Int→Option (((List (Int×Int×Int))×Int×Unit×Int×Int×Unit)⊕Empty)
 |0,_,_,_,_,_=>none
 |n+1,a,b,c,d,f=>
  bif decide (f≤b)then
   (g193 m a d (w_i64 (d+c)) f).bind fun y1=>
   g167_L2 m n y1.2.1 b c f (w_i64 (f+(w_i64 (2*c))))
  else
   some (.inl (a,b,(),c,d,()))
def g167_L1 (m:Nat):Nat→(List (Int×Int×Int))→Int→Int→Option (((List (Int×Int×Int))×Unit)⊕Empty)
 |0,_,_,_=>none
 |n+1,a,b,c=>
  bif decide (c<b)then
   (g167_L2 m m a b c 0 (w_i64 (2*c))).bind fun y1=>
   match y1 with
   | .inl z2=>
    bif decide ((w_i64 (z2.2.2.2.2.1+z2.2.2.2.1))<z2.2.1)then
     (g193 m z2.1 z2.2.2.2.2.1 (w_i64 (z2.2.2.2.2.1+z2.2.2.2.1)) z2.2.1).bind fun y3=>
     g167_L1 m n y3.2.1 z2.2.1 (w_i64 (z2.2.2.2.1*2))
    else
     g167_L1 m n z2.1 z2.2.1 (w_i64 (z2.2.2.2.1*2))
   | .inr e=>
    e.elim
  else
   some (.inl (a,()))
def g167_L0 (m:Nat):Nat→(List (Int×Int×Int))→Int→Int→Int→Int→Option (((List (Int×Int×Int))×Int×Unit×Int×Int×Unit)⊕Empty)
 |0,_,_,_,_,_=>none
 |n+1,a,b,c,d,f=>
  bif decide (f≤b)then
   (g192 m a d f).bind fun y1=>
   g167_L0 m n y1.2.1 b c f (w_i64 (f+c))
  else
   some (.inl (a,b,(),c,d,()))
def g167 (m:Nat) (a:List (Int×Int×Int)) (b:Int):Option (Unit×(List (Int×Int×Int))×Unit×Unit×Unit):=
 (g167_L0 m m a b 20 0 20).bind fun y1=>
 match y1 with
 | .inl z2=>
  (g192 m z2.1 z2.2.2.2.2.1 z2.2.1).bind fun y3=>
  (g167_L1 m m y3.2.1 z2.2.1 z2.2.2.2.1).bind fun y4=>
  match y4 with
  | .inl z5=>
   some ((),(z5.1,(),(),()))
  | .inr e=>
   e.elim
 | .inr e=>
  e.elim
def g118 (m:Nat) (a:List (Int×Int×Int)):Option (Unit×(List (Int×Int×Int))×Unit×Unit):=
 (g167 m a (a.length:Int)).bind fun y1=>
 some ((),(y1.2.1,(),()))
def g59 (m:Nat) (a:List (Int×Int×Int)):Option ((List (Int×Int×Int))×Unit×Unit):=
 (g117 m a).bind fun y1=>
 (g118 m y1.1).bind fun y2=>
 some (y2.2.1,((),()))
def g86_L0 (m:Nat):Nat→List Int→Int→Option ((List Int×Int×Unit)⊕Empty)
 |0,_,_=>none
 |n+1,a,b=>
  bif decide (b>0)then
   if(0:Int)≤(w_i64 (b-1))∧(w_i64 (b-1))<(a.length:Int)then
   bif (a.getD (w_i64 (b-1)).toNat 0)==0 then
    g86_L0 m n a (w_i64 (b-1))
   else
    some (.inl (a,b,()))
   else none
  else
   some (.inl (a,b,()))
def g86 (m:Nat) (a:List Int):Option (List Int×Unit×Unit):=
 (g86_L0 m m a (a.length:Int)).bind fun y1=>
 match y1 with
 | .inl z2=>
  if(0:Int)≤0∧0≤z2.2.1∧z2.2.1≤(z2.1.length:Int)then
  some (z2.1.take z2.2.1.toNat,((),()))
  else none
 | .inr e=>
  e.elim
def g134 (m:Nat) (a:Bool) (b:List Int):Option ((Bool×List Int×Unit)×Unit×Unit×Unit):=
 (g86 m b).bind fun y1=>
 bif (y1.1.length:Int)==0 then
  some ((false,([]:List Int),()),((),(),()))
 else
  some ((a,y1.1,()),((),(),()))
def g82 (m:Nat) (a:Int):Option ((Bool×List Int×Unit)×Unit×Unit):=
 bif decide (a<0)then
  (g134 m (decide (a<0)) ([w_u32 (qx .u64 (w_u64 (0-(w_u64 a))) 4294967295),w_u32 (shr_ .u64 (w_u64 (0-(w_u64 a))) 32)]:List Int)).bind fun y1=>
  some ((y1.1.1,y1.1.2.1,()),((),()))
 else
  (g134 m (decide (a<0)) ([w_u32 (qx .u64 (w_u64 a) 4294967295),w_u32 (shr_ .u64 (w_u64 a) 32)]:List Int)).bind fun y2=>
  some ((y2.1.1,y2.1.2.1,()),((),()))
def g83 (m:Nat) (a:Int):Option (Bool×Unit×Unit):=
 some ((qx .u64 a 9223372036854775808) !=0,((),()))
def g142 (m:Nat) (a:List Int):Option (List Int×Unit×Unit):=
 if([]:List Int).length+a.length≤1073741824 then some (a,((),()))else none
def g84 (m:Nat) (a:Bool) (b:List Int):Option ((Bool×List Int×Unit)×Unit×Unit):=
 (g142 m b).bind fun y1=>
 (g134 m (!a) y1.1).bind fun y2=>
 some ((y2.1.1,y2.1.2.1,()),((),()))
def g125 (m:Nat):Option ((Bool×Bool×List Int×Int×Unit)×Unit):=
 some ((true,false,([]:List Int),0,()),())
def g139 (m:Nat) (a:Bool) (b:List Int):Option ((Bool×List Int×Unit)×Unit×Unit):=
 (g142 m b).bind fun y1=>
 (g134 m a y1.1).bind fun y2=>
 some ((y2.1.1,y2.1.2.1,()),((),()))
def g31 (m:Nat) (a:Bool) (b:List Int):Option (Int×Unit×Unit):=
 (g86 m b).bind fun y1=>
 bif (y1.1.length:Int)==0 then
  some (0,((),()))
 else
  bif a then
   some ((-1),((),()))
  else
   some (1,((),()))
def g87 (m:Nat) (a:Int):Option (Int×Unit×Unit):=
 bif a==0 then
  some (32,((),()))
 else
  if(0:Int)≤27 then
  if(0:Int)≤(shr_ .u32 (w_u32 ((qx .u32 a (w_u32 (0-a)))*125613361)) 27)∧(shr_ .u32 (w_u32 ((qx .u32 a (w_u32 (0-a)))*125613361)) 27)<(q28.length:Int)then
  some (w_i64 (q28.getD (shr_ .u32 (w_u32 ((qx .u32 a (w_u32 (0-a)))*125613361)) 27).toNat 0),((),()))
  else none
  else none
def g32_L0 (m:Nat):Nat→List Int→Int→Int→Option ((Int×Unit)⊕Unit⊕Empty)
 |0,_,_,_=>none
 |n+1,a,b,c=>
  bif decide (c<b)then
   if(0:Int)≤c∧c<(a.length:Int)then
   bif (a.getD c.toNat 0) !=0 then
    (g87 m (a.getD c.toNat 0)).bind fun y1=>
    some (.inl (w_i64 ((w_i64 (c*32))+y1.1),()))
   else
    g32_L0 m n a b (w_i64 (c+1))
   else none
  else
   some (.inr (.inl ()))
def g32 (m:Nat) (a:Bool) (b:List Int):Option (Int×Unit×Unit):=
 (g32_L0 m m b (b.length:Int) 0).bind fun y1=>
 match y1 with
 | .inl z2=>
  some (z2.1,((),()))
 | .inr (.inl z3)=>
  some (0,((),()))
 | .inr (.inr e)=>
  e.elim
def g190 (m:Nat) (a:Int):Option (Int×Unit×Unit):=
 bif decide (a≥65536)then
  bif decide ((shr_ .u32 a 16)≥256)then
   if(0:Int)≤(w_u8 (shr_ .u32 (shr_ .u32 a 16) 8))∧(w_u8 (shr_ .u32 (shr_ .u32 a 16) 8))<(X7.length:Int)then
   some (w_i64 (24+(w_i64 (X7.getD (w_u8 (shr_ .u32 (shr_ .u32 a 16) 8)).toNat 0))),((),()))
   else none
  else
   if(0:Int)≤(w_u8 (shr_ .u32 a 16))∧(w_u8 (shr_ .u32 a 16))<(X7.length:Int)then
   some (w_i64 (16+(w_i64 (X7.getD (w_u8 (shr_ .u32 a 16)).toNat 0))),((),()))
   else none
 else
  bif decide (a≥256)then
   if(0:Int)≤(w_u8 (shr_ .u32 a 8))∧(w_u8 (shr_ .u32 a 8))<(X7.length:Int)then
   some (w_i64 (8+(w_i64 (X7.getD (w_u8 (shr_ .u32 a 8)).toNat 0))),((),()))
   else none
  else
   if(0:Int)≤(w_u8 a)∧(w_u8 a)<(X7.length:Int)then
   some (w_i64 (0+(w_i64 (X7.getD (w_u8 a).toNat 0))),((),()))
   else none
def g185 (m:Nat) (a:List Int):Option (Int×Unit×Unit):=
 bif (a.length:Int)==0 then
  some (0,((),()))
 else
  if(0:Int)≤(w_i64 ((a.length:Int)-1))∧(w_i64 ((a.length:Int)-1))<(a.length:Int)then
  (g190 m (a.getD (w_i64 ((a.length:Int)-1)).toNat 0)).bind fun y1=>
  some (w_i64 ((w_i64 ((w_i64 ((a.length:Int)-1))*32))+y1.1),((),()))
  else none
def g140 (m:Nat) (a:Bool) (b:List Int):Option (Int×Unit×Unit):=
 (g86 m b).bind fun y1=>
 (g185 m y1.1).bind fun y2=>
 some (y2.1,((),()))
def g135_L0 (m:Nat):Nat→Int→Int→List Int→List Int→Int→Int→Option ((List Int×Unit)⊕Empty)
 |0,_,_,_,_,_,_=>none
 |n+1,a,b,c,d,f,h=>
  bif decide (h<f)then
   if(0:Int)≤h∧h<(d.length:Int)then
   if(0:Int)≤b then
   if(0:Int)≤(w_i64 (a+h))∧(w_i64 (a+h))<(c.length:Int)then
   if(0:Int)≤(w_i64 (a+h))∧(w_i64 (a+h))<(c.length:Int)then
   if(0:Int)≤(w_i64 ((w_i64 (a+h))+1))∧(w_i64 ((w_i64 (a+h))+1))<((c.set (0+(w_i64 (a+h)).toNat) (b_or_ .u32 (c.getD (0+(w_i64 (a+h)).toNat) 0) (w_u32 (qx .u64 (shl_ .u64 (w_u64 (d.getD h.toNat 0)) b) 4294967295)))).length:Int)then
   g135_L0 m n a b ((c.set (0+(w_i64 (a+h)).toNat) (b_or_ .u32 (c.getD (0+(w_i64 (a+h)).toNat) 0) (w_u32 (qx .u64 (shl_ .u64 (w_u64 (d.getD h.toNat 0)) b) 4294967295)))).set (0+(w_i64 ((w_i64 (a+h))+1)).toNat) (w_u32 (shr_ .u64 (shl_ .u64 (w_u64 (d.getD h.toNat 0)) b) 32))) d f (w_i64 (h+1))
   else none
   else none
   else none
   else none
   else none
  else
   some (.inl (c,()))
def g135 (m:Nat) (a:List Int) (b:Int):Option (List Int×Unit×Unit×Unit):=
 bif (a.length:Int)==0 then
  some (([]:List Int),((),(),()))
 else
  if(0:Int)≤(w_i64 ((w_i64 ((w_i64 (Int.tdiv b 32))+(a.length:Int)))+1))∧(w_i64 ((w_i64 ((w_i64 (Int.tdiv b 32))+(a.length:Int)))+1))≤(w_i64 ((w_i64 ((w_i64 (Int.tdiv b 32))+(a.length:Int)))+1))∧(w_i64 ((w_i64 ((w_i64 (Int.tdiv b 32))+(a.length:Int)))+1))≤1073741824 then
  (g135_L0 m m (w_i64 (Int.tdiv b 32)) (w_u64 (Int.tmod b 32)) (List.replicate (w_i64 ((w_i64 ((w_i64 (Int.tdiv b 32))+(a.length:Int)))+1)).toNat (0:Int)) a (a.length:Int) 0).bind fun y1=>
  match y1 with
  | .inl z2=>
   (g86 m z2.1).bind fun y3=>
   some (y3.1,((),(),()))
  | .inr e=>
   e.elim
  else none
def g184 (m:Nat) (a:Int):Option (Bool×Unit×Unit):=
 some (a !=0,((),()))
def g200_L0 (m:Nat):Nat→List Int→Int→Int→Option ((Int×Unit)⊕Unit⊕Empty)
 |0,_,_,_=>none
 |n+1,a,b,c=>
  bif decide (c<b)then
   if(0:Int)≤c∧c<(a.length:Int)then
   (g184 m (a.getD c.toNat 0)).bind fun y1=>
   bif y1.1 then
    some (.inl (c,()))
   else
    g200_L0 m n a b (w_i64 (c+1))
   else none
  else
   some (.inr (.inl ()))
def g200 (m:Nat) (a:List Int):Option (Int×Unit×Unit×Unit):=
 (g200_L0 m m a (a.length:Int) 0).bind fun y1=>
 match y1 with
 | .inl z2=>
  some (z2.1,((),(),()))
 | .inr (.inl z3)=>
  some ((-1),((),(),()))
 | .inr (.inr e)=>
  e.elim
def g183 (m:Nat) (a:List Int):Option (Bool×Unit×Unit×Unit):=
 (g200 m a).bind fun y1=>
 some (decide (y1.1≥0),((),(),()))
def g136_L0 (m:Nat):Nat→List Int→Int→Int→Bool→List Int→Int→Int→Option ((Bool×List Int×Unit)⊕Empty)
 |0,_,_,_,_,_,_,_=>none
 |n+1,a,b,c,d,f,h,i=>
  bif decide (i<h)then
   if(0:Int)≤(w_i64 (b+i))∧(w_i64 (b+i))<(a.length:Int)then
   bif decide ((w_i64 ((w_i64 (b+i))+1))<(a.length:Int))then
    if(0:Int)≤(w_i64 ((w_i64 (b+i))+1))∧(w_i64 ((w_i64 (b+i))+1))<(a.length:Int)then
    if(0:Int)≤c then
    if(0:Int)≤i∧i<(f.length:Int)then
    g136_L0 m n a b c d (f.set (0+i.toNat) (w_u32 (qx .u64 (shr_ .u64 (b_or_ .u64 (w_u64 (a.getD (w_i64 (b+i)).toNat 0)) (shl_ .u64 (w_u64 (a.getD (w_i64 ((w_i64 (b+i))+1)).toNat 0)) 32)) c) 4294967295))) h (w_i64 (i+1))
    else none
    else none
    else none
   else
    if(0:Int)≤c then
    if(0:Int)≤i∧i<(f.length:Int)then
    g136_L0 m n a b c d (f.set (0+i.toNat) (w_u32 (qx .u64 (shr_ .u64 (w_u64 (a.getD (w_i64 (b+i)).toNat 0)) c) 4294967295))) h (w_i64 (i+1))
    else none
    else none
   else none
  else
   some (.inl (d,f,()))
def g136 (m:Nat) (a:List Int) (b:Int):Option ((List Int×Bool×Unit)×Unit×Unit×Unit):=
 bif decide ((w_i64 (Int.tdiv b 32))≥(a.length:Int))then
  some ((([]:List Int),decide ((a.length:Int)>0),()),((),(),()))
 else
  if(0:Int)≤0∧0≤(w_i64 (Int.tdiv b 32))∧(w_i64 (Int.tdiv b 32))≤(a.length:Int)then
  (g183 m (a.take (w_i64 (Int.tdiv b 32)).toNat)).bind fun y1=>
  bif y1.1 then
   if(0:Int)≤(w_i64 ((a.length:Int)-(w_i64 (Int.tdiv b 32))))∧(w_i64 ((a.length:Int)-(w_i64 (Int.tdiv b 32))))≤(w_i64 ((a.length:Int)-(w_i64 (Int.tdiv b 32))))∧(w_i64 ((a.length:Int)-(w_i64 (Int.tdiv b 32))))≤1073741824 then
   (g136_L0 m m a (w_i64 (Int.tdiv b 32)) (w_u64 (Int.tmod b 32)) true (List.replicate (w_i64 ((a.length:Int)-(w_i64 (Int.tdiv b 32)))).toNat (0:Int)) ((List.replicate (w_i64 ((a.length:Int)-(w_i64 (Int.tdiv b 32)))).toNat (0:Int)).length:Int) 0).bind fun y2=>
   match y2 with
   | .inl z3=>
    (g86 m z3.2.1).bind fun y4=>
    some ((y4.1,z3.1,()),((),(),()))
   | .inr e=>
    e.elim
   else none
  else
   if(0:Int)≤(w_i64 (Int.tdiv b 32))∧(w_i64 (Int.tdiv b 32))<(a.length:Int)then
   if(0:Int)≤(w_u64 (Int.tmod b 32))then
   if(0:Int)≤(w_i64 ((a.length:Int)-(w_i64 (Int.tdiv b 32))))∧(w_i64 ((a.length:Int)-(w_i64 (Int.tdiv b 32))))≤(w_i64 ((a.length:Int)-(w_i64 (Int.tdiv b 32))))∧(w_i64 ((a.length:Int)-(w_i64 (Int.tdiv b 32))))≤1073741824 then
   (g136_L0 m m a (w_i64 (Int.tdiv b 32)) (w_u64 (Int.tmod b 32)) ((qx .u32 (a.getD (w_i64 (Int.tdiv b 32)).toNat 0) (w_u32 ((shl_ .u32 1 (w_u64 (Int.tmod b 32)))-1))) !=0) (List.replicate (w_i64 ((a.length:Int)-(w_i64 (Int.tdiv b 32)))).toNat (0:Int)) ((List.replicate (w_i64 ((a.length:Int)-(w_i64 (Int.tdiv b 32)))).toNat (0:Int)).length:Int) 0).bind fun y5=>
   match y5 with
   | .inl z6=>
    (g86 m z6.2.1).bind fun y7=>
    some ((y7.1,z6.1,()),((),(),()))
   | .inr e=>
    e.elim
   else none
   else none
   else none
  else none
def g137_L0 (m:Nat):Nat→List Int→List Int→Int→List Int→Int→Int→Option ((List Int×Int×Unit)⊕Empty)
 |0,_,_,_,_,_,_=>none
 |n+1,a,b,c,d,f,h=>
  bif decide (h<f)then
   if(0:Int)≤h∧h<(d.length:Int)then
   bif decide (h<(a.length:Int))then
    if(0:Int)≤h∧h<(a.length:Int)then
    if b.length+([w_u32 (qx .u64 (w_u64 ((w_u64 ((w_u64 (d.getD h.toNat 0))+c))+(w_u64 (a.getD h.toNat 0)))) 4294967295)]:List Int).length≤1073741824 then
    g137_L0 m n a (b++([w_u32 (qx .u64 (w_u64 ((w_u64 ((w_u64 (d.getD h.toNat 0))+c))+(w_u64 (a.getD h.toNat 0)))) 4294967295)]:List Int)) (shr_ .u64 (w_u64 ((w_u64 ((w_u64 (d.getD h.toNat 0))+c))+(w_u64 (a.getD h.toNat 0)))) 32) d f (w_i64 (h+1))
    else none
    else none
   else
    if b.length+([w_u32 (qx .u64 (w_u64 ((w_u64 (d.getD h.toNat 0))+c)) 4294967295)]:List Int).length≤1073741824 then
    g137_L0 m n a (b++([w_u32 (qx .u64 (w_u64 ((w_u64 (d.getD h.toNat 0))+c)) 4294967295)]:List Int)) (shr_ .u64 (w_u64 ((w_u64 (d.getD h.toNat 0))+c)) 32) d f (w_i64 (h+1))
    else none
   else none
  else
   some (.inl (b,c,()))
def g137 (m:Nat) (a:List Int) (b:List Int):Option (List Int×Unit×Unit×Unit):=
 bif decide ((a.length:Int)<(b.length:Int))then
  if(0:Int)≤0∧0≤(w_i64 ((b.length:Int)+1))∧(w_i64 ((b.length:Int)+1))≤1073741824 then
  (g137_L0 m m a (List.replicate 0 (0:Int)) 0 b (b.length:Int) 0).bind fun y1=>
  match y1 with
  | .inl z2=>
   if z2.1.length+([w_u32 z2.2.1]:List Int).length≤1073741824 then
   (g86 m (z2.1++([w_u32 z2.2.1]:List Int))).bind fun y3=>
   some (y3.1,((),(),()))
   else none
  | .inr e=>
   e.elim
  else none
 else
  if(0:Int)≤0∧0≤(w_i64 ((a.length:Int)+1))∧(w_i64 ((a.length:Int)+1))≤1073741824 then
  (g137_L0 m m b (List.replicate 0 (0:Int)) 0 a (a.length:Int) 0).bind fun y4=>
  match y4 with
  | .inl z5=>
   if z5.1.length+([w_u32 z5.2.1]:List Int).length≤1073741824 then
   (g86 m (z5.1++([w_u32 z5.2.1]:List Int))).bind fun y6=>
   some (y6.1,((),(),()))
   else none
  | .inr e=>
   e.elim
  else none
def g78 (m:Nat) (a:Bool) (b:List Int) (c:Int):Option (((Bool×List Int×Unit)×Int×Unit)×Unit×Unit×Unit):=
 bif decide (c<(-1048576))then
  some (((false,([]:List Int),()),3,()),((),(),()))
 else
  bif decide (c>1048576)then
   some (((false,([]:List Int),()),3,()),((),(),()))
  else
   (g86 m b).bind fun y1=>
   bif decide (c≥0)then
    (g135 m y1.1 c).bind fun y2=>
    (g134 m a y2.1).bind fun y3=>
    some (((y3.1.1,y3.1.2.1,()),0,()),((),(),()))
   else
    (g136 m y1.1 (w_i64 (0-c))).bind fun y4=>
    bif a then
     bif y4.1.2.1 then
      (g137 m y4.1.1 ([1]:List Int)).bind fun y5=>
      (g134 m a y5.1).bind fun y6=>
      some (((y6.1.1,y6.1.2.1,()),0,()),((),(),()))
     else
      (g134 m a y4.1.1).bind fun y7=>
      some (((y7.1.1,y7.1.2.1,()),0,()),((),(),()))
    else
     (g134 m a y4.1.1).bind fun y8=>
     some (((y8.1.1,y8.1.2.1,()),0,()),((),(),()))
def g141_L0 (m:Nat):Nat→Int→Bool→List Int→Bool→List Int→Option ((Int×(Bool×List Int×Unit)×(Bool×List Int×Unit)×Unit)⊕Empty)
 |0,_,_,_,_,_=>none
 |n+1,a,b,c,d,f=>
  bif decide (a>1048576)then
   (g78 m b c (-1048576)).bind fun y1=>
   g141_L0 m n (w_i64 (a-1048576)) y1.1.1.1 y1.1.1.2.1 d f
  else
   some (.inl (a,(b,c,()),(d,f,()),()))
def g141 (m:Nat) (a:Bool) (b:List Int) (c:Int):Option ((Bool×List Int×Unit)×Unit×Unit×Unit):=
 (g141_L0 m m c a b false ([]:List Int)).bind fun y1=>
 match y1 with
 | .inl z2=>
  (g78 m z2.2.1.1 z2.2.1.2.1 (w_i64 (0-z2.1))).bind fun y3=>
  some ((y3.1.1.1,y3.1.1.2.1,()),((),(),()))
 | .inr e=>
  e.elim
def g80 (m:Nat) (a:Bool) (b:Bool) (c:List Int) (d:Int):Option (((Bool×Bool×List Int×Int×Unit)×Bool×Unit)×Unit×Unit):=
 bif a then
  (g125 m).bind fun y1=>
  some (((y1.1.1,y1.1.2.1,y1.1.2.2.1,y1.1.2.2.2.1,()),false,()),((),()))
 else
  (g139 m b c).bind fun y2=>
  (g31 m y2.1.1 y2.1.2.1).bind fun y3=>
  bif y3.1==0 then
   some (((false,false,([]:List Int),0,()),true,()),((),()))
  else
   (g32 m y2.1.1 y2.1.2.1).bind fun y4=>
   (g140 m y2.1.1 y2.1.2.1).bind fun y5=>
   bif decide (d>(w_i64 (65536-y5.1)))then
    (g125 m).bind fun y6=>
    some (((y6.1.1,y6.1.2.1,y6.1.2.2.1,y6.1.2.2.2.1,()),false,()),((),()))
   else
    bif decide (d<(w_i64 ((-65536)-y4.1)))then
     (g125 m).bind fun y7=>
     some (((y7.1.1,y7.1.2.1,y7.1.2.2.1,y7.1.2.2.2.1,()),false,()),((),()))
    else
     (g141 m y2.1.1 y2.1.2.1 y4.1).bind fun y8=>
     some (((false,y8.1.1,y8.1.2.1,w_i64 (d+y4.1),()),true,()),((),()))
def g28 (m:Nat) (a:Bool) (b:List Int) (c:Int):Option ((Bool×Bool×List Int×Int×Unit)×Unit×Unit×Unit):=
 (g80 m false a b c).bind fun y1=>
 some ((y1.1.1.1,y1.1.1.2.1,y1.1.1.2.2.1,y1.1.1.2.2.2.1,()),((),(),()))
def g29 (m:Nat) (a:Int):Option ((Bool×Bool×List Int×Int×Unit)×Unit×Unit):=
 (g81 m a).bind fun y1=>
 bif y1.1.1==2047 then
  some ((true,false,([]:List Int),0,()),((),()))
 else
  bif y1.1.1==0 then
   (g82 m (w_i64 y1.1.2.1)).bind fun y2=>
   (g83 m a).bind fun y3=>
   bif y3.1 then
    (g84 m y2.1.1 y2.1.2.1).bind fun y4=>
    (g28 m y4.1.1 y4.1.2.1 (-1074)).bind fun y5=>
    some ((y5.1.1,y5.1.2.1,y5.1.2.2.1,y5.1.2.2.2.1,()),((),()))
   else
    (g28 m y2.1.1 y2.1.2.1 (-1074)).bind fun y6=>
    some ((y6.1.1,y6.1.2.1,y6.1.2.2.1,y6.1.2.2.2.1,()),((),()))
  else
   (g82 m (w_i64 (b_or_ .u64 y1.1.2.1 4503599627370496))).bind fun y7=>
   (g83 m a).bind fun y8=>
   bif y8.1 then
    (g84 m y7.1.1 y7.1.2.1).bind fun y9=>
    (g28 m y9.1.1 y9.1.2.1 (w_i64 (y1.1.1-1075))).bind fun y10=>
    some ((y10.1.1,y10.1.2.1,y10.1.2.2.1,y10.1.2.2.2.1,()),((),()))
   else
    (g28 m y7.1.1 y7.1.2.1 (w_i64 (y1.1.1-1075))).bind fun y11=>
    some ((y11.1.1,y11.1.2.1,y11.1.2.2.1,y11.1.2.2.2.1,()),((),()))
def g127 (m:Nat) (a:Bool) (b:List Int) (c:Int):Option ((Bool×List Int×Unit)×Unit×Unit×Unit):=
 (g78 m a b c).bind fun y1=>
 some ((y1.1.1.1,y1.1.1.2.1,()),((),(),()))
def g203 (m:Nat) (a:Int):Option (Bool×Unit×Unit):=
 some (a !=a,((),()))
def g195 (m:Nat) (a:Int) (b:Int):Option (Int×Unit×Unit×Unit):=
 (g203 m a).bind fun y1=>
 (g203 m b).bind fun y2=>
 bif y1.1 then
  bif y2.1 then
   some (0,((),(),()))
  else
   some ((-1),((),(),()))
 else
  bif y2.1 then
   some (1,((),(),()))
  else
   bif decide (a<b)then
    some ((-1),((),(),()))
   else
    bif decide (a>b)then
     some (1,((),(),()))
    else
     some (0,((),(),()))
def g175_L0 (m:Nat):Nat→List Int→List Int→Int→Option ((Int×Unit)⊕Unit⊕Empty)
 |0,_,_,_=>none
 |n+1,a,b,c=>
  bif decide (c≥0)then
   if(0:Int)≤c∧c<(a.length:Int)then
   if(0:Int)≤c∧c<(b.length:Int)then
   bif (a.getD c.toNat 0) !=(b.getD c.toNat 0)then
    if(0:Int)≤c∧c<(a.length:Int)then
    if(0:Int)≤c∧c<(b.length:Int)then
    (g195 m (a.getD c.toNat 0) (b.getD c.toNat 0)).bind fun y1=>
    some (.inl (y1.1,()))
    else none
    else none
   else
    g175_L0 m n a b (w_i64 (c-1))
   else none
   else none
  else
   some (.inr (.inl ()))
def g175 (m:Nat) (a:List Int) (b:List Int):Option (Int×Unit×Unit×Unit):=
 bif (a.length:Int) !=(b.length:Int)then
  (g121 m (a.length:Int) (b.length:Int)).bind fun y1=>
  some (y1.1,((),(),()))
 else
  (g175_L0 m m a b (w_i64 ((a.length:Int)-1))).bind fun y2=>
  match y2 with
  | .inl z3=>
   some (z3.1,((),(),()))
  | .inr (.inl z4)=>
   some (0,((),(),()))
  | .inr (.inr e)=>
   e.elim
def g176_L0 (m:Nat):Nat→List Int→List Int→Int→List Int→Int→Int→Option ((List Int×Unit)⊕Empty)
 |0,_,_,_,_,_,_=>none
 |n+1,a,b,c,d,f,h=>
  bif decide (h<f)then
   if(0:Int)≤h∧h<(d.length:Int)then
   bif decide (h<(a.length:Int))then
    if(0:Int)≤h∧h<(a.length:Int)then
    if(0:Int)≤h∧h<(b.length:Int)then
    g176_L0 m n a (b.set (0+h.toNat) (w_u32 (qx .u64 (w_u64 ((w_u64 ((w_u64 (d.getD h.toNat 0))-c))-(w_u64 (a.getD h.toNat 0)))) 4294967295))) (qx .u64 (shr_ .u64 (w_u64 ((w_u64 ((w_u64 (d.getD h.toNat 0))-c))-(w_u64 (a.getD h.toNat 0)))) 32) 1) d f (w_i64 (h+1))
    else none
    else none
   else
    if(0:Int)≤h∧h<(b.length:Int)then
    g176_L0 m n a (b.set (0+h.toNat) (w_u32 (qx .u64 (w_u64 ((w_u64 (d.getD h.toNat 0))-c)) 4294967295))) (qx .u64 (shr_ .u64 (w_u64 ((w_u64 (d.getD h.toNat 0))-c)) 32) 1) d f (w_i64 (h+1))
    else none
   else none
  else
   some (.inl (b,()))
def g176 (m:Nat) (a:List Int) (b:List Int):Option (List Int×Unit×Unit×Unit):=
 if(0:Int)≤(a.length:Int)∧(a.length:Int)≤(a.length:Int)∧(a.length:Int)≤1073741824 then
 (g176_L0 m m b (List.replicate (a.length:Int).toNat (0:Int)) 0 a (a.length:Int) 0).bind fun y1=>
 match y1 with
 | .inl z2=>
  (g86 m z2.1).bind fun y3=>
  some (y3.1,((),(),()))
 | .inr e=>
  e.elim
 else none
def g126 (m:Nat) (a:Bool) (b:List Int) (c:Bool) (d:List Int):Option ((Bool×List Int×Unit)×Unit×Unit×Unit):=
 (g86 m b).bind fun y1=>
 (g86 m d).bind fun y2=>
 bif a==c then
  (g137 m y1.1 y2.1).bind fun y3=>
  (g134 m a y3.1).bind fun y4=>
  some ((y4.1.1,y4.1.2.1,()),((),(),()))
 else
  (g175 m y1.1 y2.1).bind fun y5=>
  bif decide (y5.1≥0)then
   (g176 m y1.1 y2.1).bind fun y6=>
   (g134 m a y6.1).bind fun y7=>
   some ((y7.1.1,y7.1.2.1,()),((),(),()))
  else
   (g176 m y2.1 y1.1).bind fun y8=>
   (g134 m c y8.1).bind fun y9=>
   some ((y9.1.1,y9.1.2.1,()),((),(),()))
def g61_L1 (m:Nat):Nat→Bool→Bool→List Int→Int→Int→Bool→List Int→(List (Bool×(Bool×List Int)×Int))→Int→Int→Option (((Bool×Bool×List Int×Int×Unit)×Int×(Bool×List Int×Unit)×Unit)⊕Empty)
 |0,_,_,_,_,_,_,_,_,_,_=>none
 |n+1,a,b,c,d,f,h,i,j,k,l=>
  bif decide (l<k)then
   if(0:Int)≤l∧l<(j.length:Int)then
   (g127 m (j.getD (0+l.toNat) (false,((false,([]:List Int)),0))).2.1.1 (j.getD (0+l.toNat) (false,((false,([]:List Int)),0))).2.1.2 (w_i64 ((j.getD (0+l.toNat) (false,((false,([]:List Int)),0))).2.2-f))).bind fun y1=>
   (g126 m h i y1.1.1 y1.1.2.1).bind fun y2=>
   g61_L1 m n a b c d f y2.1.1 y2.1.2.1 j k (w_i64 (l+1))
   else none
  else
   some (.inl ((a,b,c,d,()),f,(h,i,()),()))
def g61_L0 (m:Nat):Nat→Bool→Bool→List Int→Int→(List (Bool×(Bool×List Int)×Int))→Int→(List (Bool×(Bool×List Int)×Int))→Int→Int→Option (((Bool×Bool×List Int×Int×Unit)×Unit)⊕((Bool×Bool×List Int×Int×Unit)×(List (Bool×(Bool×List Int)×Int))×Int×Unit)⊕Empty)
 |0,_,_,_,_,_,_,_,_,_=>none
 |n+1,a,b,c,d,f,h,i,j,k=>
  bif decide (k<j)then
   if(0:Int)≤k∧k<(i.length:Int)then
   (g80 m (i.getD k.toNat (false,((false,([]:List Int)),0))).1 (i.getD k.toNat (false,((false,([]:List Int)),0))).2.1.1 (i.getD k.toNat (false,((false,([]:List Int)),0))).2.1.2 (i.getD k.toNat (false,((false,([]:List Int)),0))).2.2).bind fun y1=>
   bif !y1.1.2.1 then
    (g125 m).bind fun y2=>
    some (.inl ((y2.1.1,y2.1.2.1,y2.1.2.2.1,y2.1.2.2.2.1,()),()))
   else
    if f.length+([(y1.1.1.1,((y1.1.1.2.1,y1.1.1.2.2.1),y1.1.1.2.2.2.1))]:List (Bool×(Bool×List Int)×Int)).length≤1073741824 then
    g61_L0 m n a b c d (f++([(y1.1.1.1,((y1.1.1.2.1,y1.1.1.2.2.1),y1.1.1.2.2.2.1))]:List (Bool×(Bool×List Int)×Int))) (if y1.1.1.2.2.2.1<h then y1.1.1.2.2.2.1 else h) i j (w_i64 (k+1))
    else none
   else none
  else
   some (.inr (.inl ((a,b,c,d,()),f,h,())))
def g61 (m:Nat) (a:List (Bool×(Bool×List Int)×Int)):Option ((Bool×Bool×List Int×Int×Unit)×Unit×Unit):=
 (g61_L0 m m false false ([]:List Int) 0 ([]:List (Bool×(Bool×List Int)×Int)) 0 a (a.length:Int) 0).bind fun y1=>
 match y1 with
 | .inl z2=>
  some ((z2.1.1,z2.1.2.1,z2.1.2.2.1,z2.1.2.2.2.1,()),((),()))
 | .inr (.inl z3)=>
  (g61_L1 m m z3.1.1 z3.1.2.1 z3.1.2.2.1 z3.1.2.2.2.1 z3.2.2.1 false ([]:List Int) z3.2.1 (z3.2.1.length:Int) 0).bind fun y4=>
  match y4 with
  | .inl z5=>
   (g28 m z5.2.2.1.1 z5.2.2.1.2.1 z5.2.1).bind fun y6=>
   some ((y6.1.1,y6.1.2.1,y6.1.2.2.1,y6.1.2.2.2.1,()),((),()))
  | .inr e=>
   e.elim
 | .inr (.inr e)=>
  e.elim
def g122 (m:Nat) (a:Bool) (b:Bool) (c:List Int) (d:Int):Option ((Bool×Bool×List Int×Int×Unit)×Unit×Unit):=
 (g80 m a b c d).bind fun y1=>
 some ((y1.1.1.1,y1.1.1.2.1,y1.1.1.2.2.1,y1.1.1.2.2.2.1,()),((),()))
def g77 (m:Nat) (a:Bool) (b:Bool) (c:List Int) (d:Int):Option (Int×Unit×Unit):=
 (g80 m a b c d).bind fun y1=>
 (g31 m y1.1.1.2.1 y1.1.1.2.2.1).bind fun y2=>
 some (y2.1,((),()))
def g171 (m:Nat) (a:Bool) (b:List Int):Option ((Bool×List Int×Unit)×Unit×Unit):=
 (g142 m b).bind fun y1=>
 (g134 m false y1.1).bind fun y2=>
 some ((y2.1.1,y2.1.2.1,()),((),()))
def g124 (m:Nat) (a:Bool) (b:Bool) (c:List Int) (d:Int):Option ((Bool×Bool×List Int×Int×Bool×Unit)×Unit×Unit):=
 (g171 m b c).bind fun y1=>
 some ((b,y1.1.1,y1.1.2.1,d,false,()),((),()))
def g169 (m:Nat) (a:Bool) (b:Bool) (c:List Int) (d:Int) (f:Bool):Option (Int×Unit×Unit):=
 (g140 m b c).bind fun y1=>
 some (w_i64 ((w_i64 (d+y1.1))-1),((),()))
def g202 (m:Nat) (a:Bool) (b:List Int) (c:Bool) (d:List Int):Option ((Bool×List Int×Unit)×Unit×Unit×Unit):=
 (g126 m a b (!c) d).bind fun y1=>
 some ((y1.1.1,y1.1.2.1,()),((),(),()))
def g189 (m:Nat) (a:Bool) (b:List Int) (c:Bool) (d:List Int):Option (Int×Unit×Unit×Unit):=
 (g31 m a b).bind fun y1=>
 (g31 m c d).bind fun y2=>
 bif decide (y1.1<y2.1)then
  some ((-1),((),(),()))
 else
  bif decide (y1.1>y2.1)then
   some (1,((),(),()))
  else
   (g86 m b).bind fun y3=>
   (g86 m d).bind fun y4=>
   (g175 m y3.1 y4.1).bind fun y5=>
   some (w_i64 (y1.1*y5.1),((),(),()))
def g194 (m:Nat) (a:Bool) (b:Bool) (c:List Int) (d:Int) (f:Bool) (h:Int):Option (((Bool×List Int×Unit)×Int×Bool×Unit)×Unit×Unit×Unit):=
 (g140 m b c).bind fun y1=>
 bif decide (h>y1.1)then
  some (((false,([]:List Int),()),(-1),false,()),((),(),()))
 else
  (g141 m b c h).bind fun y2=>
  (g127 m y2.1.1 y2.1.2.1 h).bind fun y3=>
  (g202 m b c y3.1.1 y3.1.2.1).bind fun y4=>
  (g82 m 1).bind fun y5=>
  (g127 m y5.1.1 y5.1.2.1 (w_i64 (h-1))).bind fun y6=>
  (g189 m y4.1.1 y4.1.2.1 y6.1.1 y6.1.2.1).bind fun y7=>
  bif y7.1==0 then
   bif f then
    (g31 m y4.1.1 y4.1.2.1).bind fun y8=>
    bif y8.1==0 then
     some (((y2.1.1,y2.1.2.1,()),1,!f,()),((),(),()))
    else
     some (((y2.1.1,y2.1.2.1,()),1,false,()),((),(),()))
   else
    (g31 m y4.1.1 y4.1.2.1).bind fun y9=>
    bif y9.1==0 then
     some (((y2.1.1,y2.1.2.1,()),y7.1,!f,()),((),(),()))
    else
     some (((y2.1.1,y2.1.2.1,()),y7.1,false,()),((),(),()))
  else
   (g31 m y4.1.1 y4.1.2.1).bind fun y10=>
   bif y10.1==0 then
    some (((y2.1.1,y2.1.2.1,()),y7.1,!f,()),((),(),()))
   else
    some (((y2.1.1,y2.1.2.1,()),y7.1,false,()),((),(),()))
def g172 (m:Nat) (a:Bool) (b:Bool) (c:List Int) (d:Int) (f:Bool) (h:Int) (i:Int):Option ((Bool×List Int×Unit)×Unit×Unit×Unit×Unit):=
 bif decide (h≤d)then
  (g127 m b c (w_i64 (d-h))).bind fun y1=>
  bif a then
   (g84 m y1.1.1 y1.1.2.1).bind fun y2=>
   some ((y2.1.1,y2.1.2.1,()),((),(),(),()))
  else
   some ((y1.1.1,y1.1.2.1,()),((),(),(),()))
 else
  (g194 m a b c d f (w_i64 (h-d))).bind fun y3=>
  bif y3.1.2.2.1 then
   bif a then
    (g84 m y3.1.1.1 y3.1.1.2.1).bind fun y4=>
    some ((y4.1.1,y4.1.2.1,()),((),(),(),()))
   else
    some ((y3.1.1.1,y3.1.1.2.1,()),((),(),(),()))
  else
   bif i==1 then
    bif a then
     (g82 m 1).bind fun y5=>
     (g126 m y3.1.1.1 y3.1.1.2.1 y5.1.1 y5.1.2.1).bind fun y6=>
     bif a then
      (g84 m y6.1.1 y6.1.2.1).bind fun y7=>
      some ((y7.1.1,y7.1.2.1,()),((),(),(),()))
     else
      some ((y6.1.1,y6.1.2.1,()),((),(),(),()))
    else
     bif a then
      (g84 m y3.1.1.1 y3.1.1.2.1).bind fun y8=>
      some ((y8.1.1,y8.1.2.1,()),((),(),(),()))
     else
      some ((y3.1.1.1,y3.1.1.2.1,()),((),(),(),()))
   else
    bif i==2 then
     bif !a then
      (g82 m 1).bind fun y9=>
      (g126 m y3.1.1.1 y3.1.1.2.1 y9.1.1 y9.1.2.1).bind fun y10=>
      bif a then
       (g84 m y10.1.1 y10.1.2.1).bind fun y11=>
       some ((y11.1.1,y11.1.2.1,()),((),(),(),()))
      else
       some ((y10.1.1,y10.1.2.1,()),((),(),(),()))
     else
      bif a then
       (g84 m y3.1.1.1 y3.1.1.2.1).bind fun y12=>
       some ((y12.1.1,y12.1.2.1,()),((),(),(),()))
      else
       some ((y3.1.1.1,y3.1.1.2.1,()),((),(),(),()))
    else
     bif i==3 then
      bif a then
       (g84 m y3.1.1.1 y3.1.1.2.1).bind fun y13=>
       some ((y13.1.1,y13.1.2.1,()),((),(),(),()))
      else
       some ((y3.1.1.1,y3.1.1.2.1,()),((),(),(),()))
     else
      bif decide (y3.1.2.1>0)then
       (g82 m 1).bind fun y14=>
       (g126 m y3.1.1.1 y3.1.1.2.1 y14.1.1 y14.1.2.1).bind fun y15=>
       bif a then
        (g84 m y15.1.1 y15.1.2.1).bind fun y16=>
        some ((y16.1.1,y16.1.2.1,()),((),(),(),()))
       else
        some ((y15.1.1,y15.1.2.1,()),((),(),(),()))
      else
       bif y3.1.2.1==0 then
        (g31 m y3.1.1.1 y3.1.1.2.1).bind fun y17=>
        bif y17.1 !=0 then
         (g32 m y3.1.1.1 y3.1.1.2.1).bind fun y18=>
         bif y18.1==0 then
          (g82 m 1).bind fun y19=>
          (g126 m y3.1.1.1 y3.1.1.2.1 y19.1.1 y19.1.2.1).bind fun y20=>
          bif a then
           (g84 m y20.1.1 y20.1.2.1).bind fun y21=>
           some ((y21.1.1,y21.1.2.1,()),((),(),(),()))
          else
           some ((y20.1.1,y20.1.2.1,()),((),(),(),()))
         else
          bif a then
           (g84 m y3.1.1.1 y3.1.1.2.1).bind fun y22=>
           some ((y22.1.1,y22.1.2.1,()),((),(),(),()))
          else
           some ((y3.1.1.1,y3.1.1.2.1,()),((),(),(),()))
        else
         bif a then
          (g84 m y3.1.1.1 y3.1.1.2.1).bind fun y23=>
          some ((y23.1.1,y23.1.2.1,()),((),(),(),()))
         else
          some ((y3.1.1.1,y3.1.1.2.1,()),((),(),(),()))
       else
        bif a then
         (g84 m y3.1.1.1 y3.1.1.2.1).bind fun y24=>
         some ((y24.1.1,y24.1.2.1,()),((),(),(),()))
        else
         some ((y3.1.1.1,y3.1.1.2.1,()),((),(),(),()))
def g170_L0 (m:Nat):Nat→Bool→List Int→Int→List Int→Int→Int→Option (((Bool×List Int×Unit)×Int×Unit)⊕Empty)
 |0,_,_,_,_,_,_=>none
 |n+1,a,b,c,d,f,h=>
  bif decide (h<f)then
   if(0:Int)≤h∧h<(d.length:Int)then
   if(0:Int)≤(w_i64 (32*h))then
   g170_L0 m n a b (b_or_ .u64 c (shl_ .u64 (w_u64 (d.getD h.toNat 0)) (w_i64 (32*h)))) d f (w_i64 (h+1))
   else none
   else none
  else
   some (.inl ((a,b,()),c,()))
def g170 (m:Nat) (a:Bool) (b:List Int):Option ((Int×Bool×Unit)×Unit×Unit):=
 (g86 m b).bind fun y1=>
 bif decide ((y1.1.length:Int)>2)then
  some ((0,false,()),((),()))
 else
  (g170_L0 m m a b 0 y1.1 (y1.1.length:Int) 0).bind fun y2=>
  match y2 with
  | .inl z3=>
   bif z3.1.1 then
    bif decide (z3.2.1>0)then
     bif decide (z3.2.1≤9223372036854775808)then
      some ((w_i64 ((w_i64 (0-(w_i64 (w_u64 (z3.2.1-1)))))-1),true,()),((),()))
     else
      bif decide (z3.2.1<9223372036854775808)then
       bif !z3.1.1 then
        some ((w_i64 z3.2.1,true,()),((),()))
       else
        bif z3.2.1==0 then
         some ((w_i64 z3.2.1,true,()),((),()))
        else
         some ((0,false,()),((),()))
      else
       some ((0,false,()),((),()))
    else
     bif decide (z3.2.1<9223372036854775808)then
      bif !z3.1.1 then
       some ((w_i64 z3.2.1,true,()),((),()))
      else
       bif z3.2.1==0 then
        some ((w_i64 z3.2.1,true,()),((),()))
       else
        some ((0,false,()),((),()))
     else
      some ((0,false,()),((),()))
   else
    bif decide (z3.2.1<9223372036854775808)then
     bif !z3.1.1 then
      some ((w_i64 z3.2.1,true,()),((),()))
     else
      bif z3.2.1==0 then
       some ((w_i64 z3.2.1,true,()),((),()))
      else
       some ((0,false,()),((),()))
    else
     some ((0,false,()),((),()))
  | .inr e=>
   e.elim
def g173 (m:Nat) (a:Int) (b:Bool):Option (Int×Unit×Unit×Unit):=
 bif b then
  some (b_or_ .u64 a 9223372036854775808,((),(),()))
 else
  some (a,((),(),()))
def g174 (m:Nat) (a:Bool) (b:Int):Option (Int×Unit×Unit×Unit):=
 bif b==3 then
  (g173 m 9218868437227405311 a).bind fun y1=>
  some (y1.1,((),(),()))
 else
  bif b==1 then
   bif !a then
    (g173 m 9218868437227405311 a).bind fun y2=>
    some (y2.1,((),(),()))
   else
    bif b==2 then
     bif a then
      (g173 m 9218868437227405311 a).bind fun y3=>
      some (y3.1,((),(),()))
     else
      (g173 m 9218868437227405312 a).bind fun y4=>
      some (y4.1,((),(),()))
    else
     (g173 m 9218868437227405312 a).bind fun y5=>
     some (y5.1,((),(),()))
  else
   bif b==2 then
    bif a then
     (g173 m 9218868437227405311 a).bind fun y6=>
     some (y6.1,((),(),()))
    else
     (g173 m 9218868437227405312 a).bind fun y7=>
     some (y7.1,((),(),()))
   else
    (g173 m 9218868437227405312 a).bind fun y8=>
    some (y8.1,((),(),()))
def g123 (m:Nat) (a:Bool) (b:Bool) (c:List Int) (d:Int) (f:Bool) (h:Int):Option (Int×Unit×Unit×Unit):=
 (g169 m a b c d f).bind fun y1=>
 (g172 m a b c d f (if(-1074)>(w_i64 (y1.1-52))then(-1074)else(w_i64 (y1.1-52))) h).bind fun y2=>
 (g171 m y2.1.1 y2.1.2.1).bind fun y3=>
 (g170 m y3.1.1 y3.1.2.1).bind fun y4=>
 bif (w_u64 y4.1.1)==9007199254740992 then
  bif decide ((w_i64 ((w_i64 ((if(-1074)>(w_i64 (y1.1-52))then(-1074)else(w_i64 (y1.1-52)))+1))+1075))≥2047)then
   (g174 m a h).bind fun y5=>
   some (y5.1,((),(),()))
  else
   (g173 m (b_or_ .u64 (shl_ .u64 (w_u64 (w_i64 ((w_i64 ((if(-1074)>(w_i64 (y1.1-52))then(-1074)else(w_i64 (y1.1-52)))+1))+1075))) 52) 0) a).bind fun y6=>
   some (y6.1,((),(),()))
 else
  bif decide ((w_u64 y4.1.1)<4503599627370496)then
   (g173 m (w_u64 y4.1.1) a).bind fun y7=>
   some (y7.1,((),(),()))
  else
   bif decide ((w_i64 ((if(-1074)>(w_i64 (y1.1-52))then(-1074)else(w_i64 (y1.1-52)))+1075))≥2047)then
    (g174 m a h).bind fun y8=>
    some (y8.1,((),(),()))
   else
    (g173 m (b_or_ .u64 (shl_ .u64 (w_u64 (w_i64 ((if(-1074)>(w_i64 (y1.1-52))then(-1074)else(w_i64 (y1.1-52)))+1075))) 52) (w_u64 ((w_u64 y4.1.1)-4503599627370496))) a).bind fun y9=>
    some (y9.1,((),(),()))
def g60 (m:Nat) (a:Bool) (b:Bool) (c:List Int) (d:Int) (f:Int):Option (Int×Unit×Unit×Unit):=
 (g122 m a b c d).bind fun y1=>
 bif y1.1.1 then
  some (9221120237041090560,((),(),()))
 else
  (g77 m y1.1.1 y1.1.2.1 y1.1.2.2.1 y1.1.2.2.2.1).bind fun y2=>
  bif y2.1==0 then
   some (0,((),(),()))
  else
   (g124 m y1.1.1 y1.1.2.1 y1.1.2.2.1 y1.1.2.2.2.1).bind fun y3=>
   (g123 m y3.1.1 y3.1.2.1 y3.1.2.2.1 y3.1.2.2.2.1 y3.1.2.2.2.2.1 f).bind fun y4=>
   some (y4.1,((),(),()))
def g62_L1 (m:Nat):Nat→Int→Int→List Int→List Int→List Int→Int→Int→List Int→List Int→List Int→Int→Int→Option (((Int×Int×List Int×List Int×List Int×Unit)×(Int×Int×List Int×List Int×List Int×Unit)×Unit)⊕Empty)
 |0,_,_,_,_,_,_,_,_,_,_,_,_=>none
 |n+1,a,b,c,d,f,h,i,j,k,l,o,p=>
  bif decide (p<o)then
   if(0:Int)≤(w_i64 (p+1))∧(w_i64 (p+1))<(j.length:Int)then
   if(0:Int)≤p∧p<(j.length:Int)then
   if(0:Int)≤(w_i64 (p+1))∧(w_i64 (p+1))<(j.length:Int)then
   g62_L1 m n a b c d f h i (j.set (0+(w_i64 (p+1)).toNat) (w_i64 ((j.getD (0+(w_i64 (p+1)).toNat) 0)+(j.getD (0+p.toNat) 0)))) k l o (w_i64 (p+1))
   else none
   else none
   else none
  else
   some (.inl ((a,b,c,d,f,()),(h,i,j,k,l,()),()))
def g62_L0 (m:Nat):Nat→Int→Int→Int→List Int→List Int→List Int→Int→Int→List Int→List Int→List Int→(List (Int×Int×Int))→Int→Int→Option ((Int×(Int×Int×List Int×List Int×List Int×Unit)×(Int×Int×List Int×List Int×List Int×Unit)×Unit)⊕Empty)
 |0,_,_,_,_,_,_,_,_,_,_,_,_,_,_=>none
 |n+1,a,b,c,d,f,h,i,j,k,l,o,p,q,r=>
  bif decide (r<q)then
   if(0:Int)≤r∧r<(p.length:Int)then
   if l.length+([(p.getD (0+r.toNat) (0,(0,0))).1]:List Int).length≤1073741824 then
   if o.length+([(p.getD (0+r.toNat) (0,(0,0))).2.2]:List Int).length≤1073741824 then
   if(0:Int)≤(w_i64 ((p.getD (0+r.toNat) (0,(0,0))).2.1+1))∧(w_i64 ((p.getD (0+r.toNat) (0,(0,0))).2.1+1))<(k.length:Int)then
   if(0:Int)≤(w_i64 ((p.getD (0+r.toNat) (0,(0,0))).2.1+1))∧(w_i64 ((p.getD (0+r.toNat) (0,(0,0))).2.1+1))<(k.length:Int)then
   g62_L0 m n a b c d f h i j (k.set (0+(w_i64 ((p.getD (0+r.toNat) (0,(0,0))).2.1+1)).toNat) (w_i64 ((k.getD (0+(w_i64 ((p.getD (0+r.toNat) (0,(0,0))).2.1+1)).toNat) 0)+1))) (l++([(p.getD (0+r.toNat) (0,(0,0))).1]:List Int)) (o++([(p.getD (0+r.toNat) (0,(0,0))).2.2]:List Int)) p q (w_i64 (r+1))
   else none
   else none
   else none
   else none
   else none
  else
   some (.inl (a,(b,c,d,f,h,()),(i,j,k,l,o,()),()))
def g62 (m:Nat) (a:Int) (b:Int) (c:List (Int×Int×Int)):Option ((Int×Int×List Int×List Int×List Int×Unit)×Unit×Unit×Unit×Unit):=
 if(0:Int)≤(w_i64 (b+1))∧(w_i64 (b+1))≤(w_i64 (b+1))∧(w_i64 (b+1))≤1073741824 then
 (g59 m c).bind fun y1=>
 (g62_L0 m m b 0 0 ([]:List Int) ([]:List Int) ([]:List Int) a b (List.replicate (w_i64 (b+1)).toNat (0:Int)) ([]:List Int) ([]:List Int) y1.1 (y1.1.length:Int) 0).bind fun y2=>
 match y2 with
 | .inl z3=>
  (g62_L1 m m z3.2.1.1 z3.2.1.2.1 z3.2.1.2.2.1 z3.2.1.2.2.2.1 z3.2.1.2.2.2.2.1 z3.2.2.1.1 z3.2.2.1.2.1 z3.2.2.1.2.2.1 z3.2.2.1.2.2.2.1 z3.2.2.1.2.2.2.2.1 z3.1 0).bind fun y4=>
  match y4 with
  | .inl z5=>
   some ((z5.2.1.1,z5.2.1.2.1,z5.2.1.2.2.1,z5.2.1.2.2.2.1,z5.2.1.2.2.2.2.1,()),((),(),(),()))
  | .inr e=>
   e.elim
 | .inr e=>
  e.elim
 else none
def g11_L3 (m:Nat):Nat→Int→Int→(List (Int×Int×Int))→Int→Int→List Int→List Int→List Int→(List (Int×Int×Int))→Int→Int→Int→(List (Bool×(Bool×List Int)×Int))→Option ((Int×Int×(List (Int×Int×Int))×(Int×Int×List Int×List Int×List Int×Unit)×(List (Int×Int×Int))×(Int×Int×Int×Unit)×(List (Bool×(Bool×List Int)×Int))×Unit)⊕Empty)
 |0,_,_,_,_,_,_,_,_,_,_,_,_,_=>none
 |n+1,a,b,c,d,f,h,i,j,k,l,o,p,q=>
  bif decide ((c.length:Int)>0)then
   if(0:Int)≤0∧0<(c.length:Int)then
   bif (c.getD 0 (0,(0,0))).1==l then
    if(0:Int)≤0∧0<(c.length:Int)then
    bif (c.getD 0 (0,(0,0))).2.1==o then
     if(0:Int)≤0∧0<(c.length:Int)then
     (g29 m (c.getD 0 (0,(0,0))).2.2).bind fun y1=>
     if q.length+([(y1.1.1,((y1.1.2.1,y1.1.2.2.1),y1.1.2.2.2.1))]:List (Bool×(Bool×List Int)×Int)).length≤1073741824 then
     if(0:Int)≤1∧1≤(c.length:Int)∧(c.length:Int)≤(c.length:Int)then
     g11_L3 m n a b (c.drop 1) d f h i j k l o p (q++([(y1.1.1,((y1.1.2.1,y1.1.2.2.1),y1.1.2.2.2.1))]:List (Bool×(Bool×List Int)×Int)))
     else none
     else none
     else none
    else
     some (.inl (a,b,c,(d,f,h,i,j,()),k,(l,o,p,()),q,()))
    else none
   else
    some (.inl (a,b,c,(d,f,h,i,j,()),k,(l,o,p,()),q,()))
   else none
  else
   some (.inl (a,b,c,(d,f,h,i,j,()),k,(l,o,p,()),q,()))
def g11_L2 (m:Nat):Nat→Int→Int→(List (Int×Int×Int))→Int→Int→List Int→List Int→List Int→(List (Int×Int×Int))→Option (((Int×Int×List Int×List Int×List Int×Unit)×Int×Unit)⊕(Int×Int×(Int×Int×List Int×List Int×List Int×Unit)×(List (Int×Int×Int))×Unit)⊕Empty)
 |0,_,_,_,_,_,_,_,_,_=>none
 |n+1,a,b,c,d,f,h,i,j,k=>
  bif decide ((c.length:Int)>0)then
   if(0:Int)≤0∧0<(c.length:Int)then
   (g11_L3 m m a b c d f h i j k (c.getD 0 (0,(0,0))).1 (c.getD 0 (0,(0,0))).2.1 (c.getD 0 (0,(0,0))).2.2 ([]:List (Bool×(Bool×List Int)×Int))).bind fun y1=>
   match y1 with
   | .inl z2=>
    (g61 m z2.2.2.2.2.2.2.1).bind fun y3=>
    (g60 m y3.1.1 y3.1.2.1 y3.1.2.2.1 y3.1.2.2.2.1 0).bind fun y4=>
    (g58 m y4.1).bind fun y5=>
    bif !y5.1 then
     some (.inl ((0,0,([]:List Int),([]:List Int),([]:List Int),()),3,()))
    else
     if z2.2.2.2.2.1.length+([(z2.2.2.2.2.2.1.1,(z2.2.2.2.2.2.1.2.1,y4.1))]:List (Int×Int×Int)).length≤1073741824 then
     g11_L2 m n z2.1 z2.2.1 z2.2.2.1 z2.2.2.2.1.1 z2.2.2.2.1.2.1 z2.2.2.2.1.2.2.1 z2.2.2.2.1.2.2.2.1 z2.2.2.2.1.2.2.2.2.1 (z2.2.2.2.2.1++([(z2.2.2.2.2.2.1.1,(z2.2.2.2.2.2.1.2.1,y4.1))]:List (Int×Int×Int)))
     else none
   | .inr e=>
    e.elim
   else none
  else
   some (.inr (.inl (a,b,(d,f,h,i,j,()),k,())))
def g11_L1 (m:Nat):Nat→Int→Int→(List (Int×Int×Int))→Int→Int→List Int→List Int→List Int→(List (Int×Int×Int))→Int→Int→Option (((Int×Int×List Int×List Int×List Int×Unit)×Int×Unit)⊕(Int×Int×(List (Int×Int×Int))×(Int×Int×List Int×List Int×List Int×Unit)×Unit)⊕Empty)
 |0,_,_,_,_,_,_,_,_,_,_,_=>none
 |n+1,a,b,c,d,f,h,i,j,k,l,o=>
  bif decide (o<l)then
   if(0:Int)≤o∧o<(k.length:Int)then
   (g58 m (k.getD o.toNat (0,(0,0))).2.2).bind fun y1=>
   bif !y1.1 then
    some (.inl ((0,0,([]:List Int),([]:List Int),([]:List Int),()),4,()))
   else
    g11_L1 m n a b c d f h i j k l (w_i64 (o+1))
   else none
  else
   some (.inr (.inl (a,b,c,(d,f,h,i,j,()),())))
def g11_L0 (m:Nat):Nat→Int→Int→(List (Int×Int×Int))→Int→Int→List Int→List Int→List Int→(List (Int×Int×Int))→Int→Int→Option (((Int×Int×List Int×List Int×List Int×Unit)×Int×Unit)⊕(Int×Int×(List (Int×Int×Int))×(Int×Int×List Int×List Int×List Int×Unit)×Unit)⊕Empty)
 |0,_,_,_,_,_,_,_,_,_,_,_=>none
 |n+1,a,b,c,d,f,h,i,j,k,l,o=>
  bif decide (o<l)then
   if(0:Int)≤o∧o<(k.length:Int)then
   (g57 m (k.getD o.toNat (0,(0,0))).1 0 (w_i64 (a-1))).bind fun y1=>
   bif !y1.1 then
    some (.inl ((0,0,([]:List Int),([]:List Int),([]:List Int),()),3,()))
   else
    (g57 m (k.getD o.toNat (0,(0,0))).2.1 0 (w_i64 (b-1))).bind fun y2=>
    bif !y2.1 then
     some (.inl ((0,0,([]:List Int),([]:List Int),([]:List Int),()),3,()))
    else
     g11_L0 m n a b c d f h i j k l (w_i64 (o+1))
   else none
  else
   some (.inr (.inl (a,b,c,(d,f,h,i,j,()),())))
def g11 (m:Nat) (a:Int) (b:Int) (c:List (Int×Int×Int)):Option (((Int×Int×List Int×List Int×List Int×Unit)×Int×Unit)×Unit×Unit×Unit×Unit):=
 (g57 m a 0 200).bind fun y1=>
 bif !y1.1 then
  some (((0,0,([]:List Int),([]:List Int),([]:List Int),()),6,()),((),(),(),()))
 else
  (g57 m b 0 200).bind fun y2=>
  bif !y2.1 then
   some (((0,0,([]:List Int),([]:List Int),([]:List Int),()),6,()),((),(),(),()))
  else
   bif decide ((c.length:Int)>10000)then
    some (((0,0,([]:List Int),([]:List Int),([]:List Int),()),6,()),((),(),(),()))
   else
    (g11_L0 m m a b c 0 0 ([]:List Int) ([]:List Int) ([]:List Int) c (c.length:Int) 0).bind fun y3=>
    match y3 with
    | .inl z4=>
     some (((z4.1.1,z4.1.2.1,z4.1.2.2.1,z4.1.2.2.2.1,z4.1.2.2.2.2.1,()),z4.2.1,()),((),(),(),()))
    | .inr (.inl z5)=>
     (g11_L1 m m z5.1 z5.2.1 z5.2.2.1 z5.2.2.2.1.1 z5.2.2.2.1.2.1 z5.2.2.2.1.2.2.1 z5.2.2.2.1.2.2.2.1 z5.2.2.2.1.2.2.2.2.1 z5.2.2.1 (z5.2.2.1.length:Int) 0).bind fun y6=>
     match y6 with
     | .inl z7=>
      some (((z7.1.1,z7.1.2.1,z7.1.2.2.1,z7.1.2.2.2.1,z7.1.2.2.2.2.1,()),z7.2.1,()),((),(),(),()))
     | .inr (.inl z8)=>
      (g59 m z8.2.2.1).bind fun y9=>
      (g11_L2 m m z8.1 z8.2.1 y9.1 z8.2.2.2.1.1 z8.2.2.2.1.2.1 z8.2.2.2.1.2.2.1 z8.2.2.2.1.2.2.2.1 z8.2.2.2.1.2.2.2.2.1 ([]:List (Int×Int×Int))).bind fun y10=>
      match y10 with
      | .inl z11=>
       some (((z11.1.1,z11.1.2.1,z11.1.2.2.1,z11.1.2.2.2.1,z11.1.2.2.2.2.1,()),z11.2.1,()),((),(),(),()))
      | .inr (.inl z12)=>
       (g62 m z12.1 z12.2.1 z12.2.2.2.1).bind fun y13=>
       some (((y13.1.1,y13.1.2.1,y13.1.2.2.1,y13.1.2.2.2.1,y13.1.2.2.2.2.1,()),0,()),((),(),(),()))
      | .inr (.inr e)=>
       e.elim
     | .inr (.inr e)=>
      e.elim
    | .inr (.inr e)=>
     e.elim
def g186 (m:Nat) (a:Int) (b:Int):Option (Bool×Unit×Unit×Unit):=
 (g168 m a).bind fun y1=>
 bif y1.1 then
  (g168 m b).bind fun y2=>
  bif !y2.1 then
   some (true,((),(),()))
  else
   some (decide (a<b),((),(),()))
 else
  some (decide (a<b),((),(),()))
def g157_L0 (m:Nat):Nat→List Int→Int→Option ((Bool×Unit)⊕Unit⊕Empty)
 |0,_,_=>none
 |n+1,a,b=>
  bif decide (b>0)then
   if(0:Int)≤b∧b<(a.length:Int)then
   if(0:Int)≤(w_i64 (b-1))∧(w_i64 (b-1))<(a.length:Int)then
   (g186 m (a.getD b.toNat 0) (a.getD (w_i64 (b-1)).toNat 0)).bind fun y1=>
   bif y1.1 then
    some (.inl (false,()))
   else
    g157_L0 m n a (w_i64 (b-1))
   else none
   else none
  else
   some (.inr (.inl ()))
def g157 (m:Nat) (a:List Int):Option (Bool×Unit×Unit):=
 (g157_L0 m m a (w_i64 ((a.length:Int)-1))).bind fun y1=>
 match y1 with
 | .inl z2=>
  some (z2.1,((),()))
 | .inr (.inl z3)=>
  some (true,((),()))
 | .inr (.inr e)=>
  e.elim
def g102_L1 (m:Nat):Nat→Int→Int→List Int→List Int→List Int→Int→Int→Int→List Int→Int→Int→Option ((Bool×Unit)⊕((Int×Int×List Int×List Int×List Int×Unit)×Int×Int×Unit)⊕Empty)
 |0,_,_,_,_,_,_,_,_,_,_,_=>none
 |n+1,a,b,c,d,f,h,i,j,k,l,o=>
  bif decide (o<l)then
   if(0:Int)≤o∧o<(k.length:Int)then
   bif decide ((k.getD o.toNat 0)≤h)then
    some (.inl (false,()))
   else
    bif decide ((k.getD o.toNat 0)≥a)then
     some (.inl (false,()))
    else
     g102_L1 m n a b c d f (k.getD o.toNat 0) i j k l (w_i64 (o+1))
   else none
  else
   some (.inr (.inl ((a,b,c,d,f,()),i,j,())))
def g102_L0 (m:Nat):Nat→Int→Int→List Int→List Int→List Int→Int→Int→Option ((Bool×Unit)⊕Unit⊕Empty)
 |0,_,_,_,_,_,_,_=>none
 |n+1,a,b,c,d,f,h,i=>
  bif decide (i<h)then
   if(0:Int)≤i∧i<(c.length:Int)then
   if(0:Int)≤(w_i64 (i+1))∧(w_i64 (i+1))<(c.length:Int)then
   if(0:Int)≤(c.getD i.toNat 0)∧(c.getD i.toNat 0)≤(c.getD (w_i64 (i+1)).toNat 0)∧(c.getD (w_i64 (i+1)).toNat 0)≤(d.length:Int)then
   (g102_L1 m m a b c d f (-1) h i ((d.drop (c.getD i.toNat 0).toNat).take ((c.getD (w_i64 (i+1)).toNat 0).toNat-(c.getD i.toNat 0).toNat)) (((d.drop (c.getD i.toNat 0).toNat).take ((c.getD (w_i64 (i+1)).toNat 0).toNat-(c.getD i.toNat 0).toNat)).length:Int) 0).bind fun y1=>
   match y1 with
   | .inl z2=>
    some (.inl (z2.1,()))
   | .inr (.inl z3)=>
    g102_L0 m n z3.1.1 z3.1.2.1 z3.1.2.2.1 z3.1.2.2.2.1 z3.1.2.2.2.2.1 z3.2.1 (w_i64 (z3.2.2.1+1))
   | .inr (.inr e)=>
    e.elim
   else none
   else none
   else none
  else
   some (.inr (.inl ()))
def g102 (m:Nat) (a:Int) (b:Int) (c:List Int) (d:List Int) (f:List Int):Option (Bool×Unit×Unit):=
 bif (c.length:Int) !=(w_i64 (b+1))then
  some (false,((),()))
 else
  if(0:Int)≤0∧0<(c.length:Int)then
  bif (c.getD 0 0) !=0 then
   some (false,((),()))
  else
   (g157 m c).bind fun y1=>
   bif !y1.1 then
    some (false,((),()))
   else
    if(0:Int)≤b∧b<(c.length:Int)then
    bif (c.getD b.toNat 0) !=(d.length:Int)then
     some (false,((),()))
    else
     bif (d.length:Int) !=(f.length:Int)then
      some (false,((),()))
     else
      (g102_L0 m m a b c d f b 0).bind fun y2=>
      match y2 with
      | .inl z3=>
       some (z3.1,((),()))
      | .inr (.inl z4)=>
       some (true,((),()))
      | .inr (.inr e)=>
       e.elim
    else none
  else none
def g104 (m:Nat) (a:Int):Option (Bool×Unit×Unit):=
 (g58 m a).bind fun y1=>
 some (!y1.1,((),()))
def g158_L0 (m:Nat):Nat→List Int→Int→Int→Option ((Int×Unit)⊕Unit⊕Empty)
 |0,_,_,_=>none
 |n+1,a,b,c=>
  bif decide (c<b)then
   if(0:Int)≤c∧c<(a.length:Int)then
   (g104 m (a.getD c.toNat 0)).bind fun y1=>
   bif y1.1 then
    some (.inl (c,()))
   else
    g158_L0 m n a b (w_i64 (c+1))
   else none
  else
   some (.inr (.inl ()))
def g158 (m:Nat) (a:List Int):Option (Int×Unit×Unit×Unit):=
 (g158_L0 m m a (a.length:Int) 0).bind fun y1=>
 match y1 with
 | .inl z2=>
  some (z2.1,((),(),()))
 | .inr (.inl z3)=>
  some ((-1),((),(),()))
 | .inr (.inr e)=>
  e.elim
def g103 (m:Nat) (a:List Int):Option (Bool×Unit×Unit×Unit):=
 (g158 m a).bind fun y1=>
 some (decide (y1.1≥0),((),(),()))
def g44 (m:Nat) (a:Int) (b:Int) (c:List Int) (d:List Int) (f:List Int):Option (Int×Unit×Unit):=
 (g57 m a 0 200).bind fun y1=>
 bif !y1.1 then
  some (6,((),()))
 else
  (g57 m b 0 200).bind fun y2=>
  bif !y2.1 then
   some (6,((),()))
  else
   bif decide ((d.length:Int)>10000)then
    some (6,((),()))
   else
    (g102 m a b c d f).bind fun y3=>
    bif !y3.1 then
     some (1,((),()))
    else
     (g103 m f).bind fun y4=>
     bif y4.1 then
      some (4,((),()))
     else
      some (0,((),()))
def g73_L1 (m:Nat):Nat→Int→Int→List Int→List Int→List Int→(List (Int×Int×Int))→Int→Int→Int→Int→Option (((Int×Int×List Int×List Int×List Int×Unit)×(List (Int×Int×Int))×Int×Int×Unit)⊕Empty)
 |0,_,_,_,_,_,_,_,_,_,_=>none
 |n+1,a,b,c,d,f,h,i,j,k,l=>
  if(0:Int)≤(w_i64 (i+1))∧(w_i64 (i+1))<(c.length:Int)then
  bif decide (j<(c.getD (w_i64 (i+1)).toNat 0))then
   if(0:Int)≤j∧j<(d.length:Int)then
   if(0:Int)≤j∧j<(f.length:Int)then
   if h.length+([(d.getD j.toNat 0,(i,f.getD j.toNat 0))]:List (Int×Int×Int)).length≤1073741824 then
   g73_L1 m n a b c d f (h++([(d.getD j.toNat 0,(i,f.getD j.toNat 0))]:List (Int×Int×Int))) i (w_i64 (j+1)) k l
   else none
   else none
   else none
  else
   some (.inl ((a,b,c,d,f,()),h,k,l,()))
  else none
def g73_L0 (m:Nat):Nat→Int→Int→List Int→List Int→List Int→(List (Int×Int×Int))→Int→Int→Option (((List (Int×Int×Int))×Unit)⊕Empty)
 |0,_,_,_,_,_,_,_,_=>none
 |n+1,a,b,c,d,f,h,i,j=>
  bif decide (j<i)then
   if(0:Int)≤j∧j<(c.length:Int)then
   (g73_L1 m m a b c d f h j (c.getD j.toNat 0) i j).bind fun y1=>
   match y1 with
   | .inl z2=>
    g73_L0 m n z2.1.1 z2.1.2.1 z2.1.2.2.1 z2.1.2.2.2.1 z2.1.2.2.2.2.1 z2.2.1 z2.2.2.1 (w_i64 (z2.2.2.2.1+1))
   | .inr e=>
    e.elim
   else none
  else
   some (.inl (h,()))
def g73 (m:Nat) (a:Int) (b:Int) (c:List Int) (d:List Int) (f:List Int):Option ((List (Int×Int×Int))×Unit×Unit):=
 (g73_L0 m m a b c d f ([]:List (Int×Int×Int)) b 0).bind fun y1=>
 match y1 with
 | .inl z2=>
  some (z2.1,((),()))
 | .inr e=>
  e.elim
def g67 (m:Nat) (a:Int) (b:Int) (c:Int):Option ((Int×Int×Unit)×Unit×Unit):=
 some ((a,b,()),((),()))
def g180 (m:Nat) (a:Bool) (b:Bool) (c:List Int) (d:Int) (f:Bool) (h:Bool) (i:List Int) (j:Int):Option (((Bool×Bool×List Int×Int×Unit)×(Bool×Bool×List Int×Int×Unit)×Bool×Unit)×Unit×Unit×Unit):=
 (g80 m a b c d).bind fun y1=>
 (g80 m f h i j).bind fun y2=>
 bif y1.1.2.1 then
  some (((y1.1.1.1,y1.1.1.2.1,y1.1.1.2.2.1,y1.1.1.2.2.2.1,()),(y2.1.1.1,y2.1.1.2.1,y2.1.1.2.2.1,y2.1.1.2.2.2.1,()),y2.1.2.1,()),((),(),()))
 else
  some (((y1.1.1.1,y1.1.1.2.1,y1.1.1.2.2.1,y1.1.1.2.2.2.1,()),(y2.1.1.1,y2.1.1.2.1,y2.1.1.2.2.1,y2.1.1.2.2.2.1,()),false,()),((),(),()))
def g198_L1 (m:Nat):Nat→List Int→List Int→Int→Int→Int→List Int→Int→Int→List Int→Int→Int→Option ((List Int×List Int×Int×Int×List Int×Int×Int×Unit)⊕Empty)
 |0,_,_,_,_,_,_,_,_,_,_,_=>none
 |n+1,a,b,c,d,f,h,i,j,k,l,o=>
  bif decide (o<l)then
   if(0:Int)≤o∧o<(k.length:Int)then
   if(0:Int)≤(w_i64 (c+o))∧(w_i64 (c+o))<(b.length:Int)then
   if(0:Int)≤(w_i64 (c+o))∧(w_i64 (c+o))<(b.length:Int)then
   g198_L1 m n a (b.set (0+(w_i64 (c+o)).toNat) (w_u32 (qx .u64 (w_u64 ((w_u64 ((w_u64 ((w_u64 d)*(w_u64 (k.getD o.toNat 0))))+(w_u64 (b.getD (0+(w_i64 (c+o)).toNat) 0))))+f)) 4294967295))) c d (shr_ .u64 (w_u64 ((w_u64 ((w_u64 ((w_u64 d)*(w_u64 (k.getD o.toNat 0))))+(w_u64 (b.getD (0+(w_i64 (c+o)).toNat) 0))))+f)) 32) h i j k l (w_i64 (o+1))
   else none
   else none
   else none
  else
   some (.inl (a,b,c,f,h,i,j,()))
def g198_L0 (m:Nat):Nat→List Int→List Int→List Int→Int→Int→Option ((List Int×Unit)⊕Empty)
 |0,_,_,_,_,_=>none
 |n+1,a,b,c,d,f=>
  bif decide (f<d)then
   if(0:Int)≤f∧f<(c.length:Int)then
   (g198_L1 m m a b f (c.getD f.toNat 0) 0 c d f a (a.length:Int) 0).bind fun y1=>
   match y1 with
   | .inl z2=>
    if(0:Int)≤(w_i64 (z2.2.2.1+(z2.1.length:Int)))∧(w_i64 (z2.2.2.1+(z2.1.length:Int)))<(z2.2.1.length:Int)then
    g198_L0 m n z2.1 (z2.2.1.set (0+(w_i64 (z2.2.2.1+(z2.1.length:Int))).toNat) (w_u32 z2.2.2.2.1)) z2.2.2.2.2.1 z2.2.2.2.2.2.1 (w_i64 (z2.2.2.2.2.2.2.1+1))
    else none
   | .inr e=>
    e.elim
   else none
  else
   some (.inl (b,()))
def g198 (m:Nat) (a:List Int) (b:List Int):Option (List Int×Unit×Unit×Unit):=
 bif (a.length:Int)==0 then
  some (([]:List Int),((),(),()))
 else
  bif (b.length:Int)==0 then
   some (([]:List Int),((),(),()))
  else
   if(0:Int)≤(w_i64 ((a.length:Int)+(b.length:Int)))∧(w_i64 ((a.length:Int)+(b.length:Int)))≤(w_i64 ((a.length:Int)+(b.length:Int)))∧(w_i64 ((a.length:Int)+(b.length:Int)))≤1073741824 then
   (g198_L0 m m b (List.replicate (w_i64 ((a.length:Int)+(b.length:Int))).toNat (0:Int)) a (a.length:Int) 0).bind fun y1=>
   match y1 with
   | .inl z2=>
    (g86 m z2.1).bind fun y3=>
    some (y3.1,((),(),()))
   | .inr e=>
    e.elim
   else none
def g181 (m:Nat) (a:Bool) (b:List Int) (c:Bool) (d:List Int):Option ((Bool×List Int×Unit)×Unit×Unit×Unit):=
 (g86 m b).bind fun y1=>
 (g86 m d).bind fun y2=>
 (g198 m y1.1 y2.1).bind fun y3=>
 (g134 m (!(a==c)) y3.1).bind fun y4=>
 some ((y4.1.1,y4.1.2.1,()),((),(),()))
def g132 (m:Nat) (a:Bool) (b:Bool) (c:List Int) (d:Int) (f:Bool) (h:Bool) (i:List Int) (j:Int):Option ((Bool×Bool×List Int×Int×Unit)×Unit×Unit×Unit):=
 (g180 m a b c d f h i j).bind fun y1=>
 bif !y1.1.2.2.1 then
  (g125 m).bind fun y2=>
  some ((y2.1.1,y2.1.2.1,y2.1.2.2.1,y2.1.2.2.2.1,()),((),(),()))
 else
  (g181 m y1.1.1.2.1 y1.1.1.2.2.1 y1.1.2.1.2.1 y1.1.2.1.2.2.1).bind fun y3=>
  (g28 m y3.1.1 y3.1.2.1 (w_i64 (y1.1.1.2.2.2.1+y1.1.2.1.2.2.2.1))).bind fun y4=>
  some ((y4.1.1,y4.1.2.1,y4.1.2.2.1,y4.1.2.2.2.1,()),((),(),()))
def g66_L2 (m:Nat):Nat→List Int→(List (List (Bool×(Bool×List Int)×Int)))→Int→Int→Option ((List Int×Int×Unit)⊕(List Int×Unit)⊕Empty)
 |0,_,_,_,_=>none
 |n+1,a,b,c,d=>
  bif decide (d<c)then
   if(0:Int)≤d∧d<(b.length:Int)then
   (g61 m (b.getD d.toNat ([]:List (Bool×(Bool×List Int)×Int)))).bind fun y1=>
   (g60 m y1.1.1 y1.1.2.1 y1.1.2.2.1 y1.1.2.2.2.1 0).bind fun y2=>
   (g58 m y2.1).bind fun y3=>
   bif !y3.1 then
    some (.inl (([]:List Int),3,()))
   else
    if a.length+([y2.1]:List Int).length≤1073741824 then
    g66_L2 m n (a++([y2.1]:List Int)) b c (w_i64 (d+1))
    else none
   else none
  else
   some (.inr (.inl (a,())))
def g66_L1 (m:Nat):Nat→(List (Bool×(Bool×List Int)×Int))→(List (List (Bool×(Bool×List Int)×Int)))→(List (Int×Int×Int))→Int→Int→Option (((List (List (Bool×(Bool×List Int)×Int)))×Unit)⊕Empty)
 |0,_,_,_,_,_=>none
 |n+1,a,b,c,d,f=>
  bif decide (f<d)then
   if(0:Int)≤f∧f<(c.length:Int)then
   (g67 m (c.getD (0+f.toNat) (0,(0,0))).1 (c.getD (0+f.toNat) (0,(0,0))).2.1 (c.getD (0+f.toNat) (0,(0,0))).2.2).bind fun y1=>
   if(0:Int)≤y1.1.1∧y1.1.1<(b.length:Int)then
   (g29 m (c.getD (0+f.toNat) (0,(0,0))).2.2).bind fun y2=>
   if(0:Int)≤y1.1.2.1∧y1.1.2.1<(a.length:Int)then
   (g132 m y2.1.1 y2.1.2.1 y2.1.2.2.1 y2.1.2.2.2.1 (a.getD (0+y1.1.2.1.toNat) (false,((false,([]:List Int)),0))).1 (a.getD (0+y1.1.2.1.toNat) (false,((false,([]:List Int)),0))).2.1.1 (a.getD (0+y1.1.2.1.toNat) (false,((false,([]:List Int)),0))).2.1.2 (a.getD (0+y1.1.2.1.toNat) (false,((false,([]:List Int)),0))).2.2).bind fun y3=>
   if(b.getD y1.1.1.toNat ([]:List (Bool×(Bool×List Int)×Int))).length+([(y3.1.1,((y3.1.2.1,y3.1.2.2.1),y3.1.2.2.2.1))]:List (Bool×(Bool×List Int)×Int)).length≤1073741824 then
   if(0:Int)≤y1.1.1∧y1.1.1<(b.length:Int)then
   if y1.1.1.toNat=y1.1.1.toNat then
   g66_L1 m n a (b.set y1.1.1.toNat ((b.getD y1.1.1.toNat ([]:List (Bool×(Bool×List Int)×Int)))++([(y3.1.1,((y3.1.2.1,y3.1.2.2.1),y3.1.2.2.2.1))]:List (Bool×(Bool×List Int)×Int)))) c d (w_i64 (f+1))
   else none
   else none
   else none
   else none
   else none
   else none
  else
   some (.inl (b,()))
def g66_L0 (m:Nat):Nat→Int→Int→Int→List Int→List Int→List Int→(List (Bool×(Bool×List Int)×Int))→List Int→Int→Int→Option ((List Int×Int×Unit)⊕(Int×Unit×(Int×Int×List Int×List Int×List Int×Unit)×(List (Bool×(Bool×List Int)×Int))×Unit)⊕Empty)
 |0,_,_,_,_,_,_,_,_,_,_=>none
 |n+1,a,b,c,d,f,h,i,j,k,l=>
  bif decide (l<k)then
   if(0:Int)≤l∧l<(j.length:Int)then
   (g58 m (j.getD l.toNat 0)).bind fun y1=>
   bif !y1.1 then
    some (.inl (([]:List Int),4,()))
   else
    (g29 m (j.getD l.toNat 0)).bind fun y2=>
    if i.length+([(y2.1.1,((y2.1.2.1,y2.1.2.2.1),y2.1.2.2.2.1))]:List (Bool×(Bool×List Int)×Int)).length≤1073741824 then
    g66_L0 m n a b c d f h (i++([(y2.1.1,((y2.1.2.1,y2.1.2.2.1),y2.1.2.2.2.1))]:List (Bool×(Bool×List Int)×Int))) j k (w_i64 (l+1))
    else none
   else none
  else
   some (.inr (.inl (a,(),(b,c,d,f,h,()),i,())))
def g66 (m:Nat) (a:Int) (b:Int) (c:List Int) (d:List Int) (f:List Int) (h:List Int) (i:Int) (j:Int):Option ((List Int×Int×Unit)×Unit×Unit×Unit×Unit×Unit×Unit):=
 (g44 m a b c d f).bind fun y1=>
 bif y1.1 !=0 then
  some ((([]:List Int),y1.1,()),((),(),(),(),(),()))
 else
  bif (h.length:Int) !=j then
   some ((([]:List Int),2,()),((),(),(),(),(),()))
  else
   (g66_L0 m m i a b c d f ([]:List (Bool×(Bool×List Int)×Int)) h (h.length:Int) 0).bind fun y2=>
   match y2 with
   | .inl z3=>
    some ((z3.1,z3.2.1,()),((),(),(),(),(),()))
   | .inr (.inl z4)=>
    if(0:Int)≤z4.1∧z4.1≤z4.1∧z4.1≤1073741824 then
    (g73 m z4.2.2.1.1 z4.2.2.1.2.1 z4.2.2.1.2.2.1 z4.2.2.1.2.2.2.1 z4.2.2.1.2.2.2.2.1).bind fun y5=>
    (g66_L1 m m z4.2.2.2.1 (List.replicate z4.1.toNat ([]:List (Bool×(Bool×List Int)×Int))) y5.1 (y5.1.length:Int) 0).bind fun y6=>
    match y6 with
    | .inl z7=>
     (g66_L2 m m ([]:List Int) z7.1 (z7.1.length:Int) 0).bind fun y8=>
     match y8 with
     | .inl z9=>
      some ((z9.1,z9.2.1,()),((),(),(),(),(),()))
     | .inr (.inl z10)=>
      some ((z10.1,0,()),((),(),(),(),(),()))
     | .inr (.inr e)=>
      e.elim
    | .inr e=>
     e.elim
    else none
   | .inr (.inr e)=>
    e.elim
def g15 (m:Nat) (a:Int) (b:Int) (c:List Int) (d:List Int) (f:List Int) (h:List Int):Option ((List Int×Int×Unit)×Unit×Unit×Unit):=
 (g66 m a b c d f h a b).bind fun y1=>
 some ((y1.1.1,y1.1.2.1,()),((),(),()))
def g56_L0 (m:Nat):Nat→List Int→List Int→Int→Option ((Bool×Unit)⊕Unit⊕Empty)
 |0,_,_,_=>none
 |n+1,a,b,c=>
  bif decide (c<(a.length:Int))then
   if(0:Int)≤c∧c<(a.length:Int)then
   if(0:Int)≤c∧c<(b.length:Int)then
   bif (a.getD c.toNat 0) !=(b.getD c.toNat 0)then
    some (.inl (false,()))
   else
    g56_L0 m n a b (w_i64 (c+1))
   else none
   else none
  else
   some (.inr (.inl ()))
def g56 (m:Nat) (a:List Int) (b:List Int):Option (Bool×Unit×Unit×Unit):=
 bif (a.length:Int) !=(b.length:Int)then
  some (false,((),(),()))
 else
  (g56_L0 m m a b 0).bind fun y1=>
  match y1 with
  | .inl z2=>
   some (z2.1,((),(),()))
  | .inr (.inl z3)=>
   some (true,((),(),()))
  | .inr (.inr e)=>
   e.elim
def sparselaw09_awake (m:Nat):Option (Bool×Unit):=
 (g11 m 2 2 ([(1,(0,4607182418800017408)),(0,(1,4607182418800017408)),(1,(0,4607182418800017408))]:List (Int×Int×Int))).bind fun y1=>
 (g15 m y1.1.1.1 y1.1.1.2.1 y1.1.1.2.2.1 y1.1.1.2.2.2.1 y1.1.1.2.2.2.2.1 ([4607182418800017408,0]:List Int)).bind fun y2=>
 bif y1.1.2.1==0 then
  bif y2.1.2.1==0 then
   (g56 m y1.1.1.2.2.1 ([0,1,2]:List Int)).bind fun y3=>
   bif y3.1 then
    (g56 m y1.1.1.2.2.2.1 ([1,0]:List Int)).bind fun y4=>
    bif y4.1 then
     bif (y2.1.1.length:Int)==2 then
      if(0:Int)≤1∧1<(y2.1.1.length:Int)then
      bif (y2.1.1.getD (0+1) 0)==4611686018427387904 then
       (g44 m y1.1.1.1 y1.1.1.2.1 y1.1.1.2.2.1 y1.1.1.2.2.2.1 y1.1.1.2.2.2.2.1).bind fun y5=>
       some (y5.1==0,())
      else
       some (false,())
      else none
     else
      some (false,())
    else
     some (false,())
   else
    some (false,())
  else
   some (false,())
 else
  some (false,())
def g98_L0 (m:Nat):Nat→List Int→List Int→Int→Option ((List Int×Unit)⊕Empty)
 |0,_,_,_=>none
 |n+1,a,b,c=>
  bif decide (c<(a.length:Int))then
   if(0:Int)≤c∧c<(a.length:Int)then
   if b.length+([a.getD c.toNat 0]:List Int).length≤1073741824 then
   g98_L0 m n a (b++([a.getD c.toNat 0]:List Int)) (w_i64 (c+1))
   else none
   else none
  else
   some (.inl (b,()))
def g98 (m:Nat) (a:List Int):Option (List Int×Unit×Unit):=
 (g98_L0 m m a ([]:List Int) 0).bind fun y1=>
 match y1 with
 | .inl z2=>
  some (z2.1,((),()))
 | .inr e=>
  e.elim
def g99_L0 (m:Nat):Nat→List Int→List Int→Int→Option ((List Int×Unit)⊕Empty)
 |0,_,_,_=>none
 |n+1,a,b,c=>
  bif decide (c<(a.length:Int))then
   if(0:Int)≤c∧c<(a.length:Int)then
   if b.length+([a.getD c.toNat 0]:List Int).length≤1073741824 then
   g99_L0 m n a (b++([a.getD c.toNat 0]:List Int)) (w_i64 (c+1))
   else none
   else none
  else
   some (.inl (b,()))
def g99 (m:Nat) (a:List Int):Option (List Int×Unit×Unit):=
 (g99_L0 m m a ([]:List Int) 0).bind fun y1=>
 match y1 with
 | .inl z2=>
  some (z2.1,((),()))
 | .inr e=>
  e.elim
def g40 (m:Nat) (a:Int) (b:Int) (c:List Int) (d:List Int) (f:List Int):Option ((Int×Int×List Int×List Int×List Int×Unit)×Unit×Unit):=
 (g98 m c).bind fun y1=>
 (g98 m d).bind fun y2=>
 (g99 m f).bind fun y3=>
 some ((a,b,y1.1,y2.1,y3.1,()),((),()))
def g41_L1 (m:Nat):Nat→List (List Int)→(List (Int×Int×Int))→Int→Int→Option ((List (List Int)×Unit)⊕Empty)
 |0,_,_,_,_=>none
 |n+1,a,b,c,d=>
  bif decide (d<c)then
   if(0:Int)≤d∧d<(b.length:Int)then
   if(0:Int)≤(b.getD (0+d.toNat) (0,(0,0))).1∧(b.getD (0+d.toNat) (0,(0,0))).1<(a.length:Int)then
   if(0:Int)≤(b.getD (0+d.toNat) (0,(0,0))).2.1∧(b.getD (0+d.toNat) (0,(0,0))).2.1<((a.getD (b.getD (0+d.toNat) (0,(0,0))).1.toNat ([]:List Int)).length:Int)then
   g41_L1 m n (a.set (b.getD (0+d.toNat) (0,(0,0))).1.toNat ((a.getD (b.getD (0+d.toNat) (0,(0,0))).1.toNat ([]:List Int)).set (b.getD (0+d.toNat) (0,(0,0))).2.1.toNat (b.getD (0+d.toNat) (0,(0,0))).2.2)) b c (w_i64 (d+1))
   else none
   else none
   else none
  else
   some (.inl (a,()))
def g41_L0 (m:Nat):Nat→Int→Int→List Int→List Int→List Int→List (List Int)→Int→Int→Option (((Int×Int×List Int×List Int×List Int×Unit)×List (List Int)×Unit)⊕Empty)
 |0,_,_,_,_,_,_,_,_=>none
 |n+1,a,b,c,d,f,h,i,j=>
  bif decide (j<i)then
   if(0:Int)≤b∧b≤b∧b≤1073741824 then
   if(0:Int)≤j∧j<(h.length:Int)then
   g41_L0 m n a b c d f (h.set j.toNat (List.replicate b.toNat (0:Int))) i (w_i64 (j+1))
   else none
   else none
  else
   some (.inl ((a,b,c,d,f,()),h,()))
def g41 (m:Nat) (a:Int) (b:Int) (c:List Int) (d:List Int) (f:List Int):Option ((List (List Int)×Int×Unit)×Unit×Unit):=
 (g44 m a b c d f).bind fun y1=>
 bif y1.1 !=0 then
  some ((([]:List (List Int)),y1.1,()),((),()))
 else
  if(0:Int)≤a∧a≤a∧a≤1073741824 then
  (g41_L0 m m a b c d f (List.replicate a.toNat ([]:List Int)) ((List.replicate a.toNat ([]:List Int)).length:Int) 0).bind fun y2=>
  match y2 with
  | .inl z3=>
   (g73 m z3.1.1 z3.1.2.1 z3.1.2.2.1 z3.1.2.2.2.1 z3.1.2.2.2.2.1).bind fun y4=>
   (g41_L1 m m z3.2.1 y4.1 (y4.1.length:Int) 0).bind fun y5=>
   match y5 with
   | .inl z6=>
    some ((z6.1,0,()),((),()))
   | .inr e=>
    e.elim
  | .inr e=>
   e.elim
  else none
def g63 (m:Nat) (a:Int):Option (Bool×Unit×Unit):=
 some ((qx .u64 (shr_ .u64 a 52) 2047) !=2047,((),()))
def g68_L0 (m:Nat):Nat→List Int→Int→Option ((Bool×Unit)⊕Unit⊕Empty)
 |0,_,_=>none
 |n+1,a,b=>
  bif decide (b<(a.length:Int))then
   if(0:Int)≤b∧b<(a.length:Int)then
   (g63 m (a.getD b.toNat 0)).bind fun y1=>
   bif !y1.1 then
    some (.inl (false,()))
   else
    g68_L0 m n a (w_i64 (b+1))
   else none
  else
   some (.inr (.inl ()))
def g68 (m:Nat) (a:List Int):Option (Bool×Unit×Unit):=
 (g68_L0 m m a 0).bind fun y1=>
 match y1 with
 | .inl z2=>
  some (z2.1,((),()))
 | .inr (.inl z3)=>
  some (true,((),()))
 | .inr (.inr e)=>
  e.elim
def g45_L2 (m:Nat):Nat→Int→Int→List Int→List Int→List Int→Int→Int→Option ((Int×Unit)⊕((Int×Int×List Int×List Int×List Int×Unit)×Int×Unit)⊕Empty)
 |0,_,_,_,_,_,_,_=>none
 |n+1,a,b,c,d,f,h,i=>
  if(0:Int)≤(w_i64 (h+1))∧(w_i64 (h+1))<(c.length:Int)then
  bif decide (i<(c.getD (w_i64 (h+1)).toNat 0))then
   if(0:Int)≤i∧i<(d.length:Int)then
   bif decide ((d.getD i.toNat 0)<0)then
    some (.inl (1,()))
   else
    if(0:Int)≤i∧i<(d.length:Int)then
    bif decide ((d.getD i.toNat 0)≥a)then
     some (.inl (1,()))
    else
     if(0:Int)≤h∧h<(c.length:Int)then
     bif decide (i>(c.getD h.toNat 0))then
      if(0:Int)≤i∧i<(d.length:Int)then
      if(0:Int)≤(w_i64 (i-1))∧(w_i64 (i-1))<(d.length:Int)then
      bif decide ((d.getD i.toNat 0)≤(d.getD (w_i64 (i-1)).toNat 0))then
       some (.inl (1,()))
      else
       g45_L2 m n a b c d f h (w_i64 (i+1))
      else none
      else none
     else
      g45_L2 m n a b c d f h (w_i64 (i+1))
     else none
    else none
   else none
  else
   some (.inr (.inl ((a,b,c,d,f,()),h,())))
  else none
def g45_L1 (m:Nat):Nat→Int→Int→List Int→List Int→List Int→Int→Option ((Int×Unit)⊕((Int×Int×List Int×List Int×List Int×Unit)×Unit)⊕Empty)
 |0,_,_,_,_,_,_=>none
 |n+1,a,b,c,d,f,h=>
  bif decide (h<b)then
   if(0:Int)≤h∧h<(c.length:Int)then
   (g45_L2 m m a b c d f h (c.getD h.toNat 0)).bind fun y1=>
   match y1 with
   | .inl z2=>
    some (.inl (z2.1,()))
   | .inr (.inl z3)=>
    g45_L1 m n z3.1.1 z3.1.2.1 z3.1.2.2.1 z3.1.2.2.2.1 z3.1.2.2.2.2.1 (w_i64 (z3.2.1+1))
   | .inr (.inr e)=>
    e.elim
   else none
  else
   some (.inr (.inl ((a,b,c,d,f,()),())))
def g45_L0 (m:Nat):Nat→Int→Int→List Int→List Int→List Int→Int→Option ((Int×Unit)⊕((Int×Int×List Int×List Int×List Int×Unit)×Unit)⊕Empty)
 |0,_,_,_,_,_,_=>none
 |n+1,a,b,c,d,f,h=>
  bif decide (h<b)then
   if(0:Int)≤h∧h<(c.length:Int)then
   if(0:Int)≤(w_i64 (h+1))∧(w_i64 (h+1))<(c.length:Int)then
   bif decide ((c.getD h.toNat 0)>(c.getD (w_i64 (h+1)).toNat 0))then
    some (.inl (1,()))
   else
    g45_L0 m n a b c d f (w_i64 (h+1))
   else none
   else none
  else
   some (.inr (.inl ((a,b,c,d,f,()),())))
def g45 (m:Nat) (a:Int) (b:Int) (c:List Int) (d:List Int) (f:List Int):Option (Int×Unit×Unit):=
 bif decide (a<0)then
  some (6,((),()))
 else
  bif decide (a>200)then
   some (6,((),()))
  else
   bif decide (b<0)then
    some (6,((),()))
   else
    bif decide (b>200)then
     some (6,((),()))
    else
     bif decide ((d.length:Int)>10000)then
      some (6,((),()))
     else
      bif (f.length:Int) !=(d.length:Int)then
       some (1,((),()))
      else
       bif (c.length:Int) !=(w_i64 (b+1))then
        some (1,((),()))
       else
        if(0:Int)≤0∧0<(c.length:Int)then
        bif (c.getD 0 0) !=0 then
         some (1,((),()))
        else
         if(0:Int)≤b∧b<(c.length:Int)then
         bif (c.getD b.toNat 0) !=(d.length:Int)then
          some (1,((),()))
         else
          (g45_L0 m m a b c d f 0).bind fun y1=>
          match y1 with
          | .inl z2=>
           some (z2.1,((),()))
          | .inr (.inl z3)=>
           (g45_L1 m m z3.1.1 z3.1.2.1 z3.1.2.2.1 z3.1.2.2.2.1 z3.1.2.2.2.2.1 0).bind fun y4=>
           match y4 with
           | .inl z5=>
            some (z5.1,((),()))
           | .inr (.inl z6)=>
            (g68 m z6.1.2.2.2.2.1).bind fun y7=>
            bif !y7.1 then
             some (4,((),()))
            else
             some (0,((),()))
           | .inr (.inr e)=>
            e.elim
          | .inr (.inr e)=>
           e.elim
         else none
        else none
def g48_L1 (m:Nat):Nat→Int→Int→List Int→List Int→List Int→(List (Int×Int×Int))→Int→Int→Option (((Int×Int×List Int×List Int×List Int×Unit)×(List (Int×Int×Int))×Int×Unit)⊕Empty)
 |0,_,_,_,_,_,_,_,_=>none
 |n+1,a,b,c,d,f,h,i,j=>
  if(0:Int)≤(w_i64 (i+1))∧(w_i64 (i+1))<(c.length:Int)then
  bif decide (j<(c.getD (w_i64 (i+1)).toNat 0))then
   if(0:Int)≤j∧j<(d.length:Int)then
   if(0:Int)≤j∧j<(f.length:Int)then
   if h.length+([(d.getD j.toNat 0,(i,f.getD j.toNat 0))]:List (Int×Int×Int)).length≤1073741824 then
   g48_L1 m n a b c d f (h++([(d.getD j.toNat 0,(i,f.getD j.toNat 0))]:List (Int×Int×Int))) i (w_i64 (j+1))
   else none
   else none
   else none
  else
   some (.inl ((a,b,c,d,f,()),h,i,()))
  else none
def g48_L0 (m:Nat):Nat→Int→Int→List Int→List Int→List Int→(List (Int×Int×Int))→Int→Option (((List (Int×Int×Int))×Unit)⊕Empty)
 |0,_,_,_,_,_,_,_=>none
 |n+1,a,b,c,d,f,h,i=>
  bif decide (i<b)then
   if(0:Int)≤i∧i<(c.length:Int)then
   (g48_L1 m m a b c d f h i (c.getD i.toNat 0)).bind fun y1=>
   match y1 with
   | .inl z2=>
    g48_L0 m n z2.1.1 z2.1.2.1 z2.1.2.2.1 z2.1.2.2.2.1 z2.1.2.2.2.2.1 z2.2.1 (w_i64 (z2.2.2.1+1))
   | .inr e=>
    e.elim
   else none
  else
   some (.inl (h,()))
def g48 (m:Nat) (a:Int) (b:Int) (c:List Int) (d:List Int) (f:List Int):Option ((List (Int×Int×Int))×Unit×Unit):=
 (g45 m a b c d f).bind fun y1=>
 bif y1.1 !=0 then
  some (([]:List (Int×Int×Int)),((),()))
 else
  (g48_L0 m m a b c d f ([]:List (Int×Int×Int)) 0).bind fun y2=>
  match y2 with
  | .inl z3=>
   some (z3.1,((),()))
  | .inr e=>
   e.elim
def g42_L1 (m:Nat):Nat→List (List Int)→(List (Int×Int×Int))→Int→Option ((List (List Int)×Unit)⊕Empty)
 |0,_,_,_=>none
 |n+1,a,b,c=>
  bif decide (c<(b.length:Int))then
   if(0:Int)≤c∧c<(b.length:Int)then
   if(0:Int)≤(b.getD (0+c.toNat) (0,(0,0))).1∧(b.getD (0+c.toNat) (0,(0,0))).1<(a.length:Int)then
   if(0:Int)≤c∧c<(b.length:Int)then
   if(0:Int)≤c∧c<(b.length:Int)then
   if(0:Int)≤(b.getD (0+c.toNat) (0,(0,0))).2.1∧(b.getD (0+c.toNat) (0,(0,0))).2.1<((a.getD (b.getD (0+c.toNat) (0,(0,0))).1.toNat ([]:List Int)).length:Int)then
   g42_L1 m n (a.set (b.getD (0+c.toNat) (0,(0,0))).1.toNat ((a.getD (b.getD (0+c.toNat) (0,(0,0))).1.toNat ([]:List Int)).set (b.getD (0+c.toNat) (0,(0,0))).2.1.toNat (b.getD (0+c.toNat) (0,(0,0))).2.2)) b (w_i64 (c+1))
   else none
   else none
   else none
   else none
   else none
  else
   some (.inl (a,()))
def g42_L0 (m:Nat):Nat→Int→Int→List Int→List Int→List Int→List (List Int)→Int→Option (((Int×Int×List Int×List Int×List Int×Unit)×List (List Int)×Unit)⊕Empty)
 |0,_,_,_,_,_,_,_=>none
 |n+1,a,b,c,d,f,h,i=>
  bif decide (i<a)then
   if(0:Int)≤b∧b≤b∧b≤1073741824 then
   if 0<([List.replicate b.toNat (0:Int)]:List (List Int)).length∧h.length+([List.replicate b.toNat (0:Int)]:List (List Int)).length≤1073741824 then
   g42_L0 m n a b c d f (h++([List.replicate b.toNat (0:Int)]:List (List Int))) (w_i64 (i+1))
   else none
   else none
  else
   some (.inl ((a,b,c,d,f,()),h,()))
def g42 (m:Nat) (a:Int) (b:Int) (c:List Int) (d:List Int) (f:List Int):Option ((List (List Int)×Int×Unit)×Unit×Unit):=
 (g45 m a b c d f).bind fun y1=>
 bif y1.1 !=0 then
  some ((([]:List (List Int)),y1.1,()),((),()))
 else
  (g42_L0 m m a b c d f ([]:List (List Int)) 0).bind fun y2=>
  match y2 with
  | .inl z3=>
   (g48 m z3.1.1 z3.1.2.1 z3.1.2.2.1 z3.1.2.2.2.1 z3.1.2.2.2.2.1).bind fun y4=>
   (g42_L1 m m z3.2.1 y4.1 0).bind fun y5=>
   match y5 with
   | .inl z6=>
    some ((z6.1,0,()),((),()))
   | .inr e=>
    e.elim
  | .inr e=>
   e.elim
def g26_L2 (m:Nat):Nat→(List (List (Bool×List Int)))→Int→(List (Int×Int×Int))→Int→Int→Option (((List (List (Bool×List Int)))×Int×Unit)⊕Empty)
 |0,_,_,_,_,_=>none
 |n+1,a,b,c,d,f=>
  bif decide (f<d)then
   if(0:Int)≤f∧f<(c.length:Int)then
   (g29 m (c.getD (0+f.toNat) (0,(0,0))).2.2).bind fun y1=>
   (g77 m y1.1.1 y1.1.2.1 y1.1.2.2.1 y1.1.2.2.2.1).bind fun y2=>
   bif y2.1 !=0 then
    if(0:Int)≤(c.getD (0+f.toNat) (0,(0,0))).1∧(c.getD (0+f.toNat) (0,(0,0))).1<(a.length:Int)then
    (g78 m y1.1.2.1 y1.1.2.2.1 (w_i64 (y1.1.2.2.2.1-b))).bind fun y3=>
    if(0:Int)≤(c.getD (0+f.toNat) (0,(0,0))).2.1∧(c.getD (0+f.toNat) (0,(0,0))).2.1<((a.getD (c.getD (0+f.toNat) (0,(0,0))).1.toNat ([]:List (Bool×List Int))).length:Int)then
    g26_L2 m n (a.set (c.getD (0+f.toNat) (0,(0,0))).1.toNat ((a.getD (c.getD (0+f.toNat) (0,(0,0))).1.toNat ([]:List (Bool×List Int))).set (c.getD (0+f.toNat) (0,(0,0))).2.1.toNat (y3.1.1.1,y3.1.1.2.1))) b c d (w_i64 (f+1))
    else none
    else none
   else
    g26_L2 m n a b c d (w_i64 (f+1))
   else none
  else
   some (.inl (a,b,()))
def g26_L1 (m:Nat):Nat→Int→Int→List Int→List Int→List Int→(List (List (Bool×List Int)))→Int→Int→Int→Option (((Int×Int×List Int×List Int×List Int×Unit)×(List (List (Bool×List Int)))×Int×Unit)⊕Empty)
 |0,_,_,_,_,_,_,_,_,_=>none
 |n+1,a,b,c,d,f,h,i,j,k=>
  bif decide (k<j)then
   if(0:Int)≤b∧b≤b∧b≤1073741824 then
   if(0:Int)≤k∧k<(h.length:Int)then
   g26_L1 m n a b c d f (h.set k.toNat (List.replicate b.toNat (false,([]:List Int)))) i j (w_i64 (k+1))
   else none
   else none
  else
   some (.inl ((a,b,c,d,f,()),h,i,()))
def g26_L0 (m:Nat):Nat→Int→Int→List Int→List Int→List Int→Int→Bool→List Int→Int→Int→Option (((Int×Int×List Int×List Int×List Int×Unit)×Int×Unit)⊕Empty)
 |0,_,_,_,_,_,_,_,_,_,_=>none
 |n+1,a,b,c,d,f,h,i,j,k,l=>
  bif decide (l<k)then
   if(0:Int)≤l∧l<(j.length:Int)then
   (g29 m (j.getD l.toNat 0)).bind fun y1=>
   (g77 m y1.1.1 y1.1.2.1 y1.1.2.2.1 y1.1.2.2.2.1).bind fun y2=>
   bif y2.1 !=0 then
    bif i then
     g26_L0 m n a b c d f y1.1.2.2.2.1 false j k (w_i64 (l+1))
    else
     bif decide (y1.1.2.2.2.1<h)then
      g26_L0 m n a b c d f y1.1.2.2.2.1 false j k (w_i64 (l+1))
     else
      g26_L0 m n a b c d f h i j k (w_i64 (l+1))
   else
    g26_L0 m n a b c d f h i j k (w_i64 (l+1))
   else none
  else
   some (.inl ((a,b,c,d,f,()),h,()))
def g26 (m:Nat) (a:Int) (b:Int) (c:List Int) (d:List Int) (f:List Int):Option (((List (List (Bool×List Int)))×Int×Int×Unit)×Unit×Unit):=
 (g44 m a b c d f).bind fun y1=>
 bif y1.1 !=0 then
  some ((([]:List (List (Bool×List Int))),0,y1.1,()),((),()))
 else
  bif decide (a>16)then
   some ((([]:List (List (Bool×List Int))),0,6,()),((),()))
  else
   bif decide (b>16)then
    some ((([]:List (List (Bool×List Int))),0,6,()),((),()))
   else
    (g26_L0 m m a b c d f 0 true f (f.length:Int) 0).bind fun y2=>
    match y2 with
    | .inl z3=>
     if(0:Int)≤z3.1.1∧z3.1.1≤z3.1.1∧z3.1.1≤1073741824 then
     (g26_L1 m m z3.1.1 z3.1.2.1 z3.1.2.2.1 z3.1.2.2.2.1 z3.1.2.2.2.2.1 (List.replicate z3.1.1.toNat ([]:List (Bool×List Int))) z3.2.1 ((List.replicate z3.1.1.toNat ([]:List (Bool×List Int))).length:Int) 0).bind fun y4=>
     match y4 with
     | .inl z5=>
      (g73 m z5.1.1 z5.1.2.1 z5.1.2.2.1 z5.1.2.2.2.1 z5.1.2.2.2.2.1).bind fun y6=>
      (g26_L2 m m z5.2.1 z5.2.2.1 y6.1 (y6.1.length:Int) 0).bind fun y7=>
      match y7 with
      | .inl z8=>
       some ((z8.1,z8.2.1,0,()),((),()))
      | .inr e=>
       e.elim
     | .inr e=>
      e.elim
     else none
    | .inr e=>
     e.elim
def g93 (m:Nat):Option ((Bool×Bool×List Int×Int×Unit)×Unit):=
 some ((true,false,([]:List Int),0,()),())
def g95 (m:Nat) (a:Int):Option (Bool×Unit×Unit):=
 some ((qx .u64 a 9223372036854775808) !=0,((),()))
def g162_L1 (m:Nat):Nat→List Int→Int→List Int→Int→Option ((List Int×Unit)⊕Empty)
 |0,_,_,_,_=>none
 |n+1,a,b,c,d=>
  bif decide (d<b)then
   if(0:Int)≤d∧d<(a.length:Int)then
   if c.length+([a.getD d.toNat 0]:List Int).length≤1073741824 then
   g162_L1 m n a b (c++([a.getD d.toNat 0]:List Int)) (w_i64 (d+1))
   else none
   else none
  else
   some (.inl (c,()))
def g162_L0 (m:Nat):Nat→List Int→Int→Option ((List Int×Int×Unit)⊕Empty)
 |0,_,_=>none
 |n+1,a,b=>
  bif decide (b>0)then
   if(0:Int)≤(w_i64 (b-1))∧(w_i64 (b-1))<(a.length:Int)then
   bif (a.getD (w_i64 (b-1)).toNat 0)==0 then
    g162_L0 m n a (w_i64 (b-1))
   else
    some (.inl (a,b,()))
   else none
  else
   some (.inl (a,b,()))
def g162 (m:Nat) (a:List Int):Option (List Int×Unit×Unit):=
 (g162_L0 m m a (a.length:Int)).bind fun y1=>
 match y1 with
 | .inl z2=>
  (g162_L1 m m z2.1 z2.2.1 ([]:List Int) 0).bind fun y3=>
  match y3 with
  | .inl z4=>
   some (z4.1,((),()))
  | .inr e=>
   e.elim
 | .inr e=>
  e.elim
def g153 (m:Nat) (a:Bool) (b:List Int):Option ((Bool×List Int×Unit)×Unit×Unit×Unit):=
 (g162 m b).bind fun y1=>
 bif a then
  some ((decide ((y1.1.length:Int)>0),y1.1,()),((),(),()))
 else
  some ((false,y1.1,()),((),(),()))
def g147 (m:Nat) (a:Bool) (b:List Int):Option ((Bool×List Int×Unit)×Unit×Unit):=
 (g153 m a b).bind fun y1=>
 some ((y1.1.1,y1.1.2.1,()),((),()))
def g148_L0 (m:Nat):Nat→List Int→Int→Option ((Int×Unit)⊕Unit⊕Empty)
 |0,_,_=>none
 |n+1,a,b=>
  bif decide (b<(a.length:Int))then
   if(0:Int)≤b∧b<(a.length:Int)then
   bif (a.getD (0+b.toNat) 0) !=0 then
    if(0:Int)≤b∧b<(a.length:Int)then
    (g87 m (a.getD (0+b.toNat) 0)).bind fun y1=>
    some (.inl (w_i64 ((w_i64 (32*b))+y1.1),()))
    else none
   else
    g148_L0 m n a (w_i64 (b+1))
   else none
  else
   some (.inr (.inl ()))
def g148 (m:Nat) (a:Bool) (b:List Int):Option (Int×Unit×Unit):=
 (g162 m b).bind fun y1=>
 (g148_L0 m m y1.1 0).bind fun y2=>
 match y2 with
 | .inl z3=>
  some (z3.1,((),()))
 | .inr (.inl z4)=>
  some (0,((),()))
 | .inr (.inr e)=>
  e.elim
def g131 (m:Nat) (a:Bool) (b:List Int):Option ((Bool×List Int×Unit)×Unit×Unit):=
 (g153 m false b).bind fun y1=>
 some ((y1.1.1,y1.1.2.1,()),((),()))
def g154_L0 (m:Nat):Nat→List Int→Int→List Int→Int→Int→Option ((List Int×Int×Unit)⊕Empty)
 |0,_,_,_,_,_=>none
 |n+1,a,b,c,d,f=>
  bif decide (f<(a.length:Int))then
   if(0:Int)≤f∧f<(a.length:Int)then
   if(0:Int)≤(Int.tmod b 32)then
   if c.length+([w_u32 (b_or_ .u64 d (shl_ .u64 (w_u64 (a.getD f.toNat 0)) (Int.tmod b 32)))]:List Int).length≤1073741824 then
   g154_L0 m n a b (c++([w_u32 (b_or_ .u64 d (shl_ .u64 (w_u64 (a.getD f.toNat 0)) (Int.tmod b 32)))]:List Int)) (shr_ .u64 (b_or_ .u64 d (shl_ .u64 (w_u64 (a.getD f.toNat 0)) (Int.tmod b 32))) 32) (w_i64 (f+1))
   else none
   else none
   else none
  else
   some (.inl (c,d,()))
def g154 (m:Nat) (a:List Int) (b:Int):Option (List Int×Unit×Unit×Unit):=
 if(0:Int)≤(w_i64 (Int.tdiv b 32))∧(w_i64 (Int.tdiv b 32))≤(w_i64 (Int.tdiv b 32))∧(w_i64 (Int.tdiv b 32))≤1073741824 then
 (g154_L0 m m a b (List.replicate (w_i64 (Int.tdiv b 32)).toNat (0:Int)) 0 0).bind fun y1=>
 match y1 with
 | .inl z2=>
  if z2.1.length+([w_u32 z2.2.1]:List Int).length≤1073741824 then
  some (z2.1++([w_u32 z2.2.1]:List Int),((),(),()))
  else none
 | .inr e=>
  e.elim
 else none
def g155_L1 (m:Nat):Nat→List Int→Int→Bool→List Int→Int→Int→Option ((Bool×List Int×Unit)⊕Empty)
 |0,_,_,_,_,_,_=>none
 |n+1,a,b,c,d,f,h=>
  bif decide (h<(a.length:Int))then
   if(0:Int)≤h∧h<(a.length:Int)then
   bif decide ((w_i64 (h+1))<(a.length:Int))then
    if(0:Int)≤(w_i64 (h+1))∧(w_i64 (h+1))<(a.length:Int)then
    bif h==(w_i64 (Int.tdiv b 32))then
     if(0:Int)≤h∧h<(a.length:Int)then
     if(0:Int)≤f then
     bif (qx .u32 (a.getD h.toNat 0) (w_u32 ((shl_ .u32 1 f)-1))) !=0 then
      if(0:Int)≤f then
      if d.length+([w_u32 (shr_ .u64 (b_or_ .u64 (w_u64 (a.getD h.toNat 0)) (shl_ .u64 (w_u64 (a.getD (w_i64 (h+1)).toNat 0)) 32)) f)]:List Int).length≤1073741824 then
      g155_L1 m n a b true (d++([w_u32 (shr_ .u64 (b_or_ .u64 (w_u64 (a.getD h.toNat 0)) (shl_ .u64 (w_u64 (a.getD (w_i64 (h+1)).toNat 0)) 32)) f)]:List Int)) f (w_i64 (h+1))
      else none
      else none
     else
      if(0:Int)≤f then
      if d.length+([w_u32 (shr_ .u64 (b_or_ .u64 (w_u64 (a.getD h.toNat 0)) (shl_ .u64 (w_u64 (a.getD (w_i64 (h+1)).toNat 0)) 32)) f)]:List Int).length≤1073741824 then
      g155_L1 m n a b c (d++([w_u32 (shr_ .u64 (b_or_ .u64 (w_u64 (a.getD h.toNat 0)) (shl_ .u64 (w_u64 (a.getD (w_i64 (h+1)).toNat 0)) 32)) f)]:List Int)) f (w_i64 (h+1))
      else none
      else none
     else none
     else none
    else
     if(0:Int)≤f then
     if d.length+([w_u32 (shr_ .u64 (b_or_ .u64 (w_u64 (a.getD h.toNat 0)) (shl_ .u64 (w_u64 (a.getD (w_i64 (h+1)).toNat 0)) 32)) f)]:List Int).length≤1073741824 then
     g155_L1 m n a b c (d++([w_u32 (shr_ .u64 (b_or_ .u64 (w_u64 (a.getD h.toNat 0)) (shl_ .u64 (w_u64 (a.getD (w_i64 (h+1)).toNat 0)) 32)) f)]:List Int)) f (w_i64 (h+1))
     else none
     else none
    else none
   else
    bif h==(w_i64 (Int.tdiv b 32))then
     if(0:Int)≤h∧h<(a.length:Int)then
     if(0:Int)≤f then
     bif (qx .u32 (a.getD h.toNat 0) (w_u32 ((shl_ .u32 1 f)-1))) !=0 then
      if(0:Int)≤f then
      if d.length+([w_u32 (shr_ .u64 (w_u64 (a.getD h.toNat 0)) f)]:List Int).length≤1073741824 then
      g155_L1 m n a b true (d++([w_u32 (shr_ .u64 (w_u64 (a.getD h.toNat 0)) f)]:List Int)) f (w_i64 (h+1))
      else none
      else none
     else
      if(0:Int)≤f then
      if d.length+([w_u32 (shr_ .u64 (w_u64 (a.getD h.toNat 0)) f)]:List Int).length≤1073741824 then
      g155_L1 m n a b c (d++([w_u32 (shr_ .u64 (w_u64 (a.getD h.toNat 0)) f)]:List Int)) f (w_i64 (h+1))
      else none
      else none
     else none
     else none
    else
     if(0:Int)≤f then
     if d.length+([w_u32 (shr_ .u64 (w_u64 (a.getD h.toNat 0)) f)]:List Int).length≤1073741824 then
     g155_L1 m n a b c (d++([w_u32 (shr_ .u64 (w_u64 (a.getD h.toNat 0)) f)]:List Int)) f (w_i64 (h+1))
     else none
     else none
   else none
  else
   some (.inl (c,d,()))
def g155_L0 (m:Nat):Nat→List Int→Int→Bool→Int→Option ((List Int×Int×Bool×Unit)⊕Empty)
 |0,_,_,_,_=>none
 |n+1,a,b,c,d=>
  bif decide (d<(w_i64 (Int.tdiv b 32)))then
   bif decide (d<(a.length:Int))then
    bif c then
     g155_L0 m n a b true (w_i64 (d+1))
    else
     if(0:Int)≤d∧d<(a.length:Int)then
     g155_L0 m n a b ((a.getD d.toNat 0) !=0) (w_i64 (d+1))
     else none
   else
    some (.inl (a,b,c,()))
  else
   some (.inl (a,b,c,()))
def g155 (m:Nat) (a:List Int) (b:Int):Option ((List Int×Bool×Unit)×Unit×Unit×Unit):=
 (g155_L0 m m a b false 0).bind fun y1=>
 match y1 with
 | .inl z2=>
  (g155_L1 m m z2.1 z2.2.1 z2.2.2.1 ([]:List Int) (Int.tmod z2.2.1 32) (w_i64 (Int.tdiv z2.2.1 32))).bind fun y3=>
  match y3 with
  | .inl z4=>
   some ((z4.2.1,z4.1,()),((),(),()))
  | .inr e=>
   e.elim
 | .inr e=>
  e.elim
def g114 (m:Nat) (a:Int):Option ((Bool×List Int×Unit)×Unit×Unit):=
 bif decide (a<0)then
  (g153 m (decide (a<0)) ([w_u32 (w_u64 ((w_u64 (w_i64 (0-(w_i64 (a+1)))))+1)),w_u32 (shr_ .u64 (w_u64 ((w_u64 (w_i64 (0-(w_i64 (a+1)))))+1)) 32)]:List Int)).bind fun y1=>
  some ((y1.1.1,y1.1.2.1,()),((),()))
 else
  (g153 m (decide (a<0)) ([w_u32 (w_u64 a),w_u32 (shr_ .u64 (w_u64 a) 32)]:List Int)).bind fun y2=>
  some ((y2.1.1,y2.1.2.1,()),((),()))
def g152 (m:Nat) (a:Bool) (b:List Int):Option ((Bool×List Int×Unit)×Unit×Unit):=
 (g153 m (!a) b).bind fun y1=>
 some ((y1.1.1,y1.1.2.1,()),((),()))
def g163_L0 (m:Nat):Nat→List Int→List Int→List Int→Int→Int→Option ((List Int×Int×Unit)⊕Empty)
 |0,_,_,_,_,_=>none
 |n+1,a,b,c,d,f=>
  bif decide (f<(if(b.length:Int)>(a.length:Int)then(b.length:Int)else(a.length:Int)))then
   bif decide (f<(a.length:Int))then
    if(0:Int)≤f∧f<(a.length:Int)then
    bif decide (f<(b.length:Int))then
     if(0:Int)≤f∧f<(b.length:Int)then
     if c.length+([w_u32 (w_u64 ((w_u64 (d+(w_u64 (a.getD f.toNat 0))))+(w_u64 (b.getD f.toNat 0))))]:List Int).length≤1073741824 then
     g163_L0 m n a b (c++([w_u32 (w_u64 ((w_u64 (d+(w_u64 (a.getD f.toNat 0))))+(w_u64 (b.getD f.toNat 0))))]:List Int)) (shr_ .u64 (w_u64 ((w_u64 (d+(w_u64 (a.getD f.toNat 0))))+(w_u64 (b.getD f.toNat 0)))) 32) (w_i64 (f+1))
     else none
     else none
    else
     if c.length+([w_u32 (w_u64 (d+(w_u64 (a.getD f.toNat 0))))]:List Int).length≤1073741824 then
     g163_L0 m n a b (c++([w_u32 (w_u64 (d+(w_u64 (a.getD f.toNat 0))))]:List Int)) (shr_ .u64 (w_u64 (d+(w_u64 (a.getD f.toNat 0)))) 32) (w_i64 (f+1))
     else none
    else none
   else
    bif decide (f<(b.length:Int))then
     if(0:Int)≤f∧f<(b.length:Int)then
     if c.length+([w_u32 (w_u64 (d+(w_u64 (b.getD f.toNat 0))))]:List Int).length≤1073741824 then
     g163_L0 m n a b (c++([w_u32 (w_u64 (d+(w_u64 (b.getD f.toNat 0))))]:List Int)) (shr_ .u64 (w_u64 (d+(w_u64 (b.getD f.toNat 0)))) 32) (w_i64 (f+1))
     else none
     else none
    else
     if c.length+([w_u32 d]:List Int).length≤1073741824 then
     g163_L0 m n a b (c++([w_u32 d]:List Int)) (shr_ .u64 d 32) (w_i64 (f+1))
     else none
  else
   some (.inl (c,d,()))
def g163 (m:Nat) (a:List Int) (b:List Int):Option (List Int×Unit×Unit×Unit):=
 (g163_L0 m m a b ([]:List Int) 0 0).bind fun y1=>
 match y1 with
 | .inl z2=>
  if z2.1.length+([w_u32 z2.2.1]:List Int).length≤1073741824 then
  some (z2.1++([w_u32 z2.2.1]:List Int),((),(),()))
  else none
 | .inr e=>
  e.elim
def g164_L0 (m:Nat):Nat→List Int→List Int→Int→Option ((Int×Unit)⊕Unit⊕Empty)
 |0,_,_,_=>none
 |n+1,a,b,c=>
  bif decide (c≥0)then
   if(0:Int)≤c∧c<(a.length:Int)then
   if(0:Int)≤c∧c<(b.length:Int)then
   bif (a.getD c.toNat 0) !=(b.getD c.toNat 0)then
    if(0:Int)≤c∧c<(a.length:Int)then
    if(0:Int)≤c∧c<(b.length:Int)then
    bif decide ((a.getD c.toNat 0)<(b.getD c.toNat 0))then
     some (.inl ((-1),()))
    else
     some (.inl (1,()))
    else none
    else none
   else
    g164_L0 m n a b (w_i64 (c-1))
   else none
   else none
  else
   some (.inr (.inl ()))
def g164 (m:Nat) (a:List Int) (b:List Int):Option (Int×Unit×Unit×Unit):=
 bif (a.length:Int) !=(b.length:Int)then
  bif decide ((a.length:Int)<(b.length:Int))then
   some ((-1),((),(),()))
  else
   some (1,((),(),()))
 else
  (g164_L0 m m a b (w_i64 ((a.length:Int)-1))).bind fun y1=>
  match y1 with
  | .inl z2=>
   some (z2.1,((),(),()))
  | .inr (.inl z3)=>
   some (0,((),(),()))
  | .inr (.inr e)=>
   e.elim
def g165_L0 (m:Nat):Nat→List Int→List Int→List Int→Int→Int→Option ((List Int×Unit)⊕Empty)
 |0,_,_,_,_,_=>none
 |n+1,a,b,c,d,f=>
  bif decide (f<(a.length:Int))then
   if(0:Int)≤f∧f<(a.length:Int)then
   bif decide (f<(b.length:Int))then
    if(0:Int)≤f∧f<(b.length:Int)then
    if c.length+([w_u32 (w_u64 ((w_u64 ((w_u64 (a.getD f.toNat 0))-d))-(w_u64 (b.getD f.toNat 0))))]:List Int).length≤1073741824 then
    g165_L0 m n a b (c++([w_u32 (w_u64 ((w_u64 ((w_u64 (a.getD f.toNat 0))-d))-(w_u64 (b.getD f.toNat 0))))]:List Int)) (shr_ .u64 (w_u64 ((w_u64 ((w_u64 (a.getD f.toNat 0))-d))-(w_u64 (b.getD f.toNat 0)))) 63) (w_i64 (f+1))
    else none
    else none
   else
    if c.length+([w_u32 (w_u64 ((w_u64 (a.getD f.toNat 0))-d))]:List Int).length≤1073741824 then
    g165_L0 m n a b (c++([w_u32 (w_u64 ((w_u64 (a.getD f.toNat 0))-d))]:List Int)) (shr_ .u64 (w_u64 ((w_u64 (a.getD f.toNat 0))-d)) 63) (w_i64 (f+1))
    else none
   else none
  else
   some (.inl (c,()))
def g165 (m:Nat) (a:List Int) (b:List Int):Option (List Int×Unit×Unit×Unit):=
 (g165_L0 m m a b ([]:List Int) 0 0).bind fun y1=>
 match y1 with
 | .inl z2=>
  some (z2.1,((),(),()))
 | .inr e=>
  e.elim
def g113 (m:Nat) (a:Bool) (b:List Int) (c:Bool) (d:List Int):Option ((Bool×List Int×Unit)×Unit×Unit×Unit):=
 (g162 m b).bind fun y1=>
 (g162 m d).bind fun y2=>
 bif a==c then
  (g163 m y1.1 y2.1).bind fun y3=>
  (g153 m a y3.1).bind fun y4=>
  some ((y4.1.1,y4.1.2.1,()),((),(),()))
 else
  (g164 m y1.1 y2.1).bind fun y5=>
  bif decide (y5.1≥0)then
   (g165 m y1.1 y2.1).bind fun y6=>
   (g153 m a y6.1).bind fun y7=>
   some ((y7.1.1,y7.1.2.1,()),((),(),()))
  else
   (g165 m y2.1 y1.1).bind fun y8=>
   (g153 m c y8.1).bind fun y9=>
   some ((y9.1.1,y9.1.2.1,()),((),(),()))
def g156 (m:Nat) (a:Bool) (b:List Int) (c:Bool) (d:List Int):Option ((Bool×List Int×Unit)×Unit×Unit×Unit):=
 (g152 m c d).bind fun y1=>
 (g113 m a b y1.1.1 y1.1.2.1).bind fun y2=>
 some ((y2.1.1,y2.1.2.1,()),((),(),()))
def g101 (m:Nat) (a:Bool) (b:List Int) (c:Int):Option ((Bool×List Int×Unit)×Unit×Unit×Unit):=
 (g147 m a b).bind fun y1=>
 bif decide (c≥0)then
  (g154 m y1.1.2.1 c).bind fun y2=>
  (g153 m y1.1.1 y2.1).bind fun y3=>
  some ((y3.1.1,y3.1.2.1,()),((),(),()))
 else
  (g155 m y1.1.2.1 (w_i64 (0-c))).bind fun y4=>
  (g153 m y1.1.1 y4.1.1).bind fun y5=>
  bif y1.1.1 then
   bif y4.1.2.1 then
    (g114 m 1).bind fun y6=>
    (g156 m y5.1.1 y5.1.2.1 y6.1.1 y6.1.2.1).bind fun y7=>
    some ((y7.1.1,y7.1.2.1,()),((),(),()))
   else
    some ((y5.1.1,y5.1.2.1,()),((),(),()))
  else
   some ((y5.1.1,y5.1.2.1,()),((),(),()))
def g149_L0 (m:Nat):Nat→Int→Bool→List Int→Bool→List Int→Option ((Int×(Bool×List Int×Unit)×(Bool×List Int×Unit)×Unit)⊕Empty)
 |0,_,_,_,_,_=>none
 |n+1,a,b,c,d,f=>
  bif decide (a>1048576)then
   (g101 m b c (-1048576)).bind fun y1=>
   g149_L0 m n (w_i64 (a-1048576)) y1.1.1 y1.1.2.1 d f
  else
   some (.inl (a,(b,c,()),(d,f,()),()))
def g149 (m:Nat) (a:Bool) (b:List Int) (c:Int):Option ((Bool×List Int×Unit)×Unit×Unit×Unit):=
 (g149_L0 m m c a b false ([]:List Int)).bind fun y1=>
 match y1 with
 | .inl z2=>
  (g101 m z2.2.1.1 z2.2.1.2.1 (w_i64 (0-z2.1))).bind fun y3=>
  some ((y3.1.1,y3.1.2.1,()),((),(),()))
 | .inr e=>
  e.elim
def g150 (m:Nat) (a:Bool) (b:List Int):Option (Int×Unit×Unit):=
 (g162 m b).bind fun y1=>
 bif (y1.1.length:Int)==0 then
  some (0,((),()))
 else
  if(0:Int)≤(w_i64 ((y1.1.length:Int)-1))∧(w_i64 ((y1.1.length:Int)-1))<(y1.1.length:Int)then
  (g190 m (y1.1.getD (0+(w_i64 ((y1.1.length:Int)-1)).toNat) 0)).bind fun y2=>
  some (w_i64 ((w_i64 (32*(w_i64 ((y1.1.length:Int)-1))))+y2.1),((),()))
  else none
def g94 (m:Nat) (a:Bool) (b:List Int) (c:Int):Option ((Bool×Bool×List Int×Int×Unit)×Unit×Unit×Unit):=
 (g147 m a b).bind fun y1=>
 bif (y1.1.2.1.length:Int)==0 then
  some ((false,false,([]:List Int),0,()),((),(),()))
 else
  bif decide (c>65536)then
   (g93 m).bind fun y2=>
   some ((y2.1.1,y2.1.2.1,y2.1.2.2.1,y2.1.2.2.2.1,()),((),(),()))
  else
   (g148 m y1.1.1 y1.1.2.1).bind fun y3=>
   (g131 m y1.1.1 y1.1.2.1).bind fun y4=>
   (g149 m y4.1.1 y4.1.2.1 y3.1).bind fun y5=>
   bif decide ((w_i64 (c+y3.1))<(-65536))then
    (g93 m).bind fun y6=>
    some ((y6.1.1,y6.1.2.1,y6.1.2.2.1,y6.1.2.2.2.1,()),((),(),()))
   else
    (g150 m y5.1.1 y5.1.2.1).bind fun y7=>
    bif decide ((w_i64 ((w_i64 (c+y3.1))+y7.1))>65536)then
     (g93 m).bind fun y8=>
     some ((y8.1.1,y8.1.2.1,y8.1.2.2.1,y8.1.2.2.2.1,()),((),(),()))
    else
     some ((false,a,y5.1.2.1,w_i64 (c+y3.1),()),((),(),()))
def g37 (m:Nat) (a:Int):Option ((Bool×Bool×List Int×Int×Unit)×Unit×Unit):=
 (g63 m a).bind fun y1=>
 bif !y1.1 then
  (g93 m).bind fun y2=>
  some ((y2.1.1,y2.1.2.1,y2.1.2.2.1,y2.1.2.2.2.1,()),((),()))
 else
  bif decide ((w_i64 (qx .u64 (shr_ .u64 a 52) 2047))>0)then
   (g95 m a).bind fun y3=>
   (g94 m y3.1 ([w_u32 (b_or_ .u64 (qx .u64 a 4503599627370495) 4503599627370496),w_u32 (shr_ .u64 (b_or_ .u64 (qx .u64 a 4503599627370495) 4503599627370496) 32)]:List Int) (w_i64 ((w_i64 (qx .u64 (shr_ .u64 a 52) 2047))-1075))).bind fun y4=>
   some ((y4.1.1,y4.1.2.1,y4.1.2.2.1,y4.1.2.2.2.1,()),((),()))
  else
   (g95 m a).bind fun y5=>
   (g94 m y5.1 ([w_u32 (qx .u64 a 4503599627370495),w_u32 (shr_ .u64 (qx .u64 a 4503599627370495) 32)]:List Int) (-1074)).bind fun y6=>
   some ((y6.1.1,y6.1.2.1,y6.1.2.2.1,y6.1.2.2.2.1,()),((),()))
def g128 (m:Nat) (a:Bool) (b:Bool) (c:List Int) (d:Int):Option ((Bool×Bool×List Int×Int×Unit)×Unit×Unit):=
 bif a then
  (g93 m).bind fun y1=>
  some ((y1.1.1,y1.1.2.1,y1.1.2.2.1,y1.1.2.2.2.1,()),((),()))
 else
  (g94 m b c d).bind fun y2=>
  some ((y2.1.1,y2.1.2.1,y2.1.2.2.1,y2.1.2.2.2.1,()),((),()))
def g129 (m:Nat) (a:Bool) (b:List Int):Option (Int×Unit×Unit):=
 (g147 m a b).bind fun y1=>
 bif (y1.1.2.1.length:Int)==0 then
  some (0,((),()))
 else
  bif y1.1.1 then
   some ((-1),((),()))
  else
   some (1,((),()))
def g100 (m:Nat) (a:Bool) (b:Bool) (c:List Int) (d:Int):Option (Int×Unit×Unit):=
 (g128 m a b c d).bind fun y1=>
 bif y1.1.1 then
  some (0,((),()))
 else
  (g129 m y1.1.2.1 y1.1.2.2.1).bind fun y2=>
  some (y2.1,((),()))
def g43_L2 (m:Nat):Nat→Int→Int→List Int→List Int→List Int→Int→List (List Int)→(List (List (Bool×List Int)))→Int→(List (Bool×List Int))→Int→Option (((Int×Int×List Int×List Int×List Int×Unit)×Int×List (List Int)×(List (List (Bool×List Int)))×Int×(List (Bool×List Int))×Unit)⊕Empty)
 |0,_,_,_,_,_,_,_,_,_,_,_=>none
 |n+1,a,b,c,d,f,h,i,j,k,l,o=>
  bif decide (o<b)then
   if(0:Int)≤k∧k<(i.length:Int)then
   if(0:Int)≤o∧o<((i.getD k.toNat ([]:List Int)).length:Int)then
   (g37 m ((i.getD k.toNat ([]:List Int)).getD o.toNat 0)).bind fun y1=>
   (g100 m y1.1.1 y1.1.2.1 y1.1.2.2.1 y1.1.2.2.2.1).bind fun y2=>
   bif y2.1==0 then
    if l.length+([(false,([]:List Int))]:List (Bool×List Int)).length≤1073741824 then
    g43_L2 m n a b c d f h i j k (l++([(false,([]:List Int))]:List (Bool×List Int))) (w_i64 (o+1))
    else none
   else
    (g101 m y1.1.2.1 y1.1.2.2.1 (w_i64 (y1.1.2.2.2.1-h))).bind fun y3=>
    if l.length+([(y3.1.1,y3.1.2.1)]:List (Bool×List Int)).length≤1073741824 then
    g43_L2 m n a b c d f h i j k (l++([(y3.1.1,y3.1.2.1)]:List (Bool×List Int))) (w_i64 (o+1))
    else none
   else none
   else none
  else
   some (.inl ((a,b,c,d,f,()),h,i,j,k,l,()))
def g43_L1 (m:Nat):Nat→Int→Int→List Int→List Int→List Int→Int→List (List Int)→(List (List (Bool×List Int)))→Int→Option ((Int×(List (List (Bool×List Int)))×Unit)⊕Empty)
 |0,_,_,_,_,_,_,_,_,_=>none
 |n+1,a,b,c,d,f,h,i,j,k=>
  bif decide (k<a)then
   (g43_L2 m m a b c d f h i j k ([]:List (Bool×List Int)) 0).bind fun y1=>
   match y1 with
   | .inl z2=>
    if 0<([z2.2.2.2.2.2.1]:List (List (Bool×List Int))).length∧z2.2.2.2.1.length+([z2.2.2.2.2.2.1]:List (List (Bool×List Int))).length≤1073741824 then
    g43_L1 m n z2.1.1 z2.1.2.1 z2.1.2.2.1 z2.1.2.2.2.1 z2.1.2.2.2.2.1 z2.2.1 z2.2.2.1 (z2.2.2.2.1++([z2.2.2.2.2.2.1]:List (List (Bool×List Int)))) (w_i64 (z2.2.2.2.2.1+1))
    else none
   | .inr e=>
    e.elim
  else
   some (.inl (h,j,()))
def g43_L0 (m:Nat):Nat→Int→Int→List Int→List Int→List Int→Int→Bool→Int→Option (((Int×Int×List Int×List Int×List Int×Unit)×Int×Unit)⊕Empty)
 |0,_,_,_,_,_,_,_,_=>none
 |n+1,a,b,c,d,f,h,i,j=>
  bif decide (j<(f.length:Int))then
   if(0:Int)≤j∧j<(f.length:Int)then
   (g37 m (f.getD j.toNat 0)).bind fun y1=>
   (g100 m y1.1.1 y1.1.2.1 y1.1.2.2.1 y1.1.2.2.2.1).bind fun y2=>
   bif y2.1 !=0 then
    bif !i then
     g43_L0 m n a b c d f y1.1.2.2.2.1 true (w_i64 (j+1))
    else
     bif decide (y1.1.2.2.2.1<h)then
      g43_L0 m n a b c d f y1.1.2.2.2.1 true (w_i64 (j+1))
     else
      g43_L0 m n a b c d f h i (w_i64 (j+1))
   else
    g43_L0 m n a b c d f h i (w_i64 (j+1))
   else none
  else
   some (.inl ((a,b,c,d,f,()),h,()))
def g43 (m:Nat) (a:Int) (b:Int) (c:List Int) (d:List Int) (f:List Int):Option (((List (List (Bool×List Int)))×Int×Int×Unit)×Unit×Unit):=
 (g45 m a b c d f).bind fun y1=>
 bif y1.1 !=0 then
  some ((([]:List (List (Bool×List Int))),0,y1.1,()),((),()))
 else
  bif decide (a>16)then
   some ((([]:List (List (Bool×List Int))),0,6,()),((),()))
  else
   bif decide (b>16)then
    some ((([]:List (List (Bool×List Int))),0,6,()),((),()))
   else
    (g43_L0 m m a b c d f 0 false 0).bind fun y2=>
    match y2 with
    | .inl z3=>
     (g42 m z3.1.1 z3.1.2.1 z3.1.2.2.1 z3.1.2.2.2.1 z3.1.2.2.2.2.1).bind fun y4=>
     (g43_L1 m m z3.1.1 z3.1.2.1 z3.1.2.2.1 z3.1.2.2.2.1 z3.1.2.2.2.2.1 z3.2.1 y4.1.1 ([]:List (List (Bool×List Int))) 0).bind fun y5=>
     match y5 with
     | .inl z6=>
      some ((z6.2.1,z6.1,0,()),((),()))
     | .inr e=>
      e.elim
    | .inr e=>
     e.elim
def g47 (m:Nat) (a:Int) (b:Int) (c:List Int) (d:List Int) (f:List Int):Option ((List (Int×Int×Int))×Unit×Unit):=
 (g44 m a b c d f).bind fun y1=>
 bif y1.1 !=0 then
  some (([]:List (Int×Int×Int)),((),()))
 else
  (g73 m a b c d f).bind fun y2=>
  some (y2.1,((),()))
def g46_L0 (m:Nat):Nat→(List (Int×Int×Int))→(List (Int×Int×Int))→Int→Option ((Bool×Unit)⊕Unit⊕Empty)
 |0,_,_,_=>none
 |n+1,a,b,c=>
  bif decide (c<(a.length:Int))then
   if(0:Int)≤c∧c<(a.length:Int)then
   if(0:Int)≤c∧c<(b.length:Int)then
   bif !(((a.getD c.toNat (0,(0,0))).1==(b.getD c.toNat (0,(0,0))).1)&&(((a.getD c.toNat (0,(0,0))).2.1==(b.getD c.toNat (0,(0,0))).2.1)&&(((a.getD c.toNat (0,(0,0))).2.2==(b.getD c.toNat (0,(0,0))).2.2)&&true)))then
    some (.inl (false,()))
   else
    g46_L0 m n a b (w_i64 (c+1))
   else none
   else none
  else
   some (.inr (.inl ()))
def g46 (m:Nat) (a:List (Int×Int×Int)) (b:List (Int×Int×Int)):Option (Bool×Unit×Unit×Unit):=
 bif (a.length:Int) !=(b.length:Int)then
  some (false,((),(),()))
 else
  (g46_L0 m m a b 0).bind fun y1=>
  match y1 with
  | .inl z2=>
   some (z2.1,((),(),()))
  | .inr (.inl z3)=>
   some (true,((),(),()))
  | .inr (.inr e)=>
   e.elim
def g187 (m:Nat) (a:Int):Option (Bool×Unit×Unit):=
 some (a !=a,((),()))
def g143_L0 (m:Nat):Nat→List Int→Int→Int→Int→Int→Option ((List Int×Int×Int×Int×Unit)⊕Empty)
 |0,_,_,_,_,_=>none
 |n+1,a,b,c,d,f=>
  bif decide (d<f)then
   if(0:Int)≤(w_i64 (shr_ .u64 (w_u64 (w_i64 (d+f))) 1))∧(w_i64 (shr_ .u64 (w_u64 (w_i64 (d+f))) 1))<(a.length:Int)then
   (g186 m (a.getD (w_i64 (shr_ .u64 (w_u64 (w_i64 (d+f))) 1)).toNat 0) b).bind fun y1=>
   bif y1.1 then
    g143_L0 m n a b c (w_i64 ((w_i64 (shr_ .u64 (w_u64 (w_i64 (d+f))) 1))+1)) f
   else
    g143_L0 m n a b c d (w_i64 (shr_ .u64 (w_u64 (w_i64 (d+f))) 1))
   else none
  else
   some (.inl (a,b,c,d,()))
def g143 (m:Nat) (a:List Int) (b:Int):Option ((Int×Bool×Unit)×Unit×Unit×Unit):=
 (g143_L0 m m a b (a.length:Int) 0 (a.length:Int)).bind fun y1=>
 match y1 with
 | .inl z2=>
  bif decide (z2.2.2.2.1<z2.2.2.1)then
   if(0:Int)≤z2.2.2.2.1∧z2.2.2.2.1<(z2.1.length:Int)then
   bif (z2.1.getD z2.2.2.2.1.toNat 0)==z2.2.1 then
    some ((z2.2.2.2.1,true,()),((),(),()))
   else
    if(0:Int)≤z2.2.2.2.1∧z2.2.2.2.1<(z2.1.length:Int)then
    (g187 m (z2.1.getD z2.2.2.2.1.toNat 0)).bind fun y3=>
    bif y3.1 then
     (g187 m z2.2.1).bind fun y4=>
     some ((z2.2.2.2.1,y4.1,()),((),(),()))
    else
     some ((z2.2.2.2.1,false,()),((),(),()))
    else none
   else none
  else
   some ((z2.2.2.2.1,false,()),((),(),()))
 | .inr e=>
  e.elim
def g85 (m:Nat) (a:Int) (b:Int) (c:List Int) (d:List Int) (f:List Int) (h:Int) (i:Int):Option ((Int×Bool×Unit)×Unit×Unit×Unit×Unit):=
 if(0:Int)≤i∧i<(c.length:Int)then
 if(0:Int)≤(w_i64 (i+1))∧(w_i64 (i+1))<(c.length:Int)then
 if(0:Int)≤(c.getD i.toNat 0)∧(c.getD i.toNat 0)≤(c.getD (w_i64 (i+1)).toNat 0)∧(c.getD (w_i64 (i+1)).toNat 0)≤(d.length:Int)then
 (g143 m ((d.drop (c.getD i.toNat 0).toNat).take ((c.getD (w_i64 (i+1)).toNat 0).toNat-(c.getD i.toNat 0).toNat)) h).bind fun y1=>
 bif !y1.1.2.1 then
  some ((0,false,()),((),(),(),()))
 else
  if(0:Int)≤i∧i<(c.length:Int)then
  if(0:Int)≤(w_i64 ((c.getD i.toNat 0)+y1.1.1))∧(w_i64 ((c.getD i.toNat 0)+y1.1.1))<(f.length:Int)then
  some ((f.getD (w_i64 ((c.getD i.toNat 0)+y1.1.1)).toNat 0,true,()),((),(),(),()))
  else none
  else none
 else none
 else none
 else none
def g30 (m:Nat) (a:Int) (b:Int) (c:List Int) (d:List Int) (f:List Int) (h:Int) (i:Int):Option (Int×Unit×Unit×Unit×Unit):=
 (g44 m a b c d f).bind fun y1=>
 bif y1.1 !=0 then
  some (0,((),(),(),()))
 else
  (g57 m h 0 (w_i64 (a-1))).bind fun y2=>
  bif !y2.1 then
   some (0,((),(),(),()))
  else
   (g57 m i 0 (w_i64 (b-1))).bind fun y3=>
   bif !y3.1 then
    some (0,((),(),(),()))
   else
    (g85 m a b c d f h i).bind fun y4=>
    some (y4.1.1,((),(),(),()))
def g38_L0 (m:Nat):Nat→Int→Int→Int→Int→List Int→List Int→List Int→Int→Option ((Int×Unit)⊕Unit⊕Empty)
 |0,_,_,_,_,_,_,_,_=>none
 |n+1,a,b,c,d,f,h,i,j=>
  if(0:Int)≤(w_i64 (b+1))∧(w_i64 (b+1))<(f.length:Int)then
  bif decide (j<(f.getD (w_i64 (b+1)).toNat 0))then
   if(0:Int)≤j∧j<(h.length:Int)then
   bif (h.getD j.toNat 0)==a then
    if(0:Int)≤j∧j<(i.length:Int)then
    some (.inl (i.getD j.toNat 0,()))
    else none
   else
    g38_L0 m n a b c d f h i (w_i64 (j+1))
   else none
  else
   some (.inr (.inl ()))
  else none
def g38 (m:Nat) (a:Int) (b:Int) (c:List Int) (d:List Int) (f:List Int) (h:Int) (i:Int):Option (Int×Unit×Unit×Unit×Unit):=
 (g45 m a b c d f).bind fun y1=>
 bif y1.1 !=0 then
  some (0,((),(),(),()))
 else
  bif decide (i<0)then
   some (0,((),(),(),()))
  else
   bif decide (i≥b)then
    some (0,((),(),(),()))
   else
    if(0:Int)≤i∧i<(c.length:Int)then
    (g38_L0 m m h i a b c d f (c.getD i.toNat 0)).bind fun y2=>
    match y2 with
    | .inl z3=>
     some (z3.1,((),(),(),()))
    | .inr (.inl z4)=>
     some (0,((),(),(),()))
    | .inr (.inr e)=>
     e.elim
    else none
def g138_L0 (m:Nat):Nat→List Int→List Int→Int→Option ((Bool×Unit)⊕Unit⊕Empty)
 |0,_,_,_=>none
 |n+1,a,b,c=>
  bif decide (c<(a.length:Int))then
   if(0:Int)≤c∧c<(a.length:Int)then
   if(0:Int)≤c∧c<(b.length:Int)then
   bif (a.getD c.toNat 0) !=(b.getD c.toNat 0)then
    some (.inl (false,()))
   else
    g138_L0 m n a b (w_i64 (c+1))
   else none
   else none
  else
   some (.inr (.inl ()))
def g138 (m:Nat) (a:List Int) (b:List Int):Option (Bool×Unit×Unit×Unit):=
 bif (a.length:Int) !=(b.length:Int)then
  some (false,((),(),()))
 else
  (g138_L0 m m a b 0).bind fun y1=>
  match y1 with
  | .inl z2=>
   some (z2.1,((),(),()))
  | .inr (.inl z3)=>
   some (true,((),(),()))
  | .inr (.inr e)=>
   e.elim
def g79 (m:Nat) (a:Bool) (b:List Int) (c:Bool) (d:List Int):Option (Bool×Unit×Unit×Unit):=
 bif a==c then
  (g138 m b d).bind fun y1=>
  some (y1.1,((),(),()))
 else
  some (false,((),(),()))
def g105_L0 (m:Nat):Nat→(List (Bool×List Int))→(List (Bool×List Int))→Int→Option ((Bool×Unit)⊕Unit⊕Empty)
 |0,_,_,_=>none
 |n+1,a,b,c=>
  bif decide (c<(a.length:Int))then
   if(0:Int)≤c∧c<(a.length:Int)then
   if(0:Int)≤c∧c<(b.length:Int)then
   (g79 m (a.getD c.toNat (false,([]:List Int))).1 (a.getD c.toNat (false,([]:List Int))).2 (b.getD c.toNat (false,([]:List Int))).1 (b.getD c.toNat (false,([]:List Int))).2).bind fun y1=>
   bif !y1.1 then
    some (.inl (false,()))
   else
    g105_L0 m n a b (w_i64 (c+1))
   else none
   else none
  else
   some (.inr (.inl ()))
def g105 (m:Nat) (a:List (Bool×List Int)) (b:List (Bool×List Int)):Option (Bool×Unit×Unit×Unit):=
 bif (a.length:Int) !=(b.length:Int)then
  some (false,((),(),()))
 else
  (g105_L0 m m a b 0).bind fun y1=>
  match y1 with
  | .inl z2=>
   some (z2.1,((),(),()))
  | .inr (.inl z3)=>
   some (true,((),(),()))
  | .inr (.inr e)=>
   e.elim
def g49_L0 (m:Nat):Nat→(List (List (Bool×List Int)))→(List (List (Bool×List Int)))→Int→Option ((Bool×Unit)⊕Unit⊕Empty)
 |0,_,_,_=>none
 |n+1,a,b,c=>
  bif decide (c<(a.length:Int))then
   if(0:Int)≤c∧c<(a.length:Int)then
   if(0:Int)≤c∧c<(b.length:Int)then
   (g105 m (a.getD c.toNat ([]:List (Bool×List Int))) (b.getD c.toNat ([]:List (Bool×List Int)))).bind fun y1=>
   bif !y1.1 then
    some (.inl (false,()))
   else
    g49_L0 m n a b (w_i64 (c+1))
   else none
   else none
  else
   some (.inr (.inl ()))
def g49 (m:Nat) (a:List (List (Bool×List Int))) (b:List (List (Bool×List Int))):Option (Bool×Unit×Unit×Unit):=
 bif (a.length:Int) !=(b.length:Int)then
  some (false,((),(),()))
 else
  (g49_L0 m m a b 0).bind fun y1=>
  match y1 with
  | .inl z2=>
   some (z2.1,((),(),()))
  | .inr (.inl z3)=>
   some (true,((),(),()))
  | .inr (.inr e)=>
   e.elim
def g108 (m:Nat) (a:Int):Option (Int×Unit×Unit):=
 (g81 m a).bind fun y1=>
 bif y1.1.1==2047 then
  bif y1.1.2.1 !=0 then
   some (3,((),()))
  else
   bif y1.1.1==2047 then
    some (2,((),()))
   else
    bif y1.1.1==0 then
     bif y1.1.2.1==0 then
      some (0,((),()))
     else
      some (1,((),()))
    else
     some (1,((),()))
 else
  bif y1.1.1==2047 then
   some (2,((),()))
  else
   bif y1.1.1==0 then
    bif y1.1.2.1==0 then
     some (0,((),()))
    else
     some (1,((),()))
   else
    some (1,((),()))
def g92_L0 (m:Nat):Nat→List Int→Int→Int→Option ((Bool×Unit)⊕Unit⊕Empty)
 |0,_,_,_=>none
 |n+1,a,b,c=>
  bif decide (c<b)then
   if(0:Int)≤c∧c<(a.length:Int)then
   (g108 m (a.getD c.toNat 0)).bind fun y1=>
   bif y1.1==3 then
    some (.inl (true,()))
   else
    g92_L0 m n a b (w_i64 (c+1))
   else none
  else
   some (.inr (.inl ()))
def g92 (m:Nat) (a:List Int):Option (Bool×Unit×Unit):=
 (g92_L0 m m a (a.length:Int) 0).bind fun y1=>
 match y1 with
 | .inl z2=>
  some (z2.1,((),()))
 | .inr (.inl z3)=>
  some (false,((),()))
 | .inr (.inr e)=>
  e.elim
def g159 (m:Nat) (a:Int):Option (Int×Unit×Unit):=
 (g83 m a).bind fun y1=>
 bif y1.1 then
  some (w_i64 (0-(w_i64 (qk1 .u64 a 9223372036854775808))),((),()))
 else
  some (w_i64 (qk1 .u64 a 9223372036854775808),((),()))
def g106 (m:Nat) (a:Int) (b:Int):Option ((Int×Bool×Unit)×Unit×Unit×Unit):=
 (g92 m ([a,b]:List Int)).bind fun y1=>
 bif y1.1 then
  some ((0,false,()),((),(),()))
 else
  (g159 m a).bind fun y2=>
  (g159 m b).bind fun y3=>
  bif decide (y2.1<y3.1)then
   some (((-1),true,()),((),(),()))
  else
   bif decide (y2.1>y3.1)then
    some ((1,true,()),((),(),()))
   else
    some ((0,true,()),((),(),()))
def g50_L0 (m:Nat):Nat→Int→Int→List Int→List Int→List Int→(List (Int×Int×Int))→Int→Int→Option ((Bool×Unit)⊕Unit⊕Empty)
 |0,_,_,_,_,_,_,_,_=>none
 |n+1,a,b,c,d,f,h,i,j=>
  bif decide (j<i)then
   if(0:Int)≤j∧j<(h.length:Int)then
   (g85 m a b c d f (h.getD (0+j.toNat) (0,(0,0))).2.1 (h.getD (0+j.toNat) (0,(0,0))).1).bind fun y1=>
   (g106 m (h.getD (0+j.toNat) (0,(0,0))).2.2 y1.1.1).bind fun y2=>
   bif y2.1.1 !=0 then
    some (.inl (false,()))
   else
    g50_L0 m n a b c d f h i (w_i64 (j+1))
   else none
  else
   some (.inr (.inl ()))
def g50 (m:Nat) (a:Int) (b:Int) (c:List Int) (d:List Int) (f:List Int):Option (Bool×Unit×Unit):=
 (g44 m a b c d f).bind fun y1=>
 bif y1.1 !=0 then
  some (false,((),()))
 else
  bif a !=b then
   some (false,((),()))
  else
   (g73 m a b c d f).bind fun y2=>
   (g50_L0 m m a b c d f y2.1 (y2.1.length:Int) 0).bind fun y3=>
   match y3 with
   | .inl z4=>
    some (z4.1,((),()))
   | .inr (.inl z5)=>
    some (true,((),()))
   | .inr (.inr e)=>
    e.elim
def g111 (m:Nat) (a:Int):Option (Int×Unit×Unit):=
 bif (qx .u64 (shr_ .u64 a 52) 2047)==2047 then
  bif (qx .u64 a 4503599627370495) !=0 then
   some (3,((),()))
  else
   bif (qx .u64 (shr_ .u64 a 52) 2047)==2047 then
    some (2,((),()))
   else
    bif (qx .u64 (shr_ .u64 a 52) 2047)==0 then
     bif (qx .u64 a 4503599627370495)==0 then
      some (0,((),()))
     else
      some (1,((),()))
    else
     some (1,((),()))
 else
  bif (qx .u64 (shr_ .u64 a 52) 2047)==2047 then
   some (2,((),()))
  else
   bif (qx .u64 (shr_ .u64 a 52) 2047)==0 then
    bif (qx .u64 a 4503599627370495)==0 then
     some (0,((),()))
    else
     some (1,((),()))
   else
    some (1,((),()))
def g160 (m:Nat) (a:Int):Option (Bool×Unit×Unit):=
 (g111 m a).bind fun y1=>
 some (y1.1==3,((),()))
def g161 (m:Nat) (a:Int):Option (Int×Unit×Unit):=
 (g95 m a).bind fun y1=>
 bif y1.1 then
  some (w_i64 (0-(w_i64 (qk1 .u64 a 9223372036854775808))),((),()))
 else
  some (w_i64 a,((),()))
def g107 (m:Nat) (a:Int) (b:Int):Option ((Int×Bool×Unit)×Unit×Unit×Unit):=
 (g160 m a).bind fun y1=>
 bif y1.1 then
  some ((0,false,()),((),(),()))
 else
  (g160 m b).bind fun y2=>
  bif y2.1 then
   some ((0,false,()),((),(),()))
  else
   (g161 m a).bind fun y3=>
   (g161 m b).bind fun y4=>
   bif decide (y3.1<y4.1)then
    some (((-1),true,()),((),(),()))
   else
    (g161 m a).bind fun y5=>
    (g161 m b).bind fun y6=>
    bif decide (y5.1>y6.1)then
     some ((1,true,()),((),(),()))
    else
     some ((0,true,()),((),(),()))
def g51_L1 (m:Nat):Nat→Int→Int→List Int→List Int→List Int→Int→Int→Option ((Bool×Unit)⊕((Int×Int×List Int×List Int×List Int×Unit)×Int×Unit)⊕Empty)
 |0,_,_,_,_,_,_,_=>none
 |n+1,a,b,c,d,f,h,i=>
  bif decide (i<h)then
   (g38 m a b c d f h i).bind fun y1=>
   (g38 m a b c d f i h).bind fun y2=>
   (g107 m y1.1 y2.1).bind fun y3=>
   bif y3.1.1 !=0 then
    some (.inl (false,()))
   else
    g51_L1 m n a b c d f h (w_i64 (i+1))
  else
   some (.inr (.inl ((a,b,c,d,f,()),h,())))
def g51_L0 (m:Nat):Nat→Int→Int→List Int→List Int→List Int→Int→Option ((Bool×Unit)⊕Unit⊕Empty)
 |0,_,_,_,_,_,_=>none
 |n+1,a,b,c,d,f,h=>
  bif decide (h<a)then
   (g51_L1 m m a b c d f h 0).bind fun y1=>
   match y1 with
   | .inl z2=>
    some (.inl (z2.1,()))
   | .inr (.inl z3)=>
    g51_L0 m n z3.1.1 z3.1.2.1 z3.1.2.2.1 z3.1.2.2.2.1 z3.1.2.2.2.2.1 (w_i64 (z3.2.1+1))
   | .inr (.inr e)=>
    e.elim
  else
   some (.inr (.inl ()))
def g51 (m:Nat) (a:Int) (b:Int) (c:List Int) (d:List Int) (f:List Int):Option (Bool×Unit×Unit):=
 (g45 m a b c d f).bind fun y1=>
 bif y1.1 !=0 then
  some (false,((),()))
 else
  bif a !=b then
   some (false,((),()))
  else
   (g51_L0 m m a b c d f 0).bind fun y2=>
   match y2 with
   | .inl z3=>
    some (z3.1,((),()))
   | .inr (.inl z4)=>
    some (true,((),()))
   | .inr (.inr e)=>
    e.elim
def g19_L0 (m:Nat):Nat→List Int→List Int→Int→Option ((Bool×Unit)⊕Unit⊕Empty)
 |0,_,_,_=>none
 |n+1,a,b,c=>
  bif decide (c<(a.length:Int))then
   if(0:Int)≤c∧c<(a.length:Int)then
   if(0:Int)≤c∧c<(b.length:Int)then
   bif (a.getD c.toNat 0) !=(b.getD c.toNat 0)then
    some (.inl (false,()))
   else
    g19_L0 m n a b (w_i64 (c+1))
   else none
   else none
  else
   some (.inr (.inl ()))
def g19 (m:Nat) (a:List Int) (b:List Int):Option (Bool×Unit×Unit×Unit):=
 bif (a.length:Int) !=(b.length:Int)then
  some (false,((),(),()))
 else
  (g19_L0 m m a b 0).bind fun y1=>
  match y1 with
  | .inl z2=>
   some (z2.1,((),(),()))
  | .inr (.inl z3)=>
   some (true,((),(),()))
  | .inr (.inr e)=>
   e.elim
def g52 (m:Nat) (a:Int) (b:Int) (c:List Int) (d:List Int) (f:List Int) (h:Int) (i:Int) (j:List Int) (k:List Int) (l:List Int):Option (Bool×Unit×Unit×Unit):=
 bif a==h then
  bif b==i then
   (g56 m c j).bind fun y1=>
   bif y1.1 then
    (g56 m d k).bind fun y2=>
    bif y2.1 then
     (g19 m f l).bind fun y3=>
     some (y3.1,((),(),()))
    else
     some (false,((),(),()))
   else
    some (false,((),(),()))
  else
   some (false,((),(),()))
 else
  some (false,((),(),()))
def sparselaw09_MatrixParts_L0 (m:Nat):Nat→Int→Int→List Int→List Int→List Int→Int→Int→List Int→List Int→List Int→List (List Int)→List (List Int)→Int→Option ((Bool×Unit)⊕((Int×Int×List Int×List Int×List Int×Unit)×(Int×Int×List Int×List Int×List Int×Unit)×Unit)⊕Empty)
 |0,_,_,_,_,_,_,_,_,_,_,_,_,_=>none
 |n+1,a,b,c,d,f,h,i,j,k,l,o,p,q=>
  bif decide (q<(o.length:Int))then
   if(0:Int)≤q∧q<(o.length:Int)then
   if(0:Int)≤q∧q<(p.length:Int)then
   (g19 m (o.getD q.toNat ([]:List Int)) (p.getD q.toNat ([]:List Int))).bind fun y1=>
   bif !y1.1 then
    some (.inl (false,()))
   else
    sparselaw09_MatrixParts_L0 m n a b c d f h i j k l o p (w_i64 (q+1))
   else none
   else none
  else
   some (.inr (.inl ((a,b,c,d,f,()),(h,i,j,k,l,()),())))
def sparselaw09_MatrixParts (m:Nat) (a:Int) (b:Int) (c:List Int) (d:List Int) (f:List Int) (h:Int) (i:Int):Option (Bool×Unit×Unit×Unit×Unit):=
 (sparselaw09_small m a b c d f).bind fun y1=>
 bif !y1.1 then
  (sparselaw09_awake m).bind fun y2=>
  some (y2.1,((),(),(),()))
 else
  (g40 m a b c d f).bind fun y3=>
  (g41 m y3.1.1 y3.1.2.1 y3.1.2.2.1 y3.1.2.2.2.1 y3.1.2.2.2.2.1).bind fun y4=>
  (g42 m a b c d f).bind fun y5=>
  (g26 m y3.1.1 y3.1.2.1 y3.1.2.2.1 y3.1.2.2.2.1 y3.1.2.2.2.2.1).bind fun y6=>
  (g43 m a b c d f).bind fun y7=>
  (g44 m y3.1.1 y3.1.2.1 y3.1.2.2.1 y3.1.2.2.2.1 y3.1.2.2.2.2.1).bind fun y8=>
  (g45 m a b c d f).bind fun y9=>
  bif y8.1 !=y9.1 then
   some (false,((),(),(),()))
  else
   (g47 m y3.1.1 y3.1.2.1 y3.1.2.2.1 y3.1.2.2.2.1 y3.1.2.2.2.2.1).bind fun y10=>
   (g48 m a b c d f).bind fun y11=>
   (g46 m y10.1 y11.1).bind fun y12=>
   bif !y12.1 then
    some (false,((),(),(),()))
   else
    (g30 m y3.1.1 y3.1.2.1 y3.1.2.2.1 y3.1.2.2.2.1 y3.1.2.2.2.2.1 h i).bind fun y13=>
    (g38 m a b c d f h i).bind fun y14=>
    bif y13.1 !=y14.1 then
     some (false,((),(),(),()))
    else
     bif y4.1.2.1 !=y5.1.2.1 then
      some (false,((),(),(),()))
     else
      bif (y4.1.1.length:Int) !=(y5.1.1.length:Int)then
       some (false,((),(),(),()))
      else
       bif y6.1.2.2.1 !=y7.1.2.2.1 then
        some (false,((),(),(),()))
       else
        bif y6.1.2.1 !=y7.1.2.1 then
         some (false,((),(),(),()))
        else
         (g49 m y6.1.1 y7.1.1).bind fun y15=>
         bif !y15.1 then
          some (false,((),(),(),()))
         else
          (g50 m y3.1.1 y3.1.2.1 y3.1.2.2.1 y3.1.2.2.2.1 y3.1.2.2.2.2.1).bind fun y16=>
          (g51 m a b c d f).bind fun y17=>
          bif !(y16.1==y17.1)then
           some (false,((),(),(),()))
          else
           (sparselaw09_MatrixParts_L0 m m a b c d f y3.1.1 y3.1.2.1 y3.1.2.2.1 y3.1.2.2.2.1 y3.1.2.2.2.2.1 y4.1.1 y5.1.1 0).bind fun y18=>
           match y18 with
           | .inl z19=>
            some (z19.1,((),(),(),()))
           | .inr (.inl z20)=>
            (g52 m z20.2.1.1 z20.2.1.2.1 z20.2.1.2.2.1 z20.2.1.2.2.2.1 z20.2.1.2.2.2.2.1 z20.1.1 z20.1.2.1 z20.1.2.2.1 z20.1.2.2.2.1 z20.1.2.2.2.2.1).bind fun y21=>
            bif y21.1 then
             (sparselaw09_awake m).bind fun y22=>
             some (y22.1,((),(),(),()))
            else
             some (false,((),(),(),()))
           | .inr (.inr e)=>
            e.elim
end Go.Vs.F
