/-The plain functions of the program,as the evaluator computes them (by program:gen.py). -/
import Derived.Test.YtkfooaihogahcaaGreatDoorVc
set_option linter.unusedVariables false
namespace Go.Vs.F
def q33:List Int:=[0,1,28,2,29,14,24,3,30,22,20,15,25,17,4,8,31,27,13,23,21,19,16,7,26,12,18,6,11,5,10,9]
def Xd:List Int:=[0,1,2,2,3,3,3,3,4,4,4,4,4,4,4,4,5,5,5,5,5,5,5,5,5,5,5,5,5,5,5,5,6,6,6,6,6,6,6,6,6,6,6,6,6,6,6,6,6,6,6,6,6,6,6,6,6,6,6,6,6,6,6,6,7,7,7,7,7,7,7,7,7,7,7,7,7,7,7,7,7,7,7,7,7,7,7,7,7,7,7,7,7,7,7,7,7,7,7,7,7,7,7,7,7,7,7,7,7,7,7,7,7,7,7,7,7,7,7,7,7,7,7,7,7,7,7,7,8,8,8,8,8,8,8,8,8,8,8,8,8,8,8,8,8,8,8,8,8,8,8,8,8,8,8,8,8,8,8,8,8,8,8,8,8,8,8,8,8,8,8,8,8,8,8,8,8,8,8,8,8,8,8,8,8,8,8,8,8,8,8,8,8,8,8,8,8,8,8,8,8,8,8,8,8,8,8,8,8,8,8,8,8,8,8,8,8,8,8,8,8,8,8,8,8,8,8,8,8,8,8,8,8,8,8,8,8,8,8,8,8,8,8,8,8,8,8,8,8,8,8,8,8,8,8,8]
def g68 (m:Nat) (a:Int) (b:Int) (c:Int):Option (Bool×Unit×Unit×Unit×Unit):=
 bif decide (a≥b)then
  some (decide (a≤c),((),(),(),()))
 else
  some (false,((),(),(),()))
def g163 (m:Nat) (a:Int):Option (Bool×Unit×Unit):=
 some (a !=a,((),()))
def g150 (m:Nat) (a:Int) (b:Int):Option (Bool×Unit×Unit×Unit):=
 (g163 m a).bind fun y1=>
 bif y1.1 then
  (g163 m b).bind fun y2=>
  bif !y2.1 then
   some (true,((),(),()))
  else
   some (decide (a<b),((),(),()))
 else
  some (decide (a<b),((),(),()))
def g121_L0 (m:Nat):Nat→List Int→Int→Option ((Bool×Unit)⊕Unit⊕Empty)
 |0,_,_=>none
 |n+1,a,b=>
  bif decide (b>0)then
   if(0:Int)≤b∧b<(a.length:Int)then
   if(0:Int)≤(w_i64 (b-1))∧(w_i64 (b-1))<(a.length:Int)then
   (g150 m (a.getD b.toNat 0) (a.getD (w_i64 (b-1)).toNat 0)).bind fun y1=>
   bif y1.1 then
    some (.inl (false,()))
   else
    g121_L0 m n a (w_i64 (b-1))
   else none
   else none
  else
   some (.inr (.inl ()))
def g121 (m:Nat) (a:List Int):Option (Bool×Unit×Unit):=
 (g121_L0 m m a (w_i64 ((a.length:Int)-1))).bind fun y1=>
 match y1 with
 | .inl z2=>
  some (z2.1,((),()))
 | .inr (.inl z3)=>
  some (true,((),()))
 | .inr (.inr e)=>
  e.elim
def g73_L1 (m:Nat):Nat→Int→Int→List Int→List Int→List Int→Int→Int→Int→List Int→Int→Int→Option ((Bool×Unit)⊕((Int×Int×List Int×List Int×List Int×Unit)×Int×Int×Unit)⊕Empty)
 |0,_,_,_,_,_,_,_,_,_,_,_=>none
 |n+1,a,b,c,d,f,h,i,j,k,l,o=>
  bif decide (o<l)then
   if(0:Int)≤o∧o<(k.length:Int)then
   bif decide ((k.getD o.toNat 0)≤h)then
    some (.inl (false,()))
   else
    bif decide ((k.getD o.toNat 0)≥a)then
     some (.inl (false,()))
    else
     g73_L1 m n a b c d f (k.getD o.toNat 0) i j k l (w_i64 (o+1))
   else none
  else
   some (.inr (.inl ((a,b,c,d,f,()),i,j,())))
def g73_L0 (m:Nat):Nat→Int→Int→List Int→List Int→List Int→Int→Int→Option ((Bool×Unit)⊕Unit⊕Empty)
 |0,_,_,_,_,_,_,_=>none
 |n+1,a,b,c,d,f,h,i=>
  bif decide (i<h)then
   if(0:Int)≤i∧i<(c.length:Int)then
   if(0:Int)≤(w_i64 (i+1))∧(w_i64 (i+1))<(c.length:Int)then
   if(0:Int)≤(c.getD i.toNat 0)∧(c.getD i.toNat 0)≤(c.getD (w_i64 (i+1)).toNat 0)∧(c.getD (w_i64 (i+1)).toNat 0)≤(d.length:Int)then
   (g73_L1 m m a b c d f (-1) h i ((d.drop (c.getD i.toNat 0).toNat).take ((c.getD (w_i64 (i+1)).toNat 0).toNat-(c.getD i.toNat 0).toNat)) (((d.drop (c.getD i.toNat 0).toNat).take ((c.getD (w_i64 (i+1)).toNat 0).toNat-(c.getD i.toNat 0).toNat)).length:Int) 0).bind fun y1=>
   match y1 with
   | .inl z2=>
    some (.inl (z2.1,()))
   | .inr (.inl z3)=>
    g73_L0 m n z3.1.1 z3.1.2.1 z3.1.2.2.1 z3.1.2.2.2.1 z3.1.2.2.2.2.1 z3.2.1 (w_i64 (z3.2.2.1+1))
   | .inr (.inr e)=>
    e.elim
   else none
   else none
   else none
  else
   some (.inr (.inl ()))
def g73 (m:Nat) (a:Int) (b:Int) (c:List Int) (d:List Int) (f:List Int):Option (Bool×Unit×Unit):=
 bif (c.length:Int) !=(w_i64 (b+1))then
  some (false,((),()))
 else
  if(0:Int)≤0∧0<(c.length:Int)then
  bif (c.getD 0 0) !=0 then
   some (false,((),()))
  else
   (g121 m c).bind fun y1=>
   bif !y1.1 then
    some (false,((),()))
   else
    if(0:Int)≤b∧b<(c.length:Int)then
    bif (c.getD b.toNat 0) !=(d.length:Int)then
     some (false,((),()))
    else
     bif (d.length:Int) !=(f.length:Int)then
      some (false,((),()))
     else
      (g73_L0 m m a b c d f b 0).bind fun y2=>
      match y2 with
      | .inl z3=>
       some (z3.1,((),()))
      | .inr (.inl z4)=>
       some (true,((),()))
      | .inr (.inr e)=>
       e.elim
    else none
  else none
def g77 (m:Nat) (a:Int):Option ((Int×Int×Unit)×Unit×Unit):=
 some ((w_i64 (qy .u64 (shr_ .u64 a 52) 2047),qy .u64 a 4503599627370495,()),((),()))
def g76 (m:Nat) (a:Int):Option (Bool×Unit×Unit):=
 (g77 m a).bind fun y1=>
 some (y1.1.1 !=2047,((),()))
def g75 (m:Nat) (a:Int):Option (Bool×Unit×Unit):=
 (g76 m a).bind fun y1=>
 some (!y1.1,((),()))
def g122_L0 (m:Nat):Nat→List Int→Int→Int→Option ((Int×Unit)⊕Unit⊕Empty)
 |0,_,_,_=>none
 |n+1,a,b,c=>
  bif decide (c<b)then
   if(0:Int)≤c∧c<(a.length:Int)then
   (g75 m (a.getD c.toNat 0)).bind fun y1=>
   bif y1.1 then
    some (.inl (c,()))
   else
    g122_L0 m n a b (w_i64 (c+1))
   else none
  else
   some (.inr (.inl ()))
def g122 (m:Nat) (a:List Int):Option (Int×Unit×Unit×Unit):=
 (g122_L0 m m a (a.length:Int) 0).bind fun y1=>
 match y1 with
 | .inl z2=>
  some (z2.1,((),(),()))
 | .inr (.inl z3)=>
  some ((-1),((),(),()))
 | .inr (.inr e)=>
  e.elim
def g74 (m:Nat) (a:List Int):Option (Bool×Unit×Unit×Unit):=
 (g122 m a).bind fun y1=>
 some (decide (y1.1≥0),((),(),()))
def g29 (m:Nat) (a:Int) (b:Int) (c:List Int) (d:List Int) (f:List Int):Option (Int×Unit×Unit):=
 (g68 m a 0 200).bind fun y1=>
 bif !y1.1 then
  some (6,((),()))
 else
  (g68 m b 0 200).bind fun y2=>
  bif !y2.1 then
   some (6,((),()))
  else
   bif decide ((d.length:Int)>10000)then
    some (6,((),()))
   else
    (g73 m a b c d f).bind fun y3=>
    bif !y3.1 then
     some (1,((),()))
    else
     (g74 m f).bind fun y4=>
     bif y4.1 then
      some (4,((),()))
     else
      some (0,((),()))
def g37 (m:Nat) (a:Int) (b:Int) (c:List Int) (d:List Int) (f:List Int):Option (Int×Unit×Unit):=
 (g29 m a b c d f).bind fun y1=>
 bif y1.1==0 then
  bif a !=b then
   some (5,((),()))
  else
   some (y1.1,((),()))
 else
  some (y1.1,((),()))
def g30_L1 (m:Nat):Nat→Int→Int→List Int→List Int→List Int→(List (Int×Int×Int))→Int→Int→Int→Int→Option (((Int×Int×List Int×List Int×List Int×Unit)×(List (Int×Int×Int))×Int×Int×Unit)⊕Empty)
 |0,_,_,_,_,_,_,_,_,_,_=>none
 |n+1,a,b,c,d,f,h,i,j,k,l=>
  if(0:Int)≤(w_i64 (i+1))∧(w_i64 (i+1))<(c.length:Int)then
  bif decide (j<(c.getD (w_i64 (i+1)).toNat 0))then
   if(0:Int)≤j∧j<(d.length:Int)then
   if(0:Int)≤j∧j<(f.length:Int)then
   if h.length+([(d.getD j.toNat 0,(i,f.getD j.toNat 0))]:List (Int×Int×Int)).length≤1073741824 then
   g30_L1 m n a b c d f (h++([(d.getD j.toNat 0,(i,f.getD j.toNat 0))]:List (Int×Int×Int))) i (w_i64 (j+1)) k l
   else none
   else none
   else none
  else
   some (.inl ((a,b,c,d,f,()),h,k,l,()))
  else none
def g30_L0 (m:Nat):Nat→Int→Int→List Int→List Int→List Int→(List (Int×Int×Int))→Int→Int→Option (((List (Int×Int×Int))×Unit)⊕Empty)
 |0,_,_,_,_,_,_,_,_=>none
 |n+1,a,b,c,d,f,h,i,j=>
  bif decide (j<i)then
   if(0:Int)≤j∧j<(c.length:Int)then
   (g30_L1 m m a b c d f h j (c.getD j.toNat 0) i j).bind fun y1=>
   match y1 with
   | .inl z2=>
    g30_L0 m n z2.1.1 z2.1.2.1 z2.1.2.2.1 z2.1.2.2.2.1 z2.1.2.2.2.2.1 z2.2.1 z2.2.2.1 (w_i64 (z2.2.2.2.1+1))
   | .inr e=>
    e.elim
   else none
  else
   some (.inl (h,()))
def g30 (m:Nat) (a:Int) (b:Int) (c:List Int) (d:List Int) (f:List Int):Option ((List (Int×Int×Int))×Unit×Unit):=
 (g30_L0 m m a b c d f ([]:List (Int×Int×Int)) b 0).bind fun y1=>
 match y1 with
 | .inl z2=>
  some (z2.1,((),()))
 | .inr e=>
  e.elim
def g87 (m:Nat) (a:Int) (b:Int) (c:List Int) (d:List Int) (f:List Int):Option ((List (Int×Int×Int))×Unit×Unit):=
 (g29 m a b c d f).bind fun y1=>
 bif y1.1 !=0 then
  some (([]:List (Int×Int×Int)),((),()))
 else
  (g30 m a b c d f).bind fun y2=>
  some (y2.1,((),()))
def g139_L0 (m:Nat):Nat→List Int→Int→Option ((List Int×Int×Unit)⊕Empty)
 |0,_,_=>none
 |n+1,a,b=>
  bif decide (b>0)then
   if(0:Int)≤(w_i64 (b-1))∧(w_i64 (b-1))<(a.length:Int)then
   bif (a.getD (w_i64 (b-1)).toNat 0)==0 then
    g139_L0 m n a (w_i64 (b-1))
   else
    some (.inl (a,b,()))
   else none
  else
   some (.inl (a,b,()))
def g139 (m:Nat) (a:List Int):Option (List Int×Unit×Unit):=
 (g139_L0 m m a (a.length:Int)).bind fun y1=>
 match y1 with
 | .inl z2=>
  if(0:Int)≤0∧0≤z2.2.1∧z2.2.1≤(z2.1.length:Int)then
  some (z2.1.take z2.2.1.toNat,((),()))
  else none
 | .inr e=>
  e.elim
def g127 (m:Nat) (a:Bool) (b:List Int):Option ((Bool×List Int×Unit)×Unit×Unit×Unit):=
 (g139 m b).bind fun y1=>
 bif (y1.1.length:Int)==0 then
  some ((false,([]:List Int),()),((),(),()))
 else
  some ((a,y1.1,()),((),(),()))
def g81 (m:Nat) (a:Int):Option ((Bool×List Int×Unit)×Unit×Unit):=
 bif decide (a<0)then
  (g127 m (decide (a<0)) ([w_u32 (qy .u64 (w_u64 (0-(w_u64 a))) 4294967295),w_u32 (shr_ .u64 (w_u64 (0-(w_u64 a))) 32)]:List Int)).bind fun y1=>
  some ((y1.1.1,y1.1.2.1,()),((),()))
 else
  (g127 m (decide (a<0)) ([w_u32 (qy .u64 (w_u64 a) 4294967295),w_u32 (shr_ .u64 (w_u64 a) 32)]:List Int)).bind fun y2=>
  some ((y2.1.1,y2.1.2.1,()),((),()))
def g82 (m:Nat) (a:Int):Option (Bool×Unit×Unit):=
 some ((qy .u64 a 9223372036854775808) !=0,((),()))
def g128 (m:Nat) (a:List Int):Option (List Int×Unit×Unit):=
 if([]:List Int).length+a.length≤1073741824 then some (a,((),()))else none
def g83 (m:Nat) (a:Bool) (b:List Int):Option ((Bool×List Int×Unit)×Unit×Unit):=
 (g128 m b).bind fun y1=>
 (g127 m (!a) y1.1).bind fun y2=>
 some ((y2.1.1,y2.1.2.1,()),((),()))
def g79 (m:Nat):Option ((Bool×Bool×List Int×Int×Unit)×Unit):=
 some ((true,false,([]:List Int),0,()),())
def g123 (m:Nat) (a:Bool) (b:List Int):Option ((Bool×List Int×Unit)×Unit×Unit):=
 (g128 m b).bind fun y1=>
 (g127 m a y1.1).bind fun y2=>
 some ((y2.1.1,y2.1.2.1,()),((),()))
def g97 (m:Nat) (a:Bool) (b:List Int):Option (Int×Unit×Unit):=
 (g139 m b).bind fun y1=>
 bif (y1.1.length:Int)==0 then
  some (0,((),()))
 else
  bif a then
   some ((-1),((),()))
  else
   some (1,((),()))
def g159 (m:Nat) (a:Int):Option (Int×Unit×Unit):=
 bif a==0 then
  some (32,((),()))
 else
  if(0:Int)≤27 then
  if(0:Int)≤(shr_ .u32 (w_u32 ((qy .u32 a (w_u32 (0-a)))*125613361)) 27)∧(shr_ .u32 (w_u32 ((qy .u32 a (w_u32 (0-a)))*125613361)) 27)<(q33.length:Int)then
  some (w_i64 (q33.getD (shr_ .u32 (w_u32 ((qy .u32 a (w_u32 (0-a)))*125613361)) 27).toNat 0),((),()))
  else none
  else none
def g124_L0 (m:Nat):Nat→List Int→Int→Int→Option ((Int×Unit)⊕Unit⊕Empty)
 |0,_,_,_=>none
 |n+1,a,b,c=>
  bif decide (c<b)then
   if(0:Int)≤c∧c<(a.length:Int)then
   bif (a.getD c.toNat 0) !=0 then
    (g159 m (a.getD c.toNat 0)).bind fun y1=>
    some (.inl (w_i64 ((w_i64 (c*32))+y1.1),()))
   else
    g124_L0 m n a b (w_i64 (c+1))
   else none
  else
   some (.inr (.inl ()))
def g124 (m:Nat) (a:Bool) (b:List Int):Option (Int×Unit×Unit):=
 (g124_L0 m m b (b.length:Int) 0).bind fun y1=>
 match y1 with
 | .inl z2=>
  some (z2.1,((),()))
 | .inr (.inl z3)=>
  some (0,((),()))
 | .inr (.inr e)=>
  e.elim
def g168 (m:Nat) (a:Int):Option (Int×Unit×Unit):=
 bif decide (a≥65536)then
  bif decide ((shr_ .u32 a 16)≥256)then
   if(0:Int)≤(w_u8 (shr_ .u32 (shr_ .u32 a 16) 8))∧(w_u8 (shr_ .u32 (shr_ .u32 a 16) 8))<(Xd.length:Int)then
   some (w_i64 (24+(w_i64 (Xd.getD (w_u8 (shr_ .u32 (shr_ .u32 a 16) 8)).toNat 0))),((),()))
   else none
  else
   if(0:Int)≤(w_u8 (shr_ .u32 a 16))∧(w_u8 (shr_ .u32 a 16))<(Xd.length:Int)then
   some (w_i64 (16+(w_i64 (Xd.getD (w_u8 (shr_ .u32 a 16)).toNat 0))),((),()))
   else none
 else
  bif decide (a≥256)then
   if(0:Int)≤(w_u8 (shr_ .u32 a 8))∧(w_u8 (shr_ .u32 a 8))<(Xd.length:Int)then
   some (w_i64 (8+(w_i64 (Xd.getD (w_u8 (shr_ .u32 a 8)).toNat 0))),((),()))
   else none
  else
   if(0:Int)≤(w_u8 a)∧(w_u8 a)<(Xd.length:Int)then
   some (w_i64 (0+(w_i64 (Xd.getD (w_u8 a).toNat 0))),((),()))
   else none
def g160 (m:Nat) (a:List Int):Option (Int×Unit×Unit):=
 bif (a.length:Int)==0 then
  some (0,((),()))
 else
  if(0:Int)≤(w_i64 ((a.length:Int)-1))∧(w_i64 ((a.length:Int)-1))<(a.length:Int)then
  (g168 m (a.getD (w_i64 ((a.length:Int)-1)).toNat 0)).bind fun y1=>
  some (w_i64 ((w_i64 ((w_i64 ((a.length:Int)-1))*32))+y1.1),((),()))
  else none
def g125 (m:Nat) (a:Bool) (b:List Int):Option (Int×Unit×Unit):=
 (g139 m b).bind fun y1=>
 (g160 m y1.1).bind fun y2=>
 some (y2.1,((),()))
def g173_L0 (m:Nat):Nat→Int→Int→List Int→List Int→Int→Int→Option ((List Int×Unit)⊕Empty)
 |0,_,_,_,_,_,_=>none
 |n+1,a,b,c,d,f,h=>
  bif decide (h<f)then
   if(0:Int)≤h∧h<(d.length:Int)then
   if(0:Int)≤b then
   if(0:Int)≤(w_i64 (a+h))∧(w_i64 (a+h))<(c.length:Int)then
   if(0:Int)≤(w_i64 (a+h))∧(w_i64 (a+h))<(c.length:Int)then
   if(0:Int)≤(w_i64 ((w_i64 (a+h))+1))∧(w_i64 ((w_i64 (a+h))+1))<((c.set (0+(w_i64 (a+h)).toNat) (b_or_ .u32 (c.getD (0+(w_i64 (a+h)).toNat) 0) (w_u32 (qy .u64 (shl_ .u64 (w_u64 (d.getD h.toNat 0)) b) 4294967295)))).length:Int)then
   g173_L0 m n a b ((c.set (0+(w_i64 (a+h)).toNat) (b_or_ .u32 (c.getD (0+(w_i64 (a+h)).toNat) 0) (w_u32 (qy .u64 (shl_ .u64 (w_u64 (d.getD h.toNat 0)) b) 4294967295)))).set (0+(w_i64 ((w_i64 (a+h))+1)).toNat) (w_u32 (shr_ .u64 (shl_ .u64 (w_u64 (d.getD h.toNat 0)) b) 32))) d f (w_i64 (h+1))
   else none
   else none
   else none
   else none
   else none
  else
   some (.inl (c,()))
def g173 (m:Nat) (a:List Int) (b:Int):Option (List Int×Unit×Unit×Unit):=
 bif (a.length:Int)==0 then
  some (([]:List Int),((),(),()))
 else
  if(0:Int)≤(w_i64 ((w_i64 ((w_i64 (Int.tdiv b 32))+(a.length:Int)))+1))∧(w_i64 ((w_i64 ((w_i64 (Int.tdiv b 32))+(a.length:Int)))+1))≤(w_i64 ((w_i64 ((w_i64 (Int.tdiv b 32))+(a.length:Int)))+1))∧(w_i64 ((w_i64 ((w_i64 (Int.tdiv b 32))+(a.length:Int)))+1))≤1073741824 then
  (g173_L0 m m (w_i64 (Int.tdiv b 32)) (w_u64 (Int.tmod b 32)) (List.replicate (w_i64 ((w_i64 ((w_i64 (Int.tdiv b 32))+(a.length:Int)))+1)).toNat (0:Int)) a (a.length:Int) 0).bind fun y1=>
  match y1 with
  | .inl z2=>
   (g139 m z2.1).bind fun y3=>
   some (y3.1,((),(),()))
  | .inr e=>
   e.elim
  else none
def g182 (m:Nat) (a:Int):Option (Bool×Unit×Unit):=
 some (a !=0,((),()))
def g184_L0 (m:Nat):Nat→List Int→Int→Int→Option ((Int×Unit)⊕Unit⊕Empty)
 |0,_,_,_=>none
 |n+1,a,b,c=>
  bif decide (c<b)then
   if(0:Int)≤c∧c<(a.length:Int)then
   (g182 m (a.getD c.toNat 0)).bind fun y1=>
   bif y1.1 then
    some (.inl (c,()))
   else
    g184_L0 m n a b (w_i64 (c+1))
   else none
  else
   some (.inr (.inl ()))
def g184 (m:Nat) (a:List Int):Option (Int×Unit×Unit×Unit):=
 (g184_L0 m m a (a.length:Int) 0).bind fun y1=>
 match y1 with
 | .inl z2=>
  some (z2.1,((),(),()))
 | .inr (.inl z3)=>
  some ((-1),((),(),()))
 | .inr (.inr e)=>
  e.elim
def g181 (m:Nat) (a:List Int):Option (Bool×Unit×Unit×Unit):=
 (g184 m a).bind fun y1=>
 some (decide (y1.1≥0),((),(),()))
def g174_L0 (m:Nat):Nat→List Int→Int→Int→Bool→List Int→Int→Int→Option ((Bool×List Int×Unit)⊕Empty)
 |0,_,_,_,_,_,_,_=>none
 |n+1,a,b,c,d,f,h,i=>
  bif decide (i<h)then
   if(0:Int)≤(w_i64 (b+i))∧(w_i64 (b+i))<(a.length:Int)then
   bif decide ((w_i64 ((w_i64 (b+i))+1))<(a.length:Int))then
    if(0:Int)≤(w_i64 ((w_i64 (b+i))+1))∧(w_i64 ((w_i64 (b+i))+1))<(a.length:Int)then
    if(0:Int)≤c then
    if(0:Int)≤i∧i<(f.length:Int)then
    g174_L0 m n a b c d (f.set (0+i.toNat) (w_u32 (qy .u64 (shr_ .u64 (b_or_ .u64 (w_u64 (a.getD (w_i64 (b+i)).toNat 0)) (shl_ .u64 (w_u64 (a.getD (w_i64 ((w_i64 (b+i))+1)).toNat 0)) 32)) c) 4294967295))) h (w_i64 (i+1))
    else none
    else none
    else none
   else
    if(0:Int)≤c then
    if(0:Int)≤i∧i<(f.length:Int)then
    g174_L0 m n a b c d (f.set (0+i.toNat) (w_u32 (qy .u64 (shr_ .u64 (w_u64 (a.getD (w_i64 (b+i)).toNat 0)) c) 4294967295))) h (w_i64 (i+1))
    else none
    else none
   else none
  else
   some (.inl (d,f,()))
def g174 (m:Nat) (a:List Int) (b:Int):Option ((List Int×Bool×Unit)×Unit×Unit×Unit):=
 bif decide ((w_i64 (Int.tdiv b 32))≥(a.length:Int))then
  some ((([]:List Int),decide ((a.length:Int)>0),()),((),(),()))
 else
  if(0:Int)≤0∧0≤(w_i64 (Int.tdiv b 32))∧(w_i64 (Int.tdiv b 32))≤(a.length:Int)then
  (g181 m (a.take (w_i64 (Int.tdiv b 32)).toNat)).bind fun y1=>
  bif y1.1 then
   if(0:Int)≤(w_i64 ((a.length:Int)-(w_i64 (Int.tdiv b 32))))∧(w_i64 ((a.length:Int)-(w_i64 (Int.tdiv b 32))))≤(w_i64 ((a.length:Int)-(w_i64 (Int.tdiv b 32))))∧(w_i64 ((a.length:Int)-(w_i64 (Int.tdiv b 32))))≤1073741824 then
   (g174_L0 m m a (w_i64 (Int.tdiv b 32)) (w_u64 (Int.tmod b 32)) true (List.replicate (w_i64 ((a.length:Int)-(w_i64 (Int.tdiv b 32)))).toNat (0:Int)) ((List.replicate (w_i64 ((a.length:Int)-(w_i64 (Int.tdiv b 32)))).toNat (0:Int)).length:Int) 0).bind fun y2=>
   match y2 with
   | .inl z3=>
    (g139 m z3.2.1).bind fun y4=>
    some ((y4.1,z3.1,()),((),(),()))
   | .inr e=>
    e.elim
   else none
  else
   if(0:Int)≤(w_i64 (Int.tdiv b 32))∧(w_i64 (Int.tdiv b 32))<(a.length:Int)then
   if(0:Int)≤(w_u64 (Int.tmod b 32))then
   if(0:Int)≤(w_i64 ((a.length:Int)-(w_i64 (Int.tdiv b 32))))∧(w_i64 ((a.length:Int)-(w_i64 (Int.tdiv b 32))))≤(w_i64 ((a.length:Int)-(w_i64 (Int.tdiv b 32))))∧(w_i64 ((a.length:Int)-(w_i64 (Int.tdiv b 32))))≤1073741824 then
   (g174_L0 m m a (w_i64 (Int.tdiv b 32)) (w_u64 (Int.tmod b 32)) ((qy .u32 (a.getD (w_i64 (Int.tdiv b 32)).toNat 0) (w_u32 ((shl_ .u32 1 (w_u64 (Int.tmod b 32)))-1))) !=0) (List.replicate (w_i64 ((a.length:Int)-(w_i64 (Int.tdiv b 32)))).toNat (0:Int)) ((List.replicate (w_i64 ((a.length:Int)-(w_i64 (Int.tdiv b 32)))).toNat (0:Int)).length:Int) 0).bind fun y5=>
   match y5 with
   | .inl z6=>
    (g139 m z6.2.1).bind fun y7=>
    some ((y7.1,z6.1,()),((),(),()))
   | .inr e=>
    e.elim
   else none
   else none
   else none
  else none
def g175_L0 (m:Nat):Nat→List Int→List Int→Int→List Int→Int→Int→Option ((List Int×Int×Unit)⊕Empty)
 |0,_,_,_,_,_,_=>none
 |n+1,a,b,c,d,f,h=>
  bif decide (h<f)then
   if(0:Int)≤h∧h<(d.length:Int)then
   bif decide (h<(a.length:Int))then
    if(0:Int)≤h∧h<(a.length:Int)then
    if b.length+([w_u32 (qy .u64 (w_u64 ((w_u64 ((w_u64 (d.getD h.toNat 0))+c))+(w_u64 (a.getD h.toNat 0)))) 4294967295)]:List Int).length≤1073741824 then
    g175_L0 m n a (b++([w_u32 (qy .u64 (w_u64 ((w_u64 ((w_u64 (d.getD h.toNat 0))+c))+(w_u64 (a.getD h.toNat 0)))) 4294967295)]:List Int)) (shr_ .u64 (w_u64 ((w_u64 ((w_u64 (d.getD h.toNat 0))+c))+(w_u64 (a.getD h.toNat 0)))) 32) d f (w_i64 (h+1))
    else none
    else none
   else
    if b.length+([w_u32 (qy .u64 (w_u64 ((w_u64 (d.getD h.toNat 0))+c)) 4294967295)]:List Int).length≤1073741824 then
    g175_L0 m n a (b++([w_u32 (qy .u64 (w_u64 ((w_u64 (d.getD h.toNat 0))+c)) 4294967295)]:List Int)) (shr_ .u64 (w_u64 ((w_u64 (d.getD h.toNat 0))+c)) 32) d f (w_i64 (h+1))
    else none
   else none
  else
   some (.inl (b,c,()))
def g175 (m:Nat) (a:List Int) (b:List Int):Option (List Int×Unit×Unit×Unit):=
 bif decide ((a.length:Int)<(b.length:Int))then
  if(0:Int)≤0∧0≤(w_i64 ((b.length:Int)+1))∧(w_i64 ((b.length:Int)+1))≤1073741824 then
  (g175_L0 m m a (List.replicate 0 (0:Int)) 0 b (b.length:Int) 0).bind fun y1=>
  match y1 with
  | .inl z2=>
   if z2.1.length+([w_u32 z2.2.1]:List Int).length≤1073741824 then
   (g139 m (z2.1++([w_u32 z2.2.1]:List Int))).bind fun y3=>
   some (y3.1,((),(),()))
   else none
  | .inr e=>
   e.elim
  else none
 else
  if(0:Int)≤0∧0≤(w_i64 ((a.length:Int)+1))∧(w_i64 ((a.length:Int)+1))≤1073741824 then
  (g175_L0 m m b (List.replicate 0 (0:Int)) 0 a (a.length:Int) 0).bind fun y4=>
  match y4 with
  | .inl z5=>
   if z5.1.length+([w_u32 z5.2.1]:List Int).length≤1073741824 then
   (g139 m (z5.1++([w_u32 z5.2.1]:List Int))).bind fun y6=>
   some (y6.1,((),(),()))
   else none
  | .inr e=>
   e.elim
  else none
def g161 (m:Nat) (a:Bool) (b:List Int) (c:Int):Option (((Bool×List Int×Unit)×Int×Unit)×Unit×Unit×Unit):=
 bif decide (c<(-1048576))then
  some (((false,([]:List Int),()),3,()),((),(),()))
 else
  bif decide (c>1048576)then
   some (((false,([]:List Int),()),3,()),((),(),()))
  else
   (g139 m b).bind fun y1=>
   bif decide (c≥0)then
    (g173 m y1.1 c).bind fun y2=>
    (g127 m a y2.1).bind fun y3=>
    some (((y3.1.1,y3.1.2.1,()),0,()),((),(),()))
   else
    (g174 m y1.1 (w_i64 (0-c))).bind fun y4=>
    bif a then
     bif y4.1.2.1 then
      (g175 m y4.1.1 ([1]:List Int)).bind fun y5=>
      (g127 m a y5.1).bind fun y6=>
      some (((y6.1.1,y6.1.2.1,()),0,()),((),(),()))
     else
      (g127 m a y4.1.1).bind fun y7=>
      some (((y7.1.1,y7.1.2.1,()),0,()),((),(),()))
    else
     (g127 m a y4.1.1).bind fun y8=>
     some (((y8.1.1,y8.1.2.1,()),0,()),((),(),()))
def g126_L0 (m:Nat):Nat→Int→Bool→List Int→Bool→List Int→Option ((Int×(Bool×List Int×Unit)×(Bool×List Int×Unit)×Unit)⊕Empty)
 |0,_,_,_,_,_=>none
 |n+1,a,b,c,d,f=>
  bif decide (a>1048576)then
   (g161 m b c (-1048576)).bind fun y1=>
   g126_L0 m n (w_i64 (a-1048576)) y1.1.1.1 y1.1.1.2.1 d f
  else
   some (.inl (a,(b,c,()),(d,f,()),()))
def g126 (m:Nat) (a:Bool) (b:List Int) (c:Int):Option ((Bool×List Int×Unit)×Unit×Unit×Unit):=
 (g126_L0 m m c a b false ([]:List Int)).bind fun y1=>
 match y1 with
 | .inl z2=>
  (g161 m z2.2.1.1 z2.2.1.2.1 (w_i64 (0-z2.1))).bind fun y3=>
  some ((y3.1.1.1,y3.1.1.2.1,()),((),(),()))
 | .inr e=>
  e.elim
def g78 (m:Nat) (a:Bool) (b:Bool) (c:List Int) (d:Int):Option (((Bool×Bool×List Int×Int×Unit)×Bool×Unit)×Unit×Unit):=
 bif a then
  (g79 m).bind fun y1=>
  some (((y1.1.1,y1.1.2.1,y1.1.2.2.1,y1.1.2.2.2.1,()),false,()),((),()))
 else
  (g123 m b c).bind fun y2=>
  (g97 m y2.1.1 y2.1.2.1).bind fun y3=>
  bif y3.1==0 then
   some (((false,false,([]:List Int),0,()),true,()),((),()))
  else
   (g124 m y2.1.1 y2.1.2.1).bind fun y4=>
   (g125 m y2.1.1 y2.1.2.1).bind fun y5=>
   bif decide (d>(w_i64 (65536-y5.1)))then
    (g79 m).bind fun y6=>
    some (((y6.1.1,y6.1.2.1,y6.1.2.2.1,y6.1.2.2.2.1,()),false,()),((),()))
   else
    bif decide (d<(w_i64 ((-65536)-y4.1)))then
     (g79 m).bind fun y7=>
     some (((y7.1.1,y7.1.2.1,y7.1.2.2.1,y7.1.2.2.2.1,()),false,()),((),()))
    else
     (g126 m y2.1.1 y2.1.2.1 y4.1).bind fun y8=>
     some (((false,y8.1.1,y8.1.2.1,w_i64 (d+y4.1),()),true,()),((),()))
def g80 (m:Nat) (a:Bool) (b:List Int) (c:Int):Option ((Bool×Bool×List Int×Int×Unit)×Unit×Unit×Unit):=
 (g78 m false a b c).bind fun y1=>
 some ((y1.1.1.1,y1.1.1.2.1,y1.1.1.2.2.1,y1.1.1.2.2.2.1,()),((),(),()))
def g34 (m:Nat) (a:Int):Option ((Bool×Bool×List Int×Int×Unit)×Unit×Unit):=
 (g77 m a).bind fun y1=>
 bif y1.1.1==2047 then
  some ((true,false,([]:List Int),0,()),((),()))
 else
  bif y1.1.1==0 then
   (g81 m (w_i64 y1.1.2.1)).bind fun y2=>
   (g82 m a).bind fun y3=>
   bif y3.1 then
    (g83 m y2.1.1 y2.1.2.1).bind fun y4=>
    (g80 m y4.1.1 y4.1.2.1 (-1074)).bind fun y5=>
    some ((y5.1.1,y5.1.2.1,y5.1.2.2.1,y5.1.2.2.2.1,()),((),()))
   else
    (g80 m y2.1.1 y2.1.2.1 (-1074)).bind fun y6=>
    some ((y6.1.1,y6.1.2.1,y6.1.2.2.1,y6.1.2.2.2.1,()),((),()))
  else
   (g81 m (w_i64 (b_or_ .u64 y1.1.2.1 4503599627370496))).bind fun y7=>
   (g82 m a).bind fun y8=>
   bif y8.1 then
    (g83 m y7.1.1 y7.1.2.1).bind fun y9=>
    (g80 m y9.1.1 y9.1.2.1 (w_i64 (y1.1.1-1075))).bind fun y10=>
    some ((y10.1.1,y10.1.2.1,y10.1.2.2.1,y10.1.2.2.2.1,()),((),()))
   else
    (g80 m y7.1.1 y7.1.2.1 (w_i64 (y1.1.1-1075))).bind fun y11=>
    some ((y11.1.1,y11.1.2.1,y11.1.2.2.1,y11.1.2.2.2.1,()),((),()))
def g136 (m:Nat) (a:Bool) (b:Bool) (c:List Int) (d:Int):Option ((Int×Bool×Unit)×Unit×Unit):=
 (g78 m a b c d).bind fun y1=>
 bif !y1.1.2.1 then
  some ((0,false,()),((),()))
 else
  (g97 m y1.1.1.2.1 y1.1.1.2.2.1).bind fun y2=>
  bif y2.1==0 then
   some ((0,false,()),((),()))
  else
   (g125 m y1.1.1.2.1 y1.1.1.2.2.1).bind fun y3=>
   some ((w_i64 ((w_i64 (y1.1.1.2.2.2.1+y3.1))-1),true,()),((),()))
def g88 (m:Nat) (a:Int):Option ((Int×Bool×Unit)×Unit×Unit):=
 (g34 m a).bind fun y1=>
 (g136 m y1.1.1 y1.1.2.1 y1.1.2.2.1 y1.1.2.2.2.1).bind fun y2=>
 some ((y2.1.1,y2.1.2.1,()),((),()))
def g39_L0 (m:Nat):Nat→(List (List (Int×Int)))→(List (Int×Int×Int))→Int→Int→Option (((List (List (Int×Int)))×Unit)⊕Empty)
 |0,_,_,_,_=>none
 |n+1,a,b,c,d=>
  bif decide (d<c)then
   if(0:Int)≤d∧d<(b.length:Int)then
   (g88 m (b.getD (0+d.toNat) (0,(0,0))).2.2).bind fun y1=>
   bif y1.1.2.1 then
    if(0:Int)≤(b.getD (0+d.toNat) (0,(0,0))).2.1∧(b.getD (0+d.toNat) (0,(0,0))).2.1<(a.length:Int)then
    if(a.getD (b.getD (0+d.toNat) (0,(0,0))).2.1.toNat ([]:List (Int×Int))).length+([((b.getD (0+d.toNat) (0,(0,0))).1,y1.1.1)]:List (Int×Int)).length≤1073741824 then
    if(0:Int)≤(b.getD (0+d.toNat) (0,(0,0))).2.1∧(b.getD (0+d.toNat) (0,(0,0))).2.1<(a.length:Int)then
    if(b.getD (0+d.toNat) (0,(0,0))).2.1.toNat=(b.getD (0+d.toNat) (0,(0,0))).2.1.toNat then
    g39_L0 m n (a.set (b.getD (0+d.toNat) (0,(0,0))).2.1.toNat ((a.getD (b.getD (0+d.toNat) (0,(0,0))).2.1.toNat ([]:List (Int×Int)))++([((b.getD (0+d.toNat) (0,(0,0))).1,y1.1.1)]:List (Int×Int)))) b c (w_i64 (d+1))
    else none
    else none
    else none
    else none
   else
    g39_L0 m n a b c (w_i64 (d+1))
   else none
  else
   some (.inl (a,()))
def g39 (m:Nat) (a:Int) (b:Int) (c:List Int) (d:List Int) (f:List Int):Option ((List (List (Int×Int)))×Unit×Unit):=
 if(0:Int)≤b∧b≤b∧b≤1073741824 then
 (g87 m a b c d f).bind fun y1=>
 (g39_L0 m m (List.replicate b.toNat ([]:List (Int×Int))) y1.1 (y1.1.length:Int) 0).bind fun y2=>
 match y2 with
 | .inl z3=>
  some (z3.1,((),()))
 | .inr e=>
  e.elim
 else none
def g85_L0 (m:Nat):Nat→Int→List Int→Int→Int→Option ((List Int×Unit)⊕Empty)
 |0,_,_,_,_=>none
 |n+1,a,b,c,d=>
  bif decide (d<c)then
   if(0:Int)≤d∧d<(b.length:Int)then
   g85_L0 m n a (b.set (0+d.toNat) a) c (w_i64 (d+1))
   else none
  else
   some (.inl (b,()))
def g85 (m:Nat) (a:Int) (b:Int):Option (List Int×Unit×Unit×Unit):=
 if(0:Int)≤a∧a≤a∧a≤1073741824 then
 (g85_L0 m m b (List.replicate a.toNat (0:Int)) ((List.replicate a.toNat (0:Int)).length:Int) 0).bind fun y1=>
 match y1 with
 | .inl z2=>
  some (z2.1,((),(),()))
 | .inr e=>
  e.elim
 else none
def g134_L0 (m:Nat):Nat→(List (List (Int×Int)))→List Int→List Int→List Int→List Int→List Int→Int→List Bool→Int→Int→Option ((((List (List (Int×Int)))×List Int×List Int×List Int×List Int×Unit)×Unit)⊕Empty)
 |0,_,_,_,_,_,_,_,_,_,_=>none
 |n+1,a,b,c,d,f,h,i,j,k,l=>
  bif decide (l<k)then
   if(0:Int)≤l∧l<(j.length:Int)then
   bif j.getD l.toNat false then
    if(0:Int)≤l∧l<(b.length:Int)then
    if(0:Int)≤l∧l<(h.length:Int)then
    if(0:Int)≤l∧l<(b.length:Int)then
    if(0:Int)≤l∧l<(f.length:Int)then
    bif (f.getD (0+l.toNat) 0) !=(-1)then
     if(0:Int)≤(f.getD (0+l.toNat) 0)∧(f.getD (0+l.toNat) 0)<(c.length:Int)then
     if(0:Int)≤l∧l<(h.length:Int)then
     if(0:Int)≤(f.getD (0+l.toNat) 0)∧(f.getD (0+l.toNat) 0)<(c.length:Int)then
     g134_L0 m n a (b.set (0+l.toNat) (w_i64 ((b.getD (0+l.toNat) 0)+(w_i64 (i-(h.getD l.toNat 0)))))) (c.set (0+(f.getD (0+l.toNat) 0).toNat) (w_i64 ((c.getD (0+(f.getD (0+l.toNat) 0).toNat) 0)-(w_i64 (i-(h.getD l.toNat 0)))))) d f h i j k (w_i64 (l+1))
     else none
     else none
     else none
    else
     g134_L0 m n a (b.set (0+l.toNat) (w_i64 ((b.getD (0+l.toNat) 0)+(w_i64 (i-(h.getD l.toNat 0)))))) c d f h i j k (w_i64 (l+1))
    else none
    else none
    else none
    else none
   else
    g134_L0 m n a b c d f h i j k (w_i64 (l+1))
   else none
  else
   some (.inl ((a,b,c,d,f,()),()))
def g134 (m:Nat) (a:List (List (Int×Int))) (b:List Int) (c:List Int) (d:List Int) (f:List Int) (h:Int) (i:List Int) (j:List Bool) (k:Int):Option (Unit×((List (List (Int×Int)))×List Int×List Int×List Int×List Int×Unit)×Unit×Unit×Unit×Unit×Unit):=
 if(0:Int)≤h∧h<(c.length:Int)then
 if(0:Int)≤h∧h<(c.length:Int)then
 (g134_L0 m m a b (c.set (0+h.toNat) (w_i64 ((c.getD (0+h.toNat) 0)-k))) d f i k j (j.length:Int) 0).bind fun y1=>
 match y1 with
 | .inl z2=>
  some ((),((z2.1.1,z2.1.2.1,z2.1.2.2.1,z2.1.2.2.2.1,z2.1.2.2.2.2.1,()),(),(),(),(),()))
 | .inr e=>
  e.elim
 else none
 else none
def g135_L0 (m:Nat):Nat→(List (List (Int×Int)))→List Int→List Int→List Int→List Int→Int→Int→List Int→Option ((((List (List (Int×Int)))×List Int×List Int×List Int×List Int×Unit)×Unit)⊕Empty)
 |0,_,_,_,_,_,_,_,_=>none
 |n+1,a,b,c,d,f,h,i,j=>
  if(0:Int)≤i∧i<(j.length:Int)then
  if(0:Int)≤(j.getD i.toNat 0)∧(j.getD i.toNat 0)<(d.length:Int)then
  if(0:Int)≤(j.getD i.toNat 0)∧(j.getD i.toNat 0)<(d.length:Int)then
  if(0:Int)≤i∧i<(f.length:Int)then
  bif (j.getD i.toNat 0)==h then
   some (.inl ((a,b,c,d.set (0+(j.getD i.toNat 0).toNat) i,f.set (0+i.toNat) (j.getD i.toNat 0),()),()))
  else
   g135_L0 m n a b c (d.set (0+(j.getD i.toNat 0).toNat) i) (f.set (0+i.toNat) (j.getD i.toNat 0)) h (d.getD (0+(j.getD i.toNat 0).toNat) 0) j
  else none
  else none
  else none
  else none
def g135 (m:Nat) (a:List (List (Int×Int))) (b:List Int) (c:List Int) (d:List Int) (f:List Int) (h:Int) (i:Int) (j:List Int):Option (Unit×((List (List (Int×Int)))×List Int×List Int×List Int×List Int×Unit)×Unit×Unit×Unit×Unit):=
 (g135_L0 m m a b c d f h i j).bind fun y1=>
 match y1 with
 | .inl z2=>
  some ((),((z2.1.1,z2.1.2.1,z2.1.2.2.1,z2.1.2.2.2.1,z2.1.2.2.2.2.1,()),(),(),(),()))
 | .inr e=>
  e.elim
def g86_L2 (m:Nat):Nat→(List (List (Int×Int)))→List Int→List Int→List Int→List Int→Int→Int→List Int→List Int→List Bool→Int→Int→Int→Option ((((List (List (Int×Int)))×List Int×List Int×List Int×List Int×Unit)×Int×Int×List Int×List Int×List Bool×Int×Unit)⊕Empty)
 |0,_,_,_,_,_,_,_,_,_,_,_,_,_=>none
 |n+1,a,b,c,d,f,h,i,j,k,l,o,p,q=>
  bif decide (q<p)then
   if(0:Int)≤q∧q<(l.length:Int)then
   bif !(l.getD (0+q.toNat) false)then
    if(0:Int)≤q∧q<(j.length:Int)then
    bif decide ((j.getD (0+q.toNat) 0)<1099511627776)then
     bif o==(-1)then
      g86_L2 m n a b c d f h i j k l q p (w_i64 (q+1))
     else
      if(0:Int)≤q∧q<(j.length:Int)then
      if(0:Int)≤o∧o<(j.length:Int)then
      bif decide ((j.getD (0+q.toNat) 0)<(j.getD (0+o.toNat) 0))then
       g86_L2 m n a b c d f h i j k l q p (w_i64 (q+1))
      else
       g86_L2 m n a b c d f h i j k l o p (w_i64 (q+1))
      else none
      else none
    else
     g86_L2 m n a b c d f h i j k l o p (w_i64 (q+1))
    else none
   else
    g86_L2 m n a b c d f h i j k l o p (w_i64 (q+1))
   else none
  else
   some (.inl ((a,b,c,d,f,()),h,i,j,k,l,o,()))
def g86_L1 (m:Nat):Nat→(List (List (Int×Int)))→List Int→List Int→List Int→List Int→Int→Int→List Int→List Int→List Bool→Int→Int→(List (Int×Int))→Int→Int→Option ((((List (List (Int×Int)))×List Int×List Int×List Int×List Int×Unit)×Int×Int×List Int×List Int×List Bool×Unit)⊕Empty)
 |0,_,_,_,_,_,_,_,_,_,_,_,_,_,_,_=>none
 |n+1,a,b,c,d,f,h,i,j,k,l,o,p,q,r,s=>
  bif decide (s<r)then
   if(0:Int)≤s∧s<(q.length:Int)then
   if(0:Int)≤(q.getD s.toNat (0,0)).1∧(q.getD s.toNat (0,0)).1<(b.length:Int)then
   if(0:Int)≤o∧o<(c.length:Int)then
   if(0:Int)≤(q.getD s.toNat (0,0)).1∧(q.getD s.toNat (0,0)).1<(l.length:Int)then
   bif !(l.getD (0+(q.getD s.toNat (0,0)).1.toNat) false)then
    if(0:Int)≤(q.getD s.toNat (0,0)).1∧(q.getD s.toNat (0,0)).1<(j.length:Int)then
    bif decide ((w_i64 ((w_i64 ((w_i64 (p+(b.getD (0+(q.getD s.toNat (0,0)).1.toNat) 0)))+(c.getD (0+o.toNat) 0)))-(q.getD s.toNat (0,0)).2))<(j.getD (0+(q.getD s.toNat (0,0)).1.toNat) 0))then
     if(0:Int)≤(q.getD s.toNat (0,0)).1∧(q.getD s.toNat (0,0)).1<(j.length:Int)then
     if(0:Int)≤(q.getD s.toNat (0,0)).1∧(q.getD s.toNat (0,0)).1<(k.length:Int)then
     g86_L1 m n a b c d f h i (j.set (0+(q.getD s.toNat (0,0)).1.toNat) (w_i64 ((w_i64 ((w_i64 (p+(b.getD (0+(q.getD s.toNat (0,0)).1.toNat) 0)))+(c.getD (0+o.toNat) 0)))-(q.getD s.toNat (0,0)).2))) (k.set (0+(q.getD s.toNat (0,0)).1.toNat) o) l o p q r (w_i64 (s+1))
     else none
     else none
    else
     g86_L1 m n a b c d f h i j k l o p q r (w_i64 (s+1))
    else none
   else
    g86_L1 m n a b c d f h i j k l o p q r (w_i64 (s+1))
   else none
   else none
   else none
   else none
  else
   some (.inl ((a,b,c,d,f,()),h,i,j,k,l,()))
def g86_L0 (m:Nat):Nat→(List (List (Int×Int)))→List Int→List Int→List Int→List Int→Int→Int→List Int→List Int→List Bool→Int→Int→Option ((((List (List (Int×Int)))×List Int×List Int×List Int×List Int×Unit)×Bool×Unit)⊕Empty)
 |0,_,_,_,_,_,_,_,_,_,_,_,_=>none
 |n+1,a,b,c,d,f,h,i,j,k,l,o,p=>
  if(0:Int)≤o∧o<(a.length:Int)then
  (g86_L1 m m a b c d f h i j k l o p (a.getD o.toNat ([]:List (Int×Int))) ((a.getD o.toNat ([]:List (Int×Int))).length:Int) 0).bind fun y1=>
  match y1 with
  | .inl z2=>
   (g86_L2 m m z2.1.1 z2.1.2.1 z2.1.2.2.1 z2.1.2.2.2.1 z2.1.2.2.2.2.1 z2.2.1 z2.2.2.1 z2.2.2.2.1 z2.2.2.2.2.1 z2.2.2.2.2.2.1 (-1) z2.2.2.1 0).bind fun y3=>
   match y3 with
   | .inl z4=>
    bif z4.2.2.2.2.2.2.1==(-1)then
     some (.inl ((z4.1.1,z4.1.2.1,z4.1.2.2.1,z4.1.2.2.2.1,z4.1.2.2.2.2.1,()),false,()))
    else
     if(0:Int)≤z4.2.2.2.2.2.2.1∧z4.2.2.2.2.2.2.1<(z4.2.2.2.1.length:Int)then
     if(0:Int)≤z4.2.2.2.2.2.2.1∧z4.2.2.2.2.2.2.1<(z4.2.2.2.2.2.1.length:Int)then
     if(0:Int)≤z4.2.2.2.2.2.2.1∧z4.2.2.2.2.2.2.1<(z4.1.2.2.2.2.1.length:Int)then
     bif (z4.1.2.2.2.2.1.getD (0+z4.2.2.2.2.2.2.1.toNat) 0)==(-1)then
      (g134 m z4.1.1 z4.1.2.1 z4.1.2.2.1 z4.1.2.2.2.1 z4.1.2.2.2.2.1 z4.2.1 z4.2.2.2.1 (z4.2.2.2.2.2.1.set (0+z4.2.2.2.2.2.2.1.toNat) true) (z4.2.2.2.1.getD (0+z4.2.2.2.2.2.2.1.toNat) 0)).bind fun y5=>
      (g135 m y5.2.1.1 y5.2.1.2.1 y5.2.1.2.2.1 y5.2.1.2.2.2.1 y5.2.1.2.2.2.2.1 z4.2.1 z4.2.2.2.2.2.2.1 z4.2.2.2.2.1).bind fun y6=>
      some (.inl ((y6.2.1.1,y6.2.1.2.1,y6.2.1.2.2.1,y6.2.1.2.2.2.1,y6.2.1.2.2.2.2.1,()),true,()))
     else
      if(0:Int)≤z4.2.2.2.2.2.2.1∧z4.2.2.2.2.2.2.1<(z4.1.2.2.2.2.1.length:Int)then
      g86_L0 m n z4.1.1 z4.1.2.1 z4.1.2.2.1 z4.1.2.2.2.1 z4.1.2.2.2.2.1 z4.2.1 z4.2.2.1 z4.2.2.2.1 z4.2.2.2.2.1 (z4.2.2.2.2.2.1.set (0+z4.2.2.2.2.2.2.1.toNat) true) (z4.1.2.2.2.2.1.getD (0+z4.2.2.2.2.2.2.1.toNat) 0) (z4.2.2.2.1.getD (0+z4.2.2.2.2.2.2.1.toNat) 0)
      else none
     else none
     else none
     else none
   | .inr e=>
    e.elim
  | .inr e=>
   e.elim
  else none
def g86 (m:Nat) (a:List (List (Int×Int))) (b:List Int) (c:List Int) (d:List Int) (f:List Int) (h:Int):Option (Bool×((List (List (Int×Int)))×List Int×List Int×List Int×List Int×Unit)×Unit×Unit):=
 (g85 m (a.length:Int) 1099511627776).bind fun y1=>
 (g85 m (a.length:Int) (-1)).bind fun y2=>
 if(0:Int)≤(a.length:Int)∧(a.length:Int)≤(a.length:Int)∧(a.length:Int)≤1073741824 then
 (g86_L0 m m a b c d f h (a.length:Int) y1.1 y2.1 (List.replicate (a.length:Int).toNat false) h 0).bind fun y3=>
 match y3 with
 | .inl z4=>
  some (z4.2.1,((z4.1.1,z4.1.2.1,z4.1.2.2.1,z4.1.2.2.2.1,z4.1.2.2.2.2.1,()),(),()))
 | .inr e=>
  e.elim
 else none
def g38_L2 (m:Nat):Nat→(List (List (Int×Int)))→List Int→List Int→List Int→List Int→Int→Int→Option ((Unit×Unit×Unit)⊕(((List (List (Int×Int)))×List Int×List Int×List Int×List Int×Unit)×Unit)⊕Empty)
 |0,_,_,_,_,_,_,_=>none
 |n+1,a,b,c,d,f,h,i=>
  bif decide (i<h)then
   (g86 m a b c d f i).bind fun y1=>
   bif !y1.1 then
    some (.inl ((),(),()))
   else
    g38_L2 m n y1.2.1.1 y1.2.1.2.1 y1.2.1.2.2.1 y1.2.1.2.2.2.1 y1.2.1.2.2.2.2.1 h (w_i64 (i+1))
  else
   some (.inr (.inl ((a,b,c,d,f,()),())))
def g38_L1 (m:Nat):Nat→Int→(List (List (Int×Int)))→List Int→List Int→List Int→List Int→Int→(List (List (Int×Int)))→Int→Int→(List (Int×Int))→Int→Int→Option ((Int×((List (List (Int×Int)))×List Int×List Int×List Int×List Int×Unit)×(List (List (Int×Int)))×Int×Int×Unit)⊕Empty)
 |0,_,_,_,_,_,_,_,_,_,_,_,_,_=>none
 |n+1,a,b,c,d,f,h,i,j,k,l,o,p,q=>
  bif decide (q<p)then
   if(0:Int)≤q∧q<(o.length:Int)then
   if(0:Int)≤i∧i<(d.length:Int)then
   if(0:Int)≤i∧i<(d.length:Int)then
   g38_L1 m n a b c (d.set (0+i.toNat) (if(o.getD q.toNat (0,0)).2>(d.getD (0+i.toNat) 0)then(o.getD q.toNat (0,0)).2 else(d.getD (0+i.toNat) 0))) f h i j k l o p (w_i64 (q+1))
   else none
   else none
   else none
  else
   some (.inl (a,(b,c,d,f,h,()),j,k,l,()))
def g38_L0 (m:Nat):Nat→Int→(List (List (Int×Int)))→List Int→List Int→List Int→List Int→(List (List (Int×Int)))→Int→Int→Option ((Unit×Unit×Unit)⊕(Int×((List (List (Int×Int)))×List Int×List Int×List Int×List Int×Unit)×Unit)⊕Empty)
 |0,_,_,_,_,_,_,_,_,_=>none
 |n+1,a,b,c,d,f,h,i,j,k=>
  bif decide (k<j)then
   if(0:Int)≤k∧k<(i.length:Int)then
   bif ((i.getD k.toNat ([]:List (Int×Int))).length:Int)==0 then
    some (.inl ((),(),()))
   else
    if(0:Int)≤0∧0<((i.getD k.toNat ([]:List (Int×Int))).length:Int)then
    if(0:Int)≤k∧k<(d.length:Int)then
    (g38_L1 m m a b c (d.set (0+k.toNat) ((i.getD k.toNat ([]:List (Int×Int))).getD 0 (0,0)).2) f h k i j k (i.getD k.toNat ([]:List (Int×Int))) ((i.getD k.toNat ([]:List (Int×Int))).length:Int) 0).bind fun y1=>
    match y1 with
    | .inl z2=>
     g38_L0 m n z2.1 z2.2.1.1 z2.2.1.2.1 z2.2.1.2.2.1 z2.2.1.2.2.2.1 z2.2.1.2.2.2.2.1 z2.2.2.1 z2.2.2.2.1 (w_i64 (z2.2.2.2.2.1+1))
    | .inr e=>
     e.elim
    else none
    else none
   else none
  else
   some (.inr (.inl (a,(b,c,d,f,h,()),())))
def g38 (m:Nat) (a:List (List (Int×Int))):Option (((Unit×Unit×Unit)⊕(((List (List (Int×Int)))×List Int×List Int×List Int×List Int×Unit)×Unit×Unit))×Unit×Unit):=
 (g85 m (a.length:Int) 0).bind fun y1=>
 (g85 m (a.length:Int) 0).bind fun y2=>
 (g85 m (a.length:Int) (-1)).bind fun y3=>
 (g85 m (a.length:Int) (-1)).bind fun y4=>
 (g38_L0 m m (a.length:Int) a y1.1 y2.1 y3.1 y4.1 a (a.length:Int) 0).bind fun y5=>
 match y5 with
 | .inl z6=>
  some (.inl (((),(),())),((),()))
 | .inr (.inl z7)=>
  (g38_L2 m m z7.2.1.1 z7.2.1.2.1 z7.2.1.2.2.1 z7.2.1.2.2.2.1 z7.2.1.2.2.2.2.1 z7.1 0).bind fun y8=>
  match y8 with
  | .inl z9=>
   some (.inl (((),(),())),((),()))
  | .inr (.inl z10)=>
   some (.inr (((z10.1.1,z10.1.2.1,z10.1.2.2.1,z10.1.2.2.2.1,z10.1.2.2.2.2.1,()),(),())),((),()))
  | .inr (.inr e)=>
   e.elim
 | .inr (.inr e)=>
  e.elim
def g89_L0 (self:(List (List (Int×Int)))→List Int→List Int→List Int→List Int→List (List Int)→Int→Int→Int→List Bool→Option (Bool×((List (List (Int×Int)))×List Int×List Int×List Int×List Int×Unit)×Unit×Unit×Unit×Unit×List Bool×Unit)) (m:Nat):Nat→(List (List (Int×Int)))→List Int→List Int→List Int→List Int→List (List Int)→Int→Int→Int→List Bool→List Int→Int→Int→Option ((((List (List (Int×Int)))×List Int×List Int×List Int×List Int×Unit)×List Bool×Bool×Unit)⊕(((List (List (Int×Int)))×List Int×List Int×List Int×List Int×Unit)×List Bool×Unit)⊕Empty)
 |0,_,_,_,_,_,_,_,_,_,_,_,_,_=>none
 |n+1,a,b,c,d,f,h,i,j,k,l,o,p,q=>
  bif decide (q<p)then
   if(0:Int)≤q∧q<(o.length:Int)then
   if(0:Int)≤(o.getD q.toNat 0)∧(o.getD q.toNat 0)<(l.length:Int)then
   bif l.getD (0+(o.getD q.toNat 0).toNat) false then
    g89_L0 self m n a b c d f h i j k l o p (w_i64 (q+1))
   else
    bif (o.getD q.toNat 0) !=k then
     if(0:Int)≤(o.getD q.toNat 0)∧(o.getD q.toNat 0)<(f.length:Int)then
     bif decide ((f.getD (0+(o.getD q.toNat 0).toNat) 0)≤j)then
      g89_L0 self m n a b c d f h i j k l o p (w_i64 (q+1))
     else
      if(0:Int)≤(o.getD q.toNat 0)∧(o.getD q.toNat 0)<(l.length:Int)then
      bif (o.getD q.toNat 0)==k then
       if(0:Int)≤i∧i<(d.length:Int)then
       if(0:Int)≤(o.getD q.toNat 0)∧(o.getD q.toNat 0)<(f.length:Int)then
       some (.inl ((a,b,c,d.set (0+i.toNat) (o.getD q.toNat 0),f.set (0+(o.getD q.toNat 0).toNat) i,()),l.set (0+(o.getD q.toNat 0).toNat) true,true,()))
       else none
       else none
      else
       if(0:Int)≤(o.getD q.toNat 0)∧(o.getD q.toNat 0)<(f.length:Int)then
       (self a b c d f h (f.getD (0+(o.getD q.toNat 0).toNat) 0) j k (l.set (0+(o.getD q.toNat 0).toNat) true)).bind fun y1=>
       bif y1.1 then
        if(0:Int)≤i∧i<(y1.2.1.2.2.2.1.length:Int)then
        if(0:Int)≤(o.getD q.toNat 0)∧(o.getD q.toNat 0)<(y1.2.1.2.2.2.2.1.length:Int)then
        some (.inl ((y1.2.1.1,y1.2.1.2.1,y1.2.1.2.2.1,y1.2.1.2.2.2.1.set (0+i.toNat) (o.getD q.toNat 0),y1.2.1.2.2.2.2.1.set (0+(o.getD q.toNat 0).toNat) i,()),y1.2.2.2.2.2.2.1,true,()))
        else none
        else none
       else
        g89_L0 self m n y1.2.1.1 y1.2.1.2.1 y1.2.1.2.2.1 y1.2.1.2.2.2.1 y1.2.1.2.2.2.2.1 h i j k y1.2.2.2.2.2.2.1 o p (w_i64 (q+1))
       else none
      else none
     else none
    else
     if(0:Int)≤(o.getD q.toNat 0)∧(o.getD q.toNat 0)<(l.length:Int)then
     bif (o.getD q.toNat 0)==k then
      if(0:Int)≤i∧i<(d.length:Int)then
      if(0:Int)≤(o.getD q.toNat 0)∧(o.getD q.toNat 0)<(f.length:Int)then
      some (.inl ((a,b,c,d.set (0+i.toNat) (o.getD q.toNat 0),f.set (0+(o.getD q.toNat 0).toNat) i,()),l.set (0+(o.getD q.toNat 0).toNat) true,true,()))
      else none
      else none
     else
      if(0:Int)≤(o.getD q.toNat 0)∧(o.getD q.toNat 0)<(f.length:Int)then
      (self a b c d f h (f.getD (0+(o.getD q.toNat 0).toNat) 0) j k (l.set (0+(o.getD q.toNat 0).toNat) true)).bind fun y2=>
      bif y2.1 then
       if(0:Int)≤i∧i<(y2.2.1.2.2.2.1.length:Int)then
       if(0:Int)≤(o.getD q.toNat 0)∧(o.getD q.toNat 0)<(y2.2.1.2.2.2.2.1.length:Int)then
       some (.inl ((y2.2.1.1,y2.2.1.2.1,y2.2.1.2.2.1,y2.2.1.2.2.2.1.set (0+i.toNat) (o.getD q.toNat 0),y2.2.1.2.2.2.2.1.set (0+(o.getD q.toNat 0).toNat) i,()),y2.2.2.2.2.2.2.1,true,()))
       else none
       else none
      else
       g89_L0 self m n y2.2.1.1 y2.2.1.2.1 y2.2.1.2.2.1 y2.2.1.2.2.2.1 y2.2.1.2.2.2.2.1 h i j k y2.2.2.2.2.2.2.1 o p (w_i64 (q+1))
      else none
     else none
   else none
   else none
  else
   some (.inr (.inl ((a,b,c,d,f,()),l,())))
def g89:Nat→(List (List (Int×Int)))→List Int→List Int→List Int→List Int→List (List Int)→Int→Int→Int→List Bool→Option (Bool×((List (List (Int×Int)))×List Int×List Int×List Int×List Int×Unit)×Unit×Unit×Unit×Unit×List Bool×Unit)
 |0,_,_,_,_,_,_,_,_,_,_=>none
 |m+1,a,b,c,d,f,h,i,j,k,l=>
  if(0:Int)≤i∧i<(h.length:Int)then
  (g89_L0 (fun a0 a1 a2 a3 a4 a5 a6 a7 a8 a9=>g89 m a0 a1 a2 a3 a4 a5 a6 a7 a8 a9) m m a b c d f h i j k l (h.getD i.toNat ([]:List Int)) ((h.getD i.toNat ([]:List Int)).length:Int) 0).bind fun y1=>
  match y1 with
  | .inl z2=>
   some (z2.2.2.1,((z2.1.1,z2.1.2.1,z2.1.2.2.1,z2.1.2.2.2.1,z2.1.2.2.2.2.1,()),(),(),(),(),z2.2.1,()))
  | .inr (.inl z3)=>
   some (false,((z3.1.1,z3.1.2.1,z3.1.2.2.1,z3.1.2.2.2.1,z3.1.2.2.2.2.1,()),(),(),(),(),z3.2.1,()))
  | .inr (.inr e)=>
   e.elim
  else none
def g40_L3 (m:Nat):Nat→(List (List (Int×Int)))→List Int→List Int→List Int→List Int→List (List Int)→Int→Int→Int→List Int→Int→Int→Option ((((List (List (Int×Int)))×List Int×List Int×List Int×List Int×Unit)×List (List Int)×Int×Int×Unit)⊕Empty)
 |0,_,_,_,_,_,_,_,_,_,_,_,_=>none
 |n+1,a,b,c,d,f,h,i,j,k,l,o,p=>
  bif decide (p<o)then
   if(0:Int)≤p∧p<(l.length:Int)then
   if(0:Int)≤i∧i<(d.length:Int)then
   bif (l.getD p.toNat 0)==(d.getD (0+i.toNat) 0)then
    some (.inl ((a,b,c,d,f,()),h,j,k,()))
   else
    if(0:Int)≤(l.getD p.toNat 0)∧(l.getD p.toNat 0)<(f.length:Int)then
    bif decide ((f.getD (0+(l.getD p.toNat 0).toNat) 0)<i)then
     g40_L3 m n a b c d f h i j k l o (w_i64 (p+1))
    else
     if(0:Int)≤(h.length:Int)∧(h.length:Int)≤(h.length:Int)∧(h.length:Int)≤1073741824 then
     if(0:Int)≤(l.getD p.toNat 0)∧(l.getD p.toNat 0)<((List.replicate (h.length:Int).toNat false).length:Int)then
     if(0:Int)≤i∧i<(d.length:Int)then
     (g89 m a b c d f h (f.getD (0+(l.getD p.toNat 0).toNat) 0) i (d.getD (0+i.toNat) 0) ((List.replicate (h.length:Int).toNat false).set (0+(l.getD p.toNat 0).toNat) true)).bind fun y1=>
     bif y1.1 then
      if(0:Int)≤i∧i<(y1.2.1.2.2.2.1.length:Int)then
      if(0:Int)≤(l.getD p.toNat 0)∧(l.getD p.toNat 0)<(y1.2.1.2.2.2.2.1.length:Int)then
      some (.inl ((y1.2.1.1,y1.2.1.2.1,y1.2.1.2.2.1,y1.2.1.2.2.2.1.set (0+i.toNat) (l.getD p.toNat 0),y1.2.1.2.2.2.2.1.set (0+(l.getD p.toNat 0).toNat) i,()),h,j,k,()))
      else none
      else none
     else
      g40_L3 m n y1.2.1.1 y1.2.1.2.1 y1.2.1.2.2.1 y1.2.1.2.2.2.1 y1.2.1.2.2.2.2.1 h i j k l o (w_i64 (p+1))
     else none
     else none
     else none
    else none
   else none
   else none
  else
   some (.inl ((a,b,c,d,f,()),h,j,k,()))
def g40_L2 (m:Nat):Nat→(List (List (Int×Int)))→List Int→List Int→List Int→List Int→List (List Int)→Int→Int→Option ((((List (List (Int×Int)))×List Int×List Int×List Int×List Int×Unit)×Unit)⊕Empty)
 |0,_,_,_,_,_,_,_,_=>none
 |n+1,a,b,c,d,f,h,i,j=>
  bif decide (j<i)then
   if(0:Int)≤j∧j<(h.length:Int)then
   (g40_L3 m m a b c d f h j i j (h.getD j.toNat ([]:List Int)) ((h.getD j.toNat ([]:List Int)).length:Int) 0).bind fun y1=>
   match y1 with
   | .inl z2=>
    g40_L2 m n z2.1.1 z2.1.2.1 z2.1.2.2.1 z2.1.2.2.2.1 z2.1.2.2.2.2.1 z2.2.1 z2.2.2.1 (w_i64 (z2.2.2.2.1+1))
   | .inr e=>
    e.elim
   else none
  else
   some (.inl ((a,b,c,d,f,()),()))
def g40_L1 (m:Nat):Nat→(List (List (Int×Int)))→List Int→List Int→List Int→List Int→List (List Int)→Int→(List (List (Int×Int)))→Int→Int→(List (Int×Int))→Int→Int→Option ((((List (List (Int×Int)))×List Int×List Int×List Int×List Int×Unit)×List (List Int)×(List (List (Int×Int)))×Int×Int×Unit)⊕Empty)
 |0,_,_,_,_,_,_,_,_,_,_,_,_,_=>none
 |n+1,a,b,c,d,f,h,i,j,k,l,o,p,q=>
  bif decide (q<p)then
   if(0:Int)≤q∧q<(o.length:Int)then
   if(0:Int)≤(o.getD q.toNat (0,0)).1∧(o.getD q.toNat (0,0)).1<(b.length:Int)then
   if(0:Int)≤i∧i<(c.length:Int)then
   bif (w_i64 ((b.getD (0+(o.getD q.toNat (0,0)).1.toNat) 0)+(c.getD (0+i.toNat) 0)))==(o.getD q.toNat (0,0)).2 then
    if(0:Int)≤i∧i<(h.length:Int)then
    if(h.getD i.toNat ([]:List Int)).length+([(o.getD q.toNat (0,0)).1]:List Int).length≤1073741824 then
    if(0:Int)≤i∧i<(h.length:Int)then
    if i.toNat=i.toNat then
    g40_L1 m n a b c d f (h.set i.toNat ((h.getD i.toNat ([]:List Int))++([(o.getD q.toNat (0,0)).1]:List Int))) i j k l o p (w_i64 (q+1))
    else none
    else none
    else none
    else none
   else
    g40_L1 m n a b c d f h i j k l o p (w_i64 (q+1))
   else none
   else none
   else none
  else
   some (.inl ((a,b,c,d,f,()),h,j,k,l,()))
def g40_L0 (m:Nat):Nat→(List (List (Int×Int)))→List Int→List Int→List Int→List Int→List (List Int)→(List (List (Int×Int)))→Int→Int→Option ((((List (List (Int×Int)))×List Int×List Int×List Int×List Int×Unit)×List (List Int)×Unit)⊕Empty)
 |0,_,_,_,_,_,_,_,_,_=>none
 |n+1,a,b,c,d,f,h,i,j,k=>
  bif decide (k<j)then
   if(0:Int)≤k∧k<(i.length:Int)then
   (g40_L1 m m a b c d f h k i j k (i.getD k.toNat ([]:List (Int×Int))) ((i.getD k.toNat ([]:List (Int×Int))).length:Int) 0).bind fun y1=>
   match y1 with
   | .inl z2=>
    g40_L0 m n z2.1.1 z2.1.2.1 z2.1.2.2.1 z2.1.2.2.2.1 z2.1.2.2.2.2.1 z2.2.1 z2.2.2.1 z2.2.2.2.1 (w_i64 (z2.2.2.2.2.1+1))
   | .inr e=>
    e.elim
   else none
  else
   some (.inl ((a,b,c,d,f,()),h,()))
def g40 (m:Nat) (a:List (List (Int×Int))) (b:List Int) (c:List Int) (d:List Int) (f:List Int):Option (Unit×((List (List (Int×Int)))×List Int×List Int×List Int×List Int×Unit)×Unit):=
 if(0:Int)≤(a.length:Int)∧(a.length:Int)≤(a.length:Int)∧(a.length:Int)≤1073741824 then
 (g40_L0 m m a b c d f (List.replicate (a.length:Int).toNat ([]:List Int)) a (a.length:Int) 0).bind fun y1=>
 match y1 with
 | .inl z2=>
  (g40_L2 m m z2.1.1 z2.1.2.1 z2.1.2.2.1 z2.1.2.2.2.1 z2.1.2.2.2.2.1 z2.2.1 (z2.2.1.length:Int) 0).bind fun y3=>
  match y3 with
  | .inl z4=>
   some ((),((z4.1.1,z4.1.2.1,z4.1.2.2.1,z4.1.2.2.2.1,z4.1.2.2.2.2.1,()),()))
  | .inr e=>
   e.elim
 | .inr e=>
  e.elim
 else none
def g41_L5 (m:Nat):Nat→(List (List (Int×Int)))→List Int→List Int→List Int→List Int→List Int→List Int→List Int→Int→Int→Option ((((List (List (Int×Int)))×List Int×List Int×List Int×List Int×Unit)×List Int×List Int×Unit)⊕Empty)
 |0,_,_,_,_,_,_,_,_,_,_=>none
 |n+1,a,b,c,d,f,h,i,j,k,l=>
  bif decide (l<k)then
   if(0:Int)≤l∧l<(d.length:Int)then
   if(0:Int)≤l∧l<(j.length:Int)then
   if(0:Int)≤l∧l<(i.length:Int)then
   if(0:Int)≤(d.getD (0+l.toNat) 0)∧(d.getD (0+l.toNat) 0)<(h.length:Int)then
   g41_L5 m n a b c d f (h.set (0+(d.getD (0+l.toNat) 0).toNat) (w_i64 ((j.getD (0+l.toNat) 0)-(i.getD (0+l.toNat) 0)))) i j k (w_i64 (l+1))
   else none
   else none
   else none
   else none
  else
   some (.inl ((a,b,c,d,f,()),h,i,()))
def g41_L4 (m:Nat):Nat→(List (List (Int×Int)))→List Int→List Int→List Int→List Int→List Int→List Int→List Int→Bool→Int→(List (List (Int×Int)))→Int→Int→(List (Int×Int))→Int→Int→Option ((((List (List (Int×Int)))×List Int×List Int×List Int×List Int×Unit)×List Int×List Int×List Int×Bool×(List (List (Int×Int)))×Int×Int×Unit)⊕Empty)
 |0,_,_,_,_,_,_,_,_,_,_,_,_,_,_,_,_=>none
 |n+1,a,b,c,d,f,h,i,j,k,l,o,p,q,r,s,t=>
  bif decide (t<s)then
   if(0:Int)≤t∧t<(r.length:Int)then
   if(0:Int)≤(r.getD t.toNat (0,0)).1∧(r.getD t.toNat (0,0)).1<(f.length:Int)then
   if(0:Int)≤(f.getD (0+(r.getD t.toNat (0,0)).1.toNat) 0)∧(f.getD (0+(r.getD t.toNat (0,0)).1.toNat) 0)<(i.length:Int)then
   if(0:Int)≤(f.getD (0+(r.getD t.toNat (0,0)).1.toNat) 0)∧(f.getD (0+(r.getD t.toNat (0,0)).1.toNat) 0)<(j.length:Int)then
   if(0:Int)≤l∧l<(i.length:Int)then
   bif decide ((i.getD (0+l.toNat) 0)<(w_i64 ((w_i64 ((i.getD (0+(f.getD (0+(r.getD t.toNat (0,0)).1.toNat) 0).toNat) 0)+(r.getD t.toNat (0,0)).2))-(j.getD (0+(f.getD (0+(r.getD t.toNat (0,0)).1.toNat) 0).toNat) 0))))then
    if(0:Int)≤l∧l<(i.length:Int)then
    g41_L4 m n a b c d f h (i.set (0+l.toNat) (w_i64 ((w_i64 ((i.getD (0+(f.getD (0+(r.getD t.toNat (0,0)).1.toNat) 0).toNat) 0)+(r.getD t.toNat (0,0)).2))-(j.getD (0+(f.getD (0+(r.getD t.toNat (0,0)).1.toNat) 0).toNat) 0)))) j true l o p q r s (w_i64 (t+1))
    else none
   else
    g41_L4 m n a b c d f h i j k l o p q r s (w_i64 (t+1))
   else none
   else none
   else none
   else none
   else none
  else
   some (.inl ((a,b,c,d,f,()),h,i,j,k,o,p,q,()))
def g41_L3 (m:Nat):Nat→(List (List (Int×Int)))→List Int→List Int→List Int→List Int→List Int→List Int→List Int→Bool→(List (List (Int×Int)))→Int→Int→Option ((((List (List (Int×Int)))×List Int×List Int×List Int×List Int×Unit)×List Int×List Int×List Int×Bool×Unit)⊕Empty)
 |0,_,_,_,_,_,_,_,_,_,_,_,_=>none
 |n+1,a,b,c,d,f,h,i,j,k,l,o,p=>
  bif decide (p<o)then
   if(0:Int)≤p∧p<(l.length:Int)then
   (g41_L4 m m a b c d f h i j k p l o p (l.getD p.toNat ([]:List (Int×Int))) ((l.getD p.toNat ([]:List (Int×Int))).length:Int) 0).bind fun y1=>
   match y1 with
   | .inl z2=>
    g41_L3 m n z2.1.1 z2.1.2.1 z2.1.2.2.1 z2.1.2.2.2.1 z2.1.2.2.2.2.1 z2.2.1 z2.2.2.1 z2.2.2.2.1 z2.2.2.2.2.1 z2.2.2.2.2.2.1 z2.2.2.2.2.2.2.1 (w_i64 (z2.2.2.2.2.2.2.2.1+1))
   | .inr e=>
    e.elim
   else none
  else
   some (.inl ((a,b,c,d,f,()),h,i,j,k,()))
def g41_L2 (m:Nat):Nat→(List (List (Int×Int)))→List Int→List Int→List Int→List Int→List Int→List Int→List Int→Bool→Option ((((List (List (Int×Int)))×List Int×List Int×List Int×List Int×Unit)×List Int×List Int×List Int×Unit)⊕Empty)
 |0,_,_,_,_,_,_,_,_,_=>none
 |n+1,a,b,c,d,f,h,i,j,k=>
  bif k then
   (g41_L3 m m a b c d f h i j false a (a.length:Int) 0).bind fun y1=>
   match y1 with
   | .inl z2=>
    g41_L2 m n z2.1.1 z2.1.2.1 z2.1.2.2.1 z2.1.2.2.2.1 z2.1.2.2.2.2.1 z2.2.1 z2.2.2.1 z2.2.2.2.1 z2.2.2.2.2.1
   | .inr e=>
    e.elim
  else
   some (.inl ((a,b,c,d,f,()),h,i,j,()))
def g41_L1 (m:Nat):Nat→(List (List (Int×Int)))→List Int→List Int→List Int→List Int→List Int→List Int→List Int→Int→(List (List (Int×Int)))→Int→Int→(List (Int×Int))→Int→Int→Option ((((List (List (Int×Int)))×List Int×List Int×List Int×List Int×Unit)×List Int×List Int×List Int×(List (List (Int×Int)))×Int×Int×Unit)⊕Empty)
 |0,_,_,_,_,_,_,_,_,_,_,_,_,_,_,_=>none
 |n+1,a,b,c,d,f,h,i,j,k,l,o,p,q,r,s=>
  bif decide (s<r)then
   if(0:Int)≤s∧s<(q.length:Int)then
   if(0:Int)≤k∧k<(d.length:Int)then
   bif (q.getD s.toNat (0,0)).1==(d.getD (0+k.toNat) 0)then
    if(0:Int)≤k∧k<(j.length:Int)then
    g41_L1 m n a b c d f h i (j.set (0+k.toNat) (q.getD s.toNat (0,0)).2) k l o p q r (w_i64 (s+1))
    else none
   else
    g41_L1 m n a b c d f h i j k l o p q r (w_i64 (s+1))
   else none
   else none
  else
   some (.inl ((a,b,c,d,f,()),h,i,j,l,o,p,()))
def g41_L0 (m:Nat):Nat→(List (List (Int×Int)))→List Int→List Int→List Int→List Int→List Int→List Int→List Int→(List (List (Int×Int)))→Int→Int→Option ((((List (List (Int×Int)))×List Int×List Int×List Int×List Int×Unit)×List Int×List Int×List Int×Unit)⊕Empty)
 |0,_,_,_,_,_,_,_,_,_,_,_=>none
 |n+1,a,b,c,d,f,h,i,j,k,l,o=>
  bif decide (o<l)then
   if(0:Int)≤o∧o<(k.length:Int)then
   (g41_L1 m m a b c d f h i j o k l o (k.getD o.toNat ([]:List (Int×Int))) ((k.getD o.toNat ([]:List (Int×Int))).length:Int) 0).bind fun y1=>
   match y1 with
   | .inl z2=>
    g41_L0 m n z2.1.1 z2.1.2.1 z2.1.2.2.1 z2.1.2.2.2.1 z2.1.2.2.2.2.1 z2.2.1 z2.2.2.1 z2.2.2.2.1 z2.2.2.2.2.1 z2.2.2.2.2.2.1 (w_i64 (z2.2.2.2.2.2.2.1+1))
   | .inr e=>
    e.elim
   else none
  else
   some (.inl ((a,b,c,d,f,()),h,i,j,()))
def g41 (m:Nat) (a:List (List (Int×Int))) (b:List Int) (c:List Int) (d:List Int) (f:List Int):Option ((List Int×List Int×Unit)×((List (List (Int×Int)))×List Int×List Int×List Int×List Int×Unit)×Unit):=
 (g85 m (a.length:Int) 0).bind fun y1=>
 (g85 m (a.length:Int) 0).bind fun y2=>
 (g85 m (a.length:Int) 0).bind fun y3=>
 (g41_L0 m m a b c d f y1.1 y2.1 y3.1 a (a.length:Int) 0).bind fun y4=>
 match y4 with
 | .inl z5=>
  (g41_L2 m m z5.1.1 z5.1.2.1 z5.1.2.2.1 z5.1.2.2.2.1 z5.1.2.2.2.2.1 z5.2.1 z5.2.2.1 z5.2.2.2.1 true).bind fun y6=>
  match y6 with
  | .inl z7=>
   (g41_L5 m m z7.1.1 z7.1.2.1 z7.1.2.2.1 z7.1.2.2.2.1 z7.1.2.2.2.2.1 z7.2.1 z7.2.2.1 z7.2.2.2.1 (z7.1.2.2.2.1.length:Int) 0).bind fun y8=>
   match y8 with
   | .inl z9=>
    some ((z9.2.1,z9.2.2.1,()),((z9.1.1,z9.1.2.1,z9.1.2.2.1,z9.1.2.2.2.1,z9.1.2.2.2.2.1,()),()))
   | .inr e=>
    e.elim
  | .inr e=>
   e.elim
 | .inr e=>
  e.elim
def g12 (m:Nat) (a:Int) (b:Int) (c:List Int) (d:List Int) (f:List Int):Option (((List Int×List Int×List Int×Unit)×Int×Unit)×Unit×Unit):=
 (g37 m a b c d f).bind fun y1=>
 bif y1.1 !=0 then
  some (((([]:List Int),([]:List Int),([]:List Int),()),y1.1,()),((),()))
 else
  (g39 m a b c d f).bind fun y2=>
  (g38 m y2.1).bind fun y3=>
  match y3.1 with
  | .inl r4=>
   some (((([]:List Int),([]:List Int),([]:List Int),()),9,()),((),()))
  | .inr r5=>
   (g40 m r5.1.1 r5.1.2.1 r5.1.2.2.1 r5.1.2.2.2.1 r5.1.2.2.2.2.1).bind fun y6=>
   (g41 m y6.2.1.1 y6.2.1.2.1 y6.2.1.2.2.1 y6.2.1.2.2.2.1 y6.2.1.2.2.2.2.1).bind fun y7=>
   some (((y7.2.1.2.2.2.1,y7.1.1,y7.1.2.1,()),0,()),((),()))
def g15_L0 (m:Nat):Nat→List Int→List Int→Int→Option ((Bool×Unit)⊕Unit⊕Empty)
 |0,_,_,_=>none
 |n+1,a,b,c=>
  bif decide (c<(a.length:Int))then
   if(0:Int)≤c∧c<(a.length:Int)then
   if(0:Int)≤c∧c<(b.length:Int)then
   bif (a.getD c.toNat 0) !=(b.getD c.toNat 0)then
    some (.inl (false,()))
   else
    g15_L0 m n a b (w_i64 (c+1))
   else none
   else none
  else
   some (.inr (.inl ()))
def g15 (m:Nat) (a:List Int) (b:List Int):Option (Bool×Unit×Unit×Unit):=
 bif (a.length:Int) !=(b.length:Int)then
  some (false,((),(),()))
 else
  (g15_L0 m m a b 0).bind fun y1=>
  match y1 with
  | .inl z2=>
   some (z2.1,((),(),()))
  | .inr (.inl z3)=>
   some (true,((),(),()))
  | .inr (.inr e)=>
   e.elim
def g61_L1 (m:Nat):Nat→(List (List (Int×Int)))→List Bool→Int→Bool→List Int→Int→Int→(List (Int×Int))→Int→Int→Option (((List (List (Int×Int)))×List Bool×Int×Bool×List Int×Int×Int×Unit)⊕Empty)
 |0,_,_,_,_,_,_,_,_,_,_=>none
 |n+1,a,b,c,d,f,h,i,j,k,l=>
  bif decide (l<k)then
   if(0:Int)≤l∧l<(j.length:Int)then
   bif d then
    g61_L1 m n a b c true f h i j k (w_i64 (l+1))
   else
    g61_L1 m n a b c ((j.getD l.toNat (0,0)).1==c) f h i j k (w_i64 (l+1))
   else none
  else
   some (.inl (a,b,c,d,f,h,i,()))
def g61_L0 (m:Nat):Nat→(List (List (Int×Int)))→List Bool→List Int→Int→Int→Option ((Bool×Unit)⊕Unit⊕Empty)
 |0,_,_,_,_,_=>none
 |n+1,a,b,c,d,f=>
  bif decide (f<d)then
   if(0:Int)≤f∧f<(c.length:Int)then
   if(0:Int)≤f∧f<(a.length:Int)then
   (g61_L1 m m a b (c.getD f.toNat 0) false c d f (a.getD f.toNat ([]:List (Int×Int))) ((a.getD f.toNat ([]:List (Int×Int))).length:Int) 0).bind fun y1=>
   match y1 with
   | .inl z2=>
    bif !z2.2.2.2.1 then
     some (.inl (false,()))
    else
     if(0:Int)≤z2.2.2.1∧z2.2.2.1<(z2.2.1.length:Int)then
     bif z2.2.1.getD (0+z2.2.2.1.toNat) false then
      some (.inl (false,()))
     else
      if(0:Int)≤z2.2.2.1∧z2.2.2.1<(z2.2.1.length:Int)then
      g61_L0 m n z2.1 (z2.2.1.set (0+z2.2.2.1.toNat) true) z2.2.2.2.2.1 z2.2.2.2.2.2.1 (w_i64 (z2.2.2.2.2.2.2.1+1))
      else none
     else none
   | .inr e=>
    e.elim
   else none
   else none
  else
   some (.inr (.inl ()))
def g61 (m:Nat) (a:List (List (Int×Int))) (b:List Int):Option (Bool×Unit×Unit×Unit):=
 if(0:Int)≤(a.length:Int)∧(a.length:Int)≤(a.length:Int)∧(a.length:Int)≤1073741824 then
 (g61_L0 m m a (List.replicate (a.length:Int).toNat false) b (b.length:Int) 0).bind fun y1=>
 match y1 with
 | .inl z2=>
  some (z2.1,((),(),()))
 | .inr (.inl z3)=>
  some (true,((),(),()))
 | .inr (.inr e)=>
  e.elim
 else none
def g51 (m:Nat) (a:Int) (b:Int):Option (Int×Unit×Unit×Unit):=
 bif decide (a>0)then
  bif decide (b>0)then
   bif decide ((w_i64 (a+b))<0)then
    some (1099511627776,((),(),()))
   else
    bif decide (a<0)then
     bif decide (b<0)then
      bif decide ((w_i64 (a+b))≥0)then
       some ((-1099511627776),((),(),()))
      else
       some (w_i64 (a+b),((),(),()))
     else
      some (w_i64 (a+b),((),(),()))
    else
     some (w_i64 (a+b),((),(),()))
  else
   bif decide (a<0)then
    bif decide (b<0)then
     bif decide ((w_i64 (a+b))≥0)then
      some ((-1099511627776),((),(),()))
     else
      some (w_i64 (a+b),((),(),()))
    else
     some (w_i64 (a+b),((),(),()))
   else
    some (w_i64 (a+b),((),(),()))
 else
  bif decide (a<0)then
   bif decide (b<0)then
    bif decide ((w_i64 (a+b))≥0)then
     some ((-1099511627776),((),(),()))
    else
     some (w_i64 (a+b),((),(),()))
   else
    some (w_i64 (a+b),((),(),()))
  else
   some (w_i64 (a+b),((),(),()))
def g62_L1 (m:Nat):Nat→List Int→List Int→List Int→Int→(List (List (Int×Int)))→Int→Int→(List (Int×Int))→Int→Int→Option ((Bool×Unit)⊕((List Int×List Int×List Int×Unit)×(List (List (Int×Int)))×Int×Int×Unit)⊕Empty)
 |0,_,_,_,_,_,_,_,_,_,_=>none
 |n+1,a,b,c,d,f,h,i,j,k,l=>
  bif decide (l<k)then
   if(0:Int)≤l∧l<(j.length:Int)then
   if(0:Int)≤(j.getD l.toNat (0,0)).1∧(j.getD l.toNat (0,0)).1<(b.length:Int)then
   if(0:Int)≤d∧d<(c.length:Int)then
   (g51 m (b.getD (j.getD l.toNat (0,0)).1.toNat 0) (c.getD d.toNat 0)).bind fun y1=>
   bif decide (y1.1<(j.getD l.toNat (0,0)).2)then
    some (.inl (false,()))
   else
    bif decide (y1.1>(j.getD l.toNat (0,0)).2)then
     if(0:Int)≤d∧d<(a.length:Int)then
     bif (j.getD l.toNat (0,0)).1==(a.getD d.toNat 0)then
      some (.inl (false,()))
     else
      g62_L1 m n a b c d f h i j k (w_i64 (l+1))
     else none
    else
     g62_L1 m n a b c d f h i j k (w_i64 (l+1))
   else none
   else none
   else none
  else
   some (.inr (.inl ((a,b,c,()),f,h,i,())))
def g62_L0 (m:Nat):Nat→List Int→List Int→List Int→(List (List (Int×Int)))→Int→Int→Option ((Bool×Unit)⊕Unit⊕Empty)
 |0,_,_,_,_,_,_=>none
 |n+1,a,b,c,d,f,h=>
  bif decide (h<f)then
   if(0:Int)≤h∧h<(d.length:Int)then
   (g62_L1 m m a b c h d f h (d.getD h.toNat ([]:List (Int×Int))) ((d.getD h.toNat ([]:List (Int×Int))).length:Int) 0).bind fun y1=>
   match y1 with
   | .inl z2=>
    some (.inl (z2.1,()))
   | .inr (.inl z3)=>
    g62_L0 m n z3.1.1 z3.1.2.1 z3.1.2.2.1 z3.2.1 z3.2.2.1 (w_i64 (z3.2.2.2.1+1))
   | .inr (.inr e)=>
    e.elim
   else none
  else
   some (.inr (.inl ()))
def g62 (m:Nat) (a:List (List (Int×Int))) (b:List Int) (c:List Int) (d:List Int):Option (Bool×Unit×Unit×Unit):=
 (g62_L0 m m b c d a (a.length:Int) 0).bind fun y1=>
 match y1 with
 | .inl z2=>
  some (z2.1,((),(),()))
 | .inr (.inl z3)=>
  some (true,((),(),()))
 | .inr (.inr e)=>
  e.elim
def g21 (m:Nat) (a:Int) (b:Int) (c:List Int) (d:List Int) (f:List Int) (h:List Int) (i:List Int) (j:List Int):Option (Int×Unit×Unit×Unit):=
 (g37 m a b c d f).bind fun y1=>
 bif y1.1 !=0 then
  some (y1.1,((),(),()))
 else
  bif (h.length:Int) !=b then
   some (2,((),(),()))
  else
   bif (i.length:Int) !=b then
    some (2,((),(),()))
   else
    bif (j.length:Int) !=b then
     some (2,((),(),()))
    else
     (g39 m a b c d f).bind fun y2=>
     (g61 m y2.1 h).bind fun y3=>
     bif !y3.1 then
      some (130,((),(),()))
     else
      (g62 m y2.1 h i j).bind fun y4=>
      bif !y4.1 then
       some (140,((),(),()))
      else
       some (0,((),(),()))
def sparselaw14_awake (m:Nat):Option (Bool×Unit):=
 (g12 m 2 2 ([0,2,4]:List Int) ([0,1,0,1]:List Int) ([4607182418800017408,4620693217682128896,4620693217682128896,0]:List Int)).bind fun y1=>
 bif y1.1.2.1==0 then
  (g15 m y1.1.1.1 ([1,0]:List Int)).bind fun y2=>
  bif y2.1 then
   (g15 m y1.1.1.2.1 ([3,3]:List Int)).bind fun y3=>
   bif y3.1 then
    (g15 m y1.1.1.2.2.1 ([0,0]:List Int)).bind fun y4=>
    bif y4.1 then
     (g21 m 2 2 ([0,2,4]:List Int) ([0,1,0,1]:List Int) ([4607182418800017408,4620693217682128896,4620693217682128896,0]:List Int) y1.1.1.1 y1.1.1.2.1 y1.1.1.2.2.1).bind fun y5=>
     some (y5.1==0,())
    else
     some (false,())
   else
    some (false,())
  else
   some (false,())
 else
  some (false,())
def g8 (m:Nat) (a:Int) (b:Int):Option (Int×Unit×Unit×Unit):=
 if(w_u64 b)≠0 then
 some (w_i64 (Int.tmod (w_u64 a) (w_u64 b)),((),(),()))
 else none
def g10 (m:Nat) (a:List Int) (b:Int):Option (Int×Unit×Unit×Unit):=
 bif decide (b<(a.length:Int))then
  if(0:Int)≤b∧b<(a.length:Int)then
  some (a.getD b.toNat 0,((),(),()))
  else none
 else
  some (0,((),(),()))
def g104_L1 (m:Nat):Nat→List Int→Int→List Int→Int→Option ((List Int×Unit)⊕Empty)
 |0,_,_,_,_=>none
 |n+1,a,b,c,d=>
  bif decide (d<b)then
   if(0:Int)≤d∧d<(a.length:Int)then
   if c.length+([a.getD d.toNat 0]:List Int).length≤1073741824 then
   g104_L1 m n a b (c++([a.getD d.toNat 0]:List Int)) (w_i64 (d+1))
   else none
   else none
  else
   some (.inl (c,()))
def g104_L0 (m:Nat):Nat→List Int→Int→Option ((List Int×Int×Unit)⊕Empty)
 |0,_,_=>none
 |n+1,a,b=>
  bif decide (b>0)then
   if(0:Int)≤(w_i64 (b-1))∧(w_i64 (b-1))<(a.length:Int)then
   bif (a.getD (w_i64 (b-1)).toNat 0)==0 then
    g104_L0 m n a (w_i64 (b-1))
   else
    some (.inl (a,b,()))
   else none
  else
   some (.inl (a,b,()))
def g104 (m:Nat) (a:List Int):Option (List Int×Unit×Unit):=
 (g104_L0 m m a (a.length:Int)).bind fun y1=>
 match y1 with
 | .inl z2=>
  (g104_L1 m m z2.1 z2.2.1 ([]:List Int) 0).bind fun y3=>
  match y3 with
  | .inl z4=>
   some (z4.1,((),()))
  | .inr e=>
   e.elim
 | .inr e=>
  e.elim
def g105 (m:Nat) (a:Bool) (b:List Int):Option ((Bool×List Int×Unit)×Unit×Unit×Unit):=
 (g104 m b).bind fun y1=>
 bif a then
  some ((decide ((y1.1.length:Int)>0),y1.1,()),((),(),()))
 else
  some ((false,y1.1,()),((),(),()))
def g57 (m:Nat) (a:Int):Option ((Bool×List Int×Unit)×Unit×Unit):=
 bif decide (a<0)then
  (g105 m (decide (a<0)) ([w_u32 (w_u64 ((w_u64 (w_i64 (0-(w_i64 (a+1)))))+1)),w_u32 (shr_ .u64 (w_u64 ((w_u64 (w_i64 (0-(w_i64 (a+1)))))+1)) 32)]:List Int)).bind fun y1=>
  some ((y1.1.1,y1.1.2.1,()),((),()))
 else
  (g105 m (decide (a<0)) ([w_u32 (w_u64 a),w_u32 (shr_ .u64 (w_u64 a) 32)]:List Int)).bind fun y2=>
  some ((y2.1.1,y2.1.2.1,()),((),()))
def g109 (m:Nat) (a:Bool) (b:List Int):Option ((Bool×List Int×Unit)×Unit×Unit):=
 (g105 m a b).bind fun y1=>
 some ((y1.1.1,y1.1.2.1,()),((),()))
def g119 (m:Nat):Option ((Bool×Bool×List Int×Int×Unit)×Unit):=
 some ((true,false,([]:List Int),0,()),())
def g157_L0 (m:Nat):Nat→List Int→Int→Option ((Int×Unit)⊕Unit⊕Empty)
 |0,_,_=>none
 |n+1,a,b=>
  bif decide (b<(a.length:Int))then
   if(0:Int)≤b∧b<(a.length:Int)then
   bif (a.getD (0+b.toNat) 0) !=0 then
    if(0:Int)≤b∧b<(a.length:Int)then
    (g159 m (a.getD (0+b.toNat) 0)).bind fun y1=>
    some (.inl (w_i64 ((w_i64 (32*b))+y1.1),()))
    else none
   else
    g157_L0 m n a (w_i64 (b+1))
   else none
  else
   some (.inr (.inl ()))
def g157 (m:Nat) (a:Bool) (b:List Int):Option (Int×Unit×Unit):=
 (g104 m b).bind fun y1=>
 (g157_L0 m m y1.1 0).bind fun y2=>
 match y2 with
 | .inl z3=>
  some (z3.1,((),()))
 | .inr (.inl z4)=>
  some (0,((),()))
 | .inr (.inr e)=>
  e.elim
def g118 (m:Nat) (a:Bool) (b:List Int):Option ((Bool×List Int×Unit)×Unit×Unit):=
 (g105 m false b).bind fun y1=>
 some ((y1.1.1,y1.1.2.1,()),((),()))
def g171_L0 (m:Nat):Nat→List Int→Int→List Int→Int→Int→Option ((List Int×Int×Unit)⊕Empty)
 |0,_,_,_,_,_=>none
 |n+1,a,b,c,d,f=>
  bif decide (f<(a.length:Int))then
   if(0:Int)≤f∧f<(a.length:Int)then
   if(0:Int)≤(Int.tmod b 32)then
   if c.length+([w_u32 (b_or_ .u64 d (shl_ .u64 (w_u64 (a.getD f.toNat 0)) (Int.tmod b 32)))]:List Int).length≤1073741824 then
   g171_L0 m n a b (c++([w_u32 (b_or_ .u64 d (shl_ .u64 (w_u64 (a.getD f.toNat 0)) (Int.tmod b 32)))]:List Int)) (shr_ .u64 (b_or_ .u64 d (shl_ .u64 (w_u64 (a.getD f.toNat 0)) (Int.tmod b 32))) 32) (w_i64 (f+1))
   else none
   else none
   else none
  else
   some (.inl (c,d,()))
def g171 (m:Nat) (a:List Int) (b:Int):Option (List Int×Unit×Unit×Unit):=
 if(0:Int)≤(w_i64 (Int.tdiv b 32))∧(w_i64 (Int.tdiv b 32))≤(w_i64 (Int.tdiv b 32))∧(w_i64 (Int.tdiv b 32))≤1073741824 then
 (g171_L0 m m a b (List.replicate (w_i64 (Int.tdiv b 32)).toNat (0:Int)) 0 0).bind fun y1=>
 match y1 with
 | .inl z2=>
  if z2.1.length+([w_u32 z2.2.1]:List Int).length≤1073741824 then
  some (z2.1++([w_u32 z2.2.1]:List Int),((),(),()))
  else none
 | .inr e=>
  e.elim
 else none
def g172_L1 (m:Nat):Nat→List Int→Int→Bool→List Int→Int→Int→Option ((Bool×List Int×Unit)⊕Empty)
 |0,_,_,_,_,_,_=>none
 |n+1,a,b,c,d,f,h=>
  bif decide (h<(a.length:Int))then
   if(0:Int)≤h∧h<(a.length:Int)then
   bif decide ((w_i64 (h+1))<(a.length:Int))then
    if(0:Int)≤(w_i64 (h+1))∧(w_i64 (h+1))<(a.length:Int)then
    bif h==(w_i64 (Int.tdiv b 32))then
     if(0:Int)≤h∧h<(a.length:Int)then
     if(0:Int)≤f then
     bif (qy .u32 (a.getD h.toNat 0) (w_u32 ((shl_ .u32 1 f)-1))) !=0 then
      if(0:Int)≤f then
      if d.length+([w_u32 (shr_ .u64 (b_or_ .u64 (w_u64 (a.getD h.toNat 0)) (shl_ .u64 (w_u64 (a.getD (w_i64 (h+1)).toNat 0)) 32)) f)]:List Int).length≤1073741824 then
      g172_L1 m n a b true (d++([w_u32 (shr_ .u64 (b_or_ .u64 (w_u64 (a.getD h.toNat 0)) (shl_ .u64 (w_u64 (a.getD (w_i64 (h+1)).toNat 0)) 32)) f)]:List Int)) f (w_i64 (h+1))
      else none
      else none
     else
      if(0:Int)≤f then
      if d.length+([w_u32 (shr_ .u64 (b_or_ .u64 (w_u64 (a.getD h.toNat 0)) (shl_ .u64 (w_u64 (a.getD (w_i64 (h+1)).toNat 0)) 32)) f)]:List Int).length≤1073741824 then
      g172_L1 m n a b c (d++([w_u32 (shr_ .u64 (b_or_ .u64 (w_u64 (a.getD h.toNat 0)) (shl_ .u64 (w_u64 (a.getD (w_i64 (h+1)).toNat 0)) 32)) f)]:List Int)) f (w_i64 (h+1))
      else none
      else none
     else none
     else none
    else
     if(0:Int)≤f then
     if d.length+([w_u32 (shr_ .u64 (b_or_ .u64 (w_u64 (a.getD h.toNat 0)) (shl_ .u64 (w_u64 (a.getD (w_i64 (h+1)).toNat 0)) 32)) f)]:List Int).length≤1073741824 then
     g172_L1 m n a b c (d++([w_u32 (shr_ .u64 (b_or_ .u64 (w_u64 (a.getD h.toNat 0)) (shl_ .u64 (w_u64 (a.getD (w_i64 (h+1)).toNat 0)) 32)) f)]:List Int)) f (w_i64 (h+1))
     else none
     else none
    else none
   else
    bif h==(w_i64 (Int.tdiv b 32))then
     if(0:Int)≤h∧h<(a.length:Int)then
     if(0:Int)≤f then
     bif (qy .u32 (a.getD h.toNat 0) (w_u32 ((shl_ .u32 1 f)-1))) !=0 then
      if(0:Int)≤f then
      if d.length+([w_u32 (shr_ .u64 (w_u64 (a.getD h.toNat 0)) f)]:List Int).length≤1073741824 then
      g172_L1 m n a b true (d++([w_u32 (shr_ .u64 (w_u64 (a.getD h.toNat 0)) f)]:List Int)) f (w_i64 (h+1))
      else none
      else none
     else
      if(0:Int)≤f then
      if d.length+([w_u32 (shr_ .u64 (w_u64 (a.getD h.toNat 0)) f)]:List Int).length≤1073741824 then
      g172_L1 m n a b c (d++([w_u32 (shr_ .u64 (w_u64 (a.getD h.toNat 0)) f)]:List Int)) f (w_i64 (h+1))
      else none
      else none
     else none
     else none
    else
     if(0:Int)≤f then
     if d.length+([w_u32 (shr_ .u64 (w_u64 (a.getD h.toNat 0)) f)]:List Int).length≤1073741824 then
     g172_L1 m n a b c (d++([w_u32 (shr_ .u64 (w_u64 (a.getD h.toNat 0)) f)]:List Int)) f (w_i64 (h+1))
     else none
     else none
   else none
  else
   some (.inl (c,d,()))
def g172_L0 (m:Nat):Nat→List Int→Int→Bool→Int→Option ((List Int×Int×Bool×Unit)⊕Empty)
 |0,_,_,_,_=>none
 |n+1,a,b,c,d=>
  bif decide (d<(w_i64 (Int.tdiv b 32)))then
   bif decide (d<(a.length:Int))then
    bif c then
     g172_L0 m n a b true (w_i64 (d+1))
    else
     if(0:Int)≤d∧d<(a.length:Int)then
     g172_L0 m n a b ((a.getD d.toNat 0) !=0) (w_i64 (d+1))
     else none
   else
    some (.inl (a,b,c,()))
  else
   some (.inl (a,b,c,()))
def g172 (m:Nat) (a:List Int) (b:Int):Option ((List Int×Bool×Unit)×Unit×Unit×Unit):=
 (g172_L0 m m a b false 0).bind fun y1=>
 match y1 with
 | .inl z2=>
  (g172_L1 m m z2.1 z2.2.1 z2.2.2.1 ([]:List Int) (Int.tmod z2.2.1 32) (w_i64 (Int.tdiv z2.2.1 32))).bind fun y3=>
  match y3 with
  | .inl z4=>
   some ((z4.2.1,z4.1,()),((),(),()))
  | .inr e=>
   e.elim
 | .inr e=>
  e.elim
def g59 (m:Nat) (a:Bool) (b:List Int):Option ((Bool×List Int×Unit)×Unit×Unit):=
 (g105 m (!a) b).bind fun y1=>
 some ((y1.1.1,y1.1.2.1,()),((),()))
def g106_L0 (m:Nat):Nat→List Int→List Int→List Int→Int→Int→Option ((List Int×Int×Unit)⊕Empty)
 |0,_,_,_,_,_=>none
 |n+1,a,b,c,d,f=>
  bif decide (f<(if(b.length:Int)>(a.length:Int)then(b.length:Int)else(a.length:Int)))then
   bif decide (f<(a.length:Int))then
    if(0:Int)≤f∧f<(a.length:Int)then
    bif decide (f<(b.length:Int))then
     if(0:Int)≤f∧f<(b.length:Int)then
     if c.length+([w_u32 (w_u64 ((w_u64 (d+(w_u64 (a.getD f.toNat 0))))+(w_u64 (b.getD f.toNat 0))))]:List Int).length≤1073741824 then
     g106_L0 m n a b (c++([w_u32 (w_u64 ((w_u64 (d+(w_u64 (a.getD f.toNat 0))))+(w_u64 (b.getD f.toNat 0))))]:List Int)) (shr_ .u64 (w_u64 ((w_u64 (d+(w_u64 (a.getD f.toNat 0))))+(w_u64 (b.getD f.toNat 0)))) 32) (w_i64 (f+1))
     else none
     else none
    else
     if c.length+([w_u32 (w_u64 (d+(w_u64 (a.getD f.toNat 0))))]:List Int).length≤1073741824 then
     g106_L0 m n a b (c++([w_u32 (w_u64 (d+(w_u64 (a.getD f.toNat 0))))]:List Int)) (shr_ .u64 (w_u64 (d+(w_u64 (a.getD f.toNat 0)))) 32) (w_i64 (f+1))
     else none
    else none
   else
    bif decide (f<(b.length:Int))then
     if(0:Int)≤f∧f<(b.length:Int)then
     if c.length+([w_u32 (w_u64 (d+(w_u64 (b.getD f.toNat 0))))]:List Int).length≤1073741824 then
     g106_L0 m n a b (c++([w_u32 (w_u64 (d+(w_u64 (b.getD f.toNat 0))))]:List Int)) (shr_ .u64 (w_u64 (d+(w_u64 (b.getD f.toNat 0)))) 32) (w_i64 (f+1))
     else none
     else none
    else
     if c.length+([w_u32 d]:List Int).length≤1073741824 then
     g106_L0 m n a b (c++([w_u32 d]:List Int)) (shr_ .u64 d 32) (w_i64 (f+1))
     else none
  else
   some (.inl (c,d,()))
def g106 (m:Nat) (a:List Int) (b:List Int):Option (List Int×Unit×Unit×Unit):=
 (g106_L0 m m a b ([]:List Int) 0 0).bind fun y1=>
 match y1 with
 | .inl z2=>
  if z2.1.length+([w_u32 z2.2.1]:List Int).length≤1073741824 then
  some (z2.1++([w_u32 z2.2.1]:List Int),((),(),()))
  else none
 | .inr e=>
  e.elim
def g107_L0 (m:Nat):Nat→List Int→List Int→Int→Option ((Int×Unit)⊕Unit⊕Empty)
 |0,_,_,_=>none
 |n+1,a,b,c=>
  bif decide (c≥0)then
   if(0:Int)≤c∧c<(a.length:Int)then
   if(0:Int)≤c∧c<(b.length:Int)then
   bif (a.getD c.toNat 0) !=(b.getD c.toNat 0)then
    if(0:Int)≤c∧c<(a.length:Int)then
    if(0:Int)≤c∧c<(b.length:Int)then
    bif decide ((a.getD c.toNat 0)<(b.getD c.toNat 0))then
     some (.inl ((-1),()))
    else
     some (.inl (1,()))
    else none
    else none
   else
    g107_L0 m n a b (w_i64 (c-1))
   else none
   else none
  else
   some (.inr (.inl ()))
def g107 (m:Nat) (a:List Int) (b:List Int):Option (Int×Unit×Unit×Unit):=
 bif (a.length:Int) !=(b.length:Int)then
  bif decide ((a.length:Int)<(b.length:Int))then
   some ((-1),((),(),()))
  else
   some (1,((),(),()))
 else
  (g107_L0 m m a b (w_i64 ((a.length:Int)-1))).bind fun y1=>
  match y1 with
  | .inl z2=>
   some (z2.1,((),(),()))
  | .inr (.inl z3)=>
   some (0,((),(),()))
  | .inr (.inr e)=>
   e.elim
def g108_L0 (m:Nat):Nat→List Int→List Int→List Int→Int→Int→Option ((List Int×Unit)⊕Empty)
 |0,_,_,_,_,_=>none
 |n+1,a,b,c,d,f=>
  bif decide (f<(a.length:Int))then
   if(0:Int)≤f∧f<(a.length:Int)then
   bif decide (f<(b.length:Int))then
    if(0:Int)≤f∧f<(b.length:Int)then
    if c.length+([w_u32 (w_u64 ((w_u64 ((w_u64 (a.getD f.toNat 0))-d))-(w_u64 (b.getD f.toNat 0))))]:List Int).length≤1073741824 then
    g108_L0 m n a b (c++([w_u32 (w_u64 ((w_u64 ((w_u64 (a.getD f.toNat 0))-d))-(w_u64 (b.getD f.toNat 0))))]:List Int)) (shr_ .u64 (w_u64 ((w_u64 ((w_u64 (a.getD f.toNat 0))-d))-(w_u64 (b.getD f.toNat 0)))) 63) (w_i64 (f+1))
    else none
    else none
   else
    if c.length+([w_u32 (w_u64 ((w_u64 (a.getD f.toNat 0))-d))]:List Int).length≤1073741824 then
    g108_L0 m n a b (c++([w_u32 (w_u64 ((w_u64 (a.getD f.toNat 0))-d))]:List Int)) (shr_ .u64 (w_u64 ((w_u64 (a.getD f.toNat 0))-d)) 63) (w_i64 (f+1))
    else none
   else none
  else
   some (.inl (c,()))
def g108 (m:Nat) (a:List Int) (b:List Int):Option (List Int×Unit×Unit×Unit):=
 (g108_L0 m m a b ([]:List Int) 0 0).bind fun y1=>
 match y1 with
 | .inl z2=>
  some (z2.1,((),(),()))
 | .inr e=>
  e.elim
def g56 (m:Nat) (a:Bool) (b:List Int) (c:Bool) (d:List Int):Option ((Bool×List Int×Unit)×Unit×Unit×Unit):=
 (g104 m b).bind fun y1=>
 (g104 m d).bind fun y2=>
 bif a==c then
  (g106 m y1.1 y2.1).bind fun y3=>
  (g105 m a y3.1).bind fun y4=>
  some ((y4.1.1,y4.1.2.1,()),((),(),()))
 else
  (g107 m y1.1 y2.1).bind fun y5=>
  bif decide (y5.1≥0)then
   (g108 m y1.1 y2.1).bind fun y6=>
   (g105 m a y6.1).bind fun y7=>
   some ((y7.1.1,y7.1.2.1,()),((),(),()))
  else
   (g108 m y2.1 y1.1).bind fun y8=>
   (g105 m c y8.1).bind fun y9=>
   some ((y9.1.1,y9.1.2.1,()),((),(),()))
def g114 (m:Nat) (a:Bool) (b:List Int) (c:Bool) (d:List Int):Option ((Bool×List Int×Unit)×Unit×Unit×Unit):=
 (g59 m c d).bind fun y1=>
 (g56 m a b y1.1.1 y1.1.2.1).bind fun y2=>
 some ((y2.1.1,y2.1.2.1,()),((),(),()))
def g155 (m:Nat) (a:Bool) (b:List Int) (c:Int):Option ((Bool×List Int×Unit)×Unit×Unit×Unit):=
 (g109 m a b).bind fun y1=>
 bif decide (c≥0)then
  (g171 m y1.1.2.1 c).bind fun y2=>
  (g105 m y1.1.1 y2.1).bind fun y3=>
  some ((y3.1.1,y3.1.2.1,()),((),(),()))
 else
  (g172 m y1.1.2.1 (w_i64 (0-c))).bind fun y4=>
  (g105 m y1.1.1 y4.1.1).bind fun y5=>
  bif y1.1.1 then
   bif y4.1.2.1 then
    (g57 m 1).bind fun y6=>
    (g114 m y5.1.1 y5.1.2.1 y6.1.1 y6.1.2.1).bind fun y7=>
    some ((y7.1.1,y7.1.2.1,()),((),(),()))
   else
    some ((y5.1.1,y5.1.2.1,()),((),(),()))
  else
   some ((y5.1.1,y5.1.2.1,()),((),(),()))
def g158_L0 (m:Nat):Nat→Int→Bool→List Int→Bool→List Int→Option ((Int×(Bool×List Int×Unit)×(Bool×List Int×Unit)×Unit)⊕Empty)
 |0,_,_,_,_,_=>none
 |n+1,a,b,c,d,f=>
  bif decide (a>1048576)then
   (g155 m b c (-1048576)).bind fun y1=>
   g158_L0 m n (w_i64 (a-1048576)) y1.1.1 y1.1.2.1 d f
  else
   some (.inl (a,(b,c,()),(d,f,()),()))
def g158 (m:Nat) (a:Bool) (b:List Int) (c:Int):Option ((Bool×List Int×Unit)×Unit×Unit×Unit):=
 (g158_L0 m m c a b false ([]:List Int)).bind fun y1=>
 match y1 with
 | .inl z2=>
  (g155 m z2.2.1.1 z2.2.1.2.1 (w_i64 (0-z2.1))).bind fun y3=>
  some ((y3.1.1,y3.1.2.1,()),((),(),()))
 | .inr e=>
  e.elim
def g152 (m:Nat) (a:Bool) (b:List Int):Option (Int×Unit×Unit):=
 (g104 m b).bind fun y1=>
 bif (y1.1.length:Int)==0 then
  some (0,((),()))
 else
  if(0:Int)≤(w_i64 ((y1.1.length:Int)-1))∧(w_i64 ((y1.1.length:Int)-1))<(y1.1.length:Int)then
  (g168 m (y1.1.getD (0+(w_i64 ((y1.1.length:Int)-1)).toNat) 0)).bind fun y2=>
  some (w_i64 ((w_i64 (32*(w_i64 ((y1.1.length:Int)-1))))+y2.1),((),()))
  else none
def g120 (m:Nat) (a:Bool) (b:List Int) (c:Int):Option ((Bool×Bool×List Int×Int×Unit)×Unit×Unit×Unit):=
 (g109 m a b).bind fun y1=>
 bif (y1.1.2.1.length:Int)==0 then
  some ((false,false,([]:List Int),0,()),((),(),()))
 else
  bif decide (c>65536)then
   (g119 m).bind fun y2=>
   some ((y2.1.1,y2.1.2.1,y2.1.2.2.1,y2.1.2.2.2.1,()),((),(),()))
  else
   (g157 m y1.1.1 y1.1.2.1).bind fun y3=>
   (g118 m y1.1.1 y1.1.2.1).bind fun y4=>
   (g158 m y4.1.1 y4.1.2.1 y3.1).bind fun y5=>
   bif decide ((w_i64 (c+y3.1))<(-65536))then
    (g119 m).bind fun y6=>
    some ((y6.1.1,y6.1.2.1,y6.1.2.2.1,y6.1.2.2.2.1,()),((),(),()))
   else
    (g152 m y5.1.1 y5.1.2.1).bind fun y7=>
    bif decide ((w_i64 ((w_i64 (c+y3.1))+y7.1))>65536)then
     (g119 m).bind fun y8=>
     some ((y8.1.1,y8.1.2.1,y8.1.2.2.1,y8.1.2.2.2.1,()),((),(),()))
    else
     some ((false,a,y5.1.2.1,w_i64 (c+y3.1),()),((),(),()))
def g72 (m:Nat) (a:Int):Option ((Bool×Bool×List Int×Int×Unit)×Unit×Unit):=
 (g57 m a).bind fun y1=>
 (g120 m y1.1.1 y1.1.2.1 0).bind fun y2=>
 some ((y2.1.1,y2.1.2.1,y2.1.2.2.1,y2.1.2.2.2.1,()),((),()))
def g116 (m:Nat) (a:Bool) (b:Bool) (c:List Int) (d:Int):Option ((Bool×Bool×List Int×Int×Unit)×Unit×Unit):=
 bif a then
  (g119 m).bind fun y1=>
  some ((y1.1.1,y1.1.2.1,y1.1.2.2.1,y1.1.2.2.2.1,()),((),()))
 else
  (g120 m b c d).bind fun y2=>
  some ((y2.1.1,y2.1.2.1,y2.1.2.2.1,y2.1.2.2.2.1,()),((),()))
def g113 (m:Nat) (a:Bool) (b:List Int):Option (Int×Unit×Unit):=
 (g109 m a b).bind fun y1=>
 bif (y1.1.2.1.length:Int)==0 then
  some (0,((),()))
 else
  bif y1.1.1 then
   some ((-1),((),()))
  else
   some (1,((),()))
def g71 (m:Nat) (a:Bool) (b:Bool) (c:List Int) (d:Int) (f:Int):Option ((Bool×Bool×List Int×Int×Unit)×Unit×Unit×Unit):=
 (g116 m a b c d).bind fun y1=>
 bif y1.1.1 then
  some ((y1.1.1,y1.1.2.1,y1.1.2.2.1,y1.1.2.2.2.1,()),((),(),()))
 else
  (g113 m y1.1.2.1 y1.1.2.2.1).bind fun y2=>
  bif y2.1==0 then
   some ((y1.1.1,y1.1.2.1,y1.1.2.2.1,y1.1.2.2.2.1,()),((),(),()))
  else
   bif decide (f>262144)then
    (g119 m).bind fun y3=>
    some ((y3.1.1,y3.1.2.1,y3.1.2.2.1,y3.1.2.2.2.1,()),((),(),()))
   else
    bif decide (f<(-262144))then
     (g119 m).bind fun y4=>
     some ((y4.1.1,y4.1.2.1,y4.1.2.2.1,y4.1.2.2.2.1,()),((),(),()))
    else
     (g120 m y1.1.2.1 y1.1.2.2.1 (w_i64 (y1.1.2.2.2.1+f))).bind fun y5=>
     some ((y5.1.1,y5.1.2.1,y5.1.2.2.1,y5.1.2.2.2.1,()),((),(),()))
def g156 (m:Nat) (a:Bool) (b:Int):Option (Int×Unit×Unit×Unit):=
 bif a then
  some (b_or_ .u64 b 9223372036854775808,((),(),()))
 else
  some (b,((),(),()))
def g153 (m:Nat) (a:Bool) (b:Int):Option (Int×Unit×Unit×Unit):=
 bif b==3 then
  (g156 m a 9218868437227405311).bind fun y1=>
  some (y1.1,((),(),()))
 else
  bif b==1 then
   bif !a then
    (g156 m a 9218868437227405311).bind fun y2=>
    some (y2.1,((),(),()))
   else
    bif b==2 then
     bif a then
      (g156 m a 9218868437227405311).bind fun y3=>
      some (y3.1,((),(),()))
     else
      (g156 m a 9218868437227405312).bind fun y4=>
      some (y4.1,((),(),()))
    else
     (g156 m a 9218868437227405312).bind fun y5=>
     some (y5.1,((),(),()))
  else
   bif b==2 then
    bif a then
     (g156 m a 9218868437227405311).bind fun y6=>
     some (y6.1,((),(),()))
    else
     (g156 m a 9218868437227405312).bind fun y7=>
     some (y7.1,((),(),()))
   else
    (g156 m a 9218868437227405312).bind fun y8=>
    some (y8.1,((),(),()))
def g169 (m:Nat) (a:Bool) (b:List Int) (c:Int):Option (Bool×Unit×Unit×Unit):=
 (g104 m b).bind fun y1=>
 (g172 m y1.1 c).bind fun y2=>
 some (y2.1.2.1,((),(),()))
def g170 (m:Nat) (a:Bool) (b:Int) (c:Bool) (d:Int):Option (Bool×Unit×Unit×Unit×Unit×Unit):=
 bif d==1 then
  some (a,((),(),(),(),()))
 else
  bif d==2 then
   some (!a,((),(),(),(),()))
  else
   bif d==3 then
    some (false,((),(),(),(),()))
   else
    bif decide (b>0)then
     some (true,((),(),(),(),()))
    else
     bif b==0 then
      some (c,((),(),(),(),()))
     else
      some (false,((),(),(),(),()))
def g154 (m:Nat) (a:Bool) (b:Bool) (c:List Int) (d:Int) (f:Bool) (h:Int):Option ((Bool×List Int×Unit)×Unit×Unit×Unit×Unit×Unit×Unit):=
 (g158 m b c d).bind fun y1=>
 (g169 m b c d).bind fun y2=>
 bif !y2.1 then
  bif !f then
   some ((y1.1.1,y1.1.2.1,()),((),(),(),(),(),()))
  else
   bif decide (d>0)then
    (g158 m b c (w_i64 (d-1))).bind fun y3=>
    (g157 m y3.1.1 y3.1.2.1).bind fun y4=>
    bif y4.1==0 then
     (g113 m y3.1.1 y3.1.2.1).bind fun y5=>
     bif y5.1 !=0 then
      bif f then
       (g113 m y1.1.1 y1.1.2.1).bind fun y6=>
       bif y6.1 !=0 then
        (g157 m y1.1.1 y1.1.2.1).bind fun y7=>
        (g170 m a 1 (y7.1==0) h).bind fun y8=>
        bif y8.1 then
         (g57 m 1).bind fun y9=>
         (g56 m y1.1.1 y1.1.2.1 y9.1.1 y9.1.2.1).bind fun y10=>
         some ((y10.1.1,y10.1.2.1,()),((),(),(),(),(),()))
        else
         some ((y1.1.1,y1.1.2.1,()),((),(),(),(),(),()))
       else
        (g170 m a 1 false h).bind fun y11=>
        bif y11.1 then
         (g57 m 1).bind fun y12=>
         (g56 m y1.1.1 y1.1.2.1 y12.1.1 y12.1.2.1).bind fun y13=>
         some ((y13.1.1,y13.1.2.1,()),((),(),(),(),(),()))
        else
         some ((y1.1.1,y1.1.2.1,()),((),(),(),(),(),()))
      else
       (g169 m b c (w_i64 (d-1))).bind fun y14=>
       bif y14.1 then
        (g113 m y1.1.1 y1.1.2.1).bind fun y15=>
        bif y15.1 !=0 then
         (g157 m y1.1.1 y1.1.2.1).bind fun y16=>
         (g170 m a 1 (y16.1==0) h).bind fun y17=>
         bif y17.1 then
          (g57 m 1).bind fun y18=>
          (g56 m y1.1.1 y1.1.2.1 y18.1.1 y18.1.2.1).bind fun y19=>
          some ((y19.1.1,y19.1.2.1,()),((),(),(),(),(),()))
         else
          some ((y1.1.1,y1.1.2.1,()),((),(),(),(),(),()))
        else
         (g170 m a 1 false h).bind fun y20=>
         bif y20.1 then
          (g57 m 1).bind fun y21=>
          (g56 m y1.1.1 y1.1.2.1 y21.1.1 y21.1.2.1).bind fun y22=>
          some ((y22.1.1,y22.1.2.1,()),((),(),(),(),(),()))
         else
          some ((y1.1.1,y1.1.2.1,()),((),(),(),(),(),()))
       else
        (g113 m y1.1.1 y1.1.2.1).bind fun y23=>
        bif y23.1 !=0 then
         (g157 m y1.1.1 y1.1.2.1).bind fun y24=>
         (g170 m a 0 (y24.1==0) h).bind fun y25=>
         bif y25.1 then
          (g57 m 1).bind fun y26=>
          (g56 m y1.1.1 y1.1.2.1 y26.1.1 y26.1.2.1).bind fun y27=>
          some ((y27.1.1,y27.1.2.1,()),((),(),(),(),(),()))
         else
          some ((y1.1.1,y1.1.2.1,()),((),(),(),(),(),()))
        else
         (g170 m a 0 false h).bind fun y28=>
         bif y28.1 then
          (g57 m 1).bind fun y29=>
          (g56 m y1.1.1 y1.1.2.1 y29.1.1 y29.1.2.1).bind fun y30=>
          some ((y30.1.1,y30.1.2.1,()),((),(),(),(),(),()))
         else
          some ((y1.1.1,y1.1.2.1,()),((),(),(),(),(),()))
     else
      (g113 m y1.1.1 y1.1.2.1).bind fun y31=>
      bif y31.1 !=0 then
       (g157 m y1.1.1 y1.1.2.1).bind fun y32=>
       (g170 m a (-1) (y32.1==0) h).bind fun y33=>
       bif y33.1 then
        (g57 m 1).bind fun y34=>
        (g56 m y1.1.1 y1.1.2.1 y34.1.1 y34.1.2.1).bind fun y35=>
        some ((y35.1.1,y35.1.2.1,()),((),(),(),(),(),()))
       else
        some ((y1.1.1,y1.1.2.1,()),((),(),(),(),(),()))
      else
       (g170 m a (-1) false h).bind fun y36=>
       bif y36.1 then
        (g57 m 1).bind fun y37=>
        (g56 m y1.1.1 y1.1.2.1 y37.1.1 y37.1.2.1).bind fun y38=>
        some ((y38.1.1,y38.1.2.1,()),((),(),(),(),(),()))
       else
        some ((y1.1.1,y1.1.2.1,()),((),(),(),(),(),()))
    else
     (g113 m y1.1.1 y1.1.2.1).bind fun y39=>
     bif y39.1 !=0 then
      (g157 m y1.1.1 y1.1.2.1).bind fun y40=>
      (g170 m a (-1) (y40.1==0) h).bind fun y41=>
      bif y41.1 then
       (g57 m 1).bind fun y42=>
       (g56 m y1.1.1 y1.1.2.1 y42.1.1 y42.1.2.1).bind fun y43=>
       some ((y43.1.1,y43.1.2.1,()),((),(),(),(),(),()))
      else
       some ((y1.1.1,y1.1.2.1,()),((),(),(),(),(),()))
     else
      (g170 m a (-1) false h).bind fun y44=>
      bif y44.1 then
       (g57 m 1).bind fun y45=>
       (g56 m y1.1.1 y1.1.2.1 y45.1.1 y45.1.2.1).bind fun y46=>
       some ((y46.1.1,y46.1.2.1,()),((),(),(),(),(),()))
      else
       some ((y1.1.1,y1.1.2.1,()),((),(),(),(),(),()))
   else
    (g113 m y1.1.1 y1.1.2.1).bind fun y47=>
    bif y47.1 !=0 then
     (g157 m y1.1.1 y1.1.2.1).bind fun y48=>
     (g170 m a (-1) (y48.1==0) h).bind fun y49=>
     bif y49.1 then
      (g57 m 1).bind fun y50=>
      (g56 m y1.1.1 y1.1.2.1 y50.1.1 y50.1.2.1).bind fun y51=>
      some ((y51.1.1,y51.1.2.1,()),((),(),(),(),(),()))
     else
      some ((y1.1.1,y1.1.2.1,()),((),(),(),(),(),()))
    else
     (g170 m a (-1) false h).bind fun y52=>
     bif y52.1 then
      (g57 m 1).bind fun y53=>
      (g56 m y1.1.1 y1.1.2.1 y53.1.1 y53.1.2.1).bind fun y54=>
      some ((y54.1.1,y54.1.2.1,()),((),(),(),(),(),()))
     else
      some ((y1.1.1,y1.1.2.1,()),((),(),(),(),(),()))
 else
  bif decide (d>0)then
   (g158 m b c (w_i64 (d-1))).bind fun y55=>
   (g157 m y55.1.1 y55.1.2.1).bind fun y56=>
   bif y56.1==0 then
    (g113 m y55.1.1 y55.1.2.1).bind fun y57=>
    bif y57.1 !=0 then
     bif f then
      (g113 m y1.1.1 y1.1.2.1).bind fun y58=>
      bif y58.1 !=0 then
       (g157 m y1.1.1 y1.1.2.1).bind fun y59=>
       (g170 m a 1 (y59.1==0) h).bind fun y60=>
       bif y60.1 then
        (g57 m 1).bind fun y61=>
        (g56 m y1.1.1 y1.1.2.1 y61.1.1 y61.1.2.1).bind fun y62=>
        some ((y62.1.1,y62.1.2.1,()),((),(),(),(),(),()))
       else
        some ((y1.1.1,y1.1.2.1,()),((),(),(),(),(),()))
      else
       (g170 m a 1 false h).bind fun y63=>
       bif y63.1 then
        (g57 m 1).bind fun y64=>
        (g56 m y1.1.1 y1.1.2.1 y64.1.1 y64.1.2.1).bind fun y65=>
        some ((y65.1.1,y65.1.2.1,()),((),(),(),(),(),()))
       else
        some ((y1.1.1,y1.1.2.1,()),((),(),(),(),(),()))
     else
      (g169 m b c (w_i64 (d-1))).bind fun y66=>
      bif y66.1 then
       (g113 m y1.1.1 y1.1.2.1).bind fun y67=>
       bif y67.1 !=0 then
        (g157 m y1.1.1 y1.1.2.1).bind fun y68=>
        (g170 m a 1 (y68.1==0) h).bind fun y69=>
        bif y69.1 then
         (g57 m 1).bind fun y70=>
         (g56 m y1.1.1 y1.1.2.1 y70.1.1 y70.1.2.1).bind fun y71=>
         some ((y71.1.1,y71.1.2.1,()),((),(),(),(),(),()))
        else
         some ((y1.1.1,y1.1.2.1,()),((),(),(),(),(),()))
       else
        (g170 m a 1 false h).bind fun y72=>
        bif y72.1 then
         (g57 m 1).bind fun y73=>
         (g56 m y1.1.1 y1.1.2.1 y73.1.1 y73.1.2.1).bind fun y74=>
         some ((y74.1.1,y74.1.2.1,()),((),(),(),(),(),()))
        else
         some ((y1.1.1,y1.1.2.1,()),((),(),(),(),(),()))
      else
       (g113 m y1.1.1 y1.1.2.1).bind fun y75=>
       bif y75.1 !=0 then
        (g157 m y1.1.1 y1.1.2.1).bind fun y76=>
        (g170 m a 0 (y76.1==0) h).bind fun y77=>
        bif y77.1 then
         (g57 m 1).bind fun y78=>
         (g56 m y1.1.1 y1.1.2.1 y78.1.1 y78.1.2.1).bind fun y79=>
         some ((y79.1.1,y79.1.2.1,()),((),(),(),(),(),()))
        else
         some ((y1.1.1,y1.1.2.1,()),((),(),(),(),(),()))
       else
        (g170 m a 0 false h).bind fun y80=>
        bif y80.1 then
         (g57 m 1).bind fun y81=>
         (g56 m y1.1.1 y1.1.2.1 y81.1.1 y81.1.2.1).bind fun y82=>
         some ((y82.1.1,y82.1.2.1,()),((),(),(),(),(),()))
        else
         some ((y1.1.1,y1.1.2.1,()),((),(),(),(),(),()))
    else
     (g113 m y1.1.1 y1.1.2.1).bind fun y83=>
     bif y83.1 !=0 then
      (g157 m y1.1.1 y1.1.2.1).bind fun y84=>
      (g170 m a (-1) (y84.1==0) h).bind fun y85=>
      bif y85.1 then
       (g57 m 1).bind fun y86=>
       (g56 m y1.1.1 y1.1.2.1 y86.1.1 y86.1.2.1).bind fun y87=>
       some ((y87.1.1,y87.1.2.1,()),((),(),(),(),(),()))
      else
       some ((y1.1.1,y1.1.2.1,()),((),(),(),(),(),()))
     else
      (g170 m a (-1) false h).bind fun y88=>
      bif y88.1 then
       (g57 m 1).bind fun y89=>
       (g56 m y1.1.1 y1.1.2.1 y89.1.1 y89.1.2.1).bind fun y90=>
       some ((y90.1.1,y90.1.2.1,()),((),(),(),(),(),()))
      else
       some ((y1.1.1,y1.1.2.1,()),((),(),(),(),(),()))
   else
    (g113 m y1.1.1 y1.1.2.1).bind fun y91=>
    bif y91.1 !=0 then
     (g157 m y1.1.1 y1.1.2.1).bind fun y92=>
     (g170 m a (-1) (y92.1==0) h).bind fun y93=>
     bif y93.1 then
      (g57 m 1).bind fun y94=>
      (g56 m y1.1.1 y1.1.2.1 y94.1.1 y94.1.2.1).bind fun y95=>
      some ((y95.1.1,y95.1.2.1,()),((),(),(),(),(),()))
     else
      some ((y1.1.1,y1.1.2.1,()),((),(),(),(),(),()))
    else
     (g170 m a (-1) false h).bind fun y96=>
     bif y96.1 then
      (g57 m 1).bind fun y97=>
      (g56 m y1.1.1 y1.1.2.1 y97.1.1 y97.1.2.1).bind fun y98=>
      some ((y98.1.1,y98.1.2.1,()),((),(),(),(),(),()))
     else
      some ((y1.1.1,y1.1.2.1,()),((),(),(),(),(),()))
  else
   (g113 m y1.1.1 y1.1.2.1).bind fun y99=>
   bif y99.1 !=0 then
    (g157 m y1.1.1 y1.1.2.1).bind fun y100=>
    (g170 m a (-1) (y100.1==0) h).bind fun y101=>
    bif y101.1 then
     (g57 m 1).bind fun y102=>
     (g56 m y1.1.1 y1.1.2.1 y102.1.1 y102.1.2.1).bind fun y103=>
     some ((y103.1.1,y103.1.2.1,()),((),(),(),(),(),()))
    else
     some ((y1.1.1,y1.1.2.1,()),((),(),(),(),(),()))
   else
    (g170 m a (-1) false h).bind fun y104=>
    bif y104.1 then
     (g57 m 1).bind fun y105=>
     (g56 m y1.1.1 y1.1.2.1 y105.1.1 y105.1.2.1).bind fun y106=>
     some ((y106.1.1,y106.1.2.1,()),((),(),(),(),(),()))
    else
     some ((y1.1.1,y1.1.2.1,()),((),(),(),(),(),()))
def g58_L0 (m:Nat):Nat→Bool→List Int→Int→Int→Option (((Bool×List Int×Unit)×Int×Unit)⊕Empty)
 |0,_,_,_,_=>none
 |n+1,a,b,c,d=>
  bif decide (d<(b.length:Int))then
   if(0:Int)≤d∧d<(b.length:Int)then
   if(0:Int)≤(w_i64 (32*d))then
   g58_L0 m n a b (b_or_ .u64 c (shl_ .u64 (w_u64 (b.getD (0+d.toNat) 0)) (w_i64 (32*d)))) (w_i64 (d+1))
   else none
   else none
  else
   some (.inl ((a,b,()),c,()))
def g58 (m:Nat) (a:Bool) (b:List Int):Option ((Int×Bool×Unit)×Unit×Unit):=
 (g109 m a b).bind fun y1=>
 bif decide ((y1.1.2.1.length:Int)>2)then
  some ((0,false,()),((),()))
 else
  (g58_L0 m m y1.1.1 y1.1.2.1 0 0).bind fun y2=>
  match y2 with
  | .inl z3=>
   bif z3.1.1 then
    bif decide (z3.2.1>9223372036854775808)then
     some ((0,false,()),((),()))
    else
     some ((w_i64 ((w_i64 (0-(w_i64 (w_u64 (z3.2.1-1)))))-1),true,()),((),()))
   else
    bif decide (z3.2.1>9223372036854775807)then
     some ((0,false,()),((),()))
    else
     some ((w_i64 z3.2.1,true,()),((),()))
  | .inr e=>
   e.elim
def g117 (m:Nat) (a:Bool) (b:Bool) (c:List Int) (d:Int) (f:Bool) (h:Int):Option (Int×Unit×Unit×Unit×Unit×Unit×Unit):=
 (g152 m b c).bind fun y1=>
 bif decide ((w_i64 ((w_i64 (d+y1.1))-1))≥1024)then
  (g153 m a h).bind fun y2=>
  some (y2.1,((),(),(),(),(),()))
 else
  bif decide ((if(-1074)>(w_i64 ((w_i64 ((w_i64 (d+y1.1))-1))-52))then(-1074)else(w_i64 ((w_i64 ((w_i64 (d+y1.1))-1))-52)))≥d)then
   (g154 m a b c (w_i64 ((if(-1074)>(w_i64 ((w_i64 ((w_i64 (d+y1.1))-1))-52))then(-1074)else(w_i64 ((w_i64 ((w_i64 (d+y1.1))-1))-52)))-d)) f h).bind fun y3=>
   (g58 m y3.1.1 y3.1.2.1).bind fun y4=>
   bif y4.1.1==9007199254740992 then
    bif decide ((w_i64 ((w_i64 ((if(-1074)>(w_i64 ((w_i64 ((w_i64 (d+y1.1))-1))-52))then(-1074)else(w_i64 ((w_i64 ((w_i64 (d+y1.1))-1))-52)))+1))+53))>1024)then
     (g153 m a h).bind fun y5=>
     some (y5.1,((),(),(),(),(),()))
    else
     (g156 m a (b_or_ .u64 (shl_ .u64 (w_u64 (w_i64 ((w_i64 ((if(-1074)>(w_i64 ((w_i64 ((w_i64 (d+y1.1))-1))-52))then(-1074)else(w_i64 ((w_i64 ((w_i64 (d+y1.1))-1))-52)))+1))+1075))) 52) 0)).bind fun y6=>
     some (y6.1,((),(),(),(),(),()))
   else
    bif decide (y4.1.1≥4503599627370496)then
     bif decide ((w_i64 ((if(-1074)>(w_i64 ((w_i64 ((w_i64 (d+y1.1))-1))-52))then(-1074)else(w_i64 ((w_i64 ((w_i64 (d+y1.1))-1))-52)))+53))>1024)then
      (g153 m a h).bind fun y7=>
      some (y7.1,((),(),(),(),(),()))
     else
      bif decide (y4.1.1≥4503599627370496)then
       (g156 m a (b_or_ .u64 (shl_ .u64 (w_u64 (w_i64 ((if(-1074)>(w_i64 ((w_i64 ((w_i64 (d+y1.1))-1))-52))then(-1074)else(w_i64 ((w_i64 ((w_i64 (d+y1.1))-1))-52)))+1075))) 52) (w_u64 (w_i64 (y4.1.1-4503599627370496))))).bind fun y8=>
       some (y8.1,((),(),(),(),(),()))
      else
       (g156 m a (w_u64 y4.1.1)).bind fun y9=>
       some (y9.1,((),(),(),(),(),()))
    else
     bif decide (y4.1.1≥4503599627370496)then
      (g156 m a (b_or_ .u64 (shl_ .u64 (w_u64 (w_i64 ((if(-1074)>(w_i64 ((w_i64 ((w_i64 (d+y1.1))-1))-52))then(-1074)else(w_i64 ((w_i64 ((w_i64 (d+y1.1))-1))-52)))+1075))) 52) (w_u64 (w_i64 (y4.1.1-4503599627370496))))).bind fun y10=>
      some (y10.1,((),(),(),(),(),()))
     else
      (g156 m a (w_u64 y4.1.1)).bind fun y11=>
      some (y11.1,((),(),(),(),(),()))
  else
   (g155 m b c (w_i64 (d-(if(-1074)>(w_i64 ((w_i64 ((w_i64 (d+y1.1))-1))-52))then(-1074)else(w_i64 ((w_i64 ((w_i64 (d+y1.1))-1))-52)))))).bind fun y12=>
   (g58 m y12.1.1 y12.1.2.1).bind fun y13=>
   bif y13.1.1==9007199254740992 then
    bif decide ((w_i64 ((w_i64 ((if(-1074)>(w_i64 ((w_i64 ((w_i64 (d+y1.1))-1))-52))then(-1074)else(w_i64 ((w_i64 ((w_i64 (d+y1.1))-1))-52)))+1))+53))>1024)then
     (g153 m a h).bind fun y14=>
     some (y14.1,((),(),(),(),(),()))
    else
     (g156 m a (b_or_ .u64 (shl_ .u64 (w_u64 (w_i64 ((w_i64 ((if(-1074)>(w_i64 ((w_i64 ((w_i64 (d+y1.1))-1))-52))then(-1074)else(w_i64 ((w_i64 ((w_i64 (d+y1.1))-1))-52)))+1))+1075))) 52) 0)).bind fun y15=>
     some (y15.1,((),(),(),(),(),()))
   else
    bif decide (y13.1.1≥4503599627370496)then
     bif decide ((w_i64 ((if(-1074)>(w_i64 ((w_i64 ((w_i64 (d+y1.1))-1))-52))then(-1074)else(w_i64 ((w_i64 ((w_i64 (d+y1.1))-1))-52)))+53))>1024)then
      (g153 m a h).bind fun y16=>
      some (y16.1,((),(),(),(),(),()))
     else
      bif decide (y13.1.1≥4503599627370496)then
       (g156 m a (b_or_ .u64 (shl_ .u64 (w_u64 (w_i64 ((if(-1074)>(w_i64 ((w_i64 ((w_i64 (d+y1.1))-1))-52))then(-1074)else(w_i64 ((w_i64 ((w_i64 (d+y1.1))-1))-52)))+1075))) 52) (w_u64 (w_i64 (y13.1.1-4503599627370496))))).bind fun y17=>
       some (y17.1,((),(),(),(),(),()))
      else
       (g156 m a (w_u64 y13.1.1)).bind fun y18=>
       some (y18.1,((),(),(),(),(),()))
    else
     bif decide (y13.1.1≥4503599627370496)then
      (g156 m a (b_or_ .u64 (shl_ .u64 (w_u64 (w_i64 ((if(-1074)>(w_i64 ((w_i64 ((w_i64 (d+y1.1))-1))-52))then(-1074)else(w_i64 ((w_i64 ((w_i64 (d+y1.1))-1))-52)))+1075))) 52) (w_u64 (w_i64 (y13.1.1-4503599627370496))))).bind fun y19=>
      some (y19.1,((),(),(),(),(),()))
     else
      (g156 m a (w_u64 y13.1.1)).bind fun y20=>
      some (y20.1,((),(),(),(),(),()))
def g70 (m:Nat) (a:Bool) (b:Bool) (c:List Int) (d:Int) (f:Int):Option (Int×Unit×Unit×Unit):=
 (g116 m a b c d).bind fun y1=>
 bif y1.1.1 then
  some (9221120237041090560,((),(),()))
 else
  (g113 m y1.1.2.1 y1.1.2.2.1).bind fun y2=>
  bif y2.1==0 then
   some (0,((),(),()))
  else
   (g118 m y1.1.2.1 y1.1.2.2.1).bind fun y3=>
   (g117 m y1.1.2.1 y3.1.1 y3.1.2.1 y1.1.2.2.2.1 false f).bind fun y4=>
   some (y4.1,((),(),()))
def g27 (m:Nat) (a:Int):Option (Int×Unit×Unit):=
 (g8 m a 17).bind fun y1=>
 bif (Int.tmod (w_i64 (w_u64 (Int.tdiv (w_u64 a) 17))) 3)==0 then
  (g72 m (w_i64 (y1.1-8))).bind fun y2=>
  (g71 m y2.1.1 y2.1.2.1 y2.1.2.2.1 y2.1.2.2.2.1 (w_i64 ((Int.tmod (w_i64 (Int.tdiv (w_i64 (w_u64 (Int.tdiv (w_u64 a) 17))) 3)) 13)-6))).bind fun y3=>
  (g70 m y3.1.1 y3.1.2.1 y3.1.2.2.1 y3.1.2.2.2.1 0).bind fun y4=>
  some (y4.1,((),()))
 else
  (g72 m (w_i64 (y1.1-8))).bind fun y5=>
  (g71 m y5.1.1 y5.1.2.1 y5.1.2.2.1 y5.1.2.2.2.1 0).bind fun y6=>
  (g70 m y6.1.1 y6.1.2.1 y6.1.2.2.1 y6.1.2.2.2.1 0).bind fun y7=>
  some (y7.1,((),()))
def g28_L2 (m:Nat):Nat→Int→Int→(List (Int×Int×Int))→Int→Int→List Int→List Int→List Int→Int→Int→List Int→List Int→List Int→List Int→Int→Int→Option ((Int×Int×(List (Int×Int×Int))×(Int×Int×List Int×List Int×List Int×Unit)×(Int×Int×List Int×List Int×List Int×Unit)×List Int×Int×Unit)⊕Empty)
 |0,_,_,_,_,_,_,_,_,_,_,_,_,_,_,_,_=>none
 |n+1,a,b,c,d,f,h,i,j,k,l,o,p,q,r,s,t=>
  bif decide (t<a)then
   if(0:Int)≤(w_i64 ((w_i64 (s*a))+t))∧(w_i64 ((w_i64 (s*a))+t))<(r.length:Int)then
   bif decide ((r.getD (0+(w_i64 ((w_i64 (s*a))+t)).toNat) 0)>0)then
    if p.length+([t]:List Int).length≤1073741824 then
    if(0:Int)≤(w_i64 ((r.getD (0+(w_i64 ((w_i64 (s*a))+t)).toNat) 0)-1))∧(w_i64 ((r.getD (0+(w_i64 ((w_i64 (s*a))+t)).toNat) 0)-1))<(c.length:Int)then
    if q.length+([(c.getD (w_i64 ((r.getD (0+(w_i64 ((w_i64 (s*a))+t)).toNat) 0)-1)).toNat (0,(0,0))).2.2]:List Int).length≤1073741824 then
    g28_L2 m n a b c d f h i j k l o (p++([t]:List Int)) (q++([(c.getD (w_i64 ((r.getD (0+(w_i64 ((w_i64 (s*a))+t)).toNat) 0)-1)).toNat (0,(0,0))).2.2]:List Int)) r s (w_i64 (t+1))
    else none
    else none
    else none
   else
    g28_L2 m n a b c d f h i j k l o p q r s (w_i64 (t+1))
   else none
  else
   some (.inl (a,b,c,(d,f,h,i,j,()),(k,l,o,p,q,()),r,s,()))
def g28_L1 (m:Nat):Nat→Int→Int→(List (Int×Int×Int))→Int→Int→List Int→List Int→List Int→Int→Int→List Int→List Int→List Int→List Int→Int→Option (((Int×Int×List Int×List Int×List Int×Unit)×(Int×Int×List Int×List Int×List Int×Unit)×Unit)⊕Empty)
 |0,_,_,_,_,_,_,_,_,_,_,_,_,_,_,_=>none
 |n+1,a,b,c,d,f,h,i,j,k,l,o,p,q,r,s=>
  bif decide (s<b)then
   (g28_L2 m m a b c d f h i j k l o p q r s 0).bind fun y1=>
   match y1 with
   | .inl z2=>
    if z2.2.2.2.2.1.2.2.1.length+([(z2.2.2.2.2.1.2.2.2.1.length:Int)]:List Int).length≤1073741824 then
    g28_L1 m n z2.1 z2.2.1 z2.2.2.1 z2.2.2.2.1.1 z2.2.2.2.1.2.1 z2.2.2.2.1.2.2.1 z2.2.2.2.1.2.2.2.1 z2.2.2.2.1.2.2.2.2.1 z2.2.2.2.2.1.1 z2.2.2.2.2.1.2.1 (z2.2.2.2.2.1.2.2.1++([(z2.2.2.2.2.1.2.2.2.1.length:Int)]:List Int)) z2.2.2.2.2.1.2.2.2.1 z2.2.2.2.2.1.2.2.2.2.1 z2.2.2.2.2.2.1 (w_i64 (z2.2.2.2.2.2.2.1+1))
    else none
   | .inr e=>
    e.elim
  else
   some (.inl ((d,f,h,i,j,()),(k,l,o,p,q,()),()))
def g28_L0 (m:Nat):Nat→Int→Int→(List (Int×Int×Int))→Int→Int→List Int→List Int→List Int→Int→Int→List Int→List Int→List Int→List Int→Int→Option ((Int×Int×(List (Int×Int×Int))×(Int×Int×List Int×List Int×List Int×Unit)×(Int×Int×List Int×List Int×List Int×Unit)×List Int×Unit)⊕Empty)
 |0,_,_,_,_,_,_,_,_,_,_,_,_,_,_,_=>none
 |n+1,a,b,c,d,f,h,i,j,k,l,o,p,q,r,s=>
  bif decide (s<(c.length:Int))then
   if(0:Int)≤s∧s<(c.length:Int)then
   if(0:Int)≤s∧s<(c.length:Int)then
   if(0:Int)≤(w_i64 ((w_i64 ((c.getD s.toNat (0,(0,0))).2.1*a))+(c.getD s.toNat (0,(0,0))).1))∧(w_i64 ((w_i64 ((c.getD s.toNat (0,(0,0))).2.1*a))+(c.getD s.toNat (0,(0,0))).1))<(r.length:Int)then
   g28_L0 m n a b c d f h i j k l o p q (r.set (0+(w_i64 ((w_i64 ((c.getD s.toNat (0,(0,0))).2.1*a))+(c.getD s.toNat (0,(0,0))).1)).toNat) (w_i64 (s+1))) (w_i64 (s+1))
   else none
   else none
   else none
  else
   some (.inl (a,b,c,(d,f,h,i,j,()),(k,l,o,p,q,()),r,()))
def g28 (m:Nat) (a:Int) (b:Int) (c:List (Int×Int×Int)):Option ((Int×Int×List Int×List Int×List Int×Unit)×Unit×Unit×Unit×Unit):=
 if(0:Int)≤(w_i64 (a*b))∧(w_i64 (a*b))≤(w_i64 (a*b))∧(w_i64 (a*b))≤1073741824 then
 (g28_L0 m m a b c 0 0 ([]:List Int) ([]:List Int) ([]:List Int) a b ([0]:List Int) ([]:List Int) ([]:List Int) (List.replicate (w_i64 (a*b)).toNat (0:Int)) 0).bind fun y1=>
 match y1 with
 | .inl z2=>
  (g28_L1 m m z2.1 z2.2.1 z2.2.2.1 z2.2.2.2.1.1 z2.2.2.2.1.2.1 z2.2.2.2.1.2.2.1 z2.2.2.2.1.2.2.2.1 z2.2.2.2.1.2.2.2.2.1 z2.2.2.2.2.1.1 z2.2.2.2.2.1.2.1 z2.2.2.2.2.1.2.2.1 z2.2.2.2.2.1.2.2.2.1 z2.2.2.2.2.1.2.2.2.2.1 z2.2.2.2.2.2.1 0).bind fun y3=>
  match y3 with
  | .inl z4=>
   some ((z4.2.1.1,z4.2.1.2.1,z4.2.1.2.2.1,z4.2.1.2.2.2.1,z4.2.1.2.2.2.2.1,()),((),(),(),()))
  | .inr e=>
   e.elim
 | .inr e=>
  e.elim
 else none
def g9_L1 (m:Nat):Nat→Int→List Int→Int→Int→List Int→List Int→List Int→(List (Int×Int×Int))→Int→Option ((Int×(Int×Int×List Int×List Int×List Int×Unit)×(List (Int×Int×Int))×Unit)⊕Empty)
 |0,_,_,_,_,_,_,_,_,_=>none
 |n+1,a,b,c,d,f,h,i,j,k=>
  bif decide ((w_i64 (k+2))<(b.length:Int))then
   bif decide (a>0)then
    if(0:Int)≤k∧k<(b.length:Int)then
    (g8 m (b.getD k.toNat 0) a).bind fun y1=>
    if(0:Int)≤(w_i64 (k+1))∧(w_i64 (k+1))<(b.length:Int)then
    (g8 m (b.getD (w_i64 (k+1)).toNat 0) a).bind fun y2=>
    if(0:Int)≤(w_i64 (k+2))∧(w_i64 (k+2))<(b.length:Int)then
    (g27 m (b.getD (w_i64 (k+2)).toNat 0)).bind fun y3=>
    if j.length+([(y1.1,(y2.1,y3.1))]:List (Int×Int×Int)).length≤1073741824 then
    g9_L1 m n a b c d f h i (j++([(y1.1,(y2.1,y3.1))]:List (Int×Int×Int))) (w_i64 (k+3))
    else none
    else none
    else none
    else none
   else
    some (.inl (a,(c,d,f,h,i,()),j,()))
  else
   some (.inl (a,(c,d,f,h,i,()),j,()))
def g9_L0 (m:Nat):Nat→Int→List Int→Int→Int→List Int→List Int→List Int→(List (Int×Int×Int))→Int→Option ((Int×List Int×(Int×Int×List Int×List Int×List Int×Unit)×(List (Int×Int×Int))×Unit)⊕Empty)
 |0,_,_,_,_,_,_,_,_,_=>none
 |n+1,a,b,c,d,f,h,i,j,k=>
  bif decide (k<a)then
   (g10 m b k).bind fun y1=>
   (g27 m (w_i64 (y1.1+1))).bind fun y2=>
   if j.length+([(k,(k,y2.1))]:List (Int×Int×Int)).length≤1073741824 then
   g9_L0 m n a b c d f h i (j++([(k,(k,y2.1))]:List (Int×Int×Int))) (w_i64 (k+1))
   else none
  else
   some (.inl (a,b,(c,d,f,h,i,()),j,()))
def g9 (m:Nat) (a:Int) (b:List Int):Option ((Int×Int×List Int×List Int×List Int×Unit)×Unit×Unit×Unit):=
 (g9_L0 m m a b 0 0 ([]:List Int) ([]:List Int) ([]:List Int) ([]:List (Int×Int×Int)) 0).bind fun y1=>
 match y1 with
 | .inl z2=>
  (g9_L1 m m z2.1 z2.2.1 z2.2.2.1.1 z2.2.2.1.2.1 z2.2.2.1.2.2.1 z2.2.2.1.2.2.2.1 z2.2.2.1.2.2.2.2.1 z2.2.2.2.1 z2.1).bind fun y3=>
  match y3 with
  | .inl z4=>
   (g28 m z4.1 z4.1 z4.2.2.1).bind fun y5=>
   some ((y5.1.1,y5.1.2.1,y5.1.2.2.1,y5.1.2.2.2.1,y5.1.2.2.2.2.1,()),((),(),()))
  | .inr e=>
   e.elim
 | .inr e=>
  e.elim
def g31 (m:Nat) (a:Int):Option (Int×Unit×Unit):=
 (g77 m a).bind fun y1=>
 bif y1.1.1==2047 then
  bif y1.1.2.1 !=0 then
   some (3,((),()))
  else
   bif y1.1.1==2047 then
    some (2,((),()))
   else
    bif y1.1.1==0 then
     bif y1.1.2.1==0 then
      some (0,((),()))
     else
      some (1,((),()))
    else
     some (1,((),()))
 else
  bif y1.1.1==2047 then
   some (2,((),()))
  else
   bif y1.1.1==0 then
    bif y1.1.2.1==0 then
     some (0,((),()))
    else
     some (1,((),()))
   else
    some (1,((),()))
def g33 (m:Nat) (a:Bool) (b:Bool) (c:List Int) (d:Int) (f:Int):Option ((Bool×Bool×List Int×Int×Unit)×Unit×Unit×Unit):=
 (g78 m a b c d).bind fun y1=>
 bif !y1.1.2.1 then
  (g79 m).bind fun y2=>
  some ((y2.1.1,y2.1.2.1,y2.1.2.2.1,y2.1.2.2.2.1,()),((),(),()))
 else
  (g80 m y1.1.1.2.1 y1.1.1.2.2.1 (w_i64 (y1.1.1.2.2.2.1+(if(-262144)>(if 262144<f then 262144 else f)then(-262144)else(if 262144<f then 262144 else f))))).bind fun y3=>
  some ((y3.1.1,y3.1.2.1,y3.1.2.2.1,y3.1.2.2.2.1,()),((),(),()))
def g98 (m:Nat) (a:Bool) (b:Bool) (c:List Int) (d:Int):Option ((Bool×Bool×List Int×Int×Unit)×Unit×Unit):=
 (g78 m a b c d).bind fun y1=>
 some ((y1.1.1.1,y1.1.1.2.1,y1.1.1.2.2.1,y1.1.1.2.2.2.1,()),((),()))
def g50 (m:Nat) (a:Bool) (b:Bool) (c:List Int) (d:Int):Option (Int×Unit×Unit):=
 (g78 m a b c d).bind fun y1=>
 (g97 m y1.1.1.2.1 y1.1.1.2.2.1).bind fun y2=>
 some (y2.1,((),()))
def g142 (m:Nat) (a:Bool) (b:List Int):Option ((Bool×List Int×Unit)×Unit×Unit):=
 (g128 m b).bind fun y1=>
 (g127 m false y1.1).bind fun y2=>
 some ((y2.1.1,y2.1.2.1,()),((),()))
def g100 (m:Nat) (a:Bool) (b:Bool) (c:List Int) (d:Int):Option ((Bool×Bool×List Int×Int×Bool×Unit)×Unit×Unit):=
 (g142 m b c).bind fun y1=>
 some ((b,y1.1.1,y1.1.2.1,d,false,()),((),()))
def g140 (m:Nat) (a:Bool) (b:Bool) (c:List Int) (d:Int) (f:Bool):Option (Int×Unit×Unit):=
 (g125 m b c).bind fun y1=>
 some (w_i64 ((w_i64 (d+y1.1))-1),((),()))
def g146 (m:Nat) (a:Bool) (b:List Int) (c:Int):Option ((Bool×List Int×Unit)×Unit×Unit×Unit):=
 (g161 m a b c).bind fun y1=>
 some ((y1.1.1.1,y1.1.1.2.1,()),((),(),()))
def g133 (m:Nat) (a:Int) (b:Int):Option (Int×Unit×Unit×Unit):=
 (g163 m a).bind fun y1=>
 (g163 m b).bind fun y2=>
 bif y1.1 then
  bif y2.1 then
   some (0,((),(),()))
  else
   some ((-1),((),(),()))
 else
  bif y2.1 then
   some (1,((),(),()))
  else
   bif decide (a<b)then
    some ((-1),((),(),()))
   else
    bif decide (a>b)then
     some (1,((),(),()))
    else
     some (0,((),(),()))
def g180 (m:Nat) (a:Int):Option (Bool×Unit×Unit):=
 some (a !=a,((),()))
def g166 (m:Nat) (a:Int) (b:Int):Option (Int×Unit×Unit×Unit):=
 (g180 m a).bind fun y1=>
 (g180 m b).bind fun y2=>
 bif y1.1 then
  bif y2.1 then
   some (0,((),(),()))
  else
   some ((-1),((),(),()))
 else
  bif y2.1 then
   some (1,((),(),()))
  else
   bif decide (a<b)then
    some ((-1),((),(),()))
   else
    bif decide (a>b)then
     some (1,((),(),()))
    else
     some (0,((),(),()))
def g147_L0 (m:Nat):Nat→List Int→List Int→Int→Option ((Int×Unit)⊕Unit⊕Empty)
 |0,_,_,_=>none
 |n+1,a,b,c=>
  bif decide (c≥0)then
   if(0:Int)≤c∧c<(a.length:Int)then
   if(0:Int)≤c∧c<(b.length:Int)then
   bif (a.getD c.toNat 0) !=(b.getD c.toNat 0)then
    if(0:Int)≤c∧c<(a.length:Int)then
    if(0:Int)≤c∧c<(b.length:Int)then
    (g166 m (a.getD c.toNat 0) (b.getD c.toNat 0)).bind fun y1=>
    some (.inl (y1.1,()))
    else none
    else none
   else
    g147_L0 m n a b (w_i64 (c-1))
   else none
   else none
  else
   some (.inr (.inl ()))
def g147 (m:Nat) (a:List Int) (b:List Int):Option (Int×Unit×Unit×Unit):=
 bif (a.length:Int) !=(b.length:Int)then
  (g133 m (a.length:Int) (b.length:Int)).bind fun y1=>
  some (y1.1,((),(),()))
 else
  (g147_L0 m m a b (w_i64 ((a.length:Int)-1))).bind fun y2=>
  match y2 with
  | .inl z3=>
   some (z3.1,((),(),()))
  | .inr (.inl z4)=>
   some (0,((),(),()))
  | .inr (.inr e)=>
   e.elim
def g179_L0 (m:Nat):Nat→List Int→List Int→Int→List Int→Int→Int→Option ((List Int×Unit)⊕Empty)
 |0,_,_,_,_,_,_=>none
 |n+1,a,b,c,d,f,h=>
  bif decide (h<f)then
   if(0:Int)≤h∧h<(d.length:Int)then
   bif decide (h<(a.length:Int))then
    if(0:Int)≤h∧h<(a.length:Int)then
    if(0:Int)≤h∧h<(b.length:Int)then
    g179_L0 m n a (b.set (0+h.toNat) (w_u32 (qy .u64 (w_u64 ((w_u64 ((w_u64 (d.getD h.toNat 0))-c))-(w_u64 (a.getD h.toNat 0)))) 4294967295))) (qy .u64 (shr_ .u64 (w_u64 ((w_u64 ((w_u64 (d.getD h.toNat 0))-c))-(w_u64 (a.getD h.toNat 0)))) 32) 1) d f (w_i64 (h+1))
    else none
    else none
   else
    if(0:Int)≤h∧h<(b.length:Int)then
    g179_L0 m n a (b.set (0+h.toNat) (w_u32 (qy .u64 (w_u64 ((w_u64 (d.getD h.toNat 0))-c)) 4294967295))) (qy .u64 (shr_ .u64 (w_u64 ((w_u64 (d.getD h.toNat 0))-c)) 32) 1) d f (w_i64 (h+1))
    else none
   else none
  else
   some (.inl (b,()))
def g179 (m:Nat) (a:List Int) (b:List Int):Option (List Int×Unit×Unit×Unit):=
 if(0:Int)≤(a.length:Int)∧(a.length:Int)≤(a.length:Int)∧(a.length:Int)≤1073741824 then
 (g179_L0 m m b (List.replicate (a.length:Int).toNat (0:Int)) 0 a (a.length:Int) 0).bind fun y1=>
 match y1 with
 | .inl z2=>
  (g139 m z2.1).bind fun y3=>
  some (y3.1,((),(),()))
 | .inr e=>
  e.elim
 else none
def g165 (m:Nat) (a:Bool) (b:List Int) (c:Bool) (d:List Int):Option ((Bool×List Int×Unit)×Unit×Unit×Unit):=
 (g139 m b).bind fun y1=>
 (g139 m d).bind fun y2=>
 bif a==c then
  (g175 m y1.1 y2.1).bind fun y3=>
  (g127 m a y3.1).bind fun y4=>
  some ((y4.1.1,y4.1.2.1,()),((),(),()))
 else
  (g147 m y1.1 y2.1).bind fun y5=>
  bif decide (y5.1≥0)then
   (g179 m y1.1 y2.1).bind fun y6=>
   (g127 m a y6.1).bind fun y7=>
   some ((y7.1.1,y7.1.2.1,()),((),(),()))
  else
   (g179 m y2.1 y1.1).bind fun y8=>
   (g127 m c y8.1).bind fun y9=>
   some ((y9.1.1,y9.1.2.1,()),((),(),()))
def g178 (m:Nat) (a:Bool) (b:List Int) (c:Bool) (d:List Int):Option ((Bool×List Int×Unit)×Unit×Unit×Unit):=
 (g165 m a b (!c) d).bind fun y1=>
 some ((y1.1.1,y1.1.2.1,()),((),(),()))
def g103 (m:Nat) (a:Bool) (b:List Int) (c:Bool) (d:List Int):Option (Int×Unit×Unit×Unit):=
 (g97 m a b).bind fun y1=>
 (g97 m c d).bind fun y2=>
 bif decide (y1.1<y2.1)then
  some ((-1),((),(),()))
 else
  bif decide (y1.1>y2.1)then
   some (1,((),(),()))
  else
   (g139 m b).bind fun y3=>
   (g139 m d).bind fun y4=>
   (g147 m y3.1 y4.1).bind fun y5=>
   some (w_i64 (y1.1*y5.1),((),(),()))
def g164 (m:Nat) (a:Bool) (b:Bool) (c:List Int) (d:Int) (f:Bool) (h:Int):Option (((Bool×List Int×Unit)×Int×Bool×Unit)×Unit×Unit×Unit):=
 (g125 m b c).bind fun y1=>
 bif decide (h>y1.1)then
  some (((false,([]:List Int),()),(-1),false,()),((),(),()))
 else
  (g126 m b c h).bind fun y2=>
  (g146 m y2.1.1 y2.1.2.1 h).bind fun y3=>
  (g178 m b c y3.1.1 y3.1.2.1).bind fun y4=>
  (g81 m 1).bind fun y5=>
  (g146 m y5.1.1 y5.1.2.1 (w_i64 (h-1))).bind fun y6=>
  (g103 m y4.1.1 y4.1.2.1 y6.1.1 y6.1.2.1).bind fun y7=>
  bif y7.1==0 then
   bif f then
    (g97 m y4.1.1 y4.1.2.1).bind fun y8=>
    bif y8.1==0 then
     some (((y2.1.1,y2.1.2.1,()),1,!f,()),((),(),()))
    else
     some (((y2.1.1,y2.1.2.1,()),1,false,()),((),(),()))
   else
    (g97 m y4.1.1 y4.1.2.1).bind fun y9=>
    bif y9.1==0 then
     some (((y2.1.1,y2.1.2.1,()),y7.1,!f,()),((),(),()))
    else
     some (((y2.1.1,y2.1.2.1,()),y7.1,false,()),((),(),()))
  else
   (g97 m y4.1.1 y4.1.2.1).bind fun y10=>
   bif y10.1==0 then
    some (((y2.1.1,y2.1.2.1,()),y7.1,!f,()),((),(),()))
   else
    some (((y2.1.1,y2.1.2.1,()),y7.1,false,()),((),(),()))
def g143 (m:Nat) (a:Bool) (b:Bool) (c:List Int) (d:Int) (f:Bool) (h:Int) (i:Int):Option ((Bool×List Int×Unit)×Unit×Unit×Unit×Unit):=
 bif decide (h≤d)then
  (g146 m b c (w_i64 (d-h))).bind fun y1=>
  bif a then
   (g83 m y1.1.1 y1.1.2.1).bind fun y2=>
   some ((y2.1.1,y2.1.2.1,()),((),(),(),()))
  else
   some ((y1.1.1,y1.1.2.1,()),((),(),(),()))
 else
  (g164 m a b c d f (w_i64 (h-d))).bind fun y3=>
  bif y3.1.2.2.1 then
   bif a then
    (g83 m y3.1.1.1 y3.1.1.2.1).bind fun y4=>
    some ((y4.1.1,y4.1.2.1,()),((),(),(),()))
   else
    some ((y3.1.1.1,y3.1.1.2.1,()),((),(),(),()))
  else
   bif i==1 then
    bif a then
     (g81 m 1).bind fun y5=>
     (g165 m y3.1.1.1 y3.1.1.2.1 y5.1.1 y5.1.2.1).bind fun y6=>
     bif a then
      (g83 m y6.1.1 y6.1.2.1).bind fun y7=>
      some ((y7.1.1,y7.1.2.1,()),((),(),(),()))
     else
      some ((y6.1.1,y6.1.2.1,()),((),(),(),()))
    else
     bif a then
      (g83 m y3.1.1.1 y3.1.1.2.1).bind fun y8=>
      some ((y8.1.1,y8.1.2.1,()),((),(),(),()))
     else
      some ((y3.1.1.1,y3.1.1.2.1,()),((),(),(),()))
   else
    bif i==2 then
     bif !a then
      (g81 m 1).bind fun y9=>
      (g165 m y3.1.1.1 y3.1.1.2.1 y9.1.1 y9.1.2.1).bind fun y10=>
      bif a then
       (g83 m y10.1.1 y10.1.2.1).bind fun y11=>
       some ((y11.1.1,y11.1.2.1,()),((),(),(),()))
      else
       some ((y10.1.1,y10.1.2.1,()),((),(),(),()))
     else
      bif a then
       (g83 m y3.1.1.1 y3.1.1.2.1).bind fun y12=>
       some ((y12.1.1,y12.1.2.1,()),((),(),(),()))
      else
       some ((y3.1.1.1,y3.1.1.2.1,()),((),(),(),()))
    else
     bif i==3 then
      bif a then
       (g83 m y3.1.1.1 y3.1.1.2.1).bind fun y13=>
       some ((y13.1.1,y13.1.2.1,()),((),(),(),()))
      else
       some ((y3.1.1.1,y3.1.1.2.1,()),((),(),(),()))
     else
      bif decide (y3.1.2.1>0)then
       (g81 m 1).bind fun y14=>
       (g165 m y3.1.1.1 y3.1.1.2.1 y14.1.1 y14.1.2.1).bind fun y15=>
       bif a then
        (g83 m y15.1.1 y15.1.2.1).bind fun y16=>
        some ((y16.1.1,y16.1.2.1,()),((),(),(),()))
       else
        some ((y15.1.1,y15.1.2.1,()),((),(),(),()))
      else
       bif y3.1.2.1==0 then
        (g97 m y3.1.1.1 y3.1.1.2.1).bind fun y17=>
        bif y17.1 !=0 then
         (g124 m y3.1.1.1 y3.1.1.2.1).bind fun y18=>
         bif y18.1==0 then
          (g81 m 1).bind fun y19=>
          (g165 m y3.1.1.1 y3.1.1.2.1 y19.1.1 y19.1.2.1).bind fun y20=>
          bif a then
           (g83 m y20.1.1 y20.1.2.1).bind fun y21=>
           some ((y21.1.1,y21.1.2.1,()),((),(),(),()))
          else
           some ((y20.1.1,y20.1.2.1,()),((),(),(),()))
         else
          bif a then
           (g83 m y3.1.1.1 y3.1.1.2.1).bind fun y22=>
           some ((y22.1.1,y22.1.2.1,()),((),(),(),()))
          else
           some ((y3.1.1.1,y3.1.1.2.1,()),((),(),(),()))
        else
         bif a then
          (g83 m y3.1.1.1 y3.1.1.2.1).bind fun y23=>
          some ((y23.1.1,y23.1.2.1,()),((),(),(),()))
         else
          some ((y3.1.1.1,y3.1.1.2.1,()),((),(),(),()))
       else
        bif a then
         (g83 m y3.1.1.1 y3.1.1.2.1).bind fun y24=>
         some ((y24.1.1,y24.1.2.1,()),((),(),(),()))
        else
         some ((y3.1.1.1,y3.1.1.2.1,()),((),(),(),()))
def g141_L0 (m:Nat):Nat→Bool→List Int→Int→List Int→Int→Int→Option (((Bool×List Int×Unit)×Int×Unit)⊕Empty)
 |0,_,_,_,_,_,_=>none
 |n+1,a,b,c,d,f,h=>
  bif decide (h<f)then
   if(0:Int)≤h∧h<(d.length:Int)then
   if(0:Int)≤(w_i64 (32*h))then
   g141_L0 m n a b (b_or_ .u64 c (shl_ .u64 (w_u64 (d.getD h.toNat 0)) (w_i64 (32*h)))) d f (w_i64 (h+1))
   else none
   else none
  else
   some (.inl ((a,b,()),c,()))
def g141 (m:Nat) (a:Bool) (b:List Int):Option ((Int×Bool×Unit)×Unit×Unit):=
 (g139 m b).bind fun y1=>
 bif decide ((y1.1.length:Int)>2)then
  some ((0,false,()),((),()))
 else
  (g141_L0 m m a b 0 y1.1 (y1.1.length:Int) 0).bind fun y2=>
  match y2 with
  | .inl z3=>
   bif z3.1.1 then
    bif decide (z3.2.1>0)then
     bif decide (z3.2.1≤9223372036854775808)then
      some ((w_i64 ((w_i64 (0-(w_i64 (w_u64 (z3.2.1-1)))))-1),true,()),((),()))
     else
      bif decide (z3.2.1<9223372036854775808)then
       bif !z3.1.1 then
        some ((w_i64 z3.2.1,true,()),((),()))
       else
        bif z3.2.1==0 then
         some ((w_i64 z3.2.1,true,()),((),()))
        else
         some ((0,false,()),((),()))
      else
       some ((0,false,()),((),()))
    else
     bif decide (z3.2.1<9223372036854775808)then
      bif !z3.1.1 then
       some ((w_i64 z3.2.1,true,()),((),()))
      else
       bif z3.2.1==0 then
        some ((w_i64 z3.2.1,true,()),((),()))
       else
        some ((0,false,()),((),()))
     else
      some ((0,false,()),((),()))
   else
    bif decide (z3.2.1<9223372036854775808)then
     bif !z3.1.1 then
      some ((w_i64 z3.2.1,true,()),((),()))
     else
      bif z3.2.1==0 then
       some ((w_i64 z3.2.1,true,()),((),()))
      else
       some ((0,false,()),((),()))
    else
     some ((0,false,()),((),()))
  | .inr e=>
   e.elim
def g144 (m:Nat) (a:Int) (b:Bool):Option (Int×Unit×Unit×Unit):=
 bif b then
  some (b_or_ .u64 a 9223372036854775808,((),(),()))
 else
  some (a,((),(),()))
def g145 (m:Nat) (a:Bool) (b:Int):Option (Int×Unit×Unit×Unit):=
 bif b==3 then
  (g144 m 9218868437227405311 a).bind fun y1=>
  some (y1.1,((),(),()))
 else
  bif b==1 then
   bif !a then
    (g144 m 9218868437227405311 a).bind fun y2=>
    some (y2.1,((),(),()))
   else
    bif b==2 then
     bif a then
      (g144 m 9218868437227405311 a).bind fun y3=>
      some (y3.1,((),(),()))
     else
      (g144 m 9218868437227405312 a).bind fun y4=>
      some (y4.1,((),(),()))
    else
     (g144 m 9218868437227405312 a).bind fun y5=>
     some (y5.1,((),(),()))
  else
   bif b==2 then
    bif a then
     (g144 m 9218868437227405311 a).bind fun y6=>
     some (y6.1,((),(),()))
    else
     (g144 m 9218868437227405312 a).bind fun y7=>
     some (y7.1,((),(),()))
   else
    (g144 m 9218868437227405312 a).bind fun y8=>
    some (y8.1,((),(),()))
def g99 (m:Nat) (a:Bool) (b:Bool) (c:List Int) (d:Int) (f:Bool) (h:Int):Option (Int×Unit×Unit×Unit):=
 (g140 m a b c d f).bind fun y1=>
 (g143 m a b c d f (if(-1074)>(w_i64 (y1.1-52))then(-1074)else(w_i64 (y1.1-52))) h).bind fun y2=>
 (g142 m y2.1.1 y2.1.2.1).bind fun y3=>
 (g141 m y3.1.1 y3.1.2.1).bind fun y4=>
 bif (w_u64 y4.1.1)==9007199254740992 then
  bif decide ((w_i64 ((w_i64 ((if(-1074)>(w_i64 (y1.1-52))then(-1074)else(w_i64 (y1.1-52)))+1))+1075))≥2047)then
   (g145 m a h).bind fun y5=>
   some (y5.1,((),(),()))
  else
   (g144 m (b_or_ .u64 (shl_ .u64 (w_u64 (w_i64 ((w_i64 ((if(-1074)>(w_i64 (y1.1-52))then(-1074)else(w_i64 (y1.1-52)))+1))+1075))) 52) 0) a).bind fun y6=>
   some (y6.1,((),(),()))
 else
  bif decide ((w_u64 y4.1.1)<4503599627370496)then
   (g144 m (w_u64 y4.1.1) a).bind fun y7=>
   some (y7.1,((),(),()))
  else
   bif decide ((w_i64 ((if(-1074)>(w_i64 (y1.1-52))then(-1074)else(w_i64 (y1.1-52)))+1075))≥2047)then
    (g145 m a h).bind fun y8=>
    some (y8.1,((),(),()))
   else
    (g144 m (b_or_ .u64 (shl_ .u64 (w_u64 (w_i64 ((if(-1074)>(w_i64 (y1.1-52))then(-1074)else(w_i64 (y1.1-52)))+1075))) 52) (w_u64 ((w_u64 y4.1.1)-4503599627370496))) a).bind fun y9=>
    some (y9.1,((),(),()))
def g52 (m:Nat) (a:Bool) (b:Bool) (c:List Int) (d:Int) (f:Int):Option (Int×Unit×Unit×Unit):=
 (g98 m a b c d).bind fun y1=>
 bif y1.1.1 then
  some (9221120237041090560,((),(),()))
 else
  (g50 m y1.1.1 y1.1.2.1 y1.1.2.2.1 y1.1.2.2.2.1).bind fun y2=>
  bif y2.1==0 then
   some (0,((),(),()))
  else
   (g100 m y1.1.1 y1.1.2.1 y1.1.2.2.1 y1.1.2.2.2.1).bind fun y3=>
   (g99 m y3.1.1 y3.1.2.1 y3.1.2.2.1 y3.1.2.2.2.1 y3.1.2.2.2.2.1 f).bind fun y4=>
   some (y4.1,((),(),()))
def g101 (m:Nat) (a:Bool) (b:Bool) (c:List Int) (d:Int) (f:Bool) (h:Bool) (i:List Int) (j:Int):Option (((Bool×Bool×List Int×Int×Unit)×(Bool×Bool×List Int×Int×Unit)×Bool×Unit)×Unit×Unit×Unit):=
 (g78 m a b c d).bind fun y1=>
 (g78 m f h i j).bind fun y2=>
 bif y1.1.2.1 then
  some (((y1.1.1.1,y1.1.1.2.1,y1.1.1.2.2.1,y1.1.1.2.2.2.1,()),(y2.1.1.1,y2.1.1.2.1,y2.1.1.2.2.1,y2.1.1.2.2.2.1,()),y2.1.2.1,()),((),(),()))
 else
  some (((y1.1.1.1,y1.1.1.2.1,y1.1.1.2.2.1,y1.1.1.2.2.2.1,()),(y2.1.1.1,y2.1.1.2.1,y2.1.1.2.2.1,y2.1.1.2.2.2.1,()),false,()),((),(),()))
def g102 (m:Nat) (a:Bool) (b:Bool) (c:List Int) (d:Int) (f:Bool) (h:Bool) (i:List Int) (j:Int):Option (((Bool×List Int×Unit)×(Bool×List Int×Unit)×Int×Unit)×Unit×Unit×Unit):=
 (g146 m b c (w_i64 (d-(if j<d then j else d)))).bind fun y1=>
 (g146 m h i (w_i64 (j-(if j<d then j else d)))).bind fun y2=>
 some (((y1.1.1,y1.1.2.1,()),(y2.1.1,y2.1.2.1,()),if j<d then j else d,()),((),(),()))
def g53 (m:Nat) (a:Bool) (b:Bool) (c:List Int) (d:Int) (f:Bool) (h:Bool) (i:List Int) (j:Int):Option ((Int×Bool×Unit)×Unit×Unit×Unit):=
 (g101 m a b c d f h i j).bind fun y1=>
 bif !y1.1.2.2.1 then
  some ((0,false,()),((),(),()))
 else
  (g102 m y1.1.1.1 y1.1.1.2.1 y1.1.1.2.2.1 y1.1.1.2.2.2.1 y1.1.2.1.1 y1.1.2.1.2.1 y1.1.2.1.2.2.1 y1.1.2.1.2.2.2.1).bind fun y2=>
  (g103 m y2.1.1.1 y2.1.1.2.1 y2.1.2.1.1 y2.1.2.1.2.1).bind fun y3=>
  some ((y3.1,true,()),((),(),()))
def g32 (m:Nat) (a:Bool) (b:Bool) (c:List Int) (d:Int):Option ((Int×Bool×Unit)×Unit×Unit):=
 (g52 m a b c d 0).bind fun y1=>
 (g34 m y1.1).bind fun y2=>
 (g53 m y2.1.1 y2.1.2.1 y2.1.2.2.1 y2.1.2.2.2.1 a b c d).bind fun y3=>
 bif y3.1.2.1 then
  some ((y1.1,y3.1.1==0,()),((),()))
 else
  some ((y1.1,false,()),((),()))
def g129 (m:Nat) (a:List (Int×Int×Int)):Option (List (Int×Int×Int)×Unit×Unit):=
 if([]:List (Int×Int×Int)).length+a.length≤1073741824 then some (a,((),()))else none
def g132_L0 (m:Nat):Nat→Int→List Int→Int→Int→Option ((Int×Unit)⊕(Int×Unit)⊕Empty)
 |0,_,_,_,_=>none
 |n+1,a,b,c,d=>
  bif decide (d<c)then
   if(0:Int)≤d∧d<(b.length:Int)then
   bif (b.getD d.toNat 0) !=a then
    some (.inl (b.getD d.toNat 0,()))
   else
    g132_L0 m n a b c (w_i64 (d+1))
   else none
  else
   some (.inr (.inl (a,())))
def g132 (m:Nat) (a:List Int):Option (Int×Unit×Unit):=
 (g132_L0 m m 0 a (a.length:Int) 0).bind fun y1=>
 match y1 with
 | .inl z2=>
  some (z2.1,((),()))
 | .inr (.inl z3)=>
  some (z3.1,((),()))
 | .inr (.inr e)=>
  e.elim
def g131 (m:Nat) (a:Int) (b:Int) (c:Int) (d:Int) (f:Int) (h:Int):Option (Int×Unit×Unit×Unit):=
 (g133 m b f).bind fun y1=>
 (g133 m a d).bind fun y2=>
 (g132 m ([y1.1,y2.1]:List Int)).bind fun y3=>
 some (y3.1,((),(),()))
def g176_L1 (m:Nat):Nat→(List (Int×Int×Int))→Int→Int→Int→Int→Option (((List (Int×Int×Int))×Int×Int×Unit×Int×Unit)⊕Empty)
 |0,_,_,_,_,_=>none
 |n+1,a,b,c,d,f=>
  bif decide (f>b)then
   if(0:Int)≤f∧f<(a.length:Int)then
   if(0:Int)≤(w_i64 (f-1))∧(w_i64 (f-1))<(a.length:Int)then
   (g131 m (a.getD (0+f.toNat) (0,(0,0))).1 (a.getD (0+f.toNat) (0,(0,0))).2.1 (a.getD (0+f.toNat) (0,(0,0))).2.2 (a.getD (0+(w_i64 (f-1)).toNat) (0,(0,0))).1 (a.getD (0+(w_i64 (f-1)).toNat) (0,(0,0))).2.1 (a.getD (0+(w_i64 (f-1)).toNat) (0,(0,0))).2.2).bind fun y1=>
   bif decide (y1.1<0)then
    if(0:Int)≤(w_i64 (f-1))∧(w_i64 (f-1))<(a.length:Int)then
    if(0:Int)≤f∧f<(a.length:Int)then
    if(0:Int)≤f∧f<(a.length:Int)then
    if(0:Int)≤(w_i64 (f-1))∧(w_i64 (f-1))<((a.set (0+f.toNat) ((a.getD (0+(w_i64 (f-1)).toNat) (0,(0,0))).1,((a.getD (0+(w_i64 (f-1)).toNat) (0,(0,0))).2.1,(a.getD (0+(w_i64 (f-1)).toNat) (0,(0,0))).2.2))).length:Int)then
    g176_L1 m n ((a.set (0+f.toNat) ((a.getD (0+(w_i64 (f-1)).toNat) (0,(0,0))).1,((a.getD (0+(w_i64 (f-1)).toNat) (0,(0,0))).2.1,(a.getD (0+(w_i64 (f-1)).toNat) (0,(0,0))).2.2))).set (0+(w_i64 (f-1)).toNat) ((a.getD (0+f.toNat) (0,(0,0))).1,((a.getD (0+f.toNat) (0,(0,0))).2.1,(a.getD (0+f.toNat) (0,(0,0))).2.2))) b c d (w_i64 (f-1))
    else none
    else none
    else none
    else none
   else
    some (.inl (a,b,c,(),d,()))
   else none
   else none
  else
   some (.inl (a,b,c,(),d,()))
def g176_L0 (m:Nat):Nat→(List (Int×Int×Int))→Int→Int→Int→Option (((List (Int×Int×Int))×Unit)⊕Empty)
 |0,_,_,_,_=>none
 |n+1,a,b,c,d=>
  bif decide (d<c)then
   (g176_L1 m m a b c d d).bind fun y1=>
   match y1 with
   | .inl z2=>
    g176_L0 m n z2.1 z2.2.1 z2.2.2.1 (w_i64 (z2.2.2.2.2.1+1))
   | .inr e=>
    e.elim
  else
   some (.inl (a,()))
def g176 (m:Nat) (a:List (Int×Int×Int)) (b:Int) (c:Int):Option (Unit×(List (Int×Int×Int))×Unit×Unit×Unit×Unit):=
 (g176_L0 m m a b c (w_i64 (b+1))).bind fun y1=>
 match y1 with
 | .inl z2=>
  some ((),(z2.1,(),(),(),()))
 | .inr e=>
  e.elim
def g185_L0 (m:Nat):Nat→(List (Int×Int×Int))→Int→Int→Int→Int→Option (((List (Int×Int×Int))×Unit)⊕Empty)
 |0,_,_,_,_,_=>none
 |n+1,a,b,c,d,f=>
  bif decide (f<d)then
   if(0:Int)≤(w_i64 (c+f))∧(w_i64 (c+f))<(a.length:Int)then
   if(0:Int)≤(w_i64 (b+f))∧(w_i64 (b+f))<(a.length:Int)then
   if(0:Int)≤(w_i64 (b+f))∧(w_i64 (b+f))<(a.length:Int)then
   if(0:Int)≤(w_i64 (c+f))∧(w_i64 (c+f))<((a.set (0+(w_i64 (b+f)).toNat) ((a.getD (0+(w_i64 (c+f)).toNat) (0,(0,0))).1,((a.getD (0+(w_i64 (c+f)).toNat) (0,(0,0))).2.1,(a.getD (0+(w_i64 (c+f)).toNat) (0,(0,0))).2.2))).length:Int)then
   g185_L0 m n ((a.set (0+(w_i64 (b+f)).toNat) ((a.getD (0+(w_i64 (c+f)).toNat) (0,(0,0))).1,((a.getD (0+(w_i64 (c+f)).toNat) (0,(0,0))).2.1,(a.getD (0+(w_i64 (c+f)).toNat) (0,(0,0))).2.2))).set (0+(w_i64 (c+f)).toNat) ((a.getD (0+(w_i64 (b+f)).toNat) (0,(0,0))).1,((a.getD (0+(w_i64 (b+f)).toNat) (0,(0,0))).2.1,(a.getD (0+(w_i64 (b+f)).toNat) (0,(0,0))).2.2))) b c d (w_i64 (f+1))
   else none
   else none
   else none
   else none
  else
   some (.inl (a,()))
def g185 (m:Nat) (a:List (Int×Int×Int)) (b:Int) (c:Int) (d:Int):Option (Unit×(List (Int×Int×Int))×Unit×Unit×Unit×Unit×Unit):=
 (g185_L0 m m a b c d 0).bind fun y1=>
 match y1 with
 | .inl z2=>
  some ((),(z2.1,(),(),(),(),()))
 | .inr e=>
  e.elim
def g183_L0 (m:Nat):Nat→(List (Int×Int×Int))→Int→Int→Int→Option (((List (Int×Int×Int))×Int×Unit×Int×Unit)⊕Empty)
 |0,_,_,_,_=>none
 |n+1,a,b,c,d=>
  bif c !=d then
   bif decide (c>d)then
    (g185 m a (w_i64 (b-c)) b d).bind fun y1=>
    g183_L0 m n y1.2.1 b (w_i64 (c-d)) d
   else
    (g185 m a (w_i64 (b-c)) (w_i64 ((w_i64 (b+d))-c)) c).bind fun y2=>
    g183_L0 m n y2.2.1 b c (w_i64 (d-c))
  else
   some (.inl (a,b,(),c,()))
def g183 (m:Nat) (a:List (Int×Int×Int)) (b:Int) (c:Int) (d:Int):Option (Unit×(List (Int×Int×Int))×Unit×Unit×Unit×Unit×Unit):=
 (g183_L0 m m a c (w_i64 (c-b)) (w_i64 (d-c))).bind fun y1=>
 match y1 with
 | .inl z2=>
  (g185 m z2.1 (w_i64 (z2.2.1-z2.2.2.2.1)) z2.2.1 z2.2.2.2.1).bind fun y3=>
  some ((),(y3.2.1,(),(),(),(),()))
 | .inr e=>
  e.elim
def g177_L4 (self:(List (Int×Int×Int))→Int→Int→Int→Option (Unit×(List (Int×Int×Int))×Unit×Unit×Unit×Unit×Unit)) (m:Nat):Nat→(List (Int×Int×Int))→Int→Int→Int→Int→Int→Int→Int→Int→Option (((List (Int×Int×Int))×Int×Int×Int×Unit×Int×Int×Int×Unit)⊕Empty)
 |0,_,_,_,_,_,_,_,_,_=>none
 |n+1,a,b,c,d,f,h,i,j,k=>
  bif decide (i<j)then
   if(0:Int)≤(w_i64 (k-(w_i64 (shr_ .u64 (w_u64 (w_i64 (i+j))) 1))))∧(w_i64 (k-(w_i64 (shr_ .u64 (w_u64 (w_i64 (i+j))) 1))))<(a.length:Int)then
   if(0:Int)≤(w_i64 (shr_ .u64 (w_u64 (w_i64 (i+j))) 1))∧(w_i64 (shr_ .u64 (w_u64 (w_i64 (i+j))) 1))<(a.length:Int)then
   (g131 m (a.getD (0+(w_i64 (k-(w_i64 (shr_ .u64 (w_u64 (w_i64 (i+j))) 1)))).toNat) (0,(0,0))).1 (a.getD (0+(w_i64 (k-(w_i64 (shr_ .u64 (w_u64 (w_i64 (i+j))) 1)))).toNat) (0,(0,0))).2.1 (a.getD (0+(w_i64 (k-(w_i64 (shr_ .u64 (w_u64 (w_i64 (i+j))) 1)))).toNat) (0,(0,0))).2.2 (a.getD (0+(w_i64 (shr_ .u64 (w_u64 (w_i64 (i+j))) 1)).toNat) (0,(0,0))).1 (a.getD (0+(w_i64 (shr_ .u64 (w_u64 (w_i64 (i+j))) 1)).toNat) (0,(0,0))).2.1 (a.getD (0+(w_i64 (shr_ .u64 (w_u64 (w_i64 (i+j))) 1)).toNat) (0,(0,0))).2.2).bind fun y1=>
   bif !(decide (y1.1<0))then
    g177_L4 self m n a b c d f h (w_i64 ((w_i64 (shr_ .u64 (w_u64 (w_i64 (i+j))) 1))+1)) j k
   else
    g177_L4 self m n a b c d f h i (w_i64 (shr_ .u64 (w_u64 (w_i64 (i+j))) 1)) k
   else none
   else none
  else
   some (.inl (a,b,c,d,(),f,h,i,()))
def g177_L3 (self:(List (Int×Int×Int))→Int→Int→Int→Option (Unit×(List (Int×Int×Int))×Unit×Unit×Unit×Unit×Unit)) (m:Nat):Nat→(List (Int×Int×Int))→Int→Int→Option (((List (Int×Int×Int))×Unit)⊕Empty)
 |0,_,_,_=>none
 |n+1,a,b,c=>
  bif decide (c>b)then
   if(0:Int)≤(w_i64 (c-1))∧(w_i64 (c-1))<(a.length:Int)then
   if(0:Int)≤c∧c<(a.length:Int)then
   if(0:Int)≤c∧c<(a.length:Int)then
   if(0:Int)≤(w_i64 (c-1))∧(w_i64 (c-1))<((a.set (0+c.toNat) ((a.getD (0+(w_i64 (c-1)).toNat) (0,(0,0))).1,((a.getD (0+(w_i64 (c-1)).toNat) (0,(0,0))).2.1,(a.getD (0+(w_i64 (c-1)).toNat) (0,(0,0))).2.2))).length:Int)then
   g177_L3 self m n ((a.set (0+c.toNat) ((a.getD (0+(w_i64 (c-1)).toNat) (0,(0,0))).1,((a.getD (0+(w_i64 (c-1)).toNat) (0,(0,0))).2.1,(a.getD (0+(w_i64 (c-1)).toNat) (0,(0,0))).2.2))).set (0+(w_i64 (c-1)).toNat) ((a.getD (0+c.toNat) (0,(0,0))).1,((a.getD (0+c.toNat) (0,(0,0))).2.1,(a.getD (0+c.toNat) (0,(0,0))).2.2))) b (w_i64 (c-1))
   else none
   else none
   else none
   else none
  else
   some (.inl (a,()))
def g177_L2 (self:(List (Int×Int×Int))→Int→Int→Int→Option (Unit×(List (Int×Int×Int))×Unit×Unit×Unit×Unit×Unit)) (m:Nat):Nat→(List (Int×Int×Int))→Int→Int→Int→Option (((List (Int×Int×Int))×Int×Int×Unit)⊕Empty)
 |0,_,_,_,_=>none
 |n+1,a,b,c,d=>
  bif decide (c<d)then
   if(0:Int)≤b∧b<(a.length:Int)then
   if(0:Int)≤(w_i64 (shr_ .u64 (w_u64 (w_i64 (c+d))) 1))∧(w_i64 (shr_ .u64 (w_u64 (w_i64 (c+d))) 1))<(a.length:Int)then
   (g131 m (a.getD (0+b.toNat) (0,(0,0))).1 (a.getD (0+b.toNat) (0,(0,0))).2.1 (a.getD (0+b.toNat) (0,(0,0))).2.2 (a.getD (0+(w_i64 (shr_ .u64 (w_u64 (w_i64 (c+d))) 1)).toNat) (0,(0,0))).1 (a.getD (0+(w_i64 (shr_ .u64 (w_u64 (w_i64 (c+d))) 1)).toNat) (0,(0,0))).2.1 (a.getD (0+(w_i64 (shr_ .u64 (w_u64 (w_i64 (c+d))) 1)).toNat) (0,(0,0))).2.2).bind fun y1=>
   bif !(decide (y1.1<0))then
    g177_L2 self m n a b (w_i64 ((w_i64 (shr_ .u64 (w_u64 (w_i64 (c+d))) 1))+1)) d
   else
    g177_L2 self m n a b c (w_i64 (shr_ .u64 (w_u64 (w_i64 (c+d))) 1))
   else none
   else none
  else
   some (.inl (a,b,c,()))
def g177_L1 (self:(List (Int×Int×Int))→Int→Int→Int→Option (Unit×(List (Int×Int×Int))×Unit×Unit×Unit×Unit×Unit)) (m:Nat):Nat→(List (Int×Int×Int))→Int→Int→Option (((List (Int×Int×Int))×Unit)⊕Empty)
 |0,_,_,_=>none
 |n+1,a,b,c=>
  bif decide (c<(w_i64 (b-1)))then
   if(0:Int)≤(w_i64 (c+1))∧(w_i64 (c+1))<(a.length:Int)then
   if(0:Int)≤c∧c<(a.length:Int)then
   if(0:Int)≤c∧c<(a.length:Int)then
   if(0:Int)≤(w_i64 (c+1))∧(w_i64 (c+1))<((a.set (0+c.toNat) ((a.getD (0+(w_i64 (c+1)).toNat) (0,(0,0))).1,((a.getD (0+(w_i64 (c+1)).toNat) (0,(0,0))).2.1,(a.getD (0+(w_i64 (c+1)).toNat) (0,(0,0))).2.2))).length:Int)then
   g177_L1 self m n ((a.set (0+c.toNat) ((a.getD (0+(w_i64 (c+1)).toNat) (0,(0,0))).1,((a.getD (0+(w_i64 (c+1)).toNat) (0,(0,0))).2.1,(a.getD (0+(w_i64 (c+1)).toNat) (0,(0,0))).2.2))).set (0+(w_i64 (c+1)).toNat) ((a.getD (0+c.toNat) (0,(0,0))).1,((a.getD (0+c.toNat) (0,(0,0))).2.1,(a.getD (0+c.toNat) (0,(0,0))).2.2))) b (w_i64 (c+1))
   else none
   else none
   else none
   else none
  else
   some (.inl (a,()))
def g177_L0 (self:(List (Int×Int×Int))→Int→Int→Int→Option (Unit×(List (Int×Int×Int))×Unit×Unit×Unit×Unit×Unit)) (m:Nat):Nat→(List (Int×Int×Int))→Int→Int→Int→Option (((List (Int×Int×Int))×Int×Int×Unit)⊕Empty)
 |0,_,_,_,_=>none
 |n+1,a,b,c,d=>
  bif decide (c<d)then
   if(0:Int)≤(w_i64 (shr_ .u64 (w_u64 (w_i64 (c+d))) 1))∧(w_i64 (shr_ .u64 (w_u64 (w_i64 (c+d))) 1))<(a.length:Int)then
   if(0:Int)≤b∧b<(a.length:Int)then
   (g131 m (a.getD (0+(w_i64 (shr_ .u64 (w_u64 (w_i64 (c+d))) 1)).toNat) (0,(0,0))).1 (a.getD (0+(w_i64 (shr_ .u64 (w_u64 (w_i64 (c+d))) 1)).toNat) (0,(0,0))).2.1 (a.getD (0+(w_i64 (shr_ .u64 (w_u64 (w_i64 (c+d))) 1)).toNat) (0,(0,0))).2.2 (a.getD (0+b.toNat) (0,(0,0))).1 (a.getD (0+b.toNat) (0,(0,0))).2.1 (a.getD (0+b.toNat) (0,(0,0))).2.2).bind fun y1=>
   bif decide (y1.1<0)then
    g177_L0 self m n a b (w_i64 ((w_i64 (shr_ .u64 (w_u64 (w_i64 (c+d))) 1))+1)) d
   else
    g177_L0 self m n a b c (w_i64 (shr_ .u64 (w_u64 (w_i64 (c+d))) 1))
   else none
   else none
  else
   some (.inl (a,b,c,()))
def g177:Nat→(List (Int×Int×Int))→Int→Int→Int→Option (Unit×(List (Int×Int×Int))×Unit×Unit×Unit×Unit×Unit)
 |0,_,_,_,_=>none
 |m+1,a,b,c,d=>
  bif (w_i64 (c-b))==1 then
   (g177_L0 (fun a0 a1 a2 a3=>g177 m a0 a1 a2 a3) m m a b c d).bind fun y1=>
   match y1 with
   | .inl z2=>
    (g177_L1 (fun a0 a1 a2 a3=>g177 m a0 a1 a2 a3) m m z2.1 z2.2.2.1 z2.2.1).bind fun y3=>
    match y3 with
    | .inl z4=>
     some ((),(z4.1,(),(),(),(),()))
    | .inr e=>
     e.elim
   | .inr e=>
    e.elim
  else
   bif (w_i64 (d-c))==1 then
    (g177_L2 (fun a0 a1 a2 a3=>g177 m a0 a1 a2 a3) m m a c b c).bind fun y5=>
    match y5 with
    | .inl z6=>
     (g177_L3 (fun a0 a1 a2 a3=>g177 m a0 a1 a2 a3) m m z6.1 z6.2.2.1 z6.2.1).bind fun y7=>
     match y7 with
     | .inl z8=>
      some ((),(z8.1,(),(),(),(),()))
     | .inr e=>
      e.elim
    | .inr e=>
     e.elim
   else
    bif decide (c>(w_i64 (shr_ .u64 (w_u64 (w_i64 (b+d))) 1)))then
     (g177_L4 (fun a0 a1 a2 a3=>g177 m a0 a1 a2 a3) m m a b c d (w_i64 (shr_ .u64 (w_u64 (w_i64 (b+d))) 1)) (w_i64 ((w_i64 (shr_ .u64 (w_u64 (w_i64 (b+d))) 1))+c)) (w_i64 ((w_i64 ((w_i64 (shr_ .u64 (w_u64 (w_i64 (b+d))) 1))+c))-d)) (w_i64 (shr_ .u64 (w_u64 (w_i64 (b+d))) 1)) (w_i64 ((w_i64 ((w_i64 (shr_ .u64 (w_u64 (w_i64 (b+d))) 1))+c))-1))).bind fun y9=>
     match y9 with
     | .inl z10=>
      bif decide (z10.2.2.2.2.2.2.2.1<z10.2.2.1)then
       bif decide (z10.2.2.1<(w_i64 (z10.2.2.2.2.2.2.1-z10.2.2.2.2.2.2.2.1)))then
        (g183 m z10.1 z10.2.2.2.2.2.2.2.1 z10.2.2.1 (w_i64 (z10.2.2.2.2.2.2.1-z10.2.2.2.2.2.2.2.1))).bind fun y11=>
        bif decide (z10.2.1<z10.2.2.2.2.2.2.2.1)then
         bif decide (z10.2.2.2.2.2.2.2.1<z10.2.2.2.2.2.1)then
          (g177 m y11.2.1 z10.2.1 z10.2.2.2.2.2.2.2.1 z10.2.2.2.2.2.1).bind fun y12=>
          bif decide (z10.2.2.2.2.2.1<(w_i64 (z10.2.2.2.2.2.2.1-z10.2.2.2.2.2.2.2.1)))then
           bif decide ((w_i64 (z10.2.2.2.2.2.2.1-z10.2.2.2.2.2.2.2.1))<z10.2.2.2.1)then
            (g177 m y12.2.1 z10.2.2.2.2.2.1 (w_i64 (z10.2.2.2.2.2.2.1-z10.2.2.2.2.2.2.2.1)) z10.2.2.2.1).bind fun y13=>
            some ((),(y13.2.1,(),(),(),(),()))
           else
            some ((),(y12.2.1,(),(),(),(),()))
          else
           some ((),(y12.2.1,(),(),(),(),()))
         else
          bif decide (z10.2.2.2.2.2.1<(w_i64 (z10.2.2.2.2.2.2.1-z10.2.2.2.2.2.2.2.1)))then
           bif decide ((w_i64 (z10.2.2.2.2.2.2.1-z10.2.2.2.2.2.2.2.1))<z10.2.2.2.1)then
            (g177 m y11.2.1 z10.2.2.2.2.2.1 (w_i64 (z10.2.2.2.2.2.2.1-z10.2.2.2.2.2.2.2.1)) z10.2.2.2.1).bind fun y14=>
            some ((),(y14.2.1,(),(),(),(),()))
           else
            some ((),(y11.2.1,(),(),(),(),()))
          else
           some ((),(y11.2.1,(),(),(),(),()))
        else
         bif decide (z10.2.2.2.2.2.1<(w_i64 (z10.2.2.2.2.2.2.1-z10.2.2.2.2.2.2.2.1)))then
          bif decide ((w_i64 (z10.2.2.2.2.2.2.1-z10.2.2.2.2.2.2.2.1))<z10.2.2.2.1)then
           (g177 m y11.2.1 z10.2.2.2.2.2.1 (w_i64 (z10.2.2.2.2.2.2.1-z10.2.2.2.2.2.2.2.1)) z10.2.2.2.1).bind fun y15=>
           some ((),(y15.2.1,(),(),(),(),()))
          else
           some ((),(y11.2.1,(),(),(),(),()))
         else
          some ((),(y11.2.1,(),(),(),(),()))
       else
        bif decide (z10.2.1<z10.2.2.2.2.2.2.2.1)then
         bif decide (z10.2.2.2.2.2.2.2.1<z10.2.2.2.2.2.1)then
          (g177 m z10.1 z10.2.1 z10.2.2.2.2.2.2.2.1 z10.2.2.2.2.2.1).bind fun y16=>
          bif decide (z10.2.2.2.2.2.1<(w_i64 (z10.2.2.2.2.2.2.1-z10.2.2.2.2.2.2.2.1)))then
           bif decide ((w_i64 (z10.2.2.2.2.2.2.1-z10.2.2.2.2.2.2.2.1))<z10.2.2.2.1)then
            (g177 m y16.2.1 z10.2.2.2.2.2.1 (w_i64 (z10.2.2.2.2.2.2.1-z10.2.2.2.2.2.2.2.1)) z10.2.2.2.1).bind fun y17=>
            some ((),(y17.2.1,(),(),(),(),()))
           else
            some ((),(y16.2.1,(),(),(),(),()))
          else
           some ((),(y16.2.1,(),(),(),(),()))
         else
          bif decide (z10.2.2.2.2.2.1<(w_i64 (z10.2.2.2.2.2.2.1-z10.2.2.2.2.2.2.2.1)))then
           bif decide ((w_i64 (z10.2.2.2.2.2.2.1-z10.2.2.2.2.2.2.2.1))<z10.2.2.2.1)then
            (g177 m z10.1 z10.2.2.2.2.2.1 (w_i64 (z10.2.2.2.2.2.2.1-z10.2.2.2.2.2.2.2.1)) z10.2.2.2.1).bind fun y18=>
            some ((),(y18.2.1,(),(),(),(),()))
           else
            some ((),(z10.1,(),(),(),(),()))
          else
           some ((),(z10.1,(),(),(),(),()))
        else
         bif decide (z10.2.2.2.2.2.1<(w_i64 (z10.2.2.2.2.2.2.1-z10.2.2.2.2.2.2.2.1)))then
          bif decide ((w_i64 (z10.2.2.2.2.2.2.1-z10.2.2.2.2.2.2.2.1))<z10.2.2.2.1)then
           (g177 m z10.1 z10.2.2.2.2.2.1 (w_i64 (z10.2.2.2.2.2.2.1-z10.2.2.2.2.2.2.2.1)) z10.2.2.2.1).bind fun y19=>
           some ((),(y19.2.1,(),(),(),(),()))
          else
           some ((),(z10.1,(),(),(),(),()))
         else
          some ((),(z10.1,(),(),(),(),()))
      else
       bif decide (z10.2.1<z10.2.2.2.2.2.2.2.1)then
        bif decide (z10.2.2.2.2.2.2.2.1<z10.2.2.2.2.2.1)then
         (g177 m z10.1 z10.2.1 z10.2.2.2.2.2.2.2.1 z10.2.2.2.2.2.1).bind fun y20=>
         bif decide (z10.2.2.2.2.2.1<(w_i64 (z10.2.2.2.2.2.2.1-z10.2.2.2.2.2.2.2.1)))then
          bif decide ((w_i64 (z10.2.2.2.2.2.2.1-z10.2.2.2.2.2.2.2.1))<z10.2.2.2.1)then
           (g177 m y20.2.1 z10.2.2.2.2.2.1 (w_i64 (z10.2.2.2.2.2.2.1-z10.2.2.2.2.2.2.2.1)) z10.2.2.2.1).bind fun y21=>
           some ((),(y21.2.1,(),(),(),(),()))
          else
           some ((),(y20.2.1,(),(),(),(),()))
         else
          some ((),(y20.2.1,(),(),(),(),()))
        else
         bif decide (z10.2.2.2.2.2.1<(w_i64 (z10.2.2.2.2.2.2.1-z10.2.2.2.2.2.2.2.1)))then
          bif decide ((w_i64 (z10.2.2.2.2.2.2.1-z10.2.2.2.2.2.2.2.1))<z10.2.2.2.1)then
           (g177 m z10.1 z10.2.2.2.2.2.1 (w_i64 (z10.2.2.2.2.2.2.1-z10.2.2.2.2.2.2.2.1)) z10.2.2.2.1).bind fun y22=>
           some ((),(y22.2.1,(),(),(),(),()))
          else
           some ((),(z10.1,(),(),(),(),()))
         else
          some ((),(z10.1,(),(),(),(),()))
       else
        bif decide (z10.2.2.2.2.2.1<(w_i64 (z10.2.2.2.2.2.2.1-z10.2.2.2.2.2.2.2.1)))then
         bif decide ((w_i64 (z10.2.2.2.2.2.2.1-z10.2.2.2.2.2.2.2.1))<z10.2.2.2.1)then
          (g177 m z10.1 z10.2.2.2.2.2.1 (w_i64 (z10.2.2.2.2.2.2.1-z10.2.2.2.2.2.2.2.1)) z10.2.2.2.1).bind fun y23=>
          some ((),(y23.2.1,(),(),(),(),()))
         else
          some ((),(z10.1,(),(),(),(),()))
        else
         some ((),(z10.1,(),(),(),(),()))
     | .inr e=>
      e.elim
    else
     (g177_L4 (fun a0 a1 a2 a3=>g177 m a0 a1 a2 a3) m m a b c d (w_i64 (shr_ .u64 (w_u64 (w_i64 (b+d))) 1)) (w_i64 ((w_i64 (shr_ .u64 (w_u64 (w_i64 (b+d))) 1))+c)) b c (w_i64 ((w_i64 ((w_i64 (shr_ .u64 (w_u64 (w_i64 (b+d))) 1))+c))-1))).bind fun y24=>
     match y24 with
     | .inl z25=>
      bif decide (z25.2.2.2.2.2.2.2.1<z25.2.2.1)then
       bif decide (z25.2.2.1<(w_i64 (z25.2.2.2.2.2.2.1-z25.2.2.2.2.2.2.2.1)))then
        (g183 m z25.1 z25.2.2.2.2.2.2.2.1 z25.2.2.1 (w_i64 (z25.2.2.2.2.2.2.1-z25.2.2.2.2.2.2.2.1))).bind fun y26=>
        bif decide (z25.2.1<z25.2.2.2.2.2.2.2.1)then
         bif decide (z25.2.2.2.2.2.2.2.1<z25.2.2.2.2.2.1)then
          (g177 m y26.2.1 z25.2.1 z25.2.2.2.2.2.2.2.1 z25.2.2.2.2.2.1).bind fun y27=>
          bif decide (z25.2.2.2.2.2.1<(w_i64 (z25.2.2.2.2.2.2.1-z25.2.2.2.2.2.2.2.1)))then
           bif decide ((w_i64 (z25.2.2.2.2.2.2.1-z25.2.2.2.2.2.2.2.1))<z25.2.2.2.1)then
            (g177 m y27.2.1 z25.2.2.2.2.2.1 (w_i64 (z25.2.2.2.2.2.2.1-z25.2.2.2.2.2.2.2.1)) z25.2.2.2.1).bind fun y28=>
            some ((),(y28.2.1,(),(),(),(),()))
           else
            some ((),(y27.2.1,(),(),(),(),()))
          else
           some ((),(y27.2.1,(),(),(),(),()))
         else
          bif decide (z25.2.2.2.2.2.1<(w_i64 (z25.2.2.2.2.2.2.1-z25.2.2.2.2.2.2.2.1)))then
           bif decide ((w_i64 (z25.2.2.2.2.2.2.1-z25.2.2.2.2.2.2.2.1))<z25.2.2.2.1)then
            (g177 m y26.2.1 z25.2.2.2.2.2.1 (w_i64 (z25.2.2.2.2.2.2.1-z25.2.2.2.2.2.2.2.1)) z25.2.2.2.1).bind fun y29=>
            some ((),(y29.2.1,(),(),(),(),()))
           else
            some ((),(y26.2.1,(),(),(),(),()))
          else
           some ((),(y26.2.1,(),(),(),(),()))
        else
         bif decide (z25.2.2.2.2.2.1<(w_i64 (z25.2.2.2.2.2.2.1-z25.2.2.2.2.2.2.2.1)))then
          bif decide ((w_i64 (z25.2.2.2.2.2.2.1-z25.2.2.2.2.2.2.2.1))<z25.2.2.2.1)then
           (g177 m y26.2.1 z25.2.2.2.2.2.1 (w_i64 (z25.2.2.2.2.2.2.1-z25.2.2.2.2.2.2.2.1)) z25.2.2.2.1).bind fun y30=>
           some ((),(y30.2.1,(),(),(),(),()))
          else
           some ((),(y26.2.1,(),(),(),(),()))
         else
          some ((),(y26.2.1,(),(),(),(),()))
       else
        bif decide (z25.2.1<z25.2.2.2.2.2.2.2.1)then
         bif decide (z25.2.2.2.2.2.2.2.1<z25.2.2.2.2.2.1)then
          (g177 m z25.1 z25.2.1 z25.2.2.2.2.2.2.2.1 z25.2.2.2.2.2.1).bind fun y31=>
          bif decide (z25.2.2.2.2.2.1<(w_i64 (z25.2.2.2.2.2.2.1-z25.2.2.2.2.2.2.2.1)))then
           bif decide ((w_i64 (z25.2.2.2.2.2.2.1-z25.2.2.2.2.2.2.2.1))<z25.2.2.2.1)then
            (g177 m y31.2.1 z25.2.2.2.2.2.1 (w_i64 (z25.2.2.2.2.2.2.1-z25.2.2.2.2.2.2.2.1)) z25.2.2.2.1).bind fun y32=>
            some ((),(y32.2.1,(),(),(),(),()))
           else
            some ((),(y31.2.1,(),(),(),(),()))
          else
           some ((),(y31.2.1,(),(),(),(),()))
         else
          bif decide (z25.2.2.2.2.2.1<(w_i64 (z25.2.2.2.2.2.2.1-z25.2.2.2.2.2.2.2.1)))then
           bif decide ((w_i64 (z25.2.2.2.2.2.2.1-z25.2.2.2.2.2.2.2.1))<z25.2.2.2.1)then
            (g177 m z25.1 z25.2.2.2.2.2.1 (w_i64 (z25.2.2.2.2.2.2.1-z25.2.2.2.2.2.2.2.1)) z25.2.2.2.1).bind fun y33=>
            some ((),(y33.2.1,(),(),(),(),()))
           else
            some ((),(z25.1,(),(),(),(),()))
          else
           some ((),(z25.1,(),(),(),(),()))
        else
         bif decide (z25.2.2.2.2.2.1<(w_i64 (z25.2.2.2.2.2.2.1-z25.2.2.2.2.2.2.2.1)))then
          bif decide ((w_i64 (z25.2.2.2.2.2.2.1-z25.2.2.2.2.2.2.2.1))<z25.2.2.2.1)then
           (g177 m z25.1 z25.2.2.2.2.2.1 (w_i64 (z25.2.2.2.2.2.2.1-z25.2.2.2.2.2.2.2.1)) z25.2.2.2.1).bind fun y34=>
           some ((),(y34.2.1,(),(),(),(),()))
          else
           some ((),(z25.1,(),(),(),(),()))
         else
          some ((),(z25.1,(),(),(),(),()))
      else
       bif decide (z25.2.1<z25.2.2.2.2.2.2.2.1)then
        bif decide (z25.2.2.2.2.2.2.2.1<z25.2.2.2.2.2.1)then
         (g177 m z25.1 z25.2.1 z25.2.2.2.2.2.2.2.1 z25.2.2.2.2.2.1).bind fun y35=>
         bif decide (z25.2.2.2.2.2.1<(w_i64 (z25.2.2.2.2.2.2.1-z25.2.2.2.2.2.2.2.1)))then
          bif decide ((w_i64 (z25.2.2.2.2.2.2.1-z25.2.2.2.2.2.2.2.1))<z25.2.2.2.1)then
           (g177 m y35.2.1 z25.2.2.2.2.2.1 (w_i64 (z25.2.2.2.2.2.2.1-z25.2.2.2.2.2.2.2.1)) z25.2.2.2.1).bind fun y36=>
           some ((),(y36.2.1,(),(),(),(),()))
          else
           some ((),(y35.2.1,(),(),(),(),()))
         else
          some ((),(y35.2.1,(),(),(),(),()))
        else
         bif decide (z25.2.2.2.2.2.1<(w_i64 (z25.2.2.2.2.2.2.1-z25.2.2.2.2.2.2.2.1)))then
          bif decide ((w_i64 (z25.2.2.2.2.2.2.1-z25.2.2.2.2.2.2.2.1))<z25.2.2.2.1)then
           (g177 m z25.1 z25.2.2.2.2.2.1 (w_i64 (z25.2.2.2.2.2.2.1-z25.2.2.2.2.2.2.2.1)) z25.2.2.2.1).bind fun y37=>
           some ((),(y37.2.1,(),(),(),(),()))
          else
           some ((),(z25.1,(),(),(),(),()))
         else
          some ((),(z25.1,(),(),(),(),()))
       else
        bif decide (z25.2.2.2.2.2.1<(w_i64 (z25.2.2.2.2.2.2.1-z25.2.2.2.2.2.2.2.1)))then
         bif decide ((w_i64 (z25.2.2.2.2.2.2.1-z25.2.2.2.2.2.2.2.1))<z25.2.2.2.1)then
          (g177 m z25.1 z25.2.2.2.2.2.1 (w_i64 (z25.2.2.2.2.2.2.1-z25.2.2.2.2.2.2.2.1)) z25.2.2.2.1).bind fun y38=>
          some ((),(y38.2.1,(),(),(),(),()))
         else
          some ((),(z25.1,(),(),(),(),()))
        else
         some ((),(z25.1,(),(),(),(),()))
     | .inr e=>
      e.elim
def g162_L2 (m:Nat):Nat→(List (Int×Int×Int))→Int→Int→Int→Int→Option (((List (Int×Int×Int))×Int×Unit×Int×Int×Unit)⊕Empty)
 |0,_,_,_,_,_=>none
 |n+1,a,b,c,d,f=>
  bif decide (f≤b)then
   (g177 m a d (w_i64 (d+c)) f).bind fun y1=>
   g162_L2 m n y1.2.1 b c f (w_i64 (f+(w_i64 (2*c))))
  else
   some (.inl (a,b,(),c,d,()))
def g162_L1 (m:Nat):Nat→(List (Int×Int×Int))→Int→Int→Option (((List (Int×Int×Int))×Unit)⊕Empty)
 |0,_,_,_=>none
 |n+1,a,b,c=>
  bif decide (c<b)then
   (g162_L2 m m a b c 0 (w_i64 (2*c))).bind fun y1=>
   match y1 with
   | .inl z2=>
    bif decide ((w_i64 (z2.2.2.2.2.1+z2.2.2.2.1))<z2.2.1)then
     (g177 m z2.1 z2.2.2.2.2.1 (w_i64 (z2.2.2.2.2.1+z2.2.2.2.1)) z2.2.1).bind fun y3=>
     g162_L1 m n y3.2.1 z2.2.1 (w_i64 (z2.2.2.2.1*2))
    else
     g162_L1 m n z2.1 z2.2.1 (w_i64 (z2.2.2.2.1*2))
   | .inr e=>
    e.elim
  else
   some (.inl (a,()))
def g162_L0 (m:Nat):Nat→(List (Int×Int×Int))→Int→Int→Int→Int→Option (((List (Int×Int×Int))×Int×Unit×Int×Int×Unit)⊕Empty)
 |0,_,_,_,_,_=>none
 |n+1,a,b,c,d,f=>
  bif decide (f≤b)then
   (g176 m a d f).bind fun y1=>
   g162_L0 m n y1.2.1 b c f (w_i64 (f+c))
  else
   some (.inl (a,b,(),c,d,()))
def g162 (m:Nat) (a:List (Int×Int×Int)) (b:Int):Option (Unit×(List (Int×Int×Int))×Unit×Unit×Unit):=
 (g162_L0 m m a b 20 0 20).bind fun y1=>
 match y1 with
 | .inl z2=>
  (g176 m z2.1 z2.2.2.2.2.1 z2.2.1).bind fun y3=>
  (g162_L1 m m y3.2.1 z2.2.1 z2.2.2.2.1).bind fun y4=>
  match y4 with
  | .inl z5=>
   some ((),(z5.1,(),(),()))
  | .inr e=>
   e.elim
 | .inr e=>
  e.elim
def g130 (m:Nat) (a:List (Int×Int×Int)):Option (Unit×(List (Int×Int×Int))×Unit×Unit):=
 (g162 m a (a.length:Int)).bind fun y1=>
 some ((),(y1.2.1,(),()))
def g84 (m:Nat) (a:List (Int×Int×Int)):Option ((List (Int×Int×Int))×Unit×Unit):=
 (g129 m a).bind fun y1=>
 (g130 m y1.1).bind fun y2=>
 some (y2.2.1,((),()))
def g36_L1 (m:Nat):Nat→Int→Int→List Int→List Int→List Int→Int→Int→List Int→List Int→List Int→Int→Int→Option (((Int×Int×List Int×List Int×List Int×Unit)×(Int×Int×List Int×List Int×List Int×Unit)×Unit)⊕Empty)
 |0,_,_,_,_,_,_,_,_,_,_,_,_=>none
 |n+1,a,b,c,d,f,h,i,j,k,l,o,p=>
  bif decide (p<o)then
   if(0:Int)≤(w_i64 (p+1))∧(w_i64 (p+1))<(j.length:Int)then
   if(0:Int)≤p∧p<(j.length:Int)then
   if(0:Int)≤(w_i64 (p+1))∧(w_i64 (p+1))<(j.length:Int)then
   g36_L1 m n a b c d f h i (j.set (0+(w_i64 (p+1)).toNat) (w_i64 ((j.getD (0+(w_i64 (p+1)).toNat) 0)+(j.getD (0+p.toNat) 0)))) k l o (w_i64 (p+1))
   else none
   else none
   else none
  else
   some (.inl ((a,b,c,d,f,()),(h,i,j,k,l,()),()))
def g36_L0 (m:Nat):Nat→Int→Int→Int→List Int→List Int→List Int→Int→Int→List Int→List Int→List Int→(List (Int×Int×Int))→Int→Int→Option ((Int×(Int×Int×List Int×List Int×List Int×Unit)×(Int×Int×List Int×List Int×List Int×Unit)×Unit)⊕Empty)
 |0,_,_,_,_,_,_,_,_,_,_,_,_,_,_=>none
 |n+1,a,b,c,d,f,h,i,j,k,l,o,p,q,r=>
  bif decide (r<q)then
   if(0:Int)≤r∧r<(p.length:Int)then
   if l.length+([(p.getD (0+r.toNat) (0,(0,0))).1]:List Int).length≤1073741824 then
   if o.length+([(p.getD (0+r.toNat) (0,(0,0))).2.2]:List Int).length≤1073741824 then
   if(0:Int)≤(w_i64 ((p.getD (0+r.toNat) (0,(0,0))).2.1+1))∧(w_i64 ((p.getD (0+r.toNat) (0,(0,0))).2.1+1))<(k.length:Int)then
   if(0:Int)≤(w_i64 ((p.getD (0+r.toNat) (0,(0,0))).2.1+1))∧(w_i64 ((p.getD (0+r.toNat) (0,(0,0))).2.1+1))<(k.length:Int)then
   g36_L0 m n a b c d f h i j (k.set (0+(w_i64 ((p.getD (0+r.toNat) (0,(0,0))).2.1+1)).toNat) (w_i64 ((k.getD (0+(w_i64 ((p.getD (0+r.toNat) (0,(0,0))).2.1+1)).toNat) 0)+1))) (l++([(p.getD (0+r.toNat) (0,(0,0))).1]:List Int)) (o++([(p.getD (0+r.toNat) (0,(0,0))).2.2]:List Int)) p q (w_i64 (r+1))
   else none
   else none
   else none
   else none
   else none
  else
   some (.inl (a,(b,c,d,f,h,()),(i,j,k,l,o,()),()))
def g36 (m:Nat) (a:Int) (b:Int) (c:List (Int×Int×Int)):Option ((Int×Int×List Int×List Int×List Int×Unit)×Unit×Unit×Unit×Unit):=
 if(0:Int)≤(w_i64 (b+1))∧(w_i64 (b+1))≤(w_i64 (b+1))∧(w_i64 (b+1))≤1073741824 then
 (g84 m c).bind fun y1=>
 (g36_L0 m m b 0 0 ([]:List Int) ([]:List Int) ([]:List Int) a b (List.replicate (w_i64 (b+1)).toNat (0:Int)) ([]:List Int) ([]:List Int) y1.1 (y1.1.length:Int) 0).bind fun y2=>
 match y2 with
 | .inl z3=>
  (g36_L1 m m z3.2.1.1 z3.2.1.2.1 z3.2.1.2.2.1 z3.2.1.2.2.2.1 z3.2.1.2.2.2.2.1 z3.2.2.1.1 z3.2.2.1.2.1 z3.2.2.1.2.2.1 z3.2.2.1.2.2.2.1 z3.2.2.1.2.2.2.2.1 z3.1 0).bind fun y4=>
  match y4 with
  | .inl z5=>
   some ((z5.2.1.1,z5.2.1.2.1,z5.2.1.2.2.1,z5.2.1.2.2.2.1,z5.2.1.2.2.2.2.1,()),((),(),(),()))
  | .inr e=>
   e.elim
 | .inr e=>
  e.elim
 else none
def g55 (m:Nat) (a:Int):Option (Int×Unit×Unit):=
 bif (qy .u64 (shr_ .u64 a 52) 2047)==2047 then
  bif (qy .u64 a 4503599627370495) !=0 then
   some (3,((),()))
  else
   bif (qy .u64 (shr_ .u64 a 52) 2047)==2047 then
    some (2,((),()))
   else
    bif (qy .u64 (shr_ .u64 a 52) 2047)==0 then
     bif (qy .u64 a 4503599627370495)==0 then
      some (0,((),()))
     else
      some (1,((),()))
    else
     some (1,((),()))
 else
  bif (qy .u64 (shr_ .u64 a 52) 2047)==2047 then
   some (2,((),()))
  else
   bif (qy .u64 (shr_ .u64 a 52) 2047)==0 then
    bif (qy .u64 a 4503599627370495)==0 then
     some (0,((),()))
    else
     some (1,((),()))
   else
    some (1,((),()))
def g137 (m:Nat) (a:Int):Option (Bool×Unit×Unit):=
 some ((qy .u64 (shr_ .u64 a 52) 2047) !=2047,((),()))
def g90_L0 (m:Nat):Nat→List Int→Int→Option ((Bool×Unit)⊕Unit⊕Empty)
 |0,_,_=>none
 |n+1,a,b=>
  bif decide (b<(a.length:Int))then
   if(0:Int)≤b∧b<(a.length:Int)then
   (g137 m (a.getD b.toNat 0)).bind fun y1=>
   bif !y1.1 then
    some (.inl (false,()))
   else
    g90_L0 m n a (w_i64 (b+1))
   else none
  else
   some (.inr (.inl ()))
def g90 (m:Nat) (a:List Int):Option (Bool×Unit×Unit):=
 (g90_L0 m m a 0).bind fun y1=>
 match y1 with
 | .inl z2=>
  some (z2.1,((),()))
 | .inr (.inl z3)=>
  some (true,((),()))
 | .inr (.inr e)=>
  e.elim
def g45_L2 (m:Nat):Nat→Int→Int→List Int→List Int→List Int→Int→Int→Option ((Int×Unit)⊕((Int×Int×List Int×List Int×List Int×Unit)×Int×Unit)⊕Empty)
 |0,_,_,_,_,_,_,_=>none
 |n+1,a,b,c,d,f,h,i=>
  if(0:Int)≤(w_i64 (h+1))∧(w_i64 (h+1))<(c.length:Int)then
  bif decide (i<(c.getD (w_i64 (h+1)).toNat 0))then
   if(0:Int)≤i∧i<(d.length:Int)then
   bif decide ((d.getD i.toNat 0)<0)then
    some (.inl (1,()))
   else
    if(0:Int)≤i∧i<(d.length:Int)then
    bif decide ((d.getD i.toNat 0)≥a)then
     some (.inl (1,()))
    else
     if(0:Int)≤h∧h<(c.length:Int)then
     bif decide (i>(c.getD h.toNat 0))then
      if(0:Int)≤i∧i<(d.length:Int)then
      if(0:Int)≤(w_i64 (i-1))∧(w_i64 (i-1))<(d.length:Int)then
      bif decide ((d.getD i.toNat 0)≤(d.getD (w_i64 (i-1)).toNat 0))then
       some (.inl (1,()))
      else
       g45_L2 m n a b c d f h (w_i64 (i+1))
      else none
      else none
     else
      g45_L2 m n a b c d f h (w_i64 (i+1))
     else none
    else none
   else none
  else
   some (.inr (.inl ((a,b,c,d,f,()),h,())))
  else none
def g45_L1 (m:Nat):Nat→Int→Int→List Int→List Int→List Int→Int→Option ((Int×Unit)⊕((Int×Int×List Int×List Int×List Int×Unit)×Unit)⊕Empty)
 |0,_,_,_,_,_,_=>none
 |n+1,a,b,c,d,f,h=>
  bif decide (h<b)then
   if(0:Int)≤h∧h<(c.length:Int)then
   (g45_L2 m m a b c d f h (c.getD h.toNat 0)).bind fun y1=>
   match y1 with
   | .inl z2=>
    some (.inl (z2.1,()))
   | .inr (.inl z3)=>
    g45_L1 m n z3.1.1 z3.1.2.1 z3.1.2.2.1 z3.1.2.2.2.1 z3.1.2.2.2.2.1 (w_i64 (z3.2.1+1))
   | .inr (.inr e)=>
    e.elim
   else none
  else
   some (.inr (.inl ((a,b,c,d,f,()),())))
def g45_L0 (m:Nat):Nat→Int→Int→List Int→List Int→List Int→Int→Option ((Int×Unit)⊕((Int×Int×List Int×List Int×List Int×Unit)×Unit)⊕Empty)
 |0,_,_,_,_,_,_=>none
 |n+1,a,b,c,d,f,h=>
  bif decide (h<b)then
   if(0:Int)≤h∧h<(c.length:Int)then
   if(0:Int)≤(w_i64 (h+1))∧(w_i64 (h+1))<(c.length:Int)then
   bif decide ((c.getD h.toNat 0)>(c.getD (w_i64 (h+1)).toNat 0))then
    some (.inl (1,()))
   else
    g45_L0 m n a b c d f (w_i64 (h+1))
   else none
   else none
  else
   some (.inr (.inl ((a,b,c,d,f,()),())))
def g45 (m:Nat) (a:Int) (b:Int) (c:List Int) (d:List Int) (f:List Int):Option (Int×Unit×Unit):=
 bif decide (a<0)then
  some (6,((),()))
 else
  bif decide (a>200)then
   some (6,((),()))
  else
   bif decide (b<0)then
    some (6,((),()))
   else
    bif decide (b>200)then
     some (6,((),()))
    else
     bif decide ((d.length:Int)>10000)then
      some (6,((),()))
     else
      bif (f.length:Int) !=(d.length:Int)then
       some (1,((),()))
      else
       bif (c.length:Int) !=(w_i64 (b+1))then
        some (1,((),()))
       else
        if(0:Int)≤0∧0<(c.length:Int)then
        bif (c.getD 0 0) !=0 then
         some (1,((),()))
        else
         if(0:Int)≤b∧b<(c.length:Int)then
         bif (c.getD b.toNat 0) !=(d.length:Int)then
          some (1,((),()))
         else
          (g45_L0 m m a b c d f 0).bind fun y1=>
          match y1 with
          | .inl z2=>
           some (z2.1,((),()))
          | .inr (.inl z3)=>
           (g45_L1 m m z3.1.1 z3.1.2.1 z3.1.2.2.1 z3.1.2.2.2.1 z3.1.2.2.2.2.1 0).bind fun y4=>
           match y4 with
           | .inl z5=>
            some (z5.1,((),()))
           | .inr (.inl z6)=>
            (g90 m z6.1.2.2.2.2.1).bind fun y7=>
            bif !y7.1 then
             some (4,((),()))
            else
             some (0,((),()))
           | .inr (.inr e)=>
            e.elim
          | .inr (.inr e)=>
           e.elim
         else none
        else none
def g94_L0 (m:Nat):Nat→Int→Int→Int→Int→List Int→List Int→List Int→Int→Option ((Int×Unit)⊕Unit⊕Empty)
 |0,_,_,_,_,_,_,_,_=>none
 |n+1,a,b,c,d,f,h,i,j=>
  if(0:Int)≤(w_i64 (b+1))∧(w_i64 (b+1))<(f.length:Int)then
  bif decide (j<(f.getD (w_i64 (b+1)).toNat 0))then
   if(0:Int)≤j∧j<(h.length:Int)then
   bif (h.getD j.toNat 0)==a then
    if(0:Int)≤j∧j<(i.length:Int)then
    some (.inl (i.getD j.toNat 0,()))
    else none
   else
    g94_L0 m n a b c d f h i (w_i64 (j+1))
   else none
  else
   some (.inr (.inl ()))
  else none
def g94 (m:Nat) (a:Int) (b:Int) (c:List Int) (d:List Int) (f:List Int) (h:Int) (i:Int):Option (Int×Unit×Unit×Unit×Unit):=
 (g45 m a b c d f).bind fun y1=>
 bif y1.1 !=0 then
  some (0,((),(),(),()))
 else
  bif decide (i<0)then
   some (0,((),(),(),()))
  else
   bif decide (i≥b)then
    some (0,((),(),(),()))
   else
    if(0:Int)≤i∧i<(c.length:Int)then
    (g94_L0 m m h i a b c d f (c.getD i.toNat 0)).bind fun y2=>
    match y2 with
    | .inl z3=>
     some (z3.1,((),(),(),()))
    | .inr (.inl z4)=>
     some (0,((),(),(),()))
    | .inr (.inr e)=>
     e.elim
    else none
def g49_L0 (m:Nat):Nat→List Int→Int→Int→Option ((List Int×Unit)⊕Empty)
 |0,_,_,_=>none
 |n+1,a,b,c=>
  bif decide (c<b)then
   if(0:Int)≤c∧c<(a.length:Int)then
   g49_L0 m n (a.set (0+c.toNat) c) b (w_i64 (c+1))
   else none
  else
   some (.inl (a,()))
def g49 (m:Nat) (a:Int):Option (List Int×Unit×Unit):=
 (g85 m a 0).bind fun y1=>
 (g49_L0 m m y1.1 (y1.1.length:Int) 0).bind fun y2=>
 match y2 with
 | .inl z3=>
  some (z3.1,((),()))
 | .inr e=>
  e.elim
def g95_L2 (m:Nat):Nat→List Int→List Int→Int→Int→Option ((List Int×Int×Unit)⊕(List Int×Unit)⊕Empty)
 |0,_,_,_,_=>none
 |n+1,a,b,c,d=>
  bif decide (d<c)then
   if(0:Int)≤d∧d<(b.length:Int)then
   if(0:Int)≤(b.getD d.toNat 0)∧(b.getD d.toNat 0)<(a.length:Int)then
   bif decide ((a.getD (0+(b.getD d.toNat 0).toNat) 0)≥0)then
    some (.inl (([]:List Int),90,()))
   else
    if(0:Int)≤(b.getD d.toNat 0)∧(b.getD d.toNat 0)<(a.length:Int)then
    g95_L2 m n (a.set (0+(b.getD d.toNat 0).toNat) d) b c (w_i64 (d+1))
    else none
   else none
   else none
  else
   some (.inr (.inl (a,())))
def g95_L1 (m:Nat):Nat→List Int→Int→List Int→List Int→Int→Int→Option ((List Int×Int×Unit)⊕(List Int×List Int×Unit)⊕Empty)
 |0,_,_,_,_,_,_=>none
 |n+1,a,b,c,d,f,h=>
  bif decide (h<f)then
   if(0:Int)≤h∧h<(d.length:Int)then
   (g68 m (d.getD h.toNat 0) 0 (w_i64 (b-1))).bind fun y1=>
   bif !y1.1 then
    some (.inl (([]:List Int),3,()))
   else
    g95_L1 m n a b c d f (w_i64 (h+1))
   else none
  else
   some (.inr (.inl (a,c,())))
def g95_L0 (m:Nat):Nat→List Int→Int→List Int→Int→Int→Option ((List Int×Int×List Int×Unit)⊕Empty)
 |0,_,_,_,_,_=>none
 |n+1,a,b,c,d,f=>
  bif decide (f<d)then
   if(0:Int)≤f∧f<(c.length:Int)then
   g95_L0 m n a b (c.set (0+f.toNat) (-1)) d (w_i64 (f+1))
   else none
  else
   some (.inl (a,b,c,()))
def g95 (m:Nat) (a:List Int) (b:Int):Option ((List Int×Int×Unit)×Unit×Unit×Unit):=
 if(0:Int)≤b∧b≤b∧b≤1073741824 then
 (g95_L0 m m a b (List.replicate b.toNat (0:Int)) ((List.replicate b.toNat (0:Int)).length:Int) 0).bind fun y1=>
 match y1 with
 | .inl z2=>
  (g95_L1 m m z2.1 z2.2.1 z2.2.2.1 z2.1 (z2.1.length:Int) 0).bind fun y3=>
  match y3 with
  | .inl z4=>
   some ((z4.1,z4.2.1,()),((),(),()))
  | .inr (.inl z5)=>
   (g95_L2 m m z5.2.1 z5.1 (z5.1.length:Int) 0).bind fun y6=>
   match y6 with
   | .inl z7=>
    some ((z7.1,z7.2.1,()),((),(),()))
   | .inr (.inl z8)=>
    some ((z8.1,0,()),((),(),()))
   | .inr (.inr e)=>
    e.elim
  | .inr (.inr e)=>
   e.elim
 | .inr e=>
  e.elim
 else none
def g96_L0 (m:Nat):Nat→List Int→List Int→List Int→List Int→Int→Int→List Int→List Int→List Int→(List (Int×Int×Int))→(List (Int×Int×Int))→Int→Int→Option ((List Int×List Int×(Int×Int×List Int×List Int×List Int×Unit)×(List (Int×Int×Int))×Unit)⊕Empty)
 |0,_,_,_,_,_,_,_,_,_,_,_,_,_=>none
 |n+1,a,b,c,d,f,h,i,j,k,l,o,p,q=>
  bif decide (q<p)then
   if(0:Int)≤q∧q<(o.length:Int)then
   if(0:Int)≤(o.getD (0+q.toNat) (0,(0,0))).1∧(o.getD (0+q.toNat) (0,(0,0))).1<(c.length:Int)then
   bif decide ((c.getD (o.getD (0+q.toNat) (0,(0,0))).1.toNat 0)≥0)then
    if(0:Int)≤(o.getD (0+q.toNat) (0,(0,0))).2.1∧(o.getD (0+q.toNat) (0,(0,0))).2.1<(d.length:Int)then
    bif decide ((d.getD (o.getD (0+q.toNat) (0,(0,0))).2.1.toNat 0)≥0)then
     if(0:Int)≤(o.getD (0+q.toNat) (0,(0,0))).1∧(o.getD (0+q.toNat) (0,(0,0))).1<(c.length:Int)then
     if(0:Int)≤(o.getD (0+q.toNat) (0,(0,0))).2.1∧(o.getD (0+q.toNat) (0,(0,0))).2.1<(d.length:Int)then
     if l.length+([(c.getD (o.getD (0+q.toNat) (0,(0,0))).1.toNat 0,(d.getD (o.getD (0+q.toNat) (0,(0,0))).2.1.toNat 0,(o.getD (0+q.toNat) (0,(0,0))).2.2))]:List (Int×Int×Int)).length≤1073741824 then
     g96_L0 m n a b c d f h i j k (l++([(c.getD (o.getD (0+q.toNat) (0,(0,0))).1.toNat 0,(d.getD (o.getD (0+q.toNat) (0,(0,0))).2.1.toNat 0,(o.getD (0+q.toNat) (0,(0,0))).2.2))]:List (Int×Int×Int))) o p (w_i64 (q+1))
     else none
     else none
     else none
    else
     g96_L0 m n a b c d f h i j k l o p (w_i64 (q+1))
    else none
   else
    g96_L0 m n a b c d f h i j k l o p (w_i64 (q+1))
   else none
   else none
  else
   some (.inl (a,b,(f,h,i,j,k,()),l,()))
def g96 (m:Nat) (a:Int) (b:Int) (c:List Int) (d:List Int) (f:List Int) (h:List Int) (i:List Int) (j:List Int) (k:List Int):Option ((Int×Int×List Int×List Int×List Int×Unit)×Unit×Unit×Unit×Unit×Unit×Unit):=
 (g30 m a b c d f).bind fun y1=>
 (g96_L0 m m h i j k 0 0 ([]:List Int) ([]:List Int) ([]:List Int) ([]:List (Int×Int×Int)) y1.1 (y1.1.length:Int) 0).bind fun y2=>
 match y2 with
 | .inl z3=>
  (g36 m (z3.1.length:Int) (z3.2.1.length:Int) z3.2.2.2.1).bind fun y4=>
  some ((y4.1.1,y4.1.2.1,y4.1.2.2.1,y4.1.2.2.2.1,y4.1.2.2.2.2.1,()),((),(),(),(),(),()))
 | .inr e=>
  e.elim
def g48 (m:Nat) (a:Int) (b:Int) (c:List Int) (d:List Int) (f:List Int) (h:List Int) (i:List Int):Option (((Int×Int×List Int×List Int×List Int×Unit)×Int×Unit)×Unit×Unit×Unit×Unit):=
 (g29 m a b c d f).bind fun y1=>
 bif y1.1 !=0 then
  some (((0,0,([]:List Int),([]:List Int),([]:List Int),()),y1.1,()),((),(),(),()))
 else
  bif (h.length:Int) !=a then
   some (((0,0,([]:List Int),([]:List Int),([]:List Int),()),2,()),((),(),(),()))
  else
   bif (i.length:Int) !=b then
    some (((0,0,([]:List Int),([]:List Int),([]:List Int),()),2,()),((),(),(),()))
   else
    (g95 m h a).bind fun y2=>
    (g95 m i b).bind fun y3=>
    bif y2.1.2.1 !=0 then
     some (((0,0,([]:List Int),([]:List Int),([]:List Int),()),90,()),((),(),(),()))
    else
     bif y3.1.2.1 !=0 then
      some (((0,0,([]:List Int),([]:List Int),([]:List Int),()),90,()),((),(),(),()))
     else
      (g96 m a b c d f h i y2.1.1 y3.1.1).bind fun y4=>
      some (((y4.1.1,y4.1.2.1,y4.1.2.2.1,y4.1.2.2.2.1,y4.1.2.2.2.2.1,()),0,()),((),(),(),()))
def g19_L1 (m:Nat):Nat→List Int→List Int→List Int→Int→Int→List Int→List Int→List Int→Int→Int→List Int→List Int→List Int→Int→Int→Int→Int→Option (((Int×Int×List Int×List Int×List Int×Unit)×Int×Unit)⊕((List Int×List Int×List Int×Unit)×(Int×Int×List Int×List Int×List Int×Unit)×(Int×Int×List Int×List Int×List Int×Unit)×Int×Int×Unit)⊕Empty)
 |0,_,_,_,_,_,_,_,_,_,_,_,_,_,_,_,_,_=>none
 |n+1,a,b,c,d,f,h,i,j,k,l,o,p,q,r,s,t,u=>
  if(0:Int)≤(w_i64 (r+1))∧(w_i64 (r+1))<(o.length:Int)then
  bif decide (s<(o.getD (0+(w_i64 (r+1)).toNat) 0))then
   if(0:Int)≤s∧s<(q.length:Int)then
   (g34 m (q.getD (0+s.toNat) 0)).bind fun y1=>
   (g50 m y1.1.1 y1.1.2.1 y1.1.2.2.1 y1.1.2.2.2.1).bind fun y2=>
   bif y2.1==0 then
    g19_L1 m n a b c d f h i j k l o p q r (w_i64 (s+1)) t u
   else
    if(0:Int)≤s∧s<(p.length:Int)then
    if(0:Int)≤(p.getD (0+s.toNat) 0)∧(p.getD (0+s.toNat) 0)<(b.length:Int)then
    if(0:Int)≤r∧r<(c.length:Int)then
    (g51 m (b.getD (p.getD (0+s.toNat) 0).toNat 0) (c.getD r.toNat 0)).bind fun y3=>
    (g33 m y1.1.1 y1.1.2.1 y1.1.2.2.1 y1.1.2.2.2.1 (w_i64 (0-y3.1))).bind fun y4=>
    (g52 m y4.1.1 y4.1.2.1 y4.1.2.2.1 y4.1.2.2.2.1 0).bind fun y5=>
    (g34 m y5.1).bind fun y6=>
    (g53 m y6.1.1 y6.1.2.1 y6.1.2.2.1 y6.1.2.2.2.1 y4.1.1 y4.1.2.1 y4.1.2.2.1 y4.1.2.2.2.1).bind fun y7=>
    bif !y7.1.2.1 then
     some (.inl ((0,0,([]:List Int),([]:List Int),([]:List Int),()),3,()))
    else
     bif y7.1.1 !=0 then
      some (.inl ((0,0,([]:List Int),([]:List Int),([]:List Int),()),3,()))
     else
      if(0:Int)≤s∧s<(q.length:Int)then
      g19_L1 m n a b c d f h i j k l o p (q.set (0+s.toNat) y5.1) r (w_i64 (s+1)) t u
      else none
    else none
    else none
    else none
   else none
  else
   some (.inr (.inl ((a,b,c,()),(d,f,h,i,j,()),(k,l,o,p,q,()),t,u,())))
  else none
def g19_L0 (m:Nat):Nat→List Int→List Int→List Int→Int→Int→List Int→List Int→List Int→Int→Int→List Int→List Int→List Int→Int→Int→Option (((Int×Int×List Int×List Int×List Int×Unit)×Int×Unit)⊕((Int×Int×List Int×List Int×List Int×Unit)×(Int×Int×List Int×List Int×List Int×Unit)×Unit)⊕Empty)
 |0,_,_,_,_,_,_,_,_,_,_,_,_,_,_,_=>none
 |n+1,a,b,c,d,f,h,i,j,k,l,o,p,q,r,s=>
  bif decide (s<r)then
   if(0:Int)≤s∧s<(o.length:Int)then
   (g19_L1 m m a b c d f h i j k l o p q s (o.getD (0+s.toNat) 0) r s).bind fun y1=>
   match y1 with
   | .inl z2=>
    some (.inl ((z2.1.1,z2.1.2.1,z2.1.2.2.1,z2.1.2.2.2.1,z2.1.2.2.2.2.1,()),z2.2.1,()))
   | .inr (.inl z3)=>
    g19_L0 m n z3.1.1 z3.1.2.1 z3.1.2.2.1 z3.2.1.1 z3.2.1.2.1 z3.2.1.2.2.1 z3.2.1.2.2.2.1 z3.2.1.2.2.2.2.1 z3.2.2.1.1 z3.2.2.1.2.1 z3.2.2.1.2.2.1 z3.2.2.1.2.2.2.1 z3.2.2.1.2.2.2.2.1 z3.2.2.2.1 (w_i64 (z3.2.2.2.2.1+1))
   | .inr (.inr e)=>
    e.elim
   else none
  else
   some (.inr (.inl ((d,f,h,i,j,()),(k,l,o,p,q,()),())))
def g19 (m:Nat) (a:Int) (b:Int) (c:List Int) (d:List Int) (f:List Int) (h:List Int) (i:List Int) (j:List Int):Option (((Int×Int×List Int×List Int×List Int×Unit)×Int×Unit)×Unit×Unit×Unit):=
 (g21 m a b c d f h i j).bind fun y1=>
 bif y1.1 !=0 then
  some (((0,0,([]:List Int),([]:List Int),([]:List Int),()),y1.1,()),((),(),()))
 else
  (g49 m a).bind fun y2=>
  (g49 m b).bind fun y3=>
  (g48 m a b c d f y2.1 y3.1).bind fun y4=>
  (g19_L0 m m h i j 0 0 ([]:List Int) ([]:List Int) ([]:List Int) y4.1.1.1 y4.1.1.2.1 y4.1.1.2.2.1 y4.1.1.2.2.2.1 y4.1.1.2.2.2.2.1 y4.1.1.2.1 0).bind fun y5=>
  match y5 with
  | .inl z6=>
   some (((z6.1.1,z6.1.2.1,z6.1.2.2.1,z6.1.2.2.2.1,z6.1.2.2.2.2.1,()),z6.2.1,()),((),(),()))
  | .inr (.inl z7)=>
   some (((z7.2.1.1,z7.2.1.2.1,z7.2.1.2.2.1,z7.2.1.2.2.2.1,z7.2.1.2.2.2.2.1,()),0,()),((),(),()))
  | .inr (.inr e)=>
   e.elim
def g54_L1 (m:Nat):Nat→Int→Int→List Int→List Int→List Int→(List (Int×Int×Int))→Int→Int→Option (((Int×Int×List Int×List Int×List Int×Unit)×(List (Int×Int×Int))×Int×Unit)⊕Empty)
 |0,_,_,_,_,_,_,_,_=>none
 |n+1,a,b,c,d,f,h,i,j=>
  if(0:Int)≤(w_i64 (i+1))∧(w_i64 (i+1))<(c.length:Int)then
  bif decide (j<(c.getD (w_i64 (i+1)).toNat 0))then
   if(0:Int)≤j∧j<(d.length:Int)then
   if(0:Int)≤j∧j<(f.length:Int)then
   if h.length+([(d.getD j.toNat 0,(i,f.getD j.toNat 0))]:List (Int×Int×Int)).length≤1073741824 then
   g54_L1 m n a b c d f (h++([(d.getD j.toNat 0,(i,f.getD j.toNat 0))]:List (Int×Int×Int))) i (w_i64 (j+1))
   else none
   else none
   else none
  else
   some (.inl ((a,b,c,d,f,()),h,i,()))
  else none
def g66_L0 (m:Nat):Nat→List Int→Int→Int→Option ((Bool×Unit)⊕Unit⊕Empty)
 |0,_,_,_=>none
 |n+1,a,b,c=>
  bif decide (c<b)then
   if(0:Int)≤c∧c<(a.length:Int)then
   (g31 m (a.getD c.toNat 0)).bind fun y1=>
   bif y1.1==3 then
    some (.inl (true,()))
   else
    g66_L0 m n a b (w_i64 (c+1))
   else none
  else
   some (.inr (.inl ()))
def g66 (m:Nat) (a:List Int):Option (Bool×Unit×Unit):=
 (g66_L0 m m a (a.length:Int) 0).bind fun y1=>
 match y1 with
 | .inl z2=>
  some (z2.1,((),()))
 | .inr (.inl z3)=>
  some (false,((),()))
 | .inr (.inr e)=>
  e.elim
def g25 (m:Nat) (a:Int):Option (Int×Unit×Unit):=
 (g66 m ([a]:List Int)).bind fun y1=>
 bif y1.1 then
  some (9221120237041090560,((),()))
 else
  some (qpp .u64 a 9223372036854775808,((),()))
def g67 (m:Nat) (a:Int):Option (Int×Unit×Unit):=
 (g82 m a).bind fun y1=>
 bif y1.1 then
  some (w_i64 (0-(w_i64 (qpp .u64 a 9223372036854775808))),((),()))
 else
  some (w_i64 (qpp .u64 a 9223372036854775808),((),()))
def g24 (m:Nat) (a:Int) (b:Int):Option ((Int×Bool×Unit)×Unit×Unit×Unit):=
 (g66 m ([a,b]:List Int)).bind fun y1=>
 bif y1.1 then
  some ((0,false,()),((),(),()))
 else
  (g67 m a).bind fun y2=>
  (g67 m b).bind fun y3=>
  bif decide (y2.1<y3.1)then
   some (((-1),true,()),((),(),()))
  else
   bif decide (y2.1>y3.1)then
    some ((1,true,()),((),(),()))
   else
    some ((0,true,()),((),(),()))
def g151 (m:Nat) (a:Int):Option (Bool×Unit×Unit):=
 some (a !=a,((),()))
def g115_L0 (m:Nat):Nat→List Int→Int→Int→Int→Int→Option ((List Int×Int×Int×Int×Unit)⊕Empty)
 |0,_,_,_,_,_=>none
 |n+1,a,b,c,d,f=>
  bif decide (d<f)then
   if(0:Int)≤(w_i64 (shr_ .u64 (w_u64 (w_i64 (d+f))) 1))∧(w_i64 (shr_ .u64 (w_u64 (w_i64 (d+f))) 1))<(a.length:Int)then
   (g150 m (a.getD (w_i64 (shr_ .u64 (w_u64 (w_i64 (d+f))) 1)).toNat 0) b).bind fun y1=>
   bif y1.1 then
    g115_L0 m n a b c (w_i64 ((w_i64 (shr_ .u64 (w_u64 (w_i64 (d+f))) 1))+1)) f
   else
    g115_L0 m n a b c d (w_i64 (shr_ .u64 (w_u64 (w_i64 (d+f))) 1))
   else none
  else
   some (.inl (a,b,c,d,()))
def g115 (m:Nat) (a:List Int) (b:Int):Option ((Int×Bool×Unit)×Unit×Unit×Unit):=
 (g115_L0 m m a b (a.length:Int) 0 (a.length:Int)).bind fun y1=>
 match y1 with
 | .inl z2=>
  bif decide (z2.2.2.2.1<z2.2.2.1)then
   if(0:Int)≤z2.2.2.2.1∧z2.2.2.2.1<(z2.1.length:Int)then
   bif (z2.1.getD z2.2.2.2.1.toNat 0)==z2.2.1 then
    some ((z2.2.2.2.1,true,()),((),(),()))
   else
    if(0:Int)≤z2.2.2.2.1∧z2.2.2.2.1<(z2.1.length:Int)then
    (g151 m (z2.1.getD z2.2.2.2.1.toNat 0)).bind fun y3=>
    bif y3.1 then
     (g151 m z2.2.1).bind fun y4=>
     some ((z2.2.2.2.1,y4.1,()),((),(),()))
    else
     some ((z2.2.2.2.1,false,()),((),(),()))
    else none
   else none
  else
   some ((z2.2.2.2.1,false,()),((),(),()))
 | .inr e=>
  e.elim
def g69 (m:Nat) (a:Int) (b:Int) (c:List Int) (d:List Int) (f:List Int) (h:Int) (i:Int):Option ((Int×Bool×Unit)×Unit×Unit×Unit×Unit):=
 if(0:Int)≤i∧i<(c.length:Int)then
 if(0:Int)≤(w_i64 (i+1))∧(w_i64 (i+1))<(c.length:Int)then
 if(0:Int)≤(c.getD i.toNat 0)∧(c.getD i.toNat 0)≤(c.getD (w_i64 (i+1)).toNat 0)∧(c.getD (w_i64 (i+1)).toNat 0)≤(d.length:Int)then
 (g115 m ((d.drop (c.getD i.toNat 0).toNat).take ((c.getD (w_i64 (i+1)).toNat 0).toNat-(c.getD i.toNat 0).toNat)) h).bind fun y1=>
 bif !y1.1.2.1 then
  some ((0,false,()),((),(),(),()))
 else
  if(0:Int)≤i∧i<(c.length:Int)then
  if(0:Int)≤(w_i64 ((c.getD i.toNat 0)+y1.1.1))∧(w_i64 ((c.getD i.toNat 0)+y1.1.1))<(f.length:Int)then
  some ((f.getD (w_i64 ((c.getD i.toNat 0)+y1.1.1)).toNat 0,true,()),((),(),(),()))
  else none
  else none
 else none
 else none
 else none
def g26 (m:Nat) (a:Int) (b:Int) (c:List Int) (d:List Int) (f:List Int) (h:Int) (i:Int):Option (Int×Unit×Unit×Unit×Unit):=
 (g29 m a b c d f).bind fun y1=>
 bif y1.1 !=0 then
  some (0,((),(),(),()))
 else
  (g68 m h 0 (w_i64 (a-1))).bind fun y2=>
  bif !y2.1 then
   some (0,((),(),(),()))
  else
   (g68 m i 0 (w_i64 (b-1))).bind fun y3=>
   bif !y3.1 then
    some (0,((),(),(),()))
   else
    (g69 m a b c d f h i).bind fun y4=>
    some (y4.1.1,((),(),(),()))
def sparselaw14_TransversalScaled_L1 (m:Nat):Nat→Int→List Int→List Int→List Int→Int→Int→List Int→List Int→List Int→Int→Option ((Bool×Unit)⊕Unit⊕Empty)
 |0,_,_,_,_,_,_,_,_,_,_=>none
 |n+1,a,b,c,d,f,h,i,j,k,l=>
  bif decide (l<a)then
   if(0:Int)≤l∧l<(b.length:Int)then
   (g26 m f h i j k (b.getD (0+l.toNat) 0) l).bind fun y1=>
   (g25 m y1.1).bind fun y2=>
   (g24 m y2.1 4607182418800017408).bind fun y3=>
   bif !y3.1.2.1 then
    some (.inl (false,()))
   else
    bif decide (y3.1.1<0)then
     some (.inl (false,()))
    else
     sparselaw14_TransversalScaled_L1 m n a b c d f h i j k (w_i64 (l+1))
   else none
  else
   some (.inr (.inl ()))
def sparselaw14_TransversalScaled_L0 (m:Nat):Nat→Int→List Int→List Int→List Int→Int→Int→List Int→List Int→List Int→Int→Option ((Bool×Unit)⊕(Int×(List Int×List Int×List Int×Unit)×(Int×Int×List Int×List Int×List Int×Unit)×Unit)⊕Empty)
 |0,_,_,_,_,_,_,_,_,_,_=>none
 |n+1,a,b,c,d,f,h,i,j,k,l=>
  bif decide (l<(k.length:Int))then
   if(0:Int)≤l∧l<(k.length:Int)then
   (g25 m (k.getD (0+l.toNat) 0)).bind fun y1=>
   (g24 m y1.1 4611686018427387904).bind fun y2=>
   bif !y2.1.2.1 then
    some (.inl (false,()))
   else
    bif decide (y2.1.1≥0)then
     some (.inl (false,()))
    else
     sparselaw14_TransversalScaled_L0 m n a b c d f h i j k (w_i64 (l+1))
   else none
  else
   some (.inr (.inl (a,(b,c,d,()),(f,h,i,j,k,()),())))
def sparselaw14_TransversalScaled (m:Nat) (a:Int) (b:List Int):Option (Bool×Unit×Unit×Unit):=
 bif decide ((b.length:Int)>60)then
  (sparselaw14_awake m).bind fun y1=>
  some (y1.1,((),(),()))
 else
  (g8 m a 6).bind fun y2=>
  (g9 m y2.1 b).bind fun y3=>
  (g12 m y3.1.1 y3.1.2.1 y3.1.2.2.1 y3.1.2.2.2.1 y3.1.2.2.2.2.1).bind fun y4=>
  bif y4.1.2.1 !=0 then
   bif y4.1.2.1==9 then
    (sparselaw14_awake m).bind fun y5=>
    some (y5.1,((),(),()))
   else
    some (false,((),(),()))
  else
   (g19 m y3.1.1 y3.1.2.1 y3.1.2.2.1 y3.1.2.2.2.1 y3.1.2.2.2.2.1 y4.1.1.1 y4.1.1.2.1 y4.1.1.2.2.1).bind fun y6=>
   bif y6.1.2.1 !=0 then
    some (false,((),(),()))
   else
    bif (y4.1.1.1.length:Int) !=y2.1 then
     some (false,((),(),()))
    else
     bif (y6.1.1.2.2.2.2.1.length:Int) !=(y3.1.2.2.2.2.1.length:Int)then
      some (false,((),(),()))
     else
      (sparselaw14_TransversalScaled_L0 m m y2.1 y4.1.1.1 y4.1.1.2.1 y4.1.1.2.2.1 y6.1.1.1 y6.1.1.2.1 y6.1.1.2.2.1 y6.1.1.2.2.2.1 y6.1.1.2.2.2.2.1 0).bind fun y7=>
      match y7 with
      | .inl z8=>
       some (z8.1,((),(),()))
      | .inr (.inl z9)=>
       (sparselaw14_TransversalScaled_L1 m m z9.1 z9.2.1.1 z9.2.1.2.1 z9.2.1.2.2.1 z9.2.2.1.1 z9.2.2.1.2.1 z9.2.2.1.2.2.1 z9.2.2.1.2.2.2.1 z9.2.2.1.2.2.2.2.1 0).bind fun y10=>
       match y10 with
       | .inl z11=>
        some (z11.1,((),(),()))
       | .inr (.inl z12)=>
        (sparselaw14_awake m).bind fun y13=>
        some (y13.1,((),(),()))
       | .inr (.inr e)=>
        e.elim
      | .inr (.inr e)=>
       e.elim
end Go.Vs.F
