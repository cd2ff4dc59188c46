import Derived.Test.YtkbgfnhdfmmfcaaGreatDoorVc
set_option linter.unusedVariables false
set_option linter.unusedSimpArgs false
set_option linter.unusedSectionVars false
set_option linter.defProp false
namespace Go.Vs.F
abbrev V2:=((),(),())
abbrev ul:=((),())
abbrev u4:=((),(),(),())
abbrev vm:=((),(),(),(),())
abbrev v4:=((),(),(),(),(),())
abbrev dX:=(Bool×LI)
abbrev eC:=(List Bool)
abbrev Lf:=(Bool×Unit)
abbrev CS:=(LI×Int×Unit)
abbrev vJ:=(Int×Int×Int)
abbrev OZ:=(Int×Int×Unit)
abbrev tU:=(List LI×Unit)
abbrev O0:=(LI×Bool×Unit)
abbrev UQ:=(LI×Unit×Unit)
abbrev oH:=(Bool×LI×Unit)
abbrev jz:=(Int×Unit×Unit)
abbrev o6:=(Bool×Unit×Unit)
abbrev eE:=(List dX )
abbrev gA:=(Int×Int×LI×Int)
abbrev q9:=((LI×Unit)⊕Empty)
abbrev yz:=(LI×LI×LI×List LI)
abbrev xl:=(LI×Unit×Unit×Unit)
abbrev bA:=(Bool× dX ×Int)
abbrev re:=(List vJ )
abbrev i7:=(Int×Unit×Unit×Unit)
abbrev uu:=(Bool×Unit×Unit×Unit)
abbrev NK:=( CS ⊕Empty)
abbrev W8:=(Int×Int×Int×Int×Unit)
abbrev mu:=(Bool×Bool×LI×Int×Unit)
abbrev gy:=(List gA )
abbrev CT:=(LI×LI×LI×List LI×Unit)
abbrev rf:=((Int×Unit)⊕Unit⊕Empty)
abbrev dS:=(List eE )
abbrev mq:=(Int×Int×LI×LI×LI×Unit)
abbrev qW:=( Lf ⊕Unit⊕Empty)
abbrev NI:=(Int×Unit×Unit×Unit×Unit)
abbrev uo:=(List yz )
abbrev WZ:=(Bool×Unit×Unit×Unit×Unit)
abbrev GR:=( oH ×Unit×Unit)
abbrev W0:=((Int×Bool×Unit)×Unit×Unit)
abbrev ts1:=( re ×Unit)
abbrev c9:=(List bA )
abbrev tq1:=(List eC ×Unit×Unit)
abbrev W3:=(Bool×Bool×LI×Int×Bool×Unit)
abbrev iH:=(LI×LI×LI×LI×LI×LI×Int×Unit)
abbrev tn1:=(LI×Unit×Unit×Unit×Unit×Unit)
abbrev tm1:=((LI×LI×Unit)×Unit×Unit×Unit)
abbrev UO:=( CS ×Unit×Unit×Unit)
abbrev UP:=( mu ×Unit)
abbrev th1:=( oH ×Int×Bool×Unit)
abbrev tg1:=( re ×Int×Unit)
abbrev tf1:=((LI×LI×List LI×Unit)×Int×Unit)
abbrev yc:=( oH ×Unit×Unit×Unit)
abbrev W4:=( O0 ×Unit×Unit×Unit)
abbrev tc1:=((List eC ×Unit)⊕Empty)
abbrev W5:=((Int×Bool×Unit)×Unit×Unit×Unit)
abbrev NJ:=(List eC ×List Bool×Unit)
abbrev tZ1:=(( oH ×Int×Unit)⊕Empty)
abbrev cP:=(List c9 )
abbrev W6:=((LI×LI×List LI×Unit)×LI×Int×Unit)
abbrev tW1:=( mq ×Int×Unit)
abbrev xk:=( mu ×Unit×Unit)
abbrev tU1:=( dS ×Int×Int×Unit)
abbrev W7:=(( dS ×Unit)⊕Empty)
abbrev tS1:=( c9 ×Bool×Unit)
abbrev tR1:=( iH ×Int×Unit)
abbrev tQ1:=( dS ×Unit×Unit×Unit)
abbrev yy:=( mu ×Unit×Unit×Unit)
abbrev O1:=(LI×Int×List c9 )
abbrev tN1:=(( tU ×Int×Unit)×Unit×Unit×Unit)
abbrev tM1:=(( OZ ×Int×Unit)×Unit×Unit×Unit)
abbrev tL1:=(( oH ×Int×Unit)×Unit×Unit×Unit)
abbrev tK1:=( mq ×Unit×Unit×Unit×Unit)
abbrev tJ1:=(( tU ×List eC ×Unit)⊕Empty)
abbrev tI1:=( cP ×Unit×Unit)
abbrev qP:=(List O1 )
abbrev iI:=(LI×Int× cP ×Unit)
abbrev tF1:=((Int× oH × oH ×Unit)⊕Empty)
abbrev tE1:=((Int×Unit)⊕( mq ×Unit)⊕Empty)
abbrev W9:=(( cP ×Unit)⊕Empty)
abbrev tC1:=( iH ×Int×List LI×LI×Unit)
abbrev Xs:=((Int×Unit)⊕( iH ×Unit)⊕Empty)
abbrev XA:=(( oH × oH ×Int×Unit)×Unit×Unit×Unit)
abbrev tu:=((LI× iH ×Int×List LI×Unit)⊕Empty)
abbrev tZ:=( mu × c9 ×Unit)
abbrev tY:=( CS ⊕( iH ×LI×Unit)⊕Empty)
abbrev tX:=(( mq × mq ×Unit)⊕Empty)
abbrev tV:=((LI× mu × c9 ×Unit)⊕Empty)
abbrev tK:=((Int×Unit)⊕( gy × tU ×Int×Int×Unit)⊕Empty)
abbrev tJ:=( iI × CT ×Bool×Unit)
abbrev tH:=( iI × CT × iI × CT ×Unit)
abbrev tC:=((LI× gy ×Int× qP × mq × iI × iI ×Unit)⊕Empty)
abbrev qz:Bool×(Bool×List Int)×Int:=(false,((false,[]),0))
section
variable {α β γ:Type}
abbrev ut (c:α):=∀g,g=c→α
def am (a:List α)(i:Int)(d:α)(k:α→Option β):Option β:=if 0<=i/\i<(a.length:Int)then k (a.getD i.toNat d)else none
def em (a:List α)(i:Int)(k:Option β):Option β:=if 0<=i/\i<(a.length:Int)then k else none
def gc (a b:List α)(k:List α→Option β):Option β:=if a.length+b.length<=1073741824 then k (a++b)else none
def jp (i j:Int)(k:Option β):Option β:=if 0<=i/\i<=j/\j<=1073741824 then k else none
def lc (i:Int)(k:Option β):Option β:=if 0<=i/\i<=i/\i<=1073741824 then k else none
def pm {A0 A1 A2 Z E:Type}(f:A0→A1→A2→E)(x:A0×A1×A2×Z):E:=f x.1 x.2.1 x.2.2.1
def rc {A0 A1 A2 Z:Type}(x:A0×A1×A2×Z):=(x.1,x.2.1,x.2.2.1,())
def pp {A0 A1 A2 A3 Z E:Type}(f:A0→A1→A2→A3→E)(x:A0×A1×A2×A3×Z):E:=f x.1 x.2.1 x.2.2.1 x.2.2.2.1
def rg {A0 A1 A2 A3 Z:Type}(x:A0×A1×A2×A3×Z):=(x.1,x.2.1,x.2.2.1,x.2.2.2.1,())
def pu {A0 A1 A2 A3 A4 Z E:Type}(f:A0→A1→A2→A3→A4→E)(x:A0×A1×A2×A3×A4×Z):E:=f x.1 x.2.1 x.2.2.1 x.2.2.2.1 x.2.2.2.2.1
def ro {A0 A1 A2 A3 A4 Z:Type}(x:A0×A1×A2×A3×A4×Z):=(x.1,x.2.1,x.2.2.1,x.2.2.2.1,x.2.2.2.2.1,())
def qr {A0 A1 A2 A3 A4 A5 A6 Z E:Type}(f:A0→A1→A2→A3→A4→A5→A6→E)(x:A0×A1×A2×A3×A4×A5×A6×Z):E:=f x.1 x.2.1 x.2.2.1 x.2.2.2.1 x.2.2.2.2.1 x.2.2.2.2.2.1 x.2.2.2.2.2.2.1
def rx {A0 A1 A2 A3 A4 A5 A6 Z:Type}(x:A0×A1×A2×A3×A4×A5×A6×Z):=(x.1,x.2.1,x.2.2.1,x.2.2.2.1,x.2.2.2.2.1,x.2.2.2.2.2.1,x.2.2.2.2.2.2.1,())
end
def N4:LI:=[0,1,28,2,29,14,24,3,30,22,20,15,25,17,4,8,31,27,13,23,21,19,16,7,26,12,18,6,11,5,10,9]
def Y6:LI:=[0,1,2,2,3,3,3,3,4,4,4,4,4,4,4,4,5,5,5,5,5,5,5,5,5,5,5,5,5,5,5,5,6,6,6,6,6,6,6,6,6,6,6,6,6,6,6,6,6,6,6,6,6,6,6,6,6,6,6,6,6,6,6,6,7,7,7,7,7,7,7,7,7,7,7,7,7,7,7,7,7,7,7,7,7,7,7,7,7,7,7,7,7,7,7,7,7,7,7,7,7,7,7,7,7,7,7,7,7,7,7,7,7,7,7,7,7,7,7,7,7,7,7,7,7,7,7,7,8,8,8,8,8,8,8,8,8,8,8,8,8,8,8,8,8,8,8,8,8,8,8,8,8,8,8,8,8,8,8,8,8,8,8,8,8,8,8,8,8,8,8,8,8,8,8,8,8,8,8,8,8,8,8,8,8,8,8,8,8,8,8,8,8,8,8,8,8,8,8,8,8,8,8,8,8,8,8,8,8,8,8,8,8,8,8,8,8,8,8,8,8,8,8,8,8,8,8,8,8,8,8,8,8,8,8,8,8,8,8,8,8,8,8,8,8,8,8,8,8,8,8,8,8,8,8,8]
def CI (m:Nat) (a:Int) (b:Int):Option i7:=if(wJ b)≠0 then some (wI (Int.tmod (wJ a) (wJ b)),V2)else none
variable (m:Nat)
def D6 (a:LI) (b:Int):Option i7:=by apply(?_:ut (let e:=wJ ((wJ (wI (b+1)))*11400714819323198485);let x(y:Int):=wJ ((Zy .u64 (Zy .u64 e y) (aJ .u64 (Zy .u64 e y) 31))*13787848793156543929);let z:=wJ ((Zy .u64 e (aJ .u64 e 31))*13787848793156543929);bif decide ((a.length:Int)>0)then(CI m b (a.length:Int)).bind λB=>am a B.1 0 λA=>some (Zy .u64 (x A) (aJ .u64 (x A) 29),V2)else some (Zy .u64 z (aJ .u64 z 29),V2)));dsimp only[am];exact λg _=>g
def wz (m:Nat) (a:Int):Option o6:=some ((qm .u64 (aJ .u64 a 52) 2047) !=2047,ul)
def om (m:Nat):Nat->LI->Int->LI->Int->Option q9
 |0,_,_,_,_=>none
 |n+1,a,b,c,d=>by apply(?_:ut (bif decide (d<b)then em a d<|gc c [a.getD d.toNat 0] λe=>om m n a b e (wI (d+1))else some (.inl (c,()))));dsimp only[em,gc];exact λg _=>g
def lF (m:Nat):Nat->LI->Int->Option NK
 |0,_,_=>none
 |n+1,a,b=>by apply(?_:ut (bif decide (b>0)then am a (wI (b-1)) 0 λe=>bif e==0 then lF m n a (wI (b-1))else some (.inl (a,b,()))else some (.inl (a,b,()))));dsimp only[am];exact λg _=>g
def gS (a:LI):Option UQ:=(lF m m a (a.length:Int)).bind λ|.inl g=>((om m m g.1 g.2.1 [] 0).bind λ|.inl x=>some (x.1,ul)|.inr e=>e.elim)|.inr e=>e.elim
def gm (a:Bool) (b:LI):Option yc:=(gS m b).bind λe=>bif a then some ((decide ((e.1.length:Int)>0),e.1,()),V2)else some ((false,e.1,()),V2)
def ij (a:Int):Option GR:=bif decide (a<0)then(gm m (decide (a<0)) [wK (wJ ((wJ (wI (0-(wI (a+1)))))+1)),wK (aJ .u64 (wJ ((wJ (wI (0-(wI (a+1)))))+1)) 32)]).bind λe=>some ((e.1.1,e.1.2.1,()),ul)else(gm m (decide (a<0)) [wK (wJ a),wK (aJ .u64 (wJ a) 32)]).bind λg=>some ((g.1.1,g.1.2.1,()),ul)
def oR (a:Bool) (b:LI):Option GR:=(gm m a b).bind λe=>some ((e.1.1,e.1.2.1,()),ul)
def zR (m:Nat):Option UP:=some ((true,false,[],0,()),())
def AQ (m:Nat) (a:Int):Option jz:=by apply(?_:ut (bif a==0 then some (32,ul)else if(0:Int)<=27 then am N4 (aJ .u32 (wK ((qm .u32 a (wK (0-a)))*125613361)) 27) 0 λe=>some (wI e,ul)else none));dsimp only[am];exact λg _=>g
def lG:Nat->LI->Int->Option rf
 |0,_,_=>none
 |n+1,a,b=>by apply(?_:ut (let e:=a.getD (0+b.toNat) 0;bif decide (b<(a.length:Int))then em a b<|bif e !=0 then em a b<|(AQ m e).bind λx=>some (.inl (wI ((wI (32*b))+x.1),()))else lG n a (wI (b+1))else some (.inr (.inl ()))));dsimp only[em];exact λg _=>g
def fF (a:Bool) (b:LI):Option jz:=(gS m b).bind λg=>(lG m m g.1 0).bind λ|.inl x=>some (x.1,ul)|.inr (.inl y)=>some (0,ul)|.inr (.inr e)=>e.elim
def Do (a:Bool) (b:LI):Option GR:=(gm m false b).bind λe=>some ((e.1.1,e.1.2.1,()),ul)
def oh (m:Nat):Nat->LI->Int->LI->Int->Int->Option NK
 |0,_,_,_,_,_=>none
 |n+1,a,b,c,d,f=>by apply(?_:ut (let e:=Int.tmod b 32;bif decide (f<(a.length:Int))then am a f 0 λx=>if 0<=e then gc c [wK (bf .u64 d (bE .u64 (wJ x) e))] λy=>oh m n a b y (aJ .u64 (bf .u64 d (bE .u64 (wJ x) e)) 32) (wI (f+1))else none else some (.inl (c,d,()))));dsimp only[am,gc];exact λg _=>g
def qB (a:LI) (b:Int):Option xl:=by apply(?_:ut (lc (wI (Int.tdiv b 32))<|(oh m m a b (List.replicate (wI (Int.tdiv b 32)).toNat (0:Int)) 0 0).bind λ|.inl y=>gc y.1 [wK y.2.1] λx=>some (x,V2)|.inr e=>e.elim));dsimp only[lc,gc];exact λg _=>g
def eT (m:Nat):Nat->LI->Int->Bool->LI->Int->Int->Option (oH⊕Empty)
 |0,_,_,_,_,_,_=>none
 |n+1,a,b,c,d,f,h=>by apply(?_:ut (let y(B:Int)(C:Int):=if 0<=f then gc d [wK (aJ .u64 (bf .u64 (wJ B) (bE .u64 (wJ C) 32)) f)] λD=>eT m n a b c D f (wI (h+1))else none;let z(E:Int):=if 0<=f then gc d [wK (aJ .u64 (wJ E) f)] λF=>eT m n a b c F f (wI (h+1))else none;let A:=wK ((bE .u32 1 f)-1);bif decide (h<(a.length:Int))then am a h 0 λe=>bif decide ((wI (h+1))<(a.length:Int))then am a (wI (h+1)) 0 λx=>bif h==(wI (Int.tdiv b 32))then em a h<|if 0<=f then bif(qm .u32 e A) !=0 then if 0<=f then gc d [wK (aJ .u64 (bf .u64 (wJ e) (bE .u64 (wJ x) 32)) f)] λG=>eT m n a b true G f (wI (h+1))else none else y e x else none else y e x else bif h==(wI (Int.tdiv b 32))then em a h<|if 0<=f then bif(qm .u32 e A) !=0 then if 0<=f then gc d [wK (aJ .u64 (wJ e) f)] λH=>eT m n a b true H f (wI (h+1))else none else z e else none else z e else some (.inl (c,d,()))));dsimp only[am,em,gc];exact λg _=>g
def lD (m:Nat):Nat->LI->Int->Bool->Int->Option ((LI×Int×Bool×Unit)⊕Empty)
 |0,_,_,_,_=>none
 |n+1,a,b,c,d=>bif decide (d<(wI (Int.tdiv b 32)))then bif decide (d<(a.length:Int))then bif c then lD m n a b true (wI (d+1))else if 0<=d/\d<(a.length:Int)then lD m n a b ((a.getD d.toNat 0) !=0) (wI (d+1))else none else some (.inl (a,b,c,()))else some (.inl (a,b,c,()))
def te (a:LI) (b:Int):Option W4:=(lD m m a b false 0).bind λ|.inl g=>((eT m m g.1 g.2.1 g.2.2.1 [] (Int.tmod g.2.1 32) (wI (Int.tdiv g.2.1 32))).bind λ|.inl x=>some ((x.2.1,x.1,()),V2)|.inr e=>e.elim)|.inr e=>e.elim
def BC (a:Bool) (b:LI):Option GR:=(gm m (!a) b).bind λe=>some ((e.1.1,e.1.2.1,()),ul)
def fN (m:Nat):Nat->LI->LI->LI->Int->Int->Option NK
 |0,_,_,_,_,_=>none
 |n+1,a,b,c,d,f=>by apply(?_:ut (let x(y:Int):=gc c [wK (wJ (d+(wJ y)))] λA=>fN m n a b A (aJ .u64 (wJ (d+(wJ y))) 32) (wI (f+1));bif decide (f<(if(b.length:Int)>(a.length:Int)then(b.length:Int)else(a.length:Int)))then bif decide (f<(a.length:Int))then am a f 0 λe=>bif decide (f<(b.length:Int))then am b f 0 λz=>gc c [wK (wJ ((wJ (d+(wJ e)))+(wJ z)))] λB=>fN m n a b B (aJ .u64 (wJ ((wJ (d+(wJ e)))+(wJ z))) 32) (wI (f+1))else x e else bif decide (f<(b.length:Int))then am b f 0 λC=>x C else gc c [wK d] λD=>fN m n a b D (aJ .u64 d 32) (wI (f+1))else some (.inl (c,d,()))));dsimp only[am,gc];exact λg _=>g
def F4 (a:LI) (b:LI):Option xl:=(fN m m a b [] 0 0).bind λ|.inl g=>if g.1.length+[wK g.2.1].length<=1073741824 then some (g.1++[wK g.2.1],V2)else none|.inr e=>e.elim
def lE (m:Nat):Nat->LI->LI->Int->Option rf
 |0,_,_,_=>none
 |n+1,a,b,c=>by apply(?_:ut (bif decide (c>=0)then am a c 0 λe=>am b c 0 λx=>bif e !=x then em a c<|em b c<|bif decide (e<x)then some (.inl ((-1),()))else some (.inl (1,()))else lE m n a b (wI (c-1))else some (.inr (.inl ()))));dsimp only[am,em];exact λg _=>g
def BB (a:LI) (b:LI):Option i7:=bif(a.length:Int) !=(b.length:Int)then bif decide ((a.length:Int)<(b.length:Int))then some ((-1),V2)else some (1,V2)else(lE m m a b (wI ((a.length:Int)-1))).bind λ|.inl g=>some (g.1,V2)|.inr (.inl x)=>some (0,V2)|.inr (.inr e)=>e.elim
def jt (m:Nat):Nat->LI->LI->LI->Int->Int->Option q9
 |0,_,_,_,_,_=>none
 |n+1,a,b,c,d,f=>by apply(?_:ut (bif decide (f<(a.length:Int))then am a f 0 λe=>bif decide (f<(b.length:Int))then am b f 0 λx=>gc c [wK (wJ ((wJ ((wJ e)-d))-(wJ x)))] λy=>jt m n a b y (aJ .u64 (wJ ((wJ ((wJ e)-d))-(wJ x))) 63) (wI (f+1))else gc c [wK (wJ ((wJ e)-d))] λz=>jt m n a b z (aJ .u64 (wJ ((wJ e)-d)) 63) (wI (f+1))else some (.inl (c,()))));dsimp only[am,gc];exact λg _=>g
def BA (a:LI) (b:LI):Option xl:=(jt m m a b [] 0 0).bind λ|.inl g=>some (g.1,V2)|.inr e=>e.elim
def gz (a:Bool) (b:LI) (c:Bool) (d:LI):Option yc:=by apply(?_:ut (let e(x:Bool)(y:LI):=(gm m x y).bind λB=>some ((B.1.1,B.1.2.1,()),V2);(gS m b).bind λz=>(gS m d).bind λA=>bif a==c then(F4 m z.1 A.1).bind λC=>e a C.1 else(BB m z.1 A.1).bind λD=>bif decide (D.1>=0)then(BA m z.1 A.1).bind λE=>e a E.1 else(BA m A.1 z.1).bind λF=>e c F.1));dsimp only;exact λg _=>g
def xR (a:Bool) (b:LI) (c:Bool) (d:LI):Option yc:=(BC m c d).bind λe=>(gz m a b e.1.1 e.1.2.1).bind λg=>some ((g.1.1,g.1.2.1,()),V2)
def wm (a:Bool) (b:LI) (c:Int):Option yc:=by apply(?_:ut (let e(x:oH):=some ((x.1,x.2.1,()),V2);(oR m a b).bind λy=>bif decide (c>=0)then(qB m y.1.2.1 c).bind λC=>(gm m y.1.1 C.1).bind λD=>e D.1 else(te m y.1.2.1 (wI (0-c))).bind λA=>(gm m y.1.1 A.1.1).bind λz=>bif y.1.1 then bif A.1.2.1 then(ij m 1).bind λB=>(xR m z.1.1 z.1.2.1 B.1.1 B.1.2.1).bind λE=>e E.1 else e z.1 else e z.1));dsimp only;exact λg _=>g
def qC:Nat->Int->Bool->LI->Bool->LI->Option tF1
 |0,_,_,_,_,_=>none
 |n+1,a,b,c,d,f=>bif decide (a>1048576)then(wm m b c (-1048576)).bind λe=>qC n (wI (a-1048576)) e.1.1 e.1.2.1 d f else some (.inl (a,(b,c,()),(d,f,()),()))
def tg (a:Bool) (b:LI) (c:Int):Option yc:=(qC m m c a b false []).bind λ|.inl g=>(wm m g.2.1.1 g.2.1.2.1 (wI (0-g.1))).bind λx=>some ((x.1.1,x.1.2.1,()),V2)|.inr e=>e.elim
def xK (m:Nat) (a:Int):Option jz:=by apply(?_:ut (let e:=aJ .u32 a 16;bif decide (a>=65536)then bif decide (e>=256)then am Y6 (ir (aJ .u32 e 8)) 0 λx=>some (wI (24+(wI x)),ul)else am Y6 (ir e) 0 λy=>some (wI (16+(wI y)),ul)else bif decide (a>=256)then am Y6 (ir (aJ .u32 a 8)) 0 λz=>some (wI (8+(wI z)),ul)else am Y6 (ir a) 0 λA=>some (wI (0+(wI A)),ul)));dsimp only[am];exact λg _=>g
def vb (a:Bool) (b:LI):Option jz:=by apply(?_:ut ((gS m b).bind λe=>bif(e.1.length:Int)==0 then some (0,ul)else em e.1 (wI ((e.1.length:Int)-1))<|(xK m (e.1.getD (0+(wI ((e.1.length:Int)-1)).toNat) 0)).bind λx=>some (wI ((wI (32*(wI ((e.1.length:Int)-1))))+x.1),ul)));dsimp only[em];exact λg _=>g
def wv (a:Bool) (b:LI) (c:Int):Option yy:=by apply(?_:ut (let e:=(zR m).bind λB=>some ((rg B.1),V2);(oR m a b).bind λx=>bif(x.1.2.1.length:Int)==0 then some ((false,false,[],0,()),V2)else bif decide (c>65536)then e else(fF m x.1.1 x.1.2.1).bind λy=>(Do m x.1.1 x.1.2.1).bind λA=>(tg m A.1.1 A.1.2.1 y.1).bind λz=>bif decide ((wI (c+y.1))<(-65536))then e else(vb m z.1.1 z.1.2.1).bind λC=>bif decide ((wI ((wI (c+y.1))+C.1))>65536)then e else some ((false,a,z.1.2.1,wI (c+y.1),()),V2)));dsimp only[rg];exact λg _=>g
def MZ (a:Int):Option xk:=(ij m a).bind λg=>(wv m g.1.1 g.1.2.1 0).bind λe=>some ((e.1.1,e.1.2.1,e.1.2.2.1,e.1.2.2.2.1,()),ul)
def pZ (a:Bool) (b:Bool) (c:LI) (d:Int):Option xk:=by apply(?_:ut (bif a then(zR m).bind λe=>some ((rg e.1),ul)else(wv m b c d).bind λx=>some ((rg x.1),ul)));dsimp only[rg];exact λg _=>g
def iy (a:Bool) (b:LI):Option jz:=(oR m a b).bind λe=>bif(e.1.2.1.length:Int)==0 then some (0,ul)else bif e.1.1 then some ((-1),ul)else some (1,ul)
def l7 (m:Nat) (a:Bool) (b:Int):Option i7:=bif a then some (bf .u64 b 9223372036854775808,V2)else some (b,V2)
def oP (a:Bool) (b:Int):Option i7:=by apply(?_:ut (let e:=(l7 m a 9218868437227405311).bind λz=>some (z.1,V2);let x:=(l7 m a 9218868437227405312).bind λA=>some (A.1,V2);let y:=bif b==2 then bif a then e else x else x;bif b==3 then e else bif b==1 then bif !a then e else y else y));dsimp only;exact λg _=>g
def uI (a:Bool) (b:LI) (c:Int):Option uu:=(gS m b).bind λe=>(te m e.1 c).bind λg=>some (g.1.2.1,V2)
def dF (m:Nat) (a:Bool) (b:Int) (c:Bool) (d:Int):Option (Bool×Unit×Unit×Unit×Unit×Unit):=by apply(?_:ut (let e:=vm;bif d==1 then some (a,e)else bif d==2 then some (!a,e)else bif d==3 then some (false,e)else bif decide (b>0)then some (true,e)else bif b==0 then some (c,e)else some (false,e)));dsimp only;exact λg _=>g
def AO (a:Bool) (b:Bool) (c:LI) (d:Int) (f:Bool) (h:Int):Option (oH×Unit×Unit×Unit×Unit×Unit×Unit):=by apply(?_:ut (let C(F:oH):=((F.1,F.2.1,()),v4);let x(K:Bool)(D:oH):=bif K then(ij m 1).bind λY=>(gz m D.1 D.2.1 Y.1.1 Y.1.2.1).bind λL=>some (C L.1)else some (C D);let y(G:oH):=fF m G.1 G.2.1;let z(H:oH):=iy m H.1 H.2.1;let E(A:oH):=(z A).bind λM=>bif M.1 !=0 then(y A).bind λN=>(dF m a (-1) (N.1==0) h).bind λP=>x P.1 A else(dF m a (-1) false h).bind λQ=>x Q.1 A;let I(B:oH):=(z B).bind λi=>bif i.1 !=0 then(y B).bind λj=>(dF m a 1 (j.1==0) h).bind λk=>x k.1 B else(dF m a 1 false h).bind λR=>x R.1 B;let J(e:oH):=bif decide (d>0)then(tg m b c (wI (d-1))).bind λZ=>(y Z.1).bind λl=>bif l.1==0 then(z Z.1).bind λo=>bif o.1 !=0 then bif f then I e else(uI m b c (wI (d-1))).bind λS=>bif S.1 then I e else(z e).bind λT=>bif T.1 !=0 then(y e).bind λU=>(dF m a 0 (U.1==0) h).bind λV=>x V.1 e else(dF m a 0 false h).bind λW=>x W.1 e else E e else E e else E e;(tg m b c d).bind λX=>(uI m b c d).bind λp=>bif !p.1 then bif !f then some (C X.1)else J X.1 else J X.1));dsimp only;exact λg _=>g
def lg (m:Nat):Nat->Bool->LI->Int->Int->Option tZ1
 |0,_,_,_,_=>none
 |n+1,a,b,c,d=>bif decide (d<(b.length:Int))then if 0<=d/\d<(b.length:Int)then if 0<=(wI (32*d))then lg m n a b (bf .u64 c (bE .u64 (wJ (b.getD d.toNat 0)) (wI (32*d)))) (wI (d+1))else none else none else some (.inl ((a,b,()),c,()))
def sV (a:Bool) (b:LI):Option W0:=(oR m a b).bind λx=>bif decide ((x.1.2.1.length:Int)>2)then some ((0,false,()),ul)else(lg m m x.1.1 x.1.2.1 0 0).bind λ|.inl g=>bif g.1.1 then bif decide (g.2.1>9223372036854775808)then some ((0,false,()),ul)else some ((wI ((wI (0-(wI (wJ (g.2.1-1)))))-1),true,()),ul)else bif decide (g.2.1>9223372036854775807)then some ((0,false,()),ul)else some ((wI g.2.1,true,()),ul)|.inr e=>e.elim
def Bw (a:Bool) (b:Bool) (c:LI) (d:Int) (f:Bool) (h:Int):Option (Int×Unit×Unit×Unit×Unit×Unit×Unit):=by apply(?_:ut (let x:=v4;let y(G:Int):=wI ((wI ((wI (d+G))-1))-52);let C(z:Int)(D:Int):=bif decide (z>=4503599627370496)then(l7 m a (bf .u64 (bE .u64 (wJ (wI ((if(-1074)>(wI ((wI ((wI (d+D))-1))-52))then(-1074)else(y D))+1075))) 52) (wJ (wI (z-4503599627370496))))).bind λJ=>some (J.1,x)else(l7 m a (wJ z)).bind λK=>some (K.1,x);let A:=(oP m a h).bind λL=>some (L.1,x);let E(F:oH)(e:Int):=(sV m F.1 F.2.1).bind λH=>bif H.1.1==9007199254740992 then bif decide ((wI ((wI ((if(-1074)>(wI ((wI ((wI (d+e))-1))-52))then(-1074)else(wI ((wI ((wI (d+e))-1))-52)))+1))+53))>1024)then A else(l7 m a (bf .u64 (bE .u64 (wJ (wI ((wI ((if(-1074)>(wI ((wI ((wI (d+e))-1))-52))then(-1074)else(y e))+1))+1075))) 52) 0)).bind λM=>some (M.1,x)else bif decide (H.1.1>=4503599627370496)then bif decide ((wI ((if(-1074)>(wI ((wI ((wI (d+e))-1))-52))then(-1074)else(wI ((wI ((wI (d+e))-1))-52)))+53))>1024)then A else C H.1.1 e else C H.1.1 e;(vb m b c).bind λB=>bif decide ((wI ((wI (d+B.1))-1))>=1024)then A else bif decide ((if(-1074)>(wI ((wI ((wI (d+B.1))-1))-52))then(-1074)else(wI ((wI ((wI (d+B.1))-1))-52)))>=d)then(AO m a b c (wI ((if(-1074)>(wI ((wI ((wI (d+B.1))-1))-52))then(-1074)else(y B.1))-d)) f h).bind λN=>E N.1 B.1 else(wm m b c (wI (d-(if(-1074)>(wI ((wI ((wI (d+B.1))-1))-52))then(-1074)else(y B.1))))).bind λI=>E I.1 B.1));dsimp only[-dreduceIte];exact λg _=>g
def HF (a:Bool) (b:Bool) (c:LI) (d:Int) (f:Int):Option i7:=(pZ m a b c d).bind λe=>bif e.1.1 then some (9221120237041090560,V2)else(iy m e.1.2.1 e.1.2.2.1).bind λx=>bif x.1==0 then some (0,V2)else(Do m e.1.2.1 e.1.2.2.1).bind λg=>(Bw m e.1.2.1 g.1.1 g.1.2.1 e.1.2.2.2.1 false f).bind λy=>some (y.1,V2)
def WS (a:Int) (b:Int):Option i7:=(MZ m a).bind λe=>(HF m e.1.1 e.1.2.1 e.1.2.2.1 e.1.2.2.2.1 b).bind λg=>some (g.1,V2)
def tj (a:Int):Option jz:=(WS m (wI ((wI (Int.tmod a 19))-9)) 0).bind λe=>some (e.1,ul)
def Rv (a:Int) (b:Int):Option i7:=(CI m b 4).bind λe=>bif e.1==1 then some (bf .u64 (qm .u64 a 9227875636482146303) (bE .u64 (wJ (1019+(qm .u64 (aJ .u64 a 52) 7))) 52),V2)else bif e.1==2 then some (bf .u64 (qm .u64 a 9225623836668461056) (bE .u64 (wJ (983+(Int.tmod (aJ .u64 a 8) 81))) 52),V2)else bif e.1==3 then(wz m a).bind λg=>bif !g.1 then some (0,V2)else some (a,V2)else(tj m a).bind λx=>some (x.1,V2)
def pG:Nat->LI->Int->Int->Int->Int->Int->LI->LI->LI->Int->Int->LI->LI->LI->Int->Int->Option ((LI×Int×Int×Int×mq×mq×Int×Unit)⊕Empty)
 |0,_,_,_,_,_,_,_,_,_,_,_,_,_,_,_,_=>none
 |n+1,a,b,c,d,f,h,i,j,k,l,o,p,q,r,s,t=>by apply(?_:ut (bif decide (t<b)then(D6 m a (wI ((wI (100+(wI (s*b))))+t))).bind λy=>bif decide ((Int.tmod (aJ .u64 y.1 40) 3)>0)then gc q [t] λe=>(Rv m y.1 d).bind λz=>gc r [z.1] λx=>pG n a b c d f h i j k l o p e x s (wI (t+1))else pG n a b c d f h i j k l o p q r s (wI (t+1))else some (.inl (a,b,c,d,(f,h,i,j,k,()),(l,o,p,q,r,()),s,()))));dsimp only[gc];exact λg _=>g
def sF:Nat->LI->Int->Int->Int->Int->Int->LI->LI->LI->Int->Int->LI->LI->LI->Int->Option tX
 |0,_,_,_,_,_,_,_,_,_,_,_,_,_,_,_=>none
 |n+1,a,b,c,d,f,h,i,j,k,l,o,p,q,r,s=>by apply(?_:ut (bif decide (s<c)then(pG m m a b c d f h i j k l o p q r s 0).bind λ|.inl x=>gc x.2.2.2.2.2.1.2.2.1 [(x.2.2.2.2.2.1.2.2.2.1.length:Int)] λy=>pu (pp (sF n) x) x.2.2.2.2.1 x.2.2.2.2.2.1.1 x.2.2.2.2.2.1.2.1 y x.2.2.2.2.2.1.2.2.2.1 x.2.2.2.2.2.1.2.2.2.2.1 (wI (x.2.2.2.2.2.2.1+1))|.inr e=>e.elim else some (.inl ((f,h,i,j,k,()),(l,o,p,q,r,()),()))));dsimp only[gc,pp,pu];exact λg _=>g
def RH (a:LI) (b:Int) (c:Int) (d:Int):Option (mq×Unit×Unit×Unit×Unit×Unit):=by apply(?_:ut ((sF m m a b c d 0 0 [] [] [] b c ([0]:LI) [] [] 0).bind λ|.inl x=>some ((ro x.2.1),vm)|.inr e=>e.elim));dsimp only[ro];exact λg _=>g
def nB:Nat->LI->Int->Option qW
 |0,_,_=>none
 |n+1,a,b=>bif decide (b<(a.length:Int))then if 0<=b/\b<(a.length:Int)then(wz m (a.getD b.toNat 0)).bind λe=>bif !e.1 then some (.inl (false,()))else nB n a (wI (b+1))else none else some (.inr (.inl ()))
def Ew (a:LI):Option o6:=(nB m m a 0).bind λ|.inl g=>some (g.1,ul)|.inr (.inl x)=>some (true,ul)|.inr (.inr e)=>e.elim
def lC (m:Nat):Nat->Int->Int->LI->LI->LI->Int->Int->Option ((Int×Unit)⊕tW1⊕Empty)
 |0,_,_,_,_,_,_,_=>none
 |n+1,a,b,c,d,f,h,i=>by apply(?_:ut (am c (wI (h+1)) 0 λx=>bif decide (i<x)then am d i 0 λe=>bif decide (e<0)then some (.inl (1,()))else em d i<|bif decide (e>=a)then some (.inl (1,()))else am c h 0 λy=>bif decide (i>y)then em d i<|am d (wI (i-1)) 0 λz=>bif decide (e<=z)then some (.inl (1,()))else lC m n a b c d f h (wI (i+1))else lC m n a b c d f h (wI (i+1))else some (.inr (.inl ((a,b,c,d,f,()),h,())))));dsimp only[am,em];exact λg _=>g
def ob:Nat->Int->Int->LI->LI->LI->Int->Option tE1
 |0,_,_,_,_,_,_=>none
 |n+1,a,b,c,d,f,h=>by apply(?_:ut (bif decide (h<b)then am c h 0 λx=>(lC m m a b c d f h x).bind λ|.inl z=>some (.inl (z.1,()))|.inr (.inl y)=>pu (ob n) y.1 (wI (y.2.1+1))|.inr (.inr e)=>e.elim else some (.inr (.inl ((a,b,c,d,f,()),())))));dsimp only[am,pu];exact λg _=>g
def oc (m:Nat):Nat->Int->Int->LI->LI->LI->Int->Option tE1
 |0,_,_,_,_,_,_=>none
 |n+1,a,b,c,d,f,h=>by apply(?_:ut (bif decide (h<b)then am c h 0 λe=>am c (wI (h+1)) 0 λx=>bif decide (e>x)then some (.inl (1,()))else oc m n a b c d f (wI (h+1))else some (.inr (.inl ((a,b,c,d,f,()),())))));dsimp only[am];exact λg _=>g
def s7 (a:Int) (b:Int) (c:LI) (d:LI) (f:LI):Option jz:=by apply(?_:ut (let x:=some (6,ul);let y:=some (1,ul);bif decide (a<0)then x else bif decide (a>200)then x else bif decide (b<0)then x else bif decide (b>200)then x else bif decide ((d.length:Int)>10000)then x else bif(f.length:Int) !=(d.length:Int)then y else bif(c.length:Int) !=(wI (b+1))then y else if(0:Int)<=0/\0<(c.length:Int)then bif(c.getD 0 0) !=0 then y else am c b 0 λz=>bif z !=(d.length:Int)then y else(oc m m a b c d f 0).bind λ|.inl A=>some (A.1,ul)|.inr (.inl B)=>((pu (ob m m) B.1 0).bind λ|.inl C=>some (C.1,ul)|.inr (.inl D)=>(Ew m D.1.2.2.2.2.1).bind λE=>bif !E.1 then some (4,ul)else some (0,ul)|.inr (.inr e)=>e.elim)|.inr (.inr e)=>e.elim else none));dsimp only[am,pu];exact λg _=>g
def pD (m:Nat):Nat->Int->Int->Int->Int->LI->LI->LI->Int->Option rf
 |0,_,_,_,_,_,_,_,_=>none
 |n+1,a,b,c,d,f,h,i,j=>by apply(?_:ut (am f (wI (b+1)) 0 λe=>bif decide (j<e)then am h j 0 λx=>bif x==a then am i j 0 λy=>some (.inl (y,()))else pD m n a b c d f h i (wI (j+1))else some (.inr (.inl ()))));dsimp only[am];exact λg _=>g
def Mc (a:Int) (b:Int) (c:LI) (d:LI) (f:LI) (h:Int) (i:Int):Option NI:=by apply(?_:ut (let x:=some (0,u4);(s7 m a b c d f).bind λz=>bif z.1 !=0 then x else bif decide (i<0)then x else bif decide (i>=b)then x else am c i 0 λy=>(pD m m h i a b c d f y).bind λ|.inl A=>some (A.1,u4)|.inr (.inl B)=>x|.inr (.inr e)=>e.elim));dsimp only[am];exact λg _=>g
def Rt (m:Nat) (a:Int):Option o6:=some ((qm .u64 a 9223372036854775808) !=0,ul)
def gk (a:Int):Option xk:=by apply(?_:ut (let e:=qm .u64 a 4503599627370495;let x:=wI (qm .u64 (aJ .u64 a 52) 2047);let y:=bf .u64 e 4503599627370496;(wz m a).bind λz=>bif !z.1 then(zR m).bind λA=>some ((rg A.1),ul)else bif decide (x>0)then(Rt m a).bind λB=>(wv m B.1 [wK y,wK (aJ .u64 y 32)] (wI (x-1075))).bind λC=>some ((rg C.1),ul)else(Rt m a).bind λD=>(wv m D.1 [wK e,wK (aJ .u64 e 32)] (-1074)).bind λE=>some ((rg E.1),ul)));dsimp only[rg];exact λg _=>g
def A1 (a:Bool) (b:Bool) (c:LI) (d:Int):Option xk:=by apply(?_:ut ((pZ m a b c d).bind λe=>bif e.1.1 then some ((rg e.1),ul)else(Do m e.1.2.1 e.1.2.2.1).bind λx=>(wv m x.1.1 x.1.2.1 e.1.2.2.2.1).bind λy=>some ((rg y.1),ul)));dsimp only[rg];exact λg _=>g
def l9:Nat->c9->Bool->Bool->LI->Int->Bool->LI->Int->Int->Option (UP⊕(mu×oH×Int×Unit)⊕Empty)
 |0,_,_,_,_,_,_,_,_,_=>none
 |n+1,a,b,c,d,f,h,i,j,k=>by apply(?_:ut (bif decide (k<(a.length:Int))then am a k qz λe=>(pZ m e.1 e.2.1.1 e.2.1.2 e.2.2).bind λx=>bif x.1.1 then(zR m).bind λC=>some (.inl ((rg C.1),()))else(iy m x.1.2.1 x.1.2.2.1).bind λD=>bif D.1==0 then l9 n a b c d f h i j (wI (k+1))else(iy m h i).bind λE=>bif E.1==0 then pm (l9 n a b c d f) x.1.2 (wI (k+1))else bif decide (x.1.2.2.2.1>=j)then(wm m x.1.2.1 x.1.2.2.1 (wI (x.1.2.2.2.1-j))).bind λy=>(gz m h i y.1.1 y.1.2.1).bind λz=>l9 n a b c d f z.1.1 z.1.2.1 j (wI (k+1))else(wm m h i (wI (j-x.1.2.2.2.1))).bind λA=>(gz m A.1.1 A.1.2.1 x.1.2.1 x.1.2.2.1).bind λB=>l9 n a b c d f B.1.1 B.1.2.1 x.1.2.2.2.1 (wI (k+1))else some (.inr (.inl ((b,c,d,f,()),(h,i,()),j,())))));dsimp only[am,rg,pm];exact λg _=>g
def Ov (a:List bA):Option xk:=by apply(?_:ut ((l9 m m a false false [] 0 false [] 0 0).bind λ|.inl y=>some ((rg y.1),ul)|.inr (.inl x)=>(wv m x.2.1.1 x.2.1.2.1 x.2.2.1).bind λz=>some ((rg z.1),ul)|.inr (.inr e)=>e.elim));dsimp only[rg];exact λg _=>g
def so (m:Nat):Nat->Int->Int->Int->Int->LI->LI->LI->Int->Option qW
 |0,_,_,_,_,_,_,_,_=>none
 |n+1,a,b,c,d,f,h,i,j=>by apply(?_:ut (am f (wI (b+1)) 0 λe=>bif decide (j<e)then am h j 0 λx=>bif x==a then some (.inl (true,()))else so m n a b c d f h i (wI (j+1))else some (.inr (.inl ()))));dsimp only[am];exact λg _=>g
def WD (a:Int) (b:Int) (c:LI) (d:LI) (f:LI) (h:Int) (i:Int):Option WZ:=by apply(?_:ut (let x:=some (false,u4);bif decide (h<0)then x else bif decide (h>=a)then x else bif decide (i<0)then x else bif decide (i>=b)then x else am c i 0 λy=>(so m m h i a b c d f y).bind λ|.inl z=>some (z.1,u4)|.inr (.inl A)=>x|.inr (.inr e)=>e.elim));dsimp only[am];exact λg _=>g
def pF:Nat->Int->Int->Int->LI->LI->LI->Int->Int->LI->LI->LI->Int->Int->LI->LI->LI->Int->Int->c9->Int->Option ((Int×mq×mq×mq×Int×Int×c9×Unit)⊕Empty)
 |0,_,_,_,_,_,_,_,_,_,_,_,_,_,_,_,_,_,_,_,_=>none
 |n+1,a,b,c,d,f,h,i,j,k,l,o,p,q,r,s,t,u,v,w,e=>by apply(?_:ut (bif decide (e<a)then bif e !=v then(Mc m i j k l o (if e>v then e else v) (if e<v then e else v)).bind λz=>(gk m z.1).bind λA=>(pp (A1 m) A.1).bind λy=>gc w [(y.1.1,((y.1.2.1,y.1.2.2.1),y.1.2.2.2.1))] λx=>pF n a b c d f h i j k l o p q r s t u v x (wI (e+1))else pF n a b c d f h i j k l o p q r s t u v w (wI (e+1))else some (.inl (a,(b,c,d,f,h,()),(i,j,k,l,o,()),(p,q,r,s,t,()),u,v,w,()))));dsimp only[gc,pp];exact λg _=>g
def nc:Nat->Int->Int->Int->LI->LI->LI->Int->Int->LI->LI->LI->Int->Int->LI->LI->LI->Int->Int->Option ((Int×mq×mq×mq×Int×Unit)⊕Empty)
 |0,_,_,_,_,_,_,_,_,_,_,_,_,_,_,_,_,_,_=>none
 |n+1,a,b,c,d,f,h,i,j,k,l,o,p,q,r,s,t,u,v=>by apply(?_:ut (bif decide (v<a)then bif v==u then(MZ m 1).bind λC=>(pF m m a b c d f h i j k l o p q r s t u v ([(C.1.1,((C.1.2.1,C.1.2.2.1),C.1.2.2.2.1))]:List bA) 0).bind λ|.inl x=>gc x.2.2.2.1.2.2.2.1 [x.2.2.2.2.2.1] λy=>(Ov m x.2.2.2.2.2.2.1).bind λD=>(pp (HF m) D.1 2).bind λE=>gc x.2.2.2.1.2.2.2.2.1 [E.1] λz=>pm (pu (pu (nc n x.1) x.2.1) x.2.2.1) x.2.2.2.1 y z x.2.2.2.2.1 (wI (x.2.2.2.2.2.1+1))|.inr e=>e.elim else(WD m i j k l o v u).bind λF=>bif F.1 then gc s [v] λA=>(Mc m i j k l o v u).bind λG=>gc t [G.1] λB=>nc n a b c d f h i j k l o p q r A B u (wI (v+1))else nc n a b c d f h i j k l o p q r s t u (wI (v+1))else some (.inl (a,(b,c,d,f,h,()),(i,j,k,l,o,()),(p,q,r,s,t,()),u,()))));dsimp only[gc,pp,pu,pm];exact λg _=>g
def sE:Nat->Int->Int->Int->LI->LI->LI->Int->Int->LI->LI->LI->Int->Int->LI->LI->LI->Int->Option tX
 |0,_,_,_,_,_,_,_,_,_,_,_,_,_,_,_,_,_=>none
 |n+1,a,b,c,d,f,h,i,j,k,l,o,p,q,r,s,t,u=>by apply(?_:ut (bif decide (u<a)then(nc m m a b c d f h i j k l o p q r s t u 0).bind λ|.inl x=>gc x.2.2.2.1.2.2.1 [(x.2.2.2.1.2.2.2.1.length:Int)] λy=>pu (pu (sE n x.1) x.2.1) x.2.2.1 x.2.2.2.1.1 x.2.2.2.1.2.1 y x.2.2.2.1.2.2.2.1 x.2.2.2.1.2.2.2.2.1 (wI (x.2.2.2.2.1+1))|.inr e=>e.elim else some (.inl ((b,c,d,f,h,()),(p,q,r,s,t,()),()))));dsimp only[gc,pu];exact λg _=>g
def WO (a:LI) (b:Int) (c:Int):Option tK1:=by apply(?_:ut ((CI m c 3).bind λx=>(RH m a b b x.1).bind λy=>(pu (sE m m b 0 0 [] [] []) y.1 b b ([0]:LI) [] [] 0).bind λ|.inl z=>some ((ro z.2.1),u4)|.inr e=>e.elim));dsimp only[pu,ro];exact λg _=>g
def sM:Nat->LI->Int->LI->Int->Option q9
 |0,_,_,_,_=>none
 |n+1,a,b,c,d=>by apply(?_:ut (bif decide (d<b)then(D6 m a (wI (700+d))).bind λA=>(CI m (wI (aJ .u64 A.1 1)) (wI (d+1))).bind λe=>if(0:Int)<=0/\0<=e.1/\e.1<=(c.length:Int)then gc [] ((c.drop 0).take (e.1.toNat-0)) λx=>gc x [d] λy=>if 0<=e.1/\e.1<=(c.length:Int)/\(c.length:Int)<=(c.length:Int)then gc y ((c.drop (0+e.1.toNat)).take (c.length-e.1.toNat)) λz=>sM n a b z (wI (d+1))else none else none else some (.inl (c,()))));dsimp only[gc];exact λg _=>g
def Sw (a:LI) (b:Int):Option xl:=(sM m m a b [] 0).bind λ|.inl g=>some (g.1,V2)|.inr e=>e.elim
def oa (m:Nat):Nat->Int->Int->LI->LI->LI->re->Int->Int->Option ((mq×re×Int×Unit)⊕Empty)
 |0,_,_,_,_,_,_,_,_=>none
 |n+1,a,b,c,d,f,h,i,j=>by apply(?_:ut (am c (wI (i+1)) 0 λe=>bif decide (j<e)then am d j 0 λx=>em f j<|gc h [(x,(i,f.getD j.toNat 0))] λy=>oa m n a b c d f y i (wI (j+1))else some (.inl ((a,b,c,d,f,()),h,i,()))));dsimp only[am,em,gc];exact λg _=>g
def ls:Nat->Int->Int->LI->LI->LI->re->Int->Option (ts1⊕Empty)
 |0,_,_,_,_,_,_,_=>none
 |n+1,a,b,c,d,f,h,i=>by apply(?_:ut (bif decide (i<b)then am c i 0 λx=>(oa m m a b c d f h i x).bind λ|.inl y=>pu (ls n) y.1 y.2.1 (wI (y.2.2.1+1))|.inr e=>e.elim else some (.inl (h,()))));dsimp only[am,pu];exact λg _=>g
def Be (a:Int) (b:Int) (c:LI) (d:LI) (f:LI):Option (re×Unit×Unit):=(s7 m a b c d f).bind λg=>bif g.1 !=0 then some ([],ul)else(ls m m a b c d f [] 0).bind λ|.inl x=>some (x.1,ul)|.inr e=>e.elim
def jo (m:Nat):Nat->Int->Int->re->Int->Int->LI->LI->LI->Int->Int->LI->LI->LI->LI->Int->Int->Option ((Int×Int×re×mq×mq×LI×Int×Unit)⊕Empty)
 |0,_,_,_,_,_,_,_,_,_,_,_,_,_,_,_,_=>none
 |n+1,a,b,c,d,f,h,i,j,k,l,o,p,q,r,s,t=>by apply(?_:ut (let e:=r.getD (0+(wI ((wI (s*a))+t)).toNat) 0;bif decide (t<a)then em r (wI ((wI (s*a))+t))<|bif decide (e>0)then gc p [t] λx=>am c (wI (e-1)) (0,(0,0)) λy=>gc q [y.2.2] λz=>jo m n a b c d f h i j k l o x z r s (wI (t+1))else jo m n a b c d f h i j k l o p q r s (wI (t+1))else some (.inl (a,b,c,(d,f,h,i,j,()),(k,l,o,p,q,()),r,s,()))));dsimp only[em,gc,am];exact λg _=>g
def lr:Nat->Int->Int->re->Int->Int->LI->LI->LI->Int->Int->LI->LI->LI->LI->Int->Option tX
 |0,_,_,_,_,_,_,_,_,_,_,_,_,_,_,_=>none
 |n+1,a,b,c,d,f,h,i,j,k,l,o,p,q,r,s=>by apply(?_:ut (bif decide (s<b)then(jo m m a b c d f h i j k l o p q r s 0).bind λ|.inl x=>gc x.2.2.2.2.1.2.2.1 [(x.2.2.2.2.1.2.2.2.1.length:Int)] λy=>pu (pm (lr n) x) x.2.2.2.1 x.2.2.2.2.1.1 x.2.2.2.2.1.2.1 y x.2.2.2.2.1.2.2.2.1 x.2.2.2.2.1.2.2.2.2.1 x.2.2.2.2.2.1 (wI (x.2.2.2.2.2.2.1+1))|.inr e=>e.elim else some (.inl ((d,f,h,i,j,()),(k,l,o,p,q,()),()))));dsimp only[gc,pm,pu];exact λg _=>g
def n9 (m:Nat):Nat->Int->Int->re->Int->Int->LI->LI->LI->Int->Int->LI->LI->LI->LI->Int->Option ((Int×Int×re×mq×mq×LI×Unit)⊕Empty)
 |0,_,_,_,_,_,_,_,_,_,_,_,_,_,_,_=>none
 |n+1,a,b,c,d,f,h,i,j,k,l,o,p,q,r,s=>by apply(?_:ut (bif decide (s<(c.length:Int))then am c s (0,(0,0)) λe=>em c s<|em r (wI ((wI (e.2.1*a))+e.1))<|n9 m n a b c d f h i j k l o p q (r.set (0+(wI ((wI (e.2.1*a))+e.1)).toNat) (wI (s+1))) (wI (s+1))else some (.inl (a,b,c,(d,f,h,i,j,()),(k,l,o,p,q,()),r,()))));dsimp only[am,em];exact λg _=>g
def Fw (a:Int) (b:Int) (c:List vJ):Option tK1:=by apply(?_:ut (lc (wI (a*b))<|(n9 m m a b c 0 0 [] [] [] a b ([0]:LI) [] [] (List.replicate (wI (a*b)).toNat (0:Int)) 0).bind λ|.inl x=>((pu (pu (pm (lr m m) x) x.2.2.2.1) x.2.2.2.2.1 x.2.2.2.2.2.1 0).bind λ|.inl y=>some ((ro y.2.1),u4)|.inr e=>e.elim)|.inr e=>e.elim));dsimp only[lc,pm,pu,ro];exact λg _=>g
def lJ (m:Nat):Nat->Int->Int->LI->LI->LI->Int->Int->LI->LI->LI->re->re->Int->Option ((mq×mq×re×Unit)⊕Empty)
 |0,_,_,_,_,_,_,_,_,_,_,_,_,_=>none
 |n+1,a,b,c,d,f,h,i,j,k,l,o,p,q=>by apply(?_:ut (let e:=p.getD (0+q.toNat) (0,(0,0));bif decide (q<(p.length:Int))then em p q<|em p q<|bif decide (e.1>=e.2.1)then em p q<|gc o [(e.1,(e.2.1,e.2.2))] λx=>lJ m n a b c d f h i j k l x p (wI (q+1))else lJ m n a b c d f h i j k l o p (wI (q+1))else some (.inl ((a,b,c,d,f,()),(h,i,j,k,l,()),o,()))));dsimp only[em,gc];exact λg _=>g
def tp (a:Int) (b:Int) (c:LI) (d:LI) (f:LI):Option (tW1×Unit×Unit):=by apply(?_:ut ((s7 m a b c d f).bind λy=>bif y.1 !=0 then some (((0,0,[],[],[],()),y.1,()),ul)else(Be m a b c d f).bind λz=>(lJ m m a b c d f 0 0 [] [] [] [] z.1 0).bind λ|.inl x=>(Fw m x.1.1 x.1.2.1 x.2.2.1).bind λA=>some (((ro A.1),0,()),ul)|.inr e=>e.elim));dsimp only[ro];exact λg _=>g
def n8 (m:Nat):Nat->Int->List eC->Int->Option tc1
 |0,_,_,_=>none
 |n+1,a,b,c=>bif decide (c<a)then if 0<=a/\a<=a/\a<=1073741824 then if 0<[List.replicate a.toNat false].length/\b.length+[List.replicate a.toNat false].length<=1073741824 then n8 m n a (b++[List.replicate a.toNat false]) (wI (c+1))else none else none else some (.inl (b,()))
def Ba (a:Int):Option tq1:=(n8 m m a [] 0).bind λ|.inl g=>some (g.1,ul)|.inr e=>e.elim
def gQ (m:Nat):Nat->List eC->List LI->List LI->Int->LI->Int->Option ((List eC×tU×tU×Int×LI×Unit)⊕Empty)
 |0,_,_,_,_,_,_=>none
 |n+1,a,b,c,d,f,h=>by apply(?_:ut (bif decide (h<(a.length:Int))then bif d !=h then am a d [] λe=>em e h<|bif e.getD h.toNat false then gc f [h] λy=>gQ m n a b c d y (wI (h+1))else am a h [] λx=>em x d<|bif x.getD d.toNat false then gc f [h] λz=>gQ m n a b c d z (wI (h+1))else gQ m n a b c d f (wI (h+1))else gQ m n a b c d f (wI (h+1))else some (.inl (a,(b,()),(c,()),d,f,()))));dsimp only[am,em,gc];exact λg _=>g
def n7:Nat->List eC->List LI->List LI->Int->Option ((tU×tU×Unit)⊕Empty)
 |0,_,_,_,_=>none
 |n+1,a,b,c,d=>bif decide (d<(a.length:Int))then(gQ m m a b c d [] 0).bind λ|.inl g=>if 0<[g.2.2.2.2.1].length/\g.2.2.1.1.length+[g.2.2.2.2.1].length<=1073741824 then n7 n g.1 g.2.1.1 (g.2.2.1.1++[g.2.2.2.2.1]) (wI (g.2.2.2.1+1))else none|.inr e=>e.elim else some (.inl ((b,()),(c,()),()))
def A9 (a:List eC):Option (tU×Unit×Unit):=(n7 m m a [] [] 0).bind λ|.inl g=>some ((g.2.1.1,()),ul)|.inr e=>e.elim
def oB (m:Nat):Nat->List LI->List eC->re->Int->Option tJ1
 |0,_,_,_,_=>none
 |n+1,a,b,c,d=>by apply(?_:ut (let e:=c.getD (0+d.toNat) (0,(0,0));bif decide (d<(c.length:Int))then em c d<|am b (e.1) [] λx=>em c d<|em x (e.2.1)<|oB m n a (b.set e.1.toNat (x.set e.2.1.toNat true)) c (wI (d+1))else some (.inl ((a,()),b,()))));dsimp only[em,am];exact λg _=>g
def tn (a:Int) (b:Int) (c:LI) (d:LI) (f:LI):Option ((tU×Int×Unit)×Unit×Unit):=(s7 m a b c d f).bind λg=>bif g.1 !=0 then some ((([],()),g.1,()),ul)else bif a !=b then some ((([],()),5,()),ul)else(Ba m a).bind λx=>(Be m a b c d f).bind λy=>(oB m m [] x.1 y.1 0).bind λ|.inl z=>(A9 m z.2.1).bind λA=>some (((A.1.1,()),0,()),ul)|.inr e=>e.elim
def nA (m:Nat):Nat->LI->Int->Option qW
 |0,_,_=>none
 |n+1,a,b=>by apply(?_:ut (bif decide (b<(a.length:Int))then am a b 0 λe=>am a (wI (b-1)) 0 λx=>bif decide (e<=x)then some (.inl (false,()))else nA m n a (wI (b+1))else some (.inr (.inl ()))));dsimp only[am];exact λg _=>g
def AE (a:LI):Option o6:=(nA m m a 1).bind λ|.inl g=>some (g.1,ul)|.inr (.inl x)=>some (true,ul)|.inr (.inr e)=>e.elim
def ny (m:Nat):Nat->LI->Int->Int->Option qW
 |0,_,_,_=>none
 |n+1,a,b,c=>bif decide (c<(a.length:Int))then if 0<=c/\c<(a.length:Int)then bif(a.getD c.toNat 0)==b then some (.inl (true,()))else ny m n a b (wI (c+1))else none else some (.inr (.inl ()))
def uM (a:LI) (b:Int):Option uu:=(ny m m a b 0).bind λ|.inl g=>some (g.1,V2)|.inr (.inl x)=>some (false,V2)|.inr (.inr e)=>e.elim
def lq:Nat->List LI->Int->Int->Int->Option ((Int×Unit)⊕(tU×Int×Int×Unit)⊕Empty)
 |0,_,_,_,_=>none
 |n+1,a,b,c,d=>by apply(?_:ut (am a c [] λx=>bif decide (d<(x.length:Int))then em a c<|am x d 0 λe=>bif decide (e<0)then some (.inl (1,()))else bif decide (e>=b)then some (.inl (1,()))else bif e==c then some (.inl (1,()))else am a e [] λy=>(uM m y c).bind λz=>bif !z.1 then some (.inl (1,()))else lq n a b c (wI (d+1))else some (.inr (.inl ((a,()),b,c,())))));dsimp only[am,em];exact λg _=>g
def n6:Nat->List LI->Int->Int->Option rf
 |0,_,_,_=>none
 |n+1,a,b,c=>bif decide (c<b)then if 0<=c/\c<(a.length:Int)then(AE m (a.getD c.toNat [])).bind λx=>bif !x.1 then some (.inl (1,()))else(lq m m a b c 0).bind λ|.inl y=>some (.inl (y.1,()))|.inr (.inl g)=>n6 n g.1.1 g.2.1 (wI (g.2.2.1+1))|.inr (.inr e)=>e.elim else none else some (.inr (.inl ()))
def uZ (a:List LI):Option jz:=bif decide ((a.length:Int)>200)then some (6,ul)else(n6 m m a (a.length:Int) 0).bind λ|.inl g=>some (g.1,ul)|.inr (.inl x)=>some (0,ul)|.inr (.inr e)=>e.elim
def n5 (m:Nat):Nat->LI->Int->List Bool->Int->Option qW
 |0,_,_,_,_=>none
 |n+1,a,b,c,d=>by apply(?_:ut (let x:=some (.inl (false,()));bif decide (d<b)then am a d 0 λe=>bif decide (e<0)then x else em a d<|bif decide (e>=b)then x else em a d<|em c e<|bif c.getD (0+e.toNat) false then x else em a d<|em c e<|n5 m n a b (c.set (0+e.toNat) true) (wI (d+1))else some (.inr (.inl ()))));dsimp only[am,em];exact λg _=>g
def Fk (a:LI) (b:Int):Option uu:=bif(a.length:Int) !=b then some (false,V2)else if 0<=b/\b<=b/\b<=1073741824 then(n5 m m a b (List.replicate b.toNat false) 0).bind λ|.inl g=>some (g.1,V2)|.inr (.inl x)=>some (true,V2)|.inr (.inr e)=>e.elim else none
def nx (m:Nat):Nat->LI->Int->Int->Option qW
 |0,_,_,_=>none
 |n+1,a,b,c=>by apply(?_:ut (bif decide (c<(a.length:Int))then am a c 0 λe=>bif decide (e<0)then some (.inl (false,()))else em a c<|bif decide (e>=b)then some (.inl (false,()))else nx m n a b (wI (c+1))else some (.inr (.inl ()))));dsimp only[am,em];exact λg _=>g
def Er (a:LI) (b:Int):Option uu:=(nx m m a b 0).bind λ|.inl g=>some (g.1,V2)|.inr (.inl x)=>some (true,V2)|.inr (.inr e)=>e.elim
def nw:Nat->LI->Int->Option qW
 |0,_,_=>none
 |n+1,a,b=>bif decide (b<(a.length:Int))then if(0:Int)<=0/\0<=b/\b<=(a.length:Int)then if 0<=b/\b<(a.length:Int)then(uM m (a.take b.toNat) (a.getD b.toNat 0)).bind λe=>bif e.1 then some (.inl (true,()))else nw n a (wI (b+1))else none else none else some (.inr (.inl ()))
def Eo (a:LI):Option o6:=(nw m m a 0).bind λ|.inl g=>some (g.1,ul)|.inr (.inl x)=>some (false,ul)|.inr (.inr e)=>e.elim
def nu (m:Nat):Nat->List LI->Int->List eC->Int->List Bool->Int->Option ((tU×Int×List eC×Int×List Bool×Unit)⊕Empty)
 |0,_,_,_,_,_,_=>none
 |n+1,a,b,c,d,f,h=>by apply(?_:ut (am a d [] λe=>bif decide (h<(e.length:Int))then em a d<|am e h 0 λx=>em f x<|nu m n a b c d (f.set (0+x.toNat) true) (wI (h+1))else some (.inl ((a,()),b,c,d,f,()))));dsimp only[am,em];exact λg _=>g
def nv:Nat->List LI->Int->List eC->Int->Option tc1
 |0,_,_,_,_=>none
 |n+1,a,b,c,d=>bif decide (d<b)then if 0<=b/\b<=b/\b<=1073741824 then(nu m m a b c d (List.replicate b.toNat false) 0).bind λ|.inl g=>if 0<[g.2.2.2.2.1].length/\g.2.2.1.length+[g.2.2.2.2.1].length<=1073741824 then nv n g.1.1 g.2.1 (g.2.2.1++[g.2.2.2.2.1]) (wI (g.2.2.2.1+1))else none|.inr e=>e.elim else none else some (.inl (c,()))
def AC (a:List LI):Option tq1:=(nv m m a (a.length:Int) [] 0).bind λ|.inl g=>some (g.1,ul)|.inr e=>e.elim
def nX (m:Nat):Nat->LI->List LI->List eC->List eC->Int->Int->Option ((LI×tU×List eC×List eC×Int×Unit)⊕Empty)
 |0,_,_,_,_,_,_=>none
 |n+1,a,b,c,d,f,h=>by apply(?_:ut (bif decide (h<(a.length:Int))then am d f [] λe=>am a f 0 λx=>am c x [] λy=>am a h 0 λz=>am y z false λA=>em e h<|nX m n a b c (d.set f.toNat (e.set h.toNat A)) f (wI (h+1))else some (.inl (a,(b,()),c,d,f,()))));dsimp only[am,em];exact λg _=>g
def nY:Nat->LI->List LI->List eC->List eC->Int->Option tJ1
 |0,_,_,_,_,_=>none
 |n+1,a,b,c,d,f=>bif decide (f<(a.length:Int))then(nX m m a b c d f 0).bind λ|.inl g=>nY n g.1 g.2.1.1 g.2.2.1 g.2.2.2.1 (wI (g.2.2.2.2.1+1))|.inr e=>e.elim else some (.inl ((b,()),d,()))
def M8 (a:List LI) (b:LI):Option tN1:=(uZ m a).bind λg=>bif g.1 !=0 then some ((([],()),g.1,()),V2)else(Er m b (a.length:Int)).bind λx=>bif !x.1 then some ((([],()),3,()),V2)else(Eo m b).bind λy=>bif y.1 then some ((([],()),90,()),V2)else(AC m a).bind λz=>(Ba m (b.length:Int)).bind λA=>(nY m m b [] z.1 A.1 0).bind λ|.inl B=>(A9 m B.2.1).bind λC=>some (((C.1.1,()),0,()),V2)|.inr e=>e.elim
def xW (a:List LI) (b:LI):Option tN1:=(uZ m a).bind λe=>bif e.1 !=0 then some ((([],()),e.1,()),V2)else bif(b.length:Int) !=(a.length:Int)then some ((([],()),2,()),V2)else(Fk m b (a.length:Int)).bind λx=>bif !x.1 then some ((([],()),90,()),V2)else(M8 m a b).bind λg=>some (((g.1.1.1,()),g.1.2.1,()),V2)
def Ti (a:List LI):Option (NJ×Unit×Unit):=by apply(?_:ut ((AC m a).bind λe=>lc (a.length:Int)<|some ((e.1,List.replicate (a.length:Int).toNat false,()),ul)));dsimp only[lc];exact λg _=>g
def nW (m:Nat):Nat->List eC->List Bool->Int->LI->Int->Option ((NJ×LI×Unit)⊕Empty)
 |0,_,_,_,_,_=>none
 |n+1,a,b,c,d,f=>by apply(?_:ut (bif decide (f<(a.length:Int))then am a c [] λe=>em e f<|bif e.getD f.toNat false then em b f<|bif !(b.getD (0+f.toNat) false)then gc d [f] λx=>nW m n a b c x (wI (f+1))else nW m n a b c d (wI (f+1))else nW m n a b c d (wI (f+1))else some (.inl ((a,b,()),d,()))));dsimp only[am,em,gc];exact λg _=>g
def M7 (a:List eC) (b:List Bool) (c:Int):Option (LI×NJ×Unit×Unit):=(nW m m a b c [] 0).bind λ|.inl g=>some (g.2.1,((g.1.1,g.1.2.1,()),(),()))|.inr e=>e.elim
def qs (m:Nat):Nat->List eC->List Bool->Int->LI->Int->Int->Option ((NJ×Int×LI×Int×Unit)⊕Empty)
 |0,_,_,_,_,_,_=>none
 |n+1,a,b,c,d,f,h=>by apply(?_:ut (bif decide (h<(d.length:Int))then bif f !=h then em d f<|am a (d.getD (0+f.toNat) 0) [] λe=>em d h<|em e (d.getD (0+h.toNat) 0)<|qs m n (a.set (d.getD (0+f.toNat) 0).toNat (e.set (d.getD (0+h.toNat) 0).toNat true)) b c d f (wI (h+1))else qs m n a b c d f (wI (h+1))else some (.inl ((a,b,()),c,d,f,()))));dsimp only[em,am,-dreduceIte];exact λg _=>g
def uY:Nat->List eC->List Bool->Int->LI->Int->Option ((NJ×Int×Unit)⊕Empty)
 |0,_,_,_,_,_=>none
 |n+1,a,b,c,d,f=>bif decide (f<(d.length:Int))then(qs m m a b c d f 0).bind λ|.inl g=>uY n g.1.1 g.1.2.1 g.2.1 g.2.2.1 (wI (g.2.2.2.1+1))|.inr e=>e.elim else some (.inl ((a,b,()),c,()))
def Tg (a:List eC) (b:List Bool) (c:Int):Option (Unit×NJ×Unit×Unit):=(M7 m a b c).bind λx=>(uY m m x.2.1.1 x.2.1.2.1 c x.1 0).bind λ|.inl g=>if 0<=g.2.1/\g.2.1<(g.1.2.1.length:Int)then some ((),((g.1.1,g.1.2.1.set (0+g.2.1.toNat) true,()),(),()))else none|.inr e=>e.elim
def vh:Nat->List LI->List eC->List Bool->List LI->Int->Option (tU⊕Empty)
 |0,_,_,_,_,_=>none
 |n+1,a,b,c,d,f=>by apply(?_:ut (bif decide (f<(a.length:Int))then(M7 m b c f).bind λx=>gc [f] x.1 λe=>if 0<[e].length/\d.length+[e].length<=1073741824 then(Tg m x.2.1.1 x.2.1.2.1 f).bind λy=>vh n a y.2.1.1 y.2.1.2.1 (d++[e]) (wI (f+1))else none else some (.inl (d,()))));dsimp only[gc];exact λg _=>g
def BS (a:List LI):Option ((List LI×Int×Unit)×Unit×Unit):=(uZ m a).bind λg=>bif g.1 !=0 then some (([],g.1,()),ul)else(Ti m a).bind λx=>(vh m m a x.1.1 x.1.2.1 [] 0).bind λ|.inl y=>some ((y.1,0,()),ul)|.inr e=>e.elim
def sA (m:Nat):Nat->Int->gy->List eC->Int->Int->Int->Option ((Int×gy×List eC×Int×Int×Unit)⊕Empty)
 |0,_,_,_,_,_,_=>none
 |n+1,a,b,c,d,f,h=>by apply(?_:ut (bif decide (h<(b.length:Int))then am b h (0,(0,([],0))) λx=>bif decide (f>=x.1)then em b h<|bif decide (f<x.2.1)then am b d (0,(0,([],0))) λe=>sA m n a (b.set d.toNat (e.1,(e.2.1,(e.2.2.1,h)))) c d f (wI (h+1))else sA m n a b c d f (wI (h+1))else sA m n a b c d f (wI (h+1))else some (.inl (a,b,c,d,f,()))));dsimp only[am,em];exact λg _=>g
def jV:Nat->Int->gy->List eC->Int->Int->Option ((Int×gy×List eC×Int×Unit)⊕Empty)
 |0,_,_,_,_,_=>none
 |n+1,a,b,c,d,f=>by apply(?_:ut (let A(C:gA)(H:LI):=b.set d.toNat (C.1,(C.2.1,(H,C.2.2.2)));bif decide (f<a)then am c d [] λI=>am I f false λJ=>bif !J then jV n a b c d (wI (f+1))else am b d (0,(0,([],0))) λx=>gc x.2.2.1 [f] λy=>em b d<|if((d.toNat*4)+2)=((d.toNat*4)+2)then am (b.set d.toNat (x.1,(x.2.1,(y,x.2.2.2)))) d (0,(0,([],0))) λz=>bif decide (f>=z.2.1)then em (b.set d.toNat (x.1,(x.2.1,(y,x.2.2.2)))) d<|bif decide (z.2.2.2<0)then(sA m m a (A x y) c d f (wI (d+1))).bind λ|.inl B=>am B.2.1 B.2.2.2.1 (0,(0,([],0))) λD=>bif decide (B.2.2.2.2.1>=D.2.1)then em B.2.1 B.2.2.2.1<|am B.2.2.1 D.2.2.2 [] λE=>em E B.2.2.2.2.1<|jV n B.1 B.2.1 (B.2.2.1.set D.2.2.2.toNat (E.set B.2.2.2.2.1.toNat true)) B.2.2.2.1 (wI (B.2.2.2.2.1+1))else pp (jV n) B (wI (B.2.2.2.2.1+1))|.inr e=>e.elim else em (b.set d.toNat (x.1,(x.2.1,(y,x.2.2.2)))) d<|bif decide (f>=z.2.1)then em (b.set d.toNat (x.1,(x.2.1,(y,x.2.2.2)))) d<|am c z.2.2.2 [] λF=>em F f<|jV n a (A x y) (c.set z.2.2.2.toNat (F.set f.toNat true)) d (wI (f+1))else jV n a (A x y) c d (wI (f+1))else em (b.set d.toNat (x.1,(x.2.1,(y,x.2.2.2)))) d<|bif decide (f>=z.2.1)then em (b.set d.toNat (x.1,(x.2.1,(y,x.2.2.2)))) d<|am c z.2.2.2 [] λG=>em G f<|jV n a (A x y) (c.set z.2.2.2.toNat (G.set f.toNat true)) d (wI (f+1))else jV n a (A x y) c d (wI (f+1))else none else some (.inl (a,b,c,d,()))));dsimp only[am,gc,em,pp,-dreduceIte];exact λg _=>g
def sC:Nat->Int->gy->List eC->Int->Option ((gy×Unit)⊕Empty)
 |0,_,_,_,_=>none
 |n+1,a,b,c,d=>bif decide (d<(b.length:Int))then if 0<=d/\d<(b.length:Int)then(jV m m a b c d (b.getD d.toNat (0,(0,([],0)))).1).bind λ|.inl g=>sC n g.1 g.2.1 g.2.2.1 (wI (g.2.2.2.1+1))|.inr e=>e.elim else none else some (.inl (b,()))
def iU (m:Nat):Nat->LI->List LI->Int->gy->List eC->Int->Int->Int->Option ((LI×List LI×Int×gy×List eC×Int×Unit)⊕Empty)
 |0,_,_,_,_,_,_,_,_=>none
 |n+1,a,b,c,d,f,h,i,j=>by apply(?_:ut (am b h [] λe=>bif decide (j<(e.length:Int))then am f i [] λx=>em b h<|am e j 0 λy=>em x y<|iU m n a b c d (f.set i.toNat (x.set y.toNat true)) h i (wI (j+1))else some (.inl (a,b,c,d,f,h,()))));dsimp only[am,em];exact λg _=>g
def jW:Nat->LI->List LI->Int->gy->List eC->Int->Option ((Int×gy×List eC×Unit)⊕Empty)
 |0,_,_,_,_,_,_=>none
 |n+1,a,b,c,d,f,h=>by apply(?_:ut (let x:=([(h,(wI (h+1),([],(-1))))]:List gA);let y:=wI (((d++x).length:Int)-1);let C:=if 0<x.length/\d.length+x.length<=1073741824 then lc c<|if 0<[List.replicate c.toNat false].length/\f.length+[List.replicate c.toNat false].length<=1073741824 then am (d++x) y (0,(0,([],0))) λz=>(iU m m a b c ((d++x).set y.toNat (z.1,(wI (h+1),(z.2.2.1,z.2.2.2)))) (f++[List.replicate c.toNat false]) h y 0).bind λ|.inl D=>pu (jW n) D (wI (D.2.2.2.2.2.1+1))|.inr e=>e.elim else none else none;let A:=wI ((d.length:Int)-1);bif decide (h<c)then bif h==0 then C else(D6 m a (wI (900+h))).bind λF=>bif decide ((Int.tmod (aJ .u64 F.1 7) 3)>0)then C else am d A (0,(0,([],0))) λB=>(iU m m a b c (d.set A.toNat (B.1,(wI (h+1),(B.2.2.1,B.2.2.2)))) f h A 0).bind λ|.inl E=>pu (jW n) E (wI (E.2.2.2.2.2.1+1))|.inr e=>e.elim else some (.inl (c,d,f,()))));dsimp only[lc,am,pu];exact λg _=>g
def Mv (a:Int) (b:Int) (c:LI) (d:LI) (f:LI) (h:LI) (i:LI):Option (gy×Unit×Unit×Unit×Unit):=by apply(?_:ut ((tp m a b c d f).bind λy=>(pu (tn m) y.1.1).bind λz=>(xW m z.1.1.1 h).bind λA=>(BS m A.1.1.1).bind λx=>(jW m m i x.1.1 (x.1.1.length:Int) [] [] 0).bind λ|.inl B=>((pm (sC m m) B 0).bind λ|.inl C=>some (C.1,u4)|.inr e=>e.elim)|.inr e=>e.elim));dsimp only[pu,pm];exact λg _=>g
def lH (m:Nat):Nat->LI->Int->List Bool->Int->Option qW
 |0,_,_,_,_=>none
 |n+1,a,b,c,d=>by apply(?_:ut (let x:=some (.inl (false,()));bif decide (d<b)then am a d 0 λe=>bif decide (e<0)then x else em a d<|bif decide (e>=b)then x else em a d<|em c e<|bif c.getD (0+e.toNat) false then x else em a d<|em c e<|lH m n a b (c.set (0+e.toNat) true) (wI (d+1))else some (.inr (.inl ()))));dsimp only[am,em];exact λg _=>g
def BN (a:LI) (b:Int):Option uu:=bif(a.length:Int) !=b then some (false,V2)else if 0<=b/\b<=b/\b<=1073741824 then(lH m m a b (List.replicate b.toNat false) 0).bind λ|.inl g=>some (g.1,V2)|.inr (.inl x)=>some (true,V2)|.inr (.inr e)=>e.elim else none
def FO (a:Int) (b:Int) (c:LI) (d:LI) (f:LI) (h:LI):Option i7:=(s7 m a b c d f).bind λe=>bif e.1 !=0 then some (e.1,V2)else bif a !=b then some (5,V2)else(BN m h a).bind λg=>bif !g.1 then some (90,V2)else some (0,V2)
def FH (a:Int) (b:Int) (c:LI) (d:LI) (f:LI) (h:LI):Option (tU×Unit×Unit×Unit):=by apply(?_:ut ((tp m a b c d f).bind λe=>(pu (tn m) e.1.1).bind λx=>(xW m x.1.1.1 h).bind λy=>some ((y.1.1.1,()),V2)));dsimp only[pu];exact λg _=>g
def qb (m:Nat):Nat->gy->Int->Int->Option rf
 |0,_,_,_=>none
 |n+1,a,b,c=>by apply(?_:ut (bif decide (c<(a.length:Int))then am a c (0,(0,([],0))) λe=>bif decide (e.1<=b)then em a c<|bif decide (b<e.2.1)then some (.inl (c,()))else qb m n a b (wI (c+1))else qb m n a b (wI (c+1))else some (.inr (.inl ()))));dsimp only[am,em];exact λg _=>g
def MT (a:List gA) (b:Int):Option i7:=(qb m m a b 0).bind λ|.inl g=>some (g.1,V2)|.inr (.inl x)=>some ((-1),V2)|.inr (.inr e)=>e.elim
def qt:Nat->gy->List LI->Int->Int->Int->Option tK
 |0,_,_,_,_,_=>none
 |n+1,a,b,c,d,f=>by apply(?_:ut (am b d [] λe=>bif decide (f<(e.length:Int))then em b d<|am e f 0 λx=>bif decide (x>d)then(MT m a d).bind λz=>am a z.1 (0,(0,([],0))) λy=>(uM m y.2.2.1 x).bind λA=>bif !A.1 then some (.inl (211,()))else qt n a b c d (wI (f+1))else qt n a b c d (wI (f+1))else some (.inr (.inl (a,(b,()),c,d,())))));dsimp only[am,em];exact λg _=>g
def u5:Nat->gy->List LI->Int->Int->Option rf
 |0,_,_,_,_=>none
 |n+1,a,b,c,d=>bif decide (d<c)then(qt m m a b c d 0).bind λ|.inl x=>some (.inl (x.1,()))|.inr (.inl g)=>u5 n g.1 g.2.1.1 g.2.2.1 (wI (g.2.2.2.1+1))|.inr (.inr e)=>e.elim else some (.inr (.inl ()))
def qu:Nat->gy->List LI->Int->Int->LI->Int->Int->Option tK
 |0,_,_,_,_,_,_,_=>none
 |n+1,a,b,c,d,f,h,i=>by apply(?_:ut (bif decide (i<(f.length:Int))then am a h (0,(0,([],0))) λe=>am f i 0 λx=>(uM m e.2.2.1 x).bind λy=>bif !y.1 then some (.inl (211,()))else qu n a b c d f h (wI (i+1))else some (.inr (.inl (a,(b,()),c,d,())))));dsimp only[am];exact λg _=>g
def qv:Nat->gy->List LI->Int->Int->Option ((Int×Unit)⊕(gy×tU×Int×Unit)⊕Empty)
 |0,_,_,_,_=>none
 |n+1,a,b,c,d=>by apply(?_:ut (let y:=some (.inl (211,()));bif decide (d<(a.length:Int))then am a d (0,(0,([],0))) λx=>em a d<|em a d<|(AE m x.2.2.1).bind λF=>bif !F.1 then y else bif decide ((x.2.2.1.length:Int)<(wI (x.2.1-x.1)))then y else if(0:Int)<=0/\0<(x.2.2.1.length:Int)then em a d<|bif(x.2.2.1.getD 0 0) !=x.1 then y else am x.2.2.1 (wI ((wI (x.2.1-x.1))-1)) 0 λz=>em a d<|bif z !=(wI (x.2.1-1))then y else am x.2.2.1 (wI ((x.2.2.1.length:Int)-1)) 0 λA=>bif decide (A>=c)then y else bif decide ((x.2.2.1.length:Int)>(wI (x.2.1-x.1)))then am x.2.2.1 (wI (x.2.1-x.1)) 0 λB=>(MT m a B).bind λE=>em a d<|bif x.2.2.2 !=E.1 then y else(qu m m a b c d x.2.2.1 E.1 (wI (x.2.1-x.1))).bind λ|.inl G=>some (.inl (G.1,()))|.inr (.inl C)=>qv n C.1 C.2.1.1 C.2.2.1 (wI (C.2.2.2.1+1))|.inr (.inr e)=>e.elim else em a d<|bif x.2.2.2 !=(-1)then y else(qu m m a b c d x.2.2.1 (-1) (wI (x.2.1-x.1))).bind λ|.inl H=>some (.inl (H.1,()))|.inr (.inl D)=>qv n D.1 D.2.1.1 D.2.2.1 (wI (D.2.2.2.1+1))|.inr (.inr e)=>e.elim else none else some (.inr (.inl (a,(b,()),c,())))));dsimp only[am,em,-dreduceIte];exact λg _=>g
def u6 (m:Nat):Nat->gy->List LI->Int->Int->Int->Option tK
 |0,_,_,_,_,_=>none
 |n+1,a,b,c,d,f=>by apply(?_:ut (let x:=some (.inl (211,()));bif decide (f<(a.length:Int))then am a f (0,(0,([],0))) λe=>bif e.1 !=d then x else em a f<|bif decide (e.2.1<=d)then x else em a f<|bif decide (e.2.1>c)then x else em a f<|u6 m n a b c e.2.1 (wI (f+1))else some (.inr (.inl (a,(b,()),c,d,())))));dsimp only[am,em];exact λg _=>g
def Na (a:List LI) (b:List gA):Option i7:=(uZ m a).bind λy=>bif y.1 !=0 then some (y.1,V2)else(u6 m m b a (a.length:Int) 0 0).bind λ|.inl z=>some (z.1,V2)|.inr (.inl g)=>(bif g.2.2.2.1 !=g.2.2.1 then some (211,V2)else(qv m m g.1 g.2.1.1 g.2.2.1 0).bind λ|.inl A=>some (A.1,V2)|.inr (.inl x)=>((u5 m m x.1 x.2.1.1 x.2.2.1 0).bind λ|.inl B=>some (B.1,V2)|.inr (.inl C)=>some (0,V2)|.inr (.inr e)=>e.elim)|.inr (.inr e)=>e.elim)|.inr (.inr e)=>e.elim
def sk (m:Nat):Nat->gy->Int->Option rf
 |0,_,_=>none
 |n+1,a,b=>bif decide (b<(a.length:Int))then if 0<=b/\b<(a.length:Int)then bif decide (((a.getD b.toNat (0,(0,([],0)))).2.2.1.length:Int)>64)then some (.inl (6,()))else sk m n a (wI (b+1))else none else some (.inr (.inl ()))
def L9 (a:Int) (b:Int) (c:LI) (d:LI) (f:LI) (h:LI) (i:List gA):Option NI:=(FO m a b c d f h).bind λg=>bif g.1 !=0 then some (g.1,u4)else(FH m a b c d f h).bind λy=>(Na m y.1.1 i).bind λx=>bif x.1 !=0 then some (x.1,u4)else(sk m m i 0).bind λ|.inl z=>some (z.1,u4)|.inr (.inl A)=>some (0,u4)|.inr (.inr e)=>e.elim
def FG (a:Int) (b:Int) (c:LI) (d:LI) (f:LI) (h:LI) (i:Int) (j:Int):Option (mu×Unit×Unit×Unit×Unit×Unit):=by apply(?_:ut (am h i 0 λe=>am h j 0 λx=>(Mc m a b c d f (if x>e then x else e) (if x<e then x else e)).bind λy=>(gk m y.1).bind λz=>some ((rg z.1),vm)));dsimp only[am,rg];exact λg _=>g
def lA (m:Nat):Nat->LI->Int->Int->Option rf
 |0,_,_,_=>none
 |n+1,a,b,c=>bif decide (c<(a.length:Int))then if 0<=c/\c<(a.length:Int)then bif(a.getD c.toNat 0)==b then some (.inl (c,()))else lA m n a b (wI (c+1))else none else some (.inr (.inl ()))
def lB (a:LI) (b:Int):Option i7:=(lA m m a b 0).bind λ|.inl g=>some (g.1,V2)|.inr (.inl x)=>some ((-1),V2)|.inr (.inr e)=>e.elim
def BD (a:Bool) (b:Bool) (c:LI) (d:Int) (f:Bool) (h:Bool) (i:LI) (j:Int):Option XA:=(iy m b c).bind λx=>bif x.1==0 then some (((b,c,()),(h,i,()),j,()),V2)else(iy m h i).bind λy=>bif y.1==0 then some (((b,c,()),(h,i,()),d,()),V2)else bif decide (d>j)then(wm m b c (wI (d-j))).bind λe=>some (((e.1.1,e.1.2.1,()),(h,i,()),j,()),V2)else(wm m h i (wI (j-d))).bind λg=>some (((b,c,()),(g.1.1,g.1.2.1,()),d,()),V2)
def oO (a:Bool) (b:Bool) (c:LI) (d:Int) (f:Bool) (h:Bool) (i:LI) (j:Int):Option yy:=by apply(?_:ut (let e:=(zR m).bind λB=>some ((rg B.1),V2);(pZ m a b c d).bind λy=>(pZ m f h i j).bind λz=>bif y.1.1 then e else bif z.1.1 then e else(pp (pp (BD m) y.1) z.1).bind λx=>(gz m x.1.1.1 x.1.1.2.1 x.1.2.1.1 x.1.2.1.2.1).bind λA=>(wv m A.1.1 A.1.2.1 x.1.2.2.1).bind λC=>some ((rg C.1),V2)));dsimp only[rg,pp];exact λg _=>g
def se:Nat->gy->Int->qP->LI->Int->cP->LI->Int->cP->Int->LI->Int->cP->Int->Int->Option ((gy×Int×qP×iI×iI×Int×iI×Int×Unit)⊕Empty)
 |0,_,_,_,_,_,_,_,_,_,_,_,_,_,_,_=>none
 |n+1,a,b,c,d,f,h,i,j,k,l,o,p,q,r,s=>by apply(?_:ut (bif decide (s<(o.length:Int))then am o r 0 λz=>(lB m i z).bind λD=>am o s 0 λA=>(lB m i A).bind λE=>am k D.1 [] λy=>em k D.1<|am y E.1 qz λe=>am q r [] λB=>am B s qz λx=>(oO m e.1 e.2.1.1 e.2.1.2 e.2.2 x.1 x.2.1.1 x.2.1.2 x.2.2).bind λC=>em y E.1<|se n a b c d f h i j (k.set D.1.toNat (y.set E.1.toNat (C.1.1,((C.1.2.1,C.1.2.2.1),C.1.2.2.2.1)))) l o p q r (wI (s+1))else some (.inl (a,b,c,(d,f,h,()),(i,j,k,()),l,(o,p,q,()),r,()))));dsimp only[am,em];exact λg _=>g
def sf:Nat->gy->Int->qP->LI->Int->cP->LI->Int->cP->Int->LI->Int->cP->Int->Option ((gy×Int×qP×iI×iI×Int×Unit)⊕Empty)
 |0,_,_,_,_,_,_,_,_,_,_,_,_,_,_=>none
 |n+1,a,b,c,d,f,h,i,j,k,l,o,p,q,r=>by apply(?_:ut (bif decide (r<(o.length:Int))then(se m m a b c d f h i j k l o p q r 0).bind λ|.inl x=>pm (pm (pm (pm (sf n) x) x.2.2.2.1) x.2.2.2.2.1 x.2.2.2.2.2.1) x.2.2.2.2.2.2.1 (wI (x.2.2.2.2.2.2.2.1+1))|.inr e=>e.elim else some (.inl (a,b,c,(d,f,h,()),(i,j,k,()),l,()))));dsimp only[pm];exact λg _=>g
def py:Nat->gy->Int->qP->LI->Int->cP->LI->Int->cP->Int->Option ((qP×iI×iI×Unit)⊕Empty)
 |0,_,_,_,_,_,_,_,_,_,_=>none
 |n+1,a,b,c,d,f,h,i,j,k,l=>by apply(?_:ut (let x:=c.getD (0+l.toNat) ([],(0,[]));bif decide (l<b)then am a l (0,(0,([],0))) λy=>bif y.2.2.2 !=b then py n a b c d f h i j k (wI (l+1))else em c l<|(sf m m a b c d f h i j k l x.1 x.2.1 x.2.2 0).bind λ|.inl z=>pm (pm (pm (py n) z) z.2.2.2.1) z.2.2.2.2.1 (wI (z.2.2.2.2.2.1+1))|.inr e=>e.elim else some (.inl (c,(d,f,h,()),(i,j,k,()),()))));dsimp only[am,em,pm];exact λg _=>g
def mY:Nat->LI->gy->Int->qP->Int->Int->LI->LI->LI->LI->Int->cP->LI->Int->cP->Int->Int->Int->Option ((LI×gy×Int×qP×mq×iI×iI×Int×Int×Unit)⊕Empty)
 |0,_,_,_,_,_,_,_,_,_,_,_,_,_,_,_,_,_,_=>none
 |n+1,a,b,c,d,f,h,i,j,k,l,o,p,q,r,s,t,u,v=>by apply(?_:ut (bif decide (v<t)then em q u<|em q v<|am b c (0,(0,([],0))) λe=>bif decide ((if(q.getD (0+v.toNat) 0)<(q.getD (0+u.toNat) 0)then(q.getD (0+v.toNat) 0)else(q.getD (0+u.toNat) 0))>=e.1)then em b c<|bif decide ((if(q.getD (0+v.toNat) 0)<(q.getD (0+u.toNat) 0)then(q.getD (0+v.toNat) 0)else(q.getD (0+u.toNat) 0))<e.2.1)then am s u [] λx=>em q u<|em q v<|(FG m f h i j k a (q.getD (0+u.toNat) 0) (q.getD (0+v.toNat) 0)).bind λy=>em x v<|mY n a b c d f h i j k l o p q r (s.set u.toNat (x.set v.toNat (y.1.1,((y.1.2.1,y.1.2.2.1),y.1.2.2.2.1)))) t u (wI (v+1))else mY n a b c d f h i j k l o p q r s t u (wI (v+1))else mY n a b c d f h i j k l o p q r s t u (wI (v+1))else some (.inl (a,b,c,d,(f,h,i,j,k,()),(l,o,p,()),(q,r,s,()),t,u,()))));dsimp only[em,am,-dreduceIte];exact λg _=>g
def si:Nat->LI->gy->Int->qP->Int->Int->LI->LI->LI->LI->Int->cP->LI->Int->cP->Int->Int->Option ((gy×Int×qP×iI×iI×Unit)⊕Empty)
 |0,_,_,_,_,_,_,_,_,_,_,_,_,_,_,_,_,_=>none
 |n+1,a,b,c,d,f,h,i,j,k,l,o,p,q,r,s,t,u=>by apply(?_:ut (bif decide (u<t)then lc t<|if 0<[List.replicate t.toNat (qz:Bool×dX×Int)].length/\s.length+[List.replicate t.toNat (qz:Bool×dX×Int)].length<=1073741824 then(mY m m a b c d f h i j k l o p q r (s++[List.replicate t.toNat (qz:Bool×dX×Int)]) t u 0).bind λ|.inl x=>pm (pm (pu (pp (si n) x) x.2.2.2.2.1) x.2.2.2.2.2.1) x.2.2.2.2.2.2.1 x.2.2.2.2.2.2.2.1 (wI (x.2.2.2.2.2.2.2.2.1+1))|.inr e=>e.elim else none else some (.inl (b,c,d,(l,o,p,()),(q,r,s,()),()))));dsimp only[lc,pp,pu,pm];exact λg _=>g
def pz (m:Nat):Nat->LI->gy->Int->qP->Int->Int->LI->LI->LI->LI->Int->cP->LI->Int->cP->Int->Option tC
 |0,_,_,_,_,_,_,_,_,_,_,_,_,_,_,_,_=>none
 |n+1,a,b,c,d,f,h,i,j,k,l,o,p,q,r,s,t=>by apply(?_:ut (am b c (0,(0,([],0))) λe=>bif decide (t<(e.2.2.1.length:Int))then em b c<|am e.2.2.1 t 0 λx=>em b c<|bif decide (x>=e.2.1)then em b c<|em e.2.2.1 t<|gc q [x] λy=>pz m n a b c d f h i j k l o p y r s (wI (t+1))else pz m n a b c d f h i j k l o p q r s (wI (t+1))else some (.inl (a,b,c,d,(f,h,i,j,k,()),(l,o,p,()),(q,r,s,()),()))));dsimp only[am,em,gc];exact λg _=>g
def sj (m:Nat):Nat->LI->gy->Int->qP->Int->Int->LI->LI->LI->LI->Int->cP->LI->Int->cP->Int->Option tC
 |0,_,_,_,_,_,_,_,_,_,_,_,_,_,_,_,_=>none
 |n+1,a,b,c,d,f,h,i,j,k,l,o,p,q,r,s,t=>by apply(?_:ut (am b c (0,(0,([],0))) λe=>bif decide (t<e.2.1)then gc q [t] λx=>sj m n a b c d f h i j k l o p x r s (wI (t+1))else some (.inl (a,b,c,d,(f,h,i,j,k,()),(l,o,p,()),(q,r,s,()),()))));dsimp only[am,gc];exact λg _=>g
def pC (m:Nat):Nat->LI->gy->Int->qP->Int->Int->LI->LI->LI->LI->Int->cP->LI->Int->cP->Int->Option tC
 |0,_,_,_,_,_,_,_,_,_,_,_,_,_,_,_,_=>none
 |n+1,a,b,c,d,f,h,i,j,k,l,o,p,q,r,s,t=>by apply(?_:ut (let e:=d.getD (0+t.toNat) ([],(0,[]));let x(y:LI):=pC m n a b c d f h i j k l o p y r s (wI (t+1));bif decide (t<c)then am b t (0,(0,([],0))) λz=>bif z.2.2.2==c then em d t<|em d t<|if(0:Int)<=0/\0<=e.2.1/\e.2.1<=(e.1.length:Int)then gc q (e.1.take e.2.1.toNat) λA=>x A else none else x q else some (.inl (a,b,c,d,(f,h,i,j,k,()),(l,o,p,()),(q,r,s,()),()))));dsimp only[am,em,gc];exact λg _=>g
def WC (a:Int) (b:Int) (c:LI) (d:LI) (f:LI) (h:LI) (i:List gA) (j:Int) (k:List O1):Option (iI×Unit×Unit×Unit×Unit×qP×Unit):=by apply(?_:ut ((pC m m h i j k a b c d f [] 0 [] [] 0 [] 0).bind λ|.inl x=>(am x.2.1 x.2.2.1 (0,(0,([],0))) λz=>(pm (pm (pu (pp (sj m m) x) x.2.2.2.2.1) x.2.2.2.2.2.1) x.2.2.2.2.2.2.1 z.1).bind λ|.inl y=>((pm (pu (pp (pz m m) y) y.2.2.2.2.1) y.2.2.2.2.2.1 y.2.2.2.2.2.2.1.1 (y.2.2.2.2.2.2.1.1.length:Int) y.2.2.2.2.2.2.1.2.2.1 0).bind λ|.inl A=>((pm (pm (pu (pp (si m m) A) A.2.2.2.2.1) A.2.2.2.2.2.1) A.2.2.2.2.2.2.1 (A.2.2.2.2.2.2.1.1.length:Int) 0).bind λ|.inl C=>((pm (pm (pm (py m m) C) C.2.2.2.1) C.2.2.2.2.1 0).bind λ|.inl B=>some ((rc B.2.2.1),((),(),(),(),B.1,()))|.inr e=>e.elim)|.inr e=>e.elim)|.inr e=>e.elim)|.inr e=>e.elim)|.inr e=>e.elim));dsimp only[am,pp,pu,pm,rc];exact λg _=>g
def CG (a:Bool) (b:Bool) (c:LI) (d:Int):Option jz:=(HF m a b c d 0).bind λe=>some (e.1,ul)
def lz:Nat->Int->LI->Int->cP->c9->Int->Option (tS1⊕(c9×Unit)⊕Empty)
 |0,_,_,_,_,_,_=>none
 |n+1,a,b,c,d,f,h=>by apply(?_:ut (bif decide (h<(b.length:Int))then am d h [] λy=>am y a qz λe=>(CG m e.1 e.2.1.1 e.2.1.2 e.2.2).bind λA=>(wz m A.1).bind λB=>bif !B.1 then some (.inl ([],false,()))else(gk m A.1).bind λC=>(pp (A1 m) C.1).bind λz=>gc f [(z.1.1,((z.1.2.1,z.1.2.2.1),z.1.2.2.2.1))] λx=>lz n a b c d x (wI (h+1))else some (.inr (.inl (f,())))));dsimp only[am,gc,pp];exact λg _=>g
def xN (a:LI) (b:Int) (c:List c9) (d:Int):Option (tS1×Unit×Unit×Unit):=(lz m m d a b c [] 0).bind λ|.inl g=>some ((g.1,g.2.1,()),V2)|.inr (.inl x)=>some ((x.1,true,()),V2)|.inr (.inr e)=>e.elim
def FX (a:Bool) (b:LI) (c:Bool) (d:LI):Option i7:=(xR m a b c d).bind λe=>(iy m e.1.1 e.1.2.1).bind λg=>some (g.1,V2)
def WL (a:Bool) (b:Bool) (c:LI) (d:Int) (f:Bool) (h:Bool) (i:LI) (j:Int):Option W5:=by apply(?_:ut (let e:=((0,false,()),V2);(pZ m a b c d).bind λy=>(pZ m f h i j).bind λz=>bif y.1.1 then some e else bif z.1.1 then some e else(pp (pp (BD m) y.1) z.1).bind λx=>(FX m x.1.1.1 x.1.1.2.1 x.1.2.1.1 x.1.2.1.2.1).bind λA=>some ((A.1,true,()),V2)));dsimp only[pp];exact λg _=>g
def kt (a:Bool) (b:Bool) (c:LI) (d:Int) (f:Bool) (h:Bool) (i:LI) (j:Int):Option uu:=(WL m a b c d f h i j).bind λe=>some (decide (e.1.1<0),V2)
def ft:Nat->c9->Int->Bool->Bool->LI->Int->Bool->Bool->LI->Int->Int->Int->Option ((mu×mu×Int×Unit)⊕Empty)
 |0,_,_,_,_,_,_,_,_,_,_,_,_=>none
 |n+1,a,b,c,d,f,h,i,j,k,l,o,p=>by apply(?_:ut (bif decide (p<(a.length:Int))then bif p !=b then bif decide (o<0)then am a p qz λx=>ft n a b c d f h x.1 x.2.1.1 x.2.1.2 x.2.2 p (wI (p+1))else am a p qz λe=>(kt m i j k l e.1 e.2.1.1 e.2.1.2 e.2.2).bind λy=>bif y.1 then em a p<|ft n a b c d f h e.1 e.2.1.1 e.2.1.2 e.2.2 p (wI (p+1))else ft n a b c d f h i j k l o (wI (p+1))else ft n a b c d f h i j k l o (wI (p+1))else some (.inl ((c,d,f,h,()),(i,j,k,l,()),o,()))));dsimp only[am,em];exact λg _=>g
def Bj (a:List bA) (b:Int):Option ((mu×Int×Unit)×Unit×Unit×Unit):=(ft m m a b false false [] 0 false false [] 0 (-1) 0).bind λ|.inl g=>some (((g.2.1.1,g.2.1.2.1,g.2.1.2.2.1,g.2.1.2.2.2.1,()),g.2.2.1,()),V2)|.inr e=>e.elim
def vc (a:Bool) (b:Bool) (c:LI) (d:Int):Option jz:=(pZ m a b c d).bind λe=>bif e.1.1 then some (0,ul)else(iy m e.1.2.1 e.1.2.2.1).bind λg=>some (g.1,ul)
def oo (m:Nat):Nat->LI->LI->LI->Int->Int->Int->Option ((LI×LI×LI×Int×Int×Unit)⊕Empty)
 |0,_,_,_,_,_,_=>none
 |n+1,a,b,c,d,f,h=>by apply(?_:ut (let e:=wJ (c.getD (0+(wI (d+h)).toNat) 0);bif decide (h<(b.length:Int))then am a d 0 λx=>am b h 0 λy=>em c (wI (d+h))<|em c (wI (d+h))<|oo m n a b (c.set (0+(wI (d+h)).toNat) (wK (wJ ((wJ (f+(wJ ((wJ x)*(wJ y)))))+e)))) d (aJ .u64 (wJ ((wJ (f+(wJ ((wJ x)*(wJ y)))))+e)) 32) (wI (h+1))else some (.inl (a,b,c,d,f,()))));dsimp only[am,em];exact λg _=>g
def oq:Nat->LI->LI->LI->Int->Option q9
 |0,_,_,_,_=>none
 |n+1,a,b,c,d=>by apply(?_:ut (bif decide (d<(a.length:Int))then(oo m m a b c d 0 0).bind λ|.inl x=>em x.2.2.1 (wI (x.2.2.2.1+(x.2.1.length:Int)))<|oq n x.1 x.2.1 (x.2.2.1.set (0+(wI (x.2.2.2.1+(x.2.1.length:Int))).toNat) (wK x.2.2.2.2.1)) (wI (x.2.2.2.1+1))|.inr e=>e.elim else some (.inl (c,()))));dsimp only[em];exact λg _=>g
def F9 (a:LI) (b:LI):Option xl:=by apply(?_:ut (let x:=wI ((a.length:Int)+(b.length:Int));lc x<|(oq m m a b (List.replicate x.toNat (0:Int)) 0).bind λ|.inl y=>some (y.1,V2)|.inr e=>e.elim));dsimp only[lc];exact λg _=>g
def WM (a:Bool) (b:LI) (c:Bool) (d:LI):Option yc:=(gS m b).bind λg=>(gS m d).bind λx=>(F9 m g.1 x.1).bind λy=>(gm m (!(a==c)) y.1).bind λe=>some ((e.1.1,e.1.2.1,()),V2)
def oQ (a:Bool) (b:Bool) (c:LI) (d:Int) (f:Bool) (h:Bool) (i:LI) (j:Int):Option yy:=by apply(?_:ut (let e:=(zR m).bind λA=>some ((rg A.1),V2);(pZ m a b c d).bind λx=>(pZ m f h i j).bind λy=>bif x.1.1 then e else bif y.1.1 then e else(WM m x.1.2.1 x.1.2.2.1 y.1.2.1 y.1.2.2.1).bind λz=>(wv m z.1.1 z.1.2.1 (wI (x.1.2.2.2.1+y.1.2.2.2.1))).bind λB=>some ((rg B.1),V2)));dsimp only[rg];exact λg _=>g
def xM (a:Bool) (b:Bool) (c:LI) (d:Int) (f:Bool) (h:Bool) (i:LI) (j:Int):Option uu:=by apply(?_:ut ((MZ m 64).bind λe=>(pp (oQ m) e.1 a b c d).bind λx=>(MZ m 41).bind λy=>(pp (oQ m) y.1 f h i j).bind λz=>(pp (pp (kt m) x.1) z.1).bind λA=>some (!A.1,V2)));dsimp only[pp];exact λg _=>g
def sd:Nat->LI->Int->cP->Int->Option (O0⊕Unit⊕Empty)
 |0,_,_,_,_=>none
 |n+1,a,b,c,d=>by apply(?_:ut (let x(B:Int):=some (.inl ([B],true,()));let z(y:bA):=xM m y.1 y.2.1.1 y.2.1.2 y.2.2;bif decide (d<b)then(xN m a b c d).bind λD=>bif !D.1.2.1 then some (.inl ([],false,()))else(Bj m D.1.1 d).bind λA=>(pp (vc m) A.1.1).bind λH=>bif H.1==0 then x d else am D.1.1 d qz λe=>(pp (z e) A.1.1).bind λI=>bif I.1 then x d else bif decide (A.1.2.1>=b)then sd n a b c (wI (d+1))else(xN m a b c A.1.2.1).bind λE=>bif !E.1.2.1 then some (.inl ([],false,()))else(Bj m E.1.1 A.1.2.1).bind λG=>em D.1.1 d<|(pp (oQ m e.1 e.2.1.1 e.2.1.2 e.2.2) G.1.1).bind λJ=>(pp (pp (oQ m) A.1.1) A.1.1).bind λK=>(pp (pp (xM m) J.1) K.1).bind λL=>bif L.1 then x d else am E.1.1 A.1.2.1 qz λC=>(pp (z C) G.1.1).bind λF=>bif F.1 then x A.1.2.1 else some (.inl ([d,A.1.2.1],true,()))else some (.inr (.inl ()))));dsimp only[am,em,pp];exact λg _=>g
def WB (a:LI) (b:Int) (c:List c9):Option (O0×Unit×Unit):=(sd m m a b c 0).bind λ|.inl g=>some ((g.1,g.2.1,()),ul)|.inr (.inl x)=>some (([],true,()),ul)|.inr (.inr e)=>e.elim
def lx:Nat->LI->LI->Int->cP->LI->Int->cP->LI->Int->cP->Int->c9->Int->Option ((LI×iI×iI×iI×Int×c9×Unit)⊕Empty)
 |0,_,_,_,_,_,_,_,_,_,_,_,_,_=>none
 |n+1,a,b,c,d,f,h,i,j,k,l,o,p,q=>by apply(?_:ut (bif decide (q<(b.length:Int))then(lB m a q).bind λz=>bif decide (z.1<0)then am d o [] λx=>am x q qz λe=>gc p [(e.1,((e.2.1.1,e.2.1.2),e.2.2))] λy=>lx n a b c d f h i j k l o y (wI (q+1))else lx n a b c d f h i j k l o p (wI (q+1))else some (.inl (a,(b,c,d,()),(f,h,i,()),(j,k,l,()),o,p,()))));dsimp only[am,gc];exact λg _=>g
def ly:Nat->LI->LI->Int->cP->LI->Int->cP->LI->Int->cP->Int->Option ((iI×iI×Unit)⊕Empty)
 |0,_,_,_,_,_,_,_,_,_,_,_=>none
 |n+1,a,b,c,d,f,h,i,j,k,l,o=>by apply(?_:ut (bif decide (o<(b.length:Int))then(lB m a o).bind λz=>bif decide (z.1>=0)then ly n a b c d f h i j k l (wI (o+1))else em b o<|gc j [b.getD o.toNat 0] λy=>(lx m m a b c d f h i y k l o [] 0).bind λ|.inl x=>if 0<[x.2.2.2.2.2.1].length/\x.2.2.2.1.2.2.1.length+[x.2.2.2.2.2.1].length<=1073741824 then pm (pm (ly n x.1) x.2.1) x.2.2.1 x.2.2.2.1.1 x.2.2.2.1.2.1 (x.2.2.2.1.2.2.1++[x.2.2.2.2.2.1]) (wI (x.2.2.2.2.1+1))else none|.inr e=>e.elim else some (.inl ((f,h,i,()),(j,k,l,()),()))));dsimp only[em,gc,pm];exact λg _=>g
def FC (a:LI) (b:Int) (c:List c9) (d:LI):Option (iI×Unit×Unit×Unit):=(ly m m d a b c [] 0 [] [] (wI (b-(d.length:Int))) [] 0).bind λ|.inl g=>some ((g.2.1.1,g.2.1.2.1,g.2.1.2.2.1,()),V2)|.inr e=>e.elim
def Rz (m:Nat) (a:Int):Option o6:=bif a==0 then some (true,ul)else some (a==9223372036854775808,ul)
def uG (a:Int):Option jz:=(xK m a).bind λe=>some (wI (32-e.1),ul)
def kN (m:Nat):Nat->LI->Int->Int->LI->Int->Option q9
 |0,_,_,_,_,_=>none
 |n+1,a,b,c,d,f=>by apply(?_:ut (bif decide (f<=c)then em d f<|em a (wI (f+b))<|kN m n (a.set (0+(wI (f+b)).toNat) (d.getD (0+f.toNat) 0)) b c d (wI (f+1))else some (.inl (a,()))));dsimp only[em];exact λg _=>g
def jj (m:Nat):Nat->LI->LI->Int->Int->Int->LI->Int->Int->Int->Option ((LI×Int×Int×LI×Int×Unit)⊕Empty)
 |0,_,_,_,_,_,_,_,_,_=>none
 |n+1,a,b,c,d,f,h,i,j,k=>by apply(?_:ut (let x:=wJ ((wJ (a.getD (0+(wI (k+c)).toNat) 0))-i);let y(A:Int):=wJ (x-(qm .u64 (wJ (j+(wJ (d*(wJ A))))) 4294967295));let z:=wJ (x-(qm .u64 j 4294967295));bif decide (k<=f)then bif decide (k<f)then am b k 0 λe=>em a (wI (k+c))<|em h k<|jj m n a b c d f (h.set (0+k.toNat) (wK (y e))) (aJ .u64 (y e) 63) (aJ .u64 (wJ (j+(wJ (d*(wJ e))))) 32) (wI (k+1))else em a (wI (k+c))<|em h k<|jj m n a b c d f (h.set (0+k.toNat) (wK z)) (aJ .u64 z 63) (aJ .u64 j 32) (wI (k+1))else some (.inl (a,c,f,h,i,()))));dsimp only[am,em];exact λg _=>g
def xF (a:LI) (b:LI) (c:Int) (d:Int):Option (Bool×LI×Unit×Unit×Unit×Unit):=by apply(?_:ut (let x:=wI ((b.length:Int)+1);lc x<|(jj m m a b c d (b.length:Int) (List.replicate x.toNat (0:Int)) 0 0 0).bind λ|.inl y=>(bif y.2.2.2.2.1 !=0 then some (false,(y.1,(),(),(),()))else(pp (kN m m) y 0).bind λ|.inl z=>some (true,(z.1,(),(),(),()))|.inr e=>e.elim)|.inr e=>e.elim));dsimp only[lc,pp];exact λg _=>g
def np:Nat->Int->Int->LI->LI->LI->Int->Int->Option ((Int×Int×LI×LI×LI×Int×Int×Unit)⊕Empty)
 |0,_,_,_,_,_,_,_=>none
 |n+1,a,b,c,d,f,h,i=>(xF m c d h i).bind λe=>bif !e.1 then np n a b e.2.1 d f h (wJ (i-1))else some (.inl (a,b,e.2.1,d,f,h,i,()))
def jm:Nat->Int->Int->LI->LI->LI->Int->Option ((Int×LI×LI×Unit)⊕Empty)
 |0,_,_,_,_,_,_=>none
 |n+1,a,b,c,d,f,h=>by apply(?_:ut (let x:=wJ (d.getD (0+(wI (a-1)).toNat) 0);let y:=wJ (Int.tdiv (bf .u64 (bE .u64 (wJ (c.getD (0+(wI (h+a)).toNat) 0)) 32) (wJ (c.getD (0+(wI ((wI (h+a))-1)).toNat) 0))) x);bif decide (h>=0)then em c (wI (h+a))<|em c (wI ((wI (h+a))-1))<|em d (wI (a-1))<|if x≠0 then(np m m a b c d f h (if 4294967295<y then 4294967295 else y)).bind λ|.inl z=>em z.2.2.2.2.1 z.2.2.2.2.2.1<|jm n z.1 z.2.1 z.2.2.1 z.2.2.2.1 (z.2.2.2.2.1.set (0+z.2.2.2.2.2.1.toNat) (wK z.2.2.2.2.2.2.1)) (wI (z.2.2.2.2.2.1-1))|.inr e=>e.elim else none else some (.inl (b,c,f,()))));dsimp only[em];exact λg _=>g
def At (a:LI) (b:LI):Option tm1:=by apply(?_:ut (let x:=wI ((a.length:Int)-(b.length:Int));let y(z:Int)(A:LI)(B:LI):=lc (wI (x+1))<|(jm m m (b.length:Int) z A (B.take (b.length:Int).toNat) (List.replicate (wI (x+1)).toNat (0:Int)) x).bind λ|.inl F=>(gS m F.2.1).bind λJ=>(te m J.1 F.1).bind λK=>(gS m F.2.2.1).bind λL=>(gS m K.1.1).bind λG=>some ((L.1,G.1,()),V2)|.inr e=>e.elim;(BB m a b).bind λM=>bif decide (M.1<0)then some (([],a,()),V2)else am b (wI ((b.length:Int)-1)) 0 λC=>(uG m C).bind λE=>(qB m a E.1).bind λH=>(qB m b E.1).bind λI=>if(0:Int)<=0/\0<=(b.length:Int)/\(b.length:Int)<=(I.1.length:Int)then bif(H.1.length:Int)==(a.length:Int)then gc H.1 [0] λD=>y E.1 D I.1 else y E.1 H.1 I.1 else none));dsimp only[am,gc,lc];exact λg _=>g
def xJ (a:Bool) (b:LI) (c:Bool) (d:LI):Option ((oH×oH×Unit)×Unit×Unit×Unit):=(oR m a b).bind λC=>(oR m c d).bind λx=>(At m C.1.2.1 x.1.2.1).bind λD=>(gm m (!(C.1.1==x.1.1)) D.1.1).bind λe=>(gm m C.1.1 D.1.2.1).bind λg=>(iy m g.1.1 g.1.2.1).bind λG=>bif decide (G.1<0)then(Do m x.1.1 x.1.2.1).bind λE=>(gz m g.1.1 g.1.2.1 E.1.1 E.1.2.1).bind λB=>bif x.1.1 then(ij m 1).bind λF=>(gz m e.1.1 e.1.2.1 F.1.1 F.1.2.1).bind λy=>some (((y.1.1,y.1.2.1,()),(B.1.1,B.1.2.1,()),()),V2)else(ij m 1).bind λz=>(xR m e.1.1 e.1.2.1 z.1.1 z.1.2.1).bind λA=>some (((A.1.1,A.1.2.1,()),(B.1.1,B.1.2.1,()),()),V2)else some (((e.1.1,e.1.2.1,()),(g.1.1,g.1.2.1,()),()),V2)
def FW (a:Bool) (b:LI) (c:Bool) (d:LI) (f:Int):Option (th1×Unit×Unit×Unit×Unit):=(vb m c d).bind λe=>(vb m a b).bind λg=>(wm m a b (if 0>(wI ((wI ((wI (f+2))+e.1))-g.1))then 0 else(wI ((wI ((wI (f+2))+e.1))-g.1)))).bind λy=>(xJ m y.1.1 y.1.2.1 c d).bind λx=>(iy m x.1.2.1.1 x.1.2.1.2.1).bind λz=>some (((x.1.1.1,x.1.1.2.1,()),wI (0-(if 0>(wI ((wI ((wI (f+2))+e.1))-g.1))then 0 else(wI ((wI ((wI (f+2))+e.1))-g.1)))),z.1 !=0,()),u4)
def WK (a:Bool) (b:Bool) (c:LI) (d:Int) (f:Bool) (h:Bool) (i:LI) (j:Int) (k:Int):Option NI:=by apply(?_:ut (let e:=some (9221120237041090560,u4);(pZ m a b c d).bind λx=>(pZ m f h i j).bind λy=>bif x.1.1 then e else bif y.1.1 then e else(iy m y.1.2.1 y.1.2.2.1).bind λC=>bif C.1==0 then e else(iy m x.1.2.1 x.1.2.2.1).bind λD=>bif D.1==0 then some (0,u4)else(Do m x.1.2.1 x.1.2.2.1).bind λA=>(Do m y.1.2.1 y.1.2.2.1).bind λB=>(FW m A.1.1 A.1.2.1 B.1.1 B.1.2.1 60).bind λz=>(Bw m (!(x.1.2.1==y.1.2.1)) z.1.1.1 z.1.1.2.1 (wI ((wI (x.1.2.2.2.1-y.1.2.2.2.1))+z.1.2.1)) z.1.2.2.1 k).bind λE=>some (E.1,u4)));dsimp only;exact λg _=>g
def oS (a:Bool) (b:Bool) (c:LI) (d:Int) (f:Bool) (h:Bool) (i:LI) (j:Int):Option i7:=(WK m a b c d f h i j 0).bind λe=>some (e.1,V2)
def Rr (a:Bool) (b:Bool) (c:LI) (d:Int):Option xk:=by apply(?_:ut ((pZ m a b c d).bind λe=>bif e.1.1 then some ((rg e.1),ul)else(BC m e.1.2.1 e.1.2.2.1).bind λx=>(wv m x.1.1 x.1.2.1 e.1.2.2.2.1).bind λy=>some ((rg y.1),ul)));dsimp only[rg];exact λg _=>g
def sX (a:Bool) (b:Bool) (c:LI) (d:Int) (f:Bool) (h:Bool) (i:LI) (j:Int):Option yy:=by apply(?_:ut ((Rr m f h i j).bind λe=>(pp (oO m a b c d) e.1).bind λx=>some ((rg x.1),V2)));dsimp only[pp,rg];exact λg _=>g
def oT (a:Int) (b:Int):Option yy:=by apply(?_:ut ((gk m a).bind λe=>(gk m b).bind λx=>(pp (pp (oQ m) e.1) x.1).bind λy=>some ((rg y.1),V2)));dsimp only[pp,rg];exact λg _=>g
def tk (a:LI):Option xk:=by apply(?_:ut (if(0:Int)<=0/\0<(a.length:Int)then if(0:Int)<=2/\2<(a.length:Int)then(oT m (a.getD 0 0) (a.getD 2 0)).bind λe=>if(0:Int)<=1/\1<(a.length:Int)then if(0:Int)<=1/\1<(a.length:Int)then(oT m (a.getD 1 0) (a.getD 1 0)).bind λx=>(pp (pp (sX m) e.1) x.1).bind λy=>some ((rg y.1),ul)else none else none else none else none));dsimp only[pp,rg];exact λg _=>g
def Bf (a:LI) (b:LI) (c:LI) (d:List LI) (f:LI) (h:Int) (i:List c9) (j:LI) (k:Int):Option tn1:=by apply(?_:ut (let x(y:bA)(C:mu):=pp (oQ m y.1 y.2.1.1 y.2.1.2 y.2.2) C;let z:=vm;am i k [] λA=>if(0:Int)<=0/\0<(j.length:Int)then am A (j.getD 0 0) qz λe=>bif(j.length:Int)==1 then if(0:Int)<=0/\0<(b.length:Int)then(Rz m (b.getD 0 0)).bind λL=>bif L.1 then some (([0]:LI),z)else if(0:Int)<=0/\0<(b.length:Int)then(gk m (b.getD 0 0)).bind λM=>(pp (oS m e.1 e.2.1.1 e.2.1.2 e.2.2) M.1).bind λN=>some ([N.1],z)else none else none else em i k<|if(0:Int)<=1/\1<(j.length:Int)then am A (j.getD 1 0) qz λB=>if(0:Int)<=0/\0<(b.length:Int)then(gk m (b.getD 0 0)).bind λP=>if(0:Int)<=1/\1<(b.length:Int)then(gk m (b.getD 1 0)).bind λK=>if(0:Int)<=2/\2<(b.length:Int)then(gk m (b.getD 2 0)).bind λQ=>(x e Q.1).bind λR=>(x B K.1).bind λS=>(pp (pp (sX m) R.1) S.1).bind λT=>(x B P.1).bind λD=>(x e K.1).bind λE=>(pp (pp (sX m) D.1) E.1).bind λF=>(tk m b).bind λG=>(pp (pp (oS m) T.1) G.1).bind λH=>(tk m b).bind λI=>(pp (pp (oS m) F.1) I.1).bind λJ=>some ([H.1,J.1],z)else none else none else none else none else none));dsimp only[am,em,pp];exact λg _=>g
def Fz (a:LI) (b:LI) (c:LI) (d:List LI) (f:Int) (h:Int):Option (mu×Unit×Unit×Unit×Unit):=by apply(?_:ut (let e(x:mu)(y:mu):=pp (pp (oQ m) x) y;if(0:Int)<=0/\0<(d.length:Int)then am (d.getD 0 []) f 0 λz=>(gk m z).bind λM=>if(0:Int)<=0/\0<(d.length:Int)then am (d.getD 0 []) h 0 λA=>(gk m A).bind λN=>if(0:Int)<=0/\0<(b.length:Int)then(gk m (b.getD 0 0)).bind λT=>(e M.1 T.1).bind λU=>(e U.1 N.1).bind λP=>bif(a.length:Int)==2 then if(0:Int)<=1/\1<(d.length:Int)then am (d.getD 1 []) f 0 λB=>(gk m B).bind λQ=>if(0:Int)<=1/\1<(d.length:Int)then am (d.getD 1 []) h 0 λC=>(gk m C).bind λR=>if(0:Int)<=1/\1<(b.length:Int)then(gk m (b.getD 1 0)).bind λS=>if(0:Int)<=2/\2<(b.length:Int)then(gk m (b.getD 2 0)).bind λV=>(e M.1 S.1).bind λD=>(e D.1 R.1).bind λE=>(pp (pp (oO m) P.1) E.1).bind λF=>(e Q.1 S.1).bind λG=>(e G.1 N.1).bind λH=>(pp (pp (oO m) F.1) H.1).bind λI=>(e Q.1 V.1).bind λJ=>(e J.1 R.1).bind λK=>(pp (pp (oO m) I.1) K.1).bind λL=>some ((rg L.1),u4)else none else none else none else none else some ((rg P.1),u4)else none else none else none));dsimp only[am,pp,rg];exact λg _=>g
def r9:Nat->LI->Int->cP->LI->LI->LI->List LI->LI->Int->cP->LI->LI->LI->List LI->Int->Int->Option ((iI×CT×iI×CT×Int×Unit)⊕Empty)
 |0,_,_,_,_,_,_,_,_,_,_,_,_,_,_,_,_=>none
 |n+1,a,b,c,d,f,h,i,j,k,l,o,p,q,r,s,t=>by apply(?_:ut (bif decide (t<(j.length:Int))then am l s [] λx=>em l s<|am x t qz λe=>(Fz m o p q r s t).bind λz=>(pp (sX m e.1 e.2.1.1 e.2.1.2 e.2.2) z.1).bind λy=>em x t<|r9 n a b c d f h i j k (l.set s.toNat (x.set t.toNat (y.1.1,((y.1.2.1,y.1.2.2.1),y.1.2.2.2.1)))) o p q r s (wI (t+1))else some (.inl ((a,b,c,()),(d,f,h,i,()),(j,k,l,()),(o,p,q,r,()),s,()))));dsimp only[am,em,pp];exact λg _=>g
def mX:Nat->LI->Int->cP->LI->LI->LI->List LI->LI->Int->cP->LI->LI->LI->List LI->Int->Option (tH⊕Empty)
 |0,_,_,_,_,_,_,_,_,_,_,_,_,_,_,_=>none
 |n+1,a,b,c,d,f,h,i,j,k,l,o,p,q,r,s=>by apply(?_:ut (bif decide (s<(j.length:Int))then(r9 m m a b c d f h i j k l o p q r s 0).bind λ|.inl x=>pp (pm (pp (pm (mX n) x.1) x.2.1) x.2.2.1) x.2.2.2.1 (wI (x.2.2.2.2.1+1))|.inr e=>e.elim else some (.inl ((a,b,c,()),(d,f,h,i,()),(j,k,l,()),(o,p,q,r,()),()))));dsimp only[pm,pp];exact λg _=>g
def px:Nat->LI->LI->Int->cP->LI->Int->cP->LI->LI->LI->List LI->LI->Int->cP->LI->LI->LI->List LI->Int->LI->Int->Option (tJ⊕(LI×iI×iI×CT×iI×CT×Int×Unit)⊕Empty)
 |0,_,_,_,_,_,_,_,_,_,_,_,_,_,_,_,_,_,_,_,_,_=>none
 |n+1,a,b,c,d,f,h,i,j,k,l,o,p,q,r,s,t,u,v,w,z,e=>by apply(?_:ut (bif decide (e<(z.length:Int))then em z e<|(wz m (z.getD (0+e.toNat) 0)).bind λA=>bif !A.1 then some (.inl ((p,q,r,()),(s,t,u,v,()),false,()))else am v e [] λx=>em z e<|gc x [z.getD (0+e.toNat) 0] λy=>em v e<|if e.toNat=e.toNat then px n a b c d f h i j k l o p q r s t u (v.set e.toNat y) w z (wI (e+1))else none else some (.inr (.inl (a,(b,c,d,()),(f,h,i,()),(j,k,l,o,()),(p,q,r,()),(s,t,u,v,()),w,())))));dsimp only[em,am,gc];exact λg _=>g
def iT:Nat->LI->LI->Int->cP->LI->Int->cP->LI->LI->LI->List LI->LI->Int->cP->LI->LI->LI->List LI->Int->Option (tJ⊕tH⊕Empty)
 |0,_,_,_,_,_,_,_,_,_,_,_,_,_,_,_,_,_,_,_=>none
 |n+1,a,b,c,d,f,h,i,j,k,l,o,p,q,r,s,t,u,v,w=>by apply(?_:ut (bif decide (w<(b.length:Int))then(lB m a w).bind λz=>bif decide (z.1>=0)then iT n a b c d f h i j k l o p q r s t u v (wI (w+1))else(Bf m s t u v b c d a w).bind λA=>(px m m a b c d f h i j k l o p q r s t u v w A.1 0).bind λ|.inl y=>some (.inl ((rc y.1),(rg y.2.1),y.2.2.1,()))|.inr (.inl x)=>pp (pm (pp (pm (pm (iT n x.1) x.2.1) x.2.2.1) x.2.2.2.1) x.2.2.2.2.1) x.2.2.2.2.2.1 (wI (x.2.2.2.2.2.2.1+1))|.inr (.inr e)=>e.elim else some (.inr (.inl ((f,h,i,()),(j,k,l,o,()),(p,q,r,()),(s,t,u,v,()),())))));dsimp only[rc,rg,pm,pp];exact λg _=>g
def sb (m:Nat):Nat->LI->LI->Int->cP->LI->Int->cP->LI->LI->LI->List LI->LI->Int->cP->LI->LI->LI->List LI->Int->Option ((LI×iI×iI×CT×iI×CT×Unit)⊕Empty)
 |0,_,_,_,_,_,_,_,_,_,_,_,_,_,_,_,_,_,_,_=>none
 |n+1,a,b,c,d,f,h,i,j,k,l,o,p,q,r,s,t,u,v,w=>by apply(?_:ut (bif decide (w<(a.length:Int))then am a w 0 λe=>em b e<|gc s [b.getD e.toNat 0] λx=>if 0<([[]]:List LI).length/\v.length+([[]]:List LI).length<=1073741824 then sb m n a b c d f h i j k l o p q r x t u (v++([[]]:List LI)) (wI (w+1))else none else some (.inl (a,(b,c,d,()),(f,h,i,()),(j,k,l,o,()),(p,q,r,()),(s,t,u,v,()),()))));dsimp only[am,em,gc];exact λg _=>g
def Q4 (a:LI) (b:Int) (c:List c9) (d:LI):Option (tJ×Unit×Unit×Unit):=by apply(?_:ut (let B(y:iI×CT×iI×CT×Unit):=(pp (pm (pp (pm (mX m m) y.1) y.2.1) y.2.2.1) y.2.2.2.1 0).bind λ|.inl J=>some (((rc J.2.2.1),(rg J.2.2.2.1),true,()),V2)|.inr e=>e.elim;let A(z:bA):=CG m z.1 z.2.1.1 z.2.1.2 z.2.2;(FC m a b c d).bind λM=>(pm (sb m m d a b c [] 0 [] [] [] [] []) M.1 [] [] M.1.1 [] 0).bind λ|.inl x=>if(0:Int)<=0/\0<(x.1.length:Int)then am x.2.1.2.2.1 (x.1.getD 0 0) [] λD=>if(0:Int)<=0/\0<(x.1.length:Int)then am D (x.1.getD 0 0) qz λE=>(A E).bind λN=>bif(x.1.length:Int)==2 then if(0:Int)<=1/\1<(x.1.length:Int)then am x.2.1.2.2.1 (x.1.getD 1 0) [] λC=>if(0:Int)<=0/\0<(x.1.length:Int)then am C (x.1.getD 0 0) qz λF=>(A F).bind λP=>if(0:Int)<=1/\1<(x.1.length:Int)then em x.2.1.2.2.1 (x.1.getD 1 0)<|if(0:Int)<=1/\1<(x.1.length:Int)then am C (x.1.getD 1 0) qz λG=>(A G).bind λQ=>gc [N.1] [P.1,Q.1] λH=>(pm (pp (pm (pm (iT m m x.1) x.2.1) x.2.2.1) x.2.2.2.1) x.2.2.2.2.1 x.2.2.2.2.2.1.1 H x.2.2.2.2.2.1.2.2.1 x.2.2.2.2.2.1.2.2.2.1 0).bind λ|.inl K=>some (((rc K.1),(rg K.2.1),K.2.2.1,()),V2)|.inr (.inl R)=>B R|.inr (.inr e)=>e.elim else none else none else none else none else(pm (pp (pm (pm (iT m m x.1) x.2.1) x.2.2.1) x.2.2.2.1) x.2.2.2.2.1 x.2.2.2.2.2.1.1 [N.1] x.2.2.2.2.2.1.2.2.1 x.2.2.2.2.2.1.2.2.2.1 0).bind λ|.inl I=>some (((rc I.1),(rg I.2.1),I.2.2.1,()),V2)|.inr (.inl L)=>B L|.inr (.inr e)=>e.elim else none else none|.inr e=>e.elim));dsimp only[am,em,gc,pm,pp,rc,rg];exact λg _=>g
def rT (m:Nat):Nat->uo->LI->LI->LI->LI->LI->LI->Int->LI->LI->LI->LI->LI->LI->LI->Int->Int->Int->LI->LI->Int->Int->Int->Option ((uo×iH×LI×iH×Int×Int×LI×LI×Int×Int×Int×Unit)⊕Empty)
 |0,_,_,_,_,_,_,_,_,_,_,_,_,_,_,_,_,_,_,_,_,_,_,_=>none
 |n+1,a,b,c,d,f,h,i,j,k,l,o,p,q,r,s,t,u,v,w,z,A,y,x=>by apply(?_:ut (let e:=(a,(b,c,d,f,h,i,j,()),k,(l,o,p,q,r,s,t,()),u,v,w,z,A,y,x,());bif decide (x<(w.length:Int))then em w x<|bif decide ((w.getD (0+x.toNat) 0)<y)then rT m n a b c d f h i j k l o p q r s t u v w z A y (wI (x+1))else some (.inl e)else some (.inl e)));dsimp only[em];exact λg _=>g
def rU:Nat->uo->LI->LI->LI->LI->LI->LI->Int->LI->LI->LI->LI->LI->LI->LI->Int->Int->Int->LI->LI->Int->Option ((uo×iH×LI×iH×Int×Int×LI×LI×Unit)⊕Empty)
 |0,_,_,_,_,_,_,_,_,_,_,_,_,_,_,_,_,_,_,_,_,_=>none
 |n+1,a,b,c,d,f,h,i,j,k,l,o,p,q,r,s,t,u,v,w,J,I=>by apply(?_:ut (am a u ([],([],([],[]))) λy=>bif decide (I<(y.2.2.1.length:Int))then em a u<|am y.2.2.1 I 0 λz=>em k z<|(rT m m a b c d f h i j k l o p q r s t u v w J I (k.getD (0+z.toNat) 0) 0).bind λ|.inl x=>if(0:Int)<=0/\0<=x.2.2.2.2.2.2.2.2.2.2.1/\x.2.2.2.2.2.2.2.2.2.2.1<=(x.2.2.2.2.2.2.1.length:Int)then gc [] ((x.2.2.2.2.2.2.1.drop 0).take (x.2.2.2.2.2.2.2.2.2.2.1.toNat-0)) λB=>gc B [x.2.2.2.2.2.2.2.2.2.1] λC=>if 0<=x.2.2.2.2.2.2.2.2.2.2.1/\x.2.2.2.2.2.2.2.2.2.2.1<=(x.2.2.2.2.2.2.1.length:Int)/\(x.2.2.2.2.2.2.1.length:Int)<=(x.2.2.2.2.2.2.1.length:Int)then gc C ((x.2.2.2.2.2.2.1.drop (0+x.2.2.2.2.2.2.2.2.2.2.1.toNat)).take (x.2.2.2.2.2.2.1.length-x.2.2.2.2.2.2.2.2.2.2.1.toNat)) λD=>if(0:Int)<=0/\0<=x.2.2.2.2.2.2.2.2.2.2.1/\x.2.2.2.2.2.2.2.2.2.2.1<=(x.2.2.2.2.2.2.2.1.length:Int)then gc [] ((x.2.2.2.2.2.2.2.1.drop 0).take (x.2.2.2.2.2.2.2.2.2.2.1.toNat-0)) λE=>am x.1 x.2.2.2.2.1 ([],([],([],[]))) λF=>am F.2.2.2 x.2.2.2.2.2.1 [] λA=>em A x.2.2.2.2.2.2.2.2.1<|gc E [A.getD x.2.2.2.2.2.2.2.2.1.toNat 0] λG=>if 0<=x.2.2.2.2.2.2.2.2.2.2.1/\x.2.2.2.2.2.2.2.2.2.2.1<=(x.2.2.2.2.2.2.2.1.length:Int)/\(x.2.2.2.2.2.2.2.1.length:Int)<=(x.2.2.2.2.2.2.2.1.length:Int)then gc G ((x.2.2.2.2.2.2.2.1.drop (0+x.2.2.2.2.2.2.2.2.2.2.1.toNat)).take (x.2.2.2.2.2.2.2.1.length-x.2.2.2.2.2.2.2.2.2.2.1.toNat)) λH=>pm (qr (qr (rU n x.1) x.2.1 x.2.2.1)) x.2.2.2 D H (wI (x.2.2.2.2.2.2.2.2.1+1))else none else none else none else none|.inr e=>e.elim else some (.inl (a,(b,c,d,f,h,i,j,()),k,(l,o,p,q,r,s,t,()),u,v,w,J,()))));dsimp only[am,em,gc,qr,pm,-dreduceIte];exact λg _=>g
def rV:Nat->uo->LI->LI->LI->LI->LI->LI->Int->LI->LI->LI->LI->LI->LI->LI->Int->Int->Int->Option ((uo×iH×LI×iH×Int×Unit)⊕Empty)
 |0,_,_,_,_,_,_,_,_,_,_,_,_,_,_,_,_,_,_=>none
 |n+1,a,b,c,d,f,h,i,j,k,l,o,p,q,r,s,t,u,v=>by apply(?_:ut (am a u ([],([],([],[]))) λz=>bif decide (v<(z.1.length:Int))then(rU m m a b c d f h i j k l o p q r s t u v [] [] 0).bind λ|.inl x=>gc x.2.2.2.1.2.2.2.2.1 x.2.2.2.2.2.2.1 λy=>gc x.2.2.2.1.2.2.2.2.2.1 x.2.2.2.2.2.2.2.1 λA=>gc x.2.2.2.1.2.2.2.1 [(y.length:Int)] λB=>pm (qr (rV n x.1) x.2.1 x.2.2.1) x.2.2.2.1 B y A x.2.2.2.1.2.2.2.2.2.2.1 x.2.2.2.2.1 (wI (x.2.2.2.2.2.1+1))|.inr e=>e.elim else some (.inl (a,(b,c,d,f,h,i,j,()),k,(l,o,p,q,r,s,t,()),u,()))));dsimp only[am,gc,qr,pm];exact λg _=>g
def rW:Nat->uo->LI->LI->LI->LI->LI->LI->Int->LI->LI->LI->LI->LI->LI->LI->Int->Int->Option ((iH×iH×Unit)⊕Empty)
 |0,_,_,_,_,_,_,_,_,_,_,_,_,_,_,_,_,_=>none
 |n+1,a,b,c,d,f,h,i,j,k,l,o,p,q,r,s,t,u=>by apply(?_:ut (bif decide (u<(a.length:Int))then(rV m m a b c d f h i j k l o p q r s t u 0).bind λ|.inl x=>qr (qr (rW n x.1) x.2.1 x.2.2.1) x.2.2.2.1 (wI (x.2.2.2.2.1+1))|.inr e=>e.elim else some (.inl ((b,c,d,f,h,i,j,()),(l,o,p,q,r,s,t,()),()))));dsimp only[qr];exact λg _=>g
def rZ (m:Nat):Nat->LI->uo->LI->LI->LI->LI->LI->LI->Int->LI->LI->LI->LI->LI->LI->LI->Int->Int->Int->Option ((LI×uo×iH×LI×iH×Int×Unit)⊕Empty)
 |0,_,_,_,_,_,_,_,_,_,_,_,_,_,_,_,_,_,_,_=>none
 |n+1,a,b,c,d,f,h,i,j,k,l,o,p,q,r,s,t,u,v,w=>by apply(?_:ut (am b v ([],([],([],[]))) λx=>bif decide (w<(x.1.length:Int))then em b v<|am x.1 w 0 λe=>em l e<|em b v<|em x.1 w<|em a e<|gc o [a.getD e.toNat 0] λy=>rZ m n a b c d f h i j k (l.set (0+e.toNat) (o.length:Int)) y p q r s t u v (wI (w+1))else some (.inl (a,b,(c,d,f,h,i,j,k,()),l,(o,p,q,r,s,t,u,()),v,()))));dsimp only[am,em,gc];exact λg _=>g
def r8:Nat->LI->uo->LI->LI->LI->LI->LI->LI->Int->LI->LI->LI->LI->LI->LI->LI->Int->Int->Option ((uo×iH×LI×iH×Unit)⊕Empty)
 |0,_,_,_,_,_,_,_,_,_,_,_,_,_,_,_,_,_,_=>none
 |n+1,a,b,c,d,f,h,i,j,k,l,o,p,q,r,s,t,u,v=>by apply(?_:ut (bif decide (v<(b.length:Int))then(rZ m m a b c d f h i j k l o p q r s t u v 0).bind λ|.inl x=>am x.2.1 x.2.2.2.2.2.1 ([],([],([],[]))) λy=>gc x.2.2.2.2.1.2.1 [(y.1.length:Int)] λz=>em x.2.1 x.2.2.2.2.2.1<|gc x.2.2.2.2.1.2.2.1 y.2.1 λA=>pp (qr (r8 n x.1 x.2.1) x.2.2.1 x.2.2.2.1 x.2.2.2.2.1.1 z A) x.2.2.2.2.1.2.2.2 (wI (x.2.2.2.2.2.1+1))|.inr e=>e.elim else some (.inl (b,(c,d,f,h,i,j,k,()),l,(o,p,q,r,s,t,u,()),()))));dsimp only[am,gc,em,qr,pp];exact λg _=>g
def WA (a:LI) (b:List yz) (c:Int):Option (iH×Unit×Unit×Unit×Unit):=by apply(?_:ut (lc (a.length:Int)<|(r8 m m a b [] [] [] [] [] [] 0 (List.replicate (a.length:Int).toNat (0:Int)) [] [] [] ([0]:LI) [] [] c 0).bind λ|.inl x=>((qr (qr (rW m m x.1) x.2.1 x.2.2.1) x.2.2.2.1 0).bind λ|.inl y=>some ((rx y.2.1),u4)|.inr e=>e.elim)|.inr e=>e.elim));dsimp only[lc,qr,rx];exact λg _=>g
def iV:Nat->LI->gy->Int->Int->LI->LI->LI->LI->LI->LI->LI->LI->LI->Int->qP->uo->Int->Bool->Int->LI->Int->cP->Option ((LI×gy×mq×iH×qP×uo×Int×Bool×Int×iI×Unit)⊕Empty)
 |0,_,_,_,_,_,_,_,_,_,_,_,_,_,_,_,_,_,_,_,_,_,_=>none
 |n+1,a,b,c,d,f,h,i,j,k,l,o,p,q,r,s,t,u,v,w,C,D,E=>by apply(?_:ut (let x(e:tJ):=gc t [(e.2.1.1,(e.2.1.2.1,(e.2.1.2.2.1,e.2.1.2.2.2.1)))] λz=>pm (iV n a b c d f h i j k l o p q r s z u true w) e.1;let y:=(a,b,(c,d,f,h,i,()),(j,k,l,o,p,q,r,()),s,t,u,v,w,(C,D,E,()),());bif !v then(WB m C D E).bind λF=>bif !F.1.2.1 then bif(F.1.1.length:Int)==0 then some (.inl (a,b,(c,d,f,h,i,()),(j,k,l,o,p,q,r,()),s,t,u,true,w,(C,D,E,()),()))else(Q4 m C D E F.1.1).bind λG=>bif !G.1.2.2.1 then x G.1 else x G.1 else bif(F.1.1.length:Int)==0 then some (.inl y)else(Q4 m C D E F.1.1).bind λA=>bif !A.1.2.2.1 then x A.1 else gc t [(A.1.2.1.1,(A.1.2.1.2.1,(A.1.2.1.2.2.1,A.1.2.1.2.2.2.1)))] λB=>pm (iV n a b c d f h i j k l o p q r s B u v w) A.1.1 else some (.inl y)));dsimp only[gc,pm,-dreduceIte];exact λg _=>g
def pE:Nat->LI->gy->Int->Int->LI->LI->LI->LI->LI->LI->LI->LI->LI->Int->qP->uo->Int->Bool->Int->Option (tR1⊕(LI×iH×uo×Int×Unit)⊕Empty)
 |0,_,_,_,_,_,_,_,_,_,_,_,_,_,_,_,_,_,_,_=>none
 |n+1,a,b,c,d,f,h,i,j,k,l,o,p,q,r,s,t,u,v,w=>by apply(?_:ut (let y:=([],[],[],[],[],[],0,());bif decide (w<(b.length:Int))then(WC m c d f h i a b w s).bind λA=>bif decide ((A.1.1.length:Int)>64)then some (.inl (y,6,()))else(pm (iV m m a b c d f h i j k l o p q r A.2.2.2.2.2.1 t u v w) A.1).bind λ|.inl x=>bif x.2.2.2.2.2.2.2.1 then some (.inl (y,233,()))else gc x.2.2.2.2.1 [(x.2.2.2.2.2.2.2.2.2.1.1,(x.2.2.2.2.2.2.2.2.2.1.2.1,x.2.2.2.2.2.2.2.2.2.1.2.2.1))] λz=>qr (pu (pE n x.1 x.2.1) x.2.2.1) x.2.2.2.1 z x.2.2.2.2.2.1 (wI (x.2.2.2.2.2.2.1+x.2.2.2.2.2.2.2.2.2.1.2.1)) x.2.2.2.2.2.2.2.1 (wI (x.2.2.2.2.2.2.2.2.1+1))|.inr e=>e.elim else some (.inr (.inl (a,(j,k,l,o,p,q,r,()),t,u,())))));dsimp only[gc,pm,pu,qr];exact λg _=>g
def Ou (a:Int) (b:Int) (c:LI) (d:LI) (f:LI) (h:LI) (i:List gA):Option (tR1×Unit×Unit×Unit×Unit):=by apply(?_:ut ((L9 m a b c d f h i).bind λy=>bif y.1 !=0 then some ((([],[],[],[],[],[],0,()),y.1,()),u4)else(pE m m h i a b c d f [] [] [] [] [] [] 0 [] [] 0 false 0).bind λ|.inl z=>some (((rx z.1),z.2.1,()),u4)|.inr (.inl x)=>(WA m x.1 x.2.2.1 x.2.2.2.1).bind λA=>some (((rx A.1),0,()),u4)|.inr (.inr e)=>e.elim));dsimp only[rx];exact λg _=>g
def s5:Nat->LI->Int->Int->Int->LI->Int->Option q9
 |0,_,_,_,_,_,_=>none
 |n+1,a,b,c,d,f,h=>bif decide (h<c)then(D6 m a (wI (b+h))).bind λg=>(Rv m g.1 d).bind λe=>if f.length+[e.1].length<=1073741824 then s5 n a b c d (f++[e.1]) (wI (h+1))else none else some (.inl (f,()))
def Ow (a:LI) (b:Int) (c:Int) (d:Int):Option tn1:=(s5 m m a b c d [] 0).bind λ|.inl g=>some (g.1,vm)|.inr e=>e.elim
def cR (a:LI) (b:Int) (c:Int) (d:Bool):Option ((iH×LI×Unit)×Unit×Unit×Unit×Unit×Unit):=by apply(?_:ut (let e(y:Int)(x:mq):=(Sw m a y).bind λA=>(pu (Mv m) x A.1 a).bind λC=>(pu (Ou m) x A.1 C.1).bind λB=>(Ow m a 30 (B.1.1.1.length:Int) c).bind λD=>some (((rx B.1.1),D.1,()),vm);(CI m b 5).bind λz=>(RH m a z.1 z.1 c).bind λE=>bif d then(WO m a z.1 c).bind λF=>e z.1 F.1 else e z.1 E.1));dsimp only[pu,rx];exact λg _=>g
def lp (m:Nat):Nat->LI->List Bool->LI->Int->Int->Option qW
 |0,_,_,_,_,_=>none
 |n+1,a,b,c,d,f=>by apply(?_:ut (let x:=some (.inl (false,()));bif decide (f<d)then am c f 0 λe=>bif decide (e<0)then x else bif decide (e>=(a.length:Int))then x else em b e<|bif b.getD (0+e.toNat) false then x else em b e<|lp m n a (b.set (0+e.toNat) true) c d (wI (f+1))else some (.inr (.inl ()))));dsimp only[am,em];exact λg _=>g
def Fc (a:LI):Option o6:=by apply(?_:ut (lc (a.length:Int)<|(lp m m a (List.replicate (a.length:Int).toNat false) a (a.length:Int) 0).bind λ|.inl x=>some (x.1,ul)|.inr (.inl y)=>some (true,ul)|.inr (.inr e)=>e.elim));dsimp only[lc];exact λg _=>g
def gP (m:Nat):Nat->LI->LI->LI->LI->LI->LI->Int->LI->Int->Int->LI->Int->Int->Option (O0⊕(iH×LI×Int×Int×Unit)⊕Empty)
 |0,_,_,_,_,_,_,_,_,_,_,_,_,_=>none
 |n+1,a,b,c,d,f,h,i,j,k,l,o,p,q=>by apply(?_:ut (let x(y:Int):=bif decide (k>=(a.length:Int))then some (.inl ([],false,()))else gc j [k] λz=>gP m n a b c d f h i z (wI (k+y)) (wI (l+(wI ((wI (2*y))-1)))) o p (wI (q+1));bif decide (q<p)then am o q 0 λe=>bif e !=1 then bif e !=2 then some (.inl ([],false,()))else x e else x e else some (.inr (.inl ((a,b,c,d,f,h,i,()),j,k,l,())))));dsimp only[am,gc];exact λg _=>g
def Fa (a:LI) (b:LI) (c:LI) (d:LI) (f:LI) (h:LI) (i:Int):Option (O0×Unit×Unit):=(gP m m a b c d f h i [] 0 0 b (b.length:Int) 0).bind λ|.inl x=>some ((x.1,x.2.1,()),ul)|.inr (.inl g)=>bif g.2.2.1==(g.1.1.length:Int)then some ((g.2.1,g.2.2.2.1==(g.1.2.2.1.length:Int),()),ul)else some ((g.2.1,false,()),ul)|.inr (.inr e)=>e.elim
def nT (m:Nat):Nat->LI->LI->LI->LI->LI->LI->Int->Int->Int->Int->Int->LI->Int->Int->LI->Int->Int->Option (Lf⊕(iH×Int×Int×Int×LI×Int×Int×Unit)⊕Empty)
 |0,_,_,_,_,_,_,_,_,_,_,_,_,_,_,_,_,_=>none
 |n+1,a,b,c,d,f,h,i,j,k,l,o,p,q,r,s,t,u=>by apply(?_:ut (bif decide (u<t)then am s u 0 λe=>bif decide (e<=o)then some (.inl (false,()))else bif decide (e>=j)then some (.inl (false,()))else nT m n a b c d f h i j k l e p q r s t (wI (u+1))else some (.inr (.inl ((a,b,c,d,f,h,i,()),j,k,l,p,q,r,())))));dsimp only[am];exact λg _=>g
def nU:Nat->LI->LI->LI->LI->LI->LI->Int->Int->Int->Int->LI->Int->Int->Option (Lf⊕(iH×Int×LI×Int×Int×Unit)⊕Empty)
 |0,_,_,_,_,_,_,_,_,_,_,_,_,_=>none
 |n+1,a,b,c,d,f,h,i,j,k,l,o,p,q=>by apply(?_:ut (bif decide (l<=k)then am d l 0 λx=>am d (wI (l+1)) 0 λy=>bif decide (x>y)then some (.inl (false,()))else em d (wI (l+1))<|bif decide (y>(f.length:Int))then some (.inl (false,()))else em d l<|em d (wI (l+1))<|if 0<=x/\x<=y/\y<=(f.length:Int)then(nT m m a b c d f h i j k l k o p q ((f.drop x.toNat).take (y.toNat-x.toNat)) (((f.drop x.toNat).take (y.toNat-x.toNat)).length:Int) 0).bind λ|.inl A=>some (.inl (A.1,()))|.inr (.inl z)=>pm (pm (qr (nU n)) z (wI (z.2.2.2.1+1))) z.2.2.2.2|.inr (.inr e)=>e.elim else none else some (.inr (.inl ((a,b,c,d,f,h,i,()),j,o,p,q,())))));dsimp only[am,em,qr,pm];exact λg _=>g
def nV:Nat->LI->LI->LI->LI->LI->LI->Int->Int->LI->Int->Int->Option qW
 |0,_,_,_,_,_,_,_,_,_,_,_=>none
 |n+1,a,b,c,d,f,h,i,j,k,l,o=>by apply(?_:ut (bif decide (o<l)then am k o 0 λx=>am b o 0 λy=>(nU m m a b c d f h i j (wI ((wI (x+y))-1)) x k l o).bind λ|.inl A=>some (.inl (A.1,()))|.inr (.inl z)=>pp (qr (nV n)) z (wI (z.2.2.2.2.1+1))|.inr (.inr e)=>e.elim else some (.inr (.inl ()))));dsimp only[am,qr,pp];exact λg _=>g
def E8 (a:LI) (b:LI) (c:LI) (d:LI) (f:LI) (h:LI) (i:Int) (j:LI):Option uu:=by apply(?_:ut (if(0:Int)<=0/\0<(d.length:Int)then bif(d.getD 0 0) !=0 then some (false,V2)else am d (a.length:Int) 0 λx=>bif x !=(f.length:Int)then some (false,V2)else(nV m m a b c d f h i (a.length:Int) j (j.length:Int) 0).bind λ|.inl y=>some (y.1,V2)|.inr (.inl z)=>some (true,V2)|.inr (.inr e)=>e.elim else none));dsimp only[am];exact λg _=>g
def qE (m:Nat) (a:Int):Option (OZ×Unit×Unit):=some ((wI (qm .u64 (aJ .u64 a 52) 2047),qm .u64 a 4503599627370495,()),ul)
def sw (a:Int):Option o6:=(qE m a).bind λe=>some (e.1.1 !=2047,ul)
def ld (m:Nat):Nat->LI->Int->Option NK
 |0,_,_=>none
 |n+1,a,b=>by apply(?_:ut (bif decide (b>0)then am a (wI (b-1)) 0 λe=>bif e==0 then ld m n a (wI (b-1))else some (.inl (a,b,()))else some (.inl (a,b,()))));dsimp only[am];exact λg _=>g
def dA (a:LI):Option UQ:=(ld m m a (a.length:Int)).bind λ|.inl g=>if(0:Int)<=0/\0<=g.2.1/\g.2.1<=(g.1.length:Int)then some (g.1.take g.2.1.toNat,ul)else none|.inr e=>e.elim
def dH (a:Bool) (b:LI):Option yc:=(dA m b).bind λe=>bif(e.1.length:Int)==0 then some ((false,[],()),V2)else some ((a,e.1,()),V2)
def jq (a:Int):Option GR:=bif decide (a<0)then(dH m (decide (a<0)) [wK (qm .u64 (wJ (0-(wJ a))) 4294967295),wK (aJ .u64 (wJ (0-(wJ a))) 32)]).bind λe=>some ((e.1.1,e.1.2.1,()),ul)else(dH m (decide (a<0)) [wK (qm .u64 (wJ a) 4294967295),wK (aJ .u64 (wJ a) 32)]).bind λg=>some ((g.1.1,g.1.2.1,()),ul)
def uP (m:Nat) (a:Int):Option o6:=some ((qm .u64 a 9223372036854775808) !=0,ul)
def uN (m:Nat) (a:LI):Option UQ:=if([]:LI).length+a.length<=1073741824 then some (a,ul)else none
def dR (a:Bool) (b:LI):Option GR:=(uN m b).bind λg=>(dH m (!a) g.1).bind λe=>some ((e.1.1,e.1.2.1,()),ul)
def qq (m:Nat):Option UP:=some ((true,false,[],0,()),())
def qk (a:Bool) (b:LI):Option GR:=(uN m b).bind λg=>(dH m a g.1).bind λe=>some ((e.1.1,e.1.2.1,()),ul)
def iz (a:Bool) (b:LI):Option jz:=(dA m b).bind λe=>bif(e.1.length:Int)==0 then some (0,ul)else bif a then some ((-1),ul)else some (1,ul)
def nG:Nat->LI->Int->Int->Option rf
 |0,_,_,_=>none
 |n+1,a,b,c=>bif decide (c<b)then if 0<=c/\c<(a.length:Int)then bif(a.getD c.toNat 0) !=0 then(AQ m (a.getD c.toNat 0)).bind λe=>some (.inl (wI ((wI (c*32))+e.1),()))else nG n a b (wI (c+1))else none else some (.inr (.inl ()))
def AL (a:Bool) (b:LI):Option jz:=(nG m m b (b.length:Int) 0).bind λ|.inl g=>some (g.1,ul)|.inr (.inl x)=>some (0,ul)|.inr (.inr e)=>e.elim
def Am (a:LI):Option jz:=by apply(?_:ut (let e:=wI ((a.length:Int)-1);bif(a.length:Int)==0 then some (0,ul)else am a e 0 λx=>(xK m x).bind λy=>some (wI ((wI (e*32))+y.1),ul)));dsimp only[am];exact λg _=>g
def qe (a:Bool) (b:LI):Option jz:=(dA m b).bind λe=>(Am m e.1).bind λg=>some (g.1,ul)
def nh (m:Nat):Nat->Int->Int->LI->LI->Int->Int->Option q9
 |0,_,_,_,_,_,_=>none
 |n+1,a,b,c,d,f,h=>by apply(?_:ut (let x:=c.getD (0+(wI (a+h)).toNat) 0;bif decide (h<f)then am d h 0 λe=>if 0<=b then em c (wI (a+h))<|em c (wI (a+h))<|em (c.set (0+(wI (a+h)).toNat) (bf .u32 x (wK (qm .u64 (bE .u64 (wJ e) b) 4294967295)))) (wI ((wI (a+h))+1))<|nh m n a b ((c.set (0+(wI (a+h)).toNat) (bf .u32 x (wK (qm .u64 (bE .u64 (wJ e) b) 4294967295)))).set (0+(wI ((wI (a+h))+1)).toNat) (wK (aJ .u64 (bE .u64 (wJ e) b) 32))) d f (wI (h+1))else none else some (.inl (c,()))));dsimp only[am,em,-dreduceIte];exact λg _=>g
def uF (a:LI) (b:Int):Option xl:=by apply(?_:ut (let x:=wI ((wI ((wI (Int.tdiv b 32))+(a.length:Int)))+1);bif(a.length:Int)==0 then some ([],V2)else lc x<|(nh m m (wI (Int.tdiv b 32)) (wJ (Int.tmod b 32)) (List.replicate x.toNat (0:Int)) a (a.length:Int) 0).bind λ|.inl y=>(dA m y.1).bind λz=>some (z.1,V2)|.inr e=>e.elim));dsimp only[lc];exact λg _=>g
def MO (m:Nat) (a:Int):Option o6:=some (a !=0,ul)
def ng:Nat->LI->Int->Int->Option rf
 |0,_,_,_=>none
 |n+1,a,b,c=>bif decide (c<b)then if 0<=c/\c<(a.length:Int)then(MO m (a.getD c.toNat 0)).bind λe=>bif e.1 then some (.inl (c,()))else ng n a b (wI (c+1))else none else some (.inr (.inl ()))
def MK (a:LI):Option i7:=(ng m m a (a.length:Int) 0).bind λ|.inl g=>some (g.1,V2)|.inr (.inl x)=>some ((-1),V2)|.inr (.inr e)=>e.elim
def Du (a:LI):Option uu:=(MK m a).bind λe=>some (decide (e.1>=0),V2)
def fK (m:Nat):Nat->LI->Int->Int->Bool->LI->Int->Int->Option (oH⊕Empty)
 |0,_,_,_,_,_,_,_=>none
 |n+1,a,b,c,d,f,h,i=>by apply(?_:ut (bif decide (i<h)then am a (wI (b+i)) 0 λe=>bif decide ((wI ((wI (b+i))+1))<(a.length:Int))then am a (wI ((wI (b+i))+1)) 0 λx=>if 0<=c then em f i<|fK m n a b c d (f.set (0+i.toNat) (wK (qm .u64 (aJ .u64 (bf .u64 (wJ e) (bE .u64 (wJ x) 32)) c) 4294967295))) h (wI (i+1))else none else if 0<=c then em f i<|fK m n a b c d (f.set (0+i.toNat) (wK (qm .u64 (aJ .u64 (wJ e) c) 4294967295))) h (wI (i+1))else none else some (.inl (d,f,()))));dsimp only[am,em];exact λg _=>g
def xE (a:LI) (b:Int):Option W4:=by apply(?_:ut (let x:=wI (Int.tdiv b 32);let y:=wJ (Int.tmod b 32);let A:=wI ((a.length:Int)-x);let z:=List.replicate A.toNat (0:Int);let B(C:Bool×LI×Unit):=(dA m C.2.1).bind λE=>some ((E.1,C.1,()),V2);bif decide (x>=(a.length:Int))then some (([],decide ((a.length:Int)>0),()),V2)else if(0:Int)<=0/\0<=x/\x<=(a.length:Int)then(Du m (a.take x.toNat)).bind λF=>bif F.1 then lc A<|(fK m m a x y true z (z.length:Int) 0).bind λ|.inl G=>B G|.inr e=>e.elim else am a x 0 λD=>if 0<=y then lc A<|(fK m m a x y ((qm .u32 D (wK ((bE .u32 1 y)-1))) !=0) z (z.length:Int) 0).bind λ|.inl H=>B H|.inr e=>e.elim else none else none));dsimp only[lc,am];exact λg _=>g
def gN (m:Nat):Nat->LI->LI->Int->LI->Int->Int->Option NK
 |0,_,_,_,_,_,_=>none
 |n+1,a,b,c,d,f,h=>by apply(?_:ut (bif decide (h<f)then am d h 0 λe=>bif decide (h<(a.length:Int))then am a h 0 λx=>gc b [wK (qm .u64 (wJ ((wJ ((wJ e)+c))+(wJ x))) 4294967295)] λy=>gN m n a y (aJ .u64 (wJ ((wJ ((wJ e)+c))+(wJ x))) 32) d f (wI (h+1))else gc b [wK (qm .u64 (wJ ((wJ e)+c)) 4294967295)] λz=>gN m n a z (aJ .u64 (wJ ((wJ e)+c)) 32) d f (wI (h+1))else some (.inl (b,c,()))));dsimp only[am,gc];exact λg _=>g
def uH (a:LI) (b:LI):Option xl:=by apply(?_:ut (let y(x:LI)(z:LI):=if(0:Int)<=0/\0<=(wI ((x.length:Int)+1))/\(wI ((x.length:Int)+1))<=1073741824 then(gN m m z (List.replicate 0 (0:Int)) 0 x (x.length:Int) 0).bind λ|.inl B=>gc B.1 [wK B.2.1] λA=>(dA m A).bind λC=>some (C.1,V2)|.inr e=>e.elim else none;bif decide ((a.length:Int)<(b.length:Int))then y b a else y a b));dsimp only[gc];exact λg _=>g
def qa (a:Bool) (b:LI) (c:Int):Option tL1:=by apply(?_:ut (let e(y:LI):Option tL1:=(dH m a y).bind λA=>some (((A.1.1,A.1.2.1,()),0,()),V2);let x:=(((false,[],()),3,()),V2);bif decide (c<(-1048576))then some x else bif decide (c>1048576)then some x else(dA m b).bind λB=>bif decide (c>=0)then(uF m B.1 c).bind λC=>e C.1 else(xE m B.1 (wI (0-c))).bind λz=>bif a then bif z.1.2.1 then(uH m z.1.1 ([1]:LI)).bind λD=>e D.1 else e z.1.1 else e z.1.1));dsimp only;exact λg _=>g
def qd:Nat->Int->Bool->LI->Bool->LI->Option tF1
 |0,_,_,_,_,_=>none
 |n+1,a,b,c,d,f=>bif decide (a>1048576)then(qa m b c (-1048576)).bind λe=>qd n (wI (a-1048576)) e.1.1.1 e.1.1.2.1 d f else some (.inl (a,(b,c,()),(d,f,()),()))
def AK (a:Bool) (b:LI) (c:Int):Option yc:=(qd m m c a b false []).bind λ|.inl g=>(qa m g.2.1.1 g.2.1.2.1 (wI (0-g.1))).bind λx=>some ((x.1.1.1,x.1.1.2.1,()),V2)|.inr e=>e.elim
def gR (a:Bool) (b:Bool) (c:LI) (d:Int):Option ((mu×Bool×Unit)×Unit×Unit):=by apply(?_:ut (let e:=(qq m).bind λA=>some (((rg A.1),false,()),ul);bif a then e else(qk m b c).bind λx=>(iz m x.1.1 x.1.2.1).bind λB=>bif B.1==0 then some (((false,false,[],0,()),true,()),ul)else(AL m x.1.1 x.1.2.1).bind λy=>(qe m x.1.1 x.1.2.1).bind λC=>bif decide (d>(wI (65536-C.1)))then e else bif decide (d<(wI ((-65536)-y.1)))then e else(AK m x.1.1 x.1.2.1 y.1).bind λz=>some (((false,z.1.1,z.1.2.1,wI (d+y.1),()),true,()),ul)));dsimp only[rg];exact λg _=>g
def jr (a:Bool) (b:LI) (c:Int):Option yy:=(gR m false a b c).bind λe=>some ((e.1.1.1,e.1.1.2.1,e.1.1.2.2.1,e.1.1.2.2.2.1,()),V2)
def cA (a:Int):Option xk:=by apply(?_:ut (let e(x:oH):=(jr m x.1 x.2.1 (-1074)).bind λF=>some ((rg F.1),ul);let y(z:oH)(A:Int):=(jr m z.1 z.2.1 (wI (A-1075))).bind λC=>some ((rg C.1),ul);(qE m a).bind λB=>bif B.1.1==2047 then some ((true,false,[],0,()),ul)else bif B.1.1==0 then(jq m (wI B.1.2.1)).bind λD=>(uP m a).bind λG=>bif G.1 then(dR m D.1.1 D.1.2.1).bind λH=>e H.1 else e D.1 else(jq m (wI (bf .u64 B.1.2.1 4503599627370496))).bind λE=>(uP m a).bind λI=>bif I.1 then(dR m E.1.1 E.1.2.1).bind λJ=>y J.1 B.1.1 else y E.1 B.1.1));dsimp only[rg];exact λg _=>g
def nQ:Nat->LI->LI->LI->LI->LI->LI->Int->cP->Int->c9->LI->Int->Int->Int->Int->Option ((iH×cP×Int×c9×LI×Int×Int×Unit)⊕Empty)
 |0,_,_,_,_,_,_,_,_,_,_,_,_,_,_,_=>none
 |n+1,a,b,c,d,f,h,i,j,k,l,o,p,q,r,s=>by apply(?_:ut (bif decide (s<r)then am c k 0 λe=>(cA m e).bind λy=>gc l [(y.1.1,((y.1.2.1,y.1.2.2.1),y.1.2.2.2.1))] λx=>nQ n a b c d f h i j (wI (k+1)) x o p q r (wI (s+1))else some (.inl ((a,b,c,d,f,h,i,()),j,k,l,o,p,q,()))));dsimp only[am,gc];exact λg _=>g
def nR:Nat->LI->LI->LI->LI->LI->LI->Int->cP->Int->LI->Int->Int->Option W9
 |0,_,_,_,_,_,_,_,_,_,_,_,_=>none
 |n+1,a,b,c,d,f,h,i,j,k,l,o,p=>by apply(?_:ut (bif decide (p<o)then am l p 0 λy=>(nQ m m a b c d f h i j k [] l o p (wI ((wI (2*y))-1)) 0).bind λ|.inl x=>if 0<[x.2.2.2.1].length/\x.2.1.length+[x.2.2.2.1].length<=1073741824 then qr (nR n) x.1 (x.2.1++[x.2.2.2.1]) x.2.2.1 x.2.2.2.2.1 x.2.2.2.2.2.1 (wI (x.2.2.2.2.2.2.1+1))else none|.inr e=>e.elim else some (.inl (j,()))));dsimp only[am,qr];exact λg _=>g
def M6 (a:LI) (b:LI) (c:LI) (d:LI) (f:LI) (h:LI) (i:Int):Option tI1:=(nR m m a b c d f h i [] 0 b (b.length:Int) 0).bind λ|.inl g=>some (g.1,ul)|.inr e=>e.elim
def Bo (a:Bool) (b:Bool) (c:LI) (d:Int) (f:Bool) (h:Bool) (i:LI) (j:Int):Option ((mu×mu×Bool×Unit)×Unit×Unit×Unit):=by apply(?_:ut ((gR m a b c d).bind λe=>(gR m f h i j).bind λx=>bif e.1.2.1 then some (((rg e.1.1),(rg x.1.1),x.1.2.1,()),V2)else some (((rg e.1.1),(rg x.1.1),false,()),V2)));dsimp only[rg];exact λg _=>g
def nj (m:Nat):Nat->LI->LI->Int->Int->Int->LI->Int->Int->LI->Int->Int->Option ((LI×LI×Int×Int×LI×Int×Int×Unit)⊕Empty)
 |0,_,_,_,_,_,_,_,_,_,_,_=>none
 |n+1,a,b,c,d,f,h,i,j,k,l,o=>by apply(?_:ut (let e(y:Int):=wJ ((wJ ((wJ ((wJ d)*(wJ y)))+(wJ (b.getD (0+(wI (c+o)).toNat) 0))))+f);bif decide (o<l)then am k o 0 λx=>em b (wI (c+o))<|em b (wI (c+o))<|nj m n a (b.set (0+(wI (c+o)).toNat) (wK (qm .u64 (e x) 4294967295))) c d (aJ .u64 (e x) 32) h i j k l (wI (o+1))else some (.inl (a,b,c,f,h,i,j,()))));dsimp only[am,em];exact λg _=>g
def nk:Nat->LI->LI->LI->Int->Int->Option q9
 |0,_,_,_,_,_=>none
 |n+1,a,b,c,d,f=>by apply(?_:ut (bif decide (f<d)then am c f 0 λy=>(nj m m a b f y 0 c d f a (a.length:Int) 0).bind λ|.inl x=>em x.2.1 (wI (x.2.2.1+(x.1.length:Int)))<|nk n x.1 (x.2.1.set (0+(wI (x.2.2.1+(x.1.length:Int))).toNat) (wK x.2.2.2.1)) x.2.2.2.2.1 x.2.2.2.2.2.1 (wI (x.2.2.2.2.2.2.1+1))|.inr e=>e.elim else some (.inl (b,()))));dsimp only[am,em];exact λg _=>g
def Ed (a:LI) (b:LI):Option xl:=by apply(?_:ut (let x:=wI ((a.length:Int)+(b.length:Int));bif(a.length:Int)==0 then some ([],V2)else bif(b.length:Int)==0 then some ([],V2)else lc x<|(nk m m b (List.replicate x.toNat (0:Int)) a (a.length:Int) 0).bind λ|.inl y=>(dA m y.1).bind λz=>some (z.1,V2)|.inr e=>e.elim));dsimp only[lc];exact λg _=>g
def qn (a:Bool) (b:LI) (c:Bool) (d:LI):Option yc:=(dA m b).bind λg=>(dA m d).bind λx=>(Ed m g.1 x.1).bind λy=>(dH m (!(a==c)) y.1).bind λe=>some ((e.1.1,e.1.2.1,()),V2)
def iB (a:Bool) (b:Bool) (c:LI) (d:Int) (f:Bool) (h:Bool) (i:LI) (j:Int):Option yy:=by apply(?_:ut ((Bo m a b c d f h i j).bind λe=>bif !e.1.2.2.1 then(qq m).bind λy=>some ((rg y.1),V2)else(qn m e.1.1.2.1 e.1.1.2.2.1 e.1.2.1.2.1 e.1.2.1.2.2.1).bind λx=>(jr m x.1.1 x.1.2.1 (wI (e.1.1.2.2.2.1+e.1.2.1.2.2.2.1))).bind λz=>some ((rg z.1),V2)));dsimp only[rg];exact λg _=>g
def Bp (a:Bool) (b:Bool) (c:LI) (d:Int):Option xk:=(gR m a b c d).bind λe=>bif e.1.2.1 then(dR m e.1.1.2.1 e.1.1.2.2.1).bind λg=>some ((e.1.1.1,g.1.1,g.1.2.1,e.1.1.2.2.2.1,()),ul)else some ((e.1.1.1,e.1.1.2.1,e.1.1.2.2.1,e.1.1.2.2.2.1,()),ul)
def jZ (a:Bool) (b:LI) (c:Int):Option yc:=(qa m a b c).bind λe=>some ((e.1.1.1,e.1.1.2.1,()),V2)
def FT (a:Bool) (b:Bool) (c:LI) (d:Int) (f:Bool) (h:Bool) (i:LI) (j:Int):Option XA:=(jZ m b c (wI (d-(if j<d then j else d)))).bind λe=>(jZ m h i (wI (j-(if j<d then j else d)))).bind λg=>some (((e.1.1,e.1.2.1,()),(g.1.1,g.1.2.1,()),if j<d then j else d,()),V2)
def DJ (m:Nat) (a:Int):Option o6:=some (a !=a,ul)
def D8 (a:Int) (b:Int):Option i7:=(DJ m a).bind λg=>(DJ m b).bind λe=>bif g.1 then bif e.1 then some (0,V2)else some ((-1),V2)else bif e.1 then some (1,V2)else bif decide (a<b)then some ((-1),V2)else bif decide (a>b)then some (1,V2)else some (0,V2)
def DI (m:Nat) (a:Int):Option o6:=some (a !=a,ul)
def D7 (a:Int) (b:Int):Option i7:=(DI m a).bind λg=>(DI m b).bind λe=>bif g.1 then bif e.1 then some (0,V2)else some ((-1),V2)else bif e.1 then some (1,V2)else bif decide (a<b)then some ((-1),V2)else bif decide (a>b)then some (1,V2)else some (0,V2)
def lf:Nat->LI->LI->Int->Option rf
 |0,_,_,_=>none
 |n+1,a,b,c=>by apply(?_:ut (bif decide (c>=0)then am a c 0 λe=>am b c 0 λx=>bif e !=x then em a c<|em b c<|(D7 m e x).bind λy=>some (.inl (y.1,()))else lf n a b (wI (c-1))else some (.inr (.inl ()))));dsimp only[am,em];exact λg _=>g
def uO (a:LI) (b:LI):Option i7:=bif(a.length:Int) !=(b.length:Int)then(D8 m (a.length:Int) (b.length:Int)).bind λg=>some (g.1,V2)else(lf m m a b (wI ((a.length:Int)-1))).bind λ|.inl x=>some (x.1,V2)|.inr (.inl y)=>some (0,V2)|.inr (.inr e)=>e.elim
def jl (m:Nat):Nat->LI->LI->Int->LI->Int->Int->Option q9
 |0,_,_,_,_,_,_=>none
 |n+1,a,b,c,d,f,h=>by apply(?_:ut (bif decide (h<f)then am d h 0 λe=>bif decide (h<(a.length:Int))then am a h 0 λx=>em b h<|jl m n a (b.set (0+h.toNat) (wK (qm .u64 (wJ ((wJ ((wJ e)-c))-(wJ x))) 4294967295))) (qm .u64 (aJ .u64 (wJ ((wJ ((wJ e)-c))-(wJ x))) 32) 1) d f (wI (h+1))else em b h<|jl m n a (b.set (0+h.toNat) (wK (qm .u64 (wJ ((wJ e)-c)) 4294967295))) (qm .u64 (aJ .u64 (wJ ((wJ e)-c)) 32) 1) d f (wI (h+1))else some (.inl (b,()))));dsimp only[am,em];exact λg _=>g
def xH (a:LI) (b:LI):Option xl:=by apply(?_:ut (lc (a.length:Int)<|(jl m m b (List.replicate (a.length:Int).toNat (0:Int)) 0 a (a.length:Int) 0).bind λ|.inl x=>(dA m x.1).bind λy=>some (y.1,V2)|.inr e=>e.elim));dsimp only[lc];exact λg _=>g
def gh (a:Bool) (b:LI) (c:Bool) (d:LI):Option yc:=by apply(?_:ut (let e(x:Bool)(y:LI):=(dH m x y).bind λB=>some ((B.1.1,B.1.2.1,()),V2);(dA m b).bind λz=>(dA m d).bind λA=>bif a==c then(uH m z.1 A.1).bind λC=>e a C.1 else(uO m z.1 A.1).bind λD=>bif decide (D.1>=0)then(xH m z.1 A.1).bind λE=>e a E.1 else(xH m A.1 z.1).bind λF=>e c F.1));dsimp only;exact λg _=>g
def iA (a:Bool) (b:Bool) (c:LI) (d:Int) (f:Bool) (h:Bool) (i:LI) (j:Int):Option yy:=by apply(?_:ut ((Bo m a b c d f h i j).bind λx=>bif !x.1.2.2.1 then(qq m).bind λz=>some ((rg z.1),V2)else(pp (pp (FT m) x.1.1) x.1.2.1).bind λe=>(gh m e.1.1.1 e.1.1.2.1 e.1.2.1.1 e.1.2.1.2.1).bind λy=>(jr m y.1.1 y.1.2.1 e.1.2.2.1).bind λA=>some ((rg A.1),V2)));dsimp only[rg,pp];exact λg _=>g
def ud (a:Bool) (b:Bool) (c:LI) (d:Int) (f:Bool) (h:Bool) (i:LI) (j:Int):Option yy:=by apply(?_:ut ((Bp m f h i j).bind λe=>(pp (iA m a b c d) e.1).bind λx=>some ((rg x.1),V2)));dsimp only[pp,rg];exact λg _=>g
def E2 (a:List bA):Option xk:=by apply(?_:ut (if(0:Int)<=0/\0<(a.length:Int)then if(0:Int)<=2/\2<(a.length:Int)then(iB m (a.getD 0 qz).1 (a.getD 0 qz).2.1.1 (a.getD 0 qz).2.1.2 (a.getD 0 qz).2.2 (a.getD 2 qz).1 (a.getD 2 qz).2.1.1 (a.getD 2 qz).2.1.2 (a.getD 2 qz).2.2).bind λe=>if(0:Int)<=1/\1<(a.length:Int)then if(0:Int)<=1/\1<(a.length:Int)then(iB m (a.getD 1 qz).1 (a.getD 1 qz).2.1.1 (a.getD 1 qz).2.1.2 (a.getD 1 qz).2.2 (a.getD 1 qz).1 (a.getD 1 qz).2.1.1 (a.getD 1 qz).2.1.2 (a.getD 1 qz).2.2).bind λx=>(pp (pp (ud m) e.1) x.1).bind λy=>some ((rg y.1),ul)else none else none else none else none));dsimp only[pp,rg];exact λg _=>g
def nP (a:Bool) (b:Bool) (c:LI) (d:Int):Option jz:=(gR m a b c d).bind λe=>(iz m e.1.1.2.1 e.1.1.2.2.1).bind λg=>some (g.1,ul)
def lI:Nat->cP->Int->Int->Option rf
 |0,_,_,_=>none
 |n+1,a,b,c=>by apply(?_:ut (bif decide (c<b)then am a c [] λe=>bif(e.length:Int)==3 then(E2 m e).bind λx=>(pp (nP m) x.1).bind λy=>bif y.1==0 then some (.inl (4,()))else lI n a b (wI (c+1))else lI n a b (wI (c+1))else some (.inr (.inl ()))));dsimp only[am,pp];exact λg _=>g
def oA:Nat->LI->LI->LI->LI->LI->LI->Int->List LI->Int->Int->LI->Int->Int->Option ((Int×Unit)⊕(iH×List LI×Int×Int×Unit)⊕Empty)
 |0,_,_,_,_,_,_,_,_,_,_,_,_,_=>none
 |n+1,a,b,c,d,f,h,i,j,k,l,o,p,q=>bif decide (q<p)then if 0<=q/\q<(o.length:Int)then(sw m (o.getD q.toNat 0)).bind λe=>bif !e.1 then some (.inl (4,()))else oA n a b c d f h i j k l o p (wI (q+1))else none else some (.inr (.inl ((a,b,c,d,f,h,i,()),j,k,l,())))
def ju:Nat->LI->LI->LI->LI->LI->LI->Int->List LI->Int->Int->Option Xs
 |0,_,_,_,_,_,_,_,_,_,_=>none
 |n+1,a,b,c,d,f,h,i,j,k,l=>by apply(?_:ut (let x:=j.getD (0+l.toNat) [];bif decide (l<k)then em j l<|(oA m m a b c d f h i j k l x (x.length:Int) 0).bind λ|.inl z=>some (.inl (z.1,()))|.inr (.inl y)=>pm (qr (ju n)) y (wI (y.2.2.2.1+1))|.inr (.inr e)=>e.elim else some (.inr (.inl ((a,b,c,d,f,h,i,()),())))));dsimp only[em,qr,pm];exact λg _=>g
def xV (a:LI) (b:LI) (c:LI) (d:LI) (f:LI) (h:LI) (i:Int):Option jz:=by apply(?_:ut (let x:=some (240,ul);bif decide ((a.length:Int)>200)then some (6,ul)else(Fc m a).bind λA=>bif !A.1 then some (90,ul)else bif(d.length:Int) !=(wI ((a.length:Int)+1))then some (2,ul)else bif(f.length:Int) !=(h.length:Int)then some (2,ul)else(Fa m a b c d f h i).bind λy=>bif !y.1.2.1 then x else bif decide (i<0)then x else(E8 m a b c d f h i y.1.1).bind λB=>bif !B.1 then x else(ju m m a b c d f h i [h,c] 2 0).bind λ|.inl C=>some (C.1,ul)|.inr (.inl D)=>((qr (M6 m) D.1).bind λz=>(lI m m z.1 (z.1.length:Int) 0).bind λ|.inl E=>some (E.1,ul)|.inr (.inl F)=>some (0,ul)|.inr (.inr e)=>e.elim)|.inr (.inr e)=>e.elim));dsimp only[qr];exact λg _=>g
def od:Nat->Bool->Bool->LI->Int->Int->Bool->LI->c9->Int->Int->Option ((mu×Int×oH×Unit)⊕Empty)
 |0,_,_,_,_,_,_,_,_,_,_=>none
 |n+1,a,b,c,d,f,h,i,j,k,l=>by apply(?_:ut (let e:=j.getD (0+l.toNat) qz;bif decide (l<k)then em j l<|(jZ m e.2.1.1 e.2.1.2 (wI (e.2.2-f))).bind λx=>(gh m h i x.1.1 x.1.2.1).bind λy=>od n a b c d f y.1.1 y.1.2.1 j k (wI (l+1))else some (.inl ((a,b,c,d,()),f,(h,i,()),()))));dsimp only[em];exact λg _=>g
def oe:Nat->Bool->Bool->LI->Int->c9->Int->c9->Int->Int->Option (UP⊕(mu×c9×Int×Unit)⊕Empty)
 |0,_,_,_,_,_,_,_,_,_=>none
 |n+1,a,b,c,d,f,h,i,j,k=>by apply(?_:ut (bif decide (k<j)then am i k qz λe=>(gR m e.1 e.2.1.1 e.2.1.2 e.2.2).bind λx=>bif !x.1.2.1 then(qq m).bind λz=>some (.inl ((rg z.1),()))else gc f [(x.1.1.1,((x.1.1.2.1,x.1.1.2.2.1),x.1.1.2.2.2.1))] λy=>oe n a b c d y (if x.1.1.2.2.2.1<h then x.1.1.2.2.2.1 else h) i j (wI (k+1))else some (.inr (.inl ((a,b,c,d,()),f,h,())))));dsimp only[am,gc,rg];exact λg _=>g
def Bu (a:List bA):Option xk:=by apply(?_:ut ((oe m m false false [] 0 [] 0 a (a.length:Int) 0).bind λ|.inl z=>some ((rg z.1),ul)|.inr (.inl x)=>((pp (od m m) x.1 x.2.2.1 false [] x.2.1 (x.2.1.length:Int) 0).bind λ|.inl y=>(jr m y.2.2.1.1 y.2.2.1.2.1 y.2.1).bind λA=>some ((rg A.1),ul)|.inr e=>e.elim)|.inr (.inr e)=>e.elim));dsimp only[rg,pp];exact λg _=>g
def sr:Nat->LI->LI->Bool->Bool->LI->Int->c9->Int->Int->Option (tZ⊕Empty)
 |0,_,_,_,_,_,_,_,_,_=>none
 |n+1,a,b,c,d,f,h,i,j,k=>by apply(?_:ut (bif decide (k<j)then am a k 0 λe=>(cA m e).bind λA=>am b k 0 λx=>(cA m x).bind λB=>(pp (pp (iB m) A.1) B.1).bind λz=>gc i [(z.1.1,((z.1.2.1,z.1.2.2.1),z.1.2.2.2.1))] λy=>sr n a b c d f h y j (wI (k+1))else some (.inl ((c,d,f,h,()),i,()))));dsimp only[am,gc,pp];exact λg _=>g
def WI (a:LI) (b:LI):Option yy:=(sr m m a b false false [] 0 [] (a.length:Int) 0).bind λ|.inl x=>(Bu m x.2.1).bind λg=>some ((g.1.1,g.1.2.1,g.1.2.2.1,g.1.2.2.2.1,()),V2)|.inr e=>e.elim
def mi (a:Bool) (b:Bool) (c:LI) (d:Int):Option xk:=(gR m a b c d).bind λe=>some ((e.1.1.1,e.1.1.2.1,e.1.1.2.2.1,e.1.1.2.2.2.1,()),ul)
def kz (m:Nat):Nat->LI->Int->LI->Int->Int->Option NK
 |0,_,_,_,_,_=>none
 |n+1,a,b,c,d,f=>by apply(?_:ut (bif decide (f>=0)then am a f 0 λe=>if(wJ b)≠0 then em c f<|if(wJ b)≠0 then kz m n a b (c.set (0+f.toNat) (wK (wJ (Int.tdiv (bf .u64 (bE .u64 d 32) (wJ e)) (wJ b))))) (Int.tmod (bf .u64 (bE .u64 d 32) (wJ e)) (wJ b)) (wI (f-1))else none else none else some (.inl (c,d,()))));dsimp only[am,em];exact λg _=>g
def Af (a:LI) (b:Int):Option UO:=by apply(?_:ut (lc (a.length:Int)<|(kz m m a b (List.replicate (a.length:Int).toNat (0:Int)) 0 (wI ((a.length:Int)-1))).bind λ|.inl x=>(dA m x.1).bind λy=>some ((y.1,wK x.2.1,()),V2)|.inr e=>e.elim));dsimp only[lc];exact λg _=>g
def kx (m:Nat):Nat->LI->Int->Int->Int->LI->Int->Int->Option ((LI×Int×Int×Int×Unit)⊕Empty)
 |0,_,_,_,_,_,_,_=>none
 |n+1,a,b,c,d,f,h,i=>by apply(?_:ut (let e(y:Int):=wJ ((wJ ((wJ (a.getD (0+i.toNat) 0))+(wJ y)))+d);bif decide (i<h)then am f i 0 λx=>em a i<|em a i<|kx m n (a.set (0+i.toNat) (wK (qm .u64 (e x) 4294967295))) b c (aJ .u64 (e x) 32) f h (wI (i+1))else some (.inl (a,b,c,d,()))));dsimp only[am,em];exact λg _=>g
def ky (m:Nat):Nat->LI->LI->Int->Int->Int->Int->LI->Int->Int->Option ((LI×LI×Int×Int×Int×Int×Unit)⊕Empty)
 |0,_,_,_,_,_,_,_,_,_=>none
 |n+1,a,b,c,d,f,h,i,j,k=>by apply(?_:ut (let x(y:Int):=wJ ((wJ ((wJ (a.getD (0+k.toNat) 0))-(qm .u64 (wJ ((wJ (d*(wJ y)))+f)) 4294967295)))-h);bif decide (k<j)then am i k 0 λe=>em a k<|em a k<|ky m n (a.set (0+k.toNat) (wK (qm .u64 (x e) 4294967295))) b c d (aJ .u64 (wJ ((wJ (d*(wJ e)))+f)) 32) (qm .u64 (aJ .u64 (x e) 32) 1) i j (wI (k+1))else some (.inl (a,b,c,d,f,h,()))));dsimp only[am,em];exact λg _=>g
def ji (m:Nat):Nat->LI->LI->Int->Int->Int->Option ((LI×LI×Int×Int×Unit)⊕Empty)
 |0,_,_,_,_,_=>none
 |n+1,a,b,c,d,f=>by apply(?_:ut (let e:=am b (wI (c-1)) 0 λx=>bif decide ((wJ (f+(wJ x)))>4294967295)then some (.inl (a,b,c,wJ (d-1),()))else ji m n a b c (wJ (d-1)) (wJ (f+(wJ x)));bif decide (d>4294967295)then e else am b (wI (c-2)) 0 λy=>em a (wI (c-2))<|bif decide ((wJ (d*(wJ y)))>(bf .u64 (bE .u64 f 32) (wJ (a.getD (0+(wI (c-2)).toNat) 0))))then e else some (.inl (a,b,c,d,()))));dsimp only[am,em];exact λg _=>g
def DA (a:LI) (b:LI):Option (Int×LI×Unit×Unit):=by apply(?_:ut (let B(x:LI×LI×Int×Int×Int×Int×Unit):=wJ ((wJ ((wJ (x.1.getD (0+x.2.2.1.toNat) 0))-x.2.2.2.2.1))-x.2.2.2.2.2.1);let y:=wI ((b.length:Int)-1);let C:=bf .u64 (bE .u64 (wJ (a.getD (0+(b.length:Int).toNat) 0)) 32) (wJ (a.getD (0+y.toNat) 0));em a (b.length:Int)<|em a y<|am b y 0 λz=>if(wJ z)≠0 then em b y<|if(wJ z)≠0 then(ji m m a b (b.length:Int) (wJ (Int.tdiv C (wJ z))) (Int.tmod C (wJ z))).bind λ|.inl E=>((pp (ky m m) E 0 0 E.2.1 (E.2.1.length:Int) 0).bind λ|.inl A=>(em A.1 A.2.2.1<|em A.1 A.2.2.1<|bif(qm .u64 (aJ .u64 (B A) 32) 1)==0 then some (wK A.2.2.2.1,(A.1.set (0+A.2.2.1.toNat) (wK (qm .u64 (B A) 4294967295)),(),()))else(kx m m (A.1.set (0+A.2.2.1.toNat) (wK (qm .u64 (B A) 4294967295))) A.2.2.1 A.2.2.2.1 0 A.2.1 (A.2.1.length:Int) 0).bind λ|.inl D=>em D.1 D.2.1<|em D.1 D.2.1<|some (wK (wJ (D.2.2.1-1)),(D.1.set (0+D.2.1.toNat) (wK ((D.1.getD (0+D.2.1.toNat) 0)+(wK D.2.2.2.1))),(),()))|.inr e=>e.elim)|.inr e=>e.elim)|.inr e=>e.elim else none else none));dsimp only[em,am,pp];exact λg _=>g
def kO:Nat->LI->Int->LI->LI->Int->Int->Option ((LI×Int×LI×Int×Unit)⊕Empty)
 |0,_,_,_,_,_,_=>none
 |n+1,a,b,c,d,f,h=>by apply(?_:ut (let e:=wI ((wI (h+f))+1);bif decide (h>=0)then if 0<=h/\h<=e/\e<=(d.length:Int)then if 0<d.length then(DA m ((d.drop (0+h.toNat)).take (e.toNat-h.toNat)) c).bind λx=>em a h<|kO n (a.set (0+h.toNat) x.1) b c (d.take (0+h.toNat)++(x.2.1++d.drop ((0+h.toNat)+(e.toNat-h.toNat)))) f (wI (h-1))else none else none else some (.inl (a,b,d,f,()))));dsimp only[em];exact λg _=>g
def sH (a:LI) (b:LI):Option tm1:=by apply(?_:ut (let y:=wI ((a.length:Int)+1);let x:=List.replicate y.toNat (0:Int);let z(A:LI):=A.take x.length++x.drop A.length;let B(C:LI)(D:LI):=List.replicate (wI (((z C).length:Int)-(D.length:Int))).toNat (0:Int);(uO m a b).bind λN=>bif decide (N.1<0)then(uN m a).bind λP=>some (([],P.1,()),V2)else bif(b.length:Int)==1 then if(0:Int)<=0/\0<(b.length:Int)then(Af m a (b.getD 0 0)).bind λM=>(dA m [M.1.2.1]).bind λQ=>some ((M.1.1,Q.1,()),V2)else none else am b (wI ((b.length:Int)-1)) 0 λE=>(uG m E).bind λI=>(uF m b I.1).bind λH=>lc y<|(uF m a I.1).bind λG=>if 0<G.1.length/\0<x.length then lc (wI (((G.1.take x.length++x.drop G.1.length).length:Int)-(H.1.length:Int)))<|(kO m m (B G.1 H.1) I.1 H.1 (z G.1) (H.1.length:Int) (wI (((B G.1 H.1).length:Int)-1))).bind λ|.inl F=>if(0:Int)<=0/\0<=F.2.2.2.1/\F.2.2.2.1<=(F.2.2.1.length:Int)then(dA m (F.2.2.1.take F.2.2.2.1.toNat)).bind λJ=>(xE m J.1 F.2.1).bind λK=>(dA m F.1).bind λL=>some ((L.1,K.1.1,()),V2)else none|.inr e=>e.elim else none));dsimp only[am,lc,-dreduceIte];exact λg _=>g
def ni:Nat->LI->LI->Option q9
 |0,_,_=>none
 |n+1,a,b=>(sH m a b).bind λg=>(uH m b g.1.1).bind λx=>(xE m x.1 1).bind λe=>(uO m e.1.1 b).bind λy=>bif decide (y.1>=0)then some (.inl (b,()))else ni n a e.1.1
def DT (a:LI):Option UQ:=bif(a.length:Int)==0 then some ([],ul)else(Am m a).bind λg=>(uF m ([1]:LI) (wI (Int.tdiv (wI (g.1+1)) 2))).bind λx=>(ni m m a x.1).bind λ|.inl y=>some (y.1,ul)|.inr e=>e.elim
def xI (a:Bool) (b:LI):Option ((oH×Int×Unit)×Unit×Unit):=(iz m a b).bind λg=>bif decide (g.1<0)then some (((false,[],()),11,()),ul)else(dA m b).bind λx=>(DT m x.1).bind λy=>(dH m false y.1).bind λe=>some (((e.1.1,e.1.2.1,()),0,()),ul)
def qA (a:Bool) (b:LI) (c:Bool) (d:LI):Option i7:=(iz m a b).bind λe=>(iz m c d).bind λg=>bif decide (e.1<g.1)then some ((-1),V2)else bif decide (e.1>g.1)then some (1,V2)else(dA m b).bind λx=>(dA m d).bind λy=>(uO m x.1 y.1).bind λz=>some (wI (e.1*z.1),V2)
def ET (a:Bool) (b:Bool) (c:LI) (d:Int) (f:Int):Option (W3×Unit×Unit×Unit):=by apply(?_:ut (let e:=wI (2*(wI (f+3)));(qe m b c).bind λx=>bif(Int.tmod (wI (d-(if(wI (e-x.1))>0 then(wI (e-x.1))else 0))) 2) !=0 then(jZ m b c (wI ((if(wI (e-x.1))>0 then(wI (e-x.1))else 0)+1))).bind λA=>(xI m A.1.1 A.1.2.1).bind λy=>(qn m y.1.1.1 y.1.1.2.1 y.1.1.1 y.1.1.2.1).bind λC=>(qA m C.1.1 C.1.2.1 A.1.1 A.1.2.1).bind λE=>some ((false,y.1.1.1,y.1.1.2.1,wI (Int.tdiv (wI (d-(wI ((if(wI (e-x.1))>0 then(wI (e-x.1))else 0)+1)))) 2),E.1 !=0,()),V2)else(jZ m b c (if(wI (e-x.1))>0 then(wI (e-x.1))else 0)).bind λB=>(xI m B.1.1 B.1.2.1).bind λz=>(qn m z.1.1.1 z.1.1.2.1 z.1.1.1 z.1.1.2.1).bind λD=>(qA m D.1.1 D.1.2.1 B.1.1 B.1.2.1).bind λF=>some ((false,z.1.1.1,z.1.1.2.1,wI (Int.tdiv (wI (d-(if(wI (e-x.1))>0 then(wI (e-x.1))else 0))) 2),F.1 !=0,()),V2)));dsimp only[-dreduceIte];exact λg _=>g
def Ei (a:Bool) (b:Bool) (c:LI) (d:Int) (f:Bool):Option jz:=(qe m b c).bind λe=>some (wI ((wI (d+e.1))-1),ul)
def DC (a:Bool) (b:LI) (c:Bool) (d:LI):Option yc:=(gh m a b (!c) d).bind λe=>some ((e.1.1,e.1.2.1,()),V2)
def DU (a:Bool) (b:Bool) (c:LI) (d:Int) (f:Bool) (h:Int):Option (th1×Unit×Unit×Unit):=by apply(?_:ut (let e(x:oH):=(x.1,x.2.1,());let y(z:oH)(A:oH)(B:Int):=(iz m z.1 z.2.1).bind λI=>bif I.1==0 then some (((e A),B,!f,()),V2)else some (((e A),B,false,()),V2);(qe m b c).bind λJ=>bif decide (h>J.1)then some (((false,[],()),(-1),false,()),V2)else(AK m b c h).bind λC=>(jZ m C.1.1 C.1.2.1 h).bind λF=>(DC m b c F.1.1 F.1.2.1).bind λD=>(jq m 1).bind λG=>(jZ m G.1.1 G.1.2.1 (wI (h-1))).bind λH=>(qA m D.1.1 D.1.2.1 H.1.1 H.1.2.1).bind λE=>bif E.1==0 then bif f then(iz m D.1.1 D.1.2.1).bind λK=>bif K.1==0 then some (((e C.1),1,!f,()),V2)else some (((e C.1),1,false,()),V2)else y D.1 C.1 E.1 else y D.1 C.1 E.1));dsimp only;exact λg _=>g
def uK (a:Bool) (b:Bool) (c:LI) (d:Int) (f:Bool) (h:Int) (i:Int):Option (oH×Unit×Unit×Unit×Unit):=by apply(?_:ut (let e(x:oH):=bif a then(dR m x.1 x.2.1).bind λD=>some ((D.1.1,D.1.2.1,()),u4)else some ((x.1,x.2.1,()),u4);let y(A:oH):=(jq m 1).bind λE=>(gh m A.1 A.2.1 E.1.1 E.1.2.1).bind λF=>e F.1;bif decide (h<=d)then(jZ m b c (wI (d-h))).bind λG=>e G.1 else(DU m a b c d f (wI (h-d))).bind λz=>bif z.1.2.2.1 then e z.1.1 else bif i==1 then bif a then y z.1.1 else e z.1.1 else bif i==2 then bif !a then y z.1.1 else e z.1.1 else bif i==3 then e z.1.1 else bif decide (z.1.2.1>0)then y z.1.1 else bif z.1.2.1==0 then(iz m z.1.1.1 z.1.1.2.1).bind λB=>bif B.1 !=0 then(AL m z.1.1.1 z.1.1.2.1).bind λC=>bif C.1==0 then y z.1.1 else e z.1.1 else e z.1.1 else e z.1.1));dsimp only;exact λg _=>g
def u7 (a:Bool) (b:LI):Option GR:=(uN m b).bind λg=>(dH m false g.1).bind λe=>some ((e.1.1,e.1.2.1,()),ul)
def nq (m:Nat):Nat->Bool->LI->Int->LI->Int->Int->Option tZ1
 |0,_,_,_,_,_,_=>none
 |n+1,a,b,c,d,f,h=>bif decide (h<f)then if 0<=h/\h<(d.length:Int)then if 0<=(wI (32*h))then nq m n a b (bf .u64 c (bE .u64 (wJ (d.getD h.toNat 0)) (wI (32*h)))) d f (wI (h+1))else none else none else some (.inl ((a,b,()),c,()))
def Eh (a:Bool) (b:LI):Option W0:=by apply(?_:ut (let y:=some ((0,false,()),ul);let z(x:oH×Int×Unit):=bif decide (x.2.1<9223372036854775808)then bif !x.1.1 then some ((wI x.2.1,true,()),ul)else bif x.2.1==0 then some ((wI x.2.1,true,()),ul)else y else y;(dA m b).bind λB=>bif decide ((B.1.length:Int)>2)then y else(nq m m a b 0 B.1 (B.1.length:Int) 0).bind λ|.inl A=>bif A.1.1 then bif decide (A.2.1>0)then bif decide (A.2.1<=9223372036854775808)then some ((wI ((wI (0-(wI (wJ (A.2.1-1)))))-1),true,()),ul)else z A else z A else z A|.inr e=>e.elim));dsimp only;exact λg _=>g
def jX (m:Nat) (a:Int) (b:Bool):Option i7:=bif b then some (bf .u64 a 9223372036854775808,V2)else some (a,V2)
def Au (a:Bool) (b:Int):Option i7:=by apply(?_:ut (let e:=(jX m 9218868437227405311 a).bind λz=>some (z.1,V2);let x:=(jX m 9218868437227405312 a).bind λA=>some (A.1,V2);let y:=bif b==2 then bif a then e else x else x;bif b==3 then e else bif b==1 then bif !a then e else y else y));dsimp only;exact λg _=>g
def xL (a:Bool) (b:Bool) (c:LI) (d:Int) (f:Bool) (h:Int):Option i7:=(Ei m a b c d f).bind λe=>(uK m a b c d f (if(-1074)>(wI (e.1-52))then(-1074)else(wI (e.1-52))) h).bind λx=>(u7 m x.1.1 x.1.2.1).bind λy=>(Eh m y.1.1 y.1.2.1).bind λg=>bif(wJ g.1.1)==9007199254740992 then bif decide ((wI ((wI ((if(-1074)>(wI (e.1-52))then(-1074)else(wI (e.1-52)))+1))+1075))>=2047)then(Au m a h).bind λz=>some (z.1,V2)else(jX m (bf .u64 (bE .u64 (wJ (wI ((wI ((if(-1074)>(wI (e.1-52))then(-1074)else(wI (e.1-52)))+1))+1075))) 52) 0) a).bind λA=>some (A.1,V2)else bif decide ((wJ g.1.1)<4503599627370496)then(jX m (wJ g.1.1) a).bind λB=>some (B.1,V2)else bif decide ((wI ((if(-1074)>(wI (e.1-52))then(-1074)else(wI (e.1-52)))+1075))>=2047)then(Au m a h).bind λC=>some (C.1,V2)else(jX m (bf .u64 (bE .u64 (wJ (wI ((if(-1074)>(wI (e.1-52))then(-1074)else(wI (e.1-52)))+1075))) 52) (wJ ((wJ g.1.1)-4503599627370496))) a).bind λD=>some (D.1,V2)
def Gd (a:Bool) (b:Bool) (c:LI) (d:Int) (f:Int):Option i7:=by apply(?_:ut (let e:=some (9221120237041090560,V2);(mi m a b c d).bind λx=>bif x.1.1 then e else(pp (nP m) x.1).bind λy=>bif decide (y.1<0)then e else(pp (nP m) x.1).bind λz=>bif z.1==0 then some (0,V2)else(pp (ET m) x.1 56).bind λA=>(pu (xL m) A.1 f).bind λB=>some (B.1,V2)));dsimp only[pp,pu];exact λg _=>g
def Ot (a:LI):Option jz:=(WI m a a).bind λe=>(Gd m e.1.1 e.1.2.1 e.1.2.2.1 e.1.2.2.2.1 0).bind λg=>some (g.1,ul)
def CH (a:Int):Option jz:=by apply(?_:ut (let x(e:OZ):Option jz:=bif e.1==2047 then some (2,ul)else bif e.1==0 then bif e.2.1==0 then some (0,ul)else some (1,ul)else some (1,ul);(qE m a).bind λy=>bif y.1.1==2047 then bif y.1.2.1 !=0 then some (3,ul)else x y.1 else x y.1));dsimp only;exact λg _=>g
def uJ (a:Bool) (b:LI) (c:Bool) (d:LI):Option XA:=by apply(?_:ut (let e(y:LI)(x:oH):Option XA:=(dH m false y).bind λC=>some (((x.1,x.2.1,()),(C.1.1,C.1.2.1,()),0,()),V2);(dA m d).bind λA=>bif(A.1.length:Int)==0 then some (((false,[],()),(false,[],()),8,()),V2)else(dA m b).bind λD=>(sH m D.1 A.1).bind λz=>bif a then bif decide ((z.1.2.1.length:Int)>0)then(uH m z.1.1 ([1]:LI)).bind λE=>(xH m A.1 z.1.2.1).bind λF=>(dH m (!(a==c)) E.1).bind λG=>e F.1 G.1 else(dH m (!(a==c)) z.1.1).bind λH=>e z.1.2.1 H.1 else(dH m (!(a==c)) z.1.1).bind λB=>e z.1.2.1 B.1));dsimp only;exact λg _=>g
def ER (a:Bool) (b:Bool) (c:LI) (d:Int) (f:Bool) (h:Bool) (i:LI) (j:Int) (k:Int):Option (W3×Unit×Unit×Unit×Unit):=(qe m h i).bind λe=>(qe m b c).bind λg=>(u7 m b c).bind λy=>(jZ m y.1.1 y.1.2.1 (if(wI ((wI ((wI (k+3))+e.1))-g.1))>0 then(wI ((wI ((wI (k+3))+e.1))-g.1))else 0)).bind λz=>(u7 m h i).bind λA=>(uJ m z.1.1 z.1.2.1 A.1.1 A.1.2.1).bind λx=>(iz m x.1.2.1.1 x.1.2.1.2.1).bind λB=>some ((!(b==h),x.1.1.1,x.1.1.2.1,wI ((wI (d-(if(wI ((wI ((wI (k+3))+e.1))-g.1))>0 then(wI ((wI ((wI (k+3))+e.1))-g.1))else 0)))-j),B.1 !=0,()),u4)
def vg (a:Bool) (b:Bool) (c:LI) (d:Int) (f:Bool) (h:Bool) (i:LI) (j:Int) (k:Int):Option NI:=by apply(?_:ut (let e:=some (9221120237041090560,u4);(mi m a b c d).bind λx=>(mi m f h i j).bind λy=>bif x.1.1 then e else bif y.1.1 then e else(pp (nP m) y.1).bind λz=>bif z.1==0 then e else(pp (nP m) x.1).bind λA=>bif A.1==0 then some (0,u4)else(pp (pp (ER m) x.1) y.1 56).bind λB=>(pu (xL m) B.1 k).bind λC=>some (C.1,u4)));dsimp only[pp,pu];exact λg _=>g
def M3 (a:Int):Option o6:=(sw m a).bind λe=>some (!e.1,ul)
def nt:Nat->LI->Int->Int->Option rf
 |0,_,_,_=>none
 |n+1,a,b,c=>bif decide (c<b)then if 0<=c/\c<(a.length:Int)then(M3 m (a.getD c.toNat 0)).bind λe=>bif e.1 then some (.inl (c,()))else nt n a b (wI (c+1))else none else some (.inr (.inl ()))
def MS (a:LI):Option i7:=(nt m m a (a.length:Int) 0).bind λ|.inl g=>some (g.1,V2)|.inr (.inl x)=>some ((-1),V2)|.inr (.inr e)=>e.elim
def M5 (a:LI):Option uu:=(MS m a).bind λe=>some (decide (e.1>=0),V2)
def xU (a:LI):Option o6:=(M5 m a).bind λe=>some (!e.1,ul)
def sx:Nat->Int->LI->LI->Int->Int->Option q9
 |0,_,_,_,_,_=>none
 |n+1,a,b,c,d,f=>by apply(?_:ut (bif decide (f<d)then am c f 0 λe=>(cA m e).bind λy=>(cA m a).bind λz=>(pp (pp (vg m) y.1) z.1 0).bind λA=>gc b [A.1] λx=>sx n a x c d (wI (f+1))else some (.inl (b,()))));dsimp only[am,gc,pp];exact λg _=>g
def Oq (a:LI) (b:Int):Option W4:=(sx m m b [] a (a.length:Int) 0).bind λ|.inl g=>(xU m g.1).bind λx=>some ((g.1,x.1,()),V2)|.inr e=>e.elim
def g42 (a:LI) (b:LI) (c:LI) (d:LI) (f:LI) (h:LI) (i:Int) (j:LI) (k:Int):Option (CS×Unit×Unit×Unit×Unit):=by apply(?_:ut (let e:=(([],350,()),u4);let x:=(([],233,()),u4);let y(z:Int):=bif z !=0 then some (([],z,()),u4)else(Ot m j).bind λA=>(CH m A.1).bind λD=>bif D.1==0 then some (([],380,()),u4)else(sw m A.1).bind λE=>bif !E.1 then some x else(Oq m j A.1).bind λC=>bif !C.1.2.1 then some x else some ((C.1.1,0,()),u4);(xV m a b c d f h i).bind λB=>bif B.1 !=0 then y B.1 else bif(j.length:Int) !=(a.length:Int)then some (([],2,()),u4)else(xU m j).bind λF=>bif !F.1 then some (([],4,()),u4)else bif decide (k<1)then some e else bif decide (k>16)then some e else y B.1));dsimp only;exact λg _=>g
def nr:Nat->LI->Int->Int->Option rf
 |0,_,_,_=>none
 |n+1,a,b,c=>bif decide (c<b)then if 0<=c/\c<(a.length:Int)then(sw m (a.getD c.toNat 0)).bind λe=>bif !e.1 then some (.inl (4,()))else nr n a b (wI (c+1))else none else some (.inr (.inl ()))
def Aw (a:LI):Option jz:=(nr m m a (a.length:Int) 0).bind λ|.inl g=>some (g.1,ul)|.inr (.inl x)=>some (0,ul)|.inr (.inr e)=>e.elim
def E1 (a:LI) (b:Int):Option i7:=bif(a.length:Int) !=b then some (2,V2)else(Aw m a).bind λe=>some (e.1,V2)
def lk:Nat->LI->LI->LI->LI->LI->LI->Int->Int->LI->Int->Int->Option qW
 |0,_,_,_,_,_,_,_,_,_,_,_=>none
 |n+1,a,b,c,d,f,h,i,j,k,l,o=>by apply(?_:ut (let x(y:Int):=lk n a b c d f h i (wI (j+(wI ((wI (2*y))-1)))) k l (wI (o+1));bif decide (o<l)then am k o 0 λe=>bif e==1 then am c j 0 λz=>(CH m z).bind λA=>bif A.1==0 then some (.inl (true,()))else x e else x e else some (.inr (.inl ()))));dsimp only[am];exact λg _=>g
def AY (a:LI) (b:LI) (c:LI) (d:LI) (f:LI) (h:LI) (i:Int):Option o6:=(lk m m a b c d f h i 0 b (b.length:Int) 0).bind λ|.inl g=>some (g.1,ul)|.inr (.inl x)=>some (false,ul)|.inr (.inr e)=>e.elim
def nM (m:Nat):Nat->LI->LI->LI->Int->Int->Option q9
 |0,_,_,_,_,_=>none
 |n+1,a,b,c,d,f=>by apply(?_:ut (bif decide (f<d)then am c f 0 λe=>am a e 0 λx=>em b f<|nM m n a (b.set (0+f.toNat) x) c d (wI (f+1))else some (.inl (b,()))));dsimp only[am,em];exact λg _=>g
def uT (a:LI) (b:LI):Option xl:=by apply(?_:ut (lc (a.length:Int)<|(nM m m a (List.replicate (a.length:Int).toNat (0:Int)) b (b.length:Int) 0).bind λ|.inl x=>some (x.1,V2)|.inr e=>e.elim));dsimp only[lc];exact λg _=>g
def nK:Nat->cP->LI->Int->Int->Option W9
 |0,_,_,_,_=>none
 |n+1,a,b,c,d=>by apply(?_:ut (bif decide (d<c)then am b d 0 λe=>(cA m e).bind λx=>em a d<|nK n (a.set d.toNat ([(x.1.1,((x.1.2.1,x.1.2.2.1),x.1.2.2.2.1))]:List bA)) b c (wI (d+1))else some (.inl (a,()))));dsimp only[am,em];exact λg _=>g
def sW (a:LI):Option tI1:=by apply(?_:ut (lc (a.length:Int)<|(nK m m (List.replicate (a.length:Int).toNat []) a (a.length:Int) 0).bind λ|.inl x=>some (x.1,ul)|.inr e=>e.elim));dsimp only[lc];exact λg _=>g
def j5:Nat->c9->Bool->Bool->LI->Int->Int->Bool->LI->c9->Int->Int->Option ((c9×mu×Int×oH×Unit)⊕Empty)
 |0,_,_,_,_,_,_,_,_,_,_,_=>none
 |n+1,a,b,c,d,f,h,i,j,k,l,o=>by apply(?_:ut (let e:=k.getD (0+o.toNat) qz;bif decide (o<l)then em k o<|(jZ m e.2.1.1 e.2.1.2 (wI (e.2.2-h))).bind λx=>(gh m i j x.1.1 x.1.2.1).bind λy=>j5 n a b c d f h y.1.1 y.1.2.1 k l (wI (o+1))else some (.inl (a,(b,c,d,f,()),h,(i,j,()),()))));dsimp only[em];exact λg _=>g
def j6:Nat->c9->Bool->Bool->LI->Int->c9->Int->Int->Int->Option ((c9×mu×Unit)⊕(c9×mu×c9×Int×Unit)⊕Empty)
 |0,_,_,_,_,_,_,_,_,_=>none
 |n+1,a,b,c,d,f,h,i,j,k=>by apply(?_:ut (let e:=a.getD (0+k.toNat) qz;bif decide (k<j)then em a k<|(gR m e.1 e.2.1.1 e.2.1.2 e.2.2).bind λx=>bif !x.1.2.1 then(qq m).bind λz=>some (.inl (a,(rg z.1),()))else gc h [(x.1.1.1,((x.1.1.2.1,x.1.1.2.2.1),x.1.1.2.2.2.1))] λy=>j6 n a b c d f y (if x.1.1.2.2.2.1<i then x.1.1.2.2.2.1 else i) j (wI (k+1))else some (.inr (.inl (a,(b,c,d,f,()),h,i,())))));dsimp only[em,gc,rg];exact λg _=>g
def ta (a:List bA):Option tZ:=by apply(?_:ut ((j6 m m a false false [] 0 [] 0 (a.length:Int) 0).bind λ|.inl z=>some ((rg z.2.1),(z.1,()))|.inr (.inl x)=>((pp (j5 m m x.1) x.2.1 x.2.2.2.1 false [] x.2.2.1 (x.2.2.1.length:Int) 0).bind λ|.inl y=>(jr m y.2.2.2.1.1 y.2.2.2.1.2.1 y.2.2.1).bind λA=>some ((rg A.1),(y.1,()))|.inr e=>e.elim)|.inr (.inr e)=>e.elim));dsimp only[rg,pp];exact λg _=>g
def AT (a:List c9) (b:Int):Option (mu×cP×Unit×Unit):=by apply(?_:ut (am a b [] λe=>(ta m e).bind λx=>some ((rg x.1),(a.set b.toNat x.2.1,(),()))));dsimp only[am,rg];exact λg _=>g
def M1 (a:Bool) (b:Bool) (c:LI) (d:Int):Option (W3×Unit×Unit):=(u7 m b c).bind λe=>some ((b,e.1.1,e.1.2.1,d,false,()),ul)
def gn (a:Bool) (b:Bool) (c:LI) (d:Int) (f:Int):Option i7:=by apply(?_:ut ((mi m a b c d).bind λe=>bif e.1.1 then some (9221120237041090560,V2)else(pp (nP m) e.1).bind λx=>bif x.1==0 then some (0,V2)else(pp (M1 m) e.1).bind λy=>(pu (xL m) y.1 f).bind λz=>some (z.1,V2)));dsimp only[pp,pu];exact λg _=>g
def AU (a:List c9) (b:Int) (c:Int) (d:Int):Option (Unit×cP×Unit×Unit×Unit×Unit):=by apply(?_:ut (am a b [] λe=>(cA m c).bind λz=>(cA m d).bind λA=>(pp (pp (iB m) z.1) A.1).bind λB=>(pp (Bp m) B.1).bind λy=>gc e [(y.1.1,((y.1.2.1,y.1.2.2.1),y.1.2.2.2.1))] λx=>em a b<|if b.toNat=b.toNat then some ((),(a.set b.toNat x,(),(),(),()))else none));dsimp only[am,gc,em,pp];exact λg _=>g
def nN:Nat->LI->LI->LI->cP->LI->Int->Int->Int->Int->Option ((LI×LI×LI×cP×LI×Int×Int×Unit)⊕Empty)
 |0,_,_,_,_,_,_,_,_,_=>none
 |n+1,a,b,c,d,f,h,i,j,k=>by apply(?_:ut (am a (wI (h+1)) 0 λe=>bif decide (i<e)then am b i 0 λx=>am c i 0 λy=>em f h<|(AU m d x y (f.getD (0+h.toNat) 0)).bind λz=>nN n a b c z.2.1 f h (wI (i+1)) j k else some (.inl (a,b,c,d,f,j,k,()))));dsimp only[am,em];exact λg _=>g
def nO:Nat->LI->LI->LI->cP->LI->Int->Int->Option (CS⊕(LI×Unit)⊕Empty)
 |0,_,_,_,_,_,_,_=>none
 |n+1,a,b,c,d,f,h,i=>by apply(?_:ut (bif decide (i<h)then(AT m d i).bind λA=>(pp (gn m) A.1 0).bind λy=>em f i<|em (f.set (0+i.toNat) y.1) i<|(sw m ((f.set (0+i.toNat) y.1).getD (0+i.toNat) 0)).bind λB=>bif !B.1 then some (.inl ([],233,()))else am a i 0 λx=>(nN m m a b c A.2.1 (f.set (0+i.toNat) y.1) i x h i).bind λ|.inl z=>pu (nO n) z z.2.2.2.2.2.1 (wI (z.2.2.2.2.2.2.1+1))|.inr e=>e.elim else some (.inr (.inl (f,())))));dsimp only[em,am,pp,pu];exact λg _=>g
def uU (a:LI) (b:LI) (c:LI) (d:LI):Option (CS×Unit×Unit×Unit×Unit×Unit):=by apply(?_:ut ((sW m d).bind λy=>lc (d.length:Int)<|(nO m m a b c y.1 (List.replicate (d.length:Int).toNat (0:Int)) (d.length:Int) 0).bind λ|.inl x=>some ((x.1,x.2.1,()),vm)|.inr (.inl z)=>some ((z.1,0,()),vm)|.inr (.inr e)=>e.elim));dsimp only[lc];exact λg _=>g
def lh:Nat->LI->LI->LI->LI->LI->LI->LI->Int->LI->Int->Int->LI->Int->Int->Option q9
 |0,_,_,_,_,_,_,_,_,_,_,_,_,_,_=>none
 |n+1,a,b,c,d,f,h,i,j,k,l,o,p,q,r=>by apply(?_:ut (bif decide (r<q)then am p r 0 λe=>bif e==1 then am a l 0 λx=>(cA m x).bind λT=>am d o 0 λy=>(cA m y).bind λU=>(pp (pp (vg m) T.1) U.1 0).bind λV=>em k l<|lh n a b c d f h i j (k.set (0+l.toNat) V.1) (wI (l+e)) (wI ((wI (o+(wI (2*e))))-1)) p q (wI (r+1))else am d o 0 λz=>(cA m z).bind λQ=>am d (wI (o+1)) 0 λA=>(cA m A).bind λH=>am d (wI (o+2)) 0 λB=>(cA m B).bind λR=>(pp (pp (iB m) Q.1) R.1).bind λW=>(pp (pp (iB m) H.1) H.1).bind λX=>(pp (pp (ud m) W.1) X.1).bind λS=>am a l 0 λC=>(cA m C).bind λE=>am a (wI (l+1)) 0 λD=>(cA m D).bind λF=>(pp (pp (iB m) E.1) R.1).bind λI=>(pp (pp (iB m) F.1) H.1).bind λJ=>(pp (pp (ud m) I.1) J.1).bind λK=>(pp (pp (vg m) K.1) S.1 0).bind λG=>em k l<|(pp (pp (iB m) F.1) Q.1).bind λL=>(pp (pp (iB m) E.1) H.1).bind λM=>(pp (pp (ud m) L.1) M.1).bind λN=>(pp (pp (vg m) N.1) S.1 0).bind λP=>em (k.set (0+l.toNat) G.1) (wI (l+1))<|lh n a b c d f h i j ((k.set (0+l.toNat) G.1).set (0+(wI (l+1)).toNat) P.1) (wI (l+e)) (wI ((wI (o+(wI (2*e))))-1)) p q (wI (r+1))else some (.inl (k,()))));dsimp only[am,em,pp];exact λg _=>g
def uR (a:LI) (b:LI) (c:LI) (d:LI) (f:LI) (h:LI) (i:Int) (j:LI):Option UO:=if 0<=(j.length:Int)/\(j.length:Int)<=(j.length:Int)/\(j.length:Int)<=1073741824 then (lh m m j a b c d f h i (List.replicate (j.length:Int).toNat (0:Int)) 0 0 b (b.length:Int) 0).bind λx=>match x with
 |.inl g=>(Aw m g.1).bind λy=>bif y.1 !=0 then some (([],233,()),V2)else some ((g.1,0,()),V2)
 |.inr e=>e.elim else none
def nJ (m:Nat):Nat->LI->LI->LI->Int->Int->Option q9
 |0,_,_,_,_,_=>none
 |n+1,a,b,c,d,f=>by apply(?_:ut (bif decide (f<d)then am c f 0 λe=>am a f 0 λx=>em b e<|nJ m n a (b.set (0+e.toNat) x) c d (wI (f+1))else some (.inl (b,()))));dsimp only[am,em];exact λg _=>g
def uQ (a:LI) (b:LI):Option xl:=by apply(?_:ut (lc (a.length:Int)<|(nJ m m a (List.replicate (a.length:Int).toNat (0:Int)) b (b.length:Int) 0).bind λ|.inl x=>some (x.1,V2)|.inr e=>e.elim));dsimp only[lc];exact λg _=>g
def ou:Nat->LI->LI->LI->LI->LI->LI->Int->cP->LI->Int->Int->Option ((iH×cP×LI×Int×Unit)⊕Empty)
 |0,_,_,_,_,_,_,_,_,_,_,_=>none
 |n+1,a,b,c,d,f,h,i,j,k,l,o=>by apply(?_:ut (am d (wI (l+1)) 0 λx=>bif decide (o<x)then am h o 0 λy=>am f o 0 λe=>em k e<|(AU m j l y (k.getD (0+e.toNat) 0)).bind λz=>ou n a b c d f h i z.2.1 k l (wI (o+1))else some (.inl ((a,b,c,d,f,h,i,()),j,k,l,()))));dsimp only[am,em];exact λg _=>g
def fO:Nat->LI->LI->LI->LI->LI->LI->Int->cP->LI->Int->Option tY
 |0,_,_,_,_,_,_,_,_,_,_=>none
 |n+1,a,b,c,d,f,h,i,j,k,l=>by apply(?_:ut (bif decide (l>=0)then am d l 0 λy=>(ou m m a b c d f h i j k l y).bind λ|.inl x=>(AT m x.2.1 x.2.2.2.1).bind λA=>(pp (gn m) A.1 0).bind λz=>em x.2.2.1 x.2.2.2.1<|em (x.2.2.1.set (0+x.2.2.2.1.toNat) z.1) x.2.2.2.1<|(sw m ((x.2.2.1.set (0+x.2.2.2.1.toNat) z.1).getD (0+x.2.2.2.1.toNat) 0)).bind λB=>bif !B.1 then some (.inl ([],233,()))else qr (fO n) x.1 A.2.1 (x.2.2.1.set (0+x.2.2.2.1.toNat) z.1) (wI (x.2.2.2.1-1))|.inr e=>e.elim else some (.inr (.inl ((a,b,c,d,f,h,i,()),k,())))));dsimp only[am,em,pp,qr];exact λg _=>g
def xT (a:LI) (b:LI) (c:LI) (d:LI) (f:LI) (h:LI) (i:Int) (j:LI):Option UO:=by apply(?_:ut (let x(C:Int):=some (([],C,()),V2);let z(A:Int):=bif A !=0 then x A else(uT m j a).bind λJ=>(uU m d f h J.1).bind λF=>bif F.1.2.1 !=0 then x F.1.2.1 else(uR m a b c d f h i F.1.1).bind λD=>bif D.1.2.1 !=0 then x D.1.2.1 else(sW m D.1.1).bind λK=>lc (D.1.1.length:Int)<|(fO m m a b c d f h i K.1 (List.replicate (D.1.1.length:Int).toNat (0:Int)) (wI ((D.1.1.length:Int)-1))).bind λ|.inl H=>some ((H.1,H.2.1,()),V2)|.inr (.inl E)=>(uQ m E.2.1 E.1.1).bind λG=>some ((G.1,0,()),V2)|.inr (.inr e)=>e.elim;let B(y:Int):=bif y==0 then(AY m a b c d f h i).bind λL=>bif L.1 then some (([],9,()),V2)else z y else z y;(xV m a b c d f h i).bind λI=>bif I.1==0 then(E1 m j (a.length:Int)).bind λM=>B M.1 else B I.1));dsimp only[lc];exact λg _=>g
def m8:Nat->LI->LI->Bool->Bool->LI->Int->c9->Int->Int->Option tV
 |0,_,_,_,_,_,_,_,_,_=>none
 |n+1,a,b,c,d,f,h,i,j,k=>by apply(?_:ut (bif decide (k<j)then am a k 0 λe=>(cA m e).bind λz=>em b k<|(cA m (b.getD (0+k.toNat) 0)).bind λA=>(pp (pp (iB m) z.1) A.1).bind λy=>gc i [(y.1.1,((y.1.2.1,y.1.2.2.1),y.1.2.2.2.1))] λx=>m8 n a b c d f h x j (wI (k+1))else some (.inl (b,(c,d,f,h,()),i,()))));dsimp only[am,em,gc,pp];exact λg _=>g
def zt (a:LI) (b:LI):Option (mu×Unit×LI×Unit):=(m8 m m a b false false [] 0 [] (a.length:Int) 0).bind λ|.inl x=>(Bu m x.2.2.1).bind λg=>some ((g.1.1,g.1.2.1,g.1.2.2.1,g.1.2.2.2.1,()),((),x.1,()))|.inr e=>e.elim
def ot:Nat->LI->LI->Int->Int->Int->Option q9
 |0,_,_,_,_,_=>none
 |n+1,a,b,c,d,f=>by apply(?_:ut (bif decide (f<d)then em a f<|(cA m (a.getD (0+f.toNat) 0)).bind λx=>(cA m c).bind λy=>am b f 0 λe=>(cA m e).bind λz=>(pp (pp (iB m) y.1) z.1).bind λA=>(pp (pp (ud m) x.1) A.1).bind λB=>(pp (gn m) B.1 0).bind λC=>em a f<|ot n (a.set (0+f.toNat) C.1) b c d (wI (f+1))else some (.inl (a,()))));dsimp only[em,am,pp];exact λg _=>g
def Gf (a:LI) (b:LI):Option (Bool×LI×Unit×Unit):=(zt m b a).bind λg=>(gn m g.1.1 g.1.2.1 g.1.2.2.1 g.1.2.2.2.1 0).bind λx=>(sw m x.1).bind λz=>bif !z.1 then some (false,(g.2.2.1,(),()))else(ot m m g.2.2.1 b x.1 (g.2.2.1.length:Int) 0).bind λ|.inl y=>(xU m y.1).bind λA=>some (A.1,(y.1,(),()))|.inr e=>e.elim
def sy:Nat->LI->LI->List LI->LI->Int->Int->Int->Option (W6⊕W6⊕Empty)
 |0,_,_,_,_,_,_,_=>none
 |n+1,a,b,c,d,f,h,i=>bif decide (i<h)then if 0<=i/\i<(c.length:Int)then(Gf m d (c.getD (0+i.toNat) [])).bind λe=>bif !e.1 then some (.inl ((a,b,c,()),[],233,()))else sy n a b c e.2.1 f h (wI (i+1))else none else some (.inr (.inl ((a,b,c,()),d,f,())))
def nb:Nat->LI->LI->List LI->LI->Int->Option (W6⊕((LI×LI×List LI×Unit)×LI×Unit)⊕Empty)
 |0,_,_,_,_,_=>none
 |n+1,a,b,c,d,f=>bif decide (f<2)then(sy m m a b c d f (c.length:Int) 0).bind λ|.inl g=>some (.inl ((g.1.1,g.1.2.1,g.1.2.2.1,()),g.2.1,g.2.2.1,()))|.inr (.inl x)=>nb n x.1.1 x.1.2.1 x.1.2.2.1 x.2.1 (wI (x.2.2.1+1))|.inr (.inr e)=>e.elim else some (.inr (.inl ((a,b,c,()),d,())))
def WN (a:LI) (b:LI) (c:List LI) (d:LI) (f:LI) (h:LI) (i:LI) (j:LI) (k:LI) (l:Int):Option (CS×(LI×LI×List LI×Unit)×Unit×Unit):=by apply(?_:ut (let x:=wI ((c.length:Int)-1);let y:=c.getD (0+x.toNat) [];em c x<|(xT m d f h i j k l y).bind λA=>bif A.1.2.1 !=0 then some (([],A.1.2.1,()),((a,b,c,()),(),()))else(zt m y A.1.1).bind λC=>(pp (gn m) C.1 0).bind λD=>(sw m D.1).bind λF=>bif !F.1 then some (([],233,()),((a,b,c,()),(),()))else gc a [D.1] λz=>(nb m m z b c C.2.2.1 0).bind λ|.inl B=>some ((B.2.1,B.2.2.1,()),((rc B.1),(),()))|.inr (.inl E)=>some ((E.2.1,0,()),((rc E.1),(),()))|.inr (.inr e)=>e.elim));dsimp only[em,gc,pp,rc];exact λg _=>g
def tf:Nat->Int->LI->LI->LI->LI->LI->LI->Int->LI->LI->List LI->LI->LI->List LI->Option (tf1⊕Empty)
 |0,_,_,_,_,_,_,_,_,_,_,_,_,_,_=>none
 |n+1,a,b,c,d,f,h,i,j,k,l,o,p,q,r=>by apply(?_:ut ((WN m p q r b c d f h i j).bind λe=>bif e.1.2.1 !=0 then some (.inl (([],[],[],()),e.1.2.1,()))else bif(e.2.1.1.length:Int)==a then some (.inl ((rc e.2.1),0,()))else(Ot m e.1.1).bind λz=>(CH m z.1).bind λB=>bif B.1==0 then some (.inl ((rc e.2.1),0,()))else(Oq m e.1.1 z.1).bind λA=>(sw m z.1).bind λC=>bif !C.1 then some (.inl (([],[],[],()),233,()))else bif !A.1.2.1 then some (.inl (([],[],[],()),233,()))else gc e.2.1.2.1 [z.1] λx=>gc e.2.1.2.2.1 [A.1.1] λy=>tf n a b c d f h i j k l o e.2.1.1 x y));dsimp only[gc,rc];exact λg _=>g
def Ox (a:LI) (b:LI) (c:LI) (d:LI) (f:LI) (h:LI) (i:Int) (j:LI) (k:Int):Option (tf1×Unit×Unit×Unit×Unit):=(g42 m a b c d f h i j k).bind λx=>bif x.1.2.1 !=0 then some ((([],[],[],()),x.1.2.1,()),u4)else(tf m m k a b c d f h i [] [] [] [] [] [x.1.1]).bind λ|.inl g=>some (((g.1.1,g.1.2.1,g.1.2.2.1,()),g.2.1,()),u4)|.inr e=>e.elim
def AR (m:Nat):Nat->LI->Int->Int->Option qW
 |0,_,_,_=>none
 |n+1,a,b,c=>by apply(?_:ut (bif decide (c<b)then am a c 0 λe=>am a (wI (c+1)) 0 λx=>bif decide (e>x)then some (.inl (false,()))else AR m n a b (wI (c+1))else some (.inr (.inl ()))));dsimp only[am];exact λg _=>g
def g213 (a:LI) (b:Int) (c:Int):Option WZ:=by apply(?_:ut (let x:=some (false,u4);bif(a.length:Int) !=(wI (b+1))then x else if(0:Int)<=0/\0<(a.length:Int)then bif(a.getD 0 0) !=0 then x else am a b 0 λy=>bif y !=c then x else(AR m m a b 0).bind λ|.inl z=>some (z.1,u4)|.inr (.inl A)=>some (true,u4)|.inr (.inr e)=>e.elim else none));dsimp only[am];exact λg _=>g
def vd (m:Nat):Nat->LI->LI->LI->LI->LI->LI->Int->Int->Int->Int->Int->Int->Int->Option (Lf⊕(iH×Int×Int×Int×Int×Int×Unit)⊕Empty)
 |0,_,_,_,_,_,_,_,_,_,_,_,_,_=>none
 |n+1,a,b,c,d,f,h,i,j,k,l,o,p,q=>by apply(?_:ut (am d (wI (p+1)) 0 λx=>bif decide (q<x)then am f q 0 λe=>bif decide (e<=o)then some (.inl (false,()))else em f q<|bif decide (e>=j)then some (.inl (false,()))else am d p 0 λy=>bif decide (q>y)then em f q<|am f (wI (q-1)) 0 λz=>bif decide (e<=z)then some (.inl (false,()))else vd m n a b c d f h i j k l o p (wI (q+1))else vd m n a b c d f h i j k l o p (wI (q+1))else some (.inr (.inl ((a,b,c,d,f,h,i,()),j,k,l,o,p,())))));dsimp only[am,em];exact λg _=>g
def ve:Nat->LI->LI->LI->LI->LI->LI->Int->Int->Int->Int->Int->Int->Option (Lf⊕(iH×Int×Int×Int×Int×Unit)⊕Empty)
 |0,_,_,_,_,_,_,_,_,_,_,_,_=>none
 |n+1,a,b,c,d,f,h,i,j,k,l,o,p=>by apply(?_:ut (bif decide (p<=o)then am d p 0 λx=>(vd m m a b c d f h i j k l o p x).bind λ|.inl z=>some (.inl (z.1,()))|.inr (.inl y)=>pu (qr (ve n)) y (wI (y.2.2.2.2.2.1+1))|.inr (.inr e)=>e.elim else some (.inr (.inl ((a,b,c,d,f,h,i,()),j,k,l,o,())))));dsimp only[am,qr,pu];exact λg _=>g
def vf:Nat->LI->LI->LI->LI->LI->LI->Int->Int->Int->Int->Int->Option (Lf⊕(iH×Int×Int×Int×Unit)⊕Empty)
 |0,_,_,_,_,_,_,_,_,_,_,_=>none
 |n+1,a,b,c,d,f,h,i,j,k,l,o=>by apply(?_:ut (let y(z:Int):=em b o<|bif decide ((wI (k+z))>j)then some (.inl (false,()))else em b o<|(ve m m a b c d f h i j l o (wI ((wI (k+z))-1)) k).bind λ|.inl C=>some (.inl (C.1,()))|.inr (.inl A)=>am A.1.2.1 A.2.2.2.1 0 λB=>qr (vf n) A.1 A.2.1 (wI (A.2.2.2.2.1+1)) (wI ((wI (A.2.2.1+(wI (2*B))))-1)) (wI (A.2.2.2.1+1))|.inr (.inr e)=>e.elim;bif decide (o<(b.length:Int))then am b o 0 λx=>bif x !=1 then em b o<|bif x !=2 then some (.inl (false,()))else y x else y x else some (.inr (.inl ((a,b,c,d,f,h,i,()),j,k,l,())))));dsimp only[am,em,qr];exact λg _=>g
def g114 (a:LI) (b:LI) (c:LI) (d:LI) (f:LI) (h:LI) (i:Int):Option o6:=bif decide (i<0)then some (false,ul)else(g213 m d (a.length:Int) (f.length:Int)).bind λx=>bif !x.1 then some (false,ul)else(vf m m a b c d f h i (a.length:Int) 0 0 0).bind λ|.inl y=>some (y.1,ul)|.inr (.inl g)=>bif g.2.2.1==g.2.1 then some (g.2.2.2.1==(g.1.2.2.1.length:Int),ul)else some (false,ul)|.inr (.inr e)=>e.elim
def Ad:Nat->LI->LI->LI->LI->LI->LI->Int->Int->Int->Option rf
 |0,_,_,_,_,_,_,_,_,_=>none
 |n+1,a,b,c,d,f,h,i,j,k=>by apply(?_:ut (let x(y:Int):=em b k<|Ad n a b c d f h i (wI ((wI (j+(wI (2*y))))-1)) (wI (k+1));bif decide (k<(b.length:Int))then am b k 0 λe=>bif e==2 then if 0<=j/\j<=(wI (j+3))/\(wI (j+3))<=(c.length:Int)then(tk m ((c.drop j.toNat).take ((wI (j+3)).toNat-j.toNat))).bind λz=>(pp (vc m) z.1).bind λA=>bif A.1==0 then some (.inl (4,()))else x e else none else x e else some (.inr (.inl ()))));dsimp only[am,em,pp];exact λg _=>g
def HM:Nat->LI->LI->LI->LI->LI->LI->Int->Int->Option Xs
 |0,_,_,_,_,_,_,_,_=>none
 |n+1,a,b,c,d,f,h,i,j=>bif decide (j<(c.length:Int))then if 0<=j/\j<(c.length:Int)then(wz m (c.getD j.toNat 0)).bind λe=>bif !e.1 then some (.inl (4,()))else HM n a b c d f h i (wI (j+1))else none else some (.inr (.inl ((a,b,c,d,f,h,i,()),())))
def HN:Nat->LI->LI->LI->LI->LI->LI->Int->Int->Option Xs
 |0,_,_,_,_,_,_,_,_=>none
 |n+1,a,b,c,d,f,h,i,j=>bif decide (j<(h.length:Int))then if 0<=j/\j<(h.length:Int)then(wz m (h.getD j.toNat 0)).bind λe=>bif !e.1 then some (.inl (4,()))else HN n a b c d f h i (wI (j+1))else none else some (.inr (.inl ((a,b,c,d,f,h,i,()),())))
def g48 (a:LI) (b:LI) (c:LI) (d:LI) (f:LI) (h:LI) (i:Int):Option jz:=by apply(?_:ut (bif decide ((a.length:Int)>200)then some (6,ul)else(BN m a (a.length:Int)).bind λy=>bif !y.1 then some (90,ul)else bif(d.length:Int) !=(wI ((a.length:Int)+1))then some (2,ul)else bif(f.length:Int) !=(h.length:Int)then some (2,ul)else(g114 m a b c d f h i).bind λz=>bif !z.1 then some (240,ul)else(HN m m a b c d f h i 0).bind λ|.inl A=>some (A.1,ul)|.inr (.inl B)=>((qr (HM m m) B.1 0).bind λ|.inl C=>some (C.1,ul)|.inr (.inl D)=>((qr (Ad m m) D.1 0 0).bind λ|.inl x=>some (x.1,ul)|.inr (.inl E)=>some (0,ul)|.inr (.inr e)=>e.elim)|.inr (.inr e)=>e.elim)|.inr (.inr e)=>e.elim));dsimp only[qr];exact λg _=>g
def sv:Nat->LI->Int->Option qW
 |0,_,_=>none
 |n+1,a,b=>bif decide (b<(a.length:Int))then if 0<=b/\b<(a.length:Int)then(wz m (a.getD b.toNat 0)).bind λe=>bif !e.1 then some (.inl (false,()))else sv n a (wI (b+1))else none else some (.inr (.inl ()))
def Mk (a:LI):Option o6:=(sv m m a 0).bind λ|.inl g=>some (g.1,ul)|.inr (.inl x)=>some (true,ul)|.inr (.inr e)=>e.elim
def g120 (a:Int) (b:Int) (c:LI):Option NI:=bif a !=0 then some (a,u4)else bif(c.length:Int) !=b then some (2,u4)else(Mk m c).bind λe=>bif !e.1 then some (4,u4)else some (0,u4)
def BM (m:Nat):Nat->LI->LI->LI->Int->Option q9
 |0,_,_,_,_=>none
 |n+1,a,b,c,d=>by apply(?_:ut (bif decide (d<(b.length:Int))then am b d 0 λe=>am a e 0 λx=>em c d<|BM m n a b (c.set (0+d.toNat) x) (wI (d+1))else some (.inl (c,()))));dsimp only[am,em];exact λg _=>g
def g121 (a:LI) (b:LI):Option xl:=by apply(?_:ut (lc (b.length:Int)<|(BM m m a b (List.replicate (b.length:Int).toNat (0:Int)) 0).bind λ|.inl x=>some (x.1,V2)|.inr e=>e.elim));dsimp only[lc];exact λg _=>g
def BL:Nat->LI->LI->Bool->Bool->LI->Int->c9->Int->Option tV
 |0,_,_,_,_,_,_,_,_=>none
 |n+1,a,b,c,d,f,h,i,j=>by apply(?_:ut (bif decide (j<(a.length:Int))then am a j 0 λe=>em b j<|(oT m e (b.getD (0+j.toNat) 0)).bind λz=>(pp (Rr m) z.1).bind λy=>gc i [(y.1.1,((y.1.2.1,y.1.2.2.1),y.1.2.2.2.1))] λx=>BL n a b c d f h x (wI (j+1))else some (.inl (b,(c,d,f,h,()),i,()))));dsimp only[am,em,gc,pp];exact λg _=>g
def TS (a:Bool) (b:Bool) (c:LI) (d:Int) (f:LI) (h:LI):Option (mu×Unit×Unit×LI×Unit):=(BL m m f h false false [] 0 ([(a,((b,c),d))]:List bA) 0).bind λ|.inl x=>(Ov m x.2.2.1).bind λg=>some ((g.1.1,g.1.2.1,g.1.2.2.1,g.1.2.2.2.1,()),((),(),x.1,()))|.inr e=>e.elim
def BJ (m:Nat):Nat->List LI->List LI->Int->Int->Option ((List LI×List LI×Int×Unit)⊕Empty)
 |0,_,_,_,_=>none
 |n+1,a,b,c,d=>by apply(?_:ut (bif decide (d<(a.length:Int))then am b c [] λe=>am a d [] λx=>am x c 0 λy=>em e d<|BJ m n a (b.set c.toNat (e.set d.toNat y)) c (wI (d+1))else some (.inl (a,b,c,()))));dsimp only[am,em];exact λg _=>g
def BK:Nat->List LI->List LI->Int->Option (tU⊕Empty)
 |0,_,_,_=>none
 |n+1,a,b,c=>by apply(?_:ut (bif decide (c<(a.length:Int))then lc (a.length:Int)<|if 0<[List.replicate (a.length:Int).toNat (0:Int)].length/\b.length+[List.replicate (a.length:Int).toNat (0:Int)].length<=1073741824 then(BJ m m a (b++[List.replicate (a.length:Int).toNat (0:Int)]) c 0).bind λ|.inl x=>BK n x.1 x.2.1 (wI (x.2.2.1+1))|.inr e=>e.elim else none else some (.inl (b,()))));dsimp only[lc];exact λg _=>g
def g123 (a:List LI):Option (List LI×Unit×Unit):=(BK m m a [] 0).bind λ|.inl g=>some (g.1,ul)|.inr e=>e.elim
def BI (m:Nat):Nat->LI->LI->LI->Int->Option q9
 |0,_,_,_,_=>none
 |n+1,a,b,c,d=>by apply(?_:ut (bif decide (d<(b.length:Int))then am b d 0 λe=>am a d 0 λx=>em c e<|BI m n a b (c.set (0+e.toNat) x) (wI (d+1))else some (.inl (c,()))));dsimp only[am,em];exact λg _=>g
def g124 (a:LI) (b:LI):Option xl:=by apply(?_:ut (lc (b.length:Int)<|(BI m m a b (List.replicate (b.length:Int).toNat (0:Int)) 0).bind λ|.inl x=>some (x.1,V2)|.inr e=>e.elim));dsimp only[lc];exact λg _=>g
def HG:Nat->LI->LI->LI->LI->LI->LI->Int->LI->List LI->Int->Option tY
 |0,_,_,_,_,_,_,_,_,_,_=>none
 |n+1,a,b,c,d,f,h,i,j,k,l=>by apply(?_:ut (let y:=j.length-(wI (l+1)).toNat;let x:=(0+(wI (l+1)).toNat)+y;let z(A:LI)(B:Int):=(j.take (0+(wI (l+1)).toNat)++(A++j.drop x)).set (0+l.toNat) B;bif decide (l>=0)then em j l<|(gk m (j.getD (0+l.toNat) 0)).bind λE=>am k l [] λe=>if 0<=(wI (l+1))/\(wI (l+1))<=(e.length:Int)/\(e.length:Int)<=(e.length:Int)then if 0<=(wI (l+1))/\(wI (l+1))<=(j.length:Int)/\(j.length:Int)<=(j.length:Int)then if 0<j.length then(pp (TS m) E.1 (e.drop (wI (l+1)).toNat) ((j.drop (0+(wI (l+1)).toNat)).take y)).bind λC=>(pp (CG m) C.1).bind λD=>em (j.take (0+(wI (l+1)).toNat)++(C.2.2.2.1++j.drop x)) l<|em ((j.take (0+(wI (l+1)).toNat)++(C.2.2.2.1++j.drop x)).set (0+l.toNat) D.1) l<|(wz m ((z C.2.2.2.1 D.1).getD (0+l.toNat) 0)).bind λF=>bif !F.1 then some (.inl ([],233,()))else HG n a b c d f h i (z C.2.2.2.1 D.1) k (wI (l-1))else none else none else none else some (.inr (.inl ((a,b,c,d,f,h,i,()),j,())))));dsimp only[em,am,pp,-dreduceIte];exact λg _=>g
def Ab:Nat->LI->LI->LI->LI->LI->LI->Int->Int->Int->List LI->LI->Int->Int->Option (tC1⊕Empty)
 |0,_,_,_,_,_,_,_,_,_,_,_,_,_=>none
 |n+1,a,b,c,d,f,h,i,j,k,l,o,p,q=>by apply(?_:ut (let y:=c.drop k.toNat;let x(B:Int):=y.take ((wI ((wI (k+(wI (2*B))))-1)).toNat-k.toNat);let z:=o.getD (0+p.toNat) 0;let A:=o.getD (0+(wI (p+1)).toNat) 0;bif decide (q<(b.length:Int))then am b q 0 λe=>if 0<=k/\k<=(wI ((wI (k+(wI (2*e))))-1))/\(wI ((wI (k+(wI (2*e))))-1))<=(c.length:Int)then em b q<|bif e==1 then em o p<|(gk m z).bind λG=>if(0:Int)<=0/\0<((y.take ((wI ((wI (k+(wI (2*e))))-1)).toNat-k.toNat)).length:Int)then(gk m ((x e).getD 0 0)).bind λH=>(pp (pp (oS m) G.1) H.1).bind λI=>em o p<|em b q<|Ab n a b c d f h i j (wI (k+((x e).length:Int))) l (o.set (0+p.toNat) I.1) (wI (p+e)) (wI (q+1))else none else em o p<|if(0:Int)<=2/\2<((y.take ((wI ((wI (k+(wI (2*e))))-1)).toNat-k.toNat)).length:Int)then(oT m z ((x e).getD 2 0)).bind λJ=>em o (wI (p+1))<|if(0:Int)<=1/\1<((y.take ((wI ((wI (k+(wI (2*e))))-1)).toNat-k.toNat)).length:Int)then(oT m A ((x e).getD 1 0)).bind λK=>(pp (pp (sX m) J.1) K.1).bind λL=>em o (wI (p+1))<|if(0:Int)<=0/\0<((y.take ((wI ((wI (k+(wI (2*e))))-1)).toNat-k.toNat)).length:Int)then(oT m A ((x e).getD 0 0)).bind λM=>em o p<|if(0:Int)<=1/\1<((y.take ((wI ((wI (k+(wI (2*e))))-1)).toNat-k.toNat)).length:Int)then(oT m z ((x e).getD 1 0)).bind λN=>(pp (pp (sX m) M.1) N.1).bind λP=>(tk m (x e)).bind λD=>(pp (pp (oS m) L.1) D.1).bind λC=>(tk m (x e)).bind λE=>(pp (pp (oS m) P.1) E.1).bind λF=>em o p<|em (o.set (0+p.toNat) C.1) (wI (p+1))<|em b q<|Ab n a b c d f h i j (wI (k+((x e).length:Int))) l ((o.set (0+p.toNat) C.1).set (0+(wI (p+1)).toNat) F.1) (wI (p+e)) (wI (q+1))else none else none else none else none else none else some (.inl ((a,b,c,d,f,h,i,()),j,l,o,()))));dsimp only[am,em,pp,-dreduceIte];exact λg _=>g
def HH:Nat->LI->LI->LI->LI->LI->LI->Int->Int->List LI->LI->Int->Option (CS⊕tC1⊕Empty)
 |0,_,_,_,_,_,_,_,_,_,_,_=>none
 |n+1,a,b,c,d,f,h,i,j,k,l,o=>by apply(?_:ut (bif decide (o<j)then em l o<|(gk m (l.getD (0+o.toNat) 0)).bind λz=>am k o [] λe=>if(0:Int)<=0/\0<=o/\o<=(e.length:Int)then if(0:Int)<=0/\0<=o/\o<=(l.length:Int)then if 0<l.length then(pp (TS m) z.1 (e.take o.toNat) ((l.drop 0).take (o.toNat-0))).bind λx=>(pp (CG m) x.1).bind λy=>em (l.take 0++(x.2.2.2.1++l.drop (0+(o.toNat-0)))) o<|em ((l.take 0++(x.2.2.2.1++l.drop (0+(o.toNat-0)))).set (0+o.toNat) y.1) o<|(wz m (((l.take 0++(x.2.2.2.1++l.drop (0+(o.toNat-0)))).set (0+o.toNat) y.1).getD (0+o.toNat) 0)).bind λA=>bif !A.1 then some (.inl ([],233,()))else HH n a b c d f h i j k ((l.take 0++(x.2.2.2.1++l.drop (0+(o.toNat-0)))).set (0+o.toNat) y.1) (wI (o+1))else none else none else none else some (.inr (.inl ((a,b,c,d,f,h,i,()),j,k,l,())))));dsimp only[em,am,pp,-dreduceIte];exact λg _=>g
def HI (m:Nat):Nat->LI->LI->LI->LI->LI->LI->LI->Int->Int->List LI->Int->Int->Option ((LI×iH×Int×List LI×Int×Unit)⊕Empty)
 |0,_,_,_,_,_,_,_,_,_,_,_,_=>none
 |n+1,a,b,c,d,f,h,i,j,k,l,o,p=>by apply(?_:ut (am f (wI (o+1)) 0 λy=>bif decide (p<y)then am h p 0 λe=>am l e [] λx=>am i p 0 λz=>em x o<|HI m n a b c d f h i j k (l.set e.toNat (x.set o.toNat z)) o (wI (p+1))else some (.inl (a,(b,c,d,f,h,i,j,()),k,l,o,()))));dsimp only[am,em];exact λg _=>g
def HJ:Nat->LI->LI->LI->LI->LI->LI->LI->Int->Int->List LI->Int->Option tu
 |0,_,_,_,_,_,_,_,_,_,_,_=>none
 |n+1,a,b,c,d,f,h,i,j,k,l,o=>by apply(?_:ut (bif decide (o<k)then am f o 0 λx=>(HI m m a b c d f h i j k l o x).bind λ|.inl y=>pm (qr (HJ n y.1)) y.2 (wI (y.2.2.2.2.1+1))|.inr e=>e.elim else some (.inl (a,(b,c,d,f,h,i,j,()),k,l,()))));dsimp only[am,qr,pm];exact λg _=>g
def HK (m:Nat):Nat->LI->LI->LI->LI->LI->LI->LI->Int->Int->List LI->Int->Option tu
 |0,_,_,_,_,_,_,_,_,_,_,_=>none
 |n+1,a,b,c,d,f,h,i,j,k,l,o=>bif decide (o<k)then if 0<=k/\k<=k/\k<=1073741824 then if 0<[List.replicate k.toNat (0:Int)].length/\l.length+[List.replicate k.toNat (0:Int)].length<=1073741824 then HK m n a b c d f h i j k (l++[List.replicate k.toNat (0:Int)]) (wI (o+1))else none else none else some (.inl (a,(b,c,d,f,h,i,j,()),k,l,()))
def Ac:Nat->LI->LI->LI->LI->LI->LI->LI->Int->Int->Int->Int->Option (CS⊕(LI×iH×Int×Unit)⊕Empty)
 |0,_,_,_,_,_,_,_,_,_,_,_=>none
 |n+1,a,b,c,d,f,h,i,j,k,l,o=>by apply(?_:ut (bif decide (o<(c.length:Int))then am c o 0 λe=>bif e==1 then am d l 0 λx=>(Rz m x).bind λy=>bif y.1 then some (.inl ([],9,()))else em c o<|Ac n a b c d f h i j k (wI ((wI (l+(wI (2*e))))-1)) (wI (o+1))else em c o<|Ac n a b c d f h i j k (wI ((wI (l+(wI (2*e))))-1)) (wI (o+1))else some (.inr (.inl (a,(b,c,d,f,h,i,j,()),k,())))));dsimp only[am,em];exact λg _=>g
def g55 (a:LI) (b:LI) (c:LI) (d:LI) (f:LI) (h:LI) (i:Int) (j:LI):Option UO:=by apply(?_:ut (let x(y:LI×Int×Unit):=some ((y.1,y.2.1,()),V2);(g48 m a b c d f h i).bind λM=>(g120 m M.1 (a.length:Int) j).bind λK=>bif K.1 !=0 then some (([],K.1,()),V2)else(Ac m m j a b c d f h i (a.length:Int) 0 0).bind λ|.inl N=>x N|.inr (.inl C)=>((qr (HK m m C.1) C.2.1 C.2.2.1 [] 0).bind λ|.inl L=>((pm (qr (HJ m m L.1)) L.2 0).bind λ|.inl D=>((g121 m D.1 D.2.1.1).bind λE=>(pm (qr (HH m m)) D.2 E.1 0).bind λ|.inl F=>x F|.inr (.inl A)=>((qr (Ab m m) A.1 A.2.1 0 A.2.2.1 A.2.2.2.1 0 0).bind λ|.inl z=>((Mk m z.2.2.2.1).bind λG=>bif !G.1 then some (([],233,()),V2)else(g123 m z.2.2.1).bind λH=>(qr (HG m m) z.1 z.2.2.2.1 H.1 (wI (z.2.1-1))).bind λ|.inl I=>x I|.inr (.inl B)=>(g124 m B.2.1 B.1.1).bind λJ=>some ((J.1,0,()),V2)|.inr (.inr e)=>e.elim)|.inr e=>e.elim)|.inr (.inr e)=>e.elim)|.inr e=>e.elim)|.inr e=>e.elim)|.inr (.inr e)=>e.elim));dsimp only[qr,pm];exact λg _=>g
def xQ (m:Nat) (a:Int):Option jz:=by apply(?_:ut (let e:=qm .u64 (aJ .u64 a 52) 2047;let x:=qm .u64 a 4503599627370495;let y:Option jz:=bif e==2047 then some (2,ul)else bif e==0 then bif x==0 then some (0,ul)else some (1,ul)else some (1,ul);bif e==2047 then bif x !=0 then some (3,ul)else y else y));dsimp only;exact λg _=>g
def Rq (a:Int):Option o6:=(xQ m a).bind λe=>some (e.1==3,ul)
def Ae (m:Nat):Nat->LI->LI->Int->Option qW
 |0,_,_,_=>none
 |n+1,a,b,c=>by apply(?_:ut (bif decide (c<(a.length:Int))then am a c 0 λe=>am b c 0 λx=>bif e !=x then some (.inl (false,()))else Ae m n a b (wI (c+1))else some (.inr (.inl ()))));dsimp only[am];exact λg _=>g
def g29 (a:LI) (b:LI):Option uu:=bif(a.length:Int) !=(b.length:Int)then some (false,V2)else(Ae m m a b 0).bind λ|.inl g=>some (g.1,V2)|.inr (.inl x)=>some (true,V2)|.inr (.inr e)=>e.elim
def Aa:Nat->List LI->List LI->Int->Option qW
 |0,_,_,_=>none
 |n+1,a,b,c=>by apply(?_:ut (bif decide (c<(a.length:Int))then am a c [] λe=>am b c [] λx=>(g29 m e x).bind λy=>bif !y.1 then some (.inl (false,()))else Aa n a b (wI (c+1))else some (.inr (.inl ()))));dsimp only[am];exact λg _=>g
def g59 (a:List LI) (b:List LI):Option uu:=bif(a.length:Int) !=(b.length:Int)then some (false,V2)else(Aa m m a b 0).bind λ|.inl g=>some (g.1,V2)|.inr (.inl x)=>some (true,V2)|.inr (.inr e)=>e.elim
def ck:Option Lf:=(WS m 2 0).bind λg=>(WS m 4 0).bind λx=>(Ox m ([0,1]:LI) ([1,1]:LI) [g.1,x.1] ([0,0,0]:LI) [] [] 0 ([0,4607182418800017408]:LI) 3).bind λe=>bif e.1.2.1==0 then(g29 m e.1.1.1 ([4598175219545276416]:LI)).bind λy=>bif y.1 then bif(e.1.1.2.1.length:Int)==0 then(g59 m e.1.1.2.2.1 ([([0,4607182418800017408]:LI)]:List LI)).bind λz=>some (z.1,())else some (false,())else some (false,())else some (false,())
def WE (a:LI) (b:LI):Option i7:=bif decide ((a.length:Int)>16)then some (6,V2)else bif(b.length:Int) !=(if 0>(wI ((a.length:Int)-1))then 0 else(wI ((a.length:Int)-1)))then some (2,V2)else(Mk m a).bind λe=>bif !e.1 then some (4,V2)else(Mk m b).bind λg=>bif !g.1 then some (4,V2)else some (0,V2)
def bo:Nat->LI->LI->Int->Int->Bool->Bool->LI->Int->Bool->Bool->LI->Int->Int->Option ((OZ×mu×mu×Unit)⊕Empty)
 |0,_,_,_,_,_,_,_,_,_,_,_,_,_=>none
 |n+1,a,b,c,d,f,h,i,j,k,l,o,p,q=>by apply(?_:ut (let x:=bo n a b c d;let C(y:mu)(z:mu):=bif q==0 then pp (pp x y) z (wI (q+1))else(pp (kt m k l o p) z).bind λM=>bif M.1 then pp (pp x y) z (wI (q+1))else pp x y k l o p (wI (q+1));let D:=bo n a b c d f h i j;let E(A:mu)(e:mu):=bif q==0 then C A e else(pp (kt m) A f h i j).bind λN=>bif N.1 then C A e else bif q==0 then pp D e (wI (q+1))else(pp (kt m k l o p) e).bind λP=>bif P.1 then pp D e (wI (q+1))else bo n a b c d f h i j k l o p (wI (q+1));let B(F:mu):=am a q 0 λG=>(gk m G).bind λZ=>(pp (pp (sX m) Z.1) F).bind λr=>em a q<|(gk m G).bind λs=>(pp (pp (oO m) s.1) F).bind λQ=>E r.1 Q.1;let H:=oO m false false [] 0;bif decide (q<(a.length:Int))then bif decide (q>0)then am b (wI (q-1)) 0 λJ=>(gk m J).bind λt=>(pp (A1 m) t.1).bind λu=>(pp H u.1).bind λY=>bif decide (q<(b.length:Int))then am b q 0 λK=>(gk m K).bind λv=>(pp (A1 m) v.1).bind λw=>(pp (pp (oO m) Y.1) w.1).bind λy6=>B y6.1 else B Y.1 else bif decide (q<(b.length:Int))then am b q 0 λL=>(gk m L).bind λR=>(pp (A1 m) R.1).bind λS=>(pp H S.1).bind λT=>B T.1 else am a q 0 λI=>(gk m I).bind λU=>(pp (sX m) U.1 false false [] 0).bind λV=>em a q<|(gk m I).bind λW=>(pp (oO m) W.1 false false [] 0).bind λX=>E V.1 X.1 else some (.inl ((c,d,()),(f,h,i,j,()),(k,l,o,p,()),()))));dsimp only[am,em,pp];exact λg _=>g
def WQ (a:LI) (b:LI):Option tM1:=by apply(?_:ut ((WE m a b).bind λx=>bif x.1 !=0 then some (((0,0,()),x.1,()),V2)else(bo m m a b 0 0 false false [] 0 false false [] 0 0).bind λ|.inl y=>(pp (HF m) y.2.1 1).bind λz=>(pp (HF m) y.2.2.1 2).bind λA=>some (((z.1,A.1,()),0,()),V2)|.inr e=>e.elim));dsimp only[pp];exact λg _=>g
def MW (a:Int):Option o6:=(sw m a).bind λe=>some (!e.1,ul)
def jY:Nat->LI->Int->Int->Option rf
 |0,_,_,_=>none
 |n+1,a,b,c=>bif decide (c<b)then if 0<=c/\c<(a.length:Int)then(MW m (a.getD c.toNat 0)).bind λe=>bif e.1 then some (.inl (c,()))else jY n a b (wI (c+1))else none else some (.inr (.inl ()))
def AA (a:LI):Option i7:=(jY m m a (a.length:Int) 0).bind λ|.inl g=>some (g.1,V2)|.inr (.inl x)=>some ((-1),V2)|.inr (.inr e)=>e.elim
def sY (a:LI):Option uu:=(AA m a).bind λe=>some (decide (e.1>=0),V2)
def Bl (a:LI) (b:LI):Option i7:=bif decide ((a.length:Int)>16)then some (6,V2)else bif(b.length:Int) !=(if 0>(wI ((a.length:Int)-1))then 0 else(wI ((a.length:Int)-1)))then some (2,V2)else(sY m a).bind λe=>bif e.1 then some (4,V2)else(sY m b).bind λg=>bif g.1 then some (4,V2)else some (0,V2)
def WJ (a:Int):Option xk:=(jq m a).bind λg=>(jr m g.1.1 g.1.2.1 0).bind λe=>some ((e.1.1,e.1.2.1,e.1.2.2.1,e.1.2.2.2.1,()),ul)
def gO:Nat->LI->Int->Int->Option qW
 |0,_,_,_=>none
 |n+1,a,b,c=>bif decide (c<b)then if 0<=c/\c<(a.length:Int)then(CH m (a.getD c.toNat 0)).bind λe=>bif e.1==3 then some (.inl (true,()))else gO n a b (wI (c+1))else none else some (.inr (.inl ()))
def sR (a:LI):Option o6:=(gO m m a (a.length:Int) 0).bind λ|.inl g=>some (g.1,ul)|.inr (.inl x)=>some (false,ul)|.inr (.inr e)=>e.elim
def xP (a:Int):Option jz:=(sR m [a]).bind λe=>bif e.1 then some (9221120237041090560,ul)else some (Of .u64 a 9223372036854775808,ul)
def AI (a:Int):Option jz:=(uP m a).bind λe=>bif e.1 then some (wI (0-(wI (Of .u64 a 9223372036854775808))),ul)else some (wI (Of .u64 a 9223372036854775808),ul)
def eS (a:Int) (b:Int):Option W5:=(sR m [a,b]).bind λx=>bif x.1 then some ((0,false,()),V2)else(AI m a).bind λe=>(AI m b).bind λg=>bif decide (e.1<g.1)then some (((-1),true,()),V2)else bif decide (e.1>g.1)then some ((1,true,()),V2)else some ((0,true,()),V2)
def bq:Nat->LI->Int->Int->Int->Int->LI->Int->Int->Option ((OZ×OZ×Unit)⊕Empty)
 |0,_,_,_,_,_,_,_,_=>none
 |n+1,a,b,c,d,f,h,i,j=>by apply(?_:ut (let e(x:Int)(y:Int):=(eS m x f).bind λK=>bif j==0 then bq n a b c y x h i (wI (j+1))else bif decide (K.1.1>0)then bq n a b c y x h i (wI (j+1))else bq n a b c y f h i (wI (j+1));let z(A:Int)(B:mu):=(cA m A).bind λQ=>(pp (pp (ud m) Q.1) B).bind λR=>(pp (gn m) R.1 1).bind λG=>(cA m A).bind λL=>(pp (pp (iA m) L.1) B).bind λM=>(pp (gn m) M.1 2).bind λH=>(eS m G.1 d).bind λN=>bif j==0 then e H.1 G.1 else bif decide (N.1.1<0)then e H.1 G.1 else e H.1 d;let C(D:mu)(E:Int):=bif decide (j<(a.length:Int))then am a j 0 λI=>(xP m I).bind λS=>(cA m S.1).bind λT=>(pp (pp (iA m) D) T.1).bind λU=>z E U.1 else z E D;bif decide (j<i)then am h j 0 λF=>(WJ m 0).bind λP=>bif decide (j>0)then am a (wI (j-1)) 0 λJ=>(xP m J).bind λV=>(cA m V.1).bind λW=>(pp (pp (iA m) P.1) W.1).bind λX=>C X.1 F else C P.1 F else some (.inl ((b,c,()),(d,f,()),()))));dsimp only[am,pp];exact λg _=>g
def WH (a:LI) (b:LI):Option tM1:=(Bl m a b).bind λg=>bif g.1 !=0 then some (((0,0,()),g.1,()),V2)else(bq m m b 0 0 0 0 a (a.length:Int) 0).bind λ|.inl x=>some (((x.2.1.1,x.2.1.2.1,()),0,()),V2)|.inr e=>e.elim
def FS (m:Nat) (a:Int) (b:Int):Option i7:=some (wI ((qm .i64 a b)+(aJ .i64 (Zy .i64 a b) 1)),V2)
def MU (a:Int):Option jz:=(sR m [a]).bind λe=>bif e.1 then some (9221120237041090560,ul)else some (Zy .u64 a 9223372036854775808,ul)
def xO (a:Int):Option W0:=bif decide (a<(-9218868437227405312))then some ((0,false,()),ul)else bif decide (a>9218868437227405312)then some ((0,false,()),ul)else bif decide (a<0)then(MU m (wJ (wI (0-a)))).bind λe=>some ((e.1,true,()),ul)else some ((wJ a,true,()),ul)
def nC:Nat->cP->LI->Int->Int->Option W9
 |0,_,_,_,_=>none
 |n+1,a,b,c,d=>by apply(?_:ut (let y(e:mu):=(e.1,((e.2.1,e.2.2.1),e.2.2.2.1));bif decide (d<c)then am b d 0 λz=>am a d [] λx=>em a (wI (d+1))<|(cA m z).bind λA=>(cA m z).bind λB=>em x (wI (d+1))<|em ((a.set d.toNat (x.set (wI (d+1)).toNat (A.1.1,((A.1.2.1,A.1.2.2.1),A.1.2.2.2.1)))).getD (wI (d+1)).toNat []) d<|nC n ((a.set d.toNat (x.set (wI (d+1)).toNat (y A.1))).set (wI (d+1)).toNat (((a.set d.toNat (x.set (wI (d+1)).toNat (y A.1))).getD (wI (d+1)).toNat []).set d.toNat (y B.1))) b c (wI (d+1))else some (.inl (a,()))));dsimp only[am,em,-dreduceIte];exact λg _=>g
def nD:Nat->LI->LI->Int->cP->Int->Int->Option ((LI×cP×Unit)⊕Empty)
 |0,_,_,_,_,_,_=>none
 |n+1,a,b,c,d,f,h=>by apply(?_:ut (let e:=d.set h.toNat (List.replicate (a.length:Int).toNat (qz:Bool×dX×Int));bif decide (h<f)then lc (a.length:Int)<|em d h<|am e h [] λx=>am a h 0 λy=>(cA m y).bind λA=>(cA m c).bind λB=>(pp (pp (ud m) A.1) B.1).bind λz=>em x h<|nD n a b c (e.set h.toNat (x.set h.toNat (z.1.1,((z.1.2.1,z.1.2.2.1),z.1.2.2.2.1)))) f (wI (h+1))else some (.inl (b,d,()))));dsimp only[lc,em,am,pp];exact λg _=>g
def EA (a:LI) (b:LI) (c:Int):Option (cP×Unit×Unit×Unit×Unit):=by apply(?_:ut (let x:=List.replicate (a.length:Int).toNat [];lc (a.length:Int)<|(nD m m a b c x (x.length:Int) 0).bind λ|.inl y=>((nC m m y.2.1 y.1 (y.1.length:Int) 0).bind λ|.inl z=>some (z.1,u4)|.inr e=>e.elim)|.inr e=>e.elim));dsimp only[lc];exact λg _=>g
def xG (a:Bool) (b:Bool) (c:LI) (d:Int) (f:Int):Option yy:=by apply(?_:ut ((gR m a b c d).bind λe=>bif !e.1.2.1 then(qq m).bind λx=>some ((rg x.1),V2)else(jr m e.1.1.2.1 e.1.1.2.2.1 (wI (e.1.1.2.2.2.1+(if(-262144)>(if 262144<f then 262144 else f)then(-262144)else(if 262144<f then 262144 else f))))).bind λy=>some ((rg y.1),V2)));dsimp only[rg];exact λg _=>g
def DV (a:Bool) (b:Bool) (c:LI) (d:Int):Option ((oH×Bool×Unit)×Unit×Unit):=(gR m a b c d).bind λe=>bif !e.1.2.1 then some (((false,[],()),false,()),ul)else(qa m e.1.1.2.1 e.1.1.2.2.1 e.1.1.2.2.2.1).bind λg=>some (((g.1.1.1,g.1.1.2.1,()),true,()),ul)
def nE:Nat->Int->dS->Int->cP->Int->Int->c9->Int->Int->Option ((Int×dS×cP×Int×Int×Unit)⊕Empty)
 |0,_,_,_,_,_,_,_,_,_=>none
 |n+1,a,b,c,d,f,h,i,j,k=>by apply(?_:ut (bif decide (k<j)then am i k qz λe=>(xG m e.1 e.2.1.1 e.2.1.2 e.2.2 (wI (0-a))).bind λB=>(pp (DV m) B.1).bind λz=>am b c [] λx=>(qk m z.1.1.1 z.1.1.2.1).bind λA=>gc x [(A.1.1,A.1.2.1)] λy=>em b c<|if c.toNat=c.toNat then nE n a (b.set c.toNat y) c d f h i j (wI (k+1))else none else some (.inl (a,b,d,f,h,()))));dsimp only[am,gc,em,pp];exact λg _=>g
def nF:Nat->Int->dS->cP->Int->Int->Option W7
 |0,_,_,_,_,_=>none
 |n+1,a,b,c,d,f=>by apply(?_:ut (bif decide (f<d)then am c f [] λx=>(nE m m a b f c d f x (x.length:Int) 0).bind λ|.inl y=>pp (nF n) y (wI (y.2.2.2.2.1+1))|.inr e=>e.elim else some (.inl (b,()))));dsimp only[am,pp];exact λg _=>g
def jn:Nat->cP->Int->cP->Int->Int->c9->Int->Int->Option ((cP×Int×cP×Int×Int×Unit)⊕Empty)
 |0,_,_,_,_,_,_,_,_=>none
 |n+1,a,b,c,d,f,h,i,j=>by apply(?_:ut (bif decide (j<i)then am h j qz λe=>(mi m e.1 e.2.1.1 e.2.1.2 e.2.2).bind λx=>(pp (nP m) x.1).bind λy=>bif y.1 !=0 then jn n a (if x.1.2.2.2.1<b then x.1.2.2.2.1 else b) c d f h i (wI (j+1))else jn n a b c d f h i (wI (j+1))else some (.inl (a,b,c,d,f,()))));dsimp only[am,pp];exact λg _=>g
def kW:Nat->cP->Int->cP->Int->Int->Option ((cP×Int×Unit)⊕Empty)
 |0,_,_,_,_,_=>none
 |n+1,a,b,c,d,f=>by apply(?_:ut (bif decide (f<d)then am c f [] λx=>(jn m m a b c d f x (x.length:Int) 0).bind λ|.inl y=>pp (kW n) y (wI (y.2.2.2.2.1+1))|.inr e=>e.elim else some (.inl (a,b,()))));dsimp only[am,pp];exact λg _=>g
def EF (a:List c9):Option (dS×Unit×Unit):=by apply(?_:ut ((kW m m a 0 a (a.length:Int) 0).bind λ|.inl x=>(lc (x.1.length:Int)<|(nF m m x.2.1 (List.replicate (x.1.length:Int).toNat []) x.1 (x.1.length:Int) 0).bind λ|.inl y=>some (y.1,ul)|.inr e=>e.elim)|.inr e=>e.elim));dsimp only[lc];exact λg _=>g
def Ag (m:Nat) (a:List eE):Option jz:=bif(a.length:Int)==0 then some (0,ul)else if(0:Int)<=0/\0<(a.length:Int)then some (((a.getD 0 []).length:Int),ul)else none
def MM (m:Nat) (a:List dX) (b:LI×Nat):Option uu:=some ((a.length:Int) !=(b.1.getD b.2 0),V2)
def ku:Nat->dS->(LI×Nat)->Int->Int->Option rf
 |0,_,_,_,_=>none
 |n+1,a,b,c,d=>bif decide (d<c)then if 0<=d/\d<(a.length:Int)then(MM m (a.getD d.toNat []) (b.1,b.2)).bind λe=>bif e.1 then some (.inl (d,()))else ku n a (b.1,b.2) c (wI (d+1))else none else some (.inr (.inl ()))
def MJ (a:List eE) (b:LI×Nat):Option i7:=(ku m m a (b.1,b.2) (a.length:Int) 0).bind λ|.inl g=>some (g.1,V2)|.inr (.inl x)=>some ((-1),V2)|.inr (.inr e)=>e.elim
def MN (a:List eE) (b:LI×Nat):Option uu:=(MJ m a (b.1,b.2)).bind λe=>some (decide (e.1>=0),V2)
def MP (a:List eE):Option jz:=(Ag m a).bind λe=>(MN m a ([e.1],0)).bind λg=>bif g.1 then some (5,ul)else bif decide ((a.length:Int)>16)then some (6,ul)else bif decide (([e.1].getD 0 0)>16)then some (6,ul)else some (0,ul)
def D4 (a:List eE):Option jz:=(MP m a).bind λe=>bif e.1==0 then(Ag m a).bind λg=>bif(a.length:Int) !=g.1 then some (5,ul)else some (e.1,ul)else some (e.1,ul)
def kP:Nat->eE->dS->Int->eE->dS->Int->Int->eE->Int->Int->Option ((eE×dS×Int×eE×dS×Int×Int×Unit)⊕Empty)
 |0,_,_,_,_,_,_,_,_,_,_=>none
 |n+1,a,b,c,d,f,h,i,j,k,l=>by apply(?_:ut (bif decide (l<k)then am j l (false,[]) λe=>(qk m e.1 e.2).bind λy=>gc d [(y.1.1,y.1.2.1)] λx=>kP n a b c x f h i j k (wI (l+1))else some (.inl (a,b,c,d,f,h,i,()))));dsimp only[am,gc];exact λg _=>g
def jk:Nat->eE->dS->dS->Int->Int->Option W7
 |0,_,_,_,_,_=>none
 |n+1,a,b,c,d,f=>by apply(?_:ut (bif decide (f<d)then am c f [] λz=>(kP m m a b f [] c d f z (z.length:Int) 0).bind λ|.inl x=>bif decide (x.2.2.1<(x.1.length:Int))then am x.1 x.2.2.1 (false,[]) λA=>(qk m A.1 A.2).bind λB=>gc x.2.2.2.1 [(B.1.1,B.1.2.1)] λy=>if 0<[y].length/\x.2.1.length+[y].length<=1073741824 then jk n x.1 (x.2.1++[y]) x.2.2.2.2.1 x.2.2.2.2.2.1 (wI (x.2.2.2.2.2.2.1+1))else none else if 0<[x.2.2.2.1].length/\x.2.1.length+[x.2.2.2.1].length<=1073741824 then jk n x.1 (x.2.1++[x.2.2.2.1]) x.2.2.2.2.1 x.2.2.2.2.2.1 (wI (x.2.2.2.2.2.2.1+1))else none|.inr e=>e.elim else some (.inl (b,()))));dsimp only[am,gc,-dreduceIte];exact λg _=>g
def DY (a:List eE) (b:List dX):Option tQ1:=(jk m m b [] a (a.length:Int) 0).bind λ|.inl g=>some (g.1,V2)|.inr e=>e.elim
def kJ:Nat->dS->dS->eE->eE->Int->Bool->LI->dS->Int->Int->Int->Int->eE->Int->Int->Option ((dS×dS×eE×eE×oH×dS×Int×Int×Int×Int×Unit)⊕Empty)
 |0,_,_,_,_,_,_,_,_,_,_,_,_,_,_,_=>none
 |n+1,a,b,c,d,f,h,i,j,k,l,o,p,q,r,s=>by apply(?_:ut (bif decide (s<r)then am q s (false,[]) λe=>am a s [] λy=>am y f (false,[]) λx=>(qn m e.1 e.2 x.1 x.2).bind λz=>(gh m h i z.1.1 z.1.2.1).bind λA=>kJ n a b c d f A.1.1 A.1.2.1 j k l o p q r (wI (s+1))else some (.inl (a,b,c,d,(h,i,()),j,k,l,o,p,()))));dsimp only[am];exact λg _=>g
def kK:Nat->dS->dS->eE->eE->dS->Int->Int->Int->Int->Option ((dS×dS×eE×dS×Int×Int×Unit)⊕Empty)
 |0,_,_,_,_,_,_,_,_,_=>none
 |n+1,a,b,c,d,f,h,i,j,k=>by apply(?_:ut (bif decide (k<j)then(kJ m m a b c d k false [] f h i j k c (c.length:Int) 0).bind λ|.inl y=>gc y.2.2.2.1 [(y.2.2.2.2.1.1,y.2.2.2.2.1.2.1)] λx=>pp (pm (kK n) y x) y.2.2.2.2.2 (wI (y.2.2.2.2.2.2.2.2.2.1+1))|.inr e=>e.elim else some (.inl (a,b,d,f,h,i,()))));dsimp only[gc,pm,pp];exact λg _=>g
def kL:Nat->dS->dS->dS->Int->Int->Option W7
 |0,_,_,_,_,_=>none
 |n+1,a,b,c,d,f=>by apply(?_:ut (bif decide (f<d)then am c f [] λx=>(kK m m a b x [] c d f (x.length:Int) 0).bind λ|.inl y=>if 0<[y.2.2.1].length/\y.2.1.length+[y.2.2.1].length<=1073741824 then kL n y.1 (y.2.1++[y.2.2.1]) y.2.2.2.1 y.2.2.2.2.1 (wI (y.2.2.2.2.2.1+1))else none|.inr e=>e.elim else some (.inl (b,()))));dsimp only[am];exact λg _=>g
def DH (a:List eE) (b:List eE):Option tQ1:=(kL m m b [] a (a.length:Int) 0).bind λ|.inl g=>some (g.1,V2)|.inr e=>e.elim
def DD (a:Bool) (b:LI) (c:Bool) (d:LI):Option tL1:=(uJ m a b c d).bind λe=>bif e.1.2.2.1==0 then bif decide ((e.1.2.1.2.1.length:Int)>0)then some (((false,[],()),10,()),V2)else some (((e.1.1.1,e.1.1.2.1,()),e.1.2.2.1,()),V2)else some (((e.1.1.1,e.1.1.2.1,()),e.1.2.2.1,()),V2)
def kS:Nat->dS->Int->eE->Int->dS->Bool->LI->Int->Int->Option ((dS×Int×eE×Int×dS×oH×Unit)⊕Empty)
 |0,_,_,_,_,_,_,_,_,_=>none
 |n+1,a,b,c,d,f,h,i,j,k=>by apply(?_:ut (bif decide (k<j)then am f k [] λx=>am x k (false,[]) λe=>(gh m h i e.1 e.2).bind λy=>kS n a b c d f y.1.1 y.1.2.1 j (wI (k+1))else some (.inl (a,b,c,d,f,(h,i,()),()))));dsimp only[am];exact λg _=>g
def kT:Nat->dS->Int->eE->dS->Int->Int->Int->Option ((dS×Int×eE×dS×Int×Unit)⊕Empty)
 |0,_,_,_,_,_,_,_=>none
 |n+1,a,b,c,d,f,h,i=>by apply(?_:ut (let x:=c.getD (0+(wI ((wI (b-f))+1)).toNat) (false,[]);bif decide (i<h)then am d i [] λe=>em d i<|am e i (false,[]) λy=>em c (wI ((wI (b-f))+1))<|(gh m y.1 y.2 x.1 x.2).bind λz=>em e i<|kT n a b c (d.set i.toNat (e.set i.toNat (z.1.1,z.1.2.1))) f h (wI (i+1))else some (.inl (a,b,c,d,f,()))));dsimp only[am,em];exact λg _=>g
def kU:Nat->dS->Int->eE->dS->Int->Option ((eE×Unit)⊕Empty)
 |0,_,_,_,_,_=>none
 |n+1,a,b,c,d,f=>by apply(?_:ut (bif decide (f<=b)then(kT m m a b c d f (d.length:Int) 0).bind λ|.inl y=>((DH m y.1 y.2.2.2.1).bind λz=>(pm (kS m m) y y.2.2.2.2.1 z.1 false [] (z.1.length:Int) 0).bind λ|.inl x=>(jq m x.2.2.2.1).bind λA=>(DD m x.2.2.2.2.2.1.1 x.2.2.2.2.2.1.2.1 A.1.1 A.1.2.1).bind λB=>(dR m B.1.1.1 B.1.1.2.1).bind λC=>em x.2.2.1 (wI (x.2.1-x.2.2.2.1))<|kU n x.1 x.2.1 (x.2.2.1.set (0+(wI (x.2.1-x.2.2.2.1)).toNat) (C.1.1,C.1.2.1)) x.2.2.2.2.1 (wI (x.2.2.2.1+1))|.inr e=>e.elim)|.inr e=>e.elim else some (.inl (c,()))));dsimp only[em,pm];exact λg _=>g
def kV (m:Nat):Nat->dS->Int->eE->dS->Int->Int->Option ((dS×Int×eE×dS×Unit)⊕Empty)
 |0,_,_,_,_,_,_=>none
 |n+1,a,b,c,d,f,h=>by apply(?_:ut (bif decide (h<f)then lc b<|em d h<|kV m n a b c (d.set h.toNat (List.replicate b.toNat ((false,[]):Bool×LI))) f (wI (h+1))else some (.inl (a,b,c,d,()))));dsimp only[lc,em];exact λg _=>g
def D3 (a:List eE):Option (eE×Unit×Unit):=by apply(?_:ut (let x:=List.replicate (a.length:Int).toNat [];let y:=wI ((a.length:Int)+1);let z:=List.replicate y.toNat ((false,[]):Bool×LI);lc y<|(jq m 1).bind λA=>em z (a.length:Int)<|lc (a.length:Int)<|(kV m m a (a.length:Int) (z.set (0+(a.length:Int).toNat) (A.1.1,A.1.2.1)) x (x.length:Int) 0).bind λ|.inl B=>((pp (kU m m) B 1).bind λ|.inl C=>some (C.1,ul)|.inr e=>e.elim)|.inr e=>e.elim));dsimp only[lc,em,pp];exact λg _=>g
def fM:Nat->dS->Int->Int->Int->eE->Int->Int->Option (tU1⊕Empty)
 |0,_,_,_,_,_,_,_=>none
 |n+1,a,b,c,d,f,h,i=>bif decide (i<h)then if 0<=i/\i<(f.length:Int)then(iz m (f.getD (0+i.toNat) (false,[])).1 (f.getD (0+i.toNat) (false,[])).2).bind λe=>bif decide ((wI (e.1*d))<0)then bif e.1 !=0 then fM n a b (wI (c+1)) e.1 f h (wI (i+1))else fM n a b (wI (c+1)) d f h (wI (i+1))else bif e.1 !=0 then fM n a b c e.1 f h (wI (i+1))else fM n a b c d f h (wI (i+1))else none else some (.inl (a,b,c,()))
def kX:Nat->dS->Int->Int->eE->Option ((dS×Int×Int×eE×Unit)⊕Empty)
 |0,_,_,_,_=>none
 |n+1,a,b,c,d=>bif decide (b<(a.length:Int))then if 0<=b/\b<(d.length:Int)then(iz m (d.getD (0+b.toNat) (false,[])).1 (d.getD (0+b.toNat) (false,[])).2).bind λe=>bif e.1==0 then kX n a (wI (b+1)) c d else some (.inl (a,b,c,d,()))else none else some (.inl (a,b,c,d,()))
def kY:Nat->dS->Int->Int->Int->dS->Int->Int->eE->Int->Int->Option (W8⊕(dS×Int×Int×dS×Int×Int×Unit)⊕Empty)
 |0,_,_,_,_,_,_,_,_,_,_=>none
 |n+1,a,b,c,d,f,h,i,j,k,l=>by apply(?_:ut (bif decide (l<k)then am j l (false,[]) λe=>am a l [] λy=>am y d (false,[]) λx=>(qA m e.1 e.2 x.1 x.2).bind λz=>bif z.1 !=0 then some (.inl (0,0,0,80,()))else kY n a b c d f h i j k (wI (l+1))else some (.inr (.inl (a,b,c,f,h,i,())))));dsimp only[am];exact λg _=>g
def kZ:Nat->dS->Int->Int->dS->Int->Int->Option (W8⊕tU1⊕Empty)
 |0,_,_,_,_,_,_=>none
 |n+1,a,b,c,d,f,h=>by apply(?_:ut (bif decide (h<f)then am d h [] λx=>(kY m m a b c h d f h x (x.length:Int) 0).bind λ|.inl z=>some (.inl (rg z))|.inr (.inl y)=>pu (kZ n) y (wI (y.2.2.2.2.2.1+1))|.inr (.inr e)=>e.elim else some (.inr (.inl (a,b,c,())))));dsimp only[am,rg,pu];exact λg _=>g
def AH (a:List eE):Option (W8×Unit×Unit):=by apply(?_:ut ((D4 m a).bind λz=>bif z.1 !=0 then some ((0,0,0,z.1,()),ul)else(kZ m m a 0 0 a (a.length:Int) 0).bind λ|.inl B=>some ((rg B),ul)|.inr (.inl A)=>((DY m A.1 []).bind λC=>(D3 m C.1).bind λD=>(pm (kX m m) A D.1).bind λ|.inl y=>((pm (fM m m) y 0 y.2.2.2.1 (y.2.2.2.1.length:Int) 0).bind λ|.inl x=>some ((wI ((wI ((x.1.length:Int)-x.2.1))-x.2.2.1),x.2.1,x.2.2.1,0,()),ul)|.inr e=>e.elim)|.inr e=>e.elim)|.inr (.inr e)=>e.elim));dsimp only[rg,pm];exact λg _=>g
def s9 (a:LI) (b:LI) (c:Int):Option NI:=bif c==9218868437227405312 then some ((a.length:Int),u4)else(sw m c).bind λg=>bif !g.1 then some (0,u4)else(EA m a b c).bind λx=>(EF m x.1).bind λy=>(AH m y.1).bind λe=>some (wI (e.1.1+e.1.2.1),u4)
def mZ:Nat->LI->LI->Int->Int->Int->Int->Int->Int->Option ((LI×LI×(Int×Int×Int×Unit)×Int×Int×Unit)⊕Empty)
 |0,_,_,_,_,_,_,_,_=>none
 |n+1,a,b,c,d,f,h,i,j=>bif decide ((wI (j-1))>i)then(FS m i j).bind λe=>(xO m e.1).bind λg=>(s9 m a b g.1.1).bind λx=>bif decide (x.1>c)then mZ n a b c d f h i e.1 else mZ n a b c d f h e.1 j else some (.inl (a,b,(d,f,h,()),i,j,()))
def WG (a:LI) (b:LI) (c:Int):Option (((Int×Int×Int×Unit)×Int×Unit)×Unit×Unit×Unit×Unit):=(Bl m a b).bind λx=>bif x.1 !=0 then some (((0,0,0,()),x.1,()),u4)else bif decide (c<0)then some (((0,0,0,()),3,()),u4)else bif decide (c>=(a.length:Int))then some (((0,0,0,()),3,()),u4)else(mZ m m a b c 0 0 0 (-9218868437227405312) 9218868437227405312).bind λ|.inl g=>(xO m g.2.2.2.1).bind λy=>(xO m g.2.2.2.2.1).bind λz=>(s9 m g.1 g.2.1 z.1.1).bind λA=>(s9 m g.1 g.2.1 y.1.1).bind λB=>some (((y.1.1,z.1.1,wI (A.1-B.1),()),0,()),u4)|.inr e=>e.elim
def sG:Nat->LI->LI->List LI->re->Int->Int->Option (tg1⊕ts1⊕Empty)
 |0,_,_,_,_,_,_=>none
 |n+1,a,b,c,d,f,h=>by apply(?_:ut (bif decide (h<f)then(WG m a b h).bind λx=>bif x.1.2.1 !=0 then some (.inl ([],x.1.2.1,()))else gc d [(x.1.1.1,(x.1.1.2.1,x.1.1.2.2.1))] λe=>sG n a b c e f (wI (h+1))else some (.inr (.inl (d,())))));dsimp only[gc];exact λg _=>g
def WR (a:LI) (b:LI) (c:List LI):Option (tg1×Unit×Unit):=(WH m a b).bind λg=>bif g.1.2.1 !=0 then some (([],g.1.2.1,()),ul)else(sG m m a b c [] (a.length:Int) 0).bind λ|.inl x=>some ((x.1,x.2.1,()),ul)|.inr (.inl y)=>some ((y.1,0,()),ul)|.inr (.inr e)=>e.elim
def Md (a:Int):Option jz:=(Rt m a).bind λe=>bif e.1 then some (wI (0-(wI (Of .u64 a 9223372036854775808))),ul)else some (wI a,ul)
def RI (a:Int) (b:Int):Option W5:=(Rq m a).bind λe=>bif e.1 then some ((0,false,()),V2)else(Rq m b).bind λg=>bif g.1 then some ((0,false,()),V2)else(Md m a).bind λx=>(Md m b).bind λy=>bif decide (x.1<y.1)then some (((-1),true,()),V2)else(Md m a).bind λz=>(Md m b).bind λA=>bif decide (z.1>A.1)then some ((1,true,()),V2)else some ((0,true,()),V2)
def bj:Nat->Int->Int->re->Int->Option qW
 |0,_,_,_,_=>none
 |n+1,a,b,c,d=>by apply(?_:ut (let e:=c.getD (0+d.toNat) (0,(0,0));bif decide (d<(c.length:Int))then em c d<|(RI m e.2.1 a).bind λx=>em c d<|(RI m e.1 b).bind λy=>bif decide (x.1.1<0)then some (.inl (false,()))else bif decide (y.1.1>=0)then some (.inl (false,()))else bj n a b c (wI (d+1))else some (.inr (.inl ()))));dsimp only[em];exact λg _=>g
def bM (a:LI) (b:Int) (c:Int):Option WZ:=by apply(?_:ut (let x:=some (false,u4);let y:=(ck m).bind λD=>some (D.1,u4);(CI m b 4).bind λE=>(CI m c 2).bind λF=>(cR m a E.1 F.1 true).bind λC=>(qr (Ox m) C.1.1 C.1.2.1 2).bind λz=>bif z.1.2.1 !=0 then y else(WQ m z.1.1.1 z.1.1.2.1).bind λA=>(pm (WR m) z.1.1).bind λB=>bif A.1.2.1 !=0 then x else bif B.1.2.1 !=0 then x else bif(B.1.1.length:Int) !=(z.1.1.1.length:Int)then x else(bj m m A.1.1.1 A.1.1.2.1 B.1.1 0).bind λ|.inl G=>some (G.1,u4)|.inr (.inl H)=>y|.inr (.inr e)=>e.elim));dsimp only[qr,pm];exact λg _=>g
end Go.Vs.F
