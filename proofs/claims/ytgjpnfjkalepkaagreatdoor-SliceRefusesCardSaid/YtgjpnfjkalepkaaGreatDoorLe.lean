/-The document's products of big integers and of dyads. Exact division of a big integer by a small one. Lists and matrices of big integers:products,the characteristic polynomial. The characteristic polynomial and the inertia,as the program computes them. The inertia,as the program computes it,is that of any diagonal form. The program's inertia of a symmetric matrix of integers is that of every diagonal form. -/
import Derived.Test.YtgjpnfjkalepkaaGreatDoorLd
import Derived.Test.YtgjpnfjkalepkaaGreatDoorTa
set_option linter.unusedVariables false
set_option linter.unusedSimpArgs false
set_option maxRecDepth 100000
namespace Go.Vs.F
theorem qhh (m:Nat) {a b:LI} (hb:Lm b) (hl:b.length<=1000000) {i x:Nat} (hia:i<a.length) (hax:a.getD i 0=(x:Int)) (hx:x<4294967296) (hi:i<=1000000): ∀(n j:Nat) (out:LI) (c:Nat),b.length-j<n->j<=b.length->Lm out->i+b.length<out.length->c<4294967296->
 ∃out' c',g159L1 m n a b out (i:Int) (c:Int) (j:Int)=some (.inl (a,b,out',(i:Int),((c':Nat):Int),()))/\Lm out'/\out'.length=out.length/\c'<4294967296/\
  (∀p,i+b.length<=p->out'.getD p 0=out.getD p 0)/\vl out'+4294967296^(i+b.length)*c'=vl out+4294967296^(i+j)*(c+x*vl (b.drop j))
 |0,j,out,c,h,_,_,_,_=>O
 |n+1,j,out,c,h,hj0,ho,hol,hc=>by
  rw[g159L1];by_cases hj:j<b.length
  . have h1:((j:Int)<(b.length:Int)):=O;have c0:(0:Int)<=(i:Int)/\(i:Int)<(a.length:Int):=O;have c1:(0:Int)<=(j:Int)/\(j:Int)<(b.length:Int):=O;obtain⟨y,ey,hy⟩:=hb.get hj
    have w0:wI ((i:Int)+(j:Int))=((i+j:Nat):Int):=by
     rw[wQ,wi O O];omega
    have c2:(0:Int)<=((i+j:Nat):Int)/\((i+j:Nat):Int)<(out.length:Int):=O;obtain⟨z,ez,hz⟩:=ho.get (show i+j<out.length by omega)
    have hm:=qir hx hy;have w1:wJ (x:Int)=(x:Int):=w64n O;have w2:wJ (y:Int)=(y:Int):=w64n O;have w3:wJ (z:Int)=(z:Int):=w64n O;have w4:wJ ((x:Int)*(y:Int))=((x*y:Nat):Int):=by rw[show(x:Int)*(y:Int)=((x*y:Nat):Int) by rw[Int.natCast_mul],w64n O]
    have w5:wJ ((c:Int)+((x*y:Nat):Int))=((c+x*y:Nat):Int):=by rw[show(c:Int)+((x*y:Nat):Int)=((c+x*y:Nat):Int) by rw[Int.natCast_add],w64n O]
    have w6:wJ (((c+x*y:Nat):Int)+(z:Int))=((c+x*y+z:Nat):Int):=by rw[show((c+x*y:Nat):Int)+(z:Int)=((c+x*y+z:Nat):Int) by rw[Int.natCast_add (c+x*y)],w64n O]
    have e1:wK ((c+x*y+z:Nat):Int)=(((c+x*y+z)%4294967296:Nat):Int):=w32;have e2:shr_ .u64 ((c+x*y+z:Nat):Int) 32=(((c+x*y+z)/4294967296:Nat):Int):=shr64 (a:=c+x*y+z) (k:=32) O;rw[bQ,iP h1,iP c0,iP c1,w0,iP c2,iP c2,tN,tN,tN,Nat.zero_add,hax,ey,ez,w1,w2,w3,w4,w5,w6,e1,e2,show wI ((j:Int)+1)=((j+1:Nat):Int)from wsucc O]
    have hlen:(out.set (i+j) (((c+x*y+z)%4294967296:Nat):Int)).length=out.length:=List.length_set ..;obtain⟨out',c',g1,g2,g3,g4,g5,g6⟩:=qhh m hb hl hia hax hx hi n (j+1) (out.set (i+j) (((c+x*y+z)%4294967296:Nat):Int)) ((c+x*y+z)/4294967296) O O (q08 ho O) O O;refine⟨out',c',g1,g2,O,g4,fun p hp=> ?_,?_⟩
    . rw[g5 p hp,getD_set_ne O]
    . rw[g6];have hs:=q0e (l:=out) (p:=i+j) (y:=(((c+x*y+z)%4294967296:Nat):Int)) O;rw[ez,tN,tN]at hs;have hd:vl (b.drop j)=y+4294967296*vl (b.drop (j+1)):=by rw[Qx hj,ey,tN]
      rw[hd,show i+(j+1)=i+j+1 by omega,Nat.pow_succ]
      generalize 4294967296^(i+j)=P at*
      generalize vl (b.drop (j+1))=D at*
      generalize vl (out.set (i+j) (((c+x*y+z)%4294967296:Nat):Int))=A at*
      have ht:c+x*y+z=(c+x*y+z)%4294967296+4294967296*((c+x*y+z)/4294967296):=(Nat.mod_add_div _ _).symm;have k1:P*(c+x*y+z)=P*((c+x*y+z)%4294967296)+P*(4294967296*((c+x*y+z)/4294967296)):=by rw[<-Nat.mul_add,<-ht]
      have k2:P*(c+x*y+z)=P*c+P*(x*y)+P*z:=by rw[Nat.mul_add,Nat.mul_add]
      have k3:P*4294967296*((c+x*y+z)/4294967296+x*D)=P*(4294967296*((c+x*y+z)/4294967296))+P*(4294967296*(x*D)):=by rw[Nat.mul_add,Nat.mul_assoc,Nat.mul_assoc]
      have k4:P*(c+x*(y+4294967296*D))=P*c+(P*(x*y)+P*(4294967296*(x*D))):=by rw[Nat.mul_add,Nat.mul_add x,Nat.mul_add P (x*y),Nat.mul_left_comm x 4294967296 D]
      rw[k3,k4];omega
  . rw[bQ,iN' O];have:j=b.length:=O;subst this;refine⟨out,c,rfl,ho,rfl,hc,fun _ _=>rfl,?_⟩
    rw[qo (Nat.le_refl _),Nat.mul_zero,Nat.add_zero]
theorem qi4 (m:Nat) {a b:LI} (hm:2000000<m) (ha:Lm a) (hb:Lm b) (hla:a.length<=1000000) (hlb:b.length<=1000000): ∀(n i:Nat) (out:LI),a.length-i<n->i<=a.length->Lm out->out.length=a.length+b.length->(∀p,i+b.length<=p->out.getD p 0=0)->
 ∃out',g159L0 m n a b out (i:Int)=some (.inl (out',()))/\Lm out'/\out'.length=a.length+b.length/\vl out'=vl out+4294967296^i*(vl (a.drop i)*vl b)
 |0,i,out,h,_,_,_,_=>O
 |n+1,i,out,h,hi0,ho,hol,hz=>by
  rw[g159L0];by_cases hi:i<a.length
  . have h1:((i:Int)<(a.length:Int)):=O;obtain⟨x,ex,hx⟩:=ha.get hi;obtain⟨o1,c,g1,g2,g3,g4,g5,g6⟩:=qhh m (a:=a) hb hlb (i:=i) hi ex hx O m 0 out 0 O O ho O O;rw[nZ]at g1
    have w0:wI ((i:Int)+(b.length:Int))=((i+b.length:Nat):Int):=by
     rw[wQ,wi O O];omega
    have c2:(0:Int)<=((i+b.length:Nat):Int)/\((i+b.length:Nat):Int)<(o1.length:Int):=O;have w1:wK (c:Int)=(c:Int):=by rw[w32];congr 1;omega
    rw[bQ,iP h1,g1,bS];dsimp only;rw[w0,iP c2,tN,Nat.zero_add,w1,show wI ((i:Int)+1)=((i+1:Nat):Int)from wsucc O]
    have hs:=q0e (l:=o1) (p:=i+b.length) (y:=(c:Int)) O;rw[g5 _ (Nat.le_refl _),hz _ (Nat.le_refl _),tN]at hs
    obtain⟨out',q1,q2,q3,q4⟩:=qi4 m hm ha hb hla hlb n (i+1) (o1.set (i+b.length) (c:Int)) O O (q08 g2 g4) (by rw[List.length_set];omega) (fun p hp=>by
     rw[getD_set_ne O,g5 p O];exact hz p O)
    refine⟨out',q1,q2,q3,?_⟩;rw[q4,Qx hi,ex,tN,Nat.pow_succ];simp only[Int.toNat_zero,Nat.mul_zero,Nat.add_zero,Nat.zero_add,List.drop_zero]at hs g6;rw[Nat.add_mul,Nat.mul_add];have k:4294967296^i*4294967296*(vl (a.drop (i+1))*vl b)=4294967296^i*(4294967296*vl (a.drop (i+1))*vl b):=by rw[Nat.mul_assoc,Nat.mul_assoc]
    rw[k];omega
  . rw[bQ,iN' O];refine⟨out,rfl,ho,hol,?_⟩;rw[qo O,Nat.zero_mul,Nat.mul_zero,Nat.add_zero]
theorem qm4 {m:Nat} (hm:4000000<=m) {a b:LI} (ha:Lm a) (hb:Lm b) (hla:a.length<=400000) (hlb:b.length<=400000): ∃out,g159 m a b=some (out,(),(),())/\Lm out/\out.length=a.length+b.length/\vl out=vl a*vl b:=by
 have w:wI ((a.length:Int)+(b.length:Int))=((a.length+b.length:Nat):Int):=by rw[wQ,wi O O];omega
 obtain⟨out,e,q1,q2,q3⟩:=qi4 m O ha hb O O m 0 (List.replicate (a.length+b.length) 0) O O Qu (by simp) (fun p hp=>by
  by_cases h:p<a.length+b.length
  . rw[Xb h]
  . rw[Ya (by simpa using h)])
 rw[nZ]at e;refine⟨out,?_,q1,q2,?_⟩
 . rw[g159,w,iP O,tN,e];rfl
 . rw[q3,Qz];simp
theorem qnz {m:Nat} (hm:4000000<=m) {n1 n2:Bool} {l1 l2:LI} (h1:Lm l1) (h2:Lm l2) (hl:l1.length+l2.length<=400000):g127 m n1 l1 n2 l2=some (zB (zv n1 l1*zv n2 l2),(),(),()):=by
 have b1:=Qv h1;have b2:=Qv h2;obtain⟨out,e,q1,q2,q3⟩:=qm4 hm (Qd (vl l1)) (Qd (vl l2)) O O;rw[g127,Yd h1 O O,bS,Yd h2 O O,bS];dsimp only;rw[e,bS];dsimp only;rw[Xe O q1 O,bS]
 have:zv (!(n1==n2)) out=zv n1 l1*zv n2 l2:=by
  unfold zv;rw[q3,Q9,Q9];cases n1<;>cases n2<;>simp[Int.neg_mul,Int.mul_neg]
 rw[this]
theorem qji {r x:Nat} (hr:r<4294967296) (hx:x<4294967296):b_or_ .u64 (shl_ .u64 (r:Int) 32) (x:Int)=((r*4294967296+x:Nat):Int):=by
 have e1:shl_ .u64 (r:Int) 32=((r*4294967296:Nat):Int):=by
  have h:=shl64 (a:=r) (k:=32) O (by rw[show(2:Nat)^32=4294967296 by decide];omega)
  rw[show(2:Nat)^32=4294967296 by decide]at h
  exact h
 rw[e1,or64 O O];have:=Nat.two_pow_add_eq_or_of_lt (i:=32) (b:=x) O r;rw[Nat.mul_comm,show(4294967296:Nat)=2^32 by decide,<-this]
theorem drop_set_self {l:LI} {i:Nat} {x:Int} (h:i<l.length):(l.set i x).drop i=x::l.drop (i+1):=by
 rw[List.drop_eq_getElem_cons (by rw[List.length_set];exact h)]
 congr 1
 . simp
 . rw[List.drop_set];simp
theorem qea (m:Nat) {a:LI} (ha:Lm a) (hl:a.length<=1000000) {d:Nat} (hd:0<d) (hd2:d<4294967296): ∀(k n:Nat) (out:LI),k<n->k<=a.length->Lm out->out.length=a.length->vl (out.drop k)=vl (a.drop k)/d->
 ∃out',g189L0 m n a (d:Int) out ((vl (a.drop k)%d:Nat):Int) ((k:Int)-1)=some (.inl (out',((vl a%d:Nat):Int),()))/\Lm out'/\out'.length=a.length/\vl out'=vl a/d
 |0,n+1,out,_,_,h1,h2,h3=>by
  refine⟨out,?_,h1,h2,by simpa using h3⟩
  rw[g189L0,bQ,iN' O,List.drop_zero]
 |k+1,n+1,out,hn,hk,h1,h2,h3=>by
  obtain⟨x,ex,hx,hv⟩:=ha.get' k;have hr:vl (a.drop (k+1))%d<d:=Nat.mod_lt _ hd;have w:((k+1:Nat):Int)-1=(k:Int):=O;rw[g189L0,w,bQ,iP O,iP O];have wd:wJ (d:Int)=(d:Int):=w64n O;rw[wd,iP O,iP O,iP O,tN,ex,w64n O,qji O hx,td,tm]
  have hq:(vl (a.drop (k+1))%d*4294967296+x)/d<4294967296:=by
   rw[Nat.div_lt_iff_lt_mul hd];have:(vl (a.drop (k+1))%d+1)*4294967296<=d*4294967296:=Nat.mul_le_mul_right _ hr;omega
  have wq:wK (wJ (((vl (a.drop (k+1))%d*4294967296+x)/d:Nat):Int))=(((vl (a.drop (k+1))%d*4294967296+x)/d:Nat):Int):=by
   rw[w64n O,w32,Nat.mod_eq_of_lt hq]
  rw[wq,Nat.zero_add]
  have e1:vl (a.drop k)=d*(4294967296*(vl (a.drop (k+1))/d))+(vl (a.drop (k+1))%d*4294967296+x):=by
   rw[hv];have:=Nat.div_add_mod (vl (a.drop (k+1))) d;generalize vl (a.drop (k+1))/d=q at*;generalize vl (a.drop (k+1))%d=r at*;rw[<-this,Nat.mul_add,<-Nat.mul_assoc,Nat.mul_comm 4294967296 d,Nat.mul_assoc];omega
  have e2:vl (a.drop k)/d=4294967296*(vl (a.drop (k+1))/d)+(vl (a.drop (k+1))%d*4294967296+x)/d:=by
   rw[e1,Nat.mul_add_div hd]
  have e3:vl (a.drop k)%d=(vl (a.drop (k+1))%d*4294967296+x)%d:=by
   rw[e1,Nat.mul_add_mod]
  rw[<-e3,wQ,wi O O];refine qea m ha hl hd hd2 k n _ O O (q08 h1 hq) (by rw[List.length_set];exact h2) ?_
  rw[drop_set_self O,vl,tN,h3,e2];omega
theorem qm3 {m:Nat} (hm:2000000<m) {a:LI} (ha:Lm a) (hl:a.length<=1000000) {d:Nat} (hd:0<d) (hd2:d<4294967296):
 g189 m a (d:Int)=some ((lim (vl a/d),((vl a%d:Nat):Int),()),(),(),()):=by
 rw[g189,iP O,tN,wQ,wi O O];have h0:(a.drop a.length)=[]:=List.drop_length
 obtain⟨out,h1,h2,h3,h4⟩:=qea m ha hl hd hd2 a.length m (List.replicate a.length 0) O (Nat.le_refl _) Qu (List.length_replicate ..) (by
  rw[List.drop_eq_nil_of_le (by rw[List.length_replicate];exact Nat.le_refl _),h0]
  show 0=0/d
  rw[Nat.zero_div])
 rw[h0]at h1
 have e0:((vl ([]:LI)%d:Nat):Int)=0:=by
  show((0%d:Nat):Int)=0
  rw[Nat.zero_mod];rfl
 rw[e0]at h1;rw[h1,bS];dsimp only;rw[X5 h2 O O,bS,h4,w32,Nat.mod_eq_of_lt (Nat.lt_trans (Nat.mod_lt _ hd) hd2)]
theorem q62 {d:Nat} (h0:0<d) (h:d<4294967296):lim d=[(d:Int)]:=by
 rw[q07 O,Nat.div_eq_of_lt h,Qa,Nat.mod_eq_of_lt h]
theorem qat {m:Nat} (hm:2000000<m) {A d:Nat} (hA:(lim A).length<=1000000) (h0:0<d) (h:d<4294967296):
 g183 m (lim A) (lim d)=some ((lim (A/d),lim (A%d),()),(),(),()):=by
 have hd1:(lim d).length=1:=by rw[q62 h0 h];rfl
 rw[g183,q3o hm hA O,bS,bQ];dsimp only;by_cases c:A<d
 . have hc:cmpN A d= -1:=by unfold cmpN;rw[iP c]
   rw[hc,iP O,qjm O,bS,Nat.div_eq_of_lt c,Nat.mod_eq_of_lt c,Qa]
 . have hc: ¬cmpN A d<0:=by unfold cmpN;rw[iN' c];split<;>omega
   rw[iN' hc,hd1,bif_eq,iP (show((1:Nat):Int)=1 from rfl),iP O,q62 h0 h]
   show(g189 m (lim A) (d:Int)).bind _=_
   rw[qm3 hm (Qd A) hA h0 h,bS,Q9];dsimp only;have hr:A%d<4294967296:=Nat.lt_trans (Nat.mod_lt _ h0) h;rw[X5 (fun x hx=>by rw[List.mem_singleton.1 hx];omega) (by simp;omega) (by simp),bS]
   show some ((_,lim ((((A%d:Nat):Int)).toNat+4294967296*0),()),_)=_
   rw[tN,Nat.mul_zero,Nat.add_zero]
theorem qix {m:Nat} (hm:2000000<m) {a:Int} {d:Nat} (h0:0<d) (h:d<4294967296) (ha:zlen ((d:Int)*a)<=1000000):
 g147 m (zB ((d:Int)*a)).1 (zB ((d:Int)*a)).2.1 (zB (d:Int)).1 (zB (d:Int)).2.1=some ((zB a,0,()),(),(),()):=by
 have hd1:(lim d).length=1:=by rw[q62 h0 h];rfl
 have hN:((d:Int)*a).natAbs=d*a.natAbs:=by rw[Int.natAbs_mul,Int.natAbs_natCast]
 have hb2:(zB (d:Int)).2.1=lim d:=by show lim (d:Int).natAbs=_;rw[Int.natAbs_natCast]
 have ha2:(zB ((d:Int)*a)).2.1=lim (d*a.natAbs):=by show lim _=_;rw[hN]
 have hA:(lim (d*a.natAbs)).length<=1000000:=by rw[<-hN];exact ha
 have hq:(lim a.natAbs).length<=1000000:=Nat.le_trans (Q7 (Nat.le_mul_of_pos_left _ h0)) hA
 have hs:((zB ((d:Int)*a)).1=true)↔a<0:=by
  show(decide ((d:Int)*a<0)=true)↔_
  rw[decide_eq_true_eq];constructor
  . intro hl;refine Int.not_le.1 fun hn=> ?_
    have:=Int.mul_nonneg (show(0:Int)<=d by omega) hn
    omega
  . intro hl;exact Int.mul_neg_of_pos_of_neg O hl
 have hs2:(zB (d:Int)).1=false:=by show decide ((d:Int)<0)=false;exact decide_eq_false O
 rw[g147,g171,hb2,X5 (Qd d) O O,Q9,bS,hd1,bif_eq,iN' O,ha2,
  X5 (Qd _) O O,Q9,bS]
 dsimp only;rw[qat hm hA h0 h,bS];dsimp only;rw[Nat.mul_div_cancel_left _ h0,Nat.mul_mod_right,Qa,hs2]
 have big: ∀neg:Bool,(neg=true↔a<0)->g153 m neg (lim a.natAbs)=some (zB a,(),(),()):=by
  intro neg hneg;rw[bigN hm O];congr 2;cases neg
  . have: ¬a<0:=fun h=>by have:=hneg.2 h;cases this
    rw[iN' (by decide)];congr 1;omega
  . have:a<0:=hneg.1 rfl;rw[iP rfl];congr 1;omega
 have bigz:g153 m false []=some (zB 0,(),(),()):=by
  have:=bigN hm (n:=0) (by rw[Qa];simp) false
  rw[Qa]at this;exact this
 have z0:(zB 0).2.1=[]:=Qa;cases hc:(zB ((d:Int)*a)).1
 . have hn: ¬a<0:=fun h=>by have:=hs.2 h;rw[hc]at this;cases this
   rw[cond_false,show(!(false==false))=false from rfl,big false (by simp[hn]),bS,bigz,bS,bS]
   dsimp only;rw[z0];rfl
 . have hn:a<0:=hs.1 hc;rw[cond_true,bQ];rw[iN' (show¬((([]:LI).length:Nat):Int)>0 by simp),show(!(true==false))=true from rfl,big true (by simp[hn]),bS,bigz,bS,bS]
   dsimp only;rw[z0];rfl
abbrev Bg:=Bool×LI
def BZ (z:Int):Bg:=((zB z).1,(zB z).2.1)
theorem q59:BZ 0=(false,[]):=by show(decide ((0:Int)<0),lim 0)=_;rw[Qa];rfl
def mr {α:Type} (n:Nat) (f:Nat->α):List α:=(List.range n).map f
theorem Q8 {α:Type} {n:Nat} {f:Nat->α}:(mr n f).length=n:=by unfold mr;rw[List.length_map,List.length_range]
theorem Qo {α:Type} {n:Nat} {f:Nat->α} {j:Nat} {d:α} (h:j<n):(mr n f).getD j d=f j:=by
 unfold mr;simp[List.getD,h]
theorem Qb {α:Type} {n:Nat} {f g:Nat->α} (h: ∀i,i<n->f i=g i):mr n f=mr n g:=
 List.map_congr_left fun i hi=>h i (List.mem_range.1 hi)
theorem qk1 {α:Type} {n:Nat} {f:Nat->α} {i:Nat} (h:i<(mr n f).length):(mr n f)[i]=f i:=by simp[mr]
theorem q03 {α:Type} {n:Nat} {f:Nat->α} {j:Nat} {x:α}:(mr n f).set j x=mr n (fun k=>if k=j then x else f k):=by
 apply List.ext_getElem
 . rw[List.length_set,Q8,Q8]
 . intro i h1 h2;rw[List.getElem_set,qk1,qk1];by_cases c:j=i
   . rw[iP c,iP c.symm]
   . rw[iN' c,iN' (fun h=>c h.symm)]
theorem Y5 {α:Type} {n:Nat} {f:Nat->α}:mr n f++[f n]=mr (n+1) f:=by
 unfold mr;rw[List.range_succ,List.map_append];rfl
theorem q7k {α:Type} {n:Nat} {x:α}:List.replicate n x=mr n (fun _=>x):=by
 apply List.ext_getElem
 . rw[List.length_replicate,Q8]
 . intro i h1 h2;rw[qk1];simp
theorem Zg {α:Type} {f:Nat->α}:mr 0 f=[]:=rfl
def rowB (n:Nat) (f:Nat->Int):List Bg:=mr n fun j=>BZ (f j)
def matB (n:Nat) (M:Nat->Nat->Int):List (List Bg):=mr n fun i=>rowB n (M i)
def zs:Nat->(Nat->Int)->Int
 |0,_=>0
 |k+1,f=>zs k f+f k
theorem q7s {f:Nat->Int} {B:Nat}: ∀{k:Nat},(∀i,i<k->zlen (f i)<=B)->zlen (zs k f)<=B+k
 |0,_=>by show zlen 0<=_;unfold zlen;rw[show(0:Int).natAbs=0 from rfl,Qa];exact Nat.zero_le _
 |k+1,h=>by
  have h1:=q7s (k:=k) fun i hi=>h i O
  have h2:=h k O;exact q2k (k:=B+k) h1 O
theorem bAdd {m:Nat} (hm:4000000<=m) {a b:Int} (ha:zlen a<=1000000) (hb:zlen b<=1000000):g145 m (BZ a).1 (BZ a).2 (BZ b).1 (BZ b).2=some (zB (a+b),(),(),()):=by
 have:=qmw (m:=m) O (n1:=(zB a).1) (n2:=(zB b).1) (Sz_zB ha) (Sz_zB hb)
 rwa [zv_zB,zv_zB]at this
theorem bMul {m:Nat} (hm:4000000<=m) {a b:Int} (h:zlen a+zlen b<=1000000):g170 m (BZ a).1 (BZ a).2 (BZ b).1 (BZ b).2=some (zB (a*b),(),(),()):=by
 have:=qql (m:=m) hm (n1:=(zB a).1) (n2:=(zB b).1) (l1:=(zB a).2.1) (l2:=(zB b).2.1) (Qd _) (Qd _) h
 rwa [zv_zB,zv_zB]at this
theorem bNorm {m:Nat} (hm:4000000<=m) {a:Int} (ha:zlen a<=1000000):g121 m (BZ a).1 (BZ a).2=some (zB a,(),()):=by
 have:=qii (m:=m) O (neg:=(zB a).1) (Sz_zB ha)
 rwa [zv_zB]at this
theorem bNeg {m:Nat} (hm:4000000<=m) {a:Int} (ha:zlen a<=1000000):g148 m (BZ a).1 (BZ a).2=some (zB (-a),(),()):=by
 have:=qh4 (m:=m) O (neg:=(zB a).1) (Sz_zB ha)
 rwa [zv_zB]at this
theorem bSign {m:Nat} (hm:4000000<=m) {a:Int} (ha:zlen a<=1000000):g116 m (BZ a).1 (BZ a).2=some (sgn a,(),()):=by
 have:=q65 (m:=m) O (neg:=(zB a).1) (Sz_zB ha)
 rwa [zv_zB]at this
theorem bCmp {m:Nat} (hm:4000000<=m) {a b:Int} (ha:zlen a<=1000000) (hb:zlen b<=1000000):g113 m (BZ a).1 (BZ a).2 (BZ b).1 (BZ b).2=some (cmpZ a b,(),(),()):=by
 have:=qqh (m:=m) O (n1:=(zB a).1) (n2:=(zB b).1) (Sz_zB ha) (Sz_zB hb)
 rwa [zv_zB,zv_zB]at this
theorem qge {m:Nat} (hm:4000000<=m) {n:Nat} (hn:n<=1000) {A B:Nat->Nat->Int} {i j:Nat} (hi:i<n) (hj:j<n) {e1 e2:Nat} (h1: ∀k,k<n->zlen (A i k)<=e1) (h2: ∀k,k<n->zlen (B k j)<=e2) (he:e1+e2<=900000)
 (out:List (List Bg)) (row l:List Bg) (t13:List (List Bg)) (t14 t15 t20:Int): ∀(N k:Nat),n-k<N->k<=n->
 g146L2 m N (matB n B) out row l (j:Int) (BZ (zs k fun k=>A i k*B k j)).1 (BZ (zs k fun k=>A i k*B k j)).2 t13 t14 t15 t20 (j:Int) (rowB n (A i)) (n:Int) (k:Int)=
  some (.inl (matB n B,out,row,l,zB (zs n fun k=>A i k*B k j),t13,t14,t15,t20,(j:Int),())):=by
 intro N;induction N with
 |zero=>intro k h;omega
 |succ N ih=>
  intro k h hk;have hr:(rowB n (A i)).length=n:=Q8;have hb:(matB n B).length=n:=Q8;rw[g146L2,hr,hb];by_cases c:k<n
  . have e3:(matB n B).getD k []=rowB n (B k):=Qo c;have e4:(rowB n (B k)).length=n:=Q8;have e5:(rowB n (B k)).getD j (false,[])=BZ (B k j):=Qo hj;have e6:(rowB n (A i)).getD k (false,[])=BZ (A i k):=Qo c;have l1:=h1 k c;have l2:=h2 k c;have l3:zlen (A i k*B k j)<=e1+e2:=Nat.le_trans Xy O;have l4:zlen (zs k fun k=>A i k*B k j)<=e1+e2+k:=q7s fun q hq=>Nat.le_trans Xy (by have:=h1 q O;have:=h2 q O;omega)
    simp only[tN,e3,e4,e5,e6];rw[bQ,iP O,iP O,iP O,iP O,bMul hm O,bS];dsimp only;rw[show g145 m (BZ (zs k fun k=>A i k*B k j)).1 (BZ (zs k fun k=>A i k*B k j)).2 (zB (A i k*B k j)).1 (zB (A i k*B k j)).2.1=some (zB ((zs k fun k=>A i k*B k j)+A i k*B k j),(),(),())from bAdd hm O O,bS,wQ,wsucc O]
    exact ih (k+1) O O
  . have:k=n:=O;subst this;rw[bQ,iN' O];rfl
theorem qgg {m:Nat} (hm:4000000<=m) {n:Nat} (hn:n<=1000) {A B:Nat->Nat->Int} {i:Nat} (hi:i<n) {e1 e2:Nat} (h1: ∀k,k<n->zlen (A i k)<=e1) (h2: ∀k j,k<n->j<n->zlen (B k j)<=e2) (he:e1+e2<=900000)
 (out:List (List Bg)) (t13:List (List Bg)) (t14 t15:Int): ∀(N j:Nat),n-j<N->j<=n->
 g146L1 m N (matB n B) out (rowB n (A i)) (mr j fun j=>BZ (zs n fun k=>A i k*B k j)) t13 t14 t15 (n:Int) (j:Int)=
  some (.inl (matB n B,out,rowB n (fun j=>zs n fun k=>A i k*B k j),t13,t14,t15,())):=by
 intro N;induction N with
 |zero=>intro k h;omega
 |succ N ih=>
  intro j h hj;rw[g146L1];by_cases c:j<n
  . have hr:(rowB n (A i)).length=n:=Q8;have e0:=qge hm hn hi c h1 (fun k hk=>h2 k j hk c) he out (rowB n (A i)) (mr j fun j=>BZ (zs n fun k=>A i k*B k j)) t13 t14 t15 (n:Int) m 0 O O
    rw[show zs 0 (fun k=>A i k*B k j)=0 from rfl,q59]at e0
    rw[bQ,iP O,hr];rw[show g146L2 m m (matB n B) out (rowB n (A i)) (mr j fun j=>BZ (zs n fun k=>A i k*B k j)) (j:Int) false [] t13 t14 t15 (n:Int) (j:Int) (rowB n (A i)) (n:Int) 0=_ from e0,bS]
    dsimp only;have hl:(mr j fun j=>BZ (zs n fun k=>A i k*B k j)).length=j:=Q8
    rw[hl,iP (by show j+1<=_;omega),wQ,wsucc O]
    have e1:(mr j fun j=>BZ (zs n fun k=>A i k*B k j))++[((zB (zs n fun k=>A i k*B k j)).1,(zB (zs n fun k=>A i k*B k j)).2.1)]=mr (j+1) fun j=>BZ (zs n fun k=>A i k*B k j):=Y5 (f:=fun j=>BZ (zs n fun k=>A i k*B k j))
    rw[e1];exact ih (j+1) O O
  . have:j=n:=O;subst this;rw[bQ,iN' O];rfl
def mulZ (n:Nat) (A B:Nat->Nat->Int):Nat->Nat->Int:=fun i j=>zs n fun k=>A i k*B k j
theorem qgk {m:Nat} (hm:4000000<=m) {n:Nat} (hn:n<=1000) {A B:Nat->Nat->Int} {e1 e2:Nat} (h1: ∀i k,i<n->k<n->zlen (A i k)<=e1) (h2: ∀k j,k<n->j<n->zlen (B k j)<=e2) (he:e1+e2<=900000): ∀(N i:Nat),n-i<N->i<=n->
 g146L0 m N (matB n B) (mr i fun i=>rowB n (mulZ n A B i)) (matB n A) (n:Int) (i:Int)=some (.inl (matB n (mulZ n A B),())):=by
 intro N;induction N with
 |zero=>intro k h;omega
 |succ N ih=>
  intro i h hi;have ha:(matB n A).length=n:=Q8;rw[g146L0,ha];by_cases c:i<n
  . have e3:(matB n A).getD i []=rowB n (A i):=Qo c;have hr:(rowB n (A i)).length=n:=Q8;have e0:=qgg hm hn c (fun k hk=>h1 i k c hk) h2 he (mr i fun i=>rowB n (mulZ n A B i)) (matB n A) (n:Int) (i:Int) m 0 O O
    rw[Zg]at e0;simp only[tN,e3,hr];rw[bQ,iP O,iP O];rw[show g146L1 m m (matB n B) (mr i fun i=>rowB n (mulZ n A B i)) (rowB n (A i)) [] (matB n A) (n:Int) (i:Int) (n:Int) 0=_ from e0,bS]
    dsimp only;have hl:(mr i fun i=>rowB n (mulZ n A B i)).length=i:=Q8
    rw[hl,iP (by show 0<1/\i+1<=_;omega),wQ,wsucc O]
    have e1:(mr i fun i=>rowB n (mulZ n A B i))++[rowB n (fun j=>zs n fun k=>A i k*B k j)]=mr (i+1) fun i=>rowB n (mulZ n A B i):=Y5 (f:=fun i=>rowB n (mulZ n A B i))
    rw[e1];exact ih (i+1) O O
  . have:i=n:=O;subst this;rw[bQ,iN' O];rfl
theorem qgd {m:Nat} (hm:4000000<=m) {n:Nat} (hn:n<=1000) {A B:Nat->Nat->Int} {e1 e2:Nat} (h1: ∀i k,i<n->k<n->zlen (A i k)<=e1) (h2: ∀k j,k<n->j<n->zlen (B k j)<=e2) (he:e1+e2<=900000):
 g146 m (matB n A) (matB n B)=some (matB n (mulZ n A B),(),(),()):=by
 have ha:(matB n A).length=n:=Q8;rw[g146,ha];have e0:=qgk hm hn h1 h2 he m 0 O O;rw[Zg]at e0;rw[show g146L0 m m (matB n B) [] (matB n A) (n:Int) 0=_ from e0,bS]
theorem qo3 {m:Nat} (hm:4000000<=m) {n:Nat} (hn:n<=1000) {f:Nat->Int} (h1: ∀k,k<n->zlen (f k)<=1000000) (b:List Bg) (out:List (List Bg)) (i:Int) (t11:List (List Bg)) (t12 t13:Int): ∀(N j:Nat),n-j<N->j<=n->
 g115L1 m N b out i (mr j fun j=>BZ (f j)) t11 t12 t13 (rowB n f) (n:Int) (j:Int)=some (.inl (b,out,i,rowB n f,t11,t12,t13,())):=by
 intro N;induction N with
 |zero=>intro k h;omega
 |succ N ih=>
  intro j h hj;have hr:(rowB n f).length=n:=Q8;rw[g115L1,hr];by_cases c:j<n
  . have e6:(rowB n f).getD j (false,[])=BZ (f j):=Qo c;have hl:(mr j fun j=>BZ (f j)).length=j:=Q8
    simp only[tN,e6,hl];rw[bQ,iP O,iP O,bNorm hm (h1 j c),bS];dsimp only;rw[iP (by show j+1<=_;omega),wQ,wsucc O]
    have e1:(mr j fun j=>BZ (f j))++[((zB (f j)).1,(zB (f j)).2.1)]=mr (j+1) fun j=>BZ (f j):=Y5 (f:=fun j=>BZ (f j))
    rw[e1];exact ih (j+1) O O
  . have:j=n:=O;subst this;rw[bQ,iN' O];rfl
theorem qpb {m:Nat} (hm:4000000<=m) {n:Nat} (hn:n<=1000) {A:Nat->Nat->Int} (h1: ∀i k,i<n->k<n->zlen (A i k)<=1000000): ∀(N i:Nat),n-i<N->i<=n->
 g115L0 m N [] (mr i fun i=>rowB n (A i)) (matB n A) (n:Int) (i:Int)=some (.inl (matB n A,())):=by
 intro N;induction N with
 |zero=>intro k h;omega
 |succ N ih=>
  intro i h hi;have ha:(matB n A).length=n:=Q8;rw[g115L0,ha];by_cases c:i<n
  . have e3:(matB n A).getD i []=rowB n (A i):=Qo c;have hr:(rowB n (A i)).length=n:=Q8;have e0:=qo3 hm hn (fun k hk=>h1 i k c hk) [] (mr i fun i=>rowB n (A i)) (i:Int) (matB n A) (n:Int) (i:Int) m 0 O O
    rw[Zg]at e0;simp only[tN,e3,hr];rw[bQ,iP O,iP O];rw[show g115L1 m m [] (mr i fun i=>rowB n (A i)) (i:Int) [] (matB n A) (n:Int) (i:Int) (rowB n (A i)) (n:Int) 0=_ from e0,bS]
    dsimp only;have hl:(mr i fun i=>rowB n (A i)).length=i:=Q8
    rw[bQ,iN' (by show¬((i:Int)<((0:Nat):Int));omega),hl,iP (by show 0<1/\i+1<=_;omega),wQ,wsucc O]
    have e1:(mr i fun i=>rowB n (A i))++[rowB n (A i)]=mr (i+1) fun i=>rowB n (A i):=Y5 (f:=fun i=>rowB n (A i))
    rw[e1];exact ih (i+1) O O
  . have:i=n:=O;subst this;rw[bQ,iN' O];rfl
theorem qpz {m:Nat} (hm:4000000<=m) {n:Nat} (hn:n<=1000) {A:Nat->Nat->Int} (h1: ∀i k,i<n->k<n->zlen (A i k)<=1000000):g115 m (matB n A) []=some (matB n A,(),(),()):=by
 have ha:(matB n A).length=n:=Q8;rw[g115,ha];have e0:=qpb hm hn h1 m 0 O O;rw[Zg]at e0;rw[show g115L0 m m [] [] (matB n A) (n:Int) 0=_ from e0,bS]
def NN (n:Nat) (M:Nat->Nat->Int) (c:Nat->Int):Nat->Nat->Nat->Int
 |0=>fun _ _=>0
 |k+1=>mulZ n M (fun i j=>NN n M c k i j+if i=j then c k else 0)
theorem qph {m:Nat} (hm:4000000<=m) {n:Nat} (hn:n<=1000) {P:Nat->Nat->Int} {cc:Int} {k:Nat} (hk1:1<=k) (hk2:k<=n) {pl:List Bg} (hpl:pl.length=n+1) (hpk:pl.getD (n-k+1) (false,[])=BZ cc)
 (h1: ∀i,i<n->zlen (P i i)<=900000) (h2:zlen cc<=900000) (vm:List (List Bg)): ∀(N a:Nat),n-a<N->a<=n->
 g114L2 m N vm (n:Int) pl (matB n fun i j=>P i j+if i=j/\i<a then cc else 0) (k:Int) (n:Int) (a:Int)=some (.inl (vm,(n:Int),pl,matB n (fun i j=>P i j+if i=j then cc else 0),(k:Int),())):=by
 intro N;induction N with
 |zero=>intro k h;omega
 |succ N ih=>
  intro a h ha;have hl:(matB n fun i j=>P i j+if i=j/\i<a then cc else 0).length=n:=Q8
  have w:wI ((wI ((n:Int)-(k:Int)))+1)=((n-k+1:Nat):Int):=by
   rw[wQ,wQ,wi (n:=(n:Int)-(k:Int)) O O,wi O O];omega
  rw[g114L2,hl,hpl,w];by_cases c:a<n
  . have e3:(matB n fun i j=>P i j+if i=j/\i<a then cc else 0).getD a []=rowB n (fun j=>P a j+if a=j/\a<a then cc else 0):=Qo c
    have e4:(rowB n (fun j=>P a j+if a=j/\a<a then cc else 0)).length=n:=Q8
    have e5:(rowB n (fun j=>P a j+if a=j/\a<a then cc else 0)).getD a (false,[])=BZ (P a a):=by
     have:(rowB n (fun j=>P a j+if a=j/\a<a then cc else 0)).getD a (false,[])=BZ (P a a+if a=a/\a<a then cc else 0):=Qo c
     rw[this,iN' O,Int.add_zero]
    simp only[tN,e3,e4,e5,Nat.zero_add,hpk];rw[bQ,iP O,iP O,iP O,iP O,iP O,bAdd hm (Nat.le_trans (h1 a c) O) O,bS];dsimp only;rw[iP O,wQ,wsucc O]
    have e6:(matB n fun i j=>P i j+if i=j/\i<a then cc else 0).set a ((rowB n (fun j=>P a j+if a=j/\a<a then cc else 0)).set a ((zB (P a a+cc)).1,(zB (P a a+cc)).2.1))=matB n fun i j=>P i j+if i=j/\i<a+1 then cc else 0:=by
     unfold matB rowB;rw[q03,q03];refine Qb fun i hi=> ?_
     by_cases ci:i=a
     . subst ci;rw[iP rfl];refine Qb fun j hj=> ?_
       dsimp only;by_cases cj:j=i
       . subst cj;rw[iP rfl];have q:(if j=j/\j<j+1 then cc else 0)=cc:=iP ⟨rfl,O⟩
         rw[q];rfl
       . rw[iN' cj,iN' O,iN' O]
     . rw[iN' ci];refine Qb fun j hj=> ?_
       dsimp only;by_cases cj:i=j/\i<a
       . rw[iP cj,iP O]
       . rw[iN' cj,iN' O]
    rw[e6];exact ih (a+1) O O
  . have:a=n:=O;subst this;rw[bQ,iN' O]
    have:(matB a fun i j=>P i j+if i=j/\i<a then cc else 0)=matB a fun i j=>P i j+if i=j then cc else 0:=by
     refine Qb fun i hi=>Qb fun j hj=> ?_
     dsimp only;by_cases cj:i=j
     . rw[iP ⟨cj,hi⟩,iP cj]
     . rw[iN' O,iN' cj]
    rw[this]
theorem qnu {m:Nat} (hm:4000000<=m) {n:Nat} (hn:n<=1000) {Q:Nat->Nat->Int} (h1: ∀i,i<n->zlen (Q i i)<=900000) (vm:List (List Bg)) (t3:Int) (pl:List Bg) (t7:Int): ∀(N a:Nat),n-a<N->a<=n->
 g114L3 m N vm t3 pl t7 (matB n Q) (BZ (zs a fun i=>Q i i)).1 (BZ (zs a fun i=>Q i i)).2 (n:Int) (a:Int)=some (.inl (vm,t3,pl,t7,matB n Q,zB (zs n fun i=>Q i i),())):=by
 intro N;induction N with
 |zero=>intro k h;omega
 |succ N ih=>
  intro a h ha;have hl:(matB n Q).length=n:=Q8;rw[g114L3,hl];by_cases c:a<n
  . have e3:(matB n Q).getD a []=rowB n (Q a):=Qo c;have e4:(rowB n (Q a)).length=n:=Q8;have e5:(rowB n (Q a)).getD a (false,[])=BZ (Q a a):=Qo c;have l4:zlen (zs a fun i=>Q i i)<=900000+a:=q7s fun q hq=>h1 q O
    have:=h1 a c;simp only[tN,e3,e4,e5];rw[bQ,iP O,iP O,iP O,bAdd hm O O,bS,wQ,wsucc O];exact ih (a+1) O O
  . have:a=n:=O;subst this;rw[bQ,iN' O];rfl
def polyB (n:Nat) (c:Nat->Int) (k:Nat):List Bg:=mr (n+1) fun i=>if n-i<k then BZ (c (n-i))else BZ 0
theorem qpu {m:Nat} (hm:4000000<=m) {n:Nat} (hn:n<=1000) {M:Nat->Nat->Int} {c:Nat->Int} {e:Nat} (he:e<=300000) (h1: ∀i k,i<n->k<n->zlen (M i k)<=e)
 (h2: ∀k,k<=n-> ∀i j,i<n->j<n->zlen (NN n M c k i j)<=300000) (h3: ∀k,k<=n->zlen (c k)<=300000) (ht: ∀k,1<=k->k<=n->(zs n fun i=>NN n M c k i i)=(k:Int)*(-c k)):
 ∀(N k:Nat),n+1-k<N->1<=k->k<=n+1->g114L1 m N (matB n M) (n:Int) (polyB n c k) (matB n (NN n M c (k-1))) (k:Int)=some (.inl (polyB n c (n+1),())):=by
 intro N;induction N with
 |zero=>intro k h;omega
 |succ N ih=>
  intro k h hk1 hk2;rw[g114L1];by_cases cc:k<=n
  . obtain⟨k,rfl⟩: ∃k',k=k'+1:=⟨k-1,O⟩;have hl:(matB n (NN n M c k)).length=n:=Q8;have hpl:(polyB n c (k+1)).length=n+1:=Q8
    have hpk:(polyB n c (k+1)).getD (n-(k+1)+1) (false,[])=BZ (c k):=by
     have:(polyB n c (k+1)).getD (n-(k+1)+1) (false,[])=if n-(n-(k+1)+1)<k+1 then BZ (c (n-(n-(k+1)+1)))else BZ 0:=Qo O
     have q:n-(n-(k+1)+1)=k:=O;rw[this,q,iP O]
    have e0:=qph hm hn (P:=NN n M c k) (cc:=c k) (k:=k+1) O cc hpl hpk (fun i hi=>Nat.le_trans (h2 k O i i hi hi) O) (Nat.le_trans (h3 k O) O) (matB n M) m 0 O O
    have e00:(matB n fun i j=>NN n M c k i j+if i=j/\i<0 then c k else 0)=matB n (NN n M c k):=Qb fun i hi=>Qb fun j hj=>by dsimp only;rw[iN' O,Int.add_zero]
    rw[e00]at e0;rw[bQ,iP O,Nat.add_sub_cancel,hl];rw[show g114L2 m m (matB n M) (n:Int) (polyB n c (k+1)) (matB n (NN n M c k)) ((k+1:Nat):Int) (n:Int) 0=_ from e0,bS]
    dsimp only
    rw[qgd hm hn h1 (B:=fun i j=>NN n M c k i j+if i=j then c k else 0) (e2:=300001) (fun i j hi hj=>q2k (h2 k O i j hi hj) (by
     by_cases cj:i=j
     . rw[iP cj];exact h3 k O
     . rw[iN' cj];unfold zlen;rw[show(0:Int).natAbs=0 from rfl,Qa];exact Nat.zero_le _)) O,bS]
    dsimp only;have eN:mulZ n M (fun i j=>NN n M c k i j+if i=j then c k else 0)=NN n M c (k+1):=rfl
    rw[eN];have hl2:(matB n (NN n M c (k+1))).length=n:=Q8;rw[hl2];have e3:=qnu hm hn (Q:=NN n M c (k+1)) (fun i hi=>Nat.le_trans (h2 (k+1) cc i i hi hi) O) (matB n M) (n:Int) (polyB n c (k+1)) ((k+1:Nat):Int) m 0 O O
    rw[show zs 0 (fun i=>NN n M c (k+1) i i)=0 from rfl,q59]at e3
    rw[show g114L3 m m (matB n M) (n:Int) (polyB n c (k+1)) ((k+1:Nat):Int) (matB n (NN n M c (k+1))) false [] (n:Int) 0=_ from e3,bS]
    dsimp only;have htr:=ht (k+1) O cc
    have hlen:zlen (((k+1:Nat):Int)*(-c (k+1)))<=1000000:=by
     rw[<-htr];exact Nat.le_trans (q7s (B:=300000) fun i hi=>h2 (k+1) cc i i hi hi) O
    rw[q3f O O O,bS,htr];dsimp only;rw[qix O O O hlen,bS];dsimp only
    have hneg:zlen (-c (k+1))<=1000000:=by
     have:=h3 (k+1) cc;unfold zlen at this⊢;rw[Int.natAbs_neg];omega
    rw[show g148 m (zB (-c (k+1))).1 (zB (-c (k+1))).2.1=_ from bNeg hm hneg,bS,Int.neg_neg]
    dsimp only
    have w:wI ((n:Int)-((k+1:Nat):Int))=((n-(k+1):Nat):Int):=by
     rw[wQ,wi O O];omega
    rw[w,hpl,iP O,wQ,wsucc O,tN,Nat.zero_add]
    have e6:(polyB n c (k+1)).set (n-(k+1)) ((zB (c (k+1))).1,(zB (c (k+1))).2.1)=polyB n c (k+1+1):=by
     unfold polyB;rw[q03];refine Qb fun i hi=> ?_
     by_cases ci:i=n-(k+1)
     . subst ci;have q:n-(n-(k+1))=k+1:=O;rw[iP rfl,q,iP O];rfl
     . rw[iN' ci];by_cases cj:n-i<k+1
       . rw[iP cj,iP O]
       . rw[iN' cj,iN' O]
    rw[e6];have:=ih (k+1+1) O O O;rw[Nat.add_sub_cancel]at this;exact this
  . have:k=n+1:=O;subst this;rw[bQ,iN' O]
theorem qnx {m:Nat} {n:Nat} (hn:n<=1000) (vm:List (List Bg)) (pl:List Bg): ∀(N a:Nat),n-a<N->a<=n->
 g114L0 m N vm (n:Int) pl (mr n fun i=>if i<a then rowB n (fun _=>0)else []) (n:Int) (a:Int)=some (.inl (vm,(n:Int),pl,matB n (fun _ _=>0),())):=by
 intro N;induction N with
 |zero=>intro k h;omega
 |succ N ih=>
  intro a h ha;have hl:(mr n fun i=>if i<a then rowB n (fun _=>0)else []).length=n:=Q8
  rw[g114L0,hl];by_cases c:a<n
  . rw[bQ,iP O,iP O,iP O,wQ,wsucc O,tN,tN,q03]
    have e:(mr n fun k=>if k=a then List.replicate n ((false,([]:LI)):Bool×LI)else if k<a then rowB n (fun _=>0)else [])=mr n fun i=>if i<a+1 then rowB n (fun _=>0)else []:=by
     refine Qb fun i hi=> ?_
     by_cases ci:i=a
     . subst ci;rw[iP rfl,iP O,q7k];exact Qb fun j hj=>q59.symm
     . rw[iN' ci];by_cases cj:i<a
       . rw[iP cj,iP O]
       . rw[iN' cj,iN' O]
    rw[e];exact ih (a+1) O O
  . have:a=n:=O;subst this;rw[bQ,iN' O];have:(mr a fun i=>if i<a then rowB a (fun _=>0)else [])=matB a (fun _ _=>0):=Qb fun i hi=>iP hi
    rw[this]
theorem qns {m:Nat} (hm:4000000<=m) {n:Nat} (hn:n<=1000) {M:Nat->Nat->Int} {c:Nat->Int} {e:Nat} (he:e<=300000) (h1: ∀i k,i<n->k<n->zlen (M i k)<=e)
 (h2: ∀k,k<=n-> ∀i j,i<n->j<n->zlen (NN n M c k i j)<=300000) (h3: ∀k,k<=n->zlen (c k)<=300000) (h0:c 0=1) (ht: ∀k,1<=k->k<=n->(zs n fun i=>NN n M c k i i)=(k:Int)*(-c k)):
 g114 m (matB n M)=some (polyB n c (n+1),(),()):=by
 have hl:(matB n M).length=n:=Q8;have w:wI ((n:Int)+1)=((n+1:Nat):Int):=by rw[wQ,wsucc O]
 rw[g114,hl,w,iP O,q3f O O O,bS];dsimp only;rw[tN,List.length_replicate,iP O,iP O,tN,List.length_replicate,Nat.zero_add]
 have e1:(List.replicate (n+1) ((false,([]:LI)):Bool×LI)).set n ((zB 1).1,(zB 1).2.1)=polyB n c 1:=by
  rw[q7k,q03];refine Qb fun i hi=> ?_
  by_cases ci:i=n
  . subst ci;rw[iP rfl,iP O,Nat.sub_self,h0];rfl
  . rw[iN' ci,iN' O,q59]
 have e2:List.replicate n ([]:List (Bool×LI))=mr n fun i=>if i<0 then rowB n (fun _=>0)else []:=by
  rw[q7k];exact Qb fun i hi=>(iN' O).symm
 rw[e1,e2];rw[show g114L0 m m (matB n M) (n:Int) (polyB n c 1) (mr n fun i=>if i<0 then rowB n (fun _=>0)else []) (n:Int) 0=_ from qnx hn (matB n M) (polyB n c 1) m 0 O O,bS]
 dsimp only;have e3:=qpu hm hn he h1 h2 h3 ht m 1 O O O;rw[show g114L1 m m (matB n M) (n:Int) (polyB n c 1) (matB n (fun _ _=>0)) 1=_ from e3,bS]
def vsF (p:Nat->Int):Nat->Nat->Int->Nat
 |_,0,_=>0
 |a,k+1,s=>(if sgn (p a)*s<0 then 1 else 0)+vsF p (a+1) k (if sgn (p a)=0 then s else sgn (p a))
theorem sgn3 (z:Int):sgn z= -1\/sgn z=0\/sgn z=1:=by
 unfold sgn;by_cases h:z<0
 . rw[iP h];exact .inl rfl
 . rw[iN' h];by_cases h2:0<z
   . rw[iP h2];exact .inr (.inr rfl)
   . rw[iN' h2];exact .inr (.inl rfl)
theorem qgx {m:Nat} (hm:4000000<=m) {n:Nat} (hn:n<=1000) {p:Nat->Int} (h1: ∀i,i<=n->zlen (p i)<=1000000) (vm:List (List Bg)) (t3:Int): ∀(N a q:Nat) (s:Int),n+1-a<N->a<=n+1->q<=a->(s= -1\/s=0\/s=1)->
 g86L3 m N vm t3 (q:Int) s (mr (n+1) fun i=>BZ (p i)) ((n+1:Nat):Int) (a:Int)=some (.inl (vm,t3,((q+vsF p a (n+1-a) s:Nat):Int),())):=by
 intro N;induction N with
 |zero=>intro a q s h;omega
 |succ N ih=>
  intro a q s h ha hq hs;have hl:(mr (n+1) fun i=>BZ (p i)).length=n+1:=Q8
  rw[g86L3,hl];by_cases c:a<n+1
  . have e5:(mr (n+1) fun i=>BZ (p i)).getD a (false,[])=BZ (p a):=Qo c
    have hk:n+1-a=(n+1-(a+1))+1:=O;simp only[tN,Nat.zero_add,e5];rw[bQ,iP O,iP O,bSign hm (h1 a O),bS,hk,vsF];dsimp only;have g:=sgn3 (p a)
    have w:wI (sgn (p a)*s)=sgn (p a)*s:=by
     rw[wQ];rcases g with g|g|g<;>rcases hs with rfl|rfl|rfl<;>rw[g]<;>decide
    rw[w,bQ,bif_ne,bif_ne,wQ,wsucc (show q<4611686018427387904 by omega),wQ,wsucc (show a<4611686018427387904 by omega)]
    by_cases c1:sgn (p a)*s<0
    . rw[iP c1,iP c1];by_cases c2:sgn (p a)=0
      . rw[iP c2,iP c2,ih (a+1) (q+1) s O O O hs,Nat.add_assoc]
      . rw[iN' c2,iN' c2,ih (a+1) (q+1) (sgn (p a)) O O O g,Nat.add_assoc]
    . rw[iN' c1,iN' c1,Nat.zero_add];by_cases c2:sgn (p a)=0
      . rw[iP c2,iP c2,ih (a+1) q s O O O hs]
      . rw[iN' c2,iN' c2,ih (a+1) q (sgn (p a)) O O O g]
  . have:a=n+1:=O;subst this;rw[bQ,iN' O,Nat.sub_self];rfl
theorem qg1 {m:Nat} (hm:4000000<=m) {n:Nat} (hn:n<=1000) {p:Nat->Int} (h1: ∀i,i<=n->zlen (p i)<=1000000) {vm:List (List Bg)} (hv:vm.length=n) (t4:Int) {z:Nat} (hz:z<=n) (hz1: ∀i,i<z->p i=0) (hz2:z<n->p z≠0): ∀(N a:Nat),n-a<N->a<=z->
 g86L2 m N vm (a:Int) t4 (mr (n+1) fun i=>BZ (p i))=some (.inl (vm,(z:Int),t4,(mr (n+1) fun i=>BZ (p i)),())):=by
 intro N;induction N with
 |zero=>intro a h;omega
 |succ N ih=>
  intro a h ha;have hl:(mr (n+1) fun i=>BZ (p i)).length=n+1:=Q8
  rw[g86L2,hl,hv];by_cases c:a<n
  . have e5:(mr (n+1) fun i=>BZ (p i)).getD a (false,[])=BZ (p a):=Qo O
    simp only[tN,Nat.zero_add,e5];rw[bQ,iP O,iP O,bSign hm (h1 a O),bS,bif_eq];dsimp only;by_cases c2:sgn (p a)=0
    . have:a≠z:=by
       rintro rfl
       exact hz2 c (Jp.1 c2)
      rw[iP c2,wQ,wsucc O,ih (a+1) O O]
    . have:a=z:=by
       refine Nat.le_antisymm ha (Nat.le_of_not_lt fun hl=> ?_)
       exact c2 (Jp.2 (hz1 a hl))
      subst this;rw[iN' c2]
  . have:a=z:=O;subst this;rw[bQ,iN' O]
theorem qg9 {m:Nat} (hm:4000000<=m) {n:Nat} (hn:n<=1000) {M:Nat->Nat->Int} (h1: ∀i k,i<n->k<n->zlen (M i k)<=1000000) (hs: ∀i k,i<n->k<n->M i k=M k i) {i:Nat} (hi:i<n) (t3 t4:Int) (t20:List (List Bg)) (t21 t22:Int): ∀(N j:Nat),n-j<N->j<=n->
 g86L1 m N (matB n M) t3 t4 (i:Int) t20 t21 t22 (rowB n (M i)) (n:Int) (j:Int)=some (.inr (.inl (matB n M,t3,t4,t20,t21,t22,()))):=by
 intro N;induction N with
 |zero=>intro a h;omega
 |succ N ih=>
  intro j h hj;have hl:(matB n M).length=n:=Q8;have hr:(rowB n (M i)).length=n:=Q8;rw[g86L1,hl,hr];by_cases c:j<n
  . have e3:(matB n M).getD j []=rowB n (M j):=Qo c;have e4:(rowB n (M j)).length=n:=Q8;have e5:(rowB n (M j)).getD i (false,[])=BZ (M j i):=Qo hi;have e6:(rowB n (M i)).getD j (false,[])=BZ (M i j):=Qo c;simp only[tN,e3,e4,e5,e6];rw[bQ,iP O,iP O,iP O,iP O,bCmp hm (h1 i j hi c) (h1 j i c hi),bS,bif_ne];dsimp only;have:cmpZ (M i j) (M j i)=0:=by unfold cmpZ;rw[hs i j hi c,iN' O,iN' O]
    rw[iP this,wQ,wsucc O];exact ih (j+1) O O
  . have:j=n:=O;subst this;rw[bQ,iN' O]
theorem qga {m:Nat} (hm:4000000<=m) {n:Nat} (hn:n<=1000) {M:Nat->Nat->Int} (h1: ∀i k,i<n->k<n->zlen (M i k)<=1000000) (hs: ∀i k,i<n->k<n->M i k=M k i) (t3 t4:Int): ∀(N i:Nat),n-i<N->i<=n->
 g86L0 m N (matB n M) t3 t4 (matB n M) (n:Int) (i:Int)=some (.inr (.inl (matB n M,t3,t4,()))):=by
 intro N;induction N with
 |zero=>intro a h;omega
 |succ N ih=>
  intro i h hi;have hl:(matB n M).length=n:=Q8;rw[g86L0,hl];by_cases c:i<n
  . have e3:(matB n M).getD i []=rowB n (M i):=Qo c;have e4:(rowB n (M i)).length=n:=Q8;simp only[tN,e3,e4];rw[bQ,iP O,iP O];rw[show g86L1 m m (matB n M) t3 t4 (i:Int) (matB n M) (n:Int) (i:Int) (rowB n (M i)) (n:Int) 0=_ from qg9 hm hn h1 hs c t3 t4 (matB n M) (n:Int) (i:Int) m 0 O O,bS]
    dsimp only;rw[wQ,wsucc O];exact ih (i+1) O O
  . have:i=n:=O;subst this;rw[bQ,iN' O]
theorem qia {m:Nat} {n:Nat} (hn:n<=1000) {M:Nat->Nat->Int}: ∀(N i:Nat),n-i<N->i<=n->
 g180L0 m N (matB n M) ([(n:Int)],0) (n:Int) (i:Int)=some (.inr (.inl ())):=by
 intro N;induction N with
 |zero=>intro a h;omega
 |succ N ih=>
  intro i h hi;have hl:(matB n M).length=n:=Q8;rw[g180L0,hl];by_cases c:i<n
  . have e3:(matB n M).getD i []=rowB n (M i):=Qo c;have e4:(rowB n (M i)).length=n:=Q8;simp only[tN,e3];rw[bQ,iP O,iP O,g165,e4,bS];dsimp only;rw[show([(n:Int)].getD 0 0)=(n:Int)from rfl,bif_ne,iP rfl,wQ,wsucc O]
    exact ih (i+1) O O
  . rw[bQ,iN' O]
theorem qjo {m:Nat} (hm:4000000<=m) {n:Nat} (hn:n<=16) {M:Nat->Nat->Int}:g112 m (matB n M)=some (0,(),()):=by
 have hl:(matB n M).length=n:=Q8
 have hc:g141 m (matB n M)=some ((n:Int),(),()):=by
  rw[g141,hl,bif_eq];by_cases c:n=0
  . subst c;rfl
  . have e3:(matB n M).getD 0 []=rowB n (M 0):=Qo O;have e4:(rowB n (M 0)).length=n:=Q8;rw[iN' O,iP O,e3,e4]
 rw[g112,g140,hc,bS,g164,g180,hl];dsimp only;rw[show g180L0 m m (matB n M) ([(n:Int)],0) (n:Int) 0=_ from qia O m 0 O O,bS]
 dsimp only;rw[bS,bS];dsimp only;rw[bQ,iN' O,bQ,iN' O,bQ,show([(n:Int)].getD 0 0)=(n:Int)from rfl,iN' O,bS,bif_eq,iP rfl,bS,bif_ne,iP rfl]
theorem qco {m:Nat} (hm:4000000<=m) {n:Nat} (hn:n<=16) {M:Nat->Nat->Int} {c:Nat->Int} {e:Nat} (he:e<=300000) (h1: ∀i k,i<n->k<n->zlen (M i k)<=e) (hs: ∀i k,i<n->k<n->M i k=M k i)
 (h2: ∀k,k<=n-> ∀i j,i<n->j<n->zlen (NN n M c k i j)<=300000) (h3: ∀k,k<=n->zlen (c k)<=300000) (h0:c 0=1) (ht: ∀k,1<=k->k<=n->(zs n fun i=>NN n M c k i i)=(k:Int)*(-c k))
 {z:Nat} (hz:z<=n) (hz1: ∀i,i<z->c (n-i)=0) (hz2:z<n->c (n-z)≠0) {q:Nat} (hq:vsF (fun i=>c (n-i)) 0 (n+1) 0=q) (hzq:z+q<=n):
 g86 m (matB n M)=some ((((n-z-q:Nat):Int),(z:Int),(q:Int),0,()),(),()):=by
 have hl:(matB n M).length=n:=Q8;have h1': ∀i k,i<n->k<n->zlen (M i k)<=1000000:=fun i k hi hk=>Nat.le_trans (h1 i k hi hk) O
 have hp:polyB n c (n+1)=mr (n+1) fun i=>BZ (c (n-i)):=Qb fun i hi=>iP O
 have h3': ∀i,i<=n->zlen (c (n-i))<=1000000:=fun i hi=>Nat.le_trans (h3 (n-i) O) O
 rw[g86,qjo hm hn,bS,bif_ne,iP rfl,hl];rw[show g86L0 m m (matB n M) 0 0 (matB n M) (n:Int) 0=_ from qga hm O h1' hs 0 0 m 0 O O,bS]
 dsimp only;rw[qpz hm O h1',bS];dsimp only;rw[qns hm O he h1 h2 h3 h0 ht,bS,hp];dsimp only;rw[show g86L2 m m (matB n M) 0 0 (mr (n+1) fun i=>BZ (c (n-i)))=_ from qg1 hm O (p:=fun i=>c (n-i)) h3' hl 0 hz hz1 hz2 m 0 O O,bS]
 dsimp only;have hl2:(mr (n+1) fun i=>BZ (c (n-i))).length=n+1:=Q8
 have e3:=qgx hm O (p:=fun i=>c (n-i)) h3' (matB n M) (z:Int) m 0 0 0 O O O O
 rw[Nat.sub_zero,hq,Nat.zero_add]at e3;rw[hl2,show g86L3 m m (matB n M) (z:Int) 0 0 (mr (n+1) fun i=>BZ (c (n-i))) ((n+1:Nat):Int) 0=_ from e3,bS]
 dsimp only;rw[hl]
 have w:wI ((wI ((n:Int)-(z:Int)))-(q:Int))=((n-z-q:Nat):Int):=by
  rw[wQ,wQ,wi (n:=(n:Int)-(z:Int)) O O,wi O O];omega
 rw[w]
def lst:Int->List Rat->Int
 |s,[]=>s
 |s,x::l=>lst (if sgq x=0 then s else sgq x) l
def fst1:List Rat->Int
 |[]=>0
 |x::l=>if sgq x=0 then fst1 l else sgq x
theorem qo5 {l:List Rat} {x:Rat}: ∀{s:Int},vs s (l++[x])=vs s l+if sgq x*lst s l<0 then 1 else 0:=by
 induction l with
 |nil=>intro s;show(if sgq x*s<0 then 1 else 0)+0=0+_;rw[Nat.add_zero,Nat.zero_add];rfl
 |cons y l ih=>intro s;rw[List.cons_append,vs,vs,ih,lst,Nat.add_assoc]
theorem qln {l:List Rat} {x:Rat}: ∀{s:Int},lst s (l++[x])=if sgq x=0 then lst s l else sgq x:=by
 induction l with
 |nil=>intro s;rfl
 |cons y l ih=>intro s;rw[List.cons_append,lst,ih,lst]
theorem qob {l:List Rat}:lst 0 l.reverse=fst1 l:=by
 induction l with
 |nil=>rfl
 |cons x l ih=>rw[List.reverse_cons,qln,ih,fst1]
theorem qnq {l:List Rat}: ∀{s:Int},vs s l=vs 0 l+if s*fst1 l<0 then 1 else 0:=by
 induction l with
 |nil=>intro s;show 0=0+(if s*0<0 then 1 else 0);rw[Int.mul_zero,iN' (by decide)]
 |cons x l ih=>
  intro s;rw[vs,vs,fst1];by_cases c:sgq x=0
  . have z: ¬(0:Int)<0:=by decide
    simp only[c,if_true,Int.zero_mul,z,if_false,Nat.zero_add];exact ih
  . rw[iN' c,iN' c,iN' c,Int.mul_zero,iN' (show¬(0:Int)<0 by decide),Int.mul_comm];omega
theorem qqj {l:List Rat}:vs 0 l.reverse=vs 0 l:=by
 induction l with
 |nil=>rfl
 |cons x l ih=>
  rw[List.reverse_cons,qo5,ih,qob,vs,Int.mul_zero,iN' (show¬(0:Int)<0 by decide)]
  by_cases c:sgq x=0
  . rw[iP c,c,Int.zero_mul,iN' (by decide)];omega
  . rw[iN' c,qnq (s:=sgq x)];omega
theorem qks {m:List Rat} (h: ∀x∈m,x=0): ∀{s:Int},vs s m=0:=by
 induction m with
 |nil=>intro s;rfl
 |cons x m ih=>
  intro s;have hx:sgq x=0:=by rw[h x mS];decide
  rw[vs,hx,iP rfl,Int.zero_mul,iN' (by decide),ih fun y hy=>h y (mT hy)]
theorem qbe {l m:List Rat} (h: ∀x∈m,x=0): ∀{s:Int},vs s (l++m)=vs s l:=by
 induction l with
 |nil=>intro s;exact qks h
 |cons x l ih=>intro s;rw[List.cons_append,vs,vs,ih]
theorem qkm (z:Int):sgq (z:Rat)=sgn z:=by
 unfold sgq sgn;by_cases h1:z<0
 . rw[iP (by have:=Rat.intCast_lt_intCast.2 h1;exact this),iP h1]
 . by_cases h2:z=0
   . subst h2;decide
   . have h3:0<z:=O;have h4:(0:Rat)<(z:Rat):=Rat.intCast_lt_intCast.2 h3;rw[iN' (by grind),iN' (by grind),iN' h1,iP h3]
theorem qnc {p:Nat->Int}: ∀(k a:Nat) (s:Int),vsF p a k s=vs s ((List.range' a k).map fun i=>(p i:Rat))
 |0,_,_=>rfl
 |k+1,a,s=>by rw[vsF,List.range'_succ,List.map_cons,vs,qkm,qnc k]
theorem qd4 {f:Nat->Int}: ∀k:Nat,((zs k f:Int):Rat)=sm (List.range k) (fun i=>(f i:Rat))
 |0=>rfl
 |k+1=>by
  rw[zs,List.range_succ,qn4,Rat.intCast_add,qd4 k,qy,sm_nil];grind
section
variable {n:Nat} {M:Nat->Nat->Int} {c:Nat->Int}
def qM (M:Nat->Nat->Int):Nat->Nat->Rat:=fun i j=>(M i j:Rat)
def FF (n:Nat) (M:Nat->Nat->Int) (i j t:Nat):Rat:=if t=0 then 0 else mp (List.range n) (qM M) t i j
theorem qo2: ∀(k i j:Nat),i<n->j<n->((NN n M c k i j:Int):Rat)=cv (fun t=>(c t:Rat)) (FF n M i j) k:=by
 intro k;induction k with
 |zero=>intro i j _ _;rw[X4];show(0:Rat)=0*_;grind
 |succ k ih=>
  intro i j hi hj
  have e1:((NN n M c (k+1) i j:Int):Rat)=sm (List.range n) (fun l=>(M i l:Rat)*(cv (fun t=>(c t:Rat)) (FF n M l j) k+(if l=j then 1 else 0)*(c k:Rat))):=by
   show((zs n (fun l=>M i l*(NN n M c k l j+if l=j then c k else 0)):Int):Rat)=_
   rw[qd4];refine qh fun l hl=> ?_
   have hl':=List.mem_range.1 hl;rw[Rat.intCast_mul,Rat.intCast_add,ih l j hl' hj];by_cases d:l=j
   . rw[iP d,iP d];grind
   . rw[iN' d,iN' d,Rat.intCast_zero];grind
  have e2:(fun t=>FF n M i j (t+1))=fun t=>sm (List.range n) (fun l=>(M i l:Rat)*(fun t=>FF n M l j t+(if l=j then 1 else 0)*dl0 t) t):=by
   funext t
   show(if t+1=0 then 0 else mp (List.range n) (qM M) (t+1) i j)=_
   rw[iN' O,Jo];refine qh fun l _=> ?_
   show(M i l:Rat)*mp (List.range n) (qM M) t l j=(M i l:Rat)*((if t=0 then 0 else mp (List.range n) (qM M) t l j)+(if l=j then 1 else 0)*(if t=0 then 1 else 0))
   by_cases d:t=0
   . subst d;rw[Zu,iP rfl,iP rfl];grind
   . rw[iN' d,iN' d];grind
  rw[e1,Ql,e2,<-Zf (F:=fun l t=>FF n M l j t+(if l=j then 1 else 0)*dl0 t)]
  have e3:FF n M i j 0=0:=rfl;rw[e3]
  have e4: ∀l∈List.range n,(M i l:Rat)*(cv (fun t=>(c t:Rat)) (FF n M l j) k+(if l=j then 1 else 0)*(c k:Rat))=(M i l:Rat)*cv (fun t=>(c t:Rat)) (fun t=>FF n M l j t+(if l=j then 1 else 0)*dl0 t) k:=by
   intro l _;rw[Yf,Xx,qka]
  rw[qh e4];grind
theorem NN_tr (hc:NW (sp (List.range n) (qM M)) (fun t=>(c t:Rat))) (k:Nat):(zs n fun i=>NN n M c k i i)=(k:Int)*(-c k):=by
 have e1:(((zs n fun i=>NN n M c k i i):Int):Rat)=cv (fun t=>(c t:Rat)) (sp (List.range n) (qM M)) k:=by
  rw[qd4,qh fun i hi=>qo2 k i i (List.mem_range.1 hi) (List.mem_range.1 hi),<-qf9 (F:=fun i t=>FF n M i i t)]
  refine qeg (fun t _=> ?_) (fun _ _=>rfl)
  unfold sp FF tr;by_cases d:t=0
  . simp only[d,if_true];exact q3l
  . simp only[d,if_false]
 have e2:=hc.2 k
 have e3:(((zs n fun i=>NN n M c k i i):Int):Rat)=(((k:Int)*(-c k):Int):Rat):=by
  rw[e1,Rat.intCast_mul,Rat.intCast_neg,Rat.intCast_natCast];grind
 exact Rat.intCast_inj.1 e3
end
theorem qaq:zlen 0=0:=by unfold zlen;rw[show(0:Int).natAbs=0 from rfl,Qa];rfl
theorem qli {z:Int}:zlen (-z)=zlen z:=by unfold zlen;rw[Int.natAbs_neg]
theorem qcj {k:Nat} {z:Int} (hk:1<=k):zlen z<=zlen ((k:Int)*z):=by
 unfold zlen;refine Q7 ?_;rw[Int.natAbs_mul,Int.natAbs_natCast];exact Nat.le_mul_of_pos_left _ hk
theorem qmh {n:Nat} (hn:n<=16) {M:Nat->Nat->Int} {c:Nat->Int} {e:Nat} (h1: ∀i k,i<n->k<n->zlen (M i k)<=e) (h0:c 0=1) (ht: ∀k,(zs n fun i=>NN n M c k i i)=(k:Int)*(-c k)):
 ∀k,k<=n->(∀i j,i<n->j<n->zlen (NN n M c k i j)<=k*(e+40))/\zlen (c k)<=k*(e+40)+17:=by
 intro k;induction k with
 |zero=>
  intro _;refine⟨fun i j _ _=>by rw[show NN n M c 0 i j=0 from rfl,qaq];exact Nat.zero_le _,?_⟩
  rw[h0];have:zlen 1<=1:=q6h (k:=1) (by decide)
  omega
 |succ k ih=>
  intro hk;obtain⟨i1,i2⟩:=ih O;have e0:(k+1)*(e+40)=k*(e+40)+e+40:=by rw[Nat.add_mul,Nat.one_mul];omega
  have key: ∀i j,i<n->j<n->zlen (NN n M c (k+1) i j)<=(k+1)*(e+40):=by
   intro i j hi hj;show zlen (zs n fun l=>M i l*(NN n M c k l j+if l=j then c k else 0))<=_
   have:zlen (zs n fun l=>M i l*(NN n M c k l j+if l=j then c k else 0))<=(e+(k*(e+40)+18))+n:=q7s fun l hl=>by
    refine Nat.le_trans Xy (Nat.add_le_add (h1 i l hi hl) (q2k (k:=k*(e+40)+17) (Nat.le_trans (i1 l j hl hj) O) ?_));by_cases d:l=j
    . rw[iP d];exact i2
    . rw[iN' d,qaq];exact Nat.zero_le _
   omega
  refine⟨key,?_⟩
  have h3:zlen (c (k+1))<=zlen (((k+1:Nat):Int)*(-c (k+1))):=by
   rw[<-qli (z:=c (k+1))];exact qcj O
  rw[<-ht (k+1)]at h3;have h4:zlen (zs n fun i=>NN n M c (k+1) i i)<=(k+1)*(e+40)+n:=q7s fun i hi=>key i i hi hi
  omega
theorem qgm {m:Nat} (hm:4000000<=m) {n:Nat} (hn:n<=16) {M:Nat->Nat->Int} {e:Nat} (he:e<=10000) (h1: ∀i k,i<n->k<n->zlen (M i k)<=e) (hs: ∀i k,i<n->k<n->M i k=M k i)
 {V:Nat->Nat->Rat} {b:Nat->Rat} (hd:Dg (List.range n) (qM M) V b):
 g86 m (matB n M)=some ((((npos (List.range n) (fun i=> -b i):Nat):Int),((n-(npos (List.range n) b+npos (List.range n) (fun i=> -b i)):Nat):Int),((npos (List.range n) b:Nat):Int),0,()),(),()):=by
 obtain⟨f,hf,hz⟩:=qqn (A:=qM M) (fun i j=>⟨M i j,rfl⟩) (List.range n) List.nodup_range
 let c:Nat->Int:=fun k=>Classical.choose (hz k)
 have hcf:(fun t=>(c t:Rat))=f:=by funext t;exact(Classical.choose_spec (hz t)).symm
 have hc:NW (sp (List.range n) (qM M)) (fun t=>(c t:Rat)):=by rw[hcf];exact hf
 have hc0:c 0=1:=by
  have:(c 0:Rat)=1:=hc.1;exact Rat.intCast_inj.1 (this.trans Rat.intCast_one.symm)
 have ht:=NN_tr hc;have hsz:=qmh hn h1 hc0 ht;obtain⟨d1,d2,d3⟩:=qin List.nodup_range (fun i hi j hj=>by show(M i j:Rat)=(M j i:Rat);rw[hs i j (List.mem_range.1 hi) (List.mem_range.1 hj)]) hd hc
 have hle:=q92 (L:=List.range n) (b:=b);rw[List.length_range]at hle d1;generalize hpi:npos (List.range n) b=π at*;generalize hnu:npos (List.range n) (fun i=> -b i)=ν at*
 have bd: ∀k,k<=n->k*(e+40)<=160640:=fun k hk=>Nat.le_trans (Nat.mul_le_mul (show k<=16 by omega) (show e+40<=10040 by omega)) (by decide)
 have hq:vsF (fun i=>c (n-i)) 0 (n+1) 0=π:=by
  rw[qnc]
  have e1:((List.range' 0 (n+1)).map fun i=>((c (n-i):Int):Rat))=((1:Rat)::cs (fun t=>(c t:Rat)) n).reverse:=by
   apply List.ext_getElem
   . rw[List.length_map,List.length_range',List.length_reverse,List.length_cons,q6p]
   . intro i hi1 hi2;rw[List.getElem_reverse];have hi:i<n+1:=by rw[List.length_map,List.length_range']at hi1;exact hi1
     simp only[List.getElem_map,List.getElem_range',List.length_cons,q6p];rw[Nat.zero_add,Nat.one_mul];by_cases ci:i=n
     . subst ci;simp[hc0]
     . obtain⟨j,hj⟩: ∃j,n-i=j+1:=⟨n-i-1,O⟩;have:n+1-1-i=j+1:=O;simp only[this,List.getElem_cons_succ,hj];simp[cs]
  rw[e1,qqj];have e2:sgq (1:Rat)=1:=by decide
  rw[vs,e2,Int.mul_zero,iN' (by decide),Nat.zero_add,iN' (by decide)]
  obtain⟨l,hl⟩: ∃l,cs (fun t=>(c t:Rat)) n=cs (fun t=>(c t:Rat)) (π+ν)++l/\ ∀x∈l,x=0:=by
   have hsplit:n=(π+ν)+(n-(π+ν)):=O;refine⟨(List.range (n-(π+ν))).map fun i=>(c (π+ν+i+1):Rat),?_,?_⟩
   . unfold cs;conv=>lhs;rw[hsplit]
     rw[List.range_add,List.map_append,List.map_map];rfl
   . intro x hx;obtain⟨i,hi,rfl⟩:=List.mem_map.1 hx;have:=List.mem_range.1 hi;exact d1 (π+ν+i+1) O O
  rw[hl.1,qbe hl.2,d3]
 have hraw:=qco hm hn (c:=c) (e:=e) O h1 hs (fun k hk i j hi hj=>Nat.le_trans ((hsz k hk).1 i j hi hj) (Nat.le_trans (bd k hk) O)) (fun k hk=>Nat.le_trans (hsz k hk).2 (by have:=bd k hk;omega)) hc0 (fun k _ _=>ht k)
  (z:=n-(π+ν)) O (fun i hi=>by
    have:=d1 (n-i) O O;exact Rat.intCast_inj.1 (this.trans Rat.intCast_zero.symm)) (fun hlt h=>by
    have e1:n-(n-(π+ν))=π+ν:=O;rw[e1]at h;exact d2 (by show(c (π+ν):Rat)=0;rw[h];exact Rat.intCast_zero)) hq O
 rw[hraw];congr 4;omega
end Go.Vs.F
