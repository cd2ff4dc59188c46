/-The document's products of big integers and of dyads. Exact division of a big integer by a small one. Lists and matrices of big integers:products,the characteristic polynomial. The characteristic polynomial and the inertia,as the program computes them. The inertia,as the program computes it,is that of any diagonal form. The program's inertia of a symmetric matrix of integers is that of every diagonal form. -/
import Derived.Test.YtikppifemlpjlaaGreatDoorLd
import Derived.Test.YtikppifemlpjlaaGreatDoorTa
set_option linter.unusedVariables false
set_option linter.unusedSimpArgs false
set_option maxRecDepth 100000
namespace Go.Vs.F
theorem qfm (m:Nat) {a b:LI} (hb:Lm b) (hl:b.length<=1000000) {i x:Nat} (hia:i<a.length) (hax:a.getD i 0=(x:Int)) (hx:x<4294967296) (hi:i<=1000000): ∀(n j:Nat) (out:LI) (c:Nat),b.length-j<n->j<=b.length->Lm out->i+b.length<out.length->c<4294967296->
 ∃out' c',g165L1 m n a b out (i:Int) (c:Int) (j:Int)=some (.inl (a,b,out',(i:Int),((c':Nat):Int),()))/\Lm out'/\out'.length=out.length/\c'<4294967296/\
  (∀p,i+b.length<=p->out'.getD p 0=out.getD p 0)/\vl out'+4294967296^(i+b.length)*c'=vl out+4294967296^(i+j)*(c+x*vl (b.drop j))
 |0,j,out,c,h,_,_,_,_=>O
 |n+1,j,out,c,h,hj0,ho,hol,hc=>by
  rw[g165L1];by_cases hj:j<b.length
  . have h1:((j:Int)<(b.length:Int)):=O;have c0:(0:Int)<=(i:Int)/\(i:Int)<(a.length:Int):=O;have c1:(0:Int)<=(j:Int)/\(j:Int)<(b.length:Int):=O;obtain⟨y,ey,hy⟩:=hb.get hj
    have w0:wI ((i:Int)+(j:Int))=((i+j:Nat):Int):=by
     rw[wQ,wi O O];omega
    have c2:(0:Int)<=((i+j:Nat):Int)/\((i+j:Nat):Int)<(out.length:Int):=O;obtain⟨z,ez,hz⟩:=ho.get (show i+j<out.length by omega)
    have hm:=qh9 hx hy;have w1:wJ (x:Int)=(x:Int):=w64n O;have w2:wJ (y:Int)=(y:Int):=w64n O;have w3:wJ (z:Int)=(z:Int):=w64n O;have w4:wJ ((x:Int)*(y:Int))=((x*y:Nat):Int):=by rw[show(x:Int)*(y:Int)=((x*y:Nat):Int) by rw[Int.natCast_mul],w64n O]
    have w5:wJ ((c:Int)+((x*y:Nat):Int))=((c+x*y:Nat):Int):=by rw[show(c:Int)+((x*y:Nat):Int)=((c+x*y:Nat):Int) by rw[Int.natCast_add],w64n O]
    have w6:wJ (((c+x*y:Nat):Int)+(z:Int))=((c+x*y+z:Nat):Int):=by rw[show((c+x*y:Nat):Int)+(z:Int)=((c+x*y+z:Nat):Int) by rw[Int.natCast_add (c+x*y)],w64n O]
    have e1:wK ((c+x*y+z:Nat):Int)=(((c+x*y+z)%4294967296:Nat):Int):=w32;have e2:shr_ .u64 ((c+x*y+z:Nat):Int) 32=(((c+x*y+z)/4294967296:Nat):Int):=shr64 (a:=c+x*y+z) (k:=32) O;rw[bQ,iP h1,iP c0,iP c1,w0,iP c2,iP c2,tN,tN,tN,Nat.zero_add,hax,ey,ez,w1,w2,w3,w4,w5,w6,e1,e2,show wI ((j:Int)+1)=((j+1:Nat):Int)from wsucc O]
    have hlen:(out.set (i+j) (((c+x*y+z)%4294967296:Nat):Int)).length=out.length:=List.length_set ..;obtain⟨out',c',g1,g2,g3,g4,g5,g6⟩:=qfm m hb hl hia hax hx hi n (j+1) (out.set (i+j) (((c+x*y+z)%4294967296:Nat):Int)) ((c+x*y+z)/4294967296) O O (Yq ho O) O O;refine⟨out',c',g1,g2,O,g4,fun p hp=> ?_,?_⟩
    . rw[g5 p hp,getD_set_ne O]
    . rw[g6];have hs:=Yv (l:=out) (p:=i+j) (y:=(((c+x*y+z)%4294967296:Nat):Int)) O;rw[ez,tN,tN]at hs;have hd:vl (b.drop j)=y+4294967296*vl (b.drop (j+1)):=by rw[Qw hj,ey,tN]
      rw[hd,show i+(j+1)=i+j+1 by omega,Nat.pow_succ]
      generalize 4294967296^(i+j)=P at*
      generalize vl (b.drop (j+1))=D at*
      generalize vl (out.set (i+j) (((c+x*y+z)%4294967296:Nat):Int))=A at*
      have ht:c+x*y+z=(c+x*y+z)%4294967296+4294967296*((c+x*y+z)/4294967296):=(Nat.mod_add_div _ _).symm;have k1:P*(c+x*y+z)=P*((c+x*y+z)%4294967296)+P*(4294967296*((c+x*y+z)/4294967296)):=by rw[<-Nat.mul_add,<-ht]
      have k2:P*(c+x*y+z)=P*c+P*(x*y)+P*z:=by rw[Nat.mul_add,Nat.mul_add]
      have k3:P*4294967296*((c+x*y+z)/4294967296+x*D)=P*(4294967296*((c+x*y+z)/4294967296))+P*(4294967296*(x*D)):=by rw[Nat.mul_add,Nat.mul_assoc,Nat.mul_assoc]
      have k4:P*(c+x*(y+4294967296*D))=P*c+(P*(x*y)+P*(4294967296*(x*D))):=by rw[Nat.mul_add,Nat.mul_add x,Nat.mul_add P (x*y),Nat.mul_left_comm x 4294967296 D]
      rw[k3,k4];omega
  . rw[bQ,iN' O];have:j=b.length:=O;subst this;refine⟨out,c,rfl,ho,rfl,hc,fun _ _=>rfl,?_⟩
    rw[qm (Nat.le_refl _),Nat.mul_zero,Nat.add_zero]
theorem qi9 (m:Nat) {a b:LI} (hm:2000000<m) (ha:Lm a) (hb:Lm b) (hla:a.length<=1000000) (hlb:b.length<=1000000): ∀(n i:Nat) (out:LI),a.length-i<n->i<=a.length->Lm out->out.length=a.length+b.length->(∀p,i+b.length<=p->out.getD p 0=0)->
 ∃out',g165L0 m n a b out (i:Int)=some (.inl (out',()))/\Lm out'/\out'.length=a.length+b.length/\vl out'=vl out+4294967296^i*(vl (a.drop i)*vl b)
 |0,i,out,h,_,_,_,_=>O
 |n+1,i,out,h,hi0,ho,hol,hz=>by
  rw[g165L0];by_cases hi:i<a.length
  . have h1:((i:Int)<(a.length:Int)):=O;obtain⟨x,ex,hx⟩:=ha.get hi;obtain⟨o1,c,g1,g2,g3,g4,g5,g6⟩:=qfm m (a:=a) hb hlb (i:=i) hi ex hx O m 0 out 0 O O ho O O;rw[nZ]at g1
    have w0:wI ((i:Int)+(b.length:Int))=((i+b.length:Nat):Int):=by
     rw[wQ,wi O O];omega
    have c2:(0:Int)<=((i+b.length:Nat):Int)/\((i+b.length:Nat):Int)<(o1.length:Int):=O;have w1:wK (c:Int)=(c:Int):=by rw[w32];congr 1;omega
    rw[bQ,iP h1,g1,bS];dsimp only;rw[w0,iP c2,tN,Nat.zero_add,w1,show wI ((i:Int)+1)=((i+1:Nat):Int)from wsucc O]
    have hs:=Yv (l:=o1) (p:=i+b.length) (y:=(c:Int)) O;rw[g5 _ (Nat.le_refl _),hz _ (Nat.le_refl _),tN]at hs
    obtain⟨out',q1,q2,q3,q4⟩:=qi9 m hm ha hb hla hlb n (i+1) (o1.set (i+b.length) (c:Int)) O O (Yq g2 g4) (by rw[List.length_set];omega) (fun p hp=>by
     rw[getD_set_ne O,g5 p O];exact hz p O)
    refine⟨out',q1,q2,q3,?_⟩;rw[q4,Qw hi,ex,tN,Nat.pow_succ];simp only[Int.toNat_zero,Nat.mul_zero,Nat.add_zero,Nat.zero_add,List.drop_zero]at hs g6;rw[Nat.add_mul,Nat.mul_add];have k:4294967296^i*4294967296*(vl (a.drop (i+1))*vl b)=4294967296^i*(4294967296*vl (a.drop (i+1))*vl b):=by rw[Nat.mul_assoc,Nat.mul_assoc]
    rw[k];omega
  . rw[bQ,iN' O];refine⟨out,rfl,ho,hol,?_⟩;rw[qm O,Nat.zero_mul,Nat.mul_zero,Nat.add_zero]
theorem qjz {m:Nat} (hm:4000000<=m) {a b:LI} (ha:Lm a) (hb:Lm b) (hla:a.length<=400000) (hlb:b.length<=400000): ∃out,g165 m a b=some (out,(),(),())/\Lm out/\out.length=a.length+b.length/\vl out=vl a*vl b:=by
 have w:wI ((a.length:Int)+(b.length:Int))=((a.length+b.length:Nat):Int):=by rw[wQ,wi O O];omega
 obtain⟨out,e,q1,q2,q3⟩:=qi9 m O ha hb O O m 0 (List.replicate (a.length+b.length) 0) O O Qh (by simp) (fun p hp=>by
  by_cases h:p<a.length+b.length
  . rw[Xb h]
  . rw[Yb (by simpa using h)])
 rw[nZ]at e;refine⟨out,?_,q1,q2,?_⟩
 . rw[g165,w,iP O,tN,e];rfl
 . rw[q3,Qm];simp
theorem qmd {m:Nat} (hm:4000000<=m) {n1 n2:Bool} {l1 l2:LI} (h1:Lm l1) (h2:Lm l2) (hl:l1.length+l2.length<=400000):g120 m n1 l1 n2 l2=some (zB (zv n1 l1*zv n2 l2),(),(),()):=by
 have b1:=Qr h1;have b2:=Qr h2;obtain⟨out,e,q1,q2,q3⟩:=qjz hm (qy (vl l1)) (qy (vl l2)) O O;rw[g120,Y4 h1 O O,bS,Y4 h2 O O,bS];dsimp only;rw[e,bS];dsimp only;rw[Xh O q1 O,bS]
 have:zv (!(n1==n2)) out=zv n1 l1*zv n2 l2:=by
  unfold zv;rw[q3,qw,qw];cases n1<;>cases n2<;>simp[Int.neg_mul,Int.mul_neg]
 rw[this]
theorem qgp {r x:Nat} (hr:r<4294967296) (hx:x<4294967296):b_or_ .u64 (shl_ .u64 (r:Int) 32) (x:Int)=((r*4294967296+x:Nat):Int):=by
 have e1:shl_ .u64 (r:Int) 32=((r*4294967296:Nat):Int):=by
  have h:=shl64 (a:=r) (k:=32) O (by rw[show(2:Nat)^32=4294967296 by decide];omega)
  rw[show(2:Nat)^32=4294967296 by decide]at h
  exact h
 rw[e1,or64 O O];have:=Nat.two_pow_add_eq_or_of_lt (i:=32) (b:=x) O r;rw[Nat.mul_comm,show(4294967296:Nat)=2^32 by decide,<-this]
theorem drop_set_self {l:LI} {i:Nat} {x:Int} (h:i<l.length):(l.set i x).drop i=x::l.drop (i+1):=by
 rw[List.drop_eq_getElem_cons (by rw[List.length_set];exact h)]
 congr 1
 . simp
 . rw[List.drop_set];simp
theorem qe7 (m:Nat) {a:LI} (ha:Lm a) (hl:a.length<=1000000) {d:Nat} (hd:0<d) (hd2:d<4294967296): ∀(k n:Nat) (out:LI),k<n->k<=a.length->Lm out->out.length=a.length->vl (out.drop k)=vl (a.drop k)/d->
 ∃out',g207L0 m n a (d:Int) out ((vl (a.drop k)%d:Nat):Int) ((k:Int)-1)=some (.inl (out',((vl a%d:Nat):Int),()))/\Lm out'/\out'.length=a.length/\vl out'=vl a/d
 |0,n+1,out,_,_,h1,h2,h3=>by
  refine⟨out,?_,h1,h2,by simpa using h3⟩
  rw[g207L0,bQ,iN' O,List.drop_zero]
 |k+1,n+1,out,hn,hk,h1,h2,h3=>by
  obtain⟨x,ex,hx,hv⟩:=ha.get' k;have hr:vl (a.drop (k+1))%d<d:=Nat.mod_lt _ hd;have w:((k+1:Nat):Int)-1=(k:Int):=O;rw[g207L0,w,bQ,iP O,iP O];have wd:wJ (d:Int)=(d:Int):=w64n O;rw[wd,iP O,iP O,iP O,tN,ex,w64n O,qgp O hx,td,tm]
  have hq:(vl (a.drop (k+1))%d*4294967296+x)/d<4294967296:=by
   rw[Nat.div_lt_iff_lt_mul hd];have:(vl (a.drop (k+1))%d+1)*4294967296<=d*4294967296:=Nat.mul_le_mul_right _ hr;omega
  have wq:wK (wJ (((vl (a.drop (k+1))%d*4294967296+x)/d:Nat):Int))=(((vl (a.drop (k+1))%d*4294967296+x)/d:Nat):Int):=by
   rw[w64n O,w32,Nat.mod_eq_of_lt hq]
  rw[wq,Nat.zero_add]
  have e1:vl (a.drop k)=d*(4294967296*(vl (a.drop (k+1))/d))+(vl (a.drop (k+1))%d*4294967296+x):=by
   rw[hv];have:=Nat.div_add_mod (vl (a.drop (k+1))) d;generalize vl (a.drop (k+1))/d=q at*;generalize vl (a.drop (k+1))%d=r at*;rw[<-this,Nat.mul_add,<-Nat.mul_assoc,Nat.mul_comm 4294967296 d,Nat.mul_assoc];omega
  have e2:vl (a.drop k)/d=4294967296*(vl (a.drop (k+1))/d)+(vl (a.drop (k+1))%d*4294967296+x)/d:=by
   rw[e1,Nat.mul_add_div hd]
  have e3:vl (a.drop k)%d=(vl (a.drop (k+1))%d*4294967296+x)%d:=by
   rw[e1,Nat.mul_add_mod]
  rw[<-e3,wQ,wi O O];refine qe7 m ha hl hd hd2 k n _ O O (Yq h1 hq) (by rw[List.length_set];exact h2) ?_
  rw[drop_set_self O,vl,tN,h3,e2];omega
theorem qjj {m:Nat} (hm:2000000<m) {a:LI} (ha:Lm a) (hl:a.length<=1000000) {d:Nat} (hd:0<d) (hd2:d<4294967296):
 g207 m a (d:Int)=some ((lim (vl a/d),((vl a%d:Nat):Int),()),(),(),()):=by
 rw[g207,iP O,tN,wQ,wi O O];have h0:(a.drop a.length)=[]:=List.drop_length
 obtain⟨out,h1,h2,h3,h4⟩:=qe7 m ha hl hd hd2 a.length m (List.replicate a.length 0) O (Nat.le_refl _) Qh (List.length_replicate ..) (by
  rw[List.drop_eq_nil_of_le (by rw[List.length_replicate];exact Nat.le_refl _),h0]
  show 0=0/d
  rw[Nat.zero_div])
 rw[h0]at h1
 have e0:((vl ([]:LI)%d:Nat):Int)=0:=by
  show((0%d:Nat):Int)=0
  rw[Nat.zero_mod];rfl
 rw[e0]at h1;rw[h1,bS];dsimp only;rw[Qx h2 O O,bS,h4,w32,Nat.mod_eq_of_lt (Nat.lt_trans (Nat.mod_lt _ hd) hd2)]
theorem qa8 {d:Nat} (h0:0<d) (h:d<4294967296):lim d=[(d:Int)]:=by
 rw[q08 O,Nat.div_eq_of_lt h,Q9,Nat.mod_eq_of_lt h]
theorem qau {m:Nat} (hm:2000000<m) {A d:Nat} (hA:(lim A).length<=1000000) (h0:0<d) (h:d<4294967296):
 g201 m (lim A) (lim d)=some ((lim (A/d),lim (A%d),()),(),(),()):=by
 have hd1:(lim d).length=1:=by rw[qa8 h0 h];rfl
 rw[g201,Jg hm hA O,bS,bQ];dsimp only;by_cases c:A<d
 . have hc:cmpN A d= -1:=by unfold cmpN;rw[iP c]
   rw[hc,iP O,qad O,bS,Nat.div_eq_of_lt c,Nat.mod_eq_of_lt c,Q9]
 . have hc: ¬cmpN A d<0:=by unfold cmpN;rw[iN' c];split<;>omega
   rw[iN' hc,hd1,bif_eq,iP (show((1:Nat):Int)=1 from rfl),iP O,qa8 h0 h]
   show(g207 m (lim A) (d:Int)).bind _=_
   rw[qjj hm (qy A) hA h0 h,bS,qw];dsimp only;have hr:A%d<4294967296:=Nat.lt_trans (Nat.mod_lt _ h0) h;rw[Qx (fun x hx=>by rw[List.mem_singleton.1 hx];omega) (by simp;omega) (by simp),bS]
   show some ((_,lim ((((A%d:Nat):Int)).toNat+4294967296*0),()),_)=_
   rw[tN,Nat.mul_zero,Nat.add_zero]
abbrev Bg:=Bool×LI
def BZ (z:Int):Bg:=((zB z).1,(zB z).2.1)
theorem qoz:BZ 0=(false,[]):=by show(decide ((0:Int)<0),lim 0)=_;rw[Q9];rfl
def mr {α:Type} (n:Nat) (f:Nat->α):List α:=(List.range n).map f
theorem Zh {α:Type} {n:Nat} {f:Nat->α}:(mr n f).length=n:=by unfold mr;rw[List.length_map,List.length_range]
theorem q2x {α:Type} {n:Nat} {f:Nat->α} {j:Nat} {d:α} (h:j<n):(mr n f).getD j d=f j:=by
 unfold mr;simp[List.getD,h]
theorem Qd {α:Type} {n:Nat} {f g:Nat->α} (h: ∀i,i<n->f i=g i):mr n f=mr n g:=
 List.map_congr_left fun i hi=>h i (List.mem_range.1 hi)
theorem qg1 {α:Type} {n:Nat} {f:Nat->α} {i:Nat} (h:i<(mr n f).length):(mr n f)[i]=f i:=by simp[mr]
theorem q62 {α:Type} {n:Nat} {f:Nat->α} {j:Nat} {x:α}:(mr n f).set j x=mr n (fun k=>if k=j then x else f k):=by
 apply List.ext_getElem
 . rw[List.length_set,Zh,Zh]
 . intro i h1 h2;rw[List.getElem_set,qg1,qg1];by_cases c:j=i
   . rw[iP c,iP c.symm]
   . rw[iN' c,iN' (fun h=>c h.symm)]
theorem q4m {α:Type} {n:Nat} {f:Nat->α}:mr n f++[f n]=mr (n+1) f:=by
 unfold mr;rw[List.range_succ,List.map_append];rfl
theorem q92 {α:Type} {n:Nat} {x:α}:List.replicate n x=mr n (fun _=>x):=by
 apply List.ext_getElem
 . rw[List.length_replicate,Zh]
 . intro i h1 h2;rw[qg1];simp
theorem qco {α:Type} {f:Nat->α}:mr 0 f=[]:=rfl
def rowB (n:Nat) (f:Nat->Int):List Bg:=mr n fun j=>BZ (f j)
def matB (n:Nat) (M:Nat->Nat->Int):List (List Bg):=mr n fun i=>rowB n (M i)
def zs:Nat->(Nat->Int)->Int
 |0,_=>0
 |k+1,f=>zs k f+f k
theorem bNorm {m:Nat} (hm:4000000<=m) {a:Int} (ha:zlen a<=1000000):g95 m (BZ a).1 (BZ a).2=some (zB a,(),()):=by
 have:=qm4 (m:=m) O (neg:=(zB a).1) (Sz_zB ha)
 rwa [zv_zB]at this
section
variable {n:Nat} {M:Nat->Nat->Int} {c:Nat->Int}
def qM (M:Nat->Nat->Int):Nat->Nat->Rat:=fun i j=>(M i j:Rat)
end
end Go.Vs.F
