/-The document's products of big integers and of dyads. Values of floats at one exponent;sums of dyads:program and document. The document's sums of dyads;inner products;vectors of numbers. The example of chapter 38. Orthogonality:program and document agree;the law LanczosMeasures. The law LanczosMeasures. -/
import Derived.Test.YtkbgfnhdfmmfcaaGreatDoorLd
import Derived.KernelRfl
import Derived.Test.YtkbgfnhdfmmfcaaGreatDoorFn
import Derived.Test.YtkbgfnhdfmmfcaaGreatDoorVc
set_option linter.unusedVariables false
set_option linter.unusedSimpArgs false
set_option maxRecDepth 100000
namespace Go.Vs.F
theorem qcu (m:Nat) {a b:LI} (hb:Lm b) (hl:b.length<=1000000) {i x:Nat} (hia:i<a.length) (hax:a.getD i 0=(x:Int)) (hx:x<4294967296) (hi:i<=1000000): ∀(n j:Nat) (out:LI) (c:Nat),b.length-j<n->j<=b.length->Lm out->i+b.length<out.length->c<4294967296->
 ∃out' c',g131L1 m n a b out (i:Int) (c:Int) (j:Int)=some (.inl (a,b,out',(i:Int),((c':Nat):Int),()))/\Lm out'/\out'.length=out.length/\c'<4294967296/\
  (∀p,i+b.length<=p->out'.getD p 0=out.getD p 0)/\vl out'+4294967296^(i+b.length)*c'=vl out+4294967296^(i+j)*(c+x*vl (b.drop j))
 |0,j,out,c,h,_,_,_,_=>O
 |n+1,j,out,c,h,hj0,ho,hol,hc=>by
  rw[g131L1];by_cases hj:j<b.length
  . have h1:((j:Int)<(b.length:Int)):=O;have c0:(0:Int)<=(i:Int)/\(i:Int)<(a.length:Int):=O;have c1:(0:Int)<=(j:Int)/\(j:Int)<(b.length:Int):=O;obtain⟨y,ey,hy⟩:=hb.get hj
    have w0:wI ((i:Int)+(j:Int))=((i+j:Nat):Int):=by
     rw[wQ,wi O O];omega
    have c2:(0:Int)<=((i+j:Nat):Int)/\((i+j:Nat):Int)<(out.length:Int):=O;obtain⟨z,ez,hz⟩:=ho.get (show i+j<out.length by omega)
    have hm:=qg4 hx hy;have w1:wJ (x:Int)=(x:Int):=w64n O;have w2:wJ (y:Int)=(y:Int):=w64n O;have w3:wJ (z:Int)=(z:Int):=w64n O;have w4:wJ ((x:Int)*(y:Int))=((x*y:Nat):Int):=by rw[show(x:Int)*(y:Int)=((x*y:Nat):Int) by rw[Int.natCast_mul],w64n O]
    have w5:wJ ((c:Int)+((x*y:Nat):Int))=((c+x*y:Nat):Int):=by rw[show(c:Int)+((x*y:Nat):Int)=((c+x*y:Nat):Int) by rw[Int.natCast_add],w64n O]
    have w6:wJ (((c+x*y:Nat):Int)+(z:Int))=((c+x*y+z:Nat):Int):=by rw[show((c+x*y:Nat):Int)+(z:Int)=((c+x*y+z:Nat):Int) by rw[Int.natCast_add (c+x*y)],w64n O]
    have e1:wK ((c+x*y+z:Nat):Int)=(((c+x*y+z)%4294967296:Nat):Int):=w32;have e2:shr_ .u64 ((c+x*y+z:Nat):Int) 32=(((c+x*y+z)/4294967296:Nat):Int):=shr64 (a:=c+x*y+z) (k:=32) O;rw[bQ,iP h1,iP c0,iP c1,w0,iP c2,iP c2,tN,tN,tN,Nat.zero_add,hax,ey,ez,w1,w2,w3,w4,w5,w6,e1,e2,show wI ((j:Int)+1)=((j+1:Nat):Int)from wsucc O]
    have hlen:(out.set (i+j) (((c+x*y+z)%4294967296:Nat):Int)).length=out.length:=List.length_set ..;obtain⟨out',c',g1,g2,g3,g4,g5,g6⟩:=qcu m hb hl hia hax hx hi n (j+1) (out.set (i+j) (((c+x*y+z)%4294967296:Nat):Int)) ((c+x*y+z)/4294967296) O O (q25 ho O) O O;refine⟨out',c',g1,g2,O,g4,fun p hp=> ?_,?_⟩
    . rw[g5 p hp,getD_set_ne O]
    . rw[g6];have hs:=q14 (l:=out) (p:=i+j) (y:=(((c+x*y+z)%4294967296:Nat):Int)) O;rw[ez,tN,tN]at hs;have hd:vl (b.drop j)=y+4294967296*vl (b.drop (j+1)):=by rw[Qp hj,ey,tN]
      rw[hd,show i+(j+1)=i+j+1 by omega,Nat.pow_succ]
      generalize 4294967296^(i+j)=P at*
      generalize vl (b.drop (j+1))=D at*
      generalize vl (out.set (i+j) (((c+x*y+z)%4294967296:Nat):Int))=A at*
      have ht:c+x*y+z=(c+x*y+z)%4294967296+4294967296*((c+x*y+z)/4294967296):=(Nat.mod_add_div _ _).symm;have k1:P*(c+x*y+z)=P*((c+x*y+z)%4294967296)+P*(4294967296*((c+x*y+z)/4294967296)):=by rw[<-Nat.mul_add,<-ht]
      have k2:P*(c+x*y+z)=P*c+P*(x*y)+P*z:=by rw[Nat.mul_add,Nat.mul_add]
      have k3:P*4294967296*((c+x*y+z)/4294967296+x*D)=P*(4294967296*((c+x*y+z)/4294967296))+P*(4294967296*(x*D)):=by rw[Nat.mul_add,Nat.mul_assoc,Nat.mul_assoc]
      have k4:P*(c+x*(y+4294967296*D))=P*c+(P*(x*y)+P*(4294967296*(x*D))):=by rw[Nat.mul_add,Nat.mul_add x,Nat.mul_add P (x*y),Nat.mul_left_comm x 4294967296 D]
      rw[k3,k4];omega
  . rw[bQ,iN' O];have:j=b.length:=O;subst this;refine⟨out,c,rfl,ho,rfl,hc,fun _ _=>rfl,?_⟩
    rw[qp (Nat.le_refl _),Nat.mul_zero,Nat.add_zero]
theorem qby (m:Nat) {a b:LI} (hm:2000000<m) (ha:Lm a) (hb:Lm b) (hla:a.length<=1000000) (hlb:b.length<=1000000): ∀(n i:Nat) (out:LI),a.length-i<n->i<=a.length->Lm out->out.length=a.length+b.length->(∀p,i+b.length<=p->out.getD p 0=0)->
 ∃out',g131L0 m n a b out (i:Int)=some (.inl (out',()))/\Lm out'/\out'.length=a.length+b.length/\vl out'=vl out+4294967296^i*(vl (a.drop i)*vl b)
 |0,i,out,h,_,_,_,_=>O
 |n+1,i,out,h,hi0,ho,hol,hz=>by
  rw[g131L0];by_cases hi:i<a.length
  . have h1:((i:Int)<(a.length:Int)):=O;obtain⟨x,ex,hx⟩:=ha.get hi;obtain⟨o1,c,g1,g2,g3,g4,g5,g6⟩:=qcu m (a:=a) hb hlb (i:=i) hi ex hx O m 0 out 0 O O ho O O;rw[nZ]at g1
    have w0:wI ((i:Int)+(b.length:Int))=((i+b.length:Nat):Int):=by
     rw[wQ,wi O O];omega
    have c2:(0:Int)<=((i+b.length:Nat):Int)/\((i+b.length:Nat):Int)<(o1.length:Int):=O;have w1:wK (c:Int)=(c:Int):=by rw[w32];congr 1;omega
    rw[bQ,iP h1,g1,bS];dsimp only;rw[w0,iP c2,tN,Nat.zero_add,w1,show wI ((i:Int)+1)=((i+1:Nat):Int)from wsucc O]
    have hs:=q14 (l:=o1) (p:=i+b.length) (y:=(c:Int)) O;rw[g5 _ (Nat.le_refl _),hz _ (Nat.le_refl _),tN]at hs
    obtain⟨out',q1,q2,q3,q4⟩:=qby m hm ha hb hla hlb n (i+1) (o1.set (i+b.length) (c:Int)) O O (q25 g2 g4) (by rw[List.length_set];omega) (fun p hp=>by
     rw[getD_set_ne O,g5 p O];exact hz p O)
    refine⟨out',q1,q2,q3,?_⟩;rw[q4,Qp hi,ex,tN,Nat.pow_succ];simp only[Int.toNat_zero,Nat.mul_zero,Nat.add_zero,Nat.zero_add,List.drop_zero]at hs g6;rw[Nat.add_mul,Nat.mul_add];have k:4294967296^i*4294967296*(vl (a.drop (i+1))*vl b)=4294967296^i*(4294967296*vl (a.drop (i+1))*vl b):=by rw[Nat.mul_assoc,Nat.mul_assoc]
    rw[k];omega
  . rw[bQ,iN' O];refine⟨out,rfl,ho,hol,?_⟩;rw[qp O,Nat.zero_mul,Nat.mul_zero,Nat.add_zero]
theorem qf3 {m:Nat} (hm:4000000<=m) {a b:LI} (ha:Lm a) (hb:Lm b) (hla:a.length<=400000) (hlb:b.length<=400000): ∃out,g131 m a b=some (out,(),(),())/\Lm out/\out.length=a.length+b.length/\vl out=vl a*vl b:=by
 have w:wI ((a.length:Int)+(b.length:Int))=((a.length+b.length:Nat):Int):=by rw[wQ,wi O O];omega
 obtain⟨out,e,q1,q2,q3⟩:=qby m O ha hb O O m 0 (List.replicate (a.length+b.length) 0) O O Xi (by simp) (fun p hp=>by
  by_cases h:p<a.length+b.length
  . rw[Qx h]
  . rw[Xx (by simpa using h)])
 rw[nZ]at e;refine⟨out,?_,q1,q2,?_⟩
 . rw[g131,w,iP O,tN,e];rfl
 . rw[q3,Xn];simp
theorem qgt {m:Nat} (hm:4000000<=m) {n1 n2:Bool} {l1 l2:LI} (h1:Lm l1) (h2:Lm l2) (hl:l1.length+l2.length<=400000):g64 m n1 l1 n2 l2=some (zB (zv n1 l1*zv n2 l2),(),(),()):=by
 have b1:=Qw h1;have b2:=Qw h2;obtain⟨out,e,q1,q2,q3⟩:=qf3 hm (Qe (vl l1)) (Qe (vl l2)) O O;rw[g64,Zx h1 O O,bS,Zx h2 O O,bS];dsimp only;rw[e,bS];dsimp only;rw[Xc O q1 O,bS]
 have:zv (!(n1==n2)) out=zv n1 l1*zv n2 l2:=by
  unfold zv;rw[q3,Q5,Q5];cases n1<;>cases n2<;>simp[Int.neg_mul,Int.mul_neg]
 rw[this]
end Go.Vs.F
set_option maxRecDepth 100000
namespace Go.Vs.F
def I64 (x:Int):Prop:= -9223372036854775808<=x/\x<9223372036854775808
def valF (f:Int):Int:=sc (ofZ f) (ofE f) (-1074)
theorem q6g {f:Int} (h:FinF f):ofD f=mkD (valF f) (-1074):=by
 have he:=q54 (f:=f);unfold ofD valF;rw[iP h,q7f O]
theorem val_ok {f:Int} (h:FinF f):OkD (valF f) (-1074):=by
 have he:=q54 (f:=f);have:=qhn h;unfold OkD valF at*
 rwa [q7f O]
abbrev DyT:=Bool×(Bool×LI)×Int
def dyT (d:Bool×Bool×LI×Int×Unit):DyT:=(d.1,((d.2.1,d.2.2.1),d.2.2.2.1))
def isum:LI->Int
 |[]=>0
 |x::l=>x+isum l
theorem qap {a b:LI}:isum (a++b)=isum a+isum b:=by
 induction a with
 |nil=>simp[isum]
 |cons x a ih=>rw[List.cons_append,isum,isum,ih];omega
theorem q2n {v:Int} (h:FinF v):blen (valF v).natAbs<=2100:=by
 have h1:=q60 v;have h2:=qhb h;have h3:=q54 (f:=v);have:=q1d (w:=ofZ v) (f:=ofE v) (b:= -1074) O;unfold valF;omega
theorem qgd {a b:Int} (ha:FinF a) (hb:FinF b):OkD (valF a*valF b) (-2148):=by
 by_cases h:valF a*valF b=0
 . rw[h];exact qa8 _
 . have h1:=q2n ha;have h2:=q2n hb;have h3:=q1f (a:=valF a) (b:=valF b);have h4:=q1h (n:=(valF a*valF b).natAbs);exact Xv.2 (.inr ⟨O,O⟩)
theorem qem {m:Nat} (hm:4000000<=m) {a b B C:Int}:
 g17 m (mkD a B).1 (mkD a B).2.1 (mkD a B).2.2.1 (mkD a B).2.2.2.1 (mkD b C).1 (mkD b C).2.1 (mkD b C).2.2.1 (mkD b C).2.2.2.1=some (if OkD a B/\OkD b C then mkD (a*b) (B+C)else badD,(),(),()):=by
 rw[g17,Xa O,bS,Xa O,bS];dsimp only;by_cases h1:OkD a B
 . by_cases h2:OkD b C
   . obtain⟨w,f,k,k1,k2,k3⟩:=Qm h1;obtain⟨x,g,l,l1,l2,l3⟩:=Qm h2;have hb1:=k.lo;have hb2:=k.hi;have hb3:=l.lo;have hb4:=l.hi;have n1:=k.len;have n2:=l.len;have hl:=k.lim;have hl2:=l.lim;have i1:(mkD a B).1=false:=h1;have i2:(mkD b C).1=false:=h2;have w1:wI (f+g)=f+g:=by rw[wQ,wi O O]
     rw[iP ⟨h1,h2⟩,k1,k2,k3,l1,l2,l3,i1,i2,cond_false,cond_false,qgt hm (Lm_zB w) (Lm_zB x) O,zv_zB,zv_zB,bS,w1];dsimp only;rw[Zv O (Nat.le_trans q1f O) O O,(k.eq.mul l.eq).mk];rfl
   . have i1:(mkD a B).1=false:=h1;rw[iN' (fun h=>h2 h.2),i1,cond_false,Ja h2];rfl
 . rw[iN' (fun h=>h1 h.1),Ja h1];rfl
theorem qdb {m:Nat} (hm:3000000<m) {n:Int} (h:I64 n):g22 m n=some (mkD n 0,(),()):=by
 have hb:blen n.natAbs<=1000:=Nat.le_trans (Ql (k:=64) (by unfold I64 at h;omega)) O
 rw[g22,q3m O h.1 h.2,bS];dsimp only;rw[Zv hm O O O];rfl
theorem q0r (m:Nat) {a:LI} (hl:a.length<=1000000): ∀(n k:Nat),a.length-k<n->k<=a.length->g234L0 m n a a (k:Int)=some (.inr (.inl ()))
 |0,k,h,_=>O
 |n+1,k,h,hk0=>by
  rw[g234L0,bQ];by_cases hk:k<a.length
  . rw[iP O,iP O,iP O,bif_ne,iP rfl,show wI ((k:Int)+1)=((k+1:Nat):Int)from wsucc O]
    exact q0r m hl n (k+1) O O
  . rw[iN' O]
theorem qb8 {m:Nat} {a:LI} (hl:a.length<=1000000) (hm:2000000<m):g234 m a a=some (true,(),(),()):=by
 have:=q0r m hl m 0 O O;rw[nZ]at this;rw[g234,bif_ne,iP rfl,this,bS]
theorem qd6 {m:Nat} (hm:3000000<m) {z e:Int}:g87 m (mkD z e).1 (mkD z e).2.1 (mkD z e).2.2.1 (mkD z e).2.2.2.1 (mkD z e).1 (mkD z e).2.1 (mkD z e).2.2.1 (mkD z e).2.2.2.1=some (true,(),(),()):=by
 have hl:(mkD z e).2.2.1.length<=1000000:=by
  by_cases h:OkD z e
  . obtain⟨w,f,k,k1,k2,k3⟩:=Qm h;rw[k2];have:=k.lim;omega
  . rw[Ja h];simp
 rw[g87,beq_self_eq_true,cond_true,beq_self_eq_true,cond_true,g156,beq_self_eq_true,cond_true,qb8 hl O];rfl
def dotL (x y:LI) (k:Nat):LI:=(List.range k).map fun i=>valF (x.getD i 0)*valF (y.getD i 0)
theorem qds {x y:LI} {k:Nat}:isum (dotL x y (k+1))=isum (dotL x y k)+valF (x.getD k 0)*valF (y.getD k 0):=by
 unfold dotL;rw[List.range_succ,List.map_append,qap];simp[isum]
theorem qew {a b:Int} (ha:FinF a) (hb:FinF b):blen (valF a*valF b).natAbs<=4200:=by
 have h1:=q2n ha;have h2:=q2n hb;have h3:=q1f (a:=valF a) (b:=valF b);omega
theorem qam {x y:LI}: ∀{k:Nat},(∀i,i<k->FinF (x.getD i 0)/\FinF (y.getD i 0))->blen (isum (dotL x y k)).natAbs<=4200+k
 |0,_=>Nat.le_trans (Ql (n:=0) (k:=0) (by decide)) O
 |k+1,h=>by
  have h1:=qam (x:=x) (y:=y) (k:=k) fun i hi=>h i O
  obtain⟨f1,f2⟩:=h k O;have h2:=qew f1 f2;have h3:=Y0 (k:=4200+k) h1 (Nat.le_trans h2 O);rw[qds];omega
theorem q9w {m:Nat} (hm:3000000<m) {n:Int} (h:I64 n):g81 m n=some (mkD n 0,(),()):=by
 have hb:blen n.natAbs<=1000:=Nat.le_trans (Ql (k:=64) (by unfold I64 at h;omega)) O
 rw[g81,q5a O h.1 h.2,bS];dsimp only;rw[q1j hm O O O];rfl
theorem qcb {m:Nat} (hm:3000000<m) {a b B:Int}:
 g84 m (mkD a B).1 (mkD a B).2.1 (mkD a B).2.2.1 (mkD a B).2.2.2.1 (mkD b B).1 (mkD b B).2.1 (mkD b B).2.2.1 (mkD b B).2.2.2.1=some (if OkD a B/\OkD b B then(cmpZ a b,true,())else(0,false,()),(),(),()):=by
 rw[g84,qco hm,bS];dsimp only;by_cases h:OkD a B/\OkD b B
 . obtain⟨w,f,k,k1,k2,k3⟩:=Qm h.1;obtain⟨x,g,l,l1,l2,l3⟩:=Qm h.2;have hb1:=k.lo;have hb3:=l.lo;have:=k.hi;rw[decide_eq_true h,Bool.not_true,cond_false,iP h,k1,k2,k3,l1,l2,l3,q4w hm k l,bS];dsimp only;have s1:=sc_bd k (b:=min f g) O O;have s2:=sc_bd l (b:=min f g) O O;rw[qhr O (SzB O) (SzB O),zv_zB,zv_zB,bS];have e1:EqD (sc w f (min f g)) (min f g) a B:=(EqD.sc O).trans k.eq;have e2:EqD (sc x g (min f g)) (min f g) b B:=(EqD.sc O).trans l.eq;rw[EqD.cmp e1 e2]
 . rw[decide_eq_false h,iN' h];rfl
theorem qh6 {z e:Int} (h:OkD z e):mkD (z.natAbs:Int) e=((mkD z e).1,(zB ((zv (mkD z e).2.1 (mkD z e).2.2.1).natAbs:Int)).1,(zB ((zv (mkD z e).2.1 (mkD z e).2.2.1).natAbs:Int)).2.1,(mkD z e).2.2.2.1,()):=by
 by_cases hz:0<=z
 . have hn:(z.natAbs:Int)=z:=O;rw[hn];obtain⟨w,f,k,k1,k2,k3⟩:=Qm h
   have hw:0<=w:=by
    have h1:=k.sgn
    have h2:(0:Int)<=sgn z:=by
     unfold sgn
     repeat' split
     all_goals omega
    rw[<-h1]at h2;unfold sgn at h2
    repeat' split at h2
    all_goals omega
   rw[k1,k2,zv_zB,show(w.natAbs:Int)=w by omega,<-k1,<-k2]
 . have hn:(z.natAbs:Int)= -z:=O;rw[hn,qcc h];obtain⟨w,f,k,k1,k2,k3⟩:=Qm h
   have hw:w<0:=by
    have h1:=k.sgn
    have h2:sgn z<0:=by
     unfold sgn
     repeat' split
     all_goals omega
    rw[<-h1]at h2;unfold sgn at h2
    repeat' split at h2
    all_goals omega
   rw[k1,k2,zv_zB,show(w.natAbs:Int)= -w by omega]
theorem qdj {m:Nat} (hm:3000000<m) {z e:Int} (h:OkD z e):g85 m (mkD z e).1 (mkD z e).2.1 (mkD z e).2.2.1 (mkD z e).2.2.2.1=some (mkD (z.natAbs:Int) e,(),()):=by
 rw[g85,q3k hm,bS];dsimp only
 have hS:Sz (mkD z e).2.2.1:=by
  obtain⟨w,f,k,k1,k2,k3⟩:=Qm h;rw[k2];exact k.Sz
 rw[decide_eq_true h,cond_true,qhy O hS,bS,qh6 h]
theorem qa3 {m:Nat} (hm:3000000<m) {z e:Int} (h:OkD z e):g19 m (mkD z e).1 (mkD z e).2.1 (mkD z e).2.2.1 (mkD z e).2.2.2.1=some (mkD (z.natAbs:Int) e,(),()):=by
 have i:(mkD z e).1=false:=h;rw[g19,Xa hm,bS];dsimp only;rw[i,cond_false];obtain⟨w,f,k,k1,k2,k3⟩:=Qm h;have hb:=k.len;have hb1:=k.lo;have hb2:=k.hi;rw[k1,k2,k3,qd0 O k.Sz,bS,zv_zB];dsimp only;rw[Zv hm (by rw[Int.natAbs_natCast];omega) O O,bS]
 have e1:EqD (w.natAbs:Int) f (z.natAbs:Int) e:=by
  obtain⟨b,b1,b2,b3⟩:=k.eq;refine⟨b,b1,b2,?_⟩;unfold sc at*;have h1:(w.natAbs:Int)*2^(f-b).toNat=((w*2^(f-b).toNat).natAbs:Int):=by rw[Xf,Int.natCast_mul,Int.natCast_pow];exact Int.mul_comm _ _
  have h2:(z.natAbs:Int)*2^(e-b).toNat=((z*2^(e-b).toNat).natAbs:Int):=by rw[Xf,Int.natCast_mul,Int.natCast_pow];exact Int.mul_comm _ _
  rw[h1,h2,b3]
 rw[e1.mk]
theorem J4 {z e:Int} (h:OkD z e):OkD (z.natAbs:Int) e:=by
 rw[Xv]at*;rw[Int.natAbs_natCast];omega
def dy (B z:Int):DyT:=dyT (mkD z B)
theorem dyG {zs:LI} {B:Int} {k:Nat} (hk:k<zs.length) {d:DyT}:(zs.map (dy B)).getD k d=dy B (zs.getD k 0):=by
 simp[List.getD,hk]
theorem Jg {zs:LI} {k:Nat} (hk:k<zs.length):isum (zs.take (k+1))=isum (zs.take k)+zs.getD k 0:=by
 rw[List.take_succ_eq_append_getElem hk,qap];simp[isum,List.getD,hk]
def minE (B:Int):Int->LI->Int
 |e,[]=>e
 |e,z::zs=>minE B (if(mkD z B).2.2.2.1<e then(mkD z B).2.2.2.1 else e) zs
theorem qdl {B:Int}: ∀{zs:LI} {e:Int},minE B e zs<=e/\ ∀z∈zs,minE B e zs<=(mkD z B).2.2.2.1
 |[],e=>⟨Int.le_refl _,fun z h=>by cases h⟩
 |z::zs,e=>by
  have ih:=qdl (B:=B) (zs:=zs) (e:=if(mkD z B).2.2.2.1<e then(mkD z B).2.2.2.1 else e)
  unfold minE;have h1:(if(mkD z B).2.2.2.1<e then(mkD z B).2.2.2.1 else e)<=e/\(if(mkD z B).2.2.2.1<e then(mkD z B).2.2.2.1 else e)<=(mkD z B).2.2.2.1:=by split<;>omega
  refine⟨O,fun y hy=> ?_⟩
  rcases mC hy with rfl|hy
  . omega
  . exact ih.2 y hy
theorem qdy {B:Int}: ∀{zs:LI} {e:Int},-65536<=e->(∀z∈zs,OkD z B)-> -65536<=minE B e zs
 |[],e,h,_=>h
 |z::zs,e,h,hz=>by
  unfold minE;refine qdy ?_ fun y hy=>hz y (mT hy)
  obtain⟨w,f,k,k1,k2,k3⟩:=Qm (hz z mS);have:=k.lo;rw[k3];split<;>omega
theorem qfr {m:Nat} (hm:3000000<m) {B:Int} {zs:LI} (hl:zs.length<=10000) (hok: ∀z∈zs,OkD z B) (t0 t1:Bool) (t2:LI) (t3:Int): ∀(n k:Nat) (e:Int),zs.length-k<n->k<=zs.length->
 g148L0 m n t0 t1 t2 t3 ((zs.take k).map (dy B)) e (zs.map (dy B)) (zs.length:Int) (k:Int)=some (.inr (.inl ((t0,t1,t2,t3,()),zs.map (dy B),minE B e (zs.drop k),())))
 |0,k,e,h,_=>absurd h (Nat.not_lt_zero _)
 |n+1,k,e,h,hk0=>by
  rw[g148L0,bQ];by_cases hk:k<zs.length
  . have hz:OkD (zs.getD k 0) B:=hok _ (q0m hk);have ih:=qfr hm hl hok t0 t1 t2 t3 n (k+1) (if(mkD (zs.getD k 0) B).2.2.2.1<e then(mkD (zs.getD k 0) B).2.2.2.1 else e) O O
    rw[iP O,iP (by rw[List.length_map];omega),tN,dyG hk,show g154 m (dy B (zs.getD k 0)).1 (dy B (zs.getD k 0)).2.1.1 (dy B (zs.getD k 0)).2.1.2 (dy B (zs.getD k 0)).2.2=_ from q3k hm,bS]
    dsimp only;rw[decide_eq_true hz,Bool.not_true,cond_false,iP (by simp;omega),show wI ((k:Int)+1)=((k+1:Nat):Int)from wsucc O]
    have e1:(zs.take k).map (dy B)++[((mkD (zs.getD k 0) B).1,((mkD (zs.getD k 0) B).2.1,(mkD (zs.getD k 0) B).2.2.1),(mkD (zs.getD k 0) B).2.2.2.1)]=(zs.take (k+1)).map (dy B):=by
     rw[List.take_succ_eq_append_getElem hk,List.map_append];simp[dy,dyT,List.getD,hk]
    have e2:minE B e (zs.drop k)=minE B (if(mkD (zs.getD k 0) B).2.2.2.1<e then(mkD (zs.getD k 0) B).2.2.2.1 else e) (zs.drop (k+1)):=by
     rw[List.drop_eq_getElem_cons hk,minE];simp[List.getD,hk]
    rw[e1,e2];exact ih
  . have:k=zs.length:=O;subst this;rw[iN' O,List.take_length,List.drop_length];rfl
theorem qfs {m:Nat} (hm:3000000<m) {B:Int} {zs:LI} (hl:zs.length<=10000) (hok: ∀z∈zs,OkD z B) {E:Int} (hE1: -65536<=E) (hE2:E<=0) (hE: ∀z∈zs,E<=(mkD z B).2.2.2.1) (t0 t1:Bool) (t2:LI) (t3:Int): ∀(n k:Nat) (S:Int),zs.length-k<n->k<=zs.length->
 blen S.natAbs<=300000+k->EqD S E (isum (zs.take k)) B->
 ∃T,g148L1 m n t0 t1 t2 t3 E (zB S).1 (zB S).2.1 (zs.map (dy B)) (zs.length:Int) (k:Int)=some (.inl ((t0,t1,t2,t3,()),E,((zB T).1,(zB T).2.1,()),()))/\blen T.natAbs<=400000/\EqD T E (isum zs) B
 |0,k,S,h,_,_,_=>absurd h (Nat.not_lt_zero _)
 |n+1,k,S,h,hk0,hS,hQ=>by
  rw[g148L1,bQ];by_cases hk:k<zs.length
  . have hz:OkD (zs.getD k 0) B:=hok _ (q0m hk);obtain⟨w,f,kk,k1,k2,k3⟩:=Qm hz;have hEf:E<=f:=by rw[<-k3];exact hE _ (q0m hk)
    have hb1:=kk.lo;have hb2:=kk.hi;have s1:=sc_bd kk hEf hE1;have hle:=kk.len;have w1:wI (f-E)=f-E:=by rw[wQ,wi O O]
    have q2:EqD (S+sc w f E) E (isum (zs.take (k+1))) B:=by
     rw[Jg hk];exact hQ.add (c:=0) (g:=0) ((EqD.sc hEf).trans kk.eq)
    have q1:blen (S+sc w f E).natAbs<=300000+(k+1):=by
     have:=Y0 (k:=300000+k) hS (Nat.le_trans s1 O);omega
    obtain⟨T,i1,i2,i3⟩:=qfs hm hl hok hE1 hE2 hE t0 t1 t2 t3 n (k+1) (S+sc w f E) O O q1 q2;refine⟨T,?_,i2,i3⟩
    rw[iP O,iP (by rw[List.length_map];omega),tN,Nat.zero_add,dyG hk,
     show(dy B (zs.getD k 0)).2.1.1=(zB w).1 from k1,show(dy B (zs.getD k 0)).2.1.2=(zB w).2.1 from k2,show(dy B (zs.getD k 0)).2.2=f from k3,w1,left_eq hm O O O,bS]
    dsimp only;rw[qfp O (SzB O) (SzB (by unfold sc at s1;omega)),zv_zB,zv_zB,bS,show wI ((k:Int)+1)=((k+1:Nat):Int)from wsucc O]
    exact i1
  . have:k=zs.length:=O;subst this;rw[List.take_length]at hQ;exact⟨S,by rw[iN' O],O,hQ⟩
theorem qhm {m:Nat} (hm:3000000<m) {B:Int} {zs:LI} (hl:zs.length<=10000) (hok: ∀z∈zs,OkD z B):g148 m (zs.map (dy B))=some (mkD (isum zs) B,(),()):=by
 have h0:=qfr hm hl hok false false [] 0 m 0 0 O O;rw[List.take_zero,List.drop_zero,List.map_nil,nZ]at h0;rw[g148,List.length_map,h0,bS];dsimp only;have hE:=qdl (B:=B) (zs:=zs) (e:=0);have hE1:=qdy (B:=B) (zs:=zs) (e:=0) O hok;obtain⟨T,i1,i2,i3⟩:=qfs hm hl hok hE1 hE.1 hE.2 false false [] 0 m 0 0 O O (Nat.le_trans (Ql (n:=0) (k:=0) (by decide)) O) (EqD.zero _ _)
 rw[nZ]at i1;rw[List.length_map,show([]:LI)=(zB 0).2.1 from Qd.symm,show false=(zB 0).1 from rfl]
 rw[show(zB 0).1=false from rfl,show(zB 0).2.1=([]:LI)from Qd]at*
 rw[i1,bS];dsimp only;rw[q1j hm O O O,i3.mk];rfl
end Go.Vs.F
set_option maxRecDepth 100000
namespace Go.Vs.F
def FnL (l:LI):Prop:= ∀i,i<l.length->U64 (l.getD i 0)/\FinF (l.getD i 0)
def UL (l:LI):Prop:= ∀i,i<l.length->U64 (l.getD i 0)
theorem q9v (m:Nat) (a:Int) {k:Nat} (h0:0<k) (hk:k<9223372036854775808): ∃r:Nat,r<k/\g11 m a (k:Int)=some ((r:Int),(),(),()):=by
 have w:wJ (k:Int)=(k:Int):=w64n O;obtain⟨x,hx,_⟩:=qhv a;have hx':wJ a=(x:Int):=hx;refine⟨x%k,Nat.mod_lt _ h0,?_⟩;have:=Nat.mod_lt x h0;rw[g11,w,hx',iP O,tm,wQ,wi O O]
theorem wrapU (a:Int):U64 (IntKind.wrap .u64 a):=qdm a
theorem qgj (m:Nat) {raw:LI} (hl:raw.length<=9223372036854775807) (k:Int): ∃w,g27 m raw k=some (w,(),(),())/\U64 w:=by
 rw[g27,bQ];by_cases c:0<raw.length
 . obtain⟨r,hr,e⟩:=q9v m k (k:=raw.length) c O;rw[iP O,e,bS];dsimp only;rw[iP O];exact⟨_,rfl,wrapU _⟩
 . rw[iN' O];exact⟨_,rfl,wrapU _⟩
theorem qg2 {x M E:Nat} (hx:x<18446744073709551616) (hM:M<18446744073709551616) (hM0:M/4503599627370496%2048=0) (hE:E<2047):
 U64 (b_or_ .u64 (qw .u64 (x:Int) (M:Int)) (shl_ .u64 (wJ (E:Int)) 52))/\FinF (b_or_ .u64 (qw .u64 (x:Int) (M:Int)) (shl_ .u64 (wJ (E:Int)) 52)):=by
 refine⟨wrapU _,?_⟩
 have e2:shl_ .u64 (wJ (E:Int)) 52=((E*2^52:Nat):Int):=by
  rw[w64n O];exact shl64 (a:=E) (k:=52) O (by rw[show(2:Nat)^52=4503599627370496 by decide];omega)
 have ha:x&&&M<18446744073709551616:=Nat.lt_of_le_of_lt Nat.and_le_left hx;have hp:(2:Nat)^52=4503599627370496:=by decide
 rw[and64 hx hM,e2,or64 ha (by rw[hp];omega)]
 unfold FinF fexp
 have key:(x&&&M|||E*2^52)/2^52%2^11=E:=by
  rw[<-Nat.shiftRight_eq_div_pow,Nat.shiftRight_or_distrib,Nat.or_mod_two_pow,Nat.shiftRight_and_distrib,Nat.and_mod_two_pow,Nat.shiftRight_eq_div_pow M,hp];rw[show(2:Nat)^11=2048 by decide,hM0,Nat.and_zero,Nat.zero_or,Nat.shiftRight_eq_div_pow,hp,Nat.mul_div_cancel _ (by decide)]
  omega
 rw[hp,show(2:Nat)^11=2048 by decide]at key
 rw[hp];generalize (x&&&M|||E*4503599627370496)=Z at*
 omega
def smT:LI:=[13844628204490326016,13844065254536904704,13842939354630062080,13841813454723219456,13840687554816376832,13839561654909534208,13837309855095848960,13835058055282163712,13830554455654793216,0,4607182418800017408,4611686018427387904,4613937818241073152,4616189618054758400,4617315517961601024,4618441417868443648,4619567317775286272,4620693217682128896,4621256167635550208]
theorem qf1 (j:Nat):((List.range 19).map fun r=>g125 (j+100) ((r:Nat):Int))=smT.map fun f=>some (f,(),()):=by kernel_rfl
theorem qho:(smT.all fun f=>decide ((0<=f/\f<18446744073709551616)/\f/4503599627370496%2048≠2047))=true:=by decide+kernel
theorem qf0 {m:Nat} (hm:5000000000<=m) {x:Int} (hx:U64 x): ∃f,g125 m x=some (f,(),())/\U64 f/\FinF f:=by
 obtain⟨j,rfl⟩: ∃j,m=j+100:=⟨m-100,O⟩;obtain⟨y,rfl⟩: ∃y:Nat,x=(y:Int):=⟨x.toNat,by have:=hx.1;omega⟩
 have hr:y%19<19:=Nat.mod_lt _ (by decide)
 have e:g125 (j+100) ((y:Nat):Int)=g125 (j+100) ((y%19:Nat):Int):=by
  rw[g125,g125,show(19:Int)=((19:Nat):Int)from rfl,tm,tm,Nat.mod_mod]
 have h1:=congrArg (fun l=>l[y%19]?) (qf1 j)
 have hl:smT.length=19:=by decide
 simp only[List.getElem?_map,List.getElem?_range hr,List.getElem?_eq_getElem (show y%19<smT.length by omega),Option.map_some,Option.some.injEq]at h1
 have h2:=List.all_eq_true.1 qho smT[y%19] (List.getElem_mem _);have h3:=of_decide_eq_true h2;exact⟨_,by rw[e];exact h1,h3.1,h3.2⟩
theorem qhk {m:Nat} (hm:5000000000<=m) {x:Int} (hx:U64 x) (style:Int): ∃f,g60 m x style=some (f,(),(),())/\U64 f/\FinF f:=by
 obtain⟨r,hr,e⟩:=q9v m style (k:=4) (by decide) (by decide)
 obtain⟨y,rfl⟩: ∃y:Nat,x=(y:Int):=⟨x.toNat,by have:=hx.1;omega⟩
 have hy:y<18446744073709551616:=by have:=hx.2;omega
 rw[g60,show(4:Int)=((4:Nat):Int)from rfl,e,bS,bif_eq,bif_eq,bif_eq]
 dsimp only;by_cases c1:r=1
 . subst c1
   have e1:qw .u64 (shr_ .u64 (y:Int) 52) 7=((y/4503599627370496%8:Nat):Int):=by
    have h1:shr_ .u64 (y:Int) 52=((y/4503599627370496:Nat):Int):=shr64 (a:=y) (k:=52) O;have h2:qw .u64 ((y/4503599627370496:Nat):Int) ((7:Nat):Int)=((y/4503599627370496&&&7:Nat):Int):=and64 O (by decide)
    rw[h1,show(7:Int)=((7:Nat):Int)from rfl,h2,Nat.and_two_pow_sub_one_eq_mod _ 3]
   have:=qg2 (x:=y) (M:=9227875636482146303) (E:=1019+y/4503599627370496%8) hy (by decide) (by decide) O
   rw[iP (by decide),e1,show(1019:Int)+((y/4503599627370496%8:Nat):Int)=((1019+y/4503599627370496%8:Nat):Int) by omega]
   exact⟨_,rfl,this⟩
 . rw[iN' O];by_cases c2:r=2
   . subst c2
     have e1:Int.tmod (shr_ .u64 (y:Int) 8) 81=((y/256%81:Nat):Int):=by
      have h1:shr_ .u64 (y:Int) 8=((y/256:Nat):Int):=shr64 (a:=y) (k:=8) O;rw[h1,show(81:Int)=((81:Nat):Int)from rfl,tm]
     have:=qg2 (x:=y) (M:=9225623836668461056) (E:=983+y/256%81) hy (by decide) (by decide) O
     rw[iP (by decide),e1,show(983:Int)+((y/256%81:Nat):Int)=((983+y/256%81:Nat):Int) by omega]
     exact⟨_,rfl,this⟩
   . rw[iN' O];by_cases c3:r=3
     . subst c3;rw[iP (by decide),q66 hx,bS]
       dsimp only;by_cases f:FinF (y:Int)
       . rw[decide_eq_true f];exact⟨_,rfl,hx,f⟩
       . rw[decide_eq_false f];exact⟨_,rfl,⟨by decide,by decide⟩,by decide⟩
     . rw[iN' O];obtain⟨f,ef,h1,h2⟩:=qf0 hm hx;rw[ef,bS];exact⟨_,rfl,h1,h2⟩
theorem qhh:FnL []:=fun i hi=>absurd hi (Nat.not_lt_zero _)
theorem qep {l:LI} (h:FnL l) {f:Int} (h1:U64 f) (h2:FinF f):FnL (l++[f]):=by
 intro i hi;rw[List.length_append,List.length_singleton]at hi;by_cases c:i<l.length
 . have:(l++[f]).getD i 0=l.getD i 0:=by rw[List.getD,List.getElem?_append_left c];rfl
   rw[this];exact h i c
 . have:i=l.length:=O;subst this;have:(l++[f]).getD l.length 0=f:=by simp[List.getD]
   rw[this];exact⟨h1,h2⟩
theorem qe9 {m:Nat} (hm:5000000000<=m) {raw:LI} (hl:raw.length<=9223372036854775807) {at0 n:Nat} (hat:at0<=1000) (hn:n<=1000) (style:Int): ∀(N k:Nat) (out:LI),n-k<N->k<=n->out.length=k->FnL out->
 ∃l,g16L0 m N raw (at0:Int) (n:Int) style out (k:Int)=some (.inl (l,()))/\l.length=n/\FnL l:=by
 intro N;induction N with
 |zero=>intro k out h;omega
 |succ N ih=>
  intro k out h hk ho hF;rw[g16L0,bQ];by_cases c:k<n
  . obtain⟨w,ew,hw⟩:=qgj m hl (wI ((at0:Int)+(k:Int)));obtain⟨f,ef,h1,h2⟩:=qhk hm hw style;rw[iP O,ew,bS,ef,bS,ho,iP (by show k+1<=_;omega),wQ,wsucc O]
    exact ih (k+1) _ O O (by simp[ho]) (qep hF h1 h2)
  . rw[iN' O];exact⟨out,rfl,O,hF⟩
theorem qbx {m:Nat} (hm:5000000000<=m) {raw:LI} (hl:raw.length<=9223372036854775807) {at0 n:Nat} (hat:at0<=1000) (hn:n<=1000) (style:Int): ∃l,g16 m raw (at0:Int) (n:Int) style=some (l,(),(),(),(),())/\l.length=n/\FnL l:=by
 obtain⟨l,e,h1,h2⟩:=qe9 hm hl hat hn style m 0 [] O O rfl qhh;refine⟨l,?_,h1,h2⟩;rw[g16];rw[nZ]at e;rw[e,bS]
theorem FnL.U {l:LI} (h:FnL l):UL l:=fun i hi=>(h i hi).1
theorem q3i {m:Nat} (hm:3000000<m) {B:Int} {zs:LI} (hl:zs.length<=10000) (hok: ∀z∈zs,OkD z B) (t0 t1:Bool) (t2:LI) (t3:Int): ∀(n k:Nat) (T e:Int),zs.length-k<n->k<=zs.length->
 EqD T e (isum (zs.take k)) B-> -65536<=e->e<=65536->(blen T.natAbs:Int)+e<=65536+(k:Int)->
 ∃T' e',g21L0 m n (zs.map (dy B)) t0 t1 t2 t3 (zB T).1 (zB T).2.1 e (k:Int)=some (.inr (.inl ((t0,t1,t2,t3,()),((zB T').1,(zB T').2.1,()),e',())))/\blen T'.natAbs<=200000/\EqD T' e' (isum zs) B/\ -65536<=e'/\e'<=65536
 |0,k,T,e,h,_,_,_,_,_=>absurd h (Nat.not_lt_zero _)
 |n+1,k,T,e,h,hk0,hQ,he1,he2,hb=>by
  rw[g21L0,bQ];by_cases hk:k<zs.length
  . have hz:OkD (zs.getD k 0) B:=hok _ (q0m hk);obtain⟨w,f,kk,k1,k2,k3⟩:=Qm hz;have hb1:=kk.lo;have hb2:=kk.hi;have hle:=kk.len;have w0:wI ((k:Int)+1)=((k+1:Nat):Int):=wsucc O;have hi1:(mkD (zs.getD k 0) B).1=false:=hz;rw[iP (by rw[List.length_map];omega),iP (by rw[List.length_map];omega),tN,dyG hk,show g61 m (dy B (zs.getD k 0)).1 (dy B (zs.getD k 0)).2.1.1 (dy B (zs.getD k 0)).2.1.2 (dy B (zs.getD k 0)).2.2=_ from Xa hm,bS]
    dsimp only;rw[hi1,cond_false,qdh hm hz,bS,bif_eq];dsimp only;by_cases z0:zs.getD k 0=0
    . rw[iP (Yu.2 z0),w0];exact q3i hm hl hok t0 t1 t2 t3 n (k+1) T e O O (by rw[Jg hk,z0,Int.add_zero];exact hQ) he1 he2 O
    . have hT:Sz (zB T).2.1:=SzB O;rw[iN' (fun h=>z0 (Yu.1 h)),q0j O hT,bS,zv_zB,bif_eq]
      dsimp only;by_cases hT0:T=0
      . rw[iP (Yu.2 hT0),w0,k1,k2,k3];subst hT0;refine q3i hm hl hok t0 t1 t2 t3 n (k+1) w f O O ?_ hb1 O O;have q:=((EqD.zero f e).trans hQ).add (c:=0) (g:=0) kk.eq;rw[Int.zero_add]at q;rw[Jg hk];exact q
      . rw[iN' (fun h=>hT0 (Yu.1 h)),bQ,k1,k2,k3]
        by_cases hfe:f>=e
        . have w1:wI (f-e)=f-e:=by rw[wQ,wi O O]
          have s1:=q1d (w:=w) hfe;have s2:blen (T+sc w f e).natAbs<=(65536+(k:Int)-e).toNat+1:=Y0 O O;rw[iP hfe,w1,Zr hm O O O,bS];dsimp only;rw[q5p O hT (SzB (by unfold sc at s1;omega)),zv_zB,zv_zB,bS,w0]
          refine q3i hm hl hok t0 t1 t2 t3 n (k+1) (T+sc w f e) e O O ?_ he1 he2 O;rw[Jg hk];exact hQ.add (c:=0) (g:=0) ((EqD.sc hfe).trans kk.eq)
        . have w1:wI (e-f)=e-f:=by rw[wQ,wi O O]
          have s1:=q1d (w:=T) (f:=e) (b:=f) O;have s2:blen (sc T e f+w).natAbs<=(65536+(k:Int)-f).toNat+1:=Y0 O O;rw[iN' hfe,w1,Zr hm O O O,bS];dsimp only;rw[q5p O (SzB (by unfold sc at s1;omega)) kk.Sz,zv_zB,zv_zB,bS,w0]
          refine q3i hm hl hok t0 t1 t2 t3 n (k+1) (sc T e f+w) f O O ?_ hb1 O O;rw[Jg hk];exact((EqD.sc O).trans hQ).add (c:=0) (g:=0) kk.eq
  . have:k=zs.length:=O;subst this;rw[List.take_length]at hQ;exact⟨T,e,by rw[iN' (by rw[List.length_map];omega)],O,hQ,he1,he2⟩
theorem qh5 {m:Nat} (hm:3000000<m) {B:Int} {zs:LI} (hl:zs.length<=10000) (hok: ∀z∈zs,OkD z B):g21 m (zs.map (dy B))=some (mkD (isum zs) B,(),()):=by
 obtain⟨T,e,i1,i2,i3,i4,i5⟩:=q3i hm hl hok false false [] 0 m 0 0 0 O O (EqD.zero _ _) O O (by rw[show(0:Int).natAbs=0 from rfl,Zd];omega)
 rw[nZ,show(zB 0).1=false from rfl,show(zB 0).2.1=([]:LI)from Qd]at i1
 rw[g21,i1,bS];dsimp only;rw[Zv hm O O O,i3.mk];rfl
theorem dotT {x y:LI} {k:Nat}:(dotL x y k).map (dy (-2148))++[((mkD (valF (x.getD k 0)*valF (y.getD k 0)) (-2148)).1,((mkD (valF (x.getD k 0)*valF (y.getD k 0)) (-2148)).2.1,(mkD (valF (x.getD k 0)*valF (y.getD k 0)) (-2148)).2.2.1),(mkD (valF (x.getD k 0)*valF (y.getD k 0)) (-2148)).2.2.2.1)]=(dotL x y (k+1)).map (dy (-2148)):=by
 unfold dotL;rw[List.range_succ,List.map_append,List.map_append];rfl
theorem dotN {x y:LI} {k:Nat}:(dotL x y k).length=k:=by unfold dotL;simp
theorem qcy {x y:LI} (hx:FnL x) (hy:FnL y) (he:x.length=y.length) {k:Nat} (hk:k<=x.length): ∀z∈dotL x y k,OkD z (-2148):=by
 intro z hz;obtain⟨i,hi,rfl⟩:=List.mem_map.1 hz;have hi':=List.mem_range.1 hi;exact qgd (hx i O).2 (hy i O).2
theorem qac {m:Nat} (hm:4000000<=m) {x y:LI} (hl:x.length<=1000) (he:x.length=y.length) (hx:FnL x) (hy:FnL y) (t0 t1:Bool) (t2:LI) (t3:Int): ∀(n k:Nat),x.length-k<n->k<=x.length->
 g82L0 m n x y t0 t1 t2 t3 ((dotL x y k).map (dy (-2148))) (x.length:Int) (k:Int)=some (.inl ((t0,t1,t2,t3,()),(dotL x y x.length).map (dy (-2148)),()))
 |0,k,h,_=>absurd h (Nat.not_lt_zero _)
 |n+1,k,h,hk0=>by
  rw[g82L0,bQ];by_cases hk:k<x.length
  . have ih:=qac hm hl he hx hy t0 t1 t2 t3 n (k+1) O O;obtain⟨u1,f1⟩:=hx k hk;obtain⟨u2,f2⟩:=hy k O;rw[iP O,iP O,tN,Of_eq O u1,bS,iP O,Of_eq O u2,bS,q6g f1,q6g f2];dsimp only;rw[qgf hm,iP ⟨val_ok f1,val_ok f2⟩,bS,show(-1074:Int)+ -1074= -2148 by decide]
    dsimp only;rw[iP (by simp[dotN];omega),dotT,show wI ((k:Int)+1)=((k+1:Nat):Int)from wsucc O]
    exact ih
  . rw[iN' O,show k=x.length by omega]
theorem qei {m:Nat} (hm:4000000<=m) {x y:LI} (hl:x.length<=1000) (he:x.length=y.length) (hx:FnL x) (hy:FnL y):g82 m x y=some (mkD (isum (dotL x y x.length)) (-2148),(),(),()):=by
 have h:=qac hm hl he hx hy false false [] 0 m 0 O O;rw[nZ]at h;rw[g82,show([]:List (Bool×(Bool×LI)×Int))=(dotL x y 0).map (dy (-2148))from rfl,h,bS]
 dsimp only;rw[qhm O (by rw[dotN];omega) (qcy hx hy he (Nat.le_refl _))];rfl
theorem qb7 {m:Nat} (hm:4000000<=m) {a b:Int} (ha:U64 a) (hb:U64 b) (f1:FinF a) (f2:FinF b):g118 m a b=some (mkD (valF a*valF b) (-2148),(),(),()):=by
 rw[g118,qfq O ha,bS,qfq O hb,bS,q6g f1,q6g f2];dsimp only;rw[qem hm,iP ⟨val_ok f1,val_ok f2⟩,bS];rfl
theorem qg3 {m:Nat} (hm:4000000<=m) {x y:LI} (hl:x.length<=1000) (he:x.length=y.length) (hx:FnL x) (hy:FnL y) (t0 t1:Bool) (t2:LI) (t3:Int): ∀(n k:Nat),x.length-k<n->k<=x.length->
 g51L0 m n x y t0 t1 t2 t3 ((dotL x y k).map (dy (-2148))) (k:Int)=some (.inl ((t0,t1,t2,t3,()),(dotL x y x.length).map (dy (-2148)),()))
 |0,k,h,_=>absurd h (Nat.not_lt_zero _)
 |n+1,k,h,hk0=>by
  rw[g51L0,bQ];by_cases hk:k<x.length
  . have ih:=qg3 hm hl he hx hy t0 t1 t2 t3 n (k+1) O O;obtain⟨u1,f1⟩:=hx k hk;obtain⟨u2,f2⟩:=hy k O;rw[iP O,iP O,iP O,tN,qb7 hm u1 u2 f1 f2,bS];dsimp only;rw[iP (by simp[dotN];omega),dotT,show wI ((k:Int)+1)=((k+1:Nat):Int)from wsucc O]
    exact ih
  . rw[iN' O,show k=x.length by omega]
theorem qhi {m:Nat} (hm:4000000<=m) {x y:LI} (hl:x.length<=1000) (he:x.length=y.length) (hx:FnL x) (hy:FnL y):g51 m x y=some (mkD (isum (dotL x y x.length)) (-2148),(),(),()):=by
 have h:=qg3 hm hl he hx hy false false [] 0 m 0 O O;rw[nZ]at h;rw[g51,show([]:List (Bool×(Bool×LI)×Int))=(dotL x y 0).map (dy (-2148))from rfl,h,bS]
 dsimp only;rw[qh5 O (by rw[dotN];omega) (qcy hx hy he (Nat.le_refl _))];rfl
theorem qdz (j:Nat):sparselaw38_awake (j+300)=some (true,()):=by kernel_rfl
end Go.Vs.F
set_option linter.unusedSectionVars false
set_option maxRecDepth 100000
namespace Go.Vs.F
theorem qgy {m:Nat} (hm:300<=m):sparselaw38_awake m=some (true,()):=by
 obtain⟨j,rfl⟩: ∃j,m=j+300:=⟨m-300,O⟩;exact qdz j
def finA (l:LI):Bool:=Q8 (fun i=>decide (FinF (l.getD i 0))) 0 l.length
theorem qf5 {l:LI} (h:UL l) (hf:finA l=true):FnL l:=fun i hi=>⟨h i hi,of_decide_eq_true (q05.1 hf i (Nat.zero_le _) hi)⟩
theorem qcv (m:Nat) {a:LI} (hU:UL a) (hb:a.length<=1000): ∀(n k:Nat),a.length-k<n->
 ∃j:Nat,g250L0 m n a (a.length:Int) (k:Int)=some (bif Q8 (fun i=>decide (FinF (a.getD i 0))) k a.length then .inr (.inl ())else .inl ((j:Int),()))
 |0,k,h=>O
 |n+1,k,h=>by
  rw[g250L0,bQ];by_cases hk:k<a.length
  . obtain⟨j,hj⟩:=qcv m hU hb n (k+1) O;rw[iP O,iP O,tN,g196,qgn (hU k hk),bS,bS,show wI ((k:Int)+1)=((k+1:Nat):Int)from wsucc O,hj,Xm hk]
    by_cases f:FinF (a.getD k 0)
    . rw[decide_eq_true f];exact⟨j,rfl⟩
    . rw[decide_eq_false f];exact⟨k,rfl⟩
  . rw[iN' O,Xu hk];exact⟨0,rfl⟩
theorem qgs {m:Nat} (hm:3000000<m) {a:LI} (hU:UL a) (hb:a.length<=1000):g105 m a=some (finA a,(),()):=by
 obtain⟨j,hj⟩:=qcv m hU hb m 0 O;rw[nZ]at hj;rw[g105,g195,g250,hj];unfold finA;cases Q8 (fun i=>decide (FinF (a.getD i 0))) 0 a.length
 . simp
 . simp
theorem qe1 (m:Nat) {a:LI} (hU:UL a) (hb:a.length<=1000): ∀(n k:Nat),a.length-k<n->
 g49L0 m n a (k:Int)=some (bif Q8 (fun i=>decide (FinF (a.getD i 0))) k a.length then .inr (.inl ())else .inl (false,()))
 |0,k,h=>O
 |n+1,k,h=>by
  rw[g49L0,bQ];by_cases hk:k<a.length
  . rw[iP O,iP O,tN,q66 (hU k hk),bS,show wI ((k:Int)+1)=((k+1:Nat):Int)from wsucc O,qe1 m hU hb n (k+1) O,Xm hk]
    by_cases f:FinF (a.getD k 0)
    . rw[decide_eq_true f];rfl
    . rw[decide_eq_false f];rfl
  . rw[iN' O,Xu hk];rfl
theorem qh3 {m:Nat} (hm:3000000<m) {a:LI} (hU:UL a) (hb:a.length<=1000):g49 m a=some (finA a,(),()):=by
 have hj:=qe1 m hU hb m 0 O;rw[nZ]at hj;rw[g49,hj];unfold finA;cases Q8 (fun i=>decide (FinF (a.getD i 0))) 0 a.length<;>rfl
structure VV (V:List LI):Prop where
 n:V.length<=10
 l: ∀i,i<V.length->(V.getD i []).length<=100
 u: ∀i,i<V.length->UL (V.getD i [])
def eqL (V:List LI) (i:Nat):Bool:=decide ((V.getD i []).length=(V.getD 0 []).length)
def fiL (V:List LI) (i:Nat):Bool:=finA (V.getD i [])
section
variable {m:Nat} (hm:5000000000<=m) {V:List LI} (hV:VV V)
include hm hV
theorem pc_L0: ∀(n k:Nat),V.length-k<n->g80L0 m n V V (V.length:Int) (k:Int)=some (bif Q8 (eqL V) k V.length then .inr (.inl (V,()))else .inl (2,()))
 |0,k,h=>O
 |n+1,k,h=>by
  have:=hV.n;rw[g80L0,bQ];by_cases hk:k<V.length
  . rw[iP O,iP O,iP O,bif_ne,tN,show wI ((k:Int)+1)=((k+1:Nat):Int)from wsucc O,pc_L0 n (k+1) O,Xm hk]
    by_cases e:(V.getD k []).length=(V.getD 0 []).length
    . rw[iP O,show eqL V k=true from decide_eq_true e];rfl
    . rw[iN' O,show eqL V k=false from decide_eq_false e];rfl
  . rw[iN' O,Xu hk];rfl
theorem pc_L1: ∀(n k:Nat),V.length-k<n->g80L1 m n V V (V.length:Int) (k:Int)=some (.inr (.inl (V,())))
 |0,k,h=>O
 |n+1,k,h=>by
  have:=hV.n;rw[g80L1,bQ];by_cases hk:k<V.length
  . have:=hV.l k hk;rw[iP O,iP O,bQ,tN,iN' O,show wI ((k:Int)+1)=((k+1:Nat):Int)from wsucc O]
    exact pc_L1 n (k+1) O
  . rw[iN' O]
theorem pc_L2: ∀(n k:Nat),V.length-k<n->g80L2 m n V (V.length:Int) (k:Int)=some (bif Q8 (fiL V) k V.length then .inr (.inl ())else .inl (4,()))
 |0,k,h=>O
 |n+1,k,h=>by
  have:=hV.n;rw[g80L2,bQ];by_cases hk:k<V.length
  . have:=hV.l k hk;rw[iP O,iP O,tN,qgs O (hV.u k hk) O,bS,show wI ((k:Int)+1)=((k+1:Nat):Int)from wsucc O,pc_L2 n (k+1) O,Xm hk]
    show(bif !(fiL V k)then _ else _)=_
    cases fiL V k<;>rfl
  . rw[iN' O,Xu hk];rfl
def cV (V:List LI):Int:=if Q8 (eqL V) 0 V.length=false then 2 else if Q8 (fiL V) 0 V.length=false then 4 else 0
omit hm hV in
theorem cV_ok {V:List LI} (h:cV V=0):(∀i,i<V.length->(V.getD i []).length=(V.getD 0 []).length)/\ ∀i,i<V.length->finA (V.getD i [])=true:=by
 unfold cV at h;split at h
 . omega
 . rename_i h1;split at h
   . omega
   . rename_i h2;rw[Bool.not_eq_false]at h1 h2;exact⟨fun i hi=>of_decide_eq_true (q05.1 h1 i (Nat.zero_le _) hi),fun i hi=>q05.1 h2 i (Nat.zero_le _) hi⟩
theorem pc_eq:g80 m V=some (cV V,(),()):=by
 have:=hV.n;have h0:=pc_L0 hm hV m 0 O;have h1:=pc_L1 hm hV m 0 O;have h2:=pc_L2 hm hV m 0 O;rw[nZ]at h0 h1 h2;rw[g80,bQ,iN' O,h0,bS];unfold cV;cases Q8 (eqL V) 0 V.length
 . rfl
 . rw[cond_true];dsimp only;rw[h1,bS];dsimp only;rw[h2,bS];cases Q8 (fiL V) 0 V.length<;>rfl
theorem rc_L0 (b0 b1:LI) (t0 t1:Bool) (t2:LI) (t3:Int): ∀(n k:Nat),V.length-k<n->g31L0 m n b0 b1 V t0 t1 t2 t3 (k:Int)=some (bif Q8 (eqL V) k V.length then .inr (.inl ((b0,b1,V,()),(t0,t1,t2,t3,()),()))else .inl ((false,false,[],0,()),2,()))
 |0,k,h=>O
 |n+1,k,h=>by
  have:=hV.n;rw[g31L0,bQ];by_cases hk:k<V.length
  . rw[iP O,iP O,iP O,bif_ne,tN,show wI ((k:Int)+1)=((k+1:Nat):Int)from wsucc O,rc_L0 b0 b1 t0 t1 t2 t3 n (k+1) O,Xm hk]
    by_cases e:(V.getD k []).length=(V.getD 0 []).length
    . rw[iP O,show eqL V k=true from decide_eq_true e];rfl
    . rw[iN' O,show eqL V k=false from decide_eq_false e];rfl
  . rw[iN' O,Xu hk];rfl
theorem rc_L1 (b0 b1:LI) (t0 t1:Bool) (t2:LI) (t3:Int): ∀(n k:Nat),V.length-k<n->g31L1 m n b0 b1 V t0 t1 t2 t3 (k:Int)=some (bif Q8 (fiL V) k V.length then .inr (.inl ((b0,b1,V,()),(t0,t1,t2,t3,()),()))else .inl ((false,false,[],0,()),4,()))
 |0,k,h=>O
 |n+1,k,h=>by
  have:=hV.n;rw[g31L1,bQ];by_cases hk:k<V.length
  . have:=hV.l k hk;rw[iP O,iP O,tN,qh3 O (hV.u k hk) O,bS,show wI ((k:Int)+1)=((k+1:Nat):Int)from wsucc O,rc_L1 b0 b1 t0 t1 t2 t3 n (k+1) O,Xm hk]
    show(bif !(fiL V k)then _ else _)=_
    cases fiL V k<;>rfl
  . rw[iN' O,Xu hk];rfl
end
def oneD:Int:=sc 1 0 (-2148)
theorem qg0:mkD 1 0=mkD oneD (-2148):=(q7f O).symm
theorem qea:mkD 0 0=mkD 0 (-2148):=by unfold mkD;rfl
theorem q9l:blen oneD.natAbs<=3000:=by
 have h:=q1d (w:=1) (f:=0) (b:= -2148) O;have h1:blen (1:Int).natAbs<=1:=Ql (by decide)
 unfold oneD;omega
theorem q46 {z:Int} (h:blen z.natAbs<=60000):OkD z (-2148):=Xv.2 (.inr ⟨O,O⟩)
def devZ (V:List LI) (i j:Nat):Int:=isum (dotL (V.getD i []) (V.getD j []) (V.getD i []).length)-(if i=j then oneD else 0)
def devN (V:List LI) (i j:Nat):Nat:=(devZ V i j).natAbs
structure WV (V:List LI):Prop where
 v:VV V
 e: ∀i,i<V.length->(V.getD i []).length=(V.getD 0 []).length
 f: ∀i,i<V.length->FnL (V.getD i [])
section
variable {m:Nat} (hm:5000000000<=m) {V:List LI} (hV:WV V)
include hV
theorem q93 {i j:Nat} (hi:i<V.length) (hj:j<V.length):blen (isum (dotL (V.getD i []) (V.getD j []) (V.getD i []).length)).natAbs<=5000:=by
 have h1:=hV.e i hi;have h2:=hV.e j hj;have h3:=hV.v.l i hi;have:=qam (x:=V.getD i []) (y:=V.getD j []) (k:=(V.getD i []).length) fun k hk=>⟨(hV.f i hi k hk).2,(hV.f j hj k O).2⟩
 omega
theorem q9m {i j:Nat} (hi:i<V.length) (hj:j<V.length):blen (devZ V i j).natAbs<=5001:=by
 have h1:=q93 hV hi hj;have h2:=q9l;unfold devZ;rw[Int.sub_eq_add_neg];refine Y0 h1 ?_;rw[Int.natAbs_neg];split
 . omega
 . exact Nat.le_trans (Ql (n:=0) (k:=0) (by decide)) O
include hm
theorem pstep {i j:Nat} (hi:i<V.length) (hj:j<V.length) {G:Nat} (hG:OkD (G:Int) (-2148)) {α:Type} (F:Bool×Bool×LI×Int×Unit->Option α):
 ((g82 m (V.getD i []) (V.getD j [])).bind fun y1=>
   bif (i:Int)==(j:Int)then
    (g81 m 1).bind fun y2=>
    (g83 m y1.1.1 y1.1.2.1 y1.1.2.2.1 y1.1.2.2.2.1 y2.1.1 y2.1.2.1 y2.1.2.2.1 y2.1.2.2.2.1).bind fun y3=>
    (g85 m y3.1.1 y3.1.2.1 y3.1.2.2.1 y3.1.2.2.2.1).bind fun y4=>
    (g84 m y4.1.1 y4.1.2.1 y4.1.2.2.1 y4.1.2.2.2.1 (mkD (G:Int) (-2148)).1 (mkD (G:Int) (-2148)).2.1 (mkD (G:Int) (-2148)).2.2.1 (mkD (G:Int) (-2148)).2.2.2.1).bind fun y5=>
    bif decide (y5.1.1>0)then
     (g85 m y3.1.1 y3.1.2.1 y3.1.2.2.1 y3.1.2.2.2.1).bind fun y6=>F (y6.1.1,y6.1.2.1,y6.1.2.2.1,y6.1.2.2.2.1,())
    else F (mkD (G:Int) (-2148))
   else
    (g85 m y1.1.1 y1.1.2.1 y1.1.2.2.1 y1.1.2.2.2.1).bind fun y7=>
    (g84 m y7.1.1 y7.1.2.1 y7.1.2.2.1 y7.1.2.2.2.1 (mkD (G:Int) (-2148)).1 (mkD (G:Int) (-2148)).2.1 (mkD (G:Int) (-2148)).2.2.1 (mkD (G:Int) (-2148)).2.2.2.1).bind fun y8=>
    bif decide (y8.1.1>0)then
     (g85 m y1.1.1 y1.1.2.1 y1.1.2.2.1 y1.1.2.2.2.1).bind fun y9=>F (y9.1.1,y9.1.2.1,y9.1.2.2.1,y9.1.2.2.2.1,())
    else F (mkD (G:Int) (-2148)))=F (mkD ((max G (devN V i j):Nat):Int) (-2148)):=by
 have h1:=hV.e i hi;have h2:=hV.e j hj;have h3:=hV.v.l i hi;have dl:=q93 hV hi hj;have dv:=q9m hV hi hj;have ok1:OkD (isum (dotL (V.getD i []) (V.getD j []) (V.getD i []).length)) (-2148):=q46 O;have ok2:OkD oneD (-2148):=q46 (by have:=q9l;omega)
 have cm: ∀a:Nat,decide (cmpZ (a:Int) (G:Int)>0)=decide (G<a):=by
  intro a;unfold cmpZ;by_cases c:G<a
  . rw[iN' O,iP O,decide_eq_true c];rfl
  . rw[decide_eq_false c];by_cases c2:a<G
    . rw[iP O];rfl
    . rw[iN' O,iN' O];rfl
 rw[qei O O O (hV.f i hi) (hV.f j hj),bS,bif_eq];by_cases hij:i=j
 . have e:devZ V i j=isum (dotL (V.getD i []) (V.getD j []) (V.getD i []).length)-oneD:=by unfold devZ;rw[iP hij]
   have ok3:OkD (devZ V i j) (-2148):=q46 O;rw[iP O,q9w O ⟨by decide,by decide⟩,bS,qg0]
   dsimp only;rw[qh7 O,iP ⟨ok1,ok2⟩,<-e,bS];dsimp only;rw[qdj O ok3,bS];dsimp only;rw[qcb O,iP ⟨J4 ok3,hG⟩,bS,bS];dsimp only;rw[show((devZ V i j).natAbs:Int)=((devN V i j:Nat):Int)from rfl,cm]
   by_cases c:G<devN V i j
   . rw[decide_eq_true c,cond_true,Nat.max_eq_right O]
   . rw[decide_eq_false c,cond_false,Nat.max_eq_left O]
 . have e:devZ V i j=isum (dotL (V.getD i []) (V.getD j []) (V.getD i []).length):=by unfold devZ;rw[iN' hij,Int.sub_zero]
   rw[iN' O,qdj O ok1,bS];dsimp only;rw[qcb O,iP ⟨J4 ok1,hG⟩,bS,bS];dsimp only;rw[<-e,show((devZ V i j).natAbs:Int)=((devN V i j:Nat):Int)from rfl,cm]
   by_cases c:G<devN V i j
   . rw[decide_eq_true c,cond_true,Nat.max_eq_right O]
   . rw[decide_eq_false c,cond_false,Nat.max_eq_left O]
theorem qfv {i j:Nat} (hi:i<V.length) (hj:j<V.length) {G:Nat} (hG:OkD (G:Int) (-2148)):OkD ((max G (devN V i j):Nat):Int) (-2148):=by
 rcases Nat.le_total G (devN V i j)with h|h
 . rw[Nat.max_eq_right h];exact J4 (q46 (by have:=q9m hV hi hj;omega))
 . rw[Nat.max_eq_left h];exact hG
theorem pL1 (b0 b1:LI) (t0 t1:Bool) (t2:LI) (t3:Int) {j:Nat} (hj:j<V.length): ∀(n i G:Nat),j+1-i<n->i<=j+1->OkD (G:Int) (-2148)->
 ∃G':Nat,g30L1 m n b0 b1 V t0 t1 t2 t3 (mkD (G:Int) (-2148)).1 (mkD (G:Int) (-2148)).2.1 (mkD (G:Int) (-2148)).2.2.1 (mkD (G:Int) (-2148)).2.2.2.1 (j:Int) (V.getD j []) V (V.length:Int) (j:Int) (V.take (j+1)) ((j+1:Nat):Int) (i:Int)=
  some (.inl ((b0,b1,V,()),(t0,t1,t2,t3,()),mkD (G':Int) (-2148),V,(V.length:Int),(j:Int),()))/\OkD (G':Int) (-2148)/\G<=G'/\(∀i',i<=i'->i'<=j->devN V i' j<=G')/\(G'=G\/ ∃i',i'<=j/\G'=devN V i' j)
 |0,i,G,h,_,_=>absurd h (Nat.not_lt_zero _)
 |n+1,i,G,h,hi0,hG=>by
  rw[g30L1,bQ];by_cases hi:i<j+1
  . have hiV:i<V.length:=O;have hn:=hV.v.n;obtain⟨G',g1,g2,g3,g4,g5⟩:=pL1 b0 b1 t0 t1 t2 t3 hj n (i+1) (max G (devN V i j)) O O (qfv hm hV hiV hj hG);have ht:(V.take (j+1)).getD i []=V.getD i []:=by simp[List.getD,List.getElem?_take,hi]
    have hw:wI ((i:Int)+1)=((i+1:Nat):Int):=wsucc O;refine⟨G',?_,g2,O,fun i' h1 h2=> ?_,?_⟩
    . rw[iP O,iP (by rw[List.length_take];omega),tN,ht,hw,<-g1]
      exact pstep hm hV hiV hj hG fun d=>g30L1 m n b0 b1 V t0 t1 t2 t3 d.1 d.2.1 d.2.2.1 d.2.2.2.1 (j:Int) (V.getD j []) V (V.length:Int) (j:Int) (V.take (j+1)) ((j+1:Nat):Int) ((i+1:Nat):Int)
    . by_cases c:i'=i
      . subst c;omega
      . exact g4 i' O h2
    . rcases g5 with g5|g5
      . rcases Nat.le_total G (devN V i j)with c|c
        . exact .inr ⟨i,O,O⟩
        . exact .inl O
      . exact .inr g5
  . exact⟨G,by rw[iN' O],hG,Nat.le_refl _,fun i' h1 h2=>O,.inl rfl⟩
theorem pL0 (b0 b1:LI) (t0 t1:Bool) (t2:LI) (t3:Int): ∀(n j G:Nat),V.length-j<n->j<=V.length->OkD (G:Int) (-2148)->
 ∃G':Nat,g30L0 m n b0 b1 V t0 t1 t2 t3 (mkD (G:Int) (-2148)).1 (mkD (G:Int) (-2148)).2.1 (mkD (G:Int) (-2148)).2.2.1 (mkD (G:Int) (-2148)).2.2.2.1 V (V.length:Int) (j:Int)=
  some (.inl ((t0,t1,t2,t3,()),mkD (G':Int) (-2148),()))/\G<=G'/\(∀i' j',i'<=j'->j<=j'->j'<V.length->devN V i' j'<=G')/\(G'=G\/ ∃i' j',i'<=j'/\j'<V.length/\G'=devN V i' j')
 |0,j,G,h,_,_=>absurd h (Nat.not_lt_zero _)
 |n+1,j,G,h,hj0,hG=>by
  rw[g30L0,bQ];by_cases hj:j<V.length
  . have hn:=hV.v.n;have hw:wI ((j:Int)+1)=((j+1:Nat):Int):=wsucc O;obtain⟨G1,g1,g2,g3,g4,g5⟩:=pL1 hm hV b0 b1 t0 t1 t2 t3 hj m 0 G O O hG;obtain⟨G',k1,k2,k3,k4⟩:=pL0 b0 b1 t0 t1 t2 t3 n (j+1) G1 O O g2;rw[nZ]at g1;refine⟨G',?_,O,fun i' j' h1 h2 h3=> ?_,?_⟩
    . rw[iP O,iP O,hw,iP O,tN,tN,show(V.take (j+1)).length=j+1 by rw[List.length_take];omega,g1,bS]
      dsimp only;rw[hw];exact k1
    . by_cases c:j'=j
      . subst c;exact Nat.le_trans (g4 i' (Nat.zero_le _) h1) k2
      . exact k3 i' j' h1 O h3
    . rcases k4 with k4|k4
      . rcases g5 with g5|⟨i',a,b⟩
        . exact .inl O
        . exact .inr ⟨i',j,a,hj,O⟩
      . exact .inr k4
  . exact⟨G,by rw[iN' O],Nat.le_refl _,fun i' j' h1 h2 h3=>O,.inl rfl⟩
theorem rstep {i j:Nat} (hi:i<V.length) (hj:j<V.length) {G:Nat} (hG:OkD (G:Int) (-2148)) {α:Type} (F:Bool×Bool×LI×Int×Unit->Option α):
 ((g51 m (V.getD i []) (V.getD j [])).bind fun y1=>
   bif (i:Int)==(j:Int)then
    (g22 m 1).bind fun y2=>
    (g20 m y1.1.1 y1.1.2.1 y1.1.2.2.1 y1.1.2.2.2.1 y2.1.1 y2.1.2.1 y2.1.2.2.1 y2.1.2.2.2.1).bind fun y3=>
    (g19 m y3.1.1 y3.1.2.1 y3.1.2.2.1 y3.1.2.2.2.1).bind fun y4=>
    (g86 m (mkD (G:Int) (-2148)).1 (mkD (G:Int) (-2148)).2.1 (mkD (G:Int) (-2148)).2.2.1 (mkD (G:Int) (-2148)).2.2.2.1 y4.1.1 y4.1.2.1 y4.1.2.2.1 y4.1.2.2.2.1).bind fun y5=>
    bif y5.1 then
     (g19 m y3.1.1 y3.1.2.1 y3.1.2.2.1 y3.1.2.2.2.1).bind fun y6=>F (y6.1.1,y6.1.2.1,y6.1.2.2.1,y6.1.2.2.2.1,())
    else F (mkD (G:Int) (-2148))
   else
    (g19 m y1.1.1 y1.1.2.1 y1.1.2.2.1 y1.1.2.2.2.1).bind fun y7=>
    (g86 m (mkD (G:Int) (-2148)).1 (mkD (G:Int) (-2148)).2.1 (mkD (G:Int) (-2148)).2.2.1 (mkD (G:Int) (-2148)).2.2.2.1 y7.1.1 y7.1.2.1 y7.1.2.2.1 y7.1.2.2.2.1).bind fun y8=>
    bif y8.1 then
     (g19 m y1.1.1 y1.1.2.1 y1.1.2.2.1 y1.1.2.2.2.1).bind fun y9=>F (y9.1.1,y9.1.2.1,y9.1.2.2.1,y9.1.2.2.2.1,())
    else F (mkD (G:Int) (-2148)))=F (mkD ((max G (devN V i j):Nat):Int) (-2148)):=by
 have h1:=hV.e i hi;have h2:=hV.e j hj;have h3:=hV.v.l i hi;have dl:=q93 hV hi hj;have dv:=q9m hV hi hj;have ok1:OkD (isum (dotL (V.getD i []) (V.getD j []) (V.getD i []).length)) (-2148):=q46 O;have ok2:OkD oneD (-2148):=q46 (by have:=q9l;omega)
 have cm: ∀a:Nat,decide (cmpZ (G:Int) (a:Int)<0)=decide (G<a):=by
  intro a;unfold cmpZ;by_cases c:G<a
  . rw[iP O,decide_eq_true c];rfl
  . rw[decide_eq_false c,iN' O];by_cases c2:a<G
    . rw[iP O];rfl
    . rw[iN' O];rfl
 rw[qhi O O O (hV.f i hi) (hV.f j hj),bS,bif_eq];by_cases hij:i=j
 . have e:devZ V i j=isum (dotL (V.getD i []) (V.getD j []) (V.getD i []).length)-oneD:=by unfold devZ;rw[iP hij]
   have ok3:OkD (devZ V i j) (-2148):=q46 O;rw[iP O,qdb O ⟨by decide,by decide⟩,bS,qg0]
   dsimp only;rw[qf4 O,iP ⟨ok1,ok2⟩,<-e,bS];dsimp only;rw[qa3 O ok3,bS];dsimp only;rw[g86,q9z O,iP ⟨hG,J4 ok3⟩,bS,bS,bS];dsimp only;rw[show((devZ V i j).natAbs:Int)=((devN V i j:Nat):Int)from rfl,cm]
   by_cases c:G<devN V i j
   . rw[decide_eq_true c,cond_true,Nat.max_eq_right O]
   . rw[decide_eq_false c,cond_false,Nat.max_eq_left O]
 . have e:devZ V i j=isum (dotL (V.getD i []) (V.getD j []) (V.getD i []).length):=by unfold devZ;rw[iN' hij,Int.sub_zero]
   rw[iN' O,qa3 O ok1,bS];dsimp only;rw[g86,q9z O,iP ⟨hG,J4 ok1⟩,bS,bS,bS];dsimp only;rw[<-e,show((devZ V i j).natAbs:Int)=((devN V i j:Nat):Int)from rfl,cm]
   by_cases c:G<devN V i j
   . rw[decide_eq_true c,cond_true,Nat.max_eq_right O]
   . rw[decide_eq_false c,cond_false,Nat.max_eq_left O]
theorem rL3 (b0 b1:LI) (t0 t1:Bool) (t2:LI) (t3:Int) {i:Nat} (hi:i<V.length): ∀(n j G:Nat),V.length-j<n->j<=V.length->OkD (G:Int) (-2148)->
 ∃G':Nat,g31L3 m n b0 b1 V t0 t1 t2 t3 (mkD (G:Int) (-2148)).1 (mkD (G:Int) (-2148)).2.1 (mkD (G:Int) (-2148)).2.2.1 (mkD (G:Int) (-2148)).2.2.2.1 (i:Int) (j:Int)=
  some (.inl ((b0,b1,V,()),(t0,t1,t2,t3,()),mkD (G':Int) (-2148),(i:Int),()))/\OkD (G':Int) (-2148)/\G<=G'/\(∀j',j<=j'->j'<V.length->devN V i j'<=G')/\(G'=G\/ ∃j',j<=j'/\j'<V.length/\G'=devN V i j')
 |0,j,G,h,_,_=>absurd h (Nat.not_lt_zero _)
 |n+1,j,G,h,hj0,hG=>by
  rw[g31L3,bQ];by_cases hj:j<V.length
  . have hn:=hV.v.n;obtain⟨G',g1,g2,g3,g4,g5⟩:=rL3 b0 b1 t0 t1 t2 t3 hi n (j+1) (max G (devN V i j)) O O (qfv hm hV hi hj hG);have hw:wI ((j:Int)+1)=((j+1:Nat):Int):=wsucc O;refine⟨G',?_,g2,O,fun j' h1 h2=> ?_,?_⟩
    . rw[iP O,iP O,iP O,tN,tN,hw,<-g1];exact rstep hm hV hi hj hG fun d=>g31L3 m n b0 b1 V t0 t1 t2 t3 d.1 d.2.1 d.2.2.1 d.2.2.2.1 (i:Int) ((j+1:Nat):Int)
    . by_cases c:j'=j
      . subst c;omega
      . exact g4 j' O h2
    . rcases g5 with g5|⟨j',a,b,c⟩
      . rcases Nat.le_total G (devN V i j)with c|c
        . exact .inr ⟨j,O,hj,O⟩
        . exact .inl O
      . exact .inr ⟨j',O,b,c⟩
  . exact⟨G,by rw[iN' O],hG,Nat.le_refl _,fun i' h1 h2=>O,.inl rfl⟩
theorem rL2 (b0 b1:LI) (t0 t1:Bool) (t2:LI) (t3:Int): ∀(n i G:Nat),V.length-i<n->i<=V.length->OkD (G:Int) (-2148)->
 ∃G':Nat,g31L2 m n b0 b1 V t0 t1 t2 t3 (mkD (G:Int) (-2148)).1 (mkD (G:Int) (-2148)).2.1 (mkD (G:Int) (-2148)).2.2.1 (mkD (G:Int) (-2148)).2.2.2.1 (i:Int)=
  some (.inl ((t0,t1,t2,t3,()),mkD (G':Int) (-2148),()))/\G<=G'/\(∀i' j',i<=i'->i'<=j'->j'<V.length->devN V i' j'<=G')/\(G'=G\/ ∃i' j',i'<=j'/\j'<V.length/\G'=devN V i' j')
 |0,i,G,h,_,_=>absurd h (Nat.not_lt_zero _)
 |n+1,i,G,h,hi0,hG=>by
  rw[g31L2,bQ];by_cases hi:i<V.length
  . have hn:=hV.v.n;have hw:wI ((i:Int)+1)=((i+1:Nat):Int):=wsucc O;obtain⟨G1,g1,g2,g3,g4,g5⟩:=rL3 hm hV b0 b1 t0 t1 t2 t3 hi m i G O O hG;obtain⟨G',k1,k2,k3,k4⟩:=rL2 b0 b1 t0 t1 t2 t3 n (i+1) G1 O O g2;refine⟨G',?_,O,fun i' j' h1 h2 h3=> ?_,?_⟩
    . rw[iP O,g1,bS];dsimp only;rw[hw];exact k1
    . by_cases c:i'=i
      . subst c;exact Nat.le_trans (g4 j' h2 h3) k2
      . exact k3 i' j' O h2 h3
    . rcases k4 with k4|k4
      . rcases g5 with g5|⟨j',a,b,c⟩
        . exact .inl O
        . exact .inr ⟨i,j',a,b,O⟩
      . exact .inr k4
  . exact⟨G,by rw[iN' O],Nat.le_refl _,fun i' j' h1 h2 h3=>O,.inl rfl⟩
end
section
variable {m:Nat} (hm:5000000000<=m) {V:List LI}
include hm
theorem qcr (hV:VV V) (b0 b1:LI): ∃z e,g30 m b0 b1 V=some ((mkD z (-2148),e,()),(),())/\g31 m b0 b1 V=some ((mkD z (-2148),e,()),(),()):=by
 have hn:=hV.n;have hz:((false,false,[],0,()):Bool×Bool×LI×Int×Unit)=mkD 0 (-2148):=by rw[<-qea];unfold mkD;rfl
 have r0:=rc_L0 hm hV b0 b1 false false [] 0 m 0 O;have r1:=rc_L1 hm hV b0 b1 false false [] 0 m 0 O;rw[nZ]at r0 r1
 have hb:g31 m b0 b1 V=if Q8 (eqL V) 0 V.length=false then some ((mkD 0 (-2148),(2:Int),()),(),())else if Q8 (fiL V) 0 V.length=false then some ((mkD 0 (-2148),(4:Int),()),(),())else
  (g31L2 m m b0 b1 V false false [] 0 false false [] 0 0).bind fun y=>match y with
    | .inl z8=>some ((z8.2.1,(0:Int),()),(),())
    | .inr e=>e.elim:=by
  rw[g31,bQ,iN' O,r0,bS];cases Q8 (eqL V) 0 V.length
  . rw[cond_false,iP rfl,<-hz]
  . rw[cond_true,iN' (by decide)]
    dsimp only;rw[r1,bS,bQ];by_cases h0:0<V.length
    . have:=hV.l 0 h0;rw[iP O,iP O,bQ,iN' O];cases Q8 (fiL V) 0 V.length
      . rw[cond_false,iP rfl,<-hz]
      . rw[cond_true,iN' (by decide)]
        dsimp only;cases g31L2 m m b0 b1 V false false [] 0 false false [] 0 0 with
        |none=>rfl
        |some y=>cases y with
         |inl z=>rfl
         |inr e=>cases e
    . rw[iN' O];cases Q8 (fiL V) 0 V.length
      . rw[cond_false,iP rfl,<-hz]
      . rw[cond_true,iN' (by decide)]
        dsimp only;cases g31L2 m m b0 b1 V false false [] 0 false false [] 0 0 with
        |none=>rfl
        |some y=>cases y with
         |inl z=>rfl
         |inr e=>cases e
 rw[hb,g30,pc_eq hm hV,bS,bif_ne];dsimp only;by_cases c:cV V=0
 . obtain⟨c1,c2⟩:=cV_ok c;have hW:WV V:=⟨hV,c1,fun i hi=>qf5 (hV.u i hi) (c2 i hi)⟩
   have n1: ¬Q8 (eqL V) 0 V.length=false:=by intro h;unfold cV at c;rw[iP h]at c;omega
   have n2: ¬Q8 (fiL V) 0 V.length=false:=by intro h;unfold cV at c;rw[iN' n1,iP h]at c;omega
   have ok0:OkD ((0:Nat):Int) (-2148):=qa8 _;obtain⟨Gp,p1,p2,p3,p4⟩:=pL0 hm hW b0 b1 false false [] 0 m 0 0 O O ok0;obtain⟨Gr,q1,q2,q3,q4⟩:=rL2 hm hW b0 b1 false false [] 0 m 0 0 O O ok0
   have e:Gp=Gr:=by
    have h1:Gp<=Gr:=by
     rcases p4 with h|⟨i,j,h1,h2,h3⟩
     . omega
     . rw[h3];exact q3 i j (Nat.zero_le _) h1 h2
    have h2:Gr<=Gp:=by
     rcases q4 with h|⟨i,j,h1,h2,h3⟩
     . omega
     . rw[h3];exact p3 i j h1 (Nat.zero_le _) h2
    omega
   subst e;rw[iP c,iN' n1,iN' n2,q9w O ⟨by decide,by decide⟩,bS,qea]
   dsimp only;rw[nZ]at p1 q1;rw[p1,bS];rw[<-hz]at q1;rw[q1,bS];exact⟨_,0,rfl,rfl⟩
 . rw[iN' c,hz];unfold cV at*;by_cases n1:Q8 (eqL V) 0 V.length=false
   . rw[iP n1,iP n1];exact⟨0,2,rfl,rfl⟩
   . rw[iN' n1]at c;rw[iN' n1,iN' n1];by_cases n2:Q8 (fiL V) 0 V.length=false
     . rw[iP n2,iP n2];exact⟨0,4,rfl,rfl⟩
     . rw[iN' n2]at c;exact absurd rfl c
omit hm in
theorem qgv:g30 m [] [] (List.replicate 17 [])=some (((false,false,[],0,()),6,()),(),()):=by
 rw[g30,g80,bQ,iP (by simp)];rfl
theorem SameD {z:Int}:g32 m (mkD z (-2148)).1 (mkD z (-2148)).2.1 (mkD z (-2148)).2.2.1 (mkD z (-2148)).2.2.2.1 (mkD z (-2148)).1 (mkD z (-2148)).2.1 (mkD z (-2148)).2.2.1 (mkD z (-2148)).2.2.2.1=some (true,(),(),()):=by
 rw[g32,Xa O,bS,bS,qd6 O];rfl
end
end Go.Vs.F
set_option maxRecDepth 100000
namespace Go.Vs.F
def RowsOK (V:List LI):Prop:= ∀r∈V,r.length<=4/\UL r
theorem RowsOK.vv {V:List LI} (h:RowsOK V) (hn:V.length<=10):VV V:=by
 have hm: ∀i,i<V.length->V.getD i []∈V:=fun i hi=>by simp[List.getD,hi]
 exact⟨hn,fun i hi=>by have:=(h _ (hm i hi)).1;omega,fun i hi=>(h _ (hm i hi)).2⟩
theorem qhc {l:LI} (h:UL l) {f:Int} (h1:U64 f):UL (l++[f]):=by
 intro i hi;rw[List.length_append,List.length_singleton]at hi;by_cases c:i<l.length
 . have:(l++[f]).getD i 0=l.getD i 0:=by rw[List.getD,List.getElem?_append_left c];rfl
   rw[this];exact h i c
 . have:i=l.length:=O;subst this;have:(l++[f]).getD l.length 0=f:=by simp[List.getD]
   rw[this];exact h1
theorem qci {m:Nat} (hm:5000000000<=m) {raw:LI} (hl:raw.length<=9223372036854775807) (p1 p2 p3:Int) (b:Bool) (v:Int) {K M:Nat} (hK:K<5) (hM:M<4) (e1:g11 m p1 5=some ((K:Int),(),(),())) (e2:g11 m p2 4=some ((M:Int),(),(),())): ∀(n k:Nat) (V:List LI),K-k<n->k<=K->V.length=k->(∀r∈V,r.length<=3/\UL r)->
 ∃V',sparselaw38_LanczosMeasures_L0 m n raw p1 p2 p3 b v [] [] V (k:Int)=some (.inl (b,v,([],[],V',()),()))/\V'.length<=5/\ ∀r∈V',r.length<=3/\UL r
 |0,k,V,h,_,_,_=>absurd h (Nat.not_lt_zero _)
 |n+1,k,V,h,hk0,hV,hR=>by
  rw[sparselaw38_LanczosMeasures_L0,e1,bS,bQ];dsimp only;by_cases hk:k<K
  . have w1:wI (10*(k:Int))=((10*k:Nat):Int):=by rw[wQ,wi O O];omega
    have w2:wI ((k:Int)+1)=((k+1:Nat):Int):=wsucc O;obtain⟨l,c1,c2,c3⟩:=qbx hm hl (at0:=10*k) (n:=M) O O p3;rw[iP O,e2,bS];dsimp only;rw[w1,c1,bS];dsimp only;rw[iP ⟨by simp,by rw[hV];simp;omega⟩,w2]
    refine qci hm hl p1 p2 p3 b v hK hM e1 e2 n (k+1) (V++[l]) O O (by simp[hV]) fun r hr=> ?_
    rcases List.mem_append.1 hr with hr|hr
    . exact hR r hr
    . rw[List.mem_singleton]at hr;subst hr;exact⟨O,c3.U⟩
  . rw[iN' O];exact⟨V,rfl,O,hR⟩
theorem q09 (raw:LI) (p1 p2 p3:Int) (b:Bool) (v:Int) (hl:raw.length<=9223372036854775807) (hv:U64 v): ∃m,sparselaw38_LanczosMeasures m raw p1 p2 p3 b v=some (true,(),(),(),(),(),(),()):=by
 obtain⟨m,hm⟩: ∃m:Nat,5000000000<=m:=⟨5000000000,Nat.le_refl _⟩;obtain⟨K,hK,e1⟩:=q9v m p1 (k:=5) (by decide) (by decide)
 obtain⟨M,hM,e2⟩:=q9v m p2 (k:=4) (by decide) (by decide)
 obtain⟨V,h1,h2,h3⟩:=qci hm hl p1 p2 p3 b v hK hM e1 e2 m 0 [] O O rfl (fun r hr=>by cases hr)
 rw[nZ]at h1
 have go: ∀W:List LI,RowsOK W->W.length<=5->((g30 m [] [] W).bind fun y3=>
       (g31 m [] [] W).bind fun y4=>
       (g30 m ([]:LI) ([]:LI) (List.replicate 17 ([]:LI))).bind fun y5=>
       bif y3.1.2.1==y4.1.2.1 then
        (g32 m y3.1.1.1 y3.1.1.2.1 y3.1.1.2.2.1 y3.1.1.2.2.2.1 y4.1.1.1 y4.1.1.2.1 y4.1.1.2.2.1 y4.1.1.2.2.2.1).bind fun y6=>
        bif y6.1 then
         bif y5.1.2.1==6 then
          (sparselaw38_awake m).bind fun y7=>
          some (y7.1,((),(),(),(),(),(),()))
         else
          some (false,((),(),(),(),(),(),()))
        else
         some (false,((),(),(),(),(),(),()))
       else
        some (false,((),(),(),(),(),(),())))=some (true,(),(),(),(),(),(),()):=by
  intro W hW hn;obtain⟨z,e,g1,g2⟩:=qcr hm (hW.vv O) [] [];rw[g1,g2,qgv,bS,bS,bS];dsimp only;rw[beq_self_eq_true,cond_true,SameD hm,bS];dsimp only;rw[cond_true,beq_self_eq_true,cond_true,qgy O];rfl
 have hR:RowsOK V:=fun r hr=>⟨by have:=(h3 r hr).1;omega,(h3 r hr).2⟩
 refine⟨m,?_⟩;rw[sparselaw38_LanczosMeasures,h1,bS];dsimp only;rw[bQ];split
 . cases b
   . exact go V hR h2
   . rename_i hp;have hi:V.length-1<V.length:=O;have w1:wI ((V.length:Int)-1)=((V.length-1:Nat):Int):=by rw[wQ,wi O O];omega
     have hmem:V.getD (V.length-1) []∈V:=by simp[List.getD,hi]
     obtain⟨r1,r2⟩:=h3 _ hmem;rw[cond_true,w1,iP O,tN,iP (by show _+1<=_;omega),iP O,iP rfl]
     refine go _ (fun r hr=> ?_) (by rw[List.length_set];omega)
     rcases List.mem_or_eq_of_mem_set hr with hr|hr
     . exact hR r hr
     . subst hr;exact⟨by rw[List.length_append];show _+1<=_;omega,qhc r2 hv⟩
 . exact go V hR h2
theorem wfu64 {x:Int} (h:(Lit.int .u64 x).wf=true):U64 x:=by
 simp only[Lit.wf,Bool.and_eq_true,decide_eq_true_eq]at h;exact⟨h.1,by have h2:x<=18446744073709551615:=h.2;omega⟩
theorem wfLen {t:Ty} {xs:List (Den t)} (h:wfC (.imm t) xs):xs.length<=9223372036854775807:=Nat.le_trans h.2 (by decide)
end Go.Vs.F
