import Derived.Test.YtfleaheoikmdgaaGreatDoorLd
import Derived.Test.YtfleaheoikmdgaaGreatDoorLa
set_option linter.unusedVariables false
set_option linter.unusedSimpArgs false
set_option linter.unusedSectionVars false
set_option linter.defProp false
set_option maxRecDepth 100000
namespace Go.Vs.F
def qpf {r x:Nat} (hr:r<4294967296) (hx:x<4294967296):b_or_ .u64 (shl_ .u64 (r:Int) 32) (x:Int)=((r*4294967296+x:Nat):Int):=by
 have e1:shl_ .u64 (r:Int) 32=((r*4294967296:Nat):Int):=by
  have h:=shl64 (a:=r) (k:=32) O (by rw[show(2:Nat)^32=4294967296 by decide];omega)
  rw[show(2:Nat)^32=4294967296 by decide]at h
  exact h
 rw[e1,or64 O O];have:=zT1 (i:=32) (b:=x) O r;rw[zh,show(4294967296:Nat)=2^32 by decide,<-this]
def drop_set_self {l:LI} {i:Nat} {x:Int} (h:i<l.length):(l.set i x).drop i=x::l.drop (i+1):=by
 rw[List.drop_eq_getElem_cons (by rw[zY];exact h)]
 congr 1
 . simp
 . rw[List.drop_set];simp
def qfu (m:Nat) {a:LI} (ha:Lm a) (hl:a.length<=1000000) {d:Nat} (hd:0<d) (hd2:d<4294967296): ∀(k n:Nat) (out:LI),k<n->k<=a.length->Lm out->out.length=a.length->vl (out.drop k)=vl (a.drop k)/d->
 ∃out',g232L0 m n a (d:Int) out ((vl (a.drop k)%d:Nat):Int) ((k:Int)-1)=some (.inl (out',((vl a%d:Nat):Int),()))/\Lm out'/\out'.length=a.length/\vl out'=vl a/d
 |0,n+1,out,_,_,h1,h2,h3=>by
  refine⟨out,?_,h1,h2,by simpa using h3⟩
  rw[g232L0,bQ,iN' O,zI2]
 |k+1,n+1,out,hn,hk,h1,h2,h3=>by
  obtain⟨x,ex,hx,hv⟩:=ha.get' k;have hr:vl (a.drop (k+1))%d<d:=zN2 _ hd;have w:((k+1:Nat):Int)-1=(k:Int):=O;rw[g232L0,w,bQ,iP O,iP O];have wd:wJ (d:Int)=(d:Int):=w64n O;rw[wd,iP O,iP O,iP O,tN,ex,w64n O,qpf O hx,td,tm]
  have hq:(vl (a.drop (k+1))%d*4294967296+x)/d<4294967296:=by
   rw[zF2 hd];have:(vl (a.drop (k+1))%d+1)*4294967296<=d*4294967296:=zN _ hr;omega
  have wq:wK (wJ (((vl (a.drop (k+1))%d*4294967296+x)/d:Nat):Int))=(((vl (a.drop (k+1))%d*4294967296+x)/d:Nat):Int):=by
   rw[w64n O,w32,zU1 hq]
  rw[wq,zK]
  have e1:vl (a.drop k)=d*(4294967296*(vl (a.drop (k+1))/d))+(vl (a.drop (k+1))%d*4294967296+x):=by
   rw[hv];have:=zX3 (vl (a.drop (k+1))) d;generalize vl (a.drop (k+1))/d=q at*;generalize vl (a.drop (k+1))%d=r at*;rw[<-this,zu,<-Nat.mul_assoc,zh 4294967296 d,zk];omega
  have e2:vl (a.drop k)/d=4294967296*(vl (a.drop (k+1))/d)+(vl (a.drop (k+1))%d*4294967296+x)/d:=by
   rw[e1,Nat.mul_add_div hd]
  have e3:vl (a.drop k)%d=(vl (a.drop (k+1))%d*4294967296+x)%d:=by
   rw[e1,Nat.mul_add_mod]
  rw[<-e3,wQ,wi O O];refine qfu m ha hl hd hd2 k n _ O O (q50 h1 hq) (by rw[zY];exact h2) ?_
  rw[drop_set_self O,vl,tN,h3,e2];omega
def qnc {m:Nat} (hm:2000000<m) {a:LI} (ha:Lm a) (hl:a.length<=1000000) {d:Nat} (hd:0<d) (hd2:d<4294967296):
 g232 m a (d:Int)=some ((lim (vl a/d),((vl a%d:Nat):Int),()),(),(),()):=by
 rw[g232,iP O,tN,wQ,wi O O];have h0:(a.drop a.length)=[]:=List.drop_length
 obtain⟨out,h1,h2,h3,h4⟩:=qfu m ha hl hd hd2 a.length m (List.replicate a.length 0) O (zD _) Z5 (zm1 ..) (by
  rw[List.drop_eq_nil_of_le (by rw[zm1];exact zD _),h0]
  show 0=0/d
  rw[Nat.zero_div])
 rw[h0]at h1
 have e0:((vl ([]:LI)%d:Nat):Int)=0:=by
  show((0%d:Nat):Int)=0
  rw[Nat.zero_mod];rfl
 rw[e0]at h1;rw[h1,bS];dsimp only;rw[X3 h2 O O,bS,h4,w32,zU1 (Nat.lt_trans (zN2 _ hd) hd2)]
def q6b {d:Nat} (h0:0<d) (h:d<4294967296):lim d=[(d:Int)]:=by
 rw[q0g O,zx2 h,Q8,zU1 h]
def qbt {m:Nat} (hm:2000000<m) {A d:Nat} (hA:(lim A).length<=1000000) (h0:0<d) (h:d<4294967296):
 g215 m (lim A) (lim d)=some ((lim (A/d),lim (A%d),()),(),(),()):=by
 have hd1:(lim d).length=1:=by rw[q6b h0 h];rfl
 rw[g215,q3t hm hA O,bS,bQ];dsimp only;by_cases c:A<d
 . have hc:cmpN A d= -1:=by unfold cmpN;rw[iP c]
   rw[hc,iP O,qfz O,bS,zx2 c,zU1 c,Q8]
 . have hc: ¬cmpN A d<0:=by unfold cmpN;rw[iN' c];split<;>omega
   rw[iN' hc,hd1,bif_eq,iP (show((1:Nat):Int)=1 from rfl),iP O,q6b h0 h]
   show(g232 m (lim A) (d:Int)).bind _=_
   rw[qnc hm (Qu A) hA h0 h,bS,Qn];dsimp only;have hr:A%d<4294967296:=Nat.lt_trans (zN2 _ h0) h;rw[X3 (λx hx=>by rw[zA.1 hx];omega) (by simp;omega) (by simp),bS]
   show some ((_,lim ((((A%d:Nat):Int)).toNat+4294967296*0),()),_)=_
   rw[tN,zt1,zV]
def qk8 {m:Nat} (hm:2000000<m) {a:Int} {d:Nat} (h0:0<d) (h:d<4294967296) (ha:zlen ((d:Int)*a)<=1000000):
 g150 m (zB ((d:Int)*a)).1 (zB ((d:Int)*a)).2.1 (zB (d:Int)).1 (zB (d:Int)).2.1=some ((zB a,0,()),(),(),()):=by
 have hd1:(lim d).length=1:=by rw[q6b h0 h];rfl
 have hN:((d:Int)*a).natAbs=d*a.natAbs:=by rw[zP3,zK1]
 have hb2:(zB (d:Int)).2.1=lim d:=by show lim (d:Int).natAbs=_;rw[zK1]
 have ha2:(zB ((d:Int)*a)).2.1=lim (d*a.natAbs):=by show lim _=_;rw[hN]
 have hA:(lim (d*a.natAbs)).length<=1000000:=by rw[<-hN];exact ha
 have hq:(lim a.natAbs).length<=1000000:=zT (Qp (Nat.le_mul_of_pos_left _ h0)) hA
 have hs:((zB ((d:Int)*a)).1=true)↔a<0:=by
  show(decide ((d:Int)*a<0)=true)↔_
  rw[decide_eq_true_eq];constructor
  . intro hl;refine Int.not_le.1 λhn=> ?_
    have:=Int.mul_nonneg (show(0:Int)<=d by omega) hn
    omega
  . intro hl;exact Int.mul_neg_of_pos_of_neg O hl
 have hs2:(zB (d:Int)).1=false:=by show decide ((d:Int)<0)=false;exact decide_eq_false O
 rw[g150,g192,hb2,X3 (Qu d) O O,Qn,bS,hd1,bif_eq,iN' O,ha2,
  X3 (Qu _) O O,Qn,bS]
 dsimp only;rw[qbt hm hA h0 h,bS];dsimp only;rw[Nat.mul_div_cancel_left _ h0,Nat.mul_mod_right,Q8,hs2]
 have big: ∀neg:Bool,(neg=true↔a<0)->g133 m neg (lim a.natAbs)=some (zB a,(),(),()):=by
  intro neg hneg;rw[bigN hm O];congr 2;cases neg
  . have: ¬a<0:=λh=>by have:=hneg.2 h;cases this
    rw[iN' (by decide)];congr 1;omega
  . have:a<0:=hneg.1 rfl;rw[iP rfl];congr 1;omega
 have bigz:g133 m false []=some (zB 0,(),(),()):=by
  have:=bigN hm (n:=0) (by rw[Q8];simp) false
  rw[Q8]at this;exact this
 have z0:(zB 0).2.1=[]:=Q8;cases hc:(zB ((d:Int)*a)).1
 . have hn: ¬a<0:=λh=>by have:=hs.2 h;rw[hc]at this;cases this
   rw[cond_false,show(!(false==false))=false from rfl,big false (by simp[hn]),bS,bigz,bS,bS]
   dsimp only;rw[z0];rfl
 . have hn:a<0:=hs.1 hc;rw[cond_true,bQ];rw[iN' (show¬((([]:LI).length:Nat):Int)>0 by simp),show(!(true==false))=true from rfl,big true (by simp[hn]),bS,bigz,bS,bS]
   dsimp only;rw[z0];rfl
abbrev Bg:=Bool×LI
def BZ (z:Int):Bg:=((zB z).1,(zB z).2.1)
def qag:BZ 0=(false,[]):=by show(decide ((0:Int)<0),lim 0)=_;rw[Q8];rfl
def mr {α:Type} (n:Nat) (f:Nat->α):List α:=(List.range n).map f
def Qi {α:Type} {n:Nat} {f:Nat->α}:(mr n f).length=n:=by unfold mr;rw[zh1,zm2]
def Qz {α:Type} {n:Nat} {f:Nat->α} {j:Nat} {d:α} (h:j<n):(mr n f).getD j d=f j:=by
 unfold mr;simp[List.getD,h]
def Qg {α:Type} {n:Nat} {f g:Nat->α} (h: ∀i,i<n->f i=g i):mr n f=mr n g:=
 zx1 λi hi=>h i (zO1.1 hi)
def ql7 {α:Type} {n:Nat} {f:Nat->α} {i:Nat} (h:i<(mr n f).length):(mr n f)[i]=f i:=by simp[mr]
def q1g {α:Type} {n:Nat} {f:Nat->α} {j:Nat} {x:α}:(mr n f).set j x=mr n (λk=>if k=j then x else f k):=by
 apply zS3
 . rw[zY,Qi,Qi]
 . intro i h1 h2;rw[zc2,ql7,ql7];by_cases c:j=i
   . rw[iP c,iP c.symm]
   . rw[iN' c,iN' (λh=>c h.symm)]
def q5s {α:Type} {n:Nat} {f:Nat->α}:mr n f++[f n]=mr (n+1) f:=by
 unfold mr;rw[List.range_succ,zi2];rfl
def q8q {α:Type} {n:Nat} {x:α}:List.replicate n x=mr n (λ_=>x):=by
 apply zS3
 . rw[zm1,Qi]
 . intro i h1 h2;rw[ql7];simp
def q6j {α:Type} {f:Nat->α}:mr 0 f=[]:=rfl
def rowB (n:Nat) (f:Nat->Int):List Bg:=mr n λj=>BZ (f j)
def matB (n:Nat) (M:Nat->Nat->Int):List (List Bg):=mr n λi=>rowB n (M i)
def zs:Nat->(Nat->Int)->Int
 |0,_=>0
 |k+1,f=>zs k f+f k
def q8h {f:Nat->Int} {B:Nat}: ∀{k:Nat},(∀i,i<k->zlen (f i)<=B)->zlen (zs k f)<=B+k
 |0,_=>by show zlen 0<=_;unfold zlen;rw[show(0:Int).natAbs=0 from rfl,Q8];exact zc1 _
 |k+1,h=>by
  have h1:=q8h (k:=k) λi hi=>h i O
  have h2:=h k O;exact q4s (k:=B+k) h1 O
def bAdd {m:Nat} (hm:4000000<=m) {a b:Int} (ha:zlen a<=1000000) (hb:zlen b<=1000000):g85 m (BZ a).1 (BZ a).2 (BZ b).1 (BZ b).2=some (zB (a+b),(),(),()):=by
 have:=qg8 (m:=m) O (n1:=(zB a).1) (n2:=(zB b).1) (Sz_zB ha) (Sz_zB hb)
 rwa [zv_zB,zv_zB]at this
def bMul {m:Nat} (hm:4000000<=m) {a b:Int} (h:zlen a+zlen b<=1000000):g177 m (BZ a).1 (BZ a).2 (BZ b).1 (BZ b).2=some (zB (a*b),(),(),()):=by
 have:=qqt (m:=m) hm (n1:=(zB a).1) (n2:=(zB b).1) (l1:=(zB a).2.1) (l2:=(zB b).2.1) (Qu _) (Qu _) h
 rwa [zv_zB,zv_zB]at this
def bNorm {m:Nat} (hm:4000000<=m) {a:Int} (ha:zlen a<=1000000):g105 m (BZ a).1 (BZ a).2=some (zB a,(),()):=by
 have:=qlf (m:=m) O (neg:=(zB a).1) (Sz_zB ha)
 rwa [zv_zB]at this
def bNeg {m:Nat} (hm:4000000<=m) {a:Int} (ha:zlen a<=1000000):g88 m (BZ a).1 (BZ a).2=some (zB (-a),(),()):=by
 have:=q7z (m:=m) O (neg:=(zB a).1) (Sz_zB ha)
 rwa [zv_zB]at this
def bSign {m:Nat} (hm:4000000<=m) {a:Int} (ha:zlen a<=1000000):g90 m (BZ a).1 (BZ a).2=some (sgn a,(),()):=by
 have:=q1o (m:=m) O (neg:=(zB a).1) (Sz_zB ha)
 rwa [zv_zB]at this
def bCmp {m:Nat} (hm:4000000<=m) {a b:Int} (ha:zlen a<=1000000) (hb:zlen b<=1000000):g100 m (BZ a).1 (BZ a).2 (BZ b).1 (BZ b).2=some (cmpZ a b,(),(),()):=by
 have:=qnz (m:=m) O (n1:=(zB a).1) (n2:=(zB b).1) (Sz_zB ha) (Sz_zB hb)
 rwa [zv_zB,zv_zB]at this
def qi5 {m:Nat} (hm:4000000<=m) {n:Nat} (hn:n<=1000) {A B:Nat->Nat->Int} {i j:Nat} (hi:i<n) (hj:j<n) {e1 e2:Nat} (h1: ∀k,k<n->zlen (A i k)<=e1) (h2: ∀k,k<n->zlen (B k j)<=e2) (he:e1+e2<=900000)
 (out:List (List Bg)) (row l:List Bg) (t13:List (List Bg)) (t14 t15 t20:Int): ∀(N k:Nat),n-k<N->k<=n->
 g149L2 m N (matB n B) out row l (j:Int) (BZ (zs k λk=>A i k*B k j)).1 (BZ (zs k λk=>A i k*B k j)).2 t13 t14 t15 t20 (j:Int) (rowB n (A i)) (n:Int) (k:Int)=
  some (.inl (matB n B,out,row,l,zB (zs n λk=>A i k*B k j),t13,t14,t15,t20,(j:Int),())):=by
 intro N;induction N with
 |zero=>intro k h;omega
 |succ N ih=>
  intro k h hk;have hr:(rowB n (A i)).length=n:=Qi;have hb:(matB n B).length=n:=Qi;rw[g149L2,hr,hb];by_cases c:k<n
  . have e3:(matB n B).getD k []=rowB n (B k):=Qz c;have e4:(rowB n (B k)).length=n:=Qi;have e5:(rowB n (B k)).getD j (false,[])=BZ (B k j):=Qz hj;have e6:(rowB n (A i)).getD k (false,[])=BZ (A i k):=Qz c;have l1:=h1 k c;have l2:=h2 k c;have l3:zlen (A i k*B k j)<=e1+e2:=zT q4o O;have l4:zlen (zs k λk=>A i k*B k j)<=e1+e2+k:=q8h λq hq=>zT q4o (by have:=h1 q O;have:=h2 q O;omega)
    simp only[tN,e3,e4,e5,e6];rw[bQ,iP O,iP O,iP O,iP O,bMul hm O,bS];dsimp only;rw[show g85 m (BZ (zs k λk=>A i k*B k j)).1 (BZ (zs k λk=>A i k*B k j)).2 (zB (A i k*B k j)).1 (zB (A i k*B k j)).2.1=some (zB ((zs k λk=>A i k*B k j)+A i k*B k j),(),(),())from bAdd hm O O,bS,wQ,wsucc O]
    exact ih (k+1) O O
  . have:k=n:=O;subst this;rw[bQ,iN' O];rfl
def qhf {m:Nat} (hm:4000000<=m) {n:Nat} (hn:n<=1000) {A B:Nat->Nat->Int} {i:Nat} (hi:i<n) {e1 e2:Nat} (h1: ∀k,k<n->zlen (A i k)<=e1) (h2: ∀k j,k<n->j<n->zlen (B k j)<=e2) (he:e1+e2<=900000)
 (out:List (List Bg)) (t13:List (List Bg)) (t14 t15:Int): ∀(N j:Nat),n-j<N->j<=n->
 g149L1 m N (matB n B) out (rowB n (A i)) (mr j λj=>BZ (zs n λk=>A i k*B k j)) t13 t14 t15 (n:Int) (j:Int)=
  some (.inl (matB n B,out,rowB n (λj=>zs n λk=>A i k*B k j),t13,t14,t15,())):=by
 intro N;induction N with
 |zero=>intro k h;omega
 |succ N ih=>
  intro j h hj;rw[g149L1];by_cases c:j<n
  . have hr:(rowB n (A i)).length=n:=Qi;have e0:=qi5 hm hn hi c h1 (λk hk=>h2 k j hk c) he out (rowB n (A i)) (mr j λj=>BZ (zs n λk=>A i k*B k j)) t13 t14 t15 (n:Int) m 0 O O
    rw[show zs 0 (λk=>A i k*B k j)=0 from rfl,qag]at e0
    rw[bQ,iP O,hr];rw[show g149L2 m m (matB n B) out (rowB n (A i)) (mr j λj=>BZ (zs n λk=>A i k*B k j)) (j:Int) false [] t13 t14 t15 (n:Int) (j:Int) (rowB n (A i)) (n:Int) 0=_ from e0,bS]
    dsimp only;have hl:(mr j λj=>BZ (zs n λk=>A i k*B k j)).length=j:=Qi
    rw[hl,iP (by show j+1<=_;omega),wQ,wsucc O]
    have e1:(mr j λj=>BZ (zs n λk=>A i k*B k j))++[((zB (zs n λk=>A i k*B k j)).1,(zB (zs n λk=>A i k*B k j)).2.1)]=mr (j+1) λj=>BZ (zs n λk=>A i k*B k j):=q5s (f:=λj=>BZ (zs n λk=>A i k*B k j))
    rw[e1];exact ih (j+1) O O
  . have:j=n:=O;subst this;rw[bQ,iN' O];rfl
def mulZ (n:Nat) (A B:Nat->Nat->Int):Nat->Nat->Int:=λi j=>zs n λk=>A i k*B k j
def qhd {m:Nat} (hm:4000000<=m) {n:Nat} (hn:n<=1000) {A B:Nat->Nat->Int} {e1 e2:Nat} (h1: ∀i k,i<n->k<n->zlen (A i k)<=e1) (h2: ∀k j,k<n->j<n->zlen (B k j)<=e2) (he:e1+e2<=900000): ∀(N i:Nat),n-i<N->i<=n->
 g149L0 m N (matB n B) (mr i λi=>rowB n (mulZ n A B i)) (matB n A) (n:Int) (i:Int)=some (.inl (matB n (mulZ n A B),())):=by
 intro N;induction N with
 |zero=>intro k h;omega
 |succ N ih=>
  intro i h hi;have ha:(matB n A).length=n:=Qi;rw[g149L0,ha];by_cases c:i<n
  . have e3:(matB n A).getD i []=rowB n (A i):=Qz c;have hr:(rowB n (A i)).length=n:=Qi;have e0:=qhf hm hn c (λk hk=>h1 i k c hk) h2 he (mr i λi=>rowB n (mulZ n A B i)) (matB n A) (n:Int) (i:Int) m 0 O O
    rw[q6j]at e0;simp only[tN,e3,hr];rw[bQ,iP O,iP O];rw[show g149L1 m m (matB n B) (mr i λi=>rowB n (mulZ n A B i)) (rowB n (A i)) [] (matB n A) (n:Int) (i:Int) (n:Int) 0=_ from e0,bS]
    dsimp only;have hl:(mr i λi=>rowB n (mulZ n A B i)).length=i:=Qi
    rw[hl,iP (by show 0<1/\i+1<=_;omega),wQ,wsucc O]
    have e1:(mr i λi=>rowB n (mulZ n A B i))++[rowB n (λj=>zs n λk=>A i k*B k j)]=mr (i+1) λi=>rowB n (mulZ n A B i):=q5s (f:=λi=>rowB n (mulZ n A B i))
    rw[e1];exact ih (i+1) O O
  . have:i=n:=O;subst this;rw[bQ,iN' O];rfl
def qi0 {m:Nat} (hm:4000000<=m) {n:Nat} (hn:n<=1000) {A B:Nat->Nat->Int} {e1 e2:Nat} (h1: ∀i k,i<n->k<n->zlen (A i k)<=e1) (h2: ∀k j,k<n->j<n->zlen (B k j)<=e2) (he:e1+e2<=900000):
 g149 m (matB n A) (matB n B)=some (matB n (mulZ n A B),(),(),()):=by
 have ha:(matB n A).length=n:=Qi;rw[g149,ha];have e0:=qhd hm hn h1 h2 he m 0 O O;rw[q6j]at e0;rw[show g149L0 m m (matB n B) [] (matB n A) (n:Int) 0=_ from e0,bS]
def qpu {m:Nat} (hm:4000000<=m) {n:Nat} (hn:n<=1000) {f:Nat->Int} (h1: ∀k,k<n->zlen (f k)<=1000000) (b:List Bg) (out:List (List Bg)) (i:Int) (t11:List (List Bg)) (t12 t13:Int): ∀(N j:Nat),n-j<N->j<=n->
 g102L1 m N b out i (mr j λj=>BZ (f j)) t11 t12 t13 (rowB n f) (n:Int) (j:Int)=some (.inl (b,out,i,rowB n f,t11,t12,t13,())):=by
 intro N;induction N with
 |zero=>intro k h;omega
 |succ N ih=>
  intro j h hj;have hr:(rowB n f).length=n:=Qi;rw[g102L1,hr];by_cases c:j<n
  . have e6:(rowB n f).getD j (false,[])=BZ (f j):=Qz c;have hl:(mr j λj=>BZ (f j)).length=j:=Qi
    simp only[tN,e6,hl];rw[bQ,iP O,iP O,bNorm hm (h1 j c),bS];dsimp only;rw[iP (by show j+1<=_;omega),wQ,wsucc O]
    have e1:(mr j λj=>BZ (f j))++[((zB (f j)).1,(zB (f j)).2.1)]=mr (j+1) λj=>BZ (f j):=q5s (f:=λj=>BZ (f j))
    rw[e1];exact ih (j+1) O O
  . have:j=n:=O;subst this;rw[bQ,iN' O];rfl
def qq7 {m:Nat} (hm:4000000<=m) {n:Nat} (hn:n<=1000) {A:Nat->Nat->Int} (h1: ∀i k,i<n->k<n->zlen (A i k)<=1000000): ∀(N i:Nat),n-i<N->i<=n->
 g102L0 m N [] (mr i λi=>rowB n (A i)) (matB n A) (n:Int) (i:Int)=some (.inl (matB n A,())):=by
 intro N;induction N with
 |zero=>intro k h;omega
 |succ N ih=>
  intro i h hi;have ha:(matB n A).length=n:=Qi;rw[g102L0,ha];by_cases c:i<n
  . have e3:(matB n A).getD i []=rowB n (A i):=Qz c;have hr:(rowB n (A i)).length=n:=Qi;have e0:=qpu hm hn (λk hk=>h1 i k c hk) [] (mr i λi=>rowB n (A i)) (i:Int) (matB n A) (n:Int) (i:Int) m 0 O O
    rw[q6j]at e0;simp only[tN,e3,hr];rw[bQ,iP O,iP O];rw[show g102L1 m m [] (mr i λi=>rowB n (A i)) (i:Int) [] (matB n A) (n:Int) (i:Int) (rowB n (A i)) (n:Int) 0=_ from e0,bS]
    dsimp only;have hl:(mr i λi=>rowB n (A i)).length=i:=Qi
    rw[bQ,iN' (by show¬((i:Int)<((0:Nat):Int));omega),hl,iP (by show 0<1/\i+1<=_;omega),wQ,wsucc O]
    have e1:(mr i λi=>rowB n (A i))++[rowB n (A i)]=mr (i+1) λi=>rowB n (A i):=q5s (f:=λi=>rowB n (A i))
    rw[e1];exact ih (i+1) O O
  . have:i=n:=O;subst this;rw[bQ,iN' O];rfl
def qpc {m:Nat} (hm:4000000<=m) {n:Nat} (hn:n<=1000) {A:Nat->Nat->Int} (h1: ∀i k,i<n->k<n->zlen (A i k)<=1000000):g102 m (matB n A) []=some (matB n A,(),(),()):=by
 have ha:(matB n A).length=n:=Qi;rw[g102,ha];have e0:=qq7 hm hn h1 m 0 O O;rw[q6j]at e0;rw[show g102L0 m m [] [] (matB n A) (n:Int) 0=_ from e0,bS]
def NN (n:Nat) (M:Nat->Nat->Int) (c:Nat->Int):Nat->Nat->Nat->Int
 |0=>λ_ _=>0
 |k+1=>mulZ n M (λi j=>NN n M c k i j+if i=j then c k else 0)
def qpm {m:Nat} (hm:4000000<=m) {n:Nat} (hn:n<=1000) {P:Nat->Nat->Int} {cc:Int} {k:Nat} (hk1:1<=k) (hk2:k<=n) {pl:List Bg} (hpl:pl.length=n+1) (hpk:pl.getD (n-k+1) (false,[])=BZ cc)
 (h1: ∀i,i<n->zlen (P i i)<=900000) (h2:zlen cc<=900000) (vm:List (List Bg)): ∀(N a:Nat),n-a<N->a<=n->
 g101L2 m N vm (n:Int) pl (matB n λi j=>P i j+if i=j/\i<a then cc else 0) (k:Int) (n:Int) (a:Int)=some (.inl (vm,(n:Int),pl,matB n (λi j=>P i j+if i=j then cc else 0),(k:Int),())):=by
 intro N;induction N with
 |zero=>intro k h;omega
 |succ N ih=>
  intro a h ha;have hl:(matB n λi j=>P i j+if i=j/\i<a then cc else 0).length=n:=Qi
  have w:wI ((wI ((n:Int)-(k:Int)))+1)=((n-k+1:Nat):Int):=by
   rw[wQ,wQ,wi (n:=(n:Int)-(k:Int)) O O,wi O O];omega
  rw[g101L2,hl,hpl,w];by_cases c:a<n
  . have e3:(matB n λi j=>P i j+if i=j/\i<a then cc else 0).getD a []=rowB n (λj=>P a j+if a=j/\a<a then cc else 0):=Qz c
    have e4:(rowB n (λj=>P a j+if a=j/\a<a then cc else 0)).length=n:=Qi
    have e5:(rowB n (λj=>P a j+if a=j/\a<a then cc else 0)).getD a (false,[])=BZ (P a a):=by
     have:(rowB n (λj=>P a j+if a=j/\a<a then cc else 0)).getD a (false,[])=BZ (P a a+if a=a/\a<a then cc else 0):=Qz c
     rw[this,iN' O,zl3]
    simp only[tN,e3,e4,e5,zK,hpk];rw[bQ,iP O,iP O,iP O,iP O,iP O,bAdd hm (zT (h1 a c) O) O,bS];dsimp only;rw[iP O,wQ,wsucc O]
    have e6:(matB n λi j=>P i j+if i=j/\i<a then cc else 0).set a ((rowB n (λj=>P a j+if a=j/\a<a then cc else 0)).set a ((zB (P a a+cc)).1,(zB (P a a+cc)).2.1))=matB n λi j=>P i j+if i=j/\i<a+1 then cc else 0:=by
     unfold matB rowB;rw[q1g,q1g];refine Qg λi hi=> ?_
     by_cases ci:i=a
     . subst ci;rw[iP rfl];refine Qg λj hj=> ?_
       dsimp only;by_cases cj:j=i
       . subst cj;rw[iP rfl];have q:(if j=j/\j<j+1 then cc else 0)=cc:=iP ⟨rfl,O⟩
         rw[q];rfl
       . rw[iN' cj,iN' O,iN' O]
     . rw[iN' ci];refine Qg λj hj=> ?_
       dsimp only;by_cases cj:i=j/\i<a
       . rw[iP cj,iP O]
       . rw[iN' cj,iN' O]
    rw[e6];exact ih (a+1) O O
  . have:a=n:=O;subst this;rw[bQ,iN' O]
    have:(matB a λi j=>P i j+if i=j/\i<a then cc else 0)=matB a λi j=>P i j+if i=j then cc else 0:=by
     refine Qg λi hi=>Qg λj hj=> ?_
     dsimp only;by_cases cj:i=j
     . rw[iP ⟨cj,hi⟩,iP cj]
     . rw[iN' O,iN' cj]
    rw[this]
def qp4 {m:Nat} (hm:4000000<=m) {n:Nat} (hn:n<=1000) {Q:Nat->Nat->Int} (h1: ∀i,i<n->zlen (Q i i)<=900000) (vm:List (List Bg)) (t3:Int) (pl:List Bg) (t7:Int): ∀(N a:Nat),n-a<N->a<=n->
 g101L3 m N vm t3 pl t7 (matB n Q) (BZ (zs a λi=>Q i i)).1 (BZ (zs a λi=>Q i i)).2 (n:Int) (a:Int)=some (.inl (vm,t3,pl,t7,matB n Q,zB (zs n λi=>Q i i),())):=by
 intro N;induction N with
 |zero=>intro k h;omega
 |succ N ih=>
  intro a h ha;have hl:(matB n Q).length=n:=Qi;rw[g101L3,hl];by_cases c:a<n
  . have e3:(matB n Q).getD a []=rowB n (Q a):=Qz c;have e4:(rowB n (Q a)).length=n:=Qi;have e5:(rowB n (Q a)).getD a (false,[])=BZ (Q a a):=Qz c;have l4:zlen (zs a λi=>Q i i)<=900000+a:=q8h λq hq=>h1 q O
    have:=h1 a c;simp only[tN,e3,e4,e5];rw[bQ,iP O,iP O,iP O,bAdd hm O O,bS,wQ,wsucc O];exact ih (a+1) O O
  . have:a=n:=O;subst this;rw[bQ,iN' O];rfl
def polyB (n:Nat) (c:Nat->Int) (k:Nat):List Bg:=mr (n+1) λi=>if n-i<k then BZ (c (n-i))else BZ 0
def qpj {m:Nat} (hm:4000000<=m) {n:Nat} (hn:n<=1000) {M:Nat->Nat->Int} {c:Nat->Int} {e:Nat} (he:e<=300000) (h1: ∀i k,i<n->k<n->zlen (M i k)<=e)
 (h2: ∀k,k<=n-> ∀i j,i<n->j<n->zlen (NN n M c k i j)<=300000) (h3: ∀k,k<=n->zlen (c k)<=300000) (ht: ∀k,1<=k->k<=n->(zs n λi=>NN n M c k i i)=(k:Int)*(-c k)):
 ∀(N k:Nat),n+1-k<N->1<=k->k<=n+1->g101L1 m N (matB n M) (n:Int) (polyB n c k) (matB n (NN n M c (k-1))) (k:Int)=some (.inl (polyB n c (n+1),())):=by
 intro N;induction N with
 |zero=>intro k h;omega
 |succ N ih=>
  intro k h hk1 hk2;rw[g101L1];by_cases cc:k<=n
  . obtain⟨k,rfl⟩: ∃k',k=k'+1:=⟨k-1,O⟩;have hl:(matB n (NN n M c k)).length=n:=Qi;have hpl:(polyB n c (k+1)).length=n+1:=Qi
    have hpk:(polyB n c (k+1)).getD (n-(k+1)+1) (false,[])=BZ (c k):=by
     have:(polyB n c (k+1)).getD (n-(k+1)+1) (false,[])=if n-(n-(k+1)+1)<k+1 then BZ (c (n-(n-(k+1)+1)))else BZ 0:=Qz O
     have q:n-(n-(k+1)+1)=k:=O;rw[this,q,iP O]
    have e0:=qpm hm hn (P:=NN n M c k) (cc:=c k) (k:=k+1) O cc hpl hpk (λi hi=>zT (h2 k O i i hi hi) O) (zT (h3 k O) O) (matB n M) m 0 O O
    have e00:(matB n λi j=>NN n M c k i j+if i=j/\i<0 then c k else 0)=matB n (NN n M c k):=Qg λi hi=>Qg λj hj=>by dsimp only;rw[iN' O,zl3]
    rw[e00]at e0;rw[bQ,iP O,zf2,hl];rw[show g101L2 m m (matB n M) (n:Int) (polyB n c (k+1)) (matB n (NN n M c k)) ((k+1:Nat):Int) (n:Int) 0=_ from e0,bS]
    dsimp only
    rw[qi0 hm hn h1 (B:=λi j=>NN n M c k i j+if i=j then c k else 0) (e2:=300001) (λi j hi hj=>q4s (h2 k O i j hi hj) (by
     by_cases cj:i=j
     . rw[iP cj];exact h3 k O
     . rw[iN' cj];unfold zlen;rw[show(0:Int).natAbs=0 from rfl,Q8];exact zc1 _)) O,bS]
    dsimp only;have eN:mulZ n M (λi j=>NN n M c k i j+if i=j then c k else 0)=NN n M c (k+1):=rfl
    rw[eN];have hl2:(matB n (NN n M c (k+1))).length=n:=Qi;rw[hl2];have e3:=qp4 hm hn (Q:=NN n M c (k+1)) (λi hi=>zT (h2 (k+1) cc i i hi hi) O) (matB n M) (n:Int) (polyB n c (k+1)) ((k+1:Nat):Int) m 0 O O
    rw[show zs 0 (λi=>NN n M c (k+1) i i)=0 from rfl,qag]at e3
    rw[show g101L3 m m (matB n M) (n:Int) (polyB n c (k+1)) ((k+1:Nat):Int) (matB n (NN n M c (k+1))) false [] (n:Int) 0=_ from e3,bS]
    dsimp only;have htr:=ht (k+1) O cc
    have hlen:zlen (((k+1:Nat):Int)*(-c (k+1)))<=1000000:=by
     rw[<-htr];exact zT (q8h (B:=300000) λi hi=>h2 (k+1) cc i i hi hi) O
    rw[Jp O O O,bS,htr];dsimp only;rw[qk8 O O O hlen,bS];dsimp only
    have hneg:zlen (-c (k+1))<=1000000:=by
     have:=h3 (k+1) cc;unfold zlen at this⊢;rw[zb2];omega
    rw[show g88 m (zB (-c (k+1))).1 (zB (-c (k+1))).2.1=_ from bNeg hm hneg,bS,Int.neg_neg]
    dsimp only
    have w:wI ((n:Int)-((k+1:Nat):Int))=((n-(k+1):Nat):Int):=by
     rw[wQ,wi O O];omega
    rw[w,hpl,iP O,wQ,wsucc O,tN,zK]
    have e6:(polyB n c (k+1)).set (n-(k+1)) ((zB (c (k+1))).1,(zB (c (k+1))).2.1)=polyB n c (k+1+1):=by
     unfold polyB;rw[q1g];refine Qg λi hi=> ?_
     by_cases ci:i=n-(k+1)
     . subst ci;have q:n-(n-(k+1))=k+1:=O;rw[iP rfl,q,iP O];rfl
     . rw[iN' ci];by_cases cj:n-i<k+1
       . rw[iP cj,iP O]
       . rw[iN' cj,iN' O]
    rw[e6];have:=ih (k+1+1) O O O;rw[zf2]at this;exact this
  . have:k=n+1:=O;subst this;rw[bQ,iN' O]
def qoq {m:Nat} {n:Nat} (hn:n<=1000) (vm:List (List Bg)) (pl:List Bg): ∀(N a:Nat),n-a<N->a<=n->
 g101L0 m N vm (n:Int) pl (mr n λi=>if i<a then rowB n (λ_=>0)else []) (n:Int) (a:Int)=some (.inl (vm,(n:Int),pl,matB n (λ_ _=>0),())):=by
 intro N;induction N with
 |zero=>intro k h;omega
 |succ N ih=>
  intro a h ha;have hl:(mr n λi=>if i<a then rowB n (λ_=>0)else []).length=n:=Qi
  rw[g101L0,hl];by_cases c:a<n
  . rw[bQ,iP O,iP O,iP O,wQ,wsucc O,tN,tN,q1g]
    have e:(mr n λk=>if k=a then List.replicate n ((false,([]:LI)):Bool×LI)else if k<a then rowB n (λ_=>0)else [])=mr n λi=>if i<a+1 then rowB n (λ_=>0)else []:=by
     refine Qg λi hi=> ?_
     by_cases ci:i=a
     . subst ci;rw[iP rfl,iP O,q8q];exact Qg λj hj=>qag.symm
     . rw[iN' ci];by_cases cj:i<a
       . rw[iP cj,iP O]
       . rw[iN' cj,iN' O]
    rw[e];exact ih (a+1) O O
  . have:a=n:=O;subst this;rw[bQ,iN' O];have:(mr a λi=>if i<a then rowB a (λ_=>0)else [])=matB a (λ_ _=>0):=Qg λi hi=>iP hi
    rw[this]
def qq3 {m:Nat} (hm:4000000<=m) {n:Nat} (hn:n<=1000) {M:Nat->Nat->Int} {c:Nat->Int} {e:Nat} (he:e<=300000) (h1: ∀i k,i<n->k<n->zlen (M i k)<=e)
 (h2: ∀k,k<=n-> ∀i j,i<n->j<n->zlen (NN n M c k i j)<=300000) (h3: ∀k,k<=n->zlen (c k)<=300000) (h0:c 0=1) (ht: ∀k,1<=k->k<=n->(zs n λi=>NN n M c k i i)=(k:Int)*(-c k)):
 g101 m (matB n M)=some (polyB n c (n+1),(),()):=by
 have hl:(matB n M).length=n:=Qi;have w:wI ((n:Int)+1)=((n+1:Nat):Int):=by rw[wQ,wsucc O]
 rw[g101,hl,w,iP O,Jp O O O,bS];dsimp only;rw[tN,zm1,iP O,iP O,tN,zm1,zK]
 have e1:(List.replicate (n+1) ((false,([]:LI)):Bool×LI)).set n ((zB 1).1,(zB 1).2.1)=polyB n c 1:=by
  rw[q8q,q1g];refine Qg λi hi=> ?_
  by_cases ci:i=n
  . subst ci;rw[iP rfl,iP O,zw2,h0];rfl
  . rw[iN' ci,iN' O,qag]
 have e2:List.replicate n ([]:List (Bool×LI))=mr n λi=>if i<0 then rowB n (λ_=>0)else []:=by
  rw[q8q];exact Qg λi hi=>(iN' O).symm
 rw[e1,e2];rw[show g101L0 m m (matB n M) (n:Int) (polyB n c 1) (mr n λi=>if i<0 then rowB n (λ_=>0)else []) (n:Int) 0=_ from qoq hn (matB n M) (polyB n c 1) m 0 O O,bS]
 dsimp only;have e3:=qpj hm hn he h1 h2 h3 ht m 1 O O O;rw[show g101L1 m m (matB n M) (n:Int) (polyB n c 1) (matB n (λ_ _=>0)) 1=_ from e3,bS]
def vsF (p:Nat->Int):Nat->Nat->Int->Nat
 |_,0,_=>0
 |a,k+1,s=>(if sgn (p a)*s<0 then 1 else 0)+vsF p (a+1) k (if sgn (p a)=0 then s else sgn (p a))
def sgn3 (z:Int):sgn z= -1\/sgn z=0\/sgn z=1:=by
 unfold sgn;by_cases h:z<0
 . rw[iP h];exact .inl rfl
 . rw[iN' h];by_cases h2:0<z
   . rw[iP h2];exact .inr (.inr rfl)
   . rw[iN' h2];exact .inr (.inl rfl)
def qhb {m:Nat} (hm:4000000<=m) {n:Nat} (hn:n<=1000) {p:Nat->Int} (h1: ∀i,i<=n->zlen (p i)<=1000000) (vm:List (List Bg)) (t3:Int): ∀(N a q:Nat) (s:Int),n+1-a<N->a<=n+1->q<=a->(s= -1\/s=0\/s=1)->
 g64L3 m N vm t3 (q:Int) s (mr (n+1) λi=>BZ (p i)) ((n+1:Nat):Int) (a:Int)=some (.inl (vm,t3,((q+vsF p a (n+1-a) s:Nat):Int),())):=by
 intro N;induction N with
 |zero=>intro a q s h;omega
 |succ N ih=>
  intro a q s h ha hq hs;have hl:(mr (n+1) λi=>BZ (p i)).length=n+1:=Qi
  rw[g64L3,hl];by_cases c:a<n+1
  . have e5:(mr (n+1) λi=>BZ (p i)).getD a (false,[])=BZ (p a):=Qz c
    have hk:n+1-a=(n+1-(a+1))+1:=O;simp only[tN,zK,e5];rw[bQ,iP O,iP O,bSign hm (h1 a O),bS,hk,vsF];dsimp only;have g:=sgn3 (p a)
    have w:wI (sgn (p a)*s)=sgn (p a)*s:=by
     rw[wQ];rcases g with g|g|g<;>rcases hs with rfl|rfl|rfl<;>rw[g]<;>decide
    rw[w,bQ,bif_ne,bif_ne,wQ,wsucc (show q<4611686018427387904 by omega),wQ,wsucc (show a<4611686018427387904 by omega)]
    by_cases c1:sgn (p a)*s<0
    . rw[iP c1,iP c1];by_cases c2:sgn (p a)=0
      . rw[iP c2,iP c2,ih (a+1) (q+1) s O O O hs,zM1]
      . rw[iN' c2,iN' c2,ih (a+1) (q+1) (sgn (p a)) O O O g,zM1]
    . rw[iN' c1,iN' c1,zK];by_cases c2:sgn (p a)=0
      . rw[iP c2,iP c2,ih (a+1) q s O O O hs]
      . rw[iN' c2,iN' c2,ih (a+1) q (sgn (p a)) O O O g]
  . have:a=n+1:=O;subst this;rw[bQ,iN' O,zw2];rfl
def qi4 {m:Nat} (hm:4000000<=m) {n:Nat} (hn:n<=1000) {p:Nat->Int} (h1: ∀i,i<=n->zlen (p i)<=1000000) {vm:List (List Bg)} (hv:vm.length=n) (t4:Int) {z:Nat} (hz:z<=n) (hz1: ∀i,i<z->p i=0) (hz2:z<n->p z≠0): ∀(N a:Nat),n-a<N->a<=z->
 g64L2 m N vm (a:Int) t4 (mr (n+1) λi=>BZ (p i))=some (.inl (vm,(z:Int),t4,(mr (n+1) λi=>BZ (p i)),())):=by
 intro N;induction N with
 |zero=>intro a h;omega
 |succ N ih=>
  intro a h ha;have hl:(mr (n+1) λi=>BZ (p i)).length=n+1:=Qi
  rw[g64L2,hl,hv];by_cases c:a<n
  . have e5:(mr (n+1) λi=>BZ (p i)).getD a (false,[])=BZ (p a):=Qz O
    simp only[tN,zK,e5];rw[bQ,iP O,iP O,bSign hm (h1 a O),bS,bif_eq];dsimp only;by_cases c2:sgn (p a)=0
    . have:a≠z:=by
       rintro rfl
       exact hz2 c (Zc.1 c2)
      rw[iP c2,wQ,wsucc O,ih (a+1) O O]
    . have:a=z:=by
       refine Nat.le_antisymm ha (zC2 λhl=> ?_)
       exact c2 (Zc.2 (hz1 a hl))
      subst this;rw[iN' c2]
  . have:a=z:=O;subst this;rw[bQ,iN' O]
def qhs {m:Nat} (hm:4000000<=m) {n:Nat} (hn:n<=1000) {M:Nat->Nat->Int} (h1: ∀i k,i<n->k<n->zlen (M i k)<=1000000) (hs: ∀i k,i<n->k<n->M i k=M k i) {i:Nat} (hi:i<n) (t3 t4:Int) (t20:List (List Bg)) (t21 t22:Int): ∀(N j:Nat),n-j<N->j<=n->
 g64L1 m N (matB n M) t3 t4 (i:Int) t20 t21 t22 (rowB n (M i)) (n:Int) (j:Int)=some (.inr (.inl (matB n M,t3,t4,t20,t21,t22,()))):=by
 intro N;induction N with
 |zero=>intro a h;omega
 |succ N ih=>
  intro j h hj;have hl:(matB n M).length=n:=Qi;have hr:(rowB n (M i)).length=n:=Qi;rw[g64L1,hl,hr];by_cases c:j<n
  . have e3:(matB n M).getD j []=rowB n (M j):=Qz c;have e4:(rowB n (M j)).length=n:=Qi;have e5:(rowB n (M j)).getD i (false,[])=BZ (M j i):=Qz hi;have e6:(rowB n (M i)).getD j (false,[])=BZ (M i j):=Qz c;simp only[tN,e3,e4,e5,e6];rw[bQ,iP O,iP O,iP O,iP O,bCmp hm (h1 i j hi c) (h1 j i c hi),bS,bif_ne];dsimp only;have:cmpZ (M i j) (M j i)=0:=by unfold cmpZ;rw[hs i j hi c,iN' O,iN' O]
    rw[iP this,wQ,wsucc O];exact ih (j+1) O O
  . have:j=n:=O;subst this;rw[bQ,iN' O]
def qij {m:Nat} (hm:4000000<=m) {n:Nat} (hn:n<=1000) {M:Nat->Nat->Int} (h1: ∀i k,i<n->k<n->zlen (M i k)<=1000000) (hs: ∀i k,i<n->k<n->M i k=M k i) (t3 t4:Int): ∀(N i:Nat),n-i<N->i<=n->
 g64L0 m N (matB n M) t3 t4 (matB n M) (n:Int) (i:Int)=some (.inr (.inl (matB n M,t3,t4,()))):=by
 intro N;induction N with
 |zero=>intro a h;omega
 |succ N ih=>
  intro i h hi;have hl:(matB n M).length=n:=Qi;rw[g64L0,hl];by_cases c:i<n
  . have e3:(matB n M).getD i []=rowB n (M i):=Qz c;have e4:(rowB n (M i)).length=n:=Qi;simp only[tN,e3,e4];rw[bQ,iP O,iP O];rw[show g64L1 m m (matB n M) t3 t4 (i:Int) (matB n M) (n:Int) (i:Int) (rowB n (M i)) (n:Int) 0=_ from qhs hm hn h1 hs c t3 t4 (matB n M) (n:Int) (i:Int) m 0 O O,bS]
    dsimp only;rw[wQ,wsucc O];exact ih (i+1) O O
  . have:i=n:=O;subst this;rw[bQ,iN' O]
def qks {m:Nat} {n:Nat} (hn:n<=1000) {M:Nat->Nat->Int}: ∀(N i:Nat),n-i<N->i<=n->
 g214L0 m N (matB n M) ([(n:Int)],0) (n:Int) (i:Int)=some (.inr (.inl ())):=by
 intro N;induction N with
 |zero=>intro a h;omega
 |succ N ih=>
  intro i h hi;have hl:(matB n M).length=n:=Qi;rw[g214L0,hl];by_cases c:i<n
  . have e3:(matB n M).getD i []=rowB n (M i):=Qz c;have e4:(rowB n (M i)).length=n:=Qi;simp only[tN,e3];rw[bQ,iP O,iP O,g191,e4,bS];dsimp only;rw[show([(n:Int)].getD 0 0)=(n:Int)from rfl,bif_ne,iP rfl,wQ,wsucc O]
    exact ih (i+1) O O
  . rw[bQ,iN' O]
def qjf {m:Nat} (hm:4000000<=m) {n:Nat} (hn:n<=16) {M:Nat->Nat->Int}:g99 m (matB n M)=some (0,(),()):=by
 have hl:(matB n M).length=n:=Qi
 have hc:g148 m (matB n M)=some ((n:Int),(),()):=by
  rw[g148,hl,bif_eq];by_cases c:n=0
  . subst c;rfl
  . have e3:(matB n M).getD 0 []=rowB n (M 0):=Qz O;have e4:(rowB n (M 0)).length=n:=Qi;rw[iN' O,iP O,e3,e4]
 rw[g99,g147,hc,bS,g190,g214,hl];dsimp only;rw[show g214L0 m m (matB n M) ([(n:Int)],0) (n:Int) 0=_ from qks O m 0 O O,bS]
 dsimp only;rw[bS,bS];dsimp only;rw[bQ,iN' O,bQ,iN' O,bQ,show([(n:Int)].getD 0 0)=(n:Int)from rfl,iN' O,bS,bif_eq,iP rfl,bS,bif_ne,iP rfl]
def qel {m:Nat} (hm:4000000<=m) {n:Nat} (hn:n<=16) {M:Nat->Nat->Int} {c:Nat->Int} {e:Nat} (he:e<=300000) (h1: ∀i k,i<n->k<n->zlen (M i k)<=e) (hs: ∀i k,i<n->k<n->M i k=M k i)
 (h2: ∀k,k<=n-> ∀i j,i<n->j<n->zlen (NN n M c k i j)<=300000) (h3: ∀k,k<=n->zlen (c k)<=300000) (h0:c 0=1) (ht: ∀k,1<=k->k<=n->(zs n λi=>NN n M c k i i)=(k:Int)*(-c k))
 {z:Nat} (hz:z<=n) (hz1: ∀i,i<z->c (n-i)=0) (hz2:z<n->c (n-z)≠0) {q:Nat} (hq:vsF (λi=>c (n-i)) 0 (n+1) 0=q) (hzq:z+q<=n):
 g64 m (matB n M)=some ((((n-z-q:Nat):Int),(z:Int),(q:Int),0,()),(),()):=by
 have hl:(matB n M).length=n:=Qi;have h1': ∀i k,i<n->k<n->zlen (M i k)<=1000000:=λi k hi hk=>zT (h1 i k hi hk) O
 have hp:polyB n c (n+1)=mr (n+1) λi=>BZ (c (n-i)):=Qg λi hi=>iP O
 have h3': ∀i,i<=n->zlen (c (n-i))<=1000000:=λi hi=>zT (h3 (n-i) O) O
 rw[g64,qjf hm hn,bS,bif_ne,iP rfl,hl];rw[show g64L0 m m (matB n M) 0 0 (matB n M) (n:Int) 0=_ from qij hm O h1' hs 0 0 m 0 O O,bS]
 dsimp only;rw[qpc hm O h1',bS];dsimp only;rw[qq3 hm O he h1 h2 h3 h0 ht,bS,hp];dsimp only;rw[show g64L2 m m (matB n M) 0 0 (mr (n+1) λi=>BZ (c (n-i)))=_ from qi4 hm O (p:=λi=>c (n-i)) h3' hl 0 hz hz1 hz2 m 0 O O,bS]
 dsimp only;have hl2:(mr (n+1) λi=>BZ (c (n-i))).length=n+1:=Qi
 have e3:=qhb hm O (p:=λi=>c (n-i)) h3' (matB n M) (z:Int) m 0 0 0 O O O O
 rw[zm3,hq,zK]at e3;rw[hl2,show g64L3 m m (matB n M) (z:Int) 0 0 (mr (n+1) λi=>BZ (c (n-i))) ((n+1:Nat):Int) 0=_ from e3,bS]
 dsimp only;rw[hl]
 have w:wI ((wI ((n:Int)-(z:Int)))-(q:Int))=((n-z-q:Nat):Int):=by
  rw[wQ,wQ,wi (n:=(n:Int)-(z:Int)) O O,wi O O];omega
 rw[w]
def qbu:zlen 0=0:=by unfold zlen;rw[show(0:Int).natAbs=0 from rfl,Q8];rfl
def qml {z:Int}:zlen (-z)=zlen z:=by unfold zlen;rw[zb2]
def qdi {k:Nat} {z:Int} (hk:1<=k):zlen z<=zlen ((k:Int)*z):=by
 unfold zlen;refine Qp ?_;rw[zP3,zK1];exact Nat.le_mul_of_pos_left _ hk
def qmm {n:Nat} (hn:n<=16) {M:Nat->Nat->Int} {c:Nat->Int} {e:Nat} (h1: ∀i k,i<n->k<n->zlen (M i k)<=e) (h0:c 0=1) (ht: ∀k,1<=k->k<=n->(zs n λi=>NN n M c k i i)=(k:Int)*(-c k)):
 ∀k,k<=n->(∀i j,i<n->j<n->zlen (NN n M c k i j)<=k*(e+40))/\zlen (c k)<=k*(e+40)+17:=by
 intro k;induction k with
 |zero=>
  intro _;refine⟨λi j _ _=>by rw[show NN n M c 0 i j=0 from rfl,qbu];exact zc1 _,?_⟩
  rw[h0];have:zlen 1<=1:=qeh (k:=1) (by decide)
  omega
 |succ k ih=>
  intro hk;obtain⟨i1,i2⟩:=ih O;have e0:(k+1)*(e+40)=k*(e+40)+e+40:=by rw[zP1,zo2];omega
  have key: ∀i j,i<n->j<n->zlen (NN n M c (k+1) i j)<=(k+1)*(e+40):=by
   intro i j hi hj;show zlen (zs n λl=>M i l*(NN n M c k l j+if l=j then c k else 0))<=_
   have:zlen (zs n λl=>M i l*(NN n M c k l j+if l=j then c k else 0))<=(e+(k*(e+40)+18))+n:=q8h λl hl=>by
    refine zT q4o (Nat.add_le_add (h1 i l hi hl) (q4s (k:=k*(e+40)+17) (zT (i1 l j hl hj) O) ?_));by_cases d:l=j
    . rw[iP d];exact i2
    . rw[iN' d,qbu];exact zc1 _
   omega
  refine⟨key,?_⟩
  have h3:zlen (c (k+1))<=zlen (((k+1:Nat):Int)*(-c (k+1))):=by
   rw[<-qml (z:=c (k+1))];exact qdi O
  rw[<-ht (k+1) O hk]at h3;have h4:zlen (zs n λi=>NN n M c (k+1) i i)<=(k+1)*(e+40)+n:=q8h λi hi=>key i i hi hi
  omega
def qM (M:Nat->Nat->Int):Nat->Nat->Rat:=λi j=>(M i j:Rat)
def gZ (n:Nat) (M:Nat->Nat->Int) (i j:Nat):Int:=if i<n/\j<n then M i j else 0
def f2 (a b c d e f:Int):Int:=(a*b-d*d)+(a*c-e*e)+(b*c-f*f)
def f3 (a b c d e f:Int):Int:=a*(b*c-f*f)-d*(d*c-f*e)+e*(d*f-b*e)
def c3 (n:Nat) (M:Nat->Nat->Int):Nat->Int
 |0=>1
 |1=> -(gZ n M 0 0+gZ n M 1 1+gZ n M 2 2)
 |2=>f2 (gZ n M 0 0) (gZ n M 1 1) (gZ n M 2 2) (gZ n M 0 1) (gZ n M 0 2) (gZ n M 1 2)
 |3=> -f3 (gZ n M 0 0) (gZ n M 1 1) (gZ n M 2 2) (gZ n M 0 1) (gZ n M 0 2) (gZ n M 1 2)
 |_=>0
def qpx {n:Nat} {M:Nat->Nat->Int} {i j:Nat}:gA n (qM M) i j=(gZ n M i j:Rat):=by
 unfold gA gZ qM;split<;>simp
def tr3 {n:Nat} (hn:n<=3) {M:Nat->Nat->Int} (hs: ∀i k,i<n->k<n->M i k=M k i): ∀k,1<=k->k<=n->(zs n λi=>NN n M (c3 n M) k i i)=(k:Int)*(-c3 n M k):=by
 intro k hk1 hk2
 match n,hn with
 |0,_=>omega
 |1,_=>
  obtain rfl:k=1:=O;simp[zs,NN,mulZ,c3,gZ,f2,f3]
 |2,_=>
  have s1:=hs 1 0 (by decide) (by decide)
  rcases(show k=1\/k=2 by omega)with rfl|rfl<;>simp[zs,NN,mulZ,c3,gZ,f2,f3,s1]<;>grind
 |3,_=>
  have s1:=hs 1 0 (by decide) (by decide)
  have s2:=hs 2 0 (by decide) (by decide)
  have s3:=hs 2 1 (by decide) (by decide)
  rcases(show k=1\/k=2\/k=3 by omega)with rfl|rfl|rfl<;>simp[zs,NN,mulZ,c3,gZ,f2,f3,s1,s2,s3]<;>grind
def sgn_p {z:Int} (h:0<z):sgn z=1:=by unfold sgn;rw[iN' O,iP h]
def sgn_n {z:Int} (h:z<0):sgn z= -1:=by unfold sgn;rw[iP h]
def sgn_0:sgn 0=0:=by decide
def chg {n:Nat} (hn:n<=3) {M:Nat->Nat->Int} {H K:Nat} (hl:H+K<=n) (h:Sg H K ((gZ n M 0 0+gZ n M 1 1+gZ n M 2 2:Int):Rat) ((c3 n M 2:Int):Rat) ((-c3 n M 3:Int):Rat)):
 (∀k,H+K<k->k<=n->c3 n M k=0)/\c3 n M (H+K)≠0/\vsF (λi=>c3 n M (n-i)) 0 (n+1) 0=H:=by
 have z0:c3 n M 0=1:=rfl;obtain⟨u1,h1⟩: ∃u,u=c3 n M 1:=⟨_,rfl⟩;obtain⟨u2,h2⟩: ∃u,u=c3 n M 2:=⟨_,rfl⟩;obtain⟨u3,h3⟩: ∃u,u=c3 n M 3:=⟨_,rfl⟩;have e1:gZ n M 0 0+gZ n M 1 1+gZ n M 2 2= -u1:=by rw[h1];exact(Int.neg_neg _).symm
 have k2:n<2->u2=0:=λhh=>by rw[h2];simp[c3,f2,gZ,show¬(1<n) by omega,show¬(2<n) by omega]
 have k3:n<3->u3=0:=λhh=>by rw[h3];simp[c3,f3,gZ,show¬(2<n) by omega]
 have k1:n<1->u1=0:=λhh=>by rw[h1];simp[c3,gZ,show¬(0<n) by omega,show¬(1<n) by omega,show¬(2<n) by omega]
 rw[e1,<-h2,<-h3]at h;have p0: ∀z:Int,(0:Rat)<(z:Rat)↔0<z:=λz=>by rw[<-Rat.intCast_zero,Rat.intCast_lt_intCast]
 have p1: ∀z:Int,(z:Rat)<0↔z<0:=λz=>by rw[<-Rat.intCast_zero,Rat.intCast_lt_intCast]
 have p2: ∀z:Int,(z:Rat)=0↔z=0:=λz=>by rw[<-Rat.intCast_zero,Rat.intCast_inj]
 have p3: ∀z:Int,(0:Rat)<=(z:Rat)↔0<=z:=λz=>by rw[<-Rat.intCast_zero,zE2]
 have p4: ∀z:Int,(z:Rat)<=0↔z<=0:=λz=>by rw[<-Rat.intCast_zero,zE2]
 have q3: ∀z:Int,0<z\/z=0\/z<0:=λz=>O
 have main:(H+K<3->u3=0)/\(H+K<2->u2=0)/\(H+K<1->u1=0)/\(H+K=3->u3≠0)/\(H+K=2->u2≠0)/\(H+K=1->u1≠0)/\ ∀g:Nat->Int,g 0=1->g 1=u1->g 2=u2->g 3=u3->vsF (λi=>g (n-i)) 0 (n+1) 0=H:=by
  clear h1 h2 h3 e1 z0;have go: ∀g:Nat->Int,g 0=1->g 1=u1->g 2=u2->g 3=u3->(∀s,s=3\/s=2\/s=1\/s=0->True):=λ_ _ _ _ _ _ _=>trivial
  cases h<;>rename_i a1 a2<;>simp only[p0,p1,p2,p3,p4]at* <;>refine⟨O,O,O,O,O,O,λg g0 g1 g2 g3=> ?_⟩<;>
  (have hnn:n=0\/n=1\/n=2\/n=3:=O
   rcases hnn with rfl|rfl|rfl|rfl<;>rcases q3 u1 with w1|w1|w1<;>rcases q3 u2 with w2|w2|w2<;>rcases q3 u3 with w3|w3|w3<;>
    first
    |omega
    |(simp only[vsF,g0,g1,g2,g3,zm3,Nat.reduceSub,Nat.reduceAdd,zK];simp[sgn_p,sgn_n,sgn_0,w1,w2,w3]))
 obtain⟨m1,m2,m3,m4,m5,m6,m7⟩:=main;refine⟨λk hk1 hk2=> ?_,?_,m7 _ z0 h1.symm h2.symm h3.symm⟩
 . rcases(show k=1\/k=2\/k=3 by omega)with rfl|rfl|rfl
   . rw[<-h1];exact m3 O
   . rw[<-h2];exact m2 O
   . rw[<-h3];exact m1 O
 . rcases(show H+K=0\/H+K=1\/H+K=2\/H+K=3 by omega)with e|e|e|e
   . rw[e,z0];decide
   . rw[e,<-h1];exact m6 e
   . rw[e,<-h2];exact m5 e
   . rw[e,<-h3];exact m4 e
def qg4 {α:Type} {L:List α} {b:α->Rat}:npos L b+npos L (λi=> -b i)<=L.length:=by
 induction L with
 |nil=>exact zD _
 |cons i L ih=>
  rw[Yb,Yb,za1];unfold ip;by_cases c:0<b i
  . rw[iP c,iN' (by grind)];omega
  . rw[iN' c];split<;>omega
def qh7 {m:Nat} (hm:4000000<=m) {n:Nat} (hn:n<=3) {M:Nat->Nat->Int} {e:Nat} (he:e<=10000) (h1: ∀i k,i<n->k<n->zlen (M i k)<=e) (hs: ∀i k,i<n->k<n->M i k=M k i)
 {V:Nat->Nat->Rat} {b:Nat->Rat} (hd:Dg (List.range n) (qM M) V b):
 g64 m (matB n M)=some ((((npos (List.range n) (λi=> -b i):Nat):Int),((n-(npos (List.range n) b+npos (List.range n) (λi=> -b i)):Nat):Int),((npos (List.range n) b:Nat):Int),0,()),(),()):=by
 have ht:=tr3 hn hs;have hsz:=qmm O h1 (c:=c3 n M) rfl ht;have hle:=qg4 (L:=List.range n) (b:=b);rw[zm2]at hle;have hS:=Sg_Dg hn (A:=qM M) (λi j hi hj=>by show(M i j:Rat)=(M j i:Rat);rw[hs i j hi hj]) hd
 simp only[qpx]at hS;have x1:((gZ n M 0 0:Int):Rat)+((gZ n M 1 1:Int):Rat)+((gZ n M 2 2:Int):Rat)=((gZ n M 0 0+gZ n M 1 1+gZ n M 2 2:Int):Rat):=by rw[zk2,zk2]
 have x2: ∀a b c d e f:Int,e2 (a:Rat) (b:Rat) (c:Rat) (d:Rat) (e:Rat) (f:Rat)=((f2 a b c d e f:Int):Rat):=λa b c d e f=>by
  unfold e2 f2;simp only[zk2,Rat.intCast_sub,Rat.intCast_mul]
 have x3: ∀a b c d e f:Int,e3 (a:Rat) (b:Rat) (c:Rat) (d:Rat) (e:Rat) (f:Rat)=((f3 a b c d e f:Int):Rat):=λa b c d e f=>by
  unfold e3 f3;simp only[zk2,Rat.intCast_sub,Rat.intCast_mul]
 rw[x1,x2,x3,show f3 (gZ n M 0 0) (gZ n M 1 1) (gZ n M 2 2) (gZ n M 0 1) (gZ n M 0 2) (gZ n M 1 2)= -c3 n M 3 from(Int.neg_neg _).symm]at hS
 obtain⟨d1,d2,d3⟩:=chg hn hle hS;generalize npos (List.range n) b=H at*;generalize npos (List.range n) (λi=> -b i)=K at*
 have bd: ∀k,k<=n->k*(e+40)<=160640:=λk hk=>zT (zD2 (show k<=16 by omega) (show e+40<=10040 by omega)) (by decide)
 have hraw:=qel hm O (c:=c3 n M) (e:=e) O h1 hs (λk hk i j hi hj=>zT ((hsz k hk).1 i j hi hj) (zT (bd k hk) O)) (λk hk=>zT (hsz k hk).2 (by have:=bd k hk;omega)) rfl ht
  (z:=n-(H+K)) O (λi hi=>d1 (n-i) O O) (λhlt h=>by
    have e1:n-(n-(H+K))=H+K:=O;rw[e1]at h;exact d2 h) d3 O
 rw[hraw];congr 4;omega
end Go.Vs.F
