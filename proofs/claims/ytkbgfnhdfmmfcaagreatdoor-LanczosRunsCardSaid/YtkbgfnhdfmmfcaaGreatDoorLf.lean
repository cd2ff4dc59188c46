import Derived.Test.YtkbgfnhdfmmfcaaGreatDoorLe
set_option linter.unusedVariables false
set_option linter.unusedSimpArgs false
set_option linter.unusedSectionVars false
set_option maxRecDepth 100000
set_option linter.defProp false
namespace Go.Vs.F
def R5 {neg:Bool} {f:Int} (u:0<=f) (h2:f<9223372036854775808):cr (lE neg f):=by unfold lE cr;split<;>omega
def qno {neg:Bool} {mode:Int}:cr (jb neg mode):=by unfold jb;split<;>exact R5 O O
def qss {neg:Bool} {n:Nat} {u mode:Int} (hu: -1074<=u) (hn:n<=9007199254740992):cr (lG neg n u mode):=by unfold lG;split;{split;{exact qno};{exact R5 O O}};{split;{exact R5 O O};{split;{exact qno};{exact R5 O O}}}
def VJ {neg:Bool} {v:Nat} {e:Int} {more:Bool} {mode:Int}:cr (Z4 neg v e more mode):=qss (Vw v e) VG
def xN:cr ES:=by unfold ES cr;omega
def IY:cr 0:=by unfold cr;omega
def Yr {d:D5} {mode:Int}:cr (Y7 d mode):=by unfold Y7;split;{exact xN};{split;{exact IY};{exact VJ}}
def Nj {a b:D5} {mode:Int}:cr (jL a b mode):=by unfold jL;split;{exact xN};{split;{exact IY};{exact VJ}}
def qu6 {a:D5} {mode:Int}:cr (gZ a mode):=by unfold gZ;split;{exact xN};{split;{exact IY};{exact VJ}}
def A2 (f:Int):Cn (fp f):=by unfold fp;split;{exact dz _ _};{exact .bad}
def cg (b:LI) (k:Nat) (q:Nat->Int):LI:=(List.range b.length).map λi=>if i<k then q i else b.getD i 0
def Qq {b:LI} {k:Nat} {q:Nat->Int}:(cg b k q).length=b.length:=by unfold cg;simp
def Yf {b:LI} {k i:Nat} {q:Nat->Int} (u:i<b.length):(cg b k q).getD i 0=if i<k then q i else b.getD i 0:=by unfold cg;rw[List.getD_eq_getElem?_getD,List.getElem?_map,List.getElem?_range u];rfl
def L7 {a b:LI} (h:a.length=b.length) (G: ∀i,i<a.length->a.getD i 0=b.getD i 0):a=b:=by refine List.ext_getElem h λi u h2=> ?_;have:=G i u;simpa [List.getD_eq_getElem?_getD,u,h2]using this
def Tc {l:LI} {k i:Nat} {a:Int} (u:k<l.length):(l.set k a).getD i 0=if i=k then a else l.getD i 0:=by simp only[List.getD_eq_getElem?_getD,List.getElem?_set];split;{rename_i h;subst h;rw[iP rfl];simp[u]};{rename_i h;rw[af (λe=>h e.symm)]}
def Z9 {b:LI} {q:Nat->Int}:cg b 0 q=b:=
 L7 Qq λi u=>by rw[Qq]at u;rw[Yf u,af O]
def Zp {b:LI} {k:Nat} {q:Nat->Int} (G:k<b.length):(cg b k q).set k (q k)=cg b (k+1) q:=
 L7 (by rw[zU,Qq,Qq]) λi u=>by rw[zU,Qq]at u;rw[Tc (by rw[Qq];exact G),Yf u,Yf u];by_cases e:i=k;{subst e;rw[iP rfl,iP O]};{rw[af e];by_cases c:i<k;{rw[iP c,iP O]};{rw[af c,af O]}}
def Yq {b:LI} {q:Nat->Int}:cg b b.length q=(List.range b.length).map q:=by unfold cg;refine AY λi u=> ?_;rw[iP (uE.1 u)]
def c7 (n:Nat) (q:Nat->Int):LI:=(List.range n).map q
def Qp {n:Nat} {q:Nat->Int}:(c7 n q).length=n:=by unfold c7;simp
def J4 {n i:Nat} {q:Nat->Int} (u:i<n):(c7 n q).getD i 0=q i:=by unfold c7;rw[List.getD_eq_getElem?_getD,List.getElem?_map,List.getElem?_range u];rfl
def qia {n:Nat} {q:Nat->Int}:c7 n q++[q n]=c7 (n+1) q:=by unfold c7;rw[AU,sJ];rfl
def E8 {n:Nat} {q:Nat->Int} (h: ∀i,i<n->cr (q i)):UL (c7 n q):=λi u=>by rw[Qp]at u;rw[J4 u];exact h i u
def qks {n:Nat} {q r:Nat->Int} (h: ∀i,i<n->q i=r i):c7 n q=c7 n r:=AY λi u=>h i (uE.1 u)
def qu2 {n:Nat}:List.replicate n (0:Int)=c7 n λ_=>0:=by refine L7 (by rw[Qp,zI]) λi u=> ?_;rw[zI]at u;rw[J4 u];simp[List.getD_eq_getElem?_getD,u]
def ue (x:LI) (g:Int) (i:Nat):Int:=jL (fp (x.getD i 0)) (fp g) 0
def lq (x:LI) (g:Int):LI:=c7 x.length (ue x g)
def R7 {x:LI} {g:Int}:UL (lq x g):=E8 λi _=>Nj
def SN {x:LI} {g:Int}:(lq x g).length=x.length:=Qp
section
variable {m:Nat} (hm:5000000000<=m)
include hm
theorem q95 {x:LI} {g:Int} (hl:x.length<=1000) (u:UL x) (G:cr g): ∀(n k:Nat),x.length-k<n->k<=x.length->
 rj m n g (c7 k (ue x g)) x (x.length:Int) (k:Int)=some (.inl (lq x g,()))
 |0,k,h,_=>absurd h (zA _)
 |n+1,k,h,K=>by rw[rj,bQ];by_cases Q:k<x.length;{have J:=q95 hl u G n (k+1) O O;rw[iP O,iP O,tN,dh O (u k Q),bS,dh O G,bS];dsimp only;rw[uQ hm (A2 _) (A2 _),bS];dsimp only;rw[iP (by show _+1<=_;rw[Qp];omega),show jL (fp (x.getD k 0)) (fp g) 0=ue x g k from rfl,qia,show wI ((k:Int)+1)=((k+1:Nat):Int)from ax O];exact J};{rw[af O,show k=x.length by omega];rfl}
theorem q9c {x:LI} {g:Int} (hl:x.length<=1000) (u:UL x) (G:cr g):Mk m x g=some ((lq x g,bq (lq x g),()),(),(),()):=by have h:=q95 hm hl u G m 0 O O;rw[nZ]at h;rw[Mk,show([]:LI)=c7 0 (ue x g)from rfl,h,bS];dsimp only;rw[UC O R7 (by rw[SN];exact hl),bS]
theorem M3 {a b:D5} (u:Cn a) (hb:Cn b):np m a.1 a.2.1 a.2.2.1 a.2.2.2.1 b.1 b.2.1 b.2.2.1 b.2.2.2.1=some (jL a b 0,(),(),()):=by rw[np,MS hm u hb,bS]
theorem L5 {z e:Int}:v9 m (aE z e).1 (aE z e).2.1 (aE z e).2.2.1 (aE z e).2.2.2.1=some (Y7 (aE z e) 0,(),()):=by rw[v9,qch O,bS]
theorem qln {x:LI} {g:Int} (hl:x.length<=1000) (u:UL x) (G:cr g): ∀(n k:Nat),x.length-k<n->k<=x.length->
 q9 m n x g (cg (List.replicate x.length 0) k (ue x g)) (k:Int)=some (.inl (lq x g,()))
 |0,k,h,_=>absurd h (zA _)
 |n+1,k,h,K=>by rw[q9,bQ];by_cases Q:k<x.length;{have J:=qln hl u G n (k+1) O O;rw[iP O,iP O,tN,vP O (u k Q),bS,vP O G,bS];dsimp only;rw[M3 hm (A2 _) (A2 _),bS];dsimp only;rw[iP (by rw[Qq,zI];omega),zH,show jL (fp (x.getD k 0)) (fp g) 0=ue x g k from rfl,Zp (by rw[zI];omega),show wI ((k:Int)+1)=((k+1:Nat):Int)from ax O];exact J};{have e:=Yq (b:=List.replicate x.length (0:Int)) (q:=ue x g);rw[zI]at e;rw[af O,show k=x.length by omega,e];rfl}
theorem uH {x:LI} {g:Int} (hl:x.length<=1000) (u:UL x) (G:cr g):Mi m x g=some ((lq x g,bq (lq x g),()),(),(),()):=by have h:=qln hm hl u G m 0 O O;rw[nZ,Z9]at h;rw[Mi,iP O,tN,h,bS];dsimp only;rw[St O R7 (by rw[SN];exact hl),bS]
end
def AB (x y:LI):Int:=cO (eH x y x.length)
def jM (x:LI):Int:=gZ (aE (AB x x) (-2148)) 0
section
variable {m:Nat} (hM:dn<=m)
include hM
theorem q90 {x:LI} (hl:x.length<=1000) (u:b9 x):Ml m x=some (jM x,(),()):=by have hm:=Xb hM;rw[Ml,qpa O hl rfl u u,bS];dsimp only;rw[qv9 hM (dz _ _),bS];rfl
theorem Ux {z e:Int}:OJ m (aE z e).1 (aE z e).2.1 (aE z e).2.2.1 (aE z e).2.2.2.1=some (gZ (aE z e) 0,(),()):=by rw[OJ,quy hM (dz _ _),bS]
end
def qcd {m:Nat} (hm:4000000<=m) {x y:LI} (hl:x.length<=1000) (he:x.length=y.length) (Q:b9 x) (hy:b9 y) (K J:Bool) (G:LI) (u:Int): ∀(n k:Nat),x.length-k<n->k<=x.length->
 lT m n x y K J G u ((eH x y k).map (dy (-2148))) (x.length:Int) (k:Int)=some (.inl (y,(K,J,G,u,()),(eH x y x.length).map (dy (-2148)),()))
 |0,k,h,_=>absurd h (zA _)
 |n+1,k,h,c0=>by rw[lT,bQ];by_cases hk:k<x.length;{have ih:=qcd hm hl he Q hy K J G u n (k+1) O O;obtain⟨u1,f1⟩:=Q k hk;obtain⟨u2,f2⟩:=hy k O;rw[iP O,iP O,tN,zH,dh O u1,bS,iP O,dh O u2,bS,Xl f1,Xl f2];dsimp only;rw[I0 hm,iP ⟨ck f1,ck f2⟩,bS,show(-1074:Int)+ -1074= -2148 by decide];dsimp only;rw[iP (by simp[wR];omega),Li,show wI ((k:Int)+1)=((k+1:Nat):Int)from ax O];exact ih};{rw[af O,show k=x.length by omega]}
def qdh {m:Nat} (hm:4000000<=m) {x y:LI} (hl:x.length<=1000) (he:x.length=y.length) (u:b9 x) (hy:b9 y):xY m x y=some (aE (AB x y) (-2148),(),y,()):=by have h:=qcd hm hl he u hy false false [] 0 m 0 O O;rw[nZ]at h;rw[xY,show([]:List (Bool×(Bool×LI)×Int))=(eH x y 0).map (dy (-2148))from rfl,h,bS];dsimp only;rw[ZJ O (by rw[wR];omega) (UM u hy he (zJ _))];rfl
def dK (f:Int):Int:=sc (aM f) (-1074) (-2148)
def NB {f:Int} (h:aT f):fp f=aE (dK f) (-2148):=by rw[Xl h];exact(A0 O).symm
def Sn {f:Int} (h:aT f):b7 (dK f) (-2148):=by have:(aE (dK f) (-2148)).1=(aE (aM f) (-1074)).1:=by{rw[<-NB h,Xl h]};exact this.trans (ck h)
def jf (w v:LI) (h:Int) (i:Nat):Int:=Y7 (aE (dK (w.getD i 0)-aM h*aM (v.getD i 0)) (-2148)) 0
def bW (v w:LI):Int:=Y7 (aE (AB v w) (-2148)) 0
def de (w v:LI) (h:Int):LI:=c7 w.length (jf w v h)
def UE {w v:LI} {h:Int}:UL (de w v h):=E8 λi _=>Yr
def Td {w v:LI} {h:Int}:(de w v h).length=w.length:=Qp
section
variable {m:Nat} (hm:5000000000<=m)
include hm
theorem qnv {w v:LI} {h:Int} (hl:w.length<=1000) (he:v.length=w.length) (hw:b9 w) (hv:b9 v) (hh:cr h) (u:aT h): ∀(n k:Nat),w.length-k<n->k<=w.length->
 nq m n (cg w k (jf w v h)) v h (w.length:Int) (k:Int)=some (.inl (de w v h,()))
 |0,k,h,_=>absurd h (zA _)
 |n+1,k,hn,c0=>by rw[nq,bQ];by_cases G:k<w.length;{have Q:=qnv hl he hw hv hh u n (k+1) O O;obtain⟨K,f1⟩:=hw k G;obtain⟨J,f2⟩:=hv k O;rw[iP O,iP (by rw[Qq];omega),zH,tN,Yf G,af O,dh O K,bS,dh O hh,bS,iP O,dh O J,bS,Xl u,Xl f2,NB f1];dsimp only;rw[I0 O,iP ⟨ck u,ck f2⟩,bS,show(-1074:Int)+ -1074= -2148 by decide];dsimp only;rw[No O,iP ⟨Sn f1,Xn u f2⟩,bS];dsimp only;rw[NI O,bS,iP (by rw[Qq];omega)];dsimp only;rw[show Y7 (aE (dK (w.getD k 0)-aM h*aM (v.getD k 0)) (-2148)) 0=jf w v h k from rfl,Zp G,show wI ((k:Int)+1)=((k+1:Nat):Int)from ax O];exact Q};{rw[af O,show k=w.length by omega,Yq];rfl}
def dM (w v:LI):Option LI:=if aT (bW v w)/\bq (de w v (bW v w))=true then some (de w v (bW v w))else none
omit hm in
theorem VI {w v x:LI} (h:dM w v=some x):b9 x/\x.length=w.length:=by unfold dM at h;split at h;{rename_i c;injection h with h;subst h;exact⟨Zj UE c.2,Td⟩};{cases h}
theorem qu0 {w v:LI} (hl:w.length<=1000) (he:v.length=w.length) (hw:b9 w) (hv:b9 v):
 (∃y,Ez m w v=some ((dM w v).isSome,y,(),())/\ ∀x,dM w v=some x->y=x):=by rw[Ez,qdh O O he hv hw,bS];dsimp only;rw[NI O,bS];dsimp only;rw[show Y7 (aE (AB v w) (-2148)) 0=bW v w from rfl,A5 (show cr (bW v w)from Yr),bS];dsimp only;unfold dM;by_cases c:aT (bW v w);{have h0:=qnv hm hl he hw hv (h:=bW v w) Yr c m 0 O O;rw[nZ,Z9]at h0;rw[decide_eq_true c,show(!true)=false from rfl,cond_false,h0,bS];dsimp only;rw[UC O UE (by rw[Td];exact hl),bS];refine⟨de w v (bW v w),?_,λx u=> ?_⟩;{cases G:bq (de w v (bW v w))with|true=>{rw[iP ⟨c,rfl⟩];rfl}|false=>{rw[af (λq=>by cases q.2)];rfl}};{split at u;{injection u};{cases u}}};{rw[decide_eq_false c,show(!false)=true from rfl,cond_true];refine⟨w,?_,λx u=> ?_⟩;{rw[af (λq=>c q.1)];rfl};{rw[af (λq=>c q.1)]at u;cases u}}
end
end Go.Vs.F
set_option maxRecDepth 100000
namespace Go.Vs.F
def ic (f:Int):Int:=if cP f=2047 then(if dR f=0 then 2 else 3)else if cP f=0/\dR f=0 then 0 else 1
def SD {m:Nat} {f:Int} (h:cr f):Ks m f=some (ic f,(),())/\DY m f=some (ic f,(),()):=by have hl:=L1 f;rw[Ks,ja h,bS,DY,(Nb h).1,(Nb h).2];simp only[aA,aN];unfold ic;by_cases c:cP f=2047;{by_cases d:dR f=0;{simp[c,d]};{simp[c,d]}};{by_cases e:cP f=0;{by_cases d:dR f=0;{simp[e,d]};{simp[e,d]}};{simp[c,e]}}
def iF (f:Int):Int:=if 9223372036854775808<=f then f-9223372036854775808 else f+9223372036854775808
def qtq {n:Nat} (h:n<18446744073709551616):vQ .u64 (n:Int) 9223372036854775808=iF (n:Int):=by unfold vQ;show IntKind.wrap .u64 ((BitVec.ofInt 64 (n:Int)^^^BitVec.ofInt 64 ((9223372036854775808:Nat):Int)).toNat:Int)=_;rw[BitVec.toNat_xor,gL h,gL O];have e:n^^^9223372036854775808=if 9223372036854775808<=n then n-9223372036854775808 else n+9223372036854775808:=by{have hb:(9223372036854775808:Nat)=2^63*1:=by{decide};by_cases c:9223372036854775808<=n;{rw[iP c];obtain⟨r,rfl⟩: ∃r,n=2^63*1+r:=⟨n-9223372036854775808,O⟩;have hr:r<2^63:=O;rw[IF hr,hb];apply Mr;intro i;simp only[Nat.testBit_xor,Mx,iZ,E0];have:2^63+r-2^63=r:=O;rw[<-Nat.mul_one (2^63),<-Nat.two_pow_add_eq_or_of_lt hr,iZ,this];by_cases u:63=i;{subst u;rw[Nat.testBit_lt_two_pow hr];simp};{simp[u]}};{rw[af c];have hr:n<2^63:=O;rw[pJ,hb,IF hr];apply Mr;intro i;simp only[Nat.testBit_xor,Mx,iZ,E0];by_cases u:63=i;{subst u;rw[Nat.testBit_lt_two_pow hr];simp};{simp[u]}}};rw[e];unfold iF;by_cases c:9223372036854775808<=n;{rw[iP c,iP O,wu O O];omega};{rw[af c,af O,wu O O];omega}
def q98 {f:Int} (h:cr f):cr (iF f)/\cP (iF f)=cP f/\dR (iF f)=dR f/\gy (iF f)= !gy f:=by obtain⟨u,h2⟩:=h;unfold iF cr cP dR gy;split;{refine⟨O,O,O,?_⟩;rw[show decide (9223372036854775808<=f-9223372036854775808)=false by rw[decide_eq_false_iff_not];omega,show decide (9223372036854775808<=f)=true by rw[decide_eq_true_eq];omega];rfl};{refine⟨O,O,O,?_⟩;rw[show decide (9223372036854775808<=f+9223372036854775808)=true by rw[decide_eq_true_eq];omega,show decide (9223372036854775808<=f)=false by rw[decide_eq_false_iff_not];omega];rfl}
def qpp {f:Int} (h:cr f):aM (iF f)= -aM f/\(aT f->aT (iF f)):=by obtain⟨O,h2,J,G⟩:=q98 h;have o1:pI (iF f)= -pI f:=by{unfold pI;rw[h2,J,G];cases gy f<;>simp};have u:oa (iF f)=oa f:=by{unfold oa;rw[h2]};refine⟨?_,λK=>by unfold aT at*;rwa [h2]⟩;unfold aM sc;rw[o1,u,IE]
def qpo {m:Nat} {f:Int} (h:cr f) (G:aT f):TN m f=some (iF f,(),()):=by have u:=(SD (m:=m) h).2;have J:ic f≠3:=by{unfold ic;rw[af G];split<;>omega};rw[TN,W7,u,bS,bS,aA];dsimp only;rw[af J];obtain⟨n,rfl⟩: ∃n:Nat,f=(n:Int):=⟨f.toNat,by have:=h.1;omega⟩;rw[qtq (by have:=h.2;omega)]
def A8 (f:Int):Bool:=f==0||f==9223372036854775808
def Sw {m:Nat} {f:Int}:FV m f=some (A8 f,(),()):=by rw[FV];unfold A8;cases f==0<;>rfl
def V4 {f:Int} (h:cr f):(ic f==0)=A8 f:=by have u:ic f=0↔(f=0\/f=9223372036854775808):=by{obtain⟨G,h2⟩:=h;unfold ic cP dR;constructor;{intro h;(repeat' split at h);all_goals omega};{intro h;rw[af O,iP O]}};unfold A8;by_cases c:ic f=0;{rcases u.1 c with h|h;{subst h;rw[c];rfl};{subst h;rw[c];rfl}};{have G:f≠0:=λe=>c (u.2 (.inl e));have h2:f≠9223372036854775808:=λe=>c (u.2 (.inr e));rw[show(ic f==0)=false from by simpa using c,show(f==0)=false from by simpa using G,show(f==9223372036854775808)=false from by simpa using h2];rfl}
section
variable {m:Nat} (hm:5000000000<=m)
include hm
theorem qmy {w v:LI} {h:Int} (hl:w.length<=1000) (he:v.length=w.length) (hw:b9 w) (hv:b9 v) (hh:cr h) (fh:aT h): ∀(n k:Nat),w.length-k<n->k<=w.length->(∀i,i<k->aT (jf w v h i))->
 qR m n w (iF h) v (cg (List.replicate w.length 0) k (jf w v h)) (k:Int)=some (if bq (de w v h)=true then .inr (.inl (de w v h,()))else .inl ([],false,()))
 |0,k,h,_,_=>absurd h (zA _)
 |n+1,k,hn,c0,u=>by rw[qR,bQ];by_cases Q:k<w.length;{have ih:=qmy hl he hw hv hh fh n (k+1) O O;obtain⟨u1,f1⟩:=hw k Q;obtain⟨u2,f2⟩:=hv k O;obtain⟨n1,n2⟩:=qpp hh;have hz:dK (w.getD k 0)+aM (iF h)*aM (v.getD k 0)=dK (w.getD k 0)-aM h*aM (v.getD k 0):=by{rw[n1,IE];omega};rw[iP O,iP O,tN,vP O u1,bS,iP O,Y3 O (q98 hh).1 u2 (n2 fh) f2,bS,NB f1];dsimp only;rw[Vt O,iP ⟨Sn f1,Xn (n2 fh) f2⟩,bS,hz];dsimp only;rw[L5 hm,bS];dsimp only;rw[iP (by rw[Qq,zI];omega),zH,show Y7 (aE (dK (w.getD k 0)-aM h*aM (v.getD k 0)) (-2148)) 0=jf w v h k from rfl,Zp (by rw[zI];omega),iP (by rw[Qq,zI];omega),Yf (by rw[zI];omega),iP O,Xv (show cr (jf w v h k)from Yr),bS];dsimp only;by_cases c:aT (jf w v h k);{rw[decide_eq_true c,show(!true)=false from rfl,cond_false,show wI ((k:Int)+1)=((k+1:Nat):Int)from ax O];exact ih (λi J=>by{rcases fQ i k with h|h;{exact u i h};{rw[show i=k by omega];exact c}})};{have G:bq (de w v h)=false:=by{cases G:bq (de w v h)with|false=>rfl|true=>{have:=(Zj UE G k (by rw[Td];exact Q)).2;unfold de at this;rw[J4 Q]at this;exact absurd this c}};rw[decide_eq_false c,show(!false)=true from rfl,cond_true,G];rfl}};{have e:=Yq (b:=List.replicate w.length (0:Int)) (q:=jf w v h);rw[zI]at e;have K:k=w.length:=O;subst K;have G:bq (de w v h)=true:=by{unfold bq;rw[qx];intro i _ J;rw[Td]at J;unfold de;rw[J4 J];exact decide_eq_true (u i J)};rw[af O,e,G];rfl}
theorem qqm {w v:LI} {h:Int} (hl:w.length<=1000) (he:v.length=w.length) (hw:b9 w) (hv:b9 v) (hh:cr h) (G:aT h):
 TO m w (iF h) v=some ((if bq (de w v h)=true then de w v h else [],bq (de w v h),()),(),(),(),()):=by have h0:=qmy hm hl he hw hv hh G m 0 O O (λi u=>absurd u (zA _));rw[nZ,Z9]at h0;rw[TO,iP O,tN,h0,bS];cases bq (de w v h)<;>rfl
end
def q3h (m:Nat) {a:LI} (hl:a.length<=1000000): ∀(n k:Nat),a.length-k<n->k<=a.length->ry m n a a (k:Int)=some (.inr (.inl ()))
 |0,k,h,_=>absurd h (zA _)
 |n+1,k,h,u=>by rw[ry,bQ];by_cases G:k<a.length;{rw[iP O,iP O,iP O,aN,iP rfl,show wI ((k:Int)+1)=((k+1:Nat):Int)from ax O];exact q3h m hl n (k+1) O O};{rw[af O]}
def WC {m:Nat} (hm:2000000<m) {a:LI} (hl:a.length<=1000000):KT m a a=some (true,(),(),()):=by have h:=q3h m hl m 0 O O;rw[nZ]at h;rw[KT,aN,iP rfl,h,bS]
def qif {m:Nat} (hm:2000000<m) {a:List LI} (hl:a.length<=1000000) (hr: ∀r∈a,r.length<=1000000): ∀(n k:Nat),a.length-k<n->k<=a.length->qQ m n a a (k:Int)=some (.inr (.inl ()))
 |0,k,h,_=>absurd h (zA _)
 |n+1,k,h,u=>by rw[qQ,bQ];by_cases G:k<a.length;{rw[iP O,iP O,iP O,tN,WC hm (hr _ (by simp[List.getD,G])),bS];dsimp only;rw[show(!true)=false from rfl,cond_false,show wI ((k:Int)+1)=((k+1:Nat):Int)from ax O];exact qif hm hl hr n (k+1) O O};{rw[af O]}
def qkb {m:Nat} (hm:2000000<m) {a:List LI} (hl:a.length<=1000000) (hr: ∀r∈a,r.length<=1000000):OC m a a=some (true,(),(),()):=by have h:=qif hm hl hr m 0 O O;rw[nZ]at h;rw[OC,aN,iP rfl,h,bS]
def qe6 {m:Nat} (hm:2000000<m) {α β:LI} {V:List LI} (u:α.length<=1000000) (h2:β.length<=1000000) (hl:V.length<=1000000) (hr: ∀r∈V,r.length<=1000000):bu m α β V α β V=some (true,(),(),()):=by rw[bu,WC hm u,bS];dsimp only;rw[cond_true,WC hm h2,bS];dsimp only;rw[cond_true,qkb hm hl hr,bS]
end Go.Vs.F
set_option maxRecDepth 100000
namespace Go.Vs.F
def Xh:LI->List LI->Option LI
 |w,[]=>some w
 |w,v::vs=>match dM w v with
  |none=>none
  |some x=>Xh x vs
def q7j: ∀{a b:List LI} {w:LI},Xh w (a++b)=(Xh w a).bind λx=>Xh x b
 |[],b,w=>rfl
 |v::a,b,w=>by rw[AX,Xh,Xh];cases dM w v with|none=>rfl|some x=>exact q7j
def vB (N:Nat) (V:List LI):Prop:= ∀r∈V,b9 r/\r.length=N
def Wo {N:Nat}: ∀{V:List LI} {w x:LI},b9 w->w.length=N->Xh w V=some x->b9 x/\x.length=N
 |[],w,x,u,h2,h=>by injection h with h;subst h;exact⟨u,h2⟩
 |v::V,w,x,u,h2,h=>by rw[Xh]at h;cases ho:dM w v with|none=>{rw[ho]at h;cases h}|some y=>{rw[ho]at h;obtain⟨a,b⟩:=VI ho;exact Wo a (b.trans h2) h}
def qcv {V:List LI} {i:Nat} (h:i<V.length):V.drop i=V.getD i []::V.drop (i+1):=by rw[ET h];simp[List.getD,h]
def fi {V:List LI} {i:Nat} (h:i<V.length):V.getD i []∈V:=by simp[List.getD,h]
section
variable {m:Nat} (hm:5000000000<=m) {N:Nat} (hN:N<=1000) (α β:LI) {V:List LI} (hV:vB N V) (hVl:V.length<=1000)
include hm hN hV hVl
theorem ZV (u:Int): ∀(n i:Nat) (w:LI),V.length-i<n->i<=V.length->b9 w->w.length=N->
 rk m n α β V w u (V.length:Int) (i:Int)=some (match Xh w (V.drop i)with
  |none=> .inl ((α,β,V,()),[],233,())
  |some x=> .inr (.inl ((α,β,V,()),x,u,())))
 |0,i,w,h,_,_,_=>absurd h (zA _)
 |n+1,i,w,h,Q,hw,G=>by rw[rk,bQ];by_cases J:i<V.length;{obtain⟨K,r2⟩:=hV _ (fi J);obtain⟨y,g1,g2⟩:=qu0 hm (w:=w) (v:=V.getD i []) O O hw K;rw[iP O,iP O,zH,tN,g1,bS,qcv J,Xh];dsimp only;cases ho:dM w (V.getD i [])with|none=>rfl|some x=>{obtain⟨a,b⟩:=VI ho;rw[g2 x ho,show(!(some x).isSome)=false from rfl,cond_false,show wI ((i:Int)+1)=((i+1:Nat):Int)from ax O];exact ZV u n (i+1) x O O a (b.trans G)}};{rw[af O,Be O];rfl}
theorem qur {w:LI} (hw:b9 w) (G:w.length=N):
 lV m m α β V w 0=some (match Xh w (V++V)with
  |none=> .inl ((α,β,V,()),[],233,())
  |some x=> .inr (.inl ((α,β,V,()),x,()))):=by obtain⟨k,rfl⟩: ∃k,m=k+3:=⟨m-3,O⟩;have step: ∀(u:Int) (w:LI),b9 w->w.length=N->_:=λu w J h2=>ZV hm hN α β hV hVl u (k+3) 0 w O O J h2;simp only[nZ,i6]at step;rw[lV,bQ,iP O,step 0 w hw G,bS,q7j];cases J:Xh w V with|none=>rfl|some x=>{obtain⟨a,b⟩:=Wo hw G J;dsimp only;rw[show wI (0+1)=1 from by rw[wQ,wi O O];rfl,lV,bQ,iP O,step 1 x a b,bS,bS];cases h2:Xh x V with|none=>rfl|some y=>{dsimp only;rw[show wI (1+1)=2 from by rw[wQ,wi O O];rfl,lV,bQ,af O]}}
theorem qlq {k:Nat} (u:k<2*V.length):(V++V).getD k []=V.getD (k%V.length) []:=by simp only[List.getD_eq_getElem?_getD];by_cases c:k<V.length;{rw[List.getElem?_append_left c,i7 c]};{rw[List.getElem?_append_right O,Nat.mod_eq_sub_mod O,i7 O]}
theorem qko (s f6:Int) (f0 f1 f2 f3 f4 f5 a0 a1:LI) (a2:List LI) (hL:0<V.length): ∀(n k:Nat) (w:LI),2*V.length-k<n->k<=2*V.length->b9 w->w.length=N->
 rQ m n s f0 f1 f2 f3 f4 f5 f6 a0 a1 a2 α β V ((V.length-1:Nat):Int) w (k:Int)=some (match Xh w ((V++V).drop k)with
  |none=> .inl (([],[],[],()),233,())
  |some x=> .inr (.inl (s,(f0,f1,f2,f3,f4,f5,f6,()),(a0,a1,a2,()),(α,β,V,()),((V.length-1:Nat):Int),x,())))
 |0,k,w,h,_,_,_=>absurd h (zA _)
 |n+1,k,w,h,c0,hw,G=>by have w1:wI (((V.length-1:Nat):Int)+1)=(V.length:Int):=by{rw[wQ,wi O O];omega};have w2:wI (2*(V.length:Int))=((2*V.length:Nat):Int):=by{rw[wQ,wi O O];omega};rw[rQ,w1,w2,bQ];by_cases hk:k<2*V.length;{have u:Int.tmod (k:Int) (V.length:Int)=((k%V.length:Nat):Int):=(Int.ofNat_tmod k V.length).symm;have J:=iY k hL;obtain⟨Q,r2⟩:=hV _ (fi J);rw[iP O,iP O,u,iP O,zH,tN,Nk O O O Q hw,bS];dsimp only;rw[L5 hm,bS];dsimp only;have K:Xh w ((V++V).drop k)=match dM w (V.getD (k%V.length) [])with|none=>none|some x=>Xh x ((V++V).drop (k+1)):=by{rw[qcv (V:=V++V) (by rw[zG];omega),Xh,qlq hm hN hV hVl hk]};rw[show Y7 (aE (cO (eH (V.getD (k%V.length) []) w (V.getD (k%V.length) []).length)) (-2148)) 0=bW (V.getD (k%V.length) []) w from rfl,Xv (show cr (bW (V.getD (k%V.length) []) w)from Yr),bS,K];dsimp only;by_cases c:aT (bW (V.getD (k%V.length) []) w);{rw[decide_eq_true c,show(!true)=false from rfl,cond_false,qpo (show cr (bW (V.getD (k%V.length) []) w)from Yr) c,bS];dsimp only;rw[qqm hm O O hw Q (show cr (bW (V.getD (k%V.length) []) w)from Yr) c,bS];dsimp only;cases hf:bq (de w (V.getD (k%V.length) []) (bW (V.getD (k%V.length) []) w))with|false=>{have ho:dM w (V.getD (k%V.length) [])=none:=by{unfold dM;rw[af (λq=>by rw[hf]at q;cases q.2)]};rw[ho];rfl}|true=>{have ho:dM w (V.getD (k%V.length) [])=some (de w (V.getD (k%V.length) []) (bW (V.getD (k%V.length) []) w)):=by{unfold dM;rw[iP ⟨c,hf⟩]};obtain⟨a,b⟩:=VI ho;rw[ho,show(!true)=false from rfl,cond_false,iP rfl,show wI ((k:Int)+1)=((k+1:Nat):Int)from ax O];exact qko s f6 f0 f1 f2 f3 f4 f5 a0 a1 a2 hL n (k+1) _ O O a (b.trans G)}};{have ho:dM w (V.getD (k%V.length) [])=none:=by{unfold dM;rw[af (λq=>c q.1)]};rw[decide_eq_false c,show(!false)=true from rfl,cond_true,ho]}};{rw[af O,Be (by rw[zG];omega)];rfl}
end
end Go.Vs.F
set_option maxRecDepth 100000
namespace Go.Vs.F
def UX (m N:Nat) (f0 f1 f2 f3 f4 f5:LI) (f6:Int):Prop:= ∀v,b9 v->v.length=N-> ∃x e,
 Ao m f0 f1 f2 f3 f4 f5 f6 v=some ((x,e,()),(),(),())/\TP m f0 f1 f2 f3 f4 f5 f6 v=some ((x,e,()),(),(),())/\(e=0->b9 x/\x.length=N)
abbrev EO:=(LI×LI×List LI×Unit)×Int×Unit
def AN (N:Nat) (s:Int) (r:EO):Prop:=(r.1=([],[],[],())/\r.2.1≠0)\/(r.2.1=0/\r.1.2.1.length+1=r.1.1.length/\r.1.2.2.1.length=r.1.1.length/\((r.1.1.length:Int)<=s/\r.1.1.length<=16)/\vB N r.1.2.2.1/\b9 r.1.1/\b9 r.1.2.1)
def UG {v w:LI}:cr (bW v w):=Yr
def vR {x:LI}:cr (jM x):=qu6
section
variable {m:Nat} (hM:dn<=m) {N:Nat} (hN:N<=1000) {f0 f1 f2 f3 f4 f5:LI} {f6:Int} (hS:UX m N f0 f1 f2 f3 f4 f5 f6) {s:Int} (hs:s<=16) (b0 b1 a0 a1:LI) (b2 a2:List LI)
include hM hN hS hs
theorem qmo {α β:LI} {V:List LI} (hV:vB N V) (hVl:V.length<=100) (hL:0<V.length) (hα:α.length<=100) {x:LI} {e:Int}
 (Q:Ao m f0 f1 f2 f3 f4 f5 f6 (V.getD (V.length-1) [])=some ((x,e,()),(),(),())) (K:e=0->b9 x/\x.length=N):
 TQ m α β V f0 f1 f2 f3 f4 f5 f6=some (if e≠0 then(([],e,()),(α,β,V,()),(),())else if¬aT (bW (V.getD (V.length-1) []) x)then(([],233,()),(α,β,V,()),(),())
  else match Xh x (V++V)with
   |none=>(([],233,()),(α++[bW (V.getD (V.length-1) []) x],β,V,()),(),())
   |some y=>((y,0,()),(α++[bW (V.getD (V.length-1) []) x],β,V,()),(),())):=by have hm:=Xb hM;have G:wI ((V.length:Int)-1)=((V.length-1:Nat):Int):=by{rw[wQ,wi O O];omega};obtain⟨J,r2⟩:=hV _ (fi (V:=V) (i:=V.length-1) O);rw[TQ,G,iP O,zH,tN,Q,bS,aN];dsimp only;by_cases c:e=0;{rw[iP c,af (by simp[c])];obtain⟨x1,u⟩:=K c;rw[qdh O O O J x1,bS];dsimp only;rw[NI O,bS];dsimp only;rw[show Y7 (aE (AB (V.getD (V.length-1) []) x) (-2148)) 0=bW (V.getD (V.length-1) []) x from rfl,A5 UG,bS];dsimp only;by_cases d:aT (bW (V.getD (V.length-1) []) x);{rw[decide_eq_true d,show(!true)=false from rfl,cond_false,iP (by show _+1<=_;omega),qur hm hN _ _ hV O x1 u,bS,af (λh=>h d)];cases Xh x (V++V)<;>rfl};{rw[decide_eq_false d,show(!false)=true from rfl,cond_true,iP d]}};{rw[af c,iP c]}
theorem qpk: ∀(d:Nat) (α β:LI) (V:List LI),16-α.length<=d->α.length+1=V.length->β.length=α.length->(α.length:Int)<s->vB N V->b9 α->b9 β-> ∀n1 n2,d<n1->d<n2->
 ∃r,rS m n1 s f0 f1 f2 f3 f4 f5 f6 b0 b1 b2 α β V=some (.inl r)/\oQ m n2 s f0 f1 f2 f3 f4 f5 f6 a0 a1 a2 α β V (α.length:Int)=some (.inl r)/\AN N s r:=by have hm:=Xb hM;intro d;induction d with|zero=>{intro α β V h1 h2 h3 h4;omega}|succ d ih=>{intro α β V h1 h2 h3 h4 hV hα hβ n1 n2 d0 c0;obtain⟨n1,rfl⟩: ∃k,n1=k+1:=⟨n1-1,O⟩;obtain⟨n2,rfl⟩: ∃k,n2=k+1:=⟨n2-1,O⟩;have eV:V.length-1=α.length:=O;obtain⟨r1,r2⟩:=hV _ (fi (V:=V) (i:=V.length-1) O);obtain⟨x,e,g1,g2,g3⟩:=hS _ r1 r2;have u:=qmo hM hN hS hs (α:=α) (β:=β) hV O O O g1 g3;rw[rS,oQ,iP O,zH,tN,<-eV,g2,bS];dsimp only;by_cases c:e=0;{subst c;obtain⟨x1,x2⟩:=g3 rfl;rw[aN,iP rfl,eV,iP O,<-eV,Nk O O O r1 x1,bS];dsimp only;rw[L5 hm,bS];dsimp only;rw[show Y7 (aE (cO (eH (V.getD (V.length-1) []) x (V.getD (V.length-1) []).length)) (-2148)) 0=bW (V.getD (V.length-1) []) x from rfl,Xv UG,bS];dsimp only;rw[af (by simp)]at u;by_cases dd:aT (bW (V.getD (V.length-1) []) x);{have Q:=qko hm hN (α++[bW (V.getD (V.length-1) []) x]) β hV O s f6 f0 f1 f2 f3 f4 f5 a0 a1 a2 O m 0 x O O x1 x2;rw[nZ,i6]at Q;rw[af (λh=>h dd)]at u;rw[decide_eq_true dd,show(!true)=false from rfl,cond_false,iP (by show _+1<=_;omega),Q,bS];cases hp:Xh x (V++V)with|none=>{rw[hp]at u;rw[u,bS];exact⟨(([],[],[],()),233,()),rfl,rfl,.inl ⟨rfl,by decide⟩⟩}|some y=>{rw[hp]at u;rw[u,bS];obtain⟨K,y2⟩:=Wo x1 x2 hp;have w1:wI (((V.length-1:Nat):Int)+1)=((α.length+1:Nat):Int):=by{rw[wQ,wi O O];omega};have hα1:b9 (α++[bW (V.getD (V.length-1) []) x]):=SZ hα UG dd;have J:(((α++[bW (V.getD (V.length-1) []) x]).length:Nat):Int)=((α.length+1:Nat):Int):=by{simp};dsimp only;rw[aN,iP rfl,aA,w1,aA,J];by_cases G:((α.length+1:Nat):Int)=s;{refine⟨((α++[bW (V.getD (V.length-1) []) x],β,V,()),0,()),?_,?_,.inr ⟨rfl,by simp[h3],by simp;omega,⟨by simp;omega,by simp;omega⟩,hV,hα1,hβ⟩⟩;{rw[iP G]};{rw[iP G]}};{rw[af G,af G,q90 hM O K,bS,Nk O O rfl K K,bS];dsimp only;rw[Ux hM,bS,(SD vR).1,bS,Sw,bS,V4 vR];dsimp only;rw[show gZ (aE (cO (eH y y y.length)) (-2148)) 0=jM y from rfl];cases hz:A8 (jM y)with|true=>{exact⟨((α++[bW (V.getD (V.length-1) []) x],β,V,()),0,()),rfl,rfl,.inr ⟨rfl,by simp[h3],by simp;omega,⟨by simp;omega,by simp;omega⟩,hV,hα1,hβ⟩⟩}|false=>{rw[cond_false,cond_false,q9c hm O K.U vR,bS,A5 vR,bS,uH hm O K.U vR,bS,Xv vR,bS];dsimp only;by_cases fg:aT (jM y);{rw[decide_eq_true fg,show(!true)=false from rfl,cond_false,cond_false];cases hf:bq (lq y (jM y))with|false=>exact⟨(([],[],[],()),233,()),rfl,rfl,.inl ⟨rfl,by decide⟩⟩|true=>{rw[show(!true)=false from rfl,cond_false,cond_false,iP (by show _+1<=_;omega),iP (by show _+1<=_;omega),iP (by show _+1<=_;omega),iP (by show _+1<=_;omega)];have:=ih (α++[bW (V.getD (V.length-1) []) x]) (β++[jM y]) (V++[lq y (jM y)]) (by simp;omega) (by simp;omega) (by simp;omega) (by rw[J];omega) (λr hr=>by{rcases zX.1 hr with h|h;{exact hV r h};{rw[zC]at h;subst h;exact⟨Zj R7 hf,by rw[SN];exact y2⟩}}) hα1 (SZ hβ vR fg) n1 n2 O O;rw[J]at this;exact this}};{rw[decide_eq_false fg];exact⟨(([],[],[],()),233,()),rfl,rfl,.inl ⟨rfl,by decide⟩⟩}}}}};{rw[iP dd]at u;rw[decide_eq_false dd,u,bS];exact⟨(([],[],[],()),233,()),rfl,rfl,.inl ⟨rfl,by decide⟩⟩}};{rw[iP c]at u;rw[aN,af c,u,bS];refine⟨(([],[],[],()),e,()),?_,rfl,.inl ⟨rfl,c⟩⟩;dsimp only;rw[aN,af c]}}
end
def qq6 {m:Nat} (hM:dn<=m) {f0 f1 f2 f3 f4 f5:LI} {f6 e:Int} (c0:f0.length<=1000) (e0:wM m f0 f1 f2 f3 f4 f5 f6=some (e,(),())) (d0:Mj m f0 f1 f2 f3 f4 f5 f6=some (e,(),()))
 (hS:e=0->UX m f0.length f0 f1 f2 f3 f4 f5 f6) {st:LI} (J:UL st) (u:st.length<=1000) (s:Int):
 ∃r:EO,En m f0 f1 f2 f3 f4 f5 f6 st s=some (r,(),(),(),())/\Hz m f0 f1 f2 f3 f4 f5 f6 st s=some (r,(),(),(),())/\AN f0.length s r:=by have hm:=Xb hM;have G: ∀k:Int,k≠0->AN f0.length s (([],[],[],()),k,()):=λk hk=> .inl ⟨rfl,hk⟩;rw[En,XH,e0,bS,Hz,d0,bS];simp only[aN];by_cases c:e=0;{subst c;rw[iP rfl,iP rfl,iP rfl,St O J u,bS,UC O J u];dsimp only;by_cases Q:(st.length:Int)=(f0.length:Int);{rw[iP Q,bS];dsimp only;cases hf:bq st with|false=>{rw[cond_false,iP Q,bS];exact⟨(([],[],[],()),4,()),rfl,rfl,G 4 (by decide)⟩}|true=>{have K:=Zj J hf;rw[cond_true,Nk O u rfl K K,bS];dsimp only;rw[Ux hM,bS,iP Q,bS];simp only[bQ,show(!true)=false from rfl,cond_false];by_cases s1:s<1;{rw[iP s1,iP s1];exact⟨(([],[],[],()),350,()),rfl,rfl,G 350 (by decide)⟩};{rw[af s1,af s1];by_cases s2:s>16;{rw[iP s2,iP s2];exact⟨(([],[],[],()),350,()),rfl,rfl,G 350 (by decide)⟩};{rw[af s2,af s2,q90 hM u K,bS,(SD vR).1,bS,Sw,bS,V4 vR];dsimp only;rw[show gZ (aE (cO (eH st st st.length)) (-2148)) 0=jM st from rfl];cases hz:A8 (jM st)with|true=>exact⟨(([],[],[],()),380,()),rfl,rfl,G 380 (by decide)⟩|false=>{rw[cond_false,cond_false,A5 vR,bS,Xv vR,bS];dsimp only;by_cases fg:aT (jM st);{rw[decide_eq_true fg,show(!true)=false from rfl,cond_false,cond_false,q9c hm u J vR,bS,uH hm u J vR,bS];dsimp only;cases hd:bq (lq st (jM st))with|false=>exact⟨(([],[],[],()),233,()),rfl,rfl,G 233 (by decide)⟩|true=>{obtain⟨r,g1,g2,g3⟩:=qpk hM c0 (hS rfl) (s:=s) O [] [] [] [] [] [] 16 [] [] [lq st (jM st)] (by simp) (by simp) rfl (by simp;omega) (λx hx=>by{rw[zC]at hx;subst hx;exact⟨Zj R7 hd,by rw[SN];omega⟩}) Nv Nv m m O O;refine⟨r,?_,?_,g3⟩;{simp only[show(!true)=false from rfl,cond_false,bS,if_true];rw[g1];rfl};{simp only[show(!true)=false from rfl,cond_false];rw[show(0:Int)=(([]:LI).length:Int)from rfl,g2];rfl}}};{rw[decide_eq_false fg];exact⟨(([],[],[],()),233,()),rfl,rfl,G 233 (by decide)⟩}}}}}};{rw[af Q,bS];refine⟨(([],[],[],()),2,()),rfl,?_,G 2 (by decide)⟩;cases hf:bq st with|false=>rw[cond_false,af Q]|true=>{have K:=Zj J hf;rw[cond_true,Nk O u rfl K K,bS];dsimp only;rw[Ux hM,bS,af Q]}}};{rw[af c,af c,af c,bS];dsimp only;rw[af c];exact⟨(([],[],[],()),e,()),rfl,rfl,G e c⟩}
end Go.Vs.F
set_option maxRecDepth 100000
namespace Go.Vs.F
def A6 (l:LI):Nat->List Bool->Nat->Bool
 |0,_,_=>true
 |d+1,seen,k=>if l.getD k 0<0 then false else if l.getD k 0>=(l.length:Int)then false else if seen.getD (l.getD k 0).toNat false=true then false else A6 l d (seen.set (l.getD k 0).toNat true) (k+1)
def hH (l:LI):Bool:=A6 l l.length (List.replicate l.length false) 0
def qni {l:LI}: ∀{d:Nat} {seen:List Bool} {k:Nat},A6 l d seen k=true-> ∀i,k<=i->i<k+d->0<=l.getD i 0/\l.getD i 0<(l.length:Int)
 |0,seen,k,h,i,u,h2=>O
 |d+1,seen,k,h,i,u,h2=>by rw[A6]at h;split at h;{cases h};{split at h;{cases h};{split at h;{cases h};{rcases Nat.eq_or_lt_of_le u with e|e;{subst e;omega};{exact qni h i O O}}}}
def qmc {l:LI} (h:hH l=true): ∀i,i<l.length->0<=l.getD i 0/\l.getD i 0<(l.length:Int):=λi u=>qni h i O O
def qec (m:Nat) {l:LI} (hl:l.length<=1000): ∀(n d k:Nat) (seen:List Bool),d<n->k+d=l.length->seen.length=l.length->
 j3 m n l seen l (l.length:Int) (k:Int)=some (if A6 l d seen k=true then .inr (.inl ())else .inl (false,()))
 |0,d,k,seen,h,_,_=>absurd h (zA _)
 |n+1,0,k,seen,h,G,hs=>by{rw[j3,bQ,af O];rfl}
 |n+1,d+1,k,seen,h,G,hs=>by rw[j3,bQ,iP O,iP O,tN,bQ,A6];by_cases c1:l.getD k 0<0;{rw[iP c1,iP c1];rfl};{rw[af c1,af c1,bQ];by_cases u:l.getD k 0>=(l.length:Int);{rw[iP u,iP u];rfl};{rw[af u,af u,iP O,zH];cases J:seen.getD (l.getD k 0).toNat false with|true=>rfl|false=>{rw[cond_false,iP O,af (show¬(false=true) by decide),show wI ((k:Int)+1)=((k+1:Nat):Int)from ax O];exact qec m hl n d (k+1) _ O O (by rw[zU];exact hs)}}}
def qoc {m:Nat} (hm:2000000<m) {l:LI} (hl:l.length<=1000):Dd m l=some (hH l,(),()):=by have h:=qec m hl m l.length 0 (List.replicate l.length false) O O (by simp);rw[nZ]at h;rw[Dd,iP O,tN,h,bS];unfold hH;cases A6 l l.length (List.replicate l.length false) 0<;>rfl
def qi6 (m:Nat) {l:LI} (hl:l.length<=1000): ∀(n d k:Nat) (seen:List Bool),d<n->k+d=l.length->seen.length=l.length->
 ko m n l (l.length:Int) seen (k:Int)=some (if A6 l d seen k=true then .inr (.inl ())else .inl (false,()))
 |0,d,k,seen,h,_,_=>absurd h (zA _)
 |n+1,0,k,seen,h,G,hs=>by{rw[ko,bQ,af O];rfl}
 |n+1,d+1,k,seen,h,G,hs=>by rw[ko,bQ,iP O,iP O,tN,bQ,A6];by_cases c1:l.getD k 0<0;{rw[iP c1,iP c1];rfl};{rw[af c1,af c1,iP O,bQ];by_cases u:l.getD k 0>=(l.length:Int);{rw[iP u,iP u];rfl};{rw[af u,af u,iP O,iP O,zH];cases J:seen.getD (l.getD k 0).toNat false with|true=>rfl|false=>{rw[cond_false,iP O,iP O,af (show¬(false=true) by decide),show wI ((k:Int)+1)=((k+1:Nat):Int)from ax O];exact qi6 m hl n d (k+1) _ O O (by rw[zU];exact hs)}}}
def qir {m:Nat} (hm:2000000<m) {l:LI} (hl:l.length<=1000):Ak m l (l.length:Int)=some (hH l,(),(),()):=by have h:=qi6 m hl m l.length 0 (List.replicate l.length false) O O (by simp);rw[nZ]at h;rw[Ak,aN,iP rfl,iP O,tN,h,bS];unfold hH;cases A6 l l.length (List.replicate l.length false) 0<;>rfl
def pre (Z:LI):Nat->Int
 |0=>0
 |b+1=>pre Z b+Z.getD b 0
def a9 (Z:LI):Nat->Int
 |0=>0
 |b+1=>a9 Z b+(2*Z.getD b 0-1)
def sO (Z:LI) (b:Nat):Bool:=decide (Z.getD b 0=1\/Z.getD b 0=2)
def Xm {Z:LI} {b:Nat}:sO Z b=true↔(Z.getD b 0=1\/Z.getD b 0=2):=decide_eq_true_iff
def vS {Z:LI}: ∀{b:Nat},(∀i,i<b->sO Z i=true)->(b:Int)<=pre Z b/\pre Z b<=2*b/\(b:Int)<=a9 Z b/\a9 Z b<=3*b
 |0,h=>by simp[pre,a9]
 |b+1,h=>by have u:=vS (b:=b) λi G=>h i O;have:=Xm.1 (h b O);rw[pre,a9];omega
def Jc {Z:LI} {c:Nat} (h: ∀i,i<c->sO Z i=true): ∀{b:Nat},b<=c->pre Z b<=pre Z c/\a9 Z b<=a9 Z c:=by intro b hb;induction c with|zero=>{rw[show b=0 by omega];exact⟨E1 _,E1 _⟩}|succ c G=>{rcases fQ c b with u|u;{rw[show b=c+1 by omega];exact⟨E1 _,E1 _⟩};{have:=G (λi J=>h i O) u;have:=Xm.1 (h c O);rw[pre,a9];omega}}
def VH {Z:LI}: ∀{c:Nat},(∀i,i<c->sO Z i=true)-> ∀{j:Int},0<=j->j<pre Z c-> ∃b,b<c/\pre Z b<=j/\j<pre Z (b+1)
 |0,h,j,u,h2=>by rw[pre]at h2;omega
 |c+1,h,j,u,h2=>by by_cases hc:pre Z c<=j;{exact⟨c,O,hc,h2⟩};{obtain⟨b,a1,a2⟩:=VH (c:=c) (λi G=>h i O) u O;exact⟨b,O,a2⟩}
def PV (n:Nat) (Z D:LI):Prop:=(∀b,b<Z.length->sO Z b=true)/\(∀b,b<Z.length->pre Z b<(n:Int))/\pre Z Z.length=(n:Int)/\a9 Z Z.length=(D.length:Int)
instance (n:Nat) (Z D:LI):Decidable (PV n Z D):=inferInstanceAs (Decidable (_/\_))
section
variable {m:Nat} (hm:5000000000<=m) {f0 Z D S I W:LI} {f6:Int} (hz:Z.length<=1000) (h0:f0.length<=1000) (hd:D.length<=1000)
include hm hz h0 hd
theorem qby: ∀(n k:Nat),Z.length-k<n->k<=Z.length->(∀b,b<k->sO Z b=true)->(∀b,b<k->pre Z b<(f0.length:Int))->
 gu m n f0 Z D S I W f6 (c7 k (pre Z)) (pre Z k) (a9 Z k) Z (Z.length:Int) (k:Int)=
  some (if(∀b,b<Z.length->sO Z b=true)/\(∀b,b<Z.length->pre Z b<(f0.length:Int))then .inr (.inl ((f0,Z,D,S,I,W,f6,()),c7 Z.length (pre Z),pre Z Z.length,a9 Z Z.length,()))else .inl ([],false,()))
 |0,k,h,_,_,_=>absurd h (zA _)
 |n+1,k,h,Q,u,K=>by rw[gu,bQ];by_cases J:k<Z.length;{rw[iP O,iP O,tN];have bd:=vS u;have go:sO Z k=true->(bif decide (pre Z k>=(f0.length:Int))then some (.inl (([]:LI),false,()))else if(c7 k (pre Z)).length+([pre Z k]:LI).length<=1073741824 then gu m n f0 Z D S I W f6 (c7 k (pre Z)++([pre Z k]:LI)) (wI (pre Z k+Z.getD k 0)) (wI (a9 Z k+(wI ((wI (2*Z.getD k 0))-1)))) Z (Z.length:Int) (wI ((k:Int)+1)) else none)=some (if(∀b,b<Z.length->sO Z b=true)/\(∀b,b<Z.length->pre Z b<(f0.length:Int))then .inr (.inl ((f0,Z,D,S,I,W,f6,()),c7 Z.length (pre Z),pre Z Z.length,a9 Z Z.length,()))else .inl ([],false,())):=by{intro ho;have hv:=Xm.1 ho;rw[bQ];by_cases c:pre Z k>=(f0.length:Int);{rw[iP c,af (λq=>by have:=q.2 k J;omega)]};{rw[af c,iP (by show _+1<=_;rw[Qp];omega),qia,show wI (pre Z k+Z.getD k 0)=pre Z (k+1) by rw[wQ,wi O O];rfl,show wI (a9 Z k+wI (wI (2*Z.getD k 0)-1))=a9 Z (k+1) by{simp only[wQ];rw[wi (n:=2*Z.getD k 0) O O,wi (n:=2*Z.getD k 0-1) O O,wi O O];rfl},show wI ((k:Int)+1)=((k+1:Nat):Int)from ax O];exact qby n (k+1) O O (λb hb=>by{rcases fQ b k with h|h;{exact u b h};{rw[show b=k by omega];exact ho}}) (λb hb=>by{rcases fQ b k with h|h;{exact K b h};{rw[show b=k by omega];omega}})}};by_cases c1:Z.getD k 0=1;{rw[aN,iP c1];exact go (Xm.2 (.inl c1))};{rw[aN,af c1,aN];by_cases G:Z.getD k 0=2;{rw[iP G];exact go (Xm.2 (.inr G))};{rw[af G,af (λq=>by have:=Xm.1 (q.1 k J);omega)]}}};{have e:k=Z.length:=O;subst e;rw[af O,iP ⟨u,K⟩]}
theorem qku: ∃l,Db m f0 Z D S I W f6=some ((l,decide (PV f0.length Z D),()),(),())/\(PV f0.length Z D->l=c7 Z.length (pre Z)):=by have h:=qby hm hz h0 hd (S:=S) (I:=I) (W:=W) (f6:=f6) m 0 O O (λb hb=>absurd hb (zA _)) (λb hb=>absurd hb (zA _));rw[Db,show([]:LI)=c7 0 (pre Z)from rfl,show((0:Int))=((0:Nat):Int)from rfl];rw[show gu m m f0 Z D S I W f6 (c7 0 (pre Z)) ((0:Nat):Int) ((0:Nat):Int) Z (Z.length:Int) ((0:Nat):Int)=_ from h,bS];by_cases c:(∀b,b<Z.length->sO Z b=true)/\(∀b,b<Z.length->pre Z b<(f0.length:Int));{rw[iP c];dsimp only;rw[aA];refine⟨c7 Z.length (pre Z),?_,λ_=>rfl⟩;by_cases d:pre Z Z.length=(f0.length:Int);{rw[iP d];congr 4;by_cases e:a9 Z Z.length=(D.length:Int);{rw[decide_eq_true (show PV f0.length Z D from⟨c.1,c.2,d,e⟩)];simpa using e};{rw[decide_eq_false (λq:PV f0.length Z D=>e q.2.2.2)];simpa using e}};{rw[af d,decide_eq_false (λq:PV f0.length Z D=>d q.2.2.1)]}};{rw[af c];have hn: ¬PV f0.length Z D:=λq=>c ⟨q.1,q.2.1⟩;exact⟨[],by rw[decide_eq_false hn],λq=>absurd q hn⟩}
end
end Go.Vs.F
set_option maxRecDepth 100000
namespace Go.Vs.F
def pT (Z:LI) (b:Nat):Int:=pre Z b+Z.getD b 0-1
def ku (n:Int) (last:Int) (S I:LI) (j:Nat):Bool:=decide (S.getD j 0<=S.getD (j+1) 0)&&decide (S.getD (j+1) 0<=(I.length:Int))&&gF n last (dS S I j)
def pq (n:Int) (Z S I:LI) (b:Nat):Bool:=ql (ku n (pT Z b) S I) (pre Z b).toNat (pre Z (b+1)).toNat
def sj (n last:Int) (S I:LI) (j c:Nat):Bool:=decide (last<I.getD c 0)&&decide (I.getD c 0<n)&&(!decide ((S.getD j 0).toNat<c)||decide (I.getD (c-1) 0<I.getD c 0))
def qr5 (R last:Int) (I:LI) (s e:Nat) (he:e<=I.length): ∀(d k:Nat) (l:Int),e-k=d->s<=k->last<=l->(k=s->l=last)->(s<k->l=I.getD (k-1) 0)->
 gF R l ((I.drop k).take (e-k))=ql (λk=>decide (last<I.getD k 0)&&decide (I.getD k 0<R)&&(!decide (s<k)||decide (I.getD (k-1) 0<I.getD k 0))) k e
 |0,k,l,hd,hk,hl,Q,h2=>by{rw[hd,Q5 O];simp[gF]}
 |d+1,k,l,hd,hk,hl,Q,h2=>by have J:k<e:=O;have G:k<I.length:=O;rw[qy J,cq (d:=0) G,hd,RF,gF];by_cases u:l<I.getD k 0;{have K:=qr5 R last I s e he d (k+1) (I.getD k 0) O O O O (λ_=>by simp);rw[show e-(k+1)=d by omega]at K;rw[K];have h0:last<I.getD k 0:=O;by_cases hs:s<k;{have:=h2 hs;simp[-List.getD_eq_getElem?_getD,u,h0,hs,<-this]};{simp[-List.getD_eq_getElem?_getD,u,h0,hs]}};{by_cases hs:s<k;{have:=h2 hs;simp[-List.getD_eq_getElem?_getD,u,hs,<-this]};{have:l=last:=Q O;have h0: ¬last<I.getD k 0:=O;simp[-List.getD_eq_getElem?_getD,u,h0]}}
def qo1 {n last:Int} {C:Nat} {S I:LI} (h:bO C S I) {j:Nat} (u:j<C):gF n last (dS S I j)=ql (sj n last S I j) (S.getD j 0).toNat (S.getD (j+1) 0).toNat:=by have a:=h.rng (j:=j) O;have b:=h.rng (j:=j+1) O;exact qr5 n last I _ _ O _ _ _ rfl (zJ _) (E1 _) (λ_=>rfl) (λh=>absurd h (Rk _))
section
variable {m:Nat} (hm:5000000000<=m) {f0 Z D S I W:LI} {f6:Int} (hz:Z.length<=1000) (h0:f0.length<=1000) (hS:S.length=f0.length+1) (hI:I.length<=100000)
include hm hz h0 hS hI
theorem Z6 (K t8 Q:Int) (J:LI) (G u:Int) {X:LI} (hX:X.length<=100000): ∀(n k:Nat) (l:Int),X.length-k<n->k<=X.length->
 mG m n f0 Z D S I W f6 K t8 Q l J G u X (X.length:Int) (k:Int)=some (if gF K l (X.drop k)=true then .inr (.inl ((f0,Z,D,S,I,W,f6,()),K,t8,Q,J,G,u,()))else .inl (false,()))
 |0,k,l,h,_=>absurd h (zA _)
 |n+1,k,l,h,c0=>by rw[mG,bQ];by_cases hk:k<X.length;{rw[iP O,iP O,tN,bQ,cq (d:=0) hk,gF];by_cases c1:X.getD k 0<=l;{rw[iP c1,af (by rw[decide_eq_false O];simp)]};{rw[af c1,bQ,decide_eq_true (show l<X.getD k 0 by omega)];by_cases c2:X.getD k 0>=K;{rw[iP c2,af (by rw[decide_eq_false O];simp)]};{rw[af c2,decide_eq_true (show X.getD k 0<K by omega),show wI ((k:Int)+1)=((k+1:Nat):Int)from ax O,Z6 K t8 Q J G u hX n (k+1) (X.getD k 0) O O];simp only[lr]}}};{rw[af O,Be O,gF,iP rfl]}
theorem qrj (J:LI) (G u:Int) (c0:S.getD 0 0=0) {e:Nat} (he:e<=f0.length): ∀(n j:Nat),e-j<n->j<=e->(∀i,i<j->S.getD i 0<=S.getD (i+1) 0)->
 mH m n f0 Z D S I W f6 (f0.length:Int) ((e:Int)-1) (j:Int) J G u=some (if ql (ku (f0.length:Int) ((e:Int)-1) S I) j e=true then .inr (.inl ((f0,Z,D,S,I,W,f6,()),(f0.length:Int),J,G,u,()))else .inl (false,()))
 |0,j,h,_,_=>absurd h (zA _)
 |n+1,j,h,e0,hmono=>by rw[mH,bQ];by_cases hj:j<e;{have K: ∀i,i<=j->0<=S.getD i 0:=by{intro i;induction i with|zero=>{intro _;omega}|succ i ih=>{intro hi;have:=ih O;have:=hmono i O;omega}};have d0:=K j (zJ _);have w1:wI ((j:Int)+1)=((j+1:Nat):Int):=ax O;rw[iP O,iP O,w1,iP O,tN,tN,bQ,qy hj];unfold ku;by_cases c1:S.getD j 0>S.getD (j+1) 0;{rw[iP c1,af (by rw[decide_eq_false (show¬(S.getD j 0<=S.getD (j+1) 0) by omega)];simp)]};{rw[af c1,iP O,bQ,decide_eq_true (show S.getD j 0<=S.getD (j+1) 0 by omega)];by_cases c2:S.getD (j+1) 0>(I.length:Int);{rw[iP c2,af (by rw[decide_eq_false (show¬(S.getD (j+1) 0<=(I.length:Int)) by omega)];simp)]};{have Q:((I.drop (S.getD j 0).toNat).take ((S.getD (j+1) 0).toNat-(S.getD j 0).toNat)).length<=100000:=by{rw[zT,iA];omega};have h2:=Z6 hm hz h0 hS hI (f6:=f6) (D:=D) (W:=W) (f0.length:Int) ((e:Int)-1) (j:Int) J G u Q m 0 ((e:Int)-1) O O;rw[nZ,i6]at h2;rw[af c2,iP O,iP O,iP O,h2,bS,decide_eq_true (show S.getD (j+1) 0<=(I.length:Int) by omega)];have ec:(I.drop (S.getD j 0).toNat).take ((S.getD (j+1) 0).toNat-(S.getD j 0).toNat)=dS S I j:=rfl;rw[ec];cases hc:gF (f0.length:Int) ((e:Int)-1) (dS S I j)with|false=>rfl|true=>{rw[iP rfl];dsimp only;rw[w1,qrj J G u c0 he n (j+1) O O (λi hi=>by{rcases fQ i j with h|h;{exact hmono i h};{rw[show i=j by omega];omega}})];rfl}}}};{rw[af O,Q5 hj,iP rfl]}
theorem ZO (u:S.getD 0 0=0) (hP:PV f0.length Z D): ∀(n b:Nat),Z.length-b<n->b<=Z.length->(∀i:Nat,(i:Int)<pre Z b->S.getD i 0<=S.getD (i+1) 0)->
 mI m n f0 Z D S I W f6 (f0.length:Int) (c7 Z.length (pre Z)) (Z.length:Int) (b:Int)=some (if ql (pq (f0.length:Int) Z S I) b Z.length=true then .inr (.inl ())else .inl (false,()))
 |0,b,h,_,_=>absurd h (zA _)
 |n+1,b,h,c0,hmono=>by rw[mI,bQ];by_cases hb:b<Z.length;{have hv:=Xm.1 (hP.1 b hb);have bd:=vS (b:=b) λi J=>hP.1 i O;have Q:=Jc (c:=Z.length) hP.1 (b:=b+1) O;have hn:=hP.2.2.1;have e1:pre Z (b+1)=pre Z b+Z.getD b 0:=rfl;obtain⟨k,G⟩: ∃k:Nat,pre Z b=(k:Int):=⟨(pre Z b).toNat,O⟩;obtain⟨e,he⟩: ∃e:Nat,pre Z (b+1)=(e:Int):=⟨(pre Z (b+1)).toNat,O⟩;have K:wI (wI (pre Z b+Z.getD b 0)-1)=(e:Int)-1:=by{simp only[wQ];rw[wi (n:=pre Z b+Z.getD b 0) O O,wi O O];omega};rw[iP O,iP (by rw[Qp];omega),iP O,tN,J4 hb,K,G,qrj hm hz h0 hS hI _ _ _ u (e:=e) O m k O O (λi J=>hmono i O),bS,qy hb];have ef:pq (f0.length:Int) Z S I b=ql (ku (f0.length:Int) ((e:Int)-1) S I) k e:=by{unfold pq pT;rw[he,G,tN,tN,show(k:Int)+Z.getD b 0-1=(e:Int)-1 by omega]};rw[ef];cases hc:ql (ku (f0.length:Int) ((e:Int)-1) S I) k e with|false=>rfl|true=>{rw[iP rfl];dsimp only;rw[show wI ((b:Int)+1)=((b+1:Nat):Int)from ax O,ZO u hP n (b+1) O O (λi J=>by{rcases fQ i k with h|h;{exact hmono i O};{have:=qx.1 hc i h O;unfold ku at this;simp only[zM,decide_eq_true_eq]at this;exact this.1.1}})];simp only[lr]}};{rw[af O,Q5 hb,iP rfl]}
def CF (n:Nat) (Z S I:LI):Prop:=S.getD 0 0=0/\S.getD n 0=(I.length:Int)/\ql (pq (n:Int) Z S I) 0 Z.length=true
instance (n:Nat) (Z S I:LI):Decidable (CF n Z S I):=inferInstanceAs (Decidable (_/\_))
theorem ZP (hP:PV f0.length Z D):C9 m f0 Z D S I W f6 (c7 Z.length (pre Z))=some (decide (CF f0.length Z S I),(),(),()):=by rw[C9,iP O,aN];by_cases c1:S.getD 0 0=0;{rw[iP c1,iP O,tN,aN];by_cases u:S.getD f0.length 0=(I.length:Int);{have h:=ZO hm hz h0 hS hI (W:=W) (f6:=f6) c1 hP m 0 O O (λi G=>by simp only[pre]at G;omega);rw[nZ]at h;rw[iP u,Qp,h,bS];cases hc:ql (pq (f0.length:Int) Z S I) 0 Z.length with|true=>rw[iP rfl,decide_eq_true (show CF f0.length Z S I from⟨c1,u,hc⟩)]|false=>{rw[af (by decide),decide_eq_false (λq:CF f0.length Z S I=>by have:=q.2.2;rw[hc]at this;cases this)]}};{rw[af u,decide_eq_false (λq:CF f0.length Z S I=>u q.2.1)]}};{rw[af c1,decide_eq_false (λq:CF f0.length Z S I=>c1 q.1)]}
end
end Go.Vs.F
set_option maxRecDepth 100000
namespace Go.Vs.F
section
variable {m:Nat} (hm:5000000000<=m) {f0 Z D S I W:LI} {f6:Int} (hz:Z.length<=1000) (h0:f0.length<=1000) (hS:S.length=f0.length+1) (hI:I.length<=100000)
include hm h0 hS
theorem qrd: ∀(n i:Nat),f0.length-i<n->i<=f0.length->
 mw m n S (f0.length:Int) (i:Int)=some (if ql (vU S) i f0.length=true then .inr (.inl ())else .inl (false,()))
 |0,i,h,_=>absurd h (zA _)
 |n+1,i,h,J=>by rw[mw,bQ];by_cases u:i<f0.length;{have G:wI ((i:Int)+1)=((i+1:Nat):Int):=ax O;rw[iP O,iP O,G,iP O,tN,tN,bQ,qy u];unfold vU;by_cases c:S.getD i 0>S.getD (i+1) 0;{rw[iP c,af (by rw[decide_eq_false (show¬(S.getD i 0<=S.getD (i+1) 0) by omega)];simp)]};{rw[af c,decide_eq_true (show S.getD i 0<=S.getD (i+1) 0 by omega),qrd n (i+1) O O,lr];rfl}};{rw[af O,Q5 u,iP rfl]}
def Bb (n:Nat) (S I:LI):Prop:=S.getD 0 0=0/\S.getD n 0=(I.length:Int)/\ql (vU S) 0 n=true
instance (n:Nat) (S I:LI):Decidable (Bb n S I):=inferInstanceAs (Decidable (_/\_))
omit hm h0 in
theorem Bb.start (h:Bb f0.length S I):bO f0.length S I:=⟨hS,h.1,λj u=>by have:=qx.1 h.2.2 j O u;unfold vU at this;simpa using this,h.2.1⟩
theorem qvb:CQ m S (f0.length:Int) (I.length:Int)=some (decide (Bb f0.length S I),(),(),(),()):=by have G:wI ((f0.length:Int)+1)=((f0.length+1:Nat):Int):=by{rw[wQ,wi O O];omega};rw[CQ,G,aN,iP O,iP O,aN];by_cases c1:S.getD 0 0=0;{rw[iP c1,iP O,tN,aN];by_cases u:S.getD f0.length 0=(I.length:Int);{have h:=qrd hm h0 hS m 0 O O;rw[nZ]at h;rw[iP u,h,bS];cases hc:ql (vU S) 0 f0.length with|true=>rw[iP rfl,decide_eq_true (show Bb f0.length S I from⟨c1,u,hc⟩)]|false=>{rw[af (by decide),decide_eq_false (λq:Bb f0.length S I=>by have:=q.2.2;rw[hc]at this;cases this)]}};{rw[af u,decide_eq_false (λq:Bb f0.length S I=>u q.2.1)]}};{rw[af c1,decide_eq_false (λq:Bb f0.length S I=>c1 q.1)]}
include hz hI
theorem ZS (G:bO f0.length S I) (K J last:Int) {j:Nat} (hj:j<f0.length): ∀(n c:Nat),(S.getD (j+1) 0).toNat-c<n->(S.getD j 0).toNat<=c->c<=(S.getD (j+1) 0).toNat->
 km m n f0 Z D S I W f6 (f0.length:Int) K J last (j:Int) (c:Int)=some (if ql (sj (f0.length:Int) last S I j) c (S.getD (j+1) 0).toNat=true then .inr (.inl ((f0,Z,D,S,I,W,f6,()),(f0.length:Int),K,J,last,(j:Int),()))else .inl (false,()))
 |0,c,h,_,_=>absurd h (zA _)
 |n+1,c,h,d0,c0=>by have a:=G.rng (j:=j) O;have b:=G.rng (j:=j+1) O;have w1:wI ((j:Int)+1)=((j+1:Nat):Int):=ax O;rw[km,w1,iP O,tN,tN,tN,bQ];by_cases Q:c<(S.getD (j+1) 0).toNat;{rw[iP O,iP O,bQ,qy Q];have u:=ZS G K J last hj n (c+1) O O O;unfold sj;by_cases c1:I.getD c 0<=last;{rw[iP c1,af (by rw[decide_eq_false (show¬(last<I.getD c 0) by omega)];simp)]};{rw[af c1,iP O,bQ,decide_eq_true (show last<I.getD c 0 by omega)];by_cases c2:I.getD c 0>=(f0.length:Int);{rw[iP c2,af (by rw[decide_eq_false (show¬(I.getD c 0<(f0.length:Int)) by omega)];simp)]};{rw[af c2,iP O,bQ,decide_eq_true (show I.getD c 0<(f0.length:Int) by omega)];by_cases c3:(c:Int)>S.getD j 0;{have w2:wI ((c:Int)-1)=((c-1:Nat):Int):=by{rw[wQ,wi O O];omega};rw[iP c3,w2,iP O,iP O,tN,bQ,decide_eq_true (show(S.getD j 0).toNat<c by omega)];by_cases c4:I.getD c 0<=I.getD (c-1) 0;{rw[iP c4,af (by rw[decide_eq_false (show¬(I.getD (c-1) 0<I.getD c 0) by omega)];simp)]};{rw[af c4,decide_eq_true (show I.getD (c-1) 0<I.getD c 0 by omega),show wI ((c:Int)+1)=((c+1:Nat):Int)from ax O,u];simp only[uB,AQ,Bf,lr];rfl}};{rw[af c3,decide_eq_false (show¬(S.getD j 0).toNat<c by omega),show wI ((c:Int)+1)=((c+1:Nat):Int)from ax O,u];simp only[Bh,Mt,Bf,lr];rfl}}}};{rw[af O,Q5 Q,iP rfl]}
theorem Zs (u:bO f0.length S I) (J G:Int) {e:Nat} (he:e<=f0.length): ∀(n j:Nat),e-j<n->j<=e->
 iS m n f0 Z D S I W f6 (f0.length:Int) J G ((e:Int)-1) (j:Int)=some (if ql (ku (f0.length:Int) ((e:Int)-1) S I) j e=true then .inr (.inl ((f0,Z,D,S,I,W,f6,()),(f0.length:Int),J,G,(e:Int)-1,()))else .inl (false,()))
 |0,j,h,_=>absurd h (zA _)
 |n+1,j,h,c0=>by rw[iS,bQ];by_cases K:j<e;{have a:=u.rng (j:=j) O;have b:=u.rng (j:=j+1) O;have Q:=u.mono j O;have h2:=ZS hm hz h0 hS hI (Z:=Z) (D:=D) (W:=W) (f6:=f6) u J G ((e:Int)-1) (j:=j) O m (S.getD j 0).toNat O O O;rw[show(((S.getD j 0).toNat:Nat):Int)=S.getD j 0 by omega]at h2;rw[iP O,iP O,tN,h2,bS,qy K];have ec:ku (f0.length:Int) ((e:Int)-1) S I j=ql (sj (f0.length:Int) ((e:Int)-1) S I j) (S.getD j 0).toNat (S.getD (j+1) 0).toNat:=by{unfold ku;rw[decide_eq_true Q,decide_eq_true b.2,qo1 u O];rfl};rw[ec];cases hc:ql (sj (f0.length:Int) ((e:Int)-1) S I j) (S.getD j 0).toNat (S.getD (j+1) 0).toNat with|false=>rfl|true=>{rw[iP rfl];dsimp only;rw[show wI ((j:Int)+1)=((j+1:Nat):Int)from ax O,Zs u J G he n (j+1) O O,lr]}};{rw[af O,Q5 K,iP rfl]}
def gX (n:Int) (Z S I:LI) (b:Nat):Bool:=sO Z b&&decide (pre Z (b+1)<=n)&&pq n Z S I b
theorem qre (G:bO f0.length S I): ∀(n b:Nat),Z.length-b<n->b<=Z.length->(∀i,i<b->sO Z i=true)->
 iT m n f0 Z D S I W f6 (f0.length:Int) (pre Z b) (a9 Z b) (b:Int)=some (if ql (gX (f0.length:Int) Z S I) b Z.length=true then .inr (.inl ((f0,Z,D,S,I,W,f6,()),(f0.length:Int),pre Z Z.length,a9 Z Z.length,()))else .inl (false,()))
 |0,b,h,_,_=>absurd h (zA _)
 |n+1,b,h,c0,J=>by rw[iT,bQ];by_cases hb:b<Z.length;{have bd:=vS J;have e1:pre Z (b+1)=pre Z b+Z.getD b 0:=rfl;have go:sO Z b=true->(bif decide ((wI (pre Z b+(Z.getD b 0)))>(f0.length:Int))then some (.inl (false,())) else if(0:Int)<=(b:Int)/\(b:Int)<(Z.length:Int)then (iS m m f0 Z D S I W f6 (f0.length:Int) (a9 Z b) (b:Int) (wI ((wI (pre Z b+(Z.getD b 0)))-1)) (pre Z b)).bind λy1=> match y1 with| .inl z2=> some (.inl (z2.1,()))| .inr (.inl u)=> if(0:Int)<=u.2.2.2.1/\u.2.2.2.1<(u.1.2.1.length:Int)then iT m n u.1.1 u.1.2.1 u.1.2.2.1 u.1.2.2.2.1 u.1.2.2.2.2.1 u.1.2.2.2.2.2.1 u.1.2.2.2.2.2.2.1 u.2.1 (wI (u.2.2.2.2.1+1)) (wI ((wI (u.2.2.1+(wI (2*(u.1.2.1.getD u.2.2.2.1.toNat 0)))))-1)) (wI (u.2.2.2.1+1)) else none| .inr (.inr e)=> e.elim else none)=some (if ql (gX (f0.length:Int) Z S I) b Z.length=true then .inr (.inl ((f0,Z,D,S,I,W,f6,()),(f0.length:Int),pre Z Z.length,a9 Z Z.length,()))else .inl (false,())):=by{intro ho;have hv:=Xm.1 ho;have w0:wI (pre Z b+Z.getD b 0)=pre Z (b+1):=by{rw[wQ,wi O O];rfl};have w1:wI (pre Z (b+1)-1)=pre Z (b+1)-1:=by{rw[wQ,wi O O]};rw[w0,bQ,qy hb];unfold gX;rw[ho];by_cases c:pre Z (b+1)>(f0.length:Int);{rw[iP c,decide_eq_false (show¬(pre Z (b+1)<=(f0.length:Int)) by omega),af (by simp)]};{obtain⟨k,Q⟩: ∃k:Nat,pre Z b=(k:Int):=⟨(pre Z b).toNat,O⟩;obtain⟨e,he⟩: ∃e:Nat,pre Z (b+1)=(e:Int):=⟨(pre Z (b+1)).toNat,O⟩;have ef:pq (f0.length:Int) Z S I b=ql (ku (f0.length:Int) ((e:Int)-1) S I) k e:=by{unfold pq pT;rw[he,Q,tN,tN,show(k:Int)+Z.getD b 0-1=(e:Int)-1 by omega]};rw[af c,decide_eq_true (show pre Z (b+1)<=(f0.length:Int) by omega),iP O,w1,he,Q,Zs hm hz h0 hS hI G _ _ (e:=e) O m k O O,bS,ef];cases hc:ql (ku (f0.length:Int) ((e:Int)-1) S I) k e with|false=>rfl|true=>{rw[iP rfl];dsimp only;have w2:wI (wI (a9 Z b+wI (2*Z.getD b 0))-1)=a9 Z (b+1):=by{simp only[wQ];rw[wi (n:=2*Z.getD b 0) O O,wi (n:=a9 Z b+2*Z.getD b 0) O O,wi O O,a9];omega};have w3:wI ((e:Int)-1+1)=pre Z (b+1):=by{rw[wQ,wi O O];omega};rw[iP O,tN,w2,w3,show wI ((b:Int)+1)=((b+1:Nat):Int)from ax O,qre G n (b+1) O O (λi hi=>by{rcases fQ i b with h|h;{exact J i h};{rw[show i=b by omega];exact ho}})];simp only[lr];rfl}}};rw[iP O,iP O,tN,aN,aN];by_cases c1:Z.getD b 0=1;{rw[iP c1,iP O];exact go (Xm.2 (.inl c1))};{rw[af c1,iP O];by_cases K:Z.getD b 0=2;{rw[iP K,iP O];exact go (Xm.2 (.inr K))};{rw[af K,qy hb];have:sO Z b=false:=decide_eq_false O;unfold gX;rw[this,af (by simp)]}}};{have e:b=Z.length:=O;subst e;rw[af O,Q5 hb,iP rfl]}
def vA (n:Nat) (Z D S I:LI) (f6:Int):Prop:=0<=f6/\Bb n S I/\ql (gX (n:Int) Z S I) 0 Z.length=true/\pre Z Z.length=(n:Int)/\a9 Z Z.length=(D.length:Int)
instance (n:Nat) (Z D S I:LI) (f6:Int):Decidable (vA n Z D S I f6):=inferInstanceAs (Decidable (_/\_))
theorem qe1:Et m f0 Z D S I W f6=some (decide (vA f0.length Z D S I f6),(),()):=by rw[Et,bQ];by_cases c:f6<0;{rw[iP c,decide_eq_false (λq:vA f0.length Z D S I f6=>by have:=q.1;omega)]};{rw[af c,qvb hm h0 hS,bS];dsimp only;by_cases u:Bb f0.length S I;{have h:=qre hm hz h0 hS hI (D:=D) (W:=W) (f6:=f6) (u.start hS) m 0 O O (λi G=>absurd G (zA _));rw[nZ,show pre Z 0=0 from rfl,show a9 Z 0=0 from rfl]at h;rw[decide_eq_true u,show(!true)=false from rfl,cond_false,h,bS];cases hw:ql (gX (f0.length:Int) Z S I) 0 Z.length with|false=>{rw[af (by decide),decide_eq_false (λq:vA f0.length Z D S I f6=>by have:=q.2.2.1;rw[hw]at this;cases this)]}|true=>{rw[iP rfl];dsimp only;rw[aA];by_cases d:pre Z Z.length=(f0.length:Int);{rw[iP d];congr 2;by_cases e:a9 Z Z.length=(D.length:Int);{rw[decide_eq_true (show vA f0.length Z D S I f6 from⟨O,u,hw,d,e⟩)];simpa using e};{rw[decide_eq_false (λq:vA f0.length Z D S I f6=>e q.2.2.2.2)];simpa using e}};{rw[af d,decide_eq_false (λq:vA f0.length Z D S I f6=>d q.2.2.2.1)]}}};{rw[decide_eq_false u,decide_eq_false (λq:vA f0.length Z D S I f6=>u q.2.1)];rfl}}
omit hm hz h0 hI in
theorem Sx:vA f0.length Z D S I f6↔(PV f0.length Z D/\0<=f6/\CF f0.length Z S I):=by constructor;{rintro ⟨G,h2,h3,h4,h5⟩;have hw:=qx.1 h3;have u: ∀b,b<Z.length->sO Z b=true:=λb hb=>by{have:=hw b O hb;unfold gX at this;simp only[zM]at this;exact this.1.1};refine⟨⟨u,λb hb=> ?_,h4,h5⟩,G,h2.1,h2.2.1,qx.2 λb _ hb=> ?_⟩;{have:=hw b O hb;unfold gX at this;simp only[zM,decide_eq_true_eq]at this;have Q:=this.1.2;have h7:=Xm.1 (u b hb);rw[pre]at Q;omega};{have:=hw b O hb;unfold gX at this;simp only[zM]at this;exact this.2}};{rintro ⟨⟨a1,a2,a3,a4⟩,G,c1,c2,c3⟩;have J:=qx.1 c3;refine⟨G,⟨c1,c2,qx.2 λi _ K=> ?_⟩,qx.2 λb _ hb=> ?_,a3,a4⟩;{obtain⟨b,b1,b2,b3⟩:=VH a1 (j:=(i:Int)) O O;have bd:=vS (b:=b) λi K=>a1 i O;have:=J b O b1;unfold pq at this;have:=qx.1 this i O O;unfold ku at this;simp only[zM,decide_eq_true_eq]at this;unfold vU;exact decide_eq_true this.1.1};{unfold gX;rw[a1 b hb,J b O hb,decide_eq_true (show pre Z (b+1)<=(f0.length:Int)from by have:=(Jc (c:=Z.length) a1 (b:=b+1) O).1;omega)];rfl}}
end
end Go.Vs.F
set_option maxRecDepth 100000
namespace Go.Vs.F
def Wh {l:LI} {k:Nat} (u:k<l.length):ql (λi=>decide (aT (l.getD i 0))) k l.length=(decide (aT (l.getD k 0))&&ql (λi=>decide (aT (l.getD i 0))) (k+1) l.length):=qy u
abbrev DyR:=Bool×(Bool×LI)×Int
def fI (D Z:LI) (b:Nat):List DyR:=(List.range (2*Z.getD b 0-1).toNat).map λi=>Az (fp (D.getD ((a9 Z b).toNat+i) 0))
def pt (D:LI) (k:Nat):Int:=aM (D.getD k 0)*aM (D.getD (k+2) 0)-aM (D.getD (k+1) 0)*aM (D.getD (k+1) 0)
def nT (D Z:LI) (b:Nat):Bool:= !(decide (Z.getD b 0=2)&&decide (pt D (a9 Z b).toNat=0))
def qlo {D:LI} {k:Nat} (h: ∀i,i<3->aT (D.getD (k+i) 0)):b7 (pt D k) (-2148):=by have h0:=h 0 O;have u:=h 1 O;have h2:=h 2 O;refine qra ?_;unfold pt;have a:=qiw h0 h2;have b:=qiw u u;have:=Zu (a:=aM (D.getD (k+0) 0)*aM (D.getD (k+2) 0)) (b:= -(aM (D.getD (k+1) 0)*aM (D.getD (k+1) 0))) a (by rw[xi];exact b);rw[<-Int.sub_eq_add_neg,zQ]at this;omega
section
variable {m:Nat} (hm:5000000000<=m)
include hm
theorem UV {z e:Int} (h:b7 z e):tW m (aE z e).1 (aE z e).2.1 (aE z e).2.2.1 (aE z e).2.2.2.1=some (sgn z,(),()):=by rw[tW,X4 O,bS];dsimp only;rw[show(aE z e).1=false from h,cond_false,Mc O h,bS]
variable {f0 Z D S I W:LI} {f6:Int} (hz:Z.length<=1000) (h0:f0.length<=1000) (hd:D.length<=3000) (hw:W.length<=100000) (uD:UL D) (uW:UL W)
include hz h0 hd hw uD uW
theorem Um (J:List LI) (G u:Int) {X:LI} (hX:X.length<=100000) (Q:UL X): ∀(n k:Nat),X.length-k<n->k<=X.length->
 nt m n f0 Z D S I W f6 J G u X (X.length:Int) (k:Int)=some (if ql (λi=>decide (aT (X.getD i 0))) k X.length=true then .inr (.inl ((f0,Z,D,S,I,W,f6,()),J,G,u,()))else .inl (4,()))
 |0,k,h,_=>absurd h (zA _)
 |n+1,k,h,c0=>by rw[nt,bQ];by_cases K:k<X.length;{rw[iP O,iP O,tN,A5 (Q k K),bS,Wh K];dsimp only;by_cases c:aT (X.getD k 0);{rw[decide_eq_true c,show(!true)=false from rfl,cond_false,show wI ((k:Int)+1)=((k+1:Nat):Int)from ax O,Um J G u hX Q n (k+1) O O,lr]};{rw[decide_eq_false c];rfl}};{rw[af O,Q5 K,iP rfl]}
theorem qv8:iU m m f0 Z D S I W f6 [W,D] 2 0=some (if bq W=true/\bq D=true then .inr (.inl ((f0,Z,D,S,I,W,f6,()),()))else .inl (4,())):=by obtain⟨k,rfl⟩: ∃k,m=k+3:=⟨m-3,O⟩;have u:=Um hm hz h0 hd hw uD uW (f6:=f6) (S:=S) (I:=I) (f0:=f0) (Z:=Z) [W,D] 2 0 hw uW (k+3) 0 O O;have h2:=Um hm hz h0 hd hw uD uW (f6:=f6) (S:=S) (I:=I) (f0:=f0) (Z:=Z) [W,D] 2 1 (show D.length<=100000 by omega) uD (k+3) 0 O O;rw[nZ]at u h2;have J:([W,D]:List LI).getD (0+(0:Int).toNat) []=W:=rfl;have G:([W,D]:List LI).getD (0+(1:Int).toNat) []=D:=rfl;rw[iU,bQ,iP O,iP (by simp),J,u,bS,show ql (λi=>decide (aT (W.getD i 0))) 0 W.length=bq W from rfl];cases Q:bq W with|false=>rw[af (by decide),af (λq=>by cases q.1)]|true=>{rw[iP rfl];dsimp only;rw[show wI (0+1)=1 from by rw[wQ,wi O O];rfl,iU,bQ,iP O,iP (by simp),G,h2,bS,show ql (λi=>decide (aT (D.getD i 0))) 0 D.length=bq D from rfl];cases K:bq D with|false=>rw[af (by decide),af (λq=>by cases q.2)]|true=>{rw[iP rfl,iP ⟨rfl,rfl⟩];dsimp only;rw[show wI (1+1)=2 from by rw[wQ,wi O O];rfl,iU,bQ,af O]}}
theorem qkh: ∀(n k:Nat),W.length-k<n->k<=W.length->
 ri m n f0 Z D S I W f6 (k:Int)=some (if ql (λi=>decide (aT (W.getD i 0))) k W.length=true then .inr (.inl ((f0,Z,D,S,I,W,f6,()),()))else .inl (4,()))
 |0,k,h,_=>absurd h (zA _)
 |n+1,k,h,G=>by rw[ri,bQ];by_cases u:k<W.length;{rw[iP O,iP O,tN,Xv (uW k u),bS,Wh u];dsimp only;by_cases c:aT (W.getD k 0);{rw[decide_eq_true c,show(!true)=false from rfl,cond_false,show wI ((k:Int)+1)=((k+1:Nat):Int)from ax O,qkh n (k+1) O O,lr]};{rw[decide_eq_false c];rfl}};{rw[af O,Q5 u,iP rfl]}
theorem qm6: ∀(n k:Nat),D.length-k<n->k<=D.length->
 rh m n f0 Z D S I W f6 (k:Int)=some (if ql (λi=>decide (aT (D.getD i 0))) k D.length=true then .inr (.inl ((f0,Z,D,S,I,W,f6,()),()))else .inl (4,()))
 |0,k,h,_=>absurd h (zA _)
 |n+1,k,h,G=>by rw[rh,bQ];by_cases u:k<D.length;{rw[iP O,iP O,tN,Xv (uD k u),bS,Wh u];dsimp only;by_cases c:aT (D.getD k 0);{rw[decide_eq_true c,show(!true)=false from rfl,cond_false,show wI ((k:Int)+1)=((k+1:Nat):Int)from ax O,qm6 n (k+1) O O,lr]};{rw[decide_eq_false c];rfl}};{rw[af O,Q5 u,iP rfl]}
theorem qo4 (out:List (List DyR)) (G u:Int) {b:Nat} (hl:b<=1000) {N:Nat} (hN:N<=3) {p:Nat} (J:p+N<=D.length): ∀(n k:Nat),N-k<n->k<=N->
 mE m n f0 Z D S I W f6 out ((p+k:Nat):Int) ((List.range k).map λi=>Az (fp (D.getD (p+i) 0))) Z G u (N:Int) (k:Int)=
  some (.inl ((f0,Z,D,S,I,W,f6,()),out,((p+N:Nat):Int),(List.range N).map λi=>Az (fp (D.getD (p+i) 0)),Z,G,u,()))
 |0,k,h,_=>absurd h (zA _)
 |n+1,k,h,K=>by rw[mE,bQ];by_cases Q:k<N;{rw[iP O,iP O,tN,dh O (uD (p+k) O),bS];dsimp only;rw[iP (by show _+1<=_;rw[zh,xa];omega),show wI (((p+k:Nat):Int)+1)=((p+(k+1):Nat):Int)from by rw[wQ,wi O O];omega,show wI ((k:Int)+1)=((k+1:Nat):Int)from ax O];have:=qo4 out G u hl hN J n (k+1) O O;rw[AU,sJ]at this;exact this};{rw[af O,show k=N by omega]}
theorem qlf (hP:PV f0.length Z D): ∀(n b:Nat),Z.length-b<n->b<=Z.length->
 mF m n f0 Z D S I W f6 ((List.range b).map (fI D Z)) (a9 Z b) Z (Z.length:Int) (b:Int)=some (.inl ((List.range Z.length).map (fI D Z),()))
 |0,b,h,_=>absurd h (zA _)
 |n+1,b,h,Q=>by rw[mF,bQ];by_cases hb:b<Z.length;{have hv:=Xm.1 (hP.1 b hb);have bd:=vS (b:=b) λi hi=>hP.1 i O;have K:=Jc (c:=Z.length) hP.1 (b:=b+1) O;have hn:=hP.2.2.2;have e1:a9 Z (b+1)=a9 Z b+(2*Z.getD b 0-1):=rfl;obtain⟨p,u⟩: ∃p:Nat,a9 Z b=(p:Int):=⟨(a9 Z b).toNat,O⟩;obtain⟨N,hN⟩: ∃N:Nat,2*Z.getD b 0-1=(N:Int):=⟨(2*Z.getD b 0-1).toNat,O⟩;have J:wI (wI (2*Z.getD b 0)-1)=(N:Int):=by{simp only[wQ];rw[wi (n:=2*Z.getD b 0) O O,wi O O];omega};have G:=qo4 hm hz h0 hd hw uD uW (f0:=f0) (Z:=Z) (S:=S) (I:=I) (f6:=f6) ((List.range b).map (fI D Z)) (Z.length:Int) (b:Int) (b:=b) O (N:=N) O (p:=p) O m 0 O O;rw[List.range_zero,E2,zQ,nZ]at G;rw[iP O,iP O,tN,J,u,G,bS];dsimp only;rw[iP (by show 0<1/\_+1<=_;rw[zh,xa];omega)];have er:(List.range N).map (λi=>Az (fp (D.getD (p+i) 0)))=fI D Z b:=by{unfold fI;rw[hN,u,tN,tN]};have ed:((p+N:Nat):Int)=a9 Z (b+1):=O;rw[er,ed,show wI ((b:Int)+1)=((b+1:Nat):Int)from ax O];have:=qlf hP n (b+1) O O;rw[AU,sJ]at this;exact this};{rw[af O,show b=Z.length by omega]}
theorem qqr (hP:PV f0.length Z D) (hD:b9 D): ∀(n b:Nat),Z.length-b<n->b<=Z.length->
 kq m n ((List.range Z.length).map (fI D Z)) (Z.length:Int) (b:Int)=some (if ql (nT D Z) b Z.length=true then .inr (.inl ())else .inl (4,()))
 |0,b,h,_=>absurd h (zA _)
 |n+1,b,h,e0=>by rw[kq,bQ];by_cases hb:b<Z.length;{have hv:=Xm.1 (hP.1 b hb);have bd:=vS (b:=b) λi hi=>hP.1 i O;have d0:=Jc (c:=Z.length) hP.1 (b:=b+1) O;have hn:=hP.2.2.2;have e1:a9 Z (b+1)=a9 Z b+(2*Z.getD b 0-1):=rfl;have eg:((List.range Z.length).map (fI D Z)).getD b []=fI D Z b:=by{rw[List.getD_eq_getElem?_getD,List.getElem?_map,List.getElem?_range hb];rfl};rw[iP O,iP (by rw[zh,xa];omega),tN,eg,show wI ((b:Int)+1)=((b+1:Nat):Int)from ax O,qqr hP hD n (b+1) O O,aA,qy hb];rcases hv with hv|hv;{have c0:nT D Z b=true:=by{unfold nT;rw[hv];rfl};rw[af (by unfold fI;rw[hv,zh,xa];decide),c0,lr]};{obtain⟨p,hp⟩: ∃p:Nat,a9 Z b=(p:Int):=⟨(a9 Z b).toNat,O⟩;have er:fI D Z b=[Az (fp (D.getD p 0)),Az (fp (D.getD (p+1) 0)),Az (fp (D.getD (p+2) 0))]:=by{unfold fI;rw[hv,hp,tN];rfl};have J:=(hD p O).2;have u:=(hD (p+1) O).2;have G:=(hD (p+2) O).2;have Q:=qlo (D:=D) (k:=p) (λi hi=>(hD (p+i) O).2);have K:C3 m (fI D Z b)=some (aE (pt D p) (-2148),(),()):=by{rw[C3,er,iP (by simp),iP (by simp)];simp only[EZ,RD];rw[Xl J,Xl u,Xl G];have m1:=I0 (m:=m) O (a:=aM (D.getD p 0)) (b:=aM (D.getD (p+2) 0)) (B:= -1074) (C:= -1074);have m2:=I0 (m:=m) O (a:=aM (D.getD (p+1) 0)) (b:=aM (D.getD (p+1) 0)) (B:= -1074) (C:= -1074);rw[iP ⟨ck J,ck G⟩,show(-1074:Int)+ -1074= -2148 by decide]at m1;rw[iP ⟨ck u,ck u⟩,show(-1074:Int)+ -1074= -2148 by decide]at m2;unfold Az;dsimp only;rw[m1,bS,iP (by simp),iP (by simp),m2,bS];dsimp only;rw[No O,iP ⟨Xn J G,Xn u u⟩,bS];rfl};rw[iP (by rw[er];rfl),K,bS];dsimp only;rw[NA O Q,bS,aA];dsimp only;unfold nT;rw[hv,hp,tN];by_cases c:pt D p=0;{rw[iP (Qa.2 c),decide_eq_true c];rfl};{rw[af (λh=>c (Qa.1 h)),decide_eq_false c];rfl}}};{rw[af O,Q5 hb,iP rfl]}
theorem ZM {p:Nat} (Q:p+3<=D.length) (hD:b9 D):nP m ((D.drop p).take 3)=some (aE (pt D p) (-2148),(),()):=by have J:=hD p O;have u:=hD (p+1) O;have G:=hD (p+2) O;have K:(D.drop p).take 3=[D.getD p 0,D.getD (p+1) 0,D.getD (p+2) 0]:=by{rw[cq (d:=0) (by omega:p<D.length),cq (d:=0) (by omega:p+1<D.length),cq (d:=0) (by omega:p+1+1<D.length)];simp only[RF,sG]};rw[nP,K,iP (by simp),iP (by simp)];simp only[EZ,RD];rw[Y3 O J.1 G.1 J.2 G.2,bS,iP (by simp),iP (by simp),Y3 O u.1 u.1 u.2 u.2,bS];dsimp only;rw[SO O,iP ⟨Xn J.2 G.2,Xn u.2 u.2⟩,bS];rfl
theorem ql6 (hP:PV f0.length Z D) (hD:b9 D): ∀(n b:Nat),Z.length-b<n->b<=Z.length->
 oJ m n f0 Z D S I W f6 (a9 Z b) (b:Int)=some (if ql (nT D Z) b Z.length=true then .inr (.inl ())else .inl (4,()))
 |0,b,h,_=>absurd h (zA _)
 |n+1,b,h,d0=>by rw[oJ,bQ];by_cases hb:b<Z.length;{have hv:=Xm.1 (hP.1 b hb);have bd:=vS (b:=b) λi hi=>hP.1 i O;have c0:=Jc (c:=Z.length) hP.1 (b:=b+1) O;have hn:=hP.2.2.2;have e1:a9 Z (b+1)=a9 Z b+(2*Z.getD b 0-1):=rfl;have Q:wI (wI (a9 Z b+wI (2*Z.getD b 0))-1)=a9 Z (b+1):=by{simp only[wQ];rw[wi (n:=2*Z.getD b 0) O O,wi (n:=a9 Z b+2*Z.getD b 0) O O,wi O O,a9];omega};rw[iP O,iP O,tN,Q,show wI ((b:Int)+1)=((b+1:Nat):Int)from ax O,ql6 hP hD n (b+1) O O,aA,qy hb];rcases hv with hv|hv;{have G:nT D Z b=true:=by{unfold nT;rw[hv];rfl};rw[af O,iP O,G,lr]};{obtain⟨p,J⟩: ∃p:Nat,a9 Z b=(p:Int):=⟨(a9 Z b).toNat,O⟩;have u:=qlo (D:=D) (k:=p) (λi hi=>(hD (p+i) O).2);have K:wI ((p:Int)+3)=((p+3:Nat):Int):=by{rw[wQ,wi O O];omega};rw[iP hv,J,K,iP O,tN,tN,show p+3-p=3 by omega,ZM hm hz h0 hd hw uD uW O hD,bS];dsimp only;rw[UV hm u,bS,aA];dsimp only;unfold nT;rw[hv,J,tN];by_cases c:pt D p=0;{rw[iP (Qa.2 c),decide_eq_true c];rfl};{rw[af (λh=>c (Qa.1 h)),decide_eq_false c,iP (show(0:Int)<=(b:Int)/\(b:Int)<(Z.length:Int) by omega)];rfl}}};{rw[af O,Q5 hb,iP rfl]}
end
def wS (f0 Z D S I W:LI) (f6:Int):Int:=
 if f0.length>200 then 6 else if hH f0=false then 90 else if S.length≠f0.length+1 then 2 else if I.length≠W.length then 2
 else if¬vA f0.length Z D S I f6 then 240 else if¬(bq W=true/\bq D=true)then 4 else if ql (nT D Z) 0 Z.length=false then 4 else 0
def q97 {m:Nat} (hm:5000000000<=m) {f0 Z D S I W:LI} {f6:Int} (hz:Z.length<=1000) (h0:f0.length<=1000) (hd:D.length<=1000) (hw:W.length<=100000) (hI:I.length<=100000) (i0:S.length<=100000) (uD:UL D) (uW:UL W):
 wM m f0 Z D S I W f6=some (wS f0 Z D S I W f6,(),())/\Mj m f0 Z D S I W f6=some (wS f0 Z D S I W f6,(),()):=by
 have w1:wI ((f0.length:Int)+1)=((f0.length+1:Nat):Int):=by rw[wQ,wi O O];omega
 rw[wM,Mj,bQ,bQ,qoc O h0,qir O h0,w1];unfold wS;by_cases c1:f0.length>200
 . have c1i:(f0.length:Int)>200:=O;rw[iP c1i,iP c1i,iP c1];exact⟨rfl,rfl⟩
 have c1i: ¬(f0.length:Int)>200:=O;rw[af c1i,af c1i,af c1,bS,bS];dsimp only;cases c2:hH f0 with
 |false=>exact⟨rfl,rfl⟩
 |true=>
 rw[show(!true)=false from rfl,cond_false,cond_false,af (by decide),aN,aN,aN,aN]
 by_cases G:S.length=f0.length+1
 case neg=>
  have c3i: ¬(S.length:Int)=((f0.length+1:Nat):Int):=O;rw[af c3i,af c3i,iP (show S.length≠f0.length+1 from G)];exact⟨rfl,rfl⟩
 have c3i:(S.length:Int)=((f0.length+1:Nat):Int):=O;rw[iP c3i,iP c3i,af (show¬(S.length≠f0.length+1)from λq=>q G)]
 by_cases c4:I.length=W.length
 case neg=>
  have c4i: ¬(I.length:Int)=(W.length:Int):=O;rw[af c4i,af c4i,iP (show I.length≠W.length from c4)];exact⟨rfl,rfl⟩
 have c4i:(I.length:Int)=(W.length:Int):=O;rw[iP c4i,iP c4i,af (show¬(I.length≠W.length)from λq=>q c4)]
 obtain⟨l,e0,Q⟩:=qku hm hz h0 hd (f0:=f0) (S:=S) (I:=I) (W:=W) (f6:=f6);rw[e0,bS,qe1 hm hz h0 G hI,bS];dsimp only;by_cases J:vA f0.length Z D S I f6
 case neg=>
  rw[iP (show¬vA f0.length Z D S I f6 from J),decide_eq_false J]
  refine⟨?_,rfl⟩;by_cases hP:PV f0.length Z D
  . rw[decide_eq_true hP,show(!true)=false from rfl,cond_false,bQ]
    by_cases h6:f6<0
    . rw[iP h6]
    . rw[af h6,Q hP,ZP hm hz h0 G hI hP,bS,decide_eq_false (λq:CF f0.length Z S I=>J ((Sx G).2 ⟨hP,O,q⟩))];rfl
  . rw[decide_eq_false hP];rfl
 obtain⟨hP,h6,hC⟩:=(Sx G).1 J;rw[af (show¬ ¬vA f0.length Z D S I f6 from λq=>q J),decide_eq_true J,decide_eq_true hP,show(!true)=false from rfl,cond_false,cond_false,bQ,af (show¬f6<0 by omega),Q hP,ZP hm hz h0 G hI hP,bS,decide_eq_true hC]
 dsimp only;have r0:=qkh hm hz h0 O hw uD uW (f0:=f0) (Z:=Z) (D:=D) (S:=S) (I:=I) (f6:=f6) m 0 O O;have r1:=qm6 hm hz h0 O hw uD uW (f0:=f0) (Z:=Z) (D:=D) (S:=S) (I:=I) (f6:=f6) m 0 O O;rw[nZ]at r0 r1;rw[show(!true)=false from rfl,cond_false,qv8 hm hz h0 O hw uD uW,bS,r0,bS,show ql (λi=>decide (aT (W.getD i 0))) 0 W.length=bq W from rfl]
 cases hW:bq W with
 |false=>
  have K: ¬(false=true/\bq D=true):=λq=>by cases q.1
  rw[af K,iP K,af (show¬(false=true) by decide)];exact⟨rfl,rfl⟩
 |true=>
 rw[iP (show true=true from rfl)]
 dsimp only;rw[r1,bS,show ql (λi=>decide (aT (D.getD i 0))) 0 D.length=bq D from rfl]
 cases g0:bq D with
 |false=>
  have K: ¬(true=true/\false=true):=λq=>by cases q.2
  rw[af K,iP K,af (show¬(false=true) by decide)];exact⟨rfl,rfl⟩
 |true=>
 have hD:=Zj uD g0;have q1:true=true/\true=true:=⟨rfl,rfl⟩;rw[iP q1,iP (show true=true from rfl),af (show¬ ¬(true=true/\true=true)from λq=>q q1)]
 dsimp only;have c0:=qlf hm hz h0 O hw uD uW (S:=S) (I:=I) (f6:=f6) hP m 0 O O;rw[List.range_zero,E2,nZ,show a9 Z 0=0 from rfl]at c0
 have d0:=qqr hm hz h0 O hw uD uW hP hD m 0 O O;have u:=ql6 hm hz h0 O hw uD uW (S:=S) (I:=I) (f6:=f6) hP hD m 0 O O;rw[nZ]at d0 u;rw[show a9 Z 0=0 from rfl]at u
 rw[K6,c0,bS,bS];dsimp only;rw[zh,xa,d0,bS,u,bS];cases ql (nT D Z) 0 Z.length<;>exact⟨rfl,rfl⟩
end Go.Vs.F
set_option maxRecDepth 100000
namespace Go.Vs.F
def sm:Nat->(Nat->Int)->Int
 |0,_=>0
 |n+1,f=>sm n f+f n
def Jt {f g:Nat->Int}: ∀{n:Nat},(∀i,i<n->f i=g i)->sm n f=sm n g
 |0,_=>rfl
 |n+1,h=>by rw[sm,sm,Jt λi u=>h i O,h n O]
def UF {f:Nat->Int}: ∀{n:Nat},(∀i,i<n->f i=0)->sm n f=0
 |0,_=>rfl
 |n+1,h=>by rw[sm,UF λi u=>h i O,h n O];rfl
def quz {f:Nat->Int} {k:Nat}: ∀{n:Nat},k<=n->(∀i,k<=i->i<n->f i=0)->sm n f=sm k f
 |0,h,_=>by rw[show k=0 by omega]
 |n+1,h,hz=>by by_cases c:k=n+1;{rw[c]};{rw[sm,hz n O O,quz O λi u h2=>hz i u O];omega}
def VF {f:Nat->Int} {k:Nat}: ∀{r:Nat},sm (k+r) f=sm k f+sm r λi=>f (k+i)
 |0=>by simp[sm]
 |r+1=>by rw[<-Nat.add_assoc,sm,sm,VF];omega
def qr0 {f g:Nat->Int} {k:Nat}: ∀{n:Nat},k<n->(∀i,i<n->i≠k->f i=g i)->sm n f=sm n g+(f k-g k)
 |0,h,_=>absurd h (zA _)
 |n+1,h,hz=>by rw[sm,sm];by_cases c:k=n;{subst c;rw[Jt λi u=>hz i O O];omega};{rw[qr0 (n:=n) O λi G h2=>hz i O h2,hz n O O];omega}
def ent (S I W:LI) (i j:Nat):Nat->Int
 |0=>0
 |c+1=>if S.getD j 0<=(c:Int)/\(c:Int)<S.getD (j+1) 0/\I.getD c 0=(i:Int)then W.getD c 0 else ent S I W i j c
section
variable {S I W:LI} {i j:Nat}
def U7: ∀{c:Nat},(c:Int)<=S.getD j 0->ent S I W i j c=0
 |0,_=>rfl
 |c+1,h=>by rw[ent,af O,U7 O]
def qj8: ∀{d c:Nat},S.getD (j+1) 0<=(c:Int)->ent S I W i j (c+d)=ent S I W i j c
 |0,c,_=>rfl
 |d+1,c,h=>by rw[<-Nat.add_assoc,ent,af O,qj8 h]
def Vk: ∀{c:Nat},(∀k:Nat,k<c->S.getD j 0<=(k:Int)->(k:Int)<S.getD (j+1) 0->I.getD k 0≠(i:Int))->ent S I W i j c=0
 |0,_=>rfl
 |c+1,h=>by rw[ent,af (λq=>h c O q.1 q.2.1 q.2.2),Vk λk u=>h k O]
def U9 (u:b9 W): ∀{c:Nat},c<=W.length->cr (ent S I W i j c)/\aT (ent S I W i j c)
 |0,_=>⟨IY,by unfold ent aT;decide⟩
 |c+1,h=>by rw[ent];split;{exact u c O};{exact U9 u O}
end
def NT:aM 0=0:=by decide+kernel
structure sR (n:Nat) (S I W:LI):Prop where
 hn:n<=200
 hS:S.length=n+1
 IW:I.length=W.length
 Il:I.length<=5000
 st:bO n S I
 lo: ∀j c:Nat,j<n->S.getD j 0<=(c:Int)->(c:Int)<S.getD (j+1) 0->(j:Int)<I.getD c 0/\I.getD c 0<(n:Int)
 up: ∀j c:Nat,j<n->S.getD j 0<(c:Int)->(c:Int)<S.getD (j+1) 0->I.getD (c-1) 0<I.getD c 0
 hW:b9 W
section
variable {n:Nat} {S I W:LI} (h:sR n S I W)
include h
theorem sR.inc {j:Nat} (u:j<n): ∀{d a:Nat},S.getD j 0<=(a:Int)->((a+d+1:Nat):Int)<S.getD (j+1) 0->I.getD a 0<I.getD (a+d+1) 0
 |0,a,G,h2=>h.up j (a+1) u O O
 |d+1,a,G,h2=>by have K:=sR.inc u (d:=d) (a:=a) G O;have J:=h.up j (a+(d+1)+1) u O h2;have e:a+(d+1)+1-1=a+d+1:=O;rw[e]at J;omega
theorem sR.fresh {j c:Nat} (u:j<n) (J:S.getD j 0<=(c:Int)) (h2:(c:Int)<S.getD (j+1) 0):ent S I W (I.getD c 0).toNat j c=0:=by obtain⟨O,K⟩:=h.lo j c u J h2;refine Vk λk Q G h4 e=> ?_;have:=h.inc u (d:=c-k-1) (a:=k) G (by rw[show k+(c-k-1)+1=c by omega];exact h2);rw[show k+(c-k-1)+1=c by omega,e]at this;omega
theorem sR.step {j c i:Nat} (G:j<n) (u:S.getD j 0<=(c:Int)) (h2:(c:Int)<S.getD (j+1) 0):ent S I W i j (c+1)=if i=(I.getD c 0).toNat then W.getD c 0 else ent S I W i j c:=by obtain⟨K,J⟩:=h.lo j c G u h2;rw[ent];by_cases e:i=(I.getD c 0).toNat;{rw[iP e,iP ⟨u,h2,O⟩]};{rw[af e,af (λq=>e O)]}
theorem sR.other {j c i k:Nat} (G:j<n) (u:k<n) (e:k≠j) (J:S.getD j 0<=(c:Int)) (h2:(c:Int)<S.getD (j+1) 0):ent S I W i k (c+1)=ent S I W i k c:=by rw[ent,af];intro q;rcases Nat.lt_or_gt_of_ne e with e|e;{have:=h.st.le (i:=k+1) (j:=j) O O;omega};{have:=h.st.le (i:=j+1) (j:=k) O O;omega}
theorem sR.upper {i j:Nat} (u:j<n) (O:i<=j): ∀{c:Nat},ent S I W i j c=0:=by intro c;refine Vk λk K J G e=> ?_;have:=h.lo j k u J G;omega
theorem sR.full {i j:Nat} (u:j<n):ent S I W i j I.length=ent S I W i j (S.getD (j+1) 0).toNat:=by have r:=h.st.rng (j:=j+1) O;obtain⟨d,hd⟩: ∃d,I.length=(S.getD (j+1) 0).toNat+d:=⟨I.length-(S.getD (j+1) 0).toNat,O⟩;rw[hd,qj8 O]
end
def TT (S I W:LI) (i j:Nat):Int:=aM (ent S I W i j I.length)
def sR.TT0 {n:Nat} {S I W:LI} (h:sR n S I W) {i j:Nat} (u:j<n) (G:i<=j):TT S I W i j=0:=by unfold TT;rw[h.upper u G,NT]
def ql3 {a b:LI} {k:Nat} (h:k<a.length):(a++b).getD k 0=a.getD k 0:=by simp[List.getD,List.getElem?_append_left h]
def qeg {a b:LI} {k:Nat} (h:a.length<=k):(a++b).getD k 0=b.getD (k-a.length) 0:=by simp[List.getD,List.getElem?_append_right h]
def EI (T:Nat->Nat->Int) (b:Nat->Int):Nat->LI
 |0=>[]
 |k+1=>EI T b k++[Y7 (aE (dK (b k)-sm k λj=>T k j*aM ((EI T b k).getD j 0)) (-2148)) 0]
def Sy {T:Nat->Nat->Int} {b:Nat->Int}: ∀{k:Nat},(EI T b k).length=k
 |0=>rfl
 |k+1=>by rw[EI,zG,Sy];rfl
def qmx {T:Nat->Nat->Int} {b:Nat->Int} {j:Nat}: ∀{d:Nat},(EI T b (j+1+d)).getD j 0=(EI T b (j+1)).getD j 0
 |0=>rfl
 |d+1=>by rw[<-Nat.add_assoc,EI,ql3 (by rw[Sy];omega),qmx]
def Mp (T:Nat->Nat->Int) (b:Nat->Int) (k:Nat):Int:=(EI T b (k+1)).getD k 0
def Sf {T:Nat->Nat->Int} {b:Nat->Int} {k:Nat}:Mp T b k=Y7 (aE (dK (b k)-sm k λj=>T k j*aM (Mp T b j)) (-2148)) 0:=by unfold Mp;rw[EI,qeg (by rw[Sy];omega),Sy,xg,EZ];rw[Jt λj u=> ?_];rw[show k=j+1+(k-j-1) by omega,qmx]
def oR {T:Nat->Nat->Int} {b:Nat->Int} {k:Nat}:cr (Mp T b k):=by rw[Sf];exact Yr
def Rc (n:Nat) (T:Nat->Nat->Int) (b:Nat->Int) (k:Nat):Int:=Mp (λr c=>T (n-1-c) (n-1-r)) (λr=>b (n-1-r)) (n-1-k)
def su {n:Nat} {T:Nat->Nat->Int} {b:Nat->Int} {k:Nat}:cr (Rc n T b k):=oR
def qtj {f:Nat->Int} {r:Nat}:sm (r+1) f=f 0+sm r λi=>f (i+1):=by rw[pJ,VF];simp[sm,pJ]
def ZX: ∀{r:Nat} {f:Nat->Int},sm r f=sm r λi=>f (r-1-i)
 |0,f=>rfl
 |r+1,f=>by rw[qtj,ZX (r:=r) (f:=λi=>f (i+1)),sm];simp only[RC,xg];rw[Jt (f:=λi=>f (r-1-i+1)) (g:=λi=>f (r-i)) λi u=>by rw[show r-1-i+1=r-i by omega]];omega
def ZU {n:Nat} {T:Nat->Nat->Int} {b:Nat->Int} {k:Nat} (u:k<n):Rc n T b k=Y7 (aE (dK (b k)-sm (n-k-1) λi=>T (k+1+i) k*aM (Rc n T b (k+1+i))) (-2148)) 0:=by unfold Rc;rw[Sf,show n-1-(n-1-k)=k by omega,show n-1-k=n-k-1 by omega,ZX (r:=n-k-1)];rw[Jt (n:=n-k-1) λi G=> ?_];rw[show n-1-(n-k-1-1-i)=k+1+i by omega,show n-k-1-1-i=n-1-(k+1+i) by omega]
def DL (l:List bK) (t:Int) (c:Nat):Prop:= ∃zs:LI,l=zs.map (dy (-2148))/\(∀z∈zs,b7 z (-2148))/\cO zs=t/\zs.length<=c
def DL.add {l:List bK} {t z:Int} {c:Nat} (h:DL l t c) (hz:b7 z (-2148)):DL (l++[((aE z (-2148)).1,((aE z (-2148)).2.1,(aE z (-2148)).2.2.1),(aE z (-2148)).2.2.2.1)]) (t+z) (c+1):=by obtain⟨zs,J,h2,G,K⟩:=h;refine⟨zs++[z],by rw[J,sJ];rfl,?_,by rw[qhr,G];simp[cO],by simp;omega⟩;intro x u;rcases zX.1 u with u|u;{exact h2 x u};{rw[zC.1 u];exact hz}
def DL.one {z:Int} (hz:b7 z (-2148)):DL [((aE z (-2148)).1,((aE z (-2148)).2.1,(aE z (-2148)).2.2.1),(aE z (-2148)).2.2.2.1)] z 1:=
 ⟨[z],rfl,λx u=>by rw[zC.1 u];exact hz,by simp[cO],by simp⟩
def DL.mono {l:List bK} {t:Int} {c d:Nat} (h:DL l t c) (hd:c<=d):DL l t d:=by obtain⟨zs,G,h2,u,J⟩:=h;exact⟨zs,G,h2,u,O⟩
def DL.len {l:List bK} {t:Int} {c:Nat} (h:DL l t c):l.length<=c:=by obtain⟨zs,G,h2,J,u⟩:=h;rw[G,zh];exact u
def DL.rsum {m:Nat} (hm:3000000<m) {l:List bK} {t:Int} {c:Nat} (h:DL l t c) (hc:c<=10000):K2 m l=some (aE t (-2148),(),()):=by obtain⟨zs,G,h2,u,J⟩:=h;rw[G,qnu hm O h2,u]
def SS (n:Nat) (s:List (List bK)) (t:Nat->Int) (c:Nat):Prop:=s.length=n/\ ∀i,i<n->DL (s.getD i []) (t i) c
def SS.set {n:Nat} {s:List (List bK)} {t t':Nat->Int} {c:Nat} (h:SS n s t c) {k:Nat} (G:k<n) {l:List bK} (hl:DL l (t' k) (c+1)) (u: ∀i,i≠k->t' i=t i):SS n (s.set k l) t' (c+1):=by refine⟨by rw[zU];exact h.1,λi J=> ?_⟩;by_cases e:i=k;{subst e;rw[show(s.set i l).getD i []=l by simp[List.getD,h.1,G]];exact hl};{rw[show(s.set k l).getD i []=s.getD i [] by simp[List.getD,List.getElem?_set,Ne.symm e],u i e];exact(h.2 i J).mono O}
end Go.Vs.F
set_option maxRecDepth 100000
namespace Go.Vs.F
def fj (b o:LI):LI:=c7 o.length λi=>b.getD (o.getD i 0).toNat 0
def qhv {b o:LI}:(fj b o).length=o.length:=Qp
section
variable {m:Nat} (hm:5000000000<=m) {b o:LI} (ho:o.length<=1000) (hb:b.length=o.length) (hr: ∀i,i<o.length->0<=o.getD i 0/\o.getD i 0<(o.length:Int))
include hm ho hb hr
theorem qqg (G:b9 b):b9 (fj b o):=λi u=>by rw[qhv]at u;have h:=hr i u;unfold fj;rw[J4 u];exact G _ O
theorem YS: ∀(n k:Nat),o.length-k<n->k<=o.length->
 mA m n b (cg (List.replicate o.length 0) k λi=>b.getD (o.getD i 0).toNat 0) o (o.length:Int) (k:Int)=some (.inl (fj b o,()))
 |0,k,h,_=>absurd h (zA _)
 |n+1,k,h,G=>by rw[mA,bQ];by_cases u:k<o.length;{have J:=hr k u;rw[iP O,iP O,iP (by rw[tN];omega),iP (by rw[Qq,zI];omega),zH,tN,Zp (q:=λi=>b.getD (o.getD i 0).toNat 0) (by rw[zI];exact u),show wI ((k:Int)+1)=((k+1:Nat):Int)from ax O];exact YS n (k+1) O O};{have e:k=(List.replicate o.length (0:Int)).length:=by{rw[zI];omega};rw[af O,e,Yq,zI];rfl}
theorem qmz: ∀(n k:Nat),o.length-k<n->k<=o.length->
 nk m n b o (cg (List.replicate o.length 0) k λi=>b.getD (o.getD i 0).toNat 0) (k:Int)=some (.inl (fj b o,()))
 |0,k,h,_=>absurd h (zA _)
 |n+1,k,h,G=>by rw[nk,bQ];by_cases u:k<o.length;{have J:=hr k u;rw[iP O,iP O,iP (by rw[tN];omega),iP (by rw[Qq,zI];omega),zH,tN,Zp (q:=λi=>b.getD (o.getD i 0).toNat 0) (by rw[zI];exact u),show wI ((k:Int)+1)=((k+1:Nat):Int)from ax O];exact qmz n (k+1) O O};{have e:k=(List.replicate o.length (0:Int)).length:=by{rw[zI];omega};rw[af O,e,Yq,zI];rfl}
theorem qg6:tI m b o=some (fj b o,(),(),())/\El m b o=some (fj b o,(),(),()):=by have u:=YS hm ho hb hr m 0 O O;have h2:=qmz hm ho hb hr m 0 O O;rw[nZ,Z9]at u h2;rw[tI,El,iP O,iP O,hb,tN,u,h2];exact⟨rfl,rfl⟩
def iD (b o:LI):Nat->LI
 |0=>List.replicate o.length 0
 |k+1=>(iD b o k).set (o.getD k 0).toNat (b.getD k 0)
omit hm ho hb hr in
theorem Jw: ∀{k:Nat},(iD b o k).length=o.length
 |0=>zI
 |k+1=>by rw[iD,zU,Jw]
theorem qhb (G:b9 b): ∀{k:Nat},k<=o.length->b9 (iD b o k)
 |0,_,i,u=>by{rw[Jw]at u;rw[iD,show(List.replicate o.length (0:Int)).getD i 0=0 by simp[List.getD,u]];exact⟨IY,by unfold aT;decide⟩}
 |k+1,J,i,u=>by have K:=hr k O;rw[Jw]at u;rw[iD,Tc (by rw[Jw];omega)];split;{exact G k O};{exact qhb G (k:=k) O i (by rw[Jw];exact u)}
theorem YZ: ∀(n k:Nat),o.length-k<n->k<=o.length->
 my m n b (iD b o k) o (o.length:Int) (k:Int)=some (.inl (iD b o o.length,()))
 |0,k,h,_=>absurd h (zA _)
 |n+1,k,h,u=>by rw[my,bQ];by_cases G:k<o.length;{have J:=hr k G;rw[iP O,iP O,iP O,tN,iP (by rw[Jw];omega),zH,<-iD,show wI ((k:Int)+1)=((k+1:Nat):Int)from ax O];exact YZ n (k+1) O O};{rw[af O,show k=o.length by omega]}
theorem qoe: ∀(n k:Nat),o.length-k<n->k<=o.length->
 ng m n b o (iD b o k) (k:Int)=some (.inl (iD b o o.length,()))
 |0,k,h,_=>absurd h (zA _)
 |n+1,k,h,u=>by rw[ng,bQ];by_cases G:k<o.length;{have J:=hr k G;rw[iP O,iP O,iP O,tN,iP (by rw[Jw];omega),zH,<-iD,show wI ((k:Int)+1)=((k+1:Nat):Int)from ax O];exact qoe n (k+1) O O};{rw[af O,show k=o.length by omega]}
theorem qe7:tE m b o=some (iD b o o.length,(),(),())/\Ef m b o=some (iD b o o.length,(),(),()):=by have u:=YZ hm ho hb hr m 0 O O;have h2:=qoe hm ho hb hr m 0 O O;rw[nZ]at u h2;rw[tE,Ef,iP O,iP O,hb,tN,<-show iD b o 0=List.replicate o.length 0 from rfl,u,h2];exact⟨rfl,rfl⟩
end
def qnj {m:Nat} (hm:3000000<m) {B:Int} {zs:LI} (hl:zs.length<=10000) (G: ∀z∈zs,b7 z B) (t0 Q:Bool) (K:LI) (J:Int): ∀(n k:Nat) (e:Int),zs.length-k<n->k<=zs.length->
 jx m n (zs.map (dy B)) t0 Q K J ((zs.take k).map (dy B)) e (zs.length:Int) (k:Int)=some (.inr (.inl (zs.map (dy B),(t0,Q,K,J,()),zs.map (dy B),jc B e (zs.drop k),())))
 |0,k,e,h,_=>absurd h (zA _)
 |n+1,k,e,h,c0=>by rw[jx,bQ];by_cases u:k<zs.length;{have hz:b7 (zs.getD k 0) B:=G _ (Xi u);have ih:=qnj hm hl G t0 Q K J n (k+1) (if(aE (zs.getD k 0) B).2.2.2.1<e then(aE (zs.getD k 0) B).2.2.2.1 else e) O O;rw[iP O,iP (by rw[zh];omega),zH,tN,Rb u,show iQ m (dy B (zs.getD k 0)).1 (dy B (zs.getD k 0)).2.1.1 (dy B (zs.getD k 0)).2.1.2 (dy B (zs.getD k 0)).2.2=_ from LW hm,bS];dsimp only;rw[decide_eq_true hz,uB,cond_false,iP (by simp;omega),show wI ((k:Int)+1)=((k+1:Nat):Int)from ax O];have e1:(zs.take k).map (dy B)++[((aE (zs.getD k 0) B).1,((aE (zs.getD k 0) B).2.1,(aE (zs.getD k 0) B).2.2.1),(aE (zs.getD k 0) B).2.2.2.1)]=(zs.take (k+1)).map (dy B):=by{rw[MD u,sJ];simp[dy,Az,List.getD,u]};have e2:jc B e (zs.drop k)=jc B (if(aE (zs.getD k 0) B).2.2.2.1<e then(aE (zs.getD k 0) B).2.2.2.1 else e) (zs.drop (k+1)):=by{rw[ET u,jc];simp[List.getD,u]};rw[e1,e2];exact ih};{have:k=zs.length:=O;subst this;rw[af O,EW,List.drop_length];rfl}
def qlw {m:Nat} (hm:3000000<m) {B:Int} {zs:LI} (hl:zs.length<=10000) (G: ∀z∈zs,b7 z B) {E:Int} (K: -65536<=E) (c0:E<=0) (hE: ∀z∈zs,E<=(aE z B).2.2.2.1) (l:List bK) (t0 t1:Bool) (t2:LI) (t3:Int): ∀(n k:Nat) (S:Int),zs.length-k<n->k<=zs.length->
 ak S.natAbs<=300000+k->cU S E (cO (zs.take k)) B->
 ∃T,jv m n l t0 t1 t2 t3 E (zB S).1 (zB S).2.1 (zs.map (dy B)) (zs.length:Int) (k:Int)=some (.inl (l,(t0,t1,t2,t3,()),E,((zB T).1,(zB T).2.1,()),()))/\ak T.natAbs<=400000/\cU T E (cO zs) B
 |0,k,S,h,_,_,_=>absurd h (zA _)
 |n+1,k,S,h,d0,hS,hQ=>by rw[jv,bQ];by_cases Q:k<zs.length;{have hz:b7 (zs.getD k 0) B:=G _ (Xi Q);obtain⟨w,f,u,k1,k2,k3⟩:=Xd hz;have J:E<=f:=by{rw[<-k3];exact hE _ (Xi Q)};have g0:=u.lo;have e0:=u.hi;have s1:=nW u J K;have hle:=u.len;have w1:wI (f-E)=f-E:=by{rw[wQ,wi O O]};have q2:cU (S+sc w f E) E (cO (zs.take (k+1))) B:=by{rw[Mg Q];exact hQ.add (c:=0) (g:=0) ((cU.sc J).trans u.eq)};have q1:ak (S+sc w f E).natAbs<=300000+(k+1):=by{have:=Zu (k:=300000+k) hS (zf s1 O);omega};obtain⟨T,i1,i2,i3⟩:=qlw hm hl G K c0 hE l t0 t1 t2 t3 n (k+1) (S+sc w f E) O O q1 q2;refine⟨T,?_,i2,i3⟩;rw[iP O,iP (by rw[zh];omega),tN,zH,Rb Q,show(dy B (zs.getD k 0)).2.1.1=(zB w).1 from k1,show(dy B (zs.getD k 0)).2.1.2=(zB w).2.1 from k2,show(dy B (zs.getD k 0)).2.2=f from k3,w1,dW hm O O O,bS];dsimp only;rw[Ng O (oX O) (oX (by unfold sc at s1;omega)),aP,aP,bS,show wI ((k:Int)+1)=((k+1:Nat):Int)from ax O];exact i1};{have:k=zs.length:=O;subst this;rw[EW]at hQ;exact⟨S,by rw[af O],O,hQ⟩}
def qsy {m:Nat} (hm:3000000<m) {B:Int} {zs:LI} (hl:zs.length<=10000) (u: ∀z∈zs,b7 z B):rN m (zs.map (dy B))=some (aE (cO zs) B,zs.map (dy B),()):=by have h0:=qnj hm hl u false false [] 0 m 0 0 O O;rw[sG,i6,E2,nZ]at h0;rw[rN,zh,h0,bS];dsimp only;have K:=UA (B:=B) (zs:=zs) (e:=0);have G:=UH (B:=B) (zs:=zs) (e:=0) O u;obtain⟨T,J,i2,Q⟩:=qlw hm hl u G K.1 K.2 (zs.map (dy B)) false false [] 0 m 0 0 O O (zf (Qn (n:=0) (k:=0) (by decide)) O) (cU.zero _ _);rw[nZ]at J;rw[zh,show([]:LI)=(zB 0).2.1 from Qe.symm,show false=(zB 0).1 from rfl];rw[show(zB 0).1=false from rfl,show(zB 0).2.1=([]:LI)from Qe]at*;rw[J,bS];dsimp only;rw[LS hm O O O,Q.mk];rfl
def q7l {m:Nat} (hm:5000000000<=m) {v:LI} (hl:v.length<=1000) (hv:b9 v): ∀(n k:Nat) (s:List (List bK)),v.length-k<n->k<=v.length->s.length=v.length->(∀i,i<k->DL (s.getD i []) (dK (v.getD i 0)) 1)->
 ∃G,mz m n s v (v.length:Int) (k:Int)=some (.inl (G,()))/\SS v.length G (λi=>dK (v.getD i 0)) 1
 |0,k,s,h,_,_,_=>absurd h (zA _)
 |n+1,k,s,h,K,hs,hd=>by rw[mz,bQ];by_cases J:k<v.length;{obtain⟨u,f⟩:=hv k J;rw[iP O,iP O,tN,dh O u,bS,iP O,NB f,show wI ((k:Int)+1)=((k+1:Nat):Int)from ax O];refine q7l hm hl hv n (k+1) _ O O (by rw[zU];exact hs) λi Q=> ?_;by_cases e:i=k;{subst e;rw[show∀x:List bK,(s.set i x).getD i []=x from λx=>by simp[List.getD,hs,J]];exact DL.one (Sn f)};{rw[show∀x:List bK,(s.set k x).getD i []=s.getD i []from λx=>by simp[List.getD,List.getElem?_set,Ne.symm e]];exact hd i O}};{exact⟨s,by rw[af O],hs,λi Q=>hd i O⟩}
def qhu {m:Nat} (hm:5000000000<=m) {v:LI} (hl:v.length<=1000) (hv:b9 v): ∃s,rJ m v=some (s,(),())/\SS v.length s (λi=>dK (v.getD i 0)) 1:=by obtain⟨s,u,h2⟩:=q7l hm hl hv m 0 (List.replicate v.length []) O O zI (λi G=>absurd G (zA _));rw[nZ]at u;exact⟨s,by rw[rJ,iP O,tN,u];rfl,h2⟩
def qi5 {m:Nat} (hm:5000000000<=m) {n:Nat} {s:List (List bK)} {t:Nat->Int} {c:Nat} (h:SS n s t c) (hc:c<=10000) {k:Nat} (u:k<n):yB m s (k:Int)=some (aE (t k) (-2148),s,(),()):=by obtain⟨zs,G,h2,J,K⟩:=h.2 k u;have hl:=h.1;have hs:rN m (zs.map (dy (-2148)))=some (aE (cO zs) (-2148),zs.map (dy (-2148)),()):=qsy O O h2;rw[yB,iP O,tN,G,hs,bS,J];dsimp only;rw[<-G,show s.set k (s.getD k [])=s from by rw[show s.getD k []=s[k] by simp[List.getD,hl,u]];exact List.set_getElem_self _]
def q84 {m:Nat} (hm:5000000000<=m) {n:Nat} {s:List (List bK)} {t:Nat->Int} {c:Nat} (h:SS n s t c) (hc:c<=10000) {k:Nat} (K:k<n) {a b:Int} (ha:cr a) (G:aT a) (hb:cr b) (u:aT b):
 ∃J,yC m s (k:Int) a b=some ((),J,(),(),(),())/\SS n J (λi=>if i=k then t i-aM a*aM b else t i) (c+1):=by have hl:=h.1;have hd:=h.2 k K;have c0:=hd.len;have hp:b7 (-(aM a*aM b)) (-2148):=by{have:=Xn G u;rw[Y8]at*;rw[xi];omega};have Q:=hd.add hp;rw[show t k+ -(aM a*aM b)=(λi=>if i=k then t i-aM a*aM b else t i) k by dsimp only;rw[iP rfl];omega]at Q;refine⟨_,?_,h.set K (t':=λi=>if i=k then t i-aM a*aM b else t i) Q λi hi=>af hi⟩;rw[yC,iP O,dh O ha,bS,dh O hb,bS,Xl G,Xl u];dsimp only;rw[I0 O,iP ⟨ck G,ck u⟩,bS,show(-1074:Int)+ -1074= -2148 by decide];dsimp only;rw[qm9 O,bS];dsimp only;rw[tN,iP (by rw[zL];omega),iP O,iP rfl]
end Go.Vs.F
set_option maxRecDepth 100000
namespace Go.Vs.F
abbrev iV (y:Nat->Int) (i:Nat):Bool:=decide (aT (y i))
def dC (S I W v:LI):Nat->Int:=Mp (TT S I W) λi=>v.getD i 0
def tF (S I W v:LI) (j i:Nat):Int:=dK (v.getD i 0)-sm j λk=>TT S I W i k*aM (dC S I W v k)
section
variable {m:Nat} (hm:5000000000<=m) {n:Nat} {S I W:LI} (hC:sR n S I W) {v:LI} (hv:b9 v) (hl:v.length=n)
include hm hC hv hl
theorem qhq (K:LI) (J G:Int) {j:Nat} (Q:j<n) (c0:K.length=n) (hy:K.getD j 0=dC S I W v j) (fy:aT (dC S I W v j)): ∀(N c:Nat) (s:List (List bK)),(S.getD (j+1) 0).toNat-c<N->S.getD j 0<=(c:Int)->(c:Int)<=S.getD (j+1) 0->
 SS n s (λi=>tF S I W v j i-aM (ent S I W i j c)*aM (dC S I W v j)) (1+c)->
 ∃s',mB m N S I W s K (j:Int) (c:Int) J G=some (.inl (S,I,W,s',K,J,G,()))/\SS n s' (tF S I W v (j+1)) (1+(S.getD (j+1) 0).toNat)
 |0,c,s,h,_,_,_=>absurd h (zA _)
 |N+1,c,s,h,h1,h2,hs=>by have hn:=hC.hn;have hS:=hC.hS;have e0:=hC.IW;have d0:=hC.Il;have hr:=hC.st.rng (j:=j+1) O;have w1:wI ((j:Int)+1)=((j+1:Nat):Int):=by{rw[wQ,wi O O];omega};rw[mB,w1,iP O,tN,bQ];by_cases hc:(c:Int)<S.getD (j+1) 0;{obtain⟨l1,l2⟩:=hC.lo j c Q h1 hc;obtain⟨u,f⟩:=hC.hW c O;have uy:cr (dC S I W v j):=oR;obtain⟨s1,e1,e2⟩:=q84 hm hs O (k:=(I.getD c 0).toNat) O u f uy fy;rw[show(((I.getD c 0).toNat:Nat):Int)=I.getD c 0 by omega]at e1;rw[iP hc,iP O,iP O,iP O,zH,tN,tN,hy,e1,bS,show wI ((c:Int)+1)=((c+1:Nat):Int)from ax O];refine qhq K J G Q c0 hy fy N (c+1) s1 O O O ⟨e2.1,λi hi=> ?_⟩;have:=e2.2 i hi;dsimp only at this⊢;rw[hC.step Q h1 hc];by_cases e:i=(I.getD c 0).toNat;{rw[iP e]at this⊢;rw[e,hC.fresh Q h1 hc,NT,E3,Lr]at this;rw[e];rw[show 1+(c+1)=1+c+1 by omega];exact this};{rw[af e]at this⊢;rw[show 1+(c+1)=1+c+1 by omega];exact this}};{refine⟨s,by rw[af hc],hs.1,λi hi=> ?_⟩;have:=hs.2 i hi;have ec:c=(S.getD (j+1) 0).toNat:=O;dsimp only at this;rw[ec,<-hC.full Q]at this;rw[show tF S I W v (j+1) i=tF S I W v j i-aM (ent S I W i j I.length)*aM (dC S I W v j)from by unfold tF;rw[sm];unfold TT;omega];exact this}
theorem qt1 {j:Nat}:Y7 (aE (tF S I W v j j) (-2148)) 0=dC S I W v j:=by unfold dC;rw[Sf];rfl
theorem qhp: ∀(N j:Nat) (s:List (List bK)),n-j<N->j<=n->SS n s (tF S I W v j) (1+(S.getD j 0).toNat)->
 mD m N S I W s (cg (List.replicate n 0) j (dC S I W v)) (n:Int) (j:Int)=some (if ql (iV (dC S I W v)) j n=true then .inr (.inl (c7 n (dC S I W v),()))else .inl ([],233,()))
 |0,j,s,h,_,_=>absurd h (zA _)
 |N+1,j,s,h,d0,hs=>by have hn:=hC.hn;have hS:=hC.hS;have i0:=hC.IW;have g0:=hC.Il;rw[mD,bQ];by_cases u:j<n;{have c0:=hC.st.rng (j:=j) O;have hr:=hC.st.rng (j:=j+1) O;have hle:=hC.st.le (i:=j) (j:=j+1) O O;have uy:cr (dC S I W v j):=oR;have e0:(cg (List.replicate n (0:Int)) j (dC S I W v)).length=n:=by{rw[Qq,zI]};have G:(cg (List.replicate n (0:Int)) (j+1) (dC S I W v)).length=n:=by{rw[Qq,zI]};have Q:(cg (List.replicate n (0:Int)) (j+1) (dC S I W v)).getD j 0=dC S I W v j:=by{rw[Yf (by rw[zI];exact u),iP O]};rw[iP O,qi5 hm hs O u,bS];dsimp only;rw[NI O,bS];dsimp only;rw[qt1 hm hC hv hl,iP O,zH,tN,Zp (by rw[zI];exact u),iP O,Q,A5 uy,bS,qy u];by_cases J:aT (dC S I W v j);{have K:SS n s (λi=>tF S I W v j i-aM (ent S I W i j (S.getD j 0).toNat)*aM (dC S I W v j)) (1+(S.getD j 0).toNat):=by{refine⟨hs.1,λi hi=> ?_⟩;have:=hs.2 i hi;dsimp only;rw[U7 O,NT,E3,Lr];exact this};obtain⟨s',e1,e2⟩:=qhq hm hC hv hl _ (n:Int) (j:Int) u G Q J m (S.getD j 0).toNat s O O O K;rw[show(((S.getD j 0).toNat:Nat):Int)=S.getD j 0 by omega]at e1;rw[show iV (dC S I W v) j=true from decide_eq_true J,decide_eq_true J,show(!true)=false from rfl,cond_false,lr];rw[iP O,e1,bS];dsimp only;rw[show wI ((j:Int)+1)=((j+1:Nat):Int)from ax O];exact qhp N (j+1) s' O O e2};{rw[show iV (dC S I W v) j=false from decide_eq_false J,decide_eq_false J,show(!false)=true from rfl,cond_true,xj,af (by decide)]}};{have e:j=n:=O;subst e;have:=Yq (b:=List.replicate j (0:Int)) (q:=dC S I W v);rw[zI]at this;rw[af O,this,Q5 O,iP rfl];rfl}
theorem qqh:tL m S I W v=some (if ql (iV (dC S I W v)) 0 n=true then(c7 n (dC S I W v),0,())else([],233,()),(),(),(),(),()):=by have hn:=hC.hn;obtain⟨s,J,h2⟩:=qhu hm (v:=v) O hv;have hs:SS n s (tF S I W v 0) (1+(S.getD 0 0).toNat):=by{rw[hl]at h2;refine⟨h2.1,λi G=> ?_⟩;have:=(h2.2 i G).mono (d:=1+(S.getD 0 0).toNat) O;rw[show tF S I W v 0 i=dK (v.getD i 0)from by unfold tF;rw[sm,Lr]];exact this};have u:=qhp hm hC hv hl m 0 s O O hs;rw[nZ,Z9]at u;rw[tL,J,bS,hl,iP O,tN,u,bS];cases ql (iV (dC S I W v)) 0 n<;>rfl
end
end Go.Vs.F
set_option maxRecDepth 100000
namespace Go.Vs.F
def DL.eq {l:List bK} {t t':Int} {c:Nat} (h:DL l t c) (e:t=t'):DL l t' c:=e▸h
def d9 (n:Nat) (q:Nat->Nat->Int):List LI:=(List.range n).map λi=>c7 n (q i)
def Y5 {n:Nat} {q:Nat->Nat->Int}:(d9 n q).length=n:=by unfold d9;simp
def Ny {n i:Nat} {q:Nat->Nat->Int} (u:i<n):(d9 n q).getD i []=c7 n (q i):=by unfold d9;simp[List.getD,u]
def qow {n r j:Nat} {q q':Nat->Nat->Int} {w:Int} (hr:r<n) (G:j<n) (h: ∀i k,i<n->k<n->q' i k=if i=r/\k=j then w else q i k):(d9 n q).set r (((d9 n q).getD r []).set j w)=d9 n q':=by rw[Ny hr];refine List.ext_getElem (by rw[zU,Y5,Y5]) λi O h2=> ?_;rw[Y5]at h2;rw[List.getElem_set];have K:(d9 n q')[i]'(by rw[Y5];exact h2)=c7 n (q' i):=by{unfold d9;simp};have J:(d9 n q)[i]'(by rw[Y5];exact h2)=c7 n (q i):=by{unfold d9;simp};rw[K];by_cases e:r=i;{subst e;rw[iP rfl];refine L7 (by rw[zU,Qp,Qp]) λk u=> ?_;rw[zU,Qp]at u;rw[Tc (by rw[Qp];exact G),J4 u,J4 u,h r k h2 u];by_cases e:k=j;{rw[iP e,iP ⟨rfl,e⟩]};{rw[af e,af (λq=>e q.2)]}};{rw[af e,J];exact qks λk u=>by rw[h i k h2 u,af (λq=>e q.1.symm)]}
def gT (n:Nat) (S I W:LI) (c:Nat):List LI:=d9 n λi j=>ent S I W i j c
def qtp {n:Nat}:List.replicate n (List.replicate n (0:Int))=d9 n λ_ _=>0:=by unfold d9;rw[qu2,List.map_const',xa]
section
variable {m:Nat} (hm:5000000000<=m) {n:Nat} {S I W:LI} (hC:sR n S I W) {f0 Z D v:LI} {f6:Int}
include hm hC
theorem ZF: ∀(N k:Nat),n-k<N->k<=n->
 qV m N v f0 Z D S I W f6 (n:Int) (List.replicate k (List.replicate n (0:Int))) (k:Int)=some (.inl (v,(f0,Z,D,S,I,W,f6,()),(n:Int),List.replicate n (List.replicate n (0:Int)),()))
 |0,k,h,_=>absurd h (zA _)
 |N+1,k,h,u=>by have hn:=hC.hn;rw[qV,bQ];by_cases G:k<n;{rw[iP O,iP O,iP (by rw[zL,zI];omega),tN,<-List.replicate_succ',show wI ((k:Int)+1)=((k+1:Nat):Int)from ax O];exact ZF N (k+1) O O};{rw[af O,show k=n by omega]}
theorem ZW {j:Nat} (G:j<n): ∀(N c:Nat),(S.getD (j+1) 0).toNat-c<N->S.getD j 0<=(c:Int)->(c:Int)<=S.getD (j+1) 0->
 qT m N v f0 Z D S I W f6 (n:Int) (gT n S I W c) (j:Int) (c:Int)=some (.inl (v,(f0,Z,D,S,I,W,f6,()),(n:Int),gT n S I W (S.getD (j+1) 0).toNat,(j:Int),()))
 |0,c,h,_,_=>absurd h (zA _)
 |N+1,c,h,J,h2=>by have hn:=hC.hn;have hS:=hC.hS;have d0:=hC.IW;have c0:=hC.Il;have hr:=hC.st.rng (j:=j+1) O;have Q:wI ((j:Int)+1)=((j+1:Nat):Int):=by{rw[wQ,wi O O];omega};rw[qT,Q,iP O,tN,bQ];by_cases hc:(c:Int)<S.getD (j+1) 0;{obtain⟨l1,l2⟩:=hC.lo j c G J hc;have u:(I.getD c 0).toNat<n:=O;rw[iP hc,iP O,tN,tN,iP (by unfold gT;rw[Y5];omega),iP O,iP (by unfold gT;rw[Ny u,Qp];omega),show wI ((c:Int)+1)=((c+1:Nat):Int)from ax O];have:=qow (q:=λi j=>ent S I W i j c) (q':=λi j=>ent S I W i j (c+1)) (w:=W.getD c 0) u G λi k hi K=>by{by_cases e:k=j;{subst e;rw[hC.step K J hc];by_cases e:i=(I.getD c 0).toNat;{rw[iP e,iP ⟨e,rfl⟩]};{rw[af e,af (λq=>e q.1)]}};{rw[af (λq=>e q.2),hC.other G K e J hc]}};have e2:(gT n S I W c).set (I.getD c 0).toNat (((gT n S I W c).getD (I.getD c 0).toNat []).set j (W.getD c 0))=gT n S I W (c+1):=this;rw[e2];exact ZW G N (c+1) O O O};{rw[af hc,show c=(S.getD (j+1) 0).toNat by omega]}
theorem qrg: ∀(N j:Nat),n-j<N->j<=n->
 qU m N v f0 Z D S I W f6 (n:Int) (gT n S I W (S.getD j 0).toNat) (j:Int)=some (.inl (v,(f0,Z,D,S,I,W,f6,()),(n:Int),gT n S I W I.length,()))
 |0,j,h,_=>absurd h (zA _)
 |N+1,j,h,G=>by have hn:=hC.hn;have hS:=hC.hS;have Q:=hC.IW;have K:=hC.Il;rw[qU,bQ];by_cases J:j<n;{have u:=hC.st.rng (j:=j) O;have hr:=hC.st.rng (j:=j+1) O;have hle:=hC.st.le (i:=j) (j:=j+1) O O;have e:=ZW hm hC (v:=v) (f0:=f0) (Z:=Z) (D:=D) (f6:=f6) J m (S.getD j 0).toNat O O O;rw[show(((S.getD j 0).toNat:Nat):Int)=S.getD j 0 by omega]at e;rw[iP O,iP O,tN,e,bS];dsimp only;rw[show wI ((j:Int)+1)=((j+1:Nat):Int)from ax O];exact qrg N (j+1) O O};{have e:j=n:=O;subst e;rw[af O,show(S.getD j 0).toNat=I.length by rw[hC.st.last];omega]}
omit hC in
theorem ql8 {l x:LI} (hl:l.length<=1000) (he:x.length=l.length) (h1:b9 l) (h2:b9 x) (K J:Bool) (G:LI) (u t:Int): ∀(N k:Nat) (s:List bK),l.length-k<N->k<=l.length->DL s (t-sm k λi=>aM (l.getD i 0)*aM (x.getD i 0)) (1+k)->
 ∃Q,nj m N l x K J G u s (k:Int)=some (.inl (x,(K,J,G,u,()),Q,()))/\DL Q (t-sm l.length λi=>aM (l.getD i 0)*aM (x.getD i 0)) (1+l.length)
 |0,k,s,h,_,_=>absurd h (zA _)
 |N+1,k,s,h,c0,hd=>by rw[nj,bQ];by_cases hk:k<l.length;{obtain⟨u1,f1⟩:=h1 k hk;obtain⟨u2,f2⟩:=h2 k O;have hp:b7 (-(aM (l.getD k 0)*aM (x.getD k 0))) (-2148):=by{have:=Xn f1 f2;rw[Y8]at*;rw[xi];omega};have d0:=hd.len;have hA:=hd.add hp;rw[iP O,iP O,iP O,zH,tN,Y3 O u1 u2 f1 f2,bS];dsimp only;rw[qht O,bS,iP (by rw[zL];omega),show wI ((k:Int)+1)=((k+1:Nat):Int)from ax O];dsimp only;refine ql8 hl he h1 h2 K J G u t N (k+1) _ O O ?_;rw[show t-sm (k+1) (λi=>aM (l.getD i 0)*aM (x.getD i 0))=t-sm k (λi=>aM (l.getD i 0)*aM (x.getD i 0))+ -(aM (l.getD k 0)*aM (x.getD k 0)) by rw[sm];omega];exact hA};{rw[af O,<-show k=l.length by omega];exact⟨s,rfl,hd⟩}
omit hC in
theorem qky {l x:LI} {b:Int} (hl:l.length<=1000) (he:x.length=l.length) (J:b9 l) (h2:b9 x) (u:aT b):
 Ah m (fp b).1 (fp b).2.1 (fp b).2.2.1 (fp b).2.2.2.1 l x=some (aE (dK b-sm l.length λi=>aM (l.getD i 0)*aM (x.getD i 0)) (-2148),(),(),x,()):=by rw[NB u];have hd:=(DL.one (Sn u)).eq (show dK b=dK b-sm 0 λi=>aM (l.getD i 0)*aM (x.getD i 0) by rw[sm,Lr]);obtain⟨Q,G,K⟩:=ql8 hm hl he J h2 false false [] 0 (dK b) m 0 _ O O hd;rw[nZ]at G;rw[Ah,G,bS];dsimp only;rw[K.rsum O O];rfl
end
end Go.Vs.F
set_option maxRecDepth 100000
namespace Go.Vs.F
def L3 {l:LI} {k i:Nat} (h:i<k):(l.take k).getD i 0=l.getD i 0:=by simp[List.getD,List.getElem?_take,h]
def NH {l:LI} {k i:Nat}:(l.drop k).getD i 0=l.getD (k+i) 0:=by simp[List.getD]
def b9.take {l:LI} (h:b9 l) {k:Nat}:b9 (l.take k):=λi u=>by rw[zT]at u;rw[L3 O];exact h i O
def b9.drop {l:LI} (h:b9 l) {k:Nat}:b9 (l.drop k):=λi u=>by rw[iA]at u;rw[NH];exact h (k+i) O
def So {n:Nat} {q:Nat->Int} (h: ∀i,i<n->cr (q i)/\aT (q i)):b9 (c7 n q):=λi u=>by rw[Qp]at u;rw[J4 u];exact h i u
section
variable {m:Nat} (hm:5000000000<=m) {n:Nat} {S I W:LI} (hC:sR n S I W) {f0 Z D v:LI} {f6:Int} (hv:b9 v) (hl:v.length=n)
include hm hC hv hl
theorem YW: ∀(N k:Nat),n-k<N->k<=n->(∀i,i<k->aT (dC S I W v i))->
 qS m N f0 Z D S I W f6 (n:Int) (gT n S I W I.length) (cg v k (dC S I W v)) (k:Int)=some (if ql (iV (dC S I W v)) k n=true then .inr (.inl ((f0,Z,D,S,I,W,f6,()),(n:Int),gT n S I W I.length,c7 n (dC S I W v),()))else .inl ([],233,()))
 |0,k,h,_,_=>absurd h (zA _)
 |N+1,k,h,c0,Q=>by have hn:=hC.hn;have d0:=hC.IW;rw[qS,bQ];by_cases K:k<n;{have fl:(cg v k (dC S I W v)).length=n:=by{rw[Qq];exact hl};have e0:(cg v (k+1) (dC S I W v)).length=n:=by{rw[Qq];exact hl};obtain⟨uv,fv⟩:=hv k O;have uy:cr (dC S I W v k):=oR;have G:(gT n S I W I.length).getD k []=c7 n λj=>ent S I W k j I.length:=Ny K;have hx:b9 ((cg v k (dC S I W v)).take k):=λi u=>by{rw[zT]at u;rw[L3 O,Yf O,iP O];exact⟨oR,Q i O⟩};have hr:b9 ((c7 n λj=>ent S I W k j I.length).take k):=(So λi u=>U9 hC.hW O).take;have e1:=qky hm (l:=(c7 n λj=>ent S I W k j I.length).take k) (x:=(cg v k (dC S I W v)).take k) (b:=v.getD k 0) (by rw[zT,Qp];omega) (by rw[zT,zT,Qp,fl]) hr hx fv;have e2:(sm ((c7 n λj=>ent S I W k j I.length).take k).length λi=>aM (((c7 n λj=>ent S I W k j I.length).take k).getD i 0)*aM (((cg v k (dC S I W v)).take k).getD i 0))=sm k λi=>TT S I W k i*aM (dC S I W v i):=by{rw[zT,Qp,LB O];refine Jt λi u=> ?_;rw[L3 u,L3 u,J4 O,Yf O,iP u];rfl};rw[e2]at e1;have e3:Y7 (aE (dK (v.getD k 0)-sm k λi=>TT S I W k i*aM (dC S I W v i)) (-2148)) 0=dC S I W v k:=(Sf (T:=TT S I W) (b:=λi=>v.getD i 0)).symm;have hg:(cg v (k+1) (dC S I W v)).getD k 0=dC S I W v k:=by{rw[Yf O,iP O]};rw[iP O,iP O,zH,tN,Yf O,af O,vP O uv,bS];dsimp only;rw[G,iP (by unfold gT;rw[Y5];omega),iP (by rw[Qp];omega),iP O,iP O,i6,Ms,e1,bS];dsimp only;rw[L5 hm,bS];dsimp only;rw[e3,sG,vH,zH,vG,iP O,Zp O,iP O,hg,Xv uy,bS,qy K];dsimp only;by_cases J:aT (dC S I W v k);{rw[show iV (dC S I W v) k=true from decide_eq_true J,decide_eq_true J,show(!true)=false from rfl,cond_false,lr,show wI ((k:Int)+1)=((k+1:Nat):Int)from ax O];exact YW N (k+1) O O λi u=>by{by_cases e:i=k;{rw[e];exact J};{exact Q i O}}};{rw[show iV (dC S I W v) k=false from decide_eq_false J,decide_eq_false J,show(!false)=true from rfl,cond_true,xj,af (by decide)]}};{have e:k=n:=O;subst e;have:=Yq (b:=v) (q:=dC S I W v);rw[hl]at this;rw[af O,this,Q5 O,iP rfl];rfl}
end
section
variable {m:Nat} (hm:5000000000<=m) {n:Nat} (hn:n<=200) {q:Nat->Nat->Int}
include hm hn
def lf (n:Nat) (q:Nat->Nat->Int) (i:Nat):List LI:=(List.range i).map λr=>c7 n λc=>q c r
omit hm hn in
theorem NC {i:Nat}:(lf n q i).length=i:=by unfold lf;simp
theorem qr8 {i:Nat} (G:i<n): ∀(N k:Nat),n-k<N->k<=n->
 nh m N (d9 n q) (lf n q i++[cg (List.replicate n 0) k λc=>q c i]) (i:Int) (k:Int)=some (.inl (d9 n q,lf n q (i+1),(i:Int),()))
 |0,k,h,_=>absurd h (zA _)
 |N+1,k,h,J=>by rw[nh,bQ];have K:(lf n q i++[cg (List.replicate n 0) k λc=>q c i]).getD i []=cg (List.replicate n 0) k λc=>q c i:=by{simp[List.getD,List.getElem?_append_right,NC]};have hs: ∀x:LI,(lf n q i++[cg (List.replicate n 0) k λc=>q c i]).set i x=lf n q i++[x]:=λx=>by{rw[List.set_append_right _ _ (by rw[NC];omega),NC,xg,List.set_cons_zero]};by_cases u:k<n;{rw[iP (by rw[Y5];omega),iP (by rw[zG,NC,zL];omega),iP (by rw[Y5];omega),tN,tN,Ny u,iP (by rw[Qp];omega),K,iP (by rw[Qq,zI];omega),J4 G,hs,Zp (q:=λc=>q c i) (by rw[zI];exact u),show wI ((k:Int)+1)=((k+1:Nat):Int)from ax O];exact qr8 G N (k+1) O O};{have e:k=(List.replicate n (0:Int)).length:=by{rw[zI];omega};rw[af (by rw[Y5];omega),e,Yq,zI];rw[show lf n q i++[(List.range n).map λc=>q c i]=lf n q (i+1) by unfold lf;rw[AU,sJ];rfl]}
theorem qqy: ∀(N i:Nat),n-i<N->i<=n->
 ni m N (d9 n q) (lf n q i) (i:Int)=some (.inl (d9 n λr c=>q c r,()))
 |0,k,h,_=>absurd h (zA _)
 |N+1,i,h,u=>by rw[ni,bQ];by_cases G:i<n;{have e:=qr8 hm hn (q:=q) G m 0 O O;rw[nZ,Z9]at e;rw[Y5,iP O,iP O,iP (by rw[zL,NC];omega),tN,e,bS];dsimp only;rw[show wI ((i:Int)+1)=((i+1:Nat):Int)from ax O];exact qqy N (i+1) O O};{rw[af (by rw[Y5];omega),show i=n by omega];rfl}
theorem qvc:Ei m (d9 n q)=some (d9 n λr c=>q c r,(),()):=by have e:=qqy hm hn (q:=q) m 0 O O;rw[nZ,show lf n q 0=[]from rfl]at e;rw[Ei,e];rfl
end
def cf (b:LI) (k:Nat) (q:Nat->Int):LI:=(List.range b.length).map λi=>if k<=i then q i else b.getD i 0
def Y9 {b:LI} {k:Nat} {q:Nat->Int}:(cf b k q).length=b.length:=by unfold cf;simp
def Yv {b:LI} {k i:Nat} {q:Nat->Int} (u:i<b.length):(cf b k q).getD i 0=if k<=i then q i else b.getD i 0:=by unfold cf;simp[List.getD,u]
def qcj {b:LI} {k:Nat} {q:Nat->Int} (G:k<b.length):(cf b (k+1) q).set k (q k)=cf b k q:=by refine L7 (by rw[zU,Y9,Y9]) λi u=> ?_;rw[zU,Y9]at u;rw[Tc (by rw[Y9];exact G),Yv u,Yv u];by_cases e:i=k;{subst e;rw[iP rfl,iP O]};{rw[af e];by_cases c:k<=i;{rw[iP O,iP c]};{rw[af O,af c]}}
def qcw {b:LI} {q:Nat->Int}:cf b b.length q=b:=by refine L7 Y9 λi u=> ?_;rw[Y9]at u;rw[Yv u,af O]
def q8w {b:LI} {q:Nat->Int}:cf b 0 q=c7 b.length q:=by unfold cf c7;exact AY λi u=>iP (oY _)
def dD (n:Nat) (S I W v:LI):Nat->Int:=Rc n (TT S I W) λi=>v.getD i 0
def sf (y:Nat->Int):Nat->Bool
 |0=>true
 |k+1=>iV y k&&sf y k
def qhz {y:Nat->Int}: ∀{k:Nat},sf y k=true↔ ∀i,i<k->aT (y i)
 |0=>⟨λ_ i u=>absurd u (zA _),λ_=>rfl⟩
 |k+1=>by rw[sf,zM,qhz,decide_eq_true_iff];constructor;{rintro ⟨a,b⟩ i u;by_cases e:i=k;{rw[e];exact a};{exact b i O}};{exact λh=>⟨h k O,λi u=>h i O⟩}
section
variable {m:Nat} (hm:5000000000<=m) {n:Nat} {S I W:LI} (hC:sR n S I W) {f0 Z D v:LI} {f6:Int} (hv:b9 v) (hl:v.length=n)
include hm hC hv hl
theorem ZH: ∀(N k:Nat),k<N->k<=n->(∀i,k<=i->i<n->aT (dD n S I W v i))->
 oF m N f0 Z D S I W f6 (cf v k (dD n S I W v)) (d9 n λr c=>ent S I W c r I.length) ((k:Int)-1)=some (if sf (dD n S I W v) k=true then .inr (.inl ((f0,Z,D,S,I,W,f6,()),c7 n (dD n S I W v),()))else .inl ([],233,()))
 |0,k,h,_,_=>absurd h (zA _)
 |N+1,0,h,_,_=>by{rw[oF,bQ,af O,q8w,hl];rfl}
 |N+1,k+1,h,hk,Q=>by have hn:=hC.hn;have c0:=hC.IW;have K:(cf v (k+1) (dD n S I W v)).length=n:=by{rw[Y9];exact hl};have fl:(cf v k (dD n S I W v)).length=n:=by{rw[Y9];exact hl};obtain⟨uv,fv⟩:=hv k O;have uy:cr (dD n S I W v k):=su;have u:(d9 n λr c=>ent S I W c r I.length).getD k []=c7 n λj=>ent S I W j k I.length:=Ny O;have hx:b9 ((cf v (k+1) (dD n S I W v)).drop (k+1)):=λi J=>by{rw[iA]at J;rw[NH,Yv O,iP O];exact⟨su,Q _ O O⟩};have hr:b9 ((c7 n λj=>ent S I W j k I.length).drop (k+1)):=(So λi J=>U9 hC.hW O).drop;have e1:=qky hm (l:=(c7 n λj=>ent S I W j k I.length).drop (k+1)) (x:=(cf v (k+1) (dD n S I W v)).drop (k+1)) (b:=v.getD k 0) (by rw[iA,Qp];omega) (by rw[iA,iA,Qp,K]) hr hx fv;have e2:(sm ((c7 n λj=>ent S I W j k I.length).drop (k+1)).length λi=>aM (((c7 n λj=>ent S I W j k I.length).drop (k+1)).getD i 0)*aM (((cf v (k+1) (dD n S I W v)).drop (k+1)).getD i 0))=sm (n-k-1) λi=>TT S I W (k+1+i) k*aM (dD n S I W v (k+1+i)):=by{rw[iA,Qp,show n-(k+1)=n-k-1 by omega];refine Jt λi J=> ?_;rw[NH,NH,J4 O,Yv O,iP O];rfl};rw[e2]at e1;have e3:Y7 (aE (dK (v.getD k 0)-sm (n-k-1) λi=>TT S I W (k+1+i) k*aM (dD n S I W v (k+1+i))) (-2148)) 0=dD n S I W v k:=(ZU (T:=TT S I W) (b:=λi=>v.getD i 0) O).symm;have hg:(cf v k (dD n S I W v)).getD k 0=dD n S I W v k:=by{rw[Yv O,iP O]};have w0:(((k+1:Nat):Int)-1)=(k:Int):=O;have w1:wI ((k:Int)+1)=((k+1:Nat):Int):=ax O;have ed:((cf v (k+1) (dD n S I W v)).drop (k+1)).take ((cf v (k+1) (dD n S I W v)).length-(k+1))=(cf v (k+1) (dD n S I W v)).drop (k+1):=ux (by rw[iA];omega);have ec:(cf v (k+1) (dD n S I W v)).take (k+1)++((cf v (k+1) (dD n S I W v)).drop (k+1)++(cf v (k+1) (dD n S I W v)).drop (k+1+((cf v (k+1) (dD n S I W v)).length-(k+1))))=cf v (k+1) (dD n S I W v):=by{rw[Be (i:=k+1+_) O,ls,vG]};rw[w0,oF,bQ,iP O,iP O,w1,zH,zH,tN,tN,Yv O,af O,vP O uv,bS];dsimp only;rw[u,iP (by rw[Y5];omega),iP (by rw[Qp];omega),iP O,iP O,ed,e1,bS];dsimp only;rw[L5 hm,bS];dsimp only;rw[e3,ec,iP O,qcj O,iP O,hg,Xv uy,bS,sf];dsimp only;by_cases G:aT (dD n S I W v k);{rw[show iV (dD n S I W v) k=true from decide_eq_true G,decide_eq_true G,show(!true)=false from rfl,cond_false,lr,show wI ((k:Int)-1)=(k:Int)-1 from by rw[wQ,wi O O]];exact ZH N k O O λi h1 h2=>by{by_cases e:i=k;{rw[e];exact G};{exact Q i O h2}}};{rw[show iV (dD n S I W v) k=false from decide_eq_false G,decide_eq_false G,show(!false)=true from rfl,cond_true,xj,af (by decide)]}
end
end Go.Vs.F
set_option maxRecDepth 100000
namespace Go.Vs.F
def Bw (n:Nat) (S I W v:LI) (k c:Nat):Int:=sm n λi=>aM (ent S I W i k c)*aM (dD n S I W v i)
section
variable {m:Nat} (hm:5000000000<=m) {n:Nat} {S I W:LI} (hC:sR n S I W) {f0 Z D v:LI} {f6:Int} (hv:b9 v) (hl:v.length=n)
include hC
theorem qq7 {k c:Nat} (u:k<n) (G:S.getD k 0<=(c:Int)) (h2:(c:Int)<S.getD (k+1) 0):Bw n S I W v k (c+1)=Bw n S I W v k c+aM (W.getD c 0)*aM (dD n S I W v (I.getD c 0).toNat):=by obtain⟨K,J⟩:=hC.lo k c u G h2;unfold Bw;rw[qr0 (k:=(I.getD c 0).toNat) (f:=λi=>aM (ent S I W i k (c+1))*aM (dD n S I W v i)) (g:=λi=>aM (ent S I W i k c)*aM (dD n S I W v i)) O λi Q e=>by rw[hC.step u G h2,af e]];rw[hC.step u G h2,iP rfl,hC.fresh u G h2,NT,E3,Lr]
theorem qu1 {k:Nat} (u:k<n):Bw n S I W v k (S.getD (k+1) 0).toNat=sm (n-k-1) λi=>TT S I W (k+1+i) k*aM (dD n S I W v (k+1+i)):=by unfold Bw;rw[Jt (g:=λi=>TT S I W i k*aM (dD n S I W v i)) λi G=>by rw[<-hC.full u];rfl];have:=VF (f:=λi=>TT S I W i k*aM (dD n S I W v i)) (k:=k+1) (r:=n-k-1);rw[show k+1+(n-k-1)=n by omega]at this;rw[this,UF (n:=k+1) λi G=>by rw[hC.TT0 u O,E3],RN]
theorem qp7 {k c:Nat} (h:(c:Int)<=S.getD k 0):Bw n S I W v k c=0:=by unfold Bw;exact UF λi u=>by rw[U7 h,NT,E3]
include hm hv hl
theorem qly {zl:LI} {k:Nat} (J:k<n) (K:zl.length=n) (hz: ∀i,k<i->i<n->zl.getD i 0=dD n S I W v i/\aT (dD n S I W v i)): ∀(N c:Nat) (s:List (List bK)) (t:Nat->Int) (C:Nat),(S.getD (k+1) 0).toNat-c<N->S.getD k 0<=(c:Int)->(c:Int)<=S.getD (k+1) 0->
 SS n s t C->C+((S.getD (k+1) 0).toNat-c)<=9000->t k=dK (v.getD k 0)-Bw n S I W v k c->
 ∃G t',nr m N f0 Z D S I W f6 s zl (k:Int) (c:Int)=some (.inl ((f0,Z,D,S,I,W,f6,()),G,zl,(k:Int),()))/\SS n G t' (C+((S.getD (k+1) 0).toNat-c))/\(∀i,i≠k->t' i=t i)/\t' k=dK (v.getD k 0)-Bw n S I W v k (S.getD (k+1) 0).toNat
 |0,c,s,t,C,h,_,_,_,_,_=>absurd h (zA _)
 |N+1,c,s,t,C,h,h1,h2,hs,e0,Q=>by have hn:=hC.hn;have hS:=hC.hS;have d0:=hC.IW;have c0:=hC.Il;have hr:=hC.st.rng (j:=k+1) O;have w1:wI ((k:Int)+1)=((k+1:Nat):Int):=by{rw[wQ,wi O O];omega};rw[nr,w1,iP O,tN,bQ];by_cases hc:(c:Int)<S.getD (k+1) 0;{obtain⟨l1,l2⟩:=hC.lo k c J h1 hc;obtain⟨u,f⟩:=hC.hW c O;obtain⟨z1,z2⟩:=hz (I.getD c 0).toNat O O;have uy:cr (dD n S I W v (I.getD c 0).toNat):=su;obtain⟨s1,e1,e2⟩:=q84 hm hs O J u f uy z2;rw[iP hc,iP O,iP O,tN,iP O,zH,z1,e1,bS,show wI ((c:Int)+1)=((c+1:Nat):Int)from ax O];obtain⟨G,t',g1,g2,g3,g4⟩:=qly J K hz N (c+1) s1 _ (C+1) O O O e2 O (by rw[iP rfl,Q,qq7 hC J h1 hc];omega);refine⟨G,t',g1,?_,λi hi=>by rw[g3 i hi];exact af hi,g4⟩;rw[show C+((S.getD (k+1) 0).toNat-c)=C+1+((S.getD (k+1) 0).toNat-(c+1)) by omega];exact g2};{have ec:c=(S.getD (k+1) 0).toNat:=O;refine⟨s,t,by rw[af hc],?_,λ_ _=>rfl,by rw[<-ec];exact Q⟩;rw[show C+((S.getD (k+1) 0).toNat-c)=C by omega];exact hs}
theorem qoh: ∀(N k:Nat) (s:List (List bK)) (t:Nat->Int),k<N->k<=n->(∀i,k<=i->i<n->aT (dD n S I W v i))->
 SS n s t (1+(I.length-(S.getD k 0).toNat))->(∀i,i<k->t i=dK (v.getD i 0))->
 fx m N f0 Z D S I W f6 s (cf (List.replicate n 0) k (dD n S I W v)) ((k:Int)-1)=some (if sf (dD n S I W v) k=true then .inr (.inl ((f0,Z,D,S,I,W,f6,()),c7 n (dD n S I W v),()))else .inl ([],233,()))
 |0,k,s,t,h,_,_,_,_=>absurd h (zA _)
 |N+1,0,s,t,h,_,_,_,_=>by{rw[fx,bQ,af O,q8w,zI];rfl}
 |N+1,k+1,s,t,h,hk,hf,hs,K=>by have hn:=hC.hn;have hS:=hC.hS;have e0:=hC.IW;have d0:=hC.Il;have c0:=hC.st.rng (j:=k) O;have hr:=hC.st.rng (j:=k+1) O;have hle:=hC.st.le (i:=k) (j:=k+1) O O;have J:(cf (List.replicate n (0:Int)) (k+1) (dD n S I W v)).length=n:=by{rw[Y9,zI]};have fl:(cf (List.replicate n (0:Int)) k (dD n S I W v)).length=n:=by{rw[Y9,zI]};have uy:cr (dD n S I W v k):=su;have hg:(cf (List.replicate n (0:Int)) k (dD n S I W v)).getD k 0=dD n S I W v k:=by{rw[Yv (by rw[zI];omega),iP O]};have w0:(((k+1:Nat):Int)-1)=(k:Int):=O;obtain⟨s',t',g1,G,g3,g4⟩:=qly hm hC (f0:=f0) (Z:=Z) (D:=D) (f6:=f6) hv hl (zl:=cf (List.replicate n (0:Int)) (k+1) (dD n S I W v)) (k:=k) O J (λi h1 h2=>⟨by rw[Yv (by rw[zI];exact h2),iP O],hf i O h2⟩) m (S.getD k 0).toNat s t _ O O O hs O (by rw[qp7 hC O,Lr];exact K k O);rw[show(((S.getD k 0).toNat:Nat):Int)=S.getD k 0 by omega]at g1;have e3:Y7 (aE (t' k) (-2148)) 0=dD n S I W v k:=by{rw[g4,qu1 hC O];exact(ZU (T:=TT S I W) (b:=λi=>v.getD i 0) O).symm};rw[w0,fx,bQ,iP O,iP O,tN,g1,bS];dsimp only;rw[qi5 hm G O O,bS];dsimp only;rw[NI O,bS];dsimp only;rw[e3,iP O,zH,tN,qcj (by rw[zI];omega),iP O,hg,A5 uy,bS,sf];dsimp only;by_cases u:aT (dD n S I W v k);{rw[show iV (dD n S I W v) k=true from decide_eq_true u,decide_eq_true u,show(!true)=false from rfl,cond_false,lr,show wI ((k:Int)-1)=(k:Int)-1 from by rw[wQ,wi O O]];refine qoh N k s' t' O O (λi h1 h2=> ?_) ⟨G.1,λi Q=>(G.2 i Q).mono O⟩ λi Q=>by{rw[g3 i O];exact K i O};by_cases e:i=k;{rw[e];exact u};{exact hf i O h2}};{rw[show iV (dD n S I W v) k=false from decide_eq_false u,decide_eq_false u,show(!false)=true from rfl,cond_true,xj,af (by decide)]}
end
end Go.Vs.F
set_option maxRecDepth 100000
namespace Go.Vs.F
def WO (D y:LI) (p d:Nat):D5:=aE (aM (y.getD p 0)*aM (D.getD (d+2) 0)-aM (y.getD (p+1) 0)*aM (D.getD (d+1) 0)) (-2148)
def TX (D y:LI) (p d:Nat):D5:=aE (aM (y.getD (p+1) 0)*aM (D.getD d 0)-aM (y.getD p 0)*aM (D.getD (d+1) 0)) (-2148)
def EK (D y:LI) (p d:Nat) (one:Bool):LI:=if one then [jL (fp (y.getD p 0)) (fp (D.getD d 0)) 0]else [jL (WO D y p d) (aE (pt D d) (-2148)) 0,jL (TX D y p d) (aE (pt D d) (-2148)) 0]
def dV (Z D y:LI):Nat->LI
 |0=>[]
 |b+1=>dV Z D y b++EK D y (pre Z b).toNat (a9 Z b).toNat (Z.getD b 0==1)
def qvd {D y:LI} {p d:Nat} {one:Bool}: ∀x∈EK D y p d one,cr x:=by intro x u;unfold EK at u;split at u;{rw[zC.1 u];exact Nj};{rcases mC u with u|u;{rw[u];exact Nj};{rw[zC.1 u];exact Nj}}
def qqw {Z D y:LI}: ∀{b:Nat},∀x∈dV Z D y b,cr x
 |0,x,u=>by cases u
 |b+1,x,u=>by rw[dV,zX]at u;rcases u with u|u;{exact qqw x u};{exact qvd x u}
def SL {Z D y:LI}: ∀{b:Nat},(∀i,i<b->sO Z i=true)->((dV Z D y b).length:Int)=pre Z b
 |0,_=>rfl
 |b+1,h=>by have u:=SL (Z:=Z) (D:=D) (y:=y) (b:=b) λi G=>h i O;have hv:=Xm.1 (h b O);rw[dV,zG,xf,u,pre];unfold EK;rcases hv with hv|hv<;>rw[hv]<;>rfl
def LP {A t:LI} {p:Nat} {x:Int} (G:A.length=p) (u:p<t.length):(A++t.drop p).set p x=(A++[x])++t.drop (p+1):=by rw[List.set_append_right _ _ O,G,xg,ET u,List.set_cons_zero,pC];rfl
def Up {A t:LI} {p i:Nat} (u:A.length=p):(A++t.drop p).getD (p+i) 0=t.getD (p+i) 0:=by rw[qeg O,NH,u];congr 1;omega
section
variable {m:Nat} (hm:5000000000<=m) {f0 Z D S I W:LI} {f6:Int} (hz:Z.length<=1000) (h0:f0.length<=1000) (hd:D.length<=1000) (hP:PV f0.length Z D) (hD:b9 D) {y:LI} (hy:b9 y) (hl:y.length=f0.length)
include hm hz h0 hd hP hD hy hl
theorem Z0: ∀(n b:Nat),Z.length-b<n->b<=Z.length->
 jY m n y f0 Z D S I W f6 (dV Z D y b++(List.replicate f0.length (0:Int)).drop (pre Z b).toNat) (pre Z b) (a9 Z b) Z (Z.length:Int) (b:Int)=some (.inl (dV Z D y Z.length,()))
 |0,b,h,_=>absurd h (zA _)
 |n+1,b,h,k0=>by rw[jY,bQ];by_cases hb:b<Z.length;{have hv:=Xm.1 (hP.1 b hb);have bd:=vS (b:=b) λi hi=>hP.1 i O;have i0:=Jc (c:=Z.length) hP.1 (b:=b+1) O;have hn:=hP.2.2.2;have g0:=hP.2.2.1;have j0:=SL (Z:=Z) (D:=D) (y:=y) (b:=b) λi hi=>hP.1 i O;have e0:pre Z (b+1)=pre Z b+Z.getD b 0:=rfl;have e1:a9 Z (b+1)=a9 Z b+(2*Z.getD b 0-1):=rfl;have w0:wI (pre Z b+Z.getD b 0)=pre Z (b+1):=by{rw[wQ,wi O O,e0]};have w1:wI (wI (a9 Z b+wI (2*Z.getD b 0))-1)=a9 Z (b+1):=by{simp only[wQ];rw[wi (n:=2*Z.getD b 0) O O,wi (n:=a9 Z b+2*Z.getD b 0) O O,wi O O,e1];omega};obtain⟨p,hp⟩: ∃p:Nat,pre Z b=(p:Int):=⟨(pre Z b).toNat,O⟩;obtain⟨q,hq⟩: ∃q:Nat,a9 Z b=(q:Int):=⟨(a9 Z b).toNat,O⟩;have G:=Z0 n (b+1) O O;have hlen:(dV Z D y b++(List.replicate f0.length (0:Int)).drop p).length=f0.length:=by{rw[zG,iA,zI];omega};have hA:(dV Z D y b).length=p:=O;rw[dV,hp,hq,tN,tN]at G;rw[iP O,iP O,tN,w0,w1,show wI ((b:Int)+1)=((b+1:Nat):Int)from ax O,aA,hp,hq,tN,tN];rcases hv with hv|hv;{obtain⟨u1,f1⟩:=hy p O;obtain⟨u2,f2⟩:=hD q O;rw[iP hv,iP O,zH,dh O u1,bS,iP O,dh O u2,bS];dsimp only;rw[uQ hm (A2 _) (A2 _),bS,iP O,LP hA (by rw[zI];omega)];dsimp only;rw[hv,show((1:Int)==1)=true from rfl,show(pre Z (b+1)).toNat=p+1 by omega]at G;exact G};{obtain⟨u1,f1⟩:=hy p O;obtain⟨u2,f2⟩:=hy (p+1) O;obtain⟨v1,K⟩:=hD q O;obtain⟨v2,u⟩:=hD (q+1) O;obtain⟨v3,J⟩:=hD (q+2) O;have c0:wI ((q:Int)+1)=((q+1:Nat):Int):=by{rw[wQ,wi O O];omega};have Q:wI ((q:Int)+2)=((q+2:Nat):Int):=by{rw[wQ,wi O O];omega};have d0:wI ((p:Int)+1)=((p+1:Nat):Int):=by{rw[wQ,wi O O];omega};have mul: ∀{a c:Int},aT a->aT c->gR m (fp a).1 (fp a).2.1 (fp a).2.2.1 (fp a).2.2.2.1 (fp c).1 (fp c).2.1 (fp c).2.2.1 (fp c).2.2.2.1=some (aE (aM a*aM c) (-2148),(),(),()):=λ{a c} ha hc=>by{rw[Xl ha,Xl hc,I0 O,iP ⟨ck ha,ck hc⟩];rfl};rw[af O,iP O,dh O v1,bS,c0,Q,d0,iP O,tN,dh O v2,bS,iP O,tN,dh O v3,bS];dsimp only;rw[mul K J,bS,mul u u,bS];dsimp only;rw[No O,iP ⟨Xn K J,Xn u u⟩,bS,iP O,zH,dh O u1,bS,iP O,zH,tN,dh O u2,bS];dsimp only;rw[mul f1 J,bS,mul f2 u,bS];dsimp only;rw[No O,iP ⟨Xn f1 J,Xn f2 u⟩,bS];dsimp only;rw[uQ hm (dz _ _) (dz _ _),bS,iP O,mul f2 K,bS,mul f1 u,bS];dsimp only;rw[No O,iP ⟨Xn f2 K,Xn f1 u⟩,bS];dsimp only;rw[uQ hm (dz _ _) (dz _ _),bS,iP (by rw[zU];omega),LP hA (by rw[zI];omega)];dsimp only;rw[LP (p:=p+1) (by rw[zG,hA];rfl) (by rw[zI];omega)];rw[hv,show((2:Int)==1)=false from rfl,show(pre Z (b+1)).toNat=p+1+1 by omega]at G;rw[pC (dV Z D y b)];exact G}};{rw[af O,show b=Z.length by omega,hP.2.2.1,tN,Be (by rw[zI];omega),ls]}
omit hP hD hy hl in
theorem qmd {a:LI} (G:UL a) (hb:a.length<=1000): ∀(n k:Nat),a.length-k<n->
 mc m n a (a.length:Int) (k:Int)=some (if ql (λi=>decide (aT (a.getD i 0))) k a.length=true then .inr (.inl ())else .inl (4,()))
 |0,k,h=>absurd h (zA _)
 |n+1,k,h=>by rw[mc,bQ];by_cases u:k<a.length;{rw[iP O,iP O,tN,A5 (G k u),bS,qy u];dsimp only;by_cases c:aT (a.getD k 0);{rw[decide_eq_true c,show(!true)=false from rfl,cond_false,lr,show wI ((k:Int)+1)=((k+1:Nat):Int)from ax O];exact qmd G hb n (k+1) O};{rw[decide_eq_false c,show(!false)=true from rfl,cond_true,xj,af (by decide)]}};{rw[af O,Q5 O,iP rfl]}
omit hP hD hy hl in
theorem qnc {a:LI} (u:UL a) (hb:a.length<=1000):ym m a=some (if bq a=true then 0 else 4,(),()):=by have h:=qmd hm hz h0 hd u hb m 0 O;rw[nZ]at h;rw[ym,h,bS];unfold bq;cases ql (λi=>decide (aT (a.getD i 0))) 0 a.length<;>rfl
def fM (Z D y:LI):LI:=dV Z D y Z.length
omit hm hz h0 hd hD hy hl in
theorem qhf:(fM Z D y).length=f0.length:=by have:=SL (Z:=Z) (D:=D) (y:=y) (b:=Z.length) hP.1;have h2:=hP.2.2.1;unfold fM;omega
omit hm hz h0 hd hP hD hy hl in
theorem Ua:UL (fM Z D y):=λi u=>by refine qqw (Z:=Z) (D:=D) (y:=y) (b:=Z.length) _ ?_;unfold fM at u⊢;simp[List.getD,u]
theorem qmg:tG m f0 Z D S I W f6 y=some (if bq (fM Z D y)=true then(fM Z D y,0,())else([],233,()),(),(),()):=by have h:=Z0 hm hz h0 hd hP hD hy hl (S:=S) (I:=I) (W:=W) (f6:=f6) m 0 O O;rw[nZ,show pre Z 0=0 from rfl,show a9 Z 0=0 from rfl,show dV Z D y 0=[]from rfl,vH,show(0:Int).toNat=0 from rfl,i6]at h;rw[tG,iP O,hl,tN,h,bS];dsimp only;have u:=qhf (y:=y) hP;rw[qnc hm hz h0 hd (a:=dV Z D y Z.length) Ua (by show(fM Z D y).length<=1000;omega),bS];unfold fM;cases bq (dV Z D y Z.length)<;>rfl
theorem YY {n:Int} {l:List LI}: ∀(N b:Nat),Z.length-b<N->b<=Z.length->
 oG m N f0 Z D S I W f6 n (a9 Z b) l (dV Z D y b++y.drop (pre Z b).toNat) (pre Z b) (b:Int)=some (.inl ((f0,Z,D,S,I,W,f6,()),n,l,fM Z D y,()))
 |0,b,h,_=>absurd h (zA _)
 |N+1,b,h,l0=>by rw[oG,bQ];by_cases hb:b<Z.length;{have hv:=Xm.1 (hP.1 b hb);have bd:=vS (b:=b) λi hi=>hP.1 i O;have j0:=Jc (c:=Z.length) hP.1 (b:=b+1) O;have hn:=hP.2.2.2;have i0:=hP.2.2.1;have k0:=SL (Z:=Z) (D:=D) (y:=y) (b:=b) λi hi=>hP.1 i O;have e0:pre Z (b+1)=pre Z b+Z.getD b 0:=rfl;have e1:a9 Z (b+1)=a9 Z b+(2*Z.getD b 0-1):=rfl;have w0:wI (pre Z b+Z.getD b 0)=pre Z (b+1):=by{rw[wQ,wi O O,e0]};have w1:wI (wI (a9 Z b+wI (2*Z.getD b 0))-1)=a9 Z (b+1):=by{simp only[wQ];rw[wi (n:=2*Z.getD b 0) O O,wi (n:=a9 Z b+2*Z.getD b 0) O O,wi O O,e1];omega};obtain⟨p,hp⟩: ∃p:Nat,pre Z b=(p:Int):=⟨(pre Z b).toNat,O⟩;obtain⟨q,hq⟩: ∃q:Nat,a9 Z b=(q:Int):=⟨(a9 Z b).toNat,O⟩;have J:=YY (n:=n) (l:=l) N (b+1) O O;have hlen:(dV Z D y b++y.drop p).length=f0.length:=by{rw[zG,iA];omega};have G:(dV Z D y b).length=p:=O;rw[dV,hp,hq,tN,tN]at J;rw[iP O,iP O,tN,w1,w0,hp,hq,tN,iP O,iP O,aA,tN,show wI ((b:Int)+1)=((b+1:Nat):Int)from ax O];rcases hv with hv|hv;{obtain⟨Q,f1⟩:=hy p O;obtain⟨K,f2⟩:=hD q O;have ew:(D.drop q).take ((a9 Z (b+1)).toNat-q)=[D.getD q 0]:=by{rw[show(a9 Z (b+1)).toNat-q=1 by omega,cq (d:=0) (by omega:q<D.length)];rfl};have ga:(dV Z D y b++y.drop p).getD p 0=y.getD p 0:=Up (i:=0) G;have wd:wI ((q:Int)+((1:Nat):Int))=a9 Z (b+1):=by{rw[wQ,wi O O];omega};rw[iP hv,ew,iP O,zH,ga,vP O Q,bS,iP (by rw[zL];omega),EZ,vP O K,bS];dsimp only;rw[M3 hm (A2 _) (A2 _),bS,iP O,iP O,LP G O,zL,wd];dsimp only;rw[hv,show((1:Int)==1)=true from rfl,show(pre Z (b+1)).toNat=p+1 by omega]at J;exact J};{obtain⟨Q,f1⟩:=hy p O;obtain⟨K,f2⟩:=hy (p+1) O;obtain⟨v1,g1⟩:=hD q O;obtain⟨v2,g2⟩:=hD (q+1) O;obtain⟨v3,g3⟩:=hD (q+2) O;have c0:wI ((p:Int)+1)=((p+1:Nat):Int):=by{rw[wQ,wi O O];omega};have et:(a9 Z (b+1)).toNat-q=3:=O;have ew:(D.drop q).take 3=[D.getD q 0,D.getD (q+1) 0,D.getD (q+2) 0]:=by{rw[cq (d:=0) (by omega:q<D.length),cq (d:=0) (by omega:q+1<D.length),cq (d:=0) (by omega:q+1+1<D.length)];simp only[RF,sG]};have u:=ZM hm hz h0 O (f0:=f0) (W:=[]) (p:=q) (by rw[LA];omega) hD.U (λi hi=>absurd hi (zA _)) O hD;rw[ew]at u;have ga:(dV Z D y b++y.drop p).getD p 0=y.getD p 0:=Up (i:=0) G;have g0:(dV Z D y b++y.drop p).getD (p+1) 0=y.getD (p+1) 0:=Up (i:=1) G;have wd:wI ((q:Int)+((3:Nat):Int))=a9 Z (b+1):=by{rw[wQ,wi O O];omega};have d0:[D.getD q 0,D.getD (q+1) 0,D.getD (q+2) 0].length=3:=rfl;rw[af O,et,ew,d0,c0,wd];simp only[EZ,RD];rw[iP O,iP O,zH,ga,Y3 O Q v3 f1 g3,bS,iP O,iP O,zH,tN,g0,Y3 O K v2 f2 g2,bS];dsimp only;rw[SO O,iP ⟨Xn f1 g3,Xn f2 g2⟩,bS,iP O,iP O,Y3 O K v1 f2 g1,bS,iP O,iP O,Y3 O Q v2 f1 g2,bS];dsimp only;rw[SO O,iP ⟨Xn f2 g1,Xn f1 g2⟩,bS,u,bS];dsimp only;rw[M3 hm (dz _ _) (dz _ _),bS,bS];dsimp only;rw[M3 hm (dz _ _) (dz _ _),bS,iP O,iP (by rw[zU];omega),iP O,LP G O];dsimp only;rw[LP (p:=p+1) (by rw[zG,G];rfl) O];rw[hv,show((2:Int)==1)=false from rfl,show(pre Z (b+1)).toNat=p+1+1 by omega]at J;rw[pC (dV Z D y b)];exact J}};{rw[af O,show b=Z.length by omega,hP.2.2.1,tN,Be O,ls];rfl}
end
end Go.Vs.F
set_option maxRecDepth 100000
namespace Go.Vs.F
def s7 (Z D:LI) (b:Nat):Bool:= !((Z.getD b 0==1)&&A8 (D.getD (a9 Z b).toNat 0))
section
variable {m:Nat} (hm:5000000000<=m) {f0 Z D S I W:LI} {f6:Int} (hz:Z.length<=1000) (h0:f0.length<=1000) (hd:D.length<=1000) (hP:PV f0.length Z D) (hD:UL D)
include hm hz h0 hd hP hD
theorem qo3: ∀(n b:Nat),Z.length-b<n->b<=Z.length->
 jZ m n f0 Z D S I W f6 (a9 Z b) Z (Z.length:Int) (b:Int)=some (if ql (s7 Z D) b Z.length=true then .inr (.inl ())else .inl (true,()))
 |0,b,h,_=>absurd h (zA _)
 |n+1,b,h,K=>by rw[jZ,bQ];by_cases hb:b<Z.length;{have hv:=Xm.1 (hP.1 b hb);have bd:=vS (b:=b) λi hi=>hP.1 i O;have J:=Jc (c:=Z.length) hP.1 (b:=b+1) O;have hn:=hP.2.2.2;have Q:a9 Z (b+1)=a9 Z b+(2*Z.getD b 0-1):=rfl;have u:wI (a9 Z b+wI (wI (2*Z.getD b 0)-1))=a9 Z (b+1):=by{simp only[wQ];rw[wi (n:=2*Z.getD b 0) O O,wi (n:=2*Z.getD b 0-1) O O,wi O O,Q]};have G:=qo3 n (b+1) O O;rw[iP O,iP O,tN,aA,u,show wI ((b:Int)+1)=((b+1:Nat):Int)from ax O,G,qy hb];unfold s7;by_cases c:Z.getD b 0=1;{have hu:=hD (a9 Z b).toNat O;rw[iP c,iP O,(SD hu).1,bS,c];dsimp only;rw[V4 hu];cases A8 (D.getD (a9 Z b).toNat 0)<;>rfl};{rw[af c,show(Z.getD b 0==1)=false from beq_eq_false_iff_ne.2 c];rfl}};{rw[af O,Q5 O,iP rfl]}
theorem qj4 (v:LI) (G:Int): ∀(n b:Nat),Z.length-b<n->b<=Z.length->
 oH m n v f0 Z D S I W f6 G (a9 Z b) (b:Int)=some (if ql (s7 Z D) b Z.length=true then .inr (.inl (v,(f0,Z,D,S,I,W,f6,()),G,()))else .inl ([],9,()))
 |0,b,h,_=>absurd h (zA _)
 |n+1,b,h,c0=>by rw[oH,bQ];by_cases hb:b<Z.length;{have hv:=Xm.1 (hP.1 b hb);have bd:=vS (b:=b) λi hi=>hP.1 i O;have Q:=Jc (c:=Z.length) hP.1 (b:=b+1) O;have hn:=hP.2.2.2;have e1:a9 Z (b+1)=a9 Z b+(2*Z.getD b 0-1):=rfl;have J:wI (wI (a9 Z b+wI (2*Z.getD b 0))-1)=a9 Z (b+1):=by{simp only[wQ];rw[wi (n:=2*Z.getD b 0) O O,wi (n:=a9 Z b+2*Z.getD b 0) O O,wi O O,e1];omega};have K:=qj4 v G n (b+1) O O;have u:(0:Int)<=(b:Int)/\(b:Int)<(Z.length:Int):=O;rw[iP O,iP u,tN,aA,J,show wI ((b:Int)+1)=((b+1:Nat):Int)from ax O,K,qy hb];simp only[iP u];unfold s7;by_cases c:Z.getD b 0=1;{rw[iP c,iP O,Sw,bS,c];dsimp only;cases A8 (D.getD (a9 Z b).toNat 0)<;>rfl};{rw[af c,show(Z.getD b 0==1)=false from beq_eq_false_iff_ne.2 c];rfl}};{rw[af O,Q5 O,iP rfl]}
end
section
variable {f0 Z D S I W:LI} {f6:Int} (hc:wS f0 Z D S I W f6=0)
include hc
theorem VO:f0.length<=200/\hH f0=true/\S.length=f0.length+1/\I.length=W.length/\vA f0.length Z D S I f6/\bq W=true/\bq D=true:=by unfold wS at hc;split at hc;{cases hc};split at hc;{cases hc};split at hc;{cases hc};split at hc;{cases hc};split at hc;{cases hc};split at hc;{cases hc};rename_i a b c d e f;have u:=Rv.1 f;refine⟨O,?_,Rv.1 c,Rv.1 d,Rv.1 e,u.1,u.2⟩;cases h:hH f0 with|true=>rfl|false=>exact absurd h b
theorem qpz (Q:I.length<=5000) (uW:UL W):sR f0.length S I W:=by obtain⟨a1,a2,a3,a4,a5,a6,a7⟩:=VO hc;obtain⟨hP,h6,hC⟩:=(Sx a3).1 a5;have st:bO f0.length S I:=a5.2.1.start a3;have J: ∀j,j<f0.length-> ∃last:Int,(j:Int)<=last/\ql (sj (f0.length:Int) last S I j) (S.getD j 0).toNat (S.getD (j+1) 0).toNat=true:=λj u=>by{obtain⟨b,b1,b2,b3⟩:=VH (Z:=Z) (c:=Z.length) hP.1 (j:=(j:Int)) O (by rw[hP.2.2.1];omega);have h1:=qx.1 hC.2.2 b O b1;have bd:=vS (b:=b) λi hi=>hP.1 i O;have h2:=qx.1 h1 j O O;unfold ku at h2;rw[zM,qo1 st u]at h2;exact⟨pT Z b,by unfold pT;rw[pre]at b3;omega,h2.2⟩};refine⟨a1,a3,a4,Q,st,λj c u h1 h2=> ?_,λj c u h1 h2=> ?_,Zj uW a6⟩;{obtain⟨last,l1,K⟩:=J j u;have G:=qx.1 K c O O;unfold sj at G;simp only[zM,decide_eq_true_iff]at G;omega};{obtain⟨last,l1,K⟩:=J j u;have G:=qx.1 K c O O;have h4:=st.rng (j:=j) O;unfold sj at G;simp only[zM,EU,Bool.not_eq_true',decide_eq_true_iff,decide_eq_false_iff_not]at G;omega}
theorem qtm:PV f0.length Z D:=by obtain⟨a1,a2,G,O,u,K,J⟩:=VO hc;exact((Sx G).1 u).1
end
end Go.Vs.F
set_option maxRecDepth 100000
namespace Go.Vs.F
def qdv {n:Nat} {y:Nat->Int} (h:ql (iV y) 0 n=true): ∀i,i<n->aT (y i):=λi u=>of_decide_eq_true (qx.1 h i (oY _) u)
def qk9 {m:Nat} (hm:5000000000<=m) {f0 Z D S I W:LI} {f6:Int} (hz:Z.length<=1000) (h0:f0.length<=1000) (hd:D.length<=1000) (hI:I.length<=5000) (hS:S.length<=100000) (uD:UL D) (uW:UL W) (hw:W.length<=100000)
 (hc:wS f0 Z D S I W f6=0):UX m f0.length f0 Z D S I W f6:=by intro v hv hl;obtain⟨a1,a2,a3,a4,a5,a6,a7⟩:=VO hc;have hP:=qtm hc;have hC:=qpz hc hI uW;have hD:=Zj uD a7;have hr:=qmc a2;obtain⟨k1,k2⟩:=q97 hm hz h0 hd hw O hS uD uW (f0:=f0) (Z:=Z) (D:=D) (S:=S) (I:=I) (W:=W) (f6:=f6);rw[hc]at k1 k2;have fv:bq v=true:=by{unfold bq;exact qx.2 λi _ u=>decide_eq_true (hv i u).2};have s0:=qo3 hm hz h0 hd hP uD (S:=S) (I:=I) (W:=W) (f6:=f6) m 0 O O;have r0:=qj4 hm hz h0 hd hP uD (S:=S) (I:=I) (W:=W) (f6:=f6) v (f0.length:Int) m 0 O O;rw[nZ,show a9 Z 0=0 from rfl]at s0 r0;obtain⟨g1,g2⟩:=qg6 hm h0 (b:=v) hl hr;have gf:=qqg hm h0 (b:=v) hl hr hv;have gl:(fj v f0).length=f0.length:=qhv;have u1:=qqh hm hC gf gl;have d1:=ZF hm hC (v:=v) (f0:=f0) (Z:=Z) (D:=D) (f6:=f6) m 0 O O;rw[nZ,List.replicate_zero]at d1;have d2:=qrg hm hC (v:=v) (f0:=f0) (Z:=Z) (D:=D) (f6:=f6) m 0 O O;rw[show gT f0.length S I W (S.getD 0 0).toNat=List.replicate f0.length (List.replicate f0.length (0:Int)) by rw[hC.st.s0,qtp];rfl,nZ]at d2;have d4:=YW hm hC (f0:=f0) (Z:=Z) (D:=D) (f6:=f6) gf gl m 0 O O (λi u=>absurd u (zA _));rw[nZ,Z9]at d4;have e1:Em m 0 (f0.length:Int) v=some (0,(),(),(),()):=by{rw[Em,aN,iP rfl,aN,hl,iP rfl,St O hv.U O,fv];rfl};have e2:C2 m v (f0.length:Int)=some (0,(),(),()):=by{rw[C2,aN,hl,iP rfl,qnc hm hz h0 hd hv.U O,fv];rfl};have e3:yF m f0 Z D S I W f6=some (!ql (s7 Z D) 0 Z.length,(),()):=by{rw[yF,s0];cases ql (s7 Z D) 0 Z.length<;>rfl};rw[Ao,TP,k1,k2,bS,bS];dsimp only;rw[e1,e2,e3,bS,bS,r0,bS];dsimp only;rw[show((0:Int)==0)=true from rfl,show((0:Int) !=0)=false from rfl,cond_true,cond_true,cond_false,cond_false,bS];cases c0:ql (s7 Z D) 0 Z.length with|false=>exact⟨[],9,rfl,rfl,λh=>by cases h⟩|true=>{rw[iP rfl];dsimp only;rw[show(!true)=false from rfl,cond_false,g1,d1,bS,bS];dsimp only;rw[u1,d2,bS,bS];dsimp only;rw[g2,bS];dsimp only;rw[d4,aN,bS];cases J:ql (iV (dC S I W (fj v f0))) 0 f0.length with|false=>exact⟨[],233,rfl,rfl,λh=>by cases h⟩|true=>{have fy:=qdv J;have hy:b9 (c7 f0.length (dC S I W (fj v f0))):=So λi u=>⟨oR,fy i u⟩;have m1:=qmg hm hz h0 hd hP hD hy Qp (S:=S) (I:=I) (W:=W) (f6:=f6);have m2:=YY hm hz h0 hd hP hD hy Qp (S:=S) (I:=I) (W:=W) (f6:=f6) (n:=(f0.length:Int)) (l:=gT f0.length S I W I.length) m 0 O O;rw[nZ,show pre Z 0=0 from rfl,show a9 Z 0=0 from rfl,show dV Z D (c7 f0.length (dC S I W (fj v f0))) 0=[]from rfl,vH,show(0:Int).toNat=0 from rfl,i6]at m2;rw[iP rfl,iP rfl];dsimp only;rw[iP rfl,m1];dsimp only;rw[m2,bS,bS];dsimp only;have wl:(fM Z D (c7 f0.length (dC S I W (fj v f0)))).length=f0.length:=qhf hP;rw[St O Ua O,bS];cases K:bq (fM Z D (c7 f0.length (dC S I W (fj v f0))))with|false=>exact⟨[],233,rfl,rfl,λh=>by cases h⟩|true=>{have wf:=Zj Ua K;obtain⟨s,b1,b2⟩:=qhu hm (v:=fM Z D (c7 f0.length (dC S I W (fj v f0)))) O wf;rw[wl]at b2;have bl:=qoh hm hC (f0:=f0) (Z:=Z) (D:=D) (f6:=f6) wf wl m f0.length s _ O (zJ _) (λi h1 h2=>absurd h2 O) ⟨b2.1,λi u=>(b2.2 i u).mono O⟩ (λi u=>rfl);have l6:=ZH hm hC (f0:=f0) (Z:=Z) (D:=D) (f6:=f6) wf wl m f0.length O (zJ _) (λi h1 h2=>absurd h2 O);have fe:=qcw (b:=fM Z D (c7 f0.length (dC S I W (fj v f0)))) (q:=dD f0.length S I W (fM Z D (c7 f0.length (dC S I W (fj v f0)))));have fr:=qcw (b:=List.replicate f0.length (0:Int)) (q:=dD f0.length S I W (fM Z D (c7 f0.length (dC S I W (fj v f0)))));rw[wl]at fe;rw[zI]at fr;rw[fe]at l6;rw[fr]at bl;have tr:=qvc hm a1 (q:=λi j=>ent S I W i j I.length);have w1:wI ((f0.length:Int)-1)=(f0.length:Int)-1:=by{rw[wQ,wi O O]};rw[iP rfl,aN,iP rfl,show(!true)=false from rfl,cond_false,show gT f0.length S I W I.length=d9 f0.length λi j=>ent S I W i j I.length from rfl,tr,bS];dsimp only;rw[b1,bS,w1,l6,bS];dsimp only;rw[wl,iP O,tN,w1,bl,bS];cases Q:sf (dD f0.length S I W (fM Z D (c7 f0.length (dC S I W (fj v f0))))) f0.length with|false=>exact⟨[],233,rfl,rfl,λh=>by cases h⟩|true=>{have G:b9 (c7 f0.length (dD f0.length S I W (fM Z D (c7 f0.length (dC S I W (fj v f0)))))):=So λi u=>⟨su,qhz.1 Q i u⟩;obtain⟨c1,c2⟩:=qe7 hm h0 (b:=c7 f0.length (dD f0.length S I W (fM Z D (c7 f0.length (dC S I W (fj v f0)))))) Qp hr;rw[iP rfl];dsimp only;rw[c1,c2];exact⟨_,0,rfl,rfl,λ_=>⟨qhb hm h0 Qp hr G (zJ _),Jw⟩⟩}}}}
end Go.Vs.F
