import Derived.Test.YtkbgfnhdfmmfcaaGreatDoorLe
set_option linter.unusedVariables false
set_option linter.unusedSimpArgs false
set_option linter.unusedSectionVars false
set_option maxRecDepth 100000
set_option linter.defProp false
namespace Go.Vs.F
def Si {neg:Bool} {f:Int} (u:0<=f) (h2:f<9223372036854775808):cd (lE neg f):=by unfold lE cd;split<;>omega
def qlg {neg:Bool} {mode:Int}:cd (i7 neg mode):=by unfold i7;split<;>exact Si O O
def qtg {neg:Bool} {n:Nat} {u mode:Int} (hu: -1074<=u) (hn:n<=9007199254740992):cd (lG neg n u mode):=by unfold lG;split;{split;{exact qlg};{exact Si O O}};{split;{exact Si O O};{split;{exact qlg};{exact Si O O}}}
def Vt {neg:Bool} {v:Nat} {e:Int} {more:Bool} {mode:Int}:cd (Yz neg v e more mode):=qtg (VX v e) Vx
def xL:cd EU:=by unfold EU cd;omega
def Ff:cd 0:=by unfold cd;omega
def Yx {d:D5} {mode:Int}:cd (Yb d mode):=by unfold Yb;split;{exact xL};{split;{exact Ff};{exact Vt}}
def Nk {a b:D5} {mode:Int}:cd (jJ a b mode):=by unfold jJ;split;{exact xL};{split;{exact Ff};{exact Vt}}
def qth {a:D5} {mode:Int}:cd (gW a mode):=by unfold gW;split;{exact xL};{split;{exact Ff};{exact Vt}}
def A0 (f:Int):Cn (fo f):=by unfold fo;split;{exact dz _ _};{exact .bad}
def cb (b:LI) (k:Nat) (q:Nat->Int):LI:=(List.range b.length).map λi=>if i<k then q i else b.getD i 0
def Qs {b:LI} {k:Nat} {q:Nat->Int}:(cb b k q).length=b.length:=by unfold cb;simp
def Ye {b:LI} {k i:Nat} {q:Nat->Int} (u:i<b.length):(cb b k q).getD i 0=if i<k then q i else b.getD i 0:=by unfold cb;rw[List.getD_eq_getElem?_getD,List.getElem?_map,List.getElem?_range u];rfl
def L8 {a b:LI} (h:a.length=b.length) (G: ∀i,i<a.length->a.getD i 0=b.getD i 0):a=b:=by refine List.ext_getElem h λi u h2=> ?_;have:=G i u;simpa [List.getD_eq_getElem?_getD,u,h2]using this
def N2 {l:LI} {k i:Nat} {a:Int} (u:k<l.length):(l.set k a).getD i 0=if i=k then a else l.getD i 0:=by simp only[List.getD_eq_getElem?_getD,List.getElem?_set];split;{rename_i h;subst h;rw[iP rfl];simp[u]};{rename_i h;rw[af (λe=>h e.symm)]}
def Zg {b:LI} {q:Nat->Int}:cb b 0 q=b:=
 L8 Qs λi u=>by rw[Qs]at u;rw[Ye u,af O]
def Zu {b:LI} {k:Nat} {q:Nat->Int} (G:k<b.length):(cb b k q).set k (q k)=cb b (k+1) q:=
 L8 (by rw[zT,Qs,Qs]) λi u=>by rw[zT,Qs]at u;rw[N2 (by rw[Qs];exact G),Ye u,Ye u];by_cases e:i=k;{subst e;rw[iP rfl,iP O]};{rw[af e];by_cases c:i<k;{rw[iP c,iP O]};{rw[af c,af O]}}
def Yo {b:LI} {q:Nat->Int}:cb b b.length q=(List.range b.length).map q:=by unfold cb;refine AZ λi u=> ?_;rw[iP (ux.1 u)]
def c7 (n:Nat) (q:Nat->Int):LI:=(List.range n).map q
def Qr {n:Nat} {q:Nat->Int}:(c7 n q).length=n:=by unfold c7;simp
def Zz {n i:Nat} {q:Nat->Int} (u:i<n):(c7 n q).getD i 0=q i:=by unfold c7;rw[List.getD_eq_getElem?_getD,List.getElem?_map,List.getElem?_range u];rfl
def qhk {n:Nat} {q:Nat->Int}:c7 n q++[q n]=c7 (n+1) q:=by unfold c7;rw[AW,sF];rfl
def Fb {n:Nat} {q:Nat->Int} (h: ∀i,i<n->cd (q i)):UL (c7 n q):=λi u=>by rw[Qr]at u;rw[Zz u];exact h i u
def qoj {n:Nat} {q r:Nat->Int} (h: ∀i,i<n->q i=r i):c7 n q=c7 n r:=AZ λi u=>h i (ux.1 u)
def qtf {n:Nat}:List.replicate n (0:Int)=c7 n λ_=>0:=by refine L8 (by rw[Qr,zI]) λi u=> ?_;rw[zI]at u;rw[Zz u];simp[List.getD_eq_getElem?_getD,u]
def ua (x:LI) (g:Int) (i:Nat):Int:=jJ (fo (x.getD i 0)) (fo g) 0
def lq (x:LI) (g:Int):LI:=c7 x.length (ua x g)
def Sg {x:LI} {g:Int}:UL (lq x g):=Fb λi _=>Nk
def SZ {x:LI} {g:Int}:(lq x g).length=x.length:=Qr
section
variable {m:Nat} (hm:5000000000<=m)
include hm
theorem q9u {x:LI} {g:Int} (hl:x.length<=1000) (u:UL x) (G:cd g): ∀(n k:Nat),x.length-k<n->k<=x.length->
 rh m n g (c7 k (ua x g)) x (x.length:Int) (k:Int)=some (.inl (lq x g,()))
 |0,k,h,_=>absurd h (zA _)
 |n+1,k,h,K=>by rw[rh,bQ];by_cases Q:k<x.length;{have J:=q9u hl u G n (k+1) O O;rw[iP O,iP O,tN,di O (u k Q),bS,di O G,bS];dsimp only;rw[uK hm (A0 _) (A0 _),bS];dsimp only;rw[iP (by show _+1<=_;rw[Qr];omega),show jJ (fo (x.getD k 0)) (fo g) 0=ua x g k from rfl,qhk,show wI ((k:Int)+1)=((k+1:Nat):Int)from ax O];exact J};{rw[af O,show k=x.length by omega];rfl}
theorem q99 {x:LI} {g:Int} (hl:x.length<=1000) (u:UL x) (G:cd g):Mr m x g=some ((lq x g,bq (lq x g),()),(),(),()):=by have h:=q9u hm hl u G m 0 O O;rw[nZ]at h;rw[Mr,show([]:LI)=c7 0 (ua x g)from rfl,h,bS];dsimp only;rw[UO O Sg (by rw[SZ];exact hl),bS]
theorem M7 {a b:D5} (u:Cn a) (hb:Cn b):nk m a.1 a.2.1 a.2.2.1 a.2.2.2.1 b.1 b.2.1 b.2.2.1 b.2.2.2.1=some (jJ a b 0,(),(),()):=by rw[nk,M3 hm u hb,bS]
theorem L7 {z e:Int}:v5 m (aE z e).1 (aE z e).2.1 (aE z e).2.2.1 (aE z e).2.2.2.1=some (Yb (aE z e) 0,(),()):=by rw[v5,qdd O,bS]
theorem qks {x:LI} {g:Int} (hl:x.length<=1000) (u:UL x) (G:cd g): ∀(n k:Nat),x.length-k<n->k<=x.length->
 qW m n x g (cb (List.replicate x.length 0) k (ua x g)) (k:Int)=some (.inl (lq x g,()))
 |0,k,h,_=>absurd h (zA _)
 |n+1,k,h,K=>by rw[qW,bQ];by_cases Q:k<x.length;{have J:=qks hl u G n (k+1) O O;rw[iP O,iP O,tN,vN O (u k Q),bS,vN O G,bS];dsimp only;rw[M7 hm (A0 _) (A0 _),bS];dsimp only;rw[iP (by rw[Qs,zI];omega),zH,show jJ (fo (x.getD k 0)) (fo g) 0=ua x g k from rfl,Zu (by rw[zI];omega),show wI ((k:Int)+1)=((k+1:Nat):Int)from ax O];exact J};{have e:=Yo (b:=List.replicate x.length (0:Int)) (q:=ua x g);rw[zI]at e;rw[af O,show k=x.length by omega,e];rfl}
theorem uB {x:LI} {g:Int} (hl:x.length<=1000) (u:UL x) (G:cd g):Mp m x g=some ((lq x g,bq (lq x g),()),(),(),()):=by have h:=qks hm hl u G m 0 O O;rw[nZ,Zg]at h;rw[Mp,iP O,tN,h,bS];dsimp only;rw[SU O Sg (by rw[SZ];exact hl),bS]
end
def AC (x y:LI):Int:=cN (eH x y x.length)
def jK (x:LI):Int:=gW (aE (AC x x) (-2148)) 0
section
variable {m:Nat} (hM:db<=m)
include hM
theorem q9d {x:LI} (hl:x.length<=1000) (u:bY x):Ms m x=some (jK x,(),()):=by have hm:=X6 hM;rw[Ms,qqq O hl rfl u u,bS];dsimp only;rw[qv9 hM (dz _ _),bS];rfl
theorem Va {z e:Int}:OT m (aE z e).1 (aE z e).2.1 (aE z e).2.2.1 (aE z e).2.2.2.1=some (gW (aE z e) 0,(),()):=by rw[OT,qv3 hM (dz _ _),bS]
end
def qce {m:Nat} (hm:4000000<=m) {x y:LI} (hl:x.length<=1000) (he:x.length=y.length) (Q:bY x) (hy:bY y) (K J:Bool) (G:LI) (u:Int): ∀(n k:Nat),x.length-k<n->k<=x.length->
 lS m n x y K J G u ((eH x y k).map (dy (-2148))) (x.length:Int) (k:Int)=some (.inl (y,(K,J,G,u,()),(eH x y x.length).map (dy (-2148)),()))
 |0,k,h,_=>absurd h (zA _)
 |n+1,k,h,c0=>by rw[lS,bQ];by_cases hk:k<x.length;{have ih:=qce hm hl he Q hy K J G u n (k+1) O O;obtain⟨u1,f1⟩:=Q k hk;obtain⟨u2,f2⟩:=hy k O;rw[iP O,iP O,tN,zH,di O u1,bS,iP O,di O u2,bS,Xn f1,Xn f2];dsimp only;rw[I5 hm,iP ⟨cf f1,cf f2⟩,bS,show(-1074:Int)+ -1074= -2148 by decide];dsimp only;rw[iP (by simp[wN];omega),Ln,show wI ((k:Int)+1)=((k+1:Nat):Int)from ax O];exact ih};{rw[af O,show k=x.length by omega]}
def qe4 {m:Nat} (hm:4000000<=m) {x y:LI} (hl:x.length<=1000) (he:x.length=y.length) (u:bY x) (hy:bY y):xY m x y=some (aE (AC x y) (-2148),(),y,()):=by have h:=qce hm hl he u hy false false [] 0 m 0 O O;rw[nZ]at h;rw[xY,show([]:List (Bool×(Bool×LI)×Int))=(eH x y 0).map (dy (-2148))from rfl,h,bS];dsimp only;rw[qqz O (by rw[wN];omega) (U8 u hy he (zJ _))];rfl
def dL (f:Int):Int:=sc (aM f) (-1074) (-2148)
def NX {f:Int} (h:aU f):fo f=aE (dL f) (-2148):=by rw[Xn h];exact(A1 O).symm
def SE {f:Int} (h:aU f):bX (dL f) (-2148):=by have:(aE (dL f) (-2148)).1=(aE (aM f) (-1074)).1:=by{rw[<-NX h,Xn h]};exact this.trans (cf h)
def jd (w v:LI) (h:Int) (i:Nat):Int:=Yb (aE (dL (w.getD i 0)-aM h*aM (v.getD i 0)) (-2148)) 0
def bW (v w:LI):Int:=Yb (aE (AC v w) (-2148)) 0
def df (w v:LI) (h:Int):LI:=c7 w.length (jd w v h)
def Vo {w v:LI} {h:Int}:UL (df w v h):=Fb λi _=>Yx
def Tv {w v:LI} {h:Int}:(df w v h).length=w.length:=Qr
section
variable {m:Nat} (hm:5000000000<=m)
include hm
theorem qob {w v:LI} {h:Int} (hl:w.length<=1000) (he:v.length=w.length) (hw:bY w) (hv:bY v) (hh:cd h) (u:aU h): ∀(n k:Nat),w.length-k<n->k<=w.length->
 np m n (cb w k (jd w v h)) v h (w.length:Int) (k:Int)=some (.inl (df w v h,()))
 |0,k,h,_=>absurd h (zA _)
 |n+1,k,hn,c0=>by rw[np,bQ];by_cases G:k<w.length;{have Q:=qob hl he hw hv hh u n (k+1) O O;obtain⟨K,f1⟩:=hw k G;obtain⟨J,f2⟩:=hv k O;rw[iP O,iP (by rw[Qs];omega),zH,tN,Ye G,af O,di O K,bS,di O hh,bS,iP O,di O J,bS,Xn u,Xn f2,NX f1];dsimp only;rw[I5 O,iP ⟨cf u,cf f2⟩,bS,show(-1074:Int)+ -1074= -2148 by decide];dsimp only;rw[Nw O,iP ⟨SE f1,Xp u f2⟩,bS];dsimp only;rw[NT O,bS,iP (by rw[Qs];omega)];dsimp only;rw[show Yb (aE (dL (w.getD k 0)-aM h*aM (v.getD k 0)) (-2148)) 0=jd w v h k from rfl,Zu G,show wI ((k:Int)+1)=((k+1:Nat):Int)from ax O];exact Q};{rw[af O,show k=w.length by omega,Yo];rfl}
def dQ (w v:LI):Option LI:=if aU (bW v w)/\bq (df w v (bW v w))=true then some (df w v (bW v w))else none
omit hm in
theorem VL {w v x:LI} (h:dQ w v=some x):bY x/\x.length=w.length:=by unfold dQ at h;split at h;{rename_i c;injection h with h;subst h;exact⟨Zl Vo c.2,Tv⟩};{cases h}
theorem qu7 {w v:LI} (hl:w.length<=1000) (he:v.length=w.length) (hw:bY w) (hv:bY v):
 (∃y,EB m w v=some ((dQ w v).isSome,y,(),())/\ ∀x,dQ w v=some x->y=x):=by rw[EB,qe4 O O he hv hw,bS];dsimp only;rw[NT O,bS];dsimp only;rw[show Yb (aE (AC v w) (-2148)) 0=bW v w from rfl,A6 (show cd (bW v w)from Yx),bS];dsimp only;unfold dQ;by_cases c:aU (bW v w);{have h0:=qob hm hl he hw hv (h:=bW v w) Yx c m 0 O O;rw[nZ,Zg]at h0;rw[decide_eq_true c,show(!true)=false from rfl,cond_false,h0,bS];dsimp only;rw[UO O Vo (by rw[Tv];exact hl),bS];refine⟨df w v (bW v w),?_,λx u=> ?_⟩;{cases G:bq (df w v (bW v w))with|true=>{rw[iP ⟨c,rfl⟩];rfl}|false=>{rw[af (λq=>by cases q.2)];rfl}};{split at u;{injection u};{cases u}}};{rw[decide_eq_false c,show(!false)=true from rfl,cond_true];refine⟨w,?_,λx u=> ?_⟩;{rw[af (λq=>c q.1)];rfl};{rw[af (λq=>c q.1)]at u;cases u}}
end
end Go.Vs.F
set_option maxRecDepth 100000
namespace Go.Vs.F
def hO (f:Int):Int:=if cO f=2047 then(if dV f=0 then 2 else 3)else if cO f=0/\dV f=0 then 0 else 1
def SQ {m:Nat} {f:Int} (h:cd f):Kv m f=some (hO f,(),())/\D2 m f=some (hO f,(),()):=by have hl:=LY f;rw[Kv,i6 h,bS,D2,(Nn h).1,(Nn h).2];simp only[aA,aN];unfold hO;by_cases c:cO f=2047;{by_cases d:dV f=0;{simp[c,d]};{simp[c,d]}};{by_cases e:cO f=0;{by_cases d:dV f=0;{simp[e,d]};{simp[e,d]}};{simp[c,e]}}
def iC (f:Int):Int:=if 9223372036854775808<=f then f-9223372036854775808 else f+9223372036854775808
def qt3 {n:Nat} (h:n<18446744073709551616):vP .u64 (n:Int) 9223372036854775808=iC (n:Int):=by unfold vP;show IntKind.wrap .u64 ((BitVec.ofInt 64 (n:Int)^^^BitVec.ofInt 64 ((9223372036854775808:Nat):Int)).toNat:Int)=_;rw[BitVec.toNat_xor,gI h,gI O];have e:n^^^9223372036854775808=if 9223372036854775808<=n then n-9223372036854775808 else n+9223372036854775808:=by{have hb:(9223372036854775808:Nat)=2^63*1:=by{decide};by_cases c:9223372036854775808<=n;{rw[iP c];obtain⟨r,rfl⟩: ∃r,n=2^63*1+r:=⟨n-9223372036854775808,O⟩;have hr:r<2^63:=O;rw[IL hr,hb];apply My;intro i;simp only[Nat.testBit_xor,ME,iW,E2];have:2^63+r-2^63=r:=O;rw[<-Nat.mul_one (2^63),<-Nat.two_pow_add_eq_or_of_lt hr,iW,this];by_cases u:63=i;{subst u;rw[Nat.testBit_lt_two_pow hr];simp};{simp[u]}};{rw[af c];have hr:n<2^63:=O;rw[pG,hb,IL hr];apply My;intro i;simp only[Nat.testBit_xor,ME,iW,E2];by_cases u:63=i;{subst u;rw[Nat.testBit_lt_two_pow hr];simp};{simp[u]}}};rw[e];unfold iC;by_cases c:9223372036854775808<=n;{rw[iP c,iP O,wu O O];omega};{rw[af c,af O,wu O O];omega}
def q9r {f:Int} (h:cd f):cd (iC f)/\cO (iC f)=cO f/\dV (iC f)=dV f/\gu (iC f)= !gu f:=by obtain⟨u,h2⟩:=h;unfold iC cd cO dV gu;split;{refine⟨O,O,O,?_⟩;rw[show decide (9223372036854775808<=f-9223372036854775808)=false by rw[decide_eq_false_iff_not];omega,show decide (9223372036854775808<=f)=true by rw[decide_eq_true_eq];omega];rfl};{refine⟨O,O,O,?_⟩;rw[show decide (9223372036854775808<=f+9223372036854775808)=true by rw[decide_eq_true_eq];omega,show decide (9223372036854775808<=f)=false by rw[decide_eq_false_iff_not];omega];rfl}
def qqj {f:Int} (h:cd f):aM (iC f)= -aM f/\(aU f->aU (iC f)):=by obtain⟨O,h2,J,G⟩:=q9r h;have o1:pF (iC f)= -pF f:=by{unfold pF;rw[h2,J,G];cases gu f<;>simp};have u:n8 (iC f)=n8 f:=by{unfold n8;rw[h2]};refine⟨?_,λK=>by unfold aU at*;rwa [h2]⟩;unfold aM sc;rw[o1,u,IK]
def qqm {m:Nat} {f:Int} (h:cd f) (G:aU f):T1 m f=some (iC f,(),()):=by have u:=(SQ (m:=m) h).2;have J:hO f≠3:=by{unfold hO;rw[af G];split<;>omega};rw[T1,XG,u,bS,bS,aA];dsimp only;rw[af J];obtain⟨n,rfl⟩: ∃n:Nat,f=(n:Int):=⟨f.toNat,by have:=h.1;omega⟩;rw[qt3 (by have:=h.2;omega)]
def A9 (f:Int):Bool:=f==0||f==9223372036854775808
def SL {m:Nat} {f:Int}:F1 m f=some (A9 f,(),()):=by rw[F1];unfold A9;cases f==0<;>rfl
def Wd {f:Int} (h:cd f):(hO f==0)=A9 f:=by have u:hO f=0↔(f=0\/f=9223372036854775808):=by{obtain⟨G,h2⟩:=h;unfold hO cO dV;constructor;{intro h;(repeat' split at h);all_goals omega};{intro h;rw[af O,iP O]}};unfold A9;by_cases c:hO f=0;{rcases u.1 c with h|h;{subst h;rw[c];rfl};{subst h;rw[c];rfl}};{have G:f≠0:=λe=>c (u.2 (.inl e));have h2:f≠9223372036854775808:=λe=>c (u.2 (.inr e));rw[show(hO f==0)=false from by simpa using c,show(f==0)=false from by simpa using G,show(f==9223372036854775808)=false from by simpa using h2];rfl}
section
variable {m:Nat} (hm:5000000000<=m)
include hm
theorem qky {w v:LI} {h:Int} (hl:w.length<=1000) (he:v.length=w.length) (hw:bY w) (hv:bY v) (hh:cd h) (fh:aU h): ∀(n k:Nat),w.length-k<n->k<=w.length->(∀i,i<k->aU (jd w v h i))->
 qP m n w (iC h) v (cb (List.replicate w.length 0) k (jd w v h)) (k:Int)=some (if bq (df w v h)=true then .inr (.inl (df w v h,()))else .inl ([],false,()))
 |0,k,h,_,_=>absurd h (zA _)
 |n+1,k,hn,c0,u=>by rw[qP,bQ];by_cases Q:k<w.length;{have ih:=qky hl he hw hv hh fh n (k+1) O O;obtain⟨u1,f1⟩:=hw k Q;obtain⟨u2,f2⟩:=hv k O;obtain⟨n1,n2⟩:=qqj hh;have hz:dL (w.getD k 0)+aM (iC h)*aM (v.getD k 0)=dL (w.getD k 0)-aM h*aM (v.getD k 0):=by{rw[n1,IK];omega};rw[iP O,iP O,tN,vN O u1,bS,iP O,Y4 O (q9r hh).1 u2 (n2 fh) f2,bS,NX f1];dsimp only;rw[VD O,iP ⟨SE f1,Xp (n2 fh) f2⟩,bS,hz];dsimp only;rw[L7 hm,bS];dsimp only;rw[iP (by rw[Qs,zI];omega),zH,show Yb (aE (dL (w.getD k 0)-aM h*aM (v.getD k 0)) (-2148)) 0=jd w v h k from rfl,Zu (by rw[zI];omega),iP (by rw[Qs,zI];omega),Ye (by rw[zI];omega),iP O,Xx (show cd (jd w v h k)from Yx),bS];dsimp only;by_cases c:aU (jd w v h k);{rw[decide_eq_true c,show(!true)=false from rfl,cond_false,show wI ((k:Int)+1)=((k+1:Nat):Int)from ax O];exact ih (λi J=>by{rcases fS i k with h|h;{exact u i h};{rw[show i=k by omega];exact c}})};{have G:bq (df w v h)=false:=by{cases G:bq (df w v h)with|false=>rfl|true=>{have:=(Zl Vo G k (by rw[Tv];exact Q)).2;unfold df at this;rw[Zz Q]at this;exact absurd this c}};rw[decide_eq_false c,show(!false)=true from rfl,cond_true,G];rfl}};{have e:=Yo (b:=List.replicate w.length (0:Int)) (q:=jd w v h);rw[zI]at e;have K:k=w.length:=O;subst K;have G:bq (df w v h)=true:=by{unfold bq;rw[qx];intro i _ J;rw[Tv]at J;unfold df;rw[Zz J];exact decide_eq_true (u i J)};rw[af O,e,G];rfl}
theorem qp3 {w v:LI} {h:Int} (hl:w.length<=1000) (he:v.length=w.length) (hw:bY w) (hv:bY v) (hh:cd h) (G:aU h):
 T2 m w (iC h) v=some ((if bq (df w v h)=true then df w v h else [],bq (df w v h),()),(),(),(),()):=by have h0:=qky hm hl he hw hv hh G m 0 O O (λi u=>absurd u (zA _));rw[nZ,Zg]at h0;rw[T2,iP O,tN,h0,bS];cases bq (df w v h)<;>rfl
end
def q40 (m:Nat) {a:LI} (hl:a.length<=1000000): ∀(n k:Nat),a.length-k<n->k<=a.length->rq m n a a (k:Int)=some (.inr (.inl ()))
 |0,k,h,_=>absurd h (zA _)
 |n+1,k,h,u=>by rw[rq,bQ];by_cases G:k<a.length;{rw[iP O,iP O,iP O,aN,iP rfl,show wI ((k:Int)+1)=((k+1:Nat):Int)from ax O];exact q40 m hl n (k+1) O O};{rw[af O]}
def WK {m:Nat} (hm:2000000<m) {a:LI} (hl:a.length<=1000000):KW m a a=some (true,(),(),()):=by have h:=q40 m hl m 0 O O;rw[nZ]at h;rw[KW,aN,iP rfl,h,bS]
def qhj {m:Nat} (hm:2000000<m) {a:List LI} (hl:a.length<=1000000) (hr: ∀r∈a,r.length<=1000000): ∀(n k:Nat),a.length-k<n->k<=a.length->qO m n a a (k:Int)=some (.inr (.inl ()))
 |0,k,h,_=>absurd h (zA _)
 |n+1,k,h,u=>by rw[qO,bQ];by_cases G:k<a.length;{rw[iP O,iP O,iP O,tN,WK hm (hr _ (by simp[List.getD,G])),bS];dsimp only;rw[show(!true)=false from rfl,cond_false,show wI ((k:Int)+1)=((k+1:Nat):Int)from ax O];exact qhj hm hl hr n (k+1) O O};{rw[af O]}
def qjv {m:Nat} (hm:2000000<m) {a:List LI} (hl:a.length<=1000000) (hr: ∀r∈a,r.length<=1000000):OM m a a=some (true,(),(),()):=by have h:=qhj hm hl hr m 0 O O;rw[nZ]at h;rw[OM,aN,iP rfl,h,bS]
def qd9 {m:Nat} (hm:2000000<m) {α β:LI} {V:List LI} (u:α.length<=1000000) (h2:β.length<=1000000) (hl:V.length<=1000000) (hr: ∀r∈V,r.length<=1000000):cg m α β V α β V=some (true,(),(),()):=by rw[cg,WK hm u,bS];dsimp only;rw[cond_true,WK hm h2,bS];dsimp only;rw[cond_true,qjv hm hl hr,bS]
end Go.Vs.F
set_option maxRecDepth 100000
namespace Go.Vs.F
def Xi:LI->List LI->Option LI
 |w,[]=>some w
 |w,v::vs=>match dQ w v with
  |none=>none
  |some x=>Xi x vs
def q7i: ∀{a b:List LI} {w:LI},Xi w (a++b)=(Xi w a).bind λx=>Xi x b
 |[],b,w=>rfl
 |v::a,b,w=>by rw[AY,Xi,Xi];cases dQ w v with|none=>rfl|some x=>exact q7i
def vy (N:Nat) (V:List LI):Prop:= ∀r∈V,bY r/\r.length=N
def WB {N:Nat}: ∀{V:List LI} {w x:LI},bY w->w.length=N->Xi w V=some x->bY x/\x.length=N
 |[],w,x,u,h2,h=>by injection h with h;subst h;exact⟨u,h2⟩
 |v::V,w,x,u,h2,h=>by rw[Xi]at h;cases ho:dQ w v with|none=>{rw[ho]at h;cases h}|some y=>{rw[ho]at h;obtain⟨a,b⟩:=VL ho;exact WB a (b.trans h2) h}
def qdn {V:List LI} {i:Nat} (h:i<V.length):V.drop i=V.getD i []::V.drop (i+1):=by rw[EV h];simp[List.getD,h]
def ff {V:List LI} {i:Nat} (h:i<V.length):V.getD i []∈V:=by simp[List.getD,h]
section
variable {m:Nat} (hm:5000000000<=m) {N:Nat} (hN:N<=1000) (α β:LI) {V:List LI} (hV:vy N V) (hVl:V.length<=1000)
include hm hN hV hVl
theorem qr8 (u:Int): ∀(n i:Nat) (w:LI),V.length-i<n->i<=V.length->bY w->w.length=N->
 ri m n α β V w u (V.length:Int) (i:Int)=some (match Xi w (V.drop i)with
  |none=> .inl ((α,β,V,()),[],233,())
  |some x=> .inr (.inl ((α,β,V,()),x,u,())))
 |0,i,w,h,_,_,_=>absurd h (zA _)
 |n+1,i,w,h,Q,hw,G=>by rw[ri,bQ];by_cases J:i<V.length;{obtain⟨K,r2⟩:=hV _ (ff J);obtain⟨y,g1,g2⟩:=qu7 hm (w:=w) (v:=V.getD i []) O O hw K;rw[iP O,iP O,zH,tN,g1,bS,qdn J,Xi];dsimp only;cases ho:dQ w (V.getD i [])with|none=>rfl|some x=>{obtain⟨a,b⟩:=VL ho;rw[g2 x ho,show(!(some x).isSome)=false from rfl,cond_false,show wI ((i:Int)+1)=((i+1:Nat):Int)from ax O];exact qr8 u n (i+1) x O O a (b.trans G)}};{rw[af O,Bf O];rfl}
theorem qv7 {w:LI} (hw:bY w) (G:w.length=N):
 lU m m α β V w 0=some (match Xi w (V++V)with
  |none=> .inl ((α,β,V,()),[],233,())
  |some x=> .inr (.inl ((α,β,V,()),x,()))):=by obtain⟨k,rfl⟩: ∃k,m=k+3:=⟨m-3,O⟩;have step: ∀(u:Int) (w:LI),bY w->w.length=N->_:=λu w J h2=>qr8 hm hN α β hV hVl u (k+3) 0 w O O J h2;simp only[nZ,iX]at step;rw[lU,bQ,iP O,step 0 w hw G,bS,q7i];cases J:Xi w V with|none=>rfl|some x=>{obtain⟨a,b⟩:=WB hw G J;dsimp only;rw[show wI (0+1)=1 from by rw[wQ,wi O O];rfl,lU,bQ,iP O,step 1 x a b,bS,bS];cases h2:Xi x V with|none=>rfl|some y=>{dsimp only;rw[show wI (1+1)=2 from by rw[wQ,wi O O];rfl,lU,bQ,af O]}}
theorem qnw {k:Nat} (u:k<2*V.length):(V++V).getD k []=V.getD (k%V.length) []:=by simp only[List.getD_eq_getElem?_getD];by_cases c:k<V.length;{rw[List.getElem?_append_left c,iY c]};{rw[List.getElem?_append_right O,Nat.mod_eq_sub_mod O,iY O]}
theorem ql2 (s f6:Int) (f0 f1 f2 f3 f4 f5 a0 a1:LI) (a2:List LI) (hL:0<V.length): ∀(n k:Nat) (w:LI),2*V.length-k<n->k<=2*V.length->bY w->w.length=N->
 rO m n s f0 f1 f2 f3 f4 f5 f6 a0 a1 a2 α β V ((V.length-1:Nat):Int) w (k:Int)=some (match Xi w ((V++V).drop k)with
  |none=> .inl (([],[],[],()),233,())
  |some x=> .inr (.inl (s,(f0,f1,f2,f3,f4,f5,f6,()),(a0,a1,a2,()),(α,β,V,()),((V.length-1:Nat):Int),x,())))
 |0,k,w,h,_,_,_=>absurd h (zA _)
 |n+1,k,w,h,c0,hw,G=>by have w1:wI (((V.length-1:Nat):Int)+1)=(V.length:Int):=by{rw[wQ,wi O O];omega};have w2:wI (2*(V.length:Int))=((2*V.length:Nat):Int):=by{rw[wQ,wi O O];omega};rw[rO,w1,w2,bQ];by_cases hk:k<2*V.length;{have u:Int.tmod (k:Int) (V.length:Int)=((k%V.length:Nat):Int):=(Int.ofNat_tmod k V.length).symm;have J:=iV k hL;obtain⟨Q,r2⟩:=hV _ (ff J);rw[iP O,iP O,u,iP O,zH,tN,Nf O O O Q hw,bS];dsimp only;rw[L7 hm,bS];dsimp only;have K:Xi w ((V++V).drop k)=match dQ w (V.getD (k%V.length) [])with|none=>none|some x=>Xi x ((V++V).drop (k+1)):=by{rw[qdn (V:=V++V) (by rw[zG];omega),Xi,qnw hm hN hV hVl hk]};rw[show Yb (aE (cN (eH (V.getD (k%V.length) []) w (V.getD (k%V.length) []).length)) (-2148)) 0=bW (V.getD (k%V.length) []) w from rfl,Xx (show cd (bW (V.getD (k%V.length) []) w)from Yx),bS,K];dsimp only;by_cases c:aU (bW (V.getD (k%V.length) []) w);{rw[decide_eq_true c,show(!true)=false from rfl,cond_false,qqm (show cd (bW (V.getD (k%V.length) []) w)from Yx) c,bS];dsimp only;rw[qp3 hm O O hw Q (show cd (bW (V.getD (k%V.length) []) w)from Yx) c,bS];dsimp only;cases hf:bq (df w (V.getD (k%V.length) []) (bW (V.getD (k%V.length) []) w))with|false=>{have ho:dQ w (V.getD (k%V.length) [])=none:=by{unfold dQ;rw[af (λq=>by rw[hf]at q;cases q.2)]};rw[ho];rfl}|true=>{have ho:dQ w (V.getD (k%V.length) [])=some (df w (V.getD (k%V.length) []) (bW (V.getD (k%V.length) []) w)):=by{unfold dQ;rw[iP ⟨c,hf⟩]};obtain⟨a,b⟩:=VL ho;rw[ho,show(!true)=false from rfl,cond_false,iP rfl,show wI ((k:Int)+1)=((k+1:Nat):Int)from ax O];exact ql2 s f6 f0 f1 f2 f3 f4 f5 a0 a1 a2 hL n (k+1) _ O O a (b.trans G)}};{have ho:dQ w (V.getD (k%V.length) [])=none:=by{unfold dQ;rw[af (λq=>c q.1)]};rw[decide_eq_false c,show(!false)=true from rfl,cond_true,ho]}};{rw[af O,Bf (by rw[zG];omega)];rfl}
end
end Go.Vs.F
set_option maxRecDepth 100000
namespace Go.Vs.F
def UJ (m N:Nat) (f0 f1 f2 f3 f4 f5:LI) (f6:Int):Prop:= ∀v,bY v->v.length=N-> ∃x e,
 Ap m f0 f1 f2 f3 f4 f5 f6 v=some ((x,e,()),(),(),())/\T3 m f0 f1 f2 f3 f4 f5 f6 v=some ((x,e,()),(),(),())/\(e=0->bY x/\x.length=N)
abbrev ER:=(LI×LI×List LI×Unit)×Int×Unit
def AP (N:Nat) (s:Int) (r:ER):Prop:=(r.1=([],[],[],())/\r.2.1≠0)\/(r.2.1=0/\r.1.2.1.length+1=r.1.1.length/\r.1.2.2.1.length=r.1.1.length/\((r.1.1.length:Int)<=s/\r.1.1.length<=16)/\vy N r.1.2.2.1/\bY r.1.1/\bY r.1.2.1)
def U9 {v w:LI}:cd (bW v w):=Yx
def vM {x:LI}:cd (jK x):=qth
section
variable {m:Nat} (hM:db<=m) {N:Nat} (hN:N<=1000) {f0 f1 f2 f3 f4 f5:LI} {f6:Int} (hS:UJ m N f0 f1 f2 f3 f4 f5 f6) {s:Int} (hs:s<=16) (b0 b1 a0 a1:LI) (b2 a2:List LI)
include hM hN hS hs
theorem qmx {α β:LI} {V:List LI} (hV:vy N V) (hVl:V.length<=100) (hL:0<V.length) (hα:α.length<=100) {x:LI} {e:Int}
 (Q:Ap m f0 f1 f2 f3 f4 f5 f6 (V.getD (V.length-1) [])=some ((x,e,()),(),(),())) (K:e=0->bY x/\x.length=N):
 T4 m α β V f0 f1 f2 f3 f4 f5 f6=some (if e≠0 then(([],e,()),(α,β,V,()),(),())else if¬aU (bW (V.getD (V.length-1) []) x)then(([],233,()),(α,β,V,()),(),())
  else match Xi x (V++V)with
   |none=>(([],233,()),(α++[bW (V.getD (V.length-1) []) x],β,V,()),(),())
   |some y=>((y,0,()),(α++[bW (V.getD (V.length-1) []) x],β,V,()),(),())):=by have hm:=X6 hM;have G:wI ((V.length:Int)-1)=((V.length-1:Nat):Int):=by{rw[wQ,wi O O];omega};obtain⟨J,r2⟩:=hV _ (ff (V:=V) (i:=V.length-1) O);rw[T4,G,iP O,zH,tN,Q,bS,aN];dsimp only;by_cases c:e=0;{rw[iP c,af (by simp[c])];obtain⟨x1,u⟩:=K c;rw[qe4 O O O J x1,bS];dsimp only;rw[NT O,bS];dsimp only;rw[show Yb (aE (AC (V.getD (V.length-1) []) x) (-2148)) 0=bW (V.getD (V.length-1) []) x from rfl,A6 U9,bS];dsimp only;by_cases d:aU (bW (V.getD (V.length-1) []) x);{rw[decide_eq_true d,show(!true)=false from rfl,cond_false,iP (by show _+1<=_;omega),qv7 hm hN _ _ hV O x1 u,bS,af (λh=>h d)];cases Xi x (V++V)<;>rfl};{rw[decide_eq_false d,show(!false)=true from rfl,cond_true,iP d]}};{rw[af c,iP c]}
theorem qqf: ∀(d:Nat) (α β:LI) (V:List LI),16-α.length<=d->α.length+1=V.length->β.length=α.length->(α.length:Int)<s->vy N V->bY α->bY β-> ∀n1 n2,d<n1->d<n2->
 ∃r,rQ m n1 s f0 f1 f2 f3 f4 f5 f6 b0 b1 b2 α β V=some (.inl r)/\oP m n2 s f0 f1 f2 f3 f4 f5 f6 a0 a1 a2 α β V (α.length:Int)=some (.inl r)/\AP N s r:=by have hm:=X6 hM;intro d;induction d with|zero=>{intro α β V h1 h2 h3 h4;omega}|succ d ih=>{intro α β V h1 h2 h3 h4 hV hα hβ n1 n2 d0 c0;obtain⟨n1,rfl⟩: ∃k,n1=k+1:=⟨n1-1,O⟩;obtain⟨n2,rfl⟩: ∃k,n2=k+1:=⟨n2-1,O⟩;have eV:V.length-1=α.length:=O;obtain⟨r1,r2⟩:=hV _ (ff (V:=V) (i:=V.length-1) O);obtain⟨x,e,g1,g2,g3⟩:=hS _ r1 r2;have u:=qmx hM hN hS hs (α:=α) (β:=β) hV O O O g1 g3;rw[rQ,oP,iP O,zH,tN,<-eV,g2,bS];dsimp only;by_cases c:e=0;{subst c;obtain⟨x1,x2⟩:=g3 rfl;rw[aN,iP rfl,eV,iP O,<-eV,Nf O O O r1 x1,bS];dsimp only;rw[L7 hm,bS];dsimp only;rw[show Yb (aE (cN (eH (V.getD (V.length-1) []) x (V.getD (V.length-1) []).length)) (-2148)) 0=bW (V.getD (V.length-1) []) x from rfl,Xx U9,bS];dsimp only;rw[af (by simp)]at u;by_cases dd:aU (bW (V.getD (V.length-1) []) x);{have Q:=ql2 hm hN (α++[bW (V.getD (V.length-1) []) x]) β hV O s f6 f0 f1 f2 f3 f4 f5 a0 a1 a2 O m 0 x O O x1 x2;rw[nZ,iX]at Q;rw[af (λh=>h dd)]at u;rw[decide_eq_true dd,show(!true)=false from rfl,cond_false,iP (by show _+1<=_;omega),Q,bS];cases hp:Xi x (V++V)with|none=>{rw[hp]at u;rw[u,bS];exact⟨(([],[],[],()),233,()),rfl,rfl,.inl ⟨rfl,by decide⟩⟩}|some y=>{rw[hp]at u;rw[u,bS];obtain⟨K,y2⟩:=WB x1 x2 hp;have w1:wI (((V.length-1:Nat):Int)+1)=((α.length+1:Nat):Int):=by{rw[wQ,wi O O];omega};have hα1:bY (α++[bW (V.getD (V.length-1) []) x]):=Th hα U9 dd;have J:(((α++[bW (V.getD (V.length-1) []) x]).length:Nat):Int)=((α.length+1:Nat):Int):=by{simp};dsimp only;rw[aN,iP rfl,aA,w1,aA,J];by_cases G:((α.length+1:Nat):Int)=s;{refine⟨((α++[bW (V.getD (V.length-1) []) x],β,V,()),0,()),?_,?_,.inr ⟨rfl,by simp[h3],by simp;omega,⟨by simp;omega,by simp;omega⟩,hV,hα1,hβ⟩⟩;{rw[iP G]};{rw[iP G]}};{rw[af G,af G,q9d hM O K,bS,Nf O O rfl K K,bS];dsimp only;rw[Va hM,bS,(SQ vM).1,bS,SL,bS,Wd vM];dsimp only;rw[show gW (aE (cN (eH y y y.length)) (-2148)) 0=jK y from rfl];cases hz:A9 (jK y)with|true=>{exact⟨((α++[bW (V.getD (V.length-1) []) x],β,V,()),0,()),rfl,rfl,.inr ⟨rfl,by simp[h3],by simp;omega,⟨by simp;omega,by simp;omega⟩,hV,hα1,hβ⟩⟩}|false=>{rw[cond_false,cond_false,q99 hm O K.U vM,bS,A6 vM,bS,uB hm O K.U vM,bS,Xx vM,bS];dsimp only;by_cases fg:aU (jK y);{rw[decide_eq_true fg,show(!true)=false from rfl,cond_false,cond_false];cases hf:bq (lq y (jK y))with|false=>exact⟨(([],[],[],()),233,()),rfl,rfl,.inl ⟨rfl,by decide⟩⟩|true=>{rw[show(!true)=false from rfl,cond_false,cond_false,iP (by show _+1<=_;omega),iP (by show _+1<=_;omega),iP (by show _+1<=_;omega),iP (by show _+1<=_;omega)];have:=ih (α++[bW (V.getD (V.length-1) []) x]) (β++[jK y]) (V++[lq y (jK y)]) (by simp;omega) (by simp;omega) (by simp;omega) (by rw[J];omega) (λr hr=>by{rcases zX.1 hr with h|h;{exact hV r h};{rw[zC]at h;subst h;exact⟨Zl Sg hf,by rw[SZ];exact y2⟩}}) hα1 (Th hβ vM fg) n1 n2 O O;rw[J]at this;exact this}};{rw[decide_eq_false fg];exact⟨(([],[],[],()),233,()),rfl,rfl,.inl ⟨rfl,by decide⟩⟩}}}}};{rw[iP dd]at u;rw[decide_eq_false dd,u,bS];exact⟨(([],[],[],()),233,()),rfl,rfl,.inl ⟨rfl,by decide⟩⟩}};{rw[iP c]at u;rw[aN,af c,u,bS];refine⟨(([],[],[],()),e,()),?_,rfl,.inl ⟨rfl,c⟩⟩;dsimp only;rw[aN,af c]}}
end
def qpj {m:Nat} (hM:db<=m) {f0 f1 f2 f3 f4 f5:LI} {f6 e:Int} (c0:f0.length<=1000) (e0:wF m f0 f1 f2 f3 f4 f5 f6=some (e,(),())) (d0:Mq m f0 f1 f2 f3 f4 f5 f6=some (e,(),()))
 (hS:e=0->UJ m f0.length f0 f1 f2 f3 f4 f5 f6) {st:LI} (J:UL st) (u:st.length<=1000) (s:Int):
 ∃r:ER,Mv m f0 f1 f2 f3 f4 f5 f6 st s=some (r,(),(),(),())/\Q0 m f0 f1 f2 f3 f4 f5 f6 st s=some (r,(),(),(),())/\AP f0.length s r:=by have hm:=X6 hM;have G: ∀k:Int,k≠0->AP f0.length s (([],[],[],()),k,()):=λk hk=> .inl ⟨rfl,hk⟩;rw[Mv,XR,e0,bS,Q0,d0,bS];simp only[aN];by_cases c:e=0;{subst c;rw[iP rfl,iP rfl,iP rfl,SU O J u,bS,UO O J u];dsimp only;by_cases Q:(st.length:Int)=(f0.length:Int);{rw[iP Q,bS];dsimp only;cases hf:bq st with|false=>{rw[cond_false,iP Q,bS];exact⟨(([],[],[],()),4,()),rfl,rfl,G 4 (by decide)⟩}|true=>{have K:=Zl J hf;rw[cond_true,Nf O u rfl K K,bS];dsimp only;rw[Va hM,bS,iP Q,bS];simp only[bQ,show(!true)=false from rfl,cond_false];by_cases s1:s<1;{rw[iP s1,iP s1];exact⟨(([],[],[],()),350,()),rfl,rfl,G 350 (by decide)⟩};{rw[af s1,af s1];by_cases s2:s>16;{rw[iP s2,iP s2];exact⟨(([],[],[],()),350,()),rfl,rfl,G 350 (by decide)⟩};{rw[af s2,af s2,q9d hM u K,bS,(SQ vM).1,bS,SL,bS,Wd vM];dsimp only;rw[show gW (aE (cN (eH st st st.length)) (-2148)) 0=jK st from rfl];cases hz:A9 (jK st)with|true=>exact⟨(([],[],[],()),380,()),rfl,rfl,G 380 (by decide)⟩|false=>{rw[cond_false,cond_false,A6 vM,bS,Xx vM,bS];dsimp only;by_cases fg:aU (jK st);{rw[decide_eq_true fg,show(!true)=false from rfl,cond_false,cond_false,q99 hm u J vM,bS,uB hm u J vM,bS];dsimp only;cases hd:bq (lq st (jK st))with|false=>exact⟨(([],[],[],()),233,()),rfl,rfl,G 233 (by decide)⟩|true=>{obtain⟨r,g1,g2,g3⟩:=qqf hM c0 (hS rfl) (s:=s) O [] [] [] [] [] [] 16 [] [] [lq st (jK st)] (by simp) (by simp) rfl (by simp;omega) (λx hx=>by{rw[zC]at hx;subst hx;exact⟨Zl Sg hd,by rw[SZ];omega⟩}) NA NA m m O O;refine⟨r,?_,?_,g3⟩;{simp only[show(!true)=false from rfl,cond_false,bS,if_true];rw[g1];rfl};{simp only[show(!true)=false from rfl,cond_false];rw[show(0:Int)=(([]:LI).length:Int)from rfl,g2];rfl}}};{rw[decide_eq_false fg];exact⟨(([],[],[],()),233,()),rfl,rfl,G 233 (by decide)⟩}}}}}};{rw[af Q,bS];refine⟨(([],[],[],()),2,()),rfl,?_,G 2 (by decide)⟩;cases hf:bq st with|false=>rw[cond_false,af Q]|true=>{have K:=Zl J hf;rw[cond_true,Nf O u rfl K K,bS];dsimp only;rw[Va hM,bS,af Q]}}};{rw[af c,af c,af c,bS];dsimp only;rw[af c];exact⟨(([],[],[],()),e,()),rfl,rfl,G e c⟩}
end Go.Vs.F
set_option maxRecDepth 100000
namespace Go.Vs.F
def A7 (l:LI):Nat->List Bool->Nat->Bool
 |0,_,_=>true
 |d+1,seen,k=>if l.getD k 0<0 then false else if l.getD k 0>=(l.length:Int)then false else if seen.getD (l.getD k 0).toNat false=true then false else A7 l d (seen.set (l.getD k 0).toNat true) (k+1)
def gX (l:LI):Bool:=A7 l l.length (List.replicate l.length false) 0
def qmg {l:LI}: ∀{d:Nat} {seen:List Bool} {k:Nat},A7 l d seen k=true-> ∀i,k<=i->i<k+d->0<=l.getD i 0/\l.getD i 0<(l.length:Int)
 |0,seen,k,h,i,u,h2=>O
 |d+1,seen,k,h,i,u,h2=>by rw[A7]at h;split at h;{cases h};{split at h;{cases h};{split at h;{cases h};{rcases Nat.eq_or_lt_of_le u with e|e;{subst e;omega};{exact qmg h i O O}}}}
def qnq {l:LI} (h:gX l=true): ∀i,i<l.length->0<=l.getD i 0/\l.getD i 0<(l.length:Int):=λi u=>qmg h i O O
def qcr (m:Nat) {l:LI} (hl:l.length<=1000): ∀(n d k:Nat) (seen:List Bool),d<n->k+d=l.length->seen.length=l.length->
 jY m n l seen l (l.length:Int) (k:Int)=some (if A7 l d seen k=true then .inr (.inl ())else .inl (false,()))
 |0,d,k,seen,h,_,_=>absurd h (zA _)
 |n+1,0,k,seen,h,G,hs=>by{rw[jY,bQ,af O];rfl}
 |n+1,d+1,k,seen,h,G,hs=>by rw[jY,bQ,iP O,iP O,tN,bQ,A7];by_cases c1:l.getD k 0<0;{rw[iP c1,iP c1];rfl};{rw[af c1,af c1,bQ];by_cases u:l.getD k 0>=(l.length:Int);{rw[iP u,iP u];rfl};{rw[af u,af u,iP O,zH];cases J:seen.getD (l.getD k 0).toNat false with|true=>rfl|false=>{rw[cond_false,iP O,af (show¬(false=true) by decide),show wI ((k:Int)+1)=((k+1:Nat):Int)from ax O];exact qcr m hl n d (k+1) _ O O (by rw[zT];exact hs)}}}
def qo9 {m:Nat} (hm:2000000<m) {l:LI} (hl:l.length<=1000):Dh m l=some (gX l,(),()):=by have h:=qcr m hl m l.length 0 (List.replicate l.length false) O O (by simp);rw[nZ]at h;rw[Dh,iP O,tN,h,bS];unfold gX;cases A7 l l.length (List.replicate l.length false) 0<;>rfl
def qio (m:Nat) {l:LI} (hl:l.length<=1000): ∀(n d k:Nat) (seen:List Bool),d<n->k+d=l.length->seen.length=l.length->
 kl m n l (l.length:Int) seen (k:Int)=some (if A7 l d seen k=true then .inr (.inl ())else .inl (false,()))
 |0,d,k,seen,h,_,_=>absurd h (zA _)
 |n+1,0,k,seen,h,G,hs=>by{rw[kl,bQ,af O];rfl}
 |n+1,d+1,k,seen,h,G,hs=>by rw[kl,bQ,iP O,iP O,tN,bQ,A7];by_cases c1:l.getD k 0<0;{rw[iP c1,iP c1];rfl};{rw[af c1,af c1,iP O,bQ];by_cases u:l.getD k 0>=(l.length:Int);{rw[iP u,iP u];rfl};{rw[af u,af u,iP O,iP O,zH];cases J:seen.getD (l.getD k 0).toNat false with|true=>rfl|false=>{rw[cond_false,iP O,iP O,af (show¬(false=true) by decide),show wI ((k:Int)+1)=((k+1:Nat):Int)from ax O];exact qio m hl n d (k+1) _ O O (by rw[zT];exact hs)}}}
def qib {m:Nat} (hm:2000000<m) {l:LI} (hl:l.length<=1000):Al m l (l.length:Int)=some (gX l,(),(),()):=by have h:=qio m hl m l.length 0 (List.replicate l.length false) O O (by simp);rw[nZ]at h;rw[Al,aN,iP rfl,iP O,tN,h,bS];unfold gX;cases A7 l l.length (List.replicate l.length false) 0<;>rfl
def pre (Z:LI):Nat->Int
 |0=>0
 |b+1=>pre Z b+Z.getD b 0
def a9 (Z:LI):Nat->Int
 |0=>0
 |b+1=>a9 Z b+(2*Z.getD b 0-1)
def sK (Z:LI) (b:Nat):Bool:=decide (Z.getD b 0=1\/Z.getD b 0=2)
def Xo {Z:LI} {b:Nat}:sK Z b=true↔(Z.getD b 0=1\/Z.getD b 0=2):=decide_eq_true_iff
def vK {Z:LI}: ∀{b:Nat},(∀i,i<b->sK Z i=true)->(b:Int)<=pre Z b/\pre Z b<=2*b/\(b:Int)<=a9 Z b/\a9 Z b<=3*b
 |0,h=>by simp[pre,a9]
 |b+1,h=>by have u:=vK (b:=b) λi G=>h i O;have:=Xo.1 (h b O);rw[pre,a9];omega
def Jc {Z:LI} {c:Nat} (h: ∀i,i<c->sK Z i=true): ∀{b:Nat},b<=c->pre Z b<=pre Z c/\a9 Z b<=a9 Z c:=by intro b hb;induction c with|zero=>{rw[show b=0 by omega];exact⟨E3 _,E3 _⟩}|succ c G=>{rcases fS c b with u|u;{rw[show b=c+1 by omega];exact⟨E3 _,E3 _⟩};{have:=G (λi J=>h i O) u;have:=Xo.1 (h c O);rw[pre,a9];omega}}
def Vy {Z:LI}: ∀{c:Nat},(∀i,i<c->sK Z i=true)-> ∀{j:Int},0<=j->j<pre Z c-> ∃b,b<c/\pre Z b<=j/\j<pre Z (b+1)
 |0,h,j,u,h2=>by rw[pre]at h2;omega
 |c+1,h,j,u,h2=>by by_cases hc:pre Z c<=j;{exact⟨c,O,hc,h2⟩};{obtain⟨b,a1,a2⟩:=Vy (c:=c) (λi G=>h i O) u O;exact⟨b,O,a2⟩}
def PV (n:Nat) (Z D:LI):Prop:=(∀b,b<Z.length->sK Z b=true)/\(∀b,b<Z.length->pre Z b<(n:Int))/\pre Z Z.length=(n:Int)/\a9 Z Z.length=(D.length:Int)
instance (n:Nat) (Z D:LI):Decidable (PV n Z D):=inferInstanceAs (Decidable (_/\_))
section
variable {m:Nat} (hm:5000000000<=m) {f0 Z D S I W:LI} {f6:Int} (hz:Z.length<=1000) (h0:f0.length<=1000) (hd:D.length<=1000)
include hm hz h0 hd
theorem qby: ∀(n k:Nat),Z.length-k<n->k<=Z.length->(∀b,b<k->sK Z b=true)->(∀b,b<k->pre Z b<(f0.length:Int))->
 gp m n f0 Z D S I W f6 (c7 k (pre Z)) (pre Z k) (a9 Z k) Z (Z.length:Int) (k:Int)=
  some (if(∀b,b<Z.length->sK Z b=true)/\(∀b,b<Z.length->pre Z b<(f0.length:Int))then .inr (.inl ((f0,Z,D,S,I,W,f6,()),c7 Z.length (pre Z),pre Z Z.length,a9 Z Z.length,()))else .inl ([],false,()))
 |0,k,h,_,_,_=>absurd h (zA _)
 |n+1,k,h,Q,u,K=>by rw[gp,bQ];by_cases J:k<Z.length;{rw[iP O,iP O,tN];have bd:=vK u;have go:sK Z k=true->(bif decide (pre Z k>=(f0.length:Int))then some (.inl (([]:LI),false,()))else if(c7 k (pre Z)).length+([pre Z k]:LI).length<=1073741824 then gp m n f0 Z D S I W f6 (c7 k (pre Z)++([pre Z k]:LI)) (wI (pre Z k+Z.getD k 0)) (wI (a9 Z k+(wI ((wI (2*Z.getD k 0))-1)))) Z (Z.length:Int) (wI ((k:Int)+1)) else none)=some (if(∀b,b<Z.length->sK Z b=true)/\(∀b,b<Z.length->pre Z b<(f0.length:Int))then .inr (.inl ((f0,Z,D,S,I,W,f6,()),c7 Z.length (pre Z),pre Z Z.length,a9 Z Z.length,()))else .inl ([],false,())):=by{intro ho;have hv:=Xo.1 ho;rw[bQ];by_cases c:pre Z k>=(f0.length:Int);{rw[iP c,af (λq=>by have:=q.2 k J;omega)]};{rw[af c,iP (by show _+1<=_;rw[Qr];omega),qhk,show wI (pre Z k+Z.getD k 0)=pre Z (k+1) by rw[wQ,wi O O];rfl,show wI (a9 Z k+wI (wI (2*Z.getD k 0)-1))=a9 Z (k+1) by{simp only[wQ];rw[wi (n:=2*Z.getD k 0) O O,wi (n:=2*Z.getD k 0-1) O O,wi O O];rfl},show wI ((k:Int)+1)=((k+1:Nat):Int)from ax O];exact qby n (k+1) O O (λb hb=>by{rcases fS b k with h|h;{exact u b h};{rw[show b=k by omega];exact ho}}) (λb hb=>by{rcases fS b k with h|h;{exact K b h};{rw[show b=k by omega];omega}})}};by_cases c1:Z.getD k 0=1;{rw[aN,iP c1];exact go (Xo.2 (.inl c1))};{rw[aN,af c1,aN];by_cases G:Z.getD k 0=2;{rw[iP G];exact go (Xo.2 (.inr G))};{rw[af G,af (λq=>by have:=Xo.1 (q.1 k J);omega)]}}};{have e:k=Z.length:=O;subst e;rw[af O,iP ⟨u,K⟩]}
theorem qoh: ∃l,Df m f0 Z D S I W f6=some ((l,decide (PV f0.length Z D),()),(),())/\(PV f0.length Z D->l=c7 Z.length (pre Z)):=by have h:=qby hm hz h0 hd (S:=S) (I:=I) (W:=W) (f6:=f6) m 0 O O (λb hb=>absurd hb (zA _)) (λb hb=>absurd hb (zA _));rw[Df,show([]:LI)=c7 0 (pre Z)from rfl,show((0:Int))=((0:Nat):Int)from rfl];rw[show gp m m f0 Z D S I W f6 (c7 0 (pre Z)) ((0:Nat):Int) ((0:Nat):Int) Z (Z.length:Int) ((0:Nat):Int)=_ from h,bS];by_cases c:(∀b,b<Z.length->sK Z b=true)/\(∀b,b<Z.length->pre Z b<(f0.length:Int));{rw[iP c];dsimp only;rw[aA];refine⟨c7 Z.length (pre Z),?_,λ_=>rfl⟩;by_cases d:pre Z Z.length=(f0.length:Int);{rw[iP d];congr 4;by_cases e:a9 Z Z.length=(D.length:Int);{rw[decide_eq_true (show PV f0.length Z D from⟨c.1,c.2,d,e⟩)];simpa using e};{rw[decide_eq_false (λq:PV f0.length Z D=>e q.2.2.2)];simpa using e}};{rw[af d,decide_eq_false (λq:PV f0.length Z D=>d q.2.2.1)]}};{rw[af c];have hn: ¬PV f0.length Z D:=λq=>c ⟨q.1,q.2.1⟩;exact⟨[],by rw[decide_eq_false hn],λq=>absurd q hn⟩}
end
end Go.Vs.F
set_option maxRecDepth 100000
namespace Go.Vs.F
def pR (Z:LI) (b:Nat):Int:=pre Z b+Z.getD b 0-1
def kq (n:Int) (last:Int) (S I:LI) (j:Nat):Bool:=decide (S.getD j 0<=S.getD (j+1) 0)&&decide (S.getD (j+1) 0<=(I.length:Int))&&gA n last (dW S I j)
def pn (n:Int) (Z S I:LI) (b:Nat):Bool:=ql (kq n (pR Z b) S I) (pre Z b).toNat (pre Z (b+1)).toNat
def sf (n last:Int) (S I:LI) (j c:Nat):Bool:=decide (last<I.getD c 0)&&decide (I.getD c 0<n)&&(!decide ((S.getD j 0).toNat<c)||decide (I.getD (c-1) 0<I.getD c 0))
def qrx (R last:Int) (I:LI) (s e:Nat) (he:e<=I.length): ∀(d k:Nat) (l:Int),e-k=d->s<=k->last<=l->(k=s->l=last)->(s<k->l=I.getD (k-1) 0)->
 gA R l ((I.drop k).take (e-k))=ql (λk=>decide (last<I.getD k 0)&&decide (I.getD k 0<R)&&(!decide (s<k)||decide (I.getD (k-1) 0<I.getD k 0))) k e
 |0,k,l,hd,hk,hl,Q,h2=>by{rw[hd,Q5 O];simp[gA]}
 |d+1,k,l,hd,hk,hl,Q,h2=>by have J:k<e:=O;have G:k<I.length:=O;rw[qy J,cn (d:=0) G,hd,RS,gA];by_cases u:l<I.getD k 0;{have K:=qrx R last I s e he d (k+1) (I.getD k 0) O O O O (λ_=>by simp);rw[show e-(k+1)=d by omega]at K;rw[K];have h0:last<I.getD k 0:=O;by_cases hs:s<k;{have:=h2 hs;simp[-List.getD_eq_getElem?_getD,u,h0,hs,<-this]};{simp[-List.getD_eq_getElem?_getD,u,h0,hs]}};{by_cases hs:s<k;{have:=h2 hs;simp[-List.getD_eq_getElem?_getD,u,hs,<-this]};{have:l=last:=Q O;have h0: ¬last<I.getD k 0:=O;simp[-List.getD_eq_getElem?_getD,u,h0]}}
def qng {n last:Int} {C:Nat} {S I:LI} (h:bL C S I) {j:Nat} (u:j<C):gA n last (dW S I j)=ql (sf n last S I j) (S.getD j 0).toNat (S.getD (j+1) 0).toNat:=by have a:=h.rng (j:=j) O;have b:=h.rng (j:=j+1) O;exact qrx n last I _ _ O _ _ _ rfl (zJ _) (E3 _) (λ_=>rfl) (λh=>absurd h (Rx _))
section
variable {m:Nat} (hm:5000000000<=m) {f0 Z D S I W:LI} {f6:Int} (hz:Z.length<=1000) (h0:f0.length<=1000) (hS:S.length=f0.length+1) (hI:I.length<=100000)
include hm hz h0 hS hI
theorem ZP (K t8 Q:Int) (J:LI) (G u:Int) {X:LI} (hX:X.length<=100000): ∀(n k:Nat) (l:Int),X.length-k<n->k<=X.length->
 mF m n f0 Z D S I W f6 K t8 Q l J G u X (X.length:Int) (k:Int)=some (if gA K l (X.drop k)=true then .inr (.inl ((f0,Z,D,S,I,W,f6,()),K,t8,Q,J,G,u,()))else .inl (false,()))
 |0,k,l,h,_=>absurd h (zA _)
 |n+1,k,l,h,c0=>by rw[mF,bQ];by_cases hk:k<X.length;{rw[iP O,iP O,tN,bQ,cn (d:=0) hk,gA];by_cases c1:X.getD k 0<=l;{rw[iP c1,af (by rw[decide_eq_false O];simp)]};{rw[af c1,bQ,decide_eq_true (show l<X.getD k 0 by omega)];by_cases c2:X.getD k 0>=K;{rw[iP c2,af (by rw[decide_eq_false O];simp)]};{rw[af c2,decide_eq_true (show X.getD k 0<K by omega),show wI ((k:Int)+1)=((k+1:Nat):Int)from ax O,ZP K t8 Q J G u hX n (k+1) (X.getD k 0) O O];simp only[lr]}}};{rw[af O,Bf O,gA,iP rfl]}
theorem qrn (J:LI) (G u:Int) (c0:S.getD 0 0=0) {e:Nat} (he:e<=f0.length): ∀(n j:Nat),e-j<n->j<=e->(∀i,i<j->S.getD i 0<=S.getD (i+1) 0)->
 mG m n f0 Z D S I W f6 (f0.length:Int) ((e:Int)-1) (j:Int) J G u=some (if ql (kq (f0.length:Int) ((e:Int)-1) S I) j e=true then .inr (.inl ((f0,Z,D,S,I,W,f6,()),(f0.length:Int),J,G,u,()))else .inl (false,()))
 |0,j,h,_,_=>absurd h (zA _)
 |n+1,j,h,e0,hmono=>by rw[mG,bQ];by_cases hj:j<e;{have K: ∀i,i<=j->0<=S.getD i 0:=by{intro i;induction i with|zero=>{intro _;omega}|succ i ih=>{intro hi;have:=ih O;have:=hmono i O;omega}};have d0:=K j (zJ _);have w1:wI ((j:Int)+1)=((j+1:Nat):Int):=ax O;rw[iP O,iP O,w1,iP O,tN,tN,bQ,qy hj];unfold kq;by_cases c1:S.getD j 0>S.getD (j+1) 0;{rw[iP c1,af (by rw[decide_eq_false (show¬(S.getD j 0<=S.getD (j+1) 0) by omega)];simp)]};{rw[af c1,iP O,bQ,decide_eq_true (show S.getD j 0<=S.getD (j+1) 0 by omega)];by_cases c2:S.getD (j+1) 0>(I.length:Int);{rw[iP c2,af (by rw[decide_eq_false (show¬(S.getD (j+1) 0<=(I.length:Int)) by omega)];simp)]};{have Q:((I.drop (S.getD j 0).toNat).take ((S.getD (j+1) 0).toNat-(S.getD j 0).toNat)).length<=100000:=by{rw[zU,ix];omega};have h2:=ZP hm hz h0 hS hI (f6:=f6) (D:=D) (W:=W) (f0.length:Int) ((e:Int)-1) (j:Int) J G u Q m 0 ((e:Int)-1) O O;rw[nZ,iX]at h2;rw[af c2,iP O,iP O,iP O,h2,bS,decide_eq_true (show S.getD (j+1) 0<=(I.length:Int) by omega)];have ec:(I.drop (S.getD j 0).toNat).take ((S.getD (j+1) 0).toNat-(S.getD j 0).toNat)=dW S I j:=rfl;rw[ec];cases hc:gA (f0.length:Int) ((e:Int)-1) (dW S I j)with|false=>rfl|true=>{rw[iP rfl];dsimp only;rw[w1,qrn J G u c0 he n (j+1) O O (λi hi=>by{rcases fS i j with h|h;{exact hmono i h};{rw[show i=j by omega];omega}})];rfl}}}};{rw[af O,Q5 hj,iP rfl]}
theorem ZW (u:S.getD 0 0=0) (hP:PV f0.length Z D): ∀(n b:Nat),Z.length-b<n->b<=Z.length->(∀i:Nat,(i:Int)<pre Z b->S.getD i 0<=S.getD (i+1) 0)->
 mH m n f0 Z D S I W f6 (f0.length:Int) (c7 Z.length (pre Z)) (Z.length:Int) (b:Int)=some (if ql (pn (f0.length:Int) Z S I) b Z.length=true then .inr (.inl ())else .inl (false,()))
 |0,b,h,_,_=>absurd h (zA _)
 |n+1,b,h,c0,hmono=>by rw[mH,bQ];by_cases hb:b<Z.length;{have hv:=Xo.1 (hP.1 b hb);have bd:=vK (b:=b) λi J=>hP.1 i O;have Q:=Jc (c:=Z.length) hP.1 (b:=b+1) O;have hn:=hP.2.2.1;have e1:pre Z (b+1)=pre Z b+Z.getD b 0:=rfl;obtain⟨k,G⟩: ∃k:Nat,pre Z b=(k:Int):=⟨(pre Z b).toNat,O⟩;obtain⟨e,he⟩: ∃e:Nat,pre Z (b+1)=(e:Int):=⟨(pre Z (b+1)).toNat,O⟩;have K:wI (wI (pre Z b+Z.getD b 0)-1)=(e:Int)-1:=by{simp only[wQ];rw[wi (n:=pre Z b+Z.getD b 0) O O,wi O O];omega};rw[iP O,iP (by rw[Qr];omega),iP O,tN,Zz hb,K,G,qrn hm hz h0 hS hI _ _ _ u (e:=e) O m k O O (λi J=>hmono i O),bS,qy hb];have ef:pn (f0.length:Int) Z S I b=ql (kq (f0.length:Int) ((e:Int)-1) S I) k e:=by{unfold pn pR;rw[he,G,tN,tN,show(k:Int)+Z.getD b 0-1=(e:Int)-1 by omega]};rw[ef];cases hc:ql (kq (f0.length:Int) ((e:Int)-1) S I) k e with|false=>rfl|true=>{rw[iP rfl];dsimp only;rw[show wI ((b:Int)+1)=((b+1:Nat):Int)from ax O,ZW u hP n (b+1) O O (λi J=>by{rcases fS i k with h|h;{exact hmono i O};{have:=qx.1 hc i h O;unfold kq at this;simp only[zM,decide_eq_true_eq]at this;exact this.1.1}})];simp only[lr]}};{rw[af O,Q5 hb,iP rfl]}
def CF (n:Nat) (Z S I:LI):Prop:=S.getD 0 0=0/\S.getD n 0=(I.length:Int)/\ql (pn (n:Int) Z S I) 0 Z.length=true
instance (n:Nat) (Z S I:LI):Decidable (CF n Z S I):=inferInstanceAs (Decidable (_/\_))
theorem qrd (hP:PV f0.length Z D):Dd m f0 Z D S I W f6 (c7 Z.length (pre Z))=some (decide (CF f0.length Z S I),(),(),()):=by rw[Dd,iP O,aN];by_cases c1:S.getD 0 0=0;{rw[iP c1,iP O,tN,aN];by_cases u:S.getD f0.length 0=(I.length:Int);{have h:=ZW hm hz h0 hS hI (W:=W) (f6:=f6) c1 hP m 0 O O (λi G=>by simp only[pre]at G;omega);rw[nZ]at h;rw[iP u,Qr,h,bS];cases hc:ql (pn (f0.length:Int) Z S I) 0 Z.length with|true=>rw[iP rfl,decide_eq_true (show CF f0.length Z S I from⟨c1,u,hc⟩)]|false=>{rw[af (by decide),decide_eq_false (λq:CF f0.length Z S I=>by have:=q.2.2;rw[hc]at this;cases this)]}};{rw[af u,decide_eq_false (λq:CF f0.length Z S I=>u q.2.1)]}};{rw[af c1,decide_eq_false (λq:CF f0.length Z S I=>c1 q.1)]}
end
end Go.Vs.F
set_option maxRecDepth 100000
namespace Go.Vs.F
section
variable {m:Nat} (hm:5000000000<=m) {f0 Z D S I W:LI} {f6:Int} (hz:Z.length<=1000) (h0:f0.length<=1000) (hS:S.length=f0.length+1) (hI:I.length<=100000)
include hm h0 hS
theorem Z3: ∀(n i:Nat),f0.length-i<n->i<=f0.length->
 mv m n S (f0.length:Int) (i:Int)=some (if ql (vR S) i f0.length=true then .inr (.inl ())else .inl (false,()))
 |0,i,h,_=>absurd h (zA _)
 |n+1,i,h,J=>by rw[mv,bQ];by_cases u:i<f0.length;{have G:wI ((i:Int)+1)=((i+1:Nat):Int):=ax O;rw[iP O,iP O,G,iP O,tN,tN,bQ,qy u];unfold vR;by_cases c:S.getD i 0>S.getD (i+1) 0;{rw[iP c,af (by rw[decide_eq_false (show¬(S.getD i 0<=S.getD (i+1) 0) by omega)];simp)]};{rw[af c,decide_eq_true (show S.getD i 0<=S.getD (i+1) 0 by omega),Z3 n (i+1) O O,lr];rfl}};{rw[af O,Q5 u,iP rfl]}
def Bc (n:Nat) (S I:LI):Prop:=S.getD 0 0=0/\S.getD n 0=(I.length:Int)/\ql (vR S) 0 n=true
instance (n:Nat) (S I:LI):Decidable (Bc n S I):=inferInstanceAs (Decidable (_/\_))
omit hm h0 in
theorem Bc.start (h:Bc f0.length S I):bL f0.length S I:=⟨hS,h.1,λj u=>by have:=qx.1 h.2.2 j O u;unfold vR at this;simpa using this,h.2.1⟩
theorem qvd:CU m S (f0.length:Int) (I.length:Int)=some (decide (Bc f0.length S I),(),(),(),()):=by have G:wI ((f0.length:Int)+1)=((f0.length+1:Nat):Int):=by{rw[wQ,wi O O];omega};rw[CU,G,aN,iP O,iP O,aN];by_cases c1:S.getD 0 0=0;{rw[iP c1,iP O,tN,aN];by_cases u:S.getD f0.length 0=(I.length:Int);{have h:=Z3 hm h0 hS m 0 O O;rw[nZ]at h;rw[iP u,h,bS];cases hc:ql (vR S) 0 f0.length with|true=>rw[iP rfl,decide_eq_true (show Bc f0.length S I from⟨c1,u,hc⟩)]|false=>{rw[af (by decide),decide_eq_false (λq:Bc f0.length S I=>by have:=q.2.2;rw[hc]at this;cases this)]}};{rw[af u,decide_eq_false (λq:Bc f0.length S I=>u q.2.1)]}};{rw[af c1,decide_eq_false (λq:Bc f0.length S I=>c1 q.1)]}
include hz hI
theorem Z0 (G:bL f0.length S I) (K J last:Int) {j:Nat} (hj:j<f0.length): ∀(n c:Nat),(S.getD (j+1) 0).toNat-c<n->(S.getD j 0).toNat<=c->c<=(S.getD (j+1) 0).toNat->
 kj m n f0 Z D S I W f6 (f0.length:Int) K J last (j:Int) (c:Int)=some (if ql (sf (f0.length:Int) last S I j) c (S.getD (j+1) 0).toNat=true then .inr (.inl ((f0,Z,D,S,I,W,f6,()),(f0.length:Int),K,J,last,(j:Int),()))else .inl (false,()))
 |0,c,h,_,_=>absurd h (zA _)
 |n+1,c,h,d0,c0=>by have a:=G.rng (j:=j) O;have b:=G.rng (j:=j+1) O;have w1:wI ((j:Int)+1)=((j+1:Nat):Int):=ax O;rw[kj,w1,iP O,tN,tN,tN,bQ];by_cases Q:c<(S.getD (j+1) 0).toNat;{rw[iP O,iP O,bQ,qy Q];have u:=Z0 G K J last hj n (c+1) O O O;unfold sf;by_cases c1:I.getD c 0<=last;{rw[iP c1,af (by rw[decide_eq_false (show¬(last<I.getD c 0) by omega)];simp)]};{rw[af c1,iP O,bQ,decide_eq_true (show last<I.getD c 0 by omega)];by_cases c2:I.getD c 0>=(f0.length:Int);{rw[iP c2,af (by rw[decide_eq_false (show¬(I.getD c 0<(f0.length:Int)) by omega)];simp)]};{rw[af c2,iP O,bQ,decide_eq_true (show I.getD c 0<(f0.length:Int) by omega)];by_cases c3:(c:Int)>S.getD j 0;{have w2:wI ((c:Int)-1)=((c-1:Nat):Int):=by{rw[wQ,wi O O];omega};rw[iP c3,w2,iP O,iP O,tN,bQ,decide_eq_true (show(S.getD j 0).toNat<c by omega)];by_cases c4:I.getD c 0<=I.getD (c-1) 0;{rw[iP c4,af (by rw[decide_eq_false (show¬(I.getD (c-1) 0<I.getD c 0) by omega)];simp)]};{rw[af c4,decide_eq_true (show I.getD (c-1) 0<I.getD c 0 by omega),show wI ((c:Int)+1)=((c+1:Nat):Int)from ax O,u];simp only[uw,AS,Bh,lr];rfl}};{rw[af c3,decide_eq_false (show¬(S.getD j 0).toNat<c by omega),show wI ((c:Int)+1)=((c+1:Nat):Int)from ax O,u];simp only[Bj,MA,Bh,lr];rfl}}}};{rw[af O,Q5 Q,iP rfl]}
theorem Z6 (u:bL f0.length S I) (J G:Int) {e:Nat} (he:e<=f0.length): ∀(n j:Nat),e-j<n->j<=e->
 iO m n f0 Z D S I W f6 (f0.length:Int) J G ((e:Int)-1) (j:Int)=some (if ql (kq (f0.length:Int) ((e:Int)-1) S I) j e=true then .inr (.inl ((f0,Z,D,S,I,W,f6,()),(f0.length:Int),J,G,(e:Int)-1,()))else .inl (false,()))
 |0,j,h,_=>absurd h (zA _)
 |n+1,j,h,c0=>by rw[iO,bQ];by_cases K:j<e;{have a:=u.rng (j:=j) O;have b:=u.rng (j:=j+1) O;have Q:=u.mono j O;have h2:=Z0 hm hz h0 hS hI (Z:=Z) (D:=D) (W:=W) (f6:=f6) u J G ((e:Int)-1) (j:=j) O m (S.getD j 0).toNat O O O;rw[show(((S.getD j 0).toNat:Nat):Int)=S.getD j 0 by omega]at h2;rw[iP O,iP O,tN,h2,bS,qy K];have ec:kq (f0.length:Int) ((e:Int)-1) S I j=ql (sf (f0.length:Int) ((e:Int)-1) S I j) (S.getD j 0).toNat (S.getD (j+1) 0).toNat:=by{unfold kq;rw[decide_eq_true Q,decide_eq_true b.2,qng u O];rfl};rw[ec];cases hc:ql (sf (f0.length:Int) ((e:Int)-1) S I j) (S.getD j 0).toNat (S.getD (j+1) 0).toNat with|false=>rfl|true=>{rw[iP rfl];dsimp only;rw[show wI ((j:Int)+1)=((j+1:Nat):Int)from ax O,Z6 u J G he n (j+1) O O,lr]}};{rw[af O,Q5 K,iP rfl]}
def gU (n:Int) (Z S I:LI) (b:Nat):Bool:=sK Z b&&decide (pre Z (b+1)<=n)&&pn n Z S I b
theorem ZB (G:bL f0.length S I): ∀(n b:Nat),Z.length-b<n->b<=Z.length->(∀i,i<b->sK Z i=true)->
 iQ m n f0 Z D S I W f6 (f0.length:Int) (pre Z b) (a9 Z b) (b:Int)=some (if ql (gU (f0.length:Int) Z S I) b Z.length=true then .inr (.inl ((f0,Z,D,S,I,W,f6,()),(f0.length:Int),pre Z Z.length,a9 Z Z.length,()))else .inl (false,()))
 |0,b,h,_,_=>absurd h (zA _)
 |n+1,b,h,c0,J=>by rw[iQ,bQ];by_cases hb:b<Z.length;{have bd:=vK J;have e1:pre Z (b+1)=pre Z b+Z.getD b 0:=rfl;have go:sK Z b=true->(bif decide ((wI (pre Z b+(Z.getD b 0)))>(f0.length:Int))then some (.inl (false,())) else if(0:Int)<=(b:Int)/\(b:Int)<(Z.length:Int)then (iO m m f0 Z D S I W f6 (f0.length:Int) (a9 Z b) (b:Int) (wI ((wI (pre Z b+(Z.getD b 0)))-1)) (pre Z b)).bind λy1=> match y1 with| .inl z2=> some (.inl (z2.1,()))| .inr (.inl u)=> if(0:Int)<=u.2.2.2.1/\u.2.2.2.1<(u.1.2.1.length:Int)then iQ m n u.1.1 u.1.2.1 u.1.2.2.1 u.1.2.2.2.1 u.1.2.2.2.2.1 u.1.2.2.2.2.2.1 u.1.2.2.2.2.2.2.1 u.2.1 (wI (u.2.2.2.2.1+1)) (wI ((wI (u.2.2.1+(wI (2*(u.1.2.1.getD u.2.2.2.1.toNat 0)))))-1)) (wI (u.2.2.2.1+1)) else none| .inr (.inr e)=> e.elim else none)=some (if ql (gU (f0.length:Int) Z S I) b Z.length=true then .inr (.inl ((f0,Z,D,S,I,W,f6,()),(f0.length:Int),pre Z Z.length,a9 Z Z.length,()))else .inl (false,())):=by{intro ho;have hv:=Xo.1 ho;have w0:wI (pre Z b+Z.getD b 0)=pre Z (b+1):=by{rw[wQ,wi O O];rfl};have w1:wI (pre Z (b+1)-1)=pre Z (b+1)-1:=by{rw[wQ,wi O O]};rw[w0,bQ,qy hb];unfold gU;rw[ho];by_cases c:pre Z (b+1)>(f0.length:Int);{rw[iP c,decide_eq_false (show¬(pre Z (b+1)<=(f0.length:Int)) by omega),af (by simp)]};{obtain⟨k,Q⟩: ∃k:Nat,pre Z b=(k:Int):=⟨(pre Z b).toNat,O⟩;obtain⟨e,he⟩: ∃e:Nat,pre Z (b+1)=(e:Int):=⟨(pre Z (b+1)).toNat,O⟩;have ef:pn (f0.length:Int) Z S I b=ql (kq (f0.length:Int) ((e:Int)-1) S I) k e:=by{unfold pn pR;rw[he,Q,tN,tN,show(k:Int)+Z.getD b 0-1=(e:Int)-1 by omega]};rw[af c,decide_eq_true (show pre Z (b+1)<=(f0.length:Int) by omega),iP O,w1,he,Q,Z6 hm hz h0 hS hI G _ _ (e:=e) O m k O O,bS,ef];cases hc:ql (kq (f0.length:Int) ((e:Int)-1) S I) k e with|false=>rfl|true=>{rw[iP rfl];dsimp only;have w2:wI (wI (a9 Z b+wI (2*Z.getD b 0))-1)=a9 Z (b+1):=by{simp only[wQ];rw[wi (n:=2*Z.getD b 0) O O,wi (n:=a9 Z b+2*Z.getD b 0) O O,wi O O,a9];omega};have w3:wI ((e:Int)-1+1)=pre Z (b+1):=by{rw[wQ,wi O O];omega};rw[iP O,tN,w2,w3,show wI ((b:Int)+1)=((b+1:Nat):Int)from ax O,ZB G n (b+1) O O (λi hi=>by{rcases fS i b with h|h;{exact J i h};{rw[show i=b by omega];exact ho}})];simp only[lr];rfl}}};rw[iP O,iP O,tN,aN,aN];by_cases c1:Z.getD b 0=1;{rw[iP c1,iP O];exact go (Xo.2 (.inl c1))};{rw[af c1,iP O];by_cases K:Z.getD b 0=2;{rw[iP K,iP O];exact go (Xo.2 (.inr K))};{rw[af K,qy hb];have:sK Z b=false:=decide_eq_false O;unfold gU;rw[this,af (by simp)]}}};{have e:b=Z.length:=O;subst e;rw[af O,Q5 hb,iP rfl]}
def vx (n:Nat) (Z D S I:LI) (f6:Int):Prop:=0<=f6/\Bc n S I/\ql (gU (n:Int) Z S I) 0 Z.length=true/\pre Z Z.length=(n:Int)/\a9 Z Z.length=(D.length:Int)
instance (n:Nat) (Z D S I:LI) (f6:Int):Decidable (vx n Z D S I f6):=inferInstanceAs (Decidable (_/\_))
theorem qex:Ew m f0 Z D S I W f6=some (decide (vx f0.length Z D S I f6),(),()):=by rw[Ew,bQ];by_cases c:f6<0;{rw[iP c,decide_eq_false (λq:vx f0.length Z D S I f6=>by have:=q.1;omega)]};{rw[af c,qvd hm h0 hS,bS];dsimp only;by_cases u:Bc f0.length S I;{have h:=ZB hm hz h0 hS hI (D:=D) (W:=W) (f6:=f6) (u.start hS) m 0 O O (λi G=>absurd G (zA _));rw[nZ,show pre Z 0=0 from rfl,show a9 Z 0=0 from rfl]at h;rw[decide_eq_true u,show(!true)=false from rfl,cond_false,h,bS];cases hw:ql (gU (f0.length:Int) Z S I) 0 Z.length with|false=>{rw[af (by decide),decide_eq_false (λq:vx f0.length Z D S I f6=>by have:=q.2.2.1;rw[hw]at this;cases this)]}|true=>{rw[iP rfl];dsimp only;rw[aA];by_cases d:pre Z Z.length=(f0.length:Int);{rw[iP d];congr 2;by_cases e:a9 Z Z.length=(D.length:Int);{rw[decide_eq_true (show vx f0.length Z D S I f6 from⟨O,u,hw,d,e⟩)];simpa using e};{rw[decide_eq_false (λq:vx f0.length Z D S I f6=>e q.2.2.2.2)];simpa using e}};{rw[af d,decide_eq_false (λq:vx f0.length Z D S I f6=>d q.2.2.2.1)]}}};{rw[decide_eq_false u,decide_eq_false (λq:vx f0.length Z D S I f6=>u q.2.1)];rfl}}
omit hm hz h0 hI in
theorem SC:vx f0.length Z D S I f6↔(PV f0.length Z D/\0<=f6/\CF f0.length Z S I):=by constructor;{rintro ⟨G,h2,h3,h4,h5⟩;have hw:=qx.1 h3;have u: ∀b,b<Z.length->sK Z b=true:=λb hb=>by{have:=hw b O hb;unfold gU at this;simp only[zM]at this;exact this.1.1};refine⟨⟨u,λb hb=> ?_,h4,h5⟩,G,h2.1,h2.2.1,qx.2 λb _ hb=> ?_⟩;{have:=hw b O hb;unfold gU at this;simp only[zM,decide_eq_true_eq]at this;have Q:=this.1.2;have h7:=Xo.1 (u b hb);rw[pre]at Q;omega};{have:=hw b O hb;unfold gU at this;simp only[zM]at this;exact this.2}};{rintro ⟨⟨a1,a2,a3,a4⟩,G,c1,c2,c3⟩;have J:=qx.1 c3;refine⟨G,⟨c1,c2,qx.2 λi _ K=> ?_⟩,qx.2 λb _ hb=> ?_,a3,a4⟩;{obtain⟨b,b1,b2,b3⟩:=Vy a1 (j:=(i:Int)) O O;have bd:=vK (b:=b) λi K=>a1 i O;have:=J b O b1;unfold pn at this;have:=qx.1 this i O O;unfold kq at this;simp only[zM,decide_eq_true_eq]at this;unfold vR;exact decide_eq_true this.1.1};{unfold gU;rw[a1 b hb,J b O hb,decide_eq_true (show pre Z (b+1)<=(f0.length:Int)from by have:=(Jc (c:=Z.length) a1 (b:=b+1) O).1;omega)];rfl}}
end
end Go.Vs.F
set_option maxRecDepth 100000
namespace Go.Vs.F
def Wh {l:LI} {k:Nat} (u:k<l.length):ql (λi=>decide (aU (l.getD i 0))) k l.length=(decide (aU (l.getD k 0))&&ql (λi=>decide (aU (l.getD i 0))) (k+1) l.length):=qy u
abbrev DyR:=Bool×(Bool×LI)×Int
def fH (D Z:LI) (b:Nat):List DyR:=(List.range (2*Z.getD b 0-1).toNat).map λi=>AA (fo (D.getD ((a9 Z b).toNat+i) 0))
def po (D:LI) (k:Nat):Int:=aM (D.getD k 0)*aM (D.getD (k+2) 0)-aM (D.getD (k+1) 0)*aM (D.getD (k+1) 0)
def nR (D Z:LI) (b:Nat):Bool:= !(decide (Z.getD b 0=2)&&decide (po D (a9 Z b).toNat=0))
def qlz {D:LI} {k:Nat} (h: ∀i,i<3->aU (D.getD (k+i) 0)):bX (po D k) (-2148):=by have h0:=h 0 O;have u:=h 1 O;have h2:=h 2 O;refine qr1 ?_;unfold po;have a:=qhz h0 h2;have b:=qhz u u;have:=Zw (a:=aM (D.getD (k+0) 0)*aM (D.getD (k+2) 0)) (b:= -(aM (D.getD (k+1) 0)*aM (D.getD (k+1) 0))) a (by rw[xg];exact b);rw[<-Int.sub_eq_add_neg,zQ]at this;omega
section
variable {m:Nat} (hm:5000000000<=m)
include hm
theorem UK {z e:Int} (h:bX z e):tR m (aE z e).1 (aE z e).2.1 (aE z e).2.2.1 (aE z e).2.2.2.1=some (sgn z,(),()):=by rw[tR,X8 O,bS];dsimp only;rw[show(aE z e).1=false from h,cond_false,Mh O h,bS]
variable {f0 Z D S I W:LI} {f6:Int} (hz:Z.length<=1000) (h0:f0.length<=1000) (hd:D.length<=3000) (hw:W.length<=100000) (uD:UL D) (uW:UL W)
include hz h0 hd hw uD uW
theorem Ux (J:List LI) (G u:Int) {X:LI} (hX:X.length<=100000) (Q:UL X): ∀(n k:Nat),X.length-k<n->k<=X.length->
 nr m n f0 Z D S I W f6 J G u X (X.length:Int) (k:Int)=some (if ql (λi=>decide (aU (X.getD i 0))) k X.length=true then .inr (.inl ((f0,Z,D,S,I,W,f6,()),J,G,u,()))else .inl (4,()))
 |0,k,h,_=>absurd h (zA _)
 |n+1,k,h,c0=>by rw[nr,bQ];by_cases K:k<X.length;{rw[iP O,iP O,tN,A6 (Q k K),bS,Wh K];dsimp only;by_cases c:aU (X.getD k 0);{rw[decide_eq_true c,show(!true)=false from rfl,cond_false,show wI ((k:Int)+1)=((k+1:Nat):Int)from ax O,Ux J G u hX Q n (k+1) O O,lr]};{rw[decide_eq_false c];rfl}};{rw[af O,Q5 K,iP rfl]}
theorem qv0:iR m m f0 Z D S I W f6 [W,D] 2 0=some (if bq W=true/\bq D=true then .inr (.inl ((f0,Z,D,S,I,W,f6,()),()))else .inl (4,())):=by obtain⟨k,rfl⟩: ∃k,m=k+3:=⟨m-3,O⟩;have u:=Ux hm hz h0 hd hw uD uW (f6:=f6) (S:=S) (I:=I) (f0:=f0) (Z:=Z) [W,D] 2 0 hw uW (k+3) 0 O O;have h2:=Ux hm hz h0 hd hw uD uW (f6:=f6) (S:=S) (I:=I) (f0:=f0) (Z:=Z) [W,D] 2 1 (show D.length<=100000 by omega) uD (k+3) 0 O O;rw[nZ]at u h2;have J:([W,D]:List LI).getD (0+(0:Int).toNat) []=W:=rfl;have G:([W,D]:List LI).getD (0+(1:Int).toNat) []=D:=rfl;rw[iR,bQ,iP O,iP (by simp),J,u,bS,show ql (λi=>decide (aU (W.getD i 0))) 0 W.length=bq W from rfl];cases Q:bq W with|false=>rw[af (by decide),af (λq=>by cases q.1)]|true=>{rw[iP rfl];dsimp only;rw[show wI (0+1)=1 from by rw[wQ,wi O O];rfl,iR,bQ,iP O,iP (by simp),G,h2,bS,show ql (λi=>decide (aU (D.getD i 0))) 0 D.length=bq D from rfl];cases K:bq D with|false=>rw[af (by decide),af (λq=>by cases q.2)]|true=>{rw[iP rfl,iP ⟨rfl,rfl⟩];dsimp only;rw[show wI (1+1)=2 from by rw[wQ,wi O O];rfl,iR,bQ,af O]}}
theorem qma: ∀(n k:Nat),W.length-k<n->k<=W.length->
 rf m n f0 Z D S I W f6 (k:Int)=some (if ql (λi=>decide (aU (W.getD i 0))) k W.length=true then .inr (.inl ((f0,Z,D,S,I,W,f6,()),()))else .inl (4,()))
 |0,k,h,_=>absurd h (zA _)
 |n+1,k,h,G=>by rw[rf,bQ];by_cases u:k<W.length;{rw[iP O,iP O,tN,Xx (uW k u),bS,Wh u];dsimp only;by_cases c:aU (W.getD k 0);{rw[decide_eq_true c,show(!true)=false from rfl,cond_false,show wI ((k:Int)+1)=((k+1:Nat):Int)from ax O,qma n (k+1) O O,lr]};{rw[decide_eq_false c];rfl}};{rw[af O,Q5 u,iP rfl]}
theorem qo7: ∀(n k:Nat),D.length-k<n->k<=D.length->
 re m n f0 Z D S I W f6 (k:Int)=some (if ql (λi=>decide (aU (D.getD i 0))) k D.length=true then .inr (.inl ((f0,Z,D,S,I,W,f6,()),()))else .inl (4,()))
 |0,k,h,_=>absurd h (zA _)
 |n+1,k,h,G=>by rw[re,bQ];by_cases u:k<D.length;{rw[iP O,iP O,tN,Xx (uD k u),bS,Wh u];dsimp only;by_cases c:aU (D.getD k 0);{rw[decide_eq_true c,show(!true)=false from rfl,cond_false,show wI ((k:Int)+1)=((k+1:Nat):Int)from ax O,qo7 n (k+1) O O,lr]};{rw[decide_eq_false c];rfl}};{rw[af O,Q5 u,iP rfl]}
theorem qmh (out:List (List DyR)) (G u:Int) {b:Nat} (hl:b<=1000) {N:Nat} (hN:N<=3) {p:Nat} (J:p+N<=D.length): ∀(n k:Nat),N-k<n->k<=N->
 mD m n f0 Z D S I W f6 out ((p+k:Nat):Int) ((List.range k).map λi=>AA (fo (D.getD (p+i) 0))) Z G u (N:Int) (k:Int)=
  some (.inl ((f0,Z,D,S,I,W,f6,()),out,((p+N:Nat):Int),(List.range N).map λi=>AA (fo (D.getD (p+i) 0)),Z,G,u,()))
 |0,k,h,_=>absurd h (zA _)
 |n+1,k,h,K=>by rw[mD,bQ];by_cases Q:k<N;{rw[iP O,iP O,tN,di O (uD (p+k) O),bS];dsimp only;rw[iP (by show _+1<=_;rw[zh,wY];omega),show wI (((p+k:Nat):Int)+1)=((p+(k+1):Nat):Int)from by rw[wQ,wi O O];omega,show wI ((k:Int)+1)=((k+1:Nat):Int)from ax O];have:=qmh out G u hl hN J n (k+1) O O;rw[AW,sF]at this;exact this};{rw[af O,show k=N by omega]}
theorem qlv (hP:PV f0.length Z D): ∀(n b:Nat),Z.length-b<n->b<=Z.length->
 mE m n f0 Z D S I W f6 ((List.range b).map (fH D Z)) (a9 Z b) Z (Z.length:Int) (b:Int)=some (.inl ((List.range Z.length).map (fH D Z),()))
 |0,b,h,_=>absurd h (zA _)
 |n+1,b,h,Q=>by rw[mE,bQ];by_cases hb:b<Z.length;{have hv:=Xo.1 (hP.1 b hb);have bd:=vK (b:=b) λi hi=>hP.1 i O;have K:=Jc (c:=Z.length) hP.1 (b:=b+1) O;have hn:=hP.2.2.2;have e1:a9 Z (b+1)=a9 Z b+(2*Z.getD b 0-1):=rfl;obtain⟨p,u⟩: ∃p:Nat,a9 Z b=(p:Int):=⟨(a9 Z b).toNat,O⟩;obtain⟨N,hN⟩: ∃N:Nat,2*Z.getD b 0-1=(N:Int):=⟨(2*Z.getD b 0-1).toNat,O⟩;have J:wI (wI (2*Z.getD b 0)-1)=(N:Int):=by{simp only[wQ];rw[wi (n:=2*Z.getD b 0) O O,wi O O];omega};have G:=qmh hm hz h0 hd hw uD uW (f0:=f0) (Z:=Z) (S:=S) (I:=I) (f6:=f6) ((List.range b).map (fH D Z)) (Z.length:Int) (b:Int) (b:=b) O (N:=N) O (p:=p) O m 0 O O;rw[List.range_zero,E4,zQ,nZ]at G;rw[iP O,iP O,tN,J,u,G,bS];dsimp only;rw[iP (by show 0<1/\_+1<=_;rw[zh,wY];omega)];have er:(List.range N).map (λi=>AA (fo (D.getD (p+i) 0)))=fH D Z b:=by{unfold fH;rw[hN,u,tN,tN]};have ed:((p+N:Nat):Int)=a9 Z (b+1):=O;rw[er,ed,show wI ((b:Int)+1)=((b+1:Nat):Int)from ax O];have:=qlv hP n (b+1) O O;rw[AW,sF]at this;exact this};{rw[af O,show b=Z.length by omega]}
theorem Z1 (hP:PV f0.length Z D) (hD:bY D): ∀(n b:Nat),Z.length-b<n->b<=Z.length->
 km m n ((List.range Z.length).map (fH D Z)) (Z.length:Int) (b:Int)=some (if ql (nR D Z) b Z.length=true then .inr (.inl ())else .inl (4,()))
 |0,b,h,_=>absurd h (zA _)
 |n+1,b,h,e0=>by rw[km,bQ];by_cases hb:b<Z.length;{have hv:=Xo.1 (hP.1 b hb);have bd:=vK (b:=b) λi hi=>hP.1 i O;have d0:=Jc (c:=Z.length) hP.1 (b:=b+1) O;have hn:=hP.2.2.2;have e1:a9 Z (b+1)=a9 Z b+(2*Z.getD b 0-1):=rfl;have eg:((List.range Z.length).map (fH D Z)).getD b []=fH D Z b:=by{rw[List.getD_eq_getElem?_getD,List.getElem?_map,List.getElem?_range hb];rfl};rw[iP O,iP (by rw[zh,wY];omega),tN,eg,show wI ((b:Int)+1)=((b+1:Nat):Int)from ax O,Z1 hP hD n (b+1) O O,aA,qy hb];rcases hv with hv|hv;{have c0:nR D Z b=true:=by{unfold nR;rw[hv];rfl};rw[af (by unfold fH;rw[hv,zh,wY];decide),c0,lr]};{obtain⟨p,hp⟩: ∃p:Nat,a9 Z b=(p:Int):=⟨(a9 Z b).toNat,O⟩;have er:fH D Z b=[AA (fo (D.getD p 0)),AA (fo (D.getD (p+1) 0)),AA (fo (D.getD (p+2) 0))]:=by{unfold fH;rw[hv,hp,tN];rfl};have J:=(hD p O).2;have u:=(hD (p+1) O).2;have G:=(hD (p+2) O).2;have Q:=qlz (D:=D) (k:=p) (λi hi=>(hD (p+i) O).2);have K:C7 m (fH D Z b)=some (aE (po D p) (-2148),(),()):=by{rw[C7,er,iP (by simp),iP (by simp)];simp only[E1,RQ];rw[Xn J,Xn u,Xn G];have m1:=I5 (m:=m) O (a:=aM (D.getD p 0)) (b:=aM (D.getD (p+2) 0)) (B:= -1074) (C:= -1074);have m2:=I5 (m:=m) O (a:=aM (D.getD (p+1) 0)) (b:=aM (D.getD (p+1) 0)) (B:= -1074) (C:= -1074);rw[iP ⟨cf J,cf G⟩,show(-1074:Int)+ -1074= -2148 by decide]at m1;rw[iP ⟨cf u,cf u⟩,show(-1074:Int)+ -1074= -2148 by decide]at m2;unfold AA;dsimp only;rw[m1,bS,iP (by simp),iP (by simp),m2,bS];dsimp only;rw[Nw O,iP ⟨Xp J G,Xp u u⟩,bS];rfl};rw[iP (by rw[er];rfl),K,bS];dsimp only;rw[NM O Q,bS,aA];dsimp only;unfold nR;rw[hv,hp,tN];by_cases c:po D p=0;{rw[iP (Qa.2 c),decide_eq_true c];rfl};{rw[af (λh=>c (Qa.1 h)),decide_eq_false c];rfl}}};{rw[af O,Q5 hb,iP rfl]}
theorem ZI {p:Nat} (Q:p+3<=D.length) (hD:bY D):nO m ((D.drop p).take 3)=some (aE (po D p) (-2148),(),()):=by have J:=hD p O;have u:=hD (p+1) O;have G:=hD (p+2) O;have K:(D.drop p).take 3=[D.getD p 0,D.getD (p+1) 0,D.getD (p+2) 0]:=by{rw[cn (d:=0) (by omega:p<D.length),cn (d:=0) (by omega:p+1<D.length),cn (d:=0) (by omega:p+1+1<D.length)];simp only[RS,sC]};rw[nO,K,iP (by simp),iP (by simp)];simp only[E1,RQ];rw[Y4 O J.1 G.1 J.2 G.2,bS,iP (by simp),iP (by simp),Y4 O u.1 u.1 u.2 u.2,bS];dsimp only;rw[S8 O,iP ⟨Xp J.2 G.2,Xp u.2 u.2⟩,bS];rfl
theorem qm4 (hP:PV f0.length Z D) (hD:bY D): ∀(n b:Nat),Z.length-b<n->b<=Z.length->
 oI m n f0 Z D S I W f6 (a9 Z b) (b:Int)=some (if ql (nR D Z) b Z.length=true then .inr (.inl ())else .inl (4,()))
 |0,b,h,_=>absurd h (zA _)
 |n+1,b,h,d0=>by rw[oI,bQ];by_cases hb:b<Z.length;{have hv:=Xo.1 (hP.1 b hb);have bd:=vK (b:=b) λi hi=>hP.1 i O;have c0:=Jc (c:=Z.length) hP.1 (b:=b+1) O;have hn:=hP.2.2.2;have e1:a9 Z (b+1)=a9 Z b+(2*Z.getD b 0-1):=rfl;have Q:wI (wI (a9 Z b+wI (2*Z.getD b 0))-1)=a9 Z (b+1):=by{simp only[wQ];rw[wi (n:=2*Z.getD b 0) O O,wi (n:=a9 Z b+2*Z.getD b 0) O O,wi O O,a9];omega};rw[iP O,iP O,tN,Q,show wI ((b:Int)+1)=((b+1:Nat):Int)from ax O,qm4 hP hD n (b+1) O O,aA,qy hb];rcases hv with hv|hv;{have G:nR D Z b=true:=by{unfold nR;rw[hv];rfl};rw[af O,iP O,G,lr]};{obtain⟨p,J⟩: ∃p:Nat,a9 Z b=(p:Int):=⟨(a9 Z b).toNat,O⟩;have u:=qlz (D:=D) (k:=p) (λi hi=>(hD (p+i) O).2);have K:wI ((p:Int)+3)=((p+3:Nat):Int):=by{rw[wQ,wi O O];omega};rw[iP hv,J,K,iP O,tN,tN,show p+3-p=3 by omega,ZI hm hz h0 hd hw uD uW O hD,bS];dsimp only;rw[UK hm u,bS,aA];dsimp only;unfold nR;rw[hv,J,tN];by_cases c:po D p=0;{rw[iP (Qa.2 c),decide_eq_true c];rfl};{rw[af (λh=>c (Qa.1 h)),decide_eq_false c,iP (show(0:Int)<=(b:Int)/\(b:Int)<(Z.length:Int) by omega)];rfl}}};{rw[af O,Q5 hb,iP rfl]}
end
def wO (f0 Z D S I W:LI) (f6:Int):Int:=
 if f0.length>200 then 6 else if gX f0=false then 90 else if S.length≠f0.length+1 then 2 else if I.length≠W.length then 2
 else if¬vx f0.length Z D S I f6 then 240 else if¬(bq W=true/\bq D=true)then 4 else if ql (nR D Z) 0 Z.length=false then 4 else 0
def q9n {m:Nat} (hm:5000000000<=m) {f0 Z D S I W:LI} {f6:Int} (hz:Z.length<=1000) (h0:f0.length<=1000) (hd:D.length<=1000) (hw:W.length<=100000) (hI:I.length<=100000) (i0:S.length<=100000) (uD:UL D) (uW:UL W):
 wF m f0 Z D S I W f6=some (wO f0 Z D S I W f6,(),())/\Mq m f0 Z D S I W f6=some (wO f0 Z D S I W f6,(),()):=by
 have w1:wI ((f0.length:Int)+1)=((f0.length+1:Nat):Int):=by rw[wQ,wi O O];omega
 rw[wF,Mq,bQ,bQ,qo9 O h0,qib O h0,w1];unfold wO;by_cases c1:f0.length>200
 . have c1i:(f0.length:Int)>200:=O;rw[iP c1i,iP c1i,iP c1];exact⟨rfl,rfl⟩
 have c1i: ¬(f0.length:Int)>200:=O;rw[af c1i,af c1i,af c1,bS,bS];dsimp only;cases c2:gX f0 with
 |false=>exact⟨rfl,rfl⟩
 |true=>
 rw[show(!true)=false from rfl,cond_false,cond_false,af (by decide),aN,aN,aN,aN]
 by_cases G:S.length=f0.length+1
 case neg=>
  have c3i: ¬(S.length:Int)=((f0.length+1:Nat):Int):=O;rw[af c3i,af c3i,iP (show S.length≠f0.length+1 from G)];exact⟨rfl,rfl⟩
 have c3i:(S.length:Int)=((f0.length+1:Nat):Int):=O;rw[iP c3i,iP c3i,af (show¬(S.length≠f0.length+1)from λq=>q G)]
 by_cases c4:I.length=W.length
 case neg=>
  have c4i: ¬(I.length:Int)=(W.length:Int):=O;rw[af c4i,af c4i,iP (show I.length≠W.length from c4)];exact⟨rfl,rfl⟩
 have c4i:(I.length:Int)=(W.length:Int):=O;rw[iP c4i,iP c4i,af (show¬(I.length≠W.length)from λq=>q c4)]
 obtain⟨l,e0,Q⟩:=qoh hm hz h0 hd (f0:=f0) (S:=S) (I:=I) (W:=W) (f6:=f6);rw[e0,bS,qex hm hz h0 G hI,bS];dsimp only;by_cases J:vx f0.length Z D S I f6
 case neg=>
  rw[iP (show¬vx f0.length Z D S I f6 from J),decide_eq_false J]
  refine⟨?_,rfl⟩;by_cases hP:PV f0.length Z D
  . rw[decide_eq_true hP,show(!true)=false from rfl,cond_false,bQ]
    by_cases h6:f6<0
    . rw[iP h6]
    . rw[af h6,Q hP,qrd hm hz h0 G hI hP,bS,decide_eq_false (λq:CF f0.length Z S I=>J ((SC G).2 ⟨hP,O,q⟩))];rfl
  . rw[decide_eq_false hP];rfl
 obtain⟨hP,h6,hC⟩:=(SC G).1 J;rw[af (show¬ ¬vx f0.length Z D S I f6 from λq=>q J),decide_eq_true J,decide_eq_true hP,show(!true)=false from rfl,cond_false,cond_false,bQ,af (show¬f6<0 by omega),Q hP,qrd hm hz h0 G hI hP,bS,decide_eq_true hC]
 dsimp only;have r0:=qma hm hz h0 O hw uD uW (f0:=f0) (Z:=Z) (D:=D) (S:=S) (I:=I) (f6:=f6) m 0 O O;have r1:=qo7 hm hz h0 O hw uD uW (f0:=f0) (Z:=Z) (D:=D) (S:=S) (I:=I) (f6:=f6) m 0 O O;rw[nZ]at r0 r1;rw[show(!true)=false from rfl,cond_false,qv0 hm hz h0 O hw uD uW,bS,r0,bS,show ql (λi=>decide (aU (W.getD i 0))) 0 W.length=bq W from rfl]
 cases hW:bq W with
 |false=>
  have K: ¬(false=true/\bq D=true):=λq=>by cases q.1
  rw[af K,iP K,af (show¬(false=true) by decide)];exact⟨rfl,rfl⟩
 |true=>
 rw[iP (show true=true from rfl)]
 dsimp only;rw[r1,bS,show ql (λi=>decide (aU (D.getD i 0))) 0 D.length=bq D from rfl]
 cases g0:bq D with
 |false=>
  have K: ¬(true=true/\false=true):=λq=>by cases q.2
  rw[af K,iP K,af (show¬(false=true) by decide)];exact⟨rfl,rfl⟩
 |true=>
 have hD:=Zl uD g0;have q1:true=true/\true=true:=⟨rfl,rfl⟩;rw[iP q1,iP (show true=true from rfl),af (show¬ ¬(true=true/\true=true)from λq=>q q1)]
 dsimp only;have c0:=qlv hm hz h0 O hw uD uW (S:=S) (I:=I) (f6:=f6) hP m 0 O O;rw[List.range_zero,E4,nZ,show a9 Z 0=0 from rfl]at c0
 have d0:=Z1 hm hz h0 O hw uD uW hP hD m 0 O O;have u:=qm4 hm hz h0 O hw uD uW (S:=S) (I:=I) (f6:=f6) hP hD m 0 O O;rw[nZ]at d0 u;rw[show a9 Z 0=0 from rfl]at u
 rw[K9,c0,bS,bS];dsimp only;rw[zh,wY,d0,bS,u,bS];cases ql (nR D Z) 0 Z.length<;>exact⟨rfl,rfl⟩
end Go.Vs.F
set_option maxRecDepth 100000
namespace Go.Vs.F
def sm:Nat->(Nat->Int)->Int
 |0,_=>0
 |n+1,f=>sm n f+f n
def Fp {f g:Nat->Int}: ∀{n:Nat},(∀i,i<n->f i=g i)->sm n f=sm n g
 |0,_=>rfl
 |n+1,h=>by rw[sm,sm,Fp λi u=>h i O,h n O]
def UV {f:Nat->Int}: ∀{n:Nat},(∀i,i<n->f i=0)->sm n f=0
 |0,_=>rfl
 |n+1,h=>by rw[sm,UV λi u=>h i O,h n O];rfl
def qv1 {f:Nat->Int} {k:Nat}: ∀{n:Nat},k<=n->(∀i,k<=i->i<n->f i=0)->sm n f=sm k f
 |0,h,_=>by rw[show k=0 by omega]
 |n+1,h,hz=>by by_cases c:k=n+1;{rw[c]};{rw[sm,hz n O O,qv1 O λi u h2=>hz i u O];omega}
def VW {f:Nat->Int} {k:Nat}: ∀{r:Nat},sm (k+r) f=sm k f+sm r λi=>f (k+i)
 |0=>by simp[sm]
 |r+1=>by rw[<-Nat.add_assoc,sm,sm,VW];omega
def ZR {f g:Nat->Int} {k:Nat}: ∀{n:Nat},k<n->(∀i,i<n->i≠k->f i=g i)->sm n f=sm n g+(f k-g k)
 |0,h,_=>absurd h (zA _)
 |n+1,h,hz=>by rw[sm,sm];by_cases c:k=n;{subst c;rw[Fp λi u=>hz i O O];omega};{rw[ZR (n:=n) O λi G h2=>hz i O h2,hz n O O];omega}
def ent (S I W:LI) (i j:Nat):Nat->Int
 |0=>0
 |c+1=>if S.getD j 0<=(c:Int)/\(c:Int)<S.getD (j+1) 0/\I.getD c 0=(i:Int)then W.getD c 0 else ent S I W i j c
section
variable {S I W:LI} {i j:Nat}
def UT: ∀{c:Nat},(c:Int)<=S.getD j 0->ent S I W i j c=0
 |0,_=>rfl
 |c+1,h=>by rw[ent,af O,UT O]
def qi0: ∀{d c:Nat},S.getD (j+1) 0<=(c:Int)->ent S I W i j (c+d)=ent S I W i j c
 |0,c,_=>rfl
 |d+1,c,h=>by rw[<-Nat.add_assoc,ent,af O,qi0 h]
def Vr: ∀{c:Nat},(∀k:Nat,k<c->S.getD j 0<=(k:Int)->(k:Int)<S.getD (j+1) 0->I.getD k 0≠(i:Int))->ent S I W i j c=0
 |0,_=>rfl
 |c+1,h=>by rw[ent,af (λq=>h c O q.1 q.2.1 q.2.2),Vr λk u=>h k O]
def UN (u:bY W): ∀{c:Nat},c<=W.length->cd (ent S I W i j c)/\aU (ent S I W i j c)
 |0,_=>⟨Ff,by unfold ent aU;decide⟩
 |c+1,h=>by rw[ent];split;{exact u c O};{exact UN u O}
end
def N3:aM 0=0:=by decide+kernel
structure sO (n:Nat) (S I W:LI):Prop where
 hn:n<=200
 hS:S.length=n+1
 IW:I.length=W.length
 Il:I.length<=5000
 st:bL n S I
 lo: ∀j c:Nat,j<n->S.getD j 0<=(c:Int)->(c:Int)<S.getD (j+1) 0->(j:Int)<I.getD c 0/\I.getD c 0<(n:Int)
 up: ∀j c:Nat,j<n->S.getD j 0<(c:Int)->(c:Int)<S.getD (j+1) 0->I.getD (c-1) 0<I.getD c 0
 hW:bY W
section
variable {n:Nat} {S I W:LI} (h:sO n S I W)
include h
theorem sO.inc {j:Nat} (u:j<n): ∀{d a:Nat},S.getD j 0<=(a:Int)->((a+d+1:Nat):Int)<S.getD (j+1) 0->I.getD a 0<I.getD (a+d+1) 0
 |0,a,G,h2=>h.up j (a+1) u O O
 |d+1,a,G,h2=>by have K:=sO.inc u (d:=d) (a:=a) G O;have J:=h.up j (a+(d+1)+1) u O h2;have e:a+(d+1)+1-1=a+d+1:=O;rw[e]at J;omega
theorem sO.fresh {j c:Nat} (u:j<n) (J:S.getD j 0<=(c:Int)) (h2:(c:Int)<S.getD (j+1) 0):ent S I W (I.getD c 0).toNat j c=0:=by obtain⟨O,K⟩:=h.lo j c u J h2;refine Vr λk Q G h4 e=> ?_;have:=h.inc u (d:=c-k-1) (a:=k) G (by rw[show k+(c-k-1)+1=c by omega];exact h2);rw[show k+(c-k-1)+1=c by omega,e]at this;omega
theorem sO.step {j c i:Nat} (G:j<n) (u:S.getD j 0<=(c:Int)) (h2:(c:Int)<S.getD (j+1) 0):ent S I W i j (c+1)=if i=(I.getD c 0).toNat then W.getD c 0 else ent S I W i j c:=by obtain⟨K,J⟩:=h.lo j c G u h2;rw[ent];by_cases e:i=(I.getD c 0).toNat;{rw[iP e,iP ⟨u,h2,O⟩]};{rw[af e,af (λq=>e O)]}
theorem sO.other {j c i k:Nat} (G:j<n) (u:k<n) (e:k≠j) (J:S.getD j 0<=(c:Int)) (h2:(c:Int)<S.getD (j+1) 0):ent S I W i k (c+1)=ent S I W i k c:=by rw[ent,af];intro q;rcases Nat.lt_or_gt_of_ne e with e|e;{have:=h.st.le (i:=k+1) (j:=j) O O;omega};{have:=h.st.le (i:=j+1) (j:=k) O O;omega}
theorem sO.upper {i j:Nat} (u:j<n) (O:i<=j): ∀{c:Nat},ent S I W i j c=0:=by intro c;refine Vr λk K J G e=> ?_;have:=h.lo j k u J G;omega
theorem sO.full {i j:Nat} (u:j<n):ent S I W i j I.length=ent S I W i j (S.getD (j+1) 0).toNat:=by have r:=h.st.rng (j:=j+1) O;obtain⟨d,hd⟩: ∃d,I.length=(S.getD (j+1) 0).toNat+d:=⟨I.length-(S.getD (j+1) 0).toNat,O⟩;rw[hd,qi0 O]
end
def TT (S I W:LI) (i j:Nat):Int:=aM (ent S I W i j I.length)
def sO.TT0 {n:Nat} {S I W:LI} (h:sO n S I W) {i j:Nat} (u:j<n) (G:i<=j):TT S I W i j=0:=by unfold TT;rw[h.upper u G,N3]
def qo2 {a b:LI} {k:Nat} (h:k<a.length):(a++b).getD k 0=a.getD k 0:=by simp[List.getD,List.getElem?_append_left h]
def qd1 {a b:LI} {k:Nat} (h:a.length<=k):(a++b).getD k 0=b.getD (k-a.length) 0:=by simp[List.getD,List.getElem?_append_right h]
def EK (T:Nat->Nat->Int) (b:Nat->Int):Nat->LI
 |0=>[]
 |k+1=>EK T b k++[Yb (aE (dL (b k)-sm k λj=>T k j*aM ((EK T b k).getD j 0)) (-2148)) 0]
def SD {T:Nat->Nat->Int} {b:Nat->Int}: ∀{k:Nat},(EK T b k).length=k
 |0=>rfl
 |k+1=>by rw[EK,zG,SD];rfl
def qn0 {T:Nat->Nat->Int} {b:Nat->Int} {j:Nat}: ∀{d:Nat},(EK T b (j+1+d)).getD j 0=(EK T b (j+1)).getD j 0
 |0=>rfl
 |d+1=>by rw[<-Nat.add_assoc,EK,qo2 (by rw[SD];omega),qn0]
def Mw (T:Nat->Nat->Int) (b:Nat->Int) (k:Nat):Int:=(EK T b (k+1)).getD k 0
def Sn {T:Nat->Nat->Int} {b:Nat->Int} {k:Nat}:Mw T b k=Yb (aE (dL (b k)-sm k λj=>T k j*aM (Mw T b j)) (-2148)) 0:=by unfold Mw;rw[EK,qd1 (by rw[SD];omega),SD,xe,E1];rw[Fp λj u=> ?_];rw[show k=j+1+(k-j-1) by omega,qn0]
def oQ {T:Nat->Nat->Int} {b:Nat->Int} {k:Nat}:cd (Mw T b k):=by rw[Sn];exact Yx
def Rp (n:Nat) (T:Nat->Nat->Int) (b:Nat->Int) (k:Nat):Int:=Mw (λr c=>T (n-1-c) (n-1-r)) (λr=>b (n-1-r)) (n-1-k)
def so {n:Nat} {T:Nat->Nat->Int} {b:Nat->Int} {k:Nat}:cd (Rp n T b k):=oQ
def qub {f:Nat->Int} {r:Nat}:sm (r+1) f=f 0+sm r λi=>f (i+1):=by rw[pG,VW];simp[sm,pG]
def ZM: ∀{r:Nat} {f:Nat->Int},sm r f=sm r λi=>f (r-1-i)
 |0,f=>rfl
 |r+1,f=>by rw[qub,ZM (r:=r) (f:=λi=>f (i+1)),sm];simp only[RP,xe];rw[Fp (f:=λi=>f (r-1-i+1)) (g:=λi=>f (r-i)) λi u=>by rw[show r-1-i+1=r-i by omega]];omega
def ZF {n:Nat} {T:Nat->Nat->Int} {b:Nat->Int} {k:Nat} (u:k<n):Rp n T b k=Yb (aE (dL (b k)-sm (n-k-1) λi=>T (k+1+i) k*aM (Rp n T b (k+1+i))) (-2148)) 0:=by unfold Rp;rw[Sn,show n-1-(n-1-k)=k by omega,show n-1-k=n-k-1 by omega,ZM (r:=n-k-1)];rw[Fp (n:=n-k-1) λi G=> ?_];rw[show n-1-(n-k-1-1-i)=k+1+i by omega,show n-k-1-1-i=n-1-(k+1+i) by omega]
def DL (l:List bJ) (t:Int) (c:Nat):Prop:= ∃zs:LI,l=zs.map (dy (-2148))/\(∀z∈zs,bX z (-2148))/\cN zs=t/\zs.length<=c
def DL.add {l:List bJ} {t z:Int} {c:Nat} (h:DL l t c) (hz:bX z (-2148)):DL (l++[((aE z (-2148)).1,((aE z (-2148)).2.1,(aE z (-2148)).2.2.1),(aE z (-2148)).2.2.2.1)]) (t+z) (c+1):=by obtain⟨zs,J,h2,G,K⟩:=h;refine⟨zs++[z],by rw[J,sF];rfl,?_,by rw[qiv,G];simp[cN],by simp;omega⟩;intro x u;rcases zX.1 u with u|u;{exact h2 x u};{rw[zC.1 u];exact hz}
def DL.one {z:Int} (hz:bX z (-2148)):DL [((aE z (-2148)).1,((aE z (-2148)).2.1,(aE z (-2148)).2.2.1),(aE z (-2148)).2.2.2.1)] z 1:=
 ⟨[z],rfl,λx u=>by rw[zC.1 u];exact hz,by simp[cN],by simp⟩
def DL.mono {l:List bJ} {t:Int} {c d:Nat} (h:DL l t c) (hd:c<=d):DL l t d:=by obtain⟨zs,G,h2,u,J⟩:=h;exact⟨zs,G,h2,u,O⟩
def DL.len {l:List bJ} {t:Int} {c:Nat} (h:DL l t c):l.length<=c:=by obtain⟨zs,G,h2,J,u⟩:=h;rw[G,zh];exact u
def DL.rsum {m:Nat} (hm:3000000<m) {l:List bJ} {t:Int} {c:Nat} (h:DL l t c) (hc:c<=10000):K5 m l=some (aE t (-2148),(),()):=by obtain⟨zs,G,h2,u,J⟩:=h;rw[G,qlu hm O h2,u]
def SS (n:Nat) (s:List (List bJ)) (t:Nat->Int) (c:Nat):Prop:=s.length=n/\ ∀i,i<n->DL (s.getD i []) (t i) c
def SS.set {n:Nat} {s:List (List bJ)} {t t':Nat->Int} {c:Nat} (h:SS n s t c) {k:Nat} (G:k<n) {l:List bJ} (hl:DL l (t' k) (c+1)) (u: ∀i,i≠k->t' i=t i):SS n (s.set k l) t' (c+1):=by refine⟨by rw[zT];exact h.1,λi J=> ?_⟩;by_cases e:i=k;{subst e;rw[show(s.set i l).getD i []=l by simp[List.getD,h.1,G]];exact hl};{rw[show(s.set k l).getD i []=s.getD i [] by simp[List.getD,List.getElem?_set,Ne.symm e],u i e];exact(h.2 i J).mono O}
end Go.Vs.F
set_option maxRecDepth 100000
namespace Go.Vs.F
def fi (b o:LI):LI:=c7 o.length λi=>b.getD (o.getD i 0).toNat 0
def qjj {b o:LI}:(fi b o).length=o.length:=Qr
section
variable {m:Nat} (hm:5000000000<=m) {b o:LI} (ho:o.length<=1000) (hb:b.length=o.length) (hr: ∀i,i<o.length->0<=o.getD i 0/\o.getD i 0<(o.length:Int))
include hm ho hb hr
theorem qpa (G:bY b):bY (fi b o):=λi u=>by rw[qjj]at u;have h:=hr i u;unfold fi;rw[Zz u];exact G _ O
theorem ZD: ∀(n k:Nat),o.length-k<n->k<=o.length->
 mz m n b (cb (List.replicate o.length 0) k λi=>b.getD (o.getD i 0).toNat 0) o (o.length:Int) (k:Int)=some (.inl (fi b o,()))
 |0,k,h,_=>absurd h (zA _)
 |n+1,k,h,G=>by rw[mz,bQ];by_cases u:k<o.length;{have J:=hr k u;rw[iP O,iP O,iP (by rw[tN];omega),iP (by rw[Qs,zI];omega),zH,tN,Zu (q:=λi=>b.getD (o.getD i 0).toNat 0) (by rw[zI];exact u),show wI ((k:Int)+1)=((k+1:Nat):Int)from ax O];exact ZD n (k+1) O O};{have e:k=(List.replicate o.length (0:Int)).length:=by{rw[zI];omega};rw[af O,e,Yo,zI];rfl}
theorem qmd: ∀(n k:Nat),o.length-k<n->k<=o.length->
 nj m n b o (cb (List.replicate o.length 0) k λi=>b.getD (o.getD i 0).toNat 0) (k:Int)=some (.inl (fi b o,()))
 |0,k,h,_=>absurd h (zA _)
 |n+1,k,h,G=>by rw[nj,bQ];by_cases u:k<o.length;{have J:=hr k u;rw[iP O,iP O,iP (by rw[tN];omega),iP (by rw[Qs,zI];omega),zH,tN,Zu (q:=λi=>b.getD (o.getD i 0).toNat 0) (by rw[zI];exact u),show wI ((k:Int)+1)=((k+1:Nat):Int)from ax O];exact qmd n (k+1) O O};{have e:k=(List.replicate o.length (0:Int)).length:=by{rw[zI];omega};rw[af O,e,Yo,zI];rfl}
theorem qg8:tB m b o=some (fi b o,(),(),())/\Ep m b o=some (fi b o,(),(),()):=by have u:=ZD hm ho hb hr m 0 O O;have h2:=qmd hm ho hb hr m 0 O O;rw[nZ,Zg]at u h2;rw[tB,Ep,iP O,iP O,hb,tN,u,h2];exact⟨rfl,rfl⟩
def iA (b o:LI):Nat->LI
 |0=>List.replicate o.length 0
 |k+1=>(iA b o k).set (o.getD k 0).toNat (b.getD k 0)
omit hm ho hb hr in
theorem Fm: ∀{k:Nat},(iA b o k).length=o.length
 |0=>zI
 |k+1=>by rw[iA,zT,Fm]
theorem qj1 (G:bY b): ∀{k:Nat},k<=o.length->bY (iA b o k)
 |0,_,i,u=>by{rw[Fm]at u;rw[iA,show(List.replicate o.length (0:Int)).getD i 0=0 by simp[List.getD,u]];exact⟨Ff,by unfold aU;decide⟩}
 |k+1,J,i,u=>by have K:=hr k O;rw[Fm]at u;rw[iA,N2 (by rw[Fm];omega)];split;{exact G k O};{exact qj1 G (k:=k) O i (by rw[Fm];exact u)}
theorem qrv: ∀(n k:Nat),o.length-k<n->k<=o.length->
 mw m n b (iA b o k) o (o.length:Int) (k:Int)=some (.inl (iA b o o.length,()))
 |0,k,h,_=>absurd h (zA _)
 |n+1,k,h,u=>by rw[mw,bQ];by_cases G:k<o.length;{have J:=hr k G;rw[iP O,iP O,iP O,tN,iP (by rw[Fm];omega),zH,<-iA,show wI ((k:Int)+1)=((k+1:Nat):Int)from ax O];exact qrv n (k+1) O O};{rw[af O,show k=o.length by omega]}
theorem qlc: ∀(n k:Nat),o.length-k<n->k<=o.length->
 nc m n b o (iA b o k) (k:Int)=some (.inl (iA b o o.length,()))
 |0,k,h,_=>absurd h (zA _)
 |n+1,k,h,u=>by rw[nc,bQ];by_cases G:k<o.length;{have J:=hr k G;rw[iP O,iP O,iP O,tN,iP (by rw[Fm];omega),zH,<-iA,show wI ((k:Int)+1)=((k+1:Nat):Int)from ax O];exact qlc n (k+1) O O};{rw[af O,show k=o.length by omega]}
theorem qc0:tx m b o=some (iA b o o.length,(),(),())/\Ej m b o=some (iA b o o.length,(),(),()):=by have u:=qrv hm ho hb hr m 0 O O;have h2:=qlc hm ho hb hr m 0 O O;rw[nZ]at u h2;rw[tx,Ej,iP O,iP O,hb,tN,<-show iA b o 0=List.replicate o.length 0 from rfl,u,h2];exact⟨rfl,rfl⟩
end
def qor {m:Nat} (hm:3000000<m) {B:Int} {zs:LI} (hl:zs.length<=10000) (G: ∀z∈zs,bX z B) (t0 Q:Bool) (K:LI) (J:Int): ∀(n k:Nat) (e:Int),zs.length-k<n->k<=zs.length->
 ju m n (zs.map (dy B)) t0 Q K J ((zs.take k).map (dy B)) e (zs.length:Int) (k:Int)=some (.inr (.inl (zs.map (dy B),(t0,Q,K,J,()),zs.map (dy B),ja B e (zs.drop k),())))
 |0,k,e,h,_=>absurd h (zA _)
 |n+1,k,e,h,c0=>by rw[ju,bQ];by_cases u:k<zs.length;{have hz:bX (zs.getD k 0) B:=G _ (Xj u);have ih:=qor hm hl G t0 Q K J n (k+1) (if(aE (zs.getD k 0) B).2.2.2.1<e then(aE (zs.getD k 0) B).2.2.2.1 else e) O O;rw[iP O,iP (by rw[zh];omega),zH,tN,Ro u,show iM m (dy B (zs.getD k 0)).1 (dy B (zs.getD k 0)).2.1.1 (dy B (zs.getD k 0)).2.1.2 (dy B (zs.getD k 0)).2.2=_ from L4 hm,bS];dsimp only;rw[decide_eq_true hz,uw,cond_false,iP (by simp;omega),show wI ((k:Int)+1)=((k+1:Nat):Int)from ax O];have e1:(zs.take k).map (dy B)++[((aE (zs.getD k 0) B).1,((aE (zs.getD k 0) B).2.1,(aE (zs.getD k 0) B).2.2.1),(aE (zs.getD k 0) B).2.2.2.1)]=(zs.take (k+1)).map (dy B):=by{rw[MK u,sF];simp[dy,AA,List.getD,u]};have e2:ja B e (zs.drop k)=ja B (if(aE (zs.getD k 0) B).2.2.2.1<e then(aE (zs.getD k 0) B).2.2.2.1 else e) (zs.drop (k+1)):=by{rw[EV u,ja];simp[List.getD,u]};rw[e1,e2];exact ih};{have:k=zs.length:=O;subst this;rw[af O,EY,List.drop_length];rfl}
def qoy {m:Nat} (hm:3000000<m) {B:Int} {zs:LI} (hl:zs.length<=10000) (G: ∀z∈zs,bX z B) {E:Int} (K: -65536<=E) (c0:E<=0) (hE: ∀z∈zs,E<=(aE z B).2.2.2.1) (l:List bJ) (t0 t1:Bool) (t2:LI) (t3:Int): ∀(n k:Nat) (S:Int),zs.length-k<n->k<=zs.length->
 ak S.natAbs<=300000+k->cU S E (cN (zs.take k)) B->
 ∃T,jt m n l t0 t1 t2 t3 E (zB S).1 (zB S).2.1 (zs.map (dy B)) (zs.length:Int) (k:Int)=some (.inl (l,(t0,t1,t2,t3,()),E,((zB T).1,(zB T).2.1,()),()))/\ak T.natAbs<=400000/\cU T E (cN zs) B
 |0,k,S,h,_,_,_=>absurd h (zA _)
 |n+1,k,S,h,d0,hS,hQ=>by rw[jt,bQ];by_cases Q:k<zs.length;{have hz:bX (zs.getD k 0) B:=G _ (Xj Q);obtain⟨w,f,u,k1,k2,k3⟩:=Xf hz;have J:E<=f:=by{rw[<-k3];exact hE _ (Xj Q)};have g0:=u.lo;have e0:=u.hi;have s1:=nV u J K;have hle:=u.len;have w1:wI (f-E)=f-E:=by{rw[wQ,wi O O]};have q2:cU (S+sc w f E) E (cN (zs.take (k+1))) B:=by{rw[Ml Q];exact hQ.add (c:=0) (g:=0) ((cU.sc J).trans u.eq)};have q1:ak (S+sc w f E).natAbs<=300000+(k+1):=by{have:=Zw (k:=300000+k) hS (zf s1 O);omega};obtain⟨T,i1,i2,i3⟩:=qoy hm hl G K c0 hE l t0 t1 t2 t3 n (k+1) (S+sc w f E) O O q1 q2;refine⟨T,?_,i2,i3⟩;rw[iP O,iP (by rw[zh];omega),tN,zH,Ro Q,show(dy B (zs.getD k 0)).2.1.1=(zB w).1 from k1,show(dy B (zs.getD k 0)).2.1.2=(zB w).2.1 from k2,show(dy B (zs.getD k 0)).2.2=f from k3,w1,d7 hm O O O,bS];dsimp only;rw[M9 O (oW O) (oW (by unfold sc at s1;omega)),aP,aP,bS,show wI ((k:Int)+1)=((k+1:Nat):Int)from ax O];exact i1};{have:k=zs.length:=O;subst this;rw[EY]at hQ;exact⟨S,by rw[af O],O,hQ⟩}
def qt9 {m:Nat} (hm:3000000<m) {B:Int} {zs:LI} (hl:zs.length<=10000) (u: ∀z∈zs,bX z B):rL m (zs.map (dy B))=some (aE (cN zs) B,zs.map (dy B),()):=by have h0:=qor hm hl u false false [] 0 m 0 0 O O;rw[sC,iX,E4,nZ]at h0;rw[rL,zh,h0,bS];dsimp only;have K:=Ve (B:=B) (zs:=zs) (e:=0);have G:=UU (B:=B) (zs:=zs) (e:=0) O u;obtain⟨T,J,i2,Q⟩:=qoy hm hl u G K.1 K.2 (zs.map (dy B)) false false [] 0 m 0 0 O O (zf (Qo (n:=0) (k:=0) (by decide)) O) (cU.zero _ _);rw[nZ]at J;rw[zh,show([]:LI)=(zB 0).2.1 from Qd.symm,show false=(zB 0).1 from rfl];rw[show(zB 0).1=false from rfl,show(zB 0).2.1=([]:LI)from Qd]at*;rw[J,bS];dsimp only;rw[LZ hm O O O,Q.mk];rfl
def q7l {m:Nat} (hm:5000000000<=m) {v:LI} (hl:v.length<=1000) (hv:bY v): ∀(n k:Nat) (s:List (List bJ)),v.length-k<n->k<=v.length->s.length=v.length->(∀i,i<k->DL (s.getD i []) (dL (v.getD i 0)) 1)->
 ∃G,my m n s v (v.length:Int) (k:Int)=some (.inl (G,()))/\SS v.length G (λi=>dL (v.getD i 0)) 1
 |0,k,s,h,_,_,_=>absurd h (zA _)
 |n+1,k,s,h,K,hs,hd=>by rw[my,bQ];by_cases J:k<v.length;{obtain⟨u,f⟩:=hv k J;rw[iP O,iP O,tN,di O u,bS,iP O,NX f,show wI ((k:Int)+1)=((k+1:Nat):Int)from ax O];refine q7l hm hl hv n (k+1) _ O O (by rw[zT];exact hs) λi Q=> ?_;by_cases e:i=k;{subst e;rw[show∀x:List bJ,(s.set i x).getD i []=x from λx=>by simp[List.getD,hs,J]];exact DL.one (SE f)};{rw[show∀x:List bJ,(s.set k x).getD i []=s.getD i []from λx=>by simp[List.getD,List.getElem?_set,Ne.symm e]];exact hd i O}};{exact⟨s,by rw[af O],hs,λi Q=>hd i O⟩}
def qir {m:Nat} (hm:5000000000<=m) {v:LI} (hl:v.length<=1000) (hv:bY v): ∃s,rH m v=some (s,(),())/\SS v.length s (λi=>dL (v.getD i 0)) 1:=by obtain⟨s,u,h2⟩:=q7l hm hl hv m 0 (List.replicate v.length []) O O zI (λi G=>absurd G (zA _));rw[nZ]at u;exact⟨s,by rw[rH,iP O,tN,u];rfl,h2⟩
def qh9 {m:Nat} (hm:5000000000<=m) {n:Nat} {s:List (List bJ)} {t:Nat->Int} {c:Nat} (h:SS n s t c) (hc:c<=10000) {k:Nat} (u:k<n):yC m s (k:Int)=some (aE (t k) (-2148),s,(),()):=by obtain⟨zs,G,h2,J,K⟩:=h.2 k u;have hl:=h.1;have hs:rL m (zs.map (dy (-2148)))=some (aE (cN zs) (-2148),zs.map (dy (-2148)),()):=qt9 O O h2;rw[yC,iP O,tN,G,hs,bS,J];dsimp only;rw[<-G,show s.set k (s.getD k [])=s from by rw[show s.getD k []=s[k] by simp[List.getD,hl,u]];exact List.set_getElem_self _]
def q6s {m:Nat} (hm:5000000000<=m) {n:Nat} {s:List (List bJ)} {t:Nat->Int} {c:Nat} (h:SS n s t c) (hc:c<=10000) {k:Nat} (K:k<n) {a b:Int} (ha:cd a) (G:aU a) (hb:cd b) (u:aU b):
 ∃J,yD m s (k:Int) a b=some ((),J,(),(),(),())/\SS n J (λi=>if i=k then t i-aM a*aM b else t i) (c+1):=by have hl:=h.1;have hd:=h.2 k K;have c0:=hd.len;have hp:bX (-(aM a*aM b)) (-2148):=by{have:=Xp G u;rw[Yc]at*;rw[xg];omega};have Q:=hd.add hp;rw[show t k+ -(aM a*aM b)=(λi=>if i=k then t i-aM a*aM b else t i) k by dsimp only;rw[iP rfl];omega]at Q;refine⟨_,?_,h.set K (t':=λi=>if i=k then t i-aM a*aM b else t i) Q λi hi=>af hi⟩;rw[yD,iP O,di O ha,bS,di O hb,bS,Xn G,Xn u];dsimp only;rw[I5 O,iP ⟨cf G,cf u⟩,bS,show(-1074:Int)+ -1074= -2148 by decide];dsimp only;rw[qli O,bS];dsimp only;rw[tN,iP (by rw[zL];omega),iP O,iP rfl]
end Go.Vs.F
set_option maxRecDepth 100000
namespace Go.Vs.F
abbrev iS (y:Nat->Int) (i:Nat):Bool:=decide (aU (y i))
def dC (S I W v:LI):Nat->Int:=Mw (TT S I W) λi=>v.getD i 0
def tF (S I W v:LI) (j i:Nat):Int:=dL (v.getD i 0)-sm j λk=>TT S I W i k*aM (dC S I W v k)
section
variable {m:Nat} (hm:5000000000<=m) {n:Nat} {S I W:LI} (hC:sO n S I W) {v:LI} (hv:bY v) (hl:v.length=n)
include hm hC hv hl
theorem qj0 (K:LI) (J G:Int) {j:Nat} (Q:j<n) (c0:K.length=n) (hy:K.getD j 0=dC S I W v j) (fy:aU (dC S I W v j)): ∀(N c:Nat) (s:List (List bJ)),(S.getD (j+1) 0).toNat-c<N->S.getD j 0<=(c:Int)->(c:Int)<=S.getD (j+1) 0->
 SS n s (λi=>tF S I W v j i-aM (ent S I W i j c)*aM (dC S I W v j)) (1+c)->
 ∃s',mA m N S I W s K (j:Int) (c:Int) J G=some (.inl (S,I,W,s',K,J,G,()))/\SS n s' (tF S I W v (j+1)) (1+(S.getD (j+1) 0).toNat)
 |0,c,s,h,_,_,_=>absurd h (zA _)
 |N+1,c,s,h,h1,h2,hs=>by have hn:=hC.hn;have hS:=hC.hS;have e0:=hC.IW;have d0:=hC.Il;have hr:=hC.st.rng (j:=j+1) O;have w1:wI ((j:Int)+1)=((j+1:Nat):Int):=by{rw[wQ,wi O O];omega};rw[mA,w1,iP O,tN,bQ];by_cases hc:(c:Int)<S.getD (j+1) 0;{obtain⟨l1,l2⟩:=hC.lo j c Q h1 hc;obtain⟨u,f⟩:=hC.hW c O;have uy:cd (dC S I W v j):=oQ;obtain⟨s1,e1,e2⟩:=q6s hm hs O (k:=(I.getD c 0).toNat) O u f uy fy;rw[show(((I.getD c 0).toNat:Nat):Int)=I.getD c 0 by omega]at e1;rw[iP hc,iP O,iP O,iP O,zH,tN,tN,hy,e1,bS,show wI ((c:Int)+1)=((c+1:Nat):Int)from ax O];refine qj0 K J G Q c0 hy fy N (c+1) s1 O O O ⟨e2.1,λi hi=> ?_⟩;have:=e2.2 i hi;dsimp only at this⊢;rw[hC.step Q h1 hc];by_cases e:i=(I.getD c 0).toNat;{rw[iP e]at this⊢;rw[e,hC.fresh Q h1 hc,N3,E5,Lw]at this;rw[e];rw[show 1+(c+1)=1+c+1 by omega];exact this};{rw[af e]at this⊢;rw[show 1+(c+1)=1+c+1 by omega];exact this}};{refine⟨s,by rw[af hc],hs.1,λi hi=> ?_⟩;have:=hs.2 i hi;have ec:c=(S.getD (j+1) 0).toNat:=O;dsimp only at this;rw[ec,<-hC.full Q]at this;rw[show tF S I W v (j+1) i=tF S I W v j i-aM (ent S I W i j I.length)*aM (dC S I W v j)from by unfold tF;rw[sm];unfold TT;omega];exact this}
theorem qtr {j:Nat}:Yb (aE (tF S I W v j j) (-2148)) 0=dC S I W v j:=by unfold dC;rw[Sn];rfl
theorem qj6: ∀(N j:Nat) (s:List (List bJ)),n-j<N->j<=n->SS n s (tF S I W v j) (1+(S.getD j 0).toNat)->
 mB m N S I W s (cb (List.replicate n 0) j (dC S I W v)) (n:Int) (j:Int)=some (if ql (iS (dC S I W v)) j n=true then .inr (.inl (c7 n (dC S I W v),()))else .inl ([],233,()))
 |0,j,s,h,_,_=>absurd h (zA _)
 |N+1,j,s,h,d0,hs=>by have hn:=hC.hn;have hS:=hC.hS;have i0:=hC.IW;have g0:=hC.Il;rw[mB,bQ];by_cases u:j<n;{have c0:=hC.st.rng (j:=j) O;have hr:=hC.st.rng (j:=j+1) O;have hle:=hC.st.le (i:=j) (j:=j+1) O O;have uy:cd (dC S I W v j):=oQ;have e0:(cb (List.replicate n (0:Int)) j (dC S I W v)).length=n:=by{rw[Qs,zI]};have G:(cb (List.replicate n (0:Int)) (j+1) (dC S I W v)).length=n:=by{rw[Qs,zI]};have Q:(cb (List.replicate n (0:Int)) (j+1) (dC S I W v)).getD j 0=dC S I W v j:=by{rw[Ye (by rw[zI];exact u),iP O]};rw[iP O,qh9 hm hs O u,bS];dsimp only;rw[NT O,bS];dsimp only;rw[qtr hm hC hv hl,iP O,zH,tN,Zu (by rw[zI];exact u),iP O,Q,A6 uy,bS,qy u];by_cases J:aU (dC S I W v j);{have K:SS n s (λi=>tF S I W v j i-aM (ent S I W i j (S.getD j 0).toNat)*aM (dC S I W v j)) (1+(S.getD j 0).toNat):=by{refine⟨hs.1,λi hi=> ?_⟩;have:=hs.2 i hi;dsimp only;rw[UT O,N3,E5,Lw];exact this};obtain⟨s',e1,e2⟩:=qj0 hm hC hv hl _ (n:Int) (j:Int) u G Q J m (S.getD j 0).toNat s O O O K;rw[show(((S.getD j 0).toNat:Nat):Int)=S.getD j 0 by omega]at e1;rw[show iS (dC S I W v) j=true from decide_eq_true J,decide_eq_true J,show(!true)=false from rfl,cond_false,lr];rw[iP O,e1,bS];dsimp only;rw[show wI ((j:Int)+1)=((j+1:Nat):Int)from ax O];exact qj6 N (j+1) s' O O e2};{rw[show iS (dC S I W v) j=false from decide_eq_false J,decide_eq_false J,show(!false)=true from rfl,cond_true,xh,af (by decide)]}};{have e:j=n:=O;subst e;have:=Yo (b:=List.replicate j (0:Int)) (q:=dC S I W v);rw[zI]at this;rw[af O,this,Q5 O,iP rfl];rfl}
theorem qpn:tD m S I W v=some (if ql (iS (dC S I W v)) 0 n=true then(c7 n (dC S I W v),0,())else([],233,()),(),(),(),(),()):=by have hn:=hC.hn;obtain⟨s,J,h2⟩:=qir hm (v:=v) O hv;have hs:SS n s (tF S I W v 0) (1+(S.getD 0 0).toNat):=by{rw[hl]at h2;refine⟨h2.1,λi G=> ?_⟩;have:=(h2.2 i G).mono (d:=1+(S.getD 0 0).toNat) O;rw[show tF S I W v 0 i=dL (v.getD i 0)from by unfold tF;rw[sm,Lw]];exact this};have u:=qj6 hm hC hv hl m 0 s O O hs;rw[nZ,Zg]at u;rw[tD,J,bS,hl,iP O,tN,u,bS];cases ql (iS (dC S I W v)) 0 n<;>rfl
end
end Go.Vs.F
set_option maxRecDepth 100000
namespace Go.Vs.F
def DL.eq {l:List bJ} {t t':Int} {c:Nat} (h:DL l t c) (e:t=t'):DL l t' c:=e▸h
def eu (n:Nat) (q:Nat->Nat->Int):List LI:=(List.range n).map λi=>c7 n (q i)
def Y5 {n:Nat} {q:Nat->Nat->Int}:(eu n q).length=n:=by unfold eu;simp
def NW {n i:Nat} {q:Nat->Nat->Int} (u:i<n):(eu n q).getD i []=c7 n (q i):=by unfold eu;simp[List.getD,u]
def qq6 {n r j:Nat} {q q':Nat->Nat->Int} {w:Int} (hr:r<n) (G:j<n) (h: ∀i k,i<n->k<n->q' i k=if i=r/\k=j then w else q i k):(eu n q).set r (((eu n q).getD r []).set j w)=eu n q':=by rw[NW hr];refine List.ext_getElem (by rw[zT,Y5,Y5]) λi O h2=> ?_;rw[Y5]at h2;rw[List.getElem_set];have K:(eu n q')[i]'(by rw[Y5];exact h2)=c7 n (q' i):=by{unfold eu;simp};have J:(eu n q)[i]'(by rw[Y5];exact h2)=c7 n (q i):=by{unfold eu;simp};rw[K];by_cases e:r=i;{subst e;rw[iP rfl];refine L8 (by rw[zT,Qr,Qr]) λk u=> ?_;rw[zT,Qr]at u;rw[N2 (by rw[Qr];exact G),Zz u,Zz u,h r k h2 u];by_cases e:k=j;{rw[iP e,iP ⟨rfl,e⟩]};{rw[af e,af (λq=>e q.2)]}};{rw[af e,J];exact qoj λk u=>by rw[h i k h2 u,af (λq=>e q.1.symm)]}
def gQ (n:Nat) (S I W:LI) (c:Nat):List LI:=eu n λi j=>ent S I W i j c
def qts {n:Nat}:List.replicate n (List.replicate n (0:Int))=eu n λ_ _=>0:=by unfold eu;rw[qtf,List.map_const',wY]
section
variable {m:Nat} (hm:5000000000<=m) {n:Nat} {S I W:LI} (hC:sO n S I W) {f0 Z D v:LI} {f6:Int}
include hm hC
theorem ZE: ∀(N k:Nat),n-k<N->k<=n->
 qT m N v f0 Z D S I W f6 (n:Int) (List.replicate k (List.replicate n (0:Int))) (k:Int)=some (.inl (v,(f0,Z,D,S,I,W,f6,()),(n:Int),List.replicate n (List.replicate n (0:Int)),()))
 |0,k,h,_=>absurd h (zA _)
 |N+1,k,h,u=>by have hn:=hC.hn;rw[qT,bQ];by_cases G:k<n;{rw[iP O,iP O,iP (by rw[zL,zI];omega),tN,<-List.replicate_succ',show wI ((k:Int)+1)=((k+1:Nat):Int)from ax O];exact ZE N (k+1) O O};{rw[af O,show k=n by omega]}
theorem ZK {j:Nat} (G:j<n): ∀(N c:Nat),(S.getD (j+1) 0).toNat-c<N->S.getD j 0<=(c:Int)->(c:Int)<=S.getD (j+1) 0->
 qR m N v f0 Z D S I W f6 (n:Int) (gQ n S I W c) (j:Int) (c:Int)=some (.inl (v,(f0,Z,D,S,I,W,f6,()),(n:Int),gQ n S I W (S.getD (j+1) 0).toNat,(j:Int),()))
 |0,c,h,_,_=>absurd h (zA _)
 |N+1,c,h,J,h2=>by have hn:=hC.hn;have hS:=hC.hS;have d0:=hC.IW;have c0:=hC.Il;have hr:=hC.st.rng (j:=j+1) O;have Q:wI ((j:Int)+1)=((j+1:Nat):Int):=by{rw[wQ,wi O O];omega};rw[qR,Q,iP O,tN,bQ];by_cases hc:(c:Int)<S.getD (j+1) 0;{obtain⟨l1,l2⟩:=hC.lo j c G J hc;have u:(I.getD c 0).toNat<n:=O;rw[iP hc,iP O,tN,tN,iP (by unfold gQ;rw[Y5];omega),iP O,iP (by unfold gQ;rw[NW u,Qr];omega),show wI ((c:Int)+1)=((c+1:Nat):Int)from ax O];have:=qq6 (q:=λi j=>ent S I W i j c) (q':=λi j=>ent S I W i j (c+1)) (w:=W.getD c 0) u G λi k hi K=>by{by_cases e:k=j;{subst e;rw[hC.step K J hc];by_cases e:i=(I.getD c 0).toNat;{rw[iP e,iP ⟨e,rfl⟩]};{rw[af e,af (λq=>e q.1)]}};{rw[af (λq=>e q.2),hC.other G K e J hc]}};have e2:(gQ n S I W c).set (I.getD c 0).toNat (((gQ n S I W c).getD (I.getD c 0).toNat []).set j (W.getD c 0))=gQ n S I W (c+1):=this;rw[e2];exact ZK G N (c+1) O O O};{rw[af hc,show c=(S.getD (j+1) 0).toNat by omega]}
theorem ZT: ∀(N j:Nat),n-j<N->j<=n->
 qS m N v f0 Z D S I W f6 (n:Int) (gQ n S I W (S.getD j 0).toNat) (j:Int)=some (.inl (v,(f0,Z,D,S,I,W,f6,()),(n:Int),gQ n S I W I.length,()))
 |0,j,h,_=>absurd h (zA _)
 |N+1,j,h,G=>by have hn:=hC.hn;have hS:=hC.hS;have Q:=hC.IW;have K:=hC.Il;rw[qS,bQ];by_cases J:j<n;{have u:=hC.st.rng (j:=j) O;have hr:=hC.st.rng (j:=j+1) O;have hle:=hC.st.le (i:=j) (j:=j+1) O O;have e:=ZK hm hC (v:=v) (f0:=f0) (Z:=Z) (D:=D) (f6:=f6) J m (S.getD j 0).toNat O O O;rw[show(((S.getD j 0).toNat:Nat):Int)=S.getD j 0 by omega]at e;rw[iP O,iP O,tN,e,bS];dsimp only;rw[show wI ((j:Int)+1)=((j+1:Nat):Int)from ax O];exact ZT N (j+1) O O};{have e:j=n:=O;subst e;rw[af O,show(S.getD j 0).toNat=I.length by rw[hC.st.last];omega]}
omit hC in
theorem qlh {l x:LI} (hl:l.length<=1000) (he:x.length=l.length) (h1:bY l) (h2:bY x) (K J:Bool) (G:LI) (u t:Int): ∀(N k:Nat) (s:List bJ),l.length-k<N->k<=l.length->DL s (t-sm k λi=>aM (l.getD i 0)*aM (x.getD i 0)) (1+k)->
 ∃Q,ni m N l x K J G u s (k:Int)=some (.inl (x,(K,J,G,u,()),Q,()))/\DL Q (t-sm l.length λi=>aM (l.getD i 0)*aM (x.getD i 0)) (1+l.length)
 |0,k,s,h,_,_=>absurd h (zA _)
 |N+1,k,s,h,c0,hd=>by rw[ni,bQ];by_cases hk:k<l.length;{obtain⟨u1,f1⟩:=h1 k hk;obtain⟨u2,f2⟩:=h2 k O;have hp:bX (-(aM (l.getD k 0)*aM (x.getD k 0))) (-2148):=by{have:=Xp f1 f2;rw[Yc]at*;rw[xg];omega};have d0:=hd.len;have hA:=hd.add hp;rw[iP O,iP O,iP O,zH,tN,Y4 O u1 u2 f1 f2,bS];dsimp only;rw[qj4 O,bS,iP (by rw[zL];omega),show wI ((k:Int)+1)=((k+1:Nat):Int)from ax O];dsimp only;refine qlh hl he h1 h2 K J G u t N (k+1) _ O O ?_;rw[show t-sm (k+1) (λi=>aM (l.getD i 0)*aM (x.getD i 0))=t-sm k (λi=>aM (l.getD i 0)*aM (x.getD i 0))+ -(aM (l.getD k 0)*aM (x.getD k 0)) by rw[sm];omega];exact hA};{rw[af O,<-show k=l.length by omega];exact⟨s,rfl,hd⟩}
omit hC in
theorem qm9 {l x:LI} {b:Int} (hl:l.length<=1000) (he:x.length=l.length) (J:bY l) (h2:bY x) (u:aU b):
 Ai m (fo b).1 (fo b).2.1 (fo b).2.2.1 (fo b).2.2.2.1 l x=some (aE (dL b-sm l.length λi=>aM (l.getD i 0)*aM (x.getD i 0)) (-2148),(),(),x,()):=by rw[NX u];have hd:=(DL.one (SE u)).eq (show dL b=dL b-sm 0 λi=>aM (l.getD i 0)*aM (x.getD i 0) by rw[sm,Lw]);obtain⟨Q,G,K⟩:=qlh hm hl he J h2 false false [] 0 (dL b) m 0 _ O O hd;rw[nZ]at G;rw[Ai,G,bS];dsimp only;rw[K.rsum O O];rfl
end
end Go.Vs.F
set_option maxRecDepth 100000
namespace Go.Vs.F
def L9 {l:LI} {k i:Nat} (h:i<k):(l.take k).getD i 0=l.getD i 0:=by simp[List.getD,List.getElem?_take,h]
def NJ {l:LI} {k i:Nat}:(l.drop k).getD i 0=l.getD (k+i) 0:=by simp[List.getD]
def bY.take {l:LI} (h:bY l) {k:Nat}:bY (l.take k):=λi u=>by rw[zU]at u;rw[L9 O];exact h i O
def bY.drop {l:LI} (h:bY l) {k:Nat}:bY (l.drop k):=λi u=>by rw[ix]at u;rw[NJ];exact h (k+i) O
def SM {n:Nat} {q:Nat->Int} (h: ∀i,i<n->cd (q i)/\aU (q i)):bY (c7 n q):=λi u=>by rw[Qr]at u;rw[Zz u];exact h i u
section
variable {m:Nat} (hm:5000000000<=m) {n:Nat} {S I W:LI} (hC:sO n S I W) {f0 Z D v:LI} {f6:Int} (hv:bY v) (hl:v.length=n)
include hm hC hv hl
theorem ZZ: ∀(N k:Nat),n-k<N->k<=n->(∀i,i<k->aU (dC S I W v i))->
 qQ m N f0 Z D S I W f6 (n:Int) (gQ n S I W I.length) (cb v k (dC S I W v)) (k:Int)=some (if ql (iS (dC S I W v)) k n=true then .inr (.inl ((f0,Z,D,S,I,W,f6,()),(n:Int),gQ n S I W I.length,c7 n (dC S I W v),()))else .inl ([],233,()))
 |0,k,h,_,_=>absurd h (zA _)
 |N+1,k,h,c0,Q=>by have hn:=hC.hn;have d0:=hC.IW;rw[qQ,bQ];by_cases K:k<n;{have fl:(cb v k (dC S I W v)).length=n:=by{rw[Qs];exact hl};have e0:(cb v (k+1) (dC S I W v)).length=n:=by{rw[Qs];exact hl};obtain⟨uv,fv⟩:=hv k O;have uy:cd (dC S I W v k):=oQ;have G:(gQ n S I W I.length).getD k []=c7 n λj=>ent S I W k j I.length:=NW K;have hx:bY ((cb v k (dC S I W v)).take k):=λi u=>by{rw[zU]at u;rw[L9 O,Ye O,iP O];exact⟨oQ,Q i O⟩};have hr:bY ((c7 n λj=>ent S I W k j I.length).take k):=(SM λi u=>UN hC.hW O).take;have e1:=qm9 hm (l:=(c7 n λj=>ent S I W k j I.length).take k) (x:=(cb v k (dC S I W v)).take k) (b:=v.getD k 0) (by rw[zU,Qr];omega) (by rw[zU,zU,Qr,fl]) hr hx fv;have e2:(sm ((c7 n λj=>ent S I W k j I.length).take k).length λi=>aM (((c7 n λj=>ent S I W k j I.length).take k).getD i 0)*aM (((cb v k (dC S I W v)).take k).getD i 0))=sm k λi=>TT S I W k i*aM (dC S I W v i):=by{rw[zU,Qr,LH O];refine Fp λi u=> ?_;rw[L9 u,L9 u,Zz O,Ye O,iP u];rfl};rw[e2]at e1;have e3:Yb (aE (dL (v.getD k 0)-sm k λi=>TT S I W k i*aM (dC S I W v i)) (-2148)) 0=dC S I W v k:=(Sn (T:=TT S I W) (b:=λi=>v.getD i 0)).symm;have hg:(cb v (k+1) (dC S I W v)).getD k 0=dC S I W v k:=by{rw[Ye O,iP O]};rw[iP O,iP O,zH,tN,Ye O,af O,vN O uv,bS];dsimp only;rw[G,iP (by unfold gQ;rw[Y5];omega),iP (by rw[Qr];omega),iP O,iP O,iX,Mz,e1,bS];dsimp only;rw[L7 hm,bS];dsimp only;rw[e3,sC,vE,zH,vD,iP O,Zu O,iP O,hg,Xx uy,bS,qy K];dsimp only;by_cases J:aU (dC S I W v k);{rw[show iS (dC S I W v) k=true from decide_eq_true J,decide_eq_true J,show(!true)=false from rfl,cond_false,lr,show wI ((k:Int)+1)=((k+1:Nat):Int)from ax O];exact ZZ N (k+1) O O λi u=>by{by_cases e:i=k;{rw[e];exact J};{exact Q i O}}};{rw[show iS (dC S I W v) k=false from decide_eq_false J,decide_eq_false J,show(!false)=true from rfl,cond_true,xh,af (by decide)]}};{have e:k=n:=O;subst e;have:=Yo (b:=v) (q:=dC S I W v);rw[hl]at this;rw[af O,this,Q5 O,iP rfl];rfl}
end
section
variable {m:Nat} (hm:5000000000<=m) {n:Nat} (hn:n<=200) {q:Nat->Nat->Int}
include hm hn
def lf (n:Nat) (q:Nat->Nat->Int) (i:Nat):List LI:=(List.range i).map λr=>c7 n λc=>q c r
omit hm hn in
theorem NQ {i:Nat}:(lf n q i).length=i:=by unfold lf;simp
theorem qrp {i:Nat} (G:i<n): ∀(N k:Nat),n-k<N->k<=n->
 ng m N (eu n q) (lf n q i++[cb (List.replicate n 0) k λc=>q c i]) (i:Int) (k:Int)=some (.inl (eu n q,lf n q (i+1),(i:Int),()))
 |0,k,h,_=>absurd h (zA _)
 |N+1,k,h,J=>by rw[ng,bQ];have K:(lf n q i++[cb (List.replicate n 0) k λc=>q c i]).getD i []=cb (List.replicate n 0) k λc=>q c i:=by{simp[List.getD,List.getElem?_append_right,NQ]};have hs: ∀x:LI,(lf n q i++[cb (List.replicate n 0) k λc=>q c i]).set i x=lf n q i++[x]:=λx=>by{rw[List.set_append_right _ _ (by rw[NQ];omega),NQ,xe,List.set_cons_zero]};by_cases u:k<n;{rw[iP (by rw[Y5];omega),iP (by rw[zG,NQ,zL];omega),iP (by rw[Y5];omega),tN,tN,NW u,iP (by rw[Qr];omega),K,iP (by rw[Qs,zI];omega),Zz G,hs,Zu (q:=λc=>q c i) (by rw[zI];exact u),show wI ((k:Int)+1)=((k+1:Nat):Int)from ax O];exact qrp G N (k+1) O O};{have e:k=(List.replicate n (0:Int)).length:=by{rw[zI];omega};rw[af (by rw[Y5];omega),e,Yo,zI];rw[show lf n q i++[(List.range n).map λc=>q c i]=lf n q (i+1) by unfold lf;rw[AW,sF];rfl]}
theorem ZX: ∀(N i:Nat),n-i<N->i<=n->
 nh m N (eu n q) (lf n q i) (i:Int)=some (.inl (eu n λr c=>q c r,()))
 |0,k,h,_=>absurd h (zA _)
 |N+1,i,h,u=>by rw[nh,bQ];by_cases G:i<n;{have e:=qrp hm hn (q:=q) G m 0 O O;rw[nZ,Zg]at e;rw[Y5,iP O,iP O,iP (by rw[zL,NQ];omega),tN,e,bS];dsimp only;rw[show wI ((i:Int)+1)=((i+1:Nat):Int)from ax O];exact ZX N (i+1) O O};{rw[af (by rw[Y5];omega),show i=n by omega];rfl}
theorem qvn:Em m (eu n q)=some (eu n λr c=>q c r,(),()):=by have e:=ZX hm hn (q:=q) m 0 O O;rw[nZ,show lf n q 0=[]from rfl]at e;rw[Em,e];rfl
end
def b9 (b:LI) (k:Nat) (q:Nat->Int):LI:=(List.range b.length).map λi=>if k<=i then q i else b.getD i 0
def Yi {b:LI} {k:Nat} {q:Nat->Int}:(b9 b k q).length=b.length:=by unfold b9;simp
def Yr {b:LI} {k i:Nat} {q:Nat->Int} (u:i<b.length):(b9 b k q).getD i 0=if k<=i then q i else b.getD i 0:=by unfold b9;simp[List.getD,u]
def qdq {b:LI} {k:Nat} {q:Nat->Int} (G:k<b.length):(b9 b (k+1) q).set k (q k)=b9 b k q:=by refine L8 (by rw[zT,Yi,Yi]) λi u=> ?_;rw[zT,Yi]at u;rw[N2 (by rw[Yi];exact G),Yr u,Yr u];by_cases e:i=k;{subst e;rw[iP rfl,iP O]};{rw[af e];by_cases c:k<=i;{rw[iP O,iP c]};{rw[af O,af c]}}
def qdw {b:LI} {q:Nat->Int}:b9 b b.length q=b:=by refine L8 Yi λi u=> ?_;rw[Yi]at u;rw[Yr u,af O]
def q8z {b:LI} {q:Nat->Int}:b9 b 0 q=c7 b.length q:=by unfold b9 c7;exact AZ λi u=>iP (oX _)
def dD (n:Nat) (S I W v:LI):Nat->Int:=Rp n (TT S I W) λi=>v.getD i 0
def sd (y:Nat->Int):Nat->Bool
 |0=>true
 |k+1=>iS y k&&sd y k
def qis {y:Nat->Int}: ∀{k:Nat},sd y k=true↔ ∀i,i<k->aU (y i)
 |0=>⟨λ_ i u=>absurd u (zA _),λ_=>rfl⟩
 |k+1=>by rw[sd,zM,qis,decide_eq_true_iff];constructor;{rintro ⟨a,b⟩ i u;by_cases e:i=k;{rw[e];exact a};{exact b i O}};{exact λh=>⟨h k O,λi u=>h i O⟩}
section
variable {m:Nat} (hm:5000000000<=m) {n:Nat} {S I W:LI} (hC:sO n S I W) {f0 Z D v:LI} {f6:Int} (hv:bY v) (hl:v.length=n)
include hm hC hv hl
theorem ZY: ∀(N k:Nat),k<N->k<=n->(∀i,k<=i->i<n->aU (dD n S I W v i))->
 oE m N f0 Z D S I W f6 (b9 v k (dD n S I W v)) (eu n λr c=>ent S I W c r I.length) ((k:Int)-1)=some (if sd (dD n S I W v) k=true then .inr (.inl ((f0,Z,D,S,I,W,f6,()),c7 n (dD n S I W v),()))else .inl ([],233,()))
 |0,k,h,_,_=>absurd h (zA _)
 |N+1,0,h,_,_=>by{rw[oE,bQ,af O,q8z,hl];rfl}
 |N+1,k+1,h,hk,Q=>by have hn:=hC.hn;have c0:=hC.IW;have K:(b9 v (k+1) (dD n S I W v)).length=n:=by{rw[Yi];exact hl};have fl:(b9 v k (dD n S I W v)).length=n:=by{rw[Yi];exact hl};obtain⟨uv,fv⟩:=hv k O;have uy:cd (dD n S I W v k):=so;have u:(eu n λr c=>ent S I W c r I.length).getD k []=c7 n λj=>ent S I W j k I.length:=NW O;have hx:bY ((b9 v (k+1) (dD n S I W v)).drop (k+1)):=λi J=>by{rw[ix]at J;rw[NJ,Yr O,iP O];exact⟨so,Q _ O O⟩};have hr:bY ((c7 n λj=>ent S I W j k I.length).drop (k+1)):=(SM λi J=>UN hC.hW O).drop;have e1:=qm9 hm (l:=(c7 n λj=>ent S I W j k I.length).drop (k+1)) (x:=(b9 v (k+1) (dD n S I W v)).drop (k+1)) (b:=v.getD k 0) (by rw[ix,Qr];omega) (by rw[ix,ix,Qr,K]) hr hx fv;have e2:(sm ((c7 n λj=>ent S I W j k I.length).drop (k+1)).length λi=>aM (((c7 n λj=>ent S I W j k I.length).drop (k+1)).getD i 0)*aM (((b9 v (k+1) (dD n S I W v)).drop (k+1)).getD i 0))=sm (n-k-1) λi=>TT S I W (k+1+i) k*aM (dD n S I W v (k+1+i)):=by{rw[ix,Qr,show n-(k+1)=n-k-1 by omega];refine Fp λi J=> ?_;rw[NJ,NJ,Zz O,Yr O,iP O];rfl};rw[e2]at e1;have e3:Yb (aE (dL (v.getD k 0)-sm (n-k-1) λi=>TT S I W (k+1+i) k*aM (dD n S I W v (k+1+i))) (-2148)) 0=dD n S I W v k:=(ZF (T:=TT S I W) (b:=λi=>v.getD i 0) O).symm;have hg:(b9 v k (dD n S I W v)).getD k 0=dD n S I W v k:=by{rw[Yr O,iP O]};have w0:(((k+1:Nat):Int)-1)=(k:Int):=O;have w1:wI ((k:Int)+1)=((k+1:Nat):Int):=ax O;have ed:((b9 v (k+1) (dD n S I W v)).drop (k+1)).take ((b9 v (k+1) (dD n S I W v)).length-(k+1))=(b9 v (k+1) (dD n S I W v)).drop (k+1):=uo (by rw[ix];omega);have ec:(b9 v (k+1) (dD n S I W v)).take (k+1)++((b9 v (k+1) (dD n S I W v)).drop (k+1)++(b9 v (k+1) (dD n S I W v)).drop (k+1+((b9 v (k+1) (dD n S I W v)).length-(k+1))))=b9 v (k+1) (dD n S I W v):=by{rw[Bf (i:=k+1+_) O,ls,vD]};rw[w0,oE,bQ,iP O,iP O,w1,zH,zH,tN,tN,Yr O,af O,vN O uv,bS];dsimp only;rw[u,iP (by rw[Y5];omega),iP (by rw[Qr];omega),iP O,iP O,ed,e1,bS];dsimp only;rw[L7 hm,bS];dsimp only;rw[e3,ec,iP O,qdq O,iP O,hg,Xx uy,bS,sd];dsimp only;by_cases G:aU (dD n S I W v k);{rw[show iS (dD n S I W v) k=true from decide_eq_true G,decide_eq_true G,show(!true)=false from rfl,cond_false,lr,show wI ((k:Int)-1)=(k:Int)-1 from by rw[wQ,wi O O]];exact ZY N k O O λi h1 h2=>by{by_cases e:i=k;{rw[e];exact G};{exact Q i O h2}}};{rw[show iS (dD n S I W v) k=false from decide_eq_false G,decide_eq_false G,show(!false)=true from rfl,cond_true,xh,af (by decide)]}
end
end Go.Vs.F
set_option maxRecDepth 100000
namespace Go.Vs.F
def Bz (n:Nat) (S I W v:LI) (k c:Nat):Int:=sm n λi=>aM (ent S I W i k c)*aM (dD n S I W v i)
section
variable {m:Nat} (hm:5000000000<=m) {n:Nat} {S I W:LI} (hC:sO n S I W) {f0 Z D v:LI} {f6:Int} (hv:bY v) (hl:v.length=n)
include hC
theorem qp5 {k c:Nat} (u:k<n) (G:S.getD k 0<=(c:Int)) (h2:(c:Int)<S.getD (k+1) 0):Bz n S I W v k (c+1)=Bz n S I W v k c+aM (W.getD c 0)*aM (dD n S I W v (I.getD c 0).toNat):=by obtain⟨K,J⟩:=hC.lo k c u G h2;unfold Bz;rw[ZR (k:=(I.getD c 0).toNat) (f:=λi=>aM (ent S I W i k (c+1))*aM (dD n S I W v i)) (g:=λi=>aM (ent S I W i k c)*aM (dD n S I W v i)) O λi Q e=>by rw[hC.step u G h2,af e]];rw[hC.step u G h2,iP rfl,hC.fresh u G h2,N3,E5,Lw]
theorem qt5 {k:Nat} (u:k<n):Bz n S I W v k (S.getD (k+1) 0).toNat=sm (n-k-1) λi=>TT S I W (k+1+i) k*aM (dD n S I W v (k+1+i)):=by unfold Bz;rw[Fp (g:=λi=>TT S I W i k*aM (dD n S I W v i)) λi G=>by rw[<-hC.full u];rfl];have:=VW (f:=λi=>TT S I W i k*aM (dD n S I W v i)) (k:=k+1) (r:=n-k-1);rw[show k+1+(n-k-1)=n by omega]at this;rw[this,UV (n:=k+1) λi G=>by rw[hC.TT0 u O,E5],R3]
theorem qqb {k c:Nat} (h:(c:Int)<=S.getD k 0):Bz n S I W v k c=0:=by unfold Bz;exact UV λi u=>by rw[UT h,N3,E5]
include hm hv hl
theorem qnk {zl:LI} {k:Nat} (J:k<n) (K:zl.length=n) (hz: ∀i,k<i->i<n->zl.getD i 0=dD n S I W v i/\aU (dD n S I W v i)): ∀(N c:Nat) (s:List (List bJ)) (t:Nat->Int) (C:Nat),(S.getD (k+1) 0).toNat-c<N->S.getD k 0<=(c:Int)->(c:Int)<=S.getD (k+1) 0->
 SS n s t C->C+((S.getD (k+1) 0).toNat-c)<=9000->t k=dL (v.getD k 0)-Bz n S I W v k c->
 ∃G t',nq m N f0 Z D S I W f6 s zl (k:Int) (c:Int)=some (.inl ((f0,Z,D,S,I,W,f6,()),G,zl,(k:Int),()))/\SS n G t' (C+((S.getD (k+1) 0).toNat-c))/\(∀i,i≠k->t' i=t i)/\t' k=dL (v.getD k 0)-Bz n S I W v k (S.getD (k+1) 0).toNat
 |0,c,s,t,C,h,_,_,_,_,_=>absurd h (zA _)
 |N+1,c,s,t,C,h,h1,h2,hs,e0,Q=>by have hn:=hC.hn;have hS:=hC.hS;have d0:=hC.IW;have c0:=hC.Il;have hr:=hC.st.rng (j:=k+1) O;have w1:wI ((k:Int)+1)=((k+1:Nat):Int):=by{rw[wQ,wi O O];omega};rw[nq,w1,iP O,tN,bQ];by_cases hc:(c:Int)<S.getD (k+1) 0;{obtain⟨l1,l2⟩:=hC.lo k c J h1 hc;obtain⟨u,f⟩:=hC.hW c O;obtain⟨z1,z2⟩:=hz (I.getD c 0).toNat O O;have uy:cd (dD n S I W v (I.getD c 0).toNat):=so;obtain⟨s1,e1,e2⟩:=q6s hm hs O J u f uy z2;rw[iP hc,iP O,iP O,tN,iP O,zH,z1,e1,bS,show wI ((c:Int)+1)=((c+1:Nat):Int)from ax O];obtain⟨G,t',g1,g2,g3,g4⟩:=qnk J K hz N (c+1) s1 _ (C+1) O O O e2 O (by rw[iP rfl,Q,qp5 hC J h1 hc];omega);refine⟨G,t',g1,?_,λi hi=>by rw[g3 i hi];exact af hi,g4⟩;rw[show C+((S.getD (k+1) 0).toNat-c)=C+1+((S.getD (k+1) 0).toNat-(c+1)) by omega];exact g2};{have ec:c=(S.getD (k+1) 0).toNat:=O;refine⟨s,t,by rw[af hc],?_,λ_ _=>rfl,by rw[<-ec];exact Q⟩;rw[show C+((S.getD (k+1) 0).toNat-c)=C by omega];exact hs}
theorem ql9: ∀(N k:Nat) (s:List (List bJ)) (t:Nat->Int),k<N->k<=n->(∀i,k<=i->i<n->aU (dD n S I W v i))->
 SS n s t (1+(I.length-(S.getD k 0).toNat))->(∀i,i<k->t i=dL (v.getD i 0))->
 fw m N f0 Z D S I W f6 s (b9 (List.replicate n 0) k (dD n S I W v)) ((k:Int)-1)=some (if sd (dD n S I W v) k=true then .inr (.inl ((f0,Z,D,S,I,W,f6,()),c7 n (dD n S I W v),()))else .inl ([],233,()))
 |0,k,s,t,h,_,_,_,_=>absurd h (zA _)
 |N+1,0,s,t,h,_,_,_,_=>by{rw[fw,bQ,af O,q8z,zI];rfl}
 |N+1,k+1,s,t,h,hk,hf,hs,K=>by have hn:=hC.hn;have hS:=hC.hS;have e0:=hC.IW;have d0:=hC.Il;have c0:=hC.st.rng (j:=k) O;have hr:=hC.st.rng (j:=k+1) O;have hle:=hC.st.le (i:=k) (j:=k+1) O O;have J:(b9 (List.replicate n (0:Int)) (k+1) (dD n S I W v)).length=n:=by{rw[Yi,zI]};have fl:(b9 (List.replicate n (0:Int)) k (dD n S I W v)).length=n:=by{rw[Yi,zI]};have uy:cd (dD n S I W v k):=so;have hg:(b9 (List.replicate n (0:Int)) k (dD n S I W v)).getD k 0=dD n S I W v k:=by{rw[Yr (by rw[zI];omega),iP O]};have w0:(((k+1:Nat):Int)-1)=(k:Int):=O;obtain⟨s',t',g1,G,g3,g4⟩:=qnk hm hC (f0:=f0) (Z:=Z) (D:=D) (f6:=f6) hv hl (zl:=b9 (List.replicate n (0:Int)) (k+1) (dD n S I W v)) (k:=k) O J (λi h1 h2=>⟨by rw[Yr (by rw[zI];exact h2),iP O],hf i O h2⟩) m (S.getD k 0).toNat s t _ O O O hs O (by rw[qqb hC O,Lw];exact K k O);rw[show(((S.getD k 0).toNat:Nat):Int)=S.getD k 0 by omega]at g1;have e3:Yb (aE (t' k) (-2148)) 0=dD n S I W v k:=by{rw[g4,qt5 hC O];exact(ZF (T:=TT S I W) (b:=λi=>v.getD i 0) O).symm};rw[w0,fw,bQ,iP O,iP O,tN,g1,bS];dsimp only;rw[qh9 hm G O O,bS];dsimp only;rw[NT O,bS];dsimp only;rw[e3,iP O,zH,tN,qdq (by rw[zI];omega),iP O,hg,A6 uy,bS,sd];dsimp only;by_cases u:aU (dD n S I W v k);{rw[show iS (dD n S I W v) k=true from decide_eq_true u,decide_eq_true u,show(!true)=false from rfl,cond_false,lr,show wI ((k:Int)-1)=(k:Int)-1 from by rw[wQ,wi O O]];refine ql9 N k s' t' O O (λi h1 h2=> ?_) ⟨G.1,λi Q=>(G.2 i Q).mono O⟩ λi Q=>by{rw[g3 i O];exact K i O};by_cases e:i=k;{rw[e];exact u};{exact hf i O h2}};{rw[show iS (dD n S I W v) k=false from decide_eq_false u,decide_eq_false u,show(!false)=true from rfl,cond_true,xh,af (by decide)]}
end
end Go.Vs.F
set_option maxRecDepth 100000
namespace Go.Vs.F
def W0 (D y:LI) (p d:Nat):D5:=aE (aM (y.getD p 0)*aM (D.getD (d+2) 0)-aM (y.getD (p+1) 0)*aM (D.getD (d+1) 0)) (-2148)
def Ua (D y:LI) (p d:Nat):D5:=aE (aM (y.getD (p+1) 0)*aM (D.getD d 0)-aM (y.getD p 0)*aM (D.getD (d+1) 0)) (-2148)
def EM (D y:LI) (p d:Nat) (one:Bool):LI:=if one then [jJ (fo (y.getD p 0)) (fo (D.getD d 0)) 0]else [jJ (W0 D y p d) (aE (po D d) (-2148)) 0,jJ (Ua D y p d) (aE (po D d) (-2148)) 0]
def dZ (Z D y:LI):Nat->LI
 |0=>[]
 |b+1=>dZ Z D y b++EM D y (pre Z b).toNat (a9 Z b).toNat (Z.getD b 0==1)
def qv5 {D y:LI} {p d:Nat} {one:Bool}: ∀x∈EM D y p d one,cd x:=by intro x u;unfold EM at u;split at u;{rw[zC.1 u];exact Nk};{rcases mC u with u|u;{rw[u];exact Nk};{rw[zC.1 u];exact Nk}}
def ZN {Z D y:LI}: ∀{b:Nat},∀x∈dZ Z D y b,cd x
 |0,x,u=>by cases u
 |b+1,x,u=>by rw[dZ,zX]at u;rcases u with u|u;{exact ZN x u};{exact qv5 x u}
def Ti {Z D y:LI}: ∀{b:Nat},(∀i,i<b->sK Z i=true)->((dZ Z D y b).length:Int)=pre Z b
 |0,_=>rfl
 |b+1,h=>by have u:=Ti (Z:=Z) (D:=D) (y:=y) (b:=b) λi G=>h i O;have hv:=Xo.1 (h b O);rw[dZ,zG,xd,u,pre];unfold EM;rcases hv with hv|hv<;>rw[hv]<;>rfl
def LS {A t:LI} {p:Nat} {x:Int} (G:A.length=p) (u:p<t.length):(A++t.drop p).set p x=(A++[x])++t.drop (p+1):=by rw[List.set_append_right _ _ O,G,xe,EV u,List.set_cons_zero,py];rfl
def Uy {A t:LI} {p i:Nat} (u:A.length=p):(A++t.drop p).getD (p+i) 0=t.getD (p+i) 0:=by rw[qd1 O,NJ,u];congr 1;omega
section
variable {m:Nat} (hm:5000000000<=m) {f0 Z D S I W:LI} {f6:Int} (hz:Z.length<=1000) (h0:f0.length<=1000) (hd:D.length<=1000) (hP:PV f0.length Z D) (hD:bY D) {y:LI} (hy:bY y) (hl:y.length=f0.length)
include hm hz h0 hd hP hD hy hl
theorem qre: ∀(n b:Nat),Z.length-b<n->b<=Z.length->
 jW m n y f0 Z D S I W f6 (dZ Z D y b++(List.replicate f0.length (0:Int)).drop (pre Z b).toNat) (pre Z b) (a9 Z b) Z (Z.length:Int) (b:Int)=some (.inl (dZ Z D y Z.length,()))
 |0,b,h,_=>absurd h (zA _)
 |n+1,b,h,k0=>by rw[jW,bQ];by_cases hb:b<Z.length;{have hv:=Xo.1 (hP.1 b hb);have bd:=vK (b:=b) λi hi=>hP.1 i O;have i0:=Jc (c:=Z.length) hP.1 (b:=b+1) O;have hn:=hP.2.2.2;have g0:=hP.2.2.1;have j0:=Ti (Z:=Z) (D:=D) (y:=y) (b:=b) λi hi=>hP.1 i O;have e0:pre Z (b+1)=pre Z b+Z.getD b 0:=rfl;have e1:a9 Z (b+1)=a9 Z b+(2*Z.getD b 0-1):=rfl;have w0:wI (pre Z b+Z.getD b 0)=pre Z (b+1):=by{rw[wQ,wi O O,e0]};have w1:wI (wI (a9 Z b+wI (2*Z.getD b 0))-1)=a9 Z (b+1):=by{simp only[wQ];rw[wi (n:=2*Z.getD b 0) O O,wi (n:=a9 Z b+2*Z.getD b 0) O O,wi O O,e1];omega};obtain⟨p,hp⟩: ∃p:Nat,pre Z b=(p:Int):=⟨(pre Z b).toNat,O⟩;obtain⟨q,hq⟩: ∃q:Nat,a9 Z b=(q:Int):=⟨(a9 Z b).toNat,O⟩;have G:=qre n (b+1) O O;have hlen:(dZ Z D y b++(List.replicate f0.length (0:Int)).drop p).length=f0.length:=by{rw[zG,ix,zI];omega};have hA:(dZ Z D y b).length=p:=O;rw[dZ,hp,hq,tN,tN]at G;rw[iP O,iP O,tN,w0,w1,show wI ((b:Int)+1)=((b+1:Nat):Int)from ax O,aA,hp,hq,tN,tN];rcases hv with hv|hv;{obtain⟨u1,f1⟩:=hy p O;obtain⟨u2,f2⟩:=hD q O;rw[iP hv,iP O,zH,di O u1,bS,iP O,di O u2,bS];dsimp only;rw[uK hm (A0 _) (A0 _),bS,iP O,LS hA (by rw[zI];omega)];dsimp only;rw[hv,show((1:Int)==1)=true from rfl,show(pre Z (b+1)).toNat=p+1 by omega]at G;exact G};{obtain⟨u1,f1⟩:=hy p O;obtain⟨u2,f2⟩:=hy (p+1) O;obtain⟨v1,K⟩:=hD q O;obtain⟨v2,u⟩:=hD (q+1) O;obtain⟨v3,J⟩:=hD (q+2) O;have c0:wI ((q:Int)+1)=((q+1:Nat):Int):=by{rw[wQ,wi O O];omega};have Q:wI ((q:Int)+2)=((q+2:Nat):Int):=by{rw[wQ,wi O O];omega};have d0:wI ((p:Int)+1)=((p+1:Nat):Int):=by{rw[wQ,wi O O];omega};have mul: ∀{a c:Int},aU a->aU c->gO m (fo a).1 (fo a).2.1 (fo a).2.2.1 (fo a).2.2.2.1 (fo c).1 (fo c).2.1 (fo c).2.2.1 (fo c).2.2.2.1=some (aE (aM a*aM c) (-2148),(),(),()):=λ{a c} ha hc=>by{rw[Xn ha,Xn hc,I5 O,iP ⟨cf ha,cf hc⟩];rfl};rw[af O,iP O,di O v1,bS,c0,Q,d0,iP O,tN,di O v2,bS,iP O,tN,di O v3,bS];dsimp only;rw[mul K J,bS,mul u u,bS];dsimp only;rw[Nw O,iP ⟨Xp K J,Xp u u⟩,bS,iP O,zH,di O u1,bS,iP O,zH,tN,di O u2,bS];dsimp only;rw[mul f1 J,bS,mul f2 u,bS];dsimp only;rw[Nw O,iP ⟨Xp f1 J,Xp f2 u⟩,bS];dsimp only;rw[uK hm (dz _ _) (dz _ _),bS,iP O,mul f2 K,bS,mul f1 u,bS];dsimp only;rw[Nw O,iP ⟨Xp f2 K,Xp f1 u⟩,bS];dsimp only;rw[uK hm (dz _ _) (dz _ _),bS,iP (by rw[zT];omega),LS hA (by rw[zI];omega)];dsimp only;rw[LS (p:=p+1) (by rw[zG,hA];rfl) (by rw[zI];omega)];rw[hv,show((2:Int)==1)=false from rfl,show(pre Z (b+1)).toNat=p+1+1 by omega]at G;rw[py (dZ Z D y b)];exact G}};{rw[af O,show b=Z.length by omega,hP.2.2.1,tN,Bf (by rw[zI];omega),ls]}
omit hP hD hy hl in
theorem qn4 {a:LI} (G:UL a) (hb:a.length<=1000): ∀(n k:Nat),a.length-k<n->
 mb m n a (a.length:Int) (k:Int)=some (if ql (λi=>decide (aU (a.getD i 0))) k a.length=true then .inr (.inl ())else .inl (4,()))
 |0,k,h=>absurd h (zA _)
 |n+1,k,h=>by rw[mb,bQ];by_cases u:k<a.length;{rw[iP O,iP O,tN,A6 (G k u),bS,qy u];dsimp only;by_cases c:aU (a.getD k 0);{rw[decide_eq_true c,show(!true)=false from rfl,cond_false,lr,show wI ((k:Int)+1)=((k+1:Nat):Int)from ax O];exact qn4 G hb n (k+1) O};{rw[decide_eq_false c,show(!false)=true from rfl,cond_true,xh,af (by decide)]}};{rw[af O,Q5 O,iP rfl]}
omit hP hD hy hl in
theorem qnf {a:LI} (u:UL a) (hb:a.length<=1000):yn m a=some (if bq a=true then 0 else 4,(),()):=by have h:=qn4 hm hz h0 hd u hb m 0 O;rw[nZ]at h;rw[yn,h,bS];unfold bq;cases ql (λi=>decide (aU (a.getD i 0))) 0 a.length<;>rfl
def fK (Z D y:LI):LI:=dZ Z D y Z.length
omit hm hz h0 hd hD hy hl in
theorem qhy:(fK Z D y).length=f0.length:=by have:=Ti (Z:=Z) (D:=D) (y:=y) (b:=Z.length) hP.1;have h2:=hP.2.2.1;unfold fK;omega
omit hm hz h0 hd hP hD hy hl in
theorem UA:UL (fK Z D y):=λi u=>by refine ZN (Z:=Z) (D:=D) (y:=y) (b:=Z.length) _ ?_;unfold fK at u⊢;simp[List.getD,u]
theorem qmc:tA m f0 Z D S I W f6 y=some (if bq (fK Z D y)=true then(fK Z D y,0,())else([],233,()),(),(),()):=by have h:=qre hm hz h0 hd hP hD hy hl (S:=S) (I:=I) (W:=W) (f6:=f6) m 0 O O;rw[nZ,show pre Z 0=0 from rfl,show a9 Z 0=0 from rfl,show dZ Z D y 0=[]from rfl,vE,show(0:Int).toNat=0 from rfl,iX]at h;rw[tA,iP O,hl,tN,h,bS];dsimp only;have u:=qhy (y:=y) hP;rw[qnf hm hz h0 hd (a:=dZ Z D y Z.length) UA (by show(fK Z D y).length<=1000;omega),bS];unfold fK;cases bq (dZ Z D y Z.length)<;>rfl
theorem qrg {n:Int} {l:List LI}: ∀(N b:Nat),Z.length-b<N->b<=Z.length->
 oF m N f0 Z D S I W f6 n (a9 Z b) l (dZ Z D y b++y.drop (pre Z b).toNat) (pre Z b) (b:Int)=some (.inl ((f0,Z,D,S,I,W,f6,()),n,l,fK Z D y,()))
 |0,b,h,_=>absurd h (zA _)
 |N+1,b,h,l0=>by rw[oF,bQ];by_cases hb:b<Z.length;{have hv:=Xo.1 (hP.1 b hb);have bd:=vK (b:=b) λi hi=>hP.1 i O;have j0:=Jc (c:=Z.length) hP.1 (b:=b+1) O;have hn:=hP.2.2.2;have i0:=hP.2.2.1;have k0:=Ti (Z:=Z) (D:=D) (y:=y) (b:=b) λi hi=>hP.1 i O;have e0:pre Z (b+1)=pre Z b+Z.getD b 0:=rfl;have e1:a9 Z (b+1)=a9 Z b+(2*Z.getD b 0-1):=rfl;have w0:wI (pre Z b+Z.getD b 0)=pre Z (b+1):=by{rw[wQ,wi O O,e0]};have w1:wI (wI (a9 Z b+wI (2*Z.getD b 0))-1)=a9 Z (b+1):=by{simp only[wQ];rw[wi (n:=2*Z.getD b 0) O O,wi (n:=a9 Z b+2*Z.getD b 0) O O,wi O O,e1];omega};obtain⟨p,hp⟩: ∃p:Nat,pre Z b=(p:Int):=⟨(pre Z b).toNat,O⟩;obtain⟨q,hq⟩: ∃q:Nat,a9 Z b=(q:Int):=⟨(a9 Z b).toNat,O⟩;have J:=qrg (n:=n) (l:=l) N (b+1) O O;have hlen:(dZ Z D y b++y.drop p).length=f0.length:=by{rw[zG,ix];omega};have G:(dZ Z D y b).length=p:=O;rw[dZ,hp,hq,tN,tN]at J;rw[iP O,iP O,tN,w1,w0,hp,hq,tN,iP O,iP O,aA,tN,show wI ((b:Int)+1)=((b+1:Nat):Int)from ax O];rcases hv with hv|hv;{obtain⟨Q,f1⟩:=hy p O;obtain⟨K,f2⟩:=hD q O;have ew:(D.drop q).take ((a9 Z (b+1)).toNat-q)=[D.getD q 0]:=by{rw[show(a9 Z (b+1)).toNat-q=1 by omega,cn (d:=0) (by omega:q<D.length)];rfl};have ga:(dZ Z D y b++y.drop p).getD p 0=y.getD p 0:=Uy (i:=0) G;have wd:wI ((q:Int)+((1:Nat):Int))=a9 Z (b+1):=by{rw[wQ,wi O O];omega};rw[iP hv,ew,iP O,zH,ga,vN O Q,bS,iP (by rw[zL];omega),E1,vN O K,bS];dsimp only;rw[M7 hm (A0 _) (A0 _),bS,iP O,iP O,LS G O,zL,wd];dsimp only;rw[hv,show((1:Int)==1)=true from rfl,show(pre Z (b+1)).toNat=p+1 by omega]at J;exact J};{obtain⟨Q,f1⟩:=hy p O;obtain⟨K,f2⟩:=hy (p+1) O;obtain⟨v1,g1⟩:=hD q O;obtain⟨v2,g2⟩:=hD (q+1) O;obtain⟨v3,g3⟩:=hD (q+2) O;have c0:wI ((p:Int)+1)=((p+1:Nat):Int):=by{rw[wQ,wi O O];omega};have et:(a9 Z (b+1)).toNat-q=3:=O;have ew:(D.drop q).take 3=[D.getD q 0,D.getD (q+1) 0,D.getD (q+2) 0]:=by{rw[cn (d:=0) (by omega:q<D.length),cn (d:=0) (by omega:q+1<D.length),cn (d:=0) (by omega:q+1+1<D.length)];simp only[RS,sC]};have u:=ZI hm hz h0 O (f0:=f0) (W:=[]) (p:=q) (by rw[LG];omega) hD.U (λi hi=>absurd hi (zA _)) O hD;rw[ew]at u;have ga:(dZ Z D y b++y.drop p).getD p 0=y.getD p 0:=Uy (i:=0) G;have g0:(dZ Z D y b++y.drop p).getD (p+1) 0=y.getD (p+1) 0:=Uy (i:=1) G;have wd:wI ((q:Int)+((3:Nat):Int))=a9 Z (b+1):=by{rw[wQ,wi O O];omega};have d0:[D.getD q 0,D.getD (q+1) 0,D.getD (q+2) 0].length=3:=rfl;rw[af O,et,ew,d0,c0,wd];simp only[E1,RQ];rw[iP O,iP O,zH,ga,Y4 O Q v3 f1 g3,bS,iP O,iP O,zH,tN,g0,Y4 O K v2 f2 g2,bS];dsimp only;rw[S8 O,iP ⟨Xp f1 g3,Xp f2 g2⟩,bS,iP O,iP O,Y4 O K v1 f2 g1,bS,iP O,iP O,Y4 O Q v2 f1 g2,bS];dsimp only;rw[S8 O,iP ⟨Xp f2 g1,Xp f1 g2⟩,bS,u,bS];dsimp only;rw[M7 hm (dz _ _) (dz _ _),bS,bS];dsimp only;rw[M7 hm (dz _ _) (dz _ _),bS,iP O,iP (by rw[zT];omega),iP O,LS G O];dsimp only;rw[LS (p:=p+1) (by rw[zG,G];rfl) O];rw[hv,show((2:Int)==1)=false from rfl,show(pre Z (b+1)).toNat=p+1+1 by omega]at J;rw[py (dZ Z D y b)];exact J}};{rw[af O,show b=Z.length by omega,hP.2.2.1,tN,Bf O,ls];rfl}
end
end Go.Vs.F
set_option maxRecDepth 100000
namespace Go.Vs.F
def sY (Z D:LI) (b:Nat):Bool:= !((Z.getD b 0==1)&&A9 (D.getD (a9 Z b).toNat 0))
section
variable {m:Nat} (hm:5000000000<=m) {f0 Z D S I W:LI} {f6:Int} (hz:Z.length<=1000) (h0:f0.length<=1000) (hd:D.length<=1000) (hP:PV f0.length Z D) (hD:UL D)
include hm hz h0 hd hP hD
theorem ql7: ∀(n b:Nat),Z.length-b<n->b<=Z.length->
 jX m n f0 Z D S I W f6 (a9 Z b) Z (Z.length:Int) (b:Int)=some (if ql (sY Z D) b Z.length=true then .inr (.inl ())else .inl (true,()))
 |0,b,h,_=>absurd h (zA _)
 |n+1,b,h,K=>by rw[jX,bQ];by_cases hb:b<Z.length;{have hv:=Xo.1 (hP.1 b hb);have bd:=vK (b:=b) λi hi=>hP.1 i O;have J:=Jc (c:=Z.length) hP.1 (b:=b+1) O;have hn:=hP.2.2.2;have Q:a9 Z (b+1)=a9 Z b+(2*Z.getD b 0-1):=rfl;have u:wI (a9 Z b+wI (wI (2*Z.getD b 0)-1))=a9 Z (b+1):=by{simp only[wQ];rw[wi (n:=2*Z.getD b 0) O O,wi (n:=2*Z.getD b 0-1) O O,wi O O,Q]};have G:=ql7 n (b+1) O O;rw[iP O,iP O,tN,aA,u,show wI ((b:Int)+1)=((b+1:Nat):Int)from ax O,G,qy hb];unfold sY;by_cases c:Z.getD b 0=1;{have hu:=hD (a9 Z b).toNat O;rw[iP c,iP O,(SQ hu).1,bS,c];dsimp only;rw[Wd hu];cases A9 (D.getD (a9 Z b).toNat 0)<;>rfl};{rw[af c,show(Z.getD b 0==1)=false from beq_eq_false_iff_ne.2 c];rfl}};{rw[af O,Q5 O,iP rfl]}
theorem qjg (v:LI) (G:Int): ∀(n b:Nat),Z.length-b<n->b<=Z.length->
 oG m n v f0 Z D S I W f6 G (a9 Z b) (b:Int)=some (if ql (sY Z D) b Z.length=true then .inr (.inl (v,(f0,Z,D,S,I,W,f6,()),G,()))else .inl ([],9,()))
 |0,b,h,_=>absurd h (zA _)
 |n+1,b,h,c0=>by rw[oG,bQ];by_cases hb:b<Z.length;{have hv:=Xo.1 (hP.1 b hb);have bd:=vK (b:=b) λi hi=>hP.1 i O;have Q:=Jc (c:=Z.length) hP.1 (b:=b+1) O;have hn:=hP.2.2.2;have e1:a9 Z (b+1)=a9 Z b+(2*Z.getD b 0-1):=rfl;have J:wI (wI (a9 Z b+wI (2*Z.getD b 0))-1)=a9 Z (b+1):=by{simp only[wQ];rw[wi (n:=2*Z.getD b 0) O O,wi (n:=a9 Z b+2*Z.getD b 0) O O,wi O O,e1];omega};have K:=qjg v G n (b+1) O O;have u:(0:Int)<=(b:Int)/\(b:Int)<(Z.length:Int):=O;rw[iP O,iP u,tN,aA,J,show wI ((b:Int)+1)=((b+1:Nat):Int)from ax O,K,qy hb];simp only[iP u];unfold sY;by_cases c:Z.getD b 0=1;{rw[iP c,iP O,SL,bS,c];dsimp only;cases A9 (D.getD (a9 Z b).toNat 0)<;>rfl};{rw[af c,show(Z.getD b 0==1)=false from beq_eq_false_iff_ne.2 c];rfl}};{rw[af O,Q5 O,iP rfl]}
end
section
variable {f0 Z D S I W:LI} {f6:Int} (hc:wO f0 Z D S I W f6=0)
include hc
theorem Wn:f0.length<=200/\gX f0=true/\S.length=f0.length+1/\I.length=W.length/\vx f0.length Z D S I f6/\bq W=true/\bq D=true:=by unfold wO at hc;split at hc;{cases hc};split at hc;{cases hc};split at hc;{cases hc};split at hc;{cases hc};split at hc;{cases hc};split at hc;{cases hc};rename_i a b c d e f;have u:=RI.1 f;refine⟨O,?_,RI.1 c,RI.1 d,RI.1 e,u.1,u.2⟩;cases h:gX f0 with|true=>rfl|false=>exact absurd h b
theorem qpl (Q:I.length<=5000) (uW:UL W):sO f0.length S I W:=by obtain⟨a1,a2,a3,a4,a5,a6,a7⟩:=Wn hc;obtain⟨hP,h6,hC⟩:=(SC a3).1 a5;have st:bL f0.length S I:=a5.2.1.start a3;have J: ∀j,j<f0.length-> ∃last:Int,(j:Int)<=last/\ql (sf (f0.length:Int) last S I j) (S.getD j 0).toNat (S.getD (j+1) 0).toNat=true:=λj u=>by{obtain⟨b,b1,b2,b3⟩:=Vy (Z:=Z) (c:=Z.length) hP.1 (j:=(j:Int)) O (by rw[hP.2.2.1];omega);have h1:=qx.1 hC.2.2 b O b1;have bd:=vK (b:=b) λi hi=>hP.1 i O;have h2:=qx.1 h1 j O O;unfold kq at h2;rw[zM,qng st u]at h2;exact⟨pR Z b,by unfold pR;rw[pre]at b3;omega,h2.2⟩};refine⟨a1,a3,a4,Q,st,λj c u h1 h2=> ?_,λj c u h1 h2=> ?_,Zl uW a6⟩;{obtain⟨last,l1,K⟩:=J j u;have G:=qx.1 K c O O;unfold sf at G;simp only[zM,decide_eq_true_iff]at G;omega};{obtain⟨last,l1,K⟩:=J j u;have G:=qx.1 K c O O;have h4:=st.rng (j:=j) O;unfold sf at G;simp only[zM,EW,Bool.not_eq_true',decide_eq_true_iff,decide_eq_false_iff_not]at G;omega}
theorem qta:PV f0.length Z D:=by obtain⟨a1,a2,G,O,u,K,J⟩:=Wn hc;exact((SC G).1 u).1
end
end Go.Vs.F
set_option maxRecDepth 100000
namespace Go.Vs.F
def qdz {n:Nat} {y:Nat->Int} (h:ql (iS y) 0 n=true): ∀i,i<n->aU (y i):=λi u=>of_decide_eq_true (qx.1 h i (oX _) u)
def qjy {m:Nat} (hm:5000000000<=m) {f0 Z D S I W:LI} {f6:Int} (hz:Z.length<=1000) (h0:f0.length<=1000) (hd:D.length<=1000) (hI:I.length<=5000) (hS:S.length<=100000) (uD:UL D) (uW:UL W) (hw:W.length<=100000)
 (hc:wO f0 Z D S I W f6=0):UJ m f0.length f0 Z D S I W f6:=by intro v hv hl;obtain⟨a1,a2,a3,a4,a5,a6,a7⟩:=Wn hc;have hP:=qta hc;have hC:=qpl hc hI uW;have hD:=Zl uD a7;have hr:=qnq a2;obtain⟨k1,k2⟩:=q9n hm hz h0 hd hw O hS uD uW (f0:=f0) (Z:=Z) (D:=D) (S:=S) (I:=I) (W:=W) (f6:=f6);rw[hc]at k1 k2;have fv:bq v=true:=by{unfold bq;exact qx.2 λi _ u=>decide_eq_true (hv i u).2};have s0:=ql7 hm hz h0 hd hP uD (S:=S) (I:=I) (W:=W) (f6:=f6) m 0 O O;have r0:=qjg hm hz h0 hd hP uD (S:=S) (I:=I) (W:=W) (f6:=f6) v (f0.length:Int) m 0 O O;rw[nZ,show a9 Z 0=0 from rfl]at s0 r0;obtain⟨g1,g2⟩:=qg8 hm h0 (b:=v) hl hr;have gf:=qpa hm h0 (b:=v) hl hr hv;have gl:(fi v f0).length=f0.length:=qjj;have u1:=qpn hm hC gf gl;have d1:=ZE hm hC (v:=v) (f0:=f0) (Z:=Z) (D:=D) (f6:=f6) m 0 O O;rw[nZ,List.replicate_zero]at d1;have d2:=ZT hm hC (v:=v) (f0:=f0) (Z:=Z) (D:=D) (f6:=f6) m 0 O O;rw[show gQ f0.length S I W (S.getD 0 0).toNat=List.replicate f0.length (List.replicate f0.length (0:Int)) by rw[hC.st.s0,qts];rfl,nZ]at d2;have d4:=ZZ hm hC (f0:=f0) (Z:=Z) (D:=D) (f6:=f6) gf gl m 0 O O (λi u=>absurd u (zA _));rw[nZ,Zg]at d4;have e1:Er m 0 (f0.length:Int) v=some (0,(),(),(),()):=by{rw[Er,aN,iP rfl,aN,hl,iP rfl,SU O hv.U O,fv];rfl};have e2:C6 m v (f0.length:Int)=some (0,(),(),()):=by{rw[C6,aN,hl,iP rfl,qnf hm hz h0 hd hv.U O,fv];rfl};have e3:yG m f0 Z D S I W f6=some (!ql (sY Z D) 0 Z.length,(),()):=by{rw[yG,s0];cases ql (sY Z D) 0 Z.length<;>rfl};rw[Ap,T3,k1,k2,bS,bS];dsimp only;rw[e1,e2,e3,bS,bS,r0,bS];dsimp only;rw[show((0:Int)==0)=true from rfl,show((0:Int) !=0)=false from rfl,cond_true,cond_true,cond_false,cond_false,bS];cases c0:ql (sY Z D) 0 Z.length with|false=>exact⟨[],9,rfl,rfl,λh=>by cases h⟩|true=>{rw[iP rfl];dsimp only;rw[show(!true)=false from rfl,cond_false,g1,d1,bS,bS];dsimp only;rw[u1,d2,bS,bS];dsimp only;rw[g2,bS];dsimp only;rw[d4,aN,bS];cases J:ql (iS (dC S I W (fi v f0))) 0 f0.length with|false=>exact⟨[],233,rfl,rfl,λh=>by cases h⟩|true=>{have fy:=qdz J;have hy:bY (c7 f0.length (dC S I W (fi v f0))):=SM λi u=>⟨oQ,fy i u⟩;have m1:=qmc hm hz h0 hd hP hD hy Qr (S:=S) (I:=I) (W:=W) (f6:=f6);have m2:=qrg hm hz h0 hd hP hD hy Qr (S:=S) (I:=I) (W:=W) (f6:=f6) (n:=(f0.length:Int)) (l:=gQ f0.length S I W I.length) m 0 O O;rw[nZ,show pre Z 0=0 from rfl,show a9 Z 0=0 from rfl,show dZ Z D (c7 f0.length (dC S I W (fi v f0))) 0=[]from rfl,vE,show(0:Int).toNat=0 from rfl,iX]at m2;rw[iP rfl,iP rfl];dsimp only;rw[iP rfl,m1];dsimp only;rw[m2,bS,bS];dsimp only;have wl:(fK Z D (c7 f0.length (dC S I W (fi v f0)))).length=f0.length:=qhy hP;rw[SU O UA O,bS];cases K:bq (fK Z D (c7 f0.length (dC S I W (fi v f0))))with|false=>exact⟨[],233,rfl,rfl,λh=>by cases h⟩|true=>{have wf:=Zl UA K;obtain⟨s,b1,b2⟩:=qir hm (v:=fK Z D (c7 f0.length (dC S I W (fi v f0)))) O wf;rw[wl]at b2;have bl:=ql9 hm hC (f0:=f0) (Z:=Z) (D:=D) (f6:=f6) wf wl m f0.length s _ O (zJ _) (λi h1 h2=>absurd h2 O) ⟨b2.1,λi u=>(b2.2 i u).mono O⟩ (λi u=>rfl);have l6:=ZY hm hC (f0:=f0) (Z:=Z) (D:=D) (f6:=f6) wf wl m f0.length O (zJ _) (λi h1 h2=>absurd h2 O);have fe:=qdw (b:=fK Z D (c7 f0.length (dC S I W (fi v f0)))) (q:=dD f0.length S I W (fK Z D (c7 f0.length (dC S I W (fi v f0)))));have fr:=qdw (b:=List.replicate f0.length (0:Int)) (q:=dD f0.length S I W (fK Z D (c7 f0.length (dC S I W (fi v f0)))));rw[wl]at fe;rw[zI]at fr;rw[fe]at l6;rw[fr]at bl;have tr:=qvn hm a1 (q:=λi j=>ent S I W i j I.length);have w1:wI ((f0.length:Int)-1)=(f0.length:Int)-1:=by{rw[wQ,wi O O]};rw[iP rfl,aN,iP rfl,show(!true)=false from rfl,cond_false,show gQ f0.length S I W I.length=eu f0.length λi j=>ent S I W i j I.length from rfl,tr,bS];dsimp only;rw[b1,bS,w1,l6,bS];dsimp only;rw[wl,iP O,tN,w1,bl,bS];cases Q:sd (dD f0.length S I W (fK Z D (c7 f0.length (dC S I W (fi v f0))))) f0.length with|false=>exact⟨[],233,rfl,rfl,λh=>by cases h⟩|true=>{have G:bY (c7 f0.length (dD f0.length S I W (fK Z D (c7 f0.length (dC S I W (fi v f0)))))):=SM λi u=>⟨so,qis.1 Q i u⟩;obtain⟨c1,c2⟩:=qc0 hm h0 (b:=c7 f0.length (dD f0.length S I W (fK Z D (c7 f0.length (dC S I W (fi v f0)))))) Qr hr;rw[iP rfl];dsimp only;rw[c1,c2];exact⟨_,0,rfl,rfl,λ_=>⟨qj1 hm h0 Qr hr G (zJ _),Fm⟩⟩}}}}
end Go.Vs.F
