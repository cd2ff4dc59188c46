/-The diagonal factor:orders,numbers,lists. The diagonal factor passes ldl.Check. -/
import Derived.Test.YtkbgfnhdfmmfcaaGreatDoorVc
import Derived.Test.YtkbgfnhdfmmfcaaGreatDoorLa
set_option linter.unusedVariables false
set_option linter.unusedSimpArgs false
set_option linter.unusedSectionVars false
set_option maxRecDepth 100000
namespace Go.Vs.F
theorem qj8 (a:Int):0<=IntKind.wrap .u64 a/\IntKind.wrap .u64 a<18446744073709551616:=by
 have e:IntKind.wrap .u64 a=a%18446744073709551616:=by
  unfold IntKind.wrap;show(if(false&&decide (a%18446744073709551616>=9223372036854775808))=true then a%18446744073709551616-18446744073709551616 else a%18446744073709551616)=_
  simp only[Bool.false_and];rfl
 rw[e];omega
theorem qs9 (a:Int): ∃x:Nat,IntKind.wrap .u64 a=(x:Int)/\x<18446744073709551616:=
 ⟨(IntKind.wrap .u64 a).toNat,by have:=qj8 a;omega,by have:=qj8 a;omega⟩
theorem tm (x n:Nat):Int.tmod (x:Int) (n:Int)=((x%n:Nat):Int):=by
 rw[Int.tmod_eq_emod_of_nonneg O];rfl
theorem w64n {a:Nat} (h:a<18446744073709551616):wJ (a:Int)=(a:Int):=wu O O
theorem qci (m:Nat) (a:Int) {k:Nat} (h0:0<k) (hk:k<9223372036854775808): ∃r:Nat,r<k/\g11 m a (k:Int)=some ((r:Int),(),(),()):=by
 have w:wJ (k:Int)=(k:Int):=w64n O;obtain⟨x,hx,_⟩:=qs9 a;have hx':wJ a=(x:Int):=hx;refine⟨x%k,Nat.mod_lt _ h0,?_⟩;have:=Nat.mod_lt x h0;rw[g11,w,hx',iP O,tm,wQ,wi O O]
def U64 (x:Int):Prop:=0<=x/\x<18446744073709551616
theorem wrapU (a:Int):U64 (IntKind.wrap .u64 a):=qj8 a
theorem qt5 (m:Nat) {raw:LI} (hl:raw.length<=9223372036854775807) (k:Int): ∃w,g27 m raw k=some (w,(),(),())/\U64 w:=by
 rw[g27,bQ];by_cases c:0<raw.length
 . obtain⟨r,hr,e⟩:=qci m k (k:=raw.length) c O;rw[iP O,e,bS];dsimp only;rw[iP O];exact⟨_,rfl,wrapU _⟩
 . rw[iN' O];exact⟨_,rfl,wrapU _⟩
theorem qql (m:Nat) {raw:LI} (hl:raw.length<=9223372036854775807) (k:Int): ∃w:Nat,g27 m raw k=some ((w:Int),(),(),()):=by
 obtain⟨w,e,h⟩:=qt5 m hl k;exact⟨w.toNat,by rw[e,Int.toNat_of_nonneg h.1]⟩
def nL (L:List Nat):LI:=L.map fun k=>((k:Nat):Int)
theorem q20 {L:List Nat}:(nL L).length=L.length:=List.length_map ..
theorem q4b {L:List Nat} {k:Nat} (h:k<L.length):(nL L).getD k 0=((L[k]:Nat):Int):=by simp[nL,List.getD,h]
theorem qsv {o:List Nat} {n k:Nat} (h:o.Perm (List.range n)):(o.take k++[n]++o.drop k).Perm (List.range (n+1)):=by
 have h1:(o.take k++[n]++o.drop k).Perm (n::o):=by
  rw[List.append_assoc,List.singleton_append];refine List.perm_middle.trans ?_;rw[List.take_append_drop]
 rw[List.range_succ];exact h1.trans ((List.Perm.cons n h).trans (List.perm_append_singleton n (List.range n)).symm)
theorem qtg {o:List Nat} {k:Nat}:(nL o).take k=nL (o.take k):=by unfold nL;rw[List.map_take]
theorem qus {o:List Nat} {k:Nat}:(nL o).drop k=nL (o.drop k):=by unfold nL;rw[List.map_drop]
theorem qt9 {a b:List Nat}:nL a++nL b=nL (a++b):=by unfold nL;rw[List.map_append]
section
variable {m:Nat} (hm:5000000000<=m) {raw:LI} (hl:raw.length<=9223372036854775807) {n:Nat} (hn:n<=100)
include hm hl hn
theorem qt1: ∀(N i:Nat) (o:List Nat),n-i<N->i<=n->o.Perm (List.range i)-> ∃o':List Nat,o'.Perm (List.range n)/\g25L0 m N raw (n:Int) (nL o) (i:Int)=some (.inl (nL o',())):=by
 intro N;induction N with
 |zero=>intro i o h;omega
 |succ N ih=>
  intro i o h hi ho;have hol:o.length=i:=by rw[ho.length_eq,List.length_range]
  rw[g25L0,bQ];by_cases c:i<n
  . obtain⟨w,ew⟩:=qql m hl (wI (700+(i:Int)));obtain⟨a,ha,ea⟩:=qci m (wI (shr_ .u64 (w:Int) 1)) (k:=i+1) O O;have w1:wI ((i:Int)+1)=((i+1:Nat):Int):=wsucc O;rw[iP O,ew,bS];dsimp only;rw[w1,ea,bS];dsimp only;have hL:(nL o).length=i:=by rw[q20,hol]
    have e1:([]:LI)++((nL o).drop 0).take ((a:Int).toNat-0)++[(i:Int)]++((nL o).drop (0+(a:Int).toNat)).take ((nL o).length-(a:Int).toNat)=nL (o.take a++[i]++o.drop a):=by
     rw[List.drop_zero,Nat.sub_zero,tN,Nat.zero_add,List.nil_append,List.take_of_length_le (l:=(nL o).drop a) (by rw[List.length_drop];omega),qtg,qus,show([(i:Int)]:LI)=nL [i]from rfl,qt9,qt9]
    have t1:(((nL o).drop 0).take ((a:Int).toNat-0)).length<=100:=by rw[List.length_take,List.length_drop];omega
    have t2:(([]:LI)++((nL o).drop 0).take ((a:Int).toNat-0)).length<=100:=by rw[List.nil_append];exact t1
    have t3:(([]:LI)++((nL o).drop 0).take ((a:Int).toNat-0)++[(i:Int)]).length<=101:=by rw[List.length_append];show _+1<=_;omega
    have t4:(((nL o).drop (0+(a:Int).toNat)).take ((nL o).length-(a:Int).toNat)).length<=100:=by rw[List.length_take,List.length_drop];omega
    rw[iP O,iP (by show 0+_<=_;omega),iP (by show _+1<=_;omega),iP O,iP O,e1]
    exact ih (i+1) _ O O (qsv ho)
  . have:i=n:=O;subst this;rw[iN' O];exact⟨o,ho,rfl⟩
theorem qsx: ∃o:List Nat,o.Perm (List.range n)/\g25 m raw (n:Int)=some (nL o,(),(),()):=by
 obtain⟨o,ho,e⟩:=qt1 hm hl hn m 0 [] O O (List.Perm.refl _);refine⟨o,ho,?_⟩;rw[nZ]at e;rw[g25,show([]:LI)=nL []from rfl,e,bS]
end
structure Dia (n:Nat) (o:List Nat) (d:LI):Prop where
 hn:n<=5
 perm:o.Perm (List.range n)
 len:d.length=n
 tab: ∀x∈d,x∈tabD
theorem Dia.ol {n:Nat} {o:List Nat} {d:LI} (h:Dia n o d):o.length=n:=by rw[h.perm.length_eq,List.length_range]
theorem Dia.lt {n:Nat} {o:List Nat} {d:LI} (h:Dia n o d) {k:Nat} (hk:k<n): ∃x:Nat,(nL o).getD k 0=(x:Int)/\x<n/\o[k]? =some x:=by
 have hk':k<o.length:=by rw[h.ol];exact hk
 refine⟨o[k],q4b hk',List.mem_range.1 (h.perm.mem_iff.1 (List.getElem_mem hk')),List.getElem?_eq_getElem hk'⟩
theorem Dia.nodup {n:Nat} {o:List Nat} {d:LI} (h:Dia n o d):o.Nodup:=h.perm.nodup_iff.2 List.nodup_range
theorem Dia.inj {n:Nat} {o:List Nat} {d:LI} (h:Dia n o d) {i k x:Nat} (h1:o[i]? =some x) (h2:o[k]? =some x):i=k:=by
 obtain⟨a,ha⟩:=List.getElem?_eq_some_iff.1 h1;obtain⟨b,hb⟩:=List.getElem?_eq_some_iff.1 h2;have hp:=List.pairwise_iff_getElem.1 h.nodup;rcases Nat.lt_trichotomy i k with c|c|c
 . exact absurd (ha.trans hb.symm) (hp i k a b c)
 . exact c
 . exact absurd (hb.trans ha.symm) (hp k i b a c)
theorem Dia.dm {n:Nat} {o:List Nat} {d:LI} (h:Dia n o d) {k:Nat} (hk:k<n):d.getD k 0∈tabD:=by
 have hk':k<d.length:=by rw[h.len];exact hk
 have:d.getD k 0=d[k]:=by simp[List.getD,hk']
 rw[this];exact h.tab _ (List.getElem_mem hk')
theorem Y1 {n p:Nat} {w:Int}:(eN n p w).length=n:=by unfold eN;rw[List.length_set,List.length_replicate]
theorem qsl {n p:Nat}:eN n p 0=List.replicate n 0:=by
 unfold eN;refine List.ext_getElem (by simp) fun k h1 h2=> ?_
 rw[List.getElem_set];split<;>simp
theorem Y2 {n p k:Nat} {w:Int} (hk:k<n):(eN n p w).getD k 0=if k=p then w else 0:=by
 unfold eN;by_cases c:k=p
 . subst c;rw[iP rfl,q2e (by rw[List.length_replicate];exact hk)]
 . rw[iN' c,getD_set_ne O,Xc hk]
theorem eN_eq {n p:Nat} {w x:Int}:(eN n p x).set p w=eN n p w:=by unfold eN;rw[List.set_set]
theorem eN_ne {n p k:Nat} {x:Int} (hn:k<n) (h:k≠p):(eN n p x).set k 0=eN n p x:=by
 refine qsy 0 (by rw[List.length_set]) fun j hj=> ?_
 rw[List.length_set,Y1]at hj;by_cases c:j=k
 . subst c;rw[q2e (by rw[Y1];exact hj),Y2 hj,iN' h]
 . rw[getD_set_ne (fun e=>c e.symm)]
end Go.Vs.F
set_option maxRecDepth 100000
namespace Go.Vs.F
theorem piv1 (j:Nat) (a0 b0:Int):(g190 (j+300) [a0] (List.replicate 1 1) [b0] (List.replicate 2 0) [] [] 0)=some (([0],true,()),(),()):=by kernel_rfl
theorem col1 (j:Nat) (a0 b0:Int):(g191 (j+300) [a0] (List.replicate 1 1) [b0] (List.replicate 2 0) [] [] 0 [0])=some (true,(),(),()):=by kernel_rfl
theorem piv2 (j:Nat) (a0 a1 b0 b1:Int):(g190 (j+300) [a0,a1] (List.replicate 2 1) [b0,b1] (List.replicate 3 0) [] [] 0)=some (([0,1],true,()),(),()):=by kernel_rfl
theorem col2 (j:Nat) (a0 a1 b0 b1:Int):(g191 (j+300) [a0,a1] (List.replicate 2 1) [b0,b1] (List.replicate 3 0) [] [] 0 [0,1])=some (true,(),(),()):=by kernel_rfl
theorem piv3 (j:Nat) (a0 a1 a2 b0 b1 b2:Int):(g190 (j+300) [a0,a1,a2] (List.replicate 3 1) [b0,b1,b2] (List.replicate 4 0) [] [] 0)=some (([0,1,2],true,()),(),()):=by kernel_rfl
theorem col3 (j:Nat) (a0 a1 a2 b0 b1 b2:Int):(g191 (j+300) [a0,a1,a2] (List.replicate 3 1) [b0,b1,b2] (List.replicate 4 0) [] [] 0 [0,1,2])=some (true,(),(),()):=by kernel_rfl
theorem piv4 (j:Nat) (a0 a1 a2 a3 b0 b1 b2 b3:Int):(g190 (j+300) [a0,a1,a2,a3] (List.replicate 4 1) [b0,b1,b2,b3] (List.replicate 5 0) [] [] 0)=some (([0,1,2,3],true,()),(),()):=by kernel_rfl
theorem col4 (j:Nat) (a0 a1 a2 a3 b0 b1 b2 b3:Int):(g191 (j+300) [a0,a1,a2,a3] (List.replicate 4 1) [b0,b1,b2,b3] (List.replicate 5 0) [] [] 0 [0,1,2,3])=some (true,(),(),()):=by kernel_rfl
theorem piv5 (j:Nat) (a0 a1 a2 a3 a4 b0 b1 b2 b3 b4:Int):(g190 (j+300) [a0,a1,a2,a3,a4] (List.replicate 5 1) [b0,b1,b2,b3,b4] (List.replicate 6 0) [] [] 0)=some (([0,1,2,3,4],true,()),(),()):=by kernel_rfl
theorem col5 (j:Nat) (a0 a1 a2 a3 a4 b0 b1 b2 b3 b4:Int):(g191 (j+300) [a0,a1,a2,a3,a4] (List.replicate 5 1) [b0,b1,b2,b3,b4] (List.replicate 6 0) [] [] 0 [0,1,2,3,4])=some (true,(),(),()):=by kernel_rfl
theorem qst {m:Nat} (hm:5000000000<=m) {n:Nat} (hn:n<=5) (h0:0<n) {f d:LI} (hf:f.length=n) (hd:d.length=n): ∃L,g190 m f (List.replicate n 1) d (List.replicate (n+1) 0) [] [] 0=some ((L,true,()),(),())/\g191 m f (List.replicate n 1) d (List.replicate (n+1) 0) [] [] 0 L=some (true,(),(),()):=by
 obtain⟨j,rfl⟩: ∃j,m=j+300:=⟨m-300,O⟩;have:n=1\/n=2\/n=3\/n=4\/n=5:=O;rcases this with rfl|rfl|rfl|rfl|rfl
 . match f,hf,d,hd with
   |[a0],_,[b0],_=>exact⟨_,piv1 j a0 b0,col1 j a0 b0⟩
 . match f,hf,d,hd with
   |[a0,a1],_,[b0,b1],_=>exact⟨_,piv2 j a0 a1 b0 b1,col2 j a0 a1 b0 b1⟩
 . match f,hf,d,hd with
   |[a0,a1,a2],_,[b0,b1,b2],_=>exact⟨_,piv3 j a0 a1 a2 b0 b1 b2,col3 j a0 a1 a2 b0 b1 b2⟩
 . match f,hf,d,hd with
   |[a0,a1,a2,a3],_,[b0,b1,b2,b3],_=>exact⟨_,piv4 j a0 a1 a2 a3 b0 b1 b2 b3,col4 j a0 a1 a2 a3 b0 b1 b2 b3⟩
 . match f,hf,d,hd with
   |[a0,a1,a2,a3,a4],_,[b0,b1,b2,b3,b4],_=>exact⟨_,piv5 j a0 a1 a2 a3 a4 b0 b1 b2 b3 b4,col5 j a0 a1 a2 a3 a4 b0 b1 b2 b3 b4⟩
section
variable {m:Nat} (hm:5000000000<=m) {n:Nat} {o:List Nat} {d:LI} (h:Dia n o d)
include hm h
theorem qss: ∀(N i:Nat) (seen:List Bool),n-i<N->i<=n->seen.length=n->(∀x,x<n->(seen.getD x false=true↔ ∃k,k<i/\o[k]? =some x))->g189L0 m N (nL o) seen (nL o) (n:Int) (i:Int)=some (.inr (.inl ())):=by
 intro N;induction N with
 |zero=>intro i s h;omega
 |succ N ih=>
  intro i s hi hi' hs hx;have hl:(nL o).length=n:=by rw[q20,h.ol]
  have hn:=h.hn;rw[g189L0,bQ];by_cases c:i<n
  . obtain⟨x,ex,lx,gx⟩:=h.lt c;have hw:wI ((i:Int)+1)=((i+1:Nat):Int):=wsucc O
    have hf:s.getD x false=false:=by
     cases hq:s.getD x false
     . rfl
     . obtain⟨k,hk,ek⟩:=(hx x lx).1 hq;have:=h.inj ek gx;omega
    rw[iP O,iP (by rw[hl];omega),tN,ex,bQ,iN' O,bQ,iN' (by rw[hl];omega),iP (by rw[hs];omega),Nat.zero_add,tN,hf,cond_false,iP (by rw[hs];omega),hw]
    refine ih (i+1) _ O O (by rw[List.length_set];exact hs) fun y hy=> ?_
    by_cases e:y=x
    . subst e;rw[q2e O];exact⟨fun _=>⟨i,O,gx⟩,fun _=>rfl⟩
    . rw[getD_set_ne (fun q=>e q.symm),hx y hy]
      constructor
      . rintro ⟨k,hk,ek⟩;exact⟨k,O,ek⟩
      . rintro ⟨k,hk,ek⟩
        refine⟨k,?_,ek⟩;rcases Nat.lt_or_ge k i with q|q
        . exact q
        . have:k=i:=O;subst this;rw[gx]at ek;exact absurd (Option.some.inj ek).symm e
  . rw[iN' O]
theorem isPerm:g189 m (nL o)=some (true,(),()):=by
 have hl:(nL o).length=n:=by rw[q20,h.ol]
 have hn:=h.hn
 have:=qss hm h m 0 (List.replicate n false) O O (by simp) (fun x hx=>by
  rw[Xc hx];exact⟨fun q=>(Bool.noConfusion q),fun⟨k,hk,_⟩=>absurd hk O⟩)
 rw[nZ]at this;rw[g189,hl,iP O,tN,this];rfl
theorem fin_d {x:Int} (hx:x∈tabD):g47 m x=some (true,(),()):=by
 obtain⟨j,rfl⟩: ∃j,m=j+300:=⟨m-300,O⟩;exact of_map (qtn j) hx
theorem qvc {x:Int} (hx:x∈tabD):g45 m x=some (1,(),()):=by
 obtain⟨j,rfl⟩: ∃j,m=j+300:=⟨m-300,O⟩;exact of_map (qt6 j) hx
theorem of_d {x:Int} (hx:x∈tabD): ∃y,g112 m x=some y:=by
 obtain⟨j,rfl⟩: ∃j,m=j+300:=⟨m-300,O⟩;exact Option.isSome_iff_exists.1 (List.all_eq_true.1 (qv1 j) x hx)
theorem qt7 (A:List LI) (B C:Int): ∀(N i:Nat),n-i<N->i<=n->g104L1 m N (nL o) (List.replicate n 1) d (List.replicate (n+1) 0) [] [] 0 A B C d (n:Int) (i:Int)=some (.inr (.inl ((nL o,List.replicate n 1,d,List.replicate (n+1) 0,[],[],0,()),A,B,C,()))):=by
 intro N;induction N with
 |zero=>intro i h;omega
 |succ N ih=>
  intro i hi hi';have hn:=h.hn;have hd:=h.len;rw[g104L1,bQ];by_cases c:i<n
  . have hw:wI ((i:Int)+1)=((i+1:Nat):Int):=wsucc O;rw[iP O,iP O,tN,fin_d hm h (h.dm c),bS,hw];exact ih (i+1) O O
  . rw[iN' O]
theorem qsq (N:Nat) (A:List LI) (B C:Int):g104L1 m (N+1) (nL o) (List.replicate n 1) d (List.replicate (n+1) 0) [] [] 0 A B C [] 0 0=some (.inr (.inl ((nL o,List.replicate n 1,d,List.replicate (n+1) 0,[],[],0,()),A,B,C,()))):=by
 rw[g104L1,bQ,iN' O]
theorem qsw:g104L0 m m (nL o) (List.replicate n 1) d (List.replicate (n+1) 0) [] [] 0 [[],d] 2 0=some (.inr (.inl ((nL o,List.replicate n 1,d,List.replicate (n+1) 0,[],[],0,()),()))):=by
 obtain⟨k,rfl⟩: ∃k,m=k+3:=⟨m-3,O⟩;have hn:=h.hn;have e1:=qt7 hm h [[],d] 2 1 (k+3) 0 O O;have e0:=qsq hm h (k+2) [[],d] 2 0;rw[nZ,<-h.len,<-show(d.length:Int)=((List.length d:Nat):Int)from rfl]at e1
 rw[<-h.len]at e0;rw[<-h.len];have w1:wI ((0:Int)+1)=1:=by decide
 have w2:wI ((1:Int)+1)=2:=by decide
 rw[show k+3=(k+2)+1 from rfl,g104L0,bQ,iP O,iP (by show _/\_<((2:Nat):Int);omega)]
 show(Option.bind (g104L1 (k+3) (k+3) _ _ _ _ _ _ _ _ _ _ [] 0 0) _)=_
 rw[e0,bS];dsimp only;rw[w1,g104L0,bQ,iP O,iP (by show _/\_<((2:Nat):Int);omega)]
 show(Option.bind (g104L1 (k+3) (k+3) _ _ _ _ _ _ _ _ _ _ d (d.length:Int) 0) _)=_
 rw[e1,bS];dsimp only;rw[w2,g104L0,bQ,iN' O]
theorem qur: ∀(N i:Nat) (out:List (List (Bool×(Bool×LI)×Int))),n-i<N->i<=n->out.length=i->(∀x∈out,x.length=1)-> ∃D:List (List (Bool×(Bool×LI)×Int)),D.length=n/\(∀x∈D,x.length=1)/\g192L0 m N (nL o) (List.replicate n 1) d (List.replicate (n+1) 0) [] [] 0 out (i:Int) (List.replicate n 1) (n:Int) (i:Int)=some (.inl (D,())):=by
 intro N;induction N with
 |zero=>intro i out h;omega
 |succ N ih=>
  intro i out hi hi' hl hx;have hn:=h.hn;have hd:=h.len;rw[g192L0,bQ];by_cases c:i<n
  . have hw:wI ((i:Int)+1)=((i+1:Nat):Int):=wsucc O;obtain⟨y,ey⟩:=of_d hm h (h.dm c);obtain⟨k,rfl⟩: ∃k,m=k+2:=⟨m-2,O⟩;have w1:wI (wI (2*1)-1)=1:=by decide
    have w2:wI ((0:Int)+1)=1:=by decide
    rw[iP O,iP (by rw[List.length_replicate];omega),tN,Xc c,w1,show k+2=(k+1)+1 from rfl,g192L1,bQ,iP (by decide),iP O,tN,ey,bS,iP (by simp),w2,g192L1,bQ,iN' (by decide),bS]
    dsimp only;rw[iP ⟨by show 0<1;omega,by show _+1<=_;omega⟩,hw]
    refine ih (i+1) _ O O (by rw[List.length_append];show _+1=_;omega) fun x hx'=> ?_
    rcases List.mem_append.1 hx' with q|q
    . exact hx x q
    . rw[List.mem_singleton.1 q];rfl
  . have:i=n:=O;rw[iN' O];exact⟨out,O,hx,rfl⟩
omit h in
theorem qsu {D:List (List (Bool×(Bool×LI)×Int))} (hD:D.length<=5) (hx: ∀x∈D,x.length=1): ∀(N i:Nat),D.length-i<N->i<=D.length->g104L2 m N D (D.length:Int) (i:Int)=some (.inr (.inl ())):=by
 intro N;induction N with
 |zero=>intro i h;omega
 |succ N ih=>
  intro i hi hi';rw[g104L2,bQ];by_cases c:i<D.length
  . have hw:wI ((i:Int)+1)=((i+1:Nat):Int):=wsucc O
    have hm':D.getD i []∈D:=by
     have:D.getD i []=D[i]:=by simp[List.getD,c]
     rw[this];exact List.getElem_mem c
    rw[iP O,iP O,tN,hx _ hm',hw,show((((1:Nat):Int)==3)=false)from by decide,cond_false]
    exact ih (i+1) O O
  . rw[iN' O]
theorem qsn (h0:0<n):g104 m (nL o) (List.replicate n 1) d (List.replicate (n+1) 0) [] [] 0=some (0,(),()):=by
 have hl:(nL o).length=n:=by rw[q20,h.ol]
 have hn:=h.hn;obtain⟨L,e1,e2⟩:=qst hm hn h0 hl h.len;obtain⟨D,d1,d2,d3⟩:=qur hm h m 0 [] O O rfl (fun x hx=>by cases hx)
 have d4:=qsu hm (D:=D) O d2 m 0 O O;rw[nZ]at d3 d4;have hw:wI ((n:Int)+1)=((n+1:Nat):Int):=wsucc O;rw[g104,bQ,hl,iN' O,isPerm hm h,bS];dsimp only;rw[Bool.not_true,cond_false,hw,List.length_replicate,bif_ne,iP rfl,bif_ne,iP rfl,e1,bS];dsimp only;rw[Bool.not_true,cond_false,bQ,iN' (by decide),e2,bS]
 dsimp only;rw[Bool.not_true,cond_false,qsw hm h,bS];dsimp only;rw[g192,List.length_replicate,d3,bS];dsimp only;rw[bS];dsimp only;rw[d4,bS]
end
end Go.Vs.F
