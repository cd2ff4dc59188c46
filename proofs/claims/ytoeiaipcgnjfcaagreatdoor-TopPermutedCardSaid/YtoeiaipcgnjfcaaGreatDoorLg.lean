import Derived.Test.YtoeiaipcgnjfcaaGreatDoorLf
set_option linter.unusedVariables false
set_option linter.unusedSimpArgs false
set_option linter.unusedSectionVars false
set_option linter.defProp false
set_option maxRecDepth 100000
namespace Go.Vs.F
section
variable {R C:Nat} {S I V:LI}
def qpt {m:Nat} (hm:3000000<m) (h:MV R C S I V) {rows cols row col:LI} (pr:mr rows R row) (pc:mr cols C col) (rr:pE rows R) (rc:pE cols C) (hr:rows.length<=200) (hc:cols.length<=200)
 {es:List aS} (he:es=((ents S I V C 0).filter (fc row col)).map (ux row col)):
 Pc m (R:Int) (C:Int) S I V rows cols row col=some (((rows.length:Int),(cols.length:Int),br es rows.length cols.length,a7 es rows.length cols.length,bo es rows.length cols.length,()),(),(),(),(),(),()):=by
 subst he;obtain⟨s1,s2,s3⟩:=Vc h pr pc rr rc;have hl:=h.len
 have hx: ∀x∈ents S I V C 0,(0<=x.1/\x.1<(row.length:Int))/\(0<=x.2.1/\x.2.1<(col.length:Int)):=λx hx=>by
  obtain⟨a,b,_⟩:=Y3 h.ents x hx;have:=pr.len;have:=pc.len;omega
 have e1:=q5k m rows cols row col 0 0 [] [] [] O hx m 0 O O;simp only[sk,BZ,xT,nZ]at e1;rw[Pc,SB O h.ok h.vl];simp only[bS,e1];rw[WX s1 s2 hr hc O O];rfl
def qdf {m:Nat} (hm:3000000<m) (h:MV R R S I V) {rows:LI} (hl:rows.length=R) (hR:pE rows R) (hD:Im rows):
 ∃es,bw R R es/\cG es/\es.length<=10000/\(∀x,x∈es↔Sel (ents S I V R 0) rows rows x)/\
  Pk m (R:Int) (R:Int) S I V rows rows=some ((((R:Int),(R:Int),br es R R,a7 es R R,bo es R R,()),0,()),(),(),(),()):=by
 have hsz:=h.ok.sz;have hrz:=h.ok.rz;have hv:=h.vl;have hs:=h.sl;rcases qks (m:=m) O rows (N:=R) O O with⟨row,g1,pr,_,_⟩|⟨_,n⟩|⟨_,_,n⟩
 . obtain⟨s1,s2,s3⟩:=Vc h pr pr hR hR;rw[hl]at s1;refine⟨_,s1,s2,s3,λx=>VU h pr pr hR hR x,?_⟩
   rw[Pk,oR O O O O O,h.chk];have l1:(rows.length:Int)=(R:Int):=O;have e:=qpt hm h pr pr hR hR O O rfl;rw[hl]at e;simp only[bS,aE,if_true,l1,g1,e]
 . exact absurd hR n
 . exact absurd hD n
def YL (m:Nat) (r c:Int) (S I V:LI) (b0 b1:Int) (b2 b3 b4:LI) {es:List aS} (hl:es.length<=100000): ∀(n k:Nat),es.length-k<n->k<=es.length->
 iY m n r c S I V b0 b1 b2 b3 b4 ((es.take k).filter fe) es (es.length:Int) (k:Int)=some (.inl ((r,c,S,I,V,()),(b0,b1,b2,b3,b4,()),es.filter fe,()))
 |0,k,h,_=>absurd h (zA _)
 |n+1,k,h,hk0=>by
  rw[iY];by_cases hk:k<es.length
  . have h1:((k:Int)<(es.length:Int)):=O;have c1:(0:Int)<=(k:Int)/\(k:Int)<(es.length:Int):=O;have hlen:=ZR (es:=es) (p:=fe) (k:=k);have c2: ∀y:aS,((es.take k).filter fe).length+([y]:List aS).length<=1073741824:=λy=>by show _+1<=_;omega
    have i1:=YL m r c S I V b0 b1 b2 b3 b4 hl n (k+1) O O;rw[q6i hk]at i1;simp only[bQ,h1,if_true,c1,c2,and_self,tN,zG,wQ,aB (show k<4611686018427387904 by omega)]
    by_cases hp:(es.getD k zE).1>=(es.getD k zE).2.1
    . have hp':fe (es.getD k zE)=true:=decide_eq_true hp;rw[iP hp']at i1;rw[iP hp];exact i1
    . have hp': ¬fe (es.getD k zE)=true:=λh=>hp (of_decide_eq_true h)
      rw[ao hp',jg]at i1;rw[ao hp];exact i1
  . have h1: ¬((k:Int)<(es.length:Int)):=O;simp only[bQ,h1,if_false];rw[sj O]
def qkx {m:Nat} (hm:3000000<m) (h:MV R C S I V):
 Bq m (R:Int) (C:Int) S I V=some ((((R:Int),(C:Int),br ((ents S I V C 0).filter fe) R C,a7 ((ents S I V C 0).filter fe) R C,bo ((ents S I V C 0).filter fe) R C,()),0,()),(),()):=by
 obtain⟨hE,hD,hfl⟩:=h.filter fe;have hsz:=h.ok.sz;have hl:=h.len;have hv:=h.vl;have hs:=h.sl;have i1:=YL m (R:Int) (C:Int) S I V 0 0 [] [] [] (es:=ents S I V C 0) O m 0 O O;simp only[sk,BZ,nZ]at i1;rw[Bq,oR O O O O O,h.chk];simp only[bS,aE,if_true];rw[SB O h.ok h.vl];simp only[bS,i1];rw[WX hE hD h.ok.rz h.ok.cz O O];rfl
def qd7 {m:Nat} (hm:3000000<m) (h:MV R C S I V):A7 m (R:Int) (C:Int) S I V=some (ents S I V C 0,(),()):=by
 have hsz:=h.ok.sz;have hl:=h.len;have hv:=h.vl;have hs:=h.sl;rw[A7,oR O O O O O,h.chk];simp only[bS,aE,if_true];rw[SB O h.ok h.vl];rfl
def QJ {es:List aS} (hE:bw R C es) (hr:R<=100) (hc:C<=100):MV R C (br es R C) (a7 es R C) (bo es R C):=by
 have:C*R<=100*100:=pN hc hr;exact⟨Vh O O O,JS es R C,qq9 hE O O O⟩
def WY {es:List aS} (hE:bw R C es) (hD:cG es) (x:aS):x∈ents (br es R C) (a7 es R C) (bo es R C) C 0↔x∈es:=by
 rw[q6b];exact(Rb hE hD).mem_iff.symm
end
end Go.Vs.F
set_option maxRecDepth 100000
namespace Go.Vs.F
def gT (N:Nat) (T:Nat->Nat->Bool):List (List Bool):=(List.range N).map λv=>(List.range N).map λw=>T v w
def bU (N:Nat) (T:Nat->Bool):LI:=((List.range N).filter T).map λw:Nat=>(w:Int)
def dH (N:Nat) (T:Nat->Nat->Bool):List LI:=(List.range N).map λv=>bU N (T v)
def PR {N:Nat} {T:Nat->Nat->Bool}:(gT N T).length=N:=by simp[gT]
def IV {N v:Nat} {T:Nat->Nat->Bool} (h:v<N):(gT N T).getD v []=(List.range N).map λw=>T v w:=by
 simp[gT,List.getD,h]
def FT {N:Nat} {T T':Nat->Nat->Bool} (h: ∀v w,v<N->w<N->T v w=T' v w):gT N T=gT N T':=
 tl λv hv=>tl λw hw=>h v w (pM.1 hv) (pM.1 hw)
def Js {N:Nat} {T:Nat->Nat->Bool}:(dH N T).length=N:=by simp[dH]
def I7 {N v:Nat} {T:Nat->Nat->Bool} (h:v<N):(dH N T).getD v []=bU N (T v):=by
 simp[dH,List.getD,h]
def ql0 {N:Nat} {T T':Nat->Bool} (h: ∀w,w<N->T w=T' w):bU N T=bU N T':=by
 unfold bU;rw[List.filter_congr λw hw=>h w (pM.1 hw)]
def YH {N:Nat} {T T':Nat->Nat->Bool} (h: ∀v w,v<N->w<N->T v w=T' v w):dH N T=dH N T':=
 tl λv hv=>ql0 λw hw=>h v w (pM.1 hv) hw
def xz (T:Nat->Nat->Bool) (a b:Nat) (i j:Nat):Bool:=if i=a/\j=b then true else T i j
def UJ {N a b:Nat} {T:Nat->Nat->Bool} (ha:a<N) (hb:b<N):(gT N T).set a (((gT N T).getD a []).set b true)=gT N (xz T a b):=by
 rw[IV ha];refine xv (by simp[gT]) λi h1 h2=> ?_
 have hi:i<N:=by simpa [gT]using h2
 rw[HK];split
 . rename_i e;subst e;refine xv (by simp[gT]) λj h3 h4=> ?_
   have hj:j<N:=by simpa [gT]using h4
   simp only[gT,nw,Pt,HK,xz]
   grind
 . rename_i e;simp only[gT,nw,Pt];refine tl λj hj=> ?_
   simp only[xz];grind
section
variable {m:Nat}
def VA {N a b:Nat} {T:Nat->Nat->Bool} (ha:a<N) (hb:b<N):
 vU m (gT N T) (a:Int) (b:Int)=some ((),gT N (if a=b then T else xz (xz T a b) b a),(),(),()):=by
 rw[vU];by_cases e:a=b
 . subst e;simp
 . have h1: ¬(a:Int)=(b:Int):=O;have l1:((gT N T).length:Int)=(N:Int):=by rw[PR]
   have l2:(((gT N T).getD a []).length:Int)=(N:Int):=by rw[IV ha];simp
   have c1:(0:Int)<=(a:Int)/\(a:Int)<(N:Int):=O;have c2:(0:Int)<=(b:Int)/\(b:Int)<(N:Int):=O;simp only[aE,h1,if_false,tN,l1,l2,c1,c2,if_true,UJ ha hb,and_self];have l3:(((gT N (xz T a b)).getD b []).length:Int)=(N:Int):=by rw[IV hb];simp
   simp only[l3,c1,if_true,UJ hb ha,e,if_false,and_self]
def Zs (N:Nat) (hN:N<=1000): ∀(n k:Nat) (s:List (List Bool)),N-k<n->k<=N->s.length=N->(∀i,i<k->s.getD i []=List.replicate N false)->
 lB m n (N:Int) s (N:Int) (k:Int)=some (.inl (gT N (λ_ _=>false),()))
 |0,k,s,h,_,_,_=>absurd h (zA _)
 |n+1,k,s,h,hk0,hs,hg=>by
  rw[lB];by_cases hk:k<N
  . have h1:((k:Int)<(N:Int)):=O;have c1:(0:Int)<=(k:Int)/\(k:Int)<(s.length:Int):=O;have c2:(0:Int)<=(N:Int)/\(N:Int)<=(N:Int)/\(N:Int)<=1073741824:=O;simp only[bQ,h1,if_true,c1,c2,and_self,tN,wQ,aB (show k<4611686018427387904 by omega)]
    refine Zs N hN n (k+1) _ O O (by simpa using hs) λi hi=> ?_
    rw[List.getD_eq_getElem?_getD,List.getElem?_set];by_cases e:k=i
    . subst e;simp[hs,hk]
    . rw[ao e,<-List.getD_eq_getElem?_getD];exact hg i O
  . have h1: ¬((k:Int)<(N:Int)):=O;simp only[bQ,h1,if_false]
    have:s=gT N (λ_ _=>false):=by
     refine xv (by simp[gT,hs]) λi h1 h2=> ?_
     have:=hg i O;rw[List.getD_eq_getElem?_getD,List.getElem?_eq_getElem h1]at this;simp only[pP]at this;rw[this];refine xv (by simp[gT]) λj h3 h4=>by simp[gT]
    rw[this]
def q93 {N:Nat} (hN:N<=1000) (hm:1000<m):vV m (N:Int)=some (gT N (λ_ _=>false),(),()):=by
 rw[vV,iP O];simp only[tN,nX];have:=Zs (m:=m) N hN m 0 (List.replicate N []) O O (by simp) (λi hi=>absurd hi (zA _))
 rw[nZ]at this;rw[this];rfl
def VL {row:List Bool} (hl:row.length<=1000): ∀(n k:Nat),row.length-k<n->k<=row.length->
 iI m n (((List.range k).filter λw=>row.getD w false).map λw:Nat=>(w:Int)) row (row.length:Int) (k:Int)=some (.inl (((List.range row.length).filter λw=>row.getD w false).map λw:Nat=>(w:Int),()))
 |0,k,h,_=>absurd h (zA _)
 |n+1,k,h,hk0=>by
  rw[iI];by_cases hk:k<row.length
  . have h1:((k:Int)<(row.length:Int)):=O;have c1:(0:Int)<=(k:Int)/\(k:Int)<(row.length:Int):=O
    have hlen:(((List.range k).filter λw=>row.getD w false).map λw:Nat=>(w:Int)).length<=k:=by
     rw[zy];exact zf (Fz _ _) (by simp)
    have c2:(((List.range k).filter λw=>row.getD w false).map λw:Nat=>(w:Int)).length+([(k:Int)]:LI).length<=1073741824:=by show _+1<=_;omega
    have ih:=VL hl n (k+1) O O;rw[Fu,List.filter_append,xp]at ih;simp only[bQ,h1,if_true,c1,c2,and_self,tN,wQ,aB (show k<4611686018427387904 by omega)]
    cases hb:row.getD k false with
    |true=>
     simp only[cond_true];rw[<-ih];simp only[tR,hb,if_true,BZ,nV,xT]
    |false=>
     simp only[cond_false];rw[<-ih];simp only[tR,hb,tM,if_false,BZ,xT,jg]
  . have h1: ¬((k:Int)<(row.length:Int)):=O;have:k=row.length:=O;subst this;simp only[bQ,h1,if_false]
def qsv {N v:Nat} {T:Nat->Nat->Bool} (hN:N<=1000) (hm:1000<m) (hv:v<N):zg m (gT N T) (v:Int)=some (bU N (T v),(),(),()):=by
 have hl:((gT N T).getD v []).length=N:=by rw[IV hv];simp
 have hc:(0:Int)<=(v:Int)/\(v:Int)<((gT N T).length:Int):=by rw[PR];omega
 rw[zg,iP hc];have:=VL (m:=m) (row:=(gT N T).getD v []) O m 0 O O;simp only[List.range_zero,BZ,xT,nZ]at this;simp only[tN,this,bS];congr 2;unfold bU;rw[hl];congr 1;refine List.filter_congr λw hw=> ?_
 have hw:=pM.1 hw;rw[IV hv];simp[List.getD,hw]
def WO {N:Nat} {T:Nat->Nat->Bool} (hN:N<=1000) (hm:1000<m) (t2:List LI): ∀(n k:Nat) (g:List LI),N-k<n->k<=N->g.length=N->(∀i,i<k->g.getD i []=bU N (T i))->
 lA m n (gT N T) t2 g (N:Int) (k:Int)=some (.inl ((t2,()),(dH N T,()),()))
 |0,k,g,h,_,_,_=>absurd h (zA _)
 |n+1,k,g,h,hk0,hs,hg=>by
  rw[lA];by_cases hk:k<N
  . have h1:((k:Int)<(N:Int)):=O;have c1:(0:Int)<=(k:Int)/\(k:Int)<(g.length:Int):=O;simp only[bQ,h1,if_true,qsv hN hm hk,bS,c1,and_self,tN,wQ,aB (show k<4611686018427387904 by omega)]
    refine WO hN hm t2 n (k+1) _ O O (by simpa using hs) λi hi=> ?_
    rw[List.getD_eq_getElem?_getD,List.getElem?_set];by_cases e:k=i
    . subst e;simp[hs,hk]
    . rw[ao e,<-List.getD_eq_getElem?_getD];exact hg i O
  . have h1: ¬((k:Int)<(N:Int)):=O;simp only[bQ,h1,if_false]
    have:g=dH N T:=by
     refine xv (by simp[dH,hs]) λi h1 h2=> ?_
     have:=hg i O;rw[List.getD_eq_getElem?_getD,List.getElem?_eq_getElem h1]at this;simp only[pP]at this;rw[this];simp[dH]
    rw[this]
def Wl {N:Nat} {T:Nat->Nat->Bool} (hN:N<=1000) (hm:1000<m):vT m (gT N T)=some ((dH N T,()),(),()):=by
 rw[vT,PR,iP O];have:=WO (T:=T) hN hm [] m 0 (List.replicate ((N:Int).toNat) []) O O (by simp) (λi hi=>absurd hi (zA _))
 rw[nZ]at this;rw[this];rfl
def eJ (e:aS) (v w:Nat):Bool:=decide (e.1=(v:Int)/\e.2.1=(w:Int))||decide (e.1=(w:Int)/\e.2.1=(v:Int))
def eT (es:List aS) (v w:Nat):Bool:=decide (v≠w)&&es.any λe=>eJ e v w
def Fo {N:Nat} (t2:List LI) {es:List aS} (hl:es.length<=100000) (hE:bw N N es): ∀(n k:Nat),es.length-k<n->k<=es.length->
 lL m n t2 (gT N (eT (es.take k))) es (es.length:Int) (k:Int)=some (.inl ((t2,()),gT N (eT es),()))
 |0,k,h,_=>absurd h (zA _)
 |n+1,k,h,hk0=>by
  rw[lL];by_cases hk:k<es.length
  . have h1:((k:Int)<(es.length:Int)):=O;have c1:(0:Int)<=(k:Int)/\(k:Int)<(es.length:Int):=O;obtain⟨⟨a1,a2⟩,⟨b1,b2⟩,_⟩:=hE k hk;obtain⟨a,ha⟩: ∃a:Nat,(es.getD k (0,(0,0))).1=(a:Int):=⟨((es.getD k (0,(0,0))).1).toNat,O⟩;obtain⟨b,hb⟩: ∃b:Nat,(es.getD k (0,(0,0))).2.1=(b:Int):=⟨((es.getD k (0,(0,0))).2.1).toNat,O⟩;have ha':a<N:=O;have hb':b<N:=O;simp only[bQ,h1,if_true,c1,and_self,tN,zG,ha,hb,VA ha' hb',bS,wQ,aB (show k<4611686018427387904 by omega)]
    rw[<-Fo t2 hl hE n (k+1) O O];congr 1;refine FT λv w hv hw=> ?_
    have hz:es.getD k zE=es.getD k (0,(0,0)):=rfl;rw[show eT (es.take (k+1)) v w=(decide (v≠w)&&((es.take k).any (λe=>eJ e v w)||eJ (es.getD k zE) v w)) by rw[eT,Ju hk];simp]
    rw[eJ,hz,ha,hb];by_cases e:a=b
    . rw[iP e];subst e;simp only[eT]
      grind
    . rw[ao e];simp only[xz,eT]
      grind
  . have h1: ¬((k:Int)<(es.length:Int)):=O;simp only[bQ,h1,if_false];rw[sj O]
def M4 {N:Nat} {S I V:LI} (hm:3000000<m) (h:MV N N S I V) (hN:N<=200):Bo m (N:Int) (N:Int) S I V=some (((dH N (eT (ents S I V N 0)),()),0,()),(),()):=by
 have hsz:=h.ok.sz;have hl:=h.len;have hv:=h.vl;have hs:=h.sl;rw[Bo,oR O O O O O,h.chk];simp only[bS,aE,if_true,q93 (show N<=1000 by omega) (show 1000<m by omega),qd7 hm h]
 have:=Fo (m:=m) (N:=N) [] (es:=ents S I V N 0) O h.ents m 0 O O;simp only[sk,nZ]at this;rw[show gT N (eT [])=gT N (λ_ _=>false)from FT λv w _ _=>by simp[eT]]at this
 simp only[this,bS,Wl (show N<=1000 by omega) (show 1000<m by omega)]
end
end Go.Vs.F
set_option maxRecDepth 100000
namespace Go.Vs.F
def WI {N:Nat} {T:Nat->Bool} {x:Int}:x∈bU N T↔ ∃w:Nat,w<N/\T w=true/\x=(w:Int):=by
 unfold bU;simp only[zV,pH,pM];exact⟨λ⟨w,⟨a,b⟩,c⟩=>⟨w,a,b,c.symm⟩,λ⟨w,a,b,c⟩=>⟨w,⟨a,b⟩,c.symm⟩⟩
def J5 {N:Nat} {T:Nat->Bool}:(bU N T).length<=N:=by
 unfold bU;rw[zy];exact zf (Fz _ _) (by simp)
def WQ {N:Nat} {T:Nat->Bool}: ∀i j,i<j->j<(bU N T).length->(bU N T).getD i 0<(bU N T).getD j 0:=by
 have h:(bU N T).Pairwise (· < ·):=by
  unfold bU;rw[List.pairwise_map];exact(List.pairwise_lt_range.filter _).imp λ{a b} h=>O
 intro i j hij hj;have:=BX.1 h i j O hj hij;simpa [List.getD,hj,Nat.lt_trans hij hj]using this
def RU {l:LI} {x:Int} (h:x∈l): ∃i,i<l.length/\l.getD i 0=x:=by
 obtain⟨i,hi,e⟩:=IK.1 h;exact⟨i,hi,by rw[List.getD_eq_getElem?_getD,List.getElem?_eq_getElem hi];exact e⟩
def JH {N:Nat} {T:Nat->Bool} {i:Nat} (h:i<(bU N T).length): ∃w:Nat,w<N/\T w=true/\(bU N T).getD i 0=(w:Int):=WI.1 (Qx h)
section
variable {m:Nat}
def xl {xs:LI} {t a:Int} (hl:xs.length<=100000) (ha: ∀i j,i<j->j<xs.length->xs.getD i 0<xs.getD j 0): ∀(n i j:Nat),j-i<n->i<=j->j<=xs.length->(∀k,k<i->xs.getD k 0<t)->(∀k,j<=k->k<xs.length->t<=xs.getD k 0)->
 ∃r:Nat,iX m n xs t a (i:Int) (j:Int)=some (.inl (xs,t,a,(r:Int),()))/\r<=xs.length/\(∀k,k<r->xs.getD k 0<t)/\ ∀k,r<=k->k<xs.length->t<=xs.getD k 0
 |0,i,j,h,_,_,_,_=>O
 |n+1,i,j,h,hij,hj,h1,h2=>by
  rw[iX,JD O,bQ];by_cases hlt:i<j
  . have c1:(0:Int)<=(((i+j)/2:Nat):Int)/\(((i+j)/2:Nat):Int)<(xs.length:Int):=O;rw[iP O,iP c1,tN,qu];simp only[nG,bS,aE,if_true];by_cases hp:xs.getD ((i+j)/2) 0<t
    . rw[decide_eq_true hp];simp only[cond_true];rw[show wI ((((i+j)/2:Nat):Int)+1)=(((i+j)/2+1:Nat):Int)from aB O]
      refine xl hl ha n _ _ O O hj (λk hk=> ?_) h2
      by_cases e:k=(i+j)/2
      . subst e;exact hp
      . have:=ha k ((i+j)/2) O O;omega
    . rw[decide_eq_false hp];simp only[cond_false];refine xl hl ha n _ _ O O O h1 (λk hk hkl=> ?_)
      by_cases e:k=(i+j)/2
      . subst e;omega
      . have:=ha ((i+j)/2) k O hkl;omega
  . rw[ao O];have:i=j:=O;subst this;exact⟨i,rfl,hj,h1,h2⟩
def M6 {xs:LI} {t:Int} (hl:xs.length<=100000) (hm:100001<m) (ha: ∀i j,i<j->j<xs.length->xs.getD i 0<xs.getD j 0): ∃i,Bb m xs t=some ((i,decide (t∈xs),()),(),(),()):=by
 obtain⟨r,e,h1,h2,h3⟩:=xl (m:=m) (t:=t) (a:=(xs.length:Int)) hl ha m 0 xs.length O O (zF _) (λk hk=>absurd hk (zA _)) (λk a b=>O)
 rw[nZ]at e;rw[Bb,e,bS];dsimp only
 have hmem:t∈xs↔r<xs.length/\xs.getD r 0=t:=by
  constructor
  . intro h;obtain⟨i,hi,ei⟩:=RU h;rcases IJ i r with q|q|q
    . have:=h2 i q;omega
    . subst q;exact⟨hi,ei⟩
    . have:=h3 r (zF _) O;have:=ha r i q hi;omega
  . rintro ⟨a,b⟩;exact b▸Qx a
 rw[bQ];by_cases hr:r<xs.length
 . have c1:(0:Int)<=(r:Int)/\(r:Int)<(xs.length:Int):=O;rw[iP O,iP c1,tN,aF];by_cases ex:xs.getD r 0=t
   . rw[iP ex,decide_eq_true (hmem.2 ⟨hr,ex⟩)];exact⟨_,rfl⟩
   . rw[ao ex,iP c1,zR,bS,aE,iP rfl,decide_eq_false (λh=>ex (hmem.1 h).2)];exact⟨_,rfl⟩
 . rw[ao O,decide_eq_false (λh=>hr (hmem.1 h).1)];exact⟨_,rfl⟩
section
variable {N:Nat} (hN:N<=200) (hm:3000000<m) {T:Nat->Nat->Bool}
include hN hm
theorem RI {v w:Nat} (hv:v<N) (hw:w<N):sS m (dH N T) (v:Int) (w:Int)=some (T v w,(),(),(),()):=by
 have hc:(0:Int)<=(v:Int)/\(v:Int)<((dH N T).length:Int):=by rw[Js];omega
 have hl:=J5 (N:=N) (T:=T v);obtain⟨i,e⟩:=M6 (m:=m) (xs:=bU N (T v)) (t:=(w:Int)) O O WQ;rw[sS,iP hc,tN,I7 hv,e,bS]
 have:decide ((w:Int)∈bU N (T v))=T v w:=by
  rw[xO,decide_eq_true_iff,WI];exact⟨λ⟨w',a,b,c⟩=>by rwa [show w=w' by omega],λh=>⟨w,hw,h,rfl⟩⟩
 rw[this]
theorem q5f {f:Nat->Bool}: ∀(n k:Nat) (last:Int),(bU N f).length-k<n->k<=(bU N f).length->(k<(bU N f).length->last<(bU N f).getD k 0)->
 kU m n (N:Int) last (bU N f) ((bU N f).length:Int) (k:Int)=some (.inr (.inl ()))
 |0,k,_,h,_,_=>absurd h (zA _)
 |n+1,k,last,h,hk0,hlast=>by
  have hl:=J5 (N:=N) (T:=f);rw[kU,bQ];by_cases hk:k<(bU N f).length
  . obtain⟨w,a,b,c⟩:=JH hk;have h1:=hlast hk;rw[iP O,iP O,tN,bQ,ao O,bQ,ao O,show wI ((k:Int)+1)=((k+1:Nat):Int)from aB O]
    exact q5f n (k+1) _ O O λhk'=>WQ k (k+1) O hk'
  . rw[ao O]
theorem qdr {f:Nat->Bool}:yI m (bU N f) (N:Int)=some (true,(),(),()):=by
 have hl:=J5 (N:=N) (T:=f)
 have e:=q5f hN hm (f:=f) m 0 (-1) O O λhk=>by
  obtain⟨w,a,b,c⟩:=JH hk;omega
 rw[nZ]at e;rw[yI,e];rfl
theorem WK (hsym: ∀v w,v<N->w<N->T v w=T w v) {v:Nat} (hv:v<N) (g2:List LI) (a b:Int): ∀(n k:Nat),(bU N (T v)).length-k<n->k<=(bU N (T v)).length->
 k8 m n (dH N T) (v:Int) g2 a b (bU N (T v)) ((bU N (T v)).length:Int) (k:Int)=some (.inr (.inl ((dH N T,()),g2,a,b,())))
 |0,k,h,_=>absurd h (zA _)
 |n+1,k,h,hk0=>by
  have hl:=J5 (N:=N) (T:=T v);rw[k8,bQ];by_cases hk:k<(bU N (T v)).length
  . obtain⟨w,q1,q2,q3⟩:=JH hk;rw[iP O,iP O,tN,q3,RI hN hm q1 hv,bS,hsym w v q1 hv,q2,show wI ((k:Int)+1)=((k+1:Nat):Int)from aB O]
    exact WK hsym hv g2 a b n (k+1) O O
  . rw[ao O]
theorem WZ (hsym: ∀v w,v<N->w<N->T v w=T w v): ∀(n k:Nat),N-k<n->k<=N->
 k9 m n (dH N T) (dH N T) (N:Int) (k:Int)=some (.inr (.inl ()))
 |0,k,h,_=>absurd h (zA _)
 |n+1,k,h,hk0=>by
  rw[k9,bQ];by_cases hk:k<N
  . have hl:=J5 (N:=N) (T:=T k);have e:=WK hN hm hsym hk (dH N T) (N:Int) (k:Int) m 0 O O;rw[nZ]at e;rw[iP O,iP (by rw[Js];omega),tN,I7 hk,e,bS]
    dsimp only;rw[show wI ((k:Int)+1)=((k+1:Nat):Int)from aB O]
    exact WZ hsym n (k+1) O O
  . rw[ao O]
theorem WB (hirr: ∀v,v<N->T v v=false): ∀(n k:Nat),N-k<n->k<=N->
 ld m n (dH N T) (N:Int) (dH N T) (N:Int) (k:Int)=some (.inr (.inl ((dH N T,()),())))
 |0,k,h,_=>absurd h (zA _)
 |n+1,k,h,hk0=>by
  rw[ld,bQ];by_cases hk:k<N
  . rw[iP O,iP (by rw[Js];omega),tN,I7 hk,qdr hN hm,bS,RI hN hm hk hk,bS,hirr k hk,show wI ((k:Int)+1)=((k+1:Nat):Int)from aB O]
    exact WB hirr n (k+1) O O
  . rw[ao O]
theorem W9 (hsym: ∀v w,v<N->w<N->T v w=T w v) (hirr: ∀v,v<N->T v v=false):sT m (dH N T)=some (0,(),()):=by
 have e0:=WB hN hm hirr m 0 O O;have e1:=WZ hN hm hsym m 0 O O;rw[nZ]at e0 e1;rw[sT,Js,bQ,ao O,e0,bS];dsimp only;rw[Js,e1];rfl
end
def UM {g:List LI} {l:LI} (hl:l.length<=1000) (hr:pE l g.length): ∀(n k:Nat),l.length-k<n->k<=l.length->kT m n l ([g],0) (l.length:Int) (k:Int)=some (.inr (.inl ()))
 |0,k,h,_=>absurd h (zA _)
 |n+1,k,h,hk0=>by
  rw[kT,bQ];by_cases hk:k<l.length
  . have:=hr k hk;rw[iP O,iP O,tN,GY,GX];dsimp only;rw[bQ,iP O,bS];show(Option.bind (some (!decide (l.getD k 0<(g.length:Int)),((),(),()))) _)=_;rw[decide_eq_true O,bS];dsimp only;rw[show wI ((k:Int)+1)=((k+1:Nat):Int)from aB O]
    exact UM hl hr n (k+1) O O
  . rw[ao O]
def qv2 {g:List LI} {l:LI} (hm:3000000<m) (hl:l.length<=1000) (hr:pE l g.length):yY m l ([g],0)=some (false,(),(),()):=by
 have e:=UM (m:=m) hl hr m 0 O O;rw[nZ]at e;rw[yY,GS,e];rfl
def sC {l:LI} {i j:Nat} (hi:i<l.length) (hj:j<l.length):((l.set i (l.getD j 0)).set j (l.getD i 0)).Perm l:=by
 have:=List.set_set_perm (as:=l) hi hj;rw[List.getD_eq_getElem?_getD,List.getElem?_eq_getElem hj,List.getD_eq_getElem?_getD,List.getElem?_eq_getElem hi];simpa using this
def Vu {a b i:Nat}: ∀(n j:Nat) (l:LI),j-a<n->a<=j->j<l.length->l.length<=1000->
 ∃l',l'.Perm l/\lg m n l (a:Int) (b:Int) (i:Int) (j:Int)=some (.inl (l',(a:Int),(b:Int),(i:Int),()))
 |0,j,l,h,_,_,_=>absurd h (zA _)
 |n+1,j,l,h,haj,hj,hl=>by
  rw[lg,bQ];by_cases hk:a<j
  . have w:wI ((j:Int)-1)=((j-1:Nat):Int):=mu O O;have c1:(0:Int)<=(j:Int)/\(j:Int)<(l.length:Int):=O;have c2:(0:Int)<=((j-1:Nat):Int)/\((j-1:Nat):Int)<(l.length:Int):=O;rw[iP O,iP c1,w,iP c2,qu];simp only[nG,bS,aE,if_true,zG,tN,c1,c2,zS,and_self,bQ];by_cases hp:l.getD j 0<l.getD (j-1) 0
    . rw[iP hp];obtain⟨l',p,e⟩:=Vu (a:=a) (b:=b) (i:=i) n (j-1) ((l.set j (l.getD (j-1) 0)).set (j-1) (l.getD j 0)) O O (by simp;omega) (by simpa using hl)
      exact⟨l',p.trans (sC O O),e⟩
    . rw[ao hp];exact⟨l,List.Perm.refl _,rfl⟩
  . rw[ao O];exact⟨l,List.Perm.refl _,rfl⟩
def VK {a b:Nat}: ∀(n i:Nat) (l:LI),b-i<n->a<=i->i<=b->b<=l.length->l.length<=1000->1000<m->
 ∃l',l'.Perm l/\iK m n l (a:Int) (b:Int) (i:Int)=some (.inl (l',()))
 |0,i,l,h,_,_,_,_,_=>absurd h (zA _)
 |n+1,i,l,h,hai,hib,hb,hl,hm=>by
  rw[iK,bQ];by_cases hk:i<b
  . obtain⟨l1,p1,e1⟩:=Vu (m:=m) (a:=a) (b:=b) (i:=i) m i l O hai O hl;obtain⟨l2,p2,e2⟩:=VK (a:=a) (b:=b) n (i+1) l1 O O O (by rw[p1.length_eq];omega) (by rw[p1.length_eq];omega) hm
    refine⟨l2,p2.trans p1,?_⟩;rw[iP O,e1,bS];dsimp only;rw[show wI ((i:Int)+1)=((i+1:Nat):Int)from aB O]
    exact e2
  . rw[ao O];exact⟨l,List.Perm.refl _,rfl⟩
def qky: ∀n:Nat,n<=12->(A5 m (wJ (n:Int))).isSome=true
 |0,_|1,_|2,_|3,_|4,_|5,_|6,_|7,_|8,_|9,_|10,_|11,_|12,_=>by kernel_rfl
 |n+13,h=>absurd h O
def qpv (n:Nat) (h:n<=12): ∃r,A5 m (wJ (n:Int))=some (r,(),()):=by
 obtain⟨⟨r,_,_⟩,e⟩:=NC.1 (qky (m:=m) n h);exact⟨r,e⟩
def qod {l:LI} (hl:l.length<=12) (hm:3000000<m): ∃l',l'.Perm l/\wY m l=some ((),(l',())):=by
 obtain⟨r,e⟩:=qpv (m:=m) l.length hl;obtain⟨q,rfl⟩: ∃q,m=q+1:=⟨m-1,O⟩;have w:wI ((l.length:Int)-0)=(l.length:Int):=by rw[Int.sub_zero,wQ,wi O O]
 rw[wY,e,bS,Hm,qH,w,bQ,iP O,G8];by_cases h0:l.length=0
 . have:l=[]:=pK.1 h0;subst this;refine⟨[],List.Perm.refl _,?_⟩;rw[iK,bQ,ao (by decide)]
   rfl
 . obtain⟨l',p,e1⟩:=VK (m:=q+1) (a:=0) (b:=l.length) (q+1) 1 l O O O O O O;refine⟨l',p,?_⟩;rw[show wI (0+1)=((1:Nat):Int)from rfl]
   rw[nZ]at e1;rw[e1];rfl
def ZB {l:LI} (hl:l.length<=1000) (hd:l.Nodup): ∀(n k:Nat),l.length-k<n->1<=k->k<=l.length->kS m n l (k:Int)=some (.inl (l,()))
 |0,k,h,_,_=>absurd h (zA _)
 |n+1,k,h,h1,hk0=>by
  rw[kS,bQ];by_cases hk:k<l.length
  . have w:wI ((k:Int)-1)=((k-1:Nat):Int):=mu O O
    have hne: ¬l.getD k 0=l.getD (k-1) 0:=λe=>by
     rw[List.getD_eq_getElem?_getD,List.getElem?_eq_getElem hk,List.getD_eq_getElem?_getD,List.getElem?_eq_getElem (show k-1<l.length by omega)]at e
     exact BX.1 hd (k-1) k O hk O (show l[k]=l[k-1]from e).symm
    rw[iP O,iP O,w,iP O];simp only[zG,tN,aF,hne,if_false];rw[show wI ((k:Int)+1)=((k+1:Nat):Int)from aB O]
    exact ZB hl hd n (k+1) O O O
  . rw[ao O]
def qq3 {l:LI} (hl:l.length<=12) (hm:3000000<m) (hd:l.Nodup):yX m l=some (false,(),()):=by
 obtain⟨l',p,e⟩:=qod hl hm;have hl':=p.length_eq
 have hc:yF m l'=some (l',(),()):=by
  rw[yF,bQ];by_cases h2:(l'.length:Int)<2
  . rw[iP h2]
  . have e2:=ZB (m:=m) (l:=l') O (p.nodup_iff.2 hd) m 1 O O O;rw[show((1:Nat):Int)=1 from rfl]at e2
    rw[ao h2,e2];rfl
 have c:([l].getD 0 []).length<=1073741824:=by show l.length<=_;omega
 rw[yX,GQ,bS];dsimp only;rw[GR,GP];dsimp only;rw[iP c,bS];show((Option.bind ((wY m l).bind _) _):Option _)=_;rw[e];simp only[bS];rw[hc];simp only[bS];rw[decide_eq_false O]
end
end Go.Vs.F
set_option maxRecDepth 100000
namespace Go.Vs.F
structure PO (N:Nat) (o:List Nat):Prop where
 len:o.length=N
 lt: ∀k,k<N->o.getD k 0<N
 inj: ∀j k,j<N->k<N->o.getD j 0=o.getD k 0->j=k
 sur: ∀x,x<N-> ∃k,k<N/\o.getD k 0=x
def PO.of {N:Nat} {o:List Nat} (h:o.Perm (List.range N)):PO N o:=by
 have hl:o.length=N:=by have:=h.length_eq;simpa using this
 have hn:o.Nodup:=h.nodup_iff.2 List.nodup_range
 have hg: ∀k (hk:k<N),o.getD k 0=o[k]'(O):=λk hk=>by
  rw[List.getD_eq_getElem?_getD,List.getElem?_eq_getElem O];rfl
 refine⟨hl,λk hk=> ?_,λj k hj hk e=> ?_,λx hx=> ?_⟩
 . rw[hg k hk];exact pM.1 (h.mem_iff.1 (zN _))
 . rw[hg j hj,hg k hk]at e;rcases IJ j k with q|q|q
   . exact absurd e (BX.1 hn j k O O q)
   . exact q
   . exact absurd e.symm (BX.1 hn k j O O q)
 . obtain⟨k,hk,e⟩:=IK.1 (h.mem_iff.2 (pM.2 hx));exact⟨k,O,by rw[hg k O];exact e⟩
def J4 {o:List Nat} {k:Nat}:(nL o).getD k 0=((o.getD k 0:Nat):Int):=by
 unfold nL;rw[List.getD_eq_getElem?_getD,List.getElem?_map,List.getD_eq_getElem?_getD];cases o[k]? <;>rfl
section
variable {N:Nat} {o:List Nat} (h:PO N o)
include h
theorem PO.nl:(nL o).length=N:=by rw[I4,h.len]
theorem PO.inR:pE (nL o) N:=λk hk=>by
 rw[I4,h.len]at hk;have:=h.lt k hk;rw[J4];omega
theorem PO.dst:Im (nL o):=λj k hj hk e=>by
 rw[I4,h.len]at hj hk;rw[J4,J4]at e;exact h.inj j k hj hk O
theorem PO.nodup:(nL o).Nodup:=by
 refine BX.2 λi j hi hj hij e=> ?_
 have:=h.dst i j hi hj (by
  rw[List.getD_eq_getElem?_getD,List.getElem?_eq_getElem hi,List.getD_eq_getElem?_getD,List.getElem?_eq_getElem hj];exact e)
 omega
end
def oa (o:List Nat) (k:Nat):Nat:=o.getD k 0
def fx (f:Nat->Nat->Bool) (i k a b:Nat):Bool:=f a b&&(decide (a<i/\b<i)||decide (a=i/\b<k)||decide (b=i/\a<k))
def qst {f:Nat->Nat->Bool} (hsym: ∀a b,f a b=f b a) {i k:Nat} (hk:k<i) (h:f i k=false) {a b:Nat}:fx f i (k+1) a b=fx f i k a b:=by
 unfold fx;by_cases h1:a=i/\b=k
 . obtain⟨rfl,rfl⟩:=h1;rw[h];rfl
 . by_cases h2:a=k/\b=i
   . obtain⟨rfl,rfl⟩:=h2;rw[hsym,h];rfl
   . congr 1;rw[xO];simp only[tv,decide_eq_true_iff];omega
def qqv {f:Nat->Nat->Bool} (hsym: ∀a b,f a b=f b a) {i k:Nat} (hk:k<i) (h:f i k=true) {a b:Nat}:fx f i (k+1) a b=xz (xz (fx f i k) i k) k i a b:=by
 unfold xz;by_cases h2:a=k/\b=i
 . obtain⟨rfl,rfl⟩:=h2;rw[iP ⟨rfl,rfl⟩];unfold fx;rw[hsym,h,pR];simp
 . rw[ao h2];by_cases h1:a=i/\b=k
   . obtain⟨rfl,rfl⟩:=h1;rw[iP ⟨rfl,rfl⟩];unfold fx;rw[h,pR];simp
   . rw[ao h1];unfold fx;congr 1;rw[xO];simp only[tv,decide_eq_true_iff];omega
def qns {f:Nat->Nat->Bool} {i:Nat} (hirr:f i i=false) {a b:Nat}:fx f i i a b=fx f (i+1) 0 a b:=by
 unfold fx;by_cases h1:a=i/\b=i
 . obtain⟨rfl,rfl⟩:=h1;rw[hirr];rfl
 . congr 1;rw[xO];simp only[tv,decide_eq_true_iff];omega
section
variable {m:Nat} (hm:3000000<m) {N:Nat} (hN:N<=12) {o:List Nat} (h:PO N o) {T:Nat->Nat->Bool} (hsym: ∀v w,T v w=T w v) (hirr: ∀v,T v v=false)
include hm hN h hsym hirr
theorem UW (t4:List LI) {i:Nat} (hi:i<N): ∀(n k:Nat),i-k<n->k<=i->
 gL m n (nL o) (dH N T) t4 (gT N (fx (λa b=>T (oa o a) (oa o b)) i k)) (i:Int) ((oa o i:Nat):Int) (nL o) (N:Int) (i:Int) ((nL o).take i) (((nL o).take i).length:Int) (k:Int)=
  some (.inl (nL o,(dH N T,()),(t4,()),gT N (fx (λa b=>T (oa o a) (oa o b)) (i+1) 0),nL o,(N:Int),(i:Int),()))
 |0,k,hn,_=>absurd hn (zA _)
 |n+1,k,hn,hk0=>by
  have hl:=h.nl;have hti:((nL o).take i).length=i:=by rw[zk];omega
  rw[gL,hti,bQ];by_cases hk:k<i
  . have hg:((nL o).take i).getD k 0=((oa o k:Nat):Int):=by
     rw[List.getD_eq_getElem?_getD,List.getElem?_take_of_lt hk,<-List.getD_eq_getElem?_getD,J4];rfl
    have hlt1:oa o i<N:=h.lt i hi;have hlt2:oa o k<N:=h.lt k O;have ih:=UW t4 hi n (k+1) O O;rw[hti]at ih;rw[iP O,iP O,tN,hg,RI O hm hlt1 hlt2,bS,show wI ((k:Int)+1)=((k+1:Nat):Int)from aB O]
    cases hb:T (oa o i) (oa o k)with
    |true=>
     rw[VA hi O,ao O];rw[<-ih,FT λa b ha hb'=>qqv (f:=λa b=>T (oa o a) (oa o b)) (λa b=>hsym _ _) hk hb]
     rfl
    |false=>
     rw[<-ih,FT λa b ha hb'=>qst (f:=λa b=>T (oa o a) (oa o b)) (λa b=>hsym _ _) hk hb]
     rfl
  . rw[ao O];have:k=i:=O;subst this;rw[FT λa b ha hb'=>qns (f:=λa b=>T (oa o a) (oa o b)) (hirr _)]
theorem Vf (t4:List LI): ∀(n i:Nat),N-i<n->i<=N->
 lz m n (nL o) (dH N T) t4 (gT N (fx (λa b=>T (oa o a) (oa o b)) i 0)) (nL o) (N:Int) (i:Int)=
  some (.inl ((t4,()),gT N (λa b=>T (oa o a) (oa o b)),()))
 |0,i,hn,_=>absurd hn (zA _)
 |n+1,i,hn,hi0=>by
  have hl:=h.nl;rw[lz,bQ];by_cases hi:i<N
  . have e:=UW hm hN h hsym hirr t4 hi m 0 O O;rw[nZ]at e;rw[iP O,iP O,iP O,tN,J4];show((gL m m (nL o) (dH N T) t4 _ (i:Int) ((oa o i:Nat):Int) (nL o) (N:Int) (i:Int) ((nL o).take i) (((nL o).take i).length:Int) 0).bind _)=_;rw[e,bS];dsimp only;rw[show wI ((i:Int)+1)=((i+1:Nat):Int)from aB O]
    exact Vf t4 n (i+1) O O
  . rw[ao O];have:i=N:=O;subst this;rw[FT λa b ha hb'=>show fx (λa b=>T (oa o a) (oa o b)) i 0 a b=T (oa o a) (oa o b) by simp[fx,ha,hb']]
theorem ql5:Bm m (dH N T) (nL o)=some (((dH N (λa b=>T (oa o a) (oa o b)),()),0,()),(),(),()):=by
 have hl:=h.nl;have e:=Vf hm hN h hsym hirr [] m 0 O O;rw[nZ]at e
 have hp:At m (dH N T) (nL o)=some (0,(),(),()):=by
  rw[At,W9 O hm (λv w _ _=>hsym v w) (λv _=>hirr v),bS,aE,iP rfl,aE,iP (by rw[Js,hl]),
   qv2 hm O (by rw[Js];exact h.inR),bS,qq3 O hm h.nodup,bS]
  rfl
 rw[Bm,hp,bS,aE,iP rfl,Hf,hl,q93 O O,bS];dsimp only;rw[show gT N (λ_ _=>false)=gT N (fx (λa b=>T (oa o a) (oa o b)) 0 0)from FT λa b _ _=>by simp[fx],e,bS]
 dsimp only;rw[Wl O O];rfl
end
structure sd (N:Nat) (o:List Nat) (pos:LI):Prop where
 len:pos.length=N
 at_: ∀k,k<N->pos.getD (o.getD k 0) 0=(k:Int)
def Zp {l:LI} {k i:Nat} {a:Int} (hk:k<l.length):(l.set k a).getD i 0=if i=k then a else l.getD i 0:=XM hk
def OM {l:List Bool} {k i:Nat} (hk:k<l.length):(l.set k true).getD i false=if i=k then true else l.getD i false:=by
 rw[List.getD_eq_getElem?_getD,List.getElem?_set];by_cases e:k=i
 . subst e;simp[hk]
 . rw[ao e,ao (λq=>e q.symm),<-List.getD_eq_getElem?_getD]
section
variable {m:Nat} (hm:3000000<m) {N:Nat} (hN:N<=1000) {o:List Nat} (h:PO N o)
include hm hN h
theorem Vg: ∀(n i:Nat) (pos:LI) (seen:List Bool),N-i<n->i<=N->pos.length=N->seen.length=N->(∀x,x<N->(seen.getD x false=true↔ ∃k,k<i/\o.getD k 0=x))->(∀k,k<i->pos.getD (o.getD k 0) 0=(k:Int))->
 ∃pos',sd N o pos'/\lM m n (N:Int) pos seen (nL o) (N:Int) (i:Int)=some (.inr (.inl (pos',())))
 |0,i,_,_,hn,_,_,_,_,_=>absurd hn (zA _)
 |n+1,i,pos,seen,hn,hi0,hp,hs,hx,hg=>by
  have hl:=h.nl;rw[lM,bQ];by_cases hi:i<N
  . have ho:=h.lt i hi
    have hf:seen.getD (o.getD i 0) false=false:=by
     cases hq:seen.getD (o.getD i 0) false
     . rfl
     . obtain⟨k,hk,ek⟩:=(hx _ ho).1 hq;have:=h.inj k i O hi ek;omega
    obtain⟨pos',p1,p2⟩:=Vg n (i+1) (pos.set (o.getD i 0) (i:Int)) (seen.set (o.getD i 0) true) O O (by simpa using hp) (by simpa using hs)
     (fun x hxN=>by
       rw[OM O];constructor
       . intro q;by_cases e:x=o.getD i 0
         . exact⟨i,O,e.symm⟩
         . rw[ao e]at q;obtain⟨k,a,b⟩:=(hx x hxN).1 q;exact⟨k,O,b⟩
       . rintro ⟨k,a,b⟩
         by_cases e:x=o.getD i 0
         . rw[iP e]
         . rw[ao e];refine(hx x hxN).2 ⟨k,?_,b⟩;rcases zq k i with q|q
           . exact q
           . have:k=i:=O;subst this;exact absurd b.symm e)
     (fun k hk=>by
       rw[Zp O];by_cases e:o.getD k 0=o.getD i 0
       . rw[iP e,h.inj k i O hi e]
       . rw[ao e];refine hg k ?_;rcases zq k i with q|q
         . exact q
         . have:k=i:=O;subst this;exact absurd rfl e)
    refine⟨pos',p1,?_⟩;rw[iP O,iP O,tN,J4,bQ,ao O,bQ,ao O,iP O,zG,tN,hf,cond_false,iP O,iP O,show wI ((i:Int)+1)=((i+1:Nat):Int)from aB O]
    exact p2
  . rw[ao O];have:i=N:=O;subst this;exact⟨pos,⟨hp,hg⟩,rfl⟩
theorem q8n: ∃pos,sd N o pos/\Bt m (nL o) (N:Int)=some ((pos,true,()),(),(),()):=by
 have hl:=h.nl
 obtain⟨pos,p,e⟩:=Vg hm hN h m 0 (List.replicate N 0) (List.replicate N false) O O (by simp) (by simp) (λx hx=>by
  constructor
  . intro q;simp[List.getD,hx]at q
  . rintro ⟨k,a,_⟩;exact absurd a (zA _)) (λk hk=>absurd hk (zA _))
 refine⟨pos,p,?_⟩;rw[nZ]at e;rw[Bt,hl,aE,iP rfl,iP O,iP O,tN,e];rfl
end
end Go.Vs.F
set_option maxRecDepth 100000
namespace Go.Vs.F
def R9 {α:Type} {k k':Int} {x:α}: ∀{ys:List (Int×α)},aZ (bY ys k x) k'=if k=k' then some x else aZ ys k'
 |[]=>by simp[bY,aZ]
 |(q,y)::r=>by
  rw[bY];by_cases e:q=k
  . subst e;rw[iP rfl,aZ,aZ];by_cases e2:q=k'<;>simp[e2]
  . rw[ao e,aZ,aZ,R9];by_cases e2:q=k'
    . have: ¬k=k':=λq2=>e (e2.trans q2.symm)
      simp[e2,this]
    . simp[e2]
abbrev dc:=List (Option (List (Int×fu)))
def db (ys:dc) (a:Nat):List (Int×fu):=(ys.getD a none).getD []
def dF (f:Int):fu:=Pq (eH f)
def x9 (pos:LI) (e:aS):Int:=pos.getD e.1.toNat 0
def ya (pos:LI) (e:aS):Int:=pos.getD e.2.1.toNat 0
def FX (pos:LI) (e:aS):Int:=if ya pos e<x9 pos e then ya pos e else x9 pos e
def CI (pos:LI) (e:aS):Int:=if ya pos e>x9 pos e then ya pos e else x9 pos e
def uM (pos:LI) (a:Nat) (b:Int) (e:aS):Bool:=fe e&&decide (FX pos e=(a:Int)/\CI pos e=b)
def tG (pos:LI) (es:List aS) (a:Nat) (b:Int):Option Int:=(es.reverse.find? (uM pos a b)).map λe=>e.2.2
def Wp {pos:LI} {es:List aS} {x:aS} {a:Nat} {b:Int}:tG pos (es++[x]) a b=if uM pos a b x=true then some x.2.2 else tG pos es a b:=by
 unfold tG;rw[List.reverse_append,List.reverse_singleton,xq,List.find?_cons];cases uM pos a b x<;>rfl
def qps {pos:LI} {es:List aS} {a:Nat} {b v:Int} (h:tG pos es a b=some v): ∃e∈es,uM pos a b e=true/\e.2.2=v:=by
 unfold tG at h;obtain⟨e,h1,h2⟩:=FB.1 h;exact⟨e,List.mem_reverse.1 (List.mem_of_find?_eq_some h1),List.find?_some h1,h2⟩
def UV {pos:LI} {es:List aS} {a:Nat} {b:Int} {e:aS} (he:e∈es) (hm:uM pos a b e=true): ∃v,tG pos es a b=some v:=by
 unfold tG;cases hf:es.reverse.find? (uM pos a b)with
 |some x=>exact⟨_,rfl⟩
 |none=>exact absurd hm (by simpa using List.find?_eq_none.1 hf e (List.mem_reverse.2 he))
structure fX (N:Nat) (pos:LI) (es:List aS) (ys:dc):Prop where
 len:ys.length=N
 isS: ∀a,a<N->(ys.getD a none).isSome=true
 get: ∀a,a<N-> ∀b,aZ (db ys a) b=(tG pos es a b).map dF
def Jl {ys:dc} {k i:Nat} {r:List (Int×fu)} (hk:k<ys.length):(ys.set k (some r)).getD i none=if i=k then some r else ys.getD i none:=by
 rw[List.getD_eq_getElem?_getD,List.getElem?_set];by_cases e:k=i
 . subst e;simp[hk]
 . rw[ao e,ao (λq=>e q.symm),<-List.getD_eq_getElem?_getD]
def fX.skip {N:Nat} {pos:LI} {es:List aS} {ys:dc} (h:fX N pos es ys) {x:aS} (hx:fe x=false):fX N pos (es++[x]) ys:=by
 refine⟨h.len,h.isS,λa ha b=> ?_⟩
 rw[Wp,uM,hx,FD,ao (by decide)]
 exact h.get a ha b
def fX.put {N:Nat} {pos:LI} {es:List aS} {ys:dc} (h:fX N pos es ys) {x:aS} (hx:fe x=true) {c:Nat} (hc:c<N) (hmn:FX pos x=(c:Int)) {d:fu} (hd:d=dF x.2.2):
 fX N pos (es++[x]) (ys.set c (some (bY ((ys.getD c none).getD []) (CI pos x) d))):=by
 subst hd;refine⟨by rw[zS];exact h.len,λa ha=> ?_,λa ha b=> ?_⟩
 . rw[Jl (by rw[h.len];exact hc)]
   split
   . rfl
   . exact h.isS a ha
 . unfold db;rw[Jl (by rw[h.len];exact hc),Wp,uM,hx,pR,hmn]
   by_cases e:a=c
   . subst e;rw[iP rfl,pP,R9];by_cases e2:CI pos x=b
     . rw[iP e2,iP (by simp[e2])];rfl
     . rw[ao e2,ao (by simp[e2])];exact h.get a ha b
   . rw[ao e,ao (by simp;intro q;omega)];exact h.get a ha b
section
variable {m:Nat} (hm:3000000<m) {N:Nat} (hN:N<=12) {S I V:LI} (hM:MV N N S I V) (hU:UL V) {o:List Nat} (h:PO N o) {pos:LI} (hp:sd N o pos)
include hm hN hM hU h hp
theorem UC {x:Nat} (hx:x<N): ∃k:Nat,k<N/\oa o k=x/\pos.getD x 0=(k:Int):=by
 obtain⟨k,a,b⟩:=h.sur x hx;exact⟨k,a,b,by rw[<-b];exact hp.at_ k a⟩
theorem PK (g0:Int) (g1:List LI) (t80 t81:Int) {j:Nat} (hj:j<N): ∀(n k:Nat) (es:List aS) (ys:dc),(S.getD (j+1) 0).toNat-k<n->(S.getD j 0).toNat<=k->k<=(S.getD (j+1) 0).toNat->fX N pos es ys->
 ∃ys',fX N pos (es++Y9 S I V j k (S.getD (j+1) 0).toNat) ys'/\mX m n (N:Int) (N:Int) S I V pos g0 g1 ys (j:Int) (k:Int) t80 t81=
  some (.inl (((N:Int),(N:Int),S,I,V,()),pos,(g0,g1,ys',()),t80,t81,()))
 |0,k,_,_,hn,_,_,_=>absurd hn (zA _)
 |n+1,k,es,ys,hn,hk1,hk2,hP=>by
  have hl:=hM.ok.st.len;have hz:=hM.ok.sz;have iu:=hM.vl;have b:=hM.ok.st.rng (j:=j+1) O;have w:wI ((j:Int)+1)=((j+1:Nat):Int):=aB O;rw[mX,w,iP O,tN,bQ];by_cases hk:k<(S.getD (j+1) 0).toNat
  . have hrow:=hM.ok.row hj hk1 hk;obtain⟨r,hr⟩: ∃r:Nat,I.getD k 0=(r:Int):=⟨(I.getD k 0).toNat,O⟩;rw[iP O,iP O,tN,hr,bQ];rw[SI hk,List.append_cons];have w2:wI ((k:Int)+1)=((k+1:Nat):Int):=aB O;by_cases hlow:(r:Int)>=(j:Int)
    . obtain⟨x,x1,x2,x3⟩:=UC hm hN hM hU h hp (x:=r) O;obtain⟨y,y1,y2,y3⟩:=UC hm hN hM hU h hp hj;have hplen:=hp.len;have hys:=hP.len
      obtain⟨c,hc1,hc2⟩: ∃c:Nat,c<N/\(if(y:Int)<(x:Int)then(y:Int)else(x:Int))=(c:Int):=by
       by_cases q:(y:Int)<(x:Int)
       . exact⟨y,y1,iP q⟩
       . exact⟨x,x1,ao q⟩
      have hE:FX pos (I.getD k 0,((j:Int),V.getD k 0))=(c:Int):=by
       unfold FX ya x9;simp only[hr,tN,x3,y3,hc2]
      have hE2:CI pos (I.getD k 0,((j:Int),V.getD k 0))=(if(y:Int)>(x:Int)then(y:Int)else(x:Int)):=by
       unfold CI ya x9;simp only[hr,tN,x3,y3]
      have hs:=hP.isS c hc1;have P2:=hP.put (x:=(I.getD k 0,((j:Int),V.getD k 0))) (show decide _=true by rw[decide_eq_true_iff];show I.getD k 0>=(j:Int);rw[hr];exact hlow) hc1 hE (d:=dF (V.getD k 0)) rfl
      rw[hE2]at P2;rw[iP hlow,iP O,iP O];simp only[zG,tN,x3,y3,hc2];rw[iP O,iP O,d6 O (hU k O),bS,iP hs,w2];exact PK g0 g1 t80 t81 hj n (k+1) _ _ O O O P2
    . have P2:=hP.skip (x:=(I.getD k 0,((j:Int),V.getD k 0))) (show decide _=false by rw[decide_eq_false_iff_not];show¬I.getD k 0>=(j:Int);rw[hr];exact hlow)
      rw[ao hlow,w2];exact PK g0 g1 t80 t81 hj n (k+1) _ _ O O O P2
  . rw[ao O];refine⟨ys,?_,rfl⟩;rw[Y9,show(S.getD (j+1) 0).toNat-k=0 by omega]
    simpa using hP
theorem Us (g0:Int) (g1:List LI): ∀(n j:Nat) (es:List aS) (ys:dc),N-j<n->j<=N->fX N pos es ys->
 ∃ys',fX N pos (es++ents S I V (N-j) j) ys'/\oM m n (N:Int) (N:Int) S I V pos g0 g1 ys (N:Int) (j:Int)=some (.inl ((g0,g1,ys',()),()))
 |0,j,_,_,hn,_,_=>absurd hn (zA _)
 |n+1,j,es,ys,hn,hj0,hP=>by
  have hl:=hM.ok.st.len;have hz:=hM.ok.sz;rw[oM,bQ];by_cases hj:j<N
  . have a:=hM.ok.st.rng (j:=j) O;have b:=hM.ok.st.rng (j:=j+1) O;have mo:=hM.ok.st.mono j hj;obtain⟨ys1,P1,e1⟩:=PK hm hN hM hU h hp g0 g1 (N:Int) (j:Int) hj m (S.getD j 0).toNat es ys O (zF _) O hP;rw[show(((S.getD j 0).toNat:Nat):Int)=S.getD j 0 by omega]at e1
    obtain⟨ys2,P2,e2⟩:=Us g0 g1 n (j+1) _ ys1 O O P1;refine⟨ys2,?_,?_⟩
    . rw[show N-j=(N-(j+1))+1 by omega,ents,<-List.append_assoc];exact P2
    . rw[iP O,iP O,tN,e1,bS];dsimp only;rw[show wI ((j:Int)+1)=((j+1:Nat):Int)from aB O]
      exact e2
  . rw[ao O];refine⟨ys,?_,rfl⟩;rw[show N-j=0 by omega]
    simpa [ents]using hP
end
def UA {m:Nat} (r c g0:Int) (S I V pos:LI) (g1:List LI) {N:Nat} (hN:N<=1000): ∀(n k:Nat) (ys:dc),N-k<n->k<=N->ys.length=N->(∀a,a<k->ys.getD a none=some [])->
 ∃ys',ys'.length=N/\(∀a,a<N->ys'.getD a none=some [])/\mY m n r c S I V pos g0 g1 ys (N:Int) (k:Int)=some (.inl ((r,c,S,I,V,()),pos,(g0,g1,ys',()),()))
 |0,k,_,hn,_,_,_=>absurd hn (zA _)
 |n+1,k,ys,hn,hk0,hl,hg=>by
  rw[mY,bQ];by_cases hk:k<N
  . obtain⟨ys',p1,p2,p3⟩:=UA (m:=m) r c g0 S I V pos g1 hN n (k+1) (ys.set k (some [])) O O (by simpa using hl) (λa ha=>by
     rw[Jl O];split
     . rfl
     . exact hg a O)
    refine⟨ys',p1,p2,?_⟩;rw[iP O,iP O,tN,show wI ((k:Int)+1)=((k+1:Nat):Int)from aB O]
    exact p3
  . rw[ao O];exact⟨ys,hl,λa ha=>hg a O,rfl⟩
def bB (E:List aS) (o:List Nat) (a b:Nat):Option Int:=(E.find? λe=>decide (e.1=((oa o a:Nat):Int)/\e.2.1=((oa o b:Nat):Int))).map λe=>e.2.2
def gB (E:List aS) (o:List Nat) (a b:Nat):Bool:=decide (a≠b)&&(bB E o a b).isSome
def cG.uniq {E:List aS} (h:cG E) {x y:aS} (hx:x∈E) (hy:y∈E) (h1:x.1=y.1) (h2:x.2.1=y.2.1):x=y:=by
 obtain⟨i,hi,rfl⟩:=Yj hx;obtain⟨j,hj,rfl⟩:=Yj hy;rw[h i j hi hj h1 h2]
def x4 {E:List aS} (hD:cG E) {o:List Nat} {a b:Nat} {v:Int}:bB E o a b=some v↔((((oa o a:Nat):Int),(((oa o b:Nat):Int),v)):aS)∈E:=by
 unfold bB;rw[FB];constructor
 . rintro ⟨e,h1,h2⟩
   have q:e.1=((oa o a:Nat):Int)/\e.2.1=((oa o b:Nat):Int):=by simpa using List.find?_some h1
   have:=List.mem_of_find?_eq_some h1
   rwa [<-q.1,<-q.2,<-h2]
 . intro hx;cases hf:E.find? λe=>decide (e.1=((oa o a:Nat):Int)/\e.2.1=((oa o b:Nat):Int))with
   |none=>exact absurd (List.find?_eq_none.1 hf _ hx) (by simp)
   |some e=>
    have q:e.1=((oa o a:Nat):Int)/\e.2.1=((oa o b:Nat):Int):=by simpa using List.find?_some hf
    have:=hD.uniq (List.mem_of_find?_eq_some hf) hx q.1 q.2;exact⟨e,rfl,by rw[this]⟩
section
variable {N:Nat} {E:List aS} (hE:bw N N E) (hD:cG E) (hS: ∀e∈E,FK e∈E) {o:List Nat} (h:PO N o) {pos:LI} (hp:sd N o pos)
include hE hD hS h hp
theorem qur {a b:Nat} (hab:a<=b) (hb:b<N) {v:Int}:tG pos E a (b:Int)=some v↔((((oa o a:Nat):Int),(((oa o b:Nat):Int),v)):aS)∈E:=by
 have fwd: ∀v,tG pos E a (b:Int)=some v->((((oa o a:Nat):Int),(((oa o b:Nat):Int),v)):aS)∈E:=λv hv=>by
  obtain⟨e,he,hmt,hev⟩:=qps hv;obtain⟨a1,a2,_⟩:=Y3 hE e he;obtain⟨e1,e2,e3⟩:=e;simp only at a1 a2 hev;subst hev;obtain⟨r,rfl⟩: ∃r:Nat,e1=(r:Int):=⟨e1.toNat,O⟩;obtain⟨c,rfl⟩: ∃c:Nat,e2=(c:Int):=⟨e2.toNat,O⟩;obtain⟨x,x1,x2⟩:=h.sur r O;obtain⟨y,y1,y2⟩:=h.sur c O;have px:pos.getD r 0=(x:Int):=by rw[<-x2];exact hp.at_ x x1
  have py:pos.getD c 0=(y:Int):=by rw[<-y2];exact hp.at_ y y1
  simp only[uM,zI,decide_eq_true_iff,FX,CI,ya,x9,tN,px,py]at hmt;obtain⟨_,h1,h2⟩:=hmt;by_cases q:(y:Int)<(x:Int)
  . rw[iP q]at h1;rw[ao O]at h2;have:y=a:=O;have:x=b:=O
    subst_vars
    exact hS _ he
  . rw[ao q]at h1;have e1:x=a:=O
    have e2:y=b:=by
     by_cases q2:(y:Int)>(x:Int)
     . rw[iP q2]at h2;omega
     . rw[ao q2]at h2;omega
    subst_vars
    exact he
 refine⟨fwd v,λhv=> ?_⟩
 have hex: ∃v',tG pos E a (b:Int)=some v':=by
  have pa:pos.getD (oa o a) 0=(a:Int):=hp.at_ a O;have pb:pos.getD (oa o b) 0=(b:Int):=hp.at_ b hb;by_cases q:oa o b<=oa o a
  . refine UV hv ?_;simp only[uM,fe,zI,decide_eq_true_iff,FX,CI,ya,x9,tN,pa,pb];refine⟨O,?_,?_⟩
    . rw[ao O]
    . split<;>omega
  . refine UV (hS _ hv) ?_;simp only[FK,uM,fe,zI,decide_eq_true_iff,FX,CI,ya,x9,tN,pa,pb];refine⟨decide_eq_true (show((oa o b:Nat):Int)>=((oa o a:Nat):Int) by omega),?_,?_⟩
    . split<;>omega
    . rw[ao O]
 obtain⟨v',hv'⟩:=hex;have:=hD.uniq (fwd v' hv') hv rfl rfl;simp only[Iu,true_and]at this;rw[hv',this]
theorem Kk {a b:Nat} (hab:a<=b) (hb:b<N):tG pos E a (b:Int)=bB E o a b:=by
 refine Option.ext λv=> ?_
 rw[qur hE hD hS h hp hab hb,x4 hD]
end
def qv0 {es:List aS} (v w:Nat):eT es v w=eT es w v:=by
 unfold eT
 have:(λe=>eJ e v w)=λe=>eJ e w v:=by
  funext e;unfold eJ;rw[Bool.or_comm]
 rw[this];congr 1;rw[xO,decide_eq_true_iff,decide_eq_true_iff];exact⟨λq e=>q e.symm,λq e=>q e.symm⟩
def qva {es:List aS} (v:Nat):eT es v v=false:=by simp[eT]
structure MB (N:Nat) (B:Nat->Nat->Option Int) (ys:dc):Prop where
 len:ys.length=N
 get: ∀a b,a<=b->b<N->aZ (db ys a) (b:Int)=(B a b).map dF
def Ux {m:Nat} (hm:3000000<m) {N:Nat} (hN:N<=12) {S I V:LI} (hM:MV N N S I V) (hU:UL V) (hS: ∀e∈ents S I V N 0,FK e∈ents S I V N 0) {o:List Nat} (h:PO N o):
 ∃ys,MB N (bB (ents S I V N 0) o) ys/\Ky m (N:Int) (N:Int) S I V (nL o)=some (.inr (((N:Int),dH N (gB (ents S I V N 0) o),ys,()),0,()),(),(),()):=by
 have hl:=hM.ok.st.len;have hz:=hM.ok.sz;have hv:=hM.vl;have hsl:=hM.sl;obtain⟨pos,hp,ep⟩:=q8n hm O h;obtain⟨ys0,q1,q2,q3⟩:=UA (m:=m) (N:Int) (N:Int) (N:Int) S I V pos (dH N (gB (ents S I V N 0) o)) (N:=N) O m 0 (List.replicate N none) O O (by simp) (λa ha=>absurd ha (zA _))
 have P0:fX N pos [] ys0:=⟨q1,λa ha=>by rw[q2 a ha];rfl,λa ha b=>by unfold db;rw[q2 a ha];rfl⟩
 obtain⟨ys,P,e⟩:=Us hm hN hM hU h hp (N:Int) (dH N (gB (ents S I V N 0) o)) m 0 [] ys0 O O P0;rw[n5,Nz]at P;refine⟨ys,⟨P.len,λa b hab hb=> ?_⟩,?_⟩
 . rw[P.get a O (b:Int),Kk hM.ents hM.dist hS h hp hab hb]
 . obtain⟨hfE,hfD,hfl⟩:=hM.filter fe;have hLM:=QJ hfE (show N<=100 by omega) (show N<=100 by omega)
   rw[nZ]at q3 e;rw[Ky,oR O O O O O,hM.chk,bS,aE,iP rfl,aE,iP rfl,ep,bS];dsimp only;rw[jM,cond_false,qkx hm hM,bS];dsimp only;rw[M4 hm hLM O,bS];dsimp only;rw[ql5 hm hN h qv0 qva,bS];dsimp only
   have hadj:dH N (λa b=>eT (ents (br ((ents S I V N 0).filter fe) N N) (a7 ((ents S I V N 0).filter fe) N N) (bo ((ents S I V N 0).filter fe) N N) N 0) (oa o a) (oa o b))=dH N (gB (ents S I V N 0) o):=by
    refine YH λa b ha hb=> ?_
    rw[xO];have hne:oa o a≠oa o b↔a≠b:=⟨λq e=>q (by rw[e]),λq e=>q (h.inj a b ha hb e)⟩
    simp only[eT,gB,zI,decide_eq_true_iff,hne,Ng,WY hfE hfD,pH,eJ,tv];refine and_congr_right λ_=> ?_
    constructor
    . rintro ⟨x,⟨hx,_⟩,c⟩
      rcases c with⟨c1,c2⟩|⟨c1,c2⟩
      . rw[(x4 hM.dist (v:=x.2.2)).2 (by rw[<-c1,<-c2];exact hx)];rfl
      . rw[(x4 hM.dist (v:=x.2.2)).2 (by rw[<-c1,<-c2];exact hS x hx)];rfl
    . intro hs;obtain⟨v,hv⟩:=NC.1 hs;have hx:=(x4 hM.dist).1 hv;by_cases q:oa o b<=oa o a
      . exact⟨_,⟨hx,decide_eq_true (show((oa o a:Nat):Int)>=((oa o b:Nat):Int) by omega)⟩,.inl ⟨rfl,rfl⟩⟩
      . exact⟨_,⟨hS _ hx,decide_eq_true (show((oa o b:Nat):Int)>=((oa o a:Nat):Int) by omega)⟩,.inr ⟨rfl,rfl⟩⟩
   rw[hadj,iP O,tN,nX];have q3':mY m m (N:Int) (N:Int) S I V pos (N:Int) (dH N (gB (ents S I V N 0) o)) (List.replicate N none) (N:Int) 0=_:=q3;rw[q3',bS];dsimp only;rw[e];rfl
end Go.Vs.F
set_option maxRecDepth 100000
namespace Go.Vs.F
def Up (N:Nat) (f:LI):Prop:=f.length=N/\ ∀i,i<N->f.getD i 0= -1\/(i:Int)<f.getD i 0
def Up.set {N:Nat} {f:LI} (h:Up N f) {i j:Nat} (hij:i<j) (hi:i<N):Up N (f.set i (j:Int)):=by
 refine⟨by rw[zS];exact h.1,λk hk=> ?_⟩
 rw[Zp (by rw[h.1];exact hi)]
 split
 . right;omega
 . exact h.2 k hk
section
variable {m:Nat} {N:Nat}
def XR: ∀(n k:Nat) (f0 f1:LI),N-k<n->k<=N->f0.length=N->f1.length=N->N<=1000->(∀i,i<k->f0.getD i 0= -1)->(∀i,i<k->f1.getD i 0= -1)->
 ∃f0' f1',Up N f0'/\Up N f1'/\kZ m n f0 f1 (N:Int) (k:Int)=some (.inl ((f0',f1',()),()))
 |0,k,_,_,hn,_,_,_,_,_,_=>absurd hn (zA _)
 |n+1,k,f0,f1,hn,hk0,h0,h1,hN,g0,g1=>by
  rw[kZ,bQ];by_cases hk:k<N
  . obtain⟨f0',f1',p0,p1,e⟩:=XR n (k+1) (f0.set k (-1)) (f1.set k (-1)) O O (by simpa using h0) (by simpa using h1) hN (λi hi=>by
     rw[Zp O];split
     . rfl
     . exact g0 i O) (λi hi=>by
     rw[Zp O];split
     . rfl
     . exact g1 i O)
    refine⟨f0',f1',p0,p1,?_⟩;rw[iP O,iP O,iP O,zG,tN,show wI ((k:Int)+1)=((k+1:Nat):Int)from aB O]
    exact e
  . rw[ao O];exact⟨f0,f1,⟨h0,λi hi=> .inl (g0 i O)⟩,⟨h1,λi hi=> .inl (g1 i O)⟩,rfl⟩
def Rr {j:Nat} (hj:j<N): ∀(n:Nat) (f0 f1:LI) (i:Int),-1<=i->0<n/\(0<=i->((j:Int)-i).toNat+1<n)->Up N f0->Up N f1->
 ∃f0' f1',Up N f0'/\Up N f1'/\iH m n f0 f1 i (j:Int)=some (.inl ((f0',f1',()),()))
 |0,_,_,_,_,hn,_,_=>absurd hn.1 (zA _)
 |n+1,f0,f1,i,hi,hn,h0,h1=>by
  rw[iH,aE];by_cases e:i= -1
  . rw[iP e];exact⟨f0,f1,h0,h1,rfl⟩
  . rw[ao e,bQ];by_cases hij:i<(j:Int)
    . obtain⟨k,rfl⟩: ∃k:Nat,i=(k:Int):=⟨i.toNat,O⟩;have l0:=h0.1;have l1:=h1.1;have hk:k<N:=O;have hu:=h1.2 k hk;rw[iP hij,iP O,iP O,zG,tN,aF];split
      . rename_i e2;rw[iP O,e2];exact Rr hj n _ _ _ O O (h0.set O hk) (h1.set O hk)
      . exact Rr hj n _ _ _ O O h0 (h1.set O hk)
    . rw[ao hij];exact⟨f0,f1,h0,h1,rfl⟩
variable (hm:3000000<m) (hN:N<=12) {T:Nat->Nat->Bool}
include hm hN
theorem XW {j:Nat} (hj:j<N) (t20:List LI) (t21 t22:Int): ∀(n k:Nat) (f0 f1:LI),(bU N (T j)).length-k<n->Up N f0->Up N f1->
 ∃f0' f1',Up N f0'/\Up N f1'/\lx m n f0 f1 (j:Int) t20 t21 t22 (bU N (T j)) ((bU N (T j)).length:Int) (k:Int)=some (.inl ((f0',f1',()),t20,t21,t22,()))
 |0,_,_,_,hn,_,_=>absurd hn (zA _)
 |n+1,k,f0,f1,hn,h0,h1=>by
  have hl:=J5 (N:=N) (T:=T j);rw[lx,bQ];by_cases hk:k<(bU N (T j)).length
  . obtain⟨w,a,b,c⟩:=JH hk;obtain⟨f0',f1',p0,p1,e⟩:=Rr (m:=m) hj m f0 f1 (w:Int) O O h0 h1;obtain⟨f0'',f1'',q0,q1,e2⟩:=XW hj t20 t21 t22 n (k+1) f0' f1' O p0 p1;refine⟨f0'',f1'',q0,q1,?_⟩;rw[iP O,iP O,tN,c,yU,e];simp only[bS];rw[show wI ((k:Int)+1)=((k+1:Nat):Int)from aB O]
    exact e2
  . rw[ao O];exact⟨f0,f1,h0,h1,rfl⟩
theorem XA: ∀(n j:Nat) (f0 f1:LI),N-j<n->Up N f0->Up N f1->
 ∃f0' f1',Up N f0'/\Up N f1'/\ly m n f0 f1 (dH N T) (N:Int) (j:Int)=some (.inl ((f0',f1',()),()))
 |0,_,_,_,hn,_,_=>absurd hn (zA _)
 |n+1,j,f0,f1,hn,h0,h1=>by
  rw[ly,bQ];by_cases hj:j<N
  . have hl:=J5 (N:=N) (T:=T j);obtain⟨f0',f1',p0,p1,e⟩:=XW hm hN hj (dH N T) (N:Int) (j:Int) (T:=T) m 0 f0 f1 O h0 h1;obtain⟨f0'',f1'',q0,q1,e2⟩:=XA n (j+1) f0' f1' O p0 p1;refine⟨f0'',f1'',q0,q1,?_⟩;rw[nZ]at e;rw[iP O,iP (by rw[Js];omega),tN,I7 hj,e,bS]
    dsimp only;rw[show wI ((j:Int)+1)=((j+1:Nat):Int)from aB O]
    exact e2
  . rw[ao O];exact⟨f0,f1,h0,h1,rfl⟩
theorem qne (hsym: ∀v w,T v w=T w v) (hirr: ∀v,T v v=false): ∃f,Up N f/\Ap m (dH N T)=some ((f,0,()),(),()):=by
 obtain⟨f0,f1,p0,p1,e⟩:=XR (m:=m) (N:=N) m 0 (List.replicate N 0) (List.replicate N 0) O O (by simp) (by simp) O (λi h=>absurd h (zA _)) (λi h=>absurd h (zA _))
 obtain⟨g0,g1,q0,q1,e2⟩:=XA hm hN (T:=T) m 0 f0 f1 O p0 p1;refine⟨g0,q0,?_⟩;rw[nZ]at e e2;rw[Ap,W9 O hm (λv w _ _=>hsym v w) (λv _=>hirr v),bS,aE,iP rfl,Js,yW,iP O,iP O,tN,e]
 simp only[bS];rw[e2];rfl
omit hm hN in
theorem UX {p:LI} (hp:Up N p) {i:Nat} (hi:i<N) (t23:LI) (t24 t25:Int): ∀(n:Nat) (s:List Bool) (t:Int),-1<=t->0<n/\(0<=t->((i:Int)-t).toNat+1<n)->s.length=i+1->s.getD i false=true->
 ∃s',s'.length=i+1/\s'.getD i false=true/\lr m n p (i:Int) s t t23 t24 t25=some (.inl (p,(i:Int),s',t23,t24,t25,()))
 |0,_,_,_,hn,_,_=>absurd hn.1 (zA _)
 |n+1,s,t,ht,hn,hs,hsi=>by
  rw[lr,bQ];by_cases h1:t>=0
  . rw[iP h1,bQ];by_cases h2:t<(i:Int)
    . obtain⟨k,rfl⟩: ∃k:Nat,t=(k:Int):=⟨t.toNat,O⟩;have lp:=hp.1;have hu:=hp.2 k O;rw[iP h2,iP O,zG,tN];cases s.getD k false with
      |true=>exact⟨s,hs,hsi,rfl⟩
      |false=>
       rw[q9,cond_true,iP O,iP O]
       exact UX hp hi t23 t24 t25 n _ _ O O (by simpa using hs) (by
        rw[OM O];split
        . rfl
        . exact hsi)
    . rw[ao h2];exact⟨s,hs,hsi,rfl⟩
  . rw[ao h1];exact⟨s,hs,hsi,rfl⟩
theorem UH {p:LI} (hp:Up N p) {i:Nat} (hi:i<N) {f:Nat->Bool}: ∀(n k:Nat) (s:List Bool),(bU N f).length-k<n->s.length=i+1->s.getD i false=true->
 ∃s',s'.length=i+1/\s'.getD i false=true/\ls m n p (i:Int) s (bU N f) ((bU N f).length:Int) (k:Int)=some (.inl (s',()))
 |0,_,_,hn,_,_=>absurd hn (zA _)
 |n+1,k,s,hn,hs,hsi=>by
  have hl:=J5 (N:=N) (T:=f);rw[ls,bQ];by_cases hk:k<(bU N f).length
  . obtain⟨w,a,b,c⟩:=JH hk;obtain⟨s1,p1,p2,e⟩:=UX (m:=m) hp hi (bU N f) ((bU N f).length:Int) (k:Int) m s (w:Int) O O hs hsi;obtain⟨s2,q1,q2,e2⟩:=UH hp hi (f:=f) n (k+1) s1 O p1 p2;refine⟨s2,q1,q2,?_⟩;rw[iP O,iP O,tN,c,e,bS];dsimp only;rw[show wI ((k:Int)+1)=((k+1:Nat):Int)from aB O]
    exact e2
  . rw[ao O];exact⟨s,hs,hsi,rfl⟩
omit hm hN in
theorem Ve {s:List Bool} (hl:s.length<=1000): ∀(n k:Nat),s.length-k<n->k<=s.length->
 iL m n (((List.range k).filter λw=>s.getD w false).map λw:Nat=>(w:Int)) s (s.length:Int) (k:Int)=some (.inl (((List.range s.length).filter λw=>s.getD w false).map λw:Nat=>(w:Int),()))
 |0,k,h,_=>absurd h (zA _)
 |n+1,k,h,hk0=>by
  rw[iL];by_cases hk:k<s.length
  . have hlen:(((List.range k).filter λw=>s.getD w false).map λw:Nat=>(w:Int)).length<=k:=by
     rw[zy];exact zf (Fz _ _) (by simp)
    have ih:=Ve hl n (k+1) O O;have c5:(((List.range k).filter λw=>s.getD w false).map λw:Nat=>(w:Int)).length+([(k:Int)]:LI).length<=1073741824:=by show _+1<=_;omega
    rw[Fu,List.filter_append,xp]at ih;rw[bQ,iP O,iP O,zG,tN,show wI ((k:Int)+1)=((k+1:Nat):Int)from aB O]
    cases hb:s.getD k false with
    |true=>
     rw[cond_true,iP c5,<-ih];simp only[tR,hb,if_true,BZ,nV,xT]
    |false=>
     rw[cond_false,<-ih];simp only[tR,hb,tM,if_false,BZ,xT,jg]
  . have:k=s.length:=O;subst this;rw[bQ,ao O]
theorem qul {p:LI} (hp:Up N p) {i:Nat} (hi:i<N): ∃l,l.length<=i+1/\(∀x∈l,0<=x/\x<=(i:Int))/\(i:Int)∈l/\Ao m (dH N T) p (i:Int)=some (l,(),(),(),()):=by
 have hl:=J5 (N:=N) (T:=T i);have w:wI ((i:Int)+1)=((i+1:Nat):Int):=aB O;obtain⟨s,p1,p2,e⟩:=UH hm hN hp hi (f:=T i) m 0 ((List.replicate (i+1) false).set i true) O (by simp) (by rw[OM (by simp),iP rfl])
 have e2:=Ve (m:=m) (s:=s) O m 0 O O;simp only[List.range_zero,BZ,xT,nZ]at e e2;refine⟨((List.range s.length).filter λw=>s.getD w false).map λw:Nat=>(w:Int),?_,λx hx=> ?_,?_,?_⟩
 . rw[zy,<-p1];exact zf (Fz _ _) (by simp)
 . obtain⟨y,hy,rfl⟩:=zV.1 hx;have:=pM.1 (pH.1 hy).1;omega
 . exact zV.2 ⟨i,pH.2 ⟨pM.2 O,p2⟩,rfl⟩
 . rw[Ao,w,iP O,iP (by simp;omega),iP (by rw[Js];omega),tN,tN,zG,I7 hi,e]
   simp only[bS];rw[e2];rfl
structure CO (N i c:Nat) (P:List LI):Prop where
 len:P.length=N
 lt: ∀k,k<N-> ∀x∈P.getD k [],0<=x/\x<(N:Int)
 cnt: ∀k,k<N->(P.getD k []).length<=c
 ne: ∀k,k<i->P.getD k []≠[]
omit hm hN in
theorem Yp {P:List LI} {k i:Nat} {r:LI} (hk:k<P.length):(P.set k r).getD i []=if i=k then r else P.getD i []:=by
 rw[List.getD_eq_getElem?_getD,List.getElem?_set];by_cases e:k=i
 . subst e;simp[hk]
 . rw[ao e,ao (λq=>e q.symm),<-List.getD_eq_getElem?_getD]
omit hm hN in
theorem CO.add {i c:Nat} {P:List LI} (h:CO N i c P) {k:Nat} (hk:k<N) {x:Int} (hx:0<=x/\x<(N:Int)):CO N i (c+1) (P.set k (P.getD k []++[x])):=by
 have hl:=h.len;refine⟨by rw[zS];exact hl,λq hq y hy=> ?_,λq hq=> ?_,λq hq=> ?_⟩
 . rw[Yp O]at hy;split at hy
   . rcases zQ.1 hy with a|a
     . exact h.lt k hk y a
     . rw[zC]at a;subst a;exact hx
   . exact h.lt q hq y hy
 . rw[Yp O];split
   . rw[zJ,ny];have:=h.cnt k hk;omega
   . have:=h.cnt q hq;omega
 . rw[Yp O];split
   . intro e;simp at e
   . exact h.ne q hq
omit hm hN in
theorem CO.mono {i c d:Nat} {P:List LI} (h:CO N i c P) (hd:c<=d):CO N i d P:=⟨h.len,h.lt,λk hk=>by have:=h.cnt k hk;omega,h.ne⟩
theorem VS {i:Nat} (hi:i<N) (g:List LI) (par:LI) (t22 t23:Int) {l:LI} (hl:l.length<=i+1) (hx: ∀x∈l,0<=x/\x<=(i:Int)): ∀(n t:Nat) (P:List LI) (c:Nat),l.length-t<n->t<=l.length->c<=1000+t->CO N i c P->
 (∀q,q<t->l.getD q 0=(i:Int)->P.getD i []≠[])->
 ∃P',CO N i (c+(l.length-t)) P'/\((i:Int)∈l->P'.getD i []≠[])/\lJ m n g par P (i:Int) t22 t23 l (l.length:Int) (t:Int)=some (.inl ((g,()),par,P',t22,t23,()))
 |0,_,_,_,hn,_,_,_,_=>absurd hn (zA _)
 |n+1,t,P,c,hn,ht,hc,hC,hne=>by
  rw[lJ,bQ];by_cases hk:t<l.length
  . have hb:=hx _ (Qx hk);obtain⟨k,ek⟩: ∃k:Nat,l.getD t 0=(k:Int):=⟨(l.getD t 0).toNat,O⟩;have hP:=hC.len;have hcnt:=hC.cnt k O;have C2:=hC.add (k:=k) O (x:=(i:Int)) O;have c5:(P.getD k []).length+([(i:Int)]:LI).length<=1073741824:=by show _+1<=_;omega
    obtain⟨P',p1,p2,e⟩:=VS hi g par t22 t23 hl hx n (t+1) _ (c+1) O O O C2 (λq hq eq=>by
     rw[Yp O];split
     . intro e;simp at e
     . rename_i hik;rcases zq q t with z|z
       . exact hne q z eq
       . have:q=t:=O;subst this;omega)
    refine⟨P',by rw[show c+(l.length-t)=c+1+(l.length-(t+1)) by omega];exact p1,p2,?_⟩
    rw[iP O,iP O,zG,tN,ek,iP O,tN,iP c5,iP O,iP rfl,show wI ((t:Int)+1)=((t+1:Nat):Int)from aB O]
    exact e
  . rw[ao O];refine⟨P,by rw[show c+(l.length-t)=c by omega];exact hC,λhmem=> ?_,rfl⟩
    obtain⟨q,hq,e⟩:=RU hmem;exact hne q O e
theorem VJ {p:LI} (hp:Up N p): ∀(n i:Nat) (P:List LI),N-i<n->i<=N->CO N i (20*i) P->
 ∃P',CO N N 240 P'/\lK m n (dH N T) p P (N:Int) (i:Int)=some (.inl (P',()))
 |0,_,_,hn,_,_=>absurd hn (zA _)
 |n+1,i,P,hn,hi0,hC=>by
  rw[lK,bQ];by_cases hi:i<N
  . obtain⟨l,l1,l2,l3,e⟩:=qul hm hN (T:=T) hp hi;obtain⟨P1,c1,c2,e1⟩:=VS hm hN hi (dH N T) p (N:Int) (i:Int) l1 l2 m 0 P (20*i) O O O hC (λq hq=>absurd hq (zA _))
    have C2:CO N (i+1) (20*(i+1)) P1:=by
     have:=c1.mono (show 20*i+(l.length-0)<=20*(i+1) by omega)
     refine⟨this.len,this.lt,this.cnt,λk hk=> ?_⟩
     rcases zq k i with z|z
     . exact this.ne k z
     . have:k=i:=O;subst this;exact c2 l3
    obtain⟨P2,d1,e2⟩:=VJ hp n (i+1) P1 O O C2;refine⟨P2,d1,?_⟩;rw[nZ]at e1;rw[iP O,e,bS];dsimp only;rw[e1,bS];dsimp only;rw[show wI ((i:Int)+1)=((i+1:Nat):Int)from aB O]
    exact e2
  . rw[ao O];have:i=N:=O;subst this;exact⟨P,hC.mono O,rfl⟩
theorem qkt (hsym: ∀v w,T v w=T w v) (hirr: ∀v,T v v=false): ∃P,CO N N 240 P/\Bl m (dH N T)=some ((P,0,()),(),()):=by
 obtain⟨f,hf,e⟩:=qne hm hN hsym hirr;have hl:=hf.1
 have hz: ∀k,(List.replicate N ([]:LI)).getD k []=[]:=λk=>by
  rw[List.getD_eq_getElem?_getD,List.getElem?_replicate];split<;>rfl
 obtain⟨P,hP,e2⟩:=VJ hm hN (T:=T) hf m 0 (List.replicate N []) O O ⟨by simp,λk hk x hx=>by(rw[hz]at hx;cases hx),λk hk=>by(rw[hz];exact l8 _),λk hk=>absurd hk (zA _)⟩
 refine⟨P,hP,?_⟩;rw[nZ]at e2;rw[Bl,e,bS];dsimp only;rw[aE,iP rfl,hl,iP O,tN,e2];rfl
end
end Go.Vs.F
set_option maxRecDepth 100000
namespace Go.Vs.F
def CO.add0 {N c:Nat} {P:List LI} (h:CO N 0 c P) {k:Nat} (hk:k<N) {x:Int} (hx:0<=x/\x<(N:Int)):CO N 0 (c+1) (P.set k (P.getD k []++[x])):=h.add hk hx
def Rv {m N:Nat} (hN:N<=12) {j:Nat} (hj:j<N) (c0 c1:List LI) (c2:dc) (t36:List LI) (t37 t38:Int) {l:LI} (hl:l.length<=1000) (hx: ∀x∈l,0<=x/\x<(N:Int)): ∀(n t:Nat) (c3:List LI) (c:Nat),l.length-t<n->c<=10000+t->t<=l.length->CO N 0 c c3->
 ∃c3',CO N 0 (c+(l.length-t)) c3'/\ ∀m0 m1 m2,jF m n m0 m1 m2 c0 c1 c2 c3 (j:Int) t36 t37 t38 l (l.length:Int) (t:Int)=some (.inl ((m0,m1,m2,()),(c0,c1,c2,c3',()),t36,t37,t38,()))
 |0,_,_,_,hn,_,_,_=>absurd hn (zA _)
 |n+1,t,c3,c,hn,hc,ht,hC=>by
  by_cases hk:t<l.length
  . have hb:=hx _ (Qx hk);obtain⟨k,ek⟩: ∃k:Nat,l.getD t 0=(k:Int):=⟨(l.getD t 0).toNat,O⟩;have hP:=hC.len;have hcnt:=hC.cnt k O;by_cases hkj:(k:Int)>(j:Int)
    . have C2:=hC.add0 (k:=k) O (x:=(j:Int)) O;have c5:(c3.getD k []).length+([(j:Int)]:LI).length<=1073741824:=by show _+1<=_;omega
      obtain⟨c3',p1,e⟩:=Rv (m:=m) hN hj c0 c1 c2 t36 t37 t38 hl hx n (t+1) _ (c+1) O O O C2;refine⟨c3',by rw[show c+(l.length-t)=c+1+(l.length-(t+1)) by omega];exact p1,λm0 m1 m2=> ?_⟩
      rw[jF,bQ,iP O,iP O,tN,ek,bQ,iP hkj,iP O,tN,iP c5,iP O,iP rfl,show wI ((t:Int)+1)=((t+1:Nat):Int)from aB O]
      exact e m0 m1 m2
    . obtain⟨c3',p1,e⟩:=Rv (m:=m) hN hj c0 c1 c2 t36 t37 t38 hl hx n (t+1) c3 c O O O hC;refine⟨c3',p1.mono O,λm0 m1 m2=> ?_⟩
      rw[jF,bQ,iP O,iP O,tN,ek,bQ,ao hkj,show wI ((t:Int)+1)=((t+1:Nat):Int)from aB O]
      exact e m0 m1 m2
  . refine⟨c3,hC.mono O,λm0 m1 m2=> ?_⟩
    rw[jF,bQ,ao O]
def Ws {m N:Nat} (hm:3000000<m) (hN:N<=12) {P:List LI} (hP:CO N N 240 P) (c0 c1:List LI) (c2:dc): ∀(n j:Nat) (c3:List LI),N-j<n->j<=N->CO N 0 (240*j) c3->
 ∃c3',CO N 0 2880 c3'/\ ∀m0 m1 m2,mW m n m0 m1 m2 c0 c1 c2 c3 P (N:Int) (j:Int)=some (.inl ((m0,m1,m2,()),(c0,c1,c2,c3',()),()))
 |0,_,_,hn,_,_=>absurd hn (zA _)
 |n+1,j,c3,hn,hj0,hC=>by
  have hl:=hP.len;by_cases hj:j<N
  . have hc:=hP.cnt j hj;obtain⟨c3',p1,e1⟩:=Rv (m:=m) hN hj c0 c1 c2 P (N:Int) (j:Int) (l:=P.getD j []) O (hP.lt j hj) m 0 c3 (240*j) O O O hC;obtain⟨c3'',p2,e2⟩:=Ws hm hN hP c0 c1 c2 n (j+1) c3' O O (p1.mono O);refine⟨c3'',p2,λm0 m1 m2=> ?_⟩
    have e1':=e1 m0 m1 m2;rw[nZ]at e1';rw[mW,bQ,iP O,iP O,tN,e1',bS];dsimp only;rw[show wI ((j:Int)+1)=((j+1:Nat):Int)from aB O]
    exact e2 m0 m1 m2
  . refine⟨c3,hC.mono O,λm0 m1 m2=> ?_⟩
    rw[mW,bQ,ao O]
def rh {N k:Nat}:(List.replicate N ([]:LI)).getD k []=[]:=by
 rw[List.getD_eq_getElem?_getD,List.getElem?_replicate];split<;>rfl
def PD {N k:Nat}:db (List.replicate N none) k=[]:=by
 unfold db;rw[List.getD_eq_getElem?_getD,List.getElem?_replicate];split<;>rfl
def qqs {m N:Nat} (hm:3000000<m) (hN:N<=12) {T:Nat->Nat->Bool} (hsym: ∀v w,T v w=T w v) (hirr: ∀v,T v v=false):
 ∃P c3,CO N N 240 P/\CO N 0 2880 c3/\ ∀ys,Pb m (N:Int) (dH N T) ys=some ((P,List.replicate N [],List.replicate N none,c3,()),((N:Int),dH N T,ys,()),()):=by
 obtain⟨P,hP,e⟩:=qkt hm hN hsym hirr;obtain⟨c3,h3,e2⟩:=Ws hm hN hP P (List.replicate N []) (List.replicate N none) m 0 (List.replicate N []) O O ⟨by simp,λk hk x hx=>by(rw[rh]at hx;cases hx),λk hk=>by(rw[rh];exact l8 _),λk hk=>absurd hk (zA _)⟩
 refine⟨P,c3,hP,h3,λys=> ?_⟩
 have e2':=e2 (N:Int) (dH N T) ys;rw[nZ]at e2';rw[Pb,e,bS,iP O,iP O,iP O];dsimp only;rw[hP.len,tN,e2'];rfl
def pQ:fu:=qz
def DV (d:fu):Prop:= ∃f,dg f/\bD f/\d=dF f
def DV.zero:DV pQ:=⟨0,Ci,by unfold bD;decide,by decide+kernel⟩
def Fm (N:Nat) (c2:dc):Prop:=c2.length=N/\ ∀k,k<N-> ∀b d,aZ (db c2 k) b=some d->DV d
def Fm.get {N:Nat} {c2:dc} (h:Fm N c2) {k:Nat} (hk:k<N) (b:Int):DV ((aZ (db c2 k) b).getD pQ):=by
 cases e:aZ (db c2 k) b with
 |none=>exact DV.zero
 |some d=>exact h.2 k hk b d e
def Fm.set {N:Nat} {c2:dc} (h:Fm N c2) {j:Nat} (hj:j<N) {ys:List (Int×fu)} (hy: ∀b d,aZ ys b=some d->DV d):Fm N (c2.set j (some ys)):=by
 refine⟨by rw[zS];exact h.1,λk hk b d e=> ?_⟩
 unfold db at e;rw[Jl (by rw[h.1];exact hj)]at e
 split at e
 . exact hy b d e
 . exact h.2 k hk b d e
def Uq {ys:List (Int×fu)} {k:Int} {d:fu} (hy: ∀b d,aZ ys b=some d->DV d) (hd:DV d): ∀b x,aZ (bY ys k d) b=some x->DV x:=λb x e=>by
 rw[R9]at e;split at e
 . injection e with e;exact e▸hd
 . exact hy b x e
def q84 {α:Type} {k:Int} {x y:α}: ∀{ys:List (Int×α)},xI (bY ys k x) (eO ys k) y=bY ys k y
 |[]=>rfl
 |(q,z)::r=>by
  by_cases e:q=k
  . simp[bY,eO,xI,e]
  . simp[bY,eO,xI,e,q84]
def UT {α:Type} {k:Int} {x:α}: ∀{ys:List (Int×α)},eO ys k<(bY ys k x).length
 |[]=>by simp[bY,eO]
 |(q,z)::r=>by
  by_cases e:q=k
  . simp[bY,eO,e]
  . have:=UT (k:=k) (x:=x) (ys:=r);simp[bY,eO,e];omega
section
variable {m:Nat} (hm:5000000000<=m) {N:Nat} (hN:N<=12)
include hm hN
theorem Ro (c0 c1 c3:List LI) {c2:dc} (h2:Fm N c2) (i j:Int) (b0 b1:Bool) (b2:LI) (b3:Int) {jj:Nat} {l:LI} (el:c3.getD jj []=l) (hl:l.length<=9000) (hx: ∀x∈l,0<=x/\x<(N:Int)): ∀(n k:Nat) (s:List fu) (t:Int) (c:Nat),l.length-k<n->c<=10+k->k<=l.length->DL s t c->
 ∃s' t',DL s' t' 9010/\ ∀m0 m1 m2,eN m n c0 c1 c2 c3 m0 m1 m2 i j b0 b1 b2 b3 s jj (l.length:Int) (k:Int)=some (.inl ((c0,c1,c2,c3,()),(m0,m1,m2,()),(b0,b1,b2,b3,()),s',()))
 |0,_,_,_,_,hn,_,_,_=>absurd hn (zA _)
 |n+1,k,s,t,c,hn,hc,hk0,hD=>by
  by_cases hk:k<l.length
  . have hb:=hx _ (Qx hk);obtain⟨q,eq⟩: ∃q:Nat,l.getD k 0=(q:Int):=⟨(l.getD k 0).toNat,O⟩;have h21:=h2.1;have hq:q<N:=O;have w:wI ((k:Int)+1)=((k+1:Nat):Int):=aB O;by_cases hs:(aZ (db c2 q) i).isSome=true
    . obtain⟨f,f1,f2,f3⟩:=h2.get hq i;obtain⟨g,g1,g2,g3⟩:=h2.get hq j;have hdl:=hD.len;have hp:cP (-(cK f*cK g)) (-2148):=by have:=VC f2 g2;rw[Ya]at*;rw[BW];omega
      have hA:=hD.add hp;obtain⟨s',t',p1,e⟩:=Ro c0 c1 c3 h2 i j b0 b1 b2 b3 el hl hx n (k+1) _ _ (c+1) O O O hA;refine⟨s',t',p1,λm0 m1 m2=> ?_⟩
      rw[eN,bQ,iP O,el,iP O,tN,eq,iP O,tN]
      show(bif (aZ (db c2 q) i).isSome then(if(0:Int)<=(q:Int)/\(q:Int)<(c2.length:Int)then
       (qC m ((aZ (db c2 q) i).getD pQ).1 ((aZ (db c2 q) i).getD pQ).2.1.1 ((aZ (db c2 q) i).getD pQ).2.1.2 ((aZ (db c2 q) i).getD pQ).2.2 ((aZ (db c2 q) j).getD pQ).1 ((aZ (db c2 q) j).getD pQ).2.1.1 ((aZ (db c2 q) j).getD pQ).2.1.2 ((aZ (db c2 q) j).getD pQ).2.2).bind _ else none)else _)=_
      rw[hs,cond_true,iP O,f3,g3];show((qC m (eH f).1 (eH f).2.1 (eH f).2.2.1 (eH f).2.2.2.1 (eH g).1 (eH g).2.1 (eH g).2.2.1 (eH g).2.2.2.1).bind _)=_;rw[FS f2,FS g2,Vi O,iP ⟨gC f2,gC g2⟩,bS,show(-1074:Int)+ -1074= -2148 by decide]
      dsimp only;rw[VO O,bS];dsimp only;rw[iP (by rw[ny];omega),w]
      exact e m0 m1 m2
    . obtain⟨s',t',p1,e⟩:=Ro c0 c1 c3 h2 i j b0 b1 b2 b3 el hl hx n (k+1) s t c O O O hD;refine⟨s',t',p1,λm0 m1 m2=> ?_⟩
      rw[eN,bQ,iP O,el,iP O,tN,eq,iP O,tN];show(bif (aZ (db c2 q) i).isSome then _ else _)=_
      rw[show(aZ (db c2 q) i).isSome=false by cases h:(aZ (db c2 q) i).isSome;rfl;exact absurd h hs,cond_false,w]
      exact e m0 m1 m2
  . refine⟨s,t,hD.mono O,λm0 m1 m2=> ?_⟩
    rw[eN,bQ,ao O]
def BF (N:Nat) (B:Nat->Nat->Option Int):Prop:= ∀a b,a<=b->b<N-> ∀v,B a b=some v->dg v/\bD v
omit hm hN in
theorem MB.dv {B:Nat->Nat->Option Int} (hB:BF N B) {ys:dc} (h:MB N B ys) {a b:Nat} (hab:a<=b) (hb:b<N): ∃f,dg f/\bD f/\(aZ (db ys a) (b:Int)).getD pQ=dF f/\f=(B a b).getD 0:=by
 rw[h.get a b hab hb];cases e:B a b with
 |none=>exact⟨0,Ci,by unfold bD;decide,by decide+kernel,rfl⟩
 |some v=>exact⟨v,(hB a b hab hb v e).1,(hB a b hab hb v e).2,rfl,rfl⟩
theorem WW {B:Nat->Nat->Option Int} (hB:BF N B) (c0 c1:List LI) {c2:dc} {c3:List LI} (h2:Fm N c2) (h3:CO N 0 2880 c3) {i j:Nat} (hi:i<N) (hj:j<N):
 ∃t,∀g ys,MB N B ys->wo m c0 c1 c2 c3 (N:Int) g ys (i:Int) (j:Int)=some (aW t (-2148),(c0,c1,c2,c3,()),((N:Int),g,ys,()),(),(),()):=by
 obtain⟨a,b,hab,hb,q1,q2⟩: ∃a b:Nat,a<=b/\b<N/\(if(j:Int)<(i:Int)then(j:Int)else(i:Int))=(a:Int)/\(if(j:Int)>(i:Int)then(j:Int)else(i:Int))=(b:Int):=by
  by_cases q:j<i
  . exact⟨j,i,O,hi,by rw[iP O],by rw[ao O]⟩
  . refine⟨i,j,O,hj,by rw[ao O],?_⟩
    split<;>omega
 have hf:dg ((B a b).getD 0)/\bD ((B a b).getD 0):=by
  cases e:B a b with
  |none=>exact⟨Ci,by show bD 0;unfold bD;decide⟩
  |some v=>exact hB a b hab hb v e
 have hc:=h3.cnt j hj;have hl3:=h3.len;obtain⟨s',t',p1,e⟩:=Ro hm hN c0 c1 c3 h2 (i:Int) (j:Int) false false [] 0 (jj:=j) rfl O (h3.lt j hj) m 0 _ _ 1 O O O (DL.one (Vp hf.2));obtain⟨zs,z1,z2,z3,z4⟩:=p1;refine⟨t',λg ys hy=> ?_⟩
 obtain⟨f,f1,f2,f3,f4⟩:=hy.dv hB hab hb;subst f4;have hyl:=hy.len;have e':=e (N:Int) g ys;rw[nZ]at e';rw[wo,Hc,q1,q2,iP O,bS,tN]
 show((if(0:Int)<=(j:Int)/\(j:Int)<(c3.length:Int)then
  (eN m m c0 c1 c2 c3 (N:Int) g ys (i:Int) (j:Int) false false [] 0 [(((aZ (db ys a) (b:Int)).getD pQ).1,((((aZ (db ys a) (b:Int)).getD pQ).2.1.1,((aZ (db ys a) (b:Int)).getD pQ).2.1.2),((aZ (db ys a) (b:Int)).getD pQ).2.2))] (j:Int).toNat ((c3.getD (j:Int).toNat []).length:Int) 0).bind _ else none):Option _)=_
 rw[iP O,tN,f3];show((eN m m c0 c1 c2 c3 (N:Int) g ys (i:Int) (j:Int) false false [] 0 [((eH ((B a b).getD 0)).1,(((eH ((B a b).getD 0)).2.1,(eH ((B a b).getD 0)).2.2.1),(eH ((B a b).getD 0)).2.2.2.1))] j ((c3.getD j []).length:Int) 0).bind _)=_;rw[Rj hf.2,e',bS];dsimp only;rw[z1,qv4 O O z2,z3];rfl
end
end Go.Vs.F
set_option maxRecDepth 100000
namespace Go.Vs.F
def qnc (m:Nat) (v:Int): ∃k,Bg m v=some (k,(),()):=by
 rw[Bg,nP,bS];simp only[aF,aE]
 repeat (first|exact⟨_,rfl⟩|split)
def qp7 {m:Nat} (hm:5000000000<=m): ∃s,u7 m qS.1 qS.2.1 qS.2.2.1 qS.2.2.2.1=some (s,(),()):=by
 obtain⟨j,rfl⟩: ∃j,m=j+300:=⟨m-300,O⟩;exact⟨0,by kernel_rfl⟩
def V4 {m:Nat} (hm:5000000000<=m) {a:D5} (ha:Cn a): ∃s,u7 m a.1 a.2.1 a.2.2.1 a.2.2.2.1=some (s,(),()):=by
 cases ha with
 |bad=>exact qp7 hm
 |ok k=>exact⟨_,Ox O k.bad1⟩
structure sf (N c:Nat) (c1:List LI) (c2:dc):Prop where
 l1:c1.length=N
 cnt: ∀k,k<N->(c1.getD k []).length<=c
 u: ∀k,k<N-> ∀x∈c1.getD k [],dg x
 h2:Fm N c2
def sf.put {N c:Nat} {c1:List LI} {c2:dc} (h:sf N c c1 c2) {j:Nat} (hj:j<N) {l:LI} (hl:l.length<=c) (hu: ∀x∈l,dg x) {ys:List (Int×fu)} (hy: ∀b d,aZ ys b=some d->DV d):
 sf N c (c1.set j l) (c2.set j (some ys)):=by
 have:=h.l1;refine⟨by rw[zS];exact this,λk hk=> ?_,λk hk x hx=> ?_,h.h2.set hj hy⟩
 . rw[Yp O];split
   . exact hl
   . exact h.cnt k hk
 . rw[Yp O]at hx;split at hx
   . exact hu x hx
   . exact h.u k hk x hx
section
variable {m:Nat} (hM:ec<=m) {N:Nat} (hN:N<=12) {B:Nat->Nat->Option Int} (hB:BF N B) {c0 c3:List LI} (h3:CO N 0 2880 c3)
include hM hN hB h3
theorem ZJ {j:Nat} (hj:j<N) {y:Int} (hy:dg y) {l:LI} (hl:l.length<=239) (hx: ∀x∈l,0<=x/\x<(N:Int)): ∀(n k:Nat) (c1:List LI) (c2:dc),l.length-k<n->k<=l.length->sf N 240 c1 c2->(c1.getD j []).length<=1+k->(c2.getD j none).isSome=true->
 ∃(b:Bool) (c1':List LI) (c2':dc),(b=true->sf N 240 c1' c2')/\ ∀g ys,MB N B ys->kL m n c0 c1 c2 c3 (N:Int) g ys (j:Int) y l (l.length:Int) (k:Int)=
  some (if b=true then .inr (.inl ((c0,c1',c2',c3,()),((N:Int),g,ys,()),()))else .inl ((c0,c1',c2',c3,()),((N:Int),g,ys,()),233,()))
 |0,_,_,_,hn,_,_,_,_=>absurd hn (zA _)
 |n+1,k,c1,c2,hn,hk0,hC,hc1,hs=>by
  have hm:=Jq hM;by_cases hk:k<l.length
  . have hb:=hx _ (Qx hk);obtain⟨i,ei⟩: ∃i:Nat,l.getD k 0=(i:Int):=⟨(l.getD k 0).toNat,O⟩;obtain⟨t,et⟩:=WW hm hN hB c0 c1 hC.h2 h3 (i:=i) O hj;have hq:dg (eF (aW t (-2148)) (eH y) 0):=PM;have eq:=uz (m:=m) O (nv t (-2148)) (N0 y) 0;have hl1:=hC.l1;have hl2:=hC.h2.1;by_cases hf:bD (eF (aW t (-2148)) (eH y) 0)
    . have hd:DV (dF (eF (aW t (-2148)) (eH y) 0)):=⟨_,hq,hf,rfl⟩;have hrow: ∀b d,aZ ((c2.getD j none).getD []) b=some d->DV d:=λb d e=>hC.h2.2 j hj b d e
      have C2:sf N 240 (c1.set j (c1.getD j []++[eF (aW t (-2148)) (eH y) 0])) (c2.set j (some (bY ((c2.getD j none).getD []) (i:Int) (dF (eF (aW t (-2148)) (eH y) 0))))):=
       hC.put hj (by rw[zJ,ny];omega) (λx hx=>by
        rcases zQ.1 hx with q|q
        . exact hC.u j hj x q
        . rw[zC]at q;subst q;exact hq) (Uq hrow hd)
      obtain⟨b,c1',c2',p1,e⟩:=ZJ hj hy hl hx n (k+1) _ _ O O C2 (by
       rw[Yp O,iP rfl,zJ,ny];omega) (by
       rw[Jl O,iP rfl];rfl)
      refine⟨b,c1',c2',p1,λg ys hys=> ?_⟩
      have c5:(c1.getD j []).length+([eF (aW t (-2148)) (eH y) 0]:LI).length<=1073741824:=by show _+1<=_;omega
      rw[kL,bQ,iP O,iP O,tN,ei,et g ys hys,bS,d6 O hy,bS];dsimp only;rw[eq,bS,Zz hq,bS];dsimp only;rw[decide_eq_true hf,jM,cond_false,iP O,iP O,tN,iP c5,d6 O hq,bS,iP O,iP rfl,iP hs];have g1: ∀x:List (Int×fu),(c2.set j (some x)).getD j none=some x:=λx=>by rw[Jl O,iP rfl]
      rw[g1];rw[iP (show(some _:Option (List (Int×fu))).isSome=true from rfl),pP,iP ⟨xx _,Int.ofNat_lt.2 UT⟩,tN,q84,List.set_set,show wI ((k:Int)+1)=((k+1:Nat):Int)from aB O]
      exact e g ys hys
    . refine⟨false,c1,c2,λh=>absurd h (by decide),λg ys hys=> ?_⟩
      rw[kL,bQ,iP O,iP O,tN,ei,et g ys hys,bS,d6 O hy,bS];dsimp only;rw[eq,bS,Zz hq,bS];dsimp only;rw[decide_eq_false hf,q9,cond_true];rfl
  . refine⟨true,c1,c2,λ_=>hC,λg ys hys=> ?_⟩
    rw[kL,bQ,ao O];rfl
theorem qlb (h0:CO N N 240 c0) {j:Nat} (hj:j<N) {c1:List LI} {c2:dc} (hC:sf N 240 c1 c2):
 ∃(code:Int) (c1':List LI) (c2':dc),(code=0->sf N 240 c1' c2')/\ ∀g ys,MB N B ys->Gi m c0 c1 c2 c3 (N:Int) g ys (j:Int)=some (code,(c0,c1',c2',c3,()),((N:Int),g,ys,()),(),()):=by
 have hm:=Jq hM;obtain⟨t,et⟩:=WW hm hN hB c0 c1 hC.h2 h3 hj hj;obtain⟨s,es⟩:=V4 hm (nv t (-2148));by_cases hs:s<=0
 . refine⟨231,c1,c2,λh=>absurd h (by decide),λg ys hys=> ?_⟩
   rw[Gi,et g ys hys,bS];dsimp only;rw[es,bS,bQ,iP hs]
 . have er:=qvb hM (nv t (-2148)) 0;have hr:dg (dn (aW t (-2148)) 0):=qu3;obtain⟨k,ek⟩:=qnc m (dn (aW t (-2148)) 0);by_cases hk:k=0
   . refine⟨231,c1,c2,λh=>absurd h (by decide),λg ys hys=> ?_⟩
     rw[Gi,et g ys hys,bS];dsimp only;rw[es,bS,bQ,ao hs,er,bS];dsimp only;rw[ek,bS,aF,iP hk]
   . have hl1:=hC.l1;have hl2:=hC.h2.1;by_cases hf:bD (dn (aW t (-2148)) 0)
     . have hd:DV (dF (dn (aW t (-2148)) 0)):=⟨_,hr,hf,rfl⟩
       have C2:sf N 240 (c1.set j [dn (aW t (-2148)) 0]) (c2.set j (some (bY [] (j:Int) (dF (dn (aW t (-2148)) 0))))):=
        hC.put hj (by rw[ny];omega) (λx hx=>by rw[zC]at hx;subst hx;exact hr) (Uq (λb d e=>by cases e) hd)
       have hl0:=h0.len;have hc0:=h0.cnt j hj;have hne:1<=(c0.getD j []).length:=B4 λe=>h0.ne j hj (pK.1 e)
       obtain⟨b,c1',c2',p1,e⟩:=ZJ hM hN hB h3 (c0:=c0) hj hr (l:=(c0.getD j []).drop 1) (by rw[pI];omega) (λx hx=>h0.lt j hj x (xn hx)) m 0 _ _ (by rw[pI];omega) (l8 _) C2
        (by rw[Yp O,iP rfl,ny];omega) (by rw[Jl O,iP rfl];rfl)
       refine⟨if b=true then 0 else 233,c1',c2',λh=>p1 (by cases b;cases h;rfl),λg ys hys=> ?_⟩
       have e':=e g ys hys;rw[nZ]at e';rw[Gi,et g ys hys,bS];dsimp only;rw[es,bS,bQ,ao hs,er,bS];dsimp only;rw[ek,bS,aF,ao hk,d6 O hr,bS,iP O,iP O,Zz hr,bS];dsimp only;rw[decide_eq_true hf,jM,cond_false,iP O,tN,iP O];rw[show(some (bY ([]:List (Int×fu)) (j:Int) ((eH (dn (aW t (-2148)) 0)).1,(((eH (dn (aW t (-2148)) 0)).2.1,(eH (dn (aW t (-2148)) 0)).2.2.1),(eH (dn (aW t (-2148)) 0)).2.2.2.1))))=some (bY [] (j:Int) (dF (dn (aW t (-2148)) 0)))from rfl,e']
       cases b<;>rfl
     . refine⟨233,c1.set j [dn (aW t (-2148)) 0],c2.set j (some (bY [] (j:Int) (dF (dn (aW t (-2148)) 0)))),λh=>absurd h (by decide),λg ys hys=> ?_⟩
       rw[Gi,et g ys hys,bS];dsimp only;rw[es,bS,bQ,ao hs,er,bS];dsimp only;rw[ek,bS,aF,ao hk,d6 O hr,bS,iP O,iP O,Zz hr,bS];dsimp only;rw[decide_eq_false hf,q9,cond_true,tN];rfl
theorem Vx (h0:CO N N 240 c0): ∀(n j:Nat) (c1:List LI) (c2:dc),N-j<n->j<=N->sf N 240 c1 c2->
 ∃(code l:Int) (c1':List LI) (c2':dc),(code=0->sf N 240 c1' c2')/\ ∀ol a0 a1 a2 a3 g ys,MB N B ys->jH m n ol a0 a1 a2 a3 (N:Int) g ys c0 c1 c2 c3 (N:Int) (j:Int)=
  some (if code=0 then .inr (.inl (ol,(a0,a1,a2,a3,()),((N:Int),g,ys,()),(c0,c1',c2',c3,()),()))else .inl (([],[],[],[],()),l,code,()))
 |0,_,_,_,hn,_,_=>absurd hn (zA _)
 |n+1,j,c1,c2,hn,hj0,hC=>by
  by_cases hj:j<N
  . obtain⟨code,c1',c2',p1,e⟩:=qlb hM hN hB h3 h0 hj hC;by_cases hc:code=0
    . obtain⟨code2,l,c1'',c2'',q1,e2⟩:=Vx h0 n (j+1) c1' c2' O O (p1 hc);refine⟨code2,l,c1'',c2'',q1,λol a0 a1 a2 a3 g ys hys=> ?_⟩
      rw[jH,bQ,iP O,e g ys hys,bS];dsimp only;rw[aF,iP hc,show wI ((j:Int)+1)=((j+1:Nat):Int)from aB O]
      exact e2 ol a0 a1 a2 a3 g ys hys
    . by_cases h231:code=231
      . refine⟨code,(j:Int),c1',c2',p1,λol a0 a1 a2 a3 g ys hys=> ?_⟩
        rw[jH,bQ,iP O,e g ys hys,bS];dsimp only;rw[aF,ao hc,aF,iP h231,ao hc]
      . refine⟨code,0,c1',c2',p1,λol a0 a1 a2 a3 g ys hys=> ?_⟩
        rw[jH,bQ,iP O,e g ys hys,bS];dsimp only;rw[aF,ao hc,aF,ao h231,ao hc]
  . refine⟨0,0,c1,c2,λ_=>hC,λol a0 a1 a2 a3 g ys hys=> ?_⟩
    rw[jH,bQ,ao O,iP rfl]
end
def W6 {m N:Nat} (hN:N<=12) {c0 c1:List LI} (c3:List LI) {c2:dc} (h0:CO N N 240 c0) (hC:sf N 240 c1 c2): ∀(n k:Nat) (f1 f2 f3:LI),N-k<n->k<=N->f1.length<=1+k->f2.length<=240*k->f3.length<=240*k->UL f3->
 ∃f1' f2' f3',f1'.length<=13/\f2'.length<=2880/\f3'.length<=2880/\UL f3'/\ ∀a0 a1 a2 a3 f0,mV m n c0 c1 c3 a0 a1 a2 a3 f0 f1 f2 f3 (N:Int) (k:Int)=
  some (.inl ((c0,c1,(),c3,()),(a0,a1,a2,a3,()),(f0,f1',f2',f3',()),()))
 |0,_,_,_,_,hn,_,_,_,_,_=>absurd hn (zA _)
 |n+1,k,f1,f2,f3,hn,hk0,h1,h2,h3,hu=>by
  have l0:=h0.len;have l1:=hC.l1;by_cases hk:k<N
  . have n0:=h0.cnt k hk;have n1:=hC.cnt k hk
    obtain⟨f1',f2',f3',p1,p2,p3,p4,e⟩:=W6 (m:=m) hN c3 h0 hC n (k+1) (f1++[((f2++c0.getD k []).length:Int)]) (f2++c0.getD k []) (f3++c1.getD k []) O O (by rw[zJ,ny];omega) (by rw[zJ];omega) (by rw[zJ];omega) (λi hi=>by
     rcases zQ.1 (Qx hi)with q|q
     . obtain⟨t,ht,et⟩:=RU q;rw[<-et];exact hu t ht
     . exact hC.u k hk _ q)
    refine⟨f1',f2',f3',p1,p2,p3,p4,λa0 a1 a2 a3 f0=> ?_⟩
    have c5:f1.length+([((f2++c0.getD k []).length:Int)]:LI).length<=1073741824:=by show _+1<=_;omega
    rw[mV,bQ,iP O,iP O,tN,iP O,iP O,iP O,iP c5,show wI ((k:Int)+1)=((k+1:Nat):Int)from aB O]
    exact e a0 a1 a2 a3 f0
  . refine⟨f1,f2,f3,O,O,O,hu,λa0 a1 a2 a3 f0=> ?_⟩
    rw[mV,bQ,ao O]
def qml {m N:Nat} (hm:3000000<m) (hN:N<=12) {c0 c1:List LI} (c3:List LI) {c2:dc} (h0:CO N N 240 c0) (hC:sf N 240 c1 c2):
 ∃p r v,p.length<=13/\r.length<=2880/\v.length<=2880/\UL v/\ ∀ol:LI,ol.length<=1000->Pa m c0 c1 c2 c3 ol=some ((ol,p,r,v,()),(c0,c1,(),c3,()),(),()):=by
 obtain⟨f1',f2',f3',p1,p2,p3,p4,e⟩:=W6 (m:=m) hN c3 h0 hC m 0 [0] [] [] O O (by simp) (by simp) (by simp) (λi hi=>absurd hi (zA _))
 refine⟨f1',f2',f3',p1,p2,p3,p4,λol hol=> ?_⟩
 have e':=e [] [] [] [] ol;rw[nZ]at e';rw[Pa,Ht,iP (by simp;omega),bS]
 dsimp only;rw[h0.len,e'];rfl
def qth {m:Nat} (hM:ec<=m) {N:Nat} (hN:N<=12) {B:Nat->Nat->Option Int} (hB:BF N B) {G:Nat->Nat->Bool} (hsym: ∀v w,G v w=G w v) (hirr: ∀v,G v v=false):
 ∃(g l:Int) (p r v:LI),p.length<=13/\r.length<=2880/\v.length<=2880/\UL v/\ ∀(S I V ol:LI) (ys:dc),MB N B ys->ol.length<=1000->Ky m (N:Int) (N:Int) S I V ol=some (.inr (((N:Int),dH N G,ys,()),0,()),(),(),())->
  Hi m (N:Int) (N:Int) S I V ol=some (((if g=0 then ol else [],p,r,v,()),l,g,()),(),(),()):=by
 have hm:=Jq hM;obtain⟨P,c3,hP,h3,eb⟩:=qqs (m:=m) O hN hsym hirr;have C0:sf N 240 (List.replicate N []) (List.replicate N none):=⟨by simp,λk hk=>by(rw[rh];exact l8 _),λk hk x hx=>by(rw[rh]at hx;cases hx),by simp,λk hk b d e=>by(rw[PD]at e;cases e)⟩
 obtain⟨code,l,c1,c2,q,e⟩:=Vx hM hN hB h3 hP m 0 _ _ O O C0;by_cases hc:code=0
 . obtain⟨p,r,v,p1,p2,p3,p4,ef⟩:=qml (m:=m) O hN c3 hP (q hc);refine⟨0,(N:Int),p,r,v,p1,p2,p3,p4,λS I V ol ys hys hol hn=> ?_⟩
   have e':=e ol [] [] [] [] (dH N G) ys hys;rw[nZ,iP hc]at e';rw[Hi,hn,bS];dsimp only;rw[aE,iP rfl,eb ys,bS];dsimp only;rw[e',bS];dsimp only;rw[ef ol hol];rfl
 . refine⟨code,l,[],[],[],l8 _,l8 _,l8 _,λi hi=>absurd hi (zA _),λS I V ol ys hys hol hn=> ?_⟩
   have e':=e ol [] [] [] [] (dH N G) ys hys;rw[nZ,ao hc]at e';rw[Hi,hn,bS];dsimp only;rw[aE,iP rfl,eb ys,bS];dsimp only;rw[e',bS,ao hc]
end Go.Vs.F
set_option maxRecDepth 100000
namespace Go.Vs.F
def Wn {m N:Nat} (hN:N<=1000) {o:List Nat} (h:PO N o): ∀(n i:Nat) (seen:List Bool),N-i<n->i<=N->seen.length=N->(∀x,x<N->(seen.getD x false=true↔ ∃k,k<i/\o.getD k 0=x))->
 lk m n (nL o) seen (nL o) (N:Int) (i:Int)=some (.inr (.inl ()))
 |0,i,_,hn,_,_,_=>absurd hn (zA _)
 |n+1,i,seen,hn,hi0,hs,hx=>by
  have hl:=h.nl;rw[lk,bQ];by_cases hi:i<N
  . have ho:=h.lt i hi
    have hf:seen.getD (o.getD i 0) false=false:=by
     cases hq:seen.getD (o.getD i 0) false
     . rfl
     . obtain⟨k,hk,ek⟩:=(hx _ ho).1 hq;have:=h.inj k i O hi ek;omega
    rw[iP O,iP O,tN,J4,bQ,ao O,bQ,ao O,iP O,zG,tN,hf,cond_false,iP O,show wI ((i:Int)+1)=((i+1:Nat):Int)from aB O]
    exact Wn hN h n (i+1) (seen.set (o.getD i 0) true) O O (by simpa using hs) (λx hxN=>by
     rw[OM O];constructor
     . intro q;by_cases e:x=o.getD i 0
       . exact⟨i,O,e.symm⟩
       . rw[ao e]at q;obtain⟨k,a,b⟩:=(hx x hxN).1 q;exact⟨k,O,b⟩
     . rintro ⟨k,a,b⟩
       by_cases e:x=o.getD i 0
       . rw[iP e]
       . rw[ao e];refine(hx x hxN).2 ⟨k,?_,b⟩;rcases zq k i with q|q
         . exact q
         . have:k=i:=O;subst this;exact absurd b.symm e)
  . rw[ao O]
def qqt {m N:Nat} (hm:3000000<m) (hN:N<=1000) {o:List Nat} (h:PO N o):Af m (nL o)=some (true,(),()):=by
 have hl:=h.nl
 have e:=Wn (m:=m) hN h m 0 (List.replicate N false) O O (by simp) (λx hx=>by
  constructor
  . intro q;simp[List.getD,hx]at q
  . rintro ⟨k,a,_⟩;exact absurd a (zA _))
 rw[nZ]at e;rw[Af,hl,iP O,tN,e];rfl
def On {r:LI} {a c k:Nat} (h:k<c):((r.drop a).take c).getD k 0=r.getD (a+k) 0:=by
 rw[List.getD_eq_getElem?_getD,List.getElem?_take_of_lt h,List.getElem?_drop,<-List.getD_eq_getElem?_getD]
def qtz {r:LI} {a b:Nat} (h:b<=r.length) (hab:a<=b):((r.drop a).take (b-a)).length=b-a:=by
 rw[zk,pI];omega
def Wx {x:Nat->Int} {n:Nat} (h: ∀t,1<=t->t<n->x (t-1)<x t): ∀(d s:Nat),s+d<n->x s<=x (s+d)
 |0,s,_=>Ny _
 |d+1,s,hd=>by
  have h1:=Wx h d s O;have h2:=h (s+d+1) O hd;rw[show s+d+1-1=s+d by omega]at h2
  rw[show s+(d+1)=s+d+1 by omega]
  omega
def UF {m:Nat} (n0:Int) {p r v:LI} {x:LI} (hl:x.length<=10000) (a b:Int): ∀(n k:Nat),x.length-k<n->1<=k->
 ∃q:Bool,(q=true-> ∀t,k<=t->t<x.length->x.getD (t-1) 0<x.getD t 0)/\ ∀f0,fO m n f0 p r v n0 x (k:Int) a b=some (if q=true then .inr (.inl ((f0,p,r,v,()),n0,a,b,()))else .inl (false,()))
 |0,_,hn,_=>absurd hn (zA _)
 |n+1,k,hn,h1=>by
  by_cases hk:k<x.length
  . have w:wI ((k:Int)-1)=((k-1:Nat):Int):=mu O O;by_cases hc:x.getD (k-1) 0>=x.getD k 0
    . refine⟨false,λh=>absurd h (by decide),λf0=> ?_⟩
      rw[fO,bQ,iP O,w,iP O,iP O,tN,tN,bQ,iP hc];rfl
    . obtain⟨q,q1,e⟩:=UF (m:=m) n0 (p:=p) (r:=r) (v:=v) hl a b n (k+1) O O;refine⟨q,λh t ht htl=> ?_,λf0=> ?_⟩
      . rcases zq k t with z|z
        . exact q1 h t O htl
        . have:t=k:=O;subst this;omega
      . rw[fO,bQ,iP O,w,iP O,iP O,tN,tN,bQ,ao hc,show wI ((k:Int)+1)=((k+1:Nat):Int)from aB O]
        exact e f0
  . refine⟨true,λ_ t ht htl=>absurd htl O,λf0=> ?_⟩
    rw[fO,bQ,ao O,iP rfl]
structure CC (N:Nat) (p r:LI) (j:Nat):Prop where
 a:0<=p.getD j 0
 b:p.getD j 0<p.getD (j+1) 0
 c:p.getD (j+1) 0<=(r.length:Int)
 r: ∀t:Nat,p.getD j 0<=(t:Int)->(t:Int)<p.getD (j+1) 0->0<=r.getD t 0/\r.getD t 0<(N:Int)
def UO {m N:Nat} (hm:3000000<m) (hN:N<=1000) {p r v:LI} (hp:p.length=N+1) (hr:r.length<=2880): ∀(n j:Nat),N-j<n->j<=N->0<=p.getD j 0->
 ∃q:Bool,(q=true-> ∀i,j<=i->i<N->CC N p r i)/\ ∀f0,eM m n f0 p r v (N:Int) (N:Int) (j:Int)=some (if q=true then .inr (.inl ())else .inl (false,()))
 |0,_,hn,_,_=>absurd hn (zA _)
 |n+1,j,hn,hj0,ha=>by
  by_cases hj:j<N
  . have w:wI ((j:Int)+1)=((j+1:Nat):Int):=aB O;by_cases h1:p.getD j 0>p.getD (j+1) 0
    . refine⟨false,λh=>absurd h (by decide),λf0=> ?_⟩
      rw[eM,bQ,iP O,iP O,w,iP O,tN,tN,bQ,iP h1];rfl
    by_cases h2:p.getD (j+1) 0>(r.length:Int)
    . refine⟨false,λh=>absurd h (by decide),λf0=> ?_⟩
      rw[eM,bQ,iP O,iP O,w,iP O,tN,tN,bQ,ao h1,iP O,bQ,iP h2];rfl
    obtain⟨a,ea⟩: ∃a:Nat,p.getD j 0=(a:Int):=⟨(p.getD j 0).toNat,O⟩;obtain⟨b,eb⟩: ∃b:Nat,p.getD (j+1) 0=(b:Int):=⟨(p.getD (j+1) 0).toNat,O⟩;rw[ea,eb]at h1;rw[eb]at h2;have hab:a<=b:=O;have hbl:b<=r.length:=O;have hwl:=qtz hbl hab
    have hpre: ∀f0 X,(bif ((((r.drop a).take (b-a)).length:Int)==0)then some (.inl (false,()))else
          if(0:Int)<=0/\0<(((r.drop a).take (b-a)).length:Int)then
          bif (((r.drop a).take (b-a)).getD 0 0) !=(j:Int)then some (.inl (false,()))else
           if(0:Int)<=(wI ((((r.drop a).take (b-a)).length:Int)-1))/\(wI ((((r.drop a).take (b-a)).length:Int)-1))<(((r.drop a).take (b-a)).length:Int)then
           bif decide (((r.drop a).take (b-a)).getD (wI ((((r.drop a).take (b-a)).length:Int)-1)).toNat 0>=(N:Int))then some (.inl (false,()))else
            (fO m m f0 p r v (N:Int) ((r.drop a).take (b-a)) 1 (N:Int) (j:Int)).bind λy1=>
            match y1 with
            | .inl z2=>some (.inl (z2.1,()))
            | .inr (.inl z3)=>eM m n z3.1.1 z3.1.2.1 z3.1.2.2.1 z3.1.2.2.2.1 z3.2.1 z3.2.2.1 (wI (z3.2.2.2.1+1))
            | .inr (.inr e)=>e.elim
           else none
          else none)=X->eM m (n+1) f0 p r v (N:Int) (N:Int) (j:Int)=X:=λf0 X hX=>by
     rw[eM,bQ,iP O,iP O,w,iP O];simp only[tN,ea,eb];rw[bQ,ao h1,iP O,bQ,ao h2,iP O,iP O,iP O];exact hX
    by_cases h3:b-a=0
    . refine⟨false,λh=>absurd h (by decide),λf0=>hpre f0 _ ?_⟩
      rw[hwl,aF,iP O];rfl
    have hw2:wI (((b-a:Nat):Int)-1)=((b-a-1:Nat):Int):=mu O O;have g0:((r.drop a).take (b-a)).getD 0 0=r.getD a 0:=On O;have g1:((r.drop a).take (b-a)).getD (b-a-1) 0=r.getD (b-1) 0:=by rw[On O,show a+(b-a-1)=b-1 by omega]
    by_cases h4:r.getD a 0=(j:Int)
    . by_cases h5:r.getD (b-1) 0>=(N:Int)
      . refine⟨false,λh=>absurd h (by decide),λf0=>hpre f0 _ ?_⟩
        rw[hwl,aF,ao O,iP O,aE,iP (by rw[g0];exact h4),hw2,iP O,tN,g1,bQ,iP h5]
        rfl
      . obtain⟨q1,hq1,e1⟩:=UF (m:=m) (N:Int) (p:=p) (r:=r) (v:=v) (x:=(r.drop a).take (b-a)) O (N:Int) (j:Int) m 1 O O;cases hq:q1 with
        |false=>
         refine⟨false,λh=>absurd h (by decide),λf0=>hpre f0 _ ?_⟩
         have e1':=e1 f0;rw[hq,ao (by decide)]at e1'
         rw[aF,ao O,iP O,aE,iP (by rw[g0];exact h4),hwl,hw2,iP O,tN,g1,bQ,ao h5]
         rw[show(1:Int)=((1:Nat):Int)from rfl,e1']
         rfl
        |true=>
         obtain⟨q2,hq2,e2⟩:=UO hm hN (v:=v) hp hr n (j+1) O O O;refine⟨q2,λh i hi hiN=> ?_,λf0=>hpre f0 _ ?_⟩
         . rcases zq j i with z|z
           . exact hq2 h i O hiN
           . have:i=j:=O;subst this;refine⟨ha,O,O,λt ht1 ht2=> ?_⟩
             have hmono:=Wx (x:=λt=>((r.drop a).take (b-a)).getD t 0) (n:=b-a) (λt h1 h2=>hq1 hq t h1 (by rw[hwl];exact h2))
             have m1:=hmono (t-a) 0 O;have m2:=hmono (b-1-t) (t-a) O;simp only[zG]at m1;rw[g0,On O,show a+(t-a)=t by omega]at m1
             rw[show t-a+(b-1-t)=b-a-1 by omega,g1,On O,show a+(t-a)=t by omega]at m2
             omega
         . have e1':=e1 f0;rw[hq,iP rfl]at e1';rw[aF,ao O,iP O,aE,iP (by rw[g0];exact h4),hwl,hw2,iP O,tN,g1,bQ,ao h5]
           rw[show(1:Int)=((1:Nat):Int)from rfl,e1',bS]
           dsimp only;rw[show wI ((j:Int)+((1:Nat):Int))=((j+1:Nat):Int)from w]
           exact e2 f0
    . refine⟨false,λh=>absurd h (by decide),λf0=>hpre f0 _ ?_⟩
      rw[hwl,aF,ao O,iP O,aE,ao (by rw[g0];exact h4)]
      rfl
  . refine⟨true,λ_ i hi hiN=>absurd hiN O,λf0=> ?_⟩
    rw[eM,bQ,ao O,iP rfl]
structure CS (N:Nat) (p r v:LI):Prop where
 pl:p.length=N+1
 rv:r.length=v.length
 col: ∀j,j<N->CC N p r j
 fin:ft v
def quk {m N:Nat} (hm:3000000<m) (hN:N<=1000) {p r v:LI} (hp:p.length=N+1) (hr:r.length<=2880):
 ∃q:Bool,(q=true-> ∀j,j<N->CC N p r j)/\ ∀f0:LI,f0.length=N->qv m f0 p r v=some (q,(),()):=by
 by_cases h1:p.getD 0 0=0
 . by_cases h2:p.getD N 0=(r.length:Int)
   . obtain⟨q,hq,e⟩:=UO hm hN (v:=v) hp hr m 0 O O O;refine⟨q,λh j hj=>hq h j (l8 _) hj,λf0 hf=> ?_⟩
     have e':=e f0;rw[nZ]at e';rw[qv,iP O,aE,iP h1,hf,iP O,tN,aE,iP h2,e'];cases q<;>rfl
   . refine⟨false,λh=>absurd h (by decide),λf0 hf=> ?_⟩
     rw[qv,iP O,aE,iP h1,hf,iP O,tN,aE,ao h2]
 . refine⟨false,λh=>absurd h (by decide),λf0 hf=> ?_⟩
   rw[qv,iP O,aE,ao h1]
def Uo {m:Nat} {p r v:LI} (n0:Int) (hl:v.length<=2880) (hu:UL v): ∀(n k:Nat),v.length-k<n->
 ∃q:Bool,(q=true-> ∀t,k<=t->t<v.length->bD (v.getD t 0))/\ ∀f0,fQ m n f0 p r v n0 v (v.length:Int) (k:Int)=some (if q=true then .inr (.inl ((f0,p,r,v,()),n0,()))else .inl (4,()))
 |0,_,hn=>absurd hn (zA _)
 |n+1,k,hn=>by
  by_cases hk:k<v.length
  . by_cases hf:bD (v.getD k 0)
    . obtain⟨q,hq,e⟩:=Uo (m:=m) (p:=p) (r:=r) n0 hl hu n (k+1) O;refine⟨q,λh t ht htl=> ?_,λf0=> ?_⟩
      . rcases zq k t with z|z
        . exact hq h t O htl
        . have:t=k:=O;subst this;exact hf
      . rw[fQ,bQ,iP O,iP O,tN,Zz (hu k hk),bS];dsimp only;rw[decide_eq_true hf,jM,cond_false,show wI ((k:Int)+1)=((k+1:Nat):Int)from aB O]
        exact e f0
    . refine⟨false,λh=>absurd h (by decide),λf0=> ?_⟩
      rw[fQ,bQ,iP O,iP O,tN,Zz (hu k hk),bS];dsimp only;rw[decide_eq_false hf,q9,cond_true];rfl
  . refine⟨true,λ_ t ht htl=>absurd htl O,λf0=> ?_⟩
    rw[fQ,bQ,ao O,iP rfl]
def Ui {m N:Nat} (hm:5000000000<=m) (hN:N<=1000) {p r v:LI} (hp:p.length=N+1) (hrv:r.length=v.length) (hl:v.length<=2880) (hu:UL v) (hc: ∀j,j<N->CC N p r j): ∀(n k:Nat),N-k<n->
 ∃q:Bool,∀f0,fP m n f0 p r v (N:Int) (k:Int)=some (if q=true then .inr (.inl ())else .inl (4,()))
 |0,_,hn=>absurd hn (zA _)
 |n+1,k,hn=>by
  by_cases hk:k<N
  . have C:=hc k hk;have c1:=C.a;have c2:=C.b;have c3:=C.c;obtain⟨a,ea⟩: ∃a:Nat,p.getD k 0=(a:Int):=⟨(p.getD k 0).toNat,O⟩;obtain⟨s,es⟩:=V4 hm (N0 (v.getD a 0));by_cases hs:s<=0
    . refine⟨false,λf0=> ?_⟩
      rw[fP,bQ,iP O,iP O,tN,iP O,ea,tN,d6 O (hu a O),bS];dsimp only;rw[es,bS,bQ,iP hs];rfl
    . obtain⟨q,e⟩:=Ui hm hN hp hrv hl hu hc n (k+1) O;refine⟨q,λf0=> ?_⟩
      rw[fP,bQ,iP O,iP O,tN,iP O,ea,tN,d6 O (hu a O),bS];dsimp only;rw[es,bS,bQ,ao hs,show wI ((k:Int)+1)=((k+1:Nat):Int)from aB O]
      exact e f0
  . refine⟨true,λf0=> ?_⟩
    rw[fP,bQ,ao O,iP rfl]
def qun {m N:Nat} (hm:5000000000<=m) (hN:N<=200) {p r v:LI} (hr:r.length<=2880) (hv:v.length<=2880) (hpl:p.length<=1000) (hu:UL v):
 ∃code:Int,(code=0->CS N p r v)/\ ∀o,PO N o->wj m (nL o) p r v=some (code,(),()):=by
 have w:wI ((N:Int)+1)=((N+1:Nat):Int):=aB O
 have pre: ∀o,PO N o-> ∀X,(bif (p.length:Int) !=((N+1:Nat):Int)then some ((2:Int),((),()))else
  bif (r.length:Int) !=(v.length:Int)then some (2,((),()))else
      (qv m (nL o) p r v).bind λy2=>
      bif !y2.1 then some (240,((),()))else
       (fQ m m (nL o) p r v (N:Int) v (v.length:Int) 0).bind λy3=>
       match y3 with
       | .inl z4=>some (z4.1,((),()))
       | .inr (.inl z5)=>
         (fP m m z5.1.1 z5.1.2.1 z5.1.2.2.1 z5.1.2.2.2.1 z5.2.1 0).bind λy6=>
         match y6 with
         | .inl z7=>some (z7.1,((),()))
         | .inr (.inl z8)=>some (0,((),()))
         | .inr (.inr e)=>e.elim
       | .inr (.inr e)=>e.elim)=X->wj m (nL o) p r v=X:=λo ho X hX=>by
  rw[wj,ho.nl,bQ,ao O,qqt O O ho,bS];dsimp only;rw[jM,cond_false,w];exact hX
 by_cases h1:p.length=N+1
 . by_cases h2:r.length=v.length
   . obtain⟨q,hq,e⟩:=quk (m:=m) O (show N<=1000 by omega) (v:=v) h1 hr
     cases eq:q with
     |false=>
      refine⟨240,λh=>absurd h (by decide),λo ho=>pre o ho _ ?_⟩
      rw[aE,iP O,aE,iP O,e _ ho.nl,bS];dsimp only;rw[eq];rfl
     |true=>
      obtain⟨q0,hq0,e0⟩:=Uo (m:=m) (p:=p) (r:=r) (N:Int) hv hu m 0 O;rw[nZ]at e0;cases eq0:q0 with
      |false=>
       refine⟨4,λh=>absurd h (by decide),λo ho=>pre o ho _ ?_⟩
       have e0':=e0 (nL o);rw[eq0,ao (by decide)]at e0'
       rw[aE,iP O,aE,iP O,e _ ho.nl,bS];dsimp only;rw[eq,jM,cond_false,e0'];rfl
      |true=>
       obtain⟨q1,e1⟩:=Ui hm (show N<=1000 by omega) h1 h2 hv hu (hq eq) m 0 O
       rw[nZ]at e1;refine⟨if q1=true then 0 else 4,λh=>⟨h1,h2,hq eq,λi hi=>⟨hu i hi,hq0 eq0 i (l8 _) hi⟩⟩,λo ho=>pre o ho _ ?_⟩
       have e0':=e0 (nL o);rw[eq0,iP rfl]at e0';rw[aE,iP O,aE,iP O,e _ ho.nl,bS];dsimp only;rw[eq,jM,cond_false,e0',bS];dsimp only;rw[e1];cases q1<;>rfl
   . refine⟨2,λh=>absurd h (by decide),λo ho=>pre o ho _ ?_⟩
     rw[aE,iP O,aE,ao O]
 . refine⟨2,λh=>absurd h (by decide),λo ho=>pre o ho _ ?_⟩
   rw[aE,ao O]
end Go.Vs.F
set_option maxRecDepth 100000
namespace Go.Vs.F
def SS.mono {n:Nat} {s:List (List fu)} {t:Nat->Int} {c d:Nat} (h:SS n s t c) (hd:c<=d):SS n s t d:=⟨h.1,λi hi=>(h.2 i hi).mono hd⟩
def al (N:Nat):LI:=nL (List.range N)
def NP {N:Nat}:(al N).length=N:=by rw[al,I4,List.length_range]
def UR {N k:Nat} (h:k<N):(al N).getD k 0=(k:Int):=by
 rw[al,J4];simp[List.getD,h]
def U7 {m N:Nat} (hN:N<=1000): ∀(n k:Nat),N-k<n->k<=N->oK m n (al k) (N:Int) (k:Int)=some (.inl (al N,()))
 |0,k,h,_=>absurd h (zA _)
 |n+1,k,h,hk0=>by
  rw[oK,bQ];by_cases hk:k<N
  . have c5:(al k).length+([(k:Int)]:LI).length<=1073741824:=by rw[NP];show _+1<=_;omega
    have e:al k++[(k:Int)]=al (k+1):=by simp[al,nL,Fu]
    rw[iP O,iP c5,e,show wI ((k:Int)+1)=((k+1:Nat):Int)from aB O]
    exact U7 hN n (k+1) O O
  . have:k=N:=O;subst this;rw[ao O]
def qV {m N:Nat} (hm:3000000<m) (hN:N<=1000):O7 m (N:Int)=some (al N,(),()):=by
 have e:=U7 (m:=m) hN m 0 O O;rw[nZ]at e;rw[O7,show([]:LI)=al 0 from rfl,e]
 rfl
def UQ {m:Nat} {b:LI} (hl:b.length<=1000) (hb:ft b): ∀(n k:Nat),b.length-k<n->lh m n b (b.length:Int) (k:Int)=some (.inr (.inl ()))
 |0,k,h=>absurd h (zA _)
 |n+1,k,h=>by
  rw[lh,bQ];by_cases hk:k<b.length
  . rw[iP O,iP O,tN,Zz (hb k hk).1,bS];dsimp only;rw[decide_eq_true (hb k hk).2,jM,cond_false,show wI ((k:Int)+1)=((k+1:Nat):Int)from aB O]
    exact UQ hl hb n (k+1) O
  . rw[ao O]
def IM {m N:Nat} (hm:3000000<m) (hN:N<=1000) {b:LI} (hl:b.length=N) (hb:ft b):Bd m b (N:Int)=some (0,(),(),()):=by
 have e:=UQ (m:=m) O hb m 0 O;rw[nZ]at e;rw[Bd,aE,iP O,G9,e];rfl
def QH {l:LI} (h:ft l) {k:Nat} {f:Int} (h1:dg f) (h2:bD f):ft (l.set k f):=λi hi=>by
 rw[zS]at hi;by_cases hk:k<l.length
 . rw[Zp hk];split
   . exact⟨h1,h2⟩
   . exact h i hi
 . rw[List.set_eq_of_length_le O];exact h i hi
def Vk {N:Nat}:ft (List.replicate N 0):=λi hi=>by
 rw[nX]at hi;rw[show(List.replicate N (0:Int)).getD i 0=0 by simp[List.getD,hi]]
 exact⟨Ci,by unfold bD;decide⟩
section
variable {m:Nat} (hm:5000000000<=m) {N:Nat} (hN:N<=200) {p r v:LI} (hr:r.length<=2880) (hC:CS N p r v)
include hm hN hr hC
theorem E9 {j:Nat} (hj:j<N) {y:LI} (hy:y.length=N) (hf:ft y) (t18:LI) (t19 t20:Int) {b:Nat} (eb:p.getD (j+1) 0=(b:Int)): ∀(n t:Nat) (s:List (List fu)) (T:Nat->Int),b-t<n->p.getD j 0<=(t:Int)->t<=b->SS N s T (1+t)->
 ∃s' T',SS N s' T' (1+b)/\ ∀f0,mU m n f0 p r v s y (j:Int) (t:Int) t18 t19 t20=some (.inl ((f0,p,r,v,()),s',y,t18,t19,t20,()))
 |0,_,_,_,hn,_,_,_=>absurd hn (zA _)
 |n+1,t,s,T,hn,ht1,ht2,hS=>by
  have C:=hC.col j hj;have c:=C.c;have hpl:=hC.pl;have hrv:=hC.rv;have w:wI ((j:Int)+1)=((j+1:Nat):Int):=aB O;by_cases ht:t<b
  . have hrt:=C.r t ht1 O;obtain⟨k,ek⟩: ∃k:Nat,r.getD t 0=(k:Int):=⟨(r.getD t 0).toNat,O⟩;have hv:=hC.fin t O;have hyj:=hf j O;obtain⟨s1,e1,S1⟩:=q82 hm hS O (k:=k) O hv.1 hv.2 hyj.1 hyj.2;obtain⟨s2,T2,S2,e2⟩:=E9 hj hy hf t18 t19 t20 eb n (t+1) s1 _ O O O (S1.mono O);refine⟨s2,T2,S2,λf0=> ?_⟩
    rw[mU,w,iP O,tN,eb,bQ,iP O,iP O,iP O,iP O,tN,tN,zG,ek,e1,bS];dsimp only;rw[show wI ((t:Int)+1)=((t+1:Nat):Int)from aB O]
    exact e2 f0
  . have:t=b:=O;subst this;refine⟨s,T,hS,λf0=> ?_⟩
    rw[mU,w,iP O,tN,eb,bQ,ao O]
theorem Fa: ∀(n k:Nat) (s:List (List fu)) (T:Nat->Int) (y:LI) (c:Nat),N-k<n->k<=N->SS N s T c->(k<N->(c:Int)<=1+p.getD k 0)->y.length=N->ft y->
 ∃(q:Bool) (y':LI),(q=true->y'.length=N/\ft y')/\ ∀f0,kK m n f0 p r v s y (al N) (N:Int) (k:Int)=some (if q=true then .inr (.inl (y',()))else .inl ([],233,()))
 |0,_,_,_,_,_,hn,_,_,_,_,_=>absurd hn (zA _)
 |n+1,k,s,T,y,c,hn,hk0,hS,hc,hy,hf=>by
  have hal:=NP (N:=N);have hpl:=hC.pl;have hrv:=hC.rv;by_cases hk:k<N
  . have C:=hC.col k hk;have ca:=C.a;have cb:=C.b;have cc:=C.c;have hcc:=hc hk;obtain⟨a,ea⟩: ∃a:Nat,p.getD k 0=(a:Int):=⟨(p.getD k 0).toNat,O⟩;obtain⟨b,eb⟩: ∃b:Nat,p.getD (k+1) 0=(b:Int):=⟨(p.getD (k+1) 0).toNat,O⟩;have et:=WD hm hS O hk;have hva:=hC.fin a O;have eq:=uz (m:=m) hm (nv (T k) (-2148)) (N0 (v.getD a 0)) 0;have hq:dg (eF (aW (T k) (-2148)) (eH (v.getD a 0)) 0):=PM;have gk:(y.set k (eF (aW (T k) (-2148)) (eH (v.getD a 0)) 0)).getD k 0=eF (aW (T k) (-2148)) (eH (v.getD a 0)) 0:=by rw[Zp O,iP rfl]
    by_cases hfq:bD (eF (aW (T k) (-2148)) (eH (v.getD a 0)) 0)
    . obtain⟨s1,T1,S1,e1⟩:=E9 hm hN hr hC hk (y:=y.set k (eF (aW (T k) (-2148)) (eH (v.getD a 0)) 0)) (by rw[zS];exact hy) (QH hf hq hfq) (al N) (N:Int) (k:Int) eb m (a+1) s T O O O (hS.mono O)
      obtain⟨q,y',q1,e2⟩:=Fa n (k+1) s1 T1 (y.set k (eF (aW (T k) (-2148)) (eH (v.getD a 0)) 0)) (1+b) O O S1 (λh=>O) (by rw[zS];exact hy) (QH hf hq hfq)
      refine⟨q,y',q1,λf0=> ?_⟩
      rw[kK,bQ,iP O,iP O,tN,UR hk,et,bS];dsimp only;rw[iP O,tN,ea,iP O,tN,d6 O hva.1,bS];dsimp only;rw[eq,bS];dsimp only;rw[iP O,zG,iP (by rw[zS];omega),gk,Zz hq,bS]
      dsimp only;rw[decide_eq_true hfq,jM,cond_false,iP O,show wI ((a:Int)+1)=((a+1:Nat):Int)from aB O,e1 f0,bS]
      dsimp only;rw[show wI ((k:Int)+1)=((k+1:Nat):Int)from aB O]
      exact e2 f0
    . refine⟨false,[],λh=>absurd h (by decide),λf0=> ?_⟩
      rw[kK,bQ,iP O,iP O,tN,UR hk,et,bS];dsimp only;rw[iP O,tN,ea,iP O,tN,d6 O hva.1,bS];dsimp only;rw[eq,bS];dsimp only;rw[iP O,zG,iP (by rw[zS];omega),gk,Zz hq,bS]
      dsimp only;rw[decide_eq_false hfq,q9,cond_true];rfl
  . refine⟨true,y,λ_=>⟨hy,hf⟩,λf0=> ?_⟩
    rw[kK,bQ,ao O,iP rfl]
theorem MX {β:LI} (hl:β.length=N) (hβ:ft β): ∃(q:Bool) (y:LI),(q=true->y.length=N/\ft y)/\ ∀f0,O9 m f0 p r v β (al N)=some ((if q=true then y else [],if q=true then 0 else 233,()),(),(),(),()):=by
 obtain⟨s,e,hS⟩:=Wd hm O hβ;rw[hl]at hS;obtain⟨q,y,q1,e2⟩:=Fa hm hN hr hC m 0 s _ (List.replicate N 0) 1 O O hS (λh=>by have:=(hC.col 0 h).a;omega) (by simp) Vk
 refine⟨q,y,q1,λf0=> ?_⟩
 have e2':=e2 f0;rw[nZ]at e2';rw[O9,e,bS,iP O,hl,tN,NP];dsimp only;rw[e2'];cases q<;>rfl
theorem Ff {j:Nat} (hj:j<N) {x:LI} (hx:x.length=N) (hf:ft x) {b:Nat} (eb:p.getD (j+1) 0=(b:Int)): ∀(n t:Nat) (s:List (List fu)) (T:Nat->Int) (c:Nat),b-t<n->p.getD j 0<=(t:Int)->t<=b->c+(b-t)<=9000->SS N s T c->
 ∃s' T',SS N s' T' (c+(b-t))/\ ∀f0,mR m n f0 p r v s x (j:Int) (t:Int)=some (.inl ((f0,p,r,v,()),s',x,(j:Int),()))
 |0,_,_,_,_,hn,_,_,_,_=>absurd hn (zA _)
 |n+1,t,s,T,c,hn,ht1,ht2,hc,hS=>by
  have C:=hC.col j hj;have cc:=C.c;have hpl:=hC.pl;have hrv:=hC.rv;have w:wI ((j:Int)+1)=((j+1:Nat):Int):=aB O;by_cases ht:t<b
  . have hrt:=C.r t ht1 O;obtain⟨k,ek⟩: ∃k:Nat,r.getD t 0=(k:Int):=⟨(r.getD t 0).toNat,O⟩;have hv:=hC.fin t O;have hxk:=hf k O;obtain⟨s1,e1,S1⟩:=q82 hm hS O hj hv.1 hv.2 hxk.1 hxk.2;obtain⟨s2,T2,S2,e2⟩:=Ff hj hx hf eb n (t+1) s1 _ (c+1) O O O O S1;refine⟨s2,T2,S2.mono O,λf0=> ?_⟩
    rw[mR,w,iP O,tN,eb,bQ,iP O,iP O,iP O,tN,ek,iP O,tN,zG,e1,bS];dsimp only;rw[show wI ((t:Int)+1)=((t+1:Nat):Int)from aB O]
    exact e2 f0
  . have:t=b:=O;subst this;refine⟨s,T,hS.mono O,λf0=> ?_⟩
    rw[mR,w,iP O,tN,eb,bQ,ao O]
theorem Fg: ∀(n k:Nat) (s:List (List fu)) (T:Nat->Int) (x:LI) (c:Nat),k<n->k<=N->SS N s T c->(0<k->(c:Int)+p.getD k 0<=1+r.length)->x.length=N->ft x->
 ∃(q:Bool) (x':LI),(q=true->x'.length=N/\ft x')/\ ∀f0,kJ m n f0 p r v s x ((k:Int)-1)=some (if q=true then .inr (.inl (x',()))else .inl ([],233,()))
 |0,_,_,_,_,_,hn,_,_,_,_,_=>absurd hn (zA _)
 |n+1,0,s,T,x,c,hn,hk0,hS,hc,hx,hf=>by
  refine⟨true,x,λ_=>⟨hx,hf⟩,λf0=> ?_⟩
  rw[kJ,bQ,ao O,iP rfl]
 |n+1,k+1,s,T,x,c,hn,hk0,hS,hc,hx,hf=>by
  have hpl:=hC.pl;have hrv:=hC.rv;have hk:k<N:=O;have C:=hC.col k hk;have ca:=C.a;have cb:=C.b;have cc:=C.c;obtain⟨a,ea⟩: ∃a:Nat,p.getD k 0=(a:Int):=⟨(p.getD k 0).toNat,O⟩;obtain⟨b,eb⟩: ∃b:Nat,p.getD (k+1) 0=(b:Int):=⟨(p.getD (k+1) 0).toNat,O⟩;have e0:(((k+1:Nat):Int)-1)=(k:Int):=O;have hc:=hc (Nat.succ_pos k);obtain⟨s1,T1,S1,e1⟩:=Ff hm hN hr hC hk hx hf eb m (a+1) s T c O O O O hS;have et:=WD hm S1 O hk;have hva:=hC.fin a O;have eq:=uz (m:=m) hm (nv (T1 k) (-2148)) (N0 (v.getD a 0)) 0;have hq:dg (eF (aW (T1 k) (-2148)) (eH (v.getD a 0)) 0):=PM;have gk:(x.set k (eF (aW (T1 k) (-2148)) (eH (v.getD a 0)) 0)).getD k 0=eF (aW (T1 k) (-2148)) (eH (v.getD a 0)) 0:=by rw[Zp O,iP rfl]
  have w:wI ((k:Int)-1)=(k:Int)-1:=by rw[wQ,wi O O]
  by_cases hfq:bD (eF (aW (T1 k) (-2148)) (eH (v.getD a 0)) 0)
  . obtain⟨q,x',q1,e2⟩:=Fg n k s1 T1 (x.set k (eF (aW (T1 k) (-2148)) (eH (v.getD a 0)) 0)) (c+(b-(a+1))) O O S1 (λ_=>O) (by rw[zS];exact hx) (QH hf hq hfq)
    refine⟨q,x',q1,λf0=> ?_⟩
    rw[kJ,e0,bQ,iP O,iP O,tN,ea,show wI ((a:Int)+1)=((a+1:Nat):Int)from aB O,e1 f0,bS]
    dsimp only;rw[et,bS];dsimp only;rw[iP O,tN,ea,iP O,tN,d6 O hva.1,bS];dsimp only;rw[eq,bS];dsimp only;rw[iP O,zG,iP (by rw[zS];omega),gk,Zz hq,bS]
    dsimp only;rw[decide_eq_true hfq,jM,cond_false,w];exact e2 f0
  . refine⟨false,[],λh=>absurd h (by decide),λf0=> ?_⟩
    rw[kJ,e0,bQ,iP O,iP O,tN,ea,show wI ((a:Int)+1)=((a+1:Nat):Int)from aB O,e1 f0,bS]
    dsimp only;rw[et,bS];dsimp only;rw[iP O,tN,ea,iP O,tN,d6 O hva.1,bS];dsimp only;rw[eq,bS];dsimp only;rw[iP O,zG,iP (by rw[zS];omega),gk,Zz hq,bS]
    dsimp only;rw[decide_eq_false hfq,q9,cond_true];rfl
theorem M0 {y:LI} (hl:y.length=N) (hy:ft y): ∃(q:Bool) (x:LI),(q=true->x.length=N/\ft x)/\ ∀f0,O6 m f0 p r v y=some ((if q=true then x else [],if q=true then 0 else 233,()),(),(),()):=by
 obtain⟨s,e,hS⟩:=Wd hm O hy;rw[hl]at hS
 have hpN:0<N->((1:Nat):Int)+p.getD N 0<=1+(r.length:Int):=λh=>by
  have:=(hC.col (N-1) O).c;rw[show N-1+1=N by omega]at this
  omega
 obtain⟨q,x,q1,e2⟩:=Fg hm hN hr hC m N s _ (List.replicate N 0) 1 O O hS hpN (by simp) Vk
 refine⟨q,x,q1,λf0=> ?_⟩
 have w:wI ((N:Int)-1)=(N:Int)-1:=by rw[wQ,wi O O]
 rw[O6,e,bS,iP O,hl,tN,w];dsimp only;rw[e2 f0];cases q<;>rfl
end
def Vj {N:Nat} {o:List Nat} (h:PO N o) {w:LI}: ∀K,K<=N-> ∀k,k<K->(jO w (nL o) K).getD (oa o k) 0=w.getD k 0
 |0,_,k,hk=>absurd hk (zA _)
 |K+1,hK,k,hk=>by
  have hl:=h.lt K O;rw[jO,J4,tN,Zp (by rw[Oz,h.nl];exact hl)]
  show(if o.getD k 0=o.getD K 0 then w.getD K 0 else(jO w (nL o) K).getD (oa o k) 0)=w.getD k 0
  by_cases e:k=K
  . subst e;rw[iP rfl]
  . rw[ao (λq=>e (h.inj k K O O q))]
    exact Vj h K O k O
def qdk {m:Nat} (hm:5000000000<=m) {N:Nat} (hN:N<=200) {p r v:LI} (hr:r.length<=2880) (hv:v.length<=2880) (hpl:p.length<=1000) (hu:UL v) {β:LI} (hl:β.length=N) (hβ:ft β):
 ∃(code:Int) (w:LI),∀o b,PO N o->b.length=N->ft b->(∀k,k<N->b.getD (oa o k) 0=β.getD k 0)->
  ∃x,(code=0->x.length=N/\ ∀k,k<N->x.getD (oa o k) 0=w.getD k 0)/\xK m (nL o) p r v b=some ((x,code,()),(),(),()):=by
 obtain⟨c1,hc1,e1⟩:=qun hm hN hr hv hpl hu;by_cases h1:c1=0
 . have hC:=hc1 h1;obtain⟨q,y,hq,ef⟩:=MX hm hN hr hC hl hβ
   have hg: ∀o b,PO N o->b.length=N->ft b->(∀k,k<N->b.getD (oa o k) 0=β.getD k 0)->O8 m b (nL o)=some (β,(),(),()):=λo b ho hbl hb hbβ=>by
    have hnl:=ho.nl;have e:=UE (m:=m) hm (b:=b) (o:=nL o) O O (λi hi=>by have:=ho.inR i hi;omega) m 0 O O
    rw[qk5,nZ,hnl]at e
    have:yn b (nL o)=β:=Q6 (by rw[Wy,hnl,hl]) λi hi=>by
     rw[Wy,hnl]at hi;unfold yn;rw[QW O,J4,tN];exact hbβ i hi
    rw[O8,iP O,hbl,tN,hnl,e,this];rfl
   have hrd: ∀o b,PO N o->b.length=N->ft b->Kt m (nL o) p r v b=some (0,(),(),()):=λo b ho hbl hb=>by
    rw[Kt,e1 o ho,bS];dsimp only;rw[aE,iP h1,ho.nl,IM O O hbl hb];rfl
   cases eq:q with
   |false=>
    refine⟨233,[],λo b ho hbl hb hbβ=>⟨[],λh=>absurd h (by decide),?_⟩⟩
    rw[xK,hrd o b ho hbl hb,bS];dsimp only;rw[aE,iP rfl,hg o b ho hbl hb hbβ,bS,hbl,qV O O,bS,ef,bS,eq];rfl
   |true=>
    obtain⟨q2,x,hq2,eb⟩:=M0 hm hN hr hC (hq eq).1 (hq eq).2;cases eq2:q2 with
    |false=>
     refine⟨233,[],λo b ho hbl hb hbβ=>⟨[],λh=>absurd h (by decide),?_⟩⟩
     rw[xK,hrd o b ho hbl hb,bS];dsimp only;rw[aE,iP rfl,hg o b ho hbl hb hbβ,bS,hbl,qV O O,bS,ef,bS,eq];simp only[if_true,aE];rw[eb,bS,eq2];rfl
    |true=>
     have hxl:=(hq2 eq2).1;refine⟨0,x,λo b ho hbl hb hbβ=>⟨jO x (nL o) N,λ_=>⟨by rw[Oz];exact ho.nl,Vj ho N (zF _)⟩,?_⟩⟩
     have hnl:=ho.nl;have es:=UG (m:=m) hm (b:=x) (o:=nL o) O O (λi hi=>by have:=ho.inR i hi;omega) m 0 O O
     rw[nZ,hnl]at es;rw[xK,hrd o b ho hbl hb,bS];dsimp only;rw[aE,iP rfl,hg o b ho hbl hb hbβ,bS,hbl,qV O O,bS,ef,bS,eq];simp only[if_true,aE];rw[eb,bS,eq2];simp only[if_true,aE];rw[Tg,iP O,hxl,tN,hnl];have e0:jO x (nL o) 0=List.replicate N 0:=by rw[jO,hnl]
     rw[e0]at es;rw[es];rfl
 . refine⟨c1,[],λo b ho hbl hb hbβ=>⟨[],λh=>absurd h h1,?_⟩⟩
   rw[xK,Kt,e1 o ho,bS];dsimp only;rw[aE,ao h1,bS];dsimp only;rw[aE,ao h1]
end Go.Vs.F
set_option maxRecDepth 100000
namespace Go.Vs.F
def xV (es:List aS) (i j:Nat):Option Int:=if 0<Qc es i j es.length then some (es.getD (Qc es i j es.length-1) zE).2.2 else none
def ZS {es zs:List aS} {i j:Nat}: ∀{t:Nat},t<=es.length->Qc (es++zs) i j t=Qc es i j t
 |0,_=>rfl
 |t+1,h=>by
  have hg:(es++zs).getD t ((0,(0,0)):aS)=es.getD t (0,(0,0)):=by simp[List.getD,List.getElem?_append,show t<es.length by omega]
  rw[Qc,Qc,hg,ZS (t:=t) O]
def H4 {es:List aS} {e:aS} {i j:Nat}:xV (es++[e]) i j=if e.1=(i:Int)/\e.2.1=(j:Int)then some e.2.2 else xV es i j:=by
 have hg:(es++[e]).getD es.length ((0,(0,0)):aS)=e:=by simp[List.getD]
 unfold xV;rw[zJ,ny,Qc,hg];split
 . rw[iP O,HD];rw[show(es++[e]).getD es.length zE=e from hg]
 . rw[ZS (zF _)];split
   . rename_i h1 h2;have hle:=OH es i j es.length;have:(es++[e]).getD (Qc es i j es.length-1) zE=es.getD (Qc es i j es.length-1) zE:=by simp[List.getD,List.getElem?_append,show Qc es i j es.length-1<es.length by omega]
     rw[this]
   . rfl
def lZ (es:List aS):Prop:= ∀i j,xV es i j=xV es j i
def lZ.diag {es:List aS} (h:lZ es) {i v:Int}:lZ (es++[(i,(i,v))]):=λa b=>by
 rw[H4,H4,h a b];by_cases q:i=(a:Int)/\i=(b:Int)
 . rw[iP q,iP ⟨q.2,q.1⟩]
 . rw[ao q,ao (λq'=>q ⟨q'.2,q'.1⟩)]
def lZ.pair {es:List aS} (h:lZ es) {i j v:Int} (hne:i≠j):lZ (es++[(i,(j,v)),(j,(i,v))]):=λa b=>by
 have e:es++[(i,(j,v)),(j,(i,v))]=(es++[((i,(j,v)):aS)])++[((j,(i,v)):aS)]:=by simp
 rw[e,H4,H4,H4,H4,h a b];simp only;by_cases q1:j=(a:Int)/\i=(b:Int)
 . rw[iP q1,ao (show¬(j=(b:Int)/\i=(a:Int)) by omega),iP ⟨q1.2,q1.1⟩]
 . rw[ao q1];by_cases q2:i=(a:Int)/\j=(b:Int)
   . rw[iP q2,iP ⟨q2.2,q2.1⟩]
   . rw[ao q2,ao (λq=>q2 ⟨q.2,q.1⟩),ao (λq=>q1 ⟨q.2,q.1⟩)]
def lZ.can {es:List aS} {N:Nat} (h:lZ es): ∀e∈can es N N,FK e∈can es N N:=λe he=>by
 obtain⟨i,j,hi,hj,hp,rfl⟩:=FR.1 he;have h1:=h i j;have e1:xV es i j=some (es.getD (Qc es i j es.length-1) zE).2.2:=by unfold xV;rw[iP hp]
 rw[e1]at h1
 have h2:0<Qc es j i es.length:=by
  refine Classical.byContradiction λhn=> ?_
  unfold xV at h1;rw[ao hn]at h1;cases h1
 have h3:(es.getD (Qc es i j es.length-1) zE).2.2=(es.getD (Qc es j i es.length-1) zE).2.2:=by
  unfold xV at h1;rw[iP h2]at h1;exact Nc h1
 exact FR.2 ⟨j,i,hj,hi,h2,by simp only[FK];rw[h3]⟩
def qg4 {es:List aS} {i j t:Nat} (h:0<Qc es i j t) (ht:t<=es.length):es.getD (Qc es i j t-1) zE∈es:=by
 have h1:=(JW h).1;exact OK O
def qkb {es:List aS} {r c:Nat} {x:Int} (h:x∈bo es r c): ∃e∈es,e.2.2=x:=by
 rw[<-xe]at h;obtain⟨e,he,rfl⟩:=zV.1 h;obtain⟨i,j,_,_,hl,rfl⟩:=FR.1 he;exact⟨_,qg4 hl (zF _),rfl⟩
def Wa {es:List aS} {r c:Nat} (h: ∀e∈es,dg e.2.2):UL (bo es r c):=λi hi=>by
 obtain⟨e,he,e2⟩:=qkb (Qx hi);rw[<-e2];exact h e he
def N2 {m N:Nat} (a0 a1:Int) (a2 a3 a4:LI) (b0 b1:Int) (b2 b3 b4:LI) {es:List aS} (hE:bw N N es) (hU: ∀e∈es,dg e.2.2) (hl:es.length<=10000): ∀(n k:Nat) (out:List aS),es.length-k<n->out.length<=2*k->k<=es.length->bw N N out->(∀e∈out,dg e.2.2)->lZ out->
 ∃out',bw N N out'/\(∀e∈out',dg e.2.2)/\lZ out'/\out'.length<=20000/\gu m n a0 a1 a2 a3 a4 b0 b1 b2 b3 b4 out es (k:Int)=some (.inl ((a0,a1,a2,a3,a4,()),(b0,b1,b2,b3,b4,()),out',()))
 |0,k,_,hn,_,_,_,_,_=>absurd hn (zA _)
 |n+1,k,out,hn,ho,hk0,hO,hOU,hS=>by
  by_cases hk:k<es.length
  . obtain⟨q1,q2,q3⟩:=hE k hk;have qU:=hU _ (OK hk);have hz:es.getD k zE=es.getD k (0,(0,0)):=rfl;rw[hz]at qU;obtain⟨⟨x,y,v⟩,ee⟩: ∃e:aS,es.getD k (0,(0,0))=e:=⟨_,rfl⟩;rw[ee]at q1 q2 q3 qU;simp only at q1 q2 q3 qU;have c5: ∀e:aS,out.length+([e]:List aS).length<=1073741824:=λe=>by show _+1<=_;omega
    have c6: ∀e f:aS,(out++([e]:List aS)).length+([f]:List aS).length<=1073741824:=λe f=>by rw[zJ];show _+1+1<=_;omega
    have w:wI ((k:Int)+1)=((k+1:Nat):Int):=aB O;by_cases h1:x<y
    . obtain⟨out',p1,p2,p3,p4,e⟩:=N2 (m:=m) a0 a1 a2 a3 a4 b0 b1 b2 b3 b4 hE hU hl n (k+1) out O O O hO hOU hS;refine⟨out',p1,p2,p3,p4,?_⟩;rw[gu,bQ,iP O,iP O,zG,tN,ee];dsimp only;rw[bQ,iP h1,w];exact e
    . by_cases h2:x>y
      . obtain⟨out',p1,p2,p3,p4,e⟩:=N2 (m:=m) a0 a1 a2 a3 a4 b0 b1 b2 b3 b4 hE hU hl n (k+1) (out++[(x,(y,v)),(y,(x,v))]) O (by rw[zJ];show _+2<=_;omega) O (by
         have:=(hO.snoc q1 q2 q3).snoc q2 q1 q3;rw[zu]at this
         exact this) (λe he=>by
          rcases zQ.1 he with he|he
          . exact hOU e he
          . rcases mC he with rfl|he
            . exact qU
            . rw[zC]at he;subst he;exact qU) (hS.pair O)
        refine⟨out',p1,p2,p3,p4,?_⟩;rw[gu,bQ,iP O,iP O,zG,tN,ee];dsimp only;rw[bQ,ao h1,iP (c5 _),bQ,iP h2,iP (c6 _ _),w,zu];exact e
      . have hxy:x=y:=O;subst hxy
        obtain⟨out',p1,p2,p3,p4,e⟩:=N2 (m:=m) a0 a1 a2 a3 a4 b0 b1 b2 b3 b4 hE hU hl n (k+1) (out++[(x,(x,v))]) O (by rw[zJ];show _+1<=_;omega) O (hO.snoc q1 q1 q3) (λe he=>by
         rcases zQ.1 he with he|he
         . exact hOU e he
         . rw[zC]at he;subst he;exact qU) hS.diag
        refine⟨out',p1,p2,p3,p4,?_⟩;rw[gu,bQ,iP O,iP O,zG,tN,ee];dsimp only;rw[bQ,ao h1,iP (c5 _),bQ,ao h2,w];exact e
  . refine⟨out,hO,hOU,hS,O,?_⟩;rw[gu,bQ,ao O]
def qut {m:Nat} (hm:5000000000<=m) {N:Nat} (hN:N<=100) {S I V:LI} {a b:Nat} (h:GW S I V a b) (hb:b<=100000):
 ∃es,bw N N es/\(∀e∈es,dg e.2.2)/\lZ es/\Pp m (N:Int) (N:Int) S I V=some (((N:Int),(N:Int),br es N N,a7 es N N,bo es N N,()),(),()):=by
 have iu:=h.vl;have hil:=h.il
 have pre: ∃es0,bw N N es0/\(∀e∈es0,dg e.2.2)/\es0.length<=10000/\Ig m (N:Int) (N:Int) S I V=some (es0,(),()):=by
  by_cases hc:chk (N:Int) (N:Int) S I V=0
  . obtain⟨r,c,e1,e2,hM,hV,hfin⟩:=PI hc;have e1:r=N:=O;have e2:c=N:=O;subst e1;subst e2;have M:MV c c S I V:=⟨hM,hV,hc⟩;refine⟨_,M.ents,λe he=> ?_,M.len,qk1 O hM hV hc⟩
    obtain⟨j,t,_,hj,t1,t2,rfl⟩:=RY.1 he;have:=hM.st.rng (j:=j+1) O;exact h.u t O
  . refine⟨[],λk hk=>absurd hk (zA _),λe he=>by(cases he),l8 _,?_⟩
    rw[Ig,SR O O O,bS,aE,ao hc]
 obtain⟨es0,q1,q2,q3,q4⟩:=pre;obtain⟨es,p1,p2,p3,p4,e⟩:=N2 (m:=m) (N:Int) (N:Int) S I V 0 0 [] [] [] q1 q2 q3 m 0 [] O (l8 _) (l8 _) (λk hk=>absurd hk (zA _)) (λe he=>by cases he) (λi j=>rfl)
 refine⟨es,p1,p2,p3,?_⟩;rw[nZ]at e;rw[Pp,q4,bS,e,bS];dsimp only;rw[qt3 p1 O O O O];rfl
def qlc {m:Nat} (hm:5000000000<=m): ∀{N:Nat},N<=5->TP m (N:Int)=some (al N,(),()):=by
 obtain⟨j,rfl⟩: ∃j,m=j+300:=⟨m-300,O⟩;intro N h;obtain rfl|rfl|rfl|rfl|rfl|rfl:N=0\/N=1\/N=2\/N=3\/N=4\/N=5:=O
 . kernel_rfl
 . kernel_rfl
 . kernel_rfl
 . kernel_rfl
 . kernel_rfl
 . kernel_rfl
def qlf {m:Nat} (hm:5000000000<=m):LH m=some (true,()):=by
 obtain⟨j,rfl⟩: ∃j,m=j+400:=⟨m-400,O⟩
 kernel_rfl
def ry {N k:Nat} (h:k<N):oa (List.range N) k=k:=by simp[oa,List.getD,h]
def Fk {m N:Nat} (hN:N<=1000) {o:List Nat} (h:PO N o) {b:LI} (hb:b.length=N) (f0 f1 f2 f3 g0 g1 g2 g3:LI): ∀(n k:Nat),N-k<n->k<=N->
 u6 m n (N:Int) (nL o) b f0 f1 f2 f3 g0 g1 g2 g3 (pV k λi=>b.getD (oa o i) 0) (k:Int)=some (.inl ((N:Int),nL o,b,(f0,f1,f2,f3,()),(g0,g1,g2,g3,()),pV N (λi=>b.getD (oa o i) 0),()))
 |0,k,hn,_=>absurd hn (zA _)
 |n+1,k,hn,hk0=>by
  have hl:=h.nl;rw[u6,bQ];by_cases hk:k<N
  . have ho:=h.lt k hk;have c5: ∀x:Int,(pV k λi=>b.getD (oa o i) 0).length+([x]:LI).length<=1073741824:=λx=>by rw[Ok];show _+1<=_;omega
    rw[iP O,iP O,zG,tN,J4,iP O,zG,tN,iP (c5 _)];rw[show b.getD (o.getD k 0) 0=(λi=>b.getD (oa o i) 0) k from rfl,qpi,show wI ((k:Int)+1)=((k+1:Nat):Int)from aB O]
    exact Fk hN h hb f0 f1 f2 f3 g0 g1 g2 g3 n (k+1) O O
  . have:k=N:=O;subst this;rw[ao O]
def Fj {m N:Nat} (hN:N<=1000) {o:List Nat} (h:PO N o) {x y:LI} {code:Int} (hx:code=0->x.length=N/\y.length=N/\ ∀k,k<N->y.getD k 0=x.getD (oa o k) 0): ∀(n k:Nat),N-k<n->k<=N->
 sO m n (N:Int) (nL o) x code y (k:Int)=some (.inr (.inl ()))
 |0,k,hn,_=>absurd hn (zA _)
 |n+1,k,hn,hk0=>by
  have hl:=h.nl;rw[sO,bQ];by_cases hk:k<N
  . rw[iP O,aF];by_cases hc:code=0
    . obtain⟨x1,y1,e⟩:=hx hc;have ho:=h.lt k hk;rw[iP hc,iP O,iP O,zG,tN,J4,iP O,aE,zG,tN,iP (show y.getD k 0=x.getD (o.getD k 0) 0 from e k hk),show wI ((k:Int)+1)=((k+1:Nat):Int)from aB O]
      exact Fj hN h hx n (k+1) O O
    . rw[ao hc]
  . rw[ao O]
def q6w (raw:LI) (n style:Int) (hl:raw.length<=9223372036854775807): ∃m,g4 m raw n style=some (true,(),(),(),()):=by
 obtain⟨m,hM,hm⟩: ∃m,ec<=m/\5000000000<=m:=⟨ec+5000000000,Nat.le_add_right _ _,Nat.le_add_left _ _⟩;refine⟨m,?_⟩;obtain⟨N,hN,e1⟩:=HV m n (k:=6) O O;obtain⟨S0,I0,V0,e2,hW⟩:=qgi hm hl (n:=N) O style;have hb:N*N<=100000:=zf (pN (show N<=5 by omega) (show N<=5 by omega)) (by decide)
 obtain⟨es,hE,hEU,hSy,e3⟩:=qut hm (N:=N) O hW hb;obtain⟨o,ho,e4⟩:=qr5 hm hl (n:=N) O;have hO:=PO.of ho;obtain⟨st,_,e5⟩:=HV m style (k:=3) O O;obtain⟨b,e6,hbl,hbf⟩:=qmy hm hl (at0:=50) (n:=N) O O (st:Int);have hMV:=QJ hE (show N<=100 by omega) (show N<=100 by omega)
 have hU:UL (bo es N N):=Wa hEU
 have hS: ∀e∈ents (br es N N) (a7 es N N) (bo es N N) N 0,FK e∈ents (br es N N) (a7 es N N) (bo es N N) N 0:=by
  rw[q6b];exact hSy.can
 generalize hSe:br es N N=S at*
 generalize hIe:a7 es N N=I at*
 generalize hVe:bo es N N=V at*
 obtain⟨ps,hpE,hpD,hpl,hpS,e7⟩:=qdf (m:=m) O hMV hO.nl hO.inR hO.dst;have hPV:=QJ hpE (show N<=100 by omega) (show N<=100 by omega)
 have hsel: ∀{i j:Nat} {v:Int},i<N->j<N->(((((i:Int),((j:Int),v)):aS)∈ents (br ps N N) (a7 ps N N) (bo ps N N) N 0)↔((((oa o i:Nat):Int),(((oa o j:Nat):Int),v)):aS)∈ents S I V N 0):=λ{i j v} hi hj=>by
  rw[WY hpE hpD,hpS];constructor
  . rintro ⟨i',j',v',e,_,_,h⟩
    simp only[Iu]at e;obtain⟨a1,a2,a3⟩:=e;have a1:i=i':=O;have a2:j=j':=O;subst a1 a2 a3;rw[J4,J4]at h;exact h
  . intro h;exact⟨i,j,v,rfl,by rw[hO.nl];exact hi,by rw[hO.nl];exact hj,by rw[J4,J4];exact h⟩
 have hPS: ∀e∈ents (br ps N N) (a7 ps N N) (bo ps N N) N 0,FK e∈ents (br ps N N) (a7 ps N N) (bo ps N N) N 0:=λe he=>by
  obtain⟨q1,q2,_⟩:=Y3 hPV.ents e he;obtain⟨x,y,v⟩:=e;simp only at q1 q2;obtain⟨i,rfl⟩: ∃i:Nat,x=(i:Int):=⟨x.toNat,O⟩;obtain⟨j,rfl⟩: ∃j:Nat,y=(j:Int):=⟨y.toNat,O⟩;have h1:=(hsel O O).1 he;exact(hsel O O).2 (hS _ h1)
 have hval: ∀e∈ents S I V N 0,dg e.2.2/\bD e.2.2:=λe he=>by
  obtain⟨j,t,_,hj,t1,t2,rfl⟩:=RY.1 he;have hr:=hMV.ok.st.rng (j:=j+1) O;have iu:=hMV.vl;have hu:=hU t O;have hf:=(Y3 hMV.ents _ he).2.2;exact⟨hu,by rw[QR hu]at hf;exact of_decide_eq_true hf⟩
 have hPU:UL (bo ps N N):=Wa λe he=>by
  obtain⟨i,j,v,rfl,_,_,h⟩:=(hpS e).1 he;exact(hval _ h).1
 have hR:PO N (List.range N):=PO.of (List.Perm.refl _);obtain⟨ys,hys,en⟩:=Ux (m:=m) O (show N<=12 by omega) hMV hU hS hO
 obtain⟨zs,hzs,enP⟩:=Ux (m:=m) O (show N<=12 by omega) hPV hPU hPS hR
 have hBeq: ∀a b,a<N->b<N->bB (ents (br ps N N) (a7 ps N N) (bo ps N N) N 0) (List.range N) a b=bB (ents S I V N 0) o a b:=λa b ha hb=>by
  refine Option.ext λv=> ?_
  rw[x4 hPV.dist,x4 hMV.dist,ry ha,ry hb];exact hsel ha hb
 have hzs':MB N (bB (ents S I V N 0) o) zs:=⟨hzs.len,λa b hab hb=>by rw[hzs.get a b hab hb,hBeq a b O hb]⟩
 have hadj:dH N (gB (ents (br ps N N) (a7 ps N N) (bo ps N N) N 0) (List.range N))=dH N (gB (ents S I V N 0) o):=YH λa b ha hb=>by
  unfold gB;rw[hBeq a b ha hb]
 rw[hadj]at enP;have hBF:BF N (bB (ents S I V N 0) o):=λa b _ _ v hv=>hval _ ((x4 hMV.dist).1 hv)
 have gsym: ∀v w,gB (ents S I V N 0) o v w=gB (ents S I V N 0) o w v:=λa b=>by
  have hs: ∀a b,(bB (ents S I V N 0) o a b).isSome=true->(bB (ents S I V N 0) o b a).isSome=true:=λa b h=>by
   obtain⟨v,hv⟩:=NC.1 h;rw[(x4 hMV.dist (v:=v)).2 (hS _ ((x4 hMV.dist).1 hv))];rfl
  unfold gB;rw[xO,zI,zI,decide_eq_true_iff,decide_eq_true_iff];exact⟨λ⟨h1,h2⟩=>⟨λe=>h1 e.symm,hs _ _ h2⟩,λ⟨h1,h2⟩=>⟨λe=>h1 e.symm,hs _ _ h2⟩⟩
 have girr: ∀v,gB (ents S I V N 0) o v v=false:=λv=>by simp[gB]
 obtain⟨g,l,p,r,v,hp1,hp2,hp3,hp4,eL⟩:=qth hM (show N<=12 by omega) hBF gsym girr
 have e8:=eL S I V (nL o) ys hys (by rw[hO.nl];omega) en
 have e10:=eL (br ps N N) (a7 ps N N) (bo ps N N) (al N) zs hzs' (by rw[NP];omega) enP
 have aw:=qlf hm;rw[g4,show(6:Int)=((6:Nat):Int)from rfl,e1,bS]
 dsimp only;rw[e2,bS];dsimp only;rw[e3,bS];dsimp only;rw[e4,bS,show(3:Int)=((3:Nat):Int)from rfl,e5,bS]
 dsimp only;rw[show(50:Int)=((50:Nat):Int)from rfl,e6,bS]
 dsimp only;rw[e7,bS,e8,bS,qlc hm O,bS];dsimp only;rw[e10,bS];dsimp only;rw[aE,iP rfl,aE,iP rfl,aE,iP rfl,Ys O O,bS];dsimp only;rw[jM,cond_false,Ys O O,bS];dsimp only;rw[jM,cond_false,qfp O O,bS];dsimp only;rw[jM,cond_false,aE];by_cases hg:g=0
 . rw[iP hg,iP hg,iP hg];have eT:=Fk (m:=m) O hO hbl (nL o) p r v (al N) p r v m 0 O O;rw[nZ,show(pV 0 λi=>b.getD (oa o i) 0)=[]from rfl]at eT
   rw[eT,bS];dsimp only;have hcl:(pV N λi=>b.getD (oa o i) 0).length=N:=Ok
   have hcf:ft (pV N λi=>b.getD (oa o i) 0):=λi hi=>by
    rw[Ok]at hi;rw[QW hi];exact hbf _ (by rw[hbl];exact hO.lt i hi)
   obtain⟨code,w,eD⟩:=qdk hm (show N<=200 by omega) (p:=p) hp2 hp3 O hp4 hcl hcf
   obtain⟨x,hx,e17⟩:=eD o b hO hbl hbf (λk hk=>by rw[QW hk])
   obtain⟨y,hy,e18⟩:=eD (List.range N) _ hR hcl hcf (λk hk=>by rw[ry hk])
   rw[e17,bS];have e18':xK m (al N) p r v (pV N λi=>b.getD (oa o i) 0)=some ((y,code,()),(),(),()):=e18
   rw[e18',bS];dsimp only
   have eQ:=Fj (m:=m) O hO (x:=x) (y:=y) (code:=code) (λh=>⟨(hx h).1,(hy h).1,λk hk=>by
    have a:=(hy h).2 k hk;rw[ry hk]at a;rw[a,(hx h).2 k hk]⟩) m 0 O O
   rw[nZ]at eQ;rw[aE,iP rfl,aF];by_cases hc:code=0
   . rw[iP hc,aE,iP (by rw[(hx hc).1]),aE,iP (by rw[(hy hc).1]),eQ,bS]
     dsimp only;rw[aw];rfl
   . rw[ao hc,eQ,bS];dsimp only;rw[aw];rfl
 . rw[ao hg,aw];rfl
end Go.Vs.F
