import Derived.Test.YtfleaheoikmdgaaGreatDoorLg
import Derived.Test.YtfleaheoikmdgaaGreatDoorFn
import Derived.KernelRfl
set_option linter.unusedVariables false
set_option linter.unusedSimpArgs false
set_option linter.unusedSectionVars false
set_option linter.defProp false
set_option maxRecDepth 100000
namespace Go.Vs.F
def q5i {es:List Ent} {i j t:Nat} (h:0<Q7 es i j t) (ht:t<=es.length):es.getD (Q7 es i j t-1) zE∈es:=by
 have h1:=(q5f h).1;exact qbc O
def qhl {es:List Ent} {r c:Nat} {x:Int} (h:x∈packV es r c): ∃e∈es,e.2.2=x:=by
 rw[<-can_V]at h;obtain⟨e,he,rfl⟩:=zM.1 h;obtain⟨i,j,_,_,hl,rfl⟩:=q5y.1 he;exact⟨_,q5i hl (zD _),rfl⟩
def qgo {m N:Nat} (a0 a1:Int) (a2 a3 a4:LI) (b0 b1:Int) (b2 b3 b4:LI) {es:List Ent} (hE:EntsOK N N es) {Q:Int->Prop} (hU: ∀e∈es,Q e.2.2) (hl:es.length<=10000): ∀(n k:Nat) (out:List Ent),es.length-k<n->out.length<=2*k->k<=es.length->EntsOK N N out->(∀e∈out,Q e.2.2)->SymV out->
 ∃out',EntsOK N N out'/\(∀e∈out',Q e.2.2)/\SymV out'/\out'.length<=20000/\g5L0 m n a0 a1 a2 a3 a4 b0 b1 b2 b3 b4 out es (k:Int)=some (.inl ((a0,a1,a2,a3,a4,()),(b0,b1,b2,b3,b4,()),out',()))
 |0,k,_,hn,_,_,_,_,_=>absurd hn (zW _)
 |n+1,k,out,hn,ho,hk0,hO,hOU,hS=>by
  by_cases hk:k<es.length
  . obtain⟨q1,q2,q3⟩:=hE k hk;have qU:=hU _ (qbc hk);have hz:es.getD k zE=es.getD k (0,(0,0)):=rfl;rw[hz]at qU;obtain⟨⟨x,y,v⟩,ee⟩: ∃e:Ent,es.getD k (0,(0,0))=e:=⟨_,rfl⟩;rw[ee]at q1 q2 q3 qU;simp only at q1 q2 q3 qU;have c5: ∀e:Ent,out.length+([e]:List Ent).length<=1073741824:=λe=>by show _+1<=_;omega
    have c6: ∀e f:Ent,(out++([e]:List Ent)).length+([f]:List Ent).length<=1073741824:=λe f=>by rw[zO];show _+1+1<=_;omega
    have w:wI ((k:Int)+1)=((k+1:Nat):Int):=wsucc O;by_cases h1:x<y
    . obtain⟨out',p1,p2,p3,p4,e⟩:=qgo (m:=m) a0 a1 a2 a3 a4 b0 b1 b2 b3 b4 hE hU hl n (k+1) out O O O hO hOU hS;refine⟨out',p1,p2,p3,p4,?_⟩;rw[g5L0,bQ,iP O,iP O,zK,tN,ee];dsimp only;rw[bQ,iP h1,w];exact e
    . by_cases h2:x>y
      . obtain⟨out',p1,p2,p3,p4,e⟩:=qgo (m:=m) a0 a1 a2 a3 a4 b0 b1 b2 b3 b4 hE hU hl n (k+1) (out++[(x,(y,v)),(y,(x,v))]) O (by rw[zO];show _+2<=_;omega) O (by
         have:=(hO.snoc q1 q2 q3).snoc q2 q1 q3;rw[zG1]at this
         exact this) (λe he=>by
          rcases zL.1 he with he|he
          . exact hOU e he
          . rcases mC he with rfl|he
            . exact qU
            . rw[zA]at he;subst he;exact qU) (hS.pair O)
        refine⟨out',p1,p2,p3,p4,?_⟩;rw[g5L0,bQ,iP O,iP O,zK,tN,ee];dsimp only;rw[bQ,iN' h1,iP (c5 _),bQ,iP h2,iP (c6 _ _),w,zG1];exact e
      . have hxy:x=y:=O;subst hxy
        obtain⟨out',p1,p2,p3,p4,e⟩:=qgo (m:=m) a0 a1 a2 a3 a4 b0 b1 b2 b3 b4 hE hU hl n (k+1) (out++[(x,(x,v))]) O (by rw[zO];show _+1<=_;omega) O (hO.snoc q1 q1 q3) (λe he=>by
         rcases zL.1 he with he|he
         . exact hOU e he
         . rw[zA]at he;subst he;exact qU) hS.diag
        refine⟨out',p1,p2,p3,p4,?_⟩;rw[g5L0,bQ,iP O,iP O,zK,tN,ee];dsimp only;rw[bQ,iN' h1,iP (c5 _),bQ,iN' h2,w];exact e
  . refine⟨out,hO,hOU,hS,O,?_⟩;rw[g5L0,bQ,iN' O]
def qrl {m:Nat} (hm:5000000000<=m) {N:Nat} (hN:N<=100) {S I V:LI} (hG:GI N N S I V) {Q:Int->Prop} (hQ: ∀k,k<V.length->Q (V.getD k 0)):
 ∃es,EntsOK N N es/\(∀e∈es,Q e.2.2)/\SymV es/\g5 m (N:Int) (N:Int) S I V=some (((N:Int),(N:Int),packS es N N,packI es N N,packV es N N,()),(),()):=by
 have M:=hG.MV hN hN;have hvl:=M.vl;have hil:=M.ok.sz;have q1:EntsOK N N (ents S I V N 0):=M.ents
 have q2: ∀e∈ents S I V N 0,Q e.2.2:=λe he=>by
  obtain⟨j,t,_,hj,t1,t2,rfl⟩:=Jm.1 he;have:=M.ok.st.rng (j:=j+1) O;exact hQ t O
 have q4:=qif (m:=m) O M.ok M.vl M.chk;have q3:(ents S I V N 0).length<=10000:=M.len;obtain⟨es,p1,p2,p3,p4,e⟩:=qgo (m:=m) (N:Int) (N:Int) S I V 0 0 [] [] [] q1 q2 q3 m 0 [] O (zc1 _) (zc1 _) (λk hk=>absurd hk (zW _)) (λe he=>by cases he) (λi j=>rfl)
 refine⟨es,p1,p2,p3,?_⟩;rw[nZ]at e;rw[g5,q4,bS,e,bS];dsimp only;rw[qq4 p1 O O O O];rfl
def qqc {N:Nat} (hN:N<=100) {es:List Ent} (hU: ∀e∈es,U64 e.2.2/\FinF e.2.2):GI N N (packS es N N) (packI es N N) (packV es N N):=by
 have hNN:N*N<=10000:=zT (zD2 hN hN) (by decide)
 have hM:=qeg (es:=es) (r:=N) (c:=N) O O hNN;refine⟨hM.st,λt ht k h1 h2=> ?_,Ja _ _ _,λk hk=> ?_,q2e es N N⟩
 . have:=qy.1 (hM.ent t ht) k h1 h2;simp only[entOK,zF,decide_eq_true_eq,zM2,Bool.not_eq_true',decide_eq_false_iff_not]at this;obtain⟨⟨a,b⟩,c⟩:=this;refine⟨a,b,λh=> ?_⟩
   rcases c with c|c
   . exact absurd h c
   . exact c
 . obtain⟨e,he,e2⟩:=qhl (qcy hk);rw[<-e2];exact hU e he
def q7x {I V:LI} {i:Int}: ∀{d k:Nat},findA I V i d k=none-> ∀t,k<=t->t<k+d->I.getD t 0≠i
 |0,k,_,t,h1,h2=>O
 |d+1,k,h,t,h1,h2=>by
  rw[findA]at h;by_cases c:I.getD k 0=i
  . rw[iP c]at h;cases h
  . rw[iN' c]at h;by_cases e:t=k
    . subst e;exact c
    . exact q7x h t O O
def q6k {R C:Nat} {S I V:LI} (h:MV R C S I V) {i j:Nat} (hj:j<C):
 ((((i:Int),((j:Int),elA S I V i j)):Ent)∈ents S I V C 0)\/((∀v,(((i:Int),((j:Int),v)):Ent)∉ents S I V C 0)/\elA S I V i j=0):=by
 have a:=h.ok.st.rng (j:=j) O;have b:=h.ok.st.rng (j:=j+1) O;have mo:=h.ok.st.mono j hj;unfold elA;cases e:findA I V (i:Int) ((S.getD (j+1) 0).toNat-(S.getD j 0).toNat) (S.getD j 0).toNat with
 |some v=>
  left;obtain⟨t,h1,h2,h3,h4⟩:=q0v e;exact Jm.2 ⟨j,t,O,O,h1,O,by rw[h3,zu1,h4]⟩
 |none=>
  right;refine⟨λv hv=> ?_,rfl⟩
  obtain⟨j',t,_,hj',t1,t2,e'⟩:=Jm.1 hv;simp only[zC3]at e';have:j'=j:=O;subst this;exact q7x e t t1 O e'.1.symm
def qo9 {m:Nat} (hm:3000000<m) {R C:Nat} {S I V:LI} (h:MV R C S I V) {i j:Nat} (hi:i<R) (hj:j<C):g10 m (R:Int) (C:Int) S I V (i:Int) (j:Int)=some (elA S I V i j,(),(),(),()):=by
 have hsz:=h.ok.sz;have hcz:=h.ok.cz;have hrz:=h.ok.rz;have hvl:=h.vl;have hl:=h.ok.st.len;rw[g10,g27eq O O O O O,h.chk,bS,bif_ne,iP rfl,wQ,wi O O,q3a,bS,bif_not,wQ,wi O O,q3a];dsimp only;rw[show(decide ((0:Int)<=(i:Int))&&decide ((i:Int)<=(R:Int)-1))=true by simp;omega,cond_true,bS,bif_not]
 dsimp only;rw[show(decide ((0:Int)<=(j:Int))&&decide ((j:Int)<=(C:Int)-1))=true by simp;omega,cond_true]
 rcases q6k h (i:=i) hj with hv|⟨hn,h0⟩
 . rw[qm2 hm h hv,bS]
 . rw[qpr hm h hj hn,bS,h0]
def qqi {N:Nat} (hN:N<=100) {es:List Ent} (hE:EntsOK N N es) (hS:SymV es) {i j:Nat} (hi:i<N) (hj:j<N):elA (packS es N N) (packI es N N) (packV es N N) i j=elA (packS es N N) (packI es N N) (packV es N N) j i:=by
 have hNN:N*N<=10000:=zT (zD2 hN hN) (by decide)
 have M:=qld hE (r:=N) (c:=N) O O hNN
 have key: ∀{i j:Nat} {v:Int},(((i:Int),((j:Int),v)):Ent)∈ents (packS es N N) (packI es N N) (packV es N N) N 0->(((j:Int),((i:Int),v)):Ent)∈ents (packS es N N) (packI es N N) (packV es N N) N 0:=by
  intro i j v h;rw[q76]at h⊢;exact hS.can _ h
 rcases q6k M (i:=i) hj with h1|⟨h1,e1⟩
 . have h2:=key h1;rcases q6k M (i:=j) hi with h3|⟨h3,_⟩
   . exact M.dist.val h2 h3
   . exact absurd h2 (h3 _)
 . rcases q6k M (i:=j) hi with h3|⟨_,e3⟩
   . exact absurd (key h3) (h1 _)
   . rw[e1,e3]
def el_Q {N:Nat} (hN:N<=100) {es:List Ent} (hE:EntsOK N N es) {Q:Int->Prop} (h0:Q 0) (hQ: ∀e∈es,Q e.2.2) {i j:Nat} (hj:j<N):Q (elA (packS es N N) (packI es N N) (packV es N N) i j):=by
 have hNN:N*N<=10000:=zT (zD2 hN hN) (by decide)
 have M:=qld hE (r:=N) (c:=N) O O hNN;rcases q6k M (i:=i) hj with h1|⟨_,e1⟩
 . rw[q76]at h1;obtain⟨i',j',_,_,hl,e⟩:=q5y.1 h1;simp only[zC3]at e;rw[e.2.2];exact hQ _ (q5i hl (zD _))
 . rw[e1];exact h0
end Go.Vs.F
set_option maxRecDepth 100000
namespace Go.Vs.F
def BdL (l:LI):Prop:= ∀k,k<l.length->fexp (l.getD k 0)<=1063
def BdL.nil:BdL []:=λk h=>absurd h (zW _)
def BdL.app {l x:LI} (h:BdL l) (h':BdL x):BdL (l++x):=λk hk=>by
 rw[zO]at hk;by_cases c:k<l.length
 . rw[gapL c];exact h k c
 . rw[gapR O];exact h' _ O
def BdL.snoc {l:LI} (h:BdL l) {f:Int} (h1:fexp f<=1063):BdL (l++[f]):=h.app λk hk=>by
 have:k=0:=by simp at hk;exact hk
 subst this;exact h1
def qby {f:Int} (h:U64 f) (h1:fexp f<=1063):FinF f:=by unfold FinF;omega
def qps {x M E:Nat} (hx:x<18446744073709551616) (hM:M<18446744073709551616) (hM0:M/4503599627370496%2048=0) (hE:E<2047):
 U64 (b_or_ .u64 (qo .u64 (x:Int) (M:Int)) (shl_ .u64 (wJ (E:Int)) 52))/\fexp (b_or_ .u64 (qo .u64 (x:Int) (M:Int)) (shl_ .u64 (wJ (E:Int)) 52))=(E:Int):=by
 refine⟨wrapU _,?_⟩
 have e2:shl_ .u64 (wJ (E:Int)) 52=((E*2^52:Nat):Int):=by
  rw[w64n O];exact shl64 (a:=E) (k:=52) O (by rw[show(2:Nat)^52=4503599627370496 by decide];omega)
 have ha:x&&&M<18446744073709551616:=zn1 zW3 hx;have hp:(2:Nat)^52=4503599627370496:=by decide
 rw[and64 hx hM,e2,or64 ha (by rw[hp];omega)]
 unfold fexp
 have key:(x&&&M|||E*2^52)/2^52%2^11=E:=by
  rw[<-Nat.shiftRight_eq_div_pow,Nat.shiftRight_or_distrib,Nat.or_mod_two_pow,Nat.shiftRight_and_distrib,Nat.and_mod_two_pow,Nat.shiftRight_eq_div_pow M,hp];rw[show(2:Nat)^11=2048 by decide,hM0,Nat.and_zero,Nat.zero_or,Nat.shiftRight_eq_div_pow,hp,Nat.mul_div_cancel _ (by decide)]
  omega
 rw[hp,show(2:Nat)^11=2048 by decide]at key
 rw[hp];generalize (x&&&M|||E*4503599627370496)=Z at*
 omega
def qrm:(smT.all λf=>decide ((0<=f/\f<18446744073709551616)/\f/4503599627370496%2048<=1063))=true:=by decide+kernel
def qn1 {m:Nat} (hm:5000000000<=m) {x:Int} (hx:U64 x): ∃f,g43 m x=some (f,(),())/\U64 f/\fexp f<=1063:=by
 obtain⟨j,rfl⟩: ∃j,m=j+100:=⟨m-100,O⟩;obtain⟨y,rfl⟩: ∃y:Nat,x=(y:Int):=⟨x.toNat,by have:=hx.1;omega⟩
 have hr:y%19<19:=zN2 _ (by decide)
 have e:g43 (j+100) ((y:Nat):Int)=g43 (j+100) ((y%19:Nat):Int):=by
  rw[g43,g43,show(19:Int)=((19:Nat):Int)from rfl,tm,tm,ze2]
 have h1:=congrArg (λl=>l[y%19]?) (qnf j)
 have hl:smT.length=19:=by decide
 simp only[List.getElem?_map,List.getElem?_range hr,List.getElem?_eq_getElem (show y%19<smT.length by omega),zf1,zH]at h1
 have h2:=zX.1 qrm smT[y%19] (zI _);have h3:=of_decide_eq_true h2;exact⟨_,by rw[e];exact h1,h3.1,h3.2⟩
def qqr {m:Nat} (hm:5000000000<=m) {x:Int} (hx:U64 x) {st:Nat} (h0:st=0\/st=2): ∃f,g20 m x (st:Int)=some (f,(),(),())/\U64 f/\fexp f<=1063:=by
 obtain⟨r,hr,e⟩: ∃r:Nat,r=st/\g4 m (st:Int) ((4:Nat):Int)=some ((r:Int),(),(),()):=⟨st,rfl,by rcases h0 with rfl|rfl<;>rfl⟩
 obtain⟨y,rfl⟩: ∃y:Nat,x=(y:Int):=⟨x.toNat,by have:=hx.1;omega⟩
 have hy:y<18446744073709551616:=by have:=hx.2;omega
 rw[g20,show(4:Int)=((4:Nat):Int)from rfl,e,bS,bif_eq,bif_eq,bif_eq]
 dsimp only;rw[iN' O]
 . by_cases c2:r=2
   . subst c2;clear hr
     have e1:Int.tmod (shr_ .u64 (y:Int) 8) 81=((y/256%81:Nat):Int):=by
      have h1:shr_ .u64 (y:Int) 8=((y/256:Nat):Int):=shr64 (a:=y) (k:=8) O;rw[h1,show(81:Int)=((81:Nat):Int)from rfl,tm]
     have:=qps (x:=y) (M:=9225623836668461056) (E:=983+y/256%81) hy (by decide) (by decide) O
     rw[iP (by decide),e1,show(983:Int)+((y/256%81:Nat):Int)=((983+y/256%81:Nat):Int) by omega]
     exact⟨_,rfl,this.1,zK3 (Int.le_of_eq this.2) O⟩
   . rw[iN' O];rw[iN' O]
     . obtain⟨f,ef,h1,h2⟩:=qn1 hm hx;rw[ef,bS];exact⟨_,rfl,h1,h2⟩
section
variable {m:Nat} (hm:5000000000<=m) {raw:LI} (hl:raw.length<=9223372036854775807) {R C:Nat} (hR:R<=100) {st:Nat} (h0:st=0\/st=2)
include hm hl hR h0
theorem qek (a0 a1 m0 m1:Int) (a2 a3 a4 S I V:LI) (j:Int) (hI:I.length<=100000) (hV:V.length=I.length): ∀(N i:Nat) (X Y:LI),R-i<N->i<=R->CX i X Y->BdL Y->
 ∃X' Y',CX R X' Y'/\BdL Y'/\g6L1 m N raw (R:Int) (C:Int) (st:Int) a0 a1 a2 a3 a4 m0 m1 S (I++X) (V++Y) j (i:Int)=some (.inl (raw,(R:Int),(C:Int),(st:Int),(a0,a1,a2,a3,a4,()),(m0,m1,S,I++X',V++Y',()),j,())):=by
 intro N;induction N with
 |zero=>intro i X Y h;omega
 |succ N ih=>
  intro i X Y h hi hX hB;rw[g6L1,bQ];by_cases c:i<R
  . obtain⟨w,ew,hw⟩:=qol m hl (wI ((wI (100+(wI (j*(R:Int)))))+(i:Int)));rw[iP O,ew,bS,bQ,wQ (n:=(i:Int)+1),wsucc O];have s1:=hX.sz;have s2:=hX.yl;split
    . obtain⟨f,ef,h1,h2⟩:=qqr hm hw h0;rw[iP (by rw[zO];show _+1<=_;omega)]
      dsimp only;rw[ef,bS,iP (by rw[zO];show _+1<=_;omega),zG1,zG1]
      exact ih (i+1) _ _ O O (hX.snoc h1 (qby h1 h2)) (hB.snoc h2)
    . exact ih (i+1) _ _ O O hX.skip hB
  . have:i=R:=O;subst this;rw[iN' O];exact⟨X,Y,hX,hB,rfl⟩
theorem qdy (hC:C<=100) (a0 a1 m0 m1:Int) (a2 a3 a4:LI): ∀(N j:Nat) (S I V:LI),C-j<N->j<=C->GI R j S I V->BdL V->
 ∃S' I' V',GI R C S' I' V'/\BdL V'/\g6L0 m N raw (R:Int) (C:Int) (st:Int) a0 a1 a2 a3 a4 m0 m1 S I V (j:Int)=some (.inl ((a0,a1,a2,a3,a4,()),(m0,m1,S',I',V',()),())):=by
 intro N;induction N with
 |zero=>intro j S I V h;omega
 |succ N ih=>
  intro j S I V h hj hG hB;rw[g6L0,bQ];by_cases c:j<C
  . have s1:=hG.sz;have:j*R<=100*100:=zD2 O hR;obtain⟨X,Y,hX,hY,e⟩:=qek hm hl hR (C:=C) h0 a0 a1 m0 m1 a2 a3 a4 S I V (j:Int) O hG.vl m 0 [] [] O O CX.nil BdL.nil;rw[zL1,zL1,nZ]at e;rw[iP O,e,bS];dsimp only;have hS:=hG.st.len;rw[iP (by show _+1<=_;omega),wQ,wsucc O]
    exact ih (j+1) _ _ _ O O (hG.snoc hX) (hB.app hY)
  . have:j=C:=O;subst this;rw[iN' O];exact⟨S,I,V,hG,hB,rfl⟩
theorem qeb (hC:C<=100): ∃S I V,GI R C S I V/\BdL V/\g6 m raw (R:Int) (C:Int) (st:Int)=some (((R:Int),(C:Int),S,I,V,()),(),(),(),(),()):=by
 obtain⟨S,I,V,hG,hB,e⟩:=qdy hm hl hR (C:=C) h0 hC 0 0 (R:Int) (C:Int) [] [] [] m 0 [0] [] [] O O GI.nil BdL.nil;rw[nZ]at e;exact⟨S,I,V,hG,hB,by rw[g6,e,bS]⟩
end
end Go.Vs.F
set_option maxRecDepth 100000
namespace Go.Vs.F
def bdN (k:Nat):Int:=(2:Int)^(1115+k)
def bdC (k:Nat):Int:=((1064+k:Nat):Int)*4503599627370496
def qqv (k:Nat):gv ((1064+k)*4503599627370496)=2^(1115+k):=by
 have h1:=qdt (n:=1063+k) (N:=4503599627370496) (by decide) (.inl (zD _))
 rw[show(1063+k)*4503599627370496+4503599627370496=(1064+k)*4503599627370496 by omega]at h1
 rw[h1,show(4503599627370496:Nat)=2^52 by decide,<-Nat.pow_add]
 congr 1;omega
def qfl {k:Nat} (hk:k<=900):U64 (bdC k)/\FinF (bdC k)/\valF (bdC k)=bdN k/\U64 (negF (bdC k))/\FinF (negF (bdC k))/\valF (negF (bdC k))= -bdN k:=by
 have e:bdC k=(((1064+k)*4503599627370496:Nat):Int):=by unfold bdC;omega
 obtain⟨u,_,hl⟩:=q3d (k:=(1064+k)*4503599627370496) O;rw[<-e]at u hl;have f:FinF (bdC k):=by rw[q0m u,hl,e];omega
 have v:valF (bdC k)=bdN k:=by
  rw[Zi u f,iN' (by rw[e];omega),hl,e,tN,qqv]
  unfold bdN;exact zV1 2 _
 exact⟨u,f,v,q59 u,q4w u f,by rw[q9k u f,v]⟩
def qky {k:Nat} {z:Int} (hk:k<=900) (h1: -bdN k<=z) (h2:z<=bdN k):blen z.natAbs<=10000:=by
 have:z.natAbs<2^(1115+k+1):=by
  have e:bdN k=((2^(1115+k):Nat):Int):=(zV1 2 _).symm;rw[e]at h1 h2;rw[zD1];have:=zn (n:=1115+k) (show 0<2 by decide)
  omega
 exact zT (Z9 this) O
def q4q (k:Nat):bdN (k+1)=bdN k+bdN k:=by
 unfold bdN;rw[show 1115+(k+1)=1115+k+1 by omega,Int.pow_succ];omega
def qfe (k:Nat):0<bdN k:=by
 have e:bdN k=((2^(1115+k):Nat):Int):=(zV1 2 _).symm;have:=zn (n:=1115+k) (show 0<2 by decide)
 rw[e];omega
def qhj {x y:Int} (hx:U64 x) (hy:U64 y) (fx:FinF x) (fy:FinF y) (h:valF x<=valF y):keyF x<=keyF y:=by
 refine zx λhn=> ?_
 have:=qlp hy hx fy fx O;omega
def qr3 {f:Int} (h:U64 f) (h1:fexp f<=1063): -bdN 0<=valF f/\valF f<=bdN 0:=by
 have hf:=qby h h1;obtain⟨u,g,v,u',g',v'⟩:=qfl (k:=0) O;have hl:lowF f<1064*4503599627370496:=by unfold fexp at h1;unfold lowF;obtain⟨a,b⟩:=h;omega
 have hl0:=Yg f;obtain⟨_,k1,_⟩:=q3d (k:=1064*4503599627370496) (by decide)
 have kb:keyF (bdC 0)=1064*4503599627370496:=k1;have kf: -(1064*4503599627370496)<=keyF f/\keyF f<=1064*4503599627370496:=by unfold keyF;split<;>omega
 have a1:=q1i h u hf g (by rw[kb];omega)
 have a2:=q1i u' h g' hf (by rw[qa3 u,kb];omega)
 rw[v]at a1;rw[v']at a2;exact⟨a2,a1⟩
def dn_ok {k:Nat} (hk:k<=900) {z:Int} (h1: -bdN k<=z) (h2:z<=bdN k):Rd (dnF z)/\FinF (dnF z)/\valF (dnF z)<=z/\ -bdN k<=valF (dnF z):=by
 obtain⟨r,a,b⟩:=qlt (qky hk h1 h2);obtain⟨_,_,_,u,g,v⟩:=qfl hk;have h3:=(b _ u g).1 (by rw[v];exact h1)
 have hf:FinF (dnF z):=(Jr r.u).2 ⟨by have:=((Jr u).1 g).1;omega,a⟩
 exact⟨r,hf,(b _ r.u hf).2 (zj1 _),by rw[<-v];exact q1i u r.u g hf h3⟩
def up_ok {k:Nat} (hk:k<=900) {z:Int} (h1: -bdN k<=z) (h2:z<=bdN k):Rd (upF z)/\FinF (upF z)/\z<=valF (upF z)/\valF (upF z)<=bdN k:=by
 obtain⟨r,a,b⟩:=qkg (qky hk h1 h2);obtain⟨u,g,v,_,_,_⟩:=qfl hk;have h3:=(b _ u g).1 (by rw[v];exact h2)
 have hf:FinF (upF z):=(Jr r.u).2 ⟨a,by have:=((Jr u).1 g).2;omega⟩
 exact⟨r,hf,(b _ r.u hf).2 (zj1 _),by rw[<-v];exact q1i r.u u hf g h3⟩
def clF (f:Int):Int:=if f=9223372036854775808 then 0 else f
def qgy {m:Nat} {f:Int}:g45 m f=some (clF f,(),()):=by
 rw[g45,bif_eq];unfold clF;split<;>rfl
def q27 {m:Nat} {a b:Int}:g23 m a b=some ((clF a,clF b,()),(),(),()):=by
 rw[g23,qgy,qgy,bS,bS]
def Rd.cl {f:Int} (h:Rd f):clF f=f:=iN' h.nz
def qcj {x:Int} (h:FinF x):kindN x≠2:=by
 unfold kindN;rw[iN' h];split<;>decide
def qmc {f:Int} (h:U64 f) (h0:kindN f=0):valF f=0/\clF f=0:=by
 have:fexp f=0/\ffrac f=0:=by
  unfold kindN at h0;split at h0
  . split at h0<;>cases h0
  . split at h0
    . assumption
    . cases h0
 obtain⟨a,b⟩:=this;have hl:lowF f=0:=by unfold fexp at a;unfold ffrac at b;unfold lowF;obtain⟨c,d⟩:=h;omega
 have hf:FinF f:=by unfold FinF;rw[a];decide
 constructor
 . rw[Zi h hf,hl];split<;>rfl
 . unfold clF;unfold lowF at hl;obtain⟨c,d⟩:=h;split<;>omega
section
variable {m:Nat} (hm:5000000000<=m) {a b:Int} (ha:U64 a) (fa:FinF a) (hb:U64 b) (fb:FinF b)
include hm ha fa hb fb
theorem qqd (mode:Int): ∃d:Bool×Bool×LI×Int×Unit,g50 m (ofD a).1 (ofD a).2.1 (ofD a).2.2.1 (ofD a).2.2.2.1 (ofD b).1 (ofD b).2.1 (ofD b).2.2.1 (ofD b).2.2.2.1=some (d,(),(),())/\
 g52 m d.1 d.2.1 d.2.2.1 d.2.2.2.1=some (sgn (valF a+valF b),(),())/\g54 m d.1 d.2.1 d.2.2.1 d.2.2.2.1 mode=some (q05 (mkD (valF a+valF b) (-1074)) mode,(),(),()):=by
 have l1:blen (valF a).natAbs<=2098:=q1k fa;have l2:blen (valF b).natAbs<=2098:=q1k fb;have l3:blen (valF a+valF b).natAbs<=2099:=q38 l1 l2;refine⟨mkD (valF a+valF b) (-1074),?_,qav O (Jc O O O),qmk O mode⟩;rw[q3o fa,q3o fb,qjt O,iP ⟨val_ok fa,val_ok fb⟩]
theorem q9z {mode:Int} (h:mode=1\/mode=2): ∃f,g25 m a b mode=some (f,(),(),(),())/\clF f=q05 (mkD (valF a+valF b) (-1074)) mode:=by
 have z0:q05 (mkD 0 (-1074)) mode=0:=by
  rcases h with rfl|rfl
  . exact qly
  . exact qjj
 obtain⟨d,e1,e2,e3⟩:=qqd hm ha fa hb fb mode
 have i1:g48 m a=some (false,(),()):=by
  rw[g48,(q0q ha).1,bS];dsimp only;rw[show(kindN a==2)=false by simpa using qcj fa]
 have i2:g48 m b=some (false,(),()):=by
  rw[g48,(q0q hb).1,bS];dsimp only;rw[show(kindN b==2)=false by simpa using qcj fb]
 have key: ∃f,((g51 m a).bind λy43=>
          (g51 m b).bind λy44=>
          (g50 m y43.1.1 y43.1.2.1 y43.1.2.2.1 y43.1.2.2.2.1 y44.1.1 y44.1.2.1 y44.1.2.2.1 y44.1.2.2.2.1).bind λy45=>
          (g52 m y45.1.1 y45.1.2.1 y45.1.2.2.1 y45.1.2.2.2.1).bind λy46=>
          bif y46.1==0 then
           (g53 m mode).bind λy47=>
           some (y47.1,((),(),(),()))
          else
           (g54 m y45.1.1 y45.1.2.1 y45.1.2.2.1 y45.1.2.2.2.1 mode).bind λy48=>
           some (y48.1,((),(),(),())))=some (f,((),(),(),()))/\clF f=q05 (mkD (valF a+valF b) (-1074)) mode:=by
  rw[Of_eq O ha,Of_eq O hb,bS,bS];dsimp only;rw[e1,bS];dsimp only;rw[e2,bS];dsimp only;rw[bif_eq];by_cases c:valF a+valF b=0
  . rw[c,iP (by decide),z0]
    rcases h with rfl|rfl
    . exact⟨_,rfl,by decide⟩
    . exact⟨_,rfl,by decide⟩
  . rw[iN' (by unfold sgn;split<;>(try split)<;>omega),e3,bS]
    refine⟨_,rfl,?_⟩;have l3:blen (valF a+valF b).natAbs<=2099:=q38 (q1k fa) (q1k fb);rcases h with rfl|rfl
    . exact(qlt (z:=valF a+valF b) O).1.cl
    . exact(qkg (z:=valF a+valF b) O).1.cl
 rw[g25,qg5 O ha hb (q7e ha fa) (q7e hb fb),bS];dsimp only;rw[cond_false,i1,bS];dsimp only;rw[cond_false,bS,cond_false,i2,bS];dsimp only;rw[cond_false,g49,(q0q ha).1,bS,bS];dsimp only;rw[bif_eq,bif_eq];by_cases c0:kindN a=0
 . rw[iP c0];by_cases c1:a=b
   . rw[iP c1];obtain⟨v0,w0⟩:=qmc ha c0;refine⟨a,rfl,?_⟩;rw[w0,<-c1,v0];exact z0.symm
   . rw[iN' c1];exact key
 . rw[iN' c0];exact key
end
def qlu {m:Nat} (hm:5000000000<=m) {f:Int} (h:U64 f) (hf:FinF f):g61 m f=some (negF f,(),()):=by
 rw[g61,qok O h,bS];dsimp only;rw[q7e h hf,cond_false,(tops h).2.2.1];rfl
structure Iv (k:Nat) (lo hi:Int):Prop where
 r0:Rd lo
 r1:Rd hi
 f0:FinF lo
 f1:FinF hi
 le:valF lo<=valF hi
 b0: -bdN k<=valF lo/\valF lo<=bdN k
 b1: -bdN k<=valF hi/\valF hi<=bdN k
def Iv.up {k:Nat} {lo hi:Int} (h:Iv k lo hi):Iv (k+1) lo hi:=by
 have:=q4q k;have:=qfe k;exact⟨h.r0,h.r1,h.f0,h.f1,h.le,by have:=h.b0;omega,by have:=h.b1;omega⟩
section
variable {m:Nat} (hm:5000000000<=m)
include hm
theorem Iv.valid {k:Nat} {lo hi:Int} (h:Iv k lo hi):g46 m lo hi=some (true,(),()):=by
 have hk:=qhj h.r0.u h.r1.u h.f0 h.f1 h.le;rw[g46,pFCmp O h.r0 h.r1,bS];dsimp only
 rw[cond_true,bQ,iP (by unfold cmpK;split;decide;rw[iN' O];decide),bif_ne,iN' (by rintro rfl;exact h.f0 (by decide))]
 have:hi≠18442240474082181120:=by rintro rfl;exact h.f1 (by decide)
 simp[this]
theorem Iv.both {k l:Nat} {a b c d:Int} (h:Iv k a b) (h':Iv l c d):g24 m a b c d=some (true,(),(),()):=by
 rw[g24,h.valid hm,bS];dsimp only;rw[cond_true,h'.valid hm,bS]
theorem Iv.add {k:Nat} (hk:k<=800) {a b c d:Int} (h:Iv k a b) (h':Iv k c d): ∃lo hi,g8 m a b c d=some ((lo,hi,()),(),(),())/\Iv (k+1) lo hi/\valF lo<=valF a+valF c/\valF b+valF d<=valF hi:=by
 obtain⟨f,e1,c1⟩:=q9z hm h.r0.u h.f0 h'.r0.u h'.f0 (mode:=1) (.inl rfl);obtain⟨g,e2,c2⟩:=q9z hm h.r1.u h.f1 h'.r1.u h'.f1 (mode:=2) (.inr rfl);have s:=q4q k;have:=h.b0;have:=h.b1;have:=h'.b0;have:=h'.b1;have:=h.le;have:=h'.le;obtain⟨p1,p2,p3,p4⟩:=dn_ok (k:=k+1) O (z:=valF a+valF c) O O;obtain⟨q1,q2,q3,q4⟩:=up_ok (k:=k+1) O (z:=valF b+valF d) O O;refine⟨dnF (valF a+valF c),upF (valF b+valF d),?_,⟨p1,q1,p2,q2,O,O,O⟩,p3,q3⟩;rw[g8,h.both hm h',bS,bif_not];dsimp only;rw[cond_true,e1,e2,bS,bS];dsimp only;rw[q27,bS,c1,c2];rfl
theorem Iv.sub {k:Nat} (hk:k<=800) {a b c d:Int} (h:Iv k a b) (h':Iv k c d): ∃lo hi,g12 m a b c d=some ((lo,hi,()),(),(),())/\Iv (k+1) lo hi/\valF lo<=valF a-valF d/\valF b-valF c<=valF hi:=by
 have v1:=q9k h'.r1.u h'.f1;have v2:=q9k h'.r0.u h'.f0;obtain⟨f,e1,c1⟩:=q9z hm h.r0.u h.f0 (q59 h'.r1.u) (q4w h'.r1.u h'.f1) (mode:=1) (.inl rfl);obtain⟨g,e2,c2⟩:=q9z hm h.r1.u h.f1 (q59 h'.r0.u) (q4w h'.r0.u h'.f0) (mode:=2) (.inr rfl);rw[v1]at c1;rw[v2]at c2;have s:=q4q k;have:=h.b0;have:=h.b1;have:=h'.b0;have:=h'.b1;have:=h.le;have:=h'.le;obtain⟨p1,p2,p3,p4⟩:=dn_ok (k:=k+1) O (z:=valF a+ -valF d) O O;obtain⟨q1,q2,q3,q4⟩:=up_ok (k:=k+1) O (z:=valF b+ -valF c) O O;refine⟨dnF (valF a+ -valF d),upF (valF b+ -valF c),?_,⟨p1,q1,p2,q2,O,O,O⟩,O,O⟩;rw[g12,h.both hm h',bS,bif_not];dsimp only;rw[cond_true,g32,g32,qlu hm h'.r1.u h'.f1,qlu hm h'.r0.u h'.f0,bS,bS];dsimp only;rw[e1,e2,bS,bS,bS,bS];dsimp only;rw[q27,bS,c1,c2];rfl
theorem qa8 {a b:Int} (ha:Rd a) (hb:Rd b):g60 m a b=some (decide (keyF a<keyF b),(),(),()):=by
 rw[g60,pFCmp O ha hb,bS];dsimp only;congr 2;unfold cmpK;by_cases c:keyF a<keyF b
 . rw[iP c];simp[c]
 . rw[iN' c];split<;>simp[c]
theorem qmi {a b:Int} (ha:Rd a) (hb:Rd b):g30 m [a,b]=some (if keyF b<keyF a then b else a,(),()):=by
 obtain⟨j,rfl⟩: ∃j,m=j+3:=⟨m-3,O⟩;have l1:=qa8 (m:=j+3) O ha ha;have l2:=qa8 (m:=j+3) O hb ha;rw[g30,iP ⟨zj1 _,by show(0:Int)<2;decide⟩]
 show((g30L0 (j+3) (j+3) a [a,b] 2 0).bind _)=_
 rw[g30L0,bQ,iP (by decide),iP ⟨zj1 _,by show(0:Int)<2;decide⟩,show([a,b]:LI).getD (0:Int).toNat 0=a from rfl,l1,bS]
 dsimp only;rw[decide_eq_false (Int.lt_irrefl _),cond_false,show wI (0+1)=1 by decide,g30L0,bQ,iP (by decide),iP ⟨by decide,by show(1:Int)<2;decide⟩,show([a,b]:LI).getD (1:Int).toNat 0=b from rfl,l2,bS,bQ]
 rw[show wI (1+1)=2 by decide]
 split
 . rw[g30L0,bQ,iN' (by decide),bS]
 . rw[g30L0,bQ,iN' (by decide),bS]
theorem qoi {a b:Int} (ha:Rd a) (hb:Rd b):g31 m [a,b]=some (if keyF a<keyF b then b else a,(),()):=by
 obtain⟨j,rfl⟩: ∃j,m=j+3:=⟨m-3,O⟩;have l1:=qa8 (m:=j+3) O ha ha;have l2:=qa8 (m:=j+3) O ha hb;rw[g31,iP ⟨zj1 _,by show(0:Int)<2;decide⟩]
 show((g31L0 (j+3) (j+3) a [a,b] 2 0).bind _)=_
 rw[g31L0,bQ,iP (by decide),iP ⟨zj1 _,by show(0:Int)<2;decide⟩,show([a,b]:LI).getD (0:Int).toNat 0=a from rfl,l1,bS]
 dsimp only;rw[decide_eq_false (Int.lt_irrefl _),cond_false,show wI (0+1)=1 by decide,g31L0,bQ,iP (by decide),iP ⟨by decide,by show(1:Int)<2;decide⟩,show([a,b]:LI).getD (1:Int).toNat 0=b from rfl,l2,bS,bQ]
 rw[show wI (1+1)=2 by decide]
 split
 . rw[g31L0,bQ,iN' (by decide),bS]
 . rw[g31L0,bQ,iN' (by decide),bS]
theorem Iv.hull {k:Nat} {a b c d:Int} (h:Iv k a b) (h':Iv k c d): ∃lo hi,g11 m a b c d=some ((lo,hi,()),(),(),())/\Iv k lo hi/\valF lo<=valF a/\valF lo<=valF c/\valF b<=valF hi/\valF d<=valF hi:=by
 have e:g11 m a b c d=some ((if keyF c<keyF a then c else a,if keyF b<keyF d then d else b,()),(),(),()):=by
  rw[g11,h.both hm h',bS,bif_not];dsimp only;rw[cond_true,qmi hm h.r0 h'.r0,qoi hm h.r1 h'.r1,bS,bS];dsimp only;rw[q27,bS]
  have q1:clF (if keyF c<keyF a then c else a)=if keyF c<keyF a then c else a:=by
   split
   . exact h'.r0.cl
   . exact h.r0.cl
  have q2:clF (if keyF b<keyF d then d else b)=if keyF b<keyF d then d else b:=by
   split
   . exact h'.r1.cl
   . exact h.r1.cl
  rw[q1,q2]
 have v1: ∀{x y:Int},Rd x->Rd y->FinF x->FinF y->keyF x<=keyF y->valF x<=valF y:=λhx hy fx fy h=>q1i hx.u hy.u fx fy h
 have:=h.le;have:=h'.le;refine⟨_,_,e,?_⟩;by_cases c1:keyF c<keyF a
 . have w1:=v1 h'.r0 h.r0 h'.f0 h.f0 O;rw[iP c1];by_cases c2:keyF b<keyF d
   . have w2:=v1 h.r1 h'.r1 h.f1 h'.f1 O;rw[iP c2];exact⟨⟨h'.r0,h'.r1,h'.f0,h'.f1,h'.le,h'.b0,h'.b1⟩,O,O,O,O⟩
   . have w2:=v1 h'.r1 h.r1 h'.f1 h.f1 O;rw[iN' c2];exact⟨⟨h'.r0,h.r1,h'.f0,h.f1,O,h'.b0,h.b1⟩,O,O,O,O⟩
 . have w1:=v1 h.r0 h'.r0 h.f0 h'.f0 O;rw[iN' c1];by_cases c2:keyF b<keyF d
   . have w2:=v1 h.r1 h'.r1 h.f1 h'.f1 O;rw[iP c2];exact⟨⟨h.r0,h'.r1,h.f0,h'.f1,O,h.b0,h'.b1⟩,O,O,O,O⟩
   . have w2:=v1 h'.r1 h.r1 h'.f1 h.f1 O;rw[iN' c2];exact⟨⟨h.r0,h.r1,h.f0,h.f1,h.le,h.b0,h.b1⟩,O,O,O,O⟩
theorem q9c {f:Int} (h:U64 f) (h1:fexp f<=1063): ∃g,g7 m f=some ((g,g,()),(),())/\Iv 0 g g/\valF g=valF f:=by
 have hf:=qby h h1;have hn:=q7e h hf;have b:=qr3 h h1;refine⟨clF f,?_,?_⟩
 . rw[g7,qf2 h,bS,bif_not];dsimp only;rw[decide_eq_true hf,cond_true,q27,bS]
 . unfold clF;by_cases c:f=9223372036854775808
   . subst c;rw[iP rfl];have v0:valF 9223372036854775808=0:=by decide
     have w0:valF 0=0:=by decide
     have r:Rd 0:=⟨⟨by decide,by decide⟩,by decide,by decide⟩
     have:=qfe 0;exact⟨⟨r,r,by decide,by decide,zj1 _,O,O⟩,by rw[v0,w0]⟩
   . rw[iN' c];have r:Rd f:=⟨h,hn,c⟩;exact⟨⟨r,r,hf,hf,zj1 _,b,b⟩,rfl⟩
end
end Go.Vs.F
set_option maxRecDepth 100000
namespace Go.Vs.F
def qjw (j:Nat):g16 (j+70)=some (true,()):=by kernel_rfl
end Go.Vs.F
set_option maxRecDepth 100000
namespace Go.Vs.F
def Iv.lift {k l:Nat} {a b:Int} (h:Iv k a b) (hl:k<=l):Iv l a b:=by
 induction l with
 |zero=>have:k=0:=O
        subst this;exact h
 |succ l ih=>
  by_cases c:k=l+1
  . subst c;exact h
  . exact(ih O).up
def qpl {f:Int} (h:U64 f):fexp (lowF f)=fexp f:=by unfold fexp lowF;obtain⟨a,b⟩:=h;omega
def rAbsF {m:Nat} {f:Int} (h:U64 f) (hf:FinF f):g9 m f=some (lowF f,(),()):=by
 rw[g9,q4y h,bS,q7e h hf,cond_false,(tops h).2.1]
def cmpNN {m:Nat} {a b:Int} (ha:U64 a) (hb:U64 b) (na:nanB a=false) (nb':nanB b=false):g13 m a b=some ((if keyF a<keyF b then-1 else if keyF a>keyF b then 1 else 0,true,()),(),(),()):=by
 rw[qpd ha hb];unfold cmpR;rw[na,nb'];rfl
def cmp_neg {a b:Int}:(if a<b then(-1:Int)else if a>b then 1 else 0)<0↔a<b:=by
 split
 . simp[*]
 . split<;>simp<;>omega
section
variable {m:Nat} (hm:5000000000<=m) {n:Nat} (h3:n<=3) {S I V:LI} (hM:MV n n S I V)
 (hE: ∀i j,i<n->j<n->U64 (elA S I V i j)/\fexp (elA S I V i j)<=1063)
def rowS (S I V:LI) (i:Nat):Nat->Int
 |0=>0
 |t+1=>rowS S I V i t+if t=i then 0 else((valF (elA S I V i t)).natAbs:Int)
include hm h3 hM hE
theorem G_L1 (lo hi:Int) {i:Nat} (hi':i<n): ∀(N t:Nat) (a b:Int),n-t<N->t<=n->Iv t a b->rowS S I V i t<=valF b->
 ∃c d,Iv n c d/\rowS S I V i n<=valF d/\g3L1 m N (n:Int) (n:Int) (n:Int) S I V lo hi (i:Int) a b (t:Int)=some (.inl ((n:Int),((n:Int),(n:Int),S,I,V,()),lo,hi,(i:Int),(c,d,()),())):=by
 intro N;induction N with
 |zero=>intro t a b h;omega
 |succ N ih=>
  intro t a b h ht hv hr;rw[g3L1,bQ];by_cases c:t<n
  . have w:wI ((t:Int)+1)=((t+1:Nat):Int):=wsucc O;rw[iP O,bif_ne,w];by_cases e:t=i
    . subst e;rw[iP rfl];exact ih (t+1) a b O O hv.up (by simp only[rowS,if_true];omega)
    . rw[iN' O];obtain⟨u,f⟩:=hE i t hi' c;have ff:=qby u f;obtain⟨u1,f1,v1⟩:=absV u ff;obtain⟨g,p1,p2,p3⟩:=q9c hm u1 (by rw[qpl u];exact f)
      obtain⟨lo',hi2,q1,q2,_,q4⟩:=Iv.add hm (k:=t) O hv (p2.lift (zc1 _));rw[qo9 O hM hi' c,bS];dsimp only;rw[rAbsF u ff,bS];dsimp only;rw[p1,bS];dsimp only;rw[q1,bS];dsimp only;exact ih (t+1) lo' hi2 O O q2 (by simp only[rowS];rw[iN' e];omega)
  . have:t=n:=O;subst this;rw[iN' O];exact⟨a,b,hv,hr,rfl⟩
structure GLm (n:Nat) (S I V:LI) (i:Nat) (lo hi:Int):Prop where
 u0:U64 lo
 u1:U64 hi
 n0:nanB lo=false
 n1:nanB hi=false
 s0:i=0->keyF lo=9218868437227405312
 s1:i=0->keyF hi= -9218868437227405312
 f0:0<i->FinF lo/\ -bdN 6<=valF lo
 f1:0<i->FinF hi
 b0: ∀k,k<i->valF lo<=valF (elA S I V k k)-rowS S I V k n
 b1: ∀k,k<i->valF (elA S I V k k)+rowS S I V k n<=valF hi
omit hm h3 hM hE in
theorem GLm.step {i:Nat} {lo hi a b:Int} (h:GLm n S I V i lo hi) (hv:Iv 6 a b) (ha:valF a<=valF (elA S I V i i)-rowS S I V i n) (hb:valF (elA S I V i i)+rowS S I V i n<=valF b):
 GLm n S I V (i+1) (if keyF a<keyF lo then a else lo) (if keyF hi<keyF b then b else hi):=by
 have ka:=(Jr hv.r0.u).1 hv.f0;have kb:=(Jr hv.r1.u).1 hv.f1
 have A:U64 (if keyF a<keyF lo then a else lo)/\nanB (if keyF a<keyF lo then a else lo)=false/\FinF (if keyF a<keyF lo then a else lo)/\ -bdN 6<=valF (if keyF a<keyF lo then a else lo)/\valF (if keyF a<keyF lo then a else lo)<=valF a/\(0<i->valF (if keyF a<keyF lo then a else lo)<=valF lo):=by
  by_cases c:keyF a<keyF lo
  . rw[iP c];exact⟨hv.r0.u,hv.r0.nan,hv.f0,hv.b0.1,zj1 _,λh0=>q1i hv.r0.u h.u0 hv.f0 (h.f0 h0).1 O⟩
  . rw[iN' c]
    have h0:0<i:=by
     rcases Nat.eq_zero_or_pos i with e|e
     . have:=h.s0 e;omega
     . exact e
    exact⟨h.u0,h.n0,(h.f0 h0).1,(h.f0 h0).2,q1i h.u0 hv.r0.u (h.f0 h0).1 hv.f0 O,λ_=>zj1 _⟩
 have B:U64 (if keyF hi<keyF b then b else hi)/\nanB (if keyF hi<keyF b then b else hi)=false/\FinF (if keyF hi<keyF b then b else hi)/\valF b<=valF (if keyF hi<keyF b then b else hi)/\(0<i->valF hi<=valF (if keyF hi<keyF b then b else hi)):=by
  by_cases c:keyF hi<keyF b
  . rw[iP c];exact⟨hv.r1.u,hv.r1.nan,hv.f1,zj1 _,λh0=>q1i h.u1 hv.r1.u (h.f1 h0) hv.f1 O⟩
  . rw[iN' c]
    have h0:0<i:=by
     rcases Nat.eq_zero_or_pos i with e|e
     . have:=h.s1 e;omega
     . exact e
    exact⟨h.u1,h.n1,h.f1 h0,q1i hv.r1.u h.u1 hv.f1 (h.f1 h0) O,λ_=>zj1 _⟩
 obtain⟨a1,a2,a3,a4,a5,a6⟩:=A;obtain⟨b1,b2,b3,b4,b5⟩:=B;refine⟨a1,b1,a2,b2,λh=>O,λh=>O,λ_=>⟨a3,a4⟩,λ_=>b3,λk hk=> ?_,λk hk=> ?_⟩
 . by_cases c:k=i
   . subst c;omega
   . have:=h.b0 k O;have:=a6 O;omega
 . by_cases c:k=i
   . subst c;omega
   . have:=h.b1 k O;have:=b5 O;omega
theorem G_L0: ∀(N i:Nat) (lo hi:Int),n-i<N->i<=n->GLm n S I V i lo hi->
 ∃lo' hi',GLm n S I V n lo' hi'/\g3L0 m N (n:Int) (n:Int) (n:Int) S I V lo hi (i:Int)=some (.inl ((n:Int),((n:Int),(n:Int),S,I,V,()),lo',hi',())):=by
 intro N;induction N with
 |zero=>intro i lo hi h;omega
 |succ N ih=>
  intro i lo hi h hin hL;rw[g3L0,bQ];by_cases c:i<n
  . have w:wI ((i:Int)+1)=((i+1:Nat):Int):=wsucc O;obtain⟨g,p1,p2,p3⟩:=q9c hm (f:=0) ⟨by decide,by decide⟩ (by decide)
    have v0:valF 0=0:=by decide
    obtain⟨r0,r1,q1,q2,q3⟩:=G_L1 hm h3 hM hE lo hi c m 0 g g O (zc1 _) p2 (by rw[p3,v0];exact zj1 _)
    rw[nZ]at q3;obtain⟨u,f⟩:=hE i i c c;obtain⟨d,e1,e2,e3⟩:=q9c hm u f;obtain⟨s0,s1,e4,e5,e6,e7⟩:=Iv.sub hm (k:=n) O (e2.lift (zc1 _)) q1;obtain⟨t0,t1,e8,e9,e10,e11⟩:=Iv.add hm (k:=n) O (e2.lift (zc1 _)) q1;obtain⟨a,b,e12,e13,e14,e15,e16,e17⟩:=Iv.hull hm e5 e9;have hv:Iv 6 a b:=e13.lift O;rw[iP O,p1,bS];dsimp only;rw[q3,bS];dsimp only;rw[qo9 O hM c c,bS];dsimp only;rw[e1,bS];dsimp only;rw[e4,bS];dsimp only;rw[e8,bS];dsimp only;rw[e12,bS];dsimp only;rw[cmpNN hv.r0.u hL.u0 hv.r0.nan hL.n0,bS,cmpNN hL.u1 hv.r1.u hL.n1 hv.r1.nan];dsimp only;rw[show(!true)=false from rfl,cond_false,bQ,bS,w]
    dsimp only;have hs:=hL.step hv O O;have hstep:=ih (i+1) _ _ O O hs;by_cases c1:keyF a<keyF lo
    . rw[iP (cmp_neg.2 c1),show(!true)=false from rfl,cond_false,bQ]
      rw[iP c1]at hstep;by_cases c2:keyF hi<keyF b
      . rw[iP (cmp_neg.2 c2)];rw[iP c2]at hstep;exact hstep
      . rw[iN' (λh=>c2 (cmp_neg.1 h))]
        rw[iN' c2]at hstep;exact hstep
    . rw[iN' (λh=>c1 (cmp_neg.1 h)),bS]
      dsimp only;rw[show(!true)=false from rfl,cond_false,bQ]
      rw[iN' c1]at hstep;by_cases c2:keyF hi<keyF b
      . rw[iP (cmp_neg.2 c2)];rw[iP c2]at hstep;exact hstep
      . rw[iN' (λh=>c2 (cmp_neg.1 h))]
        rw[iN' c2]at hstep;exact hstep
  . have:i=n:=O;subst this;rw[iN' O];exact⟨lo,hi,hL,rfl⟩
end
def qfk {n:Nat} {S I V:LI} {x:Int} (hs: ∀i j,i<n->j<n->elA S I V i j=elA S I V j i) {i:Nat} (hi:i<n): ∀t,t<=n->sm (List.range t) (offB (syD S I V x) i)=((rowS S I V i t:Int):Rat)
 |0,_=>rfl
 |t+1,ht=>by
  rw[q31,qfk hs hi t O,rowS,zk2];congr 1;unfold offB;by_cases c:i=t
  . rw[iP c,iP c.symm];rfl
  . rw[iN' c,iN' (λh=>c h.symm)]
    have:syD S I V x i t=valF (elA S I V i t):=by
     unfold syD;rw[iN' c];rcases Nat.le_total i t with h|h
     . rw[Nat.max_eq_right h,zY3 h,hs t i O hi]
     . rw[Nat.max_eq_left h,Nat.min_eq_right h]
    rw[this,Rat.intCast_natCast]
def qr7 {n:Nat} {S I V:LI} {x:Int} (hs: ∀i j,i<n->j<n->elA S I V i j=elA S I V j i) (h: ∀i,i<n->valF x<valF (elA S I V i i)-rowS S I V i n) {c:Nat} (hc:IsCnt n (syD S I V x) c):c=0:=by
 refine qph (qec S I V x) (λi hi=> ?_) hc
 rw[qfk hs hi n (zD _),show(1:Rat)=((1:Int):Rat)from rfl,<-Rat.intCast_add]
 refine zE2.2 ?_;have:=h i hi;unfold syD;rw[iP rfl];omega
def qqo {n:Nat} {S I V:LI} {x:Int} (hs: ∀i j,i<n->j<n->elA S I V i j=elA S I V j i) (h: ∀i,i<n->valF (elA S I V i i)+rowS S I V i n<=valF x) {c:Nat} (hc:IsCnt n (syD S I V x) c):c=n:=by
 refine qot (qec S I V x) (λi hi=> ?_) hc
 rw[qfk hs hi n (zD _),<-Rat.intCast_neg];refine zE2.2 ?_;have:=h i hi;unfold syD;rw[iP rfl];omega
def q41 (raw:LI) (t1 t2:Int) (hl:raw.length<=9223372036854775807): ∃m,g3 m raw t1 t2=some (true,(),(),(),()):=by
 obtain⟨m,hm,j,hj⟩: ∃m:Nat,5000000000<=m/\ ∃j,m=j+70:=⟨5000000070,by decide,5000000000,rfl⟩
 refine⟨m,?_⟩;obtain⟨r,hr,e1⟩:=qkq m t1 (k:=3) (by decide) (by decide)
 obtain⟨s,hs,e2⟩:=qkq m t2 (k:=2) (by decide) (by decide)
 have w1:wI (1+(r:Int))=((r+1:Nat):Int):=by rw[wQ,wi O O];omega
 have w2:wI ((s:Int)*2)=((2*s:Nat):Int):=by rw[wQ,wi O O];omega
 obtain⟨S,I,V,hG,hB,e3⟩:=qeb hm hl (R:=r+1) (C:=r+1) O (st:=2*s) O O;obtain⟨es,q1,q2,q3,e4⟩:=qrl hm (N:=r+1) O hG (Q:=λv=>U64 v/\fexp v<=1063) (λk hk=>⟨(hG.fn k hk).1,hB k hk⟩)
 have G:=qqc (N:=r+1) O (es:=es) (λe he=>⟨(q2 e he).1,qby (q2 e he).1 (q2 e he).2⟩)
 have M:=G.MV O O
 have hE: ∀i j,i<r+1->j<r+1->U64 (elA (packS es (r+1) (r+1)) (packI es (r+1) (r+1)) (packV es (r+1) (r+1)) i j)/\fexp (elA (packS es (r+1) (r+1)) (packI es (r+1) (r+1)) (packV es (r+1) (r+1)) i j)<=1063:=
  λi j hi hj=>el_Q O q1 (Q:=λv=>U64 v/\fexp v<=1063) ⟨⟨by decide,by decide⟩,by decide⟩ q2 hj
 have hS: ∀i j,i<r+1->j<r+1->elA (packS es (r+1) (r+1)) (packI es (r+1) (r+1)) (packV es (r+1) (r+1)) i j=elA (packS es (r+1) (r+1)) (packI es (r+1) (r+1)) (packV es (r+1) (r+1)) j i:=λi j hi hj=>qqi O q1 q3 hi hj
 obtain⟨lo,hi,hL,e5⟩:=G_L0 hm O M hE m 0 9218868437227405312 18442240474082181120 O (zc1 _)
  ⟨⟨by decide,by decide⟩,⟨by decide,by decide⟩,by decide,by decide,λ_=>by decide,λ_=>by decide,λh=>absurd h (by decide),λh=>absurd h (by decide),λk hk=>absurd hk (zW _),λk hk=>absurd hk (zW _)⟩
 rw[nZ]at e5;obtain⟨fl,bl⟩:=hL.f0 (Nat.succ_pos _);have fh:=hL.f1 (Nat.succ_pos _);have kl:=(Jr hL.u0).1 fl;obtain⟨g,e6,ug,ng,kg⟩:=qm8 (m:=m) hL.u0 hL.n0 kl.1
 have fg:FinF g:=by
  refine(Jr ug).2 ⟨?_,O⟩;obtain⟨_,_,_,u,f,v⟩:=qfl (k:=7) O;have s6:bdN 7=bdN 6+bdN 6:=q4q 6;have:=qfe 6
  have h1:keyF (negF (bdC 7))<keyF lo:=zx λhn=>by
   have:=q1i hL.u0 u fl f O;omega
  have h2:=((Jr u).1 f).1;omega
 have vg:valF g<valF lo:=qlp ug hL.u0 fg fl O;obtain⟨c,hc,e7⟩:=q7w hm G O ug fg;obtain⟨d,hd,e8⟩:=q7w hm G O hL.u1 fh;have z1:=qr7 hS (λi hi=>by have:=hL.b0 i hi;omega) hc
 have z2:=qqo hS (λi hi=>hL.b1 i hi) hd
 subst z1;subst z2;rw[g3,show(3:Int)=((3:Nat):Int)from rfl,e1,show(2:Int)=((2:Nat):Int)from rfl,e2,bS,bS]
 dsimp only;rw[show((2:Nat):Int)=2 from rfl,w1,w2,e3,bS]
 dsimp only;rw[e4,bS];dsimp only;rw[e5,bS];dsimp only;rw[e6,bS];dsimp only;rw[e7,e8,bS,bS];dsimp only;rw[show((0:Int)==0)=true from rfl,cond_true,cond_true,bif_eq,iP (show((0:Nat):Int)=0 from rfl),bif_eq,iP rfl,hj,qjw]
 rfl
end Go.Vs.F
