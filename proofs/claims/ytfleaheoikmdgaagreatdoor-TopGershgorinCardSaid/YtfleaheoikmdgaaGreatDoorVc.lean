import Derived.Test.YtfleaheoikmdgaaGreatDoorVd
import Derived.Scope
import Derived.KernelRfl
import Derived.ProofKit
import Derived.OpenShut
import Derived.Deep.Slices
set_option linter.unusedVariables false
set_option linter.unusedSimpArgs false
set_option linter.unusedSectionVars false
set_option linter.defProp false
namespace Go.Vs
def filter_lt {p p':Nat->Bool} {l:List Nat} (hs: ∀j,p' j=true->p j=true) {i:Nat} (hi:i∈l) (h1:p i=true) (h2:p' i=false):(l.filter p').length<(l.filter p).length:=by
 have le: ∀l:List Nat,(l.filter p').length<=(l.filter p).length:=by
  intro l;induction l with
  |nil=>simp
  |cons x l ih=>
   grind
 induction l with
 |nil=>cases hi
 |cons x l ih=>
  grind
section
variable {P:Program} {CO:qx} {T:TT} {E:Entry} {D:Nat->Prop} {β β':Beta} {who who':Who} {U U':Slots} {a:Act} {w w':World}
variable {N:Nat} {pins:List Nat}
def OpsRun.states {ops:Array Oper} {md:List (Nat×Nat)} {l:List Oper} {i:Nat} {Fs:List (List Nat×List Nat)} (h:OpsRun CO T N pins ops md l i U Fs U'):
 ∃st:Nat->Slots,st 0=U/\st l.length=U'/\Fs.length=l.length/\
  ∀j (h:j<l.length),∃u,Run CO (fullM T N pins ops (i+j) (lookD md (i+j)) l[j]) (st j) u (st (j+1)) (Fs.getD j ([],[])).1 (Fs.getD j ([],[])).2:=by
 induction h with
 | @nil i U=>exact⟨λ_=>U,rfl,rfl,rfl,λj h=>absurd h (zW _)⟩
 | @cons o r i U U1 U2 u R W Ls h1 _ ih=>
   obtain⟨st,e1,e2,e3,e4⟩:=ih;refine⟨λj=>match j with|0=>U|j+1=>st j,rfl,e2,by simp[e3],λj hj=> ?_⟩
   grind
def Holds.getD {Ls:List Log} {Fs:List (List Nat×List Nat)} (h:Holds Ls Fs) (j:Nat):(∀s∈(Fs.getD j ([],[])).1,s∈(Ls.getD j ([],[])).1)/\ ∀s∈(Fs.getD j ([],[])).2,s∈(Ls.getD j ([],[])).2:=by
 induction Fs generalizing Ls j with
 |nil=>grind
 |cons F Fs ih=>
  cases Ls with
  |nil=>exact h.elim
  |cons L Ls=>
   obtain⟨h1,h2,h3⟩:=h;cases j with
   |zero=>exact⟨h1,h2⟩
   |succ j=>exact ih h3 j
def q45: ∀{l:List Oper} {i:Nat},q5e l i=true-> ∀j (h:j<l.length),∀e∈l[j].after,Region.binds .any e=true->e.on<i+j
 |o::r,i,h,j,hj,e,he,hb=>by
  simp only[q5e,zF]at h;cases j with
  |zero=>
   grind
  |succ j=>
   have:=q45 h.2 j (by simpa using hj) e he hb
   omega
def q5l {x y:List Nat} (h:disj x y=true): ∀s∈x,s∉y:=λs hs hy=>by
 have:=zX.1 h s hs;simp[hy]at this
def qh8 (hT:TTok P T) (hC: ∀f as r os,CO f as r os->Xl P f as r os) (hE:EOf P E N pins) {ops:Array Oper} {md:List (Nat×Nat)} (hD: ∀n,D n->n<100) (hDF: ¬D FN)
 {Q:Exit->Act->World->Prop} {Fs:List (List Nat×List Nat)} {Ls:List Log} (h:OpsRun CO T N pins ops md ops.toList 0 U Fs U') (hh:Holds Ls Fs) (hok:qde ops.toList Ls=true)
 (S:Sim E D β who U [] a w) (hn: ∀a' w' β' who',Sim E (Dlt D ops.size) β' who' U' [] a' w'->Q .normal a' w'):
 wpAny P .any ops Q ops.size (Array.replicate ops.size false) a w:=by
 obtain⟨st,s0,sn,_,hst⟩:=h.states;have hlen:ops.toList.length=ops.size:=by simp
 rw[hlen]at sn;simp only[qde,zF]at hok;obtain⟨hedge,hpair⟩:=hok
 let Rg:Nat->List Nat:=λj=>(Fs.getD j ([],[])).1
 let Wg:Nat->List Nat:=λj=>(Fs.getD j ([],[])).2
 let anc:Nat->List Nat:=λj=>(ancs ops.toList 0 []).getD j []
 have hrun: ∀j (h:j<ops.size),∃u,Run CO (fullM T N pins ops j (lookD md j) ops[j]) (st j) u (st (j+1)) (Rg j) (Wg j):=λj hj=>by
  grind
 have hfr: ∀j,j<ops.size-> ∀s,s∉Wg j->vw (st (j+1)) s=vw (st j) s:=λj hj s hs=>by
  obtain⟨u,hu⟩:=hrun j hj;exact hu.frame s hs
 have hconf: ∀i j,i<j->j<ops.size->i∈anc j\/((∀s∈Rg i,s∉Wg j)/\ ∀s∈Rg j,s∉Wg i):=λi j hij hj=>by
  have:=zX.1 (zX.1 hpair j (by simpa using hj)) i (by simpa using hij)
  simp only[qkt,zM2,zF]at this;rcases this with h|⟨h1,h2⟩
  . grind
  . have gi:=hh.getD i;have gj:=hh.getD j;exact .inr ⟨λs hs hw=>q5l h1 s (gi.1 s hs) (gj.2 s hw),λs hs hw=>q5l h2 s (gj.1 s hs) (gi.2 s hw)⟩
 have hedge': ∀j (h:j<ops.size),∀e∈ops[j].after,Region.binds .any e=true->e.on<j:=λj hj e he hb=>by
  have:=q45 hedge j (by rw[hlen];exact hj) e (by simpa using he) hb
  omega
 have hready: ∀(listed:Array Bool),listed.size=ops.size-> ∀i,i∈Region.ready .any ops listed↔ ∃h:i<ops.size,listed.getD i true=false/\ ∀e∈ops[i].after,Region.binds .any e=true->listed.getD e.on false=true:=λlisted hl i=>by
  unfold Region.ready;simp only[zR1,zO1,zF,Bool.not_eq_true'];constructor
  . rintro ⟨h1,h2,h3⟩
    refine⟨h1,h2,λe he hb=> ?_⟩
    simp only[h1,Array.getElem?_eq_getElem,zf1,zu1,Array.all_eq_true_iff_forall_mem]at h3;have:=h3 e he;simpa [hb]using this
  grind
 have gD: ∀(listed:Array Bool) i,i<listed.size->(listed.getD i true=false↔ ¬listed.getD i false=true):=λlisted i hi=>by
  simp[Array.getD,hi]
 have hall: ∀(listed:Array Bool),listed.size=ops.size->Region.ready .any ops listed=[]-> ∀i,i<ops.size->listed.getD i false=true:=λlisted hl hr i=>by
  induction i using Nat.strongRecOn with
  |_ i ih=>
   grind
 have main: ∀(fuel:Nat) (listed:Array Bool) (τ:Slots) (β:Beta) (who:Who) (a:Act) (w:World),listed.size=ops.size->
  ((List.range ops.size).filter λi=> !listed.getD i true).length<=fuel->
  (∀j,j<ops.size->listed.getD j false=true-> ∀k∈prs ops.toList j,listed.getD k false=true)->
  (∀s,Last st Wg ops.size (λj=>listed.getD j false=true) s (vw τ s))->
  Sim E (λn=>D n\/ ∃j k,listed.getD j false=true/\k<16/\n=fresh j k) β who τ [] a w->
  wpAny P .any ops Q fuel listed a w:=by
  have done: ∀(listed:Array Bool) (τ:Slots) (β:Beta) (who:Who) (a:Act) (w:World),listed.size=ops.size->(∀i,i<ops.size->listed.getD i false=true)->
   (∀s,Last st Wg ops.size (λj=>listed.getD j false=true) s (vw τ s))->
   Sim E (λn=>D n\/ ∃j k,listed.getD j false=true/\k<16/\n=fresh j k) β who τ [] a w->Q .normal a w:=by
   intro listed τ β who a w hl hA hL hS;refine hn a w β who ((hS.ext (U':=U') λs=> ?_).mono (λn hn=> ?_) (qoa hDF))
   . rw[<-sn];have:=(Last.canon hfr ops.size (zD _)).uniq ((hL (32*s)).congr λj hj _=>⟨λ_=>hj,λ_=>hA j hj⟩)
     rw[vw_c,vw_c]at this;injection this
   . rcases hn with h|⟨j,k,h1,h2,h3⟩
     . exact .inl h
     . refine .inr ⟨j,k,?_,h2,h3⟩
       grind
  intro fuel;induction fuel with
  |zero=>
   intro listed τ β who a w hl hf hc hL hS
   have hnil:Region.ready .any ops listed=[]:=by
    cases hr:Region.ready .any ops listed with
    |nil=>rfl
    |cons x xs=>
     exfalso;obtain⟨h1,h2,_⟩:=(hready listed hl x).1 (by rw[hr];exact mS)
     simp_all
   exact⟨hnil,done listed τ β who a w hl (hall listed hl hnil) hL hS⟩
  |succ fuel ih=>
   intro listed τ β who a w hl hf hc hL hS;refine⟨λhnil=>done listed τ β who a w hl (hall listed hl hnil) hL hS,λi hi=> ?_⟩
   obtain⟨hlt,hun,haft⟩:=(hready listed hl i).1 hi;have hnS: ¬listed.getD i false=true:=(gD listed i O).1 hun
   have hpr: ∀k∈prs ops.toList i,listed.getD k false=true:=λk hk=>by
    simp only[prs,Array.getElem?_toList,hlt,Array.getElem?_eq_getElem]at hk;simp only[preds,zM,zR1,zF,decide_eq_true_eq]at hk
    grind
   have hanc: ∀j,j<ops.size->(∀k∈prs ops.toList j,listed.getD k false=true)-> ∀k∈anc j,listed.getD k false=true:=λj hj hp=>
    qdc (λj=>listed.getD j false=true) ops.toList (λj hj=>hc j (by rw[<-hlen];exact hj)) ops.toList 0 [] (λj=>by simp) rfl (λj hj=>absurd hj (zW _)) (by simp) j (by rw[hlen];exact hj) hp
   obtain⟨u,hru⟩:=hrun i hlt
   obtain⟨τ',g1,g2⟩:=qj1 (S:=λj=>listed.getD j false=true) hlt hru hfr hconf hnS (hanc i hlt hpr) (λj hj hia=>by
    grind) hL
   have hset: ∀j,(listed.setIfInBounds i true).getD j false=true↔(listed.getD j false=true\/j=i):=λj=>by
    simp only[Array.getD_eq_getD_getElem?,Array.getElem?_setIfInBounds]
    grind
   unfold wpOp;simp only[hlt,Array.getElem?_eq_getElem];refine q8o hT hC hE g1 hS (λk hk=> ?_) λa' w' β' who' S'=> ?_
   . rintro (h|⟨j,k',h1,h2,h3⟩)
     . have:=hD _ h;simp only[fresh]at this;omega
     . have:=q8m hk h2 h3;exact hnS (this.1▸h1)
   . refine ih (listed.setIfInBounds i true) τ' β' who' a' w' (by simp[hl]) ?_ (λj hj hs k hk=> ?_) (λs=> ?_) (S'.mono (λn hn=> ?_) ?_)
     . have:((List.range ops.size).filter λj=> !(listed.setIfInBounds i true).getD j true).length<((List.range ops.size).filter λj=> !listed.getD j true).length:=by
        refine filter_lt (i:=i) (λj h=> ?_) (zO1.2 hlt) (by simp[hun]) ?_
        . grind
        . grind
       omega
     . grind
     . simp_all
     . rcases hn with(h|⟨j,k,h1,h2,h3⟩)|⟨k,hk,h⟩
       . exact .inl h
       . exact .inr ⟨j,k,(hset j).2 (.inl h1),h2,h3⟩
       grind
     . rintro (h|⟨j,k,_,hk,e⟩)
       . exact hDF h
       . simp only[FN,fresh]at e;omega
 refine main ops.size (Array.replicate ops.size false) U β who a w (by simp) ?_ (λj hj hs=> ?_) (λs=> ?_) (S.mono (λn h=> .inl h) ?_)
 . grind
 . simp[Array.getD,hj]at hs
 . refine .inr ⟨λj hj hs=> ?_,by rw[s0]⟩
   simp[Array.getD,hj]at hs
 . rintro (h|⟨j,k,hj,hk,e⟩)
   . exact hDF h
   . simp only[FN,fresh]at e;omega
end
def qaq: ∀(l:List Nat) (s:Nat),(mskL l).testBit s=l.contains s
 |[],s=>by simp[mskL]
 |x::r,s=>by
  show(2^x|||mskL r).testBit s=_
  rw[za3,qaq r s,zd1,List.contains_cons]
  grind
def qqy (A i:Nat):Nat.beq (Nat.land (Nat.shiftRight A i) 1) 1=A.testBit i:=by
 show Nat.beq ((A>>>i)&&&1) 1=A.testBit i
 rw[Nat.testBit,Nat.and_comm 1];have:(A>>>i)&&&1=0\/(A>>>i)&&&1=1:=by rw[Nat.and_one_is_mod];omega
 rcases this with h|h<;>rw[h]<;>rfl
def qd2 {a b:List Nat} (h:Nat.beq (Nat.land (mskL a) (mskL b)) 0=true):disj a b=true:=by
 have h:(mskL a)&&&(mskL b)=0:=Nat.eq_of_beq_eq_true h;simp only[disj,zX,Bool.not_eq_true'];intro x hx;have h1:((mskL a)&&&(mskL b)).testBit x=false:=by rw[h];simp
 rw[zV2,qaq,qaq]at h1
 grind
def qce {acc:List (List Nat)} {accM:List Nat} (hl:accM.length=acc.length) (h: ∀j i,(accM.getD j 0).testBit i=(acc.getD j []).contains i): ∀(ks:List Nat) (i:Nat),
 (predM ks accM).testBit i=(ks.flatMap λj=>j::acc.getD j []).contains i
 |[],i=>by simp[predM]
 |k::ks,i=>by
  show((2^k|||accM.getD k 0)|||predM ks accM).testBit i=_
  rw[za3,za3,qce hl h ks i,h,zd1,fC]
  grind
def qfo: ∀(r:List Oper) (n:Nat) (acc:List (List Nat)) (accM:List Nat),accM.length=acc.length->(∀j i,(accM.getD j 0).testBit i=(acc.getD j []).contains i)->
 (ancM r n accM).length=(ancs r n acc).length/\ ∀j i,((ancM r n accM).getD j 0).testBit i=((ancs r n acc).getD j []).contains i
 |[],n,acc,accM,hl,h=>⟨hl,h⟩
 |o::r,n,acc,accM,hl,h=>by
  refine qfo r (n+1) _ _ (by simp[hl]) λj i=> ?_
  rcases zM3 j acc.length with hj|hj|hj
  . have:=h j i;simp only[List.getD,List.getElem?_append_left hj,List.getElem?_append_left (hl▸hj:j<accM.length)];simpa [List.getD]using this
  . subst hj;have e1:(accM++[predM (preds o n) accM]).getD acc.length 0=predM (preds o n) accM:=by rw[<-hl];simp[List.getD]
    have e2:(acc++[(preds o n).flatMap λj=>j::acc.getD j []]).getD acc.length []=(preds o n).flatMap λj=>j::acc.getD j []:=by simp[List.getD]
    rw[e1,e2];exact qce hl h _ i
  grind
def q70 {A R W:Nat} (f:Nat->Nat×Nat): ∀(l:List (Nat×Nat)) (k:Nat),l.length=k->(∀i,i<k->l[k-1-i]? =some (f i))->qfv A R W l k=true->
 ∀i,i<k->A.testBit i=true\/(Nat.beq (Nat.land (f i).1 W) 0=true/\Nat.beq (Nat.land R (f i).2) 0=true)
 |[],k,hl,hf,h,i,hi=>by simp at hl;omega
 |p::r,0,hl,hf,h,i,hi=>O
 |p::r,k+1,hl,hf,h,i,hi=>by
  simp only[qfv,zF,zM2,qqy]at h;rcases zq i k with hik|hik
  . refine q70 f r k (by simpa using hl) (λj hj=> ?_) h.2 i hik
    have:=hf j O;rw[show k+1-1-j=(k-1-j)+1 by omega]at this
    simpa using this
  grind
def q81 (f:Nat->Nat×Nat): ∀(Ls:List Log) (As:List Nat) (done:List (Nat×Nat)) (j:Nat),done.length=j->(∀i,i<j->done[j-1-i]? =some (f i))->
 (∀a (h:a<Ls.length),f (j+a)=(mskL Ls[a].1,mskL Ls[a].2))->logsM Ls As done j=true->
 ∀a,a<Ls.length-> ∀i,i<j+a->(As.getD a 0).testBit i=true\/(Nat.beq (Nat.land (f i).1 (f (j+a)).2) 0=true/\Nat.beq (Nat.land (f (j+a)).1 (f i).2) 0=true)
 |[],As,done,j,hl,hd,hf,h,a,ha,i,hi=>by simp at ha
 |L::Ls,[],done,j,hl,hd,hf,h,a,ha,i,hi=>by simp[logsM]at h
 |L::Ls,A::As,done,j,hl,hd,hf,h,a,ha,i,hi=>by
  simp only[logsM,zF]at h;have f0:=hf 0 (by simp)
  simp only[zV,zv1]at f0;cases a with
  |zero=>
   have:=q70 f done j hl hd h.1 i O;simpa [f0]using this
  |succ a=>
   have:=q81 f Ls As ((mskL L.1,mskL L.2)::done) (j+1) (by simp[hl]) (λi hi=>by
    rcases zq i j with h'|h'
    . rw[show j+1-1-i=(j-1-i)+1 by omega];simpa using hd i h'
    . have:i=j:=O;subst this;rw[show i+1-1-i=0 by omega];simp[f0]) (λa' ha'=>by
    have:=hf (a'+1) (by simpa using ha')
    rw[show j+1+a'=j+(a'+1) by omega,this];simp) h.2 a (by simpa using ha) i O
   grind
def qbi {ops:List Oper} {Ls:List Log} (h:qdk ops Ls=true):qde ops Ls=true:=by
 simp only[qdk,zF]at h;obtain⟨h1,h2⟩:=h;simp only[qde,h1,zz1,zX,zO1];intro j hj i hi;obtain⟨_,hb⟩:=qfo ops 0 [] [] rfl (λj i=>by simp)
 simp only[qkt,zM2,zF];rcases zq j Ls.length with hjl|hjl
 . have:=q81 (λi=>(mskL (Ls.getD i ([],[])).1,mskL (Ls.getD i ([],[])).2)) Ls _ [] 0 rfl (λi h=>absurd h (zW _)) (λa ha=>by simp[List.getD,ha]) h2 j hjl i O
   rcases this with h|⟨g1,g2⟩
   . left;rw[hb]at h;exact h
   . right;rw[zK]at g1 g2;exact⟨qd2 g1,qd2 g2⟩
 . right;have:Ls.getD j ([],[])=([],[]):=by simp[List.getD,hjl]
   rw[this];simp[disj]
def D99:Nat->Prop:=λn=>n<99
def qh4: ¬D99 FN:=by simp[D99,FN]
def get_map {g:AV->AV} (hg:g .dead= .dead) (U:Slots) (s:Nat):Slots.get (U.map λx=>(x.1,g x.2)) s=g (U.get s):=by
 induction U with
 |nil=>simp[Slots.get,hg]
 |cons x r ih=>
  obtain⟨k,u⟩:=x;simp only[zX1,Slots.get]
  grind
def qms (keep:List Nat) (U:Slots) (s:Nat):(pickS keep U).get s=if s∈keep then U.get s else .dead:=by
 unfold pickS;induction keep with
 |nil=>simp[Slots.get]
 |cons k r ih=>
  simp only[zX1,Slots.get,zJ]
  grind
def qf1 {U:Slots} {s n:Nat} (h:n∈names (U.get s)):n∈q8r U:=by
 induction U with
 |nil=>simp[Slots.get,names,qi,qc]at h
 |cons x r ih=>
  obtain⟨k,u⟩:=x;simp only[Slots.get]at h;simp only[q8r,fC,zL];split at h
  . exact .inl h
  . exact .inr (ih h)
def qh9 {keep:List Nat} {U:Slots} {n:Nat} (h:n∈q8r (pickS keep U)): ∃s,n∈names (U.get s):=by
 simp only[q8r,pickS,zC,zM]at h
 grind
section
variable {ns:List Nat}
def q7y {c:AV}:qc (finC ns c)=(qc c).map (idxIn ns):=by
 cases c with
 |sl o t xs=>cases o<;>rfl
 |ref s n sz w=>simp only[finC];split<;>rfl
 |ptr s n sz i j=>simp only[finC];split<;>rfl
 |dr s n k=>simp only[finC];split<;>rfl
 |_=>rfl
def q4d {cells:List AV}:(cells.map (finC ns)).flatMap qc=(cells.flatMap qc).map (idxIn ns):=by
 induction cells with
 |nil=>rfl
 |cons c cs ih=>simp[q7y,ih]
def q15 {v:AV}:qi (finA ns v)=(qi v).map (idxIn ns):=by
 cases v with
 |bx o cells=>
  have:=q4d (ns:=ns) (cells:=cells);cases o<;>simp[finA,qi,this]
 |agg cells=>exact q4d (ns:=ns) (cells:=cells)
 |sl o t xs=>have:=q7y (ns:=ns) (c:= .sl o t xs);cases o<;>exact this
 |ref s n sz w=>simp only[finA,finC];split<;>rfl
 |ptr s n sz i j=>simp only[finA,finC];split<;>rfl
 |dr s n k=>simp only[finA,finC];split<;>rfl
 |_=>rfl
def qbr {v:AV}:names (fin ns v)=(names v).map (idxIn ns):=by
 cases v with
 |tup vs=>
  simp only[fin,names];induction vs with
  |nil=>rfl
  |cons c cs ih=>simp[q15,ih]
 |sl o t xs=>have:=q15 (ns:=ns) (v:= .sl o t xs);cases o<;>exact this
 |bx o cells=>have:=q15 (ns:=ns) (v:= .bx o cells);cases o<;>exact this
 |agg cells=>exact q15 (ns:=ns) (v:= .agg cells)
 |ref s n sz w=>simp only[fin,finA,finC];split<;>rfl
 |ptr s n sz i j=>simp only[fin,finA,finC];split<;>rfl
 |dr s n k=>simp only[fin,finA,finC];split<;>rfl
 |_=>rfl
def Ym {c:AV} (h: ∀n∈qc c,n∈ns): ∀n∈occC (finC ns c),n<ns.length\/n=98:=by
 cases c with
 |sl o t xs=>
  cases o with
  |nm m=>intro n hn;simp only[finC,occC,zA]at hn;subst hn;exact .inl (X8 (h m (by simp[qc])))
  |_=>intro n hn;cases hn
 |ref s m sz w=>
  simp only[finC];split
  . rename_i hc;intro n hn;simp only[occC,zA]at hn;subst hn;exact .inl (X8 (zB1.1 hc))
  . intro n hn;cases hn
 |ptr s m sz i j=>
  simp only[finC];split
  . rename_i hc;intro n hn;simp only[occC,zA]at hn;subst hn;exact .inl (X8 (zB1.1 hc))
  . intro n hn;cases hn
 |dr s m k=>
  simp only[finC];split
  . rename_i hc;intro n hn;simp only[occC,zA]at hn;subst hn;exact .inl (X8 (zB1.1 hc))
  . intro n hn;cases hn
 |dp m t xs hh=>intro n hn;simp only[finC,occC,zA]at hn;subst hn;exact .inl (X8 (h m (by simp[qc])))
 |dq m t xs hh=>intro n hn;simp only[finC,occC,zA]at hn;subst hn;exact .inl (X8 (h m (by simp[qc])))
 |wn m t xs=>
  intro n hn;simp only[finC,occC,zJ,zS,or_false]at hn;rcases hn with rfl|rfl
  . exact .inl (X8 (h m (by simp[qc])))
  . exact .inr rfl
 |mm m t xs o=>intro n hn;simp only[finC,occC,zA]at hn;subst hn;exact .inl (X8 (h m (by simp[qc])))
 |fd m t xs hh=>
  intro n hn;simp only[finC,occC,zJ,zS,or_false]at hn;rcases hn with rfl|rfl
  . exact .inl (X8 (h m (by simp[qc])))
  . exact .inr rfl
 |_=>intro n hn;cases hn
def Jt {cells:List AV} (h: ∀n∈cells.flatMap qc,n∈ns): ∀n∈(cells.map (finC ns)).flatMap occC,n<ns.length\/n=98:=by
 intro n hn;obtain⟨c,hc,hn⟩:=zC.1 hn;obtain⟨d,hd,rfl⟩:=zM.1 hc;exact Ym (λn hn=>h n (zC.2 ⟨d,hd,hn⟩)) n hn
def Xx {v:AV} (h: ∀n∈qi v,n∈ns): ∀n∈occA (finA ns v),n<ns.length\/n=98:=by
 cases v with
 |bx o cells=>
  cases o with
  |nm m=>
   intro n hn;simp only[finA,occA,zJ]at hn;rcases hn with rfl|hn
   . exact .inl (X8 (h m (by simp[qi])))
   . exact Jt (λn hn=>h n (by simp only[qi];grind)) n hn
  |_=>exact Jt h
 |agg cells=>exact Jt h
 |sl o t xs=>have:=Ym (ns:=ns) (c:= .sl o t xs) h;cases o<;>exact this
 |ref s n sz w=>have:=Ym (ns:=ns) (c:= .ref s n sz w) h;simp only[finA,finC]at*;split<;>simp_all[occA]
 |ptr s n sz i j=>have:=Ym (ns:=ns) (c:= .ptr s n sz i j) h;simp only[finA,finC]at*;split<;>simp_all[occA]
 |dr s n k=>have:=Ym (ns:=ns) (c:= .dr s n k) h;simp only[finA,finC]at*;split<;>simp_all[occA]
 |dp n t xs hh=>exact Ym (ns:=ns) (c:= .dp n t xs hh) h
 |wn n t xs=>exact Ym (ns:=ns) (c:= .wn n t xs) h
 |dq n t xs hh=>exact Ym (ns:=ns) (c:= .dq n t xs hh) h
 |fd n t xs hh=>exact Ym (ns:=ns) (c:= .fd n t xs hh) h
 |mm n t xs o=>exact Ym (ns:=ns) (c:= .mm n t xs o) h
 |_=>intro n hn;cases hn
def qp8 {v:AV} (h: ∀n∈names v,n∈ns): ∀n∈Vs.occ (fin ns v),n<ns.length\/n=98:=by
 cases v with
 |tup vs=>
  intro n hn;simp only[fin,Vs.occ]at hn;obtain⟨c,hc,hn⟩:=zC.1 hn;obtain⟨d,hd,rfl⟩:=zM.1 hc;exact Xx (λn hn=>h n (zC.2 ⟨d,hd,hn⟩)) n hn
 |sl o t xs=>have:=Xx (ns:=ns) (v:= .sl o t xs) h;cases o<;>exact this
 |bx o cells=>have:=Xx (ns:=ns) (v:= .bx o cells) h;cases o<;>exact this
 |agg cells=>exact Xx (ns:=ns) (v:= .agg cells) h
 |ref s n sz w=>have:=Xx (ns:=ns) (v:= .ref s n sz w) h;simp only[fin,finA,finC]at*;split<;>simp_all[Vs.occ]
 |ptr s n sz i j=>have:=Xx (ns:=ns) (v:= .ptr s n sz i j) h;simp only[fin,finA,finC]at*;split<;>simp_all[Vs.occ]
 |dr s n k=>have:=Xx (ns:=ns) (v:= .dr s n k) h;simp only[fin,finA,finC]at*;split<;>simp_all[Vs.occ]
 |dp n t xs hh=>exact Xx (ns:=ns) (v:= .dp n t xs hh) h
 |wn n t xs=>exact Xx (ns:=ns) (v:= .wn n t xs) h
 |dq n t xs hh=>exact Xx (ns:=ns) (v:= .dq n t xs hh) h
 |fd n t xs hh=>exact Xx (ns:=ns) (v:= .fd n t xs hh) h
 |mm n t xs o=>exact Xx (ns:=ns) (v:= .mm n t xs o) h
 |_=>intro n hn;cases hn
end
section
variable {β β2:Beta} {who who2:Who} {w:World} {ns:List Nat}
structure FinOK (β:Beta) (who:Who) (β2:Beta) (who2:Who) (ns:List Nat):Prop where
 beta: ∀n∈ns,β2 (idxIn ns n)=β n
 own: ∀n∈ns,∀b,who b=some n->who2 b=some (idxIn ns n)
 imm: ∀b,who b=none->who2 b=none
 b98:β2 98=β 98
def RelC.fin {c:AV} {v:Value} (k:FinOK β who β2 who2 ns) (hn: ∀n∈qc c,n∈ns) (h:RelC β who w c v):RelC β2 who2 w (finC ns c) v:=by
 have im: ∀b,who b=none->b<w.heap.size->who2 b=none/\w.heap[b]? =w.heap[b]? :=λb hb _=>⟨k.imm b hb,rfl⟩
 cases c with
 |sl o t xs=>
  cases o with
  |imm=>exact SlI.keep im (zD _) h
  |nl=>exact h
  |inn=>exact h
  |nm n=>
   have hin:=hn n (by simp[qc])
   obtain⟨h1,h2⟩:=h;refine⟨by rw[k.beta n hin];exact h1,?_⟩
   rcases h2 with h2|⟨b,o,cap,arr,el,e1,e2,e3,e4,e5,e6⟩
   . exact .inl h2
   . exact .inr ⟨b,o,cap,arr,el,e1,e2,e3,e4,k.own n hin b e5,Elems.keep im (zD _) rfl e6⟩
 |ref s n sz win=>
  simp only[finC];split
  . rename_i hc;simp only[RelC]at*;rw[k.beta n (zB1.1 hc)];exact h
  . trivial
 |ptr s n sz i j=>
  simp only[finC];split
  . rename_i hc;simp only[RelC]at*;rw[k.beta n (zB1.1 hc)];exact h
  . trivial
 |dr s n kk=>
  simp only[finC];split
  . rename_i hc;simp only[RelC]at*;rw[k.beta n (zB1.1 hc)];cases kk with
    |lenw l=>rcases h with⟨e,⟨e',_⟩|⟨_,_,_,e'⟩⟩<;>exact⟨e,by rw[<-e,e'];exact⟨_,_,_,rfl⟩⟩
    |_=>exact h
  . trivial
 |wn n t xs=>
  have hin:=hn n (by simp[qc])
  obtain⟨⟨h1,h2⟩,arr0,g1,g2⟩:=h;refine⟨⟨by rw[k.beta n hin];exact h1,?_⟩,arr0,by rw[k.b98];exact g1,g2⟩
  rcases h2 with h2|⟨b,o,cap,arr,el,e1,e2,e3,e4,e5,e6⟩
  . exact .inl h2
  . exact .inr ⟨b,o,cap,arr,el,e1,e2,e3,e4,k.own n hin b e5,Elems.keep im (zD _) rfl e6⟩
 |dq n t xs hh=>exact RelDq.map (k.beta n (hn n (by simp[qc]))) (λb hb=>⟨k.own n (hn n (by simp[qc])) b hb,rfl⟩) (λ_ _ _ _ _ he=>Elems.keep im (zD _) rfl he) h
 |dp n t xs hh=>exact RelDp.map (k.beta n (hn n (by simp[qc]))) (λb hb=>⟨k.own n (hn n (by simp[qc])) b hb,rfl⟩) (λ_ _ _ _ he=>Elems.keep im (zD _) rfl he) h
 |mm n t xs o=>exact RelMm.map (k.beta n (hn n (by simp[qc]))) (λb hb=>⟨k.own n (hn n (by simp[qc])) b hb,rfl⟩) (λ_ _ _ he=>RelI.keep im (zD _) he) h
 |fd n t xs hh=>exact⟨RelDp.map (k.beta n (hn n (by simp[qc]))) (λb hb=>⟨k.own n (hn n (by simp[qc])) b hb,rfl⟩) (λ_ _ _ _ he=>Elems.keep im (zD _) rfl he) h.1,by rw[k.b98];exact h.2⟩
 |iptr g t xs i j=>
  obtain⟨b,o,e1,e2,e3,e4,e5⟩:=h;exact⟨b,o,e1,e2,k.imm b e3,e4,Elems.keep im (zD _) rfl e5⟩
 |_=>exact h
def CellsRel.fin {cells:List AV} {arr:Array Value} (k:FinOK β who β2 who2 ns) (hn: ∀n∈cells.flatMap qc,n∈ns) (h:CellsRel β who w cells arr):CellsRel β2 who2 w (cells.map (finC ns)) arr:=by
 refine⟨by simpa using h.1,λj hj=> ?_⟩
 have hj':j<cells.length:=by simpa using hj
 rw[zA1];exact RelC.fin k (λn h=>hn n (zC.2 ⟨_,zI hj',h⟩)) (h.2 j hj')
def RelA.fin {v:AV} {c:Value} (k:FinOK β who β2 who2 ns) (hn: ∀n∈qi v,n∈ns) (h:RelA β who w v c):RelA β2 who2 w (finA ns v) c:=by
 cases v with
 |bx o cells=>
  cases o with
  |nm n=>
   have hin:=hn n (by simp[qi])
   obtain⟨h0,b,arr,el,e1,e2,e3,e4⟩:=h;exact⟨by rw[k.beta n hin];exact h0,b,arr,el,e1,e2,k.own n hin b e3,CellsRel.fin k (λn h=>hn n (by simp only[qi];grind)) e4⟩
  |_=>exact h.elim
 |agg cells=>
  obtain⟨arr,e1,e2⟩:=h;exact⟨arr,e1,CellsRel.fin k hn e2⟩
 |tup vs=>exact h.elim
 |dead=>trivial
 |bool b=>exact RelC.fin (w:=w) (c:= .bool b) k hn h
 |int x n=>exact RelC.fin (w:=w) (c:= .int x n) k hn h
 |lit u=>exact RelC.fin (w:=w) (c:= .lit u) k hn h
 |sl o t xs=>have:=RelC.fin (w:=w) (c:= .sl o t xs) k hn h;cases o<;>exact this
 |ref s n sz win=>have:=RelC.fin (w:=w) (c:= .ref s n sz win) k hn h;simp only[finA,finC]at*;split<;>simp_all[RelA]
 |ptr s n sz i j=>have:=RelC.fin (w:=w) (c:= .ptr s n sz i j) k hn h;simp only[finA,finC]at*;split<;>simp_all[RelA]
 |iptr g t xs i j=>exact RelC.fin (w:=w) (c:= .iptr g t xs i j) k hn h
 |dp n t xs hh=>exact RelC.fin (w:=w) (c:= .dp n t xs hh) k hn h
 |wn n t xs=>exact RelC.fin (w:=w) (c:= .wn n t xs) k hn h
 |dq n t xs hh=>exact RelC.fin (w:=w) (c:= .dq n t xs hh) k hn h
 |fd n t xs hh=>exact RelC.fin (w:=w) (c:= .fd n t xs hh) k hn h
 |mm n t xs o=>exact RelC.fin (w:=w) (c:= .mm n t xs o) k hn h
 |dr s n kk=>have:=RelC.fin (w:=w) (c:= .dr s n kk) k hn h;simp only[finA,finC]at*;split<;>simp_all[RelA]
def Rel.fin {v:AV} {c:Value} (k:FinOK β who β2 who2 ns) (hn: ∀n∈names v,n∈ns) (h:Rel β who w v c):Rel β2 who2 w (Vs.fin ns v) c:=by
 cases v with
 |tup vs=>
  obtain⟨arr,e1,e2,e3⟩:=h;refine⟨arr,e1,by simpa using e2,λj hj=> ?_⟩
  have hj':j<vs.length:=by simpa using hj
  rw[zA1];exact RelA.fin k (λn h=>hn n (zC.2 ⟨_,zI hj',h⟩)) (e3 j hj')
 |dead=>trivial
 |bool b=>exact RelA.fin (w:=w) (v:= .bool b) k hn h
 |int x n=>exact RelA.fin (w:=w) (v:= .int x n) k hn h
 |lit u=>exact RelA.fin (w:=w) (v:= .lit u) k hn h
 |sl o t xs=>have:=RelA.fin (w:=w) (v:= .sl o t xs) k hn h;cases o<;>exact this
 |bx o cells=>have:=RelA.fin (v:= .bx o cells) k hn h;cases o<;>exact this
 |agg cells=>exact RelA.fin (v:= .agg cells) k hn h
 |ref s n sz win=>have:=RelA.fin (w:=w) (v:= .ref s n sz win) k hn h;simp only[Vs.fin,finA,finC]at*;split<;>simp_all[Rel]
 |ptr s n sz i j=>have:=RelA.fin (w:=w) (v:= .ptr s n sz i j) k hn h;simp only[Vs.fin,finA,finC]at*;split<;>simp_all[Rel]
 |iptr g t xs i j=>exact RelA.fin (w:=w) (v:= .iptr g t xs i j) k hn h
 |dp n t xs hh=>exact RelA.fin (w:=w) (v:= .dp n t xs hh) k hn h
 |wn n t xs=>exact RelA.fin (w:=w) (v:= .wn n t xs) k hn h
 |dq n t xs hh=>exact RelA.fin (w:=w) (v:= .dq n t xs hh) k hn h
 |fd n t xs hh=>exact RelA.fin (w:=w) (v:= .fd n t xs hh) k hn h
 |mm n t xs o=>exact RelA.fin (w:=w) (v:= .mm n t xs o) k hn h
 |dr s n kk=>have:=RelA.fin (w:=w) (v:= .dr s n kk) k hn h;simp only[Vs.fin,finA,finC]at*;split<;>simp_all[Rel]
def Y4 {E:Entry} {D:Nat->Prop} {U U':Slots} {keep:List Nat} {a:Act} (h:normal keep U=some U') (S:Sim E D β who U [] a w):
 ∃β' who',Sim E D99 β' who' U' [] a w:=by
 unfold normal at h;simp only at h;split at h
 case isFalse=>cases h
 rename_i hlen;injection h with h
 subst h;generalize hns:q8r (pickS keep U)=ns at*;have hget: ∀s,Slots.get ((pickS keep U).map λx=>(x.1,Vs.fin ns x.2)) s=Vs.fin ns ((pickS keep U).get s):=get_map (g:=Vs.fin ns) rfl _
 have hD: ∀n∈ns,D n:=λn hn=>by
  obtain⟨s,hs⟩:=qh9 (hns▸hn);exact S.occ s n (qj hs)
 have hFN:FN∉ns:=λh=>S.dfn (hD _ h)
 let β':Beta:=λk=>if k=98 then β 98 else β (ns.getD k 0)
 let who':Who:=λb=>match who b with
  |none=>none
  |some n=>if n∈ns then some (idxIn ns n)else if n=FN then some FN else none
 have k:FinOK β who β' who' ns:=⟨λn hn=>by have:=X8 hn;simp only[β',Jl hn];rw[iN' O],λn hn b hb=>by simp[who',hb,hn],λb hb=>by simp[who',hb],by simp[β']⟩
 have hws: ∀b n,who' b=some n-> ∃m,who b=some m:=λb n h=>by
  grind
 have hin: ∀s,∀n∈names ((pickS keep U).get s),n∈ns:=λs n hn=>hns▸qf1 hn
 have hps: ∀s,(pickS keep U).get s=U.get s\/(pickS keep U).get s= .dead:=λs=>by
  rw[qms];grind
 have hnm: ∀s n,n∈names ((pickS keep U).get s)->n∈names (U.get s):=λs n hn=>by
  rcases hps s with e|e
  . rwa [e]at hn
  . rw[e]at hn;cases hn
 refine⟨β',who',?_⟩
 exact{
  rel:=λs=>by
   rw[hget];refine Rel.fin k (hin s) ?_;rcases hps s with e|e
   . rw[e];exact S.rel s
   . rw[e];trivial
  nod:=λs=>by
   rw[hget,qbr];refine Qy (λn h1 m h2 h=>q0t (hin s n h1) (hin s m h2) h) ?_
   rcases hps s with e|e
   . rw[e];exact S.nod s
   . rw[e];exact z01
  dis:=λs s' n h1 h2=>by
   rw[hget,qbr,zM]at h1 h2;obtain⟨m,hm,rfl⟩:=h1;obtain⟨m',hm',e⟩:=h2;have:=q0t (hin s' m' hm') (hin s m hm) e;subst this;exact S.dis s s' m' (hnm s m' hm) (hnm s' m' hm')
  occ:=λs n hn=>by
   rw[hget]at hn;have:=qp8 (hin s) n hn;show n<99;omega
  hrel:=λx hx=>by cases hx
  hnod:=by simp
  hdis:=λx hx=>by cases hx
  hocc:=λx hx=>by cases hx
  wsz:=λb n hb=>by obtain⟨m,hm⟩:=hws b n hb;exact S.wsz b m hm
  fr0:=S.fr0
  fr1:=λb n hb=>by obtain⟨m,hm⟩:=hws b n hb;exact S.fr1 b m hm
  fr2:=S.fr2
  fr3:=λb hb=>by
   have:=S.fr3 b hb
   grind
  fr4:=S.fr4
  dfn:=qh4
  frm:=by simp only[β',iP];exact S.frm
  d98:=by show 98<99;omega
  dfr:=S.dfr
  tsz:=S.tsz
  pin:=S.pin}
end
def ex:Ex->Exit
 | .normal=> .normal
 | .exit id=> .exit id
 | .ret=> .ret
def qll (U:Slots) (t s:Nat):(U.drop1 t).get s=if s=t then .dead else U.get s:=by
 unfold Slots.drop1;induction U with
 |nil=>simp[Slots.get]
 |cons x r ih=>
  obtain⟨k,u⟩:=x;simp only[zr1];by_cases h:k=t
  . subst h;simp only[beq_self_eq_true,zP2,zp1,if_false,ih,Slots.get]
    grind
  . have:(!(k==t))=true:=by simpa using h
    simp only[this,if_true,Slots.get]
    grind
section
variable {P:Program} {CO:qx} {T:TT} {E:Entry} {D:Nat->Prop} {β β':Beta} {who who':Who} {U U':Slots} {a:Act} {w w':World}
def Sim.drop1 (S:Sim E D β who U [] a w) (t:Nat):Sim E D β who (U.drop1 t) [] a w:=by
 refine(S.abs (s:=t) (v:= .dead) trivial (λn hn=>by cases hn) z01 (λn hn=>by cases hn)).ext λs=> ?_
 rw[qll];by_cases h:s=t
 . subst h;rw[iP rfl,qh]
 . rw[iN' h,qg _ _ h]
def Sim.drawn (S:Sim E D β who U [] a w):Sim E D β who U [] a {w with drawn:=w.drawn+1}:=
 S.keep (λ_ _=>rfl) (λ_ _ h=>h) (λ_ _=>rfl) (λ_ h _=>h) S.wsz (zD _)
variable {ρT:Type}
def KQ (E:Entry) (K:Ex->Slots->Option ρT) (ρ:ρT) (Q:Exit->Act->World->Prop):Prop:=
 ∀e U',K e U'=some ρ-> ∀β who a w,Sim E D99 β who U' [] a w->Q (ex e) a w
def Xv (P:Program) (E:Entry) (Lp:Nat->Slots->(Ex->Slots->Option ρT)->Option ρT) (ρ:ρT) (key:Nat) (c:Code):Prop:=
 ∀U K Q β who a w,Lp key U K=some ρ->Sim E D99 β who U [] a w->KQ E K ρ Q->c.wp P Q a w
@[reducible] def LoopSpec (P:Program) (E:Entry) (Lp:Nat->Slots->(Ex->Slots->Option ρT)->Option ρT) (ρ:ρT) (blk:Nat) (body:Code):Prop:=Xv P E Lp ρ blk (Code.loop body)
def Yc (L:Nat->Code->Prop):Code->Nat->Prop
 | .seq a b,k=>Yc L a k/\Yc L b k/\L (jkey b) b
 | .cond _ a b,k=>Yc L a k/\Yc L b k
 | .block id c,_=>Yc L c id
 | .scope c,k=>Yc L c k
 | .loop body,k=>L k (.loop body)
 |_,_=>True
def q2h (hm:P.follows .mixedOrders=true) (hT:TTok P T) (hCO: ∀f as r os,CO f as r os->Xl P f as r os) {N:Nat} {H:Hints} (hE:EOf P E N H.pins)
 {C:Nat->List AV->(AV->List AV->Option ρT)->Option ρT} {Lp:Nat->Slots->(Ex->Slots->Option ρT)->Option ρT} {ρ:ρT}
 (hC: ∀f as k,C f as k=some ρ-> ∃r os,CO f as r os/\k r os=some ρ) (c:Code):
 ∀(blk:Nat) (U:Slots) (K:Ex->Slots->Option ρT) (Q:Exit->Act->World->Prop) (β:Beta) (who:Who) (a:Act) (w:World),Yc (Xv P E Lp ρ) c blk->
  evK C Lp T N H c blk U K=some ρ->Sim E D99 β who U [] a w->KQ E K ρ Q->c.wp P Q a w:=by
 induction c with
 |skip=>exact λblk U K Q β who a w _ h S hK=>wp_skip (hK .normal U h β who a w S)
 |region id ops draw=>
  intro blk U K Q β who a w _ h S hK;simp only[evK]at h;split at h
  . cases h
  rename_i hi _;obtain⟨Fs,U1,U2,Ls,h1,h2,h3,h4⟩:=qna (CO:=CO) hC _ _ _ _ _ h;simp only[zT2]at h4;split at h4
  . cases h4
  rename_i hok;split at h4
  case h_2=>cases h4
  rename_i U3 hnorm
  have fin: ∀(D:Nat->Prop) a' w' β' who',Sim E D β' who' U1 [] a' w'->Q .normal a' w':=λD a' w' β' who' S'=>by
   obtain⟨β'',who'',S''⟩:=Y4 hnorm (S'.ext h2);exact hK .normal U3 h4 _ _ _ _ S''
  have S0:Sim E (Dlt D99 0) β who U [] a w:=S.mono (λn h=> .inl h) (qoa qh4)
  have hD: ∀n,D99 n->n<100:=λn h=>by have:n<99:=h;omega
  cases draw with
  |false=>exact wp_region_list (qj7 hT hCO hE hD h1 S0 (λa' w' β' who' S'=>fin _ a' w' β' who' S'))
  |true=>
   have hok':qde ops.toList Ls=true:=qbi (by simpa using hok)
   exact wp_region_any hm (qh8 hT hCO hE hD qh4 h1 h3 hok' S.drawn (λa' w' β' who' S'=>fin _ a' w' β' who' S'))
 |seq x y ihx ihy=>
  intro blk U K Q β who a w hl h S hK;simp only[evK]at h;refine wp_seq (ihx blk U _ _ β who a w hl.1 h S λe U' he β' who' a' w' S'=> ?_)
  cases e with
  |normal=>
   simp only at he;split at he
   . exact ihy blk U' K Q β' who' a' w' hl.2.1 he S' hK
   . split at he
     . rename_i hn;obtain⟨β'',who'',S''⟩:=Y4 hn S';exact hl.2.2 _ K Q β'' who'' a' w' he S'' hK
     . cases he
  |exit i=>exact hK (.exit i) U' he _ _ _ _ S'
  |ret=>exact hK .ret U' he _ _ _ _ S'
 |cond x c1 c2 ih1 ih2=>
  intro blk U K Q β who a w hl h S hK;cases x with
  |tmp t=>
   simp only[evK]at h;split at h
   . rename_i b hb;have hr:=S.rel t;rw[hb]at hr;refine wp_cond (t:=b) hr ?_;cases b with
     |true=>exact ih1 blk _ K Q β who a w hl.1 h (S.drop1 t) hK
     |false=>exact ih2 blk _ K Q β who a w hl.2 h (S.drop1 t) hK
   . cases h
  |const v=>
   cases v with
   |bool b=>
    simp only[evK]at h;refine wp_cond (t:=b) rfl ?_;cases b with
    |true=>exact ih1 blk _ K Q β who a w hl.1 h S hK
    |false=>exact ih2 blk _ K Q β who a w hl.2 h S hK
   |_=>cases h
  |_=>cases h
 |scope c ih=>
  intro blk U K Q β who a w hl h S hK;simp only[evK]at h
  exact wp_scope_straight (ih blk U K _ β who a w hl h S λe U' he β' who' a' w' S'=>by
   have:=hK e U' he β' who' a' w' S';cases e<;>exact this)
 |label l=>
  intro blk U K Q β who a w hl h S hK;exact wp_label (hK .normal U h _ _ _ _ S)
 |block id c ih=>
  intro blk U K Q β who a w hl h S hK;simp only[evK]at h;refine wp_block (ih id U _ _ β who a w hl h S λe U' he β' who' a' w' S'=> ?_)
  cases e with
  |normal=>exact hK .normal U' he _ _ _ _ S'
  |exit i=>
   simp only at he;show Exit.inBlock id Q (.exit i) a' w';unfold Exit.inBlock;simp only;split at he
   . rename_i e;rw[iP e];exact hK .normal U' he _ _ _ _ S'
   . rename_i e;rw[iN' e];exact hK (.exit i) U' he _ _ _ _ S'
  |ret=>exact hK .ret U' he _ _ _ _ S'
 |loop body ih=>
  intro blk U K Q β who a w hl h S hK;simp only[evK]at h;split at h
  . split at h
    . rename_i hn;obtain⟨β',who',S'⟩:=Y4 hn S;exact hl _ K Q β' who' a w h S' hK
    . cases h
  . cases h
 |exit id=>
  intro blk U K Q β who a w hl h S hK;simp only[evK]at h;split at h
  . split at h
    . rename_i hn;obtain⟨β',who',S'⟩:=Y4 hn S;exact wp_exit (hK (.exit id) _ h _ _ _ _ S')
    . cases h
  . cases h
 |ret=>
  intro blk U K Q β who a w hl h S hK;simp only[evK]at h;split at h
  . rename_i hn;obtain⟨β',who',S'⟩:=Y4 hn S;exact wp_ret (hK .ret _ h _ _ _ _ S')
  . cases h
 |_=>intro blk U K Q β who a w hl h;cases h
def qf4 {c:Code} {Q:Exit->Act->World->Prop} (I:Nat->Act->World->Prop) (h0: ∀a w,¬I 0 a w)
 (round: ∀n a w,I (n+1) a w->c.wp P (Exit.then (I n) Q) a w): ∀n a w,I n a w->(Code.loop c).wp P Q a w:=by
 intro n a w h b k cs
 have key: ∀n a w,I n a w-> ∃e a' w',Q e a' w'/\Arrives P (lone (b.at a (.code c:: .inLoop c::k)) cs w) b k cs e a' w':=by
  intro n;induction n with
  |zero=>grind
  |succ n ih=>
   intro a w hI;obtain⟨e,a₁,w₁,hq,harr⟩:=round n a w hI b (.inLoop c::k) cs;cases e with
   |normal=>
    obtain⟨e₂,a₂,w₂,hq₂,harr₂⟩:=ih a₁ w₁ hq;exact⟨e₂,a₂,w₂,hq₂,.of_steps (Steps.trans harr (.one step_inLoop)) harr₂⟩
   |exit id=>exact⟨_,a₁,w₁,hq,.pass (x:= .inLoop c) rfl (λ_ _=> .inl (by simp)) harr⟩
   |goto l=>exact⟨_,a₁,w₁,hq,.pass (x:= .inLoop c) rfl (λ_ _=> .inl (by simp)) harr⟩
   |ret=>exact⟨_,a₁,w₁,hq,.pass (x:= .inLoop c) rfl (λ_ _=> .inl (by simp)) harr⟩
   |panic ch=>exact⟨_,a₁,w₁,hq,.pass (x:= .inLoop c) rfl (λ_ _=> .inl (by simp)) harr⟩
   |outgrown=>exact⟨_,a₁,w₁,hq,.pass (x:= .inLoop c) rfl (λ_ _=> .inl (by simp)) harr⟩
 obtain⟨e,a',w',hq,harr⟩:=key n a w h;exact⟨e,a',w',hq,.of_steps (.one step_loop) harr⟩
end
section
variable {P:Program} {CO:qx} {T:TT} {E:Entry} {D:Nat->Prop} {β β':Beta} {who who':Who} {U U':Slots} {a:Act} {w w':World}
def qha (hm:P.follows .mixedOrders=true) (hT:TTok P T) (hCO: ∀f as r os,CO f as r os->Xl P f as r os) {N:Nat} {H:Hints} (hE:EOf P E N H.pins)
 {ι M:Type} {C:Nat->List AV->(AV->List AV->Option M)->Option M} {Lp:Nat->Slots->(Ex->Slots->Option M)->Option M}
 (hC: ∀ρ f as k,C f as k=some ρ-> ∃r os,CO f as r os/\k r os=some ρ) {body:Code} {blk:Nat}
 (hL: ∀ρ,Yc (Xv P E Lp ρ) body blk)
 (F:Nat->ι->Option M) (enc:ι->Slots) (out:M->Ex×Slots) (K:Nat->Ex->Slots->Option M)
 (h0: ∀x,F 0 x=none) (hr: ∀n x ρ,F (n+1) x=some ρ->q86 C Lp T N H body blk (enc x) (K n)=some ρ)
 (hK: ∀n e U ρ,K n e U=some ρ->(e= .normal/\ ∃x,U=enc x/\F n x=some ρ)\/(e≠ .normal/\out ρ=(e,U)))
 {n:Nat} {x:ι} {ρ:M} (hF:F n x=some ρ) {Q:Exit->Act->World->Prop} (S:Sim E D99 β who (enc x) [] a w)
 (hQ: ∀β who a w,Sim E D99 β who (out ρ).2 [] a w->Q (ex (out ρ).1) a w):(Code.loop body).wp P Q a w:=by
 refine qf4 (λn a w=> ∃x β who,F n x=some ρ/\Sim E D99 β who (enc x) [] a w) (λa w h=> ?_) (λn a w h=> ?_) n a w ⟨x,β,who,hF,S⟩
 . grind
 . obtain⟨x,β,who,hF,S⟩:=h;have h:=hr n x ρ hF;unfold q86 at h;refine q2h hm hT hCO hE (hC ρ) body blk _ _ _ β who a w (hL ρ) h S λe U' he β' who' a' w' S'=> ?_
   cases e with
   |normal=>
    simp only at he;split at he
    . split at he
      . rename_i hn;obtain⟨β'',who'',S''⟩:=Y4 hn S';rcases hK n _ _ _ he with⟨_,y,rfl,hy⟩|⟨h,_⟩
        . exact⟨y,β'',who'',hy,S''⟩
        . exact absurd rfl h
      . cases he
    . cases he
   |exit i=>
    rcases hK n _ _ _ he with⟨h,_⟩|⟨_,h⟩
    . cases h
    . have:=hQ β' who' a' w' (by rw[h];exact S')
      rw[h]at this;exact this
   |ret=>
    rcases hK n _ _ _ he with⟨h,_⟩|⟨_,h⟩
    . cases h
    . have:=hQ β' who' a' w' (by rw[h];exact S')
      rw[h]at this;exact this
def qd8 (args:List AV): ∀(k s:Nat),(Zv k args).get s=if k<=s then args.getD (s-k) .dead else .dead:=by
 induction args with
 |nil=>intro k s;simp[Zv,Slots.get]
 |cons v r ih=>
  intro k s;simp only[Zv,Slots.get]
  grind
def qhm {args:List AV} (h:(args.flatMap names).Nodup) {i j n:Nat} (h1:n∈names (args.getD i .dead)) (h2:n∈names (args.getD j .dead)):i=j:=by
 induction args generalizing i j with
 |nil=>cases h1
 |cons v r ih=>
  simp only[fC]at h;obtain⟨_,g2,g3⟩:=zG.1 h
  have mem: ∀i,n∈names (r.getD i .dead)->n∈r.flatMap names:=λi hn=>by
   rcases zq i r.length with hlt|hge
   . grind
   . simp only[List.getD,List.getElem?_eq_none hge,z02]at hn;cases hn
  cases i with
  |zero=>
   cases j with
   |zero=>rfl
   |succ j=>exact absurd rfl (g3 n h1 n (mem j h2))
  |succ i=>
   cases j with
   |zero=>exact absurd rfl (g3 n h2 n (mem i h1))
   |succ j=>rw[ih g2 h1 h2]
def getD_mem {args:List AV} {i n:Nat} (h:n∈names (args.getD i .dead)): ∃hlt:i<args.length,args.getD i .dead=args[i]:=by
 rcases zq i args.length with hlt|hge
 . grind
 . simp only[List.getD,List.getElem?_eq_none hge,z02]at h;cases h
def qb6 {args:List AV} {cargs:Array Value} {N:Nat} {pins:List Nat} (hsz:cargs.size=args.length) (hN:args.length<=N)
 (hrel: ∀i (h:i<args.length),Rel β who w args[i] (cargs.getD i undef)) (hnd:(args.flatMap names).Nodup) (h99: ∀n∈args.flatMap names,n<99)
 (hnr:args.all okOut=true) (hw: ∀b n,who b=some n->b<w.heap.size/\(n∈args.flatMap names\/n=FN)) {P:Program} (hgl:GlobOK P who w):
 Sim ⟨P,w,who,pins.map λi=>(i,(cargs++Array.replicate (N-cargs.size) undef).getD i undef),N,hgl,β 98⟩ D99 β who (Zv 0 args) []
  {tmps:=cargs++Array.replicate (N-cargs.size) undef,defers:=[]} w:=by
 have hg: ∀s,(Zv 0 args).get s=args.getD s .dead:=λs=>by rw[qd8];simp
 have hmem: ∀i n,n∈names (args.getD i .dead)->n∈args.flatMap names:=λi n hn=>by
  obtain⟨hlt,e⟩:=getD_mem hn
  grind
 exact{
  rel:=λs=>by
   rw[hg];rcases zq s args.length with hlt|hge
   . have e:args.getD s .dead=args[s]:=by simp[List.getD,hlt]
     have e2:(cargs++Array.replicate (N-cargs.size) undef).getD s undef=cargs.getD s undef:=by
      simp only[Array.getD_eq_getD_getElem?];rw[Array.getElem?_append_left O]
     grind
   . have e:args.getD s .dead= .dead:=by simp[List.getD,List.getElem?_eq_none hge]
     rw[e];trivial
  nod:=λs=>by
   rw[hg];rcases zq s args.length with hlt|hge
   . grind
   . have e:args.getD s .dead= .dead:=by simp[List.getD,List.getElem?_eq_none hge]
     rw[e];exact z01
  dis:=λs s' n h1 h2=>by rw[hg]at h1 h2;exact qhm hnd h1 h2
  occ:=λs n hn=>by
   rw[hg]at hn;rcases zq s args.length with hlt|hge
   . have e:args.getD s .dead=args[s]:=by simp[List.getD,hlt]
     rw[e]at hn;rcases qji (zX.1 hnr _ (zI hlt)) n hn with h|h
     . exact h99 n (hmem s n (by rw[e];exact h))
     . rw[h];show 98<99;omega
   . have e:args.getD s .dead= .dead:=by simp[List.getD,List.getElem?_eq_none hge]
     rw[e]at hn;cases hn
  hrel:=λx hx=>by cases hx
  hnod:=by simp
  hdis:=λx hx=>by cases hx
  hocc:=λx hx=>by cases hx
  wsz:=λb n hb=>(hw b n hb).1
  fr0:=λb hb _=>rfl
  fr1:=λb n hb=> .inl (by grind)
  fr2:=zD _
  fr3:=λb hb=>hb
  fr4:=⟨rfl,rfl⟩
  dfn:=qh4
  frm:=rfl
  d98:=by show 98<99;omega
  dfr:=rfl
  tsz:=by simp;omega
  pin:=λp hp=>by
   grind}
end
def qcx: ∀{l:List Nat},ndup l=true->l.Nodup
 |[],_=>z01
 |x::r,h=>by
  simp only[ndup,zF,Bool.not_eq_true']at h;refine zU.2 ⟨λhx=> ?_,qcx h.2⟩
  grind
def beta1 (β:Beta):Beta:=λn=>if 200<=n then nilS else β n
def who1 (who:Who) (ns:List Nat):Who:=λb=>match who b with
 |some n=>if n∈ns\/n=FN then some n else none
 |none=>none
section
variable {P:Program} {T:TT} {E:Entry} {β:Beta} {who:Who} {U:Slots} {a:Act} {w:World} {ns:List Nat}
def q0j {b n:Nat} (h:who b=some n) (hn:n∈ns):who1 who ns b=some n:=by simp[who1,h,hn]
def q39 {b:Nat} (h:who b=none):who1 who ns b=none:=by simp[who1,h]
def q6g {b n:Nat} (h:who b=some n) (hn:n∉ns) (hF:n≠FN):who1 who ns b=none:=by simp[who1,h,hn,hF]
def im1: ∀b,who b=none->b<w.heap.size->who1 who ns b=none/\w.heap[b]? =w.heap[b]? :=λb hb _=>⟨q39 hb,rfl⟩
def q18 {n:Nat} (h:n<99):beta1 β n=β n:=by simp only[beta1];rw[iN' O]
def RelDp.slI {β:Beta} {who who':Who} {w:World} {n:Nat} {t:Ty} {xs:List (List (Den t))} {v:Value} (h:RelDp β who w n t xs none v) (h0: ∀b,who b=none->who' b=none)
 (hn: ∀b,who b=some n->who' b=none):SlI who' w (.sl false t) xs v:=by
 obtain⟨_,h2⟩:=h;rcases h2 with h2|⟨b,o,cap,arr,el,e1,e2,e3,e4,e5,e6,_⟩
 . exact .inl h2
 refine .inr ⟨b,o,cap,e1,hn b e5,qfs e2,e4,λi hi=> ?_⟩
 obtain⟨f1,f2⟩:=e6 i hi (by simp)
 refine⟨dpv (β n) (i+1),?_,?_⟩
 . show cellAt w b (o+i*1) 0=some (dpv (β n) (i+1))
   rw[<-f1];simp[cellAt]
 . rcases f2 with⟨k1,k2⟩|⟨bi,oi,ci,ar,l,k1,k2,k3,k4,k5,k6,k7⟩
   . exact .inl ⟨k1,k2⟩
   . exact .inr ⟨bi,oi,ci,k1,hn bi k5,qfs k2,k4,Elems.keep (λb hb _=>⟨h0 b hb,rfl⟩) (zD _) rfl k7⟩
def Y2 {n:Nat} {own:Bool} {c c':AV} {u:Value} (h:q9e n own c=some c') (hr:RelC β who w c u) (hn:200<=n) (h99: ∀m∈qc c,m<99)
 (hns: ∀m∈qc c',m∈ns) (hfz: ∀m∈frozC own c,m∉ns):RelC (beta1 β) (who1 who ns) w c' u/\Rel (beta1 β) (who1 who ns) w c' u:=by
 have both: ∀{c':AV},(∀o cs,c'≠ .bx o cs)->(∀cs,c'≠ .agg cs)->(∀vs,c'≠ .tup vs)->RelC (beta1 β) (who1 who ns) w c' u->RelC (beta1 β) (who1 who ns) w c' u/\Rel (beta1 β) (who1 who ns) w c' u:=by
  intro c' h1 h2 h3 h;refine⟨h,?_⟩;cases c' with
  |bx o cs=>exact absurd rfl (h1 o cs)
  |agg cs=>exact absurd rfl (h2 cs)
  |tup vs=>exact absurd rfl (h3 vs)
  |dead=>trivial
  |_=>exact h
 cases c with
 |bool b=>cases h;exact both (by simp) (by simp) (by simp) hr
 |int k x=>cases h;exact both (by simp) (by simp) (by simp) hr
 |lit v=>cases h;exact both (by simp) (by simp) (by simp) hr
 |sl o t xs=>
  cases o with
  |imm=>
   cases own with
   |true=>cases h
   |false=>cases h;exact both (by simp) (by simp) (by simp) (SlI.keep im1 (zD _) hr)
  |inn=>cases h
  |nl=>
   obtain⟨rfl,rfl⟩:=(hr:u=_/\xs=[]);cases own with
   |true=>cases h;exact both (by simp) (by simp) (by simp) ⟨by simp[beta1,hn,nilS],.inl ⟨rfl,rfl⟩⟩
   |false=>cases h;exact both (by simp) (by simp) (by simp) (.inl ⟨rfl,rfl⟩)
  |nm m=>
   obtain⟨h1,h2⟩:=(hr:RelN β who w m t xs u);have hm:=h99 m (by simp[qc])
   cases own with
   |true=>
    cases h
    have hin:=hns m (by simp[qc])
    refine both (by simp) (by simp) (by simp) ⟨by rw[q18 hm];exact h1,?_⟩
    rcases h2 with h2|⟨b,o,cap,arr,el,e1,e2,e3,e4,e5,e6⟩
    . exact .inl h2
    . exact .inr ⟨b,o,cap,arr,el,e1,e2,e3,e4,q0j e5 hin,Elems.keep im1 (zD _) rfl e6⟩
   |false=>
    cases h
    have hni:=hfz m (by simp[frozC])
    refine both (by simp) (by simp) (by simp) ?_
    exact RelN.slI ⟨h1,h2⟩ (λb hb=>q39 hb) (λb hb=>q6g hb hni (by simp only[FN];omega))
 |dp m t xs hh=>
  have hm:=h99 m (by simp[qc])
  cases hh with
  |some k=>cases h
  |none=>
   cases own with
   |true=>
    cases h
    have hin:=hns m (by simp[qc])
    refine both (by simp) (by simp) (by simp) ?_
    exact RelDp.map (q18 hm) (λb hb=>⟨q0j hb hin,rfl⟩) (λ_ _ _ _ he=>Elems.keep im1 (zD _) rfl he) hr
   |false=>
    cases h
    have hni:=hfz m (by simp[frozC])
    refine both (by simp) (by simp) (by simp) ?_
    exact RelDp.slI (n:=m) hr (λb hb=>q39 hb) (λb hb=>q6g hb hni (by simp only[FN];omega))
 |fd m t xs hh=>cases h
 |iptr g t xs i j=>
  cases h
  obtain⟨b,o,e1,e2,e3,e4,e5⟩:=hr;exact both (by simp) (by simp) (by simp) ⟨b,o,e1,e2,(im1 b e3 e4).1,e4,Elems.keep im1 (zD _) rfl e5⟩
 |mm m t xs o=>
  have hm:=h99 m (by simp[qc])
  cases own with
  |true=>
   cases h
   have hin:=hns m (by simp[qc])
   refine both (by simp) (by simp) (by simp) ?_
   exact RelMm.map (q18 hm) (λb hb=>⟨q0j hb hin,rfl⟩) (λ_ _ _ he=>RelI.keep im1 (zD _) he) hr
  |false=>cases h
 |dq m t xs hh=>
  have hm:=h99 m (by simp[qc])
  cases hh with
  |some k=>cases h
  |none=>
   cases own with
   |true=>cases h
   |false=>
    cases h
    have hni:=hfz m (by simp[frozC])
    refine both (by simp) (by simp) (by simp) ?_
    exact RelDq.slI (n:=m) hr (λb hb=>q39 hb) (λb hb=>q6g hb hni (by simp only[FN];omega))
 |_=>cases h
def q20 {f:Nat->Value}: ∀{sp:List Bool} {n:Nat} {cs cs':List AV} {f:Nat->Value},q68 n sp cs=some cs'->(∀j (h:j<cs.length),RelC β who w cs[j] (f j))->200<=n->
 (∀m∈cs.flatMap qc,m<99)->(∀m∈cs'.flatMap qc,m∈ns)->(∀m∈frozL sp cs,m∉ns)->
 cs'.length=cs.length/\ ∀j (h:j<cs'.length),RelC (beta1 β) (who1 who ns) w cs'[j] (f j)
 |[],n,[],cs',f,h,_,_,_,_,_=>by cases h;grind
 |[],n,_::_,cs',f,h,_,_,_,_,_=>by cases h
 |_::_,n,[],cs',f,h,_,_,_,_,_=>by cases h
 |o::os,n,c::cs,cs',f,h,hr,hn,h99,hns,hfz=>by
  simp only[q68]at h;split at h
  . rename_i d ds e1 e2;cases h
    obtain⟨g1,g2⟩:=q20 (sp:=os) (n:=n+1) (cs:=cs) (cs':=ds) (f:=λj=>f (j+1)) e2 (λj hj=>by have:=hr (j+1) (by simpa using hj);simpa using this) O
     (λm hm=>h99 m (by grind)) (λm hm=>hns m (by grind))
     (λm hm=>hfz m (by simp only[frozL,zL];exact .inr hm))
    refine⟨by simp[g1],λj hj=> ?_⟩
    cases j with
    |zero=>
     exact(Y2 e1 (hr 0 (by simp)) hn (λm hm=>h99 m (by grind))
      (λm hm=>hns m (by grind)) (λm hm=>hfz m (by simp only[frozL,zL];exact .inl hm))).1
    |succ j=>grind
  . cases h
def q1j {n:Nat} {sp:List Bool} {v v':AV} {u:Value} (h:q1t n sp v=some v') (hr:Rel β who w v u) (hn:200<=n) (h99: ∀m∈names v,m<99)
 (hns: ∀m∈names v',m∈ns) (hfz: ∀m∈frozA sp v,m∉ns):RelA (beta1 β) (who1 who ns) w v' u/\(∀vs,v'≠ .tup vs):=by
 have one: ∀{v:AV},(∀o cs,v≠ .bx o cs)->(∀cs,v≠ .agg cs)->(∀u,v≠ .lit u)->q1t n sp v=some v'->Rel β who w v u->(∀m∈names v,m<99)->(∀m∈frozA sp v,m∉ns)->
  RelA (beta1 β) (who1 who ns) w v' u/\(∀vs,v'≠ .tup vs):=by
  intro v h1 h2 h3 h hr h99 hfz
  have: ∃o,sp=[o]/\q9e n o v=some v':=by
   unfold q1t at h;split at h
   . exact absurd rfl (h2 _)
   . exact absurd rfl (h1 _ _)
   . exact absurd rfl (h3 _)
   . grind
  obtain⟨o,rfl,hc⟩:=this
  have hfz': ∀m∈frozC o v,m∉ns:=λm hm=>hfz m (by
   unfold frozA;split
   . exact absurd rfl (h2 _)
   . exact absurd rfl (h1 _ _)
   . simp[frozL,hm])
  cases v with
  |bx o cs=>exact absurd rfl (h1 o cs)
  |agg cs=>exact absurd rfl (h2 cs)
  |bool b=>cases hc;exact⟨hr,by simp⟩
  |int k x=>cases hc;exact⟨hr,by simp⟩
  |lit v=>grind
  |sl ow t xs=>
   have hns': ∀m∈qc v',m∈ns:=λm hm=>hns m (by
    cases ow<;>cases o<;>cases hc<;>first|exact hm|cases hm)
   obtain⟨g1,g2⟩:=Y2 hc hr hn h99 hns' hfz';cases ow<;>cases o<;>cases hc<;>exact⟨g1,by simp⟩
  |dp m t xs hh=>
   cases hh with
   |some k=>cases hc
   |none=>
    cases o with
    |true=>
     obtain⟨g1,g2⟩:=Y2 hc hr hn h99 (λm hm=>by cases hc;exact hns m hm) hfz'
     cases hc
     exact⟨g1,by simp⟩
    |false=>
     obtain⟨g1,g2⟩:=Y2 hc hr hn h99 (λm hm=>by cases hc;cases hm) hfz'
     cases hc
     exact⟨g1,by simp⟩
  |fd m t xs hh=>cases hc
  |iptr g t xs i j=>
   obtain⟨g1,g2⟩:=Y2 (β:=β) (who:=who) (w:=w) (ns:=ns) (u:=u) hc hr hn h99 (λm hm=>by cases hc;cases hm) hfz'
   cases hc
   exact⟨g1,by simp⟩
  |mm m t xs q=>
   cases o with
   |true=>
    obtain⟨g1,g2⟩:=Y2 hc hr hn h99 (λm hm=>by cases hc;exact hns m hm) hfz'
    cases hc
    exact⟨g1,by simp⟩
   |false=>cases hc
  |dq m t xs hh=>
   cases hh with
   |some k=>cases hc
   |none=>
    cases o with
    |true=>cases hc
    |false=>
     obtain⟨g1,g2⟩:=Y2 hc hr hn h99 (λm hm=>by cases hc;cases hm) hfz'
     cases hc
     exact⟨g1,by simp⟩
  |_=>cases hc
 cases v with
 |agg cells=>
  simp only[q1t,zO2]at h;obtain⟨cs',h1,rfl⟩:=h;obtain⟨arr,e1,e2,e3⟩:=hr;obtain⟨g1,g2⟩:=q20 (f:=λj=>arr.getD j undef) h1 e3 hn h99 hns hfz
  exact⟨⟨arr,e1,by rw[e2,g1],g2⟩,by simp⟩
 |bx o cells=>
  cases o with
  |nm m=>
   simp only[q1t,zO2]at h;obtain⟨cs',h1,rfl⟩:=h;obtain⟨h0,b,arr,el,e1,e2,e3,e4,e5⟩:=hr;have hm:=h99 m (by simp[names,qi])
   have hin:=hns m (by simp[names,qi])
   obtain⟨g1,g2⟩:=q20 (f:=λj=>arr.getD j undef) h1 e5 hn (λm hm=>h99 m (by simp only[names,qi];grind))
    (λm hm=>hns m (by simp only[names,qi];grind)) hfz
   exact⟨⟨by rw[q18 hm];exact h0,b,arr,el,e1,e2,q0j e3 hin,by rw[e4,g1],g2⟩,by simp⟩
  |_=>exact hr.elim
 |lit u=>cases h;exact⟨hr,by simp⟩
 |_=>exact one (by simp) (by simp) (by simp) h hr h99 hfz
end
section
variable {P:Program} {T:TT} {E:Entry} {D:Nat->Prop} {β:Beta} {who:Who} {U:Slots} {a:Act} {w:World} {ns:List Nat}
def q8p (tmps:Array Value):ResultVar->Sem Value
 | .tmp t=>pure (tmps.getD t undef)
 | .cell a t=>do loadVar t (<-asAddr (tmps.getD a undef))
def q69 {t:Nat} {ad:Addr} {r:Value} (h:(Instr.loadAt t (.pointer (some ad))).run P w= .ok r w):(do loadVar t (<-asAddr (.pointer (some ad))):Sem Value).run P w= .ok r w:=by
 simpa [Instr.loadAt,Instr.sureAddr,asAddr]using h
def qp2 (hT:TTok P T) (S:Sim E D99 β who U [] a w) {n:Nat} {sp:List Bool} {r:ResultVar} {v':AV} (h:resAV T U n sp r=some v') (hn:200<=n)
 (hns: ∀m∈names v',m∈ns) (hfz: ∀m∈frozR T U sp r,m∉ns):
 ∃u,(q8p a.tmps r).run P w= .ok u w/\RelA (beta1 β) (who1 who ns) w v' u/\ ∀vs,v'≠ .tup vs:=by
 cases r with
 |tmp t=>
  obtain⟨g1,g2⟩:=q1j h (S.rel t) hn (λm hm=>S.occ t m (qj hm)) hns hfz
  exact⟨_,rfl,g1,g2⟩
 |cell t ty=>
  simp only[resAV]at h;split at h
  . rename_i ti m cells hti' hav;split at h
    . rename_i hlen;split at h
      . rename_i v hone;have hti:=hT ty _ hti';have hr:=S.rel t;rw[hav]at hr;obtain⟨hβ,b,arr,el,e1,e2,e3,e4⟩:=hr
        have hmem: ∀j',j'<arr.size->w.cell? ⟨b,0+j',none⟩=some (arr.getD j' undef):=λj' hj'=>by
         simp[World.cell?,e2,hj',Array.getD]
        have h99: ∀m'∈cells.flatMap qc,m'<99:=λm' hm=>S.occ t m' (qj (by rw[hav];simp only[names,qi];grind))
        have hfz': ∀m∈frozA sp v,m∉ns:=λm hm=>hfz m (by simp only[frozR,hti',hav,hone];exact hm)
        cases hagg:Q5 ti.desc with
        |true=>
         simp only[asOne,hagg,if_true,zH]at hone;subst hone;have hrun:=Y0 (P:=P) hti (b:=b) (o:=0) (f:=λj'=>arr.getD j' undef) w (λj' hj'=>hmem _ (by rw[e4.1,hlen];exact hj')) (λh=>by rw[hagg]at h;cases h)
         rw[hagg,iP rfl]at hrun;refine⟨_,by rw[q8p,e1];exact q69 hrun,?_⟩
         exact q1j h (v:= .agg cells) ⟨_,rfl,by simp[hlen],λj hj=>by
          have:=e4.2 j hj;rw[hlen]at hj;simp_all⟩ hn h99 hns hfz'
        |false=>
         simp only[asOne,hagg]at hone;simp only[zp1,if_false]at hone;split at hone
         . rename_i c;cases hone;have hrun:=Y0 (P:=P) hti (b:=b) (o:=0) (f:=λj'=>arr.getD j' undef) w (λj' hj'=>hmem _ (by rw[e4.1,hlen];exact hj')) (λ_=>by rw[<-hlen];rfl)
           rw[hagg,iN' (by simp)]at hrun
           refine⟨_,by rw[q8p,e1];exact q69 hrun,?_⟩
           have hc:=e4.2 0 (by simp)
           refine q1j h (v:=v) ?_ hn ?_ hns hfz'
           . simp only[zv1]at hc;cases v with
             |bx o cs=>exact hc.elim
             |agg cs=>exact hc.elim
             |tup cs=>exact hc.elim
             |dead=>trivial
             |_=>exact hc
           . intro m' hm;refine h99 m' ?_;cases v with
             |bx o cs=>exact hc.elim
             |agg cs=>exact hc.elim
             |tup cs=>exact hc.elim
             |_=>simp only[fC,zg1,zL1];exact hm
         . cases hone
      . cases h
    . cases h
  . cases h
def qg1 (hT:TTok P T) (S:Sim E D99 β who U [] a w): ∀{rv:List ResultVar} {n:Nat} {sp:List (List Bool)} {rs:List AV},resL T U n sp rv=some rs->200<=n->
 (∀m∈rs.flatMap names,m∈ns)->(∀m∈qbl T U sp rv,m∉ns)->
 ∃us:List Value,(rv.mapM (q8p a.tmps)).run P w= .ok us w/\us.length=rs.length/\(∀j (h:j<rs.length),RelA (beta1 β) (who1 who ns) w rs[j] (us.getD j undef))/\ ∀v∈rs,∀vs,v≠ .tup vs
 |[],n,[],rs,h,_,_,_=>by cases h;simp_all
 |[],n,_::_,rs,h,_,_,_=>by cases h
 |_::_,n,[],rs,h,_,_,_=>by cases h
 |r::rv,n,sp::sps,rs,h,hn,hns,hfz=>by
  simp only[resL]at h;split at h
  . rename_i v vs e1 e2;cases h;obtain⟨u,g1,g2,g3⟩:=qp2 (ns:=ns) hT S e1 hn (λm hm=>hns m (by simp only[fC,zL];exact .inl hm)) (λm hm=>hfz m (by simp only[qbl,zL];exact .inl hm))
    obtain⟨us,q1,q2,q3,q4⟩:=qg1 hT S e2 O (λm hm=>hns m (by simp only[fC,zL];exact .inr hm)) (λm hm=>hfz m (by simp only[qbl,zL];exact .inr hm))
    refine⟨u::us,?_,by simp[q2],λj hj=> ?_,λx hx=> ?_⟩
    . rw[zb3];simp only[Sem.run_bind,g1,q1,Result.andThen_ok,Sem.run_pure]
    . cases j with
      |zero=>exact g2
      |succ j=>exact q3 j (by simpa using hj)
    grind
  . cases h
def qbz {v:AV} (h: ∀vs,v≠ .tup vs):qi v=names v:=by
 cases v with
 |tup vs=>exact absurd rfl (h vs)
 |_=>rfl
def qcd {v:AV} (h: ∀vs,v≠ .tup vs):q4a v=noRef v:=by
 cases v with
 |tup vs=>exact absurd rfl (h vs)
 |_=>rfl
def qct {β:Beta} {v:AV} {u:Value} (h:RelA β who w v u) (ht: ∀vs,v≠ .tup vs):Rel β who w v u:=by
 cases v with
 |tup vs=>exact absurd rfl (ht vs)
 |dead=>trivial
 |_=>exact h
def qew {rs:List AV} (h: ∀v∈rs,∀vs,v≠ .tup vs):names (oneOf rs)=rs.flatMap names:=by
 have key: ∀{rs:List AV},(∀v∈rs,∀vs,v≠ .tup vs)->rs.flatMap qi=rs.flatMap names:=by
  intro rs;induction rs with
  |nil=>intro _;rfl
  |cons v r ih=>
   intro h;simp only[fC,qbz (h v mS),ih λx hx=>h x (mT hx)]
 unfold oneOf;split
 . simp
 . exact key h
def qer {rs:List AV} (h: ∀v∈rs,∀vs,v≠ .tup vs) (hr:rs.all noRef=true):noRef (oneOf rs)=true:=by
 unfold oneOf;split
 . simpa using hr
 . refine zX.2 λv hv=> ?_
   rw[qcd (h v hv)];grind
def qdl {fn:Func} {tmps:Array Value} {us:List Value} (h:(fn.results.toList.mapM (q8p tmps)).run P w= .ok us w):
 (results fn tmps).run P w= .ok (if h:us.toArray.size=1 then us.toArray[0]else .tuple us.toArray) w:=by
 have e:results fn tmps=(do
  let vs<-fn.results.mapM (q8p tmps)
  pure (if h:vs.size=1 then vs[0]else .tuple vs):Sem Value):=by
  unfold results;congr 1
 rw[e,Array.mapM_eq_mapM_toList];simp[h]
end
section
variable {P:Program} {T:TT} {β:Beta} {who:Who} {U:Slots} {a:Act} {w:World} {ns:List Nat}
def q6v {U:Slots}: ∀{args:List AV} {k:Nat},(Yq U k args).length=args.length/\ ∀i (h:i<args.length),((Yq U k args).getD i .dead= .dead)\/(qc9 args[i]=true/\(Yq U k args).getD i .dead=U.get (k+i))
 |[],k=>⟨rfl,λi h=>absurd h (zW _)⟩
 |v::r,k=>by
  obtain⟨g1,g2⟩:=q6v (U:=U) (args:=r) (k:=k+1);refine⟨by simp[Yq,g1],λi hi=> ?_⟩
  cases i with
  |zero=>
   cases hv:qc9 v with
   |true=>exact .inr ⟨hv,by simp[Yq,hv]⟩
   |false=>exact .inl (by simp[Yq,hv])
  |succ i=>
   have:=g2 i (by simpa using hi)
   rw[show k+1+i=k+(i+1) by omega]at this
   exact this
def q5w {pins:List Nat}: ∀{args:List AV} {k:Nat},pinned pins k args=true-> ∀i (h:i<args.length),qc9 args[i]=true->k+i∈pins
 |v::r,k,h,i,hi,hb=>by
  simp only[pinned,zF]at h;cases i with
  |zero=>
   grind
  |succ i=>
   have:=q5w h.2 i (by simpa using hi) hb
   grind
def whoN (who:Who) (ns:List Nat):Who:=λb=>match who b with
 |none=>none
 |some n=>if n∈ns then some (idxIn ns n)else some FN
def betaN (β:Beta) (ns:List Nat):Beta:=λk=>if k=98 then β 98 else β (ns.getD k 0)
def renN {im:Bool} (hl:ns.length<=16):RenOK β who w (betaN β ns) (whoN who ns) (idxIn ns) ns im:=
 ⟨λn hn=>by have:=X8 hn;simp only[betaN,Jl hn];rw[iN' O],λn hn b hb=>by simp[whoN,hb,hn],λ_ b hb _=>by simp[whoN,hb]⟩
def q4i (hT:TTok P T) {ρT:Type} {H:Hints} {fn:Func} {args:List AV} {Kf:AV->List AV->Option ρT} {ρ:ρT} {w0:World} {who0:Who} {cargs:Array Value} {P0:Program} {hgl:GlobOK P0 who0 w0} {fr:Value}
 (h:q3i T H fn args Kf U=some ρ) (hsz:cargs.size=args.length) (hN:args.length<=fn.ntmps) (hpin:pinned H.pins 0 args=true)
 (S:Sim ⟨P0,w0,who0,H.pins.map λi=>(i,(cargs++Array.replicate (fn.ntmps-cargs.size) undef).getD i undef),fn.ntmps,hgl,fr⟩ D99 β who U [] a w):
 ∃res outs v,Kf res outs=some ρ/\(results fn a.tmps).run P w= .ok v w/\q4r who0 w0 cargs res outs fr (.returned v) w:=by
 unfold q3i at h;split at h
 . cases h
 rename_i rs hrs;simp only at h;split at h
 case isFalse=>cases h
 rename_i hc;obtain⟨c1,c2,c3,c4,c5,c6⟩:=hc;generalize hns:rs.flatMap names++(Yq U 0 args).flatMap names=ns at*;have hnd:=qcx c2;have hFN:FN∉ns:=λh=>by rw[show ns.contains 99=true from zB1.2 h]at c3;cases c3
 obtain⟨us,q1,q2,q3,q4⟩:=qg1 (ns:=ns) hT S hrs O (λm hm=>by grind) (λm hm=>q5l c4 m hm)
 have hone:=qew q4;have hnr:=qer q4 c5
 have hres:Rel (beta1 β) (who1 who ns) w (oneOf rs) (if h:us.toArray.size=1 then us.toArray[0]else .tuple us.toArray):=by
  unfold oneOf;split
  . rename_i v;have hl:us.length=1:=by simpa using q2
    rw[dif_pos (by simpa using hl)]
    have:=qct (q3 0 (by simp)) (q4 _ (by simp))
    grind
  . rename_i hne
    have hl:us.length≠1:=λh=>by
     rw[q2]at h;obtain⟨v,hv⟩:=List.length_eq_one_iff.1 h;exact hne v hv
    rw[dif_neg (by simpa using hl)]
    exact⟨us.toArray,rfl,by simpa using q2,λj hj=>by simp_all⟩
 obtain⟨o1,o2⟩:=q6v (U:=U) (args:=args) (k:=0);have im1': ∀b,who b=none->b<w.heap.size->who1 who ns b=none/\w.heap[b]? =w.heap[b]? :=im1
 have hout: ∀i (h:i<(Yq U 0 args).length),Rel (beta1 β) (who1 who ns) w (Yq U 0 args)[i] (cargs.getD i undef):=λi hi=>by
  have hi':i<args.length:=by rw[<-o1];exact hi
  have hnsI: ∀m∈names (Yq U 0 args)[i],m∈ns:=λm hm=>by grind
  have hnrI:okOut (Yq U 0 args)[i]=true:=zX.1 c6 _ (zI hi);have e:(Yq U 0 args).getD i .dead=(Yq U 0 args)[i]:=by simp[List.getD,hi]
  rcases o2 i hi' with h|⟨hb,h⟩
  . rw[e]at h;rw[h];trivial
  . rw[e,zK]at h;have hp:=q5w hpin i hi' hb;rw[zK]at hp;have hpv:=S.pin (i,(cargs++Array.replicate (fn.ntmps-cargs.size) undef).getD i undef) (zM.2 ⟨i,hp,rfl⟩)
    have e2:(cargs++Array.replicate (fn.ntmps-cargs.size) undef).getD i undef=cargs.getD i undef:=by
     simp only[Array.getD_eq_getD_getElem?];rw[Array.getElem?_append_left O]
    simp only[e2]at hpv;have hr:=S.rel i;rw[hpv]at hr;rw[h]at hnsI hnrI⊢;refine hr.keep ⟨λn hn=> ?_,λn hn b hb=>⟨q0j hb (hnsI n hn),rfl⟩,im1',zD _⟩
    rw[q18 (S.occ i n hn)]
 refine⟨_,_,_,h,qdl q1,_,betaN (beta1 β) ns,whoN (who1 who ns) ns,rfl,(by simp only[betaN,iP];rw[q18 O];exact S.frm),?_,?_,?_,?_,?_,?_,?_,?_,?_,?_,S.fr4⟩
 . exact Rel.ren hnr ((renN (im:=true) c1).mono (λn hn=>by grind) (λ_=>rfl)) hres
 . intro i hi;have hi':i<(Yq U 0 args).length:=by simpa using hi
   rw[zA1];exact Rel.renO (zX.1 c6 _ (zI hi')) ((renN (im:=true) c1).mono (λn hn=>by grind) (λ_=>rfl)) (by simp only[betaN,iP]) (hout i hi')
 . have e:names (ren (idxIn ns) (oneOf rs))++((Yq U 0 args).map (ren (idxIn ns))).flatMap names=ns.map (idxIn ns):=by
    have: ∀l:List AV,(l.map (ren (idxIn ns))).flatMap names=(l.flatMap names).map (idxIn ns):=by
     intro l;induction l with
     |nil=>rfl
     |cons x r ih=>simp[Qe,ih]
    rw[Qe,hone,this,<-List.map_append,hns]
   rw[e];exact Qy (λ_ h1 _ h2 h=>q0t h1 h2 h) hnd
 . intro n hn
   have: ∃m,m∈ns/\n=idxIn ns m:=by
    rcases zL.1 hn with h|h
    . rw[Qe,zM]at h
      grind
    . obtain⟨x,hx,hm⟩:=zC.1 h;obtain⟨y,hy,rfl⟩:=zM.1 hx;rw[Qe,zM]at hm;obtain⟨m,hm,rfl⟩:=hm
      grind
   obtain⟨m,hm,rfl⟩:=this;have:=X8 hm;omega
 . rw[Xc];exact hnr
 . refine zX.2 λx hx=> ?_
   obtain⟨y,hy,rfl⟩:=zM.1 hx;unfold okOut;rw[Xc,qmq];exact zX.1 c6 y hy
 . exact S.fr0
 . intro b n hb
   have: ∃m,who b=some m:=by
    cases hw:who b with
    |none=>simp[whoN,who1,hw]at hb
    |some m=>exact⟨m,rfl⟩
   obtain⟨m,hm⟩:=this;exact⟨S.wsz b m hm,S.fr1 b m hm⟩
 . exact S.fr2
 . intro b hb;have:=S.fr3 b hb;simp[whoN,who1,this,hFN]
def qmr (hm:P.follows .mixedOrders=true) (hT:TTok P T) {CO:qx} (hCO: ∀f as r os,CO f as r os->Xl P f as r os) {H:Hints} {f:FuncId} {fn:Func} {c:Code}
 (hf:P.funcs[f]? =some fn) (hb:fn.body=some c) (hname:(fn.name== "runtime.NumGoroutine")=false)
 {ρT:Type} {C:Nat->List AV->(AV->List AV->Option ρT)->Option ρT} {Lp:Nat->Slots->(Ex->Slots->Option ρT)->Option ρT} {ρ:ρT}
 (hC: ∀f as k,C f as k=some ρ-> ∃r os,CO f as r os/\k r os=some ρ)
 (hL: ∀E:Entry,EOf P E fn.ntmps H.pins->Yc (Xv P E Lp ρ) c 0)
 {args:List AV} {Kf:AV->List AV->Option ρT} (h:fnK C Lp T H fn args Kf=some ρ) {res:AV} {outs:List AV} (hK: ∀r os,Kf r os=some ρ->r=res/\os=outs):
 Xl P f args res outs:=by
 refine⟨⟨fn,hf,by rw[hb];rfl,hname⟩,λβ who w cargs hsz hrel hnd h99 hnr hw hgl=> ?_⟩
 unfold fnK at h;rw[hb]at h;simp only at h;split at h
 case isFalse=>cases h
 rename_i hc;refine calls_of_wp hf hb ?_;have S:=qb6 (pins:=H.pins) hsz hc.1 hrel hnd h99 hnr hw hgl;refine q2h hm hT hCO ⟨rfl,λp hp=> ?_,rfl⟩ hC c 0 _ _ _ β who _ w (hL _ ⟨rfl,λp hp=> ?_,rfl⟩) h S λe U' he β' who' a' w' S'=> ?_
 . grind
 . grind
 . have fin:q3i T H fn args Kf U'=some ρ->a'.defers=[]/\ ∃v,(results fn a'.tmps).run P w'= .ok v w'/\q4r who w cargs res outs (β 98) (.returned v) w':=λhfin=>by
    obtain⟨res',outs',v,k1,k2,k3⟩:=q4i hT hfin hsz hc.1 hc.2 S';obtain⟨rfl,rfl⟩:=hK _ _ k1;exact⟨S'.dfr,v,k2,k3⟩
   cases e with
   |normal=>exact fin he
   |ret=>exact fin he
   |exit i=>cases he
end
def eqV:Value->Value->Bool
 | .int k n,.int k' n'=>decide (k=k')&&decide (n=n')
 | .bool a,.bool b=>a==b
 | .slice none 0 0,.slice none 0 0=>true
 | .map none,.map none=>true
 |_,_=>false
def qmh {u v:Value} (h:eqV u v=true):u=v:=by
 unfold eqV at h
 grind
def eqVs:List Value->List Value->Bool
 |[],[]=>true
 |u::us,v::vs=>eqV u v&&eqVs us vs
 |_,_=>false
def q2p: ∀{us vs:List Value},eqVs us vs=true->us=vs
 |[],[],_=>rfl
 |[],_::_,h=>by cases h
 |_::_,[],h=>by cases h
 |u::us,v::vs,h=>by
  simp only[eqVs,zF]at h;rw[qmh h.1,q2p h.2]
def qjr (P:Program) (e:Nat) (t:Ty):Bool:=match P.info? e with
 |some i=>decide (i.size=t.size)&&decide (i.bytes<=4096)&& !decide (i.bytes=0)&&(match i.zero with
  |some z=>eqVs z.cells.toList (Qb t)
  |none=>false)
 |none=>false
def qet {P:Program} {e:Nat} {t:Ty} (h:qjr P e t=true):EOK P e t:=by
 unfold qjr at h;split at h
 . rename_i i hi;simp only[zF,Bool.not_eq_true',decide_eq_true_eq,decide_eq_false_iff_not]at h;obtain⟨⟨⟨h1,h2⟩,h3⟩,h4⟩:=h;split at h4
   . rename_i z hz;exact⟨i,z,hi,h1,h2,h3,hz,q2p h4⟩
   . cases h4
 . cases h
def q9u (P:Program) (t:Nat):Bool:=match P.underlying t with
 |some (.struct _)=>false
 |some (.array _ _)=>false
 |some _=>true
 |none=>false
def qa9 {P:Program} {t:Nat} (h:q9u P t=true):NoAgg P t:=by
 unfold q9u at h;split at h
 . cases h
 . cases h
 . rename_i d h1 h2 hd;refine⟨d,hd,?_⟩;cases d<;>simp_all
 . cases h
def q3e (P:Program):List Field->List (Nat×Nat)->Bool
 |[],[]=>true
 |f::fs,x::xs=>decide (f.offset=x.1)&&(match P.info? f.type with
  |some i=>decide (i.size=x.2)
  |none=>false)&&q3e P fs xs
 |_,_=>false
def q1c {P:Program}: ∀{fs:List Field} {xs:List (Nat×Nat)},q3e P fs xs=true->fs.length=xs.length/\
 ∀j (h:j<xs.length),∃f,fs[j]? =some f/\f.offset=xs[j].1/\ ∃i,P.info? f.type=some i/\i.size=xs[j].2/\(xs[j].2=1->True)
 |[],[],_=>⟨rfl,λj h=>absurd h (zW _)⟩
 |[],_::_,h=>by cases h
 |_::_,[],h=>by cases h
 |f::fs,x::xs,h=>by
  simp only[q3e,zF,decide_eq_true_eq]at h;obtain⟨⟨h1,h2⟩,h3⟩:=h;obtain⟨g1,g2⟩:=q1c h3;refine⟨by simp[g1],λj hj=> ?_⟩
  cases j with
  |zero=>
   split at h2
   . rename_i i hi;exact⟨f,rfl,h1,i,hi,by simpa using h2,λ_=>trivial⟩
   . cases h2
  |succ j=>grind
def Yj (P:Program) (t:Nat):TD->Bool
 | .int k=>match P.underlying t with
   |some (.int k')=>decide (k=k')
   |_=>false
 | .bool=>match P.underlying t with
   |some .bool=>true
   |_=>false
 | .slice e ty=>(match P.underlying t with
   |some (.slice e')=>decide (e=e')
   |_=>false)&&qjr P e ty
 | .mslice e _=>(match P.underlying t with
   |some (.slice e')=>decide (e=e')
   |_=>false)&&(match P.info? e with
    |some i=>decide (i.size=1)&&decide (i.bytes<=4096)&& !decide (i.bytes=0)&&(match i.zero with
     |some (.map none)=>true
     |_=>false)
    |none=>false)
 | .map e ty=>match P.underlying t with
   |some (.map k e')=>decide (e=e')&&(match P.underlying k with
    |some (.int .i64)=>true
    |_=>false)&&(match P.info? e with
    |some i=>(match isSlT ty,i.zero with
     |true,some (.slice none 0 0)=>true
     |false,some (.agg arr)=>eqVs arr.toList (Qb ty)
     |_,_=>false)
    |none=>false)
   |_=>false
 | .struct fs=>match P.underlying t with
   |some (.struct fields)=>q3e P fields.toList fs
   |_=>false
 | .array n _=>match P.underlying t with
   |some (.array m _)=>decide (n=m)
   |_=>false
 | .ptr e=>match P.underlying t with
   |some (.pointer e')=>decide (e=e')
   |_=>false
 | .string=>match P.underlying t with
   |some .string=>true
   |_=>false
 | .tab g k xs=>(match P.underlying t with
   |some (.array n e)=>decide (n=xs.length)&&(match P.info? e with
    |some i=>decide (i.size=1)
    |none=>false)
   |_=>false)&&decide ((g,k,xs)∈qg9 P)
 | .other=>match P.underlying t with
   |some (.struct _)=>false
   |some (.array _ _)=>false
   |some _=>true
   |none=>false
def qco {P:Program} {t:Nat} {d:TD} (h:Yj P t d=true):q06 P t d:=by
 cases d with
 |int k=>simp only[Yj]at h;split at h<;>simp_all[q06]
 |bool=>simp only[Yj]at h;split at h<;>simp_all[q06]
 |slice e ty=>
  simp only[Yj,zF]at h;obtain⟨h1,h2⟩:=h;refine⟨?_,qet h2⟩;split at h1<;>simp_all
 |mslice e ty=>
  simp only[Yj,zF]at h;obtain⟨h1,h2⟩:=h;refine⟨by split at h1<;>simp_all,?_⟩
  split at h2
  . rename_i i hi;simp only[zF,Bool.not_eq_true',decide_eq_true_eq,decide_eq_false_iff_not]at h2;obtain⟨⟨⟨g1,g2⟩,g3⟩,g4⟩:=h2;split at g4
    . rename_i hz;exact⟨i,hi,g1,g2,g3,hz⟩
    . cases g4
  . cases h2
 |map e ty=>
  simp only[Yj]at h;split at h
  . rename_i k e' hu;simp only[zF,decide_eq_true_eq]at h;obtain⟨⟨rfl,g2⟩,g3⟩:=h;split at g2
    . rename_i hk;split at g3
      . rename_i i hi;split at g3
        . rename_i hs hz;cases ty with
          |sl b t'=>exact⟨k,i,#[.slice none 0 0],hu,hk,hi,hz,rfl⟩
          |_=>cases hs
        . rename_i arr hs hz;exact⟨k,i,arr,hu,hk,hi,by unfold mval;rw[hs];exact hz,q2p g3⟩
        . cases g3
      . cases g3
    . cases g2
  . cases h
 |struct fs=>
  simp only[Yj]at h;split at h
  . rename_i fields hu;obtain⟨g1,g2⟩:=q1c h;exact⟨fields,hu,by simpa using g1,λj hj=>by grind⟩
  . cases h
 |array n x=>
  simp only[Yj]at h;split at h
  . rename_i m e hu;exact⟨e,by rw[hu];simp_all⟩
  . cases h
 |ptr e=>simp only[Yj]at h;split at h<;>simp_all[q06]
 |string=>simp only[Yj]at h;split at h<;>simp_all[q06]
 |tab g k xs=>
  simp only[Yj,zF,decide_eq_true_eq]at h;obtain⟨h1,h2⟩:=h;refine⟨?_,h2⟩
  grind
 |other=>
  simp only[Yj]at h;split at h
  . cases h
  . cases h
  . rename_i d h1 h2 hu;refine⟨d,hu,?_⟩
    grind
  . cases h
def eqFs (P:Program):Nat->List Field->Bool
 |_,[]=>true
 |j,f::fs=> !(f.name== "_")&&decide (f.offset=j)&&(match P.underlying f.type with
  |some (.int _)=>true
  |_=>false)&&eqFs P (j+1) fs
def qdb {P:Program}: ∀{fs:List Field} {k:Nat},eqFs P k fs=true→ ∀j (h:j<fs.length),fs[j].name≠ "_" ∧fs[j].offset=k+j∧ ∃i,P.underlying fs[j].type=some (.int i)
 |[],_,_,j,h=>absurd h (zW _)
 |f::fs,k,hc,j,h=>by
  simp only[eqFs,zF,Bool.not_eq_true',decide_eq_true_eq]at hc;obtain⟨⟨⟨h1,h2⟩,h3⟩,h4⟩:=hc;cases j with
  |zero=>
   grind
  |succ j=>
   have:=qdb h4 j (by simpa using h)
   grind
def eqChk (P:Program) (t n:Nat):Bool:=(match P.underlying t with
 |some (.struct fields)=>decide (fields.size=n)&&eqFs P 0 fields.toList
 |_=>false)&& !P.stoodInHeld t&& !P.eqGuardType P.depth t
def qhw {P:Program} {t n:Nat} (h:eqChk P t n=true):EqOK P t n:=by
 simp only[eqChk,zF,Bool.not_eq_true']at h;obtain⟨⟨h1,h2⟩,h3⟩:=h;split at h1
 . rename_i fields hu;simp only[zF,decide_eq_true_eq]at h1;exact⟨fields,hu,h2,h3,h1.1,λj h=>by simpa using qdb h1.2 j h⟩
 . cases h1
def qnn:Value->Bool
 | .agg _=>true
 |_=>false
def nagL (P:Program) (zs:List ZC):List Field->List (Nat×Nat)->Bool
 |f::fs,x::xs=>(!decide (x.2=1)|| !notG zs x.1||q9u P f.type)&&nagL P zs fs xs
 |_,_=>true
def qba {P:Program} {zs:List ZC}: ∀{fs:List Field} {xs:List (Nat×Nat)},nagL P zs fs xs=true-> ∀j (h:j<xs.length) f,fs[j]? =some f->xs[j].2=1->notG zs xs[j].1=true->NoAgg P f.type
 |[],_,_,j,h,f,hf,_,_=>by simp at hf
 |_::_,[],_,j,h,_,_,_,_=>absurd h (zW _)
 |g::fs,x::xs,hc,j,h,f,hf,h1,h2=>by
  simp only[nagL,zF]at hc;cases j with
  |zero=>
   simp only[List.getElem?_cons_zero,zH]at hf;subst hf;simp only[zv1]at h1 h2;refine qa9 ?_;have:=hc.1;simp only[h1,h2]at this;simpa using this
  |succ j=>exact qba hc.2 j (by simpa using h) f (by simpa using hf) (by simpa using h1) (by simpa using h2)
def qod (P:Program) (t:Nat) (ti:TI):Bool:=match ti.desc with
 | .struct fs=>(match P.underlying t with
   |some (.struct fields)=>nagL P ti.cells fields.toList fs
   |_=>true)
 |_=>true
def tiChk (P:Program) (t:Nat) (ti:TI):Bool:=qod P t ti&&(!eqTI ti||eqChk P t ti.cells.length)&&Yj P t ti.desc&&(match P.info? t with
 |some i=>decide (i.size=ti.cells.length)&&(match ti.cells.mapM zcVal with
  |none=>true
  |some vs=>(match i.zero with
   |some z=>eqVs z.cells.toList vs&&(qnn z==Q5 ti.desc)
   |none=>false))
 |none=>false)
def qhi {P:Program} {t:Nat} {ti:TI} (h:tiChk P t ti=true):TIok P t ti:=by
 simp only[tiChk,zF]at h;obtain⟨⟨⟨hn,h0⟩,h1⟩,h2⟩:=h;refine⟨?_,qco h1,λhe=>by rw[he]at h0;exact qhw (by simpa using h0),λfs fields e1 e2 j h f hf=>qba (fs:=fields.toList) (by unfold qod at hn;rw[e1,e2]at hn;exact hn) j h f (by simpa using hf)⟩
 split at h2
 . rename_i i hi;simp only[zF,decide_eq_true_eq]at h2;refine⟨i,hi,h2.1,λvs hvs=> ?_⟩
   rw[hvs]at h2;obtain⟨_,h3⟩:=h2;simp only at h3;split at h3
   . rename_i z hz;simp only[zF,beq_iff_eq]at h3;refine⟨z,hz,q2p h3.1,?_⟩;rw[<-h3.2];cases z<;>simp[qnn]
   . cases h3
 . cases h2
def q0p (P:Program):Nat->TT->Bool
 |_,[]=>true
 |k,none::r=>q0p P (k+1) r
 |k,some ti::r=>tiChk P k ti&&q0p P (k+1) r
def J3 {P:Program}: ∀{T:TT} {k:Nat},q0p P k T=true-> ∀j ti,T[j]? =some (some ti)->TIok P (k+j) ti
 |[],k,_,j,ti,h=>by simp at h
 |none::r,k,hc,j,ti,h=>by
  cases j with
  |zero=>simp at h
  |succ j=>have:=J3 (T:=r) (k:=k+1) hc j ti (by simpa using h);grind
 |some x::r,k,hc,j,ti,h=>by
  simp only[q0p,zF]at hc;cases j with
  |zero=>simp at h;subst h;exact qhi hc.1
  |succ j=>have:=J3 (T:=r) (k:=k+1) hc.2 j ti (by simpa using h);grind
def ttChk (P:Program) (T:TT):Bool:=q0p P 0 T
def qia {P:Program} {T:TT} (h:ttChk P T=true):TTok P T:=λt ti ht=>by
 have:=J3 h t ti (by
  unfold TT.at at ht
  grind)
 simpa using this
inductive ShC where
 |dead
 |bool
 |bconst (b:Bool)
 |nilp
 |int (k:IntKind)
 |lit
 |fn (f:Nat)
 |imm (t:Ty)
 |nm (n:Nat) (t:Ty)
 |nl (t:Ty)
 |ref (s n sz:Nat)
 |refw (s n sz:Nat)
 |ptr (s n sz j:Nat)
 |iptr (g:Option Nat) (t:Ty) (j:Nat)
 |dp (n:Nat) (t:Ty)
 |drw (s n:Nat)
 |drr (s n:Nat)
 |wn (n:Nat) (t:Ty)
 |dq (n:Nat) (t:Ty)
 |fd (n:Nat) (t:Ty)
 |mm (n:Nat) (t:Ty)
 |mo (n:Nat) (t:Ty)
@[reducible] def ShC.Val:ShC->Type
  | .dead=>Unit
  | .bool=>Bool
  | .bconst _=>Unit
  | .nilp=>Unit
  | .int _=>Int
  | .lit=>Value
  | .fn _=>Unit
  | .imm t=>List (Den t)
  | .nm _ t=>List (Den t)
  | .nl _=>Unit
  | .ref _ _ _=>Unit
  | .refw _ _ _=>Nat×Nat
  | .ptr _ _ _ _=>Nat
  | .iptr _ t _=>List (Den t)×Nat
  | .dp _ t=>List (List (Den t))
  | .drw _ _=>Unit
  | .drr _ _=>Nat
  | .wn _ t=>List (Den t)
  | .dq _ t=>List (Den t)
  | .fd _ t=>List (List (Den t))
  | .mm _ t=>List (Option (List (Int×Den t)))
  | .mo _ t=>List (Int×Den t)
def ShC.enc:(s:ShC)->s.Val->AV
 | .dead,_=> .dead
 | .bool,b=> .bool b
 | .bconst b,_=> .bool b
 | .nilp,_=> .lit (.pointer none)
 | .int k,n=> .int k n
 | .lit,v=> .lit v
 | .fn f,_=> .lit (.func (.func f) #[] #[])
 | .imm t,xs=> .sl .imm t xs
 | .nm n t,xs=> .sl (.nm n) t xs
 | .nl t,_=> .sl .nl t []
 | .ref s n sz,_=> .ref s n sz none
 | .refw s n sz,w=> .ref s n sz (some w)
 | .ptr s n sz j,i=> .ptr s n sz i j
 | .iptr g t j,x=> .iptr g t x.1 x.2 j
 | .dp n t,xs=> .dp n t xs none
 | .drw s n,_=> .dr s n .whole
 | .drr s n,i=> .dr s n (.row i)
 | .wn n t,xs=> .wn n t xs
 | .dq n t,xs=> .dq n t xs none
 | .fd n t,xs=> .fd n t xs none
 | .mm n t,xs=> .mm n t xs false
 | .mo n t,ys=> .mm n t [some ys] true
def ShC.dec:(s:ShC)->AV->Option s.Val
 | .dead,.dead=>some ()
 | .bool,.bool b=>some b
 | .bconst c,.bool b=>if b=c then some ()else none
 | .nilp,.lit (.pointer none)=>some ()
 | .int k,.int k' n=>if k'=k then some n else none
 | .fn f,.lit (.func (.func g) as bs)=>if g=f/\as.size=0/\bs.size=0 then some ()else none
 | .lit,.lit v=>some v
 | .imm t,.sl .imm t' xs=>if h:t'=t then some (h▸xs)else none
 | .nm n t,.sl (.nm m) t' xs=>if m=n then(if h:t'=t then some (h▸xs)else none)else none
 | .nl t,.sl .nl t' []=>if t'=t then some ()else none
 | .ref s n sz,.ref s' n' sz' none=>if s'=s/\n'=n/\sz'=sz then some ()else none
 | .refw s n sz,.ref s' n' sz' (some w)=>if s'=s/\n'=n/\sz'=sz then some w else none
 | .ptr s n sz j,.ptr s' n' sz' i j'=>if s'=s/\n'=n/\sz'=sz/\j'=j then some i else none
 | .iptr g t j,.iptr g' t' xs i j'=>if h:t'=t then(if g'=g/\j'=j then some (h▸xs,i)else none)else none
 | .dp n t,.dp m t' xs none=>if m=n then(if h:t'=t then some (h▸xs)else none)else none
 | .drw s n,.dr s' n' .whole=>if s'=s/\n'=n then some ()else none
 | .drr s n,.dr s' n' (.row i)=>if s'=s/\n'=n then some i else none
 | .wn n t,.wn m t' xs=>if m=n then(if h:t'=t then some (h▸xs)else none)else none
 | .dq n t,.dq m t' xs none=>if m=n then(if h:t'=t then some (h▸xs)else none)else none
 | .fd n t,.fd m t' xs none=>if m=n then(if h:t'=t then some (h▸xs)else none)else none
 | .mm n t,.mm m t' xs false=>if m=n then(if h:t'=t then some (h▸xs)else none)else none
 | .mo n t,.mm m t' [some ys] true=>if m=n then(if h:t'=t then some (h▸ys)else none)else none
 |_,_=>none
def ShC.dec_spec {s:ShC} {v:AV} {x:s.Val} (h:s.dec v=some x):v=s.enc x:=by
 unfold ShC.dec at h;split at h
 . rfl
 . cases h;rfl
 . split at h
   . rename_i e;subst e;rfl
   . cases h
 . rfl
 . split at h
   . rename_i e;cases h;subst e;rfl
   . cases h
 . split at h
   . rename_i e;obtain⟨rfl,e1,e2⟩:=e;rw[zH2 e1,zH2 e2];rfl
   . cases h
 . cases h;rfl
 . split at h
   . rename_i e;subst e;cases h;rfl
   . cases h
 . split at h
   . rename_i e;subst e;split at h
     . rename_i e;subst e;cases h;rfl
     . cases h
   . cases h
 . split at h
   . rename_i e;subst e;rfl
   . cases h
 . split at h
   . rename_i e;obtain⟨rfl,rfl,rfl⟩:=e;rfl
   . cases h
 . split at h
   . rename_i e;obtain⟨rfl,rfl,rfl⟩:=e;cases h;rfl
   . cases h
 . split at h
   . rename_i e;obtain⟨rfl,rfl,rfl,rfl⟩:=e;cases h;rfl
   . cases h
 . split at h
   . rename_i e;subst e;split at h
     . rename_i e;obtain⟨rfl,rfl⟩:=e;cases h;rfl
     . cases h
   . cases h
 . split at h
   . rename_i e;subst e;split at h
     . rename_i e;subst e;cases h;rfl
     . cases h
   . cases h
 . split at h
   . rename_i e;obtain⟨rfl,rfl⟩:=e;rfl
   . cases h
 . split at h
   . rename_i e;obtain⟨rfl,rfl⟩:=e;cases h;rfl
   . cases h
 . split at h
   . rename_i e;subst e;split at h
     . rename_i e;subst e;cases h;rfl
     . cases h
   . cases h
 . split at h
   . rename_i e;subst e;split at h
     . rename_i e;subst e;cases h;rfl
     . cases h
   . cases h
 . split at h
   . rename_i e;subst e;split at h
     . rename_i e;subst e;cases h;rfl
     . cases h
   . cases h
 . split at h
   . rename_i e;subst e;split at h
     . rename_i e;subst e;cases h;rfl
     . cases h
   . cases h
 . split at h
   . rename_i e;subst e;split at h
     . rename_i e;subst e;cases h;rfl
     . cases h
   . cases h
 . cases h
section
variable {S A:Type} (V:S->Type) (e:(s:S)->V s->A) (d:(s:S)->A->Option (V s))
@[reducible] def valL:List S->Type
  |[]=>Unit
  |s::r=>V s×valL r
def encL:(l:List S)->valL V l->List A
 |[],_=>[]
 |s::r,x=>e s x.1::encL r x.2
def decL:(l:List S)->List A->Option (valL V l)
 |[],[]=>some ()
 |s::r,v::vs=>match d s v,decL r vs with
  |some x,some xs=>some (x,xs)
  |_,_=>none
 |_,_=>none
def Yv (h: ∀s v x,d s v=some x->v=e s x): ∀{l:List S} {vs:List A} {x:valL V l},decL V d l vs=some x->vs=encL V e l x
 |[],[],x,_=>rfl
 |[],_::_,x,h'=>by cases h'
 |_::_,[],x,h'=>by cases h'
 |s::r,v::vs,x,h'=>by
  simp only[decL]at h';split at h'
  . rename_i y ys e1 e2;cases h';show v::vs=e s y::encL V e r ys;rw[<-h s v y e1,<-Yv h e2]
  . cases h'
end
inductive ShA where
 |c (s:ShC)
 |bx (n:Nat) (cells:List ShC)
 |agg (cells:List ShC)
@[reducible] def ShA.Val:ShA->Type
  | .c s=>s.Val
  | .bx _ cells=>valL ShC.Val cells
  | .agg cells=>valL ShC.Val cells
def ShA.enc:(s:ShA)->s.Val->AV
 | .c s,x=>s.enc x
 | .bx n cells,x=> .bx (.nm n) (encL ShC.Val ShC.enc cells x)
 | .agg cells,x=> .agg (encL ShC.Val ShC.enc cells x)
def ShA.dec:(s:ShA)->AV->Option s.Val
 | .c s,v=>s.dec v
 | .bx n cells,.bx (.nm m) vs=>if m=n then decL ShC.Val ShC.dec cells vs else none
 | .agg cells,.agg vs=>decL ShC.Val ShC.dec cells vs
 |_,_=>none
def ShA.dec_spec {s:ShA} {v:AV} {x:s.Val} (h:s.dec v=some x):v=s.enc x:=by
 unfold ShA.dec at h;split at h
 . exact ShC.dec_spec h
 . split at h
   . rename_i e;subst e;show AV.bx _ _=AV.bx _ _;rw[Yv ShC.Val ShC.enc ShC.dec (λ_ _ _=>ShC.dec_spec) h]
   . cases h
 . show AV.agg _=AV.agg _
   rw[Yv ShC.Val ShC.enc ShC.dec (λ_ _ _=>ShC.dec_spec) h]
 . cases h
inductive Sh where
 |a (s:ShA)
 |tup (l:List ShA)
 |altA (x y:ShA)
 |altT (x y:List ShA)
@[reducible] def Sh.Val:Sh->Type
  | .a s=>s.Val
  | .tup l=>valL ShA.Val l
  | .altA x y=>x.Val⊕y.Val
  | .altT x y=>valL ShA.Val x⊕valL ShA.Val y
def Sh.enc:(s:Sh)->s.Val->AV
 | .a s,x=>s.enc x
 | .tup l,x=> .tup (encL ShA.Val ShA.enc l x)
 | .altA x _,.inl u=>x.enc u
 | .altA _ y,.inr u=>y.enc u
 | .altT x _,.inl u=> .tup (encL ShA.Val ShA.enc x u)
 | .altT _ y,.inr u=> .tup (encL ShA.Val ShA.enc y u)
def Sh.elim {R:Type}:(s:Sh)->s.Val->(AV->R)->R
 | .a s,x,k=>k (s.enc x)
 | .tup l,x,k=>k (.tup (encL ShA.Val ShA.enc l x))
 | .altA x _,.inl u,k=>k (x.enc u)
 | .altA _ y,.inr u,k=>k (y.enc u)
 | .altT x _,.inl u,k=>k (.tup (encL ShA.Val ShA.enc x u))
 | .altT _ y,.inr u,k=>k (.tup (encL ShA.Val ShA.enc y u))
def Sh.elim_eq {R:Type} (s:Sh) (x:s.Val) (k:AV->R):s.elim x k=k (s.enc x):=by
 cases s with
 |a s=>rfl
 |tup l=>rfl
 |altA x' y'=>cases x<;>rfl
 |altT x' y'=>cases x<;>rfl
def Sh.dec:(s:Sh)->AV->Option s.Val
 | .a s,v=>s.dec v
 | .tup l,.tup vs=>decL ShA.Val ShA.dec l vs
 | .altA x y,v=>match x.dec v with
   |some u=>some (.inl u)
   |none=>match y.dec v with
    |some u=>some (.inr u)
    |none=>none
 | .altT x y,.tup vs=>match decL ShA.Val ShA.dec x vs with
   |some u=>some (.inl u)
   |none=>match decL ShA.Val ShA.dec y vs with
    |some u=>some (.inr u)
    |none=>none
 |_,_=>none
def Sh.dec_spec {s:Sh} {v:AV} {x:s.Val} (h:s.dec v=some x):v=s.enc x:=by
 unfold Sh.dec at h;split at h
 . exact ShA.dec_spec h
 . show AV.tup _=AV.tup _
   rw[Yv ShA.Val ShA.enc ShA.dec (λ_ _ _=>ShA.dec_spec) h]
 . split at h
   . rename_i u e;cases h;exact ShA.dec_spec e
   . split at h
     . rename_i u e;cases h;exact ShA.dec_spec e
     . cases h
 . split at h
   . rename_i u e;cases h;show AV.tup _=AV.tup _;rw[Yv ShA.Val ShA.enc ShA.dec (λ_ _ _=>ShA.dec_spec) e]
   . split at h
     . rename_i u e;cases h;show AV.tup _=AV.tup _;rw[Yv ShA.Val ShA.enc ShA.dec (λ_ _ _=>ShA.dec_spec) e]
     . cases h
 . cases h
@[reducible] def slVal (s:Nat×Sh):Type:=s.2.Val
def slEnc (s:Nat×Sh) (x:slVal s):Nat×AV:=(s.1,s.2.enc x)
def slDec (s:Nat×Sh) (v:Nat×AV):Option (slVal s):=if v.1=s.1 then s.2.dec v.2 else none
def qin (s:Nat×Sh) (v:Nat×AV) (x:slVal s) (h:slDec s v=some x):v=slEnc s x:=by
 obtain⟨k,u⟩:=v;unfold slDec at h;split at h
 . rename_i e;simp only at e h;subst e;rw[Sh.dec_spec h];rfl
 . cases h
abbrev SS:=List (Nat×Sh)
@[reducible] def SS.Val (l:SS):Type:=valL slVal l
def SS.enc (l:SS) (x:l.Val):Slots:=encL slVal slEnc l x
def SS.dec (l:SS) (U:Slots):Option l.Val:=decL slVal slDec l U
def SS.dec_spec {l:SS} {U:Slots} {x:l.Val} (h:l.dec U=some x):U=l.enc x:=Yv slVal slEnc slDec qin h
@[reducible] def outVal:List (Ex×SS)->Type
  |[]=>Empty
  |s::r=>s.2.Val⊕outVal r
def encO:(l:List (Ex×SS))->outVal l->Ex×Slots
 |[],x=>x.elim
 |s::_,.inl x=>(s.1,s.2.enc x)
 |_::r,.inr y=>encO r y
def decO:(l:List (Ex×SS))->Ex->Slots->Option (outVal l)
 |[],_,_=>none
 |s::r,e,U=>if s.1=e then(match s.2.dec U with
   |some x=>some (.inl x)
   |none=>(decO r e U).map .inr)
  else(decO r e U).map .inr
def elimO {R:Type} (K:Ex->Slots->Option R):(l:List (Ex×SS))->outVal l->Option R
 |[]=>λx=>x.elim
 |s::r=>λx=>match x with
  | .inl y=>K s.1 (s.2.enc y)
  | .inr y=>elimO K r y
def q5x: ∀{l:List (Ex×SS)} {e:Ex} {U:Slots} {x:outVal l},decO l e U=some x->encO l x=(e,U)
 |[],e,U,x,h=>by cases h
 |s::r,e,U,x,h=>by
  have rest:(decO r e U).map Sum.inr=some x->encO (s::r) x=(e,U):=λh=>by
   obtain⟨y,hy,rfl⟩:=zO2.1 h;exact q5x (l:=r) hy
  simp only[decO]at h;split at h
  . rename_i he;split at h
    . rename_i y hy;cases h;show(s.1,s.2.enc y)=(e,U);rw[he,<-SS.dec_spec hy]
    . exact rest h
  . exact rest h
def qbq {R:Type} {K:Ex->Slots->Option R}: ∀{l:List (Ex×SS)} {x:outVal l},elimO K l x=K (encO l x).1 (encO l x).2
 |[],x=>x.elim
 |_::_,.inl _=>rfl
 |_::r,.inr y=>qbq (l:=r) (x:=y)
structure LoopT where
 blk:Nat
 ins:SS
 outs:List (Ex×SS)
 run:ins.Val->Option (outVal outs)
def mkLp (R:Type):List LoopT->Nat->Slots->(Ex->Slots->Option R)->Option R
 |[],_,_,_=>none
 |l::r,blk,U,K=>if l.blk=blk then(match l.ins.dec U with
   |some x=>(l.run x).bind (elimO K l.outs)
   |none=>mkLp R r blk U K)
  else mkLp R r blk U K
def qo5 (P:Program) (E:Entry) (c:Code) (l:LoopT):Prop:= ∀x o,l.run x=some o-> ∀Q β who a w,Sim E D99 β who (l.ins.enc x) [] a w->
 (∀β who a w,Sim E D99 β who (encO l.outs o).2 [] a w->Q (ex (encO l.outs o).1) a w)->c.wp P Q a w
@[reducible] def LoopOK (P:Program) (E:Entry) (body:Code) (l:LoopT):Prop:=qo5 P E (Code.loop body) l
def q7g {P:Program} {E:Entry} {R:Type} {ρ:R} {blk:Nat} {c:Code}: ∀{L:List LoopT},(∀l∈L,l.blk=blk->qo5 P E c l)->Xv P E (mkLp R L) ρ blk c
 |[],_=>λU K Q β who a w h=>by cases h
 |l::r,hL=>λU K Q β who a w h S hK=>by
  have ih:=q7g (R:=R) (ρ:=ρ) (L:=r) (λx hx=>hL x (mT hx)) U K Q β who a w
  simp only[mkLp]at h;split at h
  . rename_i hb;split at h
    . rename_i x hx;obtain⟨o,ho,he⟩:=Option.bind_eq_some_iff.1 h;rw[qbq]at he;have:=SS.dec_spec hx;subst this;exact hL l mS hb x o ho Q β who a w S (λβ' who' a' w' S'=>hK _ _ he β' who' a' w' S')
    . exact ih h S hK
  . exact ih h S hK
def Kl {ins:SS} {outs:List (Ex×SS)} (F:ins.Val->Option (outVal outs)) (e:Ex) (U:Slots):Option (outVal outs):=match e with
 | .normal=>(match ins.dec U with
   |some x=>F x
   |none=>none)
 | .exit i=>decO outs (.exit i) U
 | .ret=>decO outs .ret U
def qpe {P:Program} {CO:qx} {T:TT} {E:Entry} (hm:P.follows .mixedOrders=true) (hT:TTok P T) (hCO: ∀f as r os,CO f as r os->Xl P f as r os) {N:Nat} {H:Hints}
 (hE:EOf P E N H.pins) {blk:Nat} {ins:SS} {outs:List (Ex×SS)} {body:Code} {C:(R:Type)->Nat->List AV->(AV->List AV->Option R)->Option R} {L:List LoopT}
 (hC: ∀R (ρ:R) f as k,C R f as k=some ρ-> ∃r os,CO f as r os/\k r os=some ρ)
 (hL: ∀R (ρ:R),Yc (Xv P E (mkLp R L) ρ) body blk)
 (F:Nat->ins.Val->Option (outVal outs)) (h0: ∀x,F 0 x=none)
 (hr: ∀n x,q86 (C (outVal outs)) (mkLp (outVal outs) L) T N H body blk (ins.enc x) (Kl (F n))=F (n+1) x) (n:Nat):LoopOK P E body ⟨blk,ins,outs,F n⟩:=by
 intro x o ho Q β who a w S hQ;refine qha hm hT hCO hE (hC _) (λρ=>hL _ ρ) F ins.enc (encO outs) (λn=>Kl (F n)) h0 (λn x ρ h=>by rw[hr];exact h) (λn e U ρ h=> ?_) ho S hQ
 cases e with
 |normal=>
  simp only[Kl]at h;split at h
  . rename_i y hy;exact .inl ⟨rfl,y,SS.dec_spec hy,h⟩
  . cases h
 |exit i=>exact .inr ⟨by simp,q5x h⟩
 |ret=>exact .inr ⟨by simp,q5x h⟩
abbrev Qv (l:List Sh):Type:=valL Sh.Val l
def encS (l:List Sh) (x:Qv l):List AV:=encL Sh.Val Sh.enc l x
def decS (l:List Sh) (v:List AV):Option (Qv l):=decL Sh.Val Sh.dec l v
def qd0 {l:List Sh} {v:List AV} {x:Qv l} (h:decS l v=some x):v=encS l x:=Yv Sh.Val Sh.enc Sh.dec (λ_ _ _=>Sh.dec_spec) h
structure FunT where
 f:Nat
 args:List Sh
 res:Sh
 outs:List Sh
 run:Qv args->Option (res.Val×Qv outs)
def mkC (R:Type):List FunT->Nat->List AV->(AV->List AV->Option R)->Option R
 |[],_,_,_=>none
 |t::r,f,as,k=>if t.f=f then(match decS t.args as with
   |some x=>(t.run x).bind λy=>t.res.elim y.1 λr=>k r (encS t.outs y.2)
   |none=>mkC R r f as k)
  else mkC R r f as k
def FunOK (P:Program) (t:FunT):Prop:= ∀x y,t.run x=some y->Xl P t.f (encS t.args x) (t.res.enc y.1) (encS t.outs y.2)
def q9f {P:Program} {R:Type} {ρ:R} {f:Nat} {as:List AV} {k:AV->List AV->Option R}: ∀{L:List FunT},(∀t∈L,FunOK P t)->mkC R L f as k=some ρ->
 ∃r os,Xl P f as r os/\k r os=some ρ
 |[],_,h=>by cases h
 |t::r,hL,h=>by
  have ih:=q9f (R:=R) (ρ:=ρ) (f:=f) (as:=as) (k:=k) (L:=r) (λx hx=>hL x (mT hx))
  simp only[mkC]at h;split at h
  . rename_i hf;split at h
    . rename_i x hx;obtain⟨y,hy,he⟩:=Option.bind_eq_some_iff.1 h;rw[Sh.elim_eq]at he;have:=qd0 hx;subst this;exact⟨_,_,hf▸hL t mS x y hy,he⟩
    . exact ih h
  . exact ih h
def Kd (res:Sh) (outs:List Sh) (r:AV) (os:List AV):Option (res.Val×Qv outs):=match res.dec r,decS outs os with
 |some x,some y=>some (x,y)
 |_,_=>none
def qqn {P:Program} {T:TT} (hm:P.follows .mixedOrders=true) (hT:TTok P T) {H:Hints} {fn:Func} {c:Code} (t:FunT)
 (hf:P.funcs[t.f]? =some fn) (hb:fn.body=some c) (hname:(fn.name== "runtime.NumGoroutine")=false) {Lc:List FunT} (hC: ∀u∈Lc,FunOK P u) {L:List LoopT}
 (hL: ∀E:Entry,EOf P E fn.ntmps H.pins-> ∀R (ρ:R),Yc (Xv P E (mkLp R L) ρ) c 0)
 (hr: ∀x,fnK (mkC (t.res.Val×Qv t.outs) Lc) (mkLp (t.res.Val×Qv t.outs) L) T H fn (encS t.args x) (Kd t.res t.outs)=t.run x):FunOK P t:=by
 intro x y hy;refine qmr hm hT (CO:=Xl P) (λ_ _ _ _ h=>h) hf hb hname (λf as k h=>q9f hC h) (λE hE=>hL E hE _ y) ((hr x).trans hy) (λr os h=> ?_)
 unfold Kd at h;split at h
 . rename_i u v e1 e2;cases h;exact⟨Sh.dec_spec e1,qd0 e2⟩
 . cases h
@[reducible] def w_i8 (n:Int):Int:=IntKind.wrap .i8 n
@[reducible] def w_i16 (n:Int):Int:=IntKind.wrap .i16 n
@[reducible] def w_i32 (n:Int):Int:=IntKind.wrap .i32 n
@[reducible] def wI (n:Int):Int:=IntKind.wrap .i64 n
@[reducible] def w_u8 (n:Int):Int:=IntKind.wrap .u8 n
@[reducible] def w_u16 (n:Int):Int:=IntKind.wrap .u16 n
@[reducible] def wK (n:Int):Int:=IntKind.wrap .u32 n
@[reducible] def wJ (n:Int):Int:=IntKind.wrap .u64 n
def qo (k:IntKind) (x y:Int):Int:=k.wrap (BitVec.ofInt k.bits x&&&BitVec.ofInt k.bits y).toNat
def b_or_ (k:IntKind) (x y:Int):Int:=k.wrap (BitVec.ofInt k.bits x|||BitVec.ofInt k.bits y).toNat
def Zw (k:IntKind) (x y:Int):Int:=k.wrap (BitVec.ofInt k.bits x^^^BitVec.ofInt k.bits y).toNat
def Zo (k:IntKind) (x y:Int):Int:=k.wrap (BitVec.ofInt k.bits x&&& ~~~(BitVec.ofInt k.bits y)).toNat
def shl_ (k:IntKind) (a b:Int):Int:=k.wrap (a*2^(min b.toNat k.bits))
def shr_ (k:IntKind) (a b:Int):Int:=a.fdiv (2^(min b.toNat k.bits))
def Y6:Code->Nat->List (Nat×Code)
 | .seq a b,k=>Y6 a k++Y6 b k
 | .cond _ a b,k=>Y6 a k++Y6 b k
 | .block id c,_=>Y6 c id
 | .scope c,k=>Y6 c k
 | .loop body,k=>[(k,body)]
 |_,_=>[]
def codeOf (f:Func):Code:=f.body.getD .skip
def AllL (L:Nat->Code->Prop):List (Nat×Code)->Prop
 |[]=>True
 |p::r=>L p.1 p.2/\AllL L r
def AllL.app {L:Nat->Code->Prop}: ∀{l r:List (Nat×Code)},AllL L (l++r)->AllL L l/\AllL L r
 |[],_,h=>⟨trivial,h⟩
 |_::l,_,h=>⟨⟨h.1,(AllL.app (l:=l) h.2).1⟩,(AllL.app (l:=l) h.2).2⟩
def q2t:Code->List (Nat×Code)
 | .seq a b=>q2t a++((jkey b,b)::q2t b)
 | .cond _ a b=>q2t a++q2t b
 | .block _ c=>q2t c
 | .scope c=>q2t c
 |_=>[]
def qo2 (ks:List Nat) (p:Nat×Code):Bool:=ks.contains p.1
def qla (ks:List Nat) (c:Code):List (Nat×Code):=(q2t c).filter (qo2 ks)
def AllL.mem {L:Nat->Code->Prop}: ∀{l:List (Nat×Code)},AllL L l-> ∀p∈l,L p.1 p.2
 |_::_,h,p,hp=>by
  rcases mC hp with rfl|hp
  . exact h.1
  . exact AllL.mem h.2 p hp
def Y1 {L:Nat->Code->Prop}: ∀{c:Code} {k:Nat},AllL (λk b=>L k (.loop b)) (Y6 c k)->(∀p∈q2t c,L p.1 p.2)->Yc L c k
 | .seq a b,k,h,hj=>⟨Y1 (AllL.app h).1 (λp hp=>hj p (zQ _ hp)),Y1 (AllL.app h).2 (λp hp=>hj p (zf _ (mT hp))),
    hj (jkey b,b) (zf _ mS)⟩
 | .cond _ a b,k,h,hj=>⟨Y1 (AllL.app h).1 (λp hp=>hj p (zQ _ hp)),Y1 (AllL.app h).2 (λp hp=>hj p (zf _ hp))⟩
 | .block id c,_,h,hj=>Y1 (c:=c) h hj
 | .loop body,k,h,_=>h.1
 | .skip,_,_,_=>trivial
 | .region _ _ _,_,_,_=>trivial
 | .rangeFunc _ _ _ _,_,_,_=>trivial
 | .exit _,_,_,_=>trivial
 | .scope c,_,h,hj=>Y1 (c:=c) h hj
 | .label _,_,_,_=>trivial
 | .goto _,_,_,_=>trivial
 | .ret,_,_,_=>trivial
 | .refuse _,_,_,_=>trivial
def qpq (c:Code):1000<=jkey c:=Nat.le_add_right _ _
def Zm: ∀{c:Code} {p:Nat×Code},p∈q2t c->1000<=p.1
 | .seq a b,p,h=>by
   rcases zL.1 h with h|h
   . exact Zm h
   . rcases mC h with rfl|h
     . exact qpq b
     . exact Zm h
 | .cond _ a b,p,h=>by
   rcases zL.1 h with h|h
   . exact Zm h
   . exact Zm h
 | .block _ c,p,h=>Zm (c:=c) h
 | .scope c,p,h=>Zm (c:=c) h
def q1b (ks:List Nat):List LoopT->Bool
 |[]=>true
 |l::r=>(Nat.blt l.blk 1000||ks.contains l.blk)&&q1b ks r
def q7c {ks:List Nat}: ∀{L:List LoopT},q1b ks L=true-> ∀l∈L,l.blk<1000\/l.blk∈ks
 |l::r,h,x,hx=>by
  simp only[q1b,zF,zM2]at h;rcases mC hx with rfl|hx
  . simp_all
  . exact q7c h.2 x hx
def q8v {P:Program} {E:Entry} {R:Type} {ρ:R} {L:List LoopT} {c:Code} {k:Nat} {l:List (Nat×Code)} {ks:List Nat} {jl:List (Nat×Code)} (h:Y6 c k=l) (hl:AllL (LoopSpec P E (mkLp R L) ρ) l) (hk:q1b ks L=true)
 (hj:qla ks c=jl) (hjl:AllL (Xv P E (mkLp R L) ρ) jl):Yc (Xv P E (mkLp R L) ρ) c k:=by
 refine Y1 (h▸hl) λp hp=> ?_
 by_cases hc:p.1∈ks
 . exact AllL.mem hjl p (hj▸zR1.2 ⟨hp,zB1.2 hc⟩)
 . exact q7g λl hl hb=>by
    rcases q7c hk l hl with h|h
    . have:=Zm hp;omega
    grind
def q43: ∀{l:List (Nat×Code)},l.filter (qo2 [])=[]
 |[]=>rfl
 |p::r=>by rw[zr1];exact q43 (l:=r)
def wi {n:Int} (h1: -9223372036854775808<=n) (h2:n<9223372036854775808):IntKind.wrap .i64 n=n:=by
 unfold IntKind.wrap;show(if(true&&decide (n%18446744073709551616>=9223372036854775808))=true then n%18446744073709551616-18446744073709551616 else n%18446744073709551616)=n
 grind
@[simp] def wQ {n:Int}:wI n=IntKind.wrap .i64 n:=rfl
def wsucc {k:Nat} (h:k<4611686018427387904):IntKind.wrap .i64 ((k:Int)+1)=((k+1:Nat):Int):=by
 rw[wi O O];omega
def wpred {k:Nat} (h:k<4611686018427387904) (h0:0<k):IntKind.wrap .i64 ((k:Int)-1)=((k-1:Nat):Int):=by
 rw[wi O O];omega
def wu {n:Int} (h1:0<=n) (h2:n<18446744073709551616):IntKind.wrap .u64 n=n:=by
 unfold IntKind.wrap;show(if(false&&decide (n%18446744073709551616>=9223372036854775808))=true then n%18446744073709551616-18446744073709551616 else n%18446744073709551616)=n
 grind
@[simp] def bQ {α:Type} {p:Prop} [Decidable p] {a b:α}:(bif decide p then a else b)=if p then a else b:=by
  by_cases h:p<;>simp[h]
@[simp] def bif_not {α:Type} {p:Bool} {a b:α}:(bif !p then a else b)=bif p then b else a:=by cases p<;>rfl
@[simp] def bif_eq {α:Type} {x y:Int} {a b:α}:(bif x==y then a else b)=if x=y then a else b:=by
  grind
@[simp] def bif_ne {α:Type} {x y:Int} {a b:α}:(bif x !=y then a else b)=if x=y then b else a:=by
  grind
def inr {k n:Nat} (h:k<n):(0:Int)<=(k:Int)/\(k:Int)<(n:Int):=O
def drop_cons {α:Type} {xs:List α} {k:Nat} {d:α} (h:k<xs.length):xs.drop k=xs.getD k d::xs.drop (k+1):=by
 simp_all
def drop_nil' {α:Type} {xs:List α} {k:Nat} (h: ¬k<xs.length):xs.drop k=[]:=List.drop_eq_nil_of_le (zC2 h)
def Qa (p:Nat->Bool) (k c:Nat):Bool:=(List.range' k (c-k)).all p
def X6 {p:Nat->Bool} {k c:Nat} (h:k<c):Qa p k c=(p k&&Qa p (k+1) c):=by
 unfold Qa
 grind
def Xm {p:Nat->Bool} {k c:Nat} (h: ¬k<c):Qa p k c=true:=by
 unfold Qa
 grind
def qy {p:Nat->Bool} {k c:Nat}:Qa p k c=true↔ ∀i,k<=i->i<c->p i=true:=by
 unfold Qa
 grind
def qai {p q:Nat->Bool} {k c:Nat} (h: ∀i,k<=i->i<c->p i=q i):Qa p k c=Qa q k c:=by
 rw[Bool.eq_iff_iff,qy,qy]
 grind
def q2c {α:Type} {xs ys:List α} {d:α} {k:Nat} (h:xs.length<=k):(xs++ys).getD k d=ys.getD (k-xs.length) d:=by
 grind
def q3n {α:Type} {xs ys:List α} {d:α} {k:Nat} (h:k<xs.length):(xs++ys).getD k d=xs.getD k d:=by
 grind
def getD_take {α:Type} {xs:List α} {k e:Nat} {d:α} (h:k<e):(xs.take e).getD k d=xs.getD k d:=by
 simp[List.getD,h]
def getD_drop {α:Type} {xs:List α} {k e:Nat} {d:α}:(xs.drop e).getD k d=xs.getD (e+k) d:=by
 grind
def q2i {α:Type} {xs:List α} {x d:α} (h:x∈xs): ∃k,k<xs.length/\xs.getD k d=x:=by
 obtain⟨k,hk,e⟩:=zi h;exact⟨k,hk,by simp[List.getD,hk,e]⟩
def q1y {α:Type} {xs:List α} {k:Nat} {x d:α} (h:k<xs.length):(xs.set k x).getD k d=x:=by
 simp[List.getD,h]
def getD_set_ne {α:Type} {xs:List α} {k j:Nat} {x d:α} (h:k≠j):(xs.set k x).getD j d=xs.getD j d:=by
 grind
def Xh {α:Type} {n k:Nat} {x d:α} (h:k<n):(List.replicate n x).getD k d=x:=by
 simp[List.getD,h]
def qne {α:Type} {xs ys:List α} (d:α) (hl:xs.length=ys.length) (h: ∀k,k<xs.length->xs.getD k d=ys.getD k d):xs=ys:=by
 refine zS3 hl λk h1 h2=> ?_
 grind
def noCl {R:Type}:Nat->List AV->(AV->List AV->Option R)->Option R:=λ_ _ _=>none
def noLp {R:Type}:Nat->Slots->(Ex->Slots->Option R)->Option R:=λ_ _ _=>none
def onlyN (e:Ex) (U:Slots):Option Slots:=match e with
 | .normal=>some U
 |_=>none
def onlyR (e:Ex) (U:Slots):Option Slots:=match e with
 | .ret=>some U
 |_=>none
def q5g {CO:qx} {R:Type} {ρ:R}: ∀f as k,noCl f as k=some ρ-> ∃r os,CO f as r os/\k r os=some ρ:=λ_ _ _ h=>by cases h
def q79 {P:Program} {E:Entry} {R:Type} {ρ:R} {blk:Nat} {body:Code}:Xv P E (noLp (R:=R)) ρ blk body:=λ_ _ _ _ _ _ _ h=>by cases h
def Z7:Code->Bool
 | .seq a b=>Z7 a&&Z7 b
 | .cond _ a b=>Z7 a&&Z7 b
 | .block _ c=>Z7 c
 | .scope c=>Z7 c
 | .loop _=>false
 |_=>true
def Xp {L:Nat->Code->Prop} (hL: ∀k c,L k c): ∀{c:Code} {k:Nat},Z7 c=true->Yc L c k
 | .seq a b,k,h=>by
   simp only[Z7,zF]at h;exact⟨Xp hL h.1,Xp hL h.2,hL _ _⟩
 | .cond _ a b,k,h=>by
   simp only[Z7,zF]at h;exact⟨Xp hL h.1,Xp hL h.2⟩
 | .block id c,_,h=>Xp hL (c:=c) h
 | .loop body,k,h=>by cases h
 | .skip,_,_=>trivial
 | .region _ _ _,_,_=>trivial
 | .rangeFunc _ _ _ _,_,_=>trivial
 | .exit _,_,_=>trivial
 | .scope c,_,h=>Xp hL (c:=c) h
 | .label _,_,_=>trivial
 | .goto _,_,_=>trivial
 | .ret,_,_=>trivial
 | .refuse _,_,_=>trivial
section
variable {P:Program} {CO:qx} {T:TT} {E:Entry} {D:Nat->Prop} {β:Beta} {who:Who} {U:Slots} {a:Act} {w:World}
def qfg (w:World) (d:Nat) {ty e:Nat} {ad:Option Addr} {l c:Nat} (hu:P.underlying ty=some (.slice e)):
 (Op.equalIn (d+1) ty (.slice ad l c) (.slice none 0 0)).run P w= .ok ad.isNone w:=by
 cases ad<;>simp[Op.equalIn,run_underlying hu]
def qa1 (op:BinOp) (t:Nat) (x y:Operand) (ad:Option Addr) (l c:Nat) (w:World):
 (eqGuard op t x y (.slice ad l c) (.slice none 0 0)).run P w= .ok () w:=by
 unfold eqGuard;cases op<;>rfl
def SlI.shape {t:Ty} {xs:List (Den t)} {v:Value} (h:SlI who w t xs v): ∃ad l c,v= .slice ad l c/\(ad.isNone=true->xs=[]):=by
 rcases h with⟨rfl,rfl⟩|⟨b,o,cap,rfl,_⟩
 . exact⟨_,_,_,rfl,λ_=>rfl⟩
 grind
def qkk (hT:TTok P T) (hE:E.prog=P) {N:Nat} (hN:E.N=N) (hp:E.pins=[]) {p q s:Nat} {ty e ty2 k:Nat} {t:Ty} {cells:List ZC} {o0 o1:Oper} {X:Code}
 (hti:T.at ty=some ⟨.slice e t,cells⟩) (h0:o0.op= .move (.tmp s)) (h0d:o0.dst=some p) (h0g:o0.guard=none)
 (h1:o1.op= .binOp .eql ty (.tmp p) (.const (.slice none 0 0)) ty2) (h1d:o1.dst=some q) (h1g:o1.guard=none)
 (hpN:p<N) (hqN:q<N) (hpq:p≠q) {xs:List (Den t)} (hs:U.get s= .sl .imm t xs) (hsp:U.get p= .dead) (hsq:U.get q= .dead)
 (S:Sim E D99 β who U [] a w) {Q:Exit->Act->World->Prop}
 (hX:xs=[]-> ∀a,Sim E D99 β who U [] a w->X.wp P Q a w) (hF: ∀a,Sim E D99 β who U [] a w->Q .normal a w):
 (Code.seq (.region k #[o0,o1] false) (.cond (.tmp q) X .skip)).wp P Q a w:=by
 obtain⟨ad,l,c,hv,hnil⟩:=SlI.shape (show SlI who w t xs (a.tmps.getD s undef) by have:=S.rel s;rw[hs]at this;exact this)
 have hv':a.eval (.tmp s)= .slice ad l c:=by rw[Act.eval];exact hv
 refine wp_seq (wp_region_list ?_)
 have S1:Sim E D99 β who (U.set p (.sl .imm t xs)) [] (a.put (some p) (a.eval (.tmp s))) w:=
  (S.take0 (v:= .sl .imm t xs) (c:=a.eval (.tmp s)) (by have:=S.rel s;rw[hs]at this;exact this) rfl (λn hn=>by cases hn)).put (by rw[hN];exact hpN) (λx hx=>by rw[hp]at hx;cases hx)
 have hp1:(a.put (some p) (a.eval (.tmp s))).eval (.tmp p)= .slice ad l c:=by
  have hsz:p<a.tmps.size:=by rw[S.tsz,hN];exact hpN
  rw[Act.eval];simp[Act.put,Array.getD_eq_getD_getElem?,hsz,hv']
 have S2:Sim E D99 β who ((U.set p (.sl .imm t xs)).set q (.bool ad.isNone)) [] ((a.put (some p) (a.eval (.tmp s))).put (some q) (.bool ad.isNone)) w:=
  (S1.take0 (v:= .bool ad.isNone) (c:= .bool ad.isNone) rfl rfl (λn hn=>by cases hn)).put (by rw[hN];exact hqN) (λx hx=>by rw[hp]at hx;cases hx)
 show wpList P #[o0,o1] _ [o0,o1] a w
 unfold wpList;rw[iP (by simp[Region.wanted,h0g])]
 refine .inl ?_;unfold Oper.wp;rw[show(execOp a.eval o0).run P w= .ok (.value (a.eval (.tmp s))) w by unfold execOp;simp only[h0];rfl]
 show wpList P #[o0,o1] _ [o1] (a.put o0.dst (a.eval (.tmp s))) w
 rw[h0d];unfold wpList;rw[iP (by simp[Region.wanted,h1g])]
 refine .inl ?_;unfold Oper.wp;have hu:P.underlying ty=some (.slice e):=(hT ty _ hti).desc.1
 have hexec:(execOp (a.put (some p) (a.eval (.tmp s))).eval o1).run P w= .ok (.value (.bool ad.isNone)) w:=by
  unfold execOp;simp only[h1];refine run_v ?_;have hc:(a.put (some p) (a.eval (.tmp s))).eval (.const (.slice none 0 0))= .slice none 0 0:=rfl;rw[hp1,hc];have he:(Op.equal ty (.slice ad l c) (.slice none 0 0)).run P w= .ok ad.isNone w:=qfg w 9999 hu;simp only[Sem.run_bind,qa1,Result.andThen_ok];simp[binOp,he]
 rw[hexec];simp only[Oper.upon,h1d];unfold wpList;show(Code.cond (.tmp q) X .skip).wp P Q _ w
 have S3:Sim E D99 β who U [] ((a.put (some p) (a.eval (.tmp s))).put (some q) (.bool ad.isNone)) w:=by
  refine((S2.abs (s:=p) (v:= .dead) trivial (λn hn=>by cases hn) z01 (λn hn=>by cases hn)).abs (s:=q) (v:= .dead) trivial (λn hn=>by cases hn) z01 (λn hn=>by cases hn)).ext λx=> ?_
  by_cases e1:x=q
  . subst e1;rw[qh,hsq]
  . rw[qg _ _ e1];by_cases e2:x=p
    . subst e2;rw[qh,hsp]
    . rw[qg _ _ e2,qg _ _ e1,qg _ _ e2]
 have hq:=S2.rel q;rw[qh]at hq;refine wp_cond (t:=ad.isNone) hq ?_;cases had:ad.isNone with
 |true=>grind
 |false=>rw[had]at S3;rw[iN' (by simp)];exact wp_skip (hF _ S3)
end
def qnm (t:Ty):Qv [.a (.c (.imm t))]->Option ((Sh.a (.c (.nm 0 t))).Val×Qv [.a (.c .dead)]):=λx=>
 if([]:List (Den t)).length+x.1.length<=1073741824 then some (x.1,((),()))else none
def qgd {P:Program} {T:TT} (hm:P.follows .mixedOrders=true) (hT:TTok P T) {H:Hints} {fn:Func} {f:Nat} {t:Ty} {ty e ty2 k:Nat} {cells:List ZC}
 {A X Y:Code} {o0 o1:Oper} (hf:P.funcs[f]? =some fn)
 (hb:fn.body=some (.seq A (.seq (.seq (.region k #[o0,o1] false) (.cond (.tmp 4) X .skip)) Y)))
 (hname:(fn.name== "runtime.NumGoroutine")=false) (hti:T.at ty=some ⟨.slice e t,cells⟩)
 (h0:o0.op= .move (.tmp 0)) (h0d:o0.dst=some 3) (h0g:o0.guard=none)
 (h1:o1.op= .binOp .eql ty (.tmp 3) (.const (.slice none 0 0)) ty2) (h1d:o1.dst=some 4) (h1g:o1.guard=none)
 (hN:5<=fn.ntmps) (hpins:H.pins=[]) (hlA:Z7 A=true) (hlX:Z7 X=true) (hlY:Z7 Y=true)
 (U1 U2:List (Den t)->Slots)
 (hA: ∀xs,evK noCl noLp T fn.ntmps H A 0 (Zv 0 [.sl .imm t xs]) onlyN=some (U1 xs))
 (g0: ∀xs,(U1 xs).get 0= .sl .imm t xs) (g3: ∀xs,(U1 xs).get 3= .dead) (g4: ∀xs,(U1 xs).get 4= .dead)
 (hX:evK noCl noLp T fn.ntmps H X 0 (U1 []) onlyR=some (U2 []))
 (hY: ∀xs,evK noCl noLp T fn.ntmps H Y 0 (U1 xs) onlyR=if([]:List (Den t)).length+xs.length<=1073741824 then some (U2 xs)else none)
 (hfin: ∀xs,q3i T H fn [.sl .imm t xs] (λr os=>some (r,os)) (U2 xs)=some (.sl (.nm 0) t xs,[.dead])):
 FunOK P ⟨f,[.a (.c (.imm t))],.a (.c (.nm 0 t)),[.a (.c .dead)],qnm t⟩:=by
 intro x y hy;obtain⟨xs,u⟩:=x
 have hlen:([]:List (Den t)).length+xs.length<=1073741824/\y=(xs,((),())):=by
  unfold qnm at hy;simp only at hy;split at hy
  . grind
  . cases hy
 obtain⟨hlen,rfl⟩:=hlen;show Xl P f [.sl .imm t xs] (.sl (.nm 0) t xs) [.dead];refine⟨⟨fn,hf,by rw[hb];rfl,hname⟩,λβ who w cargs hsz hrel hnd h99 hnr hw hgl=> ?_⟩
 refine calls_of_wp hf hb ?_;have hNt:[AV.sl .imm t xs].length<=fn.ntmps:=by simp;omega
 have S:=qb6 (pins:=H.pins) hsz hNt hrel hnd h99 hnr hw hgl;generalize hE:(⟨P,w,who,H.pins.map λi=>(i,(cargs++Array.replicate (fn.ntmps-cargs.size) undef).getD i undef),fn.ntmps,hgl,β 98⟩:Entry)=E at S
 have hEO:EOf P E fn.ntmps H.pins:=by
  subst hE;exact⟨rfl,λp hp=>by grind,rfl⟩
 have hEp:E.pins=[]:=by subst hE;simp[hpins]
 have fin: ∀β' who' a' w',Sim E D99 β' who' (U2 xs) [] a' w'->a'.defers=[]/\ ∃v,(results fn a'.tmps).run P w'= .ok v w'/\q4r who w cargs (.sl (.nm 0) t xs) [.dead] (β 98) (.returned v) w':=λβ' who' a' w' S'=>by
  subst hE;obtain⟨res',outs',v,k1,k2,k3⟩:=q4i hT (hfin xs) hsz hNt (by rfl) S'
  cases k1
  exact⟨S'.dfr,v,k2,k3⟩
 refine wp_seq (q2h (CO:=Xl P) hm hT (λ_ _ _ _ h=>h) hEO q5g A 0 _ onlyN _ β who _ w (Xp (λ_ _=>q79) hlA) (hA xs) S λe1 U' he β' who' a' w' S'=> ?_)
 cases e1 with
 |normal=>
  cases he
  refine wp_seq (qkk hT hEO.2.2 hEO.1 hEp hti h0 h0d h0g h1 h1d h1g O O O (g0 xs) (g3 xs) (g4 xs) S' (λhnil a2 S2=> ?_) (λa2 S2=> ?_))
  . subst hnil;refine q2h (CO:=Xl P) hm hT (λ_ _ _ _ h=>h) hEO q5g X 0 _ onlyR _ _ _ _ _ (Xp (λ_ _=>q79) hlX) hX S2 λe2 U3 he2 β3 who3 a3 w3 S3=> ?_
    cases e2 with
    |ret=>cases he2;exact fin _ _ _ _ S3
    |normal=>cases he2
    |exit i=>cases he2
  . refine q2h (CO:=Xl P) hm hT (λ_ _ _ _ h=>h) hEO q5g Y 0 _ onlyR _ _ _ _ _ (Xp (λ_ _=>q79) hlY) ((hY xs).trans (iP hlen)) S2 λe2 U3 he2 β3 who3 a3 w3 S3=> ?_
    cases e2 with
    |ret=>cases he2;exact fin _ _ _ _ S3
    |normal=>cases he2
    |exit i=>cases he2
 |ret=>cases he
 |exit i=>cases he
def pA:Code->Code
 | .seq a _=>a
 |_=> .skip
def pB:Code->Code
 | .seq _ b=>b
 |_=> .skip
def pX:Code->Code
 | .cond _ x _=>x
 |_=> .skip
def pO (i:Nat):Code->Oper
 | .region _ ops _=>ops.getD i default
 |_=>default
structure LT where
 blk:Nat
 ins:SS
 outs:List (Ex×SS)
 run:Nat->ins.Val->Option (outVal outs)
def LT.at (t:LT) (n:Nat):LoopT:=⟨t.blk,t.ins,t.outs,t.run n⟩
def lokJ {P:Program} {T:TT} (hm:P.follows .mixedOrders=true) (hT:TTok P T) {N:Nat} {H:Hints} {E:Entry} (hE:EOf P E N H.pins) {D:List FunT} (hD: ∀u∈D,FunOK P u) {B:Code} {L:List LoopT} (t:LT) {l:List (Nat×Code)} (ks:List Nat) {jl:List (Nat×Code)} (hk:q1b ks L=true) (hj:qla ks B=jl)
 (hJ: ∀R (ρ:R),AllL (Xv P E (mkLp R L) ρ) jl) (hl:Y6 B t.blk=l)
 (hL: ∀R (ρ:R),AllL (LoopSpec P E (mkLp R L) ρ) l)
 (hr: ∀n x,q86 (mkC (outVal t.outs) D) (mkLp (outVal t.outs) L) T N H B t.blk (t.ins.enc x) (Kl (t.run n))=t.run (n+1) x) (h0: ∀x,t.run 0 x=none) (n:Nat):LoopOK P E B (t.at n):=
 qpe (CO:=Xl P) hm hT (λ_ _ _ _ h=>h) hE (C:=λR=>mkC R D) (L:=L) (λ_ _ _ _ _ h=>q9f hD h) (λR ρ=>q8v hl (hL R ρ) hk hj (hJ R ρ)) t.run h0 hr n
def lok {P:Program} {T:TT} (hm:P.follows .mixedOrders=true) (hT:TTok P T) {N:Nat} {H:Hints} {E:Entry} (hE:EOf P E N H.pins) {D:List FunT} (hD: ∀u∈D,FunOK P u) {B:Code} {L:List LoopT} (t:LT) {l:List (Nat×Code)} (hl:Y6 B t.blk=l)
 (hL: ∀R (ρ:R),AllL (LoopSpec P E (mkLp R L) ρ) l)
 (hr: ∀n x,q86 (mkC (outVal t.outs) D) (mkLp (outVal t.outs) L) T N H B t.blk (t.ins.enc x) (Kl (t.run n))=t.run (n+1) x) (h0: ∀x,t.run 0 x=none) (n:Nat) (hk:q1b [] L=true:=by kernel_rfl):LoopOK P E B (t.at n):=
 lokJ hm hT hE hD t [] hk q43 (λ_ _=>trivial) hl hL hr h0 n
def okB (fn:Func):Bool:=fn.body.isSome&& !(fn.name== "runtime.NumGoroutine")
def fokJ {P:Program} {T:TT} (hm:P.follows .mixedOrders=true) (hT:TTok P T) {H:Hints} {fn:Func} (t:FunT) (hf:P.funcs[t.f]? =some fn) (hb:okB fn=true) {D:List FunT} (hD: ∀u∈D,FunOK P u) {L:List LoopT} {l:List (Nat×Code)} (ks:List Nat) {jl:List (Nat×Code)} (hk:q1b ks L=true) (hj:qla ks (codeOf fn)=jl)
 (hJ: ∀E:Entry,EOf P E fn.ntmps H.pins-> ∀R (ρ:R),AllL (Xv P E (mkLp R L) ρ) jl) (hl:Y6 (codeOf fn) 0=l)
 (hL: ∀E:Entry,EOf P E fn.ntmps H.pins-> ∀R (ρ:R),AllL (LoopSpec P E (mkLp R L) ρ) l)
 (hr: ∀x,fnK (mkC (t.res.Val×Qv t.outs) D) (mkLp (t.res.Val×Qv t.outs) L) T H fn (encS t.args x) (Kd t.res t.outs)=t.run x):FunOK P t:=by
 unfold okB at hb;rw[zF]at hb;obtain⟨h1,h2⟩:=hb;obtain⟨c,hc⟩:=Option.isSome_iff_exists.1 h1;have e:codeOf fn=c:=by rw[codeOf,hc];rfl
 rw[e]at hl hj;exact qqn hm hT t hf hc (by simpa using h2) hD (λE hE R ρ=>q8v hl (hL E hE R ρ) hk hj (hJ E hE R ρ)) hr
def fok {P:Program} {T:TT} (hm:P.follows .mixedOrders=true) (hT:TTok P T) {H:Hints} {fn:Func} (t:FunT) (hf:P.funcs[t.f]? =some fn) (hb:okB fn=true) {D:List FunT} (hD: ∀u∈D,FunOK P u) {L:List LoopT} {l:List (Nat×Code)} (hl:Y6 (codeOf fn) 0=l)
 (hL: ∀E:Entry,EOf P E fn.ntmps H.pins-> ∀R (ρ:R),AllL (LoopSpec P E (mkLp R L) ρ) l)
 (hr: ∀x,fnK (mkC (t.res.Val×Qv t.outs) D) (mkLp (t.res.Val×Qv t.outs) L) T H fn (encS t.args x) (Kd t.res t.outs)=t.run x) (hk:q1b [] L=true:=by kernel_rfl):FunOK P t:=
 fokJ hm hT t hf hb hD [] hk q43 (λ_ _ _ _=>trivial) hl hL hr
open Go.ChangeShapes Go.WideShapes Go.ChangeAt Go.RowKit
def nobody:Who:=λ_=>none
def valsOf:(t:Ty)->Den t->List Value
 | .int k,x=>[.int k x]
 | .bool,b=>[.bool b]
 | .sl _ _,_=>[]
 | .opq,_=>[]
 | .pr a b,x=>valsOf a x.1++valsOf b x.2
def q1d:Ty->Bool
 | .int _=>true
 | .bool=>true
 | .sl _ _=>false
 | .opq=>false
 | .pr a b=>q1d a&&q1d b
def wfD:(t:Ty)->Den t->Prop
 | .int k,x=>(Lit.int k x).wf=true
 | .bool,_=>True
 | .sl _ t,xs=> ∀x∈xs,wfD t x
 | .opq,_=>True
 | .pr a b,x=>wfD a x.1/\wfD b x.2
def Jg: ∀{t:Ty} {x:Den t},q1d t=true->(valsOf t x).length=t.size
 | .int _,_,_=>rfl
 | .bool,_,_=>rfl
 | .sl _ _,_,h=>by cases h
 | .opq,_,h=>by cases h
 | .pr a b,x,h=>by
   simp only[q1d,zF]at h;simp[valsOf,Ty.size,Jg h.1,Jg h.2]
def q67 {who:Who} {w:World}: ∀{t:Ty} {x:Den t} {g:Nat->Option Value} {j:Nat},q1d t=true->(∀i,i<t.size->g (j+i)=(valsOf t x)[i]?)->RelI who w t x g j
 | .int _,_,g,j,_,h=>by have:=h 0 (by simp[Ty.size]);simpa [RelI,valsOf]using this
 | .bool,_,g,j,_,h=>by have:=h 0 (by simp[Ty.size]);simpa [RelI,valsOf]using this
 | .sl _ _,_,_,_,h,_=>by cases h
 | .opq,_,_,_,h,_=>by cases h
 | .pr a b,x,g,j,h,hg=>by
   simp only[q1d,zF]at h;have la:=Jg (x:=x.1) h.1;have lb:=Jg (x:=x.2) h.2;refine⟨q67 h.1 λi hi=> ?_,q67 h.2 λi hi=> ?_⟩
   . rw[hg i (by simp[Ty.size];omega)]
     simp only[valsOf]
     grind
   . rw[show j+a.size+i=j+(a.size+i) by omega,hg (a.size+i) (by simp[Ty.size];omega)]
     simp only[valsOf]
     grind
def q2j (P:Program) (chk:TypeId->Ty->Bool):List Field->Nat->Ty->Bool
 |[],_,_=>false
 |[f],off,ty=>decide (f.offset=off)&&decide (P.cellsOf f.type=ty.size)&&chk f.type ty
 |f::fs,off,.pr a b=>decide (f.offset=off)&&decide (P.cellsOf f.type=a.size)&&chk f.type a&&q2j P chk fs (off+a.size) b
 |_,_,_=>false
def tyChk (P:Program):Nat->TypeId->Ty->Bool
 |0,_,_=>false
 |n+1,t,ty=>match P.underlying t with
  |some (.int k)=>(match ty with
   | .int k'=>decide (k'=k)
   |_=>false)
  |some .bool=>(match ty with
   | .bool=>true
   |_=>false)
  |some (.struct fs)=>decide (P.cellsOf t=ty.size)&&q2j P (tyChk P n) fs.toList 0 ty
  |_=>false
section
variable {H:Type} {enc:TypeId×Value->H} {P:Program} {w:World} {base:Nat} {spare:Nat->Bool} {held:Bool}
def Jb {fuel:Nat} {t:TypeId} {cs:List Value} {x:DataW H×List MemPlace} {fs:Array Field} (ht:P.underlying t=some (.struct fs))
 (h:DataW.trod enc P w base spare held fuel t cs=some x):
 cs.length=P.cellsOf t/\ ∃n,fuel=n+1/\ ∃xs,fs.toList.mapM (λf=>DataW.trod enc P w base spare held n f.type ((cs.drop f.offset).take (P.cellsOf f.type)))=some xs:=by
 cases fuel with
 |zero=>simp[DataW.trod]at h
 |succ n=>
  unfold DataW.trod at h;rw[ht]at h
  have key:(if cs.length=P.cellsOf t then(fs.toList.mapM λf=>DataW.trod enc P w base spare held n f.type ((cs.drop f.offset).take (P.cellsOf f.type))).map λxs=>((.agg (xs.map (·.1)):DataW H),xs.flatMap (·.2))else none)=some x:=by
   split at h<;>first|(rename_i h1 _;cases h1)|omega|exact h|skip
   all_goals simp_all
  split at key
  . rename_i hl;obtain⟨xs,hxs,_⟩:=zO2.1 key
    grind
  . cases key
def q9b {α β:Type} {f:α->Option β}: ∀{l:List α} {r:List β},l.mapM f=some r-> ∀x∈l,∃y,f x=some y
 |[],_,_,x,h=>by cases h
 |a::l,r,h,x,hx=>by
  rw[zb3]at h;cases ha:f a with
  |none=>rw[ha]at h;cases h
  |some y=>
   rw[ha]at h;cases hl:l.mapM f with
   |none=>simp[hl]at h
   |some ys=>
    rcases mC hx with rfl|hx
    . exact⟨y,ha⟩
    . exact q9b hl x hx
def q7f {chk:TypeId->Ty->Bool} {n:Nat}
 (ih: ∀t ty cs x,chk t ty=true->DataW.trod enc P w base spare held n t cs=some x->q1d ty=true/\ ∃v:Den ty,cs=valsOf ty v/\wfD ty v) (cs:List Value):
 ∀(fs:List Field) (off:Nat) (ty:Ty),q2j P chk fs off ty=true->(∀f∈fs,∃y,DataW.trod enc P w base spare held n f.type ((cs.drop f.offset).take (P.cellsOf f.type))=some y)->
  q1d ty=true/\ ∃v:Den ty,(cs.drop off).take ty.size=valsOf ty v/\wfD ty v
 |[],_,_,h,_=>by cases h
 |[f],off,ty,h,hf=>by
  simp only[q2j,zF,decide_eq_true_eq]at h;obtain⟨y,hy⟩:=hf f mS
  grind
 |f::f2::fs,off,.pr a b,h,hf=>by
  simp only[q2j,zF,decide_eq_true_eq]at h;obtain⟨⟨⟨h1,h2⟩,h3⟩,h4⟩:=h;obtain⟨y,hy⟩:=hf f mS;rw[h1,h2]at hy;obtain⟨g1,u,g2,g3⟩:=ih _ _ _ _ h3 hy;obtain⟨q1,v,q2,q3⟩:=q7f ih cs (f2::fs) _ b h4 (λf hf'=>hf f (mT hf'))
  refine⟨by simp[q1d,g1,q1],(u,v),?_,g3,q3⟩
  show _=valsOf a u++valsOf b v
  rw[<-g2,<-q2,<-List.drop_drop,show(Ty.pr a b).size=a.size+b.size from rfl,List.take_add]
 |f::f2::fs,off,.int _,h,_=>by cases h
 |f::f2::fs,off,.bool,h,_=>by cases h
 |f::f2::fs,off,.sl _ _,h,_=>by cases h
def qd9: ∀(m:Nat) (t:TypeId) (ty:Ty) (fuel:Nat) (cs:List Value) (x:DataW H×List MemPlace),tyChk P m t ty=true->DataW.trod enc P w base spare held fuel t cs=some x->
 q1d ty=true/\ ∃v:Den ty,cs=valsOf ty v/\wfD ty v
 |0,_,_,_,_,_,h,_=>by cases h
 |m+1,t,ty,fuel,cs,x,h,ht=>by
  unfold tyChk at h;split at h
  . rename_i k hu;split at h
    . rename_i k';have:k'=k:=by simpa using h
      subst this;obtain⟨n,rfl,rfl,wn⟩:=DataW.trod_int hu ht;exact⟨rfl,n,rfl,wn⟩
    . cases h
  . rename_i hu;split at h
    . obtain⟨b,rfl,rfl⟩:=DataW.trod_bool hu ht;exact⟨rfl,b,rfl,trivial⟩
    . cases h
  . rename_i fs hu;obtain⟨hl,n,rfl,xs,hxs⟩:=Jb hu ht;simp only[zF,decide_eq_true_eq]at h;obtain⟨g1,v,g2,g3⟩:=q7f (n:=n) (λt ty cs x hc hx=>qd9 m t ty n cs x hc hx) cs fs.toList 0 ty h.2 (q9b hxs)
    grind
  . cases h
def qq5 {m:Nat} {t e:TypeId} {ty:Ty} {fuel:Nat} {v:Value} {x:DataW H×List MemPlace} (hu:P.underlying t=some (.slice e)) (hc:tyChk P m e ty=true) (hcell:P.cellsOf e=ty.size)
 (h:DataW.trod enc P w base spare held fuel t [v]=some x) (hok: ∀a len cap,v= .slice (some a) len cap->a.spot=none/\a.block<w.heap.size):
 ∃xs:List (Den ty),SlI nobody w ty xs v/\(∀y∈xs,wfD ty y)/\xs.length<=maxLen:=by
 rcases Deep.open_slice hu h with⟨hcs,_⟩|⟨a,len,cap,mm,n,D,Pl,hcs,hb,hl,hm,hmm,hx,hel⟩
 . simp only[zl2,and_true]at hcs;exact⟨[],.inl ⟨hcs,rfl⟩,(λy hy=>by simp at hy),zc1 _⟩
 . simp only[zl2,and_true]at hcs;subst hcs;obtain⟨hsp,hbl⟩:=hok a len cap rfl;obtain⟨b,o,s⟩:=a;simp only at hsp hbl;subst hsp;have hlm:len<=mm:=by rw[hmm];split<;>omega
   have key: ∀i,i<len-> ∃y:Den ty,wfD ty y/\RelI nobody w ty y (cellAt w b (o+i*ty.size)) 0:=λi hi=>by
    obtain⟨cs',h1,h2⟩:=hel i O;obtain⟨g1,y,rfl,g3⟩:=qd9 m e ty n cs' _ hc h2;refine⟨y,g3,q67 g1 λj hj=> ?_⟩
    rw[hcell]at h1;unfold World.cells? at h1;split at h1
    . have hlen:=Jg (x:=y) g1;have:=mapM_some_get h1 j j (by simp[hj])
      unfold cellAt;rw[<-this];congr 1;unfold Addr.add
      grind
    . cases h1
   have hch: ∀i,∃y:Den ty,i<len->wfD ty y/\RelI nobody w ty y (cellAt w b (o+i*ty.size)) 0:=λi=>by
    by_cases hi:i<len
    . grind
    . exact⟨ty.zero,λh=>absurd h hi⟩
   let f:Nat->Den ty:=λi=>Classical.choose (hch i)
   have hf: ∀i,i<len->wfD ty (f i)/\RelI nobody w ty (f i) (cellAt w b (o+i*ty.size)) 0:=λi=>Classical.choose_spec (hch i)
   refine⟨(List.range len).map f,.inr ⟨b,o,cap,by simp,rfl,hbl,by simpa using hl,λi hi=> ?_⟩,λy hy=> ?_,by simp;omega⟩
   . grind
   . grind
def wfC:(s:ShC)->s.Val->Prop
 | .int k,n=>(Lit.int k n).wf=true
 | .imm t,xs=>(∀x∈xs,wfD t x)/\xs.length<=maxLen
 |_,_=>True
def wfCL:(l:List ShC)->valL ShC.Val l->Prop
 |[],_=>True
 |s::r,x=>wfC s x.1/\wfCL r x.2
def q29 (P:Program) (chk:TypeId->List ShC->Bool):List Field->Nat->List ShC->Bool
 |[],_,l=>l.isEmpty
 |f::fs,off,l=>decide (f.offset=off)&&decide (P.cellsOf f.type<=l.length)&&chk f.type (l.take (P.cellsOf f.type))&&q29 P chk fs (off+P.cellsOf f.type) (l.drop (P.cellsOf f.type))
def ctChk (P:Program):Nat->TypeId->List ShC->Bool
 |0,_,_=>false
 |n+1,t,l=>match P.underlying t with
  |some (.int k)=>(match l with
   |[.int k']=>decide (k'=k)
   |_=>false)
  |some .bool=>(match l with
   |[.bool]=>true
   |_=>false)
  |some (.slice e)=>(match l with
   |[.imm ty]=>decide (P.cellsOf e=ty.size)&&tyChk P 9 e ty
   |_=>false)
  |some (.struct fs)=>decide (P.cellsOf t=l.length)&&q29 P (ctChk P n) fs.toList 0 l
  |_=>false
def CellsI (w:World) (l:List ShC) (x:valL ShC.Val l) (cs:List Value):Prop:=
 cs.length=l.length/\ ∀(β:Beta) i (h:i<(encL ShC.Val ShC.enc l x).length),RelC β nobody w (encL ShC.Val ShC.enc l x)[i] (cs.getD i undef)
def Jw {S A:Type} {V:S->Type} {e:(s:S)->V s->A}: ∀{l:List S} {x:valL V l},(encL V e l x).length=l.length
 |[],_=>rfl
 |_::r,x=>by simp[encL,Jw (l:=r)]
def joinL {V:ShC->Type}:{l r:List ShC}->valL V l->valL V r->valL V (l++r)
 |[],_,_,y=>y
 |_::_,_,x,y=>(x.1,joinL x.2 y)
def qk5 {l r:List ShC} {x:valL ShC.Val l} {y:valL ShC.Val r}:encL ShC.Val ShC.enc (l++r) (joinL x y)=encL ShC.Val ShC.enc l x++encL ShC.Val ShC.enc r y:=by
 induction l with
 |nil=>rfl
 |cons s l ih=>simp[encL,joinL,ih]
def qmz {l r:List ShC} {x:valL ShC.Val l} {y:valL ShC.Val r} (h:wfCL l x) (h':wfCL r y):wfCL (l++r) (joinL x y):=by
 induction l with
 |nil=>exact h'
 |cons s l ih=>exact⟨h.1,ih h.2⟩
def CellsI.join {l r:List ShC} {x:valL ShC.Val l} {y:valL ShC.Val r} {cs ds:List Value} (h:CellsI w l x cs) (h':CellsI w r y ds):CellsI w (l++r) (joinL x y) (cs++ds):=by
 refine⟨by simp[h.1,h'.1],λβ i hi=> ?_⟩
 have e:=qk5 (x:=x) (y:=y);have hlen:(encL ShC.Val ShC.enc l x).length=cs.length:=by rw[Jw,h.1]
 have hi':i<(encL ShC.Val ShC.enc l x++encL ShC.Val ShC.enc r y).length:=by rw[<-e];exact hi
 have e2:(encL ShC.Val ShC.enc (l++r) (joinL x y))[i]=(encL ShC.Val ShC.enc l x++encL ShC.Val ShC.enc r y)[i]:=by simp only[e]
 rw[e2];by_cases hl:i<cs.length
 . rw[zC1 O];have:=h.2 β i O
   grind
 . rw[zZ1 O];have:=h'.2 β (i-(encL ShC.Val ShC.enc l x).length) (by simp at hi';omega)
   grind
def q4b {chk:TypeId->List ShC->Bool} {n:Nat} {good:Value->Prop}
 (ih: ∀t l cs x,chk t l=true->DataW.trod enc P w base spare held n t cs=some x->(∀v∈cs,good v)-> ∃v,CellsI w l v cs/\wfCL l v) (cs:List Value) (hg: ∀v∈cs,good v):
 ∀(fs:List Field) (off:Nat) (l:List ShC),q29 P chk fs off l=true->cs.length=off+l.length->(∀f∈fs,∃y,DataW.trod enc P w base spare held n f.type ((cs.drop f.offset).take (P.cellsOf f.type))=some y)->
  ∃v,CellsI w l v (cs.drop off)/\wfCL l v
 |[],off,l,h,hl,_=>by
  have:l=[]:=by simpa [q29]using h
  subst this;exact⟨(),⟨by simp[hl],λβ i hi=>by simp[encL]at hi⟩,trivial⟩
 |f::fs,off,l,h,hl,hf=>by
  simp only[q29,zF,decide_eq_true_eq]at h;obtain⟨⟨⟨h1,h2⟩,h3⟩,h4⟩:=h;obtain⟨y,hy⟩:=hf f mS;rw[h1]at hy;obtain⟨u,g1,g2⟩:=ih _ _ _ _ h3 hy (λv hv=>hg v (zq1 (zE1 hv)))
  obtain⟨v,q1,q2⟩:=q4b ih cs hg fs _ _ h4 (by grind) (λf hf'=>hf f (mT hf'))
  have hj:=g1.join q1;have hw:=qmz g2 q2;have e1:l.take (P.cellsOf f.type)++l.drop (P.cellsOf f.type)=l:=zQ1 ..;have e2:(cs.drop off).take (P.cellsOf f.type)++cs.drop (off+P.cellsOf f.type)=cs.drop off:=by rw[<-List.drop_drop,zQ1]
  rw[e2]at hj
  have fin: ∀{l':List ShC} {z:valL ShC.Val l'},l'=l->CellsI w l' z (cs.drop off)->wfCL l' z-> ∃v,CellsI w l v (cs.drop off)/\wfCL l v:=by
   intro l' z e h7 h8;subst e;exact⟨z,h7,h8⟩
  exact fin e1 hj hw
def q3v: ∀(m:Nat) (t:TypeId) (l:List ShC) (fuel:Nat) (cs:List Value) (x:DataW H×List MemPlace),ctChk P m t l=true->DataW.trod enc P w base spare held fuel t cs=some x->
 (∀v∈cs,∀a len cap,v= .slice (some a) len cap->a.spot=none/\a.block<w.heap.size)-> ∃v,CellsI w l v cs/\wfCL l v
 |0,_,_,_,_,_,h,_,_=>by cases h
 |m+1,t,l,fuel,cs,x,h,ht,hok=>by
  unfold ctChk at h;split at h
  . rename_i k hu;split at h
    . rename_i k';have:k'=k:=by simpa using h
      subst this;obtain⟨n,rfl,rfl,wn⟩:=DataW.trod_int hu ht
      exact⟨(n,()),⟨rfl,λβ i hi=>by
       have:i=0:=by simp[encL]at hi;omega
       subst this;rfl⟩,wn,trivial⟩
    . cases h
  . rename_i hu;split at h
    . obtain⟨b,rfl,rfl⟩:=DataW.trod_bool hu ht
      exact⟨(b,()),⟨rfl,λβ i hi=>by
       have:i=0:=by simp[encL]at hi;omega
       subst this;rfl⟩,trivial,trivial⟩
    . cases h
  . rename_i e hu;split at h
    . rename_i ty;simp only[zF,decide_eq_true_eq]at h
      have hcs: ∃v,cs=[v]:=by
       rcases Deep.open_slice hu ht with⟨hcs,_⟩|⟨a,len,cap,mm,n,D,Pl,hcs,_⟩
       . exact⟨_,hcs⟩
       . exact⟨_,hcs⟩
      obtain⟨v,rfl⟩:=hcs;obtain⟨xs,h1,h2,h3⟩:=qq5 hu h.2 h.1 ht (hok v mS)
      exact⟨(xs,()),⟨rfl,λβ i hi=>by
       have:i=0:=by simp[encL]at hi;omega
       subst this;exact h1⟩,⟨h2,h3⟩,trivial⟩
    . cases h
  . rename_i fs hu;simp only[zF,decide_eq_true_eq]at h;obtain⟨hl,n,rfl,xs,hxs⟩:=Jb hu ht;have:=q4b (n:=n) (λt l cs x hc hx hg=>q3v m t l n cs x hc hx hg) cs hok fs.toList 0 l h.2 (by rw[hl,h.1];omega) (q9b hxs)
    simpa using this
  . cases h
def wfSh:(s:Sh)->s.Val->Prop
 | .a (.c s),x=>wfC s x
 | .a (.agg l),x=>wfCL l x
 |_,_=>True
def qb4:(l:List Sh)->Qv l->Prop
 |[],_=>True
 |s::r,x=>wfSh s x.1/\qb4 r x.2
def q2x (P:Program) (t:TypeId):Bool:=match P.underlying t with
 |some (.struct _)=>true
 |_=>false
def qiy (P:Program) (t:TypeId):Sh->Bool
 | .a (.c s)=> !q2x P t&&ctChk P 9 t [s]
 | .a (.agg l)=>q2x P t&&ctChk P 9 t l
 |_=>false
def q99 (P:Program):List TypeId->List Sh->Bool
 |[],[]=>true
 |t::ts,s::ss=>qiy P t s&&q99 P ts ss
 |_,_=>false
def okW {t:TypeId} {v:Value} (h:Cell.okWide P w .any base t v) (hn:(∃a len cap,v= .slice a len cap)\/(∃cs,v= .agg cs)\/ ∃cs,v= .tuple cs):Cell.ok P w .any base t v:=by
 unfold Cell.okWide at h
 grind
def ok_slice {t:TypeId} {a:Addr} {len cap:Nat} (h:Cell.okWide P w .any base t (.slice (some a) len cap)): ∃e,w.has P .any base a e cap:=by
 have h:=okW h (.inl ⟨_,_,_,rfl⟩);unfold Cell.ok at h
 grind
def q5c {t:TypeId} {c:Value} (h:Cell.okWide P w .any base t c): ∀a len cap,c= .slice (some a) len cap->a.spot=none/\a.block<w.heap.size:=by
 rintro a len cap rfl
 obtain⟨e,_,h2,row,cells,h3,_⟩:=ok_slice h;refine⟨h2,?_⟩;unfold World.shape? at h3
 grind
def qhc {t:TypeId} {cs:Array Value} (h:Cell.okWide P w .any base t (.agg cs)):False:=by
 have h:=okW h (.inr (.inl ⟨_,rfl⟩));unfold Cell.ok at h
 grind
def qid {t:TypeId} {cs:Array Value} (h:Cell.okWide P w .any base t (.tuple cs)):False:=by
 have h:=okW h (.inr (.inr ⟨_,rfl⟩));unfold Cell.ok at h
 grind
def qix {t:TypeId} {s:Sh} {v:Value} {d:DataW H} {ps:List MemPlace} (hc:qiy P t s=true) (h:DataW.Trod enc P w base spare held t v d ps) (hok:Value.okWide P w .any base t v):
 ∃x:s.Val,wfSh s x/\ ∀β,Rel β nobody w (s.enc x) v:=by
 obtain⟨fuel,h⟩:=h;unfold qiy at hc;split at hc
 . rename_i s0;simp only[zF,Bool.not_eq_true']at hc
   have hna: ∃u,v.cells.toList=[u]/\v=u/\Cell.okWide P w .any base t u:=by
    unfold Value.okWide at hok;unfold q2x at hc;split at hok
    . grind
    . rename_i n e hu;have h2:=hc.2;unfold ctChk at h2;rw[hu]at h2;simp at h2
    . refine⟨v,?_,rfl,hok⟩;cases v<;>first|rfl|exact(qhc hok).elim|exact(qid hok).elim
   obtain⟨u,hu1,rfl,hu2⟩:=hna;rw[hu1]at h
   obtain⟨x,⟨_,h1⟩,h2⟩:=q3v 9 t [s0] fuel _ _ hc.2 h (λy hy=>by
    obtain rfl:=zA.1 hy;exact q5c hu2)
   refine⟨x.1,h2.1,λβ=> ?_⟩
   have hr:=h1 β 0 (by simp[encL])
   simp only[List.getD,List.getElem?_cons_zero,zu1]at hr;cases s0<;>exact hr
 . rename_i l;simp only[zF]at hc
   have hag: ∃cs,v= .agg cs/\Row.okWide P w .any base t cs:=by
    unfold Value.okWide at hok;have h1:=hc.1;unfold q2x at h1;split at h1
    . grind
    . cases h1
   obtain⟨cs,rfl,ts,_,_,hrow⟩:=hag;have e:(Value.agg cs).cells.toList=cs.toList:=rfl;rw[e]at h
   obtain⟨x,⟨hl,h1⟩,h2⟩:=q3v 9 t l fuel _ _ hc.2 h (λy hy=>by
    obtain⟨i,hi,hiy⟩:=zi hy;obtain⟨u,_,hu⟩:=hrow i y (by rw[<-hiy];simp)
    exact q5c hu)
   refine⟨x,h2,λβ=>⟨cs,rfl,by rw[Jw];simpa using hl,λj hj=> ?_⟩⟩
   have:=h1 β j hj;simpa [List.getD,Array.getD_eq_getD_getElem?]using this
 . cases hc
def q8i: ∀{ts:List TypeId} {ss:List Sh} {vs:List Value} {ds:List (DataW H)} {ps:List MemPlace},q99 P ts ss=true->DataW.TrodAll enc P w base spare held ts vs ds ps->
 (∀(j:Nat) (t:TypeId) (v:Value),ts[j]? =some t->vs[j]? =some v->Value.okWide P w .any base t v)->ds.length=ss.length/\
 ∃x:Qv ss,qb4 ss x/\vs.length=ss.length/\ ∀β i (h:i<(encS ss x).length),Rel β nobody w (encS ss x)[i] (vs.getD i undef)
 |[],[],vs,ds,ps,_,h,_=>by
  obtain⟨rfl,rfl,_⟩:=trodAll_nil h;exact⟨rfl,(),trivial,rfl,λβ i hi=>by simp[encS,encL]at hi⟩
 |t::ts,s::ss,vs,ds,ps,hc,h,hok=>by
  simp only[q99,zF]at hc;obtain⟨v,vs',d,ds',p,q,rfl,rfl,rfl,h1,h2⟩:=trodAll_cons h;obtain⟨x,g1,g2⟩:=qix hc.1 h1 (hok 0 t v rfl rfl);obtain⟨e0,y,q1,q2,q3⟩:=q8i hc.2 h2 (λj t v a b=>hok (j+1) t v (by simpa using a) (by simpa using b))
  refine⟨by simp[e0],(x,y),⟨g1,q1⟩,by simp[q2],λβ i hi=> ?_⟩
  cases i with
  |zero=>exact g2 β
  |succ i=>exact q3 β i (by simpa [encS,encL]using hi)
 |[],_::_,_,_,_,h,_,_=>by cases h
 |_::_,[],_,_,_,h,_,_=>by cases h
def immC':ShC->Bool
 | .int _| .bool| .imm _=>true
 |_=>false
def immSh:Sh->Bool
 | .a (.c s)=>immC' s
 | .a (.agg l)=>l.all immC'
 |_=>false
def q8j {s:ShC} {x:s.Val} (h:immC' s=true):qc (s.enc x)=[]/\Yd (s.enc x)=true:=by
 cases s<;>first|exact⟨rfl,rfl⟩|cases h
def q8x: ∀{l:List ShC} {x:valL ShC.Val l},l.all immC'=true->(encL ShC.Val ShC.enc l x).flatMap qc=[]/\(encL ShC.Val ShC.enc l x).all Yd=true
 |[],_,_=>⟨rfl,rfl⟩
 |s::r,x,h=>by
  simp only[zQ2,zF]at h;obtain⟨a,b⟩:=q8j (x:=x.1) h.1;obtain⟨c,d⟩:=q8x (x:=x.2) h.2;simp[encL,a,b,c,d]
def qdn {s:Sh} {x:s.Val} (h:immSh s=true):names (s.enc x)=[]/\noRef (s.enc x)=true:=by
 unfold immSh at h;split at h
 . rename_i s0;obtain⟨a,b⟩:=q8j (x:=x) h;cases s0<;>first|exact⟨a,b⟩|cases h
 . exact q8x h
 . cases h
def q8n: ∀{ss:List Sh} {x:Qv ss},ss.all immSh=true->(encS ss x).flatMap names=[]/\(encS ss x).all noRef=true
 |[],_,_=>⟨rfl,rfl⟩
 |s::r,x,h=>by
  simp only[zQ2,zF]at h;obtain⟨a,b⟩:=qdn (x:=x.1) h.1;obtain⟨c,d⟩:=q8n (ss:=r) (x:=x.2) h.2;simp only[encS]at c d;simp[encS,encL,a,b,c,d]
def qht {ts:List TypeId} {vs:List Value} {ds:List (DataW H)} {ps:List MemPlace} (h:DataW.TrodAll enc P w base spare held ts vs ds ps): ∀p∈ps,p.block<w.heap.size:=by
 induction ts generalizing vs ds ps with
 |nil=>obtain⟨_,_,rfl⟩:=trodAll_nil h;intro p hp;cases hp
 |cons t ts ih=>
  obtain⟨v,vs',d,ds',p,q,rfl,rfl,rfl,⟨m,hm⟩,h2⟩:=trodAll_cons h;intro x hx;rcases zL.1 hx with hx|hx
  . exact DataW.trod_lt m _ _ _ hm x hx
  . exact ih h2 x hx
def q2n {w':World} (hl:laidOutB P=true) (hb: ∀k,k<w.heap.size->w'.heap[k]? =w.heap[k]?):
 ∀{ts:List TypeId} {vs:List Value} {ds:List (DataW H)} {ps:List MemPlace},ts.all (λt=>P.readableRec t&&decide (t<P.types.size))=true->DataW.TrodAll enc P w 0 (λ_=>true) true ts vs ds ps->
 DataW.TrodAll enc P w' 0 (λb=>decide (b<w.heap.size)) true ts vs ds ps
 |[],vs,ds,ps,_,h=>by obtain⟨rfl,rfl,rfl⟩:=trodAll_nil h;exact rfl
 |t::ts,vs,ds,ps,hr,h=>by
  simp only[zQ2,zF,decide_eq_true_eq]at hr;have hlt:=qht h;obtain⟨v,vs',d,ds',p,q,rfl,rfl,rfl,h1,h2⟩:=trodAll_cons h;have hlt1: ∀x∈p,x.block<w.heap.size:=λx hx=>hlt x (zQ _ hx)
  refine trodAll_cons_mk (WideElems.Trod_stays hl hr.1.1 hr.1.2 h1 (λx hx=> ?_) (λx hx=>by simpa using hlt1 x hx)) (q2n hl hb (by simpa using hr.2) h2)
  cases x with
  |cell b o=>exact World.cell?_of_block (w:=w) (hb b (hlt1 _ hx))
  |map b=>exact hb b (hlt1 _ hx)
def qbp {f:FuncId} {fn:Func} {s:ChangeSpec} {apart fresh handsOn:Bool} {ss:List Sh} {tb:TypeId} (hl:laidOutB P=true) (hread:fn.params.toList.all (λt=>P.readableRec t&&decide (t<P.types.size))=true)
 (hchk:q99 P fn.params.toList ss=true) (himm:ss.all immSh=true) (hvars:s.vars=[]) (hres:fn.resultTypes= #[tb]) (htb:P.underlying tb=some .bool)
 (hs: ∀ds:List (DataW H),ds.length=ss.length->s.fn H ds={results:=[.lit (.bool true)],args:=ds})
 (HC: ∀x:Qv ss,qb4 ss x-> ∃outs,Xl P f (encS ss x) (.bool true) outs) {vs:Array Value} {ds gs:List (DataW H)} {before:List MemPlace}
 (hval: ∀(j:Nat) t v,fn.params[j]? =some t->vs[j]? =some v->Value.okWide P w .any base t v) (hW:DataW.Whole enc P fn.params.toList s.vars apart w vs.toList ds gs before) (hG:GlobOK P nobody w):
 Calls P f vs w λe w'=> ∃v,e= .returned v/\s.post enc P fn apart fresh handsOn false w vs v w':=by
 have hW':=hW;obtain⟨p,q,hA,hV,rfl,hfz,hnd⟩:=hW
 have hgs:gs=[]/\q=[]:=by
  rw[hvars]at hV;cases gs with
  |nil=>exact⟨rfl,hV⟩
  |cons g gs=>exact hV.elim
 obtain⟨rfl,rfl⟩:=hgs;obtain⟨hds,x,hx,hlen,hrel⟩:=q8i hchk hA (λj t v a b=>hval j t v (by simpa using a) (by simpa using b))
 obtain⟨outs,_,hcall⟩:=HC x hx;obtain⟨hn,hr⟩:=q8n (x:=x) himm;have e0:(encS ss x).length=ss.length:=Jw
 refine(hcall (λ_=>undef) nobody w vs (by rw[e0,<-hlen];simp) (λi hi=>by
  have:=hrel (λ_=>undef) i hi
  simp_all) (by grind) (by rw[hn];simp) (Zg hr) (λb n h=>by cases h) hG).mono λe w' hp=> ?_
 obtain⟨c,β',who',rfl,p0,p1,p2,p3,p4,p5,p6,p7,p8,p9,p10,p11,p12⟩:=hp;have hb: ∀k,k<w.heap.size->w'.heap[k]? =w.heap[k]? :=λk hk=>p7 k hk (.inl rfl)
 have hc:c= .bool true:=p1;subst hc;refine⟨_,rfl,ds,[],_,[],p,[],hW',?_,?_,?_,⟨p11,p12,λi hi=> ?_⟩,λh=>by cases h⟩
 . rw[hres,zL1,hs ds hds];exact trodAll_mk1 (shut_bool htb _)
 . rw[zL1,hs ds hds];exact q2n hl hb hread hA
 . rw[hvars,zL1,hs ds hds];rfl
 . grind
def qfy {α β:Type} {f:α->Option β}: ∀{l:List α} {r:List β},l.mapM f=some r-> ∀i (h:i<l.length),∃y,f l[i]=some y/\r[i]? =some y
 |[],r,h,i,hi=>by simp at hi
 |a::l,r,h,i,hi=>by
  rw[zb3]at h;cases ha:f a with
  |none=>rw[ha]at h;cases h
  |some y=>
   rw[ha]at h;cases hl:l.mapM f with
   |none=>simp[hl]at h
   |some ys=>
    simp[hl]at h;subst h;cases i with
    |zero=>exact⟨y,ha,rfl⟩
    |succ i=>
     obtain⟨z,g1,g2⟩:=qfy hl i (by simpa using hi)
     grind
def qn8 {H:Type} {enc:TypeId×Value->H} {spare:Nat->Bool} {held:Bool} {fuel:Nat} {t e n:Nat} {k:IntKind} {cs:List Value} {xs:LI} {p:List MemPlace} (hu:P.underlying t=some (.array n e)) (he:P.underlying e=some (.int k)) (hc:P.cellsOf e=1)
 (h:DataW.trod enc P w base spare held fuel t cs=some (.agg (xs.map λx=> .lit (.int k x)),p)): ∀i (h:i<xs.length),cs[i]? =some (.int k xs[i]):=by
 cases fuel with
 |zero=>simp[DataW.trod]at h
 |succ m=>
  unfold DataW.trod at h;rw[hu]at h
  have key:(if cs.length=P.cellsOf t then((List.range n).mapM λi=>DataW.trod enc P w base spare held m e ((cs.drop (i*P.cellsOf e)).take (P.cellsOf e))).map λxs=>((.agg (xs.map (·.1)):DataW H),xs.flatMap (·.2))else none)=some (.agg (xs.map λx=> .lit (.int k x)),p):=by
   split at h<;>first|exact h|simp_all
  split at key
  . obtain⟨ys,hys,e1⟩:=zO2.1 key;simp only[zC3,DataW.agg.injEq]at e1;obtain⟨e1,_⟩:=e1;intro i hi;have hlen:ys.length=xs.length:=by have:=congrArg List.length e1;simpa using this
    have hln:ys.length=n:=by have:=mapM_some_length hys;simpa using this
    obtain⟨y,g1,g2⟩:=qfy hys i (by simp;omega)
    rw[List.getElem_range,hc,zk1]at g1;obtain⟨z,q1,q2,_⟩:=DataW.trod_int he g1;have e2:(ys.map (·.1))[i]? =(xs.map λx=>(DataW.lit (.int k x):DataW H))[i]? :=by rw[e1]
    rw[List.getElem?_map,g2,List.getElem?_map,List.getElem?_eq_getElem hi]at e2;simp only[zf1,zH]at e2;rw[q2]at e2;simp only[DataW.lit.injEq,Lit.int.injEq,true_and]at e2
    have e3:(cs.drop i)[0]? =some (.int k z):=by
     have:((cs.drop i).take 1)[0]? =some (.int k z):=by rw[q1];rfl
     rwa [List.getElem?_take_of_lt O]at this
    rw[List.getElem?_drop,zV]at e3;rw[e3,e2]
  . cases key
def qn2 {g:Nat} {k:IntKind} {xs:LI} {name:String} {t e n:Nat} (ht:qg9 P=[(g,k,xs)]) (hn:P.globalNamed name=some g) (hg:(P.globals[g]?).map (·.type)=some t) (hu:P.underlying t=some (.array n e)) (he:P.underlying e=some (.int k)) (hc:P.cellsOf e=1) (h0:0<xs.length)
 {d:DataW Unit} (hd:d= .agg (xs.map λx=> .lit (.int k x))) (hh:d.handleName? =none) (h:laidMetH P [(name,d)] w):GlobOK P nobody w:=by
 have h':laidMet P [(name,d)] w:=by
  unfold laidMetH at h;simpa [hh]using h
 obtain⟨ps,⟨g',t',cs,fuel,p,q,a1,a2,a3,a4,_,_⟩,_,hcell⟩:=h';have:g'=g:=zD3 (a1.symm.trans hn);subst this;have:t'=t:=zD3 (a2.symm.trans hg);subst this;rw[hd]at a4;have hcs:=qn8 hu he hc a4
 have hc2: ∀i (h:i<xs.length),w.cell? ⟨g',i,none⟩=some (.int k xs[i]):=λi hi=>by
  have:=World.var?_cell hn a3 i
  grind
 intro x hx;rw[ht]at hx;obtain rfl:=zA.1 hx;refine⟨rfl,?_,hc2⟩;have:=hc2 0 h0;unfold World.cell? at this;rcases zq g' w.heap.size with h|h
 . exact h
 . grind
end
end Go.Vs
