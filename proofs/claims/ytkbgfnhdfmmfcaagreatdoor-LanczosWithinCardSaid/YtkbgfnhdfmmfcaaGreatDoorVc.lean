import Derived.Test.YtkbgfnhdfmmfcaaGreatDoorVd
import Derived.Scope
import Derived.KernelRfl
import Derived.ProofKit
import Derived.OpenShut
import Derived.Deep.Slices
set_option linter.unusedVariables false
set_option linter.unusedSimpArgs false
set_option linter.unusedSectionVars false
set_option linter.defProp false
namespace Go.Vs
def xY {p u:Nat->Bool} {l:List Nat} (hs: ∀j,u j=true->p j=true) {i:Nat} (J:i∈l) (K:p i=true) (h2:u i=false):(l.filter u).length<(l.filter p).length:=by have le: ∀l:List Nat,(l.filter u).length<=(l.filter p).length:=by{intro l;induction l with|nil=>simp|cons x l G=>{grind}};induction l with|nil=>cases J|cons x l G=>{grind}
section
variable {P:Program} {CO:Q7} {T:TT} {E:ba} {D:Nat->Prop} {β β':aU} {who who':bp} {U U':ao} {a:Act} {w w':World}
variable {N:Nat} {pins:List Nat}
def eX.states {ops:Array Oper} {J:List (Nat×Nat)} {l:List Oper} {i:Nat} {G:List (List Nat×List Nat)} (h:eX CO T N pins ops J l i U G U'):
 ∃st:Nat->ao,st 0=U/\st l.length=U'/\G.length=l.length/\
  ∀j (h:j<l.length),∃u,aw CO (pL T N pins ops (i+j) (pd J (i+j)) l[j]) (st j) u (st (j+1)) (G.getD j ([],[])).1 (G.getD j ([],[])).2:=by induction h with| @nil i U=>exact⟨λ_=>U,rfl,rfl,rfl,λj h=>absurd h (zC _)⟩| @cons o r i U U1 U2 u R W Ls h1 _ K=>{obtain⟨st,e1,e2,O,e4⟩:=K;refine⟨λj=>match j with|0=>U|j+1=>st j,rfl,e2,by simp[O],λj hj=> ?_⟩;grind}
def tO.getD {u:List tM} {G:List (List Nat×List Nat)} (h:tO u G) (j:Nat):(∀s∈(G.getD j ([],[])).1,s∈(u.getD j ([],[])).1)/\ ∀s∈(G.getD j ([],[])).2,s∈(u.getD j ([],[])).2:=by induction G generalizing u j with|nil=>grind|cons F G J=>{cases u with|nil=>exact h.elim|cons L u=>{obtain⟨O,h2,K⟩:=h;cases j with|zero=>exact⟨O,h2⟩|succ j=>exact J K j}}
def q5e: ∀{l:List Oper} {i:Nat},PQ l i=true-> ∀j (h:j<l.length),∀e∈l[j].after,Region.binds .any e=true->e.on<i+j
 |o::r,i,h,j,u,e,he,G=>by simp only[PQ,zK]at h;cases j with|zero=>{grind}|succ j=>{have:=q5e h.2 j (by simpa using u) e he G;omega}
def q86 {x y:List Nat} (h:vn x y=true): ∀s∈x,s∉y:=λs hs u=>by have:=zq.1 h s hs;simp[u]at this
def qlf (hT:bL P T) (hC: ∀f as r os,CO f as r os->Xy P f as r os) (hE:vy P E N pins) {ops:Array Oper} {md:List (Nat×Nat)} (hD: ∀n,D n->n<100) (hDF: ¬D FN)
 {Q:Exit->Act->World->Prop} {Fs:List (List Nat×List Nat)} {Ls:List tM} (h:eX CO T N pins ops md ops.toList 0 U Fs U') (hh:tO Ls Fs) (hok:Pe ops.toList Ls=true)
 (S:aC E D β who U [] a w) (hn: ∀a' w' β' who',aC E (KT D ops.size) β' who' U' [] a' w'->Q .normal a' w'):
 wpAny P .any ops Q ops.size (Array.replicate ops.size false) a w:=by obtain⟨st,s0,sn,_,hst⟩:=h.states;have hlen:ops.toList.length=ops.size:=by{simp};rw[hlen]at sn;simp only[Pe,zK]at hok;obtain⟨hedge,hpair⟩:=hok;let Rg:Nat->List Nat:=λj=>(Fs.getD j ([],[])).1;let Wg:Nat->List Nat:=λj=>(Fs.getD j ([],[])).2;let anc:Nat->List Nat:=λj=>(vu ops.toList 0 []).getD j [];have hrun: ∀j (h:j<ops.size),∃u,aw CO (pL T N pins ops j (pd md j) ops[j]) (st j) u (st (j+1)) (Rg j) (Wg j):=λj hj=>by{grind};have hfr: ∀j,j<ops.size-> ∀s,s∉Wg j->vw (st (j+1)) s=vw (st j) s:=λj hj s hs=>by{obtain⟨u,hu⟩:=hrun j hj;exact hu.frame s hs};have hconf: ∀i j,i<j->j<ops.size->i∈anc j\/((∀s∈Rg i,s∉Wg j)/\ ∀s∈Rg j,s∉Wg i):=λi j hij hj=>by{have:=zq.1 (zq.1 hpair j (by simpa using hj)) i (by simpa using hij);simp only[XR,GF,zK]at this;rcases this with h|⟨h1,h2⟩;{grind};{have gi:=hh.getD i;have gj:=hh.getD j;exact .inr ⟨λs hs hw=>q86 h1 s (gi.1 s hs) (gj.2 s hw),λs hs hw=>q86 h2 s (gj.1 s hs) (gi.2 s hw)⟩}};have hedge': ∀j (h:j<ops.size),∀e∈ops[j].after,Region.binds .any e=true->e.on<j:=λj hj e he hb=>by{have:=q5e hedge j (by rw[hlen];exact hj) e (by simpa using he) hb;omega};have hready: ∀(listed:Array Bool),listed.size=ops.size-> ∀i,i∈Region.ready .any ops listed↔ ∃h:i<ops.size,listed.getD i true=false/\ ∀e∈ops[i].after,Region.binds .any e=true->listed.getD e.on false=true:=λlisted hl i=>by{unfold Region.ready;simp only[Lb,vH,zK,Bool.not_eq_true'];constructor;{rintro ⟨h1,h2,h3⟩;refine⟨h1,h2,λe he hb=> ?_⟩;simp only[h1,Array.getElem?_eq_getElem,yo,yq,Array.all_eq_true_iff_forall_mem]at h3;have:=h3 e he;simpa [hb]using this};grind};have gD: ∀(listed:Array Bool) i,i<listed.size->(listed.getD i true=false↔ ¬listed.getD i false=true):=λlisted i hi=>by{simp[Array.getD,hi]};have hall: ∀(listed:Array Bool),listed.size=ops.size->Region.ready .any ops listed=[]-> ∀i,i<ops.size->listed.getD i false=true:=λlisted hl hr i=>by{induction i using Nat.strongRecOn with|_ i ih=>{grind}};have main: ∀(fuel:Nat) (listed:Array Bool) (τ:ao) (β:aU) (who:bp) (a:Act) (w:World),listed.size=ops.size-> ((List.range ops.size).filter λi=> !listed.getD i true).length<=fuel-> (∀j,j<ops.size->listed.getD j false=true-> ∀k∈C8 ops.toList j,listed.getD k false=true)-> (∀s,jv st Wg ops.size (λj=>listed.getD j false=true) s (vw τ s))-> aC E (λn=>D n\/ ∃j k,listed.getD j false=true/\k<16/\n=fresh j k) β who τ [] a w-> wpAny P .any ops Q fuel listed a w:=by{have done: ∀(listed:Array Bool) (τ:ao) (β:aU) (who:bp) (a:Act) (w:World),listed.size=ops.size->(∀i,i<ops.size->listed.getD i false=true)-> (∀s,jv st Wg ops.size (λj=>listed.getD j false=true) s (vw τ s))-> aC E (λn=>D n\/ ∃j k,listed.getD j false=true/\k<16/\n=fresh j k) β who τ [] a w->Q .normal a w:=by{intro listed τ β who a w hl hA hL hS;refine hn a w β who ((hS.ext (U':=U') λs=> ?_).mono (λn hn=> ?_) (quu hDF));{rw[<-sn];have:=(jv.canon hfr ops.size (zI _)).uniq ((hL (32*s)).congr λj hj _=>⟨λ_=>hj,λ_=>hA j hj⟩);rw[xj,xj]at this;injection this};{rcases hn with h|⟨j,k,h1,h2,h3⟩;{exact .inl h};{refine .inr ⟨j,k,?_,h2,h3⟩;grind}}};intro fuel;induction fuel with|zero=>{intro listed τ β who a w hl hf hc hL hS;have hnil:Region.ready .any ops listed=[]:=by{cases hr:Region.ready .any ops listed with|nil=>rfl|cons x xs=>{exfalso;obtain⟨h1,h2,_⟩:=(hready listed hl x).1 (by rw[hr];exact mS);simp_all}};exact⟨hnil,done listed τ β who a w hl (hall listed hl hnil) hL hS⟩}|succ fuel ih=>{intro listed τ β who a w hl hf hc hL hS;refine⟨λhnil=>done listed τ β who a w hl (hall listed hl hnil) hL hS,λi hi=> ?_⟩;obtain⟨hlt,hun,haft⟩:=(hready listed hl i).1 hi;have hnS: ¬listed.getD i false=true:=(gD listed i O).1 hun;have hpr: ∀k∈C8 ops.toList i,listed.getD k false=true:=λk hk=>by{simp only[C8,Array.getElem?_toList,hlt,Array.getElem?_eq_getElem]at hk;simp only[jH,zk,Lb,zK,decide_eq_true_eq]at hk;grind};have hanc: ∀j,j<ops.size->(∀k∈C8 ops.toList j,listed.getD k false=true)-> ∀k∈anc j,listed.getD k false=true:=λj hj hp=> qeg (λj=>listed.getD j false=true) ops.toList (λj hj=>hc j (by rw[<-hlen];exact hj)) ops.toList 0 [] (λj=>by simp) rfl (λj hj=>absurd hj (zC _)) (by simp) j (by rw[hlen];exact hj) hp;obtain⟨u,hru⟩:=hrun i hlt;obtain⟨τ',g1,g2⟩:=qlv (S:=λj=>listed.getD j false=true) hlt hru hfr hconf hnS (hanc i hlt hpr) (λj hj hia=>by{grind}) hL;have hset: ∀j,(listed.setIfInBounds i true).getD j false=true↔(listed.getD j false=true\/j=i):=λj=>by{simp only[Array.getD_eq_getD_getElem?,Array.getElem?_setIfInBounds];grind};unfold wpOp;simp only[hlt,Array.getElem?_eq_getElem];refine q9k hT hC hE g1 hS (λk hk=> ?_) λa' w' β' who' S'=> ?_;{rintro (h|⟨j,k',h1,h2,h3⟩);{have:=hD _ h;simp only[fresh]at this;omega};{have:=q9x hk h2 h3;exact hnS (this.1▸h1)}};{refine ih (listed.setIfInBounds i true) τ' β' who' a' w' (by simp[hl]) ?_ (λj hj hs k hk=> ?_) (λs=> ?_) (S'.mono (λn hn=> ?_) ?_);{have:((List.range ops.size).filter λj=> !(listed.setIfInBounds i true).getD j true).length<((List.range ops.size).filter λj=> !listed.getD j true).length:=by{refine xY (i:=i) (λj h=> ?_) (vH.2 hlt) (by simp[hun]) ?_;{grind};{grind}};omega};{grind};{simp_all};{rcases hn with(h|⟨j,k,h1,h2,h3⟩)|⟨k,hk,h⟩;{exact .inl h};{exact .inr ⟨j,k,(hset j).2 (.inl h1),h2,h3⟩};grind};{rintro (h|⟨j,k,_,hk,e⟩);{exact hDF h};{simp only[FN,fresh]at e;omega}}}}};refine main ops.size (Array.replicate ops.size false) U β who a w (by simp) ?_ (λj hj hs=> ?_) (λs=> ?_) (S.mono (λn h=> .inl h) ?_);{grind};{simp[Array.getD,hj]at hs};{refine .inr ⟨λj hj hs=> ?_,by rw[s0]⟩;simp[Array.getD,hj]at hs};{rintro (h|⟨j,k,hj,hk,e⟩);{exact hDF h};{simp only[FN,fresh]at e;omega}}
end
def qb4: ∀(l:List Nat) (s:Nat),(fB l).testBit s=l.contains s
 |[],s=>by simp[fB]
 |x::r,s=>by show(2^x|||fB r).testBit s=_;rw[UK,qb4 r s,Co,List.contains_cons];grind
def qy2 (A i:Nat):Nat.beq (Nat.land (Nat.shiftRight A i) 1) 1=A.testBit i:=by show Nat.beq ((A>>>i)&&&1) 1=A.testBit i;rw[Nat.testBit,Nat.and_comm 1];have:(A>>>i)&&&1=0\/(A>>>i)&&&1=1:=by{rw[Nat.and_one_is_mod];omega};rcases this with h|h<;>rw[h]<;>rfl
def qdc {a b:List Nat} (h:Nat.beq (Nat.land (fB a) (fB b)) 0=true):vn a b=true:=by have h:(fB a)&&&(fB b)=0:=Nat.eq_of_beq_eq_true h;simp only[vn,zq,Bool.not_eq_true'];intro x G;have u:((fB a)&&&(fB b)).testBit x=false:=by{rw[h];simp};rw[La,qb4,qb4]at u;grind
def qem {acc:List (List Nat)} {u:List Nat} (J:u.length=acc.length) (h: ∀j i,(u.getD j 0).testBit i=(acc.getD j []).contains i): ∀(G:List Nat) (i:Nat),
 (mF G u).testBit i=(G.flatMap λj=>j::acc.getD j []).contains i
 |[],i=>by simp[mF]
 |k::G,i=>by show((2^k|||u.getD k 0)|||mF G u).testBit i=_;rw[UK,UK,qem J h G i,h,Co,fC];grind
def qjo: ∀(r:List Oper) (n:Nat) (acc:List (List Nat)) (u:List Nat),u.length=acc.length->(∀j i,(u.getD j 0).testBit i=(acc.getD j []).contains i)->
 (Gy r n u).length=(vu r n acc).length/\ ∀j i,((Gy r n u).getD j 0).testBit i=((vu r n acc).getD j []).contains i
 |[],n,acc,u,G,h=>⟨G,h⟩
 |o::r,n,acc,u,G,h=>by refine qjo r (n+1) _ _ (by simp[G]) λj i=> ?_;rcases Nat.lt_trichotomy j acc.length with J|J|J;{have:=h j i;simp only[List.getD,List.getElem?_append_left J,List.getElem?_append_left (G▸J:j<u.length)];simpa [List.getD]using this};{subst J;have K:(u++[mF (jH o n) u]).getD acc.length 0=mF (jH o n) u:=by{rw[<-G];simp[List.getD]};have e2:(acc++[(jH o n).flatMap λj=>j::acc.getD j []]).getD acc.length []=(jH o n).flatMap λj=>j::acc.getD j []:=by{simp[List.getD]};rw[K,e2];exact qem G h _ i};grind
def q7y {A R W:Nat} (f:Nat->Nat×Nat): ∀(l:List (Nat×Nat)) (k:Nat),l.length=k->(∀i,i<k->l[k-1-i]? =some (f i))->UT A R W l k=true->
 ∀i,i<k->A.testBit i=true\/(Nat.beq (Nat.land (f i).1 W) 0=true/\Nat.beq (Nat.land R (f i).2) 0=true)
 |[],k,G,J,h,i,K=>by simp at G;omega
 |p::r,0,G,J,h,i,K=>O
 |p::r,k+1,G,J,h,i,K=>by simp only[UT,zK,GF,qy2]at h;rcases gq i k with u|u;{refine q7y f r k (by simpa using G) (λj hj=> ?_) h.2 i u;have:=J j O;rw[show k+1-1-j=(k-1-j)+1 by omega]at this;simpa using this};grind
def q9n (f:Nat->Nat×Nat): ∀(u:List tM) (G:List Nat) (done:List (Nat×Nat)) (j:Nat),done.length=j->(∀i,i<j->done[j-1-i]? =some (f i))->
 (∀a (h:a<u.length),f (j+a)=(fB u[a].1,fB u[a].2))->rA u G done j=true->
 ∀a,a<u.length-> ∀i,i<j+a->(G.getD a 0).testBit i=true\/(Nat.beq (Nat.land (f i).1 (f (j+a)).2) 0=true/\Nat.beq (Nat.land (f (j+a)).1 (f i).2) 0=true)
 |[],G,done,j,J,hd,K,h,a,ha,i,hi=>by simp at ha
 |L::u,[],done,j,J,hd,K,h,a,ha,i,hi=>by simp[rA]at h
 |L::u,A::G,done,j,J,hd,K,h,a,ha,i,hi=>by simp only[rA,zK]at h;have f0:=K 0 (by simp);simp only[zS,Uy]at f0;cases a with|zero=>{have:=q7y f done j J hd h.1 i O;simpa [f0]using this}|succ a=>{have:=q9n f u G ((fB L.1,fB L.2)::done) (j+1) (by simp[J]) (λi hi=>by{rcases gq i j with h'|h';{rw[show j+1-1-i=(j-1-i)+1 by omega];simpa using hd i h'};{have:i=j:=O;subst this;rw[show i+1-1-i=0 by omega];simp[f0]}}) (λa' a0=>by{have:=K (a'+1) (by simpa using a0);rw[show j+1+a'=j+(a'+1) by omega,this];simp}) h.2 a (by simpa using ha) i O;grind}
def qe1 {ops:List Oper} {G:List tM} (h:ZF ops G=true):Pe ops G=true:=by simp only[ZF,zK]at h;obtain⟨h1,h2⟩:=h;simp only[Pe,h1,vG,zq,vH];intro j hj i hi;obtain⟨_,hb⟩:=qjo ops 0 [] [] rfl (λj i=>by simp);simp only[XR,GF,zK];rcases gq j G.length with u|u;{have:=q9n (λi=>(fB (G.getD i ([],[])).1,fB (G.getD i ([],[])).2)) G _ [] 0 rfl (λi h=>absurd h (zC _)) (λa ha=>by simp[List.getD,ha]) h2 j u i O;rcases this with h|⟨K,J⟩;{left;rw[hb]at h;exact h};{right;rw[zH]at K J;exact⟨qdc K,qdc J⟩}};{right;have:G.getD j ([],[])=([],[]):=by{simp[List.getD,u]};rw[this];simp[vn]}
def my:Nat->Prop:=λn=>n<99
def Ve: ¬my FN:=by simp[my,FN]
def Dh {g:AV->AV} (G:g .dead= .dead) (U:ao) (s:Nat):ao.get (U.map λx=>(x.1,g x.2)) s=g (U.get s):=by induction U with|nil=>simp[ao.get,G]|cons x r J=>{obtain⟨k,u⟩:=x;simp only[ui,ao.get];grind}
def qs8 (keep:List Nat) (U:ao) (s:Nat):(fS keep U).get s=if s∈keep then U.get s else .dead:=by unfold fS;induction keep with|nil=>simp[ao.get]|cons k r u=>{simp only[ui,ao.get,zu];grind}
def qhi {U:ao} {s n:Nat} (h:n∈ab (U.get s)):n∈NT U:=by induction U with|nil=>simp[ao.get,ab,qh,qc]at h|cons x r G=>{obtain⟨k,u⟩:=x;simp only[ao.get]at h;simp only[NT,fC,zZ];split at h;{exact .inl h};{exact .inr (G h)}}
def qlj {keep:List Nat} {U:ao} {n:Nat} (h:n∈NT (fS keep U)): ∃s,n∈ab (U.get s):=by simp only[NT,fS,zL,zk]at h;grind
section
variable {ns:List Nat}
def qai {c:AV}:qc (ct ns c)=(qc c).map (a8 ns):=by cases c with|sl o t xs=>{cases o<;>rfl}|ref s n sz w=>{simp only[ct];split<;>rfl}|ptr s n sz i j=>{simp only[ct];split<;>rfl}|dr s n k=>{simp only[ct];split<;>rfl}|_=>rfl
def q5k {cells:List AV}:(cells.map (ct ns)).flatMap qc=(cells.flatMap qc).map (a8 ns):=by induction cells with|nil=>rfl|cons c cs u=>simp[qai,u]
def Wm {v:AV}:qh (bJ ns v)=(qh v).map (a8 ns):=by cases v with|bx o cells=>{have:=q5k (ns:=ns) (cells:=cells);cases o<;>simp[bJ,qh,this]}|agg cells=>exact q5k (ns:=ns) (cells:=cells)|sl o t xs=>{have:=qai (ns:=ns) (c:= .sl o t xs);cases o<;>exact this}|ref s n sz w=>{simp only[bJ,ct];split<;>rfl}|ptr s n sz i j=>{simp only[bJ,ct];split<;>rfl}|dr s n k=>{simp only[bJ,ct];split<;>rfl}|_=>rfl
def qdb {v:AV}:ab (fin ns v)=(ab v).map (a8 ns):=by cases v with|tup vs=>{simp only[fin,ab];induction vs with|nil=>rfl|cons c cs ih=>simp[Wm,ih]}|sl o t xs=>{have:=Wm (ns:=ns) (v:= .sl o t xs);cases o<;>exact this}|bx o cells=>{have:=Wm (ns:=ns) (v:= .bx o cells);cases o<;>exact this}|agg cells=>exact Wm (ns:=ns) (v:= .agg cells)|ref s n sz w=>{simp only[fin,bJ,ct];split<;>rfl}|ptr s n sz i j=>{simp only[fin,bJ,ct];split<;>rfl}|dr s n k=>{simp only[fin,bJ,ct];split<;>rfl}|_=>rfl
def Js {c:AV} (h: ∀n∈qc c,n∈ns): ∀n∈aK (ct ns c),n<ns.length\/n=98:=by cases c with|sl o t xs=>{cases o with|nm m=>{intro n hn;simp only[ct,aK,zA]at hn;subst hn;exact .inl (Y8 (h m (by simp[qc])))}|_=>{intro n hn;cases hn}}|ref s m sz w=>{simp only[ct];split;{rename_i hc;intro n hn;simp only[aK,zA]at hn;subst hn;exact .inl (Y8 (x8.1 hc))};{intro n hn;cases hn}}|ptr s m sz i j=>{simp only[ct];split;{rename_i hc;intro n hn;simp only[aK,zA]at hn;subst hn;exact .inl (Y8 (x8.1 hc))};{intro n hn;cases hn}}|dr s m k=>{simp only[ct];split;{rename_i hc;intro n hn;simp only[aK,zA]at hn;subst hn;exact .inl (Y8 (x8.1 hc))};{intro n hn;cases hn}}|dp m t xs hh=>{intro n hn;simp only[ct,aK,zA]at hn;subst hn;exact .inl (Y8 (h m (by simp[qc])))}|dq m t xs hh=>{intro n hn;simp only[ct,aK,zA]at hn;subst hn;exact .inl (Y8 (h m (by simp[qc])))}|wn m t xs=>{intro n hn;simp only[ct,aK,zu,oG,or_false]at hn;rcases hn with rfl|rfl;{exact .inl (Y8 (h m (by simp[qc])))};{exact .inr rfl}}|_=>{intro n hn;cases hn}
def q1b {cells:List AV} (h: ∀n∈cells.flatMap qc,n∈ns): ∀n∈(cells.map (ct ns)).flatMap aK,n<ns.length\/n=98:=by intro n u;obtain⟨c,J,u⟩:=zL.1 u;obtain⟨d,G,rfl⟩:=zk.1 J;exact Js (λn u=>h n (zL.2 ⟨d,G,u⟩)) n u
def Zf {v:AV} (h: ∀n∈qh v,n∈ns): ∀n∈a9 (bJ ns v),n<ns.length\/n=98:=by cases v with|bx o cells=>{cases o with|nm m=>{intro n hn;simp only[bJ,a9,zu]at hn;rcases hn with rfl|hn;{exact .inl (Y8 (h m (by simp[qh])))};{exact q1b (λn hn=>h n (by simp only[qh];grind)) n hn}}|_=>exact q1b h}|agg cells=>exact q1b h|sl o t xs=>{have:=Js (ns:=ns) (c:= .sl o t xs) h;cases o<;>exact this}|ref s n sz w=>{have:=Js (ns:=ns) (c:= .ref s n sz w) h;simp only[bJ,ct]at*;split<;>simp_all[a9]}|ptr s n sz i j=>{have:=Js (ns:=ns) (c:= .ptr s n sz i j) h;simp only[bJ,ct]at*;split<;>simp_all[a9]}|dr s n k=>{have:=Js (ns:=ns) (c:= .dr s n k) h;simp only[bJ,ct]at*;split<;>simp_all[a9]}|dp n t xs hh=>exact Js (ns:=ns) (c:= .dp n t xs hh) h|wn n t xs=>exact Js (ns:=ns) (c:= .wn n t xs) h|dq n t xs hh=>exact Js (ns:=ns) (c:= .dq n t xs hh) h|_=>{intro n hn;cases hn}
def qwt {v:AV} (h: ∀n∈ab v,n∈ns): ∀n∈Vs.occ (fin ns v),n<ns.length\/n=98:=by cases v with|tup vs=>{intro n hn;simp only[fin,Vs.occ]at hn;obtain⟨c,hc,hn⟩:=zL.1 hn;obtain⟨d,hd,rfl⟩:=zk.1 hc;exact Zf (λn hn=>h n (zL.2 ⟨d,hd,hn⟩)) n hn}|sl o t xs=>{have:=Zf (ns:=ns) (v:= .sl o t xs) h;cases o<;>exact this}|bx o cells=>{have:=Zf (ns:=ns) (v:= .bx o cells) h;cases o<;>exact this}|agg cells=>exact Zf (ns:=ns) (v:= .agg cells) h|ref s n sz w=>{have:=Zf (ns:=ns) (v:= .ref s n sz w) h;simp only[fin,bJ,ct]at*;split<;>simp_all[Vs.occ]}|ptr s n sz i j=>{have:=Zf (ns:=ns) (v:= .ptr s n sz i j) h;simp only[fin,bJ,ct]at*;split<;>simp_all[Vs.occ]}|dr s n k=>{have:=Zf (ns:=ns) (v:= .dr s n k) h;simp only[fin,bJ,ct]at*;split<;>simp_all[Vs.occ]}|dp n t xs hh=>exact Zf (ns:=ns) (v:= .dp n t xs hh) h|wn n t xs=>exact Zf (ns:=ns) (v:= .wn n t xs) h|dq n t xs hh=>exact Zf (ns:=ns) (v:= .dq n t xs hh) h|_=>{intro n hn;cases hn}
end
section
variable {β β2:aU} {who bT:bp} {w:World} {ns:List Nat}
structure tQ (β:aU) (who:bp) (β2:aU) (bT:bp) (ns:List Nat):Prop where
 beta: ∀n∈ns,β2 (a8 ns n)=β n
 own: ∀n∈ns,∀b,who b=some n->bT b=some (a8 ns n)
 imm: ∀b,who b=none->bT b=none
 b98:β2 98=β 98
def aW.fin {c:AV} {v:Value} (k:tQ β who β2 bT ns) (hn: ∀n∈qc c,n∈ns) (h:aW β who w c v):aW β2 bT w (ct ns c) v:=by have im: ∀b,who b=none->b<w.heap.size->bT b=none/\w.heap[b]? =w.heap[b]? :=λb hb _=>⟨k.imm b hb,rfl⟩;cases c with|sl o t xs=>{cases o with|imm=>exact hO.keep im (zI _) h|nl=>exact h|inn=>exact h|nm n=>{have hin:=hn n (by simp[qc]);obtain⟨h1,h2⟩:=h;refine⟨by rw[k.beta n hin];exact h1,?_⟩;rcases h2 with h2|⟨b,o,cap,arr,el,e1,e2,e3,e4,e5,e6⟩;{exact .inl h2};{exact .inr ⟨b,o,cap,arr,el,e1,e2,e3,e4,k.own n hin b e5,aT.keep im (zI _) rfl e6⟩}}}|ref s n sz win=>{simp only[ct];split;{rename_i hc;simp only[aW]at*;rw[k.beta n (x8.1 hc)];exact h};{trivial}}|ptr s n sz i j=>{simp only[ct];split;{rename_i hc;simp only[aW]at*;rw[k.beta n (x8.1 hc)];exact h};{trivial}}|dr s n kk=>{simp only[ct];split;{rename_i hc;simp only[aW]at*;rw[k.beta n (x8.1 hc)];cases kk with|lenw l=>{rcases h with⟨e,⟨e',_⟩|⟨_,_,_,e'⟩⟩<;>exact⟨e,by rw[<-e,e'];exact⟨_,_,_,rfl⟩⟩}|_=>exact h};{trivial}}|wn n t xs=>{have hin:=hn n (by simp[qc]);obtain⟨⟨h1,h2⟩,arr0,g1,g2⟩:=h;refine⟨⟨by rw[k.beta n hin];exact h1,?_⟩,arr0,by rw[k.b98];exact g1,g2⟩;rcases h2 with h2|⟨b,o,cap,arr,el,e1,e2,e3,e4,e5,e6⟩;{exact .inl h2};{exact .inr ⟨b,o,cap,arr,el,e1,e2,e3,e4,k.own n hin b e5,aT.keep im (zI _) rfl e6⟩}}|dq n t xs hh=>exact b9.map (k.beta n (hn n (by simp[qc]))) (λb hb=>⟨k.own n (hn n (by simp[qc])) b hb,rfl⟩) (λ_ _ _ _ _ he=>aT.keep im (zI _) rfl he) h|dp n t xs hh=>exact bu.map (k.beta n (hn n (by simp[qc]))) (λb hb=>⟨k.own n (hn n (by simp[qc])) b hb,rfl⟩) (λ_ _ _ _ he=>aT.keep im (zI _) rfl he) h|iptr g t xs i j=>{obtain⟨b,o,e1,e2,e3,e4,e5⟩:=h;exact⟨b,o,e1,e2,k.imm b e3,e4,aT.keep im (zI _) rfl e5⟩}|_=>exact h
def bg.fin {cells:List AV} {arr:Array Value} (k:tQ β who β2 bT ns) (G: ∀n∈cells.flatMap qc,n∈ns) (h:bg β who w cells arr):bg β2 bT w (cells.map (ct ns)) arr:=by refine⟨by simpa using h.1,λj J=> ?_⟩;have u:j<cells.length:=by{simpa using J};rw[qL];exact aW.fin k (λn h=>G n (zL.2 ⟨_,zW u,h⟩)) (h.2 j u)
def bG.fin {v:AV} {c:Value} (k:tQ β who β2 bT ns) (hn: ∀n∈qh v,n∈ns) (h:bG β who w v c):bG β2 bT w (bJ ns v) c:=by cases v with|bx o cells=>{cases o with|nm n=>{have hin:=hn n (by simp[qh]);obtain⟨h0,b,arr,el,e1,e2,e3,e4⟩:=h;exact⟨by rw[k.beta n hin];exact h0,b,arr,el,e1,e2,k.own n hin b e3,bg.fin k (λn h=>hn n (by simp only[qh];grind)) e4⟩}|_=>exact h.elim}|agg cells=>{obtain⟨arr,e1,e2⟩:=h;exact⟨arr,e1,bg.fin k hn e2⟩}|tup vs=>exact h.elim|dead=>trivial|bool b=>exact aW.fin (w:=w) (c:= .bool b) k hn h|int x n=>exact aW.fin (w:=w) (c:= .int x n) k hn h|lit u=>exact aW.fin (w:=w) (c:= .lit u) k hn h|sl o t xs=>{have:=aW.fin (w:=w) (c:= .sl o t xs) k hn h;cases o<;>exact this}|ref s n sz win=>{have:=aW.fin (w:=w) (c:= .ref s n sz win) k hn h;simp only[bJ,ct]at*;split<;>simp_all[bG]}|ptr s n sz i j=>{have:=aW.fin (w:=w) (c:= .ptr s n sz i j) k hn h;simp only[bJ,ct]at*;split<;>simp_all[bG]}|iptr g t xs i j=>exact aW.fin (w:=w) (c:= .iptr g t xs i j) k hn h|dp n t xs hh=>exact aW.fin (w:=w) (c:= .dp n t xs hh) k hn h|wn n t xs=>exact aW.fin (w:=w) (c:= .wn n t xs) k hn h|dq n t xs hh=>exact aW.fin (w:=w) (c:= .dq n t xs hh) k hn h|dr s n kk=>{have:=aW.fin (w:=w) (c:= .dr s n kk) k hn h;simp only[bJ,ct]at*;split<;>simp_all[bG]}
def br.fin {v:AV} {c:Value} (k:tQ β who β2 bT ns) (hn: ∀n∈ab v,n∈ns) (h:br β who w v c):br β2 bT w (Vs.fin ns v) c:=by cases v with|tup vs=>{obtain⟨arr,e1,e2,e3⟩:=h;refine⟨arr,e1,by simpa using e2,λj hj=> ?_⟩;have hj':j<vs.length:=by{simpa using hj};rw[qL];exact bG.fin k (λn h=>hn n (zL.2 ⟨_,zW hj',h⟩)) (e3 j hj')}|dead=>trivial|bool b=>exact bG.fin (w:=w) (v:= .bool b) k hn h|int x n=>exact bG.fin (w:=w) (v:= .int x n) k hn h|lit u=>exact bG.fin (w:=w) (v:= .lit u) k hn h|sl o t xs=>{have:=bG.fin (w:=w) (v:= .sl o t xs) k hn h;cases o<;>exact this}|bx o cells=>{have:=bG.fin (v:= .bx o cells) k hn h;cases o<;>exact this}|agg cells=>exact bG.fin (v:= .agg cells) k hn h|ref s n sz win=>{have:=bG.fin (w:=w) (v:= .ref s n sz win) k hn h;simp only[Vs.fin,bJ,ct]at*;split<;>simp_all[br]}|ptr s n sz i j=>{have:=bG.fin (w:=w) (v:= .ptr s n sz i j) k hn h;simp only[Vs.fin,bJ,ct]at*;split<;>simp_all[br]}|iptr g t xs i j=>exact bG.fin (w:=w) (v:= .iptr g t xs i j) k hn h|dp n t xs hh=>exact bG.fin (w:=w) (v:= .dp n t xs hh) k hn h|wn n t xs=>exact bG.fin (w:=w) (v:= .wn n t xs) k hn h|dq n t xs hh=>exact bG.fin (w:=w) (v:= .dq n t xs hh) k hn h|dr s n kk=>{have:=bG.fin (w:=w) (v:= .dr s n kk) k hn h;simp only[Vs.fin,bJ,ct]at*;split<;>simp_all[br]}
def Zq {E:ba} {D:Nat->Prop} {U U':ao} {keep:List Nat} {a:Act} (h:normal keep U=some U') (S:aC E D β who U [] a w):
 ∃β' who',aC E my β' who' U' [] a w:=by
 unfold normal at h;simp only at h;split at h
 case isFalse=>cases h
 rename_i hlen;injection h with h
 subst h;generalize hns:NT (fS keep U)=ns at*;have hget: ∀s,ao.get ((fS keep U).map λx=>(x.1,Vs.fin ns x.2)) s=Vs.fin ns ((fS keep U).get s):=Dh (g:=Vs.fin ns) rfl _
 have hD: ∀n∈ns,D n:=λn hn=>by
  obtain⟨s,hs⟩:=qlj (hns▸hn);exact S.occ s n (qi hs)
 have hFN:FN∉ns:=λh=>S.dfn (hD _ h)
 let β':aU:=λk=>if k=98 then β 98 else β (ns.getD k 0)
 let who':bp:=λb=>match who b with
  |none=>none
  |some n=>if n∈ns then some (a8 ns n)else if n=FN then some FN else none
 have k:tQ β who β' who' ns:=⟨λn hn=>by have:=Y8 hn;simp only[β',Ol hn];rw[ae O],λn hn b hb=>by simp[who',hb,hn],λb hb=>by simp[who',hb],by simp[β']⟩
 have hws: ∀b n,who' b=some n-> ∃m,who b=some m:=λb n h=>by
  grind
 have hin: ∀s,∀n∈ab ((fS keep U).get s),n∈ns:=λs n hn=>hns▸qhi hn
 have hps: ∀s,(fS keep U).get s=U.get s\/(fS keep U).get s= .dead:=λs=>by
  rw[qs8];grind
 have hnm: ∀s n,n∈ab ((fS keep U).get s)->n∈ab (U.get s):=λs n hn=>by
  rcases hps s with e|e
  . rwa [e]at hn
  . rw[e]at hn;cases hn
 refine⟨β',who',?_⟩
 exact{
  rel:=λs=>by
   rw[hget];refine br.fin k (hin s) ?_;rcases hps s with e|e
   . rw[e];exact S.rel s
   . rw[e];trivial
  nod:=λs=>by
   rw[hget,qdb];refine X8 (λn h1 m h2 h=>Qf (hin s n h1) (hin s m h2) h) ?_
   rcases hps s with e|e
   . rw[e];exact S.nod s
   . rw[e];exact yk
  dis:=λs s' n h1 h2=>by
   rw[hget,qdb,zk]at h1 h2;obtain⟨m,hm,rfl⟩:=h1;obtain⟨m',hm',e⟩:=h2;have:=Qf (hin s' m' hm') (hin s m hm) e;subst this;exact S.dis s s' m' (hnm s m' hm) (hnm s' m' hm')
  occ:=λs n hn=>by
   rw[hget]at hn;have:=qwt (hin s) n hn;show n<99;omega
  hrel:=λx hx=>by cases hx
  hnod:=by simp
  hdis:=λx hx=>by cases hx
  hocc:=λx hx=>by cases hx
  wsz:=λb n hb=>by obtain⟨m,hm⟩:=hws b n hb;exact S.wsz b m hm
  fr0:=S.fr0
  fr1:=λb n hb=>by obtain⟨m,hm⟩:=hws b n hb;exact S.fr1 b m hm
  fr2:=S.fr2
  fr3:=λb hb=>by
   have:=S.fr3 b hb
   grind
  fr4:=S.fr4
  dfn:=Ve
  frm:=by simp only[β',iP];exact S.frm
  d98:=by show 98<99;omega
  dfr:=S.dfr
  tsz:=S.tsz
  pin:=S.pin}
end
def ex:Ex->Exit
 | .normal=> .normal
 | .exit id=> .exit id
 | .ret=> .ret
def qnt (U:ao) (t s:Nat):(U.drop1 t).get s=if s=t then .dead else U.get s:=by unfold ao.drop1;induction U with|nil=>simp[ao.get]|cons x r G=>{obtain⟨k,u⟩:=x;simp only[NH];by_cases h:k=t;{subst h;simp only[beq_self_eq_true,qS,GH,if_false,G,ao.get];grind};{have:(!(k==t))=true:=by{simpa using h};simp only[this,if_true,ao.get];grind}}
section
variable {P:Program} {CO:Q7} {T:TT} {E:ba} {D:Nat->Prop} {β β':aU} {who who':bp} {U U':ao} {a:Act} {w w':World}
def aC.drop1 (S:aC E D β who U [] a w) (t:Nat):aC E D β who (U.drop1 t) [] a w:=by refine(S.abs (s:=t) (v:= .dead) trivial (λn u=>by cases u) yk (λn u=>by cases u)).ext λs=> ?_;rw[qnt];by_cases h:s=t;{subst h;rw[iP rfl,qg]};{rw[ae h,qf _ _ h]}
def aC.drawn (S:aC E D β who U [] a w):aC E D β who U [] a {w with drawn:=w.drawn+1}:=
 S.keep (λ_ _=>rfl) (λ_ _ h=>h) (λ_ _=>rfl) (λ_ h _=>h) S.wsz (zI _)
variable {ρT:Type}
def KQ (E:ba) (K:Ex->ao->Option ρT) (ρ:ρT) (Q:Exit->Act->World->Prop):Prop:=
 ∀e U',K e U'=some ρ-> ∀β who a w,aC E my β who U' [] a w->Q (ex e) a w
def Jq (P:Program) (E:ba) (u:Nat->ao->(Ex->ao->Option ρT)->Option ρT) (ρ:ρT) (key:Nat) (c:Code):Prop:=
 ∀U K Q β who a w,u key U K=some ρ->aC E my β who U [] a w->KQ E K ρ Q->c.wp P Q a w
@[reducible] def oE (P:Program) (E:ba) (G:Nat->ao->(Ex->ao->Option ρT)->Option ρT) (ρ:ρT) (u:Nat) (body:Code):Prop:=Jq P E G ρ u (Code.loop body)
def Z5 (L:Nat->Code->Prop):Code->Nat->Prop
 | .seq a b,k=>Z5 L a k/\Z5 L b k
 | .cond _ a b,k=>Z5 L a k/\Z5 L b k
 | .block id c,_=>Z5 L c id
 | .scope c,k=>Z5 L c k
 | .loop body,k=>L k (.loop body)
 |_,_=>True
def PU (hm:P.follows .mixedOrders=true) (hT:bL P T) (d0: ∀f as r os,CO f as r os->Xy P f as r os) {N:Nat} {H:eY} (hE:vy P E N H.pins)
 {C:Nat->List AV->(AV->List AV->Option ρT)->Option ρT} {Lp:Nat->ao->(Ex->ao->Option ρT)->Option ρT} {ρ:ρT}
 (hC: ∀f as k,C f as k=some ρ-> ∃r os,CO f as r os/\k r os=some ρ) (c:Code):
 ∀(u:Nat) (U:ao) (K:Ex->ao->Option ρT) (Q:Exit->Act->World->Prop) (β:aU) (who:bp) (a:Act) (w:World),Z5 (Jq P E Lp ρ) c u->
  oC C Lp T N H c u U K=some ρ->aC E my β who U [] a w->KQ E K ρ Q->c.wp P Q a w:=by
 induction c with
 |skip=>exact λu U K Q β who a w _ h S G=>wp_skip (G .normal U h β who a w S)
 |region id ops draw=>
  intro u U K Q β who a w _ h S G;simp only[oC]at h;split at h
  . cases h
  rename_i hi _;obtain⟨Fs,U1,U2,Ls,h1,h2,h3,h4⟩:=qsx (CO:=CO) hC _ _ _ _ _ h;simp only[yn]at h4;split at h4
  . cases h4
  rename_i i0;split at h4
  case h_2=>cases h4
  rename_i U3 hnorm
  have fin: ∀(D:Nat->Prop) a' w' β' who',aC E D β' who' U1 [] a' w'->Q .normal a' w':=λD a' w' β' who' J=>by
   obtain⟨β'',e0,j0⟩:=Zq hnorm (J.ext h2);exact G .normal U3 h4 _ _ _ _ j0
  have S0:aC E (KT my 0) β who U [] a w:=S.mono (λn h=> .inl h) (quu Ve)
  have hD: ∀n,my n->n<100:=λn h=>by have:n<99:=h;omega
  cases draw with
  |false=>exact wp_region_list (qow hT d0 hE hD h1 S0 (λa' w' β' who' J=>fin _ a' w' β' who' J))
  |true=>
   have c0:Pe ops.toList Ls=true:=qe1 (by simpa using i0)
   exact wp_region_any hm (qlf hT d0 hE hD Ve h1 h3 c0 S.drawn (λa' w' β' who' J=>fin _ a' w' β' who' J))
 |seq x y h0 g0=>
  intro u U K Q β who a w O h S G;simp only[oC]at h;refine wp_seq (h0 u U _ _ β who a w O.1 h S λe U' he β' who' a' w' J=> ?_)
  cases e with
  |normal=>
   exact g0 u U' K Q β' who' a' w' O.2 he J G
  |exit i=>exact G (.exit i) U' he _ _ _ _ J
  |ret=>exact G .ret U' he _ _ _ _ J
 |cond x c1 c2 b0 a0=>
  intro u U K Q β who a w O h S G;cases x with
  |tmp t=>
   simp only[oC]at h;split at h
   . rename_i b hb;have hr:=S.rel t;rw[hb]at hr;refine wp_cond (t:=b) hr ?_;cases b with
     |true=>exact b0 u _ K Q β who a w O.1 h (S.drop1 t) G
     |false=>exact a0 u _ K Q β who a w O.2 h (S.drop1 t) G
   . cases h
  |const v=>
   cases v with
   |bool b=>
    simp only[oC]at h;refine wp_cond (t:=b) rfl ?_;cases b with
    |true=>exact b0 u _ K Q β who a w O.1 h S G
    |false=>exact a0 u _ K Q β who a w O.2 h S G
   |_=>cases h
  |_=>cases h
 |scope c ih=>
  intro u U K Q β who a w O h S G;simp only[oC]at h
  exact wp_scope_straight (ih u U K _ β who a w O h S λe U' he β' who' a' w' J=>by
   have:=G e U' he β' who' a' w' J;cases e<;>exact this)
 |label l=>
  intro u U K Q β who a w O h S G;exact wp_label (G .normal U h _ _ _ _ S)
 |block id c ih=>
  intro u U K Q β who a w O h S G;simp only[oC]at h;refine wp_block (ih id U _ _ β who a w O h S λe U' he β' who' a' w' J=> ?_)
  cases e with
  |normal=>exact G .normal U' he _ _ _ _ J
  |exit i=>
   simp only at he;show Exit.inBlock id Q (.exit i) a' w';unfold Exit.inBlock;simp only;split at he
   . rename_i e;rw[iP e];exact G .normal U' he _ _ _ _ J
   . rename_i e;rw[ae e];exact G (.exit i) U' he _ _ _ _ J
  |ret=>exact G .ret U' he _ _ _ _ J
 |loop body ih=>
  intro u U K Q β who a w O h S G;simp only[oC]at h;split at h
  . split at h
    . rename_i hn;obtain⟨β',who',J⟩:=Zq hn S;exact O _ K Q β' who' a w h J G
    . cases h
  . cases h
 |exit id=>
  intro u U K Q β who a w O h S G;simp only[oC]at h;split at h
  . split at h
    . rename_i hn;obtain⟨β',who',J⟩:=Zq hn S;exact wp_exit (G (.exit id) _ h _ _ _ _ J)
    . cases h
  . cases h
 |ret=>
  intro u U K Q β who a w O h S G;simp only[oC]at h;split at h
  . rename_i hn;obtain⟨β',who',J⟩:=Zq hn S;exact wp_ret (G .ret _ h _ _ _ _ J)
  . cases h
 |_=>intro u U K Q β who a w O h;cases h
def qhb {c:Code} {Q:Exit->Act->World->Prop} (I:Nat->Act->World->Prop) (h0: ∀a w,¬I 0 a w)
 (round: ∀n a w,I (n+1) a w->c.wp P (Exit.then (I n) Q) a w): ∀n a w,I n a w->(Code.loop c).wp P Q a w:=by intro n a w h b k cs;have key: ∀n a w,I n a w-> ∃e J w',Q e J w'/\Arrives P (lone (b.at a (.code c:: .inLoop c::k)) cs w) b k cs e J w':=by{intro n;induction n with|zero=>grind|succ n K=>{intro a w O;obtain⟨e,a₁,w₁,G,u⟩:=round n a w O b (.inLoop c::k) cs;cases e with|normal=>{obtain⟨e₂,a₂,w₂,hq₂,harr₂⟩:=K a₁ w₁ G;exact⟨e₂,a₂,w₂,hq₂,.of_steps (Steps.trans u (.one step_inLoop)) harr₂⟩}|exit id=>exact⟨_,a₁,w₁,G,.pass (x:= .inLoop c) rfl (λ_ _=> .inl (by simp)) u⟩|goto l=>exact⟨_,a₁,w₁,G,.pass (x:= .inLoop c) rfl (λ_ _=> .inl (by simp)) u⟩|ret=>exact⟨_,a₁,w₁,G,.pass (x:= .inLoop c) rfl (λ_ _=> .inl (by simp)) u⟩|panic ch=>exact⟨_,a₁,w₁,G,.pass (x:= .inLoop c) rfl (λ_ _=> .inl (by simp)) u⟩|outgrown=>exact⟨_,a₁,w₁,G,.pass (x:= .inLoop c) rfl (λ_ _=> .inl (by simp)) u⟩}};obtain⟨e,J,w',G,u⟩:=key n a w h;exact⟨e,J,w',G,.of_steps (.one step_loop) u⟩
end
section
variable {P:Program} {CO:Q7} {T:TT} {E:ba} {D:Nat->Prop} {β β':aU} {who who':bp} {U U':ao} {a:Act} {w w':World}
def qla (hm:P.follows .mixedOrders=true) (hT:bL P T) (a0: ∀f as r os,CO f as r os->Xy P f as r os) {N:Nat} {H:eY} (hE:vy P E N H.pins)
 {J M:Type} {C:Nat->List AV->(AV->List AV->Option M)->Option M} {Lp:Nat->ao->(Ex->ao->Option M)->Option M}
 (hC: ∀ρ f as k,C f as k=some ρ-> ∃r os,CO f as r os/\k r os=some ρ) {body:Code} {G:Nat}
 (hL: ∀ρ,Z5 (Jq P E Lp ρ) body G)
 (F:Nat->J->Option M) (enc:J->ao) (out:M->Ex×ao) (K:Nat->Ex->ao->Option M)
 (h0: ∀x,F 0 x=none) (hr: ∀n x ρ,F (n+1) x=some ρ->Pd C Lp T N H body G (enc x) (K n)=some ρ)
 (O: ∀n e U ρ,K n e U=some ρ->(e= .normal/\ ∃x,U=enc x/\F n x=some ρ)\/(e≠ .normal/\out ρ=(e,U)))
 {n:Nat} {x:J} {ρ:M} (hF:F n x=some ρ) {Q:Exit->Act->World->Prop} (S:aC E my β who (enc x) [] a w)
 (hQ: ∀β who a w,aC E my β who (out ρ).2 [] a w->Q (ex (out ρ).1) a w):(Code.loop body).wp P Q a w:=by refine qhb (λn a w=> ∃x β who,F n x=some ρ/\aC E my β who (enc x) [] a w) (λa w h=> ?_) (λn a w h=> ?_) n a w ⟨x,β,who,hF,S⟩;{grind};{obtain⟨x,β,who,hF,S⟩:=h;have h:=hr n x ρ hF;unfold Pd at h;refine PU hm hT a0 hE (hC ρ) body G _ _ _ β who a w (hL ρ) h S λe U' he β' who' a' w' S'=> ?_;cases e with|normal=>{simp only at he;split at he;{split at he;{rename_i hn;obtain⟨β'',u,b0⟩:=Zq hn S';rcases O n _ _ _ he with⟨_,y,rfl,hy⟩|⟨h,_⟩;{exact⟨y,β'',u,hy,b0⟩};{exact absurd rfl h}};{cases he}};{cases he}}|exit i=>{rcases O n _ _ _ he with⟨h,_⟩|⟨_,h⟩;{cases h};{have:=hQ β' who' a' w' (by rw[h];exact S');rw[h]at this;exact this}}|ret=>{rcases O n _ _ _ he with⟨h,_⟩|⟨_,h⟩;{cases h};{have:=hQ β' who' a' w' (by rw[h];exact S');rw[h]at this;exact this}}}
def qe3 (args:List AV): ∀(k s:Nat),(Ju k args).get s=if k<=s then args.getD (s-k) .dead else .dead:=by induction args with|nil=>{intro k s;simp[Ju,ao.get]}|cons v r u=>{intro k s;simp only[Ju,ao.get];grind}
def ql9 {args:List AV} (h:(args.flatMap ab).Nodup) {i j n:Nat} (u:n∈ab (args.getD i .dead)) (h2:n∈ab (args.getD j .dead)):i=j:=by induction args generalizing i j with|nil=>cases u|cons v r O=>{simp only[fC]at h;obtain⟨_,g2,K⟩:=zT.1 h;have mem: ∀i,n∈ab (r.getD i .dead)->n∈r.flatMap ab:=λi J=>by{rcases gq i r.length with a0|G;{grind};{simp only[List.getD,List.getElem?_eq_none G,OE]at J;cases J}};cases i with|zero=>{cases j with|zero=>rfl|succ j=>exact absurd rfl (K n u n (mem j h2))}|succ i=>{cases j with|zero=>exact absurd rfl (K n h2 n (mem i u))|succ j=>rw[O g2 u h2]}}
def gM {args:List AV} {i n:Nat} (h:n∈ab (args.getD i .dead)): ∃u:i<args.length,args.getD i .dead=args[i]:=by rcases gq i args.length with u|G;{grind};{simp only[List.getD,List.getElem?_eq_none G,OE]at h;cases h}
def qdd {args:List AV} {cargs:Array Value} {N:Nat} {pins:List Nat} (hsz:cargs.size=args.length) (hN:args.length<=N)
 (hrel: ∀i (h:i<args.length),br β who w args[i] (cargs.getD i undef)) (hnd:(args.flatMap ab).Nodup) (h99: ∀n∈args.flatMap ab,n<99)
 (hnr:args.all fe=true) (hw: ∀b n,who b=some n->b<w.heap.size/\(n∈args.flatMap ab\/n=FN)) {P:Program} (hgl:cG P who w):
 aC ⟨P,w,who,pins.map λi=>(i,(cargs++Array.replicate (N-cargs.size) undef).getD i undef),N,hgl,β 98⟩ my β who (Ju 0 args) []
  {tmps:=cargs++Array.replicate (N-cargs.size) undef,defers:=[]} w:=by
 have hg: ∀s,(Ju 0 args).get s=args.getD s .dead:=λs=>by rw[qe3];simp
 have hmem: ∀i n,n∈ab (args.getD i .dead)->n∈args.flatMap ab:=λi n hn=>by
  obtain⟨hlt,e⟩:=gM hn
  grind
 exact{
  rel:=λs=>by
   rw[hg];rcases gq s args.length with hlt|hge
   . have e:args.getD s .dead=args[s]:=by simp[List.getD,hlt]
     have e2:(cargs++Array.replicate (N-cargs.size) undef).getD s undef=cargs.getD s undef:=by
      simp only[Array.getD_eq_getD_getElem?];rw[Array.getElem?_append_left O]
     grind
   . have e:args.getD s .dead= .dead:=by simp[List.getD,List.getElem?_eq_none hge]
     rw[e];trivial
  nod:=λs=>by
   rw[hg];rcases gq s args.length with hlt|hge
   . grind
   . have e:args.getD s .dead= .dead:=by simp[List.getD,List.getElem?_eq_none hge]
     rw[e];exact yk
  dis:=λs s' n h1 h2=>by rw[hg]at h1 h2;exact ql9 hnd h1 h2
  occ:=λs n hn=>by
   rw[hg]at hn;rcases gq s args.length with hlt|hge
   . have e:args.getD s .dead=args[s]:=by simp[List.getD,hlt]
     rw[e]at hn;rcases qpc (zq.1 hnr _ (zW hlt)) n hn with h|h
     . exact h99 n (hmem s n (by rw[e];exact h))
     . rw[h];show 98<99;omega
   . have e:args.getD s .dead= .dead:=by simp[List.getD,List.getElem?_eq_none hge]
     rw[e]at hn;cases hn
  hrel:=λx hx=>by cases hx
  hnod:=by simp
  hdis:=λx hx=>by cases hx
  hocc:=λx hx=>by cases hx
  wsz:=λb n hb=>(hw b n hb).1
  fr0:=λb hb _=>rfl
  fr1:=λb n hb=> .inl (by grind)
  fr2:=zI _
  fr3:=λb hb=>hb
  fr4:=⟨rfl,rfl⟩
  dfn:=Ve
  frm:=rfl
  d98:=by show 98<99;omega
  dfr:=rfl
  tsz:=by simp;omega
  pin:=λp hp=>by
   grind}
end
def qfc: ∀{l:List Nat},Dc l=true->l.Nodup
 |[],_=>yk
 |x::r,h=>by simp only[Dc,zK,Bool.not_eq_true']at h;refine oF.2 ⟨λu=> ?_,qfc h.2⟩;grind
def eB (β:aU):aU:=λn=>if 200<=n then dO else β n
def bh (who:bp) (ns:List Nat):bp:=λb=>match who b with
 |some n=>if n∈ns\/n=FN then some n else none
 |none=>none
section
variable {P:Program} {T:TT} {E:ba} {β:aU} {who:bp} {U:ao} {a:Act} {w:World} {ns:List Nat}
def Wj {b n:Nat} (h:who b=some n) (u:n∈ns):bh who ns b=some n:=by simp[bh,h,u]
def Wa {b:Nat} (h:who b=none):bh who ns b=none:=by simp[bh,h]
def q6h {b n:Nat} (h:who b=some n) (u:n∉ns) (G:n≠FN):bh who ns b=none:=by simp[bh,h,u,G]
def Wz: ∀b,who b=none->b<w.heap.size->bh who ns b=none/\w.heap[b]? =w.heap[b]? :=λb u _=>⟨Wa u,rfl⟩
def PW {n:Nat} (h:n<99):eB β n=β n:=by simp only[eB];rw[ae O]
def bu.slI {β:aU} {who who':bp} {w:World} {n:Nat} {t:Ty} {xs:List (List (aX t))} {v:Value} (h:bu β who w n t xs none v) (h0: ∀b,who b=none->who' b=none)
 (J: ∀b,who b=some n->who' b=none):hO who' w (.sl false t) xs v:=by obtain⟨_,h2⟩:=h;rcases h2 with h2|⟨b,o,cap,arr,el,e1,e2,e3,e4,e5,e6,_⟩;{exact .inl h2};refine .inr ⟨b,o,cap,e1,J b e5,YH e2,e4,λi hi=> ?_⟩;obtain⟨f1,f2⟩:=e6 i hi (by simp);refine⟨dj (β n) (i+1),?_,?_⟩;{show az w b (o+i*1) 0=some (dj (β n) (i+1));rw[<-f1];simp[az]};{rcases f2 with⟨G,u⟩|⟨bi,K,ci,ar,l,G,u,k3,k4,k5,k6,O⟩;{exact .inl ⟨G,u⟩};{exact .inr ⟨bi,K,ci,G,J bi k5,YH u,k4,aT.keep (λb hb _=>⟨h0 b hb,rfl⟩) (zI _) rfl O⟩}}
def Je {n:Nat} {own:Bool} {c c':AV} {u:Value} (h:VG n own c=some c') (hr:aW β who w c u) (hn:200<=n) (h99: ∀m∈qc c,m<99)
 (hns: ∀m∈qc c',m∈ns) (hfz: ∀m∈pM own c,m∉ns):aW (eB β) (bh who ns) w c' u/\br (eB β) (bh who ns) w c' u:=by have both: ∀{c':AV},(∀o cs,c'≠ .bx o cs)->(∀cs,c'≠ .agg cs)->(∀vs,c'≠ .tup vs)->aW (eB β) (bh who ns) w c' u->aW (eB β) (bh who ns) w c' u/\br (eB β) (bh who ns) w c' u:=by{intro c' h1 h2 h3 h;refine⟨h,?_⟩;cases c' with|bx o cs=>exact absurd rfl (h1 o cs)|agg cs=>exact absurd rfl (h2 cs)|tup vs=>exact absurd rfl (h3 vs)|dead=>trivial|_=>exact h};cases c with|bool b=>{cases h;exact both (by simp) (by simp) (by simp) hr}|int k x=>{cases h;exact both (by simp) (by simp) (by simp) hr}|lit v=>{cases h;exact both (by simp) (by simp) (by simp) hr}|sl o t xs=>{cases o with|imm=>{cases own with|true=>cases h|false=>{cases h;exact both (by simp) (by simp) (by simp) (hO.keep Wz (zI _) hr)}}|inn=>cases h|nl=>{obtain⟨rfl,rfl⟩:=(hr:u=_/\xs=[]);cases own with|true=>{cases h;exact both (by simp) (by simp) (by simp) ⟨by simp[eB,hn,dO],.inl ⟨rfl,rfl⟩⟩}|false=>{cases h;exact both (by simp) (by simp) (by simp) (.inl ⟨rfl,rfl⟩)}}|nm m=>{obtain⟨h1,h2⟩:=(hr:cE β who w m t xs u);have hm:=h99 m (by simp[qc]);cases own with|true=>{cases h;have hin:=hns m (by simp[qc]);refine both (by simp) (by simp) (by simp) ⟨by rw[PW hm];exact h1,?_⟩;rcases h2 with h2|⟨b,o,cap,arr,el,e1,e2,e3,e4,e5,e6⟩;{exact .inl h2};{exact .inr ⟨b,o,cap,arr,el,e1,e2,e3,e4,Wj e5 hin,aT.keep Wz (zI _) rfl e6⟩}}|false=>{cases h;have hni:=hfz m (by simp[pM]);refine both (by simp) (by simp) (by simp) ?_;exact cE.slI ⟨h1,h2⟩ (λb hb=>Wa hb) (λb hb=>q6h hb hni (by simp only[FN];omega))}}}|dp m t xs hh=>{have hm:=h99 m (by simp[qc]);cases hh with|some k=>cases h|none=>{cases own with|true=>{cases h;have hin:=hns m (by simp[qc]);refine both (by simp) (by simp) (by simp) ?_;exact bu.map (PW hm) (λb hb=>⟨Wj hb hin,rfl⟩) (λ_ _ _ _ he=>aT.keep Wz (zI _) rfl he) hr}|false=>{cases h;have hni:=hfz m (by simp[pM]);refine both (by simp) (by simp) (by simp) ?_;exact bu.slI (n:=m) hr (λb hb=>Wa hb) (λb hb=>q6h hb hni (by simp only[FN];omega))}}}|dq m t xs hh=>{have hm:=h99 m (by simp[qc]);cases hh with|some k=>cases h|none=>{cases own with|true=>cases h|false=>{cases h;have hni:=hfz m (by simp[pM]);refine both (by simp) (by simp) (by simp) ?_;exact b9.slI (n:=m) hr (λb hb=>Wa hb) (λb hb=>q6h hb hni (by simp only[FN];omega))}}}|_=>cases h
def q3e {f:Nat->Value}: ∀{sp:List Bool} {n:Nat} {cs cs':List AV} {f:Nat->Value},PD n sp cs=some cs'->(∀j (h:j<cs.length),aW β who w cs[j] (f j))->200<=n->
 (∀m∈cs.flatMap qc,m<99)->(∀m∈cs'.flatMap qc,m∈ns)->(∀m∈mb sp cs,m∉ns)->
 cs'.length=cs.length/\ ∀j (h:j<cs'.length),aW (eB β) (bh who ns) w cs'[j] (f j)
 |[],n,[],cs',f,h,_,_,_,_,_=>by cases h;grind
 |[],n,_::_,cs',f,h,_,_,_,_,_=>by cases h
 |_::_,n,[],cs',f,h,_,_,_,_,_=>by cases h
 |o::os,n,c::cs,cs',f,h,K,hn,J,u,G=>by simp only[PD]at h;split at h;{rename_i d ds e1 e2;cases h;obtain⟨g1,g2⟩:=q3e (sp:=os) (n:=n+1) (cs:=cs) (cs':=ds) (f:=λj=>f (j+1)) e2 (λj hj=>by have:=K (j+1) (by simpa using hj);simpa using this) O (λm hm=>J m (by grind)) (λm hm=>u m (by grind)) (λm hm=>G m (by simp only[mb,zZ];exact .inr hm));refine⟨by simp[g1],λj hj=> ?_⟩;cases j with|zero=>{exact(Je e1 (K 0 (by simp)) hn (λm hm=>J m (by grind)) (λm hm=>u m (by grind)) (λm hm=>G m (by simp only[mb,zZ];exact .inl hm))).1}|succ j=>grind};{cases h}
def q3k {n:Nat} {sp:List Bool} {v v':AV} {u:Value} (h:Lv n sp v=some v') (O:br β who w v u) (hn:200<=n) (G: ∀m∈ab v,m<99)
 (a0: ∀m∈ab v',m∈ns) (b0: ∀m∈pN sp v,m∉ns):bG (eB β) (bh who ns) w v' u/\(∀vs,v'≠ .tup vs):=by have one: ∀{v:AV},(∀o cs,v≠ .bx o cs)->(∀cs,v≠ .agg cs)->(∀u,v≠ .lit u)->Lv n sp v=some v'->br β who w v u->(∀m∈ab v,m<99)->(∀m∈pN sp v,m∉ns)-> bG (eB β) (bh who ns) w v' u/\(∀vs,v'≠ .tup vs):=by{intro v h1 h2 h3 h O G b0;have: ∃o,sp=[o]/\VG n o v=some v':=by{unfold Lv at h;split at h;{exact absurd rfl (h2 _)};{exact absurd rfl (h1 _ _)};{exact absurd rfl (h3 _)};{grind}};obtain⟨o,rfl,J⟩:=this;have K: ∀m∈pM o v,m∉ns:=λm hm=>b0 m (by{unfold pN;split;{exact absurd rfl (h2 _)};{exact absurd rfl (h1 _ _)};{simp[mb,hm]}});cases v with|bx o cs=>exact absurd rfl (h1 o cs)|agg cs=>exact absurd rfl (h2 cs)|bool b=>{cases J;exact⟨O,by simp⟩}|int k x=>{cases J;exact⟨O,by simp⟩}|lit v=>grind|sl ow t xs=>{have c0: ∀m∈qc v',m∈ns:=λm hm=>a0 m (by{cases ow<;>cases o<;>cases J<;>first|exact hm|cases hm});obtain⟨g1,g2⟩:=Je J O hn G c0 K;cases ow<;>cases o<;>cases J<;>exact⟨g1,by simp⟩}|dp m t xs hh=>{cases hh with|some k=>cases J|none=>{cases o with|true=>{obtain⟨g1,g2⟩:=Je J O hn G (λm hm=>by cases J;exact a0 m hm) K;cases J;exact⟨g1,by simp⟩}|false=>{obtain⟨g1,g2⟩:=Je J O hn G (λm hm=>by cases J;cases hm) K;cases J;exact⟨g1,by simp⟩}}}|dq m t xs hh=>{cases hh with|some k=>cases J|none=>{cases o with|true=>cases J|false=>{obtain⟨g1,g2⟩:=Je J O hn G (λm hm=>by cases J;cases hm) K;cases J;exact⟨g1,by simp⟩}}}|_=>cases J};cases v with|agg cells=>{simp only[Lv,Oz]at h;obtain⟨cs',h1,rfl⟩:=h;obtain⟨arr,e1,e2,e3⟩:=O;obtain⟨g1,g2⟩:=q3e (f:=λj=>arr.getD j undef) h1 e3 hn G a0 b0;exact⟨⟨arr,e1,by rw[e2,g1],g2⟩,by simp⟩}|bx o cells=>{cases o with|nm m=>{simp only[Lv,Oz]at h;obtain⟨cs',h1,rfl⟩:=h;obtain⟨h0,b,arr,el,e1,e2,e3,e4,e5⟩:=O;have hm:=G m (by simp[ab,qh]);have d0:=a0 m (by simp[ab,qh]);obtain⟨g1,g2⟩:=q3e (f:=λj=>arr.getD j undef) h1 e5 hn (λm hm=>G m (by simp only[ab,qh];grind)) (λm hm=>a0 m (by simp only[ab,qh];grind)) b0;exact⟨⟨by rw[PW hm];exact h0,b,arr,el,e1,e2,Wj e3 d0,by rw[e4,g1],g2⟩,by simp⟩}|_=>exact O.elim}|lit u=>{cases h;exact⟨O,by simp⟩}|_=>exact one (by simp) (by simp) (by simp) h O G b0
end
section
variable {P:Program} {T:TT} {E:ba} {D:Nat->Prop} {β:aU} {who:bp} {U:ao} {a:Act} {w:World} {ns:List Nat}
def NM (tmps:Array Value):ResultVar->Sem Value
 | .tmp t=>pure (tmps.getD t undef)
 | .cell a t=>do loadVar t (<-asAddr (tmps.getD a undef))
def q8w {t:Nat} {ad:Addr} {r:Value} (h:(Instr.loadAt t (.pointer (some ad))).run P w= .ok r w):(do loadVar t (<-asAddr (.pointer (some ad))):Sem Value).run P w= .ok r w:=by
 simpa [Instr.loadAt,Instr.sureAddr,asAddr]using h
def qvg (hT:bL P T) (S:aC E my β who U [] a w) {n:Nat} {sp:List Bool} {r:ResultVar} {v':AV} (h:yE T U n sp r=some v') (hn:200<=n)
 (hns: ∀m∈ab v',m∈ns) (hfz: ∀m∈BT T U sp r,m∉ns):
 ∃u,(NM a.tmps r).run P w= .ok u w/\bG (eB β) (bh who ns) w v' u/\ ∀vs,v'≠ .tup vs:=by cases r with|tmp t=>{obtain⟨g1,g2⟩:=q3k h (S.rel t) hn (λm hm=>S.occ t m (qi hm)) hns hfz;exact⟨_,rfl,g1,g2⟩}|cell t ty=>{simp only[yE]at h;split at h;{rename_i ti m cells hti' hav;split at h;{rename_i hlen;split at h;{rename_i v hone;have hti:=hT ty _ hti';have hr:=S.rel t;rw[hav]at hr;obtain⟨hβ,b,arr,el,e1,e2,e3,e4⟩:=hr;have hmem: ∀j',j'<arr.size->w.cell? ⟨b,0+j',none⟩=some (arr.getD j' undef):=λj' hj'=>by{simp[World.cell?,e2,hj',Array.getD]};have h99: ∀m'∈cells.flatMap qc,m'<99:=λm' hm=>S.occ t m' (qi (by rw[hav];simp only[ab,qh];grind));have hfz': ∀m∈pN sp v,m∉ns:=λm hm=>hfz m (by simp only[BT,hti',hav,hone];exact hm);cases hagg:Q9 ti.desc with|true=>{simp only[me,hagg,if_true,zf]at hone;subst hone;have hrun:=Xx (P:=P) hti (b:=b) (o:=0) (f:=λj'=>arr.getD j' undef) w (λj' hj'=>hmem _ (by rw[e4.1,hlen];exact hj')) (λh=>by rw[hagg]at h;cases h);rw[hagg,iP rfl]at hrun;refine⟨_,by rw[NM,e1];exact q8w hrun,?_⟩;exact q3k h (v:= .agg cells) ⟨_,rfl,by simp[hlen],λj hj=>by{have:=e4.2 j hj;rw[hlen]at hj;simp_all}⟩ hn h99 hns hfz'}|false=>{simp only[me,hagg]at hone;simp only[GH,if_false]at hone;split at hone;{rename_i c;cases hone;have hrun:=Xx (P:=P) hti (b:=b) (o:=0) (f:=λj'=>arr.getD j' undef) w (λj' hj'=>hmem _ (by rw[e4.1,hlen];exact hj')) (λ_=>by rw[<-hlen];rfl);rw[hagg,ae (by simp)]at hrun;refine⟨_,by rw[NM,e1];exact q8w hrun,?_⟩;have hc:=e4.2 0 (by simp);refine q3k h (v:=v) ?_ hn ?_ hns hfz';{simp only[Uy]at hc;cases v with|bx o cs=>exact hc.elim|agg cs=>exact hc.elim|tup cs=>exact hc.elim|dead=>trivial|_=>exact hc};{intro m' hm;refine h99 m' ?_;cases v with|bx o cs=>exact hc.elim|agg cs=>exact hc.elim|tup cs=>exact hc.elim|_=>{simp only[fC,Cs,mz];exact hm}}};{cases hone}}};{cases h}};{cases h}};{cases h}}
def qhm (hT:bL P T) (S:aC E my β who U [] a w): ∀{rv:List ResultVar} {n:Nat} {sp:List (List Bool)} {G:List AV},CV T U n sp rv=some G->200<=n->
 (∀m∈G.flatMap ab,m∈ns)->(∀m∈Pq T U sp rv,m∉ns)->
 ∃us:List Value,(rv.mapM (NM a.tmps)).run P w= .ok us w/\us.length=G.length/\(∀j (h:j<G.length),bG (eB β) (bh who ns) w G[j] (us.getD j undef))/\ ∀v∈G,∀vs,v≠ .tup vs
 |[],n,[],G,h,_,_,_=>by cases h;simp_all
 |[],n,_::_,G,h,_,_,_=>by cases h
 |_::_,n,[],G,h,_,_,_=>by cases h
 |r::rv,n,sp::a0,G,h,hn,J,K=>by simp only[CV]at h;split at h;{rename_i v vs e1 e2;cases h;obtain⟨u,g1,g2,g3⟩:=qvg (ns:=ns) hT S e1 hn (λm hm=>J m (by simp only[fC,zZ];exact .inl hm)) (λm hm=>K m (by simp only[Pq,zZ];exact .inl hm));obtain⟨us,q1,q2,q3,q4⟩:=qhm hT S e2 O (λm hm=>J m (by simp only[fC,zZ];exact .inr hm)) (λm hm=>K m (by simp only[Pq,zZ];exact .inr hm));refine⟨u::us,?_,by simp[q2],λj hj=> ?_,λx hx=> ?_⟩;{rw[UI];simp only[Sem.run_bind,g1,q1,Result.andThen_ok,Sem.run_pure]};{cases j with|zero=>exact g2|succ j=>exact q3 j (by simpa using hj)};grind};{cases h}
def qeo {v:AV} (h: ∀vs,v≠ .tup vs):qh v=ab v:=by cases v with|tup vs=>exact absurd rfl (h vs)|_=>rfl
def qds {v:AV} (h: ∀vs,v≠ .tup vs):Lh v=bV v:=by cases v with|tup vs=>exact absurd rfl (h vs)|_=>rfl
def qdl {β:aU} {v:AV} {u:Value} (h:bG β who w v u) (ht: ∀vs,v≠ .tup vs):br β who w v u:=by cases v with|tup vs=>exact absurd rfl (ht vs)|dead=>trivial|_=>exact h
def qgg {u:List AV} (h: ∀v∈u,∀vs,v≠ .tup vs):ab (lP u)=u.flatMap ab:=by have key: ∀{u:List AV},(∀v∈u,∀vs,v≠ .tup vs)->u.flatMap qh=u.flatMap ab:=by{intro u;induction u with|nil=>{intro _;rfl}|cons v r G=>{intro h;simp only[fC,qeo (h v mS),G λx J=>h x (mT J)]}};unfold lP;split;{simp};{exact key h}
def qgn {u:List AV} (h: ∀v∈u,∀vs,v≠ .tup vs) (J:u.all bV=true):bV (lP u)=true:=by unfold lP;split;{simpa using J};{refine zq.2 λv G=> ?_;rw[qds (h v G)];grind}
def qhe {fn:Func} {tmps:Array Value} {us:List Value} (h:(fn.results.toList.mapM (NM tmps)).run P w= .ok us w):
 (results fn tmps).run P w= .ok (if h:us.toArray.size=1 then us.toArray[0]else .tuple us.toArray) w:=by
 have e:results fn tmps=(do
  let vs<-fn.results.mapM (NM tmps)
  pure (if h:vs.size=1 then vs[0]else .tuple vs):Sem Value):=by
  unfold results;congr 1
 rw[e,Array.mapM_eq_mapM_toList];simp[h]
end
section
variable {P:Program} {T:TT} {β:aU} {who:bp} {U:ao} {a:Act} {w:World} {ns:List Nat}
def q6o {U:ao}: ∀{args:List AV} {k:Nat},(Zn U k args).length=args.length/\ ∀i (h:i<args.length),((Zn U k args).getD i .dead= .dead)\/(Ph args[i]=true/\(Zn U k args).getD i .dead=U.get (k+i))
 |[],k=>⟨rfl,λi h=>absurd h (zC _)⟩
 |v::r,k=>by obtain⟨K,J⟩:=q6o (U:=U) (args:=r) (k:=k+1);refine⟨by simp[Zn,K],λi G=> ?_⟩;cases i with|zero=>{cases u:Ph v with|true=>exact .inr ⟨u,by simp[Zn,u]⟩|false=>exact .inl (by simp[Zn,u])}|succ i=>{have:=J i (by simpa using G);rw[show k+1+i=k+(i+1) by omega]at this;exact this}
def q83 {pins:List Nat}: ∀{args:List AV} {k:Nat},pinned pins k args=true-> ∀i (h:i<args.length),Ph args[i]=true->k+i∈pins
 |v::r,k,h,i,u,G=>by simp only[pinned,zK]at h;cases i with|zero=>{grind}|succ i=>{have:=q83 h.2 i (by simpa using u) G;grind}
def xi (who:bp) (ns:List Nat):bp:=λb=>match who b with
 |none=>none
 |some n=>if n∈ns then some (a8 ns n)else some FN
def tG (β:aU) (ns:List Nat):aU:=λk=>if k=98 then β 98 else β (ns.getD k 0)
def O6 {im:Bool} (J:ns.length<=16):gb β who w (tG β ns) (xi who ns) (a8 ns) ns im:=
 ⟨λn u=>by have:=Y8 u;simp only[tG,Ol u];rw[ae O],λn u b G=>by simp[xi,G,u],λ_ b G _=>by simp[xi,G]⟩
def q5s (hT:bL P T) {ρT:Type} {H:eY} {fn:Func} {args:List AV} {Kf:AV->List AV->Option ρT} {ρ:ρT} {w0:World} {u:bp} {cargs:Array Value} {P0:Program} {q0:cG P0 u w0} {fr:Value}
 (h:N1 T H fn args Kf U=some ρ) (s0:cargs.size=args.length) (hN:args.length<=fn.ntmps) (d0:pinned H.pins 0 args=true)
 (S:aC ⟨P0,w0,u,H.pins.map λi=>(i,(cargs++Array.replicate (fn.ntmps-cargs.size) undef).getD i undef),fn.ntmps,q0,fr⟩ my β who U [] a w):
 ∃res outs v,Kf res outs=some ρ/\(results fn a.tmps).run P w= .ok v w/\V5 u w0 cargs res outs fr (.returned v) w:=by
 unfold N1 at h;split at h
 . cases h
 rename_i rs j0;simp only at h;split at h
 case isFalse=>cases h
 rename_i hc;obtain⟨c1,c2,c3,c4,c5,c6⟩:=hc;generalize k0:rs.flatMap ab++(Zn U 0 args).flatMap ab=ns at*;have m0:=qfc c2;have r0:FN∉ns:=λh=>by rw[show ns.contains 99=true from x8.2 h]at c3;cases c3
 obtain⟨us,q1,q2,q3,q4⟩:=qhm (ns:=ns) hT S j0 O (λm hm=>by grind) (λm hm=>q86 c4 m hm)
 have g0:=qgg q4;have i0:=qgn q4 c5
 have b0:br (eB β) (bh who ns) w (lP rs) (if h:us.toArray.size=1 then us.toArray[0]else .tuple us.toArray):=by
  unfold lP;split
  . rename_i v;have hl:us.length=1:=by simpa using q2
    rw[dif_pos (by simpa using hl)]
    have:=qdl (q3 0 (by simp)) (q4 _ (by simp))
    grind
  . rename_i l0
    have hl:us.length≠1:=λh=>by
     rw[q2]at h;obtain⟨v,hv⟩:=List.length_eq_one_iff.1 h;exact l0 v hv
    rw[dif_neg (by simpa using hl)]
    exact⟨us.toArray,rfl,by simpa using q2,λj hj=>by simp_all⟩
 obtain⟨o1,o2⟩:=q6o (U:=U) (args:=args) (k:=0);have a0: ∀b,who b=none->b<w.heap.size->bh who ns b=none/\w.heap[b]? =w.heap[b]? :=Wz
 have e0: ∀i (h:i<(Zn U 0 args).length),br (eB β) (bh who ns) w (Zn U 0 args)[i] (cargs.getD i undef):=λi hi=>by
  have G:i<args.length:=by rw[<-o1];exact hi
  have J: ∀m∈ab (Zn U 0 args)[i],m∈ns:=λm hm=>by grind
  have h0:fe (Zn U 0 args)[i]=true:=zq.1 c6 _ (zW hi);have e:(Zn U 0 args).getD i .dead=(Zn U 0 args)[i]:=by simp[List.getD,hi]
  rcases o2 i G with h|⟨hb,h⟩
  . rw[e]at h;rw[h];trivial
  . rw[e,zH]at h;have hp:=q83 d0 i G hb;rw[zH]at hp;have c0:=S.pin (i,(cargs++Array.replicate (fn.ntmps-cargs.size) undef).getD i undef) (zk.2 ⟨i,hp,rfl⟩)
    have e2:(cargs++Array.replicate (fn.ntmps-cargs.size) undef).getD i undef=cargs.getD i undef:=by
     simp only[Array.getD_eq_getD_getElem?];rw[Array.getElem?_append_left O]
    simp only[e2]at c0;have hr:=S.rel i;rw[c0]at hr;rw[h]at J h0⊢;refine hr.keep ⟨λn K=> ?_,λn K b hb=>⟨Wj hb (J n K),rfl⟩,a0,zI _⟩
    rw[PW (S.occ i n K)]
 refine⟨_,_,_,h,qhe q1,_,tG (eB β) ns,xi (bh who ns) ns,rfl,(by simp only[tG,iP];rw[PW O];exact S.frm),?_,?_,?_,?_,?_,?_,?_,?_,?_,?_,S.fr4⟩
 . exact br.ren i0 ((O6 (im:=true) c1).mono (λn K=>by grind) (λ_=>rfl)) b0
 . intro i hi;have G:i<(Zn U 0 args).length:=by simpa using hi
   rw[qL];exact br.renO (zq.1 c6 _ (zW G)) ((O6 (im:=true) c1).mono (λn K=>by grind) (λ_=>rfl)) (by simp only[tG,iP]) (e0 i G)
 . have e:ab (ren (a8 ns) (lP rs))++((Zn U 0 args).map (ren (a8 ns))).flatMap ab=ns.map (a8 ns):=by
    have: ∀l:List AV,(l.map (ren (a8 ns))).flatMap ab=(l.flatMap ab).map (a8 ns):=by
     intro l;induction l with
     |nil=>rfl
     |cons x r ih=>simp[Q8,ih]
    rw[Q8,g0,this,<-List.map_append,k0]
   rw[e];exact X8 (λ_ h1 _ h2 h=>Qf h1 h2 h) m0
 . intro n K
   have: ∃m,m∈ns/\n=a8 ns m:=by
    rcases zZ.1 K with h|h
    . rw[Q8,zk]at h
      grind
    . obtain⟨x,hx,hm⟩:=zL.1 h;obtain⟨y,hy,rfl⟩:=zk.1 hx;rw[Q8,zk]at hm;obtain⟨m,hm,rfl⟩:=hm
      grind
   obtain⟨m,hm,rfl⟩:=this;have:=Y8 hm;omega
 . rw[Xj];exact i0
 . refine zq.2 λx hx=> ?_
   obtain⟨y,hy,rfl⟩:=zk.1 hx;unfold fe;rw[Xj,qsd];exact zq.1 c6 y hy
 . exact S.fr0
 . intro b n hb
   have: ∃m,who b=some m:=by
    cases hw:who b with
    |none=>simp[xi,bh,hw]at hb
    |some m=>exact⟨m,rfl⟩
   obtain⟨m,hm⟩:=this;exact⟨S.wsz b m hm,S.fr1 b m hm⟩
 . exact S.fr2
 . intro b hb;have:=S.fr3 b hb;simp[xi,bh,this,r0]
def qsj (hm:P.follows .mixedOrders=true) (hT:bL P T) {CO:Q7} (hCO: ∀f as r os,CO f as r os->Xy P f as r os) {H:eY} {f:FuncId} {fn:Func} {c:Code}
 (hf:P.funcs[f]? =some fn) (hb:fn.body=some c) (hname:(fn.name== "runtime.NumGoroutine")=false)
 {ρT:Type} {C:Nat->List AV->(AV->List AV->Option ρT)->Option ρT} {Lp:Nat->ao->(Ex->ao->Option ρT)->Option ρT} {ρ:ρT}
 (hC: ∀f as k,C f as k=some ρ-> ∃r os,CO f as r os/\k r os=some ρ)
 (hL: ∀E:ba,vy P E fn.ntmps H.pins->Z5 (Jq P E Lp ρ) c 0)
 {args:List AV} {Kf:AV->List AV->Option ρT} (h:T4 C Lp T H fn args Kf=some ρ) {res:AV} {outs:List AV} (hK: ∀r os,Kf r os=some ρ->r=res/\os=outs):
 Xy P f args res outs:=by
 refine⟨⟨fn,hf,by rw[hb];rfl,hname⟩,λβ who w cargs hsz hrel hnd h99 hnr hw hgl=> ?_⟩
 unfold T4 at h;rw[hb]at h;simp only at h;split at h
 case isFalse=>cases h
 rename_i hc;refine calls_of_wp hf hb ?_;have S:=qdd (pins:=H.pins) hsz hc.1 hrel hnd h99 hnr hw hgl;refine PU hm hT hCO ⟨rfl,λp hp=> ?_,rfl⟩ hC c 0 _ _ _ β who _ w (hL _ ⟨rfl,λp hp=> ?_,rfl⟩) h S λe U' he β' who' a' w' S'=> ?_
 . grind
 . grind
 . have fin:N1 T H fn args Kf U'=some ρ->a'.defers=[]/\ ∃v,(results fn a'.tmps).run P w'= .ok v w'/\V5 who w cargs res outs (β 98) (.returned v) w':=λhfin=>by
    obtain⟨res',outs',v,k1,k2,k3⟩:=q5s hT hfin hsz hc.1 hc.2 S';obtain⟨rfl,rfl⟩:=hK _ _ k1;exact⟨S'.dfr,v,k2,k3⟩
   cases e with
   |normal=>exact fin he
   |ret=>exact fin he
   |exit i=>cases he
end
def eqV:Value->Value->Bool
 | .int k n,.int u n'=>decide (k=u)&&decide (n=n')
 | .bool a,.bool b=>a==b
 | .slice none 0 0,.slice none 0 0=>true
 |_,_=>false
def qs7 {u v:Value} (h:eqV u v=true):u=v:=by unfold eqV at h;grind
def BW:List Value->List Value->Bool
 |[],[]=>true
 |u::us,v::vs=>eqV u v&&BW us vs
 |_,_=>false
def q85: ∀{us vs:List Value},BW us vs=true->us=vs
 |[],[],_=>rfl
 |[],_::_,h=>by cases h
 |_::_,[],h=>by cases h
 |u::us,v::vs,h=>by simp only[BW,zK]at h;rw[qs7 h.1,q85 h.2]
def YJ (P:Program) (e:Nat) (t:Ty):Bool:=match P.info? e with
 |some i=>decide (i.size=t.size)&&decide (i.bytes<=4096)&& !decide (i.bytes=0)&&(match i.zero with
  |some z=>BW z.cells.toList (Qp t)
  |none=>false)
 |none=>false
def qg7 {P:Program} {e:Nat} {t:Ty} (h:YJ P e t=true):EOK P e t:=by unfold YJ at h;split at h;{rename_i i J;simp only[zK,Bool.not_eq_true',decide_eq_true_eq,decide_eq_false_iff_not]at h;obtain⟨⟨⟨O,h2⟩,K⟩,u⟩:=h;split at u;{rename_i z G;exact⟨i,z,J,O,h2,K,G,q85 u⟩};{cases u}};{cases h}
def qau (P:Program) (t:Nat):Bool:=match P.underlying t with
 |some (.struct _)=>false
 |some (.array _ _)=>false
 |some _=>true
 |none=>false
def qby {P:Program} {t:Nat} (h:qau P t=true):Cj P t:=by unfold qau at h;split at h;{cases h};{cases h};{rename_i d G h2 u;refine⟨d,u,?_⟩;cases d<;>simp_all};{cases h}
def Wi (P:Program):List Field->List (Nat×Nat)->Bool
 |[],[]=>true
 |f::fs,x::xs=>decide (f.offset=x.1)&&(match P.info? f.type with
  |some i=>decide (i.size=x.2)
  |none=>false)&&(!decide (x.2=1)||qau P f.type)&&Wi P fs xs
 |_,_=>false
def q2x {P:Program}: ∀{fs:List Field} {xs:List (Nat×Nat)},Wi P fs xs=true->fs.length=xs.length/\
 ∀j (h:j<xs.length),∃f,fs[j]? =some f/\f.offset=xs[j].1/\ ∃i,P.info? f.type=some i/\i.size=xs[j].2/\(xs[j].2=1->Cj P f.type)
 |[],[],_=>⟨rfl,λj h=>absurd h (zC _)⟩
 |[],_::_,h=>by cases h
 |_::_,[],h=>by cases h
 |f::fs,x::xs,h=>by simp only[Wi,zK,decide_eq_true_eq]at h;obtain⟨⟨⟨J,h2⟩,h4⟩,G⟩:=h;obtain⟨K,g2⟩:=q2x G;refine⟨by simp[K],λj O=> ?_⟩;cases j with|zero=>{split at h2;{rename_i i u;exact⟨f,rfl,J,i,u,by simpa using h2,λh5=>qby (by{grind})⟩};{cases h2}}|succ j=>grind
def Jo (P:Program) (t:Nat):TD->Bool
 | .int k=>match P.underlying t with
   |some (.int G)=>decide (k=G)
   |_=>false
 | .bool=>match P.underlying t with
   |some .bool=>true
   |_=>false
 | .slice e ty=>(match P.underlying t with
   |some (.slice u)=>decide (e=u)
   |_=>false)&&YJ P e ty
 | .struct fs=>match P.underlying t with
   |some (.struct cu)=>Wi P cu.toList fs
   |_=>false
 | .array n _=>match P.underlying t with
   |some (.array m _)=>decide (n=m)
   |_=>false
 | .ptr e=>match P.underlying t with
   |some (.pointer u)=>decide (e=u)
   |_=>false
 | .string=>match P.underlying t with
   |some .string=>true
   |_=>false
 | .tab g k xs=>(match P.underlying t with
   |some (.array n e)=>decide (n=xs.length)&&(match P.info? e with
    |some i=>decide (i.size=1)
    |none=>false)
   |_=>false)&&decide ((g,k,xs)∈U7 P)
 | .other=>match P.underlying t with
   |some (.struct _)=>false
   |some (.array _ _)=>false
   |some _=>true
   |none=>false
def qfk {P:Program} {t:Nat} {d:TD} (h:Jo P t d=true):yJ P t d:=by cases d with|int k=>{simp only[Jo]at h;split at h<;>simp_all[yJ]}|bool=>{simp only[Jo]at h;split at h<;>simp_all[yJ]}|slice e ty=>{simp only[Jo,zK]at h;obtain⟨h1,h2⟩:=h;refine⟨?_,qg7 h2⟩;split at h1<;>simp_all}|struct fs=>{simp only[Jo]at h;split at h;{rename_i cu hu;obtain⟨g1,g2⟩:=q2x h;exact⟨cu,hu,by simpa using g1,λj hj=>by grind⟩};{cases h}}|array n x=>{simp only[Jo]at h;split at h;{rename_i m e hu;exact⟨e,by rw[hu];simp_all⟩};{cases h}}|ptr e=>{simp only[Jo]at h;split at h<;>simp_all[yJ]}|string=>{simp only[Jo]at h;split at h<;>simp_all[yJ]}|tab g k xs=>{simp only[Jo,zK,decide_eq_true_eq]at h;obtain⟨h1,h2⟩:=h;refine⟨?_,h2⟩;grind}|other=>{simp only[Jo]at h;split at h;{cases h};{cases h};{rename_i d h1 h2 hu;refine⟨d,hu,?_⟩;grind};{cases h}}
def qt0:Value->Bool
 | .agg _=>true
 |_=>false
def yw (P:Program) (t:Nat) (u:TI):Bool:=Jo P t u.desc&&(match P.info? t with
 |some i=>decide (i.size=u.cells.length)&&(match u.cells.mapM vE with
  |none=>true
  |some vs=>(match i.zero with
   |some z=>BW z.cells.toList vs&&(qt0 z==Q9 u.desc)
   |none=>false))
 |none=>false)
def qlq {P:Program} {t:Nat} {J:TI} (h:yw P t J=true):gZ P t J:=by simp only[yw,zK]at h;obtain⟨h1,h2⟩:=h;refine⟨?_,qfk h1⟩;split at h2;{rename_i i O;simp only[zK,decide_eq_true_eq]at h2;refine⟨i,O,h2.1,λvs G=> ?_⟩;rw[G]at h2;obtain⟨_,u⟩:=h2;simp only at u;split at u;{rename_i z K;simp only[zK,beq_iff_eq]at u;refine⟨z,K,q85 u.1,?_⟩;rw[<-u.2];cases z<;>simp[qt0]};{cases u}};{cases h2}
def QB (P:Program):Nat->TT->Bool
 |_,[]=>true
 |k,none::r=>QB P (k+1) r
 |k,some u::r=>yw P k u&&QB P (k+1) r
def q07 {P:Program}: ∀{T:TT} {k:Nat},QB P k T=true-> ∀j u,T[j]? =some (some u)->gZ P (k+j) u
 |[],k,_,j,u,h=>by simp at h
 |none::r,k,G,j,u,h=>by{cases j with|zero=>simp at h|succ j=>{have:=q07 (T:=r) (k:=k+1) G j u (by simpa using h);grind}}
 |some x::r,k,G,j,u,h=>by simp only[QB,zK]at G;cases j with|zero=>{simp at h;subst h;exact qlq G.1}|succ j=>{have:=q07 (T:=r) (k:=k+1) G.2 j u (by simpa using h);grind}
def OV (P:Program) (T:TT):Bool:=QB P 0 T
def ql5 {P:Program} {T:TT} (h:OV P T=true):bL P T:=λt u G=>by have:=q07 h t u (by{unfold TT.at at G;grind});simpa using this
inductive bK where
 |dead
 |bool
 |int (k:IntKind)
 |lit
 |fn (f:Nat)
 |imm (t:Ty)
 |nm (n:Nat) (t:Ty)
 |nl (t:Ty)
 |ref (s n sz:Nat)
 |refw (s n sz:Nat)
 |ptr (s n sz j:Nat)
 |iptr (g:Option Nat) (t:Ty) (j:Nat)
 |dp (n:Nat) (t:Ty)
 |drw (s n:Nat)
 |drr (s n:Nat)
 |wn (n:Nat) (t:Ty)
 |dq (n:Nat) (t:Ty)
@[reducible] def bK.Val:bK->Type
  | .dead=>Unit
  | .bool=>Bool
  | .int _=>Int
  | .lit=>Value
  | .fn _=>Unit
  | .imm t=>List (aX t)
  | .nm _ t=>List (aX t)
  | .nl _=>Unit
  | .ref _ _ _=>Unit
  | .refw _ _ _=>Nat×Nat
  | .ptr _ _ _ _=>Nat
  | .iptr _ t _=>List (aX t)×Nat
  | .dp _ t=>List (List (aX t))
  | .drw _ _=>Unit
  | .drr _ _=>Nat
  | .wn _ t=>List (aX t)
  | .dq _ t=>List (aX t)
def bK.enc:(s:bK)->s.Val->AV
 | .dead,_=> .dead
 | .bool,b=> .bool b
 | .int k,n=> .int k n
 | .lit,v=> .lit v
 | .fn f,_=> .lit (.func (.func f) #[] #[])
 | .imm t,xs=> .sl .imm t xs
 | .nm n t,xs=> .sl (.nm n) t xs
 | .nl t,_=> .sl .nl t []
 | .ref s n sz,_=> .ref s n sz none
 | .refw s n sz,w=> .ref s n sz (some w)
 | .ptr s n sz j,i=> .ptr s n sz i j
 | .iptr g t j,x=> .iptr g t x.1 x.2 j
 | .dp n t,xs=> .dp n t xs none
 | .drw s n,_=> .dr s n .whole
 | .drr s n,i=> .dr s n (.row i)
 | .wn n t,xs=> .wn n t xs
 | .dq n t,xs=> .dq n t xs none
def bK.dec:(s:bK)->AV->Option s.Val
 | .dead,.dead=>some ()
 | .bool,.bool b=>some b
 | .int k,.int J n=>if J=k then some n else none
 | .fn f,.lit (.func (.func g) as K)=>if g=f/\as.size=0/\K.size=0 then some ()else none
 | .lit,.lit v=>some v
 | .imm t,.sl .imm t' xs=>if h:t'=t then some (h▸xs)else none
 | .nm n t,.sl (.nm m) t' xs=>if m=n then(if h:t'=t then some (h▸xs)else none)else none
 | .nl t,.sl .nl t' []=>if t'=t then some ()else none
 | .ref s n sz,.ref G n' u none=>if G=s/\n'=n/\u=sz then some ()else none
 | .refw s n sz,.ref G n' u (some w)=>if G=s/\n'=n/\u=sz then some w else none
 | .ptr s n sz j,.ptr G n' u i j'=>if G=s/\n'=n/\u=sz/\j'=j then some i else none
 | .iptr g t j,.iptr g' t' xs i j'=>if h:t'=t then(if g'=g/\j'=j then some (h▸xs,i)else none)else none
 | .dp n t,.dp m t' xs none=>if m=n then(if h:t'=t then some (h▸xs)else none)else none
 | .drw s n,.dr G n' .whole=>if G=s/\n'=n then some ()else none
 | .drr s n,.dr G n' (.row i)=>if G=s/\n'=n then some i else none
 | .wn n t,.wn m t' xs=>if m=n then(if h:t'=t then some (h▸xs)else none)else none
 | .dq n t,.dq m t' xs none=>if m=n then(if h:t'=t then some (h▸xs)else none)else none
 |_,_=>none
def bK.dec_spec {s:bK} {v:AV} {x:s.Val} (h:s.dec v=some x):v=s.enc x:=by unfold bK.dec at h;split at h;{rfl};{cases h;rfl};{split at h;{rename_i e;cases h;subst e;rfl};{cases h}};{split at h;{rename_i e;obtain⟨rfl,u,e2⟩:=e;rw[Uq u,Uq e2];rfl};{cases h}};{cases h;rfl};{split at h;{rename_i e;subst e;cases h;rfl};{cases h}};{split at h;{rename_i e;subst e;split at h;{rename_i e;subst e;cases h;rfl};{cases h}};{cases h}};{split at h;{rename_i e;subst e;rfl};{cases h}};{split at h;{rename_i e;obtain⟨rfl,rfl,rfl⟩:=e;rfl};{cases h}};{split at h;{rename_i e;obtain⟨rfl,rfl,rfl⟩:=e;cases h;rfl};{cases h}};{split at h;{rename_i e;obtain⟨rfl,rfl,rfl,rfl⟩:=e;cases h;rfl};{cases h}};{split at h;{rename_i e;subst e;split at h;{rename_i e;obtain⟨rfl,rfl⟩:=e;cases h;rfl};{cases h}};{cases h}};{split at h;{rename_i e;subst e;split at h;{rename_i e;subst e;cases h;rfl};{cases h}};{cases h}};{split at h;{rename_i e;obtain⟨rfl,rfl⟩:=e;rfl};{cases h}};{split at h;{rename_i e;obtain⟨rfl,rfl⟩:=e;cases h;rfl};{cases h}};{split at h;{rename_i e;subst e;split at h;{rename_i e;subst e;cases h;rfl};{cases h}};{cases h}};{split at h;{rename_i e;subst e;split at h;{rename_i e;subst e;cases h;rfl};{cases h}};{cases h}};{cases h}
section
variable {S A:Type} (V:S->Type) (e:(s:S)->V s->A) (d:(s:S)->A->Option (V s))
@[reducible] def dW:List S->Type
  |[]=>Unit
  |s::r=>V s×dW r
def cV:(l:List S)->dW V l->List A
 |[],_=>[]
 |s::r,x=>e s x.1::cV r x.2
def tB:(l:List S)->List A->Option (dW V l)
 |[],[]=>some ()
 |s::r,v::vs=>match d s v,tB r vs with
  |some x,some xs=>some (x,xs)
  |_,_=>none
 |_,_=>none
def Oe (h: ∀s v x,d s v=some x->v=e s x): ∀{l:List S} {vs:List A} {x:dW V l},tB V d l vs=some x->vs=cV V e l x
 |[],[],x,_=>rfl
 |[],_::_,x,h'=>by cases h'
 |_::_,[],x,h'=>by cases h'
 |s::r,v::vs,x,h'=>by simp only[tB]at h';split at h';{rename_i y ys u e2;cases h';show v::vs=e s y::cV V e r ys;rw[<-h s v y u,<-Oe h e2]};{cases h'}
end
inductive fu where
 |c (s:bK)
 |bx (n:Nat) (cells:List bK)
 |agg (cells:List bK)
@[reducible] def fu.Val:fu->Type
  | .c s=>s.Val
  | .bx _ cells=>dW bK.Val cells
  | .agg cells=>dW bK.Val cells
def fu.enc:(s:fu)->s.Val->AV
 | .c s,x=>s.enc x
 | .bx n cells,x=> .bx (.nm n) (cV bK.Val bK.enc cells x)
 | .agg cells,x=> .agg (cV bK.Val bK.enc cells x)
def fu.dec:(s:fu)->AV->Option s.Val
 | .c s,v=>s.dec v
 | .bx n cells,.bx (.nm m) vs=>if m=n then tB bK.Val bK.dec cells vs else none
 | .agg cells,.agg vs=>tB bK.Val bK.dec cells vs
 |_,_=>none
def fu.dec_spec {s:fu} {v:AV} {x:s.Val} (h:s.dec v=some x):v=s.enc x:=by unfold fu.dec at h;split at h;{exact bK.dec_spec h};{split at h;{rename_i e;subst e;show AV.bx _ _=AV.bx _ _;rw[Oe bK.Val bK.enc bK.dec (λ_ _ _=>bK.dec_spec) h]};{cases h}};{show AV.agg _=AV.agg _;rw[Oe bK.Val bK.enc bK.dec (λ_ _ _=>bK.dec_spec) h]};{cases h}
inductive Sh where
 |a (s:fu)
 |tup (l:List fu)
@[reducible] def Sh.Val:Sh->Type
  | .a s=>s.Val
  | .tup l=>dW fu.Val l
def Sh.enc:(s:Sh)->s.Val->AV
 | .a s,x=>s.enc x
 | .tup l,x=> .tup (cV fu.Val fu.enc l x)
def Sh.dec:(s:Sh)->AV->Option s.Val
 | .a s,v=>s.dec v
 | .tup l,.tup vs=>tB fu.Val fu.dec l vs
 |_,_=>none
def Sh.dec_spec {s:Sh} {v:AV} {x:s.Val} (h:s.dec v=some x):v=s.enc x:=by unfold Sh.dec at h;split at h;{exact fu.dec_spec h};{show AV.tup _=AV.tup _;rw[Oe fu.Val fu.enc fu.dec (λ_ _ _=>fu.dec_spec) h]};{cases h}
@[reducible] def mD (s:Nat×Sh):Type:=s.2.Val
def yA (s:Nat×Sh) (x:mD s):Nat×AV:=(s.1,s.2.enc x)
def vK (s:Nat×Sh) (v:Nat×AV):Option (mD s):=if v.1=s.1 then s.2.dec v.2 else none
def qky (s:Nat×Sh) (v:Nat×AV) (x:mD s) (h:vK s v=some x):v=yA s x:=by obtain⟨k,u⟩:=v;unfold vK at h;split at h;{rename_i e;simp only at e h;subst e;rw[Sh.dec_spec h];rfl};{cases h}
abbrev SS:=List (Nat×Sh)
@[reducible] def SS.Val (l:SS):Type:=dW mD l
def SS.enc (l:SS) (x:l.Val):ao:=cV mD yA l x
def SS.dec (l:SS) (U:ao):Option l.Val:=tB mD vK l U
def SS.dec_spec {l:SS} {U:ao} {x:l.Val} (h:l.dec U=some x):U=l.enc x:=Oe mD yA vK qky h
@[reducible] def cB:List (Ex×SS)->Type
  |[]=>Empty
  |s::r=>s.2.Val⊕cB r
def tx:(l:List (Ex×SS))->cB l->Ex×ao
 |[],x=>x.elim
 |s::_,.inl x=>(s.1,s.2.enc x)
 |_::r,.inr y=>tx r y
def vq:(l:List (Ex×SS))->Ex->ao->Option (cB l)
 |[],_,_=>none
 |s::r,e,U=>if s.1=e then(match s.2.dec U with
   |some x=>some (.inl x)
   |none=>(vq r e U).map .inr)
  else(vq r e U).map .inr
def BX {R:Type} (K:Ex->ao->Option R):(l:List (Ex×SS))->cB l->Option R
 |[]=>λx=>x.elim
 |s::r=>λx=>match x with
  | .inl y=>K s.1 (s.2.enc y)
  | .inr y=>BX K r y
def q87: ∀{l:List (Ex×SS)} {e:Ex} {U:ao} {x:cB l},vq l e U=some x->tx l x=(e,U)
 |[],e,U,x,h=>by cases h
 |s::r,e,U,x,h=>by have rest:(vq r e U).map Sum.inr=some x->tx (s::r) x=(e,U):=λh=>by{obtain⟨y,u,rfl⟩:=Oz.1 h;exact q87 (l:=r) u};simp only[vq]at h;split at h;{rename_i he;split at h;{rename_i y u;cases h;show(s.1,s.2.enc y)=(e,U);rw[he,<-SS.dec_spec u]};{exact rest h}};{exact rest h}
def qcw {R:Type} {K:Ex->ao->Option R}: ∀{l:List (Ex×SS)} {x:cB l},BX K l x=K (tx l x).1 (tx l x).2
 |[],x=>x.elim
 |_::_,.inl _=>rfl
 |_::r,.inr y=>qcw (l:=r) (x:=y)
structure iZ where
 blk:Nat
 ins:SS
 outs:List (Ex×SS)
 run:ins.Val->Option (cB outs)
def jb (R:Type):List iZ->Nat->ao->(Ex->ao->Option R)->Option R
 |[],_,_,_=>none
 |l::r,u,U,K=>if l.blk=u then(match l.ins.dec U with
   |some x=>(l.run x).bind (BX K l.outs)
   |none=>jb R r u U K)
  else jb R r u U K
def qtt (P:Program) (E:ba) (c:Code) (l:iZ):Prop:= ∀x o,l.run x=some o-> ∀Q β who a w,aC E my β who (l.ins.enc x) [] a w->
 (∀β who a w,aC E my β who (tx l.outs o).2 [] a w->Q (ex (tx l.outs o).1) a w)->c.wp P Q a w
@[reducible] def qI (P:Program) (E:ba) (body:Code) (l:iZ):Prop:=qtt P E (Code.loop body) l
def qe5 {P:Program} {E:ba} {R:Type} {ρ:R} {u:Nat} {c:Code}: ∀{L:List iZ},(∀l∈L,l.blk=u->qtt P E c l)->Jq P E (jb R L) ρ u c
 |[],_=>λU K Q β who a w h=>by cases h
 |l::r,hL=>λU K Q β who a w h S J=>by have O:=qe5 (R:=R) (ρ:=ρ) (L:=r) (λx G=>hL x (mT G)) U K Q β who a w;simp only[jb]at h;split at h;{rename_i hb;split at h;{rename_i x G;obtain⟨o,ho,he⟩:=Option.bind_eq_some_iff.1 h;rw[qcw]at he;have:=SS.dec_spec G;subst this;exact hL l mS hb x o ho Q β who a w S (λβ' who' a' w' S'=>J _ _ he β' who' a' w' S')};{exact O h S J}};{exact O h S J}
def Kl {ins:SS} {outs:List (Ex×SS)} (F:ins.Val->Option (cB outs)) (e:Ex) (U:ao):Option (cB outs):=match e with
 | .normal=>(match ins.dec U with
   |some x=>F x
   |none=>none)
 | .exit i=>vq outs (.exit i) U
 | .ret=>vq outs .ret U
def qvf {P:Program} {CO:Q7} {T:TT} {E:ba} (hm:P.follows .mixedOrders=true) (hT:bL P T) (G: ∀f as r os,CO f as r os->Xy P f as r os) {N:Nat} {H:eY}
 (hE:vy P E N H.pins) {u:Nat} {ins:SS} {outs:List (Ex×SS)} {body:Code} {C:(R:Type)->Nat->List AV->(AV->List AV->Option R)->Option R} {L:List iZ}
 (hC: ∀R (ρ:R) f as k,C R f as k=some ρ-> ∃r os,CO f as r os/\k r os=some ρ)
 (hL: ∀R (ρ:R),Z5 (Jq P E (jb R L) ρ) body u)
 (F:Nat->ins.Val->Option (cB outs)) (h0: ∀x,F 0 x=none)
 (K: ∀n x,Pd (C (cB outs)) (jb (cB outs) L) T N H body u (ins.enc x) (Kl (F n))=F (n+1) x) (n:Nat):qI P E body ⟨u,ins,outs,F n⟩:=by intro x o O Q β who a w S hQ;refine qla hm hT G hE (hC _) (λρ=>hL _ ρ) F ins.enc (tx outs) (λn=>Kl (F n)) h0 (λn x ρ h=>by rw[K];exact h) (λn e U ρ h=> ?_) O S hQ;cases e with|normal=>{simp only[Kl]at h;split at h;{rename_i y J;exact .inl ⟨rfl,y,SS.dec_spec J,h⟩};{cases h}}|exit i=>exact .inr ⟨by simp,q87 h⟩|ret=>exact .inr ⟨by simp,q87 h⟩
abbrev Xn (l:List Sh):Type:=dW Sh.Val l
def gT (l:List Sh) (x:Xn l):List AV:=cV Sh.Val Sh.enc l x
def Nd (l:List Sh) (v:List AV):Option (Xn l):=tB Sh.Val Sh.dec l v
def qf9 {l:List Sh} {v:List AV} {x:Xn l} (h:Nd l v=some x):v=gT l x:=Oe Sh.Val Sh.enc Sh.dec (λ_ _ _=>Sh.dec_spec) h
structure jx where
 f:Nat
 args:List Sh
 res:Sh
 outs:List Sh
 run:Xn args->Option (res.Val×Xn outs)
def CC (R:Type):List jx->Nat->List AV->(AV->List AV->Option R)->Option R
 |[],_,_,_=>none
 |t::r,f,as,k=>if t.f=f then(match Nd t.args as with
   |some x=>(t.run x).bind λy=>k (t.res.enc y.1) (gT t.outs y.2)
   |none=>CC R r f as k)
  else CC R r f as k
def ib (P:Program) (t:jx):Prop:= ∀x y,t.run x=some y->Xy P t.f (gT t.args x) (t.res.enc y.1) (gT t.outs y.2)
def Z2 {P:Program} {R:Type} {ρ:R} {f:Nat} {as:List AV} {k:AV->List AV->Option R}: ∀{L:List jx},(∀t∈L,ib P t)->CC R L f as k=some ρ->
 ∃r os,Xy P f as r os/\k r os=some ρ
 |[],_,h=>by cases h
 |t::r,J,h=>by have G:=Z2 (R:=R) (ρ:=ρ) (f:=f) (as:=as) (k:=k) (L:=r) (λx u=>J x (mT u));simp only[CC]at h;split at h;{rename_i O;split at h;{rename_i x u;obtain⟨y,K,he⟩:=Option.bind_eq_some_iff.1 h;have:=qf9 u;subst this;exact⟨_,_,O▸J t mS x y K,he⟩};{exact G h}};{exact G h}
def Kd (res:Sh) (outs:List Sh) (r:AV) (os:List AV):Option (res.Val×Xn outs):=match res.dec r,Nd outs os with
 |some x,some y=>some (x,y)
 |_,_=>none
def qxt {P:Program} {T:TT} (hm:P.follows .mixedOrders=true) (hT:bL P T) {H:eY} {fn:Func} {c:Code} (t:jx)
 (hf:P.funcs[t.f]? =some fn) (hb:fn.body=some c) (hname:(fn.name== "runtime.NumGoroutine")=false) {Lc:List jx} (hC: ∀u∈Lc,ib P u) {L:List iZ}
 (hL: ∀E:ba,vy P E fn.ntmps H.pins-> ∀R (ρ:R),Z5 (Jq P E (jb R L) ρ) c 0)
 (hr: ∀x,T4 (CC (t.res.Val×Xn t.outs) Lc) (jb (t.res.Val×Xn t.outs) L) T H fn (gT t.args x) (Kd t.res t.outs)=t.run x):ib P t:=by
 intro x y hy;refine qsj hm hT (CO:=Xy P) (λ_ _ _ _ h=>h) hf hb hname (λf as k h=>Z2 hC h) (λE hE=>hL E hE _ y) ((hr x).trans hy) (λr os h=> ?_)
 unfold Kd at h;split at h
 . rename_i u v e1 e2;cases h;exact⟨Sh.dec_spec e1,qf9 e2⟩
 . cases h
@[reducible] def w_i8 (n:Int):Int:=IntKind.wrap .i8 n
@[reducible] def w_i16 (n:Int):Int:=IntKind.wrap .i16 n
@[reducible] def w_i32 (n:Int):Int:=IntKind.wrap .i32 n
@[reducible] def wI (n:Int):Int:=IntKind.wrap .i64 n
@[reducible] def ir (n:Int):Int:=IntKind.wrap .u8 n
@[reducible] def w_u16 (n:Int):Int:=IntKind.wrap .u16 n
@[reducible] def wK (n:Int):Int:=IntKind.wrap .u32 n
@[reducible] def wJ (n:Int):Int:=IntKind.wrap .u64 n
def qm (k:IntKind) (x y:Int):Int:=k.wrap (BitVec.ofInt k.bits x&&&BitVec.ofInt k.bits y).toNat
def bf (k:IntKind) (x y:Int):Int:=k.wrap (BitVec.ofInt k.bits x|||BitVec.ofInt k.bits y).toNat
def Zy (k:IntKind) (x y:Int):Int:=k.wrap (BitVec.ofInt k.bits x^^^BitVec.ofInt k.bits y).toNat
def Of (k:IntKind) (x y:Int):Int:=k.wrap (BitVec.ofInt k.bits x&&& ~~~(BitVec.ofInt k.bits y)).toNat
def bE (k:IntKind) (a b:Int):Int:=k.wrap (a*2^(min b.toNat k.bits))
def aJ (k:IntKind) (a b:Int):Int:=a.fdiv (2^(min b.toNat k.bits))
def Zx:Code->Nat->List (Nat×Code)
 | .seq a b,k=>Zx a k++Zx b k
 | .cond _ a b,k=>Zx a k++Zx b k
 | .block id c,_=>Zx c id
 | .scope c,k=>Zx c k
 | .loop body,k=>[(k,body)]
 |_,_=>[]
def gW (f:Func):Code:=f.body.getD .skip
def iG (L:Nat->Code->Prop):List (Nat×Code)->Prop
 |[]=>True
 |p::r=>L p.1 p.2/\iG L r
def iG.app {L:Nat->Code->Prop}: ∀{l r:List (Nat×Code)},iG L (l++r)->iG L l/\iG L r
 |[],_,h=>⟨trivial,h⟩
 |_::l,_,h=>⟨⟨h.1,(iG.app (l:=l) h.2).1⟩,(iG.app (l:=l) h.2).2⟩
def Y3 {L:Nat->Code->Prop}: ∀{c:Code} {k:Nat},iG (λk b=>L k (.loop b)) (Zx c k)->Z5 L c k
 | .seq a b,k,h=>⟨Y3 (iG.app h).1,Y3 (iG.app h).2⟩
 | .cond _ a b,k,h=>⟨Y3 (iG.app h).1,Y3 (iG.app h).2⟩
 | .block id c,_,h=>Y3 (c:=c) h
 | .loop body,k,h=>h.1
 | .scope c,_,h=>Y3 (c:=c) h
 | .skip,_,_=>trivial
 | .region _ _ _,_,_=>trivial
 | .rangeFunc _ _ _ _,_,_=>trivial
 | .exit _,_,_=>trivial
 | .label _,_,_=>trivial
 | .goto _,_,_=>trivial
 | .ret,_,_=>trivial
 | .refuse _,_,_=>trivial
def wi {n:Int} (u: -9223372036854775808<=n) (h2:n<9223372036854775808):IntKind.wrap .i64 n=n:=by unfold IntKind.wrap;show(if(true&&decide (n%18446744073709551616>=9223372036854775808))=true then n%18446744073709551616-18446744073709551616 else n%18446744073709551616)=n;grind
@[simp] def wQ {n:Int}:wI n=IntKind.wrap .i64 n:=rfl
def ay {k:Nat} (h:k<4611686018427387904):IntKind.wrap .i64 ((k:Int)+1)=((k+1:Nat):Int):=by rw[wi O O];omega
def GN {k:Nat} (h:k<4611686018427387904) (u:0<k):IntKind.wrap .i64 ((k:Int)-1)=((k-1:Nat):Int):=by rw[wi O O];omega
def wu {n:Int} (u:0<=n) (h2:n<18446744073709551616):IntKind.wrap .u64 n=n:=by unfold IntKind.wrap;show(if(false&&decide (n%18446744073709551616>=9223372036854775808))=true then n%18446744073709551616-18446744073709551616 else n%18446744073709551616)=n;grind
@[simp] def bQ {α:Type} {p:Prop} [Decidable p] {a b:α}:(bif decide p then a else b)=if p then a else b:=by by_cases h:p<;>simp[h]
@[simp] def Gw {α:Type} {p:Bool} {a b:α}:(bif !p then a else b)=bif p then b else a:=by cases p<;>rfl
@[simp] def aB {α:Type} {x y:Int} {a b:α}:(bif x==y then a else b)=if x=y then a else b:=by grind
@[simp] def aO {α:Type} {x y:Int} {a b:α}:(bif x !=y then a else b)=if x=y then b else a:=by grind
def inr {k n:Nat} (h:k<n):(0:Int)<=(k:Int)/\(k:Int)<(n:Int):=O
def iq {α:Type} {xs:List α} {k:Nat} {d:α} (h:k<xs.length):xs.drop k=xs.getD k d::xs.drop (k+1):=by simp_all
def qw (p:Nat->Bool) (k c:Nat):Bool:=(List.range' k (c-k)).all p
def Qd {p:Nat->Bool} {k c:Nat} (h:k<c):qw p k c=(p k&&qw p (k+1) c):=by unfold qw;grind
def Qk {p:Nat->Bool} {k c:Nat} (h: ¬k<c):qw p k c=true:=by unfold qw;grind
def qp {p:Nat->Bool} {k c:Nat}:qw p k c=true↔ ∀i,k<=i->i<c->p i=true:=by unfold qw;grind
def q2w {α:Type} {xs:List α} {k:Nat} {d:α} (h:k<xs.length):xs.take (k+1)=xs.take k++[xs.getD k d]:=by simp_all
def xw {α:Type} {xs:List α} {k e:Nat} {d:α} (h:k<e):(xs.take e).getD k d=xs.getD k d:=by simp[List.getD,h]
def xx {α:Type} {xs:List α} {k e:Nat} {d:α}:(xs.drop e).getD k d=xs.getD (e+k) d:=by grind
def Z6 {α:Type} {xs:List α} {x d:α} (h:x∈xs): ∃k,k<xs.length/\xs.getD k d=x:=by obtain⟨k,u,e⟩:=ml h;exact⟨k,u,by simp[List.getD,u,e]⟩
def Wu {α:Type} {xs:List α} {k:Nat} {x d:α} (h:k<xs.length):(xs.set k x).getD k d=x:=by simp[List.getD,h]
def bD {α:Type} {xs:List α} {k j:Nat} {x d:α} (h:k≠j):(xs.set k x).getD j d=xs.getD j d:=by grind
def Xf {α:Type} {n k:Nat} {x d:α} (h:k<n):(List.replicate n x).getD k d=x:=by simp[List.getD,h]
def qqs {α:Type} {xs ys:List α} (d:α) (u:xs.length=ys.length) (h: ∀k,k<xs.length->xs.getD k d=ys.getD k d):xs=ys:=by refine Uj u λk G h2=> ?_;grind
def Db {R:Type}:Nat->List AV->(AV->List AV->Option R)->Option R:=λ_ _ _=>none
def Da {R:Type}:Nat->ao->(Ex->ao->Option R)->Option R:=λ_ _ _=>none
def G8 (e:Ex) (U:ao):Option ao:=match e with
 | .normal=>some U
 |_=>none
def vT (e:Ex) (U:ao):Option ao:=match e with
 | .ret=>some U
 |_=>none
def q84 {CO:Q7} {R:Type} {ρ:R}: ∀f as k,Db f as k=some ρ-> ∃r os,CO f as r os/\k r os=some ρ:=λ_ _ _ h=>by cases h
def q7l {P:Program} {E:ba} {R:Type} {ρ:R} {u:Nat} {body:Code}:Jq P E (Da (R:=R)) ρ u body:=λ_ _ _ _ _ _ _ h=>by cases h
def Zv:Code->Bool
 | .seq a b=>Zv a&&Zv b
 | .cond _ a b=>Zv a&&Zv b
 | .block _ c=>Zv c
 | .scope c=>Zv c
 | .loop _=>false
 |_=>true
def Y7 {L:Nat->Code->Prop} (u: ∀k c,L k c): ∀{c:Code} {k:Nat},Zv c=true->Z5 L c k
 | .seq a b,k,h=>by{simp only[Zv,zK]at h;exact⟨Y7 u h.1,Y7 u h.2⟩}
 | .cond _ a b,k,h=>by{simp only[Zv,zK]at h;exact⟨Y7 u h.1,Y7 u h.2⟩}
 | .block id c,_,h=>Y7 u (c:=c) h
 | .loop body,k,h=>by cases h
 | .skip,_,_=>trivial
 | .region _ _ _,_,_=>trivial
 | .rangeFunc _ _ _ _,_,_=>trivial
 | .exit _,_,_=>trivial
 | .scope c,_,h=>Y7 u (c:=c) h
 | .label _,_,_=>trivial
 | .goto _,_,_=>trivial
 | .ret,_,_=>trivial
 | .refuse _,_,_=>trivial
section
variable {P:Program} {CO:Q7} {T:TT} {E:ba} {D:Nat->Prop} {β:aU} {who:bp} {U:ao} {a:Act} {w:World}
def qhf (w:World) (d:Nat) {ty e:Nat} {ad:Option Addr} {l c:Nat} (hu:P.underlying ty=some (.slice e)):
 (Op.equalIn (d+1) ty (.slice ad l c) (.slice none 0 0)).run P w= .ok ad.isNone w:=by cases ad<;>simp[Op.equalIn,run_underlying hu]
def qcq (op:BinOp) (t:Nat) (x y:Operand) (ad:Option Addr) (l c:Nat) (w:World):
 (eqGuard op t x y (.slice ad l c) (.slice none 0 0)).run P w= .ok () w:=by unfold eqGuard;cases op<;>rfl
def hO.shape {t:Ty} {xs:List (aX t)} {v:Value} (h:hO who w t xs v): ∃ad l c,v= .slice ad l c/\(ad.isNone=true->xs=[]):=by rcases h with⟨rfl,rfl⟩|⟨b,o,cap,rfl,_⟩;{exact⟨_,_,_,rfl,λ_=>rfl⟩};grind
def qq6 (hT:bL P T) (hE:E.prog=P) {N:Nat} (hN:E.N=N) (hp:E.pins=[]) {p q s:Nat} {ty e ty2 k:Nat} {t:Ty} {cells:List ZC} {o0 o1:Oper} {X:Code}
 (O:T.at ty=some ⟨.slice e t,cells⟩) (h0:o0.op= .move (.tmp s)) (h0d:o0.dst=some p) (h0g:o0.guard=none)
 (h1:o1.op= .binOp .eql ty (.tmp p) (.const (.slice none 0 0)) ty2) (h1d:o1.dst=some q) (h1g:o1.guard=none)
 (J:p<N) (d0:q<N) (j0:p≠q) {xs:List (aX t)} (hs:U.get s= .sl .imm t xs) (c0:U.get p= .dead) (b0:U.get q= .dead)
 (S:aC E my β who U [] a w) {Q:Exit->Act->World->Prop}
 (hX:xs=[]-> ∀a,aC E my β who U [] a w->X.wp P Q a w) (hF: ∀a,aC E my β who U [] a w->Q .normal a w):
 (Code.seq (.region k #[o0,o1] false) (.cond (.tmp q) X .skip)).wp P Q a w:=by obtain⟨ad,l,c,hv,i0⟩:=hO.shape (show hO who w t xs (a.tmps.getD s undef) by have:=S.rel s;rw[hs]at this;exact this);have K:a.eval (.tmp s)= .slice ad l c:=by{rw[Act.eval];exact hv};refine wp_seq (wp_region_list ?_);have S1:aC E my β who (U.set p (.sl .imm t xs)) [] (a.put (some p) (a.eval (.tmp s))) w:= (S.take0 (v:= .sl .imm t xs) (c:=a.eval (.tmp s)) (by have:=S.rel s;rw[hs]at this;exact this) rfl (λn u=>by cases u)).put (by rw[hN];exact J) (λx G=>by rw[hp]at G;cases G);have e0:(a.put (some p) (a.eval (.tmp s))).eval (.tmp p)= .slice ad l c:=by{have a0:p<a.tmps.size:=by{rw[S.tsz,hN];exact J};rw[Act.eval];simp[Act.put,Array.getD_eq_getD_getElem?,a0,K]};have S2:aC E my β who ((U.set p (.sl .imm t xs)).set q (.bool ad.isNone)) [] ((a.put (some p) (a.eval (.tmp s))).put (some q) (.bool ad.isNone)) w:= (S1.take0 (v:= .bool ad.isNone) (c:= .bool ad.isNone) rfl rfl (λn u=>by cases u)).put (by rw[hN];exact d0) (λx G=>by rw[hp]at G;cases G);show wpList P #[o0,o1] _ [o0,o1] a w;unfold wpList;rw[iP (by simp[Region.wanted,h0g])];refine .inl ?_;unfold Oper.wp;rw[show(execOp a.eval o0).run P w= .ok (.value (a.eval (.tmp s))) w by unfold execOp;simp only[h0];rfl];show wpList P #[o0,o1] _ [o1] (a.put o0.dst (a.eval (.tmp s))) w;rw[h0d];unfold wpList;rw[iP (by simp[Region.wanted,h1g])];refine .inl ?_;unfold Oper.wp;have hu:P.underlying ty=some (.slice e):=(hT ty _ O).desc.1;have hexec:(execOp (a.put (some p) (a.eval (.tmp s))).eval o1).run P w= .ok (.value (.bool ad.isNone)) w:=by{unfold execOp;simp only[h1];refine vL ?_;have hc:(a.put (some p) (a.eval (.tmp s))).eval (.const (.slice none 0 0))= .slice none 0 0:=rfl;rw[e0,hc];have he:(Op.equal ty (.slice ad l c) (.slice none 0 0)).run P w= .ok ad.isNone w:=qhf w 9999 hu;simp only[Sem.run_bind,qcq,Result.andThen_ok];simp[binOp,he]};rw[hexec];simp only[Oper.upon,h1d];unfold wpList;show(Code.cond (.tmp q) X .skip).wp P Q _ w;have S3:aC E my β who U [] ((a.put (some p) (a.eval (.tmp s))).put (some q) (.bool ad.isNone)) w:=by{refine((S2.abs (s:=p) (v:= .dead) trivial (λn u=>by cases u) yk (λn u=>by cases u)).abs (s:=q) (v:= .dead) trivial (λn u=>by cases u) yk (λn u=>by cases u)).ext λx=> ?_;by_cases e1:x=q;{subst e1;rw[qg,b0]};{rw[qf _ _ e1];by_cases e2:x=p;{subst e2;rw[qg,c0]};{rw[qf _ _ e2,qf _ _ e1,qf _ _ e2]}}};have hq:=S2.rel q;rw[qg]at hq;refine wp_cond (t:=ad.isNone) hq ?_;cases g0:ad.isNone with|true=>grind|false=>{rw[g0]at S3;rw[ae (by simp)];exact wp_skip (hF _ S3)}
end
def qto (t:Ty):Xn [.a (.c (.imm t))]->Option ((Sh.a (.c (.nm 0 t))).Val×Xn [.a (.c .dead)]):=λx=>
 if([]:List (aX t)).length+x.1.length<=1073741824 then some (x.1,((),()))else none
def qrb {P:Program} {T:TT} (hm:P.follows .mixedOrders=true) (hT:bL P T) {H:eY} {fn:Func} {f:Nat} {t:Ty} {ty e ty2 k:Nat} {cells:List ZC}
 {A X Y:Code} {o0 o1:Oper} (hf:P.funcs[f]? =some fn)
 (hb:fn.body=some (.seq A (.seq (.seq (.region k #[o0,o1] false) (.cond (.tmp 4) X .skip)) Y)))
 (hname:(fn.name== "runtime.NumGoroutine")=false) (hti:T.at ty=some ⟨.slice e t,cells⟩)
 (h0:o0.op= .move (.tmp 0)) (h0d:o0.dst=some 3) (h0g:o0.guard=none)
 (h1:o1.op= .binOp .eql ty (.tmp 3) (.const (.slice none 0 0)) ty2) (h1d:o1.dst=some 4) (h1g:o1.guard=none)
 (hN:5<=fn.ntmps) (hpins:H.pins=[]) (hlA:Zv A=true) (hlX:Zv X=true) (hlY:Zv Y=true)
 (U1 U2:List (aX t)->ao)
 (hA: ∀xs,oC Db Da T fn.ntmps H A 0 (Ju 0 [.sl .imm t xs]) G8=some (U1 xs))
 (g0: ∀xs,(U1 xs).get 0= .sl .imm t xs) (g3: ∀xs,(U1 xs).get 3= .dead) (g4: ∀xs,(U1 xs).get 4= .dead)
 (hX:oC Db Da T fn.ntmps H X 0 (U1 []) vT=some (U2 []))
 (hY: ∀xs,oC Db Da T fn.ntmps H Y 0 (U1 xs) vT=if([]:List (aX t)).length+xs.length<=1073741824 then some (U2 xs)else none)
 (hfin: ∀xs,N1 T H fn [.sl .imm t xs] (λr os=>some (r,os)) (U2 xs)=some (.sl (.nm 0) t xs,[.dead])):
 ib P ⟨f,[.a (.c (.imm t))],.a (.c (.nm 0 t)),[.a (.c .dead)],qto t⟩:=by
 intro x y hy;obtain⟨xs,u⟩:=x
 have hlen:([]:List (aX t)).length+xs.length<=1073741824/\y=(xs,((),())):=by
  unfold qto at hy;simp only at hy;split at hy
  . grind
  . cases hy
 obtain⟨hlen,rfl⟩:=hlen;show Xy P f [.sl .imm t xs] (.sl (.nm 0) t xs) [.dead];refine⟨⟨fn,hf,by rw[hb];rfl,hname⟩,λβ who w cargs hsz hrel hnd h99 hnr hw hgl=> ?_⟩
 refine calls_of_wp hf hb ?_;have hNt:[AV.sl .imm t xs].length<=fn.ntmps:=by simp;omega
 have S:=qdd (pins:=H.pins) hsz hNt hrel hnd h99 hnr hw hgl;generalize hE:(⟨P,w,who,H.pins.map λi=>(i,(cargs++Array.replicate (fn.ntmps-cargs.size) undef).getD i undef),fn.ntmps,hgl,β 98⟩:ba)=E at S
 have hEO:vy P E fn.ntmps H.pins:=by
  subst hE;exact⟨rfl,λp hp=>by grind,rfl⟩
 have hEp:E.pins=[]:=by subst hE;simp[hpins]
 have fin: ∀β' who' a' w',aC E my β' who' (U2 xs) [] a' w'->a'.defers=[]/\ ∃v,(results fn a'.tmps).run P w'= .ok v w'/\V5 who w cargs (.sl (.nm 0) t xs) [.dead] (β 98) (.returned v) w':=λβ' who' a' w' S'=>by
  subst hE;obtain⟨res',outs',v,k1,k2,k3⟩:=q5s hT (hfin xs) hsz hNt (by rfl) S'
  cases k1
  exact⟨S'.dfr,v,k2,k3⟩
 refine wp_seq (PU (CO:=Xy P) hm hT (λ_ _ _ _ h=>h) hEO q84 A 0 _ G8 _ β who _ w (Y7 (λ_ _=>q7l) hlA) (hA xs) S λe1 U' he β' who' a' w' S'=> ?_)
 cases e1 with
 |normal=>
  cases he
  refine wp_seq (qq6 hT hEO.2.2 hEO.1 hEp hti h0 h0d h0g h1 h1d h1g O O O (g0 xs) (g3 xs) (g4 xs) S' (λhnil a2 S2=> ?_) (λa2 S2=> ?_))
  . subst hnil;refine PU (CO:=Xy P) hm hT (λ_ _ _ _ h=>h) hEO q84 X 0 _ vT _ _ _ _ _ (Y7 (λ_ _=>q7l) hlX) hX S2 λe2 U3 he2 β3 who3 a3 w3 S3=> ?_
    cases e2 with
    |ret=>cases he2;exact fin _ _ _ _ S3
    |normal=>cases he2
    |exit i=>cases he2
  . refine PU (CO:=Xy P) hm hT (λ_ _ _ _ h=>h) hEO q84 Y 0 _ vT _ _ _ _ _ (Y7 (λ_ _=>q7l) hlY) ((hY xs).trans (iP hlen)) S2 λe2 U3 he2 β3 who3 a3 w3 S3=> ?_
    cases e2 with
    |ret=>cases he2;exact fin _ _ _ _ S3
    |normal=>cases he2
    |exit i=>cases he2
 |ret=>cases he
 |exit i=>cases he
def pA:Code->Code
 | .seq a _=>a
 |_=> .skip
def pB:Code->Code
 | .seq _ b=>b
 |_=> .skip
def pX:Code->Code
 | .cond _ x _=>x
 |_=> .skip
def pO (i:Nat):Code->Oper
 | .region _ ops _=>ops.getD i default
 |_=>default
structure LT where
 blk:Nat
 ins:SS
 outs:List (Ex×SS)
 run:Nat->ins.Val->Option (cB outs)
def LT.at (t:LT) (n:Nat):iZ:=⟨t.blk,t.ins,t.outs,t.run n⟩
def okB (fn:Func):Bool:=fn.body.isSome&& !(fn.name== "runtime.NumGoroutine")
def lok {P:Program} {T:TT} (hm:P.follows .mixedOrders=true) (J:bL P T) {N:Nat} {H:eY} {E:ba} (O:vy P E N H.pins) {D:List jx} (hD: ∀u∈D,ib P u) {B:Code} {L:List iZ} (t:LT)
 (K: ∀R (ρ:R),iG (oE P E (jb R L) ρ) (Zx B t.blk))
 (G: ∀n x,Pd (CC (cB t.outs) D) (jb (cB t.outs) L) T N H B t.blk (t.ins.enc x) (Kl (t.run n))=t.run (n+1) x) (h0: ∀x,t.run 0 x=none) (n:Nat):qI P E B (t.at n):=
 qvf (CO:=Xy P) hm J (λ_ _ _ _ h=>h) O (C:=λR=>CC R D) (L:=L) (λ_ _ _ _ _ h=>Z2 hD h) (λR ρ=>Y3 (K R ρ)) t.run h0 G n
def fok {P:Program} {T:TT} (hm:P.follows .mixedOrders=true) (hT:bL P T) {H:eY} {fn:Func} (t:jx) (hf:P.funcs[t.f]? =some fn) (G:okB fn=true) {D:List jx} (hD: ∀u∈D,ib P u) {L:List iZ}
 (K: ∀E:ba,vy P E fn.ntmps H.pins-> ∀R (ρ:R),iG (oE P E (jb R L) ρ) (Zx (gW fn) 0))
 (O: ∀x,T4 (CC (t.res.Val×Xn t.outs) D) (jb (t.res.Val×Xn t.outs) L) T H fn (gT t.args x) (Kd t.res t.outs)=t.run x):ib P t:=by unfold okB at G;rw[zK]at G;obtain⟨h1,h2⟩:=G;obtain⟨c,J⟩:=Option.isSome_iff_exists.1 h1;have e:gW fn=c:=by{rw[gW,J];rfl};rw[e]at K;exact qxt hm hT t hf J (by simpa using h2) hD (λE hE R ρ=>Y3 (K E hE R ρ)) O
open Go.ChangeShapes Go.WideShapes Go.ChangeAt Go.RowKit
def eO:bp:=λ_=>none
def dC:(t:Ty)->aX t->List Value
 | .int k,x=>[.int k x]
 | .bool,b=>[.bool b]
 | .sl _ _,_=>[]
 | .pr a b,x=>dC a x.1++dC b x.2
def Cx:Ty->Bool
 | .int _=>true
 | .bool=>true
 | .sl _ _=>false
 | .pr a b=>Cx a&&Cx b
def yv:(t:Ty)->aX t->Prop
 | .int k,x=>(Lit.int k x).wf=true
 | .bool,_=>True
 | .sl _ t,xs=> ∀x∈xs,yv t x
 | .pr a b,x=>yv a x.1/\yv b x.2
def QN: ∀{t:Ty} {x:aX t},Cx t=true->(dC t x).length=t.size
 | .int _,_,_=>rfl
 | .bool,_,_=>rfl
 | .sl _ _,_,h=>by cases h
 | .pr a b,x,h=>by simp only[Cx,zK]at h;simp[dC,Ty.size,QN h.1,QN h.2]
def q82 {who:bp} {w:World}: ∀{t:Ty} {x:aX t} {g:Nat->Option Value} {j:Nat},Cx t=true->(∀i,i<t.size->g (j+i)=(dC t x)[i]?)->be who w t x g j
 | .int _,_,g,j,_,h=>by have:=h 0 (by simp[Ty.size]);simpa [be,dC]using this
 | .bool,_,g,j,_,h=>by have:=h 0 (by simp[Ty.size]);simpa [be,dC]using this
 | .sl _ _,_,_,_,h,_=>by cases h
 | .pr a b,x,g,j,h,u=>by simp only[Cx,zK]at h;have K:=QN (x:=x.1) h.1;have J:=QN (x:=x.2) h.2;refine⟨q82 h.1 λi G=> ?_,q82 h.2 λi G=> ?_⟩;{rw[u i (by simp[Ty.size];omega)];simp only[dC];grind};{rw[show j+a.size+i=j+(a.size+i) by omega,u (a.size+i) (by simp[Ty.size];omega)];simp only[dC];grind}
def PY (P:Program) (chk:TypeId->Ty->Bool):List Field->Nat->Ty->Bool
 |[],_,_=>false
 |[f],off,ty=>decide (f.offset=off)&&decide (P.cellsOf f.type=ty.size)&&chk f.type ty
 |f::fs,off,.pr a b=>decide (f.offset=off)&&decide (P.cellsOf f.type=a.size)&&chk f.type a&&PY P chk fs (off+a.size) b
 |_,_,_=>false
def qV (P:Program):Nat->TypeId->Ty->Bool
 |0,_,_=>false
 |n+1,t,ty=>match P.underlying t with
  |some (.int k)=>(match ty with
   | .int u=>decide (u=k)
   |_=>false)
  |some .bool=>(match ty with
   | .bool=>true
   |_=>false)
  |some (.struct fs)=>decide (P.cellsOf t=ty.size)&&PY P (qV P n) fs.toList 0 ty
  |_=>false
section
variable {H:Type} {enc:TypeId×Value->H} {P:Program} {w:World} {base:Nat} {spare:Nat->Bool} {held:Bool}
def q0r {fuel:Nat} {t:TypeId} {cs:List Value} {x:DataW H×List MemPlace} {fs:Array Field} (G:P.underlying t=some (.struct fs))
 (h:DataW.trod enc P w base spare held fuel t cs=some x):
 cs.length=P.cellsOf t/\ ∃n,fuel=n+1/\ ∃xs,fs.toList.mapM (λf=>DataW.trod enc P w base spare held n f.type ((cs.drop f.offset).take (P.cellsOf f.type)))=some xs:=by
 cases fuel with
 |zero=>simp[DataW.trod]at h
 |succ n=>
  unfold DataW.trod at h;rw[G]at h
  have key:(if cs.length=P.cellsOf t then(fs.toList.mapM λf=>DataW.trod enc P w base spare held n f.type ((cs.drop f.offset).take (P.cellsOf f.type))).map λxs=>((.agg (xs.map (·.1)):DataW H),xs.flatMap (·.2))else none)=some x:=by
   split at h<;>first|(rename_i J _;cases J)|omega|exact h|skip
   all_goals simp_all
  split at key
  . rename_i K;obtain⟨xs,u,_⟩:=Oz.1 key
    grind
  . cases key
def ZT {α β:Type} {f:α->Option β}: ∀{l:List α} {r:List β},l.mapM f=some r-> ∀x∈l,∃y,f x=some y
 |[],_,_,x,h=>by cases h
 |a::l,r,h,x,u=>by rw[UI]at h;cases G:f a with|none=>{rw[G]at h;cases h}|some y=>{rw[G]at h;cases J:l.mapM f with|none=>simp[J]at h|some ys=>{rcases mC u with rfl|u;{exact⟨y,G⟩};{exact ZT J x u}}}
def q71 {chk:TypeId->Ty->Bool} {n:Nat}
 (ih: ∀t ty cs x,chk t ty=true->DataW.trod enc P w base spare held n t cs=some x->Cx ty=true/\ ∃v:aX ty,cs=dC ty v/\yv ty v) (cs:List Value):
 ∀(fs:List Field) (off:Nat) (ty:Ty),PY P chk fs off ty=true->(∀f∈fs,∃y,DataW.trod enc P w base spare held n f.type ((cs.drop f.offset).take (P.cellsOf f.type))=some y)->
  Cx ty=true/\ ∃v:aX ty,(cs.drop off).take ty.size=dC ty v/\yv ty v
 |[],_,_,h,_=>by cases h
 |[f],off,ty,h,G=>by{simp only[PY,zK,decide_eq_true_eq]at h;obtain⟨y,K⟩:=G f mS;grind}
 |f::J::fs,off,.pr a b,h,G=>by{simp only[PY,zK,decide_eq_true_eq]at h;obtain⟨⟨⟨h1,h2⟩,h3⟩,h4⟩:=h;obtain⟨y,K⟩:=G f mS;rw[h1,h2]at K;obtain⟨g1,u,g2,g3⟩:=ih _ _ _ _ h3 K;obtain⟨q1,v,q2,q3⟩:=q71 ih cs (J::fs) _ b h4 (λf O=>G f (mT O));refine⟨by simp[Cx,g1,q1],(u,v),?_,g3,q3⟩;show _=dC a u++dC b v;rw[<-g2,<-q2,<-List.drop_drop,show(Ty.pr a b).size=a.size+b.size from rfl,List.take_add]}
 |f::J::fs,off,.int _,h,_=>by cases h
 |f::J::fs,off,.bool,h,_=>by cases h
 |f::J::fs,off,.sl _ _,h,_=>by cases h
def qep: ∀(m:Nat) (t:TypeId) (ty:Ty) (fuel:Nat) (cs:List Value) (x:DataW H×List MemPlace),qV P m t ty=true->DataW.trod enc P w base spare held fuel t cs=some x->
 Cx ty=true/\ ∃v:aX ty,cs=dC ty v/\yv ty v
 |0,_,_,_,_,_,h,_=>by cases h
 |m+1,t,ty,fuel,cs,x,h,G=>by unfold qV at h;split at h;{rename_i k hu;split at h;{rename_i J;have:J=k:=by{simpa using h};subst this;obtain⟨n,rfl,rfl,wn⟩:=DataW.trod_int hu G;exact⟨rfl,n,rfl,wn⟩};{cases h}};{rename_i hu;split at h;{obtain⟨b,rfl,rfl⟩:=DataW.trod_bool hu G;exact⟨rfl,b,rfl,trivial⟩};{cases h}};{rename_i fs hu;obtain⟨hl,n,rfl,xs,u⟩:=q0r hu G;simp only[zK,decide_eq_true_eq]at h;obtain⟨g1,v,g2,g3⟩:=q71 (n:=n) (λt ty cs x O K=>qep m t ty n cs x O K) cs fs.toList 0 ty h.2 (ZT u);grind};{cases h}
def qw6 {m:Nat} {t e:TypeId} {ty:Ty} {fuel:Nat} {v:Value} {x:DataW H×List MemPlace} (hu:P.underlying t=some (.slice e)) (hc:qV P m e ty=true) (hcell:P.cellsOf e=ty.size)
 (h:DataW.trod enc P w base spare held fuel t [v]=some x) (hok: ∀a len cap,v= .slice (some a) len cap->a.spot=none/\a.block<w.heap.size):
 ∃xs:List (aX ty),hO eO w ty xs v/\(∀y∈xs,yv ty y)/\xs.length<=maxLen:=by rcases Deep.open_slice hu h with⟨hcs,_⟩|⟨a,len,cap,mm,n,D,Pl,hcs,hb,hl,hm,hmm,hx,hel⟩;{simp only[List.cons.injEq,and_true]at hcs;exact⟨[],.inl ⟨hcs,rfl⟩,(λy hy=>by simp at hy),lM _⟩};{simp only[List.cons.injEq,and_true]at hcs;subst hcs;obtain⟨hsp,hbl⟩:=hok a len cap rfl;obtain⟨b,o,s⟩:=a;simp only at hsp hbl;subst hsp;have hlm:len<=mm:=by{rw[hmm];split<;>omega};have key: ∀i,i<len-> ∃y:aX ty,yv ty y/\be eO w ty y (az w b (o+i*ty.size)) 0:=λi hi=>by{obtain⟨cs',h1,h2⟩:=hel i O;obtain⟨g1,y,rfl,g3⟩:=qep m e ty n cs' _ hc h2;refine⟨y,g3,q82 g1 λj hj=> ?_⟩;rw[hcell]at h1;unfold World.cells? at h1;split at h1;{have hlen:=QN (x:=y) g1;have:=mapM_some_get h1 j j (by simp[hj]);unfold az;rw[<-this];congr 1;unfold Addr.add;grind};{cases h1}};have hch: ∀i,∃y:aX ty,i<len->yv ty y/\be eO w ty y (az w b (o+i*ty.size)) 0:=λi=>by{by_cases hi:i<len;{grind};{exact⟨ty.zero,λh=>absurd h hi⟩}};let f:Nat->aX ty:=λi=>Classical.choose (hch i);have hf: ∀i,i<len->yv ty (f i)/\be eO w ty (f i) (az w b (o+i*ty.size)) 0:=λi=>Classical.choose_spec (hch i);refine⟨(List.range len).map f,.inr ⟨b,o,cap,by simp,rfl,hbl,by simpa using hl,λi hi=> ?_⟩,λy hy=> ?_,by simp;omega⟩;{grind};{grind}}
def WW:(s:bK)->s.Val->Prop
 | .int k,n=>(Lit.int k n).wf=true
 | .imm t,xs=>(∀x∈xs,yv t x)/\xs.length<=maxLen
 |_,_=>True
def oL:(l:List bK)->dW bK.Val l->Prop
 |[],_=>True
 |s::r,x=>WW s x.1/\oL r x.2
def PX (P:Program) (chk:TypeId->List bK->Bool):List Field->Nat->List bK->Bool
 |[],_,l=>l.isEmpty
 |f::fs,off,l=>decide (f.offset=off)&&decide (P.cellsOf f.type<=l.length)&&chk f.type (l.take (P.cellsOf f.type))&&PX P chk fs (off+P.cellsOf f.type) (l.drop (P.cellsOf f.type))
def pP (P:Program):Nat->TypeId->List bK->Bool
 |0,_,_=>false
 |n+1,t,l=>match P.underlying t with
  |some (.int k)=>(match l with
   |[.int u]=>decide (u=k)
   |_=>false)
  |some .bool=>(match l with
   |[.bool]=>true
   |_=>false)
  |some (.slice e)=>(match l with
   |[.imm ty]=>decide (P.cellsOf e=ty.size)&&qV P 9 e ty
   |_=>false)
  |some (.struct fs)=>decide (P.cellsOf t=l.length)&&PX P (pP P n) fs.toList 0 l
  |_=>false
def fR (w:World) (l:List bK) (x:dW bK.Val l) (cs:List Value):Prop:=
 cs.length=l.length/\ ∀(β:aU) i (h:i<(cV bK.Val bK.enc l x).length),aW β eO w (cV bK.Val bK.enc l x)[i] (cs.getD i undef)
def Wt {S A:Type} {V:S->Type} {e:(s:S)->V s->A}: ∀{l:List S} {x:dW V l},(cV V e l x).length=l.length
 |[],_=>rfl
 |_::r,x=>by simp[cV,Wt (l:=r)]
def pf {V:bK->Type}:{l r:List bK}->dW V l->dW V r->dW V (l++r)
 |[],_,_,y=>y
 |_::_,_,x,y=>(x.1,pf x.2 y)
def qoh {l r:List bK} {x:dW bK.Val l} {y:dW bK.Val r}:cV bK.Val bK.enc (l++r) (pf x y)=cV bK.Val bK.enc l x++cV bK.Val bK.enc r y:=by induction l with|nil=>rfl|cons s l u=>simp[cV,pf,u]
def qsr {l r:List bK} {x:dW bK.Val l} {y:dW bK.Val r} (h:oL l x) (h':oL r y):oL (l++r) (pf x y):=by induction l with|nil=>exact h'|cons s l u=>exact⟨h.1,u h.2⟩
def fR.join {l r:List bK} {x:dW bK.Val l} {y:dW bK.Val r} {cs G:List Value} (h:fR w l x cs) (h':fR w r y G):fR w (l++r) (pf x y) (cs++G):=by refine⟨by simp[h.1,h'.1],λβ i J=> ?_⟩;have e:=qoh (x:=x) (y:=y);have hlen:(cV bK.Val bK.enc l x).length=cs.length:=by{rw[Wt,h.1]};have u:i<(cV bK.Val bK.enc l x++cV bK.Val bK.enc r y).length:=by{rw[<-e];exact J};have e2:(cV bK.Val bK.enc (l++r) (pf x y))[i]=(cV bK.Val bK.enc l x++cV bK.Val bK.enc r y)[i]:=by{simp only[e]};rw[e2];by_cases K:i<cs.length;{rw[ya O];have:=h.2 β i O;grind};{rw[vF O];have:=h'.2 β (i-(cV bK.Val bK.enc l x).length) (by simp at u;omega);grind}
def q5f {chk:TypeId->List bK->Bool} {n:Nat} {G:Value->Prop}
 (O: ∀t l cs x,chk t l=true->DataW.trod enc P w base spare held n t cs=some x->(∀v∈cs,G v)-> ∃v,fR w l v cs/\oL l v) (cs:List Value) (hg: ∀v∈cs,G v):
 ∀(fs:List Field) (off:Nat) (l:List bK),PX P chk fs off l=true->cs.length=off+l.length->(∀f∈fs,∃y,DataW.trod enc P w base spare held n f.type ((cs.drop f.offset).take (P.cellsOf f.type))=some y)->
  ∃v,fR w l v (cs.drop off)/\oL l v
 |[],off,l,h,hl,_=>by{have:l=[]:=by{simpa [PX]using h};subst this;exact⟨(),⟨by simp[hl],λβ i hi=>by simp[cV]at hi⟩,trivial⟩}
 |f::fs,off,l,h,hl,hf=>by simp only[PX,zK,decide_eq_true_eq]at h;obtain⟨⟨⟨h1,h2⟩,h3⟩,h4⟩:=h;obtain⟨y,hy⟩:=hf f mS;rw[h1]at hy;obtain⟨u,g1,g2⟩:=O _ _ _ _ h3 hy (λv hv=>hg v (xa (oK hv)));obtain⟨v,q1,q2⟩:=q5f O cs hg fs _ _ h4 (by grind) (λf K=>hf f (mT K));have hj:=g1.join q1;have hw:=qsr g2 q2;have e1:l.take (P.cellsOf f.type)++l.drop (P.cellsOf f.type)=l:=yp ..;have e2:(cs.drop off).take (P.cellsOf f.type)++cs.drop (off+P.cellsOf f.type)=cs.drop off:=by{rw[<-List.drop_drop,yp]};rw[e2]at hj;have fin: ∀{J:List bK} {z:dW bK.Val J},J=l->fR w J z (cs.drop off)->oL J z-> ∃v,fR w l v (cs.drop off)/\oL l v:=by{intro J z e h7 h8;subst e;exact⟨z,h7,h8⟩};exact fin e1 hj hw
def q5d: ∀(m:Nat) (t:TypeId) (l:List bK) (fuel:Nat) (cs:List Value) (x:DataW H×List MemPlace),pP P m t l=true->DataW.trod enc P w base spare held fuel t cs=some x->
 (∀v∈cs,∀a len cap,v= .slice (some a) len cap->a.spot=none/\a.block<w.heap.size)-> ∃v,fR w l v cs/\oL l v
 |0,_,_,_,_,_,h,_,_=>by cases h
 |m+1,t,l,fuel,cs,x,h,ht,hok=>by unfold pP at h;split at h;{rename_i k hu;split at h;{rename_i k';have:k'=k:=by{simpa using h};subst this;obtain⟨n,rfl,rfl,wn⟩:=DataW.trod_int hu ht;exact⟨(n,()),⟨rfl,λβ i hi=>by{have:i=0:=by{simp[cV]at hi;omega};subst this;rfl}⟩,wn,trivial⟩};{cases h}};{rename_i hu;split at h;{obtain⟨b,rfl,rfl⟩:=DataW.trod_bool hu ht;exact⟨(b,()),⟨rfl,λβ i hi=>by{have:i=0:=by{simp[cV]at hi;omega};subst this;rfl}⟩,trivial,trivial⟩};{cases h}};{rename_i e hu;split at h;{rename_i ty;simp only[zK,decide_eq_true_eq]at h;have hcs: ∃v,cs=[v]:=by{rcases Deep.open_slice hu ht with⟨hcs,_⟩|⟨a,len,cap,mm,n,D,Pl,hcs,_⟩;{exact⟨_,hcs⟩};{exact⟨_,hcs⟩}};obtain⟨v,rfl⟩:=hcs;obtain⟨xs,h1,h2,h3⟩:=qw6 hu h.2 h.1 ht (hok v mS);exact⟨(xs,()),⟨rfl,λβ i hi=>by{have:i=0:=by{simp[cV]at hi;omega};subst this;exact h1}⟩,⟨h2,h3⟩,trivial⟩};{cases h}};{rename_i fs hu;simp only[zK,decide_eq_true_eq]at h;obtain⟨hl,n,rfl,xs,hxs⟩:=q0r hu ht;have:=q5f (n:=n) (λt l cs x hc hx hg=>q5d m t l n cs x hc hx hg) cs hok fs.toList 0 l h.2 (by rw[hl,h.1];omega) (ZT hxs);simpa using this};{cases h}
def OS:(s:Sh)->s.Val->Prop
 | .a (.c s),x=>WW s x
 | .a (.agg l),x=>oL l x
 |_,_=>True
def Pu:(l:List Sh)->Xn l->Prop
 |[],_=>True
 |s::r,x=>OS s x.1/\Pu r x.2
def We (P:Program) (t:TypeId):Bool:=match P.underlying t with
 |some (.struct _)=>true
 |_=>false
def XJ (P:Program) (t:TypeId):Sh->Bool
 | .a (.c s)=> !We P t&&pP P 9 t [s]
 | .a (.agg l)=>We P t&&pP P 9 t l
 |_=>false
def Vq (P:Program):List TypeId->List Sh->Bool
 |[],[]=>true
 |t::u,s::ss=>XJ P t s&&Vq P u ss
 |_,_=>false
def okW {t:TypeId} {v:Value} (h:Cell.okWide P w .any base t v) (u:(∃a len cap,v= .slice a len cap)\/(∃cs,v= .agg cs)\/ ∃cs,v= .tuple cs):Cell.ok P w .any base t v:=by unfold Cell.okWide at h;grind
def yN {t:TypeId} {a:Addr} {len cap:Nat} (h:Cell.okWide P w .any base t (.slice (some a) len cap)): ∃e,w.has P .any base a e cap:=by have h:=okW h (.inl ⟨_,_,_,rfl⟩);unfold Cell.ok at h;grind
def q8a {t:TypeId} {c:Value} (h:Cell.okWide P w .any base t c): ∀a len cap,c= .slice (some a) len cap->a.spot=none/\a.block<w.heap.size:=by rintro a len cap rfl;obtain⟨e,_,h2,row,cells,u,_⟩:=yN h;refine⟨h2,?_⟩;unfold World.shape? at u;grind
def ql6 {t:TypeId} {cs:Array Value} (h:Cell.okWide P w .any base t (.agg cs)):False:=by have h:=okW h (.inr (.inl ⟨_,rfl⟩));unfold Cell.ok at h;grind
def qk6 {t:TypeId} {cs:Array Value} (h:Cell.okWide P w .any base t (.tuple cs)):False:=by have h:=okW h (.inr (.inr ⟨_,rfl⟩));unfold Cell.ok at h;grind
def qop {t:TypeId} {s:Sh} {v:Value} {d:DataW H} {ps:List MemPlace} (J:XJ P t s=true) (h:DataW.Trod enc P w base spare held t v d ps) (G:Value.okWide P w .any base t v):
 ∃x:s.Val,OS s x/\ ∀β,br β eO w (s.enc x) v:=by obtain⟨fuel,h⟩:=h;unfold XJ at J;split at J;{rename_i s0;simp only[zK,Bool.not_eq_true']at J;have c0: ∃u,v.cells.toList=[u]/\v=u/\Cell.okWide P w .any base t u:=by{unfold Value.okWide at G;unfold We at J;split at G;{grind};{rename_i n e hu;have h2:=J.2;unfold pP at h2;rw[hu]at h2;simp at h2};{refine⟨v,?_,rfl,G⟩;cases v<;>first|rfl|exact(ql6 G).elim|exact(qk6 G).elim}};obtain⟨u,b0,rfl,a0⟩:=c0;rw[b0]at h;obtain⟨x,⟨_,K⟩,h2⟩:=q5d 9 t [s0] fuel _ _ J.2 h (λy hy=>by{obtain rfl:=zA.1 hy;exact q8a a0});refine⟨x.1,h2.1,λβ=> ?_⟩;have hr:=K β 0 (by simp[cV]);simp only[List.getD,List.getElem?_cons_zero,yq]at hr;cases s0<;>exact hr};{rename_i l;simp only[zK]at J;have e0: ∃cs,v= .agg cs/\Row.okWide P w .any base t cs:=by{unfold Value.okWide at G;have K:=J.1;unfold We at K;split at K;{grind};{cases K}};obtain⟨cs,rfl,ts,_,_,O⟩:=e0;have e:(Value.agg cs).cells.toList=cs.toList:=rfl;rw[e]at h;obtain⟨x,⟨hl,K⟩,h2⟩:=q5d 9 t l fuel _ _ J.2 h (λy hy=>by{obtain⟨i,hi,d0⟩:=ml hy;obtain⟨u,_,hu⟩:=O i y (by rw[<-d0];simp);exact q8a hu});refine⟨x,h2,λβ=>⟨cs,rfl,by rw[Wt];simpa using hl,λj hj=> ?_⟩⟩;have:=K β j hj;simpa [List.getD,Array.getD_eq_getD_getElem?]using this};{cases J}
def qa1: ∀{G:List TypeId} {ss:List Sh} {vs:List Value} {J:List (DataW H)} {ps:List MemPlace},Vq P G ss=true->DataW.TrodAll enc P w base spare held G vs J ps->
 (∀(j:Nat) (t:TypeId) (v:Value),G[j]? =some t->vs[j]? =some v->Value.okWide P w .any base t v)->J.length=ss.length/\
 ∃x:Xn ss,Pu ss x/\vs.length=ss.length/\ ∀β i (h:i<(gT ss x).length),br β eO w (gT ss x)[i] (vs.getD i undef)
 |[],[],vs,J,ps,_,h,_=>by{obtain⟨rfl,rfl,_⟩:=trodAll_nil h;exact⟨rfl,(),trivial,rfl,λβ i K=>by simp[gT,cV]at K⟩}
 |t::G,s::ss,vs,J,ps,O,h,u=>by{simp only[Vq,zK]at O;obtain⟨v,a0,d,b0,p,q,rfl,rfl,rfl,h1,h2⟩:=trodAll_cons h;obtain⟨x,g1,g2⟩:=qop O.1 h1 (u 0 t v rfl rfl);obtain⟨e0,y,q1,q2,q3⟩:=qa1 O.2 h2 (λj t v a b=>u (j+1) t v (by simpa using a) (by simpa using b));refine⟨by simp[e0],(x,y),⟨g1,q1⟩,by simp[q2],λβ i K=> ?_⟩;cases i with|zero=>exact g2 β|succ i=>exact q3 β i (by simpa [gT,cV]using K)}
 |[],_::_,_,_,_,h,_,_=>by cases h
 |_::_,[],_,_,_,h,_,_=>by cases h
def v8:bK->Bool
 | .int _| .bool| .imm _=>true
 |_=>false
def v7:Sh->Bool
 | .a (.c s)=>v8 s
 | .a (.agg l)=>l.all v8
 |_=>false
def q9r {s:bK} {x:s.Val} (h:v8 s=true):qc (s.enc x)=[]/\Zz (s.enc x)=true:=by cases s<;>first|exact⟨rfl,rfl⟩|cases h
def qac: ∀{l:List bK} {x:dW bK.Val l},l.all v8=true->(cV bK.Val bK.enc l x).flatMap qc=[]/\(cV bK.Val bK.enc l x).all Zz=true
 |[],_,_=>⟨rfl,rfl⟩
 |s::r,x,h=>by simp only[Cq,zK]at h;obtain⟨a,b⟩:=q9r (x:=x.1) h.1;obtain⟨c,d⟩:=qac (x:=x.2) h.2;simp[cV,a,b,c,d]
def qfx {s:Sh} {x:s.Val} (h:v7 s=true):ab (s.enc x)=[]/\bV (s.enc x)=true:=by unfold v7 at h;split at h;{rename_i u;obtain⟨a,b⟩:=q9r (x:=x) h;cases u<;>first|exact⟨a,b⟩|cases h};{exact qac h};{cases h}
def qaj: ∀{ss:List Sh} {x:Xn ss},ss.all v7=true->(gT ss x).flatMap ab=[]/\(gT ss x).all bV=true
 |[],_,_=>⟨rfl,rfl⟩
 |s::r,x,h=>by simp only[Cq,zK]at h;obtain⟨a,b⟩:=qfx (x:=x.1) h.1;obtain⟨c,d⟩:=qaj (ss:=r) (x:=x.2) h.2;simp only[gT]at c d;simp[gT,cV,a,b,c,d]
def qk7 {G:List TypeId} {vs:List Value} {J:List (DataW H)} {ps:List MemPlace} (h:DataW.TrodAll enc P w base spare held G vs J ps): ∀p∈ps,p.block<w.heap.size:=by induction G generalizing vs J ps with|nil=>{obtain⟨_,_,rfl⟩:=trodAll_nil h;intro p hp;cases hp}|cons t G O=>{obtain⟨v,K,d,a0,p,q,rfl,rfl,rfl,⟨m,hm⟩,h2⟩:=trodAll_cons h;intro x u;rcases zZ.1 u with u|u;{exact DataW.trod_lt m _ _ _ hm x u};{exact O h2 x u}}
def q3w {w':World} (hl:laidOutB P=true) (hb: ∀k,k<w.heap.size->w'.heap[k]? =w.heap[k]?):
 ∀{J:List TypeId} {vs:List Value} {O:List (DataW H)} {ps:List MemPlace},J.all (λt=>P.readableRec t&&decide (t<P.types.size))=true->DataW.TrodAll enc P w 0 (λ_=>true) true J vs O ps->
 DataW.TrodAll enc P w' 0 (λb=>decide (b<w.heap.size)) true J vs O ps
 |[],vs,O,ps,_,h=>by obtain⟨rfl,rfl,rfl⟩:=trodAll_nil h;exact rfl
 |t::J,vs,O,ps,K,h=>by simp only[Cq,zK,decide_eq_true_eq]at K;have a0:=qk7 h;obtain⟨v,b0,d,c0,p,q,rfl,rfl,rfl,h1,h2⟩:=trodAll_cons h;have u: ∀x∈p,x.block<w.heap.size:=λx G=>a0 x (zx _ G);refine trodAll_cons_mk (WideElems.Trod_stays hl K.1.1 K.1.2 h1 (λx G=> ?_) (λx G=>by simpa using u x G)) (q3w hl hb (by simpa using K.2) h2);cases x with|cell b o=>exact World.cell?_of_block (w:=w) (hb b (u _ G))|map b=>exact hb b (u _ G)
def qdo {f:FuncId} {fn:Func} {s:ChangeSpec} {apart fresh handsOn:Bool} {ss:List Sh} {tb:TypeId} (hl:laidOutB P=true) (hread:fn.params.toList.all (λt=>P.readableRec t&&decide (t<P.types.size))=true)
 (b0:Vq P fn.params.toList ss=true) (a0:ss.all v7=true) (hvars:s.vars=[]) (K:fn.resultTypes= #[tb]) (g0:P.underlying tb=some .bool)
 (hs: ∀u:List (DataW H),u.length=ss.length->s.fn H u={results:=[.lit (.bool true)],args:=u})
 (HC: ∀x:Xn ss,Pu ss x-> ∃outs,Xy P f (gT ss x) (.bool true) outs) {vs:Array Value} {u gs:List (DataW H)} {before:List MemPlace}
 (J: ∀(j:Nat) t v,fn.params[j]? =some t->vs[j]? =some v->Value.okWide P w .any base t v) (hW:DataW.Whole enc P fn.params.toList s.vars apart w vs.toList u gs before) (hG:cG P eO w):
 Calls P f vs w λe w'=> ∃v,e= .returned v/\s.post enc P fn apart fresh handsOn false w vs v w':=by have i0:=hW;obtain⟨p,q,hA,hV,rfl,l0,k0⟩:=hW;have h0:gs=[]/\q=[]:=by{rw[hvars]at hV;cases gs with|nil=>exact⟨rfl,hV⟩|cons g gs=>exact hV.elim};obtain⟨rfl,rfl⟩:=h0;obtain⟨G,x,hx,hlen,O⟩:=qa1 b0 hA (λj t v a b=>J j t v (by simpa using a) (by simpa using b));obtain⟨outs,_,hcall⟩:=HC x hx;obtain⟨hn,hr⟩:=qaj (x:=x) a0;have e0:(gT ss x).length=ss.length:=Wt;refine(hcall (λ_=>undef) eO w vs (by rw[e0,<-hlen];simp) (λi hi=>by{have:=O (λ_=>undef) i hi;simp_all}) (by grind) (by rw[hn];simp) (Jh hr) (λb n h=>by cases h) hG).mono λe w' hp=> ?_;obtain⟨c,β',who',rfl,p0,p1,p2,p3,p4,p5,p6,p7,p8,p9,j0,d0,c0⟩:=hp;have hb: ∀k,k<w.heap.size->w'.heap[k]? =w.heap[k]? :=λk hk=>p7 k hk (.inl rfl);have hc:c= .bool true:=p1;subst hc;refine⟨_,rfl,u,[],_,[],p,[],i0,?_,?_,?_,⟨d0,c0,λi hi=> ?_⟩,λh=>by cases h⟩;{rw[K,mz,hs u G];exact trodAll_mk1 (shut_bool g0 _)};{rw[mz,hs u G];exact q3w hl hb hread hA};{rw[hvars,mz,hs u G];rfl};{grind}
def qi4 {α β:Type} {f:α->Option β}: ∀{l:List α} {r:List β},l.mapM f=some r-> ∀i (h:i<l.length),∃y,f l[i]=some y/\r[i]? =some y
 |[],r,h,i,G=>by simp at G
 |a::l,r,h,i,G=>by rw[UI]at h;cases J:f a with|none=>{rw[J]at h;cases h}|some y=>{rw[J]at h;cases u:l.mapM f with|none=>simp[u]at h|some ys=>{simp[u]at h;subst h;cases i with|zero=>exact⟨y,J,rfl⟩|succ i=>{obtain⟨z,O,K⟩:=qi4 u i (by simpa using G);grind}}}
def qr8 {H:Type} {enc:TypeId×Value->H} {spare:Nat->Bool} {held:Bool} {fuel:Nat} {t e n:Nat} {k:IntKind} {cs:List Value} {xs:LI} {p:List MemPlace} (hu:P.underlying t=some (.array n e)) (he:P.underlying e=some (.int k)) (hc:P.cellsOf e=1)
 (h:DataW.trod enc P w base spare held fuel t cs=some (.agg (xs.map λx=> .lit (.int k x)),p)): ∀i (h:i<xs.length),cs[i]? =some (.int k xs[i]):=by cases fuel with|zero=>simp[DataW.trod]at h|succ m=>{unfold DataW.trod at h;rw[hu]at h;have key:(if cs.length=P.cellsOf t then((List.range n).mapM λi=>DataW.trod enc P w base spare held m e ((cs.drop (i*P.cellsOf e)).take (P.cellsOf e))).map λxs=>((.agg (xs.map (·.1)):DataW H),xs.flatMap (·.2))else none)=some (.agg (xs.map λx=> .lit (.int k x)),p):=by{split at h<;>first|exact h|simp_all};split at key;{obtain⟨ys,u,G⟩:=Oz.1 key;simp only[UF,DataW.agg.injEq]at G;obtain⟨G,_⟩:=G;intro i hi;have hlen:ys.length=xs.length:=by{have:=congrArg List.length G;simpa using this};have a0:ys.length=n:=by{have:=mapM_some_length u;simpa using this};obtain⟨y,J,g2⟩:=qi4 u i (by simp;omega);rw[List.getElem_range,hc,jF]at J;obtain⟨z,q1,q2,_⟩:=DataW.trod_int he J;have e2:(ys.map (·.1))[i]? =(xs.map λx=>(DataW.lit (.int k x):DataW H))[i]? :=by{rw[G]};rw[List.getElem?_map,g2,List.getElem?_map,List.getElem?_eq_getElem hi]at e2;simp only[yo,zf]at e2;rw[q2]at e2;simp only[DataW.lit.injEq,Lit.int.injEq,true_and]at e2;have K:(cs.drop i)[0]? =some (.int k z):=by{have:((cs.drop i).take 1)[0]? =some (.int k z):=by{rw[q1];rfl};rwa [List.getElem?_take_of_lt O]at this};rw[List.getElem?_drop,zS]at K;rw[K,e2]};{cases key}}
def qri {g:Nat} {k:IntKind} {xs:LI} {name:String} {t e n:Nat} (O:U7 P=[(g,k,xs)]) (J:P.globalNamed name=some g) (hg:(P.globals[g]?).map (·.type)=some t) (hu:P.underlying t=some (.array n e)) (he:P.underlying e=some (.int k)) (hc:P.cellsOf e=1) (h0:0<xs.length)
 {d:DataW Unit} (hd:d= .agg (xs.map λx=> .lit (.int k x))) (hh:d.handleName? =none) (h:laidMetH P [(name,d)] w):cG P eO w:=by have h':laidMet P [(name,d)] w:=by{unfold laidMetH at h;simpa [hh]using h};obtain⟨ps,⟨g',t',cs,fuel,p,q,a1,a2,a3,K,_,_⟩,_,hcell⟩:=h';have:g'=g:=Option.some.inj (a1.symm.trans J);subst this;have:t'=t:=Option.some.inj (a2.symm.trans hg);subst this;rw[hd]at K;have a0:=qr8 hu he hc K;have u: ∀i (h:i<xs.length),w.cell? ⟨g',i,none⟩=some (.int k xs[i]):=λi hi=>by{have:=World.var?_cell J a3 i;grind};intro x G;rw[O]at G;obtain rfl:=zA.1 G;refine⟨rfl,?_,u⟩;have:=u 0 h0;unfold World.cell? at this;rcases gq g' w.heap.size with h|h;{exact h};{grind}
end
end Go.Vs
