import Derived.Test.YtkbgfnhdfmmfcaaGreatDoorLg
import Derived.Test.YtkbgfnhdfmmfcaaGreatDoorVc
set_option linter.unusedVariables false
set_option linter.unusedSimpArgs false
set_option linter.unusedSectionVars false
set_option maxRecDepth 100000
set_option linter.defProp false
namespace Go.Vs.F
def Cn.both {a b:D5} (G:Cn a) (u:Cn b): ∃x y B,a=aE x B/\b=aE y B:=by obtain⟨z,e,rfl⟩:=G.mk;obtain⟨w,f,rfl⟩:=u.mk;exact⟨sc z e (min e f),sc w f (min e f),min e f,(A0 O).symm,(A0 O).symm⟩
section
variable {m:Nat} (hm:5000000000<=m)
include hm
theorem EN {a b:D5} (G:Cn a) (u:Cn b): ∃c,A9 m a.1 a.2.1 a.2.2.1 a.2.2.2.1 b.1 b.2.1 b.2.2.1 b.2.2.2.1=some (c,(),(),())/\Cn c:=by obtain⟨x,y,B,rfl,rfl⟩:=G.both u;rw[Vt O];refine⟨_,rfl,?_⟩;split;{exact dz ..};{exact .bad}
theorem Bp {a b:D5} (G:Cn a) (u:Cn b): ∃c,Ba m a.1 a.2.1 a.2.2.1 a.2.2.2.1 b.1 b.2.1 b.2.2.1 b.2.2.2.1=some (c,(),(),())/\Cn c:=by obtain⟨x,y,B,rfl,rfl⟩:=G.both u;rw[SO O];refine⟨_,rfl,?_⟩;split;{exact dz ..};{exact .bad}
theorem fZ {a b:D5} (G:Cn a) (u:Cn b): ∃c,nN m a.1 a.2.1 a.2.2.1 a.2.2.2.1 b.1 b.2.1 b.2.2.1 b.2.2.2.1=some (c,(),(),())/\Cn c:=by obtain⟨x,y,B,rfl,rfl⟩:=G.both u;rw[qi2 O];refine⟨_,rfl,?_⟩;split;{exact dz ..};{exact .bad}
theorem FJ {a b:D5} (G:Cn a) (u:Cn b): ∃c,On m a.1 a.2.1 a.2.2.1 a.2.2.2.1 b.1 b.2.1 b.2.2.1 b.2.2.2.1=some (c,(),(),()):=by obtain⟨x,y,B,rfl,rfl⟩:=G.both u;rw[On,qor O];exact⟨_,rfl⟩
theorem MQ {a:D5} (G:Cn a): ∃s,tW m a.1 a.2.1 a.2.2.1 a.2.2.2.1=some (s,(),())/\(a=aE 0 0->s=0):=by obtain⟨z,e,rfl⟩:=G.mk;by_cases h:b7 z e;{have u:=UV (m:=m) hm h;refine⟨_,u,λq=> ?_⟩;have h2:=UV (m:=m) hm (qh3 0);rw[q,h2]at u;injection u with u;have:=congrArg Prod.fst u;exact this.symm.trans rfl};{refine⟨0,?_,λ_=>rfl⟩;rw[tW,X4 O,vO h];rfl}
theorem R6 {a:D5} (u:Cn a): ∃f,v9 m a.1 a.2.1 a.2.2.1 a.2.2.2.1=some (f,(),())/\cr f:=by obtain⟨z,e,rfl⟩:=u.mk;exact⟨_,L5 hm,Yr⟩
theorem IT {a b:D5} (G:Cn a) (u:Cn b): ∃f,np m a.1 a.2.1 a.2.2.1 a.2.2.2.1 b.1 b.2.1 b.2.2.1 b.2.2.2.1=some (f,(),(),())/\cr f:=⟨_,M3 hm G u,Nj⟩
end
def pD (d:bK):D5:=(d.1,d.2.1.1,d.2.1.2,d.2.2,())
def Cy (d:bK):Prop:=Cn (pD d)
def Sj {a:D5} (h:Cn a):Cy (a.1,((a.2.1,a.2.2.1),a.2.2.2.1)):=h
abbrev fR:bK:=qz
def qul:pD fR=aE 0 0:=rfl
def M2:Cy fR:=by unfold Cy;rw[qul];exact dz 0 0
structure Sq (k:Nat) (s:List (List bK)):Prop where
 len:s.length=k
 row: ∀i,i<k->(s.getD i []).length=k
 cy: ∀i j,Cy ((s.getD i []).getD j fR)
def Na {l:List bK} (h: ∀d∈l,Cy d) (j:Nat):Cy (l.getD j fR):=by by_cases c:j<l.length;{exact h _ (by simp[List.getD,c])};{rw[show l.getD j fR=fR by simp[List.getD,c]];exact M2}
def qdf {l:List bK} {i j:Nat} {d:bK}:(l.set i d).getD j fR=if j=i/\i<l.length then d else l.getD j fR:=by simp only[List.getD_eq_getElem?_getD,List.getElem?_set];by_cases c:i=j;{subst c;by_cases e:i<l.length;{simp[e]};{simp[e]}};{simp[c,Ne.symm c]}
def Tf {l:List (List bK)} {i j:Nat} {d:List bK}:(l.set i d).getD j []=if j=i/\i<l.length then d else l.getD j []:=by simp only[List.getD_eq_getElem?_getD,List.getElem?_set];by_cases c:i=j;{subst c;by_cases e:i<l.length;{simp[e]};{simp[e]}};{simp[c,Ne.symm c]}
def Sq.set {k:Nat} {s:List (List bK)} (h:Sq k s) {i j:Nat} (G:i<k) {d:bK} (J:Cy d):Sq k (s.set i ((s.getD i []).set j d)):=by refine⟨by rw[zU];exact h.len,λr u=> ?_,λr c=> ?_⟩;{rw[Tf];split;{rw[zU];exact h.row i G};{exact h.row r u}};{rw[Tf];split;{rw[qdf];split;{exact J};{exact h.cy i c}};{exact h.cy r c}}
section
variable {m:Nat} (hm:5000000000<=m) {rows:LI} (hl:rows.length<=1000) (p:Int)
include hm hl
theorem qj3: ∀(N k:Nat),rows.length-k<N->(∀i,i<k->rows.getD i 0≠p)->
 (∃r:Nat,kd m N rows p (k:Int)=some (.inl ((r:Int),()))/\r<rows.length/\rows.getD r 0=p)\/(kd m N rows p (k:Int)=some (.inr (.inl ()))/\ ∀i,i<rows.length->rows.getD i 0≠p)
 |0,k,h,_=>absurd h (zA _)
 |N+1,k,h,u=>by rw[kd,bQ];by_cases G:k<rows.length;{rw[iP O,iP O,aA,tN];by_cases c:rows.getD k 0=p;{rw[iP c];exact .inl ⟨k,rfl,G,c⟩};{rw[af c,show wI ((k:Int)+1)=((k+1:Nat):Int)from ax O];refine qj3 N (k+1) O λi J=> ?_;by_cases e:i=k;{rw[e];exact c};{exact u i O}}};{rw[af O];exact .inr ⟨rfl,λi J=>u i O⟩}
theorem Vf:(∃r:Nat,ke m rows p=some ((r:Int),(),(),())/\r<rows.length/\rows.getD r 0=p)\/(ke m rows p=some (-1,(),(),())/\ ∀i,i<rows.length->rows.getD i 0≠p):=by have h:=qj3 hm hl p m 0 O (λi G=>absurd G (zA _));rw[nZ]at h;rcases h with⟨r,u,h2,J⟩|⟨u,h2⟩;{exact .inl ⟨r,by rw[ke,u];rfl,h2,J⟩};{exact .inr ⟨by rw[ke,u];rfl,h2⟩}
end
end Go.Vs.F
set_option maxRecDepth 100000
namespace Go.Vs.F
section
variable {m:Nat} (hm:5000000000<=m)
include hm
theorem XQ {f:Int} (h:aT f): ∃c,Mn m (fp f).1 (fp f).2.1 (fp f).2.2.1 (fp f).2.2.2.1=some (c,(),())/\Cn c:=by rw[Xl h,qgx O (ck h)];exact⟨_,rfl,dz ..⟩
theorem qrb {rows:LI} (hl:rows.length<=1000) (x1:Int) {s:List (List bK)} (hs:Sq rows.length s) {p:Nat} (hp:p<rows.length): ∀(N k:Nat) (v:List bK),rows.length-k<N->k<=rows.length->v.length=k->(∀d∈v,Cy d)->
 (∃w,kc m N (p:Int) rows x1 s v (k:Int)=some (.inl (w,false,())))\/(∃w,kc m N (p:Int) rows x1 s v (k:Int)=some (.inr (.inl (w,())))/\w.length=rows.length/\ ∀d∈w,Cy d)
 |0,k,v,h,_,_,_=>absurd h (zA _)
 |N+1,k,v,h,a0,hv,J=>by rw[kc,bQ];by_cases hk:k<rows.length;{have h1:=hs.len;have h2:=hs.row k hk;obtain⟨f,K,G⟩:=R6 hm (hs.cy k p);rw[iP O,iP O,tN,tN,iP O];unfold pD at K;rw[K,bS];dsimp only;rw[Xv G,bS];dsimp only;by_cases c:aT f;{obtain⟨a,e2,Q⟩:=XQ hm c;rw[decide_eq_true c,show(!true)=false from rfl,cond_false,vP O G,bS];dsimp only;rw[e2,bS,iP (by rw[zL];omega),show wI ((k:Int)+1)=((k+1:Nat):Int)from ax O];refine qrb hl x1 hs hp N (k+1) _ O O (by rw[zG,hv];rfl) λd u=> ?_;rcases zX.1 u with u|u;{exact J d u};{rw[zC.1 u];exact Sj Q}};{rw[decide_eq_false c];exact .inl ⟨_,rfl⟩}};{rw[af O];exact .inr ⟨v,rfl,O,J⟩}
theorem ZK {rows:LI} (hl:rows.length<=1000) (x1:Int) {s:List (List bK)} (hs:Sq rows.length s) {p:Nat} (u:p<rows.length):
 ∃v b,wD m rows x1 s (p:Int)=some ((v,b,()),(),(),())/\(b=true->v.length=rows.length/\ ∀d∈v,Cy d):=by have h:=qrb hm hl x1 hs u m 0 [] O O rfl (λd G=>by cases G);rw[nZ]at h;rcases h with⟨w,h⟩|⟨w,h,J,h2⟩;{exact⟨w,false,by rw[wD,h];rfl,λq=>by cases q⟩};{exact⟨w,true,by rw[wD,h];rfl,λ_=>⟨J,h2⟩⟩}
theorem Sl {v:List bK} (hv: ∀d∈v,Cy d) (hl:v.length<=1000) (p:Int) (Q K:Bool) (J:LI) (G:Int): ∀(N k:Nat) (b:D5) (u:Int),v.length-k<N->Cn b->((u= -1/\b=aE 0 0)\/(0<=u/\u<(v.length:Int)/\u≠p))->
 ∃c r,eT m N v p Q K J G b.1 b.2.1 b.2.2.1 b.2.2.2.1 u (k:Int)=some (.inl ((Q,K,J,G,()),c,r,()))/\Cn c/\((r= -1/\c=aE 0 0)\/(0<=r/\r<(v.length:Int)/\r≠p))
 |0,k,b,u,h,_,_=>absurd h (zA _)
 |N+1,k,b,u,h,hb,ha=>by rw[eT,bQ];by_cases hk:k<v.length;{have hd:Cy (v.getD k fR):=Na hv k;have wk:wI ((k:Int)+1)=((k+1:Nat):Int):=ax O;have a0:(0:Int)<=(k:Int)/\(k:Int)<(v.length:Int):=O;rw[iP O,aN,wk];by_cases c:(k:Int)=p;{rw[iP c];exact Sl hv hl p Q K J G N (k+1) b u O hb ha};{rw[af c,bQ];have new: ∃c r,eT m N v p Q K J G (pD (v.getD k fR)).1 (pD (v.getD k fR)).2.1 (pD (v.getD k fR)).2.2.1 (pD (v.getD k fR)).2.2.2.1 (k:Int) ((k+1:Nat):Int)=some (.inl ((Q,K,J,G,()),c,r,()))/\Cn c/\((r= -1/\c=aE 0 0)\/(0<=r/\r<(v.length:Int)/\r≠p)):= Sl hv hl p Q K J G N (k+1) _ (k:Int) O hd (.inr ⟨O,O,c⟩);unfold pD at new;by_cases a:u<0;{rw[iP a,iP a0,tN];exact new};{rw[af a,iP a0,tN];obtain⟨q,e⟩:=FJ hm hb hd;unfold pD at e;rw[e,bS];cases q with|true=>{rw[cond_true,iP a0];exact new}|false=>exact Sl hv hl p Q K J G N (k+1) b u O hb ha}}};{rw[af O];exact⟨b,u,rfl,hb,ha⟩}
theorem ZD {v:List bK} (u: ∀d∈v,Cy d) (hl:v.length<=1000) (p:Int): ∃c r,yY m v p=some ((c,r,()),(),(),())/\Cn c/\((r= -1/\c=aE 0 0)\/(0<=r/\r<(v.length:Int)/\r≠p)):=by obtain⟨c,r,e,G,h2⟩:=Sl hm u hl p false false [] 0 m 0 (aE 0 0) (-1) O (dz 0 0) (.inl ⟨rfl,rfl⟩);rw[nZ]at e;refine⟨c,r,?_,G,h2⟩;change eT m m v p false false [] 0 false false [] 0 (-1) 0=_ at e;rw[yY,e];rfl
theorem Vg {a b:D5} (G:Cn a) (u:Cn b): ∃c,wC m a.1 a.2.1 a.2.2.1 a.2.2.2.1 b.1 b.2.1 b.2.2.1 b.2.2.2.1=some (c,(),(),()):=by obtain⟨x,e1,J⟩:=fZ hm (dz 64 0) G;obtain⟨y,Q,h2⟩:=fZ hm (dz 41 0) u;obtain⟨q,K⟩:=FJ hm J h2;rw[wC,V7 O (by unfold Re;omega),bS];dsimp only;rw[e1,bS,V7 O (by unfold Re;omega),bS];dsimp only;rw[Q,bS];dsimp only;rw[K];exact⟨_,rfl⟩
end
inductive gK (full:Int):LI->Prop
 |one {p:Nat} (h:(p:Int)<full):gK full [(p:Int)]
 |two {p r:Nat} (h1:(p:Int)<full) (h2:(r:Int)<full) (h3:p≠r):gK full [(p:Int),(r:Int)]
section
variable {m:Nat} (hm:5000000000<=m) {rows:LI} (hl:rows.length<=1000) {x1:Int} (hx:x1<=(rows.length:Int)) {s:List (List bK)} (hs:Sq rows.length s)
include hm hl hx hs
theorem qe3: ∀(N k:Nat),x1.toNat-k<N->
 ∃r,qH m N rows x1 s (k:Int)=some r/\match r with
  | .inl (Q,ok,_)=>(ok=false/\Q=[])\/(ok=true/\gK x1 Q)
  | .inr _=>True
 |0,k,h=>absurd h (zA _)
 |N+1,k,h=>by rw[qH,bQ];by_cases G:(k:Int)<x1;{obtain⟨v,b,e1,g1⟩:=ZK hm hl x1 hs (p:=k) O;rw[iP G,e1,bS];cases b with|false=>exact⟨_,rfl,.inl ⟨rfl,rfl⟩⟩|true=>{obtain⟨v1,v2⟩:=g1 rfl;obtain⟨lam,r,e2,l1,l2⟩:=ZD hm v2 O (k:Int);obtain⟨sg,e3,s2⟩:=MQ hm l1;dsimp only;rw[show(!true)=false from rfl,cond_false,e2,bS];dsimp only;rw[e3,bS,aA];dsimp only;by_cases c:sg=0;{rw[iP c];exact⟨_,rfl,.inr ⟨rfl,.one G⟩⟩};have hr:0<=r/\r<(v.length:Int)/\r≠(k:Int):=by{rcases l2 with⟨_,q⟩|q;{exact absurd (s2 q) c};{exact q}};obtain⟨rn,rfl⟩: ∃rn:Nat,r=(rn:Int):=⟨r.toNat,O⟩;have J:Cy (v.getD k fR):=Na v2 k;obtain⟨t1,e4⟩:=Vg hm J l1;unfold pD at e4;have K:(0:Int)<=(k:Int)/\(k:Int)<(v.length:Int):=O;rw[af c,iP K,tN];dsimp only at e4;rw[e4,bS];cases t1 with|true=>exact⟨_,rfl,.inr ⟨rfl,.one G⟩⟩|false=>{dsimp only;rw[cond_false,bQ];by_cases d:(rn:Int)>=x1;{rw[iP d,show wI ((k:Int)+1)=((k+1:Nat):Int)from ax O];exact qe3 N (k+1) O};obtain⟨w,b,e5,g5⟩:=ZK hm hl x1 hs (p:=rn) O;rw[af d,e5,bS];cases b with|false=>exact⟨_,rfl,.inl ⟨rfl,rfl⟩⟩|true=>{obtain⟨w1,w2⟩:=g5 rfl;obtain⟨sig,r2,e6,l3,l4⟩:=ZD hm w2 O (rn:Int);obtain⟨x,e7,h7⟩:=fZ hm J l3;obtain⟨y,e8,h8⟩:=fZ hm l1 l1;obtain⟨t2,e9⟩:=Vg hm h7 h8;unfold pD at e7;dsimp only at e7⊢;rw[show(!true)=false from rfl,cond_false,e6,bS,iP K];dsimp only;rw[e7,bS,e8,bS];dsimp only;rw[e9,bS];cases t2 with|true=>exact⟨_,rfl,.inr ⟨rfl,.one G⟩⟩|false=>{have a0:Cy (w.getD rn fR):=Na w2 rn;obtain⟨t3,u⟩:=Vg hm a0 l3;unfold pD at u;dsimp only at u⊢;rw[cond_false,iP O,tN,u,bS];cases t3 with|true=>exact⟨_,rfl,.inr ⟨rfl,.one O⟩⟩|false=>exact⟨_,rfl,.inr ⟨rfl,.two G O O⟩⟩}}}}};{rw[af G];exact⟨_,rfl,trivial⟩}
theorem qkj: ∃u ok,TF m rows x1 s=some ((u,ok,()),(),())/\(u=[]\/(ok=true/\gK x1 u)):=by
 obtain⟨r,e,h⟩:=qe3 hm hl hx hs m 0 O;rw[nZ]at e;rw[TF,e,bS]
 match r,h with
 | .inl (u,ok,_),h=>
   refine⟨u,ok,rfl,?_⟩;rcases h with⟨_,h⟩|⟨G,h2⟩
   . exact .inl h
   . exact .inr ⟨G,h2⟩
 | .inr (.inl _),_=>exact⟨[],true,rfl,.inl rfl⟩
 | .inr (.inr e),_=>exact e.elim
end
end Go.Vs.F
set_option maxRecDepth 100000
namespace Go.Vs.F
def sQ (A:LI) (i:Nat):Bool:=A.any λa=>decide (a=(i:Int))
def keep (A:LI) (t:Nat):List Nat:=(List.range t).filter λi=> !sQ A i
def L8 {A:LI} {t:Nat}:keep A (t+1)=keep A t++if sQ A t=true then []else [t]:=by unfold keep;rw[AU,List.filter_append];congr 1;cases h:sQ A t with|true=>{rw[List.filter_cons_of_neg (by simp[h])];rfl}|false=>{rw[List.filter_cons_of_pos (by simp[h])];rfl}
def SK {A:LI} {t:Nat}:(keep A t).length<=t:=by unfold keep;exact zf (Mv ..) (by rw[xa];exact zJ _)
def qj6 {A:LI} {t i:Nat} (h:i∈keep A t):i<t:=uE.1 (Iw.1 h).1
def ql1 {p i:Nat}:sQ [(p:Int)] i=decide (i=p):=by unfold sQ;simp only[List.any_cons,List.any_nil,Lv,Ro];by_cases h:p=i;{rw[decide_eq_true h,decide_eq_true h.symm]};{rw[decide_eq_false h,decide_eq_false (λq=>h q.symm)]}
def qo7 {p r i:Nat}:sQ [(p:Int),(r:Int)] i=(decide (i=p)||decide (i=r)):=by unfold sQ;simp only[List.any_cons,List.any_nil,Lv,Ro];congr 1;{by_cases h:p=i;{rw[decide_eq_true h,decide_eq_true h.symm]};{rw[decide_eq_false h,decide_eq_false (λq=>h q.symm)]}};{by_cases h:r=i;{rw[decide_eq_true h,decide_eq_true h.symm]};{rw[decide_eq_false h,decide_eq_false (λq=>h q.symm)]}}
def qhc {full:Int} {A:LI} (h:gK full A): ∀{t:Nat},full<=(t:Int)->(keep A t).length+A.length=t:=by intro t G;cases h with| @one p J=>{have: ∀t:Nat,(keep [(p:Int)] t).length+(if p<t then 1 else 0)=t:=λt=>by{induction t with|zero=>rfl|succ t u=>{rw[L8,zG,ql1];by_cases c:t=p;{subst c;rw[af O]at u;rw[iP (decide_eq_true rfl),iP O];simp only[LA];omega};{rw[af (by rw[decide_eq_false c];decide)];simp only[zL];split at u<;>split<;>omega}}};have:=this t;rw[iP O]at this;exact this}| @two p r Q h2 K=>{have: ∀t:Nat,(keep [(p:Int),(r:Int)] t).length+(if p<t then 1 else 0)+(if r<t then 1 else 0)=t:=λt=>by{induction t with|zero=>rfl|succ t u=>{rw[L8,zG,qo7];by_cases c:t=p;{subst c;rw[af O]at u;rw[iP (by rw[decide_eq_true rfl];rfl),iP O];simp only[LA];split at u<;>split<;>omega};{by_cases d:t=r;{subst d;rw[af (by omega: ¬t<t)]at u;rw[iP (by rw[decide_eq_true rfl,AQ]),iP (by omega:t<t+1)];simp only[LA];split at u<;>split<;>omega};{rw[af (by rw[decide_eq_false c,decide_eq_false d];decide)];simp only[zL];split at u<;>split at u<;>split<;>split<;>omega}}}};have:=this t;rw[iP O,iP O]at this;exact this}
def gK.out {full:Int} {A:LI} (h:gK full A) {i:Nat} (G:full<=(i:Int)):sQ A i=false:=by cases h with|one u=>{rw[ql1];exact decide_eq_false O}|two K h2 J=>{rw[qo7,decide_eq_false O,decide_eq_false O];rfl}
def gK.len {full:Int} {A:LI} (h:gK full A):A.length=1\/A.length=2:=by cases h with|one u=>exact .inl rfl|two J h2 G=>exact .inr rfl
def gK.get {full:Int} {A:LI} (h:gK full A) {k:Nat} (u:k<A.length):0<=A.getD k 0/\A.getD k 0<full:=by cases h with| @one p G=>{have:k=0:=by{simp at u;omega};subst this;show 0<=(p:Int)/\(p:Int)<full;omega}| @two p r K h2 J=>{have:k=0\/k=1:=by{simp at u;omega};rcases this with rfl|rfl;{show 0<=(p:Int)/\(p:Int)<full;omega};{show 0<=(r:Int)/\(r:Int)<full;omega}}
def oe {full:Int} {A:LI} (h:gK full A): ∀{d t:Nat},(t:Int)=full->keep A (t+d)=keep A t++(List.range' t d)
 |0,t,u=>by simp
 |d+1,t,u=>by rw[<-Nat.add_assoc,L8,oe h u,h.out O,af (by decide),pC,List.range'_concat];simp
def qq8 {full:Int} (h0:0<=full) {A:LI} (h:gK full A) {k:Nat} (K:full<=(k:Int)) {i:Nat} (Q:full-(A.length:Int)<=(i:Int)) (u:i<(keep A k).length):full<=(((keep A k).getD i 0:Nat):Int)/\(keep A k).getD i 0<k:=by obtain⟨t,G⟩: ∃t:Nat,(t:Int)=full:=⟨full.toNat,O⟩;obtain⟨d,rfl⟩: ∃d,k=t+d:=⟨k-t,O⟩;have J:=oe h (d:=d) G;have h2:=qhc h (t:=t) O;have hm:(keep A (t+d)).getD i 0∈keep A (t+d):=by{simp[List.getD,u]};refine⟨?_,qj6 hm⟩;rw[J]at u⊢;rw[zG,List.length_range']at u;have:(keep A t++List.range' t d).getD i 0=t+(i-(keep A t).length):=by{simp only[List.getD_eq_getElem?_getD];rw[List.getElem?_append_right O,List.getElem?_range' O];simp};rw[this];omega
section
variable {m:Nat} (hm:5000000000<=m) {A:LI} (hA:A.length<=100)
include hm hA
theorem T7 (i:Nat): ∃r:Int,ke m A (i:Int)=some (r,(),(),())/\(sQ A i=true->r>=0)/\(sQ A i=false->r<0):=by rcases Vf hm (rows:=A) O (i:Int)with⟨r,e,K,h2⟩|⟨e,h⟩;{refine⟨_,e,λ_=>O,λq=> ?_⟩;exfalso;have:sQ A i=true:=by{unfold sQ;exact LG.2 ⟨A.getD r 0,Xi K,decide_eq_true h2⟩};rw[this]at q;cases q};{refine⟨_,e,λq=> ?_,λ_=>O⟩;unfold sQ at q;obtain⟨a,J,G⟩:=LG.1 q;obtain⟨j,u,rfl⟩:=nA J;exact absurd (of_decide_eq_true G) (by have:=h j u;simp only[List.getD_eq_getElem?_getD,List.getElem?_eq_getElem u,xl]at this;exact this)}
variable {rows:LI} (hl:rows.length<=1000) {x1:Int} {s:List (List bK)} (hs:Sq rows.length s)
include hl hs
theorem E5 (a0 J:LI) (Q G:Int) (K u:List (List bK)) {i:Nat} (hi:i<rows.length): ∀(N t:Nat),rows.length-t<N->t<=rows.length->
 j8 m N A rows x1 s a0 Q K J G u (i:Int) ((keep A t).map λj=>(s.getD i []).getD j fR) (t:Int)=some (.inl (A,(rows,x1,s,()),(a0,Q,K,()),(J,G,u,()),(i:Int),(keep A rows.length).map (λj=>(s.getD i []).getD j fR),()))
 |0,t,h,_=>absurd h (zA _)
 |N+1,t,h,b0=>by rw[j8,bQ];by_cases ht:t<rows.length;{obtain⟨r,e,h1,h2⟩:=T7 hm hA t;have a1:=hs.len;have a2:=hs.row i hi;have wt:wI ((t:Int)+1)=((t+1:Nat):Int):=ax O;have ih:=E5 a0 J Q G K u hi N (t+1) O O;have c0:=SK (A:=A) (t:=t);rw[L8]at ih;rw[iP O,e,bS,bQ,wt];dsimp only;cases c:sQ A t with|true=>{rw[c,iP rfl,ls]at ih;rw[af (by have:=h1 c;omega)];exact ih}|false=>{rw[c,af (by decide),sJ]at ih;rw[iP (h2 c),iP O,tN,tN,iP O,iP (by rw[zL,zh];omega)];exact ih}};{rw[af O,show t=rows.length by omega]}
theorem E6 (K:LI) (J u:Int) (G:List (List bK)): ∀(N t:Nat),rows.length-t<N->t<=rows.length->
 j9 m N A rows x1 s K J G ((keep A t).map λi=>rows.getD i 0) u ((keep A t).map λi=>(keep A rows.length).map λj=>(s.getD i []).getD j fR) (t:Int)=
  some (.inl ((K,J,G,()),((keep A rows.length).map (λi=>rows.getD i 0),u,(keep A rows.length).map (λi=>(keep A rows.length).map λj=>(s.getD i []).getD j fR),()),()))
 |0,t,h,_=>absurd h (zA _)
 |N+1,t,h,a0=>by rw[j9,bQ];by_cases ht:t<rows.length;{obtain⟨r,e,h1,h2⟩:=T7 hm hA t;have wt:wI ((t:Int)+1)=((t+1:Nat):Int):=ax O;have Q:=E6 K J u G N (t+1) O O;have b0:=SK (A:=A) (t:=t);rw[L8]at Q;rw[iP O,e,bS,bQ];dsimp only;cases c:sQ A t with|true=>{rw[c,iP rfl,ls]at Q;rw[iP (h1 c),wt];exact Q}|false=>{rw[c,af (by decide),sJ,sJ]at Q;have e1:=E5 hm hA hl (x1:=x1) hs K ((keep A t).map (λi=>rows.getD i 0)++[rows.getD t 0]) J u G ((keep A t).map λi=>(keep A rows.length).map λj=>(s.getD i []).getD j fR) ht m 0 O O;rw[nZ,show keep A 0=[]from rfl,E2]at e1;rw[af (by have:=h2 c;omega),iP O,tN,iP (by rw[zL,zh];omega),e1,bS];dsimp only;rw[iP (by rw[zL,zh];omega),wt];exact Q}};{rw[af O,show t=rows.length by omega]}
theorem MH:DC m rows x1 s A=some (((keep A rows.length).map (λi=>rows.getD i 0),wI (x1-(A.length:Int)),(keep A rows.length).map (λi=>(keep A rows.length).map λj=>(s.getD i []).getD j fR),()),(),(),()):=by have e:=E6 hm hA hl (x1:=x1) hs [] 0 (wI (x1-(A.length:Int))) [] m 0 O O;rw[nZ,show keep A 0=[]from rfl,E2,E2]at e;rw[DC,e];rfl
end
def MI {A:LI} {k:Nat} {s:List (List bK)} (hs:Sq k s):Sq (keep A k).length ((keep A k).map λi=>(keep A k).map λj=>(s.getD i []).getD j fR):=by have G: ∀i,i<(keep A k).length->((keep A k).map λi=>(keep A k).map λj=>(s.getD i []).getD j fR).getD i []=(keep A k).map λj=>(s.getD ((keep A k).getD i 0) []).getD j fR:=λi u=>by{simp[List.getD,u]};refine⟨zh ..,λi u=>by rw[G i u,zh],λi j=> ?_⟩;by_cases c:i<(keep A k).length;{rw[G i c];refine Na (λd J=> ?_) j;obtain⟨x,_,rfl⟩:=zk.1 J;exact hs.cy _ x};{rw[show((keep A k).map λi=>(keep A k).map λj=>(s.getD i []).getD j fR).getD i []=[] by simp[List.getD,c]];exact M2}
end Go.Vs.F
set_option maxRecDepth 100000
namespace Go.Vs.F
section
variable {m:Nat} (hm:5000000000<=m)
include hm
theorem vT {f:Int} (h:cr f): ∃c,j6 m f=some (c,(),())/\Cn c:=⟨_,vP O h,A2 f⟩
theorem Fk {a b:Int} (G:cr a) (u:cr b): ∃c,jy m a b=some (c,(),(),())/\Cn c:=by obtain⟨x,e1,K⟩:=vT hm G;obtain⟨y,Q,h2⟩:=vT hm u;obtain⟨z,O,J⟩:=fZ hm K h2;refine⟨z,?_,J⟩;rw[jy,e1,bS,Q,bS,O];rfl
theorem XP {d:LI} (hd:d.length=3) (hu:UL d): ∃c,nP m d=some (c,(),())/\Cn c:=by obtain⟨x,Q,G⟩:=Fk hm (hu 0 O) (hu 2 O);obtain⟨y,K,h2⟩:=Fk hm (hu 1 O) (hu 1 O);obtain⟨z,J,u⟩:=Bp hm G h2;refine⟨z,?_,u⟩;rw[nP,iP O,iP O,Q,bS,iP O,iP O,K,bS,J];rfl
theorem TW {rows:LI} {x1 full:Int} {k:Nat} {s:List (List bK)} (hs:Sq k s) (hf:full<=(k:Int)) {A:LI} (hA:gK full A) {d:LI} (hd:d.length=2*A.length-1) (hu:UL d) (p0 p2:LI) (p3:List LI) {i:Nat} (u:i<k):
 ∃l,yV m p0 d p2 p3 rows x1 s A (i:Int)=some (l,(),(),(),(),())/\l.length=A.length/\UL l:=by have h1:=hs.len;have h2:=hs.row i u;cases hA with| @one p hp=>{have b0:d.length=1:=hd;rw[yV,iP O,iP (by simp),EZ,tN,iP O];rw[show(([(p:Int)].length:Int)==1)=true from rfl,cond_true,iP O,Sw,bS];dsimp only;cases A8 (d.getD 0 0)with|true=>{exact⟨[0],rfl,rfl,λi u=>by{have:i=0:=by{simp at u;omega};subst this;exact IY}⟩}|false=>{obtain⟨c,e1,J⟩:=vT hm (hu 0 O);obtain⟨f,G,Q⟩:=IT hm (hs.cy i p) J;unfold pD at G;dsimp only at G;rw[cond_false,iP O,e1,bS,tN];dsimp only;rw[G];exact⟨[f],rfl,rfl,λi u=>by{have:i=0:=by{simp at u;omega};subst this;exact Q}⟩}}| @two p r hp hr a0=>{have K:d.length=3:=hd;obtain⟨c0,e0,g0⟩:=vT hm (hu 0 O);obtain⟨c1,e1,J⟩:=vT hm (hu 1 O);obtain⟨c2,G,Q⟩:=vT hm (hu 2 O);obtain⟨a1,f1,k1⟩:=fZ hm (hs.cy i p) Q;obtain⟨a2,f2,k2⟩:=fZ hm (hs.cy i r) J;obtain⟨a3,f3,k3⟩:=Bp hm k1 k2;obtain⟨a4,f4,k4⟩:=fZ hm (hs.cy i r) g0;obtain⟨a5,f5,k5⟩:=fZ hm (hs.cy i p) J;obtain⟨a6,f6,k6⟩:=Bp hm k4 k5;obtain⟨dt,f7,k7⟩:=XP hm K hu;obtain⟨q1,f8,k8⟩:=IT hm k3 k7;obtain⟨q2,f9,k9⟩:=IT hm k6 k7;unfold pD at f1 f2 f4 f5;dsimp only at f1 f2 f4 f5;rw[yV,iP O,iP (by simp),EZ,tN,iP O];rw[show(([(p:Int),(r:Int)].length:Int)==1)=false from rfl,cond_false,iP O,iP (by simp),RD,EZ,iP O,iP O,e0,bS,iP O,e1,bS,iP O,G,bS,tN,tN];dsimp only;rw[f1,bS,f2,bS];dsimp only;rw[f3,bS,f4,bS,f5,bS];dsimp only;rw[f6,bS,f7,bS];dsimp only;rw[f8,bS,bS];dsimp only;rw[f9];exact⟨[q1,q2],rfl,rfl,λi u=>by{have:i=0\/i=1:=by{simp at u;omega};rcases this with rfl|rfl;{exact k8};{exact k9}}⟩}
end
structure PL (w q k:Nat) (l:List LI):Prop where
 len:l.length=w
 col: ∀j,j<w->(l.getD j []).length=(if j<k then q+1 else q)/\UL (l.getD j [])
def qkn {l:List LI} {i j:Nat} {d:LI}:(l.set i d).getD j []=if j=i/\i<l.length then d else l.getD j []:=by simp only[List.getD_eq_getElem?_getD,List.getElem?_set];by_cases c:i=j;{subst c;by_cases e:i<l.length;{simp[e]};{simp[e]}};{simp[c,Ne.symm c]}
section
variable {m:Nat} (hm:5000000000<=m)
include hm
theorem Q4 {w q:Nat} {l:List LI} (hl:PL w q 0 l) {p0 d:LI} (h0:p0.length=w) (hw:w=1\/w=2) (hd:d.length=2*w-1) (hu:UL d) (p2:LI) {i j:Nat} (hi:i<q) (hj:j<q):
 ∃c,Dz m p0 d p2 l (i:Int) (j:Int)=some (c,(),(),(),())/\Cn c:=by have a0:=hl.len;obtain⟨n0,G⟩:=hl.col 0 O;rw[af O]at n0;obtain⟨a,e1,g1⟩:=vT hm (G i O);obtain⟨b,e2,g2⟩:=vT hm (G j O);obtain⟨d1,e3,g3⟩:=vT hm (hu 0 O);obtain⟨x1,e4,g4⟩:=fZ hm g1 g3;obtain⟨x2,e5,g5⟩:=fZ hm g4 g2;rw[Dz,iP O,iP O,tN,tN,e1,bS,iP O,iP O,e2,bS,iP O,e3,bS];dsimp only;rw[e4,bS];dsimp only;rw[e5,bS,h0,aA];by_cases c:w=2;{obtain⟨n1,u⟩:=hl.col 1 O;rw[af O]at n1;obtain⟨c1,e6,Q⟩:=vT hm (u i O);obtain⟨c2,e7,K⟩:=vT hm (u j O);obtain⟨d2,e8,J⟩:=vT hm (hu 1 O);obtain⟨d3,e9,g9⟩:=vT hm (hu 2 O);obtain⟨y1,f1,k1⟩:=fZ hm g1 J;obtain⟨y2,f2,k2⟩:=fZ hm k1 K;obtain⟨y3,f3,k3⟩:=EN hm g5 k2;obtain⟨y4,f4,k4⟩:=fZ hm Q J;obtain⟨y5,f5,k5⟩:=fZ hm k4 g2;obtain⟨y6,f6,k6⟩:=EN hm k3 k5;obtain⟨y7,f7,k7⟩:=fZ hm Q g9;obtain⟨y8,f8,k8⟩:=fZ hm k7 K;obtain⟨y9,f9,k9⟩:=EN hm k6 k8;rw[iP O,iP O,iP O,e6,bS,iP O,iP O,e7,bS,iP O,e8,bS,iP O,e9,bS];dsimp only;rw[f1,bS];dsimp only;rw[f2,bS];dsimp only;rw[f3,bS,f4,bS];dsimp only;rw[f5,bS];dsimp only;rw[f6,bS,f7,bS];dsimp only;rw[f8,bS];dsimp only;rw[f9];exact⟨y9,rfl,k9⟩};{rw[af O];exact⟨x2,rfl,g5⟩}
theorem H6 (A m0 j0 g0 e0 d0 b0 K J G:LI) (l0 i0 a0 q0:Int) (k0 h0 Q:List (List bK)) (c0:List LI) {w q:Nat} (hw:w<=100) (hq:q<=1000) {v:LI} (hv:v.length=w) (hu:UL v): ∀(N k:Nat) (l:List LI),w-k<N->k<=w->PL w q k l->
 (∃r,oA m N A m0 l0 k0 j0 i0 h0 g0 e0 d0 c0 b0 a0 Q K J G l q0 v (k:Int)=some (.inl r)/\r.2.2.1=false)\/
 (∃l',oA m N A m0 l0 k0 j0 i0 h0 g0 e0 d0 c0 b0 a0 Q K J G l q0 v (k:Int)=some (.inr (.inl (A,(m0,l0,k0,()),(j0,i0,h0,()),(g0,e0,d0,c0,()),(b0,a0,Q,()),(K,J,G,l',()),q0,())))/\PL w (q+1) 0 l')
 |0,k,l,h,_,_=>absurd h (zA _)
 |N+1,k,l,h,s0,hl=>by rw[oA,bQ];by_cases hk:k<w;{have u:=hu k O;have r0:=hl.len;obtain⟨n0,u0⟩:=hl.col k hk;rw[af O]at n0;rw[iP O,iP O,zH,tN,Xv u,bS];dsimp only;by_cases c:aT (v.getD k 0);{rw[decide_eq_true c,show(!true)=false from rfl,cond_false,iP O,iP O,iP (by rw[zL];omega),iP O,iP rfl,show wI ((k:Int)+1)=((k+1:Nat):Int)from ax O];refine H6 A m0 j0 g0 e0 d0 b0 K J G l0 i0 a0 q0 k0 h0 Q c0 hw hq hv hu N (k+1) _ O O ⟨by rw[zU];exact r0,λj hj=> ?_⟩;obtain⟨n1,u1⟩:=hl.col j hj;rw[qkn];by_cases e:j=k;{subst e;rw[iP ⟨rfl,O⟩,iP O];exact⟨by rw[zG,n0];rfl,qlm u0 u⟩};{rw[af (λq=>e q.1)];refine⟨?_,u1⟩;rw[n1];by_cases g:j<k;{rw[iP g,iP O]};{rw[af g,af O]}}};{rw[decide_eq_false c];exact .inl ⟨_,rfl,rfl⟩}};{rw[af O];refine .inr ⟨l,rfl,hl.len,λj hj=> ?_⟩;obtain⟨n1,u1⟩:=hl.col j hj;rw[iP O]at n1;exact⟨by rw[af O];exact n1,u1⟩}
end
end Go.Vs.F
set_option maxRecDepth 100000
namespace Go.Vs.F
def bA (A rows:LI) (t:Nat):LI:=(keep A t).map λi=>rows.getD i 0
def kx (A rows:LI):LI:=A.map λa=>rows.getD a.toNat 0
section
variable {m:Nat} (hm:5000000000<=m) {rows:LI} (hl:rows.length<=1000) {full:Int} (hf:full<=(rows.length:Int)) {s:List (List bK)} (hs:Sq rows.length s) {A:LI} (hA:gK full A)
include hm hl hf hs hA
theorem H7 (x1 a0 y1:Int) (b0 K J G y0 d p2:LI) (Q y2:List (List bK)) (u:List LI): ∀(N t:Nat),A.length-t<N->t<=A.length->
 qG m N A rows x1 s b0 a0 Q K J G u y0 y1 y2 (kx (A.take t) rows) d p2 (List.replicate t []) (t:Int)=some (.inl (A,(rows,x1,s,()),(b0,a0,Q,()),(K,J,G,u,()),(y0,y1,y2,()),(kx A rows,d,p2,List.replicate A.length [],()),()))
 |0,t,h,_=>absurd h (zA _)
 |N+1,t,h,c0=>by rw[qG,bQ];have d0:=hA.len;by_cases ht:t<A.length;{have g:=hA.get ht;have e1:kx (A.take t) rows++[rows.getD (A.getD t 0).toNat 0]=kx (A.take (t+1)) rows:=by{unfold kx;rw[MD ht,sJ];simp[List.getD,ht]};have e2:(kx (A.take t) rows).length<=2:=by{unfold kx;rw[zh,zT];omega};rw[iP O,iP O,tN,iP O,iP (by rw[zL];omega),iP (by rw[zL,zI];omega),e1,<-List.replicate_succ',show wI ((t:Int)+1)=((t+1:Nat):Int)from ax O];exact H7 x1 a0 y1 b0 K J G y0 d p2 Q y2 u N (t+1) O O};{have e:t=A.length:=O;rw[af O,e,EW]}
theorem Ax (x1 a0 y1:Int) (b0 K J G y0 p0 p2:LI) (Q y2:List (List bK)) (u:List LI) {d:LI} (hd:d.length=2*A.length-1) (hu:UL d): ∀(N i:Nat) (l:List LI),rows.length-i<N->i<=rows.length->PL A.length (keep A i).length 0 l->
 (∃r,iv m N A rows x1 s b0 a0 Q K J G u y0 y1 y2 p0 d p2 l (i:Int)=some (.inl r)/\r.2.2.1=false)\/
 (∃l',iv m N A rows x1 s b0 a0 Q K J G u y0 y1 y2 p0 d p2 l (i:Int)=some (.inr (.inl ((b0,a0,Q,()),(K,J,G,u,()),(y0,y1,y2,()),(p0,d,p2,l',()),())))/\PL A.length (keep A rows.length).length 0 l')
 |0,i,l,h,_,_=>absurd h (zA _)
 |N+1,i,l,h,e0,hp=>by have g0:=hA.len;rw[iv,bQ];by_cases hi:i<rows.length;{obtain⟨r,e,h1,h2⟩:=T7 hm (A:=A) O i;have c0:wI ((i:Int)+1)=((i+1:Nat):Int):=ax O;have d0:=SK (A:=A) (t:=i);have ks:=L8 (A:=A) (t:=i);rw[iP O,e,bS,bQ];dsimp only;cases c:sQ A i with|true=>{rw[c,iP rfl,ls]at ks;rw[iP (h1 c),c0];exact Ax x1 a0 y1 b0 K J G y0 p0 p2 Q y2 u hd hu N (i+1) l O O (by rw[ks];exact hp)}|false=>{rw[c,af (by decide)]at ks;obtain⟨v,e1,v1,v2⟩:=TW hm (rows:=rows) (x1:=x1) hs hf hA hd hu p0 p2 l hi;rw[af (by have:=h2 c;omega),e1,bS];dsimp only;rcases H6 hm A rows b0 K J G y0 p0 d p2 x1 a0 y1 (i:Int) s Q y2 u (w:=A.length) (q:=(keep A i).length) O O v1 v2 m 0 l O O hp with⟨r,e2,e3⟩|⟨l',e2,e3⟩;{rw[nZ]at e2;rw[e2];exact .inl ⟨_,rfl,e3⟩};{rw[nZ]at e2;rw[e2,bS];dsimp only;rw[c0];exact Ax x1 a0 y1 b0 K J G y0 p0 p2 Q y2 u hd hu N (i+1) l' O O (by rw[ks,zG];exact e3)}}};{have e:i=rows.length:=O;subst e;rw[af O];exact .inr ⟨l,rfl,hp⟩}
omit hl hf hs hA in
theorem H4 (b0 y1:Int) (c0 Q K J p2:LI) (a0:List (List bK)) (G:List LI) {y0 d p0:LI} (hy:y0.length<=1000) {w:Nat} {l:List LI} (hp:PL w y0.length 0 l) (h0:p0.length=w) (hw:w=1\/w=2) (hd:d.length=2*w-1) (hu:UL d) {i:Nat} (hi:i<y0.length): ∀(N j:Nat) (u:List (List bK)),y0.length-j<N->Sq y0.length u->
 ∃d0,qF m N c0 b0 a0 Q K J G y0 y1 u p0 d p2 l (i:Int) (j:Int)=some (.inl ((c0,b0,a0,()),(Q,K,J,G,()),(y0,y1,d0,()),(p0,d,p2,l,()),(i:Int),()))/\Sq y0.length d0
 |0,j,u,h,_=>absurd h (zA _)
 |N+1,j,u,h,hs=>by rw[qF,bQ];by_cases hj:j<y0.length;{have a1:=hs.len;have a2:=hs.row i hi;obtain⟨f,e1,g1⟩:=Q4 hm hp h0 hw hd hu p2 hi hj;obtain⟨c,e2,g2⟩:=Bp hm (hs.cy i j) g1;unfold pD at e2;dsimp only at e2;have c1:(0:Int)<=(i:Int)/\(i:Int)<(u.length:Int):=O;have c2:(0:Int)<=(j:Int)/\(j:Int)<((u.getD i []).length:Int):=O;rw[iP O,iP c1,iP c1,tN,tN,iP c2,e1,bS];dsimp only;rw[e2,bS,iP c2,show wI ((j:Int)+1)=((j+1:Nat):Int)from ax O];exact H4 b0 y1 c0 Q K J p2 a0 G hy hp h0 hw hd hu hi N (j+1) _ O (hs.set hi (Sj g2))};{rw[af O];exact⟨u,rfl,hs⟩}
omit hl hf hs hA in
theorem H5 (b0 y1:Int) (c0 Q K J p2:LI) (a0:List (List bK)) (G:List LI) {y0 d p0:LI} (hy:y0.length<=1000) {w:Nat} {l:List LI} (hp:PL w y0.length 0 l) (h0:p0.length=w) (hw:w=1\/w=2) (hd:d.length=2*w-1) (hu:UL d): ∀(N i:Nat) (y2:List (List bK)),y0.length-i<N->Sq y0.length y2->
 ∃u,lR m N c0 b0 a0 Q K J G y0 y1 y2 p0 d p2 l (i:Int)=some (.inl ((c0,b0,a0,()),(Q,K,J,G,()),(y0,y1,u,()),(p0,d,p2,l,()),()))/\Sq y0.length u
 |0,j,y2,h,_=>absurd h (zA _)
 |N+1,i,y2,h,hs=>by rw[lR,bQ];by_cases hi:i<y0.length;{obtain⟨u,e1,e2⟩:=H4 hm b0 y1 c0 Q K J p2 a0 G hy hp h0 hw hd hu hi m 0 y2 O hs;rw[nZ]at e1;rw[iP O,e1,bS];dsimp only;rw[show wI ((i:Int)+1)=((i+1:Nat):Int)from ax O];exact H5 b0 y1 c0 Q K J p2 a0 G hy hp h0 hw hd hu N (i+1) u O e2};{rw[af O];exact⟨y2,rfl,hs⟩}
theorem qtw (x1:Int): ∃r,Od m rows x1 s A=some (r,(),(),())/\(r.2.2.1=false\/ ∃G d l,r=((bA A rows rows.length,wI (x1-(A.length:Int)),G,()),(kx A rows,d,bA A rows rows.length,l,()),true,())/\
 Sq (bA A rows rows.length).length G/\d.length=2*A.length-1/\UL d/\PL A.length (bA A rows rows.length).length 0 l):=by have j0:=hA.len;have wo:=MH hm (A:=A) O hl (x1:=x1) hs;have d0:=MI (A:=A) hs;have i0:=SK (A:=A) (t:=rows.length);have a0:(bA A rows rows.length).length=(keep A rows.length).length:=by{unfold bA;rw[zh]};have g0:=hA.get (k:=0) O;obtain⟨a,ha⟩: ∃a:Nat,A.getD 0 0=(a:Int):=⟨(A.getD 0 0).toNat,O⟩;have a1:=hs.len;have a2:=hs.row a O;have e0:=H7 hm hl hf hs hA x1 0 (wI (x1-(A.length:Int))) [] [] [] [] (bA A rows rows.length) [] (bA A rows rows.length) [] ((keep A rows.length).map λi=>(keep A rows.length).map λj=>(s.getD i []).getD j fR) [] m 0 O O;rw[nZ,sG,show kx [] rows=[]from rfl,List.replicate_zero]at e0;have h0:PL A.length (keep A 0).length 0 (List.replicate A.length []):=⟨zI,λj hj=>by{rw[show(List.replicate A.length ([]:LI)).getD j []=[] by simp[List.getD,hj],af O];exact⟨rfl,λi hi=>absurd hi (zA _)⟩}⟩;obtain⟨f,ef,uf⟩:=R6 hm (hs.cy a a);unfold pD at ef;dsimp only at ef;have rest: ∀{d:LI},d.length=2*A.length-1->UL d-> (∃r,iv m m A rows x1 s [] 0 [] [] [] [] [] (bA A rows rows.length) (wI (x1-(A.length:Int))) ((keep A rows.length).map λi=>(keep A rows.length).map λj=>(s.getD i []).getD j fR) (kx A rows) d (bA A rows rows.length) (List.replicate A.length []) 0=some (.inl r)/\r.2.2.1=false)\/ (∃l G,iv m m A rows x1 s [] 0 [] [] [] [] [] (bA A rows rows.length) (wI (x1-(A.length:Int))) ((keep A rows.length).map λi=>(keep A rows.length).map λj=>(s.getD i []).getD j fR) (kx A rows) d (bA A rows rows.length) (List.replicate A.length []) 0=some (.inr (.inl (([],0,[],()),([],[],[],[],()),(bA A rows rows.length,wI (x1-(A.length:Int)),(keep A rows.length).map (λi=>(keep A rows.length).map λj=>(s.getD i []).getD j fR),()),(kx A rows,d,bA A rows rows.length,l,()),())))/\ lR m m [] 0 [] [] [] [] [] (bA A rows rows.length) (wI (x1-(A.length:Int))) ((keep A rows.length).map λi=>(keep A rows.length).map λj=>(s.getD i []).getD j fR) (kx A rows) d (bA A rows rows.length) l 0=some (.inl (([],0,[],()),([],[],[],[],()),(bA A rows rows.length,wI (x1-(A.length:Int)),G,()),(kx A rows,d,bA A rows rows.length,l,()),()))/\ Sq (bA A rows rows.length).length G/\PL A.length (bA A rows rows.length).length 0 l):=λ{d} hd hu=>by{have u:=Ax hm hl hf hs hA x1 0 (wI (x1-(A.length:Int))) [] [] [] [] (bA A rows rows.length) (kx A rows) (bA A rows rows.length) [] ((keep A rows.length).map λi=>(keep A rows.length).map λj=>(s.getD i []).getD j fR) [] hd hu m 0 (List.replicate A.length []) O O h0;rw[nZ]at u;rcases u with u|⟨l,u,h2⟩;{exact .inl u};{rw[<-a0]at h2;obtain⟨G,J,h4⟩:=H5 hm 0 (wI (x1-(A.length:Int))) [] [] [] [] (bA A rows rows.length) [] [] (y0:=bA A rows rows.length) O h2 (p0:=kx A rows) (by unfold kx;rw[zh]) O hd hu m 0 ((keep A rows.length).map λi=>(keep A rows.length).map λj=>(s.getD i []).getD j fR) O (by rw[a0];exact d0);rw[nZ]at J;exact .inr ⟨l,G,u,J,h4,h2⟩}};rw[Od,wo,bS];dsimp only;rw[show(keep A rows.length).map (λi=>rows.getD i 0)=bA A rows rows.length from rfl,e0,bS];dsimp only;rw[iP O,ha,iP O,iP O,tN,iP O,ef,bS,aA];dsimp only;by_cases c:(A.length:Int)=2;{have g1:=hA.get (k:=1) O;obtain⟨b,hb⟩: ∃b:Nat,A.getD 1 0=(b:Int):=⟨(A.getD 1 0).toNat,O⟩;have b2:=hs.row b O;obtain⟨f1,e1,u1⟩:=R6 hm (hs.cy b a);obtain⟨f2,e2,u2⟩:=R6 hm (hs.cy b b);unfold pD at e1 e2;dsimp only at e1 e2;rw[iP c,iP O,hb,iP O,iP O,tN,iP O,e1,bS,iP O,iP O,iP O,iP O,e2,bS,iP (by simp)];dsimp only;have K:UL ([f]++[f1,f2]):=λi hi=>by{have:i=0\/i=1\/i=2:=by{simp at hi;omega};rcases this with rfl|rfl|rfl;{exact uf};{exact u1};{exact u2}};have b0:([f]++[f1,f2]).length=2*A.length-1:=by{rw[show A.length=2 by omega];rfl};rcases rest b0 K with⟨r,u,h2⟩|⟨l,G,u,h2,J,h4⟩;{rw[u];exact⟨_,rfl,.inl h2⟩};{rw[u,bS];dsimp only;rw[h2];exact⟨_,rfl,.inr ⟨G,_,l,rfl,J,b0,K,h4⟩⟩}};{have Q:UL [f]:=λi hi=>by{have:i=0:=by{simp at hi;omega};subst this;exact uf};have c0:[f].length=2*A.length-1:=by{rw[show A.length=1 by omega];rfl};rw[af c];rcases rest c0 Q with⟨r,u,h2⟩|⟨l,G,u,h2,J,h4⟩;{rw[u];exact⟨_,rfl,.inl h2⟩};{rw[u,bS];dsimp only;rw[h2];exact⟨_,rfl,.inr ⟨G,_,l,rfl,J,c0,Q,h4⟩⟩}}
end
end Go.Vs.F
set_option maxRecDepth 100000
namespace Go.Vs.F
abbrev Ln:=LI×Int×List (List bK)
def PF (l:List sE) (c:Nat) (r:Int):Prop:=(∃j,j<(l.getD c ((0:Int),((0:Int),(([]:LI),(0:Int))))).2.2.1.length/\(l.getD c ((0:Int),((0:Int),(([]:LI),(0:Int))))).2.2.1.getD j 0=r)/\(l.getD c ((0:Int),((0:Int),(([]:LI),(0:Int))))).2.1<=r
structure Fr (n:Nat) (P:Int->Prop) (rows:LI) (full:Int) (s:List (List bK)):Prop where
 full0:0<=full
 fullr:full<=(rows.length:Int)
 len:(rows.length:Int)<=full+4
 rng: ∀i,i<rows.length->0<=rows.getD i 0/\rows.getD i 0<(n:Int)
 rest: ∀i:Nat,full<=(i:Int)->i<rows.length->P (rows.getD i 0)
 sq:Sq rows.length s
structure XS (n:Nat) (l:List sE):Prop where
 len:l.length<=4
 row: ∀i,i<l.length->0<=(l.getD i ((0:Int),((0:Int),(([]:LI),(0:Int))))).1/\(l.getD i ((0:Int),((0:Int),(([]:LI),(0:Int))))).1<=(l.getD i ((0:Int),((0:Int),(([]:LI),(0:Int))))).2.1/\(l.getD i ((0:Int),((0:Int),(([]:LI),(0:Int))))).2.1<=(n:Int)/\(l.getD i ((0:Int),((0:Int),(([]:LI),(0:Int))))).2.2.1.length<=4/\ ∀j,j<(l.getD i ((0:Int),((0:Int),(([]:LI),(0:Int))))).2.2.1.length->0<=(l.getD i ((0:Int),((0:Int),(([]:LI),(0:Int))))).2.2.1.getD j 0/\(l.getD i ((0:Int),((0:Int),(([]:LI),(0:Int))))).2.2.1.getD j 0<(n:Int)
 par: ∀c f,c<f->f<l.length->(l.getD c ((0:Int),((0:Int),(([]:LI),(0:Int))))).2.2.2=(f:Int)-> ∀r,PF l c r->((l.getD f ((0:Int),((0:Int),(([]:LI),(0:Int))))).1<=r/\r<(l.getD f ((0:Int),((0:Int),(([]:LI),(0:Int))))).2.1)\/PF l f r
def quw {n:Nat} {l:List sE} (h:FE n l=true):XS n l:=by unfold FE zF at h;simp only[zM,decide_eq_true_iff]at h;obtain⟨⟨h1,h2⟩,h3⟩:=h;refine⟨h1,λi hi=> ?_,λc f hc hf hp r Q=> ?_⟩;{have hm:l.getD i ((0:Int),((0:Int),(([]:LI),(0:Int))))∈l:=by{simp[List.getD,hi]};have:=zn.1 h2 _ hm;unfold WR at this;simp only[zM,decide_eq_true_iff]at this;obtain⟨⟨⟨⟨a,b⟩,c⟩,d⟩,e⟩:=this;refine⟨a,b,c,d,λj u=> ?_⟩;have:=zn.1 e _ (Xi u);simpa using this};{have:=zn.1 h3 f (uE.2 hf);have:=zn.1 this c (uE.2 hc);rw[decide_eq_true hp,uB,Bool.false_or]at this;obtain⟨⟨j,u,rfl⟩,h5⟩:=Q;unfold okP at this;have:=zn.1 this _ (Xi u);simp only[EU,zM,decide_eq_true_iff]at this;rcases this with(q|q)|q;{omega};{exact .inl q};{obtain⟨O,K⟩:=q;obtain⟨x,hx,J⟩:=LG.1 O;obtain⟨k,G,rfl⟩:=nA hx;refine .inr ⟨⟨k,G,?_⟩,K⟩;rw[<-of_decide_eq_true J,List.getD,List.getElem?_eq_getElem G,xl]}}
def sP (R:LI) (r:Int):Prop:= ∃j,j<R.length/\R.getD j 0=r
def Vr {R X:LI} {r:Int} (h:sP R r):sP (R++X) r:=by obtain⟨j,u,h2⟩:=h;exact⟨j,by rw[zG];omega,by rw[jN u];exact h2⟩
def Vm {R X:LI} {r:Int} (h:sP X r):sP (R++X) r:=by obtain⟨j,u,h2⟩:=h;exact⟨R.length+j,by rw[zG];omega,by rw[lQ O,show R.length+j-R.length=j by omega];exact h2⟩
def dY (n:Nat) (R:LI):Prop:= ∀i,i<R.length->0<=R.getD i 0/\R.getD i 0<(n:Int)
def dY.app {n:Nat} {R X:LI} (h:dY n R) (h':dY n X):dY n (R++X):=by intro i u;rw[zG]at u;by_cases c:i<R.length;{rw[jN c];exact h i c};{rw[lQ O];exact h' _ O}
def dY.one {n:Nat} {r:Int} (h:0<=r/\r<(n:Int)):dY n [r]:=λi u=>by have:i=0:=by{simp at u;omega};subst this;exact h
def BF (c:Nat):Int:=4*2^c-4
def qms {c:Nat}:BF (c+1)=BF c+4*2^c:=by unfold BF;rw[Int.pow_succ];omega
def lH {c:Nat} (h:c<=4):(1:Int)<=2^c/\(2:Int)^c<=16:=by have:c=0\/c=1\/c=2\/c=3\/c=4:=O;rcases this with rfl|rfl|rfl|rfl|rfl<;>decide
structure LF (n:Nat) (l:List sE) (f:Nat) (left:List Ln):Prop where
 len:left.length=f
 fr: ∀c,c<f->Fr n (PF l c) (left.getD c (([]:LI),((0:Int),([]:List (List bK))))).1 (left.getD c (([]:LI),((0:Int),([]:List (List bK))))).2.1 (left.getD c (([]:LI),((0:Int),([]:List (List bK))))).2.2
 sm: ∀c,c<f->(left.getD c (([]:LI),((0:Int),([]:List (List bK))))).2.1<=4*2^c
section
variable {m:Nat} (hm:5000000000<=m) {n:Nat} (hn:n<=4) {l:List sE} (hF:XS n l) {f:Nat} (hf:f<l.length) {left:List Ln} (hL:LF n l f left)
include hm hn hF hf hL
theorem AJ (a0 a1 Q x1:Int) (o a2 a3 a4 t0:LI) (K J:List (List bK)): ∀(N c:Nat) (R:LI),f-c<N->c<=f->dY n R->(R.length:Int)<=BF c->
 (∀c',c'<c->(l.getD c' ((0:Int),((0:Int),(([]:LI),(0:Int))))).2.2.2=(f:Int)-> ∀i:Nat,(i:Int)<(left.getD c' (([]:LI),((0:Int),([]:List (List bK))))).2.1->i<(left.getD c' (([]:LI),((0:Int),([]:List (List bK))))).1.length->sP R ((left.getD c' (([]:LI),((0:Int),([]:List (List bK))))).1.getD i 0))->
 ∃R',oD m N o l (f:Int) left a0 a1 a2 a3 a4 t0 Q K R x1 J (c:Int)=some (.inl (o,l,(f:Int),left,(a0,a1,a2,a3,a4,()),(t0,Q,K,()),(R',x1,J,()),()))/\dY n R'/\(R'.length:Int)<=BF f/\
  (∀c',c'<f->(l.getD c' ((0:Int),((0:Int),(([]:LI),(0:Int))))).2.2.2=(f:Int)-> ∀i:Nat,(i:Int)<(left.getD c' (([]:LI),((0:Int),([]:List (List bK))))).2.1->i<(left.getD c' (([]:LI),((0:Int),([]:List (List bK))))).1.length->sP R' ((left.getD c' (([]:LI),((0:Int),([]:List (List bK))))).1.getD i 0))
 |0,c,R,h,_,_,_,_=>absurd h (zA _)
 |N+1,c,R,h,h0,hR,hRl,u=>by have hl4:=hF.len;have g0:=hL.len;rw[oD,bQ];by_cases hc:c<f;{have hp:=lH (c:=c) O;have e0:=lH (c:=c+1) O;have wc:wI ((c:Int)+1)=((c+1:Nat):Int):=ax O;have j0:=qms (c:=c);have G:=hL.fr c hc;have d0:=hL.sm c hc;rw[iP O,iP O,zH,tN,aA,wc];by_cases e:(l.getD c ((0:Int),((0:Int),(([]:LI),(0:Int))))).2.2.2=(f:Int);{have f1:=G.full0;have f2:=G.fullr;have c0:(((left.getD c (([]:LI),((0:Int),([]:List (List bK))))).1.take (left.getD c (([]:LI),((0:Int),([]:List (List bK))))).2.1.toNat).length:Int)=(left.getD c (([]:LI),((0:Int),([]:List (List bK))))).2.1:=by{rw[zT];omega};have i0:BF c<=60:=by{unfold BF;omega};rw[iP e,iP O,iP O,iP O];rw[iP (show R.length+((left.getD c (([]:LI),((0:Int),([]:List (List bK))))).1.take (left.getD c (([]:LI),((0:Int),([]:List (List bK))))).2.1.toNat).length<=1073741824 by omega)];refine AJ a0 a1 Q x1 o a2 a3 a4 t0 K J N (c+1) _ O O (hR.app λi hi=> ?_) (by rw[zG];omega) λc' b0 e' i h1 h2=> ?_;{rw[zT]at hi;rw[L3 O];exact G.rng i O};{by_cases d:c'=c;{subst d;refine Vm ⟨i,O,?_⟩;rw[L3 O]};{exact Vr (u c' O e' i h1 h2)}}};{rw[af e];refine AJ a0 a1 Q x1 o a2 a3 a4 t0 K J N (c+1) R O O hR O λc' b0 e' i h1 h2=> ?_;by_cases d:c'=c;{subst d;exact absurd e' e};{exact u c' O e' i h1 h2}}};{have:c=f:=O;subst this;rw[af O];exact⟨R,rfl,hR,hRl,u⟩}
theorem Ij (a0 a1 K x1:Int) (o a2 a3 a4 Q:LI) (J G:List (List bK)): ∀(N j:Nat) (R:LI),(l.getD f ((0:Int),((0:Int),(([]:LI),(0:Int))))).2.1.toNat-j<N->(l.getD f ((0:Int),((0:Int),(([]:LI),(0:Int))))).1<=(j:Int)->(j:Int)<=(l.getD f ((0:Int),((0:Int),(([]:LI),(0:Int))))).2.1->dY n R->(R.length:Int)<=BF f+((j:Int)-(l.getD f ((0:Int),((0:Int),(([]:LI),(0:Int))))).1)->
 ∃u,qL m N o l (f:Int) left a0 a1 a2 a3 a4 Q K J R x1 G (j:Int)=some (.inl (o,l,(f:Int),left,(a0,a1,a2,a3,a4,()),(Q,K,J,()),(u,x1,G,()),()))/\dY n u/\(u.length:Int)<=BF f+((l.getD f ((0:Int),((0:Int),(([]:LI),(0:Int))))).2.1-(l.getD f ((0:Int),((0:Int),(([]:LI),(0:Int))))).1)/\
  (∀r,sP R r->sP u r)/\ ∀r,(j:Int)<=r->r<(l.getD f ((0:Int),((0:Int),(([]:LI),(0:Int))))).2.1->sP u r
 |0,j,R,h,_,_,_,_=>absurd h (zA _)
 |N+1,j,R,h,h1,h2,hR,hRl=>by have hl4:=hF.len;obtain⟨g1,g2,g3,g4,g5⟩:=hF.row f hf;have hp:=lH (c:=f) O;have b0:BF f<=60:=by{unfold BF;omega};rw[qL,iP O,tN,bQ];by_cases hj:(j:Int)<(l.getD f ((0:Int),((0:Int),(([]:LI),(0:Int))))).2.1;{rw[iP hj,iP (by rw[zL];omega),show wI ((j:Int)+1)=((j+1:Nat):Int)from ax O];obtain⟨u,e1,e2,e3,e4,e5⟩:=Ij a0 a1 K x1 o a2 a3 a4 Q J G N (j+1) (R++[(j:Int)]) O O O (hR.app (dY.one O)) (by rw[zG,zL];omega);refine⟨u,e1,e2,e3,λr hr=>e4 r (Vr hr),λr a b=> ?_⟩;by_cases c:r=(j:Int);{exact e4 r (Vm ⟨0,by simp,by rw[c];rfl⟩)};{exact e5 r O b}};{rw[af hj];exact⟨R,rfl,hR,O,λr hr=>hr,λr a b=>O⟩}
theorem AI (a0 a1 t1 x1:Int) (o a2 a3 a4 t0:LI) (t2 Q:List (List bK)) {F:Nat} (K:F<=200): ∀(N k:Nat) (R:LI),(l.getD f ((0:Int),((0:Int),(([]:LI),(0:Int))))).2.2.1.length-k<N->k<=(l.getD f ((0:Int),((0:Int),(([]:LI),(0:Int))))).2.2.1.length->dY n R->F<=R.length->R.length<=F+k->(∀i,F<=i->i<R.length->PF l f (R.getD i 0))->
 ∃u,oC m N o l (f:Int) left a0 a1 a2 a3 a4 t0 t1 t2 R x1 Q (k:Int)=some (.inl (o,l,(f:Int),left,(a0,a1,a2,a3,a4,()),(t0,t1,t2,()),(u,x1,Q,()),()))/\dY n u/\F<=u.length/\u.length<=F+4/\(∀i,F<=i->i<u.length->PF l f (u.getD i 0))/\
  (∀r,sP R r->sP u r)/\ ∀j,k<=j->j<(l.getD f ((0:Int),((0:Int),(([]:LI),(0:Int))))).2.2.1.length->(l.getD f ((0:Int),((0:Int),(([]:LI),(0:Int))))).2.1<=(l.getD f ((0:Int),((0:Int),(([]:LI),(0:Int))))).2.2.1.getD j 0->sP u ((l.getD f ((0:Int),((0:Int),(([]:LI),(0:Int))))).2.2.1.getD j 0)
 |0,k,R,h,_,_,_,_,_=>absurd h (zA _)
 |N+1,k,R,h,d0,hR,h1,h2,hP=>by have hl4:=hF.len;obtain⟨g1,g2,g3,g4,g5⟩:=hF.row f hf;have G:(0:Int)<=(f:Int)/\(f:Int)<(l.length:Int):=O;rw[oC,iP G,tN,bQ];by_cases hk:k<(l.getD f ((0:Int),((0:Int),(([]:LI),(0:Int))))).2.2.1.length;{have J:(0:Int)<=(k:Int)/\(k:Int)<((l.getD f ((0:Int),((0:Int),(([]:LI),(0:Int))))).2.2.1.length:Int):=O;rw[iP O,iP G,iP J,iP G,bQ,tN,show wI ((k:Int)+1)=((k+1:Nat):Int)from ax O];by_cases c:(l.getD f ((0:Int),((0:Int),(([]:LI),(0:Int))))).2.2.1.getD k 0>=(l.getD f ((0:Int),((0:Int),(([]:LI),(0:Int))))).2.1;{rw[iP c,iP G,iP J,iP (by rw[zL];omega)];obtain⟨u,e1,e2,e3,e4,e5,e6,e7⟩:=AI a0 a1 t1 x1 o a2 a3 a4 t0 t2 Q K N (k+1) (R++[(l.getD f ((0:Int),((0:Int),(([]:LI),(0:Int))))).2.2.1.getD k 0]) O O (hR.app (dY.one (g5 k hk))) (by rw[zG];omega) (by rw[zG,zL];omega) λi c0 b0=>by{rw[zG,zL]at b0;by_cases d:i<R.length;{rw[jN d];exact hP i c0 d};{rw[lQ O,show i-R.length=0 by omega];exact⟨⟨k,hk,rfl⟩,c⟩}};refine⟨u,e1,e2,e3,e4,e5,λr hr=>e6 r (Vr hr),λj a b d=> ?_⟩;by_cases q:j=k;{subst q;exact e6 _ (Vm ⟨0,by simp,rfl⟩)};{exact e7 j O b d}};{rw[af c];obtain⟨u,e1,e2,e3,e4,e5,e6,e7⟩:=AI a0 a1 t1 x1 o a2 a3 a4 t0 t2 Q K N (k+1) R O O hR h1 O hP;refine⟨u,e1,e2,e3,e4,e5,e6,λj a b d=> ?_⟩;by_cases q:j=k;{subst q;exact absurd d O};{exact e7 j O b d}}};{rw[af O];exact⟨R,rfl,hR,h1,O,hP,λr hr=>hr,λj a b=>O⟩}
end
end Go.Vs.F
set_option maxRecDepth 100000
namespace Go.Vs.F
structure AK (k r:Nat) (s:List (List bK)):Prop where
 len:s.length=r
 row: ∀i,i<r->(s.getD i []).length=k
 cy: ∀i j,Cy ((s.getD i []).getD j fR)
def AK.sq {k:Nat} {s:List (List bK)} (h:AK k k s):Sq k s:=⟨h.len,h.row,h.cy⟩
def AK.set {k r:Nat} {s:List (List bK)} (h:AK k r s) {i j:Nat} (G:i<r) {d:bK} (J:Cy d):AK k r (s.set i ((s.getD i []).set j d)):=by refine⟨by rw[zU];exact h.len,λq u=> ?_,λq c=> ?_⟩;{rw[Tf];split;{rw[zU];exact h.row i G};{exact h.row q u}};{rw[Tf];split;{rw[qdf];split;{exact J};{exact h.cy i c}};{exact h.cy q c}}
def AK.snoc {k r:Nat} {s:List (List bK)} (h:AK k r s):AK k (r+1) (s++[List.replicate k fR]):=by have hl:=h.len;have u: ∀i,(s++[List.replicate k fR]).getD i []=if i<r then s.getD i []else if i=r then List.replicate k fR else []:=λi=>by{simp only[List.getD_eq_getElem?_getD];by_cases c:i<r;{rw[iP c,List.getElem?_append_left O]};{rw[af c,List.getElem?_append_right O];by_cases d:i=r;{rw[iP d,show i-s.length=0 by omega];rfl};{rw[af d,List.getElem?_eq_none (by rw[zL];omega)];rfl}}};refine⟨by rw[zG,hl];rfl,λi J=> ?_,λi j=> ?_⟩;{rw[u];by_cases c:i<r;{rw[iP c];exact h.row i c};{rw[af c,iP O,zI]}};{rw[u];split;{exact h.cy i j};{split;{exact Na (λd G=>by rw[(ME.1 G).2];exact M2) j};{exact M2}}}
section
variable {m:Nat} (hm:5000000000<=m) {n:Nat} (hn:n<=4) {S I V:LI} (hM:MV n n S I V) (hV:UL V) {o:LI} (hol:o.length=n) (hor: ∀i,i<o.length->0<=o.getD i 0/\o.getD i 0<(o.length:Int))
include hm hn hM hV hol hor
theorem Rh {i j:Int} (hi:0<=i/\i<(n:Int)) (hj:0<=j/\j<(n:Int)): ∃c,DG m (n:Int) (n:Int) S I V o i j=some (c,(),(),(),(),())/\Cn c:=by have h1:=hor i.toNat O;have h2:=hor j.toNat O;obtain⟨a,J⟩: ∃a:Nat,o.getD i.toNat 0=(a:Int):=⟨(o.getD i.toNat 0).toNat,O⟩;obtain⟨b,G⟩: ∃b:Nat,o.getD j.toNat 0=(b:Int):=⟨(o.getD j.toNat 0).toNat,O⟩;have Q:(if(b:Int)>(a:Int)then(b:Int)else(a:Int))=((max a b:Nat):Int):=by{split<;>omega};have K:(if(b:Int)<(a:Int)then(b:Int)else(a:Int))=((min a b:Nat):Int):=by{split<;>omega};obtain⟨u,_⟩:=Ay hM hV (i:=max a b) (j:=min a b) O;rw[DG,iP O,iP O,J,G,Q,K,AP O hM O,bS];dsimp only;rw[vP O u];exact⟨_,rfl,A2 _⟩
variable {l:List sE} {f:Nat} (hf:f<l.length) (left:List Ln) {R:LI} (hR:dY n R) (hRl:R.length<=200)
include hf hR hRl
theorem AH (K x1:Int) (Q:LI) (J:List (List bK)) {i:Nat} (hi:i<R.length): ∀(N j:Nat) (u:List (List bK)),R.length-j<N->AK R.length (i+1) u->
 ∃G,lS m N o l (f:Int) left (n:Int) (n:Int) S I V Q K J R x1 u (R.length:Int) (i:Int) (j:Int)=some (.inl (o,l,(f:Int),left,((n:Int),(n:Int),S,I,V,()),(Q,K,J,()),(R,x1,G,()),(R.length:Int),(i:Int),()))/\AK R.length (i+1) G
 |0,j,u,h,_=>absurd h (zA _)
 |N+1,j,u,h,hs=>by rw[lS,bQ];by_cases hj:j<R.length;{have c1:(0:Int)<=(i:Int)/\(i:Int)<(R.length:Int):=O;have c2:(0:Int)<=(j:Int)/\(j:Int)<(R.length:Int):=O;have c3:(0:Int)<=(f:Int)/\(f:Int)<(l.length:Int):=O;have a1:=hs.len;have a2:=hs.row i O;have wj:wI ((j:Int)+1)=((j+1:Nat):Int):=ax O;have ih:=AH K x1 Q J hi N (j+1) u O hs;rw[iP O,iP c1,iP c2,iP c3,bQ,wj,iP c3];simp only[bQ,iP c1,iP c2,zH,tN];generalize (if R.getD j 0<R.getD i 0 then R.getD j 0 else R.getD i 0)=mn;split;{split;{obtain⟨c,e1,g1⟩:=Rh hm hn hM hV hol hor (hR i hi) (hR j hj);rw[iP O,e1,bS,iP O];exact AH K x1 Q J hi N (j+1) _ O (hs.set O (Sj g1))};{exact ih}};{exact ih}};{rw[af O];exact⟨u,rfl,hs⟩}
theorem Ii (K x1:Int) (Q:LI) (J:List (List bK)): ∀(N i:Nat) (G:List (List bK)),R.length-i<N->i<=R.length->AK R.length i G->
 ∃u,qK m N o l (f:Int) left (n:Int) (n:Int) S I V Q K J R x1 G (R.length:Int) (i:Int)=some (.inl (l,(f:Int),left,(Q,K,J,()),(R,x1,u,()),()))/\Sq R.length u
 |0,j,G,h,_,_=>absurd h (zA _)
 |N+1,i,G,h,a0,hs=>by rw[qK,bQ];by_cases hi:i<R.length;{have a1:=hs.len;obtain⟨u,e1,e2⟩:=AH hm hn hM hV hol hor hf left hR hRl K x1 Q J hi m 0 _ O hs.snoc;rw[nZ]at e1;rw[iP O,iP O,iP (by rw[zL];omega),tN,e1,bS];dsimp only;rw[show wI ((i:Int)+1)=((i+1:Nat):Int)from ax O];exact Ii K x1 Q J N (i+1) u O O e2};{have:i=R.length:=O;subst this;rw[af O];exact⟨G,rfl,hs.sq⟩}
end
section
variable {m:Nat} (hm:5000000000<=m) {n:Nat} {l:List sE} (hl4:l.length<=4) {f:Nat} (hf:f<l.length) (left:List Ln) {R:LI} (hRl:R.length<=200)
include hm hl4 hf hRl
theorem Ig (t1 x1 K:Int) (t0:LI) (Q:List (List bK)) (c:Nat) {Y:LI} (hY: ∀i,i<Y.length->sP R (Y.getD i 0)) (a0:Y.length<=200) {ys:List (List bK)} (u:Sq Y.length ys) {i:Nat} (hi:i<Y.length): ∀(N j:Nat) (G:List (List bK)),Y.length-j<N->Sq R.length G->
 ∃J,qI m N l (f:Int) left t0 t1 Q R x1 G (c:Int) Y K ys (i:Int) (j:Int)=some (.inl (l,(f:Int),left,(t0,t1,Q,()),(R,x1,J,()),(c:Int),(Y,K,ys,()),(i:Int),()))/\Sq R.length J
 |0,j,G,h,_=>absurd h (zA _)
 |N+1,j,G,h,hs=>by rw[qI,bQ];by_cases hj:j<Y.length;{obtain⟨p,e1,p1⟩: ∃p:Nat,ke m R (Y.getD i 0)=some ((p:Int),(),(),())/\p<R.length:=by{rcases Vf hm (rows:=R) O (Y.getD i 0)with⟨r,e,h1,h2⟩|⟨e,h2⟩;{exact⟨r,e,h1⟩};{obtain⟨j,a,b⟩:=hY i hi;exact absurd b (h2 j a)}};obtain⟨q,e2,q1⟩: ∃p:Nat,ke m R (Y.getD j 0)=some ((p:Int),(),(),())/\p<R.length:=by{rcases Vf hm (rows:=R) O (Y.getD j 0)with⟨r,e,h1,h2⟩|⟨e,h2⟩;{exact⟨r,e,h1⟩};{obtain⟨k,a,b⟩:=hY j hj;exact absurd b (h2 k a)}};have a1:=hs.len;have a2:=hs.row p p1;have b1:=u.len;have b2:=u.row i hi;obtain⟨c,e3,g3⟩:=EN hm (hs.cy p q) (u.cy i j);unfold pD at e3;dsimp only at e3;have c2:(0:Int)<=(q:Int)/\(q:Int)<((G.getD p []).length:Int):=O;rw[iP O,iP O,tN,tN,e1,bS,iP O,e2,bS];dsimp only;rw[iP O,iP O,tN,tN,iP c2,iP O,iP O,e3,bS,iP c2,show wI ((j:Int)+1)=((j+1:Nat):Int)from ax O];exact Ig t1 x1 K t0 Q _ hY a0 u hi N (j+1) _ O (hs.set p1 (Sj g3))};{rw[af O];exact⟨G,rfl,hs⟩}
theorem Ih (t1 x1 y1:Int) (t0:LI) (Q:List (List bK)) (c:Nat) {Y:LI} (hY: ∀i,i<Y.length->sP R (Y.getD i 0)) (K:Y.length<=200) {ys:List (List bK)} (J:Sq Y.length ys): ∀(N i:Nat) (G:List (List bK)),Y.length-i<N->Sq R.length G->
 ∃u,qJ m N l (f:Int) left t0 t1 Q R x1 G (c:Int) Y y1 ys (i:Int)=some (.inl (l,(f:Int),left,(t0,t1,Q,()),(R,x1,u,()),(c:Int),()))/\Sq R.length u
 |0,j,G,h,_=>absurd h (zA _)
 |N+1,i,G,h,hs=>by rw[qJ,bQ];by_cases hi:i<Y.length;{obtain⟨u,e1,e2⟩:=Ig hm hl4 hf left hRl t1 x1 y1 t0 Q c hY K J hi m 0 G O hs;rw[nZ]at e1;rw[iP O,e1,bS];dsimp only;rw[show wI ((i:Int)+1)=((i+1:Nat):Int)from ax O];exact Ih t1 x1 y1 t0 Q c hY K J N (i+1) u O e2};{rw[af O];exact⟨G,rfl,hs⟩}
theorem AG (a0:left.length=f) (hc: ∀c,c<f->(l.getD c ((0:Int),((0:Int),(([]:LI),(0:Int))))).2.2.2=(f:Int)->Sq (left.getD c (([]:LI),((0:Int),([]:List (List bK))))).1.length (left.getD c (([]:LI),((0:Int),([]:List (List bK))))).2.2/\(left.getD c (([]:LI),((0:Int),([]:List (List bK))))).1.length<=200/\ ∀i,i<(left.getD c (([]:LI),((0:Int),([]:List (List bK))))).1.length->sP R ((left.getD c (([]:LI),((0:Int),([]:List (List bK))))).1.getD i 0)) (K x1:Int) (Q:LI) (J:List (List bK)): ∀(N c:Nat) (G:List (List bK)),f-c<N->Sq R.length G->
 ∃u,oB m N l (f:Int) left Q K J R x1 G (c:Int)=some (.inl (left,(Q,K,J,()),(R,x1,u,()),()))/\Sq R.length u
 |0,j,G,h,_=>absurd h (zA _)
 |N+1,c,G,h,hs=>by rw[oB,bQ];by_cases b0:c<f;{have wc:wI ((c:Int)+1)=((c+1:Nat):Int):=ax O;rw[iP O,iP O,tN,aN,wc,zH];by_cases e:(l.getD c ((0:Int),((0:Int),(([]:LI),(0:Int))))).2.2.2=(f:Int);{obtain⟨g1,g2,g3⟩:=hc c b0 e;obtain⟨u,e1,e2⟩:=Ih hm hl4 hf left hRl K x1 (left.getD c (([]:LI),((0:Int),([]:List (List bK))))).2.1 Q J c g3 g2 g1 m 0 G O hs;rw[nZ]at e1;rw[iP e,iP O,e1,bS];dsimp only;rw[wc];exact AG a0 hc K x1 Q J N (c+1) u O e2};{rw[af e];exact AG a0 hc K x1 Q J N (c+1) G O hs}};{rw[af O];exact⟨G,rfl,hs⟩}
end
end Go.Vs.F
set_option maxRecDepth 100000
namespace Go.Vs.F
abbrev Ll:=LI×LI×LI×List LI
structure Pv (n:Nat) (p:Ll):Prop where
 w:p.1.length=1\/p.1.length=2
 rng:dY n p.1
 dl:p.2.1.length<=3
 du:UL p.2.1
 rl:p.2.2.1.length<=40
 rr:dY n p.2.2.1
 pl:PL p.1.length p.2.2.1.length 0 p.2.2.2
def cR:List Ll->Nat
 |[]=>0
 |p::P=>p.1.length+cR P
def VL {P Q:List Ll}:cR (P++Q)=cR P+cR Q:=by induction P with|nil=>simp[cR]|cons p P u=>{rw[AX,cR,cR,u];omega}
def Fj {n:Nat} {P:List Ll} (h: ∀p∈P,Pv n p):P.length<=cR P:=by induction P with|nil=>exact zJ _|cons p P u=>{have:=(h p mS).w;have:=u λq G=>h q (mT G);rw[cR,Lo];omega}
def dY.at {n:Nat} {rows:LI} (h:dY n rows) {full:Int} (hf:full<=(rows.length:Int)) {A:LI} (hA:gK full A):dY n (kx A rows):=λi u=>by unfold kx at u⊢;rw[zh]at u;have g:=hA.get u;rw[show(A.map λa=>rows.getD a.toNat 0).getD i 0=rows.getD (A.getD i 0).toNat 0 by simp[List.getD,u]];exact h _ O
def Fr.elim {n:Nat} {P:Int->Prop} {rows:LI} {full:Int} {s:List (List bK)} (h:Fr n P rows full s) {A:LI} (hA:gK full A) {Q:List (List bK)} (hs:Sq (bA A rows rows.length).length Q):
 Fr n P (bA A rows rows.length) (full-(A.length:Int)) Q/\dY n (bA A rows rows.length)/\(bA A rows rows.length).length+A.length=rows.length:=by have h1:=h.fullr;have h2:=h.len;have h0:=h.full0;have hc:=qhc hA (t:=rows.length) h1;have hl:(bA A rows rows.length).length=(keep A rows.length).length:=by{unfold bA;rw[zh]};have hg: ∀i,i<(keep A rows.length).length->(bA A rows rows.length).getD i 0=rows.getD ((keep A rows.length).getD i 0) 0:=λi G=>by{unfold bA;simp[List.getD,G]};have J: ∀i,i<(keep A rows.length).length->(keep A rows.length).getD i 0<rows.length:=λi G=>qj6 (A:=A) (by simp[List.getD,G]);have hr:dY n (bA A rows rows.length):=λi G=>by{rw[hl]at G;rw[hg i G];exact h.rng _ (J i G)};have a0:(A.length:Int)<=full:=by{cases hA with| @one p hp=>{show(1:Int)<=full;omega}| @two p r h3 h4 h5=>{show(2:Int)<=full;omega}};refine⟨⟨O,O,O,hr,λi K u=> ?_,hs⟩,hr,O⟩;rw[hl]at u;rw[hg i u];obtain⟨g1,g2⟩:=qq8 h0 hA h1 K u;exact h.rest _ g1 g2
section
variable {m:Nat} (hm:5000000000<=m) {n:Nat} (hn:n<=4) {S I V:LI} (hM:MV n n S I V) (hV:UL V) {o:LI} (hol:o.length=n) (hor: ∀i,i<o.length->0<=o.getD i 0/\o.getD i 0<(o.length:Int)) {l:List sE} (hF:XS n l)
include hm hn hM hV hol hor hF
theorem qqp {f:Nat} (hf:f<l.length) {left:List Ln} (hL:LF n l f left):
 ∃rows full s,TG m (n:Int) (n:Int) S I V o l (f:Int) left=some ((rows,full,s,()),(),(),(),(),left,())/\Fr n (PF l f) rows full s/\full<=4*2^f:=by have hl4:=hF.len;obtain⟨g1,g2,g3,g4,g5⟩:=hF.row f hf;have hp:=lH (c:=f) O;obtain⟨R0,e0,a0,b0,c0⟩:=AJ hm hn hF hf hL (n:Int) (n:Int) 0 0 o S I V [] [] [] m 0 [] O O (λi G=>absurd G (zA _)) (by show(0:Int)<=BF 0;decide) (λc' J=>absurd J (zA _));rw[nZ]at e0;obtain⟨K,e1,a1,b1,c1,d1⟩:=Ij hm hn hF hf hL (n:Int) (n:Int) 0 0 o S I V [] [] [] m (l.getD f ((0:Int),((0:Int),(([]:LI),(0:Int))))).1.toNat R0 O O O a0 O;rw[show(((l.getD f ((0:Int),((0:Int),(([]:LI),(0:Int))))).1.toNat:Nat):Int)=(l.getD f ((0:Int),((0:Int),(([]:LI),(0:Int))))).1 by omega]at e1 d1;have h0:BF f+4=4*2^f:=by{unfold BF;omega};obtain⟨R2,e2,a2,b2,c2,d2,k2,j2⟩:=AI hm hn hF hf hL (n:Int) (n:Int) 0 (K.length:Int) o S I V [] [] [] (F:=K.length) O m 0 K O O a1 (zJ _) O (λi h1 h2=>absurd h2 O);rw[nZ]at e2;have d0: ∀c,c<f->(l.getD c ((0:Int),((0:Int),(([]:LI),(0:Int))))).2.2.2=(f:Int)->Sq (left.getD c (([]:LI),((0:Int),([]:List (List bK))))).1.length (left.getD c (([]:LI),((0:Int),([]:List (List bK))))).2.2/\(left.getD c (([]:LI),((0:Int),([]:List (List bK))))).1.length<=200/\ ∀i,i<(left.getD c (([]:LI),((0:Int),([]:List (List bK))))).1.length->sP R2 ((left.getD c (([]:LI),((0:Int),([]:List (List bK))))).1.getD i 0):=λc J u=>by{have fr:=hL.fr c J;have sm:=hL.sm c J;have g0:=lH (c:=c) O;have fl:=fr.len;refine⟨fr.sq,O,λi G=> ?_⟩;by_cases q:(i:Int)<(left.getD c (([]:LI),((0:Int),([]:List (List bK))))).2.1;{exact k2 _ (c1 _ (c0 c J u i q G))};{have hP:=fr.rest i O G;rcases hF.par c f J hf u _ hP with⟨q1,Q⟩|⟨⟨j,q1,Q⟩,q3⟩;{exact k2 _ (d1 _ q1 Q)};{have:=j2 j (oY _) q1 (by rw[Q];exact q3);rw[Q]at this;exact this}}};obtain⟨x2,e3,s3⟩:=Ii hm hn hM hV hol hor hf left a2 O 0 (K.length:Int) [] [] m 0 [] O O ⟨rfl,λi G=>absurd G (zA _),λi j=>M2⟩;rw[nZ]at e3;obtain⟨x3,e4,s4⟩:=AG hm hl4 hf left O hL.len d0 0 (K.length:Int) [] [] m 0 x2 O s3;rw[nZ]at e4;refine⟨R2,(K.length:Int),x3,?_,⟨O,O,O,a2,λi h1 h2=>d2 i O h2,s4⟩,O⟩;rw[TG,e0,bS];dsimp only;rw[iP O,tN,e1,bS];dsimp only;rw[e2,bS];dsimp only;rw[e3,bS];dsimp only;rw[e4];rfl
omit hn hM hV hol hor hF in
theorem H2 (a0 a1 K i0 f:Int) (o a2 a3 a4 h0 g0 e0 d0 c0 b0:LI) (l:List sE) (left:List Ln) {Q:Int->Prop}: ∀(N:Nat) (P:List Ll) (rows:LI) (full:Int) (s:List (List bK)),full.toNat+1<N->Fr n Q rows full s->full<=32->(∀p∈P,Pv n p)->P.length<=1000-full.toNat->
 (∃r,ix m N o l a0 a1 a2 a3 a4 h0 g0 e0 d0 c0 b0 K left P i0 false f rows full s=some (.inl r)/\r.2.2.2.2.2.2.2.1=true)\/
 (∃P' G u s',ix m N o l a0 a1 a2 a3 a4 h0 g0 e0 d0 c0 b0 K left P i0 false f rows full s=some (.inl (o,l,(a0,a1,a2,a3,a4,()),(h0,g0,e0,d0,c0,b0,K,()),left,P',i0,false,f,(G,u,s',()),()))/\
   Fr n Q G u s'/\u<=full/\(∀p∈P',Pv n p)/\(cR P':Int)+u<=cR P+full)
 |0,P,rows,full,s,h,_,_,_,_=>absurd h (zA _)
 |N+1,P,rows,full,s,h,J,t0,hP,s0=>by have f0:=J.full0;have f1:=J.fullr;have f2:=J.len;obtain⟨A,ok,e1,hA⟩:=qkj hm (rows:=rows) O (x1:=full) f1 J.sq;rw[ix,show(!false)=true from rfl,cond_true,e1,bS];dsimp only;rcases hA with rfl|⟨rfl,hA⟩;{cases ok with|false=>exact .inl ⟨_,rfl,rfl⟩|true=>exact .inr ⟨P,rows,full,s,rfl,J,O,hP,O⟩};{have m0:=hA.len;obtain⟨r,e2,hr⟩:=qtw hm (rows:=rows) O f1 J.sq hA full;rw[show(!true)=false from rfl,cond_false,aA,af O,e2,bS];dsimp only;rcases hr with hr|⟨y2,d,L,rfl,s2,d1,d2,d3⟩;{rw[hr,show(!false)=true from rfl,cond_true,iP (by rw[zL];omega)];obtain⟨N,rfl⟩: ∃k,N=k+1:=⟨N-1,O⟩;rw[ix];exact .inl ⟨_,rfl,rfl⟩};{obtain⟨q1,q2,q3⟩:=J.elim hA s2;have k0:Pv n (kx A rows,d,bA A rows rows.length,L):=by{have j0:(kx A rows).length=A.length:=by{unfold kx;rw[zh]};refine⟨by rw[j0];exact m0,dY.at J.rng f1 hA,by show d.length<=3;omega,d2,by show(bA A rows rows.length).length<=40;omega,q2,by rw[j0];exact d3⟩};have r0:=q1.full0;have hw:wI (full-(A.length:Int))=full-(A.length:Int):=by{rw[wQ,wi O O]};have q0: ∀p∈P++[(kx A rows,d,bA A rows rows.length,L)],Pv n p:=λp hp=>by{rcases zX.1 hp with hp|hp;{exact hP p hp};{rw[zC.1 hp];exact k0}};dsimp only;rw[show(!true)=false from rfl,cond_false,iP (by rw[zL];omega),hw];rcases H2 a0 a1 K i0 f o a2 a3 a4 h0 g0 e0 d0 c0 b0 l left N (P++[(kx A rows,d,bA A rows rows.length,L)]) (bA A rows rows.length) (full-(A.length:Int)) y2 O q1 O q0 (by rw[zG,zL];omega)with h1|⟨P',G,u,s',h1,h2,h3,h4,h5⟩;{exact .inl h1};{refine .inr ⟨P',G,u,s',h1,h2,O,h4,?_⟩;have j0:(kx A rows).length=A.length:=by{unfold kx;rw[zh]};have l0:cR (P++[(kx A rows,d,bA A rows rows.length,L)])=cR P+A.length:=by{rw[VL];simp only[cR,j0];omega};rw[l0]at h5;omega}}}
theorem H3 (J:Int) (d0 c0 b0 a0 Q K:LI): ∀(N f:Nat) (left:List Ln) (P:List Ll) (G:Int),l.length-f<N->f<=l.length->LF n l f left->(∀p∈P,Pv n p)->(cR P:Int)<=BF f->
 (∃e,oK m N o l (n:Int) (n:Int) S I V d0 c0 b0 a0 Q K J left P G false (f:Int)=some (.inl (([],[],[],[],[],[],0,()),e,())))\/
 (∃P' t,oK m N o l (n:Int) (n:Int) S I V d0 c0 b0 a0 Q K J left P G false (f:Int)=some (.inr (.inl (o,(d0,c0,b0,a0,Q,K,J,()),P',t,())))/\(∀p∈P',Pv n p)/\cR P'<=60)
 |0,f,left,P,G,h,_,_,_,_=>absurd h (zA _)
 |N+1,f,left,P,G,h,i0,hL,hP,hc=>by have hl4:=hF.len;rw[oK,bQ];by_cases hf:f<l.length;{have hp:=lH (c:=f) O;have m0:=qms (c:=f);have q0:(2:Int)^f<=8:=by{have:f=0\/f=1\/f=2\/f=3:=O;rcases this with rfl|rfl|rfl|rfl<;>decide};have l0:BF f<=28:=by{unfold BF;omega};have k0:=Fj hP;obtain⟨rows,full,s,e1,g1,g2⟩:=qqp hm hn hM hV hol hor hF hf hL;have f0:=g1.full0;have f2:=g1.len;rw[iP O,e1,bS,bQ];dsimp only;rw[af O];rcases H2 hm (n:Int) (n:Int) J G (f:Int) o S I V d0 c0 b0 a0 Q K l left m P rows full s O g1 O hP O with⟨r,e2,e3⟩|⟨P',e0,u,s',e2,q1,q2,q3,q4⟩;{rw[e2,bS];dsimp only;rw[e3];exact .inl ⟨_,rfl⟩};{have j0:=q1.full0;have g0:=hL.len;rw[e2,bS];dsimp only;rw[cond_false,iP (by rw[zL];omega),show wI ((f:Int)+1)=((f+1:Nat):Int)from ax O];refine H3 J d0 c0 b0 a0 Q K N (f+1) _ P' _ O O ?_ q3 O;have hg: ∀c,(left++[(e0,u,s')]).getD c (([]:LI),((0:Int),([]:List (List bK))))=if c<f then left.getD c (([]:LI),((0:Int),([]:List (List bK))))else if c=f then(e0,u,s')else(([]:LI),((0:Int),([]:List (List bK)))):=λc=>by{simp only[List.getD_eq_getElem?_getD];by_cases a:c<f;{rw[iP a,List.getElem?_append_left O]};{rw[af a,List.getElem?_append_right O];by_cases b:c=f;{rw[iP b,show c-left.length=0 by omega];rfl};{rw[af b,List.getElem?_eq_none (by rw[zL];omega)];rfl}}};refine⟨by rw[zG,g0];rfl,λc h0=> ?_,λc h0=> ?_⟩;{rw[hg];by_cases a:c<f;{rw[iP a];exact hL.fr c a};{have:c=f:=O;subst this;rw[af a,iP rfl];exact q1}};{rw[hg];by_cases a:c<f;{rw[iP a];exact hL.sm c a};{have:c=f:=O;subst this;rw[af a,iP rfl];show u<=_;omega}}}};{have e:f=l.length:=O;rw[af O];refine .inr ⟨P,G,rfl,hP,?_⟩;have hp:=lH (c:=f) O;unfold BF at hc;omega}
end
end Go.Vs.F
set_option maxRecDepth 100000
namespace Go.Vs.F
def tc (X:LI) (c:Nat) (p:Int):LI:=X.take c++[p]++(X.drop c).take (X.length-c)
def qis {X:LI} {c:Nat} (h:c<=X.length) {p:Int}:(tc X c p).length=X.length+1:=by unfold tc;simp only[zG,zT,iA,zL];omega
def qv3 {X:LI} {c:Nat} {p:Int} (O:UL X) (J:cr p):UL (tc X c p):=by have h: ∀x∈tc X c p,cr x:=λx hx=>by{have hm: ∀y∈X,cr y:=λy G=>by{obtain⟨j,u,rfl⟩:=nA G;have:=O j u;rwa [show X.getD j 0=X[j] by simp[List.getD,u]]at this};unfold tc at hx;rcases zX.1 hx with hx|hx;{rcases zX.1 hx with hx|hx;{exact hm x (nC hx)};{rw[zC.1 hx];exact J}};{exact hm x (vD (nC hx))}};exact λi K=>h _ (Xi K)
section
variable {m:Nat} (hm:5000000000<=m) {n:Nat} (hn:n<=4) {P:List Ll} (hP: ∀p∈P,Pv n p) (hPc:cR P<=60)
include hm hn hP hPc
theorem AM {b:Nat} (u:b<P.length):Pv n (P.getD b (([]:LI),(([]:LI),(([]:LI),([]:List LI))))):=hP _ (by simp[List.getD,u])
theorem H8 (c0 u b k i p:Int) (j0 i0 h0 g0 e0 d0 t7 b0 a0 Q K J G Y:LI) {X:LI} (hX:X.length<=1000): ∀(N c:Nat),X.length-c<N->c<=X.length->
 ∃c':Nat,qv m N P j0 i0 h0 g0 e0 d0 c0 t7 b0 a0 Q K J G u b k X Y i p (c:Int)=some (.inl (P,(j0,i0,h0,g0,e0,d0,c0,()),t7,(b0,a0,Q,K,J,G,u,()),b,k,X,Y,i,p,(c':Int),()))/\c'<=X.length
 |0,c,h,_=>absurd h (zA _)
 |N+1,c,h,k0=>by rw[qv,bQ];by_cases hc:c<X.length;{rw[iP O,iP O,bQ];split;{rw[show wI ((c:Int)+1)=((c+1:Nat):Int)from ax O];exact H8 c0 u b k i p j0 i0 h0 g0 e0 d0 t7 b0 a0 Q K J G Y hX N (c+1) O O};{exact⟨c,rfl,k0⟩}};{rw[af O];exact⟨c,rfl,k0⟩}
theorem H9 (d0 G:Int) (k0 j0 i0 h0 g0 e0 c0 b0 a0 Q K J:LI) {t7:LI} (h7:t7.length=n) {b:Nat} (hb:b<P.length) {k:Nat} (hk:k<(P.getD b (([]:LI),(([]:LI),(([]:LI),([]:List LI))))).1.length): ∀(N i:Nat) (X Y:LI),(P.getD b (([]:LI),(([]:LI),(([]:LI),([]:List LI))))).2.2.1.length-i<N->i<=(P.getD b (([]:LI),(([]:LI),(([]:LI),([]:List LI))))).2.2.1.length->X.length=i->Y.length=i->UL Y->
 ∃X' Y',qA m N P k0 j0 i0 h0 g0 e0 d0 t7 c0 b0 a0 Q K J G (b:Int) (k:Int) X Y (i:Int)=some (.inl (P,(k0,j0,i0,h0,g0,e0,d0,()),t7,(c0,b0,a0,Q,K,J,G,()),(b:Int),(k:Int),X',Y',()))/\X'.length=(P.getD b (([]:LI),(([]:LI),(([]:LI),([]:List LI))))).2.2.1.length/\Y'.length=(P.getD b (([]:LI),(([]:LI),(([]:LI),([]:List LI))))).2.2.1.length/\UL Y'
 |0,i,X,Y,h,_,_,_,_=>absurd h (zA _)
 |N+1,i,X,Y,h,s0,hX,hY,hU=>by have hp:=AM hm hn hP hPc hb;have t0:=Fj hP;have l0:(0:Int)<=(b:Int)/\(b:Int)<(P.length:Int):=O;have q0:=hp.rl;have r0:=hp.pl.len;rw[qA,iP l0,tN,bQ];by_cases hi:i<(P.getD b (([]:LI),(([]:LI),(([]:LI),([]:List LI))))).2.2.1.length;{have m0:(0:Int)<=(i:Int)/\(i:Int)<((P.getD b (([]:LI),(([]:LI),(([]:LI),([]:List LI))))).2.2.1.length:Int):=O;have hr:=hp.rr i hi;obtain⟨c1,c2⟩:=hp.pl.col k hk;rw[af O]at c1;obtain⟨c,e1,g1⟩:=H8 hm hn hP hPc d0 G (b:Int) (k:Int) (i:Int) (t7.getD ((P.getD b (([]:LI),(([]:LI),(([]:LI),([]:List LI))))).2.2.1.getD i 0).toNat 0) k0 j0 i0 h0 g0 e0 t7 c0 b0 a0 Q K J Y (X:=X) O m 0 O O;rw[nZ]at e1;have u:=c2 i O;rw[iP O,iP l0,iP m0,tN,iP O,zH,e1,bS];dsimp only;simp only[i6,Ms,vH,tN,zH];rw[iP O,iP (by simp only[LA,zT];omega),iP (by simp only[zT,zL];omega),iP O,iP (by simp only[zG,zT,iA,zL];omega),iP O,iP (by simp only[LA,zT];omega),iP l0,iP O,iP O,iP (by simp only[zT,zL];omega),iP O,iP (by simp only[zG,zT,iA,zL];omega),show wI ((i:Int)+1)=((i+1:Nat):Int)from ax O];have l1:=qis (X:=X) (c:=c) g1 (p:=t7.getD ((P.getD b (([]:LI),(([]:LI),(([]:LI),([]:List LI))))).2.2.1.getD i 0).toNat 0);have l2:=qis (X:=Y) (c:=c) O (p:=((P.getD b (([]:LI),(([]:LI),(([]:LI),([]:List LI))))).2.2.2.getD k []).getD i 0);have l3:=qv3 (X:=Y) (c:=c) hU u;exact H9 d0 G k0 j0 i0 h0 g0 e0 c0 b0 a0 Q K J h7 hb hk N (i+1) (tc X c (t7.getD ((P.getD b (([]:LI),(([]:LI),(([]:LI),([]:List LI))))).2.2.1.getD i 0).toNat 0)) (tc Y c (((P.getD b (([]:LI),(([]:LI),(([]:LI),([]:List LI))))).2.2.2.getD k []).getD i 0)) O O O O l3};{rw[af O];exact⟨X,Y,rfl,O,O,hU⟩}
theorem Ia (Q u:Int) (g0 e0 d0 c0 b0 a0 K J G:LI) {t7:LI} (h7:t7.length=n) {b:Nat} (hb:b<P.length) {C:Nat} (hC:C<=60): ∀(N k:Nat) (S I V:LI),(P.getD b (([]:LI),(([]:LI),(([]:LI),([]:List LI))))).1.length-k<N->k<=(P.getD b (([]:LI),(([]:LI),(([]:LI),([]:List LI))))).1.length->S.length=1+C+k->I.length<=40*(C+k)->V.length=I.length->UL V->
 ∃S' I' V',qB m N P g0 e0 d0 c0 b0 a0 Q t7 K J G S I V u (b:Int) (k:Int)=some (.inl (P,(g0,e0,d0,c0,b0,a0,Q,()),t7,(K,J,G,S',I',V',u,()),(b:Int),()))/\S'.length=1+C+(P.getD b (([]:LI),(([]:LI),(([]:LI),([]:List LI))))).1.length/\I'.length<=40*(C+(P.getD b (([]:LI),(([]:LI),(([]:LI),([]:List LI))))).1.length)/\V'.length=I'.length/\UL V'
 |0,k,S,I,V,h,_,_,_,_,_=>absurd h (zA _)
 |N+1,k,S,I,V,h,j0,hS,hI,hV,hU=>by have hp:=AM hm hn hP hPc hb;have k0:=Fj hP;have hw:=hp.w;have i0:=hp.rl;rw[qB,iP O,tN,bQ];by_cases hk:k<(P.getD b (([]:LI),(([]:LI),(([]:LI),([]:List LI))))).1.length;{obtain⟨X,Y,e1,x1,x2,x3⟩:=H9 hm hn hP hPc Q u g0 e0 d0 c0 b0 a0 K J G S I V h7 hb hk m 0 [] [] O O rfl rfl (λi hi=>absurd hi (zA _));rw[nZ]at e1;have h0:UL (V++Y):=λi hi=>by{rw[zG]at hi;by_cases c:i<V.length;{rw[jN c];exact hU i c};{rw[lQ O];exact x3 _ O}};rw[iP O,e1,bS];dsimp only;rw[iP O,iP O,iP (by rw[zL];omega),show wI ((k:Int)+1)=((k+1:Nat):Int)from ax O];exact Ia Q u g0 e0 d0 c0 b0 a0 K J G h7 hb hC N (k+1) _ _ _ O O (by rw[zG,zL];omega) (by rw[zG];omega) (by rw[zG,zG];omega) h0};{have e:k=(P.getD b (([]:LI),(([]:LI),(([]:LI),([]:List LI))))).1.length:=O;rw[af O];exact⟨S,I,V,rfl,O,by rw[<-e];exact hI,hV,hU⟩}
theorem qc0 {b:Nat} (u:b<P.length):cR (P.take (b+1))=cR (P.take b)+(P.getD b (([]:LI),(([]:LI),(([]:LI),([]:List LI))))).1.length/\cR (P.take (b+1))<=cR P:=by have e:P.take (b+1)=P.take b++[P.getD b (([]:LI),(([]:LI),(([]:LI),([]:List LI))))]:=by{rw[MD u];simp[List.getD,u]};have G:cR (P.take (b+1))=cR (P.take b)+(P.getD b (([]:LI),(([]:LI),(([]:LI),([]:List LI))))).1.length:=by{rw[e,VL];simp only[cR];omega};refine⟨G,?_⟩;have:cR P=cR (P.take (b+1))+cR (P.drop (b+1)):=by{rw[<-VL,vG]};omega
theorem Ib (Q u:Int) (g0 e0 d0 c0 b0 a0 K J G:LI) {t7:LI} (h7:t7.length=n): ∀(N b:Nat) (S I V:LI),P.length-b<N->b<=P.length->S.length=1+cR (P.take b)->I.length<=40*cR (P.take b)->V.length=I.length->UL V->
 ∃S' I' V',qC m N P g0 e0 d0 c0 b0 a0 Q t7 K J G S I V u (b:Int)=some (.inl ((g0,e0,d0,c0,b0,a0,Q,()),(K,J,G,S',I',V',u,()),()))/\S'.length<=61/\I'.length<=2400/\V'.length=I'.length/\UL V'
 |0,k,S,I,V,h,_,_,_,_,_=>absurd h (zA _)
 |N+1,b,S,I,V,h,i0,hS,hI,hV,hU=>by have h0:=Fj hP;rw[qC,bQ];by_cases hb:b<P.length;{obtain⟨k1,k2⟩:=qc0 hm hn hP hPc hb;obtain⟨S',I',V',e1,e2,e3,e4,e5⟩:=Ia hm hn hP hPc Q u g0 e0 d0 c0 b0 a0 K J G h7 hb (C:=cR (P.take b)) O m 0 S I V (by have:=(AM hm hn hP hPc hb).w;omega) O O O hV hU;rw[nZ]at e1;rw[iP O,e1,bS];dsimp only;rw[show wI ((b:Int)+1)=((b+1:Nat):Int)from ax O];exact Ib Q u g0 e0 d0 c0 b0 a0 K J G h7 N (b+1) S' I' V' O O O (by rw[k1];exact e3) e4 e5};{have e:b=P.length:=O;rw[e,EW]at hS hI;rw[af O];exact⟨S,I,V,rfl,O,O,hV,hU⟩}
variable {o:LI} (hol:o.length=n) (hor: ∀i,i<o.length->0<=o.getD i 0/\o.getD i 0<(o.length:Int))
include hol hor
theorem Ic (b0 u:Int) (i0 h0 g0 e0 d0 c0 a0 Q K J G:LI) {b:Nat} (hb:b<P.length) {C:Nat} (hC:C<=60): ∀(N k:Nat) (t7 F:LI),(P.getD b (([]:LI),(([]:LI),(([]:LI),([]:List LI))))).1.length-k<N->k<=(P.getD b (([]:LI),(([]:LI),(([]:LI),([]:List LI))))).1.length->t7.length=n->F.length=C+k->
 ∃k0 F',qD m N o P i0 h0 g0 e0 d0 c0 b0 t7 F a0 Q K J G u (b:Int) (k:Int)=some (.inl (o,P,(i0,h0,g0,e0,d0,c0,b0,()),k0,(F',a0,Q,K,J,G,u,()),(b:Int),()))/\k0.length=n/\F'.length=C+(P.getD b (([]:LI),(([]:LI),(([]:LI),([]:List LI))))).1.length
 |0,k,t7,F,h,_,_,_=>absurd h (zA _)
 |N+1,k,t7,F,h,m0,h7,r0=>by have hp:=AM hm hn hP hPc hb;have q0:=Fj hP;have hw:=hp.w;have j0:(0:Int)<=(b:Int)/\(b:Int)<(P.length:Int):=O;rw[qD,iP j0,tN,bQ];by_cases hk:k<(P.getD b (([]:LI),(([]:LI),(([]:LI),([]:List LI))))).1.length;{have l0:(0:Int)<=(k:Int)/\(k:Int)<((P.getD b (([]:LI),(([]:LI),(([]:LI),([]:List LI))))).1.length:Int):=O;have hr:=hp.rng k hk;rw[iP O,iP j0,iP l0,tN,iP O,iP j0,iP l0,iP O,iP (by rw[zL];omega),show wI ((k:Int)+1)=((k+1:Nat):Int)from ax O];exact Ic b0 u i0 h0 g0 e0 d0 c0 a0 Q K J G hb hC N (k+1) _ _ O O (by rw[zU];exact h7) (by rw[zG,zL];omega)};{have e:k=(P.getD b (([]:LI),(([]:LI),(([]:LI),([]:List LI))))).1.length:=O;rw[af O];exact⟨t7,F,rfl,h7,O⟩}
theorem Ie (a0 u:Int) (h0 g0 e0 d0 c0 b0 K J G:LI): ∀(N b:Nat) (t7 F Z D:LI),P.length-b<N->b<=P.length->t7.length=n->F.length=cR (P.take b)->Z.length=b->D.length<=3*b->UL D->
 ∃Q F' Z' D',qE m N o P h0 g0 e0 d0 c0 b0 a0 t7 F Z D K J G u (b:Int)=some (.inl (P,(h0,g0,e0,d0,c0,b0,a0,()),Q,(F',Z',D',K,J,G,u,()),()))/\Q.length=n/\F'.length<=60/\Z'.length<=60/\D'.length<=180/\UL D'
 |0,b,t7,F,Z,D,h,_,_,_,_,_,_=>absurd h (zA _)
 |N+1,b,t7,F,Z,D,h,r0,h7,l0,hZ,hD,hU=>by have q0:=Fj hP;rw[qE,bQ];by_cases hb:b<P.length;{obtain⟨k1,k2⟩:=qc0 hm hn hP hPc hb;have hp:=AM hm hn hP hPc hb;have hw:=hp.w;have m0:=hp.dl;have j0:=hp.du;obtain⟨Q,F',e1,e2,e3⟩:=Ic hm hn hP hPc hol hor a0 u h0 g0 e0 d0 c0 b0 Z D K J G hb (C:=cR (P.take b)) O m 0 t7 F O O h7 O;rw[nZ]at e1;have i0:(0:Int)<=(b:Int)/\(b:Int)<(P.length:Int):=O;have k0:UL (D++(P.getD b (([]:LI),(([]:LI),(([]:LI),([]:List LI))))).2.1):=λi hi=>by{rw[zG]at hi;by_cases c:i<D.length;{rw[jN c];exact hU i c};{rw[lQ O];exact j0 _ O}};rw[iP O,e1,bS];dsimp only;rw[iP i0,iP (by rw[zL];omega),iP i0,tN,iP O,show wI ((b:Int)+1)=((b+1:Nat):Int)from ax O];exact Ie a0 u h0 g0 e0 d0 c0 b0 K J G N (b+1) Q F' _ _ O O e2 O (by rw[zG,zL];omega) (by rw[zG];omega) k0};{have e:b=P.length:=O;rw[e,EW]at l0;rw[af O];exact⟨t7,F,Z,D,rfl,h7,O,O,O,hU⟩}
structure SF (x:LI×LI×LI×LI×LI×LI×Int×Unit):Prop where
 f0:x.1.length<=60
 z:x.2.1.length<=60
 d:x.2.2.1.length<=180
 du:UL x.2.2.1
 s:x.2.2.2.1.length<=61
 i:x.2.2.2.2.1.length<=2400
 wl:x.2.2.2.2.2.1.length<=2400
 wu:UL x.2.2.2.2.2.1
theorem qk0 (t:Int): ∃x,TE m o P t=some (x,(),(),(),())/\SF x:=by obtain⟨t7,F,Z,D,J,a1,a2,a3,a4,a5⟩:=Ie hm hn hP hPc hol hor 0 t [] [] [] [] [] [] [0] [] [] m 0 (List.replicate n 0) [] [] [] (by have:=Fj hP;omega) O zI rfl rfl (by simp) (λi u=>absurd u (zA _));obtain⟨S,I,V,G,b1,Q,b3,K⟩:=Ib hm hn hP hPc 0 t [] [] [] [] [] [] F Z D a1 m 0 [0] [] [] (by have:=Fj hP;omega) O rfl (by simp) rfl (λi u=>absurd u (zA _));rw[nZ]at J G;refine⟨(F,Z,D,S,I,V,t,()),?_,⟨a2,a3,a4,a5,b1,Q,by show V.length<=2400;omega,K⟩⟩;rw[TE,iP O,hol,tN,J,bS];dsimp only;rw[G];rfl
end
end Go.Vs.F
set_option maxRecDepth 100000
namespace Go.Vs.F
def ZE:SF ([],[],[],[],[],[],0,()):=⟨oY _,oY _,oY _,λi u=>absurd u (zA _),oY _,oY _,oY _,λi u=>absurd u (zA _)⟩
section
variable {m:Nat} (hm:5000000000<=m) {n:Nat} (hn:n<=4) {S I V:LI} (hVl:V.length<=100000) (hV:UL V) {o:LI} (hol:o.length=n) (hor: ∀i,i<o.length->0<=o.getD i 0/\o.getD i 0<(o.length:Int))
include hm hn hVl hV hol hor
theorem qoq {l:List sE} (hl:FE n l=true) {e:Int} (he:JR m (n:Int) (n:Int) S I V o l=some (e,(),(),(),())) (Q:e=0->chk (n:Int) (n:Int) S I V=0):
 ∃x J,Mm m (n:Int) (n:Int) S I V o l=some ((x,J,()),(),(),(),())/\SF x:=by
 rw[Mm,he,bS,aN];dsimp only;by_cases c:e=0
 case neg=>rw[af c];exact⟨_,_,rfl,ZE⟩
 have G:=Q c;obtain⟨r,k,e1,e2,hM,gp,_⟩:=Sc G
 have u:MV n n S I V:=by
  refine⟨?_,gp,G⟩;rw[show r=n by omega,show k=n by omega]at hM;exact hM
 have hF:=quw hl;rw[iP c];rcases H3 hm hn u hV hol hor hF 0 [] [] [] [] [] [] m 0 [] [] 0 (by have:=hF.len;omega) O ⟨rfl,λc h=>absurd h (zA _),λc h=>absurd h (zA _)⟩ (λp K=>by cases K) (by decide)with⟨J,h⟩|⟨P,t,h,hP,hPc⟩
 . rw[nZ]at h;rw[h];exact⟨_,_,rfl,ZE⟩
 . rw[nZ]at h;obtain⟨x,h2,hx⟩:=qk0 hm hn hP hPc hol hor t;rw[h,bS];dsimp only;rw[h2];exact⟨x,0,rfl,hx⟩
end
def qph {o:List Nat} {n:Nat} (h:o.Perm (List.range n)):(nL o).length=n/\ ∀i,i<(nL o).length->0<=(nL o).getD i 0/\(nL o).getD i 0<((nL o).length:Int):=by have hl:o.length=n:=by{rw[h.length_eq,xa]};have hL:(nL o).length=n:=by{rw[Z1,hl]};refine⟨hL,λi u=> ?_⟩;rw[hL]at u⊢;have hm:o.getD i 0∈o:=by{simp[List.getD,hl,u]};have:=uE.1 (h.mem_iff.1 hm);rw[show(nL o).getD i 0=((o.getD i 0:Nat):Int) by unfold nL;simp[List.getD,hl,u]];omega
section
variable {m:Nat} (hm:5000000000<=m) {raw:LI} (hl:raw.length<=9223372036854775807)
include hm hl
theorem qto (n style:Int) (d:Bool): ∃x v,cG m raw n style d=some ((x,v,()),(),(),(),(),())/\SF x/\v.length=x.1.length/\b9 v:=by obtain⟨r,hr,er⟩:=LN m n (k:=5) O O;obtain⟨S,I,V,hG,eG⟩:=q9r hm hl (R:=r) (C:=r) O style O;obtain⟨o,ho,eo⟩:=qpc hm hl (n:=r) O;obtain⟨h1,h2⟩:=qph ho;rw[cG,show(5:Int)=((5:Nat):Int)from rfl,er,bS];dsimp only;rw[eG,bS];dsimp only;have fin: ∀{S I V:LI},V.length<=100000->UL V-> ∃x v y5 u,KC m (r:Int) (r:Int) S I V (nL o) raw=some y5/\Mm m (r:Int) (r:Int) S I V (nL o) y5.1=some u/\u.1.1=x/\Mo m raw 30 (u.1.1.1.length:Int) style=some (v,(),(),(),(),())/\SF x/\v.length=x.1.length/\b9 v:=λ{S I V} hVl hV=>by{obtain⟨l,e,Q,K,J,G⟩:=qn5 hm hl (n:=r) O (S:=S) (I:=I) hVl h1 h2;obtain⟨x,e',b1,b2⟩:=qoq hm (n:=r) O hVl hV h1 h2 K J G;obtain⟨v,c1,c2,c3⟩:=qkk hm hl (at0:=30) (n:=x.1.length) O (by have:=b2.f0;omega) style;exact⟨x,v,_,_,Q,b1,rfl,c1,b2,c2,c3⟩};cases d with|true=>{obtain⟨S1,I1,V1,eD,gw⟩:=qfs hm hl (n:=r) O style;have hs:r*r<=4*4:=py O O;obtain⟨x,v,y5,u,Q,K,J,G,a5,a6,a7⟩:=fin (S:=S1) (I:=I1) (V:=V1) (by have:=gw.il;have:=gw.vl;omega) gw.u;rw[cond_true,eD,bS];dsimp only;rw[eo,bS];dsimp only;rw[Q,bS,K,bS,G,bS];subst J;exact⟨_,v,rfl,a5,a6,a7⟩}|false=>{have hs:r*r<=4*4:=py O O;obtain⟨x,v,y5,u,Q,K,J,G,a5,a6,a7⟩:=fin (S:=S) (I:=I) (V:=V) (by have:=hG.sz;have:=hG.vl;omega) hG.fn.U;rw[cond_false,eo,bS];dsimp only;rw[Q,bS,K,bS,G,bS];subst J;exact⟨_,v,rfl,a5,a6,a7⟩}
end
end Go.Vs.F
set_option maxRecDepth 100000
namespace Go.Vs.F
section
variable {m:Nat} (hM:dn<=m)
include hM
theorem qtv {x:LI×LI×LI×LI×LI×LI×Int×Unit} (hx:SF x) {st:LI} (G:UL st) (u:st.length<=1000) (s:Int):
 ∃r:EO,En m x.1 x.2.1 x.2.2.1 x.2.2.2.1 x.2.2.2.2.1 x.2.2.2.2.2.1 x.2.2.2.2.2.2.1 st s=some (r,(),(),(),())/\Hz m x.1 x.2.1 x.2.2.1 x.2.2.2.1 x.2.2.2.2.1 x.2.2.2.2.2.1 x.2.2.2.2.2.2.1 st s=some (r,(),(),(),())/\AN x.1.length s r:=by have hm:=Xb hM;have h0:=hx.f0;have hz:=hx.z;have hd:=hx.d;have hs:=hx.s;have hi:=hx.i;have hw:=hx.wl;obtain⟨K,J⟩:=q97 hm (f0:=x.1) (Z:=x.2.1) (D:=x.2.2.1) (S:=x.2.2.2.1) (I:=x.2.2.2.2.1) (W:=x.2.2.2.2.2.1) (f6:=x.2.2.2.2.2.2.1) O O O O O O hx.du hx.wu;exact qq6 hM O K J (λQ=>qk9 hm O O O O O hx.du hx.wu O Q) G u s
theorem qud {N:Nat} (J:N<=1000) {s:Int} {r:EO} (h:AN N s r):bu m r.1.1 r.1.2.1 r.1.2.2.1 r.1.1 r.1.2.1 r.1.2.2.1=some (true,(),(),()):=by have hm:=Xb hM;rcases h with⟨h,_⟩|⟨h1,h2,h3,⟨h4,h5⟩,G,Q,K⟩;{rw[h];exact qe6 O (by simp) (by simp) (by simp) (λr u=>by cases u)};{exact qe6 O O O O λx hx=>by have:=(G x hx).2;omega}
theorem UO {x:LI×LI×LI×LI×LI×LI×Int×Unit} (hx:SF x) {st:LI} (a0:UL st) (J:st.length<=1000) (s:Int):
 ((En m x.1 x.2.1 x.2.2.1 x.2.2.2.1 x.2.2.2.2.1 x.2.2.2.2.2.1 x.2.2.2.2.2.2.1 st s).bind λG=>
   (Hz m x.1 x.2.1 x.2.2.1 x.2.2.2.1 x.2.2.2.2.1 x.2.2.2.2.2.1 x.2.2.2.2.2.2.1 st s).bind λu=>
   bif G.1.2.1==u.1.2.1 then
    (bu m G.1.1.1 G.1.1.2.1 G.1.1.2.2.1 u.1.1.1 u.1.1.2.1 u.1.1.2.2.1).bind λQ=>
    bif Q.1 then
     (bD m).bind λK=>
     some (K.1,((),(),(),(),(),()))
    else
     some (false,((),(),(),(),(),()))
   else
    some (false,((),(),(),(),(),())))=some (true,(),(),(),(),(),()):=by have hm:=Xb hM;obtain⟨r,e1,e2,hF⟩:=qtv hM hx a0 J s;have h0:=hx.f0;rw[e1,bS,e2,bS];dsimp only;rw[beq_self_eq_true,cond_true,qud hM O hF,bS];dsimp only;rw[cond_true,qth O];rfl
end
def q6a (raw:LI) (n style:Int) (d:Bool) (steps:Int) (hl:raw.length<=9223372036854775807): ∃m,bN m raw n style d steps=some (true,(),(),(),(),(),()):=by obtain⟨m,hM⟩: ∃m:Nat,dn<=m:=⟨dn,zJ _⟩;have hm:=Xb hM;obtain⟨x,v,e,hx,gp,u⟩:=qto hm hl n style d;have K:=hx.f0;obtain⟨k,J,G⟩:=LN m steps (k:=3) O O;refine⟨m,?_⟩;rw[bN,e,bS,bQ,bQ,show(3:Int)=((3:Nat):Int)from rfl,G];split;{split;{exact UO hM hx u.U O _};{exact UO hM hx u.U O _}};{exact UO hM hx u.U O _}
def MK {t:Ty} {xs:List (aX t)} (h:TV (.imm t) xs):xs.length<=9223372036854775807:=zf h.2 (by decide)
end Go.Vs.F
