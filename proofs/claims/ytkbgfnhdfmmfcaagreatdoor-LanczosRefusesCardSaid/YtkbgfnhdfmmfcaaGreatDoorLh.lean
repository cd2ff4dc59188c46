import Derived.Test.YtkbgfnhdfmmfcaaGreatDoorLg
import Derived.Test.YtkbgfnhdfmmfcaaGreatDoorVc
set_option linter.unusedVariables false
set_option linter.unusedSimpArgs false
set_option linter.unusedSectionVars false
set_option maxRecDepth 100000
set_option linter.defProp false
namespace Go.Vs.F
def Cn.both {a b:D5} (G:Cn a) (u:Cn b): ∃x y B,a=aE x B/\b=aE y B:=by obtain⟨z,e,rfl⟩:=G.mk;obtain⟨w,f,rfl⟩:=u.mk;exact⟨sc z e (min e f),sc w f (min e f),min e f,(A1 O).symm,(A1 O).symm⟩
section
variable {m:Nat} (hm:5000000000<=m)
include hm
theorem EP {a b:D5} (G:Cn a) (u:Cn b): ∃c,Ba m a.1 a.2.1 a.2.2.1 a.2.2.2.1 b.1 b.2.1 b.2.2.1 b.2.2.2.1=some (c,(),(),())/\Cn c:=by obtain⟨x,y,B,rfl,rfl⟩:=G.both u;rw[VD O];refine⟨_,rfl,?_⟩;split;{exact dz ..};{exact .bad}
theorem Br {a b:D5} (G:Cn a) (u:Cn b): ∃c,Bb m a.1 a.2.1 a.2.2.1 a.2.2.2.1 b.1 b.2.1 b.2.2.1 b.2.2.2.1=some (c,(),(),())/\Cn c:=by obtain⟨x,y,B,rfl,rfl⟩:=G.both u;rw[S8 O];refine⟨_,rfl,?_⟩;split;{exact dz ..};{exact .bad}
theorem fW {a b:D5} (G:Cn a) (u:Cn b): ∃c,nM m a.1 a.2.1 a.2.2.1 a.2.2.2.1 b.1 b.2.1 b.2.2.1 b.2.2.2.1=some (c,(),(),())/\Cn c:=by obtain⟨x,y,B,rfl,rfl⟩:=G.both u;rw[qil O];refine⟨_,rfl,?_⟩;split;{exact dz ..};{exact .bad}
theorem FP {a b:D5} (G:Cn a) (u:Cn b): ∃c,OA m a.1 a.2.1 a.2.2.1 a.2.2.2.1 b.1 b.2.1 b.2.2.1 b.2.2.2.1=some (c,(),(),()):=by obtain⟨x,y,B,rfl,rfl⟩:=G.both u;rw[OA,qql O];exact⟨_,rfl⟩
theorem MZ {a:D5} (G:Cn a): ∃s,tR m a.1 a.2.1 a.2.2.1 a.2.2.2.1=some (s,(),())/\(a=aE 0 0->s=0):=by obtain⟨z,e,rfl⟩:=G.mk;by_cases h:bX z e;{have u:=UK (m:=m) hm h;refine⟨_,u,λq=> ?_⟩;have h2:=UK (m:=m) hm (qj9 0);rw[q,h2]at u;injection u with u;have:=congrArg Prod.fst u;exact this.symm.trans rfl};{refine⟨0,?_,λ_=>rfl⟩;rw[tR,X8 O,vL h];rfl}
theorem SA {a:D5} (u:Cn a): ∃f,v5 m a.1 a.2.1 a.2.2.1 a.2.2.2.1=some (f,(),())/\cd f:=by obtain⟨z,e,rfl⟩:=u.mk;exact⟨_,L7 hm,Yx⟩
theorem IT {a b:D5} (G:Cn a) (u:Cn b): ∃f,nk m a.1 a.2.1 a.2.2.1 a.2.2.2.1 b.1 b.2.1 b.2.2.1 b.2.2.2.1=some (f,(),(),())/\cd f:=⟨_,M7 hm G u,Nk⟩
end
def pz (d:bJ):D5:=(d.1,d.2.1.1,d.2.1.2,d.2.2,())
def Cy (d:bJ):Prop:=Cn (pz d)
def Sx {a:D5} (h:Cn a):Cy (a.1,((a.2.1,a.2.2.1),a.2.2.2.1)):=h
abbrev fP:bJ:=qz
def qvg:pz fP=aE 0 0:=rfl
def Nd:Cy fP:=by unfold Cy;rw[qvg];exact dz 0 0
structure Sq (k:Nat) (s:List (List bJ)):Prop where
 len:s.length=k
 row: ∀i,i<k->(s.getD i []).length=k
 cy: ∀i j,Cy ((s.getD i []).getD j fP)
def M6 {l:List bJ} (h: ∀d∈l,Cy d) (j:Nat):Cy (l.getD j fP):=by by_cases c:j<l.length;{exact h _ (by simp[List.getD,c])};{rw[show l.getD j fP=fP by simp[List.getD,c]];exact Nd}
def qd7 {l:List bJ} {i j:Nat} {d:bJ}:(l.set i d).getD j fP=if j=i/\i<l.length then d else l.getD j fP:=by simp only[List.getD_eq_getElem?_getD,List.getElem?_set];by_cases c:i=j;{subst c;by_cases e:i<l.length;{simp[e]};{simp[e]}};{simp[c,Ne.symm c]}
def Tx {l:List (List bJ)} {i j:Nat} {d:List bJ}:(l.set i d).getD j []=if j=i/\i<l.length then d else l.getD j []:=by simp only[List.getD_eq_getElem?_getD,List.getElem?_set];by_cases c:i=j;{subst c;by_cases e:i<l.length;{simp[e]};{simp[e]}};{simp[c,Ne.symm c]}
def Sq.set {k:Nat} {s:List (List bJ)} (h:Sq k s) {i j:Nat} (G:i<k) {d:bJ} (J:Cy d):Sq k (s.set i ((s.getD i []).set j d)):=by refine⟨by rw[zT];exact h.len,λr u=> ?_,λr c=> ?_⟩;{rw[Tx];split;{rw[zT];exact h.row i G};{exact h.row r u}};{rw[Tx];split;{rw[qd7];split;{exact J};{exact h.cy i c}};{exact h.cy r c}}
section
variable {m:Nat} (hm:5000000000<=m) {rows:LI} (hl:rows.length<=1000) (p:Int)
include hm hl
theorem qiw: ∀(N k:Nat),rows.length-k<N->(∀i,i<k->rows.getD i 0≠p)->
 (∃r:Nat,j9 m N rows p (k:Int)=some (.inl ((r:Int),()))/\r<rows.length/\rows.getD r 0=p)\/(j9 m N rows p (k:Int)=some (.inr (.inl ()))/\ ∀i,i<rows.length->rows.getD i 0≠p)
 |0,k,h,_=>absurd h (zA _)
 |N+1,k,h,u=>by rw[j9,bQ];by_cases G:k<rows.length;{rw[iP O,iP O,aA,tN];by_cases c:rows.getD k 0=p;{rw[iP c];exact .inl ⟨k,rfl,G,c⟩};{rw[af c,show wI ((k:Int)+1)=((k+1:Nat):Int)from ax O];refine qiw N (k+1) O λi J=> ?_;by_cases e:i=k;{rw[e];exact c};{exact u i O}}};{rw[af O];exact .inr ⟨rfl,λi J=>u i O⟩}
theorem VR:(∃r:Nat,kc m rows p=some ((r:Int),(),(),())/\r<rows.length/\rows.getD r 0=p)\/(kc m rows p=some (-1,(),(),())/\ ∀i,i<rows.length->rows.getD i 0≠p):=by have h:=qiw hm hl p m 0 O (λi G=>absurd G (zA _));rw[nZ]at h;rcases h with⟨r,u,h2,J⟩|⟨u,h2⟩;{exact .inl ⟨r,by rw[kc,u];rfl,h2,J⟩};{exact .inr ⟨by rw[kc,u];rfl,h2⟩}
end
end Go.Vs.F
set_option maxRecDepth 100000
namespace Go.Vs.F
section
variable {m:Nat} (hm:5000000000<=m)
include hm
theorem XZ {f:Int} (h:aU f): ∃c,Mu m (fo f).1 (fo f).2.1 (fo f).2.2.1 (fo f).2.2.2.1=some (c,(),())/\Cn c:=by rw[Xn h,qh5 O (cf h)];exact⟨_,rfl,dz ..⟩
theorem qri {rows:LI} (hl:rows.length<=1000) (x1:Int) {s:List (List bJ)} (hs:Sq rows.length s) {p:Nat} (hp:p<rows.length): ∀(N k:Nat) (v:List bJ),rows.length-k<N->k<=rows.length->v.length=k->(∀d∈v,Cy d)->
 (∃w,j8 m N (p:Int) rows x1 s v (k:Int)=some (.inl (w,false,())))\/(∃w,j8 m N (p:Int) rows x1 s v (k:Int)=some (.inr (.inl (w,())))/\w.length=rows.length/\ ∀d∈w,Cy d)
 |0,k,v,h,_,_,_=>absurd h (zA _)
 |N+1,k,v,h,a0,hv,J=>by rw[j8,bQ];by_cases hk:k<rows.length;{have h1:=hs.len;have h2:=hs.row k hk;obtain⟨f,K,G⟩:=SA hm (hs.cy k p);rw[iP O,iP O,tN,tN,iP O];unfold pz at K;rw[K,bS];dsimp only;rw[Xx G,bS];dsimp only;by_cases c:aU f;{obtain⟨a,e2,Q⟩:=XZ hm c;rw[decide_eq_true c,show(!true)=false from rfl,cond_false,vN O G,bS];dsimp only;rw[e2,bS,iP (by rw[zL];omega),show wI ((k:Int)+1)=((k+1:Nat):Int)from ax O];refine qri hl x1 hs hp N (k+1) _ O O (by rw[zG,hv];rfl) λd u=> ?_;rcases zX.1 u with u|u;{exact J d u};{rw[zC.1 u];exact Sx Q}};{rw[decide_eq_false c];exact .inl ⟨_,rfl⟩}};{rw[af O];exact .inr ⟨v,rfl,O,J⟩}
theorem qrq {rows:LI} (hl:rows.length<=1000) (x1:Int) {s:List (List bJ)} (hs:Sq rows.length s) {p:Nat} (u:p<rows.length):
 ∃v b,wA m rows x1 s (p:Int)=some ((v,b,()),(),(),())/\(b=true->v.length=rows.length/\ ∀d∈v,Cy d):=by have h:=qri hm hl x1 hs u m 0 [] O O rfl (λd G=>by cases G);rw[nZ]at h;rcases h with⟨w,h⟩|⟨w,h,J,h2⟩;{exact⟨w,false,by rw[wA,h];rfl,λq=>by cases q⟩};{exact⟨w,true,by rw[wA,h];rfl,λ_=>⟨J,h2⟩⟩}
theorem Sl {v:List bJ} (hv: ∀d∈v,Cy d) (hl:v.length<=1000) (p:Int) (Q K:Bool) (J:LI) (G:Int): ∀(N k:Nat) (b:D5) (u:Int),v.length-k<N->Cn b->((u= -1/\b=aE 0 0)\/(0<=u/\u<(v.length:Int)/\u≠p))->
 ∃c r,eT m N v p Q K J G b.1 b.2.1 b.2.2.1 b.2.2.2.1 u (k:Int)=some (.inl ((Q,K,J,G,()),c,r,()))/\Cn c/\((r= -1/\c=aE 0 0)\/(0<=r/\r<(v.length:Int)/\r≠p))
 |0,k,b,u,h,_,_=>absurd h (zA _)
 |N+1,k,b,u,h,hb,ha=>by rw[eT,bQ];by_cases hk:k<v.length;{have hd:Cy (v.getD k fP):=M6 hv k;have wk:wI ((k:Int)+1)=((k+1:Nat):Int):=ax O;have a0:(0:Int)<=(k:Int)/\(k:Int)<(v.length:Int):=O;rw[iP O,aN,wk];by_cases c:(k:Int)=p;{rw[iP c];exact Sl hv hl p Q K J G N (k+1) b u O hb ha};{rw[af c,bQ];have new: ∃c r,eT m N v p Q K J G (pz (v.getD k fP)).1 (pz (v.getD k fP)).2.1 (pz (v.getD k fP)).2.2.1 (pz (v.getD k fP)).2.2.2.1 (k:Int) ((k+1:Nat):Int)=some (.inl ((Q,K,J,G,()),c,r,()))/\Cn c/\((r= -1/\c=aE 0 0)\/(0<=r/\r<(v.length:Int)/\r≠p)):= Sl hv hl p Q K J G N (k+1) _ (k:Int) O hd (.inr ⟨O,O,c⟩);unfold pz at new;by_cases a:u<0;{rw[iP a,iP a0,tN];exact new};{rw[af a,iP a0,tN];obtain⟨q,e⟩:=FP hm hb hd;unfold pz at e;rw[e,bS];cases q with|true=>{rw[cond_true,iP a0];exact new}|false=>exact Sl hv hl p Q K J G N (k+1) b u O hb ha}}};{rw[af O];exact⟨b,u,rfl,hb,ha⟩}
theorem ZV {v:List bJ} (u: ∀d∈v,Cy d) (hl:v.length<=1000) (p:Int): ∃c r,yZ m v p=some ((c,r,()),(),(),())/\Cn c/\((r= -1/\c=aE 0 0)\/(0<=r/\r<(v.length:Int)/\r≠p)):=by obtain⟨c,r,e,G,h2⟩:=Sl hm u hl p false false [] 0 m 0 (aE 0 0) (-1) O (dz 0 0) (.inl ⟨rfl,rfl⟩);rw[nZ]at e;refine⟨c,r,?_,G,h2⟩;change eT m m v p false false [] 0 false false [] 0 (-1) 0=_ at e;rw[yZ,e];rfl
theorem VM {a b:D5} (G:Cn a) (u:Cn b): ∃c,wz m a.1 a.2.1 a.2.2.1 a.2.2.2.1 b.1 b.2.1 b.2.2.1 b.2.2.2.1=some (c,(),(),()):=by obtain⟨x,e1,J⟩:=fW hm (dz 64 0) G;obtain⟨y,Q,h2⟩:=fW hm (dz 41 0) u;obtain⟨q,K⟩:=FP hm J h2;rw[wz,Wp O (by unfold Rs;omega),bS];dsimp only;rw[e1,bS,Wp O (by unfold Rs;omega),bS];dsimp only;rw[Q,bS];dsimp only;rw[K];exact⟨_,rfl⟩
end
inductive gH (full:Int):LI->Prop
 |one {p:Nat} (h:(p:Int)<full):gH full [(p:Int)]
 |two {p r:Nat} (h1:(p:Int)<full) (h2:(r:Int)<full) (h3:p≠r):gH full [(p:Int),(r:Int)]
section
variable {m:Nat} (hm:5000000000<=m) {rows:LI} (hl:rows.length<=1000) {x1:Int} (hx:x1<=(rows.length:Int)) {s:List (List bJ)} (hs:Sq rows.length s)
include hm hl hx hs
theorem qe7: ∀(N k:Nat),x1.toNat-k<N->
 ∃r,qF m N rows x1 s (k:Int)=some r/\match r with
  | .inl (Q,ok,_)=>(ok=false/\Q=[])\/(ok=true/\gH x1 Q)
  | .inr _=>True
 |0,k,h=>absurd h (zA _)
 |N+1,k,h=>by rw[qF,bQ];by_cases G:(k:Int)<x1;{obtain⟨v,b,e1,g1⟩:=qrq hm hl x1 hs (p:=k) O;rw[iP G,e1,bS];cases b with|false=>exact⟨_,rfl,.inl ⟨rfl,rfl⟩⟩|true=>{obtain⟨v1,v2⟩:=g1 rfl;obtain⟨lam,r,e2,l1,l2⟩:=ZV hm v2 O (k:Int);obtain⟨sg,e3,s2⟩:=MZ hm l1;dsimp only;rw[show(!true)=false from rfl,cond_false,e2,bS];dsimp only;rw[e3,bS,aA];dsimp only;by_cases c:sg=0;{rw[iP c];exact⟨_,rfl,.inr ⟨rfl,.one G⟩⟩};have hr:0<=r/\r<(v.length:Int)/\r≠(k:Int):=by{rcases l2 with⟨_,q⟩|q;{exact absurd (s2 q) c};{exact q}};obtain⟨rn,rfl⟩: ∃rn:Nat,r=(rn:Int):=⟨r.toNat,O⟩;have J:Cy (v.getD k fP):=M6 v2 k;obtain⟨t1,e4⟩:=VM hm J l1;unfold pz at e4;have K:(0:Int)<=(k:Int)/\(k:Int)<(v.length:Int):=O;rw[af c,iP K,tN];dsimp only at e4;rw[e4,bS];cases t1 with|true=>exact⟨_,rfl,.inr ⟨rfl,.one G⟩⟩|false=>{dsimp only;rw[cond_false,bQ];by_cases d:(rn:Int)>=x1;{rw[iP d,show wI ((k:Int)+1)=((k+1:Nat):Int)from ax O];exact qe7 N (k+1) O};obtain⟨w,b,e5,g5⟩:=qrq hm hl x1 hs (p:=rn) O;rw[af d,e5,bS];cases b with|false=>exact⟨_,rfl,.inl ⟨rfl,rfl⟩⟩|true=>{obtain⟨w1,w2⟩:=g5 rfl;obtain⟨sig,r2,e6,l3,l4⟩:=ZV hm w2 O (rn:Int);obtain⟨x,e7,h7⟩:=fW hm J l3;obtain⟨y,e8,h8⟩:=fW hm l1 l1;obtain⟨t2,e9⟩:=VM hm h7 h8;unfold pz at e7;dsimp only at e7⊢;rw[show(!true)=false from rfl,cond_false,e6,bS,iP K];dsimp only;rw[e7,bS,e8,bS];dsimp only;rw[e9,bS];cases t2 with|true=>exact⟨_,rfl,.inr ⟨rfl,.one G⟩⟩|false=>{have a0:Cy (w.getD rn fP):=M6 w2 rn;obtain⟨t3,u⟩:=VM hm a0 l3;unfold pz at u;dsimp only at u⊢;rw[cond_false,iP O,tN,u,bS];cases t3 with|true=>exact⟨_,rfl,.inr ⟨rfl,.one O⟩⟩|false=>exact⟨_,rfl,.inr ⟨rfl,.two G O O⟩⟩}}}}};{rw[af G];exact⟨_,rfl,trivial⟩}
theorem qm3: ∃u ok,TU m rows x1 s=some ((u,ok,()),(),())/\(u=[]\/(ok=true/\gH x1 u)):=by
 obtain⟨r,e,h⟩:=qe7 hm hl hx hs m 0 O;rw[nZ]at e;rw[TU,e,bS]
 match r,h with
 | .inl (u,ok,_),h=>
   refine⟨u,ok,rfl,?_⟩;rcases h with⟨_,h⟩|⟨G,h2⟩
   . exact .inl h
   . exact .inr ⟨G,h2⟩
 | .inr (.inl _),_=>exact⟨[],true,rfl,.inl rfl⟩
 | .inr (.inr e),_=>exact e.elim
end
end Go.Vs.F
set_option maxRecDepth 100000
namespace Go.Vs.F
def sN (A:LI) (i:Nat):Bool:=A.any λa=>decide (a=(i:Int))
def keep (A:LI) (t:Nat):List Nat:=(List.range t).filter λi=> !sN A i
def Md {A:LI} {t:Nat}:keep A (t+1)=keep A t++if sN A t=true then []else [t]:=by unfold keep;rw[AW,List.filter_append];congr 1;cases h:sN A t with|true=>{rw[List.filter_cons_of_neg (by simp[h])];rfl}|false=>{rw[List.filter_cons_of_pos (by simp[h])];rfl}
def S7 {A:LI} {t:Nat}:(keep A t).length<=t:=by unfold keep;exact zf (MC ..) (by rw[wY];exact zJ _)
def qht {A:LI} {t i:Nat} (h:i∈keep A t):i<t:=ux.1 (IC.1 h).1
def qon {p i:Nat}:sN [(p:Int)] i=decide (i=p):=by unfold sN;simp only[List.any_cons,List.any_nil,Lz,RB];by_cases h:p=i;{rw[decide_eq_true h,decide_eq_true h.symm]};{rw[decide_eq_false h,decide_eq_false (λq=>h q.symm)]}
def qow {p r i:Nat}:sN [(p:Int),(r:Int)] i=(decide (i=p)||decide (i=r)):=by unfold sN;simp only[List.any_cons,List.any_nil,Lz,RB];congr 1;{by_cases h:p=i;{rw[decide_eq_true h,decide_eq_true h.symm]};{rw[decide_eq_false h,decide_eq_false (λq=>h q.symm)]}};{by_cases h:r=i;{rw[decide_eq_true h,decide_eq_true h.symm]};{rw[decide_eq_false h,decide_eq_false (λq=>h q.symm)]}}
def qjd {full:Int} {A:LI} (h:gH full A): ∀{t:Nat},full<=(t:Int)->(keep A t).length+A.length=t:=by intro t G;cases h with| @one p J=>{have: ∀t:Nat,(keep [(p:Int)] t).length+(if p<t then 1 else 0)=t:=λt=>by{induction t with|zero=>rfl|succ t u=>{rw[Md,zG,qon];by_cases c:t=p;{subst c;rw[af O]at u;rw[iP (decide_eq_true rfl),iP O];simp only[LG];omega};{rw[af (by rw[decide_eq_false c];decide)];simp only[zL];split at u<;>split<;>omega}}};have:=this t;rw[iP O]at this;exact this}| @two p r Q h2 K=>{have: ∀t:Nat,(keep [(p:Int),(r:Int)] t).length+(if p<t then 1 else 0)+(if r<t then 1 else 0)=t:=λt=>by{induction t with|zero=>rfl|succ t u=>{rw[Md,zG,qow];by_cases c:t=p;{subst c;rw[af O]at u;rw[iP (by rw[decide_eq_true rfl];rfl),iP O];simp only[LG];split at u<;>split<;>omega};{by_cases d:t=r;{subst d;rw[af (by omega: ¬t<t)]at u;rw[iP (by rw[decide_eq_true rfl,AS]),iP (by omega:t<t+1)];simp only[LG];split at u<;>split<;>omega};{rw[af (by rw[decide_eq_false c,decide_eq_false d];decide)];simp only[zL];split at u<;>split at u<;>split<;>split<;>omega}}}};have:=this t;rw[iP O,iP O]at this;exact this}
def gH.out {full:Int} {A:LI} (h:gH full A) {i:Nat} (G:full<=(i:Int)):sN A i=false:=by cases h with|one u=>{rw[qon];exact decide_eq_false O}|two K h2 J=>{rw[qow,decide_eq_false O,decide_eq_false O];rfl}
def gH.len {full:Int} {A:LI} (h:gH full A):A.length=1\/A.length=2:=by cases h with|one u=>exact .inl rfl|two J h2 G=>exact .inr rfl
def gH.get {full:Int} {A:LI} (h:gH full A) {k:Nat} (u:k<A.length):0<=A.getD k 0/\A.getD k 0<full:=by cases h with| @one p G=>{have:k=0:=by{simp at u;omega};subst this;show 0<=(p:Int)/\(p:Int)<full;omega}| @two p r K h2 J=>{have:k=0\/k=1:=by{simp at u;omega};rcases this with rfl|rfl;{show 0<=(p:Int)/\(p:Int)<full;omega};{show 0<=(r:Int)/\(r:Int)<full;omega}}
def oc {full:Int} {A:LI} (h:gH full A): ∀{d t:Nat},(t:Int)=full->keep A (t+d)=keep A t++(List.range' t d)
 |0,t,u=>by simp
 |d+1,t,u=>by rw[<-Nat.add_assoc,Md,oc h u,h.out O,af (by decide),py,List.range'_concat];simp
def qp9 {full:Int} (h0:0<=full) {A:LI} (h:gH full A) {k:Nat} (K:full<=(k:Int)) {i:Nat} (Q:full-(A.length:Int)<=(i:Int)) (u:i<(keep A k).length):full<=(((keep A k).getD i 0:Nat):Int)/\(keep A k).getD i 0<k:=by obtain⟨t,G⟩: ∃t:Nat,(t:Int)=full:=⟨full.toNat,O⟩;obtain⟨d,rfl⟩: ∃d,k=t+d:=⟨k-t,O⟩;have J:=oc h (d:=d) G;have h2:=qjd h (t:=t) O;have hm:(keep A (t+d)).getD i 0∈keep A (t+d):=by{simp[List.getD,u]};refine⟨?_,qht hm⟩;rw[J]at u⊢;rw[zG,List.length_range']at u;have:(keep A t++List.range' t d).getD i 0=t+(i-(keep A t).length):=by{simp only[List.getD_eq_getElem?_getD];rw[List.getElem?_append_right O,List.getElem?_range' O];simp};rw[this];omega
section
variable {m:Nat} (hm:5000000000<=m) {A:LI} (hA:A.length<=100)
include hm hA
theorem UC (i:Nat): ∃r:Int,kc m A (i:Int)=some (r,(),(),())/\(sN A i=true->r>=0)/\(sN A i=false->r<0):=by rcases VR hm (rows:=A) O (i:Int)with⟨r,e,K,h2⟩|⟨e,h⟩;{refine⟨_,e,λ_=>O,λq=> ?_⟩;exfalso;have:sN A i=true:=by{unfold sN;exact LL.2 ⟨A.getD r 0,Xj K,decide_eq_true h2⟩};rw[this]at q;cases q};{refine⟨_,e,λq=> ?_,λ_=>O⟩;unfold sN at q;obtain⟨a,J,G⟩:=LL.1 q;obtain⟨j,u,rfl⟩:=nz J;exact absurd (of_decide_eq_true G) (by have:=h j u;simp only[List.getD_eq_getElem?_getD,List.getElem?_eq_getElem u,xj]at this;exact this)}
variable {rows:LI} (hl:rows.length<=1000) {x1:Int} {s:List (List bJ)} (hs:Sq rows.length s)
include hl hs
theorem E8 (a0 J:LI) (Q G:Int) (K u:List (List bJ)) {i:Nat} (hi:i<rows.length): ∀(N t:Nat),rows.length-t<N->t<=rows.length->
 j6 m N A rows x1 s a0 Q K J G u (i:Int) ((keep A t).map λj=>(s.getD i []).getD j fP) (t:Int)=some (.inl (A,(rows,x1,s,()),(a0,Q,K,()),(J,G,u,()),(i:Int),(keep A rows.length).map (λj=>(s.getD i []).getD j fP),()))
 |0,t,h,_=>absurd h (zA _)
 |N+1,t,h,b0=>by rw[j6,bQ];by_cases ht:t<rows.length;{obtain⟨r,e,h1,h2⟩:=UC hm hA t;have a1:=hs.len;have a2:=hs.row i hi;have wt:wI ((t:Int)+1)=((t+1:Nat):Int):=ax O;have ih:=E8 a0 J Q G K u hi N (t+1) O O;have c0:=S7 (A:=A) (t:=t);rw[Md]at ih;rw[iP O,e,bS,bQ,wt];dsimp only;cases c:sN A t with|true=>{rw[c,iP rfl,ls]at ih;rw[af (by have:=h1 c;omega)];exact ih}|false=>{rw[c,af (by decide),sF]at ih;rw[iP (h2 c),iP O,tN,tN,iP O,iP (by rw[zL,zh];omega)];exact ih}};{rw[af O,show t=rows.length by omega]}
theorem E9 (K:LI) (J u:Int) (G:List (List bJ)): ∀(N t:Nat),rows.length-t<N->t<=rows.length->
 j7 m N A rows x1 s K J G ((keep A t).map λi=>rows.getD i 0) u ((keep A t).map λi=>(keep A rows.length).map λj=>(s.getD i []).getD j fP) (t:Int)=
  some (.inl ((K,J,G,()),((keep A rows.length).map (λi=>rows.getD i 0),u,(keep A rows.length).map (λi=>(keep A rows.length).map λj=>(s.getD i []).getD j fP),()),()))
 |0,t,h,_=>absurd h (zA _)
 |N+1,t,h,a0=>by rw[j7,bQ];by_cases ht:t<rows.length;{obtain⟨r,e,h1,h2⟩:=UC hm hA t;have wt:wI ((t:Int)+1)=((t+1:Nat):Int):=ax O;have Q:=E9 K J u G N (t+1) O O;have b0:=S7 (A:=A) (t:=t);rw[Md]at Q;rw[iP O,e,bS,bQ];dsimp only;cases c:sN A t with|true=>{rw[c,iP rfl,ls]at Q;rw[iP (h1 c),wt];exact Q}|false=>{rw[c,af (by decide),sF,sF]at Q;have e1:=E8 hm hA hl (x1:=x1) hs K ((keep A t).map (λi=>rows.getD i 0)++[rows.getD t 0]) J u G ((keep A t).map λi=>(keep A rows.length).map λj=>(s.getD i []).getD j fP) ht m 0 O O;rw[nZ,show keep A 0=[]from rfl,E4]at e1;rw[af (by have:=h2 c;omega),iP O,tN,iP (by rw[zL,zh];omega),e1,bS];dsimp only;rw[iP (by rw[zL,zh];omega),wt];exact Q}};{rw[af O,show t=rows.length by omega]}
theorem MO:DG m rows x1 s A=some (((keep A rows.length).map (λi=>rows.getD i 0),wI (x1-(A.length:Int)),(keep A rows.length).map (λi=>(keep A rows.length).map λj=>(s.getD i []).getD j fP),()),(),(),()):=by have e:=E9 hm hA hl (x1:=x1) hs [] 0 (wI (x1-(A.length:Int))) [] m 0 O O;rw[nZ,show keep A 0=[]from rfl,E4,E4]at e;rw[DG,e];rfl
end
def MP {A:LI} {k:Nat} {s:List (List bJ)} (hs:Sq k s):Sq (keep A k).length ((keep A k).map λi=>(keep A k).map λj=>(s.getD i []).getD j fP):=by have G: ∀i,i<(keep A k).length->((keep A k).map λi=>(keep A k).map λj=>(s.getD i []).getD j fP).getD i []=(keep A k).map λj=>(s.getD ((keep A k).getD i 0) []).getD j fP:=λi u=>by{simp[List.getD,u]};refine⟨zh ..,λi u=>by rw[G i u,zh],λi j=> ?_⟩;by_cases c:i<(keep A k).length;{rw[G i c];refine M6 (λd J=> ?_) j;obtain⟨x,_,rfl⟩:=zk.1 J;exact hs.cy _ x};{rw[show((keep A k).map λi=>(keep A k).map λj=>(s.getD i []).getD j fP).getD i []=[] by simp[List.getD,c]];exact Nd}
end Go.Vs.F
set_option maxRecDepth 100000
namespace Go.Vs.F
section
variable {m:Nat} (hm:5000000000<=m)
include hm
theorem vQ {f:Int} (h:cd f): ∃c,j4 m f=some (c,(),())/\Cn c:=⟨_,vN O h,A0 f⟩
theorem Fq {a b:Int} (G:cd a) (u:cd b): ∃c,jv m a b=some (c,(),(),())/\Cn c:=by obtain⟨x,e1,K⟩:=vQ hm G;obtain⟨y,Q,h2⟩:=vQ hm u;obtain⟨z,O,J⟩:=fW hm K h2;refine⟨z,?_,J⟩;rw[jv,e1,bS,Q,bS,O];rfl
theorem XY {d:LI} (hd:d.length=3) (hu:UL d): ∃c,nO m d=some (c,(),())/\Cn c:=by obtain⟨x,Q,G⟩:=Fq hm (hu 0 O) (hu 2 O);obtain⟨y,K,h2⟩:=Fq hm (hu 1 O) (hu 1 O);obtain⟨z,J,u⟩:=Br hm G h2;refine⟨z,?_,u⟩;rw[nO,iP O,iP O,Q,bS,iP O,iP O,K,bS,J];rfl
theorem T9 {rows:LI} {x1 full:Int} {k:Nat} {s:List (List bJ)} (hs:Sq k s) (hf:full<=(k:Int)) {A:LI} (hA:gH full A) {d:LI} (hd:d.length=2*A.length-1) (hu:UL d) (p0 p2:LI) (p3:List LI) {i:Nat} (u:i<k):
 ∃l,yW m p0 d p2 p3 rows x1 s A (i:Int)=some (l,(),(),(),(),())/\l.length=A.length/\UL l:=by have h1:=hs.len;have h2:=hs.row i u;cases hA with| @one p hp=>{have b0:d.length=1:=hd;rw[yW,iP O,iP (by simp),E1,tN,iP O];rw[show(([(p:Int)].length:Int)==1)=true from rfl,cond_true,iP O,SL,bS];dsimp only;cases A9 (d.getD 0 0)with|true=>{exact⟨[0],rfl,rfl,λi u=>by{have:i=0:=by{simp at u;omega};subst this;exact Ff}⟩}|false=>{obtain⟨c,e1,J⟩:=vQ hm (hu 0 O);obtain⟨f,G,Q⟩:=IT hm (hs.cy i p) J;unfold pz at G;dsimp only at G;rw[cond_false,iP O,e1,bS,tN];dsimp only;rw[G];exact⟨[f],rfl,rfl,λi u=>by{have:i=0:=by{simp at u;omega};subst this;exact Q}⟩}}| @two p r hp hr a0=>{have K:d.length=3:=hd;obtain⟨c0,e0,g0⟩:=vQ hm (hu 0 O);obtain⟨c1,e1,J⟩:=vQ hm (hu 1 O);obtain⟨c2,G,Q⟩:=vQ hm (hu 2 O);obtain⟨a1,f1,k1⟩:=fW hm (hs.cy i p) Q;obtain⟨a2,f2,k2⟩:=fW hm (hs.cy i r) J;obtain⟨a3,f3,k3⟩:=Br hm k1 k2;obtain⟨a4,f4,k4⟩:=fW hm (hs.cy i r) g0;obtain⟨a5,f5,k5⟩:=fW hm (hs.cy i p) J;obtain⟨a6,f6,k6⟩:=Br hm k4 k5;obtain⟨dt,f7,k7⟩:=XY hm K hu;obtain⟨q1,f8,k8⟩:=IT hm k3 k7;obtain⟨q2,f9,k9⟩:=IT hm k6 k7;unfold pz at f1 f2 f4 f5;dsimp only at f1 f2 f4 f5;rw[yW,iP O,iP (by simp),E1,tN,iP O];rw[show(([(p:Int),(r:Int)].length:Int)==1)=false from rfl,cond_false,iP O,iP (by simp),RQ,E1,iP O,iP O,e0,bS,iP O,e1,bS,iP O,G,bS,tN,tN];dsimp only;rw[f1,bS,f2,bS];dsimp only;rw[f3,bS,f4,bS,f5,bS];dsimp only;rw[f6,bS,f7,bS];dsimp only;rw[f8,bS,bS];dsimp only;rw[f9];exact⟨[q1,q2],rfl,rfl,λi u=>by{have:i=0\/i=1:=by{simp at u;omega};rcases this with rfl|rfl;{exact k8};{exact k9}}⟩}
end
structure PL (w q k:Nat) (l:List LI):Prop where
 len:l.length=w
 col: ∀j,j<w->(l.getD j []).length=(if j<k then q+1 else q)/\UL (l.getD j [])
def qme {l:List LI} {i j:Nat} {d:LI}:(l.set i d).getD j []=if j=i/\i<l.length then d else l.getD j []:=by simp only[List.getD_eq_getElem?_getD,List.getElem?_set];by_cases c:i=j;{subst c;by_cases e:i<l.length;{simp[e]};{simp[e]}};{simp[c,Ne.symm c]}
section
variable {m:Nat} (hm:5000000000<=m)
include hm
theorem Rl {w q:Nat} {l:List LI} (hl:PL w q 0 l) {p0 d:LI} (h0:p0.length=w) (hw:w=1\/w=2) (hd:d.length=2*w-1) (hu:UL d) (p2:LI) {i j:Nat} (hi:i<q) (hj:j<q):
 ∃c,DD m p0 d p2 l (i:Int) (j:Int)=some (c,(),(),(),())/\Cn c:=by have a0:=hl.len;obtain⟨n0,G⟩:=hl.col 0 O;rw[af O]at n0;obtain⟨a,e1,g1⟩:=vQ hm (G i O);obtain⟨b,e2,g2⟩:=vQ hm (G j O);obtain⟨d1,e3,g3⟩:=vQ hm (hu 0 O);obtain⟨x1,e4,g4⟩:=fW hm g1 g3;obtain⟨x2,e5,g5⟩:=fW hm g4 g2;rw[DD,iP O,iP O,tN,tN,e1,bS,iP O,iP O,e2,bS,iP O,e3,bS];dsimp only;rw[e4,bS];dsimp only;rw[e5,bS,h0,aA];by_cases c:w=2;{obtain⟨n1,u⟩:=hl.col 1 O;rw[af O]at n1;obtain⟨c1,e6,Q⟩:=vQ hm (u i O);obtain⟨c2,e7,K⟩:=vQ hm (u j O);obtain⟨d2,e8,J⟩:=vQ hm (hu 1 O);obtain⟨d3,e9,g9⟩:=vQ hm (hu 2 O);obtain⟨y1,f1,k1⟩:=fW hm g1 J;obtain⟨y2,f2,k2⟩:=fW hm k1 K;obtain⟨y3,f3,k3⟩:=EP hm g5 k2;obtain⟨y4,f4,k4⟩:=fW hm Q J;obtain⟨y5,f5,k5⟩:=fW hm k4 g2;obtain⟨y6,f6,k6⟩:=EP hm k3 k5;obtain⟨y7,f7,k7⟩:=fW hm Q g9;obtain⟨y8,f8,k8⟩:=fW hm k7 K;obtain⟨y9,f9,k9⟩:=EP hm k6 k8;rw[iP O,iP O,iP O,e6,bS,iP O,iP O,e7,bS,iP O,e8,bS,iP O,e9,bS];dsimp only;rw[f1,bS];dsimp only;rw[f2,bS];dsimp only;rw[f3,bS,f4,bS];dsimp only;rw[f5,bS];dsimp only;rw[f6,bS,f7,bS];dsimp only;rw[f8,bS];dsimp only;rw[f9];exact⟨y9,rfl,k9⟩};{rw[af O];exact⟨x2,rfl,g5⟩}
theorem Ib (A m0 j0 g0 e0 d0 b0 K J G:LI) (l0 i0 a0 q0:Int) (k0 h0 Q:List (List bJ)) (c0:List LI) {w q:Nat} (hw:w<=100) (hq:q<=1000) {v:LI} (hv:v.length=w) (hu:UL v): ∀(N k:Nat) (l:List LI),w-k<N->k<=w->PL w q k l->
 (∃r,ou m N A m0 l0 k0 j0 i0 h0 g0 e0 d0 c0 b0 a0 Q K J G l q0 v (k:Int)=some (.inl r)/\r.2.2.1=false)\/
 (∃l',ou m N A m0 l0 k0 j0 i0 h0 g0 e0 d0 c0 b0 a0 Q K J G l q0 v (k:Int)=some (.inr (.inl (A,(m0,l0,k0,()),(j0,i0,h0,()),(g0,e0,d0,c0,()),(b0,a0,Q,()),(K,J,G,l',()),q0,())))/\PL w (q+1) 0 l')
 |0,k,l,h,_,_=>absurd h (zA _)
 |N+1,k,l,h,s0,hl=>by rw[ou,bQ];by_cases hk:k<w;{have u:=hu k O;have r0:=hl.len;obtain⟨n0,u0⟩:=hl.col k hk;rw[af O]at n0;rw[iP O,iP O,zH,tN,Xx u,bS];dsimp only;by_cases c:aU (v.getD k 0);{rw[decide_eq_true c,show(!true)=false from rfl,cond_false,iP O,iP O,iP (by rw[zL];omega),iP O,iP rfl,show wI ((k:Int)+1)=((k+1:Nat):Int)from ax O];refine Ib A m0 j0 g0 e0 d0 b0 K J G l0 i0 a0 q0 k0 h0 Q c0 hw hq hv hu N (k+1) _ O O ⟨by rw[zT];exact r0,λj hj=> ?_⟩;obtain⟨n1,u1⟩:=hl.col j hj;rw[qme];by_cases e:j=k;{subst e;rw[iP ⟨rfl,O⟩,iP O];exact⟨by rw[zG,n0];rfl,qmy u0 u⟩};{rw[af (λq=>e q.1)];refine⟨?_,u1⟩;rw[n1];by_cases g:j<k;{rw[iP g,iP O]};{rw[af g,af O]}}};{rw[decide_eq_false c];exact .inl ⟨_,rfl,rfl⟩}};{rw[af O];refine .inr ⟨l,rfl,hl.len,λj hj=> ?_⟩;obtain⟨n1,u1⟩:=hl.col j hj;rw[iP O]at n1;exact⟨by rw[af O];exact n1,u1⟩}
end
end Go.Vs.F
set_option maxRecDepth 100000
namespace Go.Vs.F
def bz (A rows:LI) (t:Nat):LI:=(keep A t).map λi=>rows.getD i 0
def kt (A rows:LI):LI:=A.map λa=>rows.getD a.toNat 0
section
variable {m:Nat} (hm:5000000000<=m) {rows:LI} (hl:rows.length<=1000) {full:Int} (hf:full<=(rows.length:Int)) {s:List (List bJ)} (hs:Sq rows.length s) {A:LI} (hA:gH full A)
include hm hl hf hs hA
theorem Ic (x1 a0 y1:Int) (b0 K J G y0 d p2:LI) (Q y2:List (List bJ)) (u:List LI): ∀(N t:Nat),A.length-t<N->t<=A.length->
 qE m N A rows x1 s b0 a0 Q K J G u y0 y1 y2 (kt (A.take t) rows) d p2 (List.replicate t []) (t:Int)=some (.inl (A,(rows,x1,s,()),(b0,a0,Q,()),(K,J,G,u,()),(y0,y1,y2,()),(kt A rows,d,p2,List.replicate A.length [],()),()))
 |0,t,h,_=>absurd h (zA _)
 |N+1,t,h,c0=>by rw[qE,bQ];have d0:=hA.len;by_cases ht:t<A.length;{have g:=hA.get ht;have e1:kt (A.take t) rows++[rows.getD (A.getD t 0).toNat 0]=kt (A.take (t+1)) rows:=by{unfold kt;rw[MK ht,sF];simp[List.getD,ht]};have e2:(kt (A.take t) rows).length<=2:=by{unfold kt;rw[zh,zU];omega};rw[iP O,iP O,tN,iP O,iP (by rw[zL];omega),iP (by rw[zL,zI];omega),e1,<-List.replicate_succ',show wI ((t:Int)+1)=((t+1:Nat):Int)from ax O];exact Ic x1 a0 y1 b0 K J G y0 d p2 Q y2 u N (t+1) O O};{have e:t=A.length:=O;rw[af O,e,EY]}
theorem Ay (x1 a0 y1:Int) (b0 K J G y0 p0 p2:LI) (Q y2:List (List bJ)) (u:List LI) {d:LI} (hd:d.length=2*A.length-1) (hu:UL d): ∀(N i:Nat) (l:List LI),rows.length-i<N->i<=rows.length->PL A.length (keep A i).length 0 l->
 (∃r,iq m N A rows x1 s b0 a0 Q K J G u y0 y1 y2 p0 d p2 l (i:Int)=some (.inl r)/\r.2.2.1=false)\/
 (∃l',iq m N A rows x1 s b0 a0 Q K J G u y0 y1 y2 p0 d p2 l (i:Int)=some (.inr (.inl ((b0,a0,Q,()),(K,J,G,u,()),(y0,y1,y2,()),(p0,d,p2,l',()),())))/\PL A.length (keep A rows.length).length 0 l')
 |0,i,l,h,_,_=>absurd h (zA _)
 |N+1,i,l,h,e0,hp=>by have g0:=hA.len;rw[iq,bQ];by_cases hi:i<rows.length;{obtain⟨r,e,h1,h2⟩:=UC hm (A:=A) O i;have c0:wI ((i:Int)+1)=((i+1:Nat):Int):=ax O;have d0:=S7 (A:=A) (t:=i);have ks:=Md (A:=A) (t:=i);rw[iP O,e,bS,bQ];dsimp only;cases c:sN A i with|true=>{rw[c,iP rfl,ls]at ks;rw[iP (h1 c),c0];exact Ay x1 a0 y1 b0 K J G y0 p0 p2 Q y2 u hd hu N (i+1) l O O (by rw[ks];exact hp)}|false=>{rw[c,af (by decide)]at ks;obtain⟨v,e1,v1,v2⟩:=T9 hm (rows:=rows) (x1:=x1) hs hf hA hd hu p0 p2 l hi;rw[af (by have:=h2 c;omega),e1,bS];dsimp only;rcases Ib hm A rows b0 K J G y0 p0 d p2 x1 a0 y1 (i:Int) s Q y2 u (w:=A.length) (q:=(keep A i).length) O O v1 v2 m 0 l O O hp with⟨r,e2,e3⟩|⟨l',e2,e3⟩;{rw[nZ]at e2;rw[e2];exact .inl ⟨_,rfl,e3⟩};{rw[nZ]at e2;rw[e2,bS];dsimp only;rw[c0];exact Ay x1 a0 y1 b0 K J G y0 p0 p2 Q y2 u hd hu N (i+1) l' O O (by rw[ks,zG];exact e3)}}};{have e:i=rows.length:=O;subst e;rw[af O];exact .inr ⟨l,rfl,hp⟩}
omit hl hf hs hA in
theorem H9 (b0 y1:Int) (c0 Q K J p2:LI) (a0:List (List bJ)) (G:List LI) {y0 d p0:LI} (hy:y0.length<=1000) {w:Nat} {l:List LI} (hp:PL w y0.length 0 l) (h0:p0.length=w) (hw:w=1\/w=2) (hd:d.length=2*w-1) (hu:UL d) {i:Nat} (hi:i<y0.length): ∀(N j:Nat) (u:List (List bJ)),y0.length-j<N->Sq y0.length u->
 ∃d0,qD m N c0 b0 a0 Q K J G y0 y1 u p0 d p2 l (i:Int) (j:Int)=some (.inl ((c0,b0,a0,()),(Q,K,J,G,()),(y0,y1,d0,()),(p0,d,p2,l,()),(i:Int),()))/\Sq y0.length d0
 |0,j,u,h,_=>absurd h (zA _)
 |N+1,j,u,h,hs=>by rw[qD,bQ];by_cases hj:j<y0.length;{have a1:=hs.len;have a2:=hs.row i hi;obtain⟨f,e1,g1⟩:=Rl hm hp h0 hw hd hu p2 hi hj;obtain⟨c,e2,g2⟩:=Br hm (hs.cy i j) g1;unfold pz at e2;dsimp only at e2;have c1:(0:Int)<=(i:Int)/\(i:Int)<(u.length:Int):=O;have c2:(0:Int)<=(j:Int)/\(j:Int)<((u.getD i []).length:Int):=O;rw[iP O,iP c1,iP c1,tN,tN,iP c2,e1,bS];dsimp only;rw[e2,bS,iP c2,show wI ((j:Int)+1)=((j+1:Nat):Int)from ax O];exact H9 b0 y1 c0 Q K J p2 a0 G hy hp h0 hw hd hu hi N (j+1) _ O (hs.set hi (Sx g2))};{rw[af O];exact⟨u,rfl,hs⟩}
omit hl hf hs hA in
theorem Ia (b0 y1:Int) (c0 Q K J p2:LI) (a0:List (List bJ)) (G:List LI) {y0 d p0:LI} (hy:y0.length<=1000) {w:Nat} {l:List LI} (hp:PL w y0.length 0 l) (h0:p0.length=w) (hw:w=1\/w=2) (hd:d.length=2*w-1) (hu:UL d): ∀(N i:Nat) (y2:List (List bJ)),y0.length-i<N->Sq y0.length y2->
 ∃u,lQ m N c0 b0 a0 Q K J G y0 y1 y2 p0 d p2 l (i:Int)=some (.inl ((c0,b0,a0,()),(Q,K,J,G,()),(y0,y1,u,()),(p0,d,p2,l,()),()))/\Sq y0.length u
 |0,j,y2,h,_=>absurd h (zA _)
 |N+1,i,y2,h,hs=>by rw[lQ,bQ];by_cases hi:i<y0.length;{obtain⟨u,e1,e2⟩:=H9 hm b0 y1 c0 Q K J p2 a0 G hy hp h0 hw hd hu hi m 0 y2 O hs;rw[nZ]at e1;rw[iP O,e1,bS];dsimp only;rw[show wI ((i:Int)+1)=((i+1:Nat):Int)from ax O];exact Ia b0 y1 c0 Q K J p2 a0 G hy hp h0 hw hd hu N (i+1) u O e2};{rw[af O];exact⟨y2,rfl,hs⟩}
theorem qus (x1:Int): ∃r,On m rows x1 s A=some (r,(),(),())/\(r.2.2.1=false\/ ∃G d l,r=((bz A rows rows.length,wI (x1-(A.length:Int)),G,()),(kt A rows,d,bz A rows rows.length,l,()),true,())/\
 Sq (bz A rows rows.length).length G/\d.length=2*A.length-1/\UL d/\PL A.length (bz A rows rows.length).length 0 l):=by have j0:=hA.len;have wo:=MO hm (A:=A) O hl (x1:=x1) hs;have d0:=MP (A:=A) hs;have i0:=S7 (A:=A) (t:=rows.length);have a0:(bz A rows rows.length).length=(keep A rows.length).length:=by{unfold bz;rw[zh]};have g0:=hA.get (k:=0) O;obtain⟨a,ha⟩: ∃a:Nat,A.getD 0 0=(a:Int):=⟨(A.getD 0 0).toNat,O⟩;have a1:=hs.len;have a2:=hs.row a O;have e0:=Ic hm hl hf hs hA x1 0 (wI (x1-(A.length:Int))) [] [] [] [] (bz A rows rows.length) [] (bz A rows rows.length) [] ((keep A rows.length).map λi=>(keep A rows.length).map λj=>(s.getD i []).getD j fP) [] m 0 O O;rw[nZ,sC,show kt [] rows=[]from rfl,List.replicate_zero]at e0;have h0:PL A.length (keep A 0).length 0 (List.replicate A.length []):=⟨zI,λj hj=>by{rw[show(List.replicate A.length ([]:LI)).getD j []=[] by simp[List.getD,hj],af O];exact⟨rfl,λi hi=>absurd hi (zA _)⟩}⟩;obtain⟨f,ef,uf⟩:=SA hm (hs.cy a a);unfold pz at ef;dsimp only at ef;have rest: ∀{d:LI},d.length=2*A.length-1->UL d-> (∃r,iq m m A rows x1 s [] 0 [] [] [] [] [] (bz A rows rows.length) (wI (x1-(A.length:Int))) ((keep A rows.length).map λi=>(keep A rows.length).map λj=>(s.getD i []).getD j fP) (kt A rows) d (bz A rows rows.length) (List.replicate A.length []) 0=some (.inl r)/\r.2.2.1=false)\/ (∃l G,iq m m A rows x1 s [] 0 [] [] [] [] [] (bz A rows rows.length) (wI (x1-(A.length:Int))) ((keep A rows.length).map λi=>(keep A rows.length).map λj=>(s.getD i []).getD j fP) (kt A rows) d (bz A rows rows.length) (List.replicate A.length []) 0=some (.inr (.inl (([],0,[],()),([],[],[],[],()),(bz A rows rows.length,wI (x1-(A.length:Int)),(keep A rows.length).map (λi=>(keep A rows.length).map λj=>(s.getD i []).getD j fP),()),(kt A rows,d,bz A rows rows.length,l,()),())))/\ lQ m m [] 0 [] [] [] [] [] (bz A rows rows.length) (wI (x1-(A.length:Int))) ((keep A rows.length).map λi=>(keep A rows.length).map λj=>(s.getD i []).getD j fP) (kt A rows) d (bz A rows rows.length) l 0=some (.inl (([],0,[],()),([],[],[],[],()),(bz A rows rows.length,wI (x1-(A.length:Int)),G,()),(kt A rows,d,bz A rows rows.length,l,()),()))/\ Sq (bz A rows rows.length).length G/\PL A.length (bz A rows rows.length).length 0 l):=λ{d} hd hu=>by{have u:=Ay hm hl hf hs hA x1 0 (wI (x1-(A.length:Int))) [] [] [] [] (bz A rows rows.length) (kt A rows) (bz A rows rows.length) [] ((keep A rows.length).map λi=>(keep A rows.length).map λj=>(s.getD i []).getD j fP) [] hd hu m 0 (List.replicate A.length []) O O h0;rw[nZ]at u;rcases u with u|⟨l,u,h2⟩;{exact .inl u};{rw[<-a0]at h2;obtain⟨G,J,h4⟩:=Ia hm 0 (wI (x1-(A.length:Int))) [] [] [] [] (bz A rows rows.length) [] [] (y0:=bz A rows rows.length) O h2 (p0:=kt A rows) (by unfold kt;rw[zh]) O hd hu m 0 ((keep A rows.length).map λi=>(keep A rows.length).map λj=>(s.getD i []).getD j fP) O (by rw[a0];exact d0);rw[nZ]at J;exact .inr ⟨l,G,u,J,h4,h2⟩}};rw[On,wo,bS];dsimp only;rw[show(keep A rows.length).map (λi=>rows.getD i 0)=bz A rows rows.length from rfl,e0,bS];dsimp only;rw[iP O,ha,iP O,iP O,tN,iP O,ef,bS,aA];dsimp only;by_cases c:(A.length:Int)=2;{have g1:=hA.get (k:=1) O;obtain⟨b,hb⟩: ∃b:Nat,A.getD 1 0=(b:Int):=⟨(A.getD 1 0).toNat,O⟩;have b2:=hs.row b O;obtain⟨f1,e1,u1⟩:=SA hm (hs.cy b a);obtain⟨f2,e2,u2⟩:=SA hm (hs.cy b b);unfold pz at e1 e2;dsimp only at e1 e2;rw[iP c,iP O,hb,iP O,iP O,tN,iP O,e1,bS,iP O,iP O,iP O,iP O,e2,bS,iP (by simp)];dsimp only;have K:UL ([f]++[f1,f2]):=λi hi=>by{have:i=0\/i=1\/i=2:=by{simp at hi;omega};rcases this with rfl|rfl|rfl;{exact uf};{exact u1};{exact u2}};have b0:([f]++[f1,f2]).length=2*A.length-1:=by{rw[show A.length=2 by omega];rfl};rcases rest b0 K with⟨r,u,h2⟩|⟨l,G,u,h2,J,h4⟩;{rw[u];exact⟨_,rfl,.inl h2⟩};{rw[u,bS];dsimp only;rw[h2];exact⟨_,rfl,.inr ⟨G,_,l,rfl,J,b0,K,h4⟩⟩}};{have Q:UL [f]:=λi hi=>by{have:i=0:=by{simp at hi;omega};subst this;exact uf};have c0:[f].length=2*A.length-1:=by{rw[show A.length=1 by omega];rfl};rw[af c];rcases rest c0 Q with⟨r,u,h2⟩|⟨l,G,u,h2,J,h4⟩;{rw[u];exact⟨_,rfl,.inl h2⟩};{rw[u,bS];dsimp only;rw[h2];exact⟨_,rfl,.inr ⟨G,_,l,rfl,J,c0,Q,h4⟩⟩}}
end
end Go.Vs.F
set_option maxRecDepth 100000
namespace Go.Vs.F
abbrev Lt:=LI×Int×List (List bJ)
def PF (l:List sy) (c:Nat) (r:Int):Prop:=(∃j,j<(l.getD c ((0:Int),((0:Int),(([]:LI),(0:Int))))).2.2.1.length/\(l.getD c ((0:Int),((0:Int),(([]:LI),(0:Int))))).2.2.1.getD j 0=r)/\(l.getD c ((0:Int),((0:Int),(([]:LI),(0:Int))))).2.1<=r
structure Fr (n:Nat) (P:Int->Prop) (rows:LI) (full:Int) (s:List (List bJ)):Prop where
 full0:0<=full
 fullr:full<=(rows.length:Int)
 len:(rows.length:Int)<=full+4
 rng: ∀i,i<rows.length->0<=rows.getD i 0/\rows.getD i 0<(n:Int)
 rest: ∀i:Nat,full<=(i:Int)->i<rows.length->P (rows.getD i 0)
 sq:Sq rows.length s
structure X2 (n:Nat) (l:List sy):Prop where
 len:l.length<=4
 row: ∀i,i<l.length->0<=(l.getD i ((0:Int),((0:Int),(([]:LI),(0:Int))))).1/\(l.getD i ((0:Int),((0:Int),(([]:LI),(0:Int))))).1<=(l.getD i ((0:Int),((0:Int),(([]:LI),(0:Int))))).2.1/\(l.getD i ((0:Int),((0:Int),(([]:LI),(0:Int))))).2.1<=(n:Int)/\(l.getD i ((0:Int),((0:Int),(([]:LI),(0:Int))))).2.2.1.length<=4/\ ∀j,j<(l.getD i ((0:Int),((0:Int),(([]:LI),(0:Int))))).2.2.1.length->0<=(l.getD i ((0:Int),((0:Int),(([]:LI),(0:Int))))).2.2.1.getD j 0/\(l.getD i ((0:Int),((0:Int),(([]:LI),(0:Int))))).2.2.1.getD j 0<(n:Int)
 par: ∀c f,c<f->f<l.length->(l.getD c ((0:Int),((0:Int),(([]:LI),(0:Int))))).2.2.2=(f:Int)-> ∀r,PF l c r->((l.getD f ((0:Int),((0:Int),(([]:LI),(0:Int))))).1<=r/\r<(l.getD f ((0:Int),((0:Int),(([]:LI),(0:Int))))).2.1)\/PF l f r
def qve {n:Nat} {l:List sy} (h:FJ n l=true):X2 n l:=by unfold FJ zF at h;simp only[zM,decide_eq_true_iff]at h;obtain⟨⟨h1,h2⟩,h3⟩:=h;refine⟨h1,λi hi=> ?_,λc f hc hf hp r Q=> ?_⟩;{have hm:l.getD i ((0:Int),((0:Int),(([]:LI),(0:Int))))∈l:=by{simp[List.getD,hi]};have:=zn.1 h2 _ hm;unfold W4 at this;simp only[zM,decide_eq_true_iff]at this;obtain⟨⟨⟨⟨a,b⟩,c⟩,d⟩,e⟩:=this;refine⟨a,b,c,d,λj u=> ?_⟩;have:=zn.1 e _ (Xj u);simpa using this};{have:=zn.1 h3 f (ux.2 hf);have:=zn.1 this c (ux.2 hc);rw[decide_eq_true hp,uw,Bool.false_or]at this;obtain⟨⟨j,u,rfl⟩,h5⟩:=Q;unfold okP at this;have:=zn.1 this _ (Xj u);simp only[EW,zM,decide_eq_true_iff]at this;rcases this with(q|q)|q;{omega};{exact .inl q};{obtain⟨O,K⟩:=q;obtain⟨x,hx,J⟩:=LL.1 O;obtain⟨k,G,rfl⟩:=nz hx;refine .inr ⟨⟨k,G,?_⟩,K⟩;rw[<-of_decide_eq_true J,List.getD,List.getElem?_eq_getElem G,xj]}}
def sM (R:LI) (r:Int):Prop:= ∃j,j<R.length/\R.getD j 0=r
def Vv {R X:LI} {r:Int} (h:sM R r):sM (R++X) r:=by obtain⟨j,u,h2⟩:=h;exact⟨j,by rw[zG];omega,by rw[jL u];exact h2⟩
def VF {R X:LI} {r:Int} (h:sM X r):sM (R++X) r:=by obtain⟨j,u,h2⟩:=h;exact⟨R.length+j,by rw[zG];omega,by rw[lP O,show R.length+j-R.length=j by omega];exact h2⟩
def d8 (n:Nat) (R:LI):Prop:= ∀i,i<R.length->0<=R.getD i 0/\R.getD i 0<(n:Int)
def d8.app {n:Nat} {R X:LI} (h:d8 n R) (h':d8 n X):d8 n (R++X):=by intro i u;rw[zG]at u;by_cases c:i<R.length;{rw[jL c];exact h i c};{rw[lP O];exact h' _ O}
def d8.one {n:Nat} {r:Int} (h:0<=r/\r<(n:Int)):d8 n [r]:=λi u=>by have:i=0:=by{simp at u;omega};subst this;exact h
def BF (c:Nat):Int:=4*2^c-4
def qoz {c:Nat}:BF (c+1)=BF c+4*2^c:=by unfold BF;rw[Int.pow_succ];omega
def lH {c:Nat} (h:c<=4):(1:Int)<=2^c/\(2:Int)^c<=16:=by have:c=0\/c=1\/c=2\/c=3\/c=4:=O;rcases this with rfl|rfl|rfl|rfl|rfl<;>decide
structure LF (n:Nat) (l:List sy) (f:Nat) (left:List Lt):Prop where
 len:left.length=f
 fr: ∀c,c<f->Fr n (PF l c) (left.getD c (([]:LI),((0:Int),([]:List (List bJ))))).1 (left.getD c (([]:LI),((0:Int),([]:List (List bJ))))).2.1 (left.getD c (([]:LI),((0:Int),([]:List (List bJ))))).2.2
 sm: ∀c,c<f->(left.getD c (([]:LI),((0:Int),([]:List (List bJ))))).2.1<=4*2^c
section
variable {m:Nat} (hm:5000000000<=m) {n:Nat} (hn:n<=4) {l:List sy} (hF:X2 n l) {f:Nat} (hf:f<l.length) {left:List Lt} (hL:LF n l f left)
include hm hn hF hf hL
theorem AK (a0 a1 Q x1:Int) (o a2 a3 a4 t0:LI) (K J:List (List bJ)): ∀(N c:Nat) (R:LI),f-c<N->c<=f->d8 n R->(R.length:Int)<=BF c->
 (∀c',c'<c->(l.getD c' ((0:Int),((0:Int),(([]:LI),(0:Int))))).2.2.2=(f:Int)-> ∀i:Nat,(i:Int)<(left.getD c' (([]:LI),((0:Int),([]:List (List bJ))))).2.1->i<(left.getD c' (([]:LI),((0:Int),([]:List (List bJ))))).1.length->sM R ((left.getD c' (([]:LI),((0:Int),([]:List (List bJ))))).1.getD i 0))->
 ∃R',oC m N o l (f:Int) left a0 a1 a2 a3 a4 t0 Q K R x1 J (c:Int)=some (.inl (o,l,(f:Int),left,(a0,a1,a2,a3,a4,()),(t0,Q,K,()),(R',x1,J,()),()))/\d8 n R'/\(R'.length:Int)<=BF f/\
  (∀c',c'<f->(l.getD c' ((0:Int),((0:Int),(([]:LI),(0:Int))))).2.2.2=(f:Int)-> ∀i:Nat,(i:Int)<(left.getD c' (([]:LI),((0:Int),([]:List (List bJ))))).2.1->i<(left.getD c' (([]:LI),((0:Int),([]:List (List bJ))))).1.length->sM R' ((left.getD c' (([]:LI),((0:Int),([]:List (List bJ))))).1.getD i 0))
 |0,c,R,h,_,_,_,_=>absurd h (zA _)
 |N+1,c,R,h,h0,hR,hRl,u=>by have hl4:=hF.len;have g0:=hL.len;rw[oC,bQ];by_cases hc:c<f;{have hp:=lH (c:=c) O;have e0:=lH (c:=c+1) O;have wc:wI ((c:Int)+1)=((c+1:Nat):Int):=ax O;have j0:=qoz (c:=c);have G:=hL.fr c hc;have d0:=hL.sm c hc;rw[iP O,iP O,zH,tN,aA,wc];by_cases e:(l.getD c ((0:Int),((0:Int),(([]:LI),(0:Int))))).2.2.2=(f:Int);{have f1:=G.full0;have f2:=G.fullr;have c0:(((left.getD c (([]:LI),((0:Int),([]:List (List bJ))))).1.take (left.getD c (([]:LI),((0:Int),([]:List (List bJ))))).2.1.toNat).length:Int)=(left.getD c (([]:LI),((0:Int),([]:List (List bJ))))).2.1:=by{rw[zU];omega};have i0:BF c<=60:=by{unfold BF;omega};rw[iP e,iP O,iP O,iP O];rw[iP (show R.length+((left.getD c (([]:LI),((0:Int),([]:List (List bJ))))).1.take (left.getD c (([]:LI),((0:Int),([]:List (List bJ))))).2.1.toNat).length<=1073741824 by omega)];refine AK a0 a1 Q x1 o a2 a3 a4 t0 K J N (c+1) _ O O (hR.app λi hi=> ?_) (by rw[zG];omega) λc' b0 e' i h1 h2=> ?_;{rw[zU]at hi;rw[L9 O];exact G.rng i O};{by_cases d:c'=c;{subst d;refine VF ⟨i,O,?_⟩;rw[L9 O]};{exact Vv (u c' O e' i h1 h2)}}};{rw[af e];refine AK a0 a1 Q x1 o a2 a3 a4 t0 K J N (c+1) R O O hR O λc' b0 e' i h1 h2=> ?_;by_cases d:c'=c;{subst d;exact absurd e' e};{exact u c' O e' i h1 h2}}};{have:c=f:=O;subst this;rw[af O];exact⟨R,rfl,hR,hRl,u⟩}
theorem Iq (a0 a1 K x1:Int) (o a2 a3 a4 Q:LI) (J G:List (List bJ)): ∀(N j:Nat) (R:LI),(l.getD f ((0:Int),((0:Int),(([]:LI),(0:Int))))).2.1.toNat-j<N->(l.getD f ((0:Int),((0:Int),(([]:LI),(0:Int))))).1<=(j:Int)->(j:Int)<=(l.getD f ((0:Int),((0:Int),(([]:LI),(0:Int))))).2.1->d8 n R->(R.length:Int)<=BF f+((j:Int)-(l.getD f ((0:Int),((0:Int),(([]:LI),(0:Int))))).1)->
 ∃u,qJ m N o l (f:Int) left a0 a1 a2 a3 a4 Q K J R x1 G (j:Int)=some (.inl (o,l,(f:Int),left,(a0,a1,a2,a3,a4,()),(Q,K,J,()),(u,x1,G,()),()))/\d8 n u/\(u.length:Int)<=BF f+((l.getD f ((0:Int),((0:Int),(([]:LI),(0:Int))))).2.1-(l.getD f ((0:Int),((0:Int),(([]:LI),(0:Int))))).1)/\
  (∀r,sM R r->sM u r)/\ ∀r,(j:Int)<=r->r<(l.getD f ((0:Int),((0:Int),(([]:LI),(0:Int))))).2.1->sM u r
 |0,j,R,h,_,_,_,_=>absurd h (zA _)
 |N+1,j,R,h,h1,h2,hR,hRl=>by have hl4:=hF.len;obtain⟨g1,g2,g3,g4,g5⟩:=hF.row f hf;have hp:=lH (c:=f) O;have b0:BF f<=60:=by{unfold BF;omega};rw[qJ,iP O,tN,bQ];by_cases hj:(j:Int)<(l.getD f ((0:Int),((0:Int),(([]:LI),(0:Int))))).2.1;{rw[iP hj,iP (by rw[zL];omega),show wI ((j:Int)+1)=((j+1:Nat):Int)from ax O];obtain⟨u,e1,e2,e3,e4,e5⟩:=Iq a0 a1 K x1 o a2 a3 a4 Q J G N (j+1) (R++[(j:Int)]) O O O (hR.app (d8.one O)) (by rw[zG,zL];omega);refine⟨u,e1,e2,e3,λr hr=>e4 r (Vv hr),λr a b=> ?_⟩;by_cases c:r=(j:Int);{exact e4 r (VF ⟨0,by simp,by rw[c];rfl⟩)};{exact e5 r O b}};{rw[af hj];exact⟨R,rfl,hR,O,λr hr=>hr,λr a b=>O⟩}
theorem AJ (a0 a1 t1 x1:Int) (o a2 a3 a4 t0:LI) (t2 Q:List (List bJ)) {F:Nat} (K:F<=200): ∀(N k:Nat) (R:LI),(l.getD f ((0:Int),((0:Int),(([]:LI),(0:Int))))).2.2.1.length-k<N->k<=(l.getD f ((0:Int),((0:Int),(([]:LI),(0:Int))))).2.2.1.length->d8 n R->F<=R.length->R.length<=F+k->(∀i,F<=i->i<R.length->PF l f (R.getD i 0))->
 ∃u,oB m N o l (f:Int) left a0 a1 a2 a3 a4 t0 t1 t2 R x1 Q (k:Int)=some (.inl (o,l,(f:Int),left,(a0,a1,a2,a3,a4,()),(t0,t1,t2,()),(u,x1,Q,()),()))/\d8 n u/\F<=u.length/\u.length<=F+4/\(∀i,F<=i->i<u.length->PF l f (u.getD i 0))/\
  (∀r,sM R r->sM u r)/\ ∀j,k<=j->j<(l.getD f ((0:Int),((0:Int),(([]:LI),(0:Int))))).2.2.1.length->(l.getD f ((0:Int),((0:Int),(([]:LI),(0:Int))))).2.1<=(l.getD f ((0:Int),((0:Int),(([]:LI),(0:Int))))).2.2.1.getD j 0->sM u ((l.getD f ((0:Int),((0:Int),(([]:LI),(0:Int))))).2.2.1.getD j 0)
 |0,k,R,h,_,_,_,_,_=>absurd h (zA _)
 |N+1,k,R,h,d0,hR,h1,h2,hP=>by have hl4:=hF.len;obtain⟨g1,g2,g3,g4,g5⟩:=hF.row f hf;have G:(0:Int)<=(f:Int)/\(f:Int)<(l.length:Int):=O;rw[oB,iP G,tN,bQ];by_cases hk:k<(l.getD f ((0:Int),((0:Int),(([]:LI),(0:Int))))).2.2.1.length;{have J:(0:Int)<=(k:Int)/\(k:Int)<((l.getD f ((0:Int),((0:Int),(([]:LI),(0:Int))))).2.2.1.length:Int):=O;rw[iP O,iP G,iP J,iP G,bQ,tN,show wI ((k:Int)+1)=((k+1:Nat):Int)from ax O];by_cases c:(l.getD f ((0:Int),((0:Int),(([]:LI),(0:Int))))).2.2.1.getD k 0>=(l.getD f ((0:Int),((0:Int),(([]:LI),(0:Int))))).2.1;{rw[iP c,iP G,iP J,iP (by rw[zL];omega)];obtain⟨u,e1,e2,e3,e4,e5,e6,e7⟩:=AJ a0 a1 t1 x1 o a2 a3 a4 t0 t2 Q K N (k+1) (R++[(l.getD f ((0:Int),((0:Int),(([]:LI),(0:Int))))).2.2.1.getD k 0]) O O (hR.app (d8.one (g5 k hk))) (by rw[zG];omega) (by rw[zG,zL];omega) λi c0 b0=>by{rw[zG,zL]at b0;by_cases d:i<R.length;{rw[jL d];exact hP i c0 d};{rw[lP O,show i-R.length=0 by omega];exact⟨⟨k,hk,rfl⟩,c⟩}};refine⟨u,e1,e2,e3,e4,e5,λr hr=>e6 r (Vv hr),λj a b d=> ?_⟩;by_cases q:j=k;{subst q;exact e6 _ (VF ⟨0,by simp,rfl⟩)};{exact e7 j O b d}};{rw[af c];obtain⟨u,e1,e2,e3,e4,e5,e6,e7⟩:=AJ a0 a1 t1 x1 o a2 a3 a4 t0 t2 Q K N (k+1) R O O hR h1 O hP;refine⟨u,e1,e2,e3,e4,e5,e6,λj a b d=> ?_⟩;by_cases q:j=k;{subst q;exact absurd d O};{exact e7 j O b d}}};{rw[af O];exact⟨R,rfl,hR,h1,O,hP,λr hr=>hr,λj a b=>O⟩}
end
end Go.Vs.F
set_option maxRecDepth 100000
namespace Go.Vs.F
structure AL (k r:Nat) (s:List (List bJ)):Prop where
 len:s.length=r
 row: ∀i,i<r->(s.getD i []).length=k
 cy: ∀i j,Cy ((s.getD i []).getD j fP)
def AL.sq {k:Nat} {s:List (List bJ)} (h:AL k k s):Sq k s:=⟨h.len,h.row,h.cy⟩
def AL.set {k r:Nat} {s:List (List bJ)} (h:AL k r s) {i j:Nat} (G:i<r) {d:bJ} (J:Cy d):AL k r (s.set i ((s.getD i []).set j d)):=by refine⟨by rw[zT];exact h.len,λq u=> ?_,λq c=> ?_⟩;{rw[Tx];split;{rw[zT];exact h.row i G};{exact h.row q u}};{rw[Tx];split;{rw[qd7];split;{exact J};{exact h.cy i c}};{exact h.cy q c}}
def AL.snoc {k r:Nat} {s:List (List bJ)} (h:AL k r s):AL k (r+1) (s++[List.replicate k fP]):=by have hl:=h.len;have u: ∀i,(s++[List.replicate k fP]).getD i []=if i<r then s.getD i []else if i=r then List.replicate k fP else []:=λi=>by{simp only[List.getD_eq_getElem?_getD];by_cases c:i<r;{rw[iP c,List.getElem?_append_left O]};{rw[af c,List.getElem?_append_right O];by_cases d:i=r;{rw[iP d,show i-s.length=0 by omega];rfl};{rw[af d,List.getElem?_eq_none (by rw[zL];omega)];rfl}}};refine⟨by rw[zG,hl];rfl,λi J=> ?_,λi j=> ?_⟩;{rw[u];by_cases c:i<r;{rw[iP c];exact h.row i c};{rw[af c,iP O,zI]}};{rw[u];split;{exact h.cy i j};{split;{exact M6 (λd G=>by rw[(ML.1 G).2];exact Nd) j};{exact Nd}}}
section
variable {m:Nat} (hm:5000000000<=m) {n:Nat} (hn:n<=4) {S I V:LI} (hM:MV n n S I V) (hV:UL V) {o:LI} (hol:o.length=n) (hor: ∀i,i<o.length->0<=o.getD i 0/\o.getD i 0<(o.length:Int))
include hm hn hM hV hol hor
theorem Ru {i j:Int} (hi:0<=i/\i<(n:Int)) (hj:0<=j/\j<(n:Int)): ∃c,DM m (n:Int) (n:Int) S I V o i j=some (c,(),(),(),(),())/\Cn c:=by have h1:=hor i.toNat O;have h2:=hor j.toNat O;obtain⟨a,J⟩: ∃a:Nat,o.getD i.toNat 0=(a:Int):=⟨(o.getD i.toNat 0).toNat,O⟩;obtain⟨b,G⟩: ∃b:Nat,o.getD j.toNat 0=(b:Int):=⟨(o.getD j.toNat 0).toNat,O⟩;have Q:(if(b:Int)>(a:Int)then(b:Int)else(a:Int))=((max a b:Nat):Int):=by{split<;>omega};have K:(if(b:Int)<(a:Int)then(b:Int)else(a:Int))=((min a b:Nat):Int):=by{split<;>omega};obtain⟨u,_⟩:=Az hM hV (i:=max a b) (j:=min a b) O;rw[DM,iP O,iP O,J,G,Q,K,AR O hM O,bS];dsimp only;rw[vN O u];exact⟨_,rfl,A0 _⟩
variable {l:List sy} {f:Nat} (hf:f<l.length) (left:List Lt) {R:LI} (hR:d8 n R) (hRl:R.length<=200)
include hf hR hRl
theorem AI (K x1:Int) (Q:LI) (J:List (List bJ)) {i:Nat} (hi:i<R.length): ∀(N j:Nat) (u:List (List bJ)),R.length-j<N->AL R.length (i+1) u->
 ∃G,lR m N o l (f:Int) left (n:Int) (n:Int) S I V Q K J R x1 u (R.length:Int) (i:Int) (j:Int)=some (.inl (o,l,(f:Int),left,((n:Int),(n:Int),S,I,V,()),(Q,K,J,()),(R,x1,G,()),(R.length:Int),(i:Int),()))/\AL R.length (i+1) G
 |0,j,u,h,_=>absurd h (zA _)
 |N+1,j,u,h,hs=>by rw[lR,bQ];by_cases hj:j<R.length;{have c1:(0:Int)<=(i:Int)/\(i:Int)<(R.length:Int):=O;have c2:(0:Int)<=(j:Int)/\(j:Int)<(R.length:Int):=O;have c3:(0:Int)<=(f:Int)/\(f:Int)<(l.length:Int):=O;have a1:=hs.len;have a2:=hs.row i O;have wj:wI ((j:Int)+1)=((j+1:Nat):Int):=ax O;have ih:=AI K x1 Q J hi N (j+1) u O hs;rw[iP O,iP c1,iP c2,iP c3,bQ,wj,iP c3];simp only[bQ,iP c1,iP c2,zH,tN];generalize (if R.getD j 0<R.getD i 0 then R.getD j 0 else R.getD i 0)=mn;split;{split;{obtain⟨c,e1,g1⟩:=Ru hm hn hM hV hol hor (hR i hi) (hR j hj);rw[iP O,e1,bS,iP O];exact AI K x1 Q J hi N (j+1) _ O (hs.set O (Sx g1))};{exact ih}};{exact ih}};{rw[af O];exact⟨u,rfl,hs⟩}
theorem Ip (K x1:Int) (Q:LI) (J:List (List bJ)): ∀(N i:Nat) (G:List (List bJ)),R.length-i<N->i<=R.length->AL R.length i G->
 ∃u,qI m N o l (f:Int) left (n:Int) (n:Int) S I V Q K J R x1 G (R.length:Int) (i:Int)=some (.inl (l,(f:Int),left,(Q,K,J,()),(R,x1,u,()),()))/\Sq R.length u
 |0,j,G,h,_,_=>absurd h (zA _)
 |N+1,i,G,h,a0,hs=>by rw[qI,bQ];by_cases hi:i<R.length;{have a1:=hs.len;obtain⟨u,e1,e2⟩:=AI hm hn hM hV hol hor hf left hR hRl K x1 Q J hi m 0 _ O hs.snoc;rw[nZ]at e1;rw[iP O,iP O,iP (by rw[zL];omega),tN,e1,bS];dsimp only;rw[show wI ((i:Int)+1)=((i+1:Nat):Int)from ax O];exact Ip K x1 Q J N (i+1) u O O e2};{have:i=R.length:=O;subst this;rw[af O];exact⟨G,rfl,hs.sq⟩}
end
section
variable {m:Nat} (hm:5000000000<=m) {n:Nat} {l:List sy} (hl4:l.length<=4) {f:Nat} (hf:f<l.length) (left:List Lt) {R:LI} (hRl:R.length<=200)
include hm hl4 hf hRl
theorem Im (t1 x1 K:Int) (t0:LI) (Q:List (List bJ)) (c:Nat) {Y:LI} (hY: ∀i,i<Y.length->sM R (Y.getD i 0)) (a0:Y.length<=200) {ys:List (List bJ)} (u:Sq Y.length ys) {i:Nat} (hi:i<Y.length): ∀(N j:Nat) (G:List (List bJ)),Y.length-j<N->Sq R.length G->
 ∃J,qG m N l (f:Int) left t0 t1 Q R x1 G (c:Int) Y K ys (i:Int) (j:Int)=some (.inl (l,(f:Int),left,(t0,t1,Q,()),(R,x1,J,()),(c:Int),(Y,K,ys,()),(i:Int),()))/\Sq R.length J
 |0,j,G,h,_=>absurd h (zA _)
 |N+1,j,G,h,hs=>by rw[qG,bQ];by_cases hj:j<Y.length;{obtain⟨p,e1,p1⟩: ∃p:Nat,kc m R (Y.getD i 0)=some ((p:Int),(),(),())/\p<R.length:=by{rcases VR hm (rows:=R) O (Y.getD i 0)with⟨r,e,h1,h2⟩|⟨e,h2⟩;{exact⟨r,e,h1⟩};{obtain⟨j,a,b⟩:=hY i hi;exact absurd b (h2 j a)}};obtain⟨q,e2,q1⟩: ∃p:Nat,kc m R (Y.getD j 0)=some ((p:Int),(),(),())/\p<R.length:=by{rcases VR hm (rows:=R) O (Y.getD j 0)with⟨r,e,h1,h2⟩|⟨e,h2⟩;{exact⟨r,e,h1⟩};{obtain⟨k,a,b⟩:=hY j hj;exact absurd b (h2 k a)}};have a1:=hs.len;have a2:=hs.row p p1;have b1:=u.len;have b2:=u.row i hi;obtain⟨c,e3,g3⟩:=EP hm (hs.cy p q) (u.cy i j);unfold pz at e3;dsimp only at e3;have c2:(0:Int)<=(q:Int)/\(q:Int)<((G.getD p []).length:Int):=O;rw[iP O,iP O,tN,tN,e1,bS,iP O,e2,bS];dsimp only;rw[iP O,iP O,tN,tN,iP c2,iP O,iP O,e3,bS,iP c2,show wI ((j:Int)+1)=((j+1:Nat):Int)from ax O];exact Im t1 x1 K t0 Q _ hY a0 u hi N (j+1) _ O (hs.set p1 (Sx g3))};{rw[af O];exact⟨G,rfl,hs⟩}
theorem Io (t1 x1 y1:Int) (t0:LI) (Q:List (List bJ)) (c:Nat) {Y:LI} (hY: ∀i,i<Y.length->sM R (Y.getD i 0)) (K:Y.length<=200) {ys:List (List bJ)} (J:Sq Y.length ys): ∀(N i:Nat) (G:List (List bJ)),Y.length-i<N->Sq R.length G->
 ∃u,qH m N l (f:Int) left t0 t1 Q R x1 G (c:Int) Y y1 ys (i:Int)=some (.inl (l,(f:Int),left,(t0,t1,Q,()),(R,x1,u,()),(c:Int),()))/\Sq R.length u
 |0,j,G,h,_=>absurd h (zA _)
 |N+1,i,G,h,hs=>by rw[qH,bQ];by_cases hi:i<Y.length;{obtain⟨u,e1,e2⟩:=Im hm hl4 hf left hRl t1 x1 y1 t0 Q c hY K J hi m 0 G O hs;rw[nZ]at e1;rw[iP O,e1,bS];dsimp only;rw[show wI ((i:Int)+1)=((i+1:Nat):Int)from ax O];exact Io t1 x1 y1 t0 Q c hY K J N (i+1) u O e2};{rw[af O];exact⟨G,rfl,hs⟩}
theorem AH (a0:left.length=f) (hc: ∀c,c<f->(l.getD c ((0:Int),((0:Int),(([]:LI),(0:Int))))).2.2.2=(f:Int)->Sq (left.getD c (([]:LI),((0:Int),([]:List (List bJ))))).1.length (left.getD c (([]:LI),((0:Int),([]:List (List bJ))))).2.2/\(left.getD c (([]:LI),((0:Int),([]:List (List bJ))))).1.length<=200/\ ∀i,i<(left.getD c (([]:LI),((0:Int),([]:List (List bJ))))).1.length->sM R ((left.getD c (([]:LI),((0:Int),([]:List (List bJ))))).1.getD i 0)) (K x1:Int) (Q:LI) (J:List (List bJ)): ∀(N c:Nat) (G:List (List bJ)),f-c<N->Sq R.length G->
 ∃u,oA m N l (f:Int) left Q K J R x1 G (c:Int)=some (.inl (left,(Q,K,J,()),(R,x1,u,()),()))/\Sq R.length u
 |0,j,G,h,_=>absurd h (zA _)
 |N+1,c,G,h,hs=>by rw[oA,bQ];by_cases b0:c<f;{have wc:wI ((c:Int)+1)=((c+1:Nat):Int):=ax O;rw[iP O,iP O,tN,aN,wc,zH];by_cases e:(l.getD c ((0:Int),((0:Int),(([]:LI),(0:Int))))).2.2.2=(f:Int);{obtain⟨g1,g2,g3⟩:=hc c b0 e;obtain⟨u,e1,e2⟩:=Io hm hl4 hf left hRl K x1 (left.getD c (([]:LI),((0:Int),([]:List (List bJ))))).2.1 Q J c g3 g2 g1 m 0 G O hs;rw[nZ]at e1;rw[iP e,iP O,e1,bS];dsimp only;rw[wc];exact AH a0 hc K x1 Q J N (c+1) u O e2};{rw[af e];exact AH a0 hc K x1 Q J N (c+1) G O hs}};{rw[af O];exact⟨G,rfl,hs⟩}
end
end Go.Vs.F
set_option maxRecDepth 100000
namespace Go.Vs.F
abbrev Lr:=LI×LI×LI×List LI
structure Pv (n:Nat) (p:Lr):Prop where
 w:p.1.length=1\/p.1.length=2
 rng:d8 n p.1
 dl:p.2.1.length<=3
 du:UL p.2.1
 rl:p.2.2.1.length<=40
 rr:d8 n p.2.2.1
 pl:PL p.1.length p.2.2.1.length 0 p.2.2.2
def cP:List Lr->Nat
 |[]=>0
 |p::P=>p.1.length+cP P
def VC {P Q:List Lr}:cP (P++Q)=cP P+cP Q:=by induction P with|nil=>simp[cP]|cons p P u=>{rw[AY,cP,cP,u];omega}
def Fo {n:Nat} {P:List Lr} (h: ∀p∈P,Pv n p):P.length<=cP P:=by induction P with|nil=>exact zJ _|cons p P u=>{have:=(h p mS).w;have:=u λq G=>h q (mT G);rw[cP,Lu];omega}
def d8.at {n:Nat} {rows:LI} (h:d8 n rows) {full:Int} (hf:full<=(rows.length:Int)) {A:LI} (hA:gH full A):d8 n (kt A rows):=λi u=>by unfold kt at u⊢;rw[zh]at u;have g:=hA.get u;rw[show(A.map λa=>rows.getD a.toNat 0).getD i 0=rows.getD (A.getD i 0).toNat 0 by simp[List.getD,u]];exact h _ O
def Fr.elim {n:Nat} {P:Int->Prop} {rows:LI} {full:Int} {s:List (List bJ)} (h:Fr n P rows full s) {A:LI} (hA:gH full A) {Q:List (List bJ)} (hs:Sq (bz A rows rows.length).length Q):
 Fr n P (bz A rows rows.length) (full-(A.length:Int)) Q/\d8 n (bz A rows rows.length)/\(bz A rows rows.length).length+A.length=rows.length:=by have h1:=h.fullr;have h2:=h.len;have h0:=h.full0;have hc:=qjd hA (t:=rows.length) h1;have hl:(bz A rows rows.length).length=(keep A rows.length).length:=by{unfold bz;rw[zh]};have hg: ∀i,i<(keep A rows.length).length->(bz A rows rows.length).getD i 0=rows.getD ((keep A rows.length).getD i 0) 0:=λi G=>by{unfold bz;simp[List.getD,G]};have J: ∀i,i<(keep A rows.length).length->(keep A rows.length).getD i 0<rows.length:=λi G=>qht (A:=A) (by simp[List.getD,G]);have hr:d8 n (bz A rows rows.length):=λi G=>by{rw[hl]at G;rw[hg i G];exact h.rng _ (J i G)};have a0:(A.length:Int)<=full:=by{cases hA with| @one p hp=>{show(1:Int)<=full;omega}| @two p r h3 h4 h5=>{show(2:Int)<=full;omega}};refine⟨⟨O,O,O,hr,λi K u=> ?_,hs⟩,hr,O⟩;rw[hl]at u;rw[hg i u];obtain⟨g1,g2⟩:=qp9 h0 hA h1 K u;exact h.rest _ g1 g2
section
variable {m:Nat} (hm:5000000000<=m) {n:Nat} (hn:n<=4) {S I V:LI} (hM:MV n n S I V) (hV:UL V) {o:LI} (hol:o.length=n) (hor: ∀i,i<o.length->0<=o.getD i 0/\o.getD i 0<(o.length:Int)) {l:List sy} (hF:X2 n l)
include hm hn hM hV hol hor hF
theorem qpo {f:Nat} (hf:f<l.length) {left:List Lt} (hL:LF n l f left):
 ∃rows full s,TV m (n:Int) (n:Int) S I V o l (f:Int) left=some ((rows,full,s,()),(),(),(),(),left,())/\Fr n (PF l f) rows full s/\full<=4*2^f:=by have hl4:=hF.len;obtain⟨g1,g2,g3,g4,g5⟩:=hF.row f hf;have hp:=lH (c:=f) O;obtain⟨R0,e0,a0,b0,c0⟩:=AK hm hn hF hf hL (n:Int) (n:Int) 0 0 o S I V [] [] [] m 0 [] O O (λi G=>absurd G (zA _)) (by show(0:Int)<=BF 0;decide) (λc' J=>absurd J (zA _));rw[nZ]at e0;obtain⟨K,e1,a1,b1,c1,d1⟩:=Iq hm hn hF hf hL (n:Int) (n:Int) 0 0 o S I V [] [] [] m (l.getD f ((0:Int),((0:Int),(([]:LI),(0:Int))))).1.toNat R0 O O O a0 O;rw[show(((l.getD f ((0:Int),((0:Int),(([]:LI),(0:Int))))).1.toNat:Nat):Int)=(l.getD f ((0:Int),((0:Int),(([]:LI),(0:Int))))).1 by omega]at e1 d1;have h0:BF f+4=4*2^f:=by{unfold BF;omega};obtain⟨R2,e2,a2,b2,c2,d2,k2,j2⟩:=AJ hm hn hF hf hL (n:Int) (n:Int) 0 (K.length:Int) o S I V [] [] [] (F:=K.length) O m 0 K O O a1 (zJ _) O (λi h1 h2=>absurd h2 O);rw[nZ]at e2;have d0: ∀c,c<f->(l.getD c ((0:Int),((0:Int),(([]:LI),(0:Int))))).2.2.2=(f:Int)->Sq (left.getD c (([]:LI),((0:Int),([]:List (List bJ))))).1.length (left.getD c (([]:LI),((0:Int),([]:List (List bJ))))).2.2/\(left.getD c (([]:LI),((0:Int),([]:List (List bJ))))).1.length<=200/\ ∀i,i<(left.getD c (([]:LI),((0:Int),([]:List (List bJ))))).1.length->sM R2 ((left.getD c (([]:LI),((0:Int),([]:List (List bJ))))).1.getD i 0):=λc J u=>by{have fr:=hL.fr c J;have sm:=hL.sm c J;have g0:=lH (c:=c) O;have fl:=fr.len;refine⟨fr.sq,O,λi G=> ?_⟩;by_cases q:(i:Int)<(left.getD c (([]:LI),((0:Int),([]:List (List bJ))))).2.1;{exact k2 _ (c1 _ (c0 c J u i q G))};{have hP:=fr.rest i O G;rcases hF.par c f J hf u _ hP with⟨q1,Q⟩|⟨⟨j,q1,Q⟩,q3⟩;{exact k2 _ (d1 _ q1 Q)};{have:=j2 j (oX _) q1 (by rw[Q];exact q3);rw[Q]at this;exact this}}};obtain⟨x2,e3,s3⟩:=Ip hm hn hM hV hol hor hf left a2 O 0 (K.length:Int) [] [] m 0 [] O O ⟨rfl,λi G=>absurd G (zA _),λi j=>Nd⟩;rw[nZ]at e3;obtain⟨x3,e4,s4⟩:=AH hm hl4 hf left O hL.len d0 0 (K.length:Int) [] [] m 0 x2 O s3;rw[nZ]at e4;refine⟨R2,(K.length:Int),x3,?_,⟨O,O,O,a2,λi h1 h2=>d2 i O h2,s4⟩,O⟩;rw[TV,e0,bS];dsimp only;rw[iP O,tN,e1,bS];dsimp only;rw[e2,bS];dsimp only;rw[e3,bS];dsimp only;rw[e4];rfl
omit hn hM hV hol hor hF in
theorem H7 (a0 a1 K i0 f:Int) (o a2 a3 a4 h0 g0 e0 d0 c0 b0:LI) (l:List sy) (left:List Lt) {Q:Int->Prop}: ∀(N:Nat) (P:List Lr) (rows:LI) (full:Int) (s:List (List bJ)),full.toNat+1<N->Fr n Q rows full s->full<=32->(∀p∈P,Pv n p)->P.length<=1000-full.toNat->
 (∃r,iu m N o l a0 a1 a2 a3 a4 h0 g0 e0 d0 c0 b0 K left P i0 false f rows full s=some (.inl r)/\r.2.2.2.2.2.2.2.1=true)\/
 (∃P' G u s',iu m N o l a0 a1 a2 a3 a4 h0 g0 e0 d0 c0 b0 K left P i0 false f rows full s=some (.inl (o,l,(a0,a1,a2,a3,a4,()),(h0,g0,e0,d0,c0,b0,K,()),left,P',i0,false,f,(G,u,s',()),()))/\
   Fr n Q G u s'/\u<=full/\(∀p∈P',Pv n p)/\(cP P':Int)+u<=cP P+full)
 |0,P,rows,full,s,h,_,_,_,_=>absurd h (zA _)
 |N+1,P,rows,full,s,h,J,t0,hP,s0=>by have f0:=J.full0;have f1:=J.fullr;have f2:=J.len;obtain⟨A,ok,e1,hA⟩:=qm3 hm (rows:=rows) O (x1:=full) f1 J.sq;rw[iu,show(!false)=true from rfl,cond_true,e1,bS];dsimp only;rcases hA with rfl|⟨rfl,hA⟩;{cases ok with|false=>exact .inl ⟨_,rfl,rfl⟩|true=>exact .inr ⟨P,rows,full,s,rfl,J,O,hP,O⟩};{have m0:=hA.len;obtain⟨r,e2,hr⟩:=qus hm (rows:=rows) O f1 J.sq hA full;rw[show(!true)=false from rfl,cond_false,aA,af O,e2,bS];dsimp only;rcases hr with hr|⟨y2,d,L,rfl,s2,d1,d2,d3⟩;{rw[hr,show(!false)=true from rfl,cond_true,iP (by rw[zL];omega)];obtain⟨N,rfl⟩: ∃k,N=k+1:=⟨N-1,O⟩;rw[iu];exact .inl ⟨_,rfl,rfl⟩};{obtain⟨q1,q2,q3⟩:=J.elim hA s2;have k0:Pv n (kt A rows,d,bz A rows rows.length,L):=by{have j0:(kt A rows).length=A.length:=by{unfold kt;rw[zh]};refine⟨by rw[j0];exact m0,d8.at J.rng f1 hA,by show d.length<=3;omega,d2,by show(bz A rows rows.length).length<=40;omega,q2,by rw[j0];exact d3⟩};have r0:=q1.full0;have hw:wI (full-(A.length:Int))=full-(A.length:Int):=by{rw[wQ,wi O O]};have q0: ∀p∈P++[(kt A rows,d,bz A rows rows.length,L)],Pv n p:=λp hp=>by{rcases zX.1 hp with hp|hp;{exact hP p hp};{rw[zC.1 hp];exact k0}};dsimp only;rw[show(!true)=false from rfl,cond_false,iP (by rw[zL];omega),hw];rcases H7 a0 a1 K i0 f o a2 a3 a4 h0 g0 e0 d0 c0 b0 l left N (P++[(kt A rows,d,bz A rows rows.length,L)]) (bz A rows rows.length) (full-(A.length:Int)) y2 O q1 O q0 (by rw[zG,zL];omega)with h1|⟨P',G,u,s',h1,h2,h3,h4,h5⟩;{exact .inl h1};{refine .inr ⟨P',G,u,s',h1,h2,O,h4,?_⟩;have j0:(kt A rows).length=A.length:=by{unfold kt;rw[zh]};have l0:cP (P++[(kt A rows,d,bz A rows rows.length,L)])=cP P+A.length:=by{rw[VC];simp only[cP,j0];omega};rw[l0]at h5;omega}}}
theorem H8 (J:Int) (d0 c0 b0 a0 Q K:LI): ∀(N f:Nat) (left:List Lt) (P:List Lr) (G:Int),l.length-f<N->f<=l.length->LF n l f left->(∀p∈P,Pv n p)->(cP P:Int)<=BF f->
 (∃e,oJ m N o l (n:Int) (n:Int) S I V d0 c0 b0 a0 Q K J left P G false (f:Int)=some (.inl (([],[],[],[],[],[],0,()),e,())))\/
 (∃P' t,oJ m N o l (n:Int) (n:Int) S I V d0 c0 b0 a0 Q K J left P G false (f:Int)=some (.inr (.inl (o,(d0,c0,b0,a0,Q,K,J,()),P',t,())))/\(∀p∈P',Pv n p)/\cP P'<=60)
 |0,f,left,P,G,h,_,_,_,_=>absurd h (zA _)
 |N+1,f,left,P,G,h,i0,hL,hP,hc=>by have hl4:=hF.len;rw[oJ,bQ];by_cases hf:f<l.length;{have hp:=lH (c:=f) O;have m0:=qoz (c:=f);have q0:(2:Int)^f<=8:=by{have:f=0\/f=1\/f=2\/f=3:=O;rcases this with rfl|rfl|rfl|rfl<;>decide};have l0:BF f<=28:=by{unfold BF;omega};have k0:=Fo hP;obtain⟨rows,full,s,e1,g1,g2⟩:=qpo hm hn hM hV hol hor hF hf hL;have f0:=g1.full0;have f2:=g1.len;rw[iP O,e1,bS,bQ];dsimp only;rw[af O];rcases H7 hm (n:Int) (n:Int) J G (f:Int) o S I V d0 c0 b0 a0 Q K l left m P rows full s O g1 O hP O with⟨r,e2,e3⟩|⟨P',e0,u,s',e2,q1,q2,q3,q4⟩;{rw[e2,bS];dsimp only;rw[e3];exact .inl ⟨_,rfl⟩};{have j0:=q1.full0;have g0:=hL.len;rw[e2,bS];dsimp only;rw[cond_false,iP (by rw[zL];omega),show wI ((f:Int)+1)=((f+1:Nat):Int)from ax O];refine H8 J d0 c0 b0 a0 Q K N (f+1) _ P' _ O O ?_ q3 O;have hg: ∀c,(left++[(e0,u,s')]).getD c (([]:LI),((0:Int),([]:List (List bJ))))=if c<f then left.getD c (([]:LI),((0:Int),([]:List (List bJ))))else if c=f then(e0,u,s')else(([]:LI),((0:Int),([]:List (List bJ)))):=λc=>by{simp only[List.getD_eq_getElem?_getD];by_cases a:c<f;{rw[iP a,List.getElem?_append_left O]};{rw[af a,List.getElem?_append_right O];by_cases b:c=f;{rw[iP b,show c-left.length=0 by omega];rfl};{rw[af b,List.getElem?_eq_none (by rw[zL];omega)];rfl}}};refine⟨by rw[zG,g0];rfl,λc h0=> ?_,λc h0=> ?_⟩;{rw[hg];by_cases a:c<f;{rw[iP a];exact hL.fr c a};{have:c=f:=O;subst this;rw[af a,iP rfl];exact q1}};{rw[hg];by_cases a:c<f;{rw[iP a];exact hL.sm c a};{have:c=f:=O;subst this;rw[af a,iP rfl];show u<=_;omega}}}};{have e:f=l.length:=O;rw[af O];refine .inr ⟨P,G,rfl,hP,?_⟩;have hp:=lH (c:=f) O;unfold BF at hc;omega}
end
end Go.Vs.F
set_option maxRecDepth 100000
namespace Go.Vs.F
def s6 (X:LI) (c:Nat) (p:Int):LI:=X.take c++[p]++(X.drop c).take (X.length-c)
def qhw {X:LI} {c:Nat} (h:c<=X.length) {p:Int}:(s6 X c p).length=X.length+1:=by unfold s6;simp only[zG,zU,ix,zL];omega
def qvl {X:LI} {c:Nat} {p:Int} (O:UL X) (J:cd p):UL (s6 X c p):=by have h: ∀x∈s6 X c p,cd x:=λx hx=>by{have hm: ∀y∈X,cd y:=λy G=>by{obtain⟨j,u,rfl⟩:=nz G;have:=O j u;rwa [show X.getD j 0=X[j] by simp[List.getD,u]]at this};unfold s6 at hx;rcases zX.1 hx with hx|hx;{rcases zX.1 hx with hx|hx;{exact hm x (nB hx)};{rw[zC.1 hx];exact J}};{exact hm x (vA (nB hx))}};exact λi K=>h _ (Xj K)
section
variable {m:Nat} (hm:5000000000<=m) {n:Nat} (hn:n<=4) {P:List Lr} (hP: ∀p∈P,Pv n p) (hPc:cP P<=60)
include hm hn hP hPc
theorem AN {b:Nat} (u:b<P.length):Pv n (P.getD b (([]:LI),(([]:LI),(([]:LI),([]:List LI))))):=hP _ (by simp[List.getD,u])
theorem Ie (c0 u b k i p:Int) (j0 i0 h0 g0 e0 d0 t7 b0 a0 Q K J G Y:LI) {X:LI} (hX:X.length<=1000): ∀(N c:Nat),X.length-c<N->c<=X.length->
 ∃c':Nat,qt m N P j0 i0 h0 g0 e0 d0 c0 t7 b0 a0 Q K J G u b k X Y i p (c:Int)=some (.inl (P,(j0,i0,h0,g0,e0,d0,c0,()),t7,(b0,a0,Q,K,J,G,u,()),b,k,X,Y,i,p,(c':Int),()))/\c'<=X.length
 |0,c,h,_=>absurd h (zA _)
 |N+1,c,h,k0=>by rw[qt,bQ];by_cases hc:c<X.length;{rw[iP O,iP O,bQ];split;{rw[show wI ((c:Int)+1)=((c+1:Nat):Int)from ax O];exact Ie c0 u b k i p j0 i0 h0 g0 e0 d0 t7 b0 a0 Q K J G Y hX N (c+1) O O};{exact⟨c,rfl,k0⟩}};{rw[af O];exact⟨c,rfl,k0⟩}
theorem If (d0 G:Int) (k0 j0 i0 h0 g0 e0 c0 b0 a0 Q K J:LI) {t7:LI} (h7:t7.length=n) {b:Nat} (hb:b<P.length) {k:Nat} (hk:k<(P.getD b (([]:LI),(([]:LI),(([]:LI),([]:List LI))))).1.length): ∀(N i:Nat) (X Y:LI),(P.getD b (([]:LI),(([]:LI),(([]:LI),([]:List LI))))).2.2.1.length-i<N->i<=(P.getD b (([]:LI),(([]:LI),(([]:LI),([]:List LI))))).2.2.1.length->X.length=i->Y.length=i->UL Y->
 ∃X' Y',qu m N P k0 j0 i0 h0 g0 e0 d0 t7 c0 b0 a0 Q K J G (b:Int) (k:Int) X Y (i:Int)=some (.inl (P,(k0,j0,i0,h0,g0,e0,d0,()),t7,(c0,b0,a0,Q,K,J,G,()),(b:Int),(k:Int),X',Y',()))/\X'.length=(P.getD b (([]:LI),(([]:LI),(([]:LI),([]:List LI))))).2.2.1.length/\Y'.length=(P.getD b (([]:LI),(([]:LI),(([]:LI),([]:List LI))))).2.2.1.length/\UL Y'
 |0,i,X,Y,h,_,_,_,_=>absurd h (zA _)
 |N+1,i,X,Y,h,s0,hX,hY,hU=>by have hp:=AN hm hn hP hPc hb;have t0:=Fo hP;have l0:(0:Int)<=(b:Int)/\(b:Int)<(P.length:Int):=O;have q0:=hp.rl;have r0:=hp.pl.len;rw[qu,iP l0,tN,bQ];by_cases hi:i<(P.getD b (([]:LI),(([]:LI),(([]:LI),([]:List LI))))).2.2.1.length;{have m0:(0:Int)<=(i:Int)/\(i:Int)<((P.getD b (([]:LI),(([]:LI),(([]:LI),([]:List LI))))).2.2.1.length:Int):=O;have hr:=hp.rr i hi;obtain⟨c1,c2⟩:=hp.pl.col k hk;rw[af O]at c1;obtain⟨c,e1,g1⟩:=Ie hm hn hP hPc d0 G (b:Int) (k:Int) (i:Int) (t7.getD ((P.getD b (([]:LI),(([]:LI),(([]:LI),([]:List LI))))).2.2.1.getD i 0).toNat 0) k0 j0 i0 h0 g0 e0 t7 c0 b0 a0 Q K J Y (X:=X) O m 0 O O;rw[nZ]at e1;have u:=c2 i O;rw[iP O,iP l0,iP m0,tN,iP O,zH,e1,bS];dsimp only;simp only[iX,Mz,vE,tN,zH];rw[iP O,iP (by simp only[LG,zU];omega),iP (by simp only[zU,zL];omega),iP O,iP (by simp only[zG,zU,ix,zL];omega),iP O,iP (by simp only[LG,zU];omega),iP l0,iP O,iP O,iP (by simp only[zU,zL];omega),iP O,iP (by simp only[zG,zU,ix,zL];omega),show wI ((i:Int)+1)=((i+1:Nat):Int)from ax O];have l1:=qhw (X:=X) (c:=c) g1 (p:=t7.getD ((P.getD b (([]:LI),(([]:LI),(([]:LI),([]:List LI))))).2.2.1.getD i 0).toNat 0);have l2:=qhw (X:=Y) (c:=c) O (p:=((P.getD b (([]:LI),(([]:LI),(([]:LI),([]:List LI))))).2.2.2.getD k []).getD i 0);have l3:=qvl (X:=Y) (c:=c) hU u;exact If d0 G k0 j0 i0 h0 g0 e0 c0 b0 a0 Q K J h7 hb hk N (i+1) (s6 X c (t7.getD ((P.getD b (([]:LI),(([]:LI),(([]:LI),([]:List LI))))).2.2.1.getD i 0).toNat 0)) (s6 Y c (((P.getD b (([]:LI),(([]:LI),(([]:LI),([]:List LI))))).2.2.2.getD k []).getD i 0)) O O O O l3};{rw[af O];exact⟨X,Y,rfl,O,O,hU⟩}
theorem Ig (Q u:Int) (g0 e0 d0 c0 b0 a0 K J G:LI) {t7:LI} (h7:t7.length=n) {b:Nat} (hb:b<P.length) {C:Nat} (hC:C<=60): ∀(N k:Nat) (S I V:LI),(P.getD b (([]:LI),(([]:LI),(([]:LI),([]:List LI))))).1.length-k<N->k<=(P.getD b (([]:LI),(([]:LI),(([]:LI),([]:List LI))))).1.length->S.length=1+C+k->I.length<=40*(C+k)->V.length=I.length->UL V->
 ∃S' I' V',qv m N P g0 e0 d0 c0 b0 a0 Q t7 K J G S I V u (b:Int) (k:Int)=some (.inl (P,(g0,e0,d0,c0,b0,a0,Q,()),t7,(K,J,G,S',I',V',u,()),(b:Int),()))/\S'.length=1+C+(P.getD b (([]:LI),(([]:LI),(([]:LI),([]:List LI))))).1.length/\I'.length<=40*(C+(P.getD b (([]:LI),(([]:LI),(([]:LI),([]:List LI))))).1.length)/\V'.length=I'.length/\UL V'
 |0,k,S,I,V,h,_,_,_,_,_=>absurd h (zA _)
 |N+1,k,S,I,V,h,j0,hS,hI,hV,hU=>by have hp:=AN hm hn hP hPc hb;have k0:=Fo hP;have hw:=hp.w;have i0:=hp.rl;rw[qv,iP O,tN,bQ];by_cases hk:k<(P.getD b (([]:LI),(([]:LI),(([]:LI),([]:List LI))))).1.length;{obtain⟨X,Y,e1,x1,x2,x3⟩:=If hm hn hP hPc Q u g0 e0 d0 c0 b0 a0 K J G S I V h7 hb hk m 0 [] [] O O rfl rfl (λi hi=>absurd hi (zA _));rw[nZ]at e1;have h0:UL (V++Y):=λi hi=>by{rw[zG]at hi;by_cases c:i<V.length;{rw[jL c];exact hU i c};{rw[lP O];exact x3 _ O}};rw[iP O,e1,bS];dsimp only;rw[iP O,iP O,iP (by rw[zL];omega),show wI ((k:Int)+1)=((k+1:Nat):Int)from ax O];exact Ig Q u g0 e0 d0 c0 b0 a0 K J G h7 hb hC N (k+1) _ _ _ O O (by rw[zG,zL];omega) (by rw[zG];omega) (by rw[zG,zG];omega) h0};{have e:k=(P.getD b (([]:LI),(([]:LI),(([]:LI),([]:List LI))))).1.length:=O;rw[af O];exact⟨S,I,V,rfl,O,by rw[<-e];exact hI,hV,hU⟩}
theorem qd0 {b:Nat} (u:b<P.length):cP (P.take (b+1))=cP (P.take b)+(P.getD b (([]:LI),(([]:LI),(([]:LI),([]:List LI))))).1.length/\cP (P.take (b+1))<=cP P:=by have e:P.take (b+1)=P.take b++[P.getD b (([]:LI),(([]:LI),(([]:LI),([]:List LI))))]:=by{rw[MK u];simp[List.getD,u]};have G:cP (P.take (b+1))=cP (P.take b)+(P.getD b (([]:LI),(([]:LI),(([]:LI),([]:List LI))))).1.length:=by{rw[e,VC];simp only[cP];omega};refine⟨G,?_⟩;have:cP P=cP (P.take (b+1))+cP (P.drop (b+1)):=by{rw[<-VC,vD]};omega
theorem Ih (Q u:Int) (g0 e0 d0 c0 b0 a0 K J G:LI) {t7:LI} (h7:t7.length=n): ∀(N b:Nat) (S I V:LI),P.length-b<N->b<=P.length->S.length=1+cP (P.take b)->I.length<=40*cP (P.take b)->V.length=I.length->UL V->
 ∃S' I' V',qA m N P g0 e0 d0 c0 b0 a0 Q t7 K J G S I V u (b:Int)=some (.inl ((g0,e0,d0,c0,b0,a0,Q,()),(K,J,G,S',I',V',u,()),()))/\S'.length<=61/\I'.length<=2400/\V'.length=I'.length/\UL V'
 |0,k,S,I,V,h,_,_,_,_,_=>absurd h (zA _)
 |N+1,b,S,I,V,h,i0,hS,hI,hV,hU=>by have h0:=Fo hP;rw[qA,bQ];by_cases hb:b<P.length;{obtain⟨k1,k2⟩:=qd0 hm hn hP hPc hb;obtain⟨S',I',V',e1,e2,e3,e4,e5⟩:=Ig hm hn hP hPc Q u g0 e0 d0 c0 b0 a0 K J G h7 hb (C:=cP (P.take b)) O m 0 S I V (by have:=(AN hm hn hP hPc hb).w;omega) O O O hV hU;rw[nZ]at e1;rw[iP O,e1,bS];dsimp only;rw[show wI ((b:Int)+1)=((b+1:Nat):Int)from ax O];exact Ih Q u g0 e0 d0 c0 b0 a0 K J G h7 N (b+1) S' I' V' O O O (by rw[k1];exact e3) e4 e5};{have e:b=P.length:=O;rw[e,EY]at hS hI;rw[af O];exact⟨S,I,V,rfl,O,O,hV,hU⟩}
variable {o:LI} (hol:o.length=n) (hor: ∀i,i<o.length->0<=o.getD i 0/\o.getD i 0<(o.length:Int))
include hol hor
theorem Ii (b0 u:Int) (i0 h0 g0 e0 d0 c0 a0 Q K J G:LI) {b:Nat} (hb:b<P.length) {C:Nat} (hC:C<=60): ∀(N k:Nat) (t7 F:LI),(P.getD b (([]:LI),(([]:LI),(([]:LI),([]:List LI))))).1.length-k<N->k<=(P.getD b (([]:LI),(([]:LI),(([]:LI),([]:List LI))))).1.length->t7.length=n->F.length=C+k->
 ∃k0 F',qB m N o P i0 h0 g0 e0 d0 c0 b0 t7 F a0 Q K J G u (b:Int) (k:Int)=some (.inl (o,P,(i0,h0,g0,e0,d0,c0,b0,()),k0,(F',a0,Q,K,J,G,u,()),(b:Int),()))/\k0.length=n/\F'.length=C+(P.getD b (([]:LI),(([]:LI),(([]:LI),([]:List LI))))).1.length
 |0,k,t7,F,h,_,_,_=>absurd h (zA _)
 |N+1,k,t7,F,h,m0,h7,r0=>by have hp:=AN hm hn hP hPc hb;have q0:=Fo hP;have hw:=hp.w;have j0:(0:Int)<=(b:Int)/\(b:Int)<(P.length:Int):=O;rw[qB,iP j0,tN,bQ];by_cases hk:k<(P.getD b (([]:LI),(([]:LI),(([]:LI),([]:List LI))))).1.length;{have l0:(0:Int)<=(k:Int)/\(k:Int)<((P.getD b (([]:LI),(([]:LI),(([]:LI),([]:List LI))))).1.length:Int):=O;have hr:=hp.rng k hk;rw[iP O,iP j0,iP l0,tN,iP O,iP j0,iP l0,iP O,iP (by rw[zL];omega),show wI ((k:Int)+1)=((k+1:Nat):Int)from ax O];exact Ii b0 u i0 h0 g0 e0 d0 c0 a0 Q K J G hb hC N (k+1) _ _ O O (by rw[zT];exact h7) (by rw[zG,zL];omega)};{have e:k=(P.getD b (([]:LI),(([]:LI),(([]:LI),([]:List LI))))).1.length:=O;rw[af O];exact⟨t7,F,rfl,h7,O⟩}
theorem Ij (a0 u:Int) (h0 g0 e0 d0 c0 b0 K J G:LI): ∀(N b:Nat) (t7 F Z D:LI),P.length-b<N->b<=P.length->t7.length=n->F.length=cP (P.take b)->Z.length=b->D.length<=3*b->UL D->
 ∃Q F' Z' D',qC m N o P h0 g0 e0 d0 c0 b0 a0 t7 F Z D K J G u (b:Int)=some (.inl (P,(h0,g0,e0,d0,c0,b0,a0,()),Q,(F',Z',D',K,J,G,u,()),()))/\Q.length=n/\F'.length<=60/\Z'.length<=60/\D'.length<=180/\UL D'
 |0,b,t7,F,Z,D,h,_,_,_,_,_,_=>absurd h (zA _)
 |N+1,b,t7,F,Z,D,h,r0,h7,l0,hZ,hD,hU=>by have q0:=Fo hP;rw[qC,bQ];by_cases hb:b<P.length;{obtain⟨k1,k2⟩:=qd0 hm hn hP hPc hb;have hp:=AN hm hn hP hPc hb;have hw:=hp.w;have m0:=hp.dl;have j0:=hp.du;obtain⟨Q,F',e1,e2,e3⟩:=Ii hm hn hP hPc hol hor a0 u h0 g0 e0 d0 c0 b0 Z D K J G hb (C:=cP (P.take b)) O m 0 t7 F O O h7 O;rw[nZ]at e1;have i0:(0:Int)<=(b:Int)/\(b:Int)<(P.length:Int):=O;have k0:UL (D++(P.getD b (([]:LI),(([]:LI),(([]:LI),([]:List LI))))).2.1):=λi hi=>by{rw[zG]at hi;by_cases c:i<D.length;{rw[jL c];exact hU i c};{rw[lP O];exact j0 _ O}};rw[iP O,e1,bS];dsimp only;rw[iP i0,iP (by rw[zL];omega),iP i0,tN,iP O,show wI ((b:Int)+1)=((b+1:Nat):Int)from ax O];exact Ij a0 u h0 g0 e0 d0 c0 b0 K J G N (b+1) Q F' _ _ O O e2 O (by rw[zG,zL];omega) (by rw[zG];omega) k0};{have e:b=P.length:=O;rw[e,EY]at l0;rw[af O];exact⟨t7,F,Z,D,rfl,h7,O,O,O,hU⟩}
structure SF (x:LI×LI×LI×LI×LI×LI×Int×Unit):Prop where
 f0:x.1.length<=60
 z:x.2.1.length<=60
 d:x.2.2.1.length<=180
 du:UL x.2.2.1
 s:x.2.2.2.1.length<=61
 i:x.2.2.2.2.1.length<=2400
 wl:x.2.2.2.2.2.1.length<=2400
 wu:UL x.2.2.2.2.2.1
theorem qki (t:Int): ∃x,TS m o P t=some (x,(),(),(),())/\SF x:=by obtain⟨t7,F,Z,D,J,a1,a2,a3,a4,a5⟩:=Ij hm hn hP hPc hol hor 0 t [] [] [] [] [] [] [0] [] [] m 0 (List.replicate n 0) [] [] [] (by have:=Fo hP;omega) O zI rfl rfl (by simp) (λi u=>absurd u (zA _));obtain⟨S,I,V,G,b1,Q,b3,K⟩:=Ih hm hn hP hPc 0 t [] [] [] [] [] [] F Z D a1 m 0 [0] [] [] (by have:=Fo hP;omega) O rfl (by simp) rfl (λi u=>absurd u (zA _));rw[nZ]at J G;refine⟨(F,Z,D,S,I,V,t,()),?_,⟨a2,a3,a4,a5,b1,Q,by show V.length<=2400;omega,K⟩⟩;rw[TS,iP O,hol,tN,J,bS];dsimp only;rw[G];rfl
end
end Go.Vs.F
set_option maxRecDepth 100000
namespace Go.Vs.F
def qrs:SF ([],[],[],[],[],[],0,()):=⟨oX _,oX _,oX _,λi u=>absurd u (zA _),oX _,oX _,oX _,λi u=>absurd u (zA _)⟩
section
variable {m:Nat} (hm:5000000000<=m) {n:Nat} (hn:n<=4) {S I V:LI} (hVl:V.length<=100000) (hV:UL V) {o:LI} (hol:o.length=n) (hor: ∀i,i<o.length->0<=o.getD i 0/\o.getD i 0<(o.length:Int))
include hm hn hVl hV hol hor
theorem qlj {l:List sy} (hl:FJ n l=true) {e:Int} (he:JU m (n:Int) (n:Int) S I V o l=some (e,(),(),(),())) (Q:e=0->chk (n:Int) (n:Int) S I V=0):
 ∃x J,Mt m (n:Int) (n:Int) S I V o l=some ((x,J,()),(),(),(),())/\SF x:=by
 rw[Mt,he,bS,aN];dsimp only;by_cases c:e=0
 case neg=>rw[af c];exact⟨_,_,rfl,qrs⟩
 have G:=Q c;obtain⟨r,k,e1,e2,hM,gk,_⟩:=So G
 have u:MV n n S I V:=by
  refine⟨?_,gk,G⟩;rw[show r=n by omega,show k=n by omega]at hM;exact hM
 have hF:=qve hl;rw[iP c];rcases H8 hm hn u hV hol hor hF 0 [] [] [] [] [] [] m 0 [] [] 0 (by have:=hF.len;omega) O ⟨rfl,λc h=>absurd h (zA _),λc h=>absurd h (zA _)⟩ (λp K=>by cases K) (by decide)with⟨J,h⟩|⟨P,t,h,hP,hPc⟩
 . rw[nZ]at h;rw[h];exact⟨_,_,rfl,qrs⟩
 . rw[nZ]at h;obtain⟨x,h2,hx⟩:=qki hm hn hP hPc hol hor t;rw[h,bS];dsimp only;rw[h2];exact⟨x,0,rfl,hx⟩
end
def qq7 {o:List Nat} {n:Nat} (h:o.Perm (List.range n)):(nL o).length=n/\ ∀i,i<(nL o).length->0<=(nL o).getD i 0/\(nL o).getD i 0<((nL o).length:Int):=by have hl:o.length=n:=by{rw[h.length_eq,wY]};have hL:(nL o).length=n:=by{rw[ZL,hl]};refine⟨hL,λi u=> ?_⟩;rw[hL]at u⊢;have hm:o.getD i 0∈o:=by{simp[List.getD,hl,u]};have:=ux.1 (h.mem_iff.1 hm);rw[show(nL o).getD i 0=((o.getD i 0:Nat):Int) by unfold nL;simp[List.getD,hl,u]];omega
section
variable {m:Nat} (hm:5000000000<=m) {raw:LI} (hl:raw.length<=9223372036854775807)
include hm hl
theorem qu1 (n style:Int) (d:Bool): ∃x v,cF m raw n style d=some ((x,v,()),(),(),(),(),())/\SF x/\v.length=x.1.length/\bY v:=by obtain⟨r,hr,er⟩:=Bt m n (k:=5) O O;obtain⟨S,I,V,hG,eG⟩:=q9f hm hl (R:=r) (C:=r) O style O;obtain⟨o,ho,eo⟩:=qqa hm hl (n:=r) O;obtain⟨h1,h2⟩:=qq7 ho;rw[cF,show(5:Int)=((5:Nat):Int)from rfl,er,bS];dsimp only;rw[eG,bS];dsimp only;have fin: ∀{S I V:LI},V.length<=100000->UL V-> ∃x v y5 u,KF m (r:Int) (r:Int) S I V (nL o) raw=some y5/\Mt m (r:Int) (r:Int) S I V (nL o) y5.1=some u/\u.1.1=x/\Lf m raw 30 (u.1.1.1.length:Int) style=some (v,(),(),(),(),())/\SF x/\v.length=x.1.length/\bY v:=λ{S I V} hVl hV=>by{obtain⟨l,e,Q,K,J,G⟩:=qnj hm hl (n:=r) O (S:=S) (I:=I) hVl h1 h2;obtain⟨x,e',b1,b2⟩:=qlj hm (n:=r) O hVl hV h1 h2 K J G;obtain⟨v,c1,c2,c3⟩:=qew hm hl (at0:=30) (n:=x.1.length) O (by have:=b2.f0;omega) style;exact⟨x,v,_,_,Q,b1,rfl,c1,b2,c2,c3⟩};cases d with|true=>{obtain⟨S1,I1,V1,eD,gw⟩:=qgw hm hl (n:=r) O style;have hs:r*r<=4*4:=pw O O;obtain⟨x,v,y5,u,Q,K,J,G,a5,a6,a7⟩:=fin (S:=S1) (I:=I1) (V:=V1) (by have:=gw.il;have:=gw.vl;omega) gw.u;rw[cond_true,eD,bS];dsimp only;rw[eo,bS];dsimp only;rw[Q,bS,K,bS,G,bS];subst J;exact⟨_,v,rfl,a5,a6,a7⟩}|false=>{have hs:r*r<=4*4:=pw O O;obtain⟨x,v,y5,u,Q,K,J,G,a5,a6,a7⟩:=fin (S:=S) (I:=I) (V:=V) (by have:=hG.sz;have:=hG.vl;omega) hG.fn.U;rw[cond_false,eo,bS];dsimp only;rw[Q,bS,K,bS,G,bS];subst J;exact⟨_,v,rfl,a5,a6,a7⟩}
end
end Go.Vs.F
set_option maxRecDepth 100000
namespace Go.Vs.F
section
variable {m:Nat} (hM:db<=m)
include hM
theorem qtc {x:LI×LI×LI×LI×LI×LI×Int×Unit} (hx:SF x) {st:LI} (G:UL st) (u:st.length<=1000) (s:Int):
 ∃r:ER,Mv m x.1 x.2.1 x.2.2.1 x.2.2.2.1 x.2.2.2.2.1 x.2.2.2.2.2.1 x.2.2.2.2.2.2.1 st s=some (r,(),(),(),())/\Q0 m x.1 x.2.1 x.2.2.1 x.2.2.2.1 x.2.2.2.2.1 x.2.2.2.2.2.1 x.2.2.2.2.2.2.1 st s=some (r,(),(),(),())/\AP x.1.length s r:=by have hm:=X6 hM;have h0:=hx.f0;have hz:=hx.z;have hd:=hx.d;have hs:=hx.s;have hi:=hx.i;have hw:=hx.wl;obtain⟨K,J⟩:=q9n hm (f0:=x.1) (Z:=x.2.1) (D:=x.2.2.1) (S:=x.2.2.2.1) (I:=x.2.2.2.2.1) (W:=x.2.2.2.2.2.1) (f6:=x.2.2.2.2.2.2.1) O O O O O O hx.du hx.wu;exact qpj hM O K J (λQ=>qjy hm O O O O O hx.du hx.wu O Q) G u s
theorem qto {N:Nat} (J:N<=1000) {s:Int} {r:ER} (h:AP N s r):cg m r.1.1 r.1.2.1 r.1.2.2.1 r.1.1 r.1.2.1 r.1.2.2.1=some (true,(),(),()):=by have hm:=X6 hM;rcases h with⟨h,_⟩|⟨h1,h2,h3,⟨h4,h5⟩,G,Q,K⟩;{rw[h];exact qd9 O (by simp) (by simp) (by simp) (λr u=>by cases u)};{exact qd9 O O O O λx hx=>by have:=(G x hx).2;omega}
end
def MQ {x:Int} (h:(Lit.int .u64 x).wf=true):cd x:=by simp only[Lit.wf,zM,decide_eq_true_eq]at h;exact⟨h.1,by have h2:x<=18446744073709551615:=h.2;omega⟩
def MS {t:Ty} {xs:List (aX t)} (h:T8 (.imm t) xs):xs.length<=9223372036854775807:=zf h.2 (by decide)
end Go.Vs.F
set_option maxRecDepth 100000
namespace Go.Vs.F
abbrev BC:Rq:=some (true,(),(),(),(),(),(),())
section
variable {m:Nat} (hM:db<=m)
include hM
theorem qj2 {x:Iv} (hx:SF x) {st:LI} (G:UL st) (u:st.length<=1000) (s:Int):pQ m x st s=BC:=by have hm:=X6 hM;obtain⟨r,K,J,hF⟩:=qtc hM hx G u s;have Q:=hx.f0;rw[pQ,K,bS,J,bS];dsimp only;rw[beq_self_eq_true,cond_true,qto hM O hF,bS];dsimp only;rw[cond_true,qum O];rfl
theorem ZH {x:Iv} (hx:SF x) {st:LI} (G:UL st) (u:st.length<=1000) (J:Int):M0 m x st J=BC:=by rw[M0,qj2 hM hx G u,qj2 hM hx G u];cases decide (J>2)<;>cases decide (J<=16)<;>rfl
theorem ZU {x:Iv} (hx:SF x) {st:LI} (G:UL st) (u:st.length<=1000) (J Q:Int):M1 m x st J Q=BC:=by have hm:=X6 hM;rw[M1,ZH hM hx G u,bQ];by_cases c:(x.2.1.length:Int)>0;{obtain⟨a,ha,ea⟩:=Bt m J (k:=x.2.1.length) O (by have:=hx.z;omega);obtain⟨b,hb,eb⟩:=Bt m J (k:=4) O O;have K:SF (x.1,x.2.1.set (0+(a:Int).toNat) (b:Int),x.2.2):=⟨hx.f0,by show(x.2.1.set _ _).length<=60;rw[zT];exact hx.z,hx.d,hx.du,hx.s,hx.i,hx.wl,hx.wu⟩;rw[iP c,ea,bS,show(4:Int)=((4:Nat):Int)from rfl,eb,bS];dsimp only;rw[iP O,ZH hM K G u];cases J.tmod 5==0<;>rfl};{rw[af c]}
theorem ZQ {x:Iv} (hx:SF x) {st:LI} (J:UL st) (u:st.length<=1000) {Q:Int} (h3:cd Q) (K t4:Int):R9 m x st Q K t4=BC:=by have hm:=X6 hM;rw[R9,ZU hM hx J u,bQ];by_cases c:(st.length:Int)>0;{obtain⟨a,ha,ea⟩:=Bt m K (k:=st.length) O O;have G:UL (st.set (0+(a:Int).toNat) Q):=λi hi=>by{rw[zT]at hi;rw[N2 O];split;{exact h3};{exact J i hi}};rw[iP c,ea,bS];dsimp only;rw[iP O,ZU hM hx G (by rw[zT];exact u)];cases K.tmod 2==0<;>rfl};{rw[af c]}
end
def q47 (raw:LI) (n G value steps u:Int) (hl:raw.length<=9223372036854775807) (J:cd value): ∃m,bC m raw n G value steps u=some (true,(),(),(),(),(),(),()):=by obtain⟨m,hM⟩: ∃m:Nat,db<=m:=⟨db,zJ _⟩;have hm:=X6 hM;obtain⟨x,v,e,hx,gk,K⟩:=qu1 hm hl n 0 true;have h0:=hx.f0;obtain⟨k,hk,ek⟩:=Bt m G (k:=6) O O;obtain⟨w,c1,c2,c3⟩:=qew hm hl (at0:=2) (n:=k) O O 0;refine⟨m,?_⟩;have Q:UL (List.replicate (x.1.length:Int).toNat (0:Int)):=λi hi=>by{rw[show(List.replicate (x.1.length:Int).toNat (0:Int)).getD i 0=0 by rw[List.getD,List.getElem?_replicate];split<;>rfl];exact Ff};have h1:=ZQ hM hx Q (by rw[zI];omega) J u steps;have h2:=ZQ hM hx c3.U O J u steps;rw[bC,e,bS,show(6:Int)=((6:Nat):Int)from rfl,ek,bS];dsimp only;rw[show(2:Int)=((2:Nat):Int)from rfl,c1,bS];dsimp only;rw[h1,h2,iP O];cases G.tmod 4==0<;>rfl
end Go.Vs.F
