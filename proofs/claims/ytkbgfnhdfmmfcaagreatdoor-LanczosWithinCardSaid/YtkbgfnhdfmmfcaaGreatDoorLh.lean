import Derived.Test.YtkbgfnhdfmmfcaaGreatDoorLg
import Derived.Test.YtkbgfnhdfmmfcaaGreatDoorLf
import Derived.Test.YtkbgfnhdfmmfcaaGreatDoorLe
import Derived.Test.YtkbgfnhdfmmfcaaGreatDoorVc
set_option linter.unusedVariables false
set_option linter.unusedSimpArgs false
set_option linter.unusedSectionVars false
set_option linter.defProp false
set_option maxRecDepth 100000
namespace Go.Vs.F
def Cn.both {a b:D5} (G:Cn a) (u:Cn b): ∃x y B,a=ax x B/\b=ax y B:=by obtain⟨z,e,rfl⟩:=G.mk;obtain⟨w,f,rfl⟩:=u.mk;exact⟨sc z e (min e f),sc w f (min e f),min e f,(Cw O).symm,(Cw O).symm⟩
section
variable {m:Nat} (hm:5000000000<=m)
include hm
theorem Gz {a b:D5} (G:Cn a) (u:Cn b): ∃c,oO m a.1 a.2.1 a.2.2.1 a.2.2.2.1 b.1 b.2.1 b.2.2.1 b.2.2.2.1=some (c,(),(),())/\Cn c:=by obtain⟨x,y,B,rfl,rfl⟩:=G.both u;rw[Z0 O];refine⟨_,rfl,?_⟩;split;{exact fo ..};{exact .bad}
theorem CU {a b:D5} (G:Cn a) (u:Cn b): ∃c,sX m a.1 a.2.1 a.2.2.1 a.2.2.2.1 b.1 b.2.1 b.2.2.1 b.2.2.2.1=some (c,(),(),())/\Cn c:=by obtain⟨x,y,B,rfl,rfl⟩:=G.both u;rw[ZR O];refine⟨_,rfl,?_⟩;split;{exact fo ..};{exact .bad}
theorem gF {a b:D5} (G:Cn a) (u:Cn b): ∃c,oQ m a.1 a.2.1 a.2.2.1 a.2.2.2.1 b.1 b.2.1 b.2.2.1 b.2.2.2.1=some (c,(),(),())/\Cn c:=by obtain⟨x,y,B,rfl,rfl⟩:=G.both u;rw[qso O];refine⟨_,rfl,?_⟩;split;{exact fo ..};{exact .bad}
theorem Hu {a b:D5} (G:Cn a) (u:Cn b): ∃c,kt m a.1 a.2.1 a.2.2.1 a.2.2.2.1 b.1 b.2.1 b.2.2.1 b.2.2.2.1=some (c,(),(),()):=by obtain⟨x,y,B,rfl,rfl⟩:=G.both u;rw[kt,qj7 O];exact⟨_,rfl⟩
theorem O4 {a:D5} (G:Cn a): ∃s,vc m a.1 a.2.1 a.2.2.1 a.2.2.2.1=some (s,(),())/\(a=ax 0 0->s=0):=by obtain⟨z,e,rfl⟩:=G.mk;by_cases h:cd z e;{have u:=qpm (m:=m) hm h;refine⟨_,u,λq=> ?_⟩;have h2:=qpm (m:=m) hm (qj2 0);rw[q,h2]at u;injection u with u;have:=congrArg Prod.fst u;exact this.symm.trans rfl};{refine⟨0,?_,λ_=>rfl⟩;rw[vc,X9 O,xq h];rfl}
theorem UV {a:D5} (u:Cn a): ∃f,CG m a.1 a.2.1 a.2.2.1 a.2.2.2.1=some (f,(),())/\b7 f:=by obtain⟨z,e,rfl⟩:=u.mk;exact⟨_,qs6 hm,LA⟩
theorem Lg {a b:D5} (G:Cn a) (u:Cn b): ∃f,oS m a.1 a.2.1 a.2.2.1 a.2.2.2.1 b.1 b.2.1 b.2.2.1 b.2.2.2.1=some (f,(),(),())/\b7 f:=⟨_,qyh hm G u,Pn⟩
end
def qO (d:bR):D5:=(d.1,d.2.1.1,d.2.1.2,d.2.2,())
def Cy (d:bR):Prop:=Cn (qO d)
def UY {a:D5} (h:Cn a):Cy (a.1,((a.2.1,a.2.2.1),a.2.2.2.1)):=h
abbrev gu:bR:=qz
def qy5:qO gu=ax 0 0:=rfl
def Pg:Cy gu:=by unfold Cy;rw[qy5];exact fo 0 0
structure Sq (k:Nat) (s:List (List bR)):Prop where
 len:s.length=k
 row: ∀i,i<k->(s.getD i []).length=k
 cy: ∀i j,Cy ((s.getD i []).getD j gu)
def Pf {l:List bR} (h: ∀d∈l,Cy d) (j:Nat):Cy (l.getD j gu):=by by_cases c:j<l.length;{exact h _ (by simp[List.getD,c])};{rw[show l.getD j gu=gu by simp[List.getD,c]];exact Pg}
def qe7 {l:List bR} {i j:Nat} {d:bR}:(l.set i d).getD j gu=if j=i/\i<l.length then d else l.getD j gu:=by simp only[List.getD_eq_getElem?_getD,List.getElem?_set];by_cases c:i=j;{subst c;by_cases e:i<l.length;{simp[e]};{simp[e]}};{simp[c,Ne.symm c]}
def Wc {l:List (List bR)} {i j:Nat} {d:List bR}:(l.set i d).getD j []=if j=i/\i<l.length then d else l.getD j []:=by simp only[List.getD_eq_getElem?_getD,List.getElem?_set];by_cases c:i=j;{subst c;by_cases e:i<l.length;{simp[e]};{simp[e]}};{simp[c,Ne.symm c]}
def Sq.set {k:Nat} {s:List (List bR)} (h:Sq k s) {i j:Nat} (G:i<k) {d:bR} (J:Cy d):Sq k (s.set i ((s.getD i []).set j d)):=by refine⟨by rw[zU];exact h.len,λr u=> ?_,λr c=> ?_⟩;{rw[Wc];split;{rw[zU];exact h.row i G};{exact h.row r u}};{rw[Wc];split;{rw[qe7];split;{exact J};{exact h.cy i c}};{exact h.cy r c}}
section
variable {m:Nat} (hm:5000000000<=m) {rows:LI} (hl:rows.length<=1000) (p:Int)
include hm hl
theorem qk3: ∀(N k:Nat),rows.length-k<N->(∀i,i<k->rows.getD i 0≠p)->
 (∃r:Nat,lA m N rows p (k:Int)=some (.inl ((r:Int),()))/\r<rows.length/\rows.getD r 0=p)\/(lA m N rows p (k:Int)=some (.inr (.inl ()))/\ ∀i,i<rows.length->rows.getD i 0≠p)
 |0,k,h,_=>absurd h (zC _)
 |N+1,k,h,u=>by rw[lA,bQ];by_cases G:k<rows.length;{rw[iP O,iP O,aB,tN];by_cases c:rows.getD k 0=p;{rw[iP c];exact .inl ⟨k,rfl,G,c⟩};{rw[ae c,show wI ((k:Int)+1)=((k+1:Nat):Int)from ay O];refine qk3 N (k+1) O λi J=> ?_;by_cases e:i=k;{rw[e];exact c};{exact u i O}}};{rw[ae O];exact .inr ⟨rfl,λi J=>u i O⟩}
theorem ZX:(∃r:Nat,lB m rows p=some ((r:Int),(),(),())/\r<rows.length/\rows.getD r 0=p)\/(lB m rows p=some (-1,(),(),())/\ ∀i,i<rows.length->rows.getD i 0≠p):=by have h:=qk3 hm hl p m 0 O (λi G=>absurd G (zC _));rw[nZ]at h;rcases h with⟨r,u,h2,J⟩|⟨u,h2⟩;{exact .inl ⟨r,by rw[lB,u];rfl,h2,J⟩};{exact .inr ⟨by rw[lB,u];rfl,h2⟩}
end
end Go.Vs.F
set_option maxRecDepth 100000
namespace Go.Vs.F
section
variable {m:Nat} (hm:5000000000<=m)
include hm
theorem absX {f:Int} (h:aS f): ∃c,A1 m (d8 f).1 (d8 f).2.1 (d8 f).2.2.1 (d8 f).2.2.2.1=some (c,(),())/\Cn c:=by rw[Qs h,qie O (cq h)];exact⟨_,rfl,fo ..⟩
theorem qtw {rows:LI} (hl:rows.length<=1000) (x1:Int) {s:List (List bR)} (hs:Sq rows.length s) {p:Nat} (hp:p<rows.length): ∀(N k:Nat) (v:List bR),rows.length-k<N->k<=rows.length->v.length=k->(∀d∈v,Cy d)->
 (∃w,lz m N (p:Int) rows x1 s v (k:Int)=some (.inl (w,false,())))\/(∃w,lz m N (p:Int) rows x1 s v (k:Int)=some (.inr (.inl (w,())))/\w.length=rows.length/\ ∀d∈w,Cy d)
 |0,k,v,h,_,_,_=>absurd h (zC _)
 |N+1,k,v,h,a0,hv,J=>by rw[lz,bQ];by_cases hk:k<rows.length;{have h1:=hs.len;have h2:=hs.row k hk;obtain⟨f,K,G⟩:=UV hm (hs.cy k p);rw[iP O,iP O,tN,tN,iP O];unfold qO at K;rw[K,bS];dsimp only;rw[P7 G,bS];dsimp only;by_cases c:aS f;{obtain⟨a,e2,u2⟩:=absX hm c;rw[decide_eq_true c,show(!true)=false from rfl,cond_false,GV O G,bS];dsimp only;rw[e2,bS,iP (by rw[zN];omega),show wI ((k:Int)+1)=((k+1:Nat):Int)from ay O];refine qtw hl x1 hs hp N (k+1) _ O O (by rw[zG,hv];rfl) λd u=> ?_;rcases zZ.1 u with u|u;{exact J d u};{rw[zA.1 u];exact UY u2}};{rw[decide_eq_false c];exact .inl ⟨_,rfl⟩}};{rw[ae O];exact .inr ⟨v,rfl,O,J⟩}
theorem quk {rows:LI} (hl:rows.length<=1000) (x1:Int) {s:List (List bR)} (hs:Sq rows.length s) {p:Nat} (u:p<rows.length):
 ∃v b,xN m rows x1 s (p:Int)=some ((v,b,()),(),(),())/\(b=true->v.length=rows.length/\ ∀d∈v,Cy d):=by have h:=qtw hm hl x1 hs u m 0 [] O O rfl (λd G=>by cases G);rw[nZ]at h;rcases h with⟨w,h⟩|⟨w,h,J,h2⟩;{exact⟨w,false,by rw[xN,h];rfl,λq=>by cases q⟩};{exact⟨w,true,by rw[xN,h];rfl,λ_=>⟨J,h2⟩⟩}
theorem Vi {v:List bR} (hv: ∀d∈v,Cy d) (hl:v.length<=1000) (p:Int) (t0 K:Bool) (J:LI) (G:Int): ∀(N k:Nat) (b:D5) (u:Int),v.length-k<N->Cn b->((u= -1/\b=ax 0 0)\/(0<=u/\u<(v.length:Int)/\u≠p))->
 ∃c r,ft m N v p t0 K J G b.1 b.2.1 b.2.2.1 b.2.2.2.1 u (k:Int)=some (.inl ((t0,K,J,G,()),c,r,()))/\Cn c/\((r= -1/\c=ax 0 0)\/(0<=r/\r<(v.length:Int)/\r≠p))
 |0,k,b,u,h,_,_=>absurd h (zC _)
 |N+1,k,b,u,h,hb,ha=>by rw[ft,bQ];by_cases hk:k<v.length;{have hd:Cy (v.getD k gu):=Pf hv k;have wk:wI ((k:Int)+1)=((k+1:Nat):Int):=ay O;have a0:(0:Int)<=(k:Int)/\(k:Int)<(v.length:Int):=O;rw[iP O,aO,wk];by_cases c:(k:Int)=p;{rw[iP c];exact Vi hv hl p t0 K J G N (k+1) b u O hb ha};{rw[ae c,bQ];have new: ∃c r,ft m N v p t0 K J G (qO (v.getD k gu)).1 (qO (v.getD k gu)).2.1 (qO (v.getD k gu)).2.2.1 (qO (v.getD k gu)).2.2.2.1 (k:Int) ((k+1:Nat):Int)=some (.inl ((t0,K,J,G,()),c,r,()))/\Cn c/\((r= -1/\c=ax 0 0)\/(0<=r/\r<(v.length:Int)/\r≠p)):= Vi hv hl p t0 K J G N (k+1) _ (k:Int) O hd (.inr ⟨O,O,c⟩);unfold qO at new;by_cases a:u<0;{rw[iP a,iP a0,tN];exact new};{rw[ae a,iP a0,tN];obtain⟨q,e⟩:=Hu hm hb hd;unfold qO at e;rw[e,bS];cases q with|true=>{rw[cond_true,iP a0];exact new}|false=>exact Vi hv hl p t0 K J G N (k+1) b u O hb ha}}};{rw[ae O];exact⟨b,u,rfl,hb,ha⟩}
theorem qsz {v:List bR} (u: ∀d∈v,Cy d) (hl:v.length<=1000) (p:Int): ∃c r,Bj m v p=some ((c,r,()),(),(),())/\Cn c/\((r= -1/\c=ax 0 0)\/(0<=r/\r<(v.length:Int)/\r≠p)):=by obtain⟨c,r,e,G,h2⟩:=Vi hm u hl p false false [] 0 m 0 (ax 0 0) (-1) O (fo 0 0) (.inl ⟨rfl,rfl⟩);rw[nZ]at e;refine⟨c,r,?_,G,h2⟩;change ft m m v p false false [] 0 false false [] 0 (-1) 0=_ at e;rw[Bj,e];rfl
theorem qb7 {a b:D5} (G:Cn a) (u:Cn b): ∃c,xM m a.1 a.2.1 a.2.2.1 a.2.2.2.1 b.1 b.2.1 b.2.2.1 b.2.2.2.1=some (c,(),(),()):=by obtain⟨x,e1,J⟩:=gF hm (fo 64 0) G;obtain⟨y,e2,h2⟩:=gF hm (fo 41 0) u;obtain⟨q,K⟩:=Hu hm J h2;rw[xM,q6i O (by unfold CJ;omega),bS];dsimp only;rw[e1,bS,q6i O (by unfold CJ;omega),bS];dsimp only;rw[e2,bS];dsimp only;rw[K];exact⟨_,rfl⟩
end
inductive ic (full:Int):LI->Prop
 |one {p:Nat} (h:(p:Int)<full):ic full [(p:Int)]
 |two {p r:Nat} (h1:(p:Int)<full) (h2:(r:Int)<full) (h3:p≠r):ic full [(p:Int),(r:Int)]
section
variable {m:Nat} (hm:5000000000<=m) {rows:LI} (hl:rows.length<=1000) {x1:Int} (hx:x1<=(rows.length:Int)) {s:List (List bR)} (hs:Sq rows.length s)
include hm hl hx hs
theorem qe2: ∀(N k:Nat),x1.toNat-k<N->
 ∃r,sd m N rows x1 s (k:Int)=some r/\match r with
  | .inl (a0,ok,_)=>(ok=false/\a0=[])\/(ok=true/\ic x1 a0)
  | .inr _=>True
 |0,k,h=>absurd h (zC _)
 |N+1,k,h=>by rw[sd,bQ];by_cases G:(k:Int)<x1;{obtain⟨v,b,e1,g1⟩:=quk hm hl x1 hs (p:=k) O;rw[iP G,e1,bS];cases b with|false=>exact⟨_,rfl,.inl ⟨rfl,rfl⟩⟩|true=>{obtain⟨v1,v2⟩:=g1 rfl;obtain⟨lam,r,e2,l1,l2⟩:=qsz hm v2 O (k:Int);obtain⟨sg,e3,s2⟩:=O4 hm l1;dsimp only;rw[show(!true)=false from rfl,cond_false,e2,bS];dsimp only;rw[e3,bS,aB];dsimp only;by_cases c:sg=0;{rw[iP c];exact⟨_,rfl,.inr ⟨rfl,.one G⟩⟩};have hr:0<=r/\r<(v.length:Int)/\r≠(k:Int):=by{rcases l2 with⟨_,q⟩|q;{exact absurd (s2 q) c};{exact q}};obtain⟨rn,rfl⟩: ∃rn:Nat,r=(rn:Int):=⟨r.toNat,O⟩;have J:Cy (v.getD k gu):=Pf v2 k;obtain⟨t1,e4⟩:=qb7 hm J l1;unfold qO at e4;have K:(0:Int)<=(k:Int)/\(k:Int)<(v.length:Int):=O;rw[ae c,iP K,tN];dsimp only at e4;rw[e4,bS];cases t1 with|true=>exact⟨_,rfl,.inr ⟨rfl,.one G⟩⟩|false=>{dsimp only;rw[cond_false,bQ];by_cases d:(rn:Int)>=x1;{rw[iP d,show wI ((k:Int)+1)=((k+1:Nat):Int)from ay O];exact qe2 N (k+1) O};obtain⟨w,b,e5,g5⟩:=quk hm hl x1 hs (p:=rn) O;rw[ae d,e5,bS];cases b with|false=>exact⟨_,rfl,.inl ⟨rfl,rfl⟩⟩|true=>{obtain⟨w1,w2⟩:=g5 rfl;obtain⟨sig,r2,e6,l3,l4⟩:=qsz hm w2 O (rn:Int);obtain⟨x,e7,h7⟩:=gF hm J l3;obtain⟨y,e8,h8⟩:=gF hm l1 l1;obtain⟨t2,e9⟩:=qb7 hm h7 h8;unfold qO at e7;dsimp only at e7⊢;rw[show(!true)=false from rfl,cond_false,e6,bS,iP K];dsimp only;rw[e7,bS,e8,bS];dsimp only;rw[e9,bS];cases t2 with|true=>exact⟨_,rfl,.inr ⟨rfl,.one G⟩⟩|false=>{have c0:Cy (w.getD rn gu):=Pf w2 rn;obtain⟨t3,u⟩:=qb7 hm c0 l3;unfold qO at u;dsimp only at u⊢;rw[cond_false,iP O,tN,u,bS];cases t3 with|true=>exact⟨_,rfl,.inr ⟨rfl,.one O⟩⟩|false=>exact⟨_,rfl,.inr ⟨rfl,.two G O O⟩⟩}}}}};{rw[ae G];exact⟨_,rfl,trivial⟩}
theorem qnz: ∃u ok,WB m rows x1 s=some ((u,ok,()),(),())/\(u=[]\/(ok=true/\ic x1 u)):=by
 obtain⟨r,e,h⟩:=qe2 hm hl hx hs m 0 O;rw[nZ]at e;rw[WB,e,bS]
 match r,h with
 | .inl (u,ok,_),h=>
   refine⟨u,ok,rfl,?_⟩;rcases h with⟨_,h⟩|⟨G,h2⟩
   . exact .inl h
   . exact .inr ⟨G,h2⟩
 | .inr (.inl _),_=>exact⟨[],true,rfl,.inl rfl⟩
 | .inr (.inr e),_=>exact e.elim
end
end Go.Vs.F
set_option maxRecDepth 100000
namespace Go.Vs.F
def uc (A:LI) (i:Nat):Bool:=A.any λa=>decide (a=(i:Int))
def keep (A:LI) (t:Nat):List Nat:=(List.range t).filter λi=> !uc A i
def Oh {A:LI} {t:Nat}:keep A (t+1)=keep A t++if uc A t=true then []else [t]:=by unfold keep;rw[Cr,List.filter_append];congr 1;cases h:uc A t with|true=>{rw[List.filter_cons_of_neg (by simp[h])];rfl}|false=>{rw[List.filter_cons_of_pos (by simp[h])];rfl}
def V4 {A:LI} {t:Nat}:(keep A t).length<=t:=by unfold keep;exact zQ (OP ..) (by rw[yf];exact zI _)
def qi6 {A:LI} {t i:Nat} (h:i∈keep A t):i<t:=vH.1 (Lb.1 h).1
def qmk {p i:Nat}:uc [(p:Int)] i=decide (i=p):=by unfold uc;simp only[List.any_cons,List.any_nil,Nt,Int.natCast_inj];by_cases h:p=i;{rw[decide_eq_true h,decide_eq_true h.symm]};{rw[decide_eq_false h,decide_eq_false (λq=>h q.symm)]}
def qqc {p r i:Nat}:uc [(p:Int),(r:Int)] i=(decide (i=p)||decide (i=r)):=by unfold uc;simp only[List.any_cons,List.any_nil,Nt,Int.natCast_inj];congr 1;{by_cases h:p=i;{rw[decide_eq_true h,decide_eq_true h.symm]};{rw[decide_eq_false h,decide_eq_false (λq=>h q.symm)]}};{by_cases h:r=i;{rw[decide_eq_true h,decide_eq_true h.symm]};{rw[decide_eq_false h,decide_eq_false (λq=>h q.symm)]}}
def qhk {full:Int} {A:LI} (h:ic full A): ∀{t:Nat},full<=(t:Int)->(keep A t).length+A.length=t:=by intro t G;cases h with| @one p J=>{have: ∀t:Nat,(keep [(p:Int)] t).length+(if p<t then 1 else 0)=t:=λt=>by{induction t with|zero=>rfl|succ t u=>{rw[Oh,zG,qmk];by_cases c:t=p;{subst c;rw[ae O]at u;rw[iP (decide_eq_true rfl),iP O];simp only[Nx];omega};{rw[ae (by rw[decide_eq_false c];decide)];simp only[zN];split at u<;>split<;>omega}}};have:=this t;rw[iP O]at this;exact this}| @two p r h1 h2 K=>{have: ∀t:Nat,(keep [(p:Int),(r:Int)] t).length+(if p<t then 1 else 0)+(if r<t then 1 else 0)=t:=λt=>by{induction t with|zero=>rfl|succ t u=>{rw[Oh,zG,qqc];by_cases c:t=p;{subst c;rw[ae O]at u;rw[iP (by rw[decide_eq_true rfl];rfl),iP O];simp only[Nx];split at u<;>split<;>omega};{by_cases d:t=r;{subst d;rw[ae (by omega: ¬t<t)]at u;rw[iP (by rw[decide_eq_true rfl,CP]),iP (by omega:t<t+1)];simp only[Nx];split at u<;>split<;>omega};{rw[ae (by rw[decide_eq_false c,decide_eq_false d];decide)];simp only[zN];split at u<;>split at u<;>split<;>split<;>omega}}}};have:=this t;rw[iP O,iP O]at this;exact this}
def ic.out {full:Int} {A:LI} (h:ic full A) {i:Nat} (G:full<=(i:Int)):uc A i=false:=by cases h with|one u=>{rw[qmk];exact decide_eq_false O}|two K h2 J=>{rw[qqc,decide_eq_false O,decide_eq_false O];rfl}
def ic.len {full:Int} {A:LI} (h:ic full A):A.length=1\/A.length=2:=by cases h with|one u=>exact .inl rfl|two J h2 G=>exact .inr rfl
def ic.get {full:Int} {A:LI} (h:ic full A) {k:Nat} (u:k<A.length):0<=A.getD k 0/\A.getD k 0<full:=by cases h with| @one p G=>{have:k=0:=by{simp at u;omega};subst this;show 0<=(p:Int)/\(p:Int)<full;omega}| @two p r K h2 J=>{have:k=0\/k=1:=by{simp at u;omega};rcases this with rfl|rfl;{show 0<=(p:Int)/\(p:Int)<full;omega};{show 0<=(r:Int)/\(r:Int)<full;omega}}
def pe {full:Int} {A:LI} (h:ic full A): ∀{d t:Nat},(t:Int)=full->keep A (t+d)=keep A t++(List.range' t d)
 |0,t,u=>by simp
 |d+1,t,u=>by rw[<-Nat.add_assoc,Oh,pe h u,h.out O,ae (by decide),qT,List.range'_concat];simp
def qrp {full:Int} (h0:0<=full) {A:LI} (h:ic full A) {k:Nat} (K:full<=(k:Int)) {i:Nat} (hi:full-(A.length:Int)<=(i:Int)) (u:i<(keep A k).length):full<=(((keep A k).getD i 0:Nat):Int)/\(keep A k).getD i 0<k:=by obtain⟨t,G⟩: ∃t:Nat,(t:Int)=full:=⟨full.toNat,O⟩;obtain⟨d,rfl⟩: ∃d,k=t+d:=⟨k-t,O⟩;have J:=pe h (d:=d) G;have h2:=qhk h (t:=t) O;have hm:(keep A (t+d)).getD i 0∈keep A (t+d):=by{simp[List.getD,u]};refine⟨?_,qi6 hm⟩;rw[J]at u⊢;rw[zG,List.length_range']at u;have:(keep A t++List.range' t d).getD i 0=t+(i-(keep A t).length):=by{simp only[List.getD_eq_getElem?_getD];rw[List.getElem?_append_right O,List.getElem?_range' O];simp};rw[this];omega
section
variable {m:Nat} (hm:5000000000<=m) {A:LI} (hA:A.length<=100)
include hm hA
theorem YE (i:Nat): ∃r:Int,lB m A (i:Int)=some (r,(),(),())/\(uc A i=true->r>=0)/\(uc A i=false->r<0):=by rcases ZX hm (rows:=A) O (i:Int)with⟨r,e,K,h2⟩|⟨e,h⟩;{refine⟨_,e,λ_=>O,λq=> ?_⟩;exfalso;have:uc A i=true:=by{unfold uc;exact NC.2 ⟨A.getD r 0,Xm K,decide_eq_true h2⟩};rw[this]at q;cases q};{refine⟨_,e,λq=> ?_,λ_=>O⟩;unfold uc at q;obtain⟨a,J,G⟩:=NC.1 q;obtain⟨j,u,rfl⟩:=ml J;exact absurd (of_decide_eq_true G) (by have:=h j u;simp only[List.getD_eq_getElem?_getD,List.getElem?_eq_getElem u,yq]at this;exact this)}
variable {rows:LI} (hl:rows.length<=1000) {x1:Int} {s:List (List bR)} (hs:Sq rows.length s)
include hl hs
theorem GO (c0 J:LI) (a0 G:Int) (K u:List (List bR)) {i:Nat} (hi:i<rows.length): ∀(N t:Nat),rows.length-t<N->t<=rows.length->
 lx m N A rows x1 s c0 a0 K J G u (i:Int) ((keep A t).map λj=>(s.getD i []).getD j gu) (t:Int)=some (.inl (A,(rows,x1,s,()),(c0,a0,K,()),(J,G,u,()),(i:Int),(keep A rows.length).map (λj=>(s.getD i []).getD j gu),()))
 |0,t,h,_=>absurd h (zC _)
 |N+1,t,h,d0=>by rw[lx,bQ];by_cases ht:t<rows.length;{obtain⟨r,e,h1,h2⟩:=YE hm hA t;have a1:=hs.len;have a2:=hs.row i hi;have wt:wI ((t:Int)+1)=((t+1:Nat):Int):=ay O;have ih:=GO c0 J a0 G K u hi N (t+1) O O;have e0:=V4 (A:=A) (t:=t);rw[Oh]at ih;rw[iP O,e,bS,bQ,wt];dsimp only;cases c:uc A t with|true=>{rw[c,iP rfl,mz]at ih;rw[ae (by have:=h1 c;omega)];exact ih}|false=>{rw[c,ae (by decide),tR]at ih;rw[iP (h2 c),iP O,tN,tN,iP O,iP (by rw[zN,zi];omega)];exact ih}};{rw[ae O,show t=rows.length by omega]}
theorem GP (K:LI) (J u:Int) (G:List (List bR)): ∀(N t:Nat),rows.length-t<N->t<=rows.length->
 ly m N A rows x1 s K J G ((keep A t).map λi=>rows.getD i 0) u ((keep A t).map λi=>(keep A rows.length).map λj=>(s.getD i []).getD j gu) (t:Int)=
  some (.inl ((K,J,G,()),((keep A rows.length).map (λi=>rows.getD i 0),u,(keep A rows.length).map (λi=>(keep A rows.length).map λj=>(s.getD i []).getD j gu),()),()))
 |0,t,h,_=>absurd h (zC _)
 |N+1,t,h,a0=>by rw[ly,bQ];by_cases ht:t<rows.length;{obtain⟨r,e,h1,h2⟩:=YE hm hA t;have wt:wI ((t:Int)+1)=((t+1:Nat):Int):=ay O;have ih:=GP K J u G N (t+1) O O;have c0:=V4 (A:=A) (t:=t);rw[Oh]at ih;rw[iP O,e,bS,bQ];dsimp only;cases c:uc A t with|true=>{rw[c,iP rfl,mz]at ih;rw[iP (h1 c),wt];exact ih}|false=>{rw[c,ae (by decide),tR,tR]at ih;have e1:=GO hm hA hl (x1:=x1) hs K ((keep A t).map (λi=>rows.getD i 0)++[rows.getD t 0]) J u G ((keep A t).map λi=>(keep A rows.length).map λj=>(s.getD i []).getD j gu) ht m 0 O O;rw[nZ,show keep A 0=[]from rfl,GK]at e1;rw[ae (by have:=h2 c;omega),iP O,tN,iP (by rw[zN,zi];omega),e1,bS];dsimp only;rw[iP (by rw[zN,zi];omega),wt];exact ih}};{rw[ae O,show t=rows.length by omega]}
theorem OQ:FC m rows x1 s A=some (((keep A rows.length).map (λi=>rows.getD i 0),wI (x1-(A.length:Int)),(keep A rows.length).map (λi=>(keep A rows.length).map λj=>(s.getD i []).getD j gu),()),(),(),()):=by have e:=GP hm hA hl (x1:=x1) hs [] 0 (wI (x1-(A.length:Int))) [] m 0 O O;rw[nZ,show keep A 0=[]from rfl,GK,GK]at e;rw[FC,e];rfl
end
def OR {A:LI} {k:Nat} {s:List (List bR)} (hs:Sq k s):Sq (keep A k).length ((keep A k).map λi=>(keep A k).map λj=>(s.getD i []).getD j gu):=by have G: ∀i,i<(keep A k).length->((keep A k).map λi=>(keep A k).map λj=>(s.getD i []).getD j gu).getD i []=(keep A k).map λj=>(s.getD ((keep A k).getD i 0) []).getD j gu:=λi u=>by{simp[List.getD,u]};refine⟨zi ..,λi u=>by rw[G i u,zi],λi j=> ?_⟩;by_cases c:i<(keep A k).length;{rw[G i c];refine Pf (λd J=> ?_) j;obtain⟨x,_,rfl⟩:=zk.1 J;exact hs.cy _ x};{rw[show((keep A k).map λi=>(keep A k).map λj=>(s.getD i []).getD j gu).getD i []=[] by simp[List.getD,c]];exact Pg}
end Go.Vs.F
set_option maxRecDepth 100000
namespace Go.Vs.F
section
variable {m:Nat} (hm:5000000000<=m)
include hm
theorem xt {f:Int} (h:b7 f): ∃c,gk m f=some (c,(),())/\Cn c:=⟨_,GV O h,NW f⟩
theorem G5 {a b:Int} (G:b7 a) (u:b7 b): ∃c,oT m a b=some (c,(),(),())/\Cn c:=by obtain⟨x,e1,K⟩:=xt hm G;obtain⟨y,e2,h2⟩:=xt hm u;obtain⟨z,O,J⟩:=gF hm K h2;refine⟨z,?_,J⟩;rw[oT,e1,bS,e2,bS,O];rfl
theorem detX {d:LI} (hd:d.length=3) (hu:UL d): ∃c,tk m d=some (c,(),())/\Cn c:=by obtain⟨x,K,G⟩:=G5 hm (hu 0 O) (hu 2 O);obtain⟨y,e2,h2⟩:=G5 hm (hu 1 O) (hu 1 O);obtain⟨z,J,u⟩:=CU hm G h2;refine⟨z,?_,u⟩;rw[tk,iP O,iP O,K,bS,iP O,iP O,e2,bS,J];rfl
theorem WX {rows:LI} {x1 full:Int} {k:Nat} {s:List (List bR)} (hs:Sq k s) (hf:full<=(k:Int)) {A:LI} (hA:ic full A) {d:LI} (hd:d.length=2*A.length-1) (hu:UL d) (p0 p2:LI) (p3:List LI) {i:Nat} (u:i<k):
 ∃l,Bf m p0 d p2 p3 rows x1 s A (i:Int)=some (l,(),(),(),(),())/\l.length=A.length/\UL l:=by have h1:=hs.len;have h2:=hs.row i u;cases hA with| @one p hp=>{have d0:d.length=1:=hd;rw[Bf,iP O,iP (by simp),No,tN,iP O];rw[show(([(p:Int)].length:Int)==1)=true from rfl,cond_true,iP O,qvr,bS];dsimp only;cases Df (d.getD 0 0)with|true=>{exact⟨[0],rfl,rfl,λi u=>by{have:i=0:=by{simp at u;omega};subst this;exact NU}⟩}|false=>{obtain⟨c,e1,G⟩:=xt hm (hu 0 O);obtain⟨f,e2,K⟩:=Lg hm (hs.cy i p) G;unfold qO at e2;dsimp only at e2;rw[cond_false,iP O,e1,bS,tN];dsimp only;rw[e2];exact⟨[f],rfl,rfl,λi u=>by{have:i=0:=by{simp at u;omega};subst this;exact K}⟩}}| @two p r hp hr a0=>{have J:d.length=3:=hd;obtain⟨c0,e0,g0⟩:=xt hm (hu 0 O);obtain⟨c1,e1,G⟩:=xt hm (hu 1 O);obtain⟨c2,e2,K⟩:=xt hm (hu 2 O);obtain⟨a1,f1,k1⟩:=gF hm (hs.cy i p) K;obtain⟨a2,f2,k2⟩:=gF hm (hs.cy i r) G;obtain⟨a3,f3,k3⟩:=CU hm k1 k2;obtain⟨a4,f4,k4⟩:=gF hm (hs.cy i r) g0;obtain⟨a5,f5,k5⟩:=gF hm (hs.cy i p) G;obtain⟨a6,f6,k6⟩:=CU hm k4 k5;obtain⟨dt,f7,k7⟩:=detX hm J hu;obtain⟨q1,f8,k8⟩:=Lg hm k3 k7;obtain⟨q2,f9,k9⟩:=Lg hm k6 k7;unfold qO at f1 f2 f4 f5;dsimp only at f1 f2 f4 f5;rw[Bf,iP O,iP (by simp),No,tN,iP O];rw[show(([(p:Int),(r:Int)].length:Int)==1)=false from rfl,cond_false,iP O,iP (by simp),List.getD_cons_succ,No,iP O,iP O,e0,bS,iP O,e1,bS,iP O,e2,bS,tN,tN];dsimp only;rw[f1,bS,f2,bS];dsimp only;rw[f3,bS,f4,bS,f5,bS];dsimp only;rw[f6,bS,f7,bS];dsimp only;rw[f8,bS,bS];dsimp only;rw[f9];exact⟨[q1,q2],rfl,rfl,λi u=>by{have:i=0\/i=1:=by{simp at u;omega};rcases this with rfl|rfl;{exact k8};{exact k9}}⟩}
end
structure PL (w q k:Nat) (l:List LI):Prop where
 len:l.length=w
 col: ∀j,j<w->(l.getD j []).length=(if j<k then q+1 else q)/\UL (l.getD j [])
def qm2 {l:List LI} {i j:Nat} {d:LI}:(l.set i d).getD j []=if j=i/\i<l.length then d else l.getD j []:=by simp only[List.getD_eq_getElem?_getD,List.getElem?_set];by_cases c:i=j;{subst c;by_cases e:i<l.length;{simp[e]};{simp[e]}};{simp[c,Ne.symm c]}
section
variable {m:Nat} (hm:5000000000<=m)
include hm
theorem T3 {w q:Nat} {l:List LI} (hl:PL w q 0 l) {p0 d:LI} (h0:p0.length=w) (hw:w=1\/w=2) (hd:d.length=2*w-1) (hu:UL d) (p2:LI) {i j:Nat} (hi:i<q) (hj:j<q):
 ∃c,Fz m p0 d p2 l (i:Int) (j:Int)=some (c,(),(),(),())/\Cn c:=by have a0:=hl.len;obtain⟨n0,G⟩:=hl.col 0 O;rw[ae O]at n0;obtain⟨a,e1,g1⟩:=xt hm (G i O);obtain⟨b,e2,g2⟩:=xt hm (G j O);obtain⟨d1,e3,g3⟩:=xt hm (hu 0 O);obtain⟨x1,e4,g4⟩:=gF hm g1 g3;obtain⟨x2,e5,g5⟩:=gF hm g4 g2;rw[Fz,iP O,iP O,tN,tN,e1,bS,iP O,iP O,e2,bS,iP O,e3,bS];dsimp only;rw[e4,bS];dsimp only;rw[e5,bS,h0,aB];by_cases c:w=2;{obtain⟨n1,u⟩:=hl.col 1 O;rw[ae O]at n1;obtain⟨c1,e6,g6⟩:=xt hm (u i O);obtain⟨c2,e7,K⟩:=xt hm (u j O);obtain⟨d2,e8,J⟩:=xt hm (hu 1 O);obtain⟨d3,e9,g9⟩:=xt hm (hu 2 O);obtain⟨y1,f1,k1⟩:=gF hm g1 J;obtain⟨y2,f2,k2⟩:=gF hm k1 K;obtain⟨y3,f3,k3⟩:=Gz hm g5 k2;obtain⟨y4,f4,k4⟩:=gF hm g6 J;obtain⟨y5,f5,k5⟩:=gF hm k4 g2;obtain⟨y6,f6,k6⟩:=Gz hm k3 k5;obtain⟨y7,f7,k7⟩:=gF hm g6 g9;obtain⟨y8,f8,k8⟩:=gF hm k7 K;obtain⟨y9,f9,k9⟩:=Gz hm k6 k8;rw[iP O,iP O,iP O,e6,bS,iP O,iP O,e7,bS,iP O,e8,bS,iP O,e9,bS];dsimp only;rw[f1,bS];dsimp only;rw[f2,bS];dsimp only;rw[f3,bS,f4,bS];dsimp only;rw[f5,bS];dsimp only;rw[f6,bS,f7,bS];dsimp only;rw[f8,bS];dsimp only;rw[f9];exact⟨y9,rfl,k9⟩};{rw[ae O];exact⟨x2,rfl,g5⟩}
theorem Ks (A r0 l0 i0 h0 g0 d0 K J G:LI) (q0 k0 c0 s0:Int) (m0 j0 a0:List (List bR)) (e0:List LI) {w q:Nat} (hw:w<=100) (hq:q<=1000) {v:LI} (hv:v.length=w) (hu:UL v): ∀(N k:Nat) (l:List LI),w-k<N->k<=w->PL w q k l->
 (∃r,px m N A r0 q0 m0 l0 k0 j0 i0 h0 g0 e0 d0 c0 a0 K J G l s0 v (k:Int)=some (.inl r)/\r.2.2.1=false)\/
 (∃l',px m N A r0 q0 m0 l0 k0 j0 i0 h0 g0 e0 d0 c0 a0 K J G l s0 v (k:Int)=some (.inr (.inl (A,(r0,q0,m0,()),(l0,k0,j0,()),(i0,h0,g0,e0,()),(d0,c0,a0,()),(K,J,G,l',()),s0,())))/\PL w (q+1) 0 l')
 |0,k,l,h,_,_=>absurd h (zC _)
 |N+1,k,l,h,v0,hl=>by rw[px,bQ];by_cases hk:k<w;{have u:=hu k O;have t0:=hl.len;obtain⟨n0,u0⟩:=hl.col k hk;rw[ae O]at n0;rw[iP O,iP O,zH,tN,P7 u,bS];dsimp only;by_cases c:aS (v.getD k 0);{rw[decide_eq_true c,show(!true)=false from rfl,cond_false,iP O,iP O,iP (by rw[zN];omega),iP O,iP rfl,show wI ((k:Int)+1)=((k+1:Nat):Int)from ay O];refine Ks A r0 l0 i0 h0 g0 d0 K J G q0 k0 c0 s0 m0 j0 a0 e0 hw hq hv hu N (k+1) _ O O ⟨by rw[zU];exact t0,λj hj=> ?_⟩;obtain⟨n1,u1⟩:=hl.col j hj;rw[qm2];by_cases e:j=k;{subst e;rw[iP ⟨rfl,O⟩,iP O];exact⟨by rw[zG,n0];rfl,qp8 u0 u⟩};{rw[ae (λq=>e q.1)];refine⟨?_,u1⟩;rw[n1];by_cases g:j<k;{rw[iP g,iP O]};{rw[ae g,ae O]}}};{rw[decide_eq_false c];exact .inl ⟨_,rfl,rfl⟩}};{rw[ae O];refine .inr ⟨l,rfl,hl.len,λj hj=> ?_⟩;obtain⟨n1,u1⟩:=hl.col j hj;rw[iP O]at n1;exact⟨by rw[ae O];exact n1,u1⟩}
end
end Go.Vs.F
set_option maxRecDepth 100000
namespace Go.Vs.F
def bF (A rows:LI) (t:Nat):LI:=(keep A t).map λi=>rows.getD i 0
def lL (A rows:LI):LI:=A.map λa=>rows.getD a.toNat 0
section
variable {m:Nat} (hm:5000000000<=m) {rows:LI} (hl:rows.length<=1000) {full:Int} (hf:full<=(rows.length:Int)) {s:List (List bR)} (hs:Sq rows.length s) {A:LI} (hA:ic full A)
include hm hl hf hs hA
theorem Kt (x1 c0 y1:Int) (d0 K J G y0 d p2:LI) (a0 y2:List (List bR)) (u:List LI): ∀(N t:Nat),A.length-t<N->t<=A.length->
 sb m N A rows x1 s d0 c0 a0 K J G u y0 y1 y2 (lL (A.take t) rows) d p2 (List.replicate t []) (t:Int)=some (.inl (A,(rows,x1,s,()),(d0,c0,a0,()),(K,J,G,u,()),(y0,y1,y2,()),(lL A rows,d,p2,List.replicate A.length [],()),()))
 |0,t,h,_=>absurd h (zC _)
 |N+1,t,h,e0=>by rw[sb,bQ];have g0:=hA.len;by_cases ht:t<A.length;{have g:=hA.get ht;have e1:lL (A.take t) rows++[rows.getD (A.getD t 0).toNat 0]=lL (A.take (t+1)) rows:=by{unfold lL;rw[OJ ht,tR];simp[List.getD,ht]};have e2:(lL (A.take t) rows).length<=2:=by{unfold lL;rw[zi,zX];omega};rw[iP O,iP O,tN,iP O,iP (by rw[zN];omega),iP (by rw[zN,zM];omega),e1,<-List.replicate_succ',show wI ((t:Int)+1)=((t+1:Nat):Int)from ay O];exact Kt x1 c0 y1 d0 K J G y0 d p2 a0 y2 u N (t+1) O O};{have e:t=A.length:=O;rw[ae O,e,GG]}
theorem BY (x1 c0 y1:Int) (d0 K J G y0 p0 p2:LI) (a0 y2:List (List bR)) (u:List LI) {d:LI} (hd:d.length=2*A.length-1) (hu:UL d): ∀(N i:Nat) (l:List LI),rows.length-i<N->i<=rows.length->PL A.length (keep A i).length 0 l->
 (∃r,iT m N A rows x1 s d0 c0 a0 K J G u y0 y1 y2 p0 d p2 l (i:Int)=some (.inl r)/\r.2.2.1=false)\/
 (∃l',iT m N A rows x1 s d0 c0 a0 K J G u y0 y1 y2 p0 d p2 l (i:Int)=some (.inr (.inl ((d0,c0,a0,()),(K,J,G,u,()),(y0,y1,y2,()),(p0,d,p2,l',()),())))/\PL A.length (keep A rows.length).length 0 l')
 |0,i,l,h,_,_=>absurd h (zC _)
 |N+1,i,l,h,h0,hp=>by have i0:=hA.len;rw[iT,bQ];by_cases hi:i<rows.length;{obtain⟨r,e,h1,h2⟩:=YE hm (A:=A) O i;have e0:wI ((i:Int)+1)=((i+1:Nat):Int):=ay O;have g0:=V4 (A:=A) (t:=i);have ks:=Oh (A:=A) (t:=i);rw[iP O,e,bS,bQ];dsimp only;cases c:uc A i with|true=>{rw[c,iP rfl,mz]at ks;rw[iP (h1 c),e0];exact BY x1 c0 y1 d0 K J G y0 p0 p2 a0 y2 u hd hu N (i+1) l O O (by rw[ks];exact hp)}|false=>{rw[c,ae (by decide)]at ks;obtain⟨v,e1,v1,v2⟩:=WX hm (rows:=rows) (x1:=x1) hs hf hA hd hu p0 p2 l hi;rw[ae (by have:=h2 c;omega),e1,bS];dsimp only;rcases Ks hm A rows d0 K J G y0 p0 d p2 x1 c0 y1 (i:Int) s a0 y2 u (w:=A.length) (q:=(keep A i).length) O O v1 v2 m 0 l O O hp with⟨r,e2,e3⟩|⟨l',e2,e3⟩;{rw[nZ]at e2;rw[e2];exact .inl ⟨_,rfl,e3⟩};{rw[nZ]at e2;rw[e2,bS];dsimp only;rw[e0];exact BY x1 c0 y1 d0 K J G y0 p0 p2 a0 y2 u hd hu N (i+1) l' O O (by rw[ks,zG];exact e3)}}};{have e:i=rows.length:=O;subst e;rw[ae O];exact .inr ⟨l,rfl,hp⟩}
omit hl hf hs hA in
theorem Kq (d0 y1:Int) (e0 a0 K J p2:LI) (c0:List (List bR)) (G:List LI) {y0 d p0:LI} (hy:y0.length<=1000) {w:Nat} {l:List LI} (hp:PL w y0.length 0 l) (h0:p0.length=w) (hw:w=1\/w=2) (hd:d.length=2*w-1) (hu:UL d) {i:Nat} (hi:i<y0.length): ∀(N j:Nat) (u:List (List bR)),y0.length-j<N->Sq y0.length u->
 ∃g0,r9 m N e0 d0 c0 a0 K J G y0 y1 u p0 d p2 l (i:Int) (j:Int)=some (.inl ((e0,d0,c0,()),(a0,K,J,G,()),(y0,y1,g0,()),(p0,d,p2,l,()),(i:Int),()))/\Sq y0.length g0
 |0,j,u,h,_=>absurd h (zC _)
 |N+1,j,u,h,hs=>by rw[r9,bQ];by_cases hj:j<y0.length;{have a1:=hs.len;have a2:=hs.row i hi;obtain⟨f,e1,g1⟩:=T3 hm hp h0 hw hd hu p2 hi hj;obtain⟨c,e2,g2⟩:=CU hm (hs.cy i j) g1;unfold qO at e2;dsimp only at e2;have c1:(0:Int)<=(i:Int)/\(i:Int)<(u.length:Int):=O;have c2:(0:Int)<=(j:Int)/\(j:Int)<((u.getD i []).length:Int):=O;rw[iP O,iP c1,iP c1,tN,tN,iP c2,e1,bS];dsimp only;rw[e2,bS,iP c2,show wI ((j:Int)+1)=((j+1:Nat):Int)from ay O];exact Kq d0 y1 e0 a0 K J p2 c0 G hy hp h0 hw hd hu hi N (j+1) _ O (hs.set hi (UY g2))};{rw[ae O];exact⟨u,rfl,hs⟩}
omit hl hf hs hA in
theorem Kr (d0 y1:Int) (e0 a0 K J p2:LI) (c0:List (List bR)) (G:List LI) {y0 d p0:LI} (hy:y0.length<=1000) {w:Nat} {l:List LI} (hp:PL w y0.length 0 l) (h0:p0.length=w) (hw:w=1\/w=2) (hd:d.length=2*w-1) (hu:UL d): ∀(N i:Nat) (y2:List (List bR)),y0.length-i<N->Sq y0.length y2->
 ∃u,mX m N e0 d0 c0 a0 K J G y0 y1 y2 p0 d p2 l (i:Int)=some (.inl ((e0,d0,c0,()),(a0,K,J,G,()),(y0,y1,u,()),(p0,d,p2,l,()),()))/\Sq y0.length u
 |0,j,y2,h,_=>absurd h (zC _)
 |N+1,i,y2,h,hs=>by rw[mX,bQ];by_cases hi:i<y0.length;{obtain⟨u,e1,e2⟩:=Kq hm d0 y1 e0 a0 K J p2 c0 G hy hp h0 hw hd hu hi m 0 y2 O hs;rw[nZ]at e1;rw[iP O,e1,bS];dsimp only;rw[show wI ((i:Int)+1)=((i+1:Nat):Int)from ay O];exact Kr d0 y1 e0 a0 K J p2 c0 G hy hp h0 hw hd hu N (i+1) u O e2};{rw[ae O];exact⟨y2,rfl,hs⟩}
theorem qxb (x1:Int): ∃r,Q4 m rows x1 s A=some (r,(),(),())/\(r.2.2.1=false\/ ∃G d l,r=((bF A rows rows.length,wI (x1-(A.length:Int)),G,()),(lL A rows,d,bF A rows rows.length,l,()),true,())/\
 Sq (bF A rows rows.length).length G/\d.length=2*A.length-1/\UL d/\PL A.length (bF A rows rows.length).length 0 l):=by have l0:=hA.len;have wo:=OQ hm (A:=A) O hl (x1:=x1) hs;have i0:=OR (A:=A) hs;have k0:=V4 (A:=A) (t:=rows.length);have c0:(bF A rows rows.length).length=(keep A rows.length).length:=by{unfold bF;rw[zi]};have g0:=hA.get (k:=0) O;obtain⟨a,ha⟩: ∃a:Nat,A.getD 0 0=(a:Int):=⟨(A.getD 0 0).toNat,O⟩;have a1:=hs.len;have a2:=hs.row a O;have e0:=Kt hm hl hf hs hA x1 0 (wI (x1-(A.length:Int))) [] [] [] [] (bF A rows rows.length) [] (bF A rows rows.length) [] ((keep A rows.length).map λi=>(keep A rows.length).map λj=>(s.getD i []).getD j gu) [] m 0 O O;rw[nZ,xh,show lL [] rows=[]from rfl,List.replicate_zero]at e0;have j0:PL A.length (keep A 0).length 0 (List.replicate A.length []):=⟨zM,λj hj=>by{rw[show(List.replicate A.length ([]:LI)).getD j []=[] by simp[List.getD,hj],ae O];exact⟨rfl,λi hi=>absurd hi (zC _)⟩}⟩;obtain⟨f,ef,uf⟩:=UV hm (hs.cy a a);unfold qO at ef;dsimp only at ef;have rest: ∀{d:LI},d.length=2*A.length-1->UL d-> (∃r,iT m m A rows x1 s [] 0 [] [] [] [] [] (bF A rows rows.length) (wI (x1-(A.length:Int))) ((keep A rows.length).map λi=>(keep A rows.length).map λj=>(s.getD i []).getD j gu) (lL A rows) d (bF A rows rows.length) (List.replicate A.length []) 0=some (.inl r)/\r.2.2.1=false)\/ (∃l G,iT m m A rows x1 s [] 0 [] [] [] [] [] (bF A rows rows.length) (wI (x1-(A.length:Int))) ((keep A rows.length).map λi=>(keep A rows.length).map λj=>(s.getD i []).getD j gu) (lL A rows) d (bF A rows rows.length) (List.replicate A.length []) 0=some (.inr (.inl (([],0,[],()),([],[],[],[],()),(bF A rows rows.length,wI (x1-(A.length:Int)),(keep A rows.length).map (λi=>(keep A rows.length).map λj=>(s.getD i []).getD j gu),()),(lL A rows,d,bF A rows rows.length,l,()),())))/\ mX m m [] 0 [] [] [] [] [] (bF A rows rows.length) (wI (x1-(A.length:Int))) ((keep A rows.length).map λi=>(keep A rows.length).map λj=>(s.getD i []).getD j gu) (lL A rows) d (bF A rows rows.length) l 0=some (.inl (([],0,[],()),([],[],[],[],()),(bF A rows rows.length,wI (x1-(A.length:Int)),G,()),(lL A rows,d,bF A rows rows.length,l,()),()))/\ Sq (bF A rows rows.length).length G/\PL A.length (bF A rows rows.length).length 0 l):=λ{d} hd hu=>by{have u:=BY hm hl hf hs hA x1 0 (wI (x1-(A.length:Int))) [] [] [] [] (bF A rows rows.length) (lL A rows) (bF A rows rows.length) [] ((keep A rows.length).map λi=>(keep A rows.length).map λj=>(s.getD i []).getD j gu) [] hd hu m 0 (List.replicate A.length []) O O j0;rw[nZ]at u;rcases u with u|⟨l,u,h2⟩;{exact .inl u};{rw[<-c0]at h2;obtain⟨G,J,h4⟩:=Kr hm 0 (wI (x1-(A.length:Int))) [] [] [] [] (bF A rows rows.length) [] [] (y0:=bF A rows rows.length) O h2 (p0:=lL A rows) (by unfold lL;rw[zi]) O hd hu m 0 ((keep A rows.length).map λi=>(keep A rows.length).map λj=>(s.getD i []).getD j gu) O (by rw[c0];exact i0);rw[nZ]at J;exact .inr ⟨l,G,u,J,h4,h2⟩}};rw[Q4,wo,bS];dsimp only;rw[show(keep A rows.length).map (λi=>rows.getD i 0)=bF A rows rows.length from rfl,e0,bS];dsimp only;rw[iP O,ha,iP O,iP O,tN,iP O,ef,bS,aB];dsimp only;by_cases c:(A.length:Int)=2;{have g1:=hA.get (k:=1) O;obtain⟨b,hb⟩: ∃b:Nat,A.getD 1 0=(b:Int):=⟨(A.getD 1 0).toNat,O⟩;have b2:=hs.row b O;obtain⟨f1,e1,u1⟩:=UV hm (hs.cy b a);obtain⟨f2,e2,u2⟩:=UV hm (hs.cy b b);unfold qO at e1 e2;dsimp only at e1 e2;rw[iP c,iP O,hb,iP O,iP O,tN,iP O,e1,bS,iP O,iP O,iP O,iP O,e2,bS,iP (by simp)];dsimp only;have K:UL ([f]++[f1,f2]):=λi hi=>by{have:i=0\/i=1\/i=2:=by{simp at hi;omega};rcases this with rfl|rfl|rfl;{exact uf};{exact u1};{exact u2}};have d0:([f]++[f1,f2]).length=2*A.length-1:=by{rw[show A.length=2 by omega];rfl};rcases rest d0 K with⟨r,u,h2⟩|⟨l,G,u,h2,J,h4⟩;{rw[u];exact⟨_,rfl,.inl h2⟩};{rw[u,bS];dsimp only;rw[h2];exact⟨_,rfl,.inr ⟨G,_,l,rfl,J,d0,K,h4⟩⟩}};{have a0:UL [f]:=λi hi=>by{have:i=0:=by{simp at hi;omega};subst this;exact uf};have h0:[f].length=2*A.length-1:=by{rw[show A.length=1 by omega];rfl};rw[ae c];rcases rest h0 a0 with⟨r,u,h2⟩|⟨l,G,u,h2,J,h4⟩;{rw[u];exact⟨_,rfl,.inl h2⟩};{rw[u,bS];dsimp only;rw[h2];exact⟨_,rfl,.inr ⟨G,_,l,rfl,J,h0,a0,h4⟩⟩}}
end
end Go.Vs.F
set_option maxRecDepth 100000
namespace Go.Vs.F
abbrev Nl:=LI×Int×List (List bR)
def PF (l:List tP) (c:Nat) (r:Int):Prop:=(∃j,j<(l.getD c ((0:Int),((0:Int),(([]:LI),(0:Int))))).2.2.1.length/\(l.getD c ((0:Int),((0:Int),(([]:LI),(0:Int))))).2.2.1.getD j 0=r)/\(l.getD c ((0:Int),((0:Int),(([]:LI),(0:Int))))).2.1<=r
structure Fr (n:Nat) (P:Int->Prop) (rows:LI) (full:Int) (s:List (List bR)):Prop where
 full0:0<=full
 fullr:full<=(rows.length:Int)
 len:(rows.length:Int)<=full+4
 rng: ∀i,i<rows.length->0<=rows.getD i 0/\rows.getD i 0<(n:Int)
 rest: ∀i:Nat,full<=(i:Int)->i<rows.length->P (rows.getD i 0)
 sq:Sq rows.length s
structure Fit (n:Nat) (l:List tP):Prop where
 len:l.length<=4
 row: ∀i,i<l.length->0<=(l.getD i ((0:Int),((0:Int),(([]:LI),(0:Int))))).1/\(l.getD i ((0:Int),((0:Int),(([]:LI),(0:Int))))).1<=(l.getD i ((0:Int),((0:Int),(([]:LI),(0:Int))))).2.1/\(l.getD i ((0:Int),((0:Int),(([]:LI),(0:Int))))).2.1<=(n:Int)/\(l.getD i ((0:Int),((0:Int),(([]:LI),(0:Int))))).2.2.1.length<=4/\ ∀j,j<(l.getD i ((0:Int),((0:Int),(([]:LI),(0:Int))))).2.2.1.length->0<=(l.getD i ((0:Int),((0:Int),(([]:LI),(0:Int))))).2.2.1.getD j 0/\(l.getD i ((0:Int),((0:Int),(([]:LI),(0:Int))))).2.2.1.getD j 0<(n:Int)
 par: ∀c f,c<f->f<l.length->(l.getD c ((0:Int),((0:Int),(([]:LI),(0:Int))))).2.2.2=(f:Int)-> ∀r,PF l c r->((l.getD f ((0:Int),((0:Int),(([]:LI),(0:Int))))).1<=r/\r<(l.getD f ((0:Int),((0:Int),(([]:LI),(0:Int))))).2.1)\/PF l f r
def qy4 {n:Nat} {l:List tP} (h:Hm n l=true):Fit n l:=by unfold Hm zF at h;simp only[zK,decide_eq_true_iff]at h;obtain⟨⟨h1,h2⟩,h3⟩:=h;refine⟨h1,λi hi=> ?_,λc f hc hf hp r hr=> ?_⟩;{have hm:l.getD i ((0:Int),((0:Int),(([]:LI),(0:Int))))∈l:=by{simp[List.getD,hi]};have:=zq.1 h2 _ hm;unfold okR at this;simp only[zK,decide_eq_true_iff]at this;obtain⟨⟨⟨⟨a,b⟩,c⟩,d⟩,e⟩:=this;refine⟨a,b,c,d,λj u=> ?_⟩;have:=zq.1 e _ (Xm u);simpa using this};{have:=zq.1 h3 f (vH.2 hf);have:=zq.1 this c (vH.2 hc);rw[decide_eq_true hp,qS,Bool.false_or]at this;obtain⟨⟨j,u,rfl⟩,h5⟩:=hr;unfold okP at this;have:=zq.1 this _ (Xm u);simp only[GF,zK,decide_eq_true_iff]at this;rcases this with(q|q)|q;{omega};{exact .inl q};{obtain⟨O,K⟩:=q;obtain⟨x,hx,J⟩:=NC.1 O;obtain⟨k,G,rfl⟩:=ml hx;refine .inr ⟨⟨k,G,?_⟩,K⟩;rw[<-of_decide_eq_true J,List.getD,List.getElem?_eq_getElem G,yq]}}
def ub (R:LI) (r:Int):Prop:= ∃j,j<R.length/\R.getD j 0=r
def qb6 {R X:LI} {r:Int} (h:ub R r):ub (R++X) r:=by obtain⟨j,u,h2⟩:=h;exact⟨j,by rw[zG];omega,by rw[kq u];exact h2⟩
def qay {R X:LI} {r:Int} (h:ub X r):ub (R++X) r:=by obtain⟨j,u,h2⟩:=h;exact⟨R.length+j,by rw[zG];omega,by rw[mW O,show R.length+j-R.length=j by omega];exact h2⟩
def eJ (n:Nat) (R:LI):Prop:= ∀i,i<R.length->0<=R.getD i 0/\R.getD i 0<(n:Int)
def eJ.app {n:Nat} {R X:LI} (h:eJ n R) (h':eJ n X):eJ n (R++X):=by intro i u;rw[zG]at u;by_cases c:i<R.length;{rw[kq c];exact h i c};{rw[mW O];exact h' _ O}
def eJ.one {n:Nat} {r:Int} (h:0<=r/\r<(n:Int)):eJ n [r]:=λi u=>by have:i=0:=by{simp at u;omega};subst this;exact h
def BF (c:Nat):Int:=4*2^c-4
def qok {c:Nat}:BF (c+1)=BF c+4*2^c:=by unfold BF;rw[Int.pow_succ];omega
def mG {c:Nat} (h:c<=4):(1:Int)<=2^c/\(2:Int)^c<=16:=by have:c=0\/c=1\/c=2\/c=3\/c=4:=O;rcases this with rfl|rfl|rfl|rfl|rfl<;>decide
structure LF (n:Nat) (l:List tP) (f:Nat) (left:List Nl):Prop where
 len:left.length=f
 fr: ∀c,c<f->Fr n (PF l c) (left.getD c (([]:LI),((0:Int),([]:List (List bR))))).1 (left.getD c (([]:LI),((0:Int),([]:List (List bR))))).2.1 (left.getD c (([]:LI),((0:Int),([]:List (List bR))))).2.2
 sm: ∀c,c<f->(left.getD c (([]:LI),((0:Int),([]:List (List bR))))).2.1<=4*2^c
section
variable {m:Nat} (hm:5000000000<=m) {n:Nat} (hn:n<=4) {l:List tP} (hF:Fit n l) {f:Nat} (hf:f<l.length) {left:List Nl} (hL:LF n l f left)
include hm hn hF hf hL
theorem Cf (a0 a1 t1 x1:Int) (o a2 a3 a4 t0:LI) (K J:List (List bR)): ∀(N c:Nat) (R:LI),f-c<N->c<=f->eJ n R->(R.length:Int)<=BF c->
 (∀c',c'<c->(l.getD c' ((0:Int),((0:Int),(([]:LI),(0:Int))))).2.2.2=(f:Int)-> ∀i:Nat,(i:Int)<(left.getD c' (([]:LI),((0:Int),([]:List (List bR))))).2.1->i<(left.getD c' (([]:LI),((0:Int),([]:List (List bR))))).1.length->ub R ((left.getD c' (([]:LI),((0:Int),([]:List (List bR))))).1.getD i 0))->
 ∃R',pC m N o l (f:Int) left a0 a1 a2 a3 a4 t0 t1 K R x1 J (c:Int)=some (.inl (o,l,(f:Int),left,(a0,a1,a2,a3,a4,()),(t0,t1,K,()),(R',x1,J,()),()))/\eJ n R'/\(R'.length:Int)<=BF f/\
  (∀c',c'<f->(l.getD c' ((0:Int),((0:Int),(([]:LI),(0:Int))))).2.2.2=(f:Int)-> ∀i:Nat,(i:Int)<(left.getD c' (([]:LI),((0:Int),([]:List (List bR))))).2.1->i<(left.getD c' (([]:LI),((0:Int),([]:List (List bR))))).1.length->ub R' ((left.getD c' (([]:LI),((0:Int),([]:List (List bR))))).1.getD i 0))
 |0,c,R,h,_,_,_,_=>absurd h (zC _)
 |N+1,c,R,h,i0,hR,hRl,u=>by have hl4:=hF.len;have h0:=hL.len;rw[pC,bQ];by_cases hc:c<f;{have hp:=mG (c:=c) O;have g0:=mG (c:=c+1) O;have wc:wI ((c:Int)+1)=((c+1:Nat):Int):=ay O;have k0:=qok (c:=c);have G:=hL.fr c hc;have e0:=hL.sm c hc;rw[iP O,iP O,zH,tN,aB,wc];by_cases e:(l.getD c ((0:Int),((0:Int),(([]:LI),(0:Int))))).2.2.2=(f:Int);{have f1:=G.full0;have f2:=G.fullr;have d0:(((left.getD c (([]:LI),((0:Int),([]:List (List bR))))).1.take (left.getD c (([]:LI),((0:Int),([]:List (List bR))))).2.1.toNat).length:Int)=(left.getD c (([]:LI),((0:Int),([]:List (List bR))))).2.1:=by{rw[zX];omega};have j0:BF c<=60:=by{unfold BF;omega};rw[iP e,iP O,iP O,iP O];rw[iP (show R.length+((left.getD c (([]:LI),((0:Int),([]:List (List bR))))).1.take (left.getD c (([]:LI),((0:Int),([]:List (List bR))))).2.1.toNat).length<=1073741824 by omega)];refine Cf a0 a1 t1 x1 o a2 a3 a4 t0 K J N (c+1) _ O O (hR.app λi hi=> ?_) (by rw[zG];omega) λc' c0 e' i h1 h2=> ?_;{rw[zX]at hi;rw[qj9 O];exact G.rng i O};{by_cases d:c'=c;{subst d;refine qay ⟨i,O,?_⟩;rw[qj9 O]};{exact qb6 (u c' O e' i h1 h2)}}};{rw[ae e];refine Cf a0 a1 t1 x1 o a2 a3 a4 t0 K J N (c+1) R O O hR O λc' c0 e' i h1 h2=> ?_;by_cases d:c'=c;{subst d;exact absurd e' e};{exact u c' O e' i h1 h2}}};{have:c=f:=O;subst this;rw[ae O];exact⟨R,rfl,hR,hRl,u⟩}
theorem KF (a0 a1 K x1:Int) (o a2 a3 a4 t0:LI) (J G:List (List bR)): ∀(N j:Nat) (R:LI),(l.getD f ((0:Int),((0:Int),(([]:LI),(0:Int))))).2.1.toNat-j<N->(l.getD f ((0:Int),((0:Int),(([]:LI),(0:Int))))).1<=(j:Int)->(j:Int)<=(l.getD f ((0:Int),((0:Int),(([]:LI),(0:Int))))).2.1->eJ n R->(R.length:Int)<=BF f+((j:Int)-(l.getD f ((0:Int),((0:Int),(([]:LI),(0:Int))))).1)->
 ∃u,sj m N o l (f:Int) left a0 a1 a2 a3 a4 t0 K J R x1 G (j:Int)=some (.inl (o,l,(f:Int),left,(a0,a1,a2,a3,a4,()),(t0,K,J,()),(u,x1,G,()),()))/\eJ n u/\(u.length:Int)<=BF f+((l.getD f ((0:Int),((0:Int),(([]:LI),(0:Int))))).2.1-(l.getD f ((0:Int),((0:Int),(([]:LI),(0:Int))))).1)/\
  (∀r,ub R r->ub u r)/\ ∀r,(j:Int)<=r->r<(l.getD f ((0:Int),((0:Int),(([]:LI),(0:Int))))).2.1->ub u r
 |0,j,R,h,_,_,_,_=>absurd h (zC _)
 |N+1,j,R,h,h1,h2,hR,hRl=>by have hl4:=hF.len;obtain⟨g1,g2,g3,g4,g5⟩:=hF.row f hf;have hp:=mG (c:=f) O;have c0:BF f<=60:=by{unfold BF;omega};rw[sj,iP O,tN,bQ];by_cases hj:(j:Int)<(l.getD f ((0:Int),((0:Int),(([]:LI),(0:Int))))).2.1;{rw[iP hj,iP (by rw[zN];omega),show wI ((j:Int)+1)=((j+1:Nat):Int)from ay O];obtain⟨u,e1,e2,e3,e4,e5⟩:=KF a0 a1 K x1 o a2 a3 a4 t0 J G N (j+1) (R++[(j:Int)]) O O O (hR.app (eJ.one O)) (by rw[zG,zN];omega);refine⟨u,e1,e2,e3,λr hr=>e4 r (qb6 hr),λr a b=> ?_⟩;by_cases c:r=(j:Int);{exact e4 r (qay ⟨0,by simp,by rw[c];rfl⟩)};{exact e5 r O b}};{rw[ae hj];exact⟨R,rfl,hR,O,λr hr=>hr,λr a b=>O⟩}
theorem Ce (a0 a1 t1 x1:Int) (o a2 a3 a4 t0:LI) (t2 x2:List (List bR)) {F:Nat} (K:F<=200): ∀(N k:Nat) (R:LI),(l.getD f ((0:Int),((0:Int),(([]:LI),(0:Int))))).2.2.1.length-k<N->k<=(l.getD f ((0:Int),((0:Int),(([]:LI),(0:Int))))).2.2.1.length->eJ n R->F<=R.length->R.length<=F+k->(∀i,F<=i->i<R.length->PF l f (R.getD i 0))->
 ∃u,pz m N o l (f:Int) left a0 a1 a2 a3 a4 t0 t1 t2 R x1 x2 (k:Int)=some (.inl (o,l,(f:Int),left,(a0,a1,a2,a3,a4,()),(t0,t1,t2,()),(u,x1,x2,()),()))/\eJ n u/\F<=u.length/\u.length<=F+4/\(∀i,F<=i->i<u.length->PF l f (u.getD i 0))/\
  (∀r,ub R r->ub u r)/\ ∀j,k<=j->j<(l.getD f ((0:Int),((0:Int),(([]:LI),(0:Int))))).2.2.1.length->(l.getD f ((0:Int),((0:Int),(([]:LI),(0:Int))))).2.1<=(l.getD f ((0:Int),((0:Int),(([]:LI),(0:Int))))).2.2.1.getD j 0->ub u ((l.getD f ((0:Int),((0:Int),(([]:LI),(0:Int))))).2.2.1.getD j 0)
 |0,k,R,h,_,_,_,_,_=>absurd h (zC _)
 |N+1,k,R,h,e0,hR,h1,h2,hP=>by have hl4:=hF.len;obtain⟨g1,g2,g3,g4,g5⟩:=hF.row f hf;have G:(0:Int)<=(f:Int)/\(f:Int)<(l.length:Int):=O;rw[pz,iP G,tN,bQ];by_cases hk:k<(l.getD f ((0:Int),((0:Int),(([]:LI),(0:Int))))).2.2.1.length;{have J:(0:Int)<=(k:Int)/\(k:Int)<((l.getD f ((0:Int),((0:Int),(([]:LI),(0:Int))))).2.2.1.length:Int):=O;rw[iP O,iP G,iP J,iP G,bQ,tN,show wI ((k:Int)+1)=((k+1:Nat):Int)from ay O];by_cases c:(l.getD f ((0:Int),((0:Int),(([]:LI),(0:Int))))).2.2.1.getD k 0>=(l.getD f ((0:Int),((0:Int),(([]:LI),(0:Int))))).2.1;{rw[iP c,iP G,iP J,iP (by rw[zN];omega)];obtain⟨u,e1,e2,e3,e4,e5,e6,e7⟩:=Ce a0 a1 t1 x1 o a2 a3 a4 t0 t2 x2 K N (k+1) (R++[(l.getD f ((0:Int),((0:Int),(([]:LI),(0:Int))))).2.2.1.getD k 0]) O O (hR.app (eJ.one (g5 k hk))) (by rw[zG];omega) (by rw[zG,zN];omega) λi d0 c0=>by{rw[zG,zN]at c0;by_cases d:i<R.length;{rw[kq d];exact hP i d0 d};{rw[mW O,show i-R.length=0 by omega];exact⟨⟨k,hk,rfl⟩,c⟩}};refine⟨u,e1,e2,e3,e4,e5,λr hr=>e6 r (qb6 hr),λj a b d=> ?_⟩;by_cases q:j=k;{subst q;exact e6 _ (qay ⟨0,by simp,rfl⟩)};{exact e7 j O b d}};{rw[ae c];obtain⟨u,e1,e2,e3,e4,e5,e6,e7⟩:=Ce a0 a1 t1 x1 o a2 a3 a4 t0 t2 x2 K N (k+1) R O O hR h1 O hP;refine⟨u,e1,e2,e3,e4,e5,e6,λj a b d=> ?_⟩;by_cases q:j=k;{subst q;exact absurd d O};{exact e7 j O b d}}};{rw[ae O];exact⟨R,rfl,hR,h1,O,hP,λr hr=>hr,λj a b=>O⟩}
end
end Go.Vs.F
set_option maxRecDepth 100000
namespace Go.Vs.F
structure Cg (k r:Nat) (s:List (List bR)):Prop where
 len:s.length=r
 row: ∀i,i<r->(s.getD i []).length=k
 cy: ∀i j,Cy ((s.getD i []).getD j gu)
def Cg.sq {k:Nat} {s:List (List bR)} (h:Cg k k s):Sq k s:=⟨h.len,h.row,h.cy⟩
def Cg.set {k r:Nat} {s:List (List bR)} (h:Cg k r s) {i j:Nat} (G:i<r) {d:bR} (J:Cy d):Cg k r (s.set i ((s.getD i []).set j d)):=by refine⟨by rw[zU];exact h.len,λq u=> ?_,λq c=> ?_⟩;{rw[Wc];split;{rw[zU];exact h.row i G};{exact h.row q u}};{rw[Wc];split;{rw[qe7];split;{exact J};{exact h.cy i c}};{exact h.cy q c}}
def Cg.snoc {k r:Nat} {s:List (List bR)} (h:Cg k r s):Cg k (r+1) (s++[List.replicate k gu]):=by have hl:=h.len;have u: ∀i,(s++[List.replicate k gu]).getD i []=if i<r then s.getD i []else if i=r then List.replicate k gu else []:=λi=>by{simp only[List.getD_eq_getElem?_getD];by_cases c:i<r;{rw[iP c,List.getElem?_append_left O]};{rw[ae c,List.getElem?_append_right O];by_cases d:i=r;{rw[iP d,show i-s.length=0 by omega];rfl};{rw[ae d,List.getElem?_eq_none (by rw[zN];omega)];rfl}}};refine⟨by rw[zG,hl];rfl,λi J=> ?_,λi j=> ?_⟩;{rw[u];by_cases c:i<r;{rw[iP c];exact h.row i c};{rw[ae c,iP O,zM]}};{rw[u];split;{exact h.cy i j};{split;{exact Pf (λd G=>by rw[(OI.1 G).2];exact Pg) j};{exact Pg}}}
section
variable {m:Nat} (hm:5000000000<=m) {n:Nat} (hn:n<=4) {S I V:LI} (hM:MV n n S I V) (hV:UL V) {o:LI} (hol:o.length=n) (hor: ∀i,i<o.length->0<=o.getD i 0/\o.getD i 0<(o.length:Int))
include hm hn hM hV hol hor
theorem Ud {i j:Int} (hi:0<=i/\i<(n:Int)) (hj:0<=j/\j<(n:Int)): ∃c,FG m (n:Int) (n:Int) S I V o i j=some (c,(),(),(),(),())/\Cn c:=by have h1:=hor i.toNat O;have h2:=hor j.toNat O;obtain⟨a,J⟩: ∃a:Nat,o.getD i.toNat 0=(a:Int):=⟨(o.getD i.toNat 0).toNat,O⟩;obtain⟨b,G⟩: ∃b:Nat,o.getD j.toNat 0=(b:Int):=⟨(o.getD j.toNat 0).toNat,O⟩;have K:(if(b:Int)>(a:Int)then(b:Int)else(a:Int))=((max a b:Nat):Int):=by{split<;>omega};have e2:(if(b:Int)<(a:Int)then(b:Int)else(a:Int))=((min a b:Nat):Int):=by{split<;>omega};obtain⟨u,_⟩:=B0 hM hV (i:=max a b) (j:=min a b) O;rw[FG,iP O,iP O,J,G,K,e2,Cl O hM O,bS];dsimp only;rw[GV O u];exact⟨_,rfl,NW _⟩
variable {l:List tP} {f:Nat} (hf:f<l.length) (left:List Nl) {R:LI} (hR:eJ n R) (hRl:R.length<=200)
include hf hR hRl
theorem Cd (K x1:Int) (t0:LI) (J:List (List bR)) {i:Nat} (hi:i<R.length): ∀(N j:Nat) (u:List (List bR)),R.length-j<N->Cg R.length (i+1) u->
 ∃G,mY m N o l (f:Int) left (n:Int) (n:Int) S I V t0 K J R x1 u (R.length:Int) (i:Int) (j:Int)=some (.inl (o,l,(f:Int),left,((n:Int),(n:Int),S,I,V,()),(t0,K,J,()),(R,x1,G,()),(R.length:Int),(i:Int),()))/\Cg R.length (i+1) G
 |0,j,u,h,_=>absurd h (zC _)
 |N+1,j,u,h,hs=>by rw[mY,bQ];by_cases hj:j<R.length;{have c1:(0:Int)<=(i:Int)/\(i:Int)<(R.length:Int):=O;have c2:(0:Int)<=(j:Int)/\(j:Int)<(R.length:Int):=O;have c3:(0:Int)<=(f:Int)/\(f:Int)<(l.length:Int):=O;have a1:=hs.len;have a2:=hs.row i O;have wj:wI ((j:Int)+1)=((j+1:Nat):Int):=ay O;have ih:=Cd K x1 t0 J hi N (j+1) u O hs;rw[iP O,iP c1,iP c2,iP c3,bQ,wj,iP c3];simp only[bQ,iP c1,iP c2,zH,tN];generalize (if R.getD j 0<R.getD i 0 then R.getD j 0 else R.getD i 0)=mn;split;{split;{obtain⟨c,e1,g1⟩:=Ud hm hn hM hV hol hor (hR i hi) (hR j hj);rw[iP O,e1,bS,iP O];exact Cd K x1 t0 J hi N (j+1) _ O (hs.set O (UY g1))};{exact ih}};{exact ih}};{rw[ae O];exact⟨u,rfl,hs⟩}
theorem KE (K x1:Int) (t0:LI) (J:List (List bR)): ∀(N i:Nat) (G:List (List bR)),R.length-i<N->i<=R.length->Cg R.length i G->
 ∃u,si m N o l (f:Int) left (n:Int) (n:Int) S I V t0 K J R x1 G (R.length:Int) (i:Int)=some (.inl (l,(f:Int),left,(t0,K,J,()),(R,x1,u,()),()))/\Sq R.length u
 |0,j,G,h,_,_=>absurd h (zC _)
 |N+1,i,G,h,a0,hs=>by rw[si,bQ];by_cases hi:i<R.length;{have a1:=hs.len;obtain⟨u,e1,e2⟩:=Cd hm hn hM hV hol hor hf left hR hRl K x1 t0 J hi m 0 _ O hs.snoc;rw[nZ]at e1;rw[iP O,iP O,iP (by rw[zN];omega),tN,e1,bS];dsimp only;rw[show wI ((i:Int)+1)=((i+1:Nat):Int)from ay O];exact KE K x1 t0 J N (i+1) u O O e2};{have:i=R.length:=O;subst this;rw[ae O];exact⟨G,rfl,hs.sq⟩}
end
section
variable {m:Nat} (hm:5000000000<=m) {n:Nat} {l:List tP} (hl4:l.length<=4) {f:Nat} (hf:f<l.length) (left:List Nl) {R:LI} (hRl:R.length<=200)
include hm hl4 hf hRl
theorem KC (t1 x1 K:Int) (t0:LI) (t2:List (List bR)) (c:Nat) {Y:LI} (hY: ∀i,i<Y.length->ub R (Y.getD i 0)) (a0:Y.length<=200) {ys:List (List bR)} (u:Sq Y.length ys) {i:Nat} (hi:i<Y.length): ∀(N j:Nat) (G:List (List bR)),Y.length-j<N->Sq R.length G->
 ∃J,se m N l (f:Int) left t0 t1 t2 R x1 G (c:Int) Y K ys (i:Int) (j:Int)=some (.inl (l,(f:Int),left,(t0,t1,t2,()),(R,x1,J,()),(c:Int),(Y,K,ys,()),(i:Int),()))/\Sq R.length J
 |0,j,G,h,_=>absurd h (zC _)
 |N+1,j,G,h,hs=>by rw[se,bQ];by_cases hj:j<Y.length;{obtain⟨p,e1,p1⟩: ∃p:Nat,lB m R (Y.getD i 0)=some ((p:Int),(),(),())/\p<R.length:=by{rcases ZX hm (rows:=R) O (Y.getD i 0)with⟨r,e,h1,h2⟩|⟨e,h2⟩;{exact⟨r,e,h1⟩};{obtain⟨j,a,b⟩:=hY i hi;exact absurd b (h2 j a)}};obtain⟨q,e2,q1⟩: ∃p:Nat,lB m R (Y.getD j 0)=some ((p:Int),(),(),())/\p<R.length:=by{rcases ZX hm (rows:=R) O (Y.getD j 0)with⟨r,e,h1,h2⟩|⟨e,h2⟩;{exact⟨r,e,h1⟩};{obtain⟨k,a,b⟩:=hY j hj;exact absurd b (h2 k a)}};have a1:=hs.len;have a2:=hs.row p p1;have b1:=u.len;have b2:=u.row i hi;obtain⟨c,e3,g3⟩:=Gz hm (hs.cy p q) (u.cy i j);unfold qO at e3;dsimp only at e3;have c2:(0:Int)<=(q:Int)/\(q:Int)<((G.getD p []).length:Int):=O;rw[iP O,iP O,tN,tN,e1,bS,iP O,e2,bS];dsimp only;rw[iP O,iP O,tN,tN,iP c2,iP O,iP O,e3,bS,iP c2,show wI ((j:Int)+1)=((j+1:Nat):Int)from ay O];exact KC t1 x1 K t0 t2 _ hY a0 u hi N (j+1) _ O (hs.set p1 (UY g3))};{rw[ae O];exact⟨G,rfl,hs⟩}
theorem KD (t1 x1 y1:Int) (t0:LI) (t2:List (List bR)) (c:Nat) {Y:LI} (hY: ∀i,i<Y.length->ub R (Y.getD i 0)) (K:Y.length<=200) {ys:List (List bR)} (J:Sq Y.length ys): ∀(N i:Nat) (G:List (List bR)),Y.length-i<N->Sq R.length G->
 ∃u,sf m N l (f:Int) left t0 t1 t2 R x1 G (c:Int) Y y1 ys (i:Int)=some (.inl (l,(f:Int),left,(t0,t1,t2,()),(R,x1,u,()),(c:Int),()))/\Sq R.length u
 |0,j,G,h,_=>absurd h (zC _)
 |N+1,i,G,h,hs=>by rw[sf,bQ];by_cases hi:i<Y.length;{obtain⟨u,e1,e2⟩:=KC hm hl4 hf left hRl t1 x1 y1 t0 t2 c hY K J hi m 0 G O hs;rw[nZ]at e1;rw[iP O,e1,bS];dsimp only;rw[show wI ((i:Int)+1)=((i+1:Nat):Int)from ay O];exact KD t1 x1 y1 t0 t2 c hY K J N (i+1) u O e2};{rw[ae O];exact⟨G,rfl,hs⟩}
theorem Cc (a0:left.length=f) (hc: ∀c,c<f->(l.getD c ((0:Int),((0:Int),(([]:LI),(0:Int))))).2.2.2=(f:Int)->Sq (left.getD c (([]:LI),((0:Int),([]:List (List bR))))).1.length (left.getD c (([]:LI),((0:Int),([]:List (List bR))))).2.2/\(left.getD c (([]:LI),((0:Int),([]:List (List bR))))).1.length<=200/\ ∀i,i<(left.getD c (([]:LI),((0:Int),([]:List (List bR))))).1.length->ub R ((left.getD c (([]:LI),((0:Int),([]:List (List bR))))).1.getD i 0)) (K x1:Int) (t0:LI) (J:List (List bR)): ∀(N c:Nat) (G:List (List bR)),f-c<N->Sq R.length G->
 ∃u,py m N l (f:Int) left t0 K J R x1 G (c:Int)=some (.inl (left,(t0,K,J,()),(R,x1,u,()),()))/\Sq R.length u
 |0,j,G,h,_=>absurd h (zC _)
 |N+1,c,G,h,hs=>by rw[py,bQ];by_cases c0:c<f;{have wc:wI ((c:Int)+1)=((c+1:Nat):Int):=ay O;rw[iP O,iP O,tN,aO,wc,zH];by_cases e:(l.getD c ((0:Int),((0:Int),(([]:LI),(0:Int))))).2.2.2=(f:Int);{obtain⟨g1,g2,g3⟩:=hc c c0 e;obtain⟨u,e1,e2⟩:=KD hm hl4 hf left hRl K x1 (left.getD c (([]:LI),((0:Int),([]:List (List bR))))).2.1 t0 J c g3 g2 g1 m 0 G O hs;rw[nZ]at e1;rw[iP e,iP O,e1,bS];dsimp only;rw[wc];exact Cc a0 hc K x1 t0 J N (c+1) u O e2};{rw[ae e];exact Cc a0 hc K x1 t0 J N (c+1) G O hs}};{rw[ae O];exact⟨G,rfl,hs⟩}
end
end Go.Vs.F
set_option maxRecDepth 100000
namespace Go.Vs.F
abbrev Nk:=LI×LI×LI×List LI
structure Pv (n:Nat) (p:Nk):Prop where
 w:p.1.length=1\/p.1.length=2
 rng:eJ n p.1
 dl:p.2.1.length<=3
 du:UL p.2.1
 rl:p.2.2.1.length<=40
 rr:eJ n p.2.2.1
 pl:PL p.1.length p.2.2.1.length 0 p.2.2.2
def df:List Nk->Nat
 |[]=>0
 |p::P=>p.1.length+df P
def qbr {P Q:List Nk}:df (P++Q)=df P+df Q:=by induction P with|nil=>simp[df]|cons p P u=>{rw[Ct,df,df,u];omega}
def Jt {n:Nat} {P:List Nk} (h: ∀p∈P,Pv n p):P.length<=df P:=by induction P with|nil=>exact zI _|cons p P u=>{have:=(h p mS).w;have:=u λq G=>h q (mT G);rw[df,KV];omega}
def eJ.at {n:Nat} {rows:LI} (h:eJ n rows) {full:Int} (hf:full<=(rows.length:Int)) {A:LI} (hA:ic full A):eJ n (lL A rows):=λi u=>by unfold lL at u⊢;rw[zi]at u;have g:=hA.get u;rw[show(A.map λa=>rows.getD a.toNat 0).getD i 0=rows.getD (A.getD i 0).toNat 0 by simp[List.getD,u]];exact h _ O
def Fr.elim {n:Nat} {P:Int->Prop} {rows:LI} {full:Int} {s:List (List bR)} (h:Fr n P rows full s) {A:LI} (hA:ic full A) {y2:List (List bR)} (hs:Sq (bF A rows rows.length).length y2):
 Fr n P (bF A rows rows.length) (full-(A.length:Int)) y2/\eJ n (bF A rows rows.length)/\(bF A rows rows.length).length+A.length=rows.length:=by have h1:=h.fullr;have h2:=h.len;have h0:=h.full0;have hc:=qhk hA (t:=rows.length) h1;have hl:(bF A rows rows.length).length=(keep A rows.length).length:=by{unfold bF;rw[zi]};have hg: ∀i,i<(keep A rows.length).length->(bF A rows rows.length).getD i 0=rows.getD ((keep A rows.length).getD i 0) 0:=λi G=>by{unfold bF;simp[List.getD,G]};have J: ∀i,i<(keep A rows.length).length->(keep A rows.length).getD i 0<rows.length:=λi G=>qi6 (A:=A) (by simp[List.getD,G]);have hr:eJ n (bF A rows rows.length):=λi G=>by{rw[hl]at G;rw[hg i G];exact h.rng _ (J i G)};have a0:(A.length:Int)<=full:=by{cases hA with| @one p hp=>{show(1:Int)<=full;omega}| @two p r h3 h4 h5=>{show(2:Int)<=full;omega}};refine⟨⟨O,O,O,hr,λi K u=> ?_,hs⟩,hr,O⟩;rw[hl]at u;rw[hg i u];obtain⟨g1,g2⟩:=qrp h0 hA h1 K u;exact h.rest _ g1 g2
section
variable {m:Nat} (hm:5000000000<=m) {n:Nat} (hn:n<=4) {S I V:LI} (hM:MV n n S I V) (hV:UL V) {o:LI} (hol:o.length=n) (hor: ∀i,i<o.length->0<=o.getD i 0/\o.getD i 0<(o.length:Int)) {l:List tP} (hF:Fit n l)
include hm hn hM hV hol hor hF
theorem qry {f:Nat} (hf:f<l.length) {left:List Nl} (hL:LF n l f left):
 ∃rows full s,WC m (n:Int) (n:Int) S I V o l (f:Int) left=some ((rows,full,s,()),(),(),(),(),left,())/\Fr n (PF l f) rows full s/\full<=4*2^f:=by have hl4:=hF.len;obtain⟨g1,g2,g3,g4,g5⟩:=hF.row f hf;have hp:=mG (c:=f) O;obtain⟨R0,e0,a0,b0,c0⟩:=Cf hm hn hF hf hL (n:Int) (n:Int) 0 0 o S I V [] [] [] m 0 [] O O (λi G=>absurd G (zC _)) (by show(0:Int)<=BF 0;decide) (λc' J=>absurd J (zC _));rw[nZ]at e0;obtain⟨K,e1,a1,b1,c1,d1⟩:=KF hm hn hF hf hL (n:Int) (n:Int) 0 0 o S I V [] [] [] m (l.getD f ((0:Int),((0:Int),(([]:LI),(0:Int))))).1.toNat R0 O O O a0 O;rw[show(((l.getD f ((0:Int),((0:Int),(([]:LI),(0:Int))))).1.toNat:Nat):Int)=(l.getD f ((0:Int),((0:Int),(([]:LI),(0:Int))))).1 by omega]at e1 d1;have h0:BF f+4=4*2^f:=by{unfold BF;omega};obtain⟨R2,e2,a2,b2,c2,d2,k2,j2⟩:=Ce hm hn hF hf hL (n:Int) (n:Int) 0 (K.length:Int) o S I V [] [] [] (F:=K.length) O m 0 K O O a1 (zI _) O (λi h1 h2=>absurd h2 O);rw[nZ]at e2;have d0: ∀c,c<f->(l.getD c ((0:Int),((0:Int),(([]:LI),(0:Int))))).2.2.2=(f:Int)->Sq (left.getD c (([]:LI),((0:Int),([]:List (List bR))))).1.length (left.getD c (([]:LI),((0:Int),([]:List (List bR))))).2.2/\(left.getD c (([]:LI),((0:Int),([]:List (List bR))))).1.length<=200/\ ∀i,i<(left.getD c (([]:LI),((0:Int),([]:List (List bR))))).1.length->ub R2 ((left.getD c (([]:LI),((0:Int),([]:List (List bR))))).1.getD i 0):=λc J u=>by{have fr:=hL.fr c J;have sm:=hL.sm c J;have g0:=mG (c:=c) O;have fl:=fr.len;refine⟨fr.sq,O,λi G=> ?_⟩;by_cases q:(i:Int)<(left.getD c (([]:LI),((0:Int),([]:List (List bR))))).2.1;{exact k2 _ (c1 _ (c0 c J u i q G))};{have hP:=fr.rest i O G;rcases hF.par c f J hf u _ hP with⟨q1,q2⟩|⟨⟨j,q1,q2⟩,q3⟩;{exact k2 _ (d1 _ q1 q2)};{have:=j2 j (lM _) q1 (by rw[q2];exact q3);rw[q2]at this;exact this}}};obtain⟨x2,e3,s3⟩:=KE hm hn hM hV hol hor hf left a2 O 0 (K.length:Int) [] [] m 0 [] O O ⟨rfl,λi G=>absurd G (zC _),λi j=>Pg⟩;rw[nZ]at e3;obtain⟨x3,e4,s4⟩:=Cc hm hl4 hf left O hL.len d0 0 (K.length:Int) [] [] m 0 x2 O s3;rw[nZ]at e4;refine⟨R2,(K.length:Int),x3,?_,⟨O,O,O,a2,λi h1 h2=>d2 i O h2,s4⟩,O⟩;rw[WC,e0,bS];dsimp only;rw[iP O,tN,e1,bS];dsimp only;rw[e2,bS];dsimp only;rw[e3,bS];dsimp only;rw[e4];rfl
omit hn hM hV hol hor hF in
theorem Ko (a0 a1 K j0 f:Int) (o a2 a3 a4 i0 h0 g0 e0 d0 c0:LI) (l:List tP) (left:List Nl) {Q:Int->Prop}: ∀(N:Nat) (P:List Nk) (rows:LI) (full:Int) (s:List (List bR)),full.toNat+1<N->Fr n Q rows full s->full<=32->(∀p∈P,Pv n p)->P.length<=1000-full.toNat->
 (∃r,iV m N o l a0 a1 a2 a3 a4 i0 h0 g0 e0 d0 c0 K left P j0 false f rows full s=some (.inl r)/\r.2.2.2.2.2.2.2.1=true)\/
 (∃P' G u s',iV m N o l a0 a1 a2 a3 a4 i0 h0 g0 e0 d0 c0 K left P j0 false f rows full s=some (.inl (o,l,(a0,a1,a2,a3,a4,()),(i0,h0,g0,e0,d0,c0,K,()),left,P',j0,false,f,(G,u,s',()),()))/\
   Fr n Q G u s'/\u<=full/\(∀p∈P',Pv n p)/\(df P':Int)+u<=df P+full)
 |0,P,rows,full,s,h,_,_,_,_=>absurd h (zC _)
 |N+1,P,rows,full,s,h,J,u0,hP,t0=>by have f0:=J.full0;have f1:=J.fullr;have f2:=J.len;obtain⟨A,ok,e1,hA⟩:=qnz hm (rows:=rows) O (x1:=full) f1 J.sq;rw[iV,show(!false)=true from rfl,cond_true,e1,bS];dsimp only;rcases hA with rfl|⟨rfl,hA⟩;{cases ok with|false=>exact .inl ⟨_,rfl,rfl⟩|true=>exact .inr ⟨P,rows,full,s,rfl,J,O,hP,O⟩};{have q0:=hA.len;obtain⟨r,e2,hr⟩:=qxb hm (rows:=rows) O f1 J.sq hA full;rw[show(!true)=false from rfl,cond_false,aB,ae O,e2,bS];dsimp only;rcases hr with hr|⟨y2,d,L,rfl,s2,d1,d2,d3⟩;{rw[hr,show(!false)=true from rfl,cond_true,iP (by rw[zN];omega)];obtain⟨N,rfl⟩: ∃k,N=k+1:=⟨N-1,O⟩;rw[iV];exact .inl ⟨_,rfl,rfl⟩};{obtain⟨q1,q2,q3⟩:=J.elim hA s2;have l0:Pv n (lL A rows,d,bF A rows rows.length,L):=by{have k0:(lL A rows).length=A.length:=by{unfold lL;rw[zi]};refine⟨by rw[k0];exact q0,eJ.at J.rng f1 hA,by show d.length<=3;omega,d2,by show(bF A rows rows.length).length<=40;omega,q2,by rw[k0];exact d3⟩};have s0:=q1.full0;have hw:wI (full-(A.length:Int))=full-(A.length:Int):=by{rw[wQ,wi O O]};have r0: ∀p∈P++[(lL A rows,d,bF A rows rows.length,L)],Pv n p:=λp hp=>by{rcases zZ.1 hp with hp|hp;{exact hP p hp};{rw[zA.1 hp];exact l0}};dsimp only;rw[show(!true)=false from rfl,cond_false,iP (by rw[zN];omega),hw];rcases Ko a0 a1 K j0 f o a2 a3 a4 i0 h0 g0 e0 d0 c0 l left N (P++[(lL A rows,d,bF A rows rows.length,L)]) (bF A rows rows.length) (full-(A.length:Int)) y2 O q1 O r0 (by rw[zG,zN];omega)with h1|⟨P',G,u,s',h1,h2,h3,h4,h5⟩;{exact .inl h1};{refine .inr ⟨P',G,u,s',h1,h2,O,h4,?_⟩;have k0:(lL A rows).length=A.length:=by{unfold lL;rw[zi]};have m0:df (P++[(lL A rows,d,bF A rows rows.length,L)])=df P+A.length:=by{rw[qbr];simp only[df,k0];omega};rw[m0]at h5;omega}}}
theorem Kp (J:Int) (g0 e0 d0 c0 a0 K:LI): ∀(N f:Nat) (left:List Nl) (P:List Nk) (G:Int),l.length-f<N->f<=l.length->LF n l f left->(∀p∈P,Pv n p)->(df P:Int)<=BF f->
 (∃e,pE m N o l (n:Int) (n:Int) S I V g0 e0 d0 c0 a0 K J left P G false (f:Int)=some (.inl (([],[],[],[],[],[],0,()),e,())))\/
 (∃P' t,pE m N o l (n:Int) (n:Int) S I V g0 e0 d0 c0 a0 K J left P G false (f:Int)=some (.inr (.inl (o,(g0,e0,d0,c0,a0,K,J,()),P',t,())))/\(∀p∈P',Pv n p)/\df P'<=60)
 |0,f,left,P,G,h,_,_,_,_=>absurd h (zC _)
 |N+1,f,left,P,G,h,k0,hL,hP,hc=>by have hl4:=hF.len;rw[pE,bQ];by_cases hf:f<l.length;{have hp:=mG (c:=f) O;have r0:=qok (c:=f);have s0:(2:Int)^f<=8:=by{have:f=0\/f=1\/f=2\/f=3:=O;rcases this with rfl|rfl|rfl|rfl<;>decide};have q0:BF f<=28:=by{unfold BF;omega};have m0:=Jt hP;obtain⟨rows,full,s,e1,g1,g2⟩:=qry hm hn hM hV hol hor hF hf hL;have f0:=g1.full0;have f2:=g1.len;rw[iP O,e1,bS,bQ];dsimp only;rw[ae O];rcases Ko hm (n:Int) (n:Int) J G (f:Int) o S I V g0 e0 d0 c0 a0 K l left m P rows full s O g1 O hP O with⟨r,e2,e3⟩|⟨P',h0,u,s',e2,q1,q2,q3,q4⟩;{rw[e2,bS];dsimp only;rw[e3];exact .inl ⟨_,rfl⟩};{have l0:=q1.full0;have i0:=hL.len;rw[e2,bS];dsimp only;rw[cond_false,iP (by rw[zN];omega),show wI ((f:Int)+1)=((f+1:Nat):Int)from ay O];refine Kp J g0 e0 d0 c0 a0 K N (f+1) _ P' _ O O ?_ q3 O;have hg: ∀c,(left++[(h0,u,s')]).getD c (([]:LI),((0:Int),([]:List (List bR))))=if c<f then left.getD c (([]:LI),((0:Int),([]:List (List bR))))else if c=f then(h0,u,s')else(([]:LI),((0:Int),([]:List (List bR)))):=λc=>by{simp only[List.getD_eq_getElem?_getD];by_cases a:c<f;{rw[iP a,List.getElem?_append_left O]};{rw[ae a,List.getElem?_append_right O];by_cases b:c=f;{rw[iP b,show c-left.length=0 by omega];rfl};{rw[ae b,List.getElem?_eq_none (by rw[zN];omega)];rfl}}};refine⟨by rw[zG,i0];rfl,λc j0=> ?_,λc j0=> ?_⟩;{rw[hg];by_cases a:c<f;{rw[iP a];exact hL.fr c a};{have:c=f:=O;subst this;rw[ae a,iP rfl];exact q1}};{rw[hg];by_cases a:c<f;{rw[iP a];exact hL.sm c a};{have:c=f:=O;subst this;rw[ae a,iP rfl];show u<=_;omega}}}};{have e:f=l.length:=O;rw[ae O];refine .inr ⟨P,G,rfl,hP,?_⟩;have hp:=mG (c:=f) O;unfold BF at hc;omega}
end
end Go.Vs.F
set_option maxRecDepth 100000
namespace Go.Vs.F
def uA (X:LI) (c:Nat) (p:Int):LI:=X.take c++[p]++(X.drop c).take (X.length-c)
def qje {X:LI} {c:Nat} (h:c<=X.length) {p:Int}:(uA X c p).length=X.length+1:=by unfold uA;simp only[zG,zX,mA,zN];omega
def qyf {X:LI} {c:Nat} {p:Int} (O:UL X) (J:b7 p):UL (uA X c p):=by have h: ∀x∈uA X c p,b7 x:=λx hx=>by{have hm: ∀y∈X,b7 y:=λy G=>by{obtain⟨j,u,rfl⟩:=ml G;have:=O j u;rwa [show X.getD j 0=X[j] by simp[List.getD,u]]at this};unfold uA at hx;rcases zZ.1 hx with hx|hx;{rcases zZ.1 hx with hx|hx;{exact hm x (oK hx)};{rw[zA.1 hx];exact J}};{exact hm x (xa (oK hx))}};exact λi K=>h _ (Xm K)
section
variable {m:Nat} (hm:5000000000<=m) {n:Nat} (hn:n<=4) {P:List Nk} (hP: ∀p∈P,Pv n p) (hPc:df P<=60)
include hm hn hP hPc
theorem Ci {b:Nat} (u:b<P.length):Pv n (P.getD b (([]:LI),(([]:LI),(([]:LI),([]:List LI))))):=hP _ (by simp[List.getD,u])
theorem Ku (e0 u b k i p:Int) (l0 k0 j0 i0 h0 g0 t7 d0 c0 a0 K J G Y:LI) {X:LI} (hX:X.length<=1000): ∀(N c:Nat),X.length-c<N->c<=X.length->
 ∃c':Nat,rT m N P l0 k0 j0 i0 h0 g0 e0 t7 d0 c0 a0 K J G u b k X Y i p (c:Int)=some (.inl (P,(l0,k0,j0,i0,h0,g0,e0,()),t7,(d0,c0,a0,K,J,G,u,()),b,k,X,Y,i,p,(c':Int),()))/\c'<=X.length
 |0,c,h,_=>absurd h (zC _)
 |N+1,c,h,m0=>by rw[rT,bQ];by_cases hc:c<X.length;{rw[iP O,iP O,bQ];split;{rw[show wI ((c:Int)+1)=((c+1:Nat):Int)from ay O];exact Ku e0 u b k i p l0 k0 j0 i0 h0 g0 t7 d0 c0 a0 K J G Y hX N (c+1) O O};{exact⟨c,rfl,m0⟩}};{rw[ae O];exact⟨c,rfl,m0⟩}
theorem Kv (g0 G:Int) (m0 l0 k0 j0 i0 h0 e0 d0 c0 a0 K J:LI) {t7:LI} (h7:t7.length=n) {b:Nat} (hb:b<P.length) {k:Nat} (hk:k<(P.getD b (([]:LI),(([]:LI),(([]:LI),([]:List LI))))).1.length): ∀(N i:Nat) (X Y:LI),(P.getD b (([]:LI),(([]:LI),(([]:LI),([]:List LI))))).2.2.1.length-i<N->i<=(P.getD b (([]:LI),(([]:LI),(([]:LI),([]:List LI))))).2.2.1.length->X.length=i->Y.length=i->UL Y->
 ∃X' Y',rU m N P m0 l0 k0 j0 i0 h0 g0 t7 e0 d0 c0 a0 K J G (b:Int) (k:Int) X Y (i:Int)=some (.inl (P,(m0,l0,k0,j0,i0,h0,g0,()),t7,(e0,d0,c0,a0,K,J,G,()),(b:Int),(k:Int),X',Y',()))/\X'.length=(P.getD b (([]:LI),(([]:LI),(([]:LI),([]:List LI))))).2.2.1.length/\Y'.length=(P.getD b (([]:LI),(([]:LI),(([]:LI),([]:List LI))))).2.2.1.length/\UL Y'
 |0,i,X,Y,h,_,_,_,_=>absurd h (zC _)
 |N+1,i,X,Y,h,u0,hX,hY,hU=>by have hp:=Ci hm hn hP hPc hb;have v0:=Jt hP;have q0:(0:Int)<=(b:Int)/\(b:Int)<(P.length:Int):=O;have s0:=hp.rl;have t0:=hp.pl.len;rw[rU,iP q0,tN,bQ];by_cases hi:i<(P.getD b (([]:LI),(([]:LI),(([]:LI),([]:List LI))))).2.2.1.length;{have r0:(0:Int)<=(i:Int)/\(i:Int)<((P.getD b (([]:LI),(([]:LI),(([]:LI),([]:List LI))))).2.2.1.length:Int):=O;have hr:=hp.rr i hi;obtain⟨c1,c2⟩:=hp.pl.col k hk;rw[ae O]at c1;obtain⟨c,e1,g1⟩:=Ku hm hn hP hPc g0 G (b:Int) (k:Int) (i:Int) (t7.getD ((P.getD b (([]:LI),(([]:LI),(([]:LI),([]:List LI))))).2.2.1.getD i 0).toNat 0) m0 l0 k0 j0 i0 h0 t7 e0 d0 c0 a0 K J Y (X:=X) O m 0 O O;rw[nZ]at e1;have u:=c2 i O;rw[iP O,iP q0,iP r0,tN,iP O,zH,e1,bS];dsimp only;simp only[lN,OM,yn,tN,zH];rw[iP O,iP (by simp only[Nx,zX];omega),iP (by simp only[zX,zN];omega),iP O,iP (by simp only[zG,zX,mA,zN];omega),iP O,iP (by simp only[Nx,zX];omega),iP q0,iP O,iP O,iP (by simp only[zX,zN];omega),iP O,iP (by simp only[zG,zX,mA,zN];omega),show wI ((i:Int)+1)=((i+1:Nat):Int)from ay O];have l1:=qje (X:=X) (c:=c) g1 (p:=t7.getD ((P.getD b (([]:LI),(([]:LI),(([]:LI),([]:List LI))))).2.2.1.getD i 0).toNat 0);have l2:=qje (X:=Y) (c:=c) O (p:=((P.getD b (([]:LI),(([]:LI),(([]:LI),([]:List LI))))).2.2.2.getD k []).getD i 0);have l3:=qyf (X:=Y) (c:=c) hU u;exact Kv g0 G m0 l0 k0 j0 i0 h0 e0 d0 c0 a0 K J h7 hb hk N (i+1) (uA X c (t7.getD ((P.getD b (([]:LI),(([]:LI),(([]:LI),([]:List LI))))).2.2.1.getD i 0).toNat 0)) (uA Y c (((P.getD b (([]:LI),(([]:LI),(([]:LI),([]:List LI))))).2.2.2.getD k []).getD i 0)) O O O O l3};{rw[ae O];exact⟨X,Y,rfl,O,O,hU⟩}
theorem Kw (a0 u:Int) (i0 h0 g0 e0 d0 c0 K J G:LI) {t7:LI} (h7:t7.length=n) {b:Nat} (hb:b<P.length) {C:Nat} (hC:C<=60): ∀(N k:Nat) (S I V:LI),(P.getD b (([]:LI),(([]:LI),(([]:LI),([]:List LI))))).1.length-k<N->k<=(P.getD b (([]:LI),(([]:LI),(([]:LI),([]:List LI))))).1.length->S.length=1+C+k->I.length<=40*(C+k)->V.length=I.length->UL V->
 ∃S' I' V',rV m N P i0 h0 g0 e0 d0 c0 a0 t7 K J G S I V u (b:Int) (k:Int)=some (.inl (P,(i0,h0,g0,e0,d0,c0,a0,()),t7,(K,J,G,S',I',V',u,()),(b:Int),()))/\S'.length=1+C+(P.getD b (([]:LI),(([]:LI),(([]:LI),([]:List LI))))).1.length/\I'.length<=40*(C+(P.getD b (([]:LI),(([]:LI),(([]:LI),([]:List LI))))).1.length)/\V'.length=I'.length/\UL V'
 |0,k,S,I,V,h,_,_,_,_,_=>absurd h (zC _)
 |N+1,k,S,I,V,h,l0,hS,hI,hV,hU=>by have hp:=Ci hm hn hP hPc hb;have m0:=Jt hP;have hw:=hp.w;have k0:=hp.rl;rw[rV,iP O,tN,bQ];by_cases hk:k<(P.getD b (([]:LI),(([]:LI),(([]:LI),([]:List LI))))).1.length;{obtain⟨X,Y,e1,x1,x2,x3⟩:=Kv hm hn hP hPc a0 u i0 h0 g0 e0 d0 c0 K J G S I V h7 hb hk m 0 [] [] O O rfl rfl (λi hi=>absurd hi (zC _));rw[nZ]at e1;have j0:UL (V++Y):=λi hi=>by{rw[zG]at hi;by_cases c:i<V.length;{rw[kq c];exact hU i c};{rw[mW O];exact x3 _ O}};rw[iP O,e1,bS];dsimp only;rw[iP O,iP O,iP (by rw[zN];omega),show wI ((k:Int)+1)=((k+1:Nat):Int)from ay O];exact Kw a0 u i0 h0 g0 e0 d0 c0 K J G h7 hb hC N (k+1) _ _ _ O O (by rw[zG,zN];omega) (by rw[zG];omega) (by rw[zG,zG];omega) j0};{have e:k=(P.getD b (([]:LI),(([]:LI),(([]:LI),([]:List LI))))).1.length:=O;rw[ae O];exact⟨S,I,V,rfl,O,by rw[<-e];exact hI,hV,hU⟩}
theorem qeh {b:Nat} (u:b<P.length):df (P.take (b+1))=df (P.take b)+(P.getD b (([]:LI),(([]:LI),(([]:LI),([]:List LI))))).1.length/\df (P.take (b+1))<=df P:=by have e:P.take (b+1)=P.take b++[P.getD b (([]:LI),(([]:LI),(([]:LI),([]:List LI))))]:=by{rw[OJ u];simp[List.getD,u]};have G:df (P.take (b+1))=df (P.take b)+(P.getD b (([]:LI),(([]:LI),(([]:LI),([]:List LI))))).1.length:=by{rw[e,qbr];simp only[df];omega};refine⟨G,?_⟩;have:df P=df (P.take (b+1))+df (P.drop (b+1)):=by{rw[<-qbr,yp]};omega
theorem Kx (a0 u:Int) (i0 h0 g0 e0 d0 c0 K J G:LI) {t7:LI} (h7:t7.length=n): ∀(N b:Nat) (S I V:LI),P.length-b<N->b<=P.length->S.length=1+df (P.take b)->I.length<=40*df (P.take b)->V.length=I.length->UL V->
 ∃S' I' V',rW m N P i0 h0 g0 e0 d0 c0 a0 t7 K J G S I V u (b:Int)=some (.inl ((i0,h0,g0,e0,d0,c0,a0,()),(K,J,G,S',I',V',u,()),()))/\S'.length<=61/\I'.length<=2400/\V'.length=I'.length/\UL V'
 |0,k,S,I,V,h,_,_,_,_,_=>absurd h (zC _)
 |N+1,b,S,I,V,h,k0,hS,hI,hV,hU=>by have j0:=Jt hP;rw[rW,bQ];by_cases hb:b<P.length;{obtain⟨k1,k2⟩:=qeh hm hn hP hPc hb;obtain⟨S',I',V',e1,e2,e3,e4,e5⟩:=Kw hm hn hP hPc a0 u i0 h0 g0 e0 d0 c0 K J G h7 hb (C:=df (P.take b)) O m 0 S I V (by have:=(Ci hm hn hP hPc hb).w;omega) O O O hV hU;rw[nZ]at e1;rw[iP O,e1,bS];dsimp only;rw[show wI ((b:Int)+1)=((b+1:Nat):Int)from ay O];exact Kx a0 u i0 h0 g0 e0 d0 c0 K J G h7 N (b+1) S' I' V' O O O (by rw[k1];exact e3) e4 e5};{have e:b=P.length:=O;rw[e,GG]at hS hI;rw[ae O];exact⟨S,I,V,rfl,O,O,hV,hU⟩}
variable {o:LI} (hol:o.length=n) (hor: ∀i,i<o.length->0<=o.getD i 0/\o.getD i 0<(o.length:Int))
include hol hor
theorem Ky (d0 u:Int) (k0 j0 i0 h0 g0 e0 c0 a0 K J G:LI) {b:Nat} (hb:b<P.length) {C:Nat} (hC:C<=60): ∀(N k:Nat) (t7 F:LI),(P.getD b (([]:LI),(([]:LI),(([]:LI),([]:List LI))))).1.length-k<N->k<=(P.getD b (([]:LI),(([]:LI),(([]:LI),([]:List LI))))).1.length->t7.length=n->F.length=C+k->
 ∃m0 F',rZ m N o P k0 j0 i0 h0 g0 e0 d0 t7 F c0 a0 K J G u (b:Int) (k:Int)=some (.inl (o,P,(k0,j0,i0,h0,g0,e0,d0,()),m0,(F',c0,a0,K,J,G,u,()),(b:Int),()))/\m0.length=n/\F'.length=C+(P.getD b (([]:LI),(([]:LI),(([]:LI),([]:List LI))))).1.length
 |0,k,t7,F,h,_,_,_=>absurd h (zC _)
 |N+1,k,t7,F,h,r0,h7,t0=>by have hp:=Ci hm hn hP hPc hb;have s0:=Jt hP;have hw:=hp.w;have l0:(0:Int)<=(b:Int)/\(b:Int)<(P.length:Int):=O;rw[rZ,iP l0,tN,bQ];by_cases hk:k<(P.getD b (([]:LI),(([]:LI),(([]:LI),([]:List LI))))).1.length;{have q0:(0:Int)<=(k:Int)/\(k:Int)<((P.getD b (([]:LI),(([]:LI),(([]:LI),([]:List LI))))).1.length:Int):=O;have hr:=hp.rng k hk;rw[iP O,iP l0,iP q0,tN,iP O,iP l0,iP q0,iP O,iP (by rw[zN];omega),show wI ((k:Int)+1)=((k+1:Nat):Int)from ay O];exact Ky d0 u k0 j0 i0 h0 g0 e0 c0 a0 K J G hb hC N (k+1) _ _ O O (by rw[zU];exact h7) (by rw[zG,zN];omega)};{have e:k=(P.getD b (([]:LI),(([]:LI),(([]:LI),([]:List LI))))).1.length:=O;rw[ae O];exact⟨t7,F,rfl,h7,O⟩}
theorem Kz (c0 u:Int) (j0 i0 h0 g0 e0 d0 K J G:LI): ∀(N b:Nat) (t7 F Z D:LI),P.length-b<N->b<=P.length->t7.length=n->F.length=df (P.take b)->Z.length=b->D.length<=3*b->UL D->
 ∃a0 F' Z' D',r8 m N o P j0 i0 h0 g0 e0 d0 c0 t7 F Z D K J G u (b:Int)=some (.inl (P,(j0,i0,h0,g0,e0,d0,c0,()),a0,(F',Z',D',K,J,G,u,()),()))/\a0.length=n/\F'.length<=60/\Z'.length<=60/\D'.length<=180/\UL D'
 |0,b,t7,F,Z,D,h,_,_,_,_,_,_=>absurd h (zC _)
 |N+1,b,t7,F,Z,D,h,t0,h7,q0,hZ,hD,hU=>by have s0:=Jt hP;rw[r8,bQ];by_cases hb:b<P.length;{obtain⟨k1,k2⟩:=qeh hm hn hP hPc hb;have hp:=Ci hm hn hP hPc hb;have hw:=hp.w;have r0:=hp.dl;have l0:=hp.du;obtain⟨a0,F',e1,e2,e3⟩:=Ky hm hn hP hPc hol hor c0 u j0 i0 h0 g0 e0 d0 Z D K J G hb (C:=df (P.take b)) O m 0 t7 F O O h7 O;rw[nZ]at e1;have k0:(0:Int)<=(b:Int)/\(b:Int)<(P.length:Int):=O;have m0:UL (D++(P.getD b (([]:LI),(([]:LI),(([]:LI),([]:List LI))))).2.1):=λi hi=>by{rw[zG]at hi;by_cases c:i<D.length;{rw[kq c];exact hU i c};{rw[mW O];exact l0 _ O}};rw[iP O,e1,bS];dsimp only;rw[iP k0,iP (by rw[zN];omega),iP k0,tN,iP O,show wI ((b:Int)+1)=((b+1:Nat):Int)from ay O];exact Kz c0 u j0 i0 h0 g0 e0 d0 K J G N (b+1) a0 F' _ _ O O e2 O (by rw[zG,zN];omega) (by rw[zG];omega) m0};{have e:b=P.length:=O;rw[e,GG]at q0;rw[ae O];exact⟨t7,F,Z,D,rfl,h7,O,O,O,hU⟩}
structure SF (x:LI×LI×LI×LI×LI×LI×Int×Unit):Prop where
 f0:x.1.length<=60
 z:x.2.1.length<=60
 d:x.2.2.1.length<=180
 du:UL x.2.2.1
 s:x.2.2.2.1.length<=61
 i:x.2.2.2.2.1.length<=2400
 wl:x.2.2.2.2.2.1.length<=2400
 wu:UL x.2.2.2.2.2.1
theorem ql1 (t:Int): ∃x,WA m o P t=some (x,(),(),(),())/\SF x:=by obtain⟨t7,F,Z,D,G,a1,a2,a3,a4,K⟩:=Kz hm hn hP hPc hol hor 0 t [] [] [] [] [] [] [0] [] [] m 0 (List.replicate n 0) [] [] [] (by have:=Jt hP;omega) O zM rfl rfl (by simp) (λi u=>absurd u (zC _));obtain⟨S,I,V,e2,b1,b2,b3,J⟩:=Kx hm hn hP hPc 0 t [] [] [] [] [] [] F Z D a1 m 0 [0] [] [] (by have:=Jt hP;omega) O rfl (by simp) rfl (λi u=>absurd u (zC _));rw[nZ]at G e2;refine⟨(F,Z,D,S,I,V,t,()),?_,⟨a2,a3,a4,K,b1,b2,by show V.length<=2400;omega,J⟩⟩;rw[WA,iP O,hol,tN,G,bS];dsimp only;rw[e2];rfl
end
end Go.Vs.F
set_option maxRecDepth 100000
namespace Go.Vs.F
def qt1:SF ([],[],[],[],[],[],0,()):=⟨lM _,lM _,lM _,λi u=>absurd u (zC _),lM _,lM _,lM _,λi u=>absurd u (zC _)⟩
section
variable {m:Nat} (hm:5000000000<=m) {n:Nat} (hn:n<=4) {S I V:LI} (hVl:V.length<=100000) (hV:UL V) {o:LI} (hol:o.length=n) (hor: ∀i,i<o.length->0<=o.getD i 0/\o.getD i 0<(o.length:Int))
include hm hn hVl hV hol hor
theorem qoz {l:List tP} (hl:Hm n l=true) {e:Int} (he:L9 m (n:Int) (n:Int) S I V o l=some (e,(),(),(),())) (hk:e=0->chk (n:Int) (n:Int) S I V=0):
 ∃x J,Ou m (n:Int) (n:Int) S I V o l=some ((x,J,()),(),(),(),())/\SF x:=by
 rw[Ou,he,bS,aO];dsimp only;by_cases c:e=0
 case neg=>rw[ae c];exact⟨_,_,rfl,qt1⟩
 have G:=hk c;obtain⟨r,k,e1,e2,hM,ix,_⟩:=Vg G
 have u:MV n n S I V:=by
  refine⟨?_,ix,G⟩;rw[show r=n by omega,show k=n by omega]at hM;exact hM
 have hF:=qy4 hl;rw[iP c];rcases Kp hm hn u hV hol hor hF 0 [] [] [] [] [] [] m 0 [] [] 0 (by have:=hF.len;omega) O ⟨rfl,λc h=>absurd h (zC _),λc h=>absurd h (zC _)⟩ (λp K=>by cases K) (by decide)with⟨J,h⟩|⟨P,t,h,hP,hPc⟩
 . rw[nZ]at h;rw[h];exact⟨_,_,rfl,qt1⟩
 . rw[nZ]at h;obtain⟨x,h2,hx⟩:=ql1 hm hn hP hPc hol hor t;rw[h,bS];dsimp only;rw[h2];exact⟨x,0,rfl,hx⟩
end
def qsp {o:List Nat} {n:Nat} (h:o.Perm (List.range n)):(nL o).length=n/\ ∀i,i<(nL o).length->0<=(nL o).getD i 0/\(nL o).getD i 0<((nL o).length:Int):=by have hl:o.length=n:=by{rw[h.length_eq,yf]};have hL:(nL o).length=n:=by{rw[qu6,hl]};refine⟨hL,λi u=> ?_⟩;rw[hL]at u⊢;have hm:o.getD i 0∈o:=by{simp[List.getD,hl,u]};have:=vH.1 (h.mem_iff.1 hm);rw[show(nL o).getD i 0=((o.getD i 0:Nat):Int) by unfold nL;simp[List.getD,hl,u]];omega
section
variable {m:Nat} (hm:5000000000<=m) {raw:LI} (hl:raw.length<=9223372036854775807)
include hm hl
theorem qw1 (n style:Int) (d:Bool): ∃x v,cR m raw n style d=some ((x,v,()),(),(),(),(),())/\SF x/\v.length=x.1.length/\cf v:=by obtain⟨r,hr,er⟩:=Lk m n (k:=5) O O;obtain⟨S,I,V,hG,eG⟩:=q9a hm hl (R:=r) (C:=r) O style O;obtain⟨o,ho,eo⟩:=qrc hm hl (n:=r) O;obtain⟨h1,h2⟩:=qsp ho;rw[cR,show(5:Int)=((5:Nat):Int)from rfl,er,bS];dsimp only;rw[eG,bS];dsimp only;have fin: ∀{S I V:LI},V.length<=100000->UL V-> ∃x v y5 u,Mv m (r:Int) (r:Int) S I V (nL o) raw=some y5/\Ou m (r:Int) (r:Int) S I V (nL o) y5.1=some u/\u.1.1=x/\Ow m raw 30 (u.1.1.1.length:Int) style=some (v,(),(),(),(),())/\SF x/\v.length=x.1.length/\cf v:=λ{S I V} hVl hV=>by{obtain⟨l,e,a1,K,J,G⟩:=qqm hm hl (n:=r) O (S:=S) (I:=I) hVl h1 h2;obtain⟨x,e',b1,b2⟩:=qoz hm (n:=r) O hVl hV h1 h2 K J G;obtain⟨v,c1,c2,c3⟩:=qmi hm hl (at0:=30) (n:=x.1.length) O (by have:=b2.f0;omega) style;exact⟨x,v,_,_,a1,b1,rfl,c1,b2,c2,c3⟩};cases d with|true=>{obtain⟨S1,I1,V1,eD,gw⟩:=qh3 hm hl (n:=r) O style;have hs:r*r<=4*4:=qK O O;obtain⟨x,v,y5,u,a1,K,J,G,a5,a6,a7⟩:=fin (S:=S1) (I:=I1) (V:=V1) (by have:=gw.il;have:=gw.vl;omega) gw.u;rw[cond_true,eD,bS];dsimp only;rw[eo,bS];dsimp only;rw[a1,bS,K,bS,G,bS];subst J;exact⟨_,v,rfl,a5,a6,a7⟩}|false=>{have hs:r*r<=4*4:=qK O O;obtain⟨x,v,y5,u,a1,K,J,G,a5,a6,a7⟩:=fin (S:=S) (I:=I) (V:=V) (by have:=hG.sz;have:=hG.vl;omega) hG.fn.U;rw[cond_false,eo,bS];dsimp only;rw[a1,bS,K,bS,G,bS];subst J;exact⟨_,v,rfl,a5,a6,a7⟩}
end
end Go.Vs.F
set_option maxRecDepth 100000
namespace Go.Vs.F
def qr4 {m:Nat} (hm:5000000000<=m) {b o:LI} (K:o.length<=1000) (u:b.length=o.length) (J: ∀k,k<o.length->0<=o.getD k 0/\o.getD k 0<(o.length:Int)):uT m b o=some (jg b o,(),(),()):=by have G:=qu3 hm K u J m 0 O O;rw[nZ,q51]at G;rw[uT,iP O,u,tN,G];rfl
def qnw {m:Nat} (hm:5000000000<=m) {b o:LI} (K:o.length<=1000) (u:b.length=o.length) (J: ∀k,k<o.length->0<=o.getD k 0/\o.getD k 0<(o.length:Int)):uQ m b o=some (mE b o o.length,(),(),()):=by have G:=qtf hm K u J m 0 O O;rw[nZ]at G;rw[uQ,iP O,u,tN,<-show mE b o 0=List.replicate o.length 0 from rfl,G];rfl
def qn1 {m:Nat} (hm:5000000000<=m) {f0 Z D S I W:LI} {f6:Int} (G:Z.length<=1000) (u:f0.length<=1000) (hd:D.length<=1000) (hw:W.length<=100000) (hI:I.length<=100000) (g0:S.length<=100000) (uD:UL D) (uW:UL W):
 xV m f0 Z D S I W f6=some (B7 f0 Z D S I W f6,(),()):=by
 have w1:wI ((f0.length:Int)+1)=((f0.length+1:Nat):Int):=by rw[wQ,wi O O];omega
 rw[xV,bQ,qpw O u,w1];unfold B7;by_cases c1:f0.length>200
 . rw[iP (show(f0.length:Int)>200 by omega),iP c1]
 rw[ae (show¬(f0.length:Int)>200 by omega),ae c1,bS]
 dsimp only;cases c2:iJ f0 with
 |false=>rfl
 |true=>
 rw[show(!true)=false from rfl,cond_false,ae (by decide),aO,aO]
 by_cases J:S.length=f0.length+1
 case neg=>
  rw[ae (show¬(S.length:Int)=((f0.length+1:Nat):Int) by omega),iP (show S.length≠f0.length+1 from J)]
 rw[iP (show(S.length:Int)=((f0.length+1:Nat):Int) by omega),ae (show¬(S.length≠f0.length+1)from λq=>q J)]
 by_cases c4:I.length=W.length
 case neg=>
  rw[ae (show¬(I.length:Int)=(W.length:Int) by omega),iP (show I.length≠W.length from c4)]
 rw[iP (show(I.length:Int)=(W.length:Int) by omega),ae (show¬(I.length≠W.length)from λq=>q c4)]
 obtain⟨l,e0,a0⟩:=qm0 hm G u hd (f0:=f0) (S:=S) (I:=I) (W:=W) (f6:=f6);rw[e0,bS];dsimp only;by_cases c5:Ni f0.length Z D S I f6
 case neg=>
  rw[iP (show¬Ni f0.length Z D S I f6 from c5)]
  by_cases hP:PV f0.length Z D
  . rw[decide_eq_true hP,show(!true)=false from rfl,cond_false,bQ]
    by_cases h6:f6<0
    . rw[iP h6]
    . rw[ae h6,a0 hP,qud hm G u J hI hP,bS,decide_eq_false (λq:CF f0.length Z S I=>c5 ((Vr J).2 ⟨hP,O,q⟩))];rfl
  . rw[decide_eq_false hP];rfl
 obtain⟨hP,h6,hC⟩:=(Vr J).1 c5;rw[ae (show¬ ¬Ni f0.length Z D S I f6 from λq=>q c5),decide_eq_true hP,show(!true)=false from rfl,cond_false,bQ,ae (show¬f6<0 by omega),a0 hP,qud hm G u J hI hP,bS,decide_eq_true hC]
 dsimp only;rw[show(!true)=false from rfl,cond_false,qxk hm G u O hw uD uW,bS]
 by_cases K:bJ W=true/\bJ D=true
 case neg=>
  rw[ae K,iP K]
 rw[iP K,ae (show¬ ¬(bJ W=true/\bJ D=true)from λq=>q K)]
 have hD:=G4 uD K.2;dsimp only;have c0:=qo5 hm G u O hw uD uW (S:=S) (I:=I) (f6:=f6) hP m 0 O O;rw[List.range_zero,GK,nZ,show bZ Z 0=0 from rfl]at c0
 have d0:=qtq hm G u O hw uD uW hP hD m 0 O O;rw[nZ]at d0;rw[M6,c0,bS,bS];dsimp only;rw[zi,yf,d0,bS];cases qw (x4 D Z) 0 Z.length<;>rfl
def XK (m N:Nat) (f0 f1 f2 f3 f4 f5:LI) (f6:Int):Prop:= ∀v,cf v->v.length=N-> ∃x e,
 xT m f0 f1 f2 f3 f4 f5 f6 v=some ((x,e,()),(),(),())/\(e=0->cf x/\x.length=N)
def qwh {n:Nat} {y:Nat->Int} (h:qw (oU y) 0 n=true): ∀i,i<n->aS (y i):=λi u=>of_decide_eq_true (qp.1 h i (lM _) u)
def qwj {m:Nat} (hm:5000000000<=m) {f0 Z D S I W:LI} {f6:Int} (J:Z.length<=1000) (G:f0.length<=1000) (hd:D.length<=1000) (hI:I.length<=5000) (hS:S.length<=100000) (uD:UL D) (uW:UL W) (hw:W.length<=100000)
 (hc:B7 f0 Z D S I W f6=0):XK m f0.length f0 Z D S I W f6:=by intro v hv hl;obtain⟨a1,a2,a3,a4,a5,a6,a7⟩:=q7f hc;have hP:=qx5 hc;have hC:=qs1 hc hI uW;have hD:=G4 uD a7;have K:=qpx a2;have k1:=qn1 hm J G hd hw O hS uD uW (f0:=f0) (Z:=Z) (D:=D) (S:=S) (I:=I) (W:=W) (f6:=f6);rw[hc]at k1;have fv:bJ v=true:=by{unfold bJ;exact qp.2 λi _ u=>decide_eq_true (hv i u).2};have s0:=qph hm J G hd hP uD (S:=S) (I:=I) (W:=W) (f6:=f6) m 0 O O;rw[nZ,show bZ Z 0=0 from rfl]at s0;have g1:=qr4 hm G (b:=v) hl K;have gf:=qsv hm G (b:=v) hl K hv;have gl:(jg v f0).length=f0.length:=qhl;have u1:=qr5 hm hC gf gl;have e2:E1 m v (f0.length:Int)=some (0,(),(),()):=by{rw[E1,aO,hl,iP rfl,qmd hm J G hd hv.U O,fv];rfl};have e3:AY m f0 Z D S I W f6=some (!qw (yT Z D) 0 Z.length,(),()):=by{rw[AY,s0];cases qw (yT Z D) 0 Z.length<;>rfl};rw[xT,k1,bS];dsimp only;rw[e2,e3,bS,bS];dsimp only;rw[show((0:Int)==0)=true from rfl,show((0:Int) !=0)=false from rfl,cond_true,cond_false];cases g0:qw (yT Z D) 0 Z.length with|false=>exact⟨[],9,rfl,λh=>by cases h⟩|true=>{rw[show(!true)=false from rfl,cond_false,g1,bS];dsimp only;rw[u1,bS];dsimp only;rw[aO];cases c0:qw (oU (iC S I W (jg v f0))) 0 f0.length with|false=>exact⟨[],233,rfl,λh=>by cases h⟩|true=>{have fy:=qwh c0;have hy:cf (fH f0.length (iC S I W (jg v f0))):=qp9 λi u=>⟨wU,fy i u⟩;have m1:=qpo hm J G hd hP hD hy Zw (S:=S) (I:=I) (W:=W) (f6:=f6);rw[iP rfl];dsimp only;rw[iP rfl,m1];rw[bS];dsimp only;have wl:(jc Z D (fH f0.length (iC S I W (jg v f0)))).length=f0.length:=qiv hP;cases d0:bJ (jc Z D (fH f0.length (iC S I W (jg v f0))))with|false=>exact⟨[],233,rfl,λh=>by cases h⟩|true=>{have wf:=G4 qts d0;obtain⟨s,b1,b2⟩:=qi1 hm (v:=jc Z D (fH f0.length (iC S I W (jg v f0)))) O wf;rw[wl]at b2;have bl:=qqi hm hC (f0:=f0) (Z:=Z) (D:=D) (f6:=f6) wf wl m f0.length s _ O (zI _) (λi h1 h2=>absurd h2 O) ⟨b2.1,λi u=>(b2.2 i u).mono O⟩ (λi u=>rfl);have fr:=qma (b:=List.replicate f0.length (0:Int)) (q:=kj f0.length S I W (jc Z D (fH f0.length (iC S I W (jg v f0)))));rw[zM]at fr;rw[fr]at bl;have w1:wI ((f0.length:Int)-1)=(f0.length:Int)-1:=by{rw[wQ,wi O O]};rw[iP rfl,aO,iP rfl];dsimp only;rw[b1,bS];dsimp only;rw[wl,iP O,tN,w1,bl,bS];cases e0:xX (kj f0.length S I W (jc Z D (fH f0.length (iC S I W (jg v f0))))) f0.length with|false=>exact⟨[],233,rfl,λh=>by cases h⟩|true=>{have a0:cf (fH f0.length (kj f0.length S I W (jc Z D (fH f0.length (iC S I W (jg v f0)))))):=qp9 λi u=>⟨B8,qjc.1 e0 i u⟩;have c1:=qnw hm G (b:=fH f0.length (kj f0.length S I W (jc Z D (fH f0.length (iC S I W (jg v f0)))))) Zw K;rw[iP rfl];dsimp only;rw[c1];exact⟨_,0,rfl,λ_=>⟨qid hm G Zw K a0 (zI _),LD⟩⟩}}}}
section
variable {m:Nat} (hM:d6<=m) {N:Nat} (hN:N<=1000) {f0 f1 f2 f3 f4 f5:LI} {f6:Int} (hS:XK m N f0 f1 f2 f3 f4 f5 f6) {s:Int} (hs:s<=16) (b0 b1:LI) (b2:List LI)
include hM hN hS hs
theorem qrl {α β:LI} {V:List LI} (hV:wY N V) (hVl:V.length<=100) (hL:0<V.length) (hα:α.length<=100) {x:LI} {e:Int}
 (h1:xT m f0 f1 f2 f3 f4 f5 f6 (V.getD (V.length-1) [])=some ((x,e,()),(),(),())) (K:e=0->cf x/\x.length=N):
 WN m α β V f0 f1 f2 f3 f4 f5 f6=some (if e≠0 then(([],e,()),(α,β,V,()),(),())else if¬aS (da (V.getD (V.length-1) []) x)then(([],233,()),(α,β,V,()),(),())
  else match Yb x (V++V)with
   |none=>(([],233,()),(α++[da (V.getD (V.length-1) []) x],β,V,()),(),())
   |some y=>((y,0,()),(α++[da (V.getD (V.length-1) []) x],β,V,()),(),())):=by have hm:=Yu hM;have G:wI ((V.length:Int)-1)=((V.length-1:Nat):Int):=by{rw[wQ,wi O O];omega};obtain⟨J,r2⟩:=hV _ (gM (V:=V) (i:=V.length-1) O);rw[WN,G,iP O,zH,tN,h1,bS,aO];dsimp only;by_cases c:e=0;{rw[iP c,ae (by simp[c])];obtain⟨x1,u⟩:=K c;rw[qf4 O O O J x1,bS];dsimp only;rw[LG O,bS];dsimp only;rw[show Xp (ax (B5 (V.getD (V.length-1) []) x) (-2148)) 0=da (V.getD (V.length-1) []) x from rfl,Zt qm5,bS];dsimp only;by_cases d:aS (da (V.getD (V.length-1) []) x);{rw[decide_eq_true d,show(!true)=false from rfl,cond_false,iP (by show _+1<=_;omega),qxz hm hN _ _ hV O x1 u,bS,ae (λh=>h d)];cases Yb x (V++V)<;>rfl};{rw[decide_eq_false d,show(!false)=true from rfl,cond_true,iP d]}};{rw[ae c,iP c]}
theorem O5: ∀(d:Nat) (α β:LI) (V:List LI),16-α.length<=d->α.length+1=V.length->β.length=α.length->(α.length:Int)<s->wY N V->cf α->cf β-> ∀n1,d<n1->
 ∃r,tf m n1 s f0 f1 f2 f3 f4 f5 f6 b0 b1 b2 α β V=some (.inl r)/\GD N s r:=by have hm:=Yu hM;intro d;induction d with|zero=>{intro α β V h1 h2 h3 h4;omega}|succ d ih=>{intro α β V h1 h2 h3 h4 hV hα hβ n1 a0;obtain⟨n1,rfl⟩: ∃k,n1=k+1:=⟨n1-1,O⟩;have eV:V.length-1=α.length:=O;obtain⟨r1,r2⟩:=hV _ (gM (V:=V) (i:=V.length-1) O);obtain⟨x,e,g1,g3⟩:=hS _ r1 r2;have u:=qrl hM hN hS hs (α:=α) (β:=β) hV O O O g1 g3;rw[tf];by_cases c:e=0;{subst c;obtain⟨x1,x2⟩:=g3 rfl;rw[ae (by simp)]at u;by_cases dd:aS (da (V.getD (V.length-1) []) x);{rw[ae (λh=>h dd)]at u;cases K:Yb x (V++V)with|none=>{rw[K]at u;rw[u,bS];exact⟨(([],[],[],()),233,()),rfl,.inl ⟨rfl,by decide⟩⟩}|some y=>{rw[K]at u;rw[u,bS];obtain⟨y1,y2⟩:=q4s x1 x2 K;have hα1:cf (α++[da (V.getD (V.length-1) []) x]):=VU hα qm5 dd;have J:(((α++[da (V.getD (V.length-1) []) x]).length:Nat):Int)=((α.length+1:Nat):Int):=by{simp};dsimp only;rw[aO,iP rfl,aB,J];by_cases G:((α.length+1:Nat):Int)=s;{refine⟨((α++[da (V.getD (V.length-1) []) x],β,V,()),0,()),?_,.inr ⟨rfl,by simp[h3],by simp;omega,⟨by simp;omega,by simp;omega⟩,hV,hα1,hβ⟩⟩;rw[iP G]};{rw[ae G,q9c hM O y1,bS,(Lx CZ).1,bS,q6l CZ];dsimp only;cases hz:Df (mM y)with|true=>{exact⟨((α++[da (V.getD (V.length-1) []) x],β,V,()),0,()),rfl,.inr ⟨rfl,by simp[h3],by simp;omega,⟨by simp;omega,by simp;omega⟩,hV,hα1,hβ⟩⟩}|false=>{rw[cond_false,q9s hm O y1.U CZ,bS,Zt CZ,bS];dsimp only;by_cases fg:aS (mM y);{rw[decide_eq_true fg,show(!true)=false from rfl,cond_false];cases hf:bJ (qF y (mM y))with|false=>exact⟨(([],[],[],()),233,()),rfl,.inl ⟨rfl,by decide⟩⟩|true=>{rw[show(!true)=false from rfl,cond_false,iP (by show _+1<=_;omega),iP (by show _+1<=_;omega)];exact ih (α++[da (V.getD (V.length-1) []) x]) (β++[mM y]) (V++[qF y (mM y)]) (by simp;omega) (by simp;omega) (by simp;omega) (by rw[J];omega) (λr hr=>by{rcases zZ.1 hr with h|h;{exact hV r h};{rw[zA]at h;subst h;exact⟨G4 YD hf,by rw[qav];exact y2⟩}}) hα1 (VU hβ CZ fg) n1 O}};{rw[decide_eq_false fg];exact⟨(([],[],[],()),233,()),rfl,.inl ⟨rfl,by decide⟩⟩}}}}};{rw[iP dd]at u;rw[u,bS];exact⟨(([],[],[],()),233,()),rfl,.inl ⟨rfl,by decide⟩⟩}};{rw[iP c]at u;rw[u,bS];refine⟨(([],[],[],()),e,()),?_,.inl ⟨rfl,c⟩⟩;dsimp only;rw[aO,ae c]}}
end
def Ua {m:Nat} (hM:d6<=m) {f0 f1 f2 f3 f4 f5:LI} {f6 e:Int} (K:f0.length<=1000) (a0:xV m f0 f1 f2 f3 f4 f5 f6=some (e,(),()))
 (hS:e=0->XK m f0.length f0 f1 f2 f3 f4 f5 f6) {st:LI} (J:UL st) (G:st.length<=1000) (s:Int):
 ∃r:Nj,Ox m f0 f1 f2 f3 f4 f5 f6 st s=some (r,(),(),(),())/\GD f0.length s r:=by have hm:=Yu hM;have u: ∀k:Int,k≠0->GD f0.length s (([],[],[],()),k,()):=λk hk=> .inl ⟨rfl,hk⟩;rw[Ox,g42,a0,bS];simp only[aO];by_cases c:e=0;{subst c;rw[iP rfl,iP rfl,YO O J G];by_cases cl:(st.length:Int)=(f0.length:Int);{rw[iP cl,bS];dsimp only;cases hf:bJ st with|false=>exact⟨(([],[],[],()),4,()),rfl,u 4 (by decide)⟩|true=>{have hF:=G4 J hf;simp only[bQ,show(!true)=false from rfl,cond_false];by_cases s1:s<1;{rw[iP s1];exact⟨(([],[],[],()),350,()),rfl,u 350 (by decide)⟩};{rw[ae s1];by_cases s2:s>16;{rw[iP s2];exact⟨(([],[],[],()),350,()),rfl,u 350 (by decide)⟩};{rw[ae s2,q9c hM G hF,bS,(Lx CZ).1,bS,q6l CZ];dsimp only;cases hz:Df (mM st)with|true=>exact⟨(([],[],[],()),380,()),rfl,u 380 (by decide)⟩|false=>{rw[cond_false,Zt CZ,bS];dsimp only;by_cases fg:aS (mM st);{rw[decide_eq_true fg,show(!true)=false from rfl,cond_false,q9s hm G J CZ,bS];dsimp only;cases hd:bJ (qF st (mM st))with|false=>exact⟨(([],[],[],()),233,()),rfl,u 233 (by decide)⟩|true=>{obtain⟨r,g1,g3⟩:=O5 hM K (hS rfl) (s:=s) O [] [] [] 16 [] [] [qF st (mM st)] (by simp) (by simp) rfl (by simp;omega) (λx hx=>by{rw[zA]at hx;subst hx;exact⟨G4 YD hd,by rw[qav];omega⟩}) PE PE m O;refine⟨r,?_,g3⟩;simp only[show(!true)=false from rfl,cond_false,bS,if_true];rw[g1];rfl}};{rw[decide_eq_false fg];exact⟨(([],[],[],()),233,()),rfl,u 233 (by decide)⟩}}}}}};{rw[ae cl,bS];exact⟨(([],[],[],()),2,()),rfl,u 2 (by decide)⟩}};{rw[ae c,ae c,bS];dsimp only;rw[ae c];exact⟨(([],[],[],()),e,()),rfl,u e c⟩}
def qr3 {m:Nat} (hM:d6<=m) {x:LI×LI×LI×LI×LI×LI×Int×Unit} (hx:SF x) {st:LI} (G:UL st) (u:st.length<=1000) (s:Int):
 ∃r:Nj,Ox m x.1 x.2.1 x.2.2.1 x.2.2.2.1 x.2.2.2.2.1 x.2.2.2.2.2.1 x.2.2.2.2.2.2.1 st s=some (r,(),(),(),())/\GD x.1.length s r:=by have hm:=Yu hM;have h0:=hx.f0;have hz:=hx.z;have hd:=hx.d;have hs:=hx.s;have hi:=hx.i;have hw:=hx.wl;have J:=qn1 hm (f0:=x.1) (Z:=x.2.1) (D:=x.2.2.1) (S:=x.2.2.2.1) (I:=x.2.2.2.2.1) (W:=x.2.2.2.2.2.1) (f6:=x.2.2.2.2.2.2.1) O O O O O O hx.du hx.wu;exact Ua hM O J (λK=>qwj hm O O O O O hx.du hx.wu O K) G u s
end Go.Vs.F
set_option maxRecDepth 100000
namespace Go.Vs.F
def qa6 {m:Nat} (hm:5000000000<=m) {d e:LI} (u:cf d) (he:cf e) (hle:e.length=d.length-1) (hl:d.length<=16):
 (∃a b,WH m d e=some (((a,b,()),0,()),(),(),()))/\WQ m d e=some (((jE (dB d e d.length),i6 (cU d e d.length),()),0,()),(),(),()):=by obtain⟨K,J⟩:=qus hm u he hle hl;have p0:=qld hm u he hle O 0 0 m 0 O O;have G:=qkn hm u he hle O 0 0 m 0 O O;rw[dB,cU,qpp,qo0,nZ]at p0;rw[show dB d e 0=0 from rfl,show cU d e 0=0 from rfl,nZ]at G;constructor;{refine⟨jE (dB d e d.length),i6 (cU d e d.length),?_⟩;rw[WH,K,bS];dsimp only;rw[show((0:Int) !=0)=false from rfl,cond_false,p0,bS]};{rw[WQ,J,bS];dsimp only;rw[show((0:Int) !=0)=false from rfl,cond_false,show bo m m d e 0 0 false false [] 0 false false [] 0 0=_ from G,bS];dsimp only;rw[V8 O,bS,V8 O,bS];rfl}
def qt7 {d e:LI}: ∀{n i:Nat},i<n->dB d e n<=rB d e i
 |0,_,h=>absurd h (zC _)
 |n+1,i,h=>by unfold dB;by_cases c:n=0;{rw[iP c,show i=0 by omega];exact ug _};{rw[ae c];by_cases c2:i=n;{subst c2;split<;>omega};{have:=qt7 (d:=d) (e:=e) (n:=n) (i:=i) O;split<;>omega}}
def qt3 {d e:LI}: ∀{n i:Nat},i<n->rS d e i<=cU d e n
 |0,_,h=>absurd h (zC _)
 |n+1,i,h=>by unfold cU;by_cases c:n=0;{rw[iP c,show i=0 by omega];exact ug _};{rw[ae c];by_cases c2:i=n;{subst c2;split<;>omega};{have:=qt3 (d:=d) (e:=e) (n:=n) (i:=i) O;split<;>omega}}
def qvi {m:Nat} (hm:5000000000<=m) {d e:LI} {C:Int->Nat} (hC: ∀q,ig q->s9 m d e (cD q)=some ((C q:Int),(),(),(),())) (k a b c:Int): ∀(t N:Nat) (lo u:Int),t<N->ig lo->ig u->lo<u->u-lo<=2^t->(C lo:Int)<=k->k<(C u:Int)->
 ∃l,ig l/\ig (l+1)/\(C l:Int)<=k/\k<(C (l+1):Int)/\mZ m N d e k a b c lo u=some (.inl (d,e,(a,b,c,()),l,l+1,())):=by intro t;induction t with|zero=>{intro N lo u hN G h2 h3 h4 h5 h6;obtain⟨N,rfl⟩: ∃N',N=N'+1:=⟨N-1,O⟩;have:u=lo+1:=by{rw[UC]at h4;omega};subst this;have r1:=G;have K:=h2;unfold ig at r1 K;refine⟨lo,G,h2,h5,h6,?_⟩;rw[mZ,wQ,wi O O,bQ,ae O]}|succ t ih=>{intro N lo u hN G h2 h3 h4 h5 h6;obtain⟨N,rfl⟩: ∃N',N=N'+1:=⟨N-1,O⟩;have r1:=G;have K:=h2;unfold ig at r1 K;rw[mZ,wQ,wi (n:=u-1) O O,bQ];by_cases c0:u=lo+1;{subst c0;rw[ae O];exact⟨lo,G,h2,h5,h6,rfl⟩};{rw[iP O];have m1:=qw8 (m:=m) r1 K;have J:ig ((lo+u)/2):=by{unfold ig;omega};have f1:=q58 (m:=m) O (k:=(lo+u)/2) (by unfold ig at J;unfold CJ;omega);have hr:tr ((lo+u)/2)=(cD ((lo+u)/2),true,()):=iP J;rw[m1,bS];dsimp only;rw[f1,hr,bS];dsimp only;rw[hC _ J,bS,bQ];dsimp only;have hp:(2:Int)^(t+1)=2^t+2^t:=by{rw[Int.pow_succ];omega};by_cases g:(C ((lo+u)/2):Int)>k;{rw[iP g];exact ih N lo ((lo+u)/2) O G J O O h5 g};{rw[ae g];exact ih N ((lo+u)/2) u O J h2 O O O h6}}}
def tL (d e:LI) (s:Int×Int×Int):Prop:= ∃q,ig q/\ig (q+1)/\s.1=cD q/\s.2.1=cD (q+1)/\bO (jE (dB d e d.length))<=q+1/\q<bO (i6 (cU d e d.length))
def qxo {m:Nat} (hm:5000000000<=m) {d e:LI} (hd:cf d) (he:cf e) (hle:e.length=d.length-1) (h2:d.length<=2) {k:Nat} (hk:k<d.length):
 ∃s,WG m d e (k:Int)=some (((s.1,s.2.1,s.2.2,()),0,()),(),(),(),())/\tL d e s:=by have k1:=(qus hm hd he hle O).1;have hA: ∀q,∃c:Nat,ig q->s9 m d e (cD q)=some ((c:Int),(),(),(),())/\c<=d.length/\(cD q=zd->c=d.length)/\(cD q≠zd-> ¬aS (cD q)->c=0)/\(aS (cD q)->(∀i,i<d.length->rS d e i<=aE (cD q))->c=d.length)/\(aS (cD q)->(∀i,i<d.length->aE (cD q)<rB d e i)->c=0):=by{intro q;by_cases hq:ig q;{obtain⟨c,g⟩:=Gx hm hd he hle h2 (PB hq);exact⟨c,λ_=>g⟩};{exact⟨0,λh=>absurd h hq⟩}};obtain⟨C,hC⟩:=Classical.axiomOfChoice hA;have y1:C (-9218868437227405312)=0:=(hC _ VB.1).2.2.2.1 (by decide) (by decide);have y2:C 9218868437227405312=d.length:=(hC _ VB.2).2.2.1 (by decide);obtain⟨l,J,G,q3,q4,q5⟩:=qvi hm (C:=C) (λq hq=>(hC q hq).1) (k:Int) 0 0 0 66 m (-9218868437227405312) 9218868437227405312 O VB.1 VB.2 O (by decide) O O;have i1:=J;have i2:=G;unfold ig at i1 i2;have f1:=q58 (m:=m) O (k:=l) (by unfold CJ;omega);have f3:=q58 (m:=m) O (k:=l+1) (by unfold CJ;omega);rw[show tr l=(cD l,true,())from iP J]at f1;rw[show tr (l+1)=(cD (l+1),true,())from iP G]at f3;obtain⟨a1,a2,a3,a4,a5,a6⟩:=hC l J;obtain⟨b1,b2,b3,b4,b5,b6⟩:=hC (l+1) G;refine⟨(cD l,cD (l+1),wI ((C (l+1):Int)-(C l:Int))),?_,l,J,G,rfl,rfl,?_,?_⟩;{rw[WG,k1,bS,bQ,bQ];dsimp only;rw[show((0:Int) !=0)=false from rfl,cond_false,ae O,ae O,q5,bS];dsimp only;rw[f1,bS,f3,bS];dsimp only;rw[b1,bS,a1,bS]};{refine Int.not_lt.1 λh=> ?_;have hb:=N0 hm hd he hle O (i:=d.length) (zI _);obtain⟨s1,s2,s3⟩:=G0 (z:=dB d e d.length) O;have u:=PB G;have K:=(VY G).1;have fg:aS (cD (l+1)):=(PM u).2 (by rw[K];omega);have fd:aS (jE (dB d e d.length)):=(PM s1.u).2 O;have h1:=qy9 u s1.u fg fd (by rw[K];exact h);have h2:=(s3 _ s1.u fd).2 (ug _);have:=b6 fg λi hi=>by{have:=qt7 (d:=d) (e:=e) hi;omega};omega};{refine Int.lt_of_not_ge λh=> ?_;have hb:=NX hm hd he hle O (i:=d.length) (zI _);obtain⟨s1,s2,s3⟩:=G2 (z:=cU d e d.length) O;have u:=PB J;have K:=(VY J).1;have fg:aS (cD l):=(PM u).2 (by rw[K];omega);have h1:=(s3 _ u fg).2 (by rw[K];exact h);have:=a5 fg λi hi=>by{have:=qt3 (d:=d) (e:=e) hi;omega};omega}
def qrj {m:Nat} (hm:5000000000<=m) {d e:LI} (J:cf d) (he:cf e) (hle:e.length=d.length-1) (h2:d.length<=2) (V:List LI): ∀(N k:Nat) (out:List (Int×Int×Int)),d.length-k<N->k<=d.length->out.length=k->(∀s∈out,tL d e s)->
 ∃l,l.length=d.length/\(∀s∈l,tL d e s)/\sG m N d e V out (d.length:Int) (k:Int)=some (.inr (.inl (l,()))):=by intro N;induction N with|zero=>{intro k out h;omega}|succ N G=>{intro k out h hk K u;rw[sG,bQ];by_cases c:k<d.length;{have hw:wI ((k:Int)+1)=((k+1:Nat):Int):=ay O;obtain⟨s,s1,s2⟩:=qxo hm J he hle h2 c;rw[iP O,s1,bS];dsimp only;rw[show((0:Int) !=0)=false from rfl,cond_false,iP (by simp;omega),hw];exact G (k+1) _ O O (by simp;omega) λx hx=>by{rcases zZ.1 hx with hx|hx;{exact u x hx};{rw[zA.1 hx];exact s2}}};{rw[ae O];exact⟨out,O,u,rfl⟩}}
def qwa {m:Nat} (hm:5000000000<=m) {d e:LI} (G:cf d) (he:cf e) (hle:e.length=d.length-1) (h2:d.length<=2) (V:List LI):
 ∃l,l.length=d.length/\(∀s∈l,tL d e s)/\WR m d e V=some ((l,0,()),(),()):=by obtain⟨a,b,J⟩:=(qa6 hm G he hle O).1;obtain⟨l,l1,l2,u⟩:=qrj hm G he hle h2 V m 0 [] O O rfl (by simp);rw[nZ]at u;refine⟨l,l1,l2,?_⟩;rw[WR,J,bS];dsimp only;rw[show((0:Int) !=0)=false from rfl,cond_false,u];rfl
def GU {m:Nat} {a b:Int} (J:b7 a) (G:b7 b) (K:eP a=false) (u:eP b=false):RI m a b=some ((kc (bO a) (bO b),true,()),(),(),()):=by have key: ∀f,b7 f->Md m f=some (bO f,(),()):=λf h=>by{have ht:=CR h;have hl:=C6 f;rw[Md,qdt h,bS,ht.2.1];dsimp only;unfold bO iD;by_cases c:9223372036854775808<=f;{rw[decide_eq_true c,cond_true,iP c,wQ,wQ,wi (n:=bU f) O O,wi O O,Int.zero_sub]};{have e:bU f=f:=by{unfold bU;obtain⟨h1,h2⟩:=h;omega};rw[decide_eq_false c,cond_false,ae c,wQ,wi O O,e]}};have nan: ∀f,b7 f->eP f=false->Rq m f=some (false,(),()):=λf h hn=>by{have k:fi f≠3:=by{rw[Ne,q8g h,hn];simp};rw[Rq,(Lx h).2,bS];have:(fi f==3)=false:=by{simpa using k};dsimp only;rw[this]};rw[RI,nan a J K,bS,cond_false,nan b G u,bS,cond_false,key a J,key b G];simp only[bS,bQ];unfold kc;split;{rfl};{split<;>rfl}
def qpk {m:Nat} (hm:5000000000<=m) {d e:LI} (hd:cf d) (he:cf e) (hle:e.length=d.length-1) (h2:d.length<=2) {l:List (Int×Int×Int)} (hl:l.length<=2) (hp: ∀s∈l,tL d e s): ∀(N k:Nat),l.length-k<N->k<=l.length->
 bj m N (jE (dB d e d.length)) (i6 (cU d e d.length)) l (k:Int)=some (.inr (.inl ())):=by intro N;induction N with|zero=>{intro k h;omega}|succ N ih=>{intro k h hk;rw[bj,bQ];by_cases c:k<l.length;{have hw:wI ((k:Int)+1)=((k+1:Nat):Int):=ay O;obtain⟨q,K,J,q3,q4,q5,q6⟩:=hp (l.getD k (0,(0,0))) (by simp[List.getD,c]);have c0:=N0 hm hd he hle O (i:=d.length) (zI _);have a0:=NX hm hd he hle O (i:=d.length) (zI _);have G:=(G0 (z:=dB d e d.length) O).1;have u:=(G2 (z:=cU d e d.length) O).1;have g1:=VY K;have g2:=VY J;rw[iP O,iP O,tN,zH,q3,q4,GU (PB J) G.u g2.2 G.nan,GU (PB K) u.u g1.2 u.nan,g1.1,g2.1];have z1: ¬kc (q+1) (bO (jE (dB d e d.length)))<0:=by{unfold kc;rw[ae O];split<;>omega};have z2: ¬kc q (bO (i6 (cU d e d.length)))>=0:=by{unfold kc;rw[iP q6];omega};simp only[bS,bQ];rw[iP ⟨O,O⟩,ae z1,ae z2,hw];exact ih (k+1) O O};{rw[ae O]}}
def q5c (raw:LI) (n style:Int) (hl:raw.length<=9223372036854775807): ∃m,bM m raw n style=some (true,(),(),(),()):=by obtain⟨m,hM⟩: ∃m:Nat,d6<=m:=⟨d6,zI _⟩;have hm:=Yu hM;obtain⟨a,ha,ea⟩:=Lk m n (k:=4) O O;obtain⟨b,hb,eb⟩:=Lk m style (k:=2) O O;obtain⟨x,v,e,hx,ix,K⟩:=qw1 hm hl (a:Int) (b:Int) true;have h0:=hx.f0;obtain⟨r,e1,hF⟩:=qr3 hM hx K.U O 2;refine⟨m,?_⟩;rw[bM,show(4:Int)=((4:Nat):Int)from rfl,ea,bS,show(2:Int)=((2:Nat):Int)from rfl,eb,bS];dsimp only;rw[e,bS];dsimp only;rw[show((2:Nat):Int)=(2:Int)from rfl,e1,bS,aO];dsimp only;rcases hF with⟨_,h⟩|⟨h1,h2,h3,⟨h4,h5⟩,h6,G,u⟩;{rw[ae h,qqh O];rfl};{rw[iP h1];have hle:r.1.2.1.length=r.1.1.length-1:=O;obtain⟨l,l1,l2,J⟩:=qwa hm G u hle O r.1.2.2.1;have hw:=qpk hm G u hle O (l:=l) O l2 m 0 O O;rw[nZ]at hw;rw[(qa6 hm G u hle O).2,bS,J,bS];dsimp only;rw[show((0:Int) !=0)=false from rfl,cond_false,cond_false,aO,iP O,hw,bS];dsimp only;rw[qqh O];rfl}
def OT {t:Ty} {xs:List (aX t)} (h:WW (.imm t) xs):xs.length<=9223372036854775807:=zQ h.2 (by decide)
end Go.Vs.F
