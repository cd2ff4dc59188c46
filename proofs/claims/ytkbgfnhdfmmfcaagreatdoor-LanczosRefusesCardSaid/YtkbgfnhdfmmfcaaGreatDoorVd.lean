import Derived.Test.YtkbgfnhdfmmfcaaGreatDoorVb
import Derived.Orders
set_option linter.unusedSimpArgs false
set_option linter.unusedVariables false
set_option linter.defProp false
namespace Go.Vs
section
variable {P:Program} {CO:Q8} {T:TT} {E:a8} {D:Nat->Prop} {β:aR} {who:bh} {U U':ao} {hd:List (AV×Value)} {a:Act} {w w':World} {R W:List Nat}
def cV (who:bh) (w:World) (n b:Nat) (h:Option Nat):AV->Option Value->Nat->Prop
 | .int k x,o,_=>o=some (.int k x)
 | .bool x,o,_=>o=some (.bool x)
 | .sl _ t xs,o,p=>h=some p\/ ∃v,o=some v/\fO who w n t xs v b
 |_,_,_=>False
def A4 {n b:Nat} {h:Option Nat} {g:Nat->Option Value}: ∀{t:Ty} {x:aX t} {p:Nat},cw who w n b h t x g p->
 (aD t x).length=t.size/\ ∀k (hk:k<(aD t x).length),cV who w n b h (aD t x)[k] (g (p+k)) (p+k)
 | .int k,x,p,h=>by{refine⟨rfl,λj G=> ?_⟩;have:j=0:=by{simp[aD]at G;exact G};subst this;exact h}
 | .bool,x,p,h=>by{refine⟨rfl,λj G=> ?_⟩;have:j=0:=by{simp[aD]at G;exact G};subst this;exact h}
 | .sl b t,xs,p,h=>by{refine⟨rfl,λj G=> ?_⟩;have:j=0:=by{simp[aD]at G;exact G};subst this;exact h}
 | .pr s t,x,p,h=>by obtain⟨l1,Q⟩:=A4 h.1;obtain⟨l2,O⟩:=A4 h.2;refine⟨by simp[aD,l1,l2,Ty.size],λj G=> ?_⟩;by_cases J:j<(aD s x.1).length;{have:=Q j J;simp only[aD,xf J];exact this};{have K:j-(aD s x.1).length<(aD t x.2).length:=by{simp only[aD,zG]at G;omega};have:=O _ K;simp only[aD,ur (xk J)];rw[show p+s.size+(j-(aD s x.1).length)=p+j by omega]at this;exact this}
def Xb: ∀{t:Ty} {x:aX t},(aD t x).length=t.size
 | .int _,_=>rfl
 | .bool,_=>rfl
 | .sl _ _,_=>rfl
 | .pr s t,x=>by simp only[aD,zG,Ty.size,Xb]
def uJ {n bk:Nat} {hh:Option Nat} {g:Nat->Option Value}: ∀{t:Ty} {cells r:List AV} {x:aX t} {p:Nat},J7 t cells=some (x,r)->
 (∀k (K:k<cells.length),k<t.size->cV who w n bk hh cells[k] (g (p+k)) (p+k))->cw who w n bk hh t x g p/\r=cells.drop t.size/\t.size<=cells.length
 | .int k,cells,r,x,p,h,G=>by{cases cells with|nil=>cases h|cons c cs=>{cases c with|int k' n=>{simp only[J7]at h;split at h;{rename_i e;subst e;injection h with h;injection h with J h2;subst J h2;exact⟨G 0 (by simp) (by simp[Ty.size]),rfl,by simp[Ty.size]⟩};{cases h}}|_=>cases h}}
 | .bool,cells,r,x,p,h,G=>by{cases cells with|nil=>cases h|cons c cs=>{cases c with|bool b=>{simp only[J7,zZ,Rv]at h;obtain⟨J,h2⟩:=h;subst J h2;exact⟨G 0 (by simp) (by simp[Ty.size]),rfl,by simp[Ty.size]⟩}|_=>cases h}}
 | .sl b t,cells,r,x,p,h,G=>by{cases cells with|nil=>cases h|cons c cs=>{cases c with|sl o t' xs=>{have key: ∀(e:t'=t),x=e▸xs->r=cs->cw who w n bk hh (.sl b t) x g p/\r=(AV.sl o t' xs::cs).drop (Ty.sl b t).size/\(Ty.sl b t).size<=(AV.sl o t' xs::cs).length:=by{intro e Q hc;subst e;simp only at Q;subst Q hc;exact⟨G 0 (by simp) (by simp[Ty.size]),rfl,by simp[Ty.size]⟩};simp only[J7]at h;grind}|_=>cases h}}
 | .pr s t,cells,r,x,p,h,G=>by simp only[J7]at h;split at h;{rename_i x1 r1 J;split at h;{rename_i y r2 h2;injection h with h;injection h with h3 h4;subst h3 h4;obtain⟨i1,i2,i3⟩:=uJ (p:=p) J (λk K hs=>G k K (by simp only[Ty.size];omega));subst i2;obtain⟨k1,k2,k3⟩:=uJ (p:=p+s.size) h2 (λk K hs=>by{have a0:k<cells.length-s.size:=by{simpa using K};have:=G (s.size+k) O (by simp only[Ty.size];omega);rw[ID,show p+s.size+k=p+(s.size+k) by omega];exact this});refine⟨⟨i1,k1⟩,?_,?_⟩;{rw[k2,LA];rfl};{simp at k3;simp only[Ty.size];omega}};{cases h}};{cases h}
def cV.imp {who':bh} {n n' b b':Nat} {h h':Option Nat} {c:AV} {o K:Option Value} {p J:Nat} (G:cV who w n b h c o p) (Q:K=o) (hh:h=some p->h'=some J)
 (hi: ∀(t:Ty) (ys:List (aX t)) v,o=some v->h≠some p->fO who w n t ys v b->h'=some J\/fO who' w' n' t ys v b'):cV who' w' n' b' h' c K J:=by subst Q;cases c with|int k x=>exact G|bool x=>exact G|sl ow t xs=>{by_cases e:h=some p;{exact .inl (hh e)};{rcases G with G|⟨v,O,h2⟩;{exact absurd G e};{rcases hi t xs v O e h2 with g|g;{exact .inl g};{exact .inr ⟨v,O,g⟩}}}}|_=>exact G.elim
def cw.ofCells {n b:Nat} {h:Option Nat} {t:Ty} {x:aX t} {g:Nat->Option Value} {p:Nat} (G: ∀k (J:k<(aD t x).length),cV who w n b h (aD t x)[k] (g (p+k)) (p+k)):cw who w n b h t x g p:=by have key: ∀{t:Ty} {x:aX t} {p:Nat},(∀k (J:k<(aD t x).length),cV who w n b h (aD t x)[k] (g (p+k)) (p+k))->cw who w n b h t x g p:=by{intro t;induction t with|int k=>{intro x p G;exact G 0 (by simp[aD])}|bool=>{intro x p G;exact G 0 (by simp[aD])}|sl bb t=>{intro x p G;exact G 0 (by simp[aD])}|pr s t Q K=>{intro x p G;refine⟨Q λk J=> ?_,K λk J=> ?_⟩;{have:=G k (by simp only[aD,zG];omega);simp only[aD,xf J]at this;exact this};{have hl:(aD s x.1).length=s.size:=Xb;have:=G (s.size+k) (by simp only[aD,zG];omega);simp only[aD]at this;rw[ur O]at this;simp only[hl,Nat.add_sub_cancel_left]at this;rw[show p+s.size+k=p+(s.size+k) by omega];exact this}}};exact key G
def bU.pos {n:Nat} {t:Ty} {xs:List (aX t)} {h:Option Nat} {v:Value} (G:bU β who w n t xs h v) (Q:xs≠[]):
 v=β n/\ ∃b o cap arr el,v= .slice (some ⟨b,o,none⟩) xs.length cap/\w.heap[b]? =some (.cells arr el (0,0))/\o+cap*t.size<=arr.size/\xs.length<=cap/\who b=some n/\
 (∀i (hi:i<xs.length),cw who w n b h t xs[i] (ay w b o) (i*t.size))/\
 ∀p q a K l O c c',p<xs.length*t.size->q<xs.length*t.size->h≠some p->h≠some q->ay w b o p=some (.slice (some a) l c)->ay w b o q=some (.slice (some K) O c')->a.block=K.block->p=q:=by refine⟨G.1,?_⟩;rcases G.2 with⟨J,h2⟩|J;{exact absurd h2 Q};{exact J}
def bU.len {n:Nat} {t:Ty} {xs:List (aX t)} {h:Option Nat} {v:Value} (G:bU β who w n t xs h v): ∃ad cap,v= .slice ad xs.length cap:=by rcases G.2 with⟨rfl,rfl⟩|⟨b,o,cap,arr,el,rfl,_⟩;{exact⟨_,_,rfl⟩};{exact⟨_,_,rfl⟩}
def aC.dq (S:aC E D β who U hd a w) {s n:Nat} {t:Ty} {xs:List (aX t)} {h:Option Nat} (G:U.get s= .dq n t xs h):bU β who w n t xs h (a.tmps.getD s undef):=by have:=S.rel s;rw[G]at this;exact this
def NU {i j m L:Nat} (J:i<L) (G:j<m):i*m+j<L*m:=by have:(i+1)*m<=L*m:=zO _ O;rw[fT]at this;omega
def qmm {i j i' j' m:Nat} (J:j<m) (G:j'<m) (h:i*m+j=i'*m+j'):i=i'/\j=j':=by have K:(i*m+j)/m=i:=by{rw[zY,RE O,vz J,zQ]};have h2:(i'*m+j')/m=i':=by{rw[zY,RE O,vz G,zQ]};have:i=i':=by{rw[<-K,<-h2,h]};subst this;exact⟨rfl,O⟩
def dE.slice {base:Value} {sz i j:Nat} {c:Value} (hp:dE base sz i j c) {ad:Option Addr} {L cap:Nat} (J:base= .slice ad L cap): ∃b o,ad=some ⟨b,o,none⟩/\i<L/\c= .pointer (some ⟨b,o+i*sz+j,none⟩):=by rcases hp with⟨b,o,L',K,G,e2,e3⟩|⟨b,G,_⟩;{rw[J]at G;injection G with Q O q3;subst Q O;exact⟨b,o,rfl,e2,e3⟩};{rw[J]at G;cases G}
end
section
variable {P:Program} {CO:Q8} {T:TT} {E:a8} {D:Nat->Prop} {β:aR} {who:bh} {U U':ao} {hd:List (AV×Value)} {a:Act} {w w':World} {R W:List Nat}
def aC.takeDq (S:aC E D β who U [] a w) {idx s n i j:Nat} {t u:Ty} {xs:List (aX t)} {ow:Rr} {ys:List (aX u)} (K:U.get s= .dq n t xs none) (hi:i<xs.length)
 (hj:(aD t xs[i])[j]? =some (.sl ow u ys)) (hf: ∀k,k<16-> ¬D (fresh idx k)):
 ∃b o cap v,β n= .slice (some ⟨b,o,none⟩) xs.length cap/\ay w b o (i*t.size+j)=some v/\
  ∃β' who',aC E (Dn D idx) β' who' (U.set s (.dq n t xs (some (i*t.size+j)))) [(.sl (.nm (fresh idx 15)) u ys,v)] a w:=by
 classical
 obtain⟨h1,b,o,cap,arr,el,e1,e2,e3,e4,e5,e6,e7⟩:=(S.dq K).pos (Qe hi);obtain⟨b0,m0⟩:=List.getElem?_eq_some_iff.1 hj;have l0:j<t.size:=by rw[Xb]at b0;exact b0
 obtain⟨_,hcells⟩:=A4 (e6 i hi);have f0:=hcells j b0;rw[m0]at f0
 obtain⟨v,f1,f2⟩: ∃v,ay w b o (i*t.size+j)=some v/\fO who w n u ys v b:=by
  rcases f0 with h|h
  . cases h
  . exact h
 refine⟨b,o,cap,v,by rw[<-h1];exact e1,f1,?_⟩
 obtain⟨m,rfl⟩: ∃m,m=fresh idx 15:=⟨_,rfl⟩;have e0: ¬D (fresh idx 15):=hf 15 O;have h0:D n:=S.occ s n (by rw[K];simp[Vs.occ,aZ,aL])
 have s0:fresh idx 15≠n:=λe=>e0 (e▸h0)
 let G:Nat->Prop:=λb'=> ∃oi li ci,v= .slice (some ⟨b',oi,none⟩) li ci
 have hG: ∀b',G b'->who b'=some n/\b'≠b:=by
  rintro b' ⟨oi,li,ci,hg⟩
  rcases f2 with⟨q,_⟩|⟨bi,q0,u0,ar,l,k1,k2,k3,k4,k5,k6,k7⟩
  . rw[q]at hg;cases hg
  . grind
 let β':aR:=λx=>if x=fresh idx 15 then v else β x
 let who':bh:=λb'=>if G b' then some (fresh idx 15)else who b'
 have hβ: ∀x,D x->β' x=β x:=λx J=>by grind
 have hnone: ∀b',who b'=none->who' b'=none:=λb' hb=>by
  grind
 have hE: ∀(t:Ty) (ys:List (aX t)) b o,aT who w t ys b o->aT who' w t ys b o:=λt ys b o he=>
  he.keep (λb' hb _=>⟨hnone b' hb,rfl⟩) (zJ _) rfl
 have a0: ∀b',who b'=some n-> ¬G b'->who' b'=some n:=λb' hb g=>by grind
 have hP:i*t.size+j<xs.length*t.size:=NU hi l0
 have hnewdq:bU β' who' w n t xs (some (i*t.size+j)) (a.tmps.getD s undef):=by
  refine⟨by rw[hβ n h0];exact h1,.inr ⟨b,o,cap,arr,el,e1,e2,e3,e4,a0 b e5 (λg=>(hG b g).2 rfl),λi' Q=> ?_,?_⟩⟩
  . refine cw.imp (d:=0) (λ_ _=> .inl rfl) (λ_ _ h=>by cases h) (λu' i0 v' j' g0 hc c0 d0=> ?_) (e6 i' Q)
    rcases c0 with g2|⟨bi,oi,ci,ar,l,k1,k2,k3,k4,k5,k6,k7⟩
    . exact .inl g2
    . refine .inr ⟨bi,oi,ci,ar,l,k1,k2,k3,k4,a0 bi k5 ?_,k6,hE _ _ _ _ k7⟩
      rintro ⟨j0,r0,t0,hg⟩
      apply d0;have k0:i'*t.size+j'<xs.length*t.size:=NU Q g0;have:=e7 (i'*t.size+j') (i*t.size+j) ⟨bi,oi,none⟩ ⟨bi,j0,none⟩ _ _ _ _ k0 hP (by simp) (by simp) (hc.trans (congrArg some k1)) (f1.trans (congrArg some hg)) rfl
      exact congrArg some this.symm
  . exact λp q a a' l l' c c' p1 p2 _ _=>e7 p q a a' l l' c c' p1 p2 (by simp) (by simp)
 have hweak:bU β who w n t xs (some (i*t.size+j)) (a.tmps.getD s undef):=
  ⟨h1,.inr ⟨b,o,cap,arr,el,e1,e2,e3,e4,e5,λi' Q=>cw.imp (d:=0) (λ_ _=> .inl rfl) (λ_ _ h=>by cases h) (λu' i0 v' j' g0 hc c0 d0=>c0) (e6 i' Q),λp q a a' l l' c c' p1 p2 _ _=>e7 p q a a' l l' c c' p1 p2 (by simp) (by simp)⟩⟩
 have S1:=S.abs (s:=s) (v:= .dq n t xs (some (i*t.size+j))) hweak (λx J=>by rw[K];exact J) (by simp[ab,qi,qc])
  (λx J=>S.occ s x (by rw[K];exact J))
 have S2:=S1.shift (β':=β') (who':=who') (w':=w) (X:=[n]) (λh=>S.dfn (by grind)) hβ
  (fun b' x hb J=>⟨by
    simp only[who'];rw[af];exact hb;intro g;grind,rfl⟩)
  (fun b' hb=>⟨hnone b' hb,rfl⟩) (λb' x h=>by
    grind) rfl (λs' x J hs=>by
    rw[zC]at J;subst J;by_cases e:s'=s
    . subst e;rw[qh];exact hnewdq
    . rw[qg _ _ e]at hs;exact absurd (S.dis s' s x hs (by rw[K];simp[ab,qi,qc])) e) (λz hz=>by cases hz) ⟨rfl,rfl⟩
 have S3:=S2.mono (D':=Dn D idx) (λn h=> .inl h) (dk S2.dfn)
 refine⟨β',who',S3.addN (λx J=> ?_) (by simp[ab,qi,qc]) (λx J y hy s' hs=> ?_) (λx J y hy=> ?_)⟩
 . rw[zC]at J;subst J;refine⟨by simp[β'],?_⟩
   rcases f2 with⟨q1,q2⟩|⟨bi,oi,ci,ar,l,k1,k2,k3,k4,k5,k6,k7⟩
   . exact .inl ⟨q1,q2⟩
   . refine .inr ⟨bi,oi,ci,ar,l,k1,k2,k3,k4,?_,hE _ _ _ _ k7⟩;simp only[who'];rw[iP ⟨_,_,_,k1⟩]
 . rw[zC]at J;subst J;simp only[ab,qi,qc,zC]at hy;subst hy;exact e0 (S1.occ s' _ (qj hs))
 . rw[zC]at J;subst J;simp only[Vs.occ,aZ,aL,zC]at hy;subst hy;exact .inr ⟨15,O,rfl⟩
def aC.writeDq {idx s n i j:Nat} {t:Ty} {xs:List (aX t)} {hh h2:Option Nat} {v:AV} {cv:Value} {cs:List AV} {vs:List Value} {x':aX t} (S:aC E D β who U [(v,cv)] a w)
 (b0:U.get s= .dq n t xs hh) (hi:i<xs.length) (hlen:vs.length=cs.length) (hs:Za t xs[i] j cs=some x')
 (hcase:((∀x,x∉ab v)/\h2=hh/\ ∀k (hk:k<cs.length),(∃ik z,cs[k]= .int ik z/\vs[k]? =some (.int ik z))\/(∃y,cs[k]= .bool y/\vs[k]? =some (.bool y)))\/
   (∃m u ys,v= .sl (.nm m) u ys/\cs=[v]/\vs=[cv]/\hh=some (i*t.size+j)/\h2=none)):
 ∃b o cap arr el,β n= .slice (some ⟨b,o,none⟩) xs.length cap/\w.heap[b]? =some (.cells arr el (0,0))/\o+i*t.size+j+vs.length<=arr.size/\who b=some n/\
  ∃who',aC E D β who' (U.set s (.dq n t (xs.set i x') h2)) [] a (w.setRow b (qm arr (o+i*t.size+j) vs)):=by
 classical
 obtain⟨h1,b,o,cap,arr,el,e1,e2,e3,e4,e5,e6,e7⟩:=(S.dq b0).pos (Qe hi);have x0:D n:=S.occ s n (by rw[b0];simp[Vs.occ,aZ,aL])
 unfold Za at hs;split at hs
 case isFalse=>cases hs
 rename_i j1;split at hs
 case h_2=>cases hs
 rename_i y hy;injection hs with hs
 subst hs;have s1:xs.length*t.size<=cap*t.size:=zO _ e4;have l1:(i+1)*t.size<=xs.length*t.size:=zO _ O;rw[fT]at l1;have a0:o+i*t.size+j+vs.length<=arr.size:=O;refine⟨b,o,cap,arr,el,by rw[<-h1];exact e1,e2,a0,e5,?_⟩
 obtain⟨w',c0⟩: ∃w',w'=w.setRow b (qm arr (o+i*t.size+j) vs):=⟨_,rfl⟩;rw[<-c0];have hheapb:w'.heap[b]? =some (.cells (qm arr (o+i*t.size+j) vs) el (0,0)):=by rw[c0];exact setRow_heap w b arr _ el _ e2
 have Q: ∀b',b'≠b->w'.heap[b']? =w.heap[b']? :=λb' hb=>by rw[c0];exact setRow_other w b b' _ hb
 have b1:w'.heap.size=w.heap.size:=by rw[c0];simp
 let K:Nat->Prop:=λk=>k∈ab v
 let who':bh:=λb'=>if∃k,who b'=some k/\K k then some n else who b'
 have s0: ¬K n:=λh=>S.hdis _ mS n h s (by rw[b0];simp[ab,qi,qc])
 have hnone: ∀b',who b'=none->who' b'=none/\w'.heap[b']? =w.heap[b']? :=λb' hb=>by
  refine⟨by grind,Q b' (by grind)⟩
 have hE: ∀(u:Ty) (ys:List (aX u)) b' o,b'≠b->aT who w u ys b' o->aT who' w' u ys b' o:=λu ys b' o hb he=>
  he.keep (λb' hb _=>hnone b' hb) O (Q b' hb)
 have j0: ∀b',who b'=some n->who' b'=some n:=λb' hb=>by grind
 have z0: ∀b' k,who b'=some k->K k->who' b'=some n:=λb' k hb hk=>by
  simp only[who'];rw[iP ⟨k,hb,hk⟩]
 have v0: ∀(u:Ty) (ys:List (aX u)) v,fO who w n u ys v b->fO who' w' n u ys v b:=by
  intro u ys v h;rcases h with h|⟨bi,oi,ci,ar,l,k1,k2,k3,k4,k5,k6,k7⟩
  . exact .inl h
  . exact .inr ⟨bi,oi,ci,ar,l,k1,by rw[Q bi k6];exact k2,k3,k4,j0 bi k5,k6,hE _ _ _ _ k6 k7⟩
 have hcell: ∀p,ay w' b o p=if i*t.size+j<=p/\p<i*t.size+j+vs.length then vs[p-(i*t.size+j)]? else ay w b o p:=by
  intro p;have c1:w'.cell? ⟨b,o+p,none⟩=(qm arr (o+i*t.size+j) vs)[o+p]? :=by simp[World.cell?,hheapb]
  have c2:w.cell? ⟨b,o+p,none⟩=arr[o+p]? :=by simp[World.cell?,e2]
  simp only[ay,c1,c2];rw[Qk a0];by_cases e:i*t.size+j<=p/\p<i*t.size+j+vs.length
  . rw[iP e,iP O];congr 1;omega
  . rw[af e,af O]
 have hnewc: ∀k (hk:k<cs.length),cV who' w' n b h2 cs[k] (ay w' b o (i*t.size+(j+k))) (i*t.size+(j+k)):=by
  intro k hk;rw[hcell,iP O,show i*t.size+(j+k)-(i*t.size+j)=k by omega]
  rcases hcase with⟨_,_,hc⟩|⟨m,u,ys,rfl,rfl,rfl,q1,q2⟩
  . rcases hc k hk with⟨ik,z,J,G⟩|⟨z,J,G⟩
    . rw[J,G];rfl
    . rw[J,G];rfl
  . have i1:k=0:=by simp at hk;exact hk
    subst i1;have hv:cr β who w m u ys cv:=S.hrel _ mS;refine .inr ⟨cv,rfl,?_⟩;rcases hv.2 with h|⟨bi,oi,ci,ar,l,k1,k2,k3,k4,k5,k6⟩
    . exact .inl h
    . have d0:K m:=by simp[K,ab,qi,qc]
      have i0:bi≠b:=by rintro rfl;rw[e5]at k5;injection k5 with k5;exact s0 (k5▸d0)
      exact .inr ⟨bi,oi,ci,ar,l,k1,by rw[Q bi i0];exact k2,k3,k4,z0 bi m k5 d0,i0,hE _ _ _ _ i0 k6⟩
 have hold: ∀p ad l c,p<xs.length*t.size->hh≠some p->ay w b o p=some (.slice (some ad) l c)->who ad.block=some n:=by
  intro p ad l c hp d1 hc
  have l0:0<t.size:=by
   rcases EZ t.size with h|h
   . rw[h]at hp;omega
   . exact h
  have hq:p/t.size<xs.length:=Lx (by rw[zY];exact hp)
  have hr:p%t.size<(aD t xs[p/t.size]).length:=by rw[Xb];exact iV _ l0
  have:=(A4 (e6 _ hq)).2 _ hr;rw[show p/t.size*t.size+p%t.size=p by rw[zY];exact ui _ _]at this
  rw[hc]at this;generalize (aD t xs[p/t.size])[p%t.size]=cc at this;cases cc with
  |sl ow u ys=>
   rcases this with g|⟨v',J,G⟩
   . exact absurd g d1
   . injection J with J
     subst J;rcases G with⟨q,_⟩|⟨bi,oi,ci,ar,l',k1,k2,k3,k4,k5,k6,k7⟩
     . cases q
     . injection k1 with k1 _ _;injection k1 with k1;subst k1;exact k5
  |int k x=>cases this
  |bool x=>cases this
  |_=>exact this.elim
 have r0:bU β who' w' n t (xs.set i y) h2 (a.tmps.getD s undef):=by
  refine⟨h1,.inr ⟨b,o,cap,qm arr (o+i*t.size+j) vs,el,by simpa using e1,hheapb,by rw[Ql a0];exact e3,by simpa using e4,j0 b e5,λi' m1=> ?_,?_⟩⟩
  . have w0:i'<xs.length:=by simpa using m1
    have g0: ∀p,¬(i*t.size+j<=p/\p<i*t.size+j+vs.length)-> ∀c,cV who w n b hh c (ay w b o p) p->(hh=some p->h2=some p)->cV who' w' n b h2 c (ay w' b o p) p:=by
     intro p hp c hc r1;exact hc.imp (by rw[hcell,af hp]) r1 (λu ys v _ _ h=> .inr (v0 u ys v h))
    have hhole: ∀p,¬(i*t.size+j<=p/\p<i*t.size+j+vs.length)->hh=some p->h2=some p:=by
     intro p hp e;rcases hcase with⟨_,q,_⟩|⟨m,u,ys,_,_,q0,q1,q2⟩
     . rw[q];exact e
     . rw[q1]at e;injection e with e
       exact absurd ⟨O,by rw[q0];simp;omega⟩ hp
    by_cases e:i'=i
    . subst e;rw[IJ];have a1:(aD t xs[i']).length=t.size:=Xb;have k0:j+cs.length<=(aD t xs[i']).length:=by rw[a1];exact j1
      refine(uJ (p:=i'*t.size) hy λk hk _=> ?_).1
      have u0:k<(aD t xs[i']).length:=by rw[<-Xd k0];exact hk
      rw[Jb k0 u0];split
      . rename_i hc;have:=hnewc (k-j) O;rw[show j+(k-j)=k by omega]at this
        exact this
      . rename_i hc;have hp: ¬(i'*t.size+j<=i'*t.size+k/\i'*t.size+k<i'*t.size+j+vs.length):=O;exact g0 _ hp _ ((A4 (e6 i' w0)).2 k u0) (hhole _ hp)
    . rw[II (λh=>e h.symm)]
      refine cw.ofCells λk hk=> ?_
      have f1:k<t.size:=by rw[Xb]at hk;exact hk
      have hp: ¬(i*t.size+j<=i'*t.size+k/\i'*t.size+k<i*t.size+j+vs.length):=by
       rintro ⟨J,G⟩
       have:=qmm (m:=t.size) (i:=i') (j:=k) (i':=i) (j':=i'*t.size+k-i*t.size) f1 O O;exact e this.1
      exact g0 _ hp _ ((A4 (e6 i' w0)).2 k hk) (hhole _ hp)
  . intro p q ap aq l l' c c' p1 p2 p3 p4 p5 p6 p7;simp only[zT]at p1 p2;rw[hcell]at p5 p6;rcases hcase with⟨_,hq,hc⟩|⟨m,u,ys,rfl,rfl,rfl,q1,q2⟩
    . have m0: ∀p al l c,(i*t.size+j<=p/\p<i*t.size+j+vs.length)->vs[p-(i*t.size+j)]? ≠some (.slice al l c):=by
       intro p al l c hp hv;rcases hc (p-(i*t.size+j)) O with⟨ik,z,_,G⟩|⟨z,_,G⟩
       . rw[G]at hv;injection hv with hv;cases hv
       . rw[G]at hv;injection hv with hv;cases hv
      split at p5
      . rename_i g;exact absurd p5 (m0 _ _ _ _ g)
      split at p6
      . rename_i g;exact absurd p6 (m0 _ _ _ _ g)
      exact e7 p q ap aq l l' c c' p1 p2 (by rw[<-hq];exact p3) (by rw[<-hq];exact p4) p5 p6 p7
    . have d0:K m:=by simp[K,ab,qi,qc]
      have hv:cr β who w m u ys cv:=S.hrel _ mS
      have h0: ∀ad l c,cv= .slice (some ad) l c->who ad.block=some m:=by
       intro ad l c e;rcases hv.2 with⟨q,_⟩|⟨bi,oi,ci,ar,l',k1,k2,k3,k4,k5,k6⟩
       . rw[q]at e;cases e
       . rw[k1]at e;injection e with e _ _;injection e with e;subst e;exact k5
      have t0:m≠n:=λe=>s0 (e▸d0)
      have e0: ∀p,(i*t.size+j<=p/\p<i*t.size+j+[cv].length)->p=i*t.size+j:=λp hp=>by simp at hp;omega
      split at p5<;>split at p6
      . rename_i J G;rw[e0 p J,e0 q G]
      . rename_i J G;rw[e0 p J,xe]at p5;injection p5 with p5
        have w1:=h0 _ _ _ p5;have w2:=hold q aq l' c' p2 (by rw[q1];intro e;injection e with e;exact G ⟨O,by simp;omega⟩) p6
        rw[p7,w2]at w1;injection w1 with w1;exact absurd w1.symm t0
      . rename_i J G;rw[e0 q G,xe]at p6;injection p6 with p6
        have w1:=h0 _ _ _ p6;have w2:=hold p ap l c p1 (by rw[q1];intro e;injection e with e;exact J ⟨O,by simp;omega⟩) p5
        rw[<-p7,w2]at w1;injection w1 with w1;exact absurd w1.symm t0
      . rename_i J G;exact e7 p q ap aq l l' c c' p1 p2 (by rw[q1];intro e;injection e with e;exact J ⟨O,by simp;omega⟩) (by rw[q1];intro e;injection e with e;exact G ⟨O,by simp;omega⟩) p5 p6 p7
 have S0:=S.drop rfl;have S1:=(S0.takeAll s).drop rfl
 have hdead: ∀x s',x∈ab ((U.set s .dead).get s')->s'≠s/\x∈ab (U.get s'):=λx s' h=>by
  by_cases e:s'=s
  . subst e;rw[qh]at h;simp[ab,qi,qc]at h
  . rw[qg _ _ e]at h;exact⟨e,h⟩
 have S2:=S1.shift (β':=β) (who':=who') (w':=w') (X:=n::ab v) (λh=>by
  rcases mC h with h|h
  . exact S.dfn (by rw[h];exact x0)
  . exact S.dfn (S.hocc _ mS FN (qj h))) (λ_ _=>rfl)
  (fun b' x hb hx=>by
    simp only[zq,not_or]at hx;refine⟨?_,Q b' (by rintro rfl;rw[e5]at hb;injection hb with hb;exact hx.1 hb.symm)⟩
    simp only[who'];rw[af];exact hb
    rintro ⟨k,J,G⟩
    rw[hb]at J;injection J with J
    exact hx.2 (J▸G))
  hnone (λb' x h=>by
   grind) b1 (λs' x hx hs=>by
   obtain⟨J,G⟩:=hdead x s' hs;rcases mC hx with rfl|hx
   . exact absurd (S.dis s' s x G (by rw[b0];simp[ab,qi,qc])) J
   . exact absurd G (S.hdis _ mS x hx s')) (λz hz=>by cases hz) (by simp_all)
 have S4:=S2.recast (s:=s) (v:= .dq n t (xs.set i y) h2) (qh ..) r0 (by simp[ab,qi,qc])
  (fun x hx s' hs=>by
    simp only[ab,qi,qc,zC]at hx;subst hx;obtain⟨J,G⟩:=hdead x s' hs;exact J (S.dis s' s x G (by rw[b0];simp[ab,qi,qc])))
  (fun x hx=>by
    simp only[Vs.occ,aZ,aL,zC]at hx;subst hx;exact x0)
 refine⟨who',S4.ext λs'=> ?_⟩
 by_cases e:s'=s
 . subst e;rw[qh,qh]
 . rw[qg _ _ e,qg _ _ e,qg _ _ e]
end
section
variable {P:Program} {CO:Q8} {T:TT} {E:a8} {D:Nat->Prop} {β:aR} {who:bh} {U U':ao} {hd:List (AV×Value)} {a:Act} {w w':World} {R W:List Nat}
structure fz (who:bh) (w:World) (n b:Nat) (t:Ty) (xs:List (aX t)) (hs:List Value):Prop where
 len:hs.length=xs.length*t.size
 one: ∀x∈hs,x.oneCell'=true
 cell: ∀i k (hi:i<xs.length) (hk:k<(aD t xs[i]).length),cV who w n b none (aD t xs[i])[k] hs[i*t.size+k]? (i*t.size+k)
 dist: ∀(p q:Nat) (ap aq:Addr) (l l' c c':Nat),hs[p]? =some (.slice (some ap) l c)->hs[q]? =some (.slice (some aq) l' c')->ap.block=aq.block->p=q
 blk: ∀(p:Nat) (ad:Addr) (l c:Nat),hs[p]? =some (.slice (some ad) l c)->who ad.block=some n/\ad.block≠b
def cV.one {n b p:Nat} {c:AV} {v:Value} (h:cV who w n b none c (some v) p):v.oneCell'=true:=by cases c with|int k x=>{injection h with h;subst h;rfl}|bool x=>{injection h with h;subst h;rfl}|sl o t xs=>{rcases h with h|⟨v',h1,h2⟩;{cases h};{injection h1 with h1;subst h1;obtain⟨ad,l,c,rfl⟩:=h2.one;rfl}}|_=>exact h.elim
def cV.blk {n b p:Nat} {c:AV} {ad:Addr} {l Q:Nat} (h:cV who w n b none c (some (.slice (some ad) l Q)) p):who ad.block=some n/\ad.block≠b:=by cases c with|int k x=>{injection h with h;cases h}|bool x=>{injection h with h;cases h}|sl o t xs=>{rcases h with h|⟨v',J,h2⟩;{cases h};{injection J with J;subst J;rcases h2 with⟨q,_⟩|⟨bi,oi,ci,ar,l',G,k2,k3,k4,O,K,k7⟩;{cases q};{injection G with G _ _;injection G with G;subst G;exact⟨O,K⟩}}}|_=>exact h.elim
def cV.some {n b p:Nat} {c:AV} {o:Option Value} (h:cV who w n b none c o p): ∃v,o=some v:=by cases c with|int k x=>exact⟨_,h⟩|bool x=>exact⟨_,h⟩|sl ow t xs=>{rcases h with h|⟨v',h1,_⟩;{cases h};{exact⟨_,h1⟩}}|_=>exact h.elim
def bU.news {n:Nat} {t:Ty} {xs:List (aX t)} {v:Value} (h:bU β who w n t xs none v):
 ∃b hs,fz who w n b t xs hs/\(∀w1:World,w1.heap=w.heap->(Builtin.firstCells t.size xs.length v).run P w1= .ok hs.toArray w1)/\
  (v≠ .slice none 0 0-> ∃o cap arr el,v= .slice (some ⟨b,o,none⟩) xs.length cap/\w.heap[b]? =some (.cells arr el (0,0))/\o+cap*t.size<=arr.size/\xs.length<=cap/\who b=some n/\ ∀p,p<hs.length->ay w b o p=hs[p]?):=by obtain⟨h1,h⟩:=h;rcases h with⟨rfl,rfl⟩|⟨b,o,cap,arr,el,e1,e2,e3,e4,e5,e6,e7⟩;{exact⟨0,[],⟨by simp,λx hx=>by simp at hx,λi k hi=>by simp at hi,λp q ap aq l l' c c' h=>by simp at h,λp ad l c h=>by simp at h⟩,λw1 _=>by simp[Builtin.firstCells],λh=>absurd rfl h⟩};obtain⟨hs,a0⟩: ∃hs:List Value,hs=(List.range (xs.length*t.size)).map λp=>(ay w b o p).getD undef:=⟨_,rfl⟩;have hlen:hs.length=xs.length*t.size:=by{rw[a0];simp};have d0: ∀p,p<xs.length*t.size-> ∃i k,∃hi:i<xs.length,∃hk:k<(aD t xs[i]).length,p=i*t.size+k:=by{intro p K;have b0:0<t.size:=by{rcases EZ t.size with h|h;{rw[h]at K;omega};{exact h}};have hq:p/t.size<xs.length:=Lx (by rw[zY];exact K);refine⟨p/t.size,p%t.size,hq,by rw[Xb];exact iV _ b0,?_⟩;rw[zY];exact(ui _ _).symm};have Q: ∀p,p<xs.length*t.size-> ∃c,cV who w n b none c (ay w b o p) p:=by{intro p K;obtain⟨i,k,hi,hk,rfl⟩:=d0 p K;exact⟨_,(A4 (e6 i hi)).2 k hk⟩};have G: ∀p,p<xs.length*t.size->hs[p]? =ay w b o p:=by{intro p K;obtain⟨c,hc⟩:=Q p K;obtain⟨v,hv⟩:=hc.some;rw[a0,List.getElem?_map,List.getElem?_range K,hv];simp[hv]};have J: ∀{p:Nat} {v:Value},hs[p]? =some v->p<xs.length*t.size:=λ{p v} h=>by{have:=(List.getElem?_eq_some_iff.1 h).1;omega};refine⟨b,hs,⟨hlen,λx hx=> ?_,λi k hi hk=> ?_,λp q ap aq l l' c c' p1 p2 p3=> ?_,λp ad l c p1=> ?_⟩,λw1 c0=> ?_,λ_=>⟨o,cap,arr,el,e1,e2,e3,e4,e5,λp K=>(G p O).symm⟩⟩;{obtain⟨p,K,rfl⟩:=nz hx;obtain⟨c,hc⟩:=Q p O;rw[<-G p O,List.getElem?_eq_getElem K]at hc;exact hc.one};{have e0:k<t.size:=by{rw[Xb]at hk;exact hk};rw[G _ (NU hi e0)];exact(A4 (e6 i hi)).2 k hk};{exact e7 p q ap aq l l' c c' (J p1) (J p2) (by simp) (by simp) (by rw[<-G p (J p1)];exact p1) (by rw[<-G q (J p2)];exact p2) p3};{obtain⟨cc,hc⟩:=Q p (J p1);rw[<-G p (J p1),p1]at hc;exact hc.blk};{rw[e1];simp only[Builtin.firstCells];rw[run_loadCells (P:=P) w1 ⟨b,o,none⟩ (xs.length*t.size) (λp=>(ay w b o p).getD undef) (λp K=> ?_)];{rw[a0]};{obtain⟨c,hc⟩:=Q p K;obtain⟨v,hv⟩:=hc.some;rw[hv,bH];simp only[ay,World.cell?]at hv⊢;rw[c0];exact hv}}
def bU.mk' {n:Nat} {t:Ty} {zs:List (aX t)} {hs:List Value} {v:Value} {b o cap:Nat} {arr:Array Value} {el:TypeId} (hβ:β n=v)
 (hv:v= .slice (some ⟨b,o,none⟩) zs.length cap) (hh:w.heap[b]? =some (.cells arr el (0,0))) (h1:o+cap*t.size<=arr.size) (h2:zs.length<=cap) (h3:who b=some n)
 (hd:fz who w n b t zs hs) (K: ∀p,p<hs.length->ay w b o p=hs[p]?):bU β who w n t zs none v:=by refine⟨hβ.symm,.inr ⟨b,o,cap,arr,el,hv,hh,h1,h2,h3,λi O=>cw.ofCells λk J=> ?_,λp q ap aq l l' c c' p1 p2 _ _ p5 p6 Q=> ?_⟩⟩;{have G:k<t.size:=by{rw[Xb]at J;exact J};rw[K _ (by rw[hd.len];exact NU O G)];exact hd.cell i k O J};{exact hd.dist p q ap aq l l' c c' (by rw[<-K p (by rw[hd.len];exact p1)];exact p5) (by rw[<-K q (by rw[hd.len];exact p2)];exact p6) Q}
def fz.append {who':bh} {n m k bx e0 b0:Nat} {t:Ty} {xs ys:List (aX t)} {K hy:List Value} (h1:fz who w n bx t xs K) (h2:fz who w m e0 t ys hy) (d0:m≠n)
 (p1: ∀b,who b=some n->who' b=some k) (p2: ∀b,who b=some m->who' b=some k) (p3: ∀b,who b=none->b<w.heap.size->who' b=none/\w'.heap[b]? =w.heap[b]?) (p4:w.heap.size<=w'.heap.size)
 (p5: ∀(p:Nat) (ad:Addr) (l c:Nat),K[p]? =some (.slice (some ad) l c)->ad.block≠b0/\w'.heap[ad.block]? =w.heap[ad.block]?) (p6: ∀(p:Nat) (ad:Addr) (l c:Nat),hy[p]? =some (.slice (some ad) l c)->ad.block≠b0/\w'.heap[ad.block]? =w.heap[ad.block]?):
 fz who' w' k b0 t (xs++ys) (K++hy):=by
 have a0:=h1.len;have h0:=h2.len
 have conv: ∀(nn bb:Nat) (hh:List Value) (c:AV) (p p':Nat),(∀b,who b=some nn->who' b=some k)->(∀(p:Nat) (ad:Addr) (l c:Nat),hh[p]? =some (.slice (some ad) l c)->ad.block≠b0/\w'.heap[ad.block]? =w.heap[ad.block]?)->
  cV who w nn bb none c hh[p]? p->cV who' w' k b0 none c hh[p]? p':=by
  intro nn bb hh c p p' J q2 hc;refine hc.imp rfl (λh=>by cases h) λu ys v hv _ hi=> .inr ?_
  rcases hi with g|⟨bi,oi,ci,ar,l,k1,k2,k3,k4,k5,k6,k7⟩
  . exact .inl g
  . obtain⟨g1,g2⟩:=q2 p ⟨bi,oi,none⟩ _ _ (by rw[hv,k1])
    exact .inr ⟨bi,oi,ci,ar,l,k1,by rw[g2];exact k2,k3,k4,J bi k5,g1,k7.keep p3 p4 g2⟩
 have G: ∀p,p<K.length->(K++hy)[p]? =K[p]? :=λp hp=>List.getElem?_append_left hp
 have s9: ∀p,¬p<K.length->(K++hy)[p]? =hy[p-K.length]? :=λp hp=>List.getElem?_append_right O
 refine⟨by rw[zG,zG,fT,a0,h0],λx g0=> ?_,λi j hi hj=> ?_,λp q ap aq l l' c c' J q2 q3=> ?_,λp ad l c J=> ?_⟩
 . rcases zX.1 g0 with h|h
   . exact h1.one x h
   . exact h2.one x h
 . have c0:j<t.size:=by rw[Xb]at hj;exact hj
   by_cases Q:i<xs.length
   . rw[G _ (by rw[a0];exact NU Q c0)]
     have:=h1.cell i j Q (by rw[Xb];exact c0)
     have:=conv n bx K _ _ (i*t.size+j) p1 p5 this
     simpa only[xf Q]using this
   . have a2:i-xs.length<ys.length:=by rw[zG]at hi;omega
     have hle:xs.length*t.size<=i*t.size:=zO _ O;have e:i*t.size+j-K.length=(i-xs.length)*t.size+j:=by rw[a0,Nat.sub_mul];omega
     rw[s9 _ O,e];have:=h2.cell (i-xs.length) j a2 (by rw[Xb];exact c0)
     have:=conv m e0 hy _ _ (i*t.size+j) p2 p6 this
     simpa only[ur (xk Q)]using this
 . by_cases Q:p<K.length<;>by_cases a2:q<K.length
   . rw[G p Q]at J;rw[G q a2]at q2;exact h1.dist p q ap aq l l' c c' J q2 q3
   . rw[G p Q]at J;rw[s9 q a2]at q2;have g1:=(h1.blk _ _ _ _ J).1;have g2:=(h2.blk _ _ _ _ q2).1;rw[q3,g2]at g1;injection g1 with g1;exact absurd g1 d0
   . rw[s9 p Q]at J;rw[G q a2]at q2;have g1:=(h2.blk _ _ _ _ J).1;have g2:=(h1.blk _ _ _ _ q2).1;rw[q3,g2]at g1;injection g1 with g1;exact absurd g1.symm d0
   . rw[s9 p Q]at J;rw[s9 q a2]at q2;have:=h2.dist _ _ ap aq l l' c c' J q2 q3;omega
 . by_cases Q:p<K.length
   . rw[G p Q]at J;exact⟨p1 _ (h1.blk _ _ _ _ J).1,(p5 _ _ _ _ J).1⟩
   . rw[s9 p Q]at J;exact⟨p2 _ (h2.blk _ _ _ _ J).1,(p6 _ _ _ _ J).1⟩
def qad (hT:bG P T) {idx:Nat} {j0:Array TypeId} {rt t0 t1 e e1:TypeId} {et m1:Ty} {cells cells1:List ZC} {n m:Nat} {t:Ty} {xs ys:List (aX t)} {cx cy:Value}
 (h0:j0[0]? =some t0) (h1:j0[1]? =some t1) (f1:T.at t0=some {desc:= .slice e et,cells:=cells}) (d1:T.at t1=some {desc:= .slice e1 m1,cells:=cells1})
 (x0:et.size=t.size) (S:aC E D β who U [(.dq m t ys none,cy),(.dq n t xs none,cx)] a w) (p1:0<ys.length) (hlen:xs.length+ys.length<=1073741824) (hf: ∀k,k<16-> ¬D (fresh idx k)):
 ∃r w' β' who',(Builtin.append_ j0 rt #[cx,cy]).run P w= .ok r w'/\aC E (Dn D idx) β' who' U [(.dq (fresh idx 15) t (xs++ys) none,r)] a w':=by obtain⟨v0,⟨ei,ez,he,k1,hbytes,_,hz,b1⟩⟩:=(hT t0 _ f1).desc;obtain⟨u0,_⟩:=(hT t1 _ d1).desc;have a0:ei.size=t.size:=by{rw[k1,x0]};have r0:ez.cells.size=t.size:=by{rw[<-Array.length_toList,b1,Qm,x0]};have hX:bU β who w n t xs none cx:=S.hrel _ (mT mS);have hY:bU β who w m t ys none cy:=S.hrel _ mS;have k0:m≠n:=by{have:=S.hnod;simp only[fC,Bk,ab,qi,qc,ls,xc,ny,zC]at this;exact this.1};obtain⟨q0,G,rfl⟩:=hX.len;obtain⟨m0,e0,rfl⟩:=hY.len;obtain⟨bx,hx,cX,rX,qX⟩:=hX.news (P:=P);obtain⟨r1,hy,cY,rY,qY⟩:=hY.news (P:=P);have g0: ∃z∈([(.dq m t ys none,.slice m0 ys.length e0),(.dq n t xs none,.slice q0 xs.length G)]:List (AV×Value)),n∈ab z.1:=⟨_,mT mS,by simp[ab,qi,qc]⟩;have s0: ∃z∈([(.dq m t ys none,.slice m0 ys.length e0),(.dq n t xs none,.slice q0 xs.length G)]:List (AV×Value)),m∈ab z.1:=⟨_,mS,by simp[ab,qi,qc]⟩;have d0: ∀{b x:Nat},who b=some x->b<w.heap.size:=λh=>S.wsz _ _ h;have j1:=cX.len;have l0:=cY.len;by_cases hroom:xs.length+ys.length<=G;{obtain⟨o,cap,arr,el,e1,e2,e3,e4,e5,e6⟩:=qX (by intro e;injection e with _ q1 q2;omega);injection e1 with q1 _ q2;subst q1 q2;have hmul:(xs.length+ys.length)*t.size<=G*t.size:=zO _ hroom;rw[fT]at hmul;have K:o+xs.length*ei.size+hy.length<=arr.size:=by{rw[a0,l0];omega};have J:=WT (P:=P) (rt:=rt) h0 h1 v0 u0 he (o:=o) (sLen:=xs.length) (sCap:=G) e2 (by rw[a0];exact rY w rfl) (by rw[a0];exact l0) cY.one hroom K;rw[a0]at J K;obtain⟨w',b0⟩: ∃w',w'=w.setRow bx (qm arr (o+xs.length*t.size) hy):=⟨_,rfl⟩;have Q: ∀b',b'≠bx->w'.heap[b']? =w.heap[b']? :=λb' hb=>by{rw[b0];exact setRow_other w bx b' _ hb};have hheap:w'.heap[bx]? =some (.cells (qm arr (o+xs.length*t.size) hy) el (0,0)):=by{rw[b0];exact setRow_heap w bx arr _ el _ e2};have w0:w'.heap.size=w.heap.size:=by{rw[b0];simp};rw[<-b0]at J;obtain⟨β',who',S'⟩:=S.mergeHand (idx:=idx) (v:= .dq (fresh idx 15) t (xs++ys) none) (c:= .slice (some ⟨bx,o,none⟩) (xs.length+ys.length) G) (base:= .slice (some ⟨bx,o,none⟩) (xs.length+ys.length) G) (w':=w') hf (by simp[ab,qi,qc]) (by simp[Vs.occ,aZ,aL]) (fun b' x hb hx=>Q b' (by{rintro rfl;rw[e5]at hb;injection hb with hb;obtain⟨z,hz,hn⟩:=g0;exact hx z hz (hb▸hn)})) (λb' hb _=>Q b' (by rintro rfl;rw[e5]at hb;cases hb)) O (by rw[b0];exact⟨rfl,rfl⟩) (fun β' who' g1 g2 g3 g4=>by{refine bU.mk' (hs:=hx++hy) g1 (by rw[zG]) hheap (by rw[Ql K];exact e3) (by rw[zG];exact hroom) (g2 bx n e5 g0) (cX.append cY k0 (λb' h=>g2 b' n h g0) (λb' h=>g2 b' m h s0) (λb' h hl=>⟨g4 b' h hl,Q b' (by rintro rfl;rw[e5]at h;cases h)⟩) O (λp ad l c q=>⟨(cX.blk p ad l c q).2,Q _ (cX.blk p ad l c q).2⟩) (fun p ad l c q=>by{have z0:ad.block≠bx:=by{intro e;have:=(cY.blk p ad l c q).1;rw[e,e5]at this;injection this with this;exact k0 this.symm};exact⟨z0,Q _ z0⟩})) (λp hp=> ?_);have c1:ay w' bx o p=(qm arr (o+xs.length*t.size) hy)[o+p]? :=by{simp[ay,World.cell?,hheap]};rw[c1,Qk K];by_cases a1:p<hx.length;{rw[af O,List.getElem?_append_left a1,<-e6 p a1];simp[ay,World.cell?,e2]};{rw[zG]at hp;rw[iP O,List.getElem?_append_right O];congr 1;omega}});exact⟨_,w',β',who',J,S'⟩};{have J:=WX (P:=P) (rt:=rt) (w:=w) h0 h1 v0 u0 he hz (sa:=q0) (sLen:=xs.length) (sCap:=G) (m:=ys.length) (ad:=m0) (c:=e0) (olds:=hx) (news:=hy) (by rw[a0];exact rX w.drew rfl) (by rw[a0];exact rY w.drew rfl) O hbytes hlen;have hcapge:xs.length+ys.length<=grownCap w (xs.length+ys.length) G e:=grownCap_ge w _ _ e;obtain⟨row,c0⟩: ∃row,row=hx.toArray++hy.toArray++Builtin.zeroCells ez.cells (grownCap w (xs.length+ys.length) G e-(xs.length+ys.length)):=⟨_,rfl⟩;rw[<-c0]at J;have i1:row.size=grownCap w (xs.length+ys.length) G e*t.size:=by{rw[c0];simp only[Array.size_append,List.size_toArray,j1,l0,size_zeroCells,r0,<-Nat.add_mul];congr 1;omega};have i0:(w.drew.alloc (.cells row e)).heap[w.heap.size]? =some (.cells row e (0,0)):=heap_alloc_new w.drew _;have hold: ∀b',b'<w.heap.size->(w.drew.alloc (.cells row e)).heap[b']? =w.heap[b']? :=λb' l1=>heap_alloc_old w.drew _ b' l1;have w0:(w.drew.alloc (.cells row e)).heap.size=w.heap.size+1:=by{simp};obtain⟨β',who',S'⟩:=S.mergeHand (idx:=idx) (v:= .dq (fresh idx 15) t (xs++ys) none) (c:= .slice (some ⟨w.heap.size,0,none⟩) (xs.length+ys.length) (grownCap w (xs.length+ys.length) G e)) (base:= .slice (some ⟨w.heap.size,0,none⟩) (xs.length+ys.length) (grownCap w (xs.length+ys.length) G e)) (w':=w.drew.alloc (.cells row e)) hf (by simp[ab,qi,qc]) (by simp[Vs.occ,aZ,aL]) (λb' x hb _=>hold b' (d0 hb)) (λb' _ hl=>hold b' hl) O ⟨rfl,rfl⟩ (fun β' who' g1 g2 g3 g4=>by{refine bU.mk' (hs:=hx++hy) g1 (by rw[zG]) i0 (by rw[i1];omega) (by rw[zG];exact hcapge) (g3 _ (zJ _) O) (cX.append cY k0 (λb' h=>g2 b' n h g0) (λb' h=>g2 b' m h s0) (λb' h hl=>⟨g4 b' h hl,hold b' hl⟩) O (fun p ad l c q=>by{have:=d0 (cX.blk p ad l c q).1;exact⟨Nat.ne_of_lt this,hold _ this⟩}) (fun p ad l c q=>by{have:=d0 (cY.blk p ad l c q).1;exact⟨Nat.ne_of_lt this,hold _ this⟩})) (λp hp=> ?_);have c1:ay (w.drew.alloc (.cells row e)) w.heap.size 0 p=row[p]? :=by{simp only[ay,World.cell?,i0,zH];rfl};rw[c1,c0];rw[Array.getElem?_append_left (by simpa using hp),List.append_toArray,List.getElem?_toArray]});exact⟨_,_,β',who',J,S'⟩}
def qeo (hT:bG P T) {idx t:Nat} {cs:List AV} {cv:Value} {e:TypeId} {ty:Ty} {t0:List ZC} {y:aX ty} (ht:T.at t=some {desc:= .slice e ty,cells:=t0}) (S:aC E D β who U [(.agg cs,cv)] a w) (hf: ∀k,k<16-> ¬D (fresh idx k))
 (s0:cs.all UP=true) (d1:ty.size<=64) (k0:J7 ty cs=some (y,[])):
 ∃r w' β' who',(Instr.buildSlice t 1 #[(0,cv)]).run P w= .ok r w'/\aC E (Dn D idx) β' who' U [(.dq (fresh idx 15) ty [y] none,r)] a w':=by obtain⟨hu,⟨ei,ez,he,b0,hb,e1,hz,b1⟩⟩:=(hT t _ ht).desc;have hv: ∃arr,cv= .agg arr/\be β who w cs arr:=S.hrel _ mS;obtain⟨arr,rfl,a0,q0⟩:=hv;have l0: ∀k (J:k<cs.length),UP cs[k]=true:=λk J=>zn.1 s0 _ (zW J);obtain⟨_,hr,hle⟩:=NO (who:=who) (w:=w) (β:=β) (f:=λk=>arr.getD k undef) (g:=λk=>some (arr.getD k undef)) (j:=0) k0 (λk J=>by{have h1:=l0 k J;have h2:=q0 k J;generalize cs[k]=c at h1 h2;refine Tl ?_ h2;cases c with|sl o t xs=>{cases o<;>first|rfl|cases h1}|bool b=>rfl|int k n=>rfl|_=>cases h1}) (λk _=>by simp);have w0:cs.length=ty.size:=by{have:=congrArg List.length hr;simp at this;omega};have K:arr.size=ei.size:=by{rw[a0,w0,b0]};have i0:(Value.agg arr).cells=arr:=rfl;obtain⟨G,e0⟩: ∃G,G=(Array.range (1*ei.size)).map λi=>ez.cells[i%ez.cells.size]! :=⟨_,rfl⟩;have g0:G.size=ei.size:=by{rw[e0];simp};have d0:0+arr.toList.length<=G.size:=by{rw[g0,vC,K];omega};have hfill:Instr.fill (λi=>some (i*ei.size,ei.size)) G [(0,.agg arr)]=some (qm G 0 arr.toList):=by{rw[Tw (off:=0*ei.size) (size:=ei.size) rfl (by rw[i0,K]) (by rw[i0,g0,K];omega),i0,Be];rfl};have r0: ¬(1*ei.size>2^24):=by{rw[b0];have:(2:Nat)^24=16777216:=rfl;omega};have j0:(Instr.buildSlice t 1 #[(0,.agg arr)]).run P w= .ok (.slice (some ⟨w.heap.size,0,none⟩) 1 1) (w.alloc (.cells (qm G 0 arr.toList) e)):=by{unfold Instr.buildSlice;simp only[Sem.run_bind,run_underlying hu,Result.andThen_ok,Xy he,r0,if_false];have a1:(newRow e (qm G 0 arr.toList)>>=λx=>pure (Value.slice (some x) 1 1):Sem Value).run P w= .ok (.slice (some ⟨w.heap.size,0,none⟩) 1 1) (w.alloc (.cells (qm G 0 arr.toList) e)):=by{simp[newRow]};split;{rename_i h0;have:=Ty.size_pos ty;omega};{simp only[Sem.run_bind,NN he hz,Sem.run_pure,Result.andThen_ok];grind}};have c0:=heap_alloc_new w (.cells (qm G 0 arr.toList) e);have hold: ∀b',b'<w.heap.size->(w.alloc (.cells (qm G 0 arr.toList) e)).heap[b']? =w.heap[b']? :=λb' x0=>heap_alloc_old w _ b' x0;have z0:(w.alloc (.cells (qm G 0 arr.toList) e)).heap.size=w.heap.size+1:=by{simp};have hcell: ∀(who':bh) (w':World) (n b k:Nat) (J:k<cs.length) (p:Nat),cV who' w' n b none cs[k] arr.toList[k]? p/\ ∀ad l c,arr.toList[k]? ≠some (.slice (some ad) l c):=by{intro who' w' n b k J p;have h1:=l0 k J;have h2:=q0 k J;have m0:k<arr.size:=by{rw[a0];exact J};have h3:arr.toList[k]? =some (arr.getD k undef):=by{rw[Array.getElem?_toList,Array.getElem?_eq_getElem m0];simp[Array.getD,m0]};rw[h3];generalize cs[k]=c at h1 h2;cases c with|sl o t xs=>{cases o with|nl=>{obtain⟨g1,g2⟩:=h2;rw[g1];exact⟨.inr ⟨_,rfl,.inl ⟨rfl,g2⟩⟩,λad l c e=>by injection e with e;cases e⟩}|_=>cases h1}|bool b=>{have h2:_=_:=h2;rw[h2];exact⟨rfl,λad l c e=>by injection e with e;cases e⟩}|int k n=>{have h2:_=_:=h2;rw[h2];exact⟨rfl,λad l c e=>by injection e with e;cases e⟩}|_=>cases h1};have v0: ∀(who':bh) (w':World) (n b:Nat),fz who' w' n b ty [y] arr.toList:=by{intro who' w' n b;refine⟨by rw[vC,K,b0];simp,λx hx=> ?_,λi k hi J=> ?_,λp q ap aq l l' c c' q1 _ _=> ?_,λp ad l c q1=> ?_⟩;{obtain⟨p,hp,rfl⟩:=nz hx;have Q:p<cs.length:=by{rw[vC,a0]at hp;exact hp};have:=(hcell who' w' n b p Q p).1;rw[List.getElem?_eq_getElem hp]at this;exact this.one};{have u0:i=0:=by{simpa using hi};subst u0;have:=uJ (who:=who') (w:=w') (n:=n) (bk:=b) (hh:=none) (g:=λp=>arr.toList[p]?) (p:=0) k0 (λk J _=>by{have:=(hcell who' w' n b k J (0+k)).1;simpa using this});have:=(A4 this.1).2 k J;simpa using this};{have hp:=(List.getElem?_eq_some_iff.1 q1).1;have Q:p<cs.length:=by{rw[vC,a0]at hp;exact hp};exact absurd q1 ((hcell who' w' n b p Q p).2 _ _ _)};{have hp:=(List.getElem?_eq_some_iff.1 q1).1;have Q:p<cs.length:=by{rw[vC,a0]at hp;exact hp};exact absurd q1 ((hcell who' w' n b p Q p).2 _ _ _)}};obtain⟨β',who',S'⟩:=S.mergeHand (idx:=idx) (v:= .dq (fresh idx 15) ty [y] none) (c:= .slice (some ⟨w.heap.size,0,none⟩) 1 1) (base:= .slice (some ⟨w.heap.size,0,none⟩) 1 1) (w':=w.alloc (.cells (qm G 0 arr.toList) e)) hf (by simp[ab,qi,qc]) (by simp[Vs.occ,aZ,aL]) (λb' x hb _=>hold b' (S.wsz _ _ hb)) (λb' _ hl=>hold b' hl) O ⟨rfl,rfl⟩ (fun β' who' g1 g2 g3 g4=>by{refine bU.mk' (hs:=arr.toList) g1 rfl c0 (by rw[Ql d0,g0,b0];simp) (zJ _) (g3 _ (zJ _) O) (v0 ..) (λp hp=> ?_);have c1:ay (w.alloc (.cells (qm G 0 arr.toList) e)) w.heap.size 0 p=(qm G 0 arr.toList)[p]? :=by{simp only[ay,World.cell?,c0,zH];rfl};rw[c1,Qk d0,iP O,Mz]});exact⟨_,_,β',who',j0,S'⟩
def aC.newNilDq {m:Nat} {v0:AV} {t:Ty} {c0:Value} {D':Nat->Prop} (S:aC E D β who U ((v0,c0)::hd) a w) (hm: ¬D m) (hD: ∀x,D x->D' x) (hDm:D' m) (hDF: ¬D' FN):
 ∃β',aC E D' β' who U ((.dq m t [] none,dG)::hd) a w:=by
 let β':aR:=λx=>if x=m then dG else β x
 have hb: ∀x,D x->β' x=β x:=λx hx=>by grind
 have S0:=((S.drop rfl).keep (β':=β') (who':=who) (w':=w) hb (λ_ _ h=>h) (λ_ _=>rfl) (λ_ h _=>h) S.wsz (zJ _)).mono hD hDF
 refine⟨β',?_⟩
 exact{S0 with
  hrel:=λy hy=>by
   rcases mC hy with rfl|hy
   . exact⟨by simp[β'],.inl ⟨rfl,rfl⟩⟩
   . exact S0.hrel y hy
  hnod:=by
   simp only[fC,ab,qi,qc,xc,ny];refine⟨λh=> ?_,S0.hnod⟩
   obtain⟨x,hx,hn⟩:=zN.1 h;exact hm (S.hocc x (mT hx) m (qj hn))
  hdis:=λy hy=>by
   rcases mC hy with rfl|hy
   . intro x hx s hs;simp only[ab,qi,qc,zC]at hx;subst hx;exact hm (S.occ s x (qj hs))
   . exact S0.hdis y hy
  hocc:=λy hy=>by
   rcases mC hy with rfl|hy
   . intro x hx;simp only[Vs.occ,aZ,aL,zC]at hx;subst hx;exact hDm
   . exact S0.hocc y hy}
end
section
variable {P:Program} {CO:Q8} {T:TT} {E:a8} {D:Nat->Prop} {β:aR} {who:bh} {U U':ao} {hd:List (AV×Value)} {a:Act} {w w':World} {R W:List Nat}
def q5h {t:Ty} {x:aX t} {c:AV} (h:c∈(aD t x).map Z2):qc c=[]/\aL c=[]:=by obtain⟨d,hd,rfl⟩:=zk.1 h;rcases TO hd with⟨k,n,rfl⟩|⟨b,rfl⟩|⟨o,t',xs,rfl,_⟩<;>exact⟨rfl,rfl⟩
def qe0 {t:Nat} {ti:TI} (c0:gC P t ti) {s n sz i j:Nat} {v:AV} {c:Value} (h:aw CO (Uo ti n sz i j (U.get s)) U v U' R W) (S:aC E D β who U [] a w) (hx:dE (β n) sz i j c):
 U'=U/\ ∃r,(Instr.loadAt t c).run P w= .ok r w/\bo β who w v r/\ab v=[]/\occ v=[]:=by
 unfold Uo at h;split at h
 case h_2=>exact(aw.fail' h).elim
 rename_i m ty xs hh h0;split at h
 case isFalse=>exact(aw.fail' h).elim
 rename_i Q;obtain⟨rfl,rfl⟩:=Q;obtain⟨hp,rfl⟩:=aw.mopt' h;refine⟨rfl,?_⟩;have G:=S.dq h0;obtain⟨ad,cap,hl⟩:=G.len;rw[G.1]at hl;obtain⟨b,o,rfl,hi,rfl⟩:=hx.slice hl;obtain⟨h1,b',o',j0,arr,el,e1,e2,e3,e4,e5,e6,e7⟩:=G.pos (Qe hi);rw[h1,hl]at e1;injection e1 with J _ q3
 injection J with J;injection J with J q2 _
 subst J q2 q3;have a0:xs.getD i ty.zero=xs[i]:=by simp[List.getD,List.getElem?_eq_getElem hi]
 rw[a0]at hp;obtain⟨b0,hu⟩:=A4 (e6 i hi);have i0:xs.length*ty.size<=cap*ty.size:=zO _ e4;have g0:(i+1)*ty.size<=xs.length*ty.size:=zO _ O;rw[fT]at g0
 let f:Nat->Value:=λk=>arr.getD (o+i*ty.size+k) undef
 have hf: ∀k,k<ty.size->ay w b o (i*ty.size+k)=some (f k):=λk hk=>by
  have d0:o+i*ty.size+k<arr.size:=O;simp only[ay,World.cell?,e2,f];simp[<-Nat.add_assoc,Array.getD,d0]
 obtain⟨p1,p2,p3,p4,p5⟩:=Tg (β:=β) (who:=who) (w:=w) (f:=f) hp (λk hk=>by
  have e0:k<(aD ty xs[i]).length:=by simpa using hk
  have:=hu k e0;rw[hf k O]at this;rw[pH];generalize (aD ty xs[i])[k]=cc at this;cases cc with
  |int k x=>injection this with this
  |bool x=>injection this with this
  |sl o t xs=>trivial
  |_=>exact this.elim)
 simp only[zh,b0]at p1
 have K:=Y0 c0 (b:=b) (o:=o+i*ty.size+j) (f:=λk=>f (j+k)) w (λk hk=>by
  have:=hf (j+k) O;simp only[ay]at this;rw[<-this,<-Nat.add_assoc,<-Nat.add_assoc]) p3
 refine⟨_,K,by simpa using p2,?_,?_⟩
 . rw[p4];exact Qc λc Q=>(q5h (vA (nB Q))).1
 . rw[p5];exact Qc λc Q=>(q5h (vA (nB Q))).2
def qe9 {t:Nat} {ti:TI} (c0:gC P t ti) {idx s n sz i j:Nat} {v:AV} {c:Value} (h:aw CO (takeDq idx ti s n sz i j (U.get s)) U v U' R W) (S:aC E D β who U [] a w) (hx:dE (β n) sz i j c)
 (hf: ∀k,k<16-> ¬D (fresh idx k)): ∃r β' who',(Instr.loadAt t c).run P w= .ok r w/\aC E (Dn D idx) β' who' U' [(v,r)] a w:=by
 unfold takeDq at h;split at h
 case h_2=>exact(aw.fail' h).elim
 rename_i m ty xs Q;split at h
 case isFalse=>exact(aw.fail' h).elim
 rename_i hc;obtain⟨rfl,rfl,e0,a0⟩:=hc;have K:=S.dq Q;obtain⟨ad,cap,hl⟩:=K.len;rw[K.1]at hl;obtain⟨b,o,rfl,hi,rfl⟩:=hx.slice hl;have b0:xs.getD i ty.zero=xs[i]:=by simp[List.getD,List.getElem?_eq_getElem hi]
 rw[b0]at h;split at h
 case h_2=>exact(aw.fail' h).elim
 rename_i ow u ys hu;obtain⟨_,U2,_,_,_,_,h3,h4⟩:=aw.bind' h;have:=aw.mset' h3;subst this;obtain⟨rfl,rfl⟩:=aw.pure' h4;obtain⟨b',o',g0,cv,e1,e2,β',who',S'⟩:=S.takeDq (idx:=idx) Q hi hu hf;rw[hl]at e1;injection e1 with J _ q3
 injection J with J;injection J with J q2 _
 subst J q2 q3
 have G:=Y0 c0 (b:=b) (o:=o+i*ty.size+j) (f:=λ_=>cv) w (λk hk=>by
  have d0:k=0:=O;subst d0;simp only[ay]at e2;rw[<-e2,zQ,<-Nat.add_assoc]) (λ_=>e0)
 rw[a0]at G;exact⟨cv,β',who',by simpa using G,S'⟩
def qan {t:Nat} {ti:TI} (d0:gC P t ti) {s n sz i j:Nat} {v:AV} {c G:Value} {u:Unit} (h:aw CO (UQ ti s n sz i j v (U.get s)) U u U' R W) (S:aC E D β who U [(v,G)] a w) (hx:dE (β n) sz i j c):
 ∃w' who',(Instr.storeAt t c G).run P w= .ok () w'/\aC E D β who' U' [] a w':=by
 unfold UQ at h;split at h
 case h_2=>exact(aw.fail' h).elim
 rename_i m ty xs hh b0;split at h
 case isFalse=>exact(aw.fail' h).elim
 rename_i hc;obtain⟨rfl,rfl,hlen,hbare⟩:=hc;have a0:=S.dq b0;obtain⟨ad,cap,hl⟩:=a0.len;rw[a0.1]at hl;obtain⟨b,o,rfl,hi,rfl⟩:=hx.slice hl;have c0:xs.getD i ty.zero=xs[i]:=by simp[List.getD,List.getElem?_eq_getElem hi]
 rw[c0]at h;obtain⟨x',hs,h⟩:=aw.ofOpt' h;have:=aw.mset' h;subst this;have g0: ∀k (J:k<(cellsOf v).length),qie (cellsOf v)[k]=true:=λk J=>zn.1 hbare _ (zW J)
 have e0:(cellsOf v).all ck=true:=zn.2 λc hc=>by
  have:=zn.1 hbare c hc;cases c<;>first|rfl|cases this
 obtain⟨q1,q2,q3,q4⟩:=Ym (S.hrel _ mS) e0
 have hcase: ∀k (J:k<(cellsOf v).length),(∃ik z,(cellsOf v)[k]= .int ik z/\G.cells.toList[k]? =some (.int ik z))\/(∃y,(cellsOf v)[k]= .bool y/\G.cells.toList[k]? =some (.bool y)):=by
  intro k J;have h1:=g0 k J;have h2:=q1.2 k J;have Q:k<G.cells.size:=by rw[q1.1];exact J
  have h3:G.cells.toList[k]? =some (G.cells.getD k undef):=by
   rw[Array.getElem?_toList,Array.getElem?_eq_getElem Q];simp[Array.getD,Q]
  rw[h3];generalize (cellsOf v)[k]=cc at h1 h2;cases cc with
  |int ik z=>exact .inl ⟨ik,z,rfl,congrArg some h2⟩
  |bool y=>exact .inr ⟨y,rfl,congrArg some h2⟩
  |_=>cases h1
 obtain⟨b',o',h0,arr,el,e1,e2,e3,e4,who',S'⟩:=S.writeDq (idx:=0) (cs:=cellsOf v) (vs:=G.cells.toList) (h2:=hh) b0 hi (by rw[vC,q1.1]) hs (.inl ⟨(λx hx=>by rw[q2]at hx;cases hx),rfl,hcase⟩)
 rw[hl]at e1;injection e1 with K _ p3
 injection K with K;injection K with K p2 _
 subst K p2 p3;have O:=Zf d0 (c:=G) (o:=o+i*ty.size+j) e2 (by rw[q1.1,hlen]) (by rw[vC]at e3;exact e3) q4
 exact⟨_,who',O,S'⟩
def qep {t:Nat} {ti:TI} (d0:gC P t ti) {s n sz i j:Nat} {v:AV} {c Q:Value} {u:Unit} (h:aw CO (Uz ti s n sz i j v (U.get s)) U u U' R W) (S:aC E D β who U [(v,Q)] a w) (hx:dE (β n) sz i j c):
 ∃w' who',(Instr.storeAt t c Q).run P w= .ok () w'/\aC E D β who' U' [] a w':=by
 unfold Uz at h;split at h
 case h_2=>exact(aw.fail' h).elim
 rename_i m ty xs q k O ys b0;split at h
 case isFalse=>exact(aw.fail' h).elim
 rename_i hc;obtain⟨rfl,rfl,e0⟩:=hc;obtain⟨_,U1,_,_,_,_,h5,h6⟩:=aw.bind' h;obtain⟨rfl,rfl⟩:=aw.mask' h5;have a0:=S.dq b0;obtain⟨ad,cap,hl⟩:=a0.len;rw[a0.1]at hl;obtain⟨b,o,rfl,hi,rfl⟩:=hx.slice hl;have c0:xs.getD i ty.zero=xs[i]:=by simp[List.getD,List.getElem?_eq_getElem hi]
 rw[c0]at h6;obtain⟨x',hs,h6⟩:=aw.ofOpt' h6;have:=aw.mset' h6;subst this;obtain⟨b',o',g0,arr,el,e1,e2,e3,e4,who',S'⟩:=S.writeDq (idx:=0) (cs:=[.sl (.nm k) O ys]) (vs:=[Q]) (h2:=none) b0 hi rfl hs (.inr ⟨k,O,ys,rfl,rfl,rfl,rfl,rfl⟩);rw[hl]at e1;injection e1 with p1 _ p3
 injection p1 with p1;injection p1 with p1 p2 _
 subst p1 p2 p3;have K:Q.oneCell'=true:=Jd (β:=β) (who:=who) (w:=w) (c:= .sl (.nm k) O ys) (S.hrel _ mS) (by simp)
 have G:Q.cells= #[Q]:=Yt K;have J:=Zf d0 (c:=Q) (o:=o+i*ty.size+j) e2 (by rw[G,e0];rfl) (by rw[G];exact e3) (by rw[G];simpa using K)
 rw[G]at J;exact⟨_,who',J,S'⟩
def qbw {t:Nat} {J:TI} (d0:gC P t J) {s n sz:Nat} {v:AV} {c:Value} (h:aw CO (UG J s n (U.get s)) U v U' R W) (S:aC E D β who U [] a w) (G:dE (β n) sz 0 0 c):
 ∃r,(Instr.loadAt t c).run P w= .ok r w/\aC E D β who U' [(v,r)] a w:=by
 unfold UG at h;split at h
 case h_2=>exact(aw.fail' h).elim
 rename_i m cells a0;split at h
 case isFalse=>exact(aw.fail' h).elim
 rename_i hc;obtain⟨rfl,hlen⟩:=hc;obtain⟨_,U2,_,_,_,_,h3,h4⟩:=aw.bind' h;obtain⟨v',Q,rfl⟩:=aw.mupd' h3;obtain⟨hv,rfl⟩:=aw.mopt' h4
 have c0:v'= .bx (.nm m) (cells.map By):=by
  rw[a0]at Q;unfold Sc at Q;simp only[iP]at Q;injection Q with Q;exact Q.symm
 subst c0
 have g0:Jv J.cells.length (Qb J.desc) 1 s m sz 0 0 (U.get s)=some (v,some (.bx (.nm m) (Y1 cells 0 J.cells.length))):=by
  have hp:c8 J.cells.length (Qb J.desc) cells 0=some v:=by
   unfold c8;rw[iP O,iX,uo O];exact hv
  unfold Jv;rw[a0];simp only[iP,hp,xi]
 have K: ∃R W,aw CO (LX 1 J s m sz 0 0) U v (U.set s (.bx (.nm m) (Y1 cells 0 J.cells.length))) R W:=by
  obtain⟨k,Q⟩: ∃k:AV->M AV,k=λa=>match Jv J.cells.length (Qb J.desc) 1 s m sz 0 0 a with
   |some (v,none)=>pure v
   |some (v,some a')=>do fJ s a';pure v
   |none=> .fail:=⟨_,rfl⟩
  have h0:LX 1 J s m sz 0 0=M.get s k:=by rw[Q];rfl
  have h1:k (U.get s)=M.set s (.bx (.nm m) (Y1 cells 0 J.cells.length)) (.ret v):=by rw[Q];simp only[g0];rfl
  rw[h0];exact⟨_,_,aw.get (by rw[h1];exact aw.set aw.ret)⟩
 obtain⟨R',W',K⟩:=K;obtain⟨r,g1,g2⟩:=Yv d0 S G K;refine⟨r,g1,?_⟩;have hb:=S.rel s;rw[a0]at hb;obtain⟨hβ,b,arr,el,e1,e2,e3,e4⟩:=hb
 have e0: ∀c,qc (By c)=[]:=by
  intro c;unfold By;split
  . rename_i h;exact List.isEmpty_iff.1 h
  . rfl
 have b0:(cells.map By).flatMap qc=[]:=Qc λc hc=>by
  obtain⟨d,_,rfl⟩:=zk.1 hc;exact e0 d
 have S3:=g2.abs (s:=s) (v:= .bx (.nm m) (cells.map By)) ⟨hβ,b,arr,el,e1,e2,e3,by rw[zh];exact e4.1,λj hj=>by
  have i0:j<cells.length:=by simpa using hj
  rw[pH];unfold By;split
  . exact e4.2 j i0
  . trivial⟩
  (fun x G=>by
    rw[qh];simp only[ab,qi,b0,zC]at G;subst G;simp[ab,qi])
  (by simp[ab,qi,b0])
  (fun x G=>S.occ s x (by
    rw[a0];simp only[Vs.occ,aZ,zq,zN,zk]at G⊢;rcases G with G|⟨c,⟨d,hd,rfl⟩,G⟩
    . exact .inl G
    . refine .inr ⟨d,hd,?_⟩;unfold By at G;split at G
      . exact G
      . cases G))
 refine S3.ext λs'=> ?_
 by_cases e:s'=s
 . subst e;rw[qh,qh]
 . rw[qg _ _ e,qg _ _ e,qg _ _ e]
def Oe (hT:bG P T) {idx mode:Nat} {o:Oper} {v:AV} (h:aw CO (I9 T idx mode o) U v U' R W) (S:aC E D β who U [] a w)
 (hf: ∀k,k<16-> ¬D (fresh idx k)):bV P E D idx U' v a ((execOp a.eval o).run P w):=by
 unfold I9 at h;cases ho:o.op with
 |assign x=>
  simp only[ho]at h;cases x with
  |const c=>
   simp only at h;obtain⟨g1,g2,g3⟩:=TN (β:=β) (who:=who) (w:=w) c;have K:=(S.take0 g1 g2 (λn hn=>by rw[g3]at hn;cases hn)).fix (t:=o.type) hT
   split at h
   . rename_i t xs he;rw[he]at K;have hn:bo β who w (.sl .nl t xs) c:=K.hrel _ mS;obtain⟨hc,rfl⟩:=hn;obtain⟨rfl,rfl⟩:=aw.pure' h;obtain⟨β',S3⟩:=K.newNilDq (t:=t) (hf 0 O) (D':=Dn D idx) (λn h=> .inl h) (EL O) (dk K.dfn)
     rw[show dG=a.eval (.const c)from hc.symm]at S3
     exact⟨_,w,β',who,.inl (by unfold execOp;simp only[ho];rfl),S3⟩
   . exact(aw.fail' h).elim
  |_=>exact(aw.fail' h).elim
 |buildSlice t n ps=>
  simp only[ho]at h;split at h
  . rename_i x b1;split at h
    . rename_i hn;subst hn;obtain⟨u,U1,_,_,_,_,h1,h2⟩:=aw.bind' h;have K:=aw.rdT h1 S;unfold qo3 at h2;split at h2
      . rename_i e ty a1 cells ht;split at h2
        . rename_i hc;split at h2
          . rename_i y hy;obtain⟨rfl,rfl⟩:=aw.pure' h2;obtain⟨r,w1,β',who',g1,g2⟩:=qeo hT ht K hf hc.1 hc.2.2 hy;obtain rfl:ps= #[(0,x)]:=by grind
            exact⟨r,w1,β',who',.inl (by unfold execOp;simp_all),g2⟩
          . exact(aw.fail' h2).elim
        . exact(aw.fail' h2).elim
      . exact(aw.fail' h2).elim
    . exact(aw.fail' h).elim
  . exact(aw.fail' h).elim
 |load t p=>
  simp only[ho]at h;obtain⟨u,U1,_,_,_,_,h1,h2⟩:=aw.bind' h;obtain⟨rfl,K⟩:=aw.rd h1 S;split at h2
  . rename_i ti s n sz i j J;obtain⟨b,U2,_,_,_,_,h3,G⟩:=aw.bind' h2;obtain⟨rfl,rfl⟩:=aw.mget' h3;have hx:dE (β n) sz i j (a.eval p):=K.hrel _ mS;split at G
    . obtain⟨r,β',who',g1,g2⟩:=qe9 (hT t _ J) G S hx hf;exact⟨r,w,β',who',.inl (by unfold execOp;simp_all),g2⟩
    . split at G
      . split at G
        . rename_i u0;obtain⟨rfl,rfl⟩:=u0;obtain⟨r,g1,g2⟩:=qbw (hT t _ J) G S hx;exact bV.same (by unfold execOp;simp_all) g2
        . exact(aw.fail' G).elim
      obtain⟨rfl,r,g1,g2,g3,g4⟩:=qe0 (hT t _ J) G S hx;exact bV.same (by unfold execOp;simp_all) (S.take0 g2 g3 (λn hn=>by rw[g4]at hn;cases hn))
  . exact(aw.fail' h2).elim
 |store t p x=>
  simp only[ho]at h;obtain⟨u,U1,_,_,_,_,h1,h2⟩:=aw.bind' h;have K:=aw.rdT h1 S;obtain⟨q,U2,_,_,_,_,h3,G⟩:=aw.bind' h2;obtain⟨rfl,S2⟩:=aw.rd h3 K;split at G
  . rename_i ti s n sz i j J;obtain⟨b,U3,_,_,_,_,h5,Q⟩:=aw.bind' G;obtain⟨rfl,rfl⟩:=aw.mget' h5;have hx:dE (β n) sz i j (a.eval p):=S2.hrel _ mS;split at Q
    . obtain⟨_,U4,_,_,_,_,h7,h8⟩:=aw.bind' Q;obtain⟨rfl,rfl⟩:=aw.pure' h8;obtain⟨w1,who',g1,g2⟩:=qep (hT t _ J) h7 K hx;exact⟨undef,w1,β,who',.inr ⟨by unfold execOp;simp_all,rfl⟩,(g2.mono (λn h=> .inl h) (dk g2.dfn)).take_dead⟩
    . obtain⟨_,U4,_,_,_,_,h7,h8⟩:=aw.bind' Q;obtain⟨rfl,rfl⟩:=aw.pure' h8;obtain⟨w1,who',g1,g2⟩:=qan (hT t _ J) h7 K hx;exact⟨undef,w1,β,who',.inr ⟨by unfold execOp;simp_all,rfl⟩,(g2.mono (λn h=> .inl h) (dk g2.dfn)).take_dead⟩
  . exact(aw.fail' G).elim
 |indexAddr t x i=>
  simp only[ho]at h;obtain⟨av,U1,_,_,_,_,h1,h2⟩:=aw.bind' h;obtain⟨rfl,K⟩:=aw.rd h1 S;obtain⟨q,U2,_,_,_,_,h3,G⟩:=aw.bind' h2;obtain⟨rfl,S2⟩:=aw.rd h3 S;split at G
  case h_2=>exact(aw.fail' G).elim
  rename_i s n sz;have c0:a.eval x=β n/\_:=K.hrel _ mS;obtain⟨b,U1,_,_,_,_,h5,Q⟩:=aw.bind' G;obtain⟨rfl,rfl⟩:=aw.mget' h5;unfold qnm at Q;split at Q
  . rename_i e x0 cells m ty xs hh kk ii J b0;have d1:a.eval i= .int kk ii:=S2.hrel _ mS;split at Q
    . rename_i a0;obtain⟨rfl,a0⟩:=a0;obtain⟨_,U3,_,_,_,_,h7,h8⟩:=aw.bind' Q;obtain⟨⟨m0,m1⟩,rfl⟩:=aw.mask' h7;obtain⟨rfl,rfl⟩:=aw.pure' h8;obtain⟨hu,⟨ei,ez,he,v0,_⟩⟩:=(hT t _ J).desc;have w0:=S.dq b0;obtain⟨g0,b,o',cap,arr,el,e1,e2,e3,e4,e5,e6,e7⟩:=w0.pos (Qe (i:=ii.toNat) O);have i0:a.eval x= .slice (some ⟨b,o',none⟩) xs.length cap:=by rw[c0.1,<-g0];exact e1
      have z0:=cA hu he b o' xs.length cap kk ii m0 m1 w;refine bV.same (c:= .pointer (some ⟨b,o'+ii.toNat*ei.size,none⟩)) (by unfold execOp;simp_all) (S.take0 (v:= .ptr s m ty.size ii.toNat 0) (.inl ⟨b,o',xs.length,cap,by rw[<-g0];exact e1,O,by rw[v0,a0,zQ]⟩) rfl (λm hm=> ?_))
      simp only[Vs.occ,aZ,aL,zC]at hm;subst hm;exact S.occ s m (by rw[b0];simp[Vs.occ,aZ,aL])
    . exact(aw.fail' Q).elim
  . exact(aw.fail' Q).elim
 |call c=>
  obtain⟨callee,args,d0⟩:=c;simp only[ho]at h;split at h
  . split at h
    . rename_i x t hargs ht;have hargs':args= #[x]:=by apply Array.ext';simpa using hargs
      subst hargs';obtain⟨av,U1,_,_,_,_,h1,h2⟩:=aw.bind' h;obtain⟨rfl,K⟩:=aw.rd h1 S;split at h2
      case h_2=>exact(aw.fail' h2).elim
      rename_i s n sz;have c0:a.eval x=β n/\_:=K.hrel _ mS;obtain⟨b,U1,_,_,_,_,h5,Q⟩:=aw.bind' h2;obtain⟨rfl,rfl⟩:=aw.mget' h5;unfold FQ at Q;split at Q
      . rename_i e x0 cells m ty xs hh J b0;split at Q
        . rename_i s0;subst s0;obtain⟨rfl,rfl⟩:=aw.pure' Q;have hu:=(hT t _ J).desc.1;obtain⟨ad,cap,hl⟩:=(S.dq b0).len;have i0:a.eval x= .slice ad xs.length cap:=by rw[c0.1,<-(S.dq b0).1];exact hl
          have hlen:(Builtin.len_ d0 o.type #[a.eval x]).run P w= .ok (.int .i64 xs.length) w:=by
           rw[i0];have l0:d0[0]? =some t:=ht;simp[Builtin.len_,l0,run_underlying hu,goInt]
          exact bV.same (c:= .int .i64 xs.length) (by
           unfold execOp;simp only[ho,resolve,Sem.run_bind,Sem.run_pure,Result.andThen_ok,invoke,builtin];simp_all) (S.take0 (v:= .int .i64 xs.length) rfl rfl (λn hn=>by cases hn))
        . exact(aw.fail' Q).elim
      . exact(aw.fail' Q).elim
    . exact(aw.fail' h).elim
  . split at h
    . rename_i x y hargs;have hargs':args= #[x,y]:=by apply Array.ext';simpa using hargs
      subst hargs';obtain⟨u,U1,_,_,_,_,h1,h2⟩:=aw.bind' h;have K:=aw.rdT h1 S;obtain⟨q,U2,_,_,_,_,h3,G⟩:=aw.bind' h2;have S2:=aw.rdT h3 K;unfold qh1 at G;split at G
      . rename_i t0 t1 r0 q0;split at G
        . rename_i k0 j0;split at G
          . rename_i n t xs m t' ys;split at G
            . rename_i e0;obtain⟨e0,a0⟩:=e0;subst e0;obtain⟨_,U1,_,_,_,_,q3,q4⟩:=aw.bind' G;obtain⟨⟨h0,hlen⟩,rfl⟩:=aw.mask' q3;obtain⟨rfl,rfl⟩:=aw.pure' q4;obtain⟨r,w1,β',who',g1,g2⟩:=qad (rt:=o.type) hT r0 q0 k0 j0 a0 S2 h0 hlen hf
              exact⟨r,w1,β',who',.inl (by
               unfold execOp;simp only[ho,resolve,Sem.run_bind,Sem.run_pure,Result.andThen_ok,invoke,builtin];simp_all),g2⟩
            . exact(aw.fail' G).elim
          . exact(aw.fail' G).elim
        . exact(aw.fail' G).elim
      . exact(aw.fail' G).elim
    . exact(aw.fail' h).elim
  . exact(aw.fail' h).elim
 |_=>simp only[ho]at h;exact(aw.fail' h).elim
end
def Fr (who who':bh):Prop:= ∀b,who' b=who b\/who' b=none
def Fr.refl (who:bh):Fr who who:=λ_=> .inl rfl
def Fr.trans {a b c:bh} (h:Fr a b) (h':Fr b c):Fr a c:=λx=>by rcases h' x with G|G;{rcases h x with h2|h2;{exact .inl (by rw[G,h2])};grind};{exact .inr G}
def ct (U U':ao):Prop:= ∀s,U'.get s=U.get s\/ab (U'.get s)=[]
def ct.refl (U:ao):ct U U:=λ_=> .inl rfl
def ct.trans {U J G:ao} (h:ct U J) (h':ct J G):ct U G:=λs=>by rcases h' s with e|e;{rw[e];exact h s};{exact .inr e}
section
variable {P:Program} {CO:Q8} {T:TT} {E:a8} {D:Nat->Prop} {β:aR} {who:bh} {U U':ao} {hd:List (AV×Value)} {a:Act} {w w':World} {R W:List Nat}
def aC.freezeFr (S:aC E D β who U hd a w) (t:Nat) (G: ∀o cs,U.get t≠ .bx o cs) (Q: ∀vs,U.get t≠ .tup vs):
 ∃who',Fr who who'/\aC E D β who' (U.set t (Vs.freeze (U.get t))) ((Vs.freeze (U.get t),a.tmps.getD t undef)::hd) a w:=by refine⟨unown who (ab (U.get t)),λb=> ?_,?_⟩;{cases h:who b with|none=>exact .inr (Yn h)|some n=>{by_cases J:n∈ab (U.get t);{exact .inr (L6 h J)};{exact .inl (Me h J)}}};have hf:=q96 (ns:=ab (U.get t)) (S.rel t) (λn h=>h) G Q;have J:=Zn G Q;have S1:aC E D β (unown who (ab (U.get t))) (U.set t .dead) hd a w:=by{have K:=(S.takeAll t).drop rfl;refine K.world (λs=> ?_) (λx O=> ?_) (λb n G=>S.wsz b n (Jf G)) (zJ _) (λ_ _ _=>rfl) (λb n G=>S.fr1 b n (Jf G)) (λb G=>Me (S.fr3 b G) (λh=>S.dfn (S.occ t _ (qj h))));{refine(K.rel s).keep (cR.unown λn h h'=> ?_);by_cases e:s=t;{subst e;rw[qh]at h;simp[ab,qi,qc]at h};{rw[qg _ _ e]at h;exact e (S.dis s t n h h')}};{exact(K.hrel x O).keep (cR.unown λn h h'=>S.hdis x O n h t h')}};have S2:=S1.abs (s:=t) (v:=Vs.freeze (U.get t)) hf (λn h=>by rw[J]at h;cases h) (by grind) (λn h=>S.occ t n (TJ h));have S3:=S2.take0 hf J (λn h=>S.occ t n (TJ h));refine S3.ext λs=> ?_;by_cases e:s=t;{subst e;rw[qh,qh]};{rw[qg _ _ e,qg _ _ e,qg _ _ e]}
def aw.rdFFr {x:Operand} {v:AV} (h:aw CO (Vs.rdF x) U v U' R W) (S:aC E D β who U hd a w):
 ab v=[]/\(∀o cs,v≠ .bx o cs)/\ct U U'/\ ∃who',Fr who who'/\aC E D β who' U' ((v,a.eval x)::hd) a w:=by cases x with|tmp t=>{obtain⟨av,U1,_,_,_,_,h1,h2⟩:=aw.bind' h;obtain⟨rfl,rfl⟩:=aw.mget' h1;split at h2;{exact(aw.fail' h2).elim};{exact(aw.fail' h2).elim};{exact(aw.fail' h2).elim};{exact(aw.fail' h2).elim};{exact(aw.fail' h2).elim};{exact(aw.fail' h2).elim};{rename_i g1 J g3 g4 g5 g6;split at h2;{obtain⟨_,U2,_,_,_,_,h3,h4⟩:=aw.bind' h2;have:=aw.mset' h3;subst this;obtain⟨rfl,rfl⟩:=aw.pure' h4;have O: ∀o cs,U1.get t≠ .bx o cs:=λo cs e=>g3 o cs e;refine⟨Zn O J,?_,?_,S.freezeFr t O J⟩;{intro o cs e;have a0:=O;cases G:U1.get t with|bx o' cs'=>exact O o' cs' G|sl o' t' xs=>{rw[G]at e;cases o'<;>cases e}|agg cells=>{rw[G]at e;cases e}|dp n t xs hh=>{rw[G]at e;cases hh<;>cases e}|dq n t xs hh=>{rw[G]at e;cases hh<;>cases e}|_=>{rw[G]at e;cases e}};{intro s;by_cases e:s=t;{subst e;rw[qh];exact .inr (Zn O J)};{rw[qg _ _ e];exact .inl rfl}}};{rename_i K;obtain⟨rfl,rfl⟩:=aw.pure' h2;exact⟨Xc K,g3,ct.refl _,who,Fr.refl _,S.take0 (S.rel t) (Xc K) (S.occ t)⟩}}}|const u=>{obtain⟨rfl,rfl⟩:=aw.pure' h;obtain⟨g1,J,g3⟩:=TN (β:=β) (who:=who) (w:=w) u;refine⟨J,?_,ct.refl _,who,Fr.refl _,S.take0 g1 J (λn Q=>by rw[g3]at Q;cases Q)⟩;intro o cs e;cases u<;>cases e}|global g=>exact(aw.fail' h).elim|func f=>{obtain⟨rfl,rfl⟩:=aw.pure' h;exact⟨rfl,(λo cs e=>by cases e),ct.refl _,who,Fr.refl _,S.take0 (v:= .lit (.func (.func f) #[] #[])) ⟨rfl,rfl⟩ rfl (λn Q=>by cases Q)⟩}
def aw.rdP {x:Operand} {v:AV} (h:aw CO (Vs.rdP x) U v U' R W) (S:aC E D β who U hd a w):
 ab v=[]/\(∀o cs,v≠ .bx o cs)/\ct U U'/\ ∃who',Fr who who'/\aC E D β who' U' ((v,a.eval x)::hd) a w:=by cases x with|tmp t=>{obtain⟨av,U1,_,_,_,_,Q,h2⟩:=aw.bind' h;obtain⟨rfl,rfl⟩:=aw.mget' Q;split at h2;{rename_i n cells O;obtain⟨rfl,rfl⟩:=aw.pure' h2;have G:dh t (U'.get t)=some (.ptr t n 1 0 0):=by{rw[O];rfl};obtain⟨g1,J,g3⟩:=V7 G (S.rel t);exact⟨J,(λo cs e=>by cases e),ct.refl _,who,Fr.refl _,S.take0 g1 J (λn K=>S.occ t n (g3 n K))⟩};{exact aw.rdFFr h2 S}}|const u=>exact aw.rdFFr (x:= .const u) h S|global g=>exact aw.rdFFr (x:= .global g) h S|func f=>exact aw.rdFFr (x:= .func f) h S
def gF (who:bh) (rn:List Nat) (who':bh):Prop:=(∀b,who b=none->who' b=none)/\ ∀b n,who b=some n->n∈rn->who' b=none
def AM (who:bh) (w:World) (rn:List Nat) (c:AV) (u:Value):Prop:= ∀β' who',gF who rn who'->aW β' who' w c u
def qut (who:bh) (w:World) (rn:List Nat) (c:AV) (u:Value):Prop:= ∀β' who',gF who rn who'->bo β' who' w c u
def gF.sub {rn G:List Nat} {who':bh} (h:gF who G who') (hs: ∀n∈rn,n∈G):gF who rn who':=
 ⟨h.1,λb n K J=>h.2 b n K (hs n J)⟩
def gF.fr {rn:List Nat} {bj who':bh} (h:gF bj rn who') (J:Fr who bj):gF who rn who':=by refine⟨λb G=> ?_,λb n G K=> ?_⟩;{rcases J b with e|e;{exact h.1 b (by rw[e,G])};{exact h.1 b e}};{rcases J b with e|e;{exact h.2 b n (by rw[e,G]) K};{exact h.1 b e}}
def gE.blk {t:Ty} {xs:List (aX t)} {v:Value} (h:gE who w t xs v): ∀b l c,v= .slice (some b) l c->who b.block=none:=by rintro b l c rfl;rcases h with⟨h,_⟩|⟨b',o,cap,e,G,_⟩;{cases h};{cases e;exact G}
def nT.slI {t:Ty} {xs:List (aX t)} {v:Value} (h:nT who w t xs v) (G: ∀b l c,v= .slice (some b) l c->who b.block=none):gE who w t xs v:=by rcases h with h|⟨b,o,cap,e,K,h2,J⟩;{exact .inl h};{exact .inr ⟨b,o,cap,e,G _ _ _ e,K,h2,J⟩}
def gE.window {t:Ty} {xs:List (aX t)} {base v:Value} {G:Option (Nat×Nat)} (h:gE who w t xs base) (J:wV base t.size G v):
 gE who w t (Vs.window xs G) v:=by refine(nT.window h.sls J).1.slI λb l c e=> ?_;cases G with|none=>{obtain⟨rfl,_⟩:=J;exact h.blk b l c e}|some ol=>{obtain⟨off,len⟩:=ol;obtain⟨ad,L,cap,a',e1,e2,Q,e4,K,-⟩:=J;rw[Q]at e;injection e with O g2 g3;subst O;cases ad with|none=>simp at K|some x=>{simp at K;rw[K.1];exact h.blk x L cap e1}}
def cr.slI {n:Nat} {t:Ty} {xs:List (aX t)} {v:Value} {who':bh} (h:cr β who w n t xs v) (J: ∀b,who b=none->who' b=none) (h2: ∀b,who b=some n->who' b=none):gE who' w t xs v:=by obtain⟨_,h⟩:=h;rcases h with h|⟨b,o,cap,arr,el,e1,e2,e3,Q,O,K⟩;{exact .inl h};{exact .inr ⟨b,o,cap,e1,h2 b O,Zc e2,Q,aT.keep (λb G _=>⟨J b G,rfl⟩) (zJ _) rfl K⟩}
def aw.passC {c c':AV} {u:Value} (h:aw CO (Vs.passC c) U c' U' R W) (S:aC E D β who U hd a w) (Q:aW β who w c u):
 U'=U/\J4 c'=true/\qc c'=[]/\(∀β' who',aW β' who' w c' u->bo β' who' w c' u)/\
 bR c'=true/\ab c'=[]/\AM who w (jI c) c' u/\ ∀n∈jI c,n≠FN:=by have key: ∀{s n:Nat},aw CO (xB s n) U c' U' R W->u=c9 (β n) 0->jI c=[n]->U'=U/\J4 c'=true/\qc c'=[]/\(∀β' who',aW β' who' w c' u->bo β' who' w c' u)/\ bR c'=true/\ab c'=[]/\AM who w (jI c) c' u/\ ∀n∈jI c,n≠FN:=by{intro s n h k1 m0;rw[m0];obtain⟨av,U1,_,_,_,_,h1,h2⟩:=aw.bind' h;obtain⟨g0,rfl⟩:=aw.mget' h1;split at h2;{rename_i m t xs loc hd;rw[g0]at hd;obtain⟨c0,⟨v0,K⟩,d0⟩:=S.dpA hd;{subst c0;obtain⟨rfl,rfl⟩:=aw.pure' h2;refine⟨rfl,rfl,rfl,λ_ _ h=>h,rfl,rfl,λβ' who' G=> ?_,λx hx=> ?_⟩;{obtain⟨hv,q0⟩:=K;rw[k1,<-hv];rcases q0 with⟨e0,rfl⟩|⟨b0,o0,a0,j0,s0,e0,e1,e2,e3,e4,O,_⟩;{exact .inl ⟨e0,rfl⟩};refine .inr ⟨b0,o0,a0,e0,G.2 b0 m e4 (by simp),Zc e1,e3,λi hi=> ?_⟩;obtain⟨c1,c2⟩:=O i hi (by simp);refine⟨c9 (β m) (i+1),?_,?_⟩;{have e:ay w b0 (o0+i*(Ty.sl false t).size) 0=ay w b0 o0 i:=by{unfold ay;simp[Ty.size]};rw[e];exact c1};{rcases c2 with hI|⟨bi,oi,ci,arr,el,q1,q2,q3,q4,q5,q6,q7⟩;{exact .inl hI};{exact .inr ⟨bi,oi,ci,q1,G.2 bi m q5 (by simp),Zc q2,q4,aT.keep (λb hb _=>⟨G.1 b hb,rfl⟩) (zJ _) rfl q7⟩}}};{rw[zC]at hx;subst hx;rintro rfl;exact S.dfn (S.occ s _ (qj d0))}}};{exact(aw.fail' h2).elim}};unfold Vs.passC at h;split at h;{obtain⟨rfl,rfl⟩:=aw.pure' h;exact⟨rfl,rfl,rfl,λ_ _ h=>h,rfl,rfl,λ_ _ _=>Q,λn J=>by cases J⟩};{obtain⟨rfl,rfl⟩:=aw.pure' h;exact⟨rfl,rfl,rfl,λ_ _ h=>h,rfl,rfl,λ_ _ _=>Q,λn J=>by cases J⟩};{obtain⟨rfl,rfl⟩:=aw.pure' h;exact⟨rfl,rfl,rfl,λ_ _ h=>h,rfl,rfl,λ_ _ _=>Q,λn J=>by cases J⟩};{obtain⟨rfl,rfl⟩:=aw.pure' h;exact⟨rfl,rfl,rfl,λ_ _ h=>h,rfl,rfl,λ_ who' G=>gE.keep (λb hb _=>⟨G.1 b hb,rfl⟩) (zJ _) Q,λn J=>by cases J⟩};{obtain⟨rfl,rfl⟩:=aw.pure' h;exact⟨rfl,rfl,rfl,λ_ _ h=>h,rfl,rfl,λ_ who' G=> .inl Q,λn J=>by cases J⟩};{rename_i s n sz u0;obtain⟨y,U1,_,_,_,_,h1,h2⟩:=aw.bind' h;obtain⟨rfl,rfl⟩:=aw.pure' h2;unfold Vs.shown at h1;obtain⟨y,U1,_,_,_,_,h3,h4⟩:=aw.bind' h1;obtain⟨rfl,l0,g1,g2⟩:=aw.nodeOf h3 S;obtain⟨rfl,rfl⟩:=aw.pure' h4;subst l0;refine⟨rfl,rfl,rfl,λ_ _ h=>h,rfl,rfl,λβ' who' G=> ?_,λm hm=> ?_⟩;{exact gE.window (g1.slI G.1 (λb hb=>G.2 b n hb (by simp[jI]))) Q};{simp only[jI,zC]at hm;subst hm;rintro rfl;exact S.dfn (S.occ s _ (qj g2))}};{rename_i s n i;obtain⟨av,U1,_,_,_,_,h1,h2⟩:=aw.bind' h;obtain⟨g0,rfl⟩:=aw.mget' h1;split at h2;{rename_i m t xs hh loc hd;rw[g0]at hd;obtain⟨c0,⟨v0,K⟩,d0⟩:=S.dpA hd;{subst c0;obtain⟨_,U2,_,_,_,_,h3,h4⟩:=aw.bind' h2;obtain⟨h0,rfl⟩:=aw.noHole' h3;obtain⟨rfl,rfl⟩:=aw.pure' h4;obtain⟨k1,_,x0,L0,i0,k2,k3⟩:=Q;obtain⟨w0,a0,r0⟩:=K.base;rw[r0]at k2;injection k2 with _ q1 _;subst q1;have t0:=K.row k3 h0;have k0:xs.getD i []=xs[i]:=by{simp[List.getD,List.getElem?_eq_getElem k3]};refine⟨rfl,rfl,rfl,λ_ _ h=>h,rfl,rfl,λβ' who' G=> ?_,λx hx=> ?_⟩;{rw[k0,k1];obtain⟨_,b0,o0,i0,j0,s0,_,_,_,_,_,O,_⟩:=K.pos (.inr (Qe k3));rcases(O i k3 h0).2 with hI|⟨bi,oi,ci,arr,el,e1,e2,e3,e4,e5,e6,e7⟩;{exact .inl hI};{exact .inr ⟨bi,oi,ci,e1,G.2 bi m e5 (by simp[jI]),Zc e2,e4,aT.keep (λb hb _=>⟨G.1 b hb,rfl⟩) (zJ _) rfl e7⟩}};{simp only[jI,zC]at hx;subst hx;rintro rfl;exact S.dfn (S.occ s _ (qj d0))}}};{exact(aw.fail' h2).elim}};{exact key h Q.1 rfl};{exact key h Q.1 rfl};{obtain⟨rfl,rfl⟩:=aw.pure' h;obtain⟨b,o,e1,e2,e3,e4,e5⟩:=Q;exact⟨rfl,rfl,rfl,λ_ _ h=>h,rfl,rfl,λβ' who' G=>⟨b,o,e1,e2,G.1 b e3,e4,aT.keep (λb hb _=>⟨G.1 b hb,rfl⟩) (zJ _) rfl e5⟩,λn J=>by cases J⟩};{exact(aw.fail' h).elim}
end
abbrev gS:=AV×Option Nat×List Nat
def gk (β:aR) (m:Nat):AV->Value
 | .dp _ _ _ _=>c9 (β m) 0
 |_=>β m
def jG (β:aR) (who:bh) (w:World) (U:ao) (p:gS) (u:Value):Prop:=
 match p.2.1 with
 |none=>qut who w p.2.2 p.1 u/\bR p.1=true/\ab p.1=[]/\ ∀n∈p.2.2,n≠FN
 |some s=>p.2.2=[]/\(ab (U.get s)=[]\/ ∃m,Jk (U.get s)=some m/\p.1=ren (aY (ab (U.get s))) (U.get s)/\bR (U.get s)=true/\
   (ab (U.get s)).length<=16/\u=gk β m (U.get s))
section
variable {P:Program} {CO:Q8} {T:TT} {E:a8} {D:Nat->Prop} {β:aR} {who who':bh} {U U':ao} {hd:List (AV×Value)} {a:Act} {w w':World} {R W:List Nat}
def jG.mono {p:gS} {u:Value} (h:jG β who w U p u) (Q:Fr who who') (O:ct U U'):jG β who' w U' p u:=by obtain⟨av,l,rn⟩:=p;cases l with|none=>exact⟨λβ' G K=>h.1 β' G (K.fr Q),h.2⟩|some s=>{obtain⟨J,h2⟩:=h;rcases O s with e|e;{exact⟨J,by rw[e];exact h2⟩};{exact⟨J,.inl e⟩}}
def qo5 (S:aC E D β who U hd a w) (cells:List AV): ∀{cs:List AV} {g:Nat->Value} {U':ao} {R W:List Nat},aw CO (Vs.passL cells) U cs U' R W->
 (∀j (h:j<cells.length),aW β who w cells[j] (g j))->
 U'=U/\cs.length=cells.length/\cs.all J4=true/\cs.flatMap qc=[]/\(∀j (h:j<cs.length),AM who w (cells.flatMap jI) cs[j] (g j))/\ ∀n∈cells.flatMap jI,n≠FN:=by induction cells with|nil=>{intro cs g U' R W h Q;obtain⟨rfl,rfl⟩:=aw.pure' h;grind}|cons c cells ih=>{intro cs g U' R W h Q;obtain⟨c',U1,_,_,_,_,h1,h2⟩:=aw.bind' h;obtain⟨cs',U2,_,_,_,_,h3,h4⟩:=aw.bind' h2;obtain⟨rfl,rfl⟩:=aw.pure' h4;obtain⟨rfl,e1,e2,_,_,_,e3,e4⟩:=aw.passC h1 S (Q 0 (by simp));have K: ∀j (h:j<cells.length),aW β who w cells[j] ((λj=>g (j+1)) j):=λj O=>by{grind};obtain⟨rfl,f1,f2,f3,f4,f5⟩:=ih h3 K;refine⟨rfl,by simp[f1],by grind,by simp[e2,f3],λj O=> ?_,λn J=> ?_⟩;{cases j with|zero=>exact λβ' who' G=>e3 β' who' (G.sub λn J=>by simp[J])|succ j=>exact λβ' who' G=>f4 j (by simpa using O) β' who' (G.sub λn J=>by grind)};{grind}}
def aw.passA (hT:bG P T) {ty:Nat} {x:Operand} {p:gS} (h:aw CO (Vs.passA ty T x) U p U' R W) (S:aC E D β who U [] a w):
 ct U U'/\ ∃who',Fr who who'/\aC E D β who' U' [] a w/\jG β who' w U' p (a.eval x):=by obtain⟨v,U1,_,_,_,_,h1,h2⟩:=aw.bind' h;obtain⟨g1,g2,g3,bj,g4,S1⟩:=aw.rdP h1 S;have S2:=S1.fix (t:=ty) hT;have hx:=S2.hrel _ mS;have S3:=S2.drop rfl;generalize Jm T ty v=v1 at*;split at h2;{rename_i cells;obtain⟨cs,U2,_,_,_,_,h3,h4⟩:=aw.bind' h2;obtain⟨rfl,rfl⟩:=aw.pure' h4;obtain⟨arr,e1,e2,e3⟩:=(hx: ∃arr,_);obtain⟨rfl,f1,f2,f3,f4,f5⟩:=qo5 (cs:=cs) (g:=λj=>arr.getD j undef) S3 cells h3 e3;refine⟨g3,bj,g4,S3,⟨λβ' who' hp=> ?_,f2,f3,f5⟩⟩;exact⟨arr,e1,by rw[e2,f1],λj hj=>f4 j hj β' who' hp⟩};{rename_i s n sz;obtain⟨av,U2,_,_,_,_,h3,h4⟩:=aw.bind' h2;obtain⟨rfl,rfl⟩:=aw.mget' h3;split at h4;{rename_i m cells hg;split at h4;{rename_i hm;obtain⟨rfl,hr,hl⟩:=hm;obtain⟨rfl,rfl⟩:=aw.pure' h4;refine⟨g3,bj,g4,S3,⟨rfl,.inr ⟨m,by rw[hg];rfl,?_,hr,hl,?_⟩⟩⟩;{rw[hg]};{have hb:=S3.rel s;rw[hg]at hb;obtain⟨hb0,b,arr,el,hb1,_⟩:=hb;rw[hg];rcases(hx:dE _ _ _ _ _)with⟨b',o,L,cap,q1,_⟩|⟨b',q1,_,q2⟩;{grind};{exact q2.trans q1.symm}}};{exact(aw.fail' h4).elim}};{exact(aw.fail' h4).elim}};{rename_i hn1 hn2;obtain⟨c,U2,_,_,_,_,h3,h4⟩:=aw.bind' h2;obtain⟨rfl,rfl⟩:=aw.pure' h4;have hc:aW β bj w v1 (a.eval x):=by{cases v1 with|tup vs=>exact(aw.fail' h3).elim|bx o cs=>exact(aw.fail' h3).elim|agg cs=>exact absurd rfl (hn1 cs)|dead=>trivial|_=>exact hx};obtain⟨rfl,e1,e2,f1,f2,f3,f4,f5⟩:=aw.passC h3 S3 hc;exact⟨g3,bj,g4,S3,⟨λβ' who' hp=>f1 _ _ (f4 β' who' hp),f2,f3,f5⟩⟩}
def aw.lendA {x:Operand} {p:gS} (h:aw CO (Vs.lendA x) U p U' R W) (S:aC E D β who U [] a w):
 U'=U/\jG β who w U' p (a.eval x):=by obtain⟨v,U1,_,_,_,_,Q,h2⟩:=aw.bind' h;obtain⟨rfl,S1⟩:=aw.rd Q S;have O:=S1.hrel _ mS;split at h2;{rename_i s n sz;obtain⟨av,U2,_,_,_,_,K,J⟩:=aw.bind' h2;obtain⟨rfl,rfl⟩:=aw.mget' K;split at J;{rename_i m t xs G;split at J;{rename_i hm;subst hm;obtain⟨rfl,rfl⟩:=aw.pure' J;refine⟨rfl,rfl,.inr ⟨m,by rw[G];rfl,by rw[G],by rw[G];rfl,by rw[G];exact(by decide:1<=16),?_⟩⟩;rw[G];exact(show wV (β m) sz none (a.eval x)from O).1};{exact(aw.fail' J).elim}};{exact(aw.fail' J).elim}};{rename_i s n;obtain⟨av,U2,_,_,_,_,K,J⟩:=aw.bind' h2;obtain⟨rfl,rfl⟩:=aw.mget' K;split at J;{rename_i m t xs G;split at J;{rename_i hm;subst hm;obtain⟨rfl,rfl⟩:=aw.pure' J;refine⟨rfl,rfl,.inr ⟨m,by rw[G];rfl,by rw[G],by rw[G];rfl,by rw[G];exact(by decide:1<=16),?_⟩⟩;rw[G];exact(show jF (β m) .whole (a.eval x)from O).1};{exact(aw.fail' J).elim}};{exact(aw.fail' J).elim}};{exact(aw.fail' h2).elim}
def aw.passX (hT:bG P T) {k ty:Nat} {x:Operand} {p:gS} (h:aw CO (Vs.passX T k ty x) U p U' R W) (S:aC E D β who U [] a w):
 ct U U'/\ ∃who',Fr who who'/\aC E D β who' U' [] a w/\jG β who' w U' p (a.eval x):=by unfold Vs.passX at h;split at h;{obtain⟨rfl,h2⟩:=aw.lendA h S;exact⟨ct.refl _,who,Fr.refl _,S,h2⟩};{exact aw.passA hT h S}
def aw.passAll (K:bG P T): ∀{k:Nat} {xs:List Operand} {G:List TypeId} {ps:List gS} {who:bh} {U U':ao} {R W:List Nat},aw CO (Vs.passAll T k xs G) U ps U' R W->aC E D β who U [] a w->
 ct U U'/\ ∃who',Fr who who'/\aC E D β who' U' [] a w/\ps.length=xs.length/\ ∀i (h:i<ps.length) (h':i<xs.length),jG β who' w U' ps[i] (a.eval xs[i])
 |k,[],G,ps,who,U,U',R,W,h,S=>by{obtain⟨rfl,rfl⟩:=aw.pure' h;exact⟨ct.refl _,who,Fr.refl _,S,rfl,λi J=>absurd J (zA _)⟩}
 |k,x::xs,[],ps,who,U,U',R,W,h,S=>(aw.fail' h).elim
 |k,x::xs,ty::G,ps,who,U,U',R,W,h,S=>by obtain⟨p,U1,_,_,_,_,h1,h2⟩:=aw.bind' h;obtain⟨a0,U2,_,_,_,_,h3,h4⟩:=aw.bind' h2;obtain⟨rfl,rfl⟩:=aw.pure' h4;obtain⟨e1,bj,e2,S1,e3⟩:=aw.passX K h1 S;obtain⟨Q,bK,O,S2,f3,f4⟩:=aw.passAll K h3 S1;refine⟨e1.trans Q,bK,e2.trans O,S2,by simp[f3],λi J b0=> ?_⟩;cases i with|zero=>exact e3.mono O Q|succ i=>grind
end
def q93 {c:AV} (h:J4 c=true):aL c=qc c:=by cases c with|sl o t xs=>{cases o<;>rfl}|ref s n sz w=>cases h|ptr s n sz i j=>cases h|dr s n k=>cases h|wn n t xs=>cases h|_=>rfl
def q5m {cells:List AV} (h:cells.all J4=true):cells.flatMap aL=cells.flatMap qc:=by induction cells with|nil=>rfl|cons c cs G=>{simp only[AU,zM]at h;simp[q93 h.1,G h.2]}
def Tz {v:AV} (h:IY v=true):aZ v=qi v:=by cases v with|bx o cells=>{have:=q5m (cells:=cells) h;cases o<;>simp[aZ,qi,this]}|agg cells=>exact q5m (cells:=cells) h|sl o t xs=>exact q93 (c:= .sl o t xs) h|ref s n sz w=>cases h|ptr s n sz i j=>cases h|dr s n k=>cases h|wn n t xs=>cases h|_=>rfl
def Jl {v:AV} (h:bR v=true):Vs.occ v=ab v:=by cases v with|tup vs=>{simp only[bR]at h;simp only[Vs.occ,ab];induction vs with|nil=>rfl|cons c cs ih=>{simp only[AU,zM]at h;simp[Tz h.1,ih h.2]}}|sl o t xs=>exact Tz (v:= .sl o t xs) h|bx o cells=>exact Tz (v:= .bx o cells) h|agg cells=>exact Tz (v:= .agg cells) h|ref s n sz w=>cases h|ptr s n sz i j=>cases h|dr s n k=>cases h|wn n t xs=>cases h|_=>rfl
def qq3 {f:Nat->Nat} {v:AV}:iE (ren f v)=iE v:=by cases v with|sl o t xs=>{cases o<;>rfl}|bx o cells=>rfl|_=>rfl
def qld {v:AV} (h:eI v=true): ∀n∈Vs.occ v,n∈ab v\/n=98:=by intro n hn;cases hw:iE v with|false=>{unfold eI at h;rw[hw,Lz]at h;rw[Jl h]at hn;exact .inl hn}|true=>{cases v with|wn m t xs=>{simp only[Vs.occ,aZ,aL,zq,nA,or_false]at hn;rcases hn with rfl|rfl;{exact .inl (by simp[ab,qi,qc])};{exact .inr rfl}}|_=>cases hw}
section
variable {f:Nat->Nat}
def q8q {c:AV}:qc (d9 f c)=(qc c).map f:=by cases c with|sl o t xs=>{cases o<;>rfl}|_=>rfl
def q5e {cells:List AV}:(cells.map (d9 f)).flatMap qc=(cells.flatMap qc).map f:=by induction cells with|nil=>rfl|cons c cs G=>simp[q8q,G]
def TH {v:AV}:qi (gN f v)=(qi v).map f:=by cases v with|bx o cells=>{have:=q5e (f:=f) (cells:=cells);cases o<;>simp[gN,renO,qi,this]}|agg cells=>exact q5e (f:=f) (cells:=cells)|sl o t xs=>{have:=q8q (f:=f) (c:= .sl o t xs);cases o<;>exact this}|_=>rfl
def Qh {v:AV}:ab (ren f v)=(ab v).map f:=by cases v with|tup vs=>{simp only[ren,ab];induction vs with|nil=>rfl|cons c cs ih=>simp[TH,ih]}|sl o t xs=>{have:=TH (f:=f) (v:= .sl o t xs);cases o<;>exact this}|bx o cells=>exact TH (f:=f) (v:= .bx o cells)|agg cells=>exact TH (f:=f) (v:= .agg cells)|_=>rfl
def q8r {c:AV}:J4 (d9 f c)=J4 c:=by cases c with|sl o t xs=>{cases o<;>rfl}|_=>rfl
def qiy {cells:List AV}:(cells.map (d9 f)).all J4=cells.all J4:=by induction cells with|nil=>rfl|cons c cs G=>simp only[sP,AU,q8r,G]
def TG {v:AV}:IY (gN f v)=IY v:=by cases v with|bx o cells=>exact qiy (cells:=cells)|agg cells=>exact qiy (cells:=cells)|sl o t xs=>{have:=q8r (f:=f) (c:= .sl o t xs);cases o<;>exact this}|_=>rfl
def Xt {v:AV}:bR (ren f v)=bR v:=by cases v with|tup vs=>{simp only[ren,bR];induction vs with|nil=>rfl|cons c cs ih=>simp only[sP,AU,TG,ih]}|sl o t xs=>{have:=TG (f:=f) (v:= .sl o t xs);cases o<;>exact this}|bx o cells=>exact TG (f:=f) (v:= .bx o cells)|agg cells=>exact TG (f:=f) (v:= .agg cells)|_=>rfl
end
def ba.flat {who who':bh} {w:World}: ∀{t:Ty} {x:aX t} {g:Nat->Option Value} {j:Nat},Yd t=false->ba who w t x g j->ba who' w t x g j
 | .int _,_,_,_,_,h=>h
 | .bool,_,_,_,_,h=>h
 | .pr a b,_,_,_,G,h=>by{simp only[Yd,RT]at G;exact⟨ba.flat G.1 h.1,ba.flat G.2 h.2⟩}
 | .sl _ t,xs,g,j,G,h=>by cases G
section
variable {β β2:aR} {who bK:bh} {w:World} {f:Nat->Nat}
structure fI (β:aR) (who:bh) (w:World) (β2:aR) (bK:bh) (f:Nat->Nat) (ns:List Nat) (im:Bool):Prop where
 beta: ∀n∈ns,β2 (f n)=β n
 own: ∀n∈ns,∀b,who b=some n->bK b=some (f n)
 imm:im=true-> ∀b,who b=none->b<w.heap.size->bK b=none
def fI.mono {ns J:List Nat} {im K:Bool} (h:fI β who w β2 bK f ns im) (O: ∀n∈J,n∈ns) (Q:K=true->im=true):fI β who w β2 bK f J K:=
 ⟨λn G=>h.beta n (O n G),λn G=>h.own n (O n G),λe=>h.imm (Q e)⟩
def aW.ren {c:AV} {v:Value} (hr:J4 c=true) (k:fI β who w β2 bK f (qc c) (Jo c)) (h:aW β who w c v):aW β2 bK w (d9 f c) v:=by cases c with|sl o t xs=>{cases o with|imm=>exact gE.keep (λb hb hl=>⟨k.imm rfl b hb hl,rfl⟩) (zJ _) h|nl=>exact h|inn=>exact h|nm n=>{obtain⟨h1,h2⟩:=h;refine⟨by rw[k.beta n (by simp[qc])];exact h1,?_⟩;rcases h2 with h2|⟨b,o,cap,arr,el,e1,e2,e3,e4,e5,e6⟩;{exact .inl h2};{refine .inr ⟨b,o,cap,arr,el,e1,e2,e3,e4,k.own n (by simp[qc]) b e5,?_⟩;cases ht:Yd t with|true=>exact aT.keep (λb hb hl=>⟨k.imm ht b hb hl,rfl⟩) (zJ _) rfl e6|false=>exact λi hi=>ba.flat ht (e6 i hi)}}}|ref s n sz win=>cases hr|ptr s n sz i j=>cases hr|dr s n kk=>cases hr|wn n t xs=>cases hr|dq n t xs hh=>{exact bU.map (k.beta n (by simp[qc])) (λb hb=>⟨k.own n (by simp[qc]) b hb,rfl⟩) (λt ys b o _ he=>aT.keep (λb hb hl=>⟨k.imm rfl b hb hl,rfl⟩) (zJ _) rfl he) h}|dp n t xs hh=>{refine br.map (k.beta n (by simp[qc])) (λb hb=>⟨k.own n (by simp[qc]) b hb,rfl⟩) (λys b o _ he=> ?_) h;cases ht:Yd t with|true=>exact aT.keep (λb hb hl=>⟨k.imm ht b hb hl,rfl⟩) (zJ _) rfl he|false=>exact λi hi=>ba.flat ht (he i hi)}|iptr g t xs i j=>{obtain⟨b,o,e1,e2,e3,e4,e5⟩:=h;exact⟨b,o,e1,e2,k.imm rfl b e3 e4,e4,aT.keep (λb hb hl=>⟨k.imm rfl b hb hl,rfl⟩) (zJ _) rfl e5⟩}|_=>exact h
def be.ren {cells:List AV} {arr:Array Value} (J:cells.all J4=true) (k:fI β who w β2 bK f (cells.flatMap qc) (cells.any Jo))
 (h:be β who w cells arr):be β2 bK w (cells.map (d9 f)) arr:=by refine⟨by simpa using h.1,λj O=> ?_⟩;have G:j<cells.length:=by{simpa using O};rw[pH];refine aW.ren (zn.1 J _ (zW G)) (k.mono (λn K=>zN.2 ⟨_,zW G,K⟩) λe=> ?_) (h.2 j G);grind
def qu6:AV->Bool
 | .bx _ cells=>cells.any Jo
 | .agg cells=>cells.any Jo
 |v=>Jo v
def bA.ren {v:AV} {c:Value} (hr:IY v=true) (k:fI β who w β2 bK f (qi v) (qu6 v)) (h:bA β who w v c):bA β2 bK w (gN f v) c:=by cases v with|bx o cells=>{cases o with|nm n=>{obtain⟨h0,b,arr,el,e1,e2,e3,e4⟩:=h;exact⟨by rw[k.beta n (by simp[qi])];exact h0,b,arr,el,e1,e2,k.own n (by simp[qi]) b e3,be.ren hr (k.mono (λn hn=>by simp only[qi];grind) λe=>e) e4⟩}|_=>exact h.elim}|agg cells=>{obtain⟨arr,e1,e2⟩:=h;exact⟨arr,e1,be.ren hr k e2⟩}|tup vs=>exact h.elim|dead=>trivial|bool b=>exact aW.ren (c:= .bool b) hr k h|int x n=>exact aW.ren (c:= .int x n) hr k h|lit u=>exact aW.ren (c:= .lit u) hr k h|sl o t xs=>{have:=aW.ren (c:= .sl o t xs) hr k h;cases o<;>exact this}|ref s n sz win=>cases hr|ptr s n sz i j=>cases hr|iptr g t xs i j=>exact aW.ren (c:= .iptr g t xs i j) hr k h|dp n t xs hh=>exact aW.ren (c:= .dp n t xs hh) hr k h|dr s n kk=>exact aW.ren (c:= .dr s n kk) hr k h|wn n t xs=>exact aW.ren (c:= .wn n t xs) hr k h|dq n t xs hh=>exact aW.ren (c:= .dq n t xs hh) hr k h
def bo.ren {v:AV} {c:Value} (hr:bR v=true) (k:fI β who w β2 bK f (ab v) (X4 v)) (h:bo β who w v c):bo β2 bK w (Vs.ren f v) c:=by cases v with|tup vs=>{obtain⟨arr,e1,e2,e3⟩:=h;refine⟨arr,e1,by simpa using e2,λj hj=> ?_⟩;have hj':j<vs.length:=by{simpa using hj};rw[pH];refine bA.ren (zn.1 hr _ (zW hj')) (k.mono (λn hn=>zN.2 ⟨_,zW hj',hn⟩) λe=> ?_) (e3 j hj');refine LL.2 ⟨_,zW hj',?_⟩;revert e;generalize vs[j]=u;cases u<;>exact id}|dead=>trivial|bool b=>exact bA.ren (v:= .bool b) hr k h|int x n=>exact bA.ren (v:= .int x n) hr k h|lit u=>exact bA.ren (v:= .lit u) hr k h|sl o t xs=>{have:=bA.ren (v:= .sl o t xs) hr k h;cases o<;>exact this}|bx o cells=>exact bA.ren (v:= .bx o cells) hr k h|agg cells=>exact bA.ren (v:= .agg cells) hr k h|ref s n sz win=>cases hr|ptr s n sz i j=>cases hr|iptr g t xs i j=>exact bA.ren (v:= .iptr g t xs i j) hr k h|dp n t xs hh=>exact bA.ren (v:= .dp n t xs hh) hr k h|dr s n kk=>exact bA.ren (v:= .dr s n kk) hr k h|wn n t xs=>exact bA.ren (v:= .wn n t xs) hr k h|dq n t xs hh=>exact bA.ren (v:= .dq n t xs hh) hr k h
def bo.renO {v:AV} {c:Value} (J:eI v=true) (k:fI β who w β2 bK f (ab v) (X4 v)) (h98:β2 98=β 98) (h:bo β who w v c):bo β2 bK w (Vs.ren f v) c:=by cases hw:iE v with|false=>{unfold eI at J;rw[hw,Lz]at J;exact bo.ren J k h}|true=>{cases v with|wn n t xs=>{have K:bo β who w (.sl (.nm n) t xs) c:=h.1;have h2:bo β2 bK w (.sl (.nm (f n)) t xs) c:=bo.ren (v:= .sl (.nm n) t xs) rfl k K;obtain⟨G,Q,O⟩:=h.2;exact⟨h2,G,by rw[h98];exact Q,O⟩}|_=>cases hw}
end
def Td (who:bh) (w:World) (cargs:Array Value) (res:AV) (outs:List AV) (G:Value) (e:Ending) (w':World):Prop:=
 ∃v β' who',e= .returned v/\β' 98=G/\bo β' who' w' res v/\(∀i (h:i<outs.length),bo β' who' w' outs[i] (cargs.getD i undef))/\
  (ab res++outs.flatMap ab).Nodup/\(∀n∈ab res++outs.flatMap ab,n<16)/\bR res=true/\outs.all eI=true/\
  (∀b,b<w.heap.size->who b=none\/who b=some FN->w'.heap[b]? =w.heap[b]?)/\(∀b n,who' b=some n->b<w'.heap.size/\(who b≠none\/w.heap.size<=b))/\
  w.heap.size<=w'.heap.size/\(∀b,who b=some FN->who' b=some FN)/\w'.os=w.os/\w'.output=w.output
def Ya (P:Program) (f:FuncId) (args:List AV) (res:AV) (outs:List AV):Prop:=
 (∃fn,P.funcs[f]? =some fn∧fn.body.isNone=false∧(fn.name== "runtime.NumGoroutine")=false)∧
 ∀β who w (cargs:Array Value),cargs.size=args.length->(∀i (h:i<args.length),bo β who w args[i] (cargs.getD i undef))->
  (args.flatMap ab).Nodup->(∀n∈args.flatMap ab,n<99)->args.all eI=true->(∀b n,who b=some n->b<w.heap.size/\(n∈args.flatMap ab\/n=FN))->cE P who w->
  Calls P f cargs w (Td who w cargs res outs (β 98))
def Mi {l:List AV} (h:l.all bR=true):l.all eI=true:=zn.2 λx G=>by unfold eI;grind
def WI {v:AV} (h:eI v=true) (hw:iE v=false):bR v=true:=by unfold eI at h;grind
def cE.whoC {P:Program} {who:bh} {w:World} (h:cE P who w) {who':bh} (hw: ∀b,who b=none->who' b=none):cE P who' w:=λx G=>⟨hw _ (h x G).1,(h x G).2⟩
def Y7 {ns:List Nat} {n:Nat} (h:n∈ns):aY ns n<ns.length:=by induction ns with|nil=>cases h|cons m ms G=>{simp only[aY,Lu];grind}
def Mg {ns:List Nat} {n:Nat} (h:n∈ns):ns.getD (aY ns n) 0=n:=by induction ns with|nil=>cases h|cons m ms G=>{simp only[aY];grind}
def NZ {ns:List Nat} {n m:Nat} (G:n∈ns) (hm:m∈ns) (h:aY ns n=aY ns m):n=m:=by rw[<-Mg G,<-Mg hm,h]
def Xe {f:Nat->Nat} {l:List Nat} (J: ∀a∈l,∀b∈l,f a=f b->a=b) (h:l.Nodup):(l.map f).Nodup:=by induction l with|nil=>simp|cons x l G=>{grind}
def whoC (who:bh) (ln rn:List Nat):bh:=λb=>match who b with
 |none=>none
 |some n=>if n∈ln then some (aY ln n)else if n∈rn then none else some FN
def bK (who who':bh) (idx:Nat) (ln ns:List Nat):bh:=λb=>match who' b with
 |none=>(match who b with
  |none=>none
  |some n=>if n∈ln then none else some n)
 |some m=>if m=FN then who b else if m∈ns then some (fresh idx m)else none
def gz (β β':aR) (idx:Nat):aR:=λn=>if fresh idx 0<=n/\n<=fresh idx 15 then β' (n-fresh idx 0)else β n
section
variable {P:Program} {CO:Q8} {T:TT} {E:a8} {D:Nat->Prop} {β β':aR} {who who':bh} {U U':ao} {hd:List (AV×Value)} {a:Act} {w w':World} {R W:List Nat}
def Oc {idx:Nat} {ln rn ns:List Nat} {im:Bool} (S:aC E D β who U [] a w) (hf: ∀k,k<16-> ¬D (fresh idx k))
 (e0: ∀n∈ln,n≠FN/\ ∀s,n∉ab (U.get s)) (m0: ∀n∈rn,n≠FN) (hlen:ln.length<=16)
 (b0: ∀b,b<w.heap.size->whoC who ln rn b=none\/whoC who ln rn b=some FN->w'.heap[b]? =w.heap[b]?)
 (hw: ∀b n,who' b=some n->b<w'.heap.size/\(whoC who ln rn b≠none\/w.heap.size<=b)) (c0:w.heap.size<=w'.heap.size)
 (l0: ∀b,whoC who ln rn b=some FN->who' b=some FN) (d0: ∀n∈ns,n<16) (j0:im=true->rn=[]) (h4:w'.os=w.os/\w'.output=w.output):
 aC E (Dn D idx) (gz β β' idx) (bK who who' idx ln ns) U [] a w'/\fI β' who' w' (gz β β' idx) (bK who who' idx ln ns) (fresh idx) ns im:=by have cnone: ∀b,who b=none->whoC who ln rn b=none:=λb h=>by{simp[whoC,h]};have pnone: ∀b,b<w.heap.size->whoC who ln rn b=none->who' b=none:=λb G h=>by{cases e:who' b with|none=>rfl|some n=>{grind}};have keepo: ∀b n,who b=some n->n∉ln->bK who who' idx ln ns b=some n/\w'.heap[b]? =w.heap[b]? :=λb n G J=>by{have K:=S.wsz b n G;by_cases hr:n∈rn;{have Q:whoC who ln rn b=none:=by{simp[whoC,G,J,hr]};exact⟨by simp[bK,pnone b K Q,G,J],b0 b K (.inl Q)⟩};{have Q:whoC who ln rn b=some FN:=by{simp[whoC,G,J,hr]};exact⟨by simp[bK,l0 b Q,G],b0 b K (.inr Q)⟩}};have a0: ∀b,who b=none->b<w.heap.size->bK who who' idx ln ns b=none/\w'.heap[b]? =w.heap[b]? :=λb G K=>by{have Q:=cnone b G;exact⟨by simp[bK,pnone b K Q,G],b0 b K (.inl Q)⟩};have hβ: ∀n,D n->gz β β' idx n=β n:=λn J=>by{simp only[gz];rw[af];rintro ⟨h1,h2⟩;refine hf (n-fresh idx 0) (by simp only[fresh]at*;omega) ?_;rwa [show fresh idx (n-fresh idx 0)=n by simp only[fresh]at*;omega]};have g0:FN∉ln:=λh=>(e0 _ h).1 rfl;have S1:aC E D (gz β β' idx) (bK who who' idx ln ns) U [] a w':=by{refine S.world (λs=>(S.rel s).keep ⟨λn J=>hβ n (S.occ s n J),λn J b G=>keepo b n G λh=>(e0 n h).2 s J,a0,c0⟩) (λx hx=>by cases hx) (λb n G=> ?_) c0 (λb G h0=> ?_) (λb n G=> ?_) (λb G=> ?_) h4 (hβ 98 S.d98);{simp only[bK]at G;split at G;{split at G;{cases G};{rename_i m hm;have:=S.wsz b m hm;omega}};grind};{have k0:b<w.heap.size:=wX G S.fr2;rcases h0 with h0|h0;{cases O:who b with|none=>exact(a0 b O k0).2|some n=>{rcases S.fr1 b n O with h|h;{exact absurd h0 h};{omega}}};{exact(keepo b FN (S.fr3 b h0) g0).2}};{simp only[bK]at G;split at G;{split at G;{cases G};{rename_i m hm;exact S.fr1 b m hm}};{rename_i m hm;split at G;{exact S.fr1 b n G};{rcases(hw b m hm).2 with h|h;{cases O:who b with|none=>grind|some n'=>exact S.fr1 b n' O};{exact .inr (zf S.fr2 h)}}}};{exact(keepo b FN (S.fr3 b G) g0).1}};refine⟨S1.mono (λn h=> .inl h) (dk S.dfn),⟨λn J=> ?_,λn J b G=> ?_,λhi b G K=> ?_⟩⟩;{have:=d0 n J;simp only[gz];rw[iP (by simp only[fresh];omega)];congr 1;simp only[fresh];omega};{have:=d0 n J;simp only[bK,G];rw[af (by simp only[FN];omega),iP J]};{simp only[bK,G];split;{rfl};{rename_i n J;split;{rfl};{rename_i i0;exfalso;have Q:whoC who ln rn b=some FN:=by{simp[whoC,J,i0,j0 hi]};grind}}}
def aC.add {new:List (AV×Value)} {D':Nat->Prop} (S:aC E D' β who U [] a w) (hr: ∀x∈new,bo β who w x.1 x.2) (hnd:(new.flatMap λx=>ab x.1).Nodup)
 (hdis: ∀x∈new,∀n∈ab x.1,∀s,n∉ab (U.get s)) (ho: ∀x∈new,∀n∈Vs.occ x.1,D' n):aC E D' β who U new a w:=
 {S with hrel:=hr,hnod:=hnd,hdis:=hdis,hocc:=ho}
def Fg (U:ao) (p:gS):Prop:=match p.2.1 with
 |none=>ab p.1=[]/\bR p.1=true
 |some s=>p.1=ren (aY (ab (U.get s))) (U.get s)/\bR (U.get s)=true
def Zy {v:AV} {m:Nat} (h:Jk v=some m):m∈ab v:=by unfold Jk at h;split at h;{cases h;simp[ab,qi]};{cases h;simp[ab,qi,qc]};{cases h;simp[ab,qi,qc]};{cases h}
def WC {v:AV} {m:Nat} {u:Value} (h:Jk v=some m) (G:bo β who w v u):u=gk β m v:=by unfold Jk at h;split at h;{cases h;exact G.1};{cases h;exact G.1};{cases h;exact G.1};{cases h}
def jG.passOK {p:gS} {u:Value} (h:jG β who w U p u) (hs: ∀s,p.2.1=some s->ab (U.get s)≠[]):Fg U p:=by obtain⟨av,l,rn⟩:=p;cases l with|none=>exact⟨h.2.2.1,h.2.1⟩|some s=>{obtain⟨_,h⟩:=h;rcases h with h|⟨m,_,J,G,_⟩;{exact absurd h (hs s rfl)};{exact⟨J,G⟩}}
def TC {ps:List gS} (h: ∀p∈ps,Fg U p):
 (ps.map (·.1)).flatMap ab=(Z8 ps).flatMap λs=>(ab (U.get s)).map (aY (ab (U.get s))):=by induction ps with|nil=>rfl|cons p ps K=>{obtain⟨av,l,rn⟩:=p;have J:=h _ mS;have G:=K λp O=>h p (mT O);cases l with|none=>simp only[sP,fC,Z8,G,J.1,vE]|some s=>{have e:av=ren (aY (ab (U.get s))) (U.get s):=J.1;simp only[sP,fC,Z8,G,e,Qh]}}
def TF {ps:List gS} (h: ∀p∈ps,Fg U p):(ps.map (·.1)).all bR=true:=by refine zn.2 λx G=> ?_;obtain⟨p,J,rfl⟩:=zk.1 G;obtain⟨av,l,rn⟩:=p;have:=h _ J;cases l with|none=>exact this.2|some s=>{have e:av=ren (aY (ab (U.get s))) (U.get s):=this.1;subst e;show bR (ren _ _)=true;rw[Xt];exact this.2}
def q9m {outs:List AV} {o:AV}: ∀{ps:List gS} {k:Nat} {s:Nat},xC outs ps k=some o->Z8 ps=[s]->
 ∃i,∃h:i<ps.length,ps[i].2.1=some s/\outs[k+i]? =some o
 |[],k,s,h,_=>by cases h
 |(av,some O,rn)::ps,k,s,h,G=>by{simp only[Z8,List.cons.injEq]at G;exact⟨0,by simp,by simp[G.1],h⟩}
 |(av,none,rn)::ps,k,s,h,G=>by obtain⟨i,J,K,h2⟩:=q9m (ps:=ps) (k:=k+1) h G;exact⟨i+1,by simpa using J,K,by rw[<-h2];congr 1;omega⟩
def Y6 {ps:List gS} {p:gS} {s:Nat} (K:p∈ps) (h:p.2.1=some s):s∈Z8 ps:=by induction ps with|nil=>cases K|cons q ps J=>{obtain⟨av,l,rn⟩:=q;rcases mC K with rfl|G;{simp only at h;subst h;simp[Z8]};{cases l with|none=>exact J G|some O=>exact mT (J G)}}
def qkm {G J:List Nat} {n:Nat} (h:n∈G):aY (G++J) n=aY G n:=by induction G with|nil=>cases h|cons m ms K=>{simp only[AY,aY];grind}
def qfz {G J:List Nat} {n:Nat} (h:n∉G):aY (G++J) n=aY J n+G.length:=by induction G with|nil=>simp|cons m ms K=>{simp only[zq,not_or]at h;simp only[AY,aY,Lu];grind}
def qbu {f g:Nat->Nat} {c:AV}:d9 g (d9 f c)=d9 (λn=>g (f n)) c:=by cases c with|sl o t xs=>{cases o<;>rfl}|_=>rfl
def qjc {f g:Nat->Nat} {cells:List AV}:(cells.map (d9 f)).map (d9 g)=cells.map (d9 λn=>g (f n)):=by rw[List.map_map];exact AZ λc _=>qbu
def Tu {f g:Nat->Nat} {v:AV}:gN g (gN f v)=gN (λn=>g (f n)) v:=by cases v with|bx o cells=>{have:=qjc (f:=f) (g:=g) (cells:=cells);cases o<;>simp only[gN,renO,this]}|agg cells=>simp only[gN,qjc]|sl o t xs=>{have:=qbu (f:=f) (g:=g) (c:= .sl o t xs);cases o<;>exact this}|_=>rfl
def qtz {f g:Nat->Nat} {v:AV}:ren g (ren f v)=ren (λn=>g (f n)) v:=by cases v with|tup vs=>{simp only[ren,List.map_map];congr 1;exact AZ λc _=>Tu}|sl o t xs=>{have:=Tu (f:=f) (g:=g) (v:= .sl o t xs);cases o<;>exact this}|bx o cells=>exact Tu (f:=f) (g:=g) (v:= .bx o cells)|agg cells=>exact Tu (f:=f) (g:=g) (v:= .agg cells)|_=>rfl
def N8 {f g:Nat->Nat} {c:AV} (h: ∀n∈qc c,f n=g n):d9 f c=d9 g c:=by cases c with|sl o t xs=>{cases o with|nm n=>simp only[d9,h n (by simp[qc])]|_=>rfl}|dp n t xs hh=>simp only[d9,h n (by simp[qc])]|wn n t xs=>simp only[d9,h n (by simp[qc])]|dq n t xs hh=>simp only[d9,h n (by simp[qc])]|_=>rfl
def WU {f g:Nat->Nat} {cells:List AV} (h: ∀n∈cells.flatMap qc,f n=g n):cells.map (d9 f)=cells.map (d9 g):=
 AZ λc J=>N8 λn G=>h n (zN.2 ⟨c,J,G⟩)
def Zd {f g:Nat->Nat} {v:AV} (h: ∀n∈qi v,f n=g n):gN f v=gN g v:=by cases v with|bx o cells=>{cases o with|nm m=>{simp only[qi,zq]at h;simp only[gN,renO,h m (.inl rfl),WU λn hn=>h n (.inr hn)]}|_=>simp only[gN,renO,WU (cells:=cells) h]}|agg cells=>simp only[gN,WU (cells:=cells) h]|sl o t xs=>exact N8 (c:= .sl o t xs) h|dp n t xs hh=>exact N8 (c:= .dp n t xs hh) h|wn n t xs=>exact N8 (c:= .wn n t xs) h|dq n t xs hh=>exact N8 (c:= .dq n t xs hh) h|_=>rfl
def qml {f g:Nat->Nat} {v:AV} (h: ∀n∈ab v,f n=g n):ren f v=ren g v:=by cases v with|tup vs=>{simp only[ren];congr 1;exact AZ λc hc=>Zd λn hn=>h n (zN.2 ⟨c,hc,hn⟩)}|sl o t xs=>exact Zd (v:= .sl o t xs) h|bx o cells=>exact Zd (v:= .bx o cells) h|agg cells=>exact Zd (v:= .agg cells) h|dp n t xs hh=>exact Zd (v:= .dp n t xs hh) h|wn n t xs=>exact Zd (v:= .wn n t xs) h|dq n t xs hh=>exact Zd (v:= .dq n t xs hh) h|_=>rfl
def qgb {ps:List gS} {k s:Nat} (h: ∀p∈ps,Fg U p):
 (ps.map (xA k s)).flatMap ab=(Z8 ps).flatMap λG=>(ab (U.get G)).map λn=>if G=s then aY (ab (U.get G)) n+k else aY (ab (U.get G)) n:=by induction ps with|nil=>rfl|cons p ps O=>{obtain⟨av,l,rn⟩:=p;have K:=h _ mS;have J:=O λp Q=>h p (mT Q);cases l with|none=>simp only[sP,fC,Z8,J,xA,K.1,vE]|some G=>{have e:av=ren (aY (ab (U.get G))) (U.get G):=K.1;simp only[sP,fC,Z8,J,xA,e];congr 1;split;{rw[Qh,Qh,List.map_map];rfl};{rw[Qh]}}}
def qfh {ps:List gS} {k s:Nat} (h: ∀p∈ps,Fg U p):(ps.map (xA k s)).all bR=true:=by refine zn.2 λx J=> ?_;obtain⟨p,K,rfl⟩:=zk.1 J;obtain⟨av,l,rn⟩:=p;have:=h _ K;cases l with|none=>exact this.2|some G=>{have e:av=ren (aY (ab (U.get G))) (U.get G):=this.1;subst e;simp only[xA];split;{rw[Xt,Xt];exact this.2};{rw[Xt];exact this.2}}
def TB {outs:List AV} {o:AV} {s:Nat}: ∀{ps:List gS} {k:Nat},nW s outs ps k=some o-> ∃i,∃h:i<ps.length,ps[i].2.1=some s/\outs[k+i]? =some o
 |[],k,h=>by cases h
 |(av,some K,rn)::ps,k,h=>by{simp only[nW]at h;split at h;{rename_i e;exact⟨0,by simp,by simp[e],h⟩};{obtain⟨i,G,J,h2⟩:=TB (ps:=ps) (k:=k+1) h;exact⟨i+1,by simpa using G,J,by rw[<-h2];congr 1;omega⟩}}
 |(av,none,rn)::ps,k,h=>by obtain⟨i,G,J,h2⟩:=TB (ps:=ps) (k:=k+1) h;exact⟨i+1,by simpa using G,J,by rw[<-h2];congr 1;omega⟩
def qit: ∀{outs:List AV} {i j:Nat} (J:i<outs.length) (K:j<outs.length),i≠j->(outs.flatMap ab).Nodup->
 (ab outs[i]++ab outs[j]).Nodup
 |[],i,j,J,K,G,h=>absurd J (zA _)
 |x::xs,i,j,J,K,G,h=>by
  simp only[fC]at h;obtain⟨h1,h2,h3⟩:=zS.1 h
  have nd: ∀{k:Nat} (Q:k<xs.length),(ab xs[k]).Nodup:=λ{k} Q=>by
   grind
  match i,j with
  |0,0=>exact absurd rfl G
  |0,j+1=>
   grind
  |i+1,0=>
   grind
  |i+1,j+1=>
   simp only[List.getElem_cons_succ];exact qit (by simpa using J) (by simpa using K) (λe=>G O) h2
end
def N6 {P:Program} {f:FuncId} (h: ∃fn,P.funcs[f]? =some fn∧fn.body.isNone=false∧(fn.name== "runtime.NumGoroutine")=false) (args:Array Value) (w:World):
 (callFunc f args).run P w= .ok (.enter f args) w:=by
 obtain⟨fn,h1,h2,h3⟩:=h;have h2':fn.body≠none:=λe=>by rw[e]at h2;cases h2
 have h3':fn.name≠ "runtime.NumGoroutine" :=by simpa using h3
 simp[callFunc,h1,h2',h3']
section
variable {P:Program} {CO:Q8} {T:TT} {E:a8} {D:Nat->Prop} {β β':aR} {who who':bh} {U U':ao} {hd:List (AV×Value)} {a:Act} {w w':World} {R W:List Nat}
def wP (P:Program) (E:a8) (D:Nat->Prop) (idx:Nat) (U':ao) (v:AV) (o:Oper) (a:Act) (w:World):Prop:=
 ∀(next:Act->World->Prop) (Q:Exit->Act->World->Prop),
  (∀c w' β' who',aC E (Dn D idx) β' who' U' [(v,c)] a w'->next (a.put o.dst c) w')->o.wp P a w next Q
def bV.wp {idx:Nat} {v:AV} {o:Oper} (h:bV P E D idx U' v a ((execOp a.eval o).run P w)):wP P E D idx U' v o a w:=by intro next Q J;obtain⟨c,w',β',who',G|⟨G,rfl⟩,S⟩:=h;{unfold Oper.wp;rw[G];exact J c w' β' who' S};{unfold Oper.wp;rw[G];exact J undef w' β' who' S}
def Zm {res o:AV} {outs:List AV} (h:(ab res++outs.flatMap ab).Nodup) (J:o∈outs):(ab o++ab res).Nodup/\ ∀n∈ab o,n∈outs.flatMap ab:=by have G:(ab o).Sublist (outs.flatMap ab):=by{induction outs with|nil=>cases J|cons x xs K=>{simp only[fC];rcases mC J with rfl|J;{exact List.sublist_append_left _ _};{refine(K ?_ J).trans (List.sublist_append_right _ _);simp only[fC]at h;exact h.sublist (List.Sublist.append (List.Sublist.refl _) (List.sublist_append_right _ _))}}};have h2:=h.sublist (List.Sublist.append (List.Sublist.refl (ab res)) G);exact⟨(List.perm_append_comm.nodup_iff).1 h2,λn O=>G.subset O⟩
def q8u (hT:bG P T) (hC: ∀f as r os,CO f as r os->Ya P f as r os) (u2:E.prog=P) {idx mode f:Nat} {o:Oper} {args:List Operand} {u3:List TypeId} {v:AV}
 (h:aw CO (Ur T idx mode f args u3) U v U' R W) (S:aC E D β who U [] a w) (hf: ∀k,k<16-> ¬D (fresh idx k))
 (l2:execOp a.eval o=callFunc f (args.map a.eval).toArray):wP P E D idx U' v o a w:=by
 intro next Q hnext
 obtain⟨ps,U1,_,_,_,_,h1,h2⟩:=aw.bind' h;obtain⟨_,bj,_,S1,hlen,hargs⟩:=aw.passAll hT h1 S
 have a1:(∀s∈Z8 ps,ab (U1.get s)≠[])-> ∀p∈ps,Fg U1 p:=λhs p hp=>by
  obtain⟨i,hi,rfl⟩:=nz hp;exact(hargs i hi (by rw[<-hlen];exact hi)).passOK λs e=>hs s (Y6 hp e)
 have u0: ∀i (hi:i<args.length),(args.map a.eval).toArray.getD i undef=a.eval args[i]:=λi hi=>by simp[Array.getD,hi]
 have x0: ∀n∈ps.flatMap (·.2.2),n≠FN:=λn G=>by
  obtain⟨p,hp,G⟩:=zN.1 G;obtain⟨i,hi,rfl⟩:=nz hp;have ha:=hargs i hi (by rw[<-hlen];exact hi)
  generalize ps[i]=p at*
  obtain⟨av,l,rn⟩:=p;cases l with
  |none=>exact ha.2.2.2 n G
  |some s=>have e:rn=[]:=ha.1;subst e;cases G
 have hpure: ∀(ln:List Nat) (βc:aR),(∀n∈ps.flatMap (·.2.2),n∉ln)-> ∀i (hi:i<ps.length),ps[i].2.1=none->bo βc (whoC bj ln (ps.flatMap (·.2.2))) w ps[i].1 (a.eval (args[i]'(by rw[<-hlen];exact hi))):=λln βc hd i hi hl=>by
  have ha:=hargs i hi (by rw[<-hlen];exact hi)
  have h0: ∀n∈ps[i].2.2,n∈ps.flatMap (·.2.2):=λn G=>zN.2 ⟨_,zW hi,G⟩
  generalize ps[i]=p at*
  obtain⟨av,l,rn⟩:=p;simp only at hl;subst hl;refine ha.1 βc _ ⟨λb O=>by simp[whoC,O],λb n O G=> ?_⟩
  simp[whoC,O,hd n (h0 n G),h0 n G]
 split at h2
 ·
  rename_i hl;have i0:=a1 (λs hs=>by rw[hl]at hs;cases hs)
  have hnoref:=TF i0;have hnames:=TC i0;obtain⟨⟨r,os⟩,U2,_,_,_,_,h3,h4⟩:=aw.bind' h2;obtain⟨t1,rfl⟩:=aw.mcall' h3;obtain⟨s1,hcall⟩:=hC _ _ _ _ t1;dsimp only at h4;have c2:(ps.map (·.1)).flatMap ab=[]:=by rw[hnames,hl];rfl
  have m1:X4 r=true->ps.flatMap (·.2.2)=[]:=λhi=>by
   split at h4
   . exact(aw.fail' h4).elim
   . rename_i hc;simp only[hi,Bh,Bool.not_eq_true']at hc;simpa using hc
  have hv:v=ren (fresh idx) r/\U'=U2:=by
   split at h4
   . exact(aw.fail' h4).elim
   . exact aw.pure' h4
  obtain⟨rfl,rfl⟩:=hv
  have hcalls:=hcall (λ_=>undef) (whoC bj [] (ps.flatMap (·.2.2))) w (args.map a.eval).toArray (by simp[hlen]) (λi hi=>by
   have t2:i<ps.length:=by simpa using hi
   rw[u0 i (by rw[<-hlen];exact t2),pH]
   refine hpure [] _ (λ_ _ h=>by cases h) i t2 ?_
   cases e:ps[i].2.1 with
   |none=>rfl
   |some s=>have:=Y6 (zW t2) e;rw[hl]at this;cases this) (by rw[c2];exact Bi) (by rw[c2];simp) (Mi hnoref)
   (fun b n O=>by
     simp only[whoC]at O;split at O
     . cases O
     . rename_i m hm;simp only[nA,if_false]at O;split at O
       . cases O
       . injection O with O;exact⟨S1.wsz b m hm,.inr O.symm⟩)
  unfold Oper.wp;rw[l2,N6 s1,Oper.upon_enter];refine Calls.mono (hcalls ((u2▸S1.glob:cE P bj w).whoC (λb h=>by simp[whoC,h]))) λe w' hp=> ?_
  obtain⟨c,β',who',rfl,_,p1,p2,p3,p4,p5,p6,p7,p8,p9,w0,v0⟩:=hp;have j1:=(zS.1 p3).1
  obtain⟨S2,k⟩:=Oc (β':=β') (who':=who') (w':=w') (ln:=[]) (rn:=ps.flatMap (·.2.2)) (ns:=ab r) (im:=X4 r) S1 hf (λn G=>by cases G) x0 (by simp) p7 p8 p9 w0
   (λn G=>p4 n (ld _ G)) m1 v0
  refine hnext c w' _ _ (S2.add (new:=[(ren (fresh idx) r,c)]) ?_ ?_ ?_ ?_)
  . intro x hx;obtain rfl:=zC.1 hx;exact bo.ren p5 k p1
  . simp only[fC,Bk,ls,Qh];exact Xe (λ_ _ _ _ h=>Yu h) j1
  . intro x hx n G s hs;obtain rfl:=zC.1 hx;simp only[Qh,zk]at G;obtain⟨m,hm,rfl⟩:=G;exact hf m (p4 m (ld _ hm)) (S1.occ s _ (qj hs))
  . intro x hx n G;obtain rfl:=zC.1 hx;rw[Jl (by rw[Xt];exact p5),Qh,zk]at G
    obtain⟨m,hm,rfl⟩:=G;exact .inr ⟨m,p4 m (ld _ hm),rfl⟩
 ·
  rename_i s hl;obtain⟨av,U2,_,_,_,_,h3,h4⟩:=aw.bind' h2;obtain⟨rfl,rfl⟩:=aw.mget' h3;split at h4
  . exact(aw.fail' h4).elim
  rename_i b0;simp only[EW,not_or]at b0;obtain⟨r0,b0⟩:=b0
  have i0:=a1 (λJ hs=>by
   rw[hl,zC]at hs;subst hs;intro e;cases e2:Jk (U2.get J)with
   |none=>rw[e2]at r0;exact r0 rfl
   |some m=>have:=Zy e2;rw[e]at this;cases this)
  have hnoref:=TF i0;have hnames:=TC i0;obtain⟨⟨r,os⟩,U3,_,_,_,_,h5,h6⟩:=aw.bind' h4;obtain⟨t1,rfl⟩:=aw.mcall' h5;obtain⟨s1,hcall⟩:=hC _ _ _ _ t1;dsimp only at h6;split at h6
  case h_2=>exact(aw.fail' h6).elim
  rename_i ov w3;split at h6
  . exact(aw.fail' h6).elim
  rename_i hc
  have v3:iE ov=false:=by
   cases e:iE ov with
   |false=>rfl
   |true=>exact absurd (by rw[e,AS]) hc
  have hc: ¬(!(ps.flatMap (·.2.2)).isEmpty&&(X4 r||X4 ov))=true:=λe=>hc (by rw[e];rfl)
  obtain⟨_,U4,_,_,_,_,h7,h8⟩:=aw.bind' h6;have:=aw.mset' h7;subst this;obtain⟨rfl,rfl⟩:=aw.pure' h8;obtain⟨i,hi,d3,k2⟩:=q9m w3 hl;simp only[zH]at k2;have u1:=hargs i hi (by rw[<-hlen];exact hi)
  obtain⟨m,n3,y3,k3,hu⟩: ∃m,Jk (U3.get s)=some m/\(ab (U3.get s)).length<=16/\bR (U3.get s)=true/\a.eval (args[i]'(by rw[<-hlen];exact hi))=gk β m (U3.get s):=by
   generalize ps[i]=p at*
   obtain⟨av,l,rn⟩:=p;simp only at d3;subst d3;obtain⟨_,u1⟩:=u1;rcases u1 with u1|⟨m,q1,q2,q3,q4,q5⟩
   . cases e2:Jk (U3.get s)with
     |none=>rw[e2]at r0;exact absurd rfl r0
     |some m=>have:=Zy e2;rw[u1]at this;cases this
   . exact⟨m,q1,q4,q3,q5⟩
  have b3:a.tmps.getD s undef=gk β m (U3.get s):=WC n3 (S1.rel s);generalize K:ab (U3.get s)=ln at*
  have s0: ∀n∈ps.flatMap (·.2.2),n∉ln:=λn G d0=>by
   apply b0;exact LL.2 ⟨n,G,wS.2 d0⟩
  have m1:(X4 r||X4 ov)=true->ps.flatMap (·.2.2)=[]:=λhi=>by
   simp only[hi,Bh,Bool.not_eq_true']at hc;simpa using hc
  have g1:ln.Nodup:=K▸S1.nod s;have c0:(ps.map (·.1)).flatMap ab=ln.map (aY ln):=by rw[hnames,hl];simp[K]
  have l1: ∀n∈ln,D n:=λn G=>S1.occ s n (qj (K▸G))
  have hcalls:=hcall (λk=>β (ln.getD k 0)) (whoC bj ln (ps.flatMap (·.2.2))) w (args.map a.eval).toArray (by simp[hlen]) (λj hj=>by
   have e0:j<ps.length:=by simpa using hj
   rw[u0 j (by rw[<-hlen];exact e0),pH]
   cases e:ps[j].2.1 with
   |none=>exact hpure ln _ s0 j e0 e
   |some J=>
    have:=Y6 (zW e0) e;rw[hl,zC]at this;subst this;have t0:=hargs j e0 (by rw[<-hlen];exact e0)
    generalize ps[j]=p at*
    obtain⟨av,l,rn⟩:=p;simp only at e;subst e;obtain⟨_,t0⟩:=t0;obtain⟨m',q1,q2,q3,q4,q5⟩:=t0.resolve_left λe=>by have:=Zy n3;rw[e]at this;cases this
    simp only at q2;rw[q2,q5,K];have y1:=S1.rel J;have e2:gk β m' (U3.get J)=a.tmps.getD J undef:=(WC q1 y1).symm;rw[e2];refine bo.ren q3 ⟨λn G=> ?_,λn G b O=> ?_,λ_ b O _=>by simp[whoC,O]⟩ y1
    . rw[K]at G;simp only[Mg G]
    . rw[K]at G;simp[whoC,O,G]) (by rw[c0];exact Xe (λ_ h1 _ h2 h=>NZ h1 h2 h) g1)
   (by
     rw[c0];intro n' d0;obtain⟨n,G,rfl⟩:=zk.1 d0;have:=Y7 G;omega) (Mi hnoref)
   (fun b n O=>by
     simp only[whoC]at O;split at O
     . cases O
     . rename_i n' d0;refine⟨S1.wsz b n' d0,?_⟩;split at O
       . rename_i s2;injection O with O
         exact .inl (by rw[c0,<-O];exact zk.2 ⟨n',s2,rfl⟩)
       . split at O
         . cases O
         . injection O with O;exact .inr O.symm)
  unfold Oper.wp;rw[l2,N6 s1,Oper.upon_enter];refine Calls.mono (hcalls ((u2▸S1.glob:cE P bj w).whoC (λb h=>by simp[whoC,h]))) λe w' hp=> ?_
  obtain⟨c,β',who',rfl,_,p1,p2,p3,p4,p5,p6,p7,p8,p9,w0,v0⟩:=hp;have b2:ov∈os:=List.mem_of_getElem? k2;obtain⟨j1,a2⟩:=Zm p3 b2;have v1:aC E D β bj (U3.set s .dead) [] a w:=(S1.takeAll s).drop rfl
  obtain⟨S2,k⟩:=Oc (β':=β') (who':=who') (w':=w') (ln:=ln) (rn:=ps.flatMap (·.2.2)) (ns:=ab r++ab ov) (im:=X4 r||X4 ov) v1 hf
   (fun n G=>⟨λe=>S1.dfn (e▸l1 n G),λJ a0=>by
     by_cases e:J=s
     . subst e;rw[qh]at a0;simp[ab,qi,qc]at a0
     . rw[qg _ _ e]at a0;exact e (S1.dis J s n a0 (K▸G))⟩) x0 y3 p7 p8 p9 w0
   (fun n G=>by
     rcases zX.1 G with h|h
     . exact p4 n (ld _ h)
     . exact p4 n (vB _ (a2 n h))) m1 v0
  have y2:bR ov=true:=WI (zn.1 p6 _ b2) v3
  have c3:bo β' who' w' ov (a.tmps.getD s undef):=by
   obtain⟨w1,e2⟩:=List.getElem?_eq_some_iff.1 k2;have:=p2 i w1;rw[u0 i (by rw[<-hlen];exact hi),hu,<-b3,e2]at this
   exact this
  have j0: ∀n,n∈ab ov\/n∈ab r->n<16:=λn G=>by
   rcases G with h|h
   . exact p4 n (vB _ (a2 n h))
   . exact p4 n (ld _ h)
  have hfreshσ: ∀m,m<16-> ∀t,fresh idx m∉ab ((U3.set s .dead).get t):=λm hm t ht=>hf m hm (v1.occ t _ (qj ht))
  have S3:=S2.add (new:=[(ren (fresh idx) ov,a.tmps.getD s undef),(ren (fresh idx) r,c)])
   (fun x hx=>by
     rcases mC hx with rfl|hx
     . exact bo.ren y2 (k.mono (λn G=>vB _ G) λe=>by simp[e]) c3
     . obtain rfl:=zC.1 hx;exact bo.ren p5 (k.mono (λn G=>ld _ G) λe=>by simp[e]) p1)
   (by
     simp only[fC,Bk,ls,Qh,<-List.map_append];exact Xe (λ_ _ _ _ h=>Yu h) j1)
   (fun x hx n G t ht=>by
     have: ∃m,m<16/\n=fresh idx m:=by
      rcases mC hx with rfl|hx
      . simp only[Qh,zk]at G;obtain⟨m,hm,rfl⟩:=G;exact⟨m,j0 m (.inl hm),rfl⟩
      . obtain rfl:=zC.1 hx;simp only[Qh,zk]at G;obtain⟨m,hm,rfl⟩:=G;exact⟨m,j0 m (.inr hm),rfl⟩
     obtain⟨m,hm,rfl⟩:=this;exact hfreshσ m hm t ht)
   (fun x hx n G=>by
     rcases mC hx with rfl|hx
     . rw[Jl (by rw[Xt];exact y2),Qh,zk]at G
       obtain⟨m,hm,rfl⟩:=G;exact .inr ⟨m,j0 m (.inl hm),rfl⟩
     . obtain rfl:=zC.1 hx;rw[Jl (by rw[Xt];exact p5),Qh,zk]at G
       obtain⟨m,hm,rfl⟩:=G;exact .inr ⟨m,j0 m (.inr hm),rfl⟩)
  have S4:=S3.putBack (by rw[qh];rfl)
  refine hnext c w' _ _ (S4.ext λt=> ?_)
  by_cases e:t=s
  . subst e;rw[qh,qh]
  . rw[qg _ _ e,qg _ _ e,qg _ _ e]
 ·
  rename_i s t hl;obtain⟨av,U2,_,_,_,_,h3,h4⟩:=aw.bind' h2;obtain⟨rfl,rfl⟩:=aw.mget' h3;obtain⟨bv,g0,_,_,_,_,z3,v2⟩:=aw.bind' h4;obtain⟨rfl,rfl⟩:=aw.mget' z3;split at v2
  . exact(aw.fail' v2).elim
  rename_i b0;simp only[EW,not_or]at b0;obtain⟨⟨⟨⟨k0,r0⟩,d2⟩,r3⟩,b0⟩:=b0;have k0:s≠t:=λe=>k0 (by rw[e];exact Nat.beq_refl t)
  have h16l:(ab (g0.get s)).length+(ab (g0.get t)).length<=16:=by
   have: ¬(16<(ab (g0.get s)).length+(ab (g0.get t)).length):=λh=>r3 (by simpa [Nat.blt_eq]using h)
   omega
  have hsome: ∀J,J∈Z8 ps-> ∃m,Jk (g0.get J)=some m:=λJ hs=>by
   rw[hl]at hs;simp only[zq,nA,or_false]at hs;rcases hs with rfl|rfl
   . cases e2:Jk (g0.get J)with
     |none=>rw[e2]at r0;exact absurd rfl r0
     |some m=>exact⟨m,rfl⟩
   . cases e2:Jk (g0.get J)with
     |none=>rw[e2]at d2;exact absurd rfl d2
     |some m=>exact⟨m,rfl⟩
  have i0:=a1 (λJ hs e=>by
   obtain⟨m,hm⟩:=hsome J hs;have:=Zy hm;rw[e]at this;cases this)
  have hnoref:=qfh (k:=(ab (g0.get s)).length) (s:=t) i0;have hnames:=qgb (k:=(ab (g0.get s)).length) (s:=t) i0;obtain⟨⟨r,os⟩,U3,_,_,_,_,h5,h6⟩:=aw.bind' v2;obtain⟨t1,rfl⟩:=aw.mcall' h5;obtain⟨s1,hcall⟩:=hC _ _ _ _ t1;dsimp only at h6;split at h6
  case h_2=>exact(aw.fail' h6).elim
  rename_i o1 o2 f3 e3;split at h6
  . exact(aw.fail' h6).elim
  rename_i hc
  have a3:iE o1=false:=by
   cases e:iE o1 with
   |false=>rfl
   |true=>exact absurd (by rw[e,MA,AS]) hc
  have z2:iE o2=false:=by
   cases e:iE o2 with
   |false=>rfl
   |true=>exact absurd (by rw[e,AS,AS]) hc
  have hc: ¬(!(ps.flatMap (·.2.2)).isEmpty&&(X4 r||X4 o1||X4 o2))=true:=λe=>hc (by rw[e];rfl)
  obtain⟨_,U4,_,_,_,_,h7,h8⟩:=aw.bind' h6;have:=aw.mset' h7;subst this;obtain⟨_,U5,_,_,_,_,h9,a4⟩:=aw.bind' h8;have:=aw.mset' h9;subst this;obtain⟨rfl,rfl⟩:=aw.pure' a4;obtain⟨i1,m3,z1,f1⟩:=TB f3;obtain⟨i2,w1,z0,e1⟩:=TB e3;simp only[zH]at f1 e1;have l3:i1≠i2:=by rintro rfl;rw[z1]at z0;injection z0 with e;exact k0 e
  have hlent: ∀j (hj:j<ps.length) J,ps[j].2.1=some J-> ∃m,Jk (U3.get J)=some m/\ps[j].1=ren (aY (ab (U3.get J))) (U3.get J)/\bR (U3.get J)=true/\
   a.eval (args[j]'(by rw[<-hlen];exact hj))=a.tmps.getD J undef:=λj hj J e=>by
   obtain⟨m0,x3⟩:=hsome J (Y6 (zW hj) e);have t0:=hargs j hj (by rw[<-hlen];exact hj)
   generalize ps[j]=p at*
   obtain⟨av,l,rn⟩:=p;simp only at e;subst e;obtain⟨_,t0⟩:=t0;obtain⟨m',q1,q2,q3,q4,q5⟩:=t0.resolve_left λe=>by have:=Zy x3;rw[e]at this;cases this
   exact⟨m',q1,q2,q3,by rw[q5];exact(WC q1 (S1.rel J)).symm⟩
  obtain⟨ln,K⟩: ∃ln,ln=ab (U3.get s)++ab (U3.get t):=⟨_,rfl⟩;have f2: ∀n,n∈ab (U3.get s)->n∉ab (U3.get t):=λn h1 h2=>k0 (S1.dis s t n h1 h2)
  have r2:ln.length<=16:=by rw[K,zG];exact h16l
  have s0: ∀n∈ps.flatMap (·.2.2),n∉ln:=λn G d0=>by
   apply b0;exact LL.2 ⟨n,G,wS.2 (K▸d0)⟩
  have m1:(X4 r||(X4 o1||X4 o2))=true->ps.flatMap (·.2.2)=[]:=λhi=>by
   rw[<-Bool.or_assoc]at hi;simp only[hi,Bh,Bool.not_eq_true']at hc;simpa using hc
  have g1:ln.Nodup:=by
   rw[K];exact zS.2 ⟨S1.nod s,S1.nod t,λx hx y hy e=>f2 x hx (e▸hy)⟩
  have h0: ∀J,J=s\/J=t-> ∀n∈ab (U3.get J),n∈ln:=λJ h n G=>by
   rw[K];rcases h with rfl|rfl
   . exact ld _ G
   . exact vB _ G
  have r1: ∀J,J=s\/J=t-> ∀n∈ab (U3.get J),(if J=t then aY (ab (U3.get J)) n+(ab (U3.get s)).length else aY (ab (U3.get J)) n)=aY ln n:=λJ h n G=>by
   rw[K];rcases h with rfl|rfl
   . rw[af k0,qkm G]
   . rw[iP rfl,qfz (λh=>f2 n h G)]
  have c0:(ps.map (xA (ab (U3.get s)).length t)).flatMap ab=ln.map (aY ln):=by
   rw[hnames,hl];rw[fC,fC,Bk,ls];rw[AZ (r1 s (.inl rfl)),AZ (r1 t (.inr rfl)),<-List.map_append,<-K]
  have l1: ∀n∈ln,D n:=λn G=>by
   rw[K]at G;rcases zX.1 G with G|G
   . exact S1.occ s n (qj G)
   . exact S1.occ t n (qj G)
  have m2: ∀J,J∈Z8 ps->J=s\/J=t:=λJ h=>by rw[hl]at h;simpa using h
  have hcalls:=hcall (λk=>β (ln.getD k 0)) (whoC bj ln (ps.flatMap (·.2.2))) w (args.map a.eval).toArray (by simp[hlen]) (λj hj=>by
   have e0:j<ps.length:=by simpa using hj
   rw[u0 j (by rw[<-hlen];exact e0),pH]
   cases e:ps[j].2.1 with
   |none=>
    have:xA (ab (U3.get s)).length t ps[j]=ps[j].1:=by simp only[xA,e]
    rw[this];exact hpure ln _ s0 j e0 e
   |some J=>
    have a0:=m2 J (Y6 (zW e0) e);obtain⟨m',q1,q2,q3,q5⟩:=hlent j e0 J e
    have:xA (ab (U3.get s)).length t ps[j]=ren (aY ln) (U3.get J):=by
     simp only[xA,e];rw[q2,<-qml (r1 J a0)];split
     . rw[qtz]
     . rfl
    rw[this,q5];refine bo.ren q3 ⟨λn G=> ?_,λn G b O=> ?_,λ_ b O _=>by simp[whoC,O]⟩ (S1.rel J)
    . simp only[Mg (h0 J a0 n G)]
    . simp[whoC,O,h0 J a0 n G]) (by rw[c0];exact Xe (λ_ h1 _ h2 h=>NZ h1 h2 h) g1)
   (by
     rw[c0];intro n' d0;obtain⟨n,G,rfl⟩:=zk.1 d0;have:=Y7 G;omega) (Mi hnoref)
   (fun b n O=>by
     simp only[whoC]at O;split at O
     . cases O
     . rename_i n' d0;refine⟨S1.wsz b n' d0,?_⟩;split at O
       . rename_i s2;injection O with O
         exact .inl (by rw[c0,<-O];exact zk.2 ⟨n',s2,rfl⟩)
       . split at O
         . cases O
         . injection O with O;exact .inr O.symm)
  unfold Oper.wp;rw[l2,N6 s1,Oper.upon_enter];refine Calls.mono (hcalls ((u2▸S1.glob:cE P bj w).whoC (λb h=>by simp[whoC,h]))) λe w' hp=> ?_
  obtain⟨c,β',who',rfl,_,p1,p2,p3,p4,p5,p6,p7,p8,p9,w0,v0⟩:=hp;obtain⟨i3,t3⟩:=List.getElem?_eq_some_iff.1 f1;obtain⟨g3,s3⟩:=List.getElem?_eq_some_iff.1 e1;have d1:o1∈os:=List.mem_of_getElem? f1;have b1:o2∈os:=List.mem_of_getElem? e1;have q0:=(Zm p3 d1).2;have l0:=(Zm p3 b1).2
  have j1:(ab o1++(ab o2++ab r)).Nodup:=by
   have k1:=qit i3 g3 l3 (zS.1 p3).2.1;rw[t3,s3]at k1;rw[<-List.append_assoc];refine zS.2 ⟨k1,(zS.1 p3).1,λx hx y hy e=> ?_⟩
   refine(zS.1 p3).2.2 y hy x ?_ e.symm;rcases zX.1 hx with h|h
   . exact q0 x h
   . exact l0 x h
  have o3:aC E D β bj (U3.set s .dead) [] a w:=(S1.takeAll s).drop rfl;have v1:aC E D β bj ((U3.set s .dead).set t .dead) [] a w:=(o3.takeAll t).drop rfl
  obtain⟨S2,k⟩:=Oc (β':=β') (who':=who') (w':=w') (ln:=ln) (rn:=ps.flatMap (·.2.2)) (ns:=ab r++(ab o1++ab o2)) (im:=X4 r||(X4 o1||X4 o2)) v1 hf
   (fun n G=>⟨λe=>S1.dfn (e▸l1 n G),λJ a0=>by
     by_cases e2:J=t
     . subst e2;rw[qh]at a0;simp[ab,qi,qc]at a0
     . rw[qg _ _ e2]at a0;by_cases e:J=s
       . subst e;rw[qh]at a0;simp[ab,qi,qc]at a0
       . rw[qg _ _ e]at a0;rw[K]at G;rcases zX.1 G with G|G
         . exact e (S1.dis J s n a0 G)
         . exact e2 (S1.dis J t n a0 G)⟩) x0 r2 p7 p8 p9 w0
   (fun n G=>by
     rcases zX.1 G with h|h
     . exact p4 n (ld _ h)
     . rcases zX.1 h with h|h
       . exact p4 n (vB _ (q0 n h))
       . exact p4 n (vB _ (l0 n h))) m1 v0
  have x2:bR o1=true:=WI (zn.1 p6 _ d1) a3;have w2:bR o2=true:=WI (zn.1 p6 _ b1) z2
  have j2:bo β' who' w' o1 (a.tmps.getD s undef):=by
   obtain⟨_,_,_,_,q5⟩:=hlent i1 m3 s z1;have:=p2 i1 i3;rw[u0 i1 (by rw[<-hlen];exact m3),q5,t3]at this
   exact this
  have g2:bo β' who' w' o2 (a.tmps.getD t undef):=by
   obtain⟨_,_,_,_,q5⟩:=hlent i2 w1 t z0;have:=p2 i2 g3;rw[u0 i2 (by rw[<-hlen];exact w1),q5,s3]at this
   exact this
  have j0: ∀n,n∈ab o1\/n∈ab o2\/n∈ab r->n<16:=λn G=>by
   rcases G with h|h|h
   . exact p4 n (vB _ (q0 n h))
   . exact p4 n (vB _ (l0 n h))
   . exact p4 n (ld _ h)
  have hfreshσ: ∀m,m<16-> ∀t',fresh idx m∉ab (((U3.set s .dead).set t .dead).get t'):=λm hm t' ht=>hf m hm (v1.occ t' _ (qj ht))
  have hmemN: ∀x∈[(ren (fresh idx) o1,a.tmps.getD s undef),(ren (fresh idx) o2,a.tmps.getD t undef),(ren (fresh idx) r,c)],∀n∈ab x.1,∃m,m<16/\n=fresh idx m:=by
   intro x hx n G;simp only[zq,nA,or_false]at hx;rcases hx with rfl|rfl|rfl<;>(simp only[Qh,zk]at G;obtain⟨m,hm,rfl⟩:=G)
   . exact⟨m,j0 m (.inl hm),rfl⟩
   . exact⟨m,j0 m (.inr (.inl hm)),rfl⟩
   . exact⟨m,j0 m (.inr (.inr hm)),rfl⟩
  have S3:=S2.add (new:=[(ren (fresh idx) o1,a.tmps.getD s undef),(ren (fresh idx) o2,a.tmps.getD t undef),(ren (fresh idx) r,c)])
   (fun x hx=>by
     simp only[zq,nA,or_false]at hx;rcases hx with rfl|rfl|rfl
     . exact bo.ren x2 (k.mono (λn G=>vB _ (ld _ G)) λe=>by simp[e]) j2
     . exact bo.ren w2 (k.mono (λn G=>vB _ (vB _ G)) λe=>by simp[e]) g2
     . exact bo.ren p5 (k.mono (λn G=>ld _ G) λe=>by simp[e]) p1)
   (by
     simp only[fC,Bk,ls,Qh,<-List.map_append];exact Xe (λ_ _ _ _ h=>Yu h) j1)
   (fun x hx n G t' ht=>by
     obtain⟨m,hm,rfl⟩:=hmemN x hx n G;exact hfreshσ m hm t' ht)
   (fun x hx n G=>by
     have k3:bR x.1=true:=by
      simp only[zq,nA,or_false]at hx;rcases hx with rfl|rfl|rfl<;>rw[Xt]
      . exact x2
      . exact w2
      . exact p5
     rw[Jl k3]at G;obtain⟨m,hm,rfl⟩:=hmemN x hx n G;exact .inr ⟨m,hm,rfl⟩)
  have S4:=S3.putBack (by
   rw[qg _ _ k0,qh];rfl)
  have S5:=S4.putBack (by
   rw[qg _ _ (λe=>k0 e.symm),qh];rfl)
  refine hnext c w' _ _ (S5.ext λt'=> ?_)
  by_cases e2:t'=t
  . subst e2;rw[qh,qh]
  . rw[qg _ _ e2,qg _ _ e2];by_cases e:t'=s
    . subst e;rw[qh,qh]
    . rw[qg _ _ e,qg _ _ e,qg _ _ e2,qg _ _ e]
 . exact(aw.fail' h2).elim
end
def ba.flatW {who who':bh} {w w':World}: ∀{t:Ty} {x:aX t} {g g':Nat->Option Value} {j j':Nat},Yd t=false->(∀i,i<t.size->g' (j'+i)=g (j+i))->ba who w t x g j->ba who' w' t x g' j'
 | .int _,_,g,g',j,j',_,G,h=>by{have:=G 0 (by simp[Ty.size]);exact this.trans h}
 | .bool,_,g,g',j,j',_,G,h=>by{have:=G 0 (by simp[Ty.size]);exact this.trans h}
 | .pr a b,_,g,g',j,j',J,G,h=>by{simp only[Yd,RT]at J;refine⟨ba.flatW J.1 (λi K=>G i (by simp only[Ty.size];omega)) h.1,ba.flatW J.2 (λi K=> ?_) h.2⟩;have:=G (a.size+i) (by simp only[Ty.size];omega);grind}
 | .sl _ t,xs,g,g',j,j',J,G,h=>by cases J
def qkg {α:Type} {xs ys:List α} {off len:Nat} (J:ys.length=len) (h:off+len<=xs.length) {i:Nat} (K:i<(xs.take off++(ys++xs.drop (off+len))).length):
 (∀(_:i<off) (h2:i<xs.length),(xs.take off++(ys++xs.drop (off+len)))[i]=xs[i])/\
 (∀(G:off<=i) (h2:i-off<ys.length),(xs.take off++(ys++xs.drop (off+len)))[i]=ys[i-off])/\
 (∀(G:off+len<=i) (h2:i<xs.length),(xs.take off++(ys++xs.drop (off+len)))[i]=xs[i]):=by grind
section
variable {P:Program} {CO:Q8} {T:TT} {E:a8} {D:Nat->Prop} {β β':aR} {who who':bh} {U U':ao} {hd:List (AV×Value)} {a:Act} {w w':World} {R W:List Nat}
end
section
variable {P:Program} {CO:Q8} {T:TT} {E:a8} {D:Nat->Prop} {β β':aR} {who who':bh} {U U':ao} {hd:List (AV×Value)} {a:Act} {w w':World} {R W:List Nat}
def qk8 (hT:bG P T) (hC: ∀f as r os,CO f as r os->Ya P f as r os) (c4:E.prog=P) {idx kp f:Nat} {o:Oper} {args:List Operand} {a3:List TypeId} {v:AV}
 (h:aw CO (Un T idx kp f args a3) U v U' R W) (S:aC E D β who U [] a w) (hf: ∀k,k<16-> ¬D (fresh idx k))
 (f3:execOp a.eval o=callFunc f (args.map a.eval).toArray):wP P E D idx U' v o a w:=by
 intro next Q hnext
 unfold Un at h;split at h
 case h_2=>exact(aw.fail' h).elim
 rename_i x s0;obtain⟨j2,s0⟩:=List.getElem?_eq_some_iff.1 s0;obtain⟨ps,U1,_,_,_,_,h1,h2⟩:=aw.bind' h;obtain⟨_,bj,_,S1,hlen,hargs⟩:=aw.passAll hT h1 S;split at h2
 case h_2=>exact(aw.fail' h2).elim
 rename_i hl;obtain⟨rv,U2,_,_,_,_,h3,h4⟩:=aw.bind' h2;obtain⟨rfl,Sr⟩:=aw.rd h3 S1;have hx:=Sr.hrel _ mS;split at h4
 case h_2=>exact(aw.fail' h4).elim
 rename_i s n sz off len;obtain⟨av,U3,_,_,_,_,h5,h6⟩:=aw.bind' h4;obtain⟨rfl,rfl⟩:=aw.mget' h5;split at h6
 case h_2=>exact(aw.fail' h6).elim
 rename_i m t xs hg;split at h6
 case isFalse=>exact(aw.fail' h6).elim
 rename_i m2;obtain⟨rfl,rfl,hflat,k3⟩:=m2;obtain⟨_,U4,_,_,_,_,h7,h8⟩:=aw.bind' h6;obtain⟨u0,rfl⟩:=aw.mask' h7;obtain⟨⟨r,os⟩,U5,_,_,_,_,h9,c0⟩:=aw.bind' h8;obtain⟨t3,rfl⟩:=aw.mcall' h9;obtain⟨s3,hcall⟩:=hC _ _ _ _ t3;dsimp only at c0;split at c0
 case h_2=>exact(aw.fail' c0).elim
 rename_i t' ys v1;split at c0
 case isFalse=>exact(aw.fail' c0).elim
 rename_i ht;subst ht;split at c0
 . exact(aw.fail' c0).elim
 rename_i w0;obtain⟨_,U6,_,_,_,_,f4,d4⟩:=aw.bind' c0;obtain⟨g4,g0,rfl⟩:=aw.mupd' f4;rw[hg]at g0
 have u2:g4= .sl (.nm m) t' (xs.take off++(ys++xs.drop (off+len))):=by
  simp[eX,eS]at g0;exact g0.symm
 subst u2;obtain⟨rfl,rfl⟩:=aw.pure' d4
 have s1: ∀p∈ps,Fg U5 p:=λp hp=>by
  obtain⟨i,hi,rfl⟩:=nz hp;exact(hargs i hi (by rw[<-hlen];exact hi)).passOK λs e=>by have:=Y6 hp e;rw[hl]at this;cases this
 have hnoref:=TF s1;have v0:(ps.map (·.1)).flatMap ab=[]:=by rw[TC s1,hl];rfl
 have r1: ∀n∈ps.flatMap (·.2.2),n≠FN:=λn K=>by
  obtain⟨p,hp,K⟩:=zN.1 K;obtain⟨i,hi,rfl⟩:=nz hp;have ha:=hargs i hi (by rw[<-hlen];exact hi)
  generalize ps[i]=p at*
  obtain⟨av,l,rn⟩:=p;cases l with
  |none=>exact ha.2.2.2 n K
  |some s=>have e:rn=[]:=ha.1;subst e;cases K
 have r3:X4 r=true->ps.flatMap (·.2.2)=[]:=λhi=>by
  simp only[hi,Bh,Bool.not_eq_true']at w0;simpa using w0
 have l3:ps.length+1=args.length:=by rw[hlen];simp;omega
 have j1: ∀n'∈ps.flatMap (·.2.2),n'∉[m]:=λn' b1 hc=>by
  obtain rfl:=zC.1 hc;have:=wS.2 b1;rw[k3]at this;cases this
 have hpure: ∀(βc:aR),∀i (hi:i<ps.length),bo βc (whoC bj [m] (ps.flatMap (·.2.2))) w ps[i].1 (a.eval ((args.take kp++args.drop (kp+1))[i]'(by rw[<-hlen];exact hi))):=λβc i hi=>by
  have i2:ps[i].2.1=none:=by
   cases e:ps[i].2.1 with
   |none=>rfl
   |some s=>have:=Y6 (zW hi) e;rw[hl]at this;cases this
  have ha:=hargs i hi (by rw[<-hlen];exact hi)
  have t0: ∀n∈ps[i].2.2,n∈ps.flatMap (·.2.2):=λn K=>zN.2 ⟨_,zW hi,K⟩
  generalize ps[i]=p at*
  obtain⟨av,l,rn⟩:=p;simp only at i2;subst i2;refine ha.1 βc _ ⟨λb J=>by simp[whoC,J],λb n J K=> ?_⟩
  simp[whoC,J,j1 n (t0 n K),t0 n K]
 have d0:=S1.rel s;rw[hg]at d0;obtain⟨hβ,d0⟩:=(d0:cr β bj w m t' xs (a.tmps.getD s undef));obtain⟨A,L,cap,A',t2,b4,a4,y3,-,x3⟩:=(hx:wV (β m) t'.size (some (off,len)) (a.eval x))
 obtain⟨b,o',G,arr,el,e1,e2,e3,e4,e5,e6⟩: ∃b o cap arr el,a.tmps.getD s undef= .slice (some ⟨b,o,none⟩) xs.length cap/\w.heap[b]? =some (.cells arr el (0,0))/\o+cap*t'.size<=arr.size/\
  xs.length<=cap/\bj b=some m/\aT bj w t' xs b o:=by
  rcases d0 with⟨q1,q2⟩|q
  . rw[q2]at u0;cases u0
  . exact q
 have w3:β m= .slice (some ⟨b,o',none⟩) xs.length G:=by rw[<-hβ];exact e1
 rw[w3]at t2;injection t2 with hA hL s2
 subst hL s2 hA;obtain⟨o2,i3,ho2l⟩:=x3 b o' rfl;subst i3;have hv:a.eval x= .slice (some ⟨b,o2,none⟩) len (G-off):=a4
 have ho2e:off<G->o2=o'+off*t'.size:=λj0=>by
  have:=y3 j0;simp[bH]at this;exact this
 have z0:((xs.drop off).take len).length=len:=by rw[zU,ix];omega
 have hmul:o2+(G-off)*t'.size<=arr.size:=by
  by_cases j0:off<G
  . have:off*t'.size+(G-off)*t'.size=G*t'.size:=by rw[<-Nat.add_mul];congr 1;omega
    have:=ho2e j0;omega
  . rw[show G-off=0 by omega,Be];omega
 let βc:aR:=λk=>if k=98 then .agg arr else a.eval x
 have hcnone: ∀b,bj b=none->whoC bj [m] (ps.flatMap (·.2.2)) b=none:=λb J=>by simp[whoC,J]
 have u3:whoC bj [m] (ps.flatMap (·.2.2)) b=some 0:=by simp[whoC,e5,aY]
 have m1:bo βc (whoC bj [m] (ps.flatMap (·.2.2))) w (.wn 0 t' ((xs.drop off).take len)) (a.eval x):=by
  refine⟨⟨rfl,.inr ⟨b,o2,G-off,arr,el,by rw[z0];exact hv,e2,hmul,O,u3,λi hi=> ?_⟩⟩,arr,rfl,λb2 o3 L2 w2 l0 l1 q1 q2=> ?_⟩
  . rw[z0]at hi;have i1:off+i<xs.length:=O;have:=e6 (off+i) i1;have ge:((xs.drop off).take len)[i]'(by rw[z0];exact hi)=xs[off+i]:=by rw[IE,ID]
    rw[ge];refine ba.flatW hflat (λj hj=> ?_) this
    rw[show o2+i*t'.size=o'+(off+i)*t'.size by rw[ho2e O,fT];omega]
  . rw[hv]at q1;injection q1 with q1 _ _
    injection q1 with q1
    injection q1 with q1 _ _
    subst q1;rw[e2]at q2;injection q2 with q2
    injection q2 with q2 _ _
    subst q2;exact⟨rfl,λ_ _=>rfl⟩
 have w1: ∀l:List AV,l.flatMap ab=[]->(l.take kp).flatMap ab=[]/\(l.drop kp).flatMap ab=[]:=λl hl=>by
  rw[<-List.take_append_drop kp l,xa,List.append_eq_nil_iff]at hl;exact hl
 have d1:kp<=(ps.map (·.1)).length:=by simp;omega
 have hnames:((ps.map (·.1)).take kp++AV.wn 0 t' ((xs.drop off).take len)::(ps.map (·.1)).drop kp).flatMap ab=[0]:=by
  rw[xa,fC,(w1 _ v0).1,(w1 _ v0).2];rfl
 have r2: ∀j (hj:j<args.length),(args.map a.eval).toArray.getD j undef=a.eval args[j]:=λj hj=>by simp[Array.getD,hj]
 have hcalls:=hcall βc (whoC bj [m] (ps.flatMap (·.2.2))) w (args.map a.eval).toArray (by simp;omega) (λj hj=>by
  have n3:j<args.length:=by simp at hj;omega
  rw[r2 j n3];by_cases c1:j<kp
  . have e1:((ps.map (·.1)).take kp++AV.wn 0 t' ((xs.drop off).take len)::(ps.map (·.1)).drop kp)[j]=ps[j].1:=by
     rw[xf (by simp;omega),IE,pH]
    have e2:(args.take kp++args.drop (kp+1))[j]'(by rw[<-hlen];omega)=args[j]:=by
     rw[xf (by simp;omega),IE]
    rw[e1,<-e2];exact hpure βc j O
  . by_cases c2:j=kp
    . subst c2
      have e1:((ps.map (·.1)).take j++AV.wn 0 t' ((xs.drop off).take len)::(ps.map (·.1)).drop j)[j]=AV.wn 0 t' ((xs.drop off).take len):=by
       have k2:j<=ps.length:=by simpa using d1
       rw[ur (by simp;omega)]
       simp[zU,LH k2]
      rw[e1,s0];exact m1
    . have m3:j-1<ps.length:=O
      have e1:((ps.map (·.1)).take kp++AV.wn 0 t' ((xs.drop off).take len)::(ps.map (·.1)).drop kp)[j]=ps[j-1].1:=by
       rw[ur (by simp;omega)]
       rw[List.getElem_cons];rw[dif_neg (by simp;omega),ID,pH]
       congr 2;simp at d1;simp[LH d1];omega
      have e2:(args.take kp++args.drop (kp+1))[j-1]'(by rw[<-hlen];omega)=args[j]:=by
       rw[ur (by simp;omega),ID]
       congr 1;simp[LH (uu j2)];omega
      rw[e1,<-e2];exact hpure βc (j-1) m3) (by rw[hnames];simp) (by rw[hnames];simp) (by
  have r0:=Mi hnoref;rw[<-List.take_append_drop kp (ps.map (·.1)),List.all_append]at r0
  simp only[zM]at r0;rw[List.all_append,AU,r0.1,r0.2];rfl)
  (fun b n J=>by
    rw[hnames];simp only[whoC]at J;split at J
    . cases J
    . rename_i n' b1;refine⟨S1.wsz b n' b1,?_⟩;split at J
      . rename_i q3;obtain rfl:=zC.1 q3;injection J with J
        exact .inl (by rw[<-J];simp[aY])
      . split at J
        . cases J
        . injection J with J;exact .inr J.symm)
 unfold Oper.wp;rw[f3,N6 s3,Oper.upon_enter];refine Calls.mono (hcalls ((c4▸S1.glob:cE P bj w).whoC (λb h=>by simp[whoC,h]))) λe w' hp=> ?_
 obtain⟨c,β',who',rfl,p0,p1,p2,p3,p4,p5,p6,p7,p8,p9,c3,b3⟩:=hp;obtain⟨i1,u1⟩:=List.getElem?_eq_some_iff.1 v1;have e0:=p2 kp i1;rw[r2 kp j2,s0,u1]at e0;have t1:AV.wn 0 t' ys∈os:=List.mem_of_getElem? v1;obtain⟨f2,k4⟩:=Zm p3 t1;have h0r:0∉ab r:=λh0=>(zS.1 f2).2.2 0 (by simp[ab,qi,qc]) 0 h0 rfl
 have d2:=(zS.1 f2).2.1;obtain⟨⟨y0,e0⟩,x2,y1,y2⟩:=(e0:cr β' who' w' 0 t' ys (a.eval x)/\ET (β' 98) w' t'.size (a.eval x))
 obtain⟨b2,o3,w2,l0,l1,z1,z2,z3,z4,z5,z6⟩: ∃b o cap arr el,a.eval x= .slice (some ⟨b,o,none⟩) ys.length cap/\w'.heap[b]? =some (.cells arr el (0,0))/\o+cap*t'.size<=arr.size/\
  ys.length<=cap/\who' b=some 0/\aT who' w' t' ys b o:=by
  rcases e0 with⟨q1,q2⟩|q
  . rw[hv]at q1;cases q1
  . exact q
 have x0:ys.length=len/\b2=b/\o2=o3:=by
  rw[hv]at z1;injection z1 with z1 zl _
  injection z1 with z1
  injection z1 with zb zo _
  exact⟨zl.symm,zb.symm,zo⟩
 obtain⟨x0,rfl,rfl⟩:=x0;rw[p0]at y1
 have v2:x2=arr:=by
  have:βc 98= .agg arr:=iP rfl;rw[this]at y1;injection y1 with y1
  exact y1.symm
 subst v2;obtain⟨i4,a1⟩:=y2 b2 _ _ _ l0 l1 hv z2;have k1:aC E D β bj (U5.set s .dead) [] a w:=(S1.takeAll s).drop rfl;have i0:D m:=S1.occ s m (by rw[hg];simp[Vs.occ,aZ,aL])
 obtain⟨S2,kk⟩:=Oc (β':=λk=>if k=0 then β m else β' k) (who':=who') (w':=w') (ln:=[m]) (rn:=ps.flatMap (·.2.2)) (ns:=ab r++[0]) (im:=X4 r) k1 hf
  (fun n K=>by
    obtain rfl:=zC.1 K;refine⟨λe=>S1.dfn (e▸i0),λs' q0=> ?_⟩
    by_cases e:s'=s
    . subst e;rw[qh]at q0;simp[ab,qi,qc]at q0
    . rw[qg _ _ e]at q0;exact e (S1.dis s' s n q0 (by rw[hg];simp[ab,qi,qc]))) r1 (by simp) p7 p8 p9 c3
  (fun n K=>by
    rcases zX.1 K with h|h
    . exact p4 n (ld _ h)
    . obtain rfl:=zC.1 h;omega) r3 b3
 generalize hβ2:gz β (λk=>if k=0 then β m else β' k) idx=β2 at*
 generalize l4:bK bj who' idx [m] (ab r++[0])=b0 at*
 have f1: ∀n,D n-> ¬(fresh idx 0<=n/\n<=fresh idx 15):=λn K ⟨h1,h2⟩=>by
  refine hf (n-fresh idx 0) (by simp only[fresh]at*;omega) ?_
  rwa [show fresh idx (n-fresh idx 0)=n by simp only[fresh]at*;omega]
 have v3:β2 m=β m:=by rw[<-hβ2];simp only[gz];rw[af (f1 m i0)]
 have h0D: ¬D (fresh idx 0):=hf 0 O;have h0m:fresh idx 0≠m:=λe=>h0D (e▸i0)
 have h0F:fresh idx 0≠FN:=by simp only[fresh,FN];omega
 have d3:b0 b2=some (fresh idx 0):=kk.own 0 (by simp) b2 z5
 let a0:bh:=λb'=>if b0 b'=some (fresh idx 0)then some m else b0 b'
 have h3q: ∀b',b0 b'=some (fresh idx 0)->a0 b'=some m:=λb' g=>iP g
 have h3n: ∀b',b0 b'≠some (fresh idx 0)->a0 b'=b0 b':=λb' g=>af g
 have h3none: ∀b',b0 b'=none->a0 b'=none:=λb' J=>by rw[h3n b' (by rw[J];simp)];exact J
 have h0S: ∀s',fresh idx 0∉ab ((U5.set s .dead).get s'):=λs' hs=>h0D (k1.occ s' _ (qj hs))
 have Sh:aC E (Dn D idx) β2 a0 (U5.set s .dead) [] a w':=by
  refine S2.shift (X:=[fresh idx 0]) (by simpa using λe=>h0F e.symm) (λ_ _=>rfl)
   (fun b' x J hx=>⟨by
     rw[h3n b' (by rw[J];intro e;injection e with e;exact hx (by simp[e]))];exact J,rfl⟩)
   (fun b' J=>⟨h3none b' J,rfl⟩) (λb' x J=>by
     by_cases g:b0 b'=some (fresh idx 0)
     . exact⟨_,g⟩
     . rw[h3n b' g]at J;exact⟨_,J⟩) rfl (λs' x hx hs=>by
     obtain rfl:=zC.1 hx;exact absurd hs (h0S s')) (λz hz=>by cases hz) ⟨rfl,rfl⟩
 have hcell: ∀j i,(j+i<o2\/o2+len*t'.size<=j+i)->ay w' b2 j i=ay w b2 j i:=λj i hj=>by
  simp only[ay,World.cell?,z2,e2];exact a1 (j+i) hj
 have m0:(xs.take off++(ys++xs.drop (off+len))).length=xs.length:=by
  rw[zG,zG,zU,ix];omega
 have a2:bo β2 a0 w' (.sl (.nm m) t' (xs.take off++(ys++xs.drop (off+len)))) (a.tmps.getD s undef):=by
  refine⟨by rw[v3];exact hβ,.inr ⟨b2,o',G,l0,l1,by rw[m0];exact e1,z2,O,by rw[m0];exact e4,h3q b2 d3,λi hi=> ?_⟩⟩
  rw[m0]at hi;obtain⟨g1,g2,g3⟩:=qkg (xs:=xs) (ys:=ys) (off:=off) (len:=len) x0 b4 (i:=i) (by rw[m0];exact hi)
  have k0:len=0\/o2=o'+off*t'.size:=by
   by_cases j0:off<G
   . exact .inr (ho2e j0)
   . exact .inl O
  by_cases c1:i<off
  . rw[g1 c1 hi];refine ba.flatW hflat (λj hj=> ?_) (e6 i hi)
    refine hcell _ _ ?_;have:(i+1)*t'.size<=off*t'.size:=zO _ O;rw[MI]at this;rcases k0 with z|z
    . rw[z,Be];omega
    . omega
  . by_cases c2:i<off+len
    . rw[g2 O O];refine ba.flatW hflat (λj hj=> ?_) (z6 (i-off) O)
      rw[show o2+(i-off)*t'.size=o'+i*t'.size by
       have:off*t'.size+(i-off)*t'.size=i*t'.size:=by rw[<-Nat.add_mul];congr 1;omega
       have:=ho2e O;omega]
    . rw[g3 O hi];refine ba.flatW hflat (λj hj=> ?_) (e6 i hi)
      refine hcell _ _ ?_;have:(off+len)*t'.size<=i*t'.size:=zO _ O;rw[fT]at this;rcases k0 with z|z
      . rw[z,Be];omega
      . omega
 have kr:fI β' who' w' β2 a0 (fresh idx) (ab r) (X4 r):=
  ⟨fun n K=>by
    have:=kk.beta n (ld _ K);rw[this];exact af (λe=>by rw[e]at K;exact h0r K),λn K b J=>by
    have:=kk.own n (ld _ K) b J
    rw[h3n b (by
     rw[this];intro e;injection e with e
     have:=Yu e;exact h0r (this▸K))]
    exact this,λhi b J hl=>h3none b (kk.imm hi b J hl)⟩
 have S4:=Sh.recast (s:=s) (v:= .sl (.nm m) t' (xs.take off++(ys++xs.drop (off+len)))) (qh ..) a2 (by simp[ab,qi,qc])
  (fun x hx s' hs=>by
    have:x=m:=by simpa [ab,qi,qc]using hx
    subst this;by_cases e:s'=s
    . subst e;rw[qh]at hs;simp[ab,qi,qc]at hs
    . rw[qg _ _ e]at hs;exact e (S1.dis s' s _ hs (by rw[hg];simp[ab,qi,qc])))
  (fun x hx=>by
    have:x=m:=by simpa [Vs.occ,aZ,aL]using hx
    subst this;exact .inl i0)
 have S5:=S4.add (new:=[(ren (fresh idx) r,c)])
  (fun y hy=>by
    obtain rfl:=zC.1 hy;exact bo.ren p5 kr p1)
  (by
    simp only[fC,Bk,ls,Qh];exact Xe (λ_ _ _ _ h=>Yu h) d2)
  (fun y hy n K s' hs=>by
    obtain rfl:=zC.1 hy;simp only[Qh,zk]at K;obtain⟨k,hk,rfl⟩:=K;have l2:=hf k (p4 k (ld _ hk));by_cases e:s'=s
    . subst e;rw[qh]at hs;have:fresh idx k=m:=by simpa [ab,qi,qc]using hs
      exact l2 (this▸i0)
    . rw[qg _ _ e]at hs;exact l2 (k1.occ s' _ (qj hs)))
  (fun y hy n K=>by
    obtain rfl:=zC.1 hy;rw[Jl (by rw[Xt];exact p5),Qh,zk]at K
    obtain⟨k,hk,rfl⟩:=K;exact .inr ⟨k,p4 k (ld _ hk),rfl⟩)
 refine hnext c w' _ _ (S5.ext λt=> ?_)
 by_cases e:t=s
 . subst e;rw[qh,qh]
 . rw[qg _ _ e,qg _ _ e,qg _ _ e]
end
section
variable {P:Program} {CO:Q8} {T:TT} {E:a8} {D:Nat->Prop} {β β':aR} {who who':bh} {U U':ao} {hd:List (AV×Value)} {a:Act} {w w':World} {R W:List Nat}
def qo6 (hT:bG P T) (hC: ∀f as r os,CO f as r os->Ya P f as r os) (v3:E.prog=P) {idx f:Nat} {o:Oper} {args:List Operand} {r2:List TypeId} {v:AV}
 (h:aw CO (xv T idx f args r2) U v U' R W) (S:aC E D β who U [] a w) (hf: ∀k,k<16-> ¬D (fresh idx k))
 (d3:execOp a.eval o=callFunc f (args.map a.eval).toArray):wP P E D idx U' v o a w:=by
 classical
 intro next Q hnext
 unfold xv at h;split at h
 case h_2=>exact(aw.fail' h).elim
 rename_i x rest ty d4;obtain⟨ps,U1,_,_,_,_,h1,h2⟩:=aw.bind' h;obtain⟨_,bj,_,S1,hlen,hargs⟩:=aw.passAll hT h1 S;split at h2
 case h_2=>exact(aw.fail' h2).elim
 rename_i hl;obtain⟨rv,U2,_,_,_,_,h3,h4⟩:=aw.bind' h2;obtain⟨rfl,Sr⟩:=aw.rd h3 S1;have hx:=Sr.hrel _ mS;split at h4
 case h_2=>exact(aw.fail' h4).elim
 rename_i s n i;obtain⟨av,U3,_,_,_,_,h5,h6⟩:=aw.bind' h4;obtain⟨rfl,rfl⟩:=aw.mget' h5;split at h6
 case h_2=>exact(aw.fail' h6).elim
 rename_i m t xs hg;split at h6
 case isFalse=>exact(aw.fail' h6).elim
 rename_i j2;obtain⟨rfl,r0,b1⟩:=j2;obtain⟨⟨r,os⟩,U5,_,_,_,_,h9,j0⟩:=aw.bind' h6;obtain⟨r3,rfl⟩:=aw.mcall' h9;obtain⟨q3,hcall⟩:=hC _ _ _ _ r3;dsimp only at j0;split at j0
 case h_2=>exact(aw.fail' j0).elim
 rename_i q t' ys i4;split at j0
 case isFalse=>exact(aw.fail' j0).elim
 rename_i ht;subst ht;split at j0
 . exact(aw.fail' j0).elim
 rename_i a1;obtain⟨_,U6,_,_,_,_,b4,a4⟩:=aw.bind' j0;have:=aw.mset' b4;subst this;obtain⟨rfl,rfl⟩:=aw.pure' a4
 have w1: ∀p∈ps,Fg U5 p:=λp hp=>by
  obtain⟨i,hi,rfl⟩:=nz hp;exact(hargs i hi (by rw[<-hlen];exact hi)).passOK λs e=>by have:=Y6 hp e;rw[hl]at this;cases this
 have hnoref:=TF w1;have y1:(ps.map (·.1)).flatMap ab=[]:=by rw[TC w1,hl];rfl
 have u1: ∀n∈ps.flatMap (·.2.2),n≠FN:=λn hn=>by
  obtain⟨p,hp,hn⟩:=zN.1 hn;obtain⟨i,hi,rfl⟩:=nz hp;have ha:=hargs i hi (by rw[<-hlen];exact hi)
  generalize ps[i]=p at*
  obtain⟨av,l,rn⟩:=p;cases l with
  |none=>exact ha.2.2.2 n hn
  |some s=>have e:rn=[]:=ha.1;subst e;cases hn
 have o3:(X4 r||Yd t')=true->ps.flatMap (·.2.2)=[]:=λhi=>by
  simp only[hi,Bh,Bool.not_eq_true']at a1;simpa using a1
 generalize x2:ps.flatMap (·.2.2)=rn at*
 have c2:m∉rn:=λh=>by have:=wS.2 h;rw[r0]at this;cases this
 have h15r:fresh idx 15∉rn:=λh=>by have:=wS.2 h;rw[b1]at this;cases this
 have m0:D m:=S1.occ s m (by rw[hg];simp[Vs.occ,aZ,aL])
 have l3:m≠FN:=λe=>S1.dfn (e▸m0)
 have h15D: ¬D (fresh idx 15):=hf 15 O;have h15m:fresh idx 15≠m:=λe=>h15D (e▸m0)
 have h15F:fresh idx 15≠FN:=by simp only[fresh,FN];omega
 have i2:=S1.dp hg;obtain⟨q0,-,a0,L0,c0,r1,l0⟩:=(hx:jF (β m) (.row i) (a.eval x));replace q0:a.eval x=c9 (β m) (i+1):=q0;obtain⟨o4,f4,s3⟩:=i2.base;rw[s3]at r1;injection r1 with _ hL _
 subst hL;obtain⟨d1,b0,o0,cap,arr,el,e1,e2,e3,e4,e5,e6,e7⟩:=i2.pos (.inr (Qe l0));have v2:xs.getD i []=xs[i]:=by simp[List.getD,List.getElem?_eq_getElem l0]
 rw[v2]at hcall
 let G:Nat->Prop:=λb'=> ∃oi li ci,c9 (β m) (i+1)= .slice (some ⟨b',oi,none⟩) li ci
 have hG: ∀b',G b'->bj b'=some m/\b'≠b0:=by
  rintro b' ⟨oi,li,ci,x0⟩
  rcases(e6 i l0 (by simp)).2 with⟨q,_⟩|⟨bi,t2,c4,ar,l,k1,k2,k3,k4,k5,k6,k7⟩
  . rw[q]at x0;cases x0
  . grind
 let d0:bh:=λb'=>if G b' then some (fresh idx 15)else bj b'
 have l2: ∀b',G b'->d0 b'=some (fresh idx 15):=λb' g=>iP g
 have k0: ∀b',¬G b'->d0 b'=bj b':=λb' g=>af g
 have hRnone: ∀b',bj b'=none->d0 b'=none:=λb' J=>by
  rw[k0 b' (λg=>by rw[(hG b' g).1]at J;cases J)];exact J
 have hRnone': ∀b',d0 b'=none->bj b'=none:=λb' J=>by
  by_cases g:G b'
  . rw[l2 b' g]at J;cases J
  . rw[k0 b' g]at J;exact J
 have t0:aC E D β d0 (U5.set s .dead) [] a w:=by
  refine((S1.takeAll s).drop rfl).shift (X:=[m]) (by simpa using λe=>l3 e.symm) (λ_ _=>rfl)
   (fun b' x J hx=>⟨by
     rw[k0 b' (λg=>by
      rw[(hG b' g).1]at J;injection J with J;exact hx (by simp[J]))];exact J,rfl⟩)
   (fun b' J=>⟨hRnone b' J,rfl⟩) (λb' x J=>by
     by_cases g:G b'
     . exact⟨_,(hG b' g).1⟩
     . rw[k0 b' g]at J;exact⟨_,J⟩) rfl (λs' x hx hs=>by
     obtain rfl:=zC.1 hx;by_cases e:s'=s
     . subst e;rw[qh]at hs;simp[ab,qi,qc]at hs
     . rw[qg _ _ e]at hs;exact absurd (S1.dis s' s _ hs (by rw[hg];simp[ab,qi,qc])) e) (λz hz=>by cases hz) ⟨rfl,rfl⟩
 let K:bh:=whoC d0 [fresh idx 15] rn
 have u3: ∀b',G b'->K b'=some 0:=λb' g=>by simp[K,whoC,l2 b' g,aY]
 have hKnone: ∀b',bj b'=none->K b'=none:=λb' J=>by simp[K,whoC,hRnone b' J]
 have t3: ∀b',bj b'=some m-> ¬G b'->K b'=some FN:=λb' J g=>by
  have: ¬(m=fresh idx 15):=λe=>h15m e.symm
  simp[K,whoC,k0 b' g,J,this,c2]
 let βc:aR:=λ_=>a.eval x
 have hpure: ∀i (hi:i<ps.length),bo βc K w ps[i].1 (a.eval (rest[i]'(by rw[<-hlen];exact hi))):=λi hi=>by
  have d2:ps[i].2.1=none:=by
   cases e:ps[i].2.1 with
   |none=>rfl
   |some s=>have:=Y6 (zW hi) e;rw[hl]at this;cases this
  have ha:=hargs i hi (by rw[<-hlen];exact hi)
  have s1: ∀n∈ps[i].2.2,n∈rn:=λn hn=>x2▸zN.2 ⟨_,zW hi,hn⟩
  generalize ps[i]=p at*
  obtain⟨av,l,g4⟩:=p;simp only at d2;subst d2;refine ha.1 βc _ ⟨λb J=>hKnone b J,λb n J hn=> ?_⟩
  have r0:=s1 n hn;have g: ¬G b:=λg=>by rw[(hG b g).1]at J;injection J with J;exact c2 (J▸r0)
  have u2: ¬(n=fresh idx 15):=λe=>h15r (e▸r0)
  simp[K,whoC,k0 b g,J,u2,r0]
 have y3: ∀(zs:List (aX t')) b o,aT bj w t' zs b o->aT K w t' zs b o:=λzs b o he=>
  he.keep (λb' J _=>⟨hKnone b' J,rfl⟩) (zJ _) rfl
 have t1:bo βc K w (.sl (.nm 0) t' xs[i]) (a.eval x):=by
  refine⟨rfl,?_⟩;rw[q0];rcases(e6 i l0 (by simp)).2 with⟨q1,q2⟩|⟨bi,oi,ci,ar,l,k1,k2,k3,k4,k5,k6,k7⟩
  . exact .inl ⟨q1,q2⟩
  . exact .inr ⟨bi,oi,ci,ar,l,k1,k2,k3,k4,u3 bi ⟨_,_,_,k1⟩,y3 _ _ _ k7⟩
 have hnames:(AV.sl (.nm 0) t' xs[i]::ps.map (·.1)).flatMap ab=[0]:=by rw[fC,y1];rfl
 have hcalls:=hcall βc K w ((x::rest).map a.eval).toArray (by simp[hlen]) (λj hj=>by
  cases j with
  |zero=>exact t1
  |succ j=>
   have s0:j<ps.length:=by simpa using hj
   have m3:j<rest.length:=by rw[<-hlen];exact s0
   have q1:((x::rest).map a.eval).toArray.getD (j+1) undef=a.eval rest[j]:=by simp[Array.getD,m3]
   rw[q1,List.getElem_cons_succ,pH];exact hpure j s0) (by rw[hnames];simp) (by rw[hnames];simp) (by
  rw[AU,Mi hnoref];rfl)
  (fun b n J=>by
    rw[hnames];simp only[K,whoC]at J;split at J
    . cases J
    . rename_i n' i3;refine⟨t0.wsz b n' i3,?_⟩;split at J
      . rename_i n3;obtain rfl:=zC.1 n3;injection J with J
        exact .inl (by rw[<-J];simp[aY])
      . split at J
        . cases J
        . injection J with J;exact .inr J.symm)
 unfold Oper.wp;rw[d3,N6 q3,Oper.upon_enter];refine Calls.mono (hcalls ((v3▸S1.glob:cE P bj w).whoC (λb h=>hKnone b h))) λe w' hp=> ?_
 obtain⟨c,β',who',rfl,p0,p1,p2,p3,p4,p5,p6,p7,p8,p9,l1,s2⟩:=hp;have h0:=p2 0 (by simp)
 have q1:((x::rest).map a.eval).toArray.getD 0 undef=a.eval x:=by simp[Array.getD]
 rw[q1]at h0;obtain⟨y0,h0⟩:=(h0:cr β' who' w' q t' ys (a.eval x));have z0:q<16:=p4 q (vB _ (by simp[ab,qi,qc]))
 have y2:q∉ab r:=λhq=>by
  have:=(zS.1 p3).2.2 q hq q (by simp[ab,qi,qc])
  exact this rfl
 have g3:=(zS.1 p3).1
 obtain⟨S2,kk⟩:=Oc (β':=β') (who':=who') (w':=w') (ln:=[fresh idx 15]) (rn:=rn) (ns:=ab r++[q]) (im:=X4 r||Yd t') t0 hf
  (fun n hn=>by
    obtain rfl:=zC.1 hn;exact⟨h15F,λs' w2=>h15D (t0.occ s' _ (qj w2))⟩) u1 (by simp) p7 p8 p9 l1
  (fun n hn=>by
    rcases zX.1 hn with h|h
    . exact p4 n (ld _ h)
    . obtain rfl:=zC.1 h;exact z0) o3 s2
 have i1: ∀n,D n-> ¬(fresh idx 0<=n/\n<=fresh idx 15):=λn hn ⟨h1,h2⟩=>by
  refine hf (n-fresh idx 0) (by simp only[fresh]at*;omega) ?_
  rwa [show fresh idx (n-fresh idx 0)=n by simp only[fresh]at*;omega]
 have hβm:gz β β' idx m=β m:=by simp only[gz];rw[af (i1 m m0)]
 have hw2m: ∀b',bj b'=some m-> ¬G b'->bK d0 who' idx [fresh idx 15] (ab r++[q]) b'=some m/\w'.heap[b']? =w.heap[b']? :=λb' J g=>by
  have hk:=t3 b' J g;refine⟨?_,p7 b' (S1.wsz b' m J) (.inr hk)⟩;simp only[bK,l1 b' hk];rw[iP trivial,k0 b' g,J]
 have hw2none: ∀b',bj b'=none->b'<w.heap.size->bK d0 who' idx [fresh idx 15] (ab r++[q]) b'=none/\w'.heap[b']? =w.heap[b']? :=λb' J w0=>by
  have hk:=hKnone b' J;refine⟨?_,p7 b' w0 (.inl hk)⟩
  have:who' b'=none:=by
   cases e:who' b' with
   |none=>rfl
   |some n=>
    rcases(p8 b' n e).2 with h|h
    . exact absurd hk h
    . omega
  simp only[bK,this,hRnone b' J]
 generalize hβ2:gz β β' idx=β2 at*
 have hw2q: ∀b',who' b'=some q->bK d0 who' idx [fresh idx 15] (ab r++[q]) b'=some (fresh idx q):=λb' J=>kk.own q (by simp) b' J
 generalize n4:bK d0 who' idx [fresh idx 15] (ab r++[q])=i0 at*
 have v1: ¬D (fresh idx q):=hf q z0;have a3:fresh idx q≠m:=λe=>v1 (e▸m0)
 have c3:fresh idx q≠FN:=by simp only[fresh,FN];omega
 let e0:bh:=λb'=>if i0 b'=some (fresh idx q)then some m else i0 b'
 have h3q: ∀b',i0 b'=some (fresh idx q)->e0 b'=some m:=λb' g=>iP g
 have h3n: ∀b',i0 b'≠some (fresh idx q)->e0 b'=i0 b':=λb' g=>af g
 have h3none: ∀b',i0 b'=none->e0 b'=none:=λb' J=>by rw[h3n b' (by rw[J];simp)];exact J
 have h3m: ∀b',i0 b'=some m->e0 b'=some m:=λb' J=>by
  rw[h3n b' (by rw[J];intro e;injection e with e;exact a3 e.symm)];exact J
 have b3: ∀s',fresh idx q∉ab ((U5.set s .dead).get s'):=λs' hs=>v1 (t0.occ s' _ (qj hs))
 have S3:aC E (Dn D idx) β2 e0 (U5.set s .dead) [] a w':=by
  refine S2.shift (X:=[fresh idx q]) (by simpa using λe=>c3 e.symm) (λ_ _=>rfl)
   (fun b' x J hx=>⟨by
     rw[h3n b' (by rw[J];intro e;injection e with e;exact hx (by simp[e]))];exact J,rfl⟩)
   (fun b' J=>⟨h3none b' J,rfl⟩) (λb' x J=>by
     by_cases g:i0 b'=some (fresh idx q)
     . exact⟨_,g⟩
     . rw[h3n b' g]at J;exact⟨_,J⟩) rfl (λs' x hx hs=>by
     obtain rfl:=zC.1 hx;exact absurd hs (b3 s')) (λz hz=>by cases hz) ⟨rfl,rfl⟩
 have x3: ∀(zs:List (aX t')) b o,w'.heap[b]? =w.heap[b]? ->aT bj w t' zs b o->aT e0 w' t' zs b o:=λzs b o J he=>
  he.keep (λb' J w0=>⟨h3none b' (hw2none b' J w0).1,(hw2none b' J w0).2⟩) p9 J
 have w3: ∀(zs:List (aX t')) b o,aT who' w' t' zs b o->aT e0 w' t' zs b o:=λzs b o he=>by
  cases ht:Yd t' with
  |true=>exact he.keep (λb' J hl=>⟨h3none b' (kk.imm (by rw[ht,AS]) b' J hl),rfl⟩) (zJ _) rfl
  |false=>exact λi hi=>ba.flat ht (he i hi)
 have m4:ys.length=xs[i].length:=by
  rw[q0]at h0;rcases(e6 i l0 (by simp)).2 with⟨q1,q2⟩|⟨bi,oi,ci,ar,l,k1,k2,k3,k4,k5,k6,k7⟩
  . rcases h0 with⟨z1,z2⟩|⟨b2,o2,u0,v0,j1,z1,_⟩
    . rw[q2,z2]
    . rw[q1]at z1;cases z1
  . rcases h0 with⟨z1,z2⟩|⟨b2,o2,u0,v0,j1,z1,_⟩
    . rw[k1]at z1;cases z1
    . rw[k1]at z1;injection z1 with _ z _;exact z.symm
 have a2:br β2 e0 w' m t' (xs.set i ys) none (a.tmps.getD s undef):=by
  obtain⟨g0,g1⟩:=hw2m b0 e5 (λg=>(hG b0 g).2 rfl)
  refine⟨by rw[hβm];exact d1,.inr ⟨b0,o0,cap,arr,el,by simpa using e1,by rw[g1];exact e2,e3,by simpa using e4,h3m b0 g0,λj hj _=> ?_,?_⟩⟩
  . have s0:j<xs.length:=by simpa using hj
    obtain⟨f1,f2⟩:=e6 j s0 (by simp)
    rw[hβm];refine⟨by rw[Mk g1];exact f1,?_⟩
    by_cases e:j=i
    . subst e;rw[IJ];rw[q0]at h0;rcases h0 with⟨z1,z2⟩|⟨b2,o2,u0,v0,j1,z1,z2,z3,z4,z5,z6⟩
      . exact .inl ⟨z1,z2⟩
      . exact .inr ⟨b2,o2,u0,v0,j1,z1,z2,z3,z4,h3q b2 (hw2q b2 z5),(hG b2 ⟨_,_,_,z1⟩).2,w3 _ _ _ z6⟩
    . rw[II (λh=>e h.symm)]
      rcases f2 with f2|⟨bi,oi,ci,ar,l,k1,k2,k3,k4,k5,k6,k7⟩
      . exact .inl f2
      . have f3: ¬G bi:=by
         rintro ⟨t2,l4,c4,x0⟩
         exact e (e7 j i _ _ _ _ _ _ s0 l0 (by simp) (by simp) k1 x0 rfl)
        obtain⟨m1,m2⟩:=hw2m bi k5 f3;exact .inr ⟨bi,oi,ci,ar,l,k1,by rw[m2];exact k2,k3,k4,h3m bi m1,k6,x3 _ _ _ m2 k7⟩
  . rw[hβm];simpa using e7
 have S4:=S3.recast (s:=s) (v:= .dp m t' (xs.set i ys) none) (qh ..) a2 (by simp[ab,qi,qc])
  (fun x hx s' hs=>by
    simp only[ab,qi,qc,zC]at hx;subst hx;by_cases e:s'=s
    . subst e;rw[qh]at hs;simp[ab,qi,qc]at hs
    . rw[qg _ _ e]at hs;exact e (S1.dis s' s _ hs (by rw[hg];simp[ab,qi,qc])))
  (fun x hx=>by
    simp only[Vs.occ,aZ,aL,zC]at hx;subst hx;exact .inl m0)
 have k3:fI β' who' w' β2 e0 (fresh idx) (ab r) (X4 r):=
  ⟨fun n hn=>kk.beta n (ld _ hn),λn hn b J=>by
    have:=kk.own n (ld _ hn) b J
    rw[h3n b (by
     rw[this];intro e;injection e with e
     have:=Yu e;exact y2 (this▸hn))]
    exact this,λhi b J hl=>h3none b (kk.imm (by rw[hi];rfl) b J hl)⟩
 have S5:=S4.add (new:=[(ren (fresh idx) r,c)])
  (fun y hy=>by
    obtain rfl:=zC.1 hy;exact bo.ren p5 k3 p1)
  (by
    simp only[fC,Bk,ls,Qh];exact Xe (λ_ _ _ _ h=>Yu h) g3)
  (fun y hy n hn s' hs=>by
    obtain rfl:=zC.1 hy;simp only[Qh,zk]at hn;obtain⟨k,hk,rfl⟩:=hn;have g2:=hf k (p4 k (ld _ hk));by_cases e:s'=s
    . subst e;rw[qh]at hs;simp only[ab,qi,qc,zC]at hs;exact g2 (hs▸m0)
    . rw[qg _ _ e]at hs;exact g2 (t0.occ s' _ (qj hs)))
  (fun y hy n hn=>by
    obtain rfl:=zC.1 hy;rw[Jl (by rw[Xt];exact p5),Qh,zk]at hn
    obtain⟨k,hk,rfl⟩:=hn;exact .inr ⟨k,p4 k (ld _ hk),rfl⟩)
 refine hnext c w' _ _ (S5.ext λt=> ?_)
 by_cases e:t=s
 . subst e;rw[qh,qh]
 . rw[qg _ _ e,qg _ _ e,qg _ _ e]
end
section
variable {P:Program} {CO:Q8} {T:TT} {E:a8} {D:Nat->Prop} {β β':aR} {who who':bh} {U U':ao} {hd:List (AV×Value)} {a:Act} {w w':World} {R W:List Nat}
def qbh {c:Call} {o:Oper} {t f:Nat} {as J:Array Value} (G:o.op= .call c) (O:c.callee= .value (.tmp t))
 (K:a.eval (.tmp t)= .func (.func f) as J) (Q:as.size=0) (h2:J.size=0):execOp a.eval o=callFunc f (c.args.map a.eval):=by have e1:as= #[]:=RM Q;have e2:J= #[]:=RM h2;subst e1 e2;unfold execOp;simp[G,resolve,O,Deferred.ofValue,invoke,K]
def qdx {c:Call} {o:Oper} {f:Nat} (G:o.op= .call c) (J:c.callee= .value (.func f)):execOp a.eval o=callFunc f (c.args.map a.eval):=by have K:a.eval (.func f)= .func (.func f) #[] #[]:=rfl;unfold execOp;simp[G,resolve,J,Deferred.ofValue,invoke,K]
def VH (hT:bG P T) (hC: ∀f as r os,CO f as r os->Ya P f as r os) (G:E.prog=P) {idx mode:Nat} {o:Oper} {v:AV} (h:aw CO (sX T idx mode o) U v U' R W) (S:aC E D β who U [] a w)
 (hf: ∀k,k<16-> ¬D (fresh idx k)):wP P E D idx U' v o a w:=by cases Q:S6 o.op with|false=>exact(qph hT G Q h S hf).wp|true=>{cases O:o.op with|call c=>{unfold sX at h;simp only[O]at h;cases K:c.callee with|builtin b=>{rw[O]at Q;obtain⟨callee,args,a0⟩:=c;simp only at K;subst K;cases Q}|invoke r m=>{simp only[K]at h;exact(aw.fail' h).elim}|value x=>{simp only[K]at h;cases x with|func f=>{simp only at h;have J:execOp a.eval o=callFunc f (c.args.toList.map a.eval).toArray:=by{rw[qdx O K];congr 1;simp[<-Array.toList_map]};unfold Ik at h;split at h;{exact qo6 hT hC G h S hf J};{split at h;{exact qk8 hT hC G h S hf J};{exact q8u (mode:=mode) hT hC G h S hf J}}}|tmp t=>{simp only at h;obtain⟨av,U1,_,_,_,_,h1,h2⟩:=aw.bind' h;obtain⟨rfl,rfl⟩:=aw.mget' h1;split at h2;{rename_i f as bs hg;split at h2;{rename_i hs;refine q8u (mode:=mode) hT hC G h2 S hf ?_;have hr:=S.rel t;rw[hg]at hr;rw[qbh O K (by rw[Act.eval];exact hr.1) hs.1 hs.2];congr 1;simp[<-Array.toList_map]};{exact(aw.fail' h2).elim}};{exact(aw.fail' h2).elim}}|const u=>exact(aw.fail' h).elim|global g=>exact(aw.fail' h).elim}}|_=>{rw[O]at Q;cases Q}}
end
section
variable {P:Program} {CO:Q8} {T:TT} {E:a8} {D:Nat->Prop} {β β':aR} {who who':bh} {U U':ao} {hd:List (AV×Value)} {a:Act} {w w':World} {R W:List Nat}
variable {N:Nat} {pins:List Nat}
def uh (P:Program) (E:a8) (N:Nat) (pins:List Nat):Prop:=E.N=N/\(∀p∈E.pins,p.1∈pins)/\E.prog=P
def WQ (G:uh P E N pins) {dst:Option Tmp} {v:AV} {c:Value} {u:Unit} (h:aw CO (IV N pins dst v) U u U' R W) (S:aC E D β who U [(v,c)] a w):
 aC E D β who U' [] (a.put dst c) w:=by cases dst with|none=>{obtain⟨_,rfl⟩:=aw.pure' h;exact S.putNone}|some d=>{simp only[IV]at h;split at h;{rename_i hd;have:=aw.mset' h;subst this;exact S.put (by rw[G.1];exact hd.1) (λp J e=>hd.2 (e▸G.2.1 p J))};{exact(aw.fail' h).elim}}
def qe1 (K:bG P T) (O: ∀f as r os,CO f as r os->Ya P f as r os) (G:E.prog=P) {idx mode:Nat} {o:Oper} {v:AV} (h:aw CO (TP T idx mode o) U v U' R W) (S:aC E D β who U [] a w)
 (J: ∀k,k<16-> ¬D (fresh idx k)):wP P E D idx U' v o a w:=by unfold TP at h;split at h;{split at h;{exact(Oe K h S J).wp};split at h;{obtain⟨av,U1,_,_,_,_,Q,h2⟩:=aw.bind' h;obtain⟨rfl,rfl⟩:=aw.mget' Q;split at h2;{obtain⟨u,U2,_,_,_,_,h3,h4⟩:=aw.bind' h2;obtain⟨bj,S1⟩:=q67 h3 S;exact VH K O G h4 S1 J};{exact(aw.fail' h2).elim}};{obtain⟨u,U1,_,_,_,_,Q,h2⟩:=aw.bind' h;obtain⟨g1,_,bj,S1⟩:=aw.rdF Q S;exact VH K O G h2 (S1.drop rfl) J}};{exact VH K O G h S J}
def q97 (hT:bG P T) (hC: ∀f as r os,CO f as r os->Ya P f as r os) (hE:uh P E N pins) {ops:Array Oper} {idx mode:Nat} {o:Oper} {u:Unit}
 (h:aw CO (oR T N pins ops idx mode o) U u U' R W) (S:aC E D β who U [] a w) (hf: ∀k,k<16-> ¬D (fresh idx k))
 {next:Act->World->Prop} {Q:Exit->Act->World->Prop} (hn: ∀a' w' β' who',aC E (Dn D idx) β' who' U' [] a' w'->next a' w'):
 if Region.wanted o (yielded ops a.tmps)then o.wp P a w next Q\/(o.asks P a w/\LetsOut Q)else next (a.put o.dst undef) w:=by unfold oR at h;cases O:o.guard with|none=>{simp only[O]at h;obtain⟨v,K,_,_,_,_,h1,h2⟩:=aw.bind' h;rw[iP (by simp[Region.wanted,O])];exact .inl (qe1 hT hC hE.2.2 h1 S hf next Q λc w' β' who' S1=>hn _ _ _ _ (WQ hE h2 S1))}|some jw=>{obtain⟨j,want⟩:=jw;simp only[O]at h;split at h;{exact(aw.fail' h).elim};{rename_i g J;obtain⟨av,U0,_,_,_,_,h0,h9⟩:=aw.bind' h;obtain⟨b0,rfl⟩:=aw.mget' h0;clear h;have skip: ∀{K U2:ao} {R W:List Nat} {u:Unit},aw CO (IV N pins o.dst (.tup [])) K u U2 R W->U2=U'->aC E D β who K [] a w->next (a.put o.dst undef) w:=by{intro K U2 R W u h2 e S;subst e;have S1:aC E D β who K [(.tup [],undef)] a w:=S.take0 (v:= .tup []) (c:=undef) ⟨#[],rfl,rfl,λj h=>absurd h (zA _)⟩ rfl (λn hn=>by cases hn);exact hn _ _ _ _ ((WQ hE h2 S1).mono (λn h=> .inl h) (dk S.dfn))};cases hu:Vn av with|true=>{rw[hu]at h9;have G:=S.rel g;rw[<-b0]at G;have c0: ∀b,a.tmps.getD g undef≠ .bool b:=λb hb=>by{unfold Vn at hu;split at hu;{obtain⟨arr,G,_⟩:=G;rw[G]at hb;cases hb};{cases hu}};have hy:yielded ops a.tmps j=none:=by{unfold yielded;unfold lz at J;rw[J];cases hx:a.tmps[g]? with|none=>simp[hx]|some x=>{simp_all}};rw[af (by simp[Region.wanted,O,hy])];exact skip h9 rfl S}|false=>{rw[hu]at h9;obtain⟨b,K,_,_,_,_,h1,h2⟩:=aw.bind' h9;obtain⟨hb,rfl⟩:=aw.mknow' h1;have G:=S.rel g;rw[hb]at G;have G:a.tmps.getD g undef= .bool b:=G;have a0:g<a.tmps.size:=by{rcases fS g a.tmps.size with h|h;{exact h};{simp[Array.getD,Nat.not_lt.2 h,undef]at G}};have hy:yielded ops a.tmps j=some b:=by{unfold yielded;unfold lz at J;rw[J];have:a.tmps[g]? =some (.bool b):=by{rw[<-G];simp[Array.getD,a0]};simp[this]};by_cases e:b=want;{rw[iP (by simp[Region.wanted,O,hy,e])];rw[iP (by simpa using e)]at h2;obtain⟨v,K,_,_,_,_,h3,h4⟩:=aw.bind' h2;exact .inl (qe1 hT hC hE.2.2 h3 S hf next Q λc w' β' who' S1=>hn _ _ _ _ (WQ hE h4 S1))};{rw[af (by simp[Region.wanted,O,hy,e])];grind}}}}
def IA (D:Nat->Prop) (i:Nat):Nat->Prop:=λn=>D n\/ ∃j k,j<i/\k<16/\n=fresh j k
def q8n {i j k l:Nat} (J:k<16) (G:l<16) (h:fresh i k=fresh j l):i=j/\k=l:=by simp only[fresh]at h;omega
def qo4 {i k:Nat} (J: ∀n,D n->n<100) (G:k<16): ¬IA D i (fresh i k):=by rintro (h|⟨j,l,O,h2,K⟩);{have:=J _ h;simp only[fresh]at this;omega};{have:=q8n G h2 K;omega}
def qq8 {i n:Nat} (h:Dn (IA D i) i n):IA D (i+1) n:=by rcases h with(h|⟨j,k,K,h2,J⟩)|⟨k,G,h⟩;{exact .inl h};{exact .inr ⟨j,k,O,h2,J⟩};{exact .inr ⟨i,k,O,G,h⟩}
def ZG {i:Nat} (h: ¬D FN): ¬IA D i FN:=by rintro (h'|⟨j,k,_,G,e⟩);{exact h h'};{simp only[FN,fresh]at e;omega}
inductive eE (CO:Q8) (T:TT) (N:Nat) (pins:List Nat) (ops:Array Oper) (md:List (Nat×Nat)):List Oper->Nat->ao->List (List Nat×List Nat)->ao->Prop where
 |nil {i:Nat} {U:ao}:eE CO T N pins ops md [] i U [] U
 |cons {o:Oper} {r:List Oper} {i:Nat} {U U1 U2:ao} {u:Unit} {R W:List Nat} {Ls:List (List Nat×List Nat)}:
   aw CO (oR T N pins ops i (ob md i) o) U u U1 R W->eE CO T N pins ops md r (i+1) U1 Ls U2->eE CO T N pins ops md (o::r) i U ((R,W)::Ls) U2
def sx:List sw->List (List Nat×List Nat)->Prop
 |[],[]=>True
 |L::G,F::J=>(∀s∈F.1,s∈L.1)/\(∀s∈F.2,s∈L.2)/\sx G J
 |_,_=>False
def eE.seq {ops:Array Oper} {G:List (Nat×Nat)} {l:List Oper} {i:Nat} {U U':ao} {J:List (List Nat×List Nat)} (h:eE CO T N pins ops G l i U J U'):
 ∀τ,sv U τ-> ∃τ',eE CO T N pins ops G l i τ J τ'/\sv U' τ':=by induction h with|nil=>exact λτ h=>⟨τ,.nil,h⟩|cons O _ K=>{intro τ e;obtain⟨τ1,g1,g2⟩:=O.seq e;obtain⟨τ2,g3,Q⟩:=K τ1 g2;exact⟨τ2,.cons g1 g3,Q⟩}
def sv.symm {U τ:ao} (h:sv U τ):sv τ U:=λs=>(h s).symm
def sv.trans {U τ ρ:ao} (h:sv U τ) (h':sv τ ρ):sv U ρ:=λs=>(h' s).trans (h s)
def qqt {ρT:Type} {C:Nat->List AV->(AV->List AV->Option ρT)->Option ρT} {ρ:ρT}
 (hC: ∀f as k,C f as k=some ρ-> ∃r os,CO f as r os/\k r os=some ρ) {ops:Array Oper} {md:List (Nat×Nat)} (l:List Oper):
 ∀(i:Nat) (U:ao) (O:List sw) (K:ao->List sw->Option ρT),xD C T N pins ops md l i U O K=some ρ->
  ∃Q U' J G,eE CO T N pins ops md l i U Q U'/\sv U' J/\sx G Q/\K J (O++G)=some ρ:=by induction l with|nil=>exact λi U O K h=>⟨[],U,U,[],.nil,λ_=>rfl,trivial,by simpa [xD]using h⟩|cons o r ih=>{intro i U O K h;simp only[xD]at h;obtain⟨u,U1,R,W,h1,b0,L',e1,e2,e3,e4⟩:=qpe hC _ _ _ _ h;obtain⟨Q,U2,a0,G,g1,g2,g3,g4⟩:=ih _ _ _ _ e4;obtain⟨τ,q1,q2⟩:=g1.seq U1 e1.symm;refine⟨(R,W)::Q,τ,a0,L'::G,.cons h1 q1,q2.symm.trans g2,⟨λs hs=>e2 s (.inl hs),λs hs=>e3 s (.inl hs),g3⟩,by simpa using g4⟩}
def qok (hT:bG P T) (hC: ∀f as r os,CO f as r os->Ya P f as r os) (hE:uh P E N pins) {ops:Array Oper} {md:List (Nat×Nat)} (hD: ∀n,D n->n<100)
 {Q:Exit->Act->World->Prop} {l:List Oper} {i:Nat} {Fs:List (List Nat×List Nat)} (h:eE CO T N pins ops md l i U Fs U'):
 ∀{β who a w},aC E (IA D i) β who U [] a w->(∀K w' β' who',aC E (IA D (i+l.length)) β' who' U' [] K w'->Q .normal K w')->wpList P ops Q l a w:=by induction h with|nil=>exact λS J=>J _ _ _ _ S| @cons o r i U U1 U2 u R W Ls h1 _ ih=>{intro β who a w S J;refine q97 hT hC hE h1 S (λk hk=>qo4 hD hk) λK w' β' who' S'=> ?_;refine ih (S'.mono (λn h=>qq8 h) (λh=> ?_)) λb0 a0 β'' G O=>J _ _ _ _ (by{rw[show i+(o::r).length=i+1+r.length by simp;omega];exact O});rcases h with h|⟨j,k,_,hk,e⟩;{have:=S.dfn;exact this (.inl h)};{simp only[FN,fresh]at e;omega}}
end
section
variable {P:Program} {CO:Q8} {T:TT} {E:a8} {D:Nat->Prop} {β β':aR} {who who':bh} {U U':ao} {a:Act} {w w':World}
variable {N:Nat} {pins:List Nat}
def iT (st:Nat->ao) (Wg:Nat->List Nat) (n:Nat) (S:Nat->Prop) (s:Nat) (v:Option AV):Prop:=
 (∃i,i<n/\S i/\s∈Wg i/\(∀j,j<n->S j->s∈Wg j->j<=i)/\v=vw (st (i+1)) s)\/((∀j,j<n->S j->s∉Wg j)/\v=vw (st 0) s)
variable {st:Nat->ao} {Rg Wg:Nat->List Nat} {n:Nat} {S S':Nat->Prop} {s:Nat} {v u:Option AV}
def iT.uniq (h:iT st Wg n S s v) (h':iT st Wg n S s u):v=u:=by rcases h with⟨i,G,h2,O,K,rfl⟩|⟨G,rfl⟩<;>rcases h' with⟨j,J,g2,g3,Q,rfl⟩|⟨J,rfl⟩;{grind};{grind};{grind};{rfl}
def iT.congr (h:iT st Wg n S s v) (he: ∀j,j<n->s∈Wg j->(S j↔S' j)):iT st Wg n S' s v:=by rcases h with⟨i,J,h2,K,O,rfl⟩|⟨J,rfl⟩;{exact .inl ⟨i,J,(he i J K).1 h2,K,λj G hs hw=>O j G ((he j G hw).2 hs) hw,rfl⟩};{exact .inr ⟨λj G hs hw=>J j G ((he j G hw).2 hs) hw,rfl⟩}
def iT.canon (G: ∀j,j<n-> ∀s,s∉Wg j->vw (st (j+1)) s=vw (st j) s): ∀i,i<=n->iT st Wg n (λj=>j<i) s (vw (st i) s)
 |0,_=> .inr ⟨λj _ h=>absurd h (zA _),rfl⟩
 |i+1,K=>by by_cases hs:s∈Wg i;{exact .inl ⟨i,O,O,hs,λj _ h _=>O,rfl⟩};{rw[G i O s hs];refine(iT.canon G i O).congr λj J hw=> ?_;grind}
def ql4 {m:M Unit} {i:Nat} {u:Unit} {τ:ao} {J:Nat->List Nat} (hi:i<n) (G:aw CO m (st i) u (st (i+1)) (Rg i) (Wg i))
 (K: ∀j,j<n-> ∀s,s∉Wg j->vw (st (j+1)) s=vw (st j) s)
 (hconf: ∀i j,i<j->j<n->i∈J j\/((∀s∈Rg i,s∉Wg j)/\ ∀s∈Rg j,s∉Wg i))
 (hS: ¬S i) (ha: ∀k∈J i,S k) (hb: ∀j,S j->i∉J j) (hτ: ∀s,iT st Wg n S s (vw τ s)):
 ∃τ',aw CO m τ u τ' (Rg i) (Wg i)/\ ∀s,iT st Wg n (λj=>S j\/j=i) s (vw τ' s):=by have key: ∀s∈Rg i,∀j,j<n->s∈Wg j->(S j↔j<i):=λs hs j Q hw=>by{grind};have agree: ∀s∈Rg i,vw τ s=vw (st i) s:=λs hs=> ((hτ s).congr (key s hs)).uniq (iT.canon K i O);obtain⟨τ',h1,h2⟩:=G.local τ (λ_=>False) (λs h=>agree s (h.resolve_right id));refine⟨τ',h1,λs=> ?_⟩;by_cases hs:s∈Wg i;{have hr:=G.subW s hs;rw[h2 s (.inl hr)];refine .inl ⟨i,hi,.inr rfl,hs,λj Q a0 hw=> ?_,rfl⟩;grind};{rw[h1.frame s hs];refine(hτ s).congr λj Q hw=>⟨λh=> .inl h,λh=> ?_⟩;grind}
def BA (ops:List Oper) (i:Nat):List Nat:=match ops[i]? with
 |some o=>iZ o i
 |none=>[]
def qdm (S:Nat->Prop) (all:List Oper) (hS: ∀j,j<all.length->S j-> ∀k∈BA all j,S k): ∀(r:List Oper) (i:Nat) (acc:List (List Nat)),
 (∀j,r[j]? =all[i+j]?)->acc.length=i->(∀j,j<i->(∀k∈BA all j,S k)-> ∀k∈acc.getD j [],S k)->all.length=i+r.length->
 ∀j,j<all.length->(∀k∈BA all j,S k)-> ∀k∈(ug r i acc).getD j [],S k
 |[],i,acc,hr,hl,G,hn,j,hj,K=>G j (by simpa [hn]using hj) K
 |o::r,i,acc,hr,hl,G,hn,j,hj,K=>by have ho:all[i]? =some o:=by{have:=hr 0;simpa using this.symm};simp only[ug];refine qdm S all hS r (i+1) _ (λj=>by have:=hr (j+1);grind) (by simp[hl]) (λj hj K k Q=> ?_) (by rw[hn];simp;omega) j hj K;rcases fS j i with h|h;{refine G j h K k ?_;grind};{have:j=i:=O;subst this;simp only[List.getD,List.getElem?_append_right (show acc.length<=j by omega),hl,xe,List.getElem?_cons_zero,xj]at Q;obtain⟨p,J,Q⟩:=zN.1 Q;have a0:p∈BA all j:=by{simp only[BA,ho];exact J};have b0:p<j:=by{simp only[iZ,zk,IC,zM,decide_eq_true_eq]at J;obtain⟨e,⟨_,_,h⟩,rfl⟩:=J;exact h};rcases mC Q with rfl|Q;{exact K k a0};{exact G p b0 (hS p O (K p a0)) k Q}}
end
end Go.Vs
