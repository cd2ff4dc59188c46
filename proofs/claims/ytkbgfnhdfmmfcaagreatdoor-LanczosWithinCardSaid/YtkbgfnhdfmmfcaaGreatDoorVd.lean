import Derived.Test.YtkbgfnhdfmmfcaaGreatDoorVb
import Derived.Orders
set_option linter.unusedVariables false
set_option linter.unusedSimpArgs false
set_option linter.unusedSectionVars false
set_option linter.defProp false
namespace Go.Vs
section
variable {P:Program} {CO:Q7} {T:TT} {E:ba} {D:Nat->Prop} {β:aU} {who:bp} {U U':ao} {hd:List (AV×Value)} {a:Act} {w w':World} {R W:List Nat}
def dg (who:bp) (w:World) (n b:Nat) (h:Option Nat):AV->Option Value->Nat->Prop
 | .int k x,o,_=>o=some (.int k x)
 | .bool x,o,_=>o=some (.bool x)
 | .sl _ t xs,o,p=>h=some p\/ ∃v,o=some v/\gp who w n t xs v b
 |_,_,_=>False
def Cz {n b:Nat} {h:Option Nat} {g:Nat->Option Value}: ∀{t:Ty} {x:aX t} {p:Nat},cJ who w n b h t x g p->
 (aF t x).length=t.size/\ ∀k (hk:k<(aF t x).length),dg who w n b h (aF t x)[k] (g (p+k)) (p+k)
 | .int k,x,p,h=>by{refine⟨rfl,λj G=> ?_⟩;have:j=0:=by{simp[aF]at G;exact G};subst this;exact h}
 | .bool,x,p,h=>by{refine⟨rfl,λj G=> ?_⟩;have:j=0:=by{simp[aF]at G;exact G};subst this;exact h}
 | .sl b t,xs,p,h=>by{refine⟨rfl,λj G=> ?_⟩;have:j=0:=by{simp[aF]at G;exact G};subst this;exact h}
 | .pr s t,x,p,h=>by obtain⟨l1,r1⟩:=Cz h.1;obtain⟨l2,O⟩:=Cz h.2;refine⟨by simp[aF,l1,l2,Ty.size],λj G=> ?_⟩;by_cases J:j<(aF s x.1).length;{have:=r1 j J;simp only[aF,ya J];exact this};{have K:j-(aF s x.1).length<(aF t x.2).length:=by{simp only[aF,zG]at G;omega};have:=O _ K;simp only[aF,vF (ue J)];rw[show p+s.size+(j-(aF s x.1).length)=p+j by omega]at this;exact this}
def Xe: ∀{t:Ty} {x:aX t},(aF t x).length=t.size
 | .int _,_=>rfl
 | .bool,_=>rfl
 | .sl _ _,_=>rfl
 | .pr s t,x=>by simp only[aF,zG,Ty.size,Xe]
def vQ {n bk:Nat} {hh:Option Nat} {g:Nat->Option Value}: ∀{t:Ty} {cells r:List AV} {x:aX t} {p:Nat},J4 t cells=some (x,r)->
 (∀k (K:k<cells.length),k<t.size->dg who w n bk hh cells[k] (g (p+k)) (p+k))->cJ who w n bk hh t x g p/\r=cells.drop t.size/\t.size<=cells.length
 | .int k,cells,r,x,p,h,G=>by{cases cells with|nil=>cases h|cons c cs=>{cases c with|int k' n=>{simp only[J4]at h;split at h;{rename_i e;subst e;injection h with h;injection h with J h2;subst J h2;exact⟨G 0 (by simp) (by simp[Ty.size]),rfl,by simp[Ty.size]⟩};{cases h}}|_=>cases h}}
 | .bool,cells,r,x,p,h,G=>by{cases cells with|nil=>cases h|cons c cs=>{cases c with|bool b=>{simp only[J4,zf,UF]at h;obtain⟨J,h2⟩:=h;subst J h2;exact⟨G 0 (by simp) (by simp[Ty.size]),rfl,by simp[Ty.size]⟩}|_=>cases h}}
 | .sl b t,cells,r,x,p,h,G=>by{cases cells with|nil=>cases h|cons c cs=>{cases c with|sl o t' xs=>{have key: ∀(e:t'=t),x=e▸xs->r=cs->cJ who w n bk hh (.sl b t) x g p/\r=(AV.sl o t' xs::cs).drop (Ty.sl b t).size/\(Ty.sl b t).size<=(AV.sl o t' xs::cs).length:=by{intro e hx hc;subst e;simp only at hx;subst hx hc;exact⟨G 0 (by simp) (by simp[Ty.size]),rfl,by simp[Ty.size]⟩};simp only[J4]at h;grind}|_=>cases h}}
 | .pr s t,cells,r,x,p,h,G=>by simp only[J4]at h;split at h;{rename_i x1 r1 J;split at h;{rename_i y r2 h2;injection h with h;injection h with h3 h4;subst h3 h4;obtain⟨i1,i2,i3⟩:=vQ (p:=p) J (λk K hs=>G k K (by simp only[Ty.size];omega));subst i2;obtain⟨k1,k2,k3⟩:=vQ (p:=p+s.size) h2 (λk K hs=>by{have a0:k<cells.length-s.size:=by{simpa using K};have:=G (s.size+k) O (by simp only[Ty.size];omega);rw[KW,show p+s.size+k=p+(s.size+k) by omega];exact this});refine⟨⟨i1,k1⟩,?_,?_⟩;{rw[k2,Nv];rfl};{simp at k3;simp only[Ty.size];omega}};{cases h}};{cases h}
def dg.imp {who':bp} {n n' b b':Nat} {h h':Option Nat} {c:AV} {o K:Option Value} {p J:Nat} (G:dg who w n b h c o p) (ho:K=o) (hh:h=some p->h'=some J)
 (hi: ∀(t:Ty) (ys:List (aX t)) v,o=some v->h≠some p->gp who w n t ys v b->h'=some J\/gp who' w' n' t ys v b'):dg who' w' n' b' h' c K J:=by subst ho;cases c with|int k x=>exact G|bool x=>exact G|sl ow t xs=>{by_cases e:h=some p;{exact .inl (hh e)};{rcases G with G|⟨v,O,h2⟩;{exact absurd G e};{rcases hi t xs v O e h2 with g|g;{exact .inl g};{exact .inr ⟨v,O,g⟩}}}}|_=>exact G.elim
def cJ.ofCells {n b:Nat} {h:Option Nat} {t:Ty} {x:aX t} {g:Nat->Option Value} {p:Nat} (G: ∀k (J:k<(aF t x).length),dg who w n b h (aF t x)[k] (g (p+k)) (p+k)):cJ who w n b h t x g p:=by have key: ∀{t:Ty} {x:aX t} {p:Nat},(∀k (J:k<(aF t x).length),dg who w n b h (aF t x)[k] (g (p+k)) (p+k))->cJ who w n b h t x g p:=by{intro t;induction t with|int k=>{intro x p G;exact G 0 (by simp[aF])}|bool=>{intro x p G;exact G 0 (by simp[aF])}|sl bb t=>{intro x p G;exact G 0 (by simp[aF])}|pr s t a0 K=>{intro x p G;refine⟨a0 λk J=> ?_,K λk J=> ?_⟩;{have:=G k (by simp only[aF,zG];omega);simp only[aF,ya J]at this;exact this};{have hl:(aF s x.1).length=s.size:=Xe;have:=G (s.size+k) (by simp only[aF,zG];omega);simp only[aF]at this;rw[vF O]at this;simp only[hl,Nat.add_sub_cancel_left]at this;rw[show p+s.size+k=p+(s.size+k) by omega];exact this}}};exact key G
def b9.pos {n:Nat} {t:Ty} {xs:List (aX t)} {h:Option Nat} {v:Value} (G:b9 β who w n t xs h v) (hx:xs≠[]):
 v=β n/\ ∃b o cap arr el,v= .slice (some ⟨b,o,none⟩) xs.length cap/\w.heap[b]? =some (.cells arr el (0,0))/\o+cap*t.size<=arr.size/\xs.length<=cap/\who b=some n/\
 (∀i (hi:i<xs.length),cJ who w n b h t xs[i] (az w b o) (i*t.size))/\
 ∀p q a K l O c c',p<xs.length*t.size->q<xs.length*t.size->h≠some p->h≠some q->az w b o p=some (.slice (some a) l c)->az w b o q=some (.slice (some K) O c')->a.block=K.block->p=q:=by refine⟨G.1,?_⟩;rcases G.2 with⟨J,h2⟩|J;{exact absurd h2 hx};{exact J}
def b9.len {n:Nat} {t:Ty} {xs:List (aX t)} {h:Option Nat} {v:Value} (G:b9 β who w n t xs h v): ∃ad cap,v= .slice ad xs.length cap:=by rcases G.2 with⟨rfl,rfl⟩|⟨b,o,cap,arr,el,rfl,_⟩;{exact⟨_,_,rfl⟩};{exact⟨_,_,rfl⟩}
def aC.dq (S:aC E D β who U hd a w) {s n:Nat} {t:Ty} {xs:List (aX t)} {h:Option Nat} (G:U.get s= .dq n t xs h):b9 β who w n t xs h (a.tmps.getD s undef):=by have:=S.rel s;rw[G]at this;exact this
def PZ {i j m L:Nat} (J:i<L) (G:j<m):i*m+j<L*m:=by have:(i+1)*m<=L*m:=zO _ O;rw[gr]at this;omega
def qlz {i j i' j' m:Nat} (J:j<m) (G:j'<m) (h:i*m+j=i'*m+j'):i=i'/\j=j':=by have K:(i*m+j)/m=i:=by{rw[zY,Ue O,wZ J,zS]};have h2:(i'*m+j')/m=i':=by{rw[zY,Ue O,wZ G,zS]};have:i=i':=by{rw[<-K,<-h2,h]};subst this;exact⟨rfl,O⟩
def dL.slice {base:Value} {sz i j:Nat} {c:Value} (hp:dL base sz i j c) {ad:Option Addr} {L cap:Nat} (J:base= .slice ad L cap): ∃b o,ad=some ⟨b,o,none⟩/\i<L/\c= .pointer (some ⟨b,o+i*sz+j,none⟩):=by rcases hp with⟨b,o,L',K,G,e2,e3⟩|⟨b,G,_⟩;{rw[J]at G;injection G with q1 O q3;subst q1 O;exact⟨b,o,rfl,e2,e3⟩};{rw[J]at G;cases G}
end
section
variable {P:Program} {CO:Q7} {T:TT} {E:ba} {D:Nat->Prop} {β:aU} {who:bp} {U U':ao} {hd:List (AV×Value)} {a:Act} {w w':World} {R W:List Nat}
def aC.takeDq (S:aC E D β who U [] a w) {idx s n i j:Nat} {t u:Ty} {xs:List (aX t)} {ow:Ub} {ys:List (aX u)} (K:U.get s= .dq n t xs none) (hi:i<xs.length)
 (hj:(aF t xs[i])[j]? =some (.sl ow u ys)) (hf: ∀k,k<16-> ¬D (fresh idx k)):
 ∃b o cap v,β n= .slice (some ⟨b,o,none⟩) xs.length cap/\az w b o (i*t.size+j)=some v/\
  ∃β' who',aC E (Dn D idx) β' who' (U.set s (.dq n t xs (some (i*t.size+j)))) [(.sl (.nm (fresh idx 15)) u ys,v)] a w:=by
 classical
 obtain⟨h1,b,o,cap,arr,el,e1,e2,e3,e4,e5,e6,e7⟩:=(S.dq K).pos (Qc hi);obtain⟨c0,q0⟩:=List.getElem?_eq_some_iff.1 hj;have m0:j<t.size:=by rw[Xe]at c0;exact c0
 obtain⟨_,hcells⟩:=Cz (e6 i hi);have f0:=hcells j c0;rw[q0]at f0
 obtain⟨v,f1,f2⟩: ∃v,az w b o (i*t.size+j)=some v/\gp who w n u ys v b:=by
  rcases f0 with h|h
  . cases h
  . exact h
 refine⟨b,o,cap,v,by rw[<-h1];exact e1,f1,?_⟩
 obtain⟨m,rfl⟩: ∃m,m=fresh idx 15:=⟨_,rfl⟩;have g0: ¬D (fresh idx 15):=hf 15 O;have i0:D n:=S.occ s n (by rw[K];simp[Vs.occ,a9,aK])
 have t0:fresh idx 15≠n:=λe=>g0 (e▸i0)
 let G:Nat->Prop:=λb'=> ∃oi li ci,v= .slice (some ⟨b',oi,none⟩) li ci
 have hG: ∀b',G b'->who b'=some n/\b'≠b:=by
  rintro b' ⟨oi,li,ci,hg⟩
  rcases f2 with⟨q,_⟩|⟨bi,r0,v0,ar,l,k1,k2,k3,k4,k5,k6,k7⟩
  . rw[q]at hg;cases hg
  . grind
 let β':aU:=λx=>if x=fresh idx 15 then v else β x
 let who':bp:=λb'=>if G b' then some (fresh idx 15)else who b'
 have hβ: ∀x,D x->β' x=β x:=λx J=>by grind
 have hnone: ∀b',who b'=none->who' b'=none:=λb' hb=>by
  grind
 have hE: ∀(t:Ty) (ys:List (aX t)) b o,aT who w t ys b o->aT who' w t ys b o:=λt ys b o he=>
  he.keep (λb' hb _=>⟨hnone b' hb,rfl⟩) (zI _) rfl
 have b0: ∀b',who b'=some n-> ¬G b'->who' b'=some n:=λb' hb g=>by grind
 have hP:i*t.size+j<xs.length*t.size:=PZ hi m0
 have hnewdq:b9 β' who' w n t xs (some (i*t.size+j)) (a.tmps.getD s undef):=by
  refine⟨by rw[hβ n i0];exact h1,.inr ⟨b,o,cap,arr,el,e1,e2,e3,e4,b0 b e5 (λg=>(hG b g).2 rfl),λi' a0=> ?_,?_⟩⟩
  . refine cJ.imp (d:=0) (λ_ _=> .inl rfl) (λ_ _ h=>by cases h) (λu' j0 v' j' h0 hc d0 e0=> ?_) (e6 i' a0)
    rcases d0 with g2|⟨bi,oi,ci,ar,l,k1,k2,k3,k4,k5,k6,k7⟩
    . exact .inl g2
    . refine .inr ⟨bi,oi,ci,ar,l,k1,k2,k3,k4,b0 bi k5 ?_,k6,hE _ _ _ _ k7⟩
      rintro ⟨k0,s0,u0,hg⟩
      apply e0;have l0:i'*t.size+j'<xs.length*t.size:=PZ a0 h0;have:=e7 (i'*t.size+j') (i*t.size+j) ⟨bi,oi,none⟩ ⟨bi,k0,none⟩ _ _ _ _ l0 hP (by simp) (by simp) (hc.trans (congrArg some k1)) (f1.trans (congrArg some hg)) rfl
      exact congrArg some this.symm
  . exact λp q a a' l l' c c' p1 p2 _ _=>e7 p q a a' l l' c c' p1 p2 (by simp) (by simp)
 have hweak:b9 β who w n t xs (some (i*t.size+j)) (a.tmps.getD s undef):=
  ⟨h1,.inr ⟨b,o,cap,arr,el,e1,e2,e3,e4,e5,λi' a0=>cJ.imp (d:=0) (λ_ _=> .inl rfl) (λ_ _ h=>by cases h) (λu' j0 v' j' h0 hc d0 e0=>d0) (e6 i' a0),λp q a a' l l' c c' p1 p2 _ _=>e7 p q a a' l l' c c' p1 p2 (by simp) (by simp)⟩⟩
 have S1:=S.abs (s:=s) (v:= .dq n t xs (some (i*t.size+j))) hweak (λx J=>by rw[K];exact J) (by simp[ab,qh,qc])
  (λx J=>S.occ s x (by rw[K];exact J))
 have S2:=S1.shift (β':=β') (who':=who') (w':=w) (X:=[n]) (λh=>S.dfn (by grind)) hβ
  (fun b' x hb J=>⟨by
    simp only[who'];rw[ae];exact hb;intro g;grind,rfl⟩)
  (fun b' hb=>⟨hnone b' hb,rfl⟩) (λb' x h=>by
    grind) rfl (λs' x J hs=>by
    rw[zA]at J;subst J;by_cases e:s'=s
    . subst e;rw[qg];exact hnewdq
    . rw[qf _ _ e]at hs;exact absurd (S.dis s' s x hs (by rw[K];simp[ab,qh,qc])) e) (λz hz=>by cases hz) ⟨rfl,rfl⟩
 have S3:=S2.mono (D':=Dn D idx) (λn h=> .inl h) (dz S2.dfn)
 refine⟨β',who',S3.addN (λx J=> ?_) (by simp[ab,qh,qc]) (λx J y hy s' hs=> ?_) (λx J y hy=> ?_)⟩
 . rw[zA]at J;subst J;refine⟨by simp[β'],?_⟩
   rcases f2 with⟨q1,q2⟩|⟨bi,oi,ci,ar,l,k1,k2,k3,k4,k5,k6,k7⟩
   . exact .inl ⟨q1,q2⟩
   . refine .inr ⟨bi,oi,ci,ar,l,k1,k2,k3,k4,?_,hE _ _ _ _ k7⟩;simp only[who'];rw[iP ⟨_,_,_,k1⟩]
 . rw[zA]at J;subst J;simp only[ab,qh,qc,zA]at hy;subst hy;exact g0 (S1.occ s' _ (qi hs))
 . rw[zA]at J;subst J;simp only[Vs.occ,a9,aK,zA]at hy;subst hy;exact .inr ⟨15,O,rfl⟩
def aC.writeDq {idx s n i j:Nat} {t:Ty} {xs:List (aX t)} {hh h2:Option Nat} {v:AV} {cv:Value} {cs:List AV} {vs:List Value} {x':aX t} (S:aC E D β who U [(v,cv)] a w)
 (c0:U.get s= .dq n t xs hh) (hi:i<xs.length) (hlen:vs.length=cs.length) (hs:Z8 t xs[i] j cs=some x')
 (hcase:((∀x,x∉ab v)/\h2=hh/\ ∀k (hk:k<cs.length),(∃ik z,cs[k]= .int ik z/\vs[k]? =some (.int ik z))\/(∃y,cs[k]= .bool y/\vs[k]? =some (.bool y)))\/
   (∃m u ys,v= .sl (.nm m) u ys/\cs=[v]/\vs=[cv]/\hh=some (i*t.size+j)/\h2=none)):
 ∃b o cap arr el,β n= .slice (some ⟨b,o,none⟩) xs.length cap/\w.heap[b]? =some (.cells arr el (0,0))/\o+i*t.size+j+vs.length<=arr.size/\who b=some n/\
  ∃who',aC E D β who' (U.set s (.dq n t (xs.set i x') h2)) [] a (w.setRow b (qj arr (o+i*t.size+j) vs)):=by
 classical
 obtain⟨h1,b,o,cap,arr,el,e1,e2,e3,e4,e5,e6,e7⟩:=(S.dq c0).pos (Qc hi);have z0:D n:=S.occ s n (by rw[c0];simp[Vs.occ,a9,aK])
 unfold Z8 at hs;split at hs
 case isFalse=>cases hs
 rename_i m1;split at hs
 case h_2=>cases hs
 rename_i y hy;injection hs with hs
 subst hs;have u1:xs.length*t.size<=cap*t.size:=zO _ e4;have r1:(i+1)*t.size<=xs.length*t.size:=zO _ O;rw[gr]at r1;have b0:o+i*t.size+j+vs.length<=arr.size:=O;refine⟨b,o,cap,arr,el,by rw[<-h1];exact e1,e2,b0,e5,?_⟩
 obtain⟨w',d0⟩: ∃w',w'=w.setRow b (qj arr (o+i*t.size+j) vs):=⟨_,rfl⟩;rw[<-d0];have hheapb:w'.heap[b]? =some (.cells (qj arr (o+i*t.size+j) vs) el (0,0)):=by rw[d0];exact setRow_heap w b arr _ el _ e2
 have a0: ∀b',b'≠b->w'.heap[b']? =w.heap[b']? :=λb' hb=>by rw[d0];exact setRow_other w b b' _ hb
 have d1:w'.heap.size=w.heap.size:=by rw[d0];simp
 let K:Nat->Prop:=λk=>k∈ab v
 let who':bp:=λb'=>if∃k,who b'=some k/\K k then some n else who b'
 have t0: ¬K n:=λh=>S.hdis _ mS n h s (by rw[c0];simp[ab,qh,qc])
 have hnone: ∀b',who b'=none->who' b'=none/\w'.heap[b']? =w.heap[b']? :=λb' hb=>by
  refine⟨by grind,a0 b' (by grind)⟩
 have hE: ∀(u:Ty) (ys:List (aX u)) b' o,b'≠b->aT who w u ys b' o->aT who' w' u ys b' o:=λu ys b' o hb he=>
  he.keep (λb' hb _=>hnone b' hb) O (a0 b' hb)
 have k0: ∀b',who b'=some n->who' b'=some n:=λb' hb=>by grind
 have a1: ∀b' k,who b'=some k->K k->who' b'=some n:=λb' k hb hk=>by
  simp only[who'];rw[iP ⟨k,hb,hk⟩]
 have w0: ∀(u:Ty) (ys:List (aX u)) v,gp who w n u ys v b->gp who' w' n u ys v b:=by
  intro u ys v h;rcases h with h|⟨bi,oi,ci,ar,l,k1,k2,k3,k4,k5,k6,k7⟩
  . exact .inl h
  . exact .inr ⟨bi,oi,ci,ar,l,k1,by rw[a0 bi k6];exact k2,k3,k4,k0 bi k5,k6,hE _ _ _ _ k6 k7⟩
 have hcell: ∀p,az w' b o p=if i*t.size+j<=p/\p<i*t.size+j+vs.length then vs[p-(i*t.size+j)]? else az w b o p:=by
  intro p;have c1:w'.cell? ⟨b,o+p,none⟩=(qj arr (o+i*t.size+j) vs)[o+p]? :=by simp[World.cell?,hheapb]
  have c2:w.cell? ⟨b,o+p,none⟩=arr[o+p]? :=by simp[World.cell?,e2]
  simp only[az,c1,c2];rw[Ql b0];by_cases e:i*t.size+j<=p/\p<i*t.size+j+vs.length
  . rw[iP e,iP O];congr 1;omega
  . rw[ae e,ae O]
 have hnewc: ∀k (hk:k<cs.length),dg who' w' n b h2 cs[k] (az w' b o (i*t.size+(j+k))) (i*t.size+(j+k)):=by
  intro k hk;rw[hcell,iP O,show i*t.size+(j+k)-(i*t.size+j)=k by omega]
  rcases hcase with⟨_,_,hc⟩|⟨m,u,ys,rfl,rfl,rfl,q1,q2⟩
  . rcases hc k hk with⟨ik,z,J,G⟩|⟨z,J,G⟩
    . rw[J,G];rfl
    . rw[J,G];rfl
  . have j1:k=0:=by simp at hk;exact hk
    subst j1;have hv:cE β who w m u ys cv:=S.hrel _ mS;refine .inr ⟨cv,rfl,?_⟩;rcases hv.2 with h|⟨bi,oi,ci,ar,l,k1,k2,k3,k4,k5,k6⟩
    . exact .inl h
    . have e0:K m:=by simp[K,ab,qh,qc]
      have j0:bi≠b:=by rintro rfl;rw[e5]at k5;injection k5 with k5;exact t0 (k5▸e0)
      exact .inr ⟨bi,oi,ci,ar,l,k1,by rw[a0 bi j0];exact k2,k3,k4,a1 bi m k5 e0,j0,hE _ _ _ _ j0 k6⟩
 have hold: ∀p ad l c,p<xs.length*t.size->hh≠some p->az w b o p=some (.slice (some ad) l c)->who ad.block=some n:=by
  intro p ad l c hp f1 hc
  have m0:0<t.size:=by
   rcases GJ t.size with h|h
   . rw[h]at hp;omega
   . exact h
  have hq:p/t.size<xs.length:=Ns (by rw[zY];exact hp)
  have hr:p%t.size<(aF t xs[p/t.size]).length:=by rw[Xe];exact kh _ m0
  have:=(Cz (e6 _ hq)).2 _ hr;rw[show p/t.size*t.size+p%t.size=p by rw[zY];exact vB _ _]at this
  rw[hc]at this;generalize (aF t xs[p/t.size])[p%t.size]=cc at this;cases cc with
  |sl ow u ys=>
   rcases this with g|⟨v',J,G⟩
   . exact absurd g f1
   . injection J with J
     subst J;rcases G with⟨q,_⟩|⟨bi,oi,ci,ar,l',k1,k2,k3,k4,k5,k6,k7⟩
     . cases q
     . injection k1 with k1 _ _;injection k1 with k1;subst k1;exact k5
  |int k x=>cases this
  |bool x=>cases this
  |_=>exact this.elim
 have s0:b9 β who' w' n t (xs.set i y) h2 (a.tmps.getD s undef):=by
  refine⟨h1,.inr ⟨b,o,cap,qj arr (o+i*t.size+j) vs,el,by simpa using e1,hheapb,by rw[Qm b0];exact e3,by simpa using e4,k0 b e5,λi' s1=> ?_,?_⟩⟩
  . have x0:i'<xs.length:=by simpa using s1
    have h0: ∀p,¬(i*t.size+j<=p/\p<i*t.size+j+vs.length)-> ∀c,dg who w n b hh c (az w b o p) p->(hh=some p->h2=some p)->dg who' w' n b h2 c (az w' b o p) p:=by
     intro p hp c hc t1;exact hc.imp (by rw[hcell,ae hp]) t1 (λu ys v _ _ h=> .inr (w0 u ys v h))
    have hhole: ∀p,¬(i*t.size+j<=p/\p<i*t.size+j+vs.length)->hh=some p->h2=some p:=by
     intro p hp e;rcases hcase with⟨_,q,_⟩|⟨m,u,ys,_,_,q0,q1,q2⟩
     . rw[q];exact e
     . rw[q1]at e;injection e with e
       exact absurd ⟨O,by rw[q0];simp;omega⟩ hp
    by_cases e:i'=i
    . subst e;rw[K4];have b1:(aF t xs[i']).length=t.size:=Xe;have l0:j+cs.length<=(aF t xs[i']).length:=by rw[b1];exact m1
      refine(vQ (p:=i'*t.size) hy λk hk _=> ?_).1
      have v0:k<(aF t xs[i']).length:=by rw[<-Xc l0];exact hk
      rw[J8 l0 v0];split
      . rename_i hc;have:=hnewc (k-j) O;rw[show j+(k-j)=k by omega]at this
        exact this
      . rename_i hc;have hp: ¬(i'*t.size+j<=i'*t.size+k/\i'*t.size+k<i'*t.size+j+vs.length):=O;exact h0 _ hp _ ((Cz (e6 i' x0)).2 k v0) (hhole _ hp)
    . rw[K0 (λh=>e h.symm)]
      refine cJ.ofCells λk hk=> ?_
      have i1:k<t.size:=by rw[Xe]at hk;exact hk
      have hp: ¬(i*t.size+j<=i'*t.size+k/\i'*t.size+k<i*t.size+j+vs.length):=by
       rintro ⟨J,G⟩
       have:=qlz (m:=t.size) (i:=i') (j:=k) (i':=i) (j':=i'*t.size+k-i*t.size) i1 O O;exact e this.1
      exact h0 _ hp _ ((Cz (e6 i' x0)).2 k hk) (hhole _ hp)
  . intro p q ap aq l l' c c' p1 p2 p3 p4 p5 p6 p7;simp only[zU]at p1 p2;rw[hcell]at p5 p6;rcases hcase with⟨_,hq,hc⟩|⟨m,u,ys,rfl,rfl,rfl,q1,q2⟩
    . have r0: ∀p al l c,(i*t.size+j<=p/\p<i*t.size+j+vs.length)->vs[p-(i*t.size+j)]? ≠some (.slice al l c):=by
       intro p al l c hp hv;rcases hc (p-(i*t.size+j)) O with⟨ik,z,_,G⟩|⟨z,_,G⟩
       . rw[G]at hv;injection hv with hv;cases hv
       . rw[G]at hv;injection hv with hv;cases hv
      split at p5
      . rename_i g;exact absurd p5 (r0 _ _ _ _ g)
      split at p6
      . rename_i g;exact absurd p6 (r0 _ _ _ _ g)
      exact e7 p q ap aq l l' c c' p1 p2 (by rw[<-hq];exact p3) (by rw[<-hq];exact p4) p5 p6 p7
    . have e0:K m:=by simp[K,ab,qh,qc]
      have hv:cE β who w m u ys cv:=S.hrel _ mS
      have i0: ∀ad l c,cv= .slice (some ad) l c->who ad.block=some m:=by
       intro ad l c e;rcases hv.2 with⟨q,_⟩|⟨bi,oi,ci,ar,l',k1,k2,k3,k4,k5,k6⟩
       . rw[q]at e;cases e
       . rw[k1]at e;injection e with e _ _;injection e with e;subst e;exact k5
      have u0:m≠n:=λe=>t0 (e▸e0)
      have g0: ∀p,(i*t.size+j<=p/\p<i*t.size+j+[cv].length)->p=i*t.size+j:=λp hp=>by simp at hp;omega
      split at p5<;>split at p6
      . rename_i J G;rw[g0 p J,g0 q G]
      . rename_i J G;rw[g0 p J,x9]at p5;injection p5 with p5
        have w1:=i0 _ _ _ p5;have w2:=hold q aq l' c' p2 (by rw[q1];intro e;injection e with e;exact G ⟨O,by simp;omega⟩) p6
        rw[p7,w2]at w1;injection w1 with w1;exact absurd w1.symm u0
      . rename_i J G;rw[g0 q G,x9]at p6;injection p6 with p6
        have w1:=i0 _ _ _ p6;have w2:=hold p ap l c p1 (by rw[q1];intro e;injection e with e;exact J ⟨O,by simp;omega⟩) p5
        rw[<-p7,w2]at w1;injection w1 with w1;exact absurd w1.symm u0
      . rename_i J G;exact e7 p q ap aq l l' c c' p1 p2 (by rw[q1];intro e;injection e with e;exact J ⟨O,by simp;omega⟩) (by rw[q1];intro e;injection e with e;exact G ⟨O,by simp;omega⟩) p5 p6 p7
 have S0:=S.drop rfl;have S1:=(S0.takeAll s).drop rfl
 have hdead: ∀x s',x∈ab ((U.set s .dead).get s')->s'≠s/\x∈ab (U.get s'):=λx s' h=>by
  by_cases e:s'=s
  . subst e;rw[qg]at h;simp[ab,qh,qc]at h
  . rw[qf _ _ e]at h;exact⟨e,h⟩
 have S2:=S1.shift (β':=β) (who':=who') (w':=w') (X:=n::ab v) (λh=>by
  rcases mC h with h|h
  . exact S.dfn (by rw[h];exact z0)
  . exact S.dfn (S.hocc _ mS FN (qi h))) (λ_ _=>rfl)
  (fun b' x hb hx=>by
    simp only[zu,not_or]at hx;refine⟨?_,a0 b' (by rintro rfl;rw[e5]at hb;injection hb with hb;exact hx.1 hb.symm)⟩
    simp only[who'];rw[ae];exact hb
    rintro ⟨k,J,G⟩
    rw[hb]at J;injection J with J
    exact hx.2 (J▸G))
  hnone (λb' x h=>by
   grind) d1 (λs' x hx hs=>by
   obtain⟨J,G⟩:=hdead x s' hs;rcases mC hx with rfl|hx
   . exact absurd (S.dis s' s x G (by rw[c0];simp[ab,qh,qc])) J
   . exact absurd G (S.hdis _ mS x hx s')) (λz hz=>by cases hz) (by simp_all)
 have S4:=S2.recast (s:=s) (v:= .dq n t (xs.set i y) h2) (qg ..) s0 (by simp[ab,qh,qc])
  (fun x hx s' hs=>by
    simp only[ab,qh,qc,zA]at hx;subst hx;obtain⟨J,G⟩:=hdead x s' hs;exact J (S.dis s' s x G (by rw[c0];simp[ab,qh,qc])))
  (fun x hx=>by
    simp only[Vs.occ,a9,aK,zA]at hx;subst hx;exact z0)
 refine⟨who',S4.ext λs'=> ?_⟩
 by_cases e:s'=s
 . subst e;rw[qg,qg]
 . rw[qf _ _ e,qf _ _ e,qf _ _ e]
end
section
variable {P:Program} {CO:Q7} {T:TT} {E:ba} {D:Nat->Prop} {β:aU} {who:bp} {U U':ao} {hd:List (AV×Value)} {a:Act} {w w':World} {R W:List Nat}
structure fQ (who:bp) (w:World) (n b:Nat) (t:Ty) (xs:List (aX t)) (hs:List Value):Prop where
 len:hs.length=xs.length*t.size
 one: ∀x∈hs,x.oneCell'=true
 cell: ∀i k (hi:i<xs.length) (hk:k<(aF t xs[i]).length),dg who w n b none (aF t xs[i])[k] hs[i*t.size+k]? (i*t.size+k)
 dist: ∀(p q:Nat) (ap aq:Addr) (l l' c c':Nat),hs[p]? =some (.slice (some ap) l c)->hs[q]? =some (.slice (some aq) l' c')->ap.block=aq.block->p=q
 blk: ∀(p:Nat) (ad:Addr) (l c:Nat),hs[p]? =some (.slice (some ad) l c)->who ad.block=some n/\ad.block≠b
def dg.one {n b p:Nat} {c:AV} {v:Value} (h:dg who w n b none c (some v) p):v.oneCell'=true:=by cases c with|int k x=>{injection h with h;subst h;rfl}|bool x=>{injection h with h;subst h;rfl}|sl o t xs=>{rcases h with h|⟨v',h1,h2⟩;{cases h};{injection h1 with h1;subst h1;obtain⟨ad,l,c,rfl⟩:=h2.one;rfl}}|_=>exact h.elim
def dg.blk {n b p:Nat} {c:AV} {ad:Addr} {l cp:Nat} (h:dg who w n b none c (some (.slice (some ad) l cp)) p):who ad.block=some n/\ad.block≠b:=by cases c with|int k x=>{injection h with h;cases h}|bool x=>{injection h with h;cases h}|sl o t xs=>{rcases h with h|⟨v',J,h2⟩;{cases h};{injection J with J;subst J;rcases h2 with⟨q,_⟩|⟨bi,oi,ci,ar,l',G,k2,k3,k4,O,K,k7⟩;{cases q};{injection G with G _ _;injection G with G;subst G;exact⟨O,K⟩}}}|_=>exact h.elim
def dg.some {n b p:Nat} {c:AV} {o:Option Value} (h:dg who w n b none c o p): ∃v,o=some v:=by cases c with|int k x=>exact⟨_,h⟩|bool x=>exact⟨_,h⟩|sl ow t xs=>{rcases h with h|⟨v',h1,_⟩;{cases h};{exact⟨_,h1⟩}}|_=>exact h.elim
def b9.news {n:Nat} {t:Ty} {xs:List (aX t)} {v:Value} (h:b9 β who w n t xs none v):
 ∃b hs,fQ who w n b t xs hs/\(∀w1:World,w1.heap=w.heap->(Builtin.firstCells t.size xs.length v).run P w1= .ok hs.toArray w1)/\
  (v≠ .slice none 0 0-> ∃o cap arr el,v= .slice (some ⟨b,o,none⟩) xs.length cap/\w.heap[b]? =some (.cells arr el (0,0))/\o+cap*t.size<=arr.size/\xs.length<=cap/\who b=some n/\ ∀p,p<hs.length->az w b o p=hs[p]?):=by obtain⟨h1,h⟩:=h;rcases h with⟨rfl,rfl⟩|⟨b,o,cap,arr,el,e1,e2,e3,e4,e5,e6,e7⟩;{exact⟨0,[],⟨by simp,λx hx=>by simp at hx,λi k hi=>by simp at hi,λp q ap aq l l' c c' h=>by simp at h,λp ad l c h=>by simp at h⟩,λw1 _=>by simp[Builtin.firstCells],λh=>absurd rfl h⟩};obtain⟨hs,b0⟩: ∃hs:List Value,hs=(List.range (xs.length*t.size)).map λp=>(az w b o p).getD undef:=⟨_,rfl⟩;have hlen:hs.length=xs.length*t.size:=by{rw[b0];simp};have e0: ∀p,p<xs.length*t.size-> ∃i k,∃hi:i<xs.length,∃hk:k<(aF t xs[i]).length,p=i*t.size+k:=by{intro p K;have c0:0<t.size:=by{rcases GJ t.size with h|h;{rw[h]at K;omega};{exact h}};have hq:p/t.size<xs.length:=Ns (by rw[zY];exact K);refine⟨p/t.size,p%t.size,hq,by rw[Xe];exact kh _ c0,?_⟩;rw[zY];exact(vB _ _).symm};have a0: ∀p,p<xs.length*t.size-> ∃c,dg who w n b none c (az w b o p) p:=by{intro p K;obtain⟨i,k,hi,hk,rfl⟩:=e0 p K;exact⟨_,(Cz (e6 i hi)).2 k hk⟩};have G: ∀p,p<xs.length*t.size->hs[p]? =az w b o p:=by{intro p K;obtain⟨c,hc⟩:=a0 p K;obtain⟨v,hv⟩:=hc.some;rw[b0,List.getElem?_map,List.getElem?_range K,hv];simp[hv]};have J: ∀{p:Nat} {v:Value},hs[p]? =some v->p<xs.length*t.size:=λ{p v} h=>by{have:=(List.getElem?_eq_some_iff.1 h).1;omega};refine⟨b,hs,⟨hlen,λx hx=> ?_,λi k hi hk=> ?_,λp q ap aq l l' c c' p1 p2 p3=> ?_,λp ad l c p1=> ?_⟩,λw1 d0=> ?_,λ_=>⟨o,cap,arr,el,e1,e2,e3,e4,e5,λp K=>(G p O).symm⟩⟩;{obtain⟨p,K,rfl⟩:=ml hx;obtain⟨c,hc⟩:=a0 p O;rw[<-G p O,List.getElem?_eq_getElem K]at hc;exact hc.one};{have g0:k<t.size:=by{rw[Xe]at hk;exact hk};rw[G _ (PZ hi g0)];exact(Cz (e6 i hi)).2 k hk};{exact e7 p q ap aq l l' c c' (J p1) (J p2) (by simp) (by simp) (by rw[<-G p (J p1)];exact p1) (by rw[<-G q (J p2)];exact p2) p3};{obtain⟨cc,hc⟩:=a0 p (J p1);rw[<-G p (J p1),p1]at hc;exact hc.blk};{rw[e1];simp only[Builtin.firstCells];rw[run_loadCells (P:=P) w1 ⟨b,o,none⟩ (xs.length*t.size) (λp=>(az w b o p).getD undef) (λp K=> ?_)];{rw[b0]};{obtain⟨c,hc⟩:=a0 p K;obtain⟨v,hv⟩:=hc.some;rw[hv,bN];simp only[az,World.cell?]at hv⊢;rw[d0];exact hv}}
def b9.mk' {n:Nat} {t:Ty} {zs:List (aX t)} {hs:List Value} {v:Value} {b o cap:Nat} {arr:Array Value} {el:TypeId} (hβ:β n=v)
 (hv:v= .slice (some ⟨b,o,none⟩) zs.length cap) (hh:w.heap[b]? =some (.cells arr el (0,0))) (h1:o+cap*t.size<=arr.size) (h2:zs.length<=cap) (h3:who b=some n)
 (hd:fQ who w n b t zs hs) (K: ∀p,p<hs.length->az w b o p=hs[p]?):b9 β who w n t zs none v:=by refine⟨hβ.symm,.inr ⟨b,o,cap,arr,el,hv,hh,h1,h2,h3,λi O=>cJ.ofCells λk J=> ?_,λp q ap aq l l' c c' p1 p2 _ _ p5 p6 p7=> ?_⟩⟩;{have G:k<t.size:=by{rw[Xe]at J;exact J};rw[K _ (by rw[hd.len];exact PZ O G)];exact hd.cell i k O J};{exact hd.dist p q ap aq l l' c c' (by rw[<-K p (by rw[hd.len];exact p1)];exact p5) (by rw[<-K q (by rw[hd.len];exact p2)];exact p6) p7}
def fQ.append {who':bp} {n m k bx e0 b0:Nat} {t:Ty} {xs ys:List (aX t)} {K hy:List Value} (h1:fQ who w n bx t xs K) (h2:fQ who w m e0 t ys hy) (d0:m≠n)
 (p1: ∀b,who b=some n->who' b=some k) (p2: ∀b,who b=some m->who' b=some k) (p3: ∀b,who b=none->b<w.heap.size->who' b=none/\w'.heap[b]? =w.heap[b]?) (p4:w.heap.size<=w'.heap.size)
 (p5: ∀(p:Nat) (ad:Addr) (l c:Nat),K[p]? =some (.slice (some ad) l c)->ad.block≠b0/\w'.heap[ad.block]? =w.heap[ad.block]?) (p6: ∀(p:Nat) (ad:Addr) (l c:Nat),hy[p]? =some (.slice (some ad) l c)->ad.block≠b0/\w'.heap[ad.block]? =w.heap[ad.block]?):
 fQ who' w' k b0 t (xs++ys) (K++hy):=by
 have a0:=h1.len;have h0:=h2.len
 have conv: ∀(nn bb:Nat) (hh:List Value) (c:AV) (p p':Nat),(∀b,who b=some nn->who' b=some k)->(∀(p:Nat) (ad:Addr) (l c:Nat),hh[p]? =some (.slice (some ad) l c)->ad.block≠b0/\w'.heap[ad.block]? =w.heap[ad.block]?)->
  dg who w nn bb none c hh[p]? p->dg who' w' k b0 none c hh[p]? p':=by
  intro nn bb hh c p p' J q2 hc;refine hc.imp rfl (λh=>by cases h) λu ys v hv _ hi=> .inr ?_
  rcases hi with g|⟨bi,oi,ci,ar,l,k1,k2,k3,k4,k5,k6,k7⟩
  . exact .inl g
  . obtain⟨g1,g2⟩:=q2 p ⟨bi,oi,none⟩ _ _ (by rw[hv,k1])
    exact .inr ⟨bi,oi,ci,ar,l,k1,by rw[g2];exact k2,k3,k4,J bi k5,g1,k7.keep p3 p4 g2⟩
 have G: ∀p,p<K.length->(K++hy)[p]? =K[p]? :=λp hp=>List.getElem?_append_left hp
 have uB: ∀p,¬p<K.length->(K++hy)[p]? =hy[p-K.length]? :=λp hp=>List.getElem?_append_right O
 refine⟨by rw[zG,zG,gr,a0,h0],λx g0=> ?_,λi j hi hj=> ?_,λp q ap aq l l' c c' J q2 q3=> ?_,λp ad l c J=> ?_⟩
 . rcases zZ.1 g0 with h|h
   . exact h1.one x h
   . exact h2.one x h
 . have c0:j<t.size:=by rw[Xe]at hj;exact hj
   by_cases a1:i<xs.length
   . rw[G _ (by rw[a0];exact PZ a1 c0)]
     have:=h1.cell i j a1 (by rw[Xe];exact c0)
     have:=conv n bx K _ _ (i*t.size+j) p1 p5 this
     simpa only[ya a1]using this
   . have a2:i-xs.length<ys.length:=by rw[zG]at hi;omega
     have hle:xs.length*t.size<=i*t.size:=zO _ O;have e:i*t.size+j-K.length=(i-xs.length)*t.size+j:=by rw[a0,Nat.sub_mul];omega
     rw[uB _ O,e];have:=h2.cell (i-xs.length) j a2 (by rw[Xe];exact c0)
     have:=conv m e0 hy _ _ (i*t.size+j) p2 p6 this
     simpa only[vF (ue a1)]using this
 . by_cases a1:p<K.length<;>by_cases a2:q<K.length
   . rw[G p a1]at J;rw[G q a2]at q2;exact h1.dist p q ap aq l l' c c' J q2 q3
   . rw[G p a1]at J;rw[uB q a2]at q2;have g1:=(h1.blk _ _ _ _ J).1;have g2:=(h2.blk _ _ _ _ q2).1;rw[q3,g2]at g1;injection g1 with g1;exact absurd g1 d0
   . rw[uB p a1]at J;rw[G q a2]at q2;have g1:=(h2.blk _ _ _ _ J).1;have g2:=(h1.blk _ _ _ _ q2).1;rw[q3,g2]at g1;injection g1 with g1;exact absurd g1.symm d0
   . rw[uB p a1]at J;rw[uB q a2]at q2;have:=h2.dist _ _ ap aq l l' c c' J q2 q3;omega
 . by_cases a1:p<K.length
   . rw[G p a1]at J;exact⟨p1 _ (h1.blk _ _ _ _ J).1,(p5 _ _ _ _ J).1⟩
   . rw[uB p a1]at J;exact⟨p2 _ (h2.blk _ _ _ _ J).1,(p6 _ _ _ _ J).1⟩
def qbp (hT:bL P T) {idx:Nat} {k0:Array TypeId} {rt t0 t1 e e1:TypeId} {et r1:Ty} {cells cells1:List ZC} {n m:Nat} {t:Ty} {xs ys:List (aX t)} {cx cy:Value}
 (h0:k0[0]? =some t0) (h1:k0[1]? =some t1) (i1:T.at t0=some {desc:= .slice e et,cells:=cells}) (f1:T.at t1=some {desc:= .slice e1 r1,cells:=cells1})
 (z0:et.size=t.size) (S:aC E D β who U [(.dq m t ys none,cy),(.dq n t xs none,cx)] a w) (s1:0<ys.length) (hlen:xs.length+ys.length<=1073741824) (hf: ∀k,k<16-> ¬D (fresh idx k)):
 ∃r w' β' who',(Builtin.append_ k0 rt #[cx,cy]).run P w= .ok r w'/\aC E (Dn D idx) β' who' U [(.dq (fresh idx 15) t (xs++ys) none,r)] a w':=by obtain⟨w0,⟨ei,ez,he,m1,hbytes,_,hz,d1⟩⟩:=(hT t0 _ i1).desc;obtain⟨v0,_⟩:=(hT t1 _ f1).desc;have b0:ei.size=t.size:=by{rw[m1,z0]};have s0:ez.cells.size=t.size:=by{rw[<-Array.length_toList,d1,Qn,z0]};have hX:b9 β who w n t xs none cx:=S.hrel _ (mT mS);have hY:b9 β who w m t ys none cy:=S.hrel _ mS;have l0:m≠n:=by{have:=S.hnod;simp only[fC,Cs,ab,qh,qc,mz,yh,oF,zA]at this;exact this.1};obtain⟨r0,G,rfl⟩:=hX.len;obtain⟨q0,g0,rfl⟩:=hY.len;obtain⟨bx,hx,cX,rX,qX⟩:=hX.news (P:=P);obtain⟨u1,hy,cY,rY,qY⟩:=hY.news (P:=P);have i0: ∃z∈([(.dq m t ys none,.slice q0 ys.length g0),(.dq n t xs none,.slice r0 xs.length G)]:List (AV×Value)),n∈ab z.1:=⟨_,mT mS,by simp[ab,qh,qc]⟩;have u0: ∃z∈([(.dq m t ys none,.slice q0 ys.length g0),(.dq n t xs none,.slice r0 xs.length G)]:List (AV×Value)),m∈ab z.1:=⟨_,mS,by simp[ab,qh,qc]⟩;have e0: ∀{b x:Nat},who b=some x->b<w.heap.size:=λh=>S.wsz _ _ h;have k1:=cX.len;have m0:=cY.len;by_cases hroom:xs.length+ys.length<=G;{obtain⟨o,cap,arr,el,e1,e2,e3,e4,e5,e6⟩:=qX (by intro e;injection e with _ q1 q2;omega);injection e1 with q1 _ q2;subst q1 q2;have hmul:(xs.length+ys.length)*t.size<=G*t.size:=zO _ hroom;rw[gr]at hmul;have K:o+xs.length*ei.size+hy.length<=arr.size:=by{rw[b0,m0];omega};have J:=q1d (P:=P) (rt:=rt) h0 h1 w0 v0 he (o:=o) (sLen:=xs.length) (sCap:=G) e2 (by rw[b0];exact rY w rfl) (by rw[b0];exact m0) cY.one hroom K;rw[b0]at J K;obtain⟨w',c0⟩: ∃w',w'=w.setRow bx (qj arr (o+xs.length*t.size) hy):=⟨_,rfl⟩;have a0: ∀b',b'≠bx->w'.heap[b']? =w.heap[b']? :=λb' hb=>by{rw[c0];exact setRow_other w bx b' _ hb};have hheap:w'.heap[bx]? =some (.cells (qj arr (o+xs.length*t.size) hy) el (0,0)):=by{rw[c0];exact setRow_heap w bx arr _ el _ e2};have x0:w'.heap.size=w.heap.size:=by{rw[c0];simp};rw[<-c0]at J;obtain⟨β',who',S'⟩:=S.mergeHand (idx:=idx) (v:= .dq (fresh idx 15) t (xs++ys) none) (c:= .slice (some ⟨bx,o,none⟩) (xs.length+ys.length) G) (base:= .slice (some ⟨bx,o,none⟩) (xs.length+ys.length) G) (w':=w') hf (by simp[ab,qh,qc]) (by simp[Vs.occ,a9,aK]) (fun b' x hb hx=>a0 b' (by{rintro rfl;rw[e5]at hb;injection hb with hb;obtain⟨z,hz,hn⟩:=i0;exact hx z hz (hb▸hn)})) (λb' hb _=>a0 b' (by rintro rfl;rw[e5]at hb;cases hb)) O (by rw[c0];exact⟨rfl,rfl⟩) (fun β' who' g1 g2 g3 g4=>by{refine b9.mk' (hs:=hx++hy) g1 (by rw[zG]) hheap (by rw[Qm K];exact e3) (by rw[zG];exact hroom) (g2 bx n e5 i0) (cX.append cY l0 (λb' h=>g2 b' n h i0) (λb' h=>g2 b' m h u0) (λb' h hl=>⟨g4 b' h hl,a0 b' (by rintro rfl;rw[e5]at h;cases h)⟩) O (λp ad l c q=>⟨(cX.blk p ad l c q).2,a0 _ (cX.blk p ad l c q).2⟩) (fun p ad l c q=>by{have b1:ad.block≠bx:=by{intro e;have:=(cY.blk p ad l c q).1;rw[e,e5]at this;injection this with this;exact l0 this.symm};exact⟨b1,a0 _ b1⟩})) (λp hp=> ?_);have c1:az w' bx o p=(qj arr (o+xs.length*t.size) hy)[o+p]? :=by{simp[az,World.cell?,hheap]};rw[c1,Ql K];by_cases a1:p<hx.length;{rw[ae O,List.getElem?_append_left a1,<-e6 p a1];simp[az,World.cell?,e2]};{rw[zG]at hp;rw[iP O,List.getElem?_append_right O];congr 1;omega}});exact⟨_,w',β',who',J,S'⟩};{have J:=q06 (P:=P) (rt:=rt) (w:=w) h0 h1 w0 v0 he hz (sa:=r0) (sLen:=xs.length) (sCap:=G) (m:=ys.length) (ad:=q0) (c:=g0) (olds:=hx) (news:=hy) (by rw[b0];exact rX w.drew rfl) (by rw[b0];exact rY w.drew rfl) O hbytes hlen;have hcapge:xs.length+ys.length<=grownCap w (xs.length+ys.length) G e:=grownCap_ge w _ _ e;obtain⟨row,d0⟩: ∃row,row=hx.toArray++hy.toArray++Builtin.zeroCells ez.cells (grownCap w (xs.length+ys.length) G e-(xs.length+ys.length)):=⟨_,rfl⟩;rw[<-d0]at J;have j1:row.size=grownCap w (xs.length+ys.length) G e*t.size:=by{rw[d0];simp only[Array.size_append,List.size_toArray,k1,m0,size_zeroCells,s0,<-Nat.add_mul];congr 1;omega};have j0:(w.drew.alloc (.cells row e)).heap[w.heap.size]? =some (.cells row e (0,0)):=heap_alloc_new w.drew _;have hold: ∀b',b'<w.heap.size->(w.drew.alloc (.cells row e)).heap[b']? =w.heap[b']? :=λb' p1=>heap_alloc_old w.drew _ b' p1;have x0:(w.drew.alloc (.cells row e)).heap.size=w.heap.size+1:=by{simp};obtain⟨β',who',S'⟩:=S.mergeHand (idx:=idx) (v:= .dq (fresh idx 15) t (xs++ys) none) (c:= .slice (some ⟨w.heap.size,0,none⟩) (xs.length+ys.length) (grownCap w (xs.length+ys.length) G e)) (base:= .slice (some ⟨w.heap.size,0,none⟩) (xs.length+ys.length) (grownCap w (xs.length+ys.length) G e)) (w':=w.drew.alloc (.cells row e)) hf (by simp[ab,qh,qc]) (by simp[Vs.occ,a9,aK]) (λb' x hb _=>hold b' (e0 hb)) (λb' _ hl=>hold b' hl) O ⟨rfl,rfl⟩ (fun β' who' g1 g2 g3 g4=>by{refine b9.mk' (hs:=hx++hy) g1 (by rw[zG]) j0 (by rw[j1];omega) (by rw[zG];exact hcapge) (g3 _ (zI _) O) (cX.append cY l0 (λb' h=>g2 b' n h i0) (λb' h=>g2 b' m h u0) (λb' h hl=>⟨g4 b' h hl,hold b' hl⟩) O (fun p ad l c q=>by{have:=e0 (cX.blk p ad l c q).1;exact⟨Nat.ne_of_lt this,hold _ this⟩}) (fun p ad l c q=>by{have:=e0 (cY.blk p ad l c q).1;exact⟨Nat.ne_of_lt this,hold _ this⟩})) (λp hp=> ?_);have c1:az (w.drew.alloc (.cells row e)) w.heap.size 0 p=row[p]? :=by{simp only[az,World.cell?,j0,zH];rfl};rw[c1,d0];rw[Array.getElem?_append_left (by simpa using hp),List.append_toArray,List.getElem?_toArray]});exact⟨_,_,β',who',J,S'⟩}
def qf2 (hT:bL P T) {idx t:Nat} {cs:List AV} {cv:Value} {e:TypeId} {ty:Ty} {u0:List ZC} {y:aX ty} (ht:T.at t=some {desc:= .slice e ty,cells:=u0}) (S:aC E D β who U [(.agg cs,cv)] a w) (hf: ∀k,k<16-> ¬D (fresh idx k))
 (t0:cs.all ZL=true) (e1:ty.size<=64) (l0:J4 ty cs=some (y,[])):
 ∃r w' β' who',(Instr.buildSlice t 1 #[(0,cv)]).run P w= .ok r w'/\aC E (Dn D idx) β' who' U [(.dq (fresh idx 15) ty [y] none,r)] a w':=by obtain⟨hu,⟨ei,ez,he,c0,hb,f1,hz,d1⟩⟩:=(hT t _ ht).desc;have hv: ∃arr,cv= .agg arr/\bg β who w cs arr:=S.hrel _ mS;obtain⟨arr,rfl,b0,r0⟩:=hv;have m0: ∀k (J:k<cs.length),ZL cs[k]=true:=λk J=>zq.1 t0 _ (zW J);obtain⟨_,hr,hle⟩:=P4 (who:=who) (w:=w) (β:=β) (f:=λk=>arr.getD k undef) (g:=λk=>some (arr.getD k undef)) (j:=0) l0 (λk J=>by{have h1:=m0 k J;have h2:=r0 k J;generalize cs[k]=c at h1 h2;refine V6 ?_ h2;cases c with|sl o t xs=>{cases o<;>first|rfl|cases h1}|bool b=>rfl|int k n=>rfl|_=>cases h1}) (λk _=>by simp);have x0:cs.length=ty.size:=by{have:=congrArg List.length hr;simp at this;omega};have K:arr.size=ei.size:=by{rw[b0,x0,c0]};have j0:(Value.agg arr).cells=arr:=rfl;obtain⟨G,g0⟩: ∃G,G=(Array.range (1*ei.size)).map λi=>ez.cells[i%ez.cells.size]! :=⟨_,rfl⟩;have i0:G.size=ei.size:=by{rw[g0];simp};have e0:0+arr.toList.length<=G.size:=by{rw[i0,xf,K];omega};have hfill:Instr.fill (λi=>some (i*ei.size,ei.size)) G [(0,.agg arr)]=some (qj G 0 arr.toList):=by{rw[Wh (off:=0*ei.size) (size:=ei.size) rfl (by rw[j0,K]) (by rw[j0,i0,K];omega),j0,yi];rfl};have s0: ¬(1*ei.size>2^24):=by{rw[c0];have:(2:Nat)^24=16777216:=rfl;omega};have k0:(Instr.buildSlice t 1 #[(0,.agg arr)]).run P w= .ok (.slice (some ⟨w.heap.size,0,none⟩) 1 1) (w.alloc (.cells (qj G 0 arr.toList) e)):=by{unfold Instr.buildSlice;simp only[Sem.run_bind,run_underlying hu,Result.andThen_ok,Xv he,s0,if_false];have b1:(newRow e (qj G 0 arr.toList)>>=λx=>pure (Value.slice (some x) 1 1):Sem Value).run P w= .ok (.slice (some ⟨w.heap.size,0,none⟩) 1 1) (w.alloc (.cells (qj G 0 arr.toList) e)):=by{simp[newRow]};split;{rename_i h0;have:=Ty.size_pos ty;omega};{simp only[Sem.run_bind,P2 he hz,Sem.run_pure,Result.andThen_ok];grind}};have d0:=heap_alloc_new w (.cells (qj G 0 arr.toList) e);have hold: ∀b',b'<w.heap.size->(w.alloc (.cells (qj G 0 arr.toList) e)).heap[b']? =w.heap[b']? :=λb' z0=>heap_alloc_old w _ b' z0;have a1:(w.alloc (.cells (qj G 0 arr.toList) e)).heap.size=w.heap.size+1:=by{simp};have hcell: ∀(who':bp) (w':World) (n b k:Nat) (J:k<cs.length) (p:Nat),dg who' w' n b none cs[k] arr.toList[k]? p/\ ∀ad l c,arr.toList[k]? ≠some (.slice (some ad) l c):=by{intro who' w' n b k J p;have h1:=m0 k J;have h2:=r0 k J;have q0:k<arr.size:=by{rw[b0];exact J};have h3:arr.toList[k]? =some (arr.getD k undef):=by{rw[Array.getElem?_toList,Array.getElem?_eq_getElem q0];simp[Array.getD,q0]};rw[h3];generalize cs[k]=c at h1 h2;cases c with|sl o t xs=>{cases o with|nl=>{obtain⟨g1,g2⟩:=h2;rw[g1];exact⟨.inr ⟨_,rfl,.inl ⟨rfl,g2⟩⟩,λad l c e=>by injection e with e;cases e⟩}|_=>cases h1}|bool b=>{have h2:_=_:=h2;rw[h2];exact⟨rfl,λad l c e=>by injection e with e;cases e⟩}|int k n=>{have h2:_=_:=h2;rw[h2];exact⟨rfl,λad l c e=>by injection e with e;cases e⟩}|_=>cases h1};have w0: ∀(who':bp) (w':World) (n b:Nat),fQ who' w' n b ty [y] arr.toList:=by{intro who' w' n b;refine⟨by rw[xf,K,c0];simp,λx hx=> ?_,λi k hi J=> ?_,λp q ap aq l l' c c' q1 _ _=> ?_,λp ad l c q1=> ?_⟩;{obtain⟨p,hp,rfl⟩:=ml hx;have a0:p<cs.length:=by{rw[xf,b0]at hp;exact hp};have:=(hcell who' w' n b p a0 p).1;rw[List.getElem?_eq_getElem hp]at this;exact this.one};{have v0:i=0:=by{simpa using hi};subst v0;have:=vQ (who:=who') (w:=w') (n:=n) (bk:=b) (hh:=none) (g:=λp=>arr.toList[p]?) (p:=0) l0 (λk J _=>by{have:=(hcell who' w' n b k J (0+k)).1;simpa using this});have:=(Cz this.1).2 k J;simpa using this};{have hp:=(List.getElem?_eq_some_iff.1 q1).1;have a0:p<cs.length:=by{rw[xf,b0]at hp;exact hp};exact absurd q1 ((hcell who' w' n b p a0 p).2 _ _ _)};{have hp:=(List.getElem?_eq_some_iff.1 q1).1;have a0:p<cs.length:=by{rw[xf,b0]at hp;exact hp};exact absurd q1 ((hcell who' w' n b p a0 p).2 _ _ _)}};obtain⟨β',who',S'⟩:=S.mergeHand (idx:=idx) (v:= .dq (fresh idx 15) ty [y] none) (c:= .slice (some ⟨w.heap.size,0,none⟩) 1 1) (base:= .slice (some ⟨w.heap.size,0,none⟩) 1 1) (w':=w.alloc (.cells (qj G 0 arr.toList) e)) hf (by simp[ab,qh,qc]) (by simp[Vs.occ,a9,aK]) (λb' x hb _=>hold b' (S.wsz _ _ hb)) (λb' _ hl=>hold b' hl) O ⟨rfl,rfl⟩ (fun β' who' g1 g2 g3 g4=>by{refine b9.mk' (hs:=arr.toList) g1 rfl d0 (by rw[Qm e0,i0,c0];simp) (zI _) (g3 _ (zI _) O) (w0 ..) (λp hp=> ?_);have c1:az (w.alloc (.cells (qj G 0 arr.toList) e)) w.heap.size 0 p=(qj G 0 arr.toList)[p]? :=by{simp only[az,World.cell?,d0,zH];rfl};rw[c1,Ql e0,iP O,OM]});exact⟨_,_,β',who',k0,S'⟩
def aC.newNilDq {m:Nat} {v0:AV} {t:Ty} {c0:Value} {D':Nat->Prop} (S:aC E D β who U ((v0,c0)::hd) a w) (hm: ¬D m) (hD: ∀x,D x->D' x) (hDm:D' m) (hDF: ¬D' FN):
 ∃β',aC E D' β' who U ((.dq m t [] none,dO)::hd) a w:=by
 let β':aU:=λx=>if x=m then dO else β x
 have hb: ∀x,D x->β' x=β x:=λx hx=>by grind
 have S0:=((S.drop rfl).keep (β':=β') (who':=who) (w':=w) hb (λ_ _ h=>h) (λ_ _=>rfl) (λ_ h _=>h) S.wsz (zI _)).mono hD hDF
 refine⟨β',?_⟩
 exact{S0 with
  hrel:=λy hy=>by
   rcases mC hy with rfl|hy
   . exact⟨by simp[β'],.inl ⟨rfl,rfl⟩⟩
   . exact S0.hrel y hy
  hnod:=by
   simp only[fC,ab,qh,qc,yh,oF];refine⟨λh=> ?_,S0.hnod⟩
   obtain⟨x,hx,hn⟩:=zL.1 h;exact hm (S.hocc x (mT hx) m (qi hn))
  hdis:=λy hy=>by
   rcases mC hy with rfl|hy
   . intro x hx s hs;simp only[ab,qh,qc,zA]at hx;subst hx;exact hm (S.occ s x (qi hs))
   . exact S0.hdis y hy
  hocc:=λy hy=>by
   rcases mC hy with rfl|hy
   . intro x hx;simp only[Vs.occ,a9,aK,zA]at hx;subst hx;exact hDm
   . exact S0.hocc y hy}
end
section
variable {P:Program} {CO:Q7} {T:TT} {E:ba} {D:Nat->Prop} {β:aU} {who:bp} {U U':ao} {hd:List (AV×Value)} {a:Act} {w w':World} {R W:List Nat}
def q5p {t:Ty} {x:aX t} {c:AV} (h:c∈(aF t x).map qt8):qc c=[]/\aK c=[]:=by obtain⟨d,hd,rfl⟩:=zk.1 h;rcases Jr hd with⟨k,n,rfl⟩|⟨b,rfl⟩|⟨o,t',xs,rfl,_⟩<;>exact⟨rfl,rfl⟩
def qcv {t:Nat} {ti:TI} (c0:gZ P t ti) {s n sz i j:Nat} {v:AV} {c:Value} (h:aw CO (XQ ti n sz i j (U.get s)) U v U' R W) (S:aC E D β who U [] a w) (hx:dL (β n) sz i j c):
 U'=U/\ ∃r,(Instr.loadAt t c).run P w= .ok r w/\br β who w v r/\ab v=[]/\occ v=[]:=by
 unfold XQ at h;split at h
 case h_2=>exact(aw.fail' h).elim
 rename_i m ty xs hh h0;split at h
 case isFalse=>exact(aw.fail' h).elim
 rename_i hc;obtain⟨rfl,rfl⟩:=hc;obtain⟨hp,rfl⟩:=aw.mopt' h;refine⟨rfl,?_⟩;have G:=S.dq h0;obtain⟨ad,cap,hl⟩:=G.len;rw[G.1]at hl;obtain⟨b,o,rfl,hi,rfl⟩:=hx.slice hl;obtain⟨h1,b',o',j0,arr,el,e1,e2,e3,e4,e5,e6,e7⟩:=G.pos (Qc hi);rw[h1,hl]at e1;injection e1 with J _ q3
 injection J with J;injection J with J q2 _
 subst J q2 q3;have a0:xs.getD i ty.zero=xs[i]:=by simp[List.getD,List.getElem?_eq_getElem hi]
 rw[a0]at hp;obtain⟨b0,hu⟩:=Cz (e6 i hi);have i0:xs.length*ty.size<=cap*ty.size:=zO _ e4;have g0:(i+1)*ty.size<=xs.length*ty.size:=zO _ O;rw[gr]at g0
 let f:Nat->Value:=λk=>arr.getD (o+i*ty.size+k) undef
 have hf: ∀k,k<ty.size->az w b o (i*ty.size+k)=some (f k):=λk hk=>by
  have d0:o+i*ty.size+k<arr.size:=O;simp only[az,World.cell?,e2,f];simp[<-Nat.add_assoc,Array.getD,d0]
 obtain⟨p1,p2,p3,p4,p5⟩:=VL (β:=β) (who:=who) (w:=w) (f:=f) hp (λk hk=>by
  have e0:k<(aF ty xs[i]).length:=by simpa using hk
  have:=hu k e0;rw[hf k O]at this;rw[qL];generalize (aF ty xs[i])[k]=cc at this;cases cc with
  |int k x=>injection this with this
  |bool x=>injection this with this
  |sl o t xs=>trivial
  |_=>exact this.elim)
 simp only[zi,b0]at p1
 have K:=Xx c0 (b:=b) (o:=o+i*ty.size+j) (f:=λk=>f (j+k)) w (λk hk=>by
  have:=hf (j+k) O;simp only[az]at this;rw[<-this,<-Nat.add_assoc,<-Nat.add_assoc]) p3
 refine⟨_,K,by simpa using p2,?_,?_⟩
 . rw[p4];exact Qa λc hc=>(q5p (xa (oK hc))).1
 . rw[p5];exact Qa λc hc=>(q5p (xa (oK hc))).2
def qdn {t:Nat} {ti:TI} (d0:gZ P t ti) {idx s n sz i j:Nat} {v:AV} {c:Value} (h:aw CO (takeDq idx ti s n sz i j (U.get s)) U v U' R W) (S:aC E D β who U [] a w) (hx:dL (β n) sz i j c)
 (hf: ∀k,k<16-> ¬D (fresh idx k)): ∃r β' who',(Instr.loadAt t c).run P w= .ok r w/\aC E (Dn D idx) β' who' U' [(v,r)] a w:=by
 unfold takeDq at h;split at h
 case h_2=>exact(aw.fail' h).elim
 rename_i m ty xs a0;split at h
 case isFalse=>exact(aw.fail' h).elim
 rename_i hc;obtain⟨rfl,rfl,g0,b0⟩:=hc;have K:=S.dq a0;obtain⟨ad,cap,hl⟩:=K.len;rw[K.1]at hl;obtain⟨b,o,rfl,hi,rfl⟩:=hx.slice hl;have c0:xs.getD i ty.zero=xs[i]:=by simp[List.getD,List.getElem?_eq_getElem hi]
 rw[c0]at h;split at h
 case h_2=>exact(aw.fail' h).elim
 rename_i ow u ys hu;obtain⟨_,U2,_,_,_,_,h3,h4⟩:=aw.bind' h;have:=aw.mset' h3;subst this;obtain⟨rfl,rfl⟩:=aw.pure' h4;obtain⟨b',o',h0,cv,e1,e2,β',who',S'⟩:=S.takeDq (idx:=idx) a0 hi hu hf;rw[hl]at e1;injection e1 with J _ q3
 injection J with J;injection J with J q2 _
 subst J q2 q3
 have G:=Xx d0 (b:=b) (o:=o+i*ty.size+j) (f:=λ_=>cv) w (λk hk=>by
  have e0:k=0:=O;subst e0;simp only[az]at e2;rw[<-e2,zS,<-Nat.add_assoc]) (λ_=>g0)
 rw[b0]at G;exact⟨cv,β',who',by simpa using G,S'⟩
def qcg {t:Nat} {ti:TI} (e0:gZ P t ti) {s n sz i j:Nat} {v:AV} {c G:Value} {u:Unit} (h:aw CO (YR ti s n sz i j v (U.get s)) U u U' R W) (S:aC E D β who U [(v,G)] a w) (hx:dL (β n) sz i j c):
 ∃w' who',(Instr.storeAt t c G).run P w= .ok () w'/\aC E D β who' U' [] a w':=by
 unfold YR at h;split at h
 case h_2=>exact(aw.fail' h).elim
 rename_i m ty xs hh c0;split at h
 case isFalse=>exact(aw.fail' h).elim
 rename_i hc;obtain⟨rfl,rfl,hlen,hbare⟩:=hc;have b0:=S.dq c0;obtain⟨ad,cap,hl⟩:=b0.len;rw[b0.1]at hl;obtain⟨b,o,rfl,hi,rfl⟩:=hx.slice hl;have d0:xs.getD i ty.zero=xs[i]:=by simp[List.getD,List.getElem?_eq_getElem hi]
 rw[d0]at h;obtain⟨x',hs,h⟩:=aw.ofOpt' h;have:=aw.mset' h;subst this;have h0: ∀k (J:k<(cellsOf v).length),qi8 (cellsOf v)[k]=true:=λk J=>zq.1 hbare _ (zW J)
 have g0:(cellsOf v).all cr=true:=zq.2 λc hc=>by
  have:=zq.1 hbare c hc;cases c<;>first|rfl|cases this
 obtain⟨q1,q2,q3,q4⟩:=Yj (S.hrel _ mS) g0
 have hcase: ∀k (J:k<(cellsOf v).length),(∃ik z,(cellsOf v)[k]= .int ik z/\G.cells.toList[k]? =some (.int ik z))\/(∃y,(cellsOf v)[k]= .bool y/\G.cells.toList[k]? =some (.bool y)):=by
  intro k J;have h1:=h0 k J;have h2:=q1.2 k J;have a0:k<G.cells.size:=by rw[q1.1];exact J
  have h3:G.cells.toList[k]? =some (G.cells.getD k undef):=by
   rw[Array.getElem?_toList,Array.getElem?_eq_getElem a0];simp[Array.getD,a0]
  rw[h3];generalize (cellsOf v)[k]=cc at h1 h2;cases cc with
  |int ik z=>exact .inl ⟨ik,z,rfl,congrArg some h2⟩
  |bool y=>exact .inr ⟨y,rfl,congrArg some h2⟩
  |_=>cases h1
 obtain⟨b',o',i0,arr,el,e1,e2,e3,e4,who',S'⟩:=S.writeDq (idx:=0) (cs:=cellsOf v) (vs:=G.cells.toList) (h2:=hh) c0 hi (by rw[xf,q1.1]) hs (.inl ⟨(λx hx=>by rw[q2]at hx;cases hx),rfl,hcase⟩)
 rw[hl]at e1;injection e1 with K _ p3
 injection K with K;injection K with K p2 _
 subst K p2 p3;have O:=Za e0 (c:=G) (o:=o+i*ty.size+j) e2 (by rw[q1.1,hlen]) (by rw[xf]at e3;exact e3) q4
 exact⟨_,who',O,S'⟩
def qej {t:Nat} {ti:TI} (d0:gZ P t ti) {s n sz i j:Nat} {v:AV} {c cv:Value} {u:Unit} (h:aw CO (XY ti s n sz i j v (U.get s)) U u U' R W) (S:aC E D β who U [(v,cv)] a w) (hx:dL (β n) sz i j c):
 ∃w' who',(Instr.storeAt t c cv).run P w= .ok () w'/\aC E D β who' U' [] a w':=by
 unfold XY at h;split at h
 case h_2=>exact(aw.fail' h).elim
 rename_i m ty xs q k O ys b0;split at h
 case isFalse=>exact(aw.fail' h).elim
 rename_i hc;obtain⟨rfl,rfl,e0⟩:=hc;obtain⟨_,U1,_,_,_,_,h5,h6⟩:=aw.bind' h;obtain⟨rfl,rfl⟩:=aw.mask' h5;have a0:=S.dq b0;obtain⟨ad,cap,hl⟩:=a0.len;rw[a0.1]at hl;obtain⟨b,o,rfl,hi,rfl⟩:=hx.slice hl;have c0:xs.getD i ty.zero=xs[i]:=by simp[List.getD,List.getElem?_eq_getElem hi]
 rw[c0]at h6;obtain⟨x',hs,h6⟩:=aw.ofOpt' h6;have:=aw.mset' h6;subst this;obtain⟨b',o',g0,arr,el,e1,e2,e3,e4,who',S'⟩:=S.writeDq (idx:=0) (cs:=[.sl (.nm k) O ys]) (vs:=[cv]) (h2:=none) b0 hi rfl hs (.inr ⟨k,O,ys,rfl,rfl,rfl,rfl,rfl⟩);rw[hl]at e1;injection e1 with p1 _ p3
 injection p1 with p1;injection p1 with p1 p2 _
 subst p1 p2 p3;have K:cv.oneCell'=true:=J7 (β:=β) (who:=who) (w:=w) (c:= .sl (.nm k) O ys) (S.hrel _ mS) (by simp)
 have G:cv.cells= #[cv]:=Yt K;have J:=Za d0 (c:=cv) (o:=o+i*ty.size+j) e2 (by rw[G,e0];rfl) (by rw[G];exact e3) (by rw[G];simpa using K)
 rw[G]at J;exact⟨_,who',J,S'⟩
def qec {t:Nat} {J:TI} (d0:gZ P t J) {s n sz:Nat} {v:AV} {c:Value} (h:aw CO (YK J s n (U.get s)) U v U' R W) (S:aC E D β who U [] a w) (G:dL (β n) sz 0 0 c):
 ∃r,(Instr.loadAt t c).run P w= .ok r w/\aC E D β who U' [(v,r)] a w:=by
 unfold YK at h;split at h
 case h_2=>exact(aw.fail' h).elim
 rename_i m cells a0;split at h
 case isFalse=>exact(aw.fail' h).elim
 rename_i hc;obtain⟨rfl,hlen⟩:=hc;obtain⟨_,U2,_,_,_,_,h3,h4⟩:=aw.bind' h;obtain⟨v',hk,rfl⟩:=aw.mupd' h3;obtain⟨hv,rfl⟩:=aw.mopt' h4
 have c0:v'= .bx (.nm m) (cells.map C5):=by
  rw[a0]at hk;unfold UX at hk;simp only[iP]at hk;injection hk with hk;exact hk.symm
 subst c0
 have g0:Jz J.cells.length (Q9 J.desc) 1 s m sz 0 0 (U.get s)=some (v,some (.bx (.nm m) (Y5 cells 0 J.cells.length))):=by
  have hp:di J.cells.length (Q9 J.desc) cells 0=some v:=by
   unfold di;rw[iP O,lN,xd O];exact hv
  unfold Jz;rw[a0];simp only[iP,hp,yo]
 have K: ∃R W,aw CO (N5 1 J s m sz 0 0) U v (U.set s (.bx (.nm m) (Y5 cells 0 J.cells.length))) R W:=by
  obtain⟨k,hk⟩: ∃k:AV->M AV,k=λa=>match Jz J.cells.length (Q9 J.desc) 1 s m sz 0 0 a with
   |some (v,none)=>pure v
   |some (v,some a')=>do fI s a';pure v
   |none=> .fail:=⟨_,rfl⟩
  have h0:N5 1 J s m sz 0 0=M.get s k:=by rw[hk];rfl
  have h1:k (U.get s)=M.set s (.bx (.nm m) (Y5 cells 0 J.cells.length)) (.ret v):=by rw[hk];simp only[g0];rfl
  rw[h0];exact⟨_,_,aw.get (by rw[h1];exact aw.set aw.ret)⟩
 obtain⟨R',W',K⟩:=K;obtain⟨r,g1,g2⟩:=Yq d0 S G K;refine⟨r,g1,?_⟩;have hb:=S.rel s;rw[a0]at hb;obtain⟨hβ,b,arr,el,e1,e2,e3,e4⟩:=hb
 have e0: ∀c,qc (C5 c)=[]:=by
  intro c;unfold C5;split
  . rename_i h;exact List.isEmpty_iff.1 h
  . rfl
 have b0:(cells.map C5).flatMap qc=[]:=Qa λc hc=>by
  obtain⟨d,_,rfl⟩:=zk.1 hc;exact e0 d
 have S3:=g2.abs (s:=s) (v:= .bx (.nm m) (cells.map C5)) ⟨hβ,b,arr,el,e1,e2,e3,by rw[zi];exact e4.1,λj hj=>by
  have i0:j<cells.length:=by simpa using hj
  rw[qL];unfold C5;split
  . exact e4.2 j i0
  . trivial⟩
  (fun x G=>by
    rw[qg];simp only[ab,qh,b0,zA]at G;subst G;simp[ab,qh])
  (by simp[ab,qh,b0])
  (fun x G=>S.occ s x (by
    rw[a0];simp only[Vs.occ,a9,zu,zL,zk]at G⊢;rcases G with G|⟨c,⟨d,hd,rfl⟩,G⟩
    . exact .inl G
    . refine .inr ⟨d,hd,?_⟩;unfold C5 at G;split at G
      . exact G
      . cases G))
 refine S3.ext λs'=> ?_
 by_cases e:s'=s
 . subst e;rw[qg,qg]
 . rw[qf _ _ e,qf _ _ e,qf _ _ e]
def QS (hT:bL P T) {idx mode:Nat} {o:Oper} {v:AV} (h:aw CO (LJ T idx mode o) U v U' R W) (S:aC E D β who U [] a w)
 (hf: ∀k,k<16-> ¬D (fresh idx k)):cb P E D idx U' v a ((execOp a.eval o).run P w):=by
 unfold LJ at h;cases ho:o.op with
 |assign x=>
  simp only[ho]at h;cases x with
  |const c=>
   simp only at h;obtain⟨g1,g2,g3⟩:=Ws (β:=β) (who:=who) (w:=w) c;have K:=(S.take0 g1 g2 (λn hn=>by rw[g3]at hn;cases hn)).fix (t:=o.type) hT
   split at h
   . rename_i t xs he;rw[he]at K;have hn:br β who w (.sl .nl t xs) c:=K.hrel _ mS;obtain⟨hc,rfl⟩:=hn;obtain⟨rfl,rfl⟩:=aw.pure' h;obtain⟨β',S3⟩:=K.newNilDq (t:=t) (hf 0 O) (D':=Dn D idx) (λn h=> .inl h) (Gt O) (dz K.dfn)
     rw[show dO=a.eval (.const c)from hc.symm]at S3
     exact⟨_,w,β',who,.inl (by unfold execOp;simp only[ho];rfl),S3⟩
   . exact(aw.fail' h).elim
  |_=>exact(aw.fail' h).elim
 |buildSlice t n ps=>
  simp only[ho]at h;split at h
  . rename_i x b1;split at h
    . rename_i hn;subst hn;obtain⟨u,U1,_,_,_,_,h1,h2⟩:=aw.bind' h;have K:=aw.rdT h1 S;unfold qne at h2;split at h2
      . rename_i e ty a1 cells ht;split at h2
        . rename_i hc;split at h2
          . rename_i y hy;obtain⟨rfl,rfl⟩:=aw.pure' h2;obtain⟨r,w1,β',who',g1,g2⟩:=qf2 hT ht K hf hc.1 hc.2.2 hy;obtain rfl:ps= #[(0,x)]:=by grind
            exact⟨r,w1,β',who',.inl (by unfold execOp;simp_all),g2⟩
          . exact(aw.fail' h2).elim
        . exact(aw.fail' h2).elim
      . exact(aw.fail' h2).elim
    . exact(aw.fail' h).elim
  . exact(aw.fail' h).elim
 |load t p=>
  simp only[ho]at h;obtain⟨u,U1,_,_,_,_,h1,h2⟩:=aw.bind' h;obtain⟨rfl,K⟩:=aw.rd h1 S;split at h2
  . rename_i ti s n sz i j J;obtain⟨b,U2,_,_,_,_,h3,G⟩:=aw.bind' h2;obtain⟨rfl,rfl⟩:=aw.mget' h3;have hx:dL (β n) sz i j (a.eval p):=K.hrel _ mS;split at G
    . obtain⟨r,β',who',g1,g2⟩:=qdn (hT t _ J) G S hx hf;exact⟨r,w,β',who',.inl (by unfold execOp;simp_all),g2⟩
    . split at G
      . split at G
        . rename_i u0;obtain⟨rfl,rfl⟩:=u0;obtain⟨r,g1,g2⟩:=qec (hT t _ J) G S hx;exact cb.same (by unfold execOp;simp_all) g2
        . exact(aw.fail' G).elim
      obtain⟨rfl,r,g1,g2,g3,g4⟩:=qcv (hT t _ J) G S hx;exact cb.same (by unfold execOp;simp_all) (S.take0 g2 g3 (λn hn=>by rw[g4]at hn;cases hn))
  . exact(aw.fail' h2).elim
 |store t p x=>
  simp only[ho]at h;obtain⟨u,U1,_,_,_,_,h1,h2⟩:=aw.bind' h;have K:=aw.rdT h1 S;obtain⟨q,U2,_,_,_,_,h3,G⟩:=aw.bind' h2;obtain⟨rfl,S2⟩:=aw.rd h3 K;split at G
  . rename_i ti s n sz i j J;obtain⟨b,U3,_,_,_,_,h5,h6⟩:=aw.bind' G;obtain⟨rfl,rfl⟩:=aw.mget' h5;have hx:dL (β n) sz i j (a.eval p):=S2.hrel _ mS;split at h6
    . obtain⟨_,U4,_,_,_,_,h7,h8⟩:=aw.bind' h6;obtain⟨rfl,rfl⟩:=aw.pure' h8;obtain⟨w1,who',g1,g2⟩:=qej (hT t _ J) h7 K hx;exact⟨undef,w1,β,who',.inr ⟨by unfold execOp;simp_all,rfl⟩,(g2.mono (λn h=> .inl h) (dz g2.dfn)).take_dead⟩
    . obtain⟨_,U4,_,_,_,_,h7,h8⟩:=aw.bind' h6;obtain⟨rfl,rfl⟩:=aw.pure' h8;obtain⟨w1,who',g1,g2⟩:=qcg (hT t _ J) h7 K hx;exact⟨undef,w1,β,who',.inr ⟨by unfold execOp;simp_all,rfl⟩,(g2.mono (λn h=> .inl h) (dz g2.dfn)).take_dead⟩
  . exact(aw.fail' G).elim
 |indexAddr t x i=>
  simp only[ho]at h;obtain⟨av,U1,_,_,_,_,h1,h2⟩:=aw.bind' h;obtain⟨rfl,K⟩:=aw.rd h1 S;obtain⟨q,U2,_,_,_,_,h3,G⟩:=aw.bind' h2;obtain⟨rfl,S2⟩:=aw.rd h3 S;split at G
  case h_2=>exact(aw.fail' G).elim
  rename_i s n sz;have c0:a.eval x=β n/\_:=K.hrel _ mS;obtain⟨b,U1,_,_,_,_,h5,h6⟩:=aw.bind' G;obtain⟨rfl,rfl⟩:=aw.mget' h5;unfold qna at h6;split at h6
  . rename_i e x0 cells m ty xs hh kk ii J b0;have d1:a.eval i= .int kk ii:=S2.hrel _ mS;split at h6
    . rename_i a0;obtain⟨rfl,a0⟩:=a0;obtain⟨_,U3,_,_,_,_,h7,h8⟩:=aw.bind' h6;obtain⟨⟨m0,m1⟩,rfl⟩:=aw.mask' h7;obtain⟨rfl,rfl⟩:=aw.pure' h8;obtain⟨hu,⟨ei,ez,he,v0,_⟩⟩:=(hT t _ J).desc;have w0:=S.dq b0;obtain⟨g0,b,o',cap,arr,el,e1,e2,e3,e4,e5,e6,e7⟩:=w0.pos (Qc (i:=ii.toNat) O);have i0:a.eval x= .slice (some ⟨b,o',none⟩) xs.length cap:=by rw[c0.1,<-g0];exact e1
      have z0:=cK hu he b o' xs.length cap kk ii m0 m1 w;refine cb.same (c:= .pointer (some ⟨b,o'+ii.toNat*ei.size,none⟩)) (by unfold execOp;simp_all) (S.take0 (v:= .ptr s m ty.size ii.toNat 0) (.inl ⟨b,o',xs.length,cap,by rw[<-g0];exact e1,O,by rw[v0,a0,zS]⟩) rfl (λm hm=> ?_))
      simp only[Vs.occ,a9,aK,zA]at hm;subst hm;exact S.occ s m (by rw[b0];simp[Vs.occ,a9,aK])
    . exact(aw.fail' h6).elim
  . exact(aw.fail' h6).elim
 |call c=>
  obtain⟨callee,args,d0⟩:=c;simp only[ho]at h;split at h
  . split at h
    . rename_i x t hargs ht;have hargs':args= #[x]:=by apply Array.ext';simpa using hargs
      subst hargs';obtain⟨av,U1,_,_,_,_,h1,h2⟩:=aw.bind' h;obtain⟨rfl,K⟩:=aw.rd h1 S;split at h2
      case h_2=>exact(aw.fail' h2).elim
      rename_i s n sz;have c0:a.eval x=β n/\_:=K.hrel _ mS;obtain⟨b,U1,_,_,_,_,h5,h6⟩:=aw.bind' h2;obtain⟨rfl,rfl⟩:=aw.mget' h5;unfold Hv at h6;split at h6
      . rename_i e x0 cells m ty xs hh J b0;split at h6
        . rename_i s0;subst s0;obtain⟨rfl,rfl⟩:=aw.pure' h6;have hu:=(hT t _ J).desc.1;obtain⟨ad,cap,hl⟩:=(S.dq b0).len;have i0:a.eval x= .slice ad xs.length cap:=by rw[c0.1,<-(S.dq b0).1];exact hl
          have hlen:(Builtin.len_ d0 o.type #[a.eval x]).run P w= .ok (.int .i64 xs.length) w:=by
           rw[i0];have l0:d0[0]? =some t:=ht;simp[Builtin.len_,l0,run_underlying hu,goInt]
          exact cb.same (c:= .int .i64 xs.length) (by
           unfold execOp;simp only[ho,resolve,Sem.run_bind,Sem.run_pure,Result.andThen_ok,invoke,builtin];simp_all) (S.take0 (v:= .int .i64 xs.length) rfl rfl (λn hn=>by cases hn))
        . exact(aw.fail' h6).elim
      . exact(aw.fail' h6).elim
    . exact(aw.fail' h).elim
  . split at h
    . rename_i x y hargs;have hargs':args= #[x,y]:=by apply Array.ext';simpa using hargs
      subst hargs';obtain⟨u,U1,_,_,_,_,h1,h2⟩:=aw.bind' h;have K:=aw.rdT h1 S;obtain⟨q,U2,_,_,_,_,h3,G⟩:=aw.bind' h2;have S2:=aw.rdT h3 K;unfold qiw at G;split at G
      . rename_i t0 t1 r0 q0;split at G
        . rename_i k0 j0;split at G
          . rename_i n t xs m t' ys;split at G
            . rename_i e0;obtain⟨e0,a0⟩:=e0;subst e0;obtain⟨_,U1,_,_,_,_,q3,q4⟩:=aw.bind' G;obtain⟨⟨h0,hlen⟩,rfl⟩:=aw.mask' q3;obtain⟨rfl,rfl⟩:=aw.pure' q4;obtain⟨r,w1,β',who',g1,g2⟩:=qbp (rt:=o.type) hT r0 q0 k0 j0 a0 S2 h0 hlen hf
              exact⟨r,w1,β',who',.inl (by
               unfold execOp;simp only[ho,resolve,Sem.run_bind,Sem.run_pure,Result.andThen_ok,invoke,builtin];simp_all),g2⟩
            . exact(aw.fail' G).elim
          . exact(aw.fail' G).elim
        . exact(aw.fail' G).elim
      . exact(aw.fail' G).elim
    . exact(aw.fail' h).elim
  . exact(aw.fail' h).elim
 |_=>simp only[ho]at h;exact(aw.fail' h).elim
end
def Fr (who who':bp):Prop:= ∀b,who' b=who b\/who' b=none
def Fr.refl (who:bp):Fr who who:=λ_=> .inl rfl
def Fr.trans {a b c:bp} (h:Fr a b) (h':Fr b c):Fr a c:=λx=>by rcases h' x with G|G;{rcases h x with h2|h2;{exact .inl (by rw[G,h2])};grind};{exact .inr G}
def cF (U U':ao):Prop:= ∀s,U'.get s=U.get s\/ab (U'.get s)=[]
def cF.refl (U:ao):cF U U:=λ_=> .inl rfl
def cF.trans {U J G:ao} (h:cF U J) (h':cF J G):cF U G:=λs=>by rcases h' s with e|e;{rw[e];exact h s};{exact .inr e}
section
variable {P:Program} {CO:Q7} {T:TT} {E:ba} {D:Nat->Prop} {β:aU} {who:bp} {U U':ao} {hd:List (AV×Value)} {a:Act} {w w':World} {R W:List Nat}
def aC.freezeFr (S:aC E D β who U hd a w) (t:Nat) (G: ∀o cs,U.get t≠ .bx o cs) (ht: ∀vs,U.get t≠ .tup vs):
 ∃who',Fr who who'/\aC E D β who' (U.set t (Vs.freeze (U.get t))) ((Vs.freeze (U.get t),a.tmps.getD t undef)::hd) a w:=by refine⟨unown who (ab (U.get t)),λb=> ?_,?_⟩;{cases h:who b with|none=>exact .inr (Yn h)|some n=>{by_cases J:n∈ab (U.get t);{exact .inr (LB h J)};{exact .inl (Jm h J)}}};have hf:=qa3 (ns:=ab (U.get t)) (S.rel t) (λn h=>h) G ht;have J:=Zm G ht;have S1:aC E D β (unown who (ab (U.get t))) (U.set t .dead) hd a w:=by{have K:=(S.takeAll t).drop rfl;refine K.world (λs=> ?_) (λx O=> ?_) (λb n G=>S.wsz b n (Yo G)) (zI _) (λ_ _ _=>rfl) (λb n G=>S.fr1 b n (Yo G)) (λb G=>Jm (S.fr3 b G) (λh=>S.dfn (S.occ t _ (qi h))));{refine(K.rel s).keep (cO.unown λn h h'=> ?_);by_cases e:s=t;{subst e;rw[qg]at h;simp[ab,qh,qc]at h};{rw[qf _ _ e]at h;exact e (S.dis s t n h h')}};{exact(K.hrel x O).keep (cO.unown λn h h'=>S.hdis x O n h t h')}};have S2:=S1.abs (s:=t) (v:=Vs.freeze (U.get t)) hf (λn h=>by rw[J]at h;cases h) (by grind) (λn h=>S.occ t n (Wn h));have S3:=S2.take0 hf J (λn h=>S.occ t n (Wn h));refine S3.ext λs=> ?_;by_cases e:s=t;{subst e;rw[qg,qg]};{rw[qf _ _ e,qf _ _ e,qf _ _ e]}
def aw.rdFFr {x:Operand} {v:AV} (h:aw CO (Vs.rdF x) U v U' R W) (S:aC E D β who U hd a w):
 ab v=[]/\(∀o cs,v≠ .bx o cs)/\cF U U'/\ ∃who',Fr who who'/\aC E D β who' U' ((v,a.eval x)::hd) a w:=by cases x with|tmp t=>{obtain⟨av,U1,_,_,_,_,h1,h2⟩:=aw.bind' h;obtain⟨rfl,rfl⟩:=aw.mget' h1;split at h2;{exact(aw.fail' h2).elim};{exact(aw.fail' h2).elim};{exact(aw.fail' h2).elim};{exact(aw.fail' h2).elim};{exact(aw.fail' h2).elim};{exact(aw.fail' h2).elim};{rename_i g1 J g3 g4 g5 g6;split at h2;{obtain⟨_,U2,_,_,_,_,h3,h4⟩:=aw.bind' h2;have:=aw.mset' h3;subst this;obtain⟨rfl,rfl⟩:=aw.pure' h4;have O: ∀o cs,U1.get t≠ .bx o cs:=λo cs e=>g3 o cs e;refine⟨Zm O J,?_,?_,S.freezeFr t O J⟩;{intro o cs e;have a0:=O;cases G:U1.get t with|bx o' cs'=>exact O o' cs' G|sl o' t' xs=>{rw[G]at e;cases o'<;>cases e}|agg cells=>{rw[G]at e;cases e}|dp n t xs hh=>{rw[G]at e;cases hh<;>cases e}|dq n t xs hh=>{rw[G]at e;cases hh<;>cases e}|_=>{rw[G]at e;cases e}};{intro s;by_cases e:s=t;{subst e;rw[qg];exact .inr (Zm O J)};{rw[qf _ _ e];exact .inl rfl}}};{rename_i K;obtain⟨rfl,rfl⟩:=aw.pure' h2;exact⟨Xb K,g3,cF.refl _,who,Fr.refl _,S.take0 (S.rel t) (Xb K) (S.occ t)⟩}}}|const u=>{obtain⟨rfl,rfl⟩:=aw.pure' h;obtain⟨g1,J,g3⟩:=Ws (β:=β) (who:=who) (w:=w) u;refine⟨J,?_,cF.refl _,who,Fr.refl _,S.take0 g1 J (λn hn=>by rw[g3]at hn;cases hn)⟩;intro o cs e;cases u<;>cases e}|global g=>exact(aw.fail' h).elim|func f=>{obtain⟨rfl,rfl⟩:=aw.pure' h;exact⟨rfl,(λo cs e=>by cases e),cF.refl _,who,Fr.refl _,S.take0 (v:= .lit (.func (.func f) #[] #[])) ⟨rfl,rfl⟩ rfl (λn hn=>by cases hn)⟩}
def aw.rdP {x:Operand} {v:AV} (h:aw CO (Vs.rdP x) U v U' R W) (S:aC E D β who U hd a w):
 ab v=[]/\(∀o cs,v≠ .bx o cs)/\cF U U'/\ ∃who',Fr who who'/\aC E D β who' U' ((v,a.eval x)::hd) a w:=by cases x with|tmp t=>{obtain⟨av,U1,_,_,_,_,h1,h2⟩:=aw.bind' h;obtain⟨rfl,rfl⟩:=aw.mget' h1;split at h2;{rename_i n cells O;obtain⟨rfl,rfl⟩:=aw.pure' h2;have G:dw t (U'.get t)=some (.ptr t n 1 0 0):=by{rw[O];rfl};obtain⟨g1,J,g3⟩:=q8t G (S.rel t);exact⟨J,(λo cs e=>by cases e),cF.refl _,who,Fr.refl _,S.take0 g1 J (λn K=>S.occ t n (g3 n K))⟩};{exact aw.rdFFr h2 S}}|const u=>exact aw.rdFFr (x:= .const u) h S|global g=>exact aw.rdFFr (x:= .global g) h S|func f=>exact aw.rdFFr (x:= .func f) h S
def ia (who:bp) (rn:List Nat) (who':bp):Prop:=(∀b,who b=none->who' b=none)/\ ∀b n,who b=some n->n∈rn->who' b=none
def Ch (who:bp) (w:World) (rn:List Nat) (c:AV) (u:Value):Prop:= ∀β' who',ia who rn who'->aW β' who' w c u
def qw2 (who:bp) (w:World) (rn:List Nat) (c:AV) (u:Value):Prop:= ∀β' who',ia who rn who'->br β' who' w c u
def ia.sub {rn G:List Nat} {who':bp} (h:ia who G who') (hs: ∀n∈rn,n∈G):ia who rn who':=
 ⟨h.1,λb n K J=>h.2 b n K (hs n J)⟩
def ia.fr {rn:List Nat} {bh who':bp} (h:ia bh rn who') (J:Fr who bh):ia who rn who':=by refine⟨λb G=> ?_,λb n G K=> ?_⟩;{rcases J b with e|e;{exact h.1 b (by rw[e,G])};{exact h.1 b e}};{rcases J b with e|e;{exact h.2 b n (by rw[e,G]) K};{exact h.1 b e}}
def hO.blk {t:Ty} {xs:List (aX t)} {v:Value} (h:hO who w t xs v): ∀b l c,v= .slice (some b) l c->who b.block=none:=by rintro b l c rfl;rcases h with⟨h,_⟩|⟨b',o,cap,e,G,_⟩;{cases h};{cases e;exact G}
def oY.slI {t:Ty} {xs:List (aX t)} {v:Value} (h:oY who w t xs v) (G: ∀b l c,v= .slice (some b) l c->who b.block=none):hO who w t xs v:=by rcases h with h|⟨b,o,cap,e,K,h2,J⟩;{exact .inl h};{exact .inr ⟨b,o,cap,e,G _ _ _ e,K,h2,J⟩}
def hO.window {t:Ty} {xs:List (aX t)} {base v:Value} {G:Option (Nat×Nat)} (h:hO who w t xs base) (J:yd base t.size G v):
 hO who w t (Vs.window xs G) v:=by refine(oY.window h.sls J).1.slI λb l c e=> ?_;cases G with|none=>{obtain⟨rfl,_⟩:=J;exact h.blk b l c e}|some ol=>{obtain⟨off,len⟩:=ol;obtain⟨ad,L,cap,a',e1,e2,e3,e4,K,-⟩:=J;rw[e3]at e;injection e with O g2 g3;subst O;cases ad with|none=>simp at K|some x=>{simp at K;rw[K.1];exact h.blk x L cap e1}}
def cE.slI {n:Nat} {t:Ty} {xs:List (aX t)} {v:Value} {who':bp} (h:cE β who w n t xs v) (J: ∀b,who b=none->who' b=none) (h2: ∀b,who b=some n->who' b=none):hO who' w t xs v:=by obtain⟨_,h⟩:=h;rcases h with h|⟨b,o,cap,arr,el,e1,e2,e3,e4,O,K⟩;{exact .inl h};{exact .inr ⟨b,o,cap,e1,h2 b O,Zd e2,e4,aT.keep (λb G _=>⟨J b G,rfl⟩) (zI _) rfl K⟩}
def aw.passC {c c':AV} {u:Value} (h:aw CO (Vs.passC c) U c' U' R W) (S:aC E D β who U hd a w) (hc:aW β who w c u):
 U'=U/\Zz c'=true/\qc c'=[]/\(∀β' who',aW β' who' w c' u->br β' who' w c' u)/\
 bV c'=true/\ab c'=[]/\Ch who w (km c) c' u/\ ∀n∈km c,n≠FN:=by have key: ∀{s n:Nat},aw CO (yK s n) U c' U' R W->u=dj (β n) 0->km c=[n]->U'=U/\Zz c'=true/\qc c'=[]/\(∀β' who',aW β' who' w c' u->br β' who' w c' u)/\ bV c'=true/\ab c'=[]/\Ch who w (km c) c' u/\ ∀n∈km c,n≠FN:=by{intro s n h k1 m0;rw[m0];obtain⟨av,U1,_,_,_,_,h1,h2⟩:=aw.bind' h;obtain⟨g0,rfl⟩:=aw.mget' h1;split at h2;{rename_i m t xs loc hd;rw[g0]at hd;obtain⟨c0,⟨v0,K⟩,d0⟩:=S.dpA hd;{subst c0;obtain⟨rfl,rfl⟩:=aw.pure' h2;refine⟨rfl,rfl,rfl,λ_ _ h=>h,rfl,rfl,λβ' who' G=> ?_,λx hx=> ?_⟩;{obtain⟨hv,q0⟩:=K;rw[k1,<-hv];rcases q0 with⟨e0,rfl⟩|⟨b0,o0,a0,j0,s0,e0,e1,e2,e3,e4,O,_⟩;{exact .inl ⟨e0,rfl⟩};refine .inr ⟨b0,o0,a0,e0,G.2 b0 m e4 (by simp),Zd e1,e3,λi hi=> ?_⟩;obtain⟨c1,c2⟩:=O i hi (by simp);refine⟨dj (β m) (i+1),?_,?_⟩;{have e:az w b0 (o0+i*(Ty.sl false t).size) 0=az w b0 o0 i:=by{unfold az;simp[Ty.size]};rw[e];exact c1};{rcases c2 with hI|⟨bi,oi,ci,arr,el,q1,q2,q3,q4,q5,q6,q7⟩;{exact .inl hI};{exact .inr ⟨bi,oi,ci,q1,G.2 bi m q5 (by simp),Zd q2,q4,aT.keep (λb hb _=>⟨G.1 b hb,rfl⟩) (zI _) rfl q7⟩}}};{rw[zA]at hx;subst hx;rintro rfl;exact S.dfn (S.occ s _ (qi d0))}}};{exact(aw.fail' h2).elim}};unfold Vs.passC at h;split at h;{obtain⟨rfl,rfl⟩:=aw.pure' h;exact⟨rfl,rfl,rfl,λ_ _ h=>h,rfl,rfl,λ_ _ _=>hc,λn J=>by cases J⟩};{obtain⟨rfl,rfl⟩:=aw.pure' h;exact⟨rfl,rfl,rfl,λ_ _ h=>h,rfl,rfl,λ_ _ _=>hc,λn J=>by cases J⟩};{obtain⟨rfl,rfl⟩:=aw.pure' h;exact⟨rfl,rfl,rfl,λ_ _ h=>h,rfl,rfl,λ_ _ _=>hc,λn J=>by cases J⟩};{obtain⟨rfl,rfl⟩:=aw.pure' h;exact⟨rfl,rfl,rfl,λ_ _ h=>h,rfl,rfl,λ_ who' G=>hO.keep (λb hb _=>⟨G.1 b hb,rfl⟩) (zI _) hc,λn J=>by cases J⟩};{obtain⟨rfl,rfl⟩:=aw.pure' h;exact⟨rfl,rfl,rfl,λ_ _ h=>h,rfl,rfl,λ_ who' G=> .inl hc,λn J=>by cases J⟩};{rename_i s n sz u0;obtain⟨y,U1,_,_,_,_,h1,h2⟩:=aw.bind' h;obtain⟨rfl,rfl⟩:=aw.pure' h2;unfold Vs.shown at h1;obtain⟨y,U1,_,_,_,_,h3,h4⟩:=aw.bind' h1;obtain⟨rfl,l0,g1,g2⟩:=aw.nodeOf h3 S;obtain⟨rfl,rfl⟩:=aw.pure' h4;subst l0;refine⟨rfl,rfl,rfl,λ_ _ h=>h,rfl,rfl,λβ' who' G=> ?_,λm hm=> ?_⟩;{exact hO.window (g1.slI G.1 (λb hb=>G.2 b n hb (by simp[km]))) hc};{simp only[km,zA]at hm;subst hm;rintro rfl;exact S.dfn (S.occ s _ (qi g2))}};{rename_i s n i;obtain⟨av,U1,_,_,_,_,h1,h2⟩:=aw.bind' h;obtain⟨g0,rfl⟩:=aw.mget' h1;split at h2;{rename_i m t xs hh loc hd;rw[g0]at hd;obtain⟨c0,⟨v0,K⟩,d0⟩:=S.dpA hd;{subst c0;obtain⟨_,U2,_,_,_,_,h3,h4⟩:=aw.bind' h2;obtain⟨h0,rfl⟩:=aw.noHole' h3;obtain⟨rfl,rfl⟩:=aw.pure' h4;obtain⟨k1,_,x0,L0,i0,k2,k3⟩:=hc;obtain⟨w0,a0,r0⟩:=K.base;rw[r0]at k2;injection k2 with _ q1 _;subst q1;have t0:=K.row k3 h0;have k0:xs.getD i []=xs[i]:=by{simp[List.getD,List.getElem?_eq_getElem k3]};refine⟨rfl,rfl,rfl,λ_ _ h=>h,rfl,rfl,λβ' who' G=> ?_,λx hx=> ?_⟩;{rw[k0,k1];obtain⟨_,b0,o0,i0,j0,s0,_,_,_,_,_,O,_⟩:=K.pos (.inr (Qc k3));rcases(O i k3 h0).2 with hI|⟨bi,oi,ci,arr,el,e1,e2,e3,e4,e5,e6,e7⟩;{exact .inl hI};{exact .inr ⟨bi,oi,ci,e1,G.2 bi m e5 (by simp[km]),Zd e2,e4,aT.keep (λb hb _=>⟨G.1 b hb,rfl⟩) (zI _) rfl e7⟩}};{simp only[km,zA]at hx;subst hx;rintro rfl;exact S.dfn (S.occ s _ (qi d0))}}};{exact(aw.fail' h2).elim}};{exact key h hc.1 rfl};{exact key h hc.1 rfl};{obtain⟨rfl,rfl⟩:=aw.pure' h;obtain⟨b,o,e1,e2,e3,e4,e5⟩:=hc;exact⟨rfl,rfl,rfl,λ_ _ h=>h,rfl,rfl,λβ' who' G=>⟨b,o,e1,e2,G.1 b e3,e4,aT.keep (λb hb _=>⟨G.1 b hb,rfl⟩) (zI _) rfl e5⟩,λn J=>by cases J⟩};{exact(aw.fail' h).elim}
end
abbrev iF:=AV×Option Nat×List Nat
def ix (β:aU) (m:Nat):AV->Value
 | .dp _ _ _ _=>dj (β m) 0
 |_=>β m
def kg (β:aU) (who:bp) (w:World) (U:ao) (p:iF) (u:Value):Prop:=
 match p.2.1 with
 |none=>qw2 who w p.2.2 p.1 u/\bV p.1=true/\ab p.1=[]/\ ∀n∈p.2.2,n≠FN
 |some s=>p.2.2=[]/\(ab (U.get s)=[]\/ ∃m,Jg (U.get s)=some m/\p.1=ren (a8 (ab (U.get s))) (U.get s)/\bV (U.get s)=true/\
   (ab (U.get s)).length<=16/\u=ix β m (U.get s))
section
variable {P:Program} {CO:Q7} {T:TT} {E:ba} {D:Nat->Prop} {β:aU} {who who':bp} {U U':ao} {hd:List (AV×Value)} {a:Act} {w w':World} {R W:List Nat}
def kg.mono {p:iF} {u:Value} (h:kg β who w U p u) (hf:Fr who who') (O:cF U U'):kg β who' w U' p u:=by obtain⟨av,l,rn⟩:=p;cases l with|none=>exact⟨λβ' G K=>h.1 β' G (K.fr hf),h.2⟩|some s=>{obtain⟨J,h2⟩:=h;rcases O s with e|e;{exact⟨J,by rw[e];exact h2⟩};{exact⟨J,.inl e⟩}}
def qqn (S:aC E D β who U hd a w) (cells:List AV): ∀{cs:List AV} {g:Nat->Value} {U':ao} {R W:List Nat},aw CO (Vs.passL cells) U cs U' R W->
 (∀j (h:j<cells.length),aW β who w cells[j] (g j))->
 U'=U/\cs.length=cells.length/\cs.all Zz=true/\cs.flatMap qc=[]/\(∀j (h:j<cs.length),Ch who w (cells.flatMap km) cs[j] (g j))/\ ∀n∈cells.flatMap km,n≠FN:=by induction cells with|nil=>{intro cs g U' R W h hc;obtain⟨rfl,rfl⟩:=aw.pure' h;grind}|cons c cells ih=>{intro cs g U' R W h hc;obtain⟨c',U1,_,_,_,_,h1,h2⟩:=aw.bind' h;obtain⟨cs',U2,_,_,_,_,h3,h4⟩:=aw.bind' h2;obtain⟨rfl,rfl⟩:=aw.pure' h4;obtain⟨rfl,e1,e2,_,_,_,e3,e4⟩:=aw.passC h1 S (hc 0 (by simp));have K: ∀j (h:j<cells.length),aW β who w cells[j] ((λj=>g (j+1)) j):=λj O=>by{grind};obtain⟨rfl,f1,f2,f3,f4,f5⟩:=ih h3 K;refine⟨rfl,by simp[f1],by grind,by simp[e2,f3],λj O=> ?_,λn J=> ?_⟩;{cases j with|zero=>exact λβ' who' G=>e3 β' who' (G.sub λn J=>by simp[J])|succ j=>exact λβ' who' G=>f4 j (by simpa using O) β' who' (G.sub λn J=>by grind)};{grind}}
def aw.passA (hT:bL P T) {ty:Nat} {x:Operand} {p:iF} (h:aw CO (Vs.passA ty T x) U p U' R W) (S:aC E D β who U [] a w):
 cF U U'/\ ∃who',Fr who who'/\aC E D β who' U' [] a w/\kg β who' w U' p (a.eval x):=by obtain⟨v,U1,_,_,_,_,h1,h2⟩:=aw.bind' h;obtain⟨g1,g2,g3,bh,g4,S1⟩:=aw.rdP h1 S;have S2:=S1.fix (t:=ty) hT;have hx:=S2.hrel _ mS;have S3:=S2.drop rfl;generalize Jl T ty v=v1 at*;split at h2;{rename_i cells;obtain⟨cs,U2,_,_,_,_,h3,h4⟩:=aw.bind' h2;obtain⟨rfl,rfl⟩:=aw.pure' h4;obtain⟨arr,e1,e2,e3⟩:=(hx: ∃arr,_);obtain⟨rfl,f1,f2,f3,f4,f5⟩:=qqn (cs:=cs) (g:=λj=>arr.getD j undef) S3 cells h3 e3;refine⟨g3,bh,g4,S3,⟨λβ' who' hp=> ?_,f2,f3,f5⟩⟩;exact⟨arr,e1,by rw[e2,f1],λj hj=>f4 j hj β' who' hp⟩};{rename_i s n sz;obtain⟨av,U2,_,_,_,_,h3,h4⟩:=aw.bind' h2;obtain⟨rfl,rfl⟩:=aw.mget' h3;split at h4;{rename_i m cells hg;split at h4;{rename_i hm;obtain⟨rfl,hr,hl⟩:=hm;obtain⟨rfl,rfl⟩:=aw.pure' h4;refine⟨g3,bh,g4,S3,⟨rfl,.inr ⟨m,by rw[hg];rfl,?_,hr,hl,?_⟩⟩⟩;{rw[hg]};{have hb:=S3.rel s;rw[hg]at hb;obtain⟨hb0,b,arr,el,hb1,_⟩:=hb;rw[hg];rcases(hx:dL _ _ _ _ _)with⟨b',o,L,cap,q1,_⟩|⟨b',q1,_,q2⟩;{grind};{exact q2.trans q1.symm}}};{exact(aw.fail' h4).elim}};{exact(aw.fail' h4).elim}};{rename_i hn1 hn2;obtain⟨c,U2,_,_,_,_,h3,h4⟩:=aw.bind' h2;obtain⟨rfl,rfl⟩:=aw.pure' h4;have hc:aW β bh w v1 (a.eval x):=by{cases v1 with|tup vs=>exact(aw.fail' h3).elim|bx o cs=>exact(aw.fail' h3).elim|agg cs=>exact absurd rfl (hn1 cs)|dead=>trivial|_=>exact hx};obtain⟨rfl,e1,e2,f1,f2,f3,f4,f5⟩:=aw.passC h3 S3 hc;exact⟨g3,bh,g4,S3,⟨λβ' who' hp=>f1 _ _ (f4 β' who' hp),f2,f3,f5⟩⟩}
def aw.lendA {x:Operand} {p:iF} (h:aw CO (Vs.lendA x) U p U' R W) (S:aC E D β who U [] a w):
 U'=U/\kg β who w U' p (a.eval x):=by obtain⟨v,U1,_,_,_,_,h1,h2⟩:=aw.bind' h;obtain⟨rfl,S1⟩:=aw.rd h1 S;have O:=S1.hrel _ mS;split at h2;{rename_i s n sz;obtain⟨av,U2,_,_,_,_,K,J⟩:=aw.bind' h2;obtain⟨rfl,rfl⟩:=aw.mget' K;split at J;{rename_i m t xs G;split at J;{rename_i hm;subst hm;obtain⟨rfl,rfl⟩:=aw.pure' J;refine⟨rfl,rfl,.inr ⟨m,by rw[G];rfl,by rw[G],by rw[G];rfl,by rw[G];exact(by decide:1<=16),?_⟩⟩;rw[G];exact(show yd (β m) sz none (a.eval x)from O).1};{exact(aw.fail' J).elim}};{exact(aw.fail' J).elim}};{rename_i s n;obtain⟨av,U2,_,_,_,_,K,J⟩:=aw.bind' h2;obtain⟨rfl,rfl⟩:=aw.mget' K;split at J;{rename_i m t xs G;split at J;{rename_i hm;subst hm;obtain⟨rfl,rfl⟩:=aw.pure' J;refine⟨rfl,rfl,.inr ⟨m,by rw[G];rfl,by rw[G],by rw[G];rfl,by rw[G];exact(by decide:1<=16),?_⟩⟩;rw[G];exact(show kf (β m) .whole (a.eval x)from O).1};{exact(aw.fail' J).elim}};{exact(aw.fail' J).elim}};{exact(aw.fail' h2).elim}
def aw.passX (hT:bL P T) {k ty:Nat} {x:Operand} {p:iF} (h:aw CO (Vs.passX T k ty x) U p U' R W) (S:aC E D β who U [] a w):
 cF U U'/\ ∃who',Fr who who'/\aC E D β who' U' [] a w/\kg β who' w U' p (a.eval x):=by unfold Vs.passX at h;split at h;{obtain⟨rfl,h2⟩:=aw.lendA h S;exact⟨cF.refl _,who,Fr.refl _,S,h2⟩};{exact aw.passA hT h S}
def aw.passAll (K:bL P T): ∀{k:Nat} {xs:List Operand} {G:List TypeId} {ps:List iF} {who:bp} {U U':ao} {R W:List Nat},aw CO (Vs.passAll T k xs G) U ps U' R W->aC E D β who U [] a w->
 cF U U'/\ ∃who',Fr who who'/\aC E D β who' U' [] a w/\ps.length=xs.length/\ ∀i (h:i<ps.length) (h':i<xs.length),kg β who' w U' ps[i] (a.eval xs[i])
 |k,[],G,ps,who,U,U',R,W,h,S=>by{obtain⟨rfl,rfl⟩:=aw.pure' h;exact⟨cF.refl _,who,Fr.refl _,S,rfl,λi J=>absurd J (zC _)⟩}
 |k,x::xs,[],ps,who,U,U',R,W,h,S=>(aw.fail' h).elim
 |k,x::xs,ty::G,ps,who,U,U',R,W,h,S=>by obtain⟨p,U1,_,_,_,_,h1,h2⟩:=aw.bind' h;obtain⟨a0,U2,_,_,_,_,h3,h4⟩:=aw.bind' h2;obtain⟨rfl,rfl⟩:=aw.pure' h4;obtain⟨e1,bh,e2,S1,e3⟩:=aw.passX K h1 S;obtain⟨f1,bT,O,S2,f3,f4⟩:=aw.passAll K h3 S1;refine⟨e1.trans f1,bT,e2.trans O,S2,by simp[f3],λi J b0=> ?_⟩;cases i with|zero=>exact e3.mono O f1|succ i=>grind
end
def qa4 {c:AV} (h:Zz c=true):aK c=qc c:=by cases c with|sl o t xs=>{cases o<;>rfl}|ref s n sz w=>cases h|ptr s n sz i j=>cases h|dr s n k=>cases h|wn n t xs=>cases h|_=>rfl
def q5i {cells:List AV} (h:cells.all Zz=true):cells.flatMap aK=cells.flatMap qc:=by induction cells with|nil=>rfl|cons c cs G=>{simp only[Cq,zK]at h;simp[qa4 h.1,G h.2]}
def Wk {v:AV} (h:Lh v=true):a9 v=qh v:=by cases v with|bx o cells=>{have:=q5i (cells:=cells) h;cases o<;>simp[a9,qh,this]}|agg cells=>exact q5i (cells:=cells) h|sl o t xs=>exact qa4 (c:= .sl o t xs) h|ref s n sz w=>cases h|ptr s n sz i j=>cases h|dr s n k=>cases h|wn n t xs=>cases h|_=>rfl
def Zk {v:AV} (h:bV v=true):Vs.occ v=ab v:=by cases v with|tup vs=>{simp only[bV]at h;simp only[Vs.occ,ab];induction vs with|nil=>rfl|cons c cs ih=>{simp only[Cq,zK]at h;simp[Wk h.1,ih h.2]}}|sl o t xs=>exact Wk (v:= .sl o t xs) h|bx o cells=>exact Wk (v:= .bx o cells) h|agg cells=>exact Wk (v:= .agg cells) h|ref s n sz w=>cases h|ptr s n sz i j=>cases h|dr s n k=>cases h|wn n t xs=>cases h|_=>rfl
def qsd {f:Nat->Nat} {v:AV}:je (ren f v)=je v:=by cases v with|sl o t xs=>{cases o<;>rfl}|bx o cells=>rfl|_=>rfl
def qpc {v:AV} (h:fe v=true): ∀n∈Vs.occ v,n∈ab v\/n=98:=by intro n hn;cases hw:je v with|false=>{unfold fe at h;rw[hw,Nt]at h;rw[Zk h]at hn;exact .inl hn}|true=>{cases v with|wn m t xs=>{simp only[Vs.occ,a9,aK,zu,oG,or_false]at hn;rcases hn with rfl|rfl;{exact .inl (by simp[ab,qh,qc])};{exact .inr rfl}}|_=>cases hw}
section
variable {f:Nat->Nat}
def qa7 {c:AV}:qc (eK f c)=(qc c).map f:=by cases c with|sl o t xs=>{cases o<;>rfl}|_=>rfl
def q5l {cells:List AV}:(cells.map (eK f)).flatMap qc=(cells.flatMap qc).map f:=by induction cells with|nil=>rfl|cons c cs G=>simp[qa7,G]
def Wp {v:AV}:qh (iw f v)=(qh v).map f:=by cases v with|bx o cells=>{have:=q5l (f:=f) (cells:=cells);cases o<;>simp[iw,renO,qh,this]}|agg cells=>exact q5l (f:=f) (cells:=cells)|sl o t xs=>{have:=qa7 (f:=f) (c:= .sl o t xs);cases o<;>exact this}|_=>rfl
def Q8 {v:AV}:ab (ren f v)=(ab v).map f:=by cases v with|tup vs=>{simp only[ren,ab];induction vs with|nil=>rfl|cons c cs ih=>simp[Wp,ih]}|sl o t xs=>{have:=Wp (f:=f) (v:= .sl o t xs);cases o<;>exact this}|bx o cells=>exact Wp (f:=f) (v:= .bx o cells)|agg cells=>exact Wp (f:=f) (v:= .agg cells)|_=>rfl
def q9w {c:AV}:Zz (eK f c)=Zz c:=by cases c with|sl o t xs=>{cases o<;>rfl}|_=>rfl
def qho {cells:List AV}:(cells.map (eK f)).all Zz=cells.all Zz:=by induction cells with|nil=>rfl|cons c cs G=>simp only[ui,Cq,q9w,G]
def Wl {v:AV}:Lh (iw f v)=Lh v:=by cases v with|bx o cells=>exact qho (cells:=cells)|agg cells=>exact qho (cells:=cells)|sl o t xs=>{have:=q9w (f:=f) (c:= .sl o t xs);cases o<;>exact this}|_=>rfl
def Xj {v:AV}:bV (ren f v)=bV v:=by cases v with|tup vs=>{simp only[ren,bV];induction vs with|nil=>rfl|cons c cs ih=>simp only[ui,Cq,Wl,ih]}|sl o t xs=>{have:=Wl (f:=f) (v:= .sl o t xs);cases o<;>exact this}|bx o cells=>exact Wl (f:=f) (v:= .bx o cells)|agg cells=>exact Wl (f:=f) (v:= .agg cells)|_=>rfl
end
def be.flat {who who':bp} {w:World}: ∀{t:Ty} {x:aX t} {g:Nat->Option Value} {j:Nat},Ya t=false->be who w t x g j->be who' w t x g j
 | .int _,_,_,_,_,h=>h
 | .bool,_,_,_,_,h=>h
 | .pr a b,_,_,_,G,h=>by{simp only[Ya,Ut]at G;exact⟨be.flat G.1 h.1,be.flat G.2 h.2⟩}
 | .sl _ t,xs,g,j,G,h=>by cases G
section
variable {β β2:aU} {who bT:bp} {w:World} {f:Nat->Nat}
structure gb (β:aU) (who:bp) (w:World) (β2:aU) (bT:bp) (f:Nat->Nat) (ns:List Nat) (im:Bool):Prop where
 beta: ∀n∈ns,β2 (f n)=β n
 own: ∀n∈ns,∀b,who b=some n->bT b=some (f n)
 imm:im=true-> ∀b,who b=none->b<w.heap.size->bT b=none
def gb.mono {ns J:List Nat} {im K:Bool} (h:gb β who w β2 bT f ns im) (O: ∀n∈J,n∈ns) (hi:K=true->im=true):gb β who w β2 bT f J K:=
 ⟨λn G=>h.beta n (O n G),λn G=>h.own n (O n G),λe=>h.imm (hi e)⟩
def aW.ren {c:AV} {v:Value} (hr:Zz c=true) (k:gb β who w β2 bT f (qc c) (Ji c)) (h:aW β who w c v):aW β2 bT w (eK f c) v:=by cases c with|sl o t xs=>{cases o with|imm=>exact hO.keep (λb hb hl=>⟨k.imm rfl b hb hl,rfl⟩) (zI _) h|nl=>exact h|inn=>exact h|nm n=>{obtain⟨h1,h2⟩:=h;refine⟨by rw[k.beta n (by simp[qc])];exact h1,?_⟩;rcases h2 with h2|⟨b,o,cap,arr,el,e1,e2,e3,e4,e5,e6⟩;{exact .inl h2};{refine .inr ⟨b,o,cap,arr,el,e1,e2,e3,e4,k.own n (by simp[qc]) b e5,?_⟩;cases ht:Ya t with|true=>exact aT.keep (λb hb hl=>⟨k.imm ht b hb hl,rfl⟩) (zI _) rfl e6|false=>exact λi hi=>be.flat ht (e6 i hi)}}}|ref s n sz win=>cases hr|ptr s n sz i j=>cases hr|dr s n kk=>cases hr|wn n t xs=>cases hr|dq n t xs hh=>{exact b9.map (k.beta n (by simp[qc])) (λb hb=>⟨k.own n (by simp[qc]) b hb,rfl⟩) (λt ys b o _ he=>aT.keep (λb hb hl=>⟨k.imm rfl b hb hl,rfl⟩) (zI _) rfl he) h}|dp n t xs hh=>{refine bu.map (k.beta n (by simp[qc])) (λb hb=>⟨k.own n (by simp[qc]) b hb,rfl⟩) (λys b o _ he=> ?_) h;cases ht:Ya t with|true=>exact aT.keep (λb hb hl=>⟨k.imm ht b hb hl,rfl⟩) (zI _) rfl he|false=>exact λi hi=>be.flat ht (he i hi)}|iptr g t xs i j=>{obtain⟨b,o,e1,e2,e3,e4,e5⟩:=h;exact⟨b,o,e1,e2,k.imm rfl b e3 e4,e4,aT.keep (λb hb hl=>⟨k.imm rfl b hb hl,rfl⟩) (zI _) rfl e5⟩}|_=>exact h
def bg.ren {cells:List AV} {arr:Array Value} (J:cells.all Zz=true) (k:gb β who w β2 bT f (cells.flatMap qc) (cells.any Ji))
 (h:bg β who w cells arr):bg β2 bT w (cells.map (eK f)) arr:=by refine⟨by simpa using h.1,λj O=> ?_⟩;have G:j<cells.length:=by{simpa using O};rw[qL];refine aW.ren (zq.1 J _ (zW G)) (k.mono (λn K=>zL.2 ⟨_,zW G,K⟩) λe=> ?_) (h.2 j G);grind
def qw5:AV->Bool
 | .bx _ cells=>cells.any Ji
 | .agg cells=>cells.any Ji
 |v=>Ji v
def bG.ren {v:AV} {c:Value} (hr:Lh v=true) (k:gb β who w β2 bT f (qh v) (qw5 v)) (h:bG β who w v c):bG β2 bT w (iw f v) c:=by cases v with|bx o cells=>{cases o with|nm n=>{obtain⟨h0,b,arr,el,e1,e2,e3,e4⟩:=h;exact⟨by rw[k.beta n (by simp[qh])];exact h0,b,arr,el,e1,e2,k.own n (by simp[qh]) b e3,bg.ren hr (k.mono (λn hn=>by simp only[qh];grind) λe=>e) e4⟩}|_=>exact h.elim}|agg cells=>{obtain⟨arr,e1,e2⟩:=h;exact⟨arr,e1,bg.ren hr k e2⟩}|tup vs=>exact h.elim|dead=>trivial|bool b=>exact aW.ren (c:= .bool b) hr k h|int x n=>exact aW.ren (c:= .int x n) hr k h|lit u=>exact aW.ren (c:= .lit u) hr k h|sl o t xs=>{have:=aW.ren (c:= .sl o t xs) hr k h;cases o<;>exact this}|ref s n sz win=>cases hr|ptr s n sz i j=>cases hr|iptr g t xs i j=>exact aW.ren (c:= .iptr g t xs i j) hr k h|dp n t xs hh=>exact aW.ren (c:= .dp n t xs hh) hr k h|dr s n kk=>exact aW.ren (c:= .dr s n kk) hr k h|wn n t xs=>exact aW.ren (c:= .wn n t xs) hr k h|dq n t xs hh=>exact aW.ren (c:= .dq n t xs hh) hr k h
def br.ren {v:AV} {c:Value} (hr:bV v=true) (k:gb β who w β2 bT f (ab v) (Qu v)) (h:br β who w v c):br β2 bT w (Vs.ren f v) c:=by cases v with|tup vs=>{obtain⟨arr,e1,e2,e3⟩:=h;refine⟨arr,e1,by simpa using e2,λj hj=> ?_⟩;have hj':j<vs.length:=by{simpa using hj};rw[qL];refine bG.ren (zq.1 hr _ (zW hj')) (k.mono (λn hn=>zL.2 ⟨_,zW hj',hn⟩) λe=> ?_) (e3 j hj');refine NC.2 ⟨_,zW hj',?_⟩;revert e;generalize vs[j]=u;cases u<;>exact id}|dead=>trivial|bool b=>exact bG.ren (v:= .bool b) hr k h|int x n=>exact bG.ren (v:= .int x n) hr k h|lit u=>exact bG.ren (v:= .lit u) hr k h|sl o t xs=>{have:=bG.ren (v:= .sl o t xs) hr k h;cases o<;>exact this}|bx o cells=>exact bG.ren (v:= .bx o cells) hr k h|agg cells=>exact bG.ren (v:= .agg cells) hr k h|ref s n sz win=>cases hr|ptr s n sz i j=>cases hr|iptr g t xs i j=>exact bG.ren (v:= .iptr g t xs i j) hr k h|dp n t xs hh=>exact bG.ren (v:= .dp n t xs hh) hr k h|dr s n kk=>exact bG.ren (v:= .dr s n kk) hr k h|wn n t xs=>exact bG.ren (v:= .wn n t xs) hr k h|dq n t xs hh=>exact bG.ren (v:= .dq n t xs hh) hr k h
def br.renO {v:AV} {c:Value} (J:fe v=true) (k:gb β who w β2 bT f (ab v) (Qu v)) (h98:β2 98=β 98) (h:br β who w v c):br β2 bT w (Vs.ren f v) c:=by cases hw:je v with|false=>{unfold fe at J;rw[hw,Nt]at J;exact br.ren J k h}|true=>{cases v with|wn n t xs=>{have K:br β who w (.sl (.nm n) t xs) c:=h.1;have h2:br β2 bT w (.sl (.nm (f n)) t xs) c:=br.ren (v:= .sl (.nm n) t xs) rfl k K;obtain⟨G,g1,O⟩:=h.2;exact⟨h2,G,by rw[h98];exact g1,O⟩}|_=>cases hw}
end
def V5 (who:bp) (w:World) (cargs:Array Value) (res:AV) (outs:List AV) (G:Value) (e:Ending) (w':World):Prop:=
 ∃v β' who',e= .returned v/\β' 98=G/\br β' who' w' res v/\(∀i (h:i<outs.length),br β' who' w' outs[i] (cargs.getD i undef))/\
  (ab res++outs.flatMap ab).Nodup/\(∀n∈ab res++outs.flatMap ab,n<16)/\bV res=true/\outs.all fe=true/\
  (∀b,b<w.heap.size->who b=none\/who b=some FN->w'.heap[b]? =w.heap[b]?)/\(∀b n,who' b=some n->b<w'.heap.size/\(who b≠none\/w.heap.size<=b))/\
  w.heap.size<=w'.heap.size/\(∀b,who b=some FN->who' b=some FN)/\w'.os=w.os/\w'.output=w.output
def Xy (P:Program) (f:FuncId) (args:List AV) (res:AV) (outs:List AV):Prop:=
 (∃fn,P.funcs[f]? =some fn∧fn.body.isNone=false∧(fn.name== "runtime.NumGoroutine")=false)∧
 ∀β who w (cargs:Array Value),cargs.size=args.length->(∀i (h:i<args.length),br β who w args[i] (cargs.getD i undef))->
  (args.flatMap ab).Nodup->(∀n∈args.flatMap ab,n<99)->args.all fe=true->(∀b n,who b=some n->b<w.heap.size/\(n∈args.flatMap ab\/n=FN))->cG P who w->
  Calls P f cargs w (V5 who w cargs res outs (β 98))
def Jh {l:List AV} (h:l.all bV=true):l.all fe=true:=zq.2 λx G=>by unfold fe;grind
def q3c {v:AV} (h:fe v=true) (hw:je v=false):bV v=true:=by unfold fe at h;grind
def cG.whoC {P:Program} {who:bp} {w:World} (h:cG P who w) {who':bp} (hw: ∀b,who b=none->who' b=none):cG P who' w:=λx G=>⟨hw _ (h x G).1,(h x G).2⟩
def Y8 {ns:List Nat} {n:Nat} (h:n∈ns):a8 ns n<ns.length:=by induction ns with|nil=>cases h|cons m ms G=>{simp only[a8,KV];grind}
def Ol {ns:List Nat} {n:Nat} (h:n∈ns):ns.getD (a8 ns n) 0=n:=by induction ns with|nil=>cases h|cons m ms G=>{simp only[a8];grind}
def Qf {ns:List Nat} {n m:Nat} (G:n∈ns) (hm:m∈ns) (h:a8 ns n=a8 ns m):n=m:=by rw[<-Ol G,<-Ol hm,h]
def X8 {f:Nat->Nat} {l:List Nat} (J: ∀a∈l,∀b∈l,f a=f b->a=b) (h:l.Nodup):(l.map f).Nodup:=by induction l with|nil=>simp|cons x l G=>{grind}
def whoC (who:bp) (ln rn:List Nat):bp:=λb=>match who b with
 |none=>none
 |some n=>if n∈ln then some (a8 ln n)else if n∈rn then none else some FN
def bT (who who':bp) (idx:Nat) (ln ns:List Nat):bp:=λb=>match who' b with
 |none=>(match who b with
  |none=>none
  |some n=>if n∈ln then none else some n)
 |some m=>if m=FN then who b else if m∈ns then some (fresh idx m)else none
def gX (β β':aU) (idx:Nat):aU:=λn=>if fresh idx 0<=n/\n<=fresh idx 15 then β' (n-fresh idx 0)else β n
section
variable {P:Program} {CO:Q7} {T:TT} {E:ba} {D:Nat->Prop} {β β':aU} {who who':bp} {U U':ao} {hd:List (AV×Value)} {a:Act} {w w':World} {R W:List Nat}
def Jd {idx:Nat} {ln rn ns:List Nat} {im:Bool} (S:aC E D β who U [] a w) (hf: ∀k,k<16-> ¬D (fresh idx k))
 (e0: ∀n∈ln,n≠FN/\ ∀s,n∉ab (U.get s)) (m0: ∀n∈rn,n≠FN) (hlen:ln.length<=16)
 (b0: ∀b,b<w.heap.size->whoC who ln rn b=none\/whoC who ln rn b=some FN->w'.heap[b]? =w.heap[b]?)
 (hw: ∀b n,who' b=some n->b<w'.heap.size/\(whoC who ln rn b≠none\/w.heap.size<=b)) (c0:w.heap.size<=w'.heap.size)
 (l0: ∀b,whoC who ln rn b=some FN->who' b=some FN) (d0: ∀n∈ns,n<16) (j0:im=true->rn=[]) (h4:w'.os=w.os/\w'.output=w.output):
 aC E (Dn D idx) (gX β β' idx) (bT who who' idx ln ns) U [] a w'/\gb β' who' w' (gX β β' idx) (bT who who' idx ln ns) (fresh idx) ns im:=by have cnone: ∀b,who b=none->whoC who ln rn b=none:=λb h=>by{simp[whoC,h]};have pnone: ∀b,b<w.heap.size->whoC who ln rn b=none->who' b=none:=λb G h=>by{cases e:who' b with|none=>rfl|some n=>{grind}};have keepo: ∀b n,who b=some n->n∉ln->bT who who' idx ln ns b=some n/\w'.heap[b]? =w.heap[b]? :=λb n G J=>by{have K:=S.wsz b n G;by_cases hr:n∈rn;{have hc:whoC who ln rn b=none:=by{simp[whoC,G,J,hr]};exact⟨by simp[bT,pnone b K hc,G,J],b0 b K (.inl hc)⟩};{have hc:whoC who ln rn b=some FN:=by{simp[whoC,G,J,hr]};exact⟨by simp[bT,l0 b hc,G],b0 b K (.inr hc)⟩}};have a0: ∀b,who b=none->b<w.heap.size->bT who who' idx ln ns b=none/\w'.heap[b]? =w.heap[b]? :=λb G K=>by{have hc:=cnone b G;exact⟨by simp[bT,pnone b K hc,G],b0 b K (.inl hc)⟩};have hβ: ∀n,D n->gX β β' idx n=β n:=λn J=>by{simp only[gX];rw[ae];rintro ⟨h1,h2⟩;refine hf (n-fresh idx 0) (by simp only[fresh]at*;omega) ?_;rwa [show fresh idx (n-fresh idx 0)=n by simp only[fresh]at*;omega]};have g0:FN∉ln:=λh=>(e0 _ h).1 rfl;have S1:aC E D (gX β β' idx) (bT who who' idx ln ns) U [] a w':=by{refine S.world (λs=>(S.rel s).keep ⟨λn J=>hβ n (S.occ s n J),λn J b G=>keepo b n G λh=>(e0 n h).2 s J,a0,c0⟩) (λx hx=>by cases hx) (λb n G=> ?_) c0 (λb G h0=> ?_) (λb n G=> ?_) (λb G=> ?_) h4 (hβ 98 S.d98);{simp only[bT]at G;split at G;{split at G;{cases G};{rename_i m hm;have:=S.wsz b m hm;omega}};grind};{have k0:b<w.heap.size:=x5 G S.fr2;rcases h0 with h0|h0;{cases O:who b with|none=>exact(a0 b O k0).2|some n=>{rcases S.fr1 b n O with h|h;{exact absurd h0 h};{omega}}};{exact(keepo b FN (S.fr3 b h0) g0).2}};{simp only[bT]at G;split at G;{split at G;{cases G};{rename_i m hm;exact S.fr1 b m hm}};{rename_i m hm;split at G;{exact S.fr1 b n G};{rcases(hw b m hm).2 with h|h;{cases O:who b with|none=>grind|some n'=>exact S.fr1 b n' O};{exact .inr (zQ S.fr2 h)}}}};{exact(keepo b FN (S.fr3 b G) g0).1}};refine⟨S1.mono (λn h=> .inl h) (dz S.dfn),⟨λn J=> ?_,λn J b G=> ?_,λhi b G K=> ?_⟩⟩;{have:=d0 n J;simp only[gX];rw[iP (by simp only[fresh];omega)];congr 1;simp only[fresh];omega};{have:=d0 n J;simp only[bT,G];rw[ae (by simp only[FN];omega),iP J]};{simp only[bT,G];split;{rfl};{rename_i n J;split;{rfl};{rename_i i0;exfalso;have hc:whoC who ln rn b=some FN:=by{simp[whoC,J,i0,j0 hi]};grind}}}
def aC.add {new:List (AV×Value)} {D':Nat->Prop} (S:aC E D' β who U [] a w) (hr: ∀x∈new,br β who w x.1 x.2) (hnd:(new.flatMap λx=>ab x.1).Nodup)
 (hdis: ∀x∈new,∀n∈ab x.1,∀s,n∉ab (U.get s)) (ho: ∀x∈new,∀n∈Vs.occ x.1,D' n):aC E D' β who U new a w:=
 {S with hrel:=hr,hnod:=hnd,hdis:=hdis,hocc:=ho}
def C2 (U:ao) (p:iF):Prop:=match p.2.1 with
 |none=>ab p.1=[]/\bV p.1=true
 |some s=>p.1=ren (a8 (ab (U.get s))) (U.get s)/\bV (U.get s)=true
def Zj {v:AV} {m:Nat} (h:Jg v=some m):m∈ab v:=by unfold Jg at h;split at h;{cases h;simp[ab,qh]};{cases h;simp[ab,qh,qc]};{cases h;simp[ab,qh,qc]};{cases h}
def q53 {v:AV} {m:Nat} {u:Value} (h:Jg v=some m) (G:br β who w v u):u=ix β m v:=by unfold Jg at h;split at h;{cases h;exact G.1};{cases h;exact G.1};{cases h;exact G.1};{cases h}
def kg.passOK {p:iF} {u:Value} (h:kg β who w U p u) (hs: ∀s,p.2.1=some s->ab (U.get s)≠[]):C2 U p:=by obtain⟨av,l,rn⟩:=p;cases l with|none=>exact⟨h.2.2.1,h.2.1⟩|some s=>{obtain⟨_,h⟩:=h;rcases h with h|⟨m,_,J,G,_⟩;{exact absurd h (hs s rfl)};{exact⟨J,G⟩}}
def QH {ps:List iF} (h: ∀p∈ps,C2 U p):
 (ps.map (·.1)).flatMap ab=(Ym ps).flatMap λs=>(ab (U.get s)).map (a8 (ab (U.get s))):=by induction ps with|nil=>rfl|cons p ps K=>{obtain⟨av,l,rn⟩:=p;have J:=h _ mS;have G:=K λp O=>h p (mT O);cases l with|none=>simp only[ui,fC,Ym,G,J.1,yn]|some s=>{have e:av=ren (a8 (ab (U.get s))) (U.get s):=J.1;simp only[ui,fC,Ym,G,e,Q8]}}
def QJ {ps:List iF} (h: ∀p∈ps,C2 U p):(ps.map (·.1)).all bV=true:=by refine zq.2 λx G=> ?_;obtain⟨p,J,rfl⟩:=zk.1 G;obtain⟨av,l,rn⟩:=p;have:=h _ J;cases l with|none=>exact this.2|some s=>{have e:av=ren (a8 (ab (U.get s))) (U.get s):=this.1;subst e;show bV (ren _ _)=true;rw[Xj];exact this.2}
def q9q {outs:List AV} {o:AV}: ∀{ps:List iF} {k:Nat} {s:Nat},yL outs ps k=some o->Ym ps=[s]->
 ∃i,∃h:i<ps.length,ps[i].2.1=some s/\outs[k+i]? =some o
 |[],k,s,h,_=>by cases h
 |(av,some O,rn)::ps,k,s,h,G=>by{simp only[Ym,List.cons.injEq]at G;exact⟨0,by simp,by simp[G.1],h⟩}
 |(av,none,rn)::ps,k,s,h,G=>by obtain⟨i,J,K,h2⟩:=q9q (ps:=ps) (k:=k+1) h G;exact⟨i+1,by simpa using J,K,by rw[<-h2];congr 1;omega⟩
def Xk {ps:List iF} {p:iF} {s:Nat} (K:p∈ps) (h:p.2.1=some s):s∈Ym ps:=by induction ps with|nil=>cases K|cons q ps J=>{obtain⟨av,l,rn⟩:=q;rcases mC K with rfl|G;{simp only at h;subst h;simp[Ym]};{cases l with|none=>exact J G|some O=>exact mT (J G)}}
def qkh {l1 l2:List Nat} {n:Nat} (h:n∈l1):a8 (l1++l2) n=a8 l1 n:=by induction l1 with|nil=>cases h|cons m ms G=>{simp only[Ct,a8];grind}
def qfz {l1 l2:List Nat} {n:Nat} (h:n∉l1):a8 (l1++l2) n=a8 l2 n+l1.length:=by induction l1 with|nil=>simp|cons m ms G=>{simp only[zu,not_or]at h;simp only[Ct,a8,KV];grind}
def qev {f g:Nat->Nat} {c:AV}:eK g (eK f c)=eK (λn=>g (f n)) c:=by cases c with|sl o t xs=>{cases o<;>rfl}|_=>rfl
def qi2 {f g:Nat->Nat} {cells:List AV}:(cells.map (eK f)).map (eK g)=cells.map (eK λn=>g (f n)):=by rw[List.map_map];exact Cm λc _=>qev
def Wb {f g:Nat->Nat} {v:AV}:iw g (iw f v)=iw (λn=>g (f n)) v:=by cases v with|bx o cells=>{have:=qi2 (f:=f) (g:=g) (cells:=cells);cases o<;>simp only[iw,renO,this]}|agg cells=>simp only[iw,qi2]|sl o t xs=>{have:=qev (f:=f) (g:=g) (c:= .sl o t xs);cases o<;>exact this}|_=>rfl
def qv3 {f g:Nat->Nat} {v:AV}:ren g (ren f v)=ren (λn=>g (f n)) v:=by cases v with|tup vs=>{simp only[ren,List.map_map];congr 1;exact Cm λc _=>Wb}|sl o t xs=>{have:=Wb (f:=f) (g:=g) (v:= .sl o t xs);cases o<;>exact this}|bx o cells=>exact Wb (f:=f) (g:=g) (v:= .bx o cells)|agg cells=>exact Wb (f:=f) (g:=g) (v:= .agg cells)|_=>rfl
def QM {f g:Nat->Nat} {c:AV} (h: ∀n∈qc c,f n=g n):eK f c=eK g c:=by cases c with|sl o t xs=>{cases o with|nm n=>simp only[eK,h n (by simp[qc])]|_=>rfl}|dp n t xs hh=>simp only[eK,h n (by simp[qc])]|wn n t xs=>simp only[eK,h n (by simp[qc])]|dq n t xs hh=>simp only[eK,h n (by simp[qc])]|_=>rfl
def q08 {f g:Nat->Nat} {cells:List AV} (h: ∀n∈cells.flatMap qc,f n=g n):cells.map (eK f)=cells.map (eK g):=
 Cm λc J=>QM λn G=>h n (zL.2 ⟨c,J,G⟩)
def Zc {f g:Nat->Nat} {v:AV} (h: ∀n∈qh v,f n=g n):iw f v=iw g v:=by cases v with|bx o cells=>{cases o with|nm m=>{simp only[qh,zu]at h;simp only[iw,renO,h m (.inl rfl),q08 λn hn=>h n (.inr hn)]}|_=>simp only[iw,renO,q08 (cells:=cells) h]}|agg cells=>simp only[iw,q08 (cells:=cells) h]|sl o t xs=>exact QM (c:= .sl o t xs) h|dp n t xs hh=>exact QM (c:= .dp n t xs hh) h|wn n t xs=>exact QM (c:= .wn n t xs) h|dq n t xs hh=>exact QM (c:= .dq n t xs hh) h|_=>rfl
def qlu {f g:Nat->Nat} {v:AV} (h: ∀n∈ab v,f n=g n):ren f v=ren g v:=by cases v with|tup vs=>{simp only[ren];congr 1;exact Cm λc hc=>Zc λn hn=>h n (zL.2 ⟨c,hc,hn⟩)}|sl o t xs=>exact Zc (v:= .sl o t xs) h|bx o cells=>exact Zc (v:= .bx o cells) h|agg cells=>exact Zc (v:= .agg cells) h|dp n t xs hh=>exact Zc (v:= .dp n t xs hh) h|wn n t xs=>exact Zc (v:= .wn n t xs) h|dq n t xs hh=>exact Zc (v:= .dq n t xs hh) h|_=>rfl
def qh6 {ps:List iF} {k s:Nat} (h: ∀p∈ps,C2 U p):
 (ps.map (yH k s)).flatMap ab=(Ym ps).flatMap λG=>(ab (U.get G)).map λn=>if G=s then a8 (ab (U.get G)) n+k else a8 (ab (U.get G)) n:=by induction ps with|nil=>rfl|cons p ps O=>{obtain⟨av,l,rn⟩:=p;have K:=h _ mS;have J:=O λp hp=>h p (mT hp);cases l with|none=>simp only[ui,fC,Ym,J,yH,K.1,yn]|some G=>{have e:av=ren (a8 (ab (U.get G))) (U.get G):=K.1;simp only[ui,fC,Ym,J,yH,e];congr 1;split;{rw[Q8,Q8,List.map_map];rfl};{rw[Q8]}}}
def qgp {ps:List iF} {k s:Nat} (h: ∀p∈ps,C2 U p):(ps.map (yH k s)).all bV=true:=by refine zq.2 λx J=> ?_;obtain⟨p,K,rfl⟩:=zk.1 J;obtain⟨av,l,rn⟩:=p;have:=h _ K;cases l with|none=>exact this.2|some G=>{have e:av=ren (a8 (ab (U.get G))) (U.get G):=this.1;subst e;simp only[yH];split;{rw[Xj,Xj];exact this.2};{rw[Xj];exact this.2}}
def Wr {outs:List AV} {o:AV} {s:Nat}: ∀{ps:List iF} {k:Nat},o8 s outs ps k=some o-> ∃i,∃h:i<ps.length,ps[i].2.1=some s/\outs[k+i]? =some o
 |[],k,h=>by cases h
 |(av,some K,rn)::ps,k,h=>by{simp only[o8]at h;split at h;{rename_i e;exact⟨0,by simp,by simp[e],h⟩};{obtain⟨i,G,J,h2⟩:=Wr (ps:=ps) (k:=k+1) h;exact⟨i+1,by simpa using G,J,by rw[<-h2];congr 1;omega⟩}}
 |(av,none,rn)::ps,k,h=>by obtain⟨i,G,J,h2⟩:=Wr (ps:=ps) (k:=k+1) h;exact⟨i+1,by simpa using G,J,by rw[<-h2];congr 1;omega⟩
def qjn: ∀{outs:List AV} {i j:Nat} (J:i<outs.length) (K:j<outs.length),i≠j->(outs.flatMap ab).Nodup->
 (ab outs[i]++ab outs[j]).Nodup
 |[],i,j,J,K,G,h=>absurd J (zC _)
 |x::xs,i,j,J,K,G,h=>by
  simp only[fC]at h;obtain⟨h1,h2,h3⟩:=zT.1 h
  have nd: ∀{k:Nat} (hk:k<xs.length),(ab xs[k]).Nodup:=λ{k} hk=>by
   grind
  match i,j with
  |0,0=>exact absurd rfl G
  |0,j+1=>
   grind
  |i+1,0=>
   grind
  |i+1,j+1=>
   simp only[List.getElem_cons_succ];exact qjn (by simpa using J) (by simpa using K) (λe=>G O) h2
end
def Oo {P:Program} {f:FuncId} (h: ∃fn,P.funcs[f]? =some fn∧fn.body.isNone=false∧(fn.name== "runtime.NumGoroutine")=false) (args:Array Value) (w:World):
 (callFunc f args).run P w= .ok (.enter f args) w:=by
 obtain⟨fn,h1,h2,h3⟩:=h;have h2':fn.body≠none:=λe=>by rw[e]at h2;cases h2
 have h3':fn.name≠ "runtime.NumGoroutine" :=by simpa using h3
 simp[callFunc,h1,h2',h3']
section
variable {P:Program} {CO:Q7} {T:TT} {E:ba} {D:Nat->Prop} {β β':aU} {who who':bp} {U U':ao} {hd:List (AV×Value)} {a:Act} {w w':World} {R W:List Nat}
def vx (P:Program) (E:ba) (D:Nat->Prop) (idx:Nat) (U':ao) (v:AV) (o:Oper) (a:Act) (w:World):Prop:=
 ∀(next:Act->World->Prop) (Q:Exit->Act->World->Prop),
  (∀c w' β' who',aC E (Dn D idx) β' who' U' [(v,c)] a w'->next (a.put o.dst c) w')->o.wp P a w next Q
def cb.wp {idx:Nat} {v:AV} {o:Oper} (h:cb P E D idx U' v a ((execOp a.eval o).run P w)):vx P E D idx U' v o a w:=by intro next Q J;obtain⟨c,w',β',who',G|⟨G,rfl⟩,S⟩:=h;{unfold Oper.wp;rw[G];exact J c w' β' who' S};{unfold Oper.wp;rw[G];exact J undef w' β' who' S}
def Zg {res o:AV} {outs:List AV} (h:(ab res++outs.flatMap ab).Nodup) (J:o∈outs):(ab o++ab res).Nodup/\ ∀n∈ab o,n∈outs.flatMap ab:=by have G:(ab o).Sublist (outs.flatMap ab):=by{induction outs with|nil=>cases J|cons x xs K=>{simp only[fC];rcases mC J with rfl|J;{exact List.sublist_append_left _ _};{refine(K ?_ J).trans (List.sublist_append_right _ _);simp only[fC]at h;exact h.sublist (List.Sublist.append (List.Sublist.refl _) (List.sublist_append_right _ _))}}};have h2:=h.sublist (List.Sublist.append (List.Sublist.refl (ab res)) G);exact⟨(List.perm_append_comm.nodup_iff).1 h2,λn O=>G.subset O⟩
def qnm (hT:bL P T) (hC: ∀f as r os,CO f as r os->Xy P f as r os) (z0:E.prog=P) {idx f:Nat} {o:Oper} {args:List Operand} {k0:List TypeId} {v:AV} {et:Ty} {xs:List (aX et)} {i0 j0:Nat} {pv:Value} (q0:br β who w (.iptr none et xs i0 j0) pv)
 (h:aw CO (KA T idx f args k0 (.iptr none et xs i0 j0)) U v U' R W) (S:aC E D β who U [] a w) (hf: ∀k,k<16-> ¬D (fresh idx k))
 (r0:execOp a.eval o=callFunc f (args.map a.eval++[pv]).toArray):vx P E D idx U' v o a w:=by intro next Q hnext;obtain⟨ps,U1,_,_,_,_,h1,h2⟩:=aw.bind' h;obtain⟨_,bh,v0,S1,hlen,hargs⟩:=aw.passAll hT h1 S;have e0:(∀s∈Ym ps,ab (U1.get s)≠[])-> ∀p∈ps,C2 U1 p:=λhs p hp=>by{obtain⟨i,J,rfl⟩:=ml hp;exact(hargs i J (by rw[<-hlen];exact J)).passOK λs e=>hs s (Xk hp e)};have c0: ∀n∈ps.flatMap (·.2.2),n≠FN:=λn G=>by{obtain⟨p,hp,G⟩:=zL.1 G;obtain⟨i,J,rfl⟩:=ml hp;have ha:=hargs i J (by rw[<-hlen];exact J);generalize ps[i]=p at*;obtain⟨av,l,rn⟩:=p;cases l with|none=>exact ha.2.2.2 n G|some s=>{have e:rn=[]:=ha.1;subst e;cases G}};have hpure: ∀(ln:List Nat) (βc:aU),(∀n∈ps.flatMap (·.2.2),n∉ln)-> ∀i (J:i<ps.length),ps[i].2.1=none->br βc (whoC bh ln (ps.flatMap (·.2.2))) w ps[i].1 (a.eval (args[i]'(by rw[<-hlen];exact J))):=λln βc hd i J hl=>by{have ha:=hargs i J (by rw[<-hlen];exact J);have b0: ∀n∈ps[i].2.2,n∈ps.flatMap (·.2.2):=λn G=>zL.2 ⟨_,zW J,G⟩;generalize ps[i]=p at*;obtain⟨av,l,rn⟩:=p;simp only at hl;subst hl;refine ha.1 βc _ ⟨λb K=>by simp[whoC,K],λb n K G=> ?_⟩;simp[whoC,K,hd n (b0 n G),b0 n G]};split at h2;{rename_i hl;have g0:=e0 (λs hs=>by rw[hl]at hs;cases hs);have hnoref:=QJ g0;have hnames:=QH g0;obtain⟨⟨r,os⟩,U2,_,_,_,_,h3,h4⟩:=aw.bind' h2;obtain⟨x0,rfl⟩:=aw.mcall' h3;obtain⟨w0,hcall⟩:=hC _ _ _ _ x0;dsimp only at h4;have h0:(ps.map (·.1)).flatMap ab=[]:=by{rw[hnames,hl];rfl};have t0:Qu r=true->ps.flatMap (·.2.2)=[]:=λJ=>by{split at h4;{exact(aw.fail' h4).elim};{rename_i hc;simp only[J,GM,Bool.not_eq_true']at hc;simpa using hc}};have hv:v=ren (fresh idx) r/\U'=U2:=by{split at h4;{exact(aw.fail' h4).elim};{exact aw.pure' h4}};obtain⟨rfl,rfl⟩:=hv;have d0: ∀βc,br βc (whoC bh [] (ps.flatMap (·.2.2))) w (.iptr none et xs i0 j0) pv:=λβc=>by{obtain⟨b,o',q1,q2,q3,q4,q5⟩:=q0;have im: ∀b,who b=none->b<w.heap.size->whoC bh [] (ps.flatMap (·.2.2)) b=none/\w.heap[b]? =w.heap[b]? :=λb K _=>⟨by{have hz:bh b=none:=(v0 b).elim (λh=>h.trans K) id;simp[whoC,hz]},rfl⟩;exact⟨b,o',q1,q2,(im b q3 q4).1,q4,aT.keep im (zI _) rfl q5⟩};have hnoref':(ps.map (·.1)++[AV.iptr none et xs i0 j0]).all bV=true:=by{rw[Uh,hnoref];rfl};have O:(ps.map (·.1)++[AV.iptr none et xs i0 j0]).flatMap ab=[]:=by{rw[x6,h0];rfl};have hcalls:=hcall (λ_=>undef) (whoC bh [] (ps.flatMap (·.2.2))) w (args.map a.eval++[pv]).toArray (by simp[hlen]) (λi J=>by{by_cases a0:i<ps.length;{have ha:i<args.length:=by{rw[<-hlen];exact a0};have e1:(ps.map (·.1)++[AV.iptr none et xs i0 j0])[i]=ps[i].1:=by{rw[ya (by simpa using a0),qL]};have e2:(args.map a.eval++[pv]).toArray.getD i undef=a.eval args[i]:=by{simp[Array.getD,ha];intro h;omega};rw[e1,e2];refine hpure [] _ (λ_ _ h=>by cases h) i a0 ?_;cases e:ps[i].2.1 with|none=>rfl|some s=>{have:=Xk (zW a0) e;rw[hl]at this;cases this}};{have u0:i=ps.length:=by{simp at J;omega};subst u0;have e1:(ps.map (·.1)++[AV.iptr none et xs i0 j0])[ps.length]= .iptr none et xs i0 j0:=by{simp};have e2:(args.map a.eval++[pv]).toArray.getD ps.length undef=pv:=by{simp[Array.getD,hlen]};rw[e1,e2];exact d0 _}}) (by rw[O];exact yk) (by rw[O];simp) (Jh hnoref') (fun b n K=>by{simp only[whoC]at K;split at K;{cases K};{rename_i m hm;simp only[oG,if_false]at K;split at K;{cases K};{injection K with K;exact⟨S1.wsz b m hm,.inr K.symm⟩}}});unfold Oper.wp;rw[r0,Oo w0,Oper.upon_enter];refine Calls.mono (hcalls ((z0▸S1.glob:cG P bh w).whoC (λb h=>by simp[whoC,h]))) λe w' hp=> ?_;obtain⟨c,β',who',rfl,_,p1,p2,p3,p4,p5,p6,p7,p8,p9,m0,l0⟩:=hp;have s0:=(zT.1 p3).1;obtain⟨S2,k⟩:=Jd (β':=β') (who':=who') (w':=w') (ln:=[]) (rn:=ps.flatMap (·.2.2)) (ns:=ab r) (im:=Qu r) S1 hf (λn G=>by cases G) c0 (by simp) p7 p8 p9 m0 (λn G=>p4 n (zx _ G)) t0 l0;refine hnext c w' _ _ (S2.add (new:=[(ren (fresh idx) r,c)]) ?_ ?_ ?_ ?_);{intro x hx;obtain rfl:=zA.1 hx;exact br.ren p5 k p1};{simp only[fC,Cs,mz,Q8];exact X8 (λ_ _ _ _ h=>Yd h) s0};{intro x hx n G s hs;obtain rfl:=zA.1 hx;simp only[Q8,zk]at G;obtain⟨m,hm,rfl⟩:=G;exact hf m (p4 m (zx _ hm)) (S1.occ s _ (qi hs))};{intro x hx n G;obtain rfl:=zA.1 hx;rw[Zk (by rw[Xj];exact p5),Q8,zk]at G;obtain⟨m,hm,rfl⟩:=G;exact .inr ⟨m,p4 m (zx _ hm),rfl⟩}};{exact(aw.fail' h2).elim}
def q9v (hT:bL P T) (hC: ∀f as r os,CO f as r os->Xy P f as r os) (x2:E.prog=P) {idx mode f:Nat} {o:Oper} {args:List Operand} {x3:List TypeId} {v:AV}
 (h:aw CO (XE T idx mode f args x3) U v U' R W) (S:aC E D β who U [] a w) (hf: ∀k,k<16-> ¬D (fresh idx k))
 (s2:execOp a.eval o=callFunc f (args.map a.eval).toArray):vx P E D idx U' v o a w:=by
 intro next Q hnext
 obtain⟨ps,U1,_,_,_,_,h1,h2⟩:=aw.bind' h;obtain⟨_,bh,_,S1,hlen,hargs⟩:=aw.passAll hT h1 S
 have a1:(∀s∈Ym ps,ab (U1.get s)≠[])-> ∀p∈ps,C2 U1 p:=λhs p hp=>by
  obtain⟨i,hi,rfl⟩:=ml hp;exact(hargs i hi (by rw[<-hlen];exact hi)).passOK λs e=>hs s (Xk hp e)
 have u0: ∀i (hi:i<args.length),(args.map a.eval).toArray.getD i undef=a.eval args[i]:=λi hi=>by simp[Array.getD,hi]
 have x0: ∀n∈ps.flatMap (·.2.2),n≠FN:=λn G=>by
  obtain⟨p,hp,G⟩:=zL.1 G;obtain⟨i,hi,rfl⟩:=ml hp;have ha:=hargs i hi (by rw[<-hlen];exact hi)
  generalize ps[i]=p at*
  obtain⟨av,l,rn⟩:=p;cases l with
  |none=>exact ha.2.2.2 n G
  |some s=>have e:rn=[]:=ha.1;subst e;cases G
 have hpure: ∀(ln:List Nat) (βc:aU),(∀n∈ps.flatMap (·.2.2),n∉ln)-> ∀i (hi:i<ps.length),ps[i].2.1=none->br βc (whoC bh ln (ps.flatMap (·.2.2))) w ps[i].1 (a.eval (args[i]'(by rw[<-hlen];exact hi))):=λln βc hd i hi hl=>by
  have ha:=hargs i hi (by rw[<-hlen];exact hi)
  have h0: ∀n∈ps[i].2.2,n∈ps.flatMap (·.2.2):=λn G=>zL.2 ⟨_,zW hi,G⟩
  generalize ps[i]=p at*
  obtain⟨av,l,rn⟩:=p;simp only at hl;subst hl;refine ha.1 βc _ ⟨λb O=>by simp[whoC,O],λb n O G=> ?_⟩
  simp[whoC,O,hd n (h0 n G),h0 n G]
 split at h2
 ·
  rename_i hl;have i0:=a1 (λs hs=>by rw[hl]at hs;cases hs)
  have hnoref:=QJ i0;have hnames:=QH i0;obtain⟨⟨r,os⟩,U2,_,_,_,_,h3,h4⟩:=aw.bind' h2;obtain⟨u1,rfl⟩:=aw.mcall' h3;obtain⟨t1,hcall⟩:=hC _ _ _ _ u1;dsimp only at h4;have f2:(ps.map (·.1)).flatMap ab=[]:=by rw[hnames,hl];rfl
  have r1:Qu r=true->ps.flatMap (·.2.2)=[]:=λhi=>by
   split at h4
   . exact(aw.fail' h4).elim
   . rename_i hc;simp only[hi,GM,Bool.not_eq_true']at hc;simpa using hc
  have hv:v=ren (fresh idx) r/\U'=U2:=by
   split at h4
   . exact(aw.fail' h4).elim
   . exact aw.pure' h4
  obtain⟨rfl,rfl⟩:=hv
  have hcalls:=hcall (λ_=>undef) (whoC bh [] (ps.flatMap (·.2.2))) w (args.map a.eval).toArray (by simp[hlen]) (λi hi=>by
   have w2:i<ps.length:=by simpa using hi
   rw[u0 i (by rw[<-hlen];exact w2),qL]
   refine hpure [] _ (λ_ _ h=>by cases h) i w2 ?_
   cases e:ps[i].2.1 with
   |none=>rfl
   |some s=>have:=Xk (zW w2) e;rw[hl]at this;cases this) (by rw[f2];exact yk) (by rw[f2];simp) (Jh hnoref)
   (fun b n O=>by
     simp only[whoC]at O;split at O
     . cases O
     . rename_i m hm;simp only[oG,if_false]at O;split at O
       . cases O
       . injection O with O;exact⟨S1.wsz b m hm,.inr O.symm⟩)
  unfold Oper.wp;rw[s2,Oo t1,Oper.upon_enter];refine Calls.mono (hcalls ((x2▸S1.glob:cG P bh w).whoC (λb h=>by simp[whoC,h]))) λe w' hp=> ?_
  obtain⟨c,β',who',rfl,_,p1,p2,p3,p4,p5,p6,p7,p8,p9,w0,v0⟩:=hp;have j1:=(zT.1 p3).1
  obtain⟨S2,k⟩:=Jd (β':=β') (who':=who') (w':=w') (ln:=[]) (rn:=ps.flatMap (·.2.2)) (ns:=ab r) (im:=Qu r) S1 hf (λn G=>by cases G) x0 (by simp) p7 p8 p9 w0
   (λn G=>p4 n (zx _ G)) r1 v0
  refine hnext c w' _ _ (S2.add (new:=[(ren (fresh idx) r,c)]) ?_ ?_ ?_ ?_)
  . intro x hx;obtain rfl:=zA.1 hx;exact br.ren p5 k p1
  . simp only[fC,Cs,mz,Q8];exact X8 (λ_ _ _ _ h=>Yd h) j1
  . intro x hx n G s hs;obtain rfl:=zA.1 hx;simp only[Q8,zk]at G;obtain⟨m,hm,rfl⟩:=G;exact hf m (p4 m (zx _ hm)) (S1.occ s _ (qi hs))
  . intro x hx n G;obtain rfl:=zA.1 hx;rw[Zk (by rw[Xj];exact p5),Q8,zk]at G
    obtain⟨m,hm,rfl⟩:=G;exact .inr ⟨m,p4 m (zx _ hm),rfl⟩
 ·
  rename_i s hl;obtain⟨av,U2,_,_,_,_,h3,h4⟩:=aw.bind' h2;obtain⟨rfl,rfl⟩:=aw.mget' h3;split at h4
  . exact(aw.fail' h4).elim
  rename_i b0;simp only[GF,not_or]at b0;obtain⟨r0,b0⟩:=b0
  have i0:=a1 (λJ hs=>by
   rw[hl,zA]at hs;subst hs;intro e;cases e2:Jg (U2.get J)with
   |none=>rw[e2]at r0;exact r0 rfl
   |some m=>have:=Zj e2;rw[e]at this;cases this)
  have hnoref:=QJ i0;have hnames:=QH i0;obtain⟨⟨r,os⟩,U3,_,_,_,_,h5,h6⟩:=aw.bind' h4;obtain⟨u1,rfl⟩:=aw.mcall' h5;obtain⟨t1,hcall⟩:=hC _ _ _ _ u1;dsimp only at h6;split at h6
  case h_2=>exact(aw.fail' h6).elim
  rename_i ov z3;split at h6
  . exact(aw.fail' h6).elim
  rename_i hc
  have y3:je ov=false:=by
   cases e:je ov with
   |false=>rfl
   |true=>exact absurd (by rw[e,CP]) hc
  have hc: ¬(!(ps.flatMap (·.2.2)).isEmpty&&(Qu r||Qu ov))=true:=λe=>hc (by rw[e];rfl)
  obtain⟨_,U4,_,_,_,_,h7,h8⟩:=aw.bind' h6;have:=aw.mset' h7;subst this;obtain⟨rfl,rfl⟩:=aw.pure' h8;obtain⟨i,hi,g3,r2⟩:=q9q z3 hl;simp only[zH]at r2;have v1:=hargs i hi (by rw[<-hlen];exact hi)
  obtain⟨m,s3,b4,n3,hu⟩: ∃m,Jg (U3.get s)=some m/\(ab (U3.get s)).length<=16/\bV (U3.get s)=true/\a.eval (args[i]'(by rw[<-hlen];exact hi))=ix β m (U3.get s):=by
   generalize ps[i]=p at*
   obtain⟨av,l,rn⟩:=p;simp only at g3;subst g3;obtain⟨_,v1⟩:=v1;rcases v1 with v1|⟨m,q1,q2,q3,q4,q5⟩
   . cases e2:Jg (U3.get s)with
     |none=>rw[e2]at r0;exact absurd rfl r0
     |some m=>have:=Zj e2;rw[v1]at this;cases this
   . exact⟨m,q1,q4,q3,q5⟩
  have e3:a.tmps.getD s undef=ix β m (U3.get s):=q53 s3 (S1.rel s);generalize K:ab (U3.get s)=ln at*
  have s0: ∀n∈ps.flatMap (·.2.2),n∉ln:=λn G d0=>by
   apply b0;exact NC.2 ⟨n,G,x8.2 d0⟩
  have r1:(Qu r||Qu ov)=true->ps.flatMap (·.2.2)=[]:=λhi=>by
   simp only[hi,GM,Bool.not_eq_true']at hc;simpa using hc
  have g1:ln.Nodup:=K▸S1.nod s;have c0:(ps.map (·.1)).flatMap ab=ln.map (a8 ln):=by rw[hnames,hl];simp[K]
  have m1: ∀n∈ln,D n:=λn G=>S1.occ s n (qi (K▸G))
  have hcalls:=hcall (λk=>β (ln.getD k 0)) (whoC bh ln (ps.flatMap (·.2.2))) w (args.map a.eval).toArray (by simp[hlen]) (λj hj=>by
   have e0:j<ps.length:=by simpa using hj
   rw[u0 j (by rw[<-hlen];exact e0),qL]
   cases e:ps[j].2.1 with
   |none=>exact hpure ln _ s0 j e0 e
   |some J=>
    have:=Xk (zW e0) e;rw[hl,zA]at this;subst this;have t0:=hargs j e0 (by rw[<-hlen];exact e0)
    generalize ps[j]=p at*
    obtain⟨av,l,rn⟩:=p;simp only at e;subst e;obtain⟨_,t0⟩:=t0;obtain⟨m',q1,q2,q3,q4,q5⟩:=t0.resolve_left λe=>by have:=Zj s3;rw[e]at this;cases this
    simp only at q2;rw[q2,q5,K];have z1:=S1.rel J;have e2:ix β m' (U3.get J)=a.tmps.getD J undef:=(q53 q1 z1).symm;rw[e2];refine br.ren q3 ⟨λn G=> ?_,λn G b O=> ?_,λ_ b O _=>by simp[whoC,O]⟩ z1
    . rw[K]at G;simp only[Ol G]
    . rw[K]at G;simp[whoC,O,G]) (by rw[c0];exact X8 (λ_ h1 _ h2 h=>Qf h1 h2 h) g1)
   (by
     rw[c0];intro n' d0;obtain⟨n,G,rfl⟩:=zk.1 d0;have:=Y8 G;omega) (Jh hnoref)
   (fun b n O=>by
     simp only[whoC]at O;split at O
     . cases O
     . rename_i n' d0;refine⟨S1.wsz b n' d0,?_⟩;split at O
       . rename_i v2;injection O with O
         exact .inl (by rw[c0,<-O];exact zk.2 ⟨n',v2,rfl⟩)
       . split at O
         . cases O
         . injection O with O;exact .inr O.symm)
  unfold Oper.wp;rw[s2,Oo t1,Oper.upon_enter];refine Calls.mono (hcalls ((x2▸S1.glob:cG P bh w).whoC (λb h=>by simp[whoC,h]))) λe w' hp=> ?_
  obtain⟨c,β',who',rfl,_,p1,p2,p3,p4,p5,p6,p7,p8,p9,w0,v0⟩:=hp;have d2:ov∈os:=List.mem_of_getElem? r2;obtain⟨j1,b2⟩:=Zg p3 d2;have w1:aC E D β bh (U3.set s .dead) [] a w:=(S1.takeAll s).drop rfl
  obtain⟨S2,k⟩:=Jd (β':=β') (who':=who') (w':=w') (ln:=ln) (rn:=ps.flatMap (·.2.2)) (ns:=ab r++ab ov) (im:=Qu r||Qu ov) w1 hf
   (fun n G=>⟨λe=>S1.dfn (e▸m1 n G),λJ a0=>by
     by_cases e:J=s
     . subst e;rw[qg]at a0;simp[ab,qh,qc]at a0
     . rw[qf _ _ e]at a0;exact e (S1.dis J s n a0 (K▸G))⟩) x0 b4 p7 p8 p9 w0
   (fun n G=>by
     rcases zZ.1 G with h|h
     . exact p4 n (zx _ h)
     . exact p4 n (xc _ (b2 n h))) r1 v0
  have b3:bV ov=true:=q3c (zq.1 p6 _ d2) y3
  have f3:br β' who' w' ov (a.tmps.getD s undef):=by
   obtain⟨y1,e2⟩:=List.getElem?_eq_some_iff.1 r2;have:=p2 i y1;rw[u0 i (by rw[<-hlen];exact hi),hu,<-e3,e2]at this
   exact this
  have j0: ∀n,n∈ab ov\/n∈ab r->n<16:=λn G=>by
   rcases G with h|h
   . exact p4 n (xc _ (b2 n h))
   . exact p4 n (zx _ h)
  have hfreshσ: ∀m,m<16-> ∀t,fresh idx m∉ab ((U3.set s .dead).get t):=λm hm t ht=>hf m hm (w1.occ t _ (qi ht))
  have S3:=S2.add (new:=[(ren (fresh idx) ov,a.tmps.getD s undef),(ren (fresh idx) r,c)])
   (fun x hx=>by
     rcases mC hx with rfl|hx
     . exact br.ren b3 (k.mono (λn G=>xc _ G) λe=>by simp[e]) f3
     . obtain rfl:=zA.1 hx;exact br.ren p5 (k.mono (λn G=>zx _ G) λe=>by simp[e]) p1)
   (by
     simp only[fC,Cs,mz,Q8,<-List.map_append];exact X8 (λ_ _ _ _ h=>Yd h) j1)
   (fun x hx n G t ht=>by
     have: ∃m,m<16/\n=fresh idx m:=by
      rcases mC hx with rfl|hx
      . simp only[Q8,zk]at G;obtain⟨m,hm,rfl⟩:=G;exact⟨m,j0 m (.inl hm),rfl⟩
      . obtain rfl:=zA.1 hx;simp only[Q8,zk]at G;obtain⟨m,hm,rfl⟩:=G;exact⟨m,j0 m (.inr hm),rfl⟩
     obtain⟨m,hm,rfl⟩:=this;exact hfreshσ m hm t ht)
   (fun x hx n G=>by
     rcases mC hx with rfl|hx
     . rw[Zk (by rw[Xj];exact b3),Q8,zk]at G
       obtain⟨m,hm,rfl⟩:=G;exact .inr ⟨m,j0 m (.inl hm),rfl⟩
     . obtain rfl:=zA.1 hx;rw[Zk (by rw[Xj];exact p5),Q8,zk]at G
       obtain⟨m,hm,rfl⟩:=G;exact .inr ⟨m,j0 m (.inr hm),rfl⟩)
  have S4:=S3.putBack (by rw[qg];rfl)
  refine hnext c w' _ _ (S4.ext λt=> ?_)
  by_cases e:t=s
  . subst e;rw[qg,qg]
  . rw[qf _ _ e,qf _ _ e,qf _ _ e]
 ·
  rename_i s t hl;obtain⟨av,U2,_,_,_,_,h3,h4⟩:=aw.bind' h2;obtain⟨rfl,rfl⟩:=aw.mget' h3;obtain⟨bv,g0,_,_,_,_,c4,y2⟩:=aw.bind' h4;obtain⟨rfl,rfl⟩:=aw.mget' c4;split at y2
  . exact(aw.fail' y2).elim
  rename_i b0;simp only[GF,not_or]at b0;obtain⟨⟨⟨⟨k0,r0⟩,g2⟩,u3⟩,b0⟩:=b0;have k0:s≠t:=λe=>k0 (by rw[e];exact Nat.beq_refl t)
  have h16l:(ab (g0.get s)).length+(ab (g0.get t)).length<=16:=by
   have: ¬(16<(ab (g0.get s)).length+(ab (g0.get t)).length):=λh=>u3 (by simpa [Nat.blt_eq]using h)
   omega
  have hsome: ∀J,J∈Ym ps-> ∃m,Jg (g0.get J)=some m:=λJ hs=>by
   rw[hl]at hs;simp only[zu,oG,or_false]at hs;rcases hs with rfl|rfl
   . cases e2:Jg (g0.get J)with
     |none=>rw[e2]at r0;exact absurd rfl r0
     |some m=>exact⟨m,rfl⟩
   . cases e2:Jg (g0.get J)with
     |none=>rw[e2]at g2;exact absurd rfl g2
     |some m=>exact⟨m,rfl⟩
  have i0:=a1 (λJ hs e=>by
   obtain⟨m,hm⟩:=hsome J hs;have:=Zj hm;rw[e]at this;cases this)
  have hnoref:=qgp (k:=(ab (g0.get s)).length) (s:=t) i0;have hnames:=qh6 (k:=(ab (g0.get s)).length) (s:=t) i0;obtain⟨⟨r,os⟩,U3,_,_,_,_,h5,h6⟩:=aw.bind' y2;obtain⟨u1,rfl⟩:=aw.mcall' h5;obtain⟨t1,hcall⟩:=hC _ _ _ _ u1;dsimp only at h6;split at h6
  case h_2=>exact(aw.fail' h6).elim
  rename_i o1 o2 k3 i3;split at h6
  . exact(aw.fail' h6).elim
  rename_i hc
  have d3:je o1=false:=by
   cases e:je o1 with
   |false=>rfl
   |true=>exact absurd (by rw[e,UB,CP]) hc
  have c3:je o2=false:=by
   cases e:je o2 with
   |false=>rfl
   |true=>exact absurd (by rw[e,CP,CP]) hc
  have hc: ¬(!(ps.flatMap (·.2.2)).isEmpty&&(Qu r||Qu o1||Qu o2))=true:=λe=>hc (by rw[e];rfl)
  obtain⟨_,U4,_,_,_,_,h7,h8⟩:=aw.bind' h6;have:=aw.mset' h7;subst this;obtain⟨_,U5,_,_,_,_,h9,d4⟩:=aw.bind' h8;have:=aw.mset' h9;subst this;obtain⟨rfl,rfl⟩:=aw.pure' d4;obtain⟨i1,r3,a2,f1⟩:=Wr k3;obtain⟨i2,y1,z0,e1⟩:=Wr i3;simp only[zH]at f1 e1;have o3:i1≠i2:=by rintro rfl;rw[a2]at z0;injection z0 with e;exact k0 e
  have hlent: ∀j (hj:j<ps.length) J,ps[j].2.1=some J-> ∃m,Jg (U3.get J)=some m/\ps[j].1=ren (a8 (ab (U3.get J))) (U3.get J)/\bV (U3.get J)=true/\
   a.eval (args[j]'(by rw[<-hlen];exact hj))=a.tmps.getD J undef:=λj hj J e=>by
   obtain⟨m0,a4⟩:=hsome J (Xk (zW hj) e);have t0:=hargs j hj (by rw[<-hlen];exact hj)
   generalize ps[j]=p at*
   obtain⟨av,l,rn⟩:=p;simp only at e;subst e;obtain⟨_,t0⟩:=t0;obtain⟨m',q1,q2,q3,q4,q5⟩:=t0.resolve_left λe=>by have:=Zj a4;rw[e]at this;cases this
   exact⟨m',q1,q2,q3,by rw[q5];exact(q53 q1 (S1.rel J)).symm⟩
  obtain⟨ln,K⟩: ∃ln,ln=ab (U3.get s)++ab (U3.get t):=⟨_,rfl⟩;have j2: ∀n,n∈ab (U3.get s)->n∉ab (U3.get t):=λn h1 h2=>k0 (S1.dis s t n h1 h2)
  have u2:ln.length<=16:=by rw[K,zG];exact h16l
  have s0: ∀n∈ps.flatMap (·.2.2),n∉ln:=λn G d0=>by
   apply b0;exact NC.2 ⟨n,G,x8.2 (K▸d0)⟩
  have r1:(Qu r||(Qu o1||Qu o2))=true->ps.flatMap (·.2.2)=[]:=λhi=>by
   rw[<-Bool.or_assoc]at hi;simp only[hi,GM,Bool.not_eq_true']at hc;simpa using hc
  have g1:ln.Nodup:=by
   rw[K];exact zT.2 ⟨S1.nod s,S1.nod t,λx hx y hy e=>j2 x hx (e▸hy)⟩
  have h0: ∀J,J=s\/J=t-> ∀n∈ab (U3.get J),n∈ln:=λJ h n G=>by
   rw[K];rcases h with rfl|rfl
   . exact zx _ G
   . exact xc _ G
  have s1: ∀J,J=s\/J=t-> ∀n∈ab (U3.get J),(if J=t then a8 (ab (U3.get J)) n+(ab (U3.get s)).length else a8 (ab (U3.get J)) n)=a8 ln n:=λJ h n G=>by
   rw[K];rcases h with rfl|rfl
   . rw[ae k0,qkh G]
   . rw[iP rfl,qfz (λh=>j2 n h G)]
  have c0:(ps.map (yH (ab (U3.get s)).length t)).flatMap ab=ln.map (a8 ln):=by
   rw[hnames,hl];rw[fC,fC,Cs,mz];rw[Cm (s1 s (.inl rfl)),Cm (s1 t (.inr rfl)),<-List.map_append,<-K]
  have m1: ∀n∈ln,D n:=λn G=>by
   rw[K]at G;rcases zZ.1 G with G|G
   . exact S1.occ s n (qi G)
   . exact S1.occ t n (qi G)
  have t2: ∀J,J∈Ym ps->J=s\/J=t:=λJ h=>by rw[hl]at h;simpa using h
  have hcalls:=hcall (λk=>β (ln.getD k 0)) (whoC bh ln (ps.flatMap (·.2.2))) w (args.map a.eval).toArray (by simp[hlen]) (λj hj=>by
   have e0:j<ps.length:=by simpa using hj
   rw[u0 j (by rw[<-hlen];exact e0),qL]
   cases e:ps[j].2.1 with
   |none=>
    have:yH (ab (U3.get s)).length t ps[j]=ps[j].1:=by simp only[yH,e]
    rw[this];exact hpure ln _ s0 j e0 e
   |some J=>
    have a0:=t2 J (Xk (zW e0) e);obtain⟨m',q1,q2,q3,q5⟩:=hlent j e0 J e
    have:yH (ab (U3.get s)).length t ps[j]=ren (a8 ln) (U3.get J):=by
     simp only[yH,e];rw[q2,<-qlu (s1 J a0)];split
     . rw[qv3]
     . rfl
    rw[this,q5];refine br.ren q3 ⟨λn G=> ?_,λn G b O=> ?_,λ_ b O _=>by simp[whoC,O]⟩ (S1.rel J)
    . simp only[Ol (h0 J a0 n G)]
    . simp[whoC,O,h0 J a0 n G]) (by rw[c0];exact X8 (λ_ h1 _ h2 h=>Qf h1 h2 h) g1)
   (by
     rw[c0];intro n' d0;obtain⟨n,G,rfl⟩:=zk.1 d0;have:=Y8 G;omega) (Jh hnoref)
   (fun b n O=>by
     simp only[whoC]at O;split at O
     . cases O
     . rename_i n' d0;refine⟨S1.wsz b n' d0,?_⟩;split at O
       . rename_i v2;injection O with O
         exact .inl (by rw[c0,<-O];exact zk.2 ⟨n',v2,rfl⟩)
       . split at O
         . cases O
         . injection O with O;exact .inr O.symm)
  unfold Oper.wp;rw[s2,Oo t1,Oper.upon_enter];refine Calls.mono (hcalls ((x2▸S1.glob:cG P bh w).whoC (λb h=>by simp[whoC,h]))) λe w' hp=> ?_
  obtain⟨c,β',who',rfl,_,p1,p2,p3,p4,p5,p6,p7,p8,p9,w0,v0⟩:=hp;obtain⟨m3,w3⟩:=List.getElem?_eq_some_iff.1 f1;obtain⟨l3,v3⟩:=List.getElem?_eq_some_iff.1 e1;have d1:o1∈os:=List.mem_of_getElem? f1;have b1:o2∈os:=List.mem_of_getElem? e1;have q0:=(Zg p3 d1).2;have l0:=(Zg p3 b1).2
  have j1:(ab o1++(ab o2++ab r)).Nodup:=by
   have k1:=qjn m3 l3 o3 (zT.1 p3).2.1;rw[w3,v3]at k1;rw[<-List.append_assoc];refine zT.2 ⟨k1,(zT.1 p3).1,λx hx y hy e=> ?_⟩
   refine(zT.1 p3).2.2 y hy x ?_ e.symm;rcases zZ.1 hx with h|h
   . exact q0 x h
   . exact l0 x h
  have t3:aC E D β bh (U3.set s .dead) [] a w:=(S1.takeAll s).drop rfl;have w1:aC E D β bh ((U3.set s .dead).set t .dead) [] a w:=(t3.takeAll t).drop rfl
  obtain⟨S2,k⟩:=Jd (β':=β') (who':=who') (w':=w') (ln:=ln) (rn:=ps.flatMap (·.2.2)) (ns:=ab r++(ab o1++ab o2)) (im:=Qu r||(Qu o1||Qu o2)) w1 hf
   (fun n G=>⟨λe=>S1.dfn (e▸m1 n G),λJ a0=>by
     by_cases e2:J=t
     . subst e2;rw[qg]at a0;simp[ab,qh,qc]at a0
     . rw[qf _ _ e2]at a0;by_cases e:J=s
       . subst e;rw[qg]at a0;simp[ab,qh,qc]at a0
       . rw[qf _ _ e]at a0;rw[K]at G;rcases zZ.1 G with G|G
         . exact e (S1.dis J s n a0 G)
         . exact e2 (S1.dis J t n a0 G)⟩) x0 u2 p7 p8 p9 w0
   (fun n G=>by
     rcases zZ.1 G with h|h
     . exact p4 n (zx _ h)
     . rcases zZ.1 h with h|h
       . exact p4 n (xc _ (q0 n h))
       . exact p4 n (xc _ (l0 n h))) r1 v0
  have a3:bV o1=true:=q3c (zq.1 p6 _ d1) d3;have z2:bV o2=true:=q3c (zq.1 p6 _ b1) c3
  have m2:br β' who' w' o1 (a.tmps.getD s undef):=by
   obtain⟨_,_,_,_,q5⟩:=hlent i1 r3 s a2;have:=p2 i1 m3;rw[u0 i1 (by rw[<-hlen];exact r3),q5,w3]at this
   exact this
  have k2:br β' who' w' o2 (a.tmps.getD t undef):=by
   obtain⟨_,_,_,_,q5⟩:=hlent i2 y1 t z0;have:=p2 i2 l3;rw[u0 i2 (by rw[<-hlen];exact y1),q5,v3]at this
   exact this
  have j0: ∀n,n∈ab o1\/n∈ab o2\/n∈ab r->n<16:=λn G=>by
   rcases G with h|h|h
   . exact p4 n (xc _ (q0 n h))
   . exact p4 n (xc _ (l0 n h))
   . exact p4 n (zx _ h)
  have hfreshσ: ∀m,m<16-> ∀t',fresh idx m∉ab (((U3.set s .dead).set t .dead).get t'):=λm hm t' ht=>hf m hm (w1.occ t' _ (qi ht))
  have hmemN: ∀x∈[(ren (fresh idx) o1,a.tmps.getD s undef),(ren (fresh idx) o2,a.tmps.getD t undef),(ren (fresh idx) r,c)],∀n∈ab x.1,∃m,m<16/\n=fresh idx m:=by
   intro x hx n G;simp only[zu,oG,or_false]at hx;rcases hx with rfl|rfl|rfl<;>(simp only[Q8,zk]at G;obtain⟨m,hm,rfl⟩:=G)
   . exact⟨m,j0 m (.inl hm),rfl⟩
   . exact⟨m,j0 m (.inr (.inl hm)),rfl⟩
   . exact⟨m,j0 m (.inr (.inr hm)),rfl⟩
  have S3:=S2.add (new:=[(ren (fresh idx) o1,a.tmps.getD s undef),(ren (fresh idx) o2,a.tmps.getD t undef),(ren (fresh idx) r,c)])
   (fun x hx=>by
     simp only[zu,oG,or_false]at hx;rcases hx with rfl|rfl|rfl
     . exact br.ren a3 (k.mono (λn G=>xc _ (zx _ G)) λe=>by simp[e]) m2
     . exact br.ren z2 (k.mono (λn G=>xc _ (xc _ G)) λe=>by simp[e]) k2
     . exact br.ren p5 (k.mono (λn G=>zx _ G) λe=>by simp[e]) p1)
   (by
     simp only[fC,Cs,mz,Q8,<-List.map_append];exact X8 (λ_ _ _ _ h=>Yd h) j1)
   (fun x hx n G t' ht=>by
     obtain⟨m,hm,rfl⟩:=hmemN x hx n G;exact hfreshσ m hm t' ht)
   (fun x hx n G=>by
     have n3:bV x.1=true:=by
      simp only[zu,oG,or_false]at hx;rcases hx with rfl|rfl|rfl<;>rw[Xj]
      . exact a3
      . exact z2
      . exact p5
     rw[Zk n3]at G;obtain⟨m,hm,rfl⟩:=hmemN x hx n G;exact .inr ⟨m,hm,rfl⟩)
  have S4:=S3.putBack (by
   rw[qf _ _ k0,qg];rfl)
  have S5:=S4.putBack (by
   rw[qf _ _ (λe=>k0 e.symm),qg];rfl)
  refine hnext c w' _ _ (S5.ext λt'=> ?_)
  by_cases e2:t'=t
  . subst e2;rw[qg,qg]
  . rw[qf _ _ e2,qf _ _ e2];by_cases e:t'=s
    . subst e;rw[qg,qg]
    . rw[qf _ _ e,qf _ _ e,qf _ _ e2,qf _ _ e]
 . exact(aw.fail' h2).elim
end
def be.flatW {who who':bp} {w w':World}: ∀{t:Ty} {x:aX t} {g g':Nat->Option Value} {j j':Nat},Ya t=false->(∀i,i<t.size->g' (j'+i)=g (j+i))->be who w t x g j->be who' w' t x g' j'
 | .int _,_,g,g',j,j',_,G,h=>by{have:=G 0 (by simp[Ty.size]);exact this.trans h}
 | .bool,_,g,g',j,j',_,G,h=>by{have:=G 0 (by simp[Ty.size]);exact this.trans h}
 | .pr a b,_,g,g',j,j',J,G,h=>by{simp only[Ya,Ut]at J;refine⟨be.flatW J.1 (λi K=>G i (by simp only[Ty.size];omega)) h.1,be.flatW J.2 (λi K=> ?_) h.2⟩;have:=G (a.size+i) (by simp only[Ty.size];omega);grind}
 | .sl _ t,xs,g,g',j,j',J,G,h=>by cases J
def qk8 {α:Type} {xs ys:List α} {off len:Nat} (J:ys.length=len) (h:off+len<=xs.length) {i:Nat} (K:i<(xs.take off++(ys++xs.drop (off+len))).length):
 (∀(_:i<off) (h2:i<xs.length),(xs.take off++(ys++xs.drop (off+len)))[i]=xs[i])/\
 (∀(G:off<=i) (h2:i-off<ys.length),(xs.take off++(ys++xs.drop (off+len)))[i]=ys[i-off])/\
 (∀(G:off+len<=i) (h2:i<xs.length),(xs.take off++(ys++xs.drop (off+len)))[i]=xs[i]):=by grind
section
variable {P:Program} {CO:Q7} {T:TT} {E:ba} {D:Nat->Prop} {β β':aU} {who who':bp} {U U':ao} {hd:List (AV×Value)} {a:Act} {w w':World} {R W:List Nat}
end
section
variable {P:Program} {CO:Q7} {T:TT} {E:ba} {D:Nat->Prop} {β β':aU} {who who':bp} {U U':ao} {hd:List (AV×Value)} {a:Act} {w w':World} {R W:List Nat}
def qlk (hT:bL P T) (hC: ∀f as r os,CO f as r os->Xy P f as r os) (f4:E.prog=P) {idx kp f:Nat} {o:Oper} {args:List Operand} {c3:List TypeId} {v:AV}
 (h:aw CO (YL T idx kp f args c3) U v U' R W) (S:aC E D β who U [] a w) (hf: ∀k,k<16-> ¬D (fresh idx k))
 (k3:execOp a.eval o=callFunc f (args.map a.eval).toArray):vx P E D idx U' v o a w:=by
 intro next Q hnext
 unfold YL at h;split at h
 case h_2=>exact(aw.fail' h).elim
 rename_i x s0;obtain⟨k2,s0⟩:=List.getElem?_eq_some_iff.1 s0;obtain⟨ps,U1,_,_,_,_,h1,h2⟩:=aw.bind' h;obtain⟨_,bh,_,S1,hlen,hargs⟩:=aw.passAll hT h1 S;split at h2
 case h_2=>exact(aw.fail' h2).elim
 rename_i hl;obtain⟨rv,U2,_,_,_,_,h3,h4⟩:=aw.bind' h2;obtain⟨rfl,Sr⟩:=aw.rd h3 S1;have hx:=Sr.hrel _ mS;split at h4
 case h_2=>exact(aw.fail' h4).elim
 rename_i s n sz off len;obtain⟨av,U3,_,_,_,_,h5,h6⟩:=aw.bind' h4;obtain⟨rfl,rfl⟩:=aw.mget' h5;split at h6
 case h_2=>exact(aw.fail' h6).elim
 rename_i m t xs hg;split at h6
 case isFalse=>exact(aw.fail' h6).elim
 rename_i s2;obtain⟨rfl,rfl,hflat,m3⟩:=s2;obtain⟨_,U4,_,_,_,_,h7,h8⟩:=aw.bind' h6;obtain⟨u0,rfl⟩:=aw.mask' h7;obtain⟨⟨r,os⟩,U5,_,_,_,_,h9,c0⟩:=aw.bind' h8;obtain⟨v3,rfl⟩:=aw.mcall' h9;obtain⟨u3,hcall⟩:=hC _ _ _ _ v3;dsimp only at c0;split at c0
 case h_2=>exact(aw.fail' c0).elim
 rename_i t' ys w1;split at c0
 case isFalse=>exact(aw.fail' c0).elim
 rename_i ht;subst ht;split at c0
 . exact(aw.fail' c0).elim
 rename_i w0;obtain⟨_,U6,_,_,_,_,i4,g4⟩:=aw.bind' c0;obtain⟨k4,g0,rfl⟩:=aw.mupd' i4;rw[hg]at g0
 have w2:k4= .sl (.nm m) t' (xs.take off++(ys++xs.drop (off+len))):=by
  simp[fz,fp]at g0;exact g0.symm
 subst w2;obtain⟨rfl,rfl⟩:=aw.pure' g4
 have t1: ∀p∈ps,C2 U5 p:=λp hp=>by
  obtain⟨i,hi,rfl⟩:=ml hp;exact(hargs i hi (by rw[<-hlen];exact hi)).passOK λs e=>by have:=Xk hp e;rw[hl]at this;cases this
 have hnoref:=QJ t1;have v0:(ps.map (·.1)).flatMap ab=[]:=by rw[QH t1,hl];rfl
 have s1: ∀n∈ps.flatMap (·.2.2),n≠FN:=λn K=>by
  obtain⟨p,hp,K⟩:=zL.1 K;obtain⟨i,hi,rfl⟩:=ml hp;have ha:=hargs i hi (by rw[<-hlen];exact hi)
  generalize ps[i]=p at*
  obtain⟨av,l,rn⟩:=p;cases l with
  |none=>exact ha.2.2.2 n K
  |some s=>have e:rn=[]:=ha.1;subst e;cases K
 have t3:Qu r=true->ps.flatMap (·.2.2)=[]:=λhi=>by
  simp only[hi,GM,Bool.not_eq_true']at w0;simpa using w0
 have n3:ps.length+1=args.length:=by rw[hlen];simp;omega
 have j1: ∀n'∈ps.flatMap (·.2.2),n'∉[m]:=λn' b1 hc=>by
  obtain rfl:=zA.1 hc;have:=x8.2 b1;rw[m3]at this;cases this
 have hpure: ∀(βc:aU),∀i (hi:i<ps.length),br βc (whoC bh [m] (ps.flatMap (·.2.2))) w ps[i].1 (a.eval ((args.take kp++args.drop (kp+1))[i]'(by rw[<-hlen];exact hi))):=λβc i hi=>by
  have j2:ps[i].2.1=none:=by
   cases e:ps[i].2.1 with
   |none=>rfl
   |some s=>have:=Xk (zW hi) e;rw[hl]at this;cases this
  have ha:=hargs i hi (by rw[<-hlen];exact hi)
  have t0: ∀n∈ps[i].2.2,n∈ps.flatMap (·.2.2):=λn K=>zL.2 ⟨_,zW hi,K⟩
  generalize ps[i]=p at*
  obtain⟨av,l,rn⟩:=p;simp only at j2;subst j2;refine ha.1 βc _ ⟨λb J=>by simp[whoC,J],λb n J K=> ?_⟩
  simp[whoC,J,j1 n (t0 n K),t0 n K]
 have d0:=S1.rel s;rw[hg]at d0;obtain⟨hβ,d0⟩:=(d0:cE β bh w m t' xs (a.tmps.getD s undef));obtain⟨A,L,cap,A',v2,d4,c4,b4,-,a4⟩:=(hx:yd (β m) t'.size (some (off,len)) (a.eval x))
 obtain⟨b,o',G,arr,el,e1,e2,e3,e4,e5,e6⟩: ∃b o cap arr el,a.tmps.getD s undef= .slice (some ⟨b,o,none⟩) xs.length cap/\w.heap[b]? =some (.cells arr el (0,0))/\o+cap*t'.size<=arr.size/\
  xs.length<=cap/\bh b=some m/\aT bh w t' xs b o:=by
  rcases d0 with⟨q1,q2⟩|q
  . rw[q2]at u0;cases u0
  . exact q
 have y3:β m= .slice (some ⟨b,o',none⟩) xs.length G:=by rw[<-hβ];exact e1
 rw[y3]at v2;injection v2 with hA hL u2
 subst hL u2 hA;obtain⟨o2,l3,ho2l⟩:=a4 b o' rfl;subst l3;have hv:a.eval x= .slice (some ⟨b,o2,none⟩) len (G-off):=c4
 have ho2e:off<G->o2=o'+off*t'.size:=λj0=>by
  have:=b4 j0;simp[bN]at this;exact this
 have z0:((xs.drop off).take len).length=len:=by rw[zX,mA];omega
 have hmul:o2+(G-off)*t'.size<=arr.size:=by
  by_cases j0:off<G
  . have:off*t'.size+(G-off)*t'.size=G*t'.size:=by rw[<-Nat.add_mul];congr 1;omega
    have:=ho2e j0;omega
  . rw[show G-off=0 by omega,yi];omega
 let βc:aU:=λk=>if k=98 then .agg arr else a.eval x
 have hcnone: ∀b,bh b=none->whoC bh [m] (ps.flatMap (·.2.2)) b=none:=λb J=>by simp[whoC,J]
 have w3:whoC bh [m] (ps.flatMap (·.2.2)) b=some 0:=by simp[whoC,e5,a8]
 have r1:br βc (whoC bh [m] (ps.flatMap (·.2.2))) w (.wn 0 t' ((xs.drop off).take len)) (a.eval x):=by
  refine⟨⟨rfl,.inr ⟨b,o2,G-off,arr,el,by rw[z0];exact hv,e2,hmul,O,w3,λi hi=> ?_⟩⟩,arr,rfl,λb2 o3 L2 a3 l0 m1 q1 q2=> ?_⟩
  . rw[z0]at hi;have i1:off+i<xs.length:=O;have:=e6 (off+i) i1;have ge:((xs.drop off).take len)[i]'(by rw[z0];exact hi)=xs[off+i]:=by rw[KX,KW]
    rw[ge];refine be.flatW hflat (λj hj=> ?_) this
    rw[show o2+i*t'.size=o'+(off+i)*t'.size by rw[ho2e O,gr];omega]
  . rw[hv]at q1;injection q1 with q1 _ _
    injection q1 with q1
    injection q1 with q1 _ _
    subst q1;rw[e2]at q2;injection q2 with q2
    injection q2 with q2 _ _
    subst q2;exact⟨rfl,λ_ _=>rfl⟩
 have a2: ∀l:List AV,l.flatMap ab=[]->(l.take kp).flatMap ab=[]/\(l.drop kp).flatMap ab=[]:=λl hl=>by
  rw[<-List.take_append_drop kp l,x6,List.append_eq_nil_iff]at hl;exact hl
 have d1:kp<=(ps.map (·.1)).length:=by simp;omega
 have hnames:((ps.map (·.1)).take kp++AV.wn 0 t' ((xs.drop off).take len)::(ps.map (·.1)).drop kp).flatMap ab=[0]:=by
  rw[x6,fC,(a2 _ v0).1,(a2 _ v0).2];rfl
 have t2: ∀j (hj:j<args.length),(args.map a.eval).toArray.getD j undef=a.eval args[j]:=λj hj=>by simp[Array.getD,hj]
 have hcalls:=hcall βc (whoC bh [m] (ps.flatMap (·.2.2))) w (args.map a.eval).toArray (by simp;omega) (λj hj=>by
  have r3:j<args.length:=by simp at hj;omega
  rw[t2 j r3];by_cases c1:j<kp
  . have e1:((ps.map (·.1)).take kp++AV.wn 0 t' ((xs.drop off).take len)::(ps.map (·.1)).drop kp)[j]=ps[j].1:=by
     rw[ya (by simp;omega),KX,qL]
    have e2:(args.take kp++args.drop (kp+1))[j]'(by rw[<-hlen];omega)=args[j]:=by
     rw[ya (by simp;omega),KX]
    rw[e1,<-e2];exact hpure βc j O
  . by_cases c2:j=kp
    . subst c2
      have e1:((ps.map (·.1)).take j++AV.wn 0 t' ((xs.drop off).take len)::(ps.map (·.1)).drop j)[j]=AV.wn 0 t' ((xs.drop off).take len):=by
       have m2:j<=ps.length:=by simpa using d1
       rw[vF (by simp;omega)]
       simp[zX,K9 m2]
      rw[e1,s0];exact r1
    . have q3:j-1<ps.length:=O
      have e1:((ps.map (·.1)).take kp++AV.wn 0 t' ((xs.drop off).take len)::(ps.map (·.1)).drop kp)[j]=ps[j-1].1:=by
       rw[vF (by simp;omega)]
       rw[List.getElem_cons];rw[dif_neg (by simp;omega),KW,qL]
       congr 2;simp at d1;simp[K9 d1];omega
      have e2:(args.take kp++args.drop (kp+1))[j-1]'(by rw[<-hlen];omega)=args[j]:=by
       rw[vF (by simp;omega),KW]
       congr 1;simp[K9 (uh k2)];omega
      rw[e1,<-e2];exact hpure βc (j-1) q3) (by rw[hnames];simp) (by rw[hnames];simp) (by
  have r0:=Jh hnoref;rw[<-List.take_append_drop kp (ps.map (·.1)),Uh]at r0
  simp only[zK]at r0;rw[Uh,Cq,r0.1,r0.2];rfl)
  (fun b n J=>by
    rw[hnames];simp only[whoC]at J;split at J
    . cases J
    . rename_i n' b1;refine⟨S1.wsz b n' b1,?_⟩;split at J
      . rename_i s3;obtain rfl:=zA.1 s3;injection J with J
        exact .inl (by rw[<-J];simp[a8])
      . split at J
        . cases J
        . injection J with J;exact .inr J.symm)
 unfold Oper.wp;rw[k3,Oo u3,Oper.upon_enter];refine Calls.mono (hcalls ((f4▸S1.glob:cG P bh w).whoC (λb h=>by simp[whoC,h]))) λe w' hp=> ?_
 obtain⟨c,β',who',rfl,p0,p1,p2,p3,p4,p5,p6,p7,p8,p9,f3,d3⟩:=hp;obtain⟨i1,v1⟩:=List.getElem?_eq_some_iff.1 w1;have e0:=p2 kp i1;rw[t2 kp k2,s0,v1]at e0;have u1:AV.wn 0 t' ys∈os:=List.mem_of_getElem? w1;obtain⟨i2,m4⟩:=Zg p3 u1;have h0r:0∉ab r:=λh0=>(zT.1 i2).2.2 0 (by simp[ab,qh,qc]) 0 h0 rfl
 have f2:=(zT.1 i2).2.1;obtain⟨⟨y0,e0⟩,b3,y1,y2⟩:=(e0:cE β' who' w' 0 t' ys (a.eval x)/\GB (β' 98) w' t'.size (a.eval x))
 obtain⟨b2,o3,a3,l0,m1,z1,z2,z3,z4,z5,z6⟩: ∃b o cap arr el,a.eval x= .slice (some ⟨b,o,none⟩) ys.length cap/\w'.heap[b]? =some (.cells arr el (0,0))/\o+cap*t'.size<=arr.size/\
  ys.length<=cap/\who' b=some 0/\aT who' w' t' ys b o:=by
  rcases e0 with⟨q1,q2⟩|q
  . rw[hv]at q1;cases q1
  . exact q
 have x0:ys.length=len/\b2=b/\o2=o3:=by
  rw[hv]at z1;injection z1 with z1 zl _
  injection z1 with z1
  injection z1 with zb zo _
  exact⟨zl.symm,zb.symm,zo⟩
 obtain⟨x0,rfl,rfl⟩:=x0;rw[p0]at y1
 have x2:b3=arr:=by
  have:βc 98= .agg arr:=iP rfl;rw[this]at y1;injection y1 with y1
  exact y1.symm
 subst x2;obtain⟨l4,a1⟩:=y2 b2 _ _ _ l0 m1 hv z2;have k1:aC E D β bh (U5.set s .dead) [] a w:=(S1.takeAll s).drop rfl;have i0:D m:=S1.occ s m (by rw[hg];simp[Vs.occ,a9,aK])
 obtain⟨S2,kk⟩:=Jd (β':=λk=>if k=0 then β m else β' k) (who':=who') (w':=w') (ln:=[m]) (rn:=ps.flatMap (·.2.2)) (ns:=ab r++[0]) (im:=Qu r) k1 hf
  (fun n K=>by
    obtain rfl:=zA.1 K;refine⟨λe=>S1.dfn (e▸i0),λs' q0=> ?_⟩
    by_cases e:s'=s
    . subst e;rw[qg]at q0;simp[ab,qh,qc]at q0
    . rw[qf _ _ e]at q0;exact e (S1.dis s' s n q0 (by rw[hg];simp[ab,qh,qc]))) s1 (by simp) p7 p8 p9 f3
  (fun n K=>by
    rcases zZ.1 K with h|h
    . exact p4 n (zx _ h)
    . obtain rfl:=zA.1 h;omega) t3 d3
 generalize hβ2:gX β (λk=>if k=0 then β m else β' k) idx=β2 at*
 generalize n4:bT bh who' idx [m] (ab r++[0])=b0 at*
 have f1: ∀n,D n-> ¬(fresh idx 0<=n/\n<=fresh idx 15):=λn K ⟨h1,h2⟩=>by
  refine hf (n-fresh idx 0) (by simp only[fresh]at*;omega) ?_
  rwa [show fresh idx (n-fresh idx 0)=n by simp only[fresh]at*;omega]
 have x3:β2 m=β m:=by rw[<-hβ2];simp only[gX];rw[ae (f1 m i0)]
 have h0D: ¬D (fresh idx 0):=hf 0 O;have h0m:fresh idx 0≠m:=λe=>h0D (e▸i0)
 have h0F:fresh idx 0≠FN:=by simp only[fresh,FN];omega
 have i3:b0 b2=some (fresh idx 0):=kk.own 0 (by simp) b2 z5
 let a0:bp:=λb'=>if b0 b'=some (fresh idx 0)then some m else b0 b'
 have h3q: ∀b',b0 b'=some (fresh idx 0)->a0 b'=some m:=λb' g=>iP g
 have h3n: ∀b',b0 b'≠some (fresh idx 0)->a0 b'=b0 b':=λb' g=>ae g
 have h3none: ∀b',b0 b'=none->a0 b'=none:=λb' J=>by rw[h3n b' (by rw[J];simp)];exact J
 have h0S: ∀s',fresh idx 0∉ab ((U5.set s .dead).get s'):=λs' hs=>h0D (k1.occ s' _ (qi hs))
 have Sh:aC E (Dn D idx) β2 a0 (U5.set s .dead) [] a w':=by
  refine S2.shift (X:=[fresh idx 0]) (by simpa using λe=>h0F e.symm) (λ_ _=>rfl)
   (fun b' x J hx=>⟨by
     rw[h3n b' (by rw[J];intro e;injection e with e;exact hx (by simp[e]))];exact J,rfl⟩)
   (fun b' J=>⟨h3none b' J,rfl⟩) (λb' x J=>by
     by_cases g:b0 b'=some (fresh idx 0)
     . exact⟨_,g⟩
     . rw[h3n b' g]at J;exact⟨_,J⟩) rfl (λs' x hx hs=>by
     obtain rfl:=zA.1 hx;exact absurd hs (h0S s')) (λz hz=>by cases hz) ⟨rfl,rfl⟩
 have hcell: ∀j i,(j+i<o2\/o2+len*t'.size<=j+i)->az w' b2 j i=az w b2 j i:=λj i hj=>by
  simp only[az,World.cell?,z2,e2];exact a1 (j+i) hj
 have m0:(xs.take off++(ys++xs.drop (off+len))).length=xs.length:=by
  rw[zG,zG,zX,mA];omega
 have d2:br β2 a0 w' (.sl (.nm m) t' (xs.take off++(ys++xs.drop (off+len)))) (a.tmps.getD s undef):=by
  refine⟨by rw[x3];exact hβ,.inr ⟨b2,o',G,l0,m1,by rw[m0];exact e1,z2,O,by rw[m0];exact e4,h3q b2 i3,λi hi=> ?_⟩⟩
  rw[m0]at hi;obtain⟨g1,g2,g3⟩:=qk8 (xs:=xs) (ys:=ys) (off:=off) (len:=len) x0 d4 (i:=i) (by rw[m0];exact hi)
  have k0:len=0\/o2=o'+off*t'.size:=by
   by_cases j0:off<G
   . exact .inr (ho2e j0)
   . exact .inl O
  by_cases c1:i<off
  . rw[g1 c1 hi];refine be.flatW hflat (λj hj=> ?_) (e6 i hi)
    refine hcell _ _ ?_;have:(i+1)*t'.size<=off*t'.size:=zO _ O;rw[OG]at this;rcases k0 with z|z
    . rw[z,yi];omega
    . omega
  . by_cases c2:i<off+len
    . rw[g2 O O];refine be.flatW hflat (λj hj=> ?_) (z6 (i-off) O)
      rw[show o2+(i-off)*t'.size=o'+i*t'.size by
       have:off*t'.size+(i-off)*t'.size=i*t'.size:=by rw[<-Nat.add_mul];congr 1;omega
       have:=ho2e O;omega]
    . rw[g3 O hi];refine be.flatW hflat (λj hj=> ?_) (e6 i hi)
      refine hcell _ _ ?_;have:(off+len)*t'.size<=i*t'.size:=zO _ O;rw[gr]at this;rcases k0 with z|z
      . rw[z,yi];omega
      . omega
 have kr:gb β' who' w' β2 a0 (fresh idx) (ab r) (Qu r):=
  ⟨fun n K=>by
    have:=kk.beta n (zx _ K);rw[this];exact ae (λe=>by rw[e]at K;exact h0r K),λn K b J=>by
    have:=kk.own n (zx _ K) b J
    rw[h3n b (by
     rw[this];intro e;injection e with e
     have:=Yd e;exact h0r (this▸K))]
    exact this,λhi b J hl=>h3none b (kk.imm hi b J hl)⟩
 have S4:=Sh.recast (s:=s) (v:= .sl (.nm m) t' (xs.take off++(ys++xs.drop (off+len)))) (qg ..) d2 (by simp[ab,qh,qc])
  (fun x hx s' hs=>by
    have:x=m:=by simpa [ab,qh,qc]using hx
    subst this;by_cases e:s'=s
    . subst e;rw[qg]at hs;simp[ab,qh,qc]at hs
    . rw[qf _ _ e]at hs;exact e (S1.dis s' s _ hs (by rw[hg];simp[ab,qh,qc])))
  (fun x hx=>by
    have:x=m:=by simpa [Vs.occ,a9,aK]using hx
    subst this;exact .inl i0)
 have S5:=S4.add (new:=[(ren (fresh idx) r,c)])
  (fun y hy=>by
    obtain rfl:=zA.1 hy;exact br.ren p5 kr p1)
  (by
    simp only[fC,Cs,mz,Q8];exact X8 (λ_ _ _ _ h=>Yd h) f2)
  (fun y hy n K s' hs=>by
    obtain rfl:=zA.1 hy;simp only[Q8,zk]at K;obtain⟨k,hk,rfl⟩:=K;have r2:=hf k (p4 k (zx _ hk));by_cases e:s'=s
    . subst e;rw[qg]at hs;have:fresh idx k=m:=by simpa [ab,qh,qc]using hs
      exact r2 (this▸i0)
    . rw[qf _ _ e]at hs;exact r2 (k1.occ s' _ (qi hs)))
  (fun y hy n K=>by
    obtain rfl:=zA.1 hy;rw[Zk (by rw[Xj];exact p5),Q8,zk]at K
    obtain⟨k,hk,rfl⟩:=K;exact .inr ⟨k,p4 k (zx _ hk),rfl⟩)
 refine hnext c w' _ _ (S5.ext λt=> ?_)
 by_cases e:t=s
 . subst e;rw[qg,qg]
 . rw[qf _ _ e,qf _ _ e,qf _ _ e]
end
section
variable {P:Program} {CO:Q7} {T:TT} {E:ba} {D:Nat->Prop} {β β':aU} {who who':bp} {U U':ao} {hd:List (AV×Value)} {a:Act} {w w':World} {R W:List Nat}
def qo8 (hT:bL P T) (hC: ∀f as r os,CO f as r os->Xy P f as r os) (y3:E.prog=P) {idx f:Nat} {o:Oper} {args:List Operand} {u2:List TypeId} {v:AV}
 (h:aw CO (yC T idx f args u2) U v U' R W) (S:aC E D β who U [] a w) (hf: ∀k,k<16-> ¬D (fresh idx k))
 (i3:execOp a.eval o=callFunc f (args.map a.eval).toArray):vx P E D idx U' v o a w:=by
 classical
 intro next Q hnext
 unfold yC at h;split at h
 case h_2=>exact(aw.fail' h).elim
 rename_i x rest ty i4;obtain⟨ps,U1,_,_,_,_,h1,h2⟩:=aw.bind' h;obtain⟨_,bh,_,S1,hlen,hargs⟩:=aw.passAll hT h1 S;split at h2
 case h_2=>exact(aw.fail' h2).elim
 rename_i hl;obtain⟨rv,U2,_,_,_,_,h3,h4⟩:=aw.bind' h2;obtain⟨rfl,Sr⟩:=aw.rd h3 S1;have hx:=Sr.hrel _ mS;split at h4
 case h_2=>exact(aw.fail' h4).elim
 rename_i s n i;obtain⟨av,U3,_,_,_,_,h5,h6⟩:=aw.bind' h4;obtain⟨rfl,rfl⟩:=aw.mget' h5;split at h6
 case h_2=>exact(aw.fail' h6).elim
 rename_i m t xs hg;split at h6
 case isFalse=>exact(aw.fail' h6).elim
 rename_i s2;obtain⟨rfl,r0,b1⟩:=s2;obtain⟨⟨r,os⟩,U5,_,_,_,_,h9,j0⟩:=aw.bind' h6;obtain⟨u3,rfl⟩:=aw.mcall' h9;obtain⟨t3,hcall⟩:=hC _ _ _ _ u3;dsimp only at j0;split at j0
 case h_2=>exact(aw.fail' j0).elim
 rename_i q t' ys n4;split at j0
 case isFalse=>exact(aw.fail' j0).elim
 rename_i ht;subst ht;split at j0
 . exact(aw.fail' j0).elim
 rename_i a1;obtain⟨_,U6,_,_,_,_,f4,d4⟩:=aw.bind' j0;have:=aw.mset' f4;subst this;obtain⟨rfl,rfl⟩:=aw.pure' d4
 have y1: ∀p∈ps,C2 U5 p:=λp hp=>by
  obtain⟨i,hi,rfl⟩:=ml hp;exact(hargs i hi (by rw[<-hlen];exact hi)).passOK λs e=>by have:=Xk hp e;rw[hl]at this;cases this
 have hnoref:=QJ y1;have a2:(ps.map (·.1)).flatMap ab=[]:=by rw[QH y1,hl];rfl
 have v1: ∀n∈ps.flatMap (·.2.2),n≠FN:=λn hn=>by
  obtain⟨p,hp,hn⟩:=zL.1 hn;obtain⟨i,hi,rfl⟩:=ml hp;have ha:=hargs i hi (by rw[<-hlen];exact hi)
  generalize ps[i]=p at*
  obtain⟨av,l,rn⟩:=p;cases l with
  |none=>exact ha.2.2.2 n hn
  |some s=>have e:rn=[]:=ha.1;subst e;cases hn
 have s3:(Qu r||Ya t')=true->ps.flatMap (·.2.2)=[]:=λhi=>by
  simp only[hi,GM,Bool.not_eq_true']at a1;simpa using a1
 generalize b3:ps.flatMap (·.2.2)=rn at*
 have g2:m∉rn:=λh=>by have:=x8.2 h;rw[r0]at this;cases this
 have h15r:fresh idx 15∉rn:=λh=>by have:=x8.2 h;rw[b1]at this;cases this
 have m0:D m:=S1.occ s m (by rw[hg];simp[Vs.occ,a9,aK])
 have o3:m≠FN:=λe=>S1.dfn (e▸m0)
 have h15D: ¬D (fresh idx 15):=hf 15 O;have h15m:fresh idx 15≠m:=λe=>h15D (e▸m0)
 have h15F:fresh idx 15≠FN:=by simp only[fresh,FN];omega
 have r2:=S1.dp hg;obtain⟨q0,-,a0,L0,c0,s1,l0⟩:=(hx:kf (β m) (.row i) (a.eval x));replace q0:a.eval x=dj (β m) (i+1):=q0;obtain⟨s4,l4,v3⟩:=r2.base;rw[v3]at s1;injection s1 with _ hL _
 subst hL;obtain⟨d1,b0,o0,cap,arr,el,e1,e2,e3,e4,e5,e6,e7⟩:=r2.pos (.inr (Qc l0));have y2:xs.getD i []=xs[i]:=by simp[List.getD,List.getElem?_eq_getElem l0]
 rw[y2]at hcall
 let G:Nat->Prop:=λb'=> ∃oi li ci,dj (β m) (i+1)= .slice (some ⟨b',oi,none⟩) li ci
 have hG: ∀b',G b'->bh b'=some m/\b'≠b0:=by
  rintro b' ⟨oi,li,ci,x0⟩
  rcases(e6 i l0 (by simp)).2 with⟨q,_⟩|⟨bi,w2,g4,ar,l,k1,k2,k3,k4,k5,k6,k7⟩
  . rw[q]at x0;cases x0
  . grind
 let d0:bp:=λb'=>if G b' then some (fresh idx 15)else bh b'
 have t2: ∀b',G b'->d0 b'=some (fresh idx 15):=λb' g=>iP g
 have k0: ∀b',¬G b'->d0 b'=bh b':=λb' g=>ae g
 have hRnone: ∀b',bh b'=none->d0 b'=none:=λb' J=>by
  rw[k0 b' (λg=>by rw[(hG b' g).1]at J;cases J)];exact J
 have hRnone': ∀b',d0 b'=none->bh b'=none:=λb' J=>by
  by_cases g:G b'
  . rw[t2 b' g]at J;cases J
  . rw[k0 b' g]at J;exact J
 have t0:aC E D β d0 (U5.set s .dead) [] a w:=by
  refine((S1.takeAll s).drop rfl).shift (X:=[m]) (by simpa using λe=>o3 e.symm) (λ_ _=>rfl)
   (fun b' x J hx=>⟨by
     rw[k0 b' (λg=>by
      rw[(hG b' g).1]at J;injection J with J;exact hx (by simp[J]))];exact J,rfl⟩)
   (fun b' J=>⟨hRnone b' J,rfl⟩) (λb' x J=>by
     by_cases g:G b'
     . exact⟨_,(hG b' g).1⟩
     . rw[k0 b' g]at J;exact⟨_,J⟩) rfl (λs' x hx hs=>by
     obtain rfl:=zA.1 hx;by_cases e:s'=s
     . subst e;rw[qg]at hs;simp[ab,qh,qc]at hs
     . rw[qf _ _ e]at hs;exact absurd (S1.dis s' s _ hs (by rw[hg];simp[ab,qh,qc])) e) (λz hz=>by cases hz) ⟨rfl,rfl⟩
 let K:bp:=whoC d0 [fresh idx 15] rn
 have x3: ∀b',G b'->K b'=some 0:=λb' g=>by simp[K,whoC,t2 b' g,a8]
 have hKnone: ∀b',bh b'=none->K b'=none:=λb' J=>by simp[K,whoC,hRnone b' J]
 have w3: ∀b',bh b'=some m-> ¬G b'->K b'=some FN:=λb' J g=>by
  have: ¬(m=fresh idx 15):=λe=>h15m e.symm
  simp[K,whoC,k0 b' g,J,this,g2]
 let βc:aU:=λ_=>a.eval x
 have hpure: ∀i (hi:i<ps.length),br βc K w ps[i].1 (a.eval (rest[i]'(by rw[<-hlen];exact hi))):=λi hi=>by
  have i2:ps[i].2.1=none:=by
   cases e:ps[i].2.1 with
   |none=>rfl
   |some s=>have:=Xk (zW hi) e;rw[hl]at this;cases this
  have ha:=hargs i hi (by rw[<-hlen];exact hi)
  have t1: ∀n∈ps[i].2.2,n∈rn:=λn hn=>b3▸zL.2 ⟨_,zW hi,hn⟩
  generalize ps[i]=p at*
  obtain⟨av,l,m4⟩:=p;simp only at i2;subst i2;refine ha.1 βc _ ⟨λb J=>hKnone b J,λb n J hn=> ?_⟩
  have r0:=t1 n hn;have g: ¬G b:=λg=>by rw[(hG b g).1]at J;injection J with J;exact g2 (J▸r0)
  have x2: ¬(n=fresh idx 15):=λe=>h15r (e▸r0)
  simp[K,whoC,k0 b g,J,x2,r0]
 have c4: ∀(zs:List (aX t')) b o,aT bh w t' zs b o->aT K w t' zs b o:=λzs b o he=>
  he.keep (λb' J _=>⟨hKnone b' J,rfl⟩) (zI _) rfl
 have u1:br βc K w (.sl (.nm 0) t' xs[i]) (a.eval x):=by
  refine⟨rfl,?_⟩;rw[q0];rcases(e6 i l0 (by simp)).2 with⟨q1,q2⟩|⟨bi,oi,ci,ar,l,k1,k2,k3,k4,k5,k6,k7⟩
  . exact .inl ⟨q1,q2⟩
  . exact .inr ⟨bi,oi,ci,ar,l,k1,k2,k3,k4,x3 bi ⟨_,_,_,k1⟩,c4 _ _ _ k7⟩
 have hnames:(AV.sl (.nm 0) t' xs[i]::ps.map (·.1)).flatMap ab=[0]:=by rw[fC,a2];rfl
 have hcalls:=hcall βc K w ((x::rest).map a.eval).toArray (by simp[hlen]) (λj hj=>by
  cases j with
  |zero=>exact u1
  |succ j=>
   have s0:j<ps.length:=by simpa using hj
   have q3:j<rest.length:=by rw[<-hlen];exact s0
   have q1:((x::rest).map a.eval).toArray.getD (j+1) undef=a.eval rest[j]:=by simp[Array.getD,q3]
   rw[q1,List.getElem_cons_succ,qL];exact hpure j s0) (by rw[hnames];simp) (by rw[hnames];simp) (by
  rw[Cq,Jh hnoref];rfl)
  (fun b n J=>by
    rw[hnames];simp only[K,whoC]at J;split at J
    . cases J
    . rename_i n' n3;refine⟨t0.wsz b n' n3,?_⟩;split at J
      . rename_i r3;obtain rfl:=zA.1 r3;injection J with J
        exact .inl (by rw[<-J];simp[a8])
      . split at J
        . cases J
        . injection J with J;exact .inr J.symm)
 unfold Oper.wp;rw[i3,Oo t3,Oper.upon_enter];refine Calls.mono (hcalls ((y3▸S1.glob:cG P bh w).whoC (λb h=>hKnone b h))) λe w' hp=> ?_
 obtain⟨c,β',who',rfl,p0,p1,p2,p3,p4,p5,p6,p7,p8,p9,r1,v2⟩:=hp;have h0:=p2 0 (by simp)
 have q1:((x::rest).map a.eval).toArray.getD 0 undef=a.eval x:=by simp[Array.getD]
 rw[q1]at h0;obtain⟨y0,h0⟩:=(h0:cE β' who' w' q t' ys (a.eval x));have z0:q<16:=p4 q (xc _ (by simp[ab,qh,qc]))
 have c3:q∉ab r:=λhq=>by
  have:=(zT.1 p3).2.2 q hq q (by simp[ab,qh,qc])
  exact this rfl
 have m3:=(zT.1 p3).1
 obtain⟨S2,kk⟩:=Jd (β':=β') (who':=who') (w':=w') (ln:=[fresh idx 15]) (rn:=rn) (ns:=ab r++[q]) (im:=Qu r||Ya t') t0 hf
  (fun n hn=>by
    obtain rfl:=zA.1 hn;exact⟨h15F,λs' a3=>h15D (t0.occ s' _ (qi a3))⟩) v1 (by simp) p7 p8 p9 r1
  (fun n hn=>by
    rcases zZ.1 hn with h|h
    . exact p4 n (zx _ h)
    . obtain rfl:=zA.1 h;exact z0) s3 v2
 have i1: ∀n,D n-> ¬(fresh idx 0<=n/\n<=fresh idx 15):=λn hn ⟨h1,h2⟩=>by
  refine hf (n-fresh idx 0) (by simp only[fresh]at*;omega) ?_
  rwa [show fresh idx (n-fresh idx 0)=n by simp only[fresh]at*;omega]
 have hβm:gX β β' idx m=β m:=by simp only[gX];rw[ae (i1 m m0)]
 have hw2m: ∀b',bh b'=some m-> ¬G b'->bT d0 who' idx [fresh idx 15] (ab r++[q]) b'=some m/\w'.heap[b']? =w.heap[b']? :=λb' J g=>by
  have hk:=w3 b' J g;refine⟨?_,p7 b' (S1.wsz b' m J) (.inr hk)⟩;simp only[bT,r1 b' hk];rw[iP trivial,k0 b' g,J]
 have hw2none: ∀b',bh b'=none->b'<w.heap.size->bT d0 who' idx [fresh idx 15] (ab r++[q]) b'=none/\w'.heap[b']? =w.heap[b']? :=λb' J w0=>by
  have hk:=hKnone b' J;refine⟨?_,p7 b' w0 (.inl hk)⟩
  have:who' b'=none:=by
   cases e:who' b' with
   |none=>rfl
   |some n=>
    rcases(p8 b' n e).2 with h|h
    . exact absurd hk h
    . omega
  simp only[bT,this,hRnone b' J]
 generalize hβ2:gX β β' idx=β2 at*
 have hw2q: ∀b',who' b'=some q->bT d0 who' idx [fresh idx 15] (ab r++[q]) b'=some (fresh idx q):=λb' J=>kk.own q (by simp) b' J
 generalize r4:bT d0 who' idx [fresh idx 15] (ab r++[q])=i0 at*
 have w1: ¬D (fresh idx q):=hf q z0;have d3:fresh idx q≠m:=λe=>w1 (e▸m0)
 have g3:fresh idx q≠FN:=by simp only[fresh,FN];omega
 let e0:bp:=λb'=>if i0 b'=some (fresh idx q)then some m else i0 b'
 have h3q: ∀b',i0 b'=some (fresh idx q)->e0 b'=some m:=λb' g=>iP g
 have h3n: ∀b',i0 b'≠some (fresh idx q)->e0 b'=i0 b':=λb' g=>ae g
 have h3none: ∀b',i0 b'=none->e0 b'=none:=λb' J=>by rw[h3n b' (by rw[J];simp)];exact J
 have h3m: ∀b',i0 b'=some m->e0 b'=some m:=λb' J=>by
  rw[h3n b' (by rw[J];intro e;injection e with e;exact d3 e.symm)];exact J
 have f3: ∀s',fresh idx q∉ab ((U5.set s .dead).get s'):=λs' hs=>w1 (t0.occ s' _ (qi hs))
 have S3:aC E (Dn D idx) β2 e0 (U5.set s .dead) [] a w':=by
  refine S2.shift (X:=[fresh idx q]) (by simpa using λe=>g3 e.symm) (λ_ _=>rfl)
   (fun b' x J hx=>⟨by
     rw[h3n b' (by rw[J];intro e;injection e with e;exact hx (by simp[e]))];exact J,rfl⟩)
   (fun b' J=>⟨h3none b' J,rfl⟩) (λb' x J=>by
     by_cases g:i0 b'=some (fresh idx q)
     . exact⟨_,g⟩
     . rw[h3n b' g]at J;exact⟨_,J⟩) rfl (λs' x hx hs=>by
     obtain rfl:=zA.1 hx;exact absurd hs (f3 s')) (λz hz=>by cases hz) ⟨rfl,rfl⟩
 have b4: ∀(zs:List (aX t')) b o,w'.heap[b]? =w.heap[b]? ->aT bh w t' zs b o->aT e0 w' t' zs b o:=λzs b o J he=>
  he.keep (λb' J w0=>⟨h3none b' (hw2none b' J w0).1,(hw2none b' J w0).2⟩) p9 J
 have a4: ∀(zs:List (aX t')) b o,aT who' w' t' zs b o->aT e0 w' t' zs b o:=λzs b o he=>by
  cases ht:Ya t' with
  |true=>exact he.keep (λb' J hl=>⟨h3none b' (kk.imm (by rw[ht,CP]) b' J hl),rfl⟩) (zI _) rfl
  |false=>exact λi hi=>be.flat ht (he i hi)
 have q4:ys.length=xs[i].length:=by
  rw[q0]at h0;rcases(e6 i l0 (by simp)).2 with⟨q1,q2⟩|⟨bi,oi,ci,ar,l,k1,k2,k3,k4,k5,k6,k7⟩
  . rcases h0 with⟨z1,z2⟩|⟨b2,o2,u0,v0,j1,z1,_⟩
    . rw[q2,z2]
    . rw[q1]at z1;cases z1
  . rcases h0 with⟨z1,z2⟩|⟨b2,o2,u0,v0,j1,z1,_⟩
    . rw[k1]at z1;cases z1
    . rw[k1]at z1;injection z1 with _ z _;exact z.symm
 have d2:bu β2 e0 w' m t' (xs.set i ys) none (a.tmps.getD s undef):=by
  obtain⟨g0,g1⟩:=hw2m b0 e5 (λg=>(hG b0 g).2 rfl)
  refine⟨by rw[hβm];exact d1,.inr ⟨b0,o0,cap,arr,el,by simpa using e1,by rw[g1];exact e2,e3,by simpa using e4,h3m b0 g0,λj hj _=> ?_,?_⟩⟩
  . have s0:j<xs.length:=by simpa using hj
    obtain⟨f1,f2⟩:=e6 j s0 (by simp)
    rw[hβm];refine⟨by rw[Ok g1];exact f1,?_⟩
    by_cases e:j=i
    . subst e;rw[K4];rw[q0]at h0;rcases h0 with⟨z1,z2⟩|⟨b2,o2,u0,v0,j1,z1,z2,z3,z4,z5,z6⟩
      . exact .inl ⟨z1,z2⟩
      . exact .inr ⟨b2,o2,u0,v0,j1,z1,z2,z3,z4,h3q b2 (hw2q b2 z5),(hG b2 ⟨_,_,_,z1⟩).2,a4 _ _ _ z6⟩
    . rw[K0 (λh=>e h.symm)]
      rcases f2 with f2|⟨bi,oi,ci,ar,l,k1,k2,k3,k4,k5,k6,k7⟩
      . exact .inl f2
      . have l3: ¬G bi:=by
         rintro ⟨w2,o4,g4,x0⟩
         exact e (e7 j i _ _ _ _ _ _ s0 l0 (by simp) (by simp) k1 x0 rfl)
        obtain⟨m1,m2⟩:=hw2m bi k5 l3;exact .inr ⟨bi,oi,ci,ar,l,k1,by rw[m2];exact k2,k3,k4,h3m bi m1,k6,b4 _ _ _ m2 k7⟩
  . rw[hβm];simpa using e7
 have S4:=S3.recast (s:=s) (v:= .dp m t' (xs.set i ys) none) (qg ..) d2 (by simp[ab,qh,qc])
  (fun x hx s' hs=>by
    simp only[ab,qh,qc,zA]at hx;subst hx;by_cases e:s'=s
    . subst e;rw[qg]at hs;simp[ab,qh,qc]at hs
    . rw[qf _ _ e]at hs;exact e (S1.dis s' s _ hs (by rw[hg];simp[ab,qh,qc])))
  (fun x hx=>by
    simp only[Vs.occ,a9,aK,zA]at hx;subst hx;exact .inl m0)
 have k3:gb β' who' w' β2 e0 (fresh idx) (ab r) (Qu r):=
  ⟨fun n hn=>kk.beta n (zx _ hn),λn hn b J=>by
    have:=kk.own n (zx _ hn) b J
    rw[h3n b (by
     rw[this];intro e;injection e with e
     have:=Yd e;exact c3 (this▸hn))]
    exact this,λhi b J hl=>h3none b (kk.imm (by rw[hi];rfl) b J hl)⟩
 have S5:=S4.add (new:=[(ren (fresh idx) r,c)])
  (fun y hy=>by
    obtain rfl:=zA.1 hy;exact br.ren p5 k3 p1)
  (by
    simp only[fC,Cs,mz,Q8];exact X8 (λ_ _ _ _ h=>Yd h) m3)
  (fun y hy n hn s' hs=>by
    obtain rfl:=zA.1 hy;simp only[Q8,zk]at hn;obtain⟨k,hk,rfl⟩:=hn;have j2:=hf k (p4 k (zx _ hk));by_cases e:s'=s
    . subst e;rw[qg]at hs;simp only[ab,qh,qc,zA]at hs;exact j2 (hs▸m0)
    . rw[qf _ _ e]at hs;exact j2 (t0.occ s' _ (qi hs)))
  (fun y hy n hn=>by
    obtain rfl:=zA.1 hy;rw[Zk (by rw[Xj];exact p5),Q8,zk]at hn
    obtain⟨k,hk,rfl⟩:=hn;exact .inr ⟨k,p4 k (zx _ hk),rfl⟩)
 refine hnext c w' _ _ (S5.ext λt=> ?_)
 by_cases e:t=s
 . subst e;rw[qg,qg]
 . rw[qf _ _ e,qf _ _ e,qf _ _ e]
end
section
variable {P:Program} {CO:Q7} {T:TT} {E:ba} {D:Nat->Prop} {β β':aU} {who who':bp} {U U':ao} {hd:List (AV×Value)} {a:Act} {w w':World} {R W:List Nat}
def qcb {c:Call} {o:Oper} {t f:Nat} {as J:Array Value} (G:o.op= .call c) (O:c.callee= .value (.tmp t))
 (K:a.eval (.tmp t)= .func (.func f) as J) (h1:as.size=0) (h2:J.size=0):execOp a.eval o=callFunc f (c.args.map a.eval):=by have e1:as= #[]:=Uq h1;have e2:J= #[]:=Uq h2;subst e1 e2;unfold execOp;simp[G,resolve,O,Deferred.ofValue,invoke,K]
def qb8 {c:Call} {o:Oper} {t f:Nat} {pv:Value} (G:o.op= .call c) (K:c.callee= .value (.tmp t))
 (J:a.eval (.tmp t)= .func (.func f) #[] #[pv]):execOp a.eval o=callFunc f (c.args.map a.eval++ #[pv]):=by unfold execOp;simp[G,resolve,K,Deferred.ofValue,invoke,J]
def qee {c:Call} {o:Oper} {f:Nat} (G:o.op= .call c) (J:c.callee= .value (.func f)):execOp a.eval o=callFunc f (c.args.map a.eval):=by have K:a.eval (.func f)= .func (.func f) #[] #[]:=rfl;unfold execOp;simp[G,resolve,J,Deferred.ofValue,invoke,K]
def qbo (hT:bL P T) (hC: ∀f as r os,CO f as r os->Xy P f as r os) (G:E.prog=P) {idx mode:Nat} {o:Oper} {v:AV} (h:aw CO (uw T idx mode o) U v U' R W) (S:aC E D β who U [] a w)
 (hf: ∀k,k<16-> ¬D (fresh idx k)):vx P E D idx U' v o a w:=by cases hn:VO o.op with|false=>exact(qr9 hT G hn h S hf).wp|true=>{cases O:o.op with|call c=>{unfold uw at h;simp only[O]at h;cases K:c.callee with|builtin b=>{rw[O]at hn;obtain⟨callee,args,a0⟩:=c;simp only at K;subst K;cases hn}|invoke r m=>{simp only[K]at h;exact(aw.fail' h).elim}|value x=>{simp only[K]at h;cases x with|func f=>{simp only at h;have J:execOp a.eval o=callFunc f (c.args.toList.map a.eval).toArray:=by{rw[qee O K];congr 1;simp[<-Array.toList_map]};unfold KB at h;split at h;{exact qo8 hT hC G h S hf J};{split at h;{exact qlk hT hC G h S hf J};{exact q9v (mode:=mode) hT hC G h S hf J}}}|tmp t=>{simp only at h;obtain⟨av,U1,_,_,_,_,h1,h2⟩:=aw.bind' h;obtain⟨rfl,rfl⟩:=aw.mget' h1;split at h2;{rename_i f as bs hg;split at h2;{rename_i hs;refine q9v (mode:=mode) hT hC G h2 S hf ?_;have hr:=S.rel t;rw[hg]at hr;rw[qcb O K (by rw[Act.eval];exact hr.1) hs.1 hs.2];congr 1;simp[<-Array.toList_map]};{exact(aw.fail' h2).elim}};{rename_i f et xs i j hg;have hr:=S.rel t;rw[hg]at hr;obtain⟨b,o',e1,e2⟩:=hr;refine qnm (pv:= .pointer (some ⟨b,o'+i*et.size+j,none⟩)) hT hC G ⟨b,o',rfl,e2⟩ h2 S hf ?_;rw[qb8 O K (by rw[Act.eval];exact e1)];congr 1;apply Array.ext';simp};{exact(aw.fail' h2).elim}}|const u=>exact(aw.fail' h).elim|global g=>exact(aw.fail' h).elim}}|_=>{rw[O]at hn;cases hn}}
end
section
variable {P:Program} {CO:Q7} {T:TT} {E:ba} {D:Nat->Prop} {β β':aU} {who who':bp} {U U':ao} {hd:List (AV×Value)} {a:Act} {w w':World} {R W:List Nat}
variable {N:Nat} {pins:List Nat}
def vy (P:Program) (E:ba) (N:Nat) (pins:List Nat):Prop:=E.N=N/\(∀p∈E.pins,p.1∈pins)/\E.prog=P
def q2f (G:vy P E N pins) {dst:Option Tmp} {v:AV} {c:Value} {u:Unit} (h:aw CO (Lj N pins dst v) U u U' R W) (S:aC E D β who U [(v,c)] a w):
 aC E D β who U' [] (a.put dst c) w:=by cases dst with|none=>{obtain⟨_,rfl⟩:=aw.pure' h;exact S.putNone}|some d=>{simp only[Lj]at h;split at h;{rename_i hd;have:=aw.mset' h;subst this;exact S.put (by rw[G.1];exact hd.1) (λp J e=>hd.2 (e▸G.2.1 p J))};{exact(aw.fail' h).elim}}
def qf8 (K:bL P T) (O: ∀f as r os,CO f as r os->Xy P f as r os) (G:E.prog=P) {idx mode:Nat} {o:Oper} {v:AV} (h:aw CO (Wx T idx mode o) U v U' R W) (S:aC E D β who U [] a w)
 (J: ∀k,k<16-> ¬D (fresh idx k)):vx P E D idx U' v o a w:=by unfold Wx at h;split at h;{split at h;{exact(QS K h S J).wp};split at h;{obtain⟨av,U1,_,_,_,_,h1,h2⟩:=aw.bind' h;obtain⟨rfl,rfl⟩:=aw.mget' h1;split at h2;{obtain⟨u,U2,_,_,_,_,h3,h4⟩:=aw.bind' h2;obtain⟨bh,S1⟩:=q8l h3 S;exact qbo K O G h4 S1 J};{exact(aw.fail' h2).elim}};{obtain⟨u,U1,_,_,_,_,h1,h2⟩:=aw.bind' h;obtain⟨g1,_,bh,S1⟩:=aw.rdF h1 S;exact qbo K O G h2 (S1.drop rfl) J}};{exact qbo K O G h S J}
def q9k (hT:bL P T) (hC: ∀f as r os,CO f as r os->Xy P f as r os) (hE:vy P E N pins) {ops:Array Oper} {idx mode:Nat} {o:Oper} {u:Unit}
 (h:aw CO (pL T N pins ops idx mode o) U u U' R W) (S:aC E D β who U [] a w) (hf: ∀k,k<16-> ¬D (fresh idx k))
 {next:Act->World->Prop} {Q:Exit->Act->World->Prop} (hn: ∀a' w' β' who',aC E (Dn D idx) β' who' U' [] a' w'->next a' w'):
 if Region.wanted o (yielded ops a.tmps)then o.wp P a w next Q\/(o.asks P a w/\LetsOut Q)else next (a.put o.dst undef) w:=by unfold pL at h;cases O:o.guard with|none=>{simp only[O]at h;obtain⟨v,K,_,_,_,_,h1,h2⟩:=aw.bind' h;rw[iP (by simp[Region.wanted,O])];exact .inl (qf8 hT hC hE.2.2 h1 S hf next Q λc w' β' who' S1=>hn _ _ _ _ (q2f hE h2 S1))}|some jw=>{obtain⟨j,want⟩:=jw;simp only[O]at h;split at h;{exact(aw.fail' h).elim};{rename_i g J;obtain⟨av,U0,_,_,_,_,h0,h9⟩:=aw.bind' h;obtain⟨b0,rfl⟩:=aw.mget' h0;clear h;have skip: ∀{K U2:ao} {R W:List Nat} {u:Unit},aw CO (Lj N pins o.dst (.tup [])) K u U2 R W->U2=U'->aC E D β who K [] a w->next (a.put o.dst undef) w:=by{intro K U2 R W u h2 e S;subst e;have S1:aC E D β who K [(.tup [],undef)] a w:=S.take0 (v:= .tup []) (c:=undef) ⟨#[],rfl,rfl,λj h=>absurd h (zC _)⟩ rfl (λn hn=>by cases hn);exact hn _ _ _ _ ((q2f hE h2 S1).mono (λn h=> .inl h) (dz S.dfn))};cases hu:YP av with|true=>{rw[hu]at h9;have G:=S.rel g;rw[<-b0]at G;have c0: ∀b,a.tmps.getD g undef≠ .bool b:=λb hb=>by{unfold YP at hu;split at hu;{obtain⟨arr,G,_⟩:=G;rw[G]at hb;cases hb};{cases hu}};have hy:yielded ops a.tmps j=none:=by{unfold yielded;unfold mw at J;rw[J];cases hx:a.tmps[g]? with|none=>simp[hx]|some x=>{simp_all}};rw[ae (by simp[Region.wanted,O,hy])];exact skip h9 rfl S}|false=>{rw[hu]at h9;obtain⟨b,K,_,_,_,_,h1,h2⟩:=aw.bind' h9;obtain⟨hb,rfl⟩:=aw.mknow' h1;have G:=S.rel g;rw[hb]at G;have G:a.tmps.getD g undef= .bool b:=G;have a0:g<a.tmps.size:=by{rcases gq g a.tmps.size with h|h;{exact h};{simp[Array.getD,Nat.not_lt.2 h,undef]at G}};have hy:yielded ops a.tmps j=some b:=by{unfold yielded;unfold mw at J;rw[J];have:a.tmps[g]? =some (.bool b):=by{rw[<-G];simp[Array.getD,a0]};simp[this]};by_cases e:b=want;{rw[iP (by simp[Region.wanted,O,hy,e])];rw[iP (by simpa using e)]at h2;obtain⟨v,K,_,_,_,_,h3,h4⟩:=aw.bind' h2;exact .inl (qf8 hT hC hE.2.2 h3 S hf next Q λc w' β' who' S1=>hn _ _ _ _ (q2f hE h4 S1))};{rw[ae (by simp[Region.wanted,O,hy,e])];grind}}}}
def KT (D:Nat->Prop) (i:Nat):Nat->Prop:=λn=>D n\/ ∃j k,j<i/\k<16/\n=fresh j k
def q9x {i j k l:Nat} (J:k<16) (G:l<16) (h:fresh i k=fresh j l):i=j/\k=l:=by simp only[fresh]at h;omega
def qoi {i k:Nat} (J: ∀n,D n->n<100) (G:k<16): ¬KT D i (fresh i k):=by rintro (h|⟨j,l,O,h2,K⟩);{have:=J _ h;simp only[fresh]at this;omega};{have:=q9x G h2 K;omega}
def qrv {i n:Nat} (h:Dn (KT D i) i n):KT D (i+1) n:=by rcases h with(h|⟨j,k,K,h2,J⟩)|⟨k,G,h⟩;{exact .inl h};{exact .inr ⟨j,k,O,h2,J⟩};{exact .inr ⟨i,k,O,G,h⟩}
def quu {i:Nat} (h: ¬D FN): ¬KT D i FN:=by rintro (h'|⟨j,k,_,G,e⟩);{exact h h'};{simp only[FN,fresh]at e;omega}
inductive eX (CO:Q7) (T:TT) (N:Nat) (pins:List Nat) (ops:Array Oper) (md:List (Nat×Nat)):List Oper->Nat->ao->List (List Nat×List Nat)->ao->Prop where
 |nil {i:Nat} {U:ao}:eX CO T N pins ops md [] i U [] U
 |cons {o:Oper} {r:List Oper} {i:Nat} {U U1 U2:ao} {u:Unit} {R W:List Nat} {Ls:List (List Nat×List Nat)}:
   aw CO (pL T N pins ops i (pd md i) o) U u U1 R W->eX CO T N pins ops md r (i+1) U1 Ls U2->eX CO T N pins ops md (o::r) i U ((R,W)::Ls) U2
def tO:List tM->List (List Nat×List Nat)->Prop
 |[],[]=>True
 |L::G,F::J=>(∀s∈F.1,s∈L.1)/\(∀s∈F.2,s∈L.2)/\tO G J
 |_,_=>False
def eX.seq {ops:Array Oper} {G:List (Nat×Nat)} {l:List Oper} {i:Nat} {U U':ao} {J:List (List Nat×List Nat)} (h:eX CO T N pins ops G l i U J U'):
 ∀τ,tI U τ-> ∃τ',eX CO T N pins ops G l i τ J τ'/\tI U' τ':=by induction h with|nil=>exact λτ h=>⟨τ,.nil,h⟩|cons O _ K=>{intro τ e;obtain⟨τ1,g1,g2⟩:=O.seq e;obtain⟨τ2,g3,g4⟩:=K τ1 g2;exact⟨τ2,.cons g1 g3,g4⟩}
def tI.symm {U τ:ao} (h:tI U τ):tI τ U:=λs=>(h s).symm
def tI.trans {U τ ρ:ao} (h:tI U τ) (h':tI τ ρ):tI U ρ:=λs=>(h' s).trans (h s)
def qsx {ρT:Type} {C:Nat->List AV->(AV->List AV->Option ρT)->Option ρT} {ρ:ρT}
 (hC: ∀f as k,C f as k=some ρ-> ∃r os,CO f as r os/\k r os=some ρ) {ops:Array Oper} {md:List (Nat×Nat)} (l:List Oper):
 ∀(i:Nat) (U:ao) (O:List tM) (K:ao->List tM->Option ρT),yM C T N pins ops md l i U O K=some ρ->
  ∃Fs U' J G,eX CO T N pins ops md l i U Fs U'/\tI U' J/\tO G Fs/\K J (O++G)=some ρ:=by induction l with|nil=>exact λi U O K h=>⟨[],U,U,[],.nil,λ_=>rfl,trivial,by simpa [yM]using h⟩|cons o r ih=>{intro i U O K h;simp only[yM]at h;obtain⟨u,U1,R,W,h1,b0,L',e1,e2,e3,e4⟩:=qsf hC _ _ _ _ h;obtain⟨Fs,U2,a0,G,g1,g2,g3,g4⟩:=ih _ _ _ _ e4;obtain⟨τ,q1,q2⟩:=g1.seq U1 e1.symm;refine⟨(R,W)::Fs,τ,a0,L'::G,.cons h1 q1,q2.symm.trans g2,⟨λs hs=>e2 s (.inl hs),λs hs=>e3 s (.inl hs),g3⟩,by simpa using g4⟩}
def qow (hT:bL P T) (hC: ∀f as r os,CO f as r os->Xy P f as r os) (hE:vy P E N pins) {ops:Array Oper} {md:List (Nat×Nat)} (hD: ∀n,D n->n<100)
 {Q:Exit->Act->World->Prop} {l:List Oper} {i:Nat} {Fs:List (List Nat×List Nat)} (h:eX CO T N pins ops md l i U Fs U'):
 ∀{β who a w},aC E (KT D i) β who U [] a w->(∀K w' β' who',aC E (KT D (i+l.length)) β' who' U' [] K w'->Q .normal K w')->wpList P ops Q l a w:=by induction h with|nil=>exact λS J=>J _ _ _ _ S| @cons o r i U U1 U2 u R W Ls h1 _ ih=>{intro β who a w S J;refine q9k hT hC hE h1 S (λk hk=>qoi hD hk) λK w' β' who' S'=> ?_;refine ih (S'.mono (λn h=>qrv h) (λh=> ?_)) λb0 a0 β'' G O=>J _ _ _ _ (by{rw[show i+(o::r).length=i+1+r.length by simp;omega];exact O});rcases h with h|⟨j,k,_,hk,e⟩;{have:=S.dfn;exact this (.inl h)};{simp only[FN,fresh]at e;omega}}
end
section
variable {P:Program} {CO:Q7} {T:TT} {E:ba} {D:Nat->Prop} {β β':aU} {who who':bp} {U U':ao} {a:Act} {w w':World}
variable {N:Nat} {pins:List Nat}
def jv (st:Nat->ao) (Wg:Nat->List Nat) (n:Nat) (S:Nat->Prop) (s:Nat) (v:Option AV):Prop:=
 (∃i,i<n/\S i/\s∈Wg i/\(∀j,j<n->S j->s∈Wg j->j<=i)/\v=vw (st (i+1)) s)\/((∀j,j<n->S j->s∉Wg j)/\v=vw (st 0) s)
variable {st:Nat->ao} {Rg Wg:Nat->List Nat} {n:Nat} {S S':Nat->Prop} {s:Nat} {v u:Option AV}
def jv.uniq (h:jv st Wg n S s v) (h':jv st Wg n S s u):v=u:=by rcases h with⟨i,G,h2,O,K,rfl⟩|⟨G,rfl⟩<;>rcases h' with⟨j,J,g2,g3,g4,rfl⟩|⟨J,rfl⟩;{grind};{grind};{grind};{rfl}
def jv.congr (h:jv st Wg n S s v) (he: ∀j,j<n->s∈Wg j->(S j↔S' j)):jv st Wg n S' s v:=by rcases h with⟨i,J,h2,K,O,rfl⟩|⟨J,rfl⟩;{exact .inl ⟨i,J,(he i J K).1 h2,K,λj G hs hw=>O j G ((he j G hw).2 hs) hw,rfl⟩};{exact .inr ⟨λj G hs hw=>J j G ((he j G hw).2 hs) hw,rfl⟩}
def jv.canon (G: ∀j,j<n-> ∀s,s∉Wg j->vw (st (j+1)) s=vw (st j) s): ∀i,i<=n->jv st Wg n (λj=>j<i) s (vw (st i) s)
 |0,_=> .inr ⟨λj _ h=>absurd h (zC _),rfl⟩
 |i+1,K=>by by_cases hs:s∈Wg i;{exact .inl ⟨i,O,O,hs,λj _ h _=>O,rfl⟩};{rw[G i O s hs];refine(jv.canon G i O).congr λj J hw=> ?_;grind}
def qlv {m:M Unit} {i:Nat} {u:Unit} {τ:ao} {J:Nat->List Nat} (hi:i<n) (G:aw CO m (st i) u (st (i+1)) (Rg i) (Wg i))
 (K: ∀j,j<n-> ∀s,s∉Wg j->vw (st (j+1)) s=vw (st j) s)
 (hconf: ∀i j,i<j->j<n->i∈J j\/((∀s∈Rg i,s∉Wg j)/\ ∀s∈Rg j,s∉Wg i))
 (hS: ¬S i) (ha: ∀k∈J i,S k) (hb: ∀j,S j->i∉J j) (hτ: ∀s,jv st Wg n S s (vw τ s)):
 ∃τ',aw CO m τ u τ' (Rg i) (Wg i)/\ ∀s,jv st Wg n (λj=>S j\/j=i) s (vw τ' s):=by have key: ∀s∈Rg i,∀j,j<n->s∈Wg j->(S j↔j<i):=λs hs j hj hw=>by{grind};have agree: ∀s∈Rg i,vw τ s=vw (st i) s:=λs hs=> ((hτ s).congr (key s hs)).uniq (jv.canon K i O);obtain⟨τ',h1,h2⟩:=G.local τ (λ_=>False) (λs h=>agree s (h.resolve_right id));refine⟨τ',h1,λs=> ?_⟩;by_cases hs:s∈Wg i;{have hr:=G.subW s hs;rw[h2 s (.inl hr)];refine .inl ⟨i,hi,.inr rfl,hs,λj hj a0 hw=> ?_,rfl⟩;grind};{rw[h1.frame s hs];refine(hτ s).congr λj hj hw=>⟨λh=> .inl h,λh=> ?_⟩;grind}
def C8 (ops:List Oper) (i:Nat):List Nat:=match ops[i]? with
 |some o=>jH o i
 |none=>[]
def qeg (S:Nat->Prop) (all:List Oper) (hS: ∀j,j<all.length->S j-> ∀k∈C8 all j,S k): ∀(r:List Oper) (i:Nat) (acc:List (List Nat)),
 (∀j,r[j]? =all[i+j]?)->acc.length=i->(∀j,j<i->(∀k∈C8 all j,S k)-> ∀k∈acc.getD j [],S k)->all.length=i+r.length->
 ∀j,j<all.length->(∀k∈C8 all j,S k)-> ∀k∈(vu r i acc).getD j [],S k
 |[],i,acc,hr,hl,G,hn,j,hj,K=>G j (by simpa [hn]using hj) K
 |o::r,i,acc,hr,hl,G,hn,j,hj,K=>by have ho:all[i]? =some o:=by{have:=hr 0;simpa using this.symm};simp only[vu];refine qeg S all hS r (i+1) _ (λj=>by have:=hr (j+1);grind) (by simp[hl]) (λj hj K k hk=> ?_) (by rw[hn];simp;omega) j hj K;rcases gq j i with h|h;{refine G j h K k ?_;grind};{have:j=i:=O;subst this;simp only[List.getD,List.getElem?_append_right (show acc.length<=j by omega),hl,x9,List.getElem?_cons_zero,yq]at hk;obtain⟨p,J,hk⟩:=zL.1 hk;have a0:p∈C8 all j:=by{simp only[C8,ho];exact J};have b0:p<j:=by{simp only[jH,zk,Lb,zK,decide_eq_true_eq]at J;obtain⟨e,⟨_,_,h⟩,rfl⟩:=J;exact h};rcases mC hk with rfl|hk;{exact K k a0};{exact G p b0 (hS p O (K p a0)) k hk}}
end
end Go.Vs
