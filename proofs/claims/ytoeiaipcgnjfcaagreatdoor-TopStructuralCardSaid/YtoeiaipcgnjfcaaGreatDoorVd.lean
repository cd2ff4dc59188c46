import Derived.Test.YtoeiaipcgnjfcaaGreatDoorVb
import Derived.Orders
set_option linter.unusedSimpArgs false
set_option linter.unusedSectionVars false
set_option linter.unusedVariables false
set_option linter.defProp false
namespace Go.Vs
section
variable {P:Program} {CO:qw} {T:TT} {E:Entry} {D:Nat->Prop} {β:Beta} {who:Who} {U U':Slots} {hd:List (AV×Value)} {a:Act} {w w':World} {R W:List Nat}
def CellQ (who:Who) (w:World) (n b:Nat) (h:Option Nat):AV->Option Value->Nat->Prop
 | .int k x,o,_=>o=some (.int k x)
 | .bool x,o,_=>o=some (.bool x)
 | .sl _ t xs,o,p=>h=some p\/ ∃v,o=some v/\InnO who w n t xs v b
 |_,_,_=>False
def J7 {n b:Nat} {h:Option Nat} {g:Nat->Option Value}: ∀{t:Ty} {x:Den t} {p:Nat},RelQ who w n b h t x g p->
 (unpack t x).length=t.size/\ ∀k (hk:k<(unpack t x).length),CellQ who w n b h (unpack t x)[k] (g (p+k)) (p+k)
 | .int k,x,p,h=>by
   refine⟨rfl,λj hj=> ?_⟩
   have:j=0:=by simp[unpack]at hj;exact hj
   subst this;exact h
 | .bool,x,p,h=>by
   refine⟨rfl,λj hj=> ?_⟩
   have:j=0:=by simp[unpack]at hj;exact hj
   subst this;exact h
 | .sl b t,xs,p,h=>by
   refine⟨rfl,λj hj=> ?_⟩
   have:j=0:=by simp[unpack]at hj;exact hj
   subst this;exact h
 | .pr s t,x,p,h=>by
   obtain⟨l1,r1⟩:=J7 h.1;obtain⟨l2,r2⟩:=J7 h.2;refine⟨by simp[unpack,l1,l2,Ty.size],λj hj=> ?_⟩
   by_cases hlt:j<(unpack s x.1).length
   . have:=r1 j hlt;simp only[unpack,zF1 hlt];exact this
   . have hj':j-(unpack s x.1).length<(unpack t x.2).length:=by simp only[unpack,zL]at hj;omega
     have:=r2 _ hj';simp only[unpack,zB1 (zB2 hlt)];rw[show p+s.size+(j-(unpack s x.1).length)=p+j by omega]at this
     exact this
def Qz: ∀{t:Ty} {x:Den t},(unpack t x).length=t.size
 | .int _,_=>rfl
 | .bool,_=>rfl
 | .sl _ _,_=>rfl
 | .pr s t,x=>by simp only[unpack,zL,Ty.size,Qz]
def packQ {n bk:Nat} {hh:Option Nat} {g:Nat->Option Value}: ∀{t:Ty} {cells r:List AV} {x:Den t} {p:Nat},Z4 t cells=some (x,r)->
 (∀k (hk:k<cells.length),k<t.size->CellQ who w n bk hh cells[k] (g (p+k)) (p+k))->RelQ who w n bk hh t x g p/\r=cells.drop t.size/\t.size<=cells.length
 | .int k,cells,r,x,p,h,hr=>by
   cases cells with
   |nil=>cases h
   |cons c cs=>
    cases c with
    |int k' n=>
     simp only[Z4]at h;split at h
     . rename_i e;subst e;injection h with h;injection h with h1 h2
       subst h1 h2;exact⟨hr 0 (by simp) (by simp[Ty.size]),rfl,by simp[Ty.size]⟩
     . cases h
    |_=>cases h
 | .bool,cells,r,x,p,h,hr=>by
   cases cells with
   |nil=>cases h
   |cons c cs=>
    cases c with
    |bool b=>
     simp only[Z4,zS,zL3]at h;obtain⟨h1,h2⟩:=h;subst h1 h2;exact⟨hr 0 (by simp) (by simp[Ty.size]),rfl,by simp[Ty.size]⟩
    |_=>cases h
 | .sl b t,cells,r,x,p,h,hr=>by
   cases cells with
   |nil=>cases h
   |cons c cs=>
    cases c with
    |sl o t' xs=>
     have key: ∀(e:t'=t),x=e▸xs->r=cs->RelQ who w n bk hh (.sl b t) x g p/\r=(AV.sl o t' xs::cs).drop (Ty.sl b t).size/\(Ty.sl b t).size<=(AV.sl o t' xs::cs).length:=by
      intro e hx hc;subst e;simp only at hx;subst hx hc;exact⟨hr 0 (by simp) (by simp[Ty.size]),rfl,by simp[Ty.size]⟩
     simp only[Z4]at h
     grind
    |_=>cases h
 | .pr s t,cells,r,x,p,h,hr=>by
   simp only[Z4]at h;split at h
   . rename_i x1 r1 h1;split at h
     . rename_i y r2 h2;injection h with h;injection h with h3 h4
       subst h3 h4;obtain⟨i1,i2,i3⟩:=packQ (p:=p) h1 (λk hk hs=>hr k hk (by simp only[Ty.size];omega))
       subst i2
       obtain⟨k1,k2,k3⟩:=packQ (p:=p+s.size) h2 (λk hk hs=>by
        have hk':k<cells.length-s.size:=by simpa using hk
        have:=hr (s.size+k) O (by simp only[Ty.size];omega)
        rw[zP2,show p+s.size+k=p+(s.size+k) by omega]
        exact this)
       refine⟨⟨i1,k1⟩,?_,?_⟩
       . rw[k2,zO2];rfl
       . simp at k3;simp only[Ty.size];omega
     . cases h
   . cases h
def CellQ.imp {who':Who} {n n' b b':Nat} {h h':Option Nat} {c:AV} {o o':Option Value} {p p':Nat} (hc:CellQ who w n b h c o p) (ho:o'=o) (hh:h=some p->h'=some p')
 (hi: ∀(t:Ty) (ys:List (Den t)) v,o=some v->h≠some p->InnO who w n t ys v b->h'=some p'\/InnO who' w' n' t ys v b'):CellQ who' w' n' b' h' c o' p':=by
 subst ho;cases c with
 |int k x=>exact hc
 |bool x=>exact hc
 |sl ow t xs=>
  by_cases e:h=some p
  . exact .inl (hh e)
  . rcases hc with hc|⟨v,h1,h2⟩
    . exact absurd hc e
    . rcases hi t xs v h1 e h2 with g|g
      . exact .inl g
      . exact .inr ⟨v,h1,g⟩
 |_=>exact hc.elim
def RelQ.ofCells {n b:Nat} {h:Option Nat} {t:Ty} {x:Den t} {g:Nat->Option Value} {p:Nat} (hc: ∀k (hk:k<(unpack t x).length),CellQ who w n b h (unpack t x)[k] (g (p+k)) (p+k)):RelQ who w n b h t x g p:=by
 have key: ∀{t:Ty} {x:Den t} {p:Nat},(∀k (hk:k<(unpack t x).length),CellQ who w n b h (unpack t x)[k] (g (p+k)) (p+k))->RelQ who w n b h t x g p:=by
  intro t;induction t with
  |int k=>intro x p hc;exact hc 0 (by simp[unpack])
  |bool=>intro x p hc;exact hc 0 (by simp[unpack])
  |sl bb t=>intro x p hc;exact hc 0 (by simp[unpack])
  |pr s t ih1 ih2=>
   intro x p hc;refine⟨ih1 λk hk=> ?_,ih2 λk hk=> ?_⟩
   . have:=hc k (by simp only[unpack,zL];omega)
     simp only[unpack,zF1 hk]at this;exact this
   . have hl:(unpack s x.1).length=s.size:=Qz;have:=hc (s.size+k) (by simp only[unpack,zL];omega)
     simp only[unpack]at this;rw[zB1 O]at this;simp only[hl,Nat.add_sub_cancel_left]at this;rw[show p+s.size+k=p+(s.size+k) by omega]
     exact this
 exact key hc
def RelDq.pos {n:Nat} {t:Ty} {xs:List (Den t)} {h:Option Nat} {v:Value} (hr:RelDq β who w n t xs h v) (hx:xs≠[]):
 v=β n/\ ∃b o cap arr el,v= .slice (some ⟨b,o,none⟩) xs.length cap/\w.heap[b]? =some (.cells arr el (0,0))/\o+cap*t.size<=arr.size/\xs.length<=cap/\who b=some n/\
 (∀i (hi:i<xs.length),RelQ who w n b h t xs[i] (cellAt w b o) (i*t.size))/\
 ∀p q a a' l l' c c',p<xs.length*t.size->q<xs.length*t.size->h≠some p->h≠some q->cellAt w b o p=some (.slice (some a) l c)->cellAt w b o q=some (.slice (some a') l' c')->a.block=a'.block->p=q:=by
 refine⟨hr.1,?_⟩;rcases hr.2 with⟨h1,h2⟩|h1
 . exact absurd h2 hx
 . exact h1
def RelDq.len {n:Nat} {t:Ty} {xs:List (Den t)} {h:Option Nat} {v:Value} (hr:RelDq β who w n t xs h v): ∃ad cap,v= .slice ad xs.length cap:=by
 rcases hr.2 with⟨rfl,rfl⟩|⟨b,o,cap,arr,el,rfl,_⟩
 . exact⟨_,_,rfl⟩
 . exact⟨_,_,rfl⟩
def Sim.dq (S:Sim E D β who U hd a w) {s n:Nat} {t:Ty} {xs:List (Den t)} {h:Option Nat} (hav:U.get s= .dq n t xs h):RelDq β who w n t xs h (a.tmps.getD s undef):=by
 have:=S.rel s;rw[hav]at this;exact this
def q26 {i j m L:Nat} (hi:i<L) (hj:j<m):i*m+j<L*m:=by
 have:(i+1)*m<=L*m:=zK _ O;rw[zu]at this;omega
def qgl {i j i' j' m:Nat} (hj:j<m) (hj':j'<m) (h:i*m+j=i'*m+j'):i=i'/\j=j':=by
 have h1:(i*m+j)/m=i:=by rw[zx,zT3 O,zJ2 hj,zU]
 have h2:(i'*m+j')/m=i':=by rw[zx,zT3 O,zJ2 hj',zU]
 have:i=i':=by rw[<-h1,<-h2,h]
 subst this;exact⟨rfl,O⟩
def PtrVal.slice {base:Value} {sz i j:Nat} {c:Value} (hp:PtrVal base sz i j c) {ad:Option Addr} {L cap:Nat} (hb:base= .slice ad L cap): ∃b o,ad=some ⟨b,o,none⟩/\i<L/\c= .pointer (some ⟨b,o+i*sz+j,none⟩):=by
 rcases hp with⟨b,o,L',cap',e1,e2,e3⟩|⟨b,e1,_⟩
 . rw[hb]at e1;injection e1 with q1 q2 q3
   subst q1 q2;exact⟨b,o,rfl,e2,e3⟩
 . rw[hb]at e1;cases e1
end
section
variable {P:Program} {CO:qw} {T:TT} {E:Entry} {D:Nat->Prop} {β:Beta} {who:Who} {U U':Slots} {hd:List (AV×Value)} {a:Act} {w w':World} {R W:List Nat}
def Sim.takeDq (S:Sim E D β who U [] a w) {idx s n i j:Nat} {t u:Ty} {xs:List (Den t)} {ow:Own} {ys:List (Den u)} (hav:U.get s= .dq n t xs none) (hi:i<xs.length)
 (hj:(unpack t xs[i])[j]? =some (.sl ow u ys)) (hf: ∀k,k<16-> ¬D (fresh idx k)):
 ∃b o cap v,β n= .slice (some ⟨b,o,none⟩) xs.length cap/\cellAt w b o (i*t.size+j)=some v/\
  ∃β' who',Sim E (Dn D idx) β' who' (U.set s (.dq n t xs (some (i*t.size+j)))) [(.sl (.nm (fresh idx 15)) u ys,v)] a w:=by
 classical
 obtain⟨h1,b,o,cap,arr,el,e1,e2,e3,e4,e5,e6,e7⟩:=(S.dq hav).pos (Q7 hi);obtain⟨hj1,hj2⟩:=List.getElem?_eq_some_iff.1 hj;have hjs:j<t.size:=by rw[Qz]at hj1;exact hj1
 obtain⟨_,hcells⟩:=J7 (e6 i hi);have f0:=hcells j hj1;rw[hj2]at f0
 obtain⟨v,f1,f2⟩: ∃v,cellAt w b o (i*t.size+j)=some v/\InnO who w n u ys v b:=by
  rcases f0 with h|h
  . cases h
  . exact h
 refine⟨b,o,cap,v,by rw[<-h1];exact e1,f1,?_⟩
 obtain⟨m,rfl⟩: ∃m,m=fresh idx 15:=⟨_,rfl⟩;have hmD: ¬D (fresh idx 15):=hf 15 O;have hDn:D n:=S.occ s n (by rw[hav];simp[Vs.occ,occA,occC])
 have hmn:fresh idx 15≠n:=λe=>hmD (e▸hDn)
 let G:Nat->Prop:=λb'=> ∃oi li ci,v= .slice (some ⟨b',oi,none⟩) li ci
 have hG: ∀b',G b'->who b'=some n/\b'≠b:=by
  rintro b' ⟨oi,li,ci,hg⟩
  rcases f2 with⟨q,_⟩|⟨bi,oi',ci',ar,l,k1,k2,k3,k4,k5,k6,k7⟩
  . rw[q]at hg;cases hg
  . grind
 let β':Beta:=λx=>if x=fresh idx 15 then v else β x
 let who':Who:=λb'=>if G b' then some (fresh idx 15)else who b'
 have hβ: ∀x,D x->β' x=β x:=λx hx=>by grind
 have hnone: ∀b',who b'=none->who' b'=none:=λb' hb=>by
  grind
 have hE: ∀(t:Ty) (ys:List (Den t)) b o,Elems who w t ys b o->Elems who' w t ys b o:=λt ys b o he=>
  he.keep (λb' hb _=>⟨hnone b' hb,rfl⟩) (zD _) rfl
 have hown: ∀b',who b'=some n-> ¬G b'->who' b'=some n:=λb' hb g=>by grind
 have hP:i*t.size+j<xs.length*t.size:=q26 hi hjs
 have hnewdq:RelDq β' who' w n t xs (some (i*t.size+j)) (a.tmps.getD s undef):=by
  refine⟨by rw[hβ n hDn];exact h1,.inr ⟨b,o,cap,arr,el,e1,e2,e3,e4,hown b e5 (λg=>(hG b g).2 rfl),λi' hi'=> ?_,?_⟩⟩
  . refine RelQ.imp (d:=0) (λ_ _=> .inl rfl) (λ_ _ h=>by cases h) (λu' ys' v' j' hj' hc hin hne=> ?_) (e6 i' hi')
    rcases hin with g2|⟨bi,oi,ci,ar,l,k1,k2,k3,k4,k5,k6,k7⟩
    . exact .inl g2
    . refine .inr ⟨bi,oi,ci,ar,l,k1,k2,k3,k4,hown bi k5 ?_,k6,hE _ _ _ _ k7⟩
      rintro ⟨oi2,li2,ci2,hg⟩
      apply hne;have hp':i'*t.size+j'<xs.length*t.size:=q26 hi' hj';have:=e7 (i'*t.size+j') (i*t.size+j) ⟨bi,oi,none⟩ ⟨bi,oi2,none⟩ _ _ _ _ hp' hP (by simp) (by simp) (hc.trans (congrArg some k1)) (f1.trans (congrArg some hg)) rfl
      exact congrArg some this.symm
  . exact λp q a a' l l' c c' p1 p2 _ _=>e7 p q a a' l l' c c' p1 p2 (by simp) (by simp)
 have hweak:RelDq β who w n t xs (some (i*t.size+j)) (a.tmps.getD s undef):=
  ⟨h1,.inr ⟨b,o,cap,arr,el,e1,e2,e3,e4,e5,λi' hi'=>RelQ.imp (d:=0) (λ_ _=> .inl rfl) (λ_ _ h=>by cases h) (λu' ys' v' j' hj' hc hin hne=>hin) (e6 i' hi'),λp q a a' l l' c c' p1 p2 _ _=>e7 p q a a' l l' c c' p1 p2 (by simp) (by simp)⟩⟩
 have S1:=S.abs (s:=s) (v:= .dq n t xs (some (i*t.size+j))) hweak (λx hx=>by rw[hav];exact hx) (by simp[names,qh,qf])
  (λx hx=>S.occ s x (by rw[hav];exact hx))
 have S2:=S1.shift (β':=β') (who':=who') (w':=w) (X:=[n]) (λh=>S.dfn (by grind)) hβ
  (fun b' x hb hx=>⟨by
    simp only[who'];rw[iN'];exact hb;intro g;grind,rfl⟩)
  (fun b' hb=>⟨hnone b' hb,rfl⟩) (λb' x h=>by
    grind) rfl (λs' x hx hs=>by
    rw[zA]at hx;subst hx;by_cases e:s'=s
    . subst e;rw[qg];exact hnewdq
    . rw[qc _ _ e]at hs;exact absurd (S.dis s' s x hs (by rw[hav];simp[names,qh,qf])) e) (λz hz=>by cases hz) ⟨rfl,rfl⟩
 have S3:=S2.mono (D':=Dn D idx) (λn h=> .inl h) (Dn_fn S2.dfn)
 refine⟨β',who',S3.addN (λx hx=> ?_) (by simp[names,qh,qf]) (λx hx y hy s' hs=> ?_) (λx hx y hy=> ?_)⟩
 . rw[zA]at hx;subst hx;refine⟨by simp[β'],?_⟩
   rcases f2 with⟨q1,q2⟩|⟨bi,oi,ci,ar,l,k1,k2,k3,k4,k5,k6,k7⟩
   . exact .inl ⟨q1,q2⟩
   . refine .inr ⟨bi,oi,ci,ar,l,k1,k2,k3,k4,?_,hE _ _ _ _ k7⟩;simp only[who'];rw[iP ⟨_,_,_,k1⟩]
 . rw[zA]at hx;subst hx;simp only[names,qh,qf,zA]at hy;subst hy;exact hmD (S1.occ s' _ (qi hs))
 . rw[zA]at hx;subst hx;simp only[Vs.occ,occA,occC,zA]at hy;subst hy;exact .inr ⟨15,O,rfl⟩
def Sim.writeDq {idx s n i j:Nat} {t:Ty} {xs:List (Den t)} {hh h2:Option Nat} {v:AV} {cv:Value} {cs:List AV} {vs:List Value} {x':Den t} (S:Sim E D β who U [(v,cv)] a w)
 (hav:U.get s= .dq n t xs hh) (hi:i<xs.length) (hlen:vs.length=cs.length) (hs:Yp t xs[i] j cs=some x')
 (hcase:((∀x,x∉names v)/\h2=hh/\ ∀k (hk:k<cs.length),(∃ik z,cs[k]= .int ik z/\vs[k]? =some (.int ik z))\/(∃y,cs[k]= .bool y/\vs[k]? =some (.bool y)))\/
   (∃m u ys,v= .sl (.nm m) u ys/\cs=[v]/\vs=[cv]/\hh=some (i*t.size+j)/\h2=none)):
 ∃b o cap arr el,β n= .slice (some ⟨b,o,none⟩) xs.length cap/\w.heap[b]? =some (.cells arr el (0,0))/\o+i*t.size+j+vs.length<=arr.size/\who b=some n/\
  ∃who',Sim E D β who' (U.set s (.dq n t (xs.set i x') h2)) [] a (w.setRow b (qm arr (o+i*t.size+j) vs)):=by
 classical
 obtain⟨h1,b,o,cap,arr,el,e1,e2,e3,e4,e5,e6,e7⟩:=(S.dq hav).pos (Q7 hi);have hDn:D n:=S.occ s n (by rw[hav];simp[Vs.occ,occA,occC])
 unfold Yp at hs;split at hs
 case isFalse=>cases hs
 rename_i hjl;split at hs
 case h_2=>cases hs
 rename_i y hy;injection hs with hs
 subst hs;have hcap:xs.length*t.size<=cap*t.size:=zK _ e4;have hil:(i+1)*t.size<=xs.length*t.size:=zK _ O;rw[zu]at hil;have hfit:o+i*t.size+j+vs.length<=arr.size:=O;refine⟨b,o,cap,arr,el,by rw[<-h1];exact e1,e2,hfit,e5,?_⟩
 obtain⟨w',hw'⟩: ∃w',w'=w.setRow b (qm arr (o+i*t.size+j) vs):=⟨_,rfl⟩;rw[<-hw'];have hheapb:w'.heap[b]? =some (.cells (qm arr (o+i*t.size+j) vs) el (0,0)):=by rw[hw'];exact setRow_heap w b arr _ el _ e2
 have hoth: ∀b',b'≠b->w'.heap[b']? =w.heap[b']? :=λb' hb=>by rw[hw'];exact setRow_other w b b' _ hb
 have hsz:w'.heap.size=w.heap.size:=by rw[hw'];simp
 let K:Nat->Prop:=λk=>k∈names v
 let who':Who:=λb'=>if∃k,who b'=some k/\K k then some n else who b'
 have hnK: ¬K n:=λh=>S.hdis _ mS n h s (by rw[hav];simp[names,qh,qf])
 have hnone: ∀b',who b'=none->who' b'=none/\w'.heap[b']? =w.heap[b']? :=λb' hb=>by
  refine⟨by grind,hoth b' (by grind)⟩
 have hE: ∀(u:Ty) (ys:List (Den u)) b' o,b'≠b->Elems who w u ys b' o->Elems who' w' u ys b' o:=λu ys b' o hb he=>
  he.keep (λb' hb _=>hnone b' hb) O (hoth b' hb)
 have hwn: ∀b',who b'=some n->who' b'=some n:=λb' hb=>by grind
 have hwk: ∀b' k,who b'=some k->K k->who' b'=some n:=λb' k hb hk=>by
  simp only[who'];rw[iP ⟨k,hb,hk⟩]
 have hinn: ∀(u:Ty) (ys:List (Den u)) v,InnO who w n u ys v b->InnO who' w' n u ys v b:=by
  intro u ys v h;rcases h with h|⟨bi,oi,ci,ar,l,k1,k2,k3,k4,k5,k6,k7⟩
  . exact .inl h
  . exact .inr ⟨bi,oi,ci,ar,l,k1,by rw[hoth bi k6];exact k2,k3,k4,hwn bi k5,k6,hE _ _ _ _ k6 k7⟩
 have hcell: ∀p,cellAt w' b o p=if i*t.size+j<=p/\p<i*t.size+j+vs.length then vs[p-(i*t.size+j)]? else cellAt w b o p:=by
  intro p;have c1:w'.cell? ⟨b,o+p,none⟩=(qm arr (o+i*t.size+j) vs)[o+p]? :=by simp[World.cell?,hheapb]
  have c2:w.cell? ⟨b,o+p,none⟩=arr[o+p]? :=by simp[World.cell?,e2]
  simp only[cellAt,c1,c2];rw[Qd hfit];by_cases e:i*t.size+j<=p/\p<i*t.size+j+vs.length
  . rw[iP e,iP O];congr 1;omega
  . rw[iN' e,iN' O]
 have hnewc: ∀k (hk:k<cs.length),CellQ who' w' n b h2 cs[k] (cellAt w' b o (i*t.size+(j+k))) (i*t.size+(j+k)):=by
  intro k hk;rw[hcell,iP O,show i*t.size+(j+k)-(i*t.size+j)=k by omega]
  rcases hcase with⟨_,_,hc⟩|⟨m,u,ys,rfl,rfl,rfl,q1,q2⟩
  . rcases hc k hk with⟨ik,z,g1,g2⟩|⟨z,g1,g2⟩
    . rw[g1,g2];rfl
    . rw[g1,g2];rfl
  . have hk0:k=0:=by simp at hk;exact hk
    subst hk0;have hv:RelN β who w m u ys cv:=S.hrel _ mS;refine .inr ⟨cv,rfl,?_⟩;rcases hv.2 with h|⟨bi,oi,ci,ar,l,k1,k2,k3,k4,k5,k6⟩
    . exact .inl h
    . have hmK:K m:=by simp[K,names,qh,qf]
      have hbb:bi≠b:=by rintro rfl;rw[e5]at k5;injection k5 with k5;exact hnK (k5▸hmK)
      exact .inr ⟨bi,oi,ci,ar,l,k1,by rw[hoth bi hbb];exact k2,k3,k4,hwk bi m k5 hmK,hbb,hE _ _ _ _ hbb k6⟩
 have hold: ∀p ad l c,p<xs.length*t.size->hh≠some p->cellAt w b o p=some (.slice (some ad) l c)->who ad.block=some n:=by
  intro p ad l c hp hne hc
  have hpos:0<t.size:=by
   rcases z01 t.size with h|h
   . rw[h]at hp;omega
   . exact h
  have hq:p/t.size<xs.length:=zN2 (by rw[zx];exact hp)
  have hr:p%t.size<(unpack t xs[p/t.size]).length:=by rw[Qz];exact zm1 _ hpos
  have:=(J7 (e6 _ hq)).2 _ hr;rw[show p/t.size*t.size+p%t.size=p by rw[zx];exact zz1 _ _]at this
  rw[hc]at this;generalize (unpack t xs[p/t.size])[p%t.size]=cc at this;cases cc with
  |sl ow u ys=>
   rcases this with g|⟨v',g1,g2⟩
   . exact absurd g hne
   . injection g1 with g1
     subst g1;rcases g2 with⟨q,_⟩|⟨bi,oi,ci,ar,l',k1,k2,k3,k4,k5,k6,k7⟩
     . cases q
     . injection k1 with k1 _ _;injection k1 with k1;subst k1;exact k5
  |int k x=>cases this
  |bool x=>cases this
  |_=>exact this.elim
 have hnew:RelDq β who' w' n t (xs.set i y) h2 (a.tmps.getD s undef):=by
  refine⟨h1,.inr ⟨b,o,cap,qm arr (o+i*t.size+j) vs,el,by simpa using e1,hheapb,by rw[Qe hfit];exact e3,by simpa using e4,hwn b e5,λi' hi'=> ?_,?_⟩⟩
  . have hi2:i'<xs.length:=by simpa using hi'
    have hout: ∀p,¬(i*t.size+j<=p/\p<i*t.size+j+vs.length)-> ∀c,CellQ who w n b hh c (cellAt w b o p) p->(hh=some p->h2=some p)->CellQ who' w' n b h2 c (cellAt w' b o p) p:=by
     intro p hp c hc hhp;exact hc.imp (by rw[hcell,iN' hp]) hhp (λu ys v _ _ h=> .inr (hinn u ys v h))
    have hhole: ∀p,¬(i*t.size+j<=p/\p<i*t.size+j+vs.length)->hh=some p->h2=some p:=by
     intro p hp e;rcases hcase with⟨_,q,_⟩|⟨m,u,ys,_,_,q0,q1,q2⟩
     . rw[q];exact e
     . rw[q1]at e;injection e with e
       exact absurd ⟨O,by rw[q0];simp;omega⟩ hp
    by_cases e:i'=i
    . subst e;rw[zW1];have hul:(unpack t xs[i']).length=t.size:=Qz;have hrl:j+cs.length<=(unpack t xs[i']).length:=by rw[hul];exact hjl
      refine(packQ (p:=i'*t.size) hy λk hk _=> ?_).1
      have hk':k<(unpack t xs[i']).length:=by rw[<-Qy hrl];exact hk
      rw[Z7 hrl hk'];split
      . rename_i hc;have:=hnewc (k-j) O;rw[show j+(k-j)=k by omega]at this
        exact this
      . rename_i hc;have hp: ¬(i'*t.size+j<=i'*t.size+k/\i'*t.size+k<i'*t.size+j+vs.length):=O;exact hout _ hp _ ((J7 (e6 i' hi2)).2 k hk') (hhole _ hp)
    . rw[zb1 (λh=>e h.symm)]
      refine RelQ.ofCells λk hk=> ?_
      have hks:k<t.size:=by rw[Qz]at hk;exact hk
      have hp: ¬(i*t.size+j<=i'*t.size+k/\i'*t.size+k<i*t.size+j+vs.length):=by
       rintro ⟨g1,g2⟩
       have:=qgl (m:=t.size) (i:=i') (j:=k) (i':=i) (j':=i'*t.size+k-i*t.size) hks O O;exact e this.1
      exact hout _ hp _ ((J7 (e6 i' hi2)).2 k hk) (hhole _ hp)
  . intro p q ap aq l l' c c' p1 p2 p3 p4 p5 p6 p7;simp only[zZ]at p1 p2;rw[hcell]at p5 p6;rcases hcase with⟨_,hq,hc⟩|⟨m,u,ys,rfl,rfl,rfl,q1,q2⟩
    . have hno: ∀p al l c,(i*t.size+j<=p/\p<i*t.size+j+vs.length)->vs[p-(i*t.size+j)]? ≠some (.slice al l c):=by
       intro p al l c hp hv;rcases hc (p-(i*t.size+j)) O with⟨ik,z,_,g2⟩|⟨z,_,g2⟩
       . rw[g2]at hv;injection hv with hv;cases hv
       . rw[g2]at hv;injection hv with hv;cases hv
      split at p5
      . rename_i g;exact absurd p5 (hno _ _ _ _ g)
      split at p6
      . rename_i g;exact absurd p6 (hno _ _ _ _ g)
      exact e7 p q ap aq l l' c c' p1 p2 (by rw[<-hq];exact p3) (by rw[<-hq];exact p4) p5 p6 p7
    . have hmK:K m:=by simp[K,names,qh,qf]
      have hv:RelN β who w m u ys cv:=S.hrel _ mS
      have hcvb: ∀ad l c,cv= .slice (some ad) l c->who ad.block=some m:=by
       intro ad l c e;rcases hv.2 with⟨q,_⟩|⟨bi,oi,ci,ar,l',k1,k2,k3,k4,k5,k6⟩
       . rw[q]at e;cases e
       . rw[k1]at e;injection e with e _ _;injection e with e;subst e;exact k5
      have hmn:m≠n:=λe=>hnK (e▸hmK)
      have hin: ∀p,(i*t.size+j<=p/\p<i*t.size+j+[cv].length)->p=i*t.size+j:=λp hp=>by simp at hp;omega
      split at p5<;>split at p6
      . rename_i g1 g2;rw[hin p g1,hin q g2]
      . rename_i g1 g2;rw[hin p g1,zF3]at p5;injection p5 with p5
        have w1:=hcvb _ _ _ p5;have w2:=hold q aq l' c' p2 (by rw[q1];intro e;injection e with e;exact g2 ⟨O,by simp;omega⟩) p6
        rw[p7,w2]at w1;injection w1 with w1;exact absurd w1.symm hmn
      . rename_i g1 g2;rw[hin q g2,zF3]at p6;injection p6 with p6
        have w1:=hcvb _ _ _ p6;have w2:=hold p ap l c p1 (by rw[q1];intro e;injection e with e;exact g1 ⟨O,by simp;omega⟩) p5
        rw[<-p7,w2]at w1;injection w1 with w1;exact absurd w1.symm hmn
      . rename_i g1 g2;exact e7 p q ap aq l l' c c' p1 p2 (by rw[q1];intro e;injection e with e;exact g1 ⟨O,by simp;omega⟩) (by rw[q1];intro e;injection e with e;exact g2 ⟨O,by simp;omega⟩) p5 p6 p7
 have S0:=S.drop rfl;have S1:=(S0.takeAll s).drop rfl
 have hdead: ∀x s',x∈names ((U.set s .dead).get s')->s'≠s/\x∈names (U.get s'):=λx s' h=>by
  by_cases e:s'=s
  . subst e;rw[qg]at h;simp[names,qh,qf]at h
  . rw[qc _ _ e]at h;exact⟨e,h⟩
 have S2:=S1.shift (β':=β) (who':=who') (w':=w') (X:=n::names v) (λh=>by
  rcases mC h with h|h
  . exact S.dfn (by rw[h];exact hDn)
  . exact S.dfn (S.hocc _ mS FN (qi h))) (λ_ _=>rfl)
  (fun b' x hb hx=>by
    simp only[zO,not_or]at hx;refine⟨?_,hoth b' (by rintro rfl;rw[e5]at hb;injection hb with hb;exact hx.1 hb.symm)⟩
    simp only[who'];rw[iN'];exact hb
    rintro ⟨k,g1,g2⟩
    rw[hb]at g1;injection g1 with g1
    exact hx.2 (g1▸g2))
  hnone (λb' x h=>by
   grind) hsz (λs' x hx hs=>by
   obtain⟨g1,g2⟩:=hdead x s' hs;rcases mC hx with rfl|hx
   . exact absurd (S.dis s' s x g2 (by rw[hav];simp[names,qh,qf])) g1
   . exact absurd g2 (S.hdis _ mS x hx s')) (λz hz=>by cases hz) (by simp_all)
 have S4:=S2.recast (s:=s) (v:= .dq n t (xs.set i y) h2) (qg ..) hnew (by simp[names,qh,qf])
  (fun x hx s' hs=>by
    simp only[names,qh,qf,zA]at hx;subst hx;obtain⟨g1,g2⟩:=hdead x s' hs;exact g1 (S.dis s' s x g2 (by rw[hav];simp[names,qh,qf])))
  (fun x hx=>by
    simp only[Vs.occ,occA,occC,zA]at hx;subst hx;exact hDn)
 refine⟨who',S4.ext λs'=> ?_⟩
 by_cases e:s'=s
 . subst e;rw[qg,qg]
 . rw[qc _ _ e,qc _ _ e,qc _ _ e]
end
section
variable {P:Program} {CO:qw} {T:TT} {E:Entry} {D:Nat->Prop} {β:Beta} {who:Who} {U U':Slots} {hd:List (AV×Value)} {a:Act} {w w':World} {R W:List Nat}
structure DqCells (who:Who) (w:World) (n b:Nat) (t:Ty) (xs:List (Den t)) (hs:List Value):Prop where
 len:hs.length=xs.length*t.size
 one: ∀x∈hs,x.oneCell'=true
 cell: ∀i k (hi:i<xs.length) (hk:k<(unpack t xs[i]).length),CellQ who w n b none (unpack t xs[i])[k] hs[i*t.size+k]? (i*t.size+k)
 dist: ∀(p q:Nat) (ap aq:Addr) (l l' c c':Nat),hs[p]? =some (.slice (some ap) l c)->hs[q]? =some (.slice (some aq) l' c')->ap.block=aq.block->p=q
 blk: ∀(p:Nat) (ad:Addr) (l c:Nat),hs[p]? =some (.slice (some ad) l c)->who ad.block=some n/\ad.block≠b
def CellQ.one {n b p:Nat} {c:AV} {v:Value} (h:CellQ who w n b none c (some v) p):v.oneCell'=true:=by
 cases c with
 |int k x=>injection h with h;subst h;rfl
 |bool x=>injection h with h;subst h;rfl
 |sl o t xs=>
  rcases h with h|⟨v',h1,h2⟩
  . cases h
  . injection h1 with h1
    subst h1;obtain⟨ad,l,c,rfl⟩:=h2.one;rfl
 |_=>exact h.elim
def CellQ.blk {n b p:Nat} {c:AV} {ad:Addr} {l cp:Nat} (h:CellQ who w n b none c (some (.slice (some ad) l cp)) p):who ad.block=some n/\ad.block≠b:=by
 cases c with
 |int k x=>injection h with h;cases h
 |bool x=>injection h with h;cases h
 |sl o t xs=>
  rcases h with h|⟨v',h1,h2⟩
  . cases h
  . injection h1 with h1
    subst h1;rcases h2 with⟨q,_⟩|⟨bi,oi,ci,ar,l',k1,k2,k3,k4,k5,k6,k7⟩
    . cases q
    . injection k1 with k1 _ _;injection k1 with k1;subst k1;exact⟨k5,k6⟩
 |_=>exact h.elim
def CellQ.some {n b p:Nat} {c:AV} {o:Option Value} (h:CellQ who w n b none c o p): ∃v,o=some v:=by
 cases c with
 |int k x=>exact⟨_,h⟩
 |bool x=>exact⟨_,h⟩
 |sl ow t xs=>
  rcases h with h|⟨v',h1,_⟩
  . cases h
  . exact⟨_,h1⟩
 |_=>exact h.elim
def RelDq.news {n:Nat} {t:Ty} {xs:List (Den t)} {v:Value} (h:RelDq β who w n t xs none v):
 ∃b hs,DqCells who w n b t xs hs/\(∀w1:World,w1.heap=w.heap->(Builtin.firstCells t.size xs.length v).run P w1= .ok hs.toArray w1)/\
  (v≠ .slice none 0 0-> ∃o cap arr el,v= .slice (some ⟨b,o,none⟩) xs.length cap/\w.heap[b]? =some (.cells arr el (0,0))/\o+cap*t.size<=arr.size/\xs.length<=cap/\who b=some n/\ ∀p,p<hs.length->cellAt w b o p=hs[p]?):=by
 obtain⟨h1,h⟩:=h;rcases h with⟨rfl,rfl⟩|⟨b,o,cap,arr,el,e1,e2,e3,e4,e5,e6,e7⟩
 . exact⟨0,[],⟨by simp,λx hx=>by simp at hx,λi k hi=>by simp at hi,λp q ap aq l l' c c' h=>by simp at h,λp ad l c h=>by simp at h⟩,λw1 _=>by simp[Builtin.firstCells],λh=>absurd rfl h⟩
 obtain⟨hs,hhs⟩: ∃hs:List Value,hs=(List.range (xs.length*t.size)).map λp=>(cellAt w b o p).getD undef:=⟨_,rfl⟩
 have hlen:hs.length=xs.length*t.size:=by rw[hhs];simp
 have hpl: ∀p,p<xs.length*t.size-> ∃i k,∃hi:i<xs.length,∃hk:k<(unpack t xs[i]).length,p=i*t.size+k:=by
  intro p hp
  have hpos:0<t.size:=by
   rcases z01 t.size with h|h
   . rw[h]at hp;omega
   . exact h
  have hq:p/t.size<xs.length:=zN2 (by rw[zx];exact hp)
  refine⟨p/t.size,p%t.size,hq,by rw[Qz];exact zm1 _ hpos,?_⟩
  rw[zx];exact(zz1 _ _).symm
 have hcq: ∀p,p<xs.length*t.size-> ∃c,CellQ who w n b none c (cellAt w b o p) p:=by
  intro p hp;obtain⟨i,k,hi,hk,rfl⟩:=hpl p hp;exact⟨_,(J7 (e6 i hi)).2 k hk⟩
 have hget: ∀p,p<xs.length*t.size->hs[p]? =cellAt w b o p:=by
  intro p hp;obtain⟨c,hc⟩:=hcq p hp;obtain⟨v,hv⟩:=hc.some;rw[hhs,List.getElem?_map,List.getElem?_range hp,hv];simp[hv]
 have hlt: ∀{p:Nat} {v:Value},hs[p]? =some v->p<xs.length*t.size:=λ{p v} h=>by
  have:=(List.getElem?_eq_some_iff.1 h).1;omega
 refine⟨b,hs,⟨hlen,λx hx=> ?_,λi k hi hk=> ?_,λp q ap aq l l' c c' p1 p2 p3=> ?_,λp ad l c p1=> ?_⟩,λw1 hw1=> ?_,λ_=>⟨o,cap,arr,el,e1,e2,e3,e4,e5,λp hp=>(hget p O).symm⟩⟩
 . obtain⟨p,hp,rfl⟩:=zV hx;obtain⟨c,hc⟩:=hcq p O;rw[<-hget p O,List.getElem?_eq_getElem hp]at hc;exact hc.one
 . have hks:k<t.size:=by rw[Qz]at hk;exact hk
   rw[hget _ (q26 hi hks)];exact(J7 (e6 i hi)).2 k hk
 . exact e7 p q ap aq l l' c c' (hlt p1) (hlt p2) (by simp) (by simp) (by rw[<-hget p (hlt p1)];exact p1) (by rw[<-hget q (hlt p2)];exact p2) p3
 . obtain⟨cc,hc⟩:=hcq p (hlt p1);rw[<-hget p (hlt p1),p1]at hc;exact hc.blk
 . rw[e1];simp only[Builtin.firstCells];rw[run_loadCells (P:=P) w1 ⟨b,o,none⟩ (xs.length*t.size) (λp=>(cellAt w b o p).getD undef) (λp hp=> ?_)]
   . rw[hhs]
   . obtain⟨c,hc⟩:=hcq p hp;obtain⟨v,hv⟩:=hc.some;rw[hv,add_plain];simp only[cellAt,World.cell?]at hv⊢;rw[hw1];exact hv
def RelDq.mk' {n:Nat} {t:Ty} {zs:List (Den t)} {hs:List Value} {v:Value} {b o cap:Nat} {arr:Array Value} {el:TypeId} (hβ:β n=v)
 (hv:v= .slice (some ⟨b,o,none⟩) zs.length cap) (hh:w.heap[b]? =some (.cells arr el (0,0))) (h1:o+cap*t.size<=arr.size) (h2:zs.length<=cap) (h3:who b=some n)
 (hd:DqCells who w n b t zs hs) (hc: ∀p,p<hs.length->cellAt w b o p=hs[p]?):RelDq β who w n t zs none v:=by
 refine⟨hβ.symm,.inr ⟨b,o,cap,arr,el,hv,hh,h1,h2,h3,λi hi=>RelQ.ofCells λk hk=> ?_,λp q ap aq l l' c c' p1 p2 _ _ p5 p6 p7=> ?_⟩⟩
 . have hks:k<t.size:=by rw[Qz]at hk;exact hk
   rw[hc _ (by rw[hd.len];exact q26 hi hks)]
   exact hd.cell i k hi hk
 . exact hd.dist p q ap aq l l' c c' (by rw[<-hc p (by rw[hd.len];exact p1)];exact p5) (by rw[<-hc q (by rw[hd.len];exact p2)];exact p6) p7
def DqCells.append {who':Who} {n m k bx by' b0:Nat} {t:Ty} {xs ys:List (Den t)} {hx hy:List Value} (h1:DqCells who w n bx t xs hx) (h2:DqCells who w m by' t ys hy) (hmn:m≠n)
 (p1: ∀b,who b=some n->who' b=some k) (p2: ∀b,who b=some m->who' b=some k) (p3: ∀b,who b=none->b<w.heap.size->who' b=none/\w'.heap[b]? =w.heap[b]?) (p4:w.heap.size<=w'.heap.size)
 (p5: ∀(p:Nat) (ad:Addr) (l c:Nat),hx[p]? =some (.slice (some ad) l c)->ad.block≠b0/\w'.heap[ad.block]? =w.heap[ad.block]?) (p6: ∀(p:Nat) (ad:Addr) (l c:Nat),hy[p]? =some (.slice (some ad) l c)->ad.block≠b0/\w'.heap[ad.block]? =w.heap[ad.block]?):
 DqCells who' w' k b0 t (xs++ys) (hx++hy):=by
 have hl1:=h1.len;have hl2:=h2.len
 have conv: ∀(nn bb:Nat) (hh:List Value) (c:AV) (p p':Nat),(∀b,who b=some nn->who' b=some k)->(∀(p:Nat) (ad:Addr) (l c:Nat),hh[p]? =some (.slice (some ad) l c)->ad.block≠b0/\w'.heap[ad.block]? =w.heap[ad.block]?)->
  CellQ who w nn bb none c hh[p]? p->CellQ who' w' k b0 none c hh[p]? p':=by
  intro nn bb hh c p p' q1 q2 hc;refine hc.imp rfl (λh=>by cases h) λu ys v hv _ hi=> .inr ?_
  rcases hi with g|⟨bi,oi,ci,ar,l,k1,k2,k3,k4,k5,k6,k7⟩
  . exact .inl g
  . obtain⟨g1,g2⟩:=q2 p ⟨bi,oi,none⟩ _ _ (by rw[hv,k1])
    exact .inr ⟨bi,oi,ci,ar,l,k1,by rw[g2];exact k2,k3,k4,q1 bi k5,g1,k7.keep p3 p4 g2⟩
 have get1: ∀p,p<hx.length->(hx++hy)[p]? =hx[p]? :=λp hp=>List.getElem?_append_left hp
 have get2: ∀p,¬p<hx.length->(hx++hy)[p]? =hy[p-hx.length]? :=λp hp=>List.getElem?_append_right O
 refine⟨by rw[zL,zL,zu,hl1,hl2],λx hx'=> ?_,λi j hi hj=> ?_,λp q ap aq l l' c c' q1 q2 q3=> ?_,λp ad l c q1=> ?_⟩
 . rcases zH.1 hx' with h|h
   . exact h1.one x h
   . exact h2.one x h
 . have hjs:j<t.size:=by rw[Qz]at hj;exact hj
   by_cases a1:i<xs.length
   . rw[get1 _ (by rw[hl1];exact q26 a1 hjs)]
     have:=h1.cell i j a1 (by rw[Qz];exact hjs)
     have:=conv n bx hx _ _ (i*t.size+j) p1 p5 this
     simpa only[zF1 a1]using this
   . have a2:i-xs.length<ys.length:=by rw[zL]at hi;omega
     have hle:xs.length*t.size<=i*t.size:=zK _ O;have e:i*t.size+j-hx.length=(i-xs.length)*t.size+j:=by rw[hl1,Nat.sub_mul];omega
     rw[get2 _ O,e];have:=h2.cell (i-xs.length) j a2 (by rw[Qz];exact hjs)
     have:=conv m by' hy _ _ (i*t.size+j) p2 p6 this
     simpa only[zB1 (zB2 a1)]using this
 . by_cases a1:p<hx.length<;>by_cases a2:q<hx.length
   . rw[get1 p a1]at q1;rw[get1 q a2]at q2;exact h1.dist p q ap aq l l' c c' q1 q2 q3
   . rw[get1 p a1]at q1;rw[get2 q a2]at q2;have g1:=(h1.blk _ _ _ _ q1).1;have g2:=(h2.blk _ _ _ _ q2).1;rw[q3,g2]at g1;injection g1 with g1;exact absurd g1 hmn
   . rw[get2 p a1]at q1;rw[get1 q a2]at q2;have g1:=(h2.blk _ _ _ _ q1).1;have g2:=(h1.blk _ _ _ _ q2).1;rw[q3,g2]at g1;injection g1 with g1;exact absurd g1.symm hmn
   . rw[get2 p a1]at q1;rw[get2 q a2]at q2;have:=h2.dist _ _ ap aq l l' c c' q1 q2 q3;omega
 . by_cases a1:p<hx.length
   . rw[get1 p a1]at q1;exact⟨p1 _ (h1.blk _ _ _ _ q1).1,(p5 _ _ _ _ q1).1⟩
   . rw[get2 p a1]at q1;exact⟨p2 _ (h2.blk _ _ _ _ q1).1,(p6 _ _ _ _ q1).1⟩
def q9b (hT:TTok P T) {idx:Nat} {tys:Array TypeId} {rt t0 t1 e e1:TypeId} {et et1:Ty} {cells cells1:List ZC} {n m:Nat} {t:Ty} {xs ys:List (Den t)} {cx cy:Value}
 (h0:tys[0]? =some t0) (h1:tys[1]? =some t1) (ht0:T.at t0=some {desc:= .slice e et,cells:=cells}) (ht1:T.at t1=some {desc:= .slice e1 et1,cells:=cells1})
 (hsz:et.size=t.size) (S:Sim E D β who U [(.dq m t ys none,cy),(.dq n t xs none,cx)] a w) (hpos:0<ys.length) (hlen:xs.length+ys.length<=1073741824) (hf: ∀k,k<16-> ¬D (fresh idx k)):
 ∃r w' β' who',(Builtin.append_ tys rt #[cx,cy]).run P w= .ok r w'/\Sim E (Dn D idx) β' who' U [(.dq (fresh idx 15) t (xs++ys) none,r)] a w':=by
 obtain⟨hu0,⟨ei,ez,he,hes,hbytes,_,hz,hzc⟩⟩:=(hT t0 _ ht0).desc;obtain⟨hu1,_⟩:=(hT t1 _ ht1).desc;have hss:ei.size=t.size:=by rw[hes,hsz]
 have hzsz:ez.cells.size=t.size:=by rw[<-Array.length_toList,hzc,Qj,hsz]
 have hX:RelDq β who w n t xs none cx:=S.hrel _ (mT mS);have hY:RelDq β who w m t ys none cy:=S.hrel _ mS
 have hmn:m≠n:=by
  have:=S.hnod;simp only[fC,zf1,names,qh,qf,zL1,zV1,zy,zA]at this;exact this.1
 obtain⟨adx,capx,rfl⟩:=hX.len;obtain⟨ady,capy,rfl⟩:=hY.len;obtain⟨bx,hx,cX,rX,qX⟩:=hX.news (P:=P);obtain⟨by',hy,cY,rY,qY⟩:=hY.news (P:=P);have hxn: ∃z∈([(.dq m t ys none,.slice ady ys.length capy),(.dq n t xs none,.slice adx xs.length capx)]:List (AV×Value)),n∈names z.1:=⟨_,mT mS,by simp[names,qh,qf]⟩
 have hxm: ∃z∈([(.dq m t ys none,.slice ady ys.length capy),(.dq n t xs none,.slice adx xs.length capx)]:List (AV×Value)),m∈names z.1:=⟨_,mS,by simp[names,qh,qf]⟩
 have hblt: ∀{b x:Nat},who b=some x->b<w.heap.size:=λh=>S.wsz _ _ h
 have hl1:=cX.len;have hl2:=cY.len;by_cases hroom:xs.length+ys.length<=capx
 ·
  obtain⟨o,cap,arr,el,e1,e2,e3,e4,e5,e6⟩:=qX (by intro e;injection e with _ q1 q2;omega)
  injection e1 with q1 _ q2
  subst q1 q2;have hmul:(xs.length+ys.length)*t.size<=capx*t.size:=zK _ hroom;rw[zu]at hmul;have hfit0:o+xs.length*ei.size+hy.length<=arr.size:=by rw[hss,hl2];omega
  have hrun:=Jw (P:=P) (rt:=rt) h0 h1 hu0 hu1 he (o:=o) (sLen:=xs.length) (sCap:=capx) e2 (by rw[hss];exact rY w rfl) (by rw[hss];exact hl2) cY.one hroom hfit0
  rw[hss]at hrun hfit0;obtain⟨w',hw'⟩: ∃w',w'=w.setRow bx (qm arr (o+xs.length*t.size) hy):=⟨_,rfl⟩;have hoth: ∀b',b'≠bx->w'.heap[b']? =w.heap[b']? :=λb' hb=>by rw[hw'];exact setRow_other w bx b' _ hb
  have hheap:w'.heap[bx]? =some (.cells (qm arr (o+xs.length*t.size) hy) el (0,0)):=by rw[hw'];exact setRow_heap w bx arr _ el _ e2
  have hszw:w'.heap.size=w.heap.size:=by rw[hw'];simp
  rw[<-hw']at hrun
  obtain⟨β',who',S'⟩:=S.mergeHand (idx:=idx) (v:= .dq (fresh idx 15) t (xs++ys) none) (c:= .slice (some ⟨bx,o,none⟩) (xs.length+ys.length) capx) (base:= .slice (some ⟨bx,o,none⟩) (xs.length+ys.length) capx) (w':=w') hf
   (by simp[names,qh,qf]) (by simp[Vs.occ,occA,occC])
   (fun b' x hb hx=>hoth b' (by
     rintro rfl
     rw[e5]at hb;injection hb with hb
     obtain⟨z,hz,hn⟩:=hxn;exact hx z hz (hb▸hn)))
   (λb' hb _=>hoth b' (by rintro rfl;rw[e5]at hb;cases hb)) O (by rw[hw'];exact⟨rfl,rfl⟩)
   (fun β' who' g1 g2 g3 g4=>by
     refine RelDq.mk' (hs:=hx++hy) g1 (by rw[zL]) hheap (by rw[Qe hfit0];exact e3) (by rw[zL];exact hroom) (g2 bx n e5 hxn)
      (cX.append cY hmn (λb' h=>g2 b' n h hxn) (λb' h=>g2 b' m h hxm) (λb' h hl=>⟨g4 b' h hl,hoth b' (by rintro rfl;rw[e5]at h;cases h)⟩) O
        (λp ad l c q=>⟨(cX.blk p ad l c q).2,hoth _ (cX.blk p ad l c q).2⟩)
        (fun p ad l c q=>by
          have hbb:ad.block≠bx:=by
           intro e;have:=(cY.blk p ad l c q).1;rw[e,e5]at this;injection this with this;exact hmn this.symm
          exact⟨hbb,hoth _ hbb⟩)) (λp hp=> ?_)
     have c1:cellAt w' bx o p=(qm arr (o+xs.length*t.size) hy)[o+p]? :=by simp[cellAt,World.cell?,hheap]
     rw[c1,Qd hfit0];by_cases a1:p<hx.length
     . rw[iN' O,List.getElem?_append_left a1,<-e6 p a1];simp[cellAt,World.cell?,e2]
     . rw[zL]at hp;rw[iP O,List.getElem?_append_right O];congr 1;omega)
  exact⟨_,w',β',who',hrun,S'⟩
 ·
  have hrun:=J8 (P:=P) (rt:=rt) (w:=w) h0 h1 hu0 hu1 he hz (sa:=adx) (sLen:=xs.length) (sCap:=capx) (m:=ys.length) (ad:=ady) (c:=capy) (olds:=hx) (news:=hy)
   (by rw[hss];exact rX w.drew rfl) (by rw[hss];exact rY w.drew rfl) O hbytes hlen
  have hcapge:xs.length+ys.length<=grownCap w (xs.length+ys.length) capx e:=grownCap_ge w _ _ e;obtain⟨row,hrow⟩: ∃row,row=hx.toArray++hy.toArray++Builtin.zeroCells ez.cells (grownCap w (xs.length+ys.length) capx e-(xs.length+ys.length)):=⟨_,rfl⟩;rw[<-hrow]at hrun
  have hrs:row.size=grownCap w (xs.length+ys.length) capx e*t.size:=by
   rw[hrow];simp only[Array.size_append,List.size_toArray,hl1,hl2,size_zeroCells,hzsz,<-Nat.add_mul];congr 1;omega
  have hnew:(w.drew.alloc (.cells row e)).heap[w.heap.size]? =some (.cells row e (0,0)):=heap_alloc_new w.drew _;have hold: ∀b',b'<w.heap.size->(w.drew.alloc (.cells row e)).heap[b']? =w.heap[b']? :=λb' hb'=>heap_alloc_old w.drew _ b' hb'
  have hszw:(w.drew.alloc (.cells row e)).heap.size=w.heap.size+1:=by simp
  obtain⟨β',who',S'⟩:=S.mergeHand (idx:=idx) (v:= .dq (fresh idx 15) t (xs++ys) none) (c:= .slice (some ⟨w.heap.size,0,none⟩) (xs.length+ys.length) (grownCap w (xs.length+ys.length) capx e))
   (base:= .slice (some ⟨w.heap.size,0,none⟩) (xs.length+ys.length) (grownCap w (xs.length+ys.length) capx e)) (w':=w.drew.alloc (.cells row e)) hf
   (by simp[names,qh,qf]) (by simp[Vs.occ,occA,occC])
   (λb' x hb _=>hold b' (hblt hb)) (λb' _ hl=>hold b' hl) O ⟨rfl,rfl⟩
   (fun β' who' g1 g2 g3 g4=>by
     refine RelDq.mk' (hs:=hx++hy) g1 (by rw[zL]) hnew (by rw[hrs];omega) (by rw[zL];exact hcapge) (g3 _ (zD _) O)
      (cX.append cY hmn (λb' h=>g2 b' n h hxn) (λb' h=>g2 b' m h hxm) (λb' h hl=>⟨g4 b' h hl,hold b' hl⟩) O
        (fun p ad l c q=>by
          have:=hblt (cX.blk p ad l c q).1;exact⟨Nat.ne_of_lt this,hold _ this⟩)
        (fun p ad l c q=>by
          have:=hblt (cY.blk p ad l c q).1;exact⟨Nat.ne_of_lt this,hold _ this⟩)) (λp hp=> ?_)
     have c1:cellAt (w.drew.alloc (.cells row e)) w.heap.size 0 p=row[p]? :=by
      simp only[cellAt,World.cell?,hnew,zI];rfl
     rw[c1,hrow];rw[Array.getElem?_append_left (by simpa using hp),List.append_toArray,List.getElem?_toArray])
  exact⟨_,_,β',who',hrun,S'⟩
def qb8 (hT:TTok P T) {idx t:Nat} {cs:List AV} {cv:Value} {e:TypeId} {ty:Ty} {zcs:List ZC} {y:Den ty} (ht:T.at t=some {desc:= .slice e ty,cells:=zcs}) (S:Sim E D β who U [(.agg cs,cv)] a w) (hf: ∀k,k<16-> ¬D (fresh idx k))
 (hall:cs.all qbl=true) (hsz:ty.size<=64) (hpk:Z4 ty cs=some (y,[])):
 ∃r w' β' who',(Instr.buildSlice t 1 #[(0,cv)]).run P w= .ok r w'/\Sim E (Dn D idx) β' who' U [(.dq (fresh idx 15) ty [y] none,r)] a w':=by
 obtain⟨hu,⟨ei,ez,he,hes,hb,hb0,hz,hzc⟩⟩:=(hT t _ ht).desc;have hv: ∃arr,cv= .agg arr/\CellsRel β who w cs arr:=S.hrel _ mS;obtain⟨arr,rfl,hcl,hcr⟩:=hv;have hnc: ∀k (hk:k<cs.length),qbl cs[k]=true:=λk hk=>zX.1 hall _ (zM hk)
 obtain⟨_,hr,hle⟩:=q2k (who:=who) (w:=w) (β:=β) (f:=λk=>arr.getD k undef) (g:=λk=>some (arr.getD k undef)) (j:=0) hpk (λk hk=>by
  have h1:=hnc k hk;have h2:=hcr k hk;generalize cs[k]=c at h1 h2;refine q1y ?_ h2;cases c with
  |sl o t xs=>cases o<;>first|rfl|cases h1
  |bool b=>rfl
  |int k n=>rfl
  |_=>cases h1) (λk _=>by simp)
 have hcs:cs.length=ty.size:=by
  have:=congrArg List.length hr;simp at this;omega
 have harr:arr.size=ei.size:=by rw[hcl,hcs,hes]
 have hcv:(Value.agg arr).cells=arr:=rfl;obtain⟨row0,hrow0⟩: ∃row0,row0=(Array.range (1*ei.size)).map λi=>ez.cells[i%ez.cells.size]! :=⟨_,rfl⟩
 have hr0:row0.size=ei.size:=by rw[hrow0];simp
 have hfit:0+arr.toList.length<=row0.size:=by rw[hr0,zC1,harr];omega
 have hfill:Instr.fill (λi=>some (i*ei.size,ei.size)) row0 [(0,.agg arr)]=some (qm row0 0 arr.toList):=by
  rw[q31 (off:=0*ei.size) (size:=ei.size) rfl (by rw[hcv,harr]) (by rw[hcv,hr0,harr];omega),hcv,zh2];rfl
 have hbig: ¬(1*ei.size>2^24):=by rw[hes];have:(2:Nat)^24=16777216:=rfl;omega
 have hrun:(Instr.buildSlice t 1 #[(0,.agg arr)]).run P w= .ok (.slice (some ⟨w.heap.size,0,none⟩) 1 1) (w.alloc (.cells (qm row0 0 arr.toList) e)):=by
  unfold Instr.buildSlice;simp only[Sem.run_bind,run_underlying hu,Result.andThen_ok,Xf he,hbig,if_false]
  have hend:(newRow e (qm row0 0 arr.toList)>>=λx=>pure (Value.slice (some x) 1 1):Sem Value).run P w= .ok (.slice (some ⟨w.heap.size,0,none⟩) 1 1) (w.alloc (.cells (qm row0 0 arr.toList) e)):=by
   simp[newRow]
  split
  . rename_i h0;have:=Ty.size_pos ty;omega
  . simp only[Sem.run_bind,q2t he hz,Sem.run_pure,Result.andThen_ok]
    grind
 have hnew:=heap_alloc_new w (.cells (qm row0 0 arr.toList) e);have hold: ∀b',b'<w.heap.size->(w.alloc (.cells (qm row0 0 arr.toList) e)).heap[b']? =w.heap[b']? :=λb' hb'=>heap_alloc_old w _ b' hb'
 have hszw:(w.alloc (.cells (qm row0 0 arr.toList) e)).heap.size=w.heap.size+1:=by simp
 have hcell: ∀(who':Who) (w':World) (n b k:Nat) (hk:k<cs.length) (p:Nat),CellQ who' w' n b none cs[k] arr.toList[k]? p/\ ∀ad l c,arr.toList[k]? ≠some (.slice (some ad) l c):=by
  intro who' w' n b k hk p;have h1:=hnc k hk;have h2:=hcr k hk;have hk2:k<arr.size:=by rw[hcl];exact hk
  have h3:arr.toList[k]? =some (arr.getD k undef):=by
   rw[Array.getElem?_toList,Array.getElem?_eq_getElem hk2];simp[Array.getD,hk2]
  rw[h3];generalize cs[k]=c at h1 h2;cases c with
  |sl o t xs=>
   cases o with
   |nl=>
    obtain⟨g1,g2⟩:=h2;rw[g1];exact⟨.inr ⟨_,rfl,.inl ⟨rfl,g2⟩⟩,λad l c e=>by injection e with e;cases e⟩
   |_=>cases h1
  |bool b=>have h2:_=_:=h2;rw[h2];exact⟨rfl,λad l c e=>by injection e with e;cases e⟩
  |int k n=>have h2:_=_:=h2;rw[h2];exact⟨rfl,λad l c e=>by injection e with e;cases e⟩
  |_=>cases h1
 have hdq: ∀(who':Who) (w':World) (n b:Nat),DqCells who' w' n b ty [y] arr.toList:=by
  intro who' w' n b;refine⟨by rw[zC1,harr,hes];simp,λx hx=> ?_,λi k hi hk=> ?_,λp q ap aq l l' c c' q1 _ _=> ?_,λp ad l c q1=> ?_⟩
  . obtain⟨p,hp,rfl⟩:=zV hx;have hp2:p<cs.length:=by rw[zC1,hcl]at hp;exact hp
    have:=(hcell who' w' n b p hp2 p).1;rw[List.getElem?_eq_getElem hp]at this;exact this.one
  . have hi0:i=0:=by simpa using hi
    subst hi0
    have:=packQ (who:=who') (w:=w') (n:=n) (bk:=b) (hh:=none) (g:=λp=>arr.toList[p]?) (p:=0) hpk (λk hk _=>by
     have:=(hcell who' w' n b k hk (0+k)).1;simpa using this)
    have:=(J7 this.1).2 k hk;simpa using this
  . have hp:=(List.getElem?_eq_some_iff.1 q1).1;have hp2:p<cs.length:=by rw[zC1,hcl]at hp;exact hp
    exact absurd q1 ((hcell who' w' n b p hp2 p).2 _ _ _)
  . have hp:=(List.getElem?_eq_some_iff.1 q1).1;have hp2:p<cs.length:=by rw[zC1,hcl]at hp;exact hp
    exact absurd q1 ((hcell who' w' n b p hp2 p).2 _ _ _)
 obtain⟨β',who',S'⟩:=S.mergeHand (idx:=idx) (v:= .dq (fresh idx 15) ty [y] none) (c:= .slice (some ⟨w.heap.size,0,none⟩) 1 1) (base:= .slice (some ⟨w.heap.size,0,none⟩) 1 1)
  (w':=w.alloc (.cells (qm row0 0 arr.toList) e)) hf (by simp[names,qh,qf]) (by simp[Vs.occ,occA,occC])
  (λb' x hb _=>hold b' (S.wsz _ _ hb)) (λb' _ hl=>hold b' hl) O ⟨rfl,rfl⟩
  (fun β' who' g1 g2 g3 g4=>by
    refine RelDq.mk' (hs:=arr.toList) g1 rfl hnew (by rw[Qe hfit,hr0,hes];simp) (zD _) (g3 _ (zD _) O) (hdq ..) (λp hp=> ?_)
    have c1:cellAt (w.alloc (.cells (qm row0 0 arr.toList) e)) w.heap.size 0 p=(qm row0 0 arr.toList)[p]? :=by
     simp only[cellAt,World.cell?,hnew,zI];rfl
    rw[c1,Qd hfit,iP O,Nat.sub_zero])
 exact⟨_,_,β',who',hrun,S'⟩
def Sim.newNilDq {m:Nat} {v0:AV} {t:Ty} {c0:Value} {D':Nat->Prop} (S:Sim E D β who U ((v0,c0)::hd) a w) (hm: ¬D m) (hD: ∀x,D x->D' x) (hDm:D' m) (hDF: ¬D' FN):
 ∃β',Sim E D' β' who U ((.dq m t [] none,nilS)::hd) a w:=by
 let β':Beta:=λx=>if x=m then nilS else β x
 have hb: ∀x,D x->β' x=β x:=λx hx=>by grind
 have S0:=((S.drop rfl).keep (β':=β') (who':=who) (w':=w) hb (λ_ _ h=>h) (λ_ _=>rfl) (λ_ h _=>h) S.wsz (zD _)).mono hD hDF
 refine⟨β',?_⟩
 exact{S0 with
  hrel:=λy hy=>by
   rcases mC hy with rfl|hy
   . exact⟨by simp[β'],.inl ⟨rfl,rfl⟩⟩
   . exact S0.hrel y hy
  hnod:=by
   simp only[fC,names,qh,qf,zV1,zy];refine⟨λh=> ?_,S0.hnod⟩
   obtain⟨x,hx,hn⟩:=zC.1 h;exact hm (S.hocc x (mT hx) m (qi hn))
  hdis:=λy hy=>by
   rcases mC hy with rfl|hy
   . intro x hx s hs;simp only[names,qh,qf,zA]at hx;subst hx;exact hm (S.occ s x (qi hs))
   . exact S0.hdis y hy
  hocc:=λy hy=>by
   rcases mC hy with rfl|hy
   . intro x hx;simp only[Vs.occ,occA,occC,zA]at hx;subst hx;exact hDm
   . exact S0.hocc y hy}
end
section
variable {P:Program} {CO:qw} {T:TT} {E:Entry} {D:Nat->Prop} {β:Beta} {who:Who} {U U':Slots} {hd:List (AV×Value)} {a:Act} {w w':World} {R W:List Nat}
def q45 {t:Ty} {x:Den t} {c:AV} (h:c∈(unpack t x).map ql3):qf c=[]/\occC c=[]:=by
 obtain⟨d,hd,rfl⟩:=zQ.1 h;rcases Zy hd with⟨k,n,rfl⟩|⟨b,rfl⟩|⟨o,t',xs,rfl,_⟩<;>exact⟨rfl,rfl⟩
def q9r {t:Nat} {ti:TI} (hti:TIok P t ti) {s n sz i j:Nat} {v:AV} {c:Value} (h:Run CO (qh2 ti n sz i j (U.get s)) U v U' R W) (S:Sim E D β who U [] a w) (hx:PtrVal (β n) sz i j c):
 U'=U/\ ∃r,(Instr.loadAt t c).run P w= .ok r w/\Rel β who w v r/\names v=[]/\occ v=[]:=by
 unfold qh2 at h;split at h
 case h_2=>exact(Run.fail' h).elim
 rename_i m ty xs hh hav;split at h
 case isFalse=>exact(Run.fail' h).elim
 rename_i hc;obtain⟨rfl,rfl⟩:=hc;obtain⟨hp,rfl⟩:=Run.mopt' h;refine⟨rfl,?_⟩;have hdq:=S.dq hav;obtain⟨ad,cap,hl⟩:=hdq.len;rw[hdq.1]at hl;obtain⟨b,o,rfl,hi,rfl⟩:=hx.slice hl;obtain⟨h1,b',o',cap',arr,el,e1,e2,e3,e4,e5,e6,e7⟩:=hdq.pos (Q7 hi);rw[h1,hl]at e1;injection e1 with q1 _ q3
 injection q1 with q1;injection q1 with q1 q2 _
 subst q1 q2 q3;have hx':xs.getD i ty.zero=xs[i]:=by simp[List.getD,List.getElem?_eq_getElem hi]
 rw[hx']at hp;obtain⟨hul,hu⟩:=J7 (e6 i hi);have hcap:xs.length*ty.size<=cap*ty.size:=zK _ e4;have hil:(i+1)*ty.size<=xs.length*ty.size:=zK _ O;rw[zu]at hil
 let f:Nat->Value:=λk=>arr.getD (o+i*ty.size+k) undef
 have hf: ∀k,k<ty.size->cellAt w b o (i*ty.size+k)=some (f k):=λk hk=>by
  have hlt:o+i*ty.size+k<arr.size:=O;simp only[cellAt,World.cell?,e2,f];simp[<-Nat.add_assoc,Array.getD,hlt]
 obtain⟨p1,p2,p3,p4,p5⟩:=q4j (β:=β) (who:=who) (w:=w) (f:=f) hp (λk hk=>by
  have hk':k<(unpack ty xs[i]).length:=by simpa using hk
  have:=hu k hk';rw[hf k O]at this;rw[zD1];generalize (unpack ty xs[i])[k]=cc at this;cases cc with
  |int k x=>injection this with this
  |bool x=>injection this with this
  |sl o t xs=>trivial
  |_=>exact this.elim)
 simp only[zc1,hul]at p1
 have hrun:=Xk hti (b:=b) (o:=o+i*ty.size+j) (f:=λk=>f (j+k)) w (λk hk=>by
  have:=hf (j+k) O;simp only[cellAt]at this;rw[<-this,<-Nat.add_assoc,<-Nat.add_assoc]) p3
 refine⟨_,hrun,by simpa using p2,?_,?_⟩
 . rw[p4];exact Q9 λc hc=>(q45 (zT1 (zJ1 hc))).1
 . rw[p5];exact Q9 λc hc=>(q45 (zT1 (zJ1 hc))).2
def q9v {t:Nat} {ti:TI} (hti:TIok P t ti) {idx s n sz i j:Nat} {v:AV} {c:Value} (h:Run CO (takeDq idx ti s n sz i j (U.get s)) U v U' R W) (S:Sim E D β who U [] a w) (hx:PtrVal (β n) sz i j c)
 (hf: ∀k,k<16-> ¬D (fresh idx k)): ∃r β' who',(Instr.loadAt t c).run P w= .ok r w/\Sim E (Dn D idx) β' who' U' [(v,r)] a w:=by
 unfold takeDq at h;split at h
 case h_2=>exact(Run.fail' h).elim
 rename_i m ty xs hav;split at h
 case isFalse=>exact(Run.fail' h).elim
 rename_i hc;obtain⟨rfl,rfl,hc1,hagg⟩:=hc;have hdq:=S.dq hav;obtain⟨ad,cap,hl⟩:=hdq.len;rw[hdq.1]at hl;obtain⟨b,o,rfl,hi,rfl⟩:=hx.slice hl;have hx':xs.getD i ty.zero=xs[i]:=by simp[List.getD,List.getElem?_eq_getElem hi]
 rw[hx']at h;split at h
 case h_2=>exact(Run.fail' h).elim
 rename_i ow u ys hu;obtain⟨_,U2,_,_,_,_,h3,h4⟩:=Run.bind' h;have:=Run.mset' h3;subst this;obtain⟨rfl,rfl⟩:=Run.pure' h4;obtain⟨b',o',cap',cv,e1,e2,β',who',S'⟩:=S.takeDq (idx:=idx) hav hi hu hf;rw[hl]at e1;injection e1 with q1 _ q3
 injection q1 with q1;injection q1 with q1 q2 _
 subst q1 q2 q3
 have hrun:=Xk hti (b:=b) (o:=o+i*ty.size+j) (f:=λ_=>cv) w (λk hk=>by
  have hk0:k=0:=O;subst hk0;simp only[cellAt]at e2;rw[<-e2,zU,<-Nat.add_assoc]) (λ_=>hc1)
 rw[hagg]at hrun;exact⟨cv,β',who',by simpa using hrun,S'⟩
def q8z {t:Nat} {ti:TI} (hti:TIok P t ti) {s n sz i j:Nat} {v:AV} {c cv:Value} {u:Unit} (h:Run CO (qdb ti s n sz i j v (U.get s)) U u U' R W) (S:Sim E D β who U [(v,cv)] a w) (hx:PtrVal (β n) sz i j c):
 ∃w' who',(Instr.storeAt t c cv).run P w= .ok () w'/\Sim E D β who' U' [] a w':=by
 unfold qdb at h;split at h
 case h_2=>exact(Run.fail' h).elim
 rename_i m ty xs hh hav;split at h
 case isFalse=>exact(Run.fail' h).elim
 rename_i hc;obtain⟨rfl,rfl,hlen,hbare⟩:=hc;have hdq:=S.dq hav;obtain⟨ad,cap,hl⟩:=hdq.len;rw[hdq.1]at hl;obtain⟨b,o,rfl,hi,rfl⟩:=hx.slice hl;have hx':xs.getD i ty.zero=xs[i]:=by simp[List.getD,List.getElem?_eq_getElem hi]
 rw[hx']at h;obtain⟨x',hs,h⟩:=Run.ofOpt' h;have:=Run.mset' h;subst this;have hbc: ∀k (hk:k<(cellsOf v).length),qei (cellsOf v)[k]=true:=λk hk=>zX.1 hbare _ (zM hk)
 have hpl:(cellsOf v).all plainCell=true:=zX.2 λc hc=>by
  have:=zX.1 hbare c hc;cases c<;>first|rfl|cases this
 obtain⟨q1,q2,q3,q4⟩:=Y0 (S.hrel _ mS) hpl
 have hcase: ∀k (hk:k<(cellsOf v).length),(∃ik z,(cellsOf v)[k]= .int ik z/\cv.cells.toList[k]? =some (.int ik z))\/(∃y,(cellsOf v)[k]= .bool y/\cv.cells.toList[k]? =some (.bool y)):=by
  intro k hk;have h1:=hbc k hk;have h2:=q1.2 k hk;have hk2:k<cv.cells.size:=by rw[q1.1];exact hk
  have h3:cv.cells.toList[k]? =some (cv.cells.getD k undef):=by
   rw[Array.getElem?_toList,Array.getElem?_eq_getElem hk2];simp[Array.getD,hk2]
  rw[h3];generalize (cellsOf v)[k]=cc at h1 h2;cases cc with
  |int ik z=>exact .inl ⟨ik,z,rfl,congrArg some h2⟩
  |bool y=>exact .inr ⟨y,rfl,congrArg some h2⟩
  |_=>cases h1
 obtain⟨b',o',cap',arr,el,e1,e2,e3,e4,who',S'⟩:=S.writeDq (idx:=0) (cs:=cellsOf v) (vs:=cv.cells.toList) (h2:=hh) hav hi (by rw[zC1,q1.1]) hs (.inl ⟨(λx hx=>by rw[q2]at hx;cases hx),rfl,hcase⟩)
 rw[hl]at e1;injection e1 with p1 _ p3
 injection p1 with p1;injection p1 with p1 p2 _
 subst p1 p2 p3;have hrun:=Xz hti (c:=cv) (o:=o+i*ty.size+j) e2 (by rw[q1.1,hlen]) (by rw[zC1]at e3;exact e3) q4
 exact⟨_,who',hrun,S'⟩
def q9z {t:Nat} {ti:TI} (hti:TIok P t ti) {s n sz i j:Nat} {v:AV} {c cv:Value} {u:Unit} (h:Run CO (qiy ti s n sz i j v (U.get s)) U u U' R W) (S:Sim E D β who U [(v,cv)] a w) (hx:PtrVal (β n) sz i j c):
 ∃w' who',(Instr.storeAt t c cv).run P w= .ok () w'/\Sim E D β who' U' [] a w':=by
 unfold qiy at h;split at h
 case h_2=>exact(Run.fail' h).elim
 rename_i m ty xs q k ty' ys hav;split at h
 case isFalse=>exact(Run.fail' h).elim
 rename_i hc;obtain⟨rfl,rfl,hc1⟩:=hc;obtain⟨_,U1,_,_,_,_,h5,h6⟩:=Run.bind' h;obtain⟨rfl,rfl⟩:=Run.mask' h5;have hdq:=S.dq hav;obtain⟨ad,cap,hl⟩:=hdq.len;rw[hdq.1]at hl;obtain⟨b,o,rfl,hi,rfl⟩:=hx.slice hl;have hx':xs.getD i ty.zero=xs[i]:=by simp[List.getD,List.getElem?_eq_getElem hi]
 rw[hx']at h6;obtain⟨x',hs,h6⟩:=Run.ofOpt' h6;have:=Run.mset' h6;subst this;obtain⟨b',o',cap',arr,el,e1,e2,e3,e4,who',S'⟩:=S.writeDq (idx:=0) (cs:=[.sl (.nm k) ty' ys]) (vs:=[cv]) (h2:=none) hav hi rfl hs (.inr ⟨k,ty',ys,rfl,rfl,rfl,rfl,rfl⟩);rw[hl]at e1;injection e1 with p1 _ p3
 injection p1 with p1;injection p1 with p1 p2 _
 subst p1 p2 p3;have hone:cv.oneCell'=true:=Za (β:=β) (who:=who) (w:=w) (c:= .sl (.nm k) ty' ys) (S.hrel _ mS) (by simp)
 have hcs:cv.cells= #[cv]:=Xh hone;have hrun:=Xz hti (c:=cv) (o:=o+i*ty.size+j) e2 (by rw[hcs,hc1];rfl) (by rw[hcs];exact e3) (by rw[hcs];simpa using hone)
 rw[hcs]at hrun;exact⟨_,who',hrun,S'⟩
def qb6 {t:Nat} {ti:TI} (hti:TIok P t ti) {s n sz:Nat} {v:AV} {c:Value} (h:Run CO (qil ti s n (U.get s)) U v U' R W) (S:Sim E D β who U [] a w) (hx:PtrVal (β n) sz 0 0 c):
 ∃r,(Instr.loadAt t c).run P w= .ok r w/\Sim E D β who U' [(v,r)] a w:=by
 unfold qil at h;split at h
 case h_2=>exact(Run.fail' h).elim
 rename_i m cells hav;split at h
 case isFalse=>exact(Run.fail' h).elim
 rename_i hc;obtain⟨rfl,hlen⟩:=hc;obtain⟨_,U2,_,_,_,_,h3,h4⟩:=Run.bind' h;obtain⟨v',hk,rfl⟩:=Run.mupd' h3;obtain⟨hv,rfl⟩:=Run.mopt' h4
 have hv':v'= .bx (.nm m) (cells.map Jr):=by
  rw[hav]at hk;unfold qen at hk;simp only[iP]at hk;injection hk with hk;exact hk.symm
 subst hv'
 have hls:Zw ti.cells.length (Q8 ti.desc) 1 s m sz 0 0 (U.get s)=some (v,some (.bx (.nm m) (Xi cells 0 ti.cells.length))):=by
  have hp:partOf ti.cells.length (Q8 ti.desc) cells 0=some v:=by
   unfold partOf;rw[iP O,zh1,zr1 O];exact hv
  unfold Zw;rw[hav];simp only[iP,hp,zj1]
 have hrun: ∃R W,Run CO (q38 1 ti s m sz 0 0) U v (U.set s (.bx (.nm m) (Xi cells 0 ti.cells.length))) R W:=by
  obtain⟨k,hk⟩: ∃k:AV->M AV,k=λa=>match Zw ti.cells.length (Q8 ti.desc) 1 s m sz 0 0 a with
   |some (v,none)=>pure v
   |some (v,some a')=>do mset s a';pure v
   |none=> .fail:=⟨_,rfl⟩
  have h0:q38 1 ti s m sz 0 0=M.get s k:=by rw[hk];rfl
  have h1:k (U.get s)=M.set s (.bx (.nm m) (Xi cells 0 ti.cells.length)) (.ret v):=by rw[hk];simp only[hls];rfl
  rw[h0];exact⟨_,_,Run.get (by rw[h1];exact Run.set Run.ret)⟩
 obtain⟨R',W',hrun⟩:=hrun;obtain⟨r,g1,g2⟩:=Yf hti S hx hrun;refine⟨r,g1,?_⟩;have hb:=S.rel s;rw[hav]at hb;obtain⟨hβ,b,arr,el,e1,e2,e3,e4⟩:=hb
 have hnk: ∀c,qf (Jr c)=[]:=by
  intro c;unfold Jr;split
  . rename_i h;exact List.isEmpty_iff.1 h
  . rfl
 have hfm:(cells.map Jr).flatMap qf=[]:=Q9 λc hc=>by
  obtain⟨d,_,rfl⟩:=zQ.1 hc;exact hnk d
 have S3:=g2.abs (s:=s) (v:= .bx (.nm m) (cells.map Jr)) ⟨hβ,b,arr,el,e1,e2,e3,by rw[zc1];exact e4.1,λj hj=>by
  have hj':j<cells.length:=by simpa using hj
  rw[zD1];unfold Jr;split
  . exact e4.2 j hj'
  . trivial⟩
  (fun x hx=>by
    rw[qg];simp only[names,qh,hfm,zA]at hx;subst hx;simp[names,qh])
  (by simp[names,qh,hfm])
  (fun x hx=>S.occ s x (by
    rw[hav];simp only[Vs.occ,occA,zO,zC,zQ]at hx⊢;rcases hx with hx|⟨c,⟨d,hd,rfl⟩,hx⟩
    . exact .inl hx
    . refine .inr ⟨d,hd,?_⟩;unfold Jr at hx;split at hx
      . exact hx
      . cases hx))
 refine S3.ext λs'=> ?_
 by_cases e:s'=s
 . subst e;rw[qg,qg]
 . rw[qc _ _ e,qc _ _ e,qc _ _ e]
def op_dq (hT:TTok P T) {idx mode:Nat} {o:Oper} {v:AV} (h:Run CO (opDq T idx mode o) U v U' R W) (S:Sim E D β who U [] a w)
 (hf: ∀k,k<16-> ¬D (fresh idx k)):OpOut P E D idx U' v a ((execOp a.eval o).run P w):=by
 unfold opDq at h;cases ho:o.op with
 |assign x=>
  simp only[ho]at h;cases x with
  |const c=>
   simp only at h;obtain⟨g1,g2,g3⟩:=q00 (β:=β) (who:=who) (w:=w) c;have S1:=(S.take0 g1 g2 (λn hn=>by rw[g3]at hn;cases hn)).fix (t:=o.type) hT
   split at h
   . rename_i t xs he;rw[he]at S1;have hn:Rel β who w (.sl .nl t xs) c:=S1.hrel _ mS;obtain⟨hc,rfl⟩:=hn;obtain⟨rfl,rfl⟩:=Run.pure' h;obtain⟨β',S3⟩:=S1.newNilDq (t:=t) (hf 0 O) (D':=Dn D idx) (λn h=> .inl h) (dn15 O) (Dn_fn S1.dfn)
     rw[show nilS=a.eval (.const c)from hc.symm]at S3
     exact⟨_,w,β',who,.inl (by unfold execOp;simp only[ho];rfl),S3⟩
   . exact(Run.fail' h).elim
  |_=>exact(Run.fail' h).elim
 |buildSlice t n ps=>
  simp only[ho]at h;split at h
  . rename_i x hps;split at h
    . rename_i hn;subst hn;obtain⟨u,U1,_,_,_,_,h1,h2⟩:=Run.bind' h;have S1:=Run.rdT h1 S;unfold qh3 at h2;split at h2
      . rename_i e ty zcs cells ht;split at h2
        . rename_i hc;split at h2
          . rename_i y hy;obtain⟨rfl,rfl⟩:=Run.pure' h2;obtain⟨r,w1,β',who',g1,g2⟩:=qb8 hT ht S1 hf hc.1 hc.2.2 hy;obtain rfl:ps= #[(0,x)]:=by grind
            exact⟨r,w1,β',who',.inl (by unfold execOp;simp_all),g2⟩
          . exact(Run.fail' h2).elim
        . exact(Run.fail' h2).elim
      . exact(Run.fail' h2).elim
    . exact(Run.fail' h).elim
  . exact(Run.fail' h).elim
 |load t p=>
  simp only[ho]at h;obtain⟨u,U1,_,_,_,_,h1,h2⟩:=Run.bind' h;obtain⟨rfl,S1⟩:=Run.rd h1 S;split at h2
  . rename_i ti s n sz i j hti;obtain⟨b,U2,_,_,_,_,h3,h4⟩:=Run.bind' h2;obtain⟨rfl,rfl⟩:=Run.mget' h3;have hx:PtrVal (β n) sz i j (a.eval p):=S1.hrel _ mS;split at h4
    . obtain⟨r,β',who',g1,g2⟩:=q9v (hT t _ hti) h4 S hx hf;exact⟨r,w,β',who',.inl (by unfold execOp;simp_all),g2⟩
    . split at h4
      . split at h4
        . rename_i hij;obtain⟨rfl,rfl⟩:=hij;obtain⟨r,g1,g2⟩:=qb6 (hT t _ hti) h4 S hx;exact OpOut.same (by unfold execOp;simp_all) g2
        . exact(Run.fail' h4).elim
      obtain⟨rfl,r,g1,g2,g3,g4⟩:=q9r (hT t _ hti) h4 S hx;exact OpOut.same (by unfold execOp;simp_all) (S.take0 g2 g3 (λn hn=>by rw[g4]at hn;cases hn))
  . exact(Run.fail' h2).elim
 |store t p x=>
  simp only[ho]at h;obtain⟨u,U1,_,_,_,_,h1,h2⟩:=Run.bind' h;have S1:=Run.rdT h1 S;obtain⟨q,U2,_,_,_,_,h3,h4⟩:=Run.bind' h2;obtain⟨rfl,S2⟩:=Run.rd h3 S1;split at h4
  . rename_i ti s n sz i j hti;obtain⟨b,U3,_,_,_,_,h5,h6⟩:=Run.bind' h4;obtain⟨rfl,rfl⟩:=Run.mget' h5;have hx:PtrVal (β n) sz i j (a.eval p):=S2.hrel _ mS;split at h6
    . obtain⟨_,U4,_,_,_,_,h7,h8⟩:=Run.bind' h6;obtain⟨rfl,rfl⟩:=Run.pure' h8;obtain⟨w1,who',g1,g2⟩:=q9z (hT t _ hti) h7 S1 hx;exact⟨undef,w1,β,who',.inr ⟨by unfold execOp;simp_all,rfl⟩,(g2.mono (λn h=> .inl h) (Dn_fn g2.dfn)).take_dead⟩
    . obtain⟨_,U4,_,_,_,_,h7,h8⟩:=Run.bind' h6;obtain⟨rfl,rfl⟩:=Run.pure' h8;obtain⟨w1,who',g1,g2⟩:=q8z (hT t _ hti) h7 S1 hx;exact⟨undef,w1,β,who',.inr ⟨by unfold execOp;simp_all,rfl⟩,(g2.mono (λn h=> .inl h) (Dn_fn g2.dfn)).take_dead⟩
  . exact(Run.fail' h4).elim
 |indexAddr t x i=>
  simp only[ho]at h;obtain⟨av,U1,_,_,_,_,h1,h2⟩:=Run.bind' h;obtain⟨rfl,S1⟩:=Run.rd h1 S;obtain⟨q,U2,_,_,_,_,h3,h4⟩:=Run.bind' h2;obtain⟨rfl,S2⟩:=Run.rd h3 S;split at h4
  case h_2=>exact(Run.fail' h4).elim
  rename_i s n sz;have hrv:a.eval x=β n/\_:=S1.hrel _ mS;obtain⟨b,U1,_,_,_,_,h5,h6⟩:=Run.bind' h4;obtain⟨rfl,rfl⟩:=Run.mget' h5;unfold qik at h6;split at h6
  . rename_i e ety cells m ty xs hh kk ii hti hav;have hci:a.eval i= .int kk ii:=S2.hrel _ mS;split at h6
    . rename_i hsz;obtain⟨rfl,hsz⟩:=hsz;obtain⟨_,U3,_,_,_,_,h7,h8⟩:=Run.bind' h6;obtain⟨⟨m0,m1⟩,rfl⟩:=Run.mask' h7;obtain⟨rfl,rfl⟩:=Run.pure' h8;obtain⟨hu,⟨ei,ez,he,hes,_⟩⟩:=(hT t _ hti).desc;have hdq:=S.dq hav;obtain⟨g0,b,o',cap,arr,el,e1,e2,e3,e4,e5,e6,e7⟩:=hdq.pos (Q7 (i:=ii.toNat) O);have hev:a.eval x= .slice (some ⟨b,o',none⟩) xs.length cap:=by rw[hrv.1,<-g0];exact e1
      have hrun:=run_indexAt hu he b o' xs.length cap kk ii m0 m1 w;refine OpOut.same (c:= .pointer (some ⟨b,o'+ii.toNat*ei.size,none⟩)) (by unfold execOp;simp_all) (S.take0 (v:= .ptr s m ty.size ii.toNat 0) (.inl ⟨b,o',xs.length,cap,by rw[<-g0];exact e1,O,by rw[hes,hsz,zU]⟩) rfl (λm hm=> ?_))
      simp only[Vs.occ,occA,occC,zA]at hm;subst hm;exact S.occ s m (by rw[hav];simp[Vs.occ,occA,occC])
    . exact(Run.fail' h6).elim
  . exact(Run.fail' h6).elim
 |call c=>
  obtain⟨callee,args,tys⟩:=c;simp only[ho]at h;split at h
  . split at h
    . rename_i x t hargs ht;have hargs':args= #[x]:=by apply Array.ext';simpa using hargs
      subst hargs';obtain⟨av,U1,_,_,_,_,h1,h2⟩:=Run.bind' h;obtain⟨rfl,S1⟩:=Run.rd h1 S;split at h2
      case h_2=>exact(Run.fail' h2).elim
      rename_i s n sz;have hrv:a.eval x=β n/\_:=S1.hrel _ mS;obtain⟨b,U1,_,_,_,_,h5,h6⟩:=Run.bind' h2;obtain⟨rfl,rfl⟩:=Run.mget' h5;unfold lenDq at h6;split at h6
      . rename_i e ety cells m ty xs hh hti hav;split at h6
        . rename_i hmn;subst hmn;obtain⟨rfl,rfl⟩:=Run.pure' h6;have hu:=(hT t _ hti).desc.1;obtain⟨ad,cap,hl⟩:=(S.dq hav).len;have hev:a.eval x= .slice ad xs.length cap:=by rw[hrv.1,<-(S.dq hav).1];exact hl
          have hlen:(Builtin.len_ tys o.type #[a.eval x]).run P w= .ok (.int .i64 xs.length) w:=by
           rw[hev];have ht':tys[0]? =some t:=ht;simp[Builtin.len_,ht',run_underlying hu,goInt]
          exact OpOut.same (c:= .int .i64 xs.length) (by
           unfold execOp;simp only[ho,resolve,Sem.run_bind,Sem.run_pure,Result.andThen_ok,invoke,builtin];simp_all) (S.take0 (v:= .int .i64 xs.length) rfl rfl (λn hn=>by cases hn))
        . exact(Run.fail' h6).elim
      . exact(Run.fail' h6).elim
    . exact(Run.fail' h).elim
  . split at h
    . rename_i x y hargs;have hargs':args= #[x,y]:=by apply Array.ext';simpa using hargs
      subst hargs';obtain⟨u,U1,_,_,_,_,h1,h2⟩:=Run.bind' h;have S1:=Run.rdT h1 S;obtain⟨q,U2,_,_,_,_,h3,h4⟩:=Run.bind' h2;have S2:=Run.rdT h3 S1;unfold qep at h4;split at h4
      . rename_i t0 t1 hq0 hq1;split at h4
        . rename_i ht0 ht1;split at h4
          . rename_i n t xs m t' ys;split at h4
            . rename_i e0;obtain⟨e0,hsz⟩:=e0;subst e0;obtain⟨_,U1,_,_,_,_,q3,q4⟩:=Run.bind' h4;obtain⟨⟨hpos,hlen⟩,rfl⟩:=Run.mask' q3;obtain⟨rfl,rfl⟩:=Run.pure' q4;obtain⟨r,w1,β',who',g1,g2⟩:=q9b (rt:=o.type) hT hq0 hq1 ht0 ht1 hsz S2 hpos hlen hf
              exact⟨r,w1,β',who',.inl (by
               unfold execOp;simp only[ho,resolve,Sem.run_bind,Sem.run_pure,Result.andThen_ok,invoke,builtin];simp_all),g2⟩
            . exact(Run.fail' h4).elim
          . exact(Run.fail' h4).elim
        . exact(Run.fail' h4).elim
      . exact(Run.fail' h4).elim
    . exact(Run.fail' h).elim
  . exact(Run.fail' h).elim
 |_=>simp only[ho]at h;exact(Run.fail' h).elim
end
section
variable {P:Program} {CO:qw} {T:TT} {E:Entry} {D:Nat->Prop} {β:Beta} {who:Who} {U U':Slots} {hd:List (AV×Value)} {a:Act} {w w':World} {R W:List Nat}
def Sim.lay {v:AV} {c:Value} (S:Sim E D β who U [(v,c)] a w) {p:Nat} (hc:a.tmps.getD p undef=c):Sim E D β who (U.set p v) [] a w:=by
 have hr:=S.hrel _ mS;have hn:(names v).Nodup:=by simpa using S.hnod
 have hd:=S.hdis _ mS;have ho:=S.hocc _ mS;have S1:=((S.drop rfl).abs (s:=p) (v:= .dead) trivial (λn h=>by simp[names,qh,qf]at h) (by simp[names,qh,qf]) (λn h=>by simp[Vs.occ,occA,occC]at h))
 have S2:=S1.recast (s:=p) (v:=v) (qg ..) (by rw[hc];exact hr) hn (λn h t ht=>by
  by_cases e:t=p
  . subst e;rw[qg]at ht;simp[names,qh,qf]at ht
  . rw[qc _ _ e]at ht;exact hd n h t ht) ho
 refine S2.ext λs'=> ?_
 by_cases e:s'=p
 . subst e;rw[qg,qg]
 . rw[qc _ _ e,qc _ _ e,qc _ _ e]
def qjk {b v:Value} {kd:DK} (h:isWh kd=true) (hv:DrVal b kd v):DrVal b .whole v:=by
 cases kd with
 |whole=>exact hv
 |lenw l=>
  obtain⟨e,h⟩:=hv;refine⟨e,?_⟩;rcases h with⟨h,_⟩|⟨x,o,c,h⟩<;>exact⟨_,_,_,by rw[<-e,h]⟩
 |_=>cases h
def qfm (hT:TTok P T) {idx p q:Nat} {o:Oper} {v:AV} (h:Run CO (swapM T idx p q o) U v U' R W) (S:Sim E D β who U [] a w)
 (hf: ∀k,k<16-> ¬D (fresh idx k)):OpOut P E D idx U' v a ((execOp a.eval o).run P w):=by
 unfold swapM at h;split at h
 case h_2=>exact(Run.fail' h).elim
 rename_i t x y ho;obtain⟨av,U1,_,_,_,_,h1,h2⟩:=Run.bind' h;obtain⟨hx,rfl⟩:=Run.mget' h1;clear h1;obtain⟨bv,U1,_,_,_,_,h1,h3⟩:=Run.bind' h2;obtain⟨hy,rfl⟩:=Run.mget' h1;clear h1;obtain⟨cv,U1,_,_,_,_,h1,h4⟩:=Run.bind' h3;obtain⟨hp,rfl⟩:=Run.mget' h1;clear h1;obtain⟨dv,U1,_,_,_,_,h1,h5⟩:=Run.bind' h4;obtain⟨hq,rfl⟩:=Run.mget' h1;clear h1;obtain⟨tv,hti'⟩: ∃tv,T.at t=tv:=⟨_,rfl⟩;rw[hti']at h5;clear h h2 h3 h4;split at h5
 case h_2=>exact(Run.fail' h5).elim
 rename_i desc c0 s n i s1 n1 j s2 n2 i2 s3 n3 kd;split at h5
 case isFalse=>exact(Run.fail' h5).elim
 rename_i hc;obtain⟨rfl,rfl,rfl,rfl,rfl,rfl,hwh⟩:=hc;obtain⟨ev,U1,_,_,_,_,h1,h6⟩:=Run.bind' h5;obtain⟨hav,rfl⟩:=Run.mget' h1;split at h6
 case h_2=>exact(Run.fail' h6).elim
 rename_i n' ty xs loc hd;rw[hav]at hd;obtain⟨_,U1,_,_,_,_,h1,h7⟩:=Run.bind' h6;obtain⟨⟨rfl,hij⟩,rfl⟩:=Run.mask' h1;obtain⟨_,U1,_,_,_,_,h1,h8⟩:=Run.bind' h7;obtain⟨v',hk,rfl⟩:=Run.mupd' h1;obtain⟨_,U1,_,_,_,_,h1,h9⟩:=Run.bind' h8;have:=Run.mset' h1;subst this;obtain⟨_,U1,_,_,_,_,h1,h10⟩:=Run.bind' h9;have:=Run.mset' h1;subst this;obtain⟨rfl,rfl⟩:=Run.pure' h10;obtain⟨d',hd',rfl⟩:=q09 hd hk;simp only[Vs.moveDp,zS]at hd';subst hd';obtain⟨rfl,⟨v0,hdp⟩,_⟩:=S.dpA hd;have hti:=hT t _ hti';have rx:=S.rel x;rw[<-hx]at rx;obtain⟨b,o',L,cap,hb,hi,rx⟩:=(rx:DrVal (β n') (.cell _) _);have ry:=S.rel y;rw[<-hy]at ry;obtain⟨ry,⟨ja,jl,jc,hjs⟩,a1,L1,c1,hb2,hj⟩:=(ry:DrVal (β n') (.row _) _);have rp:=S.rel p;rw[<-hp]at rp;obtain⟨rp,_,_⟩:=(rp:DrVal (β n') (.row _) _);have rq:=S.rel q;rw[<-hq]at rq;obtain⟨rq,a2,L2,c2,hb3⟩:=qjk hwh (rq:DrVal (β n') kd _);obtain⟨ad1,cap1,hb1⟩:=hdp.base;have hil:i2<xs.length:=by rw[hb1]at hb;injection hb with _ q _;omega
 have hjl:j<xs.length:=by rw[hb1]at hb2;injection hb2 with _ q _;omega
 have hxi:xs.getD i2 []=xs[i2]:=by simp[List.getD,List.getElem?_eq_getElem hil]
 have hxj:xs.getD j []=xs[j]:=by simp[List.getD,List.getElem?_eq_getElem hjl]
 obtain⟨E',a',g,U1,S1,hg,hcl⟩:=S.openDp hd;obtain⟨b',o1,L',cap',arr,el,g1,g2,g3,g4,β',who',g5,g6,S'⟩:=S1.moveDp (idx:=idx) hg hil hjl hij hf;rw[hb]at g1;injection g1 with g1 _ _;injection g1 with g1;injection g1 with g1 g1' _
 subst g1 g1';have hone:(dpv (β n') (j+1)).oneCell'=true:=by rw[hjs];rfl
 have hc1:(dpv (β n') (j+1)).cells.toList=[dpv (β n') (j+1)]:=by rw[Xh hone]
 have hsz1:(dpv (β n') (j+1)).cells.size=1:=by rw[Xh hone];rfl
 have hrun:=Xz hti (c:=dpv (β n') (j+1)) (o:=o'+i2) g2 (by rw[hsz1];rfl) (by rw[hsz1];exact g3) (by grind)
 rw[hc1]at hrun;have S2:=hcl _ _ _ _ _ _ _ _ _ (λb1 hb1=>setRow_other w b b1 _ (by rintro rfl;exact hb1 g4)) S'
 rw[hxi,hxj];have S3:=S2.lay (p:=p) rp;have hqD:Dn D idx (fresh idx 15):= .inr ⟨15,O,rfl⟩
 have S4:=S3.abs (s:=q) (v:= .dr s3 (fresh idx 15) .whole) (⟨by rw[g6];exact rq,by rw[g6];exact⟨_,_,_,hb3⟩⟩:DrVal (β' (fresh idx 15)) .whole _)
  (fun n h=>by simp[names,qh,qf]at h) (by simp[names,qh,qf]) (λn h=>by
    simp only[Vs.occ,occA,occC,zA]at h;subst h;exact hqD)
 refine⟨undef,_,β',who',.inr ⟨?_,rfl⟩,S4.take_dead⟩;unfold execOp;have e1:a.eval (.tmp x)= .pointer (some ⟨b,o'+i2,none⟩):=rx;have e2:a.eval (.tmp y)=dpv (β n') (j+1):=ry;simp_all
end
def Fr (who who':Who):Prop:= ∀b,who' b=who b\/who' b=none
def Fr.refl (who:Who):Fr who who:=λ_=> .inl rfl
def Fr.trans {a b c:Who} (h:Fr a b) (h':Fr b c):Fr a c:=λx=>by
 rcases h' x with h1|h1
 . rcases h x with h2|h2
   . exact .inl (by rw[h1,h2])
   grind
 . exact .inr h1
def KeepBx (U U':Slots):Prop:= ∀s,U'.get s=U.get s\/names (U'.get s)=[]
def KeepBx.refl (U:Slots):KeepBx U U:=λ_=> .inl rfl
def KeepBx.trans {U U1 U2:Slots} (h:KeepBx U U1) (h':KeepBx U1 U2):KeepBx U U2:=λs=>by
 rcases h' s with e|e
 . rw[e];exact h s
 . exact .inr e
section
variable {P:Program} {CO:qw} {T:TT} {E:Entry} {D:Nat->Prop} {β:Beta} {who:Who} {U U':Slots} {hd:List (AV×Value)} {a:Act} {w w':World} {R W:List Nat}
def Sim.freezeFr (S:Sim E D β who U hd a w) (t:Nat) (hb: ∀o cs,U.get t≠ .bx o cs) (ht: ∀vs,U.get t≠ .tup vs):
 ∃who',Fr who who'/\Sim E D β who' (U.set t (Vs.freeze (U.get t))) ((Vs.freeze (U.get t),a.tmps.getD t undef)::hd) a w:=by
 refine⟨unown who (names (U.get t)),λb=> ?_,?_⟩
 . cases h:who b with
   |none=>exact .inr (Y3 h)
   |some n=>
    by_cases hn:n∈names (U.get t)
    . exact .inr (Jz h hn)
    . exact .inl (Zm h hn)
 have hf:=q7s (ns:=names (U.get t)) (S.rel t) (λn h=>h) hb ht
 have hn:=Yu hb ht
 have S1:Sim E D β (unown who (names (U.get t))) (U.set t .dead) hd a w:=by
  have S0:=(S.takeAll t).drop rfl
  refine S0.world (λs=> ?_) (λx hx=> ?_) (λb n hb=>S.wsz b n (Y8 hb)) (zD _) (λ_ _ _=>rfl) (λb n hb=>S.fr1 b n (Y8 hb))
   (λb hb=>Zm (S.fr3 b hb) (λh=>S.dfn (S.occ t _ (qi h))))
  . refine(S0.rel s).keep (Keeps.unown λn h h'=> ?_)
    by_cases e:s=t
    . subst e;rw[qg]at h;simp[names,qh,qf]at h
    . rw[qc _ _ e]at h;exact e (S.dis s t n h h')
  . exact(S0.hrel x hx).keep (Keeps.unown λn h h'=>S.hdis x hx n h t h')
 have S2:=S1.abs (s:=t) (v:=Vs.freeze (U.get t)) hf (λn h=>by rw[hn]at h;cases h) (by grind) (λn h=>S.occ t n (q0t h))
 have S3:=S2.take0 hf hn (λn h=>S.occ t n (q0t h))
 refine S3.ext λs=> ?_
 by_cases e:s=t
 . subst e;rw[qg,qg]
 . rw[qc _ _ e,qc _ _ e,qc _ _ e]
def Run.rdFFr {x:Operand} {v:AV} (h:Run CO (Vs.rdF x) U v U' R W) (S:Sim E D β who U hd a w):
 names v=[]/\(∀o cs,v≠ .bx o cs)/\KeepBx U U'/\ ∃who',Fr who who'/\Sim E D β who' U' ((v,a.eval x)::hd) a w:=by
 cases x with
 |tmp t=>
  obtain⟨av,U1,_,_,_,_,h1,h2⟩:=Run.bind' h;obtain⟨rfl,rfl⟩:=Run.mget' h1;split at h2
  . exact(Run.fail' h2).elim
  . exact(Run.fail' h2).elim
  . exact(Run.fail' h2).elim
  . exact(Run.fail' h2).elim
  . exact(Run.fail' h2).elim
  . exact(Run.fail' h2).elim
  . exact(Run.fail' h2).elim
  . rename_i g1 g2 g3 g4 g5 g6 g7;split at h2
    . obtain⟨_,U2,_,_,_,_,h3,h4⟩:=Run.bind' h2;have:=Run.mset' h3;subst this;obtain⟨rfl,rfl⟩:=Run.pure' h4;have hb: ∀o cs,U1.get t≠ .bx o cs:=λo cs e=>g3 o cs e
      refine⟨Yu hb g2,?_,?_,S.freezeFr t hb g2⟩
      . intro o cs e;have hb':=hb;cases hav:U1.get t with
        |bx o' cs'=>exact hb o' cs' hav
        |sl o' t' xs=>rw[hav]at e;cases o'<;>cases e
        |agg cells=>rw[hav]at e;cases e
        |dp n t xs hh=>rw[hav]at e;cases hh<;>cases e
        |dq n t xs hh=>rw[hav]at e;cases hh<;>cases e
        |fd n t xs hh=>rw[hav]at e;cases e
        |_=>rw[hav]at e;cases e
      . intro s;by_cases e:s=t
        . subst e;rw[qg];exact .inr (Yu hb g2)
        . rw[qc _ _ e];exact .inl rfl
    . rename_i hno;obtain⟨rfl,rfl⟩:=Run.pure' h2;exact⟨X0 hno,g3,KeepBx.refl _,who,Fr.refl _,S.take0 (S.rel t) (X0 hno) (S.occ t)⟩
 |const u=>
  obtain⟨rfl,rfl⟩:=Run.pure' h;obtain⟨g1,g2,g3⟩:=q00 (β:=β) (who:=who) (w:=w) u;refine⟨g2,?_,KeepBx.refl _,who,Fr.refl _,S.take0 g1 g2 (λn hn=>by rw[g3]at hn;cases hn)⟩
  intro o cs e;cases u<;>cases e
 |global g=>exact(Run.fail' h).elim
 |func f=>
  obtain⟨rfl,rfl⟩:=Run.pure' h;exact⟨rfl,(λo cs e=>by cases e),KeepBx.refl _,who,Fr.refl _,S.take0 (v:= .lit (.func (.func f) #[] #[])) ⟨rfl,rfl⟩ rfl (λn hn=>by cases hn)⟩
def Run.rdP {x:Operand} {v:AV} (h:Run CO (Vs.rdP x) U v U' R W) (S:Sim E D β who U hd a w):
 names v=[]/\(∀o cs,v≠ .bx o cs)/\KeepBx U U'/\ ∃who',Fr who who'/\Sim E D β who' U' ((v,a.eval x)::hd) a w:=by
 cases x with
 |tmp t=>
  obtain⟨av,U1,_,_,_,_,h1,h2⟩:=Run.bind' h;obtain⟨rfl,rfl⟩:=Run.mget' h1;split at h2
  . rename_i n cells hg;obtain⟨rfl,rfl⟩:=Run.pure' h2;have hal:alias t (U'.get t)=some (.ptr t n 1 0 0):=by rw[hg];rfl
    obtain⟨g1,g2,g3⟩:=q6c hal (S.rel t);exact⟨g2,(λo cs e=>by cases e),KeepBx.refl _,who,Fr.refl _,S.take0 g1 g2 (λn hn=>S.occ t n (g3 n hn))⟩
  . exact Run.rdFFr h2 S
 |const u=>exact Run.rdFFr (x:= .const u) h S
 |global g=>exact Run.rdFFr (x:= .global g) h S
 |func f=>exact Run.rdFFr (x:= .func f) h S
def PureIn (who:Who) (rn:List Nat) (who':Who):Prop:=(∀b,who b=none->who' b=none)/\ ∀b n,who b=some n->n∈rn->who' b=none
def PureC (who:Who) (w:World) (rn:List Nat) (c:AV) (u:Value):Prop:= ∀β' who',PureIn who rn who'->RelC β' who' w c u
def qlk (who:Who) (w:World) (rn:List Nat) (c:AV) (u:Value):Prop:= ∀β' who',PureIn who rn who'->Rel β' who' w c u
def PureIn.sub {rn rn':List Nat} {who':Who} (h:PureIn who rn' who') (hs: ∀n∈rn,n∈rn'):PureIn who rn who':=
 ⟨h.1,λb n hb hn=>h.2 b n hb (hs n hn)⟩
def PureIn.fr {rn:List Nat} {who1 who':Who} (h:PureIn who1 rn who') (hf:Fr who who1):PureIn who rn who':=by
 refine⟨λb hb=> ?_,λb n hb hn=> ?_⟩
 . rcases hf b with e|e
   . exact h.1 b (by rw[e,hb])
   . exact h.1 b e
 . rcases hf b with e|e
   . exact h.2 b n (by rw[e,hb]) hn
   . exact h.1 b e
def SlI.blk {t:Ty} {xs:List (Den t)} {v:Value} (h:SlI who w t xs v): ∀b l c,v= .slice (some b) l c->who b.block=none:=by
 rintro b l c rfl
 rcases h with⟨h,_⟩|⟨b',o,cap,e,h1,_⟩
 . cases h
 . cases e;exact h1
def SlS.slI {t:Ty} {xs:List (Den t)} {v:Value} (h:SlS who w t xs v) (hb: ∀b l c,v= .slice (some b) l c->who b.block=none):SlI who w t xs v:=by
 rcases h with h|⟨b,o,cap,e,h1,h2,h3⟩
 . exact .inl h
 . exact .inr ⟨b,o,cap,e,hb _ _ _ e,h1,h2,h3⟩
def SlI.window {t:Ty} {xs:List (Den t)} {base v:Value} {win:Option (Nat×Nat)} (h:SlI who w t xs base) (hv:Jg base t.size win v):
 SlI who w t (Vs.window xs win) v:=by
 refine(SlS.window h.sls hv).1.slI λb l c e=> ?_
 cases win with
 |none=>obtain⟨rfl,_⟩:=hv;exact h.blk b l c e
 |some ol=>
  obtain⟨off,len⟩:=ol;obtain⟨ad,L,cap,a',e1,e2,e3,e4,e5,-⟩:=hv;rw[e3]at e;injection e with g1 g2 g3
  subst g1;cases ad with
  |none=>simp at e5
  |some x=>
   simp at e5;rw[e5.1];exact h.blk x L cap e1
def RelN.slI {n:Nat} {t:Ty} {xs:List (Den t)} {v:Value} {who':Who} (h:RelN β who w n t xs v) (h1: ∀b,who b=none->who' b=none) (h2: ∀b,who b=some n->who' b=none):SlI who' w t xs v:=by
 obtain⟨_,h⟩:=h;rcases h with h|⟨b,o,cap,arr,el,e1,e2,e3,e4,e5,e6⟩
 . exact .inl h
 . exact .inr ⟨b,o,cap,e1,h2 b e5,Yo e2,e4,Elems.keep (λb hb _=>⟨h1 b hb,rfl⟩) (zD _) rfl e6⟩
def Run.passC {c c':AV} {u:Value} (h:Run CO (Vs.passC c) U c' U' R W) (S:Sim E D β who U hd a w) (hc:RelC β who w c u):
 U'=U/\Xm c'=true/\qf c'=[]/\(∀β' who',RelC β' who' w c' u->Rel β' who' w c' u)/\
 noRef c'=true/\names c'=[]/\PureC who w (refC c) c' u/\ ∀n∈refC c,n≠FN:=by
 have key: ∀{s n:Nat},Run CO (passW s n) U c' U' R W->u=dpv (β n) 0->refC c=[n]->U'=U/\Xm c'=true/\qf c'=[]/\(∀β' who',RelC β' who' w c' u->Rel β' who' w c' u)/\
  noRef c'=true/\names c'=[]/\PureC who w (refC c) c' u/\ ∀n∈refC c,n≠FN:=by
  intro s n h k1 hrc;rw[hrc];obtain⟨av,U1,_,_,_,_,h1,h2⟩:=Run.bind' h;obtain⟨hav,rfl⟩:=Run.mget' h1;split at h2
  . rename_i m t xs loc hd;rw[hav]at hd;obtain⟨hmn,⟨v0,hdp⟩,hin⟩:=S.dpA hd
    . subst hmn;obtain⟨rfl,rfl⟩:=Run.pure' h2;refine⟨rfl,rfl,rfl,λ_ _ h=>h,rfl,rfl,λβ' who' hp=> ?_,λx hx=> ?_⟩
      . obtain⟨hv,hd2⟩:=hdp;rw[k1,<-hv];rcases hd2 with⟨e0,rfl⟩|⟨b0,o0,cap1,arr0,el0,e0,e1,e2,e3,e4,hall,_⟩
        . exact .inl ⟨e0,rfl⟩
        refine .inr ⟨b0,o0,cap1,e0,hp.2 b0 m e4 (by simp),Yo e1,e3,λi hi=> ?_⟩
        obtain⟨c1,c2⟩:=hall i hi (by simp)
        refine⟨dpv (β m) (i+1),?_,?_⟩
        . have e:cellAt w b0 (o0+i*(Ty.sl false t).size) 0=cellAt w b0 o0 i:=by
           unfold cellAt;simp[Ty.size]
          rw[e];exact c1
        . rcases c2 with hI|⟨bi,oi,ci,arr,el,q1,q2,q3,q4,q5,q6,q7⟩
          . exact .inl hI
          . exact .inr ⟨bi,oi,ci,q1,hp.2 bi m q5 (by simp),Yo q2,q4,Elems.keep (λb hb _=>⟨hp.1 b hb,rfl⟩) (zD _) rfl q7⟩
      . rw[zA]at hx;subst hx;rintro rfl;exact S.dfn (S.occ s _ (qi hin))
  . exact(Run.fail' h2).elim
 unfold Vs.passC at h;split at h
 . obtain⟨rfl,rfl⟩:=Run.pure' h;exact⟨rfl,rfl,rfl,λ_ _ h=>h,rfl,rfl,λ_ _ _=>hc,λn hn=>by cases hn⟩
 . obtain⟨rfl,rfl⟩:=Run.pure' h;exact⟨rfl,rfl,rfl,λ_ _ h=>h,rfl,rfl,λ_ _ _=>hc,λn hn=>by cases hn⟩
 . obtain⟨rfl,rfl⟩:=Run.pure' h;exact⟨rfl,rfl,rfl,λ_ _ h=>h,rfl,rfl,λ_ _ _=>hc,λn hn=>by cases hn⟩
 . obtain⟨rfl,rfl⟩:=Run.pure' h;exact⟨rfl,rfl,rfl,λ_ _ h=>h,rfl,rfl,λ_ who' hp=>SlI.keep (λb hb _=>⟨hp.1 b hb,rfl⟩) (zD _) hc,λn hn=>by cases hn⟩
 . obtain⟨rfl,rfl⟩:=Run.pure' h;exact⟨rfl,rfl,rfl,λ_ _ h=>h,rfl,rfl,λ_ who' hp=> .inl hc,λn hn=>by cases hn⟩
 . rename_i s n sz win;obtain⟨y,U1,_,_,_,_,h1,h2⟩:=Run.bind' h;obtain⟨rfl,rfl⟩:=Run.pure' h2;unfold Vs.shown at h1;obtain⟨y,U1,_,_,_,_,h3,h4⟩:=Run.bind' h1;obtain⟨rfl,hsz,g1,g2⟩:=Run.nodeOf h3 S;obtain⟨rfl,rfl⟩:=Run.pure' h4;subst hsz;refine⟨rfl,rfl,rfl,λ_ _ h=>h,rfl,rfl,λβ' who' hp=> ?_,λm hm=> ?_⟩
   . exact SlI.window (g1.slI hp.1 (λb hb=>hp.2 b n hb (by simp[refC]))) hc
   . simp only[refC,zA]at hm;subst hm;rintro rfl;exact S.dfn (S.occ s _ (qi g2))
 . rename_i s n i;obtain⟨av,U1,_,_,_,_,h1,h2⟩:=Run.bind' h;obtain⟨hav,rfl⟩:=Run.mget' h1;split at h2
   . rename_i m t xs hh loc hd;rw[hav]at hd;obtain⟨hmn,⟨v0,hdp⟩,hin⟩:=S.dpA hd
     . subst hmn;obtain⟨_,U2,_,_,_,_,h3,h4⟩:=Run.bind' h2;obtain⟨hno,rfl⟩:=Run.noHole' h3;obtain⟨rfl,rfl⟩:=Run.pure' h4;obtain⟨k1,_,ad0,L0,cap0,k2,k3⟩:=hc;obtain⟨ad1,cap1,hb1⟩:=hdp.base;rw[hb1]at k2;injection k2 with _ q1 _
       subst q1;have hrow:=hdp.row k3 hno;have hxi:xs.getD i []=xs[i]:=by simp[List.getD,List.getElem?_eq_getElem k3]
       refine⟨rfl,rfl,rfl,λ_ _ h=>h,rfl,rfl,λβ' who' hp=> ?_,λx hx=> ?_⟩
       . rw[hxi,k1];obtain⟨_,b0,o0,cap0,arr0,el0,_,_,_,_,_,hall,_⟩:=hdp.pos (.inr (Q7 k3));rcases(hall i k3 hno).2 with hI|⟨bi,oi,ci,arr,el,e1,e2,e3,e4,e5,e6,e7⟩
         . exact .inl hI
         . exact .inr ⟨bi,oi,ci,e1,hp.2 bi m e5 (by simp[refC]),Yo e2,e4,Elems.keep (λb hb _=>⟨hp.1 b hb,rfl⟩) (zD _) rfl e7⟩
       . simp only[refC,zA]at hx;subst hx;rintro rfl;exact S.dfn (S.occ s _ (qi hin))
   . exact(Run.fail' h2).elim
 . exact key h hc.1 rfl
 . exact key h hc.1 rfl
 . obtain⟨rfl,rfl⟩:=Run.pure' h;obtain⟨b,o,e1,e2,e3,e4,e5⟩:=hc
   exact⟨rfl,rfl,rfl,λ_ _ h=>h,rfl,rfl,
    λβ' who' hp=>⟨b,o,e1,e2,hp.1 b e3,e4,Elems.keep (λb hb _=>⟨hp.1 b hb,rfl⟩) (zD _) rfl e5⟩,λn hn=>by cases hn⟩
 . exact(Run.fail' h).elim
end
abbrev Pass:=AV×Option Nat×List Nat
def hvl (β:Beta) (m:Nat):AV->Value
 | .dp _ _ _ _=>dpv (β m) 0
 |_=>β m
def ArgOK (β:Beta) (who:Who) (w:World) (U:Slots) (p:Pass) (u:Value):Prop:=
 match p.2.1 with
 |none=>qlk who w p.2.2 p.1 u/\noRef p.1=true/\names p.1=[]/\ ∀n∈p.2.2,n≠FN
 |some s=>p.2.2=[]/\(names (U.get s)=[]\/ ∃m,Zn (U.get s)=some m/\p.1=ren (idxIn (names (U.get s))) (U.get s)/\noRef (U.get s)=true/\
   (names (U.get s)).length<=16/\u=hvl β m (U.get s))
section
variable {P:Program} {CO:qw} {T:TT} {E:Entry} {D:Nat->Prop} {β:Beta} {who who':Who} {U U':Slots} {hd:List (AV×Value)} {a:Act} {w w':World} {R W:List Nat}
def ArgOK.mono {p:Pass} {u:Value} (h:ArgOK β who w U p u) (hf:Fr who who') (hk:KeepBx U U'):ArgOK β who' w U' p u:=by
 obtain⟨av,l,rn⟩:=p;cases l with
 |none=>exact⟨λβ' who'' hp=>h.1 β' who'' (hp.fr hf),h.2⟩
 |some s=>
  obtain⟨h1,h2⟩:=h;rcases hk s with e|e
  . exact⟨h1,by rw[e];exact h2⟩
  . exact⟨h1,.inl e⟩
def qid (S:Sim E D β who U hd a w) (cells:List AV): ∀{cs:List AV} {g:Nat->Value} {U':Slots} {R W:List Nat},Run CO (Vs.passL cells) U cs U' R W->
 (∀j (h:j<cells.length),RelC β who w cells[j] (g j))->
 U'=U/\cs.length=cells.length/\cs.all Xm=true/\cs.flatMap qf=[]/\(∀j (h:j<cs.length),PureC who w (cells.flatMap refC) cs[j] (g j))/\ ∀n∈cells.flatMap refC,n≠FN:=by
 induction cells with
 |nil=>
  intro cs g U' R W h hc;obtain⟨rfl,rfl⟩:=Run.pure' h
  grind
 |cons c cells ih=>
  intro cs g U' R W h hc;obtain⟨c',U1,_,_,_,_,h1,h2⟩:=Run.bind' h;obtain⟨cs',U2,_,_,_,_,h3,h4⟩:=Run.bind' h2;obtain⟨rfl,rfl⟩:=Run.pure' h4;obtain⟨rfl,e1,e2,_,_,_,e3,e4⟩:=Run.passC h1 S (hc 0 (by simp))
  have hc': ∀j (h:j<cells.length),RelC β who w cells[j] ((λj=>g (j+1)) j):=λj hj=>by grind
  obtain⟨rfl,f1,f2,f3,f4,f5⟩:=ih h3 hc';refine⟨rfl,by simp[f1],by grind,by simp[e2,f3],λj hj=> ?_,λn hn=> ?_⟩
  . cases j with
    |zero=>exact λβ' who' hp=>e3 β' who' (hp.sub λn hn=>by simp[hn])
    |succ j=>exact λβ' who' hp=>f4 j (by simpa using hj) β' who' (hp.sub λn hn=>by grind)
  . grind
def Run.passA (hT:TTok P T) {ty:Nat} {x:Operand} {p:Pass} (h:Run CO (Vs.passA ty T x) U p U' R W) (S:Sim E D β who U [] a w):
 KeepBx U U'/\ ∃who',Fr who who'/\Sim E D β who' U' [] a w/\ArgOK β who' w U' p (a.eval x):=by
 obtain⟨v,U1,_,_,_,_,h1,h2⟩:=Run.bind' h;obtain⟨g1,g2,g3,who1,g4,S1⟩:=Run.rdP h1 S;have S2:=S1.fix (t:=ty) hT;have hx:=S2.hrel _ mS;have S3:=S2.drop rfl;generalize Yx T ty v=v1 at*;split at h2
 . rename_i cells;obtain⟨cs,U2,_,_,_,_,h3,h4⟩:=Run.bind' h2;obtain⟨rfl,rfl⟩:=Run.pure' h4;obtain⟨arr,e1,e2,e3⟩:=(hx: ∃arr,_);obtain⟨rfl,f1,f2,f3,f4,f5⟩:=qid (cs:=cs) (g:=λj=>arr.getD j undef) S3 cells h3 e3
   refine⟨g3,who1,g4,S3,⟨λβ' who' hp=> ?_,f2,f3,f5⟩⟩
   exact⟨arr,e1,by rw[e2,f1],λj hj=>f4 j hj β' who' hp⟩
 . rename_i s n sz;obtain⟨av,U2,_,_,_,_,h3,h4⟩:=Run.bind' h2;obtain⟨rfl,rfl⟩:=Run.mget' h3;split at h4
   . rename_i m cells hg;split at h4
     . rename_i hm;obtain⟨rfl,hr,hl⟩:=hm;obtain⟨rfl,rfl⟩:=Run.pure' h4;refine⟨g3,who1,g4,S3,⟨rfl,.inr ⟨m,by rw[hg];rfl,?_,hr,hl,?_⟩⟩⟩
       . rw[hg]
       . have hb:=S3.rel s;rw[hg]at hb;obtain⟨hb0,b,arr,el,hb1,_⟩:=hb;rw[hg];rcases(hx:PtrVal _ _ _ _ _)with⟨b',o,L,cap,q1,_⟩|⟨b',q1,_,q2⟩
         . grind
         . exact q2.trans q1.symm
     . exact(Run.fail' h4).elim
   . exact(Run.fail' h4).elim
 . rename_i hn1 hn2;obtain⟨c,U2,_,_,_,_,h3,h4⟩:=Run.bind' h2;obtain⟨rfl,rfl⟩:=Run.pure' h4
   have hc:RelC β who1 w v1 (a.eval x):=by
    cases v1 with
    |tup vs=>exact(Run.fail' h3).elim
    |bx o cs=>exact(Run.fail' h3).elim
    |agg cs=>exact absurd rfl (hn1 cs)
    |dead=>trivial
    |_=>exact hx
   obtain⟨rfl,e1,e2,f1,f2,f3,f4,f5⟩:=Run.passC h3 S3 hc;exact⟨g3,who1,g4,S3,⟨λβ' who' hp=>f1 _ _ (f4 β' who' hp),f2,f3,f5⟩⟩
def Run.lendA {x:Operand} {p:Pass} (h:Run CO (Vs.lendA x) U p U' R W) (S:Sim E D β who U [] a w):
 U'=U/\ArgOK β who w U' p (a.eval x):=by
 obtain⟨v,U1,_,_,_,_,h1,h2⟩:=Run.bind' h;obtain⟨rfl,S1⟩:=Run.rd h1 S;have hx:=S1.hrel _ mS;split at h2
 . rename_i s n sz;obtain⟨av,U2,_,_,_,_,h3,h4⟩:=Run.bind' h2;obtain⟨rfl,rfl⟩:=Run.mget' h3;split at h4
   . rename_i m t xs hg;split at h4
     . rename_i hm;subst hm;obtain⟨rfl,rfl⟩:=Run.pure' h4;refine⟨rfl,rfl,.inr ⟨m,by rw[hg];rfl,by rw[hg],by rw[hg];rfl,by rw[hg];exact(by decide:1<=16),?_⟩⟩
       rw[hg];exact(show Jg (β m) sz none (a.eval x)from hx).1
     . exact(Run.fail' h4).elim
   . exact(Run.fail' h4).elim
 . rename_i s n;obtain⟨av,U2,_,_,_,_,h3,h4⟩:=Run.bind' h2;obtain⟨rfl,rfl⟩:=Run.mget' h3;split at h4
   . rename_i m t xs hg;split at h4
     . rename_i hm;subst hm;obtain⟨rfl,rfl⟩:=Run.pure' h4;refine⟨rfl,rfl,.inr ⟨m,by rw[hg];rfl,by rw[hg],by rw[hg];rfl,by rw[hg];exact(by decide:1<=16),?_⟩⟩
       rw[hg];exact(show DrVal (β m) .whole (a.eval x)from hx).1
     . exact(Run.fail' h4).elim
   . exact(Run.fail' h4).elim
 . exact(Run.fail' h2).elim
def Run.passN (hT:TTok P T) {ty:Nat} {x:Operand} {p:Pass} (h:Run CO (Vs.passN ty T x) U p U' R W) (S:Sim E D β who U [] a w):
 U'=U/\ArgOK β who w U' p (a.eval x):=by
 obtain⟨v,U1,_,_,_,_,h1,h2⟩:=Run.bind' h;obtain⟨rfl,S1⟩:=Run.rd h1 S;have S2:=S1.fix (t:=ty) hT;have hx:=S2.hrel _ mS;generalize Yx T ty v=v1 at*;split at h2
 . rename_i t xs;obtain⟨rfl,rfl⟩:=Run.pure' h2;exact⟨rfl,λβ' who' hp=>hx,rfl,rfl,λn hn=>by cases hn⟩
 . exact(Run.fail' h2).elim
def Run.passX (hT:TTok P T) {k ty:Nat} {x:Operand} {p:Pass} (h:Run CO (Vs.passX T k ty x) U p U' R W) (S:Sim E D β who U [] a w):
 KeepBx U U'/\ ∃who',Fr who who'/\Sim E D β who' U' [] a w/\ArgOK β who' w U' p (a.eval x):=by
 unfold Vs.passX at h;split at h
 . obtain⟨rfl,h2⟩:=Run.passN hT h S;exact⟨KeepBx.refl _,who,Fr.refl _,S,h2⟩
 . split at h
   . obtain⟨rfl,h2⟩:=Run.lendA h S;exact⟨KeepBx.refl _,who,Fr.refl _,S,h2⟩
   . exact Run.passA hT h S
def Run.passAll (hT:TTok P T): ∀{k:Nat} {xs:List Operand} {tys:List TypeId} {ps:List Pass} {who:Who} {U U':Slots} {R W:List Nat},Run CO (Vs.passAll T k xs tys) U ps U' R W->Sim E D β who U [] a w->
 KeepBx U U'/\ ∃who',Fr who who'/\Sim E D β who' U' [] a w/\ps.length=xs.length/\ ∀i (h:i<ps.length) (h':i<xs.length),ArgOK β who' w U' ps[i] (a.eval xs[i])
 |k,[],tys,ps,who,U,U',R,W,h,S=>by
  obtain⟨rfl,rfl⟩:=Run.pure' h;exact⟨KeepBx.refl _,who,Fr.refl _,S,rfl,λi hi=>absurd hi (zW _)⟩
 |k,x::xs,[],ps,who,U,U',R,W,h,S=>(Run.fail' h).elim
 |k,x::xs,ty::tys,ps,who,U,U',R,W,h,S=>by
  obtain⟨p,U1,_,_,_,_,h1,h2⟩:=Run.bind' h;obtain⟨ps',U2,_,_,_,_,h3,h4⟩:=Run.bind' h2;obtain⟨rfl,rfl⟩:=Run.pure' h4;obtain⟨e1,who1,e2,S1,e3⟩:=Run.passX hT h1 S;obtain⟨f1,who2,f2,S2,f3,f4⟩:=Run.passAll hT h3 S1;refine⟨e1.trans f1,who2,e2.trans f2,S2,by simp[f3],λi hi hi'=> ?_⟩
  cases i with
  |zero=>exact e3.mono f2 f1
  |succ i=>grind
end
def q7n {c:AV} (h:Xm c=true):occC c=qf c:=by
 cases c with
 |sl o t xs=>cases o<;>rfl
 |ref s n sz w=>cases h
 |ptr s n sz i j=>cases h
 |dr s n k=>cases h
 |wn n t xs=>cases h
 |fd n t xs hh=>cases h
 |_=>rfl
def q0g {cells:List AV} (h:cells.all Xm=true):cells.flatMap occC=cells.flatMap qf:=by
 induction cells with
 |nil=>rfl
 |cons c cs ih=>
  simp only[zg1,zF]at h;simp[q7n h.1,ih h.2]
def q0v {v:AV} (h:q0i v=true):occA v=qh v:=by
 cases v with
 |bx o cells=>
  have:=q0g (cells:=cells) h;cases o<;>simp[occA,qh,this]
 |agg cells=>exact q0g (cells:=cells) h
 |sl o t xs=>exact q7n (c:= .sl o t xs) h
 |ref s n sz w=>cases h
 |ptr s n sz i j=>cases h
 |dr s n k=>cases h
 |wn n t xs=>cases h
 |fd n t xs hh=>cases h
 |_=>rfl
def Xl {v:AV} (h:noRef v=true):Vs.occ v=names v:=by
 cases v with
 |tup vs=>
  simp only[noRef]at h;simp only[Vs.occ,names];induction vs with
  |nil=>rfl
  |cons c cs ih=>
   simp only[zg1,zF]at h;simp[q0v h.1,ih h.2]
 |sl o t xs=>exact q0v (v:= .sl o t xs) h
 |bx o cells=>exact q0v (v:= .bx o cells) h
 |agg cells=>exact q0v (v:= .agg cells) h
 |ref s n sz w=>cases h
 |ptr s n sz i j=>cases h
 |dr s n k=>cases h
 |wn n t xs=>cases h
 |fd n t xs hh=>cases h
 |_=>rfl
def qhb {o:Own} {cells:List AV} (h:isWn (.bx o cells)=true): ∃m k t xs hh cs,o= .nm m/\cells= .fd k t xs hh::cs/\cs.all Xm=true:=by
 cases o with
 |nm m=>
  cases cells with
  |nil=>cases h
  |cons c cs=>
   cases c with
   |fd k t xs hh=>exact⟨m,k,t,xs,hh,cs,rfl,rfl,h⟩
   |_=>cases h
 |_=>cases h
def qip {v:AV} (h:okOut v=true): ∀n∈Vs.occ v,n∈names v\/n=98:=by
 intro n hn;cases hw:isWn v with
 |false=>
  unfold okOut at h;rw[hw,Bool.or_false]at h;rw[Xl h]at hn;exact .inl hn
 |true=>
  cases v with
  |wn m t xs=>
   simp only[Vs.occ,occA,occC,zO,zY,or_false]at hn;rcases hn with rfl|rfl
   . exact .inl (by simp[names,qh,qf])
   . exact .inr rfl
  |bx o cells=>
   obtain⟨m,k,t,xs,hh,cs,rfl,rfl,hcs⟩:=qhb hw;simp only[Vs.occ,occA,fC,occC,zO,zH,zY,or_false,q0g hcs]at hn;simp only[names,qh,fC,qf,zO,zH,zY,or_false]
   grind
  |_=>cases hw
section
variable {f:Nat->Nat}
def q77 {c:AV}:qf (renC f c)=(qf c).map f:=by
 cases c with
 |sl o t xs=>cases o<;>rfl
 |_=>rfl
def q49 {cells:List AV}:(cells.map (renC f)).flatMap qf=(cells.flatMap qf).map f:=by
 induction cells with
 |nil=>rfl
 |cons c cs ih=>simp[q77,ih]
def q15 {v:AV}:qh (renA f v)=(qh v).map f:=by
 cases v with
 |bx o cells=>
  have:=q49 (f:=f) (cells:=cells);cases o<;>simp[renA,renO,qh,this]
 |agg cells=>exact q49 (f:=f) (cells:=cells)
 |sl o t xs=>have:=q77 (f:=f) (c:= .sl o t xs);cases o<;>exact this
 |_=>rfl
def qp {v:AV}:names (ren f v)=(names v).map f:=by
 cases v with
 |tup vs=>
  simp only[ren,names];induction vs with
  |nil=>rfl
  |cons c cs ih=>simp[q15,ih]
 |sl o t xs=>have:=q15 (f:=f) (v:= .sl o t xs);cases o<;>exact this
 |bx o cells=>exact q15 (f:=f) (v:= .bx o cells)
 |agg cells=>exact q15 (f:=f) (v:= .agg cells)
 |_=>rfl
def q3c {c:AV}:Xm (renC f c)=Xm c:=by
 cases c with
 |sl o t xs=>cases o<;>rfl
 |_=>rfl
def qdi {cells:List AV}:(cells.map (renC f)).all Xm=cells.all Xm:=by
 induction cells with
 |nil=>rfl
 |cons c cs ih=>simp only[zY1,zg1,q3c,ih]
def q0x {v:AV}:q0i (renA f v)=q0i v:=by
 cases v with
 |bx o cells=>exact qdi (cells:=cells)
 |agg cells=>exact qdi (cells:=cells)
 |sl o t xs=>have:=q3c (f:=f) (c:= .sl o t xs);cases o<;>exact this
 |_=>rfl
def qe9 {v:AV}:isWn (ren f v)=isWn v:=by
 cases v with
 |sl o t xs=>cases o<;>rfl
 |bx o cells=>
  cases o with
  |nm n=>
   cases cells with
   |nil=>rfl
   |cons c cells=>
    cases c with
    |fd m t xs hh=>simp only[ren,renA,renO,zY1,renC,isWn,List.all_map];exact congrArg (λg=>cells.all g) (funext λc=>q3c)
    |sl o t xs=>cases o<;>rfl
    |_=>rfl
  |_=>rfl
 |_=>rfl
def Qu {v:AV}:noRef (ren f v)=noRef v:=by
 cases v with
 |tup vs=>
  simp only[ren,noRef];induction vs with
  |nil=>rfl
  |cons c cs ih=>simp only[zY1,zg1,q0x,ih]
 |sl o t xs=>have:=q0x (f:=f) (v:= .sl o t xs);cases o<;>exact this
 |bx o cells=>exact q0x (f:=f) (v:= .bx o cells)
 |agg cells=>exact q0x (f:=f) (v:= .agg cells)
 |_=>rfl
end
def RelI.flat {who who':Who} {w:World}: ∀{t:Ty} {x:Den t} {g:Nat->Option Value} {j:Nat},Xe t=false->RelI who w t x g j->RelI who' w t x g j
 | .int _,_,_,_,_,h=>h
 | .bool,_,_,_,_,h=>h
 | .pr a b,_,_,_,ht,h=>by
   simp only[Xe,zb2]at ht;exact⟨RelI.flat ht.1 h.1,RelI.flat ht.2 h.2⟩
 | .sl _ t,xs,g,j,ht,h=>by cases ht
section
variable {β β2:Beta} {who who2:Who} {w:World} {f:Nat->Nat}
structure RenOK (β:Beta) (who:Who) (w:World) (β2:Beta) (who2:Who) (f:Nat->Nat) (ns:List Nat) (im:Bool):Prop where
 beta: ∀n∈ns,β2 (f n)=β n
 own: ∀n∈ns,∀b,who b=some n->who2 b=some (f n)
 imm:im=true-> ∀b,who b=none->b<w.heap.size->who2 b=none
def RenOK.mono {ns ns':List Nat} {im im':Bool} (h:RenOK β who w β2 who2 f ns im) (hn: ∀n∈ns',n∈ns) (hi:im'=true->im=true):RenOK β who w β2 who2 f ns' im':=
 ⟨λn hn'=>h.beta n (hn n hn'),λn hn'=>h.own n (hn n hn'),λe=>h.imm (hi e)⟩
def RelC.ren {c:AV} {v:Value} (hr:Xm c=true) (k:RenOK β who w β2 who2 f (qf c) (Zi c)) (h:RelC β who w c v):RelC β2 who2 w (renC f c) v:=by
 cases c with
 |sl o t xs=>
  cases o with
  |imm=>exact SlI.keep (λb hb hl=>⟨k.imm rfl b hb hl,rfl⟩) (zD _) h
  |nl=>exact h
  |inn=>exact h
  |nm n=>
   obtain⟨h1,h2⟩:=h;refine⟨by rw[k.beta n (by simp[qf])];exact h1,?_⟩
   rcases h2 with h2|⟨b,o,cap,arr,el,e1,e2,e3,e4,e5,e6⟩
   . exact .inl h2
   . refine .inr ⟨b,o,cap,arr,el,e1,e2,e3,e4,k.own n (by simp[qf]) b e5,?_⟩
     cases ht:Xe t with
     |true=>exact Elems.keep (λb hb hl=>⟨k.imm ht b hb hl,rfl⟩) (zD _) rfl e6
     |false=>exact λi hi=>RelI.flat ht (e6 i hi)
 |ref s n sz win=>cases hr
 |ptr s n sz i j=>cases hr
 |dr s n kk=>cases hr
 |wn n t xs=>cases hr
 |fd n t xs hh=>cases hr
 |dq n t xs hh=>
  exact RelDq.map (k.beta n (by simp[qf])) (λb hb=>⟨k.own n (by simp[qf]) b hb,rfl⟩) (λt ys b o _ he=>Elems.keep (λb hb hl=>⟨k.imm rfl b hb hl,rfl⟩) (zD _) rfl he) h
 |dp n t xs hh=>
  refine RelDp.map (k.beta n (by simp[qf])) (λb hb=>⟨k.own n (by simp[qf]) b hb,rfl⟩) (λys b o _ he=> ?_) h
  cases ht:Xe t with
  |true=>exact Elems.keep (λb hb hl=>⟨k.imm ht b hb hl,rfl⟩) (zD _) rfl he
  |false=>exact λi hi=>RelI.flat ht (he i hi)
 |iptr g t xs i j=>
  obtain⟨b,o,e1,e2,e3,e4,e5⟩:=h;exact⟨b,o,e1,e2,k.imm rfl b e3 e4,e4,Elems.keep (λb hb hl=>⟨k.imm rfl b hb hl,rfl⟩) (zD _) rfl e5⟩
 |_=>exact h
def CellsRel.ren {cells:List AV} {arr:Array Value} (hr:cells.all Xm=true) (k:RenOK β who w β2 who2 f (cells.flatMap qf) (cells.any Zi))
 (h:CellsRel β who w cells arr):CellsRel β2 who2 w (cells.map (renC f)) arr:=by
 refine⟨by simpa using h.1,λj hj=> ?_⟩
 have hj':j<cells.length:=by simpa using hj
 rw[zD1];refine RelC.ren (zX.1 hr _ (zM hj')) (k.mono (λn hn=>zC.2 ⟨_,zM hj',hn⟩) λe=> ?_) (h.2 j hj')
 grind
def qma:AV->Bool
 | .bx _ cells=>cells.any Zi
 | .agg cells=>cells.any Zi
 |v=>Zi v
def RelA.ren {v:AV} {c:Value} (hr:q0i v=true) (k:RenOK β who w β2 who2 f (qh v) (qma v)) (h:RelA β who w v c):RelA β2 who2 w (renA f v) c:=by
 cases v with
 |bx o cells=>
  cases o with
  |nm n=>
   obtain⟨h0,b,arr,el,e1,e2,e3,e4⟩:=h
   exact⟨by rw[k.beta n (by simp[qh])];exact h0,b,arr,el,e1,e2,k.own n (by simp[qh]) b e3,
    CellsRel.ren hr (k.mono (λn hn=>by simp only[qh];grind) λe=>e) e4⟩
  |_=>exact h.elim
 |agg cells=>
  obtain⟨arr,e1,e2⟩:=h;exact⟨arr,e1,CellsRel.ren hr k e2⟩
 |tup vs=>exact h.elim
 |dead=>trivial
 |bool b=>exact RelC.ren (c:= .bool b) hr k h
 |int x n=>exact RelC.ren (c:= .int x n) hr k h
 |lit u=>exact RelC.ren (c:= .lit u) hr k h
 |sl o t xs=>
  have:=RelC.ren (c:= .sl o t xs) hr k h;cases o<;>exact this
 |ref s n sz win=>cases hr
 |ptr s n sz i j=>cases hr
 |iptr g t xs i j=>exact RelC.ren (c:= .iptr g t xs i j) hr k h
 |dp n t xs hh=>exact RelC.ren (c:= .dp n t xs hh) hr k h
 |dr s n kk=>exact RelC.ren (c:= .dr s n kk) hr k h
 |wn n t xs=>exact RelC.ren (c:= .wn n t xs) hr k h
 |dq n t xs hh=>exact RelC.ren (c:= .dq n t xs hh) hr k h
 |fd n t xs hh=>cases hr
def Rel.ren {v:AV} {c:Value} (hr:noRef v=true) (k:RenOK β who w β2 who2 f (names v) (Qo v)) (h:Rel β who w v c):Rel β2 who2 w (Vs.ren f v) c:=by
 cases v with
 |tup vs=>
  obtain⟨arr,e1,e2,e3⟩:=h;refine⟨arr,e1,by simpa using e2,λj hj=> ?_⟩
  have hj':j<vs.length:=by simpa using hj
  rw[zD1];refine RelA.ren (zX.1 hr _ (zM hj')) (k.mono (λn hn=>zC.2 ⟨_,zM hj',hn⟩) λe=> ?_) (e3 j hj')
  refine List.any_eq_true.2 ⟨_,zM hj',?_⟩;revert e;generalize vs[j]=u;cases u<;>exact id
 |dead=>trivial
 |bool b=>exact RelA.ren (v:= .bool b) hr k h
 |int x n=>exact RelA.ren (v:= .int x n) hr k h
 |lit u=>exact RelA.ren (v:= .lit u) hr k h
 |sl o t xs=>
  have:=RelA.ren (v:= .sl o t xs) hr k h;cases o<;>exact this
 |bx o cells=>exact RelA.ren (v:= .bx o cells) hr k h
 |agg cells=>exact RelA.ren (v:= .agg cells) hr k h
 |ref s n sz win=>cases hr
 |ptr s n sz i j=>cases hr
 |iptr g t xs i j=>exact RelA.ren (v:= .iptr g t xs i j) hr k h
 |dp n t xs hh=>exact RelA.ren (v:= .dp n t xs hh) hr k h
 |dr s n kk=>exact RelA.ren (v:= .dr s n kk) hr k h
 |wn n t xs=>exact RelA.ren (v:= .wn n t xs) hr k h
 |dq n t xs hh=>exact RelA.ren (v:= .dq n t xs hh) hr k h
 |fd n t xs hh=>cases hr
def Rel.renO {v:AV} {c:Value} (ho:okOut v=true) (k:RenOK β who w β2 who2 f (names v) (Qo v)) (h98:β2 98=β 98) (h:Rel β who w v c):Rel β2 who2 w (Vs.ren f v) c:=by
 cases hw:isWn v with
 |false=>
  unfold okOut at ho;rw[hw,Bool.or_false]at ho;exact Rel.ren ho k h
 |true=>
  cases v with
  |wn n t xs=>
   have h1:Rel β who w (.sl (.nm n) t xs) c:=h.1;have h2:Rel β2 who2 w (.sl (.nm (f n)) t xs) c:=Rel.ren (v:= .sl (.nm n) t xs) rfl k h1;obtain⟨arr0,g1,g2⟩:=h.2;exact⟨h2,arr0,by rw[h98];exact g1,g2⟩
  |bx o cells=>
   obtain⟨m,q,t,xs,hh,cs,rfl,rfl,hcs⟩:=qhb hw;obtain⟨h0,b,arr,el,e1,e2,e3,e4⟩:=h
   have h1:RelA β2 who2 w (renA f (.bx (.nm m) (.dp q t xs hh::cs))) c:=RelA.ren (v:= .bx (.nm m) (.dp q t xs hh::cs)) (by simpa [q0i,Xm]using hcs) k
    ⟨h0,b,arr,el,e1,e2,e3,e4.1,λj hj=>by
      cases j with
      |zero=>exact(e4.2 0 hj).1
      |succ j=>exact e4.2 (j+1) hj⟩
   obtain⟨g0,b',arr',el',g1,g2,g3,g4⟩:=h1;have hb:b'=b:=by rw[g1]at e1;injection e1 with e1;injection e1 with e1;injection e1 with e1
   subst hb;rw[e2]at g2;injection g2 with g2
   injection g2 with g2 g2'
   subst g2;refine⟨g0,b',arr,el,g1,e2,g3,g4.1,λj hj=> ?_⟩
   cases j with
   |zero=>exact⟨g4.2 0 hj,by rw[h98];exact(e4.2 0 (by simp)).2⟩
   |succ j=>exact g4.2 (j+1) hj
  |_=>cases hw
end
def q1x (who:Who) (w:World) (cargs:Array Value) (res:AV) (outs:List AV) (c98:Value) (e:Ending) (w':World):Prop:=
 ∃v β' who',e= .returned v/\β' 98=c98/\Rel β' who' w' res v/\(∀i (h:i<outs.length),Rel β' who' w' outs[i] (cargs.getD i undef))/\
  (names res++outs.flatMap names).Nodup/\(∀n∈names res++outs.flatMap names,n<16)/\noRef res=true/\outs.all okOut=true/\
  (∀b,b<w.heap.size->who b=none\/who b=some FN->w'.heap[b]? =w.heap[b]?)/\(∀b n,who' b=some n->b<w'.heap.size/\(who b≠none\/w.heap.size<=b))/\
  w.heap.size<=w'.heap.size/\(∀b,who b=some FN->who' b=some FN)/\w'.os=w.os/\w'.output=w.output
def X7 (P:Program) (f:FuncId) (args:List AV) (res:AV) (outs:List AV):Prop:=
 (∃fn,P.funcs[f]? =some fn∧fn.body.isNone=false∧(fn.name== "runtime.NumGoroutine")=false)∧
 ∀β who w (cargs:Array Value),cargs.size=args.length->(∀i (h:i<args.length),Rel β who w args[i] (cargs.getD i undef))->
  (args.flatMap names).Nodup->(∀n∈args.flatMap names,n<99)->args.all okOut=true->(∀b n,who b=some n->b<w.heap.size/\(n∈args.flatMap names\/n=FN))->GlobOK P who w->
  Calls P f cargs w (q1x who w cargs res outs (β 98))
def Xu {l:List AV} (h:l.all noRef=true):l.all okOut=true:=zX.2 λx hx=>by
 unfold okOut;grind
def q1s {v:AV} (h:okOut v=true) (hw:isWn v=false):noRef v=true:=by
 unfold okOut at h;grind
def GlobOK.whoC {P:Program} {who:Who} {w:World} (h:GlobOK P who w) {who':Who} (hw: ∀b,who b=none->who' b=none):GlobOK P who' w:=λx hx=>⟨hw _ (h x hx).1,(h x hx).2⟩
def X6 {ns:List Nat} {n:Nat} (h:n∈ns):idxIn ns n<ns.length:=by
 induction ns with
 |nil=>cases h
 |cons m ms ih=>
  simp only[idxIn,zq]
  grind
def Zk {ns:List Nat} {n:Nat} (h:n∈ns):ns.getD (idxIn ns n) 0=n:=by
 induction ns with
 |nil=>cases h
 |cons m ms ih=>
  simp only[idxIn]
  grind
def Jk {ns:List Nat} {n m:Nat} (hn:n∈ns) (hm:m∈ns) (h:idxIn ns n=idxIn ns m):n=m:=by
 rw[<-Zk hn,<-Zk hm,h]
def Qm {f:Nat->Nat} {l:List Nat} (hf: ∀a∈l,∀b∈l,f a=f b->a=b) (h:l.Nodup):(l.map f).Nodup:=by
 induction l with
 |nil=>simp
 |cons x l ih=>
  grind
def whoC (who:Who) (ln rn:List Nat):Who:=λb=>match who b with
 |none=>none
 |some n=>if n∈ln then some (idxIn ln n)else if n∈rn then none else some FN
def who2 (who who':Who) (idx:Nat) (ln ns:List Nat):Who:=λb=>match who' b with
 |none=>(match who b with
  |none=>none
  |some n=>if n∈ln then none else some n)
 |some m=>if m=FN then who b else if m∈ns then some (fresh idx m)else none
def beta2 (β β':Beta) (idx:Nat):Beta:=λn=>if fresh idx 0<=n/\n<=fresh idx 15 then β' (n-fresh idx 0)else β n
section
variable {P:Program} {CO:qw} {T:TT} {E:Entry} {D:Nat->Prop} {β β':Beta} {who who':Who} {U U':Slots} {hd:List (AV×Value)} {a:Act} {w w':World} {R W:List Nat}
def Xo {idx:Nat} {ln rn ns:List Nat} {im:Bool} (S:Sim E D β who U [] a w) (hf: ∀k,k<16-> ¬D (fresh idx k))
 (hln: ∀n∈ln,n≠FN/\ ∀s,n∉names (U.get s)) (hrn: ∀n∈rn,n≠FN) (hlen:ln.length<=16)
 (hfr: ∀b,b<w.heap.size->whoC who ln rn b=none\/whoC who ln rn b=some FN->w'.heap[b]? =w.heap[b]?)
 (hw: ∀b n,who' b=some n->b<w'.heap.size/\(whoC who ln rn b≠none\/w.heap.size<=b)) (hsz:w.heap.size<=w'.heap.size)
 (hFN: ∀b,whoC who ln rn b=some FN->who' b=some FN) (hns: ∀n∈ns,n<16) (him:im=true->rn=[]) (h4:w'.os=w.os/\w'.output=w.output):
 Sim E (Dn D idx) (beta2 β β' idx) (who2 who who' idx ln ns) U [] a w'/\RenOK β' who' w' (beta2 β β' idx) (who2 who who' idx ln ns) (fresh idx) ns im:=by
 have cnone: ∀b,who b=none->whoC who ln rn b=none:=λb h=>by simp[whoC,h]
 have pnone: ∀b,b<w.heap.size->whoC who ln rn b=none->who' b=none:=λb hb h=>by
  cases e:who' b with
  |none=>rfl
  |some n=>
   grind
 have keepo: ∀b n,who b=some n->n∉ln->who2 who who' idx ln ns b=some n/\w'.heap[b]? =w.heap[b]? :=λb n hb hn=>by
  have hlt:=S.wsz b n hb;by_cases hr:n∈rn
  . have hc:whoC who ln rn b=none:=by simp[whoC,hb,hn,hr]
    exact⟨by simp[who2,pnone b hlt hc,hb,hn],hfr b hlt (.inl hc)⟩
  . have hc:whoC who ln rn b=some FN:=by simp[whoC,hb,hn,hr]
    exact⟨by simp[who2,hFN b hc,hb],hfr b hlt (.inr hc)⟩
 have immo: ∀b,who b=none->b<w.heap.size->who2 who who' idx ln ns b=none/\w'.heap[b]? =w.heap[b]? :=λb hb hlt=>by
  have hc:=cnone b hb;exact⟨by simp[who2,pnone b hlt hc,hb],hfr b hlt (.inl hc)⟩
 have hβ: ∀n,D n->beta2 β β' idx n=β n:=λn hn=>by
  simp only[beta2];rw[iN']
  rintro ⟨h1,h2⟩
  refine hf (n-fresh idx 0) (by simp only[fresh]at*;omega) ?_
  rwa [show fresh idx (n-fresh idx 0)=n by simp only[fresh]at*;omega]
 have hFl:FN∉ln:=λh=>(hln _ h).1 rfl
 have S1:Sim E D (beta2 β β' idx) (who2 who who' idx ln ns) U [] a w':=by
  refine S.world (λs=>(S.rel s).keep ⟨λn hn=>hβ n (S.occ s n hn),λn hn b hb=>keepo b n hb λh=>(hln n h).2 s hn,immo,hsz⟩)
   (λx hx=>by cases hx) (λb n hb=> ?_) hsz (λb hb h0=> ?_) (λb n hb=> ?_) (λb hb=> ?_) h4 (hβ 98 S.d98)
  . simp only[who2]at hb;split at hb
    . split at hb
      . cases hb
      . rename_i m hm;have:=S.wsz b m hm;omega
    grind
  . have hb':b<w.heap.size:=z81 hb S.fr2;rcases h0 with h0|h0
    . cases hwb:who b with
      |none=>exact(immo b hwb hb').2
      |some n=>
       rcases S.fr1 b n hwb with h|h
       . exact absurd h0 h
       . omega
    . exact(keepo b FN (S.fr3 b h0) hFl).2
  . simp only[who2]at hb;split at hb
    . split at hb
      . cases hb
      . rename_i m hm;exact S.fr1 b m hm
    . rename_i m hm;split at hb
      . exact S.fr1 b n hb
      . rcases(hw b m hm).2 with h|h
        . cases hwb:who b with
          |none=>grind
          |some n'=>exact S.fr1 b n' hwb
        . exact .inr (zn S.fr2 h)
  . exact(keepo b FN (S.fr3 b hb) hFl).1
 refine⟨S1.mono (λn h=> .inl h) (Dn_fn S.dfn),⟨λn hn=> ?_,λn hn b hb=> ?_,λhi b hb hlt=> ?_⟩⟩
 . have:=hns n hn;simp only[beta2];rw[iP (by simp only[fresh];omega)]
   congr 1;simp only[fresh];omega
 . have:=hns n hn;simp only[who2,hb];rw[iN' (by simp only[FN];omega),iP hn]
 . simp only[who2,hb];split
   . rfl
   . rename_i n hn;split
     . rfl
     . rename_i hnl;exfalso;have hc:whoC who ln rn b=some FN:=by simp[whoC,hn,hnl,him hi]
       grind
def Sim.add {new:List (AV×Value)} {D':Nat->Prop} (S:Sim E D' β who U [] a w) (hr: ∀x∈new,Rel β who w x.1 x.2) (hnd:(new.flatMap λx=>names x.1).Nodup)
 (hdis: ∀x∈new,∀n∈names x.1,∀s,n∉names (U.get s)) (ho: ∀x∈new,∀n∈Vs.occ x.1,D' n):Sim E D' β who U new a w:=
 {S with hrel:=hr,hnod:=hnd,hdis:=hdis,hocc:=ho}
def q04 (U:Slots) (p:Pass):Prop:=match p.2.1 with
 |none=>names p.1=[]/\noRef p.1=true
 |some s=>p.1=ren (idxIn (names (U.get s))) (U.get s)/\noRef (U.get s)=true
def Yy {v:AV} {m:Nat} (h:Zn v=some m):m∈names v:=by
 unfold Zn at h;split at h
 . cases h;simp[names,qh]
 . cases h;simp[names,qh,qf]
 . cases h;simp[names,qh,qf]
 . cases h
def q3m {v:AV} {m:Nat} {u:Value} (h:Zn v=some m) (hr:Rel β who w v u):u=hvl β m v:=by
 unfold Zn at h;split at h
 . cases h;exact hr.1
 . cases h;exact hr.1
 . cases h;exact hr.1
 . cases h
def ArgOK.passOK {p:Pass} {u:Value} (h:ArgOK β who w U p u) (hs: ∀s,p.2.1=some s->names (U.get s)≠[]):q04 U p:=by
 obtain⟨av,l,rn⟩:=p;cases l with
 |none=>exact⟨h.2.2.1,h.2.1⟩
 |some s=>
  obtain⟨_,h⟩:=h;rcases h with h|⟨m,_,h3,h4,_⟩
  . exact absurd h (hs s rfl)
  . exact⟨h3,h4⟩
def Y4 {ps:List Pass} (h: ∀p∈ps,q04 U p):
 (ps.map (·.1)).flatMap names=(Xj ps).flatMap λs=>(names (U.get s)).map (idxIn (names (U.get s))):=by
 induction ps with
 |nil=>rfl
 |cons p ps ih=>
  obtain⟨av,l,rn⟩:=p;have h0:=h _ mS;have ih':=ih λp hp=>h p (mT hp)
  cases l with
  |none=>simp only[zY1,fC,Xj,ih',h0.1,zx1]
  |some s=>
   have e:av=ren (idxIn (names (U.get s))) (U.get s):=h0.1;simp only[zY1,fC,Xj,ih',e,qp]
def Y6 {ps:List Pass} (h: ∀p∈ps,q04 U p):(ps.map (·.1)).all noRef=true:=by
 refine zX.2 λx hx=> ?_
 obtain⟨p,hp,rfl⟩:=zQ.1 hx;obtain⟨av,l,rn⟩:=p;have:=h _ hp;cases l with
 |none=>exact this.2
 |some s=>
  have e:av=ren (idxIn (names (U.get s))) (U.get s):=this.1;subst e;show noRef (ren _ _)=true;rw[Qu];exact this.2
def q6v {outs:List AV} {o:AV}: ∀{ps:List Pass} {k:Nat} {s:Nat},outAt outs ps k=some o->Xj ps=[s]->
 ∃i,∃h:i<ps.length,ps[i].2.1=some s/\outs[k+i]? =some o
 |[],k,s,h,_=>by cases h
 |(av,some s',rn)::ps,k,s,h,hl=>by
  simp only[Xj,List.cons.injEq]at hl;exact⟨0,by simp,by simp[hl.1],h⟩
 |(av,none,rn)::ps,k,s,h,hl=>by
  obtain⟨i,hi,h1,h2⟩:=q6v (ps:=ps) (k:=k+1) h hl;exact⟨i+1,by simpa using hi,h1,by rw[<-h2];congr 1;omega⟩
def Qn {ps:List Pass} {p:Pass} {s:Nat} (hp:p∈ps) (h:p.2.1=some s):s∈Xj ps:=by
 induction ps with
 |nil=>cases hp
 |cons q ps ih=>
  obtain⟨av,l,rn⟩:=q;rcases mC hp with rfl|hp'
  . simp only at h;subst h;simp[Xj]
  . cases l with
    |none=>exact ih hp'
    |some s'=>exact mT (ih hp')
def qfj {l1 l2:List Nat} {n:Nat} (h:n∈l1):idxIn (l1++l2) n=idxIn l1 n:=by
 induction l1 with
 |nil=>cases h
 |cons m ms ih=>
  simp only[zI2,idxIn]
  grind
def qbq {l1 l2:List Nat} {n:Nat} (h:n∉l1):idxIn (l1++l2) n=idxIn l2 n+l1.length:=by
 induction l1 with
 |nil=>simp
 |cons m ms ih=>
  simp only[zO,not_or]at h;simp only[zI2,idxIn,zq]
  grind
def qad {f g:Nat->Nat} {c:AV}:renC g (renC f c)=renC (λn=>g (f n)) c:=by
 cases c with
 |sl o t xs=>cases o<;>rfl
 |_=>rfl
def qdk {f g:Nat->Nat} {cells:List AV}:(cells.map (renC f)).map (renC g)=cells.map (renC λn=>g (f n)):=by
 rw[zV3];exact zD2 λc _=>qad
def q1v {f g:Nat->Nat} {v:AV}:renA g (renA f v)=renA (λn=>g (f n)) v:=by
 cases v with
 |bx o cells=>
  have:=qdk (f:=f) (g:=g) (cells:=cells);cases o<;>simp only[renA,renO,this]
 |agg cells=>simp only[renA,qdk]
 |sl o t xs=>have:=qad (f:=f) (g:=g) (c:= .sl o t xs);cases o<;>exact this
 |_=>rfl
def qll {f g:Nat->Nat} {v:AV}:ren g (ren f v)=ren (λn=>g (f n)) v:=by
 cases v with
 |tup vs=>
  simp only[ren,zV3];congr 1;exact zD2 λc _=>q1v
 |sl o t xs=>have:=q1v (f:=f) (g:=g) (v:= .sl o t xs);cases o<;>exact this
 |bx o cells=>exact q1v (f:=f) (g:=g) (v:= .bx o cells)
 |agg cells=>exact q1v (f:=f) (g:=g) (v:= .agg cells)
 |_=>rfl
def Ze {f g:Nat->Nat} {c:AV} (h: ∀n∈qf c,f n=g n):renC f c=renC g c:=by
 cases c with
 |sl o t xs=>
  cases o with
  |nm n=>simp only[renC,h n (by simp[qf])]
  |_=>rfl
 |dp n t xs hh=>simp only[renC,h n (by simp[qf])]
 |wn n t xs=>simp only[renC,h n (by simp[qf])]
 |dq n t xs hh=>simp only[renC,h n (by simp[qf])]
 |fd n t xs hh=>simp only[renC,h n (by simp[qf])]
 |_=>rfl
def Jc {f g:Nat->Nat} {cells:List AV} (h: ∀n∈cells.flatMap qf,f n=g n):cells.map (renC f)=cells.map (renC g):=
 zD2 λc hc=>Ze λn hn=>h n (zC.2 ⟨c,hc,hn⟩)
def Y5 {f g:Nat->Nat} {v:AV} (h: ∀n∈qh v,f n=g n):renA f v=renA g v:=by
 cases v with
 |bx o cells=>
  cases o with
  |nm m=>
   simp only[qh,zO]at h;simp only[renA,renO,h m (.inl rfl),Jc λn hn=>h n (.inr hn)]
  |_=>simp only[renA,renO,Jc (cells:=cells) h]
 |agg cells=>simp only[renA,Jc (cells:=cells) h]
 |sl o t xs=>exact Ze (c:= .sl o t xs) h
 |dp n t xs hh=>exact Ze (c:= .dp n t xs hh) h
 |wn n t xs=>exact Ze (c:= .wn n t xs) h
 |dq n t xs hh=>exact Ze (c:= .dq n t xs hh) h
 |fd n t xs hh=>exact Ze (c:= .fd n t xs hh) h
 |_=>rfl
def qhv {f g:Nat->Nat} {v:AV} (h: ∀n∈names v,f n=g n):ren f v=ren g v:=by
 cases v with
 |tup vs=>
  simp only[ren];congr 1;exact zD2 λc hc=>Y5 λn hn=>h n (zC.2 ⟨c,hc,hn⟩)
 |sl o t xs=>exact Y5 (v:= .sl o t xs) h
 |bx o cells=>exact Y5 (v:= .bx o cells) h
 |agg cells=>exact Y5 (v:= .agg cells) h
 |dp n t xs hh=>exact Y5 (v:= .dp n t xs hh) h
 |wn n t xs=>exact Y5 (v:= .wn n t xs) h
 |dq n t xs hh=>exact Y5 (v:= .dq n t xs hh) h
 |fd n t xs hh=>exact Y5 (v:= .fd n t xs hh) h
 |_=>rfl
def qbn {ps:List Pass} {k s:Nat} (h: ∀p∈ps,q04 U p):
 (ps.map (q0q k s)).flatMap names=(Xj ps).flatMap λs'=>(names (U.get s')).map λn=>if s'=s then idxIn (names (U.get s')) n+k else idxIn (names (U.get s')) n:=by
 induction ps with
 |nil=>rfl
 |cons p ps ih=>
  obtain⟨av,l,rn⟩:=p;have h0:=h _ mS;have ih':=ih λp hp=>h p (mT hp)
  cases l with
  |none=>simp only[zY1,fC,Xj,ih',q0q,h0.1,zx1]
  |some s'=>
   have e:av=ren (idxIn (names (U.get s'))) (U.get s'):=h0.1;simp only[zY1,fC,Xj,ih',q0q,e];congr 1;split
   . rw[qp,qp,zV3];rfl
   . rw[qp]
def qce {ps:List Pass} {k s:Nat} (h: ∀p∈ps,q04 U p):(ps.map (q0q k s)).all noRef=true:=by
 refine zX.2 λx hx=> ?_
 obtain⟨p,hp,rfl⟩:=zQ.1 hx;obtain⟨av,l,rn⟩:=p;have:=h _ hp;cases l with
 |none=>exact this.2
 |some s'=>
  have e:av=ren (idxIn (names (U.get s'))) (U.get s'):=this.1;subst e;simp only[q0q];split
  . rw[Qu,Qu];exact this.2
  . rw[Qu];exact this.2
def q0u {outs:List AV} {o:AV} {s:Nat}: ∀{ps:List Pass} {k:Nat},outOf s outs ps k=some o-> ∃i,∃h:i<ps.length,ps[i].2.1=some s/\outs[k+i]? =some o
 |[],k,h=>by cases h
 |(av,some s',rn)::ps,k,h=>by
  simp only[outOf]at h;split at h
  . rename_i e;exact⟨0,by simp,by simp[e],h⟩
  . obtain⟨i,hi,h1,h2⟩:=q0u (ps:=ps) (k:=k+1) h;exact⟨i+1,by simpa using hi,h1,by rw[<-h2];congr 1;omega⟩
 |(av,none,rn)::ps,k,h=>by
  obtain⟨i,hi,h1,h2⟩:=q0u (ps:=ps) (k:=k+1) h;exact⟨i+1,by simpa using hi,h1,by rw[<-h2];congr 1;omega⟩
def qdu: ∀{outs:List AV} {i j:Nat} (hi:i<outs.length) (hj:j<outs.length),i≠j->(outs.flatMap names).Nodup->
 (names outs[i]++names outs[j]).Nodup
 |[],i,j,hi,hj,hne,h=>absurd hi (zW _)
 |x::xs,i,j,hi,hj,hne,h=>by
  simp only[fC]at h;obtain⟨h1,h2,h3⟩:=zJ.1 h
  have nd: ∀{k:Nat} (hk:k<xs.length),(names xs[k]).Nodup:=λ{k} hk=>by
   grind
  match i,j with
  |0,0=>exact absurd rfl hne
  |0,j+1=>
   grind
  |i+1,0=>
   grind
  |i+1,j+1=>
   simp only[zj2];exact qdu (by simpa using hi) (by simpa using hj) (λe=>hne O) h2
end
def Yi {P:Program} {f:FuncId} (h: ∃fn,P.funcs[f]? =some fn∧fn.body.isNone=false∧(fn.name== "runtime.NumGoroutine")=false) (args:Array Value) (w:World):
 (callFunc f args).run P w= .ok (.enter f args) w:=by
 obtain⟨fn,h1,h2,h3⟩:=h;have h2':fn.body≠none:=λe=>by rw[e]at h2;cases h2
 have h3':fn.name≠ "runtime.NumGoroutine" :=by simpa using h3
 simp[callFunc,h1,h2',h3']
section
variable {P:Program} {CO:qw} {T:TT} {E:Entry} {D:Nat->Prop} {β β':Beta} {who who':Who} {U U':Slots} {hd:List (AV×Value)} {a:Act} {w w':World} {R W:List Nat}
def OpWp (P:Program) (E:Entry) (D:Nat->Prop) (idx:Nat) (U':Slots) (v:AV) (o:Oper) (a:Act) (w:World):Prop:=
 ∀(next:Act->World->Prop) (Q:Exit->Act->World->Prop),
  (∀c w' β' who',Sim E (Dn D idx) β' who' U' [(v,c)] a w'->next (a.put o.dst c) w')->o.wp P a w next Q
def OpOut.wp {idx:Nat} {v:AV} {o:Oper} (h:OpOut P E D idx U' v a ((execOp a.eval o).run P w)):OpWp P E D idx U' v o a w:=by
 intro next Q hn
 obtain⟨c,w',β',who',hr|⟨hr,rfl⟩,S⟩:=h
 . unfold Oper.wp;rw[hr];exact hn c w' β' who' S
 . unfold Oper.wp;rw[hr];exact hn undef w' β' who' S
def Xt {res o:AV} {outs:List AV} (h:(names res++outs.flatMap names).Nodup) (ho:o∈outs):(names o++names res).Nodup/\ ∀n∈names o,n∈outs.flatMap names:=by
 have hsub:(names o).Sublist (outs.flatMap names):=by
  induction outs with
  |nil=>cases ho
  |cons x xs ih=>
   simp only[fC];rcases mC ho with rfl|ho
   . exact List.sublist_append_left _ _
   . refine(ih ?_ ho).trans (List.sublist_append_right _ _);simp only[fC]at h;exact h.sublist (List.Sublist.append (List.Sublist.refl _) (List.sublist_append_right _ _))
 have h2:=h.sublist (List.Sublist.append (List.Sublist.refl (names res)) hsub);exact⟨(List.perm_append_comm.nodup_iff).1 h2,λn hn=>hsub.subset hn⟩
def qj3 (hT:TTok P T) (hC: ∀f as r os,CO f as r os->X7 P f as r os) (hEP:E.prog=P) {idx f:Nat} {o:Oper} {args:List Operand} {tys:List TypeId} {v:AV} {et:Ty} {xs:List (Den et)} {i0 j0:Nat} {pv:Value} (hpv:Rel β who w (.iptr none et xs i0 j0) pv)
 (h:Run CO (cloAV T idx f args tys (.iptr none et xs i0 j0)) U v U' R W) (S:Sim E D β who U [] a w) (hf: ∀k,k<16-> ¬D (fresh idx k))
 (hop:execOp a.eval o=callFunc f (args.map a.eval++[pv]).toArray):OpWp P E D idx U' v o a w:=by
 intro next Q hnext
 obtain⟨ps,U1,_,_,_,_,h1,h2⟩:=Run.bind' h;obtain⟨_,who1,hfr,S1,hlen,hargs⟩:=Run.passAll hT h1 S
 have hpoX:(∀s∈Xj ps,names (U1.get s)≠[])-> ∀p∈ps,q04 U1 p:=λhs p hp=>by
  obtain⟨i,hi,rfl⟩:=zV hp;exact(hargs i hi (by rw[<-hlen];exact hi)).passOK λs e=>hs s (Qn hp e)
 have hrnF: ∀n∈ps.flatMap (·.2.2),n≠FN:=λn hn=>by
  obtain⟨p,hp,hn⟩:=zC.1 hn;obtain⟨i,hi,rfl⟩:=zV hp;have ha:=hargs i hi (by rw[<-hlen];exact hi)
  generalize ps[i]=p at*
  obtain⟨av,l,rn⟩:=p;cases l with
  |none=>exact ha.2.2.2 n hn
  |some s=>have e:rn=[]:=ha.1;subst e;cases hn
 have hpure: ∀(ln:List Nat) (βc:Beta),(∀n∈ps.flatMap (·.2.2),n∉ln)-> ∀i (hi:i<ps.length),ps[i].2.1=none->Rel βc (whoC who1 ln (ps.flatMap (·.2.2))) w ps[i].1 (a.eval (args[i]'(by rw[<-hlen];exact hi))):=λln βc hd i hi hl=>by
  have ha:=hargs i hi (by rw[<-hlen];exact hi)
  have hsub: ∀n∈ps[i].2.2,n∈ps.flatMap (·.2.2):=λn hn=>zC.2 ⟨_,zM hi,hn⟩
  generalize ps[i]=p at*
  obtain⟨av,l,rn⟩:=p;simp only at hl;subst hl;refine ha.1 βc _ ⟨λb hb=>by simp[whoC,hb],λb n hb hn=> ?_⟩
  simp[whoC,hb,hd n (hsub n hn),hsub n hn]
 split at h2
 ·
  rename_i hl;have hpo:=hpoX (λs hs=>by rw[hl]at hs;cases hs)
  have hnoref:=Y6 hpo;have hnames:=Y4 hpo;obtain⟨⟨r,os⟩,U2,_,_,_,_,h3,h4⟩:=Run.bind' h2;obtain⟨hco,rfl⟩:=Run.mcall' h3;obtain⟨hen,hcall⟩:=hC _ _ _ _ hco;dsimp only at h4;have hnil:(ps.map (·.1)).flatMap names=[]:=by rw[hnames,hl];rfl
  have him:Qo r=true->ps.flatMap (·.2.2)=[]:=λhi=>by
   split at h4
   . exact(Run.fail' h4).elim
   . rename_i hc;simp only[hi,zV2,Bool.not_eq_true']at hc;simpa using hc
  have hv:v=ren (fresh idx) r/\U'=U2:=by
   split at h4
   . exact(Run.fail' h4).elim
   . exact Run.pure' h4
  obtain⟨rfl,rfl⟩:=hv
  have hpv1: ∀βc,Rel βc (whoC who1 [] (ps.flatMap (·.2.2))) w (.iptr none et xs i0 j0) pv:=λβc=>by
   obtain⟨b,o',q1,q2,q3,q4,q5⟩:=hpv
   have im: ∀b,who b=none->b<w.heap.size->whoC who1 [] (ps.flatMap (·.2.2)) b=none/\w.heap[b]? =w.heap[b]? :=λb hb _=>⟨by
    have hz:who1 b=none:=(hfr b).elim (λh=>h.trans hb) id
    simp[whoC,hz],rfl⟩
   exact⟨b,o',q1,q2,(im b q3 q4).1,q4,Elems.keep im (zD _) rfl q5⟩
  have hnoref':(ps.map (·.1)++[AV.iptr none et xs i0 j0]).all noRef=true:=by rw[zO3,hnoref];rfl
  have hnil':(ps.map (·.1)++[AV.iptr none et xs i0 j0]).flatMap names=[]:=by rw[zS1,hnil];rfl
  have hcalls:=hcall (λ_=>undef) (whoC who1 [] (ps.flatMap (·.2.2))) w (args.map a.eval++[pv]).toArray (by simp[hlen]) (λi hi=>by
   by_cases hi':i<ps.length
   . have ha:i<args.length:=by rw[<-hlen];exact hi'
     have e1:(ps.map (·.1)++[AV.iptr none et xs i0 j0])[i]=ps[i].1:=by rw[zF1 (by simpa using hi'),zD1]
     have e2:(args.map a.eval++[pv]).toArray.getD i undef=a.eval args[i]:=by
      simp[Array.getD,ha];intro h;omega
     rw[e1,e2];refine hpure [] _ (λ_ _ h=>by cases h) i hi' ?_
     cases e:ps[i].2.1 with
     |none=>rfl
     |some s=>have:=Qn (zM hi') e;rw[hl]at this;cases this
   . have hi2:i=ps.length:=by simp at hi;omega
     subst hi2;have e1:(ps.map (·.1)++[AV.iptr none et xs i0 j0])[ps.length]= .iptr none et xs i0 j0:=by simp
     have e2:(args.map a.eval++[pv]).toArray.getD ps.length undef=pv:=by simp[Array.getD,hlen]
     rw[e1,e2];exact hpv1 _) (by rw[hnil'];exact ze1) (by rw[hnil'];simp) (Xu hnoref')
   (fun b n hb=>by
     simp only[whoC]at hb;split at hb
     . cases hb
     . rename_i m hm;simp only[zY,if_false]at hb;split at hb
       . cases hb
       . injection hb with hb;exact⟨S1.wsz b m hm,.inr hb.symm⟩)
  unfold Oper.wp;rw[hop,Yi hen,Oper.upon_enter];refine Calls.mono (hcalls ((hEP▸S1.glob:GlobOK P who1 w).whoC (λb h=>by simp[whoC,h]))) λe w' hp=> ?_
  obtain⟨c,β',who',rfl,_,p1,p2,p3,p4,p5,p6,p7,p8,p9,p10,p11⟩:=hp;have hnd:=(zJ.1 p3).1
  obtain⟨S2,k⟩:=Xo (β':=β') (who':=who') (w':=w') (ln:=[]) (rn:=ps.flatMap (·.2.2)) (ns:=names r) (im:=Qo r) S1 hf (λn hn=>by cases hn) hrnF (by simp) p7 p8 p9 p10
   (λn hn=>p4 n (zN _ hn)) him p11
  refine hnext c w' _ _ (S2.add (new:=[(ren (fresh idx) r,c)]) ?_ ?_ ?_ ?_)
  . intro x hx;obtain rfl:=zA.1 hx;exact Rel.ren p5 k p1
  . simp only[fC,zf1,zL1,qp];exact Qm (λ_ _ _ _ h=>X3 h) hnd
  . intro x hx n hn s hs;obtain rfl:=zA.1 hx;simp only[qp,zQ]at hn;obtain⟨m,hm,rfl⟩:=hn;exact hf m (p4 m (zN _ hm)) (S1.occ s _ (qi hs))
  . intro x hx n hn;obtain rfl:=zA.1 hx;rw[Xl (by rw[Qu];exact p5),qp,zQ]at hn
    obtain⟨m,hm,rfl⟩:=hn;exact .inr ⟨m,p4 m (zN _ hm),rfl⟩
 . exact(Run.fail' h2).elim
def q7d (hT:TTok P T) (hC: ∀f as r os,CO f as r os->X7 P f as r os) (hEP:E.prog=P) {idx mode f:Nat} {o:Oper} {args:List Operand} {tys:List TypeId} {v:AV}
 (h:Run CO (qgw T idx mode f args tys) U v U' R W) (S:Sim E D β who U [] a w) (hf: ∀k,k<16-> ¬D (fresh idx k))
 (hop:execOp a.eval o=callFunc f (args.map a.eval).toArray):OpWp P E D idx U' v o a w:=by
 intro next Q hnext
 obtain⟨ps,U1,_,_,_,_,h1,h2⟩:=Run.bind' h;obtain⟨_,who1,_,S1,hlen,hargs⟩:=Run.passAll hT h1 S
 have hpoX:(∀s∈Xj ps,names (U1.get s)≠[])-> ∀p∈ps,q04 U1 p:=λhs p hp=>by
  obtain⟨i,hi,rfl⟩:=zV hp;exact(hargs i hi (by rw[<-hlen];exact hi)).passOK λs e=>hs s (Qn hp e)
 have hcg: ∀i (hi:i<args.length),(args.map a.eval).toArray.getD i undef=a.eval args[i]:=λi hi=>by simp[Array.getD,hi]
 have hrnF: ∀n∈ps.flatMap (·.2.2),n≠FN:=λn hn=>by
  obtain⟨p,hp,hn⟩:=zC.1 hn;obtain⟨i,hi,rfl⟩:=zV hp;have ha:=hargs i hi (by rw[<-hlen];exact hi)
  generalize ps[i]=p at*
  obtain⟨av,l,rn⟩:=p;cases l with
  |none=>exact ha.2.2.2 n hn
  |some s=>have e:rn=[]:=ha.1;subst e;cases hn
 have hpure: ∀(ln:List Nat) (βc:Beta),(∀n∈ps.flatMap (·.2.2),n∉ln)-> ∀i (hi:i<ps.length),ps[i].2.1=none->Rel βc (whoC who1 ln (ps.flatMap (·.2.2))) w ps[i].1 (a.eval (args[i]'(by rw[<-hlen];exact hi))):=λln βc hd i hi hl=>by
  have ha:=hargs i hi (by rw[<-hlen];exact hi)
  have hsub: ∀n∈ps[i].2.2,n∈ps.flatMap (·.2.2):=λn hn=>zC.2 ⟨_,zM hi,hn⟩
  generalize ps[i]=p at*
  obtain⟨av,l,rn⟩:=p;simp only at hl;subst hl;refine ha.1 βc _ ⟨λb hb=>by simp[whoC,hb],λb n hb hn=> ?_⟩
  simp[whoC,hb,hd n (hsub n hn),hsub n hn]
 split at h2
 ·
  rename_i hl;have hpo:=hpoX (λs hs=>by rw[hl]at hs;cases hs)
  have hnoref:=Y6 hpo;have hnames:=Y4 hpo;obtain⟨⟨r,os⟩,U2,_,_,_,_,h3,h4⟩:=Run.bind' h2;obtain⟨hco,rfl⟩:=Run.mcall' h3;obtain⟨hen,hcall⟩:=hC _ _ _ _ hco;dsimp only at h4;have hnil:(ps.map (·.1)).flatMap names=[]:=by rw[hnames,hl];rfl
  have him:Qo r=true->ps.flatMap (·.2.2)=[]:=λhi=>by
   split at h4
   . exact(Run.fail' h4).elim
   . rename_i hc;simp only[hi,zV2,Bool.not_eq_true']at hc;simpa using hc
  have hv:v=ren (fresh idx) r/\U'=U2:=by
   split at h4
   . exact(Run.fail' h4).elim
   . exact Run.pure' h4
  obtain⟨rfl,rfl⟩:=hv
  have hcalls:=hcall (λ_=>undef) (whoC who1 [] (ps.flatMap (·.2.2))) w (args.map a.eval).toArray (by simp[hlen]) (λi hi=>by
   have hi':i<ps.length:=by simpa using hi
   rw[hcg i (by rw[<-hlen];exact hi'),zD1]
   refine hpure [] _ (λ_ _ h=>by cases h) i hi' ?_
   cases e:ps[i].2.1 with
   |none=>rfl
   |some s=>have:=Qn (zM hi') e;rw[hl]at this;cases this) (by rw[hnil];exact ze1) (by rw[hnil];simp) (Xu hnoref)
   (fun b n hb=>by
     simp only[whoC]at hb;split at hb
     . cases hb
     . rename_i m hm;simp only[zY,if_false]at hb;split at hb
       . cases hb
       . injection hb with hb;exact⟨S1.wsz b m hm,.inr hb.symm⟩)
  unfold Oper.wp;rw[hop,Yi hen,Oper.upon_enter];refine Calls.mono (hcalls ((hEP▸S1.glob:GlobOK P who1 w).whoC (λb h=>by simp[whoC,h]))) λe w' hp=> ?_
  obtain⟨c,β',who',rfl,_,p1,p2,p3,p4,p5,p6,p7,p8,p9,p10,p11⟩:=hp;have hnd:=(zJ.1 p3).1
  obtain⟨S2,k⟩:=Xo (β':=β') (who':=who') (w':=w') (ln:=[]) (rn:=ps.flatMap (·.2.2)) (ns:=names r) (im:=Qo r) S1 hf (λn hn=>by cases hn) hrnF (by simp) p7 p8 p9 p10
   (λn hn=>p4 n (zN _ hn)) him p11
  refine hnext c w' _ _ (S2.add (new:=[(ren (fresh idx) r,c)]) ?_ ?_ ?_ ?_)
  . intro x hx;obtain rfl:=zA.1 hx;exact Rel.ren p5 k p1
  . simp only[fC,zf1,zL1,qp];exact Qm (λ_ _ _ _ h=>X3 h) hnd
  . intro x hx n hn s hs;obtain rfl:=zA.1 hx;simp only[qp,zQ]at hn;obtain⟨m,hm,rfl⟩:=hn;exact hf m (p4 m (zN _ hm)) (S1.occ s _ (qi hs))
  . intro x hx n hn;obtain rfl:=zA.1 hx;rw[Xl (by rw[Qu];exact p5),qp,zQ]at hn
    obtain⟨m,hm,rfl⟩:=hn;exact .inr ⟨m,p4 m (zN _ hm),rfl⟩
 ·
  rename_i s hl;obtain⟨av,U2,_,_,_,_,h3,h4⟩:=Run.bind' h2;obtain⟨rfl,rfl⟩:=Run.mget' h3;split at h4
  . exact(Run.fail' h4).elim
  rename_i hdis;simp only[zQ2,not_or]at hdis;obtain⟨hhd,hdis⟩:=hdis
  have hpo:=hpoX (λs' hs=>by
   rw[hl,zA]at hs;subst hs;intro e;cases e2:Zn (U2.get s')with
   |none=>rw[e2]at hhd;exact hhd rfl
   |some m=>have:=Yy e2;rw[e]at this;cases this)
  have hnoref:=Y6 hpo;have hnames:=Y4 hpo;obtain⟨⟨r,os⟩,U3,_,_,_,_,h5,h6⟩:=Run.bind' h4;obtain⟨hco,rfl⟩:=Run.mcall' h5;obtain⟨hen,hcall⟩:=hC _ _ _ _ hco;dsimp only at h6;split at h6
  case h_2=>exact(Run.fail' h6).elim
  rename_i ov hov;split at h6
  . exact(Run.fail' h6).elim
  rename_i hc
  have hwn:isWn ov=false:=by
   cases e:isWn ov with
   |false=>rfl
   |true=>exact absurd (by rw[e,zH3]) hc
  have hc: ¬(!(ps.flatMap (·.2.2)).isEmpty&&(Qo r||Qo ov))=true:=λe=>hc (by rw[e];rfl)
  obtain⟨_,U4,_,_,_,_,h7,h8⟩:=Run.bind' h6;have:=Run.mset' h7;subst this;obtain⟨rfl,rfl⟩:=Run.pure' h8;obtain⟨i,hi,hps,hos⟩:=q6v hov hl;simp only[zI]at hos;have hai:=hargs i hi (by rw[<-hlen];exact hi)
  obtain⟨m,hbx,hln,hnr,hu⟩: ∃m,Zn (U3.get s)=some m/\(names (U3.get s)).length<=16/\noRef (U3.get s)=true/\a.eval (args[i]'(by rw[<-hlen];exact hi))=hvl β m (U3.get s):=by
   generalize ps[i]=p at*
   obtain⟨av,l,rn⟩:=p;simp only at hps;subst hps;obtain⟨_,hai⟩:=hai;rcases hai with hai|⟨m,q1,q2,q3,q4,q5⟩
   . cases e2:Zn (U3.get s)with
     |none=>rw[e2]at hhd;exact absurd rfl hhd
     |some m=>have:=Yy e2;rw[hai]at this;cases this
   . exact⟨m,q1,q4,q3,q5⟩
  have htmp:a.tmps.getD s undef=hvl β m (U3.get s):=q3m hbx (S1.rel s);generalize hlnn:names (U3.get s)=ln at*
  have hdis': ∀n∈ps.flatMap (·.2.2),n∉ln:=λn hn hn'=>by
   apply hdis;exact List.any_eq_true.2 ⟨n,hn,zK1.2 hn'⟩
  have him:(Qo r||Qo ov)=true->ps.flatMap (·.2.2)=[]:=λhi=>by
   simp only[hi,zV2,Bool.not_eq_true']at hc;simpa using hc
  have hnd0:ln.Nodup:=hlnn▸S1.nod s;have hnam:(ps.map (·.1)).flatMap names=ln.map (idxIn ln):=by rw[hnames,hl];simp[hlnn]
  have hlnD: ∀n∈ln,D n:=λn hn=>S1.occ s n (qi (hlnn▸hn))
  have hcalls:=hcall (λk=>β (ln.getD k 0)) (whoC who1 ln (ps.flatMap (·.2.2))) w (args.map a.eval).toArray (by simp[hlen]) (λj hj=>by
   have hj':j<ps.length:=by simpa using hj
   rw[hcg j (by rw[<-hlen];exact hj'),zD1]
   cases e:ps[j].2.1 with
   |none=>exact hpure ln _ hdis' j hj' e
   |some s'=>
    have:=Qn (zM hj') e;rw[hl,zA]at this;subst this;have haj:=hargs j hj' (by rw[<-hlen];exact hj')
    generalize ps[j]=p at*
    obtain⟨av,l,rn⟩:=p;simp only at e;subst e;obtain⟨_,haj⟩:=haj;obtain⟨m',q1,q2,q3,q4,q5⟩:=haj.resolve_left λe=>by have:=Yy hbx;rw[e]at this;cases this
    simp only at q2;rw[q2,q5,hlnn];have hrel:=S1.rel s';have e2:hvl β m' (U3.get s')=a.tmps.getD s' undef:=(q3m q1 hrel).symm;rw[e2];refine Rel.ren q3 ⟨λn hn=> ?_,λn hn b hb=> ?_,λ_ b hb _=>by simp[whoC,hb]⟩ hrel
    . rw[hlnn]at hn;simp only[Zk hn]
    . rw[hlnn]at hn;simp[whoC,hb,hn]) (by rw[hnam];exact Qm (λ_ h1 _ h2 h=>Jk h1 h2 h) hnd0)
   (by
     rw[hnam];intro n' hn';obtain⟨n,hn,rfl⟩:=zQ.1 hn';have:=X6 hn;omega) (Xu hnoref)
   (fun b n hb=>by
     simp only[whoC]at hb;split at hb
     . cases hb
     . rename_i n' hn';refine⟨S1.wsz b n' hn',?_⟩;split at hb
       . rename_i hin;injection hb with hb
         exact .inl (by rw[hnam,<-hb];exact zQ.2 ⟨n',hin,rfl⟩)
       . split at hb
         . cases hb
         . injection hb with hb;exact .inr hb.symm)
  unfold Oper.wp;rw[hop,Yi hen,Oper.upon_enter];refine Calls.mono (hcalls ((hEP▸S1.glob:GlobOK P who1 w).whoC (λb h=>by simp[whoC,h]))) λe w' hp=> ?_
  obtain⟨c,β',who',rfl,_,p1,p2,p3,p4,p5,p6,p7,p8,p9,p10,p11⟩:=hp;have hov':ov∈os:=List.mem_of_getElem? hos;obtain⟨hnd,hovn⟩:=Xt p3 hov';have hS0:Sim E D β who1 (U3.set s .dead) [] a w:=(S1.takeAll s).drop rfl
  obtain⟨S2,k⟩:=Xo (β':=β') (who':=who') (w':=w') (ln:=ln) (rn:=ps.flatMap (·.2.2)) (ns:=names r++names ov) (im:=Qo r||Qo ov) hS0 hf
   (fun n hn=>⟨λe=>S1.dfn (e▸hlnD n hn),λs' hs'=>by
     by_cases e:s'=s
     . subst e;rw[qg]at hs';simp[names,qh,qf]at hs'
     . rw[qc _ _ e]at hs';exact e (S1.dis s' s n hs' (hlnn▸hn))⟩) hrnF hln p7 p8 p9 p10
   (fun n hn=>by
     rcases zH.1 hn with h|h
     . exact p4 n (zN _ h)
     . exact p4 n (zf _ (hovn n h))) him p11
  have p6':noRef ov=true:=q1s (zX.1 p6 _ hov') hwn
  have hrov:Rel β' who' w' ov (a.tmps.getD s undef):=by
   obtain⟨hi2,e2⟩:=List.getElem?_eq_some_iff.1 hos;have:=p2 i hi2;rw[hcg i (by rw[<-hlen];exact hi),hu,<-htmp,e2]at this
   exact this
  have h16: ∀n,n∈names ov\/n∈names r->n<16:=λn hn=>by
   rcases hn with h|h
   . exact p4 n (zf _ (hovn n h))
   . exact p4 n (zN _ h)
  have hfreshσ: ∀m,m<16-> ∀t,fresh idx m∉names ((U3.set s .dead).get t):=λm hm t ht=>hf m hm (hS0.occ t _ (qi ht))
  have S3:=S2.add (new:=[(ren (fresh idx) ov,a.tmps.getD s undef),(ren (fresh idx) r,c)])
   (fun x hx=>by
     rcases mC hx with rfl|hx
     . exact Rel.ren p6' (k.mono (λn hn=>zf _ hn) λe=>by simp[e]) hrov
     . obtain rfl:=zA.1 hx;exact Rel.ren p5 (k.mono (λn hn=>zN _ hn) λe=>by simp[e]) p1)
   (by
     simp only[fC,zf1,zL1,qp,<-List.map_append];exact Qm (λ_ _ _ _ h=>X3 h) hnd)
   (fun x hx n hn t ht=>by
     have: ∃m,m<16/\n=fresh idx m:=by
      rcases mC hx with rfl|hx
      . simp only[qp,zQ]at hn;obtain⟨m,hm,rfl⟩:=hn;exact⟨m,h16 m (.inl hm),rfl⟩
      . obtain rfl:=zA.1 hx;simp only[qp,zQ]at hn;obtain⟨m,hm,rfl⟩:=hn;exact⟨m,h16 m (.inr hm),rfl⟩
     obtain⟨m,hm,rfl⟩:=this;exact hfreshσ m hm t ht)
   (fun x hx n hn=>by
     rcases mC hx with rfl|hx
     . rw[Xl (by rw[Qu];exact p6'),qp,zQ]at hn
       obtain⟨m,hm,rfl⟩:=hn;exact .inr ⟨m,h16 m (.inl hm),rfl⟩
     . obtain rfl:=zA.1 hx;rw[Xl (by rw[Qu];exact p5),qp,zQ]at hn
       obtain⟨m,hm,rfl⟩:=hn;exact .inr ⟨m,h16 m (.inr hm),rfl⟩)
  have S4:=S3.putBack (by rw[qg];rfl)
  refine hnext c w' _ _ (S4.ext λt=> ?_)
  by_cases e:t=s
  . subst e;rw[qg,qg]
  . rw[qc _ _ e,qc _ _ e,qc _ _ e]
 ·
  rename_i s t hl;obtain⟨av,U2,_,_,_,_,h3,h4⟩:=Run.bind' h2;obtain⟨rfl,rfl⟩:=Run.mget' h3;obtain⟨bv,U2',_,_,_,_,h3',h4'⟩:=Run.bind' h4;obtain⟨rfl,rfl⟩:=Run.mget' h3';split at h4'
  . exact(Run.fail' h4').elim
  rename_i hdis;simp only[zQ2,not_or]at hdis;obtain⟨⟨⟨⟨hst,hhd⟩,hhd2⟩,h16'⟩,hdis⟩:=hdis;have hst:s≠t:=λe=>hst (by rw[e];exact Nat.beq_refl t)
  have h16l:(names (U2'.get s)).length+(names (U2'.get t)).length<=16:=by
   have: ¬(16<(names (U2'.get s)).length+(names (U2'.get t)).length):=λh=>h16' (by simpa [Nat.blt_eq]using h)
   omega
  have hsome: ∀s',s'∈Xj ps-> ∃m,Zn (U2'.get s')=some m:=λs' hs=>by
   rw[hl]at hs;simp only[zO,zY,or_false]at hs;rcases hs with rfl|rfl
   . cases e2:Zn (U2'.get s')with
     |none=>rw[e2]at hhd;exact absurd rfl hhd
     |some m=>exact⟨m,rfl⟩
   . cases e2:Zn (U2'.get s')with
     |none=>rw[e2]at hhd2;exact absurd rfl hhd2
     |some m=>exact⟨m,rfl⟩
  have hpo:=hpoX (λs' hs e=>by
   obtain⟨m,hm⟩:=hsome s' hs;have:=Yy hm;rw[e]at this;cases this)
  have hnoref:=qce (k:=(names (U2'.get s)).length) (s:=t) hpo;have hnames:=qbn (k:=(names (U2'.get s)).length) (s:=t) hpo;obtain⟨⟨r,os⟩,U3,_,_,_,_,h5,h6⟩:=Run.bind' h4';obtain⟨hco,rfl⟩:=Run.mcall' h5;obtain⟨hen,hcall⟩:=hC _ _ _ _ hco;dsimp only at h6;split at h6
  case h_2=>exact(Run.fail' h6).elim
  rename_i o1 o2 hov1 hov2;split at h6
  . exact(Run.fail' h6).elim
  rename_i hc
  have hwn1:isWn o1=false:=by
   cases e:isWn o1 with
   |false=>rfl
   |true=>exact absurd (by rw[e,Bool.true_or,zH3]) hc
  have hwn2:isWn o2=false:=by
   cases e:isWn o2 with
   |false=>rfl
   |true=>exact absurd (by rw[e,zH3,zH3]) hc
  have hc: ¬(!(ps.flatMap (·.2.2)).isEmpty&&(Qo r||Qo o1||Qo o2))=true:=λe=>hc (by rw[e];rfl)
  obtain⟨_,U4,_,_,_,_,h7,h8⟩:=Run.bind' h6;have:=Run.mset' h7;subst this;obtain⟨_,U5,_,_,_,_,h9,h10⟩:=Run.bind' h8;have:=Run.mset' h9;subst this;obtain⟨rfl,rfl⟩:=Run.pure' h10;obtain⟨i1,hi1,hps1,hos1⟩:=q0u hov1;obtain⟨i2,hi2,hps2,hos2⟩:=q0u hov2;simp only[zI]at hos1 hos2;have hi12:i1≠i2:=by rintro rfl;rw[hps1]at hps2;injection hps2 with e;exact hst e
  have hlent: ∀j (hj:j<ps.length) s',ps[j].2.1=some s'-> ∃m,Zn (U3.get s')=some m/\ps[j].1=ren (idxIn (names (U3.get s'))) (U3.get s')/\noRef (U3.get s')=true/\
   a.eval (args[j]'(by rw[<-hlen];exact hj))=a.tmps.getD s' undef:=λj hj s' e=>by
   obtain⟨m0,hm0⟩:=hsome s' (Qn (zM hj) e);have haj:=hargs j hj (by rw[<-hlen];exact hj)
   generalize ps[j]=p at*
   obtain⟨av,l,rn⟩:=p;simp only at e;subst e;obtain⟨_,haj⟩:=haj;obtain⟨m',q1,q2,q3,q4,q5⟩:=haj.resolve_left λe=>by have:=Yy hm0;rw[e]at this;cases this
   exact⟨m',q1,q2,q3,by rw[q5];exact(q3m q1 (S1.rel s')).symm⟩
  obtain⟨ln,hlnn⟩: ∃ln,ln=names (U3.get s)++names (U3.get t):=⟨_,rfl⟩;have hd12: ∀n,n∈names (U3.get s)->n∉names (U3.get t):=λn h1 h2=>hst (S1.dis s t n h1 h2)
  have hln16:ln.length<=16:=by rw[hlnn,zL];exact h16l
  have hdis': ∀n∈ps.flatMap (·.2.2),n∉ln:=λn hn hn'=>by
   apply hdis;exact List.any_eq_true.2 ⟨n,hn,zK1.2 (hlnn▸hn')⟩
  have him:(Qo r||(Qo o1||Qo o2))=true->ps.flatMap (·.2.2)=[]:=λhi=>by
   rw[<-Bool.or_assoc]at hi;simp only[hi,zV2,Bool.not_eq_true']at hc;simpa using hc
  have hnd0:ln.Nodup:=by
   rw[hlnn];exact zJ.2 ⟨S1.nod s,S1.nod t,λx hx y hy e=>hd12 x hx (e▸hy)⟩
  have hsub: ∀s',s'=s\/s'=t-> ∀n∈names (U3.get s'),n∈ln:=λs' h n hn=>by
   rw[hlnn];rcases h with rfl|rfl
   . exact zN _ hn
   . exact zf _ hn
  have hidx: ∀s',s'=s\/s'=t-> ∀n∈names (U3.get s'),(if s'=t then idxIn (names (U3.get s')) n+(names (U3.get s)).length else idxIn (names (U3.get s')) n)=idxIn ln n:=λs' h n hn=>by
   rw[hlnn];rcases h with rfl|rfl
   . rw[iN' hst,qfj hn]
   . rw[iP rfl,qbq (λh=>hd12 n h hn)]
  have hnam:(ps.map (q0q (names (U3.get s)).length t)).flatMap names=ln.map (idxIn ln):=by
   rw[hnames,hl];rw[fC,fC,zf1,zL1];rw[zD2 (hidx s (.inl rfl)),zD2 (hidx t (.inr rfl)),<-List.map_append,<-hlnn]
  have hlnD: ∀n∈ln,D n:=λn hn=>by
   rw[hlnn]at hn;rcases zH.1 hn with hn|hn
   . exact S1.occ s n (qi hn)
   . exact S1.occ t n (qi hn)
  have hmem2: ∀s',s'∈Xj ps->s'=s\/s'=t:=λs' h=>by rw[hl]at h;simpa using h
  have hcalls:=hcall (λk=>β (ln.getD k 0)) (whoC who1 ln (ps.flatMap (·.2.2))) w (args.map a.eval).toArray (by simp[hlen]) (λj hj=>by
   have hj':j<ps.length:=by simpa using hj
   rw[hcg j (by rw[<-hlen];exact hj'),zD1]
   cases e:ps[j].2.1 with
   |none=>
    have:q0q (names (U3.get s)).length t ps[j]=ps[j].1:=by simp only[q0q,e]
    rw[this];exact hpure ln _ hdis' j hj' e
   |some s'=>
    have hs':=hmem2 s' (Qn (zM hj') e);obtain⟨m',q1,q2,q3,q5⟩:=hlent j hj' s' e
    have:q0q (names (U3.get s)).length t ps[j]=ren (idxIn ln) (U3.get s'):=by
     simp only[q0q,e];rw[q2,<-qhv (hidx s' hs')];split
     . rw[qll]
     . rfl
    rw[this,q5];refine Rel.ren q3 ⟨λn hn=> ?_,λn hn b hb=> ?_,λ_ b hb _=>by simp[whoC,hb]⟩ (S1.rel s')
    . simp only[Zk (hsub s' hs' n hn)]
    . simp[whoC,hb,hsub s' hs' n hn]) (by rw[hnam];exact Qm (λ_ h1 _ h2 h=>Jk h1 h2 h) hnd0)
   (by
     rw[hnam];intro n' hn';obtain⟨n,hn,rfl⟩:=zQ.1 hn';have:=X6 hn;omega) (Xu hnoref)
   (fun b n hb=>by
     simp only[whoC]at hb;split at hb
     . cases hb
     . rename_i n' hn';refine⟨S1.wsz b n' hn',?_⟩;split at hb
       . rename_i hin;injection hb with hb
         exact .inl (by rw[hnam,<-hb];exact zQ.2 ⟨n',hin,rfl⟩)
       . split at hb
         . cases hb
         . injection hb with hb;exact .inr hb.symm)
  unfold Oper.wp;rw[hop,Yi hen,Oper.upon_enter];refine Calls.mono (hcalls ((hEP▸S1.glob:GlobOK P who1 w).whoC (λb h=>by simp[whoC,h]))) λe w' hp=> ?_
  obtain⟨c,β',who',rfl,_,p1,p2,p3,p4,p5,p6,p7,p8,p9,p10,p11⟩:=hp;obtain⟨ho1,eo1⟩:=List.getElem?_eq_some_iff.1 hos1;obtain⟨ho2,eo2⟩:=List.getElem?_eq_some_iff.1 hos2;have hov1':o1∈os:=List.mem_of_getElem? hos1;have hov2':o2∈os:=List.mem_of_getElem? hos2;have hovn1:=(Xt p3 hov1').2;have hovn2:=(Xt p3 hov2').2
  have hnd:(names o1++(names o2++names r)).Nodup:=by
   have k1:=qdu ho1 ho2 hi12 (zJ.1 p3).2.1;rw[eo1,eo2]at k1;rw[<-List.append_assoc];refine zJ.2 ⟨k1,(zJ.1 p3).1,λx hx y hy e=> ?_⟩
   refine(zJ.1 p3).2.2 y hy x ?_ e.symm;rcases zH.1 hx with h|h
   . exact hovn1 x h
   . exact hovn2 x h
  have hS00:Sim E D β who1 (U3.set s .dead) [] a w:=(S1.takeAll s).drop rfl;have hS0:Sim E D β who1 ((U3.set s .dead).set t .dead) [] a w:=(hS00.takeAll t).drop rfl
  obtain⟨S2,k⟩:=Xo (β':=β') (who':=who') (w':=w') (ln:=ln) (rn:=ps.flatMap (·.2.2)) (ns:=names r++(names o1++names o2)) (im:=Qo r||(Qo o1||Qo o2)) hS0 hf
   (fun n hn=>⟨λe=>S1.dfn (e▸hlnD n hn),λs' hs'=>by
     by_cases e2:s'=t
     . subst e2;rw[qg]at hs';simp[names,qh,qf]at hs'
     . rw[qc _ _ e2]at hs';by_cases e:s'=s
       . subst e;rw[qg]at hs';simp[names,qh,qf]at hs'
       . rw[qc _ _ e]at hs';rw[hlnn]at hn;rcases zH.1 hn with hn|hn
         . exact e (S1.dis s' s n hs' hn)
         . exact e2 (S1.dis s' t n hs' hn)⟩) hrnF hln16 p7 p8 p9 p10
   (fun n hn=>by
     rcases zH.1 hn with h|h
     . exact p4 n (zN _ h)
     . rcases zH.1 h with h|h
       . exact p4 n (zf _ (hovn1 n h))
       . exact p4 n (zf _ (hovn2 n h))) him p11
  have p61:noRef o1=true:=q1s (zX.1 p6 _ hov1') hwn1;have p62:noRef o2=true:=q1s (zX.1 p6 _ hov2') hwn2
  have hrov1:Rel β' who' w' o1 (a.tmps.getD s undef):=by
   obtain⟨_,_,_,_,q5⟩:=hlent i1 hi1 s hps1;have:=p2 i1 ho1;rw[hcg i1 (by rw[<-hlen];exact hi1),q5,eo1]at this
   exact this
  have hrov2:Rel β' who' w' o2 (a.tmps.getD t undef):=by
   obtain⟨_,_,_,_,q5⟩:=hlent i2 hi2 t hps2;have:=p2 i2 ho2;rw[hcg i2 (by rw[<-hlen];exact hi2),q5,eo2]at this
   exact this
  have h16: ∀n,n∈names o1\/n∈names o2\/n∈names r->n<16:=λn hn=>by
   rcases hn with h|h|h
   . exact p4 n (zf _ (hovn1 n h))
   . exact p4 n (zf _ (hovn2 n h))
   . exact p4 n (zN _ h)
  have hfreshσ: ∀m,m<16-> ∀t',fresh idx m∉names (((U3.set s .dead).set t .dead).get t'):=λm hm t' ht=>hf m hm (hS0.occ t' _ (qi ht))
  have hmemN: ∀x∈[(ren (fresh idx) o1,a.tmps.getD s undef),(ren (fresh idx) o2,a.tmps.getD t undef),(ren (fresh idx) r,c)],∀n∈names x.1,∃m,m<16/\n=fresh idx m:=by
   intro x hx n hn;simp only[zO,zY,or_false]at hx;rcases hx with rfl|rfl|rfl<;>(simp only[qp,zQ]at hn;obtain⟨m,hm,rfl⟩:=hn)
   . exact⟨m,h16 m (.inl hm),rfl⟩
   . exact⟨m,h16 m (.inr (.inl hm)),rfl⟩
   . exact⟨m,h16 m (.inr (.inr hm)),rfl⟩
  have S3:=S2.add (new:=[(ren (fresh idx) o1,a.tmps.getD s undef),(ren (fresh idx) o2,a.tmps.getD t undef),(ren (fresh idx) r,c)])
   (fun x hx=>by
     simp only[zO,zY,or_false]at hx;rcases hx with rfl|rfl|rfl
     . exact Rel.ren p61 (k.mono (λn hn=>zf _ (zN _ hn)) λe=>by simp[e]) hrov1
     . exact Rel.ren p62 (k.mono (λn hn=>zf _ (zf _ hn)) λe=>by simp[e]) hrov2
     . exact Rel.ren p5 (k.mono (λn hn=>zN _ hn) λe=>by simp[e]) p1)
   (by
     simp only[fC,zf1,zL1,qp,<-List.map_append];exact Qm (λ_ _ _ _ h=>X3 h) hnd)
   (fun x hx n hn t' ht=>by
     obtain⟨m,hm,rfl⟩:=hmemN x hx n hn;exact hfreshσ m hm t' ht)
   (fun x hx n hn=>by
     have hnr:noRef x.1=true:=by
      simp only[zO,zY,or_false]at hx;rcases hx with rfl|rfl|rfl<;>rw[Qu]
      . exact p61
      . exact p62
      . exact p5
     rw[Xl hnr]at hn;obtain⟨m,hm,rfl⟩:=hmemN x hx n hn;exact .inr ⟨m,hm,rfl⟩)
  have S4:=S3.putBack (by
   rw[qc _ _ hst,qg];rfl)
  have S5:=S4.putBack (by
   rw[qc _ _ (λe=>hst e.symm),qg];rfl)
  refine hnext c w' _ _ (S5.ext λt'=> ?_)
  by_cases e2:t'=t
  . subst e2;rw[qg,qg]
  . rw[qc _ _ e2,qc _ _ e2];by_cases e:t'=s
    . subst e;rw[qg,qg]
    . rw[qc _ _ e,qc _ _ e,qc _ _ e2,qc _ _ e]
 . exact(Run.fail' h2).elim
end
def RelI.flatW {who who':Who} {w w':World}: ∀{t:Ty} {x:Den t} {g g':Nat->Option Value} {j j':Nat},Xe t=false->(∀i,i<t.size->g' (j'+i)=g (j+i))->RelI who w t x g j->RelI who' w' t x g' j'
 | .int _,_,g,g',j,j',_,hg,h=>by
   have:=hg 0 (by simp[Ty.size])
   exact this.trans h
 | .bool,_,g,g',j,j',_,hg,h=>by
   have:=hg 0 (by simp[Ty.size])
   exact this.trans h
 | .pr a b,_,g,g',j,j',ht,hg,h=>by
   simp only[Xe,zb2]at ht;refine⟨RelI.flatW ht.1 (λi hi=>hg i (by simp only[Ty.size];omega)) h.1,RelI.flatW ht.2 (λi hi=> ?_) h.2⟩
   have:=hg (a.size+i) (by simp only[Ty.size];omega)
   grind
 | .sl _ t,xs,g,g',j,j',ht,hg,h=>by cases ht
def q7f {α:Type} {xs ys:List α} {off len:Nat} (hy:ys.length=len) (h:off+len<=xs.length) {i:Nat} (hi:i<(xs.take off++(ys++xs.drop (off+len))).length):
 (∀(_:i<off) (h2:i<xs.length),(xs.take off++(ys++xs.drop (off+len)))[i]=xs[i])/\
 (∀(h1:off<=i) (h2:i-off<ys.length),(xs.take off++(ys++xs.drop (off+len)))[i]=ys[i-off])/\
 (∀(h1:off+len<=i) (h2:i<xs.length),(xs.take off++(ys++xs.drop (off+len)))[i]=xs[i]):=by
 grind
section
variable {P:Program} {CO:qw} {T:TT} {E:Entry} {D:Nat->Prop} {β β':Beta} {who who':Who} {U U':Slots} {hd:List (AV×Value)} {a:Act} {w w':World} {R W:List Nat}
def qgj (hT:TTok P T) (hC: ∀f as r os,CO f as r os->X7 P f as r os) (hEP:E.prog=P) {idx f:Nat} {o:Oper} {args:List Operand} {tys:List TypeId} {v:AV}
 (h:Run CO (winAV T idx f args tys) U v U' R W) (S:Sim E D β who U [] a w) (hf: ∀k,k<16-> ¬D (fresh idx k))
 (hop:execOp a.eval o=callFunc f (args.map a.eval).toArray):OpWp P E D idx U' v o a w:=by
 intro next Q hnext
 unfold winAV at h;split at h
 case h_2=>exact(Run.fail' h).elim
 rename_i x rest ty tys';obtain⟨ps,U1,_,_,_,_,h1,h2⟩:=Run.bind' h;obtain⟨_,who1,_,S1,hlen,hargs⟩:=Run.passAll hT h1 S;split at h2
 case h_2=>exact(Run.fail' h2).elim
 rename_i hl;obtain⟨rv,U2,_,_,_,_,h3,h4⟩:=Run.bind' h2;obtain⟨rfl,Sr⟩:=Run.rd h3 S1;have hx:=Sr.hrel _ mS;split at h4
 case h_2=>exact(Run.fail' h4).elim
 rename_i s n sz off len;obtain⟨av,U3,_,_,_,_,h5,h6⟩:=Run.bind' h4;obtain⟨rfl,rfl⟩:=Run.mget' h5;split at h6
 case h_2=>exact(Run.fail' h6).elim
 rename_i m t xs hg;split at h6
 case isFalse=>exact(Run.fail' h6).elim
 rename_i hcnd;obtain⟨rfl,rfl,hflat,hnr⟩:=hcnd;obtain⟨_,U4,_,_,_,_,h7,h8⟩:=Run.bind' h6;obtain⟨hpos,rfl⟩:=Run.mask' h7;obtain⟨⟨r,os⟩,U5,_,_,_,_,h9,h10⟩:=Run.bind' h8;obtain⟨hco,rfl⟩:=Run.mcall' h9;obtain⟨hen,hcall⟩:=hC _ _ _ _ hco;dsimp only at h10;split at h10
 case h_2=>exact(Run.fail' h10).elim
 rename_i k z t' ys os';split at h10
 case isFalse=>exact(Run.fail' h10).elim
 rename_i ht;subst ht;obtain⟨_,U6,_,_,_,_,h11,h12⟩:=Run.bind' h10;have:=Run.mset' h11;subst this;obtain⟨rfl,rfl⟩:=Run.pure' h12
 have hpo: ∀p∈ps,q04 U5 p:=λp hp=>by
  obtain⟨i,hi,rfl⟩:=zV hp;exact(hargs i hi (by rw[<-hlen];exact hi)).passOK λs e=>by have:=Qn hp e;rw[hl]at this;cases this
 have hnoref:=Y6 hpo;have hnil:(ps.map (·.1)).flatMap names=[]:=by rw[Y4 hpo,hl];rfl
 have hrnF: ∀n∈ps.flatMap (·.2.2),n≠FN:=λn hn=>by
  obtain⟨p,hp,hn⟩:=zC.1 hn;obtain⟨i,hi,rfl⟩:=zV hp;have ha:=hargs i hi (by rw[<-hlen];exact hi)
  generalize ps[i]=p at*
  obtain⟨av,l,rn⟩:=p;cases l with
  |none=>exact ha.2.2.2 n hn
  |some s=>have e:rn=[]:=ha.1;subst e;cases hn
 have hdis': ∀n'∈ps.flatMap (·.2.2),n'∉[m]:=λn' hn' hc=>by
  obtain rfl:=zA.1 hc;have:=zK1.2 hn';rw[hnr]at this;cases this
 have hpure: ∀(βc:Beta),∀i (hi:i<ps.length),Rel βc (whoC who1 [m] (ps.flatMap (·.2.2))) w ps[i].1 (a.eval (rest[i]'(by rw[<-hlen];exact hi))):=λβc i hi=>by
  have hl':ps[i].2.1=none:=by
   cases e:ps[i].2.1 with
   |none=>rfl
   |some s=>have:=Qn (zM hi) e;rw[hl]at this;cases this
  have ha:=hargs i hi (by rw[<-hlen];exact hi)
  have hsub: ∀n∈ps[i].2.2,n∈ps.flatMap (·.2.2):=λn hn=>zC.2 ⟨_,zM hi,hn⟩
  generalize ps[i]=p at*
  obtain⟨av,l,rn⟩:=p;simp only at hl';subst hl';refine ha.1 βc _ ⟨λb hb=>by simp[whoC,hb],λb n hb hn=> ?_⟩
  simp[whoC,hb,hdis' n (hsub n hn),hsub n hn]
 have hrel:=S1.rel s;rw[hg]at hrel;obtain⟨hβ,hrel⟩:=(hrel:RelN β who1 w m t' xs (a.tmps.getD s undef));obtain⟨A,L,cap,A',hb1,hb2,hb3,hb4,-⟩:=(hx:Jg (β m) t'.size (some (off,len)) (a.eval x))
 obtain⟨b,o',cap',arr,el,e1,e2,e3,e4,e5,e6⟩: ∃b o cap arr el,a.tmps.getD s undef= .slice (some ⟨b,o,none⟩) xs.length cap/\w.heap[b]? =some (.cells arr el (0,0))/\o+cap*t'.size<=arr.size/\
  xs.length<=cap/\who1 b=some m/\Elems who1 w t' xs b o:=by
  rcases hrel with⟨q1,q2⟩|q
  . rw[hβ,hb1]at q1;injection q1 with _ q1 _
    omega
  . exact q
 have hbb:β m= .slice (some ⟨b,o',none⟩) xs.length cap':=by rw[<-hβ];exact e1
 rw[hbb]at hb1;injection hb1 with hA hL hcap
 subst hL hcap hA;have hA':=hb4 O
 have hv:a.eval x= .slice (some ⟨b,o'+off*t'.size,none⟩) len (cap'-off):=(hb3:a.eval x= .slice A' len (cap'-off)).trans (by
  rw[hA',zj1];unfold Addr.add;split
  . rename_i z;rw[z,zU]
  . rfl)
 have hwl:((xs.drop off).take len).length=len:=by rw[zA1,zl1];omega
 have hmul:o'+off*t'.size+(cap'-off)*t'.size<=arr.size:=by
  have:off*t'.size+(cap'-off)*t'.size=cap'*t'.size:=by rw[<-Nat.add_mul];congr 1;omega
  omega
 let βc:Beta:=λk=>if k=98 then .agg arr else a.eval x
 have hcnone: ∀b,who1 b=none->whoC who1 [m] (ps.flatMap (·.2.2)) b=none:=λb hb=>by simp[whoC,hb]
 have hcb:whoC who1 [m] (ps.flatMap (·.2.2)) b=some 0:=by simp[whoC,e5,idxIn]
 have hwin:Rel βc (whoC who1 [m] (ps.flatMap (·.2.2))) w (.wn 0 t' ((xs.drop off).take len)) (a.eval x):=by
  refine⟨⟨rfl,.inr ⟨b,o'+off*t'.size,cap'-off,arr,el,by rw[hwl];exact hv,e2,hmul,O,hcb,λi hi=> ?_⟩⟩,arr,rfl,λb2 o2 L2 cap2 arr2 el2 q1 q2=> ?_⟩
  . rw[hwl]at hi;have hi2:off+i<xs.length:=O;have:=e6 (off+i) hi2;have ge:((xs.drop off).take len)[i]'(by rw[hwl];exact hi)=xs[off+i]:=by rw[zn1,zP2]
    rw[ge];refine RelI.flatW hflat (λj hj=> ?_) this
    rw[show o'+off*t'.size+i*t'.size=o'+(off+i)*t'.size by rw[zu];omega]
  . rw[hv]at q1;injection q1 with q1 _ _
    injection q1 with q1
    injection q1 with q1 _ _
    subst q1;rw[e2]at q2;injection q2 with q2
    injection q2 with q2 _ _
    subst q2;exact⟨rfl,λ_ _=>rfl⟩
 have hnames:(AV.wn 0 t' ((xs.drop off).take len)::ps.map (·.1)).flatMap names=[0]:=by rw[fC,hnil];rfl
 have hcalls:=hcall βc (whoC who1 [m] (ps.flatMap (·.2.2))) w ((x::rest).map a.eval).toArray (by simp[hlen]) (λj hj=>by
  cases j with
  |zero=>exact hwin
  |succ j=>
   have hj':j<ps.length:=by simpa using hj
   have hjr:j<rest.length:=by rw[<-hlen];exact hj'
   have q1:((x::rest).map a.eval).toArray.getD (j+1) undef=a.eval rest[j]:=by simp[Array.getD,hjr]
   rw[q1,zj2,zD1];exact hpure βc j hj') (by rw[hnames];simp) (by rw[hnames];simp) (by
  rw[zg1,Xu hnoref];rfl)
  (fun b n hb=>by
    rw[hnames];simp only[whoC]at hb;split at hb
    . cases hb
    . rename_i n' hn';refine⟨S1.wsz b n' hn',?_⟩;split at hb
      . rename_i hin;obtain rfl:=zA.1 hin;injection hb with hb
        exact .inl (by rw[<-hb];simp[idxIn])
      . split at hb
        . cases hb
        . injection hb with hb;exact .inr hb.symm)
 unfold Oper.wp;rw[hop,Yi hen,Oper.upon_enter];refine Calls.mono (hcalls ((hEP▸S1.glob:GlobOK P who1 w).whoC (λb h=>by simp[whoC,h]))) λe w' hp=> ?_
 obtain⟨c,β',who',rfl,p0,p1,p2,p3,p4,p5,p6,p7,p8,p9,p10,p11⟩:=hp;have hout:=p2 0 (by simp)
 have q1:((x::rest).map a.eval).toArray.getD 0 undef=a.eval x:=by simp[Array.getD]
 rw[q1]at hout;obtain⟨⟨y0,hout⟩,arr0,y1,y2⟩:=(hout:RelN β' who' w' 0 t' ys (a.eval x)/\RelW (β' 98) w' t'.size (a.eval x))
 obtain⟨b2,o2,cap2,arr2,el2,z1,z2,z3,z4,z5,z6⟩: ∃b o cap arr el,a.eval x= .slice (some ⟨b,o,none⟩) ys.length cap/\w'.heap[b]? =some (.cells arr el (0,0))/\o+cap*t'.size<=arr.size/\
  ys.length<=cap/\who' b=some 0/\Elems who' w' t' ys b o:=by
  rcases hout with⟨q1,q2⟩|q
  . rw[hv]at q1;cases q1
  . exact q
 have hyl:ys.length=len/\b2=b/\o2=o'+off*t'.size:=by
  rw[hv]at z1;injection z1 with z1 zl _
  injection z1 with z1
  injection z1 with zb zo _
  exact⟨zl.symm,zb.symm,zo.symm⟩
 obtain⟨hyl,rfl,rfl⟩:=hyl;rw[p0]at y1
 have harr:arr0=arr:=by
  have:βc 98= .agg arr:=iP rfl;rw[this]at y1;injection y1 with y1
  exact y1.symm
 subst harr;obtain⟨hsz2,hout2⟩:=y2 b2 _ _ _ arr2 el2 hv z2;have hS0:Sim E D β who1 (U5.set s .dead) [] a w:=(S1.takeAll s).drop rfl;have hmD:D m:=S1.occ s m (by rw[hg];simp[Vs.occ,occA,occC])
 obtain⟨S2,kk⟩:=Xo (β':=λk=>if k=0 then β m else β' k) (who':=who') (w':=w') (ln:=[m]) (rn:=ps.flatMap (·.2.2)) (ns:=[0]) (im:=false) hS0 hf
  (fun n hn=>by
    obtain rfl:=zA.1 hn;refine⟨λe=>S1.dfn (e▸hmD),λs' hs'=> ?_⟩
    by_cases e:s'=s
    . subst e;rw[qg]at hs';simp[names,qh,qf]at hs'
    . rw[qc _ _ e]at hs';exact e (S1.dis s' s n hs' (by rw[hg];simp[names,qh,qf]))) hrnF (by simp) p7 p8 p9 p10
  (λn hn=>by obtain rfl:=zA.1 hn;omega) (λh=>by cases h) p11
 generalize hβ2:beta2 β (λk=>if k=0 then β m else β' k) idx=β2 at*
 generalize hw2:who2 who1 who' idx [m] [0]=wh2 at*
 have hb0:β2 (fresh idx 0)=β m:=by
  rw[<-hβ2];simp only[beta2];rw[iP (by simp only[fresh];omega),zF3,iP rfl]
 have hwb:wh2 b2=some (fresh idx 0):=by
  rw[<-hw2];simp only[who2,z5];rw[iN' (by simp only[FN];omega),iP (by simp)]
 have hcell: ∀j i,(j+i<o'+off*t'.size\/o'+off*t'.size+len*t'.size<=j+i)->cellAt w' b2 j i=cellAt w b2 j i:=λj i hj=>by
  simp only[cellAt,World.cell?,z2,e2];exact hout2 (j+i) hj
 have hzl:(xs.take off++(ys++xs.drop (off+len))).length=xs.length:=by
  rw[zL,zL,zA1,zl1];omega
 have hnew:Rel β2 wh2 w' (.sl (.nm (fresh idx 0)) t' (xs.take off++(ys++xs.drop (off+len)))) (a.tmps.getD s undef):=by
  refine⟨by rw[hb0];exact hβ,.inr ⟨b2,o',cap',arr2,el2,by rw[hzl];exact e1,z2,O,by rw[hzl];exact e4,hwb,λi hi=> ?_⟩⟩
  rw[hzl]at hi;obtain⟨g1,g2,g3⟩:=q7f (xs:=xs) (ys:=ys) (off:=off) (len:=len) hyl hb2 (i:=i) (by rw[hzl];exact hi)
  by_cases c1:i<off
  . rw[g1 c1 hi];refine RelI.flatW hflat (λj hj=> ?_) (e6 i hi)
    refine hcell _ _ (.inl ?_);have:(i+1)*t'.size<=off*t'.size:=zK _ O;rw[zD3]at this;omega
  . by_cases c2:i<off+len
    . rw[g2 O O];refine RelI.flatW hflat (λj hj=> ?_) (z6 (i-off) O)
      rw[show o'+off*t'.size+(i-off)*t'.size=o'+i*t'.size by
       have:off*t'.size+(i-off)*t'.size=i*t'.size:=by rw[<-Nat.add_mul];congr 1;omega
       omega]
    . rw[g3 O hi];refine RelI.flatW hflat (λj hj=> ?_) (e6 i hi)
      refine hcell _ _ (.inr ?_);have:(off+len)*t'.size<=i*t'.size:=zK _ O;rw[zu]at this;omega
 have S3:=S2.add (new:=[(.sl (.nm (fresh idx 0)) t' (xs.take off++(ys++xs.drop (off+len))),a.tmps.getD s undef),(.int k z,c)])
  (fun y hy=>by
    rcases mC hy with rfl|hy
    . exact hnew
    . obtain rfl:=zA.1 hy;exact p1)
  (by simp[names,qh,qf])
  (fun y hy n hn t ht=>by
    rcases mC hy with rfl|hy
    . have:n=fresh idx 0:=by simpa [names,qh,qf]using hn
      subst this;exact hf 0 O (hS0.occ t _ (qi ht))
    . obtain rfl:=zA.1 hy;simp[names,qh,qf]at hn)
  (fun y hy n hn=>by
    rcases mC hy with rfl|hy
    . have:n=fresh idx 0:=by simpa [Vs.occ,occA,occC]using hn
      exact .inr ⟨0,O,this⟩
    . obtain rfl:=zA.1 hy;simp[Vs.occ,occA,occC]at hn)
 have S4:=S3.putBack (by rw[qg];rfl)
 refine hnext c w' _ _ (S4.ext λt=> ?_)
 by_cases e:t=s
 . subst e;rw[qg,qg]
 . rw[qc _ _ e,qc _ _ e,qc _ _ e]
end
section
variable {P:Program} {CO:qw} {T:TT} {E:Entry} {D:Nat->Prop} {β β':Beta} {who who':Who} {U U':Slots} {hd:List (AV×Value)} {a:Act} {w w':World} {R W:List Nat}
def qfg (hT:TTok P T) (hC: ∀f as r os,CO f as r os->X7 P f as r os) (hEP:E.prog=P) {idx kp f:Nat} {o:Oper} {args:List Operand} {tys:List TypeId} {v:AV}
 (h:Run CO (qg9 T idx kp f args tys) U v U' R W) (S:Sim E D β who U [] a w) (hf: ∀k,k<16-> ¬D (fresh idx k))
 (hop:execOp a.eval o=callFunc f (args.map a.eval).toArray):OpWp P E D idx U' v o a w:=by
 intro next Q hnext
 unfold qg9 at h;split at h
 case h_2=>exact(Run.fail' h).elim
 rename_i x hkx;obtain⟨hkp,hkx⟩:=List.getElem?_eq_some_iff.1 hkx;obtain⟨ps,U1,_,_,_,_,h1,h2⟩:=Run.bind' h;obtain⟨_,who1,_,S1,hlen,hargs⟩:=Run.passAll hT h1 S;split at h2
 case h_2=>exact(Run.fail' h2).elim
 rename_i hl;obtain⟨rv,U2,_,_,_,_,h3,h4⟩:=Run.bind' h2;obtain⟨rfl,Sr⟩:=Run.rd h3 S1;have hx:=Sr.hrel _ mS;split at h4
 case h_2=>exact(Run.fail' h4).elim
 rename_i s n sz off len;obtain⟨av,U3,_,_,_,_,h5,h6⟩:=Run.bind' h4;obtain⟨rfl,rfl⟩:=Run.mget' h5;split at h6
 case h_2=>exact(Run.fail' h6).elim
 rename_i m t xs hg;split at h6
 case isFalse=>exact(Run.fail' h6).elim
 rename_i hcnd;obtain⟨rfl,rfl,hflat,hnr⟩:=hcnd;obtain⟨_,U4,_,_,_,_,h7,h8⟩:=Run.bind' h6;obtain⟨hpos,rfl⟩:=Run.mask' h7;obtain⟨⟨r,os⟩,U5,_,_,_,_,h9,h10⟩:=Run.bind' h8;obtain⟨hco,rfl⟩:=Run.mcall' h9;obtain⟨hen,hcall⟩:=hC _ _ _ _ hco;dsimp only at h10;split at h10
 case h_2=>exact(Run.fail' h10).elim
 rename_i t' ys hos;split at h10
 case isFalse=>exact(Run.fail' h10).elim
 rename_i ht;subst ht;split at h10
 . exact(Run.fail' h10).elim
 rename_i himm;obtain⟨_,U6,_,_,_,_,h11,h12⟩:=Run.bind' h10;obtain⟨av2,hput,rfl⟩:=Run.mupd' h11;rw[hg]at hput
 have hav2:av2= .sl (.nm m) t' (xs.take off++(ys++xs.drop (off+len))):=by
  simp[putN,putC]at hput;exact hput.symm
 subst hav2;obtain⟨rfl,rfl⟩:=Run.pure' h12
 have hpo: ∀p∈ps,q04 U5 p:=λp hp=>by
  obtain⟨i,hi,rfl⟩:=zV hp;exact(hargs i hi (by rw[<-hlen];exact hi)).passOK λs e=>by have:=Qn hp e;rw[hl]at this;cases this
 have hnoref:=Y6 hpo;have hnil:(ps.map (·.1)).flatMap names=[]:=by rw[Y4 hpo,hl];rfl
 have hrnF: ∀n∈ps.flatMap (·.2.2),n≠FN:=λn hn=>by
  obtain⟨p,hp,hn⟩:=zC.1 hn;obtain⟨i,hi,rfl⟩:=zV hp;have ha:=hargs i hi (by rw[<-hlen];exact hi)
  generalize ps[i]=p at*
  obtain⟨av,l,rn⟩:=p;cases l with
  |none=>exact ha.2.2.2 n hn
  |some s=>have e:rn=[]:=ha.1;subst e;cases hn
 have him:Qo r=true->ps.flatMap (·.2.2)=[]:=λhi=>by
  simp only[hi,zV2,Bool.not_eq_true']at himm;simpa using himm
 have hlen2:ps.length+1=args.length:=by rw[hlen];simp;omega
 have hdis': ∀n'∈ps.flatMap (·.2.2),n'∉[m]:=λn' hn' hc=>by
  obtain rfl:=zA.1 hc;have:=zK1.2 hn';rw[hnr]at this;cases this
 have hpure: ∀(βc:Beta),∀i (hi:i<ps.length),Rel βc (whoC who1 [m] (ps.flatMap (·.2.2))) w ps[i].1 (a.eval ((args.take kp++args.drop (kp+1))[i]'(by rw[<-hlen];exact hi))):=λβc i hi=>by
  have hl':ps[i].2.1=none:=by
   cases e:ps[i].2.1 with
   |none=>rfl
   |some s=>have:=Qn (zM hi) e;rw[hl]at this;cases this
  have ha:=hargs i hi (by rw[<-hlen];exact hi)
  have hsub: ∀n∈ps[i].2.2,n∈ps.flatMap (·.2.2):=λn hn=>zC.2 ⟨_,zM hi,hn⟩
  generalize ps[i]=p at*
  obtain⟨av,l,rn⟩:=p;simp only at hl';subst hl';refine ha.1 βc _ ⟨λb hb=>by simp[whoC,hb],λb n hb hn=> ?_⟩
  simp[whoC,hb,hdis' n (hsub n hn),hsub n hn]
 have hrel:=S1.rel s;rw[hg]at hrel;obtain⟨hβ,hrel⟩:=(hrel:RelN β who1 w m t' xs (a.tmps.getD s undef));obtain⟨A,L,cap,A',hb1,hb2,hb3,hb4,-,hb5⟩:=(hx:Jg (β m) t'.size (some (off,len)) (a.eval x))
 obtain⟨b,o',cap',arr,el,e1,e2,e3,e4,e5,e6⟩: ∃b o cap arr el,a.tmps.getD s undef= .slice (some ⟨b,o,none⟩) xs.length cap/\w.heap[b]? =some (.cells arr el (0,0))/\o+cap*t'.size<=arr.size/\
  xs.length<=cap/\who1 b=some m/\Elems who1 w t' xs b o:=by
  rcases hrel with⟨q1,q2⟩|q
  . rw[q2]at hpos;cases hpos
  . exact q
 have hbb:β m= .slice (some ⟨b,o',none⟩) xs.length cap':=by rw[<-hβ];exact e1
 rw[hbb]at hb1;injection hb1 with hA hL hcap
 subst hL hcap hA;obtain⟨o2,ho2,ho2l⟩:=hb5 b o' rfl;subst ho2;have hv:a.eval x= .slice (some ⟨b,o2,none⟩) len (cap'-off):=hb3
 have ho2e:off<cap'->o2=o'+off*t'.size:=λhlt=>by
  have:=hb4 hlt;simp[add_plain]at this;exact this
 have hwl:((xs.drop off).take len).length=len:=by rw[zA1,zl1];omega
 have hmul:o2+(cap'-off)*t'.size<=arr.size:=by
  by_cases hlt:off<cap'
  . have:off*t'.size+(cap'-off)*t'.size=cap'*t'.size:=by rw[<-Nat.add_mul];congr 1;omega
    have:=ho2e hlt;omega
  . rw[show cap'-off=0 by omega,zh2];omega
 let βc:Beta:=λk=>if k=98 then .agg arr else a.eval x
 have hcnone: ∀b,who1 b=none->whoC who1 [m] (ps.flatMap (·.2.2)) b=none:=λb hb=>by simp[whoC,hb]
 have hcb:whoC who1 [m] (ps.flatMap (·.2.2)) b=some 0:=by simp[whoC,e5,idxIn]
 have hwin:Rel βc (whoC who1 [m] (ps.flatMap (·.2.2))) w (.wn 0 t' ((xs.drop off).take len)) (a.eval x):=by
  refine⟨⟨rfl,.inr ⟨b,o2,cap'-off,arr,el,by rw[hwl];exact hv,e2,hmul,O,hcb,λi hi=> ?_⟩⟩,arr,rfl,λb2 o3 L2 cap2 arr2 el2 q1 q2=> ?_⟩
  . rw[hwl]at hi;have hi2:off+i<xs.length:=O;have:=e6 (off+i) hi2;have ge:((xs.drop off).take len)[i]'(by rw[hwl];exact hi)=xs[off+i]:=by rw[zn1,zP2]
    rw[ge];refine RelI.flatW hflat (λj hj=> ?_) this
    rw[show o2+i*t'.size=o'+(off+i)*t'.size by rw[ho2e O,zu];omega]
  . rw[hv]at q1;injection q1 with q1 _ _
    injection q1 with q1
    injection q1 with q1 _ _
    subst q1;rw[e2]at q2;injection q2 with q2
    injection q2 with q2 _ _
    subst q2;exact⟨rfl,λ_ _=>rfl⟩
 have hnt: ∀l:List AV,l.flatMap names=[]->(l.take kp).flatMap names=[]/\(l.drop kp).flatMap names=[]:=λl hl=>by
  rw[<-List.take_append_drop kp l,zS1,List.append_eq_nil_iff]at hl;exact hl
 have hkl:kp<=(ps.map (·.1)).length:=by simp;omega
 have hnames:((ps.map (·.1)).take kp++AV.wn 0 t' ((xs.drop off).take len)::(ps.map (·.1)).drop kp).flatMap names=[0]:=by
  rw[zS1,fC,(hnt _ hnil).1,(hnt _ hnil).2];rfl
 have hcg: ∀j (hj:j<args.length),(args.map a.eval).toArray.getD j undef=a.eval args[j]:=λj hj=>by simp[Array.getD,hj]
 have hcalls:=hcall βc (whoC who1 [m] (ps.flatMap (·.2.2))) w (args.map a.eval).toArray (by simp;omega) (λj hj=>by
  have hj':j<args.length:=by simp at hj;omega
  rw[hcg j hj'];by_cases c1:j<kp
  . have e1:((ps.map (·.1)).take kp++AV.wn 0 t' ((xs.drop off).take len)::(ps.map (·.1)).drop kp)[j]=ps[j].1:=by
     rw[zF1 (by simp;omega),zn1,zD1]
    have e2:(args.take kp++args.drop (kp+1))[j]'(by rw[<-hlen];omega)=args[j]:=by
     rw[zF1 (by simp;omega),zn1]
    rw[e1,<-e2];exact hpure βc j O
  . by_cases c2:j=kp
    . subst c2
      have e1:((ps.map (·.1)).take j++AV.wn 0 t' ((xs.drop off).take len)::(ps.map (·.1)).drop j)[j]=AV.wn 0 t' ((xs.drop off).take len):=by
       have hkl':j<=ps.length:=by simpa using hkl
       rw[zB1 (by simp;omega)]
       simp[zA1,zm2 hkl']
      rw[e1,hkx];exact hwin
    . have hjp:j-1<ps.length:=O
      have e1:((ps.map (·.1)).take kp++AV.wn 0 t' ((xs.drop off).take len)::(ps.map (·.1)).drop kp)[j]=ps[j-1].1:=by
       rw[zB1 (by simp;omega)]
       rw[List.getElem_cons];rw[dif_neg (by simp;omega),zP2,zD1]
       congr 2;simp at hkl;simp[zm2 hkl];omega
      have e2:(args.take kp++args.drop (kp+1))[j-1]'(by rw[<-hlen];omega)=args[j]:=by
       rw[zB1 (by simp;omega),zP2]
       congr 1;simp[zm2 (zE3 hkp)];omega
      rw[e1,<-e2];exact hpure βc (j-1) hjp) (by rw[hnames];simp) (by rw[hnames];simp) (by
  have hok:=Xu hnoref;rw[<-List.take_append_drop kp (ps.map (·.1)),zO3]at hok
  simp only[zF]at hok;rw[zO3,zg1,hok.1,hok.2];rfl)
  (fun b n hb=>by
    rw[hnames];simp only[whoC]at hb;split at hb
    . cases hb
    . rename_i n' hn';refine⟨S1.wsz b n' hn',?_⟩;split at hb
      . rename_i hin;obtain rfl:=zA.1 hin;injection hb with hb
        exact .inl (by rw[<-hb];simp[idxIn])
      . split at hb
        . cases hb
        . injection hb with hb;exact .inr hb.symm)
 unfold Oper.wp;rw[hop,Yi hen,Oper.upon_enter];refine Calls.mono (hcalls ((hEP▸S1.glob:GlobOK P who1 w).whoC (λb h=>by simp[whoC,h]))) λe w' hp=> ?_
 obtain⟨c,β',who',rfl,p0,p1,p2,p3,p4,p5,p6,p7,p8,p9,p10,p11⟩:=hp;obtain⟨hi2,hos'⟩:=List.getElem?_eq_some_iff.1 hos;have hout:=p2 kp hi2;rw[hcg kp hkp,hkx,hos']at hout;have hovm:AV.wn 0 t' ys∈os:=List.mem_of_getElem? hos;obtain⟨hnd,hovn⟩:=Xt p3 hovm;have h0r:0∉names r:=λh0=>(zJ.1 hnd).2.2 0 (by simp[names,qh,qf]) 0 h0 rfl
 have hndr:=(zJ.1 hnd).2.1;obtain⟨⟨y0,hout⟩,arr0,y1,y2⟩:=(hout:RelN β' who' w' 0 t' ys (a.eval x)/\RelW (β' 98) w' t'.size (a.eval x))
 obtain⟨b2,o3,cap2,arr2,el2,z1,z2,z3,z4,z5,z6⟩: ∃b o cap arr el,a.eval x= .slice (some ⟨b,o,none⟩) ys.length cap/\w'.heap[b]? =some (.cells arr el (0,0))/\o+cap*t'.size<=arr.size/\
  ys.length<=cap/\who' b=some 0/\Elems who' w' t' ys b o:=by
  rcases hout with⟨q1,q2⟩|q
  . rw[hv]at q1;cases q1
  . exact q
 have hyl:ys.length=len/\b2=b/\o2=o3:=by
  rw[hv]at z1;injection z1 with z1 zl _
  injection z1 with z1
  injection z1 with zb zo _
  exact⟨zl.symm,zb.symm,zo⟩
 obtain⟨hyl,rfl,rfl⟩:=hyl;rw[p0]at y1
 have harr:arr0=arr:=by
  have:βc 98= .agg arr:=iP rfl;rw[this]at y1;injection y1 with y1
  exact y1.symm
 subst harr;obtain⟨hsz2,hout2⟩:=y2 b2 _ _ _ arr2 el2 hv z2;have hS0:Sim E D β who1 (U5.set s .dead) [] a w:=(S1.takeAll s).drop rfl;have hmD:D m:=S1.occ s m (by rw[hg];simp[Vs.occ,occA,occC])
 obtain⟨S2,kk⟩:=Xo (β':=λk=>if k=0 then β m else β' k) (who':=who') (w':=w') (ln:=[m]) (rn:=ps.flatMap (·.2.2)) (ns:=names r++[0]) (im:=Qo r) hS0 hf
  (fun n hn=>by
    obtain rfl:=zA.1 hn;refine⟨λe=>S1.dfn (e▸hmD),λs' hs'=> ?_⟩
    by_cases e:s'=s
    . subst e;rw[qg]at hs';simp[names,qh,qf]at hs'
    . rw[qc _ _ e]at hs';exact e (S1.dis s' s n hs' (by rw[hg];simp[names,qh,qf]))) hrnF (by simp) p7 p8 p9 p10
  (fun n hn=>by
    rcases zH.1 hn with h|h
    . exact p4 n (zN _ h)
    . obtain rfl:=zA.1 h;omega) him p11
 generalize hβ2:beta2 β (λk=>if k=0 then β m else β' k) idx=β2 at*
 generalize hw2:who2 who1 who' idx [m] (names r++[0])=wh2 at*
 have hin15: ∀n,D n-> ¬(fresh idx 0<=n/\n<=fresh idx 15):=λn hn ⟨h1,h2⟩=>by
  refine hf (n-fresh idx 0) (by simp only[fresh]at*;omega) ?_
  rwa [show fresh idx (n-fresh idx 0)=n by simp only[fresh]at*;omega]
 have hbm:β2 m=β m:=by rw[<-hβ2];simp only[beta2];rw[iN' (hin15 m hmD)]
 have h0D: ¬D (fresh idx 0):=hf 0 O;have h0m:fresh idx 0≠m:=λe=>h0D (e▸hmD)
 have h0F:fresh idx 0≠FN:=by simp only[fresh,FN];omega
 have hwb:wh2 b2=some (fresh idx 0):=kk.own 0 (by simp) b2 z5
 let who3:Who:=λb'=>if wh2 b'=some (fresh idx 0)then some m else wh2 b'
 have h3q: ∀b',wh2 b'=some (fresh idx 0)->who3 b'=some m:=λb' g=>iP g
 have h3n: ∀b',wh2 b'≠some (fresh idx 0)->who3 b'=wh2 b':=λb' g=>iN' g
 have h3none: ∀b',wh2 b'=none->who3 b'=none:=λb' hb=>by rw[h3n b' (by rw[hb];simp)];exact hb
 have h0S: ∀s',fresh idx 0∉names ((U5.set s .dead).get s'):=λs' hs=>h0D (hS0.occ s' _ (qi hs))
 have Sh:Sim E (Dn D idx) β2 who3 (U5.set s .dead) [] a w':=by
  refine S2.shift (X:=[fresh idx 0]) (by simpa using λe=>h0F e.symm) (λ_ _=>rfl)
   (fun b' x hb hx=>⟨by
     rw[h3n b' (by rw[hb];intro e;injection e with e;exact hx (by simp[e]))];exact hb,rfl⟩)
   (fun b' hb=>⟨h3none b' hb,rfl⟩) (λb' x hb=>by
     by_cases g:wh2 b'=some (fresh idx 0)
     . exact⟨_,g⟩
     . rw[h3n b' g]at hb;exact⟨_,hb⟩) rfl (λs' x hx hs=>by
     obtain rfl:=zA.1 hx;exact absurd hs (h0S s')) (λz hz=>by cases hz) ⟨rfl,rfl⟩
 have hcell: ∀j i,(j+i<o2\/o2+len*t'.size<=j+i)->cellAt w' b2 j i=cellAt w b2 j i:=λj i hj=>by
  simp only[cellAt,World.cell?,z2,e2];exact hout2 (j+i) hj
 have hzl:(xs.take off++(ys++xs.drop (off+len))).length=xs.length:=by
  rw[zL,zL,zA1,zl1];omega
 have hnew:Rel β2 who3 w' (.sl (.nm m) t' (xs.take off++(ys++xs.drop (off+len)))) (a.tmps.getD s undef):=by
  refine⟨by rw[hbm];exact hβ,.inr ⟨b2,o',cap',arr2,el2,by rw[hzl];exact e1,z2,O,by rw[hzl];exact e4,h3q b2 hwb,λi hi=> ?_⟩⟩
  rw[hzl]at hi;obtain⟨g1,g2,g3⟩:=q7f (xs:=xs) (ys:=ys) (off:=off) (len:=len) hyl hb2 (i:=i) (by rw[hzl];exact hi)
  have hlen0:len=0\/o2=o'+off*t'.size:=by
   by_cases hlt:off<cap'
   . exact .inr (ho2e hlt)
   . exact .inl O
  by_cases c1:i<off
  . rw[g1 c1 hi];refine RelI.flatW hflat (λj hj=> ?_) (e6 i hi)
    refine hcell _ _ ?_;have:(i+1)*t'.size<=off*t'.size:=zK _ O;rw[zD3]at this;rcases hlen0 with z|z
    . rw[z,zh2];omega
    . omega
  . by_cases c2:i<off+len
    . rw[g2 O O];refine RelI.flatW hflat (λj hj=> ?_) (z6 (i-off) O)
      rw[show o2+(i-off)*t'.size=o'+i*t'.size by
       have:off*t'.size+(i-off)*t'.size=i*t'.size:=by rw[<-Nat.add_mul];congr 1;omega
       have:=ho2e O;omega]
    . rw[g3 O hi];refine RelI.flatW hflat (λj hj=> ?_) (e6 i hi)
      refine hcell _ _ ?_;have:(off+len)*t'.size<=i*t'.size:=zK _ O;rw[zu]at this;rcases hlen0 with z|z
      . rw[z,zh2];omega
      . omega
 have kr:RenOK β' who' w' β2 who3 (fresh idx) (names r) (Qo r):=
  ⟨fun n hn=>by
    have:=kk.beta n (zN _ hn);rw[this];exact iN' (λe=>by rw[e]at hn;exact h0r hn),λn hn b hb=>by
    have:=kk.own n (zN _ hn) b hb
    rw[h3n b (by
     rw[this];intro e;injection e with e
     have:=X3 e;exact h0r (this▸hn))]
    exact this,λhi b hb hl=>h3none b (kk.imm hi b hb hl)⟩
 have S4:=Sh.recast (s:=s) (v:= .sl (.nm m) t' (xs.take off++(ys++xs.drop (off+len)))) (qg ..) hnew (by simp[names,qh,qf])
  (fun x hx s' hs=>by
    have:x=m:=by simpa [names,qh,qf]using hx
    subst this;by_cases e:s'=s
    . subst e;rw[qg]at hs;simp[names,qh,qf]at hs
    . rw[qc _ _ e]at hs;exact e (S1.dis s' s _ hs (by rw[hg];simp[names,qh,qf])))
  (fun x hx=>by
    have:x=m:=by simpa [Vs.occ,occA,occC]using hx
    subst this;exact .inl hmD)
 have S5:=S4.add (new:=[(ren (fresh idx) r,c)])
  (fun y hy=>by
    obtain rfl:=zA.1 hy;exact Rel.ren p5 kr p1)
  (by
    simp only[fC,zf1,zL1,qp];exact Qm (λ_ _ _ _ h=>X3 h) hndr)
  (fun y hy n hn s' hs=>by
    obtain rfl:=zA.1 hy;simp only[qp,zQ]at hn;obtain⟨k,hk,rfl⟩:=hn;have hkD:=hf k (p4 k (zN _ hk));by_cases e:s'=s
    . subst e;rw[qg]at hs;have:fresh idx k=m:=by simpa [names,qh,qf]using hs
      exact hkD (this▸hmD)
    . rw[qc _ _ e]at hs;exact hkD (hS0.occ s' _ (qi hs)))
  (fun y hy n hn=>by
    obtain rfl:=zA.1 hy;rw[Xl (by rw[Qu];exact p5),qp,zQ]at hn
    obtain⟨k,hk,rfl⟩:=hn;exact .inr ⟨k,p4 k (zN _ hk),rfl⟩)
 refine hnext c w' _ _ (S5.ext λt=> ?_)
 by_cases e:t=s
 . subst e;rw[qg,qg]
 . rw[qc _ _ e,qc _ _ e,qc _ _ e]
end
section
variable {P:Program} {CO:qw} {T:TT} {E:Entry} {D:Nat->Prop} {β β':Beta} {who who':Who} {U U':Slots} {hd:List (AV×Value)} {a:Act} {w w':World} {R W:List Nat}
def qgv (hT:TTok P T) (hC: ∀f as r os,CO f as r os->X7 P f as r os) (hEP:E.prog=P) {idx f:Nat} {o:Oper} {args:List Operand} {tys:List TypeId} {v:AV}
 (h:Run CO (rowAV T idx f args tys) U v U' R W) (S:Sim E D β who U [] a w) (hf: ∀k,k<16-> ¬D (fresh idx k))
 (hop:execOp a.eval o=callFunc f (args.map a.eval).toArray):OpWp P E D idx U' v o a w:=by
 classical
 intro next Q hnext
 unfold rowAV at h;split at h
 case h_2=>exact(Run.fail' h).elim
 rename_i x rest ty tys';obtain⟨ps,U1,_,_,_,_,h1,h2⟩:=Run.bind' h;obtain⟨_,who1,_,S1,hlen,hargs⟩:=Run.passAll hT h1 S;split at h2
 case h_2=>exact(Run.fail' h2).elim
 rename_i hl;obtain⟨rv,U2,_,_,_,_,h3,h4⟩:=Run.bind' h2;obtain⟨rfl,Sr⟩:=Run.rd h3 S1;have hx:=Sr.hrel _ mS;split at h4
 case h_2=>exact(Run.fail' h4).elim
 rename_i s n i;obtain⟨av,U3,_,_,_,_,h5,h6⟩:=Run.bind' h4;obtain⟨rfl,rfl⟩:=Run.mget' h5;split at h6
 case h_2=>exact(Run.fail' h6).elim
 rename_i m t xs hg;split at h6
 case isFalse=>exact(Run.fail' h6).elim
 rename_i hcnd;obtain⟨rfl,hnr,hnr15⟩:=hcnd;obtain⟨⟨r,os⟩,U5,_,_,_,_,h9,h10⟩:=Run.bind' h6;obtain⟨hco,rfl⟩:=Run.mcall' h9;obtain⟨hen,hcall⟩:=hC _ _ _ _ hco;dsimp only at h10;split at h10
 case h_2=>exact(Run.fail' h10).elim
 rename_i q t' ys os';split at h10
 case isFalse=>exact(Run.fail' h10).elim
 rename_i ht;subst ht;split at h10
 . exact(Run.fail' h10).elim
 rename_i himm;obtain⟨_,U6,_,_,_,_,h11,h12⟩:=Run.bind' h10;have:=Run.mset' h11;subst this;obtain⟨rfl,rfl⟩:=Run.pure' h12
 have hpo: ∀p∈ps,q04 U5 p:=λp hp=>by
  obtain⟨i,hi,rfl⟩:=zV hp;exact(hargs i hi (by rw[<-hlen];exact hi)).passOK λs e=>by have:=Qn hp e;rw[hl]at this;cases this
 have hnoref:=Y6 hpo;have hnil:(ps.map (·.1)).flatMap names=[]:=by rw[Y4 hpo,hl];rfl
 have hrnF: ∀n∈ps.flatMap (·.2.2),n≠FN:=λn hn=>by
  obtain⟨p,hp,hn⟩:=zC.1 hn;obtain⟨i,hi,rfl⟩:=zV hp;have ha:=hargs i hi (by rw[<-hlen];exact hi)
  generalize ps[i]=p at*
  obtain⟨av,l,rn⟩:=p;cases l with
  |none=>exact ha.2.2.2 n hn
  |some s=>have e:rn=[]:=ha.1;subst e;cases hn
 have him:(Qo r||Xe t')=true->ps.flatMap (·.2.2)=[]:=λhi=>by
  simp only[hi,zV2,Bool.not_eq_true']at himm;simpa using himm
 generalize hrn:ps.flatMap (·.2.2)=rn at*
 have hmr:m∉rn:=λh=>by have:=zK1.2 h;rw[hnr]at this;cases this
 have h15r:fresh idx 15∉rn:=λh=>by have:=zK1.2 h;rw[hnr15]at this;cases this
 have hmD:D m:=S1.occ s m (by rw[hg];simp[Vs.occ,occA,occC])
 have hmF:m≠FN:=λe=>S1.dfn (e▸hmD)
 have h15D: ¬D (fresh idx 15):=hf 15 O;have h15m:fresh idx 15≠m:=λe=>h15D (e▸hmD)
 have h15F:fresh idx 15≠FN:=by simp only[fresh,FN];omega
 have hdp:=S1.dp hg;obtain⟨hx1,-,a0,L0,c0,hx2,hx3⟩:=(hx:DrVal (β m) (.row i) (a.eval x));replace hx1:a.eval x=dpv (β m) (i+1):=hx1;obtain⟨ad1,cap1,hb1⟩:=hdp.base;rw[hb1]at hx2;injection hx2 with _ hL _
 subst hL;obtain⟨d1,b0,o0,cap,arr,el,e1,e2,e3,e4,e5,e6,e7⟩:=hdp.pos (.inr (Q7 hx3));have hxi:xs.getD i []=xs[i]:=by simp[List.getD,List.getElem?_eq_getElem hx3]
 rw[hxi]at hcall
 let G:Nat->Prop:=λb'=> ∃oi li ci,dpv (β m) (i+1)= .slice (some ⟨b',oi,none⟩) li ci
 have hG: ∀b',G b'->who1 b'=some m/\b'≠b0:=by
  rintro b' ⟨oi,li,ci,hg'⟩
  rcases(e6 i hx3 (by simp)).2 with⟨q,_⟩|⟨bi,oi',ci',ar,l,k1,k2,k3,k4,k5,k6,k7⟩
  . rw[q]at hg';cases hg'
  . grind
 let whoR:Who:=λb'=>if G b' then some (fresh idx 15)else who1 b'
 have hRG: ∀b',G b'->whoR b'=some (fresh idx 15):=λb' g=>iP g
 have hRn: ∀b',¬G b'->whoR b'=who1 b':=λb' g=>iN' g
 have hRnone: ∀b',who1 b'=none->whoR b'=none:=λb' hb=>by
  rw[hRn b' (λg=>by rw[(hG b' g).1]at hb;cases hb)];exact hb
 have hRnone': ∀b',whoR b'=none->who1 b'=none:=λb' hb=>by
  by_cases g:G b'
  . rw[hRG b' g]at hb;cases hb
  . rw[hRn b' g]at hb;exact hb
 have hS0:Sim E D β whoR (U5.set s .dead) [] a w:=by
  refine((S1.takeAll s).drop rfl).shift (X:=[m]) (by simpa using λe=>hmF e.symm) (λ_ _=>rfl)
   (fun b' x hb hx=>⟨by
     rw[hRn b' (λg=>by
      rw[(hG b' g).1]at hb;injection hb with hb;exact hx (by simp[hb]))];exact hb,rfl⟩)
   (fun b' hb=>⟨hRnone b' hb,rfl⟩) (λb' x hb=>by
     by_cases g:G b'
     . exact⟨_,(hG b' g).1⟩
     . rw[hRn b' g]at hb;exact⟨_,hb⟩) rfl (λs' x hx hs=>by
     obtain rfl:=zA.1 hx;by_cases e:s'=s
     . subst e;rw[qg]at hs;simp[names,qh,qf]at hs
     . rw[qc _ _ e]at hs;exact absurd (S1.dis s' s _ hs (by rw[hg];simp[names,qh,qf])) e) (λz hz=>by cases hz) ⟨rfl,rfl⟩
 let whoK:Who:=whoC whoR [fresh idx 15] rn
 have hKG: ∀b',G b'->whoK b'=some 0:=λb' g=>by simp[whoK,whoC,hRG b' g,idxIn]
 have hKnone: ∀b',who1 b'=none->whoK b'=none:=λb' hb=>by simp[whoK,whoC,hRnone b' hb]
 have hKm: ∀b',who1 b'=some m-> ¬G b'->whoK b'=some FN:=λb' hb g=>by
  have: ¬(m=fresh idx 15):=λe=>h15m e.symm
  simp[whoK,whoC,hRn b' g,hb,this,hmr]
 let βc:Beta:=λ_=>a.eval x
 have hpure: ∀i (hi:i<ps.length),Rel βc whoK w ps[i].1 (a.eval (rest[i]'(by rw[<-hlen];exact hi))):=λi hi=>by
  have hl':ps[i].2.1=none:=by
   cases e:ps[i].2.1 with
   |none=>rfl
   |some s=>have:=Qn (zM hi) e;rw[hl]at this;cases this
  have ha:=hargs i hi (by rw[<-hlen];exact hi)
  have hsub: ∀n∈ps[i].2.2,n∈rn:=λn hn=>hrn▸zC.2 ⟨_,zM hi,hn⟩
  generalize ps[i]=p at*
  obtain⟨av,l,rn'⟩:=p;simp only at hl';subst hl';refine ha.1 βc _ ⟨λb hb=>hKnone b hb,λb n hb hn=> ?_⟩
  have hnr:=hsub n hn;have g: ¬G b:=λg=>by rw[(hG b g).1]at hb;injection hb with hb;exact hmr (hb▸hnr)
  have n15: ¬(n=fresh idx 15):=λe=>h15r (e▸hnr)
  simp[whoK,whoC,hRn b g,hb,n15,hnr]
 have hE1: ∀(zs:List (Den t')) b o,Elems who1 w t' zs b o->Elems whoK w t' zs b o:=λzs b o he=>
  he.keep (λb' hb _=>⟨hKnone b' hb,rfl⟩) (zD _) rfl
 have hrow:Rel βc whoK w (.sl (.nm 0) t' xs[i]) (a.eval x):=by
  refine⟨rfl,?_⟩;rw[hx1];rcases(e6 i hx3 (by simp)).2 with⟨q1,q2⟩|⟨bi,oi,ci,ar,l,k1,k2,k3,k4,k5,k6,k7⟩
  . exact .inl ⟨q1,q2⟩
  . exact .inr ⟨bi,oi,ci,ar,l,k1,k2,k3,k4,hKG bi ⟨_,_,_,k1⟩,hE1 _ _ _ k7⟩
 have hnames:(AV.sl (.nm 0) t' xs[i]::ps.map (·.1)).flatMap names=[0]:=by rw[fC,hnil];rfl
 have hcalls:=hcall βc whoK w ((x::rest).map a.eval).toArray (by simp[hlen]) (λj hj=>by
  cases j with
  |zero=>exact hrow
  |succ j=>
   have hj':j<ps.length:=by simpa using hj
   have hjr:j<rest.length:=by rw[<-hlen];exact hj'
   have q1:((x::rest).map a.eval).toArray.getD (j+1) undef=a.eval rest[j]:=by simp[Array.getD,hjr]
   rw[q1,zj2,zD1];exact hpure j hj') (by rw[hnames];simp) (by rw[hnames];simp) (by
  rw[zg1,Xu hnoref];rfl)
  (fun b n hb=>by
    rw[hnames];simp only[whoK,whoC]at hb;split at hb
    . cases hb
    . rename_i n' hn';refine⟨hS0.wsz b n' hn',?_⟩;split at hb
      . rename_i hin;obtain rfl:=zA.1 hin;injection hb with hb
        exact .inl (by rw[<-hb];simp[idxIn])
      . split at hb
        . cases hb
        . injection hb with hb;exact .inr hb.symm)
 unfold Oper.wp;rw[hop,Yi hen,Oper.upon_enter];refine Calls.mono (hcalls ((hEP▸S1.glob:GlobOK P who1 w).whoC (λb h=>hKnone b h))) λe w' hp=> ?_
 obtain⟨c,β',who',rfl,p0,p1,p2,p3,p4,p5,p6,p7,p8,p9,p10,p11⟩:=hp;have hout:=p2 0 (by simp)
 have q1:((x::rest).map a.eval).toArray.getD 0 undef=a.eval x:=by simp[Array.getD]
 rw[q1]at hout;obtain⟨y0,hout⟩:=(hout:RelN β' who' w' q t' ys (a.eval x));have hq16:q<16:=p4 q (zf _ (by simp[names,qh,qf]))
 have hqr:q∉names r:=λhq=>by
  have:=(zJ.1 p3).2.2 q hq q (by simp[names,qh,qf])
  exact this rfl
 have hnd:=(zJ.1 p3).1
 obtain⟨S2,kk⟩:=Xo (β':=β') (who':=who') (w':=w') (ln:=[fresh idx 15]) (rn:=rn) (ns:=names r++[q]) (im:=Qo r||Xe t') hS0 hf
  (fun n hn=>by
    obtain rfl:=zA.1 hn;exact⟨h15F,λs' hs'=>h15D (hS0.occ s' _ (qi hs'))⟩) hrnF (by simp) p7 p8 p9 p10
  (fun n hn=>by
    rcases zH.1 hn with h|h
    . exact p4 n (zN _ h)
    . obtain rfl:=zA.1 h;exact hq16) him p11
 have hin15: ∀n,D n-> ¬(fresh idx 0<=n/\n<=fresh idx 15):=λn hn ⟨h1,h2⟩=>by
  refine hf (n-fresh idx 0) (by simp only[fresh]at*;omega) ?_
  rwa [show fresh idx (n-fresh idx 0)=n by simp only[fresh]at*;omega]
 have hβm:beta2 β β' idx m=β m:=by simp only[beta2];rw[iN' (hin15 m hmD)]
 have hw2m: ∀b',who1 b'=some m-> ¬G b'->who2 whoR who' idx [fresh idx 15] (names r++[q]) b'=some m/\w'.heap[b']? =w.heap[b']? :=λb' hb g=>by
  have hk:=hKm b' hb g;refine⟨?_,p7 b' (S1.wsz b' m hb) (.inr hk)⟩;simp only[who2,p10 b' hk];rw[iP trivial,hRn b' g,hb]
 have hw2none: ∀b',who1 b'=none->b'<w.heap.size->who2 whoR who' idx [fresh idx 15] (names r++[q]) b'=none/\w'.heap[b']? =w.heap[b']? :=λb' hb hlt=>by
  have hk:=hKnone b' hb;refine⟨?_,p7 b' hlt (.inl hk)⟩
  have:who' b'=none:=by
   cases e:who' b' with
   |none=>rfl
   |some n=>
    rcases(p8 b' n e).2 with h|h
    . exact absurd hk h
    . omega
  simp only[who2,this,hRnone b' hb]
 generalize hβ2:beta2 β β' idx=β2 at*
 have hw2q: ∀b',who' b'=some q->who2 whoR who' idx [fresh idx 15] (names r++[q]) b'=some (fresh idx q):=λb' hb=>kk.own q (by simp) b' hb
 generalize hw2:who2 whoR who' idx [fresh idx 15] (names r++[q])=wh2 at*
 have hqD: ¬D (fresh idx q):=hf q hq16;have hqm:fresh idx q≠m:=λe=>hqD (e▸hmD)
 have hqF:fresh idx q≠FN:=by simp only[fresh,FN];omega
 let who3:Who:=λb'=>if wh2 b'=some (fresh idx q)then some m else wh2 b'
 have h3q: ∀b',wh2 b'=some (fresh idx q)->who3 b'=some m:=λb' g=>iP g
 have h3n: ∀b',wh2 b'≠some (fresh idx q)->who3 b'=wh2 b':=λb' g=>iN' g
 have h3none: ∀b',wh2 b'=none->who3 b'=none:=λb' hb=>by rw[h3n b' (by rw[hb];simp)];exact hb
 have h3m: ∀b',wh2 b'=some m->who3 b'=some m:=λb' hb=>by
  rw[h3n b' (by rw[hb];intro e;injection e with e;exact hqm e.symm)];exact hb
 have hqS: ∀s',fresh idx q∉names ((U5.set s .dead).get s'):=λs' hs=>hqD (hS0.occ s' _ (qi hs))
 have S3:Sim E (Dn D idx) β2 who3 (U5.set s .dead) [] a w':=by
  refine S2.shift (X:=[fresh idx q]) (by simpa using λe=>hqF e.symm) (λ_ _=>rfl)
   (fun b' x hb hx=>⟨by
     rw[h3n b' (by rw[hb];intro e;injection e with e;exact hx (by simp[e]))];exact hb,rfl⟩)
   (fun b' hb=>⟨h3none b' hb,rfl⟩) (λb' x hb=>by
     by_cases g:wh2 b'=some (fresh idx q)
     . exact⟨_,g⟩
     . rw[h3n b' g]at hb;exact⟨_,hb⟩) rfl (λs' x hx hs=>by
     obtain rfl:=zA.1 hx;exact absurd hs (hqS s')) (λz hz=>by cases hz) ⟨rfl,rfl⟩
 have hE3: ∀(zs:List (Den t')) b o,w'.heap[b]? =w.heap[b]? ->Elems who1 w t' zs b o->Elems who3 w' t' zs b o:=λzs b o hb he=>
  he.keep (λb' hb hlt=>⟨h3none b' (hw2none b' hb hlt).1,(hw2none b' hb hlt).2⟩) p9 hb
 have hE4: ∀(zs:List (Den t')) b o,Elems who' w' t' zs b o->Elems who3 w' t' zs b o:=λzs b o he=>by
  cases ht:Xe t' with
  |true=>exact he.keep (λb' hb hl=>⟨h3none b' (kk.imm (by rw[ht,zH3]) b' hb hl),rfl⟩) (zD _) rfl
  |false=>exact λi hi=>RelI.flat ht (he i hi)
 have hyl:ys.length=xs[i].length:=by
  rw[hx1]at hout;rcases(e6 i hx3 (by simp)).2 with⟨q1,q2⟩|⟨bi,oi,ci,ar,l,k1,k2,k3,k4,k5,k6,k7⟩
  . rcases hout with⟨z1,z2⟩|⟨b2,o2,cap2,arr2,el2,z1,_⟩
    . rw[q2,z2]
    . rw[q1]at z1;cases z1
  . rcases hout with⟨z1,z2⟩|⟨b2,o2,cap2,arr2,el2,z1,_⟩
    . rw[k1]at z1;cases z1
    . rw[k1]at z1;injection z1 with _ z _;exact z.symm
 have hnew:RelDp β2 who3 w' m t' (xs.set i ys) none (a.tmps.getD s undef):=by
  obtain⟨g0,g1⟩:=hw2m b0 e5 (λg=>(hG b0 g).2 rfl)
  refine⟨by rw[hβm];exact d1,.inr ⟨b0,o0,cap,arr,el,by simpa using e1,by rw[g1];exact e2,e3,by simpa using e4,h3m b0 g0,λj hj _=> ?_,?_⟩⟩
  . have hj':j<xs.length:=by simpa using hj
    obtain⟨f1,f2⟩:=e6 j hj' (by simp)
    rw[hβm];refine⟨by rw[Zj g1];exact f1,?_⟩
    by_cases e:j=i
    . subst e;rw[zW1];rw[hx1]at hout;rcases hout with⟨z1,z2⟩|⟨b2,o2,cap2,arr2,el2,z1,z2,z3,z4,z5,z6⟩
      . exact .inl ⟨z1,z2⟩
      . exact .inr ⟨b2,o2,cap2,arr2,el2,z1,z2,z3,z4,h3q b2 (hw2q b2 z5),(hG b2 ⟨_,_,_,z1⟩).2,hE4 _ _ _ z6⟩
    . rw[zb1 (λh=>e h.symm)]
      rcases f2 with f2|⟨bi,oi,ci,ar,l,k1,k2,k3,k4,k5,k6,k7⟩
      . exact .inl f2
      . have hng: ¬G bi:=by
         rintro ⟨oi',li',ci',hg'⟩
         exact e (e7 j i _ _ _ _ _ _ hj' hx3 (by simp) (by simp) k1 hg' rfl)
        obtain⟨m1,m2⟩:=hw2m bi k5 hng;exact .inr ⟨bi,oi,ci,ar,l,k1,by rw[m2];exact k2,k3,k4,h3m bi m1,k6,hE3 _ _ _ m2 k7⟩
  . rw[hβm];simpa using e7
 have S4:=S3.recast (s:=s) (v:= .dp m t' (xs.set i ys) none) (qg ..) hnew (by simp[names,qh,qf])
  (fun x hx s' hs=>by
    simp only[names,qh,qf,zA]at hx;subst hx;by_cases e:s'=s
    . subst e;rw[qg]at hs;simp[names,qh,qf]at hs
    . rw[qc _ _ e]at hs;exact e (S1.dis s' s _ hs (by rw[hg];simp[names,qh,qf])))
  (fun x hx=>by
    simp only[Vs.occ,occA,occC,zA]at hx;subst hx;exact .inl hmD)
 have k3:RenOK β' who' w' β2 who3 (fresh idx) (names r) (Qo r):=
  ⟨fun n hn=>kk.beta n (zN _ hn),λn hn b hb=>by
    have:=kk.own n (zN _ hn) b hb
    rw[h3n b (by
     rw[this];intro e;injection e with e
     have:=X3 e;exact hqr (this▸hn))]
    exact this,λhi b hb hl=>h3none b (kk.imm (by rw[hi];rfl) b hb hl)⟩
 have S5:=S4.add (new:=[(ren (fresh idx) r,c)])
  (fun y hy=>by
    obtain rfl:=zA.1 hy;exact Rel.ren p5 k3 p1)
  (by
    simp only[fC,zf1,zL1,qp];exact Qm (λ_ _ _ _ h=>X3 h) hnd)
  (fun y hy n hn s' hs=>by
    obtain rfl:=zA.1 hy;simp only[qp,zQ]at hn;obtain⟨k,hk,rfl⟩:=hn;have hkD:=hf k (p4 k (zN _ hk));by_cases e:s'=s
    . subst e;rw[qg]at hs;simp only[names,qh,qf,zA]at hs;exact hkD (hs▸hmD)
    . rw[qc _ _ e]at hs;exact hkD (hS0.occ s' _ (qi hs)))
  (fun y hy n hn=>by
    obtain rfl:=zA.1 hy;rw[Xl (by rw[Qu];exact p5),qp,zQ]at hn
    obtain⟨k,hk,rfl⟩:=hn;exact .inr ⟨k,p4 k (zN _ hk),rfl⟩)
 refine hnext c w' _ _ (S5.ext λt=> ?_)
 by_cases e:t=s
 . subst e;rw[qg,qg]
 . rw[qc _ _ e,qc _ _ e,qc _ _ e]
end
section
variable {P:Program} {CO:qw} {T:TT} {E:Entry} {D:Nat->Prop} {β β':Beta} {who who':Who} {U U':Slots} {hd:List (AV×Value)} {a:Act} {w w':World} {R W:List Nat}
def qii {idx s m i j:Nat} {t:Ty} {xs:List (List (Den t))} (S1:Sim E D β who U [] a w) (hg:U.get s= .dp m t xs none) (hi:i<xs.length) (hj:j<xs.length) (hij:i≠j)
 (hf: ∀k,k<16-> ¬D (fresh idx k)) {r:AV} {q1 q2:Nat} {ys zs:List (Den t)} {os:List AV} {cargs:Array Value} {pas:List AV}
 (hpure: ∀(βc:Beta) (who':Who),(∀b,who b=none->who' b=none)-> ∀k (hk:k<pas.length),Rel βc who' w pas[k] (cargs.getD (k+2) undef)) (hps:cargs.size=pas.length+2) (hpn:pas.flatMap names=[]) (hpo:pas.all okOut=true)
 (hx:cargs.getD 0 undef=dpv (β m) (i+1)) (hy:cargs.getD 1 undef=dpv (β m) (j+1)) {f:FuncId}
 (hcall: ∀(β:Beta) (who:Who) (w:World) (cargs:Array Value),cargs.size=(AV.sl (.nm 0) t xs[i]:: .sl (.nm 1) t xs[j]::pas).length->
   (∀k (h:k<(AV.sl (.nm 0) t xs[i]:: .sl (.nm 1) t xs[j]::pas).length),Rel β who w (AV.sl (.nm 0) t xs[i]:: .sl (.nm 1) t xs[j]::pas)[k] (cargs.getD k undef))->
   ((AV.sl (.nm 0) t xs[i]:: .sl (.nm 1) t xs[j]::pas).flatMap names).Nodup->(∀n∈(AV.sl (.nm 0) t xs[i]:: .sl (.nm 1) t xs[j]::pas).flatMap names,n<99)->
   (AV.sl (.nm 0) t xs[i]:: .sl (.nm 1) t xs[j]::pas).all okOut=true->
   (∀b n,who b=some n->b<w.heap.size/\(n∈(AV.sl (.nm 0) t xs[i]:: .sl (.nm 1) t xs[j]::pas).flatMap names\/n=FN))->GlobOK P who w->
   Calls P f cargs w (q1x who w cargs r (.sl (.nm q1) t ys:: .sl (.nm q2) t zs::os) (β 98))) (hGl:GlobOK P who w)
 {Q:Ending->World->Prop} (hQ: ∀c w' β' who',(∀b x,who b=some x->x≠m->D x->w'.heap[b]? =w.heap[b]?)->Sim E (Dn D idx) β' who' (U.set s (.dp m t ((xs.set i ys).set j zs) none)) [(ren (fresh idx) r,c)] a w'->Q (.returned c) w'):
 Calls P f cargs w Q:=by
 classical
 have hmD:D m:=S1.occ s m (by rw[hg];simp[Vs.occ,occA,occC])
 have hmF:m≠FN:=λe=>S1.dfn (e▸hmD)
 have h15D: ¬D (fresh idx 15):=hf 15 O;have h14D: ¬D (fresh idx 14):=hf 14 O;have h15m:fresh idx 15≠m:=λe=>h15D (e▸hmD)
 have h14m:fresh idx 14≠m:=λe=>h14D (e▸hmD)
 have h15F:fresh idx 15≠FN:=by simp only[fresh,FN];omega
 have h14F:fresh idx 14≠FN:=by simp only[fresh,FN];omega
 have h1514:fresh idx 15≠fresh idx 14:=by simp only[fresh];omega
 have hdp:=S1.dp hg;obtain⟨d1,b0,o0,cap,arr,el,e1,e2,e3,e4,e5,e6,e7⟩:=hdp.pos (.inr (Q7 hi))
 let G1:Nat->Prop:=λb'=> ∃oi li ci,dpv (β m) (i+1)= .slice (some ⟨b',oi,none⟩) li ci
 let G2:Nat->Prop:=λb'=> ∃oi li ci,dpv (β m) (j+1)= .slice (some ⟨b',oi,none⟩) li ci
 have hG: ∀k (hk:k<xs.length) b' oi li ci,dpv (β m) (k+1)= .slice (some ⟨b',oi,none⟩) li ci->who b'=some m/\b'≠b0:=by
  intro k hk b' oi li ci hg';rcases(e6 k hk (by simp)).2 with⟨q,_⟩|⟨bi,oi',ci',ar,l,k1,k2,k3,k4,k5,k6,k7⟩
  . rw[q]at hg';cases hg'
  . grind
 have hG1: ∀b',G1 b'->who b'=some m/\b'≠b0:=λb' ⟨_,_,_,h⟩=>hG i hi _ _ _ _ h
 have hG2: ∀b',G2 b'->who b'=some m/\b'≠b0:=λb' ⟨_,_,_,h⟩=>hG j hj _ _ _ _ h
 have hG12: ∀b',G1 b'-> ¬G2 b':=λb' ⟨_,_,_,h⟩ ⟨_,_,_,h'⟩=>hij (e7 i j _ _ _ _ _ _ hi hj (by simp) (by simp) h h' rfl)
 have hGo: ∀k,k<xs.length-> ∀b' oi li ci,dpv (β m) (k+1)= .slice (some ⟨b',oi,none⟩) li ci->(G1 b'->k=i)/\(G2 b'->k=j):=λk hk b' oi li ci h=>
  ⟨λ⟨_,_,_,h'⟩=>e7 k i _ _ _ _ _ _ hk hi (by simp) (by simp) h h' rfl,λ⟨_,_,_,h'⟩=>e7 k j _ _ _ _ _ _ hk hj (by simp) (by simp) h h' rfl⟩
 let whoR:Who:=λb'=>if G1 b' then some (fresh idx 15)else if G2 b' then some (fresh idx 14)else who b'
 have hR1: ∀b',G1 b'->whoR b'=some (fresh idx 15):=λb' g=>iP g
 have hR2: ∀b',G2 b'->whoR b'=some (fresh idx 14):=λb' g=>by
  show(if G1 b' then _ else _)=_
  rw[iN' (λh=>hG12 b' h g),iP g]
 have hRn: ∀b',¬G1 b'-> ¬G2 b'->whoR b'=who b':=λb' g1 g2=>by
  show(if G1 b' then _ else _)=_
  rw[iN' g1,iN' g2]
 have hnG: ∀b' x,who b'=some x->x≠m-> ¬G1 b'/\ ¬G2 b':=λb' x hb hx=>
  ⟨λg=>by rw[(hG1 b' g).1]at hb;injection hb with hb;exact hx hb.symm,λg=>by rw[(hG2 b' g).1]at hb;injection hb with hb;exact hx hb.symm⟩
 have hnN: ∀b',who b'=none-> ¬G1 b'/\ ¬G2 b':=λb' hb=>
  ⟨λg=>(by rw[(hG1 b' g).1]at hb;cases hb),λg=>(by rw[(hG2 b' g).1]at hb;cases hb)⟩
 have hRnone: ∀b',who b'=none->whoR b'=none:=λb' hb=>by rw[hRn b' (hnN b' hb).1 (hnN b' hb).2];exact hb
 have hS0:Sim E D β whoR (U.set s .dead) [] a w:=by
  refine((S1.takeAll s).drop rfl).shift (X:=[m]) (by simpa using λe=>hmF e.symm) (λ_ _=>rfl)
   (fun b' x hb hx=>⟨by
     obtain⟨p1,p2⟩:=hnG b' x hb (by simpa using hx)
     rw[hRn b' p1 p2];exact hb,rfl⟩)
   (fun b' hb=>⟨hRnone b' hb,rfl⟩) (λb' x hb=>by
     by_cases g:G1 b'
     . exact⟨_,(hG1 b' g).1⟩
     . by_cases g2:G2 b'
       . exact⟨_,(hG2 b' g2).1⟩
       . rw[hRn b' g g2]at hb;exact⟨_,hb⟩) rfl (λs' x hx hs=>by
     obtain rfl:=zA.1 hx;by_cases e:s'=s
     . subst e;rw[qg]at hs;simp[names,qh,qf]at hs
     . rw[qc _ _ e]at hs;exact absurd (S1.dis s' s _ hs (by rw[hg];simp[names,qh,qf])) e) (λz hz=>by cases hz) ⟨rfl,rfl⟩
 let whoK:Who:=whoC whoR [fresh idx 15,fresh idx 14] []
 have hK1: ∀b',G1 b'->whoK b'=some 0:=λb' g=>by simp[whoK,whoC,hR1 b' g,idxIn]
 have hK2: ∀b',G2 b'->whoK b'=some 1:=λb' g=>by simp[whoK,whoC,hR2 b' g,idxIn,h1514]
 have hKnone: ∀b',who b'=none->whoK b'=none:=λb' hb=>by simp[whoK,whoC,hRnone b' hb]
 have hKo: ∀b' x,who b'=some x-> ¬G1 b'-> ¬G2 b'->x≠fresh idx 15->x≠fresh idx 14->whoK b'=some FN:=λb' x hb g1 g2 n1 n2=>by
  simp[whoK,whoC,hRn b' g1 g2,hb,n1,n2]
 have hKm: ∀b',who b'=some m-> ¬G1 b'-> ¬G2 b'->whoK b'=some FN:=λb' hb g1 g2=>hKo b' m hb g1 g2 h15m.symm h14m.symm
 let βc:Beta:=λk=>if k=0 then cargs.getD 0 undef else cargs.getD 1 undef
 have hE1: ∀(zs:List (Den t)) b o,Elems who w t zs b o->Elems whoK w t zs b o:=λzs b o he=>
  he.keep (λb' hb _=>⟨hKnone b' hb,rfl⟩) (zD _) rfl
 have hrow: ∀k (hk:k<xs.length) (nn:Nat) (v:Value),v=dpv (β m) (k+1)->βc nn=v->(∀b',(∃oi li ci,dpv (β m) (k+1)= .slice (some ⟨b',oi,none⟩) li ci)->whoK b'=some nn)->Rel βc whoK w (.sl (.nm nn) t xs[k]) v:=by
  intro k hk nn v hv hb hw;subst hv;refine⟨hb.symm,?_⟩;rcases(e6 k hk (by simp)).2 with⟨q1,q2⟩|⟨bi,oi,ci,ar,l,k1,k2,k3,k4,k5,k6,k7⟩
  . exact .inl ⟨q1,q2⟩
  . exact .inr ⟨bi,oi,ci,ar,l,k1,k2,k3,k4,hw bi ⟨_,_,_,k1⟩,hE1 _ _ _ k7⟩
 have hnames:(AV.sl (.nm 0) t xs[i]:: .sl (.nm 1) t xs[j]::pas).flatMap names=[0,1]:=by rw[fC,fC,hpn];rfl
 have hcalls:=hcall βc whoK w cargs (by rw[hps];simp) (λk hk=>by
  match k,hk with
  |0,_=>exact hrow i hi 0 _ hx rfl (λb' g=>hK1 b' g)
  |1,_=>exact hrow j hj 1 _ hy rfl (λb' g=>hK2 b' g)
  |k+2,hk=>
   have hk':k<pas.length:=by simpa using hk
   exact hpure βc whoK hKnone k hk') (by rw[hnames];simp) (by rw[hnames];simp) (by
  rw[zg1,zg1,hpo];rfl)
  (fun b n hb=>by
    rw[hnames];simp only[whoK,whoC]at hb;split at hb
    . cases hb
    . rename_i n' hn';refine⟨hS0.wsz b n' hn',?_⟩;split at hb
      . rename_i hin;injection hb with hb
        left;rw[<-hb];simp only[zO,zY,or_false]at hin;rcases hin with rfl|rfl
        . simp[idxIn]
        . simp[idxIn,h1514]
      . split at hb
        . cases hb
        . injection hb with hb;exact .inr hb.symm)
 refine Calls.mono (hcalls (hGl.whoC (λb h=>hKnone b h))) λe w' hp=> ?_
 obtain⟨c,β',who',rfl,p0,p1,p2,p3,p4,p5,p6,p7,p8,p9,p10,p11⟩:=hp;have hout1:=p2 0 (by simp)
 have hout2:=p2 1 (by simp)
 rw[hx]at hout1;rw[hy]at hout2;obtain⟨y1,hout1⟩:=(hout1:RelN β' who' w' q1 t ys _);obtain⟨y2,hout2⟩:=(hout2:RelN β' who' w' q2 t zs _);have hm1:q1∈(AV.sl (.nm q1) t ys:: .sl (.nm q2) t zs::os).flatMap names:=by simp[names,qh,qf]
 have hm2:q2∈(AV.sl (.nm q1) t ys:: .sl (.nm q2) t zs::os).flatMap names:=by simp[names,qh,qf]
 have hq1:q1<16:=p4 q1 (zf _ hm1);have hq2:q2<16:=p4 q2 (zf _ hm2);have hr1:q1∉names r:=λhq=>(zJ.1 p3).2.2 q1 hq q1 hm1 rfl
 have hr2:q2∉names r:=λhq=>(zJ.1 p3).2.2 q2 hq q2 hm2 rfl
 have hnd:=(zJ.1 p3).1
 obtain⟨S2,kk⟩:=Xo (β':=β') (who':=who') (w':=w') (ln:=[fresh idx 15,fresh idx 14]) (rn:=[]) (ns:=names r++[q1,q2]) (im:=true) hS0 hf
  (fun n hn=>by
    simp only[zO,zY,or_false]at hn;rcases hn with rfl|rfl
    . exact⟨h15F,λs' hs'=>h15D (hS0.occ s' _ (qi hs'))⟩
    . exact⟨h14F,λs' hs'=>h14D (hS0.occ s' _ (qi hs'))⟩) (λn hn=>by cases hn) (by simp) p7 p8 p9 p10
  (fun n hn=>by
    rcases zH.1 hn with h|h
    . exact p4 n (zN _ h)
    . simp only[zO,zY,or_false]at h;rcases h with rfl|rfl
      . exact hq1
      . exact hq2) (λ_=>rfl) p11
 have hin15: ∀n,D n-> ¬(fresh idx 0<=n/\n<=fresh idx 15):=λn hn ⟨h1,h2⟩=>by
  refine hf (n-fresh idx 0) (by simp only[fresh]at*;omega) ?_
  rwa [show fresh idx (n-fresh idx 0)=n by simp only[fresh]at*;omega]
 have hβm:beta2 β β' idx m=β m:=by simp only[beta2];rw[iN' (hin15 m hmD)]
 have hw2m: ∀b',who b'=some m-> ¬G1 b'-> ¬G2 b'->who2 whoR who' idx [fresh idx 15,fresh idx 14] (names r++[q1,q2]) b'=some m/\w'.heap[b']? =w.heap[b']? :=λb' hb g1 g2=>by
  have hk:=hKm b' hb g1 g2;refine⟨?_,p7 b' (S1.wsz b' m hb) (.inr hk)⟩;simp only[who2,p10 b' hk];rw[iP trivial,hRn b' g1 g2,hb]
 have hw2none: ∀b',who b'=none->b'<w.heap.size->who2 whoR who' idx [fresh idx 15,fresh idx 14] (names r++[q1,q2]) b'=none/\w'.heap[b']? =w.heap[b']? :=λb' hb hlt=>by
  have hk:=hKnone b' hb;refine⟨?_,p7 b' hlt (.inl hk)⟩
  have:who' b'=none:=by
   cases e:who' b' with
   |none=>rfl
   |some n=>
    rcases(p8 b' n e).2 with h|h
    . exact absurd hk h
    . omega
  simp only[who2,this,hRnone b' hb]
 have hheap: ∀b x,who b=some x->x≠m->D x->w'.heap[b]? =w.heap[b]? :=λb x hb hx hD=>by
  obtain⟨g1,g2⟩:=hnG b x hb hx;exact p7 b (S1.wsz b x hb) (.inr (hKo b x hb g1 g2 (λe=>h15D (e▸hD)) (λe=>h14D (e▸hD))))
 generalize hβ2:beta2 β β' idx=β2 at*
 have hw21: ∀b',who' b'=some q1->who2 whoR who' idx [fresh idx 15,fresh idx 14] (names r++[q1,q2]) b'=some (fresh idx q1):=λb' hb=>kk.own q1 (by simp) b' hb
 have hw22: ∀b',who' b'=some q2->who2 whoR who' idx [fresh idx 15,fresh idx 14] (names r++[q1,q2]) b'=some (fresh idx q2):=λb' hb=>kk.own q2 (by simp) b' hb
 generalize hw2:who2 whoR who' idx [fresh idx 15,fresh idx 14] (names r++[q1,q2])=wh2 at*
 have h1D: ¬D (fresh idx q1):=hf q1 hq1;have h2D: ¬D (fresh idx q2):=hf q2 hq2;have h1m:fresh idx q1≠m:=λe=>h1D (e▸hmD)
 have h2m:fresh idx q2≠m:=λe=>h2D (e▸hmD)
 have h1F:fresh idx q1≠FN:=by simp only[fresh,FN];omega
 have h2F:fresh idx q2≠FN:=by simp only[fresh,FN];omega
 let who3:Who:=λb'=>if wh2 b'=some (fresh idx q1)\/wh2 b'=some (fresh idx q2)then some m else wh2 b'
 have h31: ∀b',wh2 b'=some (fresh idx q1)->who3 b'=some m:=λb' g=>iP (.inl g)
 have h32: ∀b',wh2 b'=some (fresh idx q2)->who3 b'=some m:=λb' g=>iP (.inr g)
 have h3n: ∀b',wh2 b'≠some (fresh idx q1)->wh2 b'≠some (fresh idx q2)->who3 b'=wh2 b':=λb' g1 g2=>iN' (λh=>h.elim g1 g2)
 have h3none: ∀b',wh2 b'=none->who3 b'=none:=λb' hb=>by rw[h3n b' (by rw[hb];simp) (by rw[hb];simp)];exact hb
 have h3m: ∀b',wh2 b'=some m->who3 b'=some m:=λb' hb=>by
  rw[h3n b' (by rw[hb];intro e;injection e with e;exact h1m e.symm) (by rw[hb];intro e;injection e with e;exact h2m e.symm)];exact hb
 have hS1: ∀s',fresh idx q1∉names ((U.set s .dead).get s'):=λs' hs=>h1D (hS0.occ s' _ (qi hs))
 have hS2: ∀s',fresh idx q2∉names ((U.set s .dead).get s'):=λs' hs=>h2D (hS0.occ s' _ (qi hs))
 have S3:Sim E (Dn D idx) β2 who3 (U.set s .dead) [] a w':=by
  refine S2.shift (X:=[fresh idx q1,fresh idx q2]) (by simpa using⟨λe=>h1F e.symm,λe=>h2F e.symm⟩) (λ_ _=>rfl)
   (fun b' x hb hx=>⟨by
     simp only[zO,zY,or_false,not_or]at hx;rw[h3n b' (by rw[hb];intro e;injection e with e;exact hx.1 e) (by rw[hb];intro e;injection e with e;exact hx.2 e)];exact hb,rfl⟩)
   (fun b' hb=>⟨h3none b' hb,rfl⟩) (λb' x hb=>by
     by_cases g:wh2 b'=some (fresh idx q1)
     . exact⟨_,g⟩
     . by_cases g2:wh2 b'=some (fresh idx q2)
       . exact⟨_,g2⟩
       . rw[h3n b' g g2]at hb;exact⟨_,hb⟩) rfl (λs' x hx hs=>by
     simp only[zO,zY,or_false]at hx;rcases hx with rfl|rfl
     . exact absurd hs (hS1 s')
     . exact absurd hs (hS2 s')) (λz hz=>by cases hz) ⟨rfl,rfl⟩
 have hE3: ∀(zs:List (Den t)) b o,w'.heap[b]? =w.heap[b]? ->Elems who w t zs b o->Elems who3 w' t zs b o:=λzs b o hb he=>
  he.keep (λb' hb hlt=>⟨h3none b' (hw2none b' hb hlt).1,(hw2none b' hb hlt).2⟩) p9 hb
 have hE4: ∀(zs:List (Den t)) b o,Elems who' w' t zs b o->Elems who3 w' t zs b o:=λzs b o he=>
  he.keep (λb' hb hl=>⟨h3none b' (kk.imm rfl b' hb hl),rfl⟩) (zD _) rfl
 have hlen: ∀k (hk:k<xs.length) (us:List (Den t)) (q:Nat) (b':Nat->Prop),(dpv (β m) (k+1)= .slice none 0 0/\us=[]\/ ∃b o cap arr el,dpv (β m) (k+1)= .slice (some ⟨b,o,none⟩) us.length cap/\w'.heap[b]? =some (.cells arr el (0,0))/\o+cap*t.size<=arr.size/\us.length<=cap/\who' b=some q/\Elems who' w' t us b o)->us.length=xs[k].length:=by
  intro k hk us q _ hout;rcases(e6 k hk (by simp)).2 with⟨q1,q2⟩|⟨bi,oi,ci,ar,l,k1,k2,k3,k4,k5,k6,k7⟩
  . rcases hout with⟨z1,z2⟩|⟨b2,o2,cap2,arr2,el2,z1,_⟩
    . rw[q2,z2]
    . rw[q1]at z1;cases z1
  . rcases hout with⟨z1,z2⟩|⟨b2,o2,cap2,arr2,el2,z1,_⟩
    . rw[k1]at z1;cases z1
    . rw[k1]at z1;injection z1 with _ z _;exact z.symm
 have hnew:RelDp β2 who3 w' m t ((xs.set i ys).set j zs) none (a.tmps.getD s undef):=by
  obtain⟨g0,g1⟩:=hw2m b0 e5 (λg=>(hG1 b0 g).2 rfl) (λg=>(hG2 b0 g).2 rfl)
  refine⟨by rw[hβm];exact d1,.inr ⟨b0,o0,cap,arr,el,by simpa using e1,by rw[g1];exact e2,e3,by simpa using e4,h3m b0 g0,λk hk _=> ?_,?_⟩⟩
  . have hk':k<xs.length:=by simpa using hk
    obtain⟨f1,f2⟩:=e6 k hk' (by simp)
    rw[hβm];refine⟨by rw[Zj g1];exact f1,?_⟩
    by_cases ej:k=j
    . subst ej;rw[zW1];rcases hout2 with⟨z1,z2⟩|⟨b2,o2,cap2,arr2,el2,z1,z2,z3,z4,z5,z6⟩
      . exact .inl ⟨z1,z2⟩
      . exact .inr ⟨b2,o2,cap2,arr2,el2,z1,z2,z3,z4,h32 b2 (hw22 b2 z5),(hG2 b2 ⟨_,_,_,z1⟩).2,hE4 _ _ _ z6⟩
    . rw[zb1 (λh=>ej h.symm)]
      by_cases ei:k=i
      . subst ei;rw[zW1];rcases hout1 with⟨z1,z2⟩|⟨b2,o2,cap2,arr2,el2,z1,z2,z3,z4,z5,z6⟩
        . exact .inl ⟨z1,z2⟩
        . exact .inr ⟨b2,o2,cap2,arr2,el2,z1,z2,z3,z4,h31 b2 (hw21 b2 z5),(hG1 b2 ⟨_,_,_,z1⟩).2,hE4 _ _ _ z6⟩
      . rw[zb1 (λh=>ei h.symm)]
        rcases f2 with f2|⟨bi,oi,ci,ar,l,k1,k2,k3,k4,k5,k6,k7⟩
        . exact .inl f2
        . obtain⟨n1,n2⟩:=hGo k hk' _ _ _ _ k1;obtain⟨m1,m2⟩:=hw2m bi k5 (λg=>ei (n1 g)) (λg=>ej (n2 g))
          exact .inr ⟨bi,oi,ci,ar,l,k1,by rw[m2];exact k2,k3,k4,h3m bi m1,k6,hE3 _ _ _ m2 k7⟩
  . rw[hβm];simpa using e7
 have S4:=S3.recast (s:=s) (v:= .dp m t ((xs.set i ys).set j zs) none) (qg ..) hnew (by simp[names,qh,qf])
  (fun x hx s' hs=>by
    simp only[names,qh,qf,zA]at hx;subst hx;by_cases e:s'=s
    . subst e;rw[qg]at hs;simp[names,qh,qf]at hs
    . rw[qc _ _ e]at hs;exact e (S1.dis s' s _ hs (by rw[hg];simp[names,qh,qf])))
  (fun x hx=>by
    simp only[Vs.occ,occA,occC,zA]at hx;subst hx;exact .inl hmD)
 have k3:RenOK β' who' w' β2 who3 (fresh idx) (names r) (Qo r):=
  ⟨fun n hn=>kk.beta n (zN _ hn),λn hn b hb=>by
    have:=kk.own n (zN _ hn) b hb
    rw[h3n b (by
     rw[this];intro e;injection e with e
     have:=X3 e;exact hr1 (this▸hn)) (by
     rw[this];intro e;injection e with e
     have:=X3 e;exact hr2 (this▸hn))]
    exact this,λhi b hb hl=>h3none b (kk.imm rfl b hb hl)⟩
 have S5:=S4.add (new:=[(ren (fresh idx) r,c)])
  (fun y hy=>by
    obtain rfl:=zA.1 hy;exact Rel.ren p5 k3 p1)
  (by
    simp only[fC,zf1,zL1,qp];exact Qm (λ_ _ _ _ h=>X3 h) hnd)
  (fun y hy n hn s' hs=>by
    obtain rfl:=zA.1 hy;simp only[qp,zQ]at hn;obtain⟨k,hk,rfl⟩:=hn;have hkD:=hf k (p4 k (zN _ hk));by_cases e:s'=s
    . subst e;rw[qg]at hs;simp only[names,qh,qf,zA]at hs;exact hkD (hs▸hmD)
    . rw[qc _ _ e]at hs;exact hkD (hS0.occ s' _ (qi hs)))
  (fun y hy n hn=>by
    obtain rfl:=zA.1 hy;rw[Xl (by rw[Qu];exact p5),qp,zQ]at hn
    obtain⟨k,hk,rfl⟩:=hn;exact .inr ⟨k,p4 k (zN _ hk),rfl⟩)
 refine hQ c w' _ _ hheap (S5.ext λt=> ?_)
 by_cases e:t=s
 . subst e;rw[qg,qg]
 . rw[qc _ _ e,qc _ _ e,qc _ _ e]
def qf4 (hT:TTok P T) (hC: ∀f as r os,CO f as r os->X7 P f as r os) (hEP:E.prog=P) {idx f:Nat} {o:Oper} {args:List Operand} {tys:List TypeId} {v:AV}
 (h:Run CO (qgx T idx f args tys) U v U' R W) (S:Sim E D β who U [] a w) (hf: ∀k,k<16-> ¬D (fresh idx k))
 (hop:execOp a.eval o=callFunc f (args.map a.eval).toArray):OpWp P E D idx U' v o a w:=by
 intro next Q hnext
 unfold qgx at h;split at h
 case h_2=>exact(Run.fail' h).elim
 rename_i x y rest ty1 ty2 tys';obtain⟨ps,U1,_,_,_,_,h1,h2⟩:=Run.bind' h;obtain⟨_,who1,_,S1,hlen,hargs⟩:=Run.passAll hT h1 S;split at h2
 case h_2=>exact(Run.fail' h2).elim
 rename_i hl;obtain⟨rv,U2,_,_,_,_,h3,h4⟩:=Run.bind' h2;obtain⟨rfl,Sr⟩:=Run.rd h3 S1;have hx:=Sr.hrel _ mS;obtain⟨cv,U3,_,_,_,_,h3b,h4b⟩:=Run.bind' h4;obtain⟨rfl,Sr2⟩:=Run.rd h3b S1;have hy:=Sr2.hrel _ mS;split at h4b
 case h_2=>exact(Run.fail' h4b).elim
 rename_i s n i s2 n2 j;obtain⟨av,U4,_,_,_,_,h5,h6⟩:=Run.bind' h4b;obtain⟨hav,rfl⟩:=Run.mget' h5;split at h6
 case h_2=>exact(Run.fail' h6).elim
 rename_i m t xs loc hd;rw[hav]at hd;obtain⟨rfl,⟨v0,hdp⟩,_⟩:=S1.dpA hd;split at h6
 case isFalse=>exact(Run.fail' h6).elim
 rename_i hcnd;obtain⟨rfl,rfl,hemp⟩:=hcnd;obtain⟨_,U5,_,_,_,_,h7,h8⟩:=Run.bind' h6;obtain⟨hij,rfl⟩:=Run.mask' h7;obtain⟨⟨r,os⟩,U6,_,_,_,_,h9,h10⟩:=Run.bind' h8;obtain⟨hco,rfl⟩:=Run.mcall' h9;obtain⟨hen,hcall⟩:=hC _ _ _ _ hco;dsimp only at h10;split at h10
 case h_2=>exact(Run.fail' h10).elim
 rename_i q1 t1 ys q2 t2 zs os';split at h10
 case isFalse=>exact(Run.fail' h10).elim
 rename_i ht;obtain⟨rfl,rfl⟩:=ht;obtain⟨_,U7,_,_,_,_,h11,h12⟩:=Run.bind' h10;obtain⟨v',hk,rfl⟩:=Run.mupd' h11;obtain⟨rfl,rfl⟩:=Run.pure' h12;obtain⟨d',hd',rfl⟩:=q09 hd hk;simp only[q7m,dif_pos,zS]at hd';subst hd';obtain⟨hx1,-,a0,L0,c0,hx2,hx3⟩:=(hx:DrVal (β _) (.row i) (a.eval x));obtain⟨hy1,-,a1,L1,c1,hy2,hy3⟩:=(hy:DrVal (β _) (.row j) (a.eval y));obtain⟨ad1,cap1,hb1⟩:=hdp.base;have hil:i<xs.length:=by rw[hb1]at hx2;injection hx2 with _ q _;omega
 have hjl:j<xs.length:=by rw[hb1]at hy2;injection hy2 with _ q _;omega
 have hxi:xs.getD i []=xs[i]:=by simp[List.getD,List.getElem?_eq_getElem hil]
 have hxj:xs.getD j []=xs[j]:=by simp[List.getD,List.getElem?_eq_getElem hjl]
 rw[hxi,hxj]at hcall
 have hpo: ∀p∈ps,q04 U6 p:=λp hp=>by
  obtain⟨i,hi,rfl⟩:=zV hp;exact(hargs i hi (by rw[<-hlen];exact hi)).passOK λs e=>by have:=Qn hp e;rw[hl]at this;cases this
 have hnoref:=Y6 hpo;have hnil:(ps.map (·.1)).flatMap names=[]:=by rw[Y4 hpo,hl];rfl
 obtain⟨E',a',g,σg,Sg,hg,hcl⟩:=S1.openDp2 hd
 have hrn: ∀p∈ps,p.2.2=[]:=λp hp=>by
  have he:ps.flatMap (·.2.2)=[]:=List.isEmpty_iff.1 hemp
  refine List.eq_nil_iff_forall_not_mem.2 λz hz=> ?_
  have hm:z∈ps.flatMap (·.2.2):=zC.2 ⟨p,hp,hz⟩
  rw[he]at hm;cases hm
 have hpure: ∀(βc:Beta) (who':Who),(∀b,who1 b=none->who' b=none)-> ∀k (hk:k<(ps.map (·.1)).length),Rel βc who' w (ps.map (·.1))[k] (((x::y::rest).map a.eval).toArray.getD (k+2) undef):=by
  intro βc who' hw k hk;have hk':k<ps.length:=by simpa using hk
  have hjr:k<rest.length:=by rw[<-hlen];exact hk'
  have q1:((x::y::rest).map a.eval).toArray.getD (k+2) undef=a.eval rest[k]:=by simp[Array.getD,hjr]
  rw[q1,zD1]
  have hl':ps[k].2.1=none:=by
   cases e:ps[k].2.1 with
   |none=>rfl
   |some s=>have:=Qn (zM hk') e;rw[hl]at this;cases this
  have ha:=hargs k hk' hjr;have hr0:=hrn _ (zM hk');generalize ps[k]=p at*;obtain⟨av,l,rn'⟩:=p;simp only at hl' hr0;subst hl';subst hr0;exact ha.1 βc _ ⟨λb hb=>hw b hb,λb n _ hn=>by cases hn⟩
 unfold Oper.wp;rw[hop,Yi hen,Oper.upon_enter]
 refine qii Sg hg hil hjl hij hf (pas:=ps.map (·.1)) hpure (by simp[hlen]) hnil (Xu hnoref) (by
  have q:((x::y::rest).map a.eval).toArray.getD 0 undef=a.eval x:=by simp[Array.getD]
  rw[q];exact hx1) (by
  have q:((x::y::rest).map a.eval).toArray.getD 1 undef=a.eval y:=by simp[Array.getD]
  rw[q];exact hy1) hcall (hEP▸S1.glob) λc w' β' who' hh S5=> ?_
 exact hnext c w' _ _ (hcl _ _ _ _ _ _ _ _ _ hh S5)
end
section
variable {β:Beta} {who:Who} {w:World}
def RelA.toFd {m k:Nat} {t:Ty} {xs:List (List (Den t))} {h:Option Nat} {cells:List AV} {v:Value} (h1:RelA β who w (.bx (.nm m) (.dp k t xs h::cells)) v)
 (h2: ∀b arr el,v= .pointer (some ⟨b,0,none⟩)->w.heap[b]? =some (.cells arr el (0,0))->arr.getD 0 undef=β 98):RelA β who w (.bx (.nm m) (.fd k t xs h::cells)) v:=by
 obtain⟨h0,b,arr,el,e1,e2,e3,e4⟩:=h1;refine⟨h0,b,arr,el,e1,e2,e3,e4.1,λj hj=> ?_⟩
 cases j with
 |zero=>exact⟨e4.2 0 hj,h2 b arr el e1 e2⟩
 |succ j=>exact e4.2 (j+1) hj
def RelA.ofFd {m k:Nat} {t:Ty} {xs:List (List (Den t))} {h:Option Nat} {cells:List AV} {v:Value} (h1:RelA β who w (.bx (.nm m) (.fd k t xs h::cells)) v):
 RelA β who w (.bx (.nm m) (.dp k t xs h::cells)) v/\ ∃b arr el,v= .pointer (some ⟨b,0,none⟩)/\w.heap[b]? =some (.cells arr el (0,0))/\arr.getD 0 undef=β 98:=by
 obtain⟨h0,b,arr,el,e1,e2,e3,e4⟩:=h1;refine⟨⟨h0,b,arr,el,e1,e2,e3,e4.1,λj hj=> ?_⟩,b,arr,el,e1,e2,(e4.2 0 (by simp)).2⟩
 cases j with
 |zero=>exact(e4.2 0 hj).1
 |succ j=>exact e4.2 (j+1) hj
end
section
variable {CO:qw} {P:Program} {T:TT} {E:Entry} {D:Nat->Prop} {β:Beta} {who:Who} {U U':Slots} {a:Act} {w:World} {R W:List Nat}
def qk7 (hT:TTok P T) (hC: ∀f as r os,CO f as r os->X7 P f as r os) (hEP:E.prog=P) {idx q f:Nat} {o:Oper} {args:List Operand} {tys:List TypeId} {v:AV}
 (h:Run CO (fxAV T idx q f args tys) U v U' R W) (S:Sim E D β who U [] a w) (hf: ∀k,k<16-> ¬D (fresh idx k))
 (hop:execOp a.eval o=callFunc f (args.map a.eval).toArray):OpWp P E D idx U' v o a w:=by
 intro next Q hnext
 unfold fxAV at h;split at h
 case h_2=>exact(Run.fail' h).elim
 rename_i x rest ty tys';obtain⟨ps,U1,_,_,_,_,h1,h2⟩:=Run.bind' h;obtain⟨_,who1,_,S1,hlen,hargs⟩:=Run.passAll hT h1 S;split at h2
 case h_2=>exact(Run.fail' h2).elim
 rename_i hl;obtain⟨rv,U2,_,_,_,_,h3,h4⟩:=Run.bind' h2;obtain⟨rfl,Sr⟩:=Run.rd h3 S1;have hx:=Sr.hrel _ mS;obtain⟨lv,U3,_,_,_,_,h5,h6⟩:=Run.bind' h4;obtain⟨hlv,rfl⟩:=Run.mget' h5;split at h6
 case h_2=>exact(Run.fail' h6).elim
 rename_i s n sz s1 n1;obtain⟨av,U4,_,_,_,_,h7,h8⟩:=Run.bind' h6;obtain⟨hav,rfl⟩:=Run.mget' h7;split at h8
 case h_2=>exact(Run.fail' h8).elim
 rename_i m k t xs cells;split at h8
 case isFalse=>exact(Run.fail' h8).elim
 rename_i hcnd;obtain⟨⟨rfl,hs1,hn1,hqs⟩,hnr,h16,hemp⟩:=hcnd;obtain rfl:s=s1:=hs1.symm;obtain rfl:k=n1:=hn1.symm;obtain⟨⟨r,os⟩,U5,_,_,_,_,h9,h10⟩:=Run.bind' h8;obtain⟨hco,rfl⟩:=Run.mcall' h9;obtain⟨hen,hcall⟩:=hC _ _ _ _ hco;dsimp only at h10;split at h10
 case h_2=>exact(Run.fail' h10).elim
 rename_i m' k' t' xs' cells' os';obtain⟨_,U6,_,_,_,_,h11,h12⟩:=Run.bind' h10;have:=Run.mset' h11;subst this;obtain⟨_,U7,_,_,_,_,h13,h14⟩:=Run.bind' h12;have:=Run.mset' h13;subst this;obtain⟨rfl,rfl⟩:=Run.pure' h14;have hrn:ps.flatMap (·.2.2)=[]:=List.isEmpty_iff.1 hemp
 have hrelA:=S1.rel s;rw[<-hav]at hrelA;have hrelB:=hrelA;obtain⟨hβ,b,arr,el,e1,e2,e3,e4⟩:=(hrelA:RelA β who1 w (.bx (.nm m) (.dp k t xs none::cells)) (a.tmps.getD s undef));have hdp:RelDp β who1 w k t xs none (arr.getD 0 undef):=e4.2 0 (by simp)
 have hxs:a.eval x=a.tmps.getD s undef:=by
  rw[e1];rcases(hx:PtrVal (β m) sz 0 0 (a.eval x))with⟨b2,o2,L2,c2,q1,_⟩|⟨b2,q1,_,q2⟩
  . rw[<-hβ,e1]at q1;cases q1
  . rw[<-hβ,e1]at q1;injection q1 with q1;injection q1 with q1;injection q1 with q1
    exact Eq.trans q2 (by rw[q1])
 have hq0:=S1.rel q;rw[<-hlv]at hq0
 have hq1:a.tmps.getD q undef=arr.getD 0 undef:=by
  rw[hdp.1];exact(hq0:DrVal (β k) .whole (a.tmps.getD q undef)).1
 obtain⟨ln,hln⟩: ∃ln,ln=names (.bx (.nm m) (.dp k t xs none::cells)):=⟨_,rfl⟩;have hlns:names (U5.get s)=ln:=by rw[<-hav,hln]
 rw[<-hln]at h16 hcall;have hnd0:ln.Nodup:=hlns▸S1.nod s;have hlnD: ∀n∈ln,D n:=λn hn=>S1.occ s n (qi (hlns▸hn))
 let βc:Beta:=λi=>if i=98 then arr.getD 0 undef else β (ln.getD i 0)
 have hren:RenOK β who1 w βc (whoC who1 ln []) (idxIn ln) ln (Qo (.bx (.nm m) (.dp k t xs none::cells))):=
  ⟨fun n hn=>by
    have:=X6 hn;show(if idxIn ln n=98 then _ else β (ln.getD (idxIn ln n) 0))=β n
    rw[iN' O,Zk hn],λn hn b hb=>by simp[whoC,hb,hn],λ_ b hb _=>by simp[whoC,hb]⟩
 have hnoR:noRef (.bx (.nm m) (.dp k t xs none::cells))=true:=by simpa [noRef,q0i,Xm]using hnr
 have hbox0:Rel βc (whoC who1 ln []) w (ren (idxIn ln) (.bx (.nm m) (.dp k t xs none::cells))) (a.tmps.getD s undef):=
  Rel.ren hnoR (hln▸hren) hrelB
 have hbox:Rel βc (whoC who1 ln []) w (ren (idxIn ln) (.bx (.nm m) (.fd k t xs none::cells))) (a.tmps.getD s undef):=
  RelA.toFd (m:=idxIn ln m) (k:=idxIn ln k) (cells:=cells.map (renC (idxIn ln))) hbox0 λb2 arr2 el2 q1 q2=>by
   rw[e1]at q1;injection q1 with q1;injection q1 with q1;injection q1 with q1
   subst q1;rw[e2]at q2;injection q2 with q2;injection q2 with q2
   subst q2;exact(iP rfl).symm
 have hpo: ∀p∈ps,q04 U5 p:=λp hp=>by
  obtain⟨i,hi,rfl⟩:=zV hp;exact(hargs i hi (by rw[<-hlen];exact hi)).passOK λs e=>by have:=Qn hp e;rw[hl]at this;cases this
 have hnoref:=Y6 hpo;have hnil:(ps.map (·.1)).flatMap names=[]:=by rw[Y4 hpo,hl];rfl
 have hpure: ∀j (hj:j<ps.length),Rel βc (whoC who1 ln []) w ps[j].1 (a.eval (rest[j]'(by rw[<-hlen];exact hj))):=by
  intro j hj
  have hl':ps[j].2.1=none:=by
   cases e:ps[j].2.1 with
   |none=>rfl
   |some s=>have:=Qn (zM hj) e;rw[hl]at this;cases this
  have ha:=hargs j hj (by rw[<-hlen];exact hj)
  have hr0:ps[j].2.2=[]:=by
   refine List.eq_nil_iff_forall_not_mem.2 λz hz=> ?_
   have hm:z∈ps.flatMap (·.2.2):=zC.2 ⟨_,zM hj,hz⟩
   rw[hrn]at hm;cases hm
  generalize ps[j]=p at*
  obtain⟨av,l,rn'⟩:=p;simp only at hl' hr0;subst hl';subst hr0;exact ha.1 βc _ ⟨λb hb=>by simp[whoC,hb],λb n _ hn=>by cases hn⟩
 have hnam:(ren (idxIn ln) (.bx (.nm m) (.fd k t xs none::cells))::ps.map (·.1)).flatMap names=ln.map (idxIn ln):=by
  rw[fC,hnil,zL1,qp,hln];rfl
 have hcalls:=hcall βc (whoC who1 ln []) w ((x::rest).map a.eval).toArray (by simp[hlen]) (λj hj=>by
  cases j with
  |zero=>
   have q1:((x::rest).map a.eval).toArray.getD 0 undef=a.eval x:=by simp[Array.getD]
   rw[q1,hxs];exact hbox
  |succ j=>
   have hj':j<ps.length:=by simpa using hj
   have hjr:j<rest.length:=by rw[<-hlen];exact hj'
   have q1:((x::rest).map a.eval).toArray.getD (j+1) undef=a.eval rest[j]:=by simp[Array.getD,hjr]
   rw[q1,zj2,zD1];exact hpure j hj') (by rw[hnam];exact Qm (λ_ h1 _ h2 h=>Jk h1 h2 h) hnd0)
  (by
    rw[hnam];intro n' hn';obtain⟨n,hn,rfl⟩:=zQ.1 hn';have:=X6 hn;omega) (by
    rw[zg1,Xu hnoref,zV2];unfold okOut;rw[qe9];simp only[isWn,hnr,zH3])
  (fun b n hb=>by
    rw[hnam];simp only[whoC]at hb;split at hb
    . cases hb
    . rename_i n' hn';refine⟨S1.wsz b n' hn',?_⟩;split at hb
      . rename_i hin;injection hb with hb
        exact .inl (by rw[<-hb];exact zQ.2 ⟨n',hin,rfl⟩)
      . split at hb
        . cases hb
        . injection hb with hb;exact .inr hb.symm)
 unfold Oper.wp;rw[hop,Yi hen,Oper.upon_enter];refine Calls.mono (hcalls ((hEP▸S1.glob:GlobOK P who1 w).whoC (λb h=>by simp[whoC,h]))) λe w' hp=> ?_
 obtain⟨c,β',who',rfl,p0,p1,p2,p3,p4,p5,p6,p7,p8,p9,p10,p11⟩:=hp;have hout:=p2 0 (by simp)
 have q1:((x::rest).map a.eval).toArray.getD 0 undef=a.eval x:=by simp[Array.getD]
 rw[q1,hxs]at hout;obtain⟨hov,b2,arr2,el2,y1,y2,y3⟩:=RelA.ofFd (hout:RelA β' who' w' (.bx (.nm m') (.fd k' t' xs' none::cells')) (a.tmps.getD s undef))
 have hv0:arr2.getD 0 undef=a.tmps.getD q undef:=by
  rw[y3,p0,hq1];exact iP rfl
 obtain⟨ov,hove⟩: ∃ov,ov=AV.bx (.nm m') (.dp k' t' xs' none::cells'):=⟨_,rfl⟩;have hovR:Rel β' who' w' ov (a.tmps.getD s undef):=by rw[hove];exact hov
 have hovn0:names (AV.bx (.nm m') (.fd k' t' xs' none::cells'))=names ov:=by rw[hove];rfl
 have p6':noRef ov=true:=by
  rw[zg1,zF]at p6;have:=p6.1;unfold okOut at this;simp only[noRef,q0i,zg1,Xm,Bool.false_and,isWn,Bool.false_or]at this;rw[hove];simpa [noRef,q0i,Xm]using this
 obtain⟨hnd,hovn⟩:=Xt p3 mS;rw[hovn0]at hnd hovn;have hS0:Sim E D β who1 (U5.set s .dead) [] a w:=(S1.takeAll s).drop rfl
 obtain⟨S2,kk⟩:=Xo (β':=β') (who':=who') (w':=w') (ln:=ln) (rn:=[]) (ns:=names r++names ov) (im:=Qo r||Qo ov) hS0 hf
  (fun n hn=>⟨λe=>S1.dfn (e▸hlnD n hn),λs' hs'=>by
    by_cases e:s'=s
    . subst e;rw[qg]at hs';simp[names,qh,qf]at hs'
    . rw[qc _ _ e]at hs';exact e (S1.dis s' s n hs' (hlns▸hn))⟩) (λn hn=>by cases hn) h16 p7 p8 p9 p10
  (fun n hn=>by
    rcases zH.1 hn with h|h
    . exact p4 n (zN _ h)
    . exact p4 n (zf _ (hovn n h))) (λ_=>rfl) p11
 have h16n: ∀n,n∈names ov\/n∈names r->n<16:=λn hn=>by
  rcases hn with h|h
  . exact p4 n (zf _ (hovn n h))
  . exact p4 n (zN _ h)
 have hfreshσ: ∀m,m<16-> ∀t,fresh idx m∉names ((U5.set s .dead).get t):=λm hm t ht=>hf m hm (hS0.occ t _ (qi ht))
 have S3:=S2.add (new:=[(ren (fresh idx) ov,a.tmps.getD s undef),(ren (fresh idx) r,c)])
  (fun x hx=>by
    rcases mC hx with rfl|hx
    . exact Rel.ren p6' (kk.mono (λn hn=>zf _ hn) λe=>by simp[e]) hovR
    . obtain rfl:=zA.1 hx;exact Rel.ren p5 (kk.mono (λn hn=>zN _ hn) λe=>by simp[e]) p1)
  (by
    simp only[fC,zf1,zL1,qp,<-List.map_append];exact Qm (λ_ _ _ _ h=>X3 h) hnd)
  (fun x hx n hn t ht=>by
    have: ∃m,m<16/\n=fresh idx m:=by
     rcases mC hx with rfl|hx
     . simp only[qp,zQ]at hn;obtain⟨m,hm,rfl⟩:=hn;exact⟨m,h16n m (.inl hm),rfl⟩
     . obtain rfl:=zA.1 hx;simp only[qp,zQ]at hn;obtain⟨m,hm,rfl⟩:=hn;exact⟨m,h16n m (.inr hm),rfl⟩
    obtain⟨m,hm,rfl⟩:=this;exact hfreshσ m hm t ht)
  (fun x hx n hn=>by
    rcases mC hx with rfl|hx
    . rw[Xl (by rw[Qu];exact p6'),qp,zQ]at hn
      obtain⟨m,hm,rfl⟩:=hn;exact .inr ⟨m,h16n m (.inl hm),rfl⟩
    . obtain rfl:=zA.1 hx;rw[Xl (by rw[Qu];exact p5),qp,zQ]at hn
      obtain⟨m,hm,rfl⟩:=hn;exact .inr ⟨m,h16n m (.inr hm),rfl⟩)
 have S4:=S3.putBack (by rw[qg];rfl)
 have hrs:=S4.rel s;rw[qg,hove]at hrs;obtain⟨_,b3,arr3,el3,z1,z2,_,z4⟩:=(hrs:RelA _ _ w' (.bx (.nm (fresh idx m')) (.dp (fresh idx k') t' xs' none::cells'.map (renC (fresh idx)))) (a.tmps.getD s undef))
 have hbb:b3=b2:=by
  rw[y1]at z1;injection z1 with z1;injection z1 with z1;injection z1 with z1
  exact z1.symm
 subst hbb;rw[y2]at z2;injection z2 with z2;injection z2 with z2
 subst z2;have hlook:=RelDp.ref (z4.2 0 (by simp))
 rw[hv0]at hlook
 have S5:=S4.abs (s:=q) (v:= .dr s (fresh idx k') .whole) hlook (λn hn=>by cases hn) ze1 (λn hn=>by
  have:n=fresh idx k':=by simpa [Vs.occ,occA,occC]using hn
  subst this;exact .inr ⟨k',h16n k' (.inl (by rw[hove];simp[names,qh,qf])),rfl⟩)
 refine hnext c w' _ _ (S5.ext λt=> ?_)
 rw[<-hove];by_cases e:t=q
 . subst e;rw[qg,qg]
 . rw[qc _ _ e,qc _ _ e];by_cases e:t=s
   . subst e;rw[qg,qg]
   . rw[qc _ _ e,qc _ _ e,qc _ _ e]
def q9y {idx s0:Nat} {o:Oper} {v:AV} (h:Run CO (qgm s0 o) U v U' R W) (S:Sim E D β who U [] a w):OpOut P E D idx U' v a ((execOp a.eval o).run P w):=by
 unfold qgm at h;split at h
 case h_2=>exact(Run.fail' h).elim
 rename_i t ho;obtain⟨av,U1,_,_,_,_,h1,h2⟩:=Run.bind' h;obtain⟨hav,rfl⟩:=Run.mget' h1;split at h2
 case h_2=>exact(Run.fail' h2).elim
 rename_i n ty xs;obtain⟨_,U2,_,_,_,_,h3,h4⟩:=Run.bind' h2;have:=Run.mset' h3;subst this;obtain⟨rfl,rfl⟩:=Run.pure' h4;have hr:=S.rel t;rw[<-hav]at hr;have hl:=RelDp.ref (hr:RelDp β who w n ty xs none (a.tmps.getD t undef))
 have S1:=(S.takeAll t).abs (s:=t) (v:= .dr s0 n .whole) hl (λn hn=>by cases hn) ze1 (λm hm=>by
  have:m=n:=by simpa [Vs.occ,occA,occC]using hm
  subst this;exact S.occ t m (by rw[<-hav];simp[Vs.occ,occA,occC]))
 rw[<-hav]at S1;refine OpOut.same (by unfold execOp;simp only[ho];rfl) (S1.ext λz=> ?_)
 by_cases e:z=t
 . subst e;rw[qg,qg]
 . rw[qc _ _ e,qc _ _ e,qc _ _ e]
end
section
variable {P:Program} {CO:qw} {T:TT} {E:Entry} {D:Nat->Prop} {β β':Beta} {who who':Who} {U U':Slots} {hd:List (AV×Value)} {a:Act} {w w':World} {R W:List Nat}
def q8h {c:Call} {o:Oper} {t f:Nat} {as bs:Array Value} (hop:o.op= .call c) (hc:c.callee= .value (.tmp t))
 (ht:a.eval (.tmp t)= .func (.func f) as bs) (h1:as.size=0) (h2:bs.size=0):execOp a.eval o=callFunc f (c.args.map a.eval):=by
 have e1:as= #[]:=zK2 h1;have e2:bs= #[]:=zK2 h2;subst e1 e2;unfold execOp;simp[hop,resolve,hc,Deferred.ofValue,invoke,ht]
def q8e {c:Call} {o:Oper} {t f:Nat} {pv:Value} (hop:o.op= .call c) (hc:c.callee= .value (.tmp t))
 (ht:a.eval (.tmp t)= .func (.func f) #[] #[pv]):execOp a.eval o=callFunc f (c.args.map a.eval++ #[pv]):=by
 unfold execOp;simp[hop,resolve,hc,Deferred.ofValue,invoke,ht]
def q0h {c:Call} {o:Oper} {f:Nat} (hop:o.op= .call c) (hc:c.callee= .value (.func f)):execOp a.eval o=callFunc f (c.args.map a.eval):=by
 have ef:a.eval (.func f)= .func (.func f) #[] #[]:=rfl;unfold execOp;simp[hop,resolve,hc,Deferred.ofValue,invoke,ef]
def q8n (hT:TTok P T) (hC: ∀f as r os,CO f as r os->X7 P f as r os) (hEP:E.prog=P) {idx mode:Nat} {o:Oper} {v:AV} (h:Run CO (opAV T idx mode o) U v U' R W) (S:Sim E D β who U [] a w)
 (hf: ∀k,k<16-> ¬D (fresh idx k)):OpWp P E D idx U' v o a w:=by
 cases hn:q4l o.op with
 |false=>exact(qjh hT hEP hn h S hf).wp
 |true=>
  cases ho:o.op with
  |call c=>
   unfold opAV at h;simp only[ho]at h;cases hc:c.callee with
   |builtin b=>rw[ho]at hn;obtain⟨callee,args,tys⟩:=c;simp only at hc;subst hc;cases hn
   |invoke r m=>simp only[hc]at h;exact(Run.fail' h).elim
   |value x=>
    simp only[hc]at h;cases x with
    |func f=>
     simp only at h
     have hop:execOp a.eval o=callFunc f (c.args.toList.map a.eval).toArray:=by
      rw[q0h ho hc];congr 1;simp[<-Array.toList_map]
     unfold callW at h;split at h
     . exact qgj hT hC hEP h S hf hop
     . split at h
       . exact qgv hT hC hEP h S hf hop
       split at h
       . exact qfg hT hC hEP h S hf hop
       . exact q7d (mode:=mode) hT hC hEP h S hf hop
    |tmp t=>
     simp only at h;obtain⟨av,U1,_,_,_,_,h1,h2⟩:=Run.bind' h;obtain⟨rfl,rfl⟩:=Run.mget' h1;split at h2
     . rename_i f as bs hg;split at h2
       . rename_i hs;refine q7d (mode:=mode) hT hC hEP h2 S hf ?_;have hr:=S.rel t;rw[hg]at hr;rw[q8h ho hc (by rw[Act.eval];exact hr.1) hs.1 hs.2]
         congr 1;simp[<-Array.toList_map]
       . exact(Run.fail' h2).elim
     . rename_i f et xs i j hg;have hr:=S.rel t;rw[hg]at hr;obtain⟨b,o',e1,e2⟩:=hr;refine qj3 (pv:= .pointer (some ⟨b,o'+i*et.size+j,none⟩)) hT hC hEP ⟨b,o',rfl,e2⟩ h2 S hf ?_;rw[q8e ho hc (by rw[Act.eval];exact e1)]
       congr 1;apply Array.ext';simp
     . exact(Run.fail' h2).elim
    |const u=>exact(Run.fail' h).elim
    |global g=>exact(Run.fail' h).elim
  |_=>rw[ho]at hn;cases hn
end
section
variable {P:Program} {CO:qw} {T:TT} {E:Entry} {D:Nat->Prop} {β β':Beta} {who who':Who} {U U':Slots} {hd:List (AV×Value)} {a:Act} {w w':World} {R W:List Nat}
variable {N:Nat} {pins:List Nat}
def EOf (P:Program) (E:Entry) (N:Nat) (pins:List Nat):Prop:=E.N=N/\(∀p∈E.pins,p.1∈pins)/\E.prog=P
def q05 (hE:EOf P E N pins) {dst:Option Tmp} {v:AV} {c:Value} {u:Unit} (h:Run CO (q5i N pins dst v) U u U' R W) (S:Sim E D β who U [(v,c)] a w):
 Sim E D β who U' [] (a.put dst c) w:=by
 cases dst with
 |none=>
  obtain⟨_,rfl⟩:=Run.pure' h;exact S.putNone
 |some d=>
  simp only[q5i]at h;split at h
  . rename_i hd;have:=Run.mset' h;subst this;exact S.put (by rw[hE.1];exact hd.1) (λp hp e=>hd.2 (e▸hE.2.1 p hp))
  . exact(Run.fail' h).elim
def q9p (hT:TTok P T) (hC: ∀f as r os,CO f as r os->X7 P f as r os) (hEP:E.prog=P) {idx mode:Nat} {o:Oper} {v:AV} (h:Run CO (opG T idx mode o) U v U' R W) (S:Sim E D β who U [] a w)
 (hf: ∀k,k<16-> ¬D (fresh idx k)):OpWp P E D idx U' v o a w:=by
 unfold opG at h;split at h
 . split at h
   . split at h
     . split at h
       . unfold ql4 at h;split at h
         case h_2=>exact(Run.fail' h).elim
         rename_i c ho;split at h
         case h_2=>exact(Run.fail' h).elim
         rename_i f hc;refine qf4 hT hC hEP h S hf ?_;rw[q0h ho hc];congr 1;simp[<-Array.toList_map]
       . split at h
         . split at h
           . exact(q9y h S).wp
           unfold fxOp at h;split at h
           case h_2=>exact(Run.fail' h).elim
           rename_i c ho;split at h
           case h_2=>exact(Run.fail' h).elim
           rename_i f hc;refine qk7 hT hC hEP h S hf ?_;rw[q0h ho hc];congr 1;simp[<-Array.toList_map]
         . exact(qfm hT h S hf).wp
     . exact(op_dq hT h S hf).wp
   split at h
   . obtain⟨av,U1,_,_,_,_,h1,h2⟩:=Run.bind' h;obtain⟨rfl,rfl⟩:=Run.mget' h1;split at h2
     . obtain⟨u,U2,_,_,_,_,h3,h4⟩:=Run.bind' h2;obtain⟨who1,S1⟩:=q5w h3 S;exact q8n hT hC hEP h4 S1 hf
     . exact(Run.fail' h2).elim
   . obtain⟨u,U1,_,_,_,_,h1,h2⟩:=Run.bind' h;obtain⟨g1,_,who1,S1⟩:=Run.rdF h1 S;exact q8n hT hC hEP h2 (S1.drop rfl) hf
 . exact q8n hT hC hEP h S hf
def q7c (hT:TTok P T) (hC: ∀f as r os,CO f as r os->X7 P f as r os) (hE:EOf P E N pins) {ops:Array Oper} {idx mode:Nat} {o:Oper} {u:Unit}
 (h:Run CO (fullM T N pins ops idx mode o) U u U' R W) (S:Sim E D β who U [] a w) (hf: ∀k,k<16-> ¬D (fresh idx k))
 {next:Act->World->Prop} {Q:Exit->Act->World->Prop} (hn: ∀a' w' β' who',Sim E (Dn D idx) β' who' U' [] a' w'->next a' w'):
 if Region.wanted o (yielded ops a.tmps)then o.wp P a w next Q\/(o.asks P a w/\LetsOut Q)else next (a.put o.dst undef) w:=by
 unfold fullM at h;cases hg:o.guard with
 |none=>
  simp only[hg]at h;obtain⟨v,U1,_,_,_,_,h1,h2⟩:=Run.bind' h;rw[iP (by simp[Region.wanted,hg])]
  exact .inl (q9p hT hC hE.2.2 h1 S hf next Q λc w' β' who' S1=>hn _ _ _ _ (q05 hE h2 S1))
 |some jw=>
  obtain⟨j,want⟩:=jw;simp only[hg]at h;split at h
  . exact(Run.fail' h).elim
  . rename_i g hgo;obtain⟨av,U0,_,_,_,_,h0,h9⟩:=Run.bind' h;obtain⟨hav,rfl⟩:=Run.mget' h0;clear h
    have skip: ∀{U1 U2:Slots} {R W:List Nat} {u:Unit},Run CO (q5i N pins o.dst (.tup [])) U1 u U2 R W->U2=U'->Sim E D β who U1 [] a w->next (a.put o.dst undef) w:=by
     intro U1 U2 R W u h2 e S;subst e;have S1:Sim E D β who U1 [(.tup [],undef)] a w:=S.take0 (v:= .tup []) (c:=undef) ⟨#[],rfl,rfl,λj h=>absurd h (zW _)⟩ rfl (λn hn=>by cases hn)
     exact hn _ _ _ _ ((q05 hE h2 S1).mono (λn h=> .inl h) (Dn_fn S.dfn))
    cases hu:qcp av with
    |true=>
     rw[hu]at h9;have hr:=S.rel g;rw[<-hav]at hr
     have hnb: ∀b,a.tmps.getD g undef≠ .bool b:=λb hb=>by
      unfold qcp at hu;split at hu
      . obtain⟨arr,hr,_⟩:=hr;rw[hr]at hb;cases hb
      . cases hu
     have hy:yielded ops a.tmps j=none:=by
      unfold yielded;unfold guardOf at hgo;rw[hgo];cases hx:a.tmps[g]? with
      |none=>simp[hx]
      |some x=>
       simp_all
     rw[iN' (by simp[Region.wanted,hg,hy])]
     exact skip h9 rfl S
    |false=>
    rw[hu]at h9;obtain⟨b,U1,_,_,_,_,h1,h2⟩:=Run.bind' h9;obtain⟨hb,rfl⟩:=Run.mknow' h1;have hr:=S.rel g;rw[hb]at hr;have hr:a.tmps.getD g undef= .bool b:=hr
    have hlt:g<a.tmps.size:=by
     rcases zE1 g a.tmps.size with h|h
     . exact h
     . simp[Array.getD,Nat.not_lt.2 h,undef]at hr
    have hy:yielded ops a.tmps j=some b:=by
     unfold yielded;unfold guardOf at hgo;rw[hgo];have:a.tmps[g]? =some (.bool b):=by rw[<-hr];simp[Array.getD,hlt]
     simp[this]
    by_cases e:b=want
    . rw[iP (by simp[Region.wanted,hg,hy,e])]
      rw[iP (by simpa using e)]at h2
      obtain⟨v,U1,_,_,_,_,h3,h4⟩:=Run.bind' h2;exact .inl (q9p hT hC hE.2.2 h3 S hf next Q λc w' β' who' S1=>hn _ _ _ _ (q05 hE h4 S1))
    . rw[iN' (by simp[Region.wanted,hg,hy,e])]
      grind
def Dlt (D:Nat->Prop) (i:Nat):Nat->Prop:=λn=>D n\/ ∃j k,j<i/\k<16/\n=fresh j k
def q6x {i j k l:Nat} (hk:k<16) (hl:l<16) (h:fresh i k=fresh j l):i=j/\k=l:=by simp only[fresh]at h;omega
def qg2 {i k:Nat} (hD: ∀n,D n->n<100) (hk:k<16): ¬Dlt D i (fresh i k):=by
 rintro (h|⟨j,l,h1,h2,h3⟩)
 . have:=hD _ h;simp only[fresh]at this;omega
 . have:=q6x hk h2 h3;omega
def qk8 {i n:Nat} (h:Dn (Dlt D i) i n):Dlt D (i+1) n:=by
 rcases h with(h|⟨j,k,h1,h2,h3⟩)|⟨k,hk,h⟩
 . exact .inl h
 . exact .inr ⟨j,k,O,h2,h3⟩
 . exact .inr ⟨i,k,O,hk,h⟩
def qkk {i:Nat} (h: ¬D FN): ¬Dlt D i FN:=by
 rintro (h'|⟨j,k,_,hk,e⟩)
 . exact h h'
 . simp only[FN,fresh]at e;omega
inductive OpsRun (CO:qw) (T:TT) (N:Nat) (pins:List Nat) (ops:Array Oper) (md:List (Nat×Nat)):List Oper->Nat->Slots->List (List Nat×List Nat)->Slots->Prop where
 |nil {i:Nat} {U:Slots}:OpsRun CO T N pins ops md [] i U [] U
 |cons {o:Oper} {r:List Oper} {i:Nat} {U U1 U2:Slots} {u:Unit} {R W:List Nat} {Ls:List (List Nat×List Nat)}:
   Run CO (fullM T N pins ops i (lookD md i) o) U u U1 R W->OpsRun CO T N pins ops md r (i+1) U1 Ls U2->OpsRun CO T N pins ops md (o::r) i U ((R,W)::Ls) U2
def Holds:List Log->List (List Nat×List Nat)->Prop
 |[],[]=>True
 |L::Ls,F::Fs=>(∀s∈F.1,s∈L.1)/\(∀s∈F.2,s∈L.2)/\Holds Ls Fs
 |_,_=>False
def OpsRun.seq {ops:Array Oper} {md:List (Nat×Nat)} {l:List Oper} {i:Nat} {U U':Slots} {Fs:List (List Nat×List Nat)} (h:OpsRun CO T N pins ops md l i U Fs U'):
 ∀τ,SEq U τ-> ∃τ',OpsRun CO T N pins ops md l i τ Fs τ'/\SEq U' τ':=by
 induction h with
 |nil=>exact λτ h=>⟨τ,.nil,h⟩
 |cons h1 _ ih=>
  intro τ e;obtain⟨τ1,g1,g2⟩:=h1.seq e;obtain⟨τ2,g3,g4⟩:=ih τ1 g2;exact⟨τ2,.cons g1 g3,g4⟩
def SEq.symm {U τ:Slots} (h:SEq U τ):SEq τ U:=λs=>(h s).symm
def SEq.trans {U τ ρ:Slots} (h:SEq U τ) (h':SEq τ ρ):SEq U ρ:=λs=>(h' s).trans (h s)
def qj5 {ρT:Type} {C:Nat->List AV->(AV->List AV->Option ρT)->Option ρT} {ρ:ρT}
 (hC: ∀f as k,C f as k=some ρ-> ∃r os,CO f as r os/\k r os=some ρ) {ops:Array Oper} {md:List (Nat×Nat)} (l:List Oper):
 ∀(i:Nat) (U:Slots) (Ls:List Log) (K:Slots->List Log->Option ρT),opsK C T N pins ops md l i U Ls K=some ρ->
  ∃Fs U' U'' Ls',OpsRun CO T N pins ops md l i U Fs U'/\SEq U' U''/\Holds Ls' Fs/\K U'' (Ls++Ls')=some ρ:=by
 induction l with
 |nil=>exact λi U Ls K h=>⟨[],U,U,[],.nil,λ_=>rfl,trivial,by simpa [opsK]using h⟩
 |cons o r ih=>
  intro i U Ls K h;simp only[opsK]at h;obtain⟨u,U1,R,W,h1,U1',L',e1,e2,e3,e4⟩:=qkg hC _ _ _ _ h;obtain⟨Fs,U2,U2',Ls',g1,g2,g3,g4⟩:=ih _ _ _ _ e4;obtain⟨τ,q1,q2⟩:=g1.seq U1 e1.symm;refine⟨(R,W)::Fs,τ,U2',L'::Ls',.cons h1 q1,q2.symm.trans g2,⟨λs hs=>e2 s (.inl hs),λs hs=>e3 s (.inl hs),g3⟩,by simpa using g4⟩
def qig (hT:TTok P T) (hC: ∀f as r os,CO f as r os->X7 P f as r os) (hE:EOf P E N pins) {ops:Array Oper} {md:List (Nat×Nat)} (hD: ∀n,D n->n<100)
 {Q:Exit->Act->World->Prop} {l:List Oper} {i:Nat} {Fs:List (List Nat×List Nat)} (h:OpsRun CO T N pins ops md l i U Fs U'):
 ∀{β who a w},Sim E (Dlt D i) β who U [] a w->(∀a' w' β' who',Sim E (Dlt D (i+l.length)) β' who' U' [] a' w'->Q .normal a' w')->wpList P ops Q l a w:=by
 induction h with
 |nil=>exact λS hn=>hn _ _ _ _ S
 | @cons o r i U U1 U2 u R W Ls h1 _ ih=>
   intro β who a w S hn;refine q7c hT hC hE h1 S (λk hk=>qg2 hD hk) λa' w' β' who' S'=> ?_
   refine ih (S'.mono (λn h=>qk8 h) (λh=> ?_)) λa'' w'' β'' who'' S''=>hn _ _ _ _ (by
    rw[show i+(o::r).length=i+1+r.length by simp;omega];exact S'')
   rcases h with h|⟨j,k,_,hk,e⟩
   . have:=S.dfn;exact this (.inl h)
   . simp only[FN,fresh]at e;omega
end
section
variable {P:Program} {CO:qw} {T:TT} {E:Entry} {D:Nat->Prop} {β β':Beta} {who who':Who} {U U':Slots} {a:Act} {w w':World}
variable {N:Nat} {pins:List Nat}
def Last (st:Nat->Slots) (Wg:Nat->List Nat) (n:Nat) (S:Nat->Prop) (s:Nat) (v:Option AV):Prop:=
 (∃i,i<n/\S i/\s∈Wg i/\(∀j,j<n->S j->s∈Wg j->j<=i)/\v=vw (st (i+1)) s)\/((∀j,j<n->S j->s∉Wg j)/\v=vw (st 0) s)
variable {st:Nat->Slots} {Rg Wg:Nat->List Nat} {n:Nat} {S S':Nat->Prop} {s:Nat} {v u:Option AV}
def Last.uniq (h:Last st Wg n S s v) (h':Last st Wg n S s u):v=u:=by
 rcases h with⟨i,h1,h2,h3,h4,rfl⟩|⟨h1,rfl⟩<;>rcases h' with⟨j,g1,g2,g3,g4,rfl⟩|⟨g1,rfl⟩
 . grind
 . grind
 . grind
 . rfl
def Last.congr (h:Last st Wg n S s v) (he: ∀j,j<n->s∈Wg j->(S j↔S' j)):Last st Wg n S' s v:=by
 rcases h with⟨i,h1,h2,h3,h4,rfl⟩|⟨h1,rfl⟩
 . exact .inl ⟨i,h1,(he i h1 h3).1 h2,h3,λj hj hs hw=>h4 j hj ((he j hj hw).2 hs) hw,rfl⟩
 . exact .inr ⟨λj hj hs hw=>h1 j hj ((he j hj hw).2 hs) hw,rfl⟩
def Last.canon (hfr: ∀j,j<n-> ∀s,s∉Wg j->vw (st (j+1)) s=vw (st j) s): ∀i,i<=n->Last st Wg n (λj=>j<i) s (vw (st i) s)
 |0,_=> .inr ⟨λj _ h=>absurd h (zW _),rfl⟩
 |i+1,hi=>by
  by_cases hs:s∈Wg i
  . exact .inl ⟨i,O,O,hs,λj _ h _=>O,rfl⟩
  . rw[hfr i O s hs];refine(Last.canon hfr i O).congr λj hj hw=> ?_
    grind
def qhz {m:M Unit} {i:Nat} {u:Unit} {τ:Slots} {anc:Nat->List Nat} (hi:i<n) (hrun:Run CO m (st i) u (st (i+1)) (Rg i) (Wg i))
 (hfr: ∀j,j<n-> ∀s,s∉Wg j->vw (st (j+1)) s=vw (st j) s)
 (hconf: ∀i j,i<j->j<n->i∈anc j\/((∀s∈Rg i,s∉Wg j)/\ ∀s∈Rg j,s∉Wg i))
 (hS: ¬S i) (ha: ∀k∈anc i,S k) (hb: ∀j,S j->i∉anc j) (hτ: ∀s,Last st Wg n S s (vw τ s)):
 ∃τ',Run CO m τ u τ' (Rg i) (Wg i)/\ ∀s,Last st Wg n (λj=>S j\/j=i) s (vw τ' s):=by
 have key: ∀s∈Rg i,∀j,j<n->s∈Wg j->(S j↔j<i):=λs hs j hj hw=>by
  grind
 have agree: ∀s∈Rg i,vw τ s=vw (st i) s:=λs hs=>
  ((hτ s).congr (key s hs)).uniq (Last.canon hfr i O)
 obtain⟨τ',h1,h2⟩:=hrun.local τ (λ_=>False) (λs h=>agree s (h.resolve_right id))
 refine⟨τ',h1,λs=> ?_⟩
 by_cases hs:s∈Wg i
 . have hr:=hrun.subW s hs;rw[h2 s (.inl hr)];refine .inl ⟨i,hi,.inr rfl,hs,λj hj hj' hw=> ?_,rfl⟩
   grind
 . rw[h1.frame s hs];refine(hτ s).congr λj hj hw=>⟨λh=> .inl h,λh=> ?_⟩
   grind
def prs (ops:List Oper) (i:Nat):List Nat:=match ops[i]? with
 |some o=>preds o i
 |none=>[]
def qag (S:Nat->Prop) (all:List Oper) (hS: ∀j,j<all.length->S j-> ∀k∈prs all j,S k): ∀(r:List Oper) (i:Nat) (acc:List (List Nat)),
 (∀j,r[j]? =all[i+j]?)->acc.length=i->(∀j,j<i->(∀k∈prs all j,S k)-> ∀k∈acc.getD j [],S k)->all.length=i+r.length->
 ∀j,j<all.length->(∀k∈prs all j,S k)-> ∀k∈(ancs r i acc).getD j [],S k
 |[],i,acc,hr,hl,hacc,hn,j,hj,hp=>hacc j (by simpa [hn]using hj) hp
 |o::r,i,acc,hr,hl,hacc,hn,j,hj,hp=>by
  have ho:all[i]? =some o:=by have:=hr 0;simpa using this.symm
  simp only[ancs]
  refine qag S all hS r (i+1) _ (λj=>by have:=hr (j+1);grind) (by simp[hl]) (λj hj hp k hk=> ?_)
   (by rw[hn];simp;omega) j hj hp
  rcases zE1 j i with h|h
  . refine hacc j h hp k ?_
    grind
  . have:j=i:=O;subst this;simp only[List.getD,List.getElem?_append_right (show acc.length<=j by omega),hl,zF3,List.getElem?_cons_zero,zq1]at hk
    obtain⟨p,hp',hk⟩:=zC.1 hk;have hpp:p∈prs all j:=by simp only[prs,ho];exact hp'
    have hpj:p<j:=by
     simp only[preds,zQ,zd1,zF,decide_eq_true_eq]at hp';obtain⟨e,⟨_,_,h⟩,rfl⟩:=hp';exact h
    rcases mC hk with rfl|hk
    . exact hp k hpp
    . exact hacc p hpj (hS p O (hp p hpp)) k hk
end
end Go.Vs
