import Derived.Test.YtoeiaipcgnjfcaaGreatDoorLa
set_option linter.unusedSectionVars false
set_option linter.unusedVariables false
set_option linter.unusedSimpArgs false
set_option linter.defProp false
namespace Go.Vs.F
structure St where
 row:LI
 col:LI
 mr:List Bool
def St.mark (s:St) (i:Int):St:={s with mr:=s.mr.set i.toNat true}
def St.put (s:St) (j i:Int):St:={s with row:=s.row.set j.toNat i,col:=s.col.set i.toNat j}
inductive Loop (E:List LI):Int->LI->St->Bool->St->Prop
 |nil {j:Int} {s:St}:Loop E j [] s false s
 |skip {j i:Int} {xs:LI} {s t:St} {b:Bool}:s.mr.getD i.toNat false=true->Loop E j xs s b t->Loop E j (i::xs) s b t
 |free {j i:Int} {xs:LI} {s:St}:s.mr.getD i.toNat false=false->s.col.getD i.toNat 0= -1->Loop E j (i::xs) s true ((s.mark i).put j i)
 |found {j i:Int} {xs:LI} {s t:St}:s.mr.getD i.toNat false=false->s.col.getD i.toNat 0≠ -1->
   Loop E (s.col.getD i.toNat 0) (E.getD (s.col.getD i.toNat 0).toNat []) (s.mark i) true t->Loop E j (i::xs) s true (t.put j i)
 |lost {j i:Int} {xs:LI} {s t u:St} {b:Bool}:s.mr.getD i.toNat false=false->s.col.getD i.toNat 0≠ -1->
   Loop E (s.col.getD i.toNat 0) (E.getD (s.col.getD i.toNat 0).toNat []) (s.mark i) false t->Loop E j xs t b u->Loop E j (i::xs) s b u
structure Good (R C:Nat) (s:St):Prop where
 row:s.row.length=C
 col:s.col.length=R
 mr:s.mr.length=R
 ok: ∀i,i<R->s.col.getD i 0= -1\/(0<=s.col.getD i 0/\s.col.getD i 0<(C:Int))
 rok: ∀j,j<C->s.row.getD j 0= -1\/(0<=s.row.getD j 0/\s.row.getD j 0<(R:Int))
def Good.mark {R C:Nat} {s:St} (h:Good R C s) (i:Int):Good R C (s.mark i):=⟨h.row,h.col,by simp[St.mark,h.mr],h.ok,h.rok⟩
def Good.put {R C:Nat} {s:St} (h:Good R C s) {j i:Int} (hj:0<=j/\j<(C:Int)) (hi:0<=i/\i<(R:Int)):Good R C (s.put j i):=by
 refine⟨by simp[St.put,h.row],by simp[St.put,h.col],h.mr,λk hk=> ?_,λk hk=> ?_⟩
 . simp only[St.put];by_cases e:i.toNat=k
   . subst e;rw[Qh (by rw[h.col];exact hk)];exact .inr hj
   . rw[getD_set_ne e];exact h.ok k hk
 . simp only[St.put];by_cases e:j.toNat=k
   . subst e;rw[Qh (by rw[h.row];exact hk)];exact .inr hi
   . rw[getD_set_ne e];exact h.rok k hk
def Loop.good {E:List LI} {R C:Nat} (hE:Ym R E) {j:Int} {xs:LI} {s t:St} {b:Bool} (h:Loop E j xs s b t):
 Good R C s->0<=j/\j<(C:Int)->(∀i∈xs,0<=i/\i<(R:Int))->Good R C t:=by
 induction h with
 |nil=>exact λg _ _=>g
 |skip _ _ ih=>exact λg hj hx=>ih g hj (λi hi=>hx i (mT hi))
 |free _ _=>exact λg hj hx=>(g.mark _).put hj (hx _ mS)
 |found _ h2 _ ih=>
  intro g hj hx;have hi:=hx _ mS;have hc:=(g.ok _ O).resolve_left h2;exact(ih (g.mark _) hc (hE _)).put hj hi
 |lost _ h2 _ _ ih1 ih2=>
  intro g hj hx;have hi:=hx _ mS;have hc:=(g.ok _ O).resolve_left h2;exact ih2 (ih1 (g.mark _) hc (hE _)) hj (λi hi=>hx i (mT hi))
def count_set {l:List Bool} {k:Nat} (hk:k<l.length) (h:l.getD k false=false):(l.set k true).count false+1=l.count false:=by
 induction l generalizing k with
 |nil=>simp at hk
 |cons x l ih=>
  cases k with
  |zero=>
   have:x=false:=by simpa using h
   subst this;simp
  |succ k=>
   have:=ih (k:=k) (by simpa using hk) (by simpa [List.getD]using h)
   simp only[List.set_cons_succ,z02];omega
def count_le {l:List Bool} {k:Nat}:(l.set k true).count false<=l.count false:=by
 induction l generalizing k with
 |nil=>simp
 |cons x l ih=>
  cases k with
  |zero=>simp[z02]
  |succ k=>simp only[List.set_cons_succ,z02];have:=ih (k:=k);omega
def Loop.count {E:List LI} {j:Int} {xs:LI} {s t:St} {b:Bool} (h:Loop E j xs s b t):t.mr.count false<=s.mr.count false:=by
 induction h with
 |nil=>exact zD _
 |skip _ _ ih=>exact ih
 |free _ _=>exact count_le
 |found _ _ _ ih=>exact zn ih count_le
 |lost _ _ _ _ ih1 ih2=>exact zn ih2 (zn ih1 count_le)
def Loop.exists {E:List LI} {R C:Nat} (hE:Ym R E): ∀(d:Nat) (xs:LI) (j:Int) (s:St),s.mr.count false<=d->Good R C s->0<=j/\j<(C:Int)->(∀i∈xs,0<=i/\i<(R:Int))->
 ∃b t,Loop E j xs s b t:=by
 intro d;induction d with
 |zero=>
  intro xs;induction xs with
  |nil=>exact λj s _ _ _ _=>⟨_,_,.nil⟩
  |cons i xs ih=>
   intro j s hd g hj hx;have hi:=hx _ mS;by_cases hm:s.mr.getD i.toNat false=true
   . obtain⟨b,t,h⟩:=ih j s hd g hj (λi hi=>hx i (mT hi))
     exact⟨b,t,.skip hm h⟩
   . have:=count_set (l:=s.mr) (k:=i.toNat) (by rw[g.mr];omega) (by simpa using hm)
     omega
 |succ d ihd=>
  intro xs;induction xs with
  |nil=>exact λj s _ _ _ _=>⟨_,_,.nil⟩
  |cons i xs ih=>
   intro j s hd g hj hx;have hi:=hx _ mS;have hx': ∀i∈xs,0<=i/\i<(R:Int):=λi hi=>hx i (mT hi)
   by_cases hm:s.mr.getD i.toNat false=true
   . obtain⟨b,t,h⟩:=ih j s hd g hj hx';exact⟨b,t,.skip hm h⟩
   . have hm:s.mr.getD i.toNat false=false:=by simpa using hm
     have hcount:=count_set (l:=s.mr) (k:=i.toNat) (by rw[g.mr];omega) hm
     by_cases hc:s.col.getD i.toNat 0= -1
     . exact⟨_,_,.free hm hc⟩
     . have hcc:=(g.ok _ O).resolve_left hc;obtain⟨b,t,h⟩:=ihd (E.getD (s.col.getD i.toNat 0).toNat []) _ (s.mark i) (by show(s.mr.set i.toNat true).count false<=d;omega) (g.mark i) hcc (hE _)
       cases b with
       |true=>exact⟨_,_,.found hm hc h⟩
       |false=>
        have g':=h.good hE (g.mark i) hcc (hE _);have hc':=h.count;obtain⟨b,u,h'⟩:=ih j t (by have:(s.mark i).mr.count false<=s.mr.count false:=count_le;omega) g' hj hx'
        exact⟨_,_,.lost hm hc h h'⟩
def stE (E:List LI) (t:St):List LI×LI×LI×List Bool×Unit:=(E,t.row,t.col,t.mr,())
def qgy {E:List LI} {R C:Nat} (hE:Ym R E) (hlen:E.length=C) (hs: ∀j,(E.getD j []).length<big) {j:Int} {xs:LI} {s t:St} {b:Bool} (h:Loop E j xs s b t):
 Good R C s->0<=j/\j<(C:Int)->(∀i∈xs,0<=i/\i<(R:Int))->
 ∃M,∀m m' n,M<=m->M<=n-> ∀(ys:LI) (k:Nat),ys.length<big->k<=ys.length->ys.drop k=xs->
  g130L0 (λa0 a1 a2 a3 a4=>g130 m a0 a1 a2 a3 a4) m' n E s.row s.col s.mr j ys (ys.length:Int) (k:Int)=
   some (bif b then .inl (stE E t,true,())else .inr (.inl (stE E t,()))):=by
 have enter: ∀{c:Int} {s t:St} {b:Bool},0<=c/\c<(C:Int)->(∃M,∀m m' n,M<=m->M<=n-> ∀(ys:LI) (k:Nat),ys.length<big->k<=ys.length->ys.drop k=E.getD c.toNat []->
  g130L0 (λa0 a1 a2 a3 a4=>g130 m a0 a1 a2 a3 a4) m' n E s.row s.col s.mr c ys (ys.length:Int) (k:Int)=
   some (bif b then .inl (stE E t,true,())else .inr (.inl (stE E t,()))))-> ∃M,∀m,M<=m->g130 m E s.row s.col s.mr c=some (b,stE E t,(),()):=by
  rintro c s t b hc ⟨M,hM⟩
  refine⟨M+1,λm hm=> ?_⟩
  obtain⟨m,rfl⟩: ∃m',m=m'+1:=⟨m-1,O⟩;rw[g130,iP (by rw[hlen];exact hc),zI]
  have:=hM m m m O O (E.getD c.toNat []) 0 (hs _) (zU2 _) (by simp)
  simp only[za1,nZ,zw1]at this;rw[this];cases b<;>rfl
 have head: ∀{i:Int} {xs:LI} {ys:LI} {k:Nat},ys.length<big->k<=ys.length->ys.drop k=i::xs->k<ys.length/\ys.getD k 0=i/\ys.drop (k+1)=xs:=by
  intro i xs ys k _ hk e
  have hlt:k<ys.length:=by
   rcases zE1 k ys.length with h|h
   . exact h
   . rw[zg2 h]at e;cases e
  rw[drop_cons (d:=0) hlt]at e;injection e with e1 e2
  exact⟨hlt,e1,e2⟩
 induction h with
 |nil=>
  intro g hj hx;refine⟨1,λm m' n hm hn ys k hy hk e=> ?_⟩
  obtain⟨n,rfl⟩: ∃n',n=n'+1:=⟨n-1,O⟩
  have hge: ¬(k:Int)<(ys.length:Int):=by
   have:=congrArg List.length e;simp at this;omega
  rw[g130L0,bQ,iN' hge];rfl
 | @skip j i xs s t b h1 h2 ih=>
   intro g hj hx;obtain⟨M,hM⟩:=ih g hj (λi hi=>hx i (mT hi))
   refine⟨M+1,λm m' n hm hn ys k hy hk e=> ?_⟩
   obtain⟨n,rfl⟩: ∃n',n=n'+1:=⟨n-1,O⟩;obtain⟨hlt,e1,e2⟩:=head hy hk e;have hi:=hx i mS;have hb:(2305843009213693952:Nat)=big:=rfl;rw[g130L0,bQ,iP O,iP O];simp only[tN,e1,zI,h1,cond_true,wsucc (show k<4611686018427387904 by omega)]
   rw[iP (by rw[g.mr];exact hi)]
   exact hM m m' n O O ys (k+1) hy O e2
 | @free j i xs s h1 h2=>
   intro g hj hx;refine⟨1,λm m' n hm hn ys k hy hk e=> ?_⟩
   obtain⟨n,rfl⟩: ∃n',n=n'+1:=⟨n-1,O⟩;obtain⟨hlt,e1,e2⟩:=head hy hk e;have hi:=hx i mS;rw[g130L0,bQ,iP O,iP O];simp only[tN,e1,zI,h1,cond_false,h2,bif_eq,if_true];rw[iP (by rw[g.mr];exact hi),iP (by rw[g.mr];exact hi),iP (by rw[g.col];exact hi),iP (by rw[g.row];exact hj),iP (by rw[g.col];exact hi)]
   rfl
 | @found j i xs s t h1 h2 h3 ih=>
   intro g hj hx;have hi:=hx i mS;have hc:=(g.ok i.toNat O).resolve_left h2;obtain⟨M,hM⟩:=enter hc (ih (g.mark i) hc (hE _));have g':=h3.good hE (g.mark i) hc (hE _);refine⟨M+1,λm m' n hm hn ys k hy hk e=> ?_⟩
   obtain⟨n,rfl⟩: ∃n',n=n'+1:=⟨n-1,O⟩;obtain⟨hlt,e1,e2⟩:=head hy hk e;have hM:=hM m O;simp only[St.mark]at hM;rw[g130L0,bQ,iP O,iP O];simp only[tN,e1,zI,h1,cond_false,h2,bif_eq,if_false];rw[iP (by rw[g.mr];exact hi),iP (by rw[g.mr];exact hi),iP (by rw[g.col];exact hi),iP (by rw[g.col];exact hi),hM]
   simp only[bS,cond_true,stE];rw[iP (by rw[g'.row];exact hj),iP (by rw[g'.col];exact hi)]
   rfl
 | @lost j i xs s t u b h1 h2 h3 h4 ih1 ih2=>
   intro g hj hx;have hi:=hx i mS;have hc:=(g.ok i.toNat O).resolve_left h2;obtain⟨M,hM⟩:=enter hc (ih1 (g.mark i) hc (hE _));have g':=h3.good hE (g.mark i) hc (hE _);obtain⟨M2,hM2⟩:=ih2 g' hj (λi hi=>hx i (mT hi))
   refine⟨M+M2+1,λm m' n hm hn ys k hy hk e=> ?_⟩
   obtain⟨n,rfl⟩: ∃n',n=n'+1:=⟨n-1,O⟩;obtain⟨hlt,e1,e2⟩:=head hy hk e;have hM:=hM m O;have hb:(2305843009213693952:Nat)=big:=rfl;simp only[St.mark]at hM;rw[g130L0,bQ,iP O,iP O];simp only[tN,e1,zI,h1,cond_false,h2,bif_eq,if_false,wsucc (show k<4611686018427387904 by omega)]
   rw[iP (by rw[g.mr];exact hi),iP (by rw[g.mr];exact hi),iP (by rw[g.col];exact hi),iP (by rw[g.col];exact hi),hM]
   simp only[bS,cond_false,stE];exact hM2 m m' n O O ys (k+1) hy O e2
def q1p {C:Nat} {S I:LI}:(qy C S I).length=C:=by simp[qy]
def St.fresh (R:Nat) (s:St):St:={s with mr:=List.replicate R false}
def st0 (R C:Nat):St:=⟨List.replicate C (-1),List.replicate R (-1),[]⟩
inductive All (E:List LI) (R C:Nat):Nat->St->St->Prop
 |done {s:St}:All E R C C s s
 |step {k:Nat} {s t u:St} {b:Bool}:k<C->Loop E (k:Int) (E.getD k []) (s.fresh R) b t->All E R C (k+1) t u->All E R C k s u
def Good.fresh {R C:Nat} {s:St} (h:Good R C s):Good R C (s.fresh R):=⟨h.row,h.col,by simp[St.fresh],h.ok,h.rok⟩
def All.exists {E:List LI} {R C:Nat} (hE:Ym R E): ∀(d k:Nat) (s:St),C-k=d->k<=C->Good R C (s.fresh R)-> ∃t,All E R C k s t
 |0,k,s,hd,hk,g=>by
  have:k=C:=O;subst this;exact⟨s,.done⟩
 |d+1,k,s,hd,hk,g=>by
  obtain⟨b,t,h⟩:=Loop.exists hE _ (E.getD k []) (k:Int) (s.fresh R) (zD _) g O (hE k);have g':=h.good hE g O (hE k);obtain⟨u,h'⟩:=All.exists hE d (k+1) t O O g'.fresh;exact⟨u,.step O h h'⟩
def All.good {E:List LI} {R C:Nat} (hE:Ym R E) {k:Nat} {s t:St} (h:All E R C k s t):Good R C (s.fresh R)->Good R C (t.fresh R):=by
 induction h with
 |done=>exact id
 |step hk h _ ih=>exact λg=>ih (h.good hE g O (hE _)).fresh
def q1w {R C:Nat}:Good R C ((st0 R C).fresh R):=by
 refine⟨by simp[St.fresh,st0],by simp[St.fresh,st0],by simp[St.fresh],λi hi=> .inl ?_,λi hi=> .inl ?_⟩
 . exact qx hi
 . exact qx hi
def qe7 (m:Nat) {R C:Nat} {S I V:LI} (hM:MatOK R C S I): ∀(n k:Nat) (out:List LI),C-k<n->k<=C->out.length=C->(∀j,j<k->out.getD j []=colOf S I j)->
 g128L0 m n (R:Int) (C:Int) S I V out (C:Int) (k:Int)=some (.inl (qy C S I,()))
 |0,k,out,h,_,_,_=>O
 |n+1,k,out,h,hk0,hl,ho=>by
  rw[g128L0];have hlen:=hM.st.len;have hcz:=hM.cz;by_cases hk:k<C
  . have a:=hM.st.rng (j:=k) O;have b:=hM.st.rng (j:=k+1) O;have d:=hM.st.mono k hk;have h1:(k:Int)<(C:Int):=O;have h2:(k:Int)<(S.length:Int):=O;have h3:((k+1:Nat):Int)<(S.length:Int):=O;have h4:(k:Int)<(out.length:Int):=O;simp only[bQ,h1,h2,h3,h4,if_true,tN,zG2,and_self,wsucc (show k<4611686018427387904 by omega),a.1,b.2,d,zI]
    refine qe7 m hM n (k+1) _ O O (by simp[hl]) λj hj=> ?_
    by_cases e:k=j
    . subst e;rw[Qh O];rfl
    . rw[getD_set_ne e];exact ho j O
  . have h1: ¬(k:Int)<(C:Int):=O;simp only[bQ,h1,if_false]
    have:out=qy C S I:=q2r [] (by rw[hl,q1p]) λj hj=>by
     rw[ho j O,Zp O]
    rw[this]
def qk2 {m:Nat} {R C:Nat} {S I V:LI} (hM:MatOK R C S I) (hm:200<m):g128 m (R:Int) (C:Int) S I V=some (qy C S I,(),()):=by
 have hcz:=hM.cz;rw[g128,iP O];have:=qe7 (V:=V) m hM m 0 (List.replicate C []) O O (by simp) (λj hj=>absurd hj (zW _))
 simp only[tN,zN1];simp only[za1,nZ,zw1]at this;rw[this];rfl
def qir (m:Nat) {N:Nat} {v:Int} (hN:N<4611686018427387904): ∀(n k:Nat) (out:LI),N-k<n->k<=N->out.length=N->(∀j,j<k->out.getD j 0=v)->
 g129L0 m n v out (N:Int) (k:Int)=some (.inl (List.replicate N v,()))
 |0,k,out,h,_,_,_=>O
 |n+1,k,out,h,hk0,hl,ho=>by
  rw[g129L0];by_cases hk:k<N
  . have h1:(k:Int)<(N:Int):=O;have h4:(k:Int)<(out.length:Int):=O;simp only[bQ,h1,h4,if_true,tN,zG2,and_self,wsucc (show k<4611686018427387904 by omega),zI]
    refine qir m hN n (k+1) _ O O (by simp[hl]) λj hj=> ?_
    by_cases e:k=j
    . subst e;rw[Qh O]
    . rw[getD_set_ne e];exact ho j O
  . have h1: ¬(k:Int)<(N:Int):=O;simp only[bQ,h1,if_false]
    have:out=List.replicate N v:=q2r 0 (by rw[hl];simp) λj hj=>by
     rw[ho j O,qx O]
    rw[this]
def qix {m N:Nat} {v:Int} (hN:N<m) (hN2:N<=1073741824):g129 m (N:Int) v=some (List.replicate N v,(),(),()):=by
 rw[g129,iP O];have:=qir m (N:=N) (v:=v) O m 0 (List.replicate N 0) O O (by simp) (λj hj=>absurd hj (zW _))
 simp only[tN,zN1];simp only[za1,nZ,zw1]at this;rw[this];rfl
def qj9 {E:List LI} {R C:Nat} (hE:Ym R E) (hlen:E.length=C) (hs: ∀j,(E.getD j []).length<big) {k:Nat} (hk:k<C) {s t:St} {b:Bool} (h:Loop E (k:Int) (E.getD k []) s b t) (g:Good R C s):
 ∃M,∀m,M<=m->g130 m E s.row s.col s.mr (k:Int)=some (b,stE E t,(),()):=by
 obtain⟨M,hM⟩:=qgy hE hlen hs h g O (hE k);refine⟨M+1,λm hm=> ?_⟩
 obtain⟨m,rfl⟩: ∃m',m=m'+1:=⟨m-1,O⟩;rw[g130,iP O,zI];have:=hM m m m O O (E.getD k []) 0 (hs _) (zU2 _) (by simp)
 simp only[za1,nZ,zw1]at this;simp only[tN];rw[this];cases b<;>rfl
def qfb {E:List LI} {R C:Nat} {S I V:LI} (hE:Ym R E) (hlen:E.length=C) (hs: ∀j,(E.getD j []).length<big) (hR:R<=200) (hC:C<=200) {k:Nat} {s u:St} (h:All E R C k s u):Good R C (s.fresh R)->
 ∃M,∀m n,M<=m->M<=n->g54L0 m n (R:Int) (C:Int) S I V E s.row s.col s.mr (C:Int) (k:Int)=some (.inl (stE E u,())):=by
 induction h with
 |done=>
  intro g;refine⟨1,λm n hm hn=> ?_⟩
  obtain⟨n,rfl⟩: ∃n',n=n'+1:=⟨n-1,O⟩;rw[g54L0,bQ,iN' O];rfl
 | @step k s t u b hk h _ ih=>
   intro g;have g':=h.good hE g O (hE k);obtain⟨M,hM⟩:=qj9 hE hlen hs hk h g;obtain⟨M2,hM2⟩:=ih g'.fresh;refine⟨M+M2+1,λm n hm hn=> ?_⟩
   obtain⟨n,rfl⟩: ∃n',n=n'+1:=⟨n-1,O⟩;have hM:=hM m O;simp only[St.fresh]at hM;rw[g54L0,bQ,iP O,iP O];simp only[tN,hM,bS,stE,wsucc (show k<4611686018427387904 by omega)]
   exact hM2 m n O O
def q7l {R C:Nat} {S I V:LI} (hM:MatOK R C S I) {u:St} (h:All (qy C S I) R C 0 (st0 R C) u):
 ∃M,∀m,M<=m->g54 m (R:Int) (C:Int) S I V=some (stE (qy C S I) u,(),()):=by
 obtain⟨M,hL⟩:=qfb (S:=S) (I:=I) (V:=V) hM.edge q1p hM.len hM.rz hM.cz h q1w;have hcz:=hM.cz;have hrz:=hM.rz;refine⟨M+201,λm hm=> ?_⟩
 rw[g54,qk2 hM O,qix O O,qix O O];have:=hL m m O O;simp only[st0,za1,nZ,zw1]at this;simp only[bS,this]
inductive Rch (E:List LI) (C:Nat) (row col:LI):Nat->Prop
 |base {j:Nat}:j<C->row.getD j 0= -1->Rch E C row col j
 |step {j:Nat} {i:Int}:Rch E C row col j->i∈E.getD j []->col.getD i.toNat 0≠ -1->Rch E C row col (col.getD i.toNat 0).toNat
open Classical in
noncomputable def finC (E:List LI) (C:Nat) (row col:LI):List Bool:=(List.range C).map λj=>decide (Rch E C row col j)
open Classical in
noncomputable def finR (E:List LI) (R C:Nat) (row col:LI):List Bool:=(List.range R).map λi:Nat=>decide (∃j,Rch E C row col j/\((i:Nat):Int)∈E.getD j [])
def qjw {E:List LI} {C:Nat} {row col:LI} {j:Nat} (hj:j<C):(finC E C row col).getD j false=true↔Rch E C row col j:=by
 simp[finC,List.getD,hj]
def qka {E:List LI} {R C:Nat} {row col:LI} {i:Nat} (hi:i<R):(finR E R C row col).getD i false=true↔ ∃j,Rch E C row col j/\(i:Int)∈E.getD j []:=by
 unfold finR;rw[List.getD,List.getElem?_map,List.getElem?_range hi];simp only[zj1,zq1,decide_eq_true_eq]
structure Q where
 rw_:List Bool
 cl:List Bool
 td:LI
def scan (col:LI):LI->Q->Q
 |[],q=>q
 |i::xs,q=>
  if col.getD i.toNat 0= -1 then scan col xs {q with rw_:=q.rw_.set i.toNat true}
  else if q.cl.getD (col.getD i.toNat 0).toNat false=true then scan col xs {q with rw_:=q.rw_.set i.toNat true}
  else scan col xs ⟨q.rw_.set i.toNat true,q.cl.set (col.getD i.toNat 0).toNat true,q.td++[col.getD i.toNat 0]⟩
structure QOK (R C:Nat) (q:Q):Prop where
 rl:q.rw_.length=R
 cll:q.cl.length=C
 td: ∀c∈q.td,0<=c/\c<(C:Int)/\q.cl.getD c.toNat false=true
structure qn2 (R C:Nat) (col xs:LI) (q q':Q):Prop where
 ok:QOK R C q'
 rows: ∀i,i<R->(q'.rw_.getD i false=true↔q.rw_.getD i false=true\/(i:Int)∈xs)
 cols: ∀c,c<C->(q'.cl.getD c false=true↔q.cl.getD c false=true\/ ∃x∈xs,col.getD x.toNat 0≠ -1/\(col.getD x.toNat 0).toNat=c)
 keep: ∀c∈q.td,c∈q'.td
 new: ∀c,c<C->q'.cl.getD c false=true->q.cl.getD c false=true\/(c:Int)∈q'.td
 mu:2*q'.cl.count false+q'.td.length<=2*q.cl.count false+q.td.length
def scan_ok {R C:Nat} {col:LI} (hcol: ∀i,i<R->col.getD i 0= -1\/(0<=col.getD i 0/\col.getD i 0<(C:Int))): ∀(xs:LI) (q:Q),QOK R C q->(∀i∈xs,0<=i/\i<(R:Int))->
 qn2 R C col xs q (scan col xs q)
 |[],q,h,_=>⟨h,λi hi=>by simp[scan],λc hc=>by simp[scan],λc hc=>hc,λc hc h=> .inl h,zD _⟩
 |i::xs,q,h,hx=>by
  have hi:=hx i mS;have hx': ∀i∈xs,0<=i/\i<(R:Int):=λi hi=>hx i (mT hi)
  have hrow: ∀k,k<R->((q.rw_.set i.toNat true).getD k false=true↔q.rw_.getD k false=true\/(k:Int)=i):=λk hk=>by
   by_cases e:i.toNat=k
   . subst e;rw[Qh (by rw[h.rl];exact hk)]
     simp;right;omega
   . rw[getD_set_ne e];have: ¬(k:Int)=i:=O;simp[this]
  rw[scan];by_cases h1:col.getD i.toNat 0= -1
  . rw[iP h1];have ih:=scan_ok hcol xs {q with rw_:=q.rw_.set i.toNat true} ⟨by simp[h.rl],h.cll,h.td⟩ hx'
    refine⟨ih.ok,λk hk=> ?_,λc hc=> ?_,ih.keep,ih.new,ih.mu⟩
    . rw[ih.rows k hk,hrow k hk,zO,or_assoc]
    . rw[ih.cols c hc];constructor
      . rintro (g|⟨x,g1,g2⟩)
        . exact .inl g
        . exact .inr ⟨x,mT g1,g2⟩
      . rintro (g|⟨x,g1,g2⟩)
        . exact .inl g
        . rcases mC g1 with rfl|g1
          . exact absurd h1 g2.1
          . exact .inr ⟨x,g1,g2⟩
  . rw[iN' h1];have hc:=(hcol i.toNat O).resolve_left h1;by_cases h2:q.cl.getD (col.getD i.toNat 0).toNat false=true
    . rw[iP h2];have ih:=scan_ok hcol xs {q with rw_:=q.rw_.set i.toNat true} ⟨by simp[h.rl],h.cll,h.td⟩ hx'
      refine⟨ih.ok,λk hk=> ?_,λc hc=> ?_,ih.keep,ih.new,ih.mu⟩
      . rw[ih.rows k hk,hrow k hk,zO,or_assoc]
      . rw[ih.cols c hc];constructor
        . rintro (g|⟨x,g1,g2⟩)
          . exact .inl g
          . exact .inr ⟨x,mT g1,g2⟩
        . rintro (g|⟨x,g1,g2⟩)
          . exact .inl g
          . rcases mC g1 with rfl|g1
            . exact .inl (g2.2▸h2)
            . exact .inr ⟨x,g1,g2⟩
    . rw[iN' h2];have h2:q.cl.getD (col.getD i.toNat 0).toNat false=false:=by simpa using h2
      have hlt:(col.getD i.toNat 0).toNat<q.cl.length:=by rw[h.cll];omega
      have hcl: ∀k,k<C->((q.cl.set (col.getD i.toNat 0).toNat true).getD k false=true↔q.cl.getD k false=true\/(col.getD i.toNat 0).toNat=k):=λk hk=>by
       by_cases e:(col.getD i.toNat 0).toNat=k
       . rw[<-e,Qh hlt];simp
       . rw[getD_set_ne e];simp only[e,or_false]
      have ih:=scan_ok hcol xs ⟨q.rw_.set i.toNat true,q.cl.set (col.getD i.toNat 0).toNat true,q.td++[col.getD i.toNat 0]⟩ ⟨by simp[h.rl],by simp[h.cll],λc hm=>by
       rcases zH.1 hm with hm|hm
       . obtain⟨a,b,d⟩:=h.td c hm;exact⟨a,b,(hcl _ O).2 (.inl d)⟩
       . obtain rfl:=zA.1 hm;exact⟨hc.1,hc.2,(hcl _ O).2 (.inr rfl)⟩⟩ hx'
      refine⟨ih.ok,λk hk=> ?_,λc hc=> ?_,λc hm=>ih.keep c (zN _ hm),λc hc hm=> ?_,?_⟩
      . rw[ih.rows k hk,hrow k hk,zO,or_assoc]
      . rw[ih.cols c hc,hcl c hc,or_assoc];constructor
        . rintro (g|g|⟨x,g1,g2⟩)
          . exact .inl g
          . exact .inr ⟨i,mS,h1,g⟩
          . exact .inr ⟨x,mT g1,g2⟩
        . rintro (g|⟨x,g1,g2⟩)
          . exact .inl g
          . rcases mC g1 with rfl|g1
            . exact .inr (.inl g2.2)
            . exact .inr (.inr ⟨x,g1,g2⟩)
      . rcases ih.new c hc hm with g|g
        . rcases(hcl c hc).1 g with g|g
          . exact .inl g
          . exact .inr (ih.keep _ (zf _ (zA.2 O)))
        . exact .inr g
      . have:=ih.mu;have:=count_set hlt h2;simp only[zL,List.length_singleton]at*;omega
structure Inv (E:List LI) (R C:Nat) (row col:LI) (q:Q):Prop where
 ok:QOK R C q
 snd: ∀j,j<C->q.cl.getD j false=true->Rch E C row col j
 rows: ∀i,i<R->q.rw_.getD i false=true-> ∃j,Rch E C row col j/\(i:Int)∈E.getD j []
 base: ∀j,j<C->row.getD j 0= -1->q.cl.getD j false=true
 done: ∀j,j<C->q.cl.getD j false=true->(j:Int)∈q.td\/ ∀i∈E.getD j [],q.rw_.getD i.toNat false=true/\(col.getD i.toNat 0≠ -1->q.cl.getD (col.getD i.toNat 0).toNat false=true)
section
variable {E:List LI} {R C:Nat} {row col:LI}
def Inv.step (hE:Ym R E) (hcol: ∀i,i<R->col.getD i 0= -1\/(0<=col.getD i 0/\col.getD i 0<(C:Int))) {q:Q} (h:Inv E R C row col q) {c:Int} {td:LI} (hc:c∈q.td) (htd: ∀x,x∈q.td↔x=c\/x∈td) (hlen:td.length+1=q.td.length):
 Inv E R C row col (scan col (E.getD c.toNat []) {q with td:=td})/\2*(scan col (E.getD c.toNat []) {q with td:=td}).cl.count false+(scan col (E.getD c.toNat []) {q with td:=td}).td.length<2*q.cl.count false+q.td.length:=by
 obtain⟨hc1,hc2,hc3⟩:=h.ok.td c hc;have s:=scan_ok hcol (E.getD c.toNat []) {q with td:=td} ⟨h.ok.rl,h.ok.cll,λx hx=>h.ok.td x ((htd x).2 (.inr hx))⟩ (hE _)
 have hrc:=h.snd c.toNat O hc3;refine⟨⟨s.ok,λj hj hm=> ?_,λi hi hm=> ?_,λj hj hb=>(s.cols j hj).2 (.inl (h.base j hj hb)),λj hj hm=> ?_⟩,by have:=s.mu;simp only at this;omega⟩
 . rcases(s.cols j hj).1 hm with g|⟨x,g1,g2,rfl⟩
   . exact h.snd j hj g
   . exact .step hrc g1 g2
 . rcases(s.rows i hi).1 hm with g|g
   . exact h.rows i hi g
   . exact⟨_,hrc,g⟩
 . by_cases e:(j:Int)=c
   . right;intro i hi;have hir:=hE _ i hi;rw[show j=c.toNat by omega]at hi
     refine⟨(s.rows i.toNat O).2 (.inr (by rw[show((i.toNat:Nat):Int)=i by omega];exact hi)),λg=> ?_⟩
     have:=(hcol i.toNat O).resolve_left g;exact(s.cols _ O).2 (.inr ⟨i,hi,g,rfl⟩)
   . rcases s.new j hj hm with g|g
     . rcases h.done j hj g with g'|g'
       . exact .inl (s.keep _ (((htd _).1 g').resolve_left e))
       . right;intro i hi;have hir:=hE _ i hi;obtain⟨a,b⟩:=g' i hi;refine⟨(s.rows i.toNat O).2 (.inl a),λg=> ?_⟩
         have:=(hcol i.toNat O).resolve_left g;exact(s.cols _ O).2 (.inl (b g))
     . exact .inl g
def Inv.fin (hE:Ym R E) (hcol: ∀i,i<R->col.getD i 0= -1\/(0<=col.getD i 0/\col.getD i 0<(C:Int))) {q:Q} (h:Inv E R C row col q) (htd:q.td=[]):q.rw_=finR E R C row col/\q.cl=finC E C row col:=by
 have key: ∀j,Rch E C row col j->j<C/\q.cl.getD j false=true:=by
  intro j hj;induction hj with
  |base h1 h2=>exact⟨h1,h.base _ h1 h2⟩
  | @step j i hr hi hne ih=>
    have hir:=hE _ i hi;have:=(hcol i.toNat O).resolve_left hne;rcases h.done _ ih.1 ih.2 with g|g
    . rw[htd]at g;cases g
    . exact⟨O,(g i hi).2 hne⟩
 constructor
 . refine q2r false (by simp[h.ok.rl,finR]) λi hi=> ?_
   rw[h.ok.rl]at hi;rw[zN3,qka hi];constructor
   . exact h.rows i hi
   . rintro ⟨j,hj,hm⟩
     obtain⟨a,b⟩:=key j hj;rcases h.done _ a b with g|g
     . rw[htd]at g;cases g
     . simpa using(g _ hm).1
 . refine q2r false (by simp[h.ok.cll,finC]) λj hj=> ?_
   rw[h.ok.cll]at hj;rw[zN3,qjw hj];exact⟨h.snd j hj,λhr=>(key j hr).2⟩
end
section
variable {E:List LI} {R C:Nat}
def J5 (m:Nat) (row col:LI) (mr:List Bool) (hcl:col.length=R) (hcol: ∀i,i<R->col.getD i 0= -1\/(0<=col.getD i 0/\col.getD i 0<(C:Int))) (hC:C<=200) (xs:LI) (hxl:xs.length<big) (hx: ∀i∈xs,0<=i/\i<(R:Int)):
 ∀(n k:Nat) (q:Q),xs.length-k<n->QOK R C q->q.td.length+q.cl.count false<=100000->
  g56L2 m n q.rw_ q.cl E row col mr q.td xs (xs.length:Int) (k:Int)=some (.inl ((scan col (xs.drop k) q).rw_,(scan col (xs.drop k) q).cl,(E,row,col,mr,()),(scan col (xs.drop k) q).td,()))
 |0,k,q,h,_,_=>O
 |n+1,k,q,h,hq,hsz=>by
  rw[g56L2];by_cases hk:k<xs.length
  . have h1:(k:Int)<(xs.length:Int):=O;have hb:(2305843009213693952:Nat)=big:=rfl;have hi:=hx _ (q2s hk);have hi':(xs.getD k 0).toNat<R:=O;have hd:=drop_cons (d:=0) hk;simp only[bQ,h1,if_true,tN,zG2,and_self,zI,bif_ne,wsucc (show k<4611686018427387904 by omega)]
    rw[iP (by rw[hq.rl];exact hi),iP (by rw[hcl];exact hi)]
    by_cases e1:col.getD (xs.getD k 0).toNat 0= -1
    . rw[iP e1,show scan col (xs.drop k) q=scan col (xs.drop (k+1)) {q with rw_:=q.rw_.set (xs.getD k 0).toNat true} by rw[hd,scan,iP e1]]
      exact J5 m row col mr hcl hcol hC xs hxl hx n (k+1) {q with rw_:=q.rw_.set (xs.getD k 0).toNat true} O ⟨by simp[hq.rl],hq.cll,hq.td⟩ hsz
    . have hc:=(hcol _ hi').resolve_left e1;rw[iN' e1,iP (by rw[hq.cll];exact hc)]
      by_cases e2:q.cl.getD (col.getD (xs.getD k 0).toNat 0).toNat false=true
      . rw[e2,show scan col (xs.drop k) q=scan col (xs.drop (k+1)) {q with rw_:=q.rw_.set (xs.getD k 0).toNat true} by rw[hd,scan,iN' e1,iP e2]]
        exact J5 m row col mr hcl hcol hC xs hxl hx n (k+1) {q with rw_:=q.rw_.set (xs.getD k 0).toNat true} O ⟨by simp[hq.rl],hq.cll,hq.td⟩ hsz
      . have e2':q.cl.getD (col.getD (xs.getD k 0).toNat 0).toNat false=false:=by simpa using e2
        have hlt:(col.getD (xs.getD k 0).toNat 0).toNat<q.cl.length:=by rw[hq.cll];omega
        have hcs:=count_set hlt e2';rw[e2',show scan col (xs.drop k) q=scan col (xs.drop (k+1)) ⟨q.rw_.set (xs.getD k 0).toNat true,q.cl.set (col.getD (xs.getD k 0).toNat 0).toNat true,q.td++[col.getD (xs.getD k 0).toNat 0]⟩ by rw[hd,scan,iN' e1,iN' e2]]
        simp only[bif_not,cond_false];rw[iP (by rw[hq.cll];exact hc),iP (by simp;omega)]
        refine J5 m row col mr hcl hcol hC xs hxl hx n (k+1) ⟨q.rw_.set (xs.getD k 0).toNat true,q.cl.set (col.getD (xs.getD k 0).toNat 0).toNat true,q.td++[col.getD (xs.getD k 0).toNat 0]⟩ O ⟨by simp[hq.rl],by simp[hq.cll],λc hm=> ?_⟩ (by simp only[zL,List.length_singleton];omega)
        have hset: ∀k',q.cl.getD k' false=true\/(col.getD (xs.getD k 0).toNat 0).toNat=k'->(q.cl.set (col.getD (xs.getD k 0).toNat 0).toNat true).getD k' false=true:=λk' g=>by
         by_cases e:(col.getD (xs.getD k 0).toNat 0).toNat=k'
         . rw[<-e,Qh hlt]
         . rw[getD_set_ne e];exact g.resolve_right e
        rcases zH.1 hm with hm|hm
        . obtain⟨a,b,d⟩:=hq.td c hm;exact⟨a,b,hset _ (.inl d)⟩
        . obtain rfl:=zA.1 hm;exact⟨hc.1,hc.2,hset _ (.inr rfl)⟩
  . have h1: ¬(k:Int)<(xs.length:Int):=O;simp only[bQ,h1,if_false];rw[drop_nil' hk];rfl
def q3v (hE:Ym R E) (hlen:E.length=C) (hs: ∀j,(E.getD j []).length<20000) (row col:LI) (mr:List Bool) (hcl:col.length=R) (hcol: ∀i,i<R->col.getD i 0= -1\/(0<=col.getD i 0/\col.getD i 0<(C:Int))) (hC:C<=200) (m:Nat) (hm:20000<m):
 ∀(n:Nat) (q:Q),Inv E R C row col q->2*q.cl.count false+q.td.length<n->2*q.cl.count false+q.td.length<=100000->
  g56L1 m n q.rw_ q.cl E row col mr q.td=some (.inl (finR E R C row col,finC E C row col,()))
 |0,q,h,hn,_=>O
 |n+1,q,h,hn,hsz=>by
  rw[g56L1];cases htd:q.td with
  |nil=>
   obtain⟨e1,e2⟩:=h.fin hE hcol htd;simp[e1,e2]
  |cons c td=>
   obtain⟨a1,a2,a3⟩:=h.ok.td c (by rw[htd];exact mS)
   have hst:=h.step hE hcol (c:=c) (td:=td) (by rw[htd];exact mS) (λx=>by rw[htd];exact zO) (by rw[htd];rfl)
   rw[htd]at hn hsz hst;have hle:=List.count_le_length (a:=false) (l:=q.cl);rw[h.ok.cll]at hle;simp only[zq]at hn hsz hst;have hb:(2305843009213693952:Nat)=big:=rfl;have e2:=J5 (E:=E) m row col mr hcl hcol hC (E.getD c.toNat []) (by have:=hs c.toNat;omega) (hE _) m 0 {q with td:=td} (by have:=hs c.toNat;omega) ⟨h.ok.rl,h.ok.cll,λx hx=>h.ok.td x (by rw[htd];exact mT hx)⟩ (by simp only;omega)
   simp only[za1,nZ,zw1,zh1]at e2;simp only[zq,bQ,zI,List.getD_cons_zero,List.drop_one,List.tail_cons];rw[iP O,iP O,iP O,iP O,e2];exact q3v hE hlen hs row col mr hcl hcol hC m hm n _ hst.1 O O
structure Ini (C:Nat) (row:LI) (k:Nat) (cl:List Bool) (td:LI):Prop where
 len:cl.length=C
 mem: ∀j,j<C->(cl.getD j false=true↔j<k/\row.getD j 0= -1)
 tdm: ∀x:Int,x∈td↔ ∃j:Nat,x=(j:Int)/\j<k/\row.getD j 0= -1
 sz:td.length<=k
def Ini.zero {row:LI}:Ini C row 0 (List.replicate C false) []:=⟨by simp,λj hj=>by rw[qx hj];simp,λx=>by simp,zD _⟩
def Ini.yes {row:LI} {k:Nat} {cl:List Bool} {td:LI} (h:Ini C row k cl td) (hk:k<C) (e:row.getD k 0= -1):Ini C row (k+1) (cl.set k true) (td++[(k:Int)]):=by
 refine⟨by simp[h.len],λj hj=> ?_,λx=> ?_,by simp;exact h.sz⟩
 . by_cases g:k=j
   . subst g;rw[Qh (by rw[h.len];exact hk)];simp only[e];simp
   . rw[getD_set_ne g,h.mem j hj];constructor
     . rintro ⟨a,b⟩;exact⟨O,b⟩
     . rintro ⟨a,b⟩;exact⟨O,b⟩
 . rw[zH,h.tdm,zA];constructor
   . rintro (⟨j,a,b,d⟩|a)
     . exact⟨j,a,O,d⟩
     . exact⟨k,a,O,e⟩
   . rintro ⟨j,a,b,d⟩
     by_cases g:k=j
     . subst g;exact .inr a
     . exact .inl ⟨j,a,O,d⟩
def Ini.no {row:LI} {k:Nat} {cl:List Bool} {td:LI} (h:Ini C row k cl td) (e:row.getD k 0≠ -1):Ini C row (k+1) cl td:=by
 refine⟨h.len,λj hj=> ?_,λx=> ?_,Nat.le_succ_of_le h.sz⟩
 . rw[h.mem j hj];constructor
   . rintro ⟨a,b⟩;exact⟨O,b⟩
   . rintro ⟨a,b⟩
     refine⟨?_,b⟩;by_cases g:k=j
     . subst g;exact absurd b e
     . omega
 . rw[h.tdm];constructor
   . rintro ⟨j,a,b,d⟩;exact⟨j,a,O,d⟩
   . rintro ⟨j,a,b,d⟩
     refine⟨j,a,?_,d⟩;by_cases g:k=j
     . subst g;exact absurd d e
     . omega
def Ini.inv {row col:LI} {cl:List Bool} {td:LI} (h:Ini C row C cl td):Inv E R C row col ⟨List.replicate R false,cl,td⟩:=by
 refine⟨⟨by simp,h.len,λc hc=> ?_⟩,λj hj hm=> ?_,λi hi hm=> ?_,λj hj e=>(h.mem j hj).2 ⟨hj,e⟩,λj hj hm=> ?_⟩
 . obtain⟨j,rfl,a,b⟩:=(h.tdm c).1 hc;exact⟨O,O,(h.mem _ (by simpa using a)).2 ⟨by simpa using a,by simpa using b⟩⟩
 . exact .base hj ((h.mem j hj).1 hm).2
 . rw[qx hi]at hm;cases hm
 . obtain⟨a,b⟩:=(h.mem j hj).1 hm;exact .inl ((h.tdm _).2 ⟨j,rfl,a,b⟩)
def q0m (m:Nat) (rw0:List Bool) (row col:LI) (mr:List Bool) (hrl:row.length=C) (hC:C<=200): ∀(d k:Nat) (cl:List Bool) (td:LI),C-k=d->k<=C->Ini C row k cl td->
 ∃cl' td',Ini C row C cl' td'/\ ∀n,d<n->g56L0 m n rw0 cl E row col mr td (C:Int) (k:Int)=some (.inl (rw0,cl',(E,row,col,mr,()),td',()))
 |0,k,cl,td,hd,hk0,hi=>by
  have:k=C:=O;subst this;refine⟨cl,td,hi,λn hn=> ?_⟩
  obtain⟨n,rfl⟩: ∃n',n=n'+1:=⟨n-1,O⟩;rw[g56L0,bQ,iN' O]
 |d+1,k,cl,td,hd,hk0,hi=>by
  have hk:k<C:=O;have hl:=hi.len;have hsz:=hi.sz;by_cases e:row.getD k 0= -1
  . obtain⟨cl',td',g1,g2⟩:=q0m m rw0 row col mr hrl hC d (k+1) _ _ O O (hi.yes hk e);refine⟨cl',td',g1,λn hn=> ?_⟩
    obtain⟨n,rfl⟩: ∃n',n=n'+1:=⟨n-1,O⟩;rw[g56L0,bQ,iP O,iP O];simp only[zI,tN,bif_eq,e,if_true,wsucc (show k<4611686018427387904 by omega)]
    rw[iP O,iP (by simp;omega)]
    exact g2 n O
  . obtain⟨cl',td',g1,g2⟩:=q0m m rw0 row col mr hrl hC d (k+1) _ _ O O (hi.no e);refine⟨cl',td',g1,λn hn=> ?_⟩
    obtain⟨n,rfl⟩: ∃n',n=n'+1:=⟨n-1,O⟩;rw[g56L0,bQ,iP O,iP O];simp only[zI,tN,bif_eq,e,if_false,wsucc (show k<4611686018427387904 by omega)]
    exact g2 n O
end
def MatOK.len2 {R C:Nat} {S I:LI} (h:MatOK R C S I) (j:Nat):((qy C S I).getD j []).length<20000:=by
 by_cases hj:j<C
 . rw[Zp hj,Zv h.st hj];have:=h.st.rng (j:=j+1) O;have:=h.sz;omega
 . simp[qy,List.getD,hj]
def q46 {R C:Nat} {S I V:LI} (hM:MatOK R C S I) {u:St} (h:All (qy C S I) R C 0 (st0 R C) u):
 ∃M,∀m,M<=m->g56 m (R:Int) (C:Int) S I V=some ((finR (qy C S I) R C u.row u.col,finC (qy C S I) C u.row u.col,()),(),()):=by
 obtain⟨M,hL⟩:=q7l (V:=V) hM h;have g:=h.good hM.edge q1w;have hcz:=hM.cz;have hrz:=hM.rz;refine⟨M+100001,λm hm=> ?_⟩
 obtain⟨cl,td,g1,g2⟩:=q0m (E:=qy C S I) m (List.replicate R false) u.row u.col u.mr g.row hM.cz C 0 _ _ O O Ini.zero;have g2:=g2 m O;simp only[za1,nZ,zw1]at g2;have hle:=List.count_le_length (a:=false) (l:=cl);have hl:=g1.len;have hsz:=g1.sz;rw[g56,hL m O];simp only[bS,stE,tN];rw[iP O,iP O,show u.row.length=C from g.row,g2]
 simp only[bS];rw[q3v hM.edge q1p hM.len2 u.row u.col u.mr g.col g.ok hM.cz m O m ⟨List.replicate R false,cl,td⟩ g1.inv (by simp only;omega) (by simp only;omega)]
 rfl
section
variable {R C:Nat} {S I V:LI}
end
def idxs (v:Bool):Nat->List Bool->LI
 |_,[]=>[]
 |k,b::l=>if b=v then(k:Int)::idxs v (k+1) l else idxs v (k+1) l
def qlj {α:Type} {x y:Bool} {a b:α}:(bif x==y then a else b)=if x=y then a else b:=by cases x<;>cases y<;>rfl
def qd9 (m:Nat) (v:Bool) (l:List Bool) (hl:l.length<=1000000000): ∀(n k:Nat) (out:LI),l.length-k<n->out.length<=k->
 g57L0 m n v out l (l.length:Int) (k:Int)=some (.inl (out++idxs v k (l.drop k),()))
 |0,k,out,h,_=>O
 |n+1,k,out,h,ho=>by
  rw[g57L0];by_cases hk:k<l.length
  . rw[bQ,iP O,iP O];simp only[tN,qlj,wsucc (show k<4611686018427387904 by omega)]
    rw[drop_cons (d:=false) hk,idxs];by_cases e:l.getD k false=v
    . rw[iP e,iP e,iP (by simp;omega),qd9 m v l hl n (k+1) _ O (by simp;omega)]
      simp
    . rw[iN' e,iN' e,qd9 m v l hl n (k+1) _ O O]
  . rw[bQ,iN' O,drop_nil' hk];simp[idxs]
def q84 {m:Nat} {v:Bool} {l:List Bool} (h:l.length<m) (hl:l.length<=1000000000):g57 m l v=some (idxs v 0 l,(),(),()):=by
 rw[g57];have:=qd9 m v l hl m 0 [] O (zD _);simp only[za1,nZ,zw1,zh1,zx1]at this;rw[this];rfl
end Go.Vs.F
set_option maxRecDepth 100000
namespace Go.Vs.F
variable {E:List LI} {R C:Nat}
def Loop.keep {j:Int} {xs:LI} {s t:St} {b:Bool} (h:Loop E j xs s b t):b=false->t.row=s.row/\t.col=s.col:=by
 induction h with
 |nil=>exact λ_=>⟨rfl,rfl⟩
 |skip _ _ ih=>exact ih
 |free _ _=>exact λh=>by cases h
 |found _ _ _ _=>exact λh=>by cases h
 |lost _ _ _ _ ih1 ih2=>
  intro hb;obtain⟨a,b⟩:=ih1 rfl;obtain⟨c,d⟩:=ih2 hb;exact⟨by rw[c,a];rfl,by rw[d,b];rfl⟩
def Yh {l:List Bool} {k i:Nat} (h:l.getD i false=true):(l.set k true).getD i false=true:=by
 by_cases e:k=i
 . subst e;by_cases hk:k<l.length
   . rw[Qh hk]
   . simp[List.getD,List.getElem?_eq_none (zB2 hk)]at h
 . rw[getD_set_ne e];exact h
def Loop.marks {j:Int} {xs:LI} {s t:St} {b:Bool} (h:Loop E j xs s b t): ∀i:Nat,s.mr.getD i false=true->t.mr.getD i false=true:=by
 induction h with
 |nil=>exact λ_ h=>h
 |skip _ _ ih=>exact ih
 |free _ _=>exact λi h=>Yh h
 |found _ _ _ ih=>exact λi h=>ih i (Yh h)
 |lost _ _ _ _ ih1 ih2=>exact λi h=>ih2 i (ih1 i (Yh h))
def Loop.closed {j:Int} {xs:LI} {s t:St} {b:Bool} (hE:Ym R E) (h:Loop E j xs s b t):b=false->s.mr.length=R->(∀i∈xs,0<=i/\i<(R:Int))->s.col.length=R->(∀i,i<R->s.col.getD i 0= -1\/0<=s.col.getD i 0)->
 t.mr.length=R/\(∀i∈xs,t.mr.getD i.toNat false=true)/\ ∀i:Nat,t.mr.getD i false=true->s.mr.getD i false=true\/(s.col.getD i 0≠ -1/\ ∀x∈E.getD (s.col.getD i 0).toNat [],t.mr.getD x.toNat false=true):=by
 induction h with
 |nil=>exact λ_ hl _ _ _=>⟨hl,λi hi=>(by cases hi),λi h=> .inl h⟩
 |skip h1 h2 ih=>
  intro hb hl hx hc ho;obtain⟨a,b,c⟩:=ih hb hl (λi hi=>hx i (mT hi)) hc ho
  refine⟨a,λi hi=> ?_,c⟩
  rcases mC hi with rfl|hi
  . exact h2.marks _ h1
  . exact b i hi
 |free _ _=>exact λh=>by cases h
 |found _ _ _ _=>exact λh=>by cases h
 | @lost j i xs s t u b h1 h2 h3 h4 ih1 ih2=>
   intro hb hl hx hc ho;have hi:=hx i mS;obtain⟨k1,k2⟩:=h3.keep rfl;have hE': ∀x∈E.getD (s.col.getD i.toNat 0).toNat [],0<=x/\x<(R:Int):=hE _;obtain⟨a,b,c⟩:=ih1 rfl (by simp[St.mark,hl]) hE' hc ho
   have hcol:t.col=s.col:=k2;obtain⟨a',b',c'⟩:=ih2 hb a (λi hi=>hx i (mT hi)) (by rw[hcol];exact hc) (by rw[hcol];exact ho)
   rw[hcol]at c';have hmi:t.mr.getD i.toNat false=true:=h3.marks _ (Qh O);refine⟨a',λx hx'=> ?_,λx hx'=> ?_⟩
   . rcases mC hx' with rfl|hx'
     . exact h4.marks _ hmi
     . exact b' x hx'
   . rcases c' x hx' with h|h
     . rcases c x h with h'|⟨h',h''⟩
       . by_cases e:i.toNat=x
         . subst e;exact .inr ⟨h2,λy hy=>h4.marks _ (b y hy)⟩
         . left;simpa only[St.mark,getD_set_ne e]using h'
       . exact .inr ⟨h',λy hy=>h4.marks _ (h'' y hy)⟩
     . exact .inr h
def Closed (E:List LI) (R:Nat) (col:LI) (Z:Nat->Prop):Prop:= ∀i,Z i->col.getD i 0≠ -1/\ ∀x∈E.getD (col.getD i 0).toNat [],Z x.toNat
def Loop.closed_false {Z:Nat->Prop} {j:Int} {xs:LI} {s t:St} {b:Bool} (h:Loop E j xs s b t):Closed E R s.col Z->(∀i∈xs,Z i.toNat)->b=false:=by
 induction h with
 |nil=>exact λ_ _=>rfl
 |skip _ _ ih=>exact λhZ hx=>ih hZ (λi hi=>hx i (mT hi))
 |free _ h2=>exact λhZ hx=>absurd h2 (hZ _ (hx _ mS)).1
 |found _ h2 _ ih=>exact λhZ hx=>ih hZ (hZ _ (hx _ mS)).2
 |lost _ h2 h3 _ ih1 ih2=>
  intro hZ hx;obtain⟨k1,k2⟩:=h3.keep rfl;exact ih2 (by rw[k2];exact hZ) (λi hi=>hx i (mT hi))
def Loop.closed_keep {Z:Nat->Prop} {j:Int} {xs:LI} {s t:St} {b:Bool} (h:Loop E j xs s b t):Closed E R s.col Z-> ∀i,Z i->t.col.getD i 0=s.col.getD i 0:=by
 induction h with
 |nil=>exact λ_ _ _=>rfl
 |skip _ _ ih=>exact ih
 | @free j i xs s h1 h2=>
   intro hZ x hx;by_cases e:i.toNat=x
   . subst e;exact absurd h2 (hZ _ hx).1
   . simp only[St.put,St.mark,getD_set_ne e]
 | @found j i xs s t h1 h2 h3 ih=>
   intro hZ x hx;by_cases e:i.toNat=x
   . subst e;exact absurd (h3.closed_false (R:=R) (Z:=Z) hZ (hZ _ hx).2) (by simp)
   . simp only[St.put,getD_set_ne e];exact ih hZ x hx
 | @lost j i xs s t u b h1 h2 h3 h4 ih1 ih2=>
   intro hZ x hx;obtain⟨k1,k2⟩:=h3.keep rfl;rw[ih2 (by rw[k2];exact hZ) x hx,k2];rfl
variable {E:List LI} {R C:Nat}
structure Cons (E:List LI) (R C:Nat) (row col:LI):Prop where
 a: ∀i:Nat,i<R->0<=col.getD i 0->row.getD (col.getD i 0).toNat 0=(i:Int)
 b: ∀j:Nat,j<C->0<=row.getD j 0->col.getD (row.getD j 0).toNat 0=(j:Int)
 e: ∀j:Nat,j<C->0<=row.getD j 0->row.getD j 0∈E.getD j []
structure Aug (E:List LI) (R C:Nat) (j:Nat) (s t:St):Prop where
 a: ∀i:Nat,i<R->0<=t.col.getD i 0->t.row.getD (t.col.getD i 0).toNat 0=(i:Int)\/(s.row.getD j 0=(i:Int)/\t.col.getD i 0=(j:Int))
 b: ∀y:Nat,y<C->0<=t.row.getD y 0->t.col.getD (t.row.getD y 0).toNat 0=(y:Int)
 e: ∀y:Nat,y<C->0<=t.row.getD y 0->t.row.getD y 0∈E.getD y []
 m: ∀i:Nat,i<R->s.mr.getD i false=true->t.col.getD i 0=s.col.getD i 0
 n:0<=t.row.getD j 0/\s.mr.getD (t.row.getD j 0).toNat false=false
 r: ∀y:Nat,y<C->y≠j->(s.row.getD y 0= -1\/s.mr.getD (s.row.getD y 0).toNat false=true)->t.row.getD y 0=s.row.getD y 0
 q: ∀y:Nat,y<C->0<=s.row.getD y 0->0<=t.row.getD y 0
def Xd {s:St} {j i:Int} (h:j.toNat<s.row.length):(s.put j i).row.getD j.toNat 0=i:=by
 simp only[St.put];exact Qh h
def Xb {s:St} {j i:Int} {k:Nat} (h:j.toNat≠k):(s.put j i).row.getD k 0=s.row.getD k 0:=by
 simp only[St.put];exact getD_set_ne h
def q0s {s:St} {j i:Int} (h:i.toNat<s.col.length):(s.put j i).col.getD i.toNat 0=j:=by
 simp only[St.put];exact Qh h
def Zf {s:St} {j i:Int} {k:Nat} (h:i.toNat≠k):(s.put j i).col.getD k 0=s.col.getD k 0:=by
 simp only[St.put];exact getD_set_ne h
def Loop.aug {j:Int} {xs:LI} {s t:St} {b:Bool} (hE:Ym R E) (h:Loop E j xs s b t):b=true->Good R C s->Cons E R C s.row s.col->0<=j/\j<(C:Int)->(∀i∈xs,0<=i/\i<(R:Int))->(∀i∈xs,i∈E.getD j.toNat [])->
 (s.row.getD j.toNat 0= -1\/s.mr.getD (s.row.getD j.toNat 0).toNat false=true)->Aug E R C j.toNat s t:=by
 induction h with
 |nil=>exact λh=>by cases h
 |skip h1 h2 ih=>
  intro hb g c hj hx hm hp;exact ih hb g c hj (λi hi=>hx i (mT hi)) (λi hi=>hm i (mT hi)) hp
 | @free j i xs s h1 h2=>
   intro _ g c hj hx hm hp;have hi:=hx i mS;have hmi:=hm i mS;have lr:j.toNat<(s.mark i).row.length:=by show j.toNat<s.row.length;rw[g.row];omega
   have lc:i.toNat<(s.mark i).col.length:=by show i.toNat<s.col.length;rw[g.col];omega
   have ej:((j.toNat:Nat):Int)=j:=O;have ei:((i.toNat:Nat):Int)=i:=O;refine⟨?_,?_,?_,?_,?_,?_,?_⟩
   . intro x hx h0;by_cases ex:i.toNat=x
     . subst ex;left;rw[q0s lc,Xd lr,ei]
     . rw[Zf ex]at h0⊢;have h0':0<=s.col.getD x 0:=h0;have ha:=c.a x hx h0';by_cases ey:j.toNat=((s.mark i).col.getD x 0).toNat
       . right;have ey':j.toNat=(s.col.getD x 0).toNat:=ey;refine⟨by rw[ey'];exact ha,?_⟩
         show s.col.getD x 0=_
         omega
       . left;rw[Xb ey];exact ha
   . intro y hy h0;by_cases ey:j.toNat=y
     . subst ey;rw[Xd lr,q0s lc,ej]
     . rw[Xb ey]at h0⊢;have h0':0<=s.row.getD y 0:=h0;have hb:=c.b y hy h0';by_cases ex:i.toNat=((s.mark i).row.getD y 0).toNat
       . have ex':i.toNat=(s.row.getD y 0).toNat:=ex;rw[<-ex',h2]at hb;omega
       . rw[Zf ex];exact hb
   . intro y hy h0;by_cases ey:j.toNat=y
     . subst ey;rw[Xd lr];exact hmi
     . rw[Xb ey]at h0⊢;exact c.e y hy h0
   . intro x hx hmx;have ex:i.toNat≠x:=λe=>by subst e;rw[h1]at hmx;cases hmx
     rw[Zf ex];rfl
   . rw[Xd lr];exact⟨hi.1,h1⟩
   . intro y hy hyj _;rw[Xb (Ne.symm hyj)];rfl
   . intro y hy h0;by_cases ey:j.toNat=y
     . subst ey;rw[Xd lr];exact hi.1
     . rw[Xb ey];exact h0
 | @found j i xs s t h1 h2 h3 ih=>
   intro _ g c hj hx hm hp;have hi:=hx i mS;have hmi:=hm i mS;have hc1:=(g.ok i.toNat O).resolve_left h2;have gt:=h3.good hE (g.mark i) hc1 (hE _);have lr:j.toNat<t.row.length:=by rw[gt.row];omega
   have lc:i.toNat<t.col.length:=by rw[gt.col];omega
   have ej:((j.toNat:Nat):Int)=j:=O;have ei:((i.toNat:Nat):Int)=i:=O;have r1:s.row.getD (s.col.getD i.toNat 0).toNat 0=i:=by rw[c.a i.toNat O hc1.1,ei]
   have mi:(s.mark i).mr.getD i.toNat false=true:=by
    show(s.mr.set i.toNat true).getD i.toNat false=true
    exact Qh (by rw[g.mr];omega)
   have mm: ∀x:Nat,s.mr.getD x false=true->(s.mark i).mr.getD x false=true:=λx h=>Yh h
   have n1:(s.col.getD i.toNat 0).toNat≠j.toNat:=by
    intro e;rw[e]at r1;rcases hp with h|h
    . omega
    . rw[r1,h1]at h;cases h
   have A:=ih rfl (g.mark i) c hc1 (hE _) (λ_ h=>h) (.inr (by show(s.mark i).mr.getD (s.row.getD _ 0).toNat false=true;rw[r1];exact mi))
   refine⟨?_,?_,?_,?_,?_,?_,?_⟩
   . intro x hx h0;by_cases ex:i.toNat=x
     . subst ex;left;rw[q0s lc,Xd lr,ei]
     . rw[Zf ex]at h0⊢;rcases A.a x hx h0 with ha|⟨ha,_⟩
       . by_cases ey:j.toNat=(t.col.getD x 0).toNat
         . right;have hr:=A.r j.toNat O (Ne.symm n1) (hp.imp id (mm _));refine⟨?_,O⟩;rw[<-ha,<-ey];exact hr.symm
         . left;rw[Xb ey];exact ha
       . have:s.row.getD (s.col.getD i.toNat 0).toNat 0=(x:Int):=ha;omega
   . intro y hy h0;by_cases ey:j.toNat=y
     . subst ey;rw[Xd lr,q0s lc,ej]
     . rw[Xb ey]at h0⊢;have hb:=A.b y hy h0;by_cases ex:i.toNat=(t.row.getD y 0).toNat
       . have hcm:t.col.getD i.toNat 0=s.col.getD i.toNat 0:=A.m i.toNat O mi;rw[<-ex,hcm]at hb;have hn:=A.n.2;rw[hb,tN,<-ex,mi]at hn;cases hn
       . rw[Zf ex];exact hb
   . intro y hy h0;by_cases ey:j.toNat=y
     . subst ey;rw[Xd lr];exact hmi
     . rw[Xb ey]at h0⊢;exact A.e y hy h0
   . intro x hx hmx;have ex:i.toNat≠x:=λe=>by subst e;rw[h1]at hmx;cases hmx
     rw[Zf ex];exact A.m x hx (mm x hmx)
   . rw[Xd lr];exact⟨hi.1,h1⟩
   . intro y hy hyj hcond;rw[Xb (Ne.symm hyj)];refine A.r y hy (λe=> ?_) (hcond.imp id (mm _))
     rw[e,r1]at hcond;rcases hcond with h|h
     . omega
     . rw[h1]at h;cases h
   . intro y hy h0;by_cases ey:j.toNat=y
     . subst ey;rw[Xd lr];exact hi.1
     . rw[Xb ey];exact A.q y hy h0
 | @lost j i xs s t u b h1 h2 h3 h4 ih1 ih2=>
   intro hb g c hj hx hm hp;have hi:=hx i mS;have hc1:=(g.ok i.toNat O).resolve_left h2;have gt:=h3.good hE (g.mark i) hc1 (hE _);obtain⟨k1,k2⟩:=h3.keep rfl;have k1':t.row=s.row:=k1;have k2':t.col=s.col:=k2;have mm: ∀x:Nat,s.mr.getD x false=true->t.mr.getD x false=true:=λx h=>h3.marks x (Yh h)
   have A:=ih2 hb gt (by rw[k1',k2'];exact c) hj (λi hi=>hx i (mT hi)) (λi hi=>hm i (mT hi)) (by rw[k1'];exact hp.imp id (mm _))
   refine⟨?_,A.b,A.e,?_,⟨A.n.1,?_⟩,?_,?_⟩
   . have:=A.a;rwa [k1']at this
   . intro x hx h;rw[A.m x hx (mm x h),k2']
   . have h:=A.n.2;cases hq:s.mr.getD (u.row.getD j.toNat 0).toNat false with
     |false=>rfl
     |true=>rw[mm _ hq]at h;cases h
   . have:=A.r;rw[k1']at this;exact λy hy hyj hc=>this y hy hyj (hc.imp id (mm _))
   . have:=A.q;rwa [k1']at this
variable {E:List LI} {R C:Nat}
structure KInv (E:List LI) (R C k:Nat) (s:St):Prop where
 good:Good R C (s.fresh R)
 cons:Cons E R C s.row s.col
 un: ∀j:Nat,k<=j->j<C->s.row.getD j 0= -1
 z: ∃Z:Nat->Prop,Closed E R s.col Z/\ ∀j:Nat,j<k->s.row.getD j 0= -1-> ∀x∈E.getD j [],Z x.toNat
def KInv.step (hE:Ym R E) {k:Nat} (hk:k<C) {s t:St} {b:Bool} (I:KInv E R C k s) (h:Loop E (k:Int) (E.getD k []) (s.fresh R) b t):KInv E R C (k+1) t:=by
 have g:=I.good;have gt:=h.good hE g O (hE _);obtain⟨Z,z1,z2⟩:=I.z;have un:=I.un k (zD _) hk;cases b with
 |false=>
  obtain⟨k1,k2⟩:=h.keep rfl;have k1':t.row=s.row:=k1;have k2':t.col=s.col:=k2;obtain⟨a,b,c⟩:=h.closed hE rfl g.mr (hE _) g.col (λi hi=>(g.ok i hi).imp id (λh=>h.1))
  have nof: ∀i:Nat,(s.fresh R).mr.getD i false=false:=λi=>by
   show(List.replicate R false).getD i false=false
   by_cases hi:i<R
   . exact qx hi
   . simp[List.getD,hi]
  have c': ∀i:Nat,t.mr.getD i false=true->s.col.getD i 0≠ -1/\ ∀x∈E.getD (s.col.getD i 0).toNat [],t.mr.getD x.toNat false=true:=λi hi=>by
   rcases c i hi with h|h
   . rw[nof i]at h;cases h
   . exact h
  refine⟨gt.fresh,by rw[k1',k2'];exact I.cons,λj h1 h2=>by rw[k1'];exact I.un j O h2,λi=>Z i\/t.mr.getD i false=true,?_,?_⟩
  . intro i hi;rw[k2'];rcases hi with hi|hi
    . exact⟨(z1 i hi).1,λx hx=> .inl ((z1 i hi).2 x hx)⟩
    . exact⟨(c' i hi).1,λx hx=> .inr ((c' i hi).2 x hx)⟩
  . intro j hj hr x hx;rw[k1']at hr;by_cases e:j=k
    . subst e;exact .inr (b x hx)
    . exact .inl (z2 j O hr x hx)
 |true=>
  have A:=h.aug hE rfl g I.cons O (hE _) (λ_ h=>h) (.inl un)
  simp only[tN]at A;refine⟨gt.fresh,⟨λi hi h0=> ?_,A.b,A.e⟩,λj h1 h2=> ?_,Z,?_,?_⟩
  . rcases A.a i hi h0 with h|⟨h,_⟩
    . exact h
    . have:s.row.getD k 0=(i:Int):=h;omega
  . have:=I.un j O h2;rw[A.r j h2 O (.inl this)];exact this
  . intro i hi;have:t.col.getD i 0=s.col.getD i 0:=h.closed_keep (R:=R) (Z:=Z) z1 i hi;rw[this];exact z1 i hi
  . intro j hj hr x hx;by_cases e:j=k
    . subst e;have:=A.n.1;omega
    . refine z2 j O ?_ x hx;rcases g.rok j O with h|h
      . exact h
      . have:=A.q j O h.1;omega
def All.kinv (hE:Ym R E) {k:Nat} {s u:St} (h:All E R C k s u):KInv E R C k s->KInv E R C C u:=by
 induction h with
 |done=>exact id
 |step hk h _ ih=>exact λI=>ih (I.step hE hk h)
def kinv0:KInv E R C 0 (st0 R C):=by
 refine⟨q1w,⟨λi hi h=> ?_,λj hj h=> ?_,λj hj h=> ?_⟩,λj _ hj=>qx hj,λ_=>False,λi h=>h.elim,λj hj=>absurd hj (zW _)⟩
 . rw[show(st0 R C).col.getD i 0= -1 from qx hi]at h;omega
 . rw[show(st0 R C).row.getD j 0= -1 from qx hj]at h;omega
 . rw[show(st0 R C).row.getD j 0= -1 from qx hj]at h;omega
def cnt (p:Nat->Bool):Nat->Nat
 |0=>0
 |n+1=>cnt p n+(bif p n then 1 else 0)
def q57 {p q:Nat->Bool}: ∀{n:Nat},(∀i,i<n->p i=q i)->cnt p n=cnt q n
 |0,_=>rfl
 |n+1,h=>by rw[cnt,cnt,q57 λi hi=>h i O,h n O]
def cnt_le {p:Nat->Bool}: ∀{n:Nat},cnt p n<=n
 |0=>zD _
 |n+1=>by have:=cnt_le (p:=p) (n:=n);rw[cnt];cases p n<;>simp<;>omega
def qbk (p q:Nat->Bool): ∀n,cnt p n=cnt (λi=>p i&&q i) n+cnt (λi=>p i&& !q i) n
 |0=>rfl
 |n+1=>by
  have:=qbk p q n;simp only[cnt];cases p n<;>cases q n<;>simp<;>omega
def qh7 {p:Nat->Bool} {a:Nat}: ∀{n:Nat},a<n->p a=true->cnt (λi=>p i&& !(i==a)) n+1=cnt p n
 |0,h,_=>absurd h (zW _)
 |n+1,h,hp=>by
  simp only[cnt];by_cases e:a=n
  . subst e
    have:cnt (λi=>p i&& !(i==a)) a=cnt p a:=q57 λi hi=>by
     have:(i==a)=false:=by simp;omega
     simp[this]
    rw[this];simp[hp]
  . have ih:=qh7 (p:=p) (a:=a) (n:=n) O hp;have:(n==a)=false:=by simp;omega
    simp only[this,Bool.not_false,zV2];omega
def q8y {f:Nat->Nat} {m:Nat} {p:Nat->Bool}: ∀{n:Nat} {q:Nat->Bool},(∀i,i<n->p i=true->f i<m/\q (f i)=true)->(∀i j,i<n->j<n->p i=true->p j=true->f i=f j->i=j)->cnt p n<=cnt q m
 |0,q,_,_=>zU2 _
 |n+1,q,h1,h2=>by
  rw[cnt];cases hp:p n with
  |false=>exact q8y (λi hi=>h1 i O) (λi j hi hj=>h2 i j O O)
  |true=>
   obtain⟨g1,g2⟩:=h1 n O hp;have:=qh7 g1 g2
   have ih:=q8y (f:=f) (m:=m) (p:=p) (n:=n) (q:=λi=>q i&& !(i==f n)) (λi hi hpi=>by
    obtain⟨a,b⟩:=h1 i O hpi;refine⟨a,?_⟩;have:f i≠f n:=λe=>by have:=h2 i n O O hpi hp e;omega
    simp[b,this]) (λi j hi hj=>h2 i j O O)
   simp only[cond_true];omega
def q78 {v:Bool}: ∀{l:List Bool} {k:Nat},(idxs v k l).length=l.count v
 |[],k=>rfl
 |x::l,k=>by
  have:=q78 (v:=v) (l:=l) (k:=k+1);rw[idxs,z02];cases x<;>cases v<;>simp[this]
def q0e {v:Bool} {f:Nat->Bool}: ∀{n:Nat},((List.range n).map f).count v=cnt (λi=>f i==v) n
 |0=>rfl
 |n+1=>by
  rw[zP3,zy1,List.count_append,q0e,cnt];simp only[zY1,List.map_nil,z02,List.count_nil,zI];cases f n<;>cases v<;>rfl
variable {E:List LI} {R C:Nat} {u:St}
def KInv.closedRch (I:KInv E R C C u): ∃Z:Nat->Prop,Closed E R u.col Z/\ ∀j,Rch E C u.row u.col j-> ∀x∈E.getD j [],Z x.toNat:=by
 obtain⟨Z,z1,z2⟩:=I.z;refine⟨Z,z1,λj h=> ?_⟩
 induction h with
 |base h1 h2=>exact z2 _ h1 h2
 |step h1 h2 h3 ih=>exact(z1 _ (ih _ h2)).2
def KInv.reach (hE:Ym R E) (I:KInv E R C C u) {j:Nat} (h:Rch E C u.row u.col j) {x:Int} (hx:x∈E.getD j []):(0<=u.col.getD x.toNat 0/\u.col.getD x.toNat 0<(C:Int))/\Rch E C u.row u.col (u.col.getD x.toNat 0).toNat:=by
 obtain⟨Z,z1,z2⟩:=I.closedRch;have hr:=hE j x hx;have h1:=(z1 _ (z2 j h x hx)).1;exact⟨(I.good.ok x.toNat O).resolve_left h1,.step h hx h1⟩
open Classical in
noncomputable def rRow (E:List LI) (C:Nat) (u:St) (i:Nat):Bool:=decide (∃j,Rch E C u.row u.col j/\(i:Int)∈E.getD j [])
open Classical in
noncomputable def rCol (E:List LI) (C:Nat) (u:St) (j:Nat):Bool:=decide (Rch E C u.row u.col j)
open Classical in
def q28 {i:Nat}:rRow E C u i=true↔ ∃j,Rch E C u.row u.col j/\(i:Int)∈E.getD j []:=by unfold rRow;exact decide_eq_true_iff
open Classical in
def q4h {j:Nat}:rCol E C u j=true↔Rch E C u.row u.col j:=by unfold rCol;exact decide_eq_true_iff
def mt (row:LI) (j:Nat):Bool:=decide (0<=row.getD j 0)
def qgt (hE:Ym R E) (I:KInv E R C C u):cnt (rRow E C u) R+cnt (λj=> !rCol E C u j) C=cnt (mt u.row) C:=by
 rw[qbk (mt u.row) (rCol E C u) C]
 have e2:cnt (λi=>mt u.row i&& !rCol E C u i) C=cnt (λj=> !rCol E C u j) C:=q57 λj hj=>by
  cases hr:rCol E C u j with
  |true=>simp
  |false=>
   have:mt u.row j=true:=by
    unfold mt;rw[decide_eq_true_eq];rcases I.good.rok j hj with h|h
    . have:Rch E C u.row u.col j:= .base hj h;have h2:rCol E C u j=true:=q4h.2 this;rw[h2]at hr;cases hr
    . exact h.1
   simp[this]
 have a1:cnt (rRow E C u) R<=cnt (λi=>mt u.row i&&rCol E C u i) C:=by
  refine q8y (f:=λi=>(u.col.getD i 0).toNat) (λi hi hp=> ?_) (λi j hi hj hp hq e=> ?_)
  . obtain⟨j,h1,h2⟩:=q28.1 hp;obtain⟨g1,g2⟩:=I.reach hE h1 h2;simp only[tN]at g1 g2;refine⟨O,?_⟩;simp only[zF];refine⟨?_,q4h.2 g2⟩;unfold mt;rw[decide_eq_true_eq,I.cons.a i hi g1.1];omega
  . obtain⟨j1,h1,h2⟩:=q28.1 hp;obtain⟨j2,h3,h4⟩:=q28.1 hq;obtain⟨g1,_⟩:=I.reach hE h1 h2;obtain⟨g2,_⟩:=I.reach hE h3 h4;simp only[tN]at g1 g2;have b1:=I.cons.a i hi g1.1;have b2:=I.cons.a j hj g2.1;have e':(u.col.getD i 0).toNat=(u.col.getD j 0).toNat:=e;rw[e',b2]at b1;omega
 have a2:cnt (λi=>mt u.row i&&rCol E C u i) C<=cnt (rRow E C u) R:=by
  refine q8y (f:=λj=>(u.row.getD j 0).toNat) (λj hj hp=> ?_) (λi j hi hj hp hq e=> ?_)
  . simp only[zF]at hp;have hm:0<=u.row.getD j 0:=of_decide_eq_true hp.1;have hr:Rch E C u.row u.col j:=q4h.1 hp.2
    have hlt:u.row.getD j 0<(R:Int):=by
     rcases I.good.rok j hj with h|h
     . have h':u.row.getD j 0= -1:=h;omega
     . exact h.2
    refine⟨O,?_⟩;cases hr with
    |base _ h2=>omega
    | @step j' i h1 h2 h3=>
      have hi:=hE j' i h2;obtain⟨g1,_⟩:=I.reach hE h1 h2;have:=I.cons.a i.toNat O g1.1;refine q28.2 ⟨j',h1,?_⟩;rw[this,tN,show((i.toNat:Nat):Int)=i by omega]
      exact h2
  . simp only[zF]at hp hq;have hm:0<=u.row.getD i 0:=of_decide_eq_true hp.1;have hn:0<=u.row.getD j 0:=of_decide_eq_true hq.1;have b1:=I.cons.b i hi hm;have b2:=I.cons.b j hj hn;have e':(u.row.getD i 0).toNat=(u.row.getD j 0).toNat:=e;rw[e',b2]at b1;omega
 rw[e2];omega
end Go.Vs.F
set_option maxRecDepth 100000
namespace Go.Vs.F
def rCov {r c:Nat} {S I:LI} {u:St} (hE:Ym r (qy c S I)): ∀j,j<c-> ∀i∈(qy c S I).getD j [],rRow (qy c S I) c u i.toNat=true\/(!rCol (qy c S I) c u j)=true:=λj hj i hi=>by
 have hr:=hE j i hi;by_cases h:Rch (qy c S I) c u.row u.col j
 . exact .inl (q28.2 ⟨j,h,by rw[show((i.toNat:Nat):Int)=i by omega];exact hi⟩)
 . right;cases e:rCol (qy c S I) c u j with
   |false=>rfl
   |true=>exact absurd (q4h.1 e) h
end Go.Vs.F
