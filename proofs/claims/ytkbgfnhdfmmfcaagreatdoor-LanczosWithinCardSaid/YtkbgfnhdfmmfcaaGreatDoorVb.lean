import Derived.Test.YtkbgfnhdfmmfcaaGreatDoorVa
set_option linter.unusedVariables false
set_option linter.unusedSimpArgs false
set_option linter.unusedSectionVars false
set_option linter.defProp false
namespace Go.Vs
section
variable {P:Program} {CO:Q7} {T:TT} {E:ba} {D:Nat->Prop} {β:aU} {who:bp} {U U':ao} {hd:List (AV×Value)} {a:Act} {w w':World} {R W:List Nat}
def Yj {v:AV} {c:Value} (h:br β who w v c) (hp:(cellsOf v).all cr=true):
 bg β who w (cellsOf v) c.cells/\ab v=[]/\Vs.occ v=[]/\(∀x∈c.cells.toList,x.oneCell'=true):=by have hp': ∀x∈cellsOf v,cr x=true:=zq.1 hp;cases v with|agg cells=>{obtain⟨arr,rfl,h2⟩:=h;refine⟨h2,Qa λc hc=>(q3j (hp' c hc)).1,Qa λc hc=>(q3j (hp' c hc)).2,?_⟩;intro x hx;obtain⟨j,hj,rfl⟩:=ml hx;have hj':j<cells.length:=by{rw[<-h2.1];simpa [Value.cells]using hj};have hr:=h2.2 j hj';have e:arr.getD j undef=(Value.agg arr).cells.toList[j]:=by{simp[Value.cells,Array.getD,h2.1,hj']};rw[e]at hr;refine J7 hr λhd=> ?_;have:=hp' _ (zW hj');rw[hd]at this;cases this}|tup vs=>{have:=hp' (.tup vs) (by simp[cellsOf]);cases this}|bx o cs=>{have:=hp' (.bx o cs) (by simp[cellsOf]);cases this}|dead=>{have:=hp' .dead (by simp[cellsOf]);cases this}|lit u=>{have:=hp' (.lit u) (by simp[cellsOf]);cases this}|ref s n sz win=>{have:=hp' (.ref s n sz win) (by simp[cellsOf]);cases this}|ptr s n sz i j=>{have:=hp' (.ptr s n sz i j) (by simp[cellsOf]);cases this}|iptr g t xs i j=>{have:=hp' (.iptr g t xs i j) (by simp[cellsOf]);cases this}|dp n t xs hh=>{have:=hp' (.dp n t xs hh) (by simp[cellsOf]);cases this}|dq n t xs hh=>{have:=hp' (.dq n t xs hh) (by simp[cellsOf]);cases this}|dr s n k=>{have:=hp' (.dr s n k) (by simp[cellsOf]);cases this}|wn n t xs=>{have:=hp' (.wn n t xs) (by simp[cellsOf]);cases this}|bool b=>{have h1:=J7 (β:=β) (who:=who) (w:=w) (c:= .bool b) h (by simp);rw[Yt h1];exact⟨⟨rfl,fun j hj=>by{have:j=0:=by{simp[cellsOf]at hj;exact hj};subst this;exact h}⟩,rfl,rfl,λx hx=>by grind⟩}|int k n=>{have h1:=J7 (β:=β) (who:=who) (w:=w) (c:= .int k n) h (by simp);rw[Yt h1];exact⟨⟨rfl,fun j hj=>by{have:j=0:=by{simp[cellsOf]at hj;exact hj};subst this;exact h}⟩,rfl,rfl,λx hx=>by grind⟩}|sl o t xs=>{have h1:=J7 (β:=β) (who:=who) (w:=w) (c:= .sl o t xs) h (by simp);rw[Yt h1];have hpl:=q3j (hp' (.sl o t xs) (by simp[cellsOf]));exact⟨⟨rfl,fun j hj=>by{have:j=0:=by{simp[cellsOf]at hj;exact hj};subst this;exact h}⟩,hpl.1,hpl.2,λx hx=>by grind⟩}
def qqu {n:Nat} {f:(t:Ty)->List (aX t)->Option (List (aX t))} {av av':AV} {x:Value} {β':aU} (h:fz n f av=some av') (hr:br β who w av x)
 (hnd:(ab av).Nodup)
 (kp: ∀c v,n∉qc c->(∀m∈aK c,m∈Vs.occ av)->aW β who w c v->aW β' who w' c v)
 (hnode: ∀t xs ys v,cE β who w n t xs v->f t xs=some ys->cE β' who w' n t ys v)
 (hwin: ∀t xs ys v,cE β who w n t xs v->GB (β 98) w t.size v->f t xs=some ys->GB (β' 98) w' t.size v)
 (hbx: ∀m b arr el,n∈ab av->m≠n->who b=some m->w.heap[b]? =some (.cells arr el (0,0))->w'.heap[b]? =some (.cells arr el (0,0))) (hβ: ∀m∈Vs.occ av,β' m=β m)
 (hin:n∈ab av) (htop: ∀cs,av≠ .bx (.nm n) cs) (ht: ∀vs,av≠ .tup vs):
 br β' who w' av' x/\ab av'=ab av/\Vs.occ av'=Vs.occ av:=by have one: ∀c c' v,(∀m∈aK c,m∈Vs.occ av)->fp n f c=some c'->aW β who w c v->aW β' who w' c' v:=by{intro c c' v ho hc hv;rcases Zi hc with⟨t,xs,ys,rfl,hy,rfl⟩|⟨t,xs,ys,rfl,hy,rfl⟩|⟨hne,rfl⟩;{exact hnode t xs ys v hv hy};{exact⟨hnode t xs ys v hv.1 hy,hwin t xs ys v hv.1 hv.2 hy⟩};{exact kp _ _ hne ho hv}};have many: ∀cs cs' arr,(∀m∈cs.flatMap aK,m∈Vs.occ av)->oN n f cs=some cs'->bg β who w cs arr->bg β' who w' cs' arr:=by{intro cs cs' arr ho hc hv;obtain⟨l1,l2,l3,l4⟩:=Oj hc;refine⟨by rw[hv.1,l1],λj hj=> ?_⟩;have hj':j<cs.length:=by{rw[<-l1];exact hj};exact one _ _ _ (λm hm=>ho m (zL.2 ⟨_,zW hj',hm⟩)) (l4 j hj' hj) (hv.2 j hj')};cases av with|bx o cells=>{simp only[fz]at h;split at h;{rename_i cs hcs;injection h with h;subst h;obtain⟨l1,l2,l3,l4⟩:=Oj hcs;cases o with|nm m=>{obtain⟨h0,b,arr,el,e1,e2,e3,e4⟩:=hr;have hmn:m≠n:=by{rintro rfl;exact htop cells rfl};refine⟨⟨by rw[hβ m (by simp[Vs.occ,a9])];exact h0,b,arr,el,e1,hbx m b arr el hin hmn e3 e2,e3,many _ _ _ (λq hq=>by simp only[Vs.occ,a9,zu];exact .inr hq) hcs e4⟩,?_,?_⟩;{simp only[ab,qh,l2]};{simp only[Vs.occ,a9,l3]}}|_=>exact hr.elim};{cases h}}|agg cells=>{simp only[fz]at h;split at h;{rename_i cs hcs;injection h with h;subst h;obtain⟨l1,l2,l3,l4⟩:=Oj hcs;obtain⟨arr,e1,e2⟩:=hr;exact⟨⟨arr,e1,many _ _ _ (λq hq=>hq) hcs e2⟩,by simp only[ab,qh,l2],by simp only[Vs.occ,a9,l3]⟩};{cases h}}|tup vs=>exact absurd rfl (ht vs)|sl o t xs=>{have hc:=one (.sl o t xs) av' x (λm hm=>hm) h hr;obtain⟨k1,k2⟩:=QI (c:= .sl o t xs) h;rcases Zi (c:= .sl o t xs) h with⟨t',xs',ys,e,_,rfl⟩|⟨t',xs',ys,e,_,rfl⟩|⟨_,rfl⟩;{exact⟨hc,k1,k2⟩};{cases e};{exact⟨hc,rfl,rfl⟩}}|wn m t xs=>{have hc:=one (.wn m t xs) av' x (λm hm=>hm) h hr;obtain⟨k1,k2⟩:=QI (c:= .wn m t xs) h;rcases Zi (c:= .wn m t xs) h with⟨t',xs',ys,e,_,rfl⟩|⟨t',xs',ys,e,_,rfl⟩|⟨_,rfl⟩;{cases e};{exact⟨hc,k1,k2⟩};{exact⟨hc,rfl,rfl⟩}}|dq m t xs hh=>{simp only[fz,fp]at h;split at h;{cases h};{rename_i e;simp only[ab,qh,qc,zA]at hin;exact absurd hin.symm e}}|dp m t xs hh=>{simp only[fz,fp]at h;split at h;{cases h};{rename_i e;simp only[ab,qh,qc,zA]at hin;exact absurd hin.symm e}}|_=>simp[ab,qh,qc]at hin
def q4y {n:Nat} {f:(t:Ty)->List (aX t)->Option (List (aX t))} {av av':AV} (h:fz n f av=some av') (ht: ∀vs,av≠ .tup vs):
 ab av'=ab av/\Vs.occ av'=Vs.occ av:=by cases av with|bx o cells=>{simp only[fz]at h;split at h;{rename_i cs hcs;injection h with h;subst h;obtain⟨l1,l2,l3,l4⟩:=Oj hcs;cases o<;>exact⟨by simp only[ab,qh,l2],by simp only[Vs.occ,a9,l3]⟩};{cases h}}|agg cells=>{simp only[fz]at h;split at h;{rename_i cs hcs;injection h with h;subst h;obtain⟨l1,l2,l3,l4⟩:=Oj hcs;exact⟨by simp only[ab,qh,l2],by simp only[Vs.occ,a9,l3]⟩};{cases h}}|tup vs=>exact absurd rfl (ht vs)|sl o t xs=>{obtain⟨k1,k2⟩:=QI (c:= .sl o t xs) h;rcases Zi (c:= .sl o t xs) h with⟨t',xs',ys,e,_,rfl⟩|⟨t',xs',ys,e,_,rfl⟩|⟨_,rfl⟩;{exact⟨k1,k2⟩};{cases e};{exact⟨rfl,rfl⟩}}|wn m t xs=>{obtain⟨k1,k2⟩:=QI (c:= .wn m t xs) h;rcases Zi (c:= .wn m t xs) h with⟨t',xs',ys,e,_,rfl⟩|⟨t',xs',ys,e,_,rfl⟩|⟨_,rfl⟩;{cases e};{exact⟨k1,k2⟩};{exact⟨rfl,rfl⟩}}|dq m t xs hh=>{simp only[fz,fp]at h;grind}|dp m t xs hh=>{simp only[fz,fp]at h;grind}|_=>{simp only[fz,fp,zf]at h;subst h;exact⟨rfl,rfl⟩}
def ZW {n:Nat} {f:(t:Ty)->List (aX t)->Option (List (aX t))} {c c':AV} {t:Ty} {xs:List (aX t)} (u:fY n c=some ⟨t,xs⟩) (h:fp n f c=some c'): ∃ys,f t xs=some ys:=by cases c with|sl o t' K=>{cases o with|nm m=>{simp only[fY]at u;split at u;{rename_i e;injection u with u;cases u;rcases Zi h with⟨O,G,ys,e2,hy,_⟩|⟨O,G,ys,e2,_⟩|⟨J,_⟩;{grind};{cases e2};{exact absurd (by simp[qc,e]) J}};{cases u}}|_=>cases u}|wn m t' K=>{simp only[fY]at u;split at u;{rename_i e;injection u with u;cases u;rcases Zi h with⟨O,G,ys,e2,_⟩|⟨O,G,ys,e2,hy,_⟩|⟨J,_⟩;{cases e2};{grind};{exact absurd (by simp[qc,e]) J}};{cases u}}|_=>cases u
def qba {n:Nat} {f:(t:Ty)->List (aX t)->Option (List (aX t))} {t:Ty} {xs:List (aX t)}: ∀{cs cs':List AV},mc n cs=some ⟨t,xs⟩->oN n f cs=some cs'-> ∃ys,f t xs=some ys
 |[],_,u,_=>by cases u
 |c::cs,cs',u,h=>by simp only[oN]at h;split at h;{rename_i c1 K J h2;simp only[mc]at u;split at u;{rename_i x G;injection u with u;subst u;exact ZW G J};{exact qba u h2}};{cases h}
def qrd {n:Nat} {f:(t:Ty)->List (aX t)->Option (List (aX t))} {av av':AV} {t:Ty} {xs:List (aX t)} (hf:iX n av=some ⟨t,xs⟩) (h:fz n f av=some av'): ∃ys,f t xs=some ys:=by cases av with|bx o cells=>{simp only[fz]at h;split at h;{exact qba hf (by assumption)};{cases h}}|agg cells=>{simp only[fz]at h;split at h;{exact qba hf (by assumption)};{cases h}}|sl o t' xs'=>exact ZW (c:= .sl o t' xs') hf h|wn m t' xs'=>exact ZW (c:= .wn m t' xs') hf h|_=>simp[iX,fY]at hf
def qfq (hT:bL P T) {idx t:Nat} {p v:AV} {cp cv:Value} {u:Unit} (h:aw CO (Zs T idx t p v) U u U' R W)
 (S:aC E D β who U ((p,cp)::(v,cv)::hd) a w) (hf: ∀k,k<16-> ¬D (fresh idx k)):
 ∃w' β',(Instr.storeAt t cp cv).run P w= .ok () w'/\aC E (Dn D idx) β' who U' hd a w':=by have hp:br β who w p cp:=S.hrel _ mS;have S0:=S.drop rfl;have hv:br β who w v cv:=S0.hrel _ mS;unfold Zs at h;split at h;{exact(kC h).elim};{rename_i ti hti';have hti:=hT t _ hti';split at h;{exact(kC h).elim};{rename_i hlen;simp only[ne_eq,Decidable.not_not]at hlen;split at h;{rename_i s n sz i j;have hupd: ∃av',On idx n sz i j (cellsOf v) (U.get s)=some av'/\U'=U.set s av':=by{obtain⟨al,U1,_,_,_,_,h1,h2⟩:=kA h;obtain⟨hal,rfl⟩:=kF h1;have nob: ∀{m:Option Nat},wW al=m->m≠some n-> ∀c,U1.get s≠ .bx (.nm n) c:=λhb hne c e=>by{subst hal;rw[e]at hb;exact hne hb.symm};split at h2;{rename_i m hm;split at h2;{obtain⟨av',hss,this⟩:=kI h2;exact⟨av',qcc hss,this⟩};{rename_i hne;obtain⟨av',hss,this⟩:=kI h2;exact⟨av',q31 hss (nob hm λe=>hne (by injection e)),this⟩}};{rename_i hm;obtain⟨av',hss,this⟩:=kI h2;exact⟨av',q31 hss (nob hm (by simp)),this⟩}};obtain⟨U1,rfl⟩: ∃U1,U1=U:=⟨U,rfl⟩;obtain⟨av',hss,this⟩:=hupd;subst this;have node:Yr n sz i j (cellsOf v) (U1.get s)=some av'->(∀cs,U1.get s≠ .bx (.nm n) cs)-> ∃w' β',(Instr.storeAt t cp cv).run P w= .ok () w'/\aC E (Dn D idx) β' who (U1.set s av') hd a w':=by{intro hn htop;unfold Yr at hn;split at hn;{rename_i hc;simp only[zK]at hc;obtain⟨hpl,hfs⟩:=hc;cases hfn:iX n (U1.get s)with|none=>{rw[hfn]at hfs;cases hfs}|some y=>{obtain⟨ty,xs⟩:=y;obtain⟨g1,g2⟩:=q75 (S.rel s) hfn;obtain⟨q1,q2,q3,q4⟩:=Yj hv hpl;have ht: ∀vs,U1.get s≠ .tup vs:=λvs e=>by{rw[e]at hfn;simp[iX,fY]at hfn};obtain⟨ys,hys⟩:=qrd hfn hn;split at hys;{rename_i hsz;subst hsz;rcases hp with⟨b,o,L,cap,e1,e2,rfl⟩|⟨b,e1,_,_⟩;{rcases g1.2 with⟨e3,_⟩|⟨b',o',cap',arr,el,e3,e4,e5,e6,e7,e8⟩;{rw[e3]at e1;cases e1};{rw[e3]at e1;injection e1 with w1 w2 w3;injection w1 with w1;injection w1 with w1 w1' _;subst w1 w1' w2 w3;have hsl:cv.cells.toList.length=(cellsOf v).length:=by{rw[xf,q1.1]};have hjl:j+(cellsOf v).length<=ty.size:=by{cases hse:Z8 ty (xs.getD i ty.zero) j (cellsOf v)with|none=>{rw[hse]at hys;cases hys}|some x'=>{unfold Z8 at hse;grind}};have hcap:xs.length*ty.size<=cap'*ty.size:=zO _ e6;have hil:(i+1)*ty.size<=xs.length*ty.size:=zO _ O;rw[gr]at hil;have hrun:=Za hti (c:=cv) (o:=o'+i*ty.size+j) e4 (by rw[q1.1,hlen]) (by rw[q1.1];omega) q4;obtain⟨β',S'⟩:=aC.write (idx:=idx) (s:=s) (n:=n) (g:=b') (av':=av') (row:=qj arr (o'+i*ty.size+j) cv.cells.toList) S0 hf e7 g2 (fun β' z1 z2 kp himm=>by{refine(qqu (β':=β') (w':=w.setRow b' (qj arr (o'+i*ty.size+j) cv.cells.toList)) hn (S.rel s) (S.nod s) ?_ ?_ ?_ ?_ (λm hm=>z2 m (S.occ s m hm)) g2 htop ht).1;{intro c x hnc hoc hcx;obtain⟨r1,r2,r3,r4⟩:=q3f hcx;exact r4 _ _ _ _ (kp c x (λm hm=>S.occ s m (hoc m (by rwa [r3]at hm))) (by rw[r2];exact hnc) r1)};{intro t2 xs2 ys2 v2 hN hf2;split at hf2;{rename_i hsz2;cases hse:Z8 t2 (xs2.getD i t2.zero) j (cellsOf v)with|none=>{rw[hse]at hf2;cases hf2}|some x'=>{rw[hse]at hf2;simp only[yo,zf]at hf2;subst hf2;obtain⟨hv2,hN2⟩:=hN;refine⟨by rw[z2 n (S.occ s n (qi g2))];exact hv2,?_⟩;rcases hN2 with⟨f1,f2⟩|⟨b2,o2,cap2,arr2,el2,f1,f2,f3,f4,f5,f6⟩;{grind};{have f1':=f1;rw[hv2,e3]at f1;injection f1 with y1 y2 y3;injection y1 with y1;injection y1 with y1 y1' _;subst y1 y1' y3;rw[e4]at f2;injection f2 with f2;injection f2 with f2 f2' _;subst f2 f2';refine .inr ⟨b',o',cap',qj arr (o'+i*ty.size+j) cv.cells.toList,el,by rw[f1'];simp,setRow_heap w b' arr _ el _ e4,by rw[Qm (by rw[hsl];omega)];exact f3,by simpa using f4,f5,?_⟩;rw[hsz2];refine aT.store (who:=who) (w:=w) (β:=β') e4 f6 (by rw[<-y2];exact e2) hsl ?_ hse ?_ (by grind);{grind};{intro k hk;rw[<-hsz2];have hvk:=kp v cv (λm hm=>by rw[q3]at hm;cases hm) (by rw[q2];simp) hv;obtain⟨p1,p2,p3,p4⟩:=Yj hvk hpl;have:=p1.2 k hk;have hpk:cr (cellsOf v)[k]=true:=zq.1 hpl _ (zW hk);have e9:cv.cells.toList.getD k undef=cv.cells.getD k undef:=by{simp[List.getD_eq_getElem?_getD,Array.getD_eq_getD_getElem?]};rw[e9];exact V6 hpk this}}}};{cases hf2}};{intro t2 xs2 ys2 v2 hN hW hf2;split at hf2;{rename_i hsz2;obtain⟨arr0,w1,w2⟩:=hW;obtain⟨hv2,hN2⟩:=hN;refine⟨arr0,by rw[z2 98 S.d98];exact w1,λb2 o2 L2 cap2 arr2 el2 y1 y2=> ?_⟩;have y3:=y1;rw[hv2,e3]at y3;injection y3 with y3 y4 y5;injection y3 with y3;injection y3 with y3 y3' _;subst y3 y3' y4 y5;rw[setRow_heap w b' arr _ el _ e4]at y2;injection y2 with y2;injection y2 with y2 _;subst y2;obtain⟨w3,w4⟩:=w2 _ _ _ _ _ _ y1 e4;have hfit:o'+i*ty.size+j+cv.cells.toList.length<=arr.size:=by{rw[hsl];omega};refine⟨by rw[Qm hfit];exact w3,λq hq=> ?_⟩;rw[Ql hfit,ae (by grind)];exact w4 q hq};{cases hf2}};{intro m b2 arr2 el2 hnin hmn hwm hh;rw[setRow_other w b' b2 _ (by grind)];exact hh}}) (λm hm=>by rw[(q4y hn ht).1]at hm;exact .inl hm) (by rw[(q4y hn ht).1];exact S.nod s) (λm hm=>by rw[(q4y hn ht).2]at hm;exact .inl (S.occ s m hm));exact⟨_,β',hrun,S'⟩}};{exfalso;rcases g1.2 with⟨e3,_⟩|⟨b',o',cap',arr,el,e3,_⟩<;>(rw[e3]at e1;cases e1)}};{cases hys}}};{cases hn}};unfold On at hss;split at hss;{rename_i m cells hav;split at hss;{rename_i hmn;have hmn':=hmn.symm;subst hmn';split at hss;{rename_i cs' ho;split at hss;{rename_i hfit;injection hss with hss;subst hss;have hb:=S.rel s;rw[hav]at hb;obtain⟨hβ,b,arr,el,e1,e2,e3,e4⟩:=hb;have hc:cp= .pointer (some ⟨b,j,none⟩):=by{rcases hp with⟨b',o',L,cap,q1,_,_⟩|⟨b',q1,_,q3⟩;{rw[<-hβ,e1]at q1;cases q1};{rw[<-hβ,e1]at q1;injection q1 with q1;injection q1 with q1;injection q1 with q1;subst q1;exact q3}};subst hc;obtain⟨g1,g2,g3⟩:=Wd hv ho;obtain⟨l1,l2,l3,l4,l5⟩:=J9 ho;have hsl:cv.cells.toList.length=(cellsOf v).length:=by{rw[xf,g1.1]};have hrun:=Za hti (c:=cv) (o:=j) e2 (by rw[g1.1,hlen]) (by rw[g1.1,e4.1];exact hfit) g3;have hgn:n∈ab (U1.get s):=by{rw[hav];simp[ab,qh]};have hnods:=S.nod s;rw[hav]at hnods;simp only[ab,qh,oF]at hnods;have hfit':j+cs'.length<=cells.length:=by{rw[l1];exact hfit};have hrl:=Xc hfit';have hnames: ∀m∈(Qh cells j cs').flatMap qc,m∈cells.flatMap qc\/m∈cs'.flatMap qc:=by{intro m hm;rw[Qx _ _ _ hfit']at hm;simp only[x6,zZ]at hm;rcases hm with(hm|hm)|hm;{obtain⟨c,hc,hm⟩:=zL.1 hm;exact .inl (zL.2 ⟨c,oK hc,hm⟩)};{exact .inr hm};{obtain⟨c,hc,hm⟩:=zL.1 hm;exact .inl (zL.2 ⟨c,xa hc,hm⟩)}};have hoccs: ∀m∈(Qh cells j cs').flatMap aK,m∈cells.flatMap aK\/m∈cs'.flatMap aK:=by{intro m hm;rw[Qx _ _ _ hfit']at hm;simp only[x6,zZ]at hm;rcases hm with(hm|hm)|hm;{obtain⟨c,hc,hm⟩:=zL.1 hm;exact .inl (zL.2 ⟨c,oK hc,hm⟩)};{exact .inr hm};{obtain⟨c,hc,hm⟩:=zL.1 hm;exact .inl (zL.2 ⟨c,xa hc,hm⟩)}};have hvd: ∀m∈ab v,∀t,m∉ab (U1.get t):=S0.hdis _ mS;have hvo: ∀m∈ab v,D m:=λm hm=>S0.hocc _ mS m (qi hm);have hcs'n: ∀m∈cs'.flatMap qc,m∈ab v\/ ∃k,k<16/\m=fresh idx k:=by{intro m hm;rcases l3 m hm with h|⟨k,_,hk,e⟩;{rw[g2];exact .inl h};{exact .inr ⟨k,O,e⟩}};have hslotD: ∀m∈ab (U1.get s),D m:=λm hm=>S.occ s m (qi hm);have hcs'd: ∀m∈cs'.flatMap qc,m∉ab (U1.get s):=by{intro m hm h;rcases hcs'n m hm with h2|⟨k,hk,rfl⟩;{exact hvd m h2 s h};{exact hf k hk (hslotD _ h)}};have hcn:(cs'.flatMap qc).Nodup:=by{refine l5 ?_ ?_;{rw[<-g2];have:=S0.hnod;simp only[fC]at this;exact(zT.1 this).1};{intro m hm k hk e;rw[<-g2]at hm;exact hf k O (e▸hvo m hm)}};obtain⟨β',S'⟩:=aC.write (idx:=idx) (s:=s) (n:=n) (g:=b) (av':= .bx (.nm n) (Qh cells j cs')) (row:=qj arr j cv.cells.toList) S0 hf e3 hgn (fun β' z1 z2 kp himm=>by{have hrow:j+cv.cells.toList.length<=arr.size:=by{rw[hsl,e4.1];exact hfit};refine⟨by rw[z2 n (hslotD n hgn)];exact hβ,b,qj arr j cv.cells.toList,el,e1,setRow_heap w b arr _ el _ e2,e3,?_,?_⟩;{rw[Qm hrow,e4.1,hrl]};{intro i hi;have hi':i<cells.length:=by{rw[<-hrl];exact hi};rw[J8 hfit' hi'];rw[Array.getD_eq_getD_getElem?,Ql hrow];split;{rename_i hcc;rw[iP (by rw[hsl,<-l1];exact hcc)];have hkv:i-j<(cellsOf v).length:=O;obtain⟨k1,k2⟩:=l2 (i-j) hkv O;have hvk:=kp v cv (λm hm=>S0.hocc _ mS m hm) (λh=>hvd n h s hgn) hv;obtain⟨p1,p2,p3⟩:=Wd hvk ho;have:=p1.2 (i-j) hkv;refine q7e k2 ?_ (z1 _ k1);rw[Array.getD_eq_getD_getElem?]at this;simpa using this};{rename_i hcc;rw[ae (by rw[hsl,<-l1];exact hcc),<-Array.getD_eq_getD_getElem?];obtain⟨r1,r2,r3,r4⟩:=q3f (e4.2 i hi');refine r4 _ _ _ _ (kp _ _ (λm hm=>S.occ s m ?_) ?_ r1);{rw[hav];simp only[Vs.occ,a9,zu];exact .inr (zL.2 ⟨_,zW hi',by rwa [<-r3]⟩)};{rw[r2];exact λh=>hnods.1 (zL.2 ⟨_,zW hi',h⟩)}}}}) (fun m hm=>by{simp only[ab,qh,zu]at hm;rcases hm with rfl|hm;{exact .inl hgn};{rcases hnames m hm with h|h;{rw[hav];simp only[ab,qh,zu];exact .inl (.inr h)};{exact .inr (hcs'n m h)}}}) (by{simp only[ab,qh,oF];constructor;{intro hm;rcases hnames n hm with h|h;{exact hnods.1 h};{exact hcs'd n h hgn}};{rw[Qx _ _ _ hfit'];simp only[x6];have hsub1: ∀m∈(cells.take j).flatMap qc,m∈ab (U1.get s):=λm hm=>by{obtain⟨c,hc,hm⟩:=zL.1 hm;rw[hav];simp only[ab,qh,zu];exact .inr (zL.2 ⟨c,oK hc,hm⟩)};have hsub2: ∀m∈(cells.drop (j+cs'.length)).flatMap qc,m∈ab (U1.get s):=λm hm=>by{obtain⟨c,hc,hm⟩:=zL.1 hm;rw[hav];simp only[ab,qh,zu];exact .inr (zL.2 ⟨c,xa hc,hm⟩)};have hsplit:cells=cells.take j++(cells.drop j).take cs'.length++cells.drop (j+cs'.length):=by{rw[qT,<-List.drop_drop,yp,yp]};have hnn:=hnods.2;rw[hsplit]at hnn;simp only[x6,qT]at hnn;have h1:=zT.1 hnn;have h2:=zT.1 h1.2.1;refine zT.2 ⟨zT.2 ⟨h1.1,hcn,?_⟩,h2.2.1,?_⟩;{rintro x hx y hy rfl;exact hcs'd x hy (hsub1 x hx)};{rintro x hx y hy rfl;simp only[zZ]at hx;rcases hx with hx|hx;{exact h1.2.2 x hx x (by simp only[zZ];exact .inr hy) rfl};{exact hcs'd x hx (hsub2 x hy)}}}}) (fun m hm=>by{simp only[Vs.occ,a9,zu]at hm;rcases hm with rfl|hm;{exact .inl (hslotD _ hgn)};{rcases hoccs m hm with h|h;{exact .inl (S.occ s m (by rw[hav];simp only[Vs.occ,a9,zu];exact .inr h))};{rcases hcs'n m (l4 m h)with h|h;{exact .inl (hvo m h)};{exact .inr h}}}});exact⟨_,β',hrun,S'⟩};{cases hss}};{cases hss}};grind};{grind}};{exact(kC h).elim}}}
end
section
variable {P:Program} {CO:Q7} {T:TT} {E:ba} {D:Nat->Prop} {β:aU} {who:bp} {U U':ao} {hd:List (AV×Value)} {a:Act} {w w':World} {R W:List Nat}
def aC.handWrite {n m g:Nat} {t t0:Ty} {xs:List (aX t0)} {ys:List (aX t)} {c c':Value} {row:Array Value} {D':Nat->Prop} (S:aC E D β who U ((.sl (.nm n) t0 xs,c)::hd) a w)
 (hm: ¬D m) (hD: ∀x,D x->D' x) (hDm:D' m) (hDF: ¬D' FN) (hg:who g=some n)
 (hr: ∀β' who',β' m=c'->(∀b,who b=some n->who' b=some m)->(∀b,who b=none->who' b=none/\(w.setRow g row).heap[b]? =w.heap[b]?)->cE β' who' (w.setRow g row) m t ys c'):
 ∃β' who',aC E D' β' who' U ((.sl (.nm m) t ys,c')::hd) a (w.setRow g row):=by
 let β':aU:=λx=>if x=m then c' else β x
 let who':bp:=λb=>if who b=some n then some m else who b
 have hoth: ∀b,b≠g->(w.setRow g row).heap[b]? =w.heap[b]? :=λb hb=>setRow_other w g b row hb
 have hgn: ∀b,who b=none->b≠g:=λb hb e=>by grind
 have hnF:n≠FN:=λe=>S.dfn (S.hocc _ mS FN (by rw[<-e];simp[Vs.occ,a9,aK]))
 have hnin: ∀s,n∉ab (U.get s):=λs=>S.hdis _ mS n (by simp[ab,qh,qc]) s
 have hnhd: ∀x∈hd,n∉ab x.1:=by
  intro x hx hn;have:=S.hnod;simp only[fC,ab,qh,qc,yh,oF]at this;exact this.1 (zL.2 ⟨x,hx,hn⟩)
 have hb: ∀x,D x->β' x=β x:=λx hx=>by grind
 have k: ∀av,(∀x∈Vs.occ av,D x)->n∉ab av->cO β who w β' who' (w.setRow g row) (ab av) (Vs.occ av):=λav ho hn=>
  ⟨fun x hx=>hb x (ho x hx),λx hx b hw=>by
    grind,
   λb hb' _=>⟨by simp[who',hb'],hoth b (hgn b hb')⟩,by simp⟩
 have hws: ∀b x,who' b=some x-> ∃y,who b=some y:=λb x h=>by
  grind
 have hnew:br β' who' (w.setRow g row) (.sl (.nm m) t ys) c':=hr β' who' (by simp[β']) (λb h=>by simp[who',h]) (λb h=>⟨by simp[who',h],hoth b (hgn b h)⟩)
 refine⟨β',who',?_⟩
 have S0:=(S.drop rfl).world (h98:=hb 98 S.d98) (β':=β') (who':=who') (w':=w.setRow g row) (λs=>(S.rel s).keep (k _ (S.occ s) (hnin s)))
  (λx hx=>(S.hrel x (mT hx)).keep (k _ (S.hocc x (mT hx)) (hnhd x hx)))
  (λb x h=>by obtain⟨y,hy⟩:=hws b x h;simp only[setRow_size];exact S.wsz b y hy) (by simp)
  (fun b hb h0=>hoth b (by
    rintro rfl
    rcases h0 with h0|h0
    . rcases S.fr1 b n hg with h|h
      . exact h h0
      . omega
    . rw[S.fr3 b h0]at hg;grind)) (λb x h=>by obtain⟨y,hy⟩:=hws b x h;exact S.fr1 b y hy)
  (fun b hb=>by
    have h:=S.fr3 b hb
    grind)
 have S1:=S0.mono hD hDF
 exact{S1 with
  hrel:=λy hy=>by rcases mC hy with rfl|hy;exact hnew;exact S1.hrel y hy
  hnod:=by
   simp only[fC,ab,qh,qc,yh,oF];refine⟨λh=> ?_,S0.hnod⟩
   obtain⟨x,hx,hn⟩:=zL.1 h;exact hm (S.hocc x (mT hx) m (qi hn))
  hdis:=λy hy=>by
   rcases mC hy with rfl|hy
   . intro x hx s hs;simp only[ab,qh,qc,zA]at hx;subst hx;exact hm (S.occ s x (qi hs))
   . exact S1.hdis y hy
  hocc:=λy hy=>by
   rcases mC hy with rfl|hy
   . intro x hx;simp only[Vs.occ,a9,aK,zA]at hx;subst hx;exact hDm
   . exact S1.hocc y hy}
def aC.newNil {m:Nat} {v0:AV} {t:Ty} {c0:Value} {D':Nat->Prop} (S:aC E D β who U ((v0,c0)::hd) a w) (hm: ¬D m) (hD: ∀x,D x->D' x) (hDm:D' m) (hDF: ¬D' FN):
 ∃β',aC E D' β' who U ((.sl (.nm m) t [],dO)::hd) a w:=by
 let β':aU:=λx=>if x=m then dO else β x
 have hb: ∀x,D x->β' x=β x:=λx hx=>by grind
 have S0:=((S.drop rfl).keep (β':=β') (who':=who) (w':=w) hb (λ_ _ h=>h) (λ_ _=>rfl) (λ_ h _=>h) S.wsz (zI _)).mono hD hDF
 refine⟨β',?_⟩
 exact{S0 with
  hrel:=λy hy=>by
   rcases mC hy with rfl|hy
   . exact⟨by simp[β'],.inl ⟨rfl,rfl⟩⟩
   . exact S0.hrel y hy
  hnod:=by
   simp only[fC,ab,qh,qc,yh,oF];refine⟨λh=> ?_,S0.hnod⟩
   obtain⟨x,hx,hn⟩:=zL.1 h;exact hm (S.hocc x (mT hx) m (qi hn))
  hdis:=λy hy=>by
   rcases mC hy with rfl|hy
   . intro x hx s hs;simp only[ab,qh,qc,zA]at hx;subst hx;exact hm (S.occ s x (qi hs))
   . exact S0.hdis y hy
  hocc:=λy hy=>by
   rcases mC hy with rfl|hy
   . intro x hx;simp only[Vs.occ,a9,aK,zA]at hx;subst hx;exact hDm
   . exact S0.hocc y hy}
def be.cells: ∀{t:Ty} {x:aX t} {g:Nat->Option Value} {j:Nat},be who w t x g j-> ∀i,i<t.size-> ∃v,g (j+i)=some v/\v.oneCell'=true
 | .int k,x,g,j,h,i,u=>by{have:i=0:=by{simp[Ty.size]at u;exact u};subst this;exact⟨_,h,rfl⟩}
 | .bool,x,g,j,h,i,u=>by{have:i=0:=by{simp[Ty.size]at u;exact u};subst this;exact⟨_,h,rfl⟩}
 | .sl b t,x,g,j,h,i,u=>by{have:i=0:=by{simp[Ty.size]at u;exact u};subst this;obtain⟨v,J,h2⟩:=h;refine⟨v,J,?_⟩;rcases h2 with⟨rfl,_⟩|⟨_,_,_,rfl,_⟩<;>rfl}
 | .pr a b,x,g,j,h,i,u=>by by_cases G:i<a.size;{exact be.cells h.1 i G};{obtain⟨v,K,e2⟩:=be.cells h.2 (i-a.size) (by simp only[Ty.size]at u;omega);grind}
def oY.news {t:Ty} {ys:List (aX t)} {v:Value} {e:Nat} (h:oY who w t ys v):
 ∃news:List Value,news.length=ys.length*t.size/\(∀x∈news,x.oneCell'=true)/\
  (∀G:World,G.heap=w.heap->(Builtin.firstCells t.size ys.length v).run P G= .ok news.toArray G)/\
  (∀i (h:i<ys.length),be who w t ys[i] (λj=>news[i*t.size+j]?) 0)/\(∃ad cap,v= .slice ad ys.length cap):=by rcases h with⟨rfl,rfl⟩|⟨b,o,cap,rfl,h1,h2,h3⟩;{exact⟨[],by simp,by simp,λG _=>by simp[Builtin.firstCells],λi h=>by simp at h,none,0,rfl⟩};{have hp:=Ty.size_pos t;have hcell: ∀j,j<ys.length*t.size-> ∃v,az w b o j=some v/\v.oneCell'=true:=by{intro j K;have hi:j/t.size<ys.length:=Ns (by rw[zY];exact K);obtain⟨v,u,e2⟩:=be.cells (h3 (j/t.size) hi) (j%t.size) (kh _ hp);refine⟨v,?_,e2⟩;rw[<-u];simp only[az,zH];congr 2;have:=vB j t.size;rw[zY]at this;omega};refine⟨(List.range (ys.length*t.size)).map λj=>(az w b o j).getD undef,by simp,?_,?_,?_,some ⟨b,o,none⟩,cap,rfl⟩;{grind};{intro G a0;simp only[Builtin.firstCells];rw[run_loadCells (P:=P) G ⟨b,o,none⟩ (ys.length*t.size) (λj=>(az w b o j).getD undef) (λj K=> ?_)];obtain⟨v,u,e2⟩:=hcell j K;rw[bN,u];simp only[az,World.cell?]at u⊢;rw[a0];exact u};{intro i hi;refine be.ext' (g:=az w b (o+i*t.size)) (λj K=> ?_) (h3 i hi);have J:i*t.size+j<ys.length*t.size:=by{have:(i+1)*t.size<=ys.length*t.size:=zO _ O;rw[gr]at this;omega};obtain⟨v,u,_⟩:=hcell _ J;simp only[zH,List.getElem?_map,List.getElem?_range J,yo,u,yq];simp only[az]at u⊢;grind}}
end
section
variable {P:Program} {CO:Q7} {T:TT} {E:ba} {D:Nat->Prop} {β:aU} {who:bp} {U U':ao} {hd:List (AV×Value)} {a:Act} {w w':World} {R W:List Nat}
def q1d {t0 t1 e e1:TypeId} {u:Array TypeId} {rt:TypeId} {i:TypeInfo} (h0:u[0]? =some t0) (h1:u[1]? =some t1) (O:P.underlying t0=some (.slice e)) (K:P.underlying t1=some (.slice e1))
 (hi:P.info? e=some i) {b o sLen sCap m:Nat} {cur:Array Value} {el:TypeId} (hg:w.heap[b]? =some (.cells cur el (0,0))) {ad:Option Addr} {c:Nat} {news:List Value}
 (hf:(Builtin.firstCells i.size m (.slice ad m c)).run P w= .ok news.toArray w) (hl:news.length=m*i.size) (a0: ∀x∈news,x.oneCell'=true)
 (hroom:sLen+m<=sCap) (J:o+sLen*i.size+news.length<=cur.size):
 (Builtin.append_ u rt #[.slice (some ⟨b,o,none⟩) sLen sCap,.slice ad m c]).run P w=
   .ok (.slice (some ⟨b,o,none⟩) (sLen+m) sCap) (w.setRow b (qj cur (o+sLen*i.size) news)):=by have G:=run_storeCells_at P b (o+sLen*i.size) el news 0 cur w hg (by simpa using J) a0;simp only[zS]at G;simp only[qj];simp[Builtin.append_,h0,h1,run_underlying O,run_underlying K,Xv hi,Builtin.lenOf,hroom,hf,bN,G]
def q06 {t0 t1 e e1:TypeId} {u:Array TypeId} {rt:TypeId} {i:TypeInfo} {z:Value} (h0:u[0]? =some t0) (h1:u[1]? =some t1) (a0:P.underlying t0=some (.slice e)) (K:P.underlying t1=some (.slice e1))
 (hi:P.info? e=some i) (hz:i.zero=some z) {sa:Option Addr} {sLen sCap m:Nat} {ad:Option Addr} {c:Nat} {olds news:List Value}
 (c0:(Builtin.firstCells i.size sLen (.slice sa sLen sCap)).run P w.drew= .ok olds.toArray w.drew)
 (hf:(Builtin.firstCells i.size m (.slice ad m c)).run P w.drew= .ok news.toArray w.drew)
 (hg:sCap<sLen+m) (hb:i.bytes<=4096) (hm:sLen+m<=1073741824):
 (Builtin.append_ u rt #[.slice sa sLen sCap,.slice ad m c]).run P w=
   .ok (.slice (some ⟨w.heap.size,0,none⟩) (sLen+m) (grownCap w (sLen+m) sCap e))
    (w.drew.alloc (.cells (olds.toArray++news.toArray++Builtin.zeroCells z.cells (grownCap w (sLen+m) sCap e-(sLen+m))) e)):=by
 have hn: ¬(sLen+m<=sCap):=O;have G: ¬(9223372036854775807<((sLen:Int)+(m:Int))):=O
 have b0:(sLen+m)*i.bytes<=140737488355328:=by
  calc (sLen+m)*i.bytes<=1073741824*4096:=qK hm hb
   _<=140737488355328:=by decide
 have J: ¬(281474976710656<Builtin.nextslicecap (sLen+m) sCap*i.bytes):=by
  have:=growslice_fits hg b0;omega
 simp[Builtin.append_,h0,h1,run_underlying a0,run_underlying K,Xv hi,qas hi,P2 hi hz,Builtin.lenOf,hn,G,J,Question.forced,hf,c0,newRow,grownCap]
 grind
def q5j {t:Ty} {xs ys:List (aX t)} {b o:Nat} {news:List Value}
 (hx: ∀i (h:i<xs.length),be who w t xs[i] (az w b (o+i*t.size)) 0)
 (G: ∀i (h:i<ys.length),be who w t ys[i] (λj=>news[i*t.size+j]?) 0) (K:news.length=ys.length*t.size)
 (hc: ∀j,j<news.length->w.cell? ⟨b,o+xs.length*t.size+j,none⟩=news[j]?):aT who w t (xs++ys) b o:=by intro i hi;by_cases J:i<xs.length;{grind};{have u:i-xs.length<ys.length:=by{simp at hi;omega};rw[vF O];refine be.ext' (λj hj=> ?_) (G (i-xs.length) u);simp only[az,zH];have h1:(i-xs.length)*t.size+j<news.length:=by{rw[K];have:(i-xs.length+1)*t.size<=ys.length*t.size:=zO _ O;rw[gr]at this;omega};rw[<-hc _ h1];congr 2;have:i*t.size=xs.length*t.size+(i-xs.length)*t.size:=by{rw[<-Nat.add_mul];congr 1;omega};omega}
def q8y (hT:bL P T) {idx:Nat} {d0:Array TypeId} {rt t0 t1 e e1:TypeId} {et v1:Ty} {cells cells1:List ZC} {v0:AV} {t:Ty} {xs ys:List (aX t)} {cx cy:Value}
 (h0:d0[0]? =some t0) (h1:d0[1]? =some t1) (i1:T.at t0=some {desc:= .slice e et,cells:=cells}) (f1:T.at t1=some {desc:= .slice e1 v1,cells:=cells1})
 (j1:et.size=t.size) {c0:Value} (S:aC E D β who U ((v0,c0)::hd) a w) (hy:oY who w t ys cy) (hlen:xs.length+ys.length<=1073741824) (hf: ∀k,k<16-> ¬D (fresh idx k))
 (hx:(cx= .slice none 0 0/\xs=[])\/ ∃n t' s0,v0= .sl (.nm n) t' s0/\ ∃b o u arr el,cx= .slice (some ⟨b,o,none⟩) xs.length u/\w.heap[b]? =some (.cells arr el (0,0))/\o+u*t.size<=arr.size/\
   xs.length<=u/\who b=some n/\aT who w t xs b o):
 ∃r w' β' who',(Builtin.append_ d0 rt #[cx,cy]).run P w= .ok r w'/\aC E (Dn D idx) β' who' U ((.sl (.nm (fresh idx 15)) t (xs++ys),r)::hd) a w':=by obtain⟨q0,⟨ei,ez,he,z0,hbytes,_,hz,a1⟩⟩:=(hT t0 _ i1).desc;obtain⟨m0,_⟩:=(hT t1 _ f1).desc;have J:ei.size=t.size:=by{rw[z0,j1]};obtain⟨news,n1,n2,n3,n4,ad,cap,rfl⟩:=hy.news (P:=P) (e:=0);have k0: ¬D (fresh idx 15):=hf 15 O;have hD: ∀x,D x->Dn D idx x:=λx h=> .inl h;have l0:Dn D idx (fresh idx 15):= .inr ⟨15,O,rfl⟩;have u0:ez.cells.size=ei.size:=by{rw[<-Array.length_toList,a1,Qn,z0]};have grow: ∀(sa:Option Addr) (sCap:Nat) (olds:List Value),cx= .slice sa xs.length sCap->olds.length=xs.length*t.size-> (∀w1:World,w1.heap=w.heap->(Builtin.firstCells t.size xs.length cx).run P w1= .ok olds.toArray w1)-> (∀i (h:i<xs.length),be who w t xs[i] (λj=>olds[i*t.size+j]?) 0)->sCap<xs.length+ys.length-> ∃r w' β' who',(Builtin.append_ d0 rt #[cx,.slice ad ys.length cap]).run P w= .ok r w'/\aC E (Dn D idx) β' who' U ((.sl (.nm (fresh idx 15)) t (xs++ys),r)::hd) a w':=by{intro sa sCap olds u1 w0 p1 m1 hg;subst u1;have e0:=q06 (P:=P) (rt:=rt) (w:=w) h0 h1 q0 m0 he hz (sa:=sa) (sLen:=xs.length) (sCap:=sCap) (m:=ys.length) (ad:=ad) (c:=cap) (olds:=olds) (news:=news) (by rw[J];exact p1 w.drew rfl) (by rw[J];exact n3 w.drew rfl) hg hbytes hlen;have hcapge:xs.length+ys.length<=grownCap w (xs.length+ys.length) sCap e:=grownCap_ge w _ _ e;let row:=olds.toArray++news.toArray++Builtin.zeroCells ez.cells (grownCap w (xs.length+ys.length) sCap e-(xs.length+ys.length));have k1:row.size=grownCap w (xs.length+ys.length) sCap e*t.size:=by{simp only[row,Array.size_append,List.size_toArray,w0,n1,size_zeroCells,u0,J,<-Nat.add_mul];congr 1;omega};obtain⟨β',who',S'⟩:=aC.make (idx:=idx) (v:= .sl (.nm (fresh idx 15)) t (xs++ys)) (c:= .slice (some ⟨w.heap.size,0,none⟩) (xs.length+ys.length) (grownCap w (xs.length+ys.length) sCap e)) (c1:= .slice (some ⟨w.heap.size,0,none⟩) (xs.length+ys.length) (grownCap w (xs.length+ys.length) sCap e)) (w':=w.drew.alloc (.cells row e)) (o:= .cells row e) S hf rfl (fun β' who' q1 q2 q3 q4 q5=>by{have g0:(w.drew.alloc (.cells row e)).heap[w.heap.size]? =some (.cells row e (0,0)):=heap_alloc_new w.drew _;have hold: ∀b',b'<w.heap.size->(w.drew.alloc (.cells row e)).heap[b']? =w.heap[b']? :=λb' i0=>heap_alloc_old w.drew _ b' i0;have K: ∀b',who b'=none->b'<w.heap.size->who' b'=none/\(w.drew.alloc (.cells row e)).heap[b']? =w.heap[b']? :=λb' i0 r0=>⟨q4 b' i0 r0,hold b' r0⟩;have G:w.heap.size<=(w.drew.alloc (.cells row e)).heap.size:=by{simp};have hrowget: ∀j,row[j]? =if j<olds.length then olds[j]? else if j<olds.length+news.length then news[j-olds.length]? else row[j]? :=by{intro j;split;{grind};{grind}};refine⟨q2.symm,.inr ⟨w.heap.size,0,_,row,e,by simp;rfl,g0,by rw[k1];simp,by simp;exact hcapge,q3,?_⟩⟩;refine q5j (news:=news) ?_ (λi hi=>be.keep K G (n4 i hi)) n1 ?_;{intro i hi;refine be.ext' (λj hj=> ?_) (be.keep K G (m1 i hi));have r0:i*t.size+j<olds.length:=by{rw[w0];have:(i+1)*t.size<=xs.length*t.size:=zO _ O;rw[gr]at this;omega};simp only[az,World.cell?,g0,zH];grind};{intro j hj;have s1:=hrowget (olds.length+j);rw[ae O,iP O]at s1;simp only[World.cell?,g0,zH];grind}}) (λn hn=> .inr ⟨15,O,by simpa [ab,qh,qc]using hn⟩) (by simp[ab,qh,qc]) (λn hn=> .inr ⟨15,O,by simpa [Vs.occ,a9,aK]using hn⟩);exact⟨_,_,β',who',e0,S'⟩};have nilcase:cx= .slice none 0 0->xs=[]-> ∃r w' β' who',(Builtin.append_ d0 rt #[cx,.slice ad ys.length cap]).run P w= .ok r w'/\aC E (Dn D idx) β' who' U ((.sl (.nm (fresh idx 15)) t (xs++ys),r)::hd) a w':=by{intro hc b0;by_cases j0:ys.length=0;{have b1:ys=[]:=List.eq_nil_of_length_eq_zero j0;obtain⟨β',S'⟩:=S.newNil (t:=t) k0 hD l0 (dz S.dfn);refine⟨dO,w,β',who,?_,by rw[b0,b1];exact S'⟩;have x0:=n3 w rfl;have r1:news=[]:=List.eq_nil_of_length_eq_zero (by rw[n1,j0];simp);rw[hc];rw[j0,r1]at x0;simp[Builtin.append_,h0,h1,run_underlying q0,run_underlying m0,Xv he,Builtin.lenOf,j0,J,x0,dO]};{refine grow none 0 [] (by rw[hc,b0];rfl) (by simp[b0]) (λw1 _=>by rw[hc];simp[Builtin.firstCells]) (λi h=>by simp[b0]at h) O}};rcases hx with⟨hc,b0⟩|⟨n,t',s0,rfl,b,o,u,arr,el,rfl,g1,g2,g3,g4,g5⟩;{exact nilcase hc b0};{{by_cases hroom:xs.length+ys.length<=u;{have d1:(xs.length+ys.length)*t.size<=u*t.size:=zO _ hroom;rw[gr]at d1;have a0:o+xs.length*ei.size+news.length<=arr.size:=by{rw[J,n1];omega};have e0:=q1d (P:=P) (rt:=rt) h0 h1 q0 m0 he (o:=o) (sLen:=xs.length) (sCap:=u) g1 (by rw[J];exact n3 w rfl) (by rw[J];exact n1) n2 hroom a0;rw[J]at e0 a0;obtain⟨β',who',S'⟩:=aC.handWrite (m:=fresh idx 15) (ys:=xs++ys) (c':= .slice (some ⟨b,o,none⟩) (xs.length+ys.length) u) (row:=qj arr (o+xs.length*t.size) news) S k0 hD l0 (dz S.dfn) g4 (fun β' who' q1 q2 q3=>by{have hheap:=setRow_heap w b arr (qj arr (o+xs.length*t.size) news) el (0,0) g1;refine⟨q1.symm,.inr ⟨b,o,u,_,el,by simp,hheap,by rw[Qm a0];exact g2,by simpa using hroom,q2 b g4,?_⟩⟩;have K: ∀b',who b'=none->b'<w.heap.size->who' b'=none/\(w.setRow b (qj arr (o+xs.length*t.size) news)).heap[b']? =w.heap[b']? :=λb' i0 _=>q3 b' i0;have G:w.heap.size<=(w.setRow b (qj arr (o+xs.length*t.size) news)).heap.size:=by{simp};refine q5j (news:=news) ?_ (λi hi=>be.keep K G (n4 i hi)) n1 ?_;{intro i hi;refine be.ext' (g:=az w b (o+i*t.size)) (λj hj=> ?_) (be.keep K G (g5 i hi));have:(i+1)*t.size<=xs.length*t.size:=zO _ O;rw[gr]at this;simp only[az,World.cell?,hheap,g1,zH];simp only[Un,GH,if_false];rw[Ql a0,ae O]};{intro j hj;simp only[World.cell?,hheap];simp only[Un,GH,if_false];rw[Ql a0,iP O];congr 1;omega}});grind};{have hs:oY who w t xs (.slice (some ⟨b,o,none⟩) xs.length u):= .inr ⟨b,o,u,rfl,Zd g1,g3,g5⟩;obtain⟨olds,o1,o2,o3,o4,_⟩:=hs.news (P:=P) (e:=0);grind}}}
def qfl (hT:bL P T) {idx:Nat} {K:Array TypeId} {rt:TypeId} {x y v:AV} {cx cy:Value} (h:aw CO (qbk T idx K x y) U v U' R W)
 (S:aC E D β who U ((y,cy)::(x,cx)::hd) a w) (hf: ∀k,k<16-> ¬D (fresh idx k)):
 ∃r w' β' who',(Builtin.append_ K rt #[cx,cy]).run P w= .ok r w'/\aC E (Dn D idx) β' who' U' ((v,r)::hd) a w':=by have hy:br β who w y cy:=S.hrel _ mS;have S0:=S.drop rfl;unfold qbk at h;split at h;{rename_i t0 t1 h0 h1;split at h;{rename_i e et cells e1 c0 cells1 a0 O;obtain⟨z,U1,_,_,_,_,q1,G⟩:=kA h;obtain⟨rfl,hs⟩:=aw.shown q1 S hy;obtain⟨t',ys⟩:=z;split at G;{rename_i n t xs;split at G;{rename_i hh;obtain⟨u,J⟩:=hh;simp only at u;subst u;obtain⟨_,U2,_,_,_,_,q3,q4⟩:=kA G;obtain⟨hlen,rfl⟩:=kG q3;obtain⟨rfl,rfl⟩:=kB q4;exact q8y hT h0 h1 a0 O J S0 hs hlen hf ((qpb (S0.hrel _ mS)).imp id λh=>⟨n,_,xs,rfl,h⟩)};{exact(kC G).elim}};{rename_i t xs;split at G;{rename_i hh;obtain⟨u,J⟩:=hh;simp only at u;subst u;obtain⟨_,U2,_,_,_,_,q3,q4⟩:=kA G;obtain⟨hlen,rfl⟩:=kG q3;obtain⟨rfl,rfl⟩:=kB q4;have b0:cx= .slice none 0 0/\xs=[]:=S0.hrel _ mS;obtain⟨hc,rfl⟩:=b0;exact q8y hT h0 h1 a0 O J S0 hs (by simpa using hlen) hf (.inl ⟨hc,rfl⟩)};{exact(kC G).elim}};{exact(kC G).elim}};{exact(kC h).elim}};{exact(kC h).elim}
end
section
variable {P:Program} {CO:Q7} {T:TT} {E:ba} {D:Nat->Prop} {β:aU} {who:bp} {U U':ao} {hd:List (AV×Value)} {a:Act} {w w':World} {R W:List Nat}
def aC.perm {hd':List (AV×Value)} (S:aC E D β who U hd a w) (hp:hd.Perm hd'):aC E D β who U hd' a w:=
 {S with
  hrel:=λz hz=>S.hrel z (hp.mem_iff.2 hz)
  hnod:=((hp.flatMap_right _).nodup_iff).1 S.hnod
  hdis:=λz hz=>S.hdis z (hp.mem_iff.2 hz)
  hocc:=λz hz=>S.hocc z (hp.mem_iff.2 hz)}
def aw.rdParts: ∀{ps:List (Nat×Operand)} {vs:List (Nat×AV)} {U U':ao} {R W:List Nat} {hd:List (AV×Value)},aw CO (rdParts T ps) U vs U' R W->aC E D β who U hd a w->
 vs.map (·.1)=ps.map (·.1)/\ ∃cs:List Value,cs=ps.map (λp=>a.eval p.2)/\aC E D β who U' ((vs.map (·.2)).zip cs++hd) a w
 |[],vs,U,U',R,W,hd,h,S=>by{obtain⟨rfl,rfl⟩:=kB h;exact⟨rfl,[],rfl,S⟩}
 |(f,x)::ps,vs,U,U',R,W,hd,h,S=>by obtain⟨v,U1,_,_,_,_,J,h2⟩:=kA h;have S1:=aw.rdT J S;obtain⟨us,U2,_,_,_,_,G,u⟩:=kA h2;obtain⟨K,cs,e2,O⟩:=aw.rdParts G S1;obtain⟨rfl,rfl⟩:=kB u;refine⟨by simp[K],a.eval x::cs,by simp[e2],?_⟩;refine O.perm ?_;simp only[ui,Um,Ct];exact List.perm_middle
def Ze {v:AV} {c:Value} (K:cellsOf v=[v]) (h:aW β who w v c) (hd:v≠ .dead):
 bg β who w (cellsOf v) c.cells/\ab v=(cellsOf v).flatMap qc/\Vs.occ v=(cellsOf v).flatMap aK:=by have O:=J7 h hd;obtain⟨_,J,G,_⟩:=q3f h;rw[Yt O,K];refine⟨⟨rfl,λj u=> ?_⟩,by simp[J],by simp[G]⟩;have:j=0:=by{simp at u;exact u};subst this;exact h
def aC.merge {cells:List AV} {arr:Array Value} {v:AV} {c:Value} {off:Nat} (S:aC E D β who U ((.agg cells,.agg arr)::(v,c)::hd) a w)
 (hp:qu4 v=true) (hl:off+(cellsOf v).length<=cells.length):
 c.cells.size=(cellsOf v).length/\
 aC E D β who U ((.agg (Qh cells off (cellsOf v)),.agg (qj arr off c.cells.toList))::hd) a w:=by
 have hA:br β who w (.agg cells) (.agg arr):=S.hrel _ mS;have S0:=S.drop rfl;have hv:br β who w v c:=S0.hrel _ mS;obtain⟨arr',e,hA⟩:=hA;cases e
 have hcr:bg β who w (cellsOf v) c.cells/\ab v=(cellsOf v).flatMap qc/\Vs.occ v=(cellsOf v).flatMap aK:=by
  cases v with
  |dead=>cases hp
  |tup vs=>cases hp
  |bx o cs=>cases hp
  |agg cs=>obtain⟨arr2,rfl,h2⟩:=hv;exact⟨h2,rfl,rfl⟩
  |bool b=>exact Ze (v:= .bool b) rfl hv (by simp)
  |int k n=>exact Ze (v:= .int k n) rfl hv (by simp)
  |lit u=>exact Ze (v:= .lit u) rfl hv (by simp)
  |sl o t xs=>exact Ze (v:= .sl o t xs) rfl hv (by simp)
  |ref s n sz win=>exact Ze (v:= .ref s n sz win) rfl hv (by simp)
  |ptr s n sz i j=>exact Ze (v:= .ptr s n sz i j) rfl hv (by simp)
  |iptr g t xs i j=>exact Ze (v:= .iptr g t xs i j) rfl hv (by simp)
  |dp n t xs hh=>exact Ze (v:= .dp n t xs hh) rfl hv (by simp)
  |dq n t xs hh=>exact Ze (v:= .dq n t xs hh) rfl hv (by simp)
  |dr s n k=>exact Ze (v:= .dr s n k) rfl hv (by simp)
  |wn n t xs=>cases hp
 obtain⟨h1,h2,h3⟩:=hcr;have hsl:c.cells.toList.length=(cellsOf v).length:=by rw[xf,h1.1]
 have hrow:off+c.cells.toList.length<=arr.size:=by rw[hsl,hA.1];exact hl
 refine⟨h1.1,?_⟩;have hno:=S.hnod;simp only[fC,ab,qh]at hno;have hno1:=zT.1 hno;have hno2:=zT.1 hno1.2.1
 have hsub: ∀m∈(Qh cells off (cellsOf v)).flatMap qc,m∈cells.flatMap qc\/m∈ab v:=by
  intro m hm;rw[Qx _ _ _ hl]at hm;simp only[x6,zZ]at hm;rcases hm with(hm|hm)|hm
  . grind
  . rw[h2];exact .inr hm
  . grind
 have hsubo: ∀m∈(Qh cells off (cellsOf v)).flatMap aK,m∈cells.flatMap aK\/m∈Vs.occ v:=by
  intro m hm;rw[Qx _ _ _ hl]at hm;simp only[x6,zZ]at hm;rcases hm with(hm|hm)|hm
  . grind
  . rw[h3];exact .inr hm
  . grind
 have hrel:br β who w (.agg (Qh cells off (cellsOf v))) (.agg (qj arr off c.cells.toList)):=by
  refine⟨_,rfl,by rw[Qm hrow,hA.1,Xc hl],λi hi=> ?_⟩
  have hi':i<cells.length:=by rw[<-Xc hl];exact hi
  rw[J8 hl hi',Array.getD_eq_getD_getElem?,Ql hrow];split
  . rename_i hc;rw[iP (by rw[hsl];exact hc)]
    have:=h1.2 (i-off) O;simp_all
  . rename_i hc;rw[ae (by rw[hsl];exact hc),<-Array.getD_eq_getD_getElem?]
    exact hA.2 i hi'
 have hnd:((Qh cells off (cellsOf v)).flatMap qc).Nodup:=by
  rw[Qx _ _ _ hl];simp only[x6]
  have hsplit:cells=cells.take off++(cells.drop off).take (cellsOf v).length++cells.drop (off+(cellsOf v).length):=by
   rw[qT,<-List.drop_drop,yp,yp]
  have hnn:=hno1.1;rw[hsplit]at hnn;simp only[x6,qT]at hnn;have k1:=zT.1 hnn;have k2:=zT.1 k1.2.1
  have hvn: ∀m,m∈(cellsOf v).flatMap qc->m∉cells.flatMap qc:=by
   intro m hm h;rw[<-h2]at hm;exact hno1.2.2 m h m (by simp only[zZ];exact .inl hm) rfl
  have t1: ∀m∈(cells.take off).flatMap qc,m∈cells.flatMap qc:=λm hm=>by
   grind
  have t2: ∀m∈(cells.drop (off+(cellsOf v).length)).flatMap qc,m∈cells.flatMap qc:=λm hm=>by
   grind
  refine zT.2 ⟨zT.2 ⟨k1.1,by rw[<-h2];exact hno2.1,?_⟩,k2.2.1,?_⟩
  . grind
  . grind
 have S1:=S0.drop rfl
 exact{S1 with
  hrel:=λy hy=>by rcases mC hy with rfl|hy;exact hrel;exact S1.hrel y hy
  hnod:=by
   simp only[fC];refine zT.2 ⟨hnd,S1.hnod,?_⟩
   rintro x hx y hy rfl
   rcases hsub x hx with h|h
   . exact hno1.2.2 x h x (by simp only[zZ];exact .inr hy) rfl
   . exact hno2.2.2 x h x hy rfl
  hdis:=λy hy=>by
   rcases mC hy with rfl|hy
   . intro m hm s hs;rcases hsub m hm with h|h
     . exact S.hdis _ mS m h s hs
     . exact S0.hdis _ mS m h s hs
   . exact S1.hdis y hy
  hocc:=λy hy=>by
   rcases mC hy with rfl|hy
   . intro m hm;rcases hsubo m hm with h|h
     . exact S.hocc _ mS m h
     . exact S0.hocc _ mS m h
   . exact S1.hocc y hy}
def q5q (off:Nat): ∀(l:List Value) (k:Nat) (cs:Array Value),off+k+l.length<=cs.size->
 (l.zipIdx k).foldl (λcs (x:Value×Nat)=>cs.setIfInBounds (off+x.2) x.1) cs=qj cs (off+k) l
 |[],k,cs,h=>by{apply Array.ext';simp[qj]}
 |x::l,k,cs,h=>by simp only[List.zipIdx_cons,List.foldl_cons];rw[q5q off l (k+1) _ (by simp at h⊢;omega)];apply Array.ext';have:=list_seg_step cs.toList (off+k) x l (by simp at h⊢;omega);simp only[qj,Array.toList_setIfInBounds];omega
def Wh {place:Nat->Option (Nat×Nat)} {cells:Array Value} {f off size:Nat} {v:Value} {rest:List (Nat×Value)} (u:place f=some (off,size)) (hs:v.cells.size=size)
 (G:off+v.cells.size<=cells.size):Instr.fill place cells ((f,v)::rest)=Instr.fill place (qj cells off v.cells.toList) rest:=by have J: ¬((decide (v.cells.size≠size)||decide (off+v.cells.size>cells.size))=true):=by{simp[hs];omega};simp only[Instr.fill,u];rw[ae J];congr 1;have:=q5q off v.cells.toList 0 cells (by simpa using G);simp only[zS]at this;rw[<-this];rw[<-Array.foldl_toList];simp
def qj4 {fs:List (Nat×Nat)} {place:Nat->Option (Nat×Nat)} (G: ∀f x,fs[f]? =some x->place f=some x): ∀{ps:List (Nat×AV)} {cs:List Value} {cells cells':List AV} {arr:Array Value} {hd:List (AV×Value)},
 Vm fs cells ps=some cells'->ps.length=cs.length->aC E D β who U ((.agg cells,.agg arr)::((ps.map (·.2)).zip cs++hd)) a w->
 ∃u,Instr.fill place arr ((ps.map (·.1)).zip cs)=some u/\aC E D β who U ((.agg cells',.agg u)::hd) a w
 |[],[],cells,cells',arr,hd,h,_,S=>by{injection h with h;subst h;exact⟨arr,rfl,S⟩}
 |(f,v)::ps,c::cs,cells,cells',arr,hd,h,hlen,S=>by{simp only[Vm]at h;split at h;{rename_i off b0 hf;split at h;{rename_i hc;obtain⟨K,h2,h3⟩:=hc;simp only[ui,Um,Ct]at S;obtain⟨O,S1⟩:=S.merge (off:=off) h3 (by rw[K];exact h2);obtain⟨u,e1,S2⟩:=qj4 G h (by simpa using hlen) S1;refine⟨u,?_,S2⟩;simp only[ui,Um];have J:br β who w (.agg cells) (.agg arr):=S.hrel _ mS;obtain⟨a0,e2,J⟩:=J;cases e2;rw[Wh (G f _ hf) (by rw[O,K]) (by rw[O,K,J.1];exact h2)];exact e1};{cases h}};{cases h}}
 |[],_::_,_,_,_,_,_,hlen,_=>by simp at hlen
 |_::_,[],_,_,_,_,_,hlen,_=>by simp at hlen
def qg1 {w:World} {cu:List Field} {fs:List (Nat×Nat)} (u:cu.length=fs.length)
 (h: ∀j (h:j<fs.length),∃f,cu[j]? =some f/\f.offset=fs[j].1/\ ∃i,P.info? f.type=some i/\i.size=fs[j].2):
 ((cu.mapM λf=>do pure (f.offset,<-sizeOf f.type):Sem (List (Nat×Nat)))).run P w= .ok fs w:=by
 induction cu generalizing fs with
 |nil=>cases fs with
  |nil=>rfl
  |cons x xs=>simp at u
 |cons f cu K=>
  cases fs with
  |nil=>simp at u
  |cons x xs=>
   obtain⟨f',G,e2,i,e3,J⟩:=h 0 (by simp)
   simp at G;subst G
   have:=K (fs:=xs) (by simpa using u) (λj O=>by
    obtain⟨f',G,e2⟩:=h (j+1) (by simpa using O)
    grind)
   simp only[Uy]at e2 J;rw[UI];simp only[Sem.run_bind,Xv e3,Result.andThen_ok,Sem.run_pure,this,e2,J]
def qgx (hT:bL P T) {t:Nat} {vs:List (Nat×AV)} {ps:Array (Nat×Operand)} {v:AV} (h:aw CO (ZD T t vs) U v U' R W)
 (u:vs.map (·.1)=ps.toList.map (·.1)) (S:aC E D β who U ((vs.map (·.2)).zip (ps.toList.map λp=>a.eval p.2)++hd) a w):
 ∃r,(Instr.build t (ps.map λ(i,x)=>(i,a.eval x))).run P w= .ok r w/\aC E D β who U' ((v,r)::hd) a w:=by
 unfold ZD at h;split at h
 . rename_i fs cells ht;obtain⟨zs,hz,h⟩:=kH h;obtain⟨cs,b0,h⟩:=kH h;obtain⟨rfl,rfl⟩:=kB h;have G:=hT t _ ht;obtain⟨cu,hu,O,c0⟩:=G.desc;obtain⟨z,g1,g2,g3,g4,g5,g6⟩:=qdf (β:=β) (who:=who) (w:=w) G hz;have S1:=S.take0 (v:= .agg zs) (c:= .agg z.cells) ⟨z.cells,rfl,g2⟩ g3 (λn hn=>by rw[g4]at hn;cases hn)
   have hlen:vs.length=ps.toList.length:=by have:=congrArg List.length u;simpa using this
   obtain⟨K,e1,S2⟩:=qj4 (place:=(fs.toArray[·]?)) (λf x hx=>by simpa using hx) b0 (by simpa using hlen) S1
   refine⟨.agg K,?_,S2⟩
   have a0:=qg1 (P:=P) (w:=w) (cu:=cu.toList) (fs:=fs) (by simpa using O) (λj hj=>by
    grind)
   have J:((cu.mapM λf=>do pure (f.offset,<-sizeOf f.type):Sem (Array (Nat×Nat)))).run P w= .ok fs.toArray w:=by
    rw[Array.mapM_eq_mapM_toList];simp only[Sem.run_map,a0,Result.andThen_ok]
   have hparts:(ps.map λ(i,x)=>(i,a.eval x)).toList=(vs.map (·.1)).zip (ps.toList.map λp=>a.eval p.2):=by
    rw[u,zp3];induction ps.toList with
    |nil=>rfl
    |cons p l ih=>simp[ih]
   unfold Instr.build;simp only[Sem.run_bind,g1,Result.andThen_ok,run_underlying hu,J,hparts,e1];rfl
 . exact(kC h).elim
end
section
variable {P:Program} {CO:Q7} {T:TT} {E:ba} {D:Nat->Prop} {β:aU} {who:bp} {U U':ao} {hd:List (AV×Value)} {a:Act} {w w':World} {R W:List Nat}
def aC.dropL: ∀{l:List (AV×Value)} {hd:List (AV×Value)},aC E D β who U (l++hd) a w->aC E D β who U hd a w
 |[],_,S=>S
 |_::l,_,S=>aC.dropL (l:=l) (S.drop rfl)
def GA (who:bp) (w:World) (t:Ty) (xs:List (aX t)) (arr:Array Value):Prop:=
 arr.size=xs.length*t.size/\ ∀i (h:i<xs.length),be who w t xs[i] (λj=>arr[i*t.size+j]?) 0
def q5n {t:Ty} {len:Nat}: ∀{ps:List (Nat×AV)} {cs:List Value} {xs G:List (aX t)} {arr:Array Value},VZ t xs ps=some G->ps.length=cs.length->xs.length=len->
 (∀i (h:i<ps.length) (h':i<cs.length),br β who w ps[i].2 cs[i])->GA who w t xs arr->
 ∃u,Instr.fill (λi=>some (i*t.size,t.size)) arr ((ps.map (·.1)).zip cs)=some u/\GA who w t G u/\G.length=len
 |[],[],xs,G,arr,h,_,hl,_,hr=>by{injection h with h;subst h;exact⟨arr,rfl,hr,hl⟩}
 |(i,v)::ps,c::cs,xs,G,arr,h,hlen,hl,hv,hr=>by{simp only[VZ]at h;split at h;{rename_i hc;obtain⟨h1,h2,h3⟩:=hc;split at h;{rename_i y hy;have b0:br β who w v c:=hv 0 (by simp) (by simp);obtain⟨q1,q2,q3,q4⟩:=Yj b0 h3;have K:c.cells.toList.length=t.size:=by{rw[xf,q1.1,h2]};have hrange:i*t.size+t.size<=arr.size:=by{rw[hr.1];have:(i+1)*t.size<=xs.length*t.size:=zO _ O;rw[gr]at this;omega};have J:i*t.size+c.cells.toList.length<=arr.size:=by{rw[K];exact hrange};have c0:GA who w t (xs.set i y) (qj arr (i*t.size) c.cells.toList):=by{refine⟨by rw[Qm J,hr.1];simp,λi' e0=> ?_⟩;have a0:i'<xs.length:=by{simpa using e0};by_cases e:i'=i;{subst e;rw[K4];refine(P4 (β:=β) (who:=who) (w:=w) (f:=λk=>c.cells.getD k undef) hy ?_ ?_).1;{intro k hk;exact V6 (zq.1 h3 _ (zW hk)) (q1.2 k hk)};{intro k hk;simp only[zH];rw[Ql J,iP O];simp_all}};{rw[K0 (λh=>e h.symm)];refine be.ext' (λk hk=> ?_) (hr.2 i' a0);simp only[zH];rw[Ql J,ae];rintro ⟨g1,g2⟩;rw[K]at g2;rcases Nat.lt_or_gt_of_ne e with h|h;{have:(i'+1)*t.size<=i*t.size:=zO _ h;grind};{have:(i+1)*t.size<=i'*t.size:=zO _ h;grind}}};obtain⟨u,e1,e2,e3⟩:=q5n h (by simpa using hlen) (by simpa using hl) (λk hk d0=>hv (k+1) (by simpa using hk) (by simpa using d0)) c0;refine⟨u,?_,e2,e3⟩;simp only[ui,Um];rw[Wh (off:=i*t.size) (size:=t.size) rfl (by rw[q1.1,h2]) (by rw[q1.1,h2];exact hrange)];exact e1};{cases h}};{cases h}}
 |[],_::_,_,_,_,_,hlen,_,_,_=>by simp at hlen
 |_::_,[],_,_,_,_,hlen,_,_,_=>by simp at hlen
def q5v (hT:bL P T) {idx t len:Nat} {vs:List (Nat×AV)} {ps:Array (Nat×Operand)} {v:AV} (h:aw CO (q1q T idx t len vs) U v U' R W)
 (e0:vs.map (·.1)=ps.toList.map (·.1)) (S:aC E D β who U ((vs.map (·.2)).zip (ps.toList.map λp=>a.eval p.2)++hd) a w) (hf: ∀k,k<16-> ¬D (fresh idx k)):
 ∃r w' β' who',(Instr.buildSlice t len (ps.map λ(i,x)=>(i,a.eval x))).run P w= .ok r w'/\aC E (Dn D idx) β' who' U' ((v,r)::hd) a w':=by unfold q1q at h;split at h;{rename_i e ty cells ht;split at h;{rename_i hlen;obtain⟨xs,g0,h⟩:=kH h;obtain⟨rfl,rfl⟩:=kB h;obtain⟨hu,⟨ei,G,he,K,hb,u0,hz,d0⟩⟩:=(hT t _ ht).desc;have k0:vs.length=ps.toList.length:=by{have:=congrArg List.length e0;simpa using this};have hp:=Ty.size_pos ty;have c0:G.cells.size=ty.size:=by{rw[<-Array.length_toList,d0,Qn]};have b0:GA who w ty (List.replicate len ty.zero) ((Array.range (len*ei.size)).map λi=>G.cells[i%G.cells.size]!):=by{refine⟨by simp[K],λi hi=> ?_⟩;have l0:i<len:=by{simpa using hi};simp only[List.getElem_replicate];refine V9 ty _ 0 λj hj=> ?_;have q0:j<ty.size:=by{rw[<-Qn];exact hj};have J:i*ty.size+j<len*ty.size:=by{have:(i+1)*ty.size<=len*ty.size:=zO _ O;rw[gr]at this;omega};have j0:(i*ty.size+j)%ty.size=j:=by{rw[zY,UN,kl q0]};have hg:G.cells[j]! =(Qp ty)[j]:=by{have:j<G.cells.size:=O;rw[getElem!_pos G.cells j this];simp only[<-d0,Array.getElem_toList]};simp only[zH];simp[J,c0,K,j0,hg]};obtain⟨u,e1,e2,e3⟩:=q5n (β:=β) (len:=len) (cs:=ps.toList.map λp=>a.eval p.2) g0 (by simpa using k0) (by simp) (λi hi l0=>by{have hm:(vs[i].2,(ps.toList.map λp=>a.eval p.2)[i])∈(vs.map (·.2)).zip (ps.toList.map λp=>a.eval p.2):=by{rw[List.mem_iff_getElem];exact⟨i,by simp at hi l0⊢;omega,by simp⟩};exact S.hrel _ (zx _ hm)}) b0;have hparts:(ps.map λ(i,x)=>(i,a.eval x)).toList=(vs.map (·.1)).zip (ps.toList.map λp=>a.eval p.2):=by{rw[e0,zp3];induction ps.toList with|nil=>rfl|cons p l ih=>simp[ih]};have m0: ¬(len*ei.size>2^24):=by{rw[K];have:(2:Nat)^24=16777216:=rfl;omega};have i0:(Instr.buildSlice t len (ps.map λ(i,x)=>(i,a.eval x))).run P w= .ok (.slice (some ⟨w.heap.size,0,none⟩) len len) (w.alloc (.cells u e)):=by{unfold Instr.buildSlice;simp only[Sem.run_bind,run_underlying hu,Result.andThen_ok,Xv he,m0,if_false];have t0:len*ei.size=0->((Array.range (len*ei.size)).map λi=>(#[]:Array Value)[i%(#[]:Array Value).size]!)=(Array.range (len*ei.size)).map λi=>G.cells[i%G.cells.size]! :=by{intro h0;rw[h0];apply Array.ext';simp};have v0:Instr.fill (λi=>some (i*ei.size,ei.size)) ((Array.range (len*ei.size)).map λi=>G.cells[i%G.cells.size]!) ((vs.map (·.1)).zip (ps.toList.map λp=>a.eval p.2))=some u:=by{simp only[K]at e1⊢;exact e1};have s0:(newRow e u>>=λx=>pure (Value.slice (some x) len len):Sem Value).run P w= .ok (.slice (some ⟨w.heap.size,0,none⟩) len len) (w.alloc (.cells u e)):=by{simp[newRow]};split;{grind};{simp only[Sem.run_bind,P2 he hz,Sem.run_pure,Result.andThen_ok,hparts];grind}};obtain⟨β',who',S'⟩:=aC.make (idx:=idx) (v:= .sl (.nm (fresh idx 15)) ty xs) (c:= .slice (some ⟨w.heap.size,0,none⟩) len len) (c1:= .slice (some ⟨w.heap.size,0,none⟩) len len) (w':=w.alloc (.cells u e)) (o:= .cells u e) (S.dropL.take_dead) hf rfl (fun β' who' q1 q2 q3 q4 _=>by{have a0:=heap_alloc_new w (.cells u e);refine⟨q2.symm,.inr ⟨w.heap.size,0,len,u,e,by rw[e3],a0,by rw[e2.1,e3];simp,O,q3,λi hi=> ?_⟩⟩;refine be.ext' (λj hj=> ?_) (be.keep (λb' r0 J=>⟨q4 b' r0 J,heap_alloc_old w _ b' J⟩) (by simp) (e2.2 i hi));simp only[az,World.cell?,a0,zH];rfl}) (λn hn=> .inr ⟨15,O,by simpa [ab,qh,qc]using hn⟩) (by simp[ab,qh,qc]) (λn hn=> .inr ⟨15,O,by simpa [Vs.occ,a9,aK]using hn⟩);exact⟨_,_,β',who',i0,S'⟩};{exact(kC h).elim}};{exact(kC h).elim}
end
section
variable {P:Program} {CO:Q7} {T:TT} {E:ba} {D:Nat->Prop} {β:aU} {who:bp} {U U':ao} {hd:List (AV×Value)} {a:Act} {w w':World} {R W:List Nat}
def aC.shift (S:aC E D β who U hd a w) {β':aU} {who':bp} {w':World} {X:List Nat} (hX:FN∉X) (hβ: ∀x,D x->β' x=β x)
 (ho: ∀b x,who b=some x->x∉X->who' b=some x/\w'.heap[b]? =w.heap[b]?) (hi: ∀b,who b=none->who' b=none/\w'.heap[b]? =w.heap[b]?)
 (hw: ∀b x,who' b=some x-> ∃y,who b=some y) (a0:w'.heap.size=w.heap.size)
 (hs: ∀s x,x∈X->x∈ab (U.get s)->br β' who' w' (U.get s) (a.tmps.getD s undef)) (hh: ∀z∈hd,∀x∈X,x∉ab z.1)
 (h4:w'.os=w.os/\w'.output=w.output):aC E D β' who' U hd a w':=by have h98:=hβ 98 S.d98;have k: ∀av,(∀x∈Vs.occ av,D x)->(∀x∈X,x∉ab av)->cO β who w β' who' w' (ab av) (Vs.occ av):=λav h1 h2=> ⟨λx hx=>hβ x (h1 x hx),λx hx b u=>ho b x u (λh=>h2 x h hx),λb u _=>hi b u,O⟩;refine S.world (λs=> ?_) (λz K=>(S.hrel z K).keep (k _ (S.hocc z K) (hh z K))) (λb x h=> ?_) O (λb u J=> ?_) (λb x h=> ?_) (λb u=> ?_) h4 h98;{by_cases e: ∃x∈X,x∈ab (U.get s);{grind};{exact(S.rel s).keep (k _ (S.occ s) (λx h1 h2=>e ⟨x,h1,h2⟩))}};{obtain⟨y,hy⟩:=hw b x h;have:=S.wsz b y hy;omega};{cases G:who b with|none=>exact(hi b G).2|some x=>{rcases J with J|J;{rcases S.fr1 b x G with h|h;{exact absurd J h};{omega}};{have:=S.fr3 b J;exact(ho b FN this hX).2}}};{obtain⟨y,hy⟩:=hw b x h;exact S.fr1 b y hy};{exact(ho b FN (S.fr3 b u) hX).1}
def aC.addN {new:List (AV×Value)} (S:aC E D β who U [] a w) (hr: ∀x∈new,br β who w x.1 x.2) (hnd:(new.flatMap λx=>ab x.1).Nodup)
 (hdis: ∀x∈new,∀n∈ab x.1,∀s,n∉ab (U.get s)) (ho: ∀x∈new,∀n∈Vs.occ x.1,D n):aC E D β who U new a w:=
 {S with hrel:=hr,hnod:=hnd,hdis:=hdis,hocc:=ho}
def aC.recast (S:aC E D β who U [] a w) {s:Nat} {v:AV} (h0:U.get s= .dead) (hr:br β who w v (a.tmps.getD s undef)) (hnd:(ab v).Nodup)
 (hdis: ∀n∈ab v,∀t,n∉ab (U.get t)) (ho: ∀n∈Vs.occ v,D n):aC E D β who (U.set s v) [] a w:=
 {S with
  rel:=λt=>by
   by_cases h:t=s
   . subst h;rw[qg];exact hr
   . rw[qf _ _ h];exact S.rel t
  nod:=λt=>by
   by_cases h:t=s
   . subst h;rw[qg];exact hnd
   . rw[qf _ _ h];exact S.nod t
  dis:=λt t' n h1 h2=>by
   by_cases h:t=s<;>by_cases h':t'=s
   . rw[h,h']
   . subst h;rw[qg]at h1;rw[qf _ _ h']at h2;grind
   . subst h';rw[qg]at h2;rw[qf _ _ h]at h1;grind
   . rw[qf _ _ h]at h1;rw[qf _ _ h']at h2;exact S.dis t t' n h1 h2
  occ:=λt n h1=>by
   by_cases h:t=s
   . subst h;rw[qg]at h1;exact ho n h1
   . rw[qf _ _ h]at h1;exact S.occ t n h1
  hdis:=λy hy=>by cases hy}
def YH {b:Nat} {o:Obj} (h:w.heap[b]? =some o):b<w.heap.size:=by grind
def qf1 (hT:bL P T) {idx t:Nat} {l c v:AV} {cl cc:Value} (h:aw CO (YF T idx t l c) U v U' R W) (S:aC E D β who U hd a w)
 (hl:br β who w l cl) (hc:br β who w c cc) (hf: ∀k,k<16-> ¬D (fresh idx k)):
 ∃r w' β' who',(Instr.makeSlice t cl cc).run P w= .ok r w'/\aC E (Dn D idx) β' who' U' ((v,r)::hd) a w':=by
 unfold YF at h;split at h
 . rename_i e b0 ty cells l c j0;have l0:cl= .int .i64 l:=hl;have q0:cc= .int .i64 c:=hc;subst l0 q0;obtain⟨_,U1,_,_,_,_,h1,h2⟩:=kA h;obtain⟨⟨m0,m1,m2⟩,rfl⟩:=kG h1;obtain⟨rfl,rfl⟩:=kB h2;obtain⟨hu,⟨u,J,he,a0,hb,t0,hz,c0⟩⟩:=(hT t _ j0).desc
   have s0:(u.bytes:Int)*c<=4096*1073741824:=by
    have h1:(u.bytes:Int)<=4096:=O
    calc (u.bytes:Int)*c<=(u.bytes:Int)*1073741824:=Int.mul_le_mul_of_nonneg_left m2 O
     _<=4096*1073741824:=Int.mul_le_mul_of_nonneg_right h1 O
   have e0:=run_make (P:=P) w t e u J hu he hz .i64 .i64 l c m0 m1 O O;have r0:dj (.tuple ((.slice (some ⟨w.heap.size,0,none⟩) l.toNat c.toNat::List.replicate l.toNat dO).toArray)) 0= .slice (some ⟨w.heap.size,0,none⟩) l.toNat c.toNat:=rfl
   have g0: ∀i,i<l.toNat->dj (.tuple ((.slice (some ⟨w.heap.size,0,none⟩) l.toNat c.toNat::List.replicate l.toNat dO).toArray)) (i+1)=dO:=by
    intro i hi;simp[dj,Array.getD,hi]
   obtain⟨β',who',S'⟩:=aC.make (idx:=idx) (v:= .dp (fresh idx 15) ty (List.replicate l.toNat []) none) (c:= .slice (some ⟨w.heap.size,0,none⟩) l.toNat c.toNat)
    (c1:= .tuple ((.slice (some ⟨w.heap.size,0,none⟩) l.toNat c.toNat::List.replicate l.toNat dO).toArray))
    (w':=w.alloc (.cells (madeCells J.cells (c.toNat*u.size)) e)) S.take_dead hf rfl
    (fun β' who' g1 g2 g3 g4 _=>by
      refine⟨by rw[g2];rfl,.inr ⟨w.heap.size,0,c.toNat,madeCells J.cells (c.toNat*u.size),e,by simp,heap_alloc_new w _,by simp[size_madeCells,a0,Ty.size],by simp;omega,g3,?_,?_⟩⟩
      . intro i hi _;have K:i<l.toNat:=by simpa using hi
        rw[g2,g0 i K];refine⟨?_,.inl ⟨rfl,by simp⟩⟩
        have hE:aT who' (w.alloc (.cells (madeCells J.cells (c.toNat*u.size)) e)) (.sl b0 ty) (List.replicate l.toNat (Ty.zero (.sl b0 ty))) w.heap.size 0:=
         q7p (zs:=J.cells) (m:=c.toNat) (el:=e) c0 (by rw[<-a0];exact heap_alloc_new w _) O
        obtain⟨vv,q1,q2⟩:=hE i (by simpa using K)
        have:vv=dO:=by
         rcases q2 with⟨q2,_⟩|⟨b,o,cap,q2,q3,q4,q5,q6⟩
         . exact q2
         . exfalso
           have hcell:(w.alloc (.cells (madeCells J.cells (c.toNat*u.size)) e)).cell? ⟨w.heap.size,i,none⟩=some dO:=by
            have h0:J.cells.toList=[dO]:=c0;have i0:J.cells= #[dO]:=by apply Array.ext';simpa using h0
            have d0:u.size=1:=a0;have k0:i<c.toNat:=O;have hh:=heap_alloc_new w (Obj.cells (madeCells J.cells (c.toNat*u.size)) e);simp only[World.cell?,hh];simp[madeCells,i0,d0,k0,Nat.mod_one]
           have G:az (w.alloc (.cells (madeCells J.cells (c.toNat*u.size)) e)) w.heap.size (0+i*1) 0=some vv:=q1;simp only[az,zH,jF,zS]at G;rw[hcell]at G;injection G with G
           rw[<-G]at q2;cases q2
        rw[this]at q1;simpa [az,Ty.size]using q1
      . intro i j ai aj li lj ci cj hi _ _ _ q;have K:i<l.toNat:=by simpa using hi
        rw[g2,g0 i K]at q;cases q)
    (λn hn=> .inr ⟨15,O,by simpa [ab,qh,qc]using hn⟩) (by simp[ab,qh,qc])
    (λn hn=> .inr ⟨15,O,by simpa [Vs.occ,a9,aK]using hn⟩)
   exact⟨_,_,β',who',e0,S'⟩
 . exact(kC h).elim
def q7z {n:Nat}: ∀{cells:List AV} {k j:Nat},UR n cells k=some j->k<=j/\ ∃t xs hh,cells[j-k]? =some (.dp n t xs hh)
 |c::cs,k,j,h=>by unfold UR at h;split at h;{rename_i e;cases h;refine⟨zI _,?_⟩;rw[x9];cases c with|dp m t xs hh=>{have:m=n:=Nat.eq_of_beq_eq_true e;grind}|_=>cases e};{obtain⟨h1,h2⟩:=q7z h;grind}
def qu1 (a d:AV):Option Nat->AV
 |none=>d
 |some j=>match a with
  | .bx o cells=> .bx o (cells.set j d)
  |a=>a
def q8q {n:Nat} {a d:AV} {loc:Option Nat} (h:iE n a=some (d,loc)):(∃t xs hh,d= .dp n t xs hh)/\((loc=none/\a=d)\/ ∃m cells j,loc=some j/\a= .bx (.nm m) cells/\ ∃G:j<cells.length,cells[j]=d):=by unfold iE at h;split at h;{grind};{rename_i m cells;split at h;{rename_i j u;cases h;obtain⟨_,t,xs,hh,e⟩:=q7z u;grind};{cases h}};{cases h}
def q7v {n:Nat} {f:AV->Option AV} {a d b:AV} {loc:Option Nat} (h:iE n a=some (d,loc)) (u:kd f loc a=some b): ∃G,f d=some G/\b=qu1 a G loc:=by obtain⟨_,K⟩:=q8q h;rcases K with⟨rfl,rfl⟩|⟨m,cells,j,rfl,rfl,J,rfl⟩;{exact⟨b,u,rfl⟩};{unfold kd at u;have:cells.getD j .dead=cells[j]:=by{rw[List.getD_eq_getElem?_getD,List.getElem?_eq_getElem J];rfl};simp only[this]at u;split at u;{rename_i G hd;cases u;exact⟨G,hd,rfl⟩};{cases u}}
def qkq (U:ao): ∃B,∀g,B<=g->U.get g= .dead:=by induction U with|nil=>exact⟨0,λ_ _=>rfl⟩|cons x r u=>{obtain⟨B,J⟩:=u;obtain⟨k,v⟩:=x;refine⟨B+k+1,λg G=> ?_⟩;simp only[ao.get];grind}
def qnf (l:List (Nat×Value)): ∃B,∀p∈l,p.1<B:=by induction l with|nil=>simp_all|cons x r u=>{obtain⟨B,J⟩:=u;refine⟨B+x.1+1,λp G=> ?_⟩;grind}
def Ye {cells:List AV} {j:Nat} (u:j<cells.length):(cells.set j .dead).flatMap qc=(cells.take j).flatMap qc++(cells.drop (j+1)).flatMap qc:=by rw[OL,iP u];simp[qc]
def P9 {cells:List AV} {j:Nat} {d:AV} (u:j<cells.length):(cells.set j d).flatMap qc=(cells.take j).flatMap qc++(qc d++(cells.drop (j+1)).flatMap qc):=by rw[OL,iP u];simp
def qv9 {cells:List AV} {j:Nat} {d:AV} {n:Nat} (u:j<cells.length) (h:n∈(cells.set j d).flatMap aK):n∈aK d\/n∈(cells.set j .dead).flatMap aK:=by rw[OL,iP u]at h⊢;grind
def Dd {cells:List AV} {j:Nat} {d:AV} {n:Nat} (u:j<cells.length) (h:n∈(cells.set j d).flatMap qc):n∈qc d\/n∈(cells.set j .dead).flatMap qc:=by rw[P9 u]at h;rw[Ye u];grind
def qr6 {arr:Array Value} {g:Nat} {v:Value} (u:arr.size<=g) (s:Nat):(arr++Array.replicate (g-arr.size) undef++ #[v]).getD s undef=if s=g then v else arr.getD s undef:=by simp only[Array.getD_eq_getD_getElem?];grind
def aC.openDp (S:aC E D β who U hd a w) {s n:Nat} {loc:Option Nat} {t:Ty} {xs:List (List (aX t))} {hh:Option Nat} (h:iE n (U.get s)=some (.dp n t xs hh,loc)):
 ∃(E':ba) (a':Act) (g:Nat) (U1:ao),aC E' D β who U1 hd a' w/\U1.get g= .dp n t xs hh/\
  ∀(D':Nat->Prop) β' who' w' hd' n' t' (xs':List (List (aX t'))) hh',(∀b,who b≠some n->w'.heap[b]? =w.heap[b]?)->
   aC E' D' β' who' (U1.set g (.dp n' t' xs' hh')) hd' a' w'->aC E D' β' who' (U.set s (qu1 (U.get s) (.dp n' t' xs' hh') loc)) hd' a w':=by obtain⟨_,h1⟩:=q8q h;rcases h1 with⟨rfl,hav⟩|⟨m,cells,j,rfl,hav,hj,hcj⟩;{exact⟨E,a,s,U,S,hav,λD' β' who' w' hd' n' t' xs' hh' _ S'=>S'⟩};obtain⟨B1,hB1⟩:=qkq U;obtain⟨B2,hB2⟩:=qnf E.pins;obtain⟨g,hg1,hg2,hg3⟩: ∃g,B1<=g/\B2<=g/\a.tmps.size<=g:=⟨B1+B2+a.tmps.size,O,O,O⟩;have hgd:U.get g= .dead:=hB1 g hg1;have hsg:s≠g:=by{rintro rfl;rw[hgd]at hav;cases hav};have hrs:=S.rel s;rw[hav]at hrs;obtain⟨r0,b,arr,el,r1,r2,r3,r4⟩:=hrs;have hdr:aW β who w cells[j] (arr.getD j undef):=r4.2 j hj;rw[hcj]at hdr;have hnd:=S.nod s;rw[hav]at hnd;have hnd':(m::cells.flatMap qc).Nodup:=hnd;have hcs:cells.set j cells[j]=cells:=List.set_getElem_self hj;have hnm:m≠n:=by{rintro rfl;have:=(oF.1 hnd').1;exact this (zL.2 ⟨cells[j],zW hj,by rw[hcj];simp[qc]⟩)};have hsub: ∀x,x∈(cells.set j .dead).flatMap qc->x∈cells.flatMap qc:=λx hx=>by{rw[<-hcs,P9 hj];rw[Ye hj]at hx;grind};have hsubo: ∀x,x∈(cells.set j .dead).flatMap aK->x∈cells.flatMap aK:=λx hx=>by{obtain⟨c,hc,hx⟩:=zL.1 hx;rcases List.mem_or_eq_of_mem_set hc with hc|rfl;{grind};{cases hx}};have hnot:n∉m::(cells.set j .dead).flatMap qc:=by{intro hx;rcases mC hx with e|hx;{exact hnm e.symm};{have h2:=(oF.1 hnd').2;rw[<-hcs,P9 hj,hcj]at h2;rw[Ye hj]at hx;obtain⟨q1,q2,q3⟩:=zT.1 h2;rcases zZ.1 hx with hx|hx;{exact q3 n hx n (zx _ (by simp[qc])) rfl};{obtain⟨p1,p2,p3⟩:=zT.1 q2;exact p3 n (by simp[qc]) n hx rfl}}};have hdeadnd:(m::(cells.set j .dead).flatMap qc).Nodup:=by{refine oF.2 ⟨λhx=>(oF.1 hnd').1 (hsub m hx),?_⟩;have h2:=(oF.1 hnd').2;rw[<-hcs,P9 hj]at h2;rw[Ye hj];obtain⟨q1,q2,q3⟩:=zT.1 h2;obtain⟨p1,p2,p3⟩:=zT.1 q2;exact zT.2 ⟨q1,p2,λx hx y hy=>q3 x hx y (xc _ hy)⟩};let a':Act:={a with tmps:=a.tmps++Array.replicate (g-a.tmps.size) undef++ #[arr.getD j undef]};have ha': ∀s',a'.tmps.getD s' undef=if s'=g then arr.getD j undef else a.tmps.getD s' undef:=λs'=>qr6 hg3 s';let U1:ao:=(U.set s (.bx (.nm m) (cells.set j .dead))).set g (.dp n t xs hh);have gg:U1.get g= .dp n t xs hh:=qg ..;have gs:U1.get s= .bx (.nm m) (cells.set j .dead):=by{simp only[U1];rw[qf _ _ hsg,qg]};have go: ∀s',s'≠g->s'≠s->U1.get s'=U.get s':=λs' h1 h2=>by{simp only[U1];rw[qf _ _ h1,qf _ _ h2]};have nS: ∀x s',x∈ab (U1.get s')->(s'=g->x=n)/\(s'≠g->x∈ab (U.get s'))/\(s'≠g->x≠n):=by{intro x s' hx;by_cases e:s'=g;{subst e;rw[gg]at hx;refine⟨λ_=>by simpa [ab,qh,qc]using hx,λh=>absurd rfl h,λh=>absurd rfl h⟩};{by_cases e2:s'=s;{subst e2;rw[gs]at hx;have hx:x∈m::(cells.set j .dead).flatMap qc:=hx;refine⟨λh=>absurd h e,λ_=> ?_,λ_ h=>hnot (h▸hx)⟩;rw[hav];show x∈m::cells.flatMap qc;grind};{rw[go s' e e2]at hx;refine⟨λh=>absurd h e,λ_=>hx,λ_ h=>e2 ?_⟩;subst h;refine S.dis s' s x hx ?_;rw[hav];exact mT (zL.2 ⟨cells[j],zW hj,by rw[hcj];simp[qc]⟩)}}};refine⟨{E with N:=g+1},a',g,U1,?_,gg,?_⟩;{refine{S with rel:=λs'=> ?_,nod:=λs'=> ?_,dis:=λs1 s2 x h1 h2=> ?_,occ:=λs' x hx=> ?_,hdis:=λz hz x hx s' hs=> ?_,tsz:= ?_,pin:=λp hp=> ?_};{rw[ha'];by_cases e:s'=g;{subst e;rw[gg,iP rfl];exact hdr};{rw[ae e];by_cases e2:s'=s;{subst e2;rw[gs];refine⟨r0,b,arr,el,r1,r2,r3,by rw[zU];exact r4.1,λi hi=> ?_⟩;rw[List.getElem_set];split;{trivial};{exact r4.2 i (by simpa using hi)}};{rw[go s' e e2];exact S.rel s'}}};{by_cases e:s'=g;{subst e;rw[gg];simp[ab,qh,qc]};{by_cases e2:s'=s;{subst e2;rw[gs];exact hdeadnd};{rw[go s' e e2];exact S.nod s'}}};{have q1:=nS x s1 h1;have q2:=nS x s2 h2;by_cases e1:s1=g<;>by_cases e2:s2=g;{rw[e1,e2]};{omega};{omega};{exact S.dis s1 s2 x (q1.2.1 e1) (q2.2.1 e2)}};{by_cases e:s'=g;{subst e;rw[gg]at hx;have:x=n:=by{simpa [Vs.occ,a9,aK]using hx};subst this;refine S.occ s x ?_;rw[hav];exact mT (zL.2 ⟨cells[j],zW hj,by rw[hcj];simp[aK]⟩)};{by_cases e2:s'=s;{subst e2;rw[gs]at hx;refine S.occ s' x ?_;rw[hav];have hx:x∈m::(cells.set j .dead).flatMap aK:=hx;show x∈m::cells.flatMap aK;grind};{rw[go s' e e2]at hx;exact S.occ s' x hx}}};{have q:=nS x s' hs;by_cases e:s'=g;{have:=q.1 e;subst this;refine S.hdis z hz x hx s ?_;rw[hav];exact mT (zL.2 ⟨cells[j],zW hj,by rw[hcj];simp[qc]⟩)};{exact S.hdis z hz x hx s' (q.2.1 e)}};{grind};{rw[ha',ae (by have:=hB2 p hp;omega)];exact S.pin p hp}};{intro D' β' who' w' hd' n' t' xs' hh' hw S';have gg': ∀d,(U1.set g d).get g=d:=λd=>qg ..;have gs': ∀d,(U1.set g d).get s= .bx (.nm m) (cells.set j .dead):=λd=>by{rw[qf _ _ hsg,gs]};have go': ∀d s',s'≠g->s'≠s->(U1.set g d).get s'=U.get s':=λd s' h1 h2=>by{rw[qf _ _ h1,go s' h1 h2]};rw[hav];show aC E D' β' who' (U.set s (.bx (.nm m) (cells.set j (.dp n' t' xs' hh')))) hd' a w';have hR:=S'.rel g;rw[gg',ha',iP rfl]at hR;have hs':=S'.rel s;rw[gs',ha',ae hsg]at hs';obtain⟨s0,b',arr',el',s1,s2,s3,s4⟩:=hs';have hbb:b'=b:=by{rw[r1]at s1;injection s1 with s1;injection s1 with s1;injection s1 with s1;exact s1.symm};subst hbb;have hheap:=hw b' (by grind);rw[hheap,r2]at s2;injection s2 with s2;injection s2 with s2 s2';subst s2 s2';have mN: ∀x s',x∈ab ((U.set s (.bx (.nm m) (cells.set j (.dp n' t' xs' hh')))).get s')->s'≠g/\(x∈ab ((U1.set g (.dp n' t' xs' hh')).get s')\/(s'=s/\x∈ab ((U1.set g (.dp n' t' xs' hh')).get g))):=by{intro x s' hx;by_cases e:s'=s;{subst e;rw[qg]at hx;refine⟨hsg,?_⟩;have hx:x∈m::(cells.set j (.dp n' t' xs' hh')).flatMap qc:=hx;rcases mC hx with h|h;{left;rw[gs'];exact h▸mS};{rcases Dd hj h with h|h;{right;rw[gg'];exact⟨rfl,h⟩};{left;rw[gs'];exact mT h}}};{rw[qf _ _ e]at hx;have e2:s'≠g:=by{rintro rfl;rw[hgd]at hx;cases hx};grind}};refine{S' with rel:=λs'=> ?_,nod:=λs'=> ?_,dis:=λs1 s2 x h1 h2=> ?_,occ:=λs' x hx=> ?_,hdis:=λz hz x hx s' hs=> ?_,tsz:=S.tsz,pin:=S.pin};{by_cases e:s'=s;{subst e;rw[qg];refine⟨s0,b',arr,el,s1,by rw[hheap];exact r2,s3,by rw[zU];exact r4.1,λi hi=> ?_⟩;rw[List.getElem_set];split;{rename_i e;subst e;exact hR};{rename_i e;have:=s4.2 i (by simpa using hi);grind}};{rw[qf _ _ e];by_cases e2:s'=g;{subst e2;rw[hgd];trivial};{have:=S'.rel s';grind}}};{by_cases e:s'=s;{subst e;rw[qg];show(m::(cells.set j (.dp n' t' xs' hh')).flatMap qc).Nodup;have hn':n'∉m::(cells.set j .dead).flatMap qc:=λhx=>hsg (S'.dis s' g n' (by rw[gs'];exact hx) (by rw[gg'];simp[ab,qh,qc]));obtain⟨k1,k2⟩:=oF.1 hdeadnd;rw[Ye hj]at k1 k2 hn';rw[P9 hj];simp only[qc,Ct,yn];simp only[zu,zZ,not_or]at k1 hn';obtain⟨q1,q2,q3⟩:=zT.1 k2;refine oF.2 ⟨?_,zT.2 ⟨q1,oF.2 ⟨hn'.2.2,q2⟩,λx hx y hy=> ?_⟩⟩;{grind};{grind}};{rw[qf _ _ e];by_cases e2:s'=g;{subst e2;rw[hgd];exact yk};{have:=S'.nod s';grind}}};{obtain⟨p1,p2⟩:=mN x s1 h1;obtain⟨q1,q2⟩:=mN x s2 h2;rcases p2 with p2|⟨p2,p3⟩<;>rcases q2 with q2|⟨q2,q3⟩;{exact S'.dis s1 s2 x p2 q2};{exact absurd (S'.dis s1 g x p2 q3) p1};{exact absurd (S'.dis s2 g x q2 p3) q1};{rw[p2,q2]}};{by_cases e:s'=s;{subst e;rw[qg]at hx;have hx:x∈m::(cells.set j (.dp n' t' xs' hh')).flatMap aK:=hx;rcases mC hx with h|h;{exact S'.occ s' x (by rw[gs'];exact h▸mS)};{rcases qv9 hj h with h|h;{exact S'.occ g x (by rw[gg'];exact h)};{exact S'.occ s' x (by rw[gs'];exact mT h)}}};{rw[qf _ _ e]at hx;by_cases e2:s'=g;{subst e2;rw[hgd]at hx;cases hx};{exact S'.occ s' x (by grind)}}};{obtain⟨_,q2⟩:=mN x s' hs;rcases q2 with q2|⟨_,q3⟩;{exact S'.hdis z hz x hx s' q2};{exact S'.hdis z hz x hx g q3}}}
def aC.dpA (S:aC E D β who U hd a w) {s n n':Nat} {loc:Option Nat} {t:Ty} {xs:List (List (aX t))} {hh:Option Nat} (h:iE n (U.get s)=some (.dp n' t xs hh,loc)):
 n'=n/\(∃v,bu β who w n t xs hh v)/\n∈ab (U.get s):=by obtain⟨⟨t1,a0,b0,e⟩,h1⟩:=q8q h;cases e;refine⟨rfl,?_⟩;rcases h1 with⟨rfl,u⟩|⟨m,cells,j,rfl,u,O,K⟩;{have:=S.rel s;rw[u]at this;exact⟨⟨_,this⟩,by rw[u];simp[ab,qh,qc]⟩};{have G:=S.rel s;rw[u]at G;obtain⟨r0,b,arr,el,r1,r2,r3,r4⟩:=G;have J:=r4.2 j O;rw[K]at J;refine⟨⟨_,J⟩,?_⟩;rw[u];exact mT (zL.2 ⟨cells[j],zW O,by rw[K];simp[qc]⟩)}
def aw.dpLen {s n l:Nat} (h:aw CO (dpLen s n) U l U' R W):U'=U/\ ∃n' t xs hh loc,iE n (U.get s)=some (.dp n' t xs hh,loc)/\l=xs.length:=by unfold Vs.dpLen at h;obtain⟨b,U1,_,_,_,_,h1,h2⟩:=kA h;obtain⟨hb,rfl⟩:=kF h1;split at h2;{rename_i s1 m;obtain⟨c,U2,_,_,_,_,h3,h4⟩:=kA h2;obtain⟨hc,rfl⟩:=kF h3;split at h4;{rename_i l1 m1;split at h4;{rename_i e;obtain⟨rfl,rfl⟩:=kB h4;subst e;refine⟨rfl,?_⟩;cases hav:U'.get s with|dp n' t xs hh=>{rw[hav]at hb hc;simp only[dh,dw,zf,AV.dr.injEq]at hb;simp[dh,fm]at hc;obtain⟨_,rfl,_⟩:=hb;exact⟨_,t,xs,hh,none,iP rfl,hc.1⟩}|bx o cs=>{rw[hav]at hb;cases o<;>simp[dh,dw]at hb}|tup vs=>{rw[hav]at hb;simp[dh,dw]at hb}|_=>{rw[hav]at hc;simp[dh,fm]at hc}};{exact(kC h4).elim}};{exact(kC h4).elim}};{obtain⟨av,U2,_,_,_,_,h3,h4⟩:=kA h2;obtain⟨hav,rfl⟩:=kD h3;split at h4;{rename_i n' t xs hh loc hd;obtain⟨rfl,rfl⟩:=kB h4;grind};{exact(kC h4).elim}};{exact(kC h2).elim}
def aw.holeAsk' {hh:Option Nat} {i:Nat} {u:Unit} (h:aw CO (qp3 hh i) U u U' R W):(hh=none\/hh=some i)/\U'=U:=by cases hh with|none=>{obtain⟨_,rfl⟩:=kB h;exact⟨.inl rfl,rfl⟩}|some k=>{obtain⟨rfl,rfl⟩:=kG h;exact⟨.inr rfl,rfl⟩}
def aw.noHole' {hh:Option Nat} {i:Nat} {u:Unit} (h:aw CO (Lu hh i) U u U' R W):hh≠some i/\U'=U:=by cases hh with|none=>{obtain⟨_,rfl⟩:=kB h;exact⟨by simp,rfl⟩}|some k=>{obtain⟨g,rfl⟩:=kG h;grind}
def aC.dp (S:aC E D β who U hd a w) {s n:Nat} {t:Ty} {xs:List (List (aX t))} {hh:Option Nat} (h:U.get s= .dp n t xs hh):
 bu β who w n t xs hh (a.tmps.getD s undef):=by have:=S.rel s;rw[h]at this;exact this
def bu.base {n:Nat} {t:Ty} {xs:List (List (aX t))} {hh:Option Nat} {v:Value} (h:bu β who w n t xs hh v):
 ∃ad cap,dj (β n) 0= .slice ad xs.length cap:=by obtain⟨u,h2⟩:=h;grind
def bu.baseP {n:Nat} {t:Ty} {xs:List (List (aX t))} {hh:Option Nat} {v:Value} (h:bu β who w n t xs hh v) (u:xs≠[]):
 ∃b o cap,dj (β n) 0= .slice (some ⟨b,o,none⟩) xs.length cap:=by obtain⟨G,b,o,cap,arr,el,J,_⟩:=h.pos (.inr u);grind
def bu.row {n:Nat} {t:Ty} {xs:List (List (aX t))} {hh:Option Nat} {v:Value} (h:bu β who w n t xs hh v) {i:Nat} (u:i<xs.length) (hn:hh≠some i):
 oY who w t xs[i] (dj (β n) (i+1)):=by obtain⟨h1,b,o,cap,arr,el,e1,e2,e3,e4,e5,e6,e7⟩:=h.pos (.inr (Qc u));obtain⟨_,f⟩:=e6 i u hn;rcases f with f|⟨bi,G,ci,ar,l,k1,O,k3,K,k5,k6,J⟩;{exact .inl f};{exact .inr ⟨bi,G,ci,k1,YH O,K,J⟩}
def qg2 (hT:bL P T) {t s n:Nat} {k:DK} {J:Array TypeId} {rt:TypeId} {v:AV} {c:Value} (h:aw CO (za T t s n k) U v U' R W) (ht:J[0]? =some t)
 (S:aC E D β who U hd a w) (K:kf (β n) k c):
 U'=U/\ab v=[]/\occ v=[]/\ ∃r,(Builtin.len_ J rt #[c]).run P w= .ok r w/\br β who w v r:=by unfold za at h;split at h;{rename_i e ty cells d0;have hu:=(hT t _ d0).desc.1;split at h;{obtain⟨l,U1,_,_,_,_,h1,h2⟩:=kA h;obtain⟨rfl,n',b0,xs,hh,loc,G,rfl⟩:=aw.dpLen h1;obtain⟨rfl,rfl⟩:=kB h2;obtain⟨_,⟨v0,u⟩,_⟩:=S.dpA G;obtain⟨ad,cap,hb⟩:=u.base;obtain⟨O,_⟩:=K;rw[hb]at O;subst O;exact⟨rfl,rfl,rfl,.int .i64 xs.length,by simp[Builtin.len_,ht,run_underlying hu,goInt],rfl⟩};{rename_i l;obtain⟨rfl,rfl⟩:=kB h;rcases K.2 with⟨rfl,rfl⟩|⟨b,o,cap,rfl⟩<;>exact⟨rfl,rfl,rfl,_,by simp[Builtin.len_,ht,run_underlying hu,goInt],rfl⟩};{rename_i i;obtain⟨av,U1,_,_,_,_,h1,h2⟩:=kA h;obtain⟨G,rfl⟩:=kD h1;split at h2;{rename_i m b0 xs hh loc hd;rw[G]at hd;obtain⟨_,⟨v0,u⟩,_⟩:=S.dpA hd;obtain⟨_,U2,_,_,_,_,h3,h4⟩:=kA h2;obtain⟨hm,rfl⟩:=aw.noHole' h3;obtain⟨rfl,rfl⟩:=kB h4;obtain⟨O,_,a0,L0,c0,q1,q2⟩:=K;obtain⟨ad,cap,hb⟩:=u.base;rw[hb]at q1;injection q1 with _ q1 _;subst q1;have hr:=u.row q2 hm;obtain⟨ad,cp,e⟩:=hr.shape;rw[e]at O;subst O;have K:xs.getD i []=xs[i]:=by{simp[List.getD,List.getElem?_eq_getElem q2]};exact⟨rfl,rfl,rfl,.int .i64 xs[i].length,by simp[Builtin.len_,ht,run_underlying hu,goInt],by rw[K];rfl⟩};{exact(kC h2).elim}};{exact(kC h).elim}};{exact(kC h).elim}
def qbb (hT:bL P T) {t s n:Nat} {k:DK} {i v:AV} {c ci:Value} (h:aw CO (ZH T t s n k i) U v U' R W) (S:aC E D β who U hd a w)
 (hx:kf (β n) k c) (hi:br β who w i ci):
 U'=U/\ab v=[]/\(∀m∈occ v,m=n)/\ ∃r,(Instr.indexAt t c ci).run P w= .ok r w/\br β who w v r:=by unfold ZH at h;split at h;{rename_i e l0 cells kk i' i0;have j0:ci= .int kk i':=hi;subst j0;obtain⟨hu,⟨ei,ez,he,K,_⟩⟩:=(hT t _ i0).desc;split at h;{split at h;{rename_i u;obtain⟨l,U1,_,_,_,_,h1,h2⟩:=kA h;obtain⟨rfl,n',e0,xs,hh,loc,b0,rfl⟩:=aw.dpLen h1;obtain⟨_,U2,_,_,_,_,h3,h4⟩:=kA h2;obtain⟨⟨m0,m1⟩,rfl⟩:=kG h3;obtain⟨rfl,rfl⟩:=kB h4;obtain⟨_,⟨v0,G⟩,_⟩:=S.dpA b0;obtain⟨b,o,cap,J⟩:=G.baseP (by grind);obtain⟨hc,_⟩:=hx;rw[J]at hc;subst hc;refine⟨rfl,rfl,λm hm=>by simpa [occ,a9,aK]using hm,_,cK hu he b o xs.length cap kk i' m0 m1 w,b,o,xs.length,cap,J,O,?_⟩;rw[K,u,jF]};{exact(kC h).elim}};{rename_i l;split at h;{rename_i u;obtain⟨_,U2,_,_,_,_,h3,h4⟩:=kA h;obtain⟨⟨m0,m1⟩,rfl⟩:=kG h3;obtain⟨rfl,rfl⟩:=kB h4;obtain⟨hc,h6⟩:=hx;rcases h6 with⟨_,h6⟩|⟨b,o,cap,J⟩;{omega};{have k0:=J;rw[hc]at J;subst k0;refine⟨rfl,rfl,λm hm=>by simpa [occ,a9,aK]using hm,_,cK hu he b o l cap kk i' m0 m1 w,b,o,l,cap,J,O,?_⟩;rw[K,u,jF]}};{exact(kC h).elim}};{rename_i r;obtain⟨av,U1,_,_,_,_,h1,h2⟩:=kA h;obtain⟨b0,rfl⟩:=kD h1;split at h2;{rename_i m e0 xs hh loc hd;rw[b0]at hd;obtain⟨_,⟨v0,G⟩,_⟩:=S.dpA hd;split at h2;{rename_i u;obtain⟨_,U2,_,_,_,_,h3,h4⟩:=kA h2;obtain⟨hm,rfl⟩:=aw.noHole' h3;obtain⟨_,U3,_,_,_,_,h5,h6⟩:=kA h4;obtain⟨⟨m0,m1⟩,rfl⟩:=kG h5;obtain⟨rfl,rfl⟩:=kB h6;obtain⟨hc,_,a0,L0,c0,q1,q2⟩:=hx;obtain⟨ad,cap,J⟩:=G.base;have g0:=q1;rw[J]at q1;injection q1 with _ q1 _;subst q1;have hr:=G.row q2 hm;have h0:xs.getD r []=xs[r]:=by{simp[List.getD,List.getElem?_eq_getElem q2]};rw[h0]at m1;rcases hr with⟨_,hn⟩|⟨bi,oi,d0,k1,k2,k4,k7⟩;{grind};{rw[k1]at hc;subst hc;refine⟨rfl,rfl,λm hm=>by simpa [occ,a9,aK]using hm,_,cK hu he bi oi xs[r].length d0 kk i' m0 m1 w,bi,oi,xs[r].length,d0,k1,O,?_,_,_,_,g0,q2⟩;rw[K,u,zS]}};{exact(kC h2).elim}};{exact(kC h2).elim}};{exact(kC h).elim}};{exact(kC h).elim}
end
section
variable {P:Program} {CO:Q7} {T:TT} {E:ba} {D:Nat->Prop} {β:aU} {who:bp} {U U':ao} {hd:List (AV×Value)} {a:Act} {w w':World} {R W:List Nat}
def gp.one {n:Nat} {t:Ty} {ys:List (aX t)} {v:Value} {b:Nat} (h:gp who w n t ys v b): ∃ad l c,v= .slice ad l c:=by rcases h with⟨rfl,_⟩|⟨_,_,_,_,_,rfl,_⟩<;>exact⟨_,_,_,rfl⟩
def aC.takeDp (S:aC E D β who U [] a w) {idx s n i:Nat} {t:Ty} {xs:List (List (aX t))} (J:U.get s= .dp n t xs none) (hi:i<xs.length)
 (hf: ∀k,k<16-> ¬D (fresh idx k)):
 ∃β' who',aC E (Dn D idx) β' who' (U.set s (.dp n t xs (some i))) [(.sl (.nm (fresh idx 15)) t xs[i],dj (β n) (i+1))] a w:=by
 classical
 obtain⟨h1,b,o,cap,arr,el,e1,e2,e3,e4,e5,e6,e7⟩:=(S.dp J).pos (.inr (Qc hi));obtain⟨f1,f2⟩:=e6 i hi (by simp)
 obtain⟨m,rfl⟩: ∃m,m=fresh idx 15:=⟨_,rfl⟩;have b0: ¬D (fresh idx 15):=hf 15 O;have a0:D n:=S.occ s n (by rw[J];simp[Vs.occ,a9,aK])
 have e0:fresh idx 15≠n:=λe=>b0 (e▸a0)
 let G:Nat->Prop:=λb'=> ∃oi li ci,dj (β n) (i+1)= .slice (some ⟨b',oi,none⟩) li ci
 have hG: ∀b',G b'->who b'=some n/\b'≠b:=by
  rintro b' ⟨oi,li,ci,hg⟩
  rcases f2 with⟨q,_⟩|⟨bi,c0,g0,ar,l,k1,k2,k3,k4,k5,k6,k7⟩
  . rw[q]at hg;cases hg
  . grind
 let β':aU:=λx=>if x=fresh idx 15 then dj (β n) (i+1)else β x
 let who':bp:=λb'=>if G b' then some (fresh idx 15)else who b'
 have hβ: ∀x,D x->β' x=β x:=λx u=>by grind
 have hnone: ∀b',who b'=none->who' b'=none:=λb' hb=>by
  grind
 have hE: ∀(ys:List (aX t)) b o,aT who w t ys b o->aT who' w t ys b o:=λys b o he=>
  he.keep (λb' hb _=>⟨hnone b' hb,rfl⟩) (zI _) rfl
 have K: ∀b',who b'=some n-> ¬G b'->who' b'=some n:=λb' hb g=>by grind
 have hnewdp:bu β' who' w n t xs (some i) (a.tmps.getD s undef):=by
  refine⟨by rw[hβ n a0];exact h1,.inr ⟨b,o,cap,arr,el,e1,e2,e3,e4,K b e5 (λg=>(hG b g).2 rfl),λj hj d0=> ?_,?_⟩⟩
  . rw[hβ n a0];obtain⟨g1,g2⟩:=e6 j hj (by simp)
    refine⟨g1,?_⟩;rcases g2 with g2|⟨bi,oi,ci,ar,l,k1,k2,k3,k4,k5,k6,k7⟩
    . exact .inl g2
    . refine .inr ⟨bi,oi,ci,ar,l,k1,k2,k3,k4,K bi k5 ?_,k6,hE _ _ _ k7⟩
      grind
  . grind
 have hweak:bu β who w n t xs (some i) (a.tmps.getD s undef):=
  ⟨h1,.inr ⟨b,o,cap,arr,el,e1,e2,e3,e4,e5,λj hj _=>e6 j hj (by simp),λj1 j2 ai aj li lj ci cj q1 q2 _ _=>e7 j1 j2 ai aj li lj ci cj q1 q2 (by simp) (by simp)⟩⟩
 have S1:=S.abs (s:=s) (v:= .dp n t xs (some i)) hweak (λx u=>by rw[J];exact u) (by simp[ab,qh,qc])
  (λx u=>S.occ s x (by rw[J];exact u))
 have S2:=S1.shift (β':=β') (who':=who') (w':=w) (X:=[n]) (λh=>S.dfn (by grind)) hβ
  (fun b' x hb u=>⟨by
    simp only[who'];rw[ae];exact hb;intro g;grind,rfl⟩)
  (fun b' hb=>⟨hnone b' hb,rfl⟩) (λb' x h=>by
    grind) rfl (λs' x u hs=>by
    rw[zA]at u;subst u;by_cases e:s'=s
    . subst e;rw[qg];exact hnewdp
    . rw[qf _ _ e]at hs;exact absurd (S.dis s' s x hs (by rw[J];simp[ab,qh,qc])) e) (λz hz=>by cases hz) ⟨rfl,rfl⟩
 have S3:=S2.mono (D':=Dn D idx) (λn h=> .inl h) (dz S2.dfn)
 refine⟨β',who',S3.addN (λx u=> ?_) (by simp[ab,qh,qc]) (λx u y hy s' hs=> ?_) (λx u y hy=> ?_)⟩
 . rw[zA]at u;subst u;refine⟨by simp[β'],?_⟩
   rcases f2 with⟨q1,q2⟩|⟨bi,oi,ci,ar,l,k1,k2,k3,k4,k5,k6,k7⟩
   . exact .inl ⟨q1,q2⟩
   . refine .inr ⟨bi,oi,ci,ar,l,k1,k2,k3,k4,?_,hE _ _ _ k7⟩;simp only[who'];rw[iP ⟨_,_,_,k1⟩]
 . rw[zA]at u;subst u;simp only[ab,qh,qc,zA]at hy;subst hy;exact b0 (S1.occ s' _ (qi hs))
 . rw[zA]at u;subst u;simp only[Vs.occ,a9,aK,zA]at hy;subst hy;exact .inr ⟨15,O,rfl⟩
def qfi (hT:bL P T) {idx mode t s n:Nat} {k:DK} {v:AV} {c:Value} (h:aw CO (YB T idx mode t s n k) U v U' R W) (S:aC E D β who U [] a w)
 (hx:kf (β n) k c) (hD:D n) (hf: ∀k,k<16-> ¬D (fresh idx k)):
 ∃r β' who',(Instr.loadAt t c).run P w= .ok r w/\aC E (Dn D idx) β' who' U' [(v,r)] a w:=by have grow: ∀{v r},aC E D β who U' [(v,r)] a w->aC E (Dn D idx) β who U' [(v,r)] a w:=λS=>S.mono (λn h=> .inl h) (dz S.dfn);unfold YB at h;split at h;{exact(kC h).elim};{rename_i ti d0;have e0:=hT t _ d0;split at h;{rename_i i;obtain⟨b,o,L,cap,hb,hi,rfl⟩:=hx;split at h;{rename_i e et c0;have O: ∀{ty:Ty} {xs:List (List (aX ty))} {hh:Option Nat} {v0:Value},bu β who w n ty xs hh v0->hh≠some i-> i<xs.length/\(Instr.loadAt t (.pointer (some ⟨b,o+i,none⟩))).run P w= .ok (dj (β n) (i+1)) w:=by{intro ty xs hh v0 u j0;obtain⟨h1,b',o',s0,arr,el,e1,e2,e3,e4,e5,e6,e7⟩:=u.pos (.inl (by rw[u.1,hb];simp));rw[h1,hb]at e1;injection e1 with G q2 q3;injection G with G;injection G with G b0 _;subst G b0 q2;have:=Xx e0 (b:=b) (o:=o+i) (f:=λ_=>dj (β n) (i+1)) w (λj hj=>by{have k0:j=0:=by{simp at hj;exact hj};subst k0;exact(e6 i hi j0).1}) (λ_=>rfl);exact⟨hi,by simpa [Q9]using this⟩};split at h;{obtain⟨av,U1,_,_,_,_,h1,h2⟩:=kA h;obtain⟨J,rfl⟩:=kD h1;split at h2;{rename_i n' ty xs loc hd;rw[J]at hd;obtain⟨rfl,⟨v0,u⟩,_⟩:=S.dpA hd;split at h2;{rename_i g0;obtain⟨_,U2,_,_,_,_,h3,h4⟩:=kA h2;obtain⟨v',hk,rfl⟩:=kI h3;obtain⟨rfl,rfl⟩:=kB h4;obtain⟨d',l0,rfl⟩:=q7v hd hk;cases l0;obtain⟨K,hr⟩:=O u (by simp);obtain⟨E',a',g,U1,S1,hg,m0⟩:=S.openDp hd;obtain⟨β',who',S'⟩:=S1.takeDp (idx:=idx) hg K hf;have hx:xs.getD i []=xs[i]:=by{simp[List.getD,List.getElem?_eq_getElem K]};rw[hx];exact⟨_,β',who',hr,m0 _ _ _ _ _ _ _ _ _ (λ_ _=>rfl) S'⟩};{exact(kC h2).elim}};{exact(kC h2).elim}};{obtain⟨av,U1,_,_,_,_,h1,h2⟩:=kA h;obtain⟨J,rfl⟩:=kD h1;split at h2;{rename_i n' ty xs hh loc hd;rw[J]at hd;obtain⟨rfl,⟨v0,u⟩,_⟩:=S.dpA hd;obtain⟨_,U2,_,_,_,_,h3,h4⟩:=kA h2;obtain⟨hm,rfl⟩:=aw.noHole' h3;obtain⟨rfl,rfl⟩:=kB h4;obtain⟨K,hr⟩:=O u hm;refine⟨_,β,who,hr,grow (S.take0 (v:= .dr s n' (.row i)) (c:=dj (β n') (i+1)) ⟨rfl,?_,_,_,_,hb,hi⟩ rfl (λx hx=>by{simp only[Vs.occ,a9,aK,zA]at hx;subst hx;exact hD}))⟩;obtain⟨ad,cp,e⟩:=(u.row K hm).shape;exact⟨_,_,_,e⟩};{exact(kC h2).elim}}};{exact(kC h).elim}};{rename_i sz i j c0;obtain⟨av,U1,_,_,_,_,h1,h2⟩:=kA h;obtain⟨J,rfl⟩:=kD h1;split at h2;{rename_i n' ty xs hh loc hd;rw[J]at hd;obtain⟨rfl,⟨v0,u⟩,_⟩:=S.dpA hd;split at h2;{rename_i g0;subst g0;obtain⟨_,U2,_,_,_,_,h3,h4⟩:=kA h2;obtain⟨hm,rfl⟩:=aw.noHole' h3;obtain⟨hp,rfl⟩:=aw.mopt' h4;obtain⟨b,o,L,cap,hb,hj,rfl,a0,L0,t0,h0,hi⟩:=hx;obtain⟨u0,r0,q0⟩:=u.base;rw[q0]at h0;injection h0 with _ G _;subst G;have hr:=u.row hi hm;have i0:xs.getD i []=xs[i]:=by{simp[List.getD,List.getElem?_eq_getElem hi]};rw[i0]at hp;rcases hr with⟨k1,_⟩|⟨bi,oi,ci,k1,k2,k4,k7⟩;{rw[k1]at hb;cases hb};{rw[k1]at hb;injection hb with G q2 q3;injection G with G;injection G with G b0 _;subst G b0 q2;obtain⟨r,g1,g2,g3,g4⟩:=q6p (β:=β) e0 k7 hj hp;exact⟨r,β,who,g1,grow (S.take0 g2 g3 (λn hn=>by rw[g4]at hn;cases hn))⟩}};{exact(kC h2).elim}};{exact(kC h2).elim}};{exact(kC h).elim}}
def aC.fillDp {idx s n k i:Nat} {t:Ty} {xs:List (List (aX t))} {ys:List (aX t)} {hh:Option Nat} {G:Value} (S:aC E D β who U [(.sl (.nm k) t ys,G)] a w)
 (b0:U.get s= .dp n t xs hh) (hi:i<xs.length) (x0:hh=none\/hh=some i) (hf: ∀k,k<16-> ¬D (fresh idx k)):
 ∃b o L cap arr el,dj (β n) 0= .slice (some ⟨b,o,none⟩) L cap/\w.heap[b]? =some (.cells arr el (0,0))/\o+i+1<=arr.size/\who b=some n/\
 ∃β' who',aC E (Dn D idx) β' who' (U.set s (.dp (fresh idx 15) t (xs.set i ys) none)) [] a (w.setRow b (qj arr (o+i) [G])):=by
 classical
 obtain⟨h1,b,o,cap,arr,el,e1,e2,e3,e4,e5,e6,e7⟩:=(S.dp b0).pos (.inr (Qc hi));have m0: ¬D (fresh idx 15):=hf 15 O;have u0:D n:=S.occ s n (by rw[b0];simp[Vs.occ,a9,aK])
 have v0:D k:=S.hocc _ mS k (by simp[Vs.occ,a9,aK])
 have q0:k≠n:=by
  rintro rfl
  exact S.hdis _ mS k (by simp[ab,qh,qc]) s (by rw[b0];simp[ab,qh,qc])
 have g0:cE β who w k t ys G:=S.hrel _ mS;refine⟨b,o,xs.length,cap,arr,el,by rw[<-h1];exact e1,e2,O,e5,?_⟩
 let base:Value:= .tuple ((dj (β n) 0::(List.range xs.length).map λj=>if j=i then G else dj (β n) (j+1)).toArray)
 have t0:dj base 0=dj (β n) 0:=rfl
 have s0: ∀j,j<xs.length->dj base (j+1)=if j=i then G else dj (β n) (j+1):=by
  intro j hj;simp[base,dj,Array.getD,hj]
 let β':aU:=λx=>if x=fresh idx 15 then base else β x
 let who':bp:=λb'=>if who b'=some n\/who b'=some k then some (fresh idx 15)else who b'
 obtain⟨w',a0⟩: ∃w',w'=w.setRow b (qj arr (o+i) [G]):=⟨_,rfl⟩;rw[<-a0];have c0:o+i+[G].length<=arr.size:=by simp;omega
 have hheapb:w'.heap[b]? =some (.cells (qj arr (o+i) [G]) el (0,0)):=by rw[a0];exact setRow_heap w b arr _ el _ e2
 have J: ∀b',b'≠b->w'.heap[b']? =w.heap[b']? :=λb' hb=>by rw[a0];exact setRow_other w b b' _ hb
 have hβ: ∀x,D x->β' x=β x:=λx K=>by grind
 have hβm:β' (fresh idx 15)=base:=by simp[β']
 have hnone: ∀b',who b'=none->who' b'=none/\w'.heap[b']? =w.heap[b']? :=λb' hb=>by
  grind
 have k0:w'.heap.size=w.heap.size:=by rw[a0];simp
 have hE: ∀(ys:List (aX t)) b' o,b'≠b->aT who w t ys b' o->aT who' w' t ys b' o:=λys b' o hb he=>
  he.keep (λb' hb _=>hnone b' hb) O (J b' hb)
 have e0: ∀b',who b'=some n->who' b'=some (fresh idx 15):=λb' hb=>by grind
 have j0: ∀b',who b'=some k->who' b'=some (fresh idx 15):=λb' hb=>by grind
 have l0: ∀j,j≠i->hh≠some j:=λj hj e=>by
  grind
 have hcell: ∀j,az w' b o j=if j=i then some G else az w b o j:=by
  intro j;have c1:w'.cell? ⟨b,o+j,none⟩=(qj arr (o+i) [G])[o+j]? :=by simp[World.cell?,hheapb]
  have c2:w.cell? ⟨b,o+j,none⟩=arr[o+j]? :=by simp[World.cell?,e2]
  simp only[az,c1,c2];rw[Ql c0];by_cases e:j=i
  . subst e;simp
  . grind
 have w0: ∀j ad l c,j<xs.length->hh≠some j->dj (β n) (j+1)= .slice (some ad) l c->who ad.block=some n:=by
  intro j ad l c hj r0 e;rcases(e6 j hj r0).2 with⟨q,_⟩|⟨bi,oi,ci,ar,l',k1,k2,k3,k4,k5,k6,k7⟩
  . rw[q]at e;cases e
  . grind
 have hblkv: ∀ad l c,G= .slice (some ad) l c->who ad.block=some k:=by
  intro ad l c e;rcases g0.2 with⟨q,_⟩|⟨bi,oi,ci,ar,l',k1,k2,k3,k4,k5,k6⟩
  . rw[q]at e;cases e
  . grind
 have h0:bu β' who' w' (fresh idx 15) t (xs.set i ys) none (a.tmps.getD s undef):=by
  refine⟨by rw[hβm,t0];exact h1,.inr ⟨b,o,cap,qj arr (o+i) [G],el,by grind,hheapb,by rw[Qm c0];exact e3,by grind,e0 b e5,
   λj hj _=> ?_,?_⟩⟩
  . have i0:j<xs.length:=by simpa using hj
    rw[hβm,s0 j i0,hcell];by_cases e:j=i
    . subst e;rw[iP rfl,iP rfl];refine⟨rfl,?_⟩;rw[K4];rcases g0.2 with⟨q1,q2⟩|⟨bi,oi,ci,ar,l',k1,k2,k3,k4,k5,k6⟩
      . exact .inl ⟨q1,q2⟩
      . have d0:bi≠b:=by rintro rfl;rw[e5]at k5;injection k5 with k5;exact q0 k5.symm
        exact .inr ⟨bi,oi,ci,ar,l',k1,by rw[J bi d0];exact k2,k3,k4,j0 bi k5,d0,hE _ _ _ d0 k6⟩
    . rw[ae e,ae e,K0 (λh=>e h.symm)]
      obtain⟨g1,g2⟩:=e6 j i0 (l0 j e);refine⟨g1,?_⟩;rcases g2 with g2|⟨bi,oi,ci,ar,l',k1,k2,k3,k4,k5,k6,k7⟩
      . exact .inl g2
      . exact .inr ⟨bi,oi,ci,ar,l',k1,by rw[J bi k6];exact k2,k3,k4,e0 bi k5,k6,hE _ _ _ k6 k7⟩
  . grind
 have S0:=S.drop rfl;have S1:=(S0.takeAll s).drop rfl
 have hdead: ∀x u,x∈ab ((U.set s .dead).get u)->u≠s/\x∈ab (U.get u):=λx u h=>by
  by_cases e:u=s
  . subst e;rw[qg]at h;simp[ab,qh,qc]at h
  . rw[qf _ _ e]at h;exact⟨e,h⟩
 have S2:=S1.shift (β':=β') (who':=who') (w':=w') (X:=[n,k]) (λh=>by
  simp only[zu,oG,or_false]at h;rcases h with h|h
  . exact S.dfn (by rw[h];exact u0)
  . exact S.dfn (by rw[h];exact v0)) hβ
  (fun b' x hb K=>by
    grind)
  hnone (λb' x h=>by
   grind) k0 (λu x K hs=>by
   obtain⟨g1,g2⟩:=hdead x u hs;simp only[zu,oG,or_false]at K;rcases K with rfl|rfl
   . exact absurd (S.dis u s x g2 (by rw[b0];simp[ab,qh,qc])) g1
   . exact absurd g2 (S.hdis _ mS x (by simp[ab,qh,qc]) u)) (λz hz=>by cases hz) (by simp_all)
 have S3:=S2.mono (D':=Dn D idx) (λn h=> .inl h) (dz S2.dfn)
 have S4:=S3.recast (s:=s) (v:= .dp (fresh idx 15) t (xs.set i ys) none) (qg ..) h0 (by simp[ab,qh,qc])
  (fun x K u hs=>by
    simp only[ab,qh,qc,zA]at K;subst K;exact m0 (S1.occ u _ (qi hs)))
  (fun x K=>by
    simp only[Vs.occ,a9,aK,zA]at K;subst K;exact .inr ⟨15,O,rfl⟩)
 refine⟨β',who',S4.ext λu=> ?_⟩
 by_cases e:u=s
 . subst e;rw[qg,qg]
 . rw[qf _ _ e,qf _ _ e,qf _ _ e]
end
section
variable {P:Program} {CO:Q7} {T:TT} {E:ba} {D:Nat->Prop} {β:aU} {who:bp} {U U':ao} {hd:List (AV×Value)} {a:Act} {w w':World} {R W:List Nat}
def aC.setDp {s n i j c:Nat} {t:Ty} {xs:List (List (aX t))} {hh:Option Nat} {v:AV} {cv:Value} {x':aX t} (S:aC E D β who U [(v,cv)] a w)
 (g0:U.get s= .dp n t xs hh) (hi:i<xs.length) (j0:hh≠some i) (hj:j<xs[i].length) (d0:(cellsOf v).all cr=true)
 (hs:Z8 t (xs[i].getD j t.zero) c (cellsOf v)=some x'):
 ∃b o L cap arr el,dj (β n) (i+1)= .slice (some ⟨b,o,none⟩) L cap/\w.heap[b]? =some (.cells arr el (0,0))/\o+j*t.size+c+cv.cells.toList.length<=arr.size/\who b=some n/\
 aC E D β who (U.set s (.dp n t (xs.set i (xs[i].set j x')) hh)) [] a (w.setRow b (qj arr (o+j*t.size+c) cv.cells.toList)):=by obtain⟨h1,b0,o0,q0,r0,z0,e1,e2,e3,e4,e5,e6,e7⟩:=(S.dp g0).pos (.inr (Qc hi));have m0:D n:=S.occ s n (by rw[g0];simp[Vs.occ,a9,aK]);have hv:br β who w v cv:=S.hrel _ mS;obtain⟨q1,q2,q3,q4⟩:=Yj hv d0;have u0:cv.cells.toList.length=(cellsOf v).length:=by{rw[xf,q1.1]};rcases(e6 i hi j0).2 with⟨_,hn⟩|⟨bi,oi,ci,ar,l,k1,k2,k3,k4,k5,k6,k7⟩;{rw[hn]at hj;simp at hj};{have f1:c+(cellsOf v).length<=t.size:=by{unfold Z8 at hs;split at hs;{assumption};{cases hs}};have b1:xs[i].length*t.size<=ci*t.size:=zO _ k4;have x0:(j+1)*t.size<=xs[i].length*t.size:=zO _ O;rw[gr]at x0;have c0:oi+j*t.size+c+cv.cells.toList.length<=ar.size:=O;refine⟨bi,oi,xs[i].length,ci,ar,l,k1,k2,c0,k5,?_⟩;obtain⟨w',J⟩: ∃w',w'=w.setRow bi (qj ar (oi+j*t.size+c) cv.cells.toList):=⟨_,rfl⟩;have G: ∀b',b'≠bi->w'.heap[b']? =w.heap[b']? :=λb' K=>by{rw[J];exact setRow_other w bi b' _ K};have hnone: ∀b',who b'=none->who b'=none/\w'.heap[b']? =w.heap[b']? :=λb' K=>⟨K,G b' (by grind)⟩;have t0:w'.heap.size=w.heap.size:=by{rw[J];simp};have hE: ∀(ys:List (aX t)) b' o,b'≠bi->aT who w t ys b' o->aT who w' t ys b' o:=λys b' o K he=> he.keep (λb' K _=>hnone b' K) O (G b' K);have k0: ∀j' ad l c,j'<xs.length->hh≠some j'->j'≠i->dj (β n) (j'+1)= .slice (some ad) l c->ad.block≠bi:=by{intro j' ad l c e0 w0 a0 e eb;exact a0 (e7 j' i _ _ _ _ _ _ e0 hi w0 j0 e k1 eb)};have h0:bu β who w' n t (xs.set i (xs[i].set j x')) hh (a.tmps.getD s undef):=by{refine⟨h1,.inr ⟨b0,o0,q0,r0,z0,by grind,by grind,e3,by grind,e5,λj' e0 a0=> ?_,?_⟩⟩;{have i0:j'<xs.length:=by{simpa using e0};obtain⟨g1,g2⟩:=e6 j' i0 a0;refine⟨by rw[Ok (G b0 (λe=>k6 e.symm))];exact g1,?_⟩;by_cases e:j'=i;{subst e;rw[K4];refine .inr ⟨bi,oi,ci,qj ar (oi+j*t.size+c) cv.cells.toList,l,by grind,by rw[J];exact setRow_heap w bi ar _ l _ k2,by rw[Qm c0];exact k3,by grind,k5,k6,?_⟩;rw[J];refine aT.store (who:=who) (w:=w) (β:=β) k2 k7 hj u0 O hs ?_ (λb' K=>by grind);intro k hk;rw[<-J];have s0:br β who w' v cv:=hv.keep ⟨λx hx=>absurd hx (by rw[q3];simp),λx hx=>absurd hx (by rw[q2];simp),λb' K _=>hnone b' K,O⟩;obtain⟨p1,p2,p3,p4⟩:=Yj s0 d0;have:=p1.2 k hk;have v0:cr (cellsOf v)[k]=true:=zq.1 d0 _ (zW hk);have e9:cv.cells.toList.getD k undef=cv.cells.getD k undef:=by{simp[List.getD_eq_getElem?_getD,Array.getD_eq_getD_getElem?]};rw[e9];exact V6 v0 this};{rw[K0 (λh=>e h.symm)];rcases g2 with g2|⟨b2,o2,c2,a1,l2,m1,m2,m3,m4,m5,m6,m7⟩;{exact .inl g2};{have l0:b2≠bi:=k0 j' _ _ _ i0 a0 e m1;exact .inr ⟨b2,o2,c2,a1,l2,m1,by rw[G b2 l0];exact m2,m3,m4,m5,m6,hE _ _ _ l0 m7⟩}}};{grind}};rw[<-J];have S0:=S.drop rfl;have S1:=(S0.takeAll s).drop rfl;have hdead: ∀x u,x∈ab ((U.set s .dead).get u)->u≠s/\x∈ab (U.get u):=λx u h=>by{by_cases e:u=s;{subst e;rw[qg]at h;simp[ab,qh,qc]at h};{rw[qf _ _ e]at h;exact⟨e,h⟩}};have d1: ∀u,n∉ab ((U.set s .dead).get u):=λu hs=>by{obtain⟨g1,g2⟩:=hdead n u hs;exact g1 (S.dis u s n g2 (by rw[g0];simp[ab,qh,qc]))};have S2:=S1.shift (β':=β) (who':=who) (w':=w') (X:=[n]) (λh=>by{simp only[zu,oG,or_false]at h;exact S.dfn (by rw[h];exact m0)}) (λ_ _=>rfl) (fun b' x K hx=>by{grind}) hnone (λb' x h=>⟨x,h⟩) t0 (λu x hx hs=>by{grind}) (λz hz=>by cases hz) (by simp_all);have S4:=S2.recast (s:=s) (v:= .dp n t (xs.set i (xs[i].set j x')) hh) (qg ..) h0 (by simp[ab,qh,qc]) (fun x hx u hs=>by{simp only[ab,qh,qc,zA]at hx;grind}) (fun x hx=>by{simp only[Vs.occ,a9,aK,zA]at hx;subst hx;exact m0});refine S4.ext λu=> ?_;by_cases e:u=s;{subst e;rw[qg,qg]};{rw[qf _ _ e,qf _ _ e,qf _ _ e]}}
def q3y (hT:bL P T) {idx t s n:Nat} {k:DK} {v:AV} {cp cv:Value} {u:Unit} (h:aw CO (Vv T idx t s n k v) U u U' R W) (S:aC E D β who U [(v,cv)] a w)
 (hx:kf (β n) k cp) (hf: ∀k,k<16-> ¬D (fresh idx k)):
 ∃w' β' who',(Instr.storeAt t cp cv).run P w= .ok () w'/\aC E (Dn D idx) β' who' U' [] a w':=by unfold Vv at h;split at h;{exact(kC h).elim};{rename_i ti j0;have k0:=hT t _ j0;split at h;{rename_i i;split at h;{rename_i desc c0 k ty ys;obtain⟨av,U1,_,_,_,_,h1,h2⟩:=kA h;obtain⟨h0,rfl⟩:=kD h1;split at h2;{rename_i n' t0 xs hh loc hd;rw[h0]at hd;obtain⟨rfl,⟨v0,b0⟩,_⟩:=S.dpA hd;split at h2;{rename_i e';subst e';obtain⟨_,U2,_,_,_,_,h3,h4⟩:=kA h2;obtain⟨hm,rfl⟩:=aw.holeAsk' h3;obtain⟨v',hk,rfl⟩:=kI h4;obtain⟨d',m0,rfl⟩:=q7v hd hk;simp only[vP,dif_pos,zf]at m0;subst m0;obtain⟨b,o,L,cap,hb,hi,rfl⟩:=hx;obtain⟨e1,r0,J⟩:=b0.base;have a1:i<xs.length:=by{rw[J]at hb;injection hb with _ q _;omega};obtain⟨E',a',g,U1,S1,hg,g0⟩:=S.openDp hd;obtain⟨b',o',L',s0,arr,el,G,g2,g3,g4,β',who',S'⟩:=S1.fillDp (idx:=idx) hg a1 hm hf;rw[hb]at G;injection G with G _ _;injection G with G;injection G with G i0 _;subst G i0;have e0:cv.oneCell'=true:=J7 (β:=β) (who:=who) (w:=w) (c:= .sl (.nm k) t0 ys) (S.hrel _ mS) (by simp);have d1:cv.cells.toList=[cv]:=by{rw[Yt e0]};have d0:cv.cells.size=1:=by{rw[Yt e0];rfl};have K:=Za k0 (c:=cv) (o:=o+i) g2 (by rw[d0];rfl) (by rw[d0];exact g3) (by grind);rw[d1]at K;exact⟨_,β',who',K,g0 _ _ _ _ _ _ _ _ _ (λb1 J=>setRow_other w b b1 _ (by rintro rfl;exact J g4)) S'⟩};{exact(kC h2).elim}};{exact(kC h2).elim}};{exact(kC h).elim}};{rename_i sz i j c;split at h;{rename_i hc;obtain⟨hlen,l0⟩:=hc;obtain⟨av,U1,_,_,_,_,h1,h2⟩:=kA h;obtain⟨h0,rfl⟩:=kD h1;split at h2;{rename_i n' ty xs hh loc hd;rw[h0]at hd;obtain⟨rfl,⟨v0,b0⟩,_⟩:=S.dpA hd;split at h2;{rename_i w0;subst w0;obtain⟨_,U2,_,_,_,_,h3,h4⟩:=kA h2;obtain⟨hm,rfl⟩:=aw.noHole' h3;obtain⟨v',x0,rfl⟩:=kI h4;obtain⟨d',hk,rfl⟩:=q7v hd x0;obtain⟨b,o,L,cap,hb,hj,rfl,a0,L0,f1,q0,hi⟩:=hx;obtain⟨e1,r0,J⟩:=b0.base;rw[J]at q0;injection q0 with _ q1 _;subst q1;have u0:xs.getD i []=xs[i]:=by{simp[List.getD,List.getElem?_eq_getElem hi]};have z0:j<xs[i].length:=by{obtain⟨ad,cp,e⟩:=(b0.row hi hm).shape;rw[e]at hb;injection hb with _ q _;omega};simp only[Vs.setDp,u0]at hk;split at hk;{rename_i x' hs;injection hk with hk;subst hk;obtain⟨E',a',g,U1,S1,hg,g0⟩:=S.openDp hd;obtain⟨b',o',L',s0,arr,el,G,g2,g3,g4,S'⟩:=S1.setDp hg hi hm z0 l0 hs;rw[hb]at G;injection G with G _ _;injection G with G;injection G with G i0 _;subst G i0;obtain⟨q1,q2,q3,q4⟩:=Yj (S.hrel _ mS) l0;have K:=Za k0 (c:=cv) (o:=o+j*ty.size+c) g2 (by rw[q1.1,hlen]) O q4;have S2:=g0 _ _ _ _ _ _ _ _ _ (λb1 J=>setRow_other w b b1 _ (by rintro rfl;exact J g4)) S';exact⟨_,β,who,K,S2.mono (λn h=> .inl h) (dz S2.dfn)⟩};{cases hk}};{exact(kC h2).elim}};{exact(kC h2).elim}};{exact(kC h).elim}};{exact(kC h).elim}}
end
section
variable {P:Program} {CO:Q7} {T:TT} {E:ba} {D:Nat->Prop} {β:aU} {who:bp} {U U':ao} {hd:List (AV×Value)} {a:Act} {w w':World} {R W:List Nat}
def aC.mergeHand (S:aC E D β who U hd a w) {idx:Nat} {v:AV} {c base:Value} (hf: ∀k,k<16-> ¬D (fresh idx k)) (hnm:ab v=[fresh idx 15]) (hoc:Vs.occ v=[fresh idx 15])
 (hsame: ∀b x,who b=some x->(∀z∈hd,x∉ab z.1)->w'.heap[b]? =w.heap[b]?) (hnone: ∀b,who b=none->b<w.heap.size->w'.heap[b]? =w.heap[b]?)
 (hsz:w.heap.size<=w'.heap.size) (h4:w'.os=w.os/\w'.output=w.output)
 (hr: ∀β' who',β' (fresh idx 15)=base->(∀b x,who b=some x->(∃z∈hd,x∈ab z.1)->who' b=some (fresh idx 15))->
   (∀b,w.heap.size<=b->b<w'.heap.size->who' b=some (fresh idx 15))->(∀b,who b=none->b<w.heap.size->who' b=none)->br β' who' w' v c):
 ∃β' who',aC E (Dn D idx) β' who' U [(v,c)] a w':=by
 classical
 have hfD: ¬D (fresh idx 15):=hf 15 O
 let β':aU:=λx=>if x=fresh idx 15 then base else β x
 let who':bp:=λb=>if(w.heap.size<=b/\b<w'.heap.size)\/(∃x,who b=some x/\ ∃z∈hd,x∈ab z.1)then some (fresh idx 15)else who b
 have hβ: ∀x,D x->β' x=β x:=λx hx=>by grind
 have w1: ∀b x,who b=some x->(∀z∈hd,x∉ab z.1)->who' b=some x:=λb x hb hx=>by
  grind
 have w2: ∀b,who b=none->b<w.heap.size->who' b=none:=λb hb hlt=>by
  grind
 have hFN: ∀z∈hd,FN∉ab z.1:=λz hz h=>S.dfn (S.hocc z hz FN (qi h))
 have S0:aC E D β who U [] a w:={S with
  hrel:=λz hz=>(oG hz).elim
  hnod:=yk
  hdis:=λz hz=>(oG hz).elim
  hocc:=λz hz=>(oG hz).elim}
 have S1:aC E D β' who' U [] a w':=by
  refine S0.world (h98:=hβ 98 S.d98) (λs=>(S.rel s).keep ⟨λx hx=>hβ x (S.occ s x hx),λx hx b hb=> ?_,λb hb hlt=>⟨w2 b hb hlt,hnone b hb hlt⟩,hsz⟩) (λz hz=>(oG hz).elim) (λb x h=> ?_) hsz (λb hb h0=> ?_) (λb x h=> ?_) (λb hb=>w1 b FN (S.fr3 b hb) hFN) h4
  . have hx': ∀z∈hd,x∉ab z.1:=λz hz h=>S.hdis z hz x h s hx
    grind
  . simp only[who']at h;split at h
    . rename_i g;rcases g with g|⟨y,hy,_⟩
      . exact g.2
      . have:=S.wsz b y hy;omega
    . have:=S.wsz b x h;omega
  . cases hb':who b with
    |none=>exact hnone b hb' (x5 hb S.fr2)
    |some x=>
     rcases h0 with h0|h0
     . rcases S.fr1 b x hb' with h|h
       . exact absurd h0 h
       . omega
     . have:=S.fr3 b h0;exact hsame b FN this hFN
  . simp only[who']at h;split at h
    . rename_i g;rcases g with g|⟨y,hy,_⟩
      . exact .inr (zQ S.fr2 g.1)
      . exact S.fr1 b y hy
    . exact S.fr1 b x h
 have S2:aC E (Dn D idx) β' who' U [] a w':=S1.mono (λn h=> .inl h) (dz S.dfn)
 refine⟨β',who',S2.addN (λz hz=> ?_) ?_ (λz hz n hn s hs=> ?_) (λz hz n hn=> ?_)⟩
 . grind
 . simp[hnm]
 . rw[zA]at hz;subst hz;rw[hnm,zA]at hn;subst hn;exact hfD (S.occ s _ (qi hs))
 . rw[zA]at hz;subst hz;rw[hoc,zA]at hn;subst hn;exact .inr ⟨15,O,rfl⟩
def ZY {v:Value} {hs:List Value} {i:Nat} (u:i<hs.length):dj (.tuple (v::hs).toArray) (i+1)=hs[i]:=by simp[dj,Array.getD,u]
def bu.mk' {n:Nat} {t:Ty} {zs:List (List (aX t))} {hs:List Value} (hlen:hs.length=zs.length) {v:Value} (hβ:β n= .tuple (v::hs).toArray) {b o cap:Nat} {arr:Array Value} {el:TypeId}
 (hv:v= .slice (some ⟨b,o,none⟩) zs.length cap) (hh:w.heap[b]? =some (.cells arr el (0,0))) (h1:o+cap<=arr.size) (h2:zs.length<=cap) (h3:who b=some n)
 (hc: ∀i (J:i<hs.length),az w b o i=some hs[i]) (a0: ∀i (J:i<zs.length) (u:i<hs.length),gp who w n t zs[i] hs[i] b)
 (hd: ∀i j (J:i<hs.length) (hj:j<hs.length) ai K li lj ci cj,hs[i]= .slice (some ai) li ci->hs[j]= .slice (some K) lj cj->ai.block=K.block->i=j):bu β who w n t zs none v:=by refine⟨by rw[hβ];rfl,.inr ⟨b,o,cap,arr,el,hv,hh,h1,h2,h3,λi J _=> ?_,?_⟩⟩;{have u:i<hs.length:=O;rw[hβ,ZY u];grind};{intro i j ai K li lj ci cj q1 q2 _ _ q5 q6 q7;have u:i<hs.length:=O;have G:j<hs.length:=O;rw[hβ,ZY u]at q5;rw[hβ,ZY G]at q6;grind}
def heads (v:Value) (n:Nat):List Value:=(List.range n).map λi=>dj v (i+1)
def Zo {v:Value} {n:Nat}:(heads v n).length=n:=by simp[heads]
def qd4 {v:Value} {n i:Nat} (u:i<(heads v n).length):(heads v n)[i]=dj v (i+1):=by simp[heads]
def bu.news {n:Nat} {t:Ty} {xs:List (List (aX t))} {v:Value} (h:bu β who w n t xs none v):
 (∀x∈heads (β n) xs.length,x.oneCell'=true)/\(∀u:World,u.heap=w.heap->(Builtin.firstCells 1 xs.length v).run P u= .ok (heads (β n) xs.length).toArray u)/\(∃ad cap,v= .slice ad xs.length cap):=by obtain⟨h1,h2⟩:=h;rcases h2 with⟨rfl,rfl⟩|⟨b,o,cap,arr,el,rfl,e2,e3,e4,e5,K,e7⟩;{exact⟨λx G=>by simp[heads]at G,λu _=>by simp[Builtin.firstCells,heads],none,0,rfl⟩};{refine⟨λx G=> ?_,λu J=> ?_,_,cap,rfl⟩;{unfold heads at G;obtain⟨i,hi,rfl⟩:=zk.1 G;obtain⟨ad,l,c,e⟩:=(K i (vH.1 hi) (by simp)).2.one;rw[e];rfl};{simp only[Builtin.firstCells];rw[run_loadCells (P:=P) u ⟨b,o,none⟩ (xs.length*1) (λj=>dj (β n) (j+1)) (λj O=> ?_)];{simp[heads]};{have:=(K j (by simpa using O) (by simp)).1;rw[bN];simp only[az,World.cell?]at this⊢;rw[J];exact this}}}
def aC.newNilDp {m:Nat} {v0:AV} {t:Ty} {c0:Value} {D':Nat->Prop} (S:aC E D β who U ((v0,c0)::hd) a w) (hm: ¬D m) (hD: ∀x,D x->D' x) (hDm:D' m) (hDF: ¬D' FN):
 ∃β',aC E D' β' who U ((.dp m t [] none,dO)::hd) a w:=by
 let β':aU:=λx=>if x=m then .tuple #[dO]else β x
 have hb: ∀x,D x->β' x=β x:=λx hx=>by grind
 have S0:=((S.drop rfl).keep (β':=β') (who':=who) (w':=w) hb (λ_ _ h=>h) (λ_ _=>rfl) (λ_ h _=>h) S.wsz (zI _)).mono hD hDF
 refine⟨β',?_⟩
 exact{S0 with
  hrel:=λy hy=>by
   rcases mC hy with rfl|hy
   . exact⟨by simp[β',dj],.inl ⟨rfl,rfl⟩⟩
   . exact S0.hrel y hy
  hnod:=by
   simp only[fC,ab,qh,qc,yh,oF];refine⟨λh=> ?_,S0.hnod⟩
   obtain⟨x,hx,hn⟩:=zL.1 h;exact hm (S.hocc x (mT hx) m (qi hn))
  hdis:=λy hy=>by
   rcases mC hy with rfl|hy
   . intro x hx s hs;simp only[ab,qh,qc,zA]at hx;subst hx;exact hm (S.occ s x (qi hs))
   . exact S0.hdis y hy
  hocc:=λy hy=>by
   rcases mC hy with rfl|hy
   . intro x hx;simp only[Vs.occ,a9,aK,zA]at hx;subst hx;exact hDm
   . exact S0.hocc y hy}
def qbh (hT:bL P T) {idx:Nat} {r0:Array TypeId} {rt t0 t1 e e1:TypeId} {et d2:Ty} {cells cells1:List ZC} {n m:Nat} {t:Ty} {xs ys:List (List (aX t))} {cx cy:Value}
 (h0:r0[0]? =some t0) (h1:r0[1]? =some t1) (v1:T.at t0=some {desc:= .slice e et,cells:=cells}) (u1:T.at t1=some {desc:= .slice e1 d2,cells:=cells1})
 (j1:et.size=1) (S:aC E D β who U [(.dp m t ys none,cy),(.dp n t xs none,cx)] a w) (m1:0<ys.length) (hlen:xs.length+ys.length<=1073741824) (hf: ∀k,k<16-> ¬D (fresh idx k)):
 ∃r w' β' who',(Builtin.append_ r0 rt #[cx,cy]).run P w= .ok r w'/\aC E (Dn D idx) β' who' U [(.dp (fresh idx 15) t (xs++ys) none,r)] a w':=by obtain⟨f1,⟨ei,ez,he,z1,hbytes,_,hz,s1⟩⟩:=(hT t0 _ v1).desc;obtain⟨d1,_⟩:=(hT t1 _ u1).desc;have c0:ei.size=1:=by{rw[z1,j1]};have hX:bu β who w n t xs none cx:=S.hrel _ (mT mS);have hY:bu β who w m t ys none cy:=S.hrel _ mS;have j2:m≠n:=by{have:=S.hnod;simp only[fC,Cs,ab,qh,qc,mz,yh,oF,zA]at this;exact this.1};obtain⟨n2,n3,v0,i0,rfl⟩:=hY.news (P:=P);obtain⟨o2,o3,w0,u,rfl⟩:=hX.news (P:=P);obtain⟨hs,j0⟩: ∃hs,hs=heads (β n) xs.length++heads (β m) ys.length:=⟨_,rfl⟩;have hslen:hs.length=(xs++ys).length:=by{rw[j0];simp[Zo]};have K: ∀i (G:i<hs.length),i<xs.length->hs[i]=dj (β n) (i+1):=λi G h=>by{subst j0;rw[ya (by rw[Zo];exact h),qd4]};have d0: ∀i (G:i<hs.length),¬i<xs.length->hs[i]=dj (β m) (i-xs.length+1):=λi G h=>by{subst j0;rw[vF (by rw[Zo];omega),qd4,Zo]};have x0: ∀i,i<xs.length-> ∀ad l c,dj (β n) (i+1)= .slice (some ad) l c->who ad.block=some n:=λi G ad l c q=>by{obtain⟨_,b,o,cap,arr,el,e1,e2,e3,e4,e5,e6,e7⟩:=hX.pos (.inr (Qc G));rcases(e6 i G (by simp)).2 with⟨g,_⟩|⟨bi,oi,ci,ar,l',k1,k2,k3,k4,k5,k6,k7⟩;{rw[g]at q;cases q};grind};have f2: ∀i,i<ys.length-> ∀ad l c,dj (β m) (i+1)= .slice (some ad) l c->who ad.block=some m:=λi G ad l c q=>by{obtain⟨_,b,o,cap,arr,el,e1,e2,e3,e4,e5,e6,e7⟩:=hY.pos (.inr (Qc G));rcases(e6 i G (by simp)).2 with⟨g,_⟩|⟨bi,oi,ci,ar,l',k1,k2,k3,k4,k5,k6,k7⟩;{rw[g]at q;cases q};grind};have hdist: ∀i j (G:i<hs.length) (hj:j<hs.length) ai aj li lj ci cj,hs[i]= .slice (some ai) li ci->hs[j]= .slice (some aj) lj cj->ai.block=aj.block->i=j:=by{intro i j G hj ai aj li lj ci cj q5 q6 q7;have r1:i<xs.length+ys.length:=by{rw[hslen,zG]at G;exact G};have r2:j<xs.length+ys.length:=by{rw[hslen,zG]at hj;exact hj};by_cases a1:i<xs.length<;>by_cases a2:j<xs.length;{rw[K i G a1]at q5;rw[K j hj a2]at q6;obtain⟨_,b,o,cap,arr,el,e1,e2,e3,e4,e5,e6,e7⟩:=hX.pos (.inr (Qc a1));grind};{grind};{grind};{rw[d0 i G a1]at q5;rw[d0 j hj a2]at q6;obtain⟨_,b,o,cap,arr,el,e1,e2,e3,e4,e5,e6,e7⟩:=hY.pos (.inr (Qc m1));grind}};have m0: ∀(w':World) (who':bp) (b0:Nat),(∀b,who b=some n->who' b=some (fresh idx 15))->(∀b,who b=some m->who' b=some (fresh idx 15))->(∀b,who b=none->b<w.heap.size->who' b=none/\w'.heap[b]? =w.heap[b]?)->w.heap.size<=w'.heap.size-> (∀i (G:i<xs.length) bi oi l c,dj (β n) (i+1)= .slice (some ⟨bi,oi,none⟩) l c->bi≠b0/\w'.heap[bi]? =w.heap[bi]?)->(∀i (G:i<ys.length) bi oi l c,dj (β m) (i+1)= .slice (some ⟨bi,oi,none⟩) l c->bi≠b0/\w'.heap[bi]? =w.heap[bi]?)-> ∀i (G:i<(xs++ys).length) (u0:i<hs.length),gp who' w' (fresh idx 15) t (xs++ys)[i] hs[i] b0:=by{intro w' who' b0 p1 p2 p3 p4 p5 p6 i G u0;by_cases a1:i<xs.length;{rw[K i u0 a1,ya a1];obtain⟨_,b,o,cap,arr,el,e1,e2,e3,e4,e5,e6,e7⟩:=hX.pos (.inr (Qc a1));rcases(e6 i a1 (by simp)).2 with g|⟨bi,oi,ci,ar,l',k1,k2,k3,k4,k5,k6,k7⟩;{exact .inl g};{obtain⟨g1,g2⟩:=p5 i a1 _ _ _ _ k1;exact .inr ⟨bi,oi,ci,ar,l',k1,by rw[g2];exact k2,k3,k4,p1 bi k5,g1,k7.keep p3 p4 g2⟩}};{have a2:i-xs.length<ys.length:=by{rw[zG]at G;omega};rw[d0 i u0 a1,vF O];obtain⟨_,b,o,cap,arr,el,e1,e2,e3,e4,e5,e6,e7⟩:=hY.pos (.inr (Qc a2));rcases(e6 _ a2 (by simp)).2 with g|⟨bi,oi,ci,ar,l',k1,k2,k3,k4,k5,k6,k7⟩;{exact .inl g};{obtain⟨g1,g2⟩:=p6 _ a2 _ _ _ _ k1;exact .inr ⟨bi,oi,ci,ar,l',k1,by rw[g2];exact k2,k3,k4,p2 bi k5,g1,k7.keep p3 p4 g2⟩}}};have s0: ∃z∈([(.dp m t ys none,.slice v0 ys.length i0),(.dp n t xs none,.slice w0 xs.length u)]:List (AV×Value)),n∈ab z.1:=⟨_,mT mS,by simp[ab,qh,qc]⟩;have b1: ∃z∈([(.dp m t ys none,.slice v0 ys.length i0),(.dp n t xs none,.slice w0 xs.length u)]:List (AV×Value)),m∈ab z.1:=⟨_,mS,by simp[ab,qh,qc]⟩;have m2:(heads (β n) xs.length).length=xs.length*ei.size:=by{rw[Zo,c0,jF]};have y1:(heads (β m) ys.length).length=ys.length*ei.size:=by{rw[Zo,c0,jF]};have q0: ∀{b x:Nat},who b=some x->b<w.heap.size:=λh=>S.wsz _ _ h;by_cases hroom:xs.length+ys.length<=u;{obtain⟨_,b,o,cap,arr,el,e1,e2,e3,e4,e5,e6,e7⟩:=hX.pos (.inl (λq=>by grind));injection e1 with q1 _ q2;subst q1 q2;have a0:o+xs.length*ei.size+(heads (β m) ys.length).length<=arr.size:=by{rw[Zo,c0];omega};have J:=q1d (P:=P) (rt:=rt) h0 h1 f1 d1 he (o:=o) (sLen:=xs.length) (sCap:=u) e2 (by rw[c0];exact n3 w rfl) y1 n2 hroom a0;rw[c0,jF]at J a0;obtain⟨w',g0⟩: ∃w',w'=w.setRow b (qj arr (o+xs.length) (heads (β m) ys.length)):=⟨_,rfl⟩;have e0: ∀b',b'≠b->w'.heap[b']? =w.heap[b']? :=λb' hb=>by{rw[g0];exact setRow_other w b b' _ hb};have hheap:w'.heap[b]? =some (.cells (qj arr (o+xs.length) (heads (β m) ys.length)) el (0,0)):=by{rw[g0];exact setRow_heap w b arr _ el _ e2};have i1:w'.heap.size=w.heap.size:=by{rw[g0];simp};rw[<-g0]at J;obtain⟨β',who',S'⟩:=S.mergeHand (idx:=idx) (v:= .dp (fresh idx 15) t (xs++ys) none) (c:= .slice (some ⟨b,o,none⟩) (xs.length+ys.length) u) (base:= .tuple (.slice (some ⟨b,o,none⟩) (xs.length+ys.length) u::hs).toArray) (w':=w') hf (by simp[ab,qh,qc]) (by simp[Vs.occ,a9,aK]) (fun b' x hb hx=>e0 b' (by{grind})) (λb' hb _=>e0 b' (by grind)) O (by rw[g0];exact⟨rfl,rfl⟩) (fun β' who' g1 g2 g3 g4=>by{refine bu.mk' (hs:=hs) hslen g1 (by rw[zG]) hheap (by rw[Qm a0];exact e3) (by grind) (g2 b n e5 s0) (λi G=> ?_) ?_ hdist;{have r1:i<xs.length+ys.length:=by{rw[hslen,zG]at G;exact G};have c1:az w' b o i=(qj arr (o+xs.length) (heads (β m) ys.length))[o+i]? :=by{simp[az,World.cell?,hheap]};rw[c1,Ql a0];by_cases a1:i<xs.length;{rw[ae O,K i G a1];have:=(e6 i a1 (by simp)).1;simpa [az,World.cell?,e2]using this};grind};{refine m0 w' who' b (λb' h=>g2 b' n h s0) (λb' h=>g2 b' m h b1) (λb' h hl=>⟨g4 b' h hl,e0 b' (by rintro rfl;rw[e5]at h;cases h)⟩) O (λi G bi oi l c q=> ?_) (λi G bi oi l c q=> ?_);{rcases(e6 i G (by simp)).2 with⟨g,_⟩|⟨s2,i2,ci,ar,l',k1,k2,k3,k4,k5,k6,k7⟩;{rw[g]at q;cases q};{rw[k1]at q;injection q with q;injection q with q;injection q with q;subst q;exact⟨k6,e0 _ k6⟩}};grind}});exact⟨_,w',β',who',J,S'⟩};{have J:=q06 (P:=P) (rt:=rt) (w:=w) h0 h1 f1 d1 he hz (sa:=w0) (sLen:=xs.length) (sCap:=u) (m:=ys.length) (ad:=v0) (c:=i0) (olds:=heads (β n) xs.length) (news:=heads (β m) ys.length) (by rw[c0];exact o3 w.drew rfl) (by rw[c0];exact n3 w.drew rfl) O hbytes hlen;have hcapge:xs.length+ys.length<=grownCap w (xs.length+ys.length) u e:=grownCap_ge w _ _ e;have z0:ez.cells.size=1:=by{rw[<-Array.length_toList,s1,Qn,j1]};obtain⟨row,k0⟩: ∃row,row=(heads (β n) xs.length).toArray++(heads (β m) ys.length).toArray++Builtin.zeroCells ez.cells (grownCap w (xs.length+ys.length) u e-(xs.length+ys.length)):=⟨_,rfl⟩;rw[<-k0]at J;have w1:row.size=grownCap w (xs.length+ys.length) u e:=by{rw[k0];simp only[Array.size_append,List.size_toArray,Zo,size_zeroCells,z0];omega};have l0:(w.drew.alloc (.cells row e)).heap[w.heap.size]? =some (.cells row e (0,0)):=heap_alloc_new w.drew _;have hold: ∀b',b'<w.heap.size->(w.drew.alloc (.cells row e)).heap[b']? =w.heap[b']? :=λb' b2=>heap_alloc_old w.drew _ b' b2;have i1:(w.drew.alloc (.cells row e)).heap.size=w.heap.size+1:=by{simp};obtain⟨β',who',S'⟩:=S.mergeHand (idx:=idx) (v:= .dp (fresh idx 15) t (xs++ys) none) (c:= .slice (some ⟨w.heap.size,0,none⟩) (xs.length+ys.length) (grownCap w (xs.length+ys.length) u e)) (base:= .tuple (.slice (some ⟨w.heap.size,0,none⟩) (xs.length+ys.length) (grownCap w (xs.length+ys.length) u e)::hs).toArray) (w':=w.drew.alloc (.cells row e)) hf (by simp[ab,qh,qc]) (by simp[Vs.occ,a9,aK]) (λb' x hb _=>hold b' (q0 hb)) (λb' _ hl=>hold b' hl) O ⟨rfl,rfl⟩ (fun β' who' g1 g2 g3 g4=>by{refine bu.mk' (hs:=hs) hslen g1 (by rw[zG]) l0 (by rw[w1];omega) (by grind) (g3 _ (zI _) O) (λi G=> ?_) ?_ hdist;{have r1:i<(heads (β n) xs.length++heads (β m) ys.length).length:=by{rw[<-j0];exact G};have c1:az (w.drew.alloc (.cells row e)) w.heap.size 0 i=row[i]? :=by{simp only[az,World.cell?,l0,zH];rfl};grind};{refine m0 _ who' w.heap.size (λb' h=>g2 b' n h s0) (λb' h=>g2 b' m h b1) (λb' h hl=>⟨g4 b' h hl,hold b' hl⟩) O (λi G bi oi l c q=> ?_) (λi G bi oi l c q=> ?_);{have h2:=q0 (x0 i G _ _ _ q);exact⟨by rintro rfl;exact UH _ h2,hold _ h2⟩};grind}});exact⟨_,_,β',who',J,S'⟩}
def q90 (hT:bL P T) {idx:Nat} {u:Array TypeId} {rt:TypeId} {x y v:AV} {cx O:Value} (h:aw CO (ZS T idx u x y) U v U' R W)
 (S:aC E D β who U [(y,O),(x,cx)] a w) (hf: ∀k,k<16-> ¬D (fresh idx k)):
 ∃r w' β' who',(Builtin.append_ u rt #[cx,O]).run P w= .ok r w'/\aC E (Dn D idx) β' who' U' [(v,r)] a w':=by unfold ZS at h;split at h;{rename_i t0 t1 h0 h1;split at h;{rename_i K J;split at h;{rename_i n t xs m t' ys;split at h;{rename_i e0;subst e0;obtain⟨_,U1,_,_,_,_,q3,q4⟩:=kA h;obtain⟨⟨G,hlen⟩,rfl⟩:=kG q3;obtain⟨rfl,rfl⟩:=kB q4;exact qbh hT h0 h1 K J rfl S G hlen hf};{exact(kC h).elim}};{exact(kC h).elim}};{exact(kC h).elim}};{exact(kC h).elim}
def aw.buildDpAV' {idx t n:Nat} {ps:List (Nat×Operand)} {v:AV} (h:aw CO (q8e T idx t n ps) U v U' R W):
 ∃x,ps=[(0,x)]/\n=1/\ ∃u G R1 K O J,aw CO (Vs.rdT x) U u G R1 K/\aw CO (Vs.buildDp T idx t u) G v U' O J:=by unfold q8e at h;split at h;{rename_i x;split at h;{rename_i e;obtain⟨u,G,R1,K,O,J,h1,h2⟩:=kA h;grind};{exact(kC h).elim}};{exact(kC h).elim}
def q5u (hT:bL P T) {idx t:Nat} {row:AV} {G:Value} {l0:Bool} {e:TypeId} {J:Ty} {cells:List ZC} {ys:List (aX J)} (ht:T.at t=some {desc:= .slice e (.sl l0 J),cells}) (S:aC E D β who U [(row,G)] a w) (hf: ∀k,k<16-> ¬D (fresh idx k)) (i0:G.oneCell'=true)
 (m0:(G= .slice none 0 0/\ys=[])\/ ∃k bi oi ci ar l',k∈ab row/\G= .slice (some ⟨bi,oi,none⟩) ys.length ci/\w.heap[bi]? =some (.cells ar l' (0,0))/\oi+ci*J.size<=ar.size/\ys.length<=ci/\who bi=some k/\aT who w J ys bi oi):
 ∃r w' β' who',(Instr.buildSlice t 1 #[(0,G)]).run P w= .ok r w'/\aC E (Dn D idx) β' who' U [(.dp (fresh idx 15) J [ys] none,r)] a w':=by obtain⟨hu,⟨ei,ez,he,q0,hb,w0,hz,u0⟩⟩:=(hT t _ ht).desc;have K:ei.size=1:=q0;have g0:G.cells= #[G]:=Yt i0;obtain⟨u,c0⟩: ∃u,u=(Array.range (1*ei.size)).map λi=>ez.cells[i%ez.cells.size]! :=⟨_,rfl⟩;have d0:u.size=1:=by{rw[c0];simp[K]};have b0:0+[G].length<=u.size:=by{rw[d0];exact zI _};have hfill:Instr.fill (λi=>some (i*ei.size,ei.size)) u [(0,G)]=some (qj u 0 [G]):=by{rw[Wh (off:=0*ei.size) (size:=ei.size) rfl (by rw[g0,K];rfl) (by rw[g0,d0];simp),g0,yi];rfl};have j0: ¬(1*ei.size>2^24):=by{rw[K];decide};have h0:(Instr.buildSlice t 1 #[(0,G)]).run P w= .ok (.slice (some ⟨w.heap.size,0,none⟩) 1 1) (w.alloc (.cells (qj u 0 [G]) e)):=by{unfold Instr.buildSlice;simp only[Sem.run_bind,run_underlying hu,Result.andThen_ok,Xv he,j0,if_false];have t0:(newRow e (qj u 0 [G])>>=λx=>pure (Value.slice (some x) 1 1):Sem Value).run P w= .ok (.slice (some ⟨w.heap.size,0,none⟩) 1 1) (w.alloc (.cells (qj u 0 [G]) e)):=by{simp[newRow]};split;{omega};{simp only[Sem.run_bind,P2 he hz,Sem.run_pure,Result.andThen_ok];grind}};have a0:=heap_alloc_new w (.cells (qj u 0 [G]) e);have hold: ∀b',b'<w.heap.size->(w.alloc (.cells (qj u 0 [G]) e)).heap[b']? =w.heap[b']? :=λb' r0=>heap_alloc_old w _ b' r0;have s0:(w.alloc (.cells (qj u 0 [G]) e)).heap.size=w.heap.size+1:=by{simp};obtain⟨β',who',S'⟩:=S.mergeHand (idx:=idx) (v:= .dp (fresh idx 15) J [ys] none) (c:= .slice (some ⟨w.heap.size,0,none⟩) 1 1) (base:= .tuple (.slice (some ⟨w.heap.size,0,none⟩) 1 1::[G]).toArray) (w':=w.alloc (.cells (qj u 0 [G]) e)) hf (by simp[ab,qh,qc]) (by simp[Vs.occ,a9,aK]) (λb' x hb _=>hold b' (S.wsz _ _ hb)) (λb' _ hl=>hold b' hl) O ⟨rfl,rfl⟩ (fun β' who' g1 g2 g3 g4=>by{refine bu.mk' (hs:=[G]) rfl g1 rfl a0 (by rw[Qm b0,d0];exact zI _) (zI _) (g3 _ (zI _) O) (λi hi=> ?_) (λi hi v0=> ?_) (λi j hi hj ai aj li lj ci cj _ _ _=> ?_);{obtain rfl:i=0:=by{simpa using hi};have c1:az (w.alloc (.cells (qj u 0 [G]) e)) w.heap.size 0 0=(qj u 0 [G])[0+0]? :=by{simp only[az,World.cell?,a0,zH];rfl};rw[c1,Ql b0];rfl};{obtain rfl:i=0:=by{simpa using hi};rcases m0 with⟨q1,q2⟩|⟨k,bi,oi,ci,ar,l',k0,k1,k2,k3,k4,k5,k6⟩;{exact .inl ⟨q1,q2⟩};{have e0:=S.wsz _ _ k5;exact .inr ⟨bi,oi,ci,ar,l',k1,by rw[hold bi e0];exact k2,k3,k4,g2 bi k k5 ⟨_,mS,k0⟩,Nat.ne_of_lt e0,k6.keep (λb' h hl=>⟨g4 b' h hl,hold b' hl⟩) O (hold bi e0)⟩}};{simp at hi hj;omega}});exact⟨_,_,β',who',h0,S'⟩
def qcm (hT:bL P T) {idx t:Nat} {row v:AV} {J:Value} (h:aw CO (buildDp T idx t row) U v U' R W) (S:aC E D β who U [(row,J)] a w) (hf: ∀k,k<16-> ¬D (fresh idx k)):
 ∃r w' β' who',(Instr.buildSlice t 1 #[(0,J)]).run P w= .ok r w'/\aC E (Dn D idx) β' who' U' [(v,r)] a w':=by unfold buildDp at h;split at h;{rename_i e K ty cells k u ys O;split at h;{rename_i e0;subst e0;obtain⟨rfl,rfl⟩:=kB h;have G:cE β who w k u ys J:=S.hrel _ mS;refine q5u hT O S hf (J7 (β:=β) (who:=who) (w:=w) (c:= .sl (.nm k) u ys) G (by simp)) ?_;rcases G.2 with h|⟨bi,oi,ci,ar,l',k1,k2,k3,k4,k5,k6⟩;{exact .inl h};{exact .inr ⟨k,bi,oi,ci,ar,l',by simp[ab,qh,qc],k1,k2,k3,k4,k5,k6⟩}};{exact(kC h).elim}};{rename_i e K ty cells O;obtain⟨rfl,rfl⟩:=kB h;have hv:J=_/\_:=S.hrel _ mS;obtain⟨rfl,h1⟩:=hv;exact q5u hT O S hf h1 (.inl ⟨rfl,rfl⟩)};{exact(kC h).elim}
end
section
variable {P:Program} {CO:Q7} {T:TT} {E:ba} {D:Nat->Prop} {β:aU} {who:bp} {U U':ao} {hd:List (AV×Value)} {a:Act} {w w':World} {R W:List Nat}
def q7j {av:AV} {v:Value} (h:bG β who w av v):br β who w av v/\ab av=qh av/\Vs.occ av=a9 av:=by cases av with|tup vs=>exact h.elim|_=>exact⟨h,rfl,rfl⟩
def aC.split {vs:List AV} {arr:Array Value} {i:Nat} {v:AV} (S:aC E D β who U ((.tup vs,.tuple arr)::hd) a w) (hv:vs[i]? =some v):
 arr[i]? =some (arr.getD i undef)/\aC E D β who U ((v,arr.getD i undef)::(.tup (vs.set i .dead),.tuple arr)::hd) a w:=by
 have hA:br β who w (.tup vs) (.tuple arr):=S.hrel _ mS;obtain⟨arr',e,hsz,hA⟩:=hA;cases e
 have hi:i<vs.length:=by
  rcases gq i vs.length with h|h
  . exact h
  . grind
 rw[List.getElem?_eq_getElem hi]at hv;injection hv with hv
 subst hv;obtain⟨r1,r2,r3⟩:=q7j (hA i hi);have hi':i<arr.size:=by rw[hsz];exact hi
 refine⟨by simp[Array.getD,hi'],?_⟩
 have hsplit:vs=vs.take i++vs[i]::vs.drop (i+1):=by simp
 have hset:vs.set i .dead=vs.take i++ .dead::vs.drop (i+1):=by
  rw[OL,iP hi]
 have hn1:ab (.tup vs)=(vs.take i).flatMap qh++qh vs[i]++(vs.drop (i+1)).flatMap qh:=by
  exact(congrArg (λl=>List.flatMap qh l) hsplit).trans (by grind)
 have hn2:ab (.tup (vs.set i .dead))=(vs.take i).flatMap qh++(vs.drop (i+1)).flatMap qh:=by
  rw[hset];simp[ab,qh,qc]
 have ho1:Vs.occ (.tup vs)=(vs.take i).flatMap a9++a9 vs[i]++(vs.drop (i+1)).flatMap a9:=by
  exact(congrArg (λl=>List.flatMap a9 l) hsplit).trans (by grind)
 have ho2:Vs.occ (.tup (vs.set i .dead))=(vs.take i).flatMap a9++(vs.drop (i+1)).flatMap a9:=by
  rw[hset];simp[Vs.occ,a9,aK]
 have S0:=S.drop rfl;have hno:=S.hnod;simp only[fC]at hno;rw[hn1]at hno;have k1:=zT.1 hno;have k2:=zT.1 k1.1;have k3:=zT.1 k2.1
 exact{S0 with
  hrel:=λy hy=>by
   rcases mC hy with rfl|hy
   . exact r1
   . rcases mC hy with rfl|hy
     . refine⟨arr,rfl,by simp[hsz],λj hj=> ?_⟩
       have hj':j<vs.length:=by simpa using hj
       by_cases e:j=i
       . subst e;rw[K4];trivial
       grind
     . exact S0.hrel y hy
  hnod:=by
   simp only[fC,hn2,r2];refine zT.2 ⟨k3.2.1,zT.2 ⟨zT.2 ⟨k3.1,k2.2.1,?_⟩,k1.2.1,?_⟩,?_⟩
   . rintro x hx y hy rfl;exact k2.2.2 x (zx _ hx) x hy rfl
   . rintro x hx y hy rfl
     rcases zZ.1 hx with hx|hx
     . exact k1.2.2 x (by simp only[zZ];exact .inl (.inl hx)) x hy rfl
     . exact k1.2.2 x (by simp only[zZ];exact .inr hx) x hy rfl
   grind
  hdis:=λy hy=>by
   rcases mC hy with rfl|hy
   . intro n hn s;exact S.hdis _ mS n (by grind) s
   . rcases mC hy with rfl|hy
     . intro n hn s;rw[hn2]at hn;refine S.hdis _ mS n ?_ s
       grind
     . exact S0.hdis y hy
  hocc:=λy hy=>by
   rcases mC hy with rfl|hy
   . intro n hn;exact S.hocc _ mS n (by grind)
   . rcases mC hy with rfl|hy
     . intro n hn;rw[ho2]at hn;refine S.hocc _ mS n ?_
       grind
     . exact S0.hocc y hy}
def aC.putBack {s:Nat} {v:AV} (S:aC E D β who U ((v,a.tmps.getD s undef)::hd) a w) (hs:ab (U.get s)=[]):aC E D β who (U.set s v) hd a w:=by
 have hv:=S.hrel _ mS;have S0:=S.drop rfl;have hno:=S.hnod;simp only[fC]at hno;have k:=zT.1 hno
 exact{S0 with
  rel:=λt=>by
   by_cases h:t=s
   . subst h;rw[qg];exact hv
   . rw[qf _ _ h];exact S.rel t
  nod:=λt=>by
   by_cases h:t=s
   . subst h;rw[qg];exact k.1
   . rw[qf _ _ h];exact S.nod t
  dis:=λt t' n h1 h2=>by
   by_cases h:t=s<;>by_cases h':t'=s
   . rw[h,h']
   . subst h;rw[qg]at h1;rw[qf _ _ h']at h2;exact absurd h2 (S.hdis _ mS n h1 t')
   . subst h';rw[qg]at h2;rw[qf _ _ h]at h1;exact absurd h1 (S.hdis _ mS n h2 t)
   . rw[qf _ _ h]at h1;rw[qf _ _ h']at h2;exact S.dis t t' n h1 h2
  occ:=λt n h1=>by
   by_cases h:t=s
   . subst h;rw[qg]at h1;exact S.hocc _ mS n h1
   . rw[qf _ _ h]at h1;exact S.occ t n h1
  hdis:=λy hy n h1 t=>by
   by_cases h:t=s
   . subst h;rw[qg]
     grind
   . rw[qf _ _ h];exact S0.hdis y hy n h1 t}
def qc0 {x:Operand} {i:Nat} {v:AV} (h:aw CO (ZV x i) U v U' R W) (S:aC E D β who U hd a w):
 ∃r,(Instr.extract (a.eval x) i).run P w= .ok r w/\aC E D β who U' ((v,r)::hd) a w:=by unfold ZV at h;split at h;{rename_i t;obtain⟨al,U1,_,_,_,_,h1,h2⟩:=kA h;obtain⟨J,rfl⟩:=kF h1;split at h2;{exact(kC h2).elim};{obtain⟨c,U2,_,_,_,_,g0,h5⟩:=kA h2;clear h2;have h2:=h5;clear h5;obtain⟨O,rfl⟩:=kF g0;split at h2;{rename_i u;obtain⟨vs,G,hu⟩: ∃vs,U2.get t= .tup vs/\vs[i]? =some u:=by{simp only[dh]at O;split at O;{unfold fm at O;split at O;{rename_i m cells hb;rw[hb]at J;cases J};{grind};{rename_i hb;rw[hb]at J;cases J};{cases O}};{cases O}};have hr:=S.rel t;rw[G]at hr;obtain⟨arr,e,b0,hA⟩:=hr;have e0:a.eval (.tmp t)= .tuple arr:=e;have hi:i<vs.length:=by{rcases gq i vs.length with h|h;{exact h};{grind}};have a0:vs[i]=u:=by{rw[List.getElem?_eq_getElem hi]at hu;injection hu};have d0:i<arr.size:=by{rw[b0];exact hi};have K:(Instr.extract (a.eval (.tmp t)) i).run P w= .ok (arr.getD i undef) w:=by{rw[e0];simp[Instr.extract,Array.getD,d0]};split at h2;{obtain⟨_,U3,_,_,_,_,h3,h4⟩:=kA h2;obtain⟨v',hk,this⟩:=kI h3;subst this;obtain⟨rfl,rfl⟩:=kB h4;rw[G]at hk;cases hk;have S1:=S.takeAll t;rw[G,e]at S1;obtain⟨_,S2⟩:=S1.split hu;have S3:=S2.swap;rw[<-e]at S3;have S4:=S3.putBack (by rw[qg];rfl);refine⟨_,K,S4.ext λs=> ?_⟩;by_cases e':s=t;{subst e';rw[qg,qg]};{rw[qf _ _ e',qf _ _ e',qf _ _ e']}};{rename_i c0;obtain⟨rfl,rfl⟩:=kB h2;obtain⟨r1,r2,r3⟩:=q7j (hA i hi);rw[a0]at r1 r3;refine⟨_,K,S.take0 r1 (Xb c0) (λn hn=>S.occ t n ?_)⟩;rw[G];rw[r3]at hn;exact zL.2 ⟨_,a0▸zW hi,hn⟩}};{exact(kC h2).elim}}};{exact(kC h).elim}
def vL {s:Sem Value} {c:Value} (h:s.run P w= .ok c w'):(do pure (.value (<-s)):Sem Next).run P w= .ok (.value c) w':=by
 simp[h]
def cb (P:Program) (E:ba) (D:Nat->Prop) (idx:Nat) (U':ao) (v:AV) (a:Act) (r:Result Next):Prop:=
 ∃c w' β' who',(r= .ok (.value c) w'\/(r= .ok .skip w'/\c=undef))/\aC E (Dn D idx) β' who' U' [(v,c)] a w'
def cb.same {idx:Nat} {v:AV} {c:Value} {r:Result Next} {β':aU} {who':bp} (u:r= .ok (.value c) w') (S:aC E D β' who' U' [(v,c)] a w'):cb P E D idx U' v a r:=
 ⟨c,w',β',who',.inl u,S.mono (λn h=> .inl h) (dz S.dfn)⟩
def Gt {idx:Nat} {k:Nat} (u:k<16):Dn D idx (fresh idx k):= .inr ⟨k,u,rfl⟩
def VO:Op->Bool
 | .call {callee:= .builtin _,.. }=>false
 | .call _=>true
 |_=>false
def aC.freezeBx (S:aC E D β who U hd a w) (t:Nat) {n:Nat} {k:IntKind} {x:Int} (f:Nat) (hc:U.get t= .bx (.nm n) [.int k x]):
 ∃who',aC E D β who' (U.set t (.iptr none (.int k) [x] 0 0)) ((.iptr (some f) (.int k) [x] 0 0,.func (.func f) #[] #[a.tmps.getD t undef])::hd) a w:=by have hr:br β who w (.bx (.nm n) [.int k x]) (a.tmps.getD t undef):=hc▸S.rel t;obtain⟨e0,b,arr,el,e1,e2,e3,e4⟩:=hr;have J:b<w.heap.size:=by{rcases gq b w.heap.size with h|h;{exact h};{grind}};have u:ab (U.get t)=[n]:=by{rw[hc];simp[ab,qh,qc]};have hI: ∀g,br β (unown who [n]) w (.iptr g (.int k) [x] 0 0) (yu g (a.tmps.getD t undef)):=λg=>by{refine⟨b,0,by rw[e1];simp,by simp,LB e3 (by simp),J,λi hi=> ?_⟩;have K:i=0:=by{simpa using hi};subst K;have h1:=e4.2 0 (by simp);have O:arr.getD 0 undef= .int k x:=h1;have hs:0<arr.size:=by{rw[e4.1];simp};show az w b (0+0*1) 0=some (.int k x);simp only[az,World.cell?,e2];rw[<-O];simp[Array.getD,hs]};refine⟨unown who [n],?_⟩;have S1:aC E D β (unown who [n]) (U.set t .dead) hd a w:=by{have S0:=(S.takeAll t).drop rfl;refine S0.world (λs=> ?_) (λx hx=> ?_) (λb n G=>S.wsz b n (Yo G)) (zI _) (λ_ _ _=>rfl) (λb n G=>S.fr1 b n (Yo G)) (λb G=>Jm (S.fr3 b G) (λh=>S.dfn (S.occ t _ (qi (by rw[u];exact h)))));{refine(S0.rel s).keep (cO.unown λm h h'=> ?_);by_cases e:s=t;{subst e;rw[qg]at h;simp[ab,qh,qc]at h};{rw[qf _ _ e]at h;exact e (S.dis s t m h (by rw[u];exact h'))}};{exact(S0.hrel x hx).keep (cO.unown λm h h'=>S.hdis x hx m h t (by rw[u];exact h'))}};have S2:=S1.abs (s:=t) (v:= .iptr none (.int k) [x] 0 0) (hI none) (λn h=>by cases h) yk (λn h=>by cases h);have S3:=S2.take0 (hI (some f)) rfl (λn h=>by cases h);refine S3.ext λs=> ?_;by_cases e:s=t;{subst e;rw[qg,qg]};{rw[qf _ _ e,qf _ _ e,qf _ _ e]}
def q92 {f:Nat} {first cap:Array Operand} {v:AV} {o:Oper} (h:aw CO (q4w f first.toList cap.toList) U v U' R W) (ho:o.op= .makeFunc (.func f) first cap)
 (S:aC E D β who U [] a w): ∃c who',(execOp a.eval o).run P w= .ok (.value c) w/\aC E D β who' U' [(v,c)] a w:=by unfold q4w at h;split at h;{rename_i s hf hc;obtain⟨av,U1,_,_,_,_,h1,h2⟩:=kA h;obtain⟨rfl,rfl⟩:=kD h1;(have G:first= #[]:=by{apply Array.ext';simpa using hf});have J:cap= #[.tmp s]:=by{apply Array.ext';simpa using hc};have K:(execOp a.eval o).run P w= .ok (.value (.func (.func f) #[] #[a.tmps.getD s undef])) w:=by{unfold execOp;simp[ho,G,J,Instr.makeFunc,Act.eval]};split at h2;{rename_i n k x u;obtain⟨_,U2,_,_,_,_,h3,h4⟩:=kA h2;have:=kE h3;subst this;obtain⟨rfl,rfl⟩:=kB h4;obtain⟨who',S'⟩:=S.freezeBx s f u;exact⟨_,who',K,S'⟩};{rename_i t xs i j u;obtain⟨rfl,rfl⟩:=kB h2;have O:=S.rel s;rw[u]at O;obtain⟨b,o',e1,e2⟩:=O;refine⟨_,who,K,S.take0 ⟨b,o',?_,e2⟩ rfl (λn hn=>by cases hn)⟩;rw[e1];rfl};{exact(kC h2).elim}};{exact(kC h).elim}
def qg6 {t0 e:TypeId} {u:Array TypeId} {rt:TypeId} {i:TypeInfo} (h0:u[0]? =some t0) (K:P.underlying t0=some (.slice e))
 (hi:P.info? e=some i) {b o dLen dCap sLen:Nat} {cur:Array Value} {el:TypeId} (hg:w.heap[b]? =some (.cells cur el (0,0))) {ad:Option Addr} {c:Nat} {news:List Value}
 (hf:(Builtin.firstCells i.size (Nat.min sLen dLen) (.slice ad sLen c)).run P w= .ok news.toArray w) (O: ∀x∈news,x.oneCell'=true)
 (J:o+news.length<=cur.size):
 (Builtin.copy_ u rt #[.slice (some ⟨b,o,none⟩) dLen dCap,.slice ad sLen c]).run P w=
   .ok (goInt (Nat.min sLen dLen)) (w.setRow b (qj cur o news)):=by have G:=run_storeCells_at P b o el news 0 cur w hg (by simpa using J) O;simp only[zS]at G;simp only[qj];simp[Builtin.copy_,h0,run_underlying K,Xv hi,Builtin.lenOf,hf,G]
def qkj (hT:bL P T) {idx:Nat} {d0:Array TypeId} {rt:TypeId} {x y v:AV} {cx cy:Value} (h:aw CO (XL T idx d0 x y) U v U' R W)
 (S:aC E D β who U [(y,cy),(x,cx)] a w) (hf: ∀k,k<16-> ¬D (fresh idx k)):
 ∃r w' β' who',(Builtin.copy_ d0 rt #[cx,cy]).run P w= .ok r w'/\aC E (Dn D idx) β' who' U' [(v,r)] a w':=by
 have hy:br β who w y cy:=S.hrel _ mS;have hx:br β who w x cx:=S.hrel _ (mT mS);have S0:=(S.drop rfl).drop rfl;unfold XL at h;split at h
 case h_2=>exact(kC h).elim
 rename_i t0 h0;split at h
 case h_2=>exact(kC h).elim
 rename_i e et cells j0;obtain⟨z,U1,_,_,_,_,q1,q2⟩:=kA h;obtain⟨rfl,hs⟩:=aw.shown q1 S hy;obtain⟨t',ys⟩:=z;split at q2
 case h_2=>exact(kC q2).elim
 rename_i s n sz;obtain⟨av,U2,_,_,_,_,q3,q4⟩:=kA q2;obtain⟨w0,rfl⟩:=kD q3;split at q4
 case h_2=>exact(kC q4).elim
 rename_i m t xs;split at q4
 case isFalse=>exact(kC q4).elim
 rename_i hh;obtain⟨e0,r0,q0⟩:=hh;simp only at e0;subst e0 q0;obtain⟨_,U3,_,_,_,_,q5,q6⟩:=kA q4;obtain⟨⟨hypos,hxpos⟩,rfl⟩:=kG q5;obtain⟨_,U4,_,_,_,_,q7,q8⟩:=kA q6;have:=kE q7;subst this;obtain⟨rfl,rfl⟩:=kB q8;dsimp only at*;obtain⟨i0,⟨ei,ez,he,s0,hbytes,_,hz,z0⟩⟩:=(hT t0 _ j0).desc;have k0:ei.size=t'.size:=by rw[s0,r0]
 have S1:=S0.takeAll s;have hr:=S0.rel s;rw[<-w0]at S1 hr;obtain⟨hb,hr⟩:=hr;rcases hr with⟨_,K⟩|⟨b,o,cap,arr,el,e1,e2,e3,e4,e5,e6⟩
 . subst K;simp at hxpos
 have u0:cx= .slice (some ⟨b,o,none⟩) xs.length cap:=by
  have:=(hx:yd (β m) sz none cx).1;rw[this,<-hb,e1]
 obtain⟨L,hL⟩: ∃L,L=Nat.min ys.length xs.length:=⟨_,rfl⟩;have x0:L=min ys.length xs.length:=hL;have hp:=Ty.size_pos t';rcases hs with⟨_,K⟩|⟨bs,os,cs,rfl,f1,f2,f3⟩
 . subst K;simp at hypos
 have J:(ys.take L).length=L:=by rw[zX];omega
 have l0:oY who w t' (ys.take L) (.slice (some ⟨bs,os,none⟩) (ys.take L).length cs):= .inr ⟨bs,os,cs,rfl,f1,by rw[J];omega,λi hi=>by
  rw[J]at hi;rw[KX];exact f3 i O⟩
 obtain⟨news,n1,n2,n3,n4,-⟩:=l0.news (P:=P) (e:=0);rw[J]at n1 n3;have a1:L*t'.size<=cap*t'.size:=zO _ O;have u:o+news.length<=arr.size:=O
 have b0:=qg6 (P:=P) (rt:=rt) h0 i0 he (dLen:=xs.length) (dCap:=cap) (sLen:=ys.length) (ad:=some ⟨bs,os,none⟩) (c:=cs) e2 (by
  have:=n3 w rfl;rw[<-hL,k0];simpa [Builtin.firstCells]using this) n2 u
 rw[<-hL]at b0;have G:(ys.take xs.length++xs.drop ys.length).length=xs.length:=by rw[zG,zX,mA];omega
 have g0: ¬D (fresh idx 15):=hf 15 O
 obtain⟨β',who',S'⟩:=aC.handWrite (m:=fresh idx 15) (ys:=ys.take xs.length++xs.drop ys.length) (c':=a.tmps.getD s undef) (row:=qj arr o news) S1 g0 (λx h=> .inl h) (.inr ⟨15,O,rfl⟩) (dz S.dfn) e5
  (fun β' who' q1 q2 q3=>by
    have hheap:=setRow_heap w b arr (qj arr o news) el (0,0) e2;refine⟨q1.symm,.inr ⟨b,o,cap,_,el,by rw[G];exact e1,hheap,by rw[Qm u];exact e3,by rw[G];exact e4,q2 b e5,λi hi=> ?_⟩⟩
    rw[G]at hi;have c0: ∀b',who b'=none->b'<w.heap.size->who' b'=none/\(w.setRow b (qj arr o news)).heap[b']? =w.heap[b']? :=λb' v0 _=>q3 b' v0
    have a0:w.heap.size<=(w.setRow b (qj arr o news)).heap.size:=by simp
    by_cases c:i<L
    . have ge:(ys.take xs.length++xs.drop ys.length)[i]'(by rw[G];exact hi)=(ys.take L)[i]'(by rw[J];exact c):=by
       rw[ya (by grind),KX,KX]
      rw[ge];have m0:(i+1)*t'.size<=L*t'.size:=zO _ O;rw[gr]at m0;refine be.ext' (λj hj=> ?_) (be.keep c0 a0 (n4 i (by rw[J];exact c)))
      simp only[az,World.cell?,hheap,zH];simp only[Un,GH,if_false];rw[Ql u,iP O];congr 1;omega
    . have ge:(ys.take xs.length++xs.drop ys.length)[i]'(by rw[G];exact hi)=xs[i]:=by
       rw[vF (by grind),KW]
       congr 1;rw[zX];omega
      rw[ge];have hle:L*t'.size<=i*t'.size:=zO _ O;refine be.ext' (g:=az w b (o+i*t'.size)) (λj hj=> ?_) (be.keep c0 a0 (e6 i hi))
      simp only[az,World.cell?,hheap,e2,zH];simp only[Un,GH,if_false];rw[Ql u,ae O])
 have S4:=S'.putBack (by rw[qg];rfl)
 refine⟨_,_,β',who',by rw[u0];exact b0,?_⟩
 have S5:=S4.take0 (v:= .int .i64 ((min ys.length xs.length:Nat):Int)) (c:=goInt L) (by rw[x0];rfl) rfl (λn hn=>by simp[Vs.occ,a9,aK]at hn)
 refine S5.ext λt=> ?_
 by_cases e:t=s
 . subst e;rw[qg,qg]
 . rw[qf _ _ e,qf _ _ e,qf _ _ e]
def qr9 (hT:bL P T) (d0:E.prog=P) {idx mode:Nat} {o:Oper} {v:AV} (b0:VO o.op=false) (h:aw CO (uw T idx mode o) U v U' R W) (S:aC E D β who U [] a w)
 (hf: ∀k,k<16-> ¬D (fresh idx k)):cb P E D idx U' v a ((execOp a.eval o).run P w):=by unfold uw at h;cases ho:o.op with|move x=>{simp only[ho]at h;obtain⟨u,U1,_,_,_,_,K,h2⟩:=kA h;obtain⟨who',G⟩:=aw.rdm K S;obtain⟨rfl,rfl⟩:=kB h2;exact cb.same (by unfold execOp;simp only[ho];rfl) (G.fix (t:=o.type) hT)}|assign x=>{simp only[ho]at h;obtain⟨u,U1,_,_,_,_,K,h2⟩:=kA h;obtain⟨who',G⟩:=aw.rdm K S;have S2:=(G.fix (t:=o.type) hT).nlI (m:=mode);split at h2;{rename_i t xs he;rw[he]at S2;have hn:br β who' w (.sl .nl t xs) (a.eval x):=S2.hrel _ mS;obtain⟨hc,rfl⟩:=hn;unfold Hn at h2;split at h2;{split at h2;{rename_i e0 ty;obtain⟨rfl,rfl⟩:=kB h2;obtain⟨β',S3⟩:=S2.newNilDp (t:=ty) (hf 0 O) (D':=Dn D idx) (λn h=> .inl h) (Gt O) (dz S2.dfn);rw[show dO=a.eval x from hc.symm]at S3;exact⟨_,w,β',who',.inl (by unfold execOp;simp only[ho];rfl),S3⟩};{exact(kC h2).elim}};{obtain⟨rfl,rfl⟩:=kB h2;obtain⟨β',S3⟩:=S2.newNil (t:=t) (hf 0 O) (D':=Dn D idx) (λn h=> .inl h) (Gt O) (dz S2.dfn);rw[show dO=a.eval x from hc.symm]at S3;exact⟨_,w,β',who',.inl (by unfold execOp;simp only[ho];rfl),S3⟩}};{obtain⟨rfl,rfl⟩:=kB h2;exact cb.same (by unfold execOp;simp only[ho];rfl) S2}}|pick c x y=>{simp only[ho]at h;split at h;{rename_i t;obtain⟨b,U1,_,_,_,_,K,h2⟩:=kA h;obtain⟨hb,rfl⟩:=aw.mknow' K;have hc:a.eval (.tmp t)= .bool b:=by{have:=S.rel t;rw[hb]at this;exact this};cases b with|true=>{obtain⟨rfl,G⟩:=aw.rd h2 S;exact cb.same (by unfold execOp;simp[ho,hc,asBool]) G}|false=>{obtain⟨rfl,G⟩:=aw.rd h2 S;exact cb.same (by unfold execOp;simp[ho,hc,asBool]) G}};{exact(kC h).elim}}|alloc e=>{simp only[ho]at h;obtain⟨rv,w1,β',who',g1,J⟩:=qhc hT h S hf;exact⟨rv,w1,β',who',.inl (by unfold execOp;simp_all),J⟩}|box e x=>{simp only[ho]at h;obtain⟨u,U1,_,_,_,_,K,h2⟩:=kA h;obtain⟨bh,S0⟩:=aw.rdQ K S;have G:=(S0.fix (t:=e) hT).nlI (m:=mode);obtain⟨rv,w1,β',who',g1,J⟩:=qpl (P:=P) h2 G hf;exact⟨rv,w1,β',who',.inl (by unfold execOp;simp_all),J⟩}|build t ps=>{simp only[ho]at h;obtain⟨vs,U1,_,_,_,_,K,h2⟩:=kA h;obtain⟨e1,cs,rfl,G⟩:=aw.rdParts K S;obtain⟨r,g1,J⟩:=qgx hT h2 e1 G;exact cb.same (by unfold execOp;simp_all) J}|buildSlice t n ps=>{simp only[ho]at h;split at h;{obtain⟨x,g0,rfl,v',U1,_,_,_,_,K,h2⟩:=aw.buildDpAV' h;have G:=aw.rdT K S;obtain⟨r,w1,β',who',g1,J⟩:=qcm hT h2 G hf;obtain rfl:ps= #[(0,x)]:=by{grind};exact⟨r,w1,β',who',.inl (by unfold execOp;simp_all),J⟩};obtain⟨vs,U1,_,_,_,_,K,h2⟩:=kA h;obtain⟨e1,cs,rfl,G⟩:=aw.rdParts K S;obtain⟨r,w1,β',who',g1,J⟩:=q5v hT h2 e1 G hf;exact⟨r,w1,β',who',.inl (by unfold execOp;simp_all),J⟩}|load t p=>{simp only[ho]at h;obtain⟨u,U1,_,_,_,_,K,h2⟩:=kA h;obtain⟨rfl,G⟩:=aw.rd K S;split at h2;{rename_i s n k;obtain⟨r,β',who',g1,J⟩:=qfi hT h2 S (G.hrel _ mS) (G.hocc _ mS n (by simp[Vs.occ,a9,aK])) hf;exact⟨r,w,β',who',.inl (by unfold execOp;simp_all),J⟩};{split at h2;{obtain⟨_,U2,_,_,_,_,h3,h4⟩:=kA h2;obtain⟨bT,S2⟩:=q8l h3 G;obtain⟨r,g1,J⟩:=q9i hT h4 S2;exact cb.same (by unfold execOp;simp only[ho];exact vL g1) J};{obtain⟨r,g1,J⟩:=q9i hT h2 G;exact cb.same (by unfold execOp;simp_all) J}}}|store t p x=>{simp only[ho]at h;split at h;{obtain⟨u,U1,_,_,_,_,K,h2⟩:=kA h;have G:=aw.rdT K S;obtain⟨q,U2,_,_,_,_,h3,h4⟩:=kA h2;obtain⟨rfl,S2⟩:=aw.rd h3 G;split at h4;{obtain⟨_,U3,_,_,_,_,h5,h6⟩:=kA h4;obtain⟨w1,β',who',g1,J⟩:=q3y hT h5 G (S2.hrel _ mS) hf;obtain⟨rfl,rfl⟩:=kB h6;exact⟨undef,w1,β',who',.inr ⟨by unfold execOp;simp_all,rfl⟩,J.take_dead⟩};{exact(kC h4).elim}};{rename_i a0 hmode;obtain⟨u,U1,_,_,_,_,K,h2⟩:=kA h;obtain⟨bh,G⟩:=aw.rdQ K S;obtain⟨q,U2,_,_,_,_,h3,h4⟩:=kA h2;obtain⟨rfl,S2⟩:=aw.rd h3 G;split at h4;{obtain⟨_,U3,_,_,_,_,h5,h6⟩:=kA h4;obtain⟨w1,β',who',g1,J⟩:=q3y hT h5 ((G.fix (t:=t) hT).nlI (m:=mode)) (S2.hrel _ mS) hf;obtain⟨rfl,rfl⟩:=kB h6;exact⟨undef,w1,β',who',.inr ⟨by unfold execOp;simp_all,rfl⟩,J.take_dead⟩};{obtain⟨_,U3,_,_,_,_,h5,h6⟩:=kA h4;obtain⟨w1,β',g1,J⟩:=qfq hT h5 (((S2.swap.fix (t:=t) hT).nlI (m:=mode)).swap) hf;obtain⟨rfl,rfl⟩:=kB h6;exact⟨undef,w1,β',bh,.inr ⟨by unfold execOp;simp_all,rfl⟩,J.take_dead⟩}}}|nilCheck x=>{simp only[ho]at h;obtain⟨u,U1,_,_,_,_,K,h2⟩:=kA h;obtain⟨rfl,G⟩:=aw.rd K S;obtain⟨rfl,rfl,g⟩:=q91 (P:=P) (w:=w) h2 ho rfl (G.hrel _ mS);exact cb.same g G}|binOp op t x y yt=>{simp only[ho]at h;obtain⟨u,U1,_,_,_,_,K,h2⟩:=kA h;obtain⟨rfl,G⟩:=aw.rd K S;obtain⟨q,U2,_,_,_,_,h3,h4⟩:=kA h2;obtain⟨rfl,S2⟩:=aw.rd h3 G;obtain⟨rfl,e2,e3,c,g1,J⟩:=qpg (w:=w) (ox:=x) (oy:=y) hT h4 (G.hrel _ mS) (S2.hrel _ mS);exact cb.same (by unfold execOp;simp only[ho];exact vL g1) (S.take0 J e2 (λn hn=>by rw[e3]at hn;cases hn))}|unOp op t x=>{simp only[ho]at h;obtain⟨u,U1,_,_,_,_,K,h2⟩:=kA h;obtain⟨rfl,G⟩:=aw.rd K S;obtain⟨rfl,e2,e3,c,g1,J⟩:=qro (P:=P) (w:=w) h2 (G.hrel _ mS);exact cb.same (by unfold execOp;simp_all) (S.take0 J e2 (λn hn=>by rw[e3]at hn;cases hn))}|convert s d x=>{simp only[ho]at h;obtain⟨u,U1,_,_,_,_,K,h2⟩:=kA h;obtain⟨rfl,G⟩:=aw.rd K S;obtain⟨rfl,e2,e3,c,g1,J⟩:=qkr (w:=w) hT h2 (G.hrel _ mS);exact cb.same (by unfold execOp;simp_all) (S.take0 J e2 (λn hn=>by rw[e3]at hn;cases hn))}|makeSlice t l c=>{simp only[ho]at h;split at h;{obtain⟨u,U1,_,_,_,_,K,h2⟩:=kA h;obtain⟨rfl,G⟩:=aw.rd K S;obtain⟨q,U2,_,_,_,_,h3,h4⟩:=kA h2;obtain⟨rfl,S2⟩:=aw.rd h3 G;obtain⟨r,w1,β',who',g1,J⟩:=qf1 hT h4 S (G.hrel _ mS) (S2.hrel _ mS) hf;exact⟨r,w1,β',who',.inl (by unfold execOp;simp_all),J⟩};{obtain⟨u,U1,_,_,_,_,K,h2⟩:=kA h;obtain⟨rfl,G⟩:=aw.rd K S;obtain⟨q,U2,_,_,_,_,h3,h4⟩:=kA h2;obtain⟨rfl,S2⟩:=aw.rd h3 G;obtain⟨r,w1,β',who',g1,J⟩:=qlc hT h4 S (G.hrel _ mS) (S2.hrel _ mS) hf;exact⟨r,w1,β',who',.inl (by unfold execOp;simp_all),J⟩}}|fieldAddr t x f=>{simp only[ho]at h;obtain⟨u,U1,_,_,_,_,K,h2⟩:=kA h;obtain⟨rfl,G⟩:=aw.rd K S;obtain⟨rfl,e2,e3,c,g1,J⟩:=q6u (w:=w) hT h2 (G.hrel _ mS);exact cb.same (by unfold execOp;simp_all) (S.take0 J e2 (λn hn=>G.hocc _ mS n (e3 n hn)))}|index t x i=>{simp only[ho]at h;obtain⟨u,U1,_,_,_,_,K,h2⟩:=kA h;obtain⟨rfl,G⟩:=aw.rd K S;obtain⟨q,U2,_,_,_,_,h3,h4⟩:=kA h2;obtain⟨rfl,S2⟩:=aw.rd h3 G;obtain⟨rfl,e2,e3,c,g1,J⟩:=qh9 hT h4 (G.hrel _ mS) (S2.hrel _ mS);exact cb.same (by unfold execOp;simp_all) (S.take0 J e2 (λn hn=>by rw[e3]at hn;cases hn))}|indexAddr t x i=>{simp only[ho]at h;split at h;{rename_i g;obtain⟨q,U2,_,_,_,_,h3,h4⟩:=kA h;obtain⟨rfl,S2⟩:=aw.rd h3 S;obtain⟨rfl,e2,e3,c,g1,J⟩:=qox hT h4 (d0▸S.glob) (S2.hrel _ mS);exact cb.same (by unfold execOp;simp only[ho];exact vL g1) (S.take0 J e2 (λn hn=>by rw[e3]at hn;cases hn))};obtain⟨u,U1,_,_,_,_,K,h2⟩:=kA h;obtain⟨rfl,G⟩:=aw.rd K S;obtain⟨q,U2,_,_,_,_,h3,h4⟩:=kA h2;obtain⟨rfl,S2⟩:=aw.rd h3 G;split at h4;{rename_i s n k;obtain⟨rfl,e2,e3,c,g1,J⟩:=qbb hT h4 S (G.hrel _ mS) (S2.hrel _ mS);exact cb.same (by unfold execOp;simp_all) (S.take0 J e2 (λm hm=>by{rw[e3 m hm];exact G.hocc _ mS n (by simp[Vs.occ,a9,aK])}))};{obtain⟨rfl,e2,e3,c,g1,J⟩:=q8j hT h4 S (G.hrel _ mS) (S2.hrel _ mS);exact cb.same (by unfold execOp;simp_all) (S.take0 J e2 (λn hn=>G.hocc _ mS n (e3 n hn)))}}|extract x i=>{simp only[ho]at h;obtain⟨r,g1,J⟩:=qc0 (P:=P) h S;exact cb.same (by unfold execOp;simp_all) J}|slice t x lo hi mx=>{cases mx with|some m=>{simp only[ho]at h;exact(kC h).elim}|none=>{simp only[ho]at h;obtain⟨u,U1,_,_,_,_,K,h2⟩:=kA h;have G:=aw.rdC K S;obtain⟨l,U2,_,_,_,_,h3,h4⟩:=kA h2;have hl:U2=U1/\Pt β who w l (lo.map a.eval):=by{cases lo with|none=>{obtain⟨rfl,rfl⟩:=kB h3;exact⟨rfl,trivial⟩}|some l0=>{obtain⟨q,U3,_,_,_,_,q1,q2⟩:=kA h3;obtain⟨rfl,S2⟩:=aw.rd q1 G;obtain⟨rfl,rfl⟩:=kB q2;exact⟨rfl,S2.hrel _ mS⟩}};obtain⟨rfl,hl⟩:=hl;obtain⟨k,U3,_,_,_,_,h5,h6⟩:=kA h4;have hh:U3=U2/\Pt β who w k (hi.map a.eval):=by{cases hi with|none=>{obtain⟨rfl,rfl⟩:=kB h5;exact⟨rfl,trivial⟩}|some l0=>{obtain⟨q,U4,_,_,_,_,q1,q2⟩:=kA h5;obtain⟨rfl,S2⟩:=aw.rd q1 G;obtain⟨rfl,rfl⟩:=kB q2;exact⟨rfl,S2.hrel _ mS⟩}};obtain⟨rfl,hh⟩:=hh;obtain⟨r,β',who',g1,J⟩:=qgz hT h6 G hl hh (hf 15 O) (D':=Dn D idx) (λn h=> .inl h) (Gt O) (dz G.dfn);exact⟨r,w,β',who',.inl (by unfold execOp;simp_all),J⟩}}|call c=>{obtain⟨callee,args,c0⟩:=c;cases callee with|value f=>simp[ho,VO]at b0|invoke r m=>simp[ho,VO]at b0|builtin b=>{simp only[ho]at h;unfold qdx at h;split at h;{rename_i x hargs;have hargs':args= #[x]:=by{apply Array.ext';simpa using hargs};subst hargs';split at h;{rename_i t ht;obtain⟨u,U1,_,_,_,_,K,h2⟩:=kA h;obtain⟨rfl,G⟩:=aw.rd K S;have S2:=G.fix (t:=t) hT;split at h2;{rename_i s n k;obtain⟨rfl,e2,e3,c,g1,J⟩:=qg2 (rt:=o.type) hT h2 ht S (G.hrel _ mS);exact cb.same (by{unfold execOp;simp only[ho,resolve,Sem.run_bind,Sem.run_pure,Result.andThen_ok,invoke,builtin];simp_all}) (S.take0 J e2 (λn hn=>by rw[e3]at hn;cases hn))};obtain⟨rfl,e2,e3,c,g1,J⟩:=qoe (rt:=o.type) hT h2 ht S2 (S2.hrel _ mS);exact cb.same (by{unfold execOp;simp only[ho,resolve,Sem.run_bind,Sem.run_pure,Result.andThen_ok,invoke,builtin];simp_all}) (S.take0 J e2 (λn hn=>by rw[e3]at hn;cases hn))};{exact(kC h).elim}};{rename_i x y hargs;have hargs':args= #[x,y]:=by{apply Array.ext';simpa using hargs};subst hargs';split at h;{obtain⟨u,U1,_,_,_,_,K,h2⟩:=kA h;have G:=aw.rdT K S;obtain⟨q,U2,_,_,_,_,h3,h4⟩:=kA h2;have S2:=aw.rdT h3 G;obtain⟨r,w1,β',who',g1,J⟩:=q90 (rt:=o.type) hT h4 S2 hf;exact⟨r,w1,β',who',.inl (by{unfold execOp;simp only[ho,resolve,Sem.run_bind,Sem.run_pure,Result.andThen_ok,invoke,builtin];simp_all}),J⟩};{rename_i a0 hmode;obtain⟨u,U1,_,_,_,_,K,h2⟩:=kA h;have G:=aw.rdC K S;obtain⟨q,U2,_,_,_,_,h3,h4⟩:=kA h2;have S2:=aw.rdT h3 G;obtain⟨r,w1,β',who',g1,J⟩:=qfl (rt:=o.type) hT h4 ((S2.swap.fix (t:=c0.getD 0 0) hT).swap) hf;exact⟨r,w1,β',who',.inl (by{unfold execOp;simp only[ho,resolve,Sem.run_bind,Sem.run_pure,Result.andThen_ok,invoke,builtin];simp_all}),J⟩}};{rename_i x y hargs;have hargs':args= #[x,y]:=by{apply Array.ext';simpa using hargs};subst hargs';obtain⟨u,U1,_,_,_,_,K,h2⟩:=kA h;obtain⟨rfl,G⟩:=aw.rd K S;obtain⟨q,U2,_,_,_,_,h3,h4⟩:=kA h2;obtain⟨rfl,S2⟩:=aw.rd h3 G;obtain⟨r,w1,β',who',g1,J⟩:=qkj (rt:=o.type) hT h4 S2 hf;exact⟨r,w1,β',who',.inl (by{unfold execOp;simp only[ho,resolve,Sem.run_bind,Sem.run_pure,Result.andThen_ok,invoke,builtin];simp_all}),J⟩};{rename_i x y hargs;have hargs':args= #[x,y]:=by{apply Array.ext';simpa using hargs};subst hargs';obtain⟨u,U1,_,_,_,_,K,h2⟩:=kA h;obtain⟨rfl,G⟩:=aw.rd K S;obtain⟨q,U2,_,_,_,_,h3,h4⟩:=kA h2;obtain⟨rfl,S2⟩:=aw.rd h3 G;have r1:=G.hrel _ mS;have r2:=S2.hrel _ mS;unfold Hs at h4;split at h4;{rename_i k n k' n';obtain⟨rfl,rfl⟩:=kB h4;have e1:a.eval x= .int k n:=r1;have e2:a.eval y= .int k' n':=r2;exact cb.same (c:= .int k (if n'>n then n' else n)) (by{unfold execOp;simp only[ho,resolve,Sem.run_bind,Sem.run_pure,Result.andThen_ok,invoke,builtin];have hm:(#[x,y]:Array Operand).map a.eval= #[a.eval x,a.eval y]:=by{simp};rw[hm,e1,e2];rfl}) (S.take0 rfl rfl (λn hn=>by cases hn))};{exact(kC h4).elim}};{rename_i x y hargs;have hargs':args= #[x,y]:=by{apply Array.ext';simpa using hargs};subst hargs';obtain⟨u,U1,_,_,_,_,K,h2⟩:=kA h;obtain⟨rfl,G⟩:=aw.rd K S;obtain⟨q,U2,_,_,_,_,h3,h4⟩:=kA h2;obtain⟨rfl,S2⟩:=aw.rd h3 G;have r1:=G.hrel _ mS;have r2:=S2.hrel _ mS;unfold Hr at h4;split at h4;{rename_i k n k' n';obtain⟨rfl,rfl⟩:=kB h4;have e1:a.eval x= .int k n:=r1;have e2:a.eval y= .int k' n':=r2;exact cb.same (c:= .int k (if n'<n then n' else n)) (by{unfold execOp;simp only[ho,resolve,Sem.run_bind,Sem.run_pure,Result.andThen_ok,invoke,builtin];have hm:(#[x,y]:Array Operand).map a.eval= #[a.eval x,a.eval y]:=by{simp};rw[hm,e1,e2];rfl}) (S.take0 rfl rfl (λn hn=>by cases hn))};{exact(kC h4).elim}};{exact(kC h).elim}}}|makeFunc fn first cap=>{cases fn with|func f=>{simp only[ho]at h;obtain⟨c,who',g1,J⟩:=q92 h ho S;exact cb.same g1 J}|_=>{simp only[ho]at h;exact(kC h).elim}}|_=>{simp only[ho]at h;exact(kC h).elim}
end
end Go.Vs
