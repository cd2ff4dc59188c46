import Derived.Test.YtfleaheoikmdgaaGreatDoorVa
set_option linter.unusedVariables false
set_option linter.unusedSimpArgs false
set_option linter.unusedSectionVars false
set_option linter.defProp false
namespace Go.Vs
section
variable {P:Program} {CO:qx} {T:TT} {E:Entry} {D:Nat->Prop} {β:Beta} {who:Who} {U U':Slots} {hd:List (AV×Value)} {a:Act} {w w':World} {R W:List Nat}
def Yk {v:AV} {c:Value} (h:Rel β who w v c) (hp:(cellsOf v).all plainCell=true):
 CellsRel β who w (cellsOf v) c.cells/\names v=[]/\Vs.occ v=[]/\(∀x∈c.cells.toList,x.oneCell'=true):=by
 have hp': ∀x∈cellsOf v,plainCell x=true:=zX.1 hp;cases v with
 |agg cells=>
  obtain⟨arr,rfl,h2⟩:=h;refine⟨h2,Q9 λc hc=>(q1l (hp' c hc)).1,Q9 λc hc=>(q1l (hp' c hc)).2,?_⟩
  intro x hx;obtain⟨j,hj,rfl⟩:=zi hx;have hj':j<cells.length:=by rw[<-h2.1];simpa [Value.cells]using hj
  have hr:=h2.2 j hj';have e:arr.getD j undef=(Value.agg arr).cells.toList[j]:=by simp[Value.cells,Array.getD,h2.1,hj']
  rw[e]at hr;refine Za hr λhd=> ?_
  have:=hp' _ (zI hj');rw[hd]at this;cases this
 |tup vs=>have:=hp' (.tup vs) (by simp[cellsOf]);cases this
 |bx o cs=>have:=hp' (.bx o cs) (by simp[cellsOf]);cases this
 |dead=>have:=hp' .dead (by simp[cellsOf]);cases this
 |lit u=>have:=hp' (.lit u) (by simp[cellsOf]);cases this
 |ref s n sz win=>have:=hp' (.ref s n sz win) (by simp[cellsOf]);cases this
 |ptr s n sz i j=>have:=hp' (.ptr s n sz i j) (by simp[cellsOf]);cases this
 |iptr g t xs i j=>have:=hp' (.iptr g t xs i j) (by simp[cellsOf]);cases this
 |dp n t xs hh=>have:=hp' (.dp n t xs hh) (by simp[cellsOf]);cases this
 |dq n t xs hh=>have:=hp' (.dq n t xs hh) (by simp[cellsOf]);cases this
 |fd n t xs hh=>have:=hp' (.fd n t xs hh) (by simp[cellsOf]);cases this
 |mm n t xs o=>have:=hp' (.mm n t xs o) (by simp[cellsOf]);cases this
 |dr s n k=>have:=hp' (.dr s n k) (by simp[cellsOf]);cases this
 |wn n t xs=>have:=hp' (.wn n t xs) (by simp[cellsOf]);cases this
 |bool b=>
  have h1:=Za (β:=β) (who:=who) (w:=w) (c:= .bool b) h (by simp)
  rw[Xb h1]
  exact⟨⟨rfl,fun j hj=>by have:j=0:=by simp[cellsOf]at hj;exact hj
                          subst this;exact h⟩,rfl,rfl,λx hx=>by grind⟩
 |int k n=>
  have h1:=Za (β:=β) (who:=who) (w:=w) (c:= .int k n) h (by simp)
  rw[Xb h1]
  exact⟨⟨rfl,fun j hj=>by have:j=0:=by simp[cellsOf]at hj;exact hj
                          subst this;exact h⟩,rfl,rfl,λx hx=>by grind⟩
 |sl o t xs=>
  have h1:=Za (β:=β) (who:=who) (w:=w) (c:= .sl o t xs) h (by simp)
  rw[Xb h1];have hpl:=q1l (hp' (.sl o t xs) (by simp[cellsOf]))
  exact⟨⟨rfl,fun j hj=>by have:j=0:=by simp[cellsOf]at hj;exact hj
                          subst this;exact h⟩,hpl.1,hpl.2,λx hx=>by grind⟩
def qm9 {n:Nat} {f:(t:Ty)->List (Den t)->Option (List (Den t))} {av av':AV} {x:Value} {β':Beta} (h:putN n f av=some av') (hr:Rel β who w av x)
 (hnd:(names av).Nodup)
 (kp: ∀c v,n∉qc c->(∀m∈occC c,m∈Vs.occ av)->RelC β who w c v->RelC β' who w' c v)
 (hnode: ∀t xs ys v,RelN β who w n t xs v->f t xs=some ys->RelN β' who w' n t ys v)
 (hwin: ∀t xs ys v,RelN β who w n t xs v->RelW (β 98) w t.size v->f t xs=some ys->RelW (β' 98) w' t.size v)
 (hbx: ∀m b arr el,n∈names av->m≠n->who b=some m->w.heap[b]? =some (.cells arr el (0,0))->w'.heap[b]? =some (.cells arr el (0,0))) (hβ: ∀m∈Vs.occ av,β' m=β m)
 (hin:n∈names av) (htop: ∀cs,av≠ .bx (.nm n) cs) (ht: ∀vs,av≠ .tup vs):
 Rel β' who w' av' x/\names av'=names av/\Vs.occ av'=Vs.occ av:=by
 have one: ∀c c' v,(∀m∈occC c,m∈Vs.occ av)->putC n f c=some c'->RelC β who w c v->RelC β' who w' c' v:=by
  intro c c' v ho hc hv;rcases Z4 hc with⟨t,xs,ys,rfl,hy,rfl⟩|⟨t,xs,ys,rfl,hy,rfl⟩|⟨hne,rfl⟩
  . exact hnode t xs ys v hv hy
  . exact⟨hnode t xs ys v hv.1 hy,hwin t xs ys v hv.1 hv.2 hy⟩
  . exact kp _ _ hne ho hv
 have many: ∀cs cs' arr,(∀m∈cs.flatMap occC,m∈Vs.occ av)->putL n f cs=some cs'->CellsRel β who w cs arr->CellsRel β' who w' cs' arr:=by
  intro cs cs' arr ho hc hv;obtain⟨l1,l2,l3,l4⟩:=Jh hc;refine⟨by rw[hv.1,l1],λj hj=> ?_⟩
  have hj':j<cs.length:=by rw[<-l1];exact hj
  exact one _ _ _ (λm hm=>ho m (zC.2 ⟨_,zI hj',hm⟩)) (l4 j hj' hj) (hv.2 j hj')
 cases av with
 |bx o cells=>
  simp only[putN]at h;split at h
  . rename_i cs hcs;injection h with h
    subst h;obtain⟨l1,l2,l3,l4⟩:=Jh hcs;cases o with
    |nm m=>
     obtain⟨h0,b,arr,el,e1,e2,e3,e4⟩:=hr;have hmn:m≠n:=by rintro rfl;exact htop cells rfl
     refine⟨⟨by rw[hβ m (by simp[Vs.occ,occA])];exact h0,b,arr,el,e1,hbx m b arr el hin hmn e3 e2,e3,many _ _ _ (λq hq=>by simp only[Vs.occ,occA,zJ];exact .inr hq) hcs e4⟩,?_,?_⟩
     . simp only[names,qi,l2]
     . simp only[Vs.occ,occA,l3]
    |_=>exact hr.elim
  . cases h
 |agg cells=>
  simp only[putN]at h;split at h
  . rename_i cs hcs;injection h with h
    subst h;obtain⟨l1,l2,l3,l4⟩:=Jh hcs;obtain⟨arr,e1,e2⟩:=hr;exact⟨⟨arr,e1,many _ _ _ (λq hq=>hq) hcs e2⟩,by simp only[names,qi,l2],by simp only[Vs.occ,occA,l3]⟩
  . cases h
 |tup vs=>exact absurd rfl (ht vs)
 |sl o t xs=>
  have hc:=one (.sl o t xs) av' x (λm hm=>hm) h hr
  obtain⟨k1,k2⟩:=J7 (c:= .sl o t xs) h;rcases Z4 (c:= .sl o t xs) h with⟨t',xs',ys,e,_,rfl⟩|⟨t',xs',ys,e,_,rfl⟩|⟨_,rfl⟩
  . exact⟨hc,k1,k2⟩
  . cases e
  . exact⟨hc,rfl,rfl⟩
 |wn m t xs=>
  have hc:=one (.wn m t xs) av' x (λm hm=>hm) h hr
  obtain⟨k1,k2⟩:=J7 (c:= .wn m t xs) h;rcases Z4 (c:= .wn m t xs) h with⟨t',xs',ys,e,_,rfl⟩|⟨t',xs',ys,e,_,rfl⟩|⟨_,rfl⟩
  . cases e
  . exact⟨hc,k1,k2⟩
  . exact⟨hc,rfl,rfl⟩
 |dq m t xs hh=>
  simp only[putN,putC]at h;split at h
  . cases h
  . rename_i e;simp only[names,qi,qc,zA]at hin;exact absurd hin.symm e
 |fd m t xs hh=>
  simp only[putN,putC]at h;split at h
  . cases h
  . rename_i e;simp only[names,qi,qc,zA]at hin;exact absurd hin.symm e
 |mm m t xs o=>
  simp only[putN,putC]at h;split at h
  . cases h
  . rename_i e;simp only[names,qi,qc,zA]at hin;exact absurd hin.symm e
 |dp m t xs hh=>
  simp only[putN,putC]at h;split at h
  . cases h
  . rename_i e;simp only[names,qi,qc,zA]at hin;exact absurd hin.symm e
 |_=>simp[names,qi,qc]at hin
def q3k {n:Nat} {f:(t:Ty)->List (Den t)->Option (List (Den t))} {av av':AV} (h:putN n f av=some av') (ht: ∀vs,av≠ .tup vs):
 names av'=names av/\Vs.occ av'=Vs.occ av:=by
 cases av with
 |bx o cells=>
  simp only[putN]at h;split at h
  . rename_i cs hcs;injection h with h
    subst h;obtain⟨l1,l2,l3,l4⟩:=Jh hcs;cases o<;>exact⟨by simp only[names,qi,l2],by simp only[Vs.occ,occA,l3]⟩
  . cases h
 |agg cells=>
  simp only[putN]at h;split at h
  . rename_i cs hcs;injection h with h
    subst h;obtain⟨l1,l2,l3,l4⟩:=Jh hcs;exact⟨by simp only[names,qi,l2],by simp only[Vs.occ,occA,l3]⟩
  . cases h
 |tup vs=>exact absurd rfl (ht vs)
 |sl o t xs=>
  obtain⟨k1,k2⟩:=J7 (c:= .sl o t xs) h;rcases Z4 (c:= .sl o t xs) h with⟨t',xs',ys,e,_,rfl⟩|⟨t',xs',ys,e,_,rfl⟩|⟨_,rfl⟩
  . exact⟨k1,k2⟩
  . cases e
  . exact⟨rfl,rfl⟩
 |wn m t xs=>
  obtain⟨k1,k2⟩:=J7 (c:= .wn m t xs) h;rcases Z4 (c:= .wn m t xs) h with⟨t',xs',ys,e,_,rfl⟩|⟨t',xs',ys,e,_,rfl⟩|⟨_,rfl⟩
  . cases e
  . exact⟨k1,k2⟩
  . exact⟨rfl,rfl⟩
 |dq m t xs hh=>
  simp only[putN,putC]at h
  grind
 |fd m t xs hh=>
  simp only[putN,putC]at h
  grind
 |mm m t xs o=>
  simp only[putN,putC]at h
  grind
 |dp m t xs hh=>
  simp only[putN,putC]at h
  grind
 |_=>simp only[putN,putC,zH]at h;subst h;exact⟨rfl,rfl⟩
def q9l {n:Nat} {f:(t:Ty)->List (Den t)->Option (List (Den t))} {c c':AV} {t:Ty} {xs:List (Den t)} (hf:findC n c=some ⟨t,xs⟩) (h:putC n f c=some c'): ∃ys,f t xs=some ys:=by
 cases c with
 |sl o t' xs'=>
  cases o with
  |nm m=>
   simp only[findC]at hf;split at hf
   . rename_i e;injection hf with hf
     cases hf
     rcases Z4 h with⟨t2,xs2,ys,e2,hy,_⟩|⟨t2,xs2,ys,e2,_⟩|⟨hne,_⟩
     . grind
     . cases e2
     . exact absurd (by simp[qc,e]) hne
   . cases hf
  |_=>cases hf
 |wn m t' xs'=>
  simp only[findC]at hf;split at hf
  . rename_i e;injection hf with hf
    cases hf
    rcases Z4 h with⟨t2,xs2,ys,e2,_⟩|⟨t2,xs2,ys,e2,hy,_⟩|⟨hne,_⟩
    . cases e2
    . grind
    . exact absurd (by simp[qc,e]) hne
  . cases hf
 |_=>cases hf
def qam {n:Nat} {f:(t:Ty)->List (Den t)->Option (List (Den t))} {t:Ty} {xs:List (Den t)}: ∀{cs cs':List AV},findL n cs=some ⟨t,xs⟩->putL n f cs=some cs'-> ∃ys,f t xs=some ys
 |[],_,hf,_=>by cases hf
 |c::cs,cs',hf,h=>by
  simp only[putL]at h;split at h
  . rename_i c1 cs1 h1 h2;simp only[findL]at hf;split at hf
    . rename_i x hx;injection hf with hf
      subst hf;exact q9l hx h1
    . exact qam hf h2
  . cases h
def qme {n:Nat} {f:(t:Ty)->List (Den t)->Option (List (Den t))} {av av':AV} {t:Ty} {xs:List (Den t)} (hf:findN n av=some ⟨t,xs⟩) (h:putN n f av=some av'): ∃ys,f t xs=some ys:=by
 cases av with
 |bx o cells=>
  simp only[putN]at h;split at h
  . exact qam hf (by assumption)
  . cases h
 |agg cells=>
  simp only[putN]at h;split at h
  . exact qam hf (by assumption)
  . cases h
 |sl o t' xs'=>exact q9l (c:= .sl o t' xs') hf h
 |wn m t' xs'=>exact q9l (c:= .wn m t' xs') hf h
 |_=>simp[findN,findC]at hf
def qen (hT:TTok P T) {idx t:Nat} {p v:AV} {cp cv:Value} {u:Unit} (h:Run CO (qeu T idx t p v) U u U' R W)
 (S:Sim E D β who U ((p,cp)::(v,cv)::hd) a w) (hf: ∀k,k<16-> ¬D (fresh idx k)):
 ∃w' β',(Instr.storeAt t cp cv).run P w= .ok () w'/\Sim E (Dn D idx) β' who U' hd a w':=by
 have hp:Rel β who w p cp:=S.hrel _ mS;have S0:=S.drop rfl;have hv:Rel β who w v cv:=S0.hrel _ mS;unfold qeu at h;split at h
 . exact(kC h).elim
 . rename_i ti hti';have hti:=hT t _ hti';split at h
   . exact(kC h).elim
   . rename_i hlen;simp only[ne_eq,Decidable.not_not]at hlen;split at h
     . rename_i s n sz i j
       have hupd: ∃av',Je idx n sz i j (cellsOf v) (U.get s)=some av'/\U'=U.set s av':=by
        obtain⟨al,U1,_,_,_,_,h1,h2⟩:=kA h;obtain⟨hal,rfl⟩:=kF h1
        have nob: ∀{m:Option Nat},boxNm al=m->m≠some n-> ∀c,U1.get s≠ .bx (.nm n) c:=λhb hne c e=>by
         subst hal;rw[e]at hb;exact hne hb.symm
        split at h2
        . rename_i m hm;split at h2
          . obtain⟨av',hss,this⟩:=kH h2;exact⟨av',q9g hss,this⟩
          . rename_i hne;obtain⟨av',hss,this⟩:=kH h2;exact⟨av',q1f hss (nob hm λe=>hne (by injection e)),this⟩
        . rename_i hm;obtain⟨av',hss,this⟩:=kH h2;exact⟨av',q1f hss (nob hm (by simp)),this⟩
       obtain⟨U1,rfl⟩: ∃U1,U1=U:=⟨U,rfl⟩;obtain⟨av',hss,this⟩:=hupd;subst this
       have node:Ya n sz i j (cellsOf v) (U1.get s)=some av'->(∀cs,U1.get s≠ .bx (.nm n) cs)->
        ∃w' β',(Instr.storeAt t cp cv).run P w= .ok () w'/\Sim E (Dn D idx) β' who (U1.set s av') hd a w':=by
        intro hn htop;unfold Ya at hn;split at hn
        . rename_i hc;simp only[zF]at hc;obtain⟨hpl,hfs⟩:=hc;cases hfn:findN n (U1.get s)with
          |none=>rw[hfn]at hfs;cases hfs
          |some y=>
           obtain⟨ty,xs⟩:=y;obtain⟨g1,g2⟩:=q6o (S.rel s) hfn;obtain⟨q1,q2,q3,q4⟩:=Yk hv hpl;have ht: ∀vs,U1.get s≠ .tup vs:=λvs e=>by rw[e]at hfn;simp[findN,findC]at hfn
           obtain⟨ys,hys⟩:=qme hfn hn;split at hys
           . rename_i hsz;subst hsz;rcases hp with⟨b,o,L,cap,e1,e2,rfl⟩|⟨b,e1,_,_⟩
             . rcases g1.2 with⟨e3,_⟩|⟨b',o',cap',arr,el,e3,e4,e5,e6,e7,e8⟩
               . rw[e3]at e1;cases e1
               . rw[e3]at e1;injection e1 with w1 w2 w3
                 injection w1 with w1;injection w1 with w1 w1' _
                 subst w1 w1' w2 w3;have hsl:cv.cells.toList.length=(cellsOf v).length:=by rw[zY1,q1.1]
                 have hjl:j+(cellsOf v).length<=ty.size:=by
                  cases hse:Zk ty (xs.getD i ty.zero) j (cellsOf v)with
                  |none=>rw[hse]at hys;cases hys
                  |some x'=>
                   unfold Zk at hse
                   grind
                 have hcap:xs.length*ty.size<=cap'*ty.size:=zN _ e6;have hil:(i+1)*ty.size<=xs.length*ty.size:=zN _ O;rw[zP1]at hil;have hrun:=Zj hti (c:=cv) (o:=o'+i*ty.size+j) e4 (by rw[q1.1,hlen]) (by rw[q1.1];omega) q4
                 obtain⟨β',S'⟩:=Sim.write (idx:=idx) (s:=s) (n:=n) (g:=b') (av':=av') (row:=ql arr (o'+i*ty.size+j) cv.cells.toList) S0 hf e7 g2
                  (fun β' z1 z2 kp himm=>by
                    refine(qm9 (β':=β') (w':=w.setRow b' (ql arr (o'+i*ty.size+j) cv.cells.toList)) hn (S.rel s) (S.nod s) ?_ ?_ ?_ ?_ (λm hm=>z2 m (S.occ s m hm)) g2 htop ht).1
                    . intro c x hnc hoc hcx;obtain⟨r1,r2,r3,r4⟩:=q1r hcx;exact r4 _ _ _ _ (kp c x (λm hm=>S.occ s m (hoc m (by rwa [r3]at hm))) (by rw[r2];exact hnc) r1)
                    . intro t2 xs2 ys2 v2 hN hf2;split at hf2
                      . rename_i hsz2;cases hse:Zk t2 (xs2.getD i t2.zero) j (cellsOf v)with
                        |none=>rw[hse]at hf2;cases hf2
                        |some x'=>
                         rw[hse]at hf2;simp only[zf1,zH]at hf2;subst hf2;obtain⟨hv2,hN2⟩:=hN;refine⟨by rw[z2 n (S.occ s n (qj g2))];exact hv2,?_⟩
                         rcases hN2 with⟨f1,f2⟩|⟨b2,o2,cap2,arr2,el2,f1,f2,f3,f4,f5,f6⟩
                         . grind
                         . have f1':=f1;rw[hv2,e3]at f1;injection f1 with y1 y2 y3
                           injection y1 with y1;injection y1 with y1 y1' _
                           subst y1 y1' y3;rw[e4]at f2;injection f2 with f2;injection f2 with f2 f2' _
                           subst f2 f2'
                           refine .inr ⟨b',o',cap',ql arr (o'+i*ty.size+j) cv.cells.toList,el,by rw[f1'];simp,setRow_heap w b' arr _ el _ e4,
                            by rw[Qm (by rw[hsl];omega)];exact f3,by simpa using f4,f5,?_⟩
                           rw[hsz2];refine Elems.store (who:=who) (w:=w) (β:=β') e4 f6 (by rw[<-y2];exact e2) hsl ?_ hse ?_ (by grind)
                           . grind
                           . intro k hk;rw[<-hsz2];have hvk:=kp v cv (λm hm=>by rw[q3]at hm;cases hm) (by rw[q2];simp) hv
                             obtain⟨p1,p2,p3,p4⟩:=Yk hvk hpl;have:=p1.2 k hk;have hpk:plainCell (cellsOf v)[k]=true:=zX.1 hpl _ (zI hk)
                             have e9:cv.cells.toList.getD k undef=cv.cells.getD k undef:=by
                              simp[List.getD_eq_getElem?_getD,Array.getD_eq_getD_getElem?]
                             rw[e9];exact q2a hpk this
                      . cases hf2
                    . intro t2 xs2 ys2 v2 hN hW hf2;split at hf2
                      . rename_i hsz2;obtain⟨arr0,w1,w2⟩:=hW;obtain⟨hv2,hN2⟩:=hN;refine⟨arr0,by rw[z2 98 S.d98];exact w1,λb2 o2 L2 cap2 arr2 el2 y1 y2=> ?_⟩
                        have y3:=y1;rw[hv2,e3]at y3;injection y3 with y3 y4 y5
                        injection y3 with y3;injection y3 with y3 y3' _
                        subst y3 y3' y4 y5;rw[setRow_heap w b' arr _ el _ e4]at y2;injection y2 with y2;injection y2 with y2 _
                        subst y2;obtain⟨w3,w4⟩:=w2 _ _ _ _ _ _ y1 e4;have hfit:o'+i*ty.size+j+cv.cells.toList.length<=arr.size:=by rw[hsl];omega
                        refine⟨by rw[Qm hfit];exact w3,λq hq=> ?_⟩
                        rw[Qk hfit,iN' (by grind)]
                        exact w4 q hq
                      . cases hf2
                    . intro m b2 arr2 el2 hnin hmn hwm hh;rw[setRow_other w b' b2 _ (by grind)]
                      exact hh)
                  (λm hm=>by rw[(q3k hn ht).1]at hm;exact .inl hm) (by rw[(q3k hn ht).1];exact S.nod s)
                  (λm hm=>by rw[(q3k hn ht).2]at hm;exact .inl (S.occ s m hm))
                 exact⟨_,β',hrun,S'⟩
             . exfalso;rcases g1.2 with⟨e3,_⟩|⟨b',o',cap',arr,el,e3,_⟩<;>(rw[e3]at e1;cases e1)
           . cases hys
        . cases hn
       unfold Je at hss;split at hss
       . rename_i m cells hav;split at hss
         . rename_i hmn;have hmn':=hmn.symm;subst hmn';split at hss
           . rename_i cs' ho;split at hss
             . rename_i hfit;injection hss with hss
               subst hss;have hb:=S.rel s;rw[hav]at hb;obtain⟨hβ,b,arr,el,e1,e2,e3,e4⟩:=hb
               have hc:cp= .pointer (some ⟨b,j,none⟩):=by
                rcases hp with⟨b',o',L,cap,q1,_,_⟩|⟨b',q1,_,q3⟩
                . rw[<-hβ,e1]at q1;cases q1
                . rw[<-hβ,e1]at q1;injection q1 with q1;injection q1 with q1;injection q1 with q1
                  subst q1;exact q3
               subst hc;obtain⟨g1,g2,g3⟩:=q3c hv ho;obtain⟨l1,l2,l3,l4,l5⟩:=Zd ho;have hsl:cv.cells.toList.length=(cellsOf v).length:=by rw[zY1,g1.1]
               have hrun:=Zj hti (c:=cv) (o:=j) e2 (by rw[g1.1,hlen]) (by rw[g1.1,e4.1];exact hfit) g3
               have hgn:n∈names (U1.get s):=by rw[hav];simp[names,qi]
               have hnods:=S.nod s;rw[hav]at hnods;simp only[names,qi,zU]at hnods;have hfit':j+cs'.length<=cells.length:=by rw[l1];exact hfit
               have hrl:=Xe hfit'
               have hnames: ∀m∈(Qd cells j cs').flatMap qc,m∈cells.flatMap qc\/m∈cs'.flatMap qc:=by
                intro m hm;rw[Qo _ _ _ hfit']at hm;simp only[ze1,zL]at hm;rcases hm with(hm|hm)|hm
                . obtain⟨c,hc,hm⟩:=zC.1 hm;exact .inl (zC.2 ⟨c,zE1 hc,hm⟩)
                . exact .inr hm
                . obtain⟨c,hc,hm⟩:=zC.1 hm;exact .inl (zC.2 ⟨c,zq1 hc,hm⟩)
               have hoccs: ∀m∈(Qd cells j cs').flatMap occC,m∈cells.flatMap occC\/m∈cs'.flatMap occC:=by
                intro m hm;rw[Qo _ _ _ hfit']at hm;simp only[ze1,zL]at hm;rcases hm with(hm|hm)|hm
                . obtain⟨c,hc,hm⟩:=zC.1 hm;exact .inl (zC.2 ⟨c,zE1 hc,hm⟩)
                . exact .inr hm
                . obtain⟨c,hc,hm⟩:=zC.1 hm;exact .inl (zC.2 ⟨c,zq1 hc,hm⟩)
               have hvd: ∀m∈names v,∀t,m∉names (U1.get t):=S0.hdis _ mS;have hvo: ∀m∈names v,D m:=λm hm=>S0.hocc _ mS m (qj hm)
               have hcs'n: ∀m∈cs'.flatMap qc,m∈names v\/ ∃k,k<16/\m=fresh idx k:=by
                intro m hm;rcases l3 m hm with h|⟨k,_,hk,e⟩
                . rw[g2];exact .inl h
                . exact .inr ⟨k,O,e⟩
               have hslotD: ∀m∈names (U1.get s),D m:=λm hm=>S.occ s m (qj hm)
               have hcs'd: ∀m∈cs'.flatMap qc,m∉names (U1.get s):=by
                intro m hm h;rcases hcs'n m hm with h2|⟨k,hk,rfl⟩
                . exact hvd m h2 s h
                . exact hf k hk (hslotD _ h)
               have hcn:(cs'.flatMap qc).Nodup:=by
                refine l5 ?_ ?_
                . rw[<-g2];have:=S0.hnod;simp only[fC]at this;exact(zG.1 this).1
                . intro m hm k hk e;rw[<-g2]at hm;exact hf k O (e▸hvo m hm)
               obtain⟨β',S'⟩:=Sim.write (idx:=idx) (s:=s) (n:=n) (g:=b) (av':= .bx (.nm n) (Qd cells j cs')) (row:=ql arr j cv.cells.toList) S0 hf e3 hgn
                (fun β' z1 z2 kp himm=>by
                  have hrow:j+cv.cells.toList.length<=arr.size:=by rw[hsl,e4.1];exact hfit
                  refine⟨by rw[z2 n (hslotD n hgn)];exact hβ,b,ql arr j cv.cells.toList,el,e1,setRow_heap w b arr _ el _ e2,e3,?_,?_⟩
                  . rw[Qm hrow,e4.1,hrl]
                  . intro i hi;have hi':i<cells.length:=by rw[<-hrl];exact hi
                    rw[Jz hfit' hi'];rw[Array.getD_eq_getD_getElem?,Qk hrow];split
                    . rename_i hcc;rw[iP (by rw[hsl,<-l1];exact hcc)]
                      have hkv:i-j<(cellsOf v).length:=O;obtain⟨k1,k2⟩:=l2 (i-j) hkv O;have hvk:=kp v cv (λm hm=>S0.hocc _ mS m hm) (λh=>hvd n h s hgn) hv
                      obtain⟨p1,p2,p3⟩:=q3c hvk ho;have:=p1.2 (i-j) hkv;refine q7a k2 ?_ (z1 _ k1);rw[Array.getD_eq_getD_getElem?]at this;simpa using this
                    . rename_i hcc;rw[iN' (by rw[hsl,<-l1];exact hcc),<-Array.getD_eq_getD_getElem?]
                      obtain⟨r1,r2,r3,r4⟩:=q1r (e4.2 i hi');refine r4 _ _ _ _ (kp _ _ (λm hm=>S.occ s m ?_) ?_ r1)
                      . rw[hav];simp only[Vs.occ,occA,zJ];exact .inr (zC.2 ⟨_,zI hi',by rwa [<-r3]⟩)
                      . rw[r2];exact λh=>hnods.1 (zC.2 ⟨_,zI hi',h⟩))
                (fun m hm=>by
                  simp only[names,qi,zJ]at hm;rcases hm with rfl|hm
                  . exact .inl hgn
                  . rcases hnames m hm with h|h
                    . rw[hav];simp only[names,qi,zJ];exact .inl (.inr h)
                    . exact .inr (hcs'n m h))
                (by
                  simp only[names,qi,zU];constructor
                  . intro hm;rcases hnames n hm with h|h
                    . exact hnods.1 h
                    . exact hcs'd n h hgn
                  . rw[Qo _ _ _ hfit'];simp only[ze1]
                    have hsub1: ∀m∈(cells.take j).flatMap qc,m∈names (U1.get s):=λm hm=>by
                     obtain⟨c,hc,hm⟩:=zC.1 hm;rw[hav];simp only[names,qi,zJ];exact .inr (zC.2 ⟨c,zE1 hc,hm⟩)
                    have hsub2: ∀m∈(cells.drop (j+cs'.length)).flatMap qc,m∈names (U1.get s):=λm hm=>by
                     obtain⟨c,hc,hm⟩:=zC.1 hm;rw[hav];simp only[names,qi,zJ];exact .inr (zC.2 ⟨c,zq1 hc,hm⟩)
                    have hsplit:cells=cells.take j++(cells.drop j).take cs'.length++cells.drop (j+cs'.length):=by
                     rw[zG1,<-List.drop_drop,zQ1,zQ1]
                    have hnn:=hnods.2;rw[hsplit]at hnn;simp only[ze1,zG1]at hnn;have h1:=zG.1 hnn;have h2:=zG.1 h1.2.1;refine zG.2 ⟨zG.2 ⟨h1.1,hcn,?_⟩,h2.2.1,?_⟩
                    . rintro x hx y hy rfl
                      exact hcs'd x hy (hsub1 x hx)
                    . rintro x hx y hy rfl
                      simp only[zL]at hx;rcases hx with hx|hx
                      . exact h1.2.2 x hx x (by simp only[zL];exact .inr hy) rfl
                      . exact hcs'd x hx (hsub2 x hy))
                (fun m hm=>by
                  simp only[Vs.occ,occA,zJ]at hm;rcases hm with rfl|hm
                  . exact .inl (hslotD _ hgn)
                  . rcases hoccs m hm with h|h
                    . exact .inl (S.occ s m (by rw[hav];simp only[Vs.occ,occA,zJ];exact .inr h))
                    . rcases hcs'n m (l4 m h)with h|h
                      . exact .inl (hvo m h)
                      . exact .inr h)
               exact⟨_,β',hrun,S'⟩
             . cases hss
           . cases hss
         grind
       . grind
     . exact(kC h).elim
end
section
variable {P:Program} {CO:qx} {T:TT} {E:Entry} {D:Nat->Prop} {β:Beta} {who:Who} {U U':Slots} {hd:List (AV×Value)} {a:Act} {w w':World} {R W:List Nat}
def Sim.handWrite {n m g:Nat} {t t0:Ty} {xs:List (Den t0)} {ys:List (Den t)} {c c':Value} {row:Array Value} {D':Nat->Prop} (S:Sim E D β who U ((.sl (.nm n) t0 xs,c)::hd) a w)
 (hm: ¬D m) (hD: ∀x,D x->D' x) (hDm:D' m) (hDF: ¬D' FN) (hg:who g=some n)
 (hr: ∀β' who',β' m=c'->(∀b,who b=some n->who' b=some m)->(∀b,who b=none->who' b=none/\(w.setRow g row).heap[b]? =w.heap[b]?)->RelN β' who' (w.setRow g row) m t ys c'):
 ∃β' who',Sim E D' β' who' U ((.sl (.nm m) t ys,c')::hd) a (w.setRow g row):=by
 let β':Beta:=λx=>if x=m then c' else β x
 let who':Who:=λb=>if who b=some n then some m else who b
 have hoth: ∀b,b≠g->(w.setRow g row).heap[b]? =w.heap[b]? :=λb hb=>setRow_other w g b row hb
 have hgn: ∀b,who b=none->b≠g:=λb hb e=>by grind
 have hnF:n≠FN:=λe=>S.dfn (S.hocc _ mS FN (by rw[<-e];simp[Vs.occ,occA,occC]))
 have hnin: ∀s,n∉names (U.get s):=λs=>S.hdis _ mS n (by simp[names,qi,qc]) s
 have hnhd: ∀x∈hd,n∉names x.1:=by
  intro x hx hn;have:=S.hnod;simp only[fC,names,qi,qc,zl1,zU]at this;exact this.1 (zC.2 ⟨x,hx,hn⟩)
 have hb: ∀x,D x->β' x=β x:=λx hx=>by grind
 have k: ∀av,(∀x∈Vs.occ av,D x)->n∉names av->Keeps β who w β' who' (w.setRow g row) (names av) (Vs.occ av):=λav ho hn=>
  ⟨fun x hx=>hb x (ho x hx),λx hx b hw=>by
    grind,
   λb hb' _=>⟨by simp[who',hb'],hoth b (hgn b hb')⟩,by simp⟩
 have hws: ∀b x,who' b=some x-> ∃y,who b=some y:=λb x h=>by
  grind
 have hnew:Rel β' who' (w.setRow g row) (.sl (.nm m) t ys) c':=hr β' who' (by simp[β']) (λb h=>by simp[who',h]) (λb h=>⟨by simp[who',h],hoth b (hgn b h)⟩)
 refine⟨β',who',?_⟩
 have S0:=(S.drop rfl).world (h98:=hb 98 S.d98) (β':=β') (who':=who') (w':=w.setRow g row) (λs=>(S.rel s).keep (k _ (S.occ s) (hnin s)))
  (λx hx=>(S.hrel x (mT hx)).keep (k _ (S.hocc x (mT hx)) (hnhd x hx)))
  (λb x h=>by obtain⟨y,hy⟩:=hws b x h;simp only[setRow_size];exact S.wsz b y hy) (by simp)
  (fun b hb h0=>hoth b (by
    rintro rfl
    rcases h0 with h0|h0
    . rcases S.fr1 b n hg with h|h
      . exact h h0
      . omega
    . rw[S.fr3 b h0]at hg;grind)) (λb x h=>by obtain⟨y,hy⟩:=hws b x h;exact S.fr1 b y hy)
  (fun b hb=>by
    have h:=S.fr3 b hb
    grind)
 have S1:=S0.mono hD hDF
 exact{S1 with
  hrel:=λy hy=>by rcases mC hy with rfl|hy;exact hnew;exact S1.hrel y hy
  hnod:=by
   simp only[fC,names,qi,qc,zl1,zU];refine⟨λh=> ?_,S0.hnod⟩
   obtain⟨x,hx,hn⟩:=zC.1 h;exact hm (S.hocc x (mT hx) m (qj hn))
  hdis:=λy hy=>by
   rcases mC hy with rfl|hy
   . intro x hx s hs;simp only[names,qi,qc,zA]at hx;subst hx;exact hm (S.occ s x (qj hs))
   . exact S1.hdis y hy
  hocc:=λy hy=>by
   rcases mC hy with rfl|hy
   . intro x hx;simp only[Vs.occ,occA,occC,zA]at hx;subst hx;exact hDm
   . exact S1.hocc y hy}
def Sim.newNil {m:Nat} {v0:AV} {t:Ty} {c0:Value} {D':Nat->Prop} (S:Sim E D β who U ((v0,c0)::hd) a w) (hm: ¬D m) (hD: ∀x,D x->D' x) (hDm:D' m) (hDF: ¬D' FN):
 ∃β',Sim E D' β' who U ((.sl (.nm m) t [],nilS)::hd) a w:=by
 let β':Beta:=λx=>if x=m then nilS else β x
 have hb: ∀x,D x->β' x=β x:=λx hx=>by grind
 have S0:=((S.drop rfl).keep (β':=β') (who':=who) (w':=w) hb (λ_ _ h=>h) (λ_ _=>rfl) (λ_ h _=>h) S.wsz (zD _)).mono hD hDF
 refine⟨β',?_⟩
 exact{S0 with
  hrel:=λy hy=>by
   rcases mC hy with rfl|hy
   . exact⟨by simp[β'],.inl ⟨rfl,rfl⟩⟩
   . exact S0.hrel y hy
  hnod:=by
   simp only[fC,names,qi,qc,zl1,zU];refine⟨λh=> ?_,S0.hnod⟩
   obtain⟨x,hx,hn⟩:=zC.1 h;exact hm (S.hocc x (mT hx) m (qj hn))
  hdis:=λy hy=>by
   rcases mC hy with rfl|hy
   . intro x hx s hs;simp only[names,qi,qc,zA]at hx;subst hx;exact hm (S.occ s x (qj hs))
   . exact S0.hdis y hy
  hocc:=λy hy=>by
   rcases mC hy with rfl|hy
   . intro x hx;simp only[Vs.occ,occA,occC,zA]at hx;subst hx;exact hDm
   . exact S0.hocc y hy}
def RelI.cells: ∀{t:Ty} {x:Den t} {g:Nat->Option Value} {j:Nat},RelI who w t x g j-> ∀i,i<t.size-> ∃v,g (j+i)=some v/\v.oneCell'=true
 | .int k,x,g,j,h,i,hi=>by have:i=0:=by simp[Ty.size]at hi;exact hi
                           subst this;exact⟨_,h,rfl⟩
 | .bool,x,g,j,h,i,hi=>by have:i=0:=by simp[Ty.size]at hi;exact hi
                          subst this;exact⟨_,h,rfl⟩
 | .sl b t,x,g,j,h,i,hi=>by
   have:i=0:=by simp[Ty.size]at hi;exact hi
   subst this;obtain⟨v,h1,h2⟩:=h;refine⟨v,h1,?_⟩;rcases h2 with⟨rfl,_⟩|⟨_,_,_,rfl,_⟩<;>rfl
 | .opq,x,g,j,h,i,hi=>by
   have:i=0:=by simp[Ty.size]at hi;exact hi
   subst this;exact h
 | .pr a b,x,g,j,h,i,hi=>by
   by_cases hlt:i<a.size
   . exact RelI.cells h.1 i hlt
   . obtain⟨v,e1,e2⟩:=RelI.cells h.2 (i-a.size) (by simp only[Ty.size]at hi;omega)
     grind
def SlS.news {t:Ty} {ys:List (Den t)} {v:Value} {e:Nat} (h:SlS who w t ys v):
 ∃news:List Value,news.length=ys.length*t.size/\(∀x∈news,x.oneCell'=true)/\
  (∀w1:World,w1.heap=w.heap->(Builtin.firstCells t.size ys.length v).run P w1= .ok news.toArray w1)/\
  (∀i (h:i<ys.length),RelI who w t ys[i] (λj=>news[i*t.size+j]?) 0)/\(∃ad cap,v= .slice ad ys.length cap):=by
 rcases h with⟨rfl,rfl⟩|⟨b,o,cap,rfl,h1,h2,h3⟩
 . exact⟨[],by simp,by simp,λw1 _=>by simp[Builtin.firstCells],λi h=>by simp at h,none,0,rfl⟩
 . have hp:=Ty.size_pos t
   have hcell: ∀j,j<ys.length*t.size-> ∃v,cellAt w b o j=some v/\v.oneCell'=true:=by
    intro j hj;have hi:j/t.size<ys.length:=Nat.div_lt_of_lt_mul (by rw[zh];exact hj)
    obtain⟨v,e1,e2⟩:=RelI.cells (h3 (j/t.size) hi) (j%t.size) (zN2 _ hp);refine⟨v,?_,e2⟩;rw[<-e1];simp only[cellAt,zK];congr 2;have:=zX3 j t.size;rw[zh]at this;omega
   refine⟨(List.range (ys.length*t.size)).map λj=>(cellAt w b o j).getD undef,by simp,?_,?_,?_,some ⟨b,o,none⟩,cap,rfl⟩
   . grind
   . intro w1 hw1;simp only[Builtin.firstCells];rw[run_loadCells (P:=P) w1 ⟨b,o,none⟩ (ys.length*t.size) (λj=>(cellAt w b o j).getD undef) (λj hj=> ?_)]
     obtain⟨v,e1,e2⟩:=hcell j hj;rw[add_plain,e1];simp only[cellAt,World.cell?]at e1⊢;rw[hw1];exact e1
   . intro i hi;refine RelI.ext' (g:=cellAt w b (o+i*t.size)) (λj hj=> ?_) (h3 i hi)
     have hlt:i*t.size+j<ys.length*t.size:=by
      have:(i+1)*t.size<=ys.length*t.size:=zN _ O;rw[zP1]at this;omega
     obtain⟨v,e1,_⟩:=hcell _ hlt;simp only[zK,List.getElem?_map,List.getElem?_range hlt,zf1,e1,zu1];simp only[cellAt]at e1⊢
     grind
end
section
variable {P:Program} {CO:qx} {T:TT} {E:Entry} {D:Nat->Prop} {β:Beta} {who:Who} {U U':Slots} {hd:List (AV×Value)} {a:Act} {w w':World} {R W:List Nat}
def q2m {t0 t1 e e1:TypeId} {tys:Array TypeId} {rt:TypeId} {i:TypeInfo} (h0:tys[0]? =some t0) (h1:tys[1]? =some t1) (hu0:P.underlying t0=some (.slice e)) (hu1:P.underlying t1=some (.slice e1))
 (hi:P.info? e=some i) {b o sLen sCap m:Nat} {cur:Array Value} {el:TypeId} (hg:w.heap[b]? =some (.cells cur el (0,0))) {ad:Option Addr} {c:Nat} {news:List Value}
 (hf:(Builtin.firstCells i.size m (.slice ad m c)).run P w= .ok news.toArray w) (hl:news.length=m*i.size) (h1': ∀x∈news,x.oneCell'=true)
 (hroom:sLen+m<=sCap) (hfit:o+sLen*i.size+news.length<=cur.size):
 (Builtin.append_ tys rt #[.slice (some ⟨b,o,none⟩) sLen sCap,.slice ad m c]).run P w=
   .ok (.slice (some ⟨b,o,none⟩) (sLen+m) sCap) (w.setRow b (ql cur (o+sLen*i.size) news)):=by
 have hst:=run_storeCells_at P b (o+sLen*i.size) el news 0 cur w hg (by simpa using hfit) h1'
 simp only[zV]at hst;simp only[ql];simp[Builtin.append_,h0,h1,run_underlying hu0,run_underlying hu1,Xj hi,Builtin.lenOf,hroom,hf,add_plain,hst]
def q1h {t0 t1 e e1:TypeId} {tys:Array TypeId} {rt:TypeId} {i:TypeInfo} {z:Value} (h0:tys[0]? =some t0) (h1:tys[1]? =some t1) (hu0:P.underlying t0=some (.slice e)) (hu1:P.underlying t1=some (.slice e1))
 (hi:P.info? e=some i) (hz:i.zero=some z) {sa:Option Addr} {sLen sCap m:Nat} {ad:Option Addr} {c:Nat} {olds news:List Value}
 (hfo:(Builtin.firstCells i.size sLen (.slice sa sLen sCap)).run P w.drew= .ok olds.toArray w.drew)
 (hf:(Builtin.firstCells i.size m (.slice ad m c)).run P w.drew= .ok news.toArray w.drew)
 (hg:sCap<sLen+m) (hb:i.bytes<=4096) (hm:sLen+m<=1073741824):
 (Builtin.append_ tys rt #[.slice sa sLen sCap,.slice ad m c]).run P w=
   .ok (.slice (some ⟨w.heap.size,0,none⟩) (sLen+m) (grownCap w (sLen+m) sCap e))
    (w.drew.alloc (.cells (olds.toArray++news.toArray++Builtin.zeroCells z.cells (grownCap w (sLen+m) sCap e-(sLen+m))) e)):=by
 have hn: ¬(sLen+m<=sCap):=O;have h63': ¬(9223372036854775807<((sLen:Int)+(m:Int))):=O
 have hnb:(sLen+m)*i.bytes<=140737488355328:=by
  calc (sLen+m)*i.bytes<=1073741824*4096:=zD2 hm hb
   _<=140737488355328:=by decide
 have h48': ¬(281474976710656<Builtin.nextslicecap (sLen+m) sCap*i.bytes):=by
  have:=growslice_fits hg hnb;omega
 simp[Builtin.append_,h0,h1,run_underlying hu0,run_underlying hu1,Xj hi,qa5 hi,Zr hi hz,Builtin.lenOf,hn,h63',h48',Question.forced,hf,hfo,newRow,grownCap]
 grind
def q49 {t:Ty} {xs ys:List (Den t)} {b o:Nat} {news:List Value}
 (hx: ∀i (h:i<xs.length),RelI who w t xs[i] (cellAt w b (o+i*t.size)) 0)
 (hy: ∀i (h:i<ys.length),RelI who w t ys[i] (λj=>news[i*t.size+j]?) 0) (hl:news.length=ys.length*t.size)
 (hc: ∀j,j<news.length->w.cell? ⟨b,o+xs.length*t.size+j,none⟩=news[j]?):Elems who w t (xs++ys) b o:=by
 intro i hi;by_cases hlt:i<xs.length
 . grind
 . have hi':i-xs.length<ys.length:=by simp at hi;omega
   rw[zZ1 O];refine RelI.ext' (λj hj=> ?_) (hy (i-xs.length) hi')
   simp only[cellAt,zK]
   have h1:(i-xs.length)*t.size+j<news.length:=by
    rw[hl];have:(i-xs.length+1)*t.size<=ys.length*t.size:=zN _ O;rw[zP1]at this;omega
   rw[<-hc _ h1];congr 2;have:i*t.size=xs.length*t.size+(i-xs.length)*t.size:=by rw[<-Nat.add_mul];congr 1;omega
   omega
def q26 (hT:TTok P T) {idx:Nat} {tys:Array TypeId} {rt t0 t1 e e1:TypeId} {et et1:Ty} {cells cells1:List ZC} {v0:AV} {t:Ty} {xs ys:List (Den t)} {cx cy:Value}
 (h0:tys[0]? =some t0) (h1:tys[1]? =some t1) (ht0:T.at t0=some {desc:= .slice e et,cells:=cells}) (ht1:T.at t1=some {desc:= .slice e1 et1,cells:=cells1})
 (hsz:et.size=t.size) {c0:Value} (S:Sim E D β who U ((v0,c0)::hd) a w) (hy:SlS who w t ys cy) (hlen:xs.length+ys.length<=1073741824) (hf: ∀k,k<16-> ¬D (fresh idx k))
 (hx:(cx= .slice none 0 0/\xs=[])\/ ∃n t' xs0,v0= .sl (.nm n) t' xs0/\ ∃b o cap0 arr el,cx= .slice (some ⟨b,o,none⟩) xs.length cap0/\w.heap[b]? =some (.cells arr el (0,0))/\o+cap0*t.size<=arr.size/\
   xs.length<=cap0/\who b=some n/\Elems who w t xs b o):
 ∃r w' β' who',(Builtin.append_ tys rt #[cx,cy]).run P w= .ok r w'/\Sim E (Dn D idx) β' who' U ((.sl (.nm (fresh idx 15)) t (xs++ys),r)::hd) a w':=by
 obtain⟨hu0,⟨ei,ez,he,hes,hbytes,_,hz,hzc⟩⟩:=(hT t0 _ ht0).desc;obtain⟨hu1,_⟩:=(hT t1 _ ht1).desc;have hss:ei.size=t.size:=by rw[hes,hsz]
 obtain⟨news,n1,n2,n3,n4,ad,cap,rfl⟩:=hy.news (P:=P) (e:=0);have hf15: ¬D (fresh idx 15):=hf 15 O;have hD: ∀x,D x->Dn D idx x:=λx h=> .inl h
 have hD15:Dn D idx (fresh idx 15):= .inr ⟨15,O,rfl⟩;have hzsz:ez.cells.size=ei.size:=by rw[<-Array.length_toList,hzc,Qj,hes]
 have grow: ∀(sa:Option Addr) (sCap:Nat) (olds:List Value),cx= .slice sa xs.length sCap->olds.length=xs.length*t.size->
  (∀w1:World,w1.heap=w.heap->(Builtin.firstCells t.size xs.length cx).run P w1= .ok olds.toArray w1)->
  (∀i (h:i<xs.length),RelI who w t xs[i] (λj=>olds[i*t.size+j]?) 0)->sCap<xs.length+ys.length->
  ∃r w' β' who',(Builtin.append_ tys rt #[cx,.slice ad ys.length cap]).run P w= .ok r w'/\Sim E (Dn D idx) β' who' U ((.sl (.nm (fresh idx 15)) t (xs++ys),r)::hd) a w':=by
  intro sa sCap olds hcx ho1 ho2 ho3 hg;subst hcx
  have hrun:=q1h (P:=P) (rt:=rt) (w:=w) h0 h1 hu0 hu1 he hz (sa:=sa) (sLen:=xs.length) (sCap:=sCap) (m:=ys.length) (ad:=ad) (c:=cap) (olds:=olds) (news:=news)
   (by rw[hss];exact ho2 w.drew rfl) (by rw[hss];exact n3 w.drew rfl) hg hbytes hlen
  have hcapge:xs.length+ys.length<=grownCap w (xs.length+ys.length) sCap e:=grownCap_ge w _ _ e
  let row:=olds.toArray++news.toArray++Builtin.zeroCells ez.cells (grownCap w (xs.length+ys.length) sCap e-(xs.length+ys.length))
  have hrs:row.size=grownCap w (xs.length+ys.length) sCap e*t.size:=by
   simp only[row,Array.size_append,List.size_toArray,ho1,n1,size_zeroCells,hzsz,hss,<-Nat.add_mul];congr 1;omega
  obtain⟨β',who',S'⟩:=Sim.make (idx:=idx) (v:= .sl (.nm (fresh idx 15)) t (xs++ys)) (c:= .slice (some ⟨w.heap.size,0,none⟩) (xs.length+ys.length) (grownCap w (xs.length+ys.length) sCap e))
   (c1:= .slice (some ⟨w.heap.size,0,none⟩) (xs.length+ys.length) (grownCap w (xs.length+ys.length) sCap e))
   (w':=w.drew.alloc (.cells row e)) (o:= .cells row e) S hf rfl
   (fun β' who' q1 q2 q3 q4 q5=>by
     have hnew:(w.drew.alloc (.cells row e)).heap[w.heap.size]? =some (.cells row e (0,0)):=heap_alloc_new w.drew _;have hold: ∀b',b'<w.heap.size->(w.drew.alloc (.cells row e)).heap[b']? =w.heap[b']? :=λb' hb'=>heap_alloc_old w.drew _ b' hb'
     have himm: ∀b',who b'=none->b'<w.heap.size->who' b'=none/\(w.drew.alloc (.cells row e)).heap[b']? =w.heap[b']? :=λb' hb' hlt=>⟨q4 b' hb' hlt,hold b' hlt⟩
     have hsz':w.heap.size<=(w.drew.alloc (.cells row e)).heap.size:=by simp
     have hrowget: ∀j,row[j]? =if j<olds.length then olds[j]? else if j<olds.length+news.length then news[j-olds.length]? else row[j]? :=by
      intro j;split
      . grind
      . grind
     refine⟨q2.symm,.inr ⟨w.heap.size,0,_,row,e,by simp;rfl,hnew,by rw[hrs];simp,by simp;exact hcapge,q3,?_⟩⟩
     refine q49 (news:=news) ?_ (λi hi=>RelI.keep himm hsz' (n4 i hi)) n1 ?_
     . intro i hi;refine RelI.ext' (λj hj=> ?_) (RelI.keep himm hsz' (ho3 i hi))
       have hlt:i*t.size+j<olds.length:=by
        rw[ho1];have:(i+1)*t.size<=xs.length*t.size:=zN _ O;rw[zP1]at this;omega
       simp only[cellAt,World.cell?,hnew,zK]
       grind
     . intro j hj;have hg1:=hrowget (olds.length+j);rw[iN' O,iP O]at hg1;simp only[World.cell?,hnew,zK]
       grind)
   (λn hn=> .inr ⟨15,O,by simpa [names,qi,qc]using hn⟩) (by simp[names,qi,qc])
   (λn hn=> .inr ⟨15,O,by simpa [Vs.occ,occA,occC]using hn⟩)
  exact⟨_,_,β',who',hrun,S'⟩
 have nilcase:cx= .slice none 0 0->xs=[]-> ∃r w' β' who',(Builtin.append_ tys rt #[cx,.slice ad ys.length cap]).run P w= .ok r w'/\Sim E (Dn D idx) β' who' U ((.sl (.nm (fresh idx 15)) t (xs++ys),r)::hd) a w':=by
  intro hc hxs;by_cases hy0:ys.length=0
  . have hys:ys=[]:=zJ2 hy0;obtain⟨β',S'⟩:=S.newNil (t:=t) hf15 hD hD15 (Dn_fn S.dfn);refine⟨nilS,w,β',who,?_,by rw[hxs,hys];exact S'⟩
    have hn3:=n3 w rfl;have hnn:news=[]:=zJ2 (by rw[n1,hy0];simp)
    rw[hc];rw[hy0,hnn]at hn3;simp[Builtin.append_,h0,h1,run_underlying hu0,run_underlying hu1,Xj he,Builtin.lenOf,hy0,hss,hn3,nilS]
  . refine grow none 0 [] (by rw[hc,hxs];rfl) (by simp[hxs]) (λw1 _=>by rw[hc];simp[Builtin.firstCells]) (λi h=>by simp[hxs]at h) O
 rcases hx with⟨hc,hxs⟩|⟨n,t',xs0,rfl,b,o,cap0,arr,el,rfl,g1,g2,g3,g4,g5⟩
 . exact nilcase hc hxs
 . . by_cases hroom:xs.length+ys.length<=cap0
     . have hxl:(xs.length+ys.length)*t.size<=cap0*t.size:=zN _ hroom;rw[zP1]at hxl;have hfit:o+xs.length*ei.size+news.length<=arr.size:=by rw[hss,n1];omega
       have hrun:=q2m (P:=P) (rt:=rt) h0 h1 hu0 hu1 he (o:=o) (sLen:=xs.length) (sCap:=cap0) g1 (by rw[hss];exact n3 w rfl) (by rw[hss];exact n1) n2 hroom hfit
       rw[hss]at hrun hfit
       obtain⟨β',who',S'⟩:=Sim.handWrite (m:=fresh idx 15) (ys:=xs++ys) (c':= .slice (some ⟨b,o,none⟩) (xs.length+ys.length) cap0) (row:=ql arr (o+xs.length*t.size) news) S hf15 hD hD15 (Dn_fn S.dfn) g4
        (fun β' who' q1 q2 q3=>by
          have hheap:=setRow_heap w b arr (ql arr (o+xs.length*t.size) news) el (0,0) g1;refine⟨q1.symm,.inr ⟨b,o,cap0,_,el,by simp,hheap,by rw[Qm hfit];exact g2,by simpa using hroom,q2 b g4,?_⟩⟩
          have himm: ∀b',who b'=none->b'<w.heap.size->who' b'=none/\(w.setRow b (ql arr (o+xs.length*t.size) news)).heap[b']? =w.heap[b']? :=λb' hb' _=>q3 b' hb'
          have hsz':w.heap.size<=(w.setRow b (ql arr (o+xs.length*t.size) news)).heap.size:=by simp
          refine q49 (news:=news) ?_ (λi hi=>RelI.keep himm hsz' (n4 i hi)) n1 ?_
          . intro i hi;refine RelI.ext' (g:=cellAt w b (o+i*t.size)) (λj hj=> ?_) (RelI.keep himm hsz' (g5 i hi))
            have:(i+1)*t.size<=xs.length*t.size:=zN _ O;rw[zP1]at this;simp only[cellAt,World.cell?,hheap,g1,zK];simp only[zH3,zp1,if_false];rw[Qk hfit,iN' O]
          . intro j hj;simp only[World.cell?,hheap];simp only[zH3,zp1,if_false];rw[Qk hfit,iP O];congr 1;omega)
       grind
     . have hs:SlS who w t xs (.slice (some ⟨b,o,none⟩) xs.length cap0):= .inr ⟨b,o,cap0,rfl,Yh g1,g3,g5⟩;obtain⟨olds,o1,o2,o3,o4,_⟩:=hs.news (P:=P) (e:=0)
       grind
def qd3 (hT:TTok P T) {idx:Nat} {tys:Array TypeId} {rt:TypeId} {x y v:AV} {cx cy:Value} (h:Run CO (q9h T idx tys x y) U v U' R W)
 (S:Sim E D β who U ((y,cy)::(x,cx)::hd) a w) (hf: ∀k,k<16-> ¬D (fresh idx k)):
 ∃r w' β' who',(Builtin.append_ tys rt #[cx,cy]).run P w= .ok r w'/\Sim E (Dn D idx) β' who' U' ((v,r)::hd) a w':=by
 have hy:Rel β who w y cy:=S.hrel _ mS;have S0:=S.drop rfl;unfold q9h at h;split at h
 . rename_i t0 t1 h0 h1;split at h
   . rename_i e et cells e1 et1 cells1 ht0 ht1;obtain⟨z,U1,_,_,_,_,q1,q2⟩:=kA h;obtain⟨rfl,hs⟩:=Run.shown q1 S hy;obtain⟨t',ys⟩:=z;split at q2
     . rename_i n t xs;split at q2
       . rename_i hh;obtain⟨hh1,hh2⟩:=hh;simp only at hh1;subst hh1;obtain⟨_,U2,_,_,_,_,q3,q4⟩:=kA q2;obtain⟨hlen,rfl⟩:=kG q3;obtain⟨rfl,rfl⟩:=kB q4;exact q26 hT h0 h1 ht0 ht1 hh2 S0 hs hlen hf ((qjo (S0.hrel _ mS)).imp id λh=>⟨n,_,xs,rfl,h⟩)
       . exact(kC q2).elim
     . rename_i t xs;split at q2
       . rename_i hh;obtain⟨hh1,hh2⟩:=hh;simp only at hh1;subst hh1;obtain⟨_,U2,_,_,_,_,q3,q4⟩:=kA q2;obtain⟨hlen,rfl⟩:=kG q3;obtain⟨rfl,rfl⟩:=kB q4;have hnil:cx= .slice none 0 0/\xs=[]:=S0.hrel _ mS;obtain⟨hc,rfl⟩:=hnil;exact q26 hT h0 h1 ht0 ht1 hh2 S0 hs (by simpa using hlen) hf (.inl ⟨hc,rfl⟩)
       . exact(kC q2).elim
     . exact(kC q2).elim
   . exact(kC h).elim
 . exact(kC h).elim
def q7k (hT:TTok P T) {idx:Nat} {tys:Array TypeId} {rt:TypeId} {x y v:AV} {cx cy:Value} (h:Run CO (q40 T idx tys x y) U v U' R W)
 (S:Sim E D β who U ((y,cy)::(x,cx)::hd) a w) (hf: ∀k,k<16-> ¬D (fresh idx k)):
 ∃r w' β' who',(Builtin.append_ tys rt #[cx,cy]).run P w= .ok r w'/\Sim E (Dn D idx) β' who' U' ((v,r)::hd) a w':=by
 have hy:Rel β who w y cy:=S.hrel _ mS;have hx:Rel β who w x cx:=S.hrel _ (mT mS);have S0:=(S.drop rfl).drop rfl;unfold q40 at h;split at h
 . rename_i t0 t1 h0 h1;split at h
   . rename_i e et cells e1 et1 cells1 ht0 ht1;obtain⟨z,U1,_,_,_,_,q1,q2⟩:=kA h;obtain⟨rfl,hs⟩:=Run.shown q1 S hy;obtain⟨t',ys⟩:=z;split at q2
     . rename_i s n sz off len;obtain⟨av,U2,_,_,_,_,q3,q4⟩:=kA q2;obtain⟨hav,rfl⟩:=kD q3;split at q4
       . rename_i m t xs;split at q4
         . rename_i hh;obtain⟨hh1,hh2,hh3,hh4⟩:=hh;simp only at hh1;subst hh1 hh3 hh4;obtain⟨_,U3,_,_,_,_,q5,q6⟩:=kA q4;obtain⟨⟨hoff,hle,hpos,hlen⟩,rfl⟩:=kG q5;obtain⟨_,U4,_,_,_,_,q7,q8⟩:=kA q6;have:=kE q7;subst this;obtain⟨rfl,rfl⟩:=kB q8;subst hoff;have S1:=S0.takeAll s;have hr:=S0.rel s;rw[<-hav]at S1 hr;have hlen':len+ys.length<=1073741824:=hlen;refine q26 hT h0 h1 ht0 ht1 hh2 S1 hs (xs:=xs.take len) (ys:=ys) (by grind) hf ?_
           obtain⟨hb,hr⟩:=hr;rcases hr with⟨_,hnil⟩|⟨b,o,cap,arr,el,e1,e2,e3,e4,e5,e6⟩
           . subst hnil;simp at hpos
           . obtain⟨ad,L,cp,a',r1,r2,r3,r4,r5⟩:=hx;rw[<-hb,e1]at r1;injection r1 with g1 g2 g3
             subst g1 g2 g3;have ha':=r4 O;refine .inr ⟨m,t',xs,rfl,b,o,cap,arr,el,?_,e2,e3,by grind,e5,?_⟩
             . rw[r3,ha',zH1,zY3 hle];simp[add_plain]
             . intro i hi;have hi':i<len:=by rw[zH1]at hi;omega
               rw[zX2];exact e6 i O
         . exact(kC q4).elim
       . exact(kC q4).elim
     . exact(kC q2).elim
   . exact(kC h).elim
 . exact(kC h).elim
end
section
variable {P:Program} {CO:qx} {T:TT} {E:Entry} {D:Nat->Prop} {β:Beta} {who:Who} {U U':Slots} {hd:List (AV×Value)} {a:Act} {w w':World} {R W:List Nat}
def Sim.perm {hd':List (AV×Value)} (S:Sim E D β who U hd a w) (hp:hd.Perm hd'):Sim E D β who U hd' a w:=
 {S with
  hrel:=λz hz=>S.hrel z (hp.mem_iff.2 hz)
  hnod:=((hp.flatMap_right _).nodup_iff).1 S.hnod
  hdis:=λz hz=>S.hdis z (hp.mem_iff.2 hz)
  hocc:=λz hz=>S.hocc z (hp.mem_iff.2 hz)}
def Run.rdParts: ∀{ps:List (Nat×Operand)} {vs:List (Nat×AV)} {U U':Slots} {R W:List Nat} {hd:List (AV×Value)},Run CO (rdParts T ps) U vs U' R W->Sim E D β who U hd a w->
 vs.map (·.1)=ps.map (·.1)/\ ∃cs:List Value,cs=ps.map (λp=>a.eval p.2)/\Sim E D β who U' ((vs.map (·.2)).zip cs++hd) a w
 |[],vs,U,U',R,W,hd,h,S=>by
  obtain⟨rfl,rfl⟩:=kB h;exact⟨rfl,[],rfl,S⟩
 |(f,x)::ps,vs,U,U',R,W,hd,h,S=>by
  obtain⟨v,U1,_,_,_,_,h1,h2⟩:=kA h;have S1:=Run.rdT h1 S;obtain⟨us,U2,_,_,_,_,h3,h4⟩:=kA h2;obtain⟨e1,cs,e2,S2⟩:=Run.rdParts h3 S1;obtain⟨rfl,rfl⟩:=kB h4;refine⟨by simp[e1],a.eval x::cs,by simp[e2],?_⟩
  refine S2.perm ?_;simp only[zX1,zI3,zB2];exact List.perm_middle
def Xz {v:AV} {c:Value} (hc:cellsOf v=[v]) (h:RelC β who w v c) (hd:v≠ .dead):
 CellsRel β who w (cellsOf v) c.cells/\names v=(cellsOf v).flatMap qc/\Vs.occ v=(cellsOf v).flatMap occC:=by
 have h1:=Za h hd;obtain⟨_,r2,r3,_⟩:=q1r h;rw[Xb h1,hc];refine⟨⟨rfl,λj hj=> ?_⟩,by simp[r2],by simp[r3]⟩
 have:j=0:=by simp at hj;exact hj
 subst this;exact h
def Sim.merge {cells:List AV} {arr:Array Value} {v:AV} {c:Value} {off:Nat} (S:Sim E D β who U ((.agg cells,.agg arr)::(v,c)::hd) a w)
 (hp:qnh v=true) (hl:off+(cellsOf v).length<=cells.length):
 c.cells.size=(cellsOf v).length/\
 Sim E D β who U ((.agg (Qd cells off (cellsOf v)),.agg (ql arr off c.cells.toList))::hd) a w:=by
 have hA:Rel β who w (.agg cells) (.agg arr):=S.hrel _ mS;have S0:=S.drop rfl;have hv:Rel β who w v c:=S0.hrel _ mS;obtain⟨arr',e,hA⟩:=hA;cases e
 have hcr:CellsRel β who w (cellsOf v) c.cells/\names v=(cellsOf v).flatMap qc/\Vs.occ v=(cellsOf v).flatMap occC:=by
  cases v with
  |dead=>cases hp
  |tup vs=>cases hp
  |bx o cs=>cases hp
  |agg cs=>obtain⟨arr2,rfl,h2⟩:=hv;exact⟨h2,rfl,rfl⟩
  |bool b=>exact Xz (v:= .bool b) rfl hv (by simp)
  |int k n=>exact Xz (v:= .int k n) rfl hv (by simp)
  |lit u=>exact Xz (v:= .lit u) rfl hv (by simp)
  |sl o t xs=>exact Xz (v:= .sl o t xs) rfl hv (by simp)
  |ref s n sz win=>exact Xz (v:= .ref s n sz win) rfl hv (by simp)
  |ptr s n sz i j=>exact Xz (v:= .ptr s n sz i j) rfl hv (by simp)
  |iptr g t xs i j=>exact Xz (v:= .iptr g t xs i j) rfl hv (by simp)
  |dp n t xs hh=>exact Xz (v:= .dp n t xs hh) rfl hv (by simp)
  |dq n t xs hh=>exact Xz (v:= .dq n t xs hh) rfl hv (by simp)
  |fd n t xs hh=>exact Xz (v:= .fd n t xs hh) rfl hv (by simp)
  |mm n t xs o=>exact Xz (v:= .mm n t xs o) rfl hv (by simp)
  |dr s n k=>exact Xz (v:= .dr s n k) rfl hv (by simp)
  |wn n t xs=>cases hp
 obtain⟨h1,h2,h3⟩:=hcr;have hsl:c.cells.toList.length=(cellsOf v).length:=by rw[zY1,h1.1]
 have hrow:off+c.cells.toList.length<=arr.size:=by rw[hsl,hA.1];exact hl
 refine⟨h1.1,?_⟩;have hno:=S.hnod;simp only[fC,names,qi]at hno;have hno1:=zG.1 hno;have hno2:=zG.1 hno1.2.1
 have hsub: ∀m∈(Qd cells off (cellsOf v)).flatMap qc,m∈cells.flatMap qc\/m∈names v:=by
  intro m hm;rw[Qo _ _ _ hl]at hm;simp only[ze1,zL]at hm;rcases hm with(hm|hm)|hm
  . grind
  . rw[h2];exact .inr hm
  . grind
 have hsubo: ∀m∈(Qd cells off (cellsOf v)).flatMap occC,m∈cells.flatMap occC\/m∈Vs.occ v:=by
  intro m hm;rw[Qo _ _ _ hl]at hm;simp only[ze1,zL]at hm;rcases hm with(hm|hm)|hm
  . grind
  . rw[h3];exact .inr hm
  . grind
 have hrel:Rel β who w (.agg (Qd cells off (cellsOf v))) (.agg (ql arr off c.cells.toList)):=by
  refine⟨_,rfl,by rw[Qm hrow,hA.1,Xe hl],λi hi=> ?_⟩
  have hi':i<cells.length:=by rw[<-Xe hl];exact hi
  rw[Jz hl hi',Array.getD_eq_getD_getElem?,Qk hrow];split
  . rename_i hc;rw[iP (by rw[hsl];exact hc)]
    have:=h1.2 (i-off) O;simp_all
  . rename_i hc;rw[iN' (by rw[hsl];exact hc),<-Array.getD_eq_getD_getElem?]
    exact hA.2 i hi'
 have hnd:((Qd cells off (cellsOf v)).flatMap qc).Nodup:=by
  rw[Qo _ _ _ hl];simp only[ze1]
  have hsplit:cells=cells.take off++(cells.drop off).take (cellsOf v).length++cells.drop (off+(cellsOf v).length):=by
   rw[zG1,<-List.drop_drop,zQ1,zQ1]
  have hnn:=hno1.1;rw[hsplit]at hnn;simp only[ze1,zG1]at hnn;have k1:=zG.1 hnn;have k2:=zG.1 k1.2.1
  have hvn: ∀m,m∈(cellsOf v).flatMap qc->m∉cells.flatMap qc:=by
   intro m hm h;rw[<-h2]at hm;exact hno1.2.2 m h m (by simp only[zL];exact .inl hm) rfl
  have t1: ∀m∈(cells.take off).flatMap qc,m∈cells.flatMap qc:=λm hm=>by
   grind
  have t2: ∀m∈(cells.drop (off+(cellsOf v).length)).flatMap qc,m∈cells.flatMap qc:=λm hm=>by
   grind
  refine zG.2 ⟨zG.2 ⟨k1.1,by rw[<-h2];exact hno2.1,?_⟩,k2.2.1,?_⟩
  . grind
  . grind
 have S1:=S0.drop rfl
 exact{S1 with
  hrel:=λy hy=>by rcases mC hy with rfl|hy;exact hrel;exact S1.hrel y hy
  hnod:=by
   simp only[fC];refine zG.2 ⟨hnd,S1.hnod,?_⟩
   rintro x hx y hy rfl
   rcases hsub x hx with h|h
   . exact hno1.2.2 x h x (by simp only[zL];exact .inr hy) rfl
   . exact hno2.2.2 x h x hy rfl
  hdis:=λy hy=>by
   rcases mC hy with rfl|hy
   . intro m hm s hs;rcases hsub m hm with h|h
     . exact S.hdis _ mS m h s hs
     . exact S0.hdis _ mS m h s hs
   . exact S1.hdis y hy
  hocc:=λy hy=>by
   rcases mC hy with rfl|hy
   . intro m hm;rcases hsubo m hm with h|h
     . exact S.hocc _ mS m h
     . exact S0.hocc _ mS m h
   . exact S1.hocc y hy}
def q4k (off:Nat): ∀(l:List Value) (k:Nat) (cs:Array Value),off+k+l.length<=cs.size->
 (l.zipIdx k).foldl (λcs (x:Value×Nat)=>cs.setIfInBounds (off+x.2) x.1) cs=ql cs (off+k) l
 |[],k,cs,h=>by
  apply Array.ext';simp[ql]
 |x::l,k,cs,h=>by
  simp only[List.zipIdx_cons,List.foldl_cons];rw[q4k off l (k+1) _ (by simp at h⊢;omega)]
  apply Array.ext';have:=list_seg_step cs.toList (off+k) x l (by simp at h⊢;omega)
  simp only[ql,Array.toList_setIfInBounds];omega
def q6t {place:Nat->Option (Nat×Nat)} {cells:Array Value} {f off size:Nat} {v:Value} {rest:List (Nat×Value)} (hp:place f=some (off,size)) (hs:v.cells.size=size)
 (hl:off+v.cells.size<=cells.size):Instr.fill place cells ((f,v)::rest)=Instr.fill place (ql cells off v.cells.toList) rest:=by
 have hc: ¬((decide (v.cells.size≠size)||decide (off+v.cells.size>cells.size))=true):=by simp[hs];omega
 simp only[Instr.fill,hp];rw[iN' hc];congr 1;have:=q4k off v.cells.toList 0 cells (by simpa using hl)
 simp only[zV]at this;rw[<-this];rw[<-Array.foldl_toList];simp
def qg3 {fs:List (Nat×Nat)} {place:Nat->Option (Nat×Nat)} (hpl: ∀f x,fs[f]? =some x->place f=some x): ∀{ps:List (Nat×AV)} {cs:List Value} {cells cells':List AV} {arr:Array Value} {hd:List (AV×Value)},
 qfm fs cells ps=some cells'->ps.length=cs.length->Sim E D β who U ((.agg cells,.agg arr)::((ps.map (·.2)).zip cs++hd)) a w->
 ∃arr',Instr.fill place arr ((ps.map (·.1)).zip cs)=some arr'/\Sim E D β who U ((.agg cells',.agg arr')::hd) a w
 |[],[],cells,cells',arr,hd,h,_,S=>by
  injection h with h
  subst h;exact⟨arr,rfl,S⟩
 |(f,v)::ps,c::cs,cells,cells',arr,hd,h,hlen,S=>by
  simp only[qfm]at h;split at h
  . rename_i off fsz hf;split at h
    . rename_i hc;obtain⟨h1,h2,h3⟩:=hc;simp only[zX1,zI3,zB2]at S;obtain⟨m1,S1⟩:=S.merge (off:=off) h3 (by rw[h1];exact h2)
      obtain⟨arr',e1,S2⟩:=qg3 hpl h (by simpa using hlen) S1
      refine⟨arr',?_,S2⟩;simp only[zX1,zI3];have hA:Rel β who w (.agg cells) (.agg arr):=S.hrel _ mS;obtain⟨arr2,e2,hA⟩:=hA;cases e2;rw[q6t (hpl f _ hf) (by rw[m1,h1]) (by rw[m1,h1,hA.1];exact h2)]
      exact e1
    . cases h
  . cases h
 |[],_::_,_,_,_,_,_,hlen,_=>by simp at hlen
 |_::_,[],_,_,_,_,_,hlen,_=>by simp at hlen
def qfi {w:World} {fields:List Field} {fs:List (Nat×Nat)} (hl:fields.length=fs.length)
 (h: ∀j (h:j<fs.length),∃f,fields[j]? =some f/\f.offset=fs[j].1/\ ∃i,P.info? f.type=some i/\i.size=fs[j].2):
 ((fields.mapM λf=>do pure (f.offset,<-sizeOf f.type):Sem (List (Nat×Nat)))).run P w= .ok fs w:=by
 induction fields generalizing fs with
 |nil=>cases fs with
  |nil=>rfl
  |cons x xs=>simp at hl
 |cons f fields ih=>
  cases fs with
  |nil=>simp at hl
  |cons x xs=>
   obtain⟨f',e1,e2,i,e3,e4⟩:=h 0 (by simp)
   simp at e1;subst e1
   have:=ih (fs:=xs) (by simpa using hl) (λj hj=>by
    obtain⟨f',e1,e2⟩:=h (j+1) (by simpa using hj)
    grind)
   simp only[zv1]at e2 e4;rw[zb3];simp only[Sem.run_bind,Xj e3,Result.andThen_ok,Sem.run_pure,this,e2,e4]
def qdj (hT:TTok P T) {t:Nat} {vs:List (Nat×AV)} {ps:Array (Nat×Operand)} {v:AV} (h:Run CO (qep T t vs) U v U' R W)
 (hvs:vs.map (·.1)=ps.toList.map (·.1)) (S:Sim E D β who U ((vs.map (·.2)).zip (ps.toList.map λp=>a.eval p.2)++hd) a w):
 ∃r,(Instr.build t (ps.map λ(i,x)=>(i,a.eval x))).run P w= .ok r w/\Sim E D β who U' ((v,r)::hd) a w:=by
 unfold qep at h;split at h
 . rename_i fs cells ht;obtain⟨zs,hz,h⟩:=Run.ofOpt' h;obtain⟨cs,hfl,h⟩:=Run.ofOpt' h;obtain⟨rfl,rfl⟩:=kB h;have hti:=hT t _ ht;obtain⟨fields,hu,hsz,hfs⟩:=hti.desc;obtain⟨z,g1,g2,g3,g4,g5,g6⟩:=qbj (β:=β) (who:=who) (w:=w) hti hz;have S1:=S.take0 (v:= .agg zs) (c:= .agg z.cells) ⟨z.cells,rfl,g2⟩ g3 (λn hn=>by rw[g4]at hn;cases hn)
   have hlen:vs.length=ps.toList.length:=by have:=congrArg List.length hvs;simpa using this
   obtain⟨arr',e1,S2⟩:=qg3 (place:=(fs.toArray[·]?)) (λf x hx=>by simpa using hx) hfl (by simpa using hlen) S1
   refine⟨.agg arr',?_,S2⟩
   have hpl:=qfi (P:=P) (w:=w) (fields:=fields.toList) (fs:=fs) (by simpa using hsz) (λj hj=>by
    grind)
   have hpl':((fields.mapM λf=>do pure (f.offset,<-sizeOf f.type):Sem (Array (Nat×Nat)))).run P w= .ok fs.toArray w:=by
    rw[Array.mapM_eq_mapM_toList];simp only[Sem.run_map,hpl,Result.andThen_ok]
   have hparts:(ps.map λ(i,x)=>(i,a.eval x)).toList=(vs.map (·.1)).zip (ps.toList.map λp=>a.eval p.2):=by
    rw[hvs,zT3];induction ps.toList with
    |nil=>rfl
    |cons p l ih=>simp[ih]
   unfold Instr.build;simp only[Sem.run_bind,g1,Result.andThen_ok,run_underlying hu,hpl',hparts,e1];rfl
 . exact(kC h).elim
end
section
variable {P:Program} {CO:qx} {T:TT} {E:Entry} {D:Nat->Prop} {β:Beta} {who:Who} {U U':Slots} {hd:List (AV×Value)} {a:Act} {w w':World} {R W:List Nat}
def Sim.dropL: ∀{l:List (AV×Value)} {hd:List (AV×Value)},Sim E D β who U (l++hd) a w->Sim E D β who U hd a w
 |[],_,S=>S
 |_::l,_,S=>Sim.dropL (l:=l) (S.drop rfl)
def RowE (who:Who) (w:World) (t:Ty) (xs:List (Den t)) (arr:Array Value):Prop:=
 arr.size=xs.length*t.size/\ ∀i (h:i<xs.length),RelI who w t xs[i] (λj=>arr[i*t.size+j]?) 0
def q47 {t:Ty} {len:Nat}: ∀{ps:List (Nat×AV)} {cs:List Value} {xs xs':List (Den t)} {arr:Array Value},q4v t xs ps=some xs'->ps.length=cs.length->xs.length=len->
 (∀i (h:i<ps.length) (h':i<cs.length),Rel β who w ps[i].2 cs[i])->RowE who w t xs arr->
 ∃arr',Instr.fill (λi=>some (i*t.size,t.size)) arr ((ps.map (·.1)).zip cs)=some arr'/\RowE who w t xs' arr'/\xs'.length=len
 |[],[],xs,xs',arr,h,_,hl,_,hr=>by
  injection h with h
  subst h;exact⟨arr,rfl,hr,hl⟩
 |(i,v)::ps,c::cs,xs,xs',arr,h,hlen,hl,hv,hr=>by
  simp only[q4v]at h;split at h
  . rename_i hc;obtain⟨h1,h2,h3⟩:=hc;split at h
    . rename_i y hy;have hvc:Rel β who w v c:=hv 0 (by simp) (by simp)
      obtain⟨q1,q2,q3,q4⟩:=Yk hvc h3;have hcsz:c.cells.toList.length=t.size:=by rw[zY1,q1.1,h2]
      have hrange:i*t.size+t.size<=arr.size:=by
       rw[hr.1];have:(i+1)*t.size<=xs.length*t.size:=zN _ O;rw[zP1]at this;omega
      have hrow:i*t.size+c.cells.toList.length<=arr.size:=by rw[hcsz];exact hrange
      have hr':RowE who w t (xs.set i y) (ql arr (i*t.size) c.cells.toList):=by
       refine⟨by rw[Qm hrow,hr.1];simp,λi' hi'=> ?_⟩
       have hi'':i'<xs.length:=by simpa using hi'
       by_cases e:i'=i
       . subst e;rw[zF1];refine(q33 (β:=β) (who:=who) (w:=w) (f:=λk=>c.cells.getD k undef) hy ?_ ?_).1
         . intro k hk;exact q2a (zX.1 h3 _ (zI hk)) (q1.2 k hk)
         . intro k hk;simp only[zK];rw[Qk hrow,iP O];simp_all
       . rw[zS1 (λh=>e h.symm)]
         refine RelI.ext' (λk hk=> ?_) (hr.2 i' hi'')
         simp only[zK];rw[Qk hrow,iN']
         rintro ⟨g1,g2⟩
         rw[hcsz]at g2;rcases Nat.lt_or_gt_of_ne e with h|h
         . have:(i'+1)*t.size<=i*t.size:=zN _ h
           grind
         . have:(i+1)*t.size<=i'*t.size:=zN _ h
           grind
      obtain⟨arr',e1,e2,e3⟩:=q47 h (by simpa using hlen) (by simpa using hl) (λk hk hk'=>hv (k+1) (by simpa using hk) (by simpa using hk')) hr'
      refine⟨arr',?_,e2,e3⟩;simp only[zX1,zI3];rw[q6t (off:=i*t.size) (size:=t.size) rfl (by rw[q1.1,h2]) (by rw[q1.1,h2];exact hrange)]
      exact e1
    . cases h
  . cases h
 |[],_::_,_,_,_,_,hlen,_,_,_=>by simp at hlen
 |_::_,[],_,_,_,_,hlen,_,_,_=>by simp at hlen
def q4m (hT:TTok P T) {idx t len:Nat} {vs:List (Nat×AV)} {ps:Array (Nat×Operand)} {v:AV} (h:Run CO (q0f T idx t len vs) U v U' R W)
 (hvs:vs.map (·.1)=ps.toList.map (·.1)) (S:Sim E D β who U ((vs.map (·.2)).zip (ps.toList.map λp=>a.eval p.2)++hd) a w) (hf: ∀k,k<16-> ¬D (fresh idx k)):
 ∃r w' β' who',(Instr.buildSlice t len (ps.map λ(i,x)=>(i,a.eval x))).run P w= .ok r w'/\Sim E (Dn D idx) β' who' U' ((v,r)::hd) a w':=by
 unfold q0f at h;split at h
 . rename_i e ty cells ht;split at h
   . rename_i hlen;obtain⟨xs,hset,h⟩:=Run.ofOpt' h;obtain⟨rfl,rfl⟩:=kB h;obtain⟨hu,⟨ei,ez,he,hes,hb,hb0,hz,hzc⟩⟩:=(hT t _ ht).desc;have hlps:vs.length=ps.toList.length:=by have:=congrArg List.length hvs;simpa using this
     have hp:=Ty.size_pos ty;have hzsz:ez.cells.size=ty.size:=by rw[<-Array.length_toList,hzc,Qj]
     have hrow0:RowE who w ty (List.replicate len ty.zero) ((Array.range (len*ei.size)).map λi=>ez.cells[i%ez.cells.size]!):=by
      refine⟨by simp[hes],λi hi=> ?_⟩
      have hi':i<len:=by simpa using hi
      simp only[List.getElem_replicate];refine q0e ty _ 0 λj hj=> ?_
      have hj':j<ty.size:=by rw[<-Qj];exact hj
      have hlt:i*ty.size+j<len*ty.size:=by
       have:(i+1)*ty.size<=len*ty.size:=zN _ O;rw[zP1]at this;omega
      have hmod:(i*ty.size+j)%ty.size=j:=by rw[zh,Nat.mul_add_mod,zU1 hj']
      have hg:ez.cells[j]! =(Qb ty)[j]:=by
       have:j<ez.cells.size:=O;rw[getElem!_pos ez.cells j this];simp only[<-hzc,Array.getElem_toList]
      simp only[zK];simp[hlt,hzsz,hes,hmod,hg]
     obtain⟨arr',e1,e2,e3⟩:=q47 (β:=β) (len:=len) (cs:=ps.toList.map λp=>a.eval p.2) hset (by simpa using hlps) (by simp) (λi hi hi'=>by
      have hm:(vs[i].2,(ps.toList.map λp=>a.eval p.2)[i])∈(vs.map (·.2)).zip (ps.toList.map λp=>a.eval p.2):=by
       rw[List.mem_iff_getElem];exact⟨i,by simp at hi hi'⊢;omega,by simp⟩
      exact S.hrel _ (zQ _ hm)) hrow0
     have hparts:(ps.map λ(i,x)=>(i,a.eval x)).toList=(vs.map (·.1)).zip (ps.toList.map λp=>a.eval p.2):=by
      rw[hvs,zT3];induction ps.toList with
      |nil=>rfl
      |cons p l ih=>simp[ih]
     have hbig: ¬(len*ei.size>2^24):=by rw[hes];have:(2:Nat)^24=16777216:=rfl;omega
     have hrun:(Instr.buildSlice t len (ps.map λ(i,x)=>(i,a.eval x))).run P w= .ok (.slice (some ⟨w.heap.size,0,none⟩) len len) (w.alloc (.cells arr' e)):=by
      unfold Instr.buildSlice;simp only[Sem.run_bind,run_underlying hu,Result.andThen_ok,Xj he,hbig,if_false]
      have hz1:len*ei.size=0->((Array.range (len*ei.size)).map λi=>(#[]:Array Value)[i%(#[]:Array Value).size]!)=(Array.range (len*ei.size)).map λi=>ez.cells[i%ez.cells.size]! :=by
       intro h0;rw[h0];apply Array.ext';simp
      have e1':Instr.fill (λi=>some (i*ei.size,ei.size)) ((Array.range (len*ei.size)).map λi=>ez.cells[i%ez.cells.size]!) ((vs.map (·.1)).zip (ps.toList.map λp=>a.eval p.2))=some arr':=by
       simp only[hes]at e1⊢;exact e1
      have hend:(newRow e arr'>>=λx=>pure (Value.slice (some x) len len):Sem Value).run P w= .ok (.slice (some ⟨w.heap.size,0,none⟩) len len) (w.alloc (.cells arr' e)):=by
       simp[newRow]
      split
      . grind
      . simp only[Sem.run_bind,Zr he hz,Sem.run_pure,Result.andThen_ok,hparts]
        grind
     obtain⟨β',who',S'⟩:=Sim.make (idx:=idx) (v:= .sl (.nm (fresh idx 15)) ty xs) (c:= .slice (some ⟨w.heap.size,0,none⟩) len len)
      (c1:= .slice (some ⟨w.heap.size,0,none⟩) len len) (w':=w.alloc (.cells arr' e)) (o:= .cells arr' e) (S.dropL.take_dead) hf rfl
      (fun β' who' q1 q2 q3 q4 _=>by
        have hnew:=heap_alloc_new w (.cells arr' e);refine⟨q2.symm,.inr ⟨w.heap.size,0,len,arr',e,by rw[e3],hnew,by rw[e2.1,e3];simp,O,q3,λi hi=> ?_⟩⟩
        refine RelI.ext' (λj hj=> ?_) (RelI.keep (λb' hb' hlt=>⟨q4 b' hb' hlt,heap_alloc_old w _ b' hlt⟩) (by simp) (e2.2 i hi))
        simp only[cellAt,World.cell?,hnew,zK];rfl)
      (λn hn=> .inr ⟨15,O,by simpa [names,qi,qc]using hn⟩) (by simp[names,qi,qc])
      (λn hn=> .inr ⟨15,O,by simpa [Vs.occ,occA,occC]using hn⟩)
     exact⟨_,_,β',who',hrun,S'⟩
   . exact(kC h).elim
 . exact(kC h).elim
end
section
variable {P:Program} {CO:qx} {T:TT} {E:Entry} {D:Nat->Prop} {β:Beta} {who:Who} {U U':Slots} {hd:List (AV×Value)} {a:Act} {w w':World} {R W:List Nat}
def Sim.shift (S:Sim E D β who U hd a w) {β':Beta} {who':Who} {w':World} {X:List Nat} (hX:FN∉X) (hβ: ∀x,D x->β' x=β x)
 (ho: ∀b x,who b=some x->x∉X->who' b=some x/\w'.heap[b]? =w.heap[b]?) (hi: ∀b,who b=none->who' b=none/\w'.heap[b]? =w.heap[b]?)
 (hw: ∀b x,who' b=some x-> ∃y,who b=some y) (hsz:w'.heap.size=w.heap.size)
 (hs: ∀s x,x∈X->x∈names (U.get s)->Rel β' who' w' (U.get s) (a.tmps.getD s undef)) (hh: ∀z∈hd,∀x∈X,x∉names z.1)
 (h4:w'.os=w.os/\w'.output=w.output):Sim E D β' who' U hd a w':=by
 have h98:=hβ 98 S.d98
 have k: ∀av,(∀x∈Vs.occ av,D x)->(∀x∈X,x∉names av)->Keeps β who w β' who' w' (names av) (Vs.occ av):=λav h1 h2=>
  ⟨λx hx=>hβ x (h1 x hx),λx hx b hb=>ho b x hb (λh=>h2 x h hx),λb hb _=>hi b hb,O⟩
 refine S.world (λs=> ?_) (λz hz=>(S.hrel z hz).keep (k _ (S.hocc z hz) (hh z hz))) (λb x h=> ?_) O (λb hb h0=> ?_) (λb x h=> ?_) (λb hb=> ?_) h4 h98
 . by_cases e: ∃x∈X,x∈names (U.get s)
   . grind
   . exact(S.rel s).keep (k _ (S.occ s) (λx h1 h2=>e ⟨x,h1,h2⟩))
 . obtain⟨y,hy⟩:=hw b x h;have:=S.wsz b y hy;omega
 . cases hb':who b with
   |none=>exact(hi b hb').2
   |some x=>
    rcases h0 with h0|h0
    . rcases S.fr1 b x hb' with h|h
      . exact absurd h0 h
      . omega
    . have:=S.fr3 b h0;exact(ho b FN this hX).2
 . obtain⟨y,hy⟩:=hw b x h;exact S.fr1 b y hy
 . exact(ho b FN (S.fr3 b hb) hX).1
def Sim.addN {new:List (AV×Value)} (S:Sim E D β who U [] a w) (hr: ∀x∈new,Rel β who w x.1 x.2) (hnd:(new.flatMap λx=>names x.1).Nodup)
 (hdis: ∀x∈new,∀n∈names x.1,∀s,n∉names (U.get s)) (ho: ∀x∈new,∀n∈Vs.occ x.1,D n):Sim E D β who U new a w:=
 {S with hrel:=hr,hnod:=hnd,hdis:=hdis,hocc:=ho}
def Sim.recast (S:Sim E D β who U [] a w) {s:Nat} {v:AV} (h0:U.get s= .dead) (hr:Rel β who w v (a.tmps.getD s undef)) (hnd:(names v).Nodup)
 (hdis: ∀n∈names v,∀t,n∉names (U.get t)) (ho: ∀n∈Vs.occ v,D n):Sim E D β who (U.set s v) [] a w:=
 {S with
  rel:=λt=>by
   by_cases h:t=s
   . subst h;rw[qh];exact hr
   . rw[qg _ _ h];exact S.rel t
  nod:=λt=>by
   by_cases h:t=s
   . subst h;rw[qh];exact hnd
   . rw[qg _ _ h];exact S.nod t
  dis:=λt t' n h1 h2=>by
   by_cases h:t=s<;>by_cases h':t'=s
   . rw[h,h']
   . subst h;rw[qh]at h1;rw[qg _ _ h']at h2;grind
   . subst h';rw[qh]at h2;rw[qg _ _ h]at h1;grind
   . rw[qg _ _ h]at h1;rw[qg _ _ h']at h2;exact S.dis t t' n h1 h2
  occ:=λt n h1=>by
   by_cases h:t=s
   . subst h;rw[qh]at h1;exact ho n h1
   . rw[qg _ _ h]at h1;exact S.occ t n h1
  hdis:=λy hy=>by cases hy}
def qfs {b:Nat} {o:Obj} (h:w.heap[b]? =some o):b<w.heap.size:=by
 grind
def qbh (hT:TTok P T) {idx t:Nat} {l c v:AV} {cl cc:Value} (h:Run CO (qko T idx t l c) U v U' R W) (S:Sim E D β who U hd a w)
 (hl:Rel β who w l cl) (hc:Rel β who w c cc) (hf: ∀k,k<16-> ¬D (fresh idx k)):
 ∃r w' β' who',(Instr.makeSlice t cl cc).run P w= .ok r w'/\Sim E (Dn D idx) β' who' U' ((v,r)::hd) a w':=by
 unfold qko at h;split at h
 . rename_i e inn ty cells l c hti;have hl':cl= .int .i64 l:=hl;have hc':cc= .int .i64 c:=hc;subst hl' hc';obtain⟨_,U1,_,_,_,_,h1,h2⟩:=kA h;obtain⟨⟨m0,m1,m2⟩,rfl⟩:=kG h1;obtain⟨rfl,rfl⟩:=kB h2;obtain⟨hu,⟨ei,ez,he,hes,hb,hb0,hz,hzc⟩⟩:=(hT t _ hti).desc
   have hbb:(ei.bytes:Int)*c<=4096*1073741824:=by
    have h1:(ei.bytes:Int)<=4096:=O
    calc (ei.bytes:Int)*c<=(ei.bytes:Int)*1073741824:=Int.mul_le_mul_of_nonneg_left m2 O
     _<=4096*1073741824:=Int.mul_le_mul_of_nonneg_right h1 O
   have hrun:=run_make (P:=P) w t e ei ez hu he hz .i64 .i64 l c m0 m1 O O;have hrv:dpv (.tuple ((.slice (some ⟨w.heap.size,0,none⟩) l.toNat c.toNat::List.replicate l.toNat nilS).toArray)) 0= .slice (some ⟨w.heap.size,0,none⟩) l.toNat c.toNat:=rfl
   have hri: ∀i,i<l.toNat->dpv (.tuple ((.slice (some ⟨w.heap.size,0,none⟩) l.toNat c.toNat::List.replicate l.toNat nilS).toArray)) (i+1)=nilS:=by
    intro i hi;simp[dpv,Array.getD,hi]
   obtain⟨β',who',S'⟩:=Sim.make (idx:=idx) (v:= .dp (fresh idx 15) ty (List.replicate l.toNat []) none) (c:= .slice (some ⟨w.heap.size,0,none⟩) l.toNat c.toNat)
    (c1:= .tuple ((.slice (some ⟨w.heap.size,0,none⟩) l.toNat c.toNat::List.replicate l.toNat nilS).toArray))
    (w':=w.alloc (.cells (madeCells ez.cells (c.toNat*ei.size)) e)) S.take_dead hf rfl
    (fun β' who' g1 g2 g3 g4 _=>by
      refine⟨by rw[g2];rfl,.inr ⟨w.heap.size,0,c.toNat,madeCells ez.cells (c.toNat*ei.size),e,by simp,heap_alloc_new w _,by simp[size_madeCells,hes,Ty.size],by simp;omega,g3,?_,?_⟩⟩
      . intro i hi _;have hi':i<l.toNat:=by simpa using hi
        rw[g2,hri i hi'];refine⟨?_,.inl ⟨rfl,by simp⟩⟩
        have hE:Elems who' (w.alloc (.cells (madeCells ez.cells (c.toNat*ei.size)) e)) (.sl inn ty) (List.replicate l.toNat (Ty.zero (.sl inn ty))) w.heap.size 0:=
         q7d (zs:=ez.cells) (m:=c.toNat) (el:=e) hzc (by rw[<-hes];exact heap_alloc_new w _) O
        obtain⟨vv,q1,q2⟩:=hE i (by simpa using hi')
        have:vv=nilS:=by
         rcases q2 with⟨q2,_⟩|⟨b,o,cap,q2,q3,q4,q5,q6⟩
         . exact q2
         . exfalso
           have hcell:(w.alloc (.cells (madeCells ez.cells (c.toNat*ei.size)) e)).cell? ⟨w.heap.size,i,none⟩=some nilS:=by
            have hzs:ez.cells.toList=[nilS]:=hzc;have hz1:ez.cells= #[nilS]:=by apply Array.ext';simpa using hzs
            have hsz1:ei.size=1:=hes;have hlt:i<c.toNat:=O;have hh:=heap_alloc_new w (Obj.cells (madeCells ez.cells (c.toNat*ei.size)) e);simp only[World.cell?,hh];simp[madeCells,hz1,hsz1,hlt,Nat.mod_one]
           have hc2:cellAt (w.alloc (.cells (madeCells ez.cells (c.toNat*ei.size)) e)) w.heap.size (0+i*1) 0=some vv:=q1;simp only[cellAt,zK,zk1,zV]at hc2;rw[hcell]at hc2;injection hc2 with hc2
           rw[<-hc2]at q2;cases q2
        rw[this]at q1;simpa [cellAt,Ty.size]using q1
      . intro i j ai aj li lj ci cj hi _ _ _ q;have hi':i<l.toNat:=by simpa using hi
        rw[g2,hri i hi']at q;cases q)
    (λn hn=> .inr ⟨15,O,by simpa [names,qi,qc]using hn⟩) (by simp[names,qi,qc])
    (λn hn=> .inr ⟨15,O,by simpa [Vs.occ,occA,occC]using hn⟩)
   exact⟨_,_,β',who',hrun,S'⟩
 . exact(kC h).elim
def q5n {n:Nat}: ∀{cells:List AV} {k j:Nat},qgu n cells k=some j->k<=j/\ ∃t xs hh,(cells[j-k]? =some (.dp n t xs hh)\/cells[j-k]? =some (.fd n t xs hh))
 |c::cs,k,j,h=>by
  unfold qgu at h;split at h
  . rename_i e;cases h;refine⟨zD _,?_⟩;rw[zw2];cases c with
    |dp m t xs hh=>
     have:m=n:=Nat.eq_of_beq_eq_true e
     grind
    |fd m t xs hh=>
     have:m=n:=Nat.eq_of_beq_eq_true e
     grind
    |_=>cases e
  . obtain⟨h1,h2⟩:=q5n h
    grind
def qgq (a d:AV):Option Nat->AV
 |none=>d
 |some j=>match a with
  | .bx o cells=> .bx o (cells.set j (refd (cells.getD j .dead) d))
  |a=>a
def q6s {n:Nat} {a d:AV} {loc:Option Nat} (h:dpAt n a=some (d,loc)):(∃t xs hh,d= .dp n t xs hh)/\((loc=none/\a=d)\/ ∃m cells j,loc=some j/\a= .bx (.nm m) cells/\ ∃hj:j<cells.length,undp cells[j]=d):=by
 unfold dpAt at h;split at h
 . grind
 . rename_i m cells;split at h
   . rename_i j hc;cases h;obtain⟨_,t,xs,hh,e⟩:=q5n hc;have hj:j<cells.length:=by grind
     have hg:cells.getD j .dead=cells[j]:=by rw[List.getD_eq_getElem?_getD,List.getElem?_eq_getElem hj];rfl
     have hu:undp cells[j]= .dp n t xs hh:=by
      rw[zm3,List.getElem?_eq_getElem hj]at e;rcases e with e|e<;>(injection e with e;rw[e];rfl)
     refine⟨⟨t,xs,hh,by rw[hg,hu]⟩,.inr ⟨m,cells,j,rfl,rfl,hj,by rw[hg]⟩⟩
   . cases h
 . cases h
def q5q {n:Nat} {f:AV->Option AV} {a d b:AV} {loc:Option Nat} (h:dpAt n a=some (d,loc)) (hb:atLoc f loc a=some b): ∃d',f d=some d'/\b=qgq a d' loc:=by
 obtain⟨_,h1⟩:=q6s h;rcases h1 with⟨rfl,rfl⟩|⟨m,cells,j,rfl,rfl,hj,rfl⟩
 . exact⟨b,hb,rfl⟩
 . unfold atLoc at hb;have:cells.getD j .dead=cells[j]:=by rw[List.getD_eq_getElem?_getD,List.getElem?_eq_getElem hj];rfl
   simp only[this]at hb;split at hb
   . rename_i d' hd;cases hb;exact⟨d',hd,by simp only[qgq,this]⟩
   . cases hb
def qie (U:Slots): ∃B,∀g,B<=g->U.get g= .dead:=by
 induction U with
 |nil=>exact⟨0,λ_ _=>rfl⟩
 |cons x r ih=>
  obtain⟨B,hB⟩:=ih;obtain⟨k,v⟩:=x;refine⟨B+k+1,λg hg=> ?_⟩
  simp only[Slots.get]
  grind
def qj9 (l:List (Nat×Value)): ∃B,∀p∈l,p.1<B:=by
 induction l with
 |nil=>simp_all
 |cons x r ih=>
  obtain⟨B,hB⟩:=ih;refine⟨B+x.1+1,λp hp=> ?_⟩
  grind
def X0 {cells:List AV} {j:Nat} (hj:j<cells.length):(cells.set j .dead).flatMap qc=(cells.take j).flatMap qc++(cells.drop (j+1)).flatMap qc:=by
 rw[zN1,iP hj];simp[qc]
def Qx {cells:List AV} {j:Nat} {d:AV} (hj:j<cells.length):(cells.set j d).flatMap qc=(cells.take j).flatMap qc++(qc d++(cells.drop (j+1)).flatMap qc):=by
 rw[zN1,iP hj];simp
def ql2 {cells:List AV} {j:Nat} {d:AV} {n:Nat} (hj:j<cells.length) (h:n∈(cells.set j d).flatMap occC):n∈occC d\/n∈(cells.set j .dead).flatMap occC:=by
 rw[zN1,iP hj]at h⊢
 grind
def mem_set {cells:List AV} {j:Nat} {d:AV} {n:Nat} (hj:j<cells.length) (h:n∈(cells.set j d).flatMap qc):n∈qc d\/n∈(cells.set j .dead).flatMap qc:=by
 rw[Qx hj]at h;rw[X0 hj]
 grind
def qmd {arr:Array Value} {g:Nat} {v:Value} (hg:arr.size<=g) (s:Nat):(arr++Array.replicate (g-arr.size) undef++ #[v]).getD s undef=if s=g then v else arr.getD s undef:=by
 simp only[Array.getD_eq_getD_getElem?]
 grind
def q8a {c:AV} {n:Nat} {t:Ty} {xs:List (List (Den t))} {hh:Option Nat} (h:undp c= .dp n t xs hh):c= .dp n t xs hh\/c= .fd n t xs hh:=by
 cases c with
 |fd m t' ys q=>cases h;exact .inr rfl
 |_=>exact .inl h
def Sim.openDp2 (S:Sim E D β who U hd a w) {s n:Nat} {loc:Option Nat} {t:Ty} {xs:List (List (Den t))} {hh:Option Nat} (h:dpAt n (U.get s)=some (.dp n t xs hh,loc)):
 ∃(E':Entry) (a':Act) (g:Nat) (U1:Slots),Sim E' D β who U1 hd a' w/\U1.get g= .dp n t xs hh/\
  ∀(D':Nat->Prop) β' who' w' hd' n' t' (xs':List (List (Den t'))) hh',(∀b x,who b=some x->x≠n->D x->w'.heap[b]? =w.heap[b]?)->
   Sim E' D' β' who' (U1.set g (.dp n' t' xs' hh')) hd' a' w'->Sim E D' β' who' (U.set s (qgq (U.get s) (.dp n' t' xs' hh') loc)) hd' a w':=by
 obtain⟨_,h1⟩:=q6s h;rcases h1 with⟨rfl,hav⟩|⟨m,cells,j,rfl,hav,hj,hcj⟩
 . exact⟨E,a,s,U,S,hav,λD' β' who' w' hd' n' t' xs' hh' _ S'=>S'⟩
 obtain⟨B1,hB1⟩:=qie U;obtain⟨B2,hB2⟩:=qj9 E.pins;obtain⟨g,hg1,hg2,hg3⟩: ∃g,B1<=g/\B2<=g/\a.tmps.size<=g:=⟨B1+B2+a.tmps.size,O,O,O⟩;have hgd:U.get g= .dead:=hB1 g hg1;have hsg:s≠g:=by rintro rfl;rw[hgd]at hav;cases hav
 have hrs:=S.rel s;rw[hav]at hrs;obtain⟨r0,b,arr,el,r1,r2,r3,r4⟩:=hrs;have hu:=q8a hcj
 have hdr:RelC β who w (.dp n t xs hh) (arr.getD j undef):=by
  have:=r4.2 j hj;rcases hu with e|e<;>rw[e]at this
  . exact this
  . exact this.1
 have hcn:qc cells[j]=[n]:=by rcases hu with e|e<;>rw[e]<;>rfl
 have hco:n∈occC cells[j]:=by rcases hu with e|e<;>rw[e]<;>simp[occC]
 have hnd:=S.nod s;rw[hav]at hnd;have hnd':(m::cells.flatMap qc).Nodup:=hnd;have hcs:cells.set j cells[j]=cells:=zy1 hj
 have hnm:m≠n:=by
  rintro rfl
  have:=(zU.1 hnd').1;exact this (zC.2 ⟨cells[j],zI hj,by rw[hcn];simp⟩)
 have hsub: ∀x,x∈(cells.set j .dead).flatMap qc->x∈cells.flatMap qc:=λx hx=>by
  rw[<-hcs,Qx hj];rw[X0 hj]at hx
  grind
 have hsubo: ∀x,x∈(cells.set j .dead).flatMap occC->x∈cells.flatMap occC:=λx hx=>by
  obtain⟨c,hc,hx⟩:=zC.1 hx;rcases List.mem_or_eq_of_mem_set hc with hc|rfl
  . grind
  . cases hx
 have hnot:n∉m::(cells.set j .dead).flatMap qc:=by
  intro hx;rcases mC hx with e|hx
  . exact hnm e.symm
  . have h2:=(zU.1 hnd').2;rw[<-hcs,Qx hj,hcn]at h2;rw[X0 hj]at hx;obtain⟨q1,q2,q3⟩:=zG.1 h2;rcases zL.1 hx with hx|hx
    . exact q3 n hx n (zQ _ (by simp)) rfl
    . obtain⟨p1,p2,p3⟩:=zG.1 q2;exact p3 n (by simp) n hx rfl
 have hdeadnd:(m::(cells.set j .dead).flatMap qc).Nodup:=by
  refine zU.2 ⟨λhx=>(zU.1 hnd').1 (hsub m hx),?_⟩
  have h2:=(zU.1 hnd').2;rw[<-hcs,Qx hj]at h2;rw[X0 hj];obtain⟨q1,q2,q3⟩:=zG.1 h2;obtain⟨p1,p2,p3⟩:=zG.1 q2;exact zG.2 ⟨q1,p2,λx hx y hy=>q3 x hx y (zf _ hy)⟩
 let a':Act:={a with tmps:=a.tmps++Array.replicate (g-a.tmps.size) undef++ #[arr.getD j undef]}
 have ha': ∀s',a'.tmps.getD s' undef=if s'=g then arr.getD j undef else a.tmps.getD s' undef:=λs'=>qmd hg3 s'
 let U1:Slots:=(U.set s (.bx (.nm m) (cells.set j .dead))).set g (.dp n t xs hh)
 have gg:U1.get g= .dp n t xs hh:=qh ..;have gs:U1.get s= .bx (.nm m) (cells.set j .dead):=by simp only[U1];rw[qg _ _ hsg,qh]
 have go: ∀s',s'≠g->s'≠s->U1.get s'=U.get s':=λs' h1 h2=>by simp only[U1];rw[qg _ _ h1,qg _ _ h2]
 have nS: ∀x s',x∈names (U1.get s')->(s'=g->x=n)/\(s'≠g->x∈names (U.get s'))/\(s'≠g->x≠n):=by
  intro x s' hx;by_cases e:s'=g
  . subst e;rw[gg]at hx;refine⟨λ_=>by simpa [names,qi,qc]using hx,λh=>absurd rfl h,λh=>absurd rfl h⟩
  . by_cases e2:s'=s
    . subst e2;rw[gs]at hx;have hx:x∈m::(cells.set j .dead).flatMap qc:=hx;refine⟨λh=>absurd h e,λ_=> ?_,λ_ h=>hnot (h▸hx)⟩
      rw[hav];show x∈m::cells.flatMap qc
      grind
    . rw[go s' e e2]at hx;refine⟨λh=>absurd h e,λ_=>hx,λ_ h=>e2 ?_⟩
      subst h;refine S.dis s' s x hx ?_;rw[hav];exact mT (zC.2 ⟨cells[j],zI hj,by rw[hcn];simp⟩)
 refine⟨{E with N:=g+1},a',g,U1,?_,gg,?_⟩
 . refine{S with rel:=λs'=> ?_,nod:=λs'=> ?_,dis:=λs1 s2 x h1 h2=> ?_,occ:=λs' x hx=> ?_,hdis:=λz hz x hx s' hs=> ?_,tsz:= ?_,pin:=λp hp=> ?_}
   . rw[ha'];by_cases e:s'=g
     . subst e;rw[gg,iP rfl];exact hdr
     . rw[iN' e];by_cases e2:s'=s
       . subst e2;rw[gs];refine⟨r0,b,arr,el,r1,r2,r3,by rw[zY];exact r4.1,λi hi=> ?_⟩
         rw[zc2];split
         . trivial
         . exact r4.2 i (by simpa using hi)
       . rw[go s' e e2];exact S.rel s'
   . by_cases e:s'=g
     . subst e;rw[gg];simp[names,qi,qc]
     . by_cases e2:s'=s
       . subst e2;rw[gs];exact hdeadnd
       . rw[go s' e e2];exact S.nod s'
   . have q1:=nS x s1 h1;have q2:=nS x s2 h2;by_cases e1:s1=g<;>by_cases e2:s2=g
     . rw[e1,e2]
     . omega
     . omega
     . exact S.dis s1 s2 x (q1.2.1 e1) (q2.2.1 e2)
   . by_cases e:s'=g
     . subst e;rw[gg]at hx;have:x=n:=by simpa [Vs.occ,occA,occC]using hx
       subst this;refine S.occ s x ?_;rw[hav];exact mT (zC.2 ⟨cells[j],zI hj,hco⟩)
     . by_cases e2:s'=s
       . subst e2;rw[gs]at hx;refine S.occ s' x ?_;rw[hav];have hx:x∈m::(cells.set j .dead).flatMap occC:=hx;show x∈m::cells.flatMap occC
         grind
       . rw[go s' e e2]at hx;exact S.occ s' x hx
   . have q:=nS x s' hs;by_cases e:s'=g
     . have:=q.1 e;subst this;refine S.hdis z hz x hx s ?_;rw[hav];exact mT (zC.2 ⟨cells[j],zI hj,by rw[hcn];simp⟩)
     . exact S.hdis z hz x hx s' (q.2.1 e)
   . grind
   . rw[ha',iN' (by have:=hB2 p hp;omega)]
     exact S.pin p hp
 . intro D' β' who' w' hd' n' t' xs' hh' hw S';have gg': ∀d,(U1.set g d).get g=d:=λd=>qh ..
   have gs': ∀d,(U1.set g d).get s= .bx (.nm m) (cells.set j .dead):=λd=>by rw[qg _ _ hsg,gs]
   have go': ∀d s',s'≠g->s'≠s->(U1.set g d).get s'=U.get s':=λd s' h1 h2=>by rw[qg _ _ h1,go s' h1 h2]
   rw[hav];obtain⟨dd,hdd⟩: ∃dd,dd=refd (cells.getD j .dead) (.dp n' t' xs' hh'):=⟨_,rfl⟩;have hcd:cells.getD j .dead=cells[j]:=by rw[List.getD_eq_getElem?_getD,List.getElem?_eq_getElem hj];rfl
   have hd2:dd= .dp n' t' xs' hh'\/(dd= .fd n' t' xs' hh'/\cells[j]= .fd n t xs hh):=by
    rw[hdd,hcd];rcases hu with e|e<;>rw[e]
    . exact .inl rfl
    . exact .inr ⟨rfl,rfl⟩
   have hdn:qc dd=[n']:=by rcases hd2 with e|⟨e,_⟩<;>rw[e]<;>rfl
   have hdo: ∀x∈occC dd,x=n'\/x=98:=λx hx=>by
    rcases hd2 with e|⟨e,_⟩<;>rw[e]at hx<;>simp[occC]at hx
    . exact .inl hx
    . exact hx
   show Sim E D' β' who' (U.set s (.bx (.nm m) (cells.set j (refd (cells.getD j .dead) (.dp n' t' xs' hh'))))) hd' a w'
   rw[<-hdd];have hR:=S'.rel g;rw[gg',ha',iP rfl]at hR;have hs':=S'.rel s;rw[gs',ha',iN' hsg]at hs';obtain⟨s0,b',arr',el',s1,s2,s3,s4⟩:=hs';have hbb:b'=b:=by rw[r1]at s1;injection s1 with s1;injection s1 with s1;injection s1 with s1;exact s1.symm
   subst hbb;have hheap:=hw b' m (by grind) hnm (S.occ s m (by rw[hav];exact mS))
   rw[hheap,r2]at s2;injection s2 with s2
   injection s2 with s2 s2'
   subst s2 s2'
   have mN: ∀x s',x∈names ((U.set s (.bx (.nm m) (cells.set j dd))).get s')->s'≠g/\(x∈names ((U1.set g (.dp n' t' xs' hh')).get s')\/(s'=s/\x∈names ((U1.set g (.dp n' t' xs' hh')).get g))):=by
    intro x s' hx;by_cases e:s'=s
    . subst e;rw[qh]at hx;refine⟨hsg,?_⟩;have hx:x∈m::(cells.set j dd).flatMap qc:=hx;rcases mC hx with h|h
      . left;rw[gs'];exact h▸mS
      . rcases mem_set hj h with h|h
        . right;rw[gg'];rw[hdn]at h;exact⟨rfl,by simpa [names,qi,qc]using h⟩
        . left;rw[gs'];exact mT h
    . rw[qg _ _ e]at hx;have e2:s'≠g:=by rintro rfl;rw[hgd]at hx;cases hx
      grind
   refine{S' with rel:=λs'=> ?_,nod:=λs'=> ?_,dis:=λs1 s2 x h1 h2=> ?_,occ:=λs' x hx=> ?_,hdis:=λz hz x hx s' hs=> ?_,tsz:=S.tsz,pin:=S.pin}
   . by_cases e:s'=s
     . subst e;rw[qh];refine⟨s0,b',arr,el,s1,by rw[hheap];exact r2,s3,by rw[zY];exact r4.1,λi hi=> ?_⟩
       rw[zc2];split
       . rename_i e;subst e;rcases hd2 with e|⟨e,e3⟩
         . rw[e];exact hR
         . rw[e];have h1:=r4.2 j hj;rw[e3]at h1;exact⟨hR,h1.2.trans ((S.frm).trans (S'.frm).symm)⟩
       . rename_i e;have:=s4.2 i (by simpa using hi)
         grind
     . rw[qg _ _ e];by_cases e2:s'=g
       . subst e2;rw[hgd];trivial
       . have:=S'.rel s'
         grind
   . by_cases e:s'=s
     . subst e;rw[qh];show(m::(cells.set j dd).flatMap qc).Nodup;have hn':n'∉m::(cells.set j .dead).flatMap qc:=λhx=>hsg (S'.dis s' g n' (by rw[gs'];exact hx) (by rw[gg'];simp[names,qi,qc]))
       obtain⟨k1,k2⟩:=zU.1 hdeadnd;rw[X0 hj]at k1 k2 hn';rw[Qx hj];simp only[hdn,zB2,zT2];simp only[zJ,zL,not_or]at k1 hn';obtain⟨q1,q2,q3⟩:=zG.1 k2;refine zU.2 ⟨?_,zG.2 ⟨q1,zU.2 ⟨hn'.2.2,q2⟩,λx hx y hy=> ?_⟩⟩
       . grind
       . grind
     . rw[qg _ _ e];by_cases e2:s'=g
       . subst e2;rw[hgd];exact z01
       . have:=S'.nod s'
         grind
   . obtain⟨p1,p2⟩:=mN x s1 h1;obtain⟨q1,q2⟩:=mN x s2 h2;rcases p2 with p2|⟨p2,p3⟩<;>rcases q2 with q2|⟨q2,q3⟩
     . exact S'.dis s1 s2 x p2 q2
     . exact absurd (S'.dis s1 g x p2 q3) p1
     . exact absurd (S'.dis s2 g x q2 p3) q1
     . rw[p2,q2]
   . by_cases e:s'=s
     . subst e;rw[qh]at hx;have hx:x∈m::(cells.set j dd).flatMap occC:=hx;rcases mC hx with h|h
       . exact S'.occ s' x (by rw[gs'];exact h▸mS)
       . rcases ql2 hj h with h|h
         . rcases hdo x h with rfl|rfl
           . exact S'.occ g x (by rw[gg'];simp[Vs.occ,occA,occC])
           . exact S'.d98
         . exact S'.occ s' x (by rw[gs'];exact mT h)
     . rw[qg _ _ e]at hx;by_cases e2:s'=g
       . subst e2;rw[hgd]at hx;cases hx
       . exact S'.occ s' x (by grind)
   . obtain⟨_,q2⟩:=mN x s' hs;rcases q2 with q2|⟨_,q3⟩
     . exact S'.hdis z hz x hx s' q2
     . exact S'.hdis z hz x hx g q3
def Sim.openDp (S:Sim E D β who U hd a w) {s n:Nat} {loc:Option Nat} {t:Ty} {xs:List (List (Den t))} {hh:Option Nat} (h:dpAt n (U.get s)=some (.dp n t xs hh,loc)):
 ∃(E':Entry) (a':Act) (g:Nat) (U1:Slots),Sim E' D β who U1 hd a' w/\U1.get g= .dp n t xs hh/\
  ∀(D':Nat->Prop) β' who' w' hd' n' t' (xs':List (List (Den t'))) hh',(∀b,who b≠some n->w'.heap[b]? =w.heap[b]?)->
   Sim E' D' β' who' (U1.set g (.dp n' t' xs' hh')) hd' a' w'->Sim E D' β' who' (U.set s (qgq (U.get s) (.dp n' t' xs' hh') loc)) hd' a w':=by
 obtain⟨E',a',g,U1,S1,hg,hcl⟩:=S.openDp2 h;exact⟨E',a',g,U1,S1,hg,λD' β' who' w' hd' n' t' xs' hh' hw S'=>hcl D' β' who' w' hd' n' t' xs' hh' (λb x hb hx _=>hw b (by rw[hb];intro e;injection e with e;exact hx e)) S'⟩
def Sim.dpA (S:Sim E D β who U hd a w) {s n n':Nat} {loc:Option Nat} {t:Ty} {xs:List (List (Den t))} {hh:Option Nat} (h:dpAt n (U.get s)=some (.dp n' t xs hh,loc)):
 n'=n/\(∃v,RelDp β who w n t xs hh v)/\n∈names (U.get s):=by
 obtain⟨⟨t1,xs1,hh1,e⟩,h1⟩:=q6s h;cases e;refine⟨rfl,?_⟩;rcases h1 with⟨rfl,hav⟩|⟨m,cells,j,rfl,hav,hj,hcj⟩
 . have:=S.rel s;rw[hav]at this;exact⟨⟨_,this⟩,by rw[hav];simp[names,qi,qc]⟩
 . have hrs:=S.rel s;rw[hav]at hrs;obtain⟨r0,b,arr,el,r1,r2,r3,r4⟩:=hrs;have hdr:=r4.2 j hj;have hu:=q8a hcj;rw[hav];rcases hu with e|e<;>rw[e]at hdr
   . exact⟨⟨_,hdr⟩,mT (zC.2 ⟨cells[j],zI hj,by rw[e];simp[qc]⟩)⟩
   . exact⟨⟨_,hdr.1⟩,mT (zC.2 ⟨cells[j],zI hj,by rw[e];simp[qc]⟩)⟩
def Run.dpLen {s n l:Nat} (h:Run CO (dpLen s n) U l U' R W):U'=U/\ ∃n' t xs hh loc,dpAt n (U.get s)=some (.dp n' t xs hh,loc)/\l=xs.length:=by
 unfold Vs.dpLen at h;obtain⟨b,U1,_,_,_,_,h1,h2⟩:=kA h;obtain⟨hb,rfl⟩:=kF h1;split at h2
 . rename_i s1 m;obtain⟨c,U2,_,_,_,_,h3,h4⟩:=kA h2;obtain⟨hc,rfl⟩:=kF h3;split at h4
   . rename_i l1 m1;split at h4
     . rename_i e;obtain⟨rfl,rfl⟩:=kB h4;subst e;refine⟨rfl,?_⟩;cases hav:U'.get s with
       |dp n' t xs hh=>
        rw[hav]at hb hc;simp only[vwf,alias,zH,AV.dr.injEq]at hb;simp[vwf,cellV]at hc;obtain⟨_,rfl,_⟩:=hb;exact⟨_,t,xs,hh,none,iP rfl,hc.1⟩
       |bx o cs=>rw[hav]at hb;cases o<;>simp[vwf,alias]at hb
       |tup vs=>rw[hav]at hb;simp[vwf,alias]at hb
       |_=>rw[hav]at hc;simp[vwf,cellV]at hc
     . exact(kC h4).elim
   . exact(kC h4).elim
 . obtain⟨av,U2,_,_,_,_,h3,h4⟩:=kA h2;obtain⟨hav,rfl⟩:=kD h3;split at h4
   . rename_i n' t xs hh loc hd;obtain⟨rfl,rfl⟩:=kB h4
     grind
   . exact(kC h4).elim
 . exact(kC h2).elim
def Run.holeAsk' {hh:Option Nat} {i:Nat} {u:Unit} (h:Run CO (qj3 hh i) U u U' R W):(hh=none\/hh=some i)/\U'=U:=by
 cases hh with
 |none=>obtain⟨_,rfl⟩:=kB h;exact⟨.inl rfl,rfl⟩
 |some k=>obtain⟨rfl,rfl⟩:=kG h;exact⟨.inr rfl,rfl⟩
def Run.noHole' {hh:Option Nat} {i:Nat} {u:Unit} (h:Run CO (q57 hh i) U u U' R W):hh≠some i/\U'=U:=by
 cases hh with
 |none=>obtain⟨_,rfl⟩:=kB h;exact⟨by simp,rfl⟩
 |some k=>obtain⟨g,rfl⟩:=kG h;grind
def Sim.dp (S:Sim E D β who U hd a w) {s n:Nat} {t:Ty} {xs:List (List (Den t))} {hh:Option Nat} (h:U.get s= .dp n t xs hh):
 RelDp β who w n t xs hh (a.tmps.getD s undef):=by
 have:=S.rel s;rw[h]at this;exact this
def RelDp.base {n:Nat} {t:Ty} {xs:List (List (Den t))} {hh:Option Nat} {v:Value} (h:RelDp β who w n t xs hh v):
 ∃ad cap,dpv (β n) 0= .slice ad xs.length cap:=by
 obtain⟨h1,h2⟩:=h
 grind
def RelDp.baseP {n:Nat} {t:Ty} {xs:List (List (Den t))} {hh:Option Nat} {v:Value} (h:RelDp β who w n t xs hh v) (hx:xs≠[]):
 ∃b o cap,dpv (β n) 0= .slice (some ⟨b,o,none⟩) xs.length cap:=by
 obtain⟨h1,b,o,cap,arr,el,e1,_⟩:=h.pos (.inr hx)
 grind
def RelDp.row {n:Nat} {t:Ty} {xs:List (List (Den t))} {hh:Option Nat} {v:Value} (h:RelDp β who w n t xs hh v) {i:Nat} (hi:i<xs.length) (hn:hh≠some i):
 SlS who w t xs[i] (dpv (β n) (i+1)):=by
 obtain⟨h1,b,o,cap,arr,el,e1,e2,e3,e4,e5,e6,e7⟩:=h.pos (.inr (Ql hi));obtain⟨_,f⟩:=e6 i hi hn;rcases f with f|⟨bi,oi,ci,ar,l,k1,k2,k3,k4,k5,k6,k7⟩
 . exact .inl f
 . exact .inr ⟨bi,oi,ci,k1,qfs k2,k4,k7⟩
def qey (hT:TTok P T) {t s n:Nat} {k:DK} {tys:Array TypeId} {rt:TypeId} {v:AV} {c:Value} (h:Run CO (lenDr T t s n k) U v U' R W) (ht:tys[0]? =some t)
 (S:Sim E D β who U hd a w) (hx:DrVal (β n) k c):
 U'=U/\names v=[]/\occ v=[]/\ ∃r,(Builtin.len_ tys rt #[c]).run P w= .ok r w/\Rel β who w v r:=by
 unfold lenDr at h;split at h
 . rename_i e ty cells hti;have hu:=(hT t _ hti).desc.1;split at h
   . obtain⟨l,U1,_,_,_,_,h1,h2⟩:=kA h;obtain⟨rfl,n',ty',xs,hh,loc,hav,rfl⟩:=Run.dpLen h1;obtain⟨rfl,rfl⟩:=kB h2;obtain⟨_,⟨v0,hdp⟩,_⟩:=S.dpA hav;obtain⟨ad,cap,hb⟩:=hdp.base;obtain⟨hc,_⟩:=hx;rw[hb]at hc;subst hc;exact⟨rfl,rfl,rfl,.int .i64 xs.length,by simp[Builtin.len_,ht,run_underlying hu,goInt],rfl⟩
   . rename_i l;obtain⟨rfl,rfl⟩:=kB h;rcases hx.2 with⟨rfl,rfl⟩|⟨b,o,cap,rfl⟩<;>exact⟨rfl,rfl,rfl,_,by simp[Builtin.len_,ht,run_underlying hu,goInt],rfl⟩
   . rename_i i;obtain⟨av,U1,_,_,_,_,h1,h2⟩:=kA h;obtain⟨hav,rfl⟩:=kD h1;split at h2
     . rename_i m ty' xs hh loc hd;rw[hav]at hd;obtain⟨_,⟨v0,hdp⟩,_⟩:=S.dpA hd;obtain⟨_,U2,_,_,_,_,h3,h4⟩:=kA h2;obtain⟨hm,rfl⟩:=Run.noHole' h3;obtain⟨rfl,rfl⟩:=kB h4;obtain⟨hc,_,a0,L0,c0,q1,q2⟩:=hx;obtain⟨ad,cap,hb⟩:=hdp.base;rw[hb]at q1;injection q1 with _ q1 _
       subst q1;have hr:=hdp.row q2 hm;obtain⟨ad,cp,e⟩:=hr.shape;rw[e]at hc;subst hc;have hx:xs.getD i []=xs[i]:=by simp[List.getD,List.getElem?_eq_getElem q2]
       exact⟨rfl,rfl,rfl,.int .i64 xs[i].length,by simp[Builtin.len_,ht,run_underlying hu,goInt],by rw[hx];rfl⟩
     . exact(kC h2).elim
   . exact(kC h).elim
 . exact(kC h).elim
def q9y (hT:TTok P T) {t s n:Nat} {k:DK} {i v:AV} {c ci:Value} (h:Run CO (qe6 T t s n k i) U v U' R W) (S:Sim E D β who U hd a w)
 (hx:DrVal (β n) k c) (hi:Rel β who w i ci):
 U'=U/\names v=[]/\(∀m∈occ v,m=n)/\ ∃r,(Instr.indexAt t c ci).run P w= .ok r w/\Rel β who w v r:=by
 unfold qe6 at h;split at h
 . rename_i e ety cells kk i' hti;have hci:ci= .int kk i':=hi;subst hci;obtain⟨hu,⟨ei,ez,he,hes,_⟩⟩:=(hT t _ hti).desc;split at h
   . split at h
     . rename_i hsz;obtain⟨l,U1,_,_,_,_,h1,h2⟩:=kA h;obtain⟨rfl,n',ty',xs,hh,loc,hav,rfl⟩:=Run.dpLen h1;obtain⟨_,U2,_,_,_,_,h3,h4⟩:=kA h2;obtain⟨⟨m0,m1⟩,rfl⟩:=kG h3;obtain⟨rfl,rfl⟩:=kB h4;obtain⟨_,⟨v0,hdp⟩,_⟩:=S.dpA hav;obtain⟨b,o,cap,hb⟩:=hdp.baseP (by grind)
       obtain⟨hc,_⟩:=hx;rw[hb]at hc;subst hc;refine⟨rfl,rfl,λm hm=>by simpa [occ,occA,occC]using hm,_,run_indexAt hu he b o xs.length cap kk i' m0 m1 w,b,o,xs.length,cap,hb,O,?_⟩
       rw[hes,hsz,zk1]
     . exact(kC h).elim
   . rename_i l;split at h
     . rename_i hsz;obtain⟨_,U2,_,_,_,_,h3,h4⟩:=kA h;obtain⟨⟨m0,m1⟩,rfl⟩:=kG h3;obtain⟨rfl,rfl⟩:=kB h4;obtain⟨hc,h6⟩:=hx;rcases h6 with⟨_,h6⟩|⟨b,o,cap,hb⟩
       . omega
       . have hb':=hb;rw[hc]at hb;subst hb';refine⟨rfl,rfl,λm hm=>by simpa [occ,occA,occC]using hm,_,run_indexAt hu he b o l cap kk i' m0 m1 w,b,o,l,cap,hb,O,?_⟩
         rw[hes,hsz,zk1]
     . exact(kC h).elim
   . rename_i r;obtain⟨av,U1,_,_,_,_,h1,h2⟩:=kA h;obtain⟨hav,rfl⟩:=kD h1;split at h2
     . rename_i m ty' xs hh loc hd;rw[hav]at hd;obtain⟨_,⟨v0,hdp⟩,_⟩:=S.dpA hd;split at h2
       . rename_i hsz;obtain⟨_,U2,_,_,_,_,h3,h4⟩:=kA h2;obtain⟨hm,rfl⟩:=Run.noHole' h3;obtain⟨_,U3,_,_,_,_,h5,h6⟩:=kA h4;obtain⟨⟨m0,m1⟩,rfl⟩:=kG h5;obtain⟨rfl,rfl⟩:=kB h6;obtain⟨hc,_,a0,L0,c0,q1,q2⟩:=hx;obtain⟨ad,cap,hb⟩:=hdp.base;have q1':=q1;rw[hb]at q1;injection q1 with _ q1 _
         subst q1;have hr:=hdp.row q2 hm;have hxr:xs.getD r []=xs[r]:=by simp[List.getD,List.getElem?_eq_getElem q2]
         rw[hxr]at m1;rcases hr with⟨_,hn⟩|⟨bi,oi,ci',k1,k2,k4,k7⟩
         . grind
         . rw[k1]at hc;subst hc;refine⟨rfl,rfl,λm hm=>by simpa [occ,occA,occC]using hm,_,run_indexAt hu he bi oi xs[r].length ci' kk i' m0 m1 w,bi,oi,xs[r].length,ci',k1,O,?_,_,_,_,q1',q2⟩
           rw[hes,hsz,zV]
       . exact(kC h2).elim
     . exact(kC h2).elim
   . exact(kC h).elim
 . exact(kC h).elim
end
section
variable {P:Program} {CO:qx} {T:TT} {E:Entry} {D:Nat->Prop} {β:Beta} {who:Who} {U U':Slots} {hd:List (AV×Value)} {a:Act} {w w':World} {R W:List Nat}
def InnO.one {n:Nat} {t:Ty} {ys:List (Den t)} {v:Value} {b:Nat} (h:InnO who w n t ys v b): ∃ad l c,v= .slice ad l c:=by
 rcases h with⟨rfl,_⟩|⟨_,_,_,_,_,rfl,_⟩<;>exact⟨_,_,_,rfl⟩
def Sim.takeDp (S:Sim E D β who U [] a w) {idx s n i:Nat} {t:Ty} {xs:List (List (Den t))} (hav:U.get s= .dp n t xs none) (hi:i<xs.length)
 (hf: ∀k,k<16-> ¬D (fresh idx k)):
 ∃β' who',Sim E (Dn D idx) β' who' (U.set s (.dp n t xs (some i))) [(.sl (.nm (fresh idx 15)) t xs[i],dpv (β n) (i+1))] a w:=by
 classical
 obtain⟨h1,b,o,cap,arr,el,e1,e2,e3,e4,e5,e6,e7⟩:=(S.dp hav).pos (.inr (Ql hi));obtain⟨f1,f2⟩:=e6 i hi (by simp)
 obtain⟨m,rfl⟩: ∃m,m=fresh idx 15:=⟨_,rfl⟩;have hmD: ¬D (fresh idx 15):=hf 15 O;have hDn:D n:=S.occ s n (by rw[hav];simp[Vs.occ,occA,occC])
 have hmn:fresh idx 15≠n:=λe=>hmD (e▸hDn)
 let G:Nat->Prop:=λb'=> ∃oi li ci,dpv (β n) (i+1)= .slice (some ⟨b',oi,none⟩) li ci
 have hG: ∀b',G b'->who b'=some n/\b'≠b:=by
  rintro b' ⟨oi,li,ci,hg⟩
  rcases f2 with⟨q,_⟩|⟨bi,oi',ci',ar,l,k1,k2,k3,k4,k5,k6,k7⟩
  . rw[q]at hg;cases hg
  . grind
 let β':Beta:=λx=>if x=fresh idx 15 then dpv (β n) (i+1)else β x
 let who':Who:=λb'=>if G b' then some (fresh idx 15)else who b'
 have hβ: ∀x,D x->β' x=β x:=λx hx=>by grind
 have hnone: ∀b',who b'=none->who' b'=none:=λb' hb=>by
  grind
 have hE: ∀(ys:List (Den t)) b o,Elems who w t ys b o->Elems who' w t ys b o:=λys b o he=>
  he.keep (λb' hb _=>⟨hnone b' hb,rfl⟩) (zD _) rfl
 have hown: ∀b',who b'=some n-> ¬G b'->who' b'=some n:=λb' hb g=>by grind
 have hnewdp:RelDp β' who' w n t xs (some i) (a.tmps.getD s undef):=by
  refine⟨by rw[hβ n hDn];exact h1,.inr ⟨b,o,cap,arr,el,e1,e2,e3,e4,hown b e5 (λg=>(hG b g).2 rfl),λj hj hne=> ?_,?_⟩⟩
  . rw[hβ n hDn];obtain⟨g1,g2⟩:=e6 j hj (by simp)
    refine⟨g1,?_⟩;rcases g2 with g2|⟨bi,oi,ci,ar,l,k1,k2,k3,k4,k5,k6,k7⟩
    . exact .inl g2
    . refine .inr ⟨bi,oi,ci,ar,l,k1,k2,k3,k4,hown bi k5 ?_,k6,hE _ _ _ k7⟩
      grind
  . grind
 have hweak:RelDp β who w n t xs (some i) (a.tmps.getD s undef):=
  ⟨h1,.inr ⟨b,o,cap,arr,el,e1,e2,e3,e4,e5,λj hj _=>e6 j hj (by simp),λj1 j2 ai aj li lj ci cj q1 q2 _ _=>e7 j1 j2 ai aj li lj ci cj q1 q2 (by simp) (by simp)⟩⟩
 have S1:=S.abs (s:=s) (v:= .dp n t xs (some i)) hweak (λx hx=>by rw[hav];exact hx) (by simp[names,qi,qc])
  (λx hx=>S.occ s x (by rw[hav];exact hx))
 have S2:=S1.shift (β':=β') (who':=who') (w':=w) (X:=[n]) (λh=>S.dfn (by grind)) hβ
  (fun b' x hb hx=>⟨by
    simp only[who'];rw[iN'];exact hb;intro g;grind,rfl⟩)
  (fun b' hb=>⟨hnone b' hb,rfl⟩) (λb' x h=>by
    grind) rfl (λs' x hx hs=>by
    rw[zA]at hx;subst hx;by_cases e:s'=s
    . subst e;rw[qh];exact hnewdp
    . rw[qg _ _ e]at hs;exact absurd (S.dis s' s x hs (by rw[hav];simp[names,qi,qc])) e) (λz hz=>by cases hz) ⟨rfl,rfl⟩
 have S3:=S2.mono (D':=Dn D idx) (λn h=> .inl h) (Dn_fn S2.dfn)
 refine⟨β',who',S3.addN (λx hx=> ?_) (by simp[names,qi,qc]) (λx hx y hy s' hs=> ?_) (λx hx y hy=> ?_)⟩
 . rw[zA]at hx;subst hx;refine⟨by simp[β'],?_⟩
   rcases f2 with⟨q1,q2⟩|⟨bi,oi,ci,ar,l,k1,k2,k3,k4,k5,k6,k7⟩
   . exact .inl ⟨q1,q2⟩
   . refine .inr ⟨bi,oi,ci,ar,l,k1,k2,k3,k4,?_,hE _ _ _ k7⟩;simp only[who'];rw[iP ⟨_,_,_,k1⟩]
 . rw[zA]at hx;subst hx;simp only[names,qi,qc,zA]at hy;subst hy;exact hmD (S1.occ s' _ (qj hs))
 . rw[zA]at hx;subst hx;simp only[Vs.occ,occA,occC,zA]at hy;subst hy;exact .inr ⟨15,O,rfl⟩
def qb8 (hT:TTok P T) {idx mode t s n:Nat} {k:DK} {v:AV} {c:Value} (h:Run CO (qki T idx mode t s n k) U v U' R W) (S:Sim E D β who U [] a w)
 (hx:DrVal (β n) k c) (hD:D n) (hf: ∀k,k<16-> ¬D (fresh idx k)):
 ∃r β' who',(Instr.loadAt t c).run P w= .ok r w/\Sim E (Dn D idx) β' who' U' [(v,r)] a w:=by
 have grow: ∀{v r},Sim E D β who U' [(v,r)] a w->Sim E (Dn D idx) β who U' [(v,r)] a w:=λS=>S.mono (λn h=> .inl h) (Dn_fn S.dfn)
 unfold qki at h;split at h
 . exact(kC h).elim
 . rename_i ti hti';have hti:=hT t _ hti';split at h
   . rename_i i;obtain⟨b,o,L,cap,hb,hi,rfl⟩:=hx;split at h
     . rename_i e et c0
       have hrun: ∀{ty:Ty} {xs:List (List (Den ty))} {hh:Option Nat} {v0:Value},RelDp β who w n ty xs hh v0->hh≠some i->
        i<xs.length/\(Instr.loadAt t (.pointer (some ⟨b,o+i,none⟩))).run P w= .ok (dpv (β n) (i+1)) w:=by
        intro ty xs hh v0 hdp hne;obtain⟨h1,b',o',cap',arr,el,e1,e2,e3,e4,e5,e6,e7⟩:=hdp.pos (.inl (by rw[hdp.1,hb];simp))
        rw[h1,hb]at e1;injection e1 with q1 q2 q3
        injection q1 with q1;injection q1 with q1 q1' _
        subst q1 q1' q2
        have:=Y0 hti (b:=b) (o:=o+i) (f:=λ_=>dpv (β n) (i+1)) w (λj hj=>by
         have hj0:j=0:=by simp at hj;exact hj
         subst hj0;exact(e6 i hi hne).1) (λ_=>rfl)
        exact⟨hi,by simpa [Q5]using this⟩
       split at h
       . obtain⟨av,U1,_,_,_,_,h1,h2⟩:=kA h;obtain⟨hav,rfl⟩:=kD h1;split at h2
         . rename_i n' ty xs loc hd;rw[hav]at hd;obtain⟨rfl,⟨v0,hdp⟩,_⟩:=S.dpA hd;split at h2
           . rename_i hsz;obtain⟨_,U2,_,_,_,_,h3,h4⟩:=kA h2;obtain⟨v',hk,rfl⟩:=kH h3;obtain⟨rfl,rfl⟩:=kB h4;obtain⟨d',hd',rfl⟩:=q5q hd hk;cases hd';obtain⟨hil,hr⟩:=hrun hdp (by simp)
             obtain⟨E',a',g,U1,S1,hg,hcl⟩:=S.openDp hd;obtain⟨β',who',S'⟩:=S1.takeDp (idx:=idx) hg hil hf;have hx:xs.getD i []=xs[i]:=by simp[List.getD,List.getElem?_eq_getElem hil]
             rw[hx];exact⟨_,β',who',hr,hcl _ _ _ _ _ _ _ _ _ (λ_ _=>rfl) S'⟩
           . exact(kC h2).elim
         . exact(kC h2).elim
       . obtain⟨av,U1,_,_,_,_,h1,h2⟩:=kA h;obtain⟨hav,rfl⟩:=kD h1;split at h2
         . rename_i n' ty xs hh loc hd;rw[hav]at hd;obtain⟨rfl,⟨v0,hdp⟩,_⟩:=S.dpA hd;obtain⟨_,U2,_,_,_,_,h3,h4⟩:=kA h2;obtain⟨hm,rfl⟩:=Run.noHole' h3;obtain⟨rfl,rfl⟩:=kB h4;obtain⟨hil,hr⟩:=hrun hdp hm
           refine⟨_,β,who,hr,grow (S.take0 (v:= .dr s n' (.row i)) (c:=dpv (β n') (i+1)) ⟨rfl,?_,_,_,_,hb,hi⟩ rfl (λx hx=>by
            simp only[Vs.occ,occA,occC,zA]at hx;subst hx;exact hD))⟩
           obtain⟨ad,cp,e⟩:=(hdp.row hil hm).shape;exact⟨_,_,_,e⟩
         . exact(kC h2).elim
     . exact(kC h).elim
   . rename_i sz i j c0;obtain⟨av,U1,_,_,_,_,h1,h2⟩:=kA h;obtain⟨hav,rfl⟩:=kD h1;split at h2
     . rename_i n' ty xs hh loc hd;rw[hav]at hd;obtain⟨rfl,⟨v0,hdp⟩,_⟩:=S.dpA hd;split at h2
       . rename_i hsz;subst hsz;obtain⟨_,U2,_,_,_,_,h3,h4⟩:=kA h2;obtain⟨hm,rfl⟩:=Run.noHole' h3;obtain⟨hp,rfl⟩:=Run.mopt' h4;obtain⟨b,o,L,cap,hb,hj,rfl,a0,L0,c0',hb0,hi⟩:=hx;obtain⟨ad1,cap1,hb1⟩:=hdp.base;rw[hb1]at hb0;injection hb0 with _ q1 _
         subst q1;have hr:=hdp.row hi hm;have hxi:xs.getD i []=xs[i]:=by simp[List.getD,List.getElem?_eq_getElem hi]
         rw[hxi]at hp;rcases hr with⟨k1,_⟩|⟨bi,oi,ci,k1,k2,k4,k7⟩
         . rw[k1]at hb;cases hb
         . rw[k1]at hb;injection hb with q1 q2 q3
           injection q1 with q1;injection q1 with q1 q1' _
           subst q1 q1' q2;obtain⟨r,g1,g2,g3,g4⟩:=q6a (β:=β) hti k7 hj hp;exact⟨r,β,who,g1,grow (S.take0 g2 g3 (λn hn=>by rw[g4]at hn;cases hn))⟩
       . exact(kC h2).elim
     . exact(kC h2).elim
   . exact(kC h).elim
def Sim.fillDp {idx s n k i:Nat} {t:Ty} {xs:List (List (Den t))} {ys:List (Den t)} {hh:Option Nat} {cv:Value} (S:Sim E D β who U [(.sl (.nm k) t ys,cv)] a w)
 (hav:U.get s= .dp n t xs hh) (hi:i<xs.length) (hhi:hh=none\/hh=some i) (hf: ∀k,k<16-> ¬D (fresh idx k)):
 ∃b o L cap arr el,dpv (β n) 0= .slice (some ⟨b,o,none⟩) L cap/\w.heap[b]? =some (.cells arr el (0,0))/\o+i+1<=arr.size/\who b=some n/\
 ∃β' who',Sim E (Dn D idx) β' who' (U.set s (.dp (fresh idx 15) t (xs.set i ys) none)) [] a (w.setRow b (ql arr (o+i) [cv])):=by
 classical
 obtain⟨h1,b,o,cap,arr,el,e1,e2,e3,e4,e5,e6,e7⟩:=(S.dp hav).pos (.inr (Ql hi));have hmD: ¬D (fresh idx 15):=hf 15 O;have hDn:D n:=S.occ s n (by rw[hav];simp[Vs.occ,occA,occC])
 have hDk:D k:=S.hocc _ mS k (by simp[Vs.occ,occA,occC])
 have hkn:k≠n:=by
  rintro rfl
  exact S.hdis _ mS k (by simp[names,qi,qc]) s (by rw[hav];simp[names,qi,qc])
 have hvR:RelN β who w k t ys cv:=S.hrel _ mS;refine⟨b,o,xs.length,cap,arr,el,by rw[<-h1];exact e1,e2,O,e5,?_⟩
 let base:Value:= .tuple ((dpv (β n) 0::(List.range xs.length).map λj=>if j=i then cv else dpv (β n) (j+1)).toArray)
 have hb0:dpv base 0=dpv (β n) 0:=rfl
 have hbj: ∀j,j<xs.length->dpv base (j+1)=if j=i then cv else dpv (β n) (j+1):=by
  intro j hj;simp[base,dpv,Array.getD,hj]
 let β':Beta:=λx=>if x=fresh idx 15 then base else β x
 let who':Who:=λb'=>if who b'=some n\/who b'=some k then some (fresh idx 15)else who b'
 obtain⟨w',hw'⟩: ∃w',w'=w.setRow b (ql arr (o+i) [cv]):=⟨_,rfl⟩;rw[<-hw'];have hfit:o+i+[cv].length<=arr.size:=by simp;omega
 have hheapb:w'.heap[b]? =some (.cells (ql arr (o+i) [cv]) el (0,0)):=by rw[hw'];exact setRow_heap w b arr _ el _ e2
 have hoth: ∀b',b'≠b->w'.heap[b']? =w.heap[b']? :=λb' hb=>by rw[hw'];exact setRow_other w b b' _ hb
 have hβ: ∀x,D x->β' x=β x:=λx hx=>by grind
 have hβm:β' (fresh idx 15)=base:=by simp[β']
 have hnone: ∀b',who b'=none->who' b'=none/\w'.heap[b']? =w.heap[b']? :=λb' hb=>by
  grind
 have hsz:w'.heap.size=w.heap.size:=by rw[hw'];simp
 have hE: ∀(ys:List (Den t)) b' o,b'≠b->Elems who w t ys b' o->Elems who' w' t ys b' o:=λys b' o hb he=>
  he.keep (λb' hb _=>hnone b' hb) O (hoth b' hb)
 have hwn: ∀b',who b'=some n->who' b'=some (fresh idx 15):=λb' hb=>by grind
 have hwk: ∀b',who b'=some k->who' b'=some (fresh idx 15):=λb' hb=>by grind
 have hne: ∀j,j≠i->hh≠some j:=λj hj e=>by
  grind
 have hcell: ∀j,cellAt w' b o j=if j=i then some cv else cellAt w b o j:=by
  intro j;have c1:w'.cell? ⟨b,o+j,none⟩=(ql arr (o+i) [cv])[o+j]? :=by simp[World.cell?,hheapb]
  have c2:w.cell? ⟨b,o+j,none⟩=arr[o+j]? :=by simp[World.cell?,e2]
  simp only[cellAt,c1,c2];rw[Qk hfit];by_cases e:j=i
  . subst e;simp
  . grind
 have hblk: ∀j ad l c,j<xs.length->hh≠some j->dpv (β n) (j+1)= .slice (some ad) l c->who ad.block=some n:=by
  intro j ad l c hj hjn e;rcases(e6 j hj hjn).2 with⟨q,_⟩|⟨bi,oi,ci,ar,l',k1,k2,k3,k4,k5,k6,k7⟩
  . rw[q]at e;cases e
  . grind
 have hblkv: ∀ad l c,cv= .slice (some ad) l c->who ad.block=some k:=by
  intro ad l c e;rcases hvR.2 with⟨q,_⟩|⟨bi,oi,ci,ar,l',k1,k2,k3,k4,k5,k6⟩
  . rw[q]at e;cases e
  . grind
 have hnew:RelDp β' who' w' (fresh idx 15) t (xs.set i ys) none (a.tmps.getD s undef):=by
  refine⟨by rw[hβm,hb0];exact h1,.inr ⟨b,o,cap,ql arr (o+i) [cv],el,by grind,hheapb,by rw[Qm hfit];exact e3,by grind,hwn b e5,
   λj hj _=> ?_,?_⟩⟩
  . have hj':j<xs.length:=by simpa using hj
    rw[hβm,hbj j hj',hcell];by_cases e:j=i
    . subst e;rw[iP rfl,iP rfl];refine⟨rfl,?_⟩;rw[zF1];rcases hvR.2 with⟨q1,q2⟩|⟨bi,oi,ci,ar,l',k1,k2,k3,k4,k5,k6⟩
      . exact .inl ⟨q1,q2⟩
      . have hbb:bi≠b:=by rintro rfl;rw[e5]at k5;injection k5 with k5;exact hkn k5.symm
        exact .inr ⟨bi,oi,ci,ar,l',k1,by rw[hoth bi hbb];exact k2,k3,k4,hwk bi k5,hbb,hE _ _ _ hbb k6⟩
    . rw[iN' e,iN' e,zS1 (λh=>e h.symm)]
      obtain⟨g1,g2⟩:=e6 j hj' (hne j e);refine⟨g1,?_⟩;rcases g2 with g2|⟨bi,oi,ci,ar,l',k1,k2,k3,k4,k5,k6,k7⟩
      . exact .inl g2
      . exact .inr ⟨bi,oi,ci,ar,l',k1,by rw[hoth bi k6];exact k2,k3,k4,hwn bi k5,k6,hE _ _ _ k6 k7⟩
  . grind
 have S0:=S.drop rfl;have S1:=(S0.takeAll s).drop rfl
 have hdead: ∀x s',x∈names ((U.set s .dead).get s')->s'≠s/\x∈names (U.get s'):=λx s' h=>by
  by_cases e:s'=s
  . subst e;rw[qh]at h;simp[names,qi,qc]at h
  . rw[qg _ _ e]at h;exact⟨e,h⟩
 have S2:=S1.shift (β':=β') (who':=who') (w':=w') (X:=[n,k]) (λh=>by
  simp only[zJ,zS,or_false]at h;rcases h with h|h
  . exact S.dfn (by rw[h];exact hDn)
  . exact S.dfn (by rw[h];exact hDk)) hβ
  (fun b' x hb hx=>by
    grind)
  hnone (λb' x h=>by
   grind) hsz (λs' x hx hs=>by
   obtain⟨g1,g2⟩:=hdead x s' hs;simp only[zJ,zS,or_false]at hx;rcases hx with rfl|rfl
   . exact absurd (S.dis s' s x g2 (by rw[hav];simp[names,qi,qc])) g1
   . exact absurd g2 (S.hdis _ mS x (by simp[names,qi,qc]) s')) (λz hz=>by cases hz) (by simp_all)
 have S3:=S2.mono (D':=Dn D idx) (λn h=> .inl h) (Dn_fn S2.dfn)
 have S4:=S3.recast (s:=s) (v:= .dp (fresh idx 15) t (xs.set i ys) none) (qh ..) hnew (by simp[names,qi,qc])
  (fun x hx s' hs=>by
    simp only[names,qi,qc,zA]at hx;subst hx;exact hmD (S1.occ s' _ (qj hs)))
  (fun x hx=>by
    simp only[Vs.occ,occA,occC,zA]at hx;subst hx;exact .inr ⟨15,O,rfl⟩)
 refine⟨β',who',S4.ext λs'=> ?_⟩
 by_cases e:s'=s
 . subst e;rw[qh,qh]
 . rw[qg _ _ e,qg _ _ e,qg _ _ e]
end
section
variable {P:Program} {CO:qx} {T:TT} {E:Entry} {D:Nat->Prop} {β:Beta} {who:Who} {U U':Slots} {hd:List (AV×Value)} {a:Act} {w w':World} {R W:List Nat}
def Sim.setDp {s n i j c:Nat} {t:Ty} {xs:List (List (Den t))} {hh:Option Nat} {v:AV} {cv:Value} {x':Den t} (S:Sim E D β who U [(v,cv)] a w)
 (hav:U.get s= .dp n t xs hh) (hi:i<xs.length) (hhi:hh≠some i) (hj:j<xs[i].length) (hpl:(cellsOf v).all plainCell=true)
 (hs:Zk t (xs[i].getD j t.zero) c (cellsOf v)=some x'):
 ∃b o L cap arr el,dpv (β n) (i+1)= .slice (some ⟨b,o,none⟩) L cap/\w.heap[b]? =some (.cells arr el (0,0))/\o+j*t.size+c+cv.cells.toList.length<=arr.size/\who b=some n/\
 Sim E D β who (U.set s (.dp n t (xs.set i (xs[i].set j x')) hh)) [] a (w.setRow b (ql arr (o+j*t.size+c) cv.cells.toList)):=by
 obtain⟨h1,b0,o0,cap0,arr0,el0,e1,e2,e3,e4,e5,e6,e7⟩:=(S.dp hav).pos (.inr (Ql hi));have hDn:D n:=S.occ s n (by rw[hav];simp[Vs.occ,occA,occC])
 have hv:Rel β who w v cv:=S.hrel _ mS;obtain⟨q1,q2,q3,q4⟩:=Yk hv hpl;have hsl:cv.cells.toList.length=(cellsOf v).length:=by rw[zY1,q1.1]
 rcases(e6 i hi hhi).2 with⟨_,hn⟩|⟨bi,oi,ci,ar,l,k1,k2,k3,k4,k5,k6,k7⟩
 . rw[hn]at hj;simp at hj
 . have hjl:c+(cellsOf v).length<=t.size:=by
    unfold Zk at hs;split at hs
    . assumption
    . cases hs
   have hcap:xs[i].length*t.size<=ci*t.size:=zN _ k4;have hil:(j+1)*t.size<=xs[i].length*t.size:=zN _ O;rw[zP1]at hil;have hfit:oi+j*t.size+c+cv.cells.toList.length<=ar.size:=O;refine⟨bi,oi,xs[i].length,ci,ar,l,k1,k2,hfit,k5,?_⟩;obtain⟨w',hw'⟩: ∃w',w'=w.setRow bi (ql ar (oi+j*t.size+c) cv.cells.toList):=⟨_,rfl⟩;have hoth: ∀b',b'≠bi->w'.heap[b']? =w.heap[b']? :=λb' hb=>by rw[hw'];exact setRow_other w bi b' _ hb
   have hnone: ∀b',who b'=none->who b'=none/\w'.heap[b']? =w.heap[b']? :=λb' hb=>⟨hb,hoth b' (by grind)⟩
   have hsz:w'.heap.size=w.heap.size:=by rw[hw'];simp
   have hE: ∀(ys:List (Den t)) b' o,b'≠bi->Elems who w t ys b' o->Elems who w' t ys b' o:=λys b' o hb he=>
    he.keep (λb' hb _=>hnone b' hb) O (hoth b' hb)
   have hblk: ∀j' ad l c,j'<xs.length->hh≠some j'->j'≠i->dpv (β n) (j'+1)= .slice (some ad) l c->ad.block≠bi:=by
    intro j' ad l c hj' hjn hne e eb;exact hne (e7 j' i _ _ _ _ _ _ hj' hi hjn hhi e k1 eb)
   have hnew:RelDp β who w' n t (xs.set i (xs[i].set j x')) hh (a.tmps.getD s undef):=by
    refine⟨h1,.inr ⟨b0,o0,cap0,arr0,el0,by grind,by grind,e3,by grind,e5,λj' hj' hne=> ?_,?_⟩⟩
    . have hj2:j'<xs.length:=by simpa using hj'
      obtain⟨g1,g2⟩:=e6 j' hj2 hne;refine⟨by rw[Yn (hoth b0 (λe=>k6 e.symm))];exact g1,?_⟩
      by_cases e:j'=i
      . subst e;rw[zF1]
        refine .inr ⟨bi,oi,ci,ql ar (oi+j*t.size+c) cv.cells.toList,l,by grind,by rw[hw'];exact setRow_heap w bi ar _ l _ k2,
         by rw[Qm hfit];exact k3,by grind,k5,k6,?_⟩
        rw[hw'];refine Elems.store (who:=who) (w:=w) (β:=β) k2 k7 hj hsl O hs ?_ (λb' hb=>by grind)
        intro k hk;rw[<-hw'];have hv':Rel β who w' v cv:=hv.keep ⟨λx hx=>absurd hx (by rw[q3];simp),λx hx=>absurd hx (by rw[q2];simp),λb' hb _=>hnone b' hb,O⟩
        obtain⟨p1,p2,p3,p4⟩:=Yk hv' hpl;have:=p1.2 k hk;have hpk:plainCell (cellsOf v)[k]=true:=zX.1 hpl _ (zI hk)
        have e9:cv.cells.toList.getD k undef=cv.cells.getD k undef:=by
         simp[List.getD_eq_getElem?_getD,Array.getD_eq_getD_getElem?]
        rw[e9];exact q2a hpk this
      . rw[zS1 (λh=>e h.symm)]
        rcases g2 with g2|⟨b2,o2,c2,ar2,l2,m1,m2,m3,m4,m5,m6,m7⟩
        . exact .inl g2
        . have hbb:b2≠bi:=hblk j' _ _ _ hj2 hne e m1;exact .inr ⟨b2,o2,c2,ar2,l2,m1,by rw[hoth b2 hbb];exact m2,m3,m4,m5,m6,hE _ _ _ hbb m7⟩
    . grind
   rw[<-hw'];have S0:=S.drop rfl;have S1:=(S0.takeAll s).drop rfl
   have hdead: ∀x s',x∈names ((U.set s .dead).get s')->s'≠s/\x∈names (U.get s'):=λx s' h=>by
    by_cases e:s'=s
    . subst e;rw[qh]at h;simp[names,qi,qc]at h
    . rw[qg _ _ e]at h;exact⟨e,h⟩
   have hnn: ∀s',n∉names ((U.set s .dead).get s'):=λs' hs=>by
    obtain⟨g1,g2⟩:=hdead n s' hs;exact g1 (S.dis s' s n g2 (by rw[hav];simp[names,qi,qc]))
   have S2:=S1.shift (β':=β) (who':=who) (w':=w') (X:=[n]) (λh=>by
    simp only[zJ,zS,or_false]at h;exact S.dfn (by rw[h];exact hDn)) (λ_ _=>rfl)
    (fun b' x hb hx=>by
      grind)
    hnone (λb' x h=>⟨x,h⟩) hsz (λs' x hx hs=>by
     grind) (λz hz=>by cases hz) (by simp_all)
   have S4:=S2.recast (s:=s) (v:= .dp n t (xs.set i (xs[i].set j x')) hh) (qh ..) hnew (by simp[names,qi,qc])
    (fun x hx s' hs=>by
      simp only[names,qi,qc,zA]at hx
      grind)
    (fun x hx=>by
      simp only[Vs.occ,occA,occC,zA]at hx;subst hx;exact hDn)
   refine S4.ext λs'=> ?_
   by_cases e:s'=s
   . subst e;rw[qh,qh]
   . rw[qg _ _ e,qg _ _ e,qg _ _ e]
def q2g (hT:TTok P T) {idx t s n:Nat} {k:DK} {v:AV} {cp cv:Value} {u:Unit} (h:Run CO (qak T idx t s n k v) U u U' R W) (S:Sim E D β who U [(v,cv)] a w)
 (hx:DrVal (β n) k cp) (hf: ∀k,k<16-> ¬D (fresh idx k)):
 ∃w' β' who',(Instr.storeAt t cp cv).run P w= .ok () w'/\Sim E (Dn D idx) β' who' U' [] a w':=by
 unfold qak at h;split at h
 . exact(kC h).elim
 . rename_i ti hti';have hti:=hT t _ hti';split at h
   . rename_i i;split at h
     . rename_i desc c0 k ty ys;obtain⟨av,U1,_,_,_,_,h1,h2⟩:=kA h;obtain⟨hav,rfl⟩:=kD h1;split at h2
       . rename_i n' ty' xs hh loc hd;rw[hav]at hd;obtain⟨rfl,⟨v0,hdp⟩,_⟩:=S.dpA hd;split at h2
         . rename_i e';subst e';obtain⟨_,U2,_,_,_,_,h3,h4⟩:=kA h2;obtain⟨hm,rfl⟩:=Run.holeAsk' h3;obtain⟨v',hk,rfl⟩:=kH h4;obtain⟨d',hd',rfl⟩:=q5q hd hk;simp only[putDp,dif_pos,zH]at hd';subst hd';obtain⟨b,o,L,cap,hb,hi,rfl⟩:=hx;obtain⟨ad1,cap1,hb1⟩:=hdp.base;have hil:i<xs.length:=by rw[hb1]at hb;injection hb with _ q _;omega
           obtain⟨E',a',g,U1,S1,hg,hcl⟩:=S.openDp hd;obtain⟨b',o',L',cap',arr,el,g1,g2,g3,g4,β',who',S'⟩:=S1.fillDp (idx:=idx) hg hil hm hf;rw[hb]at g1;injection g1 with g1 _ _;injection g1 with g1;injection g1 with g1 g1' _
           subst g1 g1';have hone:cv.oneCell'=true:=Za (β:=β) (who:=who) (w:=w) (c:= .sl (.nm k) ty' ys) (S.hrel _ mS) (by simp)
           have hc1:cv.cells.toList=[cv]:=by rw[Xb hone]
           have hsz1:cv.cells.size=1:=by rw[Xb hone];rfl
           have hrun:=Zj hti (c:=cv) (o:=o+i) g2 (by rw[hsz1];rfl) (by rw[hsz1];exact g3) (by grind)
           rw[hc1]at hrun;exact⟨_,β',who',hrun,hcl _ _ _ _ _ _ _ _ _ (λb1 hb1=>setRow_other w b b1 _ (by rintro rfl;exact hb1 g4)) S'⟩
         . exact(kC h2).elim
       . exact(kC h2).elim
     . exact(kC h).elim
   . rename_i sz i j c;split at h
     . rename_i hc;obtain⟨hlen,hpl⟩:=hc;obtain⟨av,U1,_,_,_,_,h1,h2⟩:=kA h;obtain⟨hav,rfl⟩:=kD h1;split at h2
       . rename_i n' ty xs hh loc hd;rw[hav]at hd;obtain⟨rfl,⟨v0,hdp⟩,_⟩:=S.dpA hd;split at h2
         . rename_i hsz;subst hsz;obtain⟨_,U2,_,_,_,_,h3,h4⟩:=kA h2;obtain⟨hm,rfl⟩:=Run.noHole' h3;obtain⟨v',hk0,rfl⟩:=kH h4;obtain⟨d',hk,rfl⟩:=q5q hd hk0;obtain⟨b,o,L,cap,hb,hj,rfl,a0,L0,c0',hb0,hi⟩:=hx;obtain⟨ad1,cap1,hb1⟩:=hdp.base;rw[hb1]at hb0;injection hb0 with _ q1 _
           subst q1;have hxi:xs.getD i []=xs[i]:=by simp[List.getD,List.getElem?_eq_getElem hi]
           have hjl:j<xs[i].length:=by
            obtain⟨ad,cp,e⟩:=(hdp.row hi hm).shape;rw[e]at hb;injection hb with _ q _;omega
           simp only[Vs.setDp,hxi]at hk;split at hk
           . rename_i x' hs;injection hk with hk
             subst hk;obtain⟨E',a',g,U1,S1,hg,hcl⟩:=S.openDp hd;obtain⟨b',o',L',cap',arr,el,g1,g2,g3,g4,S'⟩:=S1.setDp hg hi hm hjl hpl hs;rw[hb]at g1;injection g1 with g1 _ _;injection g1 with g1;injection g1 with g1 g1' _
             subst g1 g1';obtain⟨q1,q2,q3,q4⟩:=Yk (S.hrel _ mS) hpl;have hrun:=Zj hti (c:=cv) (o:=o+j*ty.size+c) g2 (by rw[q1.1,hlen]) O q4
             have S2:=hcl _ _ _ _ _ _ _ _ _ (λb1 hb1=>setRow_other w b b1 _ (by rintro rfl;exact hb1 g4)) S'
             exact⟨_,β,who,hrun,S2.mono (λn h=> .inl h) (Dn_fn S2.dfn)⟩
           . cases hk
         . exact(kC h2).elim
       . exact(kC h2).elim
     . exact(kC h).elim
   . exact(kC h).elim
end
section
variable {P:Program} {CO:qx} {T:TT} {E:Entry} {D:Nat->Prop} {β:Beta} {who:Who} {U U':Slots} {hd:List (AV×Value)} {a:Act} {w w':World} {R W:List Nat}
def Sim.mergeHand (S:Sim E D β who U hd a w) {idx:Nat} {v:AV} {c base:Value} (hf: ∀k,k<16-> ¬D (fresh idx k)) (hnm:names v=[fresh idx 15]) (hoc:Vs.occ v=[fresh idx 15])
 (hsame: ∀b x,who b=some x->(∀z∈hd,x∉names z.1)->w'.heap[b]? =w.heap[b]?) (hnone: ∀b,who b=none->b<w.heap.size->w'.heap[b]? =w.heap[b]?)
 (hsz:w.heap.size<=w'.heap.size) (h4:w'.os=w.os/\w'.output=w.output)
 (hr: ∀β' who',β' (fresh idx 15)=base->(∀b x,who b=some x->(∃z∈hd,x∈names z.1)->who' b=some (fresh idx 15))->
   (∀b,w.heap.size<=b->b<w'.heap.size->who' b=some (fresh idx 15))->(∀b,who b=none->b<w.heap.size->who' b=none)->Rel β' who' w' v c):
 ∃β' who',Sim E (Dn D idx) β' who' U [(v,c)] a w':=by
 classical
 have hfD: ¬D (fresh idx 15):=hf 15 O
 let β':Beta:=λx=>if x=fresh idx 15 then base else β x
 let who':Who:=λb=>if(w.heap.size<=b/\b<w'.heap.size)\/(∃x,who b=some x/\ ∃z∈hd,x∈names z.1)then some (fresh idx 15)else who b
 have hβ: ∀x,D x->β' x=β x:=λx hx=>by grind
 have w1: ∀b x,who b=some x->(∀z∈hd,x∉names z.1)->who' b=some x:=λb x hb hx=>by
  grind
 have w2: ∀b,who b=none->b<w.heap.size->who' b=none:=λb hb hlt=>by
  grind
 have hFN: ∀z∈hd,FN∉names z.1:=λz hz h=>S.dfn (S.hocc z hz FN (qj h))
 have S0:Sim E D β who U [] a w:={S with
  hrel:=λz hz=>(zS hz).elim
  hnod:=z01
  hdis:=λz hz=>(zS hz).elim
  hocc:=λz hz=>(zS hz).elim}
 have S1:Sim E D β' who' U [] a w':=by
  refine S0.world (h98:=hβ 98 S.d98) (λs=>(S.rel s).keep ⟨λx hx=>hβ x (S.occ s x hx),λx hx b hb=> ?_,λb hb hlt=>⟨w2 b hb hlt,hnone b hb hlt⟩,hsz⟩) (λz hz=>(zS hz).elim) (λb x h=> ?_) hsz (λb hb h0=> ?_) (λb x h=> ?_) (λb hb=>w1 b FN (S.fr3 b hb) hFN) h4
  . have hx': ∀z∈hd,x∉names z.1:=λz hz h=>S.hdis z hz x h s hx
    grind
  . simp only[who']at h;split at h
    . rename_i g;rcases g with g|⟨y,hy,_⟩
      . exact g.2
      . have:=S.wsz b y hy;omega
    . have:=S.wsz b x h;omega
  . cases hb':who b with
    |none=>exact hnone b hb' (zA2 hb S.fr2)
    |some x=>
     rcases h0 with h0|h0
     . rcases S.fr1 b x hb' with h|h
       . exact absurd h0 h
       . omega
     . have:=S.fr3 b h0;exact hsame b FN this hFN
  . simp only[who']at h;split at h
    . rename_i g;rcases g with g|⟨y,hy,_⟩
      . exact .inr (zT S.fr2 g.1)
      . exact S.fr1 b y hy
    . exact S.fr1 b x h
 have S2:Sim E (Dn D idx) β' who' U [] a w':=S1.mono (λn h=> .inl h) (Dn_fn S.dfn)
 refine⟨β',who',S2.addN (λz hz=> ?_) ?_ (λz hz n hn s hs=> ?_) (λz hz n hn=> ?_)⟩
 . grind
 . simp[hnm]
 . rw[zA]at hz;subst hz;rw[hnm,zA]at hn;subst hn;exact hfD (S.occ s _ (qj hs))
 . rw[zA]at hz;subst hz;rw[hoc,zA]at hn;subst hn;exact .inr ⟨15,O,rfl⟩
def qas {v:Value} {hs:List Value} {i:Nat} (hi:i<hs.length):dpv (.tuple (v::hs).toArray) (i+1)=hs[i]:=by
 simp[dpv,Array.getD,hi]
def RelDp.mk' {n:Nat} {t:Ty} {zs:List (List (Den t))} {hs:List Value} (hlen:hs.length=zs.length) {v:Value} (hβ:β n= .tuple (v::hs).toArray) {b o cap:Nat} {arr:Array Value} {el:TypeId}
 (hv:v= .slice (some ⟨b,o,none⟩) zs.length cap) (hh:w.heap[b]? =some (.cells arr el (0,0))) (h1:o+cap<=arr.size) (h2:zs.length<=cap) (h3:who b=some n)
 (hc: ∀i (hi:i<hs.length),cellAt w b o i=some hs[i]) (hin: ∀i (hi:i<zs.length) (hi':i<hs.length),InnO who w n t zs[i] hs[i] b)
 (hd: ∀i j (hi:i<hs.length) (hj:j<hs.length) ai aj li lj ci cj,hs[i]= .slice (some ai) li ci->hs[j]= .slice (some aj) lj cj->ai.block=aj.block->i=j):RelDp β who w n t zs none v:=by
 refine⟨by rw[hβ];rfl,.inr ⟨b,o,cap,arr,el,hv,hh,h1,h2,h3,λi hi _=> ?_,?_⟩⟩
 . have hi':i<hs.length:=O;rw[hβ,qas hi']
   grind
 . intro i j ai aj li lj ci cj q1 q2 _ _ q5 q6 q7;have hi':i<hs.length:=O;have hj':j<hs.length:=O;rw[hβ,qas hi']at q5;rw[hβ,qas hj']at q6
   grind
def heads (v:Value) (n:Nat):List Value:=(List.range n).map λi=>dpv v (i+1)
def Yo {v:Value} {n:Nat}:(heads v n).length=n:=by simp[heads]
def qcv {v:Value} {n i:Nat} (hi:i<(heads v n).length):(heads v n)[i]=dpv v (i+1):=by simp[heads]
def RelDp.news {n:Nat} {t:Ty} {xs:List (List (Den t))} {v:Value} (h:RelDp β who w n t xs none v):
 (∀x∈heads (β n) xs.length,x.oneCell'=true)/\(∀w1:World,w1.heap=w.heap->(Builtin.firstCells 1 xs.length v).run P w1= .ok (heads (β n) xs.length).toArray w1)/\(∃ad cap,v= .slice ad xs.length cap):=by
 obtain⟨h1,h2⟩:=h;rcases h2 with⟨rfl,rfl⟩|⟨b,o,cap,arr,el,rfl,e2,e3,e4,e5,e6,e7⟩
 . exact⟨λx hx=>by simp[heads]at hx,λw1 _=>by simp[Builtin.firstCells,heads],none,0,rfl⟩
 . refine⟨λx hx=> ?_,λw1 hw1=> ?_,_,cap,rfl⟩
   . unfold heads at hx;obtain⟨i,hi,rfl⟩:=zM.1 hx;obtain⟨ad,l,c,e⟩:=(e6 i (zO1.1 hi) (by simp)).2.one
     rw[e];rfl
   . simp only[Builtin.firstCells];rw[run_loadCells (P:=P) w1 ⟨b,o,none⟩ (xs.length*1) (λj=>dpv (β n) (j+1)) (λj hj=> ?_)]
     . simp[heads]
     . have:=(e6 j (by simpa using hj) (by simp)).1
       rw[add_plain];simp only[cellAt,World.cell?]at this⊢;rw[hw1];exact this
def Sim.newNilDp {m:Nat} {v0:AV} {t:Ty} {c0:Value} {D':Nat->Prop} (S:Sim E D β who U ((v0,c0)::hd) a w) (hm: ¬D m) (hD: ∀x,D x->D' x) (hDm:D' m) (hDF: ¬D' FN):
 ∃β',Sim E D' β' who U ((.dp m t [] none,nilS)::hd) a w:=by
 let β':Beta:=λx=>if x=m then .tuple #[nilS]else β x
 have hb: ∀x,D x->β' x=β x:=λx hx=>by grind
 have S0:=((S.drop rfl).keep (β':=β') (who':=who) (w':=w) hb (λ_ _ h=>h) (λ_ _=>rfl) (λ_ h _=>h) S.wsz (zD _)).mono hD hDF
 refine⟨β',?_⟩
 exact{S0 with
  hrel:=λy hy=>by
   rcases mC hy with rfl|hy
   . exact⟨by simp[β',dpv],.inl ⟨rfl,rfl⟩⟩
   . exact S0.hrel y hy
  hnod:=by
   simp only[fC,names,qi,qc,zl1,zU];refine⟨λh=> ?_,S0.hnod⟩
   obtain⟨x,hx,hn⟩:=zC.1 h;exact hm (S.hocc x (mT hx) m (qj hn))
  hdis:=λy hy=>by
   rcases mC hy with rfl|hy
   . intro x hx s hs;simp only[names,qi,qc,zA]at hx;subst hx;exact hm (S.occ s x (qj hs))
   . exact S0.hdis y hy
  hocc:=λy hy=>by
   rcases mC hy with rfl|hy
   . intro x hx;simp only[Vs.occ,occA,occC,zA]at hx;subst hx;exact hDm
   . exact S0.hocc y hy}
def q9q (hT:TTok P T) {idx:Nat} {tys:Array TypeId} {rt t0 t1 e e1:TypeId} {et et1:Ty} {cells cells1:List ZC} {n m:Nat} {t:Ty} {xs ys:List (List (Den t))} {cx cy:Value}
 (h0:tys[0]? =some t0) (h1:tys[1]? =some t1) (ht0:T.at t0=some {desc:= .slice e et,cells:=cells}) (ht1:T.at t1=some {desc:= .slice e1 et1,cells:=cells1})
 (hsz:et.size=1) (S:Sim E D β who U [(.dp m t ys none,cy),(.dp n t xs none,cx)] a w) (hpos:0<ys.length) (hlen:xs.length+ys.length<=1073741824) (hf: ∀k,k<16-> ¬D (fresh idx k)):
 ∃r w' β' who',(Builtin.append_ tys rt #[cx,cy]).run P w= .ok r w'/\Sim E (Dn D idx) β' who' U [(.dp (fresh idx 15) t (xs++ys) none,r)] a w':=by
 obtain⟨hu0,⟨ei,ez,he,hes,hbytes,_,hz,hzc⟩⟩:=(hT t0 _ ht0).desc;obtain⟨hu1,_⟩:=(hT t1 _ ht1).desc;have hss:ei.size=1:=by rw[hes,hsz]
 have hX:RelDp β who w n t xs none cx:=S.hrel _ (mT mS);have hY:RelDp β who w m t ys none cy:=S.hrel _ mS
 have hmn:m≠n:=by
  have:=S.hnod;simp only[fC,zg1,names,qi,qc,zL1,zl1,zU,zA]at this;exact this.1
 obtain⟨n2,n3,ady,capy,rfl⟩:=hY.news (P:=P);obtain⟨o2,o3,adx,capx,rfl⟩:=hX.news (P:=P);obtain⟨hs,hhs⟩: ∃hs,hs=heads (β n) xs.length++heads (β m) ys.length:=⟨_,rfl⟩;have hslen:hs.length=(xs++ys).length:=by rw[hhs];simp[Yo]
 have hget1: ∀i (hi:i<hs.length),i<xs.length->hs[i]=dpv (β n) (i+1):=λi hi h=>by
  subst hhs;rw[zC1 (by rw[Yo];exact h),qcv]
 have hget2: ∀i (hi:i<hs.length),¬i<xs.length->hs[i]=dpv (β m) (i-xs.length+1):=λi hi h=>by
  subst hhs;rw[zZ1 (by rw[Yo];omega),qcv,Yo]
 have inn1: ∀i,i<xs.length-> ∀ad l c,dpv (β n) (i+1)= .slice (some ad) l c->who ad.block=some n:=λi hi ad l c q=>by
  obtain⟨_,b,o,cap,arr,el,e1,e2,e3,e4,e5,e6,e7⟩:=hX.pos (.inr (Ql hi));rcases(e6 i hi (by simp)).2 with⟨g,_⟩|⟨bi,oi,ci,ar,l',k1,k2,k3,k4,k5,k6,k7⟩
  . rw[g]at q;cases q
  grind
 have inn2: ∀i,i<ys.length-> ∀ad l c,dpv (β m) (i+1)= .slice (some ad) l c->who ad.block=some m:=λi hi ad l c q=>by
  obtain⟨_,b,o,cap,arr,el,e1,e2,e3,e4,e5,e6,e7⟩:=hY.pos (.inr (Ql hi));rcases(e6 i hi (by simp)).2 with⟨g,_⟩|⟨bi,oi,ci,ar,l',k1,k2,k3,k4,k5,k6,k7⟩
  . rw[g]at q;cases q
  grind
 have hdist: ∀i j (hi:i<hs.length) (hj:j<hs.length) ai aj li lj ci cj,hs[i]= .slice (some ai) li ci->hs[j]= .slice (some aj) lj cj->ai.block=aj.block->i=j:=by
  intro i j hi hj ai aj li lj ci cj q5 q6 q7;have hiL:i<xs.length+ys.length:=by rw[hslen,zO]at hi;exact hi
  have hjL:j<xs.length+ys.length:=by rw[hslen,zO]at hj;exact hj
  by_cases a1:i<xs.length<;>by_cases a2:j<xs.length
  . rw[hget1 i hi a1]at q5;rw[hget1 j hj a2]at q6;obtain⟨_,b,o,cap,arr,el,e1,e2,e3,e4,e5,e6,e7⟩:=hX.pos (.inr (Ql a1))
    grind
  . grind
  . grind
  . rw[hget2 i hi a1]at q5;rw[hget2 j hj a2]at q6;obtain⟨_,b,o,cap,arr,el,e1,e2,e3,e4,e5,e6,e7⟩:=hY.pos (.inr (Ql hpos))
    grind
 have hinn: ∀(w':World) (who':Who) (b0:Nat),(∀b,who b=some n->who' b=some (fresh idx 15))->(∀b,who b=some m->who' b=some (fresh idx 15))->(∀b,who b=none->b<w.heap.size->who' b=none/\w'.heap[b]? =w.heap[b]?)->w.heap.size<=w'.heap.size->
  (∀i (hi:i<xs.length) bi oi l c,dpv (β n) (i+1)= .slice (some ⟨bi,oi,none⟩) l c->bi≠b0/\w'.heap[bi]? =w.heap[bi]?)->(∀i (hi:i<ys.length) bi oi l c,dpv (β m) (i+1)= .slice (some ⟨bi,oi,none⟩) l c->bi≠b0/\w'.heap[bi]? =w.heap[bi]?)->
  ∀i (hi:i<(xs++ys).length) (hi':i<hs.length),InnO who' w' (fresh idx 15) t (xs++ys)[i] hs[i] b0:=by
  intro w' who' b0 p1 p2 p3 p4 p5 p6 i hi hi';by_cases a1:i<xs.length
  . rw[hget1 i hi' a1,zC1 a1];obtain⟨_,b,o,cap,arr,el,e1,e2,e3,e4,e5,e6,e7⟩:=hX.pos (.inr (Ql a1));rcases(e6 i a1 (by simp)).2 with g|⟨bi,oi,ci,ar,l',k1,k2,k3,k4,k5,k6,k7⟩
    . exact .inl g
    . obtain⟨g1,g2⟩:=p5 i a1 _ _ _ _ k1;exact .inr ⟨bi,oi,ci,ar,l',k1,by rw[g2];exact k2,k3,k4,p1 bi k5,g1,k7.keep p3 p4 g2⟩
  . have a2:i-xs.length<ys.length:=by rw[zO]at hi;omega
    rw[hget2 i hi' a1,zZ1 O];obtain⟨_,b,o,cap,arr,el,e1,e2,e3,e4,e5,e6,e7⟩:=hY.pos (.inr (Ql a2));rcases(e6 _ a2 (by simp)).2 with g|⟨bi,oi,ci,ar,l',k1,k2,k3,k4,k5,k6,k7⟩
    . exact .inl g
    . obtain⟨g1,g2⟩:=p6 _ a2 _ _ _ _ k1;exact .inr ⟨bi,oi,ci,ar,l',k1,by rw[g2];exact k2,k3,k4,p2 bi k5,g1,k7.keep p3 p4 g2⟩
 have hxn: ∃z∈([(.dp m t ys none,.slice ady ys.length capy),(.dp n t xs none,.slice adx xs.length capx)]:List (AV×Value)),n∈names z.1:=⟨_,mT mS,by simp[names,qi,qc]⟩
 have hxm: ∃z∈([(.dp m t ys none,.slice ady ys.length capy),(.dp n t xs none,.slice adx xs.length capx)]:List (AV×Value)),m∈names z.1:=⟨_,mS,by simp[names,qi,qc]⟩
 have hlx:(heads (β n) xs.length).length=xs.length*ei.size:=by rw[Yo,hss,zk1]
 have hly:(heads (β m) ys.length).length=ys.length*ei.size:=by rw[Yo,hss,zk1]
 have hblt: ∀{b x:Nat},who b=some x->b<w.heap.size:=λh=>S.wsz _ _ h
 by_cases hroom:xs.length+ys.length<=capx
 ·
  obtain⟨_,b,o,cap,arr,el,e1,e2,e3,e4,e5,e6,e7⟩:=hX.pos (.inl (λq=>by grind))
  injection e1 with q1 _ q2
  subst q1 q2;have hfit0:o+xs.length*ei.size+(heads (β m) ys.length).length<=arr.size:=by rw[Yo,hss];omega
  have hrun:=q2m (P:=P) (rt:=rt) h0 h1 hu0 hu1 he (o:=o) (sLen:=xs.length) (sCap:=capx) e2 (by rw[hss];exact n3 w rfl) hly n2 hroom hfit0
  rw[hss,zk1]at hrun hfit0;obtain⟨w',hw'⟩: ∃w',w'=w.setRow b (ql arr (o+xs.length) (heads (β m) ys.length)):=⟨_,rfl⟩;have hoth: ∀b',b'≠b->w'.heap[b']? =w.heap[b']? :=λb' hb=>by rw[hw'];exact setRow_other w b b' _ hb
  have hheap:w'.heap[b]? =some (.cells (ql arr (o+xs.length) (heads (β m) ys.length)) el (0,0)):=by rw[hw'];exact setRow_heap w b arr _ el _ e2
  have hszw:w'.heap.size=w.heap.size:=by rw[hw'];simp
  rw[<-hw']at hrun
  obtain⟨β',who',S'⟩:=S.mergeHand (idx:=idx) (v:= .dp (fresh idx 15) t (xs++ys) none) (c:= .slice (some ⟨b,o,none⟩) (xs.length+ys.length) capx) (base:= .tuple (.slice (some ⟨b,o,none⟩) (xs.length+ys.length) capx::hs).toArray) (w':=w') hf
   (by simp[names,qi,qc]) (by simp[Vs.occ,occA,occC])
   (fun b' x hb hx=>hoth b' (by
     grind))
   (λb' hb _=>hoth b' (by grind)) O (by rw[hw'];exact⟨rfl,rfl⟩)
   (fun β' who' g1 g2 g3 g4=>by
     refine RelDp.mk' (hs:=hs) hslen g1 (by rw[zO]) hheap (by rw[Qm hfit0];exact e3) (by grind) (g2 b n e5 hxn) (λi hi=> ?_) ?_ hdist
     . have hiL:i<xs.length+ys.length:=by rw[hslen,zO]at hi;exact hi
       have c1:cellAt w' b o i=(ql arr (o+xs.length) (heads (β m) ys.length))[o+i]? :=by simp[cellAt,World.cell?,hheap]
       rw[c1,Qk hfit0];by_cases a1:i<xs.length
       . rw[iN' O,hget1 i hi a1];have:=(e6 i a1 (by simp)).1
         simpa [cellAt,World.cell?,e2]using this
       grind
     . refine hinn w' who' b (λb' h=>g2 b' n h hxn) (λb' h=>g2 b' m h hxm) (λb' h hl=>⟨g4 b' h hl,hoth b' (by rintro rfl;rw[e5]at h;cases h)⟩) O (λi hi bi oi l c q=> ?_) (λi hi bi oi l c q=> ?_)
       . rcases(e6 i hi (by simp)).2 with⟨g,_⟩|⟨bi',oi',ci,ar,l',k1,k2,k3,k4,k5,k6,k7⟩
         . rw[g]at q;cases q
         . rw[k1]at q;injection q with q;injection q with q;injection q with q
           subst q;exact⟨k6,hoth _ k6⟩
       grind)
  exact⟨_,w',β',who',hrun,S'⟩
 ·
  have hrun:=q1h (P:=P) (rt:=rt) (w:=w) h0 h1 hu0 hu1 he hz (sa:=adx) (sLen:=xs.length) (sCap:=capx) (m:=ys.length) (ad:=ady) (c:=capy) (olds:=heads (β n) xs.length) (news:=heads (β m) ys.length)
   (by rw[hss];exact o3 w.drew rfl) (by rw[hss];exact n3 w.drew rfl) O hbytes hlen
  have hcapge:xs.length+ys.length<=grownCap w (xs.length+ys.length) capx e:=grownCap_ge w _ _ e;have hzsz:ez.cells.size=1:=by rw[<-Array.length_toList,hzc,Qj,hsz]
  obtain⟨row,hrow⟩: ∃row,row=(heads (β n) xs.length).toArray++(heads (β m) ys.length).toArray++Builtin.zeroCells ez.cells (grownCap w (xs.length+ys.length) capx e-(xs.length+ys.length)):=⟨_,rfl⟩;rw[<-hrow]at hrun
  have hrs:row.size=grownCap w (xs.length+ys.length) capx e:=by
   rw[hrow];simp only[Array.size_append,List.size_toArray,Yo,size_zeroCells,hzsz];omega
  have hnew:(w.drew.alloc (.cells row e)).heap[w.heap.size]? =some (.cells row e (0,0)):=heap_alloc_new w.drew _;have hold: ∀b',b'<w.heap.size->(w.drew.alloc (.cells row e)).heap[b']? =w.heap[b']? :=λb' hb'=>heap_alloc_old w.drew _ b' hb'
  have hszw:(w.drew.alloc (.cells row e)).heap.size=w.heap.size+1:=by simp
  obtain⟨β',who',S'⟩:=S.mergeHand (idx:=idx) (v:= .dp (fresh idx 15) t (xs++ys) none) (c:= .slice (some ⟨w.heap.size,0,none⟩) (xs.length+ys.length) (grownCap w (xs.length+ys.length) capx e))
   (base:= .tuple (.slice (some ⟨w.heap.size,0,none⟩) (xs.length+ys.length) (grownCap w (xs.length+ys.length) capx e)::hs).toArray) (w':=w.drew.alloc (.cells row e)) hf
   (by simp[names,qi,qc]) (by simp[Vs.occ,occA,occC])
   (λb' x hb _=>hold b' (hblt hb)) (λb' _ hl=>hold b' hl) O ⟨rfl,rfl⟩
   (fun β' who' g1 g2 g3 g4=>by
     refine RelDp.mk' (hs:=hs) hslen g1 (by rw[zO]) hnew (by rw[hrs];omega) (by grind) (g3 _ (zD _) O) (λi hi=> ?_) ?_ hdist
     . have hiL:i<(heads (β n) xs.length++heads (β m) ys.length).length:=by rw[<-hhs];exact hi
       have c1:cellAt (w.drew.alloc (.cells row e)) w.heap.size 0 i=row[i]? :=by
        simp only[cellAt,World.cell?,hnew,zK];rfl
       grind
     . refine hinn _ who' w.heap.size (λb' h=>g2 b' n h hxn) (λb' h=>g2 b' m h hxm) (λb' h hl=>⟨g4 b' h hl,hold b' hl⟩) O (λi hi bi oi l c q=> ?_) (λi hi bi oi l c q=> ?_)
       . have h2:=hblt (inn1 i hi _ _ _ q);exact⟨by rintro rfl;exact Nat.lt_irrefl _ h2,hold _ h2⟩
       grind)
  exact⟨_,_,β',who',hrun,S'⟩
def q7n (hT:TTok P T) {idx:Nat} {tys:Array TypeId} {rt:TypeId} {x y v:AV} {cx cy:Value} (h:Run CO (q9i T idx tys x y) U v U' R W)
 (S:Sim E D β who U [(y,cy),(x,cx)] a w) (hf: ∀k,k<16-> ¬D (fresh idx k)):
 ∃r w' β' who',(Builtin.append_ tys rt #[cx,cy]).run P w= .ok r w'/\Sim E (Dn D idx) β' who' U' [(v,r)] a w':=by
 unfold q9i at h;split at h
 . rename_i t0 t1 h0 h1;split at h
   . rename_i ht0 ht1;split at h
     . rename_i n t xs m t' ys;split at h
       . rename_i e0;subst e0;obtain⟨_,U1,_,_,_,_,q3,q4⟩:=kA h;obtain⟨⟨hpos,hlen⟩,rfl⟩:=kG q3;obtain⟨rfl,rfl⟩:=kB q4;exact q9q hT h0 h1 ht0 ht1 rfl S hpos hlen hf
       . exact(kC h).elim
     . exact(kC h).elim
   . exact(kC h).elim
 . exact(kC h).elim
def Run.buildDpAV' {idx t n:Nat} {ps:List (Nat×Operand)} {v:AV} (h:Run CO (q5t T idx t n ps) U v U' R W):
 ∃x,ps=[(0,x)]/\n=1/\ ∃v' U1 R1 W1 R2 W2,Run CO (Vs.rdT x) U v' U1 R1 W1/\Run CO (Vs.buildDp T idx t v') U1 v U' R2 W2:=by
 unfold q5t at h;split at h
 . rename_i x;split at h
   . rename_i e;obtain⟨v',U1,R1,W1,R2,W2,h1,h2⟩:=kA h
     grind
   . exact(kC h).elim
 . exact(kC h).elim
def q4j (hT:TTok P T) {idx t:Nat} {row:AV} {cv:Value} {inn:Bool} {e:TypeId} {ty':Ty} {cells:List ZC} {ys:List (Den ty')} (ht:T.at t=some {desc:= .slice e (.sl inn ty'),cells}) (S:Sim E D β who U [(row,cv)] a w) (hf: ∀k,k<16-> ¬D (fresh idx k)) (hone:cv.oneCell'=true)
 (hvR:(cv= .slice none 0 0/\ys=[])\/ ∃k bi oi ci ar l',k∈names row/\cv= .slice (some ⟨bi,oi,none⟩) ys.length ci/\w.heap[bi]? =some (.cells ar l' (0,0))/\oi+ci*ty'.size<=ar.size/\ys.length<=ci/\who bi=some k/\Elems who w ty' ys bi oi):
 ∃r w' β' who',(Instr.buildSlice t 1 #[(0,cv)]).run P w= .ok r w'/\Sim E (Dn D idx) β' who' U [(.dp (fresh idx 15) ty' [ys] none,r)] a w':=by
 obtain⟨hu,⟨ei,ez,he,hes,hb,hb0,hz,hzc⟩⟩:=(hT t _ ht).desc;have hes1:ei.size=1:=hes;have hc1:cv.cells= #[cv]:=Xb hone;obtain⟨row0,hrow0⟩: ∃row0,row0=(Array.range (1*ei.size)).map λi=>ez.cells[i%ez.cells.size]! :=⟨_,rfl⟩
 have hr0:row0.size=1:=by rw[hrow0];simp[hes1]
 have hfit:0+[cv].length<=row0.size:=by rw[hr0];exact zD _
 have hfill:Instr.fill (λi=>some (i*ei.size,ei.size)) row0 [(0,cv)]=some (ql row0 0 [cv]):=by
  rw[q6t (off:=0*ei.size) (size:=ei.size) rfl (by rw[hc1,hes1];rfl) (by rw[hc1,hr0];simp),hc1,zO3];rfl
 have hbig: ¬(1*ei.size>2^24):=by rw[hes1];decide
 have hrun:(Instr.buildSlice t 1 #[(0,cv)]).run P w= .ok (.slice (some ⟨w.heap.size,0,none⟩) 1 1) (w.alloc (.cells (ql row0 0 [cv]) e)):=by
  unfold Instr.buildSlice;simp only[Sem.run_bind,run_underlying hu,Result.andThen_ok,Xj he,hbig,if_false]
  have hend:(newRow e (ql row0 0 [cv])>>=λx=>pure (Value.slice (some x) 1 1):Sem Value).run P w= .ok (.slice (some ⟨w.heap.size,0,none⟩) 1 1) (w.alloc (.cells (ql row0 0 [cv]) e)):=by
   simp[newRow]
  split
  . omega
  . simp only[Sem.run_bind,Zr he hz,Sem.run_pure,Result.andThen_ok]
    grind
 have hnew:=heap_alloc_new w (.cells (ql row0 0 [cv]) e);have hold: ∀b',b'<w.heap.size->(w.alloc (.cells (ql row0 0 [cv]) e)).heap[b']? =w.heap[b']? :=λb' hb'=>heap_alloc_old w _ b' hb'
 have hszw:(w.alloc (.cells (ql row0 0 [cv]) e)).heap.size=w.heap.size+1:=by simp
 obtain⟨β',who',S'⟩:=S.mergeHand (idx:=idx) (v:= .dp (fresh idx 15) ty' [ys] none) (c:= .slice (some ⟨w.heap.size,0,none⟩) 1 1) (base:= .tuple (.slice (some ⟨w.heap.size,0,none⟩) 1 1::[cv]).toArray)
  (w':=w.alloc (.cells (ql row0 0 [cv]) e)) hf (by simp[names,qi,qc]) (by simp[Vs.occ,occA,occC])
  (λb' x hb _=>hold b' (S.wsz _ _ hb)) (λb' _ hl=>hold b' hl) O ⟨rfl,rfl⟩
  (fun β' who' g1 g2 g3 g4=>by
    refine RelDp.mk' (hs:=[cv]) rfl g1 rfl hnew (by rw[Qm hfit,hr0];exact zD _) (zD _) (g3 _ (zD _) O) (λi hi=> ?_) (λi hi hi'=> ?_) (λi j hi hj ai aj li lj ci cj _ _ _=> ?_)
    . obtain rfl:i=0:=by simpa using hi
      have c1:cellAt (w.alloc (.cells (ql row0 0 [cv]) e)) w.heap.size 0 0=(ql row0 0 [cv])[0+0]? :=by
       simp only[cellAt,World.cell?,hnew,zK];rfl
      rw[c1,Qk hfit];rfl
    . obtain rfl:i=0:=by simpa using hi
      rcases hvR with⟨q1,q2⟩|⟨k,bi,oi,ci,ar,l',k0,k1,k2,k3,k4,k5,k6⟩
      . exact .inl ⟨q1,q2⟩
      . have hlt:=S.wsz _ _ k5;exact .inr ⟨bi,oi,ci,ar,l',k1,by rw[hold bi hlt];exact k2,k3,k4,g2 bi k k5 ⟨_,mS,k0⟩,Nat.ne_of_lt hlt,k6.keep (λb' h hl=>⟨g4 b' h hl,hold b' hl⟩) O (hold bi hlt)⟩
    . simp at hi hj;omega)
 exact⟨_,_,β',who',hrun,S'⟩
def q9p (hT:TTok P T) {idx t:Nat} {row v:AV} {cv:Value} (h:Run CO (buildDp T idx t row) U v U' R W) (S:Sim E D β who U [(row,cv)] a w) (hf: ∀k,k<16-> ¬D (fresh idx k)):
 ∃r w' β' who',(Instr.buildSlice t 1 #[(0,cv)]).run P w= .ok r w'/\Sim E (Dn D idx) β' who' U' [(v,r)] a w':=by
 unfold buildDp at h;split at h
 . rename_i e inn ty cells k ty' ys ht;split at h
   . rename_i e0;subst e0;obtain⟨rfl,rfl⟩:=kB h;have hvR:RelN β who w k ty' ys cv:=S.hrel _ mS;refine q4j hT ht S hf (Za (β:=β) (who:=who) (w:=w) (c:= .sl (.nm k) ty' ys) hvR (by simp)) ?_
     rcases hvR.2 with h|⟨bi,oi,ci,ar,l',k1,k2,k3,k4,k5,k6⟩
     . exact .inl h
     . exact .inr ⟨k,bi,oi,ci,ar,l',by simp[names,qi,qc],k1,k2,k3,k4,k5,k6⟩
   . exact(kC h).elim
 . rename_i e inn ty cells ht;obtain⟨rfl,rfl⟩:=kB h;have hv:cv=_/\_:=S.hrel _ mS;obtain⟨rfl,h1⟩:=hv;exact q4j hT ht S hf h1 (.inl ⟨rfl,rfl⟩)
 . exact(kC h).elim
end
section
variable {P:Program} {CO:qx} {T:TT} {E:Entry} {D:Nat->Prop} {β:Beta} {who:Who} {U U':Slots} {hd:List (AV×Value)} {a:Act} {w w':World} {R W:List Nat}
def q5v {av:AV} {v:Value} (h:RelA β who w av v):Rel β who w av v/\names av=qi av/\Vs.occ av=occA av:=by
 cases av with
 |tup vs=>exact h.elim
 |_=>exact⟨h,rfl,rfl⟩
def Sim.split {vs:List AV} {arr:Array Value} {i:Nat} {v:AV} (S:Sim E D β who U ((.tup vs,.tuple arr)::hd) a w) (hv:vs[i]? =some v):
 arr[i]? =some (arr.getD i undef)/\Sim E D β who U ((v,arr.getD i undef)::(.tup (vs.set i .dead),.tuple arr)::hd) a w:=by
 have hA:Rel β who w (.tup vs) (.tuple arr):=S.hrel _ mS;obtain⟨arr',e,hsz,hA⟩:=hA;cases e
 have hi:i<vs.length:=by
  rcases zq i vs.length with h|h
  . exact h
  . grind
 rw[List.getElem?_eq_getElem hi]at hv;injection hv with hv
 subst hv;obtain⟨r1,r2,r3⟩:=q5v (hA i hi);have hi':i<arr.size:=by rw[hsz];exact hi
 refine⟨by simp[Array.getD,hi'],?_⟩
 have hsplit:vs=vs.take i++vs[i]::vs.drop (i+1):=by simp
 have hset:vs.set i .dead=vs.take i++ .dead::vs.drop (i+1):=by
  rw[zN1,iP hi]
 have hn1:names (.tup vs)=(vs.take i).flatMap qi++qi vs[i]++(vs.drop (i+1)).flatMap qi:=by
  exact(congrArg (λl=>List.flatMap qi l) hsplit).trans (by grind)
 have hn2:names (.tup (vs.set i .dead))=(vs.take i).flatMap qi++(vs.drop (i+1)).flatMap qi:=by
  rw[hset];simp[names,qi,qc]
 have ho1:Vs.occ (.tup vs)=(vs.take i).flatMap occA++occA vs[i]++(vs.drop (i+1)).flatMap occA:=by
  exact(congrArg (λl=>List.flatMap occA l) hsplit).trans (by grind)
 have ho2:Vs.occ (.tup (vs.set i .dead))=(vs.take i).flatMap occA++(vs.drop (i+1)).flatMap occA:=by
  rw[hset];simp[Vs.occ,occA,occC]
 have S0:=S.drop rfl;have hno:=S.hnod;simp only[fC]at hno;rw[hn1]at hno;have k1:=zG.1 hno;have k2:=zG.1 k1.1;have k3:=zG.1 k2.1
 exact{S0 with
  hrel:=λy hy=>by
   rcases mC hy with rfl|hy
   . exact r1
   . rcases mC hy with rfl|hy
     . refine⟨arr,rfl,by simp[hsz],λj hj=> ?_⟩
       have hj':j<vs.length:=by simpa using hj
       by_cases e:j=i
       . subst e;rw[zF1];trivial
       grind
     . exact S0.hrel y hy
  hnod:=by
   simp only[fC,hn2,r2];refine zG.2 ⟨k3.2.1,zG.2 ⟨zG.2 ⟨k3.1,k2.2.1,?_⟩,k1.2.1,?_⟩,?_⟩
   . rintro x hx y hy rfl;exact k2.2.2 x (zQ _ hx) x hy rfl
   . rintro x hx y hy rfl
     rcases zL.1 hx with hx|hx
     . exact k1.2.2 x (by simp only[zL];exact .inl (.inl hx)) x hy rfl
     . exact k1.2.2 x (by simp only[zL];exact .inr hx) x hy rfl
   grind
  hdis:=λy hy=>by
   rcases mC hy with rfl|hy
   . intro n hn s;exact S.hdis _ mS n (by grind) s
   . rcases mC hy with rfl|hy
     . intro n hn s;rw[hn2]at hn;refine S.hdis _ mS n ?_ s
       grind
     . exact S0.hdis y hy
  hocc:=λy hy=>by
   rcases mC hy with rfl|hy
   . intro n hn;exact S.hocc _ mS n (by grind)
   . rcases mC hy with rfl|hy
     . intro n hn;rw[ho2]at hn;refine S.hocc _ mS n ?_
       grind
     . exact S0.hocc y hy}
def Sim.putBack {s:Nat} {v:AV} (S:Sim E D β who U ((v,a.tmps.getD s undef)::hd) a w) (hs:names (U.get s)=[]):Sim E D β who (U.set s v) hd a w:=by
 have hv:=S.hrel _ mS;have S0:=S.drop rfl;have hno:=S.hnod;simp only[fC]at hno;have k:=zG.1 hno
 exact{S0 with
  rel:=λt=>by
   by_cases h:t=s
   . subst h;rw[qh];exact hv
   . rw[qg _ _ h];exact S.rel t
  nod:=λt=>by
   by_cases h:t=s
   . subst h;rw[qh];exact k.1
   . rw[qg _ _ h];exact S.nod t
  dis:=λt t' n h1 h2=>by
   by_cases h:t=s<;>by_cases h':t'=s
   . rw[h,h']
   . subst h;rw[qh]at h1;rw[qg _ _ h']at h2;exact absurd h2 (S.hdis _ mS n h1 t')
   . subst h';rw[qh]at h2;rw[qg _ _ h]at h1;exact absurd h1 (S.hdis _ mS n h2 t)
   . rw[qg _ _ h]at h1;rw[qg _ _ h']at h2;exact S.dis t t' n h1 h2
  occ:=λt n h1=>by
   by_cases h:t=s
   . subst h;rw[qh]at h1;exact S.hocc _ mS n h1
   . rw[qg _ _ h]at h1;exact S.occ t n h1
  hdis:=λy hy n h1 t=>by
   by_cases h:t=s
   . subst h;rw[qh]
     grind
   . rw[qg _ _ h];exact S0.hdis y hy n h1 t}
def qao {x:Operand} {i:Nat} {v:AV} (h:Run CO (q9j x i) U v U' R W) (S:Sim E D β who U hd a w):
 ∃r,(Instr.extract (a.eval x) i).run P w= .ok r w/\Sim E D β who U' ((v,r)::hd) a w:=by
 unfold q9j at h;split at h
 . rename_i t;obtain⟨al,U1,_,_,_,_,h1,h2⟩:=kA h;obtain⟨hal,rfl⟩:=kF h1;split at h2
   . exact(kC h2).elim
   . obtain⟨c,U2,_,_,_,_,h1',h5⟩:=kA h2;clear h2;have h2:=h5;clear h5;obtain⟨hc,rfl⟩:=kF h1';split at h2
     . rename_i u
       obtain⟨vs,hvs,hu⟩: ∃vs,U2.get t= .tup vs/\vs[i]? =some u:=by
        simp only[vwf]at hc;split at hc
        . unfold cellV at hc;split at hc
          . rename_i m cells hb;rw[hb]at hal;cases hal
          . grind
          . rename_i hb;rw[hb]at hal;cases hal
          . cases hc
        . cases hc
       have hr:=S.rel t;rw[hvs]at hr;obtain⟨arr,e,hsz,hA⟩:=hr;have hev:a.eval (.tmp t)= .tuple arr:=e
       have hi:i<vs.length:=by
        rcases zq i vs.length with h|h
        . exact h
        . grind
       have hue:vs[i]=u:=by rw[List.getElem?_eq_getElem hi]at hu;injection hu
       have hi':i<arr.size:=by rw[hsz];exact hi
       have hrun:(Instr.extract (a.eval (.tmp t)) i).run P w= .ok (arr.getD i undef) w:=by
        rw[hev];simp[Instr.extract,Array.getD,hi']
       split at h2
       . obtain⟨_,U3,_,_,_,_,h3,h4⟩:=kA h2;obtain⟨v',hk,this⟩:=kH h3;subst this;obtain⟨rfl,rfl⟩:=kB h4;rw[hvs]at hk;cases hk;have S1:=S.takeAll t;rw[hvs,e]at S1;obtain⟨_,S2⟩:=S1.split hu;have S3:=S2.swap;rw[<-e]at S3;have S4:=S3.putBack (by rw[qh];rfl)
         refine⟨_,hrun,S4.ext λs=> ?_⟩
         by_cases e':s=t
         . subst e';rw[qh,qh]
         . rw[qg _ _ e',qg _ _ e',qg _ _ e']
       . rename_i hno;obtain⟨rfl,rfl⟩:=kB h2;obtain⟨r1,r2,r3⟩:=q5v (hA i hi);rw[hue]at r1 r3;refine⟨_,hrun,S.take0 r1 (Qw hno) (λn hn=>S.occ t n ?_)⟩
         rw[hvs];rw[r3]at hn;exact zC.2 ⟨_,hue▸zI hi,hn⟩
     . exact(kC h2).elim
 . exact(kC h).elim
def run_v {s:Sem Value} {c:Value} (h:s.run P w= .ok c w'):(do pure (.value (<-s)):Sem Next).run P w= .ok (.value c) w':=by
 simp[h]
def OpOut (P:Program) (E:Entry) (D:Nat->Prop) (idx:Nat) (U':Slots) (v:AV) (a:Act) (r:Result Next):Prop:=
 ∃c w' β' who',(r= .ok (.value c) w'\/(r= .ok .skip w'/\c=undef))/\Sim E (Dn D idx) β' who' U' [(v,c)] a w'
def OpOut.same {idx:Nat} {v:AV} {c:Value} {r:Result Next} {β':Beta} {who':Who} (hr:r= .ok (.value c) w') (S:Sim E D β' who' U' [(v,c)] a w'):OpOut P E D idx U' v a r:=
 ⟨c,w',β',who',.inl hr,S.mono (λn h=> .inl h) (Dn_fn S.dfn)⟩
def dn15 {idx:Nat} {k:Nat} (hk:k<16):Dn D idx (fresh idx k):= .inr ⟨k,hk,rfl⟩
def q4u:Op->Bool
 | .call {callee:= .builtin _,.. }=>false
 | .call _=>true
 |_=>false
def Sim.freezeBx (S:Sim E D β who U hd a w) (t:Nat) {n:Nat} {cl:List AV} {ty:Ty} {x:Den ty} (f:Nat) (hc:U.get t= .bx (.nm n) cl) (hn0:cl.flatMap qc=[])
 (hcl: ∀who' (v:Nat->Value) g,(∀b,who b=none->who' b=none)->(∀j (h:j<cl.length),RelC β who w cl[j] (v j)/\g j=some (v j))->RelI who' w ty x g 0):
 ∃who',Sim E D β who' (U.set t (.iptr none ty [x] 0 0)) ((.iptr (some f) ty [x] 0 0,.func (.func f) #[] #[a.tmps.getD t undef])::hd) a w:=by
 have hr:Rel β who w (.bx (.nm n) cl) (a.tmps.getD t undef):=hc▸S.rel t;obtain⟨e0,b,arr,el,e1,e2,e3,e4⟩:=hr
 have hlt:b<w.heap.size:=by
  rcases zq b w.heap.size with h|h
  . exact h
  . grind
 have hnm:names (U.get t)=[n]:=by rw[hc];simp[names,qi,hn0]
 have hI: ∀g,Rel β (unown who [n]) w (.iptr g ty [x] 0 0) (wrapP g (a.tmps.getD t undef)):=λg=>by
  refine⟨b,0,by rw[e1];simp,by simp,Jq e3 (by simp),hlt,λi hi=> ?_⟩
  have hi0:i=0:=by simpa using hi
  subst hi0;refine hcl _ (λj=>arr.getD j undef) _ (λb hb=>Xq hb) λj hj=>⟨e4.2 j hj,?_⟩
  have hs:j<arr.size:=by rw[e4.1];exact hj
  simp only[cellAt,World.cell?,e2];simp[Array.getD,hs]
 refine⟨unown who [n],?_⟩
 have S1:Sim E D β (unown who [n]) (U.set t .dead) hd a w:=by
  have S0:=(S.takeAll t).drop rfl
  refine S0.world (λs=> ?_) (λx hx=> ?_) (λb n hb=>S.wsz b n (Y3 hb)) (zD _) (λ_ _ _=>rfl) (λb n hb=>S.fr1 b n (Y3 hb))
   (λb hb=>Zq (S.fr3 b hb) (λh=>S.dfn (S.occ t _ (qj (by rw[hnm];exact h)))))
  . refine(S0.rel s).keep (Keeps.unown λm h h'=> ?_)
    by_cases e:s=t
    . subst e;rw[qh]at h;simp[names,qi,qc]at h
    . rw[qg _ _ e]at h;exact e (S.dis s t m h (by rw[hnm];exact h'))
  . exact(S0.hrel x hx).keep (Keeps.unown λm h h'=>S.hdis x hx m h t (by rw[hnm];exact h'))
 have S2:=S1.abs (s:=t) (v:= .iptr none ty [x] 0 0) (hI none) (λn h=>by cases h) z01 (λn h=>by cases h)
 have S3:=S2.take0 (hI (some f)) rfl (λn h=>by cases h)
 refine S3.ext λs=> ?_
 by_cases e:s=t
 . subst e;rw[qh,qh]
 . rw[qg _ _ e,qg _ _ e,qg _ _ e]
def q8b {c:AV} {e:Sigma Den} (h:qbm c=some e):e.1.size=1/\qc c=[]/\ ∀(who':Who) (v:Value) (g:Nat->Option Value) (j0:Nat),(∀b,who b=none->who' b=none)->RelC β who w c v->g j0=some v->RelI who' w e.1 e.2 g j0:=by
 unfold qbm at h;split at h
 . cases h;exact⟨rfl,rfl,λwho' v g j0 _ h1 h2=>by rw[show v=_ from h1]at h2;exact h2⟩
 . cases h;exact⟨rfl,rfl,λwho' v g j0 _ h1 h2=>by rw[show v=_ from h1]at h2;exact h2⟩
 . cases h;exact⟨rfl,rfl,λwho' v g j0 h0 h1 h2=>⟨v,h2,SlI.keep (λb hb _=>⟨h0 b hb,rfl⟩) (zD _) h1⟩⟩
 . cases h
def q73: ∀{cells:List AV} {e:Sigma Den},q9a cells=some e->e.1.size=cells.length/\cells.flatMap qc=[]/\
 ∀(who':Who) (v:Nat->Value) (g:Nat->Option Value) (j0:Nat),(∀b,who b=none->who' b=none)->(∀j (h:j<cells.length),RelC β who w cells[j] (v j)/\g (j0+j)=some (v j))->RelI who' w e.1 e.2 g j0
 |[],_,h=>by cases h
 |[c],e,h=>by
  obtain⟨h1,h2,h3⟩:=q8b (β:=β) (who:=who) (w:=w) (show qbm c=some e from h)
  exact⟨h1,by simp[h2],λwho' v g j0 h0 hh=>by obtain⟨q1,q2⟩:=hh 0 (by simp);exact h3 who' _ g j0 h0 q1 (by simpa using q2)⟩
 |c::d::r,e,h=>by
  simp only[q9a]at h;split at h
  . rename_i x y hx hy;cases h;obtain⟨h1,h2,h3⟩:=q8b (β:=β) (who:=who) (w:=w) hx;obtain⟨k1,k2,k3⟩:=q73 (cells:=d::r) hy;refine⟨by simp only[Ty.size,h1,k1,za1];omega,by rw[fC,h2,k2];rfl,λwho' v g j0 h0 hh=>⟨?_,?_⟩⟩
    . obtain⟨q1,q2⟩:=hh 0 (by simp);exact h3 who' _ g j0 h0 q1 (by simpa using q2)
    . refine k3 who' (λj=>v (j+1)) g (j0+x.1.size) h0 λj hj=> ?_
      obtain⟨q1,q2⟩:=hh (j+1) (by simpa using hj)
      exact⟨by simpa using q1,by rw[h1,<-q2];congr 1;omega⟩
  . cases h
def q7r {f:Nat} {first cap:Array Operand} {v:AV} {o:Oper} (h:Run CO (q3f f first.toList cap.toList) U v U' R W) (ho:o.op= .makeFunc (.func f) first cap)
 (S:Sim E D β who U [] a w): ∃c who',(execOp a.eval o).run P w= .ok (.value c) w/\Sim E D β who' U' [(v,c)] a w:=by
 unfold q3f at h;split at h
 . rename_i s hf hc;obtain⟨av,U1,_,_,_,_,h1,h2⟩:=kA h;obtain⟨rfl,rfl⟩:=kD h1;have hf':first= #[]:=by apply Array.ext';simpa using hf
   have hc':cap= #[.tmp s]:=by apply Array.ext';simpa using hc
   have hx:(execOp a.eval o).run P w= .ok (.value (.func (.func f) #[] #[a.tmps.getD s undef])) w:=by
    unfold execOp;simp[ho,hf',hc',Instr.makeFunc,Act.eval]
   split at h2
   . rename_i n k x hg;obtain⟨_,U2,_,_,_,_,h3,h4⟩:=kA h2;have:=kE h3;subst this;obtain⟨rfl,rfl⟩:=kB h4;obtain⟨who',S'⟩:=S.freezeBx (ty:= .int k) (x:=x) s f hg rfl (λwho' v g _ hh=>by obtain⟨h1,h2⟩:=hh 0 (by simp);rw[show v 0=_ from h1]at h2;exact h2)
     exact⟨_,who',hx,S'⟩
   . rename_i n ty xs hg;obtain⟨_,U2,_,_,_,_,h3,h4⟩:=kA h2;have:=kE h3;subst this;obtain⟨rfl,rfl⟩:=kB h4;obtain⟨who',S'⟩:=S.freezeBx (ty:= .sl false ty) (x:=xs) s f hg rfl (λwho' v g h0 hh=>by obtain⟨h1,h2⟩:=hh 0 (by simp);exact⟨v 0,h2,SlI.keep (λb hb _=>⟨h0 b hb,rfl⟩) (zD _) h1⟩)
     exact⟨_,who',hx,S'⟩
   . rename_i t xs i j hg;obtain⟨rfl,rfl⟩:=kB h2;have hr:=S.rel s;rw[hg]at hr;obtain⟨b,o',e1,e2⟩:=hr;refine⟨_,who,hx,S.take0 ⟨b,o',?_,e2⟩ rfl (λn hn=>by cases hn)⟩
     rw[e1];rfl
   . rename_i n cells _ _ hg;split at h2
     . rename_i t x htc;obtain⟨_,U2,_,_,_,_,h3,h4⟩:=kA h2;have:=kE h3;subst this;obtain⟨rfl,rfl⟩:=kB h4;obtain⟨e1,e2,e3⟩:=q73 htc;obtain⟨who',S'⟩:=S.freezeBx (ty:=t) (x:=x) s f hg e2 (λwho' v g h0 hh=>e3 who' v g 0 h0 λj hj=>by simpa using hh j hj)
       exact⟨_,who',hx,S'⟩
     . exact(kC h2).elim
   . exact(kC h2).elim
 . exact(kC h).elim
def qf6 {t0 e:TypeId} {tys:Array TypeId} {rt:TypeId} {i:TypeInfo} (h0:tys[0]? =some t0) (hu0:P.underlying t0=some (.slice e))
 (hi:P.info? e=some i) {b o dLen dCap sLen:Nat} {cur:Array Value} {el:TypeId} (hg:w.heap[b]? =some (.cells cur el (0,0))) {ad:Option Addr} {c:Nat} {news:List Value}
 (hf:(Builtin.firstCells i.size (Nat.min sLen dLen) (.slice ad sLen c)).run P w= .ok news.toArray w) (h1': ∀x∈news,x.oneCell'=true)
 (hfit:o+news.length<=cur.size):
 (Builtin.copy_ tys rt #[.slice (some ⟨b,o,none⟩) dLen dCap,.slice ad sLen c]).run P w=
   .ok (goInt (Nat.min sLen dLen)) (w.setRow b (ql cur o news)):=by
 have hst:=run_storeCells_at P b o el news 0 cur w hg (by simpa using hfit) h1'
 simp only[zV]at hst;simp only[ql];simp[Builtin.copy_,h0,run_underlying hu0,Xj hi,Builtin.lenOf,hf,hst]
def qig (hT:TTok P T) {idx:Nat} {tys:Array TypeId} {rt:TypeId} {x y v:AV} {cx cy:Value} (h:Run CO (qj8 T idx tys x y) U v U' R W)
 (S:Sim E D β who U [(y,cy),(x,cx)] a w) (hf: ∀k,k<16-> ¬D (fresh idx k)):
 ∃r w' β' who',(Builtin.copy_ tys rt #[cx,cy]).run P w= .ok r w'/\Sim E (Dn D idx) β' who' U' [(v,r)] a w':=by
 have hy:Rel β who w y cy:=S.hrel _ mS;have hx:Rel β who w x cx:=S.hrel _ (mT mS);have S0:=(S.drop rfl).drop rfl;unfold qj8 at h;split at h
 case h_2=>exact(kC h).elim
 rename_i t0 h0;split at h
 case h_2=>exact(kC h).elim
 rename_i e et cells ht0;obtain⟨z,U1,_,_,_,_,q1,q2⟩:=kA h;obtain⟨rfl,hs⟩:=Run.shown q1 S hy;obtain⟨t',ys⟩:=z;split at q2
 case h_2=>exact(kC q2).elim
 rename_i s n sz;obtain⟨av,U2,_,_,_,_,q3,q4⟩:=kA q2;obtain⟨hav,rfl⟩:=kD q3;split at q4
 case h_2=>exact(kC q4).elim
 rename_i m t xs;split at q4
 case isFalse=>exact(kC q4).elim
 rename_i hh;obtain⟨hh1,hh2,hh3⟩:=hh;simp only at hh1;subst hh1 hh3;obtain⟨_,U3,_,_,_,_,q5,q6⟩:=kA q4;obtain⟨⟨hypos,hxpos⟩,rfl⟩:=kG q5;obtain⟨_,U4,_,_,_,_,q7,q8⟩:=kA q6;have:=kE q7;subst this;obtain⟨rfl,rfl⟩:=kB q8;dsimp only at*;obtain⟨hu0,⟨ei,ez,he,hes,hbytes,_,hz,hzc⟩⟩:=(hT t0 _ ht0).desc;have hss:ei.size=t'.size:=by rw[hes,hh2]
 have S1:=S0.takeAll s;have hr:=S0.rel s;rw[<-hav]at S1 hr;obtain⟨hb,hr⟩:=hr;rcases hr with⟨_,hnil⟩|⟨b,o,cap,arr,el,e1,e2,e3,e4,e5,e6⟩
 . subst hnil;simp at hxpos
 have hcx:cx= .slice (some ⟨b,o,none⟩) xs.length cap:=by
  have:=(hx:q03 (β m) sz none cx).1;rw[this,<-hb,e1]
 obtain⟨L,hL⟩: ∃L,L=Nat.min ys.length xs.length:=⟨_,rfl⟩;have hL':L=min ys.length xs.length:=hL;have hp:=Ty.size_pos t';rcases hs with⟨_,hnil⟩|⟨bs,os,cs,rfl,f1,f2,f3⟩
 . subst hnil;simp at hypos
 have hyl:(ys.take L).length=L:=by rw[zH1];omega
 have hs':SlS who w t' (ys.take L) (.slice (some ⟨bs,os,none⟩) (ys.take L).length cs):= .inr ⟨bs,os,cs,rfl,f1,by rw[hyl];omega,λi hi=>by
  rw[hyl]at hi;rw[zX2];exact f3 i O⟩
 obtain⟨news,n1,n2,n3,n4,-⟩:=hs'.news (P:=P) (e:=0);rw[hyl]at n1 n3;have hLc:L*t'.size<=cap*t'.size:=zN _ O;have hfit:o+news.length<=arr.size:=O
 have hrun:=qf6 (P:=P) (rt:=rt) h0 hu0 he (dLen:=xs.length) (dCap:=cap) (sLen:=ys.length) (ad:=some ⟨bs,os,none⟩) (c:=cs) e2 (by
  have:=n3 w rfl;rw[<-hL,hss];simpa [Builtin.firstCells]using this) n2 hfit
 rw[<-hL]at hrun;have hzl:(ys.take xs.length++xs.drop ys.length).length=xs.length:=by rw[zO,zH1,zq2];omega
 have hf15: ¬D (fresh idx 15):=hf 15 O
 obtain⟨β',who',S'⟩:=Sim.handWrite (m:=fresh idx 15) (ys:=ys.take xs.length++xs.drop ys.length) (c':=a.tmps.getD s undef) (row:=ql arr o news) S1 hf15 (λx h=> .inl h) (.inr ⟨15,O,rfl⟩) (Dn_fn S.dfn) e5
  (fun β' who' q1 q2 q3=>by
    have hheap:=setRow_heap w b arr (ql arr o news) el (0,0) e2;refine⟨q1.symm,.inr ⟨b,o,cap,_,el,by rw[hzl];exact e1,hheap,by rw[Qm hfit];exact e3,by rw[hzl];exact e4,q2 b e5,λi hi=> ?_⟩⟩
    rw[hzl]at hi;have himm: ∀b',who b'=none->b'<w.heap.size->who' b'=none/\(w.setRow b (ql arr o news)).heap[b']? =w.heap[b']? :=λb' hb' _=>q3 b' hb'
    have hsz':w.heap.size<=(w.setRow b (ql arr o news)).heap.size:=by simp
    by_cases c:i<L
    . have ge:(ys.take xs.length++xs.drop ys.length)[i]'(by rw[hzl];exact hi)=(ys.take L)[i]'(by rw[hyl];exact c):=by
       rw[zC1 (by grind),zX2,zX2]
      rw[ge];have hlt:(i+1)*t'.size<=L*t'.size:=zN _ O;rw[zP1]at hlt;refine RelI.ext' (λj hj=> ?_) (RelI.keep himm hsz' (n4 i (by rw[hyl];exact c)))
      simp only[cellAt,World.cell?,hheap,zK];simp only[zH3,zp1,if_false];rw[Qk hfit,iP O];congr 1;omega
    . have ge:(ys.take xs.length++xs.drop ys.length)[i]'(by rw[hzl];exact hi)=xs[i]:=by
       rw[zZ1 (by grind),List.getElem_drop]
       congr 1;rw[zH1];omega
      rw[ge];have hle:L*t'.size<=i*t'.size:=zN _ O;refine RelI.ext' (g:=cellAt w b (o+i*t'.size)) (λj hj=> ?_) (RelI.keep himm hsz' (e6 i hi))
      simp only[cellAt,World.cell?,hheap,e2,zK];simp only[zH3,zp1,if_false];rw[Qk hfit,iN' O])
 have S4:=S'.putBack (by rw[qh];rfl)
 refine⟨_,_,β',who',by rw[hcx];exact hrun,?_⟩
 have S5:=S4.take0 (v:= .int .i64 ((min ys.length xs.length:Nat):Int)) (c:=goInt L) (by rw[hL'];rfl) rfl (λn hn=>by simp[Vs.occ,occA,occC]at hn)
 refine S5.ext λt=> ?_
 by_cases e:t=s
 . subst e;rw[qh,qh]
 . rw[qg _ _ e,qg _ _ e,qg _ _ e]
def qmn (hT:TTok P T) (hEP:E.prog=P) {idx mode:Nat} {o:Oper} {v:AV} (hnc:q4u o.op=false) (h:Run CO (opAV T idx mode o) U v U' R W) (S:Sim E D β who U [] a w)
 (hf: ∀k,k<16-> ¬D (fresh idx k)):OpOut P E D idx U' v a ((execOp a.eval o).run P w):=by
 unfold opAV at h;cases ho:o.op with
 |move x=>
  simp only[ho]at h;obtain⟨u,U1,_,_,_,_,h1,h2⟩:=kA h;obtain⟨who',S1⟩:=Run.rdm h1 S;obtain⟨rfl,rfl⟩:=kB h2;exact OpOut.same (by unfold execOp;simp only[ho];rfl) (S1.fix (t:=o.type) hT)
 |assign x=>
  simp only[ho]at h;obtain⟨u,U1,_,_,_,_,h1,h2⟩:=kA h;obtain⟨who',S1⟩:=Run.rdm h1 S;have S2:=(S1.fix (t:=o.type) hT).nlI (m:=mode);split at h2
  . rename_i t xs he;rw[he]at S2;have hn:Rel β who' w (.sl .nl t xs) (a.eval x):=S2.hrel _ mS;obtain⟨hc,rfl⟩:=hn;unfold nilAV at h2;split at h2
    . split at h2
      . rename_i inn ty;obtain⟨rfl,rfl⟩:=kB h2;obtain⟨β',S3⟩:=S2.newNilDp (t:=ty) (hf 0 O) (D':=Dn D idx) (λn h=> .inl h) (dn15 O) (Dn_fn S2.dfn)
        rw[show nilS=a.eval x from hc.symm]at S3
        exact⟨_,w,β',who',.inl (by unfold execOp;simp only[ho];rfl),S3⟩
      . exact(kC h2).elim
    . obtain⟨rfl,rfl⟩:=kB h2;obtain⟨β',S3⟩:=S2.newNil (t:=t) (hf 0 O) (D':=Dn D idx) (λn h=> .inl h) (dn15 O) (Dn_fn S2.dfn)
      rw[show nilS=a.eval x from hc.symm]at S3
      exact⟨_,w,β',who',.inl (by unfold execOp;simp only[ho];rfl),S3⟩
  . obtain⟨rfl,rfl⟩:=kB h2;exact OpOut.same (by unfold execOp;simp only[ho];rfl) S2
 |pick c x y=>
  simp only[ho]at h;split at h
  . rename_i t;obtain⟨b,U1,_,_,_,_,h1,h2⟩:=kA h;obtain⟨hb,rfl⟩:=Run.mknow' h1;have hc:a.eval (.tmp t)= .bool b:=by have:=S.rel t;rw[hb]at this;exact this
    cases b with
    |true=>
     obtain⟨rfl,S1⟩:=Run.rd h2 S;exact OpOut.same (by unfold execOp;simp[ho,hc,asBool]) S1
    |false=>
     obtain⟨rfl,S1⟩:=Run.rd h2 S;exact OpOut.same (by unfold execOp;simp[ho,hc,asBool]) S1
  . exact(kC h).elim
 |alloc e=>
  simp only[ho]at h;obtain⟨rv,w1,β',who',g1,g2⟩:=qf7 hT h S hf;exact⟨rv,w1,β',who',.inl (by unfold execOp;simp_all),g2⟩
 |box e x=>
  simp only[ho]at h;split at h
  . obtain⟨u,U1,_,_,_,_,h1,h2⟩:=kA h;obtain⟨rfl,S0⟩:=Run.rd h1 S;obtain⟨rv,w1,β',who',g1,g2⟩:=qaz (P:=P) hT h2 S0 hf;exact⟨rv,w1,β',who',.inl (by unfold execOp;simp_all),g2⟩
  . obtain⟨u,U1,_,_,_,_,h1,h2⟩:=kA h;obtain⟨who1,S0⟩:=Run.rdQ h1 S;have S1:=(S0.fix (t:=e) hT).nlI (m:=mode);obtain⟨rv,w1,β',who',g1,g2⟩:=qju (P:=P) h2 S1 hf;exact⟨rv,w1,β',who',.inl (by unfold execOp;simp_all),g2⟩
 |build t ps=>
  simp only[ho]at h;obtain⟨vs,U1,_,_,_,_,h1,h2⟩:=kA h;obtain⟨e1,cs,rfl,S1⟩:=Run.rdParts h1 S;obtain⟨r,g1,g2⟩:=qdj hT h2 e1 S1;exact OpOut.same (by unfold execOp;simp_all) g2
 |buildSlice t n ps=>
  simp only[ho]at h;split at h
  . obtain⟨x,hps,rfl,v',U1,_,_,_,_,h1,h2⟩:=Run.buildDpAV' h;have S1:=Run.rdT h1 S;obtain⟨r,w1,β',who',g1,g2⟩:=q9p hT h2 S1 hf;obtain rfl:ps= #[(0,x)]:=by grind
    exact⟨r,w1,β',who',.inl (by unfold execOp;simp_all),g2⟩
  obtain⟨vs,U1,_,_,_,_,h1,h2⟩:=kA h;obtain⟨e1,cs,rfl,S1⟩:=Run.rdParts h1 S;obtain⟨r,w1,β',who',g1,g2⟩:=q4m hT h2 e1 S1 hf;exact⟨r,w1,β',who',.inl (by unfold execOp;simp_all),g2⟩
 |load t p=>
  simp only[ho]at h;obtain⟨u,U1,_,_,_,_,h1,h2⟩:=kA h;obtain⟨rfl,S1⟩:=Run.rd h1 S;split at h2
  . rename_i s n k;obtain⟨r,β',who',g1,g2⟩:=qb8 hT h2 S (S1.hrel _ mS) (S1.hocc _ mS n (by simp[Vs.occ,occA,occC])) hf
    exact⟨r,w,β',who',.inl (by unfold execOp;simp_all),g2⟩
  . split at h2
    . obtain⟨_,U2,_,_,_,_,h3,h4⟩:=kA h2;obtain⟨who2,S2⟩:=q6r h3 S1;obtain⟨r,g1,g2⟩:=q8e hT h4 S2;exact OpOut.same (by unfold execOp;simp only[ho];exact run_v g1) g2
    . obtain⟨r,g1,g2⟩:=q8e hT h2 S1;exact OpOut.same (by unfold execOp;simp_all) g2
 |store t p x=>
  simp only[ho]at h;split at h
  . obtain⟨u,U1,_,_,_,_,h1,h2⟩:=kA h;have S1:=Run.rdT h1 S;obtain⟨q,U2,_,_,_,_,h3,h4⟩:=kA h2;obtain⟨rfl,S2⟩:=Run.rd h3 S1;split at h4
    . obtain⟨_,U3,_,_,_,_,h5,h6⟩:=kA h4;obtain⟨w1,β',who',g1,g2⟩:=q2g hT h5 S1 (S2.hrel _ mS) hf;obtain⟨rfl,rfl⟩:=kB h6;exact⟨undef,w1,β',who',.inr ⟨by unfold execOp;simp_all,rfl⟩,g2.take_dead⟩
    . exact(kC h4).elim
  . rename_i mode' hmode;obtain⟨u,U1,_,_,_,_,h1,h2⟩:=kA h;obtain⟨who1,S1⟩:=Run.rdQ h1 S;obtain⟨q,U2,_,_,_,_,h3,h4⟩:=kA h2;obtain⟨rfl,S2⟩:=Run.rd h3 S1;split at h4
    . obtain⟨_,U3,_,_,_,_,h5,h6⟩:=kA h4;obtain⟨w1,β',who',g1,g2⟩:=q2g hT h5 ((S1.fix (t:=t) hT).nlI (m:=mode)) (S2.hrel _ mS) hf;obtain⟨rfl,rfl⟩:=kB h6;exact⟨undef,w1,β',who',.inr ⟨by unfold execOp;simp_all,rfl⟩,g2.take_dead⟩
    . obtain⟨_,U3,_,_,_,_,h5,h6⟩:=kA h4;obtain⟨w1,β',g1,g2⟩:=qen hT h5 (((S2.swap.fix (t:=t) hT).nlI (m:=mode)).swap) hf;obtain⟨rfl,rfl⟩:=kB h6;exact⟨undef,w1,β',who1,.inr ⟨by unfold execOp;simp_all,rfl⟩,g2.take_dead⟩
 |nilCheck x=>
  simp only[ho]at h;obtain⟨u,U1,_,_,_,_,h1,h2⟩:=kA h;obtain⟨rfl,S1⟩:=Run.rd h1 S;obtain⟨rfl,rfl,g⟩:=q7j (P:=P) (w:=w) h2 ho rfl (S1.hrel _ mS);exact OpOut.same g S1
 |binOp op t x y yt=>
  simp only[ho]at h;obtain⟨u,U1,_,_,_,_,h1,h2⟩:=kA h;obtain⟨rfl,S1⟩:=Run.rd h1 S;obtain⟨q,U2,_,_,_,_,h3,h4⟩:=kA h2;obtain⟨rfl,S2⟩:=Run.rd h3 S1;obtain⟨rfl,e2,e3,c,g1,g2⟩:=ql3 (w:=w) (ox:=x) (oy:=y) hT h4 (S1.hrel _ mS) (S2.hrel _ mS);exact OpOut.same (by unfold execOp;simp only[ho];exact run_v g1) (S.take0 g2 e2 (λn hn=>by rw[e3]at hn;cases hn))
 |unOp op t x=>
  simp only[ho]at h;obtain⟨u,U1,_,_,_,_,h1,h2⟩:=kA h;obtain⟨rfl,S1⟩:=Run.rd h1 S;obtain⟨rfl,e2,e3,c,g1,g2⟩:=qn4 (P:=P) (w:=w) h2 (S1.hrel _ mS);exact OpOut.same (by unfold execOp;simp_all) (S.take0 g2 e2 (λn hn=>by rw[e3]at hn;cases hn))
 |convert s d x=>
  simp only[ho]at h;obtain⟨u,U1,_,_,_,_,h1,h2⟩:=kA h;obtain⟨rfl,S1⟩:=Run.rd h1 S;obtain⟨rfl,e2,e3,c,g1,g2⟩:=qi7 (w:=w) hT h2 (S1.hrel _ mS);exact OpOut.same (by unfold execOp;simp_all) (S.take0 g2 e2 (λn hn=>by rw[e3]at hn;cases hn))
 |makeSlice t l c=>
  simp only[ho]at h;split at h
  . obtain⟨u,U1,_,_,_,_,h1,h2⟩:=kA h;obtain⟨rfl,S1⟩:=Run.rd h1 S;obtain⟨q,U2,_,_,_,_,h3,h4⟩:=kA h2;obtain⟨rfl,S2⟩:=Run.rd h3 S1;obtain⟨r,w1,β',who',g1,g2⟩:=qbh hT h4 S (S1.hrel _ mS) (S2.hrel _ mS) hf;exact⟨r,w1,β',who',.inl (by unfold execOp;simp_all),g2⟩
  . obtain⟨u,U1,_,_,_,_,h1,h2⟩:=kA h;obtain⟨rfl,S1⟩:=Run.rd h1 S;obtain⟨q,U2,_,_,_,_,h3,h4⟩:=kA h2;obtain⟨rfl,S2⟩:=Run.rd h3 S1;obtain⟨r,w1,β',who',g1,g2⟩:=qi6 hT h4 S (S1.hrel _ mS) (S2.hrel _ mS) hf;exact⟨r,w1,β',who',.inl (by unfold execOp;simp_all),g2⟩
 |fieldAddr t x f=>
  simp only[ho]at h;obtain⟨u,U1,_,_,_,_,h1,h2⟩:=kA h;obtain⟨rfl,S1⟩:=Run.rd h1 S;obtain⟨rfl,e2,e3,c,g1,g2⟩:=q62 (w:=w) hT h2 (S1.hrel _ mS);exact OpOut.same (by unfold execOp;simp_all) (S.take0 g2 e2 (λn hn=>S1.hocc _ mS n (e3 n hn)))
 |field t x f=>
  simp only[ho]at h;obtain⟨u,U1,_,_,_,_,h1,h2⟩:=kA h;obtain⟨rfl,S1⟩:=Run.rd h1 S;obtain⟨rfl,e2,e3,c,g1,g2⟩:=qei (w:=w) hT h2 (S1.hrel _ mS);exact OpOut.same (by unfold execOp;simp_all) (S.take0 g2 e2 (λn hn=>by rw[e3]at hn;cases hn))
 |index t x i=>
  simp only[ho]at h;obtain⟨u,U1,_,_,_,_,h1,h2⟩:=kA h;obtain⟨rfl,S1⟩:=Run.rd h1 S;obtain⟨q,U2,_,_,_,_,h3,h4⟩:=kA h2;obtain⟨rfl,S2⟩:=Run.rd h3 S1;obtain⟨rfl,e2,e3,c,g1,g2⟩:=qf5 hT h4 (S1.hrel _ mS) (S2.hrel _ mS);exact OpOut.same (by unfold execOp;simp_all) (S.take0 g2 e2 (λn hn=>by rw[e3]at hn;cases hn))
 |indexAddr t x i=>
  simp only[ho]at h;split at h
  . rename_i g;obtain⟨q,U2,_,_,_,_,h3,h4⟩:=kA h;obtain⟨rfl,S2⟩:=Run.rd h3 S;obtain⟨rfl,e2,e3,c,g1,g2⟩:=qjl hT h4 (hEP▸S.glob) (S2.hrel _ mS);exact OpOut.same (by unfold execOp;simp only[ho];exact run_v g1) (S.take0 g2 e2 (λn hn=>by rw[e3]at hn;cases hn))
  obtain⟨u,U1,_,_,_,_,h1,h2⟩:=kA h;obtain⟨rfl,S1⟩:=Run.rd h1 S;obtain⟨q,U2,_,_,_,_,h3,h4⟩:=kA h2;obtain⟨rfl,S2⟩:=Run.rd h3 S1;split at h4
  . rename_i s n k;obtain⟨rfl,e2,e3,c,g1,g2⟩:=q9y hT h4 S (S1.hrel _ mS) (S2.hrel _ mS)
    exact OpOut.same (by unfold execOp;simp_all) (S.take0 g2 e2 (λm hm=>by
     rw[e3 m hm];exact S1.hocc _ mS n (by simp[Vs.occ,occA,occC])))
  . obtain⟨rfl,e2,e3,c,g1,g2⟩:=q58 hT h4 S (S1.hrel _ mS) (S2.hrel _ mS);exact OpOut.same (by unfold execOp;simp_all) (S.take0 g2 e2 (λn hn=>S1.hocc _ mS n (e3 n hn)))
 |extract x i=>
  simp only[ho]at h;obtain⟨r,g1,g2⟩:=qao (P:=P) h S;exact OpOut.same (by unfold execOp;simp_all) g2
 |slice t x lo hi mx=>
  cases mx with
  |some m=>simp only[ho]at h;exact(kC h).elim
  |none=>
   simp only[ho]at h;obtain⟨u,U1,_,_,_,_,h1,h2⟩:=kA h;have S1:=Run.rdC h1 S;obtain⟨l,U2,_,_,_,_,h3,h4⟩:=kA h2
   have hl:U2=U1/\qd6 β who w l (lo.map a.eval):=by
    cases lo with
    |none=>obtain⟨rfl,rfl⟩:=kB h3;exact⟨rfl,trivial⟩
    |some l0=>
     obtain⟨q,U3,_,_,_,_,q1,q2⟩:=kA h3;obtain⟨rfl,S2⟩:=Run.rd q1 S1;obtain⟨rfl,rfl⟩:=kB q2;exact⟨rfl,S2.hrel _ mS⟩
   obtain⟨rfl,hl⟩:=hl;obtain⟨k,U3,_,_,_,_,h5,h6⟩:=kA h4
   have hh:U3=U2/\qd6 β who w k (hi.map a.eval):=by
    cases hi with
    |none=>obtain⟨rfl,rfl⟩:=kB h5;exact⟨rfl,trivial⟩
    |some l0=>
     obtain⟨q,U4,_,_,_,_,q1,q2⟩:=kA h5;obtain⟨rfl,S2⟩:=Run.rd q1 S1;obtain⟨rfl,rfl⟩:=kB q2;exact⟨rfl,S2.hrel _ mS⟩
   obtain⟨rfl,hh⟩:=hh;obtain⟨r,β',who',g1,g2⟩:=qex hT h6 S1 hl hh (hf 15 O) (D':=Dn D idx) (λn h=> .inl h) (dn15 O) (Dn_fn S1.dfn)
   exact⟨r,w,β',who',.inl (by unfold execOp;simp_all),g2⟩
 |call c=>
  obtain⟨callee,args,tys⟩:=c;cases callee with
  |value f=>simp[ho,q4u]at hnc
  |invoke r m=>simp[ho,q4u]at hnc
  |builtin b=>
   simp only[ho]at h;unfold qbe at h;split at h
   . rename_i x hargs;have hargs':args= #[x]:=by apply Array.ext';simpa using hargs
     subst hargs';split at h
     . rename_i t ht;obtain⟨u,U1,_,_,_,_,h1,h2⟩:=kA h;obtain⟨rfl,S1⟩:=Run.rd h1 S;have S2:=S1.fix (t:=t) hT;split at h2
       . rename_i s n k;obtain⟨rfl,e2,e3,c,g1,g2⟩:=qey (rt:=o.type) hT h2 ht S (S1.hrel _ mS)
         exact OpOut.same (by
          unfold execOp;simp only[ho,resolve,Sem.run_bind,Sem.run_pure,Result.andThen_ok,invoke,builtin];simp_all) (S.take0 g2 e2 (λn hn=>by rw[e3]at hn;cases hn))
       obtain⟨rfl,e2,e3,c,g1,g2⟩:=qjq (rt:=o.type) hT h2 ht S2 (S2.hrel _ mS)
       exact OpOut.same (by
        unfold execOp;simp only[ho,resolve,Sem.run_bind,Sem.run_pure,Result.andThen_ok,invoke,builtin];simp_all) (S.take0 g2 e2 (λn hn=>by rw[e3]at hn;cases hn))
     . exact(kC h).elim
   . rename_i x y hargs;have hargs':args= #[x,y]:=by apply Array.ext';simpa using hargs
     subst hargs';split at h
     . obtain⟨u,U1,_,_,_,_,h1,h2⟩:=kA h;obtain⟨rfl,S1⟩:=Run.rd h1 S;obtain⟨q,U2,_,_,_,_,h3,h4⟩:=kA h2;obtain⟨rfl,S2⟩:=Run.rd h3 S1;obtain⟨r,w1,β',who',g1,g2⟩:=q7k (rt:=o.type) hT h4 S2 hf
       exact⟨r,w1,β',who',.inl (by
        unfold execOp;simp only[ho,resolve,Sem.run_bind,Sem.run_pure,Result.andThen_ok,invoke,builtin];simp_all),g2⟩
     . obtain⟨u,U1,_,_,_,_,h1,h2⟩:=kA h;have S1:=Run.rdT h1 S;obtain⟨q,U2,_,_,_,_,h3,h4⟩:=kA h2;have S2:=Run.rdT h3 S1;obtain⟨r,w1,β',who',g1,g2⟩:=q7n (rt:=o.type) hT h4 S2 hf
       exact⟨r,w1,β',who',.inl (by
        unfold execOp;simp only[ho,resolve,Sem.run_bind,Sem.run_pure,Result.andThen_ok,invoke,builtin];simp_all),g2⟩
     . rename_i mode' hmode;obtain⟨u,U1,_,_,_,_,h1,h2⟩:=kA h;have S1:=Run.rdC h1 S;obtain⟨q,U2,_,_,_,_,h3,h4⟩:=kA h2;have S2:=Run.rdT h3 S1;obtain⟨r,w1,β',who',g1,g2⟩:=qd3 (rt:=o.type) hT h4 ((S2.swap.fix (t:=tys.getD 0 0) hT).swap) hf
       exact⟨r,w1,β',who',.inl (by
        unfold execOp;simp only[ho,resolve,Sem.run_bind,Sem.run_pure,Result.andThen_ok,invoke,builtin];simp_all),g2⟩
   . rename_i x y hargs;have hargs':args= #[x,y]:=by apply Array.ext';simpa using hargs
     subst hargs';obtain⟨u,U1,_,_,_,_,h1,h2⟩:=kA h;obtain⟨rfl,S1⟩:=Run.rd h1 S;obtain⟨q,U2,_,_,_,_,h3,h4⟩:=kA h2;obtain⟨rfl,S2⟩:=Run.rd h3 S1;obtain⟨r,w1,β',who',g1,g2⟩:=qig (rt:=o.type) hT h4 S2 hf
     exact⟨r,w1,β',who',.inl (by
      unfold execOp;simp only[ho,resolve,Sem.run_bind,Sem.run_pure,Result.andThen_ok,invoke,builtin];simp_all),g2⟩
   . rename_i x y hargs;have hargs':args= #[x,y]:=by apply Array.ext';simpa using hargs
     subst hargs';obtain⟨u,U1,_,_,_,_,h1,h2⟩:=kA h;obtain⟨rfl,S1⟩:=Run.rd h1 S;obtain⟨q,U2,_,_,_,_,h3,h4⟩:=kA h2;obtain⟨rfl,S2⟩:=Run.rd h3 S1;have r1:=S1.hrel _ mS;have r2:=S2.hrel _ mS;unfold maxAV at h4;split at h4
     . rename_i k n k' n';obtain⟨rfl,rfl⟩:=kB h4;have e1:a.eval x= .int k n:=r1;have e2:a.eval y= .int k' n':=r2
       exact OpOut.same (c:= .int k (if n'>n then n' else n)) (by
        unfold execOp;simp only[ho,resolve,Sem.run_bind,Sem.run_pure,Result.andThen_ok,invoke,builtin];have hm:(#[x,y]:Array Operand).map a.eval= #[a.eval x,a.eval y]:=by simp
        rw[hm,e1,e2];rfl) (S.take0 rfl rfl (λn hn=>by cases hn))
     . exact(kC h4).elim
   . rename_i x y hargs;have hargs':args= #[x,y]:=by apply Array.ext';simpa using hargs
     subst hargs';obtain⟨u,U1,_,_,_,_,h1,h2⟩:=kA h;obtain⟨rfl,S1⟩:=Run.rd h1 S;obtain⟨q,U2,_,_,_,_,h3,h4⟩:=kA h2;obtain⟨rfl,S2⟩:=Run.rd h3 S1;have r1:=S1.hrel _ mS;have r2:=S2.hrel _ mS;unfold minAV at h4;split at h4
     . rename_i k n k' n';obtain⟨rfl,rfl⟩:=kB h4;have e1:a.eval x= .int k n:=r1;have e2:a.eval y= .int k' n':=r2
       exact OpOut.same (c:= .int k (if n'<n then n' else n)) (by
        unfold execOp;simp only[ho,resolve,Sem.run_bind,Sem.run_pure,Result.andThen_ok,invoke,builtin];have hm:(#[x,y]:Array Operand).map a.eval= #[a.eval x,a.eval y]:=by simp
        rw[hm,e1,e2];rfl) (S.take0 rfl rfl (λn hn=>by cases hn))
     . exact(kC h4).elim
   . exact(kC h).elim
 |makeFunc fn first cap=>
  cases fn with
  |func f=>
   simp only[ho]at h;split at h
   . obtain⟨rfl,rfl⟩:=kB h;exact OpOut.same (c:= .func (.func f) (first.map a.eval) (cap.map a.eval)) (by unfold execOp;simp[ho,Instr.makeFunc]) (S.take0 (v:= .dead) trivial rfl (λn hn=>by cases hn))
   . obtain⟨c,who',g1,g2⟩:=q7r h ho S;exact OpOut.same g1 g2
  |_=>simp only[ho]at h;exact(kC h).elim
 |_=>simp only[ho]at h;exact(kC h).elim
end
end Go.Vs
