import Derived.Test.YtikppifemlpjlaaGreatDoorVa
import Derived.Orders
set_option linter.unusedVariables false
set_option linter.defProp false
namespace Go.Vs
section
variable {P:Program} {CO:Qb} {T:TT} {E:Entry} {D:Nat->Prop} {β:Beta} {who:Who} {U U':Slots} {hd:List (AV×Value)} {a:Act} {w w':World} {R W:List Nat}
def Yr {v:AV} {c:Value} (h:Rel β who w v c) (hp:(cellsOf v).all plainCell=true):
 CellsRel β who w (cellsOf v) c.cells/\names v=[]/\Vs.occ v=[]/\(∀x∈c.cells.toList,x.oneCell'=true):=by
 have hp': ∀x∈cellsOf v,plainCell x=true:=zD1.1 hp;cases v with
 |agg cells=>
  obtain⟨arr,rfl,h2⟩:=h;refine⟨h2,Qh λc hc=>(q2j (hp' c hc)).1,Qh λc hc=>(q2j (hp' c hc)).2,?_⟩
  intro x hx;obtain⟨j,hj,rfl⟩:=zx hx;have hj':j<cells.length:=by rw[<-h2.1];simpa [Value.cells]using hj
  have hr:=h2.2 j hj';have e:arr.getD j undef=(Value.agg arr).cells.toList[j]:=by simp[Value.cells,Array.getD,h2.1,hj']
  rw[e]at hr;refine Jb hr λhd=> ?_
  have:=hp' _ (zJ hj');rw[hd]at this;cases this
 |tup vs=>have:=hp' (.tup vs) (by simp[cellsOf]);cases this
 |bx o cs=>have:=hp' (.bx o cs) (by simp[cellsOf]);cases this
 |dead=>have:=hp' .dead (by simp[cellsOf]);cases this
 |lit u=>have:=hp' (.lit u) (by simp[cellsOf]);cases this
 |ref s n sz win=>have:=hp' (.ref s n sz win) (by simp[cellsOf]);cases this
 |ptr s n sz i j=>have:=hp' (.ptr s n sz i j) (by simp[cellsOf]);cases this
 |iptr g t xs i j=>have:=hp' (.iptr g t xs i j) (by simp[cellsOf]);cases this
 |dp n t xs hh=>have:=hp' (.dp n t xs hh) (by simp[cellsOf]);cases this
 |dr s n k=>have:=hp' (.dr s n k) (by simp[cellsOf]);cases this
 |wn n t xs=>have:=hp' (.wn n t xs) (by simp[cellsOf]);cases this
 |bool b=>
  have h1:=Jb (β:=β) (who:=who) (w:=w) (c:= .bool b) h (by simp)
  rw[Z5 h1]
  exact⟨⟨rfl,fun j hj=>by have:j=0:=by simp[cellsOf]at hj;exact hj
                          subst this;exact h⟩,rfl,rfl,λx hx=>by grind⟩
 |int k n=>
  have h1:=Jb (β:=β) (who:=who) (w:=w) (c:= .int k n) h (by simp)
  rw[Z5 h1]
  exact⟨⟨rfl,fun j hj=>by have:j=0:=by simp[cellsOf]at hj;exact hj
                          subst this;exact h⟩,rfl,rfl,λx hx=>by grind⟩
 |sl o t xs=>
  have h1:=Jb (β:=β) (who:=who) (w:=w) (c:= .sl o t xs) h (by simp)
  rw[Z5 h1];have hpl:=q2j (hp' (.sl o t xs) (by simp[cellsOf]))
  exact⟨⟨rfl,fun j hj=>by have:j=0:=by simp[cellsOf]at hj;exact hj
                          subst this;exact h⟩,hpl.1,hpl.2,λx hx=>by grind⟩
def qn5 {n:Nat} {f:(t:Ty)->List (Den t)->Option (List (Den t))} {av av':AV} {x:Value} {β':Beta} (h:putN n f av=some av') (hr:Rel β who w av x)
 (hnd:(names av).Nodup)
 (kp: ∀c v,n∉qg c->(∀m∈occC c,m∈Vs.occ av)->RelC β who w c v->RelC β' who w' c v)
 (hnode: ∀t xs ys v,RelN β who w n t xs v->f t xs=some ys->RelN β' who w' n t ys v)
 (hwin: ∀t xs ys v,RelN β who w n t xs v->RelW (β 98) w t.size v->f t xs=some ys->RelW (β' 98) w' t.size v)
 (hbx: ∀m b arr el,n∈names av->m≠n->who b=some m->w.heap[b]? =some (.cells arr el (0,0))->w'.heap[b]? =some (.cells arr el (0,0))) (hβ: ∀m∈Vs.occ av,β' m=β m)
 (hin:n∈names av) (htop: ∀cs,av≠ .bx (.nm n) cs) (ht: ∀vs,av≠ .tup vs):
 Rel β' who w' av' x/\names av'=names av/\Vs.occ av'=Vs.occ av:=by
 have one: ∀c c' v,(∀m∈occC c,m∈Vs.occ av)->putC n f c=some c'->RelC β who w c v->RelC β' who w' c' v:=by
  intro c c' v ho hc hv;rcases Yy hc with⟨t,xs,ys,rfl,hy,rfl⟩|⟨t,xs,ys,rfl,hy,rfl⟩|⟨hne,rfl⟩
  . exact hnode t xs ys v hv hy
  . exact⟨hnode t xs ys v hv.1 hy,hwin t xs ys v hv.1 hv.2 hy⟩
  . exact kp _ _ hne ho hv
 have many: ∀cs cs' arr,(∀m∈cs.flatMap occC,m∈Vs.occ av)->putL n f cs=some cs'->CellsRel β who w cs arr->CellsRel β' who w' cs' arr:=by
  intro cs cs' arr ho hc hv;obtain⟨l1,l2,l3,l4⟩:=q0b hc;refine⟨by rw[hv.1,l1],λj hj=> ?_⟩
  have hj':j<cs.length:=by rw[<-l1];exact hj
  exact one _ _ _ (λm hm=>ho m (zG.2 ⟨_,zJ hj',hm⟩)) (l4 j hj' hj) (hv.2 j hj')
 cases av with
 |bx o cells=>
  simp only[putN]at h;split at h
  . rename_i cs hcs;injection h with h
    subst h;obtain⟨l1,l2,l3,l4⟩:=q0b hcs;cases o with
    |nm m=>
     obtain⟨h0,b,arr,el,e1,e2,e3,e4⟩:=hr;have hmn:m≠n:=by rintro rfl;exact htop cells rfl
     refine⟨⟨by rw[hβ m (by simp[Vs.occ,occA])];exact h0,b,arr,el,e1,hbx m b arr el hin hmn e3 e2,e3,many _ _ _ (λq hq=>by simp only[Vs.occ,occA,zU];exact .inr hq) hcs e4⟩,?_,?_⟩
     . simp only[names,qj,l2]
     . simp only[Vs.occ,occA,l3]
    |_=>exact hr.elim
  . cases h
 |agg cells=>
  simp only[putN]at h;split at h
  . rename_i cs hcs;injection h with h
    subst h;obtain⟨l1,l2,l3,l4⟩:=q0b hcs;obtain⟨arr,e1,e2⟩:=hr;exact⟨⟨arr,e1,many _ _ _ (λq hq=>hq) hcs e2⟩,by simp only[names,qj,l2],by simp only[Vs.occ,occA,l3]⟩
  . cases h
 |tup vs=>exact absurd rfl (ht vs)
 |sl o t xs=>
  have hc:=one (.sl o t xs) av' x (λm hm=>hm) h hr
  obtain⟨k1,k2⟩:=q03 (c:= .sl o t xs) h;rcases Yy (c:= .sl o t xs) h with⟨t',xs',ys,e,_,rfl⟩|⟨t',xs',ys,e,_,rfl⟩|⟨_,rfl⟩
  . exact⟨hc,k1,k2⟩
  . cases e
  . exact⟨hc,rfl,rfl⟩
 |wn m t xs=>
  have hc:=one (.wn m t xs) av' x (λm hm=>hm) h hr
  obtain⟨k1,k2⟩:=q03 (c:= .wn m t xs) h;rcases Yy (c:= .wn m t xs) h with⟨t',xs',ys,e,_,rfl⟩|⟨t',xs',ys,e,_,rfl⟩|⟨_,rfl⟩
  . cases e
  . exact⟨hc,k1,k2⟩
  . exact⟨hc,rfl,rfl⟩
 |dp m t xs hh=>
  simp only[putN,putC]at h;split at h
  . cases h
  . rename_i e;simp only[names,qj,qg,zA]at hin;exact absurd hin.symm e
 |_=>simp[names,qj,qg]at hin
def q4b {n:Nat} {f:(t:Ty)->List (Den t)->Option (List (Den t))} {av av':AV} (h:putN n f av=some av') (ht: ∀vs,av≠ .tup vs):
 names av'=names av/\Vs.occ av'=Vs.occ av:=by
 cases av with
 |bx o cells=>
  simp only[putN]at h;split at h
  . rename_i cs hcs;injection h with h
    subst h;obtain⟨l1,l2,l3,l4⟩:=q0b hcs;cases o<;>exact⟨by simp only[names,qj,l2],by simp only[Vs.occ,occA,l3]⟩
  . cases h
 |agg cells=>
  simp only[putN]at h;split at h
  . rename_i cs hcs;injection h with h
    subst h;obtain⟨l1,l2,l3,l4⟩:=q0b hcs;exact⟨by simp only[names,qj,l2],by simp only[Vs.occ,occA,l3]⟩
  . cases h
 |tup vs=>exact absurd rfl (ht vs)
 |sl o t xs=>
  obtain⟨k1,k2⟩:=q03 (c:= .sl o t xs) h;rcases Yy (c:= .sl o t xs) h with⟨t',xs',ys,e,_,rfl⟩|⟨t',xs',ys,e,_,rfl⟩|⟨_,rfl⟩
  . exact⟨k1,k2⟩
  . cases e
  . exact⟨rfl,rfl⟩
 |wn m t xs=>
  obtain⟨k1,k2⟩:=q03 (c:= .wn m t xs) h;rcases Yy (c:= .wn m t xs) h with⟨t',xs',ys,e,_,rfl⟩|⟨t',xs',ys,e,_,rfl⟩|⟨_,rfl⟩
  . cases e
  . exact⟨k1,k2⟩
  . exact⟨rfl,rfl⟩
 |dp m t xs hh=>
  simp only[putN,putC]at h
  grind
 |_=>simp only[putN,putC,zS]at h;subst h;exact⟨rfl,rfl⟩
def qae {n:Nat} {f:(t:Ty)->List (Den t)->Option (List (Den t))} {c c':AV} {t:Ty} {xs:List (Den t)} (hf:findC n c=some ⟨t,xs⟩) (h:putC n f c=some c'): ∃ys,f t xs=some ys:=by
 cases c with
 |sl o t' xs'=>
  cases o with
  |nm m=>
   simp only[findC]at hf;split at hf
   . rename_i e;injection hf with hf
     cases hf
     rcases Yy h with⟨t2,xs2,ys,e2,hy,_⟩|⟨t2,xs2,ys,e2,_⟩|⟨hne,_⟩
     . grind
     . cases e2
     . exact absurd (by simp[qg,e]) hne
   . cases hf
  |_=>cases hf
 |wn m t' xs'=>
  simp only[findC]at hf;split at hf
  . rename_i e;injection hf with hf
    cases hf
    rcases Yy h with⟨t2,xs2,ys,e2,_⟩|⟨t2,xs2,ys,e2,hy,_⟩|⟨hne,_⟩
    . cases e2
    . grind
    . exact absurd (by simp[qg,e]) hne
  . cases hf
 |_=>cases hf
def qag {n:Nat} {f:(t:Ty)->List (Den t)->Option (List (Den t))} {t:Ty} {xs:List (Den t)}: ∀{cs cs':List AV},findL n cs=some ⟨t,xs⟩->putL n f cs=some cs'-> ∃ys,f t xs=some ys
 |[],_,hf,_=>by cases hf
 |c::cs,cs',hf,h=>by
  simp only[putL]at h;split at h
  . rename_i c1 cs1 h1 h2;simp only[findL]at hf;split at hf
    . rename_i x hx;injection hf with hf
      subst hf;exact qae hx h1
    . exact qag hf h2
  . cases h
def qmb {n:Nat} {f:(t:Ty)->List (Den t)->Option (List (Den t))} {av av':AV} {t:Ty} {xs:List (Den t)} (hf:findN n av=some ⟨t,xs⟩) (h:putN n f av=some av'): ∃ys,f t xs=some ys:=by
 cases av with
 |bx o cells=>
  simp only[putN]at h;split at h
  . exact qag hf (by assumption)
  . cases h
 |agg cells=>
  simp only[putN]at h;split at h
  . exact qag hf (by assumption)
  . cases h
 |sl o t' xs'=>exact qae (c:= .sl o t' xs') hf h
 |wn m t' xs'=>exact qae (c:= .wn m t' xs') hf h
 |_=>simp[findN,findC]at hf
def qet (hT:TTok P T) {idx t:Nat} {p v:AV} {cp cv:Value} {u:Unit} (h:Run CO (qf1 T idx t p v) U u U' R W)
 (S:Sim E D β who U ((p,cp)::(v,cv)::hd) a w) (hf: ∀k,k<16-> ¬D (fresh idx k)):
 ∃w' β',(Instr.storeAt t cp cv).run P w= .ok () w'/\Sim E (Dn D idx) β' who U' hd a w':=by
 have hp:Rel β who w p cp:=S.hrel _ mS;have S0:=S.drop rfl;have hv:Rel β who w v cv:=S0.hrel _ mS;unfold qf1 at h;split at h
 . exact(kC h).elim
 . rename_i ti hti';have hti:=hT t _ hti';split at h
   . exact(kC h).elim
   . rename_i hlen;simp only[ne_eq,zj3]at hlen;split at h
     . rename_i s n sz i j
       have hupd: ∃av',Jq idx n sz i j (cellsOf v) (U.get s)=some av'/\U'=U.set s av':=by
        obtain⟨al,U1,_,_,_,_,h1,h2⟩:=kA h;obtain⟨hal,rfl⟩:=kF h1
        have nob: ∀{m:Option Nat},boxNm al=m->m≠some n-> ∀c,U1.get s≠ .bx (.nm n) c:=λhb hne c e=>by
         subst hal;rw[e]at hb;exact hne hb.symm
        split at h2
        . rename_i m hm;split at h2
          . obtain⟨av',hss,this⟩:=kH h2;exact⟨av',q94 hss,this⟩
          . rename_i hne;obtain⟨av',hss,this⟩:=kH h2;exact⟨av',q27 hss (nob hm λe=>hne (by injection e)),this⟩
        . rename_i hm;obtain⟨av',hss,this⟩:=kH h2;exact⟨av',q27 hss (nob hm (by simp)),this⟩
       obtain⟨U1,rfl⟩: ∃U1,U1=U:=⟨U,rfl⟩;obtain⟨av',hss,this⟩:=hupd;subst this
       have node:Yj n sz i j (cellsOf v) (U1.get s)=some av'->(∀cs,U1.get s≠ .bx (.nm n) cs)->
        ∃w' β',(Instr.storeAt t cp cv).run P w= .ok () w'/\Sim E (Dn D idx) β' who (U1.set s av') hd a w':=by
        intro hn htop;unfold Yj at hn;split at hn
        . rename_i hc;simp only[zM]at hc;obtain⟨hpl,hfs⟩:=hc;cases hfn:findN n (U1.get s)with
          |none=>rw[hfn]at hfs;cases hfs
          |some y=>
           obtain⟨ty,xs⟩:=y;obtain⟨g1,g2⟩:=q72 (S.rel s) hfn;obtain⟨q1,q2,q3,q4⟩:=Yr hv hpl;have ht: ∀vs,U1.get s≠ .tup vs:=λvs e=>by rw[e]at hfn;simp[findN,findC]at hfn
           obtain⟨ys,hys⟩:=qmb hfn hn;split at hys
           . rename_i hsz;subst hsz;rcases hp with⟨b,o,L,cap,e1,e2,rfl⟩|⟨b,e1,_,_⟩
             . rcases g1.2 with⟨e3,_⟩|⟨b',o',cap',arr,el,e3,e4,e5,e6,e7,e8⟩
               . rw[e3]at e1;cases e1
               . rw[e3]at e1;injection e1 with w1 w2 w3
                 injection w1 with w1;injection w1 with w1 w1' _
                 subst w1 w1' w2 w3;have hsl:cv.cells.toList.length=(cellsOf v).length:=by rw[zk1,q1.1]
                 have hjl:j+(cellsOf v).length<=ty.size:=by
                  cases hse:q0d ty (xs.getD i ty.zero) j (cellsOf v)with
                  |none=>rw[hse]at hys;cases hys
                  |some x'=>
                   unfold q0d at hse
                   grind
                 have hcap:xs.length*ty.size<=cap'*ty.size:=zN _ e6;have hil:(i+1)*ty.size<=xs.length*ty.size:=zN _ O;rw[zI1]at hil;have hrun:=q0h hti (c:=cv) (o:=o'+i*ty.size+j) e4 (by rw[q1.1,hlen]) (by rw[q1.1];omega) q4
                 obtain⟨β',S'⟩:=Sim.write (idx:=idx) (s:=s) (n:=n) (g:=b') (av':=av') (row:=qx arr (o'+i*ty.size+j) cv.cells.toList) S0 hf e7 g2
                  (fun β' z1 z2 kp himm=>by
                    refine(qn5 (β':=β') (w':=w.setRow b' (qx arr (o'+i*ty.size+j) cv.cells.toList)) hn (S.rel s) (S.nod s) ?_ ?_ ?_ ?_ (λm hm=>z2 m (S.occ s m hm)) g2 htop ht).1
                    . intro c x hnc hoc hcx;obtain⟨r1,r2,r3,r4⟩:=q2i hcx;exact r4 _ _ _ _ (kp c x (λm hm=>S.occ s m (hoc m (by rwa [r3]at hm))) (by rw[r2];exact hnc) r1)
                    . intro t2 xs2 ys2 v2 hN hf2;split at hf2
                      . rename_i hsz2;cases hse:q0d t2 (xs2.getD i t2.zero) j (cellsOf v)with
                        |none=>rw[hse]at hf2;cases hf2
                        |some x'=>
                         rw[hse]at hf2;simp only[zC2,zS]at hf2;subst hf2;obtain⟨hv2,hN2⟩:=hN;refine⟨by rw[z2 n (S.occ s n (ql g2))];exact hv2,?_⟩
                         rcases hN2 with⟨f1,f2⟩|⟨b2,o2,cap2,arr2,el2,f1,f2,f3,f4,f5,f6⟩
                         . grind
                         . have f1':=f1;rw[hv2,e3]at f1;injection f1 with y1 y2 y3
                           injection y1 with y1;injection y1 with y1 y1' _
                           subst y1 y1' y3;rw[e4]at f2;injection f2 with f2;injection f2 with f2 f2' _
                           subst f2 f2'
                           refine .inr ⟨b',o',cap',qx arr (o'+i*ty.size+j) cv.cells.toList,el,by rw[f1'];simp,setRow_heap w b' arr _ el _ e4,
                            by rw[Qw (by rw[hsl];omega)];exact f3,by simpa using f4,f5,?_⟩
                           rw[hsz2];refine Elems.store (who:=who) (w:=w) (β:=β') e4 f6 (by rw[<-y2];exact e2) hsl ?_ hse ?_ (by grind)
                           . grind
                           . intro k hk;rw[<-hsz2];have hvk:=kp v cv (λm hm=>by rw[q3]at hm;cases hm) (by rw[q2];simp) hv
                             obtain⟨p1,p2,p3,p4⟩:=Yr hvk hpl;have:=p1.2 k hk;have hpk:plainCell (cellsOf v)[k]=true:=zD1.1 hpl _ (zJ hk)
                             have e9:cv.cells.toList.getD k undef=cv.cells.getD k undef:=by
                              simp[List.getD_eq_getElem?_getD,Array.getD_eq_getD_getElem?]
                             rw[e9];exact q79 hpk this
                      . cases hf2
                    . intro t2 xs2 ys2 v2 hN hW hf2;split at hf2
                      . rename_i hsz2;obtain⟨arr0,w1,w2⟩:=hW;obtain⟨hv2,hN2⟩:=hN;refine⟨arr0,by rw[z2 98 S.d98];exact w1,λb2 o2 L2 cap2 arr2 el2 y1 y2=> ?_⟩
                        have y3:=y1;rw[hv2,e3]at y3;injection y3 with y3 y4 y5
                        injection y3 with y3;injection y3 with y3 y3' _
                        subst y3 y3' y4 y5;rw[setRow_heap w b' arr _ el _ e4]at y2;injection y2 with y2;injection y2 with y2 _
                        subst y2;obtain⟨w3,w4⟩:=w2 _ _ _ _ _ _ y1 e4;have hfit:o'+i*ty.size+j+cv.cells.toList.length<=arr.size:=by rw[hsl];omega
                        refine⟨by rw[Qw hfit];exact w3,λq hq=> ?_⟩
                        rw[Qp hfit,iN' (by grind)]
                        exact w4 q hq
                      . cases hf2
                    . intro m b2 arr2 el2 hnin hmn hwm hh;rw[setRow_other w b' b2 _ (by grind)]
                      exact hh)
                  (λm hm=>by rw[(q4b hn ht).1]at hm;exact .inl hm) (by rw[(q4b hn ht).1];exact S.nod s)
                  (λm hm=>by rw[(q4b hn ht).2]at hm;exact .inl (S.occ s m hm))
                 exact⟨_,β',hrun,S'⟩
             . exfalso;rcases g1.2 with⟨e3,_⟩|⟨b',o',cap',arr,el,e3,_⟩<;>(rw[e3]at e1;cases e1)
           . cases hys
        . cases hn
       unfold Jq at hss;split at hss
       . rename_i m cells hav;split at hss
         . rename_i hmn;have hmn':=hmn.symm;subst hmn';split at hss
           . rename_i cs' ho;split at hss
             . rename_i hfit;injection hss with hss
               subst hss;have hb:=S.rel s;rw[hav]at hb;obtain⟨hβ,b,arr,el,e1,e2,e3,e4⟩:=hb
               have hc:cp= .pointer (some ⟨b,j,none⟩):=by
                rcases hp with⟨b',o',L,cap,q1,_,_⟩|⟨b',q1,_,q3⟩
                . rw[<-hβ,e1]at q1;cases q1
                . rw[<-hβ,e1]at q1;injection q1 with q1;injection q1 with q1;injection q1 with q1
                  subst q1;exact q3
               subst hc;obtain⟨g1,g2,g3⟩:=q33 hv ho;obtain⟨l1,l2,l3,l4,l5⟩:=Zo ho;have hsl:cv.cells.toList.length=(cellsOf v).length:=by rw[zk1,g1.1]
               have hrun:=q0h hti (c:=cv) (o:=j) e2 (by rw[g1.1,hlen]) (by rw[g1.1,e4.1];exact hfit) g3
               have hgn:n∈names (U1.get s):=by rw[hav];simp[names,qj]
               have hnods:=S.nod s;rw[hav]at hnods;simp only[names,qj,zA1]at hnods;have hfit':j+cs'.length<=cells.length:=by rw[l1];exact hfit
               have hrl:=Xg hfit'
               have hnames: ∀m∈(Qc cells j cs').flatMap qg,m∈cells.flatMap qg\/m∈cs'.flatMap qg:=by
                intro m hm;rw[Qr _ _ _ hfit']at hm;simp only[zj1,zY]at hm;rcases hm with(hm|hm)|hm
                . obtain⟨c,hc,hm⟩:=zG.1 hm;exact .inl (zG.2 ⟨c,zJ1 hc,hm⟩)
                . exact .inr hm
                . obtain⟨c,hc,hm⟩:=zG.1 hm;exact .inl (zG.2 ⟨c,zh1 hc,hm⟩)
               have hoccs: ∀m∈(Qc cells j cs').flatMap occC,m∈cells.flatMap occC\/m∈cs'.flatMap occC:=by
                intro m hm;rw[Qr _ _ _ hfit']at hm;simp only[zj1,zY]at hm;rcases hm with(hm|hm)|hm
                . obtain⟨c,hc,hm⟩:=zG.1 hm;exact .inl (zG.2 ⟨c,zJ1 hc,hm⟩)
                . exact .inr hm
                . obtain⟨c,hc,hm⟩:=zG.1 hm;exact .inl (zG.2 ⟨c,zh1 hc,hm⟩)
               have hvd: ∀m∈names v,∀t,m∉names (U1.get t):=S0.hdis _ mS;have hvo: ∀m∈names v,D m:=λm hm=>S0.hocc _ mS m (ql hm)
               have hcs'n: ∀m∈cs'.flatMap qg,m∈names v\/ ∃k,k<16/\m=fresh idx k:=by
                intro m hm;rcases l3 m hm with h|⟨k,_,hk,e⟩
                . rw[g2];exact .inl h
                . exact .inr ⟨k,O,e⟩
               have hslotD: ∀m∈names (U1.get s),D m:=λm hm=>S.occ s m (ql hm)
               have hcs'd: ∀m∈cs'.flatMap qg,m∉names (U1.get s):=by
                intro m hm h;rcases hcs'n m hm with h2|⟨k,hk,rfl⟩
                . exact hvd m h2 s h
                . exact hf k hk (hslotD _ h)
               have hcn:(cs'.flatMap qg).Nodup:=by
                refine l5 ?_ ?_
                . rw[<-g2];have:=S0.hnod;simp only[fC]at this;exact(zQ.1 this).1
                . intro m hm k hk e;rw[<-g2]at hm;exact hf k O (e▸hvo m hm)
               obtain⟨β',S'⟩:=Sim.write (idx:=idx) (s:=s) (n:=n) (g:=b) (av':= .bx (.nm n) (Qc cells j cs')) (row:=qx arr j cv.cells.toList) S0 hf e3 hgn
                (fun β' z1 z2 kp himm=>by
                  have hrow:j+cv.cells.toList.length<=arr.size:=by rw[hsl,e4.1];exact hfit
                  refine⟨by rw[z2 n (hslotD n hgn)];exact hβ,b,qx arr j cv.cells.toList,el,e1,setRow_heap w b arr _ el _ e2,e3,?_,?_⟩
                  . rw[Qw hrow,e4.1,hrl]
                  . intro i hi;have hi':i<cells.length:=by rw[<-hrl];exact hi
                    rw[q0e hfit' hi'];rw[Array.getD_eq_getD_getElem?,Qp hrow];split
                    . rename_i hcc;rw[iP (by rw[hsl,<-l1];exact hcc)]
                      have hkv:i-j<(cellsOf v).length:=O;obtain⟨k1,k2⟩:=l2 (i-j) hkv O;have hvk:=kp v cv (λm hm=>S0.hocc _ mS m hm) (λh=>hvd n h s hgn) hv
                      obtain⟨p1,p2,p3⟩:=q33 hvk ho;have:=p1.2 (i-j) hkv;refine q7j k2 ?_ (z1 _ k1);rw[Array.getD_eq_getD_getElem?]at this;simpa using this
                    . rename_i hcc;rw[iN' (by rw[hsl,<-l1];exact hcc),<-Array.getD_eq_getD_getElem?]
                      obtain⟨r1,r2,r3,r4⟩:=q2i (e4.2 i hi');refine r4 _ _ _ _ (kp _ _ (λm hm=>S.occ s m ?_) ?_ r1)
                      . rw[hav];simp only[Vs.occ,occA,zU];exact .inr (zG.2 ⟨_,zJ hi',by rwa [<-r3]⟩)
                      . rw[r2];exact λh=>hnods.1 (zG.2 ⟨_,zJ hi',h⟩))
                (fun m hm=>by
                  simp only[names,qj,zU]at hm;rcases hm with rfl|hm
                  . exact .inl hgn
                  . rcases hnames m hm with h|h
                    . rw[hav];simp only[names,qj,zU];exact .inl (.inr h)
                    . exact .inr (hcs'n m h))
                (by
                  simp only[names,qj,zA1];constructor
                  . intro hm;rcases hnames n hm with h|h
                    . exact hnods.1 h
                    . exact hcs'd n h hgn
                  . rw[Qr _ _ _ hfit'];simp only[zj1]
                    have hsub1: ∀m∈(cells.take j).flatMap qg,m∈names (U1.get s):=λm hm=>by
                     obtain⟨c,hc,hm⟩:=zG.1 hm;rw[hav];simp only[names,qj,zU];exact .inr (zG.2 ⟨c,zJ1 hc,hm⟩)
                    have hsub2: ∀m∈(cells.drop (j+cs'.length)).flatMap qg,m∈names (U1.get s):=λm hm=>by
                     obtain⟨c,hc,hm⟩:=zG.1 hm;rw[hav];simp only[names,qj,zU];exact .inr (zG.2 ⟨c,zh1 hc,hm⟩)
                    have hsplit:cells=cells.take j++(cells.drop j).take cs'.length++cells.drop (j+cs'.length):=by
                     rw[zo1,<-List.drop_drop,zK1,zK1]
                    have hnn:=hnods.2;rw[hsplit]at hnn;simp only[zj1,zo1]at hnn;have h1:=zQ.1 hnn;have h2:=zQ.1 h1.2.1;refine zQ.2 ⟨zQ.2 ⟨h1.1,hcn,?_⟩,h2.2.1,?_⟩
                    . rintro x hx y hy rfl
                      exact hcs'd x hy (hsub1 x hx)
                    . rintro x hx y hy rfl
                      simp only[zY]at hx;rcases hx with hx|hx
                      . exact h1.2.2 x hx x (by simp only[zY];exact .inr hy) rfl
                      . exact hcs'd x hx (hsub2 x hy))
                (fun m hm=>by
                  simp only[Vs.occ,occA,zU]at hm;rcases hm with rfl|hm
                  . exact .inl (hslotD _ hgn)
                  . rcases hoccs m hm with h|h
                    . exact .inl (S.occ s m (by rw[hav];simp only[Vs.occ,occA,zU];exact .inr h))
                    . rcases hcs'n m (l4 m h)with h|h
                      . exact .inl (hvo m h)
                      . exact .inr h)
               exact⟨_,β',hrun,S'⟩
             . cases hss
           . cases hss
         grind
       . grind
     . exact(kC h).elim
end
section
variable {P:Program} {CO:Qb} {T:TT} {E:Entry} {D:Nat->Prop} {β:Beta} {who:Who} {U U':Slots} {hd:List (AV×Value)} {a:Act} {w w':World} {R W:List Nat}
def Sim.handWrite {n m g:Nat} {t t0:Ty} {xs:List (Den t0)} {ys:List (Den t)} {c c':Value} {row:Array Value} {D':Nat->Prop} (S:Sim E D β who U ((.sl (.nm n) t0 xs,c)::hd) a w)
 (hm: ¬D m) (hD: ∀x,D x->D' x) (hDm:D' m) (hDF: ¬D' FN) (hg:who g=some n)
 (hr: ∀β' who',β' m=c'->(∀b,who b=some n->who' b=some m)->(∀b,who b=none->who' b=none/\(w.setRow g row).heap[b]? =w.heap[b]?)->RelN β' who' (w.setRow g row) m t ys c'):
 ∃β' who',Sim E D' β' who' U ((.sl (.nm m) t ys,c')::hd) a (w.setRow g row):=by
 let β':Beta:=λx=>if x=m then c' else β x
 let who':Who:=λb=>if who b=some n then some m else who b
 have hoth: ∀b,b≠g->(w.setRow g row).heap[b]? =w.heap[b]? :=λb hb=>setRow_other w g b row hb
 have hgn: ∀b,who b=none->b≠g:=λb hb e=>by grind
 have hnF:n≠FN:=λe=>S.dfn (S.hocc _ mS FN (by rw[<-e];simp[Vs.occ,occA,occC]))
 have hnin: ∀s,n∉names (U.get s):=λs=>S.hdis _ mS n (by simp[names,qj,qg]) s
 have hnhd: ∀x∈hd,n∉names x.1:=by
  intro x hx hn;have:=S.hnod;simp only[fC,names,qj,qg,zG2,zA1]at this;exact this.1 (zG.2 ⟨x,hx,hn⟩)
 have hb: ∀x,D x->β' x=β x:=λx hx=>by grind
 have k: ∀av,(∀x∈Vs.occ av,D x)->n∉names av->Keeps β who w β' who' (w.setRow g row) (names av) (Vs.occ av):=λav ho hn=>
  ⟨fun x hx=>hb x (ho x hx),λx hx b hw=>by
    grind,
   λb hb' _=>⟨by simp[who',hb'],hoth b (hgn b hb')⟩,by simp⟩
 have hws: ∀b x,who' b=some x-> ∃y,who b=some y:=λb x h=>by
  grind
 have hnew:Rel β' who' (w.setRow g row) (.sl (.nm m) t ys) c':=hr β' who' (by simp[β']) (λb h=>by simp[who',h]) (λb h=>⟨by simp[who',h],hoth b (hgn b h)⟩)
 refine⟨β',who',?_⟩
 have S0:=(S.drop rfl).world (h98:=hb 98 S.d98) (β':=β') (who':=who') (w':=w.setRow g row) (λs=>(S.rel s).keep (k _ (S.occ s) (hnin s)))
  (λx hx=>(S.hrel x (mT hx)).keep (k _ (S.hocc x (mT hx)) (hnhd x hx)))
  (λb x h=>by obtain⟨y,hy⟩:=hws b x h;simp only[setRow_size];exact S.wsz b y hy) (by simp)
  (fun b hb h0=>hoth b (by
    rintro rfl
    rcases h0 with h0|h0
    . rcases S.fr1 b n hg with h|h
      . exact h h0
      . omega
    . rw[S.fr3 b h0]at hg;grind)) (λb x h=>by obtain⟨y,hy⟩:=hws b x h;exact S.fr1 b y hy)
  (fun b hb=>by
    have h:=S.fr3 b hb
    grind)
 have S1:=S0.mono hD hDF
 exact{S1 with
  hrel:=λy hy=>by rcases mC hy with rfl|hy;exact hnew;exact S1.hrel y hy
  hnod:=by
   simp only[fC,names,qj,qg,zG2,zA1];refine⟨λh=> ?_,S0.hnod⟩
   obtain⟨x,hx,hn⟩:=zG.1 h;exact hm (S.hocc x (mT hx) m (ql hn))
  hdis:=λy hy=>by
   rcases mC hy with rfl|hy
   . intro x hx s hs;simp only[names,qj,qg,zA]at hx;subst hx;exact hm (S.occ s x (ql hs))
   . exact S1.hdis y hy
  hocc:=λy hy=>by
   rcases mC hy with rfl|hy
   . intro x hx;simp only[Vs.occ,occA,occC,zA]at hx;subst hx;exact hDm
   . exact S1.hocc y hy}
def Sim.newNil {m:Nat} {v0:AV} {t:Ty} {c0:Value} {D':Nat->Prop} (S:Sim E D β who U ((v0,c0)::hd) a w) (hm: ¬D m) (hD: ∀x,D x->D' x) (hDm:D' m) (hDF: ¬D' FN):
 ∃β',Sim E D' β' who U ((.sl (.nm m) t [],nilS)::hd) a w:=by
 let β':Beta:=λx=>if x=m then nilS else β x
 have hb: ∀x,D x->β' x=β x:=λx hx=>by grind
 have S0:=((S.drop rfl).keep (β':=β') (who':=who) (w':=w) hb (λ_ _ h=>h) (λ_ _=>rfl) (λ_ h _=>h) S.wsz (zH _)).mono hD hDF
 refine⟨β',?_⟩
 exact{S0 with
  hrel:=λy hy=>by
   rcases mC hy with rfl|hy
   . exact⟨by simp[β'],.inl ⟨rfl,rfl⟩⟩
   . exact S0.hrel y hy
  hnod:=by
   simp only[fC,names,qj,qg,zG2,zA1];refine⟨λh=> ?_,S0.hnod⟩
   obtain⟨x,hx,hn⟩:=zG.1 h;exact hm (S.hocc x (mT hx) m (ql hn))
  hdis:=λy hy=>by
   rcases mC hy with rfl|hy
   . intro x hx s hs;simp only[names,qj,qg,zA]at hx;subst hx;exact hm (S.occ s x (ql hs))
   . exact S0.hdis y hy
  hocc:=λy hy=>by
   rcases mC hy with rfl|hy
   . intro x hx;simp only[Vs.occ,occA,occC,zA]at hx;subst hx;exact hDm
   . exact S0.hocc y hy}
def RelI.cells: ∀{t:Ty} {x:Den t} {g:Nat->Option Value} {j:Nat},RelI who w t x g j-> ∀i,i<t.size-> ∃v,g (j+i)=some v/\v.oneCell'=true
 | .int k,x,g,j,h,i,hi=>by have:i=0:=by simp[Ty.size]at hi;exact hi
                           subst this;exact⟨_,h,rfl⟩
 | .bool,x,g,j,h,i,hi=>by have:i=0:=by simp[Ty.size]at hi;exact hi
                          subst this;exact⟨_,h,rfl⟩
 | .sl b t,x,g,j,h,i,hi=>by
   have:i=0:=by simp[Ty.size]at hi;exact hi
   subst this;obtain⟨v,h1,h2⟩:=h;refine⟨v,h1,?_⟩;rcases h2 with⟨rfl,_⟩|⟨_,_,_,rfl,_⟩<;>rfl
 | .pr a b,x,g,j,h,i,hi=>by
   by_cases hlt:i<a.size
   . exact RelI.cells h.1 i hlt
   . obtain⟨v,e1,e2⟩:=RelI.cells h.2 (i-a.size) (by simp only[Ty.size]at hi;omega)
     grind
def SlS.news {t:Ty} {ys:List (Den t)} {v:Value} {e:Nat} (h:SlS who w t ys v):
 ∃news:List Value,news.length=ys.length*t.size/\(∀x∈news,x.oneCell'=true)/\
  (∀w1:World,w1.heap=w.heap->(Builtin.firstCells t.size ys.length v).run P w1= .ok news.toArray w1)/\
  (∀i (h:i<ys.length),RelI who w t ys[i] (λj=>news[i*t.size+j]?) 0)/\(∃ad cap,v= .slice ad ys.length cap):=by
 rcases h with⟨rfl,rfl⟩|⟨b,o,cap,rfl,h1,h2,h3⟩
 . exact⟨[],by simp,by simp,λw1 _=>by simp[Builtin.firstCells],λi h=>by simp at h,none,0,rfl⟩
 . have hp:=Ty.size_pos t
   have hcell: ∀j,j<ys.length*t.size-> ∃v,cellAt w b o j=some v/\v.oneCell'=true:=by
    intro j hj;have hi:j/t.size<ys.length:=zP3 (by rw[zW];exact hj)
    obtain⟨v,e1,e2⟩:=RelI.cells (h3 (j/t.size) hi) (j%t.size) (zV1 _ hp);refine⟨v,?_,e2⟩;rw[<-e1];simp only[cellAt,zF];congr 2;have:=ze1 j t.size;rw[zW]at this;omega
   refine⟨(List.range (ys.length*t.size)).map λj=>(cellAt w b o j).getD undef,by simp,?_,?_,?_,some ⟨b,o,none⟩,cap,rfl⟩
   . grind
   . intro w1 hw1;simp only[Builtin.firstCells];rw[run_loadCells (P:=P) w1 ⟨b,o,none⟩ (ys.length*t.size) (λj=>(cellAt w b o j).getD undef) (λj hj=> ?_)]
     obtain⟨v,e1,e2⟩:=hcell j hj;rw[add_plain,e1];simp only[cellAt,World.cell?]at e1⊢;rw[hw1];exact e1
   . intro i hi;refine RelI.ext' (g:=cellAt w b (o+i*t.size)) (λj hj=> ?_) (h3 i hi)
     have hlt:i*t.size+j<ys.length*t.size:=by
      have:(i+1)*t.size<=ys.length*t.size:=zN _ O;rw[zI1]at this;omega
     obtain⟨v,e1,_⟩:=hcell _ hlt;simp only[zF,List.getElem?_map,List.getElem?_range hlt,zC2,e1,zX2];simp only[cellAt]at e1⊢
     grind
end
section
variable {P:Program} {CO:Qb} {T:TT} {E:Entry} {D:Nat->Prop} {β:Beta} {who:Who} {U U':Slots} {hd:List (AV×Value)} {a:Act} {w w':World} {R W:List Nat}
def q3c {t0 t1 e e1:TypeId} {tys:Array TypeId} {rt:TypeId} {i:TypeInfo} (h0:tys[0]? =some t0) (h1:tys[1]? =some t1) (hu0:P.underlying t0=some (.slice e)) (hu1:P.underlying t1=some (.slice e1))
 (hi:P.info? e=some i) {b o sLen sCap m:Nat} {cur:Array Value} {el:TypeId} (hg:w.heap[b]? =some (.cells cur el (0,0))) {ad:Option Addr} {c:Nat} {news:List Value}
 (hf:(Builtin.firstCells i.size m (.slice ad m c)).run P w= .ok news.toArray w) (hl:news.length=m*i.size) (h1': ∀x∈news,x.oneCell'=true)
 (hroom:sLen+m<=sCap) (hfit:o+sLen*i.size+news.length<=cur.size):
 (Builtin.append_ tys rt #[.slice (some ⟨b,o,none⟩) sLen sCap,.slice ad m c]).run P w=
   .ok (.slice (some ⟨b,o,none⟩) (sLen+m) sCap) (w.setRow b (qx cur (o+sLen*i.size) news)):=by
 have hst:=run_storeCells_at P b (o+sLen*i.size) el news 0 cur w hg (by simpa using hfit) h1'
 simp only[zL]at hst;simp only[qx];simp[Builtin.append_,h0,h1,run_underlying hu0,run_underlying hu1,Xu hi,Builtin.lenOf,hroom,hf,add_plain,hst]
def q29 {t0 t1 e e1:TypeId} {tys:Array TypeId} {rt:TypeId} {i:TypeInfo} {z:Value} (h0:tys[0]? =some t0) (h1:tys[1]? =some t1) (hu0:P.underlying t0=some (.slice e)) (hu1:P.underlying t1=some (.slice e1))
 (hi:P.info? e=some i) (hz:i.zero=some z) {sa:Option Addr} {sLen sCap m:Nat} {ad:Option Addr} {c:Nat} {olds news:List Value}
 (hfo:(Builtin.firstCells i.size sLen (.slice sa sLen sCap)).run P w.drew= .ok olds.toArray w.drew)
 (hf:(Builtin.firstCells i.size m (.slice ad m c)).run P w.drew= .ok news.toArray w.drew)
 (hg:sCap<sLen+m) (hb:i.bytes<=4096) (hm:sLen+m<=1073741824):
 (Builtin.append_ tys rt #[.slice sa sLen sCap,.slice ad m c]).run P w=
   .ok (.slice (some ⟨w.heap.size,0,none⟩) (sLen+m) (grownCap w (sLen+m) sCap e))
    (w.drew.alloc (.cells (olds.toArray++news.toArray++Builtin.zeroCells z.cells (grownCap w (sLen+m) sCap e-(sLen+m))) e)):=by
 have hn: ¬(sLen+m<=sCap):=O;have h63': ¬(9223372036854775807<((sLen:Int)+(m:Int))):=O
 have hnb:(sLen+m)*i.bytes<=140737488355328:=by
  calc (sLen+m)*i.bytes<=1073741824*4096:=zt1 hm hb
   _<=140737488355328:=by decide
 have h48': ¬(281474976710656<Builtin.nextslicecap (sLen+m) sCap*i.bytes):=by
  have:=growslice_fits hg hnb;omega
 simp[Builtin.append_,h0,h1,run_underlying hu0,run_underlying hu1,Xu hi,qan hi,q5l hi hz,Builtin.lenOf,hn,h63',h48',Question.forced,hf,hfo,newRow,grownCap]
 grind
def q4n {t:Ty} {xs ys:List (Den t)} {b o:Nat} {news:List Value}
 (hx: ∀i (h:i<xs.length),RelI who w t xs[i] (cellAt w b (o+i*t.size)) 0)
 (hy: ∀i (h:i<ys.length),RelI who w t ys[i] (λj=>news[i*t.size+j]?) 0) (hl:news.length=ys.length*t.size)
 (hc: ∀j,j<news.length->w.cell? ⟨b,o+xs.length*t.size+j,none⟩=news[j]?):Elems who w t (xs++ys) b o:=by
 intro i hi;by_cases hlt:i<xs.length
 . grind
 . have hi':i-xs.length<ys.length:=by simp at hi;omega
   rw[zc1 O];refine RelI.ext' (λj hj=> ?_) (hy (i-xs.length) hi')
   simp only[cellAt,zF]
   have h1:(i-xs.length)*t.size+j<news.length:=by
    rw[hl];have:(i-xs.length+1)*t.size<=ys.length*t.size:=zN _ O;rw[zI1]at this;omega
   rw[<-hc _ h1];congr 2;have:i*t.size=xs.length*t.size+(i-xs.length)*t.size:=by rw[<-Nat.add_mul];congr 1;omega
   omega
def q2k (hT:TTok P T) {idx:Nat} {tys:Array TypeId} {rt t0 t1 e e1:TypeId} {et et1:Ty} {cells cells1:List ZC} {v0:AV} {t:Ty} {xs ys:List (Den t)} {cx cy:Value}
 (h0:tys[0]? =some t0) (h1:tys[1]? =some t1) (ht0:T.at t0=some {desc:= .slice e et,cells:=cells}) (ht1:T.at t1=some {desc:= .slice e1 et1,cells:=cells1})
 (hsz:et.size=t.size) {c0:Value} (S:Sim E D β who U ((v0,c0)::hd) a w) (hy:SlS who w t ys cy) (hlen:xs.length+ys.length<=1073741824) (hf: ∀k,k<16-> ¬D (fresh idx k))
 (hx:(cx= .slice none 0 0/\xs=[])\/ ∃n t' xs0,v0= .sl (.nm n) t' xs0/\ ∃b o cap0 arr el,cx= .slice (some ⟨b,o,none⟩) xs.length cap0/\w.heap[b]? =some (.cells arr el (0,0))/\o+cap0*t.size<=arr.size/\
   xs.length<=cap0/\who b=some n/\Elems who w t xs b o):
 ∃r w' β' who',(Builtin.append_ tys rt #[cx,cy]).run P w= .ok r w'/\Sim E (Dn D idx) β' who' U ((.sl (.nm (fresh idx 15)) t (xs++ys),r)::hd) a w':=by
 obtain⟨hu0,⟨ei,ez,he,hes,hbytes,_,hz,hzc⟩⟩:=(hT t0 _ ht0).desc;obtain⟨hu1,_⟩:=(hT t1 _ ht1).desc;have hss:ei.size=t.size:=by rw[hes,hsz]
 obtain⟨news,n1,n2,n3,n4,ad,cap,rfl⟩:=hy.news (P:=P) (e:=0);have hf15: ¬D (fresh idx 15):=hf 15 O;have hD: ∀x,D x->Dn D idx x:=λx h=> .inl h
 have hD15:Dn D idx (fresh idx 15):= .inr ⟨15,O,rfl⟩;have hzsz:ez.cells.size=ei.size:=by rw[<-Array.length_toList,hzc,Qj,hes]
 have grow: ∀(sa:Option Addr) (sCap:Nat) (olds:List Value),cx= .slice sa xs.length sCap->olds.length=xs.length*t.size->
  (∀w1:World,w1.heap=w.heap->(Builtin.firstCells t.size xs.length cx).run P w1= .ok olds.toArray w1)->
  (∀i (h:i<xs.length),RelI who w t xs[i] (λj=>olds[i*t.size+j]?) 0)->sCap<xs.length+ys.length->
  ∃r w' β' who',(Builtin.append_ tys rt #[cx,.slice ad ys.length cap]).run P w= .ok r w'/\Sim E (Dn D idx) β' who' U ((.sl (.nm (fresh idx 15)) t (xs++ys),r)::hd) a w':=by
  intro sa sCap olds hcx ho1 ho2 ho3 hg;subst hcx
  have hrun:=q29 (P:=P) (rt:=rt) (w:=w) h0 h1 hu0 hu1 he hz (sa:=sa) (sLen:=xs.length) (sCap:=sCap) (m:=ys.length) (ad:=ad) (c:=cap) (olds:=olds) (news:=news)
   (by rw[hss];exact ho2 w.drew rfl) (by rw[hss];exact n3 w.drew rfl) hg hbytes hlen
  have hcapge:xs.length+ys.length<=grownCap w (xs.length+ys.length) sCap e:=grownCap_ge w _ _ e
  let row:=olds.toArray++news.toArray++Builtin.zeroCells ez.cells (grownCap w (xs.length+ys.length) sCap e-(xs.length+ys.length))
  have hrs:row.size=grownCap w (xs.length+ys.length) sCap e*t.size:=by
   simp only[row,Array.size_append,List.size_toArray,ho1,n1,size_zeroCells,hzsz,hss,<-Nat.add_mul];congr 1;omega
  obtain⟨β',who',S'⟩:=Sim.make (idx:=idx) (v:= .sl (.nm (fresh idx 15)) t (xs++ys)) (c:= .slice (some ⟨w.heap.size,0,none⟩) (xs.length+ys.length) (grownCap w (xs.length+ys.length) sCap e))
   (c1:= .slice (some ⟨w.heap.size,0,none⟩) (xs.length+ys.length) (grownCap w (xs.length+ys.length) sCap e))
   (w':=w.drew.alloc (.cells row e)) (o:= .cells row e) S hf rfl
   (fun β' who' q1 q2 q3 q4 q5=>by
     have hnew:(w.drew.alloc (.cells row e)).heap[w.heap.size]? =some (.cells row e (0,0)):=heap_alloc_new w.drew _;have hold: ∀b',b'<w.heap.size->(w.drew.alloc (.cells row e)).heap[b']? =w.heap[b']? :=λb' hb'=>heap_alloc_old w.drew _ b' hb'
     have himm: ∀b',who b'=none->b'<w.heap.size->who' b'=none/\(w.drew.alloc (.cells row e)).heap[b']? =w.heap[b']? :=λb' hb' hlt=>⟨q4 b' hb' hlt,hold b' hlt⟩
     have hsz':w.heap.size<=(w.drew.alloc (.cells row e)).heap.size:=by simp
     have hrowget: ∀j,row[j]? =if j<olds.length then olds[j]? else if j<olds.length+news.length then news[j-olds.length]? else row[j]? :=by
      intro j;split
      . grind
      . grind
     refine⟨q2.symm,.inr ⟨w.heap.size,0,_,row,e,by simp;rfl,hnew,by rw[hrs];simp,by simp;exact hcapge,q3,?_⟩⟩
     refine q4n (news:=news) ?_ (λi hi=>RelI.keep himm hsz' (n4 i hi)) n1 ?_
     . intro i hi;refine RelI.ext' (λj hj=> ?_) (RelI.keep himm hsz' (ho3 i hi))
       have hlt:i*t.size+j<olds.length:=by
        rw[ho1];have:(i+1)*t.size<=xs.length*t.size:=zN _ O;rw[zI1]at this;omega
       simp only[cellAt,World.cell?,hnew,zF]
       grind
     . intro j hj;have hg1:=hrowget (olds.length+j);rw[iN' O,iP O]at hg1;simp only[World.cell?,hnew,zF]
       grind)
   (λn hn=> .inr ⟨15,O,by simpa [names,qj,qg]using hn⟩) (by simp[names,qj,qg])
   (λn hn=> .inr ⟨15,O,by simpa [Vs.occ,occA,occC]using hn⟩)
  exact⟨_,_,β',who',hrun,S'⟩
 have nilcase:cx= .slice none 0 0->xs=[]-> ∃r w' β' who',(Builtin.append_ tys rt #[cx,.slice ad ys.length cap]).run P w= .ok r w'/\Sim E (Dn D idx) β' who' U ((.sl (.nm (fresh idx 15)) t (xs++ys),r)::hd) a w':=by
  intro hc hxs;by_cases hy0:ys.length=0
  . have hys:ys=[]:=zb2 hy0;obtain⟨β',S'⟩:=S.newNil (t:=t) hf15 hD hD15 (Dn_fn S.dfn);refine⟨nilS,w,β',who,?_,by rw[hxs,hys];exact S'⟩
    have hn3:=n3 w rfl;have hnn:news=[]:=zb2 (by rw[n1,hy0];simp)
    rw[hc];rw[hy0,hnn]at hn3;simp[Builtin.append_,h0,h1,run_underlying hu0,run_underlying hu1,Xu he,Builtin.lenOf,hy0,hss,hn3,nilS]
  . refine grow none 0 [] (by rw[hc,hxs];rfl) (by simp[hxs]) (λw1 _=>by rw[hc];simp[Builtin.firstCells]) (λi h=>by simp[hxs]at h) O
 rcases hx with⟨hc,hxs⟩|⟨n,t',xs0,rfl,b,o,cap0,arr,el,rfl,g1,g2,g3,g4,g5⟩
 . exact nilcase hc hxs
 . . by_cases hroom:xs.length+ys.length<=cap0
     . have hxl:(xs.length+ys.length)*t.size<=cap0*t.size:=zN _ hroom;rw[zI1]at hxl;have hfit:o+xs.length*ei.size+news.length<=arr.size:=by rw[hss,n1];omega
       have hrun:=q3c (P:=P) (rt:=rt) h0 h1 hu0 hu1 he (o:=o) (sLen:=xs.length) (sCap:=cap0) g1 (by rw[hss];exact n3 w rfl) (by rw[hss];exact n1) n2 hroom hfit
       rw[hss]at hrun hfit
       obtain⟨β',who',S'⟩:=Sim.handWrite (m:=fresh idx 15) (ys:=xs++ys) (c':= .slice (some ⟨b,o,none⟩) (xs.length+ys.length) cap0) (row:=qx arr (o+xs.length*t.size) news) S hf15 hD hD15 (Dn_fn S.dfn) g4
        (fun β' who' q1 q2 q3=>by
          have hheap:=setRow_heap w b arr (qx arr (o+xs.length*t.size) news) el (0,0) g1;refine⟨q1.symm,.inr ⟨b,o,cap0,_,el,by simp,hheap,by rw[Qw hfit];exact g2,by simpa using hroom,q2 b g4,?_⟩⟩
          have himm: ∀b',who b'=none->b'<w.heap.size->who' b'=none/\(w.setRow b (qx arr (o+xs.length*t.size) news)).heap[b']? =w.heap[b']? :=λb' hb' _=>q3 b' hb'
          have hsz':w.heap.size<=(w.setRow b (qx arr (o+xs.length*t.size) news)).heap.size:=by simp
          refine q4n (news:=news) ?_ (λi hi=>RelI.keep himm hsz' (n4 i hi)) n1 ?_
          . intro i hi;refine RelI.ext' (g:=cellAt w b (o+i*t.size)) (λj hj=> ?_) (RelI.keep himm hsz' (g5 i hi))
            have:(i+1)*t.size<=xs.length*t.size:=zN _ O;rw[zI1]at this;simp only[cellAt,World.cell?,hheap,g1,zF];simp only[zf3,zY2,if_false];rw[Qp hfit,iN' O]
          . intro j hj;simp only[World.cell?,hheap];simp only[zf3,zY2,if_false];rw[Qp hfit,iP O];congr 1;omega)
       grind
     . have hs:SlS who w t xs (.slice (some ⟨b,o,none⟩) xs.length cap0):= .inr ⟨b,o,cap0,rfl,Yt g1,g3,g5⟩;obtain⟨olds,o1,o2,o3,o4,_⟩:=hs.news (P:=P) (e:=0)
       grind
def qbs (hT:TTok P T) {idx:Nat} {tys:Array TypeId} {rt:TypeId} {x y v:AV} {cx cy:Value} (h:Run CO (qah T idx tys x y) U v U' R W)
 (S:Sim E D β who U ((y,cy)::(x,cx)::hd) a w) (hf: ∀k,k<16-> ¬D (fresh idx k)):
 ∃r w' β' who',(Builtin.append_ tys rt #[cx,cy]).run P w= .ok r w'/\Sim E (Dn D idx) β' who' U' ((v,r)::hd) a w':=by
 have hy:Rel β who w y cy:=S.hrel _ mS;have S0:=S.drop rfl;unfold qah at h;split at h
 . rename_i t0 t1 h0 h1;split at h
   . rename_i e et cells e1 et1 cells1 ht0 ht1;obtain⟨z,U1,_,_,_,_,q1,q2⟩:=kA h;obtain⟨rfl,hs⟩:=Run.shown q1 S hy;obtain⟨t',ys⟩:=z;split at q2
     . rename_i n t xs;split at q2
       . rename_i hh;obtain⟨hh1,hh2⟩:=hh;simp only at hh1;subst hh1;obtain⟨_,U2,_,_,_,_,q3,q4⟩:=kA q2;obtain⟨hlen,rfl⟩:=kG q3;obtain⟨rfl,rfl⟩:=kB q4;exact q2k hT h0 h1 ht0 ht1 hh2 S0 hs hlen hf ((qiw (S0.hrel _ mS)).imp id λh=>⟨n,_,xs,rfl,h⟩)
       . exact(kC q2).elim
     . rename_i t xs;split at q2
       . rename_i hh;obtain⟨hh1,hh2⟩:=hh;simp only at hh1;subst hh1;obtain⟨_,U2,_,_,_,_,q3,q4⟩:=kA q2;obtain⟨hlen,rfl⟩:=kG q3;obtain⟨rfl,rfl⟩:=kB q4;have hnil:cx= .slice none 0 0/\xs=[]:=S0.hrel _ mS;obtain⟨hc,rfl⟩:=hnil;exact q2k hT h0 h1 ht0 ht1 hh2 S0 hs (by simpa using hlen) hf (.inl ⟨hc,rfl⟩)
       . exact(kC q2).elim
     . exact(kC q2).elim
   . exact(kC h).elim
 . exact(kC h).elim
def q7v (hT:TTok P T) {idx:Nat} {tys:Array TypeId} {rt:TypeId} {x y v:AV} {cx cy:Value} (h:Run CO (q49 T idx tys x y) U v U' R W)
 (S:Sim E D β who U ((y,cy)::(x,cx)::hd) a w) (hf: ∀k,k<16-> ¬D (fresh idx k)):
 ∃r w' β' who',(Builtin.append_ tys rt #[cx,cy]).run P w= .ok r w'/\Sim E (Dn D idx) β' who' U' ((v,r)::hd) a w':=by
 have hy:Rel β who w y cy:=S.hrel _ mS;have hx:Rel β who w x cx:=S.hrel _ (mT mS);have S0:=(S.drop rfl).drop rfl;unfold q49 at h;split at h
 . rename_i t0 t1 h0 h1;split at h
   . rename_i e et cells e1 et1 cells1 ht0 ht1;obtain⟨z,U1,_,_,_,_,q1,q2⟩:=kA h;obtain⟨rfl,hs⟩:=Run.shown q1 S hy;obtain⟨t',ys⟩:=z;split at q2
     . rename_i s n sz off len;obtain⟨av,U2,_,_,_,_,q3,q4⟩:=kA q2;obtain⟨hav,rfl⟩:=kD q3;split at q4
       . rename_i m t xs;split at q4
         . rename_i hh;obtain⟨hh1,hh2,hh3,hh4⟩:=hh;simp only at hh1;subst hh1 hh3 hh4;obtain⟨_,U3,_,_,_,_,q5,q6⟩:=kA q4;obtain⟨⟨hoff,hle,hpos,hlen⟩,rfl⟩:=kG q5;obtain⟨_,U4,_,_,_,_,q7,q8⟩:=kA q6;have:=kE q7;subst this;obtain⟨rfl,rfl⟩:=kB q8;subst hoff;have S1:=S0.takeAll s;have hr:=S0.rel s;rw[<-hav]at S1 hr;have hlen':len+ys.length<=1073741824:=hlen;refine q2k hT h0 h1 ht0 ht1 hh2 S1 hs (xs:=xs.take len) (ys:=ys) (by grind) hf ?_
           obtain⟨hb,hr⟩:=hr;rcases hr with⟨_,hnil⟩|⟨b,o,cap,arr,el,e1,e2,e3,e4,e5,e6⟩
           . subst hnil;simp at hpos
           . obtain⟨ad,L,cp,a',r1,r2,r3,r4,r5⟩:=hx;rw[<-hb,e1]at r1;injection r1 with g1 g2 g3
             subst g1 g2 g3;have ha':=r4 O;refine .inr ⟨m,t',xs,rfl,b,o,cap,arr,el,?_,e2,e3,by grind,e5,?_⟩
             . rw[r3,ha',zf,Nat.min_eq_left hle];simp[add_plain]
             . intro i hi;have hi':i<len:=by rw[zf]at hi;omega
               rw[zv2];exact e6 i O
         . exact(kC q4).elim
       . exact(kC q4).elim
     . exact(kC q2).elim
   . exact(kC h).elim
 . exact(kC h).elim
end
section
variable {P:Program} {CO:Qb} {T:TT} {E:Entry} {D:Nat->Prop} {β:Beta} {who:Who} {U U':Slots} {hd:List (AV×Value)} {a:Act} {w w':World} {R W:List Nat}
def Sim.perm {hd':List (AV×Value)} (S:Sim E D β who U hd a w) (hp:hd.Perm hd'):Sim E D β who U hd' a w:=
 {S with
  hrel:=λz hz=>S.hrel z (hp.mem_iff.2 hz)
  hnod:=((hp.flatMap_right _).nodup_iff).1 S.hnod
  hdis:=λz hz=>S.hdis z (hp.mem_iff.2 hz)
  hocc:=λz hz=>S.hocc z (hp.mem_iff.2 hz)}
def Run.rdParts: ∀{ps:List (Nat×Operand)} {vs:List (Nat×AV)} {U U':Slots} {R W:List Nat} {hd:List (AV×Value)},Run CO (rdParts T ps) U vs U' R W->Sim E D β who U hd a w->
 vs.map (·.1)=ps.map (·.1)/\ ∃cs:List Value,cs=ps.map (λp=>a.eval p.2)/\Sim E D β who U' ((vs.map (·.2)).zip cs++hd) a w
 |[],vs,U,U',R,W,hd,h,S=>by
  obtain⟨rfl,rfl⟩:=kB h;exact⟨rfl,[],rfl,S⟩
 |(f,x)::ps,vs,U,U',R,W,hd,h,S=>by
  obtain⟨v,U1,_,_,_,_,h1,h2⟩:=kA h;have S1:=Run.rdT h1 S;obtain⟨us,U2,_,_,_,_,h3,h4⟩:=kA h2;obtain⟨e1,cs,e2,S2⟩:=Run.rdParts h3 S1;obtain⟨rfl,rfl⟩:=kB h4;refine⟨by simp[e1],a.eval x::cs,by simp[e2],?_⟩
  refine S2.perm ?_;simp only[zy1,zg3,zl2];exact List.perm_middle
def Zp {v:AV} {c:Value} (hc:cellsOf v=[v]) (h:RelC β who w v c) (hd:v≠ .dead):
 CellsRel β who w (cellsOf v) c.cells/\names v=(cellsOf v).flatMap qg/\Vs.occ v=(cellsOf v).flatMap occC:=by
 have h1:=Jb h hd;obtain⟨_,r2,r3,_⟩:=q2i h;rw[Z5 h1,hc];refine⟨⟨rfl,λj hj=> ?_⟩,by simp[r2],by simp[r3]⟩
 have:j=0:=by simp at hj;exact hj
 subst this;exact h
def Sim.merge {cells:List AV} {arr:Array Value} {v:AV} {c:Value} {off:Nat} (S:Sim E D β who U ((.agg cells,.agg arr)::(v,c)::hd) a w)
 (hp:qnj v=true) (hl:off+(cellsOf v).length<=cells.length):
 c.cells.size=(cellsOf v).length/\
 Sim E D β who U ((.agg (Qc cells off (cellsOf v)),.agg (qx arr off c.cells.toList))::hd) a w:=by
 have hA:Rel β who w (.agg cells) (.agg arr):=S.hrel _ mS;have S0:=S.drop rfl;have hv:Rel β who w v c:=S0.hrel _ mS;obtain⟨arr',e,hA⟩:=hA;cases e
 have hcr:CellsRel β who w (cellsOf v) c.cells/\names v=(cellsOf v).flatMap qg/\Vs.occ v=(cellsOf v).flatMap occC:=by
  cases v with
  |dead=>cases hp
  |tup vs=>cases hp
  |bx o cs=>cases hp
  |agg cs=>obtain⟨arr2,rfl,h2⟩:=hv;exact⟨h2,rfl,rfl⟩
  |bool b=>exact Zp (v:= .bool b) rfl hv (by simp)
  |int k n=>exact Zp (v:= .int k n) rfl hv (by simp)
  |lit u=>exact Zp (v:= .lit u) rfl hv (by simp)
  |sl o t xs=>exact Zp (v:= .sl o t xs) rfl hv (by simp)
  |ref s n sz win=>exact Zp (v:= .ref s n sz win) rfl hv (by simp)
  |ptr s n sz i j=>exact Zp (v:= .ptr s n sz i j) rfl hv (by simp)
  |iptr g t xs i j=>exact Zp (v:= .iptr g t xs i j) rfl hv (by simp)
  |dp n t xs hh=>exact Zp (v:= .dp n t xs hh) rfl hv (by simp)
  |dr s n k=>exact Zp (v:= .dr s n k) rfl hv (by simp)
  |wn n t xs=>cases hp
 obtain⟨h1,h2,h3⟩:=hcr;have hsl:c.cells.toList.length=(cellsOf v).length:=by rw[zk1,h1.1]
 have hrow:off+c.cells.toList.length<=arr.size:=by rw[hsl,hA.1];exact hl
 refine⟨h1.1,?_⟩;have hno:=S.hnod;simp only[fC,names,qj]at hno;have hno1:=zQ.1 hno;have hno2:=zQ.1 hno1.2.1
 have hsub: ∀m∈(Qc cells off (cellsOf v)).flatMap qg,m∈cells.flatMap qg\/m∈names v:=by
  intro m hm;rw[Qr _ _ _ hl]at hm;simp only[zj1,zY]at hm;rcases hm with(hm|hm)|hm
  . grind
  . rw[h2];exact .inr hm
  . grind
 have hsubo: ∀m∈(Qc cells off (cellsOf v)).flatMap occC,m∈cells.flatMap occC\/m∈Vs.occ v:=by
  intro m hm;rw[Qr _ _ _ hl]at hm;simp only[zj1,zY]at hm;rcases hm with(hm|hm)|hm
  . grind
  . rw[h3];exact .inr hm
  . grind
 have hrel:Rel β who w (.agg (Qc cells off (cellsOf v))) (.agg (qx arr off c.cells.toList)):=by
  refine⟨_,rfl,by rw[Qw hrow,hA.1,Xg hl],λi hi=> ?_⟩
  have hi':i<cells.length:=by rw[<-Xg hl];exact hi
  rw[q0e hl hi',Array.getD_eq_getD_getElem?,Qp hrow];split
  . rename_i hc;rw[iP (by rw[hsl];exact hc)]
    have:=h1.2 (i-off) O;simp_all
  . rename_i hc;rw[iN' (by rw[hsl];exact hc),<-Array.getD_eq_getD_getElem?]
    exact hA.2 i hi'
 have hnd:((Qc cells off (cellsOf v)).flatMap qg).Nodup:=by
  rw[Qr _ _ _ hl];simp only[zj1]
  have hsplit:cells=cells.take off++(cells.drop off).take (cellsOf v).length++cells.drop (off+(cellsOf v).length):=by
   rw[zo1,<-List.drop_drop,zK1,zK1]
  have hnn:=hno1.1;rw[hsplit]at hnn;simp only[zj1,zo1]at hnn;have k1:=zQ.1 hnn;have k2:=zQ.1 k1.2.1
  have hvn: ∀m,m∈(cellsOf v).flatMap qg->m∉cells.flatMap qg:=by
   intro m hm h;rw[<-h2]at hm;exact hno1.2.2 m h m (by simp only[zY];exact .inl hm) rfl
  have t1: ∀m∈(cells.take off).flatMap qg,m∈cells.flatMap qg:=λm hm=>by
   grind
  have t2: ∀m∈(cells.drop (off+(cellsOf v).length)).flatMap qg,m∈cells.flatMap qg:=λm hm=>by
   grind
  refine zQ.2 ⟨zQ.2 ⟨k1.1,by rw[<-h2];exact hno2.1,?_⟩,k2.2.1,?_⟩
  . grind
  . grind
 have S1:=S0.drop rfl
 exact{S1 with
  hrel:=λy hy=>by rcases mC hy with rfl|hy;exact hrel;exact S1.hrel y hy
  hnod:=by
   simp only[fC];refine zQ.2 ⟨hnd,S1.hnod,?_⟩
   rintro x hx y hy rfl
   rcases hsub x hx with h|h
   . exact hno1.2.2 x h x (by simp only[zY];exact .inr hy) rfl
   . exact hno2.2.2 x h x hy rfl
  hdis:=λy hy=>by
   rcases mC hy with rfl|hy
   . intro m hm s hs;rcases hsub m hm with h|h
     . exact S.hdis _ mS m h s hs
     . exact S0.hdis _ mS m h s hs
   . exact S1.hdis y hy
  hocc:=λy hy=>by
   rcases mC hy with rfl|hy
   . intro m hm;rcases hsubo m hm with h|h
     . exact S.hocc _ mS m h
     . exact S0.hocc _ mS m h
   . exact S1.hocc y hy}
def q4x (off:Nat): ∀(l:List Value) (k:Nat) (cs:Array Value),off+k+l.length<=cs.size->
 (l.zipIdx k).foldl (λcs (x:Value×Nat)=>cs.setIfInBounds (off+x.2) x.1) cs=qx cs (off+k) l
 |[],k,cs,h=>by
  apply Array.ext';simp[qx]
 |x::l,k,cs,h=>by
  simp only[List.zipIdx_cons,List.foldl_cons];rw[q4x off l (k+1) _ (by simp at h⊢;omega)]
  apply Array.ext';have:=list_seg_step cs.toList (off+k) x l (by simp at h⊢;omega)
  simp only[qx,Array.toList_setIfInBounds];omega
def q67 {place:Nat->Option (Nat×Nat)} {cells:Array Value} {f off size:Nat} {v:Value} {rest:List (Nat×Value)} (hp:place f=some (off,size)) (hs:v.cells.size=size)
 (hl:off+v.cells.size<=cells.size):Instr.fill place cells ((f,v)::rest)=Instr.fill place (qx cells off v.cells.toList) rest:=by
 have hc: ¬((decide (v.cells.size≠size)||decide (off+v.cells.size>cells.size))=true):=by simp[hs];omega
 simp only[Instr.fill,hp];rw[iN' hc];congr 1;have:=q4x off v.cells.toList 0 cells (by simpa using hl)
 simp only[zL]at this;rw[<-this];rw[<-Array.foldl_toList];simp
def qgp {fs:List (Nat×Nat)} {place:Nat->Option (Nat×Nat)} (hpl: ∀f x,fs[f]? =some x->place f=some x): ∀{ps:List (Nat×AV)} {cs:List Value} {cells cells':List AV} {arr:Array Value} {hd:List (AV×Value)},
 qfw fs cells ps=some cells'->ps.length=cs.length->Sim E D β who U ((.agg cells,.agg arr)::((ps.map (·.2)).zip cs++hd)) a w->
 ∃arr',Instr.fill place arr ((ps.map (·.1)).zip cs)=some arr'/\Sim E D β who U ((.agg cells',.agg arr')::hd) a w
 |[],[],cells,cells',arr,hd,h,_,S=>by
  injection h with h
  subst h;exact⟨arr,rfl,S⟩
 |(f,v)::ps,c::cs,cells,cells',arr,hd,h,hlen,S=>by
  simp only[qfw]at h;split at h
  . rename_i off fsz hf;split at h
    . rename_i hc;obtain⟨h1,h2,h3⟩:=hc;simp only[zy1,zg3,zl2]at S;obtain⟨m1,S1⟩:=S.merge (off:=off) h3 (by rw[h1];exact h2)
      obtain⟨arr',e1,S2⟩:=qgp hpl h (by simpa using hlen) S1
      refine⟨arr',?_,S2⟩;simp only[zy1,zg3];have hA:Rel β who w (.agg cells) (.agg arr):=S.hrel _ mS;obtain⟨arr2,e2,hA⟩:=hA;cases e2;rw[q67 (hpl f _ hf) (by rw[m1,h1]) (by rw[m1,h1,hA.1];exact h2)]
      exact e1
    . cases h
  . cases h
 |[],_::_,_,_,_,_,_,hlen,_=>by simp at hlen
 |_::_,[],_,_,_,_,_,hlen,_=>by simp at hlen
def qeb {w:World} {fields:List Field} {fs:List (Nat×Nat)} (hl:fields.length=fs.length)
 (h: ∀j (h:j<fs.length),∃f,fields[j]? =some f/\f.offset=fs[j].1/\ ∃i,P.info? f.type=some i/\i.size=fs[j].2):
 ((fields.mapM λf=>do pure (f.offset,<-sizeOf f.type):Sem (List (Nat×Nat)))).run P w= .ok fs w:=by
 induction fields generalizing fs with
 |nil=>cases fs with
  |nil=>rfl
  |cons x xs=>simp at hl
 |cons f fields ih=>
  cases fs with
  |nil=>simp at hl
  |cons x xs=>
   obtain⟨f',e1,e2,i,e3,e4⟩:=h 0 (by simp)
   simp at e1;subst e1
   have:=ih (fs:=xs) (by simpa using hl) (λj hj=>by
    obtain⟨f',e1,e2⟩:=h (j+1) (by simpa using hj)
    grind)
   simp only[zj2]at e2 e4;rw[zE4];simp only[Sem.run_bind,Xu e3,Result.andThen_ok,Sem.run_pure,this,e2,e4]
def qe6 (hT:TTok P T) {t:Nat} {vs:List (Nat×AV)} {ps:Array (Nat×Operand)} {v:AV} (h:Run CO (qdm T t vs) U v U' R W)
 (hvs:vs.map (·.1)=ps.toList.map (·.1)) (S:Sim E D β who U ((vs.map (·.2)).zip (ps.toList.map λp=>a.eval p.2)++hd) a w):
 ∃r,(Instr.build t (ps.map λ(i,x)=>(i,a.eval x))).run P w= .ok r w/\Sim E D β who U' ((v,r)::hd) a w:=by
 unfold qdm at h;split at h
 . rename_i fs cells ht;obtain⟨zs,hz,h⟩:=Run.ofOpt' h;obtain⟨cs,hfl,h⟩:=Run.ofOpt' h;obtain⟨rfl,rfl⟩:=kB h;have hti:=hT t _ ht;obtain⟨fields,hu,hsz,hfs⟩:=hti.desc;obtain⟨z,g1,g2,g3,g4,g5,g6⟩:=qay (β:=β) (who:=who) (w:=w) hti hz;have S1:=S.take0 (v:= .agg zs) (c:= .agg z.cells) ⟨z.cells,rfl,g2⟩ g3 (λn hn=>by rw[g4]at hn;cases hn)
   have hlen:vs.length=ps.toList.length:=by have:=congrArg List.length hvs;simpa using this
   obtain⟨arr',e1,S2⟩:=qgp (place:=(fs.toArray[·]?)) (λf x hx=>by simpa using hx) hfl (by simpa using hlen) S1
   refine⟨.agg arr',?_,S2⟩
   have hpl:=qeb (P:=P) (w:=w) (fields:=fields.toList) (fs:=fs) (by simpa using hsz) (λj hj=>by
    grind)
   have hpl':((fields.mapM λf=>do pure (f.offset,<-sizeOf f.type):Sem (Array (Nat×Nat)))).run P w= .ok fs.toArray w:=by
    rw[Array.mapM_eq_mapM_toList];simp only[Sem.run_map,hpl,Result.andThen_ok]
   have hparts:(ps.map λ(i,x)=>(i,a.eval x)).toList=(vs.map (·.1)).zip (ps.toList.map λp=>a.eval p.2):=by
    rw[hvs,zm3];induction ps.toList with
    |nil=>rfl
    |cons p l ih=>simp[ih]
   unfold Instr.build;simp only[Sem.run_bind,g1,Result.andThen_ok,run_underlying hu,hpl',hparts,e1];rfl
 . exact(kC h).elim
end
section
variable {P:Program} {CO:Qb} {T:TT} {E:Entry} {D:Nat->Prop} {β:Beta} {who:Who} {U U':Slots} {hd:List (AV×Value)} {a:Act} {w w':World} {R W:List Nat}
def Sim.dropL: ∀{l:List (AV×Value)} {hd:List (AV×Value)},Sim E D β who U (l++hd) a w->Sim E D β who U hd a w
 |[],_,S=>S
 |_::l,_,S=>Sim.dropL (l:=l) (S.drop rfl)
def RowE (who:Who) (w:World) (t:Ty) (xs:List (Den t)) (arr:Array Value):Prop:=
 arr.size=xs.length*t.size/\ ∀i (h:i<xs.length),RelI who w t xs[i] (λj=>arr[i*t.size+j]?) 0
def q55 {t:Ty} {len:Nat}: ∀{ps:List (Nat×AV)} {cs:List Value} {xs xs':List (Den t)} {arr:Array Value},q5i t xs ps=some xs'->ps.length=cs.length->xs.length=len->
 (∀i (h:i<ps.length) (h':i<cs.length),Rel β who w ps[i].2 cs[i])->RowE who w t xs arr->
 ∃arr',Instr.fill (λi=>some (i*t.size,t.size)) arr ((ps.map (·.1)).zip cs)=some arr'/\RowE who w t xs' arr'/\xs'.length=len
 |[],[],xs,xs',arr,h,_,hl,_,hr=>by
  injection h with h
  subst h;exact⟨arr,rfl,hr,hl⟩
 |(i,v)::ps,c::cs,xs,xs',arr,h,hlen,hl,hv,hr=>by
  simp only[q5i]at h;split at h
  . rename_i hc;obtain⟨h1,h2,h3⟩:=hc;split at h
    . rename_i y hy;have hvc:Rel β who w v c:=hv 0 (by simp) (by simp)
      obtain⟨q1,q2,q3,q4⟩:=Yr hvc h3;have hcsz:c.cells.toList.length=t.size:=by rw[zk1,q1.1,h2]
      have hrange:i*t.size+t.size<=arr.size:=by
       rw[hr.1];have:(i+1)*t.size<=xs.length*t.size:=zN _ O;rw[zI1]at this;omega
      have hrow:i*t.size+c.cells.toList.length<=arr.size:=by rw[hcsz];exact hrange
      have hr':RowE who w t (xs.set i y) (qx arr (i*t.size) c.cells.toList):=by
       refine⟨by rw[Qw hrow,hr.1];simp,λi' hi'=> ?_⟩
       have hi'':i'<xs.length:=by simpa using hi'
       by_cases e:i'=i
       . subst e;rw[zp2];refine(q5b (β:=β) (who:=who) (w:=w) (f:=λk=>c.cells.getD k undef) hy ?_ ?_).1
         . intro k hk;exact q79 (zD1.1 h3 _ (zJ hk)) (q1.2 k hk)
         . intro k hk;simp only[zF];rw[Qp hrow,iP O];simp_all
       . rw[zy2 (λh=>e h.symm)]
         refine RelI.ext' (λk hk=> ?_) (hr.2 i' hi'')
         simp only[zF];rw[Qp hrow,iN']
         rintro ⟨g1,g2⟩
         rw[hcsz]at g2;rcases Nat.lt_or_gt_of_ne e with h|h
         . have:(i'+1)*t.size<=i*t.size:=zN _ h
           grind
         . have:(i+1)*t.size<=i'*t.size:=zN _ h
           grind
      obtain⟨arr',e1,e2,e3⟩:=q55 h (by simpa using hlen) (by simpa using hl) (λk hk hk'=>hv (k+1) (by simpa using hk) (by simpa using hk')) hr'
      refine⟨arr',?_,e2,e3⟩;simp only[zy1,zg3];rw[q67 (off:=i*t.size) (size:=t.size) rfl (by rw[q1.1,h2]) (by rw[q1.1,h2];exact hrange)]
      exact e1
    . cases h
  . cases h
 |[],_::_,_,_,_,_,hlen,_,_,_=>by simp at hlen
 |_::_,[],_,_,_,_,hlen,_,_,_=>by simp at hlen
def q5a (hT:TTok P T) {idx t len:Nat} {vs:List (Nat×AV)} {ps:Array (Nat×Operand)} {v:AV} (h:Run CO (q1g T idx t len vs) U v U' R W)
 (hvs:vs.map (·.1)=ps.toList.map (·.1)) (S:Sim E D β who U ((vs.map (·.2)).zip (ps.toList.map λp=>a.eval p.2)++hd) a w) (hf: ∀k,k<16-> ¬D (fresh idx k)):
 ∃r w' β' who',(Instr.buildSlice t len (ps.map λ(i,x)=>(i,a.eval x))).run P w= .ok r w'/\Sim E (Dn D idx) β' who' U' ((v,r)::hd) a w':=by
 unfold q1g at h;split at h
 . rename_i e ty cells ht;split at h
   . rename_i hlen;obtain⟨xs,hset,h⟩:=Run.ofOpt' h;obtain⟨rfl,rfl⟩:=kB h;obtain⟨hu,⟨ei,ez,he,hes,hb,hb0,hz,hzc⟩⟩:=(hT t _ ht).desc;have hlps:vs.length=ps.toList.length:=by have:=congrArg List.length hvs;simpa using this
     have hp:=Ty.size_pos ty;have hzsz:ez.cells.size=ty.size:=by rw[<-Array.length_toList,hzc,Qj]
     have hrow0:RowE who w ty (List.replicate len ty.zero) ((Array.range (len*ei.size)).map λi=>ez.cells[i%ez.cells.size]!):=by
      refine⟨by simp[hes],λi hi=> ?_⟩
      have hi':i<len:=by simpa using hi
      simp only[List.getElem_replicate];refine q3g ty _ 0 λj hj=> ?_
      have hj':j<ty.size:=by rw[<-Qj];exact hj
      have hlt:i*ty.size+j<len*ty.size:=by
       have:(i+1)*ty.size<=len*ty.size:=zN _ O;rw[zI1]at this;omega
      have hmod:(i*ty.size+j)%ty.size=j:=by rw[zW,zu3,zu hj']
      have hg:ez.cells[j]! =(Qk ty)[j]:=by
       have:j<ez.cells.size:=O;rw[getElem!_pos ez.cells j this];simp only[<-hzc,Array.getElem_toList]
      simp only[zF];simp[hlt,hzsz,hes,hmod,hg]
     obtain⟨arr',e1,e2,e3⟩:=q55 (β:=β) (len:=len) (cs:=ps.toList.map λp=>a.eval p.2) hset (by simpa using hlps) (by simp) (λi hi hi'=>by
      have hm:(vs[i].2,(ps.toList.map λp=>a.eval p.2)[i])∈(vs.map (·.2)).zip (ps.toList.map λp=>a.eval p.2):=by
       rw[List.mem_iff_getElem];exact⟨i,by simp at hi hi'⊢;omega,by simp⟩
      exact S.hrel _ (zB1 _ hm)) hrow0
     have hparts:(ps.map λ(i,x)=>(i,a.eval x)).toList=(vs.map (·.1)).zip (ps.toList.map λp=>a.eval p.2):=by
      rw[hvs,zm3];induction ps.toList with
      |nil=>rfl
      |cons p l ih=>simp[ih]
     have hbig: ¬(len*ei.size>2^24):=by rw[hes];have:(2:Nat)^24=16777216:=rfl;omega
     have hrun:(Instr.buildSlice t len (ps.map λ(i,x)=>(i,a.eval x))).run P w= .ok (.slice (some ⟨w.heap.size,0,none⟩) len len) (w.alloc (.cells arr' e)):=by
      unfold Instr.buildSlice;simp only[Sem.run_bind,run_underlying hu,Result.andThen_ok,Xu he,hbig,if_false]
      have hz1:len*ei.size=0->((Array.range (len*ei.size)).map λi=>(#[]:Array Value)[i%(#[]:Array Value).size]!)=(Array.range (len*ei.size)).map λi=>ez.cells[i%ez.cells.size]! :=by
       intro h0;rw[h0];apply Array.ext';simp
      have e1':Instr.fill (λi=>some (i*ei.size,ei.size)) ((Array.range (len*ei.size)).map λi=>ez.cells[i%ez.cells.size]!) ((vs.map (·.1)).zip (ps.toList.map λp=>a.eval p.2))=some arr':=by
       simp only[hes]at e1⊢;exact e1
      have hend:(newRow e arr'>>=λx=>pure (Value.slice (some x) len len):Sem Value).run P w= .ok (.slice (some ⟨w.heap.size,0,none⟩) len len) (w.alloc (.cells arr' e)):=by
       simp[newRow]
      split
      . grind
      . simp only[Sem.run_bind,q5l he hz,Sem.run_pure,Result.andThen_ok,hparts]
        grind
     obtain⟨β',who',S'⟩:=Sim.make (idx:=idx) (v:= .sl (.nm (fresh idx 15)) ty xs) (c:= .slice (some ⟨w.heap.size,0,none⟩) len len)
      (c1:= .slice (some ⟨w.heap.size,0,none⟩) len len) (w':=w.alloc (.cells arr' e)) (o:= .cells arr' e) (S.dropL.take_dead) hf rfl
      (fun β' who' q1 q2 q3 q4 _=>by
        have hnew:=heap_alloc_new w (.cells arr' e);refine⟨q2.symm,.inr ⟨w.heap.size,0,len,arr',e,by rw[e3],hnew,by rw[e2.1,e3];simp,O,q3,λi hi=> ?_⟩⟩
        refine RelI.ext' (λj hj=> ?_) (RelI.keep (λb' hb' hlt=>⟨q4 b' hb' hlt,heap_alloc_old w _ b' hlt⟩) (by simp) (e2.2 i hi))
        simp only[cellAt,World.cell?,hnew,zF];rfl)
      (λn hn=> .inr ⟨15,O,by simpa [names,qj,qg]using hn⟩) (by simp[names,qj,qg])
      (λn hn=> .inr ⟨15,O,by simpa [Vs.occ,occA,occC]using hn⟩)
     exact⟨_,_,β',who',hrun,S'⟩
   . exact(kC h).elim
 . exact(kC h).elim
end
section
variable {P:Program} {CO:Qb} {T:TT} {E:Entry} {D:Nat->Prop} {β:Beta} {who:Who} {U U':Slots} {hd:List (AV×Value)} {a:Act} {w w':World} {R W:List Nat}
def Sim.shift (S:Sim E D β who U hd a w) {β':Beta} {who':Who} {w':World} {X:List Nat} (hX:FN∉X) (hβ: ∀x,D x->β' x=β x)
 (ho: ∀b x,who b=some x->x∉X->who' b=some x/\w'.heap[b]? =w.heap[b]?) (hi: ∀b,who b=none->who' b=none/\w'.heap[b]? =w.heap[b]?)
 (hw: ∀b x,who' b=some x-> ∃y,who b=some y) (hsz:w'.heap.size=w.heap.size)
 (hs: ∀s x,x∈X->x∈names (U.get s)->Rel β' who' w' (U.get s) (a.tmps.getD s undef)) (hh: ∀z∈hd,∀x∈X,x∉names z.1)
 (h4:w'.os=w.os/\w'.output=w.output):Sim E D β' who' U hd a w':=by
 have h98:=hβ 98 S.d98
 have k: ∀av,(∀x∈Vs.occ av,D x)->(∀x∈X,x∉names av)->Keeps β who w β' who' w' (names av) (Vs.occ av):=λav h1 h2=>
  ⟨λx hx=>hβ x (h1 x hx),λx hx b hb=>ho b x hb (λh=>h2 x h hx),λb hb _=>hi b hb,O⟩
 refine S.world (λs=> ?_) (λz hz=>(S.hrel z hz).keep (k _ (S.hocc z hz) (hh z hz))) (λb x h=> ?_) O (λb hb h0=> ?_) (λb x h=> ?_) (λb hb=> ?_) h4 h98
 . by_cases e: ∃x∈X,x∈names (U.get s)
   . grind
   . exact(S.rel s).keep (k _ (S.occ s) (λx h1 h2=>e ⟨x,h1,h2⟩))
 . obtain⟨y,hy⟩:=hw b x h;have:=S.wsz b y hy;omega
 . cases hb':who b with
   |none=>exact(hi b hb').2
   |some x=>
    rcases h0 with h0|h0
    . rcases S.fr1 b x hb' with h|h
      . exact absurd h0 h
      . omega
    . have:=S.fr3 b h0;exact(ho b FN this hX).2
 . obtain⟨y,hy⟩:=hw b x h;exact S.fr1 b y hy
 . exact(ho b FN (S.fr3 b hb) hX).1
def Sim.addN {new:List (AV×Value)} (S:Sim E D β who U [] a w) (hr: ∀x∈new,Rel β who w x.1 x.2) (hnd:(new.flatMap λx=>names x.1).Nodup)
 (hdis: ∀x∈new,∀n∈names x.1,∀s,n∉names (U.get s)) (ho: ∀x∈new,∀n∈Vs.occ x.1,D n):Sim E D β who U new a w:=
 {S with hrel:=hr,hnod:=hnd,hdis:=hdis,hocc:=ho}
def Sim.recast (S:Sim E D β who U [] a w) {s:Nat} {v:AV} (h0:U.get s= .dead) (hr:Rel β who w v (a.tmps.getD s undef)) (hnd:(names v).Nodup)
 (hdis: ∀n∈names v,∀t,n∉names (U.get t)) (ho: ∀n∈Vs.occ v,D n):Sim E D β who (U.set s v) [] a w:=
 {S with
  rel:=λt=>by
   by_cases h:t=s
   . subst h;rw[qh];exact hr
   . rw[qc _ _ h];exact S.rel t
  nod:=λt=>by
   by_cases h:t=s
   . subst h;rw[qh];exact hnd
   . rw[qc _ _ h];exact S.nod t
  dis:=λt t' n h1 h2=>by
   by_cases h:t=s<;>by_cases h':t'=s
   . rw[h,h']
   . subst h;rw[qh]at h1;rw[qc _ _ h']at h2;grind
   . subst h';rw[qh]at h2;rw[qc _ _ h]at h1;grind
   . rw[qc _ _ h]at h1;rw[qc _ _ h']at h2;exact S.dis t t' n h1 h2
  occ:=λt n h1=>by
   by_cases h:t=s
   . subst h;rw[qh]at h1;exact ho n h1
   . rw[qc _ _ h]at h1;exact S.occ t n h1
  hdis:=λy hy=>by cases hy}
def qil {b:Nat} {o:Obj} (h:w.heap[b]? =some o):b<w.heap.size:=by
 grind
def qb6 (hT:TTok P T) {idx t:Nat} {l c v:AV} {cl cc:Value} (h:Run CO (qj8 T idx t l c) U v U' R W) (S:Sim E D β who U hd a w)
 (hl:Rel β who w l cl) (hc:Rel β who w c cc) (hf: ∀k,k<16-> ¬D (fresh idx k)):
 ∃r w' β' who',(Instr.makeSlice t cl cc).run P w= .ok r w'/\Sim E (Dn D idx) β' who' U' ((v,r)::hd) a w':=by
 unfold qj8 at h;split at h
 . rename_i e inn ty cells l c hti;have hl':cl= .int .i64 l:=hl;have hc':cc= .int .i64 c:=hc;subst hl' hc';obtain⟨_,U1,_,_,_,_,h1,h2⟩:=kA h;obtain⟨⟨m0,m1,m2⟩,rfl⟩:=kG h1;obtain⟨rfl,rfl⟩:=kB h2;obtain⟨hu,⟨ei,ez,he,hes,hb,hb0,hz,hzc⟩⟩:=(hT t _ hti).desc
   have hbb:(ei.bytes:Int)*c<=4096*1073741824:=by
    have h1:(ei.bytes:Int)<=4096:=O
    calc (ei.bytes:Int)*c<=(ei.bytes:Int)*1073741824:=Int.mul_le_mul_of_nonneg_left m2 O
     _<=4096*1073741824:=Int.mul_le_mul_of_nonneg_right h1 O
   have hrun:=run_make (P:=P) w t e ei ez hu he hz .i64 .i64 l c m0 m1 O O;have hrv:dpv (.tuple ((.slice (some ⟨w.heap.size,0,none⟩) l.toNat c.toNat::List.replicate l.toNat nilS).toArray)) 0= .slice (some ⟨w.heap.size,0,none⟩) l.toNat c.toNat:=rfl
   have hri: ∀i,i<l.toNat->dpv (.tuple ((.slice (some ⟨w.heap.size,0,none⟩) l.toNat c.toNat::List.replicate l.toNat nilS).toArray)) (i+1)=nilS:=by
    intro i hi;simp[dpv,Array.getD,hi]
   obtain⟨β',who',S'⟩:=Sim.make (idx:=idx) (v:= .dp (fresh idx 15) ty (List.replicate l.toNat []) none) (c:= .slice (some ⟨w.heap.size,0,none⟩) l.toNat c.toNat)
    (c1:= .tuple ((.slice (some ⟨w.heap.size,0,none⟩) l.toNat c.toNat::List.replicate l.toNat nilS).toArray))
    (w':=w.alloc (.cells (madeCells ez.cells (c.toNat*ei.size)) e)) S.take_dead hf rfl
    (fun β' who' g1 g2 g3 g4 _=>by
      refine⟨by rw[g2];rfl,.inr ⟨w.heap.size,0,c.toNat,madeCells ez.cells (c.toNat*ei.size),e,by simp,heap_alloc_new w _,by simp[size_madeCells,hes,Ty.size],by simp;omega,g3,?_,?_⟩⟩
      . intro i hi _;have hi':i<l.toNat:=by simpa using hi
        rw[g2,hri i hi'];refine⟨?_,.inl ⟨rfl,by simp⟩⟩
        have hE:Elems who' (w.alloc (.cells (madeCells ez.cells (c.toNat*ei.size)) e)) (.sl inn ty) (List.replicate l.toNat (Ty.zero (.sl inn ty))) w.heap.size 0:=
         q5r (zs:=ez.cells) (m:=c.toNat) (el:=e) hzc (by rw[<-hes];exact heap_alloc_new w _) O
        obtain⟨vv,q1,q2⟩:=hE i (by simpa using hi')
        have:vv=nilS:=by
         rcases q2 with⟨q2,_⟩|⟨b,o,cap,q2,q3,q4,q5,q6⟩
         . exact q2
         . exfalso
           have hcell:(w.alloc (.cells (madeCells ez.cells (c.toNat*ei.size)) e)).cell? ⟨w.heap.size,i,none⟩=some nilS:=by
            have hzs:ez.cells.toList=[nilS]:=hzc;have hz1:ez.cells= #[nilS]:=by apply Array.ext';simpa using hzs
            have hsz1:ei.size=1:=hes;have hlt:i<c.toNat:=O;have hh:=heap_alloc_new w (Obj.cells (madeCells ez.cells (c.toNat*ei.size)) e);simp only[World.cell?,hh];simp[madeCells,hz1,hsz1,hlt,Nat.mod_one]
           have hc2:cellAt (w.alloc (.cells (madeCells ez.cells (c.toNat*ei.size)) e)) w.heap.size (0+i*1) 0=some vv:=q1;simp only[cellAt,zF,zP1,zL]at hc2;rw[hcell]at hc2;injection hc2 with hc2
           rw[<-hc2]at q2;cases q2
        rw[this]at q1;simpa [cellAt,Ty.size]using q1
      . intro i j ai aj li lj ci cj hi _ _ _ q;have hi':i<l.toNat:=by simpa using hi
        rw[g2,hri i hi']at q;cases q)
    (λn hn=> .inr ⟨15,O,by simpa [names,qj,qg]using hn⟩) (by simp[names,qj,qg])
    (λn hn=> .inr ⟨15,O,by simpa [Vs.occ,occA,occC]using hn⟩)
   exact⟨_,_,β',who',hrun,S'⟩
 . exact(kC h).elim
def q7e {n:Nat}: ∀{cells:List AV} {k j:Nat},qg0 n cells k=some j->k<=j/\ ∃t xs hh,cells[j-k]? =some (.dp n t xs hh)
 |c::cs,k,j,h=>by
  unfold qg0 at h;split at h
  . rename_i e;cases h;refine⟨zH _,?_⟩;rw[zD3];cases c with
    |dp m t xs hh=>
     have:m=n:=Nat.eq_of_beq_eq_true e
     grind
    |_=>cases e
  . obtain⟨h1,h2⟩:=q7e h
    grind
def qnf (a d:AV):Option Nat->AV
 |none=>d
 |some j=>match a with
  | .bx o cells=> .bx o (cells.set j d)
  |a=>a
def q76 {n:Nat} {a d:AV} {loc:Option Nat} (h:dpAt n a=some (d,loc)):(∃t xs hh,d= .dp n t xs hh)/\((loc=none/\a=d)\/ ∃m cells j,loc=some j/\a= .bx (.nm m) cells/\ ∃hj:j<cells.length,cells[j]=d):=by
 unfold dpAt at h;split at h
 . grind
 . rename_i m cells;split at h
   . rename_i j hc;cases h;obtain⟨_,t,xs,hh,e⟩:=q7e hc
     grind
   . cases h
 . cases h
def q7a {n:Nat} {f:AV->Option AV} {a d b:AV} {loc:Option Nat} (h:dpAt n a=some (d,loc)) (hb:atLoc f loc a=some b): ∃d',f d=some d'/\b=qnf a d' loc:=by
 obtain⟨_,h1⟩:=q76 h;rcases h1 with⟨rfl,rfl⟩|⟨m,cells,j,rfl,rfl,hj,rfl⟩
 . exact⟨b,hb,rfl⟩
 . unfold atLoc at hb;have:cells.getD j .dead=cells[j]:=by rw[List.getD_eq_getElem?_getD,List.getElem?_eq_getElem hj];rfl
   simp only[this]at hb;split at hb
   . rename_i d' hd;cases hb;exact⟨d',hd,rfl⟩
   . cases hb
def qgw (U:Slots): ∃B,∀g,B<=g->U.get g= .dead:=by
 induction U with
 |nil=>exact⟨0,λ_ _=>rfl⟩
 |cons x r ih=>
  obtain⟨B,hB⟩:=ih;obtain⟨k,v⟩:=x;refine⟨B+k+1,λg hg=> ?_⟩
  simp only[Slots.get]
  grind
def qjf (l:List (Nat×Value)): ∃B,∀p∈l,p.1<B:=by
 induction l with
 |nil=>simp_all
 |cons x r ih=>
  obtain⟨B,hB⟩:=ih;refine⟨B+x.1+1,λp hp=> ?_⟩
  grind
def Xx {cells:List AV} {j:Nat} (hj:j<cells.length):(cells.set j .dead).flatMap qg=(cells.take j).flatMap qg++(cells.drop (j+1)).flatMap qg:=by
 rw[zv1,iP hj];simp[qg]
def q1b {cells:List AV} {j:Nat} {d:AV} (hj:j<cells.length):(cells.set j d).flatMap qg=(cells.take j).flatMap qg++(qg d++(cells.drop (j+1)).flatMap qg):=by
 rw[zv1,iP hj];simp
def qp8 {cells:List AV} {j:Nat} {d:AV} {n:Nat} (hj:j<cells.length) (h:n∈(cells.set j d).flatMap occC):n∈occC d\/n∈(cells.set j .dead).flatMap occC:=by
 rw[zv1,iP hj]at h⊢
 grind
def mem_set {cells:List AV} {j:Nat} {d:AV} {n:Nat} (hj:j<cells.length) (h:n∈(cells.set j d).flatMap qg):n∈qg d\/n∈(cells.set j .dead).flatMap qg:=by
 rw[q1b hj]at h;rw[Xx hj]
 grind
def qlw {arr:Array Value} {g:Nat} {v:Value} (hg:arr.size<=g) (s:Nat):(arr++Array.replicate (g-arr.size) undef++ #[v]).getD s undef=if s=g then v else arr.getD s undef:=by
 simp only[Array.getD_eq_getD_getElem?]
 grind
def Sim.openDp (S:Sim E D β who U hd a w) {s n:Nat} {loc:Option Nat} {t:Ty} {xs:List (List (Den t))} {hh:Option Nat} (h:dpAt n (U.get s)=some (.dp n t xs hh,loc)):
 ∃(E':Entry) (a':Act) (g:Nat) (U1:Slots),Sim E' D β who U1 hd a' w/\U1.get g= .dp n t xs hh/\
  ∀(D':Nat->Prop) β' who' w' hd' n' t' (xs':List (List (Den t'))) hh',(∀b,who b≠some n->w'.heap[b]? =w.heap[b]?)->
   Sim E' D' β' who' (U1.set g (.dp n' t' xs' hh')) hd' a' w'->Sim E D' β' who' (U.set s (qnf (U.get s) (.dp n' t' xs' hh') loc)) hd' a w':=by
 obtain⟨_,h1⟩:=q76 h;rcases h1 with⟨rfl,hav⟩|⟨m,cells,j,rfl,hav,hj,hcj⟩
 . exact⟨E,a,s,U,S,hav,λD' β' who' w' hd' n' t' xs' hh' _ S'=>S'⟩
 obtain⟨B1,hB1⟩:=qgw U;obtain⟨B2,hB2⟩:=qjf E.pins;obtain⟨g,hg1,hg2,hg3⟩: ∃g,B1<=g/\B2<=g/\a.tmps.size<=g:=⟨B1+B2+a.tmps.size,O,O,O⟩;have hgd:U.get g= .dead:=hB1 g hg1;have hsg:s≠g:=by rintro rfl;rw[hgd]at hav;cases hav
 have hrs:=S.rel s;rw[hav]at hrs;obtain⟨r0,b,arr,el,r1,r2,r3,r4⟩:=hrs;have hdr:RelC β who w cells[j] (arr.getD j undef):=r4.2 j hj;rw[hcj]at hdr;have hnd:=S.nod s;rw[hav]at hnd;have hnd':(m::cells.flatMap qg).Nodup:=hnd;have hcs:cells.set j cells[j]=cells:=List.set_getElem_self hj
 have hnm:m≠n:=by
  rintro rfl
  have:=(zA1.1 hnd').1;exact this (zG.2 ⟨cells[j],zJ hj,by rw[hcj];simp[qg]⟩)
 have hsub: ∀x,x∈(cells.set j .dead).flatMap qg->x∈cells.flatMap qg:=λx hx=>by
  rw[<-hcs,q1b hj];rw[Xx hj]at hx
  grind
 have hsubo: ∀x,x∈(cells.set j .dead).flatMap occC->x∈cells.flatMap occC:=λx hx=>by
  obtain⟨c,hc,hx⟩:=zG.1 hx;rcases List.mem_or_eq_of_mem_set hc with hc|rfl
  . grind
  . cases hx
 have hnot:n∉m::(cells.set j .dead).flatMap qg:=by
  intro hx;rcases mC hx with e|hx
  . exact hnm e.symm
  . have h2:=(zA1.1 hnd').2;rw[<-hcs,q1b hj,hcj]at h2;rw[Xx hj]at hx;obtain⟨q1,q2,q3⟩:=zQ.1 h2;rcases zY.1 hx with hx|hx
    . exact q3 n hx n (zB1 _ (by simp[qg])) rfl
    . obtain⟨p1,p2,p3⟩:=zQ.1 q2;exact p3 n (by simp[qg]) n hx rfl
 have hdeadnd:(m::(cells.set j .dead).flatMap qg).Nodup:=by
  refine zA1.2 ⟨λhx=>(zA1.1 hnd').1 (hsub m hx),?_⟩
  have h2:=(zA1.1 hnd').2;rw[<-hcs,q1b hj]at h2;rw[Xx hj];obtain⟨q1,q2,q3⟩:=zQ.1 h2;obtain⟨p1,p2,p3⟩:=zQ.1 q2;exact zQ.2 ⟨q1,p2,λx hx y hy=>q3 x hx y (zL1 _ hy)⟩
 let a':Act:={a with tmps:=a.tmps++Array.replicate (g-a.tmps.size) undef++ #[arr.getD j undef]}
 have ha': ∀s',a'.tmps.getD s' undef=if s'=g then arr.getD j undef else a.tmps.getD s' undef:=λs'=>qlw hg3 s'
 let U1:Slots:=(U.set s (.bx (.nm m) (cells.set j .dead))).set g (.dp n t xs hh)
 have gg:U1.get g= .dp n t xs hh:=qh ..;have gs:U1.get s= .bx (.nm m) (cells.set j .dead):=by simp only[U1];rw[qc _ _ hsg,qh]
 have go: ∀s',s'≠g->s'≠s->U1.get s'=U.get s':=λs' h1 h2=>by simp only[U1];rw[qc _ _ h1,qc _ _ h2]
 have nS: ∀x s',x∈names (U1.get s')->(s'=g->x=n)/\(s'≠g->x∈names (U.get s'))/\(s'≠g->x≠n):=by
  intro x s' hx;by_cases e:s'=g
  . subst e;rw[gg]at hx;refine⟨λ_=>by simpa [names,qj,qg]using hx,λh=>absurd rfl h,λh=>absurd rfl h⟩
  . by_cases e2:s'=s
    . subst e2;rw[gs]at hx;have hx:x∈m::(cells.set j .dead).flatMap qg:=hx;refine⟨λh=>absurd h e,λ_=> ?_,λ_ h=>hnot (h▸hx)⟩
      rw[hav];show x∈m::cells.flatMap qg
      grind
    . rw[go s' e e2]at hx;refine⟨λh=>absurd h e,λ_=>hx,λ_ h=>e2 ?_⟩
      subst h;refine S.dis s' s x hx ?_;rw[hav];exact mT (zG.2 ⟨cells[j],zJ hj,by rw[hcj];simp[qg]⟩)
 refine⟨{E with N:=g+1},a',g,U1,?_,gg,?_⟩
 . refine{S with rel:=λs'=> ?_,nod:=λs'=> ?_,dis:=λs1 s2 x h1 h2=> ?_,occ:=λs' x hx=> ?_,hdis:=λz hz x hx s' hs=> ?_,tsz:= ?_,pin:=λp hp=> ?_}
   . rw[ha'];by_cases e:s'=g
     . subst e;rw[gg,iP rfl];exact hdr
     . rw[iN' e];by_cases e2:s'=s
       . subst e2;rw[gs];refine⟨r0,b,arr,el,r1,r2,r3,by rw[zZ];exact r4.1,λi hi=> ?_⟩
         rw[List.getElem_set];split
         . trivial
         . exact r4.2 i (by simpa using hi)
       . rw[go s' e e2];exact S.rel s'
   . by_cases e:s'=g
     . subst e;rw[gg];simp[names,qj,qg]
     . by_cases e2:s'=s
       . subst e2;rw[gs];exact hdeadnd
       . rw[go s' e e2];exact S.nod s'
   . have q1:=nS x s1 h1;have q2:=nS x s2 h2;by_cases e1:s1=g<;>by_cases e2:s2=g
     . rw[e1,e2]
     . omega
     . omega
     . exact S.dis s1 s2 x (q1.2.1 e1) (q2.2.1 e2)
   . by_cases e:s'=g
     . subst e;rw[gg]at hx;have:x=n:=by simpa [Vs.occ,occA,occC]using hx
       subst this;refine S.occ s x ?_;rw[hav];exact mT (zG.2 ⟨cells[j],zJ hj,by rw[hcj];simp[occC]⟩)
     . by_cases e2:s'=s
       . subst e2;rw[gs]at hx;refine S.occ s' x ?_;rw[hav];have hx:x∈m::(cells.set j .dead).flatMap occC:=hx;show x∈m::cells.flatMap occC
         grind
       . rw[go s' e e2]at hx;exact S.occ s' x hx
   . have q:=nS x s' hs;by_cases e:s'=g
     . have:=q.1 e;subst this;refine S.hdis z hz x hx s ?_;rw[hav];exact mT (zG.2 ⟨cells[j],zJ hj,by rw[hcj];simp[qg]⟩)
     . exact S.hdis z hz x hx s' (q.2.1 e)
   . grind
   . rw[ha',iN' (by have:=hB2 p hp;omega)]
     exact S.pin p hp
 . intro D' β' who' w' hd' n' t' xs' hh' hw S';have gg': ∀d,(U1.set g d).get g=d:=λd=>qh ..
   have gs': ∀d,(U1.set g d).get s= .bx (.nm m) (cells.set j .dead):=λd=>by rw[qc _ _ hsg,gs]
   have go': ∀d s',s'≠g->s'≠s->(U1.set g d).get s'=U.get s':=λd s' h1 h2=>by rw[qc _ _ h1,go s' h1 h2]
   rw[hav];show Sim E D' β' who' (U.set s (.bx (.nm m) (cells.set j (.dp n' t' xs' hh')))) hd' a w';have hR:=S'.rel g;rw[gg',ha',iP rfl]at hR;have hs':=S'.rel s;rw[gs',ha',iN' hsg]at hs';obtain⟨s0,b',arr',el',s1,s2,s3,s4⟩:=hs';have hbb:b'=b:=by rw[r1]at s1;injection s1 with s1;injection s1 with s1;injection s1 with s1;exact s1.symm
   subst hbb;have hheap:=hw b' (by grind)
   rw[hheap,r2]at s2;injection s2 with s2
   injection s2 with s2 s2'
   subst s2 s2'
   have mN: ∀x s',x∈names ((U.set s (.bx (.nm m) (cells.set j (.dp n' t' xs' hh')))).get s')->s'≠g/\(x∈names ((U1.set g (.dp n' t' xs' hh')).get s')\/(s'=s/\x∈names ((U1.set g (.dp n' t' xs' hh')).get g))):=by
    intro x s' hx;by_cases e:s'=s
    . subst e;rw[qh]at hx;refine⟨hsg,?_⟩;have hx:x∈m::(cells.set j (.dp n' t' xs' hh')).flatMap qg:=hx;rcases mC hx with h|h
      . left;rw[gs'];exact h▸mS
      . rcases mem_set hj h with h|h
        . right;rw[gg'];exact⟨rfl,h⟩
        . left;rw[gs'];exact mT h
    . rw[qc _ _ e]at hx;have e2:s'≠g:=by rintro rfl;rw[hgd]at hx;cases hx
      grind
   refine{S' with rel:=λs'=> ?_,nod:=λs'=> ?_,dis:=λs1 s2 x h1 h2=> ?_,occ:=λs' x hx=> ?_,hdis:=λz hz x hx s' hs=> ?_,tsz:=S.tsz,pin:=S.pin}
   . by_cases e:s'=s
     . subst e;rw[qh];refine⟨s0,b',arr,el,s1,by rw[hheap];exact r2,s3,by rw[zZ];exact r4.1,λi hi=> ?_⟩
       rw[List.getElem_set];split
       . rename_i e;subst e;exact hR
       . rename_i e;have:=s4.2 i (by simpa using hi)
         grind
     . rw[qc _ _ e];by_cases e2:s'=g
       . subst e2;rw[hgd];trivial
       . have:=S'.rel s'
         grind
   . by_cases e:s'=s
     . subst e;rw[qh];show(m::(cells.set j (.dp n' t' xs' hh')).flatMap qg).Nodup;have hn':n'∉m::(cells.set j .dead).flatMap qg:=λhx=>hsg (S'.dis s' g n' (by rw[gs'];exact hx) (by rw[gg'];simp[names,qj,qg]))
       obtain⟨k1,k2⟩:=zA1.1 hdeadnd;rw[Xx hj]at k1 k2 hn';rw[q1b hj];simp only[qg,zl2,zI3];simp only[zU,zY,not_or]at k1 hn';obtain⟨q1,q2,q3⟩:=zQ.1 k2;refine zA1.2 ⟨?_,zQ.2 ⟨q1,zA1.2 ⟨hn'.2.2,q2⟩,λx hx y hy=> ?_⟩⟩
       . grind
       . grind
     . rw[qc _ _ e];by_cases e2:s'=g
       . subst e2;rw[hgd];exact zK2
       . have:=S'.nod s'
         grind
   . obtain⟨p1,p2⟩:=mN x s1 h1;obtain⟨q1,q2⟩:=mN x s2 h2;rcases p2 with p2|⟨p2,p3⟩<;>rcases q2 with q2|⟨q2,q3⟩
     . exact S'.dis s1 s2 x p2 q2
     . exact absurd (S'.dis s1 g x p2 q3) p1
     . exact absurd (S'.dis s2 g x q2 p3) q1
     . rw[p2,q2]
   . by_cases e:s'=s
     . subst e;rw[qh]at hx;have hx:x∈m::(cells.set j (.dp n' t' xs' hh')).flatMap occC:=hx;rcases mC hx with h|h
       . exact S'.occ s' x (by rw[gs'];exact h▸mS)
       . rcases qp8 hj h with h|h
         . exact S'.occ g x (by rw[gg'];exact h)
         . exact S'.occ s' x (by rw[gs'];exact mT h)
     . rw[qc _ _ e]at hx;by_cases e2:s'=g
       . subst e2;rw[hgd]at hx;cases hx
       . exact S'.occ s' x (by grind)
   . obtain⟨_,q2⟩:=mN x s' hs;rcases q2 with q2|⟨_,q3⟩
     . exact S'.hdis z hz x hx s' q2
     . exact S'.hdis z hz x hx g q3
def Sim.dpA (S:Sim E D β who U hd a w) {s n n':Nat} {loc:Option Nat} {t:Ty} {xs:List (List (Den t))} {hh:Option Nat} (h:dpAt n (U.get s)=some (.dp n' t xs hh,loc)):
 n'=n/\(∃v,RelDp β who w n t xs hh v)/\n∈names (U.get s):=by
 obtain⟨⟨t1,xs1,hh1,e⟩,h1⟩:=q76 h;cases e;refine⟨rfl,?_⟩;rcases h1 with⟨rfl,hav⟩|⟨m,cells,j,rfl,hav,hj,hcj⟩
 . have:=S.rel s;rw[hav]at this;exact⟨⟨_,this⟩,by rw[hav];simp[names,qj,qg]⟩
 . have hrs:=S.rel s;rw[hav]at hrs;obtain⟨r0,b,arr,el,r1,r2,r3,r4⟩:=hrs;have hdr:=r4.2 j hj;rw[hcj]at hdr;refine⟨⟨_,hdr⟩,?_⟩;rw[hav];exact mT (zG.2 ⟨cells[j],zJ hj,by rw[hcj];simp[qg]⟩)
def Run.dpLen {s n l:Nat} (h:Run CO (dpLen s n) U l U' R W):U'=U/\ ∃n' t xs hh loc,dpAt n (U.get s)=some (.dp n' t xs hh,loc)/\l=xs.length:=by
 unfold Vs.dpLen at h;obtain⟨b,U1,_,_,_,_,h1,h2⟩:=kA h;obtain⟨hb,rfl⟩:=kF h1;split at h2
 . rename_i s1 m;obtain⟨c,U2,_,_,_,_,h3,h4⟩:=kA h2;obtain⟨hc,rfl⟩:=kF h3;split at h4
   . rename_i l1 m1;split at h4
     . rename_i e;obtain⟨rfl,rfl⟩:=kB h4;subst e;refine⟨rfl,?_⟩;cases hav:U'.get s with
       |dp n' t xs hh=>
        rw[hav]at hb hc;simp only[vwf,alias,zS,AV.dr.injEq]at hb;simp[vwf,cellV]at hc;obtain⟨_,rfl,_⟩:=hb;exact⟨_,t,xs,hh,none,iP rfl,hc.1⟩
       |bx o cs=>rw[hav]at hb;cases o<;>simp[vwf,alias]at hb
       |tup vs=>rw[hav]at hb;simp[vwf,alias]at hb
       |_=>rw[hav]at hc;simp[vwf,cellV]at hc
     . exact(kC h4).elim
   . exact(kC h4).elim
 . obtain⟨av,U2,_,_,_,_,h3,h4⟩:=kA h2;obtain⟨hav,rfl⟩:=kD h3;split at h4
   . rename_i n' t xs hh loc hd;obtain⟨rfl,rfl⟩:=kB h4
     grind
   . exact(kC h4).elim
 . exact(kC h2).elim
def Run.holeAsk' {hh:Option Nat} {i:Nat} {u:Unit} (h:Run CO (qlg hh i) U u U' R W):(hh=none\/hh=some i)/\U'=U:=by
 cases hh with
 |none=>obtain⟨_,rfl⟩:=kB h;exact⟨.inl rfl,rfl⟩
 |some k=>obtain⟨rfl,rfl⟩:=kG h;exact⟨.inr rfl,rfl⟩
def Run.noHole' {hh:Option Nat} {i:Nat} {u:Unit} (h:Run CO (q6y hh i) U u U' R W):hh≠some i/\U'=U:=by
 cases hh with
 |none=>obtain⟨_,rfl⟩:=kB h;exact⟨by simp,rfl⟩
 |some k=>obtain⟨g,rfl⟩:=kG h;grind
def Sim.dp (S:Sim E D β who U hd a w) {s n:Nat} {t:Ty} {xs:List (List (Den t))} {hh:Option Nat} (h:U.get s= .dp n t xs hh):
 RelDp β who w n t xs hh (a.tmps.getD s undef):=by
 have:=S.rel s;rw[h]at this;exact this
def RelDp.base {n:Nat} {t:Ty} {xs:List (List (Den t))} {hh:Option Nat} {v:Value} (h:RelDp β who w n t xs hh v):
 ∃ad cap,dpv (β n) 0= .slice ad xs.length cap:=by
 obtain⟨h1,h2⟩:=h
 grind
def RelDp.baseP {n:Nat} {t:Ty} {xs:List (List (Den t))} {hh:Option Nat} {v:Value} (h:RelDp β who w n t xs hh v) (hx:xs≠[]):
 ∃b o cap,dpv (β n) 0= .slice (some ⟨b,o,none⟩) xs.length cap:=by
 obtain⟨h1,b,o,cap,arr,el,e1,_⟩:=h.pos (.inr hx)
 grind
def RelDp.row {n:Nat} {t:Ty} {xs:List (List (Den t))} {hh:Option Nat} {v:Value} (h:RelDp β who w n t xs hh v) {i:Nat} (hi:i<xs.length) (hn:hh≠some i):
 SlS who w t xs[i] (dpv (β n) (i+1)):=by
 obtain⟨h1,b,o,cap,arr,el,e1,e2,e3,e4,e5,e6,e7⟩:=h.pos (.inr (Qu hi));obtain⟨_,f⟩:=e6 i hi hn;rcases f with f|⟨bi,oi,ci,ar,l,k1,k2,k3,k4,k5,k6,k7⟩
 . exact .inl f
 . exact .inr ⟨bi,oi,ci,k1,qil k2,k4,k7⟩
def qeq (hT:TTok P T) {t s n:Nat} {k:DK} {tys:Array TypeId} {rt:TypeId} {v:AV} {c:Value} (h:Run CO (lenDr T t s n k) U v U' R W) (ht:tys[0]? =some t)
 (S:Sim E D β who U hd a w) (hx:DrVal (β n) k c):
 U'=U/\names v=[]/\occ v=[]/\ ∃r,(Builtin.len_ tys rt #[c]).run P w= .ok r w/\Rel β who w v r:=by
 unfold lenDr at h;split at h
 . rename_i e ty cells hti;have hu:=(hT t _ hti).desc.1;split at h
   . obtain⟨l,U1,_,_,_,_,h1,h2⟩:=kA h;obtain⟨rfl,n',ty',xs,hh,loc,hav,rfl⟩:=Run.dpLen h1;obtain⟨rfl,rfl⟩:=kB h2;obtain⟨_,⟨v0,hdp⟩,_⟩:=S.dpA hav;obtain⟨ad,cap,hb⟩:=hdp.base;obtain⟨hc,_⟩:=hx;rw[hb]at hc;subst hc;exact⟨rfl,rfl,rfl,.int .i64 xs.length,by simp[Builtin.len_,ht,run_underlying hu,goInt],rfl⟩
   . rename_i l;obtain⟨rfl,rfl⟩:=kB h;rcases hx.2 with⟨rfl,rfl⟩|⟨b,o,cap,rfl⟩<;>exact⟨rfl,rfl,rfl,_,by simp[Builtin.len_,ht,run_underlying hu,goInt],rfl⟩
   . rename_i i;obtain⟨av,U1,_,_,_,_,h1,h2⟩:=kA h;obtain⟨hav,rfl⟩:=kD h1;split at h2
     . rename_i m ty' xs hh loc hd;rw[hav]at hd;obtain⟨_,⟨v0,hdp⟩,_⟩:=S.dpA hd;obtain⟨_,U2,_,_,_,_,h3,h4⟩:=kA h2;obtain⟨hm,rfl⟩:=Run.noHole' h3;obtain⟨rfl,rfl⟩:=kB h4;obtain⟨hc,_,a0,L0,c0,q1,q2⟩:=hx;obtain⟨ad,cap,hb⟩:=hdp.base;rw[hb]at q1;injection q1 with _ q1 _
       subst q1;have hr:=hdp.row q2 hm;obtain⟨ad,cp,e⟩:=hr.shape;rw[e]at hc;subst hc;have hx:xs.getD i []=xs[i]:=by simp[List.getD,List.getElem?_eq_getElem q2]
       exact⟨rfl,rfl,rfl,.int .i64 xs[i].length,by simp[Builtin.len_,ht,run_underlying hu,goInt],by rw[hx];rfl⟩
     . exact(kC h2).elim
   . exact(kC h).elim
 . exact(kC h).elim
def q97 (hT:TTok P T) {t s n:Nat} {k:DK} {i v:AV} {c ci:Value} (h:Run CO (qdc T t s n k i) U v U' R W) (S:Sim E D β who U hd a w)
 (hx:DrVal (β n) k c) (hi:Rel β who w i ci):
 U'=U/\names v=[]/\(∀m∈occ v,m=n)/\ ∃r,(Instr.indexAt t c ci).run P w= .ok r w/\Rel β who w v r:=by
 unfold qdc at h;split at h
 . rename_i e ety cells kk i' hti;have hci:ci= .int kk i':=hi;subst hci;obtain⟨hu,⟨ei,ez,he,hes,_⟩⟩:=(hT t _ hti).desc;split at h
   . split at h
     . rename_i hsz;obtain⟨l,U1,_,_,_,_,h1,h2⟩:=kA h;obtain⟨rfl,n',ty',xs,hh,loc,hav,rfl⟩:=Run.dpLen h1;obtain⟨_,U2,_,_,_,_,h3,h4⟩:=kA h2;obtain⟨⟨m0,m1⟩,rfl⟩:=kG h3;obtain⟨rfl,rfl⟩:=kB h4;obtain⟨_,⟨v0,hdp⟩,_⟩:=S.dpA hav;obtain⟨b,o,cap,hb⟩:=hdp.baseP (by grind)
       obtain⟨hc,_⟩:=hx;rw[hb]at hc;subst hc;refine⟨rfl,rfl,λm hm=>by simpa [occ,occA,occC]using hm,_,run_indexAt hu he b o xs.length cap kk i' m0 m1 w,b,o,xs.length,cap,hb,O,?_⟩
       rw[hes,hsz,zP1]
     . exact(kC h).elim
   . rename_i l;split at h
     . rename_i hsz;obtain⟨_,U2,_,_,_,_,h3,h4⟩:=kA h;obtain⟨⟨m0,m1⟩,rfl⟩:=kG h3;obtain⟨rfl,rfl⟩:=kB h4;obtain⟨hc,h6⟩:=hx;rcases h6 with⟨_,h6⟩|⟨b,o,cap,hb⟩
       . omega
       . have hb':=hb;rw[hc]at hb;subst hb';refine⟨rfl,rfl,λm hm=>by simpa [occ,occA,occC]using hm,_,run_indexAt hu he b o l cap kk i' m0 m1 w,b,o,l,cap,hb,O,?_⟩
         rw[hes,hsz,zP1]
     . exact(kC h).elim
   . rename_i r;obtain⟨av,U1,_,_,_,_,h1,h2⟩:=kA h;obtain⟨hav,rfl⟩:=kD h1;split at h2
     . rename_i m ty' xs hh loc hd;rw[hav]at hd;obtain⟨_,⟨v0,hdp⟩,_⟩:=S.dpA hd;split at h2
       . rename_i hsz;obtain⟨_,U2,_,_,_,_,h3,h4⟩:=kA h2;obtain⟨hm,rfl⟩:=Run.noHole' h3;obtain⟨_,U3,_,_,_,_,h5,h6⟩:=kA h4;obtain⟨⟨m0,m1⟩,rfl⟩:=kG h5;obtain⟨rfl,rfl⟩:=kB h6;obtain⟨hc,_,a0,L0,c0,q1,q2⟩:=hx;obtain⟨ad,cap,hb⟩:=hdp.base;have q1':=q1;rw[hb]at q1;injection q1 with _ q1 _
         subst q1;have hr:=hdp.row q2 hm;have hxr:xs.getD r []=xs[r]:=by simp[List.getD,List.getElem?_eq_getElem q2]
         rw[hxr]at m1;rcases hr with⟨_,hn⟩|⟨bi,oi,ci',k1,k2,k4,k7⟩
         . grind
         . rw[k1]at hc;subst hc;refine⟨rfl,rfl,λm hm=>by simpa [occ,occA,occC]using hm,_,run_indexAt hu he bi oi xs[r].length ci' kk i' m0 m1 w,bi,oi,xs[r].length,ci',k1,O,?_,_,_,_,q1',q2⟩
           rw[hes,hsz,zL]
       . exact(kC h2).elim
     . exact(kC h2).elim
   . exact(kC h).elim
 . exact(kC h).elim
end
section
variable {P:Program} {CO:Qb} {T:TT} {E:Entry} {D:Nat->Prop} {β:Beta} {who:Who} {U U':Slots} {hd:List (AV×Value)} {a:Act} {w w':World} {R W:List Nat}
def InnO.one {n:Nat} {t:Ty} {ys:List (Den t)} {v:Value} {b:Nat} (h:InnO who w n t ys v b): ∃ad l c,v= .slice ad l c:=by
 rcases h with⟨rfl,_⟩|⟨_,_,_,_,_,rfl,_⟩<;>exact⟨_,_,_,rfl⟩
def Sim.takeDp (S:Sim E D β who U [] a w) {idx s n i:Nat} {t:Ty} {xs:List (List (Den t))} (hav:U.get s= .dp n t xs none) (hi:i<xs.length)
 (hf: ∀k,k<16-> ¬D (fresh idx k)):
 ∃β' who',Sim E (Dn D idx) β' who' (U.set s (.dp n t xs (some i))) [(.sl (.nm (fresh idx 15)) t xs[i],dpv (β n) (i+1))] a w:=by
 classical
 obtain⟨h1,b,o,cap,arr,el,e1,e2,e3,e4,e5,e6,e7⟩:=(S.dp hav).pos (.inr (Qu hi));obtain⟨f1,f2⟩:=e6 i hi (by simp)
 obtain⟨m,rfl⟩: ∃m,m=fresh idx 15:=⟨_,rfl⟩;have hmD: ¬D (fresh idx 15):=hf 15 O;have hDn:D n:=S.occ s n (by rw[hav];simp[Vs.occ,occA,occC])
 have hmn:fresh idx 15≠n:=λe=>hmD (e▸hDn)
 let G:Nat->Prop:=λb'=> ∃oi li ci,dpv (β n) (i+1)= .slice (some ⟨b',oi,none⟩) li ci
 have hG: ∀b',G b'->who b'=some n/\b'≠b:=by
  rintro b' ⟨oi,li,ci,hg⟩
  rcases f2 with⟨q,_⟩|⟨bi,oi',ci',ar,l,k1,k2,k3,k4,k5,k6,k7⟩
  . rw[q]at hg;cases hg
  . grind
 let β':Beta:=λx=>if x=fresh idx 15 then dpv (β n) (i+1)else β x
 let who':Who:=λb'=>if G b' then some (fresh idx 15)else who b'
 have hβ: ∀x,D x->β' x=β x:=λx hx=>by grind
 have hnone: ∀b',who b'=none->who' b'=none:=λb' hb=>by
  grind
 have hE: ∀(ys:List (Den t)) b o,Elems who w t ys b o->Elems who' w t ys b o:=λys b o he=>
  he.keep (λb' hb _=>⟨hnone b' hb,rfl⟩) (zH _) rfl
 have hown: ∀b',who b'=some n-> ¬G b'->who' b'=some n:=λb' hb g=>by grind
 have hnewdp:RelDp β' who' w n t xs (some i) (a.tmps.getD s undef):=by
  refine⟨by rw[hβ n hDn];exact h1,.inr ⟨b,o,cap,arr,el,e1,e2,e3,e4,hown b e5 (λg=>(hG b g).2 rfl),λj hj hne=> ?_,?_⟩⟩
  . rw[hβ n hDn];obtain⟨g1,g2⟩:=e6 j hj (by simp)
    refine⟨g1,?_⟩;rcases g2 with g2|⟨bi,oi,ci,ar,l,k1,k2,k3,k4,k5,k6,k7⟩
    . exact .inl g2
    . refine .inr ⟨bi,oi,ci,ar,l,k1,k2,k3,k4,hown bi k5 ?_,k6,hE _ _ _ k7⟩
      grind
  . grind
 have hweak:RelDp β who w n t xs (some i) (a.tmps.getD s undef):=
  ⟨h1,.inr ⟨b,o,cap,arr,el,e1,e2,e3,e4,e5,λj hj _=>e6 j hj (by simp),λj1 j2 ai aj li lj ci cj q1 q2 _ _=>e7 j1 j2 ai aj li lj ci cj q1 q2 (by simp) (by simp)⟩⟩
 have S1:=S.abs (s:=s) (v:= .dp n t xs (some i)) hweak (λx hx=>by rw[hav];exact hx) (by simp[names,qj,qg])
  (λx hx=>S.occ s x (by rw[hav];exact hx))
 have S2:=S1.shift (β':=β') (who':=who') (w':=w) (X:=[n]) (λh=>S.dfn (by grind)) hβ
  (fun b' x hb hx=>⟨by
    simp only[who'];rw[iN'];exact hb;intro g;grind,rfl⟩)
  (fun b' hb=>⟨hnone b' hb,rfl⟩) (λb' x h=>by
    grind) rfl (λs' x hx hs=>by
    rw[zA]at hx;subst hx;by_cases e:s'=s
    . subst e;rw[qh];exact hnewdp
    . rw[qc _ _ e]at hs;exact absurd (S.dis s' s x hs (by rw[hav];simp[names,qj,qg])) e) (λz hz=>by cases hz) ⟨rfl,rfl⟩
 have S3:=S2.mono (D':=Dn D idx) (λn h=> .inl h) (Dn_fn S2.dfn)
 refine⟨β',who',S3.addN (λx hx=> ?_) (by simp[names,qj,qg]) (λx hx y hy s' hs=> ?_) (λx hx y hy=> ?_)⟩
 . rw[zA]at hx;subst hx;refine⟨by simp[β'],?_⟩
   rcases f2 with⟨q1,q2⟩|⟨bi,oi,ci,ar,l,k1,k2,k3,k4,k5,k6,k7⟩
   . exact .inl ⟨q1,q2⟩
   . refine .inr ⟨bi,oi,ci,ar,l,k1,k2,k3,k4,?_,hE _ _ _ k7⟩;simp only[who'];rw[iP ⟨_,_,_,k1⟩]
 . rw[zA]at hx;subst hx;simp only[names,qj,qg,zA]at hy;subst hy;exact hmD (S1.occ s' _ (ql hs))
 . rw[zA]at hx;subst hx;simp only[Vs.occ,occA,occC,zA]at hy;subst hy;exact .inr ⟨15,O,rfl⟩
def qb9 (hT:TTok P T) {idx mode t s n:Nat} {k:DK} {v:AV} {c:Value} (h:Run CO (qi3 T idx mode t s n k) U v U' R W) (S:Sim E D β who U [] a w)
 (hx:DrVal (β n) k c) (hD:D n) (hf: ∀k,k<16-> ¬D (fresh idx k)):
 ∃r β' who',(Instr.loadAt t c).run P w= .ok r w/\Sim E (Dn D idx) β' who' U' [(v,r)] a w:=by
 have grow: ∀{v r},Sim E D β who U' [(v,r)] a w->Sim E (Dn D idx) β who U' [(v,r)] a w:=λS=>S.mono (λn h=> .inl h) (Dn_fn S.dfn)
 unfold qi3 at h;split at h
 . exact(kC h).elim
 . rename_i ti hti';have hti:=hT t _ hti';split at h
   . rename_i i;obtain⟨b,o,L,cap,hb,hi,rfl⟩:=hx;split at h
     . rename_i e et c0
       have hrun: ∀{ty:Ty} {xs:List (List (Den ty))} {hh:Option Nat} {v0:Value},RelDp β who w n ty xs hh v0->hh≠some i->
        i<xs.length/\(Instr.loadAt t (.pointer (some ⟨b,o+i,none⟩))).run P w= .ok (dpv (β n) (i+1)) w:=by
        intro ty xs hh v0 hdp hne;obtain⟨h1,b',o',cap',arr,el,e1,e2,e3,e4,e5,e6,e7⟩:=hdp.pos (.inl (by rw[hdp.1,hb];simp))
        rw[h1,hb]at e1;injection e1 with q1 q2 q3
        injection q1 with q1;injection q1 with q1 q1' _
        subst q1 q1' q2
        have:=Yp hti (b:=b) (o:=o+i) (f:=λ_=>dpv (β n) (i+1)) w (λj hj=>by
         have hj0:j=0:=by simp at hj;exact hj
         subst hj0;exact(e6 i hi hne).1) (λ_=>rfl)
        exact⟨hi,by simpa [Qg]using this⟩
       split at h
       . obtain⟨av,U1,_,_,_,_,h1,h2⟩:=kA h;obtain⟨hav,rfl⟩:=kD h1;split at h2
         . rename_i n' ty xs loc hd;rw[hav]at hd;obtain⟨rfl,⟨v0,hdp⟩,_⟩:=S.dpA hd;split at h2
           . rename_i hsz;obtain⟨_,U2,_,_,_,_,h3,h4⟩:=kA h2;obtain⟨v',hk,rfl⟩:=kH h3;obtain⟨rfl,rfl⟩:=kB h4;obtain⟨d',hd',rfl⟩:=q7a hd hk;cases hd';obtain⟨hil,hr⟩:=hrun hdp (by simp)
             obtain⟨E',a',g,U1,S1,hg,hcl⟩:=S.openDp hd;obtain⟨β',who',S'⟩:=S1.takeDp (idx:=idx) hg hil hf;have hx:xs.getD i []=xs[i]:=by simp[List.getD,List.getElem?_eq_getElem hil]
             rw[hx];exact⟨_,β',who',hr,hcl _ _ _ _ _ _ _ _ _ (λ_ _=>rfl) S'⟩
           . exact(kC h2).elim
         . exact(kC h2).elim
       . obtain⟨av,U1,_,_,_,_,h1,h2⟩:=kA h;obtain⟨hav,rfl⟩:=kD h1;split at h2
         . rename_i n' ty xs hh loc hd;rw[hav]at hd;obtain⟨rfl,⟨v0,hdp⟩,_⟩:=S.dpA hd;obtain⟨_,U2,_,_,_,_,h3,h4⟩:=kA h2;obtain⟨hm,rfl⟩:=Run.noHole' h3;obtain⟨rfl,rfl⟩:=kB h4;obtain⟨hil,hr⟩:=hrun hdp hm
           refine⟨_,β,who,hr,grow (S.take0 (v:= .dr s n' (.row i)) (c:=dpv (β n') (i+1)) ⟨rfl,?_,_,_,_,hb,hi⟩ rfl (λx hx=>by
            simp only[Vs.occ,occA,occC,zA]at hx;subst hx;exact hD))⟩
           obtain⟨ad,cp,e⟩:=(hdp.row hil hm).shape;exact⟨_,_,_,e⟩
         . exact(kC h2).elim
     . exact(kC h).elim
   . rename_i sz i j c0;obtain⟨av,U1,_,_,_,_,h1,h2⟩:=kA h;obtain⟨hav,rfl⟩:=kD h1;split at h2
     . rename_i n' ty xs hh loc hd;rw[hav]at hd;obtain⟨rfl,⟨v0,hdp⟩,_⟩:=S.dpA hd;split at h2
       . rename_i hsz;subst hsz;obtain⟨_,U2,_,_,_,_,h3,h4⟩:=kA h2;obtain⟨hm,rfl⟩:=Run.noHole' h3;obtain⟨hp,rfl⟩:=Run.mopt' h4;obtain⟨b,o,L,cap,hb,hj,rfl,a0,L0,c0',hb0,hi⟩:=hx;obtain⟨ad1,cap1,hb1⟩:=hdp.base;rw[hb1]at hb0;injection hb0 with _ q1 _
         subst q1;have hr:=hdp.row hi hm;have hxi:xs.getD i []=xs[i]:=by simp[List.getD,List.getElem?_eq_getElem hi]
         rw[hxi]at hp;rcases hr with⟨k1,_⟩|⟨bi,oi,ci,k1,k2,k4,k7⟩
         . rw[k1]at hb;cases hb
         . rw[k1]at hb;injection hb with q1 q2 q3
           injection q1 with q1;injection q1 with q1 q1' _
           subst q1 q1' q2;obtain⟨r,g1,g2,g3,g4⟩:=q7h (β:=β) hti k7 hj hp;exact⟨r,β,who,g1,grow (S.take0 g2 g3 (λn hn=>by rw[g4]at hn;cases hn))⟩
       . exact(kC h2).elim
     . exact(kC h2).elim
   . exact(kC h).elim
def Sim.fillDp {idx s n k i:Nat} {t:Ty} {xs:List (List (Den t))} {ys:List (Den t)} {hh:Option Nat} {cv:Value} (S:Sim E D β who U [(.sl (.nm k) t ys,cv)] a w)
 (hav:U.get s= .dp n t xs hh) (hi:i<xs.length) (hhi:hh=none\/hh=some i) (hf: ∀k,k<16-> ¬D (fresh idx k)):
 ∃b o L cap arr el,dpv (β n) 0= .slice (some ⟨b,o,none⟩) L cap/\w.heap[b]? =some (.cells arr el (0,0))/\o+i+1<=arr.size/\who b=some n/\
 ∃β' who',Sim E (Dn D idx) β' who' (U.set s (.dp (fresh idx 15) t (xs.set i ys) none)) [] a (w.setRow b (qx arr (o+i) [cv])):=by
 classical
 obtain⟨h1,b,o,cap,arr,el,e1,e2,e3,e4,e5,e6,e7⟩:=(S.dp hav).pos (.inr (Qu hi));have hmD: ¬D (fresh idx 15):=hf 15 O;have hDn:D n:=S.occ s n (by rw[hav];simp[Vs.occ,occA,occC])
 have hDk:D k:=S.hocc _ mS k (by simp[Vs.occ,occA,occC])
 have hkn:k≠n:=by
  rintro rfl
  exact S.hdis _ mS k (by simp[names,qj,qg]) s (by rw[hav];simp[names,qj,qg])
 have hvR:RelN β who w k t ys cv:=S.hrel _ mS;refine⟨b,o,xs.length,cap,arr,el,by rw[<-h1];exact e1,e2,O,e5,?_⟩
 let base:Value:= .tuple ((dpv (β n) 0::(List.range xs.length).map λj=>if j=i then cv else dpv (β n) (j+1)).toArray)
 have hb0:dpv base 0=dpv (β n) 0:=rfl
 have hbj: ∀j,j<xs.length->dpv base (j+1)=if j=i then cv else dpv (β n) (j+1):=by
  intro j hj;simp[base,dpv,Array.getD,hj]
 let β':Beta:=λx=>if x=fresh idx 15 then base else β x
 let who':Who:=λb'=>if who b'=some n\/who b'=some k then some (fresh idx 15)else who b'
 obtain⟨w',hw'⟩: ∃w',w'=w.setRow b (qx arr (o+i) [cv]):=⟨_,rfl⟩;rw[<-hw'];have hfit:o+i+[cv].length<=arr.size:=by simp;omega
 have hheapb:w'.heap[b]? =some (.cells (qx arr (o+i) [cv]) el (0,0)):=by rw[hw'];exact setRow_heap w b arr _ el _ e2
 have hoth: ∀b',b'≠b->w'.heap[b']? =w.heap[b']? :=λb' hb=>by rw[hw'];exact setRow_other w b b' _ hb
 have hβ: ∀x,D x->β' x=β x:=λx hx=>by grind
 have hβm:β' (fresh idx 15)=base:=by simp[β']
 have hnone: ∀b',who b'=none->who' b'=none/\w'.heap[b']? =w.heap[b']? :=λb' hb=>by
  grind
 have hsz:w'.heap.size=w.heap.size:=by rw[hw'];simp
 have hE: ∀(ys:List (Den t)) b' o,b'≠b->Elems who w t ys b' o->Elems who' w' t ys b' o:=λys b' o hb he=>
  he.keep (λb' hb _=>hnone b' hb) O (hoth b' hb)
 have hwn: ∀b',who b'=some n->who' b'=some (fresh idx 15):=λb' hb=>by grind
 have hwk: ∀b',who b'=some k->who' b'=some (fresh idx 15):=λb' hb=>by grind
 have hne: ∀j,j≠i->hh≠some j:=λj hj e=>by
  grind
 have hcell: ∀j,cellAt w' b o j=if j=i then some cv else cellAt w b o j:=by
  intro j;have c1:w'.cell? ⟨b,o+j,none⟩=(qx arr (o+i) [cv])[o+j]? :=by simp[World.cell?,hheapb]
  have c2:w.cell? ⟨b,o+j,none⟩=arr[o+j]? :=by simp[World.cell?,e2]
  simp only[cellAt,c1,c2];rw[Qp hfit];by_cases e:j=i
  . subst e;simp
  . grind
 have hblk: ∀j ad l c,j<xs.length->hh≠some j->dpv (β n) (j+1)= .slice (some ad) l c->who ad.block=some n:=by
  intro j ad l c hj hjn e;rcases(e6 j hj hjn).2 with⟨q,_⟩|⟨bi,oi,ci,ar,l',k1,k2,k3,k4,k5,k6,k7⟩
  . rw[q]at e;cases e
  . grind
 have hblkv: ∀ad l c,cv= .slice (some ad) l c->who ad.block=some k:=by
  intro ad l c e;rcases hvR.2 with⟨q,_⟩|⟨bi,oi,ci,ar,l',k1,k2,k3,k4,k5,k6⟩
  . rw[q]at e;cases e
  . grind
 have hnew:RelDp β' who' w' (fresh idx 15) t (xs.set i ys) none (a.tmps.getD s undef):=by
  refine⟨by rw[hβm,hb0];exact h1,.inr ⟨b,o,cap,qx arr (o+i) [cv],el,by grind,hheapb,by rw[Qw hfit];exact e3,by grind,hwn b e5,
   λj hj _=> ?_,?_⟩⟩
  . have hj':j<xs.length:=by simpa using hj
    rw[hβm,hbj j hj',hcell];by_cases e:j=i
    . subst e;rw[iP rfl,iP rfl];refine⟨rfl,?_⟩;rw[zp2];rcases hvR.2 with⟨q1,q2⟩|⟨bi,oi,ci,ar,l',k1,k2,k3,k4,k5,k6⟩
      . exact .inl ⟨q1,q2⟩
      . have hbb:bi≠b:=by rintro rfl;rw[e5]at k5;injection k5 with k5;exact hkn k5.symm
        exact .inr ⟨bi,oi,ci,ar,l',k1,by rw[hoth bi hbb];exact k2,k3,k4,hwk bi k5,hbb,hE _ _ _ hbb k6⟩
    . rw[iN' e,iN' e,zy2 (λh=>e h.symm)]
      obtain⟨g1,g2⟩:=e6 j hj' (hne j e);refine⟨g1,?_⟩;rcases g2 with g2|⟨bi,oi,ci,ar,l',k1,k2,k3,k4,k5,k6,k7⟩
      . exact .inl g2
      . exact .inr ⟨bi,oi,ci,ar,l',k1,by rw[hoth bi k6];exact k2,k3,k4,hwn bi k5,k6,hE _ _ _ k6 k7⟩
  . grind
 have S0:=S.drop rfl;have S1:=(S0.takeAll s).drop rfl
 have hdead: ∀x s',x∈names ((U.set s .dead).get s')->s'≠s/\x∈names (U.get s'):=λx s' h=>by
  by_cases e:s'=s
  . subst e;rw[qh]at h;simp[names,qj,qg]at h
  . rw[qc _ _ e]at h;exact⟨e,h⟩
 have S2:=S1.shift (β':=β') (who':=who') (w':=w') (X:=[n,k]) (λh=>by
  simp only[zU,zy,or_false]at h;rcases h with h|h
  . exact S.dfn (by rw[h];exact hDn)
  . exact S.dfn (by rw[h];exact hDk)) hβ
  (fun b' x hb hx=>by
    grind)
  hnone (λb' x h=>by
   grind) hsz (λs' x hx hs=>by
   obtain⟨g1,g2⟩:=hdead x s' hs;simp only[zU,zy,or_false]at hx;rcases hx with rfl|rfl
   . exact absurd (S.dis s' s x g2 (by rw[hav];simp[names,qj,qg])) g1
   . exact absurd g2 (S.hdis _ mS x (by simp[names,qj,qg]) s')) (λz hz=>by cases hz) (by simp_all)
 have S3:=S2.mono (D':=Dn D idx) (λn h=> .inl h) (Dn_fn S2.dfn)
 have S4:=S3.recast (s:=s) (v:= .dp (fresh idx 15) t (xs.set i ys) none) (qh ..) hnew (by simp[names,qj,qg])
  (fun x hx s' hs=>by
    simp only[names,qj,qg,zA]at hx;subst hx;exact hmD (S1.occ s' _ (ql hs)))
  (fun x hx=>by
    simp only[Vs.occ,occA,occC,zA]at hx;subst hx;exact .inr ⟨15,O,rfl⟩)
 refine⟨β',who',S4.ext λs'=> ?_⟩
 by_cases e:s'=s
 . subst e;rw[qh,qh]
 . rw[qc _ _ e,qc _ _ e,qc _ _ e]
end
section
variable {P:Program} {CO:Qb} {T:TT} {E:Entry} {D:Nat->Prop} {β:Beta} {who:Who} {U U':Slots} {hd:List (AV×Value)} {a:Act} {w w':World} {R W:List Nat}
def Sim.setDp {s n i j c:Nat} {t:Ty} {xs:List (List (Den t))} {hh:Option Nat} {v:AV} {cv:Value} {x':Den t} (S:Sim E D β who U [(v,cv)] a w)
 (hav:U.get s= .dp n t xs hh) (hi:i<xs.length) (hhi:hh≠some i) (hj:j<xs[i].length) (hpl:(cellsOf v).all plainCell=true)
 (hs:q0d t (xs[i].getD j t.zero) c (cellsOf v)=some x'):
 ∃b o L cap arr el,dpv (β n) (i+1)= .slice (some ⟨b,o,none⟩) L cap/\w.heap[b]? =some (.cells arr el (0,0))/\o+j*t.size+c+cv.cells.toList.length<=arr.size/\who b=some n/\
 Sim E D β who (U.set s (.dp n t (xs.set i (xs[i].set j x')) hh)) [] a (w.setRow b (qx arr (o+j*t.size+c) cv.cells.toList)):=by
 obtain⟨h1,b0,o0,cap0,arr0,el0,e1,e2,e3,e4,e5,e6,e7⟩:=(S.dp hav).pos (.inr (Qu hi));have hDn:D n:=S.occ s n (by rw[hav];simp[Vs.occ,occA,occC])
 have hv:Rel β who w v cv:=S.hrel _ mS;obtain⟨q1,q2,q3,q4⟩:=Yr hv hpl;have hsl:cv.cells.toList.length=(cellsOf v).length:=by rw[zk1,q1.1]
 rcases(e6 i hi hhi).2 with⟨_,hn⟩|⟨bi,oi,ci,ar,l,k1,k2,k3,k4,k5,k6,k7⟩
 . rw[hn]at hj;simp at hj
 . have hjl:c+(cellsOf v).length<=t.size:=by
    unfold q0d at hs;split at hs
    . assumption
    . cases hs
   have hcap:xs[i].length*t.size<=ci*t.size:=zN _ k4;have hil:(j+1)*t.size<=xs[i].length*t.size:=zN _ O;rw[zI1]at hil;have hfit:oi+j*t.size+c+cv.cells.toList.length<=ar.size:=O;refine⟨bi,oi,xs[i].length,ci,ar,l,k1,k2,hfit,k5,?_⟩;obtain⟨w',hw'⟩: ∃w',w'=w.setRow bi (qx ar (oi+j*t.size+c) cv.cells.toList):=⟨_,rfl⟩;have hoth: ∀b',b'≠bi->w'.heap[b']? =w.heap[b']? :=λb' hb=>by rw[hw'];exact setRow_other w bi b' _ hb
   have hnone: ∀b',who b'=none->who b'=none/\w'.heap[b']? =w.heap[b']? :=λb' hb=>⟨hb,hoth b' (by grind)⟩
   have hsz:w'.heap.size=w.heap.size:=by rw[hw'];simp
   have hE: ∀(ys:List (Den t)) b' o,b'≠bi->Elems who w t ys b' o->Elems who w' t ys b' o:=λys b' o hb he=>
    he.keep (λb' hb _=>hnone b' hb) O (hoth b' hb)
   have hblk: ∀j' ad l c,j'<xs.length->hh≠some j'->j'≠i->dpv (β n) (j'+1)= .slice (some ad) l c->ad.block≠bi:=by
    intro j' ad l c hj' hjn hne e eb;exact hne (e7 j' i _ _ _ _ _ _ hj' hi hjn hhi e k1 eb)
   have hnew:RelDp β who w' n t (xs.set i (xs[i].set j x')) hh (a.tmps.getD s undef):=by
    refine⟨h1,.inr ⟨b0,o0,cap0,arr0,el0,by grind,by grind,e3,by grind,e5,λj' hj' hne=> ?_,?_⟩⟩
    . have hj2:j'<xs.length:=by simpa using hj'
      obtain⟨g1,g2⟩:=e6 j' hj2 hne;refine⟨by rw[q2w (hoth b0 (λe=>k6 e.symm))];exact g1,?_⟩
      by_cases e:j'=i
      . subst e;rw[zp2]
        refine .inr ⟨bi,oi,ci,qx ar (oi+j*t.size+c) cv.cells.toList,l,by grind,by rw[hw'];exact setRow_heap w bi ar _ l _ k2,
         by rw[Qw hfit];exact k3,by grind,k5,k6,?_⟩
        rw[hw'];refine Elems.store (who:=who) (w:=w) (β:=β) k2 k7 hj hsl O hs ?_ (λb' hb=>by grind)
        intro k hk;rw[<-hw'];have hv':Rel β who w' v cv:=hv.keep ⟨λx hx=>absurd hx (by rw[q3];simp),λx hx=>absurd hx (by rw[q2];simp),λb' hb _=>hnone b' hb,O⟩
        obtain⟨p1,p2,p3,p4⟩:=Yr hv' hpl;have:=p1.2 k hk;have hpk:plainCell (cellsOf v)[k]=true:=zD1.1 hpl _ (zJ hk)
        have e9:cv.cells.toList.getD k undef=cv.cells.getD k undef:=by
         simp[List.getD_eq_getElem?_getD,Array.getD_eq_getD_getElem?]
        rw[e9];exact q79 hpk this
      . rw[zy2 (λh=>e h.symm)]
        rcases g2 with g2|⟨b2,o2,c2,ar2,l2,m1,m2,m3,m4,m5,m6,m7⟩
        . exact .inl g2
        . have hbb:b2≠bi:=hblk j' _ _ _ hj2 hne e m1;exact .inr ⟨b2,o2,c2,ar2,l2,m1,by rw[hoth b2 hbb];exact m2,m3,m4,m5,m6,hE _ _ _ hbb m7⟩
    . grind
   rw[<-hw'];have S0:=S.drop rfl;have S1:=(S0.takeAll s).drop rfl
   have hdead: ∀x s',x∈names ((U.set s .dead).get s')->s'≠s/\x∈names (U.get s'):=λx s' h=>by
    by_cases e:s'=s
    . subst e;rw[qh]at h;simp[names,qj,qg]at h
    . rw[qc _ _ e]at h;exact⟨e,h⟩
   have hnn: ∀s',n∉names ((U.set s .dead).get s'):=λs' hs=>by
    obtain⟨g1,g2⟩:=hdead n s' hs;exact g1 (S.dis s' s n g2 (by rw[hav];simp[names,qj,qg]))
   have S2:=S1.shift (β':=β) (who':=who) (w':=w') (X:=[n]) (λh=>by
    simp only[zU,zy,or_false]at h;exact S.dfn (by rw[h];exact hDn)) (λ_ _=>rfl)
    (fun b' x hb hx=>by
      grind)
    hnone (λb' x h=>⟨x,h⟩) hsz (λs' x hx hs=>by
     grind) (λz hz=>by cases hz) (by simp_all)
   have S4:=S2.recast (s:=s) (v:= .dp n t (xs.set i (xs[i].set j x')) hh) (qh ..) hnew (by simp[names,qj,qg])
    (fun x hx s' hs=>by
      simp only[names,qj,qg,zA]at hx
      grind)
    (fun x hx=>by
      simp only[Vs.occ,occA,occC,zA]at hx;subst hx;exact hDn)
   refine S4.ext λs'=> ?_
   by_cases e:s'=s
   . subst e;rw[qh,qh]
   . rw[qc _ _ e,qc _ _ e,qc _ _ e]
def q3t (hT:TTok P T) {idx t s n:Nat} {k:DK} {v:AV} {cp cv:Value} {u:Unit} (h:Run CO (q9p T idx t s n k v) U u U' R W) (S:Sim E D β who U [(v,cv)] a w)
 (hx:DrVal (β n) k cp) (hf: ∀k,k<16-> ¬D (fresh idx k)):
 ∃w' β' who',(Instr.storeAt t cp cv).run P w= .ok () w'/\Sim E (Dn D idx) β' who' U' [] a w':=by
 unfold q9p at h;split at h
 . exact(kC h).elim
 . rename_i ti hti';have hti:=hT t _ hti';split at h
   . rename_i i;split at h
     . rename_i desc c0 k ty ys;obtain⟨av,U1,_,_,_,_,h1,h2⟩:=kA h;obtain⟨hav,rfl⟩:=kD h1;split at h2
       . rename_i n' ty' xs hh loc hd;rw[hav]at hd;obtain⟨rfl,⟨v0,hdp⟩,_⟩:=S.dpA hd;split at h2
         . rename_i e';subst e';obtain⟨_,U2,_,_,_,_,h3,h4⟩:=kA h2;obtain⟨hm,rfl⟩:=Run.holeAsk' h3;obtain⟨v',hk,rfl⟩:=kH h4;obtain⟨d',hd',rfl⟩:=q7a hd hk;simp only[putDp,dif_pos,zS]at hd';subst hd';obtain⟨b,o,L,cap,hb,hi,rfl⟩:=hx;obtain⟨ad1,cap1,hb1⟩:=hdp.base;have hil:i<xs.length:=by rw[hb1]at hb;injection hb with _ q _;omega
           obtain⟨E',a',g,U1,S1,hg,hcl⟩:=S.openDp hd;obtain⟨b',o',L',cap',arr,el,g1,g2,g3,g4,β',who',S'⟩:=S1.fillDp (idx:=idx) hg hil hm hf;rw[hb]at g1;injection g1 with g1 _ _;injection g1 with g1;injection g1 with g1 g1' _
           subst g1 g1';have hone:cv.oneCell'=true:=Jb (β:=β) (who:=who) (w:=w) (c:= .sl (.nm k) ty' ys) (S.hrel _ mS) (by simp)
           have hc1:cv.cells.toList=[cv]:=by rw[Z5 hone]
           have hsz1:cv.cells.size=1:=by rw[Z5 hone];rfl
           have hrun:=q0h hti (c:=cv) (o:=o+i) g2 (by rw[hsz1];rfl) (by rw[hsz1];exact g3) (by grind)
           rw[hc1]at hrun;exact⟨_,β',who',hrun,hcl _ _ _ _ _ _ _ _ _ (λb1 hb1=>setRow_other w b b1 _ (by rintro rfl;exact hb1 g4)) S'⟩
         . exact(kC h2).elim
       . exact(kC h2).elim
     . exact(kC h).elim
   . rename_i sz i j c;split at h
     . rename_i hc;obtain⟨hlen,hpl⟩:=hc;obtain⟨av,U1,_,_,_,_,h1,h2⟩:=kA h;obtain⟨hav,rfl⟩:=kD h1;split at h2
       . rename_i n' ty xs hh loc hd;rw[hav]at hd;obtain⟨rfl,⟨v0,hdp⟩,_⟩:=S.dpA hd;split at h2
         . rename_i hsz;subst hsz;obtain⟨_,U2,_,_,_,_,h3,h4⟩:=kA h2;obtain⟨hm,rfl⟩:=Run.noHole' h3;obtain⟨v',hk0,rfl⟩:=kH h4;obtain⟨d',hk,rfl⟩:=q7a hd hk0;obtain⟨b,o,L,cap,hb,hj,rfl,a0,L0,c0',hb0,hi⟩:=hx;obtain⟨ad1,cap1,hb1⟩:=hdp.base;rw[hb1]at hb0;injection hb0 with _ q1 _
           subst q1;have hxi:xs.getD i []=xs[i]:=by simp[List.getD,List.getElem?_eq_getElem hi]
           have hjl:j<xs[i].length:=by
            obtain⟨ad,cp,e⟩:=(hdp.row hi hm).shape;rw[e]at hb;injection hb with _ q _;omega
           simp only[Vs.setDp,hxi]at hk;split at hk
           . rename_i x' hs;injection hk with hk
             subst hk;obtain⟨E',a',g,U1,S1,hg,hcl⟩:=S.openDp hd;obtain⟨b',o',L',cap',arr,el,g1,g2,g3,g4,S'⟩:=S1.setDp hg hi hm hjl hpl hs;rw[hb]at g1;injection g1 with g1 _ _;injection g1 with g1;injection g1 with g1 g1' _
             subst g1 g1';obtain⟨q1,q2,q3,q4⟩:=Yr (S.hrel _ mS) hpl;have hrun:=q0h hti (c:=cv) (o:=o+j*ty.size+c) g2 (by rw[q1.1,hlen]) O q4
             have S2:=hcl _ _ _ _ _ _ _ _ _ (λb1 hb1=>setRow_other w b b1 _ (by rintro rfl;exact hb1 g4)) S'
             exact⟨_,β,who,hrun,S2.mono (λn h=> .inl h) (Dn_fn S2.dfn)⟩
           . cases hk
         . exact(kC h2).elim
       . exact(kC h2).elim
     . exact(kC h).elim
   . exact(kC h).elim
end
section
variable {P:Program} {CO:Qb} {T:TT} {E:Entry} {D:Nat->Prop} {β:Beta} {who:Who} {U U':Slots} {hd:List (AV×Value)} {a:Act} {w w':World} {R W:List Nat}
def Sim.mergeHand (S:Sim E D β who U hd a w) {idx:Nat} {v:AV} {c base:Value} (hf: ∀k,k<16-> ¬D (fresh idx k)) (hnm:names v=[fresh idx 15]) (hoc:Vs.occ v=[fresh idx 15])
 (hsame: ∀b x,who b=some x->(∀z∈hd,x∉names z.1)->w'.heap[b]? =w.heap[b]?) (hnone: ∀b,who b=none->b<w.heap.size->w'.heap[b]? =w.heap[b]?)
 (hsz:w.heap.size<=w'.heap.size) (h4:w'.os=w.os/\w'.output=w.output)
 (hr: ∀β' who',β' (fresh idx 15)=base->(∀b x,who b=some x->(∃z∈hd,x∈names z.1)->who' b=some (fresh idx 15))->
   (∀b,w.heap.size<=b->b<w'.heap.size->who' b=some (fresh idx 15))->(∀b,who b=none->b<w.heap.size->who' b=none)->Rel β' who' w' v c):
 ∃β' who',Sim E (Dn D idx) β' who' U [(v,c)] a w':=by
 classical
 have hfD: ¬D (fresh idx 15):=hf 15 O
 let β':Beta:=λx=>if x=fresh idx 15 then base else β x
 let who':Who:=λb=>if(w.heap.size<=b/\b<w'.heap.size)\/(∃x,who b=some x/\ ∃z∈hd,x∈names z.1)then some (fresh idx 15)else who b
 have hβ: ∀x,D x->β' x=β x:=λx hx=>by grind
 have w1: ∀b x,who b=some x->(∀z∈hd,x∉names z.1)->who' b=some x:=λb x hb hx=>by
  grind
 have w2: ∀b,who b=none->b<w.heap.size->who' b=none:=λb hb hlt=>by
  grind
 have hFN: ∀z∈hd,FN∉names z.1:=λz hz h=>S.dfn (S.hocc z hz FN (ql h))
 have S0:Sim E D β who U [] a w:={S with
  hrel:=λz hz=>(zy hz).elim
  hnod:=zK2
  hdis:=λz hz=>(zy hz).elim
  hocc:=λz hz=>(zy hz).elim}
 have S1:Sim E D β' who' U [] a w':=by
  refine S0.world (h98:=hβ 98 S.d98) (λs=>(S.rel s).keep ⟨λx hx=>hβ x (S.occ s x hx),λx hx b hb=> ?_,λb hb hlt=>⟨w2 b hb hlt,hnone b hb hlt⟩,hsz⟩) (λz hz=>(zy hz).elim) (λb x h=> ?_) hsz (λb hb h0=> ?_) (λb x h=> ?_) (λb hb=>w1 b FN (S.fr3 b hb) hFN) h4
  . have hx': ∀z∈hd,x∉names z.1:=λz hz h=>S.hdis z hz x h s hx
    grind
  . simp only[who']at h;split at h
    . rename_i g;rcases g with g|⟨y,hy,_⟩
      . exact g.2
      . have:=S.wsz b y hy;omega
    . have:=S.wsz b x h;omega
  . cases hb':who b with
    |none=>exact hnone b hb' (zN2 hb S.fr2)
    |some x=>
     rcases h0 with h0|h0
     . rcases S.fr1 b x hb' with h|h
       . exact absurd h0 h
       . omega
     . have:=S.fr3 b h0;exact hsame b FN this hFN
  . simp only[who']at h;split at h
    . rename_i g;rcases g with g|⟨y,hy,_⟩
      . exact .inr (zK S.fr2 g.1)
      . exact S.fr1 b y hy
    . exact S.fr1 b x h
 have S2:Sim E (Dn D idx) β' who' U [] a w':=S1.mono (λn h=> .inl h) (Dn_fn S.dfn)
 refine⟨β',who',S2.addN (λz hz=> ?_) ?_ (λz hz n hn s hs=> ?_) (λz hz n hn=> ?_)⟩
 . grind
 . simp[hnm]
 . rw[zA]at hz;subst hz;rw[hnm,zA]at hn;subst hn;exact hfD (S.occ s _ (ql hs))
 . rw[zA]at hz;subst hz;rw[hoc,zA]at hn;subst hn;exact .inr ⟨15,O,rfl⟩
def q9y {v:Value} {hs:List Value} {i:Nat} (hi:i<hs.length):dpv (.tuple (v::hs).toArray) (i+1)=hs[i]:=by
 simp[dpv,Array.getD,hi]
def RelDp.mk' {n:Nat} {t:Ty} {zs:List (List (Den t))} {hs:List Value} (hlen:hs.length=zs.length) {v:Value} (hβ:β n= .tuple (v::hs).toArray) {b o cap:Nat} {arr:Array Value} {el:TypeId}
 (hv:v= .slice (some ⟨b,o,none⟩) zs.length cap) (hh:w.heap[b]? =some (.cells arr el (0,0))) (h1:o+cap<=arr.size) (h2:zs.length<=cap) (h3:who b=some n)
 (hc: ∀i (hi:i<hs.length),cellAt w b o i=some hs[i]) (hin: ∀i (hi:i<zs.length) (hi':i<hs.length),InnO who w n t zs[i] hs[i] b)
 (hd: ∀i j (hi:i<hs.length) (hj:j<hs.length) ai aj li lj ci cj,hs[i]= .slice (some ai) li ci->hs[j]= .slice (some aj) lj cj->ai.block=aj.block->i=j):RelDp β who w n t zs none v:=by
 refine⟨by rw[hβ];rfl,.inr ⟨b,o,cap,arr,el,hv,hh,h1,h2,h3,λi hi _=> ?_,?_⟩⟩
 . have hi':i<hs.length:=O;rw[hβ,q9y hi']
   grind
 . intro i j ai aj li lj ci cj q1 q2 _ _ q5 q6 q7;have hi':i<hs.length:=O;have hj':j<hs.length:=O;rw[hβ,q9y hi']at q5;rw[hβ,q9y hj']at q6
   grind
def heads (v:Value) (n:Nat):List Value:=(List.range n).map λi=>dpv v (i+1)
def Zc {v:Value} {n:Nat}:(heads v n).length=n:=by simp[heads]
def qaz {v:Value} {n i:Nat} (hi:i<(heads v n).length):(heads v n)[i]=dpv v (i+1):=by simp[heads]
def RelDp.news {n:Nat} {t:Ty} {xs:List (List (Den t))} {v:Value} (h:RelDp β who w n t xs none v):
 (∀x∈heads (β n) xs.length,x.oneCell'=true)/\(∀w1:World,w1.heap=w.heap->(Builtin.firstCells 1 xs.length v).run P w1= .ok (heads (β n) xs.length).toArray w1)/\(∃ad cap,v= .slice ad xs.length cap):=by
 obtain⟨h1,h2⟩:=h;rcases h2 with⟨rfl,rfl⟩|⟨b,o,cap,arr,el,rfl,e2,e3,e4,e5,e6,e7⟩
 . exact⟨λx hx=>by simp[heads]at hx,λw1 _=>by simp[Builtin.firstCells,heads],none,0,rfl⟩
 . refine⟨λx hx=> ?_,λw1 hw1=> ?_,_,cap,rfl⟩
   . unfold heads at hx;obtain⟨i,hi,rfl⟩:=zk.1 hx;obtain⟨ad,l,c,e⟩:=(e6 i (zJ2.1 hi) (by simp)).2.one
     rw[e];rfl
   . simp only[Builtin.firstCells];rw[run_loadCells (P:=P) w1 ⟨b,o,none⟩ (xs.length*1) (λj=>dpv (β n) (j+1)) (λj hj=> ?_)]
     . simp[heads]
     . have:=(e6 j (by simpa using hj) (by simp)).1
       rw[add_plain];simp only[cellAt,World.cell?]at this⊢;rw[hw1];exact this
def Sim.newNilDp {m:Nat} {v0:AV} {t:Ty} {c0:Value} {D':Nat->Prop} (S:Sim E D β who U ((v0,c0)::hd) a w) (hm: ¬D m) (hD: ∀x,D x->D' x) (hDm:D' m) (hDF: ¬D' FN):
 ∃β',Sim E D' β' who U ((.dp m t [] none,nilS)::hd) a w:=by
 let β':Beta:=λx=>if x=m then .tuple #[nilS]else β x
 have hb: ∀x,D x->β' x=β x:=λx hx=>by grind
 have S0:=((S.drop rfl).keep (β':=β') (who':=who) (w':=w) hb (λ_ _ h=>h) (λ_ _=>rfl) (λ_ h _=>h) S.wsz (zH _)).mono hD hDF
 refine⟨β',?_⟩
 exact{S0 with
  hrel:=λy hy=>by
   rcases mC hy with rfl|hy
   . exact⟨by simp[β',dpv],.inl ⟨rfl,rfl⟩⟩
   . exact S0.hrel y hy
  hnod:=by
   simp only[fC,names,qj,qg,zG2,zA1];refine⟨λh=> ?_,S0.hnod⟩
   obtain⟨x,hx,hn⟩:=zG.1 h;exact hm (S.hocc x (mT hx) m (ql hn))
  hdis:=λy hy=>by
   rcases mC hy with rfl|hy
   . intro x hx s hs;simp only[names,qj,qg,zA]at hx;subst hx;exact hm (S.occ s x (ql hs))
   . exact S0.hdis y hy
  hocc:=λy hy=>by
   rcases mC hy with rfl|hy
   . intro x hx;simp only[Vs.occ,occA,occC,zA]at hx;subst hx;exact hDm
   . exact S0.hocc y hy}
def q9c (hT:TTok P T) {idx:Nat} {tys:Array TypeId} {rt t0 t1 e e1:TypeId} {et et1:Ty} {cells cells1:List ZC} {n m:Nat} {t:Ty} {xs ys:List (List (Den t))} {cx cy:Value}
 (h0:tys[0]? =some t0) (h1:tys[1]? =some t1) (ht0:T.at t0=some {desc:= .slice e et,cells:=cells}) (ht1:T.at t1=some {desc:= .slice e1 et1,cells:=cells1})
 (hsz:et.size=1) (S:Sim E D β who U [(.dp m t ys none,cy),(.dp n t xs none,cx)] a w) (hpos:0<ys.length) (hlen:xs.length+ys.length<=1073741824) (hf: ∀k,k<16-> ¬D (fresh idx k)):
 ∃r w' β' who',(Builtin.append_ tys rt #[cx,cy]).run P w= .ok r w'/\Sim E (Dn D idx) β' who' U [(.dp (fresh idx 15) t (xs++ys) none,r)] a w':=by
 obtain⟨hu0,⟨ei,ez,he,hes,hbytes,_,hz,hzc⟩⟩:=(hT t0 _ ht0).desc;obtain⟨hu1,_⟩:=(hT t1 _ ht1).desc;have hss:ei.size=1:=by rw[hes,hsz]
 have hX:RelDp β who w n t xs none cx:=S.hrel _ (mT mS);have hY:RelDp β who w m t ys none cy:=S.hrel _ mS
 have hmn:m≠n:=by
  have:=S.hnod;simp only[fC,zn2,names,qj,qg,zb1,zG2,zA1,zA]at this;exact this.1
 obtain⟨n2,n3,ady,capy,rfl⟩:=hY.news (P:=P);obtain⟨o2,o3,adx,capx,rfl⟩:=hX.news (P:=P);obtain⟨hs,hhs⟩: ∃hs,hs=heads (β n) xs.length++heads (β m) ys.length:=⟨_,rfl⟩;have hslen:hs.length=(xs++ys).length:=by rw[hhs];simp[Zc]
 have hget1: ∀i (hi:i<hs.length),i<xs.length->hs[i]=dpv (β n) (i+1):=λi hi h=>by
  subst hhs;rw[zz1 (by rw[Zc];exact h),qaz]
 have hget2: ∀i (hi:i<hs.length),¬i<xs.length->hs[i]=dpv (β m) (i-xs.length+1):=λi hi h=>by
  subst hhs;rw[zc1 (by rw[Zc];omega),qaz,Zc]
 have inn1: ∀i,i<xs.length-> ∀ad l c,dpv (β n) (i+1)= .slice (some ad) l c->who ad.block=some n:=λi hi ad l c q=>by
  obtain⟨_,b,o,cap,arr,el,e1,e2,e3,e4,e5,e6,e7⟩:=hX.pos (.inr (Qu hi));rcases(e6 i hi (by simp)).2 with⟨g,_⟩|⟨bi,oi,ci,ar,l',k1,k2,k3,k4,k5,k6,k7⟩
  . rw[g]at q;cases q
  grind
 have inn2: ∀i,i<ys.length-> ∀ad l c,dpv (β m) (i+1)= .slice (some ad) l c->who ad.block=some m:=λi hi ad l c q=>by
  obtain⟨_,b,o,cap,arr,el,e1,e2,e3,e4,e5,e6,e7⟩:=hY.pos (.inr (Qu hi));rcases(e6 i hi (by simp)).2 with⟨g,_⟩|⟨bi,oi,ci,ar,l',k1,k2,k3,k4,k5,k6,k7⟩
  . rw[g]at q;cases q
  grind
 have hdist: ∀i j (hi:i<hs.length) (hj:j<hs.length) ai aj li lj ci cj,hs[i]= .slice (some ai) li ci->hs[j]= .slice (some aj) lj cj->ai.block=aj.block->i=j:=by
  intro i j hi hj ai aj li lj ci cj q5 q6 q7;have hiL:i<xs.length+ys.length:=by rw[hslen,zi]at hi;exact hi
  have hjL:j<xs.length+ys.length:=by rw[hslen,zi]at hj;exact hj
  by_cases a1:i<xs.length<;>by_cases a2:j<xs.length
  . rw[hget1 i hi a1]at q5;rw[hget1 j hj a2]at q6;obtain⟨_,b,o,cap,arr,el,e1,e2,e3,e4,e5,e6,e7⟩:=hX.pos (.inr (Qu a1))
    grind
  . grind
  . grind
  . rw[hget2 i hi a1]at q5;rw[hget2 j hj a2]at q6;obtain⟨_,b,o,cap,arr,el,e1,e2,e3,e4,e5,e6,e7⟩:=hY.pos (.inr (Qu hpos))
    grind
 have hinn: ∀(w':World) (who':Who) (b0:Nat),(∀b,who b=some n->who' b=some (fresh idx 15))->(∀b,who b=some m->who' b=some (fresh idx 15))->(∀b,who b=none->b<w.heap.size->who' b=none/\w'.heap[b]? =w.heap[b]?)->w.heap.size<=w'.heap.size->
  (∀i (hi:i<xs.length) bi oi l c,dpv (β n) (i+1)= .slice (some ⟨bi,oi,none⟩) l c->bi≠b0/\w'.heap[bi]? =w.heap[bi]?)->(∀i (hi:i<ys.length) bi oi l c,dpv (β m) (i+1)= .slice (some ⟨bi,oi,none⟩) l c->bi≠b0/\w'.heap[bi]? =w.heap[bi]?)->
  ∀i (hi:i<(xs++ys).length) (hi':i<hs.length),InnO who' w' (fresh idx 15) t (xs++ys)[i] hs[i] b0:=by
  intro w' who' b0 p1 p2 p3 p4 p5 p6 i hi hi';by_cases a1:i<xs.length
  . rw[hget1 i hi' a1,zz1 a1];obtain⟨_,b,o,cap,arr,el,e1,e2,e3,e4,e5,e6,e7⟩:=hX.pos (.inr (Qu a1));rcases(e6 i a1 (by simp)).2 with g|⟨bi,oi,ci,ar,l',k1,k2,k3,k4,k5,k6,k7⟩
    . exact .inl g
    . obtain⟨g1,g2⟩:=p5 i a1 _ _ _ _ k1;exact .inr ⟨bi,oi,ci,ar,l',k1,by rw[g2];exact k2,k3,k4,p1 bi k5,g1,k7.keep p3 p4 g2⟩
  . have a2:i-xs.length<ys.length:=by rw[zi]at hi;omega
    rw[hget2 i hi' a1,zc1 O];obtain⟨_,b,o,cap,arr,el,e1,e2,e3,e4,e5,e6,e7⟩:=hY.pos (.inr (Qu a2));rcases(e6 _ a2 (by simp)).2 with g|⟨bi,oi,ci,ar,l',k1,k2,k3,k4,k5,k6,k7⟩
    . exact .inl g
    . obtain⟨g1,g2⟩:=p6 _ a2 _ _ _ _ k1;exact .inr ⟨bi,oi,ci,ar,l',k1,by rw[g2];exact k2,k3,k4,p2 bi k5,g1,k7.keep p3 p4 g2⟩
 have hxn: ∃z∈([(.dp m t ys none,.slice ady ys.length capy),(.dp n t xs none,.slice adx xs.length capx)]:List (AV×Value)),n∈names z.1:=⟨_,mT mS,by simp[names,qj,qg]⟩
 have hxm: ∃z∈([(.dp m t ys none,.slice ady ys.length capy),(.dp n t xs none,.slice adx xs.length capx)]:List (AV×Value)),m∈names z.1:=⟨_,mS,by simp[names,qj,qg]⟩
 have hlx:(heads (β n) xs.length).length=xs.length*ei.size:=by rw[Zc,hss,zP1]
 have hly:(heads (β m) ys.length).length=ys.length*ei.size:=by rw[Zc,hss,zP1]
 have hblt: ∀{b x:Nat},who b=some x->b<w.heap.size:=λh=>S.wsz _ _ h
 by_cases hroom:xs.length+ys.length<=capx
 ·
  obtain⟨_,b,o,cap,arr,el,e1,e2,e3,e4,e5,e6,e7⟩:=hX.pos (.inl (λq=>by grind))
  injection e1 with q1 _ q2
  subst q1 q2;have hfit0:o+xs.length*ei.size+(heads (β m) ys.length).length<=arr.size:=by rw[Zc,hss];omega
  have hrun:=q3c (P:=P) (rt:=rt) h0 h1 hu0 hu1 he (o:=o) (sLen:=xs.length) (sCap:=capx) e2 (by rw[hss];exact n3 w rfl) hly n2 hroom hfit0
  rw[hss,zP1]at hrun hfit0;obtain⟨w',hw'⟩: ∃w',w'=w.setRow b (qx arr (o+xs.length) (heads (β m) ys.length)):=⟨_,rfl⟩;have hoth: ∀b',b'≠b->w'.heap[b']? =w.heap[b']? :=λb' hb=>by rw[hw'];exact setRow_other w b b' _ hb
  have hheap:w'.heap[b]? =some (.cells (qx arr (o+xs.length) (heads (β m) ys.length)) el (0,0)):=by rw[hw'];exact setRow_heap w b arr _ el _ e2
  have hszw:w'.heap.size=w.heap.size:=by rw[hw'];simp
  rw[<-hw']at hrun
  obtain⟨β',who',S'⟩:=S.mergeHand (idx:=idx) (v:= .dp (fresh idx 15) t (xs++ys) none) (c:= .slice (some ⟨b,o,none⟩) (xs.length+ys.length) capx) (base:= .tuple (.slice (some ⟨b,o,none⟩) (xs.length+ys.length) capx::hs).toArray) (w':=w') hf
   (by simp[names,qj,qg]) (by simp[Vs.occ,occA,occC])
   (fun b' x hb hx=>hoth b' (by
     grind))
   (λb' hb _=>hoth b' (by grind)) O (by rw[hw'];exact⟨rfl,rfl⟩)
   (fun β' who' g1 g2 g3 g4=>by
     refine RelDp.mk' (hs:=hs) hslen g1 (by rw[zi]) hheap (by rw[Qw hfit0];exact e3) (by grind) (g2 b n e5 hxn) (λi hi=> ?_) ?_ hdist
     . have hiL:i<xs.length+ys.length:=by rw[hslen,zi]at hi;exact hi
       have c1:cellAt w' b o i=(qx arr (o+xs.length) (heads (β m) ys.length))[o+i]? :=by simp[cellAt,World.cell?,hheap]
       rw[c1,Qp hfit0];by_cases a1:i<xs.length
       . rw[iN' O,hget1 i hi a1];have:=(e6 i a1 (by simp)).1
         simpa [cellAt,World.cell?,e2]using this
       grind
     . refine hinn w' who' b (λb' h=>g2 b' n h hxn) (λb' h=>g2 b' m h hxm) (λb' h hl=>⟨g4 b' h hl,hoth b' (by rintro rfl;rw[e5]at h;cases h)⟩) O (λi hi bi oi l c q=> ?_) (λi hi bi oi l c q=> ?_)
       . rcases(e6 i hi (by simp)).2 with⟨g,_⟩|⟨bi',oi',ci,ar,l',k1,k2,k3,k4,k5,k6,k7⟩
         . rw[g]at q;cases q
         . rw[k1]at q;injection q with q;injection q with q;injection q with q
           subst q;exact⟨k6,hoth _ k6⟩
       grind)
  exact⟨_,w',β',who',hrun,S'⟩
 ·
  have hrun:=q29 (P:=P) (rt:=rt) (w:=w) h0 h1 hu0 hu1 he hz (sa:=adx) (sLen:=xs.length) (sCap:=capx) (m:=ys.length) (ad:=ady) (c:=capy) (olds:=heads (β n) xs.length) (news:=heads (β m) ys.length)
   (by rw[hss];exact o3 w.drew rfl) (by rw[hss];exact n3 w.drew rfl) O hbytes hlen
  have hcapge:xs.length+ys.length<=grownCap w (xs.length+ys.length) capx e:=grownCap_ge w _ _ e;have hzsz:ez.cells.size=1:=by rw[<-Array.length_toList,hzc,Qj,hsz]
  obtain⟨row,hrow⟩: ∃row,row=(heads (β n) xs.length).toArray++(heads (β m) ys.length).toArray++Builtin.zeroCells ez.cells (grownCap w (xs.length+ys.length) capx e-(xs.length+ys.length)):=⟨_,rfl⟩;rw[<-hrow]at hrun
  have hrs:row.size=grownCap w (xs.length+ys.length) capx e:=by
   rw[hrow];simp only[Array.size_append,List.size_toArray,Zc,size_zeroCells,hzsz];omega
  have hnew:(w.drew.alloc (.cells row e)).heap[w.heap.size]? =some (.cells row e (0,0)):=heap_alloc_new w.drew _;have hold: ∀b',b'<w.heap.size->(w.drew.alloc (.cells row e)).heap[b']? =w.heap[b']? :=λb' hb'=>heap_alloc_old w.drew _ b' hb'
  have hszw:(w.drew.alloc (.cells row e)).heap.size=w.heap.size+1:=by simp
  obtain⟨β',who',S'⟩:=S.mergeHand (idx:=idx) (v:= .dp (fresh idx 15) t (xs++ys) none) (c:= .slice (some ⟨w.heap.size,0,none⟩) (xs.length+ys.length) (grownCap w (xs.length+ys.length) capx e))
   (base:= .tuple (.slice (some ⟨w.heap.size,0,none⟩) (xs.length+ys.length) (grownCap w (xs.length+ys.length) capx e)::hs).toArray) (w':=w.drew.alloc (.cells row e)) hf
   (by simp[names,qj,qg]) (by simp[Vs.occ,occA,occC])
   (λb' x hb _=>hold b' (hblt hb)) (λb' _ hl=>hold b' hl) O ⟨rfl,rfl⟩
   (fun β' who' g1 g2 g3 g4=>by
     refine RelDp.mk' (hs:=hs) hslen g1 (by rw[zi]) hnew (by rw[hrs];omega) (by grind) (g3 _ (zH _) O) (λi hi=> ?_) ?_ hdist
     . have hiL:i<(heads (β n) xs.length++heads (β m) ys.length).length:=by rw[<-hhs];exact hi
       have c1:cellAt (w.drew.alloc (.cells row e)) w.heap.size 0 i=row[i]? :=by
        simp only[cellAt,World.cell?,hnew,zF];rfl
       grind
     . refine hinn _ who' w.heap.size (λb' h=>g2 b' n h hxn) (λb' h=>g2 b' m h hxm) (λb' h hl=>⟨g4 b' h hl,hold b' hl⟩) O (λi hi bi oi l c q=> ?_) (λi hi bi oi l c q=> ?_)
       . have h2:=hblt (inn1 i hi _ _ _ q);exact⟨by rintro rfl;exact Nat.lt_irrefl _ h2,hold _ h2⟩
       grind)
  exact⟨_,_,β',who',hrun,S'⟩
def q7r (hT:TTok P T) {idx:Nat} {tys:Array TypeId} {rt:TypeId} {x y v:AV} {cx cy:Value} (h:Run CO (q9z T idx tys x y) U v U' R W)
 (S:Sim E D β who U [(y,cy),(x,cx)] a w) (hf: ∀k,k<16-> ¬D (fresh idx k)):
 ∃r w' β' who',(Builtin.append_ tys rt #[cx,cy]).run P w= .ok r w'/\Sim E (Dn D idx) β' who' U' [(v,r)] a w':=by
 unfold q9z at h;split at h
 . rename_i t0 t1 h0 h1;split at h
   . rename_i ht0 ht1;split at h
     . rename_i n t xs m t' ys;split at h
       . rename_i e0;subst e0;obtain⟨_,U1,_,_,_,_,q3,q4⟩:=kA h;obtain⟨⟨hpos,hlen⟩,rfl⟩:=kG q3;obtain⟨rfl,rfl⟩:=kB q4;exact q9c hT h0 h1 ht0 ht1 rfl S hpos hlen hf
       . exact(kC h).elim
     . exact(kC h).elim
   . exact(kC h).elim
 . exact(kC h).elim
def Run.buildDpAV' {idx t n:Nat} {ps:List (Nat×Operand)} {v:AV} (h:Run CO (q6p T idx t n ps) U v U' R W):
 ∃x,ps=[(0,x)]/\n=1/\ ∃v' U1 R1 W1 R2 W2,Run CO (Vs.rdT x) U v' U1 R1 W1/\Run CO (Vs.buildDp T idx t v') U1 v U' R2 W2:=by
 unfold q6p at h;split at h
 . rename_i x;split at h
   . rename_i e;obtain⟨v',U1,R1,W1,R2,W2,h1,h2⟩:=kA h
     grind
   . exact(kC h).elim
 . exact(kC h).elim
def qam (hT:TTok P T) {idx t:Nat} {row v:AV} {cv:Value} (h:Run CO (buildDp T idx t row) U v U' R W) (S:Sim E D β who U [(row,cv)] a w) (hf: ∀k,k<16-> ¬D (fresh idx k)):
 ∃r w' β' who',(Instr.buildSlice t 1 #[(0,cv)]).run P w= .ok r w'/\Sim E (Dn D idx) β' who' U' [(v,r)] a w':=by
 unfold buildDp at h;split at h
 . rename_i e inn ty cells k ty' ys ht;split at h
   . rename_i e0;subst e0;obtain⟨rfl,rfl⟩:=kB h;obtain⟨hu,⟨ei,ez,he,hes,hb,hb0,hz,hzc⟩⟩:=(hT t _ ht).desc;have hes1:ei.size=1:=hes;have hvR:RelN β who w k ty' ys cv:=S.hrel _ mS;have hone:cv.oneCell'=true:=Jb (β:=β) (who:=who) (w:=w) (c:= .sl (.nm k) ty' ys) hvR (by simp)
     have hc1:cv.cells= #[cv]:=Z5 hone;obtain⟨row0,hrow0⟩: ∃row0,row0=(Array.range (1*ei.size)).map λi=>ez.cells[i%ez.cells.size]! :=⟨_,rfl⟩
     have hr0:row0.size=1:=by rw[hrow0];simp[hes1]
     have hfit:0+[cv].length<=row0.size:=by rw[hr0];exact zH _
     have hfill:Instr.fill (λi=>some (i*ei.size,ei.size)) row0 [(0,cv)]=some (qx row0 0 [cv]):=by
      rw[q67 (off:=0*ei.size) (size:=ei.size) rfl (by rw[hc1,hes1];rfl) (by rw[hc1,hr0];simp),hc1,zA4];rfl
     have hbig: ¬(1*ei.size>2^24):=by rw[hes1];decide
     have hrun:(Instr.buildSlice t 1 #[(0,cv)]).run P w= .ok (.slice (some ⟨w.heap.size,0,none⟩) 1 1) (w.alloc (.cells (qx row0 0 [cv]) e)):=by
      unfold Instr.buildSlice;simp only[Sem.run_bind,run_underlying hu,Result.andThen_ok,Xu he,hbig,if_false]
      have hend:(newRow e (qx row0 0 [cv])>>=λx=>pure (Value.slice (some x) 1 1):Sem Value).run P w= .ok (.slice (some ⟨w.heap.size,0,none⟩) 1 1) (w.alloc (.cells (qx row0 0 [cv]) e)):=by
       simp[newRow]
      split
      . omega
      . simp only[Sem.run_bind,q5l he hz,Sem.run_pure,Result.andThen_ok]
        grind
     have hnew:=heap_alloc_new w (.cells (qx row0 0 [cv]) e);have hold: ∀b',b'<w.heap.size->(w.alloc (.cells (qx row0 0 [cv]) e)).heap[b']? =w.heap[b']? :=λb' hb'=>heap_alloc_old w _ b' hb'
     have hszw:(w.alloc (.cells (qx row0 0 [cv]) e)).heap.size=w.heap.size+1:=by simp
     obtain⟨β',who',S'⟩:=S.mergeHand (idx:=idx) (v:= .dp (fresh idx 15) ty' [ys] none) (c:= .slice (some ⟨w.heap.size,0,none⟩) 1 1) (base:= .tuple (.slice (some ⟨w.heap.size,0,none⟩) 1 1::[cv]).toArray)
      (w':=w.alloc (.cells (qx row0 0 [cv]) e)) hf (by simp[names,qj,qg]) (by simp[Vs.occ,occA,occC])
      (λb' x hb _=>hold b' (S.wsz _ _ hb)) (λb' _ hl=>hold b' hl) O ⟨rfl,rfl⟩
      (fun β' who' g1 g2 g3 g4=>by
        refine RelDp.mk' (hs:=[cv]) rfl g1 rfl hnew (by rw[Qw hfit,hr0];exact zH _) (zH _) (g3 _ (zH _) O) (λi hi=> ?_) (λi hi hi'=> ?_) (λi j hi hj ai aj li lj ci cj _ _ _=> ?_)
        . obtain rfl:i=0:=by simpa using hi
          have c1:cellAt (w.alloc (.cells (qx row0 0 [cv]) e)) w.heap.size 0 0=(qx row0 0 [cv])[0+0]? :=by
           simp only[cellAt,World.cell?,hnew,zF];rfl
          rw[c1,Qp hfit];rfl
        . obtain rfl:i=0:=by simpa using hi
          rcases hvR.2 with⟨q1,q2⟩|⟨bi,oi,ci,ar,l',k1,k2,k3,k4,k5,k6⟩
          . exact .inl ⟨q1,q2⟩
          . have hlt:=S.wsz _ _ k5;exact .inr ⟨bi,oi,ci,ar,l',k1,by rw[hold bi hlt];exact k2,k3,k4,g2 bi k k5 ⟨_,mS,by simp[names,qj,qg]⟩,Nat.ne_of_lt hlt,k6.keep (λb' h hl=>⟨g4 b' h hl,hold b' hl⟩) O (hold bi hlt)⟩
        . simp at hi hj;omega)
     exact⟨_,_,β',who',hrun,S'⟩
   . exact(kC h).elim
 . exact(kC h).elim
end
section
variable {P:Program} {CO:Qb} {T:TT} {E:Entry} {D:Nat->Prop} {β:Beta} {who:Who} {U U':Slots} {hd:List (AV×Value)} {a:Act} {w w':World} {R W:List Nat}
def q5x {av:AV} {v:Value} (h:RelA β who w av v):Rel β who w av v/\names av=qj av/\Vs.occ av=occA av:=by
 cases av with
 |tup vs=>exact h.elim
 |_=>exact⟨h,rfl,rfl⟩
def Sim.split {vs:List AV} {arr:Array Value} {i:Nat} {v:AV} (S:Sim E D β who U ((.tup vs,.tuple arr)::hd) a w) (hv:vs[i]? =some v):
 arr[i]? =some (arr.getD i undef)/\Sim E D β who U ((v,arr.getD i undef)::(.tup (vs.set i .dead),.tuple arr)::hd) a w:=by
 have hA:Rel β who w (.tup vs) (.tuple arr):=S.hrel _ mS;obtain⟨arr',e,hsz,hA⟩:=hA;cases e
 have hi:i<vs.length:=by
  rcases zE1 i vs.length with h|h
  . exact h
  . grind
 rw[List.getElem?_eq_getElem hi]at hv;injection hv with hv
 subst hv;obtain⟨r1,r2,r3⟩:=q5x (hA i hi);have hi':i<arr.size:=by rw[hsz];exact hi
 refine⟨by simp[Array.getD,hi'],?_⟩
 have hsplit:vs=vs.take i++vs[i]::vs.drop (i+1):=by simp
 have hset:vs.set i .dead=vs.take i++ .dead::vs.drop (i+1):=by
  rw[zv1,iP hi]
 have hn1:names (.tup vs)=(vs.take i).flatMap qj++qj vs[i]++(vs.drop (i+1)).flatMap qj:=by
  exact(congrArg (λl=>List.flatMap qj l) hsplit).trans (by grind)
 have hn2:names (.tup (vs.set i .dead))=(vs.take i).flatMap qj++(vs.drop (i+1)).flatMap qj:=by
  rw[hset];simp[names,qj,qg]
 have ho1:Vs.occ (.tup vs)=(vs.take i).flatMap occA++occA vs[i]++(vs.drop (i+1)).flatMap occA:=by
  exact(congrArg (λl=>List.flatMap occA l) hsplit).trans (by grind)
 have ho2:Vs.occ (.tup (vs.set i .dead))=(vs.take i).flatMap occA++(vs.drop (i+1)).flatMap occA:=by
  rw[hset];simp[Vs.occ,occA,occC]
 have S0:=S.drop rfl;have hno:=S.hnod;simp only[fC]at hno;rw[hn1]at hno;have k1:=zQ.1 hno;have k2:=zQ.1 k1.1;have k3:=zQ.1 k2.1
 exact{S0 with
  hrel:=λy hy=>by
   rcases mC hy with rfl|hy
   . exact r1
   . rcases mC hy with rfl|hy
     . refine⟨arr,rfl,by simp[hsz],λj hj=> ?_⟩
       have hj':j<vs.length:=by simpa using hj
       by_cases e:j=i
       . subst e;rw[zp2];trivial
       grind
     . exact S0.hrel y hy
  hnod:=by
   simp only[fC,hn2,r2];refine zQ.2 ⟨k3.2.1,zQ.2 ⟨zQ.2 ⟨k3.1,k2.2.1,?_⟩,k1.2.1,?_⟩,?_⟩
   . rintro x hx y hy rfl;exact k2.2.2 x (zB1 _ hx) x hy rfl
   . rintro x hx y hy rfl
     rcases zY.1 hx with hx|hx
     . exact k1.2.2 x (by simp only[zY];exact .inl (.inl hx)) x hy rfl
     . exact k1.2.2 x (by simp only[zY];exact .inr hx) x hy rfl
   grind
  hdis:=λy hy=>by
   rcases mC hy with rfl|hy
   . intro n hn s;exact S.hdis _ mS n (by grind) s
   . rcases mC hy with rfl|hy
     . intro n hn s;rw[hn2]at hn;refine S.hdis _ mS n ?_ s
       grind
     . exact S0.hdis y hy
  hocc:=λy hy=>by
   rcases mC hy with rfl|hy
   . intro n hn;exact S.hocc _ mS n (by grind)
   . rcases mC hy with rfl|hy
     . intro n hn;rw[ho2]at hn;refine S.hocc _ mS n ?_
       grind
     . exact S0.hocc y hy}
def Sim.putBack {s:Nat} {v:AV} (S:Sim E D β who U ((v,a.tmps.getD s undef)::hd) a w) (hs:names (U.get s)=[]):Sim E D β who (U.set s v) hd a w:=by
 have hv:=S.hrel _ mS;have S0:=S.drop rfl;have hno:=S.hnod;simp only[fC]at hno;have k:=zQ.1 hno
 exact{S0 with
  rel:=λt=>by
   by_cases h:t=s
   . subst h;rw[qh];exact hv
   . rw[qc _ _ h];exact S.rel t
  nod:=λt=>by
   by_cases h:t=s
   . subst h;rw[qh];exact k.1
   . rw[qc _ _ h];exact S.nod t
  dis:=λt t' n h1 h2=>by
   by_cases h:t=s<;>by_cases h':t'=s
   . rw[h,h']
   . subst h;rw[qh]at h1;rw[qc _ _ h']at h2;exact absurd h2 (S.hdis _ mS n h1 t')
   . subst h';rw[qh]at h2;rw[qc _ _ h]at h1;exact absurd h1 (S.hdis _ mS n h2 t)
   . rw[qc _ _ h]at h1;rw[qc _ _ h']at h2;exact S.dis t t' n h1 h2
  occ:=λt n h1=>by
   by_cases h:t=s
   . subst h;rw[qh]at h1;exact S.hocc _ mS n h1
   . rw[qc _ _ h]at h1;exact S.occ t n h1
  hdis:=λy hy n h1 t=>by
   by_cases h:t=s
   . subst h;rw[qh]
     grind
   . rw[qc _ _ h];exact S0.hdis y hy n h1 t}
def qar {x:Operand} {i:Nat} {v:AV} (h:Run CO (q98 x i) U v U' R W) (S:Sim E D β who U hd a w):
 ∃r,(Instr.extract (a.eval x) i).run P w= .ok r w/\Sim E D β who U' ((v,r)::hd) a w:=by
 unfold q98 at h;split at h
 . rename_i t;obtain⟨al,U1,_,_,_,_,h1,h2⟩:=kA h;obtain⟨hal,rfl⟩:=kF h1;split at h2
   . exact(kC h2).elim
   . obtain⟨c,U2,_,_,_,_,h1',h5⟩:=kA h2;clear h2;have h2:=h5;clear h5;obtain⟨hc,rfl⟩:=kF h1';split at h2
     . rename_i u
       obtain⟨vs,hvs,hu⟩: ∃vs,U2.get t= .tup vs/\vs[i]? =some u:=by
        simp only[vwf]at hc;split at hc
        . unfold cellV at hc;split at hc
          . rename_i m cells hb;rw[hb]at hal;cases hal
          . grind
          . rename_i hb;rw[hb]at hal;cases hal
          . cases hc
        . cases hc
       have hr:=S.rel t;rw[hvs]at hr;obtain⟨arr,e,hsz,hA⟩:=hr;have hev:a.eval (.tmp t)= .tuple arr:=e
       have hi:i<vs.length:=by
        rcases zE1 i vs.length with h|h
        . exact h
        . grind
       have hue:vs[i]=u:=by rw[List.getElem?_eq_getElem hi]at hu;injection hu
       have hi':i<arr.size:=by rw[hsz];exact hi
       have hrun:(Instr.extract (a.eval (.tmp t)) i).run P w= .ok (arr.getD i undef) w:=by
        rw[hev];simp[Instr.extract,Array.getD,hi']
       split at h2
       . obtain⟨_,U3,_,_,_,_,h3,h4⟩:=kA h2;obtain⟨v',hk,this⟩:=kH h3;subst this;obtain⟨rfl,rfl⟩:=kB h4;rw[hvs]at hk;cases hk;have S1:=S.takeAll t;rw[hvs,e]at S1;obtain⟨_,S2⟩:=S1.split hu;have S3:=S2.swap;rw[<-e]at S3;have S4:=S3.putBack (by rw[qh];rfl)
         refine⟨_,hrun,S4.ext λs=> ?_⟩
         by_cases e':s=t
         . subst e';rw[qh,qh]
         . rw[qc _ _ e',qc _ _ e',qc _ _ e']
       . rename_i hno;obtain⟨rfl,rfl⟩:=kB h2;obtain⟨r1,r2,r3⟩:=q5x (hA i hi);rw[hue]at r1 r3;refine⟨_,hrun,S.take0 r1 (X5 hno) (λn hn=>S.occ t n ?_)⟩
         rw[hvs];rw[r3]at hn;exact zG.2 ⟨_,hue▸zJ hi,hn⟩
     . exact(kC h2).elim
 . exact(kC h).elim
def run_v {s:Sem Value} {c:Value} (h:s.run P w= .ok c w'):(do pure (.value (<-s)):Sem Next).run P w= .ok (.value c) w':=by
 simp[h]
def OpOut (P:Program) (E:Entry) (D:Nat->Prop) (idx:Nat) (U':Slots) (v:AV) (a:Act) (r:Result Next):Prop:=
 ∃c w' β' who',(r= .ok (.value c) w'\/(r= .ok .skip w'/\c=undef))/\Sim E (Dn D idx) β' who' U' [(v,c)] a w'
def OpOut.same {idx:Nat} {v:AV} {c:Value} {r:Result Next} {β':Beta} {who':Who} (hr:r= .ok (.value c) w') (S:Sim E D β' who' U' [(v,c)] a w'):OpOut P E D idx U' v a r:=
 ⟨c,w',β',who',.inl hr,S.mono (λn h=> .inl h) (Dn_fn S.dfn)⟩
def dn15 {idx:Nat} {k:Nat} (hk:k<16):Dn D idx (fresh idx k):= .inr ⟨k,hk,rfl⟩
def q5o:Op->Bool
 | .call {callee:= .builtin _,.. }=>false
 | .call _=>true
 |_=>false
def Sim.freezeBx (S:Sim E D β who U hd a w) (t:Nat) {n:Nat} {k:IntKind} {x:Int} (f:Nat) (hc:U.get t= .bx (.nm n) [.int k x]):
 ∃who',Sim E D β who' (U.set t (.iptr none (.int k) [x] 0 0)) ((.iptr (some f) (.int k) [x] 0 0,.func (.func f) #[] #[a.tmps.getD t undef])::hd) a w:=by
 have hr:Rel β who w (.bx (.nm n) [.int k x]) (a.tmps.getD t undef):=hc▸S.rel t;obtain⟨e0,b,arr,el,e1,e2,e3,e4⟩:=hr
 have hlt:b<w.heap.size:=by
  rcases zE1 b w.heap.size with h|h
  . exact h
  . grind
 have hnm:names (U.get t)=[n]:=by rw[hc];simp[names,qj,qg]
 have hI: ∀g,Rel β (unown who [n]) w (.iptr g (.int k) [x] 0 0) (wrapP g (a.tmps.getD t undef)):=λg=>by
  refine⟨b,0,by rw[e1];simp,by simp,q3w e3 (by simp),hlt,λi hi=> ?_⟩
  have hi0:i=0:=by simpa using hi
  subst hi0;have h1:=e4.2 0 (by simp)
  have h1':arr.getD 0 undef= .int k x:=h1;have hs:0<arr.size:=by rw[e4.1];simp
  show cellAt w b (0+0*1) 0=some (.int k x)
  simp only[cellAt,World.cell?,e2];rw[<-h1'];simp[Array.getD,hs]
 refine⟨unown who [n],?_⟩
 have S1:Sim E D β (unown who [n]) (U.set t .dead) hd a w:=by
  have S0:=(S.takeAll t).drop rfl
  refine S0.world (λs=> ?_) (λx hx=> ?_) (λb n hb=>S.wsz b n (Y9 hb)) (zH _) (λ_ _ _=>rfl) (λb n hb=>S.fr1 b n (Y9 hb))
   (λb hb=>Zx (S.fr3 b hb) (λh=>S.dfn (S.occ t _ (ql (by rw[hnm];exact h)))))
  . refine(S0.rel s).keep (Keeps.unown λm h h'=> ?_)
    by_cases e:s=t
    . subst e;rw[qh]at h;simp[names,qj,qg]at h
    . rw[qc _ _ e]at h;exact e (S.dis s t m h (by rw[hnm];exact h'))
  . exact(S0.hrel x hx).keep (Keeps.unown λm h h'=>S.hdis x hx m h t (by rw[hnm];exact h'))
 have S2:=S1.abs (s:=t) (v:= .iptr none (.int k) [x] 0 0) (hI none) (λn h=>by cases h) zK2 (λn h=>by cases h)
 have S3:=S2.take0 (hI (some f)) rfl (λn h=>by cases h)
 refine S3.ext λs=> ?_
 by_cases e:s=t
 . subst e;rw[qh,qh]
 . rw[qc _ _ e,qc _ _ e,qc _ _ e]
def q7o {f:Nat} {first cap:Array Operand} {v:AV} {o:Oper} (h:Run CO (q4c f first.toList cap.toList) U v U' R W) (ho:o.op= .makeFunc (.func f) first cap)
 (S:Sim E D β who U [] a w): ∃c who',(execOp a.eval o).run P w= .ok (.value c) w/\Sim E D β who' U' [(v,c)] a w:=by
 unfold q4c at h;split at h
 . rename_i s hf hc;obtain⟨av,U1,_,_,_,_,h1,h2⟩:=kA h;obtain⟨rfl,rfl⟩:=kD h1;have hf':first= #[]:=by apply Array.ext';simpa using hf
   have hc':cap= #[.tmp s]:=by apply Array.ext';simpa using hc
   have hx:(execOp a.eval o).run P w= .ok (.value (.func (.func f) #[] #[a.tmps.getD s undef])) w:=by
    unfold execOp;simp[ho,hf',hc',Instr.makeFunc,Act.eval]
   split at h2
   . rename_i n k x hg;obtain⟨_,U2,_,_,_,_,h3,h4⟩:=kA h2;have:=kE h3;subst this;obtain⟨rfl,rfl⟩:=kB h4;obtain⟨who',S'⟩:=S.freezeBx s f hg;exact⟨_,who',hx,S'⟩
   . rename_i t xs i j hg;obtain⟨rfl,rfl⟩:=kB h2;have hr:=S.rel s;rw[hg]at hr;obtain⟨b,o',e1,e2⟩:=hr;refine⟨_,who,hx,S.take0 ⟨b,o',?_,e2⟩ rfl (λn hn=>by cases hn)⟩
     rw[e1];rfl
   . exact(kC h2).elim
 . exact(kC h).elim
def qek {t0 e:TypeId} {tys:Array TypeId} {rt:TypeId} {i:TypeInfo} (h0:tys[0]? =some t0) (hu0:P.underlying t0=some (.slice e))
 (hi:P.info? e=some i) {b o dLen dCap sLen:Nat} {cur:Array Value} {el:TypeId} (hg:w.heap[b]? =some (.cells cur el (0,0))) {ad:Option Addr} {c:Nat} {news:List Value}
 (hf:(Builtin.firstCells i.size (Nat.min sLen dLen) (.slice ad sLen c)).run P w= .ok news.toArray w) (h1': ∀x∈news,x.oneCell'=true)
 (hfit:o+news.length<=cur.size):
 (Builtin.copy_ tys rt #[.slice (some ⟨b,o,none⟩) dLen dCap,.slice ad sLen c]).run P w=
   .ok (goInt (Nat.min sLen dLen)) (w.setRow b (qx cur o news)):=by
 have hst:=run_storeCells_at P b o el news 0 cur w hg (by simpa using hfit) h1'
 simp only[zL]at hst;simp only[qx];simp[Builtin.copy_,h0,run_underlying hu0,Xu hi,Builtin.lenOf,hf,hst]
def qhy (hT:TTok P T) {idx:Nat} {tys:Array TypeId} {rt:TypeId} {x y v:AV} {cx cy:Value} (h:Run CO (qjh T idx tys x y) U v U' R W)
 (S:Sim E D β who U [(y,cy),(x,cx)] a w) (hf: ∀k,k<16-> ¬D (fresh idx k)):
 ∃r w' β' who',(Builtin.copy_ tys rt #[cx,cy]).run P w= .ok r w'/\Sim E (Dn D idx) β' who' U' [(v,r)] a w':=by
 have hy:Rel β who w y cy:=S.hrel _ mS;have hx:Rel β who w x cx:=S.hrel _ (mT mS);have S0:=(S.drop rfl).drop rfl;unfold qjh at h;split at h
 case h_2=>exact(kC h).elim
 rename_i t0 h0;split at h
 case h_2=>exact(kC h).elim
 rename_i e et cells ht0;obtain⟨z,U1,_,_,_,_,q1,q2⟩:=kA h;obtain⟨rfl,hs⟩:=Run.shown q1 S hy;obtain⟨t',ys⟩:=z;split at q2
 case h_2=>exact(kC q2).elim
 rename_i s n sz;obtain⟨av,U2,_,_,_,_,q3,q4⟩:=kA q2;obtain⟨hav,rfl⟩:=kD q3;split at q4
 case h_2=>exact(kC q4).elim
 rename_i m t xs;split at q4
 case isFalse=>exact(kC q4).elim
 rename_i hh;obtain⟨hh1,hh2,hh3⟩:=hh;simp only at hh1;subst hh1 hh3;obtain⟨_,U3,_,_,_,_,q5,q6⟩:=kA q4;obtain⟨⟨hypos,hxpos⟩,rfl⟩:=kG q5;obtain⟨_,U4,_,_,_,_,q7,q8⟩:=kA q6;have:=kE q7;subst this;obtain⟨rfl,rfl⟩:=kB q8;dsimp only at*;obtain⟨hu0,⟨ei,ez,he,hes,hbytes,_,hz,hzc⟩⟩:=(hT t0 _ ht0).desc;have hss:ei.size=t'.size:=by rw[hes,hh2]
 have S1:=S0.takeAll s;have hr:=S0.rel s;rw[<-hav]at S1 hr;obtain⟨hb,hr⟩:=hr;rcases hr with⟨_,hnil⟩|⟨b,o,cap,arr,el,e1,e2,e3,e4,e5,e6⟩
 . subst hnil;simp at hxpos
 have hcx:cx= .slice (some ⟨b,o,none⟩) xs.length cap:=by
  have:=(hx:q15 (β m) sz none cx).1;rw[this,<-hb,e1]
 obtain⟨L,hL⟩: ∃L,L=Nat.min ys.length xs.length:=⟨_,rfl⟩;have hL':L=min ys.length xs.length:=hL;have hp:=Ty.size_pos t';rcases hs with⟨_,hnil⟩|⟨bs,os,cs,rfl,f1,f2,f3⟩
 . subst hnil;simp at hypos
 have hyl:(ys.take L).length=L:=by rw[zf];omega
 have hs':SlS who w t' (ys.take L) (.slice (some ⟨bs,os,none⟩) (ys.take L).length cs):= .inr ⟨bs,os,cs,rfl,f1,by rw[hyl];omega,λi hi=>by
  rw[hyl]at hi;rw[zv2];exact f3 i O⟩
 obtain⟨news,n1,n2,n3,n4,-⟩:=hs'.news (P:=P) (e:=0);rw[hyl]at n1 n3;have hLc:L*t'.size<=cap*t'.size:=zN _ O;have hfit:o+news.length<=arr.size:=O
 have hrun:=qek (P:=P) (rt:=rt) h0 hu0 he (dLen:=xs.length) (dCap:=cap) (sLen:=ys.length) (ad:=some ⟨bs,os,none⟩) (c:=cs) e2 (by
  have:=n3 w rfl;rw[<-hL,hss];simpa [Builtin.firstCells]using this) n2 hfit
 rw[<-hL]at hrun;have hzl:(ys.take xs.length++xs.drop ys.length).length=xs.length:=by rw[zi,zf,zU1];omega
 have hf15: ¬D (fresh idx 15):=hf 15 O
 obtain⟨β',who',S'⟩:=Sim.handWrite (m:=fresh idx 15) (ys:=ys.take xs.length++xs.drop ys.length) (c':=a.tmps.getD s undef) (row:=qx arr o news) S1 hf15 (λx h=> .inl h) (.inr ⟨15,O,rfl⟩) (Dn_fn S.dfn) e5
  (fun β' who' q1 q2 q3=>by
    have hheap:=setRow_heap w b arr (qx arr o news) el (0,0) e2;refine⟨q1.symm,.inr ⟨b,o,cap,_,el,by rw[hzl];exact e1,hheap,by rw[Qw hfit];exact e3,by rw[hzl];exact e4,q2 b e5,λi hi=> ?_⟩⟩
    rw[hzl]at hi;have himm: ∀b',who b'=none->b'<w.heap.size->who' b'=none/\(w.setRow b (qx arr o news)).heap[b']? =w.heap[b']? :=λb' hb' _=>q3 b' hb'
    have hsz':w.heap.size<=(w.setRow b (qx arr o news)).heap.size:=by simp
    by_cases c:i<L
    . have ge:(ys.take xs.length++xs.drop ys.length)[i]'(by rw[hzl];exact hi)=(ys.take L)[i]'(by rw[hyl];exact c):=by
       rw[zz1 (by grind),zv2,zv2]
      rw[ge];have hlt:(i+1)*t'.size<=L*t'.size:=zN _ O;rw[zI1]at hlt;refine RelI.ext' (λj hj=> ?_) (RelI.keep himm hsz' (n4 i (by rw[hyl];exact c)))
      simp only[cellAt,World.cell?,hheap,zF];simp only[zf3,zY2,if_false];rw[Qp hfit,iP O];congr 1;omega
    . have ge:(ys.take xs.length++xs.drop ys.length)[i]'(by rw[hzl];exact hi)=xs[i]:=by
       rw[zc1 (by grind),zi3]
       congr 1;rw[zf];omega
      rw[ge];have hle:L*t'.size<=i*t'.size:=zN _ O;refine RelI.ext' (g:=cellAt w b (o+i*t'.size)) (λj hj=> ?_) (RelI.keep himm hsz' (e6 i hi))
      simp only[cellAt,World.cell?,hheap,e2,zF];simp only[zf3,zY2,if_false];rw[Qp hfit,iN' O])
 have S4:=S'.putBack (by rw[qh];rfl)
 refine⟨_,_,β',who',by rw[hcx];exact hrun,?_⟩
 have S5:=S4.take0 (v:= .int .i64 ((min ys.length xs.length:Nat):Int)) (c:=goInt L) (by rw[hL'];rfl) rfl (λn hn=>by simp[Vs.occ,occA,occC]at hn)
 refine S5.ext λt=> ?_
 by_cases e:t=s
 . subst e;rw[qh,qh]
 . rw[qc _ _ e,qc _ _ e,qc _ _ e]
def qmi (hT:TTok P T) (hEP:E.prog=P) {idx mode:Nat} {o:Oper} {v:AV} (hnc:q5o o.op=false) (h:Run CO (opAV T idx mode o) U v U' R W) (S:Sim E D β who U [] a w)
 (hf: ∀k,k<16-> ¬D (fresh idx k)):OpOut P E D idx U' v a ((execOp a.eval o).run P w):=by
 unfold opAV at h;cases ho:o.op with
 |move x=>
  simp only[ho]at h;obtain⟨u,U1,_,_,_,_,h1,h2⟩:=kA h;obtain⟨who',S1⟩:=Run.rdm h1 S;obtain⟨rfl,rfl⟩:=kB h2;exact OpOut.same (by unfold execOp;simp only[ho];rfl) (S1.fix (t:=o.type) hT)
 |assign x=>
  simp only[ho]at h;obtain⟨u,U1,_,_,_,_,h1,h2⟩:=kA h;obtain⟨who',S1⟩:=Run.rdm h1 S;have S2:=(S1.fix (t:=o.type) hT).nlI (m:=mode);split at h2
  . rename_i t xs he;rw[he]at S2;have hn:Rel β who' w (.sl .nl t xs) (a.eval x):=S2.hrel _ mS;obtain⟨hc,rfl⟩:=hn;unfold nilAV at h2;split at h2
    . split at h2
      . rename_i inn ty;obtain⟨rfl,rfl⟩:=kB h2;obtain⟨β',S3⟩:=S2.newNilDp (t:=ty) (hf 0 O) (D':=Dn D idx) (λn h=> .inl h) (dn15 O) (Dn_fn S2.dfn)
        rw[show nilS=a.eval x from hc.symm]at S3
        exact⟨_,w,β',who',.inl (by unfold execOp;simp only[ho];rfl),S3⟩
      . exact(kC h2).elim
    . obtain⟨rfl,rfl⟩:=kB h2;obtain⟨β',S3⟩:=S2.newNil (t:=t) (hf 0 O) (D':=Dn D idx) (λn h=> .inl h) (dn15 O) (Dn_fn S2.dfn)
      rw[show nilS=a.eval x from hc.symm]at S3
      exact⟨_,w,β',who',.inl (by unfold execOp;simp only[ho];rfl),S3⟩
  . obtain⟨rfl,rfl⟩:=kB h2;exact OpOut.same (by unfold execOp;simp only[ho];rfl) S2
 |pick c x y=>
  simp only[ho]at h;split at h
  . rename_i t;obtain⟨b,U1,_,_,_,_,h1,h2⟩:=kA h;obtain⟨hb,rfl⟩:=Run.mknow' h1;have hc:a.eval (.tmp t)= .bool b:=by have:=S.rel t;rw[hb]at this;exact this
    cases b with
    |true=>
     obtain⟨rfl,S1⟩:=Run.rd h2 S;exact OpOut.same (by unfold execOp;simp[ho,hc,asBool]) S1
    |false=>
     obtain⟨rfl,S1⟩:=Run.rd h2 S;exact OpOut.same (by unfold execOp;simp[ho,hc,asBool]) S1
  . exact(kC h).elim
 |alloc e=>
  simp only[ho]at h;obtain⟨rv,w1,β',who',g1,g2⟩:=qej hT h S hf;exact⟨rv,w1,β',who',.inl (by unfold execOp;simp_all),g2⟩
 |box e x=>
  simp only[ho]at h;obtain⟨u,U1,_,_,_,_,h1,h2⟩:=kA h;obtain⟨who1,S0⟩:=Run.rdQ h1 S;have S1:=(S0.fix (t:=e) hT).nlI (m:=mode);obtain⟨rv,w1,β',who',g1,g2⟩:=qkm (P:=P) h2 S1 hf;exact⟨rv,w1,β',who',.inl (by unfold execOp;simp_all),g2⟩
 |build t ps=>
  simp only[ho]at h;obtain⟨vs,U1,_,_,_,_,h1,h2⟩:=kA h;obtain⟨e1,cs,rfl,S1⟩:=Run.rdParts h1 S;obtain⟨r,g1,g2⟩:=qe6 hT h2 e1 S1;exact OpOut.same (by unfold execOp;simp_all) g2
 |buildSlice t n ps=>
  simp only[ho]at h;split at h
  . obtain⟨x,hps,rfl,v',U1,_,_,_,_,h1,h2⟩:=Run.buildDpAV' h;have S1:=Run.rdT h1 S;obtain⟨r,w1,β',who',g1,g2⟩:=qam hT h2 S1 hf;obtain rfl:ps= #[(0,x)]:=by grind
    exact⟨r,w1,β',who',.inl (by unfold execOp;simp_all),g2⟩
  obtain⟨vs,U1,_,_,_,_,h1,h2⟩:=kA h;obtain⟨e1,cs,rfl,S1⟩:=Run.rdParts h1 S;obtain⟨r,w1,β',who',g1,g2⟩:=q5a hT h2 e1 S1 hf;exact⟨r,w1,β',who',.inl (by unfold execOp;simp_all),g2⟩
 |load t p=>
  simp only[ho]at h;obtain⟨u,U1,_,_,_,_,h1,h2⟩:=kA h;obtain⟨rfl,S1⟩:=Run.rd h1 S;split at h2
  . rename_i s n k;obtain⟨r,β',who',g1,g2⟩:=qb9 hT h2 S (S1.hrel _ mS) (S1.hocc _ mS n (by simp[Vs.occ,occA,occC])) hf
    exact⟨r,w,β',who',.inl (by unfold execOp;simp_all),g2⟩
  . split at h2
    . obtain⟨_,U2,_,_,_,_,h3,h4⟩:=kA h2;obtain⟨who2,S2⟩:=qem h3 S1;obtain⟨r,g1,g2⟩:=q8i hT h4 S2;exact OpOut.same (by unfold execOp;simp only[ho];exact run_v g1) g2
    . obtain⟨r,g1,g2⟩:=q8i hT h2 S1;exact OpOut.same (by unfold execOp;simp_all) g2
 |store t p x=>
  simp only[ho]at h;split at h
  . obtain⟨u,U1,_,_,_,_,h1,h2⟩:=kA h;have S1:=Run.rdT h1 S;obtain⟨q,U2,_,_,_,_,h3,h4⟩:=kA h2;obtain⟨rfl,S2⟩:=Run.rd h3 S1;split at h4
    . obtain⟨_,U3,_,_,_,_,h5,h6⟩:=kA h4;obtain⟨w1,β',who',g1,g2⟩:=q3t hT h5 S1 (S2.hrel _ mS) hf;obtain⟨rfl,rfl⟩:=kB h6;exact⟨undef,w1,β',who',.inr ⟨by unfold execOp;simp_all,rfl⟩,g2.take_dead⟩
    . exact(kC h4).elim
  . rename_i mode' hmode;obtain⟨u,U1,_,_,_,_,h1,h2⟩:=kA h;obtain⟨who1,S1⟩:=Run.rdQ h1 S;obtain⟨q,U2,_,_,_,_,h3,h4⟩:=kA h2;obtain⟨rfl,S2⟩:=Run.rd h3 S1;split at h4
    . obtain⟨_,U3,_,_,_,_,h5,h6⟩:=kA h4;obtain⟨w1,β',who',g1,g2⟩:=q3t hT h5 ((S1.fix (t:=t) hT).nlI (m:=mode)) (S2.hrel _ mS) hf;obtain⟨rfl,rfl⟩:=kB h6;exact⟨undef,w1,β',who',.inr ⟨by unfold execOp;simp_all,rfl⟩,g2.take_dead⟩
    . obtain⟨_,U3,_,_,_,_,h5,h6⟩:=kA h4;obtain⟨w1,β',g1,g2⟩:=qet hT h5 (((S2.swap.fix (t:=t) hT).nlI (m:=mode)).swap) hf;obtain⟨rfl,rfl⟩:=kB h6;exact⟨undef,w1,β',who1,.inr ⟨by unfold execOp;simp_all,rfl⟩,g2.take_dead⟩
 |nilCheck x=>
  simp only[ho]at h;obtain⟨u,U1,_,_,_,_,h1,h2⟩:=kA h;obtain⟨rfl,S1⟩:=Run.rd h1 S;obtain⟨rfl,rfl,g⟩:=q7s (P:=P) (w:=w) h2 ho rfl (S1.hrel _ mS);exact OpOut.same g S1
 |binOp op t x y yt=>
  simp only[ho]at h;obtain⟨u,U1,_,_,_,_,h1,h2⟩:=kA h;obtain⟨rfl,S1⟩:=Run.rd h1 S;obtain⟨q,U2,_,_,_,_,h3,h4⟩:=kA h2;obtain⟨rfl,S2⟩:=Run.rd h3 S1;obtain⟨rfl,e2,e3,c,g1,g2⟩:=ql8 (w:=w) (ox:=x) (oy:=y) hT h4 (S1.hrel _ mS) (S2.hrel _ mS);exact OpOut.same (by unfold execOp;simp only[ho];exact run_v g1) (S.take0 g2 e2 (λn hn=>by rw[e3]at hn;cases hn))
 |unOp op t x=>
  simp only[ho]at h;obtain⟨u,U1,_,_,_,_,h1,h2⟩:=kA h;obtain⟨rfl,S1⟩:=Run.rd h1 S;obtain⟨rfl,e2,e3,c,g1,g2⟩:=qn1 (P:=P) (w:=w) h2 (S1.hrel _ mS);exact OpOut.same (by unfold execOp;simp_all) (S.take0 g2 e2 (λn hn=>by rw[e3]at hn;cases hn))
 |convert s d x=>
  simp only[ho]at h;obtain⟨u,U1,_,_,_,_,h1,h2⟩:=kA h;obtain⟨rfl,S1⟩:=Run.rd h1 S;obtain⟨rfl,e2,e3,c,g1,g2⟩:=qh2 (w:=w) hT h2 (S1.hrel _ mS);exact OpOut.same (by unfold execOp;simp_all) (S.take0 g2 e2 (λn hn=>by rw[e3]at hn;cases hn))
 |makeSlice t l c=>
  simp only[ho]at h;split at h
  . obtain⟨u,U1,_,_,_,_,h1,h2⟩:=kA h;obtain⟨rfl,S1⟩:=Run.rd h1 S;obtain⟨q,U2,_,_,_,_,h3,h4⟩:=kA h2;obtain⟨rfl,S2⟩:=Run.rd h3 S1;obtain⟨r,w1,β',who',g1,g2⟩:=qb6 hT h4 S (S1.hrel _ mS) (S2.hrel _ mS) hf;exact⟨r,w1,β',who',.inl (by unfold execOp;simp_all),g2⟩
  . obtain⟨u,U1,_,_,_,_,h1,h2⟩:=kA h;obtain⟨rfl,S1⟩:=Run.rd h1 S;obtain⟨q,U2,_,_,_,_,h3,h4⟩:=kA h2;obtain⟨rfl,S2⟩:=Run.rd h3 S1;obtain⟨r,w1,β',who',g1,g2⟩:=qhm hT h4 S (S1.hrel _ mS) (S2.hrel _ mS) hf;exact⟨r,w1,β',who',.inl (by unfold execOp;simp_all),g2⟩
 |fieldAddr t x f=>
  simp only[ho]at h;obtain⟨u,U1,_,_,_,_,h1,h2⟩:=kA h;obtain⟨rfl,S1⟩:=Run.rd h1 S;obtain⟨rfl,e2,e3,c,g1,g2⟩:=q6h (w:=w) hT h2 (S1.hrel _ mS);exact OpOut.same (by unfold execOp;simp_all) (S.take0 g2 e2 (λn hn=>S1.hocc _ mS n (e3 n hn)))
 |field t x f=>
  simp only[ho]at h;obtain⟨u,U1,_,_,_,_,h1,h2⟩:=kA h;obtain⟨rfl,S1⟩:=Run.rd h1 S;obtain⟨rfl,e2,e3,c,g1,g2⟩:=qdb (w:=w) hT h2 (S1.hrel _ mS);exact OpOut.same (by unfold execOp;simp_all) (S.take0 g2 e2 (λn hn=>by rw[e3]at hn;cases hn))
 |index t x i=>
  simp only[ho]at h;obtain⟨u,U1,_,_,_,_,h1,h2⟩:=kA h;obtain⟨rfl,S1⟩:=Run.rd h1 S;obtain⟨q,U2,_,_,_,_,h3,h4⟩:=kA h2;obtain⟨rfl,S2⟩:=Run.rd h3 S1;obtain⟨rfl,e2,e3,c,g1,g2⟩:=qdu hT h4 (S1.hrel _ mS) (S2.hrel _ mS);exact OpOut.same (by unfold execOp;simp_all) (S.take0 g2 e2 (λn hn=>by rw[e3]at hn;cases hn))
 |indexAddr t x i=>
  simp only[ho]at h;split at h
  . rename_i g;obtain⟨q,U2,_,_,_,_,h3,h4⟩:=kA h;obtain⟨rfl,S2⟩:=Run.rd h3 S;obtain⟨rfl,e2,e3,c,g1,g2⟩:=qlq hT h4 (hEP▸S.glob) (S2.hrel _ mS);exact OpOut.same (by unfold execOp;simp only[ho];exact run_v g1) (S.take0 g2 e2 (λn hn=>by rw[e3]at hn;cases hn))
  obtain⟨u,U1,_,_,_,_,h1,h2⟩:=kA h;obtain⟨rfl,S1⟩:=Run.rd h1 S;obtain⟨q,U2,_,_,_,_,h3,h4⟩:=kA h2;obtain⟨rfl,S2⟩:=Run.rd h3 S1;split at h4
  . rename_i s n k;obtain⟨rfl,e2,e3,c,g1,g2⟩:=q97 hT h4 S (S1.hrel _ mS) (S2.hrel _ mS)
    exact OpOut.same (by unfold execOp;simp_all) (S.take0 g2 e2 (λm hm=>by
     rw[e3 m hm];exact S1.hocc _ mS n (by simp[Vs.occ,occA,occC])))
  . obtain⟨rfl,e2,e3,c,g1,g2⟩:=q6g hT h4 S (S1.hrel _ mS) (S2.hrel _ mS);exact OpOut.same (by unfold execOp;simp_all) (S.take0 g2 e2 (λn hn=>S1.hocc _ mS n (e3 n hn)))
 |extract x i=>
  simp only[ho]at h;obtain⟨r,g1,g2⟩:=qar (P:=P) h S;exact OpOut.same (by unfold execOp;simp_all) g2
 |slice t x lo hi mx=>
  cases mx with
  |some m=>simp only[ho]at h;exact(kC h).elim
  |none=>
   simp only[ho]at h;obtain⟨u,U1,_,_,_,_,h1,h2⟩:=kA h;have S1:=Run.rdC h1 S;obtain⟨l,U2,_,_,_,_,h3,h4⟩:=kA h2
   have hl:U2=U1/\qcg β who w l (lo.map a.eval):=by
    cases lo with
    |none=>obtain⟨rfl,rfl⟩:=kB h3;exact⟨rfl,trivial⟩
    |some l0=>
     obtain⟨q,U3,_,_,_,_,q1,q2⟩:=kA h3;obtain⟨rfl,S2⟩:=Run.rd q1 S1;obtain⟨rfl,rfl⟩:=kB q2;exact⟨rfl,S2.hrel _ mS⟩
   obtain⟨rfl,hl⟩:=hl;obtain⟨k,U3,_,_,_,_,h5,h6⟩:=kA h4
   have hh:U3=U2/\qcg β who w k (hi.map a.eval):=by
    cases hi with
    |none=>obtain⟨rfl,rfl⟩:=kB h5;exact⟨rfl,trivial⟩
    |some l0=>
     obtain⟨q,U4,_,_,_,_,q1,q2⟩:=kA h5;obtain⟨rfl,S2⟩:=Run.rd q1 S1;obtain⟨rfl,rfl⟩:=kB q2;exact⟨rfl,S2.hrel _ mS⟩
   obtain⟨rfl,hh⟩:=hh;obtain⟨r,β',who',g1,g2⟩:=qel hT h6 S1 hl hh (hf 15 O) (D':=Dn D idx) (λn h=> .inl h) (dn15 O) (Dn_fn S1.dfn)
   exact⟨r,w,β',who',.inl (by unfold execOp;simp_all),g2⟩
 |call c=>
  obtain⟨callee,args,tys⟩:=c;cases callee with
  |value f=>simp[ho,q5o]at hnc
  |invoke r m=>simp[ho,q5o]at hnc
  |builtin b=>
   simp only[ho]at h;unfold qcf at h;split at h
   . rename_i x hargs;have hargs':args= #[x]:=by apply Array.ext';simpa using hargs
     subst hargs';split at h
     . rename_i t ht;obtain⟨u,U1,_,_,_,_,h1,h2⟩:=kA h;obtain⟨rfl,S1⟩:=Run.rd h1 S;have S2:=S1.fix (t:=t) hT;split at h2
       . rename_i s n k;obtain⟨rfl,e2,e3,c,g1,g2⟩:=qeq (rt:=o.type) hT h2 ht S (S1.hrel _ mS)
         exact OpOut.same (by
          unfold execOp;simp only[ho,resolve,Sem.run_bind,Sem.run_pure,Result.andThen_ok,invoke,builtin];simp_all) (S.take0 g2 e2 (λn hn=>by rw[e3]at hn;cases hn))
       obtain⟨rfl,e2,e3,c,g1,g2⟩:=qju (rt:=o.type) hT h2 ht S2 (S2.hrel _ mS)
       exact OpOut.same (by
        unfold execOp;simp only[ho,resolve,Sem.run_bind,Sem.run_pure,Result.andThen_ok,invoke,builtin];simp_all) (S.take0 g2 e2 (λn hn=>by rw[e3]at hn;cases hn))
     . exact(kC h).elim
   . rename_i x y hargs;have hargs':args= #[x,y]:=by apply Array.ext';simpa using hargs
     subst hargs';split at h
     . obtain⟨u,U1,_,_,_,_,h1,h2⟩:=kA h;obtain⟨rfl,S1⟩:=Run.rd h1 S;obtain⟨q,U2,_,_,_,_,h3,h4⟩:=kA h2;obtain⟨rfl,S2⟩:=Run.rd h3 S1;obtain⟨r,w1,β',who',g1,g2⟩:=q7v (rt:=o.type) hT h4 S2 hf
       exact⟨r,w1,β',who',.inl (by
        unfold execOp;simp only[ho,resolve,Sem.run_bind,Sem.run_pure,Result.andThen_ok,invoke,builtin];simp_all),g2⟩
     . obtain⟨u,U1,_,_,_,_,h1,h2⟩:=kA h;have S1:=Run.rdT h1 S;obtain⟨q,U2,_,_,_,_,h3,h4⟩:=kA h2;have S2:=Run.rdT h3 S1;obtain⟨r,w1,β',who',g1,g2⟩:=q7r (rt:=o.type) hT h4 S2 hf
       exact⟨r,w1,β',who',.inl (by
        unfold execOp;simp only[ho,resolve,Sem.run_bind,Sem.run_pure,Result.andThen_ok,invoke,builtin];simp_all),g2⟩
     . rename_i mode' hmode;obtain⟨u,U1,_,_,_,_,h1,h2⟩:=kA h;have S1:=Run.rdC h1 S;obtain⟨q,U2,_,_,_,_,h3,h4⟩:=kA h2;have S2:=Run.rdT h3 S1;obtain⟨r,w1,β',who',g1,g2⟩:=qbs (rt:=o.type) hT h4 ((S2.swap.fix (t:=tys.getD 0 0) hT).swap) hf
       exact⟨r,w1,β',who',.inl (by
        unfold execOp;simp only[ho,resolve,Sem.run_bind,Sem.run_pure,Result.andThen_ok,invoke,builtin];simp_all),g2⟩
   . rename_i x y hargs;have hargs':args= #[x,y]:=by apply Array.ext';simpa using hargs
     subst hargs';obtain⟨u,U1,_,_,_,_,h1,h2⟩:=kA h;obtain⟨rfl,S1⟩:=Run.rd h1 S;obtain⟨q,U2,_,_,_,_,h3,h4⟩:=kA h2;obtain⟨rfl,S2⟩:=Run.rd h3 S1;obtain⟨r,w1,β',who',g1,g2⟩:=qhy (rt:=o.type) hT h4 S2 hf
     exact⟨r,w1,β',who',.inl (by
      unfold execOp;simp only[ho,resolve,Sem.run_bind,Sem.run_pure,Result.andThen_ok,invoke,builtin];simp_all),g2⟩
   . rename_i x y hargs;have hargs':args= #[x,y]:=by apply Array.ext';simpa using hargs
     subst hargs';obtain⟨u,U1,_,_,_,_,h1,h2⟩:=kA h;obtain⟨rfl,S1⟩:=Run.rd h1 S;obtain⟨q,U2,_,_,_,_,h3,h4⟩:=kA h2;obtain⟨rfl,S2⟩:=Run.rd h3 S1;have r1:=S1.hrel _ mS;have r2:=S2.hrel _ mS;unfold maxAV at h4;split at h4
     . rename_i k n k' n';obtain⟨rfl,rfl⟩:=kB h4;have e1:a.eval x= .int k n:=r1;have e2:a.eval y= .int k' n':=r2
       exact OpOut.same (c:= .int k (if n'>n then n' else n)) (by
        unfold execOp;simp only[ho,resolve,Sem.run_bind,Sem.run_pure,Result.andThen_ok,invoke,builtin];have hm:(#[x,y]:Array Operand).map a.eval= #[a.eval x,a.eval y]:=by simp
        rw[hm,e1,e2];rfl) (S.take0 rfl rfl (λn hn=>by cases hn))
     . exact(kC h4).elim
   . rename_i x y hargs;have hargs':args= #[x,y]:=by apply Array.ext';simpa using hargs
     subst hargs';obtain⟨u,U1,_,_,_,_,h1,h2⟩:=kA h;obtain⟨rfl,S1⟩:=Run.rd h1 S;obtain⟨q,U2,_,_,_,_,h3,h4⟩:=kA h2;obtain⟨rfl,S2⟩:=Run.rd h3 S1;have r1:=S1.hrel _ mS;have r2:=S2.hrel _ mS;unfold minAV at h4;split at h4
     . rename_i k n k' n';obtain⟨rfl,rfl⟩:=kB h4;have e1:a.eval x= .int k n:=r1;have e2:a.eval y= .int k' n':=r2
       exact OpOut.same (c:= .int k (if n'<n then n' else n)) (by
        unfold execOp;simp only[ho,resolve,Sem.run_bind,Sem.run_pure,Result.andThen_ok,invoke,builtin];have hm:(#[x,y]:Array Operand).map a.eval= #[a.eval x,a.eval y]:=by simp
        rw[hm,e1,e2];rfl) (S.take0 rfl rfl (λn hn=>by cases hn))
     . exact(kC h4).elim
   . exact(kC h).elim
 |makeFunc fn first cap=>
  cases fn with
  |func f=>
   simp only[ho]at h;obtain⟨c,who',g1,g2⟩:=q7o h ho S;exact OpOut.same g1 g2
  |_=>simp only[ho]at h;exact(kC h).elim
 |_=>simp only[ho]at h;exact(kC h).elim
end
def Fr (who who':Who):Prop:= ∀b,who' b=who b\/who' b=none
def Fr.refl (who:Who):Fr who who:=λ_=> .inl rfl
def Fr.trans {a b c:Who} (h:Fr a b) (h':Fr b c):Fr a c:=λx=>by
 rcases h' x with h1|h1
 . rcases h x with h2|h2
   . exact .inl (by rw[h1,h2])
   grind
 . exact .inr h1
def KeepBx (U U':Slots):Prop:= ∀s,U'.get s=U.get s\/names (U'.get s)=[]
def KeepBx.refl (U:Slots):KeepBx U U:=λ_=> .inl rfl
def KeepBx.trans {U U1 U2:Slots} (h:KeepBx U U1) (h':KeepBx U1 U2):KeepBx U U2:=λs=>by
 rcases h' s with e|e
 . rw[e];exact h s
 . exact .inr e
section
variable {P:Program} {CO:Qb} {T:TT} {E:Entry} {D:Nat->Prop} {β:Beta} {who:Who} {U U':Slots} {hd:List (AV×Value)} {a:Act} {w w':World} {R W:List Nat}
def Sim.freezeFr (S:Sim E D β who U hd a w) (t:Nat) (hb: ∀o cs,U.get t≠ .bx o cs) (ht: ∀vs,U.get t≠ .tup vs):
 ∃who',Fr who who'/\Sim E D β who' (U.set t (Vs.freeze (U.get t))) ((Vs.freeze (U.get t),a.tmps.getD t undef)::hd) a w:=by
 refine⟨unown who (names (U.get t)),λb=> ?_,?_⟩
 . cases h:who b with
   |none=>exact .inr (Zt h)
   |some n=>
    by_cases hn:n∈names (U.get t)
    . exact .inr (q3w h hn)
    . exact .inl (Zx h hn)
 have hf:=q8r (ns:=names (U.get t)) (S.rel t) (λn h=>h) hb ht
 have hn:=Yz hb ht
 have S1:Sim E D β (unown who (names (U.get t))) (U.set t .dead) hd a w:=by
  have S0:=(S.takeAll t).drop rfl
  refine S0.world (λs=> ?_) (λx hx=> ?_) (λb n hb=>S.wsz b n (Y9 hb)) (zH _) (λ_ _ _=>rfl) (λb n hb=>S.fr1 b n (Y9 hb))
   (λb hb=>Zx (S.fr3 b hb) (λh=>S.dfn (S.occ t _ (ql h))))
  . refine(S0.rel s).keep (Keeps.unown λn h h'=> ?_)
    by_cases e:s=t
    . subst e;rw[qh]at h;simp[names,qj,qg]at h
    . rw[qc _ _ e]at h;exact e (S.dis s t n h h')
  . exact(S0.hrel x hx).keep (Keeps.unown λn h h'=>S.hdis x hx n h t h')
 have S2:=S1.abs (s:=t) (v:=Vs.freeze (U.get t)) hf (λn h=>by rw[hn]at h;cases h) (by grind) (λn h=>S.occ t n (q25 h))
 have S3:=S2.take0 hf hn (λn h=>S.occ t n (q25 h))
 refine S3.ext λs=> ?_
 by_cases e:s=t
 . subst e;rw[qh,qh]
 . rw[qc _ _ e,qc _ _ e,qc _ _ e]
def Run.rdFFr {x:Operand} {v:AV} (h:Run CO (Vs.rdF x) U v U' R W) (S:Sim E D β who U hd a w):
 names v=[]/\(∀o cs,v≠ .bx o cs)/\KeepBx U U'/\ ∃who',Fr who who'/\Sim E D β who' U' ((v,a.eval x)::hd) a w:=by
 cases x with
 |tmp t=>
  obtain⟨av,U1,_,_,_,_,h1,h2⟩:=kA h;obtain⟨rfl,rfl⟩:=kD h1;split at h2
  . exact(kC h2).elim
  . exact(kC h2).elim
  . exact(kC h2).elim
  . exact(kC h2).elim
  . exact(kC h2).elim
  . rename_i g1 g2 g3 g4 g5;split at h2
    . obtain⟨_,U2,_,_,_,_,h3,h4⟩:=kA h2;have:=kE h3;subst this;obtain⟨rfl,rfl⟩:=kB h4;have hb: ∀o cs,U1.get t≠ .bx o cs:=λo cs e=>g3 o cs e
      refine⟨Yz hb g2,?_,?_,S.freezeFr t hb g2⟩
      . intro o cs e;have hb':=hb;cases hav:U1.get t with
        |bx o' cs'=>exact hb o' cs' hav
        |sl o' t' xs=>rw[hav]at e;cases o'<;>cases e
        |agg cells=>rw[hav]at e;cases e
        |dp n t xs hh=>rw[hav]at e;cases hh<;>cases e
        |_=>rw[hav]at e;cases e
      . intro s;by_cases e:s=t
        . subst e;rw[qh];exact .inr (Yz hb g2)
        . rw[qc _ _ e];exact .inl rfl
    . rename_i hno;obtain⟨rfl,rfl⟩:=kB h2;exact⟨X5 hno,g3,KeepBx.refl _,who,Fr.refl _,S.take0 (S.rel t) (X5 hno) (S.occ t)⟩
 |const u=>
  obtain⟨rfl,rfl⟩:=kB h;obtain⟨g1,g2,g3⟩:=q2s (β:=β) (who:=who) (w:=w) u;refine⟨g2,?_,KeepBx.refl _,who,Fr.refl _,S.take0 g1 g2 (λn hn=>by rw[g3]at hn;cases hn)⟩
  intro o cs e;cases u<;>cases e
 |global g=>exact(kC h).elim
 |func f=>
  obtain⟨rfl,rfl⟩:=kB h;exact⟨rfl,(λo cs e=>by cases e),KeepBx.refl _,who,Fr.refl _,S.take0 (v:= .lit (.func (.func f) #[] #[])) ⟨rfl,rfl⟩ rfl (λn hn=>by cases hn)⟩
def Run.rdP {x:Operand} {v:AV} (h:Run CO (Vs.rdP x) U v U' R W) (S:Sim E D β who U hd a w):
 names v=[]/\(∀o cs,v≠ .bx o cs)/\KeepBx U U'/\ ∃who',Fr who who'/\Sim E D β who' U' ((v,a.eval x)::hd) a w:=by
 cases x with
 |tmp t=>
  obtain⟨av,U1,_,_,_,_,h1,h2⟩:=kA h;obtain⟨rfl,rfl⟩:=kD h1;split at h2
  . rename_i n cells hg;obtain⟨rfl,rfl⟩:=kB h2;have hal:alias t (U'.get t)=some (.ptr t n 1 0 0):=by rw[hg];rfl
    obtain⟨g1,g2,g3⟩:=q6e hal (S.rel t);exact⟨g2,(λo cs e=>by cases e),KeepBx.refl _,who,Fr.refl _,S.take0 g1 g2 (λn hn=>S.occ t n (g3 n hn))⟩
  . exact Run.rdFFr h2 S
 |const u=>exact Run.rdFFr (x:= .const u) h S
 |global g=>exact Run.rdFFr (x:= .global g) h S
 |func f=>exact Run.rdFFr (x:= .func f) h S
def PureIn (who:Who) (rn:List Nat) (who':Who):Prop:=(∀b,who b=none->who' b=none)/\ ∀b n,who b=some n->n∈rn->who' b=none
def PureC (who:Who) (w:World) (rn:List Nat) (c:AV) (u:Value):Prop:= ∀β' who',PureIn who rn who'->RelC β' who' w c u
def qox (who:Who) (w:World) (rn:List Nat) (c:AV) (u:Value):Prop:= ∀β' who',PureIn who rn who'->Rel β' who' w c u
def PureIn.sub {rn rn':List Nat} {who':Who} (h:PureIn who rn' who') (hs: ∀n∈rn,n∈rn'):PureIn who rn who':=
 ⟨h.1,λb n hb hn=>h.2 b n hb (hs n hn)⟩
def PureIn.fr {rn:List Nat} {who1 who':Who} (h:PureIn who1 rn who') (hf:Fr who who1):PureIn who rn who':=by
 refine⟨λb hb=> ?_,λb n hb hn=> ?_⟩
 . rcases hf b with e|e
   . exact h.1 b (by rw[e,hb])
   . exact h.1 b e
 . rcases hf b with e|e
   . exact h.2 b n (by rw[e,hb]) hn
   . exact h.1 b e
def SlI.blk {t:Ty} {xs:List (Den t)} {v:Value} (h:SlI who w t xs v): ∀b l c,v= .slice (some b) l c->who b.block=none:=by
 rintro b l c rfl
 rcases h with⟨h,_⟩|⟨b',o,cap,e,h1,_⟩
 . cases h
 . cases e;exact h1
def SlS.slI {t:Ty} {xs:List (Den t)} {v:Value} (h:SlS who w t xs v) (hb: ∀b l c,v= .slice (some b) l c->who b.block=none):SlI who w t xs v:=by
 rcases h with h|⟨b,o,cap,e,h1,h2,h3⟩
 . exact .inl h
 . exact .inr ⟨b,o,cap,e,hb _ _ _ e,h1,h2,h3⟩
def SlI.window {t:Ty} {xs:List (Den t)} {base v:Value} {win:Option (Nat×Nat)} (h:SlI who w t xs base) (hv:q15 base t.size win v):
 SlI who w t (Vs.window xs win) v:=by
 refine(SlS.window h.sls hv).1.slI λb l c e=> ?_
 cases win with
 |none=>obtain⟨rfl,_⟩:=hv;exact h.blk b l c e
 |some ol=>
  obtain⟨off,len⟩:=ol;obtain⟨ad,L,cap,a',e1,e2,e3,e4,e5⟩:=hv;rw[e3]at e;injection e with g1 g2 g3
  subst g1;cases ad with
  |none=>simp at e5
  |some x=>
   simp at e5;rw[e5.1];exact h.blk x L cap e1
def RelN.slI {n:Nat} {t:Ty} {xs:List (Den t)} {v:Value} {who':Who} (h:RelN β who w n t xs v) (h1: ∀b,who b=none->who' b=none) (h2: ∀b,who b=some n->who' b=none):SlI who' w t xs v:=by
 obtain⟨_,h⟩:=h;rcases h with h|⟨b,o,cap,arr,el,e1,e2,e3,e4,e5,e6⟩
 . exact .inl h
 . exact .inr ⟨b,o,cap,e1,h2 b e5,Yt e2,e4,Elems.keep (λb hb _=>⟨h1 b hb,rfl⟩) (zH _) rfl e6⟩
def Run.passC {c c':AV} {u:Value} (h:Run CO (Vs.passC c) U c' U' R W) (S:Sim E D β who U hd a w) (hc:RelC β who w c u):
 U'=U/\Zj c'=true/\qg c'=[]/\(∀β' who',RelC β' who' w c' u->Rel β' who' w c' u)/\
 noRef c'=true/\names c'=[]/\PureC who w (refC c) c' u/\ ∀n∈refC c,n≠FN:=by
 have key: ∀{s n:Nat},Run CO (passW s n) U c' U' R W->u=dpv (β n) 0->refC c=[n]->U'=U/\Zj c'=true/\qg c'=[]/\(∀β' who',RelC β' who' w c' u->Rel β' who' w c' u)/\
  noRef c'=true/\names c'=[]/\PureC who w (refC c) c' u/\ ∀n∈refC c,n≠FN:=by
  intro s n h k1 hrc;rw[hrc];obtain⟨av,U1,_,_,_,_,h1,h2⟩:=kA h;obtain⟨hav,rfl⟩:=kD h1;split at h2
  . rename_i m t xs loc hd;rw[hav]at hd;obtain⟨hmn,⟨v0,hdp⟩,hin⟩:=S.dpA hd
    . subst hmn;obtain⟨rfl,rfl⟩:=kB h2;refine⟨rfl,rfl,rfl,λ_ _ h=>h,rfl,rfl,λβ' who' hp=> ?_,λx hx=> ?_⟩
      . obtain⟨hv,hd2⟩:=hdp;rw[k1,<-hv];rcases hd2 with⟨e0,rfl⟩|⟨b0,o0,cap1,arr0,el0,e0,e1,e2,e3,e4,hall,_⟩
        . exact .inl ⟨e0,rfl⟩
        refine .inr ⟨b0,o0,cap1,e0,hp.2 b0 m e4 (by simp),Yt e1,e3,λi hi=> ?_⟩
        obtain⟨c1,c2⟩:=hall i hi (by simp)
        refine⟨dpv (β m) (i+1),?_,?_⟩
        . have e:cellAt w b0 (o0+i*(Ty.sl false t).size) 0=cellAt w b0 o0 i:=by
           unfold cellAt;simp[Ty.size]
          rw[e];exact c1
        . rcases c2 with hI|⟨bi,oi,ci,arr,el,q1,q2,q3,q4,q5,q6,q7⟩
          . exact .inl hI
          . exact .inr ⟨bi,oi,ci,q1,hp.2 bi m q5 (by simp),Yt q2,q4,Elems.keep (λb hb _=>⟨hp.1 b hb,rfl⟩) (zH _) rfl q7⟩
      . rw[zA]at hx;subst hx;rintro rfl;exact S.dfn (S.occ s _ (ql hin))
  . exact(kC h2).elim
 unfold Vs.passC at h;split at h
 . obtain⟨rfl,rfl⟩:=kB h;exact⟨rfl,rfl,rfl,λ_ _ h=>h,rfl,rfl,λ_ _ _=>hc,λn hn=>by cases hn⟩
 . obtain⟨rfl,rfl⟩:=kB h;exact⟨rfl,rfl,rfl,λ_ _ h=>h,rfl,rfl,λ_ _ _=>hc,λn hn=>by cases hn⟩
 . obtain⟨rfl,rfl⟩:=kB h;exact⟨rfl,rfl,rfl,λ_ _ h=>h,rfl,rfl,λ_ _ _=>hc,λn hn=>by cases hn⟩
 . obtain⟨rfl,rfl⟩:=kB h;exact⟨rfl,rfl,rfl,λ_ _ h=>h,rfl,rfl,λ_ who' hp=>SlI.keep (λb hb _=>⟨hp.1 b hb,rfl⟩) (zH _) hc,λn hn=>by cases hn⟩
 . obtain⟨rfl,rfl⟩:=kB h;exact⟨rfl,rfl,rfl,λ_ _ h=>h,rfl,rfl,λ_ who' hp=> .inl hc,λn hn=>by cases hn⟩
 . rename_i s n sz win;obtain⟨y,U1,_,_,_,_,h1,h2⟩:=kA h;obtain⟨rfl,rfl⟩:=kB h2;unfold Vs.shown at h1;obtain⟨y,U1,_,_,_,_,h3,h4⟩:=kA h1;obtain⟨rfl,hsz,g1,g2⟩:=Run.nodeOf h3 S;obtain⟨rfl,rfl⟩:=kB h4;subst hsz;refine⟨rfl,rfl,rfl,λ_ _ h=>h,rfl,rfl,λβ' who' hp=> ?_,λm hm=> ?_⟩
   . exact SlI.window (g1.slI hp.1 (λb hb=>hp.2 b n hb (by simp[refC]))) hc
   . simp only[refC,zA]at hm;subst hm;rintro rfl;exact S.dfn (S.occ s _ (ql g2))
 . rename_i s n i;obtain⟨av,U1,_,_,_,_,h1,h2⟩:=kA h;obtain⟨hav,rfl⟩:=kD h1;split at h2
   . rename_i m t xs hh loc hd;rw[hav]at hd;obtain⟨hmn,⟨v0,hdp⟩,hin⟩:=S.dpA hd
     . subst hmn;obtain⟨_,U2,_,_,_,_,h3,h4⟩:=kA h2;obtain⟨hno,rfl⟩:=Run.noHole' h3;obtain⟨rfl,rfl⟩:=kB h4;obtain⟨k1,_,ad0,L0,cap0,k2,k3⟩:=hc;obtain⟨ad1,cap1,hb1⟩:=hdp.base;rw[hb1]at k2;injection k2 with _ q1 _
       subst q1;have hrow:=hdp.row k3 hno;have hxi:xs.getD i []=xs[i]:=by simp[List.getD,List.getElem?_eq_getElem k3]
       refine⟨rfl,rfl,rfl,λ_ _ h=>h,rfl,rfl,λβ' who' hp=> ?_,λx hx=> ?_⟩
       . rw[hxi,k1];obtain⟨_,b0,o0,cap0,arr0,el0,_,_,_,_,_,hall,_⟩:=hdp.pos (.inr (Qu k3));rcases(hall i k3 hno).2 with hI|⟨bi,oi,ci,arr,el,e1,e2,e3,e4,e5,e6,e7⟩
         . exact .inl hI
         . exact .inr ⟨bi,oi,ci,e1,hp.2 bi m e5 (by simp[refC]),Yt e2,e4,Elems.keep (λb hb _=>⟨hp.1 b hb,rfl⟩) (zH _) rfl e7⟩
       . simp only[refC,zA]at hx;subst hx;rintro rfl;exact S.dfn (S.occ s _ (ql hin))
   . exact(kC h2).elim
 . exact key h hc.1 rfl
 . exact key h hc.1 rfl
 . obtain⟨rfl,rfl⟩:=kB h;obtain⟨b,o,e1,e2,e3,e4,e5⟩:=hc
   exact⟨rfl,rfl,rfl,λ_ _ h=>h,rfl,rfl,
    λβ' who' hp=>⟨b,o,e1,e2,hp.1 b e3,e4,Elems.keep (λb hb _=>⟨hp.1 b hb,rfl⟩) (zH _) rfl e5⟩,λn hn=>by cases hn⟩
 . exact(kC h).elim
end
abbrev Pass:=AV×Option Nat×List Nat
def ArgOK (β:Beta) (who:Who) (w:World) (U:Slots) (p:Pass) (u:Value):Prop:=
 match p.2.1 with
 |none=>qox who w p.2.2 p.1 u/\noRef p.1=true/\names p.1=[]/\ ∀n∈p.2.2,n≠FN
 |some s=>p.2.2=[]/\(names (U.get s)=[]\/ ∃m,J5 (U.get s)=some m/\p.1=ren (idxIn (names (U.get s))) (U.get s)/\noRef (U.get s)=true/\
   (names (U.get s)).length<=16/\u=β m)
section
variable {P:Program} {CO:Qb} {T:TT} {E:Entry} {D:Nat->Prop} {β:Beta} {who who':Who} {U U':Slots} {hd:List (AV×Value)} {a:Act} {w w':World} {R W:List Nat}
def ArgOK.mono {p:Pass} {u:Value} (h:ArgOK β who w U p u) (hf:Fr who who') (hk:KeepBx U U'):ArgOK β who' w U' p u:=by
 obtain⟨av,l,rn⟩:=p;cases l with
 |none=>exact⟨λβ' who'' hp=>h.1 β' who'' (hp.fr hf),h.2⟩
 |some s=>
  obtain⟨h1,h2⟩:=h;rcases hk s with e|e
  . exact⟨h1,by rw[e];exact h2⟩
  . exact⟨h1,.inl e⟩
def qj0 (S:Sim E D β who U hd a w) (cells:List AV): ∀{cs:List AV} {g:Nat->Value} {U':Slots} {R W:List Nat},Run CO (Vs.passL cells) U cs U' R W->
 (∀j (h:j<cells.length),RelC β who w cells[j] (g j))->
 U'=U/\cs.length=cells.length/\cs.all Zj=true/\cs.flatMap qg=[]/\(∀j (h:j<cs.length),PureC who w (cells.flatMap refC) cs[j] (g j))/\ ∀n∈cells.flatMap refC,n≠FN:=by
 induction cells with
 |nil=>
  intro cs g U' R W h hc;obtain⟨rfl,rfl⟩:=kB h
  grind
 |cons c cells ih=>
  intro cs g U' R W h hc;obtain⟨c',U1,_,_,_,_,h1,h2⟩:=kA h;obtain⟨cs',U2,_,_,_,_,h3,h4⟩:=kA h2;obtain⟨rfl,rfl⟩:=kB h4;obtain⟨rfl,e1,e2,_,_,_,e3,e4⟩:=Run.passC h1 S (hc 0 (by simp))
  have hc': ∀j (h:j<cells.length),RelC β who w cells[j] ((λj=>g (j+1)) j):=λj hj=>by grind
  obtain⟨rfl,f1,f2,f3,f4,f5⟩:=ih h3 hc';refine⟨rfl,by simp[f1],by grind,by simp[e2,f3],λj hj=> ?_,λn hn=> ?_⟩
  . cases j with
    |zero=>exact λβ' who' hp=>e3 β' who' (hp.sub λn hn=>by simp[hn])
    |succ j=>exact λβ' who' hp=>f4 j (by simpa using hj) β' who' (hp.sub λn hn=>by grind)
  . grind
def Run.passA (hT:TTok P T) {ty:Nat} {x:Operand} {p:Pass} (h:Run CO (Vs.passA ty T x) U p U' R W) (S:Sim E D β who U [] a w):
 KeepBx U U'/\ ∃who',Fr who who'/\Sim E D β who' U' [] a w/\ArgOK β who' w U' p (a.eval x):=by
 obtain⟨v,U1,_,_,_,_,h1,h2⟩:=kA h;obtain⟨g1,g2,g3,who1,g4,S1⟩:=Run.rdP h1 S;have S2:=S1.fix (t:=ty) hT;have hx:=S2.hrel _ mS;have S3:=S2.drop rfl;generalize Zk T ty v=v1 at*;split at h2
 . rename_i cells;obtain⟨cs,U2,_,_,_,_,h3,h4⟩:=kA h2;obtain⟨rfl,rfl⟩:=kB h4;obtain⟨arr,e1,e2,e3⟩:=(hx: ∃arr,_);obtain⟨rfl,f1,f2,f3,f4,f5⟩:=qj0 (cs:=cs) (g:=λj=>arr.getD j undef) S3 cells h3 e3
   refine⟨g3,who1,g4,S3,⟨λβ' who' hp=> ?_,f2,f3,f5⟩⟩
   exact⟨arr,e1,by rw[e2,f1],λj hj=>f4 j hj β' who' hp⟩
 . rename_i s n sz;obtain⟨av,U2,_,_,_,_,h3,h4⟩:=kA h2;obtain⟨rfl,rfl⟩:=kD h3;split at h4
   . rename_i m cells hg;split at h4
     . rename_i hm;obtain⟨rfl,hr,hl⟩:=hm;obtain⟨rfl,rfl⟩:=kB h4;refine⟨g3,who1,g4,S3,⟨rfl,.inr ⟨m,by rw[hg];rfl,?_,hr,hl,?_⟩⟩⟩
       . rw[hg]
       . have hb:=S3.rel s;rw[hg]at hb;obtain⟨hb0,b,arr,el,hb1,_⟩:=hb;rcases(hx:qgo _ _ _ _ _)with⟨b',o,L,cap,q1,_⟩|⟨b',q1,_,q2⟩
         . grind
         . exact q2.trans q1.symm
     . exact(kC h4).elim
   . exact(kC h4).elim
 . rename_i hn1 hn2;obtain⟨c,U2,_,_,_,_,h3,h4⟩:=kA h2;obtain⟨rfl,rfl⟩:=kB h4
   have hc:RelC β who1 w v1 (a.eval x):=by
    cases v1 with
    |tup vs=>exact(kC h3).elim
    |bx o cs=>exact(kC h3).elim
    |agg cs=>exact absurd rfl (hn1 cs)
    |dead=>trivial
    |_=>exact hx
   obtain⟨rfl,e1,e2,f1,f2,f3,f4,f5⟩:=Run.passC h3 S3 hc;exact⟨g3,who1,g4,S3,⟨λβ' who' hp=>f1 _ _ (f4 β' who' hp),f2,f3,f5⟩⟩
def Run.lendA {x:Operand} {p:Pass} (h:Run CO (Vs.lendA x) U p U' R W) (S:Sim E D β who U [] a w):
 U'=U/\ArgOK β who w U' p (a.eval x):=by
 obtain⟨v,U1,_,_,_,_,h1,h2⟩:=kA h;obtain⟨rfl,S1⟩:=Run.rd h1 S;have hx:=S1.hrel _ mS;split at h2
 . rename_i s n sz;obtain⟨av,U2,_,_,_,_,h3,h4⟩:=kA h2;obtain⟨rfl,rfl⟩:=kD h3;split at h4
   . rename_i m t xs hg;split at h4
     . rename_i hm;subst hm;obtain⟨rfl,rfl⟩:=kB h4;refine⟨rfl,rfl,.inr ⟨m,by rw[hg];rfl,by rw[hg],by rw[hg];rfl,by rw[hg];exact(by decide:1<=16),?_⟩⟩
       exact(show q15 (β m) sz none (a.eval x)from hx).1
     . exact(kC h4).elim
   . exact(kC h4).elim
 . exact(kC h2).elim
def Run.passN (hT:TTok P T) {ty:Nat} {x:Operand} {p:Pass} (h:Run CO (Vs.passN ty T x) U p U' R W) (S:Sim E D β who U [] a w):
 U'=U/\ArgOK β who w U' p (a.eval x):=by
 obtain⟨v,U1,_,_,_,_,h1,h2⟩:=kA h;obtain⟨rfl,S1⟩:=Run.rd h1 S;have S2:=S1.fix (t:=ty) hT;have hx:=S2.hrel _ mS;generalize Zk T ty v=v1 at*;split at h2
 . rename_i t xs;obtain⟨rfl,rfl⟩:=kB h2;exact⟨rfl,λβ' who' hp=>hx,rfl,rfl,λn hn=>by cases hn⟩
 . exact(kC h2).elim
def Run.passX (hT:TTok P T) {k ty:Nat} {x:Operand} {p:Pass} (h:Run CO (Vs.passX T k ty x) U p U' R W) (S:Sim E D β who U [] a w):
 KeepBx U U'/\ ∃who',Fr who who'/\Sim E D β who' U' [] a w/\ArgOK β who' w U' p (a.eval x):=by
 unfold Vs.passX at h;split at h
 . obtain⟨rfl,h2⟩:=Run.passN hT h S;exact⟨KeepBx.refl _,who,Fr.refl _,S,h2⟩
 . split at h
   . obtain⟨rfl,h2⟩:=Run.lendA h S;exact⟨KeepBx.refl _,who,Fr.refl _,S,h2⟩
   . exact Run.passA hT h S
def Run.passAll (hT:TTok P T): ∀{k:Nat} {xs:List Operand} {tys:List TypeId} {ps:List Pass} {who:Who} {U U':Slots} {R W:List Nat},Run CO (Vs.passAll T k xs tys) U ps U' R W->Sim E D β who U [] a w->
 KeepBx U U'/\ ∃who',Fr who who'/\Sim E D β who' U' [] a w/\ps.length=xs.length/\ ∀i (h:i<ps.length) (h':i<xs.length),ArgOK β who' w U' ps[i] (a.eval xs[i])
 |k,[],tys,ps,who,U,U',R,W,h,S=>by
  obtain⟨rfl,rfl⟩:=kB h;exact⟨KeepBx.refl _,who,Fr.refl _,S,rfl,λi hi=>absurd hi (zS1 _)⟩
 |k,x::xs,[],ps,who,U,U',R,W,h,S=>(kC h).elim
 |k,x::xs,ty::tys,ps,who,U,U',R,W,h,S=>by
  obtain⟨p,U1,_,_,_,_,h1,h2⟩:=kA h;obtain⟨ps',U2,_,_,_,_,h3,h4⟩:=kA h2;obtain⟨rfl,rfl⟩:=kB h4;obtain⟨e1,who1,e2,S1,e3⟩:=Run.passX hT h1 S;obtain⟨f1,who2,f2,S2,f3,f4⟩:=Run.passAll hT h3 S1;refine⟨e1.trans f1,who2,e2.trans f2,S2,by simp[f3],λi hi hi'=> ?_⟩
  cases i with
  |zero=>exact e3.mono f2 f1
  |succ i=>grind
end
def q8k {c:AV} (h:Zj c=true):occC c=qg c:=by
 cases c with
 |sl o t xs=>cases o<;>rfl
 |ref s n sz w=>cases h
 |ptr s n sz i j=>cases h
 |dr s n k=>cases h
 |wn n t xs=>cases h
 |_=>rfl
def q59 {cells:List AV} (h:cells.all Zj=true):cells.flatMap occC=cells.flatMap qg:=by
 induction cells with
 |nil=>rfl
 |cons c cs ih=>
  simp only[zx2,zM]at h;simp[q8k h.1,ih h.2]
def q1w {v:AV} (h:q5p v=true):occA v=qj v:=by
 cases v with
 |bx o cells=>
  have:=q59 (cells:=cells) h;cases o<;>simp[occA,qj,this]
 |agg cells=>exact q59 (cells:=cells) h
 |sl o t xs=>exact q8k (c:= .sl o t xs) h
 |ref s n sz w=>cases h
 |ptr s n sz i j=>cases h
 |dr s n k=>cases h
 |wn n t xs=>cases h
 |_=>rfl
def Js {v:AV} (h:noRef v=true):Vs.occ v=names v:=by
 cases v with
 |tup vs=>
  simp only[noRef]at h;simp only[Vs.occ,names];induction vs with
  |nil=>rfl
  |cons c cs ih=>
   simp only[zx2,zM]at h;simp[q1w h.1,ih h.2]
 |sl o t xs=>exact q1w (v:= .sl o t xs) h
 |bx o cells=>exact q1w (v:= .bx o cells) h
 |agg cells=>exact q1w (v:= .agg cells) h
 |ref s n sz w=>cases h
 |ptr s n sz i j=>cases h
 |dr s n k=>cases h
 |wn n t xs=>cases h
 |_=>rfl
def qmx {f:Nat->Nat} {v:AV}:isWn (ren f v)=isWn v:=by
 cases v with
 |sl o t xs=>cases o<;>rfl
 |bx o cells=>rfl
 |_=>rfl
def qj1 {v:AV} (h:okOut v=true): ∀n∈Vs.occ v,n∈names v\/n=98:=by
 intro n hn;cases hw:isWn v with
 |false=>
  unfold okOut at h;rw[hw,zI4]at h;rw[Js h]at hn;exact .inl hn
 |true=>
  cases v with
  |wn m t xs=>
   simp only[Vs.occ,occA,occC,zU,zy,or_false]at hn;rcases hn with rfl|rfl
   . exact .inl (by simp[names,qj,qg])
   . exact .inr rfl
  |_=>cases hw
section
variable {f:Nat->Nat}
def q8e {c:AV}:qg (renC f c)=(qg c).map f:=by
 cases c with
 |sl o t xs=>cases o<;>rfl
 |_=>rfl
def q4u {cells:List AV}:(cells.map (renC f)).flatMap qg=(cells.flatMap qg).map f:=by
 induction cells with
 |nil=>rfl
 |cons c cs ih=>simp[q8e,ih]
def q1r {v:AV}:qj (renA f v)=(qj v).map f:=by
 cases v with
 |bx o cells=>
  have:=q4u (f:=f) (cells:=cells);cases o<;>simp[renA,renO,qj,this]
 |agg cells=>exact q4u (f:=f) (cells:=cells)
 |sl o t xs=>have:=q8e (f:=f) (c:= .sl o t xs);cases o<;>exact this
 |_=>rfl
def Qi {v:AV}:names (ren f v)=(names v).map f:=by
 cases v with
 |tup vs=>
  simp only[ren,names];induction vs with
  |nil=>rfl
  |cons c cs ih=>simp[q1r,ih]
 |sl o t xs=>have:=q1r (f:=f) (v:= .sl o t xs);cases o<;>exact this
 |bx o cells=>exact q1r (f:=f) (v:= .bx o cells)
 |agg cells=>exact q1r (f:=f) (v:= .agg cells)
 |_=>rfl
def q8x {c:AV}:Zj (renC f c)=Zj c:=by
 cases c with
 |sl o t xs=>cases o<;>rfl
 |_=>rfl
def qg7 {cells:List AV}:(cells.map (renC f)).all Zj=cells.all Zj:=by
 induction cells with
 |nil=>rfl
 |cons c cs ih=>simp only[zy1,zx2,q8x,ih]
def q20 {v:AV}:q5p (renA f v)=q5p v:=by
 cases v with
 |bx o cells=>exact qg7 (cells:=cells)
 |agg cells=>exact qg7 (cells:=cells)
 |sl o t xs=>have:=q8x (f:=f) (c:= .sl o t xs);cases o<;>exact this
 |_=>rfl
def Xp {v:AV}:noRef (ren f v)=noRef v:=by
 cases v with
 |tup vs=>
  simp only[ren,noRef];induction vs with
  |nil=>rfl
  |cons c cs ih=>simp only[zy1,zx2,q20,ih]
 |sl o t xs=>have:=q20 (f:=f) (v:= .sl o t xs);cases o<;>exact this
 |bx o cells=>exact q20 (f:=f) (v:= .bx o cells)
 |agg cells=>exact q20 (f:=f) (v:= .agg cells)
 |_=>rfl
end
def RelI.flat {who who':Who} {w:World}: ∀{t:Ty} {x:Den t} {g:Nat->Option Value} {j:Nat},Zh t=false->RelI who w t x g j->RelI who' w t x g j
 | .int _,_,_,_,_,h=>h
 | .bool,_,_,_,_,h=>h
 | .pr a b,_,_,_,ht,h=>by
   simp only[Zh,zN3]at ht;exact⟨RelI.flat ht.1 h.1,RelI.flat ht.2 h.2⟩
 | .sl _ t,xs,g,j,ht,h=>by cases ht
section
variable {β β2:Beta} {who who2:Who} {w:World} {f:Nat->Nat}
structure RenOK (β:Beta) (who:Who) (w:World) (β2:Beta) (who2:Who) (f:Nat->Nat) (ns:List Nat) (im:Bool):Prop where
 beta: ∀n∈ns,β2 (f n)=β n
 own: ∀n∈ns,∀b,who b=some n->who2 b=some (f n)
 imm:im=true-> ∀b,who b=none->b<w.heap.size->who2 b=none
def RenOK.mono {ns ns':List Nat} {im im':Bool} (h:RenOK β who w β2 who2 f ns im) (hn: ∀n∈ns',n∈ns) (hi:im'=true->im=true):RenOK β who w β2 who2 f ns' im':=
 ⟨λn hn'=>h.beta n (hn n hn'),λn hn'=>h.own n (hn n hn'),λe=>h.imm (hi e)⟩
def RelC.ren {c:AV} {v:Value} (hr:Zj c=true) (k:RenOK β who w β2 who2 f (qg c) (J6 c)) (h:RelC β who w c v):RelC β2 who2 w (renC f c) v:=by
 cases c with
 |sl o t xs=>
  cases o with
  |imm=>exact SlI.keep (λb hb hl=>⟨k.imm rfl b hb hl,rfl⟩) (zH _) h
  |nl=>exact h
  |inn=>exact h
  |nm n=>
   obtain⟨h1,h2⟩:=h;refine⟨by rw[k.beta n (by simp[qg])];exact h1,?_⟩
   rcases h2 with h2|⟨b,o,cap,arr,el,e1,e2,e3,e4,e5,e6⟩
   . exact .inl h2
   . refine .inr ⟨b,o,cap,arr,el,e1,e2,e3,e4,k.own n (by simp[qg]) b e5,?_⟩
     cases ht:Zh t with
     |true=>exact Elems.keep (λb hb hl=>⟨k.imm ht b hb hl,rfl⟩) (zH _) rfl e6
     |false=>exact λi hi=>RelI.flat ht (e6 i hi)
 |ref s n sz win=>cases hr
 |ptr s n sz i j=>cases hr
 |dr s n kk=>cases hr
 |wn n t xs=>cases hr
 |dp n t xs hh=>
  refine RelDp.map (k.beta n (by simp[qg])) (λb hb=>⟨k.own n (by simp[qg]) b hb,rfl⟩) (λys b o _ he=> ?_) h
  cases ht:Zh t with
  |true=>exact Elems.keep (λb hb hl=>⟨k.imm ht b hb hl,rfl⟩) (zH _) rfl he
  |false=>exact λi hi=>RelI.flat ht (he i hi)
 |iptr g t xs i j=>
  obtain⟨b,o,e1,e2,e3,e4,e5⟩:=h;exact⟨b,o,e1,e2,k.imm rfl b e3 e4,e4,Elems.keep (λb hb hl=>⟨k.imm rfl b hb hl,rfl⟩) (zH _) rfl e5⟩
 |_=>exact h
def CellsRel.ren {cells:List AV} {arr:Array Value} (hr:cells.all Zj=true) (k:RenOK β who w β2 who2 f (cells.flatMap qg) (cells.any J6))
 (h:CellsRel β who w cells arr):CellsRel β2 who2 w (cells.map (renC f)) arr:=by
 refine⟨by simpa using h.1,λj hj=> ?_⟩
 have hj':j<cells.length:=by simpa using hj
 rw[zZ1];refine RelC.ren (zD1.1 hr _ (zJ hj')) (k.mono (λn hn=>zG.2 ⟨_,zJ hj',hn⟩) λe=> ?_) (h.2 j hj')
 grind
def qq8:AV->Bool
 | .bx _ cells=>cells.any J6
 | .agg cells=>cells.any J6
 |v=>J6 v
def RelA.ren {v:AV} {c:Value} (hr:q5p v=true) (k:RenOK β who w β2 who2 f (qj v) (qq8 v)) (h:RelA β who w v c):RelA β2 who2 w (renA f v) c:=by
 cases v with
 |bx o cells=>
  cases o with
  |nm n=>
   obtain⟨h0,b,arr,el,e1,e2,e3,e4⟩:=h
   exact⟨by rw[k.beta n (by simp[qj])];exact h0,b,arr,el,e1,e2,k.own n (by simp[qj]) b e3,
    CellsRel.ren hr (k.mono (λn hn=>by simp only[qj];grind) λe=>e) e4⟩
  |_=>exact h.elim
 |agg cells=>
  obtain⟨arr,e1,e2⟩:=h;exact⟨arr,e1,CellsRel.ren hr k e2⟩
 |tup vs=>exact h.elim
 |dead=>trivial
 |bool b=>exact RelC.ren (c:= .bool b) hr k h
 |int x n=>exact RelC.ren (c:= .int x n) hr k h
 |lit u=>exact RelC.ren (c:= .lit u) hr k h
 |sl o t xs=>
  have:=RelC.ren (c:= .sl o t xs) hr k h;cases o<;>exact this
 |ref s n sz win=>cases hr
 |ptr s n sz i j=>cases hr
 |iptr g t xs i j=>exact RelC.ren (c:= .iptr g t xs i j) hr k h
 |dp n t xs hh=>exact RelC.ren (c:= .dp n t xs hh) hr k h
 |dr s n kk=>exact RelC.ren (c:= .dr s n kk) hr k h
 |wn n t xs=>exact RelC.ren (c:= .wn n t xs) hr k h
def Rel.ren {v:AV} {c:Value} (hr:noRef v=true) (k:RenOK β who w β2 who2 f (names v) (Xa v)) (h:Rel β who w v c):Rel β2 who2 w (Vs.ren f v) c:=by
 cases v with
 |tup vs=>
  obtain⟨arr,e1,e2,e3⟩:=h;refine⟨arr,e1,by simpa using e2,λj hj=> ?_⟩
  have hj':j<vs.length:=by simpa using hj
  rw[zZ1];refine RelA.ren (zD1.1 hr _ (zJ hj')) (k.mono (λn hn=>zG.2 ⟨_,zJ hj',hn⟩) λe=> ?_) (e3 j hj')
  refine List.any_eq_true.2 ⟨_,zJ hj',?_⟩;revert e;generalize vs[j]=u;cases u<;>exact id
 |dead=>trivial
 |bool b=>exact RelA.ren (v:= .bool b) hr k h
 |int x n=>exact RelA.ren (v:= .int x n) hr k h
 |lit u=>exact RelA.ren (v:= .lit u) hr k h
 |sl o t xs=>
  have:=RelA.ren (v:= .sl o t xs) hr k h;cases o<;>exact this
 |bx o cells=>exact RelA.ren (v:= .bx o cells) hr k h
 |agg cells=>exact RelA.ren (v:= .agg cells) hr k h
 |ref s n sz win=>cases hr
 |ptr s n sz i j=>cases hr
 |iptr g t xs i j=>exact RelA.ren (v:= .iptr g t xs i j) hr k h
 |dp n t xs hh=>exact RelA.ren (v:= .dp n t xs hh) hr k h
 |dr s n kk=>exact RelA.ren (v:= .dr s n kk) hr k h
 |wn n t xs=>exact RelA.ren (v:= .wn n t xs) hr k h
def Rel.renO {v:AV} {c:Value} (ho:okOut v=true) (k:RenOK β who w β2 who2 f (names v) (Xa v)) (h98:β2 98=β 98) (h:Rel β who w v c):Rel β2 who2 w (Vs.ren f v) c:=by
 cases hw:isWn v with
 |false=>
  unfold okOut at ho;rw[hw,zI4]at ho;exact Rel.ren ho k h
 |true=>
  cases v with
  |wn n t xs=>
   have h1:Rel β who w (.sl (.nm n) t xs) c:=h.1;have h2:Rel β2 who2 w (.sl (.nm (f n)) t xs) c:=Rel.ren (v:= .sl (.nm n) t xs) rfl k h1;obtain⟨arr0,g1,g2⟩:=h.2;exact⟨h2,arr0,by rw[h98];exact g1,g2⟩
  |_=>cases hw
end
def q5k (who:Who) (w:World) (cargs:Array Value) (res:AV) (outs:List AV) (c98:Value) (e:Ending) (w':World):Prop:=
 ∃v β' who',e= .returned v/\β' 98=c98/\Rel β' who' w' res v/\(∀i (h:i<outs.length),Rel β' who' w' outs[i] (cargs.getD i undef))/\
  (names res++outs.flatMap names).Nodup/\(∀n∈names res++outs.flatMap names,n<16)/\noRef res=true/\outs.all okOut=true/\
  (∀b,b<w.heap.size->who b=none\/who b=some FN->w'.heap[b]? =w.heap[b]?)/\(∀b n,who' b=some n->b<w'.heap.size/\(who b≠none\/w.heap.size<=b))/\
  w.heap.size<=w'.heap.size/\(∀b,who b=some FN->who' b=some FN)/\w'.os=w.os/\w'.output=w.output
def Xt (P:Program) (f:FuncId) (args:List AV) (res:AV) (outs:List AV):Prop:=
 (∃fn,P.funcs[f]? =some fn∧fn.body.isNone=false∧(fn.name== "runtime.NumGoroutine")=false)∧
 ∀β who w (cargs:Array Value),cargs.size=args.length->(∀i (h:i<args.length),Rel β who w args[i] (cargs.getD i undef))->
  (args.flatMap names).Nodup->(∀n∈args.flatMap names,n<99)->args.all okOut=true->(∀b n,who b=some n->b<w.heap.size/\(n∈args.flatMap names\/n=FN))->GlobOK P who w->
  Calls P f cargs w (q5k who w cargs res outs (β 98))
def q00 {l:List AV} (h:l.all noRef=true):l.all okOut=true:=zD1.2 λx hx=>by
 unfold okOut;grind
def q2r {v:AV} (h:okOut v=true) (hw:isWn v=false):noRef v=true:=by
 unfold okOut at h;grind
def GlobOK.whoC {P:Program} {who:Who} {w:World} (h:GlobOK P who w) {who':Who} (hw: ∀b,who b=none->who' b=none):GlobOK P who' w:=λx hx=>⟨hw _ (h x hx).1,(h x hx).2⟩
def Y5 {ns:List Nat} {n:Nat} (h:n∈ns):idxIn ns n<ns.length:=by
 induction ns with
 |nil=>cases h
 |cons m ms ih=>
  simp only[idxIn,zw1]
  grind
def Jz {ns:List Nat} {n:Nat} (h:n∈ns):ns.getD (idxIn ns n) 0=n:=by
 induction ns with
 |nil=>cases h
 |cons m ms ih=>
  simp only[idxIn]
  grind
def q19 {ns:List Nat} {n m:Nat} (hn:n∈ns) (hm:m∈ns) (h:idxIn ns n=idxIn ns m):n=m:=by
 rw[<-Jz hn,<-Jz hm,h]
def Xb {f:Nat->Nat} {l:List Nat} (hf: ∀a∈l,∀b∈l,f a=f b->a=b) (h:l.Nodup):(l.map f).Nodup:=by
 induction l with
 |nil=>simp
 |cons x l ih=>
  grind
def whoC (who:Who) (ln rn:List Nat):Who:=λb=>match who b with
 |none=>none
 |some n=>if n∈ln then some (idxIn ln n)else if n∈rn then none else some FN
def who2 (who who':Who) (idx:Nat) (ln ns:List Nat):Who:=λb=>match who' b with
 |none=>(match who b with
  |none=>none
  |some n=>if n∈ln then none else some n)
 |some m=>if m=FN then who b else if m∈ns then some (fresh idx m)else none
def beta2 (β β':Beta) (idx:Nat):Beta:=λn=>if fresh idx 0<=n/\n<=fresh idx 15 then β' (n-fresh idx 0)else β n
section
variable {P:Program} {CO:Qb} {T:TT} {E:Entry} {D:Nat->Prop} {β β':Beta} {who who':Who} {U U':Slots} {hd:List (AV×Value)} {a:Act} {w w':World} {R W:List Nat}
def q0c {idx:Nat} {ln rn ns:List Nat} {im:Bool} (S:Sim E D β who U [] a w) (hf: ∀k,k<16-> ¬D (fresh idx k))
 (hln: ∀n∈ln,n≠FN/\ ∀s,n∉names (U.get s)) (hrn: ∀n∈rn,n≠FN) (hlen:ln.length<=16)
 (hfr: ∀b,b<w.heap.size->whoC who ln rn b=none\/whoC who ln rn b=some FN->w'.heap[b]? =w.heap[b]?)
 (hw: ∀b n,who' b=some n->b<w'.heap.size/\(whoC who ln rn b≠none\/w.heap.size<=b)) (hsz:w.heap.size<=w'.heap.size)
 (hFN: ∀b,whoC who ln rn b=some FN->who' b=some FN) (hns: ∀n∈ns,n<16) (him:im=true->rn=[]) (h4:w'.os=w.os/\w'.output=w.output):
 Sim E (Dn D idx) (beta2 β β' idx) (who2 who who' idx ln ns) U [] a w'/\RenOK β' who' w' (beta2 β β' idx) (who2 who who' idx ln ns) (fresh idx) ns im:=by
 have cnone: ∀b,who b=none->whoC who ln rn b=none:=λb h=>by simp[whoC,h]
 have pnone: ∀b,b<w.heap.size->whoC who ln rn b=none->who' b=none:=λb hb h=>by
  cases e:who' b with
  |none=>rfl
  |some n=>
   grind
 have keepo: ∀b n,who b=some n->n∉ln->who2 who who' idx ln ns b=some n/\w'.heap[b]? =w.heap[b]? :=λb n hb hn=>by
  have hlt:=S.wsz b n hb;by_cases hr:n∈rn
  . have hc:whoC who ln rn b=none:=by simp[whoC,hb,hn,hr]
    exact⟨by simp[who2,pnone b hlt hc,hb,hn],hfr b hlt (.inl hc)⟩
  . have hc:whoC who ln rn b=some FN:=by simp[whoC,hb,hn,hr]
    exact⟨by simp[who2,hFN b hc,hb],hfr b hlt (.inr hc)⟩
 have immo: ∀b,who b=none->b<w.heap.size->who2 who who' idx ln ns b=none/\w'.heap[b]? =w.heap[b]? :=λb hb hlt=>by
  have hc:=cnone b hb;exact⟨by simp[who2,pnone b hlt hc,hb],hfr b hlt (.inl hc)⟩
 have hβ: ∀n,D n->beta2 β β' idx n=β n:=λn hn=>by
  simp only[beta2];rw[iN']
  rintro ⟨h1,h2⟩
  refine hf (n-fresh idx 0) (by simp only[fresh]at*;omega) ?_
  rwa [show fresh idx (n-fresh idx 0)=n by simp only[fresh]at*;omega]
 have hFl:FN∉ln:=λh=>(hln _ h).1 rfl
 have S1:Sim E D (beta2 β β' idx) (who2 who who' idx ln ns) U [] a w':=by
  refine S.world (λs=>(S.rel s).keep ⟨λn hn=>hβ n (S.occ s n hn),λn hn b hb=>keepo b n hb λh=>(hln n h).2 s hn,immo,hsz⟩)
   (λx hx=>by cases hx) (λb n hb=> ?_) hsz (λb hb h0=> ?_) (λb n hb=> ?_) (λb hb=> ?_) h4 (hβ 98 S.d98)
  . simp only[who2]at hb;split at hb
    . split at hb
      . cases hb
      . rename_i m hm;have:=S.wsz b m hm;omega
    grind
  . have hb':b<w.heap.size:=zN2 hb S.fr2;rcases h0 with h0|h0
    . cases hwb:who b with
      |none=>exact(immo b hwb hb').2
      |some n=>
       rcases S.fr1 b n hwb with h|h
       . exact absurd h0 h
       . omega
    . exact(keepo b FN (S.fr3 b h0) hFl).2
  . simp only[who2]at hb;split at hb
    . split at hb
      . cases hb
      . rename_i m hm;exact S.fr1 b m hm
    . rename_i m hm;split at hb
      . exact S.fr1 b n hb
      . rcases(hw b m hm).2 with h|h
        . cases hwb:who b with
          |none=>grind
          |some n'=>exact S.fr1 b n' hwb
        . exact .inr (zK S.fr2 h)
  . exact(keepo b FN (S.fr3 b hb) hFl).1
 refine⟨S1.mono (λn h=> .inl h) (Dn_fn S.dfn),⟨λn hn=> ?_,λn hn b hb=> ?_,λhi b hb hlt=> ?_⟩⟩
 . have:=hns n hn;simp only[beta2];rw[iP (by simp only[fresh];omega)]
   congr 1;simp only[fresh];omega
 . have:=hns n hn;simp only[who2,hb];rw[iN' (by simp only[FN];omega),iP hn]
 . simp only[who2,hb];split
   . rfl
   . rename_i n hn;split
     . rfl
     . rename_i hnl;exfalso;have hc:whoC who ln rn b=some FN:=by simp[whoC,hn,hnl,him hi]
       grind
def Sim.add {new:List (AV×Value)} {D':Nat->Prop} (S:Sim E D' β who U [] a w) (hr: ∀x∈new,Rel β who w x.1 x.2) (hnd:(new.flatMap λx=>names x.1).Nodup)
 (hdis: ∀x∈new,∀n∈names x.1,∀s,n∉names (U.get s)) (ho: ∀x∈new,∀n∈Vs.occ x.1,D' n):Sim E D' β who U new a w:=
 {S with hrel:=hr,hnod:=hnd,hdis:=hdis,hocc:=ho}
def q51 (U:Slots) (p:Pass):Prop:=match p.2.1 with
 |none=>names p.1=[]/\noRef p.1=true
 |some s=>p.1=ren (idxIn (names (U.get s))) (U.get s)/\noRef (U.get s)=true
def Z7 {v:AV} {m:Nat} (h:J5 v=some m):m∈names v:=by
 unfold J5 at h;split at h
 . cases h;simp[names,qj]
 . cases h;simp[names,qj,qg]
 . cases h
def q41 {v:AV} {m:Nat} {u:Value} (h:J5 v=some m) (hr:Rel β who w v u):u=β m:=by
 unfold J5 at h;split at h
 . cases h;exact hr.1
 . cases h;exact hr.1
 . cases h
def ArgOK.passOK {p:Pass} {u:Value} (h:ArgOK β who w U p u) (hs: ∀s,p.2.1=some s->names (U.get s)≠[]):q51 U p:=by
 obtain⟨av,l,rn⟩:=p;cases l with
 |none=>exact⟨h.2.2.1,h.2.1⟩
 |some s=>
  obtain⟨_,h⟩:=h;rcases h with h|⟨m,_,h3,h4,_⟩
  . exact absurd h (hs s rfl)
  . exact⟨h3,h4⟩
def q1u {ps:List Pass} (h: ∀p∈ps,q51 U p):
 (ps.map (·.1)).flatMap names=(Yi ps).flatMap λs=>(names (U.get s)).map (idxIn (names (U.get s))):=by
 induction ps with
 |nil=>rfl
 |cons p ps ih=>
  obtain⟨av,l,rn⟩:=p;have h0:=h _ mS;have ih':=ih λp hp=>h p (mT hp)
  cases l with
  |none=>simp only[zy1,fC,Yi,ih',h0.1,zI3]
  |some s=>
   have e:av=ren (idxIn (names (U.get s))) (U.get s):=h0.1;simp only[zy1,fC,Yi,ih',e,Qi]
def q21 {ps:List Pass} (h: ∀p∈ps,q51 U p):(ps.map (·.1)).all noRef=true:=by
 refine zD1.2 λx hx=> ?_
 obtain⟨p,hp,rfl⟩:=zk.1 hx;obtain⟨av,l,rn⟩:=p;have:=h _ hp;cases l with
 |none=>exact this.2
 |some s=>
  have e:av=ren (idxIn (names (U.get s))) (U.get s):=this.1;subst e;show noRef (ren _ _)=true;rw[Xp];exact this.2
def q7w {outs:List AV} {o:AV}: ∀{ps:List Pass} {k:Nat} {s:Nat},outAt outs ps k=some o->Yi ps=[s]->
 ∃i,∃h:i<ps.length,ps[i].2.1=some s/\outs[k+i]? =some o
 |[],k,s,h,_=>by cases h
 |(av,some s',rn)::ps,k,s,h,hl=>by
  simp only[Yi,List.cons.injEq]at hl;exact⟨0,by simp,by simp[hl.1],h⟩
 |(av,none,rn)::ps,k,s,h,hl=>by
  obtain⟨i,hi,h1,h2⟩:=q7w (ps:=ps) (k:=k+1) h hl;exact⟨i+1,by simpa using hi,h1,by rw[<-h2];congr 1;omega⟩
def Xv {ps:List Pass} {p:Pass} {s:Nat} (hp:p∈ps) (h:p.2.1=some s):s∈Yi ps:=by
 induction ps with
 |nil=>cases hp
 |cons q ps ih=>
  obtain⟨av,l,rn⟩:=q;rcases mC hp with rfl|hp'
  . simp only at h;subst h;simp[Yi]
  . cases l with
    |none=>exact ih hp'
    |some s'=>exact mT (ih hp')
def qgz {l1 l2:List Nat} {n:Nat} (h:n∈l1):idxIn (l1++l2) n=idxIn l1 n:=by
 induction l1 with
 |nil=>cases h
 |cons m ms ih=>
  simp only[zl2,idxIn]
  grind
def qdt {l1 l2:List Nat} {n:Nat} (h:n∉l1):idxIn (l1++l2) n=idxIn l2 n+l1.length:=by
 induction l1 with
 |nil=>simp
 |cons m ms ih=>
  simp only[zU,not_or]at h;simp only[zl2,idxIn,zw1]
  grind
def qck {f g:Nat->Nat} {c:AV}:renC g (renC f c)=renC (λn=>g (f n)) c:=by
 cases c with
 |sl o t xs=>cases o<;>rfl
 |_=>rfl
def qfm {f g:Nat->Nat} {cells:List AV}:(cells.map (renC f)).map (renC g)=cells.map (renC λn=>g (f n)):=by
 rw[List.map_map];exact zR2 λc _=>qck
def q36 {f g:Nat->Nat} {v:AV}:renA g (renA f v)=renA (λn=>g (f n)) v:=by
 cases v with
 |bx o cells=>
  have:=qfm (f:=f) (g:=g) (cells:=cells);cases o<;>simp only[renA,renO,this]
 |agg cells=>simp only[renA,qfm]
 |sl o t xs=>have:=qck (f:=f) (g:=g) (c:= .sl o t xs);cases o<;>exact this
 |_=>rfl
def qqi {f g:Nat->Nat} {v:AV}:ren g (ren f v)=ren (λn=>g (f n)) v:=by
 cases v with
 |tup vs=>
  simp only[ren,List.map_map];congr 1;exact zR2 λc _=>q36
 |sl o t xs=>have:=q36 (f:=f) (g:=g) (v:= .sl o t xs);cases o<;>exact this
 |bx o cells=>exact q36 (f:=f) (g:=g) (v:= .bx o cells)
 |agg cells=>exact q36 (f:=f) (g:=g) (v:= .agg cells)
 |_=>rfl
def q1m {f g:Nat->Nat} {c:AV} (h: ∀n∈qg c,f n=g n):renC f c=renC g c:=by
 cases c with
 |sl o t xs=>
  cases o with
  |nm n=>simp only[renC,h n (by simp[qg])]
  |_=>rfl
 |dp n t xs hh=>simp only[renC,h n (by simp[qg])]
 |wn n t xs=>simp only[renC,h n (by simp[qg])]
 |_=>rfl
def Jo {f g:Nat->Nat} {cells:List AV} (h: ∀n∈cells.flatMap qg,f n=g n):cells.map (renC f)=cells.map (renC g):=
 zR2 λc hc=>q1m λn hn=>h n (zG.2 ⟨c,hc,hn⟩)
def Zr {f g:Nat->Nat} {v:AV} (h: ∀n∈qj v,f n=g n):renA f v=renA g v:=by
 cases v with
 |bx o cells=>
  cases o with
  |nm m=>
   simp only[qj,zU]at h;simp only[renA,renO,h m (.inl rfl),Jo λn hn=>h n (.inr hn)]
  |_=>simp only[renA,renO,Jo (cells:=cells) h]
 |agg cells=>simp only[renA,Jo (cells:=cells) h]
 |sl o t xs=>exact q1m (c:= .sl o t xs) h
 |dp n t xs hh=>exact q1m (c:= .dp n t xs hh) h
 |wn n t xs=>exact q1m (c:= .wn n t xs) h
 |_=>rfl
def qk7 {f g:Nat->Nat} {v:AV} (h: ∀n∈names v,f n=g n):ren f v=ren g v:=by
 cases v with
 |tup vs=>
  simp only[ren];congr 1;exact zR2 λc hc=>Zr λn hn=>h n (zG.2 ⟨c,hc,hn⟩)
 |sl o t xs=>exact Zr (v:= .sl o t xs) h
 |bx o cells=>exact Zr (v:= .bx o cells) h
 |agg cells=>exact Zr (v:= .agg cells) h
 |dp n t xs hh=>exact Zr (v:= .dp n t xs hh) h
 |wn n t xs=>exact Zr (v:= .wn n t xs) h
 |_=>rfl
def qdk {ps:List Pass} {k s:Nat} (h: ∀p∈ps,q51 U p):
 (ps.map (q1h k s)).flatMap names=(Yi ps).flatMap λs'=>(names (U.get s')).map λn=>if s'=s then idxIn (names (U.get s')) n+k else idxIn (names (U.get s')) n:=by
 induction ps with
 |nil=>rfl
 |cons p ps ih=>
  obtain⟨av,l,rn⟩:=p;have h0:=h _ mS;have ih':=ih λp hp=>h p (mT hp)
  cases l with
  |none=>simp only[zy1,fC,Yi,ih',q1h,h0.1,zI3]
  |some s'=>
   have e:av=ren (idxIn (names (U.get s'))) (U.get s'):=h0.1;simp only[zy1,fC,Yi,ih',q1h,e];congr 1;split
   . rw[Qi,Qi,List.map_map];rfl
   . rw[Qi]
def qeu {ps:List Pass} {k s:Nat} (h: ∀p∈ps,q51 U p):(ps.map (q1h k s)).all noRef=true:=by
 refine zD1.2 λx hx=> ?_
 obtain⟨p,hp,rfl⟩:=zk.1 hx;obtain⟨av,l,rn⟩:=p;have:=h _ hp;cases l with
 |none=>exact this.2
 |some s'=>
  have e:av=ren (idxIn (names (U.get s'))) (U.get s'):=this.1;subst e;simp only[q1h];split
  . rw[Xp,Xp];exact this.2
  . rw[Xp];exact this.2
def q1t {outs:List AV} {o:AV} {s:Nat}: ∀{ps:List Pass} {k:Nat},outOf s outs ps k=some o-> ∃i,∃h:i<ps.length,ps[i].2.1=some s/\outs[k+i]? =some o
 |[],k,h=>by cases h
 |(av,some s',rn)::ps,k,h=>by
  simp only[outOf]at h;split at h
  . rename_i e;exact⟨0,by simp,by simp[e],h⟩
  . obtain⟨i,hi,h1,h2⟩:=q1t (ps:=ps) (k:=k+1) h;exact⟨i+1,by simpa using hi,h1,by rw[<-h2];congr 1;omega⟩
 |(av,none,rn)::ps,k,h=>by
  obtain⟨i,hi,h1,h2⟩:=q1t (ps:=ps) (k:=k+1) h;exact⟨i+1,by simpa using hi,h1,by rw[<-h2];congr 1;omega⟩
def qgd: ∀{outs:List AV} {i j:Nat} (hi:i<outs.length) (hj:j<outs.length),i≠j->(outs.flatMap names).Nodup->
 (names outs[i]++names outs[j]).Nodup
 |[],i,j,hi,hj,hne,h=>absurd hi (zS1 _)
 |x::xs,i,j,hi,hj,hne,h=>by
  simp only[fC]at h;obtain⟨h1,h2,h3⟩:=zQ.1 h
  have nd: ∀{k:Nat} (hk:k<xs.length),(names xs[k]).Nodup:=λ{k} hk=>by
   grind
  match i,j with
  |0,0=>exact absurd rfl hne
  |0,j+1=>
   grind
  |i+1,0=>
   grind
  |i+1,j+1=>
   simp only[List.getElem_cons_succ];exact qgd (by simpa using hi) (by simpa using hj) (λe=>hne O) h2
end
def q1a {P:Program} {f:FuncId} (h: ∃fn,P.funcs[f]? =some fn∧fn.body.isNone=false∧(fn.name== "runtime.NumGoroutine")=false) (args:Array Value) (w:World):
 (callFunc f args).run P w= .ok (.enter f args) w:=by
 obtain⟨fn,h1,h2,h3⟩:=h;have h2':fn.body≠none:=λe=>by rw[e]at h2;cases h2
 have h3':fn.name≠ "runtime.NumGoroutine" :=by simpa using h3
 simp[callFunc,h1,h2',h3']
section
variable {P:Program} {CO:Qb} {T:TT} {E:Entry} {D:Nat->Prop} {β β':Beta} {who who':Who} {U U':Slots} {hd:List (AV×Value)} {a:Act} {w w':World} {R W:List Nat}
def OpWp (P:Program) (E:Entry) (D:Nat->Prop) (idx:Nat) (U':Slots) (v:AV) (o:Oper) (a:Act) (w:World):Prop:=
 ∀(next:Act->World->Prop) (Q:Exit->Act->World->Prop),
  (∀c w' β' who',Sim E (Dn D idx) β' who' U' [(v,c)] a w'->next (a.put o.dst c) w')->o.wp P a w next Q
def OpOut.wp {idx:Nat} {v:AV} {o:Oper} (h:OpOut P E D idx U' v a ((execOp a.eval o).run P w)):OpWp P E D idx U' v o a w:=by
 intro next Q hn
 obtain⟨c,w',β',who',hr|⟨hr,rfl⟩,S⟩:=h
 . unfold Oper.wp;rw[hr];exact hn c w' β' who' S
 . unfold Oper.wp;rw[hr];exact hn undef w' β' who' S
def Jl {res o:AV} {outs:List AV} (h:(names res++outs.flatMap names).Nodup) (ho:o∈outs):(names o++names res).Nodup/\ ∀n∈names o,n∈outs.flatMap names:=by
 have hsub:(names o).Sublist (outs.flatMap names):=by
  induction outs with
  |nil=>cases ho
  |cons x xs ih=>
   simp only[fC];rcases mC ho with rfl|ho
   . exact List.sublist_append_left _ _
   . refine(ih ?_ ho).trans (List.sublist_append_right _ _);simp only[fC]at h;exact h.sublist (List.Sublist.append (List.Sublist.refl _) (List.sublist_append_right _ _))
 have h2:=h.sublist (List.Sublist.append (List.Sublist.refl (names res)) hsub);exact⟨(List.perm_append_comm.nodup_iff).1 h2,λn hn=>hsub.subset hn⟩
def qku (hT:TTok P T) (hC: ∀f as r os,CO f as r os->Xt P f as r os) (hEP:E.prog=P) {idx f:Nat} {o:Oper} {args:List Operand} {tys:List TypeId} {v:AV} {et:Ty} {xs:List (Den et)} {i0 j0:Nat} {pv:Value} (hpv:Rel β who w (.iptr none et xs i0 j0) pv)
 (h:Run CO (cloAV T idx f args tys (.iptr none et xs i0 j0)) U v U' R W) (S:Sim E D β who U [] a w) (hf: ∀k,k<16-> ¬D (fresh idx k))
 (hop:execOp a.eval o=callFunc f (args.map a.eval++[pv]).toArray):OpWp P E D idx U' v o a w:=by
 intro next Q hnext
 obtain⟨ps,U1,_,_,_,_,h1,h2⟩:=kA h;obtain⟨_,who1,hfr,S1,hlen,hargs⟩:=Run.passAll hT h1 S
 have hpoX:(∀s∈Yi ps,names (U1.get s)≠[])-> ∀p∈ps,q51 U1 p:=λhs p hp=>by
  obtain⟨i,hi,rfl⟩:=zx hp;exact(hargs i hi (by rw[<-hlen];exact hi)).passOK λs e=>hs s (Xv hp e)
 have hrnF: ∀n∈ps.flatMap (·.2.2),n≠FN:=λn hn=>by
  obtain⟨p,hp,hn⟩:=zG.1 hn;obtain⟨i,hi,rfl⟩:=zx hp;have ha:=hargs i hi (by rw[<-hlen];exact hi)
  generalize ps[i]=p at*
  obtain⟨av,l,rn⟩:=p;cases l with
  |none=>exact ha.2.2.2 n hn
  |some s=>have e:rn=[]:=ha.1;subst e;cases hn
 have hpure: ∀(ln:List Nat) (βc:Beta),(∀n∈ps.flatMap (·.2.2),n∉ln)-> ∀i (hi:i<ps.length),ps[i].2.1=none->Rel βc (whoC who1 ln (ps.flatMap (·.2.2))) w ps[i].1 (a.eval (args[i]'(by rw[<-hlen];exact hi))):=λln βc hd i hi hl=>by
  have ha:=hargs i hi (by rw[<-hlen];exact hi)
  have hsub: ∀n∈ps[i].2.2,n∈ps.flatMap (·.2.2):=λn hn=>zG.2 ⟨_,zJ hi,hn⟩
  generalize ps[i]=p at*
  obtain⟨av,l,rn⟩:=p;simp only at hl;subst hl;refine ha.1 βc _ ⟨λb hb=>by simp[whoC,hb],λb n hb hn=> ?_⟩
  simp[whoC,hb,hd n (hsub n hn),hsub n hn]
 split at h2
 ·
  rename_i hl;have hpo:=hpoX (λs hs=>by rw[hl]at hs;cases hs)
  have hnoref:=q21 hpo;have hnames:=q1u hpo;obtain⟨⟨r,os⟩,U2,_,_,_,_,h3,h4⟩:=kA h2;obtain⟨hco,rfl⟩:=Run.mcall' h3;obtain⟨hen,hcall⟩:=hC _ _ _ _ hco;dsimp only at h4;have hnil:(ps.map (·.1)).flatMap names=[]:=by rw[hnames,hl];rfl
  have him:Xa r=true->ps.flatMap (·.2.2)=[]:=λhi=>by
   split at h4
   . exact(kC h4).elim
   . rename_i hc;simp only[hi,zn3,Bool.not_eq_true']at hc;simpa using hc
  have hv:v=ren (fresh idx) r/\U'=U2:=by
   split at h4
   . exact(kC h4).elim
   . exact kB h4
  obtain⟨rfl,rfl⟩:=hv
  have hpv1: ∀βc,Rel βc (whoC who1 [] (ps.flatMap (·.2.2))) w (.iptr none et xs i0 j0) pv:=λβc=>by
   obtain⟨b,o',q1,q2,q3,q4,q5⟩:=hpv
   have im: ∀b,who b=none->b<w.heap.size->whoC who1 [] (ps.flatMap (·.2.2)) b=none/\w.heap[b]? =w.heap[b]? :=λb hb _=>⟨by
    have hz:who1 b=none:=(hfr b).elim (λh=>h.trans hb) id
    simp[whoC,hz],rfl⟩
   exact⟨b,o',q1,q2,(im b q3 q4).1,q4,Elems.keep im (zH _) rfl q5⟩
  have hnoref':(ps.map (·.1)++[AV.iptr none et xs i0 j0]).all noRef=true:=by rw[List.all_append,hnoref];rfl
  have hnil':(ps.map (·.1)++[AV.iptr none et xs i0 j0]).flatMap names=[]:=by rw[zj1,hnil];rfl
  have hcalls:=hcall (λ_=>undef) (whoC who1 [] (ps.flatMap (·.2.2))) w (args.map a.eval++[pv]).toArray (by simp[hlen]) (λi hi=>by
   by_cases hi':i<ps.length
   . have ha:i<args.length:=by rw[<-hlen];exact hi'
     have e1:(ps.map (·.1)++[AV.iptr none et xs i0 j0])[i]=ps[i].1:=by rw[zz1 (by simpa using hi'),zZ1]
     have e2:(args.map a.eval++[pv]).toArray.getD i undef=a.eval args[i]:=by
      simp[Array.getD,ha];intro h;omega
     rw[e1,e2];refine hpure [] _ (λ_ _ h=>by cases h) i hi' ?_
     cases e:ps[i].2.1 with
     |none=>rfl
     |some s=>have:=Xv (zJ hi') e;rw[hl]at this;cases this
   . have hi2:i=ps.length:=by simp at hi;omega
     subst hi2;have e1:(ps.map (·.1)++[AV.iptr none et xs i0 j0])[ps.length]= .iptr none et xs i0 j0:=by simp
     have e2:(args.map a.eval++[pv]).toArray.getD ps.length undef=pv:=by simp[Array.getD,hlen]
     rw[e1,e2];exact hpv1 _) (by rw[hnil'];exact zK2) (by rw[hnil'];simp) (q00 hnoref')
   (fun b n hb=>by
     simp only[whoC]at hb;split at hb
     . cases hb
     . rename_i m hm;simp only[zy,if_false]at hb;split at hb
       . cases hb
       . injection hb with hb;exact⟨S1.wsz b m hm,.inr hb.symm⟩)
  unfold Oper.wp;rw[hop,q1a hen,Oper.upon_enter];refine Calls.mono (hcalls ((hEP▸S1.glob:GlobOK P who1 w).whoC (λb h=>by simp[whoC,h]))) λe w' hp=> ?_
  obtain⟨c,β',who',rfl,_,p1,p2,p3,p4,p5,p6,p7,p8,p9,p10,p11⟩:=hp;have hnd:=(zQ.1 p3).1
  obtain⟨S2,k⟩:=q0c (β':=β') (who':=who') (w':=w') (ln:=[]) (rn:=ps.flatMap (·.2.2)) (ns:=names r) (im:=Xa r) S1 hf (λn hn=>by cases hn) hrnF (by simp) p7 p8 p9 p10
   (λn hn=>p4 n (zB1 _ hn)) him p11
  refine hnext c w' _ _ (S2.add (new:=[(ren (fresh idx) r,c)]) ?_ ?_ ?_ ?_)
  . intro x hx;obtain rfl:=zA.1 hx;exact Rel.ren p5 k p1
  . simp only[fC,zn2,zb1,Qi];exact Xb (λ_ _ _ _ h=>Jy h) hnd
  . intro x hx n hn s hs;obtain rfl:=zA.1 hx;simp only[Qi,zk]at hn;obtain⟨m,hm,rfl⟩:=hn;exact hf m (p4 m (zB1 _ hm)) (S1.occ s _ (ql hs))
  . intro x hx n hn;obtain rfl:=zA.1 hx;rw[Js (by rw[Xp];exact p5),Qi,zk]at hn
    obtain⟨m,hm,rfl⟩:=hn;exact .inr ⟨m,p4 m (zB1 _ hm),rfl⟩
 . exact(kC h2).elim
def q8q (hT:TTok P T) (hC: ∀f as r os,CO f as r os->Xt P f as r os) (hEP:E.prog=P) {idx mode f:Nat} {o:Oper} {args:List Operand} {tys:List TypeId} {v:AV}
 (h:Run CO (qid T idx mode f args tys) U v U' R W) (S:Sim E D β who U [] a w) (hf: ∀k,k<16-> ¬D (fresh idx k))
 (hop:execOp a.eval o=callFunc f (args.map a.eval).toArray):OpWp P E D idx U' v o a w:=by
 intro next Q hnext
 obtain⟨ps,U1,_,_,_,_,h1,h2⟩:=kA h;obtain⟨_,who1,_,S1,hlen,hargs⟩:=Run.passAll hT h1 S
 have hpoX:(∀s∈Yi ps,names (U1.get s)≠[])-> ∀p∈ps,q51 U1 p:=λhs p hp=>by
  obtain⟨i,hi,rfl⟩:=zx hp;exact(hargs i hi (by rw[<-hlen];exact hi)).passOK λs e=>hs s (Xv hp e)
 have hcg: ∀i (hi:i<args.length),(args.map a.eval).toArray.getD i undef=a.eval args[i]:=λi hi=>by simp[Array.getD,hi]
 have hrnF: ∀n∈ps.flatMap (·.2.2),n≠FN:=λn hn=>by
  obtain⟨p,hp,hn⟩:=zG.1 hn;obtain⟨i,hi,rfl⟩:=zx hp;have ha:=hargs i hi (by rw[<-hlen];exact hi)
  generalize ps[i]=p at*
  obtain⟨av,l,rn⟩:=p;cases l with
  |none=>exact ha.2.2.2 n hn
  |some s=>have e:rn=[]:=ha.1;subst e;cases hn
 have hpure: ∀(ln:List Nat) (βc:Beta),(∀n∈ps.flatMap (·.2.2),n∉ln)-> ∀i (hi:i<ps.length),ps[i].2.1=none->Rel βc (whoC who1 ln (ps.flatMap (·.2.2))) w ps[i].1 (a.eval (args[i]'(by rw[<-hlen];exact hi))):=λln βc hd i hi hl=>by
  have ha:=hargs i hi (by rw[<-hlen];exact hi)
  have hsub: ∀n∈ps[i].2.2,n∈ps.flatMap (·.2.2):=λn hn=>zG.2 ⟨_,zJ hi,hn⟩
  generalize ps[i]=p at*
  obtain⟨av,l,rn⟩:=p;simp only at hl;subst hl;refine ha.1 βc _ ⟨λb hb=>by simp[whoC,hb],λb n hb hn=> ?_⟩
  simp[whoC,hb,hd n (hsub n hn),hsub n hn]
 split at h2
 ·
  rename_i hl;have hpo:=hpoX (λs hs=>by rw[hl]at hs;cases hs)
  have hnoref:=q21 hpo;have hnames:=q1u hpo;obtain⟨⟨r,os⟩,U2,_,_,_,_,h3,h4⟩:=kA h2;obtain⟨hco,rfl⟩:=Run.mcall' h3;obtain⟨hen,hcall⟩:=hC _ _ _ _ hco;dsimp only at h4;have hnil:(ps.map (·.1)).flatMap names=[]:=by rw[hnames,hl];rfl
  have him:Xa r=true->ps.flatMap (·.2.2)=[]:=λhi=>by
   split at h4
   . exact(kC h4).elim
   . rename_i hc;simp only[hi,zn3,Bool.not_eq_true']at hc;simpa using hc
  have hv:v=ren (fresh idx) r/\U'=U2:=by
   split at h4
   . exact(kC h4).elim
   . exact kB h4
  obtain⟨rfl,rfl⟩:=hv
  have hcalls:=hcall (λ_=>undef) (whoC who1 [] (ps.flatMap (·.2.2))) w (args.map a.eval).toArray (by simp[hlen]) (λi hi=>by
   have hi':i<ps.length:=by simpa using hi
   rw[hcg i (by rw[<-hlen];exact hi'),zZ1]
   refine hpure [] _ (λ_ _ h=>by cases h) i hi' ?_
   cases e:ps[i].2.1 with
   |none=>rfl
   |some s=>have:=Xv (zJ hi') e;rw[hl]at this;cases this) (by rw[hnil];exact zK2) (by rw[hnil];simp) (q00 hnoref)
   (fun b n hb=>by
     simp only[whoC]at hb;split at hb
     . cases hb
     . rename_i m hm;simp only[zy,if_false]at hb;split at hb
       . cases hb
       . injection hb with hb;exact⟨S1.wsz b m hm,.inr hb.symm⟩)
  unfold Oper.wp;rw[hop,q1a hen,Oper.upon_enter];refine Calls.mono (hcalls ((hEP▸S1.glob:GlobOK P who1 w).whoC (λb h=>by simp[whoC,h]))) λe w' hp=> ?_
  obtain⟨c,β',who',rfl,_,p1,p2,p3,p4,p5,p6,p7,p8,p9,p10,p11⟩:=hp;have hnd:=(zQ.1 p3).1
  obtain⟨S2,k⟩:=q0c (β':=β') (who':=who') (w':=w') (ln:=[]) (rn:=ps.flatMap (·.2.2)) (ns:=names r) (im:=Xa r) S1 hf (λn hn=>by cases hn) hrnF (by simp) p7 p8 p9 p10
   (λn hn=>p4 n (zB1 _ hn)) him p11
  refine hnext c w' _ _ (S2.add (new:=[(ren (fresh idx) r,c)]) ?_ ?_ ?_ ?_)
  . intro x hx;obtain rfl:=zA.1 hx;exact Rel.ren p5 k p1
  . simp only[fC,zn2,zb1,Qi];exact Xb (λ_ _ _ _ h=>Jy h) hnd
  . intro x hx n hn s hs;obtain rfl:=zA.1 hx;simp only[Qi,zk]at hn;obtain⟨m,hm,rfl⟩:=hn;exact hf m (p4 m (zB1 _ hm)) (S1.occ s _ (ql hs))
  . intro x hx n hn;obtain rfl:=zA.1 hx;rw[Js (by rw[Xp];exact p5),Qi,zk]at hn
    obtain⟨m,hm,rfl⟩:=hn;exact .inr ⟨m,p4 m (zB1 _ hm),rfl⟩
 ·
  rename_i s hl;obtain⟨av,U2,_,_,_,_,h3,h4⟩:=kA h2;obtain⟨rfl,rfl⟩:=kD h3;split at h4
  . exact(kC h4).elim
  rename_i hdis;simp only[zq2,not_or]at hdis;obtain⟨hhd,hdis⟩:=hdis
  have hpo:=hpoX (λs' hs=>by
   rw[hl,zA]at hs;subst hs;intro e;cases e2:J5 (U2.get s')with
   |none=>rw[e2]at hhd;exact hhd rfl
   |some m=>have:=Z7 e2;rw[e]at this;cases this)
  have hnoref:=q21 hpo;have hnames:=q1u hpo;obtain⟨⟨r,os⟩,U3,_,_,_,_,h5,h6⟩:=kA h4;obtain⟨hco,rfl⟩:=Run.mcall' h5;obtain⟨hen,hcall⟩:=hC _ _ _ _ hco;dsimp only at h6;split at h6
  case h_2=>exact(kC h6).elim
  rename_i ov hov;split at h6
  . exact(kC h6).elim
  rename_i hc
  have hwn:isWn ov=false:=by
   cases e:isWn ov with
   |false=>rfl
   |true=>exact absurd (by rw[e,zU3]) hc
  have hc: ¬(!(ps.flatMap (·.2.2)).isEmpty&&(Xa r||Xa ov))=true:=λe=>hc (by rw[e];rfl)
  obtain⟨_,U4,_,_,_,_,h7,h8⟩:=kA h6;have:=kE h7;subst this;obtain⟨rfl,rfl⟩:=kB h8;obtain⟨i,hi,hps,hos⟩:=q7w hov hl;simp only[zF]at hos;have hai:=hargs i hi (by rw[<-hlen];exact hi)
  obtain⟨m,hbx,hln,hnr,hu⟩: ∃m,J5 (U3.get s)=some m/\(names (U3.get s)).length<=16/\noRef (U3.get s)=true/\a.eval (args[i]'(by rw[<-hlen];exact hi))=β m:=by
   generalize ps[i]=p at*
   obtain⟨av,l,rn⟩:=p;simp only at hps;subst hps;obtain⟨_,hai⟩:=hai;rcases hai with hai|⟨m,q1,q2,q3,q4,q5⟩
   . cases e2:J5 (U3.get s)with
     |none=>rw[e2]at hhd;exact absurd rfl hhd
     |some m=>have:=Z7 e2;rw[hai]at this;cases this
   . exact⟨m,q1,q4,q3,q5⟩
  have htmp:a.tmps.getD s undef=β m:=q41 hbx (S1.rel s);generalize hlnn:names (U3.get s)=ln at*
  have hdis': ∀n∈ps.flatMap (·.2.2),n∉ln:=λn hn hn'=>by
   apply hdis;exact List.any_eq_true.2 ⟨n,hn,zX1.2 hn'⟩
  have him:(Xa r||Xa ov)=true->ps.flatMap (·.2.2)=[]:=λhi=>by
   simp only[hi,zn3,Bool.not_eq_true']at hc;simpa using hc
  have hnd0:ln.Nodup:=hlnn▸S1.nod s;have hnam:(ps.map (·.1)).flatMap names=ln.map (idxIn ln):=by rw[hnames,hl];simp[hlnn]
  have hlnD: ∀n∈ln,D n:=λn hn=>S1.occ s n (ql (hlnn▸hn))
  have hcalls:=hcall (λk=>β (ln.getD k 0)) (whoC who1 ln (ps.flatMap (·.2.2))) w (args.map a.eval).toArray (by simp[hlen]) (λj hj=>by
   have hj':j<ps.length:=by simpa using hj
   rw[hcg j (by rw[<-hlen];exact hj'),zZ1]
   cases e:ps[j].2.1 with
   |none=>exact hpure ln _ hdis' j hj' e
   |some s'=>
    have:=Xv (zJ hj') e;rw[hl,zA]at this;subst this;have haj:=hargs j hj' (by rw[<-hlen];exact hj')
    generalize ps[j]=p at*
    obtain⟨av,l,rn⟩:=p;simp only at e;subst e;obtain⟨_,haj⟩:=haj;obtain⟨m',q1,q2,q3,q4,q5⟩:=haj.resolve_left λe=>by have:=Z7 hbx;rw[e]at this;cases this
    simp only at q2;rw[q2,q5,hlnn];have hrel:=S1.rel s';have e2:β m'=a.tmps.getD s' undef:=(q41 q1 hrel).symm;rw[e2];refine Rel.ren q3 ⟨λn hn=> ?_,λn hn b hb=> ?_,λ_ b hb _=>by simp[whoC,hb]⟩ hrel
    . rw[hlnn]at hn;simp only[Jz hn]
    . rw[hlnn]at hn;simp[whoC,hb,hn]) (by rw[hnam];exact Xb (λ_ h1 _ h2 h=>q19 h1 h2 h) hnd0)
   (by
     rw[hnam];intro n' hn';obtain⟨n,hn,rfl⟩:=zk.1 hn';have:=Y5 hn;omega) (q00 hnoref)
   (fun b n hb=>by
     simp only[whoC]at hb;split at hb
     . cases hb
     . rename_i n' hn';refine⟨S1.wsz b n' hn',?_⟩;split at hb
       . rename_i hin;injection hb with hb
         exact .inl (by rw[hnam,<-hb];exact zk.2 ⟨n',hin,rfl⟩)
       . split at hb
         . cases hb
         . injection hb with hb;exact .inr hb.symm)
  unfold Oper.wp;rw[hop,q1a hen,Oper.upon_enter];refine Calls.mono (hcalls ((hEP▸S1.glob:GlobOK P who1 w).whoC (λb h=>by simp[whoC,h]))) λe w' hp=> ?_
  obtain⟨c,β',who',rfl,_,p1,p2,p3,p4,p5,p6,p7,p8,p9,p10,p11⟩:=hp;have hov':ov∈os:=List.mem_of_getElem? hos;obtain⟨hnd,hovn⟩:=Jl p3 hov';have hS0:Sim E D β who1 (U3.set s .dead) [] a w:=(S1.takeAll s).drop rfl
  obtain⟨S2,k⟩:=q0c (β':=β') (who':=who') (w':=w') (ln:=ln) (rn:=ps.flatMap (·.2.2)) (ns:=names r++names ov) (im:=Xa r||Xa ov) hS0 hf
   (fun n hn=>⟨λe=>S1.dfn (e▸hlnD n hn),λs' hs'=>by
     by_cases e:s'=s
     . subst e;rw[qh]at hs';simp[names,qj,qg]at hs'
     . rw[qc _ _ e]at hs';exact e (S1.dis s' s n hs' (hlnn▸hn))⟩) hrnF hln p7 p8 p9 p10
   (fun n hn=>by
     rcases zY.1 hn with h|h
     . exact p4 n (zB1 _ h)
     . exact p4 n (zL1 _ (hovn n h))) him p11
  have p6':noRef ov=true:=q2r (zD1.1 p6 _ hov') hwn
  have hrov:Rel β' who' w' ov (a.tmps.getD s undef):=by
   obtain⟨hi2,e2⟩:=List.getElem?_eq_some_iff.1 hos;have:=p2 i hi2;rw[hcg i (by rw[<-hlen];exact hi),hu,<-htmp,e2]at this
   exact this
  have h16: ∀n,n∈names ov\/n∈names r->n<16:=λn hn=>by
   rcases hn with h|h
   . exact p4 n (zL1 _ (hovn n h))
   . exact p4 n (zB1 _ h)
  have hfreshσ: ∀m,m<16-> ∀t,fresh idx m∉names ((U3.set s .dead).get t):=λm hm t ht=>hf m hm (hS0.occ t _ (ql ht))
  have S3:=S2.add (new:=[(ren (fresh idx) ov,a.tmps.getD s undef),(ren (fresh idx) r,c)])
   (fun x hx=>by
     rcases mC hx with rfl|hx
     . exact Rel.ren p6' (k.mono (λn hn=>zL1 _ hn) λe=>by simp[e]) hrov
     . obtain rfl:=zA.1 hx;exact Rel.ren p5 (k.mono (λn hn=>zB1 _ hn) λe=>by simp[e]) p1)
   (by
     simp only[fC,zn2,zb1,Qi,<-List.map_append];exact Xb (λ_ _ _ _ h=>Jy h) hnd)
   (fun x hx n hn t ht=>by
     have: ∃m,m<16/\n=fresh idx m:=by
      rcases mC hx with rfl|hx
      . simp only[Qi,zk]at hn;obtain⟨m,hm,rfl⟩:=hn;exact⟨m,h16 m (.inl hm),rfl⟩
      . obtain rfl:=zA.1 hx;simp only[Qi,zk]at hn;obtain⟨m,hm,rfl⟩:=hn;exact⟨m,h16 m (.inr hm),rfl⟩
     obtain⟨m,hm,rfl⟩:=this;exact hfreshσ m hm t ht)
   (fun x hx n hn=>by
     rcases mC hx with rfl|hx
     . rw[Js (by rw[Xp];exact p6'),Qi,zk]at hn
       obtain⟨m,hm,rfl⟩:=hn;exact .inr ⟨m,h16 m (.inl hm),rfl⟩
     . obtain rfl:=zA.1 hx;rw[Js (by rw[Xp];exact p5),Qi,zk]at hn
       obtain⟨m,hm,rfl⟩:=hn;exact .inr ⟨m,h16 m (.inr hm),rfl⟩)
  have S4:=S3.putBack (by rw[qh];rfl)
  refine hnext c w' _ _ (S4.ext λt=> ?_)
  by_cases e:t=s
  . subst e;rw[qh,qh]
  . rw[qc _ _ e,qc _ _ e,qc _ _ e]
 ·
  rename_i s t hl;obtain⟨av,U2,_,_,_,_,h3,h4⟩:=kA h2;obtain⟨rfl,rfl⟩:=kD h3;obtain⟨bv,U2',_,_,_,_,h3',h4'⟩:=kA h4;obtain⟨rfl,rfl⟩:=kD h3';split at h4'
  . exact(kC h4').elim
  rename_i hdis;simp only[zq2,not_or]at hdis;obtain⟨⟨⟨⟨hst,hhd⟩,hhd2⟩,h16'⟩,hdis⟩:=hdis;have hst:s≠t:=λe=>hst (by rw[e];exact Nat.beq_refl t)
  have h16l:(names (U2'.get s)).length+(names (U2'.get t)).length<=16:=by
   have: ¬(16<(names (U2'.get s)).length+(names (U2'.get t)).length):=λh=>h16' (by simpa [Nat.blt_eq]using h)
   omega
  have hsome: ∀s',s'∈Yi ps-> ∃m,J5 (U2'.get s')=some m:=λs' hs=>by
   rw[hl]at hs;simp only[zU,zy,or_false]at hs;rcases hs with rfl|rfl
   . cases e2:J5 (U2'.get s')with
     |none=>rw[e2]at hhd;exact absurd rfl hhd
     |some m=>exact⟨m,rfl⟩
   . cases e2:J5 (U2'.get s')with
     |none=>rw[e2]at hhd2;exact absurd rfl hhd2
     |some m=>exact⟨m,rfl⟩
  have hpo:=hpoX (λs' hs e=>by
   obtain⟨m,hm⟩:=hsome s' hs;have:=Z7 hm;rw[e]at this;cases this)
  have hnoref:=qeu (k:=(names (U2'.get s)).length) (s:=t) hpo;have hnames:=qdk (k:=(names (U2'.get s)).length) (s:=t) hpo;obtain⟨⟨r,os⟩,U3,_,_,_,_,h5,h6⟩:=kA h4';obtain⟨hco,rfl⟩:=Run.mcall' h5;obtain⟨hen,hcall⟩:=hC _ _ _ _ hco;dsimp only at h6;split at h6
  case h_2=>exact(kC h6).elim
  rename_i o1 o2 hov1 hov2;split at h6
  . exact(kC h6).elim
  rename_i hc
  have hwn1:isWn o1=false:=by
   cases e:isWn o1 with
   |false=>rfl
   |true=>exact absurd (by rw[e,zz3,zU3]) hc
  have hwn2:isWn o2=false:=by
   cases e:isWn o2 with
   |false=>rfl
   |true=>exact absurd (by rw[e,zU3,zU3]) hc
  have hc: ¬(!(ps.flatMap (·.2.2)).isEmpty&&(Xa r||Xa o1||Xa o2))=true:=λe=>hc (by rw[e];rfl)
  obtain⟨_,U4,_,_,_,_,h7,h8⟩:=kA h6;have:=kE h7;subst this;obtain⟨_,U5,_,_,_,_,h9,h10⟩:=kA h8;have:=kE h9;subst this;obtain⟨rfl,rfl⟩:=kB h10;obtain⟨i1,hi1,hps1,hos1⟩:=q1t hov1;obtain⟨i2,hi2,hps2,hos2⟩:=q1t hov2;simp only[zF]at hos1 hos2;have hi12:i1≠i2:=by rintro rfl;rw[hps1]at hps2;injection hps2 with e;exact hst e
  have hlent: ∀j (hj:j<ps.length) s',ps[j].2.1=some s'-> ∃m,J5 (U3.get s')=some m/\ps[j].1=ren (idxIn (names (U3.get s'))) (U3.get s')/\noRef (U3.get s')=true/\
   a.eval (args[j]'(by rw[<-hlen];exact hj))=a.tmps.getD s' undef:=λj hj s' e=>by
   obtain⟨m0,hm0⟩:=hsome s' (Xv (zJ hj) e);have haj:=hargs j hj (by rw[<-hlen];exact hj)
   generalize ps[j]=p at*
   obtain⟨av,l,rn⟩:=p;simp only at e;subst e;obtain⟨_,haj⟩:=haj;obtain⟨m',q1,q2,q3,q4,q5⟩:=haj.resolve_left λe=>by have:=Z7 hm0;rw[e]at this;cases this
   exact⟨m',q1,q2,q3,by rw[q5];exact(q41 q1 (S1.rel s')).symm⟩
  obtain⟨ln,hlnn⟩: ∃ln,ln=names (U3.get s)++names (U3.get t):=⟨_,rfl⟩;have hd12: ∀n,n∈names (U3.get s)->n∉names (U3.get t):=λn h1 h2=>hst (S1.dis s t n h1 h2)
  have hln16:ln.length<=16:=by rw[hlnn,zi];exact h16l
  have hdis': ∀n∈ps.flatMap (·.2.2),n∉ln:=λn hn hn'=>by
   apply hdis;exact List.any_eq_true.2 ⟨n,hn,zX1.2 (hlnn▸hn')⟩
  have him:(Xa r||(Xa o1||Xa o2))=true->ps.flatMap (·.2.2)=[]:=λhi=>by
   rw[<-Bool.or_assoc]at hi;simp only[hi,zn3,Bool.not_eq_true']at hc;simpa using hc
  have hnd0:ln.Nodup:=by
   rw[hlnn];exact zQ.2 ⟨S1.nod s,S1.nod t,λx hx y hy e=>hd12 x hx (e▸hy)⟩
  have hsub: ∀s',s'=s\/s'=t-> ∀n∈names (U3.get s'),n∈ln:=λs' h n hn=>by
   rw[hlnn];rcases h with rfl|rfl
   . exact zB1 _ hn
   . exact zL1 _ hn
  have hidx: ∀s',s'=s\/s'=t-> ∀n∈names (U3.get s'),(if s'=t then idxIn (names (U3.get s')) n+(names (U3.get s)).length else idxIn (names (U3.get s')) n)=idxIn ln n:=λs' h n hn=>by
   rw[hlnn];rcases h with rfl|rfl
   . rw[iN' hst,qgz hn]
   . rw[iP rfl,qdt (λh=>hd12 n h hn)]
  have hnam:(ps.map (q1h (names (U3.get s)).length t)).flatMap names=ln.map (idxIn ln):=by
   rw[hnames,hl];rw[fC,fC,zn2,zb1];rw[zR2 (hidx s (.inl rfl)),zR2 (hidx t (.inr rfl)),<-List.map_append,<-hlnn]
  have hlnD: ∀n∈ln,D n:=λn hn=>by
   rw[hlnn]at hn;rcases zY.1 hn with hn|hn
   . exact S1.occ s n (ql hn)
   . exact S1.occ t n (ql hn)
  have hmem2: ∀s',s'∈Yi ps->s'=s\/s'=t:=λs' h=>by rw[hl]at h;simpa using h
  have hcalls:=hcall (λk=>β (ln.getD k 0)) (whoC who1 ln (ps.flatMap (·.2.2))) w (args.map a.eval).toArray (by simp[hlen]) (λj hj=>by
   have hj':j<ps.length:=by simpa using hj
   rw[hcg j (by rw[<-hlen];exact hj'),zZ1]
   cases e:ps[j].2.1 with
   |none=>
    have:q1h (names (U3.get s)).length t ps[j]=ps[j].1:=by simp only[q1h,e]
    rw[this];exact hpure ln _ hdis' j hj' e
   |some s'=>
    have hs':=hmem2 s' (Xv (zJ hj') e);obtain⟨m',q1,q2,q3,q5⟩:=hlent j hj' s' e
    have:q1h (names (U3.get s)).length t ps[j]=ren (idxIn ln) (U3.get s'):=by
     simp only[q1h,e];rw[q2,<-qk7 (hidx s' hs')];split
     . rw[qqi]
     . rfl
    rw[this,q5];refine Rel.ren q3 ⟨λn hn=> ?_,λn hn b hb=> ?_,λ_ b hb _=>by simp[whoC,hb]⟩ (S1.rel s')
    . simp only[Jz (hsub s' hs' n hn)]
    . simp[whoC,hb,hsub s' hs' n hn]) (by rw[hnam];exact Xb (λ_ h1 _ h2 h=>q19 h1 h2 h) hnd0)
   (by
     rw[hnam];intro n' hn';obtain⟨n,hn,rfl⟩:=zk.1 hn';have:=Y5 hn;omega) (q00 hnoref)
   (fun b n hb=>by
     simp only[whoC]at hb;split at hb
     . cases hb
     . rename_i n' hn';refine⟨S1.wsz b n' hn',?_⟩;split at hb
       . rename_i hin;injection hb with hb
         exact .inl (by rw[hnam,<-hb];exact zk.2 ⟨n',hin,rfl⟩)
       . split at hb
         . cases hb
         . injection hb with hb;exact .inr hb.symm)
  unfold Oper.wp;rw[hop,q1a hen,Oper.upon_enter];refine Calls.mono (hcalls ((hEP▸S1.glob:GlobOK P who1 w).whoC (λb h=>by simp[whoC,h]))) λe w' hp=> ?_
  obtain⟨c,β',who',rfl,_,p1,p2,p3,p4,p5,p6,p7,p8,p9,p10,p11⟩:=hp;obtain⟨ho1,eo1⟩:=List.getElem?_eq_some_iff.1 hos1;obtain⟨ho2,eo2⟩:=List.getElem?_eq_some_iff.1 hos2;have hov1':o1∈os:=List.mem_of_getElem? hos1;have hov2':o2∈os:=List.mem_of_getElem? hos2;have hovn1:=(Jl p3 hov1').2;have hovn2:=(Jl p3 hov2').2
  have hnd:(names o1++(names o2++names r)).Nodup:=by
   have k1:=qgd ho1 ho2 hi12 (zQ.1 p3).2.1;rw[eo1,eo2]at k1;rw[<-List.append_assoc];refine zQ.2 ⟨k1,(zQ.1 p3).1,λx hx y hy e=> ?_⟩
   refine(zQ.1 p3).2.2 y hy x ?_ e.symm;rcases zY.1 hx with h|h
   . exact hovn1 x h
   . exact hovn2 x h
  have hS00:Sim E D β who1 (U3.set s .dead) [] a w:=(S1.takeAll s).drop rfl;have hS0:Sim E D β who1 ((U3.set s .dead).set t .dead) [] a w:=(hS00.takeAll t).drop rfl
  obtain⟨S2,k⟩:=q0c (β':=β') (who':=who') (w':=w') (ln:=ln) (rn:=ps.flatMap (·.2.2)) (ns:=names r++(names o1++names o2)) (im:=Xa r||(Xa o1||Xa o2)) hS0 hf
   (fun n hn=>⟨λe=>S1.dfn (e▸hlnD n hn),λs' hs'=>by
     by_cases e2:s'=t
     . subst e2;rw[qh]at hs';simp[names,qj,qg]at hs'
     . rw[qc _ _ e2]at hs';by_cases e:s'=s
       . subst e;rw[qh]at hs';simp[names,qj,qg]at hs'
       . rw[qc _ _ e]at hs';rw[hlnn]at hn;rcases zY.1 hn with hn|hn
         . exact e (S1.dis s' s n hs' hn)
         . exact e2 (S1.dis s' t n hs' hn)⟩) hrnF hln16 p7 p8 p9 p10
   (fun n hn=>by
     rcases zY.1 hn with h|h
     . exact p4 n (zB1 _ h)
     . rcases zY.1 h with h|h
       . exact p4 n (zL1 _ (hovn1 n h))
       . exact p4 n (zL1 _ (hovn2 n h))) him p11
  have p61:noRef o1=true:=q2r (zD1.1 p6 _ hov1') hwn1;have p62:noRef o2=true:=q2r (zD1.1 p6 _ hov2') hwn2
  have hrov1:Rel β' who' w' o1 (a.tmps.getD s undef):=by
   obtain⟨_,_,_,_,q5⟩:=hlent i1 hi1 s hps1;have:=p2 i1 ho1;rw[hcg i1 (by rw[<-hlen];exact hi1),q5,eo1]at this
   exact this
  have hrov2:Rel β' who' w' o2 (a.tmps.getD t undef):=by
   obtain⟨_,_,_,_,q5⟩:=hlent i2 hi2 t hps2;have:=p2 i2 ho2;rw[hcg i2 (by rw[<-hlen];exact hi2),q5,eo2]at this
   exact this
  have h16: ∀n,n∈names o1\/n∈names o2\/n∈names r->n<16:=λn hn=>by
   rcases hn with h|h|h
   . exact p4 n (zL1 _ (hovn1 n h))
   . exact p4 n (zL1 _ (hovn2 n h))
   . exact p4 n (zB1 _ h)
  have hfreshσ: ∀m,m<16-> ∀t',fresh idx m∉names (((U3.set s .dead).set t .dead).get t'):=λm hm t' ht=>hf m hm (hS0.occ t' _ (ql ht))
  have hmemN: ∀x∈[(ren (fresh idx) o1,a.tmps.getD s undef),(ren (fresh idx) o2,a.tmps.getD t undef),(ren (fresh idx) r,c)],∀n∈names x.1,∃m,m<16/\n=fresh idx m:=by
   intro x hx n hn;simp only[zU,zy,or_false]at hx;rcases hx with rfl|rfl|rfl<;>(simp only[Qi,zk]at hn;obtain⟨m,hm,rfl⟩:=hn)
   . exact⟨m,h16 m (.inl hm),rfl⟩
   . exact⟨m,h16 m (.inr (.inl hm)),rfl⟩
   . exact⟨m,h16 m (.inr (.inr hm)),rfl⟩
  have S3:=S2.add (new:=[(ren (fresh idx) o1,a.tmps.getD s undef),(ren (fresh idx) o2,a.tmps.getD t undef),(ren (fresh idx) r,c)])
   (fun x hx=>by
     simp only[zU,zy,or_false]at hx;rcases hx with rfl|rfl|rfl
     . exact Rel.ren p61 (k.mono (λn hn=>zL1 _ (zB1 _ hn)) λe=>by simp[e]) hrov1
     . exact Rel.ren p62 (k.mono (λn hn=>zL1 _ (zL1 _ hn)) λe=>by simp[e]) hrov2
     . exact Rel.ren p5 (k.mono (λn hn=>zB1 _ hn) λe=>by simp[e]) p1)
   (by
     simp only[fC,zn2,zb1,Qi,<-List.map_append];exact Xb (λ_ _ _ _ h=>Jy h) hnd)
   (fun x hx n hn t' ht=>by
     obtain⟨m,hm,rfl⟩:=hmemN x hx n hn;exact hfreshσ m hm t' ht)
   (fun x hx n hn=>by
     have hnr:noRef x.1=true:=by
      simp only[zU,zy,or_false]at hx;rcases hx with rfl|rfl|rfl<;>rw[Xp]
      . exact p61
      . exact p62
      . exact p5
     rw[Js hnr]at hn;obtain⟨m,hm,rfl⟩:=hmemN x hx n hn;exact .inr ⟨m,hm,rfl⟩)
  have S4:=S3.putBack (by
   rw[qc _ _ hst,qh];rfl)
  have S5:=S4.putBack (by
   rw[qc _ _ (λe=>hst e.symm),qh];rfl)
  refine hnext c w' _ _ (S5.ext λt'=> ?_)
  by_cases e2:t'=t
  . subst e2;rw[qh,qh]
  . rw[qc _ _ e2,qc _ _ e2];by_cases e:t'=s
    . subst e;rw[qh,qh]
    . rw[qc _ _ e,qc _ _ e,qc _ _ e2,qc _ _ e]
 . exact(kC h2).elim
end
def RelI.flatW {who who':Who} {w w':World}: ∀{t:Ty} {x:Den t} {g g':Nat->Option Value} {j j':Nat},Zh t=false->(∀i,i<t.size->g' (j'+i)=g (j+i))->RelI who w t x g j->RelI who' w' t x g' j'
 | .int _,_,g,g',j,j',_,hg,h=>by
   have:=hg 0 (by simp[Ty.size])
   exact this.trans h
 | .bool,_,g,g',j,j',_,hg,h=>by
   have:=hg 0 (by simp[Ty.size])
   exact this.trans h
 | .pr a b,_,g,g',j,j',ht,hg,h=>by
   simp only[Zh,zN3]at ht;refine⟨RelI.flatW ht.1 (λi hi=>hg i (by simp only[Ty.size];omega)) h.1,RelI.flatW ht.2 (λi hi=> ?_) h.2⟩
   have:=hg (a.size+i) (by simp only[Ty.size];omega)
   grind
 | .sl _ t,xs,g,g',j,j',ht,hg,h=>by cases ht
def qhv {α:Type} {xs ys:List α} {off len:Nat} (hy:ys.length=len) (h:off+len<=xs.length) {i:Nat} (hi:i<(xs.take off++(ys++xs.drop (off+len))).length):
 (∀(_:i<off) (h2:i<xs.length),(xs.take off++(ys++xs.drop (off+len)))[i]=xs[i])/\
 (∀(h1:off<=i) (h2:i-off<ys.length),(xs.take off++(ys++xs.drop (off+len)))[i]=ys[i-off])/\
 (∀(h1:off+len<=i) (h2:i<xs.length),(xs.take off++(ys++xs.drop (off+len)))[i]=xs[i]):=by
 grind
section
variable {P:Program} {CO:Qb} {T:TT} {E:Entry} {D:Nat->Prop} {β β':Beta} {who who':Who} {U U':Slots} {hd:List (AV×Value)} {a:Act} {w w':World} {R W:List Nat}
def qk8 (hT:TTok P T) (hC: ∀f as r os,CO f as r os->Xt P f as r os) (hEP:E.prog=P) {idx f:Nat} {o:Oper} {args:List Operand} {tys:List TypeId} {v:AV}
 (h:Run CO (winAV T idx f args tys) U v U' R W) (S:Sim E D β who U [] a w) (hf: ∀k,k<16-> ¬D (fresh idx k))
 (hop:execOp a.eval o=callFunc f (args.map a.eval).toArray):OpWp P E D idx U' v o a w:=by
 intro next Q hnext
 unfold winAV at h;split at h
 case h_2=>exact(kC h).elim
 rename_i x rest ty tys';obtain⟨ps,U1,_,_,_,_,h1,h2⟩:=kA h;obtain⟨_,who1,_,S1,hlen,hargs⟩:=Run.passAll hT h1 S;split at h2
 case h_2=>exact(kC h2).elim
 rename_i hl;obtain⟨rv,U2,_,_,_,_,h3,h4⟩:=kA h2;obtain⟨rfl,Sr⟩:=Run.rd h3 S1;have hx:=Sr.hrel _ mS;split at h4
 case h_2=>exact(kC h4).elim
 rename_i s n sz off len;obtain⟨av,U3,_,_,_,_,h5,h6⟩:=kA h4;obtain⟨rfl,rfl⟩:=kD h5;split at h6
 case h_2=>exact(kC h6).elim
 rename_i m t xs hg;split at h6
 case isFalse=>exact(kC h6).elim
 rename_i hcnd;obtain⟨rfl,rfl,hflat,hnr⟩:=hcnd;obtain⟨_,U4,_,_,_,_,h7,h8⟩:=kA h6;obtain⟨hpos,rfl⟩:=kG h7;obtain⟨⟨r,os⟩,U5,_,_,_,_,h9,h10⟩:=kA h8;obtain⟨hco,rfl⟩:=Run.mcall' h9;obtain⟨hen,hcall⟩:=hC _ _ _ _ hco;dsimp only at h10;split at h10
 case h_2=>exact(kC h10).elim
 rename_i k z t' ys os';split at h10
 case isFalse=>exact(kC h10).elim
 rename_i ht;subst ht;obtain⟨_,U6,_,_,_,_,h11,h12⟩:=kA h10;have:=kE h11;subst this;obtain⟨rfl,rfl⟩:=kB h12
 have hpo: ∀p∈ps,q51 U5 p:=λp hp=>by
  obtain⟨i,hi,rfl⟩:=zx hp;exact(hargs i hi (by rw[<-hlen];exact hi)).passOK λs e=>by have:=Xv hp e;rw[hl]at this;cases this
 have hnoref:=q21 hpo;have hnil:(ps.map (·.1)).flatMap names=[]:=by rw[q1u hpo,hl];rfl
 have hrnF: ∀n∈ps.flatMap (·.2.2),n≠FN:=λn hn=>by
  obtain⟨p,hp,hn⟩:=zG.1 hn;obtain⟨i,hi,rfl⟩:=zx hp;have ha:=hargs i hi (by rw[<-hlen];exact hi)
  generalize ps[i]=p at*
  obtain⟨av,l,rn⟩:=p;cases l with
  |none=>exact ha.2.2.2 n hn
  |some s=>have e:rn=[]:=ha.1;subst e;cases hn
 have hdis': ∀n'∈ps.flatMap (·.2.2),n'∉[m]:=λn' hn' hc=>by
  obtain rfl:=zA.1 hc;have:=zX1.2 hn';rw[hnr]at this;cases this
 have hpure: ∀(βc:Beta),∀i (hi:i<ps.length),Rel βc (whoC who1 [m] (ps.flatMap (·.2.2))) w ps[i].1 (a.eval (rest[i]'(by rw[<-hlen];exact hi))):=λβc i hi=>by
  have hl':ps[i].2.1=none:=by
   cases e:ps[i].2.1 with
   |none=>rfl
   |some s=>have:=Xv (zJ hi) e;rw[hl]at this;cases this
  have ha:=hargs i hi (by rw[<-hlen];exact hi)
  have hsub: ∀n∈ps[i].2.2,n∈ps.flatMap (·.2.2):=λn hn=>zG.2 ⟨_,zJ hi,hn⟩
  generalize ps[i]=p at*
  obtain⟨av,l,rn⟩:=p;simp only at hl';subst hl';refine ha.1 βc _ ⟨λb hb=>by simp[whoC,hb],λb n hb hn=> ?_⟩
  simp[whoC,hb,hdis' n (hsub n hn),hsub n hn]
 have hrel:=S1.rel s;rw[hg]at hrel;obtain⟨hβ,hrel⟩:=(hrel:RelN β who1 w m t' xs (a.tmps.getD s undef));obtain⟨A,L,cap,A',hb1,hb2,hb3,hb4,-⟩:=(hx:q15 (β m) t'.size (some (off,len)) (a.eval x))
 obtain⟨b,o',cap',arr,el,e1,e2,e3,e4,e5,e6⟩: ∃b o cap arr el,a.tmps.getD s undef= .slice (some ⟨b,o,none⟩) xs.length cap/\w.heap[b]? =some (.cells arr el (0,0))/\o+cap*t'.size<=arr.size/\
  xs.length<=cap/\who1 b=some m/\Elems who1 w t' xs b o:=by
  rcases hrel with⟨q1,q2⟩|q
  . rw[hβ,hb1]at q1;injection q1 with _ q1 _
    omega
  . exact q
 have hbb:β m= .slice (some ⟨b,o',none⟩) xs.length cap':=by rw[<-hβ];exact e1
 rw[hbb]at hb1;injection hb1 with hA hL hcap
 subst hL hcap hA;have hA':=hb4 O
 have hv:a.eval x= .slice (some ⟨b,o'+off*t'.size,none⟩) len (cap'-off):=(hb3:a.eval x= .slice A' len (cap'-off)).trans (by
  rw[hA',zC2];unfold Addr.add;split
  . rename_i z;rw[z,zL]
  . rfl)
 have hwl:((xs.drop off).take len).length=len:=by rw[zf,zU1];omega
 have hmul:o'+off*t'.size+(cap'-off)*t'.size<=arr.size:=by
  have:off*t'.size+(cap'-off)*t'.size=cap'*t'.size:=by rw[<-Nat.add_mul];congr 1;omega
  omega
 let βc:Beta:=λk=>if k=98 then .agg arr else a.eval x
 have hcnone: ∀b,who1 b=none->whoC who1 [m] (ps.flatMap (·.2.2)) b=none:=λb hb=>by simp[whoC,hb]
 have hcb:whoC who1 [m] (ps.flatMap (·.2.2)) b=some 0:=by simp[whoC,e5,idxIn]
 have hwin:Rel βc (whoC who1 [m] (ps.flatMap (·.2.2))) w (.wn 0 t' ((xs.drop off).take len)) (a.eval x):=by
  refine⟨⟨rfl,.inr ⟨b,o'+off*t'.size,cap'-off,arr,el,by rw[hwl];exact hv,e2,hmul,O,hcb,λi hi=> ?_⟩⟩,arr,rfl,λb2 o2 L2 cap2 arr2 el2 q1 q2=> ?_⟩
  . rw[hwl]at hi;have hi2:off+i<xs.length:=O;have:=e6 (off+i) hi2;have ge:((xs.drop off).take len)[i]'(by rw[hwl];exact hi)=xs[off+i]:=by rw[zv2,zi3]
    rw[ge];refine RelI.flatW hflat (λj hj=> ?_) this
    rw[show o'+off*t'.size+i*t'.size=o'+(off+i)*t'.size by rw[zI1];omega]
  . rw[hv]at q1;injection q1 with q1 _ _
    injection q1 with q1
    injection q1 with q1 _ _
    subst q1;rw[e2]at q2;injection q2 with q2
    injection q2 with q2 _ _
    subst q2;exact⟨rfl,λ_ _=>rfl⟩
 have hnames:(AV.wn 0 t' ((xs.drop off).take len)::ps.map (·.1)).flatMap names=[0]:=by rw[fC,hnil];rfl
 have hcalls:=hcall βc (whoC who1 [m] (ps.flatMap (·.2.2))) w ((x::rest).map a.eval).toArray (by simp[hlen]) (λj hj=>by
  cases j with
  |zero=>exact hwin
  |succ j=>
   have hj':j<ps.length:=by simpa using hj
   have hjr:j<rest.length:=by rw[<-hlen];exact hj'
   have q1:((x::rest).map a.eval).toArray.getD (j+1) undef=a.eval rest[j]:=by simp[Array.getD,hjr]
   rw[q1,List.getElem_cons_succ,zZ1];exact hpure βc j hj') (by rw[hnames];simp) (by rw[hnames];simp) (by
  rw[zx2,q00 hnoref];rfl)
  (fun b n hb=>by
    rw[hnames];simp only[whoC]at hb;split at hb
    . cases hb
    . rename_i n' hn';refine⟨S1.wsz b n' hn',?_⟩;split at hb
      . rename_i hin;obtain rfl:=zA.1 hin;injection hb with hb
        exact .inl (by rw[<-hb];simp[idxIn])
      . split at hb
        . cases hb
        . injection hb with hb;exact .inr hb.symm)
 unfold Oper.wp;rw[hop,q1a hen,Oper.upon_enter];refine Calls.mono (hcalls ((hEP▸S1.glob:GlobOK P who1 w).whoC (λb h=>by simp[whoC,h]))) λe w' hp=> ?_
 obtain⟨c,β',who',rfl,p0,p1,p2,p3,p4,p5,p6,p7,p8,p9,p10,p11⟩:=hp;have hout:=p2 0 (by simp)
 have q1:((x::rest).map a.eval).toArray.getD 0 undef=a.eval x:=by simp[Array.getD]
 rw[q1]at hout;obtain⟨⟨y0,hout⟩,arr0,y1,y2⟩:=(hout:RelN β' who' w' 0 t' ys (a.eval x)/\RelW (β' 98) w' t'.size (a.eval x))
 obtain⟨b2,o2,cap2,arr2,el2,z1,z2,z3,z4,z5,z6⟩: ∃b o cap arr el,a.eval x= .slice (some ⟨b,o,none⟩) ys.length cap/\w'.heap[b]? =some (.cells arr el (0,0))/\o+cap*t'.size<=arr.size/\
  ys.length<=cap/\who' b=some 0/\Elems who' w' t' ys b o:=by
  rcases hout with⟨q1,q2⟩|q
  . rw[hv]at q1;cases q1
  . exact q
 have hyl:ys.length=len/\b2=b/\o2=o'+off*t'.size:=by
  rw[hv]at z1;injection z1 with z1 zl _
  injection z1 with z1
  injection z1 with zb zo _
  exact⟨zl.symm,zb.symm,zo.symm⟩
 obtain⟨hyl,rfl,rfl⟩:=hyl;rw[p0]at y1
 have harr:arr0=arr:=by
  have:βc 98= .agg arr:=iP rfl;rw[this]at y1;injection y1 with y1
  exact y1.symm
 subst harr;obtain⟨hsz2,hout2⟩:=y2 b2 _ _ _ arr2 el2 hv z2;have hS0:Sim E D β who1 (U5.set s .dead) [] a w:=(S1.takeAll s).drop rfl;have hmD:D m:=S1.occ s m (by rw[hg];simp[Vs.occ,occA,occC])
 obtain⟨S2,kk⟩:=q0c (β':=λk=>if k=0 then β m else β' k) (who':=who') (w':=w') (ln:=[m]) (rn:=ps.flatMap (·.2.2)) (ns:=[0]) (im:=false) hS0 hf
  (fun n hn=>by
    obtain rfl:=zA.1 hn;refine⟨λe=>S1.dfn (e▸hmD),λs' hs'=> ?_⟩
    by_cases e:s'=s
    . subst e;rw[qh]at hs';simp[names,qj,qg]at hs'
    . rw[qc _ _ e]at hs';exact e (S1.dis s' s n hs' (by rw[hg];simp[names,qj,qg]))) hrnF (by simp) p7 p8 p9 p10
  (λn hn=>by obtain rfl:=zA.1 hn;omega) (λh=>by cases h) p11
 generalize hβ2:beta2 β (λk=>if k=0 then β m else β' k) idx=β2 at*
 generalize hw2:who2 who1 who' idx [m] [0]=wh2 at*
 have hb0:β2 (fresh idx 0)=β m:=by
  rw[<-hβ2];simp only[beta2];rw[iP (by simp only[fresh];omega),zD3,iP rfl]
 have hwb:wh2 b2=some (fresh idx 0):=by
  rw[<-hw2];simp only[who2,z5];rw[iN' (by simp only[FN];omega),iP (by simp)]
 have hcell: ∀j i,(j+i<o'+off*t'.size\/o'+off*t'.size+len*t'.size<=j+i)->cellAt w' b2 j i=cellAt w b2 j i:=λj i hj=>by
  simp only[cellAt,World.cell?,z2,e2];exact hout2 (j+i) hj
 have hzl:(xs.take off++(ys++xs.drop (off+len))).length=xs.length:=by
  rw[zi,zi,zf,zU1];omega
 have hnew:Rel β2 wh2 w' (.sl (.nm (fresh idx 0)) t' (xs.take off++(ys++xs.drop (off+len)))) (a.tmps.getD s undef):=by
  refine⟨by rw[hb0];exact hβ,.inr ⟨b2,o',cap',arr2,el2,by rw[hzl];exact e1,z2,O,by rw[hzl];exact e4,hwb,λi hi=> ?_⟩⟩
  rw[hzl]at hi;obtain⟨g1,g2,g3⟩:=qhv (xs:=xs) (ys:=ys) (off:=off) (len:=len) hyl hb2 (i:=i) (by rw[hzl];exact hi)
  by_cases c1:i<off
  . rw[g1 c1 hi];refine RelI.flatW hflat (λj hj=> ?_) (e6 i hi)
    refine hcell _ _ (.inl ?_);have:(i+1)*t'.size<=off*t'.size:=zN _ O;rw[z03]at this;omega
  . by_cases c2:i<off+len
    . rw[g2 O O];refine RelI.flatW hflat (λj hj=> ?_) (z6 (i-off) O)
      rw[show o'+off*t'.size+(i-off)*t'.size=o'+i*t'.size by
       have:off*t'.size+(i-off)*t'.size=i*t'.size:=by rw[<-Nat.add_mul];congr 1;omega
       omega]
    . rw[g3 O hi];refine RelI.flatW hflat (λj hj=> ?_) (e6 i hi)
      refine hcell _ _ (.inr ?_);have:(off+len)*t'.size<=i*t'.size:=zN _ O;rw[zI1]at this;omega
 have S3:=S2.add (new:=[(.sl (.nm (fresh idx 0)) t' (xs.take off++(ys++xs.drop (off+len))),a.tmps.getD s undef),(.int k z,c)])
  (fun y hy=>by
    rcases mC hy with rfl|hy
    . exact hnew
    . obtain rfl:=zA.1 hy;exact p1)
  (by simp[names,qj,qg])
  (fun y hy n hn t ht=>by
    rcases mC hy with rfl|hy
    . have:n=fresh idx 0:=by simpa [names,qj,qg]using hn
      subst this;exact hf 0 O (hS0.occ t _ (ql ht))
    . obtain rfl:=zA.1 hy;simp[names,qj,qg]at hn)
  (fun y hy n hn=>by
    rcases mC hy with rfl|hy
    . have:n=fresh idx 0:=by simpa [Vs.occ,occA,occC]using hn
      exact .inr ⟨0,O,this⟩
    . obtain rfl:=zA.1 hy;simp[Vs.occ,occA,occC]at hn)
 have S4:=S3.putBack (by rw[qh];rfl)
 refine hnext c w' _ _ (S4.ext λt=> ?_)
 by_cases e:t=s
 . subst e;rw[qh,qh]
 . rw[qc _ _ e,qc _ _ e,qc _ _ e]
end
section
variable {P:Program} {CO:Qb} {T:TT} {E:Entry} {D:Nat->Prop} {β β':Beta} {who who':Who} {U U':Slots} {hd:List (AV×Value)} {a:Act} {w w':World} {R W:List Nat}
def qai {c:Call} {o:Oper} {t f:Nat} {as bs:Array Value} (hop:o.op= .call c) (hc:c.callee= .value (.tmp t))
 (ht:a.eval (.tmp t)= .func (.func f) as bs) (h1:as.size=0) (h2:bs.size=0):execOp a.eval o=callFunc f (c.args.map a.eval):=by
 have e1:as= #[]:=zZ2 h1;have e2:bs= #[]:=zZ2 h2;subst e1 e2;unfold execOp;simp[hop,resolve,hc,Deferred.ofValue,invoke,ht]
def qa3 {c:Call} {o:Oper} {t f:Nat} {pv:Value} (hop:o.op= .call c) (hc:c.callee= .value (.tmp t))
 (ht:a.eval (.tmp t)= .func (.func f) #[] #[pv]):execOp a.eval o=callFunc f (c.args.map a.eval++ #[pv]):=by
 unfold execOp;simp[hop,resolve,hc,Deferred.ofValue,invoke,ht]
def qc0 {c:Call} {o:Oper} {f:Nat} (hop:o.op= .call c) (hc:c.callee= .value (.func f)):execOp a.eval o=callFunc f (c.args.map a.eval):=by
 have ef:a.eval (.func f)= .func (.func f) #[] #[]:=rfl;unfold execOp;simp[hop,resolve,hc,Deferred.ofValue,invoke,ef]
def qfp (hT:TTok P T) (hC: ∀f as r os,CO f as r os->Xt P f as r os) (hEP:E.prog=P) {idx mode:Nat} {o:Oper} {v:AV} (h:Run CO (opAV T idx mode o) U v U' R W) (S:Sim E D β who U [] a w)
 (hf: ∀k,k<16-> ¬D (fresh idx k)):OpWp P E D idx U' v o a w:=by
 cases hn:q5o o.op with
 |false=>exact(qmi hT hEP hn h S hf).wp
 |true=>
  cases ho:o.op with
  |call c=>
   unfold opAV at h;simp only[ho]at h;cases hc:c.callee with
   |builtin b=>rw[ho]at hn;obtain⟨callee,args,tys⟩:=c;simp only at hc;subst hc;cases hn
   |invoke r m=>simp only[hc]at h;exact(kC h).elim
   |value x=>
    simp only[hc]at h;cases x with
    |func f=>
     simp only at h
     have hop:execOp a.eval o=callFunc f (c.args.toList.map a.eval).toArray:=by
      rw[qc0 ho hc];congr 1;simp[<-Array.toList_map]
     unfold callW at h;split at h
     . exact qk8 hT hC hEP h S hf hop
     . exact q8q (mode:=mode) hT hC hEP h S hf hop
    |tmp t=>
     simp only at h;obtain⟨av,U1,_,_,_,_,h1,h2⟩:=kA h;obtain⟨rfl,rfl⟩:=kD h1;split at h2
     . rename_i f as bs hg;split at h2
       . rename_i hs;refine q8q (mode:=mode) hT hC hEP h2 S hf ?_;have hr:=S.rel t;rw[hg]at hr;rw[qai ho hc (by rw[Act.eval];exact hr.1) hs.1 hs.2]
         congr 1;simp[<-Array.toList_map]
       . exact(kC h2).elim
     . rename_i f et xs i j hg;have hr:=S.rel t;rw[hg]at hr;obtain⟨b,o',e1,e2⟩:=hr;refine qku (pv:= .pointer (some ⟨b,o'+i*et.size+j,none⟩)) hT hC hEP ⟨b,o',rfl,e2⟩ h2 S hf ?_;rw[qa3 ho hc (by rw[Act.eval];exact e1)]
       congr 1;apply Array.ext';simp
     . exact(kC h2).elim
    |const u=>exact(kC h).elim
    |global g=>exact(kC h).elim
  |_=>rw[ho]at hn;cases hn
end
section
variable {P:Program} {CO:Qb} {T:TT} {E:Entry} {D:Nat->Prop} {β β':Beta} {who who':Who} {U U':Slots} {hd:List (AV×Value)} {a:Act} {w w':World} {R W:List Nat}
variable {N:Nat} {pins:List Nat}
def EOf (P:Program) (E:Entry) (N:Nat) (pins:List Nat):Prop:=E.N=N/\(∀p∈E.pins,p.1∈pins)/\E.prog=P
def q18 (hE:EOf P E N pins) {dst:Option Tmp} {v:AV} {c:Value} {u:Unit} (h:Run CO (q7c N pins dst v) U u U' R W) (S:Sim E D β who U [(v,c)] a w):
 Sim E D β who U' [] (a.put dst c) w:=by
 cases dst with
 |none=>
  obtain⟨_,rfl⟩:=kB h;exact S.putNone
 |some d=>
  simp only[q7c]at h;split at h
  . rename_i hd;have:=kE h;subst this;exact S.put (by rw[hE.1];exact hd.1) (λp hp e=>hd.2 (e▸hE.2.1 p hp))
  . exact(kC h).elim
def q8s (hT:TTok P T) (hC: ∀f as r os,CO f as r os->Xt P f as r os) (hE:EOf P E N pins) {ops:Array Oper} {idx mode:Nat} {o:Oper} {u:Unit}
 (h:Run CO (fullM T N pins ops idx mode o) U u U' R W) (S:Sim E D β who U [] a w) (hf: ∀k,k<16-> ¬D (fresh idx k))
 {next:Act->World->Prop} {Q:Exit->Act->World->Prop} (hn: ∀a' w' β' who',Sim E (Dn D idx) β' who' U' [] a' w'->next a' w'):
 if Region.wanted o (yielded ops a.tmps)then o.wp P a w next Q\/(o.asks P a w/\LetsOut Q)else next (a.put o.dst undef) w:=by
 unfold fullM at h;cases hg:o.guard with
 |none=>
  simp only[hg]at h;obtain⟨v,U1,_,_,_,_,h1,h2⟩:=kA h;rw[iP (by simp[Region.wanted,hg])]
  exact .inl (qfp hT hC hE.2.2 h1 S hf next Q λc w' β' who' S1=>hn _ _ _ _ (q18 hE h2 S1))
 |some jw=>
  obtain⟨j,want⟩:=jw;simp only[hg]at h;split at h
  . exact(kC h).elim
  . rename_i g hgo;obtain⟨av,U0,_,_,_,_,h0,h9⟩:=kA h;obtain⟨hav,rfl⟩:=kD h0;clear h
    have skip: ∀{U1 U2:Slots} {R W:List Nat} {u:Unit},Run CO (q7c N pins o.dst (.tup [])) U1 u U2 R W->U2=U'->Sim E D β who U1 [] a w->next (a.put o.dst undef) w:=by
     intro U1 U2 R W u h2 e S;subst e;have S1:Sim E D β who U1 [(.tup [],undef)] a w:=S.take0 (v:= .tup []) (c:=undef) ⟨#[],rfl,rfl,λj h=>absurd h (zS1 _)⟩ rfl (λn hn=>by cases hn)
     exact hn _ _ _ _ ((q18 hE h2 S1).mono (λn h=> .inl h) (Dn_fn S.dfn))
    cases hu:qeg av with
    |true=>
     rw[hu]at h9;have hr:=S.rel g;rw[<-hav]at hr
     have hnb: ∀b,a.tmps.getD g undef≠ .bool b:=λb hb=>by
      unfold qeg at hu;split at hu
      . obtain⟨arr,hr,_⟩:=hr;rw[hr]at hb;cases hb
      . cases hu
     have hy:yielded ops a.tmps j=none:=by
      unfold yielded;unfold guardOf at hgo;rw[hgo];cases hx:a.tmps[g]? with
      |none=>simp[hx]
      |some x=>
       simp_all
     rw[iN' (by simp[Region.wanted,hg,hy])]
     exact skip h9 rfl S
    |false=>
    rw[hu]at h9;obtain⟨b,U1,_,_,_,_,h1,h2⟩:=kA h9;obtain⟨hb,rfl⟩:=Run.mknow' h1;have hr:=S.rel g;rw[hb]at hr;have hr:a.tmps.getD g undef= .bool b:=hr
    have hlt:g<a.tmps.size:=by
     rcases zE1 g a.tmps.size with h|h
     . exact h
     . simp[Array.getD,Nat.not_lt.2 h,undef]at hr
    have hy:yielded ops a.tmps j=some b:=by
     unfold yielded;unfold guardOf at hgo;rw[hgo];have:a.tmps[g]? =some (.bool b):=by rw[<-hr];simp[Array.getD,hlt]
     simp[this]
    by_cases e:b=want
    . rw[iP (by simp[Region.wanted,hg,hy,e])]
      rw[iP (by simpa using e)]at h2
      obtain⟨v,U1,_,_,_,_,h3,h4⟩:=kA h2;exact .inl (qfp hT hC hE.2.2 h3 S hf next Q λc w' β' who' S1=>hn _ _ _ _ (q18 hE h4 S1))
    . rw[iN' (by simp[Region.wanted,hg,hy,e])]
      grind
def Dlt (D:Nat->Prop) (i:Nat):Nat->Prop:=λn=>D n\/ ∃j k,j<i/\k<16/\n=fresh j k
def q8j {i j k l:Nat} (hk:k<16) (hl:l<16) (h:fresh i k=fresh j l):i=j/\k=l:=by simp only[fresh]at h;omega
def qkc {i k:Nat} (hD: ∀n,D n->n<100) (hk:k<16): ¬Dlt D i (fresh i k):=by
 rintro (h|⟨j,l,h1,h2,h3⟩)
 . have:=hD _ h;simp only[fresh]at this;omega
 . have:=q8j hk h2 h3;omega
def qlz {i n:Nat} (h:Dn (Dlt D i) i n):Dlt D (i+1) n:=by
 rcases h with(h|⟨j,k,h1,h2,h3⟩)|⟨k,hk,h⟩
 . exact .inl h
 . exact .inr ⟨j,k,O,h2,h3⟩
 . exact .inr ⟨i,k,O,hk,h⟩
def qns {i:Nat} (h: ¬D FN): ¬Dlt D i FN:=by
 rintro (h'|⟨j,k,_,hk,e⟩)
 . exact h h'
 . simp only[FN,fresh]at e;omega
inductive OpsRun (CO:Qb) (T:TT) (N:Nat) (pins:List Nat) (ops:Array Oper) (md:List (Nat×Nat)):List Oper->Nat->Slots->List (List Nat×List Nat)->Slots->Prop where
 |nil {i:Nat} {U:Slots}:OpsRun CO T N pins ops md [] i U [] U
 |cons {o:Oper} {r:List Oper} {i:Nat} {U U1 U2:Slots} {u:Unit} {R W:List Nat} {Ls:List (List Nat×List Nat)}:
   Run CO (fullM T N pins ops i (lookD md i) o) U u U1 R W->OpsRun CO T N pins ops md r (i+1) U1 Ls U2->OpsRun CO T N pins ops md (o::r) i U ((R,W)::Ls) U2
def Holds:List Log->List (List Nat×List Nat)->Prop
 |[],[]=>True
 |L::Ls,F::Fs=>(∀s∈F.1,s∈L.1)/\(∀s∈F.2,s∈L.2)/\Holds Ls Fs
 |_,_=>False
def OpsRun.seq {ops:Array Oper} {md:List (Nat×Nat)} {l:List Oper} {i:Nat} {U U':Slots} {Fs:List (List Nat×List Nat)} (h:OpsRun CO T N pins ops md l i U Fs U'):
 ∀τ,SEq U τ-> ∃τ',OpsRun CO T N pins ops md l i τ Fs τ'/\SEq U' τ':=by
 induction h with
 |nil=>exact λτ h=>⟨τ,.nil,h⟩
 |cons h1 _ ih=>
  intro τ e;obtain⟨τ1,g1,g2⟩:=h1.seq e;obtain⟨τ2,g3,g4⟩:=ih τ1 g2;exact⟨τ2,.cons g1 g3,g4⟩
def SEq.symm {U τ:Slots} (h:SEq U τ):SEq τ U:=λs=>(h s).symm
def SEq.trans {U τ ρ:Slots} (h:SEq U τ) (h':SEq τ ρ):SEq U ρ:=λs=>(h' s).trans (h s)
def qn7 {ρT:Type} {C:Nat->List AV->(AV->List AV->Option ρT)->Option ρT} {ρ:ρT}
 (hC: ∀f as k,C f as k=some ρ-> ∃r os,CO f as r os/\k r os=some ρ) {ops:Array Oper} {md:List (Nat×Nat)} (l:List Oper):
 ∀(i:Nat) (U:Slots) (Ls:List Log) (K:Slots->List Log->Option ρT),opsK C T N pins ops md l i U Ls K=some ρ->
  ∃Fs U' U'' Ls',OpsRun CO T N pins ops md l i U Fs U'/\SEq U' U''/\Holds Ls' Fs/\K U'' (Ls++Ls')=some ρ:=by
 induction l with
 |nil=>exact λi U Ls K h=>⟨[],U,U,[],.nil,λ_=>rfl,trivial,by simpa [opsK]using h⟩
 |cons o r ih=>
  intro i U Ls K h;simp only[opsK]at h;obtain⟨u,U1,R,W,h1,U1',L',e1,e2,e3,e4⟩:=qm4 hC _ _ _ _ h;obtain⟨Fs,U2,U2',Ls',g1,g2,g3,g4⟩:=ih _ _ _ _ e4;obtain⟨τ,q1,q2⟩:=g1.seq U1 e1.symm;refine⟨(R,W)::Fs,τ,U2',L'::Ls',.cons h1 q1,q2.symm.trans g2,⟨λs hs=>e2 s (.inl hs),λs hs=>e3 s (.inl hs),g3⟩,by simpa using g4⟩
def qix (hT:TTok P T) (hC: ∀f as r os,CO f as r os->Xt P f as r os) (hE:EOf P E N pins) {ops:Array Oper} {md:List (Nat×Nat)} (hD: ∀n,D n->n<100)
 {Q:Exit->Act->World->Prop} {l:List Oper} {i:Nat} {Fs:List (List Nat×List Nat)} (h:OpsRun CO T N pins ops md l i U Fs U'):
 ∀{β who a w},Sim E (Dlt D i) β who U [] a w->(∀a' w' β' who',Sim E (Dlt D (i+l.length)) β' who' U' [] a' w'->Q .normal a' w')->wpList P ops Q l a w:=by
 induction h with
 |nil=>exact λS hn=>hn _ _ _ _ S
 | @cons o r i U U1 U2 u R W Ls h1 _ ih=>
   intro β who a w S hn;refine q8s hT hC hE h1 S (λk hk=>qkc hD hk) λa' w' β' who' S'=> ?_
   refine ih (S'.mono (λn h=>qlz h) (λh=> ?_)) λa'' w'' β'' who'' S''=>hn _ _ _ _ (by
    rw[show i+(o::r).length=i+1+r.length by simp;omega];exact S'')
   rcases h with h|⟨j,k,_,hk,e⟩
   . have:=S.dfn;exact this (.inl h)
   . simp only[FN,fresh]at e;omega
end
section
variable {P:Program} {CO:Qb} {T:TT} {E:Entry} {D:Nat->Prop} {β β':Beta} {who who':Who} {U U':Slots} {a:Act} {w w':World}
variable {N:Nat} {pins:List Nat}
def Last (st:Nat->Slots) (Wg:Nat->List Nat) (n:Nat) (S:Nat->Prop) (s:Nat) (v:Option AV):Prop:=
 (∃i,i<n/\S i/\s∈Wg i/\(∀j,j<n->S j->s∈Wg j->j<=i)/\v=vw (st (i+1)) s)\/((∀j,j<n->S j->s∉Wg j)/\v=vw (st 0) s)
variable {st:Nat->Slots} {Rg Wg:Nat->List Nat} {n:Nat} {S S':Nat->Prop} {s:Nat} {v u:Option AV}
def Last.uniq (h:Last st Wg n S s v) (h':Last st Wg n S s u):v=u:=by
 rcases h with⟨i,h1,h2,h3,h4,rfl⟩|⟨h1,rfl⟩<;>rcases h' with⟨j,g1,g2,g3,g4,rfl⟩|⟨g1,rfl⟩
 . grind
 . grind
 . grind
 . rfl
def Last.congr (h:Last st Wg n S s v) (he: ∀j,j<n->s∈Wg j->(S j↔S' j)):Last st Wg n S' s v:=by
 rcases h with⟨i,h1,h2,h3,h4,rfl⟩|⟨h1,rfl⟩
 . exact .inl ⟨i,h1,(he i h1 h3).1 h2,h3,λj hj hs hw=>h4 j hj ((he j hj hw).2 hs) hw,rfl⟩
 . exact .inr ⟨λj hj hs hw=>h1 j hj ((he j hj hw).2 hs) hw,rfl⟩
def Last.canon (hfr: ∀j,j<n-> ∀s,s∉Wg j->vw (st (j+1)) s=vw (st j) s): ∀i,i<=n->Last st Wg n (λj=>j<i) s (vw (st i) s)
 |0,_=> .inr ⟨λj _ h=>absurd h (zS1 _),rfl⟩
 |i+1,hi=>by
  by_cases hs:s∈Wg i
  . exact .inl ⟨i,O,O,hs,λj _ h _=>O,rfl⟩
  . rw[hfr i O s hs];refine(Last.canon hfr i O).congr λj hj hw=> ?_
    grind
def qik {m:M Unit} {i:Nat} {u:Unit} {τ:Slots} {anc:Nat->List Nat} (hi:i<n) (hrun:Run CO m (st i) u (st (i+1)) (Rg i) (Wg i))
 (hfr: ∀j,j<n-> ∀s,s∉Wg j->vw (st (j+1)) s=vw (st j) s)
 (hconf: ∀i j,i<j->j<n->i∈anc j\/((∀s∈Rg i,s∉Wg j)/\ ∀s∈Rg j,s∉Wg i))
 (hS: ¬S i) (ha: ∀k∈anc i,S k) (hb: ∀j,S j->i∉anc j) (hτ: ∀s,Last st Wg n S s (vw τ s)):
 ∃τ',Run CO m τ u τ' (Rg i) (Wg i)/\ ∀s,Last st Wg n (λj=>S j\/j=i) s (vw τ' s):=by
 have key: ∀s∈Rg i,∀j,j<n->s∈Wg j->(S j↔j<i):=λs hs j hj hw=>by
  grind
 have agree: ∀s∈Rg i,vw τ s=vw (st i) s:=λs hs=>
  ((hτ s).congr (key s hs)).uniq (Last.canon hfr i O)
 obtain⟨τ',h1,h2⟩:=hrun.local τ (λ_=>False) (λs h=>agree s (h.resolve_right id))
 refine⟨τ',h1,λs=> ?_⟩
 by_cases hs:s∈Wg i
 . have hr:=hrun.subW s hs;rw[h2 s (.inl hr)];refine .inl ⟨i,hi,.inr rfl,hs,λj hj hj' hw=> ?_,rfl⟩
   grind
 . rw[h1.frame s hs];refine(hτ s).congr λj hj hw=>⟨λh=> .inl h,λh=> ?_⟩
   grind
def prs (ops:List Oper) (i:Nat):List Nat:=match ops[i]? with
 |some o=>preds o i
 |none=>[]
def qaw (S:Nat->Prop) (all:List Oper) (hS: ∀j,j<all.length->S j-> ∀k∈prs all j,S k): ∀(r:List Oper) (i:Nat) (acc:List (List Nat)),
 (∀j,r[j]? =all[i+j]?)->acc.length=i->(∀j,j<i->(∀k∈prs all j,S k)-> ∀k∈acc.getD j [],S k)->all.length=i+r.length->
 ∀j,j<all.length->(∀k∈prs all j,S k)-> ∀k∈(ancs r i acc).getD j [],S k
 |[],i,acc,hr,hl,hacc,hn,j,hj,hp=>hacc j (by simpa [hn]using hj) hp
 |o::r,i,acc,hr,hl,hacc,hn,j,hj,hp=>by
  have ho:all[i]? =some o:=by have:=hr 0;simpa using this.symm
  simp only[ancs]
  refine qaw S all hS r (i+1) _ (λj=>by have:=hr (j+1);grind) (by simp[hl]) (λj hj hp k hk=> ?_)
   (by rw[hn];simp;omega) j hj hp
  rcases zE1 j i with h|h
  . refine hacc j h hp k ?_
    grind
  . have:j=i:=O;subst this;simp only[List.getD,List.getElem?_append_right (show acc.length<=j by omega),hl,zD3,List.getElem?_cons_zero,zX2]at hk
    obtain⟨p,hp',hk⟩:=zG.1 hk;have hpp:p∈prs all j:=by simp only[prs,ho];exact hp'
    have hpj:p<j:=by
     simp only[preds,zk,zO1,zM,decide_eq_true_eq]at hp';obtain⟨e,⟨_,_,h⟩,rfl⟩:=hp';exact h
    rcases mC hk with rfl|hk
    . exact hp k hpp
    . exact hacc p hpj (hS p O (hp p hpp)) k hk
end
end Go.Vs
