/-The diagonal factor:solve.Indefinite. The diagonal factor:the new vector is zero. The example of chapter 38. The diagonal factor:lanczos.Run;the law. -/
import Derived.Test.YtkbgfnhdfmmfcaaGreatDoorLb
import Derived.Test.YtkbgfnhdfmmfcaaGreatDoorLc
import Derived.Test.YtkbgfnhdfmmfcaaGreatDoorLd
import Derived.Test.YtkbgfnhdfmmfcaaGreatDoorFn
import Derived.KernelRfl
import Derived.Test.YtkbgfnhdfmmfcaaGreatDoorVc
set_option linter.unusedVariables false
set_option linter.unusedSimpArgs false
set_option linter.unusedSectionVars false
set_option maxRecDepth 100000
namespace Go.Vs.F
theorem qr6:tabD.length=50/\tabQ.length=50:=by decide
theorem qsk {v:Nat} (hv:v<50):tabQ.getD v 0∈tabQ:=by
 have h:v<tabQ.length:=by rw[qr6.2];exact hv
 have:tabQ.getD v 0=tabQ[v]:=by simp[List.getD,h]
 rw[this];exact List.getElem_mem h
theorem qsz {v:Nat} (hv:v<50):tabD.getD v 0∈tabD:=by
 have h:v<tabD.length:=by rw[qr6.1];exact hv
 have:tabD.getD v 0=tabD[v]:=by simp[List.getD,h]
 rw[this];exact List.getElem_mem h
section
variable {m:Nat} (hm:5000000000<=m) {n:Nat} {o:List Nat} {d:LI} (h:Dia n o d) {p at_ v:Nat} (hp:p<n) (ha:at_<n) (hpa:o[p]? =some at_) (hv:v<50) (hdv:d.getD p 0=tabD.getD v 0)
include hm h
theorem qtt: ∀(N i:Nat),n-i<N->i<=n->g198L0 m N (nL o) (List.replicate n 1) d (List.replicate (n+1) 0) [] [] 0 (i:Int) (List.replicate n 1) (n:Int) (i:Int)=some (.inr (.inl ())):=by
 intro N;induction N with
 |zero=>intro i h;omega
 |succ N ih=>
  intro i hi hi';have hn:=h.hn;have hd:=h.len;rw[g198L0,bQ];by_cases c:i<n
  . have hw:wI ((i:Int)+1)=((i+1:Nat):Int):=wsucc O;have w1:wI (wI (2*1)-1)=1:=by decide
    rw[iP O,iP (by rw[List.length_replicate];omega),tN,Xc c,show((1:Int)==1)=true from by decide,cond_true,iP O,qvc hm h (h.dm c),bS,w1,hw]
    exact ih (i+1) O O
  . rw[iN' O]
include hp ha hpa in
theorem qu7: ∀(N i:Nat),n-i<N->i<=n->g200L0 m N (eN n at_ oneF) (eN n p (if p<i then oneF else 0)) (nL o) (n:Int) (i:Int)=some (.inl (eN n p oneF,())):=by
 intro N;induction N with
 |zero=>intro i h;omega
 |succ N ih=>
  intro i hi hi';have hn:=h.hn;have hl:(nL o).length=n:=by rw[q20,h.ol]
  rw[g200L0,bQ];by_cases c:i<n
  . obtain⟨x,ex,lx,gx⟩:=h.lt c;have hw:wI ((i:Int)+1)=((i+1:Nat):Int):=wsucc O;rw[iP O,iP (by rw[hl];omega),tN,ex,iP (by rw[Y1];omega),iP (by rw[Y1];omega),hw,Nat.zero_add,tN,Y2 lx]
    have e:(eN n p (if p<i then oneF else 0)).set i (if x=at_ then oneF else 0)=eN n p (if p<i+1 then oneF else 0):=by
     by_cases q:i=p
     . subst q;have:x=at_:=by rw[gx]at hpa;exact Option.some.inj hpa
       rw[iP this,iP (show i<i+1 by omega),eN_eq]
     . have:x≠at_:=fun e=>q (h.inj (e▸gx) hpa)
       rw[iN' this,eN_ne c q];by_cases r:p<i
       . rw[iP r,iP (show p<i+1 by omega)]
       . rw[iN' r,iN' (show¬p<i+1 by omega)]
    rw[e];exact ih (i+1) O O
  . rw[iN' O,iP O]
include hp ha hpa in
theorem gath:g200 m (eN n at_ oneF) (nL o)=some (eN n p oneF,(),(),()):=by
 have hn:=h.hn;have hl:(nL o).length=n:=by rw[q20,h.ol]
 have e:=qu7 hm h hp ha hpa m 0 O O;rw[iN' O,nZ,qsl]at e;rw[g200,Y1,iP O,tN,hl,e];rfl
include hp ha hpa in
theorem qu2 (w:Int): ∀(N i:Nat),n-i<N->i<=n->g205L0 m N (eN n p w) (eN n at_ (if p<i then w else 0)) (nL o) (n:Int) (i:Int)=some (.inl (eN n at_ w,())):=by
 intro N;induction N with
 |zero=>intro i h;omega
 |succ N ih=>
  intro i hi hi';have hn:=h.hn;have hl:(nL o).length=n:=by rw[q20,h.ol]
  rw[g205L0,bQ];by_cases c:i<n
  . obtain⟨x,ex,lx,gx⟩:=h.lt c;have hw:wI ((i:Int)+1)=((i+1:Nat):Int):=wsucc O;rw[iP O,iP (by rw[hl];omega),tN,ex,iP (by rw[Y1];omega),iP (by rw[Y1];omega),hw,Nat.zero_add,tN,Y2 c]
    have e:(eN n at_ (if p<i then w else 0)).set x (if i=p then w else 0)=eN n at_ (if p<i+1 then w else 0):=by
     by_cases q:i=p
     . subst q;have:x=at_:=by rw[gx]at hpa;exact Option.some.inj hpa
       subst this;rw[iP rfl,iP (show i<i+1 by omega),eN_eq]
     . have:x≠at_:=fun e=>q (h.inj (e▸gx) hpa)
       rw[iN' q,eN_ne lx this];by_cases r:p<i
       . rw[iP r,iP (show p<i+1 by omega)]
       . rw[iN' r,iN' (show¬p<i+1 by omega)]
    rw[e];exact ih (i+1) O O
  . rw[iN' O,iP O]
include hp ha hpa in
theorem scat (w:Int):g205 m (eN n p w) (nL o)=some (eN n at_ w,(),(),()):=by
 have hn:=h.hn;have hl:(nL o).length=n:=by rw[q20,h.ol]
 have e:=qu2 hm h hp ha hpa w m 0 O O;rw[iN' O,nZ,qsl]at e;rw[g205,Y1,iP O,tN,hl,e];rfl
theorem of_0:g112 m 0=some ((false,false,[],0,()),(),()):=by
 obtain⟨j,rfl⟩: ∃j,m=j+300:=⟨m-300,O⟩;exact qv9 j
theorem of_1:g112 m oneF=some ((false,false,[1],0,()),(),()):=by
 obtain⟨j,rfl⟩: ∃j,m=j+300:=⟨m-300,O⟩;exact quu j
theorem quo_0 {x:Int} (hx:x∈tabD) {y} (hy:g112 m x=some y):g111 m false false [] 0 y.1.1 y.1.2.1 y.1.2.2.1 y.1.2.2.2.1 0=some (0,(),(),(),()):=by
 obtain⟨j,rfl⟩: ∃j,m=j+300:=⟨m-300,O⟩;have e:=of_map (qut j) hx;rw[hy,bS]at e;exact e
theorem quo_1 (hv:v<50) {y} (hy:g112 m (tabD.getD v 0)=some y):g111 m false false [1] 0 y.1.1 y.1.2.1 y.1.2.2.1 y.1.2.2.2.1 0=some (tabQ.getD v 0,(),(),(),()):=by
 obtain⟨j,rfl⟩: ∃j,m=j+300:=⟨m-300,O⟩;have e:=of_map (qtq j) (List.mem_range.2 hv);rw[hy,bS]at e;exact e
include hp hv hdv in
theorem qtp: ∀(N i:Nat),n-i<N->i<=n->g201L0 m N (eN n p oneF) (nL o) (List.replicate n 1) d (List.replicate (n+1) 0) [] [] 0 (eN n p (if p<i then tabQ.getD v 0 else 0)) (i:Int) (i:Int) (List.replicate n 1) (n:Int) (i:Int)=some (.inl (eN n p (tabQ.getD v 0),())):=by
 intro N;induction N with
 |zero=>intro i h;omega
 |succ N ih=>
  intro i hi hi';have hn:=h.hn;have hd:=h.len;rw[g201L0,bQ];by_cases c:i<n
  . have hw:wI ((i:Int)+1)=((i+1:Nat):Int):=wsucc O
    have w2:wI (wI ((i:Int)+wI (2*1))-1)=((i+1:Nat):Int):=by
     have:wI (2*1)=2:=by decide
     rw[this,wQ,wQ,wi (n:=(i:Int)+2) O O,wi O O];omega
    obtain⟨y,ey⟩:=of_d hm h (h.dm c)
    have hq: ∃z,g112 m ((eN n p oneF).getD i 0)=some z/\g111 m z.1.1 z.1.2.1 z.1.2.2.1 z.1.2.2.2.1 y.1.1 y.1.2.1 y.1.2.2.1 y.1.2.2.2.1 0=some (if i=p then tabQ.getD v 0 else 0,(),(),(),()):=by
     rw[Y2 c];by_cases q:i=p
     . subst q;rw[hdv]at ey;rw[iP rfl,iP rfl];exact⟨_,of_1 hm h,quo_1 hm h hv ey⟩
     . rw[iN' q,iN' q];exact⟨_,of_0 hm h,quo_0 hm h (h.dm c) ey⟩
    obtain⟨z,e1,e2⟩:=hq;rw[iP O,iP (by rw[List.length_replicate];omega),tN,Xc c,show((1:Int)==1)=true from by decide,cond_true,iP (by rw[Y1];omega),e1,bS,iP O,ey,bS,e2,bS,iP (by rw[Y1];omega),w2,hw,Nat.zero_add]
    dsimp only
    have e:(eN n p (if p<i then tabQ.getD v 0 else 0)).set i (if i=p then tabQ.getD v 0 else 0)=eN n p (if p<i+1 then tabQ.getD v 0 else 0):=by
     by_cases q:i=p
     . subst q;rw[iP rfl,iP (show i<i+1 by omega),eN_eq]
     . rw[iN' q,eN_ne c q];by_cases r:p<i
       . rw[iP r,iP (show p<i+1 by omega)]
       . rw[iN' r,iN' (show¬p<i+1 by omega)]
    rw[e];exact ih (i+1) O O
  . rw[iN' O,iP O]
include hp hv hdv in
theorem midd:g201 m (nL o) (List.replicate n 1) d (List.replicate (n+1) 0) [] [] 0 (eN n p oneF)=some ((eN n p (tabQ.getD v 0),0,()),(),(),()):=by
 have hn:=h.hn;have e:=qtp hm h hp hv hdv m 0 O O;rw[iN' O,nZ,qsl]at e;obtain⟨j,hj⟩: ∃j,m=j+300:=⟨m-300,O⟩
 have e2:g251 m (eN n p (tabQ.getD v 0))=some (0,(),()):=by
  rw[hj];have:=qt2 j hn hp;exact of_map this (qsk hv)
 rw[g201,Y1,iP O,tN,List.length_replicate,e,bS];dsimp only;rw[e2];rfl
include hp ha hpa hv hdv in
theorem Indef:g106 m (nL o) (List.replicate n 1) d (List.replicate (n+1) 0) [] [] 0 (eN n at_ oneF)=some ((eN n at_ (tabQ.getD v 0),0,()),(),(),()):=by
 have hn:=h.hn;have hl:(nL o).length=n:=by rw[q20,h.ol]
 have eg:=gath hm h hp ha hpa;have es:=scat hm h hp ha hpa (tabQ.getD v 0);have em:=midd hm h hp hv hdv;have ec:=qsn hm h O;have ei:=qtt hm h m 0 O O;rw[nZ]at ei;obtain⟨j,hj⟩: ∃j,m=j+300:=⟨m-300,O⟩
 have ev:g197 m (eN n at_ oneF) (n:Int)=some (0,(),(),()):=by
  rw[hj];exact of_map (qub j) (qf hn ha)
 have eu:g199 m (List.replicate (n+1) 0) [] [] (eN n p oneF)=some ((eN n p oneF,0,()),(),(),(),(),()):=by
  rw[hj];exact of_map (qtw j) (qf hn hp)
 have eb:((g202 m (eN n p (tabQ.getD v 0))).bind fun y7=>g106L0 m m (nL o) (List.replicate n 1) d (List.replicate (n+1) 0) [] [] 0 y7.1 (List.replicate n 0) (((n-1:Nat)):Int))=some (.inr (.inl ((nL o,List.replicate n 1,d,List.replicate (n+1) 0,[],[],0,()),eN n p (tabQ.getD v 0),()))):=by
  rw[hj];have:=qt8 (nL o) (List.replicate n 1) d j hn hp;exact of_map this (qsk hv)
 have hw:wI ((n:Int)-1)=((n-1:Nat):Int):=wpred O O;cases hb:g202 m (eN n p (tabQ.getD v 0))with
 |none=>rw[hb]at eb;cases eb
 |some y7=>
  rw[hb,bS]at eb;rw[g106,ec,bS];dsimp only;rw[show((0:Int)==0)=true from rfl,cond_true,hl,ev,bS]
  dsimp only;rw[show((0:Int)==0)=true from rfl,cond_true,g198,List.length_replicate,ei,bS]
  dsimp only;rw[bS];dsimp only;rw[cond_false,show((0:Int) !=0)=false from rfl,cond_false,eg,bS]
  dsimp only;rw[eu,bS];dsimp only;rw[show((0:Int) !=0)=false from rfl,cond_false,em,bS]
  dsimp only;rw[show((0:Int) !=0)=false from rfl,cond_false,hb,bS,Y1,iP O,hw,tN,eb,bS]
  dsimp only;rw[es,bS]
end
end Go.Vs.F
set_option maxRecDepth 100000
namespace Go.Vs.F
section
variable {m:Nat} (hm:5000000000<=m) {n p:Nat} (hn:n<=5) (hp:p<n) {w:Int} (hw:w∈wT)
include hm hn hp hw
theorem mul_0: ∃y1 y2 t,g112 m 0=some y1/\g112 m 0=some y2/\g147 m y1.1.1 y1.1.2.1 y1.1.2.2.1 y1.1.2.2.2.1 y2.1.1 y2.1.2.1 y2.1.2.2.1 y2.1.2.2.2.1=some t/\tm3 t=zT:=by
 obtain⟨j,rfl⟩: ∃j,m=j+300:=⟨m-300,O⟩;have e:=qt3 j;simp only[mulT,Option.map_eq_some_iff,Option.bind_eq_some_iff]at e;obtain⟨t,⟨y1,h1,y2,h2,h3⟩,h4⟩:=e;exact⟨y1,y2,t,h1,h2,h3,h4⟩
theorem mul_1: ∃y1 y2 t s,g112 m oneF=some y1/\g112 m w=some y2/\g147 m y1.1.1 y1.1.2.1 y1.1.2.2.1 y1.1.2.2.2.1 y2.1.1 y2.1.2.1 y2.1.2.2.1 y2.1.2.2.2.1=some t/\g148 m (listT n p (tm3 t))=some s/\g107 m s.1.1 s.1.2.1 s.1.2.2.1 s.1.2.2.2.1 0=some (w,(),(),()):=by
 obtain⟨j,rfl⟩: ∃j,m=j+300:=⟨m-300,O⟩;have e:=of_map (qtk j hn hp) hw;simp only[mulT,Option.bind_eq_some_iff]at e;obtain⟨t,⟨y1,h1,y2,h2,h3⟩,s,h4,h5⟩:=e;exact⟨y1,y2,t,s,h1,h2,h3,h4,h5⟩
theorem or_0 {a v:Int} (h:(a=0/\v=0)\/(a=w/\v=oneF)): ∃y1 y2 y3 y4 y5,g112 m a=some y1/\g112 m w=some y2/\g112 m v=some y3/\
 g147 m y2.1.1 y2.1.2.1 y2.1.2.2.1 y2.1.2.2.2.1 y3.1.1 y3.1.2.1 y3.1.2.2.1 y3.1.2.2.2.1=some y4/\g83 m y1.1.1 y1.1.2.1 y1.1.2.2.1 y1.1.2.2.2.1 y4.1.1 y4.1.2.1 y4.1.2.2.1 y4.1.2.2.2.1=some y5/\g107 m y5.1.1 y5.1.2.1 y5.1.2.2.1 y5.1.2.2.2.1 0=some (0,(),(),()):=by
 obtain⟨j,rfl⟩: ∃j,m=j+300:=⟨m-300,O⟩
 have e:orT (j+300) a w v=some (0,(),(),()):=by
  rcases h with⟨rfl,rfl⟩|⟨rfl,rfl⟩
  . exact of_map (qu3 j) hw
  . exact of_map (qts j) hw
 simp only[orT,Option.bind_eq_some_iff]at e;obtain⟨y1,h1,y2,h2,y3,h3,y4,h4,y5,h5,h6⟩:=e;exact⟨y1,y2,y3,y4,y5,h1,h2,h3,h4,h5,h6⟩
theorem finW:g47 m w=some (true,(),()):=by
 obtain⟨j,rfl⟩: ∃j,m=j+300:=⟨m-300,O⟩;exact of_map (qto j) hw
theorem finZ:g105 m (eN n p 0)=some (true,(),()):=by
 obtain⟨j,rfl⟩: ∃j,m=j+300:=⟨m-300,O⟩;exact of_map (qu5 j) (qf hn hp)
theorem qvh {y1 y2 t} (h1:g112 m oneF=some y1) (h2:g112 m w=some y2) (h3:g147 m y1.1.1 y1.1.2.1 y1.1.2.2.1 y1.1.2.2.2.1 y2.1.1 y2.1.2.1 y2.1.2.2.1 y2.1.2.2.2.1=some t):
 ∀(N i:Nat),n-i<N->i<=n->g82bL0 m N (eN n p oneF) (eN n p w) false false [] 0 ((listT n p (tm3 t)).take i) (n:Int) (i:Int)=some (.inl (eN n p w,(false,false,[],0,()),listT n p (tm3 t),())):=by
 have hL:(listT n p (tm3 t)).length=n:=by unfold listT;rw[List.length_set,List.length_replicate]
 intro N;induction N with
 |zero=>intro i h;omega
 |succ N ih=>
  intro i hi hi';rw[g82bL0,bQ];by_cases c:i<n
  . have hw1:wI ((i:Int)+1)=((i+1:Nat):Int):=wsucc O
    have key: ∃z1 z2 u,g112 m ((eN n p oneF).getD i 0)=some z1/\g112 m ((eN n p w).getD i 0)=some z2/\g147 m z1.1.1 z1.1.2.1 z1.1.2.2.1 z1.1.2.2.2.1 z2.1.1 z2.1.2.1 z2.1.2.2.1 z2.1.2.2.2.1=some u/\tm3 u=(listT n p (tm3 t)).getD i zT:=by
     rw[Y2 c,Y2 c];by_cases q:i=p
     . subst q;rw[iP rfl,iP rfl];refine⟨y1,y2,t,h1,h2,h3,?_⟩;unfold listT;rw[q2e (by rw[List.length_replicate];exact c)]
     . rw[iN' q,iN' q];obtain⟨z1,z2,u,k1,k2,k3,k4⟩:=mul_0 hm hn hp hw;refine⟨z1,z2,u,k1,k2,k3,?_⟩;unfold listT;rw[getD_set_ne (fun e=>q e.symm),Xc c,k4]
    obtain⟨z1,z2,u,k1,k2,k3,k4⟩:=key;have k5:([(u.1.1,((u.1.2.1,u.1.2.2.1),u.1.2.2.2.1))]:List Dy)=[(listT n p (tm3 t)).getD i zT]:=by rw[<-k4];rfl
    rw[iP O,iP (by rw[Y1];omega),tN,k1,bS,iP (by rw[Y1];omega),Nat.zero_add,k2,bS,k3,bS,k5,iP (by rw[List.length_take];show _+1<=_;omega),hw1,<-qsi O]
    exact ih (i+1) O O
  . have:i=n:=O;subst this;rw[iN' O,List.take_of_length_le O]
theorem inn: ∃s:(Bool×Bool×LI×Int×Unit),g82b m (eN n p oneF) (eN n p w)=some (s,(),eN n p w,())/\g107 m s.1 s.2.1 s.2.2.1 s.2.2.2.1 0=some (w,(),(),()):=by
 obtain⟨y1,y2,t,s,h1,h2,h3,h4,h5⟩:=mul_1 hm hn hp hw;have e:=qvh hm hn hp hw h1 h2 h3 m 0 O O;rw[nZ,List.take_zero]at e;refine⟨(s.1.1,s.1.2.1,s.1.2.2.1,s.1.2.2.2.1,()),?_,h5⟩;rw[g82b,Y1,e,bS];dsimp only;rw[h4,bS]
theorem qu0: ∀(N i:Nat),n-i<N->i<=n->g108L0 m N (eN n p (if p<i then 0 else w)) (eN n p oneF) w (n:Int) (i:Int)=some (.inl (eN n p 0,())):=by
 intro N;induction N with
 |zero=>intro i h;omega
 |succ N ih=>
  intro i hi hi';rw[g108L0,bQ];by_cases c:i<n
  . have hw1:wI ((i:Int)+1)=((i+1:Nat):Int):=wsucc O
    have hc:((eN n p (if p<i then 0 else w)).getD i 0=0/\(eN n p oneF).getD i 0=0)\/((eN n p (if p<i then 0 else w)).getD i 0=w/\(eN n p oneF).getD i 0=oneF):=by
     rw[Y2 c,Y2 c];by_cases q:i=p
     . subst q;rw[iP rfl,iP rfl,iN' O];exact .inr ⟨rfl,rfl⟩
     . rw[iN' q,iN' q];exact .inl ⟨rfl,rfl⟩
    obtain⟨y1,y2,y3,y4,y5,k1,k2,k3,k4,k5,k6⟩:=or_0 hm hn hp hw hc;rw[iP O,iP (by rw[Y1];omega),tN,Nat.zero_add,k1,bS,k2,bS,iP (by rw[Y1];omega),k3,bS,k4,bS,k5,bS,k6,bS,iP (by rw[Y1];omega),hw1]
    have e:(eN n p (if p<i then 0 else w)).set i 0=eN n p (if p<i+1 then 0 else w):=by
     by_cases q:i=p
     . subst q;rw[iP (show i<i+1 by omega),eN_eq]
     . rw[eN_ne c q];by_cases r:p<i
       . rw[iP r,iP (show p<i+1 by omega)]
       . rw[iN' r,iN' (show¬p<i+1 by omega)]
    show g108L0 m N ((eN n p (if p<i then 0 else w)).set i 0) _ _ _ _=_
    rw[e];exact ih (i+1) O O
  . rw[iN' O,iP O]
theorem orth:g108 m (eN n p w) (eN n p oneF)=some (true,eN n p 0,(),()):=by
 obtain⟨s,e1,e2⟩:=inn hm hn hp hw;have e3:=qu0 hm hn hp hw m 0 O O;rw[iN' O,nZ]at e3;rw[g108,e1,bS];dsimp only;rw[e2,bS];dsimp only;rw[finW hm hn hp hw,bS];dsimp only;rw[Bool.not_true,cond_false,Y1,e3,bS];dsimp only;rw[finZ hm hn hp hw,bS]
theorem qta (A B:LI) (k:Int):g43L1 m m A B [eN n p oneF] (eN n p w) k 1 0=some (.inr (.inl ((A,B,[eN n p oneF],()),eN n p 0,k,()))):=by
 obtain⟨j,hj⟩: ∃j,m=j+2:=⟨m-2,O⟩;have w1:wI ((0:Int)+1)=1:=by decide
 have:g43L1 m (j+1+1) A B [eN n p oneF] (eN n p w) k 1 0=some (.inr (.inl ((A,B,[eN n p oneF],()),eN n p 0,k,()))):=by
  rw[g43L1,bQ,iP O,iP (by show _/\_<((1:Nat):Int);omega)]
  show(Option.bind (g108 m (eN n p w) (eN n p oneF)) _)=_
  rw[orth hm hn hp hw,bS];dsimp only;rw[Bool.not_true,cond_false,w1,g43L1,bQ,iN' O]
 rw[<-show m=j+1+1 from hj]at this
 exact this
end
theorem wT_0:(0:Int)∈wT:=mS
theorem qv4 {m:Nat} (hm:5000000000<=m) {n p:Nat} (hn:n<=5) (hp:p<n) {w:Int} (hw:w∈wT) (A B:LI):g43L0 m m A B [eN n p oneF] (eN n p w) 0=some (.inr (.inl ((A,B,[eN n p oneF],()),eN n p 0,()))):=by
 obtain⟨j,hj⟩: ∃j,m=j+3:=⟨m-3,O⟩;have w1:wI ((0:Int)+1)=1:=by decide
 have w2:wI ((1:Int)+1)=2:=by decide
 have:g43L0 m (j+1+1+1) A B [eN n p oneF] (eN n p w) 0=some (.inr (.inl ((A,B,[eN n p oneF],()),eN n p 0,()))):=by
  rw[g43L0,bQ,iP O];show(Option.bind (g43L1 m m A B [eN n p oneF] (eN n p w) 0 1 0) _)=_;rw[qta hm hn hp hw,bS];dsimp only;rw[w1,g43L0,bQ,iP O];show(Option.bind (g43L1 m m A B [eN n p oneF] (eN n p 0) 1 1 0) _)=_;rw[qta hm hn hp wT_0,bS];dsimp only;rw[w2,g43L0,bQ,iN' O]
 rw[<-show m=j+1+1+1 from hj]at this
 exact this
theorem qup {m:Nat} (hm:5000000000<=m) {n p:Nat} (hn:n<=5) (hp:p<n) {q:Int} (hq:q∈tabQ):qsr m (eN n p oneF) (eN n p q)=some ((List.replicate n 0,0,()),([q],[],[eN n p oneF],()),(),()):=by
 have hw:q∈wT:=mT hq;obtain⟨s,e1,e2⟩:=inn hm hn hp hw;rw[qsr,e1,bS];dsimp only;rw[e2,bS];dsimp only;rw[finW hm hn hp hw,bS];dsimp only;rw[Bool.not_true,cond_false,iP (by simp),qv4 hm hn hp hw,bS]
 dsimp only;rw[qsl];rfl
theorem qjj (j:Nat):sparselaw38_awake (j+300)=some (true,()):=by kernel_rfl
end Go.Vs.F
set_option maxRecDepth 100000
namespace Go.Vs.F
section
variable {m:Nat} (hm:5000000000<=m) {n:Nat} {o:List Nat} {d:LI} (h:Dia n o d) {p at_ v:Nat} (hp:p<n) (ha:at_<n) (hpa:o[p]? =some at_) (hv:v<50) (hdv:d.getD p 0=tabD.getD v 0) {s:Nat} (hs:s<4)
include hm h hp ha hpa hv hdv
theorem qv8:g43 m [] [] [eN n at_ oneF] (nL o) (List.replicate n 1) d (List.replicate (n+1) 0) [] [] 0=some ((List.replicate n 0,0,()),([tabQ.getD v 0],[],[eN n at_ oneF],()),(),()):=by
 have e1:=Indef hm h hp ha hpa hv hdv;have e2:=qup hm h.hn ha (qsk hv)
 have w:wI ((([eN n at_ oneF].length:Nat):Int)-1)=0:=by
  show wI (((1:Nat):Int)-1)=0
  decide
 have g:[eN n at_ oneF].getD (0+(0:Int).toNat) []=eN n at_ oneF:=rfl;rw[g43,w,iP (by show _/\_<((1:Nat):Int);omega),g,e1,bS]
 dsimp only;rw[show((0:Int) !=0)=false from rfl,cond_false]
 exact e2
include hs in
theorem qv0:g12 m (nL o) (List.replicate n 1) d (List.replicate (n+1) 0) [] [] 0 (eN n at_ oneF) ((s+1:Nat):Int)=some ((([tabQ.getD v 0],[],[eN n at_ oneF],()),0,()),(),(),(),()):=by
 have hn:=h.hn;have hl:(nL o).length=n:=by rw[q20,h.ol]
 have ex:=qv8 hm h hp ha hpa hv hdv;have ec:=qsn hm h O;obtain⟨j,hj⟩: ∃j,m=j+300:=⟨m-300,O⟩;have a1:g105 m (eN n at_ oneF)=some (true,(),()):=by rw[hj];exact of_map (qua j) (qf hn ha)
 have a2:g44 m (eN n at_ oneF)=some (oneF,(),()):=by rw[hj];exact of_map (qvg j) (qf hn ha)
 have a3:g45 m oneF=some (1,(),()):=by rw[hj];exact qt4 j
 have a4:g47 m oneF=some (true,(),()):=by rw[hj];exact qu9 j
 have a5:g46 m (eN n at_ oneF) oneF=some ((eN n at_ oneF,true,()),(),(),()):=by rw[hj];exact of_map (qu4 j) (qf hn ha)
 have a6:g44 m (List.replicate n 0)=some (0,(),()):=by rw[hj];exact of_map (quf j) (qf hn ha)
 have a7:g45 m 0=some (0,(),()):=by rw[hj];exact qt0 j
 have eb:g42 m (nL o) (List.replicate n 1) d (List.replicate (n+1) 0) [] [] 0 (eN n at_ oneF) ((s+1:Nat):Int)=some ((eN n at_ oneF,0,()),(),(),(),()):=by
  rw[g42,ec,bS];dsimp only;rw[show((0:Int) !=0)=false from rfl,cond_false,hl,Y1,bif_ne,iP rfl,a1,bS]
  dsimp only;rw[Bool.not_true,cond_false,bQ,iN' O,bQ,iN' O,cond_false,a2,bS];dsimp only;rw[a3,bS];dsimp only;rw[show((1:Int)==0)=false from rfl,cond_false,a4,bS]
  dsimp only;rw[Bool.not_true,cond_false,a5,bS];dsimp only;rw[Bool.not_true,cond_false]
 rw[g12,eb,bS];dsimp only;rw[show((0:Int) !=0)=false from rfl,cond_false]
 have el:g12L0 m m ((s+1:Nat):Int) (nL o) (List.replicate n 1) d (List.replicate (n+1) 0) [] [] 0 [] [] [] [] [] [eN n at_ oneF]=some (.inl (([tabQ.getD v 0],[],[eN n at_ oneF],()),0,())):=by
  obtain⟨k,hk⟩: ∃k,m=k+1:=⟨m-1,O⟩
  have:g12L0 m (k+1) ((s+1:Nat):Int) (nL o) (List.replicate n 1) d (List.replicate (n+1) 0) [] [] 0 [] [] [] [] [] [eN n at_ oneF]=some (.inl (([tabQ.getD v 0],[],[eN n at_ oneF],()),0,())):=by
   rw[g12L0,ex,bS];dsimp only;rw[show((0:Int) !=0)=false from rfl,cond_false,bif_eq]
   split
   . rfl
   . rw[a6,bS];dsimp only;rw[a7,bS];rfl
  rw[<-hk]at this;exact this
 rw[el,bS]
end
section
variable {m:Nat} (hm:5000000000<=m) {raw:LI} (hl:raw.length<=9223372036854775807) {n:Nat} (hn:n<=5) {o:List Nat} (ho:o.Perm (List.range n)) {p at_:Nat} (hp:p<n) (hpa:o[p]? =some at_)
include hm hl hn ho hp hpa
theorem quw (t3:Int) (S T:LI): ∀(N i:Nat) (d:LI) (want:Int),n-i<N->i<=n->d.length=i->(∀x∈d,x∈tabD)->(p<i-> ∃v,v<50/\d.getD p 0=tabD.getD v 0/\want=tabQ.getD v 0)->
 ∃d' v,Dia n o d'/\v<50/\d'.getD p 0=tabD.getD v 0/\sparselaw38_LanczosDiagonal_L0 m N raw (n:Int) (at_:Int) t3 (nL o) (List.replicate i 1) d S [] [] 0 T want (i:Int)=some (.inl ((at_:Int),t3,(nL o,List.replicate n 1,d',S,[],[],0,()),T,tabQ.getD v 0,())):=by
 intro N;induction N with
 |zero=>intro i d w h;omega
 |succ N ih=>
  intro i d w hi hi' hd hx hv;have hol:o.length=n:=by rw[ho.length_eq,List.length_range]
  rw[sparselaw38_LanczosDiagonal_L0,bQ];by_cases c:i<n
  . obtain⟨u,eu⟩:=qql m hl (i:Int);obtain⟨j,hj⟩: ∃j,m=j+300:=⟨m-300,O⟩;have hr:u%50<50:=Nat.mod_lt _ (by decide)
    have ef:g26 m (wI (1+wI (Int.tmod (u:Int) 50))) 0=some (tabD.getD (u%50) 0,(),(),()):=by
     rw[show(50:Int)=((50:Nat):Int)from rfl,tm,wQ,wQ,wi (n:=((u%50:Nat):Int)) O O,wi O O,show(1:Int)+((u%50:Nat):Int)=((1+u%50:Nat):Int) by omega,hj]
     exact of_map (qso j) (List.mem_range.2 hr)
    have eq:g28 m 4607182418800017408 (tabD.getD (u%50) 0) 0=some (tabQ.getD (u%50) 0,(),(),(),()):=by
     rw[hj];exact of_map (qvd j) (List.mem_range.2 hr)
    have hw:wI ((i:Int)+1)=((i+1:Nat):Int):=wsucc O;have hk:i<o.length:=O
    have er:List.replicate i (1:Int)++[1]=List.replicate (i+1) 1:=by
     rw[List.replicate_succ']
    have hd':(d++[tabD.getD (u%50) 0]).length=i+1:=by rw[List.length_append,hd];rfl
    have hx': ∀x∈d++[tabD.getD (u%50) 0],x∈tabD:=by
     intro x hx';rcases List.mem_append.1 hx' with q|q
     . exact hx x q
     . rw[List.mem_singleton.1 q];exact qsz hr
    rw[iP O,eu,bS];dsimp only;rw[ef,bS,iP (by rw[List.length_replicate];show _+1<=_;omega),iP (by show _+1<=_;omega),iP (by rw[q20];omega),Nat.zero_add,tN,q4b hk,bif_eq,hw,er]
    have ho1:o[i]? =some o[i]:=List.getElem?_eq_getElem hk;split
    . rename_i q;have q':o[i]=at_:=Int.ofNat_inj.1 q;rw[eq,bS];refine ih (i+1) _ _ (by clear hv;omega) (by clear hv;omega) hd' hx' fun _=> ?_
      have:p=i:=by
       have hp':=hpa;obtain⟨hp2,hp3⟩:=List.getElem?_eq_some_iff.1 hp';have hpw:=List.pairwise_iff_getElem.1 (ho.nodup_iff.2 List.nodup_range);rcases Nat.lt_trichotomy i p with c|c|c
       . exact absurd (q'.trans hp3.symm) (hpw i p hk hp2 c)
       . exact c.symm
       . exact absurd (hp3.trans q'.symm) (hpw p i hp2 hk c)
      subst this;refine⟨u%50,hr,?_,rfl⟩;rw[qsg O,hd,Nat.sub_self];rfl
    . rename_i q;refine ih (i+1) _ _ (by clear hv;omega) (by clear hv;omega) hd' hx' fun hpi=> ?_
      have:p≠i:=by
       intro e;subst e;rw[ho1]at hpa;have:=Option.some.inj hpa;omega
      obtain⟨v,v1,v2,v3⟩:=hv O;refine⟨v,v1,?_,v3⟩;rw[qsh O];exact v2
  . have:i=n:=O;subst this;obtain⟨v,v1,v2,v3⟩:=hv hp;rw[iN' O,v3];exact⟨d,v,⟨hn,ho,hd,hx⟩,v1,v2,rfl⟩
end
theorem qp3 {m:Nat} (hm:5000000000<=m):sparselaw38_awake m=some (true,()):=by
 obtain⟨j,rfl⟩: ∃j,m=j+300:=⟨m-300,O⟩;exact qjj j
theorem qsp {m:Nat} (hm:5000000000<=m) (q:Int):g29 m [q] [q]=some (true,(),(),()):=by
 obtain⟨j,rfl⟩: ∃j,m=j+2:=⟨m-2,O⟩;have w:wI ((0:Int)+1)=1:=by decide
 have e:g29L0 (j+2) (j+2) [q] [q] 0=some (.inr (.inl ())):=by
  rw[show j+2=(j+1)+1 from rfl,g29L0,bQ,iP (by show _<((1:Nat):Int);omega),iP (by show _/\_<((1:Nat):Int);omega),iP (by show _/\_<((1:Nat):Int);omega),bif_ne,iP rfl,w,g29L0,bQ,iN' (by show¬_<((1:Nat):Int);omega)]
 rw[g29,bif_ne,iP rfl,e];rfl
theorem wfLen {t:Ty} {xs:List (Den t)} (h:wfC (.imm t) xs):xs.length<=9223372036854775807:=Nat.le_trans h.2 (by decide)
theorem qsf (raw:LI) (n a steps:Int) (hl:raw.length<=9223372036854775807): ∃m,sparselaw38_LanczosDiagonal m raw n a steps=some (true,(),(),(),(),()):=by
 obtain⟨m,hm⟩: ∃m:Nat,5000000100<=m:=⟨_,Nat.le_refl _⟩;refine⟨m,?_⟩;obtain⟨r,hr,er⟩:=qci m n (k:=5) (by decide) (by decide)
 obtain⟨at_,ha,ea⟩:=qci m a (k:=1+r) O O;obtain⟨s,hs,es⟩:=qci m steps (k:=4) (by decide) (by decide)
 obtain⟨o,ho,eo⟩:=qsx (m:=m) O hl (n:=1+r) O;have hol:o.length=1+r:=by rw[ho.length_eq,List.length_range]
 obtain⟨p,hp,hpa⟩: ∃p,p<1+r/\o[p]? =some at_:=by
  obtain⟨p,hp,e⟩:=List.getElem_of_mem (ho.mem_iff.2 (List.mem_range.2 ha));exact⟨p,O,by rw[List.getElem?_eq_getElem hp,e]⟩
 obtain⟨d,v,hd,hv,hdv,e0⟩:=quw (m:=m) O hl (n:=1+r) O ho hp hpa steps (List.replicate (1+r+1) 0) (List.replicate (1+r) 0) m 0 [] 0 O O rfl (fun x hx=>by cases hx) (fun q=>absurd q O)
 rw[nZ,List.replicate_zero]at e0;have eR:=qv0 (m:=m) O hd hp ha hpa hv hdv hs;have w1:wI (1+(r:Int))=((1+r:Nat):Int):=by rw[wQ,wi O O];omega
 have w2:wI (((1+r:Nat):Int)+1)=((1+r+1:Nat):Int):=wsucc O;have w3:wI (1+(s:Int))=((s+1:Nat):Int):=by rw[wQ,wi O O];omega
 rw[sparselaw38_LanczosDiagonal,show(5:Int)=((5:Nat):Int)from rfl,er,bS]
 dsimp only;rw[w1,eo,bS];dsimp only;rw[w2,iP O,iP O,ea,bS];dsimp only;rw[tN,tN,e0,bS];dsimp only;rw[iP (by rw[List.length_replicate];omega),show(4:Int)=((4:Nat):Int)from rfl,es,bS]
 dsimp only;rw[w3,Nat.zero_add,tN];have eR':g12 m (nL o) (List.replicate (1+r) 1) d (List.replicate (1+r+1) 0) [] [] 0 ((List.replicate (1+r) 0).set at_ 4607182418800017408) ((s+1:Nat):Int)=some ((([tabQ.getD v 0],[],[eN (1+r) at_ oneF],()),0,()),(),(),(),()):=eR;rw[eR',bS];dsimp only;rw[show((0:Int)==0)=true from rfl,cond_true,qsp O,bS]
 dsimp only;rw[cond_true,List.length_nil,show((((0:Nat):Int))==0)=true from rfl,cond_true,show(((([eN (1+r) at_ oneF].length:Nat):Int))==1)=true from rfl,cond_true,qp3 O,bS]
end Go.Vs.F
