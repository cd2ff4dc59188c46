/-The assignment:the rounds of the search,as plain functions. The assignment:duals are changed,the path is turned;as plain functions. The assignment:what relaxing and picking bring. The assignment:the search for a further column:what holds in each round. The assignment:a round's edges are relaxed. The assignment:the nearest row is done. The assignment:no row is near:there is no transversal. The assignment:no row is near:counting. The assignment:the changed duals,place by place. The assignment:the duals of a found path:feasible,the path tight. The assignment:the path is turned. The assignment:a further column:the search as a whole. The assignment:the beginning,and all columns. The assignment:the tight rows of each column;moving. The assignment:the least transversal among the tight ones:the lexicographically least. The assignment:the least duals. Transversals:the lexicographically least one of greatest weight;least duals. Trying all transversals:what the best of them is. -/
import Derived.Test.YtkfooaihogahcaaGreatDoorLb
set_option linter.unusedVariables false
set_option linter.unusedSimpArgs false
namespace Go.Vs.F
abbrev Edges:=List (List (Int×Int))
structure EOK (N:Nat) (E:Edges):Prop where
 len:E.length=N
 small:N<=200
 row: ∀j,∀x∈E.getD j [],0<=x.1/\x.1<(N:Int)
 wt: ∀j,∀x∈E.getD j [],-1100<=x.2/\x.2<=1100
 lens: ∀j,(E.getD j []).length<=200
 fn: ∀j,∀x∈E.getD j [],∀y∈E.getD j [],x.1=y.1->x.2=y.2
def Bd (L:LI):Prop:= ∀i,-1099511627776<=L.getD i 0/\L.getD i 0<=1099511627776
def loss (u v:LI) (j:Nat) (base:Int) (x:Int×Int):Int:=base+u.getD x.1.toNat 0+v.getD j 0-x.2
def relax (u v:LI) (dn:List Bool) (j:Nat) (base:Int):List (Int×Int)->LI->LI->LI×LI
 |[],dist,frm=>(dist,frm)
 |x::xs,dist,frm=>
  if dn.getD x.1.toNat false=false/\loss u v j base x<dist.getD x.1.toNat 0 then relax u v dn j base xs (dist.set x.1.toNat (loss u v j base x)) (frm.set x.1.toNat (j:Int))
  else relax u v dn j base xs dist frm
theorem q2c {u v:LI} {dn:List Bool} {j:Nat} {base:Int}: ∀{xs:List (Int×Int)} {dist frm:LI},(relax u v dn j base xs dist frm).1.length=dist.length/\(relax u v dn j base xs dist frm).2.length=frm.length
 |[],dist,frm=>⟨rfl,rfl⟩
 |x::xs,dist,frm=>by
  rw[relax];split
  . obtain⟨h1,h2⟩:=q2c (u:=u) (v:=v) (dn:=dn) (j:=j) (base:=base) (xs:=xs) (dist:=dist.set x.1.toNat (loss u v j base x)) (frm:=frm.set x.1.toNat (j:Int));rw[h1,h2];simp
  . exact q2c
theorem qas (m:Nat) {N:Nat} {E:Edges} {u v row col dist0 frm0:LI} {dn:List Bool} {j:Nat} {base t1 t5:Int} {xs:List (Int×Int)} (hu:Bd u) (hv:Bd v) (hb: -1099511627776<=base/\base<=1099511627776)
 (hul:u.length=N) (hvl:v.length=N) (hdl:dn.length=N) (hj:j<N) (hN:N<=200) (hx: ∀x∈xs,(0<=x.1/\x.1<(N:Int))/\ -1100<=x.2/\x.2<=1100) (hxl:xs.length<=200):
 ∀(n k:Nat) (dist frm:LI),xs.length-k<n->dist.length=N->frm.length=N->
 g86L1 m n E u v row col t1 t5 dist frm dn (j:Int) base xs (xs.length:Int) (k:Int)=
  some (.inl ((E,u,v,row,col,()),t1,t5,(relax u v dn j base (xs.drop k) dist frm).1,(relax u v dn j base (xs.drop k) dist frm).2,dn,()))
 |0,k,dist,frm,h,_,_=>O
 |n+1,k,dist,frm,h,h1,h2=>by
  rw[g86L1];by_cases hk:k<xs.length
  . have hm:=hx (xs.getD k (0,0)) (by rw[List.getD,List.getElem?_eq_getElem hk];simp)
    rw[drop_cons (d:=(0,0)) hk]
    obtain⟨i,w,hxk⟩: ∃(i:Nat) (w:Int),xs.getD k (0,0)=((i:Int),w):=⟨(xs.getD k (0,0)).1.toNat,(xs.getD k (0,0)).2,by
     have:=hm.1.1;rw[Int.toNat_of_nonneg this]⟩
    rw[hxk]at hm;obtain⟨⟨p1,p2⟩,p3,p4⟩:=hm;simp only at p1 p2 p3 p4;have hi:i<N:=O;have e1:=hu i;have e2:=hv j;have hlt:((k:Int)<(xs.length:Int)):=O;have c1:(0:Int)<=(i:Int)/\(i:Int)<(u.length:Int):=O;have c2:(0:Int)<=(j:Int)/\(j:Int)<(v.length:Int):=O;have c3:(0:Int)<=(i:Int)/\(i:Int)<(dn.length:Int):=O;have c4:(0:Int)<=(i:Int)/\(i:Int)<(dist.length:Int):=O;have c5:(0:Int)<=(i:Int)/\(i:Int)<(frm.length:Int):=O;have cw:(0:Int)<=(k:Int)/\(k:Int)<(xs.length:Int):=O;have w1:IntKind.wrap .i64 (base+u.getD i 0)=base+u.getD i 0:=wi O O;have w2:IntKind.wrap .i64 (base+u.getD i 0+v.getD j 0)=base+u.getD i 0+v.getD j 0:=wi O O;have w3:IntKind.wrap .i64 (base+u.getD i 0+v.getD j 0-w)=base+u.getD i 0+v.getD j 0-w:=wi O O;have ih:=qas m (E:=E) (row:=row) (col:=col) (dist0:=dist0) (frm0:=frm0) (t1:=t1) (t5:=t5) hu hv hb hul hvl hdl hj hN hx hxl n (k+1);simp only[bQ,hlt,if_true,cw,tN,hxk,c1,c2,c3,c4,c5,and_self,Nat.zero_add,wQ,w1,w2,w3,wsucc (show k<4611686018427387904 by omega)]
    rw[relax];simp only[loss,tN];rcases Bool.eq_false_or_eq_true (dn.getD i false)with hd|hd
    . simp only[hd,Bool.not_true,cond_false,Bool.true_eq_false,false_and,if_false];exact ih dist frm O h1 h2
    . simp only[hd,Bool.not_false,cond_true,true_and];by_cases hl:base+u.getD i 0+v.getD j 0-w<dist.getD i 0
      . rw[iP hl,iP hl];exact ih _ _ O (by simp[h1]) (by simp[h2])
      . rw[iN' hl,iN' hl];exact ih dist frm O h1 h2
  . have hlt: ¬((k:Int)<(xs.length:Int)):=O;simp only[bQ,hlt,if_false];rw[drop_nil' hk];rfl
def pick (dist:LI) (dn:List Bool):Nat->Nat->Int->Int
 |0,_,i=>i
 |d+1,k,i=>
  if dn.getD k false=false/\dist.getD k 0<1099511627776/\(i= -1\/dist.getD k 0<dist.getD i.toNat 0)then pick dist dn d (k+1) (k:Int)else pick dist dn d (k+1) i
theorem qbh (m:Nat) {N:Nat} {E:Edges} {u v row col dist frm:LI} {dn:List Bool} {t1 t5:Int} (hdl:dn.length=N) (hl:dist.length=N) (hN:N<=200):
 ∀(n k:Nat) (i:Int),N-k<n->k<=N->(i= -1\/(0<=i/\i<(N:Int)))->
 g86L2 m n E u v row col t1 t5 dist frm dn i (N:Int) (k:Int)=some (.inl ((E,u,v,row,col,()),t1,t5,dist,frm,dn,pick dist dn (N-k) k i,()))
 |0,k,i,h,_,_=>O
 |n+1,k,i,h,hk0,hi=>by
  rw[g86L2];by_cases hk:k<N
  . have hlt:((k:Int)<(N:Int)):=O;have c3:(0:Int)<=(k:Int)/\(k:Int)<(dn.length:Int):=O;have c4:(0:Int)<=(k:Int)/\(k:Int)<(dist.length:Int):=O;have ih:=qbh m (E:=E) (u:=u) (v:=v) (row:=row) (col:=col) (frm:=frm) (t1:=t1) (t5:=t5) hdl hl hN n (k+1);obtain⟨d,hd⟩: ∃d,N-k=d+1:=⟨N-k-1,O⟩;have hd':N-(k+1)=d:=O;rw[hd']at ih;simp only[bQ,hlt,if_true,c3,c4,and_self,tN,Nat.zero_add,wQ,wsucc (show k<4611686018427387904 by omega),bif_eq]
    rw[hd,pick];rcases Bool.eq_false_or_eq_true (dn.getD k false)with hdn|hdn
    . simp only[hdn,Bool.not_true,cond_false,Bool.true_eq_false,false_and,if_false];exact ih i O O hi
    . simp only[hdn,Bool.not_false,cond_true,true_and];by_cases hf:dist.getD k 0<1099511627776
      . simp only[hf,if_true,true_and];rcases hi with rfl|hi
        . simp only[if_true,true_or];exact ih _ O O (.inr O)
        . have hne: ¬i= -1:=O;have c6:(0:Int)<=i/\i<(dist.length:Int):=O;simp only[hne,if_false,c6,and_self,if_true,false_or];by_cases hl2:dist.getD k 0<dist.getD i.toNat 0
          . rw[iP hl2,iP hl2];exact ih _ O O (.inr O)
          . rw[iN' hl2,iN' hl2];exact ih i O O (.inr hi)
      . simp only[hf,if_false,false_and];exact ih i O O hi
  . have hlt: ¬((k:Int)<(N:Int)):=O;simp only[bQ,hlt,if_false];rw[show N-k=0 by omega];rfl
def Qz (dist:LI) (dn:List Bool) (col:LI) (base:Int):Nat->Nat->LI->LI->LI×LI
 |0,_,u,v=>(u,v)
 |d+1,k,u,v=>
  if dn.getD k false=true then
   (if col.getD k 0= -1 then Qz dist dn col base d (k+1) (u.set k (u.getD k 0+(base-dist.getD k 0))) v
    else Qz dist dn col base d (k+1) (u.set k (u.getD k 0+(base-dist.getD k 0))) (v.set (col.getD k 0).toNat (v.getD (col.getD k 0).toNat 0-(base-dist.getD k 0))))
  else Qz dist dn col base d (k+1) u v
theorem Zc {dist col:LI} {dn:List Bool} {base:Int}: ∀{d k:Nat} {u v:LI},(Qz dist dn col base d k u v).1.length=u.length/\(Qz dist dn col base d k u v).2.length=v.length
 |0,k,u,v=>⟨rfl,rfl⟩
 |d+1,k,u,v=>by
  rw[Qz];split
  . split
    . have:=Zc (dist:=dist) (dn:=dn) (col:=col) (base:=base) (d:=d) (k:=k+1) (u:=u.set k (u.getD k 0+(base-dist.getD k 0))) (v:=v);simpa using this
    . have:=Zc (dist:=dist) (dn:=dn) (col:=col) (base:=base) (d:=d) (k:=k+1) (u:=u.set k (u.getD k 0+(base-dist.getD k 0))) (v:=v.set (col.getD k 0).toNat (v.getD (col.getD k 0).toNat 0-(base-dist.getD k 0)));simpa using this
  . exact Zc
theorem q3v (m:Nat) {N:Nat} {E:Edges} {row col dist:LI} {dn:List Bool} {base:Int} (hb: -1099511627776<=base/\base<=1099511627776) (hdist:Bd dist)
 (hcl:col.length=N) (hdn:dn.length=N) (hdl:dist.length=N) (hN:N<=200) (hcol: ∀i,i<N->col.getD i 0= -1\/(0<=col.getD i 0/\col.getD i 0<(N:Int))):
 ∀(n k:Nat) (u v:LI) (C:Int),0<=C->C+(N-k:Int)*2199023255552<=4611686018427387904->(∀i,-C<=u.getD i 0/\u.getD i 0<=C)->(∀i,-C<=v.getD i 0/\v.getD i 0<=C)->
 N-k<n->k<=N->u.length=N->v.length=N->
 g134L0 m n E u v row col dist base dn (N:Int) (k:Int)=some (.inl ((E,(Qz dist dn col base (N-k) k u v).1,(Qz dist dn col base (N-k) k u v).2,row,col,()),()))
 |0,k,u,v,C,_,_,_,_,h,_,_,_=>O
 |n+1,k,u,v,C,hC0,hC,hu,hv,h,hk0,hul,hvl=>by
  rw[g134L0];by_cases hk:k<N
  . have hlt:((k:Int)<(N:Int)):=O;have c1:(0:Int)<=(k:Int)/\(k:Int)<(dn.length:Int):=O;have c2:(0:Int)<=(k:Int)/\(k:Int)<(u.length:Int):=O;have c3:(0:Int)<=(k:Int)/\(k:Int)<(dist.length:Int):=O;have c4:(0:Int)<=(k:Int)/\(k:Int)<(col.length:Int):=O;obtain⟨d,hd⟩: ∃d,N-k=d+1:=⟨N-k-1,O⟩;have hd':N-(k+1)=d:=O;have hdk:=hdist k;have huk:=hu k;have hCk:C+2199023255552+((N:Int)-((k+1:Nat):Int))*2199023255552<=4611686018427387904:=O;have hC1:C<=4611686018427387904-2199023255552:=O;have w1:IntKind.wrap .i64 (base-dist.getD k 0)=base-dist.getD k 0:=wi O O;have w2:IntKind.wrap .i64 (u.getD k 0+(base-dist.getD k 0))=u.getD k 0+(base-dist.getD k 0):=wi O O
    have grow: ∀(L:LI) (j:Nat) (x:Int),(∀i,-C<=L.getD i 0/\L.getD i 0<=C)-> -(C+2199023255552)<=x->x<=C+2199023255552-> ∀i,-(C+2199023255552)<=(L.set j x).getD i 0/\(L.set j x).getD i 0<=C+2199023255552:=by
     intro L j x hL h1 h2 i;have:=hL i;by_cases e:j=i
     . subst e;by_cases hj:j<L.length
       . rw[qp hj];exact⟨h1,h2⟩
       . rw[List.getD,List.getElem?_eq_none (by simpa using hj)];simp;omega
     . rw[getD_set_ne e];omega
    have grow0: ∀(L:LI),(∀i,-C<=L.getD i 0/\L.getD i 0<=C)-> ∀i,-(C+2199023255552)<=L.getD i 0/\L.getD i 0<=C+2199023255552:=fun L hL i=>by have:=hL i;omega
    have ih:=q3v m (E:=E) (row:=row) hb hdist hcl hdn hdl hN hcol n (k+1);rw[hd']at ih;simp only[bQ,hlt,if_true,c1,c2,c3,c4,and_self,tN,Nat.zero_add,wQ,w1,w2,wsucc (show k<4611686018427387904 by omega),bif_ne]
    rw[hd,Qz];rcases Bool.eq_false_or_eq_true (dn.getD k false)with hdn'|hdn'
    . simp only[hdn',cond_true,if_true];rcases hcol k hk with hc|hc
      . simp only[hc,if_true];exact ih _ _ (C+2199023255552) O hCk (grow u k _ hu O O) (grow0 v hv) O O (by simp[hul]) hvl
      . have hne: ¬col.getD k 0= -1:=O;have c6:(0:Int)<=col.getD k 0/\col.getD k 0<(v.length:Int):=O;have hvk:=hv (col.getD k 0).toNat;have w3:IntKind.wrap .i64 (v.getD (col.getD k 0).toNat 0-(base-dist.getD k 0))=v.getD (col.getD k 0).toNat 0-(base-dist.getD k 0):=wi O O;simp only[hne,if_false,c6,and_self,if_true,w3];exact ih _ _ (C+2199023255552) O hCk (grow u k _ hu O O) (grow v _ _ hv O O) O O (by simp[hul]) (by simp[hvl])
    . simp only[hdn',cond_false,Bool.false_eq_true,if_false];exact ih _ _ (C+2199023255552) O hCk (grow0 u hu) (grow0 v hv) O O hul hvl
  . have hlt: ¬((k:Int)<(N:Int)):=O;simp only[bQ,hlt,if_false];rw[show N-k=0 by omega];rfl
structure qif (u v:LI) (dn:List Bool) (j:Nat) (base:Int) (xs:List (Int×Int)) (dist frm dist' frm':LI):Prop where
 le: ∀i:Nat,dist'.getD i 0<=dist.getD i 0
 edge: ∀x∈xs,dn.getD x.1.toNat false=false->dist'.getD x.1.toNat 0<=loss u v j base x
 cases: ∀i:Nat,(dist'.getD i 0=dist.getD i 0/\frm'.getD i 0=frm.getD i 0)\/
  (dn.getD i false=false/\ ∃x∈xs,x.1=(i:Int)/\dist'.getD i 0=loss u v j base x/\frm'.getD i 0=(j:Int)/\loss u v j base x<dist.getD i 0)
theorem q8z {N:Nat} {u v:LI} {dn:List Bool} {j:Nat} {base:Int}: ∀{xs:List (Int×Int)} {dist frm:LI},dist.length=N->frm.length=N->(∀x∈xs,0<=x.1/\x.1<(N:Int))->
 qif u v dn j base xs dist frm (relax u v dn j base xs dist frm).1 (relax u v dn j base xs dist frm).2
 |[],dist,frm,_,_,_=>⟨fun i=>Int.le_refl _,fun x hx=>(by cases hx),fun i=> .inl ⟨rfl,rfl⟩⟩
 |x::xs,dist,frm,hd,hf,hx=>by
  have hx0:=hx x mS;have hx': ∀y∈xs,0<=y.1/\y.1<(N:Int):=fun y hy=>hx y (mT hy)
  have hlt:x.1.toNat<dist.length:=O;have hlf:x.1.toNat<frm.length:=O;rw[relax];split
  . rename_i hc;obtain⟨h1,h2,h3⟩:=q8z (N:=N) (u:=u) (v:=v) (dn:=dn) (j:=j) (base:=base) (xs:=xs) (dist:=dist.set x.1.toNat (loss u v j base x)) (frm:=frm.set x.1.toNat (j:Int)) (by simp[hd]) (by simp[hf]) hx'
    have hset: ∀i:Nat,(dist.set x.1.toNat (loss u v j base x)).getD i 0<=dist.getD i 0:=fun i=>by
     by_cases e:x.1.toNat=i
     . subst e;rw[qp hlt];omega
     . rw[getD_set_ne e];exact Int.le_refl _
    refine⟨fun i=>Int.le_trans (h1 i) (hset i),fun y hy hn=> ?_,fun i=> ?_⟩
    . rcases mC hy with rfl|hy
      . have:=h1 y.1.toNat
        rwa [qp hlt]at this
      . exact h2 y hy hn
    . by_cases e:x.1.toNat=i
      . subst e;rcases h3 x.1.toNat with⟨g1,g2⟩|⟨g1,y,g2,g3,g4,g5,g6⟩
        . rw[qp hlt]at g1;rw[qp hlf]at g2;exact .inr ⟨hc.1,x,mS,O,g1,g2,hc.2⟩
        . rw[qp hlt]at g6;exact .inr ⟨g1,y,mT g2,g3,g4,g5,O⟩
      . rcases h3 i with⟨g1,g2⟩|⟨g1,y,g2,g3,g4,g5,g6⟩
        . rw[getD_set_ne e]at g1 g2;exact .inl ⟨g1,g2⟩
        . rw[getD_set_ne e]at g6;exact .inr ⟨g1,y,mT g2,g3,g4,g5,g6⟩
  . rename_i hc;obtain⟨h1,h2,h3⟩:=q8z (N:=N) (u:=u) (v:=v) (dn:=dn) (j:=j) (base:=base) (xs:=xs) (dist:=dist) (frm:=frm) hd hf hx';refine⟨h1,fun y hy hn=> ?_,fun i=> ?_⟩
    . rcases mC hy with rfl|hy
      . have:=h1 y.1.toNat;have hge: ¬loss u v j base y<dist.getD y.1.toNat 0:=fun h=>hc ⟨hn,h⟩
        omega
      . exact h2 y hy hn
    . rcases h3 i with h|⟨g1,y,g2,g3⟩
      . exact .inl h
      . exact .inr ⟨g1,y,mT g2,g3⟩
structure qnx (N:Nat) (dist:LI) (dn:List Bool) (k0:Nat) (i0 r:Int):Prop where
 none_:r= -1->i0= -1/\ ∀k,k0<=k->k<N->dn.getD k false=true\/1099511627776<=dist.getD k 0
 some_:r≠ -1->(r=i0\/ ∃k,k0<=k/\k<N/\r=(k:Int)/\dn.getD k false=false/\dist.getD k 0<1099511627776)/\
  (i0≠ -1->dist.getD r.toNat 0<=dist.getD i0.toNat 0)/\ ∀k,k0<=k->k<N->dn.getD k false=false->dist.getD k 0<1099511627776->dist.getD r.toNat 0<=dist.getD k 0
theorem qeo {N:Nat} {dist:LI} {dn:List Bool}: ∀{d k:Nat} {i:Int},N-k=d->k<=N->(i= -1\/0<=i)->qnx N dist dn k i (pick dist dn d k i)
 |0,k,i,h,hk,hi=>⟨fun e=>⟨e,fun k' h1 h2=>O⟩,fun e=>⟨.inl rfl,fun _=>Int.le_refl _,fun k' h1 h2=>O⟩⟩
 |d+1,k,i,h,hk,hi=>by
  rw[pick];split
  . rename_i hc;obtain⟨h1,h2⟩:=qeo (N:=N) (dist:=dist) (dn:=dn) (d:=d) (k:=k+1) (i:=(k:Int)) O O (.inr O);have hne:(k:Int)≠ -1:=O;refine⟨fun e=>absurd (h1 e).1 hne,fun e=> ?_⟩
    obtain⟨g1,g2,g3⟩:=h2 e;have g2:=g2 hne;simp only[tN]at g2;refine⟨.inr ?_,fun hi0=> ?_,fun k' q1 q2 q3 q4=> ?_⟩
    . rcases g1 with g1|⟨k',q1,q2,q3,q4,q5⟩
      . exact⟨k,Nat.le_refl _,O,g1,hc.1,hc.2.1⟩
      . exact⟨k',O,q2,q3,q4,q5⟩
    . have:=hc.2.2.resolve_left hi0;omega
    . by_cases ek:k'=k
      . subst ek;exact g2
      . exact g3 k' O q2 q3 q4
  . rename_i hc;obtain⟨h1,h2⟩:=qeo (N:=N) (dist:=dist) (dn:=dn) (d:=d) (k:=k+1) (i:=i) O O hi
    have hk':dn.getD k false=false->dist.getD k 0<1099511627776->i≠ -1/\dist.getD i.toNat 0<=dist.getD k 0:=fun q1 q2=>by
     refine⟨fun e=>hc ⟨q1,q2,.inl e⟩,?_⟩
     have: ¬dist.getD k 0<dist.getD i.toNat 0:=fun h=>hc ⟨q1,q2,.inr h⟩
     omega
    refine⟨fun e=>⟨(h1 e).1,fun k' q1 q2=> ?_⟩,fun e=> ?_⟩
    . by_cases ek:k'=k
      . subst ek;rcases Bool.eq_false_or_eq_true (dn.getD k' false)with q|q
        . exact .inl q
        . refine .inr ?_;have: ¬dist.getD k' 0<1099511627776:=fun h=>(hk' q h).1 (h1 e).1
          omega
      . exact(h1 e).2 k' O q2
    . obtain⟨g1,g2,g3⟩:=h2 e;refine⟨?_,g2,fun k' q1 q2 q3 q4=> ?_⟩
      . rcases g1 with g1|⟨k',q1,q2,q3,q4,q5⟩
        . exact .inl g1
        . exact .inr ⟨k',O,q2,q3,q4,q5⟩
      . by_cases ek:k'=k
        . subst ek;obtain⟨r1,r2⟩:=hk' q3 q4;have:=g2 r1;omega
        . exact g3 k' O q2 q3 q4
structure Mt (N:Nat) (E:Edges) (u v row col:LI):Prop where
 ul:u.length=N
 vl:v.length=N
 rl:row.length=N
 cl:col.length=N
 rok: ∀j,j<N->row.getD j 0= -1\/(0<=row.getD j 0/\row.getD j 0<(N:Int)/\col.getD (row.getD j 0).toNat 0=(j:Int))
 cok: ∀i,i<N->col.getD i 0= -1\/(0<=col.getD i 0/\col.getD i 0<(N:Int)/\row.getD (col.getD i 0).toNat 0=(i:Int))
 feas: ∀j,j<N-> ∀x∈E.getD j [],x.2<=u.getD x.1.toNat 0+v.getD j 0
 tight: ∀j,j<N->row.getD j 0≠ -1-> ∃x∈E.getD j [],x.1=row.getD j 0/\x.2=u.getD x.1.toNat 0+v.getD j 0
def RC (col dist:LI) (start:Nat) (ord:List Nat) (k:Nat) (d:Int):Prop:=
 (k=start/\d=0)\/ ∃i∈ord,col.getD i 0=(k:Int)/\d=dist.getD i 0
structure Rnd (N:Nat) (E:Edges) (u v row col:LI) (start:Nat) (D:Int) (dist frm:LI) (dn:List Bool) (ord:List Nat) (j:Nat) (base:Int):Prop where
 dl:dist.length=N
 fl:frm.length=N
 nl:dn.length=N
 st:start<N
 nodup:ord.Nodup
 done: ∀i,i<N->(dn.getD i false=true↔i∈ord)
 olt: ∀i∈ord,i<N/\0<=col.getD i 0/\col.getD i 0<(N:Int)/\0<=dist.getD i 0/\dist.getD i 0<=base
 cur:RC col dist start ord j base
 b0:0<=base
 bD:base<=(ord.length:Int)*(2*D+1100)
 rlx: ∀k d,RC col dist start ord k d->k≠j-> ∀x∈E.getD k [],dist.getD x.1.toNat 0<=loss u v k d x
 near: ∀i,i<N->i∉ord->dist.getD i 0<1099511627776->base<=dist.getD i 0/\dist.getD i 0<=((ord.length:Int)+1)*(2*D+1100)/\
  ∃k d,RC col dist start ord k d/\k≠j/\frm.getD i 0=(k:Int)/\ ∃x∈E.getD k [],x.1=(i:Int)/\dist.getD i 0=loss u v k d x
 far: ∀i,dist.getD i 0<=1099511627776
 tree: ∀a i b,ord=a++i::b-> ∃k d,RC col dist start b k d/\frm.getD i 0=(k:Int)/\ ∃x∈E.getD k [],x.1=(i:Int)/\dist.getD i 0=loss u v k d x
theorem rnd0 {N:Nat} {E:Edges} {u v row col:LI} {start:Nat} {D:Int} (hs:start<N) (hD:0<=D):
 Rnd N E u v row col start D (List.replicate N 1099511627776) (List.replicate N (-1)) (List.replicate N false) [] start 0 where
 dl:=by simp
 fl:=by simp
 nl:=by simp
 st:=hs
 nodup:=List.nodup_nil
 done:=fun i hi=>by rw[qo hi];simp
 olt:=fun i hi=>by cases hi
 cur:= .inl ⟨rfl,rfl⟩
 b0:=Int.le_refl _
 bD:=by simp
 rlx:=fun k d h hk=>by
  rcases h with⟨rfl,_⟩|⟨i,hi,_⟩
  . exact absurd rfl hk
  . cases hi
 near:=fun i hi _ h=>by rw[qo hi]at h;exact absurd h O
 far:=fun i=>by
  by_cases hi:i<N
  . rw[qo hi];exact Int.le_refl _
  . rw[List.getD,List.getElem?_eq_none (by simpa using hi)];simp
 tree:=fun a i b h=>by cases a<;>cases h
structure Rlx (N:Nat) (E:Edges) (u v row col:LI) (start:Nat) (D:Int) (dist frm:LI) (dn:List Bool) (ord:List Nat) (base:Int):Prop where
 dl:dist.length=N
 fl:frm.length=N
 nl:dn.length=N
 st:start<N
 nodup:ord.Nodup
 done: ∀i,i<N->(dn.getD i false=true↔i∈ord)
 olt: ∀i∈ord,i<N/\0<=col.getD i 0/\col.getD i 0<(N:Int)/\0<=dist.getD i 0/\dist.getD i 0<=base
 b0:0<=base
 bD:base<=(ord.length:Int)*(2*D+1100)
 rlx: ∀k d,RC col dist start ord k d-> ∀x∈E.getD k [],dist.getD x.1.toNat 0<=loss u v k d x
 near: ∀i,i<N->i∉ord->dist.getD i 0<1099511627776->base<=dist.getD i 0/\dist.getD i 0<=((ord.length:Int)+1)*(2*D+1100)/\
  ∃k d,RC col dist start ord k d/\frm.getD i 0=(k:Int)/\ ∃x∈E.getD k [],x.1=(i:Int)/\dist.getD i 0=loss u v k d x
 far: ∀i,dist.getD i 0<=1099511627776
 tree: ∀a i b,ord=a++i::b-> ∃k d,RC col dist start b k d/\frm.getD i 0=(k:Int)/\ ∃x∈E.getD k [],x.1=(i:Int)/\dist.getD i 0=loss u v k d x
theorem RC.congr {col dist dist':LI} {start:Nat} {ord:List Nat} {k:Nat} {d:Int} (h: ∀i∈ord,dist'.getD i 0=dist.getD i 0) (hr:RC col dist start ord k d):RC col dist' start ord k d:=by
 rcases hr with hr|⟨i,hi,h1,h2⟩
 . exact .inl hr
 . exact .inr ⟨i,hi,h1,by rw[h i hi];exact h2⟩
theorem Rnd.relax {N:Nat} {E:Edges} {u v row col:LI} {start:Nat} {D:Int} {dist frm dist' frm':LI} {dn:List Bool} {ord:List Nat} {j:Nat} {base:Int} (hE:EOK N E) (hM:Mt N E u v row col)
 (hD:0<=D) (hu: ∀i,-D<=u.getD i 0/\u.getD i 0<=D) (hv: ∀i,-D<=v.getD i 0/\v.getD i 0<=D) (hj:j<N) (hst:row.getD start 0= -1)
 (R:Rnd N E u v row col start D dist frm dn ord j base) (hl:dist'.length=N) (hf:frm'.length=N) (X:qif u v dn j base (E.getD j []) dist frm dist' frm'):
 Rlx N E u v row col start D dist' frm' dn ord base:=by
 have hdn: ∀i∈ord,dn.getD i false=true:=fun i hi=>(R.done i (R.olt i hi).1).2 hi
 have keep: ∀i∈ord,dist'.getD i 0=dist.getD i 0/\frm'.getD i 0=frm.getD i 0:=fun i hi=>by
  rcases X.cases i with h|⟨h,_⟩
  . exact h
  . rw[hdn i hi]at h;cases h
 have keepD: ∀i∈ord,dist'.getD i 0=dist.getD i 0:=fun i hi=>(keep i hi).1
 have back: ∀{k d},RC col dist' start ord k d->RC col dist start ord k d:=fun h=>h.congr fun i hi=>(keepD i hi).symm
 have cost: ∀x∈E.getD j [],base<=loss u v j base x/\loss u v j base x<=base+(2*D+1100):=fun x hx=>by
  have h1:=hM.feas j hj x hx;have h2:=hE.wt j x hx;have h3:=hu x.1.toNat;have h4:=hv j;simp only[loss];omega
 have uniq2: ∀{k d d'},RC col dist start ord k d->RC col dist start ord k d'->d=d':=by
  intro k d d' h h'
  have ns: ∀i∈ord,col.getD i 0≠(start:Int):=fun i hi e=>by
   have h1:=R.olt i hi;rcases hM.cok i h1.1 with g|⟨_,_,g⟩
   . omega
   . rw[e,tN,hst]at g;omega
  rcases h with⟨e,rfl⟩|⟨i,hi,e,rfl⟩<;>rcases h' with⟨e',rfl⟩|⟨i',hi',e',rfl⟩
  . rfl
  . exact absurd (e▸e') (ns i' hi')
  . exact absurd (e'▸e) (ns i hi)
  . have h1:=R.olt i hi;have h2:=R.olt i' hi';rcases hM.cok i h1.1 with g|⟨_,_,g⟩
    . omega
    . rcases hM.cok i' h2.1 with g'|⟨_,_,g'⟩
      . omega
      . rw[e]at g;rw[e',g]at g';have:i=i':=O;rw[this]
 refine{dl:=hl,fl:=hf,nl:=R.nl,st:=R.st,nodup:=R.nodup,done:=R.done,olt:=fun i hi=>by rw[keepD i hi];exact R.olt i hi,b0:=R.b0,bD:=R.bD,rlx:= ?_,near:= ?_,far:=fun i=>Int.le_trans (X.le i) (R.far i),tree:= ?_}
 . intro k d h x hx;have h:=back h;by_cases e:k=j
   . subst e;have:=uniq2 h R.cur;subst this;have hxr:=hE.row k x hx;rcases Bool.eq_false_or_eq_true (dn.getD x.1.toNat false)with hd|hd
     . have hin:=(R.done x.1.toNat O).1 hd;rw[keepD _ hin];have h1:=R.olt _ hin;have h2:=cost x hx;omega
     . exact X.edge x hx hd
   . exact Int.le_trans (X.le _) (R.rlx k d h e x hx)
 . intro i hi hni hlt;have hfw: ∀{k d},RC col dist start ord k d->RC col dist' start ord k d:=fun h=>h.congr keepD
   rcases X.cases i with⟨h1,h2⟩|⟨_,x,hx,h3,h4,h5,h6⟩
   . rw[h1]at hlt;obtain⟨g1,g2,k,d,g3,_,g4,x,g5,g6,g7⟩:=R.near i hi hni hlt;exact⟨by rw[h1];exact g1,by rw[h1];exact g2,k,d,hfw g3,by rw[h2];exact g4,x,g5,g6,by rw[h1];exact g7⟩
   . have hc:=cost x hx;have hb:=R.bD;refine⟨by rw[h4];exact hc.1,?_,j,base,hfw R.cur,h5,x,hx,h3,h4⟩
     rw[h4,Int.add_mul,Int.one_mul];omega
 . intro a i b e;obtain⟨k,d,g1,g2,x,g3,g4,g5⟩:=R.tree a i b e;have hi:i∈ord:=by rw[e];simp
   have hb: ∀i'∈b,dist'.getD i' 0=dist.getD i' 0:=fun i' hi'=>keepD i' (by rw[e];simp[hi'])
   exact⟨k,d,g1.congr hb,by rw[(keep i hi).2];exact g2,x,g3,g4,by rw[keepD i hi];exact g5⟩
theorem Rlx.next {N:Nat} {E:Edges} {u v row col:LI} {start:Nat} {D:Int} {dist frm:LI} {dn:List Bool} {ord:List Nat} {base:Int} (hM:Mt N E u v row col)
 (hst:row.getD start 0= -1) (hD:0<=D) (R:Rlx N E u v row col start D dist frm dn ord base) {i j:Nat} (hi:i<N) (hdn:dn.getD i false=false) (hd:dist.getD i 0<1099511627776)
 (hmin: ∀k,k<N->dn.getD k false=false->dist.getD k 0<1099511627776->dist.getD i 0<=dist.getD k 0) (hj:col.getD i 0=(j:Int)):
 Rnd N E u v row col start D dist frm (dn.set i true) (i::ord) j (dist.getD i 0):=by
 have hni:i∉ord:=fun h=>by rw[(R.done i hi).2 h]at hdn;cases hdn
 obtain⟨n1,n2,k0,d0,n3,n4,x0,n5,n6,n7⟩:=R.near i hi hni hd;have hjc:0<=col.getD i 0/\col.getD i 0<(N:Int)/\row.getD (col.getD i 0).toNat 0=(i:Int):=(hM.cok i hi).resolve_left O;have hrow:row.getD j 0=(i:Int):=by have:=hjc.2.2;rwa [hj,tN]at this
 have hnj: ∀{d},¬RC col dist start ord j d:=fun{d} h=>by
  rcases h with⟨rfl,_⟩|⟨i',hi',e,_⟩
  . rw[hst]at hrow;omega
  . rcases hM.cok i' (R.olt i' hi').1 with g|⟨_,_,g⟩
    . omega
    . rw[e,tN,hrow]at g;have:i'=i:=O;exact hni (this▸hi')
 refine{dl:=R.dl,fl:=R.fl,nl:=by simp[R.nl],st:=R.st,nodup:=List.nodup_cons.2 ⟨hni,R.nodup⟩,done:=fun k hk=> ?_,olt:=fun k hk=> ?_,cur:= .inr ⟨i,mS,hj,rfl⟩,
        b0:=Int.le_trans R.b0 n1,bD:= ?_,rlx:= ?_,near:= ?_,far:=R.far,tree:= ?_}
 . by_cases e:i=k
   . subst e;rw[qp (by rw[R.nl];exact hi)];simp
   . rw[getD_set_ne e,R.done k hk,List.mem_cons];exact⟨.inr,fun h=>h.resolve_left fun h=>e h.symm⟩
 . rcases mC hk with rfl|hk
   . have:=R.b0;exact⟨hi,hjc.1,hjc.2.1,O,Int.le_refl _⟩
   . obtain⟨a1,a2,a3,a4,a5⟩:=R.olt k hk;exact⟨a1,a2,a3,a4,O⟩
 . have:(((i::ord).length:Nat):Int)=(ord.length:Int)+1:=by simp
   rw[this];exact n2
 . intro k d h hne x hx;rcases h with h|⟨i',hi',e,rfl⟩
   . exact R.rlx k d (.inl h) x hx
   . rcases mC hi' with rfl|hi'
     . rw[hj]at e;exact absurd O hne
     . exact R.rlx k _ (.inr ⟨i',hi',e,rfl⟩) x hx
 . intro k hk hnk hdk;have hnk':k∉ord:=fun h=>hnk (mT h)
   obtain⟨g1,g2,kk,d,g3,g4,g5⟩:=R.near k hk hnk' hdk
   have hdnk:dn.getD k false=false:=by
    rcases Bool.eq_false_or_eq_true (dn.getD k false)with h|h
    . exact absurd ((R.done k hk).1 h) hnk'
    . exact h
   refine⟨hmin k hk hdnk hdk,?_,kk,d,?_,?_,g4,g5⟩
   . have:(((i::ord).length:Nat):Int)=(ord.length:Int)+1:=by simp
     rw[this];have e:((ord.length:Int)+1+1)*(2*D+1100)=((ord.length:Int)+1)*(2*D+1100)+(2*D+1100):=by rw[Int.add_mul,Int.one_mul]
     rw[e];omega
   . rcases g3 with g3|⟨i',hi',q1,q2⟩
     . exact .inl g3
     . exact .inr ⟨i',mT hi',q1,q2⟩
   . rintro rfl;exact hnj g3
 . intro a i' b e;cases a with
   |nil=>
    simp only[List.nil_append,List.cons.injEq]at e;obtain⟨rfl,rfl⟩:=e;exact⟨k0,d0,n3,n4,x0,n5,n6,n7⟩
   |cons z a=>
    simp only[List.cons_append,List.cons.injEq]at e;exact R.tree a i' b e.2
theorem Rlx.hall {N:Nat} {E:Edges} {u v row col:LI} {start:Nat} {D:Int} {dist frm:LI} {dn:List Bool} {ord:List Nat} {base:Int} (hE:EOK N E) (hM:Mt N E u v row col)
 (hst:row.getD start 0= -1) (hD:0<=D) (hDb:((N:Int)+2)*(2*D+1100)<=1099511627775) (hu: ∀i,-D<=u.getD i 0/\u.getD i 0<=D) (hv: ∀i,-D<=v.getD i 0/\v.getD i 0<=D)
 (hol:ord.length<=N) (R:Rlx N E u v row col start D dist frm dn ord base)
 (hno: ∀k,k<N->dn.getD k false=true\/1099511627776<=dist.getD k 0): ∀k d,RC col dist start ord k d-> ∀x∈E.getD k [],x.1.toNat∈ord:=by
 intro k d h x hx;have hxr:=hE.row k x hx;rcases hno x.1.toNat O with h1|h1
 . exact(R.done _ O).1 h1
 . exfalso;have h2:=R.rlx k d h x hx
   have hd:d<=base:=by
    rcases h with⟨_,rfl⟩|⟨i,hi,_,rfl⟩
    . exact R.b0
    . exact(R.olt i hi).2.2.2.2
   have h3:=hE.wt k x hx;have h4:=hu x.1.toNat;have h5:=hv k;have hb:=R.bD;have hmono:(ord.length:Int)*(2*D+1100)<=(N:Int)*(2*D+1100):=Int.mul_le_mul_of_nonneg_right O O;rw[Int.add_mul]at hDb;simp only[loss]at h2;omega
theorem Z9 {l:List Nat}: ∀{l':List Nat},l.Nodup->(∀x∈l,x∈l')->l.length<=l'.length:=by
 induction l with
 |nil=>intro l' _ _;exact Nat.zero_le _
 |cons a l ih=>
  intro l' hn hs;obtain⟨h1,h2⟩:=List.nodup_cons.1 hn;have ha:=hs a mS;have:=ih (l':=l'.erase a) h2 (fun x hx=>(List.mem_erase_of_ne (by rintro rfl;exact h1 hx)).2 (hs x (mT hx)))
  rw[List.length_erase_of_mem ha]at this;have:0<l'.length:=List.length_pos_of_mem ha;simp only[List.length_cons];omega
theorem Xu {f:Nat->Nat} {l:List Nat} (hf: ∀a∈l,∀b∈l,f a=f b->a=b) (h:l.Nodup):(l.map f).Nodup:=by
 induction l with
 |nil=>simp
 |cons x l ih=>
  obtain⟨h1,h2⟩:=List.nodup_cons.1 h;rw[List.map_cons];refine List.nodup_cons.2 ⟨fun hx=> ?_,ih (fun a ha b hb=>hf a (mT ha) b (mT hb)) h2⟩
  obtain⟨y,hy,e⟩:=List.mem_map.1 hx;exact h1 (hf y (mT hy) x mS e▸hy)
def Trv (N:Nat) (E:Edges) (s:Nat->Nat):Prop:=(∀j,j<N-> ∃x∈E.getD j [],x.1.toNat=s j)/\ ∀j k,j<N->k<N->s j=s k->j=k
theorem Rlx.none {N:Nat} {E:Edges} {u v row col:LI} {start:Nat} {D:Int} {dist frm:LI} {dn:List Bool} {ord:List Nat} {base:Int} (hM:Mt N E u v row col)
 (hst:row.getD start 0= -1) (R:Rlx N E u v row col start D dist frm dn ord base)
 (H: ∀k d,RC col dist start ord k d-> ∀x∈E.getD k [],x.1.toNat∈ord) (s:Nat->Nat): ¬Trv N E s:=by
 rintro ⟨t1,t2⟩
 have hcol: ∀i∈ord,0<=col.getD i 0/\col.getD i 0<(N:Int)/\row.getD (col.getD i 0).toNat 0=(i:Int):=fun i hi=>
  (hM.cok i (R.olt i hi).1).resolve_left (by have:=R.olt i hi;omega)
 have hns: ∀i∈ord,(col.getD i 0).toNat≠start:=fun i hi e=>by
  have:=(hcol i hi).2.2;rw[e,hst]at this;omega
 have hnd:(start::ord.map fun i=>(col.getD i 0).toNat).Nodup:=by
  refine List.nodup_cons.2 ⟨fun h=> ?_,Xu (fun a ha b hb e=> ?_) R.nodup⟩
  . obtain⟨i,hi,e⟩:=List.mem_map.1 h;exact hns i hi e
  . have h1:=(hcol a ha).2.2;have h2:=(hcol b hb).2.2;rw[e,h2]at h1;omega
 have hlt: ∀k∈(start::ord.map fun i=>(col.getD i 0).toNat),k<N/\ ∃d,RC col dist start ord k d:=fun k hk=>by
  rcases mC hk with rfl|hk
  . exact⟨R.st,0,.inl ⟨rfl,rfl⟩⟩
  . obtain⟨i,hi,rfl⟩:=List.mem_map.1 hk;have:=hcol i hi;exact⟨O,_,.inr ⟨i,hi,O,rfl⟩⟩
 have hle:=Z9 (l':=ord) (Xu (f:=s) (fun a ha b hb e=>t2 a b (hlt a ha).1 (hlt b hb).1 e) hnd) (fun y hy=>by
  obtain⟨k,hk,rfl⟩:=List.mem_map.1 hy;obtain⟨h1,d,h2⟩:=hlt k hk;obtain⟨x,hx,e⟩:=t1 k h1;rw[<-e];exact H k d h2 x hx)
 simp only[List.length_map,List.length_cons]at hle;omega
theorem q6i {dist col:LI} {dn:List Bool} {base:Int}: ∀{d k:Nat} {u v:LI} (i:Nat),k+d<=u.length->
 (Qz dist dn col base d k u v).1.getD i 0=if k<=i/\i<k+d/\dn.getD i false=true then u.getD i 0+(base-dist.getD i 0)else u.getD i 0
 |0,k,u,v,i,h=>by
  rw[iN' O];rfl
 |d+1,k,u,v,i,h=>by
  have hk:k<u.length:=O
  have step: ∀v',(Qz dist dn col base d (k+1) (u.set k (u.getD k 0+(base-dist.getD k 0))) v').1.getD i 0=
   if k+1<=i/\i<k+1+d/\dn.getD i false=true then(u.set k (u.getD k 0+(base-dist.getD k 0))).getD i 0+(base-dist.getD i 0)else(u.set k (u.getD k 0+(base-dist.getD k 0))).getD i 0:=
   fun v'=>q6i i (by simp;omega)
  rw[Qz];by_cases hd:dn.getD k false=true
  . rw[iP hd]
    have: ∀v',(Qz dist dn col base d (k+1) (u.set k (u.getD k 0+(base-dist.getD k 0))) v').1.getD i 0=if k<=i/\i<k+(d+1)/\dn.getD i false=true then u.getD i 0+(base-dist.getD i 0)else u.getD i 0:=by
     intro v';rw[step v'];by_cases e:k=i
     . subst e;rw[iN' O,qp hk,iP ⟨Nat.le_refl _,O,hd⟩]
     . rw[getD_set_ne e];by_cases c:k+1<=i/\i<k+1+d/\dn.getD i false=true
       . rw[iP c,iP ⟨O,O,c.2.2⟩]
       . rw[iN' c,iN' (fun c'=>c ⟨O,O,c'.2.2⟩)]
    split
    . exact this _
    . exact this _
  . rw[iN' hd,q6i i O];by_cases c:k+1<=i/\i<k+1+d/\dn.getD i false=true
    . rw[iP c,iP ⟨O,O,c.2.2⟩]
    . rw[iN' c,iN' (fun c'=>c ⟨by
       have:k≠i:=by rintro rfl;exact hd c'.2.2
       omega,O,c'.2.2⟩)]
theorem Yw {dist col:LI} {dn:List Bool} {base:Int} {c:Nat}: ∀{d k:Nat} {u v:LI},c<v.length->(∀i,k<=i->i<k+d->dn.getD i false=true->col.getD i 0≠ -1->0<=col.getD i 0)->
 (∀i,k<=i->i<k+d->dn.getD i false=true->col.getD i 0≠(c:Int))->(Qz dist dn col base d k u v).2.getD c 0=v.getD c 0
 |0,k,u,v,_,_,_=>rfl
 |d+1,k,u,v,hc,h0,hn=>by
  rw[Qz];split
  . rename_i hd;split
    . exact Yw hc (fun i a b=>h0 i O O) (fun i a b=>hn i O O)
    . rename_i hne;have h1:=h0 k (Nat.le_refl _) O hd hne;have h2:=hn k (Nat.le_refl _) O hd;rw[Yw (by simpa using hc) (fun i a b=>h0 i O O) (fun i a b=>hn i O O),getD_set_ne O]
  . exact Yw hc (fun i a b=>h0 i O O) (fun i a b=>hn i O O)
theorem q0r {dist col:LI} {dn:List Bool} {base:Int} {c i0:Nat}: ∀{d k:Nat} {u v:LI},c<v.length->(∀i,k<=i->i<k+d->dn.getD i false=true->col.getD i 0≠ -1->0<=col.getD i 0)->
 k<=i0->i0<k+d->dn.getD i0 false=true->col.getD i0 0=(c:Int)->(∀i,k<=i->i<k+d->dn.getD i false=true->col.getD i 0=(c:Int)->i=i0)->
 (Qz dist dn col base d k u v).2.getD c 0=v.getD c 0-(base-dist.getD i0 0)
 |0,k,u,v,_,_,_,h,_,_,_=>O
 |d+1,k,u,v,hc,h0,hk,hlt,hd0,hc0,hu=>by
  rw[Qz];by_cases e:k=i0
  . subst e
    rw[iP hd0,iN' O,Yw (by simpa using hc) (fun i a b=>h0 i O O) (fun i a b q1 q2=>by
     have:=hu i O O q1 q2;omega)]
    rw[hc0,tN,qp hc]
  . split
    . rename_i hd;split
      . exact q0r hc (fun i a b=>h0 i O O) O O hd0 hc0 (fun i a b=>hu i O O)
      . rename_i hne;have h1:=h0 k (Nat.le_refl _) O hd hne;have h2:col.getD k 0≠(c:Int):=fun q=>e (hu k (Nat.le_refl _) O hd q)
        rw[q0r (by simpa using hc) (fun i a b=>h0 i O O) O O hd0 hc0 (fun i a b=>hu i O O),getD_set_ne O]
    . exact q0r hc (fun i a b=>h0 i O O) O O hd0 hc0 (fun i a b=>hu i O O)
def Te (E:Edges) (u v:LI) (j i:Nat):Prop:= ∃x∈E.getD j [],x.1=(i:Int)/\x.2=u.getD i 0+v.getD j 0
structure Chg (N:Nat) (E:Edges) (col dist:LI) (start:Nat) (ord:List Nat) (base:Int) (u v u' v':LI):Prop where
 ul:u'.length=N
 vl:v'.length=N
 u1: ∀i∈ord,u'.getD i 0=u.getD i 0+(base-dist.getD i 0)
 u2: ∀i,i∉ord->u'.getD i 0=u.getD i 0
 v1: ∀k d,RC col dist start ord k d->v'.getD k 0=v.getD k 0-(base-d)
 v2: ∀k,k<N->(∀d,¬RC col dist start ord k d)->v'.getD k 0=v.getD k 0
theorem qh9 {N:Nat} {E:Edges} {u v row col:LI} {start:Nat} {D:Int} {dist frm:LI} {dn:List Bool} {ord:List Nat} {base:Int} (hM:Mt N E u v row col)
 (hst:row.getD start 0= -1) (R:Rlx N E u v row col start D dist frm dn ord base) {i0:Nat} (hi:i0<N) (hdn:dn.getD i0 false=false) (hc0:col.getD i0 0= -1):
 Chg N E col dist start ord (dist.getD i0 0) u v (Qz dist (dn.set i0 true) col (dist.getD i0 0) N 0 u (v.set start (v.getD start 0-dist.getD i0 0))).1
  (Qz dist (dn.set i0 true) col (dist.getD i0 0) N 0 u (v.set start (v.getD start 0-dist.getD i0 0))).2:=by
 have hni:i0∉ord:=fun h=>by rw[(R.done i0 hi).2 h]at hdn;cases hdn
 have hdn': ∀i,i<N->((dn.set i0 true).getD i false=true↔i=i0\/i∈ord):=fun i h=>by
  by_cases e:i0=i
  . subst e;rw[qp (by rw[R.nl];exact hi)];simp
  . rw[getD_set_ne e,R.done i h];exact⟨.inr,fun h=>h.resolve_left fun h=>e h.symm⟩
 have hcol: ∀i∈ord,0<=col.getD i 0/\col.getD i 0<(N:Int)/\row.getD (col.getD i 0).toNat 0=(i:Int):=fun i hi=>
  (hM.cok i (R.olt i hi).1).resolve_left (by have:=R.olt i hi;omega)
 have h0: ∀i,0<=i->i<0+N->(dn.set i0 true).getD i false=true->col.getD i 0≠ -1->0<=col.getD i 0:=fun i _ h2 h3 h4=>by
  rcases(hdn' i O).1 h3 with rfl|h
  . exact absurd hc0 h4
  . exact(hcol i h).1
 have hnot: ∀(k:Nat),(∀i∈ord,col.getD i 0≠(k:Int))-> ∀i,0<=i->i<0+N->(dn.set i0 true).getD i false=true->col.getD i 0≠(k:Int):=fun k hk i _ h2 h3=>by
  rcases(hdn' i O).1 h3 with rfl|h
  . rw[hc0];omega
  . exact hk i h
 have hns: ∀i∈ord,col.getD i 0≠(start:Int):=fun i hi e=>by
  have:=(hcol i hi).2.2;rw[e,tN,hst]at this;omega
 have hU:=fun i=>q6i (dist:=dist) (col:=col) (dn:=dn.set i0 true) (base:=dist.getD i0 0) (d:=N) (k:=0) (u:=u) (v:=v.set start (v.getD start 0-dist.getD i0 0)) i (by rw[hM.ul];omega)
 refine⟨by rw[Zc.1];exact hM.ul,by rw[Zc.2];simpa using hM.vl,fun i h=> ?_,fun i h=> ?_,fun k d h=> ?_,fun k hk h=> ?_⟩
 . have:=R.olt i h;rw[hU,iP ⟨O,O,(hdn' i this.1).2 (.inr h)⟩]
 . rw[hU];split
   . rename_i c;rcases(hdn' i O).1 c.2.2 with rfl|h'
     . omega
     . exact absurd h' h
   . rfl
 . rcases h with⟨rfl,rfl⟩|⟨i,hi',e,rfl⟩
   . rw[Yw (by simp[hM.vl,R.st]) h0 (hnot _ hns),qp (by rw[hM.vl];exact R.st)];omega
   . have hk:k<N:=by have:=hcol i hi';omega
     have hks:start≠k:=fun q=>hns i hi' (by rw[q];exact e)
     have hiN:=(R.olt i hi').1;rw[q0r (c:=k) (i0:=i) (by simp[hM.vl,hk]) h0 O O ((hdn' i hiN).2 (.inr hi')) e,getD_set_ne hks]
     intro i' _ q2 q3 q4;rcases(hdn' i' O).1 q3 with rfl|h
     . omega
     . have g1:=(hcol i hi').2.2;have g2:=(hcol i' h).2.2;rw[e]at g1;rw[q4,g1]at g2;omega
 . have hks:start≠k:=fun q=>h 0 (.inl ⟨q.symm,rfl⟩)
   rw[Yw (by simp[hM.vl,hk]) h0 (hnot k fun i hi' e=>h _ (.inr ⟨i,hi',e,rfl⟩)),getD_set_ne hks]
theorem qlj {N:Nat} {E:Edges} {u v row col u' v':LI} {start:Nat} {D:Int} {dist frm:LI} {dn:List Bool} {ord:List Nat} {base:Int} (hE:EOK N E) (hM:Mt N E u v row col)
 (R:Rlx N E u v row col start D dist frm dn ord base) {i0:Nat} (hi:i0<N) (hd:dist.getD i0 0<1099511627776) (hni:i0∉ord)
 (hmin: ∀k,k<N->dn.getD k false=false->dist.getD k 0<1099511627776->dist.getD i0 0<=dist.getD k 0)
 (C:Chg N E col dist start ord (dist.getD i0 0) u v u' v'): ∀j,j<N-> ∀x∈E.getD j [],x.2<=u'.getD x.1.toNat 0+v'.getD j 0:=by
 intro j hj x hx;have hx1:=hE.row j x hx;have hb:=(R.near i0 hi hni hd).1;have hole: ∀i∈ord,dist.getD i 0<=dist.getD i0 0:=fun i h=>by have:=R.olt i h;omega
 have hge:x.1.toNat∉ord->dist.getD i0 0<=dist.getD x.1.toNat 0:=fun h=>by
  have hxN:x.1.toNat<N:=O
  have hdn:dn.getD x.1.toNat false=false:=by
   rcases Bool.eq_false_or_eq_true (dn.getD x.1.toNat false)with q|q
   . exact absurd ((R.done _ hxN).1 q) h
   . exact q
  by_cases q:dist.getD x.1.toNat 0<1099511627776
  . exact hmin _ hxN hdn q
  . omega
 have hf:=hM.feas j hj x hx
 have ub:u.getD x.1.toNat 0<=u'.getD x.1.toNat 0:=by
  by_cases h:x.1.toNat∈ord
  . rw[C.u1 _ h];have:=hole _ h;omega
  . rw[C.u2 _ h];exact Int.le_refl _
 by_cases hr: ∃d,RC col dist start ord j d
 . obtain⟨d,hr⟩:=hr;have hl:=R.rlx j d hr x hx;rw[C.v1 j d hr];simp only[loss]at hl;by_cases h:x.1.toNat∈ord
   . rw[C.u1 _ h];omega
   . rw[C.u2 _ h];have:=hge h;omega
 . rw[C.v2 j hj fun d h=>hr ⟨d,h⟩];omega
theorem qmw {N:Nat} {E:Edges} {u v row col u' v':LI} {start:Nat} {D:Int} {dist frm:LI} {dn:List Bool} {ord:List Nat} {base b':Int} (hM:Mt N E u v row col)
 (hst:row.getD start 0= -1) (R:Rlx N E u v row col start D dist frm dn ord base) (C:Chg N E col dist start ord b' u v u' v'):
 ∀j,j<N->row.getD j 0≠ -1->Te E u' v' j (row.getD j 0).toNat:=by
 intro j hj hn;obtain⟨h1,h2,h3⟩:=(hM.rok j hj).resolve_left hn;obtain⟨x,hx,hx1,hx2⟩:=hM.tight j hj hn;refine⟨x,hx,O,?_⟩;rw[hx1]at hx2;have hjs:j≠start:=by rintro rfl;exact hn hst
 by_cases h:(row.getD j 0).toNat∈ord
 . rw[C.u1 _ h,C.v1 j _ (.inr ⟨_,h,h3,rfl⟩)];omega
 . rw[C.u2 _ h,C.v2 j hj]
   . exact hx2
   . rintro d (⟨e,_⟩|⟨i,hi,e,_⟩)
     . exact hjs e
     . rcases hM.cok i (R.olt i hi).1 with g|⟨_,_,g⟩
       . omega
       . rw[e,tN]at g;rw[g,tN]at h;exact h hi
theorem qfk {N:Nat} {E:Edges} {u v col u' v':LI} {start:Nat} {dist:LI} {ord b:List Nat} {b':Int}
 (C:Chg N E col dist start ord b' u v u' v') {i k:Nat} {d:Int} (hb: ∀i∈b,i∈ord) (hr:RC col dist start b k d) (hi:i∈ord\/b'=dist.getD i 0) (hi2:i∉ord->b'=dist.getD i 0)
 (hx: ∃x∈E.getD k [],x.1=(i:Int)/\dist.getD i 0=loss u v k d x):Te E u' v' k i:=by
 obtain⟨x,hx,h1,h2⟩:=hx;refine⟨x,hx,h1,?_⟩
 have hr':RC col dist start ord k d:=by
  rcases hr with hr|⟨i',hi',hr⟩
  . exact .inl hr
  . exact .inr ⟨i',hb _ hi',hr⟩
 rw[C.v1 k d hr'];simp only[loss,h1,tN]at h2;by_cases h:i∈ord
 . rw[C.u1 _ h];omega
 . rw[C.u2 _ h];have:=hi2 h;omega
structure Tn (N:Nat) (col0 row col:LI) (P:Nat->Nat->Prop) (start i:Nat) (b:List Nat):Prop where
 rl:row.length=N
 cl:col.length=N
 iN:i<N
 sN:start<N
 rok: ∀j,j<N->row.getD j 0= -1\/(0<=row.getD j 0/\row.getD j 0<(N:Int)/\col.getD (row.getD j 0).toNat 0=(j:Int))
 nri: ∀j,j<N->row.getD j 0≠(i:Int)
 cok: ∀i',i'<N->i'≠i->col.getD i' 0= -1\/(0<=col.getD i' 0/\col.getD i' 0<(N:Int)/\row.getD (col.getD i' 0).toNat 0=(i':Int))
 st:row.getD start 0= -1
 keep: ∀i'∈b,i'≠i/\i'<N/\col.getD i' 0=col0.getD i' 0/\col0.getD i' 0≠ -1
 nodup:b.Nodup
 tight: ∀j,j<N->row.getD j 0≠ -1->P j (row.getD j 0).toNat
structure Td1 (N:Nat) (row0 row col:LI) (P:Nat->Nat->Prop) (start:Nat):Prop where
 rl:row.length=N
 cl:col.length=N
 rok: ∀j,j<N->row.getD j 0= -1\/(0<=row.getD j 0/\row.getD j 0<(N:Int)/\col.getD (row.getD j 0).toNat 0=(j:Int))
 cok: ∀i,i<N->col.getD i 0= -1\/(0<=col.getD i 0/\col.getD i 0<(N:Int)/\row.getD (col.getD i 0).toNat 0=(i:Int))
 tight: ∀j,j<N->row.getD j 0≠ -1->P j (row.getD j 0).toNat
 old: ∀j,j<N->row0.getD j 0≠ -1->row.getD j 0≠ -1
 new:row.getD start 0≠ -1
 free: ∀j,j<N->j≠start->row0.getD j 0= -1->row.getD j 0= -1
def Lk (col0 frm:LI) (P:Nat->Nat->Prop) (start i:Nat) (b:List Nat):Prop:=
 ∃k,(k=start\/ ∃i':Nat,i'∈b/\col0.getD i' 0=(k:Int))/\frm.getD i 0=(k:Int)/\P k i
theorem q7z (m:Nat) {N:Nat} {E:Edges} {u v col0 frm:LI} {P:Nat->Nat->Prop} {start:Nat} (hfl:frm.length=N):
 ∀(n i:Nat) (b:List Nat) (row col:LI),b.length<n->Tn N col0 row col P start i b->Lk col0 frm P start i b->(∀a i' b',b=a++i'::b'->Lk col0 frm P start i' b')->
 ∃row' col',g135L0 m n E u v row col (start:Int) (i:Int) frm=some (.inl ((E,u,v,row',col',()),()))/\Td1 N row row' col' P start
 |0,i,b,row,col,h,_,_,_=>O
 |n+1,i,b,row,col,h,T,L,hT=>by
  obtain⟨k,hk,hf,hP⟩:=L
  have hkN:k<N/\(k≠start-> ∃(i':Nat) (b' a:List Nat),b=a++i'::b'/\row.getD k 0=(i':Int)/\i'<N/\col.getD i' 0=(k:Int)/\i'≠i):=by
   by_cases hks:k=start
   . exact⟨hks▸T.sN,fun h=>absurd hks h⟩
   . obtain⟨i',hi',e⟩:=hk.resolve_left hks;obtain⟨q1,q2,q3,q4⟩:=T.keep i' hi';obtain⟨g1,g2,g3⟩:=(T.cok i' q2 q1).resolve_left (by rw[q3];exact q4)
     rw[q3,e]at g1 g2 g3;obtain⟨a,b',hb⟩:=List.append_of_mem hi';exact⟨O,fun _=>⟨i',b',a,hb,by rwa [tN]at g3,q2,by rw[q3,e],q1⟩⟩
  obtain⟨hkN,hk2⟩:=hkN;have hi:=T.iN;rw[g135L0];have c1:(0:Int)<=(i:Int)/\(i:Int)<(frm.length:Int):=O;have c2:(0:Int)<=(k:Int)/\(k:Int)<(row.length:Int):=by have:=T.rl;omega
  have c3:(0:Int)<=(i:Int)/\(i:Int)<(col.length:Int):=by have:=T.cl;omega
  simp only[tN,c1,c2,c3,hf,and_self,if_true,Nat.zero_add,bif_eq]
  have rowk: ∀j,(row.set k (i:Int)).getD j 0=if j=k then(i:Int)else row.getD j 0:=fun j=>by
   by_cases e:k=j
   . subst e;rw[qp (by rw[T.rl];exact hkN),iP rfl]
   . rw[getD_set_ne e,iN' (Ne.symm e)]
  have coli: ∀j,(col.set i (k:Int)).getD j 0=if j=i then(k:Int)else col.getD j 0:=fun j=>by
   by_cases e:i=j
   . subst e;rw[qp (by rw[T.cl];exact hi),iP rfl]
   . rw[getD_set_ne e,iN' (Ne.symm e)]
  have rok': ∀j,j<N->(row.set k (i:Int)).getD j 0= -1\/(0<=(row.set k (i:Int)).getD j 0/\(row.set k (i:Int)).getD j 0<(N:Int)/\(col.set i (k:Int)).getD ((row.set k (i:Int)).getD j 0).toNat 0=(j:Int)):=by
   intro j hj;rw[rowk];split
   . rename_i e;refine .inr ⟨O,O,?_⟩;rw[tN,coli,iP rfl,e]
   . rcases T.rok j hj with g|⟨g1,g2,g3⟩
     . exact .inl g
     . refine .inr ⟨g1,g2,?_⟩;rw[coli,iN' (fun e=>T.nri j hj O)];exact g3
  have tight': ∀j,j<N->(row.set k (i:Int)).getD j 0≠ -1->P j ((row.set k (i:Int)).getD j 0).toNat:=by
   intro j hj;rw[rowk];split
   . rename_i e;intro _;rw[e,tN];exact hP
   . exact T.tight j hj
  by_cases hks:k=start
  . rw[iP O];refine⟨_,_,rfl,⟨by simp[T.rl],by simp[T.cl],rok',?_,tight',?_,?_,?_⟩⟩
    . intro i2 hi2;rw[coli];split
      . rename_i e;refine .inr ⟨O,O,?_⟩;rw[tN,rowk,iP rfl,e]
      . rename_i e;rcases T.cok i2 hi2 e with g|⟨g1,g2,g3⟩
        . exact .inl g
        . refine .inr ⟨g1,g2,?_⟩;rw[rowk,iN']
          . exact g3
          . intro q;rw[q,hks,T.st]at g3;omega
    . intro j hj hn;rw[rowk];split
      . omega
      . exact hn
    . rw[rowk,iP hks.symm];omega
    . intro j hj hn hr;rw[rowk,iN' (by rw[hks];exact hn)];exact hr
  . rw[iN' O];obtain⟨i',b',a,hb,hr,hi',hci,hne⟩:=hk2 hks;rw[hr];have hsub: ∀x∈b',x∈b:=fun x hx=>by rw[hb];simp[hx]
    have hnd:i'∉b'/\b'.Nodup:=by
     have:=T.nodup;rw[hb]at this;have:=(List.nodup_append.1 this).2.1;exact List.nodup_cons.1 this
    have T':Tn N col0 (row.set k (i:Int)) (col.set i (k:Int)) P start i' b':=by
     refine⟨by simp[T.rl],by simp[T.cl],hi',T.sN,rok',?_,?_,?_,?_,hnd.2,tight'⟩
     . intro j hj;rw[rowk];split
       . omega
       . rename_i e;intro q;rcases T.rok j hj with g|⟨g1,g2,g3⟩
         . omega
         . rw[q,tN,hci]at g3;omega
     . intro i2 hi2 hn2;rw[coli];split
       . rename_i e;refine .inr ⟨O,O,?_⟩;rw[tN,rowk,iP rfl,e]
       . rename_i e;rcases T.cok i2 hi2 e with g|⟨g1,g2,g3⟩
         . exact .inl g
         . refine .inr ⟨g1,g2,?_⟩;rw[rowk,iN']
           . exact g3
           . intro q;rw[q,hr]at g3;omega
     . rw[rowk,iN' (Ne.symm hks)];exact T.st
     . intro x hx;obtain⟨q1,q2,q3,q4⟩:=T.keep x (hsub x hx);refine⟨fun e=>hnd.1 (e▸hx),q2,?_,q4⟩
       rw[coli,iN' q1];exact q3
    have hlen:b'.length<b.length:=by rw[hb];simp;omega
    obtain⟨row',col',e,W⟩:=q7z m (E:=E) (u:=u) (v:=v) (col0:=col0) (P:=P) hfl n i' b' _ _ O T' (hT a i' b' hb) (fun a2 i2 b2 e=>hT (a++i'::a2) i2 b2 (by rw[hb,e];simp))
    refine⟨row',col',e,⟨W.rl,W.cl,W.rok,W.cok,W.tight,?_,W.new,?_⟩⟩
    . intro j hj hn;refine W.old j hj ?_;rw[rowk];split
      . omega
      . exact hn
    . intro j hj hn hrj;refine W.free j hj hn ?_;rw[rowk,iN']
      . exact hrj
      . intro q;rw[q,hr]at hrj;omega
structure Ad (N:Nat) (E:Edges) (row0:LI) (start:Nat) (D:Int) (u v row col:LI):Prop where
 mt:Mt N E u v row col
 ub: ∀i,-D<=u.getD i 0/\u.getD i 0<=D
 vb: ∀i,-D<=v.getD i 0/\v.getD i 0<=D
 old: ∀j,j<N->row0.getD j 0≠ -1->row.getD j 0≠ -1
 new:row.getD start 0≠ -1
 free: ∀j,j<N->j≠start->row0.getD j 0= -1->row.getD j 0= -1
theorem ltS {N a n:Nat} (h:N-a<n+1) (h2:a+1<=N:=by assumption):N-(a+1)<n:=O
theorem qd6 (m:Nat) {N:Nat} {E:Edges} {u v row col:LI} {start:Nat} {D:Int} (hm:400<m) (hE:EOK N E) (hM:Mt N E u v row col)
 (hD:0<=D) (hDb:((N:Int)+2)*(2*D+1100)<=1099511627775) (hD2:D<=1099511627776) (hu: ∀i,-D<=u.getD i 0/\u.getD i 0<=D) (hv: ∀i,-D<=v.getD i 0/\v.getD i 0<=D) (hst:row.getD start 0= -1):
 ∀(n:Nat) (dist frm:LI) (dn:List Bool) (ord:List Nat) (j:Nat) (base:Int),N-ord.length<n->j<N->Rnd N E u v row col start D dist frm dn ord j base->
 (∃u' v' row' col',g86L0 m n E u v row col (start:Int) (N:Int) dist frm dn (j:Int) base=some (.inl ((E,u',v',row',col',()),true,()))/\
   Ad N E row start (D+(N:Int)*(2*D+1100)) u' v' row' col')\/
 ((∃h,g86L0 m n E u v row col (start:Int) (N:Int) dist frm dn (j:Int) base=some (.inl (h,false,())))/\ ∀s,¬Trv N E s)
 |0,dist,frm,dn,ord,j,base,h,_,_=>O
 |n+1,dist,frm,dn,ord,j,base,h,hj,R=>by
  have hEl:=hE.len;have hN:=hE.small;have hordsub: ∀x∈ord,x∈List.range N:=fun x hx=>List.mem_range.2 (R.olt x hx).1
  have hol:ord.length<=N:=by simpa using Z9 R.nodup hordsub
  have hmulN: ∀k:Int,k<=(N:Int)->k*(2*D+1100)<=(N:Int)*(2*D+1100):=fun k hk=>Int.mul_le_mul_of_nonneg_right hk O
  have hDb':=hDb;rw[Int.add_mul]at hDb';have hNn:0<=(N:Int)*(2*D+1100):=Int.mul_nonneg O O
  have hbase: -1099511627776<=base/\base<=1099511627776:=by
   have:=R.b0;have:=R.bD;have:=hmulN ord.length O;omega
  have hbu:Bd u:=fun i=>by have:=hu i;omega
  have hbv:Bd v:=fun i=>by have:=hv i;omega
  rw[g86L0];have c1:(0:Int)<=(j:Int)/\(j:Int)<(E.length:Int):=O;have e1:=qas m (E:=E) (row:=row) (col:=col) (dist0:=dist) (frm0:=frm) (t1:=(start:Int)) (t5:=(N:Int)) (base:=base) (xs:=E.getD j []) hbu hbv hbase hM.ul hM.vl R.nl hj hN (fun x hx=>⟨hE.row j x hx,hE.wt j x hx⟩) (hE.lens j) m 0 dist frm (by have:=hE.lens j;omega) R.dl R.fl
  rw[List.drop_zero,nZ]at e1;simp only[tN,c1,and_self,if_true,e1,bS];have X:=q8z (u:=u) (v:=v) (dn:=dn) (j:=j) (base:=base) R.dl R.fl (hE.row j);have hl1:(relax u v dn j base (E.getD j []) dist frm).1.length=N:=by rw[q2c.1];exact R.dl
  have hl2:(relax u v dn j base (E.getD j []) dist frm).2.length=N:=by rw[q2c.2];exact R.fl
  generalize (relax u v dn j base (E.getD j []) dist frm).1=dist' at*
  generalize (relax u v dn j base (E.getD j []) dist frm).2=frm' at*
  have Q:=R.relax hE hM hD hu hv hj hst hl1 hl2 X;have e2:=qbh m (E:=E) (u:=u) (v:=v) (row:=row) (col:=col) (frm:=frm') (t1:=(start:Int)) (t5:=(N:Int)) Q.nl hl1 hN m 0 (-1) O O (.inl rfl);rw[nZ]at e2;simp only[e2,bS];have PK:=qeo (N:=N) (dist:=dist') (dn:=dn) (d:=N-0) (k:=0) (i:= -1) rfl O (.inl rfl);generalize pick dist' dn (N-0) 0 (-1)=p at*;rw[bif_eq];by_cases hp:p= -1
  . rw[iP hp];refine .inr ⟨⟨_,rfl⟩,Q.none hM hst ?_⟩;exact Q.hall hE hM hst hD hDb hu hv hol fun k hk=>(PK.none_ hp).2 k (Nat.zero_le _) hk
  . rw[iN' hp];obtain⟨g1,_,g3⟩:=PK.some_ hp;obtain⟨i,_,hi,hpi,hdi,hdist⟩:=g1.resolve_left hp;subst hpi
    have hmin: ∀k,k<N->dn.getD k false=false->dist'.getD k 0<1099511627776->dist'.getD i 0<=dist'.getD k 0:=fun k hk a b=>by
     have:=g3 k (Nat.zero_le _) hk a b
     rwa [tN]at this
    have hni:i∉ord:=fun h=>by rw[(Q.done i hi).2 h]at hdi;cases hdi
    have hol1:ord.length+1<=N:=by
     have:=Z9 (l:=i::ord) (l':=List.range N) (List.nodup_cons.2 ⟨hni,Q.nodup⟩) (fun x hx=>by
      rcases mC hx with rfl|hx
      . exact List.mem_range.2 hi
      . exact hordsub x hx)
     simpa using this
    have c2:(0:Int)<=(i:Int)/\(i:Int)<(dist'.length:Int):=O;have c3:(0:Int)<=(i:Int)/\(i:Int)<(dn.length:Int):=by have:=Q.nl;omega
    have c4:(0:Int)<=(i:Int)/\(i:Int)<(col.length:Int):=by have:=hM.cl;omega
    simp only[c2,c3,c4,and_self,if_true,tN,Nat.zero_add,bif_eq];obtain⟨n1,n2,k0,d0,n3,n4,n5⟩:=Q.near i hi hni hdist
    have hd0:0<=dist'.getD i 0/\dist'.getD i 0<=(N:Int)*(2*D+1100):=by
     have:=Q.b0;have:=hmulN ((ord.length:Int)+1) O;omega
    by_cases hc:col.getD i 0= -1
    . rw[iP hc];refine .inl ?_;have CH:=qh9 hM hst Q hi hdi hc;have cs1:(0:Int)<=(start:Int)/\(start:Int)<(v.length:Int):=by have:=hM.vl;have:=Q.st;omega
      have hbd:Bd dist':=fun k=>by
       refine⟨?_,Q.far k⟩;by_cases hk:k<N
       . by_cases hko:k∈ord
         . have:=Q.olt k hko;omega
         . by_cases hkd:dist'.getD k 0<1099511627776
           . have:=(Q.near k hk hko hkd).1;have:=Q.b0;omega
           . omega
       . rw[Qc O];omega
      have w1:IntKind.wrap .i64 (v.getD start 0-dist'.getD i 0)=v.getD start 0-dist'.getD i 0:=by have:=hbv start;exact wi O O
      have hgv: ∀k,-2199023255552<=(v.set start (v.getD start 0-dist'.getD i 0)).getD k 0/\(v.set start (v.getD start 0-dist'.getD i 0)).getD k 0<=2199023255552:=fun k=>by
       by_cases e:start=k
       . subst e;rw[qp O];have:=hbv start;omega
       . rw[getD_set_ne e];have:=hbv k;omega
      have e3:=q3v m (E:=E) (row:=row) (col:=col) (dist:=dist') (dn:=dn.set i true) (base:=dist'.getD i 0) (N:=N) O hbd hM.cl (by simp[Q.nl]) hl1 hN (fun k hk=>by
       rcases hM.cok k hk with g|g
       . exact .inl g
       . exact .inr ⟨g.1,g.2.1⟩) m 0 u (v.set start (v.getD start 0-dist'.getD i 0)) 2199023255552 O O (fun k=>by have:=hbu k;omega) hgv O O hM.ul (by simp[hM.vl])
      rw[nZ,Nat.sub_zero]at e3;rw[g134];have hnl:(dn.set i true).length=N:=by simp[Q.nl]
      simp only[cs1,and_self,if_true,tN,Nat.zero_add,wQ,w1,hnl,e3,bS];generalize (Qz dist' (dn.set i true) col (dist'.getD i 0) N 0 u (v.set start (v.getD start 0-dist'.getD i 0))).1=u' at*;generalize (Qz dist' (dn.set i true) col (dist'.getD i 0) N 0 u (v.set start (v.getD start 0-dist'.getD i 0))).2=v' at*;have hfeas:=qlj hE hM Q hi hdist hni hmin CH
      have hcol: ∀i∈ord,0<=col.getD i 0/\col.getD i 0<(N:Int)/\row.getD (col.getD i 0).toNat 0=(i:Int):=fun i hi=>
       (hM.cok i (Q.olt i hi).1).resolve_left (by have:=Q.olt i hi;omega)
      have lk: ∀{b:List Nat} {k:Nat} {d:Int},RC col dist' start b k d->(k=start\/ ∃i'∈b,col.getD i' 0=(k:Int)):=fun h=>by
       rcases h with⟨h,_⟩|⟨i',h1,h2,_⟩
       . exact .inl h
       . exact .inr ⟨i',h1,h2⟩
      have T:Tn N col row col (Te E u' v') start i ord:=by
       refine⟨hM.rl,hM.cl,hi,Q.st,hM.rok,?_,fun i' h _=>hM.cok i' h,hst,?_,Q.nodup,qmw hM hst Q CH⟩
       . intro j' hj' q;rcases hM.rok j' hj' with g|⟨g1,g2,g3⟩
         . omega
         . rw[q,tN,hc]at g3;omega
       . intro i' hi';have:=Q.olt i' hi';exact⟨fun e=>hni (e▸hi'),this.1,rfl,O⟩
      have L0:Lk col frm' (Te E u' v') start i ord:=by
       refine⟨k0,lk n3,n4,qfk CH (b:=ord) (fun _ h=>h) n3 (.inr rfl) (fun _=>rfl) n5⟩
      obtain⟨row',col',e4,W⟩:=q7z m (E:=E) (u:=u') (v:=v') (P:=Te E u' v') hl2 m i ord row col O T L0 (by
       intro a i' b' e;obtain⟨k,d,q1,q2,q3⟩:=Q.tree a i' b' e;have hin:i'∈ord:=by rw[e];simp
       exact⟨k,lk q1,q2,qfk CH (b:=b') (fun x hx=>by rw[e];simp[hx]) q1 (.inl hin) (fun hn=>absurd hin hn) q3⟩)
      rw[g135];simp only[e4,bS];refine⟨u',v',row',col',rfl,⟨⟨CH.ul,CH.vl,W.rl,W.cl,W.rok,W.cok,hfeas,?_⟩,?_,?_,W.old,W.new,W.free⟩⟩
      . intro j' hj' hn;obtain⟨x,hx,hx1,hx2⟩:=W.tight j' hj' hn;have:=(W.rok j' hj').resolve_left hn;exact⟨x,hx,O,by rw[hx1,tN];exact hx2⟩
      . intro k;have h1:=hu k;by_cases hk:k∈ord
        . rw[CH.u1 k hk];have:=Q.olt k hk;omega
        . rw[CH.u2 k hk];omega
      . intro k;have h1:=hv k;by_cases hk:k<N
        . by_cases hr: ∃d,RC col dist' start ord k d
          . obtain⟨d,hr⟩:=hr;rw[CH.v1 k d hr]
            have:0<=d/\d<=dist'.getD i 0:=by
             rcases hr with⟨_,rfl⟩|⟨i',hi',_,rfl⟩
             . omega
             . have:=Q.olt i' hi';omega
            omega
          . rw[CH.v2 k hk fun d h=>hr ⟨d,h⟩];omega
        . rw[Qc (by rw[CH.vl];omega)];omega
    . rw[iN' hc];obtain⟨g1,g2,g3⟩:=(hM.cok i hi).resolve_left hc;obtain⟨j',hj'⟩: ∃j':Nat,col.getD i 0=(j':Int):=⟨(col.getD i 0).toNat,O⟩;rw[hj'];have hj'N:j'<N:=by rw[hj']at g2;exact Int.ofNat_lt.1 g2
      have hlen':N-(i::ord).length<n:=by rw[List.length_cons];exact ltS h
      exact qd6 m hm hE hM hD hDb hD2 hu hv hst n dist' frm' (dn.set i true) (i::ord) j' _ hlen' hj'N (Q.next hM hst hD hi hdi hdist hmin hj')
theorem X8 {α:Type} {L:List α} {k:Nat} {d:α} (h:k<L.length):L.getD k d∈L:=by
 rw[List.getD,List.getElem?_eq_getElem h];simp
theorem q7l (m:Nat) {N:Nat} {w:Int} (hN:N<=1000): ∀(n k:Nat) (out:LI),N-k<n->k<=N->out.length=N->(∀i,i<k->out.getD i 0=w)->
 g85L0 m n w out (N:Int) (k:Int)=some (.inl (List.replicate N w,()))
 |0,k,out,h,_,_,_=>O
 |n+1,k,out,h,hk,hl,hw=>by
  rw[g85L0];by_cases hlt:k<N
  . have h1:((k:Int)<(N:Int)):=O;have c1:(0:Int)<=(k:Int)/\(k:Int)<(out.length:Int):=O;simp only[bQ,h1,if_true,c1,and_self,tN,Nat.zero_add,wQ,wsucc (show k<4611686018427387904 by omega)]
    refine q7l m hN n (k+1) _ O O (by simp[hl]) fun i hi=> ?_
    by_cases e:k=i
    . subst e;rw[qp O]
    . rw[getD_set_ne e];exact hw i O
  . have h1: ¬((k:Int)<(N:Int)):=O;simp only[bQ,h1,if_false];congr 3;refine Yl 0 (by simp[hl]) fun i hi=> ?_
    rw[hw i O,qo O]
theorem q0f (m:Nat) {N:Nat} {w:Int} (hm:1000<m) (hN:N<=1000):g85 m (N:Int) w=some (List.replicate N w,((),(),())):=by
 rw[g85];have c1:(0:Int)<=(N:Int)/\(N:Int)<=(N:Int)/\(N:Int)<=1073741824:=O;have e:=q7l m (w:=w) hN m 0 (List.replicate N 0) O O (by simp) (fun i hi=>O)
 rw[nZ]at e;simp only[c1,and_self,if_true,tN,List.length_replicate,e,bS]
theorem qoa (m:Nat) {N:Nat} {E:Edges} {u v row col:LI} {start:Nat} {D:Int} (hm:1000<m) (hE:EOK N E) (hM:Mt N E u v row col)
 (hD:0<=D) (hDb:((N:Int)+2)*(2*D+1100)<=1099511627775) (hD2:D<=1099511627776) (hu: ∀i,-D<=u.getD i 0/\u.getD i 0<=D) (hv: ∀i,-D<=v.getD i 0/\v.getD i 0<=D) (hst:row.getD start 0= -1)
 (hs:start<N):
 (∃u' v' row' col',g86 m E u v row col (start:Int)=some (true,((E,u',v',row',col',()),(),()))/\
   Ad N E row start (D+(N:Int)*(2*D+1100)) u' v' row' col')\/
 ((∃h,g86 m E u v row col (start:Int)=some (false,h))/\ ∀s,¬Trv N E s):=by
 have hN:=hE.small;have c1:(0:Int)<=(N:Int)/\(N:Int)<=(N:Int)/\(N:Int)<=1073741824:=O;rw[g86,hE.len,q0f m hm O,q0f m hm O];simp only[bS,c1,and_self,if_true,tN];rcases qd6 m O hE hM hD hDb hD2 hu hv hst m _ _ _ _ start 0 O hs (rnd0 hs hD)with⟨u',v',row',col',e,h⟩|⟨⟨hh,e⟩,h⟩
 . rw[e];exact .inl ⟨u',v',row',col',rfl,h⟩
 . rw[e];exact .inr ⟨⟨_,rfl⟩,h⟩
theorem q86 (m:Nat) {N:Nat} {E E2:Edges} {u row col:LI} {j:Nat} {t4 t25 t26:Int} {xs:List (Int×Int)} (hj:j<N) (hxl:xs.length<=200):
 ∀(n k:Nat) (v:LI),xs.length-k<n->v.length=N->
 ∃v',g38L1 m n t4 E u v row col (j:Int) E2 t25 t26 xs (xs.length:Int) (k:Int)=some (.inl (t4,(E,u,v',row,col,()),E2,t25,t26,()))/\v'.length=N/\
  (∀i,i≠j->v'.getD i 0=v.getD i 0)/\v.getD j 0<=v'.getD j 0/\(∀x∈xs.drop k,x.2<=v'.getD j 0)/\(v'.getD j 0=v.getD j 0\/ ∃x∈xs,v'.getD j 0=x.2)
 |0,k,v,h,_=>O
 |n+1,k,v,h,hl=>by
  rw[g38L1];by_cases hk:k<xs.length
  . have h1:((k:Int)<(xs.length:Int)):=O;have c1:(0:Int)<=(k:Int)/\(k:Int)<(xs.length:Int):=O;have c2:(0:Int)<=(j:Int)/\(j:Int)<(v.length:Int):=O;have hmem:xs.getD k (0,0)∈xs:=by rw[List.getD,List.getElem?_eq_getElem hk];simp
    simp only[bQ,h1,if_true,c1,c2,and_self,tN,Nat.zero_add,wQ,wsucc (show k<4611686018427387904 by omega)]
    rw[drop_cons (d:=(0,0)) hk];generalize xs.getD k (0,0)=y at*;obtain⟨v',e,q1,q2,q3,q4,q5⟩:=q86 m (E:=E) (E2:=E2) (u:=u) (row:=row) (col:=col) (t4:=t4) (t25:=t25) (t26:=t26) hj hxl n (k+1) (v.set j (if y.2>v.getD j 0 then y.2 else v.getD j 0)) O (by simp[hl])
    rw[qp O]at q3 q5;refine⟨v',e,q1,fun i hi=>by rw[q2 i hi,getD_set_ne (Ne.symm hi)],?_,?_,?_⟩
    . split at q3<;>omega
    . intro x hx;rcases mC hx with rfl|hx
      . split at q3<;>omega
      . exact q4 x hx
    . rcases q5 with q5|q5
      . split at q5
        . exact .inr ⟨y,hmem,q5⟩
        . exact .inl q5
      . exact .inr q5
  . have h1: ¬((k:Int)<(xs.length:Int)):=O;simp only[bQ,h1,if_false];refine⟨v,rfl,hl,fun i _=>rfl,Int.le_refl _,?_,.inl rfl⟩
    rw[drop_nil' hk];intro x hx;cases hx
theorem q81 (m:Nat) {N:Nat} {E:Edges} {u row col:LI} (hm:400<m) (hE:EOK N E): ∀(n j:Nat) (v:LI),N-j<n->v.length=N->
 (∀i,i<j-> ∀x∈E.getD i [],x.2<=v.getD i 0)->(∀i,-1100<=v.getD i 0/\v.getD i 0<=1100)->
 (∃v',g38L0 m n (N:Int) E u v row col E (N:Int) (j:Int)=some (.inr (.inl ((N:Int),(E,u,v',row,col,()),())))/\v'.length=N/\
   (∀i,i<N-> ∀x∈E.getD i [],x.2<=v'.getD i 0)/\ ∀i,-1100<=v'.getD i 0/\v'.getD i 0<=1100)\/
 (g38L0 m n (N:Int) E u v row col E (N:Int) (j:Int)=some (.inl ((),(),()))/\ ∃i,i<N/\E.getD i []=[])
 |0,j,v,h,_,_,_=>O
 |n+1,j,v,h,hl,hw,hb=>by
  rw[g38L0];have hN:=hE.small;have hEl:=hE.len;by_cases hj:j<N
  . have h1:((j:Int)<(N:Int)):=O;have c1:(0:Int)<=(j:Int)/\(j:Int)<(E.length:Int):=O;have c2:(0:Int)<=(j:Int)/\(j:Int)<(v.length:Int):=O;simp only[bQ,h1,if_true,c1,c2,and_self,tN,Nat.zero_add,wQ,bif_eq];by_cases h0:(E.getD j []).length=0
    . have h0':(((E.getD j []).length:Nat):Int)=0:=O;rw[iP h0'];exact .inr ⟨rfl,j,hj,List.length_eq_zero_iff.1 h0⟩
    . have h0': ¬(((E.getD j []).length:Nat):Int)=0:=O;have c3:(0:Int)<=0/\(0:Int)<((E.getD j []).length:Int):=O;rw[iN' h0',iP c3];have hlen:=hE.lens j
      have hx0:(E.getD j []).getD 0 (0,0)∈E.getD j []:=by
       have:0<(E.getD j []).length:=O;exact X8 this
      obtain⟨v',e,q1,q2,q3,q4,q5⟩:=q86 m (E:=E) (E2:=E) (u:=u) (row:=row) (col:=col) (t4:=(N:Int)) (t25:=(N:Int)) (t26:=(j:Int)) hj hlen m 0
       (v.set j ((E.getD j []).getD 0 (0,0)).2) O (by simp[hl])
      rw[nZ]at e;simp only[e,bS];rw[wsucc O];rw[qp O]at q3 q5;rw[List.drop_zero]at q4;refine q81 m hm hE n (j+1) v' O q1 ?_ ?_
      . intro i hi x hx;by_cases ei:i=j
        . subst ei;exact q4 x hx
        . rw[q2 i ei,getD_set_ne (Ne.symm ei)];exact hw i O x hx
      . intro i;by_cases ei:i=j
        . subst ei;rcases q5 with q5|⟨x,hx,q5⟩
          . rw[q5];exact hE.wt _ _ hx0
          . rw[q5];exact hE.wt _ _ hx
        . rw[q2 i ei,getD_set_ne (Ne.symm ei)];exact hb i
  . have h1: ¬((j:Int)<(N:Int)):=O;simp only[bQ,h1,if_false];exact .inl ⟨v,rfl,hl,fun i hi=>hw i O,hb⟩
def Dn:Nat->Int
 |0=>1100
 |k+1=>11*Dn k+5500
theorem qb4: ∀k,0<=Dn k
 |0=>by decide
 |k+1=>by have:=qb4 k;rw[Dn];omega
theorem Dn_le {k:Nat} (h:k<=5):Dn k<=265733600:=by
 have:k=0\/k=1\/k=2\/k=3\/k=4\/k=5:=O;rcases this with rfl|rfl|rfl|rfl|rfl|rfl<;>decide
theorem Ad.bd {N:Nat} {E:Edges} {row0:LI} {start:Nat} {D D':Int} {u v row col:LI} (h:Ad N E row0 start D u v row col) (hD:D<=D'):Ad N E row0 start D' u v row col:=
 ⟨h.mt,fun i=>by have:=h.ub i;omega,fun i=>by have:=h.vb i;omega,h.old,h.new,h.free⟩
theorem q8b (m:Nat) {N:Nat} {E:Edges} (hm:1000<m) (hE:EOK N E) (hN5:N<=5): ∀(n j:Nat) (u v row col:LI),N-j<n->j<=N->Mt N E u v row col->
 (∀i,-(Dn j)<=u.getD i 0/\u.getD i 0<=Dn j)->(∀i,-(Dn j)<=v.getD i 0/\v.getD i 0<=Dn j)->(∀i,i<j->row.getD i 0≠ -1)->(∀i,j<=i->i<N->row.getD i 0= -1)->
 (∃u' v' row' col',g38L2 m n E u v row col (N:Int) (j:Int)=some (.inr (.inl ((E,u',v',row',col',()),())))/\Mt N E u' v' row' col'/\
   (∀i,-265733600<=u'.getD i 0/\u'.getD i 0<=265733600)/\(∀i,-265733600<=v'.getD i 0/\v'.getD i 0<=265733600)/\ ∀i,i<N->row'.getD i 0≠ -1)\/
 (g38L2 m n E u v row col (N:Int) (j:Int)=some (.inl ((),(),()))/\ ∀s,¬Trv N E s)
 |0,j,u,v,row,col,h,_,_,_,_,_,_=>O
 |n+1,j,u,v,row,col,h,hj0,hM,hu,hv,hr1,hr2=>by
  rw[g38L2];by_cases hj:j<N
  . have h1:((j:Int)<(N:Int)):=O;have hD0:=qb4 j;have hD1:=Dn_le (k:=j) O;have hmul: ∀c:Int,c<=7->c*(2*Dn j+1100)<=7*(2*Dn j+1100):=fun c hc=>Int.mul_le_mul_of_nonneg_right hc O
    have hmul5: ∀c:Int,c<=5->c*(2*Dn j+1100)<=5*(2*Dn j+1100):=fun c hc=>Int.mul_le_mul_of_nonneg_right hc O
    simp only[bQ,h1,if_true];rcases qoa m hm hE hM hD0 (by have:=hmul ((N:Int)+2) O;omega) O hu hv (hr2 j (Nat.le_refl _) hj) hj with⟨u',v',row',col',e,A⟩|⟨⟨hh,e⟩,hno⟩
    . rw[e];simp only[bS,Bool.not_true,cond_false,wQ,wsucc (show j<4611686018427387904 by omega)]
      have A':=A.bd (D':=Dn (j+1)) (by rw[Dn];have:=hmul5 (N:Int) O;omega)
      refine q8b m hm hE hN5 n (j+1) u' v' row' col' O O A'.mt A'.ub A'.vb ?_ ?_
      . intro i hi;by_cases ei:i=j
        . subst ei;exact A.new
        . exact A.old i O (hr1 i O)
      . intro i hi hiN;exact A.free i hiN O (hr2 i O hiN)
    . rw[e];simp only[bS,Bool.not_false,cond_true];exact .inr ⟨trivial,hno⟩
  . have h1: ¬((j:Int)<(N:Int)):=O;simp only[bQ,h1,if_false];have hDj:=Dn_le (k:=j) O;exact .inl ⟨u,v,row,col,rfl,hM,fun i=>by have:=hu i;omega,fun i=>by have:=hv i;omega,fun i hi=>hr1 i O⟩
structure Bst (N:Nat) (E:Edges) (u v row col:LI):Prop where
 mt:Mt N E u v row col
 ub: ∀i,-265733600<=u.getD i 0/\u.getD i 0<=265733600
 vb: ∀i,-265733600<=v.getD i 0/\v.getD i 0<=265733600
 full: ∀i,i<N->row.getD i 0≠ -1
theorem qnd (m:Nat) {N:Nat} {E:Edges} (hm:1000<m) (hE:EOK N E) (hN5:N<=5):
 (∃u v row col,g38 m E=some (.inr (((E,u,v,row,col,()),(),())),((),()))/\Bst N E u v row col)\/
 (g38 m E=some (.inl (((),(),())),((),()))/\ ∀s,¬Trv N E s):=by
 have hrep: ∀{n:Nat} (i:Nat),(List.replicate n (0:Int)).getD i 0=0:=fun{n} i=>by
  by_cases h:i<n
  . rw[qo h]
  . rw[Qc (by simpa using h)]
 rw[g38,hE.len,q0f m hm O,q0f m hm O];simp only[bS];rcases q81 m (u:=List.replicate N 0) (row:=List.replicate N (-1)) (col:=List.replicate N (-1)) O hE m 0 (List.replicate N 0) O (by simp) (fun i hi=>O) (fun i=>by rw[hrep];omega)with⟨v,e,q1,q2,q3⟩|⟨e,i,hi,hn⟩
 . rw[nZ]at e;rw[e];simp only[bS]
   have hM:Mt N E (List.replicate N 0) v (List.replicate N (-1)) (List.replicate N (-1)):=by
    refine⟨by simp,q1,by simp,by simp,fun j hj=> .inl (qo hj),fun j hj=> .inl (qo hj),fun j hj x hx=> ?_,fun j hj h=>absurd (qo hj) h⟩
    rw[hrep];have:=q2 j hj x hx;omega
   rcases q8b m hm hE hN5 m 0 _ _ _ _ O O hM (fun i=>by rw[hrep,Dn];omega) q3 (fun i hi=>O) (fun i _ hi=>qo hi)with⟨u',v',row',col',e2,g1,g2,g3,g4⟩|⟨e2,hno⟩
   . rw[nZ]at e2;rw[e2];exact .inl ⟨u',v',row',col',rfl,⟨g1,g2,g3,g4⟩⟩
   . rw[nZ]at e2;rw[e2];exact .inr ⟨rfl,hno⟩
 . rw[nZ]at e;rw[e];refine .inr ⟨rfl,fun s hs=> ?_⟩
   obtain⟨x,hx,_⟩:=hs.1 i hi;rw[hn]at hx;cases hx
def tRows (u v:LI) (j:Nat) (xs:List (Int×Int)):LI:=(xs.filter fun x=>decide (u.getD x.1.toNat 0+v.getD j 0=x.2)).map (·.1)
theorem qah {u v:LI} {j:Nat} {xs:List (Int×Int)} {i:Int}:i∈tRows u v j xs↔ ∃x∈xs,x.1=i/\u.getD x.1.toNat 0+v.getD j 0=x.2:=by
 simp only[tRows,List.mem_map,List.mem_filter,decide_eq_true_eq];constructor
 . rintro ⟨x,⟨h1,h2⟩,h3⟩;exact⟨x,h1,h3,h2⟩
 . rintro ⟨x,h1,h3,h2⟩;exact⟨x,⟨h1,h2⟩,h3⟩
theorem qhs {u v:LI} {j:Nat} {xs:List (Int×Int)}:(tRows u v j xs).length<=xs.length:=by
 rw[tRows,List.length_map];exact List.length_filter_le ..
theorem qh6 {u v:LI} {j:Nat} {x:Int×Int} {xs:List (Int×Int)}:tRows u v j (x::xs)=if u.getD x.1.toNat 0+v.getD j 0=x.2 then x.1::tRows u v j xs else tRows u v j xs:=by
 unfold tRows;rw[List.filter_cons];split
 . rename_i h;rw[iP (of_decide_eq_true h)];rfl
 . rename_i h;rw[iN' (fun c=>h (decide_eq_true c))]
theorem qit {u v:LI} {j:Nat} {xs:List (Int×Int)} (h:xs.Pairwise fun x y=>x.1<y.1):(tRows u v j xs).Pairwise (· < ·):=by
 unfold tRows;exact List.pairwise_map.2 (List.Pairwise.filter _ h)
structure Tgt (N:Nat) (E:Edges) (u v:LI) (T:List LI):Prop where
 len:T.length=N
 col: ∀j,j<N->T.getD j []=tRows u v j (E.getD j [])
theorem Tgt.ok {N:Nat} {E:Edges} {u v:LI} {T:List LI} (hE:EOK N E) (h:Tgt N E u v T): ∀j,∀i∈T.getD j [],0<=i/\i<(N:Int)/\Te E u v j i.toNat:=by
 intro j i hi;by_cases hj:j<N
 . rw[h.col j hj]at hi;obtain⟨x,hx,rfl,e⟩:=qah.1 hi;have:=hE.row j x hx;exact⟨this.1,this.2,x,hx,O,e.symm⟩
 . rw[Qc (by rw[h.len];omega)]at hi;cases hi
theorem Tgt.lens {N:Nat} {E:Edges} {u v:LI} {T:List LI} (hE:EOK N E) (h:Tgt N E u v T): ∀j,(T.getD j []).length<=200:=by
 intro j;by_cases hj:j<N
 . rw[h.col j hj];have:=qhs (u:=u) (v:=v) (j:=j) (xs:=E.getD j []);have:=hE.lens j;omega
 . rw[Qc (by rw[h.len];omega)];simp
theorem Tgt.full {N:Nat} {E:Edges} {u v:LI} {T:List LI} (h:Tgt N E u v T): ∀j i,j<N->Te E u v j i->(i:Int)∈T.getD j []:=by
 intro j i hj ⟨x,hx,h1,h2⟩;rw[h.col j hj];exact qah.2 ⟨x,hx,h1,by rw[h1,tN];exact h2.symm⟩
theorem q1p (m:Nat) {N:Nat} {E:Edges} {u v row col:LI} {j:Nat} {E2:Edges} {a b:Int} (hE:EOK N E) (hul:u.length=N) (hvl:v.length=N) (hu: ∀i,-265733600<=u.getD i 0/\u.getD i 0<=265733600) (hv: ∀i,-265733600<=v.getD i 0/\v.getD i 0<=265733600) (hj:j<N):
 ∀(n k:Nat) (T:List LI),(E.getD j []).length-k<n->T.length=N->k<=(E.getD j []).length->(T.getD j []).length<=k->
 ∃T',g40L1 m n E u v row col T (j:Int) E2 a b (E.getD j []) ((E.getD j []).length:Int) (k:Int)=some (.inl ((E,u,v,row,col,()),T',E2,a,b,()))/\T'.length=N/\
  (∀j',j'≠j->T'.getD j' []=T.getD j' [])/\T'.getD j []=T.getD j []++tRows u v j ((E.getD j []).drop k)
 |0,k,T,h,_,_,_=>O
 |n+1,k,T,h,hl,hk0,hTk=>by
  have hlens:=hE.lens j;have hN:=hE.small;rw[g40L1];by_cases hk:k<(E.getD j []).length
  . have h1:((k:Int)<((E.getD j []).length:Int)):=O;have c1:(0:Int)<=(k:Int)/\(k:Int)<((E.getD j []).length:Int):=O;have hmem:(E.getD j []).getD k (0,0)∈E.getD j []:=X8 hk;have hr:=hE.row j _ hmem;have hw:=hE.wt j _ hmem;rw[drop_cons (d:=(0,0)) hk,qh6];simp only[bQ,h1,if_true,c1,and_self,tN,Nat.zero_add,wQ,wsucc (show k<4611686018427387904 by omega)]
    generalize (E.getD j []).getD k (0,0)=y at*
    have c2:(0:Int)<=y.1/\y.1<(u.length:Int):=O;have c3:(0:Int)<=(j:Int)/\(j:Int)<(v.length:Int):=O;have c4:(0:Int)<=(j:Int)/\(j:Int)<(T.length:Int):=O;have c5:(T.getD j []).length+([y.1]:LI).length<=1073741824:=by show(T.getD j []).length+1<=_;omega
    have w1:IntKind.wrap .i64 (u.getD y.1.toNat 0+v.getD j 0)=u.getD y.1.toNat 0+v.getD j 0:=by have:=hu y.1.toNat;have:=hv j;exact wi O O
    simp only[c2,c3,c4,c5,and_self,if_true,w1,bif_eq];by_cases ht:u.getD y.1.toNat 0+v.getD j 0=y.2
    . rw[iP ht,iP ht]
      have hset: ∀j',(T.set j (T.getD j []++[y.1])).getD j' []=if j'=j then T.getD j []++[y.1]else T.getD j' []:=fun j'=>by
       by_cases e:j=j'
       . subst e;rw[qp O,iP rfl]
       . rw[getD_set_ne e,iN' (Ne.symm e)]
      obtain⟨T',e,q1,q3,q4⟩:=q1p m (E2:=E2) (a:=a) (b:=b) (row:=row) (col:=col) hE hul hvl hu hv hj n (k+1) (T.set j (T.getD j []++[y.1])) O (by simp[hl]) O (by rw[hset,iP rfl,List.length_append];show(T.getD j []).length+1<=_;omega)
      refine⟨T',e,q1,fun j' hj'=> ?_,?_⟩
      . rw[q3 j' hj',hset,iN' hj']
      . rw[q4,hset,iP rfl,List.append_assoc];rfl
    . rw[iN' ht,iN' ht];exact q1p m hE hul hvl hu hv hj n (k+1) T O hl O O
  . have h1: ¬((k:Int)<((E.getD j []).length:Int)):=O;simp only[bQ,h1,if_false];exact⟨T,rfl,hl,fun _ _=>rfl,by rw[drop_nil' hk];simp[tRows]⟩
theorem q6b (m:Nat) {N:Nat} {E:Edges} {u v row col:LI} (hm:400<m) (hE:EOK N E) (hul:u.length=N) (hvl:v.length=N) (hu: ∀i,-265733600<=u.getD i 0/\u.getD i 0<=265733600) (hv: ∀i,-265733600<=v.getD i 0/\v.getD i 0<=265733600):
 ∀(n j:Nat) (T:List LI),N-j<n->T.length=N->(∀j',j'<j->j'<N->T.getD j' []=tRows u v j' (E.getD j' []))->(∀j',j<=j'->T.getD j' []=[])->
 ∃T',g40L0 m n E u v row col T E (N:Int) (j:Int)=some (.inl ((E,u,v,row,col,()),T',()))/\Tgt N E u v T'
 |0,j,T,h,_,_,_=>O
 |n+1,j,T,h,hl,hT,he=>by
  have hEl:=hE.len;have hN:=hE.small;rw[g40L0];by_cases hj:j<N
  . have h1:((j:Int)<(N:Int)):=O;have c1:(0:Int)<=(j:Int)/\(j:Int)<(E.length:Int):=O;obtain⟨T',e,q1,q3,q4⟩:=q1p m (E2:=E) (a:=(N:Int)) (b:=(j:Int)) (row:=row) (col:=col) hE hul hvl hu hv hj m 0 T (by have:=hE.lens j;omega) hl O (by rw[he j (Nat.le_refl _)];simp)
    rw[nZ]at e;simp only[bQ,h1,if_true,c1,and_self,tN,e,bS,wQ,wsucc (show j<4611686018427387904 by omega)]
    refine q6b m hm hE hul hvl hu hv n (j+1) T' O q1 (fun j' hj' hjN=> ?_) fun j' hj'=> ?_
    . by_cases ej:j'=j
      . subst ej;rw[q4,he _ (Nat.le_refl _),List.drop_zero,List.nil_append]
      . rw[q3 j' ej];exact hT j' O hjN
    . rw[q3 j' O];exact he j' O
  . have h1: ¬((j:Int)<(N:Int)):=O;simp only[bQ,h1,if_false];exact⟨T,rfl,hl,fun j' hj'=>hT j' O hj'⟩
theorem q7j: ∀{mk:List Bool} {i:Nat},i<mk.length->mk.getD i false=false->(mk.set i true).count false+1=mk.count false
 |[],i,h,_=>by simp at h
 |b::mk,0,_,h=>by
  have:b=false:=h;subst this;simp
 |b::mk,i+1,h,h0=>by
  have:=q7j (mk:=mk) (i:=i) (by simpa using h) h0
  simp only[List.set_cons_succ,List.count_cons];omega
structure Mv (N:Nat) (Pt:Nat->Nat->Prop) (row col:LI) (c j:Nat) (mk:List Bool) (ok:Bool) (row' col':LI) (mk':List Bool):Prop where
 ml:mk'.length=N
 mono: ∀i,mk.getD i false=true->mk'.getD i false=true
 cnt:mk'.count false<=mk.count false
 no:ok=false->row'=row/\col'=col
 yes:ok=true->PM N (row'.set j (row.getD c 0)) (col'.set (row.getD c 0).toNat (j:Int))/\(∀k,k<N->k≠j->Pt k (row'.getD k 0).toNat)/\
  (∀k,k<N->k≠c->k≠j->mk.getD (row.getD k 0).toNat false=true->row'.getD k 0=row.getD k 0)/\ ∀k,k<j->row'.getD k 0=row.getD k 0
def Okr (row col:LI) (j:Nat) (mk:List Bool) (i:Int):Prop:=mk.getD i.toNat false=true\/(i≠row.getD j 0/\col.getD i.toNat 0<=(j:Int))
def ClC (T:List LI) (row col:LI) (j:Nat) (mk:List Bool) (c:Nat):Prop:= ∀i∈T.getD c [],Okr row col j mk i
def Nw (N:Nat) (T:List LI) (row col:LI) (j:Nat) (mk mk':List Bool):Prop:=
 ∀i,i<N->mk'.getD i false=true->mk.getD i false=false->(i:Int)≠row.getD j 0/\(j:Int)<col.getD i 0/\ClC T row col j mk' (col.getD i 0).toNat
theorem Okr.mono {row col:LI} {j:Nat} {mk mk':List Bool} {i:Int} (h:Okr row col j mk i) (hm: ∀i,mk.getD i false=true->mk'.getD i false=true):Okr row col j mk' i:=h.imp (hm _) id
theorem ClC.mono {T:List LI} {row col:LI} {j:Nat} {mk mk':List Bool} {c:Nat} (h:ClC T row col j mk c) (hm: ∀i,mk.getD i false=true->mk'.getD i false=true):ClC T row col j mk' c:=fun i hi=>(h i hi).mono hm
theorem Nw.refl {N:Nat} {T:List LI} {row col:LI} {j:Nat} {mk:List Bool}:Nw N T row col j mk mk:=fun i _ h1 h2=>by rw[h1]at h2;cases h2
theorem Nw.trans {N:Nat} {T:List LI} {row col:LI} {j:Nat} {mk mk1 mk2:List Bool} (h:Nw N T row col j mk mk1) (h2:Nw N T row col j mk1 mk2) (hm: ∀i,mk1.getD i false=true->mk2.getD i false=true):Nw N T row col j mk mk2:=fun i hi a b=>by
 rcases Bool.eq_false_or_eq_true (mk1.getD i false)with c|c
 . obtain⟨x,y,z⟩:=h i hi c b;exact⟨x,y,z.mono hm⟩
 . exact h2 i hi a c
theorem q7k (self:(List (List (Int×Int)))->LI->LI->LI->LI->List LI->Int->Int->Int->List Bool->Option (Bool×((List (List (Int×Int)))×LI×LI×LI×LI×Unit)×Unit×Unit×Unit×Unit×List Bool×Unit))
 (m:Nat) {N:Nat} {E:Edges} {u v row col:LI} {T:List LI} {c j K:Nat} {Pt:Nat->Nat->Prop} (hP:PM N row col) (hT: ∀j,∀i∈T.getD j [],0<=i/\i<(N:Int)/\Pt j i.toNat) (hTl:T.length=N)
 (hlens: ∀j,(T.getD j []).length<=200) (ht: ∀k,k<N->Pt k (row.getD k 0).toNat) (hj:j<N) (hc:c<N) (hcj':j<c)
 (hself: ∀(c':Nat) (mk:List Bool),c'<N->j<c'->mk.length=N->mk.getD (row.getD c' 0).toNat false=true->mk.count false<K->
   ∃ok row' col' mk',self E u v row col T (c':Int) (j:Int) (row.getD j 0) mk=some (ok,((E,u,v,row',col',()),(),(),(),(),mk',()))/\Mv N Pt row col c' j mk ok row' col' mk'/\
    (ok=false->Nw N T row col j mk mk'/\ClC T row col j mk' c')):
 ∀(n k:Nat) (mk:List Bool),(T.getD c []).length-k<n->mk.length=N->mk.getD (row.getD c 0).toNat false=true->mk.count false<=K->
 (∃row' col' mk',g89L0 self m n E u v row col T (c:Int) (j:Int) (row.getD j 0) mk (T.getD c []) ((T.getD c []).length:Int) (k:Int)=
   some (.inl ((E,u,v,row',col',()),mk',true,()))/\Mv N Pt row col c j mk true row' col' mk')\/
 (∃mk',g89L0 self m n E u v row col T (c:Int) (j:Int) (row.getD j 0) mk (T.getD c []) ((T.getD c []).length:Int) (k:Int)=
   some (.inr (.inl ((E,u,v,row,col,()),mk',())))/\Mv N Pt row col c j mk false row col mk'/\Nw N T row col j mk mk'/\ ∀t,k<=t->t<(T.getD c []).length->Okr row col j mk' ((T.getD c []).getD t 0))
 |0,k,mk,h,_,_,_=>O
 |n+1,k,mk,h,hml,hmc,hcnt=>by
  have hcj:c≠j:=O;rw[g89L0];have hlc:=hlens c;by_cases hk:k<(T.getD c []).length
  . have h1:((k:Int)<((T.getD c []).length:Int)):=O;have c1:(0:Int)<=(k:Int)/\(k:Int)<((T.getD c []).length:Int):=O;have hmem:(T.getD c []).getD k 0∈T.getD c []:=X8 hk;obtain⟨t1,t2,t3⟩:=hT c _ hmem;have ih:=q7k self m hP hT hTl hlens ht hj hc hcj' hself n (k+1);simp only[bQ,h1,if_true,c1,and_self,tN,Nat.zero_add,wQ,wsucc (show k<4611686018427387904 by omega)]
    obtain⟨i,hi⟩: ∃i:Nat,(T.getD c []).getD k 0=(i:Int):=⟨_,(Int.toNat_of_nonneg t1).symm⟩
    have hOk: ∀mk',Okr row col j mk' (i:Int)->(∀t,k+1<=t->t<(T.getD c []).length->Okr row col j mk' ((T.getD c []).getD t 0))-> ∀t,k<=t->t<(T.getD c []).length->Okr row col j mk' ((T.getD c []).getD t 0):=fun mk' a b t h1 h2=>by
     by_cases e:t=k
     . subst e;rw[hi];exact a
     . exact b t O h2
    rw[hi]at t1 t2 t3⊢;simp only[tN]at t3⊢;have hiN:i<N:=O;have c2:(0:Int)<=(i:Int)/\(i:Int)<(mk.length:Int):=O;have c3:(0:Int)<=(i:Int)/\(i:Int)<(col.length:Int):=by have:=hP.cl;omega
    have c4:(0:Int)<=(c:Int)/\(c:Int)<(row.length:Int):=by have:=hP.rl;omega
    have skip: ∀mk2:List Bool,mk2.length=N->(∀i,mk.getD i false=true->mk2.getD i false=true)->mk2.count false<=mk.count false->Nw N T row col j mk mk2->Okr row col j mk2 (i:Int)->
     (∃row' col' mk',g89L0 self m n E u v row col T (c:Int) (j:Int) (row.getD j 0) mk2 (T.getD c []) ((T.getD c []).length:Int) ((k+1:Nat):Int)=
       some (.inl ((E,u,v,row',col',()),mk',true,()))/\Mv N Pt row col c j mk true row' col' mk')\/
     (∃mk',g89L0 self m n E u v row col T (c:Int) (j:Int) (row.getD j 0) mk2 (T.getD c []) ((T.getD c []).length:Int) ((k+1:Nat):Int)=
       some (.inr (.inl ((E,u,v,row,col,()),mk',())))/\Mv N Pt row col c j mk false row col mk'/\Nw N T row col j mk mk'/\ ∀t,k<=t->t<(T.getD c []).length->Okr row col j mk' ((T.getD c []).getD t 0)):=by
     intro mk2 hl2 hmono hc2 hnw hok;rcases ih mk2 O hl2 (hmono _ hmc) O with⟨row',col',mk',e,W⟩|⟨mk',e,W,W2,W3⟩
     . exact .inl ⟨row',col',mk',e,W.ml,fun i h=>W.mono i (hmono i h),by have:=W.cnt;omega,W.no,fun h=>⟨(W.yes h).1,(W.yes h).2.1,fun k a b d f=>(W.yes h).2.2.1 k a b d (hmono _ f),(W.yes h).2.2.2⟩⟩
     . exact .inr ⟨mk',e,⟨W.ml,fun i h=>W.mono i (hmono i h),by have:=W.cnt;omega,W.no,fun h=>by cases h⟩,hnw.trans W2 W.mono,hOk mk' (hok.mono W.mono) W3⟩
    simp only[c2,c3,c4,and_self,if_true];rcases Bool.eq_false_or_eq_true (mk.getD i false)with hmi|hmi
    . simp only[hmi,cond_true];exact skip mk hml (fun _ h=>h) (Nat.le_refl _) Nw.refl (.inl (by rw[tN];exact hmi))
    . simp only[hmi,cond_false,bif_ne,bif_eq];have hcs:=q7j (mk:=mk) (i:=i) O hmi
      have hms: ∀x,mk.getD x false=true->(mk.set i true).getD x false=true:=fun x hx=>by
       rw[Q8 O];split
       . rfl
       . exact hx
      obtain⟨rc1,rc2,rc3⟩:=hP.r c hc
      have hic:(i:Int)≠row.getD c 0:=fun e=>by
       rw[<-e,tN,hmi]at hmc;cases hmc
      by_cases hf:(i:Int)=row.getD j 0
      . simp only[iP hf];refine .inl ⟨_,_,_,rfl,by simp[hml],hms,O,(fun h=>by cases h),fun _=> ?_⟩
        have S:=hP.swap hc hj hcj;rw[<-hf,tN]at S;refine⟨S,fun k' hk' hkj=> ?_,fun k' hk' hkc hkj _=> ?_,fun k' hk'=> ?_⟩
        . rw[Q8 (by rw[hP.rl];exact hc)]
          split
          . rename_i e;rw[e,tN];exact t3
          . exact ht k' hk'
        . rw[Q8 (by rw[hP.rl];exact hc),iN' hkc]
        . rw[Q8 (by rw[hP.rl];exact hc),iN' O]
      . simp only[iN' hf];obtain⟨i1,i2,i3⟩:=hP.c i hiN;by_cases hle:col.getD i 0<=(j:Int)
        . simp only[iP hle];exact skip mk hml (fun _ h=>h) (Nat.le_refl _) Nw.refl (.inr ⟨hf,by rw[tN];exact hle⟩)
        . simp only[iN' hle];obtain⟨c',hc'⟩: ∃c':Nat,col.getD i 0=(c':Int):=⟨_,(Int.toNat_of_nonneg i1).symm⟩;have hle0:=hle;have hcol:=hc';rw[hc']at i1 i2 i3 hle⊢;rw[tN]at i3;obtain⟨ok,row',col',mk',e,W,WF⟩:=hself c' (mk.set i true) O O (by simp[hml]) (by rw[i3,tN,qp O]) O
          rw[e];simp only[bS];cases ok with
          |false=>
           simp only[cond_false];obtain⟨e1,e2⟩:=W.no rfl;subst e1;subst e2;obtain⟨F1,F2⟩:=WF rfl;refine skip mk' W.ml (fun x hx=>W.mono x (hms x hx)) (by have:=W.cnt;omega) (fun x hx a b=> ?_) (.inl (by rw[tN];exact W.mono i (qp O)))
           by_cases ex:x=i
           . subst ex;exact⟨hf,O,by rw[hcol,tN];exact F2⟩
           . exact F1 x hx a (by rw[getD_set_ne (Ne.symm ex)];exact b)
          |true=>
           simp only[cond_true];obtain⟨Y1,Y2,Y3,Y4⟩:=W.yes rfl;rw[i3,tN]at Y1;have hrl:row'.length=N:=by have:=Y1.rl;simpa using this
           have hcl:col'.length=N:=by have:=Y1.cl;simpa using this
           have c5:(0:Int)<=(c:Int)/\(c:Int)<(row'.length:Int):=O;have c6:(0:Int)<=(i:Int)/\(i:Int)<(col'.length:Int):=O;simp only[c5,c6,and_self,if_true]
           have hcc':c≠c':=fun q=>by
            rw[<-q]at i3;exact hic i3.symm
           have hrc:row'.getD c 0=row.getD c 0:=Y3 c hc hcc' hcj (hms _ hmc);refine .inl ⟨_,_,_,rfl,W.ml,fun x hx=>W.mono x (hms x hx),by have:=W.cnt;omega,(fun h=>by cases h),fun _=> ?_⟩
           have S:=Y1.swap hc hj hcj;have e1:(row'.set j (i:Int)).getD j 0=(i:Int):=qp O;have e2:(row'.set j (i:Int)).getD c 0=row.getD c 0:=by rw[getD_set_ne (Ne.symm hcj),hrc]
           rw[e1,e2,tN]at S
           have e3:((row'.set j (i:Int)).set c (i:Int)).set j (row.getD c 0)=(row'.set c (i:Int)).set j (row.getD c 0):=by
            rw[List.set_comm _ _ (Ne.symm hcj),List.set_set]
           have e4:((col'.set i (j:Int)).set i (c:Int))=col'.set i (c:Int):=List.set_set ..;rw[e3,e4]at S;refine⟨S,fun k' hk' hkj=> ?_,fun k' hk' hkc hkj hmk=> ?_,fun k' hk'=> ?_⟩
           . rw[Q8 O];split
             . rename_i q;rw[q,tN];exact t3
             . exact Y2 k' hk' hkj
           . rw[Q8 O,iN' hkc];refine Y3 k' hk' ?_ hkj (hms _ hmk);intro q;rw[q,i3,tN,hmi]at hmk;cases hmk
           . rw[Q8 O,iN' O];exact Y4 k' hk'
  . have h1: ¬((k:Int)<((T.getD c []).length:Int)):=O;simp only[bQ,h1,if_false];exact .inr ⟨mk,rfl,⟨hml,fun _ h=>h,Nat.le_refl _,fun _=>⟨rfl,rfl⟩,fun h=>by cases h⟩,Nw.refl,fun t a b=>absurd b O⟩
theorem qie {N:Nat} {E:Edges} {u v row col:LI} {T:List LI} {j:Nat} {Pt:Nat->Nat->Prop} (hP:PM N row col) (hT: ∀j,∀i∈T.getD j [],0<=i/\i<(N:Int)/\Pt j i.toNat) (hTl:T.length=N)
 (hlens: ∀j,(T.getD j []).length<=200) (ht: ∀k,k<N->Pt k (row.getD k 0).toNat) (hj:j<N): ∀(M c:Nat) (mk:List Bool),mk.count false+300<M->c<N->j<c->mk.length=N->mk.getD (row.getD c 0).toNat false=true->
   ∃ok row' col' mk',g89 M E u v row col T (c:Int) (j:Int) (row.getD j 0) mk=some (ok,((E,u,v,row',col',()),(),(),(),(),mk',()))/\Mv N Pt row col c j mk ok row' col' mk'/\
    (ok=false->Nw N T row col j mk mk'/\ClC T row col j mk' c)
 |0,c,mk,h,_,_,_,_=>O
 |M+1,c,mk,h,hc,hcj,hml,hmc=>by
  rw[g89];have c1:(0:Int)<=(c:Int)/\(c:Int)<(T.length:Int):=O;simp only[c1,and_self,if_true,tN];have hlc:=hlens c
  rcases q7k (fun a0 a1 a2 a3 a4 a5 a6 a7 a8 a9=>g89 M a0 a1 a2 a3 a4 a5 a6 a7 a8 a9) M (E:=E) (u:=u) (v:=v) (K:=mk.count false) hP hT hTl hlens ht hj hc hcj
   (fun c' mk2 q1 q2 q3 q4 q5=>qie hP hT hTl hlens ht hj M c' mk2 O q1 q2 q3 q4) M 0 mk O hml hmc (Nat.le_refl _)with⟨row',col',mk',e,W⟩|⟨mk',e,W,W2,W3⟩
  . rw[nZ]at e;rw[e];exact⟨_,_,_,_,rfl,W,fun h=>by cases h⟩
  . rw[nZ]at e;rw[e];refine⟨_,_,_,_,rfl,W,fun _=>⟨W2,fun i hi=> ?_⟩⟩
    obtain⟨t,h1,h2⟩:=List.getElem_of_mem hi;have:=W3 t (Nat.zero_le _) h1
    rwa [List.getD,List.getElem?_eq_getElem h1,Option.getD_some,h2]at this
theorem qnj {N:Nat} {row col:LI} {T:List LI} {j i0:Nat} {mk:List Bool} {Pt:Nat->Nat->Prop} (hP:PM N row col) (hfull: ∀k i,k<N->Pt k i->(i:Int)∈T.getD k []) (hj:j<N) (hi0:i0<N) (hmi:mk.getD i0 false=true)
 (hall: ∀i,i<N->mk.getD i false=true->(i:Int)≠row.getD j 0/\(j:Int)<col.getD i 0/\ClC T row col j mk (col.getD i 0).toNat)
 {s:Nat->Nat} (hs: ∀k,k<N->s k<N/\Pt k (s k)) (hinj: ∀a b,a<N->b<N->s a=s b->a=b) (hag: ∀k,k<j->(s k:Int)=row.getD k 0) (hsj:s j=i0):False:=by
 have hC: ∀i∈(List.range N).filter (fun i=>mk.getD i false),i<N/\mk.getD i false=true:=fun i hi=>by
  rw[List.mem_filter,List.mem_range]at hi;exact hi
 have hcol: ∀i,i<N->(col.getD i 0).toNat<N/\row.getD (col.getD i 0).toNat 0=(i:Int):=fun i hi=>by
  have:=hP.c i hi;exact⟨O,this.2.2⟩
 have hnd1:(((List.range N).filter fun i=>mk.getD i false).map fun i=>(col.getD i 0).toNat).Nodup:=Xu (fun a ha b hb e=>by
  have h1:=(hcol a (hC a ha).1).2;have h2:=(hcol b (hC b hb).1).2;rw[e,h2]at h1;omega) (List.Pairwise.filter _ List.nodup_range)
 have hnd:((j::((List.range N).filter fun i=>mk.getD i false).map fun i=>(col.getD i 0).toNat).map s).Nodup:=Xu (fun a ha b hb e=>by
  have hlt: ∀x∈j::((List.range N).filter fun i=>mk.getD i false).map fun i=>(col.getD i 0).toNat,x<N:=fun x hx=>by
   rcases mC hx with rfl|hx
   . exact hj
   . obtain⟨i,hi,rfl⟩:=List.mem_map.1 hx;exact(hcol i (hC i hi).1).1
  exact hinj a b (hlt a ha) (hlt b hb) e) (List.nodup_cons.2 ⟨fun hm=>by
   obtain⟨i,hi,e⟩:=List.mem_map.1 hm;have:=(hall i (hC i hi).1 (hC i hi).2).2.1;omega,hnd1⟩)
 have:=Z9 hnd (l':=(List.range N).filter fun i=>mk.getD i false) (fun x hx=>by
  obtain⟨k,hk,rfl⟩:=List.mem_map.1 hx;rcases mC hk with rfl|hk
  . rw[hsj,List.mem_filter,List.mem_range];exact⟨hi0,hmi⟩
  . obtain⟨i,hi,rfl⟩:=List.mem_map.1 hk;obtain⟨a1,a2,a3⟩:=hall i (hC i hi).1 (hC i hi).2;obtain⟨b1,b2⟩:=hcol i (hC i hi).1;obtain⟨s1,s2⟩:=hs _ b1;rw[List.mem_filter,List.mem_range];refine⟨s1,?_⟩;rcases a3 _ (hfull _ _ b1 s2)with h|⟨h1,h2⟩
    . rwa [tN]at h
    . exfalso;rw[tN]at h2;have hc:=hP.c _ s1;by_cases e:col.getD (s (col.getD i 0).toNat) 0=(j:Int)
      . rw[e,tN]at hc;exact h1 hc.2.2.symm
      . have hk0:(col.getD (s (col.getD i 0).toNat) 0).toNat<j:=O;have:=hag _ hk0;rw[hc.2.2]at this;have:=hinj _ _ O b1 (show s (col.getD (s (col.getD i 0).toNat) 0).toNat=s (col.getD i 0).toNat by omega)
        omega)
 simp only[List.length_map,List.length_cons]at this;omega
structure Ag (N:Nat) (Pt:Nat->Nat->Prop) (s:Nat->Nat):Prop where
 ok: ∀k,k<N->s k<N/\Pt k (s k)
 inj: ∀a b,a<N->b<N->s a=s b->a=b
theorem PM.ag {N:Nat} {row col:LI} {Pt:Nat->Nat->Prop} (hP:PM N row col) (ht: ∀k,k<N->Pt k (row.getD k 0).toNat):Ag N Pt fun k=>(row.getD k 0).toNat:=
 ⟨fun k hk=>⟨by have:=hP.r k hk;omega,ht k hk⟩,fun a b ha hb e=>hP.inj ha hb (by have:=hP.r a ha;have:=hP.r b hb;omega)⟩
theorem q9z {α:Type} {l:List α} {t:Nat} (h:t<l.length) {x d:α} (e:l[t]=x):l.getD t d=x:=by
 rw[List.getD,List.getElem?_eq_getElem h,Option.getD_some,e]
theorem qlq {l:LI} (h:l.Pairwise (· < ·)) {a b:Nat} (hab:a<b) (hb:b<l.length):l.getD a 0<l.getD b 0:=by
 have:=List.pairwise_iff_getElem.1 h a b O hb hab
 rwa [List.getD,List.getD,List.getElem?_eq_getElem (show a<l.length by omega),List.getElem?_eq_getElem hb]
theorem q6k (m:Nat) {N:Nat} {E:Edges} {u v row col:LI} {T:List LI} {j:Nat} {Pt:Nat->Nat->Prop} {a b:Int} (hm:1000<m) (hN:N<=200) (hP:PM N row col)
 (hT: ∀j,∀i∈T.getD j [],0<=i/\i<(N:Int)/\Pt j i.toNat) (hTl:T.length=N) (hlens: ∀j,(T.getD j []).length<=200) (ht: ∀k,k<N->Pt k (row.getD k 0).toNat) (hj:j<N)
 (hfull: ∀k i,k<N->Pt k i->(i:Int)∈T.getD k []) (hasc: ∀k,k<N->(T.getD k []).Pairwise (· < ·)):
 ∀(n k:Nat),(T.getD j []).length-k<n->(∀t,t<k->t<(T.getD j []).length-> ∀s,Ag N Pt s->(∀k,k<j->(s k:Int)=row.getD k 0)->(s j:Int)≠(T.getD j []).getD t 0)->
 ∃row' col',g40L3 m n E u v row col T (j:Int) a b (T.getD j []) ((T.getD j []).length:Int) (k:Int)=some (.inl ((E,u,v,row',col',()),T,a,b,()))/\PM N row' col'/\
  (∀k,k<N->Pt k (row'.getD k 0).toNat)/\(∀k,k<j->row'.getD k 0=row.getD k 0)/\ ∀s,Ag N Pt s->(∀k,k<j->(s k:Int)=row.getD k 0)->row'.getD j 0<=(s j:Int)
 |0,k,h,_=>O
 |n+1,k,h,hex=>by
  rw[g40L3];have hlc:=hlens j
  have hmin: ∀x:Int,k<(T.getD j []).length->(T.getD j []).getD k 0=x-> ∀s,Ag N Pt s->(∀k,k<j->(s k:Int)=row.getD k 0)->x<=(s j:Int):=by
   intro x hk hx s hs hag;obtain⟨t,ht1,ht2⟩:=List.getElem_of_mem (hfull j (s j) hj (hs.ok j hj).2);have e:(T.getD j []).getD t 0=(s j:Int):=by rw[List.getD,List.getElem?_eq_getElem ht1,Option.getD_some,ht2]
   by_cases htk:t<k
   . exact absurd e.symm (hex t htk ht1 s hs hag)
   . rw[<-hx,<-e];by_cases e2:t=k
     . subst e2;exact Int.le_refl _
     . exact Int.le_of_lt (qlq (hasc j hj) O ht1)
  by_cases hk:k<(T.getD j []).length
  . have h1:((k:Int)<((T.getD j []).length:Int)):=O;have c1:(0:Int)<=(k:Int)/\(k:Int)<((T.getD j []).length:Int):=O;have hmem:(T.getD j []).getD k 0∈T.getD j []:=X8 hk;obtain⟨t1,t2,t3⟩:=hT j _ hmem;have ih:=fun hx=>q6k m (E:=E) (u:=u) (v:=v) (a:=a) (b:=b) hm hN hP hT hTl hlens ht hj hfull hasc n (k+1) O hx
    simp only[bQ,h1,if_true,c1,and_self,tN,Nat.zero_add,wQ,wsucc (show k<4611686018427387904 by omega)]
    obtain⟨i,hi⟩: ∃i:Nat,(T.getD j []).getD k 0=(i:Int):=⟨_,(Int.toNat_of_nonneg t1).symm⟩
    have hnext:(∀s,Ag N Pt s->(∀k,k<j->(s k:Int)=row.getD k 0)->(s j:Int)≠(i:Int))->(∀t,t<k+1->t<(T.getD j []).length-> ∀s,Ag N Pt s->(∀k,k<j->(s k:Int)=row.getD k 0)->(s j:Int)≠(T.getD j []).getD t 0):=fun hx t h1 h2=>by
     by_cases e:t=k
     . subst e;rw[hi];exact hx
     . exact hex t O h2
    have hmi:=hmin (i:Int) hk hi;rw[hi]at t1 t2 t3⊢;simp only[tN]at t3⊢;have hiN:i<N:=O;have c2:(0:Int)<=(j:Int)/\(j:Int)<(row.length:Int):=by have:=hP.rl;omega
    have c3:(0:Int)<=(i:Int)/\(i:Int)<(col.length:Int):=by have:=hP.cl;omega
    have c4:(0:Int)<=(T.length:Int)/\(T.length:Int)<=(T.length:Int)/\(T.length:Int)<=1073741824:=O;have c5:(0:Int)<=(i:Int)/\(i:Int)<((List.replicate T.length false).length:Int):=by rw[List.length_replicate];omega
    simp only[c2,c3,c4,c5,and_self,if_true,bif_eq];obtain⟨i1,i2,i3⟩:=hP.c i hiN;by_cases he:(i:Int)=row.getD j 0
    . rw[iP he];exact⟨row,col,rfl,hP,ht,fun _ _=>rfl,by rw[<-he];exact hmi⟩
    . rw[iN' he];by_cases hl:col.getD i 0<(j:Int)
      . rw[iP hl];refine ih (hnext fun s hs hag e=> ?_)
        have h1:=hag (col.getD i 0).toNat O;rw[i3]at h1;have:=hs.inj (col.getD i 0).toNat j O hj O;omega
      . rw[iN' hl];obtain⟨c,hc⟩: ∃c:Nat,col.getD i 0=(c:Int):=⟨_,(Int.toNat_of_nonneg i1).symm⟩;have hcol:=hc;rw[hc]at i1 i2 i3 hl⊢;rw[tN]at i3;have hcj:c≠j:=fun q=>by rw[q]at i3;exact he i3.symm
        have hcnt:((List.replicate T.length false).set i true).count false+300<m:=by
         have:=List.count_le_length (a:=false) (l:=(List.replicate T.length false).set i true);rw[List.length_set,List.length_replicate]at this;omega
        obtain⟨ok,row',col',mk',e,W,WF⟩:=qie (E:=E) (u:=u) (v:=v) hP hT hTl hlens ht hj m c ((List.replicate T.length false).set i true) hcnt O O (by rw[List.length_set,List.length_replicate,hTl])
         (by rw[i3,tN,qp (by rw[List.length_replicate];omega)])
        rw[e];simp only[bS];cases ok with
        |false=>
         simp only[cond_false];obtain⟨e1,e2⟩:=W.no rfl;subst e1;subst e2;obtain⟨F1,F2⟩:=WF rfl;refine ih (hnext fun s hs hag e=> ?_)
         refine qnj hP hfull hj hiN (W.mono i (qp (by rw[List.length_replicate];omega))) (fun x hx hmx=> ?_) hs.ok hs.inj hag (Int.ofNat.inj e)
         by_cases ex:x=i
         . subst ex;exact⟨he,O,by rw[hcol,tN];exact F2⟩
         . exact F1 x hx hmx (by rw[getD_set_ne (Ne.symm ex),qo O])
        |true=>
         simp only[cond_true];obtain⟨Y1,Y2,_,Y4⟩:=W.yes rfl;rw[i3,tN]at Y1;have hrl:row'.length=N:=by have:=Y1.rl;simpa using this
         have hcl:col'.length=N:=by have:=Y1.cl;simpa using this
         have c6:(0:Int)<=(j:Int)/\(j:Int)<(row'.length:Int):=O;have c7:(0:Int)<=(i:Int)/\(i:Int)<(col'.length:Int):=O;simp only[c6,c7,and_self,if_true];refine⟨_,_,rfl,Y1,fun k' hk'=> ?_,fun k' hk'=> ?_,?_⟩
         . rw[Q8 O];split
           . rename_i q;rw[q,tN];exact t3
           . rename_i q;exact Y2 k' hk' q
         . rw[Q8 O,iN' O];exact Y4 k' hk'
         . rw[Q8 O,iP rfl];exact hmi
  . exfalso;have hr:=hP.r j hj;obtain⟨t,ht1,ht2⟩:=List.getElem_of_mem (hfull j _ hj (ht j hj));refine hex t O ht1 _ (hP.ag ht) (fun k' hk'=> ?_) ?_
    . have:=hP.r k' O;show((row.getD k' 0).toNat:Int)=row.getD k' 0;omega
    . exact(q9z ht1 ht2).symm
def Lx (N:Nat) (Pt:Nat->Nat->Prop) (row:LI) (j:Nat):Prop:= ∀j',j'<j->j'<N-> ∀s,Ag N Pt s->(∀k,k<j'->(s k:Int)=row.getD k 0)->row.getD j' 0<=(s j':Int)
theorem q5b (m:Nat) {N:Nat} {E:Edges} {u v:LI} {T:List LI} {Pt:Nat->Nat->Prop} (hm:1000<m) (hN:N<=200)
 (hT: ∀j,∀i∈T.getD j [],0<=i/\i<(N:Int)/\Pt j i.toNat) (hTl:T.length=N) (hlens: ∀j,(T.getD j []).length<=200)
 (hfull: ∀k i,k<N->Pt k i->(i:Int)∈T.getD k []) (hasc: ∀k,k<N->(T.getD k []).Pairwise (· < ·)):
 ∀(n j:Nat) (row col:LI),N-j<n->PM N row col->(∀k,k<N->Pt k (row.getD k 0).toNat)->Lx N Pt row j->
 ∃row' col',g40L2 m n E u v row col T (N:Int) (j:Int)=some (.inl ((E,u,v,row',col',()),()))/\PM N row' col'/\(∀k,k<N->Pt k (row'.getD k 0).toNat)/\Lx N Pt row' N
 |0,j,row,col,h,_,_,_=>O
 |n+1,j,row,col,h,hP,ht,hL=>by
  rw[g40L2];by_cases hj:j<N
  . have h1:((j:Int)<(N:Int)):=O;have c1:(0:Int)<=(j:Int)/\(j:Int)<(T.length:Int):=O;obtain⟨row',col',e,g1,g2,g3,g4⟩:=q6k m (E:=E) (u:=u) (v:=v) (a:=(N:Int)) (b:=(j:Int)) hm hN hP hT hTl hlens ht hj hfull hasc m 0 (by have:=hlens j;omega) (fun t h=>absurd h (Nat.not_lt_zero _))
    rw[nZ]at e;simp only[bQ,h1,if_true,c1,and_self,tN,e,bS,wQ,wsucc (show j<4611686018427387904 by omega)]
    refine q5b m hm hN hT hTl hlens hfull hasc n (j+1) row' col' O g1 g2 fun j' hj' hjN s hs hag=> ?_
    by_cases e:j'=j
    . subst e;exact g4 s hs fun k hk=>by rw[hag k hk,g3 k hk]
    . rw[g3 j' O];exact hL j' O hjN s hs fun k hk=>by rw[hag k hk,g3 k O]
  . have h1: ¬((j:Int)<(N:Int)):=O;simp only[bQ,h1,if_false];exact⟨row,col,rfl,hP,ht,fun j' hj' hjN=>hL j' O hjN⟩
theorem Bst.pm {N:Nat} {E:Edges} {u v row col:LI} (h:Bst N E u v row col):PM N row col:=by
 have hr: ∀j,j<N->0<=row.getD j 0/\row.getD j 0<(N:Int)/\col.getD (row.getD j 0).toNat 0=(j:Int):=fun j hj=>(h.mt.rok j hj).resolve_left (h.full j hj)
 refine⟨h.mt.rl,h.mt.cl,hr,fun i hi=>(h.mt.cok i hi).resolve_left fun hc=> ?_⟩
 have hnd:((List.range N).map fun j=>(row.getD j 0).toNat).Nodup:=Xu (fun a ha b hb e=>by
  have h1:=hr a (List.mem_range.1 ha);have h2:=hr b (List.mem_range.1 hb);rw[show row.getD a 0=row.getD b 0 by omega,h2.2.2]at h1;omega) List.nodup_range
 have:=Z9 (l:=i::(List.range N).map fun j=>(row.getD j 0).toNat) (l':=List.range N) (List.nodup_cons.2 ⟨fun hm=>by
  obtain⟨j,hj,e⟩:=List.mem_map.1 hm;have h1:=hr j (List.mem_range.1 hj);rw[e,hc]at h1;omega,hnd⟩) (fun x hx=>by
  rcases mC hx with rfl|hx
  . exact List.mem_range.2 hi
  . obtain⟨j,hj,rfl⟩:=List.mem_map.1 hx;have h1:=hr j (List.mem_range.1 hj);exact List.mem_range.2 O)
 simp at this;omega
theorem qkx (m:Nat) {N:Nat} {E:Edges} {u v row col:LI} (hm:1000<m) (hE:EOK N E) (hA: ∀j,j<N->(E.getD j []).Pairwise fun x y=>x.1<y.1) (h:Bst N E u v row col):
 ∃row' col',g40 m E u v row col=some ((),((E,u,v,row',col',()),()))/\PM N row' col'/\(∀k,k<N->Te E u v k (row'.getD k 0).toNat)/\Lx N (Te E u v) row' N:=by
 have hN:=hE.small;have c1:(0:Int)<=(N:Int)/\(N:Int)<=(N:Int)/\(N:Int)<=1073741824:=O;rw[g40,hE.len]
 obtain⟨T,e,hT⟩:=q6b m (row:=row) (col:=col) O hE h.mt.ul h.mt.vl h.ub h.vb m 0 (List.replicate N ([]:LI)) O (by simp) (fun j hj=>absurd hj (Nat.not_lt_zero _)) (fun j _=>by
  by_cases hj:j<N
  . rw[qo hj]
  . rw[Qc (by simpa using hj)])
 rw[nZ]at e
 have ht: ∀k,k<N->Te E u v k (row.getD k 0).toNat:=fun k hk=>by
  obtain⟨x,hx,h1,h2⟩:=h.mt.tight k hk (h.full k hk);have:=h.pm.r k hk;exact⟨x,hx,O,by rw[<-h1];exact h2⟩
 obtain⟨row',col',e2,g1,g2,g3⟩:=q5b m (E:=E) (u:=u) (v:=v) hm hN (hT.ok hE) hT.len (hT.lens hE) (fun k i hk h=>hT.full k i hk h) (fun k hk=>by rw[hT.col k hk];exact qit (hA k hk)) m 0 row col O h.pm ht (fun j hj=>absurd hj (Nat.not_lt_zero _))
 rw[nZ]at e2;simp only[c1,and_self,if_true,tN,e,bS,hT.len,e2];exact⟨row',col',rfl,g1,g2,g3⟩
def sm (f:Nat->Int):Nat->Int
 |0=>0
 |n+1=>sm f n+f n
theorem sm_le {f g:Nat->Int}: ∀{n:Nat},(∀i,i<n->f i<=g i)->sm f n<=sm g n
 |0,_=>Int.le_refl _
 |n+1,h=>by
  have:=sm_le (f:=f) (g:=g) (n:=n) fun i hi=>h i O
  have:=h n O;simp only[sm];omega
theorem q4o {f g:Nat->Int}: ∀{n:Nat},(∀i,i<n->f i=g i)->sm f n=sm g n
 |0,_=>rfl
 |n+1,h=>by
  have:=q4o (f:=f) (g:=g) (n:=n) fun i hi=>h i O
  have:=h n O;simp only[sm];omega
theorem sm_lt {f g:Nat->Int} {k:Nat}: ∀{n:Nat},(∀i,i<n->f i<=g i)->k<n->f k<g k->sm f n<sm g n
 |0,_,h,_=>O
 |n+1,h,hk,hlt=>by
  have h0:=h n O;simp only[sm];by_cases e:k=n
  . subst e;have:=sm_le (f:=f) (g:=g) (n:=k) fun i hi=>h i O
    omega
  . have:=sm_lt (f:=f) (g:=g) (k:=k) (n:=n) (fun i hi=>h i O) O hlt
    omega
theorem sm_bd {f:Nat->Int} {B:Int}: ∀{n:Nat},(∀i,i<n->f i<=B)->sm f n<=(n:Int)*B
 |0,_=>by simp[sm]
 |n+1,h=>by
  have h1:=sm_bd (f:=f) (B:=B) (n:=n) fun i hi=>h i O
  have h2:=h n O;have:((n+1:Nat):Int)*B=(n:Int)*B+B:=by rw[Int.natCast_succ,Int.add_mul,Int.one_mul]
  rw[this];simp only[sm];omega
theorem qal {f:Nat->Int}: ∀{n:Nat},(∀i,i<n->0<=f i)->0<=sm f n
 |0,_=>Int.le_refl _
 |n+1,h=>by
  have h1:=qal (f:=f) (n:=n) fun i hi=>h i O
  have h2:=h n O;simp only[sm];omega
def Own (N:Nat) (E:Edges) (row own:LI) (k:Nat):Prop:= ∀j,j<k-> ∃x∈E.getD j [],x.1=row.getD j 0/\own.getD j 0=x.2
theorem q1q (m:Nat) {N:Nat} {E E2:Edges} {u v row col U V:LI} {j:Nat} {a b:Int} {xs:List (Int×Int)} (hrl:row.length=N) (hj:j<N) (hx:xs.length<=200):
 ∀(n k:Nat) (own:LI),xs.length-k<n->own.length=N->
 ∃own',g41L1 m n E u v row col U V own (j:Int) E2 a b xs (xs.length:Int) (k:Int)=some (.inl ((E,u,v,row,col,()),U,V,own',E2,a,b,()))/\own'.length=N/\
  (∀i,i≠j->own'.getD i 0=own.getD i 0)/\((own'.getD j 0=own.getD j 0/\ ∀x∈xs.drop k,x.1≠row.getD j 0)\/ ∃x∈xs.drop k,x.1=row.getD j 0/\own'.getD j 0=x.2)
 |0,k,own,h,_=>O
 |n+1,k,own,h,hl=>by
  rw[g41L1];by_cases hk:k<xs.length
  . have h1:((k:Int)<(xs.length:Int)):=O;have c1:(0:Int)<=(k:Int)/\(k:Int)<(xs.length:Int):=O;have c2:(0:Int)<=(j:Int)/\(j:Int)<(row.length:Int):=O;have c3:(0:Int)<=(j:Int)/\(j:Int)<(own.length:Int):=O;rw[drop_cons (d:=(0,0)) hk];simp only[bQ,h1,if_true,c1,c2,c3,and_self,tN,Nat.zero_add,wQ,wsucc (show k<4611686018427387904 by omega),bif_eq]
    generalize xs.getD k (0,0)=y at*
    by_cases hy:y.1=row.getD j 0
    . rw[iP hy];obtain⟨own',e,q1,q2,q3⟩:=q1q m (E:=E) (E2:=E2) (u:=u) (v:=v) (col:=col) (U:=U) (V:=V) (a:=a) (b:=b) (xs:=xs) hrl hj hx n (k+1) (own.set j y.2) O (by simp[hl])
      refine⟨own',e,q1,fun i hi=>by rw[q2 i hi,getD_set_ne (Ne.symm hi)],.inr ?_⟩
      rcases q3 with⟨q3,_⟩|⟨x,hx,q3⟩
      . rw[qp O]at q3;exact⟨y,mS,hy,q3⟩
      . exact⟨x,mT hx,q3⟩
    . rw[iN' hy];obtain⟨own',e,q1,q2,q3⟩:=q1q m (E:=E) (E2:=E2) (u:=u) (v:=v) (col:=col) (U:=U) (V:=V) (a:=a) (b:=b) (xs:=xs) hrl hj hx n (k+1) own O hl;refine⟨own',e,q1,q2,?_⟩;rcases q3 with⟨q3,q4⟩|⟨x,hx,q3⟩
      . refine .inl ⟨q3,fun x hx=> ?_⟩
        rcases mC hx with rfl|hx
        . exact hy
        . exact q4 x hx
      . exact .inr ⟨x,mT hx,q3⟩
  . have h1: ¬((k:Int)<(xs.length:Int)):=O;simp only[bQ,h1,if_false];refine⟨own,rfl,hl,fun _ _=>rfl,.inl ⟨rfl,?_⟩⟩
    rw[drop_nil' hk];intro x hx;cases hx
theorem q6d (m:Nat) {N:Nat} {E:Edges} {u v row col U V:LI} (hm:400<m) (hE:EOK N E) (hrl:row.length=N) (ht: ∀k,k<N-> ∃x∈E.getD k [],x.1=row.getD k 0):
 ∀(n j:Nat) (own:LI),N-j<n->j<=N->own.length=N->Own N E row own j->
 ∃own',g41L0 m n E u v row col U V own E (N:Int) (j:Int)=some (.inl ((E,u,v,row,col,()),U,V,own',()))/\own'.length=N/\Own N E row own' N
 |0,j,own,h,_,_,_=>O
 |n+1,j,own,h,hj0,hl,ho=>by
  have hEl:=hE.len;have hN:=hE.small;rw[g41L0];by_cases hj:j<N
  . have h1:((j:Int)<(N:Int)):=O;have c1:(0:Int)<=(j:Int)/\(j:Int)<(E.length:Int):=O;obtain⟨own',e,q1,q2,q3⟩:=q1q m (E:=E) (E2:=E) (u:=u) (v:=v) (col:=col) (U:=U) (V:=V) (a:=(N:Int)) (b:=(j:Int)) (xs:=E.getD j []) hrl hj (hE.lens j) m 0 own (by have:=hE.lens j;omega) hl
    rw[nZ]at e;rw[List.drop_zero]at q3;simp only[bQ,h1,if_true,c1,and_self,tN,e,bS,wQ,wsucc (show j<4611686018427387904 by omega)]
    refine q6d m hm hE hrl ht n (j+1) own' O O q1 fun i hi=> ?_
    by_cases ei:i=j
    . subst ei;rcases q3 with⟨_,q3⟩|q3
      . obtain⟨x,hx,e⟩:=ht i hj;exact absurd e (q3 x hx)
      . exact q3
    . rw[q2 i ei];exact ho i O
  . have h1: ¬((j:Int)<(N:Int)):=O;simp only[bQ,h1,if_false];exact⟨own,rfl,hl,fun i hi=>ho i O⟩
def want (col V own:LI) (x:Int×Int):Int:=V.getD (col.getD x.1.toNat 0).toNat 0+x.2-own.getD (col.getD x.1.toNat 0).toNat 0
structure Dv (N:Nat) (B V:Nat->Int):Prop where
 lo: ∀k,k<N->0<=V k
 hi: ∀k,k<N->V k<=B k
theorem q1s (m:Nat) {N:Nat} {E E2:Edges} {u v row col U own:LI} {k:Nat} {a b:Int} {xs:List (Int×Int)} {B:Nat->Int} (hP:PM N row col) (hol:own.length=N) (hown: ∀i,-1100<=own.getD i 0/\own.getD i 0<=1100)
 (hk:k<N) (hxl:xs.length<=200) (hxr: ∀x∈xs,(0<=x.1/\x.1<(N:Int))/\ -1100<=x.2/\x.2<=1100) (hBb: ∀i,i<N->B i<=600000000)
 (hB: ∀x∈xs,B (col.getD x.1.toNat 0).toNat+x.2-own.getD (col.getD x.1.toNat 0).toNat 0<=B k):
 ∀(n t:Nat) (V:LI) (ch:Bool),xs.length-t<n->V.length=N->Dv N B (fun i=>V.getD i 0)->
 ∃V' ch',g41L4 m n E u v row col U V own ch (k:Int) E2 a b xs (xs.length:Int) (t:Int)=some (.inl ((E,u,v,row,col,()),U,V',own,ch',E2,a,b,()))/\V'.length=N/\Dv N B (fun i=>V'.getD i 0)/\
  ((ch'=ch/\V'=V/\ ∀x∈xs.drop t,want col V own x<=V.getD k 0)\/(ch'=true/\(∀i,i<N->V.getD i 0<=V'.getD i 0)/\V.getD k 0<V'.getD k 0))
 |0,t,V,ch,h,_,_=>O
 |n+1,t,V,ch,h,hl,hD=>by
  rw[g41L4];by_cases ht:t<xs.length
  . have h1:((t:Int)<(xs.length:Int)):=O;have c1:(0:Int)<=(t:Int)/\(t:Int)<(xs.length:Int):=O;have hmem:xs.getD t (0,0)∈xs:=X8 ht;have hr:=hxr _ hmem;have hb:=hB _ hmem;rw[drop_cons (d:=(0,0)) ht];simp only[bQ,h1,if_true,c1,and_self,tN,Nat.zero_add,wQ,wsucc (show t<4611686018427387904 by omega)]
    generalize xs.getD t (0,0)=y at*
    obtain⟨⟨r1,r2⟩,r3,r4⟩:=hr;have hcj:=hP.c y.1.toNat O;have c2:(0:Int)<=y.1/\y.1<(col.length:Int):=by have:=hP.cl;omega
    have c3:(0:Int)<=col.getD y.1.toNat 0/\col.getD y.1.toNat 0<(V.length:Int):=O;have c4:(0:Int)<=col.getD y.1.toNat 0/\col.getD y.1.toNat 0<(own.length:Int):=O;have c5:(0:Int)<=(k:Int)/\(k:Int)<(V.length:Int):=O;have hjN:(col.getD y.1.toNat 0).toNat<N:=O;have v1:0<=V.getD (col.getD y.1.toNat 0).toNat 0:=hD.lo _ hjN;have v2:V.getD (col.getD y.1.toNat 0).toNat 0<=B (col.getD y.1.toNat 0).toNat:=hD.hi _ hjN;have v3:=hBb _ hjN;have v4:=hown (col.getD y.1.toNat 0).toNat;have w1:IntKind.wrap .i64 (V.getD (col.getD y.1.toNat 0).toNat 0+y.2)=V.getD (col.getD y.1.toNat 0).toNat 0+y.2:=wi O O;have w2:IntKind.wrap .i64 (V.getD (col.getD y.1.toNat 0).toNat 0+y.2-own.getD (col.getD y.1.toNat 0).toNat 0)=want col V own y:=wi O O;have hw:want col V own y=V.getD (col.getD y.1.toNat 0).toNat 0+y.2-own.getD (col.getD y.1.toNat 0).toNat 0:=rfl;simp only[c2,c3,c4,c5,and_self,if_true,w1,w2];by_cases hlt:V.getD k 0<want col V own y
    . rw[iP hlt];have hs: ∀i,(V.set k (want col V own y)).getD i 0=if i=k then want col V own y else V.getD i 0:=fun i=>Q8 O
      have hge: ∀i,V.getD i 0<=(V.set k (want col V own y)).getD i 0:=fun i=>by
       rw[hs];split
       . rename_i e;rw[e];omega
       . exact Int.le_refl _
      have hD2:Dv N B (fun i=>(V.set k (want col V own y)).getD i 0):=by
       refine⟨fun i hi=> ?_,fun i hi=> ?_⟩
       . have h1:=hge i;have h2:0<=V.getD i 0:=hD.lo i hi;show 0<=(V.set k (want col V own y)).getD i 0;omega
       . simp only[hs];split
         . rename_i e;rw[e];omega
         . exact hD.hi i hi
      obtain⟨V',ch',e,q1,q2,q3⟩:=q1s m (E:=E) (E2:=E2) (u:=u) (v:=v) (U:=U) (a:=a) (b:=b) hP hol hown hk hxl hxr hBb hB n (t+1) (V.set k (want col V own y)) true O (by simp[hl]) hD2
      refine⟨V',ch',e,q1,q2,.inr ?_⟩;have hsk:(V.set k (want col V own y)).getD k 0=want col V own y:=by rw[hs,iP rfl]
      rcases q3 with⟨g1,g2,_⟩|⟨g1,g2,g3⟩
      . refine⟨g1,fun i _=>by rw[g2];exact hge i,by rw[g2,hsk];exact hlt⟩
      . exact⟨g1,fun i hi=>Int.le_trans (hge i) (g2 i hi),by rw[hsk]at g3;omega⟩
    . rw[iN' hlt];obtain⟨V',ch',e,q1,q2,q3⟩:=q1s m (E:=E) (E2:=E2) (u:=u) (v:=v) (U:=U) (a:=a) (b:=b) hP hol hown hk hxl hxr hBb hB n (t+1) V ch O hl hD;refine⟨V',ch',e,q1,q2,?_⟩;rcases q3 with⟨g1,g2,g3⟩|q3
      . refine .inl ⟨g1,g2,fun x hx=> ?_⟩
        rcases mC hx with rfl|hx
        . omega
        . exact g3 x hx
      . exact .inr q3
  . have h1: ¬((t:Int)<(xs.length:Int)):=O;simp only[bQ,h1,if_false];refine⟨V,ch,rfl,hl,hD,.inl ⟨rfl,rfl,?_⟩⟩;rw[drop_nil' ht];intro x hx;cases hx
theorem q5r (m:Nat) {N:Nat} {E:Edges} {u v row col U own:LI} {B:Nat->Int} (hm:400<m) (hE:EOK N E) (hP:PM N row col) (hol:own.length=N) (hown: ∀i,-1100<=own.getD i 0/\own.getD i 0<=1100)
 (hBb: ∀i,i<N->B i<=600000000) (hB: ∀k,k<N-> ∀x∈E.getD k [],B (col.getD x.1.toNat 0).toNat+x.2-own.getD (col.getD x.1.toNat 0).toNat 0<=B k):
 ∀(n k:Nat) (V:LI) (ch:Bool),N-k<n->V.length=N->Dv N B (fun i=>V.getD i 0)->
 ∃V' ch',g41L3 m n E u v row col U V own ch E (N:Int) (k:Int)=some (.inl ((E,u,v,row,col,()),U,V',own,ch',()))/\V'.length=N/\Dv N B (fun i=>V'.getD i 0)/\
  ((ch'=ch/\V'=V/\ ∀j,k<=j->j<N-> ∀x∈E.getD j [],want col V own x<=V.getD j 0)\/(ch'=true/\(∀i,i<N->V.getD i 0<=V'.getD i 0)/\ ∃j,j<N/\V.getD j 0<V'.getD j 0))
 |0,k,V,ch,h,_,_=>O
 |n+1,k,V,ch,h,hl,hD=>by
  have hEl:=hE.len;have hN:=hE.small;rw[g41L3];by_cases hk:k<N
  . have h1:((k:Int)<(N:Int)):=O;have c1:(0:Int)<=(k:Int)/\(k:Int)<(E.length:Int):=O;obtain⟨V1,ch1,e,q1,q2,q3⟩:=q1s m (E:=E) (E2:=E) (u:=u) (v:=v) (U:=U) (a:=(N:Int)) (b:=(k:Int)) (xs:=E.getD k []) hP hol hown hk (hE.lens k) (fun x hx=>⟨hE.row k x hx,hE.wt k x hx⟩) hBb (hB k hk) m 0 V ch (by have:=hE.lens k;omega) hl hD
    rw[nZ]at e;rw[List.drop_zero]at q3;simp only[bQ,h1,if_true,c1,and_self,tN,e,bS,wQ,wsucc (show k<4611686018427387904 by omega)]
    obtain⟨V',ch',e2,g1,g2,g3⟩:=q5r m (u:=u) (v:=v) (U:=U) hm hE hP hol hown hBb hB n (k+1) V1 ch1 O q1 q2;refine⟨V',ch',e2,g1,g2,?_⟩;rcases q3 with⟨a1,a2,a3⟩|⟨a1,a2,a3⟩
    . subst a1;subst a2;rcases g3 with⟨b1,b2,b3⟩|g3
      . refine .inl ⟨b1,b2,fun j hj1 hj2=> ?_⟩
        by_cases ej:j=k
        . subst ej;exact a3
        . exact b3 j O hj2
      . exact .inr g3
    . refine .inr ?_;rcases g3 with⟨b1,b2,_⟩|⟨b1,b2,b3⟩
      . subst b2;exact⟨by rw[b1,a1],a2,k,hk,a3⟩
      . exact⟨b1,fun i hi=>Int.le_trans (a2 i hi) (b2 i hi),k,hk,by have:=b2 k hk;omega⟩
  . have h1: ¬((k:Int)<(N:Int)):=O;simp only[bQ,h1,if_false];exact⟨V,ch,rfl,hl,hD,.inl ⟨rfl,rfl,fun j _ _=>O⟩⟩
theorem q1m (m:Nat) {N:Nat} {E:Edges} {u v row col U own:LI} {B:Nat->Int} (hm:400<m) (hE:EOK N E) (hP:PM N row col) (hol:own.length=N) (hown: ∀i,-1100<=own.getD i 0/\own.getD i 0<=1100)
 (hBb: ∀i,i<N->B i<=600000000) (hB: ∀k,k<N-> ∀x∈E.getD k [],B (col.getD x.1.toNat 0).toNat+x.2-own.getD (col.getD x.1.toNat 0).toNat 0<=B k):
 ∀(n:Nat) (V:LI),(sm B N-sm (fun i=>V.getD i 0) N).toNat+1<n->V.length=N->Dv N B (fun i=>V.getD i 0)->
 ∃V',g41L2 m n E u v row col U V own true=some (.inl ((E,u,v,row,col,()),U,V',own,()))/\V'.length=N/\Dv N B (fun i=>V'.getD i 0)/\
  ∀j,j<N-> ∀x∈E.getD j [],want col V' own x<=V'.getD j 0
 |0,V,h,_,_=>O
 |1,V,h,_,_=>O
 |n+2,V,h,hl,hD=>by
  have hN:=hE.small;rw[g41L2,hE.len];obtain⟨V',ch',e,q1,q2,q3⟩:=q5r m (u:=u) (v:=v) (U:=U) hm hE hP hol hown hBb hB m 0 V false O hl hD;rw[nZ]at e;simp only[cond_true,e,bS];rcases q3 with⟨a1,a2,a3⟩|⟨a1,a2,j,a3,a4⟩
  . subst a1;subst a2;rw[g41L2];exact⟨V',rfl,q1,q2,fun j hj=>a3 j (Nat.zero_le _) hj⟩
  . subst a1;have h1:=sm_lt (f:=fun i=>V.getD i 0) (g:=fun i=>V'.getD i 0) (n:=N) a2 a3 a4
    have h2:=sm_le (f:=fun i=>V'.getD i 0) (g:=B) (n:=N) q2.hi
    exact q1m m hm hE hP hol hown hBb hB (n+1) V' O q1 q2
theorem q50 (m:Nat) {N:Nat} {E:Edges} {u v row col own V:LI} (hP:PM N row col) (hN:N<=200) (hol:own.length=N) (hown: ∀i,-1100<=own.getD i 0/\own.getD i 0<=1100) (hl:V.length=N) (hV: ∀i,i<N->0<=V.getD i 0/\V.getD i 0<=600000000):
 ∀(n j:Nat) (U:LI),N-j<n->j<=N->U.length=N->(∀i,i<j->U.getD (row.getD i 0).toNat 0=own.getD i 0-V.getD i 0)->
 ∃U',g41L5 m n E u v row col U V own (N:Int) (j:Int)=some (.inl ((E,u,v,row,col,()),U',V,()))/\U'.length=N/\ ∀i,i<N->U'.getD (row.getD i 0).toNat 0=own.getD i 0-V.getD i 0
 |0,j,U,h,_,_,_=>O
 |n+1,j,U,h,hj0,hul,hU=>by
  rw[g41L5];by_cases hj:j<N
  . have h1:((j:Int)<(N:Int)):=O;obtain⟨r1,r2,r3⟩:=hP.r j hj;have c1:(0:Int)<=(j:Int)/\(j:Int)<(row.length:Int):=by have:=hP.rl;omega
    have c2:(0:Int)<=(j:Int)/\(j:Int)<(own.length:Int):=O;have c3:(0:Int)<=(j:Int)/\(j:Int)<(V.length:Int):=O;have c4:(0:Int)<=row.getD j 0/\row.getD j 0<(U.length:Int):=O;have w1:IntKind.wrap .i64 (own.getD j 0-V.getD j 0)=own.getD j 0-V.getD j 0:=by have:=hown j;have:=hV j hj;exact wi O O
    simp only[bQ,h1,if_true,c1,c2,c3,c4,and_self,tN,Nat.zero_add,wQ,w1,wsucc (show j<4611686018427387904 by omega)]
    refine q50 m hP hN hol hown hl hV n (j+1) _ O O (by simp[hul]) fun i hi=> ?_
    rw[Q8 O];split
    . rename_i e;have hr:=hP.r i O;rw[hP.inj (a:=i) (b:=j) O hj O]
    . rename_i e;have:i≠j:=by rintro rfl;exact e rfl
      exact hU i O
  . have h1: ¬((j:Int)<(N:Int)):=O;simp only[bQ,h1,if_false];exact⟨U,rfl,hul,fun i hi=>hU i O⟩
def wE (E:Edges) (j:Nat) (i:Int):Int:=((E.getD j []).find? fun x=>x.1==i).elim 0 (·.2)
theorem wE_eq {N:Nat} {E:Edges} (hE:EOK N E) {j:Nat} {x:Int×Int} (hx:x∈E.getD j []):wE E j x.1=x.2:=by
 unfold wE;cases h:(E.getD j []).find? fun y=>y.1==x.1 with
 |none=>exact absurd (List.find?_eq_none.1 h x hx) (by simp)
 |some y=>
  have h1:=List.mem_of_find?_eq_some h;have h2:=List.find?_some h;exact hE.fn j y h1 x hx (by simpa using h2)
def Clo (N:Nat) (E:Edges) (row:LI) (B:Nat->Int):Prop:= ∀j k,j<N->k<N-> ∀x∈E.getD k [],x.1=row.getD j 0->B j+x.2-wE E j x.1<=B k
structure Tv (N:Nat) (E:Edges) (row U V:LI):Prop where
 rl:row.length=N
 ul:U.length=N
 vl:V.length=N
 rr: ∀j,j<N->0<=row.getD j 0/\row.getD j 0<(N:Int)
 inj: ∀j k,j<N->k<N->row.getD j 0=row.getD k 0->j=k
 feas: ∀j,j<N-> ∀x∈E.getD j [],x.2<=U.getD x.1.toNat 0+V.getD j 0
 tight: ∀j,j<N-> ∃x∈E.getD j [],x.1=row.getD j 0/\x.2=U.getD x.1.toNat 0+V.getD j 0
 vn: ∀j,0<=V.getD j 0
 vb: ∀j,V.getD j 0<=600000000
 ub: ∀j,-600001100<=U.getD j 0/\U.getD j 0<=1100
theorem qkq (m:Nat) {N:Nat} {E:Edges} {u v row col:LI} (hm:4000000000<m) (hN5:N<=5) (hE:EOK N E) (hP:PM N row col) (ht: ∀k,k<N->Te E u v k (row.getD k 0).toNat)
 (hvb: ∀i,-265733600<=v.getD i 0/\v.getD i 0<=265733600) (hf: ∀j,j<N-> ∀x∈E.getD j [],x.2<=u.getD x.1.toNat 0+v.getD j 0):
 ∃U V,g41 m E u v row col=some ((U,V,()),((E,u,v,row,col,()),()))/\Tv N E row U V/\Clo N E row (fun i=>V.getD i 0)/\(∀B:Nat->Int,(∀k,k<N->0<=B k)->Clo N E row B-> ∀k,k<N->V.getD k 0<=B k)/\ ∀j,j<N->U.getD (row.getD j 0).toNat 0=wE E j (row.getD j 0)-V.getD j 0:=by
 have hN:=hE.small
 have ht': ∀k,k<N-> ∃x∈E.getD k [],x.1=row.getD k 0:=fun k hk=>by
  obtain⟨x,hx,h1,_⟩:=ht k hk;have:=(hP.r k hk).1;exact⟨x,hx,O⟩
 have hrep: ∀{n:Nat} (i:Nat),(List.replicate n (0:Int)).getD i 0=0:=fun{n} i=>by
  by_cases h:i<n
  . rw[qo h]
  . rw[Qc (by simpa using h)]
 rw[g41,hE.len,q0f m O O];simp only[bS];obtain⟨own,e0,o1,o2⟩:=q6d m (u:=u) (v:=v) (col:=col) (U:=List.replicate N 0) (V:=List.replicate N 0) O hE hP.rl ht' m 0 (List.replicate N 0) O O (by simp) (fun i hi=>O)
 rw[nZ]at e0
 have hown: ∀i,-1100<=own.getD i 0/\own.getD i 0<=1100:=fun i=>by
  by_cases hi:i<N
  . obtain⟨x,hx,_,e⟩:=o2 i hi;have:=hE.wt i x hx;omega
  . rw[Qc O];omega
 have hot: ∀j,j<N->own.getD j 0=u.getD (row.getD j 0).toNat 0+v.getD j 0:=fun j hj=>by
  obtain⟨x,hx,h1,h2⟩:=o2 j hj;obtain⟨y,hy,h3,h4⟩:=ht j hj;have:=(hP.r j hj).1;have:=hE.fn j x hx y hy O;omega
 have hB: ∀k,k<N-> ∀x∈E.getD k [],(v.getD (col.getD x.1.toNat 0).toNat 0+265733600)+x.2-own.getD (col.getD x.1.toNat 0).toNat 0<=v.getD k 0+265733600:=fun k hk x hx=>by
  have h1:=hE.row k x hx;have h2:=hP.c x.1.toNat O;rw[hot _ O,h2.2.2,tN];have:=hf k hk x hx;omega
 have hD0:Dv N (fun i=>v.getD i 0+265733600) (fun i=>(List.replicate N (0:Int)).getD i 0):=⟨fun i _=>by simp only[hrep];omega,fun i _=>by simp only[hrep];have:=hvb i;omega⟩
 have hsb:=sm_bd (f:=fun i=>v.getD i 0+265733600) (B:=600000000) (n:=N) (fun i _=>by have:=hvb i;omega)
 have hs0:=qal (f:=fun i=>(List.replicate N (0:Int)).getD i 0) (n:=N) (fun i _=>by rw[hrep];omega)
 obtain⟨V,e1,v1,v2,v3⟩:=q1m m (u:=u) (v:=v) (U:=List.replicate N 0) (B:=fun i=>v.getD i 0+265733600) O hE hP o1 hown (fun i _=>by have:=hvb i;omega) hB m (List.replicate N 0) O (by simp) hD0
 have hV: ∀i,i<N->0<=V.getD i 0/\V.getD i 0<=600000000:=fun i hi=>by
  have h1:0<=V.getD i 0:=v2.lo i hi;have h2:V.getD i 0<=v.getD i 0+265733600:=v2.hi i hi;have:=hvb i;omega
 obtain⟨U,e2,u1,u2⟩:=q50 m (E:=E) (u:=u) (v:=v) (col:=col) hP hN o1 hown v1 hV m 0 (List.replicate N 0) O O (by simp) (fun i hi=>O)
 rw[nZ]at e2;simp only[e0,bS,e1,hP.rl,e2]
 have hU: ∀i,i<N->U.getD i 0=own.getD (col.getD i 0).toNat 0-V.getD (col.getD i 0).toNat 0:=fun i hi=>by
  have h1:=hP.c i hi;have:=u2 (col.getD i 0).toNat O
  rwa [h1.2.2,tN]at this
 have how: ∀j,j<N->wE E j (row.getD j 0)=own.getD j 0:=fun j hj=>by
  obtain⟨x,hx,h1,h2⟩:=o2 j hj;rw[<-h1,wE_eq hE hx,h2]
 refine⟨U,V,rfl,?_,fun j k hj hk x hx e=> ?_,fun B hB0 hBc k hk=> ?_,fun j hj=>by rw[how j hj];exact u2 j hj⟩
 rotate_left
 . have h1:=v3 k hk x hx;have h2:=hP.r j hj;simp only[want]at h1;rw[e,h2.2.2,tN]at h1;rw[e,how j hj];exact h1
 . have hB2: ∀k,k<N-> ∀x∈E.getD k [],min (B (col.getD x.1.toNat 0).toNat) (v.getD (col.getD x.1.toNat 0).toNat 0+265733600)+x.2-own.getD (col.getD x.1.toNat 0).toNat 0<=min (B k) (v.getD k 0+265733600):=fun k hk x hx=>by
    have h0:=hB k hk x hx;have h1:=hE.row k x hx;have h2:=hP.c x.1.toNat O;have h3:=hBc (col.getD x.1.toNat 0).toNat k O hk x hx O;have hw:=how (col.getD x.1.toNat 0).toNat O;rw[show row.getD (col.getD x.1.toNat 0).toNat 0=x.1 by omega]at hw
    rw[hw]at h3;omega
   have hs2:=sm_bd (f:=fun i=>min (B i) (v.getD i 0+265733600)) (B:=600000000) (n:=N) (fun i _=>by have:=hvb i;omega)
   obtain⟨V2,e3,_,w2,_⟩:=q1m m (u:=u) (v:=v) (U:=List.replicate N 0) (B:=fun i=>min (B i) (v.getD i 0+265733600)) O hE hP o1 hown (fun i _=>by have:=hvb i;omega) hB2 m (List.replicate N 0) O (by simp)
    ⟨fun i _=>by simp only[hrep];omega,fun i hi=>by simp only[hrep];have:=hvb i;have:=hB0 i hi;omega⟩
   rw[e1]at e3;simp only[Option.some.injEq,Sum.inl.injEq,Prod.mk.injEq,true_and,and_true]at e3;subst e3;have:V.getD k 0<=min (B k) (v.getD k 0+265733600):=w2.hi k hk;omega
 refine⟨hP.rl,u1,v1,fun j hj=>⟨(hP.r j hj).1,(hP.r j hj).2.1⟩,fun j k hj hk e=>hP.inj hj hk e,fun j hj x hx=> ?_,fun j hj=> ?_,fun j=> ?_,fun j=> ?_,fun j=> ?_⟩
 . have h1:=hE.row j x hx;rw[hU _ O];have:=v3 j hj x hx;simp only[want]at this;omega
 . obtain⟨x,hx,h1,h2⟩:=o2 j hj;refine⟨x,hx,h1,?_⟩;rw[h1,u2 j hj];omega
 . by_cases hj:j<N
   . exact(hV j hj).1
   . rw[Qc O];omega
 . by_cases hj:j<N
   . exact(hV j hj).2
   . rw[Qc O];omega
 . by_cases hj:j<N
   . have h1:=hP.c j hj;rw[hU j hj];have:=hV (col.getD j 0).toNat O;have:=hown (col.getD j 0).toNat;omega
   . rw[Qc O];omega
def sumL:LI->Int
 |[]=>0
 |x::xs=>x+sumL xs
theorem qgb: ∀{a b:LI},sumL (a++b)=sumL a+sumL b
 |[],b=>by simp[sumL]
 |x::a,b=>by simp only[List.cons_append,sumL,qgb (a:=a)];omega
theorem qih {a b:LI} (h:List.Perm a b):sumL a=sumL b:=by
 induction h with
 |nil=>rfl
 |cons x _ ih=>simp only[sumL,ih]
 |swap x y l=>simp only[sumL];omega
 |trans _ _ i1 i2=>rw[i1,i2]
theorem qdn {f:Nat->Int}: ∀{n:Nat},sm f n=sumL ((List.range n).map f)
 |0=>rfl
 |n+1=>by
  rw[List.range_succ,List.map_append,qgb,<-qdn];simp only[sm,List.map_cons,List.map_nil,sumL];omega
theorem qnu {p:Nat->Nat} {g:Nat->Int} {n:Nat} (hp: ∀j,j<n->p j<n) (hi: ∀j k,j<n->k<n->p j=p k->j=k):sm (fun j=>g (p j)) n=sm g n:=by
 rw[qdn,qdn,show(fun j=>g (p j))=g∘p from rfl,<-List.map_map]
 refine qih (List.Perm.map _ ?_);have hnd:((List.range n).map p).Nodup:=Xu (fun a ha b hb e=>hi a b (List.mem_range.1 ha) (List.mem_range.1 hb) e) List.nodup_range
 refine(List.perm_ext_iff_of_nodup hnd List.nodup_range).2 fun a=> ?_
 constructor
 . intro h;obtain⟨j,hj,rfl⟩:=List.mem_map.1 h;exact List.mem_range.2 (hp j (List.mem_range.1 hj))
 . intro h;refine Classical.byContradiction fun hn=> ?_
   have:=Z9 (l:=a::(List.range n).map p) (l':=List.range n) (List.nodup_cons.2 ⟨hn,hnd⟩) (fun x hx=>by
    rcases mC hx with rfl|hx
    . exact h
    . obtain⟨j,hj,rfl⟩:=List.mem_map.1 hx;exact List.mem_range.2 (hp j (List.mem_range.1 hj)))
   simp at this;omega
theorem qm6 {f g:Nat->Int}: ∀{n:Nat},sm (fun i=>f i+g i) n=sm f n+sm g n
 |0=>rfl
 |n+1=>by simp only[sm,qm6 (n:=n)];omega
theorem ql8 {f g:Nat->Int} {n:Nat} (h: ∀i,i<n->f i<=g i) (e:sm g n<=sm f n): ∀i,i<n->f i=g i:=by
 intro i hi;by_cases c:f i=g i
 . exact c
 . have:=sm_lt (f:=f) (g:=g) h hi (by have:=h i hi;omega)
   omega
def Ed (E:Edges) (j i:Nat):Prop:= ∃x∈E.getD j [],x.1=(i:Int)
structure MaxA (N:Nat) (E:Edges) (s:Nat->Nat):Prop where
 ag:Ag N (Ed E) s
 top: ∀t,Ag N (Ed E) t->sm (fun j=>wE E j (t j)) N<=sm (fun j=>wE E j (s j)) N
structure LexA (N:Nat) (E:Edges) (s:Nat->Nat):Prop where
 mx:MaxA N E s
 lx: ∀j,j<N-> ∀t,MaxA N E t->(∀k,k<j->t k=s k)->s j<=t j
theorem LexA.uniq {N:Nat} {E:Edges} {s t:Nat->Nat} (hs:LexA N E s) (ht:LexA N E t): ∀j,j<N->s j=t j:=by
 intro j;induction j using Nat.strongRecOn with
 |ind j ih=>
  intro hj;have h1:=hs.lx j hj t ht.mx fun k hk=>(ih k hk O).symm
  have h2:=ht.lx j hj s hs.mx fun k hk=>ih k hk O
  omega
theorem ql4 {N:Nat} {E:Edges} {u v row col:LI} (hE:EOK N E) (hf: ∀j,j<N-> ∀x∈E.getD j [],x.2<=u.getD x.1.toNat 0+v.getD j 0) (hP:PM N row col)
 (ht: ∀k,k<N->Te E u v k (row.getD k 0).toNat) (hL:Lx N (Te E u v) row N):LexA N E fun j=>(row.getD j 0).toNat:=by
 have hle: ∀t,Ag N (Ed E) t->(∀j,j<N->wE E j (t j)<=u.getD (t j) 0+v.getD j 0)/\sm (fun j=>u.getD (t j) 0+v.getD j 0) N=sm (fun j=>u.getD j 0) N+sm (fun j=>v.getD j 0) N:=fun t hA=>by
  refine⟨fun j hj=> ?_,?_⟩
  . obtain⟨x,hx,e⟩:=(hA.ok j hj).2;rw[<-e,wE_eq hE hx];have:=hf j hj x hx
    rwa [e,tN]at this
  . rw[qm6,qnu (p:=t) (g:=fun i=>u.getD i 0) (fun j hj=>(hA.ok j hj).1) (fun j k hj hk=>hA.inj j k hj hk)]
 have hte: ∀j i,Te E u v j i->Ed E j i/\wE E j i=u.getD i 0+v.getD j 0:=fun j i ⟨x,hx,h1,h2⟩=>⟨⟨x,hx,h1⟩,by rw[<-h1,wE_eq hE hx,h2]⟩
 have hA:=hP.ag ht;have hA2:Ag N (Ed E) fun j=>(row.getD j 0).toNat:=⟨fun k hk=>⟨(hA.ok k hk).1,(hte k _ (hA.ok k hk).2).1⟩,hA.inj⟩
 have hsum:sm (fun j=>wE E j ((row.getD j 0).toNat:Int)) N=sm (fun j=>u.getD j 0) N+sm (fun j=>v.getD j 0) N:=by
  rw[<-(hle _ hA2).2];exact q4o fun j hj=>(hte j _ (ht j hj)).2
 refine⟨⟨hA2,fun t htA=> ?_⟩,fun j hj t htM hag=> ?_⟩
 . rw[hsum,<-(hle t htA).2];exact sm_le (hle t htA).1
 . have htop:=htM.top _ hA2;rw[hsum,<-(hle t htM.ag).2]at htop;have heq:=ql8 (hle t htM.ag).1 htop
   have hAg:Ag N (Te E u v) t:=⟨fun k hk=>⟨(htM.ag.ok k hk).1,by
    obtain⟨x,hx,e⟩:=(htM.ag.ok k hk).2;refine⟨x,hx,e,?_⟩;have:=heq k hk;rw[<-this,<-e,wE_eq hE hx]⟩,htM.ag.inj⟩
   have:=hL j hj hj t hAg fun k hk=>by
    have h1:=hag k hk;have h2:=hP.r k O;omega
   omega
structure LV (N:Nat) (E:Edges) (row:LI) (V:Nat->Int):Prop where
 lo: ∀k,k<N->0<=V k
 clo:Clo N E row V
 least: ∀B:Nat->Int,(∀k,k<N->0<=B k)->Clo N E row B-> ∀k,k<N->V k<=B k
theorem LV.lower {N:Nat} {E:Edges} {row:LI} {V:Nat->Int} (h:LV N E row V) (K:Nat->Prop) [DecidablePred K] (hp: ∀k,k<N->K k->0<V k)
 (ho: ∀j k,j<N->k<N-> ¬K j->K k-> ∀x∈E.getD k [],x.1=row.getD j 0->V j+x.2-wE E j x.1<V k): ∀k,k<N-> ¬K k:=by
 intro k hk hK
 have:=h.least (fun k=>if K k then V k-1 else V k) (fun k hk=>by
  split
  . have:=hp k hk ‹_›;omega
  . exact h.lo k hk) (fun j k hj hk x hx e=>by
  dsimp only;have hc:=h.clo j k hj hk x hx e;split
  . split<;>omega
  . split
    . have:=ho j k hj hk ‹_› ‹_› x hx e;omega
    . omega) k hk
 rw[iP hK]at this;omega
def cntP (p:Nat->Bool):Nat->Nat
 |0=>0
 |n+1=>cntP p n+(if p n then 1 else 0)
theorem q9i {p:Nat->Bool}: ∀n,cntP p n<=n
 |0=>Nat.le_refl _
 |n+1=>by have:=q9i (p:=p) n;simp only[cntP];split<;>omega
theorem q2x {p q:Nat->Bool}: ∀n,(∀k,k<n->p k=true->q k=true)->cntP p n<=cntP q n
 |0,_=>Nat.le_refl _
 |n+1,h=>by
  have h1:=q2x (p:=p) (q:=q) n fun k hk=>h k O
  simp only[cntP];by_cases c:p n=true
  . rw[iP c,iP (h n O c)];omega
  . rw[iN' c];omega
theorem qjb {p q:Nat->Bool} {k:Nat}: ∀n,(∀k,k<n->p k=true->q k=true)->k<n->p k=false->q k=true->cntP p n<cntP q n
 |0,_,h,_,_=>O
 |n+1,h,hk,h1,h2=>by
  simp only[cntP];by_cases e:k=n
  . subst e;have:=q2x (p:=p) (q:=q) k fun k hk=>h k O
    rw[h1,h2];simp;omega
  . have:=qjb (p:=p) (q:=q) (k:=k) n (fun k hk=>h k O) O h1 h2
    by_cases c:p n=true
    . rw[iP c,iP (h n O c)];omega
    . rw[iN' c];omega
theorem qf9 {p:Nat->Bool}: ∀n,cntP p n=n-> ∀k,k<n->p k=true
 |0,_,k,hk=>O
 |n+1,h,k,hk=>by
  have h1:=q9i (p:=p) n;simp only[cntP]at h;by_cases c:p n=true
  . rw[iP c]at h;by_cases e:k=n
    . subst e;exact c
    . exact qf9 n O k O
  . rw[iN' c]at h;omega
structure Rd (N:Nat) (E:Edges) (row:LI) (V:Nat->Int) (a b:Nat->Int):Prop where
 up: ∀k,k<N->a k<=b k
 hi: ∀k,k<N->b k<=V k
 got: ∀j k,j<N->k<N-> ∀x∈E.getD k [],x.1=row.getD j 0->a j+x.2-wE E j x.1<=b k
theorem Rd.step {N:Nat} {E:Edges} {row:LI} {V a b:Nat->Int} (h:LV N E row V) (ha: ∀k,k<N->0<=a k/\a k<=V k) (r:Rd N E row V a b) {c:Nat} (hc:c<=cntP (fun k=>decide (a k=V k)) N) (hcN:c<N):
 c+1<=cntP (fun k=>decide (b k=V k)) N:=by
 have hmono: ∀k,k<N->decide (a k=V k)=true->decide (b k=V k)=true:=fun k hk e=>by
  have e:=of_decide_eq_true e;have:=r.up k hk;have:=r.hi k hk;exact decide_eq_true O
 by_cases hall:cntP (fun k=>decide (a k=V k)) N=N
 . have:=q2x N hmono;omega
 . have hex: ∃k,k<N/\a k≠V k/\b k=V k:=by
    refine Classical.byContradiction fun hno=> ?_
    have hno': ∀k,k<N->a k≠V k->b k≠V k:=fun k hk h1 h2=>hno ⟨k,hk,h1,h2⟩
    have hz:=h.lower (fun k=>a k≠V k) (fun k hk hK=>by
     have:=ha k hk;have:=h.lo k hk;omega) (fun j k hj hk hj2 hk2 x hx e=>by
     have h1:=r.got j k hj hk x hx e;have h2:=r.hi k hk;have h3:=hno' k hk hk2;have h4:a j=V j:=Classical.byContradiction hj2;omega)
    refine hall (Nat.le_antisymm (q9i N) ?_)
    have: ∀n,n<=N->n<=cntP (fun k=>decide (a k=V k)) n:=by
     intro n;induction n with
     |zero=>intro _;exact Nat.zero_le _
     |succ n ih=>
      intro hn;have h1:=ih O;have h2:a n=V n:=Classical.byContradiction (hz n O);simp only[cntP,h2,decide_true,if_true];omega
    exact this N (Nat.le_refl _)
   obtain⟨k,hk,h1,h2⟩:=hex;have:=qjb N hmono hk (decide_eq_false h1) (decide_eq_true h2);omega
def sf (f:Nat->Int):Nat->Nat->Int
 |_,0=>0
 |j,d+1=>f j+sf f (j+1) d
theorem q8w {f g:Nat->Int}: ∀{d j:Nat},(∀k,j<=k->k<j+d->f k=g k)->sf f j d=sf g j d
 |0,_,_=>rfl
 |d+1,j,h=>by
  rw[sf,sf,h j (Nat.le_refl _) O,q8w (d:=d) fun k h1 h2=>h k O O]
theorem sf_bd {f:Nat->Int} {B:Int}: ∀{d j:Nat},(∀k,j<=k->k<j+d-> -B<=f k/\f k<=B)-> -((d:Int)*B)<=sf f j d/\sf f j d<=(d:Int)*B
 |0,_,_=>by simp[sf]
 |d+1,j,h=>by
  have h1:=h j (Nat.le_refl _) O;have h2:=sf_bd (B:=B) (d:=d) (j:=j+1) fun k a b=>h k O O
  have e:((d+1:Nat):Int)*B=(d:Int)*B+B:=by rw[Int.natCast_succ,Int.add_mul,Int.one_mul]
  rw[sf,e];omega
theorem sm_sf {f:Nat->Int}: ∀(d j:Nat),sm f (j+d)=sm f j+sf f j d
 |0,j=>by simp[sf]
 |d+1,j=>by
  have:=sm_sf (f:=f) d (j+1);rw[show j+(d+1)=j+1+d by omega,this,sf]
  simp only[sm];omega
structure Asg (N:Nat) (E:Edges) (free:List Bool) (j:Nat) (s:Nat->Nat):Prop where
 ok: ∀k,j<=k->k<N->Ed E k (s k)/\free.getD (s k) false=true
 inj: ∀a b,j<=a->a<N->j<=b->b<N->s a=s b->a=b
abbrev wS (N:Nat) (E:Edges) (j:Nat) (s:Nat->Nat):Int:=sf (fun k=>wE E k (s k)) j (N-j)
theorem qeq {N:Nat} {E:Edges} {j:Nat} {s:Nat->Nat} (hj:j<N):wS N E j s=wE E j (s j)+wS N E (j+1) s:=by
 unfold wS;rw[show N-j=(N-(j+1))+1 by omega,sf]
theorem wS_bd {N:Nat} {E:Edges} (hE:EOK N E) {free:List Bool} {j:Nat} {s:Nat->Nat} (h:Asg N E free j s): -(((N-j:Nat):Int)*1100)<=wS N E j s/\wS N E j s<=((N-j:Nat):Int)*1100:=
 sf_bd fun k h1 h2=>by
  obtain⟨⟨x,hx,e⟩,_⟩:=h.ok k h1 O;have:=hE.wt k x hx;rw[<-e,wE_eq hE hx];omega
theorem Asg.tail {N:Nat} {E:Edges} {free:List Bool} {j:Nat} {s:Nat->Nat} (h:Asg N E free j s) (hj:j<N):Asg N E (free.set (s j) false) (j+1) s where
 ok:=fun k h1 h2=>by
  obtain⟨a,b⟩:=h.ok k O h2;refine⟨a,?_⟩;rw[getD_set_ne (fun e=>by have:=h.inj j k (Nat.le_refl _) hj O h2 e;omega)]
  exact b
 inj:=fun a b h1 h2 h3 h4=>h.inj a b O h2 O h4
theorem Asg.cons {N:Nat} {E:Edges} {free:List Bool} {j i:Nat} {s:Nat->Nat} (hj:j<N) (he:Ed E j i) (hf:free.getD i false=true) (h:Asg N E (free.set i false) (j+1) s):Asg N E free j (fun k=>if k=j then i else s k):=by
 have hil:i<free.length:=by
  by_cases c:i<free.length
  . exact c
  . rw[Qc O]at hf;cases hf
 have hne: ∀k,j+1<=k->k<N->s k≠i/\free.getD (s k) false=true:=fun k h1 h2=>by
  have:=(h.ok k h1 h2).2;rw[Q8 hil]at this;split at this
  . cases this
  . rename_i c;exact⟨c,this⟩
 refine⟨fun k h1 h2=> ?_,fun a b h1 h2 h3 h4 e=> ?_⟩
 . split
   . rename_i e;rw[e];exact⟨he,hf⟩
   . rename_i c;exact⟨(h.ok k O h2).1,(hne k O h2).2⟩
 . split at e
   . split at e
     . omega
     . rename_i c1 c2;exact absurd e.symm (hne b O h4).1
   . split at e
     . rename_i c1 c2;exact absurd e (hne a O h2).1
     . exact h.inj a b O h2 O h4 e
theorem qes {N:Nat} {E:Edges} {j i:Nat} {s:Nat->Nat} (hj:j<N):wS N E j (fun k=>if k=j then i else s k)=wE E j i+wS N E (j+1) s:=by
 rw[qeq hj];rw[iP rfl];unfold wS;rw[q8w (g:=fun k=>wE E k (s k)) fun k h1 _=>by dsimp only;rw[iN' O]]
structure BestS (N:Nat) (E:Edges) (free:List Bool) (j:Nat) (b:Int) (ok:Bool):Prop where
 yes:ok=true-> ∃s,Asg N E free j s/\wS N E j s=b
 top: ∀s,Asg N E free j s->ok=true/\wS N E j s<=b
structure BestK (N:Nat) (E:Edges) (free:List Bool) (j k:Nat) (b:Int) (ok:Bool):Prop where
 yes:ok=true-> ∃s,Asg N E free j s/\wS N E j s=b
 top: ∀s,Asg N E free j s->(∃t,t<k/\t<(E.getD j []).length/\((E.getD j []).getD t (0,0)).1=(s j:Int))->ok=true/\wS N E j s<=b
theorem BestK.all {N:Nat} {E:Edges} {free:List Bool} {j k:Nat} {b:Int} {ok:Bool} (hj:j<N) (h:BestK N E free j k b ok) (hk:(E.getD j []).length<=k):BestS N E free j b ok:=
 ⟨h.yes,fun s hs=>h.top s hs (by
   obtain⟨⟨x,hx,e⟩,_⟩:=hs.ok j (Nat.le_refl _) hj;obtain⟨t,ht,rfl⟩:=List.getElem_of_mem hx;exact⟨t,O,ht,by rw[List.getD,List.getElem?_eq_getElem ht,Option.getD_some];exact e⟩)⟩
theorem BestK.zero {N:Nat} {E:Edges} {free:List Bool} {j:Nat}:BestK N E free j 0 0 false:=⟨(fun h=>Bool.noConfusion h),fun s _ ⟨t,ht,_⟩=>absurd ht (Nat.not_lt_zero _)⟩
theorem BestK.skip {N:Nat} {E:Edges} {free:List Bool} {j k:Nat} {b:Int} {ok:Bool} (hj:j<N) (h:BestK N E free j k b ok) (hn: ∀s,Asg N E free j s->((E.getD j []).getD k (0,0)).1≠(s j:Int)):BestK N E free j (k+1) b ok:=
 ⟨h.yes,fun s hs ⟨t,h1,h2,h3⟩=>h.top s hs ⟨t,by
   by_cases e:t=k
   . subst e;exact absurd h3 (hn s hs)
   . omega,h2,h3⟩⟩
theorem BestK.tail {N:Nat} {E:Edges} (hE:EOK N E) {free:List Bool} {j k i:Nat} {b:Int} {ok:Bool} (hj:j<N) (h:BestK N E free j k b ok) (hk:k<(E.getD j []).length) (hi:((E.getD j []).getD k (0,0)).1=(i:Int)) (hf:free.getD i false=true)
 {b2:Int} {ok2:Bool} (h2:BestS N E (free.set i false) (j+1) b2 ok2):BestK N E free j (k+1) (if ok2=true/\(ok=false\/b<b2+((E.getD j []).getD k (0,0)).2)then b2+((E.getD j []).getD k (0,0)).2 else b) (ok||ok2):=by
 have hmem:(E.getD j []).getD k (0,0)∈E.getD j []:=X8 hk;have hw:wE E j (i:Int)=((E.getD j []).getD k (0,0)).2:=by rw[<-hi,wE_eq hE hmem]
 generalize hy:(E.getD j []).getD k (0,0)=y at*
 have key: ∀s,Asg N E free j s->(s j:Int)=y.1->ok2=true/\wS N E j s<=b2+y.2:=fun s hs e=>by
  have ei:s j=i:=O;have:=h2.top s (ei▸hs.tail hj);refine⟨this.1,?_⟩;rw[qeq hj,ei,hw];omega
 refine⟨fun h0=> ?_,fun s hs ⟨t,t1,t2,t3⟩=> ?_⟩
 . split
   . rename_i c;obtain⟨s,a1,a2⟩:=h2.yes c.1;exact⟨_,Asg.cons hj ⟨y,hmem,hi⟩ hf a1,by rw[qes hj,hw,a2];omega⟩
   . rename_i c;rcases Bool.eq_false_or_eq_true ok with e|e
     . exact h.yes e
     . rw[e,Bool.false_or]at h0;exact absurd ⟨h0,.inl e⟩ c
 . by_cases e:t=k
   . subst e;rw[hy]at t3;obtain⟨k1,k2⟩:=key s hs t3.symm;refine⟨by rw[k1,Bool.or_true],?_⟩
     split
     . exact k2
     . rename_i c;have: ¬(ok=false\/b<b2+y.2):=fun d=>c ⟨k1,d⟩
       omega
   . obtain⟨k1,k2⟩:=h.top s hs ⟨t,O,t2,t3⟩;refine⟨by rw[k1,Bool.true_or],?_⟩
     split
     . rename_i c;rcases c.2 with d|d
       . rw[k1]at d;cases d
       . omega
     . exact k2
end Go.Vs.F
