import Derived.Test.YtikppifemlpjlaaGreatDoorLi
import Derived.Test.YtikppifemlpjlaaGreatDoorLf
import Derived.Test.YtikppifemlpjlaaGreatDoorLh
import Derived.Test.YtikppifemlpjlaaGreatDoorLg
set_option linter.unusedVariables false
set_option linter.unusedSimpArgs false
set_option linter.unusedSectionVars false
set_option maxRecDepth 100000
set_option linter.defProp false
namespace Go.Vs.F
abbrev I2:=D5×D5
abbrev dY (d:D5):Bool×(Bool×LI)×Int:=(d.1,((d.2.1,d.2.2.1),d.2.2.2.1))
abbrev fl (s:I2):Bool×Bool×LI×Int×Bool×Bool×LI×Int×Unit:=(s.1.1,s.1.2.1,s.1.2.2.1,s.1.2.2.2.1,s.2.1,s.2.2.1,s.2.2.2.1,s.2.2.2.2.1,())
abbrev zI:Bool×(Bool×LI)×Int:=qz
def G2 (s:I2):Prop:=Gd s.1/\Gd s.2
def minQ (a b:D5):D5:=if rv b<rv a then b else a
def maxQ (a b:D5):D5:=if rv a<rv b then b else a
def G2.step {s:I2} (h:G2 s) {a b:D5} (ha:Gd a) (hb:Gd b):G2 (minQ s.1 a,maxQ s.2 b):=by
 constructor
 . show Gd (minQ s.1 a);unfold minQ;split;exact ha;exact h.1
 . show Gd (maxQ s.2 b);unfold maxQ;split;exact hb;exact h.2
def hullF:List D5->I2->Option I2
 |[],s=>some s
 |d::l,s=>if d.1=true then none else hullF l (minQ s.1 d,maxQ s.2 d)
def hullQ:List D5->Option I2
 |[]=>none
 |d::l=>hullF (d::l) (d,d)
def qld (a:D5):minQ a a=a:=by unfold minQ;split<;>rfl
def qke (a:D5):maxQ a a=a:=by unfold maxQ;split<;>rfl
def q1y (d:D5) (l:List D5):hullQ (d::l)=if d.1=true then none else hullF l (d,d):=by
 show hullF (d::l) (d,d)=_
 rw[hullF];dsimp only;rw[qld,qke]
def qa1 {α:Type} {l:List α} {k:Nat} {d:α} {r:List α} (h:l.drop k=d::r) (z:α):k<l.length/\l.getD k z=d/\l.drop (k+1)=r:=by
 have hk:k<l.length:=by
  refine Nat.lt_of_not_le λc=> ?_
  rw[zg2 c]at h;cases h
 rw[zU2 hk]at h;injection h with h1 h2
 exact⟨hk,by rw[List.getD,List.getElem?_eq_getElem hk];exact h1,h2⟩
def drop_end {α:Type} {l:List α} {k:Nat} (h:l.drop k=[]):l.length<=k:=by
 have:=congrArg List.length h;rw[zU1,List.length_nil]at this;omega
section
variable {m:Nat} (hm:5000000000<=m)
include hm
theorem qqd {l:List (Bool×(Bool×LI)×Int)} (hl:l.length=4) (t:I2): ∀(ds:List D5) (n k:Nat) (s:I2),l.drop k=ds.map dY->(∀d∈ds,Cn d)->1<=k->G2 s->ds.length<n->
 (∀r,hullF ds s=some r->g106L0 m n t.1.1 t.1.2.1 t.1.2.2.1 t.1.2.2.2.1 t.2.1 t.2.2.1 t.2.2.2.1 t.2.2.2.2.1 s.1.1 s.1.2.1 s.1.2.2.1 s.1.2.2.2.1 s.2.1 s.2.2.1 s.2.2.2.1 s.2.2.2.2.1 l 4 (k:Int)=some (.inr (.inl (fl t,fl r,()))))/\
 (hullF ds s=none-> ∃z,g106L0 m n t.1.1 t.1.2.1 t.1.2.2.1 t.1.2.2.2.1 t.2.1 t.2.2.1 t.2.2.2.1 t.2.2.2.2.1 s.1.1 s.1.2.1 s.1.2.2.1 s.1.2.2.2.1 s.2.1 s.2.2.1 s.2.2.2.1 s.2.2.2.2.1 l 4 (k:Int)=some (.inl (z,false,()))):=by
 intro ds;induction ds with
 |nil=>
  intro n k s hd hc hk hs hn;obtain⟨n',rfl⟩: ∃n',n=n'+1:=⟨n-1,by simp at hn;omega⟩
  have:=drop_end hd;refine⟨λr hr=> ?_,λh=>by cases h⟩
  injection hr with hr
  subst hr;rw[g106L0,bQ,iN' O]
 |cons d ds ih=>
  intro n k s hd hc hk hs hn;obtain⟨n',rfl⟩: ∃n',n=n'+1:=⟨n-1,by simp at hn;omega⟩
  obtain⟨h1,h2,h3⟩:=qa1 hd zI;have hcd:=hc d mS;have e2:l.getD (0+(k:Int).toNat) zI=dY d:=by rw[tN,zF];exact h2
  have hw:wI ((k:Int)+1)=((k+1:Nat):Int):=wsucc O;have h0:((k:Int)==0)=false:=by simp;omega
  rw[g106L0,bQ,iP O,iP O,e2];dsimp only;rw[q8y hm hcd,bS];dsimp only;rw[zG3,h0,hw];simp only[cond_false];rw[hullF];have hbb:d.1=false\/d.1=true:=by cases d.1<;>simp
  rcases hbb with hb|hb
  . have gd:=hcd.gd hb;have cb: ∀{α:Type} (a b:α),(bif d.1 then a else b)=b:=λa b=>by rw[hb];rfl
    have ih':=ih n' (k+1) (minQ s.1 d,maxQ s.2 d) h3 (λx hx=>hc x (mT hx)) O (hs.step gd gd) (by simp at hn;omega)
    rw[cb,iN' (by rw[hb];simp),pLess hm gd hs.1,pLess hm hs.2 gd]
    simp only[bS,bQ];dsimp only at ih';unfold minQ maxQ at*;by_cases c1:rv d<rv s.1
    . simp only[iP c1]at ih'⊢;by_cases c2:rv s.2<rv d
      . simp only[iP c2]at ih'⊢;exact ih'
      . simp only[iN' c2]at ih'⊢;exact ih'
    . simp only[iN' c1]at ih'⊢;by_cases c2:rv s.2<rv d
      . simp only[iP c2]at ih'⊢;exact ih'
      . simp only[iN' c2]at ih'⊢;exact ih'
  . have cb: ∀{α:Type} (a b:α),(bif d.1 then a else b)=a:=λa b=>by rw[hb];rfl
    rw[cb,iP hb];exact⟨λr h=>(by cases h),λ_=>⟨_,rfl⟩⟩
theorem qps {l:List (Bool×(Bool×LI)×Int)} (hl:l.length<=1000) (t:I2): ∀(ds:List D5) (n k:Nat) (s:I2),l.drop k=ds.map dY->(∀d∈ds,Cn d)->((ds.headD badD).1=false->G2 s)->ds.length<n->
 (∀r,hullF ds s=some r->g72L0 m n l t.1.1 t.1.2.1 t.1.2.2.1 t.1.2.2.2.1 t.2.1 t.2.2.1 t.2.2.2.1 t.2.2.2.2.1 s.1.1 s.1.2.1 s.1.2.2.1 s.1.2.2.2.1 s.2.1 s.2.2.1 s.2.2.2.1 s.2.2.2.2.1 (k:Int)=some (.inr (.inl (fl t,fl r,()))))/\
 (hullF ds s=none-> ∃z,g72L0 m n l t.1.1 t.1.2.1 t.1.2.2.1 t.1.2.2.2.1 t.2.1 t.2.2.1 t.2.2.2.1 t.2.2.2.2.1 s.1.1 s.1.2.1 s.1.2.2.1 s.1.2.2.2.1 s.2.1 s.2.2.1 s.2.2.2.1 s.2.2.2.2.1 (k:Int)=some (.inl (z,false,()))):=by
 intro ds;induction ds with
 |nil=>
  intro n k s hd hc hs hn;obtain⟨n',rfl⟩: ∃n',n=n'+1:=⟨n-1,by simp at hn;omega⟩
  have:=drop_end hd;refine⟨λr hr=> ?_,λh=>by cases h⟩
  injection hr with hr
  subst hr;rw[g72L0,bQ,iN' O]
 |cons d ds ih=>
  intro n k s hd hc hs hn;obtain⟨n',rfl⟩: ∃n',n=n'+1:=⟨n-1,by simp at hn;omega⟩
  obtain⟨h1,h2,h3⟩:=qa1 hd zI;have hcd:=hc d mS;have hw:wI ((k:Int)+1)=((k+1:Nat):Int):=wsucc O;have hin:(0:Int)<=(k:Int)/\(k:Int)<(l.length:Int):=O;rw[g72L0,bQ,iP O];simp only[iP hin,tN,h2,hw];rw[qi8 hm hcd,bS];dsimp only;rw[zG3];rw[hullF];have hbb:d.1=false\/d.1=true:=by cases d.1<;>simp
  rcases hbb with hb|hb
  . have gd:=hcd.gd hb;have cb: ∀{α:Type} (a b:α),(bif d.1 then a else b)=b:=λa b=>by rw[hb];rfl
    have hs:=hs hb;have ih':=ih n' (k+1) (minQ s.1 d,maxQ s.2 d) h3 (λx hx=>hc x (mT hx)) (λ_=>hs.step gd gd) (by simp at hn;omega)
    rw[cb,iN' (by rw[hb];simp),rLess hm gd hs.1,rLess hm hs.2 gd]
    simp only[bS,bQ];dsimp only at ih';unfold minQ maxQ at*;by_cases c1:rv d<rv s.1
    . simp only[iP c1]at ih'⊢;by_cases c2:rv s.2<rv d
      . simp only[iP c2]at ih'⊢;exact ih'
      . simp only[iN' c2]at ih'⊢;exact ih'
    . simp only[iN' c1]at ih'⊢;by_cases c2:rv s.2<rv d
      . simp only[iP c2]at ih'⊢;exact ih'
      . simp only[iN' c2]at ih'⊢;exact ih'
  . have cb: ∀{α:Type} (a b:α),(bif d.1 then a else b)=a:=λa b=>by rw[hb];rfl
    rw[cb,iP hb];exact⟨λr h=>(by cases h),λ_=>⟨_,rfl⟩⟩
theorem qex {d:D5} {ds:List D5} (hl:ds.length<=900) (hc: ∀x∈d::ds,Cn x):
 (∀r,hullQ (d::ds)=some r->g72 m ((d::ds).map dY)=some ((fl r,true,()),(),()))/\
 (hullQ (d::ds)=none-> ∃z,g72 m ((d::ds).map dY)=some ((z,false,()),(),())):=by
 have h:=qps hm (l:=(d::ds).map dY) (by simp;omega) ((false,false,[],0,()),(false,false,[],0,())) (d::ds) m 0 (d,d) rfl hc (λh=>⟨(hc d mS).gd h,(hc d mS).gd h⟩) (by simp;omega)
 have hp:(0:Int)<=0/\(0:Int)<(((d::ds).map dY).length:Int):=by simp
 have e0:((d::ds).map dY).getD 0 zI=dY d:=rfl;rw[g72,iP hp,iP hp,e0];dsimp only;dsimp only at h;rw[nZ]at h;refine⟨λr hr=> ?_,λhr=> ?_⟩
 . rw[h.1 r hr,bS]
 . obtain⟨z,hz⟩:=h.2 hr;exact⟨_,by rw[hz,bS]⟩
def prQ (x y:I2):Option I2:=hullQ [mulQ x.1 y.1,mulQ x.1 y.2,mulQ x.2 y.1,mulQ x.2 y.2]
theorem qon {x y:I2} (hx:G2 x) (hy:G2 y):
 (∀r,prQ x y=some r->g106 m x.1.1 x.1.2.1 x.1.2.2.1 x.1.2.2.2.1 x.2.1 x.2.2.1 x.2.2.2.1 x.2.2.2.2.1 y.1.1 y.1.2.1 y.1.2.2.1 y.1.2.2.2.1 y.2.1 y.2.2.1 y.2.2.2.1 y.2.2.2.2.1=some ((fl r,true,()),(),(),()))/\
 (prQ x y=none-> ∃z,g106 m x.1.1 x.1.2.1 x.1.2.2.1 x.1.2.2.2.1 x.2.1 x.2.2.1 x.2.2.2.1 x.2.2.2.2.1 y.1.1 y.1.2.1 y.1.2.2.1 y.1.2.2.2.1 y.2.1 y.2.2.1 y.2.2.2.1 y.2.2.2.2.1=some ((z,false,()),(),(),())):=by
 rw[g106,pMul hm hx.1 hy.1,pMul hm hx.1 hy.2,pMul hm hx.2 hy.1,pMul hm hx.2 hy.2];simp only[bS];unfold prQ;have c1:=Zg x.1 y.1;have c2:=Zg x.1 y.2;have c3:=Zg x.2 y.1;have c4:=Zg x.2 y.2;generalize mulQ x.1 y.1=a at*;generalize mulQ x.1 y.2=b at*;generalize mulQ x.2 y.1=c at*;generalize mulQ x.2 y.2=d at*;rw[q1y];obtain⟨m',hm'⟩: ∃m',m=m'+1:=⟨m-1,O⟩
 have hone:g106L0 m m false false ([]:LI) 0 false false ([]:LI) 0 false false ([]:LI) 0 false false ([]:LI) 0 [dY a,dY b,dY c,dY d] 4 0=
  if a.1=true then some (.inl ((false,false,[],0,false,false,[],0,()),false,()))else
  g106L0 m m' false false ([]:LI) 0 false false ([]:LI) 0 a.1 a.2.1 a.2.2.1 a.2.2.2.1 a.1 a.2.1 a.2.2.1 a.2.2.2.1 [dY a,dY b,dY c,dY d] 4 ((1:Nat):Int):=by
  have e:([dY a,dY b,dY c,dY d]).getD (0+(0:Int).toNat) zI=dY a:=rfl;conv=>lhs;rw[show g106L0 m m=g106L0 m (m'+1) by rw[<-hm']]
  rw[g106L0,bQ,iP (by decide),iP (by simp),e]
  dsimp only;rw[q8y hm c1,bS];dsimp only;rw[zG3,show((0:Int)==0)=true from rfl,cond_true,cond_true]
  cases a.1<;>rfl
 have h:=qqd hm (l:=[dY a,dY b,dY c,dY d]) rfl ((false,false,[],0,()),(false,false,[],0,())) [b,c,d] m' 1 (a,a) rfl;dsimp only at h;rw[hone];have haa:a.1=false\/a.1=true:=by cases a.1<;>simp
 rcases haa with ha|ha
 . have ga:=c1.gd ha;rw[iN' (by rw[ha];simp),iN' (by rw[ha];simp)]
   have h:=h (λx hx=>by
    simp only[zU,zy,or_false]at hx;rcases hx with rfl|rfl|rfl
    . exact c2
    . exact c3
    . exact c4) O ⟨ga,ga⟩ (by simp;omega)
   refine⟨λr hr=> ?_,λhr=> ?_⟩
   . rw[h.1 r hr];rfl
   . obtain⟨z,hz⟩:=h.2 hr;exact⟨_,by rw[hz];rfl⟩
 . rw[iP ha,iP ha];exact⟨λr h=>(by cases h),λ_=>⟨_,rfl⟩⟩
end
end Go.Vs.F
set_option maxRecDepth 100000
namespace Go.Vs.F
def quoF (p:Int) (a:D5):List D5->Bool×I2->Option (Bool×I2)
 |[],f=>some f
 |q::l,f=>if(quoQ a q p 1).1=true\/(quoQ a q p 2).1=true then none
  else quoF p a l (false,if f.1=true then(quoQ a q p 1,quoQ a q p 2)else(minQ f.2.1 (quoQ a q p 1),maxQ f.2.2 (quoQ a q p 2)))
def quQ (n d:I2) (p:Int):Option I2:=
 (hullQ [quoQ n.1 d.1 p 1,quoQ n.1 d.2 p 1,quoQ n.2 d.1 p 1,quoQ n.2 d.2 p 1]).bind λa=>
 (hullQ [quoQ n.1 d.1 p 2,quoQ n.1 d.2 p 2,quoQ n.2 d.1 p 2,quoQ n.2 d.2 p 2]).bind λb=>some (a.1,b.2)
def qoi (n d:I2) (p:Int) (z:I2):
 ((quoF p n.1 [d.1,d.2] (true,z)).bind λf=>quoF p n.2 [d.1,d.2] f)=(quQ n d p).map λr=>(false,r):=by
 unfold quQ;rw[q1y,q1y];simp only[quoF,hullF];generalize quoQ n.1 d.1 p 1=a1;generalize quoQ n.1 d.2 p 1=a2;generalize quoQ n.2 d.1 p 1=a3;generalize quoQ n.2 d.2 p 1=a4;generalize quoQ n.1 d.1 p 2=b1;generalize quoQ n.1 d.2 p 2=b2;generalize quoQ n.2 d.1 p 2=b3;generalize quoQ n.2 d.2 p 2=b4;by_cases h1:a1.1=true
 . simp[h1]
 by_cases h2:a2.1=true
 . simp[h1,h2]
 by_cases h3:a3.1=true
 . simp[h1,h2,h3]
   repeat' split
   all_goals simp_all
 by_cases h4:a4.1=true
 . simp[h1,h2,h3,h4]
   repeat' split
   all_goals simp_all
 simp only[h1,h2,h3,h4,false_or];by_cases g1:b1.1=true
 . simp[g1]
 by_cases g2:b2.1=true
 . simp[g1,g2]
 by_cases g3:b3.1=true
 . simp[g1,g2,g3]
 by_cases g4:b4.1=true
 . simp[g1,g2,g3,g4]
 simp[g1,g2,g3,g4]
def qf8: ∀(l:List D5) (s r:I2),G2 s->(∀d∈l,Cn d)->hullF l s=some r->G2 r
 |[],s,r,hs,_,h=>by injection h with h;rw[<-h];exact hs
 |d::l,s,r,hs,hc,h=>by
  rw[hullF]at h;split at h
  . cases h
  . rename_i c;have gd:=(hc d mS).gd (by simpa using c)
    exact qf8 l _ r (hs.step gd gd) (λx hx=>hc x (mT hx)) h
def q3l {l:List D5} {r:I2} (hc: ∀d∈l,Cn d) (h:hullQ l=some r):G2 r:=by
 cases l with
 |nil=>cases h
 |cons d l=>
  rw[q1y]at h;split at h
  . cases h
  . rename_i c;have gd:=(hc d mS).gd (by simpa using c)
    exact qf8 l _ r ⟨gd,gd⟩ (λx hx=>hc x (mT hx)) h
def mem4 {a b c d:D5} (h1:Cn a) (h2:Cn b) (h3:Cn c) (h4:Cn d): ∀x∈[a,b,c,d],Cn x:=λx hx=>by
 simp only[zU,zy,or_false]at hx;rcases hx with rfl|rfl|rfl|rfl<;>assumption
def qkf {x y n:I2} (h:prQ x y=some n):G2 n:=q3l (mem4 (Zg ..) (Zg ..) (Zg ..) (Zg ..)) h
section
variable {m:Nat} (hm:5000000000<=m)
include hm
theorem qj6 (p:Int) (t u:I2) {a:D5} (ga:Gd a) (x:List (Bool×(Bool×LI)×Int)) (y w:Int) {l:List (Bool×(Bool×LI)×Int)} (hl:l.length=2): ∀(qs:List D5) (n k:Nat) (f:Bool) (s:I2),l.drop k=qs.map dY->(∀d∈qs,Gd d)->(f=false->G2 s)->qs.length<n->
 (∀g r,quoF p a qs (f,s)=some (g,r)->(qs=[]/\g=f\/g=false/\G2 r)/\g107L1 m n p t.1.1 t.1.2.1 t.1.2.2.1 t.1.2.2.2.1 t.2.1 t.2.2.1 t.2.2.2.1 t.2.2.2.2.1 u.1.1 u.1.2.1 u.1.2.2.1 u.1.2.2.2.1 u.2.1 u.2.2.1 u.2.2.2.1 u.2.2.2.2.1 s.1.1 s.1.2.1 s.1.2.2.1 s.1.2.2.2.1 s.2.1 s.2.2.1 s.2.2.2.1 s.2.2.2.2.1 f a.1 a.2.1 a.2.2.1 a.2.2.2.1 x y w l 2 (k:Int)=some (.inr (.inl (p,fl t,fl u,fl r,g,x,y,w,()))))/\
 (quoF p a qs (f,s)=none-> ∃z,g107L1 m n p t.1.1 t.1.2.1 t.1.2.2.1 t.1.2.2.2.1 t.2.1 t.2.2.1 t.2.2.2.1 t.2.2.2.2.1 u.1.1 u.1.2.1 u.1.2.2.1 u.1.2.2.2.1 u.2.1 u.2.2.1 u.2.2.2.1 u.2.2.2.2.1 s.1.1 s.1.2.1 s.1.2.2.1 s.1.2.2.2.1 s.2.1 s.2.2.1 s.2.2.2.1 s.2.2.2.2.1 f a.1 a.2.1 a.2.2.1 a.2.2.2.1 x y w l 2 (k:Int)=some (.inl (z,false,()))):=by
 intro qs;induction qs with
 |nil=>
  intro n k f s hd hc hs hn;obtain⟨n',rfl⟩: ∃n',n=n'+1:=⟨n-1,by simp at hn;omega⟩
  have:=drop_end hd;refine⟨λg r hr=> ?_,λh=>by cases h⟩
  have hr:some (f,s)=some (g,r):=hr;injection hr with hr
  injection hr with h1 h2
  subst h1;subst h2;refine⟨.inl ⟨rfl,rfl⟩,?_⟩;rw[g107L1,bQ,iN' O]
 |cons d ds ih=>
  intro n k f s hd hc hs hn;obtain⟨n',rfl⟩: ∃n',n=n'+1:=⟨n-1,by simp at hn;omega⟩
  obtain⟨h1,h2,h3⟩:=qa1 hd zI;have gd:=hc d mS;have e2:l.getD (0+(k:Int).toNat) zI=dY d:=by rw[tN,zF];exact h2
  have hw:wI ((k:Int)+1)=((k+1:Nat):Int):=wsucc O;have c1:=Qs a d p 1;have c2:=Qs a d p 2;rw[g107L1,bQ,iP O,iP O,e2];dsimp only;rw[pQuo hm ga gd,pQuo hm ga gd];simp only[bS];rw[quoF];dsimp only;generalize quoQ a d p 1=A at*;generalize quoQ a d p 2=B at*;rw[q8y hm c1,bS];dsimp only;rw[q8y hm c2,bS];dsimp only;rw[zG3,zG3,hw];have haa:A.1=false\/A.1=true:=by cases A.1<;>simp
  rcases haa with ha|ha
  . have cb: ∀{α:Type} (x y:α),(bif A.1 then x else y)=y:=λa b=>by rw[ha];rfl
    rw[cb];have hbb:B.1=false\/B.1=true:=by cases B.1<;>simp
    rcases hbb with hb|hb
    . have cd: ∀{α:Type} (x y:α),(bif B.1 then x else y)=y:=λa b=>by rw[hb];rfl
      have gA:=c1.gd ha;have gB:=c2.gd hb;rw[cd,iN' (by rw[ha,hb];simp)]
      have fin: ∀s',G2 s'->(∀g r,quoF p a ds (false,s')=some (g,r)->(d::ds=[]/\g=f\/g=false/\G2 r)/\g107L1 m n' p t.1.1 t.1.2.1 t.1.2.2.1 t.1.2.2.2.1 t.2.1 t.2.2.1 t.2.2.2.1 t.2.2.2.2.1 u.1.1 u.1.2.1 u.1.2.2.1 u.1.2.2.2.1 u.2.1 u.2.2.1 u.2.2.2.1 u.2.2.2.2.1 s'.1.1 s'.1.2.1 s'.1.2.2.1 s'.1.2.2.2.1 s'.2.1 s'.2.2.1 s'.2.2.2.1 s'.2.2.2.2.1 false a.1 a.2.1 a.2.2.1 a.2.2.2.1 x y w l 2 ((k+1:Nat):Int)=some (.inr (.inl (p,fl t,fl u,fl r,g,x,y,w,()))))/\
       (quoF p a ds (false,s')=none-> ∃z,g107L1 m n' p t.1.1 t.1.2.1 t.1.2.2.1 t.1.2.2.2.1 t.2.1 t.2.2.1 t.2.2.2.1 t.2.2.2.2.1 u.1.1 u.1.2.1 u.1.2.2.1 u.1.2.2.2.1 u.2.1 u.2.2.1 u.2.2.2.1 u.2.2.2.2.1 s'.1.1 s'.1.2.1 s'.1.2.2.1 s'.1.2.2.2.1 s'.2.1 s'.2.2.1 s'.2.2.2.1 s'.2.2.2.2.1 false a.1 a.2.1 a.2.2.1 a.2.2.2.1 x y w l 2 ((k+1:Nat):Int)=some (.inl (z,false,()))):=by
       intro s' hs';have h:=ih n' (k+1) false s' h3 (λx hx=>hc x (mT hx)) (λ_=>hs') (by simp at hn;omega)
       refine⟨λg r hr=> ?_,h.2⟩
       obtain⟨q1,q2⟩:=h.1 g r hr;refine⟨.inr ?_,q2⟩;rcases q1 with⟨rfl,rfl⟩|q1
       . have hr:some (false,s')=some (false,r):=hr;injection hr with hr
         injection hr with _ hr
         subst hr;exact⟨rfl,hs'⟩
       . exact q1
      cases f with
      |true=>
       rw[cond_true,cond_true,iP rfl];exact fin (A,B) ⟨gA,gB⟩
      |false=>
       have hs:=hs rfl;rw[cond_false,iN' (by simp),pLess hm gA hs.1,pLess hm hs.2 gB]
       simp only[bS,bQ,cond_false];have ih':=fin (minQ s.1 A,maxQ s.2 B) (hs.step gA gB);dsimp only at ih';unfold minQ maxQ at*;by_cases c1:rv A<rv s.1
       . simp only[iP c1]at ih'⊢;by_cases c2:rv s.2<rv B
         . simp only[iP c2]at ih'⊢;exact ih'
         . simp only[iN' c2]at ih'⊢;exact ih'
       . simp only[iN' c1]at ih'⊢;by_cases c2:rv s.2<rv B
         . simp only[iP c2]at ih'⊢;exact ih'
         . simp only[iN' c2]at ih'⊢;exact ih'
    . have cd: ∀{α:Type} (x y:α),(bif B.1 then x else y)=x:=λa b=>by rw[hb];rfl
      rw[cd,iP (.inr hb)];exact⟨λg r h=>(by cases h),λ_=>⟨_,rfl⟩⟩
  . have cb: ∀{α:Type} (x y:α),(bif A.1 then x else y)=x:=λa b=>by rw[ha];rfl
    rw[cb,iP (.inl ha)];exact⟨λg r h=>(by cases h),λ_=>⟨_,rfl⟩⟩
theorem qpx {x d:I2} (hx:G2 x) (hd:G2 d) (p:Int):
 (∀r,quQ x d p=some r->G2 r/\g107 m x.1.1 x.1.2.1 x.1.2.2.1 x.1.2.2.2.1 x.2.1 x.2.2.1 x.2.2.2.1 x.2.2.2.2.1 d.1.1 d.1.2.1 d.1.2.2.1 d.1.2.2.2.1 d.2.1 d.2.2.1 d.2.2.2.1 d.2.2.2.2.1 p=some ((fl r,true,()),(),(),(),()))/\
 (quQ x d p=none-> ∃z,g107 m x.1.1 x.1.2.1 x.1.2.2.1 x.1.2.2.2.1 x.2.1 x.2.2.1 x.2.2.2.1 x.2.2.2.2.1 d.1.1 d.1.2.1 d.1.2.2.1 d.1.2.2.2.1 d.2.1 d.2.2.1 d.2.2.2.1 d.2.2.2.2.1 p=some ((z,false,()),(),(),(),())):=by
 obtain⟨m',hm'⟩: ∃m',m=m'+3:=⟨m-3,O⟩;have hseq:=qoi x d p ((false,false,[],0,()),(false,false,[],0,()))
 have hmem: ∀y∈[d.1,d.2],Gd y:=λy hy=>by
  simp only[zU,zy,or_false]at hy;rcases hy with rfl|rfl
  . exact hd.1
  . exact hd.2
 have s1:g107L0 m m=g107L0 m (m'+1+1+1):=by rw[<-hm']
 have b1:=qj6 hm p d ((false,false,[],0,()),(false,false,[],0,())) hx.1 [dY x.1,dY x.2] 2 0 (l:=[dY d.1,dY d.2]) rfl [d.1,d.2] m 0 true ((false,false,[],0,()),(false,false,[],0,())) rfl hmem (λh=>by cases h) (by simp;omega)
 dsimp only at b1;rw[nZ]at b1;have g0:([dY x.1,dY x.2]).getD (0+(0:Int).toNat) zI=dY x.1:=rfl;have g1:([dY x.1,dY x.2]).getD (0+(1:Int).toNat) zI=dY x.2:=rfl;have w0:wI ((0:Int)+1)=1:=by decide
 have w1:wI ((1:Int)+1)=2:=by decide
 rw[g107,s1,g107L0,bQ,iP (by decide),iP (by simp),g0]
 dsimp only;cases hq:quoF p x.1 [d.1,d.2] (true,((false,false,[],0,()),(false,false,[],0,())))with
 |none=>
  obtain⟨z,hz⟩:=b1.2 hq;rw[hq]at hseq
  have hn:quQ x d p=none:=by
   cases h:quQ x d p with
   |none=>rfl
   |some r=>rw[h]at hseq;cases hseq
  rw[hz];exact⟨λr hr=>(by rw[hn]at hr;cases hr),λ_=>⟨_,rfl⟩⟩
 |some gr=>
  obtain⟨g,r⟩:=gr;obtain⟨q1,q2⟩:=b1.1 g r hq;rcases q1 with⟨h,_⟩|⟨rfl,gr⟩
  . cases h
  have b2:=qj6 hm p d ((false,false,[],0,()),(false,false,[],0,())) hx.2 [dY x.1,dY x.2] 2 1 (l:=[dY d.1,dY d.2]) rfl [d.1,d.2] m 0 false r rfl hmem (λh=>gr) (by simp;omega)
  dsimp only at b2;rw[nZ]at b2;rw[hq,bS]at hseq;rw[q2,bS];dsimp only;rw[w0,g107L0,bQ,iP (by decide),iP (by simp),g1]
  dsimp only;cases hq2:quoF p x.2 [d.1,d.2] (false,r)with
  |none=>
   obtain⟨z,hz⟩:=b2.2 hq2;rw[hq2]at hseq
   have hn:quQ x d p=none:=by
    cases h:quQ x d p with
    |none=>rfl
    |some r=>rw[h]at hseq;cases hseq
   rw[hz];exact⟨λr hr=>(by rw[hn]at hr;cases hr),λ_=>⟨_,rfl⟩⟩
  |some gr2=>
   obtain⟨g',r'⟩:=gr2;obtain⟨q3,q4⟩:=b2.1 g' r' hq2;rcases q3 with⟨h,_⟩|⟨rfl,gr'⟩
   . cases h
   rw[hq2]at hseq
   have hn:quQ x d p=some r':=by
    cases h:quQ x d p with
    |none=>rw[h]at hseq;cases hseq
    |some r=>rw[h]at hseq;injection hseq with e;injection e with _ e;rw[e]
   rw[q4,bS];dsimp only;rw[w1,g107L0,bQ,iN' (by decide),bS]
   refine⟨λr hr=> ?_,λh=>by rw[hn]at h;cases h⟩
   rw[hn]at hr;injection hr with hr
   subst hr;exact⟨gr',rfl⟩
def nextQ (s x y p:I2) (bits:Int):Option I2:=
 (prQ x y).bind λn=>(quQ n p bits).bind λq=>
   if(Qx (subQ s.1 q.2) bits 1).1=true\/(Qx (subQ s.2 q.1) bits 2).1=true then none else some (Qx (subQ s.1 q.2) bits 1,Qx (subQ s.2 q.1) bits 2)
theorem sub_eq {x q:I2} (hx:G2 x) (hq:G2 q) (bits:Int):
 g108 m x.1.1 x.1.2.1 x.1.2.2.1 x.1.2.2.2.1 x.2.1 x.2.2.1 x.2.2.2.1 x.2.2.2.2.1 q.1.1 q.1.2.1 q.1.2.2.1 q.1.2.2.2.1 q.2.1 q.2.2.1 q.2.2.2.1 q.2.2.2.2.1 bits=
  some ((fl (Qx (subQ x.1 q.2) bits 1,Qx (subQ x.2 q.1) bits 2),!((Qx (subQ x.1 q.2) bits 1).1||(Qx (subQ x.2 q.1) bits 2).1),()),(),(),(),()):=by
 have c1:=Ze (subQ x.1 q.2) bits 1;have c2:=Ze (subQ x.2 q.1) bits 2;rw[g108,pSub hm hx.1 hq.2,bS];dsimp only;rw[qnm hm (q0w ..),bS,pSub hm hx.2 hq.1,bS];dsimp only;rw[qnm hm (q0w ..),bS];dsimp only;rw[q8y hm c1,q8y hm c2];simp only[bS];generalize Qx (subQ x.1 q.2) bits 1=A at*;generalize Qx (subQ x.2 q.1) bits 2=B at*;have haa:A.1=false\/A.1=true:=by cases A.1<;>simp
 rcases haa with ha|ha
 . have cb: ∀{α:Type} (x y:α),(bif !A.1 then x else y)=x:=λa b=>by rw[ha];rfl
   rw[cb];have:(!(A.1||B.1))= !B.1:=by rw[ha,Bool.false_or]
   rw[this]
 . have cb: ∀{α:Type} (x y:α),(bif !A.1 then x else y)=y:=λa b=>by rw[ha];rfl
   rw[cb];have:(!(A.1||B.1))=false:=by rw[ha,zz3];rfl
   rw[this]
theorem q4v {n d:I2} (hn:G2 n) (hd:G2 d) (p mode:Int):
 g74 m n.1.1 n.1.2.1 n.1.2.2.1 n.1.2.2.2.1 n.2.1 n.2.2.1 n.2.2.2.1 n.2.2.2.2.1 d.1.1 d.1.2.1 d.1.2.2.1 d.1.2.2.2.1 d.2.1 d.2.2.1 d.2.2.2.1 d.2.2.2.2.1 p mode=
  some ([quoQ n.1 d.1 p mode,quoQ n.1 d.2 p mode,quoQ n.2 d.1 p mode,quoQ n.2 d.2 p mode].map dY,(),(),(),(),()):=by
 rw[g74,rQuo hm hn.1 hd.1,rQuo hm hn.1 hd.2,rQuo hm hn.2 hd.1,rQuo hm hn.2 hd.2];rfl
theorem qpw {s x y p:I2} (hs:G2 s) (hx:G2 x) (hy:G2 y) (hp:G2 p) (bits:Int):
 (∀r,nextQ s x y p bits=some r->g41 m s.1.1 s.1.2.1 s.1.2.2.1 s.1.2.2.2.1 s.2.1 s.2.2.1 s.2.2.2.1 s.2.2.2.2.1 x.1.1 x.1.2.1 x.1.2.2.1 x.1.2.2.2.1 x.2.1 x.2.2.1 x.2.2.2.1 x.2.2.2.2.1 y.1.1 y.1.2.1 y.1.2.2.1 y.1.2.2.2.1 y.2.1 y.2.2.1 y.2.2.2.1 y.2.2.2.2.1 p.1.1 p.1.2.1 p.1.2.2.1 p.1.2.2.2.1 p.2.1 p.2.2.1 p.2.2.2.1 p.2.2.2.2.1 bits=some ((fl r,true,()),(),(),(),(),(),()))/\
 (nextQ s x y p bits=none-> ∃z,g41 m s.1.1 s.1.2.1 s.1.2.2.1 s.1.2.2.2.1 s.2.1 s.2.2.1 s.2.2.2.1 s.2.2.2.2.1 x.1.1 x.1.2.1 x.1.2.2.1 x.1.2.2.2.1 x.2.1 x.2.2.1 x.2.2.2.1 x.2.2.2.2.1 y.1.1 y.1.2.1 y.1.2.2.1 y.1.2.2.2.1 y.2.1 y.2.2.1 y.2.2.2.1 y.2.2.2.2.1 p.1.1 p.1.2.1 p.1.2.2.1 p.1.2.2.2.1 p.2.1 p.2.2.1 p.2.2.2.1 p.2.2.2.2.1 bits=some ((z,false,()),(),(),(),(),(),())):=by
 rw[g41,rMul hm hx.1 hy.1,rMul hm hx.1 hy.2,rMul hm hx.2 hy.1,rMul hm hx.2 hy.2];simp only[bS];have hh:=qex hm (d:=mulQ x.1 y.1) (ds:=[mulQ x.1 y.2,mulQ x.2 y.1,mulQ x.2 y.2]) (by simp) (mem4 (Zg ..) (Zg ..) (Zg ..) (Zg ..))
 unfold nextQ;cases hn:prQ x y with
 |none=>
  obtain⟨z,hz⟩:=hh.2 hn;rw[show [dY (mulQ x.1 y.1),dY (mulQ x.1 y.2),dY (mulQ x.2 y.1),dY (mulQ x.2 y.2)]=[mulQ x.1 y.1,mulQ x.1 y.2,mulQ x.2 y.1,mulQ x.2 y.2].map dY from rfl,hz]
  exact⟨λr h=>(by cases h),λ_=>⟨_,rfl⟩⟩
 |some n=>
  have gn:=qkf hn;rw[show [dY (mulQ x.1 y.1),dY (mulQ x.1 y.2),dY (mulQ x.2 y.1),dY (mulQ x.2 y.2)]=[mulQ x.1 y.1,mulQ x.1 y.2,mulQ x.2 y.1,mulQ x.2 y.2].map dY from rfl,hh.1 n hn,bS,bS]
  dsimp only;rw[zG1,cond_false,q4v hm gn hp,q4v hm gn hp];simp only[bS];have h1:=qex hm (d:=quoQ n.1 p.1 bits 1) (ds:=[quoQ n.1 p.2 bits 1,quoQ n.2 p.1 bits 1,quoQ n.2 p.2 bits 1]) (by simp) (mem4 (Qs ..) (Qs ..) (Qs ..) (Qs ..))
  have h2:=qex hm (d:=quoQ n.1 p.1 bits 2) (ds:=[quoQ n.1 p.2 bits 2,quoQ n.2 p.1 bits 2,quoQ n.2 p.2 bits 2]) (by simp) (mem4 (Qs ..) (Qs ..) (Qs ..) (Qs ..))
  unfold quQ;cases ha:hullQ [quoQ n.1 p.1 bits 1,quoQ n.1 p.2 bits 1,quoQ n.2 p.1 bits 1,quoQ n.2 p.2 bits 1]with
  |none=>
   obtain⟨z,hz⟩:=h1.2 ha;rw[hz];exact⟨λr h=>(by cases h),λ_=>⟨_,rfl⟩⟩
  |some a=>
   have g1:=q3l (mem4 (Qs ..) (Qs ..) (Qs ..) (Qs ..)) ha;rw[h1.1 a ha,bS,bS];dsimp only;rw[zG1,cond_false];cases hb:hullQ [quoQ n.1 p.1 bits 2,quoQ n.1 p.2 bits 2,quoQ n.2 p.1 bits 2,quoQ n.2 p.2 bits 2]with
   |none=>
    obtain⟨z,hz⟩:=h2.2 hb;rw[hz];exact⟨λr h=>(by cases h),λ_=>⟨_,rfl⟩⟩
   |some b=>
    have g2:=q3l (mem4 (Qs ..) (Qs ..) (Qs ..) (Qs ..)) hb;have c1:=Ze (subQ s.1 b.2) bits 1;have c2:=Ze (subQ s.2 a.1) bits 2;rw[h2.1 b hb];simp only[bS];rw[zG1,cond_false,rSub hm hs.1 g2.2,bS];dsimp only;rw[qnx hm (q0w ..),bS,rSub hm hs.2 g1.1,bS];dsimp only;rw[qnx hm (q0w ..),bS];dsimp only;rw[qi8 hm c1,qi8 hm c2];simp only[bS];generalize Qx (subQ s.1 b.2) bits 1=A at*;generalize Qx (subQ s.2 a.1) bits 2=B at*;have haa:A.1=false\/A.1=true:=by cases A.1<;>simp
    rcases haa with ha|ha
    . have cb: ∀{α:Type} (x y:α),(bif !A.1 then x else y)=x:=λa b=>by rw[ha];rfl
      rw[cb];have hbb:B.1=false\/B.1=true:=by cases B.1<;>simp
      rcases hbb with hb|hb
      . rw[iN' (by rw[ha,hb];simp)]
        refine⟨λr h=> ?_,λh=>by cases h⟩
        injection h with h
        subst h;rw[show(!B.1)=true by rw[hb];rfl]
      . rw[iP (.inr hb)];exact⟨λr h=>(by cases h),λ_=>⟨_,by rw[show(!B.1)=false by rw[hb];rfl]⟩⟩
    . have cb: ∀{α:Type} (x y:α),(bif !A.1 then x else y)=y:=λa b=>by rw[ha];rfl
      rw[cb,iP (.inl ha)];exact⟨λr h=>(by cases h),λ_=>⟨_,rfl⟩⟩
end
end Go.Vs.F
set_option maxRecDepth 100000
namespace Go.Vs.F
def InQ (s:I2) (t:Rat):Prop:=rv s.1<=t/\t<=rv s.2
def qod (a b:D5):rv (minQ a b)<=rv a/\rv (minQ a b)<=rv b:=by
 unfold minQ;split<;>grind
def qok (a b:D5):rv a<=rv (maxQ a b)/\rv b<=rv (maxQ a b):=by
 unfold maxQ;split<;>grind
def qft: ∀(l:List D5) (s r:I2),hullF l s=some r->rv r.1<=rv s.1/\rv s.2<=rv r.2/\ ∀d∈l,d.1=false/\rv r.1<=rv d/\rv d<=rv r.2
 |[],s,r,h=>by
  injection h with h
  subst h;exact⟨zQ3,zQ3,λd hd=>by cases hd⟩
 |d::l,s,r,h=>by
  rw[hullF]at h;split at h
  . cases h
  . rename_i c;obtain⟨h1,h2,h3⟩:=qft l _ r h;have a1:=qod s.1 d;have a2:=qok s.2 d;dsimp only at h1 h2;refine⟨zr1 h1 a1.1,zr1 a2.1 h2,λx hx=> ?_⟩
    rcases mC hx with rfl|hx
    . exact⟨by simpa using c,zr1 h1 a1.2,zr1 a2.2 h2⟩
    . exact h3 x hx
def q9o {l:List D5} {r:I2} (h:hullQ l=some r): ∀d∈l,d.1=false/\rv r.1<=rv d/\rv d<=rv r.2:=by
 cases l with
 |nil=>cases h
 |cons d l=>exact(qft _ _ _ h).2.2
def qlk {a b al ah bl bh L:Rat} (h1:al<=a) (h2:a<=ah) (h3:bl<=b) (h4:b<=bh) (c1:L<=al*bl) (c2:L<=al*bh) (c3:L<=ah*bl) (c4:L<=ah*bh):L<=a*b:=by
 have key: ∀x:Rat,L<=x*bl->L<=x*bh->L<=x*b:=by
  intro x d1 d2;by_cases c:0<=x
  . have:=Rat.mul_le_mul_of_nonneg_left h3 c;exact zr1 d1 this
  . have:=Rat.mul_le_mul_of_nonneg_left h4 (show 0<= -x by grind)
    grind
 by_cases c:0<=b
 . have:=zW2 h1 c;exact zr1 (key al c1 c2) this
 . have:=zW2 h2 (show 0<= -b by grind)
   have:=key ah c3 c4
   grind
def qnh {a b al ah bl bh H:Rat} (h1:al<=a) (h2:a<=ah) (h3:bl<=b) (h4:b<=bh) (c1:al*bl<=H) (c2:al*bh<=H) (c3:ah*bl<=H) (c4:ah*bh<=H):a*b<=H:=by
 have:=qlk (a:= -a) (b:=b) (al:= -ah) (ah:= -al) (bl:=bl) (bh:=bh) (L:= -H) (by grind) (by grind) h3 h4 (by grind) (by grind) (by grind) (by grind)
 grind
def qqv {x y n:I2} (hx:G2 x) (hy:G2 y) {a b:Rat} (ha:InQ x a) (hb:InQ y b) (h:prQ x y=some n):InQ n (a*b):=by
 have k:=q9o h;have k1:=k (mulQ x.1 y.1) (by simp)
 have k2:=k (mulQ x.1 y.2) (by simp)
 have k3:=k (mulQ x.2 y.1) (by simp)
 have k4:=k (mulQ x.2 y.2) (by simp)
 rw[q93 hx.1 hy.1 k1.1]at k1;rw[q93 hx.1 hy.2 k2.1]at k2;rw[q93 hx.2 hy.1 k3.1]at k3;rw[q93 hx.2 hy.2 k4.1]at k4;exact⟨qlk ha.1 ha.2 hb.1 hb.2 k1.2.1 k2.2.1 k3.2.1 k4.2.1,qnh ha.1 ha.2 hb.1 hb.2 k1.2.2 k2.2.2 k3.2.2 k4.2.2⟩
def qo7 {d e:Rat} (h:d<=e) (hs:0<d\/e<0):e⁻¹<=d⁻¹:=by
 have hd:d≠0:=by rcases hs with h|h<;>grind
 have he:e≠0:=by rcases hs with h|h<;>grind
 have h1:=Rat.mul_inv_cancel d hd;have h2:=Rat.mul_inv_cancel e he
 have hp:0<=d⁻¹*e⁻¹:=by
  rcases hs with h0|h0
  . exact zn1 (zW3 (Rat.inv_pos.2 h0)) (zW3 (Rat.inv_pos.2 (by grind)))
  . have h3:d⁻¹<=0:=by
     refine Rat.not_lt.1 λc=> ?_
     have:=zn1 (show 0<= -d by grind) (zW3 c)
     grind
    have h4:e⁻¹<=0:=by
     refine Rat.not_lt.1 λc=> ?_
     have:=zn1 (show 0<= -e by grind) (zW3 c)
     grind
    have:=zn1 (show 0<= -d⁻¹ by grind) (show 0<= -e⁻¹ by grind)
    grind
 have h3:(e-d)*(d⁻¹*e⁻¹)=d⁻¹-e⁻¹:=by grind
 have:=zn1 (show 0<=e-d by grind) hp
 grind
def Sgn (s:I2):Prop:=0<rv s.1\/rv s.2<0
instance (s:I2):Decidable (Sgn s):=by unfold Sgn;infer_instance
def qr5 {n p q:I2} (hn:G2 n) (hp:G2 p) {a d:Rat} (ha:InQ n a) (hd:InQ p d) (hs:Sgn p) {bits:Int} (h:quQ n p bits=some q):InQ q (a/d):=by
 unfold quQ at h;cases h1:hullQ [quoQ n.1 p.1 bits 1,quoQ n.1 p.2 bits 1,quoQ n.2 p.1 bits 1,quoQ n.2 p.2 bits 1]with
 |none=>rw[h1]at h;cases h
 |some u=>
  cases h2:hullQ [quoQ n.1 p.1 bits 2,quoQ n.1 p.2 bits 2,quoQ n.2 p.1 bits 2,quoQ n.2 p.2 bits 2]with
  |none=>rw[h1,h2]at h;cases h
  |some w=>
   rw[h1,h2,bS,bS]at h;injection h with h
   subst h;have k:=q9o h1;have l:=q9o h2
   have dn: ∀x∈[n.1,n.2],∀y∈[p.1,p.2],rv u.1<=rv x*(rv y)⁻¹:=by
    intro x hx y hy;simp only[zU,zy,or_false]at hx hy;rcases hx with rfl|rfl<;>rcases hy with rfl|rfl
    . have:=k (quoQ n.1 p.1 bits 1) (by simp)
      rw[<-Rat.div_def];exact zr1 this.2.1 (qa9 hn.1.cn hp.1.cn this.1)
    . have:=k (quoQ n.1 p.2 bits 1) (by simp)
      rw[<-Rat.div_def];exact zr1 this.2.1 (qa9 hn.1.cn hp.2.cn this.1)
    . have:=k (quoQ n.2 p.1 bits 1) (by simp)
      rw[<-Rat.div_def];exact zr1 this.2.1 (qa9 hn.2.cn hp.1.cn this.1)
    . have:=k (quoQ n.2 p.2 bits 1) (by simp)
      rw[<-Rat.div_def];exact zr1 this.2.1 (qa9 hn.2.cn hp.2.cn this.1)
   have up: ∀x∈[n.1,n.2],∀y∈[p.1,p.2],rv x*(rv y)⁻¹<=rv w.2:=by
    intro x hx y hy;simp only[zU,zy,or_false]at hx hy;rcases hx with rfl|rfl<;>rcases hy with rfl|rfl
    . have:=l (quoQ n.1 p.1 bits 2) (by simp)
      rw[<-Rat.div_def];exact zr1 (q9f hn.1.cn hp.1.cn this.1) this.2.2
    . have:=l (quoQ n.1 p.2 bits 2) (by simp)
      rw[<-Rat.div_def];exact zr1 (q9f hn.1.cn hp.2.cn this.1) this.2.2
    . have:=l (quoQ n.2 p.1 bits 2) (by simp)
      rw[<-Rat.div_def];exact zr1 (q9f hn.2.cn hp.1.cn this.1) this.2.2
    . have:=l (quoQ n.2 p.2 bits 2) (by simp)
      rw[<-Rat.div_def];exact zr1 (q9f hn.2.cn hp.2.cn this.1) this.2.2
   have m1:n.1∈[n.1,n.2]:=by simp
   have m2:n.2∈[n.1,n.2]:=by simp
   have m3:p.1∈[p.1,p.2]:=by simp
   have m4:p.2∈[p.1,p.2]:=by simp
   have i1:(rv p.2)⁻¹<=d⁻¹:=qo7 hd.2 (by unfold InQ at hd;rcases hs with h|h<;>grind)
   have i2:d⁻¹<=(rv p.1)⁻¹:=qo7 hd.1 (by unfold InQ at hd;rcases hs with h|h<;>grind)
   rw[zc2];exact⟨qlk ha.1 ha.2 i1 i2 (dn _ m1 _ m4) (dn _ m1 _ m3) (dn _ m2 _ m4) (dn _ m2 _ m3),qnh ha.1 ha.2 i1 i2 (up _ m1 _ m4) (up _ m1 _ m3) (up _ m2 _ m4) (up _ m2 _ m3)⟩
def qr1 {n p q:I2} {bits:Int} (h:quQ n p bits=some q):G2 q:=by
 unfold quQ at h;cases h1:hullQ [quoQ n.1 p.1 bits 1,quoQ n.1 p.2 bits 1,quoQ n.2 p.1 bits 1,quoQ n.2 p.2 bits 1]with
 |none=>rw[h1]at h;cases h
 |some u=>
  cases h2:hullQ [quoQ n.1 p.1 bits 2,quoQ n.1 p.2 bits 2,quoQ n.2 p.1 bits 2,quoQ n.2 p.2 bits 2]with
  |none=>rw[h1,h2]at h;cases h
  |some w=>
   rw[h1,h2,bS,bS]at h;injection h with h
   subst h;exact⟨(q3l (mem4 (Qs ..) (Qs ..) (Qs ..) (Qs ..)) h1).1,(q3l (mem4 (Qs ..) (Qs ..) (Qs ..) (Qs ..)) h2).2⟩
def qap {s x y p r:I2} {bits:Int} (h:nextQ s x y p bits=some r):G2 r:=by
 unfold nextQ at h;cases h1:prQ x y with
 |none=>rw[h1]at h;cases h
 |some n=>
  cases h2:quQ n p bits with
  |none=>rw[h1,bS,h2]at h;cases h
  |some q=>
   rw[h1,bS,h2,bS]at h;split at h
   . cases h
   . rename_i c;injection h with h
     subst h;exact⟨(Ze ..).gd (by simpa using λe=>c (.inl e)),(Ze ..).gd (by simpa using λe=>c (.inr e))⟩
def qmn {s x y p r:I2} (hs:G2 s) (hx:G2 x) (hy:G2 y) (hp:G2 p) {c a b d:Rat} (hc:InQ s c) (ha:InQ x a) (hb:InQ y b) (hd:InQ p d) (hS:Sgn p) {bits:Int} (h:nextQ s x y p bits=some r):InQ r (c-a*b/d):=by
 unfold nextQ at h;cases h1:prQ x y with
 |none=>rw[h1]at h;cases h
 |some n=>
  cases h2:quQ n p bits with
  |none=>rw[h1,bS,h2]at h;cases h
  |some q=>
   have g1:=qkf h1;have g2:=qr1 h2;have i1:=qqv hx hy ha hb h1;have i2:=qr5 g1 hp i1 hd hS h2;rw[h1,bS,h2,bS]at h;split at h
   . cases h
   . rename_i c;injection h with h
     subst h;have e1:(Qx (subQ s.1 q.2) bits 1).1=false:=by simpa using λe=>c (.inl e)
     have e2:(Qx (subQ s.2 q.1) bits 2).1=false:=by simpa using λe=>c (.inr e)
     have r1:=qle (q0w ..) e1;have r2:=ql6 (q0w ..) e2;rw[qjm hs.1 g2.2 (q3v (q0w ..) e1).1.ok]at r1;rw[qjm hs.2 g2.1 (q3v (q0w ..) e2).1.ok]at r2;unfold InQ at*;constructor
     . show rv (Qx (subQ s.1 q.2) bits 1)<=_
       grind
     . show _<=rv (Qx (subQ s.2 q.1) bits 2)
       grind
end Go.Vs.F
set_option maxRecDepth 100000
namespace Go.Vs.F
abbrev EIv:=(Bool×(Bool×LI)×Int)×Bool×(Bool×LI)×Int
abbrev eI (s:I2):EIv:=(dY s.1,dY s.2)
abbrev Tab:=Nat->Nat->I2
abbrev zII:EIv:=(qz,qz)
def matI (n:Nat) (T:Tab):List (List EIv):=mr n λi=>mr n λj=>eI (T i j)
def upI (T:Tab) (i j:Nat) (v:I2):Tab:=λa b=>if a=i/\b=j then v else T a b
def Je {n:Nat} {T:Tab}:(matI n T).length=n:=Q9
def qaq {n:Nat} {T:Tab} {i:Nat} (hi:i<n):(matI n T).getD ((i:Nat):Int).toNat []=mr n λj=>eI (T i j):=by
 rw[tN];unfold matI;rw[Ql hi]
def X6 {n:Nat} {T:Tab} {i:Nat} (hi:i<n):((matI n T).getD ((i:Nat):Int).toNat []).length=n:=by rw[qaq hi,Q9]
def Xn {n:Nat} {T:Tab} {i j:Nat} (hi:i<n) (hj:j<n):((matI n T).getD ((i:Nat):Int).toNat []).getD ((j:Nat):Int).toNat zII=eI (T i j):=by
 rw[qaq hi,tN,Ql hj]
def q5d {n:Nat} {T:Tab} {i j:Nat} {v:I2} (hi:i<n):(matI n T).set ((i:Nat):Int).toNat (((matI n T).getD ((i:Nat):Int).toNat []).set ((j:Nat):Int).toNat (eI v))=matI n (upI T i j v):=by
 rw[qaq hi,Zi,tN,tN];unfold matI;rw[Zi];refine qy λa ha=> ?_
 unfold upI;by_cases c:a=i
 . subst c;rw[iP rfl];refine qy λb hb=> ?_
   by_cases d:b=j
   . rw[iP d,iP ⟨rfl,d⟩]
   . rw[iN' d,iN' (λh=>d h.2)]
 . rw[iN' c];refine qy λb hb=> ?_
   rw[iN' (λh=>c h.1)]
def boolL (n:Nat) (L:Nat->Bool):List Bool:=mr n L
def J3 {n:Nat} {L:Nat->Bool}:(boolL n L).length=n:=Q9
def q09 {n:Nat} {L:Nat->Bool} {i:Nat} (hi:i<n):(boolL n L).getD (0+((i:Nat):Int).toNat) false=L i:=by
 rw[zF,tN];unfold boolL;rw[Ql hi]
def q70 {n:Nat} {L:Nat->Bool} {i:Nat} {b:Bool}:(boolL n L).set (0+((i:Nat):Int).toNat) b=boolL n (λk=>if k=i then b else L k):=by
 rw[zF,tN];unfold boolL;rw[Zi]
def stepI (bits:Int) (L:Nat->Bool) (p i j:Nat) (T:Tab):Option Tab:=
 if(L i&&L j)=true then(nextQ (T i j) (T i p) (T j p) (T p p) bits).map λv=>upI (upI T i j v) j i v else some T
def rowI (bits:Int) (L:Nat->Bool) (p i:Nat):Nat->Nat->Tab->Option Tab
 |0,_,T=>some T
 |c+1,j,T=>(stepI bits L p i j T).bind λT'=>rowI bits L p i c (j+1) T'
def remI (bits:Int) (L:Nat->Bool) (p:Nat):Nat->Nat->Tab->Option Tab
 |0,_,T=>some T
 |c+1,i,T=>(rowI bits L p i (i+1) 0 T).bind λT'=>remI bits L p c (i+1) T'
def GT (n:Nat) (T:Tab):Prop:= ∀i j,i<n->j<n->G2 (T i j)
def GT.up {n:Nat} {T:Tab} (h:GT n T) {i j:Nat} {v:I2} (hv:G2 v):GT n (upI T i j v):=λa b ha hb=>by
 unfold upI;split
 . exact hv
 . exact h a b ha hb
def qph {n:Nat} {bits:Int} {L:Nat->Bool} {p i j:Nat} {T T':Tab} (h:GT n T) (e:stepI bits L p i j T=some T'):GT n T':=by
 unfold stepI at e;split at e
 . cases hn:nextQ (T i j) (T i p) (T j p) (T p p) bits with
   |none=>rw[hn]at e;cases e
   |some v=>
    rw[hn]at e;have e:some (upI (upI T i j v) j i v)=some T':=e;injection e with e
    rw[<-e];exact(h.up (qap hn)).up (qap hn)
 . injection e with e;rw[<-e];exact h
def qb7 {bits:Int} {L:Nat->Bool} {p i:Nat} (h:L i=false): ∀(c j:Nat) (T:Tab),rowI bits L p i c j T=some T
 |0,_,_=>rfl
 |c+1,j,T=>by
  rw[rowI];unfold stepI;rw[h,iN' (by simp),bS]
  exact qb7 h c (j+1) T
def bool2 (b:Bool):b=false\/b=true:=by cases b<;>simp
section
variable {m:Nat} (hm:5000000000<=m) {n:Nat} (hn:n<=1000) {L:Nat->Bool} {p:Nat} (hp:p<n) (hLp:L p=false)
include hm hn hp hLp
theorem qj4 (bits x y:Int) {i:Nat} (hi:i<n): ∀(c N j:Nat) (T:Tab),c+j=i+1->c<N->GT n T->
 (∀T',rowI bits L p i c j T=some T'->GT n T'/\g64L1 m N (matI n T) (boolL n L) bits (p:Int) (i:Int) x y ((i+1:Nat):Int) (j:Int)=some (.inr (.inl ((matI n T',boolL n L,bits,()),(p:Int),x,y,()))))/\
 (rowI bits L p i c j T=none-> ∃z,g64L1 m N (matI n T) (boolL n L) bits (p:Int) (i:Int) x y ((i+1:Nat):Int) (j:Int)=some (.inl (z,false,()))):=by
 intro c;induction c with
 |zero=>
  intro N j T hj hN hT;obtain⟨N',rfl⟩: ∃N',N=N'+1:=⟨N-1,O⟩;refine⟨λT' h=> ?_,λh=>by cases h⟩
  have h:some T=some T':=h;injection h with h
  subst h;rw[g64L1,bQ,iN' O];exact⟨hT,rfl⟩
 |succ c ih=>
  intro N j T hj hN hT;obtain⟨N',rfl⟩: ∃N',N=N'+1:=⟨N-1,O⟩;have hjn:j<n:=O;have gi:(0:Int)<=(i:Int)/\(i:Int)<(n:Int):=O;have gj:(0:Int)<=(j:Int)/\(j:Int)<(n:Int):=O;have gp:(0:Int)<=(p:Int)/\(p:Int)<(n:Int):=O;have hw:wI ((j:Int)+1)=((j+1:Nat):Int):=wsucc O;rw[g64L1,bQ,iP O,J3,iP gi,q09 hi,iP gj,q09 hjn,rowI,hw];have key:=λT' (hT':GT n T')=>ih N' (j+1) T' O O hT'
  rcases bool2 (L i)with li|li
  . have e:stepI bits L p i j T=some T:=by unfold stepI;rw[li,iN' (by simp)]
    rw[e,bS,li,zf1,cond_true];exact key T hT
  . rcases bool2 (L j)with lj|lj
    . have e:stepI bits L p i j T=some T:=by unfold stepI;rw[lj,zD4,iN' (by simp)]
      rw[e,bS,li,lj,zG1,cond_false,zf1,cond_true];exact key T hT
    . have e:stepI bits L p i j T=(nextQ (T i j) (T i p) (T j p) (T p p) bits).map λv=>upI (upI T i j v) j i v:=by unfold stepI;rw[li,lj,iP (by simp)]
      rw[e,li,lj,zG1,cond_false,cond_false];simp only[Je,X6 hi,X6 hjn,X6 hp,iP gi,iP gj,iP gp,Xn hi hp,Xn hjn hp,Xn hp hp,Xn hi hjn];have hpr:=qon hm (hT i p hi hp) (hT j p hjn hp);unfold nextQ;cases h1:prQ (T i p) (T j p)with
      |none=>
       obtain⟨z,hz⟩:=hpr.2 h1;rw[hz];refine⟨λT' h=>(by cases h),λ_=>⟨_,rfl⟩⟩
      |some q=>
       have g1:=qkf h1;rw[hpr.1 q h1,bS,bS];dsimp only;rw[zG1,cond_false];have hqu:=qpx hm g1 (hT p p hp hp) bits;cases h2:quQ q (T p p) bits with
       |none=>
        obtain⟨z,hz⟩:=hqu.2 h2;rw[hz];refine⟨λT' h=>(by cases h),λ_=>⟨_,rfl⟩⟩
       |some r=>
        obtain⟨g2,hq⟩:=hqu.1 r h2;rw[hq,bS,bS];dsimp only;rw[zG1,cond_false,sub_eq hm (hT i j hi hjn) g2,bS];dsimp only;rw[zG3];have k1:=Ze (subQ (T i j).1 r.2) bits 1;have k2:=Ze (subQ (T i j).2 r.1) bits 2;generalize Qx (subQ (T i j).1 r.2) bits 1=A at*;generalize Qx (subQ (T i j).2 r.1) bits 2=B at*;by_cases hab:A.1=true\/B.1=true
        . have:(A.1||B.1)=true:=by simpa using hab
          rw[this,cond_true,iP hab];exact⟨λT' h=>(by cases h),λ_=>⟨_,rfl⟩⟩
        . have:(A.1||B.1)=false:=by simpa using hab
          rw[this,cond_false,iN' hab];have g3:G2 (A,B):=⟨k1.gd (by simpa using λe=>hab (.inl e)),k2.gd (by simpa using λe=>hab (.inr e))⟩
          have s1:=q5d (T:=T) (v:=(A,B)) (j:=j) hi;have s2:=q5d (T:=upI T i j (A,B)) (v:=(A,B)) (j:=i) hjn;dsimp only[eI]at s1 s2;simp only[s1,s2,X6 hjn,iP gi];exact key (upI (upI T i j (A,B)) j i (A,B)) ((hT.up g3).up g3)
theorem qjn (bits:Int): ∀(c N i:Nat) (T:Tab),c+i=n->c<N->GT n T->
 (∀T',remI bits L p c i T=some T'->GT n T'/\g64L0 m N (matI n T) (boolL n L) bits (p:Int) (n:Int) (i:Int)=some (.inr (.inl ((matI n T',boolL n L,bits,()),()))))/\
 (remI bits L p c i T=none-> ∃z,g64L0 m N (matI n T) (boolL n L) bits (p:Int) (n:Int) (i:Int)=some (.inl (z,false,()))):=by
 intro c;induction c with
 |zero=>
  intro N i T hi hN hT;obtain⟨N',rfl⟩: ∃N',N=N'+1:=⟨N-1,O⟩;refine⟨λT' h=> ?_,λh=>by cases h⟩
  have h:some T=some T':=h;injection h with h
  subst h;rw[g64L0,bQ,iN' O];exact⟨hT,rfl⟩
 |succ c ih=>
  intro N i T hi hN hT;obtain⟨N',rfl⟩: ∃N',N=N'+1:=⟨N-1,O⟩;have hin:i<n:=O;have hw:wI ((i:Int)+1)=((i+1:Nat):Int):=wsucc O;have h1:=qj4 hm hn hp hLp bits (n:Int) (i:Int) hin (i+1) m 0 T O O hT;rw[nZ]at h1;rw[g64L0,bQ,iP O,remI,hw];cases h2:rowI bits L p i (i+1) 0 T with
  |none=>
   obtain⟨z,hz⟩:=h1.2 h2;rw[hz];exact⟨λT' h=>(by cases h),λ_=>⟨_,rfl⟩⟩
  |some T1=>
   obtain⟨g1,e1⟩:=h1.1 T1 h2;rw[e1,bS,bS];dsimp only;rw[hw];exact ih N' (i+1) T1 O O g1
theorem qha (bits a0 a1 a2:Int) (b0 b1 b2 t:Int) {i:Nat} (hi:i<n): ∀(c N j:Nat) (T:Tab),c+j=i+1->c<N->GT n T->
 (∀T',rowI bits L p i c j T=some T'->GT n T'/\g13L5 m N bits a0 a1 a2 (n:Int) (matI n T) (boolL n λk=> !L k) b0 b1 b2 t (p:Int) (i:Int) (j:Int)=some (.inr (.inl (bits,(a0,a1,a2,()),(n:Int),matI n T',boolL n (λk=> !L k),(b0,b1,b2,()),t,(p:Int),(i:Int),()))))/\
 (rowI bits L p i c j T=none->g13L5 m N bits a0 a1 a2 (n:Int) (matI n T) (boolL n λk=> !L k) b0 b1 b2 t (p:Int) (i:Int) (j:Int)=some (.inl ((0,0,0,()),false,0,()))):=by
 intro c;induction c with
 |zero=>
  intro N j T hj hN hT;obtain⟨N',rfl⟩: ∃N',N=N'+1:=⟨N-1,O⟩;refine⟨λT' h=> ?_,λh=>by cases h⟩
  have h:some T=some T':=h;injection h with h
  subst h;rw[g13L5,bQ,iN' O];exact⟨hT,rfl⟩
 |succ c ih=>
  intro N j T hj hN hT;obtain⟨N',rfl⟩: ∃N',N=N'+1:=⟨N-1,O⟩;have hjn:j<n:=O;have gi:(0:Int)<=(i:Int)/\(i:Int)<(n:Int):=O;have gj:(0:Int)<=(j:Int)/\(j:Int)<(n:Int):=O;have gp:(0:Int)<=(p:Int)/\(p:Int)<(n:Int):=O;have hw:wI ((j:Int)+1)=((j+1:Nat):Int):=wsucc O;have key:=λT' (hT':GT n T')=>ih N' (j+1) T' O O hT'
  rw[g13L5,bQ,iP O,J3,iP gi,q09 hi,iP gj,q09 hjn,hw,zG3];rcases bool2 (L i)with li|li
  . rw[qb7 li,li,cond_false];refine⟨λT' h=> ?_,λh=>by cases h⟩
    injection h with h
    subst h;exact⟨hT,rfl⟩
  . rw[rowI];rcases bool2 (L j)with lj|lj
    . have e:stepI bits L p i j T=some T:=by unfold stepI;rw[lj,zD4,iN' (by simp)]
      rw[e,bS,li,lj,cond_true,zf1,cond_true];exact key T hT
    . have e:stepI bits L p i j T=(nextQ (T i j) (T i p) (T j p) (T p p) bits).map λv=>upI (upI T i j v) j i v:=by unfold stepI;rw[li,lj,iP (by simp)]
      rw[e,li,lj,cond_true,zG1,cond_false];simp only[Je,X6 hi,X6 hjn,X6 hp,iP gi,iP gj,iP gp,Xn hi hp,Xn hjn hp,Xn hp hp,Xn hi hjn];have hne:=qpw hm (hT i j hi hjn) (hT i p hi hp) (hT j p hjn hp) (hT p p hp hp) bits;cases h1:nextQ (T i j) (T i p) (T j p) (T p p) bits with
      |none=>
       obtain⟨z,hz⟩:=hne.2 h1;rw[hz];exact⟨λT' h=>(by cases h),λ_=>rfl⟩
      |some v=>
       have g3:=qap h1;have s1:=q5d (T:=T) (v:=v) (j:=j) hi;have s2:=q5d (T:=upI T i j v) (v:=v) (j:=i) hjn;dsimp only[eI]at s1 s2;rw[hne.1 v h1,bS];dsimp only;rw[zG1,cond_false];simp only[s1,s2,X6 hjn,iP gi];exact key (upI (upI T i j v) j i v) ((hT.up g3).up g3)
theorem q8w (bits a0 a1 a2:Int) (b0 b1 b2 t:Int): ∀(c N i:Nat) (T:Tab),c+i=n->c<N->GT n T->
 (∀T',remI bits L p c i T=some T'->GT n T'/\g13L4 m N bits a0 a1 a2 (n:Int) (matI n T) (boolL n λk=> !L k) b0 b1 b2 t (p:Int) (i:Int)=some (.inr (.inl (bits,(a0,a1,a2,()),(n:Int),matI n T',boolL n (λk=> !L k),(b0,b1,b2,()),t,()))))/\
 (remI bits L p c i T=none->g13L4 m N bits a0 a1 a2 (n:Int) (matI n T) (boolL n λk=> !L k) b0 b1 b2 t (p:Int) (i:Int)=some (.inl ((0,0,0,()),false,0,()))):=by
 intro c;induction c with
 |zero=>
  intro N i T hi hN hT;obtain⟨N',rfl⟩: ∃N',N=N'+1:=⟨N-1,O⟩;refine⟨λT' h=> ?_,λh=>by cases h⟩
  have h:some T=some T':=h;injection h with h
  subst h;rw[g13L4,bQ,iN' O];exact⟨hT,rfl⟩
 |succ c ih=>
  intro N i T hi hN hT;obtain⟨N',rfl⟩: ∃N',N=N'+1:=⟨N-1,O⟩;have hin:i<n:=O;have hw:wI ((i:Int)+1)=((i+1:Nat):Int):=wsucc O;have h1:=qha hm hn hp hLp bits a0 a1 a2 b0 b1 b2 t hin (i+1) m 0 T O O hT;rw[nZ]at h1;rw[g13L4,bQ,iP O,remI];cases h2:rowI bits L p i (i+1) 0 T with
  |none=>
   rw[h1.2 h2];exact⟨λT' h=>(by cases h),λ_=>rfl⟩
  |some T1=>
   obtain⟨g1,e1⟩:=h1.1 T1 h2;rw[e1,bS,bS];dsimp only;rw[hw];exact ih N' (i+1) T1 O O g1
end
end Go.Vs.F
set_option maxRecDepth 100000
namespace Go.Vs.F
def abQ (x:Rat):Rat:=if x<0 then-x else x
def dq (s:I2):Rat:=if abQ (rv s.2)<abQ (rv s.1)then abQ (rv s.2)else abQ (rv s.1)
def bI:Option Nat->Int
 |none=> -1
 |some q=>(q:Int)
def pvt (T:Tab) (L:Nat->Bool) (k:Nat) (b:Option Nat):Bool:=
 L k&&decide (Sgn (T k k))&&(match b with|none=>true|some q=>decide (dq (T q q)<dq (T k k)))
def pivF (T:Tab) (L:Nat->Bool):Nat->Nat->Option Nat->Option Nat
 |0,_,b=>b
 |c+1,k,b=>pivF T L c (k+1) (if pvt T L k b=true then some k else b)
def BOK (n:Nat) (T:Tab) (L:Nat->Bool):Option Nat->Prop
 |none=>True
 |some q=>q<n/\L q=true/\Sgn (T q q)
def BOK.step {n:Nat} {T:Tab} {L:Nat->Bool} {k:Nat} {b:Option Nat} (h:BOK n T L b) (hk:k<n):BOK n T L (if pvt T L k b=true then some k else b):=by
 split
 . rename_i c;unfold pvt at c;simp only[zM,decide_eq_true_eq]at c;exact⟨hk,c.1.1,c.1.2⟩
 . exact h
def qdj {n:Nat} {T:Tab} {L:Nat->Bool}: ∀(c k:Nat) (b:Option Nat),c+k=n->BOK n T L b->BOK n T L (pivF T L c k b)
 |0,_,_,_,h=>h
 |c+1,k,b,hk,h=>qdj c (k+1) _ O (h.step O)
def Yu {x:Rat}:sgq x>0↔0<x:=by
 unfold sgq;by_cases c:x<0
 . rw[iP c];constructor
   . intro h;omega
   . intro h;grind
 . rw[iN' c];by_cases d:x=0
   . rw[iP d];constructor
     . intro h;omega
     . intro h;grind
   . rw[iN' d];constructor
     . intro h;grind
     . intro h;omega
def q0j {x:Rat}:sgq x<0↔x<0:=by
 unfold sgq;by_cases c:x<0
 . rw[iP c];exact⟨λ_=>c,λ_=>O⟩
 . rw[iN' c];by_cases d:x=0
   . rw[iP d];exact⟨λh=>O,λh=>absurd h c⟩
   . rw[iN' d];exact⟨λh=>O,λh=>absurd h c⟩
def q2c {a:D5} (ha:Gd a):rv (absQ a)=abQ (rv a):=by rw[qp2 ha];rfl
section
variable {m:Nat} (hm:5000000000<=m)
include hm
theorem sign_eq {s:I2} (hs:G2 s) (ho:rv s.1<=rv s.2):
 g63 m s.1.1 s.1.2.1 s.1.2.2.1 s.1.2.2.2.1 s.2.1 s.2.2.1 s.2.2.2.1 s.2.2.2.2.1=some (if 0<rv s.1 then 1 else if rv s.2<0 then-1 else 0,(),()):=by
 rw[g63,pSgn hm hs.1,bS,bQ,pSgn hm hs.2,bS,bQ];simp only[Yu,q0j];split
 . rfl
 . split<;>rfl
theorem qin {s:I2} (hs:G2 s): ∃d,Gd d/\rv d=dq s/\g105 m s.1.1 s.1.2.1 s.1.2.2.1 s.1.2.2.2.1 s.2.1 s.2.2.1 s.2.2.2.1 s.2.2.2.2.1=some (d,(),()):=by
 have g1:=q96 hs.1;have g2:=q96 hs.2;rw[g105,pAbs hm hs.1,bS,pAbs hm hs.2,bS];dsimp only;rw[pLess hm g2 g1,bS,bQ,q2c hs.1,q2c hs.2];unfold dq;split
 . exact⟨_,g2,q2c hs.2,rfl⟩
 . exact⟨_,g1,q2c hs.1,rfl⟩
theorem qgm {s:I2} (hs:G2 s) (ho:rv s.1<=rv s.2): ∃d,Gd d/\(Sgn s->rv d=dq s)/\(sgq (rv d)>0↔Sgn s)/\g39 m s.1.1 s.1.2.1 s.1.2.2.1 s.1.2.2.2.1 s.2.1 s.2.2.1 s.2.2.2.1 s.2.2.2.2.1=some (d,(),()):=by
 have g1:=q96 hs.1;have g2:=q96 hs.2
 have go:Sgn s-> ∃d,Gd d/\(Sgn s->rv d=dq s)/\(sgq (rv d)>0↔Sgn s)/\((g70 m s.1.1 s.1.2.1 s.1.2.2.1 s.1.2.2.2.1).bind λy3=>
  (g70 m s.2.1 s.2.2.1 s.2.2.2.1 s.2.2.2.2.1).bind λy4=>
  (g40 m y3.1.1 y3.1.2.1 y3.1.2.2.1 y3.1.2.2.2.1 y4.1.1 y4.1.2.1 y4.1.2.2.1 y4.1.2.2.2.1).bind λy5=>
  bif y5.1 then
   some ((y3.1.1,y3.1.2.1,y3.1.2.2.1,y3.1.2.2.2.1,()),((),()))
  else
   some ((y4.1.1,y4.1.2.1,y4.1.2.2.1,y4.1.2.2.2.1,()),((),())))=some (d,(),()):=by
  intro hS
  have p1:0<abQ (rv s.1)/\0<abQ (rv s.2):=by
   unfold abQ;rcases hS with h|h
   . constructor<;>split<;>grind
   . constructor<;>split<;>grind
  rw[rAbs hm hs.1,bS,rAbs hm hs.2,bS];dsimp only;rw[rLess hm g1 g2,bS,bQ,q2c hs.1,q2c hs.2];by_cases c:abQ (rv s.1)<abQ (rv s.2)
  . rw[iP c];refine⟨_,g1,λ_=> ?_,?_,rfl⟩
    . rw[q2c hs.1];unfold dq;rw[iN' (by grind)]
    . rw[q2c hs.1,Yu];exact⟨λ_=>hS,λ_=>p1.1⟩
  . rw[iN' c];refine⟨_,g2,λ_=> ?_,?_,rfl⟩
    . rw[q2c hs.2];unfold dq;split<;>grind
    . rw[q2c hs.2,Yu];exact⟨λ_=>hS,λ_=>p1.2⟩
 rw[g39,rSgn hm hs.1,bS,bQ,rSgn hm hs.2,bS,bQ];dsimp only;by_cases c1:sgq (rv s.1)<=0
 . rw[iP c1];have n1: ¬0<rv s.1:=λh=>by have:=Yu.2 h;omega
   by_cases c2:sgq (rv s.2)>=0
   . have n2: ¬rv s.2<0:=λh=>by have:=q0j.2 h;omega
     have nS: ¬Sgn s:=λh=>h.elim n1 n2
     rw[iP c2];have gz:Gd (mkD 0 0):=Gd_mk (qg1 0);have z0:rv (mkD 0 0)=0:=by rw[rv_mk (qg1 0)];exact zw2 _
     refine⟨mkD 0 0,gz,λh=>absurd h nS,?_,rfl⟩
     rw[Yu,z0];exact⟨λh=>absurd h (by decide),λh=>absurd h nS⟩
   . rw[iN' c2];exact go (.inr (q0j.1 O))
 . rw[iN' c1];exact go (.inl (Yu.1 O))
variable {n:Nat} (hn:n<=1000) {L:Nat->Bool}
include hn
theorem ql9 (bits:Int) {T:Tab} (hT:GT n T) (hO: ∀i,i<n->L i=true->rv (T i i).1<=rv (T i i).2): ∀(c N k:Nat) (b:Option Nat),c+k=n->c<N->BOK n T L b->
 g62L0 m N (matI n T) (boolL n L) bits (bI b) (n:Int) (k:Int)=some (.inl ((matI n T,boolL n L,bits,()),bI (pivF T L c k b),())):=by
 intro c;induction c with
 |zero=>
  intro N k b hk hN hb;obtain⟨N',rfl⟩: ∃N',N=N'+1:=⟨N-1,O⟩;rw[g62L0,bQ,iN' O];rfl
 |succ c ih=>
  intro N k b hk hN hb;obtain⟨N',rfl⟩: ∃N',N=N'+1:=⟨N-1,O⟩;have hkn:k<n:=O;have gk:(0:Int)<=(k:Int)/\(k:Int)<(n:Int):=O;have hw:wI ((k:Int)+1)=((k+1:Nat):Int):=wsucc O;have key:=λb' (hb':BOK n T L b')=>ih N' (k+1) b' O O hb'
  rw[g62L0,bQ,iP O,J3,iP gk,q09 hkn,hw,pivF];rcases bool2 (L k)with lk|lk
  . have:pvt T L k b=false:=by unfold pvt;rw[lk,zB2,zB2]
    rw[lk,zf1,cond_true,this,iN' (by simp)]
    exact key b hb
  . rw[lk,zG1,cond_false];simp only[Je,X6 hkn,iP gk,Xn hkn hkn];rw[sign_eq hm (hT k k hkn hkn) (hO k hkn lk),bS,bif_eq];dsimp only;by_cases cs:Sgn (T k k)
    . have hne: ¬((if 0<rv (T k k).1 then(1:Int)else if rv (T k k).2<0 then-1 else 0)=0):=by
       unfold Sgn at cs;by_cases c1:0<rv (T k k).1
       . rw[iP c1];omega
       . rw[iN' c1,iP (cs.resolve_left c1)];omega
      rw[iN' hne,bQ];cases b with
      |none=>
       have:pvt T L k none=true:=by unfold pvt;rw[lk,decide_eq_true cs];rfl
       rw[iP (by decide),this,iP rfl]
       exact key (some k) ⟨hkn,lk,cs⟩
      |some q=>
       obtain⟨hq,lq,sq⟩:=hb;have gq:(0:Int)<=(q:Int)/\(q:Int)<(n:Int):=O;obtain⟨d1,g1,e1,r1⟩:=qin hm (hT q q hq hq);obtain⟨d2,g2,e2,r2⟩:=qin hm (hT k k hkn hkn);rw[iN' (by show¬((q:Int)<0);omega)]
       show(if(0:Int)<=(q:Int)/\(q:Int)<(n:Int)then _ else _)=_
       rw[iP gq];show(if(0:Int)<=(q:Int)/\(q:Int)<(((matI n T).getD ((q:Nat):Int).toNat []).length:Int)then _ else _)=_
       rw[X6 hq,iP gq];show((g105 m (((matI n T).getD ((q:Nat):Int).toNat []).getD ((q:Nat):Int).toNat zII).1.1 (((matI n T).getD ((q:Nat):Int).toNat []).getD ((q:Nat):Int).toNat zII).1.2.1.1 (((matI n T).getD ((q:Nat):Int).toNat []).getD ((q:Nat):Int).toNat zII).1.2.1.2 (((matI n T).getD ((q:Nat):Int).toNat []).getD ((q:Nat):Int).toNat zII).1.2.2 (((matI n T).getD ((q:Nat):Int).toNat []).getD ((q:Nat):Int).toNat zII).2.1 (((matI n T).getD ((q:Nat):Int).toNat []).getD ((q:Nat):Int).toNat zII).2.2.1.1 (((matI n T).getD ((q:Nat):Int).toNat []).getD ((q:Nat):Int).toNat zII).2.2.1.2 (((matI n T).getD ((q:Nat):Int).toNat []).getD ((q:Nat):Int).toNat zII).2.2.2).bind _)=_;rw[Xn hq hq,r1,bS,r2,bS];dsimp only;rw[pLess hm g1 g2,bS,bQ,e1,e2];by_cases cd:dq (T q q)<dq (T k k)
       . have:pvt T L k (some q)=true:=by unfold pvt;rw[lk,decide_eq_true cs];simpa using cd
         rw[iP cd,this,iP rfl];exact key (some k) ⟨hkn,lk,cs⟩
       . have:pvt T L k (some q)=false:=by unfold pvt;rw[lk,decide_eq_true cs];simpa using cd
         rw[iN' cd,this,iN' (by simp)]
         exact key (some q) ⟨hq,lq,sq⟩
    . have:pvt T L k b=false:=by unfold pvt;rw[decide_eq_false cs,zD4,zB2]
      have h0:(if 0<rv (T k k).1 then(1:Int)else if rv (T k k).2<0 then-1 else 0)=0:=by
       unfold Sgn at cs;rw[iN' (λh=>cs (.inl h)),iN' (λh=>cs (.inr h))]
      rw[iP h0,this,iN' (by simp)]
      exact key b hb
theorem qh5 (bits a0 a1 a2:Int) (b0 b1 b2 t:Int) {T:Tab} (hT:GT n T) (hO: ∀i,i<n->L i=true->rv (T i i).1<=rv (T i i).2): ∀(c N k:Nat) (b:Option Nat),c+k=n->c<N->BOK n T L b->
 g13L3 m N bits a0 a1 a2 (n:Int) (matI n T) (boolL n λk=> !L k) b0 b1 b2 t (bI b) (k:Int)=some (.inl (bits,(a0,a1,a2,()),(n:Int),matI n T,boolL n (λk=> !L k),(b0,b1,b2,()),t,bI (pivF T L c k b),())):=by
 intro c;induction c with
 |zero=>
  intro N k b hk hN hb;obtain⟨N',rfl⟩: ∃N',N=N'+1:=⟨N-1,O⟩;rw[g13L3,bQ,iN' O];rfl
 |succ c ih=>
  intro N k b hk hN hb;obtain⟨N',rfl⟩: ∃N',N=N'+1:=⟨N-1,O⟩;have hkn:k<n:=O;have gk:(0:Int)<=(k:Int)/\(k:Int)<(n:Int):=O;have hw:wI ((k:Int)+1)=((k+1:Nat):Int):=wsucc O;have key:=λb' (hb':BOK n T L b')=>ih N' (k+1) b' O O hb'
  rw[g13L3,bQ,iP O,J3,iP gk,q09 hkn,hw,pivF,zG3];rcases bool2 (L k)with lk|lk
  . have:pvt T L k b=false:=by unfold pvt;rw[lk,zB2,zB2]
    rw[lk,cond_false,this,iN' (by simp)]
    exact key b hb
  . rw[lk,cond_true];simp only[Je,X6 hkn,iP gk,Xn hkn hkn];obtain⟨d2,g2,e2,s2,r2⟩:=qgm hm (hT k k hkn hkn) (hO k hkn lk);rw[r2,bS];dsimp only;rw[rSgn hm g2,bS,bQ];dsimp only;by_cases cs:Sgn (T k k)
    . rw[iP (s2.2 cs),bQ];cases b with
      |none=>
       have:pvt T L k none=true:=by unfold pvt;rw[lk,decide_eq_true cs];rfl
       rw[iP (by decide),this,iP rfl]
       exact key (some k) ⟨hkn,lk,cs⟩
      |some q=>
       obtain⟨hq,lq,sq⟩:=hb;have gq:(0:Int)<=(q:Int)/\(q:Int)<(n:Int):=O;obtain⟨d1,g1,e1,s1,r1⟩:=qgm hm (hT q q hq hq) (hO q hq lq);rw[iN' (by show¬((q:Int)<0);omega)]
       show(if(0:Int)<=(q:Int)/\(q:Int)<(n:Int)then _ else _)=_
       rw[iP gq];show(if(0:Int)<=(q:Int)/\(q:Int)<(((matI n T).getD ((q:Nat):Int).toNat []).length:Int)then _ else _)=_
       rw[X6 hq,iP gq];show((g39 m (((matI n T).getD ((q:Nat):Int).toNat []).getD ((q:Nat):Int).toNat zII).1.1 (((matI n T).getD ((q:Nat):Int).toNat []).getD ((q:Nat):Int).toNat zII).1.2.1.1 (((matI n T).getD ((q:Nat):Int).toNat []).getD ((q:Nat):Int).toNat zII).1.2.1.2 (((matI n T).getD ((q:Nat):Int).toNat []).getD ((q:Nat):Int).toNat zII).1.2.2 (((matI n T).getD ((q:Nat):Int).toNat []).getD ((q:Nat):Int).toNat zII).2.1 (((matI n T).getD ((q:Nat):Int).toNat []).getD ((q:Nat):Int).toNat zII).2.2.1.1 (((matI n T).getD ((q:Nat):Int).toNat []).getD ((q:Nat):Int).toNat zII).2.2.1.2 (((matI n T).getD ((q:Nat):Int).toNat []).getD ((q:Nat):Int).toNat zII).2.2.2).bind _)=_;rw[Xn hq hq,r1,bS,bS];dsimp only;rw[rLess hm g1 g2,bS,bQ,e1 sq,e2 cs];by_cases cd:dq (T q q)<dq (T k k)
       . have:pvt T L k (some q)=true:=by unfold pvt;rw[lk,decide_eq_true cs];simpa using cd
         rw[iP cd,this,iP rfl];exact key (some k) ⟨hkn,lk,cs⟩
       . have:pvt T L k (some q)=false:=by unfold pvt;rw[lk,decide_eq_true cs];simpa using cd
         rw[iN' cd,this,iN' (by simp)]
         exact key (some q) ⟨hq,lq,sq⟩
    . have:pvt T L k b=false:=by unfold pvt;rw[decide_eq_false cs,zD4,zB2]
      rw[iN' (λh=>cs (s2.1 h)),this,iN' (by simp)]
      exact key b hb
end
end Go.Vs.F
set_option maxRecDepth 100000
namespace Go.Vs.F
def scF (X:Nat->Nat->Rat) (p i j:Nat):Rat:=X i j-X i p*X j p/X p p
structure StT (n:Nat) (L:Nat->Bool) (G:Nat->Nat->Rat) (T Y:Tab) (a c:Nat):Prop where
 done: ∀i j,i<n->j<n->L i=true->L j=true->prc a c i j->InQ (Y i j) (G i j)
 rest: ∀i j,i<n->j<n-> ¬(L i=true/\L j=true/\prc a c i j)->Y i j=T i j
section
variable {n:Nat} {bits:Int} {L:Nat->Bool} {p:Nat} (hp:p<n) (hLp:L p=false) {T:Tab} {X:Nat->Nat->Rat} (hT:GT n T)
 (hX: ∀i j,i<n->j<n->(L i=true\/i=p)->(L j=true\/j=p)->InQ (T i j) (X i j)/\X i j=X j i) (hS:Sgn (T p p))
include hp hLp hT hX hS
theorem StT.step {a c:Nat} {Y Y':Tab} (h:StT n L (scF X p) T Y a c) (ha:a<n) (hc:c<=a) (e:stepI bits L p a c Y=some Y'):StT n L (scF X p) T Y' a (c+1):=by
 have hcn:c<n:=O;unfold stepI at e;by_cases hl:(L a&&L c)=true
 . rw[iP hl]at e;have la:L a=true:=by simp at hl;exact hl.1
   have lc:L c=true:=by simp at hl;exact hl.2
   have y1:Y a c=T a c:=h.rest a c ha hcn (λk=>by have:=k.2.2;unfold prc at this;omega)
   have y2:Y a p=T a p:=h.rest a p ha hp (λk=>by rw[hLp]at k;exact absurd k.2.1 (by simp))
   have y3:Y c p=T c p:=h.rest c p hcn hp (λk=>by rw[hLp]at k;exact absurd k.2.1 (by simp))
   have y4:Y p p=T p p:=h.rest p p hp hp (λk=>by rw[hLp]at k;exact absurd k.1 (by simp))
   rw[y1,y2,y3,y4]at e;cases hn:nextQ (T a c) (T a p) (T c p) (T p p) bits with
   |none=>rw[hn]at e;cases e
   |some v=>
    rw[hn]at e;have e:some (upI (upI Y a c v) c a v)=some Y':=e;injection e with e
    subst e;have x1:=hX a c ha hcn (.inl la) (.inl lc);have x2:=hX a p ha hp (.inl la) (.inr rfl);have x3:=hX c p hcn hp (.inl lc) (.inr rfl);have x4:=hX p p hp hp (.inr rfl) (.inr rfl);have hv:InQ v (scF X p a c):=qmn (hT a c ha hcn) (hT a p ha hp) (hT c p hcn hp) (hT p p hp hp) x1.1 x2.1 x3.1 x4.1 hS hn
    have hsym:scF X p c a=scF X p a c:=by
     unfold scF;rw[x1.2,zk3]
    have key: ∀i j,upI (upI Y a c v) c a v i j=if(i=a/\j=c)\/(i=c/\j=a)then v else Y i j:=by
     intro i j;unfold upI;by_cases c1:i=c/\j=a
     . rw[iP c1,iP (.inr c1)]
     . rw[iN' c1];by_cases c2:i=a/\j=c
       . rw[iP c2,iP (.inl c2)]
       . rw[iN' c2,iN' (λh=>h.elim c2 c1)]
    refine⟨λi j hi hj li lj hq=> ?_,λi j hi hj hq=> ?_⟩
    . rw[key];by_cases c1:(i=a/\j=c)\/(i=c/\j=a)
      . rw[iP c1];rcases c1 with⟨rfl,rfl⟩|⟨rfl,rfl⟩
        . exact hv
        . rw[hsym];exact hv
      . rw[iN' c1];exact h.done i j hi hj li lj (by unfold prc at hq⊢;omega)
    . rw[key,iN' (λk=>hq (by
       rcases k with⟨rfl,rfl⟩|⟨rfl,rfl⟩
       . exact⟨la,lc,by unfold prc;omega⟩
       . exact⟨lc,la,by unfold prc;omega⟩))]
      exact h.rest i j hi hj (λk=>hq ⟨k.1,k.2.1,by have:=k.2.2;unfold prc at this⊢;omega⟩)
 . rw[iN' hl]at e;injection e with e
   subst e;have hno: ¬(L a=true/\L c=true):=λk=>hl (by rw[k.1,k.2];rfl)
   refine⟨λi j hi hj li lj hq=>h.done i j hi hj li lj ?_,λi j hi hj hq=>h.rest i j hi hj (λk=>hq ⟨k.1,k.2.1,by have:=k.2.2;unfold prc at this⊢;omega⟩)⟩
   by_cases c1:(i=a/\j=c)\/(i=c/\j=a)
   . exfalso;rcases c1 with⟨rfl,rfl⟩|⟨rfl,rfl⟩
     . exact hno ⟨li,lj⟩
     . exact hno ⟨lj,li⟩
   . unfold prc at hq⊢;omega
theorem qfs {a:Nat} (ha:a<n): ∀(k c:Nat) (Y Y':Tab),k+c=a+1->StT n L (scF X p) T Y a c->rowI bits L p a k c Y=some Y'->StT n L (scF X p) T Y' a (a+1)
 |0,c,Y,Y',hk,h,e=>by
  have e:some Y=some Y':=e;injection e with e
  subst e
  rwa [show c=a+1 by omega]at h
 |k+1,c,Y,Y',hk,h,e=>by
  rw[rowI]at e;cases h1:stepI bits L p a c Y with
  |none=>rw[h1]at e;cases e
  |some Z=>
   rw[h1,bS]at e;exact qfs ha k (c+1) Z Y' O (StT.step hp hLp hT hX hS h ha O h1) e
theorem qg9: ∀(k a:Nat) (Y Y':Tab),k+a=n->StT n L (scF X p) T Y a 0->remI bits L p k a Y=some Y'->StT n L (scF X p) T Y' n 0
 |0,a,Y,Y',hk,h,e=>by
  have e:some Y=some Y':=e;injection e with e
  subst e
  rwa [show a=n by omega]at h
 |k+1,a,Y,Y',hk,h,e=>by
  rw[remI]at e;cases h1:rowI bits L p a (a+1) 0 Y with
  |none=>rw[h1]at e;cases e
  |some Z=>
   rw[h1,bS]at e;have h2:=qfs hp hLp hT hX hS O (a+1) 0 Y Z O h h1;refine qg9 k (a+1) Z Y' O ⟨λi j hi hj li lj hq=>h2.done i j hi hj li lj ?_,λi j hi hj hq=>h2.rest i j hi hj (λq=>hq ⟨q.1,q.2.1,?_⟩)⟩ e
   . unfold prc at hq⊢;omega
   . have:=q.2.2;unfold prc at this⊢;omega
theorem qoc {T':Tab} (e:remI bits L p n 0 T=some T'): ∀i j,i<n->j<n->L i=true->L j=true->InQ (T' i j) (scF X p i j):=λi j hi hj li lj=>
 (qg9 hp hLp hT hX hS n 0 T T' O ⟨λi j _ _ _ _ hq=>by unfold prc at hq;omega,λ_ _ _ _ _=>rfl⟩ e).done i j hi hj li lj (by unfold prc;omega)
end
def dropL (L:Nat->Bool) (p:Nat):Nat->Bool:=λk=>if k=p then false else L k
def elimF (n:Nat) (bits:Int):Nat->Tab->(Nat->Bool)->Nat->Nat->Option (Nat×Nat)
 |0,_,_,a,b=>some (a,b)
 |c+1,T,L,a,b=>match pivF T L n 0 none with
  |none=>none
  |some p=>(remI bits (dropL L p) p n 0 T).bind λT'=>elimF n bits c T' (dropL L p) (if rv (T p p).1<0 then a+1 else a) (if rv (T p p).1<0 then b else b+1)
def q9j (L:Nat->Bool) (p:Nat):dropL L p p=false:=iP rfl
def q5e {L:Nat->Bool} {p i:Nat}:dropL L p i=true↔i≠p/\L i=true:=by
 unfold dropL;by_cases c:i=p
 . rw[iP c];simp[c]
 . rw[iN' c];simp[c]
end Go.Vs.F
set_option maxRecDepth 100000
namespace Go.Vs.F
def qnk {n:Nat} {bits:Int} {L:Nat->Bool} {p i:Nat}: ∀(c j:Nat) (T T':Tab),GT n T->rowI bits L p i c j T=some T'->GT n T'
 |0,j,T,T',h,e=>by
  have e:some T=some T':=e;injection e with e
  rwa [<-e]
 |c+1,j,T,T',h,e=>by
  rw[rowI]at e;cases h1:stepI bits L p i j T with
  |none=>rw[h1]at e;cases e
  |some Z=>
   rw[h1,bS]at e;exact qnk c (j+1) Z T' (qph h h1) e
def qo6 {n:Nat} {bits:Int} {L:Nat->Bool} {p:Nat}: ∀(c i:Nat) (T T':Tab),GT n T->remI bits L p c i T=some T'->GT n T'
 |0,j,T,T',h,e=>by
  have e:some T=some T':=e;injection e with e
  rwa [<-e]
 |c+1,i,T,T',h,e=>by
  rw[remI]at e;cases h1:rowI bits L p i (i+1) 0 T with
  |none=>rw[h1]at e;cases e
  |some Z=>
   rw[h1,bS]at e;exact qo6 c (i+1) Z T' (qnk _ _ _ _ h h1) e
structure Rnd (n:Nat) (L:Nat->Bool) (T:Tab) (X:Nat->Nat->Rat):Prop where
 g:GT n T
 x: ∀i j,i<n->j<n->L i=true->L j=true->InQ (T i j) (X i j)/\X i j=X j i
def Rnd.ord {n:Nat} {L:Nat->Bool} {T:Tab} {X:Nat->Nat->Rat} (h:Rnd n L T X): ∀i,i<n->L i=true->rv (T i i).1<=rv (T i i).2:=λi hi li=>by
 have:=(h.x i i hi hi li li).1;exact zr1 this.1 this.2
def Rnd.next {n:Nat} {L:Nat->Bool} {T:Tab} {X:Nat->Nat->Rat} (h:Rnd n L T X) {p:Nat} (hp:p<n) (lp:L p=true) (sp:Sgn (T p p)) {bits:Int} {T':Tab} (e:remI bits (dropL L p) p n 0 T=some T'):Rnd n (dropL L p) T' (scF X p):=by
 refine⟨qo6 _ _ _ _ h.g e,λi j hi hj li lj=>⟨qoc hp (q9j L p) h.g (X:=X) (λi j hi hj li lj=> ?_) sp e i j hi hj li lj,?_⟩⟩
 . refine h.x i j hi hj ?_ ?_
   . rcases li with li|rfl
     . exact(q5e.1 li).2
     . exact lp
   . rcases lj with lj|rfl
     . exact(q5e.1 lj).2
     . exact lp
 . unfold scF;rw[(h.x i j hi hj (q5e.1 li).2 (q5e.1 lj).2).2,zk3 (X i p)]
def qhu {n:Nat} {L:Nat->Bool} {p:Nat}:boolL n (λk=>if k=p then true else !L k)=boolL n (λk=> !dropL L p k):=by
 unfold boolL;refine qy λk _=> ?_
 unfold dropL;by_cases c:k=p
 . rw[iP c,iP c];rfl
 . rw[iN' c,iN' c]
section
variable {m:Nat} (hm:5000000000<=m) {n:Nat} (hn:n<=1000)
include hm hn
theorem qmq (bits:Int) {T:Tab} {L:Nat->Bool} {X:Nat->Nat->Rat} (h:Rnd n L T X):
 g62 m (matI n T) (boolL n L) bits=some (bI (pivF T L n 0 none),(matI n T,boolL n L,bits,()),()):=by
 have e:=ql9 hm hn (L:=L) bits h.g h.ord n m 0 none O O trivial;rw[nZ]at e;rw[g62,Je];rw[show g62L0 m m (matI n T) (boolL n L) bits (-1) (n:Int) 0=_ from e,bS]
theorem ql7 (bits:Int) {T:Tab} {L:Nat->Bool} {p:Nat} (hp:p<n) (hT:GT n T):
 (∀T',remI bits (dropL L p) p n 0 T=some T'->g64 m (matI n T) (boolL n L) bits (p:Int)=some (true,(matI n T',boolL n (dropL L p),bits,()),(),()))/\
 (remI bits (dropL L p) p n 0 T=none-> ∃z,g64 m (matI n T) (boolL n L) bits (p:Int)=some (false,z,(),())):=by
 have e:=qjn hm hn hp (q9j L p) bits n m 0 T O O hT;rw[nZ]at e;rw[g64,J3,iP O,q70,Je];refine⟨λT' h=> ?_,λh=> ?_⟩
 . have:=(e.1 T' h).2;rw[show boolL n (λk=>if k=p then false else L k)=boolL n (dropL L p)from rfl,this,bS]
 . obtain⟨z,hz⟩:=e.2 h;rw[show boolL n (λk=>if k=p then false else L k)=boolL n (dropL L p)from rfl,hz,bS]
   exact⟨_,rfl⟩
theorem qoy (bits a0 a1 a2:Int): ∀(c N r:Nat) (T:Tab) (L:Nat->Bool) (X:Nat->Nat->Rat) (a b:Nat),c+r=n->c<N->a+b<=r->Rnd n L T X->
 (∀a' b',elimF n bits c T L a b=some (a',b')->g34L2 m N a0 a1 a2 (matI n T) (boolL n L) bits (a:Int) 0 (b:Int) (n:Int) (r:Int)=some (.inr (.inl ((a0,a1,a2,()),((a':Int),0,(b':Int),()),()))))/\
 (elimF n bits c T L a b=none->g34L2 m N a0 a1 a2 (matI n T) (boolL n L) bits (a:Int) 0 (b:Int) (n:Int) (r:Int)=some (.inl ((0,0,0,()),false,()))):=by
 intro c;induction c with
 |zero=>
  intro N r T L X a b hr hN hab h;obtain⟨N',rfl⟩: ∃N',N=N'+1:=⟨N-1,O⟩;refine⟨λa' b' e=> ?_,λe=>by cases e⟩
  have e:some (a,b)=some (a',b'):=e;injection e with e
  injection e with e1 e2
  subst e1;subst e2;rw[g34L2,bQ,iN' O]
 |succ c ih=>
  intro N r T L X a b hr hN hab h;obtain⟨N',rfl⟩: ∃N',N=N'+1:=⟨N-1,O⟩;have hw:wI ((r:Int)+1)=((r+1:Nat):Int):=wsucc O;have hwa:wI ((a:Int)+1)=((a+1:Nat):Int):=wsucc O;have hwb:wI ((b:Int)+1)=((b+1:Nat):Int):=wsucc O;have hpo:=qdj (n:=n) (T:=T) (L:=L) n 0 none O trivial;rw[g34L2,bQ,iP O,qmq hm hn bits h,bS,hw,hwa,hwb,elimF,bQ];dsimp only;cases hpv:pivF T L n 0 none with
  |none=>
   rw[iP (by decide)]
   exact⟨λa' b' e=>(by cases e),λ_=>rfl⟩
  |some p=>
   rw[hpv]at hpo;obtain⟨hp,lp,sp⟩:=hpo;have gp:(0:Int)<=(p:Int)/\(p:Int)<(n:Int):=O;have hb:bI (some p)=(p:Int):=rfl;rw[hb,iN' O];dsimp only;have hre:=ql7 hm hn bits (L:=L) hp h.g;simp only[Je,X6 hp,iP gp,Xn hp hp];rw[sign_eq hm (h.g p p hp hp) (h.ord p hp lp),bS,bQ];dsimp only
   have hiff:(if 0<rv (T p p).1 then(1:Int)else if rv (T p p).2<0 then-1 else 0)<0↔rv (T p p).1<0:=by
    have ho:=h.ord p hp lp;unfold Sgn at sp;by_cases c1:0<rv (T p p).1
    . rw[iP c1];exact⟨λh=>O,λh=>by grind⟩
    . have c2:=sp.resolve_left c1;rw[iN' c1,iP c2];exact⟨λ_=>by grind,λ_=>O⟩
   simp only[hiff];cases hrm:remI bits (dropL L p) p n 0 T with
   |none=>
    obtain⟨z,hz⟩:=hre.2 hrm;rw[hz,bS];refine⟨λa' b' e=>(by cases e),λ_=> ?_⟩
    by_cases c1:rv (T p p).1<0
    . rw[iP c1];rfl
    . rw[iN' c1];rfl
   |some T1=>
    have hR:=h.next hp lp sp hrm;rw[hre.1 T1 hrm];simp only[bS,zG1,cond_false];by_cases c1:rv (T p p).1<0
    . simp only[iP c1];exact ih N' (r+1) T1 (dropL L p) (scF X p) (a+1) b O O O hR
    . simp only[iN' c1];exact ih N' (r+1) T1 (dropL L p) (scF X p) a (b+1) O O O hR
theorem qht (bits a0 a1 a2:Int): ∀(c N r:Nat) (T:Tab) (L:Nat->Bool) (X:Nat->Nat->Rat) (a b:Nat),c+r=n->c<N->a+b<=r->Rnd n L T X->
 (∀a' b',elimF n bits c T L a b=some (a',b')->g13L2 m N bits a0 a1 a2 (n:Int) (matI n T) (boolL n λk=> !L k) (a:Int) 0 (b:Int) (r:Int)=some (.inr (.inl ((a0,a1,a2,()),((a':Int),0,(b':Int),()),()))))/\
 (elimF n bits c T L a b=none->g13L2 m N bits a0 a1 a2 (n:Int) (matI n T) (boolL n λk=> !L k) (a:Int) 0 (b:Int) (r:Int)=some (.inl ((0,0,0,()),false,0,()))):=by
 intro c;induction c with
 |zero=>
  intro N r T L X a b hr hN hab h;obtain⟨N',rfl⟩: ∃N',N=N'+1:=⟨N-1,O⟩;refine⟨λa' b' e=> ?_,λe=>by cases e⟩
  have e:some (a,b)=some (a',b'):=e;injection e with e
  injection e with e1 e2
  subst e1;subst e2;rw[g13L2,bQ,iN' O]
 |succ c ih=>
  intro N r T L X a b hr hN hab h;obtain⟨N',rfl⟩: ∃N',N=N'+1:=⟨N-1,O⟩;have hw:wI ((r:Int)+1)=((r+1:Nat):Int):=wsucc O;have hwa:wI ((a:Int)+1)=((a+1:Nat):Int):=wsucc O;have hwb:wI ((b:Int)+1)=((b+1:Nat):Int):=wsucc O;have hpo:=qdj (n:=n) (T:=T) (L:=L) n 0 none O trivial;have h3:=qh5 hm hn (L:=L) bits a0 a1 a2 (a:Int) 0 (b:Int) (r:Int) h.g h.ord n m 0 none O O trivial;rw[nZ]at h3;rw[g13L2,bQ,iP O];rw[show g13L3 m m bits a0 a1 a2 (n:Int) (matI n T) (boolL n λk=> !L k) (a:Int) 0 (b:Int) (r:Int) (-1) 0=_ from h3,bS,elimF]
  dsimp only;rw[bQ];cases hpv:pivF T L n 0 none with
  |none=>
   rw[iP (by decide)]
   exact⟨λa' b' e=>(by cases e),λ_=>rfl⟩
  |some p=>
   rw[hpv]at hpo;obtain⟨hp,lp,sp⟩:=hpo;have gp:(0:Int)<=(p:Int)/\(p:Int)<(n:Int):=O;have hb:bI (some p)=(p:Int):=rfl;rw[hb,iN' O];dsimp only;simp only[Je,X6 hp,J3,iP gp,Xn hp hp,q70,qhu,hwa,hwb];rw[rSgn hm (h.g p p hp hp).1,bS,bQ];dsimp only;simp only[q0j];by_cases c1:rv (T p p).1<0
   . have h4:=q8w hm hn hp (q9j L p) bits a0 a1 a2 ((a+1:Nat):Int) 0 (b:Int) (r:Int) n m 0 T O O h.g;rw[nZ]at h4;simp only[iP c1];cases hrm:remI bits (dropL L p) p n 0 T with
     |none=>
      rw[h4.2 hrm,bS];exact⟨λa' b' e=>(by cases e),λ_=>rfl⟩
     |some T1=>
      have hR:=h.next hp lp sp hrm;rw[(h4.1 T1 hrm).2,bS,bS];dsimp only;rw[hw];exact ih N' (r+1) T1 (dropL L p) (scF X p) (a+1) b O O O hR
   . have h4:=q8w hm hn hp (q9j L p) bits a0 a1 a2 (a:Int) 0 ((b+1:Nat):Int) (r:Int) n m 0 T O O h.g;rw[nZ]at h4;simp only[iN' c1];cases hrm:remI bits (dropL L p) p n 0 T with
     |none=>
      rw[h4.2 hrm,bS];exact⟨λa' b' e=>(by cases e),λ_=>rfl⟩
     |some T1=>
      have hR:=h.next hp lp sp hrm;rw[(h4.1 T1 hrm).2,bS,bS];dsimp only;rw[hw];exact ih N' (r+1) T1 (dropL L p) (scF X p) a (b+1) O O O hR
end
end Go.Vs.F
set_option maxRecDepth 100000
namespace Go.Vs.F
def T0 (D:Nat->Nat->Int):Tab:=λi j=>(mkD (D i j) (-1074),mkD (D i j) (-1074))
def gI (D:Nat->Nat->Int) (i j:Nat):EIv:=eI (T0 D i j)
def qjx {n:Nat} {D:Nat->Nat->Int}:matI n (T0 D)=mr n λi=>mr n (gI D i):=rfl
def dE_el {n:Nat} {D:Nat->Nat->Int} {i j:Nat} (h:j<n):(rowD n (D i)).getD ((j:Nat):Int).toNat zI=dE (D i j):=by
 rw[tN,q0q h]
def Rnd0 {n:Nat} {D:Nat->Nat->Int} (hD: ∀i j,i<n->j<n->blen (D i j).natAbs<=10000) (hs: ∀i j,D i j=D j i):Rnd n (λ_=>true) (T0 D) (λi j=>(D i j:Rat)*2^(-1074:Int)):=by
 have hok: ∀i j,i<n->j<n->OkD (D i j) (-1074):=λi j hi hj=>Zu (hD i j hi hj) O O
 refine⟨λi j hi hj=>⟨Gd_mk (hok i j hi hj),Gd_mk (hok i j hi hj)⟩,λi j hi hj _ _=>⟨⟨?_,?_⟩,by rw[hs i j]⟩⟩
 . show rv (mkD (D i j) (-1074))<=_
   rw[rv_mk (hok i j hi hj)];exact zQ3
 . show _<=rv (mkD (D i j) (-1074))
   rw[rv_mk (hok i j hi hj)];exact zQ3
section
variable {m:Nat} (hm:5000000000<=m) {n:Nat} (hn:n<=1000) (D:Nat->Nat->Int)
include hm hn
theorem el_L1 (rows:List (List (Bool×(Bool×LI)×Int))) (a0 a1 a2:Int) (B:List Bool) (bits:Int) (x:List (List (Bool×(Bool×LI)×Int))) (y z:Int) {i:Nat} (hi:i<n) (f:Nat->List EIv): ∀(N j:Nat),n-j<N->j<=n->
 g34L1 m N rows a0 a1 a2 (mr n λk=>if k=i then mr j (gI D i)else f k) B bits (i:Int) x y z (rowD n (D i)) (n:Int) (j:Int)=
  some (.inl (rows,(a0,a1,a2,()),(mr n (λk=>if k=i then mr n (gI D i)else f k),B,bits,()),x,y,z,())):=by
 intro N;induction N with
 |zero=>intro j h;omega
 |succ N ih=>
  intro j h hj;rw[g34L1,bQ];by_cases c:j<n
  . have hw:wI ((j:Int)+1)=((j+1:Nat):Int):=wsucc O;have gi:(0:Int)<=(i:Int)/\(i:Int)<(n:Int):=O;have gj:(0:Int)<=(j:Int)/\(j:Int)<(n:Int):=O
    have eg:(mr n λk=>if k=i then mr j (gI D i)else f k).getD ((i:Nat):Int).toNat []=mr j (gI D i):=by
     rw[tN,Ql hi,iP rfl]
    have ln: ∀e:EIv,(mr j (gI D i)).length+[e].length<=1073741824:=λe=>by
     rw[Q9];simp;omega
    have el: ∀z:Bool×(Bool×LI)×Int,((z.1,(z.2.1.1,z.2.1.2),z.2.2),z.1,(z.2.1.1,z.2.1.2),z.2.2)=(z,z):=λ_=>rfl
    have hs:(mr n λk=>if k=i then mr j (gI D i)else f k).set ((i:Nat):Int).toNat (mr j (gI D i)++[(dE (D i j),dE (D i j))])=mr n λk=>if k=i then mr (j+1) (gI D i)else f k:=by
     rw[show(dE (D i j),dE (D i j))=gI D i j from rfl,Y8,tN,Zi]
     refine qy λk _=> ?_
     by_cases d:k=i
     . rw[iP d,iP d]
     . rw[iN' d,iN' d,iN' d]
    rw[iP O];simp only[Xl,Q9,iP gi,iP gj,eg,dE_el c,iP (ln _),hw,if_true,el];rw[iP (by simp;omega),hs]
    exact ih (j+1) O O
  . have:j=n:=O;subst this;rw[iN' O]
theorem el_L0 (rows:List (List (Bool×(Bool×LI)×Int))) (a0 a1 a2:Int) (bits:Int): ∀(N i:Nat),n-i<N->i<=n->
 g34L0 m N rows a0 a1 a2 (mr n λk=>if k<i then mr n (gI D k)else []) (boolL n λk=>decide (k<i)) bits (matD n D) (n:Int) (i:Int)=
  some (.inl (rows,(a0,a1,a2,()),(matI n (T0 D),boolL n (λ_=>true),bits,()),())):=by
 intro N;induction N with
 |zero=>intro i h;omega
 |succ N ih=>
  intro i h hi0;rw[g34L0,bQ];by_cases hi:i<n
  . have hw:wI ((i:Int)+1)=((i+1:Nat):Int):=wsucc O;have gi:(0:Int)<=(i:Int)/\(i:Int)<(n:Int):=O
    have e1:(mr n λk=>if k<i then mr n (gI D k)else [])=mr n λk=>if k=i then mr 0 (gI D i)else(if k<i then mr n (gI D k)else []):=qy λk _=>by
     by_cases d:k=i
     . rw[iP d,iN' O];rfl
     . rw[iN' d]
    have e2:(mr n λk=>if k=i then mr n (gI D i)else(if k<i then mr n (gI D k)else []))=mr n λk=>if k<i+1 then mr n (gI D k)else []:=qy λk _=>by
     by_cases d:k=i
     . subst d;rw[iP rfl,iP O]
     . rw[iN' d];by_cases c:k<i
       . rw[iP c,iP O]
       . rw[iN' c,iN' O]
    have e3:(boolL n λk=>if k=i then true else decide (k<i))=boolL n λk=>decide (k<i+1):=qy λk _=>by
     by_cases d:k=i
     . rw[iP d,decide_eq_true O]
     . rw[iN' d];exact decide_eq_decide.2 O
    have h1:=el_L1 hm hn D rows a0 a1 a2 (boolL n λk=>decide (k<i+1)) bits (matD n D) (n:Int) (i:Int) hi (λk=>if k<i then mr n (gI D k)else []) m 0 O O
    rw[nZ]at h1;rw[iP O,X8,iP gi,J3,iP gi,q70,e3,tN,Yk hi,Xl,e1,h1,bS];dsimp only;rw[e2,hw];exact ih (i+1) O O
  . have:i=n:=O;subst this;rw[iN' O,qjx];rw[show(mr i λk=>if k<i then mr i (gI D k)else [])=mr i λk=>mr i (gI D k)from qy λk hk=>iP hk]
    rw[show(boolL i λk=>decide (k<i))=boolL i λ_=>true from qy λk hk=>decide_eq_true hk]
theorem qci (hD: ∀i j,i<n->j<n->blen (D i j).natAbs<=10000) (hs: ∀i j,D i j=D j i) (bits:Int):
 g34 m (matD n D) bits=some ((match elimF n bits n (T0 D) (λ_=>true) 0 0 with
  |none=>((0,0,0,()),false,())
  |some (a,b)=>(((a:Int),0,(b:Int),()),true,())),(),(),()):=by
 have h0:=el_L0 hm hn D (matD n D) 0 0 0 bits m 0 O O
 rw[nZ,show(mr n λk=>if k<0 then mr n (gI D k)else [])=List.replicate n [] by rw[q3x];exact qy λk _=>iN' O,
  show(boolL n λk=>decide (k<0))=List.replicate n false by rw[q3x];exact qy λk _=>decide_eq_false O]at h0
 have h2:=qoy hm hn bits 0 0 0 n m 0 (T0 D) (λ_=>true) _ 0 0 O O O (Rnd0 hD hs)
 rw[nZ]at h2;rw[g34,X8,iP O,iP O,tN,h0,bS];dsimp only;rw[X8];cases e:elimF n bits n (T0 D) (λ_=>true) 0 0 with
 |none=>rw[h2.2 e,bS]
 |some r=>
  obtain⟨a,b⟩:=r;rw[h2.1 a b e,bS]
theorem ce_L1 (bits a0 a1 a2:Int) (t:List (List EIv)) {i:Nat} (hi:i<n): ∀(N j:Nat),n-j<N->j<=n->
 g13L1 m N bits a0 a1 a2 (matD n D) (n:Int) t (i:Int) (mr j (gI D i)) (j:Int)=some (.inl (bits,(a0,a1,a2,()),matD n D,(n:Int),t,(i:Int),mr n (gI D i),())):=by
 intro N;induction N with
 |zero=>intro j h;omega
 |succ N ih=>
  intro j h hj;rw[g13L1,bQ];by_cases c:j<n
  . have hw:wI ((j:Int)+1)=((j+1:Nat):Int):=wsucc O;have gi:(0:Int)<=(i:Int)/\(i:Int)<(n:Int):=O;have gj:(0:Int)<=(j:Int)/\(j:Int)<(n:Int):=O;have er:(matD n D).getD ((i:Nat):Int).toNat []=rowD n (D i):=by rw[tN,Yk hi]
    have ln: ∀e:EIv,(mr j (gI D i)).length+[e].length<=1073741824:=λe=>by
     rw[Q9];simp;omega
    have el: ∀z:Bool×(Bool×LI)×Int,((z.1,(z.2.1.1,z.2.1.2),z.2.2),z.1,(z.2.1.1,z.2.1.2),z.2.2)=(z,z):=λ_=>rfl
    have hs:mr j (gI D i)++[(dE (D i j),dE (D i j))]=mr (j+1) (gI D i):=by rw[show(dE (D i j),dE (D i j))=gI D i j from rfl,Y8]
    rw[iP O];simp only[X8,er,Xl,iP gi,iP gj,dE_el c,iP (ln _),hw,el];rw[hs];exact ih (j+1) O O
  . have:j=n:=O;subst this;rw[iN' O]
theorem ce_L0 (bits a0 a1 a2:Int): ∀(N i:Nat),n-i<N->i<=n->
 g13L0 m N bits a0 a1 a2 (matD n D) (n:Int) (mr i λk=>mr n (gI D k)) (i:Int)=some (.inl (bits,(a0,a1,a2,()),(n:Int),matI n (T0 D),())):=by
 intro N;induction N with
 |zero=>intro i h;omega
 |succ N ih=>
  intro i h hi0;rw[g13L0,bQ];by_cases hi:i<n
  . have hw:wI ((i:Int)+1)=((i+1:Nat):Int):=wsucc O;have h1:=ce_L1 hm hn D bits a0 a1 a2 (mr i λk=>mr n (gI D k)) hi m 0 O O
    rw[nZ]at h1;rw[iP O];rw[show g13L1 m m bits a0 a1 a2 (matD n D) (n:Int) (mr i λk=>mr n (gI D k)) (i:Int) [] 0=_ from h1,bS]
    dsimp only;rw[iP ⟨by simp,by rw[Q9];simp;omega⟩,hw]
    rw[show(mr i λk=>mr n (gI D k))++[mr n (gI D i)]=mr (i+1) λk=>mr n (gI D k)from Y8]
    exact ih (i+1) O O
  . have:i=n:=O;subst this;rw[iN' O,qjx]
end
def cerR (n:Nat) (bits:Int) (D:Nat->Nat->Int):(Int×Int×Int×Unit)×Bool×Int×Unit:=
 if bits<2\/4096<bits then((0,0,0,()),false,3,())else
 match elimF n bits n (T0 D) (λ_=>true) 0 0 with
  |none=>((0,0,0,()),false,0,())
  |some (a,b)=>(((a:Int),0,(b:Int),()),true,0,())
section
variable {m:Nat} (hm:5000000000<=m) {n:Nat} {S I V:LI} (hG:GI n n S I V) (h5:n<=3) {x:Int} (hx:U64 x) (hF:FinF x)
include hm hG h5 hx hF
theorem qbw (bits:Int):g12 m (n:Int) (n:Int) S I V x bits=some (cerR n bits (syD S I V x),(),(),(),()):=by
 obtain⟨j1,j2⟩:=q3e hm hG h5 hx hF false;have hlen: ∀i j,i<n->j<n->blen (syD S I V x i j).natAbs<=10000:=λi j hi hj=>zK (q9b hG hF hi hj) (by decide)
 have hsy:=qas S I V x;unfold cerR;rw[g12,j1,bS];dsimp only;rw[show((0:Int) !=0)=false from rfl,cond_false,bQ,bQ]
 by_cases c1:bits<2
 . rw[iP c1,iP (.inl c1)]
 . rw[iN' c1];by_cases c2:bits>4096
   . rw[iP c2,iP (.inr c2)]
   . rw[iN' c2,iN' O,q1o hm hG O hx hF,bS];dsimp only;rw[qci hm O _ hlen hsy,bS];cases elimF n bits n (T0 (syD S I V x)) (λ_=>true) 0 0<;>rfl
theorem qd9 (bits:Int):g13 m (n:Int) (n:Int) S I V x bits=some (cerR n bits (syD S I V x),(),(),(),()):=by
 obtain⟨j1,j2⟩:=q3e hm hG h5 hx hF false;have hlen: ∀i j,i<n->j<n->blen (syD S I V x i j).natAbs<=10000:=λi j hi hj=>zK (q9b hG hF hi hj) (by decide)
 have hsy:=qas S I V x;unfold cerR;rw[g13,j2,bS];dsimp only;rw[show((0:Int) !=0)=false from rfl,cond_false,bQ,bQ]
 by_cases c1:bits<2
 . rw[iP c1,iP (.inl c1)]
 . rw[iN' c1];by_cases c2:bits>4096
   . rw[iP c2,iP (.inr c2)]
   . have h0:=ce_L0 hm (n:=n) O (syD S I V x) bits 0 0 0 m 0 O O;rw[Zf,nZ]at h0;have h2:=qht hm (n:=n) O bits 0 0 0 n m 0 (T0 (syD S I V x)) (λ_=>true) _ 0 0 O O O (Rnd0 hlen hsy)
     rw[nZ,show(boolL n λ_=> !true)=List.replicate n false by rw[q3x];rfl]at h2
     rw[iN' c2,iN' O,q5h hm hG O hx hF,bS];dsimp only;rw[h0,bS];dsimp only;rw[iP O,tN];cases e:elimF n bits n (T0 (syD S I V x)) (λ_=>true) 0 0 with
     |none=>rw[h2.2 e,bS]
     |some r=>
      obtain⟨a,b⟩:=r;rw[h2.1 a b e,bS]
theorem q53 (bits:Int):g12 m (n:Int) (n:Int) S I V x bits=some (cerR n bits (syD S I V x),(),(),(),())/\g13 m (n:Int) (n:Int) S I V x bits=some (cerR n bits (syD S I V x),(),(),(),()):=⟨qbw hm hG h5 hx hF bits,qd9 hm hG h5 hx hF bits⟩
end
end Go.Vs.F
set_option maxRecDepth 100000
namespace Go.Vs.F
def qou {m:Nat} (hm:200<=m):sparselaw39_awake m=some (true,()):=by
 obtain⟨j,rfl⟩: ∃j,m=j+200:=⟨m-200,O⟩;exact qpy j
structure Both (m:Nat) (R C:Int) (S I V:LI) (s:Int):Prop where
 o: ∃i j e k q,g20 m R C S I V s=some ((i,e,()),(),(),())/\g16 m R C S I V s=some ((j,e,()),(),(),())/\g26 m R C S I V s=some ((k,q,e,()),(),(),())/\(e=0\/q=0)
 a: ∃c e,g24 m R C S I V s=some ((c,e,()),(),(),())/\g28 m R C S I V s=some ((c,e,()),(),(),())
 h: ∃b c e,g29 m R C S I V s=some ((b,e,()),(),(),())/\g30 m R C S I V s=some ((c,e,()),(),(),())
 c: ∀bits,∃i j ok e,g12 m R C S I V s bits=some ((i,ok,e,()),(),(),(),())/\g13 m R C S I V s bits=some ((j,ok,e,()),(),(),(),())
def J4_ok {m:Nat} (hm:200<=m) {R C:Int} {S I V:LI} {s:Int} (h:Both m R C S I V s) (b:Int):sparselaw39_InertiaRefuses_J4 m b R C S I V s=some (.inl (true,())):=by
 obtain⟨i,j,e,k,q,o1,o2,o3,o4⟩:=h.o;obtain⟨c,e',a1,a2⟩:=h.a;obtain⟨B,B',e'',h1,h2⟩:=h.h;have go: ∀bits,∃i j ok e,g12 m R C S I V s bits=some ((i,ok,e,()),(),(),(),())/\g13 m R C S I V s bits=some ((j,ok,e,()),(),(),(),()):=h.c;obtain⟨i1,j1,k1,l1,c1,c2⟩:=go 60;obtain⟨i2,j2,k2,l2,d1,d2⟩:=go b
 have q': ∀α:Type,∀x y:Option α,(bif e==0 then x else bif q==0 then x else y)=x:=λα x y=>by
  rcases o4 with rfl|rfl
  . rfl
  . cases e==0<;>rfl
 rw[sparselaw39_InertiaRefuses_J4,o1,o2,a1,a2,h1,h2,o3,c1,c2,d1,d2];simp only[bS,beq_self_eq_true,cond_true,qou hm,q'];cases decide (b>60)<;>cases decide (b<=4096)<;>rfl
section
variable {m:Nat} (hm:5000000000<=m) {R C:Int} {S I V:LI} (hS:S.length<=1000000) (hV:V.length<=1000000) {s:Int} (hs:U64 s)
include hm hS hV hs
theorem refuse (e0:chk9 R C S I V s false≠0) (ha: ∃c e,g24 m R C S I V s=some ((c,e,()),(),(),())/\g28 m R C S I V s=some ((c,e,()),(),(),())):Both m R C S I V s:=by
 obtain⟨k1,k2⟩:=Zv hm (R:=R) (C:=C) (I:=I) hS hV hs false;generalize chk9 R C S I V s false=e at*;refine⟨⟨(0,0,0,()),(0,0,0,()),e,(0,0,0,()),0,?_,?_,?_,.inr rfl⟩,ha,⟨(0,0,[],()),(0,0,[],()),e,?_,?_⟩,λbits=>⟨(0,0,0,()),(0,0,0,()),false,e,?_,?_⟩⟩
 . rw[g20,k1,bS,bif_ne,iN' e0]
 . rw[g16,k2,bS,bif_ne,iN' e0]
 . rw[g26,k1,bS,bif_ne,iN' e0]
 . rw[g29,k1,bS,bif_ne,iN' e0]
 . rw[g30,k2,bS,bif_ne,iN' e0]
 . rw[g12,k1,bS,bif_ne,iN' e0]
 . rw[g13,k2,bS,bif_ne,iN' e0]
theorem qii (e0:chk9 R C S I V s true≠0): ∃c e,g24 m R C S I V s=some ((c,e,()),(),(),())/\g28 m R C S I V s=some ((c,e,()),(),(),()):=by
 obtain⟨k1,k2⟩:=Zv hm (R:=R) (C:=C) (I:=I) hS hV hs true;refine⟨0,chk9 R C S I V s true,?_,?_⟩
 . rw[g24,k1,bS,bif_ne,iN' e0]
 . rw[g28,k2,bS,bif_ne,iN' e0]
end
section
variable {m:Nat} (hm:5000000000<=m) {n:Nat} (hn:n<=100) {D:Nat->Nat->Int} (a2 a3 a4:LI)
include hm hn
theorem pS_L1 (t0 t1 b0 b1:Int) (tL:List DyL) {j:Nat} (hj:j<n) (t27 t28:Int): ∀(N i:Nat) (B:List DyL),n-i<N->i<=n->B.length<=j*n+i->
 ∃B',B'.length<=(j+1)*n/\g29L1 m N (n:Int) (n:Int) a2 a3 a4 t0 t1 tL b0 b1 B (matD n D) (j:Int) t27 t28 (n:Int) (i:Int)=
  some (.inl (((n:Int),(n:Int),a2,a3,a4,()),(t0,t1,tL,()),(b0,b1,B',()),matD n D,t27,t28,())):=by
 intro N;induction N with
 |zero=>intro i B h;omega
 |succ N ih=>
  intro i B h hi hB;rw[g29L1,bQ];have hn2:j*n<=100*100:=zt1 O hn;by_cases c:i<n
  . have e:=qf7 (m:=m) O (z:=D i j) (e:= -1074);rw[iP O,X8,iP O,tN,tN,Yk c,Xl,iP O,q0q hj];rw[show g56 m (dE (D i j)).1 (dE (D i j)).2.1.1 (dE (D i j)).2.1.2 (dE (D i j)).2.2=_ from e,bS,iP (by show _+1<=_;omega),wQ,wsucc O]
    exact ih (i+1) _ O O (by rw[zi,List.length_singleton];omega)
  . rw[iN' O];exact⟨B,by rw[zI1,zT2];omega,rfl⟩
theorem pS_L0 (t0 t1 b0 b1:Int) (tL:List DyL): ∀(N j:Nat) (B:List DyL),n-j<N->j<=n->B.length<=j*n->
 ∃x,g29L0 m N (n:Int) (n:Int) a2 a3 a4 t0 t1 tL b0 b1 B (matD n D) (n:Int) (j:Int)=some (.inl x):=by
 intro N;induction N with
 |zero=>intro i B h;omega
 |succ N ih=>
  intro j B h hj hB;rw[g29L0,bQ];by_cases c:j<n
  . obtain⟨B',g1,e⟩:=pS_L1 hm hn (D:=D) a2 a3 a4 t0 t1 b0 b1 tL c (n:Int) (j:Int) m 0 B O O hB;rw[nZ]at e;rw[iP O,e,bS];dsimp only;rw[wQ,wsucc O];exact ih (j+1) _ O O g1
  . rw[iN' O];exact⟨_,rfl⟩
theorem rS_L1 (t0 t1 b0 b1:Int) (tL:List DyL) {i:Nat} (hi:i<n): ∀(N j:Nat) (B:List DyL),n-j<N->j<=n->B.length=n*n->
 ∃B',B'.length=n*n/\g30L1 m N (n:Int) (n:Int) a2 a3 a4 t0 t1 tL b0 b1 B (matD n D) (i:Int) (j:Int)=
  some (.inl (((n:Int),(n:Int),a2,a3,a4,()),(t0,t1,tL,()),(b0,b1,B',()),matD n D,(i:Int),())):=by
 intro N;induction N with
 |zero=>intro j B h;omega
 |succ N ih=>
  intro j B h hj hB;rw[g30L1,bQ];by_cases c:j<n
  . have hp:=cell hi c;have hw:wI ((wI ((j:Int)*(n:Int)))+(i:Int))=((j*n+i:Nat):Int):=wcell O O hi c;rw[iP O,X8,iP O,tN,tN,Yk hi,Xl,iP O,hw,iP O,wQ,wsucc O];exact ih (j+1) _ O O (by rw[zZ];exact hB)
  . rw[iN' O];exact⟨B,hB,rfl⟩
theorem rS_L0 (t0 t1 b0 b1:Int) (tL:List DyL): ∀(N i:Nat) (B:List DyL),n-i<N->i<=n->B.length=n*n->
 ∃x,g30L0 m N (n:Int) (n:Int) a2 a3 a4 t0 t1 tL b0 b1 B (matD n D) (i:Int)=some (.inl x):=by
 intro N;induction N with
 |zero=>intro i B h;omega
 |succ N ih=>
  intro i B h hi hB;rw[g30L0,bQ];by_cases c:i<n
  . obtain⟨B',g1,e⟩:=rS_L1 hm hn (D:=D) a2 a3 a4 t0 t1 b0 b1 tL c m 0 B O O hB;rw[nZ]at e;rw[iP O,e,bS];dsimp only;rw[wQ,wsucc O];exact ih (i+1) _ O O g1
  . rw[iN' O];exact⟨_,rfl⟩
end
section
variable {m:Nat} (hm:5000000000<=m) {n:Nat} {S I V:LI} (hG:GI n n S I V) (h5:n<=3) {x:Int} (hx:U64 x) (hF:FinF x)
include hm hG h5 hx hF
theorem qoj: ∃b c,g29 m (n:Int) (n:Int) S I V x=some ((b,0,()),(),(),())/\g30 m (n:Int) (n:Int) S I V x=some ((c,0,()),(),(),()):=by
 obtain⟨j1,j2⟩:=q3e hm hG h5 hx hF false;obtain⟨⟨y1,⟨y2,y3,y4,_⟩,_⟩,h1⟩:=pS_L0 hm (n:=n) O (D:=syD S I V x) S I V 0 0 (n:Int) (n:Int) [] m 0 [] O O (zS2 _);have hnn:n*n<=3*3:=zt1 h5 h5;have w1:wI ((n:Int)*(n:Int))=((n*n:Nat):Int):=by rw[<-Int.natCast_mul,wQ,wi O O]
 obtain⟨⟨z1,⟨z2,z3,z4,_⟩,_⟩,h2⟩:=rS_L0 hm (n:=n) O (D:=syD S I V x) S I V 0 0 (n:Int) (n:Int) [] m 0 (List.replicate (n*n) (qz:Bool×(Bool×LI)×Int)) O O zF1;rw[nZ]at h1 h2;refine⟨(y2,y3,y4,()),(z2,z3,z4,()),?_,?_⟩
 . rw[g29,j1,bS];dsimp only;rw[show((0:Int) !=0)=false from rfl,cond_false,q1o hm hG O hx hF,bS]
   dsimp only;rw[h1,bS]
 . rw[g30,j2,bS];dsimp only;rw[show((0:Int) !=0)=false from rfl,cond_false,g57,w1,iP O,bS,q5h hm hG O hx hF,bS]
   dsimp only;rw[tN,h2,bS]
theorem qbg: ∀(N k:Nat),4-k<N->k<=4->(∃i b,g26L0 m N x (n:Int) (n:Int) S I V 0 0 0 ([53,106,212,424]:LI) 4 (k:Int)=some (.inl (i,b,0,())))\/
 g26L0 m N x (n:Int) (n:Int) S I V 0 0 0 ([53,106,212,424]:LI) 4 (k:Int)=some (.inr (.inl (x,((n:Int),(n:Int),S,I,V,()),(0,0,0,()),())))
 |0,k,h,_=>absurd h (zS1 _)
 |N+1,k,h,hk=>by
  rw[g26L0,bQ];by_cases c:k<4
  . rw[iP O,iP (by simp;omega),(q53 hm hG h5 hx hF _).1,bS,show wI ((k:Int)+1)=((k+1:Nat):Int)from wsucc O]
    dsimp only;cases (cerR n (([53,106,212,424]:LI).getD (0+(k:Int).toNat) 0) (syD S I V x)).2.1
    . exact qbg N (k+1) O O
    . exact .inl ⟨_,_,rfl⟩
  . rw[iN' O];exact .inr rfl
theorem fine:Both m (n:Int) (n:Int) S I V x:=by
 obtain⟨j1,j2⟩:=q3e hm hG h5 hx hF false;obtain⟨W,b,d1,o1,o2⟩:=qmh hm hG h5 hx hF;obtain⟨b1,c1,s1,s2⟩:=qoj hm hG h5 hx hF;obtain⟨c,_,a1,a2⟩:=q4s hm hG h5 hx (qa5 hF);refine⟨?_,⟨_,_,a1,a2⟩,⟨_,_,_,s1,s2⟩,λbits=> ?_⟩
 . have hse: ∃k q,g26 m (n:Int) (n:Int) S I V x=some ((k,q,0,()),(),(),()):=by
    rw[g26,j1,bS];dsimp only;rw[show((0:Int) !=0)=false from rfl,cond_false]
    have:=qbg hm hG h5 hx hF m 0 O O;rw[nZ]at this;rcases this with⟨i,b,e⟩|e
    . rw[e,bS];exact⟨_,_,rfl⟩
    . rw[e,bS];dsimp only;rw[o1,bS];exact⟨_,_,rfl⟩
   obtain⟨k,q,e⟩:=hse;exact⟨_,_,0,k,q,o1,o2,e,.inl rfl⟩
 . obtain⟨q1,q2⟩:=q53 hm hG h5 hx hF bits;exact⟨_,_,_,_,q1,q2⟩
end
def MC (R C:Int) (S I V:LI):Prop:=(S.length<=1000000/\V.length<=1000000)/\((∀s inf,chk9 R C S I V s inf≠0)\/ ∃n:Nat,n<=3/\R=(n:Int)/\C=(n:Int)/\GI n n S I V)
def MC.both {m:Nat} (hm:5000000000<=m) {R C:Int} {S I V:LI} (h:MC R C S I V) {s:Int} (hs:U64 s):Both m R C S I V s:=by
 obtain⟨⟨h1,h2⟩,h3⟩:=h;rcases h3 with h3|⟨n,hn,rfl,rfl,hG⟩
 . exact refuse hm h1 h2 hs (h3 _ _) (qii hm h1 h2 hs (h3 _ _))
 . by_cases hF:FinF s
   . exact fine hm hG hn hs hF
   . have e0: ∀inf,inf=false\/kindN s=3->chk9 (n:Int) (n:Int) S I V s inf≠0:=λinf hi=>by
      unfold chk9;split
      . assumption
      . rw[iN' (λh=>h rfl),iN' O,iP (by rcases hi with h|h;exact .inr ⟨h,hF⟩;exact .inl h)];decide
     refine refuse hm h1 h2 hs (e0 _ (.inl rfl)) ?_;by_cases hk:kindN s=3
     . exact qii hm h1 h2 hs (e0 _ (.inr hk))
     . obtain⟨c,_,a1,a2⟩:=q4s hm hG hn hs hk;exact⟨_,_,a1,a2⟩
def MC.of {R C:Nat} (hR:R<=3) (hC:C<=3) {S I V:LI} (h:GI R C S I V):MC (R:Int) (C:Int) S I V:=by
 have hM:=h.MV O O;have h1:=hM.sl;have h2:=hM.ok.sz;have h3:=hM.vl;refine⟨⟨O,O⟩,?_⟩;by_cases e:R=C
 . subst e;exact .inr ⟨R,hR,rfl,rfl,h⟩
 . refine .inl λs inf=> ?_
   unfold chk9;split
   . assumption
   . rw[iP O];decide
def MC.spoil {R C:Nat} (hR:R<=3) (hC:C<=3) {S I V:LI} (h:GI R C S I V) {k:Nat} (hk:k<V.length) {w:Int} (hw:U64 w):MC (R:Int) (C:Int) S I (V.set k w):=by
 by_cases hF:FinF w
 . refine MC.of hR hC ⟨h.st,h.col,by rw[zZ];exact h.vl,λi hi=> ?_,h.sz⟩
   rw[zZ]at hi;by_cases e:i=k
   . subst e;have:(V.set i w).getD i 0=w:=by simp[List.getD,hi]
     rw[this];exact⟨hw,hF⟩
   . have:(V.set k w).getD i 0=V.getD i 0:=by simp only[List.getD];rw[List.getElem?_set_ne O]
     rw[this];exact h.fn i hi
 . have hM:=h.MV O O;have h1:=hM.sl;have h2:=hM.ok.sz;have h3:=hM.vl;refine⟨⟨O,by rw[zZ];omega⟩,.inl λs inf=> ?_⟩
   have hc:chk (R:Int) (C:Int) S I (V.set k w)≠0:=by
    unfold chk;split
    . decide
    . split
      . decide
      . rw[iP]
        . decide
        . unfold finL;rw[Bool.eq_false_iff];intro hh;have:=Qo.1 hh k (zS2 _) (by rw[zZ];exact hk)
          have e:(V.set k w).getD k 0=w:=by simp[List.getD,hk]
          rw[e,qlj hw]at this;exact hF (of_decide_eq_true this)
   unfold chk9;rw[iP hc];exact hc
def MC.big:MC 17 17 (List.replicate 18 (0:Int)) [] []:=by
 refine⟨⟨by decide,by decide⟩,.inl λs inf=> ?_⟩
 unfold chk9;split
 . assumption
 . rw[iN' (λh=>h rfl),iP (by decide)];decide
def J3_ok {m:Nat} (hm:5000000000<=m) {R C:Int} {S I V:LI} (h:MC R C S I V) {x:Int} (hx:U64 x) (b:Int) {s:Int} (hs:U64 s):sparselaw39_InertiaRefuses_J3 m x b R C S I V s=some (.inl (true,())):=by
 rw[sparselaw39_InertiaRefuses_J3,q5n hs,bS];dsimp only;obtain⟨f,ef,h1,h2⟩:=qnu hm hx 2;cases decide (FinF s)
 . rw[cond_false,J4_ok O (h.both hm hs)];rfl
 . rw[cond_true,ef,bS];dsimp only;rw[J4_ok O (h.both hm h1)];rfl
def J2_ok {m:Nat} (hm:5000000000<=m) {R C:Int} {S I V:LI} (h:MC R C S I V) {x:Int} (hx:U64 x) (b p:Int):sparselaw39_InertiaRefuses_J2 m x b p R C S I V=some (.inl (true,())):=by
 rw[sparselaw39_InertiaRefuses_J2];cases Int.tmod p 3==0
 . rw[cond_false,J3_ok hm h hx b hx];rfl
 . obtain⟨r,hr,e⟩:=q7g m (wI (Int.tdiv p 3)) (k:=3) (by decide) (by decide)
   rw[cond_true,show g14 m (wI (Int.tdiv p 3)) 3=_ from e,bS]
   dsimp only
   have hu:U64 (([9218868437227405312,18442240474082181120,9221120237041090560]:LI).getD (0+((r:Nat):Int).toNat) 0):=by
    rcases(show r=0\/r=1\/r=2 by omega)with rfl|rfl|rfl<;>exact⟨by decide,by decide⟩
   rw[iP O,J3_ok hm h hx b hu];rfl
def J1_ok {m:Nat} (hm:5000000000<=m) {raw:LI} (hl:raw.length<=9223372036854775807) {R C:Int} {S I V:LI} (h:MC R C S I V) (hsp: ∀k w,k<V.length->U64 w->MC R C S I (V.set k w)) (hv:V.length<=1000000) {x:Int} (hx:U64 x) (b p:Int):
 sparselaw39_InertiaRefuses_J1 m raw x b p R C S I V=some (.inl (true,())):=by
 rw[sparselaw39_InertiaRefuses_J1,bQ];by_cases c:V.length>0
 . rw[iP O];cases Int.tmod p 4==0
   . rw[cond_false,J2_ok hm h hx b p];rfl
   . obtain⟨r,hr,e⟩:=q7g m p (k:=V.length) c O;obtain⟨w,ew,hw⟩:=qih m hl 3;rw[cond_true,e,bS,ew,bS];dsimp only;rw[iP O,J2_ok hm (hsp _ w O hw) hx b p];rfl
 . rw[iN' O,J2_ok hm h hx b p];rfl
def J0_ok {m:Nat} (hm:5000000000<=m) {raw:LI} (hl:raw.length<=9223372036854775807) {R C:Nat} (hR:R<=3) (hC:C<=3) {S I V:LI} (h:GI R C S I V) {x:Int} (hx:U64 x) (r b p:Int):
 sparselaw39_InertiaRefuses_J0 m raw r x b p (R:Int) (C:Int) S I V=some (.inl (true,())):=by
 rw[sparselaw39_InertiaRefuses_J0];cases Int.tmod r 7==0
 . have hM:=h.MV O O;have h2:=hM.ok.sz;have h3:=hM.vl;rw[cond_false,J1_ok hm hl (MC.of hR hC h) (λk w hk hw=>MC.spoil hR hC h hk hw) O hx b p];rfl
 . rw[cond_true,J1_ok hm hl MC.big (λk w hk _=>absurd hk (zS1 _)) (by decide) hx b p];rfl
def q2u (raw:LI) (r c x b p:Int) (hl:raw.length<=9223372036854775807) (hx:U64 x): ∃m,sparselaw39_InertiaRefuses m raw r c x b p=some (true,(),(),(),(),(),(),()):=by
 obtain⟨m,hm⟩: ∃m:Nat,5000000000<=m:=⟨5000000000,zH _⟩;refine⟨m,?_⟩;obtain⟨R,hR,e1⟩:=q7g m r (k:=4) (by decide) (by decide)
 obtain⟨C,hC,e2⟩:=q7g m c (k:=4) (by decide) (by decide)
 obtain⟨T,hT,e3⟩:=q7g m r (k:=3) (by decide) (by decide)
 obtain⟨S,I,V,g1,g2⟩:=q8v hm hl (R:=R) O 0 (C:=C) O;obtain⟨S',I',V',k1,k2⟩:=q8v hm hl (R:=T) O 0 (C:=T) O;rw[sparselaw39_InertiaRefuses,show(4:Int)=((4:Nat):Int)from rfl,e1,bS,e2,bS]
 dsimp only;rw[g2,bS];cases Int.tmod r 3==0
 . rw[cond_false];dsimp only;rw[J0_ok hm hl O O g1 hx];rfl
 . rw[cond_true,show(3:Int)=((3:Nat):Int)from rfl,e3,bS,bS]
   dsimp only;rw[k2,bS];dsimp only;rw[J0_ok hm hl O O k1 hx];rfl
end Go.Vs.F
