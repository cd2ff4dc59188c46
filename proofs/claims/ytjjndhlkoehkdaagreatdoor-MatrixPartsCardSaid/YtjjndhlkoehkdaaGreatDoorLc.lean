/-Magnitudes:lists of limbs and the natural numbers that they stand for. Magnitudes:sums,differences,comparing. Magnitudes:products. Magnitudes:differences and comparing. Integers:sign and magnitude. Magnitudes:shifting up. Lengths of limbs. Bit lengths of magnitudes. Trailing zeros of limbs. Trailing zeros of magnitudes. Magnitudes:shifting down. Magnitudes:shifting down,the loop. Magnitudes:shifting down. Magnitudes:down as a whole. Integers:Shift. Integers:Shift down (floor). -/
import Derived.Test.YtjjndhlkoehkdaaGreatDoorLa
set_option linter.unusedVariables false
set_option linter.unusedSimpArgs false
namespace Go.Vs.F
def vl:List Int→Nat
 |[]=>0
 |x::xs=>x.toNat+4294967296*vl xs
def Lm (l:List Int):Prop:= ∀x∈l,0≤x∧x<4294967296
def lim (n:Nat):List Int:=if h:n=0 then []else((n%4294967296:Nat):Int)::lim (n/4294967296)
termination_by n
decreasing_by exact Nat.div_lt_self (Nat.pos_of_ne_zero h) O
theorem Qh:lim 0=[]:=by rw[lim];simp
theorem q0b {n:Nat} (h:n≠0):lim n=((n%4294967296:Nat):Int)::lim (n/4294967296):=by rw[lim,dif_neg h]
theorem qw (n:Nat):vl (lim n)=n:=by
 induction n using Nat.strongRecOn with
 |ind n ih=>
  by_cases h:n=0
  · subst h;rw[Qh];rfl
  · rw[q0b h,vl,ih _ (Nat.div_lt_self (Nat.pos_of_ne_zero h) O),Int.toNat_natCast]
    omega
theorem Qa (n:Nat):Lm (lim n):=by
 induction n using Nat.strongRecOn with
 |ind n ih=>
  by_cases h:n=0
  · subst h;rw[Qh];intro x hx;cases hx
  · rw[q0b h]
    intro x hx
    rcases List.mem_cons.1 hx with rfl|hx
    · omega
    · exact ih _ (Nat.div_lt_self (Nat.pos_of_ne_zero h) O) x hx
theorem Lm.tail {x:Int} {l:List Int} (h:Lm (x::l)):Lm l:=fun y hy=>h y (List.mem_cons_of_mem _ hy)
theorem Lm.head {x:Int} {l:List Int} (h:Lm (x::l)):0≤x∧x<4294967296:=h x (List.mem_cons_self ..)
theorem q92: ∀{a b:List Int},vl (a++b)=vl a+4294967296^a.length*vl b
 |[],b=>by simp[vl]
 |x::a,b=>by
  rw[List.cons_append,vl,vl,q92 (a:=a),List.length_cons,Nat.pow_succ,Nat.mul_add]
  have:4294967296*(4294967296^a.length*vl b)=4294967296^a.length*4294967296*vl b:=by
   rw[←Nat.mul_assoc,Nat.mul_comm 4294967296]
  omega
theorem vl_lt: ∀{l:List Int},Lm l→vl l<4294967296^l.length
 |[],_=>by simp[vl]
 |x::l,h=>by
  have h1:=h.head
  have h2:=vl_lt h.tail
  rw[vl,List.length_cons,Nat.pow_succ]
  omega
theorem q3a: ∀{l:List Int},(∀x∈l,x=0)→vl l=0
 |[],_=>rfl
 |x::l,h=>by
  rw[vl,q3a fun y hy=>h y (List.mem_cons_of_mem _ hy),h x (List.mem_cons_self ..)];rfl
def Tr (l:List Int):Prop:= ∀h:l≠[],l.getLast h≠0
theorem qhy: ∀{l:List Int},Lm l→Tr l→l≠[]→0<vl l
 |[],_,_,h=>absurd rfl h
 |[x],hl,ht,_=>by
  have:=ht (by simp)
  simp only[List.getLast_singleton]at this
  have:=hl.head
  rw[vl];omega
 |x::y::l,hl,ht,_=>by
  have:=qhy (l:=y::l) hl.tail (fun h=>by have:=ht (by simp);rwa [List.getLast_cons (by simp)]at this) (by simp)
  rw[vl];omega
theorem qee: ∀{l:List Int},Lm l→Tr l→l=lim (vl l)
 |[],_,_=>by rw[vl,Qh]
 |x::l,hl,ht=>by
  have hx:=hl.head
  have hpos:=qhy hl ht (by simp)
  rw[q0b O]
  have h1:vl (x::l)%4294967296=x.toNat:=by rw[vl];omega
  have h2:vl (x::l)/4294967296=vl l:=by rw[vl];omega
  rw[h1,h2,Int.toNat_of_nonneg hx.1]
  congr 1
  cases l with
  |nil=>rw[vl,Qh]
  |cons y l=>exact qee hl.tail (fun h=>by have:=ht (by simp);rwa [List.getLast_cons (by simp)]at this)
theorem qjh (n:Nat):Tr (lim n):=by
 induction n using Nat.strongRecOn with
 |ind n ih=>
  by_cases h:n=0
  · subst h;rw[Qh];intro h;exact absurd rfl h
  · rw[q0b h]
    by_cases h2:n/4294967296=0
    · rw[show lim (n/4294967296)=[] by rw[h2,Qh]]
      intro _
      simp only[List.getLast_singleton]
      omega
    · intro hne
      have hne2:lim (n/4294967296)≠[]:=by rw[q0b h2];simp
      rw[List.getLast_cons hne2]
      exact ih _ (Nat.div_lt_self (Nat.pos_of_ne_zero h) O) hne2
theorem Xm {n k:Nat} (h:n<4294967296^k):(lim n).length≤k:=by
 induction k generalizing n with
 |zero=>
  have:n=0:=by simpa using h
  subst this;rw[Qh];simp
 |succ k ih=>
  by_cases h0:n=0
  · subst h0;rw[Qh];simp
  · rw[q0b h0,List.length_cons]
    have:n/4294967296<4294967296^k:=by
     rw[Nat.div_lt_iff_lt_mul O];rwa [Nat.pow_succ]at h
    have:=ih this
    omega
theorem Qy {l:List Int} (h:Lm l):(lim (vl l)).length≤l.length:=Xm (vl_lt h)
theorem Ji {n:Nat}:lim n=[]↔n=0:=by
 constructor
 · intro h
   have:=qw n
   rw[h]at this
   exact this.symm
 · rintro rfl;exact Qh
theorem fdiv_pow {a:Nat} {k:Nat}:Int.fdiv (a:Int) (2^k)=((a/2^k:Nat):Int):=by
 rw[Int.fdiv_eq_ediv_of_nonneg _ (by exact Int.le_of_lt (Int.pow_pos O))]
 rw[Int.natCast_ediv]
 congr 1
theorem shr64 {a k:Nat} (hk:k≤64):shr_ .u64 (a:Int) (k:Int)=((a/2^k:Nat):Int):=by
 unfold shr_
 rw[show min (k:Int).toNat (IntKind.u64.bits)=k by show min _ 64=k;omega]
 exact fdiv_pow
theorem ofInt64 {a:Nat} (h:a<18446744073709551616):(BitVec.ofInt 64 (a:Int)).toNat=a:=by
 rw[BitVec.toNat_ofInt]
 have:((a:Int)%((2^64:Nat):Int)).toNat=a:=O
 exact this
theorem and64 {a b:Nat} (ha:a<18446744073709551616) (hb:b<18446744073709551616):qx .u64 (a:Int) (b:Int)=((a&&&b:Nat):Int):=by
 unfold qx
 show IntKind.wrap .u64 ((BitVec.ofInt 64 (a:Int)&&&BitVec.ofInt 64 (b:Int)).toNat:Int)=_
 rw[BitVec.toNat_and,ofInt64 ha,ofInt64 hb]
 have:a&&&b<18446744073709551616:=Nat.lt_of_le_of_lt Nat.and_le_left ha
 rw[wu O O]
theorem low32 {a:Nat} (ha:a<18446744073709551616):qx .u64 (a:Int) 4294967295=((a%4294967296:Nat):Int):=by
 have h:=and64 ha (b:=4294967295) O
 rw[show((4294967295:Nat):Int)=4294967295 from rfl]at h
 rw[h,show(4294967295:Nat)=2^32-1 by decide,Nat.and_two_pow_sub_one_eq_mod]
theorem w32 {a:Nat}:w_u32 (a:Int)=((a%4294967296:Nat):Int):=by
 show(a:Int)%4294967296=_
 omega
theorem w64n {a:Nat} (h:a<18446744073709551616):w_u64 (a:Int)=(a:Int):=wu O O
theorem getLast_take {l:List Int} {k:Nat} (h:k<l.length) (hne:l.take (k+1)≠[]):(l.take (k+1)).getLast hne=l.getD k 0:=by
 rw[List.getLast_eq_getElem]
 simp only[List.length_take,show min (k+1) l.length-1=k by omega,List.getElem_take]
 simp[List.getD,h]
theorem qeo (m:Nat) {l:List Int} (hl:l.length≤1000000000): ∀(k n:Nat),k<n→k≤l.length→
 ∃j:Nat,g86_L0 m n l (k:Int)=some (.inl (l,(j:Int),()))∧j≤k∧(∀i,j≤i→i<k→l.getD i 0=0)∧(j=0∨l.getD (j-1) 0≠0)
 |0,n,h,_=>by
  obtain⟨n,rfl⟩: ∃n',n=n'+1:=⟨n-1,O⟩
  rw[g86_L0,bif_decide,if_neg O]
  exact⟨0,rfl,Nat.le_refl _,fun i a b=>O,.inl rfl⟩
 |k+1,n,h,hk=>by
  obtain⟨n,rfl⟩: ∃n',n=n'+1:=⟨n-1,O⟩
  have w1:w_i64 (((k+1:Nat):Int)-1)=(k:Int):=by rw[w_i64_eq,wi O O];omega
  rw[g86_L0,bif_decide,if_pos O,w1,if_pos O,Int.toNat_natCast,bif_eq]
  by_cases e:l.getD k 0=0
  · rw[if_pos e]
    obtain⟨j,g1,g2,g3,g4⟩:=qeo m hl k n O O
    refine⟨j,g1,O,fun i a b=> ?_,g4⟩
    by_cases ei:i=k
    · subst ei;exact e
    · exact g3 i a O
  · rw[if_neg e]
    exact⟨k+1,rfl,Nat.le_refl _,fun i a b=>O,.inr (by simpa using e)⟩
theorem X5 {m:Nat} {l:List Int} (h:Lm l) (hm:l.length<m) (hl:l.length≤1000000000):g86 m l=some (lim (vl l),(),()):=by
 obtain⟨j,e,h1,h2,h3⟩:=qeo m hl l.length m hm (Nat.le_refl _)
 rw[g86,e,Option.bind_some]
 dsimp only
 rw[if_pos O,Int.toNat_natCast]
 have hv:vl (l.take j)=vl l:=by
  conv=>rhs;rw[←List.take_append_drop j l,q92]
  rw[q3a (l:=l.drop j)]
  · omega
  · intro x hx
    obtain⟨i,hi,rfl⟩:=List.getElem_of_mem hx
    simp only[List.length_drop]at hi
    have:=h2 (j+i) O O
    rw[List.getElem_drop]
    rw[List.getD,List.getElem?_eq_getElem O]at this
    exact this
 rw[←hv]
 congr 2
 refine qee (fun x hx=>h x (List.mem_of_mem_take hx)) fun hne=> ?_
 rcases h3 with h3|h3
 · subst h3;exact absurd (List.take_zero ..) hne
 · obtain⟨j,rfl⟩: ∃j',j=j'+1:=⟨j-1,by
    have:j≠0:=by rintro rfl;exact hne (List.take_zero ..)
    omega⟩
   rw[getLast_take O]
   simpa using h3
theorem Lm.get {l:List Int} (h:Lm l) {k:Nat} (hk:k<l.length): ∃x:Nat,l.getD k 0=(x:Int)∧x<4294967296:=by
 have:=h (l.getD k 0) (by rw[List.getD,List.getElem?_eq_getElem hk];simp)
 exact⟨(l.getD k 0).toNat,O,O⟩
theorem Qo {l:List Int} {k:Nat} (hk:k<l.length):vl (l.drop k)=(l.getD k 0).toNat+4294967296*vl (l.drop (k+1)):=by
 rw[drop_cons (d:=(0:Int)) hk,vl]
theorem qm {l:List Int} {k:Nat} (hk:l.length≤k):vl (l.drop k)=0:=by rw[List.drop_eq_nil_of_le hk,vl]
theorem Zq {l:List Int} (h:Lm l) {x:Nat} (hx:x<4294967296):Lm (l++[(x:Int)]):=fun y hy=>by
 rcases List.mem_append.1 hy with hy|hy
 · exact h y hy
 · rw[List.mem_singleton]at hy;subst hy;omega
theorem Z7 {l:List Int} {x:Nat}:vl (l++[(x:Int)])=vl l+4294967296^l.length*x:=by
 rw[q92];simp[vl]
theorem qb7 (m:Nat) {a b:List Int} (ha:Lm a) (hb:Lm b) (hl:a.length≤1000000): ∀(n k:Nat) (out:List Int) (c:Nat),a.length-k<n→k≤a.length→Lm out→out.length=k→c<2→
 ∃out' c',g137_L0 m n b out (c:Int) a (a.length:Int) (k:Int)=some (.inl (out',((c':Nat):Int),()))∧Lm out'∧out'.length=a.length∧c'<2∧
  vl out'+4294967296^a.length*(c'+vl (b.drop a.length))=vl out+4294967296^k*(c+vl (a.drop k)+vl (b.drop k))
 |0,k,out,c,h,_,_,_,_=>O
 |n+1,k,out,c,h,hk0,ho,hol,hc=>by
  rw[g137_L0]
  by_cases hk:k<a.length
  · have h1:((k:Int)<(a.length:Int)):=O
    have c1:(0:Int)≤(k:Int)∧(k:Int)<(a.length:Int):=O
    obtain⟨x,ex,hx⟩:=ha.get hk
    have c2: ∀y:Int,out.length+([y]:List Int).length≤1073741824:=fun y=>by show out.length+1≤_;omega
    have w1:w_u64 (x:Int)=(x:Int):=w64n O
    have w2:w_u64 ((x:Int)+(c:Int))=((x+c:Nat):Int):=by rw[show(x:Int)+(c:Int)=((x+c:Nat):Int) by omega,w64n O]
    have step: ∀(t:Nat) (y:Nat),t=x+c+y→y<4294967296→vl (b.drop k)=y+4294967296*vl (b.drop (k+1))→
     vl (out++[((t%4294967296:Nat):Int)])+4294967296^(k+1)*(t/4294967296+vl (a.drop (k+1))+vl (b.drop (k+1)))=vl out+4294967296^k*(c+vl (a.drop k)+vl (b.drop k)):=by
     intro t y ht hy hb2
     have hp:4294967296^(k+1)*(t/4294967296+vl (a.drop (k+1))+vl (b.drop (k+1)))=4294967296^k*(4294967296*(t/4294967296+vl (a.drop (k+1))+vl (b.drop (k+1)))):=by
      rw[Nat.pow_succ,Nat.mul_assoc]
     rw[Z7,hol,hp,Nat.add_assoc,←Nat.mul_add,hb2,Qo hk,ex,Int.toNat_natCast]
     congr 2
     omega
    by_cases hkb:k<b.length
    · have h2:((k:Int)<(b.length:Int)):=O
      have c3:(0:Int)≤(k:Int)∧(k:Int)<(b.length:Int):=O
      obtain⟨y,ey,hy⟩:=hb.get hkb
      have w3:w_u64 (y:Int)=(y:Int):=w64n O
      have w4:w_u64 (((x+c:Nat):Int)+(y:Int))=((x+c+y:Nat):Int):=by rw[show((x+c:Nat):Int)+(y:Int)=((x+c+y:Nat):Int) by omega,w64n O]
      have e1:w_u32 (qx .u64 ((x+c+y:Nat):Int) 4294967295)=(((x+c+y)%4294967296:Nat):Int):=by rw[low32 O,w32,Nat.mod_mod]
      have e2:shr_ .u64 ((x+c+y:Nat):Int) 32=(((x+c+y)/4294967296:Nat):Int):=shr64 (a:=x+c+y) (k:=32) O
      rw[bif_decide,if_pos h1,if_pos c1,bif_decide,if_pos h2,if_pos c3,Int.toNat_natCast,ex,ey,w1,w2,w3,w4,e1,e2,if_pos (c2 _),show w_i64 ((k:Int)+1)=((k+1:Nat):Int)from wsucc O]
      obtain⟨out',c',g1,g2,g3,g4,g5⟩:=qb7 m ha hb hl n (k+1) (out++[(((x+c+y)%4294967296:Nat):Int)]) ((x+c+y)/4294967296) O O (Zq ho O) (by simp[hol]) O
      refine⟨out',c',g1,g2,g3,g4,?_⟩
      rw[g5]
      exact step (x+c+y) y rfl hy (by rw[Qo hkb,ey,Int.toNat_natCast])
    · have h2: ¬((k:Int)<(b.length:Int)):=O
      have e1:w_u32 (qx .u64 ((x+c:Nat):Int) 4294967295)=(((x+c)%4294967296:Nat):Int):=by rw[low32 O,w32,Nat.mod_mod]
      have e2:shr_ .u64 ((x+c:Nat):Int) 32=(((x+c)/4294967296:Nat):Int):=shr64 (a:=x+c) (k:=32) O
      rw[bif_decide,if_pos h1,if_pos c1,bif_decide,if_neg h2,Int.toNat_natCast,ex,w1,w2,e1,e2,if_pos (c2 _),show w_i64 ((k:Int)+1)=((k+1:Nat):Int)from wsucc O]
      obtain⟨out',c',g1,g2,g3,g4,g5⟩:=qb7 m ha hb hl n (k+1) (out++[(((x+c)%4294967296:Nat):Int)]) ((x+c)/4294967296) O O (Zq ho O) (by simp[hol]) O
      refine⟨out',c',g1,g2,g3,g4,?_⟩
      rw[g5]
      exact step (x+c) 0 rfl O (by rw[qm O,qm O])
  · rw[bif_decide,if_neg O]
    have:k=a.length:=O
    subst this
    refine⟨out,c,rfl,ho,hol,hc,?_⟩
    rw[qm (l:=a) (Nat.le_refl _)]
    congr 1
theorem qgo {m:Nat} (hm:2000000<m) {a b:List Int} (ha:Lm a) (hb:Lm b) (hla:a.length≤1000000) (hlb:b.length≤1000000):g137 m a b=some (lim (vl a+vl b),(),(),()):=by
 have main: ∀a b:List Int,Lm a→Lm b→a.length≤1000000→b.length≤a.length→((g137_L0 m m b (List.replicate 0 (0:Int)) 0 a (a.length:Int) 0).bind fun y1=>match y1 with
  | .inl z2=>if z2.1.length+([w_u32 z2.2.1]:List Int).length≤1073741824 then(g86 m (z2.1++([w_u32 z2.2.1]:List Int))).bind fun y3=>some (y3.1,((),(),()))else none
  | .inr e=>e.elim)=some (lim (vl a+vl b),(),(),()):=by
  intro a b ha hb hla hab
  obtain⟨out,c,e,h1,h2,h3,h4⟩:=qb7 m ha hb hla m 0 [] 0 O O (fun x hx=>by cases hx) rfl O
  rw[Int.natCast_zero]at e
  rw[show List.replicate 0 (0:Int)=[]from rfl,e,Option.bind_some]
  dsimp only
  have w:w_u32 (c:Int)=(c:Int):=by rw[w32];congr 1;omega
  rw[if_pos (by rw[h2];show a.length+1≤_;omega),w,X5 (Zq h1 O) (by rw[List.length_append,h2];show a.length+1<m;omega) (by rw[List.length_append,h2];show a.length+1≤_;omega),Option.bind_some]
  dsimp only
  have:vl (out++[(c:Int)])=vl a+vl b:=by
   rw[Z7,h2]
   rw[qm hab]at h4
   simp only[List.drop_zero,Nat.pow_zero,Nat.one_mul,vl,Nat.zero_add,Nat.add_zero]at h4
   exact h4
  rw[this]
 rw[g137,bif_decide]
 by_cases h:(a.length:Int)<(b.length:Int)
 · have w:w_i64 ((b.length:Int)+1)=((b.length+1:Nat):Int):=wsucc O
   rw[if_pos h,w,if_pos O,Nat.add_comm (vl a)]
   exact main b a hb ha hlb O
 · have w:w_i64 ((a.length:Int)+1)=((a.length+1:Nat):Int):=wsucc O
   rw[if_neg h,w,if_pos O]
   exact main a b ha hb hla O
def bigM (neg:Bool) (n:Nat):Bool×List Int:=(neg&&n !=0,lim n)
theorem qju {m:Nat} {l:List Int} (h:Lm l) (hm:l.length<m) (hl:l.length≤1000000000) (neg:Bool):g134 m neg l=some (((bigM neg (vl l)).1,(bigM neg (vl l)).2,()),(),(),()):=by
 rw[g134,X5 h hm hl,Option.bind_some,bif_eq]
 dsimp only[bigM]
 by_cases e:vl l=0
 · rw[e,Qh,if_pos (show((([]:List Int).length:Nat):Int)=0 from rfl)];simp
 · have: ¬((lim (vl l)).length:Int)=0:=fun h=>e (Ji.1 (List.length_eq_zero_iff.1 O))
   rw[if_neg this]
   have:(vl l !=0)=true:=by simpa using e
   rw[this,Bool.and_true]
theorem q19: ∀{l:List Int} {p:Nat} {y:Int},p<l.length→vl (l.set p y)+4294967296^p*(l.getD p 0).toNat=vl l+4294967296^p*y.toNat
 |[],p,y,h=>by simp at h
 |x::l,0,y,h=>by simp[vl];omega
 |x::l,p+1,y,h=>by
  have ih:=q19 (l:=l) (p:=p) (y:=y) (by simpa using h)
  rw[List.set_cons_succ,vl,vl,show(x::l).getD (p+1) 0=l.getD p 0 by simp[List.getD],Nat.pow_succ,Nat.mul_comm (4294967296^p),Nat.mul_assoc,Nat.mul_assoc]
  omega
theorem q2s {l:List Int} (h:Lm l) {p x:Nat} (hx:x<4294967296):Lm (l.set p (x:Int)):=fun y hy=>by
 rcases List.mem_or_eq_of_mem_set hy with hy|rfl
 · exact h y hy
 · omega
theorem Xf {n:Nat}:Lm (List.replicate n 0):=fun x hx=>by
 obtain⟨_,rfl⟩:=List.mem_replicate.1 hx;omega
theorem Xg {n:Nat}:vl (List.replicate n 0)=0:=q3a fun x hx=>(List.mem_replicate.1 hx).2
theorem w64m {n:Int}:w_u64 n=n%18446744073709551616:=by
 show IntKind.wrap .u64 n=_
 unfold IntKind.wrap
 show(if(false&&decide (n%18446744073709551616≥9223372036854775808))=true then n%18446744073709551616-18446744073709551616 else n%18446744073709551616)=n%18446744073709551616
 simp only[Bool.false_and]
 rw[if_neg (by simp)]
theorem Qk {x y:Nat} (h:x≤y):(lim x).length≤(lim y).length:=by
 have:=vl_lt (Qa y)
 rw[qw]at this
 exact Xm O
theorem Xz {l:List Int} {k:Nat} (h:k≤l.length):vl l=vl (l.take k)+4294967296^k*vl (l.drop k):=by
 conv=>lhs;rw[←List.take_append_drop k l,q92]
 rw[List.length_take,show min k l.length=k by omega]
theorem Yh {a b:List Int} (ha:Lm a) {k:Nat} (hka:k≤a.length) (hkb:k≤b.length) (h:vl (a.drop k)<vl (b.drop k)):vl a<vl b:=by
 rw[Xz hka,Xz hkb]
 have h1:=vl_lt (l:=a.take k) fun x hx=>ha x (List.mem_of_mem_take hx)
 rw[List.length_take,show min k a.length=k by omega]at h1
 have h2:4294967296^k*(vl (a.drop k)+1)≤4294967296^k*vl (b.drop k):=Nat.mul_le_mul_left _ h
 rw[Nat.mul_add,Nat.mul_one]at h2
 omega
def cmpN (x y:Nat):Int:=if x<y then-1 else if y<x then 1 else 0
def zv (neg:Bool) (l:List Int):Int:=if neg then-(vl l:Int)else(vl l:Int)
def zB (z:Int):Bool×List Int×Unit:=(decide (z<0),lim z.natAbs,())
def Sz (l:List Int):Prop:=Lm l∧l.length≤1000000
def zlen (z:Int):Nat:=(lim z.natAbs).length
theorem Ya {neg:Bool} {l:List Int}:(zv neg l).natAbs=vl l:=by
 unfold zv;cases neg<;>simp
theorem zv_zB (z:Int):zv (zB z).1 (zB z).2.1=z:=by
 unfold zv zB
 rw[qw]
 by_cases h:z<0
 · rw[if_pos (by simpa using h)];omega
 · rw[if_neg (by simpa using h)];omega
theorem Sz_zB {z:Int} (h:zlen z≤1000000):Sz (zB z).2.1:=⟨Qa _,h⟩
theorem qhk {a b:Int} {k:Nat} (ha:zlen a≤k) (hb:zlen b≤k):zlen (a+b)≤k+1:=by
 refine Xm ?_
 have h1:=vl_lt (Qa a.natAbs)
 have h2:=vl_lt (Qa b.natAbs)
 rw[qw]at h1 h2
 have h3:4294967296^(lim a.natAbs).length≤4294967296^k:=Nat.pow_le_pow_right O ha
 have h4:4294967296^(lim b.natAbs).length≤4294967296^k:=Nat.pow_le_pow_right O hb
 rw[Nat.pow_succ]
 omega
theorem qib {neg:Bool} {n:Nat}:zB (if neg then-(n:Int)else(n:Int))=((bigM neg n).1,(bigM neg n).2,()):=by
 unfold zB bigM
 cases neg with
 |false=>
  show(decide ((n:Int)<0),lim (n:Int).natAbs,())=_
  rw[show decide ((n:Int)<0)=false by simp,Int.natAbs_natCast];rfl
 |true=>
  show(decide (-(n:Int)<0),lim (-(n:Int)).natAbs,())=_
  rw[Int.natAbs_neg,Int.natAbs_natCast]
  by_cases h:n=0
  · subst h;rfl
  · rw[show decide (-(n:Int)<0)=true by rw[decide_eq_true_eq];omega,show(n !=0)=true by simpa using h];rfl
theorem q9a {m:Nat} (hm:2000000<m) {l:List Int} (h:Lm l) (hl:l.length≤1000001) (neg:Bool):g134 m neg l=some (zB (zv neg l),(),(),()):=by
 rw[qju h O O,zv,qib]
theorem bigN {m:Nat} (hm:2000000<m) {n:Nat} (hl:(lim n).length≤1000001) (neg:Bool):g134 m neg (lim n)=some (zB (if neg then-(n:Int)else(n:Int)),(),(),()):=by
 rw[q9a hm (Qa n) hl,zv,qw]
theorem qgq {m:Nat} {l:List Int} (h:l.length≤1000001):g142 m l=some (l,(),()):=by
 rw[g142,if_pos (by simp;omega)]
theorem qec {neg:Bool} {l:List Int}:zv (!neg) l= -zv neg l:=by
 unfold zv;cases neg<;>simp
theorem qix {m:Nat} (hm:2000000<m) {neg:Bool} {l:List Int} (h:Sz l):g139 m neg l=some (zB (zv neg l),(),()):=by
 rw[g139,qgq (by have:=h.2;omega),Option.bind_some,q9a hm h.1 (by have:=h.2;omega)];rfl
theorem qc7 {m:Nat} (hm:2000000<m) {neg:Bool} {l:List Int} (h:Sz l):g84 m neg l=some (zB (-zv neg l),(),()):=by
 rw[g84,qgq (by have:=h.2;omega),Option.bind_some,q9a hm h.1 (by have:=h.2;omega),qec];rfl
theorem Zk {n:Nat}:((lim n).length:Int)=0↔n=0:=by
 rw[←Ji,←List.length_eq_zero_iff];omega
def sgn (z:Int):Int:=if z<0 then-1 else if 0<z then 1 else 0
theorem q2d {m:Nat} (hm:2000000<m) {neg:Bool} {l:List Int} (h:Sz l):g31 m neg l=some (sgn (zv neg l),(),()):=by
 rw[g31,X5 h.1 (by have:=h.2;omega) (by have:=h.2;omega),Option.bind_some,bif_eq]
 dsimp only
 unfold sgn zv
 by_cases e:vl l=0
 · rw[if_pos (Zk.2 e)]
   cases neg<;>simp[e]
 · rw[if_neg (fun h=>e (Zk.1 h))]
   cases neg
   · simp only[cond_false,if_neg (show¬(false=true) by simp)]
     rw[if_neg O,if_pos O]
   · simp only[cond_true,if_pos]
     rw[if_pos O]
theorem q2l {m:Nat} (hm:2000000<m) {n:Int} (h1: -9223372036854775808≤n) (h2:n<9223372036854775808):g82 m n=some (zB n,(),()):=by
 have lo: ∀u:Nat,u<18446744073709551616→ ∀neg:Bool,g134 m neg [w_u32 (qx .u64 (u:Int) 4294967295),w_u32 (shr_ .u64 (u:Int) 32)]=some (zB (if neg then-(u:Int)else(u:Int)),(),(),()):=by
  intro u hu neg
  have e2:shr_ .u64 (u:Int) 32=((u/4294967296:Nat):Int):=shr64 (a:=u) (k:=32) O
  rw[low32 hu,w32,e2,w32,Nat.mod_mod,Nat.mod_eq_of_lt (show u/4294967296<4294967296 by omega),q9a hm,zv]
  · have:vl [((u%4294967296:Nat):Int),((u/4294967296:Nat):Int)]=u:=by
     simp only[vl,Int.toNat_natCast];omega
    rw[this]
  · intro x hx
    simp only[List.mem_cons,List.not_mem_nil,or_false]at hx
    omega
  · simp
 rw[g82,bif_decide]
 by_cases h:n<0
 · have w:w_u64 (0-w_u64 n)=((n.natAbs:Nat):Int):=by rw[w64m,w64m];omega
   rw[if_pos h,w,lo _ O,Option.bind_some,show decide (n<0)=true by simpa using h,if_pos rfl,show-(n.natAbs:Int)=n by omega]
 · have w:w_u64 n=((n.natAbs:Nat):Int):=by rw[w64m];omega
   rw[if_neg h,w,lo _ O,Option.bind_some,show decide (n<0)=false by simpa using h,if_neg (by simp),show(n.natAbs:Int)=n by omega]
theorem Sz.lim {l:List Int} (h:Sz l):(lim (vl l)).length≤1000000:=Nat.le_trans (Qy h.1) h.2
theorem qf3 {x y:Nat} (hx:(lim x).length≤1000000) (hy:(lim y).length≤1000000):(lim (x+y)).length≤1000001:=by
 have:=qhk (a:=(x:Int)) (b:=(y:Int)) (k:=1000000) hx hy
 unfold zlen at this
 rwa [show((x:Int)+(y:Int)).natAbs=x+y by omega]at this
theorem ofInt32 {a:Nat} (h:a<4294967296):(BitVec.ofInt 32 (a:Int)).toNat=a:=by
 rw[BitVec.toNat_ofInt]
 have:((a:Int)%((2^32:Nat):Int)).toNat=a:=O
 exact this
theorem wrap32 {a:Nat} (h:a<4294967296):IntKind.wrap .u32 (a:Int)=(a:Int):=by
 show w_u32 (a:Int)=_
 rw[w32,Nat.mod_eq_of_lt h]
theorem or32 {a b:Nat} (ha:a<4294967296) (hb:b<4294967296):b_or_ .u32 (a:Int) (b:Int)=((a|||b:Nat):Int):=by
 unfold b_or_
 show IntKind.wrap .u32 ((BitVec.ofInt 32 (a:Int)|||BitVec.ofInt 32 (b:Int)).toNat:Int)=_
 rw[BitVec.toNat_or,ofInt32 ha,ofInt32 hb]
 have:a|||b<2^32:=Nat.or_lt_two_pow ha hb
 rw[wrap32 O]
theorem and32 {a b:Nat} (ha:a<4294967296) (hb:b<4294967296):qx .u32 (a:Int) (b:Int)=((a&&&b:Nat):Int):=by
 unfold qx
 show IntKind.wrap .u32 ((BitVec.ofInt 32 (a:Int)&&&BitVec.ofInt 32 (b:Int)).toNat:Int)=_
 rw[BitVec.toNat_and,ofInt32 ha,ofInt32 hb]
 have:a&&&b≤a:=Nat.and_le_left
 rw[wrap32 O]
theorem or64 {a b:Nat} (ha:a<18446744073709551616) (hb:b<18446744073709551616):b_or_ .u64 (a:Int) (b:Int)=((a|||b:Nat):Int):=by
 unfold b_or_
 show IntKind.wrap .u64 ((BitVec.ofInt 64 (a:Int)|||BitVec.ofInt 64 (b:Int)).toNat:Int)=_
 rw[BitVec.toNat_or,ofInt64 ha,ofInt64 hb]
 have:a|||b<2^64:=Nat.or_lt_two_pow ha hb
 rw[wu O O]
theorem shl64 {a k:Nat} (hk:k≤64) (h:a*2^k<18446744073709551616):shl_ .u64 (a:Int) (k:Int)=((a*2^k:Nat):Int):=by
 unfold shl_
 rw[show min (k:Int).toNat (IntKind.u64.bits)=k by show min _ 64=k;omega]
 have:(a:Int)*2^k=((a*2^k:Nat):Int):=by
  rw[Int.natCast_mul,Int.natCast_pow];rfl
 rw[this]
 exact w64n h
theorem qck {n:Nat}:Int.tdiv (n:Int) 32=((n/32:Nat):Int):=(Int.ofNat_tdiv n 32).symm
theorem qbz {n:Nat}:Int.tmod (n:Int) 32=((n%32:Nat):Int):=(Int.ofNat_tmod n 32).symm
theorem qiv {x p o:Nat} (hx:x<4294967296) (hp:p<32) (ho:o<2^p): ∃d e:Nat,d<4294967296∧e<2^p∧d+4294967296*e=o+x*2^p∧
 b_or_ .u32 (o:Int) (w_u32 (qx .u64 (shl_ .u64 (x:Int) (p:Int)) 4294967295))=(d:Int)∧w_u32 (shr_ .u64 (shl_ .u64 (x:Int) (p:Int)) 32)=(e:Int):=by
 have hpp:2^p*2^(32-p)=4294967296:=by rw[←Nat.pow_add,show p+(32-p)=32 by omega]
 have hP:0<2^p:=Nat.pow_pos O
 have hQ:0<2^(32-p):=Nat.pow_pos O
 have hple:2^p≤2^31:=Nat.pow_le_pow_right O O
 have h1:x*2^p≤4294967295*2^p:=Nat.mul_le_mul_right _ O
 have h2:4294967295*2^p≤4294967295*2^31:=Nat.mul_le_mul_left _ hple
 have hx2:x*2^p<18446744073709551616:=by
  have:(4294967295:Nat)*2^31<18446744073709551616:=by decide
  omega
 have e2:shr_ .u64 ((x*2^p:Nat):Int) 32=((x*2^p/4294967296:Nat):Int):=shr64 (a:=x*2^p) (k:=32) O
 have hlo:x*2^p%4294967296=2^p*(x%2^(32-p)):=by
  rw[←hpp,Nat.mul_comm x,Nat.mul_mod_mul_left]
 have hhi:x*2^p/4294967296<2^p:=by
  rw[Nat.div_lt_iff_lt_mul O,Nat.mul_comm]
  exact Nat.mul_lt_mul_of_pos_left hx hP
 have hor:o|||x*2^p%4294967296=o+x*2^p%4294967296:=by
  rw[hlo,Nat.or_comm,←Nat.two_pow_add_eq_or_of_lt ho,Nat.add_comm]
 have hlt:o+x*2^p%4294967296<4294967296:=by
  rw[←hor]
  have:o|||x*2^p%4294967296<2^32:=Nat.or_lt_two_pow O O
  omega
 refine⟨o+x*2^p%4294967296,x*2^p/4294967296,hlt,hhi,O,?_,?_⟩
 · rw[shl64 O hx2,low32 hx2,w32,Nat.mod_mod,or32 O O,hor]
 · rw[shl64 O hx2,e2,w32,Nat.mod_eq_of_lt O]
theorem qjo {B P T V0 V1 V2 x d e o D:Nat} (hs1:V1+P*o=V0+P*d) (hs2:V2+P*B*(0:Int).toNat=V1+P*B*e) (hde:d+B*e=o+x*T):V2+P*B*(T*D)=V0+P*(T*(x+B*D)):=by
 rw[show(0:Int).toNat=0 from rfl,Nat.mul_zero,Nat.add_zero]at hs2
 have k1:P*(d+B*e)=P*(o+x*T):=by rw[hde]
 have k2:P*(d+B*e)=P*d+P*B*e:=by rw[Nat.mul_add,Nat.mul_assoc]
 have k3:P*(o+x*T)=P*o+P*(T*x):=by rw[Nat.mul_add,Nat.mul_comm x]
 have k4:P*(T*(x+B*D))=P*(T*x)+P*B*(T*D):=by
  rw[Nat.mul_add,Nat.mul_add,Nat.mul_left_comm T B D,Nat.mul_assoc P B]
 rw[k4]
 omega
theorem up_L0 (m:Nat) {a:List Int} {w p:Nat} (ha:Lm a) (hl:a.length≤1000000) (hw:w≤1000000) (hp:p<32): ∀(n k:Nat) (out:List Int) (o:Nat),a.length-k<n→k≤a.length→Lm out→out.length=w+a.length+1→(∀q,w+k<q→out.getD q 0=0)→out.getD (w+k) 0=(o:Int)→o<2^p→
 ∃out',g135_L0 m n (w:Int) (p:Int) out a (a.length:Int) (k:Int)=some (.inl (out',()))∧Lm out'∧out'.length=out.length∧vl out'=vl out+4294967296^(w+k)*(2^p*vl (a.drop k)):=by
 intro n
 induction n with
 |zero=>intro k out o h;omega
 |succ n ih=>
  intro k out o h hk0 ho hol hz eo hop
  rw[g135_L0]
  by_cases hk:k<a.length
  · have h1:((k:Int)<(a.length:Int)):=O
    have c1:(0:Int)≤(k:Int)∧(k:Int)<(a.length:Int):=O
    obtain⟨x,ex,hx⟩:=ha.get hk
    have w0:w_i64 ((w:Int)+(k:Int))=((w+k:Nat):Int):=by rw[w_i64_eq,wi O O];omega
    have w1:w_i64 (((w+k:Nat):Int)+1)=((w+k+1:Nat):Int):=wsucc O
    have w2:w_u64 (x:Int)=(x:Int):=w64n O
    have c2:(0:Int)≤((w+k:Nat):Int)∧((w+k:Nat):Int)<(out.length:Int):=O
    obtain⟨d,e,hd,he,hde,q1,q2⟩:=qiv hx hp hop
    have he2:e<4294967296:=by
     have hple:2^p≤2^31:=Nat.pow_le_pow_right O O
     omega
    have c3:(0:Int)≤((w+k+1:Nat):Int)∧((w+k+1:Nat):Int)<(((out.set (w+k) (d:Int)).length:Nat):Int):=by rw[List.length_set];omega
    rw[bif_decide,if_pos h1,if_pos c1,if_pos O,w0,w1,if_pos c2,if_pos c2,Int.toNat_natCast,Int.toNat_natCast,Int.toNat_natCast,Nat.zero_add,Nat.zero_add,ex,eo,w2,q1,q2,if_pos c3,show w_i64 ((k:Int)+1)=((k+1:Nat):Int)from wsucc O]
    have hs1:=q19 (l:=out) (p:=w+k) (y:=(d:Int)) O
    have hs2:=q19 (l:=out.set (w+k) (d:Int)) (p:=w+k+1) (y:=(e:Int)) (by rw[List.length_set];omega)
    rw[getD_set_ne O,hz _ O]at hs2
    rw[eo]at hs1
    obtain⟨out',g1,g2,g3,g4⟩:=ih (k+1) ((out.set (w+k) (d:Int)).set (w+k+1) (e:Int)) e O O (q2s (q2s ho hd) he2) (by rw[List.length_set,List.length_set];exact hol) (fun q hq=>by
     rw[getD_set_ne O,getD_set_ne O];exact hz q O) (by rw[show w+(k+1)=w+k+1 by omega,q0f (by rw[List.length_set];omega)]) he
    refine⟨out',g1,g2,by rw[g3,List.length_set,List.length_set],?_⟩
    have hpw:4294967296^(w+k+1)=4294967296^(w+k)*4294967296:=Nat.pow_succ ..
    rw[hpw,Int.toNat_natCast]at hs2
    rw[Int.toNat_natCast,Int.toNat_natCast]at hs1
    rw[g4,Qo hk,ex,Int.toNat_natCast,←Nat.add_assoc w k 1,hpw]
    exact qjo hs1 hs2 hde
  · rw[bif_decide,if_neg O]
    refine⟨out,rfl,ho,rfl,?_⟩
    rw[qm O];simp
theorem pow32 {w p:Nat}:4294967296^w*2^p=2^(32*w+p):=by
 rw[show(4294967296:Nat)=2^32 by decide,←Nat.pow_mul,←Nat.pow_add]
theorem up_eq {m:Nat} (hm:3000000<m) {a:List Int} (ha:Lm a) (hl:a.length≤500000) {n:Nat} (hn:n≤10000000):g135 m a (n:Int)=some (lim (vl a*2^n),(),(),()):=by
 rw[g135,bif_eq]
 by_cases h:(a.length:Int)=0
 · have:a=[]:=List.length_eq_zero_iff.1 O
   subst this
   rw[if_pos h,vl,Nat.zero_mul,Qh]
 · have w0:w_i64 (Int.tdiv (n:Int) 32)=((n/32:Nat):Int):=by rw[qck,w_i64_eq,wi O O]
   have w1:w_u64 (Int.tmod (n:Int) 32)=((n%32:Nat):Int):=by rw[qbz,w64n O]
   have w2:w_i64 (((n/32:Nat):Int)+(a.length:Int))=((n/32+a.length:Nat):Int):=by rw[w_i64_eq,wi O O];omega
   have w3:w_i64 (((n/32+a.length:Nat):Int)+1)=((n/32+a.length+1:Nat):Int):=wsucc O
   obtain⟨out,e,h1,h2,h3⟩:=up_L0 m (w:=n/32) (p:=n%32) ha O O O m 0 (List.replicate (n/32+a.length+1) 0) 0 O O Xf (by simp) (fun p hp=>by
    by_cases h:p<n/32+a.length+1
    · rw[Qg h]
    · rw[Xq (by simpa using h)]) (by rw[Qg O];rfl) (Nat.pow_pos O)
   rw[Int.natCast_zero]at e
   rw[if_neg h,w0,w1,w2,w3,if_pos O,Int.toNat_natCast,e,Option.bind_some]
   dsimp only
   rw[List.length_replicate]at h2
   rw[X5 h1 O O,Option.bind_some]
   dsimp only
   rw[h3,Xg,List.drop_zero,Nat.zero_add,Nat.add_zero,←Nat.mul_assoc,pow32,show 32*(n/32)+n%32=n by omega,Nat.mul_comm]
def blen (n:Nat):Nat:=if n=0 then 0 else n.log2+1
theorem J4:blen 0=0:=rfl
theorem Qu {n:Nat} (h:n≠0):blen n=n.log2+1:=if_neg h
theorem qgj {n k:Nat} (h1:2^k≤n) (h2:n<2^(k+1)):blen n=k+1:=by
 have hn:n≠0:=by
  have:0<2^k:=Nat.pow_pos O
  omega
 rw[Qu hn]
 have a:n.log2<k+1:=(Nat.log2_lt hn).2 h2
 have b: ¬n.log2<k:=fun h=>by have:=(Nat.log2_lt hn).1 h;omega
 omega
theorem Zy (n:Nat):n<2^blen n:=by
 by_cases h:n=0
 · subst h;exact Nat.pow_pos O
 · rw[Qu h];exact Nat.lt_log2_self
theorem qfk {n:Nat} (h:n≠0):2^(blen n-1)≤n:=by
 rw[Qu h];exact Nat.log2_self_le h
theorem Jr {x k y:Nat} (hx:x≠0) (hy:y<2^k):blen (2^k*x+y)=k+blen x:=by
 have h1:=Zy x
 have h2:=qfk hx
 have h3:blen x=blen x-1+1:=by rw[Qu hx];omega
 rw[h3,←Nat.add_assoc]
 refine qgj ?_ ?_
 · rw[Nat.pow_add]
   have:=Nat.mul_le_mul_left (2^k) h2
   omega
 · rw[show k+(blen x-1)+1=k+blen x by omega,Nat.pow_add]
   have:2^k*(x+1)≤2^k*2^blen x:=Nat.mul_le_mul_left _ h1
   rw[Nat.mul_add,Nat.mul_one]at this
   omega
theorem qiq: ∀x:Fin 256,X7.getD x.val 0=((blen x.val:Nat):Int):=by decide+kernel
theorem qdc:X7.length=256:=by decide+kernel
theorem shr32 {a k:Nat} (hk:k≤32):shr_ .u32 (a:Int) (k:Int)=((a/2^k:Nat):Int):=by
 unfold shr_
 rw[show min (k:Int).toNat (IntKind.u32.bits)=k by show min _ 32=k;omega]
 exact fdiv_pow
theorem w8n {a:Nat} (h:a<256):w_u8 (a:Int)=(a:Int):=by
 show(a:Int)%256=_
 omega
theorem qbu {m x:Nat} (hx:x<4294967296):g190 m (x:Int)=some (((blen x:Nat):Int),(),()):=by
 have look: ∀y:Nat,y<256→(0:Int)≤w_u8 (y:Int)∧w_u8 (y:Int)<(X7.length:Int)∧w_i64 (X7.getD (w_u8 (y:Int)).toNat 0)=((blen y:Nat):Int)∧blen y≤8:=by
  intro y hy
  have b8:blen y≤8:=by
   by_cases h:y=0
   · subst h;exact Nat.zero_le _
   · have:y.log2<8:=(Nat.log2_lt h).2 hy
     rw[Qu h];omega
  rw[w8n hy,qdc,Int.toNat_natCast]
  refine⟨O,O,?_,b8⟩
  rw[show X7.getD y 0=((blen y:Nat):Int)from qiq ⟨y,hy⟩,w_i64_eq,wi O O]
 have sh: ∀k:Nat,k≤31→2^k≤x→blen x=k+blen (x/2^k):=by
  intro k hk hle
  have hp:0<2^k:=Nat.pow_pos O
  have:=Jr (x:=x/2^k) (k:=k) (y:=x%2^k) (by have:=Nat.div_pos hle hp;omega) (Nat.mod_lt _ hp)
  rwa [Nat.div_add_mod]at this
 have s16:shr_ .u32 (x:Int) 16=((x/65536:Nat):Int):=shr32 (k:=16) O
 have s8:shr_ .u32 (x:Int) 8=((x/256:Nat):Int):=shr32 (k:=8) O
 have s168:shr_ .u32 ((x/65536:Nat):Int) 8=((x/65536/256:Nat):Int):=shr32 (k:=8) O
 rw[g190,bif_decide,bif_decide,bif_decide,s16,s8,s168]
 by_cases h1:(x:Int)≥65536
 · rw[if_pos h1]
   by_cases h2:((x/65536:Nat):Int)≥256
   · obtain⟨l1,l2,l3,l4⟩:=look (x/65536/256) O
     have e:=sh 24 O O
     rw[show x/2^24=x/65536/256 by omega]at e
     rw[if_pos h2,if_pos ⟨l1,l2⟩,l3,w_i64_eq,wi O O,e,Int.natCast_add]
     rfl
   · obtain⟨l1,l2,l3,l4⟩:=look (x/65536) O
     have e:=sh 16 O O
     rw[show x/2^16=x/65536 by omega]at e
     rw[if_neg h2,if_pos ⟨l1,l2⟩,l3,w_i64_eq,wi O O,e,Int.natCast_add]
     rfl
 · rw[if_neg h1]
   by_cases h2:(x:Int)≥256
   · obtain⟨l1,l2,l3,l4⟩:=look (x/256) O
     have e:=sh 8 O O
     rw[show x/2^8=x/256 by omega]at e
     rw[if_pos h2,if_pos ⟨l1,l2⟩,l3,w_i64_eq,wi O O,e,Int.natCast_add]
     rfl
   · obtain⟨l1,l2,l3,l4⟩:=look x O
     rw[if_neg h2,if_pos ⟨l1,l2⟩,l3,w_i64_eq,wi O O,Int.zero_add]
theorem qd3 {n:Nat} (h:n≠0): ∃k x y:Nat,(lim n).length=k+1∧(lim n).getD k 0=(x:Int)∧x<4294967296∧x≠0∧y<2^(32*k)∧n=2^(32*k)*x+y:=by
 have hne:lim n≠[]:=fun e=>h (Ji.1 e)
 have hl:0<(lim n).length:=List.length_pos_iff.2 hne
 obtain⟨k,hk⟩: ∃k,(lim n).length=k+1:=⟨(lim n).length-1,O⟩
 obtain⟨x,ex,hx⟩:=(Qa n).get (show k<(lim n).length by omega)
 have hlast:=qjh n hne
 rw[List.getLast_eq_getElem]at hlast
 have hx0:x≠0:=by
  rintro rfl
  apply hlast
  rw[List.getD,List.getElem?_eq_getElem O]at ex
  simp only[hk,Nat.add_sub_cancel]
  exact ex
 have hb:(4294967296:Nat)^k=2^(32*k):=by rw[show(4294967296:Nat)=2^32 by decide,←Nat.pow_mul]
 have hv:=Xz (l:=lim n) (k:=k) O
 have hlt:=vl_lt (l:=(lim n).take k) fun x hx=>Qa n x (List.mem_of_mem_take hx)
 rw[List.length_take,show min k (lim n).length=k by omega,hb]at hlt
 rw[Qo O,ex,qm O,qw,Int.toNat_natCast,Nat.mul_zero,Nat.add_zero,hb]at hv
 exact⟨k,x,vl ((lim n).take k),hk,ex,hx,hx0,hlt,O⟩
theorem length_eq {m n:Nat} (h:(lim n).length≤1000000):g185 m (lim n)=some (((blen n:Nat):Int),(),()):=by
 rw[g185,bif_eq]
 by_cases e:n=0
 · subst e
   rw[if_pos (Zk.2 rfl)];rfl
 · obtain⟨k,x,y,h1,h2,h3,h4,h5,h6⟩:=qd3 e
   have w1:w_i64 (((lim n).length:Int)-1)=(k:Int):=by rw[w_i64_eq,wi O O];omega
   have w2:w_i64 ((k:Int)*32)=((32*k:Nat):Int):=by rw[w_i64_eq,wi O O];omega
   have hb:blen x≤32:=by
    have:x.log2<32:=(Nat.log2_lt h4).2 h3
    rw[Qu h4];omega
   have w3:w_i64 (((32*k:Nat):Int)+((blen x:Nat):Int))=((32*k+blen x:Nat):Int):=by rw[w_i64_eq,wi O O];omega
   rw[if_neg (fun h=>e (Zk.1 h)),w1,if_pos O,Int.toNat_natCast,h2,qbu h3,Option.bind_some]
   dsimp only
   rw[w2,w3,←Jr h4 h5,←h6]
theorem q51 {m:Nat} (hm:2000000<m) {neg:Bool} {l:List Int} (h:Sz l):g140 m neg l=some (((blen (vl l):Nat):Int),(),()):=by
 rw[g140,X5 h.1 (by have:=h.2;omega) (by have:=h.2;omega),Option.bind_some]
 dsimp only
 rw[length_eq h.lim,Option.bind_some]
def tz (n:Nat):Nat:=if h:n=0 then 0 else if n%2=1 then 0 else tz (n/2)+1
termination_by n
decreasing_by omega
theorem qbf:tz 0=0:=by rw[tz];simp
theorem qg9 {n:Nat} (h:n%2=1):tz n=0:=by
 rw[tz,dif_neg O,if_pos h]
theorem qhw {n:Nat} (h:n≠0):tz (2*n)=tz n+1:=by
 rw[tz,dif_neg O,if_neg O,show 2*n/2=n by omega]
theorem qf7 {k q:Nat} (h:q%2=1):tz (2^k*q)=k:=by
 induction k with
 |zero=>rw[Nat.pow_zero,Nat.one_mul,qg9 h]
 |succ k ih=>
  have:0<2^k*q:=Nat.mul_pos (Nat.pow_pos O) O
  rw[Nat.pow_succ,Nat.mul_comm (2^k) 2,Nat.mul_assoc,qhw O,ih]
theorem q4f {n:Nat} (h:n≠0): ∃q,n=2^tz n*q∧q%2=1:=by
 induction n using Nat.strongRecOn with
 |ind n ih=>
  by_cases e:n%2=1
  · exact⟨n,by rw[qg9 e];omega,e⟩
  · obtain⟨q,h1,h2⟩:=ih (n/2) O O
    refine⟨q,?_,h2⟩
    have e2:n=2*(n/2):=O
    have e3:tz n=tz (n/2)+1:=by
     have:=qhw (n:=n/2) O
     rwa [←e2]at this
    rw[e3,Nat.pow_succ,Nat.mul_comm (2^_) 2,Nat.mul_assoc,←h1]
    exact e2
theorem qfm {j q:Nat} (h:q<2^j):q&&&(2^j-(q+1))=0:=by
 apply Nat.eq_of_testBit_eq
 intro i
 rw[Nat.testBit_and,Nat.testBit_two_pow_sub_succ h,Nat.zero_testBit]
 cases Nat.testBit q i<;>simp
theorem q6t {x:Nat} (h0:x≠0) (hx:x<4294967296):x&&&(4294967296-x)=2^tz x∧tz x<32:=by
 obtain⟨q,h1,h2⟩:=q4f h0
 generalize tz x=k at*
 have hk:k<32:=by
  rcases Nat.lt_or_ge k 32 with h|h
  · exact h
  · have a:=Nat.pow_le_pow_right (n:=2) O h
    have b:2^k*1≤2^k*q:=Nat.mul_le_mul_left _ O
    have:(2:Nat)^32=4294967296:=by decide
    omega
 refine⟨?_,hk⟩
 obtain⟨r,rfl⟩: ∃r,q=2*r+1:=⟨q/2,O⟩
 have hp:2^k*(2*2^(31-k))=4294967296:=by
  rw[show 2*2^(31-k)=2^(31-k+1) by rw[Nat.pow_succ,Nat.mul_comm],←Nat.pow_add,show k+(31-k+1)=32 by omega]
 have hr:r<2^(31-k):=by
  have:2^k*(2*r+1)<2^k*(2*2^(31-k)):=O
  have:=Nat.lt_of_mul_lt_mul_left this
  omega
 have e:4294967296-x=2^k*(2*(2^(31-k)-(r+1))+1):=by
  rw[h1,←hp,←Nat.mul_sub]
  congr 1
  omega
 rw[e,h1]
 apply Nat.eq_of_testBit_eq
 intro i
 rw[Nat.testBit_and,Nat.testBit_two_pow_mul,Nat.testBit_two_pow_mul,Nat.testBit_two_pow]
 by_cases hi:i<k
 · simp[show¬k≤i by omega,show¬k=i by omega]
 · by_cases hik:k=i
   · subst hik
     simp[Nat.testBit_zero,Nat.sub_self]
   · obtain⟨t,ht⟩: ∃t,i-k=t+1:=⟨i-k-1,O⟩
     have hb: ∀y,(2*y+1).testBit (t+1)=y.testBit t:=fun y=>by
      rw[Nat.testBit_succ,show(2*y+1)/2=y by omega]
     rw[ht,hb,hb]
     have:=congrArg (fun z=>Nat.testBit z t) (qfm hr)
     simp only[Nat.testBit_and,Nat.zero_testBit]at this
     simp[hik]
     intro _ h3
     rw[h3]at this
     intro _
     simpa using this
theorem qjv: ∀k:Fin 32,(shr_ .u32 (w_u32 (((2^k.val:Nat):Int)*125613361)) 27)=(((2^k.val*125613361)%4294967296/134217728:Nat):Int)∧(2^k.val*125613361)%4294967296/134217728<32∧q28.getD ((2^k.val*125613361)%4294967296/134217728) 0=(k.val:Int):=by decide+kernel
theorem qf8:q28.length=32:=by decide+kernel
theorem qgd {m x:Nat} (h0:x≠0) (hx:x<4294967296):g87 m (x:Int)=some (((tz x:Nat):Int),(),()):=by
 obtain⟨h1,h2⟩:=q6t h0 hx
 obtain⟨t1,t2,t3⟩:=qjv ⟨tz x,h2⟩
 have w1:w_u32 (0-(x:Int))=((4294967296-x:Nat):Int):=by
  show(0-(x:Int))%4294967296=_
  omega
 have w2:qx .u32 (x:Int) ((4294967296-x:Nat):Int)=((2^tz x:Nat):Int):=by
  rw[and32 hx O,h1]
 dsimp only at t1 t2 t3
 rw[g87,bif_eq,if_neg O,if_pos O,w1,w2,t1,qf8,if_pos O,Int.toNat_natCast,t3,w_i64_eq,wi O O]
theorem q6x {k n:Nat} (h:n≠0):tz (2^k*n)=k+tz n:=by
 obtain⟨q,h1,h2⟩:=q4f h
 rw[h1,←Nat.mul_assoc,←Nat.pow_add,qf7 h2,qf7 h2]
theorem qey {x r:Nat} (h0:x≠0) (hx:x<4294967296):tz (x+4294967296*r)=tz x:=by
 obtain⟨h1,h2⟩:=q6t h0 hx
 obtain⟨q,h3,h4⟩:=q4f h0
 have hp:(4294967296:Nat)=2^tz x*(2*2^(31-tz x)):=by
  rw[show 2*2^(31-tz x)=2^(31-tz x+1) by rw[Nat.pow_succ,Nat.mul_comm],←Nat.pow_add,show tz x+(31-tz x+1)=32 by omega]
 have e:x+4294967296*r=2^tz x*(q+2*(2^(31-tz x)*r)):=by
  rw[Nat.mul_add,←h3,←Nat.mul_assoc 2,←Nat.mul_assoc (2^tz x),←hp]
 rw[e,qf7 O]
theorem TZ_L0 (m:Nat) {l:List Int} (hl:Lm l) (hlen:l.length≤1000000): ∀(n k:Nat),l.length-k<n→k≤l.length→vl (l.drop k)≠0→
 g32_L0 m n l (l.length:Int) (k:Int)=some (.inl (((32*k+tz (vl (l.drop k)):Nat):Int),()))
 |0,k,h,_,_=>O
 |n+1,k,h,hk0,hv=>by
  rw[g32_L0]
  by_cases hk:k<l.length
  · obtain⟨x,ex,hx⟩:=hl.get hk
    have hd:=Qo hk
    rw[ex,Int.toNat_natCast]at hd
    rw[bif_decide,if_pos O,if_pos O,Int.toNat_natCast,ex,bif_ne]
    by_cases e:x=0
    · subst e
      rw[if_pos (by rfl),show w_i64 ((k:Int)+1)=((k+1:Nat):Int)from wsucc O,TZ_L0 m hl hlen n (k+1) O O O]
      have hb:(4294967296:Nat)=2^32:=by decide
      have:tz (vl (l.drop k))=32+tz (vl (l.drop (k+1))):=by
       rw[hd,Nat.zero_add,hb,q6x O]
      rw[this]
      congr 4
      omega
    · have h2:=(q6t e hx).2
      have w2:w_i64 ((k:Int)*32)=((32*k:Nat):Int):=by rw[w_i64_eq,wi O O];omega
      have w3:w_i64 (((32*k:Nat):Int)+((tz x:Nat):Int))=((32*k+tz x:Nat):Int):=by rw[w_i64_eq,wi O O];omega
      rw[if_neg O,qgd e hx,Option.bind_some]
      dsimp only
      rw[w2,w3,hd,qey e hx]
  · exact absurd (qm O) hv
theorem Zu {m:Nat} (hm:2000000<m) {neg:Bool} {l:List Int} (h:Sz l) (h0:vl l≠0):g32 m neg l=some (((tz (vl l):Nat):Int),(),()):=by
 have:=TZ_L0 m h.1 h.2 m 0 (by have:=h.2;omega) O (by rw[List.drop_zero];exact h0)
 rw[Int.natCast_zero,List.drop_zero,Nat.mul_zero,Nat.zero_add]at this
 rw[g32,this,Option.bind_some]
theorem qep {x y p:Nat} (hx:x<4294967296) (hy:y<4294967296) (hp:p<32):w_u32 (qx .u64 (shr_ .u64 (b_or_ .u64 (x:Int) (shl_ .u64 (y:Int) 32)) (p:Int)) 4294967295)=(((x+4294967296*y)/2^p%4294967296:Nat):Int):=by
 have e1:shl_ .u64 (y:Int) 32=((y*4294967296:Nat):Int):=shl64 (a:=y) (k:=32) O O
 have e2:x|||y*4294967296=x+4294967296*y:=by
  rw[Nat.or_comm,Nat.mul_comm,show(4294967296:Nat)=2^32 by decide,←Nat.two_pow_add_eq_or_of_lt O,Nat.add_comm]
 have hle:(x+4294967296*y)/2^p≤x+4294967296*y:=Nat.div_le_self ..
 rw[e1,or64 O O,e2,shr64 O,low32 O,w32,Nat.mod_mod]
theorem qe7 {x p:Nat} (hx:x<4294967296) (hp:p<32):w_u32 (qx .u64 (shr_ .u64 (x:Int) (p:Int)) 4294967295)=((x/2^p:Nat):Int):=by
 have hle:x/2^p≤x:=Nat.div_le_self ..
 rw[shr64 O,low32 O,w32,Nat.mod_mod,Nat.mod_eq_of_lt O]
theorem qd7 {B T x E:Nat} (hT:0<T) (hx:x<B):(x+B*E)/T=(x+B*(E%T))/T+B*(E/T)∧(x+B*(E%T))/T<B:=by
 have h1:x+B*E=x+B*(E%T)+T*(B*(E/T)):=by
  have:B*E=B*(E%T)+T*(B*(E/T)):=by
   rw[Nat.mul_left_comm T B,←Nat.mul_add,Nat.mod_add_div]
  omega
 constructor
 · rw[h1,Nat.add_mul_div_left _ _ hT]
 · rw[Nat.div_lt_iff_lt_mul hT]
   have h2:B*(E%T+1)≤B*T:=Nat.mul_le_mul_left _ (Nat.mod_lt _ hT)
   rw[Nat.mul_add,Nat.mul_one]at h2
   omega
theorem qew {p x y R:Nat} (hp:p<32) (hx:x<4294967296):(x+4294967296*y)/2^p%4294967296+4294967296*((y+4294967296*R)/2^p)=(x+4294967296*(y+4294967296*R))/2^p:=by
 have hT:0<2^p:=Nat.pow_pos O
 have hB:(4294967296:Nat)=2^p*2^(32-p):=by rw[←Nat.pow_add,show p+(32-p)=32 by omega]
 have hm:(y+4294967296*R)%2^p=y%2^p:=by
  rw[hB,Nat.mul_assoc,Nat.add_mul_mod_self_left]
 obtain⟨a1,a2⟩:=qd7 (E:=y+4294967296*R) hT hx
 obtain⟨b1,b2⟩:=qd7 (E:=y) hT hx
 rw[a1,b1,hm,Nat.add_mul_mod_self_left,Nat.mod_eq_of_lt b2]
theorem qgz {P B V0 V1 d E X:Nat} (hs:V1+P*(0:Int).toNat=V0+P*d) (he:d+B*E=X):V1+P*B*E=V0+P*X:=by
 rw[show(0:Int).toNat=0 from rfl,Nat.mul_zero,Nat.add_zero]at hs
 rw[←he,hs,Nat.mul_add,Nat.mul_assoc,Nat.add_assoc]
theorem qj8 (m:Nat) {a:List Int} {w p:Nat} (ha:Lm a) (hl:a.length≤1000000) (hw:w<a.length) (hp:p<32) (lost:Bool): ∀(n k:Nat) (out:List Int),a.length-w-k<n→k≤a.length-w→Lm out→out.length=a.length-w→(∀q,k≤q→out.getD q 0=0)→
 ∃out',g136_L0 m n a (w:Int) (p:Int) lost out ((a.length-w:Nat):Int) (k:Int)=some (.inl (lost,out',()))∧Lm out'∧out'.length=a.length-w∧vl out'=vl out+4294967296^k*(vl (a.drop (w+k))/2^p):=by
 intro n
 induction n with
 |zero=>intro k out h;omega
 |succ n ih=>
  intro k out h hk0 ho hol hz
  rw[g136_L0]
  by_cases hk:k<a.length-w
  · have h1:((k:Int)<((a.length-w:Nat):Int)):=O
    have w0:w_i64 ((w:Int)+(k:Int))=((w+k:Nat):Int):=by rw[w_i64_eq,wi O O];omega
    have w1:w_i64 (((w+k:Nat):Int)+1)=((w+k+1:Nat):Int):=wsucc O
    have w3:w_i64 ((k:Int)+1)=((k+1:Nat):Int):=wsucc O
    have c1:(0:Int)≤((w+k:Nat):Int)∧((w+k:Nat):Int)<(a.length:Int):=O
    have c2:(0:Int)≤(p:Int):=O
    have c3:(0:Int)≤(k:Int)∧(k:Int)<(out.length:Int):=O
    obtain⟨x,ex,hx⟩:=ha.get (show w+k<a.length by omega)
    have wx:w_u64 (x:Int)=(x:Int):=w64n O
    have step: ∀d:Nat,d<4294967296→d+4294967296*(vl (a.drop (w+(k+1)))/2^p)=vl (a.drop (w+k))/2^p→
     ∃out',g136_L0 m n a (w:Int) (p:Int) lost (out.set k (d:Int)) ((a.length-w:Nat):Int) ((k+1:Nat):Int)=some (.inl (lost,out',()))∧Lm out'∧out'.length=a.length-w∧vl out'=vl out+4294967296^k*(vl (a.drop (w+k))/2^p):=by
     intro d hd he
     obtain⟨out',g1,g2,g3,g4⟩:=ih (k+1) (out.set k (d:Int)) O O (q2s ho hd) (by rw[List.length_set];exact hol) (fun q hq=>by rw[getD_set_ne O];exact hz q O)
     refine⟨out',g1,g2,g3,?_⟩
     have hs:=q19 (l:=out) (p:=k) (y:=(d:Int)) O
     rw[hz k (Nat.le_refl _),Int.toNat_natCast]at hs
     have hpw:4294967296^(k+1)=4294967296^k*4294967296:=Nat.pow_succ ..
     rw[g4,hpw]
     exact qgz hs he
    rw[bif_decide,if_pos h1,w0,if_pos c1,w1,bif_decide]
    simp only[Int.toNat_natCast,Nat.zero_add]
    rw[ex,wx]
    have hd:=Qo (l:=a) (k:=w+k) O
    rw[ex,Int.toNat_natCast]at hd
    by_cases hn:w+k+1<a.length
    · obtain⟨y,ey,hy⟩:=ha.get hn
      have wy:w_u64 (y:Int)=(y:Int):=w64n O
      have c4:(0:Int)≤((w+k+1:Nat):Int)∧((w+k+1:Nat):Int)<(a.length:Int):=O
      have hd2:=Qo hn
      rw[ey,Int.toNat_natCast]at hd2
      rw[if_pos c4.2,if_pos c4,if_pos c2,if_pos c3,ey,wy,qep hx hy hp,w3]
      refine step _ (Nat.mod_lt _ O) ?_
      rw[←Nat.add_assoc w k 1,hd,hd2]
      exact qew hp hx
    · have c4: ¬((w+k+1:Nat):Int)<(a.length:Int):=O
      rw[if_neg c4,if_pos c2,if_pos c3,qe7 hx hp,w3]
      refine step _ (Nat.lt_of_le_of_lt (Nat.div_le_self ..) hx) ?_
      rw[←Nat.add_assoc w k 1,hd,qm (l:=a) (k:=w+k+1) O,Nat.mul_zero,Nat.add_zero,Nat.zero_div,Nat.mul_zero,Nat.add_zero]
  · rw[bif_decide,if_neg O]
    refine⟨out,rfl,ho,hol,?_⟩
    rw[qm O,Nat.zero_div,Nat.mul_zero,Nat.add_zero]
theorem qh7 (m:Nat) {s:List Int} (hs:Lm s) (hl:s.length≤1000000): ∀(n k:Nat),s.length-k<n→k≤s.length→
 ∃r,g200_L0 m n s (s.length:Int) (k:Int)=some r∧((∃j:Nat,r= .inl ((j:Int),())∧vl (s.drop k)≠0)∨(r= .inr (.inl ())∧vl (s.drop k)=0)):=by
 intro n
 induction n with
 |zero=>intro k h;omega
 |succ n ih=>
  intro k h hk0
  rw[g200_L0]
  by_cases hk:k<s.length
  · obtain⟨x,ex,hx⟩:=hs.get hk
    have hd:=Qo hk
    rw[ex,Int.toNat_natCast]at hd
    rw[bif_decide,if_pos O,if_pos O,Int.toNat_natCast,ex,g184,Option.bind_some]
    dsimp only
    rw[bif_ne]
    by_cases e:x=0
    · subst e
      rw[if_pos (by rfl),show w_i64 ((k:Int)+1)=((k+1:Nat):Int)from wsucc O]
      obtain⟨r,g1,g2⟩:=ih (k+1) O O
      refine⟨r,g1,?_⟩
      rcases g2 with⟨j,g2,g3⟩|⟨g2,g3⟩
      · exact .inl ⟨j,g2,O⟩
      · exact .inr ⟨g2,O⟩
    · rw[if_neg O]
      exact⟨_,rfl,.inl ⟨k,rfl,O⟩⟩
  · rw[bif_decide,if_neg O]
    exact⟨_,rfl,.inr ⟨rfl,qm O⟩⟩
theorem q3m {m:Nat} (hm:2000000<m) {s:List Int} (hs:Lm s) (hl:s.length≤1000000):g183 m s=some (decide (vl s≠0),(),(),()):=by
 obtain⟨r,g1,g2⟩:=qh7 m hs hl m 0 O O
 rw[Int.natCast_zero]at g1
 rw[List.drop_zero]at g2
 rw[g183,g200,g1,Option.bind_some]
 rcases g2 with⟨j,rfl,h⟩|⟨rfl,h⟩
 · rw[show decide (vl s≠0)=true by simpa using h]
   show some (decide ((j:Int)≥0),_)=_
   rw[show decide ((j:Int)≥0)=true by rw[decide_eq_true_eq];omega]
 · rw[show decide (vl s≠0)=false by simpa using h]
   rfl
theorem mask32 {x p:Nat} (hx:x<4294967296) (hp:p<32):qx .u32 (x:Int) (w_u32 ((shl_ .u32 1 (p:Int))-1))=((x%2^p:Nat):Int):=by
 have hple:2^p≤2^31:=Nat.pow_le_pow_right O O
 have hpos:0<2^p:=Nat.pow_pos O
 have e1:shl_ .u32 1 (p:Int)=((2^p:Nat):Int):=by
  unfold shl_
  rw[show min (p:Int).toNat (IntKind.u32.bits)=p by show min _ 32=p;omega,Int.one_mul]
  have:(2:Int)^p=((2^p:Nat):Int):=by rw[Int.natCast_pow];rfl
  rw[this,wrap32 O]
 have e2:w_u32 (((2^p:Nat):Int)-1)=((2^p-1:Nat):Int):=by
  show(((2^p:Nat):Int)-1)%4294967296=_
  omega
 rw[e1,e2,and32 hx O,Nat.and_two_pow_sub_one_eq_mod]
theorem q9t {P T L D:Nat} (hL:L<P) (hT:0<T):(L+P*D)%(P*T)=L+P*(D%T):=by
 have h1:L+P*D=L+P*(D%T)+P*T*(D/T):=by
  have:P*D=P*(D%T)+P*T*(D/T):=by rw[Nat.mul_assoc,←Nat.mul_add,Nat.mod_add_div]
  omega
 rw[h1,Nat.add_mul_mod_self_left,Nat.mod_eq_of_lt]
 have h2:P*(D%T+1)≤P*T:=Nat.mul_le_mul_left _ (Nat.mod_lt _ hT)
 rw[Nat.mul_add,Nat.mul_one]at h2
 omega
theorem q9n {P T L D:Nat} (hL:L<P):(L+P*D)/(P*T)=D/T:=by
 rw[←Nat.div_div_eq_div_mul,Nat.add_mul_div_left _ _ O,Nat.div_eq_of_lt hL,Nat.zero_add]
theorem qiz {m:Nat} (hm:3000000<m) {v:Nat} (hl:(lim v).length≤1000000) {n:Nat} (hn:n≤10000000):g136 m (lim v) (n:Int)=some ((lim (v/2^n),decide (v%2^n≠0),()),(),(),()):=by
 have w0:w_i64 (Int.tdiv (n:Int) 32)=((n/32:Nat):Int):=by rw[qck,w_i64_eq,wi O O]
 have w1:w_u64 (Int.tmod (n:Int) 32)=((n%32:Nat):Int):=by rw[qbz,w64n O]
 have hpw:2^n=4294967296^(n/32)*2^(n%32):=by rw[pow32,show 32*(n/32)+n%32=n by omega]
 have hT:0<2^(n%32):=Nat.pow_pos O
 have hLm:=Qa v
 rw[g136,w0,w1,bif_decide]
 by_cases h:((n/32:Nat):Int)≥((lim v).length:Int)
 · have hlt:=vl_lt hLm
   rw[qw]at hlt
   have h2:4294967296^(lim v).length≤4294967296^(n/32):=Nat.pow_le_pow_right O O
   have h3:4294967296^(n/32)*1≤4294967296^(n/32)*2^(n%32):=Nat.mul_le_mul_left _ hT
   have hv:v<2^n:=by rw[hpw];omega
   rw[if_pos h,Nat.div_eq_of_lt hv,Nat.mod_eq_of_lt hv,Qh]
   have:decide (((lim v).length:Int)>0)=decide (v≠0):=by
    by_cases e:v=0
    · subst e;rw[Qh];rfl
    · have:=mt Zk.1 e
      rw[show decide (v≠0)=true by simpa using e,decide_eq_true_eq];omega
   rw[this]
 · have hw:n/32<(lim v).length:=O
   obtain⟨x,ex,hx⟩:=hLm.get hw
   have c1:(0:Int)≤0∧(0:Int)≤((n/32:Nat):Int)∧((n/32:Nat):Int)≤((lim v).length:Int):=O
   have w2:w_i64 (((lim v).length:Int)-((n/32:Nat):Int))=(((lim v).length-n/32:Nat):Int):=by rw[w_i64_eq,wi O O];omega
   have hlen:(List.replicate ((lim v).length-n/32) (0:Int)).length=(lim v).length-n/32:=List.length_replicate ..
   have hT1:Lm ((lim v).take (n/32)):=fun y hy=>hLm y (List.mem_of_mem_take hy)
   have hL:=vl_lt hT1
   rw[List.length_take,show min (n/32) (lim v).length=n/32 by omega]at hL
   have hv:=Xz (l:=lim v) (k:=n/32) O
   rw[qw]at hv
   have hd:=Qo hw
   rw[ex,Int.toNat_natCast]at hd
   have hdiv:v/2^n=vl ((lim v).drop (n/32))/2^(n%32):=by
    conv=>lhs;rw[hv,hpw]
    exact q9n hL
   have hmod:v%2^n=vl ((lim v).take (n/32))+4294967296^(n/32)*(x%2^(n%32)):=by
    conv=>lhs;rw[hv,hpw]
    rw[q9t hL hT,hd]
    have hB:(4294967296:Nat)=2^(n%32)*2^(32-n%32):=by rw[←Nat.pow_add,show n%32+(32-n%32)=32 by omega]
    have:(x+4294967296*vl ((lim v).drop (n/32+1)))%2^(n%32)=x%2^(n%32):=by
     conv=>lhs;rw[hB,Nat.mul_assoc,Nat.add_mul_mod_self_left]
    rw[this]
   have run: ∀lost:Bool,∃out,g136_L0 m m (lim v) ((n/32:Nat):Int) ((n%32:Nat):Int) lost (List.replicate ((lim v).length-n/32) (0:Int)) (((lim v).length-n/32:Nat):Int) 0=some (.inl (lost,out,()))∧g86 m out=some (lim (v/2^n),(),()):=by
    intro lost
    obtain⟨out,e,h1,h2,h3⟩:=qj8 m (w:=n/32) (p:=n%32) hLm hl hw O lost m 0 (List.replicate ((lim v).length-n/32) 0) O O Xf hlen (fun p hp=>by
     by_cases h:p<(lim v).length-n/32
     · rw[Qg h]
     · rw[Xq (by rw[hlen];omega)])
    rw[Int.natCast_zero]at e
    refine⟨out,e,?_⟩
    rw[X5 h1 O O,h3,Xg,Nat.zero_add,Nat.pow_zero,Nat.one_mul,Nat.add_zero,hdiv]
   rw[if_neg h,if_pos c1,Int.toNat_natCast,q3m O hT1 (by rw[List.length_take];omega),Option.bind_some]
   dsimp only
   rw[w2,Int.toNat_natCast,hlen,ex,mask32 hx O,hmod]
   obtain⟨o1,r1,r2⟩:=run true
   obtain⟨o2,r3,r4⟩:=run (((x%2^(n%32):Nat):Int) !=0)
   have hP:0<4294967296^(n/32):=Nat.pow_pos O
   by_cases e:vl ((lim v).take (n/32))=0
   · have:decide (vl ((lim v).take (n/32))+4294967296^(n/32)*(x%2^(n%32))≠0)=(((x%2^(n%32):Nat):Int) !=0):=by
      rw[e,Nat.zero_add]
      by_cases e2:x%2^(n%32)=0
      · rw[e2];simp
      · have:=Nat.mul_pos hP (Nat.pos_of_ne_zero e2)
        rw[show decide (4294967296^(n/32)*(x%2^(n%32))≠0)=true by rw[decide_eq_true_eq];omega]
        symm
        rw[bne_iff_ne];omega
     rw[this,show decide (vl ((lim v).take (n/32))≠0)=false by simpa using e,cond_false,if_pos O,if_pos O,if_pos O,r3,Option.bind_some]
     dsimp only
     rw[r4,Option.bind_some]
   · rw[show decide (vl ((lim v).take (n/32))≠0)=true by simpa using e,cond_true,if_pos O,r1,Option.bind_some]
     dsimp only
     rw[r2,Option.bind_some,show decide (vl ((lim v).take (n/32))+4294967296^(n/32)*(x%2^(n%32))≠0)=true by rw[decide_eq_true_eq];omega]
theorem qba {v n:Nat} (hv:(lim v).length≤500000) (hn:n≤10000000):(lim (v*2^n)).length≤1000000:=by
 have hl:(lim v).length+(n/32+1)≤1000000:=O
 refine Nat.le_trans (Xm (k:=(lim v).length+(n/32+1)) ?_) hl
 have h1:=vl_lt (Qa v)
 rw[qw]at h1
 have h2:2^n≤4294967296^(n/32+1):=by
  have:(4294967296:Nat)^(n/32+1)=2^(32*(n/32+1)):=by rw[show(4294967296:Nat)=2^32 by decide,←Nat.pow_mul]
  rw[this]
  exact Nat.pow_le_pow_right O O
 rw[Nat.pow_add]
 exact Nat.mul_lt_mul_of_lt_of_le h1 h2 (Nat.pow_pos O)
theorem qch {m:Nat} (hm:3000000<m) {neg:Bool} {l:List Int} (h:Lm l) (hl:l.length≤500000) {n:Nat} (hn:n≤1048576):g78 m neg l (n:Int)=some ((zB (zv neg l*2^n),0,()),(),(),()):=by
 have b:=Qy h
 rw[g78,bif_decide,if_neg O,bif_decide,if_neg O,X5 h O O,Option.bind_some,bif_decide,if_pos O]
 dsimp only
 rw[up_eq hm (Qa _) O O,qw,Option.bind_some]
 dsimp only
 rw[bigN O (by have:=qba (v:=vl l) (n:=n) O O;omega),Option.bind_some]
 have:(if neg=true then-((vl l*2^n:Nat):Int)else((vl l*2^n:Nat):Int))=zv neg l*2^n:=by
  unfold zv
  rw[Int.natCast_mul,Int.natCast_pow]
  cases neg
  · rfl
  · show-((vl l:Int)*_)= -(vl l:Int)*_
    rw[Int.neg_mul];rfl
 rw[this]
theorem q3y {v T:Nat}:(lim (v/T)).length≤(lim v).length:=Qk (Nat.div_le_self ..)
theorem q81 {v T:Nat} (hT:0<T): -(v:Int)/(T:Int)=if v%T≠0 then-((v/T+1:Nat):Int)else-((v/T:Nat):Int):=by
 have h:=Nat.mod_add_div v T
 by_cases e:v%T=0
 · rw[if_neg O]
   have: -(v:Int)=(T:Int)* -((v/T:Nat):Int):=by
    rw[Int.mul_neg,←Int.natCast_mul];congr 2;omega
   rw[this,Int.mul_ediv_cancel_left _ O]
 · rw[if_pos e]
   have hm:=Nat.mod_lt v hT
   have: -(v:Int)=((T-v%T:Nat):Int)+(T:Int)* -((v/T+1:Nat):Int):=by
    rw[Int.mul_neg,←Int.natCast_mul,Nat.mul_add,Nat.mul_one];omega
   rw[this,Int.add_mul_ediv_left _ _ O,Int.ediv_eq_zero_of_lt O O,Int.zero_add]
theorem qde {m:Nat} (hm:3000000<m) {neg:Bool} {l:List Int} (h:Lm l) (hl:l.length≤500000) {n:Nat} (h0:0<n) (hn:n≤1048576):g78 m neg l (-(n:Int))=some ((zB (zv neg l/((2^n:Nat):Int)),0,()),(),(),()):=by
 have b:=Qy h
 have hT:0<2^n:=Nat.pow_pos O
 have bd:(lim (vl l/2^n)).length≤500000:=Nat.le_trans q3y O
 have w:w_i64 (0- -(n:Int))=(n:Int):=by rw[w_i64_eq,wi O O];omega
 have h1:Lm [1]:=fun x hx=>by rw[List.mem_singleton]at hx;subst hx;omega
 rw[g78,bif_decide,if_neg O,bif_decide,if_neg O,X5 h O O,Option.bind_some,bif_decide,if_neg O,w]
 dsimp only
 rw[qiz hm O O,Option.bind_some]
 dsimp only
 generalize 2^n=T at*
 cases neg with
 |false=>
  rw[cond_false,bigN O O,Option.bind_some]
  have:(if false=true then-((vl l/T:Nat):Int)else((vl l/T:Nat):Int))=zv false l/(T:Int):=by
   show _=(vl l:Int)/_
   rw[if_neg (by simp),Int.natCast_ediv]
  rw[this]
 |true=>
  have e:=q81 (v:=vl l) hT
  rw[cond_true]
  by_cases hd:vl l%T=0
  · rw[if_neg O]at e
    rw[show decide (vl l%T≠0)=false by simpa using hd,cond_false,bigN O O,Option.bind_some,if_pos rfl,←e]
    rfl
  · rw[if_pos hd]at e
    have a1:(lim (vl l/T+1)).length≤1000001:=qf3 (x:=vl l/T) (y:=1) O (by rw[q0b O];show(lim 0).length+1≤_;rw[Qh];simp)
    rw[show decide (vl l%T≠0)=true by simpa using hd,cond_true,qgo O (Qa _) h1 O (by simp),Option.bind_some,qw]
    dsimp only
    rw[show vl [1]=1 from rfl,bigN O a1,Option.bind_some,if_pos rfl,←e]
    rfl
end Go.Vs.F
