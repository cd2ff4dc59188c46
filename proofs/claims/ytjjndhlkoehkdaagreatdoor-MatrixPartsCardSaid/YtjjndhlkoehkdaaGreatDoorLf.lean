/-Exact floats of dyads:program and document. Scaling a matrix:program and document. Scale and Shift of a matrix:program and document agree. Shifting a matrix:program and document agree;the law MatrixScales. Numbers that floats have:rounding is exact. Made values,and shifting exactly. The law MatrixShifted. The law MatrixShifted,joined. The integers of a matrix. The law MatrixWhole. The parts of a matrix:the dense form;comparisons. The parts of a matrix:symmetry;the document's integers. The law MatrixParts. -/
import Derived.Test.YtjjndhlkoehkdaaGreatDoorLe
import Derived.Test.YtjjndhlkoehkdaaGreatDoorLb
set_option linter.unusedVariables false
set_option linter.unusedSimpArgs false
namespace Go.Vs.F
def kindN (f:Int):Int:=if fexp f=2047 then(if ffrac f=0 then 2 else 3)else if fexp f=0∧ffrac f=0 then 0 else 1
theorem qkk {m:Nat} {f:Int} (h:U64 f):g108 m f=some (kindN f,(),())∧g111 m f=some (kindN f,(),()):=by
 have hl:=q46 f
 rw[g108,parts_eq h,Option.bind_some,g111,(qg6 h).1,(qg6 h).2]
 simp only[bif_eq,bif_ne]
 unfold kindN
 by_cases c:fexp f=2047
 · by_cases d:ffrac f=0
   · simp[c,d]
   · simp[c,d]
 · by_cases e:fexp f=0
   · by_cases d:ffrac f=0
     · simp[e,d]
     · simp[e,d]
   · simp[c,e]
end Go.Vs.F
set_option maxRecDepth 100000
namespace Go.Vs.F
theorem qhr (m:Nat) (R C:Int) (S I V:List Int): ∃s,sparselaw09_small m R C S I V=some (s,(),())∧(s=true→I.length≤60∧V.length≤60∧S.length≤20):=by
 rw[sparselaw09_small]
 simp only[bif_decide]
 by_cases h1:(I.length:Int)≤60
 · rw[if_pos h1]
   by_cases h2:(V.length:Int)≤60
   · rw[if_pos h2]
     by_cases h3:(S.length:Int)≤20
     · rw[if_pos h3]
       have hl:I.length≤60∧V.length≤60∧S.length≤20:=O
       split
       · split<;>exact⟨_,rfl,fun _=>hl⟩
       · split
         · split<;>exact⟨_,rfl,fun _=>hl⟩
         · exact⟨_,rfl,fun h=>by cases h⟩
     · rw[if_neg h3];exact⟨_,rfl,fun h=>by cases h⟩
   · rw[if_neg h2];exact⟨_,rfl,fun h=>by cases h⟩
 · rw[if_neg h1];exact⟨_,rfl,fun h=>by cases h⟩
section
variable {R C:Nat} {S I V:List Int}
theorem qbn (hM:MatOK R C S I) (hV:V.length=I.length): ∀(d k:Nat),k+d=C→ ∀e∈ents S I V d k,e.2.2∈V
 |0,k,h=>by intro e he;cases he
 |d+1,k,h=>by
  intro e he
  rw[ents]at he
  rcases List.mem_append.1 he with he|he
  · unfold Xl at he
    obtain⟨t,ht,rfl⟩:=List.mem_map.1 he
    rw[List.mem_range'_1]at ht
    have h1:=hM.st.rng (j:=k+1) O
    have h2:=hM.st.rng (j:=k) O
    exact Qw O
  · exact qbn hM hV d (k+1) O e he
theorem qla {m:Nat} {xs:List Int} {t:Int} (hl:xs.length≤100000) (hm:100001<m) (ha: ∀i j,i<j→j<xs.length→xs.getD i 0<xs.getD j 0) (hn: ∀k,k<xs.length→xs.getD k 0≠t):
 ∃r:Nat,g143 m xs t=some (((r:Int),false,()),(),(),()):=by
 obtain⟨r,e,h1,h2,h3⟩:=BS_L0 m (t:=t) (a:=(xs.length:Int)) hl ha m 0 xs.length O O (Nat.le_refl _) (fun k hk=>absurd hk (Nat.not_lt_zero _)) (fun k a b=>O)
 rw[Int.natCast_zero]at e
 refine⟨r,?_⟩
 rw[g143,e,Option.bind_some]
 dsimp only
 rw[bif_decide]
 by_cases c:r<xs.length
 · have c1:(0:Int)≤(r:Int)∧(r:Int)<(xs.length:Int):=O
   rw[if_pos O,if_pos c1,Int.toNat_natCast,bif_eq,if_neg (hn r c),if_pos c1,g187,Option.bind_some]
   simp
 · rw[if_neg O]
theorem qlc {m:Nat} (hm:3000000<m) (h:MV R C S I V) {i:Int} {j':Nat} (hjC:j'<C) (hn: ∀v,((i,((j':Int),v)):Ent)∉ents S I V C 0):g85 m (R:Int) (C:Int) S I V i (j':Int)=some ((0,false,()),(),(),(),()):=by
 have hl:=h.ok.st.len
 have hsz:=h.ok.sz
 have hcz:=h.ok.cz
 have hvl:=h.vl
 have a:=h.ok.st.rng (j:=j') O
 have b:=h.ok.st.rng (j:=j'+1) O
 have mo:=h.ok.st.mono j' hjC
 have c1:(0:Int)≤(j':Int)∧(j':Int)<(S.length:Int):=O
 have c2:(0:Int)≤((j'+1:Nat):Int)∧((j'+1:Nat):Int)<(S.length:Int):=O
 have c3:(0:Int)≤S.getD j' 0∧S.getD j' 0≤S.getD (j'+1) 0∧S.getD (j'+1) 0≤(I.length:Int):=O
 have hcl:=Zb h.ok.st hjC
 have hcg: ∀k,k<(colOf S I j').length→(colOf S I j').getD k 0=I.getD ((S.getD j' 0).toNat+k) 0:=fun k hk=>q9i h.ok.st hjC hk
 obtain⟨r,hbs⟩:=qla (m:=m) (xs:=colOf S I j') (t:=i) O O (fun x y hxy hy=>by
  rw[hcg x O,hcg y hy]
  have:=h.ok.asc hjC (y-x-1) ((S.getD j' 0).toNat+x) O O
  rw[show(S.getD j' 0).toNat+x+(y-x-1+1)=(S.getD j' 0).toNat+y by omega]at this
  exact this) (fun k hk e=>by
  rw[hcg k hk]at e
  exact hn (V.getD ((S.getD j' 0).toNat+k) 0) (qk0.2 ⟨j',(S.getD j' 0).toNat+k,O,O,O,O,by rw[e]⟩))
 rw[g85,if_pos c1,show w_i64 ((j':Int)+1)=((j'+1:Nat):Int)from wsucc O,if_pos c2]
 simp only[Int.toNat_natCast]
 rw[if_pos c3]
 have hbs':g143 m ((I.drop (S.getD j' 0).toNat).take ((S.getD (j'+1) 0).toNat-(S.getD j' 0).toNat)) i=some (((r:Int),false,()),(),(),()):=hbs
 rw[hbs',Option.bind_some]
 simp only[Bool.not_false,cond_true]
theorem qkv (m:Nat) {i:Int} {j:Nat} (hj:j+1<S.length) (hj2:j<4611686018427387903) {e:Nat} (he:S.getD (j+1) 0=(e:Int)) (hI:e≤I.length) (hv:V.length=I.length) (hb:I.length≤100000) (a0 a1:Int): ∀(n k:Nat),e-k<n→k≤e→
 (∃t,k≤t∧t<e∧I.getD t 0=i∧g38_L0 m n i (j:Int) a0 a1 S I V (k:Int)=some (.inl (V.getD t 0,())))∨
 ((∀t,k≤t→t<e→I.getD t 0≠i)∧g38_L0 m n i (j:Int) a0 a1 S I V (k:Int)=some (.inr (.inl ())))
 |0,k,h,_=>O
 |n+1,k,h,hk0=>by
  have w:w_i64 ((j:Int)+1)=((j+1:Nat):Int):=wsucc O
  rw[g38_L0,w,if_pos O,Int.toNat_natCast,he,bif_decide]
  by_cases hk:k<e
  · rw[if_pos O,if_pos O,Int.toNat_natCast,bif_eq]
    by_cases c:I.getD k 0=i
    · rw[if_pos c,if_pos O]
      exact .inl ⟨k,Nat.le_refl _,hk,c,rfl⟩
    · rw[if_neg c,show w_i64 ((k:Int)+1)=((k+1:Nat):Int)from wsucc O]
      rcases qkv m hj hj2 he hI hv hb a0 a1 n (k+1) O O with⟨t,h1,h2,h3,h4⟩|⟨h1,h2⟩
      · exact .inl ⟨t,O,h2,h3,h4⟩
      · refine .inr ⟨fun t a b=> ?_,h2⟩
        by_cases e:t=k
        · subst e;exact c
        · exact h1 t O b
  · rw[if_neg O]
    exact .inr ⟨fun t a b=>O,rfl⟩
theorem qkq {m:Nat} (hm:3000000<m) (h:MV R C S I V) {i:Int} {j:Nat} (hj:j<C):
 ∃v b,g85 m (R:Int) (C:Int) S I V i (j:Int)=some ((v,b,()),(),(),(),())∧g38 m (R:Int) (C:Int) S I V i (j:Int)=some (v,(),(),(),())∧
  ((b=true∧((i,((j:Int),v)):Ent)∈ents S I V C 0)∨(b=false∧v=0∧ ∀v',((i,((j:Int),v')):Ent)∉ents S I V C 0)):=by
 have hl:=h.ok.st.len
 have hsz:=h.ok.sz
 have hcz:=h.ok.cz
 have hvl:=h.vl
 have a:=h.ok.st.rng (j:=j) O
 have b:=h.ok.st.rng (j:=j+1) O
 have mo:=h.ok.st.mono j hj
 have c1:(0:Int)≤(j:Int)∧(j:Int)<(S.length:Int):=O
 have e1:S.getD j 0=(((S.getD j 0).toNat:Nat):Int):=O
 have hpre:g38 m (R:Int) (C:Int) S I V i (j:Int)=(g38_L0 m m i (j:Int) (R:Int) (C:Int) S I V (((S.getD j 0).toNat:Nat):Int)).bind fun y2=>match y2 with
  | .inl z3=>some (z3.1,((),(),(),()))
  | .inr (.inl z4)=>some (0,((),(),(),()))
  | .inr (.inr e)=>e.elim:=by
  rw[g38,X4 O O O,h.chk]
  simp only[Option.bind_some,bif_ne,if_true,bif_decide]
  rw[if_neg O,if_neg O,if_pos c1,Int.toNat_natCast,←e1]
  rfl
 have hr:=qkv (S:=S) (I:=I) (V:=V) m (i:=i) (j:=j) O O (e:=(S.getD (j+1) 0).toNat) O O hvl O (R:Int) (C:Int) m (S.getD j 0).toNat O O
 by_cases hx: ∃v,((i,((j:Int),v)):Ent)∈ents S I V C 0
 · obtain⟨v,hv⟩:=hx
   refine⟨v,true,ql7 hm h hv,?_,.inl ⟨rfl,hv⟩⟩
   rcases hr with⟨t,h1,h2,h3,h4⟩|⟨h1,h2⟩
   · rw[hpre,h4,Option.bind_some]
     have:((i,((j:Int),V.getD t 0)):Ent)∈ents S I V C 0:=qk0.2 ⟨j,t,O,O,O,O,by rw[h3]⟩
     rw[h.dist.val hv this]
   · obtain⟨j',t,_,hj',t1,t2,e⟩:=qk0.1 hv
     simp only[Prod.mk.injEq]at e
     obtain⟨q1,q2,q3⟩:=e
     have:j=j':=O
     subst this
     exact absurd q1.symm (h1 t t1 t2)
 · have hx': ∀v',((i,((j:Int),v')):Ent)∉ents S I V C 0:=fun v' hv=>hx ⟨v',hv⟩
   refine⟨0,false,qlc hm h hj hx',?_,.inr ⟨rfl,rfl,hx'⟩⟩
   rcases hr with⟨t,h1,h2,h3,h4⟩|⟨h1,h2⟩
   · exact absurd (qk0.2 ⟨j,t,O,O,O,O,by rw[h3]⟩) (hx' (V.getD t 0))
   · rw[hpre,h2,Option.bind_some]
end
end Go.Vs.F
set_option maxRecDepth 100000
namespace Go.Vs.F
def valF (f:Int):Int:=sc (ofZ f) (ofE f) (-1074)
theorem q1v {f:Int} (h:FinF f):ofD f=mkD (valF f) (-1074):=by
 have he:=q64 (f:=f)
 unfold ofD valF
 rw[if_pos h,qd8 O]
theorem val_ok {f:Int} (h:FinF f):OkD (valF f) (-1074):=by
 have he:=q64 (f:=f)
 have:=qjp h
 unfold OkD valF at*
 rwa [qd8 O]
section
variable {R C:Nat} {S I V:List Int}
theorem MV.valU (h:MV R C S I V) (hU: ∀x∈V,U64 x) {e:Ent} (he:e∈Go.Vs.F.ents S I V C 0):U64 e.2.2∧FinF e.2.2:=by
 have h1:=hU _ (qbn h.ok h.vl C 0 O e he)
 obtain⟨_,_,h3⟩:=Zg h.ents e he
 rw[q27 h1]at h3
 exact⟨h1,of_decide_eq_true h3⟩
theorem qh4:U64 0:=⟨O,O⟩
theorem qh1:FinF 0:=by unfold FinF fexp;decide
end
open Go.Vs
theorem wfu64 {x:Int} (h:(Lit.int .u64 x).wf=true):U64 x:=by
 simp only[Lit.wf,Bool.and_eq_true,decide_eq_true_eq]at h
 exact⟨h.1,by have h2:x≤18446744073709551615:=h.2;omega⟩
theorem wfU {xs:List Int} (h:wfC (.imm (.int .u64)) xs): ∀x∈xs,U64 x:=fun x hx=>wfu64 (h.1 x hx)
end Go.Vs.F
set_option maxRecDepth 100000
namespace Go.Vs.F
section
variable {R C:Nat} {S I V:List Int}
def LookV (es:List Ent) (i j:Int) (v:Int):Prop:=((i,(j,v)):Ent)∈es∨(v=0∧ ∀v',((i,(j,v')):Ent)∉es)
theorem LookV.uniq {es:List Ent} (hD:DistE es) {i j v w:Int} (h:LookV es i j v) (h2:LookV es i j w):v=w:=by
 rcases h with h|⟨rfl,h⟩
 · rcases h2 with h2|⟨rfl,h2⟩
   · exact hD.val h h2
   · exact absurd h (h2 _)
 · rcases h2 with h2|⟨rfl,h2⟩
   · exact absurd h2 (h _)
   · rfl
theorem qld {m:Nat} (hm:3000000<m) (h:MV R C S I V) {i j:Nat} (hi:i<R) (hj:j<C):
 ∃v,LookV (ents S I V C 0) (i:Int) (j:Int) v∧g30 m (R:Int) (C:Int) S I V (i:Int) (j:Int)=some (v,(),(),(),())∧g38 m (R:Int) (C:Int) S I V (i:Int) (j:Int)=some (v,(),(),(),()):=by
 have hsz:=h.ok.sz
 have hcz:=h.ok.cz
 have hrz:=h.ok.rz
 have hvl:=h.vl
 have hs:=h.sl
 obtain⟨v,b,e1,e2,e3⟩:=qkq hm h (i:=(i:Int)) hj
 refine⟨v,?_,?_,e2⟩
 · rcases e3 with⟨_,g⟩|⟨_,g,g2⟩
   · exact .inl g
   · exact .inr ⟨g,g2⟩
 · have w1:w_i64 ((R:Int)-1)=(R:Int)-1:=by rw[w_i64_eq,wi O O]
   have w2:w_i64 ((C:Int)-1)=(C:Int)-1:=by rw[w_i64_eq,wi O O]
   rw[g30,g44_eq O O O O O,h.chk]
   simp only[Option.bind_some,bif_ne,if_true]
   rw[q9p,w1,w2,q9p]
   simp only[Option.bind_some]
   rw[decide_eq_true (show(0:Int)≤(i:Int) by omega),decide_eq_true (show(i:Int)≤(R:Int)-1 by omega),decide_eq_true (show(0:Int)≤(j:Int) by omega),decide_eq_true (show(j:Int)≤(C:Int)-1 by omega)]
   simp only[Bool.and_self,Bool.not_true,cond_false]
   rw[e1,Option.bind_some]
end
end Go.Vs.F
set_option maxRecDepth 100000
namespace Go.Vs.F
theorem qk4 (m:Nat) {a:List Int} (hl:a.length≤1000000): ∀(n k:Nat),a.length-k<n→k≤a.length→g138_L0 m n a a (k:Int)=some (.inr (.inl ()))
 |0,k,h,_=>O
 |n+1,k,h,hk0=>by
  rw[g138_L0,bif_decide]
  by_cases hk:k<a.length
  · rw[if_pos O,if_pos O,if_pos O,bif_ne,if_pos rfl,show w_i64 ((k:Int)+1)=((k+1:Nat):Int)from wsucc O]
    exact qk4 m hl n (k+1) O O
  · rw[if_neg O]
theorem qkz {m:Nat} {a:List Int} (hl:a.length≤1000000) (hm:2000000<m):g138 m a a=some (true,(),(),()):=by
 have:=qk4 m hl m 0 O O
 rw[Int.natCast_zero]at this
 rw[g138,bif_ne,if_pos rfl,this,Option.bind_some]
section
variable {R C:Nat} {S I V:List Int}
end
end Go.Vs.F
set_option maxRecDepth 100000
namespace Go.Vs.F
section
variable {N:Nat} {S0 I0 V0 S1 I1 V1 S2 I2 V2:List Int} {s:Int}
end
end Go.Vs.F
set_option maxRecDepth 100000
namespace Go.Vs.F
def fx (v:Int):Int:=(ofD v).2.2.2.1
abbrev BG:=Bool×List Int
def zG (q:Int):BG:=((zB q).1,(zB q).2.1)
theorem ql6:zG 0=(false,[]):=by unfold zG;rw[zB_1,zB_2,show(0:Int).natAbs=0 from rfl,Qh];rfl
theorem qkw {v:Int} (h:FinF v): ∃w,NF (valF v) (-1074) w (fx v)∧(ofD v).1=false∧(ofD v).2.1=(zB w).1∧(ofD v).2.2.1=(zB w).2.1:=by
 obtain⟨w,f,k,k1,k2,k3⟩:=Yb (val_ok h)
 have hv:=q1v h
 have:fx v=f:=by unfold fx;rw[hv,k3]
 rw[this,hv]
 exact⟨w,k,val_ok h,k1,k2⟩
structure ShfOK (l:List Int) (s:Int) (fst:Bool):Prop where
 a:fst=true→s=0∧ ∀v∈l,valF v=0
 b:fst=false→(∃v∈l,valF v≠0∧fx v=s)∧ ∀v∈l,valF v≠0→s≤fx v
theorem fx_bd {v:Int} (h:FinF v): -65536≤fx v∧fx v≤65536:=by
 obtain⟨w,k,_⟩:=qkw h
 have:=k.lo;have:=k.hi;omega
theorem qjz {m:Nat} (hm:3000000<m) {V:List Int} (hl:V.length≤100000) (hU: ∀v∈V,U64 v∧FinF v) (a0 a1:Int) (a2 a3 a4:List Int): ∀(n k:Nat) (s:Int) (fst:Bool),V.length-k<n→k≤V.length→ShfOK (V.take k) s fst→
 ∃s',g26_L0 m n a0 a1 a2 a3 a4 s fst V (V.length:Int) (k:Int)=some (.inl ((a0,a1,a2,a3,a4,()),s',()))∧ ∃f',ShfOK V s' f'
 |0,k,s,fst,h,_,_=>O
 |n+1,k,s,fst,h,hk0,hS=>by
  rw[g26_L0,bif_decide]
  by_cases hk:k<V.length
  · have hmem:V.getD k 0∈V:=Qw hk
    obtain⟨hu,hf⟩:=hU _ hmem
    have ht:=take_snoc (l:=V) hk (x:=V.getD k 0) rfl
    have ws:w_i64 ((k:Int)+1)=((k+1:Nat):Int):=wsucc O
    have hsg:=qgs hm (val_ok hf)
    rw[if_pos O,if_pos O,Int.toNat_natCast,ws]
    obtain⟨v,hv⟩: ∃v,v=V.getD k 0:=⟨_,rfl⟩
    rw[←hv]at hu hf ht hsg hmem⊢
    rw[Of_eq hm hu,Option.bind_some]
    dsimp only
    have hfx:(ofD v).2.2.2.1=fx v:=rfl
    rw[←q1v hf]at hsg
    rw[hsg,Option.bind_some,bif_ne,hfx]
    dsimp only
    by_cases z:sgn (valF v)=0
    · have z0:=Xd.1 z
      rw[if_pos z]
      refine qjz hm hl hU a0 a1 a2 a3 a4 n (k+1) s fst O O ?_
      rw[ht]
      refine⟨fun h=>⟨(hS.a h).1,fun x hx=> ?_⟩,fun h=>⟨?_,fun x hx hx0=> ?_⟩⟩
      · rcases List.mem_append.1 hx with hx|hx
        · exact(hS.a h).2 x hx
        · rw[List.mem_singleton]at hx;subst hx;exact z0
      · obtain⟨y,y1,y2⟩:=(hS.b h).1
        exact⟨y,List.mem_append.2 (.inl y1),y2⟩
      · rcases List.mem_append.1 hx with hx|hx
        · exact(hS.b h).2 x hx hx0
        · rw[List.mem_singleton]at hx;subst hx;exact absurd z0 hx0
    · have z0:valF v≠0:=fun h=>z (Xd.2 h)
      rw[if_neg z]
      cases fst with
      |true=>
       rw[cond_true]
       refine qjz hm hl hU a0 a1 a2 a3 a4 n (k+1) (fx v) false O O ?_
       rw[ht]
       refine⟨fun h=>Bool.noConfusion h,fun _=>⟨⟨v,List.mem_append.2 (.inr (List.mem_singleton.2 rfl)),z0,rfl⟩,fun x hx hx0=> ?_⟩⟩
       rcases List.mem_append.1 hx with hx|hx
       · exact absurd ((hS.a rfl).2 x hx) hx0
       · rw[List.mem_singleton]at hx;subst hx;exact Int.le_refl _
      |false=>
       obtain⟨⟨y,y1,y2,y3⟩,y4⟩:=hS.b rfl
       rw[cond_false,bif_decide]
       by_cases c:fx v<s
       · rw[if_pos c]
         refine qjz hm hl hU a0 a1 a2 a3 a4 n (k+1) (fx v) false O O ?_
         rw[ht]
         refine⟨fun h=>Bool.noConfusion h,fun _=>⟨⟨v,List.mem_append.2 (.inr (List.mem_singleton.2 rfl)),z0,rfl⟩,fun x hx hx0=> ?_⟩⟩
         rcases List.mem_append.1 hx with hx|hx
         · have:=y4 x hx hx0;omega
         · rw[List.mem_singleton]at hx;subst hx;exact Int.le_refl _
       · rw[if_neg c]
         refine qjz hm hl hU a0 a1 a2 a3 a4 n (k+1) s false O O ?_
         rw[ht]
         refine⟨fun h=>Bool.noConfusion h,fun _=>⟨⟨y,List.mem_append.2 (.inl y1),y2,y3⟩,fun x hx hx0=> ?_⟩⟩
         rcases List.mem_append.1 hx with hx|hx
         · exact y4 x hx hx0
         · rw[List.mem_singleton]at hx;subst hx;omega
  · rw[if_neg O]
    rw[List.take_of_length_le O]at hS
    exact⟨s,rfl,fst,hS⟩
theorem qke (m:Nat) {R C:Nat} (hR:R≤200) (hC:C≤200) (S I V:List Int) (s:Int): ∀(n k:Nat) (G:List (List BG)),R-k<n→k≤R→G.length=R→(∀i,i<k→G.getD i []=List.replicate C (false,[]))→
 ∃G',g26_L1 m n (R:Int) (C:Int) S I V G s (R:Int) (k:Int)=some (.inl (((R:Int),(C:Int),S,I,V,()),G',s,()))∧G'.length=R∧ ∀i,i<R→G'.getD i []=List.replicate C (false,[])
 |0,k,G,h,_,_,_=>O
 |n+1,k,G,h,hk0,hG,hi=>by
  rw[g26_L1,bif_decide]
  by_cases hk:k<R
  · rw[if_pos O,if_pos O,if_pos O,Int.toNat_natCast,Int.toNat_natCast,show w_i64 ((k:Int)+1)=((k+1:Nat):Int)from wsucc O]
    refine qke m hR hC S I V s n (k+1) _ O O (by rw[List.length_set];exact hG) (fun i hi2=> ?_)
    rw[Jm O]
    by_cases e:i=k
    · rw[if_pos e]
    · rw[if_neg e];exact hi i O
  · rw[if_neg O]
    exact⟨G,rfl,hG,fun i h=>hi i O⟩
structure GrOK (R C:Nat) (es:List Ent) (s:Int) (G:List (List BG)):Prop where
 r:G.length=R
 c: ∀i,i<R→(G.getD i []).length=C
 q: ∀(i j:Nat),i<R→j<C→ ∀v,LookV es (i:Int) (j:Int) v→ ∃q:Int,EqD q s (valF v) (-1074)∧(G.getD i []).getD j (false,[])=zG q∧blen q.natAbs≤140000∧(valF v≠0→fx v=s→q.natAbs%2=1)
theorem qk2 {m:Nat} (hm:3000000<m) {R C:Nat} (hR:R≤200) (hC:C≤200) {es:List Ent} (hE:qkp R C es) (hD:DistE es) (hl:es.length≤100000) (hU: ∀e∈es,U64 e.2.2∧FinF e.2.2) {s:Int} (hs: ∀e∈es,valF e.2.2≠0→s≤fx e.2.2∧ -65536≤s): ∀(n k:Nat) (G:List (List BG)),es.length-k<n→k≤es.length→GrOK R C (es.take k) s G→
 ∃G',g26_L2 m n G s es (es.length:Int) (k:Int)=some (.inl (G',s,()))∧GrOK R C es s G'
 |0,k,G,h,_,_=>O
 |n+1,k,G,h,hk0,hG=>by
  rw[g26_L2,bif_decide]
  by_cases hk:k<es.length
  · have hmem:es.getD k zE∈es:=q1s hk
    have ht:=Yz hk
    have ws:w_i64 ((k:Int)+1)=((k+1:Nat):Int):=wsucc O
    obtain⟨⟨i,j,v⟩,hv⟩: ∃e,e=es.getD k zE:=⟨_,rfl⟩
    have hv':es.getD k (0,(0,0))=(i,j,v):=hv.symm
    rw[←hv]at hmem ht
    obtain⟨hi,hj,_⟩:=Zg hE _ hmem
    obtain⟨hu,hf⟩:=hU _ hmem
    have hs1:=hs _ hmem
    dsimp only at hi hj hu hf hs1
    have hnew: ∀v',((i,(j,v')):Ent)∉es.take k:=fun v' hx=>by
     obtain⟨t,ht2,e⟩:=List.getElem_of_mem hx
     rw[List.length_take]at ht2
     rw[List.getElem_take]at e
     have g1:es.getD t zE=(i,(j,v')):=by rw[←e];simp[List.getD,show t<es.length by omega]
     have:=hD t k O hk (by rw[g1,←hv]) (by rw[g1,←hv])
     omega
    have look: ∀(a b:Int) v',LookV (es.take (k+1)) a b v'→(a=i∧b=j→v'=v)∧(¬(a=i∧b=j)→LookV (es.take k) a b v'):=by
     intro a b v' hl'
     rw[ht]at hl'
     constructor
     · rintro ⟨rfl,rfl⟩
       rcases hl' with h1|⟨_,h1⟩
       · rcases List.mem_append.1 h1 with h1|h1
         · exact absurd h1 (hnew v')
         · rw[List.mem_singleton]at h1
           simp only[Prod.mk.injEq,true_and]at h1
           exact h1
       · exact absurd (List.mem_append.2 (.inr (List.mem_singleton.2 rfl))) (h1 v)
     · intro hne
       rcases hl' with h1|⟨h0,h1⟩
       · rcases List.mem_append.1 h1 with h1|h1
         · exact .inl h1
         · rw[List.mem_singleton]at h1
           simp only[Prod.mk.injEq]at h1
           exact absurd ⟨h1.1,h1.2.1⟩ hne
       · exact .inr ⟨h0,fun w hw=>h1 w (List.mem_append.2 (.inl hw))⟩
    rw[if_pos O,if_pos O,Int.toNat_natCast,Nat.zero_add,hv',ws,Of_eq hm hu,Option.bind_some]
    dsimp only
    obtain⟨w,kn,d1,d2,d3⟩:=qkw hf
    have hsg:=qgs hm (val_ok hf)
    rw[←q1v hf]at hsg
    rw[hsg,Option.bind_some,bif_ne]
    dsimp only
    obtain⟨i',rfl⟩: ∃k:Nat,i=(k:Int):=⟨i.toNat,O⟩
    obtain⟨j',rfl⟩: ∃k:Nat,j=(k:Int):=⟨j.toNat,O⟩
    by_cases z:sgn (valF v)=0
    · have z0:=Xd.1 z
      rw[if_pos z]
      refine qk2 hm hR hC hE hD hl hU hs n (k+1) G O O ⟨hG.r,hG.c,fun a b ha hb v' hv'=> ?_⟩
      obtain⟨g1,g2⟩:=look _ _ _ hv'
      by_cases e:((a:Int)=(i':Int)∧(b:Int)=(j':Int))
      · have:=g1 e
        subst this
        have ea:a=i':=O
        have eb:b=j':=O
        subst ea eb
        obtain⟨q,q1,q2,q3,_⟩:=hG.q a b ha hb 0 (.inr ⟨rfl,hnew⟩)
        have zz:valF 0=0:=by
         have:ofZ 0=0:=by unfold ofZ fexp ffrac fneg;decide
         unfold valF sc;rw[this,Int.zero_mul]
        rw[zz]at q1
        exact⟨q,by rw[z0];exact q1,q2,q3,fun h=>absurd z0 h⟩
      · exact hG.q a b ha hb v' (g2 e)
    · have z0:valF v≠0:=fun h=>z (Xd.2 h)
      obtain⟨s1,s2⟩:=hs1 z0
      have hfb:=fx_bd hf
      have wd:w_i64 (fx v-s)=fx v-s:=by rw[w_i64_eq,wi O O]
      have hfx:(ofD v).2.2.2.1=fx v:=rfl
      have hlw:=kn.lim
      obtain⟨d,hd⟩: ∃d:Nat,fx v-s=(d:Int):=⟨(fx v-s).toNat,O⟩
      have hsh:g78 m (zB w).1 (zB w).2.1 (d:Int)=some ((zB (w*2^d),0,()),(),(),()):=by
       rw[qch hm (Lm_zB w) O O,zv_zB]
      have hscd:w*2^d=sc w (fx v) s:=by unfold sc;rw[hd,Int.toNat_natCast]
      have hc1:=hG.c i' O
      have hr:=hG.r
      rw[if_neg z,if_pos O,hfx,wd,d2,d3,hd,hsh,Option.bind_some]
      simp only[Int.toNat_natCast]
      rw[if_pos O]
      refine qk2 hm hR hC hE hD hl hU hs n (k+1) _ O O ⟨by rw[List.length_set];exact hG.r,fun a ha=> ?_,fun a b ha hb v' hv'=> ?_⟩
      · rw[Jm O]
        by_cases e:a=i'
        · rw[if_pos e,List.length_set,←e];exact hG.c a ha
        · rw[if_neg e];exact hG.c a ha
      · obtain⟨g1,g2⟩:=look _ _ _ hv'
        by_cases e:((a:Int)=(i':Int)∧(b:Int)=(j':Int))
        · have:=g1 e
          subst this
          have ea:a=i':=O
          have eb:b=j':=O
          subst ea eb
          refine⟨sc w (fx v') s,(EqD.sc s1).trans kn.eq,?_,?_,fun _ e2=> ?_⟩
          · rw[Jm O,if_pos rfl,Jm O,if_pos rfl,←hscd];rfl
          · have:=qcq (w:=w) s1
            have:=kn.hi;have:=kn.lo
            omega
          · rw[←e2,qg3]
            refine kn.odd fun h=>z0 ?_
            subst h
            have:=kn.eq.sgn
            rw[show sgn 0=0 from rfl]at this
            exact Xd.1 this.symm
        · obtain⟨q,q1,q2,q3,q4⟩:=hG.q a b ha hb v' (g2 e)
          refine⟨q,q1,?_,q3,q4⟩
          rw[Jm O]
          by_cases ea:a=i'
          · subst ea
            rw[if_pos rfl,Jm O,if_neg O];exact q2
          · rw[if_neg ea];exact q2
  · rw[if_neg O]
    rw[List.take_of_length_le O]at hG
    exact⟨G,rfl,hG⟩
end Go.Vs.F
set_option maxRecDepth 100000
namespace Go.Vs.F
theorem qkd:valF 0=0:=by
 have:ofZ 0=0:=by unfold ofZ fexp ffrac fneg;decide
 unfold valF sc;rw[this,Int.zero_mul]
section
variable {R C:Nat} {S I V:List Int}
theorem qkt {m:Nat} (hm:3000000<m) (h:MV R C S I V) (hU: ∀x∈V,U64 x) (hR:R≤16) (hC:C≤16):
 ∃G s,g26 m (R:Int) (C:Int) S I V=some ((G,s,0,()),(),())∧GrOK R C (ents S I V C 0) s G∧(∃f',ShfOK V s f')∧ -65536≤s∧s≤65536:=by
 have hsz:=h.ok.sz
 have hv:=h.vl
 have hsl:=h.sl
 have hl:=h.len
 have hfin: ∀v∈V,U64 v∧FinF v:=fun v hv2=>by
  have h1:=hU v hv2
  obtain⟨_,_,_,_,_,_,hf⟩:=qid h.chk
  obtain⟨i,hi,rfl⟩:=List.getElem_of_mem hv2
  have:=Q8.1 hf i O hi
  rw[show V.getD i 0=V[i] by simp[List.getD,hi],q27 h1]at this
  exact⟨h1,of_decide_eq_true this⟩
 obtain⟨s,e0,f',hS⟩:=qjz hm O hfin (R:Int) (C:Int) S I V m 0 0 true O O ⟨fun _=>⟨rfl,fun v hv=>by cases hv⟩,fun h=>Bool.noConfusion h⟩
 rw[Int.natCast_zero]at e0
 have sb: -65536≤s∧s≤65536:=by
  cases f' with
  |true=>have:=(hS.a rfl).1;omega
  |false=>
   obtain⟨⟨v,v1,v2,v3⟩,_⟩:=hS.b rfl
   have:=fx_bd (hfin v v1).2
   omega
 obtain⟨G1,e1,r1,g1⟩:=qke m (R:=R) (C:=C) O O S I V s m 0 (List.replicate R []) O O (by simp) (fun i hi=>O)
 rw[Int.natCast_zero]at e1
 have hE:=h.ents
 have hD:=h.dist
 have hem: ∀e∈Go.Vs.F.ents S I V C 0,U64 e.2.2∧FinF e.2.2:=fun e he=>h.valU hU he
 obtain⟨G2,e2,g2⟩:=qk2 hm (R:=R) (C:=C) O O hE hD O hem (s:=s) (fun e he hz=>by
  have hev:=qbn h.ok h.vl C 0 O e he
  cases f' with
  |true=>exact absurd ((hS.a rfl).2 _ hev) hz
  |false=>exact⟨(hS.b rfl).2 _ hev hz,sb.1⟩) m 0 G1 O O ⟨r1,fun i hi=>by rw[g1 i hi];simp,fun i j hi hj v hv=>by
   rcases hv with hv|⟨rfl,_⟩
   · cases hv
   · refine⟨0,by rw[qkd];exact EqD.zero _ _,?_,by decide,fun h=>absurd qkd h⟩
     rw[g1 i hi,Qg hj,ql6]⟩
 rw[Int.natCast_zero]at e2
 refine⟨G2,s,?_,g2,⟨f',hS⟩,sb⟩
 rw[g26,g44_eq O O O O O,h.chk]
 simp only[Option.bind_some,bif_ne,if_true,bif_decide]
 rw[if_neg O,if_neg O,e0,Option.bind_some]
 dsimp only
 rw[if_pos O,Int.toNat_natCast,List.length_replicate,e1,Option.bind_some]
 dsimp only
 rw[q54 O h.ok h.vl,Option.bind_some]
 dsimp only
 rw[e2,Option.bind_some]
end
section
variable {R C:Nat} {S I V:List Int}
end
end Go.Vs.F
set_option maxRecDepth 100000
namespace Go.Vs.F
variable {R C:Nat} {S I V:List Int}
structure DL (R C:Nat) (es:List Ent) (D:List (List Int)):Prop where
 len:D.length=R
 row: ∀i,i<R→(D.getD i []).length=C
 look: ∀i j:Nat,i<R→j<C→LookV es (i:Int) (j:Int) ((D.getD i []).getD j 0)
theorem DL.step {es:List Ent} {D:List (List Int)} (h:DL R C es D) {i0 j0:Nat} {v:Int} (hi:i0<R) (hj:j0<C) (hn: ∀v',(((i0:Int),((j0:Int),v')):Ent)∉es):
 DL R C (es++[((i0:Int),((j0:Int),v))]) (D.set i0 ((D.getD i0 []).set j0 v)):=by
 have hl:=h.len
 have g: ∀i,(D.set i0 ((D.getD i0 []).set j0 v)).getD i []=if i=i0 then(D.getD i0 []).set j0 v else D.getD i []:=fun i=>Jm O
 have hrow:=h.row i0 hi
 refine⟨by rw[List.length_set];exact hl,fun i hi'=> ?_,fun i j hi' hj'=> ?_⟩
 · rw[g];split
   · rw[List.length_set];exact hrow
   · exact h.row i hi'
 · have keep: ¬(i=i0∧j=j0)→LookV (es++[((i0:Int),((j0:Int),v))]) (i:Int) (j:Int) ((D.getD i []).getD j 0):=fun hne=>by
    rcases h.look i j hi' hj' with h1|⟨h1,h2⟩
    · exact .inl (List.mem_append_left _ h1)
    · refine .inr ⟨h1,fun v' hm=> ?_⟩
      rcases List.mem_append.1 hm with hm|hm
      · exact h2 v' hm
      · rw[List.mem_singleton]at hm
        simp only[Prod.mk.injEq]at hm
        exact hne ⟨O,O⟩
   rw[g]
   by_cases q:i=i0
   · subst q
     rw[if_pos rfl,Jm O]
     by_cases q2:j=j0
     · subst q2
       rw[if_pos rfl]
       exact .inl (List.mem_append_right _ (List.mem_singleton.2 rfl))
     · rw[if_neg q2];exact keep fun c=>q2 c.2
   · rw[if_neg q];exact keep fun c=>q c.1
theorem qk3 (m:Nat) (hr:R≤200) (hc:C≤200) {es:List Ent} (hl:es.length≤100000) (hE:qkp R C es) (hD:DistE es): ∀(n k:Nat) (D:List (List Int)),es.length-k<n→k≤es.length→DL R C (es.take k) D→
 ∃D',g41_L1 m n D es (es.length:Int) (k:Int)=some (.inl (D',()))∧g42_L1 m n D es (k:Int)=some (.inl (D',()))∧DL R C es D'
 |0,k,D,h,_,_=>absurd h (Nat.not_lt_zero _)
 |n+1,k,D,h,hk0,hN=>by
  rw[g41_L1,g42_L1,bif_decide,bif_decide]
  by_cases hk:k<es.length
  · have c1:(0:Int)≤(k:Int)∧(k:Int)<(es.length:Int):=O
    have hmem:es.getD k zE∈es:=q1s hk
    have ht:=Yz hk
    obtain⟨⟨i,j,v⟩,hv⟩: ∃e,e=es.getD k zE:=⟨_,rfl⟩
    have hv':es.getD k (0,(0,0))=(i,j,v):=hv.symm
    rw[←hv]at hmem ht
    obtain⟨hi,hj,_⟩:=Zg hE _ hmem
    dsimp only at hi hj
    obtain⟨i',rfl⟩: ∃k:Nat,i=(k:Int):=⟨i.toNat,O⟩
    obtain⟨j',rfl⟩: ∃k:Nat,j=(k:Int):=⟨j.toNat,O⟩
    have hnew: ∀v',(((i':Int),((j':Int),v')):Ent)∉es.take k:=fun v' hx=>by
     obtain⟨t,ht2,e⟩:=List.getElem_of_mem hx
     rw[List.length_take]at ht2
     rw[List.getElem_take]at e
     have g1:es.getD t zE=((i':Int),((j':Int),v')):=by rw[←e];simp[List.getD,show t<es.length by omega]
     have:=hD t k O hk (by rw[g1,←hv]) (by rw[g1,←hv])
     omega
    have hst:=hN.step (v:=v) (show i'<R by omega) (show j'<C by omega) hnew
    rw[←ht]at hst
    have hrow:=hN.row i' O
    have hlen:=hN.len
    have c2:(0:Int)≤(i':Int)∧(i':Int)<(D.length:Int):=O
    have c3:(0:Int)≤(j':Int)∧(j':Int)<((D.getD i' []).length:Int):=O
    rw[if_pos O,if_pos O]
    simp only[c1,and_self,if_true,Int.toNat_natCast,Nat.zero_add,hv',c2,c3,w_i64_eq,wsucc (show k<4611686018427387904 by omega)]
    exact qk3 m hr hc hl hE hD n (k+1) _ O O hst
  · rw[if_neg O,if_neg O]
    rw[List.take_of_length_le O]at hN
    exact⟨D,rfl,rfl,hN⟩
theorem qkl (m:Nat) (hr:R≤200) (hc:C≤200) (S I V:List Int): ∀(n k:Nat) (D:List (List Int)),R-k<n→k≤R→D.length=R→(∀i,i<k→D.getD i []=List.replicate C 0)→
 g41_L0 m n (R:Int) (C:Int) S I V D (R:Int) (k:Int)=some (.inl (((R:Int),(C:Int),S,I,V,()),List.replicate R (List.replicate C 0),()))
 |0,k,D,h,_,_,_=>O
 |n+1,k,D,h,hk0,hl,hi=>by
  rw[g41_L0,bif_decide]
  by_cases hk:k<R
  · rw[if_pos O,if_pos O,if_pos O,Int.toNat_natCast,Int.toNat_natCast,show w_i64 ((k:Int)+1)=((k+1:Nat):Int)from wsucc O]
    refine qkl m hr hc S I V n (k+1) _ O O (by rw[List.length_set];exact hl) (fun i hi2=> ?_)
    rw[Jm O]
    by_cases e:i=k
    · rw[if_pos e]
    · rw[if_neg e];exact hi i O
  · rw[if_neg O]
    have:D=List.replicate R (List.replicate C 0):=qgx [] (by simp[hl]) fun i hi2=>by
     rw[hi i O,Qg O]
    rw[this]
theorem qkg (m:Nat) (hr:R≤200) (hc:C≤200) (S I V:List Int): ∀(n k:Nat),R-k<n→k≤R→
 g42_L0 m n (R:Int) (C:Int) S I V (List.replicate k (List.replicate C 0)) (k:Int)=some (.inl (((R:Int),(C:Int),S,I,V,()),List.replicate R (List.replicate C 0),()))
 |0,k,h,_=>O
 |n+1,k,h,hk0=>by
  rw[g42_L0,bif_decide]
  by_cases hk:k<R
  · have e1:List.replicate k (List.replicate C (0:Int))++[List.replicate C 0]=List.replicate (k+1) (List.replicate C 0):=List.replicate_succ'.symm
    rw[if_pos O,if_pos O,if_pos (by simp;omega),Int.toNat_natCast,e1,show w_i64 ((k:Int)+1)=((k+1:Nat):Int)from wsucc O]
    exact qkg m hr hc S I V n (k+1) O O
  · rw[if_neg O]
    have:k=R:=O
    subst this;rfl
theorem qk9 {m:Nat} (hm:3000000<m) (h:MV R C S I V): ∃D,g41 m (R:Int) (C:Int) S I V=some ((D,0,()),(),())∧g42 m (R:Int) (C:Int) S I V=some ((D,0,()),(),())∧DL R C (ents S I V C 0) D:=by
 have hsz:=h.ok.sz
 have hrz:=h.ok.rz
 have hcz:=h.ok.cz
 have hv:=h.vl
 have hsl:=h.sl
 have hl:=h.len
 have h0:DL R C ((ents S I V C 0).take 0) (List.replicate R (List.replicate C 0)):=by
  have g: ∀i,i<R→(List.replicate R (List.replicate C (0:Int))).getD i []=List.replicate C 0:=fun i hi=>by simp[List.getD,hi]
  exact⟨by simp,fun i hi=>by rw[g i hi];simp,fun i j hi hj=> .inr ⟨by rw[g i hi];simp[List.getD,hj],fun v' hv=>by simp at hv⟩⟩
 obtain⟨D,e1,e2,hD⟩:=qk3 m (R:=R) (C:=C) hrz hcz (show(ents S I V C 0).length≤100000 by omega) h.ents h.dist m 0 _ O (Nat.zero_le _) h0
 have e3:=qkl m (R:=R) (C:=C) hrz hcz S I V m 0 (List.replicate R []) O O (by simp) (fun i hi=>absurd hi (Nat.not_lt_zero _))
 have e4:=qkg m (R:=R) (C:=C) hrz hcz S I V m 0 O O
 rw[Int.natCast_zero]at e1 e2 e3 e4
 refine⟨D,?_,?_,hD⟩
 · rw[g41,g44_eq O O O O O,h.chk]
   simp only[Option.bind_some,bif_ne,if_true]
   rw[if_pos O,Int.toNat_natCast,List.length_replicate,e3]
   simp only[Option.bind_some]
   rw[q54 O h.ok h.vl]
   simp only[Option.bind_some]
   rw[e1];rfl
 · rw[g42,X4 O O O,h.chk]
   simp only[Option.bind_some,bif_ne,if_true]
   rw[show([]:List (List Int))=List.replicate 0 (List.replicate C 0)from rfl,e4]
   simp only[Option.bind_some]
   rw[q6l O h.ok h.vl h.chk]
   simp only[Option.bind_some]
   rw[e2];rfl
theorem qlg {m:Nat} (hm:3000000<m) (h:MV R C S I V) (i j:Int): ∃v,g30 m (R:Int) (C:Int) S I V i j=some (v,(),(),(),())∧g38 m (R:Int) (C:Int) S I V i j=some (v,(),(),(),()):=by
 have hsz:=h.ok.sz
 have hrz:=h.ok.rz
 have hcz:=h.ok.cz
 have hv:=h.vl
 have hsl:=h.sl
 have w1:w_i64 ((R:Int)-1)=(R:Int)-1:=by rw[w_i64_eq,wi O O]
 have w2:w_i64 ((C:Int)-1)=(C:Int)-1:=by rw[w_i64_eq,wi O O]
 by_cases hj:0≤j∧j<(C:Int)
 · obtain⟨j',rfl⟩: ∃k:Nat,j=(k:Int):=⟨j.toNat,O⟩
   obtain⟨v,b,e1,e2,e3⟩:=qkq hm h (i:=i) (j:=j') O
   refine⟨v,?_,e2⟩
   rw[g30,g44_eq O O O O O,h.chk]
   simp only[Option.bind_some,bif_ne,if_true]
   rw[q9p,w1]
   simp only[Option.bind_some]
   by_cases hi:0≤i∧i<(R:Int)
   · rw[decide_eq_true hi.1,decide_eq_true (show i≤(R:Int)-1 by omega),q9p,w2,decide_eq_true (show(0:Int)≤(j':Int) by omega),decide_eq_true (show(j':Int)≤(C:Int)-1 by omega)]
     simp only[Bool.and_self,Bool.not_true,cond_false,Option.bind_some]
     rw[e1,Option.bind_some]
   · have hw:(decide (0≤i)&&decide (i≤(R:Int)-1))=false:=by
      rw[Bool.and_eq_false_iff,decide_eq_false_iff_not,decide_eq_false_iff_not];omega
     rw[hw]
     simp only[Bool.not_false,cond_true]
     rcases e3 with⟨_,g⟩|⟨_,g,_⟩
     · have:=(Zg h.ents _ g).1
       exact absurd this hi
     · rw[g]
 · refine⟨0,?_,?_⟩
   · rw[g30,g44_eq O O O O O,h.chk]
     simp only[Option.bind_some,bif_ne,if_true]
     rw[q9p,w1,q9p,w2]
     simp only[Option.bind_some]
     have hw:(decide (0≤j)&&decide (j≤(C:Int)-1))=false:=by
      rw[Bool.and_eq_false_iff,decide_eq_false_iff_not,decide_eq_false_iff_not];omega
     rw[hw]
     simp only[Bool.not_false,cond_true]
     cases (!(decide (0≤i)&&decide (i≤(R:Int)-1)))<;>rfl
   · rw[g38,X4 O O O,h.chk]
     simp only[Option.bind_some,bif_ne,if_true,bif_decide]
     by_cases g:j<0
     · rw[if_pos g]
     · rw[if_neg g,if_pos O]
theorem qky {n:Nat} (h:n<18446744073709551616):qk1 .u64 (n:Int) 9223372036854775808=((n%9223372036854775808:Nat):Int):=by
 unfold qk1
 show IntKind.wrap .u64 ((BitVec.ofInt 64 (n:Int)&&& ~~~(BitVec.ofInt 64 ((9223372036854775808:Nat):Int))).toNat:Int)=_
 rw[BitVec.toNat_and,BitVec.toNat_not,ofInt64 h,ofInt64 O]
 have e:n&&&(2^64-1-9223372036854775808)=n%9223372036854775808:=by
  rw[show(2:Nat)^64-1-9223372036854775808=2^63-1 by decide,Nat.and_two_pow_sub_one_eq_mod]
 rw[e,wu O O]
def keyF (f:Int):Int:=if 9223372036854775808≤f then-(f-9223372036854775808)else f
def cmpI (a b:Int):Int:=if a<b then-1 else if a>b then 1 else 0
theorem qk7 {m:Nat} {f:Int} (h:U64 f):g159 m f=some (keyF f,(),())∧g161 m f=some (keyF f,(),()):=by
 obtain⟨n,rfl⟩: ∃n:Nat,f=(n:Int):=⟨f.toNat,by have:=h.1;omega⟩
 have hn:n<18446744073709551616:=by have:=h.2;omega
 rw[g159,g161,q4g h,qev h]
 simp only[Option.bind_some,qky hn]
 unfold fneg keyF
 by_cases c:(9223372036854775808:Int)≤(n:Int)
 · rw[decide_eq_true c,if_pos c,cond_true,cond_true]
   have e:n%9223372036854775808=n-9223372036854775808:=O
   have a1:w_i64 ((n%9223372036854775808:Nat):Int)=(n:Int)-9223372036854775808:=by rw[w_i64_eq,wi O O];omega
   have a2:w_i64 (0-((n:Int)-9223372036854775808))= -((n:Int)-9223372036854775808):=by rw[w_i64_eq,wi O O];omega
   rw[a1,a2];exact⟨rfl,rfl⟩
 · rw[decide_eq_false c,if_neg c,cond_false,cond_false]
   have a1:w_i64 ((n%9223372036854775808:Nat):Int)=(n:Int):=by rw[w_i64_eq,wi O O];omega
   have a2:w_i64 (n:Int)=(n:Int):=by rw[w_i64_eq,wi O O]
   rw[a1,a2];exact⟨rfl,rfl⟩
theorem kind3 {f:Int} (hf:FinF f): ¬kindN f=3:=by unfold kindN;rw[if_neg hf];split<;>decide
theorem nan2 {m:Nat} (hm:10<m) {f g:Int} (h:U64 f) (h2:U64 g) (hf:FinF f) (hg:FinF g):g92 m [f,g]=some (false,(),()):=by
 obtain⟨k,rfl⟩: ∃k,m=k+4:=⟨m-4,O⟩
 have hk:=kind3 hf
 have hk2:=kind3 hg
 have e:=(qkk (m:=k+4) h).1
 have e2:=(qkk (m:=k+4) h2).1
 have l1:(([f,g]:List Int).length:Int)=2:=rfl
 have g0:([f,g]:List Int).getD (0:Int).toNat 0=f:=rfl
 have g1:([f,g]:List Int).getD (1:Int).toNat 0=g:=rfl
 have w0:IntKind.wrap .i64 ((0:Int)+1)=1:=wi O O
 have w1:IntKind.wrap .i64 ((1:Int)+1)=2:=wi O O
 have c0:(0:Int)<2:=O
 have c1:(1:Int)<2:=O
 have c2:(0:Int)≤1:=O
 have c3: ¬(2:Int)<2:=O
 rw[g92,g92_L0]
 simp only[l1,bif_decide,c0,if_true,Int.le_refl,and_self,g0,e,Option.bind_some,bif_eq,hk,if_false,w_i64_eq,w0]
 rw[g92_L0]
 simp only[l1,bif_decide,c1,c2,if_true,and_self,g1,e2,Option.bind_some,bif_eq,hk2,if_false,w_i64_eq,w1]
 rw[g92_L0]
 simp only[bif_decide,c3,if_false]
 rfl
theorem qkx {m:Nat} (hm:10<m) {f g:Int} (h:U64 f) (h2:U64 g) (hf:FinF f) (hg:FinF g):
 g106 m f g=some ((cmpI (keyF f) (keyF g),true,()),(),(),())∧g107 m f g=some ((cmpI (keyF f) (keyF g),true,()),(),(),()):=by
 constructor
 · rw[g106,nan2 hm h h2 hf hg,(qk7 h).1,(qk7 h2).1]
   simp only[Option.bind_some,cond_false,bif_decide]
   unfold cmpI
   split
   · rfl
   · split<;>rfl
 · rw[g107,g160,g160,(qkk (m:=m) h).2,(qkk (m:=m) h2).2,(qk7 h).2,(qk7 h2).2]
   simp only[Option.bind_some,bif_eq,kind3 hf,kind3 hg,if_false,bif_decide]
   unfold cmpI
   split
   · rfl
   · split<;>rfl
theorem qkm {a b:Int}:cmpI a b=0↔a=b:=by
 unfold cmpI
 split
 · omega
 · split<;>omega
end Go.Vs.F
set_option maxRecDepth 100000
namespace Go.Vs.F
variable {R C N:Nat} {S I V:List Int}
theorem MV.fin' (h:MV R C S I V) (hU: ∀x∈V,U64 x): ∀v∈V,U64 v∧FinF v:=fun v hv2=>by
 have h1:=hU v hv2
 obtain⟨_,_,_,_,_,_,hf⟩:=qid h.chk
 obtain⟨i,hi,rfl⟩:=List.getElem_of_mem hv2
 have:=Q8.1 hf i O hi
 rw[show V.getD i 0=V[i] by simp[List.getD,hi],q27 h1]at this
 exact⟨h1,of_decide_eq_true this⟩
theorem qk8 (h:MV R C S I V) (hU: ∀x∈V,U64 x) {i j v:Int} (hl:LookV (ents S I V C 0) i j v):U64 v∧FinF v:=by
 rcases hl with hl|⟨rfl,_⟩
 · exact h.fin' hU _ (qbn h.ok h.vl C 0 O _ hl)
 · exact⟨qh4,qh1⟩
def SymP (N:Nat) (L:Nat→Nat→Int):Prop:= ∀i j,i<N→j<N→keyF (L i j)=keyF (L j i)
theorem ql1 {m:Nat} (hm:3000000<m) (h:MV N N S I V) (hU: ∀x∈V,U64 x) {L:Nat→Nat→Int} (hL: ∀i j:Nat,i<N→j<N→LookV (ents S I V N 0) (i:Int) (j:Int) (L i j)):
 ∀(n k:Nat),(ents S I V N 0).length-k<n→k≤(ents S I V N 0).length→
 (g50_L0 m n (N:Int) (N:Int) S I V (ents S I V N 0) ((ents S I V N 0).length:Int) (k:Int)=some (.inr (.inl ()))∧ ∀e∈(ents S I V N 0).drop k,keyF (L e.1.toNat e.2.1.toNat)=keyF (L e.2.1.toNat e.1.toNat))∨
 (g50_L0 m n (N:Int) (N:Int) S I V (ents S I V N 0) ((ents S I V N 0).length:Int) (k:Int)=some (.inl (false,()))∧ ¬SymP N L)
 |0,k,h0,_=>O
 |n+1,k,h0,hk0=>by
  have hl:=h.len
  rw[g50_L0,bif_decide]
  by_cases hk:k<(ents S I V N 0).length
  · have hmem:(ents S I V N 0).getD k zE∈ents S I V N 0:=q1s hk
    obtain⟨⟨i,j,v⟩,hv⟩: ∃e,e=(ents S I V N 0).getD k zE:=⟨_,rfl⟩
    have hv':(ents S I V N 0).getD k (0,(0,0))=(i,j,v):=hv.symm
    have hdrop:(ents S I V N 0).drop k=(i,j,v)::(ents S I V N 0).drop (k+1):=by rw[drop_cons (d:=zE) hk,←hv]
    rw[←hv]at hmem
    obtain⟨hi,hj,_⟩:=Zg h.ents _ hmem
    dsimp only at hi hj
    obtain⟨i',rfl⟩: ∃k:Nat,i=(k:Int):=⟨i.toNat,O⟩
    obtain⟨j',rfl⟩: ∃k:Nat,j=(k:Int):=⟨j.toNat,O⟩
    have hvL:v=L i' j':=LookV.uniq h.dist (.inl hmem) (hL i' j' O O)
    obtain⟨v2,b,e1,_,e3⟩:=qkq hm h (i:=(j':Int)) (j:=i') O
    have hv2:v2=L j' i':=by
     refine LookV.uniq h.dist ?_ (hL j' i' O O)
     rcases e3 with⟨_,g⟩|⟨_,g,g2⟩
     · exact .inl g
     · exact .inr ⟨g,g2⟩
    obtain⟨u1,f1⟩:=qk8 h hU (hL i' j' O O)
    obtain⟨u2,f2⟩:=qk8 h hU (hL j' i' O O)
    rw[if_pos O,if_pos O,hdrop]
    simp only[Int.toNat_natCast,Nat.zero_add,hv',e1,Option.bind_some,hvL,hv2,(qkx (m:=m) O u1 u2 f1 f2).1,bif_ne,qkm,w_i64_eq,wsucc (show k<4611686018427387904 by omega)]
    by_cases hc:keyF (L i' j')=keyF (L j' i')
    · rw[if_pos hc]
      rcases ql1 hm h hU hL n (k+1) O O with⟨e,q⟩|q
      · exact .inl ⟨e,fun x hx=>by
         rcases List.mem_cons.1 hx with rfl|hx
         · simp only[Int.toNat_natCast];exact hc
         · exact q x hx⟩
      · exact .inr q
    · rw[if_neg hc]
      exact .inr ⟨by first|trivial|rfl,fun d=>hc (d i' j' O O)⟩
  · rw[if_neg O]
    exact .inl ⟨rfl,fun x hx=>by rw[drop_nil' hk]at hx;cases hx⟩
theorem ql0 {m:Nat} (hm:3000000<m) (h:MV N N S I V) (hU: ∀x∈V,U64 x) {L:Nat→Nat→Int} (hL: ∀i j:Nat,i<N→j<N→LookV (ents S I V N 0) (i:Int) (j:Int) (L i j)) {i:Nat} (hi:i<N):
 ∀(n j:Nat),i-j<n→j≤i→
 (g51_L1 m n (N:Int) (N:Int) S I V (i:Int) (j:Int)=some (.inr (.inl (((N:Int),(N:Int),S,I,V,()),(i:Int),())))∧ ∀j',j≤j'→j'<i→keyF (L i j')=keyF (L j' i))∨
 (g51_L1 m n (N:Int) (N:Int) S I V (i:Int) (j:Int)=some (.inl (false,()))∧ ¬SymP N L)
 |0,j,h0,_=>O
 |n+1,j,h0,hj0=>by
  have hcz:=h.ok.cz
  rw[g51_L1,bif_decide]
  by_cases hj:j<i
  · have hAt: ∀a b:Nat,a<N→b<N→g38 m (N:Int) (N:Int) S I V (a:Int) (b:Int)=some (L a b,(),(),(),()):=fun a b ha hb=>by
     obtain⟨v,v1,_,v3⟩:=qld hm h (i:=a) (j:=b) ha hb
     rw[v3,LookV.uniq h.dist v1 (hL a b ha hb)]
    obtain⟨u1,f1⟩:=qk8 h hU (hL i j hi O)
    obtain⟨u2,f2⟩:=qk8 h hU (hL j i O hi)
    rw[if_pos O,hAt i j hi O,hAt j i O hi]
    simp only[Option.bind_some,(qkx (m:=m) O u1 u2 f1 f2).2,bif_ne,qkm,w_i64_eq,wsucc (show j<4611686018427387904 by omega)]
    by_cases hc:keyF (L i j)=keyF (L j i)
    · rw[if_pos hc]
      rcases ql0 hm h hU hL hi n (j+1) O O with⟨e,q⟩|q
      · exact .inl ⟨e,fun j' h1 h2=>by
         by_cases ej:j'=j
         · subst ej;exact hc
         · exact q j' O h2⟩
      · exact .inr q
    · rw[if_neg hc]
      exact .inr ⟨by first|trivial|rfl,fun d=>hc (d i j hi O)⟩
  · rw[if_neg O]
    exact .inl ⟨rfl,fun j' h1 h2=>O⟩
theorem ql5 {m:Nat} (hm:3000000<m) (h:MV N N S I V) (hU: ∀x∈V,U64 x) {L:Nat→Nat→Int} (hL: ∀i j:Nat,i<N→j<N→LookV (ents S I V N 0) (i:Int) (j:Int) (L i j)):
 ∀(n i:Nat),N-i<n→i≤N→(∀a b,a<i→b<a→keyF (L a b)=keyF (L b a))→
 (g51_L0 m n (N:Int) (N:Int) S I V (i:Int)=some (.inr (.inl ()))∧SymP N L)∨
 (g51_L0 m n (N:Int) (N:Int) S I V (i:Int)=some (.inl (false,()))∧ ¬SymP N L)
 |0,i,h0,_,_=>O
 |n+1,i,h0,hi0,hd=>by
  have hcz:=h.ok.cz
  rw[g51_L0,bif_decide]
  by_cases hi:i<N
  · rw[if_pos O]
    rcases ql0 hm h hU hL hi m 0 O O with⟨e,q⟩|⟨e,q⟩
    · rw[Int.natCast_zero]at e
      simp only[e,Option.bind_some,w_i64_eq,wsucc (show i<4611686018427387904 by omega)]
      exact ql5 hm h hU hL n (i+1) O O fun a b ha hb=>by
       by_cases ea:a=i
       · subst ea;exact q b (Nat.zero_le _) hb
       · exact hd a b O hb
    · rw[Int.natCast_zero]at e
      simp only[e,Option.bind_some]
      exact .inr ⟨by first|trivial|rfl,q⟩
  · rw[if_neg O]
    refine .inl ⟨rfl,fun a b ha hb=> ?_⟩
    rcases Nat.lt_trichotomy a b with c|c|c
    · exact(hd b a O c).symm
    · rw[c]
    · exact hd a b O c
theorem qkf {m:Nat} (hm:3000000<m) (h:MV R C S I V) (hU: ∀x∈V,U64 x): ∃b,g50 m (R:Int) (C:Int) S I V=some (b,(),())∧g51 m (R:Int) (C:Int) S I V=some (b,(),()):=by
 have hsz:=h.ok.sz
 have hrz:=h.ok.rz
 have hcz:=h.ok.cz
 have hv:=h.vl
 have hsl:=h.sl
 have hl:=h.len
 rw[g50,g51,g44_eq O O O O O,X4 O O O,h.chk]
 simp only[Option.bind_some,bif_ne,if_true]
 by_cases hrc:(R:Int)=(C:Int)
 · have:R=C:=O
   subst this
   simp only[if_true]
   obtain⟨D,_,_,hD⟩:=qk9 hm h
   have hL:=hD.look
   rw[q54 O h.ok h.vl]
   simp only[Option.bind_some]
   have e2:=ql5 hm h hU (L:=fun i j=>(D.getD i []).getD j 0) hL m 0 O O (fun a b ha=>absurd ha (Nat.not_lt_zero _))
   have e1:=ql1 hm h hU (L:=fun i j=>(D.getD i []).getD j 0) hL m 0 O (Nat.zero_le _)
   rw[Int.natCast_zero]at e1 e2
   rcases e1 with⟨e1,q1⟩|⟨e1,q1⟩
   · have hS:SymP R (fun i j=>(D.getD i []).getD j 0):=fun i j hi hj=>by
      rw[List.drop_zero]at q1
      rcases hL i j hi hj with g|⟨g,g2⟩
      · have:=q1 _ g
        simpa only[Int.toNat_natCast]using this
      · rcases hL j i hj hi with g'|⟨g',_⟩
        · have:=q1 _ g'
          simp only[Int.toNat_natCast]at this
          exact this.symm
        · show keyF ((D.getD i []).getD j 0)=keyF ((D.getD j []).getD i 0)
          rw[g,g']
     rcases e2 with⟨e2,_⟩|⟨_,q2⟩
     · rw[e1,e2];exact⟨true,rfl,rfl⟩
     · exact absurd hS q2
   · rcases e2 with⟨_,q2⟩|⟨e2,_⟩
     · exact absurd q2 q1
     · rw[e1,e2];exact⟨false,rfl,rfl⟩
 · simp only[hrc,if_false]
   exact⟨false,rfl,rfl⟩
theorem rDSg {m:Nat} (hm:3000000<m) {z e:Int} (h:OkD z e):g100 m (mkD z e).1 (mkD z e).2.1 (mkD z e).2.2.1 (mkD z e).2.2.2.1=some (sgn z,(),()):=by
 rw[g100,Jf hm]
 simp only[Option.bind_some,ql8]
 rw[decide_eq_false (fun c=>c h),cond_false,qfj hm h];rfl
theorem qk5 {m:Nat} (hm:3000000<m) {V:List Int} (hl:V.length≤100000) (hU: ∀v∈V,U64 v∧FinF v) (a0 a1:Int) (a2 a3:List Int): ∀(n k:Nat) (s:Int) (sm:Bool),V.length-k<n→k≤V.length→ShfOK (V.take k) s (!sm)→
 ∃s',g43_L0 m n a0 a1 a2 a3 V s sm (k:Int)=some (.inl ((a0,a1,a2,a3,V,()),s',()))∧ ∃f',ShfOK V s' f'
 |0,k,s,fst,h,_,_=>O
 |n+1,k,s,sm,h,hk0,hS=>by
  rw[g43_L0,bif_decide]
  by_cases hk:k<V.length
  · have hmem:V.getD k 0∈V:=Qw hk
    obtain⟨hu,hf⟩:=hU _ hmem
    have ht:=take_snoc (l:=V) hk (x:=V.getD k 0) rfl
    have ws:w_i64 ((k:Int)+1)=((k+1:Nat):Int):=wsucc O
    have hsg:=rDSg hm (val_ok hf)
    rw[if_pos O,if_pos O,Int.toNat_natCast,ws]
    obtain⟨v,hv⟩: ∃v,v=V.getD k 0:=⟨_,rfl⟩
    rw[←hv]at hu hf ht hsg hmem⊢
    rw[qi4 hm hu,Option.bind_some]
    dsimp only
    have hfx:(ofD v).2.2.2.1=fx v:=rfl
    rw[←q1v hf]at hsg
    rw[hsg,Option.bind_some,bif_ne,hfx]
    dsimp only
    by_cases z:sgn (valF v)=0
    · have z0:=Xd.1 z
      rw[if_pos z]
      refine qk5 hm hl hU a0 a1 a2 a3 n (k+1) s sm O O ?_
      rw[ht]
      refine⟨fun h=>⟨(hS.a h).1,fun x hx=> ?_⟩,fun h=>⟨?_,fun x hx hx0=> ?_⟩⟩
      · rcases List.mem_append.1 hx with hx|hx
        · exact(hS.a h).2 x hx
        · rw[List.mem_singleton]at hx;subst hx;exact z0
      · obtain⟨y,y1,y2⟩:=(hS.b h).1
        exact⟨y,List.mem_append.2 (.inl y1),y2⟩
      · rcases List.mem_append.1 hx with hx|hx
        · exact(hS.b h).2 x hx hx0
        · rw[List.mem_singleton]at hx;subst hx;exact absurd z0 hx0
    · have z0:valF v≠0:=fun h=>z (Xd.2 h)
      rw[if_neg z]
      cases sm with
      |false=>
       rw[Bool.not_false,cond_true]
       refine qk5 hm hl hU a0 a1 a2 a3 n (k+1) (fx v) true O O ?_
       rw[ht]
       refine⟨fun h=>Bool.noConfusion h,fun _=>⟨⟨v,List.mem_append.2 (.inr (List.mem_singleton.2 rfl)),z0,rfl⟩,fun x hx hx0=> ?_⟩⟩
       rcases List.mem_append.1 hx with hx|hx
       · exact absurd ((hS.a rfl).2 x hx) hx0
       · rw[List.mem_singleton]at hx;subst hx;exact Int.le_refl _
      |true=>
       obtain⟨⟨y,y1,y2,y3⟩,y4⟩:=hS.b rfl
       rw[Bool.not_true,cond_false,bif_decide]
       by_cases c:fx v<s
       · rw[if_pos c]
         refine qk5 hm hl hU a0 a1 a2 a3 n (k+1) (fx v) true O O ?_
         rw[ht]
         refine⟨fun h=>Bool.noConfusion h,fun _=>⟨⟨v,List.mem_append.2 (.inr (List.mem_singleton.2 rfl)),z0,rfl⟩,fun x hx hx0=> ?_⟩⟩
         rcases List.mem_append.1 hx with hx|hx
         · have:=y4 x hx hx0;omega
         · rw[List.mem_singleton]at hx;subst hx;exact Int.le_refl _
       · rw[if_neg c]
         refine qk5 hm hl hU a0 a1 a2 a3 n (k+1) s true O O ?_
         rw[ht]
         refine⟨fun h=>Bool.noConfusion h,fun _=>⟨⟨y,List.mem_append.2 (.inl y1),y2,y3⟩,fun x hx hx0=> ?_⟩⟩
         rcases List.mem_append.1 hx with hx|hx
         · exact y4 x hx hx0
         · rw[List.mem_singleton]at hx;subst hx;omega
  · rw[if_neg O]
    rw[List.take_of_length_le O]at hS
    exact⟨s,rfl,_,hS⟩
theorem ShfOK.uniq {l:List Int} {s s':Int} {f f':Bool} (h:ShfOK l s f) (h':ShfOK l s' f'):s=s':=by
 cases f with
 |true=>
  obtain⟨a1,a2⟩:=h.a rfl
  cases f' with
  |true=>rw[a1,(h'.a rfl).1]
  |false=>
   obtain⟨⟨v,v1,v2,_⟩,_⟩:=h'.b rfl
   exact absurd (a2 v v1) v2
 |false=>
  obtain⟨⟨v,v1,v2,v3⟩,v4⟩:=h.b rfl
  cases f' with
  |true=>exact absurd ((h'.a rfl).2 v v1) v2
  |false=>
   obtain⟨⟨w,w1,w2,w3⟩,w4⟩:=h'.b rfl
   have:=v4 w w1 w2
   have:=w4 v v1 v2
   omega
theorem EqD.inj {q q' s z e:Int} (h:EqD q s z e) (h':EqD q' s z e):q=q':=by
 obtain⟨b,h1,_,h2⟩:=h.trans h'.symm
 unfold Vs.F.sc at h2
 exact qda h2
def cellQ (v s:Int):Int:=zv (ofD v).2.1 (ofD v).2.2.1*2^(fx v-s).toNat
theorem qle {v s:Int} (hf:FinF v) (hs:valF v≠0→s≤fx v) (hb:valF v=0→True):valF v≠0→EqD (cellQ v s) s (valF v) (-1074):=fun hz=>by
 obtain⟨w,kn,d1,d2,d3⟩:=qkw hf
 unfold cellQ
 rw[d2,d3,zv_zB]
 have:=EqD.sc (z:=w) (e:=fx v) (b:=s) (hs hz)
 exact this.trans kn.eq
theorem qkr {m:Nat} (hm:3000000<m) (hC:C≤200) (S I V:List Int) {s:Int} (hsb: -65536≤s∧s≤65536) {D:List (List Int)} {i:Nat} (hi:i<D.length) (hrow:(D.getD i []).length=C) (hD: ∀j,j<C→(U64 ((D.getD i []).getD j 0)∧FinF ((D.getD i []).getD j 0))∧(valF ((D.getD i []).getD j 0)≠0→s≤fx ((D.getD i []).getD j 0))) (R0:Int) (G:List (List BG)):
 ∀(n k:Nat) (l:List BG),C-k<n→k≤C→l.length=k→(∀j,j<k→(valF ((D.getD i []).getD j 0)=0→l.getD j (false,[])=zG 0)∧(valF ((D.getD i []).getD j 0)≠0→l.getD j (false,[])=zG (cellQ ((D.getD i []).getD j 0) s)))→
 ∃l',g43_L2 m n R0 (C:Int) S I V s D G (i:Int) l (k:Int)=some (.inl ((R0,(C:Int),S,I,V,()),s,D,G,(i:Int),l',()))∧l'.length=C∧
  ∀j,j<C→(valF ((D.getD i []).getD j 0)=0→l'.getD j (false,[])=zG 0)∧(valF ((D.getD i []).getD j 0)≠0→l'.getD j (false,[])=zG (cellQ ((D.getD i []).getD j 0) s))
 |0,k,l,h,_,_,_=>O
 |n+1,k,l,h,hk0,hl,hq=>by
  rw[g43_L2,bif_decide]
  by_cases hk:k<C
  · have c1:(0:Int)≤(i:Int)∧(i:Int)<(D.length:Int):=O
    have c2:(0:Int)≤(k:Int)∧(k:Int)<((D.getD i []).length:Int):=O
    obtain⟨⟨hu,hf⟩,hs⟩:=hD k hk
    have hsg:=rDSg hm (val_ok hf)
    rw[←q1v hf]at hsg
    rw[if_pos O]
    simp only[c1,c2,and_self,if_true,Int.toNat_natCast]
    obtain⟨v,hv⟩: ∃v,(D.getD i []).getD k 0=v:=⟨_,rfl⟩
    rw[hv]at hu hf hs hsg
    simp only[hv,qi4 hm hu,Option.bind_some,hsg,bif_eq,w_i64_eq,wsucc (show k<4611686018427387904 by omega)]
    have hap: ∀(x:BG) (j:Nat),(l++[x]).getD j (false,[])=if j=k then x else l.getD j (false,[]):=fun x j=>by
     by_cases e:j=k
     · subst e;rw[if_pos rfl,←hl];simp[List.getD]
     · rw[if_neg e]
       by_cases c:j<k
       · simp[List.getD,List.getElem?_append_left (show j<l.length by omega)]
       · rw[Xq (by simp;omega),Xq O]
    by_cases z:sgn (valF v)=0
    · have z0:=Xd.1 z
      rw[if_pos z,if_pos (by show l.length+1≤_;omega)]
      refine qkr hm hC S I V hsb hi hrow hD R0 G n (k+1) _ O O (by simp[hl]) fun j hj=> ?_
      rw[hap]
      by_cases e:j=k
      · subst e
        rw[if_pos rfl,hv]
        exact⟨fun _=>ql6.symm,fun c=>absurd z0 c⟩
      · rw[if_neg e];exact hq j O
    · have z0:valF v≠0:=fun h=>z (Xd.2 h)
      rw[if_neg z]
      obtain⟨w,kn,d1,d2,d3⟩:=qkw hf
      have hb:=fx_bd hf
      have hs':=hs z0
      have hfx:(ofD v).2.2.2.1=fx v:=rfl
      have hlen:=kn.len
      have e3:=q0p (m:=m) hm (z:=w) O (k:=fx v-s) O O
      have w1:IntKind.wrap .i64 (fx v-s)=fx v-s:=wi O O
      simp only[d2,d3,hfx,w1,e3,Option.bind_some]
      rw[if_pos (by show l.length+1≤_;omega)]
      refine qkr hm hC S I V hsb hi hrow hD R0 G n (k+1) _ O O (by simp[hl]) fun j hj=> ?_
      rw[hap]
      by_cases e:j=k
      · subst e
        rw[if_pos rfl,hv]
        refine⟨fun c=>absurd c z0,fun _=> ?_⟩
        unfold cellQ
        rw[d2,d3,zv_zB];rfl
      · rw[if_neg e];exact hq j O
  · rw[if_neg O]
    have:k=C:=O
    subst this
    exact⟨l,rfl,hl,hq⟩
theorem ql4 {m:Nat} (hm:3000000<m) (hR:R≤200) (hC:C≤200) (S I V:List Int) {s:Int} (hsb: -65536≤s∧s≤65536) {D:List (List Int)} (hDl:D.length=R) (hrow: ∀i,i<R→(D.getD i []).length=C) (hD: ∀i j,i<R→j<C→(U64 ((D.getD i []).getD j 0)∧FinF ((D.getD i []).getD j 0))∧(valF ((D.getD i []).getD j 0)≠0→s≤fx ((D.getD i []).getD j 0))):
 ∀(n k:Nat) (G:List (List BG)),R-k<n→k≤R→G.length=k→(∀i,i<k→(G.getD i []).length=C∧ ∀j,j<C→(valF ((D.getD i []).getD j 0)=0→(G.getD i []).getD j (false,[])=zG 0)∧(valF ((D.getD i []).getD j 0)≠0→(G.getD i []).getD j (false,[])=zG (cellQ ((D.getD i []).getD j 0) s)))→
 ∃G',g43_L1 m n (R:Int) (C:Int) S I V s D G (k:Int)=some (.inl (s,G',()))∧G'.length=R∧
  ∀i,i<R→(G'.getD i []).length=C∧ ∀j,j<C→(valF ((D.getD i []).getD j 0)=0→(G'.getD i []).getD j (false,[])=zG 0)∧(valF ((D.getD i []).getD j 0)≠0→(G'.getD i []).getD j (false,[])=zG (cellQ ((D.getD i []).getD j 0) s))
 |0,k,G,h,_,_,_=>O
 |n+1,k,G,h,hk0,hl,hq=>by
  rw[g43_L1,bif_decide]
  by_cases hk:k<R
  · obtain⟨l',e,l1,l2⟩:=qkr hm hC S I V hsb (D:=D) (i:=k) O (hrow k hk) (fun j hj=>hD k j hk hj) (R:Int) G m 0 [] O O rfl (fun j hj=>absurd hj (Nat.not_lt_zero _))
    rw[Int.natCast_zero]at e
    rw[if_pos O,e]
    simp only[Option.bind_some,w_i64_eq,wsucc (show k<4611686018427387904 by omega)]
    rw[if_pos (by simp;omega)]
    have hap: ∀i,(G++[l']).getD i []=if i=k then l' else G.getD i []:=fun i=>by
     by_cases e:i=k
     · subst e;rw[if_pos rfl,←hl];simp[List.getD]
     · rw[if_neg e]
       by_cases c:i<k
       · simp[List.getD,List.getElem?_append_left (show i<G.length by omega)]
       · rw[Xq (by simp;omega),Xq O]
    refine ql4 hm hR hC S I V hsb hDl hrow hD n (k+1) _ O O (by simp[hl]) fun i hi=> ?_
    rw[hap]
    by_cases ei:i=k
    · subst ei;rw[if_pos rfl];exact⟨l1,l2⟩
    · rw[if_neg ei];exact hq i O
  · rw[if_neg O]
    have:k=R:=O
    subst this
    exact⟨G,rfl,hl,hq⟩
theorem qki {m:Nat} (hm:3000000<m) (h:MV R C S I V) (hU: ∀x∈V,U64 x): ∃G s e,g26 m (R:Int) (C:Int) S I V=some ((G,s,e,()),(),())∧g43 m (R:Int) (C:Int) S I V=some ((G,s,e,()),(),())∧
 G.length≤1000∧ ∀i,i<G.length→(G.getD i []).length≤1000∧ ∀j,j<(G.getD i []).length→((G.getD i []).getD j (false,[])).2.length≤1000000:=by
 have hsz:=h.ok.sz
 have hrz:=h.ok.rz
 have hcz:=h.ok.cz
 have hv:=h.vl
 have hsl:=h.sl
 have hl:=h.len
 have hck:=g44_eq (m:=m) (R:=(R:Int)) (C:=(C:Int)) (S:=S) (I:=I) (V:=V) O O O O O
 have hck2:=X4 (m:=m) (R:=(R:Int)) (C:=(C:Int)) (S:=S) (I:=I) (V:=V) O O O
 rw[h.chk]at hck hck2
 by_cases hR:(R:Int)>16
 · refine⟨[],0,6,?_,?_,by simp,fun i hi=>absurd hi (Nat.not_lt_zero _)⟩
   · rw[g26,hck];simp only[Option.bind_some,bif_ne,if_true,bif_decide,if_pos hR]
   · rw[g43,hck2];simp only[Option.bind_some,bif_ne,if_true,bif_decide,if_pos hR]
 by_cases hC:(C:Int)>16
 · refine⟨[],0,6,?_,?_,by simp,fun i hi=>absurd hi (Nat.not_lt_zero _)⟩
   · rw[g26,hck];simp only[Option.bind_some,bif_ne,if_true,bif_decide,if_neg hR,if_pos hC]
   · rw[g43,hck2];simp only[Option.bind_some,bif_ne,if_true,bif_decide,if_neg hR,if_pos hC]
 obtain⟨G,s,e1,hG,⟨f,hS⟩,sb⟩:=qkt hm h hU O O
 obtain⟨D,_,eD,hD⟩:=qk9 hm h
 have hfin:=h.fin' hU
 obtain⟨s',e0,f',hS'⟩:=qk5 hm O hfin (R:Int) (C:Int) S I m 0 0 false O O ⟨fun _=>⟨rfl,fun v hv=>by cases hv⟩,fun h=>Bool.noConfusion h⟩
 rw[Int.natCast_zero]at e0
 have hss:=hS.uniq hS'
 subst hss
 have hcell: ∀i j,i<R→j<C→(U64 ((D.getD i []).getD j 0)∧FinF ((D.getD i []).getD j 0))∧(valF ((D.getD i []).getD j 0)≠0→s≤fx ((D.getD i []).getD j 0)):=fun i j hi hj=>by
  have hlk:=hD.look i j hi hj
  refine⟨qk8 h hU hlk,fun hz=> ?_⟩
  rcases hlk with g|⟨g,_⟩
  · have hev:=qbn h.ok h.vl C 0 O _ g
    cases f with
    |true=>exact absurd ((hS.a rfl).2 _ hev) hz
    |false=>exact(hS.b rfl).2 _ hev hz
  · rw[g]at hz;exact absurd qkd hz
 obtain⟨G',e2,g1,g2⟩:=ql4 hm hrz hcz S I V sb (D:=D) hD.len hD.row hcell m 0 [] O O rfl (fun i hi=>absurd hi (Nat.not_lt_zero _))
 rw[Int.natCast_zero]at e2
 have hGG:G'=G:=by
  refine qgx [] (by rw[g1,hG.r]) fun i hi=> ?_
  have hi':i<R:=O
  refine qgx (false,[]) (by rw[(g2 i hi').1,hG.c i hi']) fun j hj=> ?_
  have hj':j<C:=by rw[(g2 i hi').1]at hj;exact hj
  obtain⟨q,q1,q2,_⟩:=hG.q i j hi' hj' _ (hD.look i j hi' hj')
  obtain⟨c1,c2⟩:=(g2 i hi').2 j hj'
  rw[q2]
  by_cases hz:valF ((D.getD i []).getD j 0)=0
  · rw[c1 hz]
    rw[hz]at q1
    have:=EqD.inj q1 (EqD.zero s (-1074))
    rw[this]
  · rw[c2 hz]
    have h3:=hcell i j hi' hj'
    rw[EqD.inj q1 (qle h3.1.2 h3.2 (fun _=>trivial) hz)]
 subst hGG
 refine⟨G',s,0,e1,?_,by rw[g1];omega,fun i hi=> ?_⟩
 · rw[g43,hck2]
   simp only[Option.bind_some,bif_ne,if_true,bif_decide,if_neg hR,if_neg hC]
   rw[e0]
   simp only[Option.bind_some]
   rw[eD]
   simp only[Option.bind_some]
   rw[e2];rfl
 · have hi':i<R:=O
   rw[hG.c i hi']
   refine⟨O,fun j hj=> ?_⟩
   obtain⟨q,q1,q2,q3,_⟩:=hG.q i j hi' hj _ (hD.look i j hi' hj)
   rw[q2]
   have:=q05 q3
   show(zB q).2.1.length≤_
   omega
end Go.Vs.F
set_option maxRecDepth 100000
namespace Go.Vs.F
theorem qkc (m:Nat) (a:List Int) (hb:a.length≤1000000000): ∀(n k:Nat),k≤a.length→a.length-k<n→g98_L0 m n a (a.take k) (k:Int)=some (.inl (a,()))
 |0,k,_,h=>O
 |n+1,k,hk0,h=>by
  rw[g98_L0]
  by_cases hk:k<a.length
  · have h1:((k:Int)<(a.length:Int)):=O
    have h2:(a.take k).length+1≤1073741824:=by rw[List.length_take];omega
    simp only[bif_decide,h1,if_true,Int.toNat_natCast,Int.natCast_nonneg,and_self,wsucc (show k<4611686018427387904 by omega),List.length_singleton,h2]
    rw[←take_snoc hk rfl,qkc m a hb n (k+1) hk O]
  · have h1: ¬((k:Int)<(a.length:Int)):=O
    simp only[bif_decide,h1,if_false]
    rw[List.take_of_length_le O]
theorem qka {m:Nat} {a:List Int} (h:a.length<m) (hb:a.length≤1000000000):g98 m a=some (a,(),()):=by
 rw[g98]
 have:=qkc m a hb m 0 O O
 simp only[Int.cast_ofNat_Int,List.take_zero,Int.natCast_zero,Int.ofNat_zero]at this
 rw[this];rfl
theorem qk6 (m:Nat) (a:List Int) (hb:a.length≤1000000000): ∀(n k:Nat),k≤a.length→a.length-k<n→g99_L0 m n a (a.take k) (k:Int)=some (.inl (a,()))
 |0,k,_,h=>O
 |n+1,k,hk0,h=>by
  rw[g99_L0]
  by_cases hk:k<a.length
  · have h1:((k:Int)<(a.length:Int)):=O
    have h2:(a.take k).length+1≤1073741824:=by rw[List.length_take];omega
    simp only[bif_decide,h1,if_true,Int.toNat_natCast,Int.natCast_nonneg,and_self,wsucc (show k<4611686018427387904 by omega),List.length_singleton,h2]
    rw[←take_snoc hk rfl,qk6 m a hb n (k+1) hk O]
  · have h1: ¬((k:Int)<(a.length:Int)):=O
    simp only[bif_decide,h1,if_false]
    rw[List.take_of_length_le O]
theorem qkj {m:Nat} {a:List Int} (h:a.length<m) (hb:a.length≤1000000000):g99 m a=some (a,(),()):=by
 rw[g99]
 have:=qk6 m a hb m 0 O O
 simp only[Int.cast_ofNat_Int,List.take_zero,Int.natCast_zero,Int.ofNat_zero]at this
 rw[this];rfl
theorem qkh {m:Nat} {a b:Int} {S I V:List Int} (h1:S.length<m) (h2:I.length<m) (h3:V.length<m) (h4:S.length≤1000000000) (h5:I.length≤1000000000) (h6:V.length≤1000000000):
 g40 m a b S I V=some ((a,b,S,I,V,()),(),()):=by
 rw[g40,qka h1 h4,qka h2 h5,qkj h3 h6];rfl
theorem qko {m:Nat} {l:List Ent} (hm:l.length<m) (hl:l.length≤100000):g46 m l l=some (true,(),(),()):=by
 have h: ∀(n k:Nat),l.length-k<n→g46_L0 m n l l (k:Int)=some (.inr (.inl ())):=by
  intro n
  induction n with
  |zero=>intro k h;omega
  |succ n ih=>
   intro k h
   rw[g46_L0,bif_decide]
   by_cases hk:k<l.length
   · rw[if_pos O,if_pos O,if_pos O]
     simp only[beq_self_eq_true,Bool.and_self,Bool.not_true,cond_false,w_i64_eq,wsucc (show k<4611686018427387904 by omega)]
     exact ih (k+1) O
   · rw[if_neg O]
 have:=h m 0 O
 rw[Int.natCast_zero]at this
 rw[g46,bif_ne,if_pos rfl,this];rfl
theorem ql2 {m:Nat} (hm:3000000<m) {l:List BG} (hl:l.length≤1000) (hb: ∀j,j<l.length→(l.getD j (false,[])).2.length≤1000000):g105 m l l=some (true,(),(),()):=by
 have h: ∀(n k:Nat),l.length-k<n→g105_L0 m n l l (k:Int)=some (.inr (.inl ())):=by
  intro n
  induction n with
  |zero=>intro k h;omega
  |succ n ih=>
   intro k h
   rw[g105_L0,bif_decide]
   by_cases hk:k<l.length
   · rw[if_pos O,if_pos O,if_pos O]
     simp only[Int.toNat_natCast]
     rw[g79,beq_self_eq_true,cond_true,qkz (hb k hk) O]
     simp only[Option.bind_some,Bool.not_true,cond_false,w_i64_eq,wsucc (show k<4611686018427387904 by omega)]
     exact ih (k+1) O
   · rw[if_neg O]
 have:=h m 0 O
 rw[Int.natCast_zero]at this
 rw[g105,bif_ne,if_pos rfl,this];rfl
theorem ql3 {m:Nat} (hm:3000000<m) {G:List (List BG)} (hl:G.length≤1000) (hb: ∀i,i<G.length→(G.getD i []).length≤1000∧ ∀j,j<(G.getD i []).length→((G.getD i []).getD j (false,[])).2.length≤1000000):g49 m G G=some (true,(),(),()):=by
 have h: ∀(n k:Nat),G.length-k<n→g49_L0 m n G G (k:Int)=some (.inr (.inl ())):=by
  intro n
  induction n with
  |zero=>intro k h;omega
  |succ n ih=>
   intro k h
   rw[g49_L0,bif_decide]
   by_cases hk:k<G.length
   · rw[if_pos O,if_pos O,if_pos O]
     simp only[Int.toNat_natCast]
     rw[ql2 hm (hb k hk).1 (hb k hk).2]
     simp only[Option.bind_some,Bool.not_true,cond_false,w_i64_eq,wsucc (show k<4611686018427387904 by omega)]
     exact ih (k+1) O
   · rw[if_neg O]
 have:=h m 0 O
 rw[Int.natCast_zero]at this
 rw[g49,bif_ne,if_pos rfl,this];rfl
theorem qku {m:Nat} (hm:3000000<m) {D:List (List Int)} (hl:D.length≤1000) (hb: ∀i,i<D.length→(D.getD i []).length≤1000) (a0 a1 b0 b1:Int) (a2 a3 a4 b2 b3 b4:List Int) (hm2:m<4611686018427387904): ∀(n k:Nat),D.length-k<n→
 sparselaw09_MatrixParts_L0 m n a0 a1 a2 a3 a4 b0 b1 b2 b3 b4 D D (k:Int)=some (.inr (.inl ((a0,a1,a2,a3,a4,()),(b0,b1,b2,b3,b4,()),())))
 |0,k,h=>O
 |n+1,k,h=>by
  rw[sparselaw09_MatrixParts_L0,bif_decide]
  by_cases hk:k<D.length
  · have:=hb k hk
    rw[if_pos O,if_pos O,if_pos O]
    simp only[Int.toNat_natCast]
    rw[q4d O O]
    simp only[Option.bind_some,Bool.not_true,cond_false,w_i64_eq,wsucc (show k<4611686018427387904 by omega)]
    exact qku hm hl hb a0 a1 b0 b1 a2 a3 a4 b2 b3 b4 hm2 n (k+1) O
  · rw[if_neg O]
theorem qkb (R C:Int) (S I V:List Int) (i j:Int) (hU: ∀x∈V,U64 x): ∃m,sparselaw09_MatrixParts m R C S I V i j=some (true,(),(),(),()):=by
 refine⟨4000000,?_⟩
 generalize hm0:(4000000:Nat)=m
 have hm:3000000<m:=O
 have hm2:m<4611686018427387904:=O
 clear hm0
 obtain⟨z,es,hz⟩:=qhr m R C S I V
 rw[sparselaw09_MatrixParts,es]
 simp only[Option.bind_some]
 cases z with
 |false=>
  simp only[Bool.not_false,cond_true]
  rw[qfw O];rfl
 |true=>
  obtain⟨l1,l2,l3⟩:=hz rfl
  simp only[Bool.not_true,cond_false]
  rw[qkh O O O O O O]
  simp only[Option.bind_some]
  have e1:=g44_eq (m:=m) (R:=R) (C:=C) (S:=S) (I:=I) (V:=V) O O O O O
  have e2:=X4 (m:=m) (R:=R) (C:=C) (S:=S) (I:=I) (V:=V) O O O
  have fin: ∀(D:List (List Int)) (G:List (List BG)) (s e1' e2' c v:Int) (b:Bool) (L:List Ent),D.length≤1000→(∀i,i<D.length→(D.getD i []).length≤1000)→G.length≤1000→(∀i,i<G.length→(G.getD i []).length≤1000∧ ∀j,j<(G.getD i []).length→((G.getD i []).getD j (false,[])).2.length≤1000000)→L.length≤100000→
   g41 m R C S I V=some ((D,e1',()),(),())→g42 m R C S I V=some ((D,e1',()),(),())→g26 m R C S I V=some ((G,s,e2',()),(),())→g43 m R C S I V=some ((G,s,e2',()),(),())→
   g44 m R C S I V=some (c,(),())→g45 m R C S I V=some (c,(),())→g47 m R C S I V=some (L,(),())→g48 m R C S I V=some (L,(),())→
   g30 m R C S I V i j=some (v,(),(),(),())→g38 m R C S I V i j=some (v,(),(),(),())→g50 m R C S I V=some (b,(),())→g51 m R C S I V=some (b,(),())→
   ((g41 m R C S I V).bind fun y4=>
  (g42 m R C S I V).bind fun y5=>
  (g26 m R C S I V).bind fun y6=>
  (g43 m R C S I V).bind fun y7=>
  (g44 m R C S I V).bind fun y8=>
  (g45 m R C S I V).bind fun y9=>
  bif y8.1 !=y9.1 then
   some (false,((),(),(),()))
  else
   (g47 m R C S I V).bind fun y10=>
   (g48 m R C S I V).bind fun y11=>
   (g46 m y10.1 y11.1).bind fun y12=>
   bif !y12.1 then
    some (false,((),(),(),()))
   else
    (g30 m R C S I V i j).bind fun y13=>
    (g38 m R C S I V i j).bind fun y14=>
    bif y13.1 !=y14.1 then
     some (false,((),(),(),()))
    else
     bif y4.1.2.1 !=y5.1.2.1 then
      some (false,((),(),(),()))
     else
      bif (y4.1.1.length:Int) !=(y5.1.1.length:Int)then
       some (false,((),(),(),()))
      else
       bif y6.1.2.2.1 !=y7.1.2.2.1 then
        some (false,((),(),(),()))
       else
        bif y6.1.2.1 !=y7.1.2.1 then
         some (false,((),(),(),()))
        else
         (g49 m y6.1.1 y7.1.1).bind fun y15=>
         bif !y15.1 then
          some (false,((),(),(),()))
         else
          (g50 m R C S I V).bind fun y16=>
          (g51 m R C S I V).bind fun y17=>
          bif !(y16.1==y17.1)then
           some (false,((),(),(),()))
          else
           (sparselaw09_MatrixParts_L0 m m R C S I V R C S I V y4.1.1 y5.1.1 0).bind fun y18=>
           match y18 with
           | .inl z19=>
             some (z19.1,((),(),(),()))
           | .inr (.inl z20)=>
             (g52 m z20.2.1.1 z20.2.1.2.1 z20.2.1.2.2.1 z20.2.1.2.2.2.1 z20.2.1.2.2.2.2.1 z20.1.1 z20.1.2.1 z20.1.2.2.1 z20.1.2.2.2.1 z20.1.2.2.2.2.1).bind fun y21=>
             bif y21.1 then
              (sparselaw09_awake m).bind fun y22=>
              some (y22.1,((),(),(),()))
             else
              some (false,((),(),(),()))
           | .inr (.inr e)=>
             e.elim)=some (true,(),(),(),()):=by
   intro D G s e1' e2' c v b L d1 d2 g1 g2 hL q1 q2 q3 q4 q5 q6 q7 q8 q9 q10 q11 q12
   have hP:=qku hm d1 d2 R C R C S I V S I V hm2 m 0 O
   rw[Int.natCast_zero]at hP
   rw[q1,q2,q3,q4,q5,q6,q7,q8,q9,q10,q11,q12]
   simp only[Option.bind_some,bif_ne,if_true]
   rw[qko O hL]
   simp only[Option.bind_some,Bool.not_true,cond_false]
   rw[ql3 hm g1 g2]
   simp only[Option.bind_some,Bool.not_true,cond_false,beq_self_eq_true]
   rw[hP]
   simp only[Option.bind_some]
   rw[qks O O O hm2]
   simp only[Option.bind_some,cond_true]
   rw[qfw O];rfl
  by_cases hk:chk R C S I V=0
  · obtain⟨r,c,rfl,rfl,hM,hvl,hfin⟩:=qid hk
    have h:MV r c S I V:=⟨hM,hvl,hk⟩
    have hrz:=hM.rz
    have hcz:=hM.cz
    have hel:=h.len
    obtain⟨D,d1,d2,hD⟩:=qk9 hm h
    obtain⟨G,s,e,g1,g2,g3,g4⟩:=qki hm h hU
    obtain⟨v,v1,v2⟩:=qlg hm h i j
    obtain⟨b,b1,b2⟩:=qkf hm h hU
    refine fin D G s 0 e 0 v b (ents S I V c 0) (by rw[hD.len];omega) (fun k hk=>by rw[hD.row k (by rw[hD.len]at hk;exact hk)];omega) g3 g4 O d1 d2 g1 g2 (by rw[e1,hk]) (by rw[e2,hk]) ?_ ?_ v1 v2 b1 b2
    · rw[g47,e1,hk]
      simp only[Option.bind_some,bif_ne,if_true]
      rw[q54 O h.ok h.vl];rfl
    · exact q6l O h.ok h.vl h.chk
  · refine fin [] [] 0 (chk R C S I V) (chk R C S I V) (chk R C S I V) 0 false [] (by simp) (fun k hk=>absurd hk (Nat.not_lt_zero _)) (by simp) (fun k hk=>absurd hk (Nat.not_lt_zero _)) (by simp) ?_ ?_ ?_ ?_ e1 e2 ?_ ?_ ?_ ?_ ?_ ?_
    · rw[g41,e1,Option.bind_some,bif_ne,if_neg hk]
    · rw[g42,e2,Option.bind_some,bif_ne,if_neg hk]
    · rw[g26,e1,Option.bind_some,bif_ne,if_neg hk]
    · rw[g43,e2,Option.bind_some,bif_ne,if_neg hk]
    · rw[g47,e1,Option.bind_some,bif_ne,if_neg hk]
    · rw[g48,e2,Option.bind_some,bif_ne,if_neg hk]
    · rw[g30,e1,Option.bind_some,bif_ne,if_neg hk]
    · rw[g38,e2,Option.bind_some,bif_ne,if_neg hk]
    · rw[g50,e1,Option.bind_some,bif_ne,if_neg hk]
    · rw[g51,e2,Option.bind_some,bif_ne,if_neg hk]
end Go.Vs.F
