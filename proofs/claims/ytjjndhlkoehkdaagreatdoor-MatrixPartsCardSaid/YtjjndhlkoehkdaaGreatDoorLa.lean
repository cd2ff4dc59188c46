/-Matrices:checks,entries,building,permuting (turned from the matching laws). -/
import Derived.Test.YtjjndhlkoehkdaaGreatDoorVc
import Derived.Test.YtjjndhlkoehkdaaGreatDoorFn
set_option linter.unusedVariables false
set_option linter.unusedSimpArgs false
set_option maxRecDepth 100000
namespace Go.Vs.F
section
theorem qip (m:Nat) (a b:List Int) (hl:a.length=b.length) (hb:a.length<4611686018427387904): ∀(n k:Nat),a.length-k<n→
 g56_L0 m n a b (k:Int)=some (if a.drop k=b.drop k then .inr (.inl ())else .inl (false,()))
 |0,k,h=>O
 |n+1,k,h=>by
  rw[g56_L0]
  by_cases hk:k<a.length
  · have hk':k<b.length:=O
    have h1:((k:Int)<(a.length:Int)):=O
    have h2:((k:Int)<(b.length:Int)):=O
    simp only[bif_decide,h1,h2,if_true,bif_ne,Int.toNat_natCast,Int.natCast_nonneg,and_self,wsucc (show k<4611686018427387904 by omega)]
    rw[drop_cons (d:=0) hk,drop_cons (d:=0) hk',qip m a b hl hb n (k+1) O]
    by_cases e:a.getD k 0=b.getD k 0
    · simp only[e,if_true,List.cons.injEq,true_and]
    · simp only[e,if_false,List.cons.injEq,false_and]
  · have h1: ¬((k:Int)<(a.length:Int)):=O
    simp only[bif_decide,h1,if_false]
    rw[drop_nil' hk,drop_nil' (by omega: ¬k<b.length)];simp
theorem qlf {m:Nat} {a b:List Int} (h:a.length<m) (hb:a.length<4611686018427387904):g56 m a b=some (decide (a=b),(),(),()):=by
 rw[g56]
 by_cases hl:a.length=b.length
 · have:=qip m a b hl hb m 0 O
   simp only[Int.natCast_zero,Int.ofNat_zero,Int.cast_ofNat_Int]at this
   have h1:(a.length:Int)=(b.length:Int):=O
   simp only[h1,bif_ne,if_true,List.drop_zero]at this⊢
   rw[this]
   by_cases e:a=b<;>simp[e]
 · have h1: ¬(a.length:Int)=(b.length:Int):=O
   have e: ¬a=b:=fun e=>hl (by rw[e])
   simp only[bif_ne,h1,if_false,e,decide_false]
theorem qi0 {x:Int}:0≤qx .u64 x 2047∧qx .u64 x 2047<2048:=by
 unfold qx
 have h:(BitVec.ofInt IntKind.u64.bits x&&&BitVec.ofInt IntKind.u64.bits 2047).toNat<2048:=by
  rw[BitVec.toNat_and]
  have:(BitVec.ofInt IntKind.u64.bits 2047).toNat=2047:=by decide
  rw[this]
  exact Nat.lt_of_le_of_lt Nat.and_le_right (by decide)
 generalize (BitVec.ofInt IntKind.u64.bits x&&&BitVec.ofInt IntKind.u64.bits 2047).toNat=y at h
 rw[wu O O];omega
def finB (x:Int):Bool:=qx .u64 (shr_ .u64 x 52) 2047 !=2047
theorem q3k {m:Nat} {x:Int}:g58 m x=some (finB x,(),()):=by
 rw[g58,g81]
 have:=qi0 (x:=shr_ .u64 x 52)
 simp only[Option.bind_some,wi (show(-9223372036854775808:Int)≤qx .u64 (shr_ .u64 x 52) 2047 by omega) O]
 rfl
theorem q9f (m:Nat) (a:List Int) (hb:a.length<4611686018427387904): ∀(n k:Nat),a.length-k<n→
 g68_L0 m n a (k:Int)=some (bif Q7 (fun i=>finB (a.getD i 0)) k a.length then .inr (.inl ())else .inl (false,()))
 |0,k,h=>O
 |n+1,k,h=>by
  rw[g68_L0]
  by_cases hk:k<a.length
  · have h1:((k:Int)<(a.length:Int)):=O
    simp only[bif_decide,h1,if_true,Int.toNat_natCast,Int.natCast_nonneg,and_self,wsucc (show k<4611686018427387904 by omega),g63,Option.bind_some]
    rw[Qr hk,q9f m a hb n (k+1) O]
    show(bif !(finB (a.getD k 0))then _ else _)=_
    cases finB (a.getD k 0)<;>simp
  · have h1: ¬((k:Int)<(a.length:Int)):=O
    simp only[bif_decide,h1,if_false]
    rw[X3 hk];rfl
def finL (a:List Int):Bool:=Q7 (fun i=>finB (a.getD i 0)) 0 a.length
theorem q0u {m:Nat} {a:List Int} (h:a.length<m) (hb:a.length<4611686018427387904):g68 m a=some (finL a,(),()):=by
 rw[g68]
 have:=q9f m a hb m 0 O
 simp only[Int.cast_ofNat_Int,Int.natCast_zero,Int.ofNat_zero]at this
 rw[this]
 unfold finL
 cases Q7 (fun i=>finB (a.getD i 0)) 0 a.length<;>rfl
theorem q2t (m:Nat) (a:List Int) (hb:a.length<4611686018427387904): ∀(n k:Nat),a.length-k<n→
 ∃j:Nat,g158_L0 m n a (a.length:Int) (k:Int)=some (bif Q7 (fun i=>finB (a.getD i 0)) k a.length then .inr (.inl ())else .inl ((j:Int),()))
 |0,k,h=>O
 |n+1,k,h=>by
  rw[g158_L0]
  by_cases hk:k<a.length
  · have h1:((k:Int)<(a.length:Int)):=O
    obtain⟨j,hj⟩:=q2t m a hb n (k+1) O
    simp only[bif_decide,h1,if_true,Int.toNat_natCast,Int.natCast_nonneg,and_self,wsucc (show k<4611686018427387904 by omega),g104,q3k,Option.bind_some]
    rw[Qr hk,hj]
    cases finB (a.getD k 0)
    · exact⟨k,by simp⟩
    · exact⟨j,by simp⟩
  · have h1: ¬((k:Int)<(a.length:Int)):=O
    simp only[bif_decide,h1,if_false]
    rw[X3 hk];exact⟨0,rfl⟩
theorem q4j {m:Nat} {a:List Int} (h:a.length<m) (hb:a.length<4611686018427387904):g103 m a=some (!finL a,(),(),()):=by
 rw[g103,g158]
 obtain⟨j,this⟩:=q2t m a hb m 0 O
 simp only[Int.cast_ofNat_Int,Int.natCast_zero,Int.ofNat_zero]at this
 rw[this]
 unfold finL
 cases Q7 (fun i=>finB (a.getD i 0)) 0 a.length
 · simp
 · simp
end
section
def le2 (S:List Int) (i:Nat):Bool:=decide (S.getD i 0≤S.getD (i+1) 0)
theorem q4u (m:Nat) (S:List Int) (hb:S.length<4611686018427387904): ∀(n k:Nat),k<n→k<S.length→
 g157_L0 m n S (k:Int)=some (bif Q7 (le2 S) 0 k then .inr (.inl ())else .inl (false,()))
 |0,k,h,_=>O
 |n+1,0,h,h0=>by
  rw[g157_L0]
  simp[Q7]
 |n+1,k+1,h,h0=>by
  rw[g157_L0]
  have h1:(((k+1:Nat):Int)>0):=O
  have h2:(((k+1:Nat):Int)<(S.length:Int)):=O
  have h3:((k:Int)<(S.length:Int)):=O
  have hp:IntKind.wrap .i64 (((k+1:Nat):Int)-1)=(k:Int):=by rw[wi O O];omega
  have e1:S.getD (k+1) 0≠S.getD (k+1) 0↔False:=by simp
  simp only[bif_decide,h1,h2,h3,if_true,hp,Int.toNat_natCast,Int.natCast_nonneg,and_self,g186,g168,Option.bind_some,bif_ne]
  rw[q4u m S hb n k O O]
  have e:Q7 (le2 S) 0 (k+1)=(Q7 (le2 S) 0 k&&le2 S k):=by
   rw[Bool.eq_iff_iff,Bool.and_eq_true,Q8,Q8]
   constructor
   · intro h;exact⟨fun i a b=>h i a O,h k O O⟩
   · rintro ⟨g1,g2⟩ i a b
     rcases Nat.lt_or_ge i k with h|h
     · exact g1 i a h
     · have:i=k:=O
       rw[this];exact g2
  rw[e]
  unfold le2
  by_cases hlt:S.getD (k+1) 0<S.getD k 0
  · have: ¬S.getD k 0≤S.getD (k+1) 0:=O
    simp[-List.getD_eq_getElem?_getD,hlt,this]
  · have:S.getD k 0≤S.getD (k+1) 0:=O
    simp[-List.getD_eq_getElem?_getD,hlt,this]
theorem qbk {m:Nat} {S:List Int} (h:S.length<m) (h0:0<S.length) (hb:S.length<4611686018427387904):g157 m S=some (Q7 (le2 S) 0 (S.length-1),(),()):=by
 rw[g157,show w_i64 ((S.length:Int)-1)=((S.length-1:Nat):Int) by show IntKind.wrap .i64 _=_;rw[wi O O];omega,q4u m S hb m (S.length-1) O O]
 cases Q7 (le2 S) 0 (S.length-1)<;>rfl
def ascB (R:Int):Int→List Int→Bool
 |_,[]=>true
 |l,x::xs=>(decide (l<x)&&decide (x<R))&&ascB R x xs
theorem q6i (m:Nat) (R C:Int) (S I V xs:List Int) (a b:Int) (hb:xs.length<4611686018427387904): ∀(n k:Nat) (l:Int),xs.length-k<n→
 g102_L1 m n R C S I V l a b xs (xs.length:Int) (k:Int)=some (bif ascB R l (xs.drop k)then .inr (.inl ((R,C,S,I,V,()),a,b,()))else .inl (false,()))
 |0,k,_,h=>O
 |n+1,k,l,h=>by
  rw[g102_L1]
  by_cases hk:k<xs.length
  · have h1:((k:Int)<(xs.length:Int)):=O
    simp only[bif_decide,h1,if_true,Int.toNat_natCast,Int.natCast_nonneg,and_self,wsucc (show k<4611686018427387904 by omega)]
    rw[drop_cons (d:=0) hk,q6i m R C S I V xs a b hb n (k+1) _ O,ascB]
    by_cases e1:xs.getD k 0≤l
    · have e2: ¬l<xs.getD k 0:=O
      simp[-List.getD_eq_getElem?_getD,e1,e2]
    · have e2:l<xs.getD k 0:=O
      by_cases e3:xs.getD k 0≥R
      · have e4: ¬xs.getD k 0<R:=O
        simp[-List.getD_eq_getElem?_getD,e1,e2,e3,e4]
      · have e4:xs.getD k 0<R:=O
        simp[-List.getD_eq_getElem?_getD,e1,e2,e3,e4]
  · have h1: ¬((k:Int)<(xs.length:Int)):=O
    simp only[bif_decide,h1,if_false]
    rw[drop_nil' hk];rfl
def colOf (S I:List Int) (j:Nat):List Int:=(I.drop (S.getD j 0).toNat).take ((S.getD (j+1) 0).toNat-(S.getD j 0).toNat)
structure StartOK (C:Nat) (S I:List Int):Prop where
 len:S.length=C+1
 s0:S.getD 0 0=0
 mono: ∀j,j<C→S.getD j 0≤S.getD (j+1) 0
 last:S.getD C 0=(I.length:Int)
theorem StartOK.le {C:Nat} {S I:List Int} (h:StartOK C S I): ∀{i j:Nat},i≤j→j≤C→S.getD i 0≤S.getD j 0
 |i,0,h1,h2=>by have:i=0:=O
                subst this;exact Int.le_refl _
 |i,j+1,h1,h2=>by
  rcases Nat.lt_or_ge i (j+1)with h3|h3
  · exact Int.le_trans (h.le O O) (h.mono j O)
  · have:i=j+1:=O
    subst this;exact Int.le_refl _
theorem StartOK.rng {C:Nat} {S I:List Int} (h:StartOK C S I) {j:Nat} (hj:j≤C):0≤S.getD j 0∧S.getD j 0≤(I.length:Int):=by
 have a:=h.le (Nat.zero_le j) hj
 have b:=h.le hj (Nat.le_refl C)
 rw[h.s0]at a;rw[h.last]at b
 exact⟨a,b⟩
theorem Zb {C:Nat} {S I:List Int} (h:StartOK C S I) {j:Nat} (hj:j<C):(colOf S I j).length=(S.getD (j+1) 0).toNat-(S.getD j 0).toNat:=by
 have a:=h.rng (j:=j) O
 have b:=h.rng (j:=j+1) O
 unfold colOf
 rw[List.length_take,List.length_drop];omega
theorem q9i {C:Nat} {S I:List Int} (h:StartOK C S I) {j:Nat} (hj:j<C) {k:Nat} (hk:k<(colOf S I j).length):(colOf S I j).getD k 0=I.getD ((S.getD j 0).toNat+k) 0:=by
 rw[Zb h hj]at hk
 unfold colOf
 rw[getD_take hk,getD_drop]
theorem q67 (m:Nat) (R C:Int) (c:Nat) (S I V:List Int) (hC:C=(c:Int)) (hok:StartOK c S I) (hb:I.length<4611686018427387904) (hc:c<4611686018427387904) (hm:I.length<m): ∀(n k:Nat),c-k<n→k≤c→
 g102_L0 m n R C S I V C (k:Int)=some (bif Q7 (fun j=>ascB R (-1) (colOf S I j)) k c then .inr (.inl ())else .inl (false,()))
 |0,k,h,_=>O
 |n+1,k,h,hk0=>by
  rw[g102_L0]
  subst hC
  by_cases hk:k<c
  · have h1:((k:Int)<(c:Int)):=O
    have hl:=hok.len
    have h2:((k:Int)<(S.length:Int)):=O
    have h3:(((k+1:Nat):Int)<(S.length:Int)):=O
    have a:=hok.rng (j:=k) O
    have b:=hok.rng (j:=k+1) O
    have d:=hok.mono k hk
    have hlen:(colOf S I k).length≤I.length:=by rw[Zb hok hk];omega
    simp only[bif_decide,h1,h2,h3,if_true,Int.toNat_natCast,Int.natCast_nonneg,and_self,wsucc (show k<4611686018427387904 by omega),a.1,b.2,d]
    have e:=q6i m R (c:Int) S I V (colOf S I k) (c:Int) (k:Int) O m 0 (-1) O
    simp only[Int.cast_ofNat_Int,Int.natCast_zero,Int.ofNat_zero,List.drop_zero]at e
    unfold colOf at e⊢
    rw[e,Qr hk]
    cases hA:ascB R (-1) ((I.drop (S.getD k 0).toNat).take ((S.getD (k+1) 0).toNat-(S.getD k 0).toNat))
    · simp
    · have:=q67 m R (c:Int) c S I V rfl hok hb hc hm n (k+1) O O
      unfold colOf at this
      simp only[cond_true,Bool.true_and,Option.bind_some,wsucc (show k<4611686018427387904 by omega)]
      exact this
  · have h1: ¬((k:Int)<(c:Int)):=O
    simp only[bif_decide,h1,if_false]
    rw[X3 hk];rfl
def entOK (R:Int) (S I:List Int) (j k:Nat):Bool:=
 decide (0≤I.getD k 0)&&decide (I.getD k 0<R)&&(!decide ((S.getD j 0).toNat<k)||decide (I.getD (k-1) 0<I.getD k 0))
def q1b (R:Int) (S I:List Int) (j:Nat):Bool:=Q7 (entOK R S I j) (S.getD j 0).toNat (S.getD (j+1) 0).toNat
theorem qct (R:Int) (I:List Int) (s e:Nat) (he:e≤I.length): ∀(d k:Nat) (l:Int),e-k=d→s≤k→ -1≤l→(k=s→l= -1)→(s<k→l=I.getD (k-1) 0)→
 ascB R l ((I.drop k).take (e-k))=Q7 (fun k=>decide (0≤I.getD k 0)&&decide (I.getD k 0<R)&&(!decide (s<k)||decide (I.getD (k-1) 0<I.getD k 0))) k e
 |0,k,l,hd,hk,hl,h1,h2=>by
  rw[hd,X3 O];simp[ascB]
 |d+1,k,l,hd,hk,hl,h1,h2=>by
  have hke:k<e:=O
  have hki:k<I.length:=O
  rw[Qr hke,drop_cons (d:=0) hki,hd,List.take_succ_cons,ascB]
  by_cases hx:l<I.getD k 0
  · have ih:=qct R I s e he d (k+1) (I.getD k 0) O O O O (fun _=>by simp)
    rw[show e-(k+1)=d by omega]at ih
    rw[ih]
    have h0:0≤I.getD k 0:=O
    by_cases hs:s<k
    · have:=h2 hs
      simp[-List.getD_eq_getElem?_getD,hx,h0,hs,←this]
    · simp[-List.getD_eq_getElem?_getD,hx,h0,hs]
  · by_cases hs:s<k
    · have:=h2 hs
      simp[-List.getD_eq_getElem?_getD,hx,hs,←this]
    · have:l= -1:=h1 O
      have h0: ¬0≤I.getD k 0:=O
      simp[-List.getD_eq_getElem?_getD,hx,h0]
theorem q8u {R:Int} {C:Nat} {S I:List Int} (h:StartOK C S I) {j:Nat} (hj:j<C):ascB R (-1) (colOf S I j)=q1b R S I j:=by
 have a:=h.rng (j:=j) O
 have b:=h.rng (j:=j+1) O
 exact qct R I _ _ O _ _ _ rfl (Nat.le_refl _) O (fun _=>rfl) (fun h=>absurd h (Nat.lt_irrefl _))
def strB (R C:Int) (S I V:List Int):Bool:=
 decide ((S.length:Int)=C+1)&&decide (S.getD 0 0=0)&&Q7 (le2 S) 0 C.toNat&&decide (S.getD C.toNat 0=(I.length:Int))&&decide (I.length=V.length)&&Q7 (fun j=>q1b R S I j) 0 C.toNat
theorem qdn {m:Nat} {R C:Int} {S I V:List Int} (hC:0≤C) (hC2:C≤200) (hI:I.length≤10000) (hS:S.length<m) (hm:11000<m) (hb:S.length<4611686018427387904):
 g102 m R C S I V=some (strB R C S I V,(),()):=by
 obtain⟨c,rfl⟩: ∃c:Nat,C=(c:Int):=⟨C.toNat,O⟩
 rw[g102,strB]
 simp only[bif_ne,wi (show(-9223372036854775808:Int)≤(c:Int)+1 by omega) O,Int.toNat_natCast]
 by_cases h1:(S.length:Int)=(c:Int)+1
 · have hl:S.length=c+1:=O
   have h2:(0:Int)≤0∧(0:Int)<(S.length:Int):=O
   simp only[h1,if_true,decide_true,Bool.true_and]
   rw[←h1,if_pos h2]
   by_cases h3:S.getD 0 0=0
   · rw[qbk hS O hb]
     simp only[h3,if_true,decide_true,Bool.true_and,Option.bind_some,show S.length-1=c by omega]
     cases h4:Q7 (le2 S) 0 c
     · simp
     · have h5:(0:Int)≤(c:Int)∧(c:Int)<(S.length:Int):=O
       simp only[bif_not,cond_true,Bool.true_and]
       rw[if_pos h5]
       by_cases h6:S.getD c 0=(I.length:Int)
       · by_cases h7:I.length=V.length
         · have h8:(I.length:Int)=(V.length:Int):=O
           have hok:StartOK c S I:=⟨hl,h3,fun j hj=>by
            have:=Q8.1 h4 j O hj
            simpa [-List.getD_eq_getElem?_getD,le2]using this,h6⟩
           have:=q67 m R (c:Int) c S I V rfl hok O O O m 0 O O
           simp only[Int.cast_ofNat_Int,Int.natCast_zero,Int.ofNat_zero]at this
           rw[if_pos h6,if_pos h8,this,q7k (q:=fun j=>q1b R S I j) (fun j _ hj=>q8u hok hj)]
           simp only[h6,h7,decide_true,Bool.true_and]
           cases Q7 (fun j=>q1b R S I j) 0 c<;>rfl
         · have h8: ¬(I.length:Int)=(V.length:Int):=O
           rw[if_pos h6,if_neg h8]
           simp[h7]
       · rw[if_neg h6]
         simp[-List.getD_eq_getElem?_getD,h6]
   · rw[if_neg h3]
     simp[-List.getD_eq_getElem?_getD,h3]
 · rw[if_neg h1]
   simp[h1]
def chk (R C:Int) (S I V:List Int):Int:=
 if(decide (0≤R)&&decide (R≤200)&&decide (0≤C)&&decide (C≤200)&&decide (I.length≤10000))=false then 6 else if strB R C S I V=false then 1 else if finL V=false then 4 else 0
theorem q9p {m:Nat} {n lo hi:Int}:g57 m n lo hi=some (decide (lo≤n)&&decide (n≤hi),(),(),(),()):=by
 rw[g57]
 by_cases h:n≥lo
 · have:lo≤n:=h
   simp[h,this]
 · have: ¬lo≤n:=h
   simp[h,this]
theorem g44_eq {m:Nat} {R C:Int} {S I V:List Int} (hS:S.length<m) (hV:V.length<m) (hm:11000<m) (hb:S.length<4611686018427387904) (hv:V.length<4611686018427387904):
 g44 m R C S I V=some (chk R C S I V,(),()):=by
 rw[g44,chk,q9p,q9p]
 by_cases h1:0≤R<;>by_cases h2:R≤200<;>by_cases h3:0≤C<;>by_cases h4:C≤200<;>simp[h1,h2,h3,h4]
 by_cases h5:I.length≤10000
 · have h6: ¬(10000:Int)<(I.length:Int):=O
   have h7: ¬10000<I.length:=O
   rw[qdn h3 h4 h5 hS hm hb,q4j hV hv]
   simp only[h6,h7,h5,if_false,Option.bind_some]
   cases strB R C S I V
   · simp
   · cases finL V<;>simp
 · have h6:(10000:Int)<(I.length:Int):=O
   have h7:10000<I.length:=O
   simp[h5,h6,h7]
end
section
theorem q59 (m:Nat) (R C:Int) (c:Nat) (S I V:List Int) (hC:C=(c:Int)) (hl:S.length=c+1) (hc:c<4611686018427387904): ∀(n k:Nat),c-k<n→k≤c→
 g45_L0 m n R C S I V (k:Int)=some (bif Q7 (le2 S) k c then .inr (.inl ((R,C,S,I,V,()),()))else .inl (1,()))
 |0,k,h,_=>O
 |n+1,k,h,h0=>by
  rw[g45_L0]
  subst hC
  by_cases hk:k<c
  · have h1:((k:Int)<(c:Int)):=O
    have h2:((k:Int)<(S.length:Int)):=O
    have h3:(((k+1:Nat):Int)<(S.length:Int)):=O
    simp only[bif_decide,h1,h2,h3,if_true,Int.toNat_natCast,Int.natCast_nonneg,and_self,wsucc (show k<4611686018427387904 by omega)]
    rw[q59 m R (c:Int) c S I V rfl hl hc n (k+1) O O,Qr hk,le2]
    by_cases hx:S.getD k 0>S.getD (k+1) 0
    · have: ¬S.getD k 0≤S.getD (k+1) 0:=O
      simp[-List.getD_eq_getElem?_getD,hx,this]
    · have:S.getD k 0≤S.getD (k+1) 0:=O
      simp[-List.getD_eq_getElem?_getD,hx,this]
  · have h1: ¬((k:Int)<(c:Int)):=O
    simp only[bif_decide,h1,if_false]
    rw[X3 hk];rfl
theorem q3n (m:Nat) (R C:Int) (c j:Nat) (S I V:List Int) (hC:C=(c:Int)) (hok:StartOK c S I) (hj:j<c) (hc:c<4611686018427387904) (hb:I.length<4611686018427387904): ∀(n k:Nat),(S.getD (j+1) 0).toNat-k<n→(S.getD j 0).toNat≤k→
 g45_L2 m n R C S I V (j:Int) (k:Int)=some (bif Q7 (entOK R S I j) k (S.getD (j+1) 0).toNat then .inr (.inl ((R,C,S,I,V,()),(j:Int),()))else .inl (1,()))
 |0,k,h,_=>O
 |n+1,k,h,h0=>by
  rw[g45_L2]
  subst hC
  have hl:=hok.len
  have a:=hok.rng (j:=j) O
  have b:=hok.rng (j:=j+1) O
  have h2:((j:Int)<(S.length:Int)):=O
  have h3:(((j+1:Nat):Int)<(S.length:Int)):=O
  simp only[bif_decide,h2,h3,if_true,Int.toNat_natCast,Int.natCast_nonneg,and_self,wsucc (show j<4611686018427387904 by omega)]
  by_cases hk:k<(S.getD (j+1) 0).toNat
  · have h1:((k:Int)<S.getD (j+1) 0):=O
    have h4:((k:Int)<(I.length:Int)):=O
    simp only[h1,h4,if_true,and_self,wsucc (show k<4611686018427387904 by omega)]
    rw[q3n m R (c:Int) c j S I V rfl hok hj hc hb n (k+1) O O,Qr hk,entOK]
    by_cases e1:I.getD k 0<0
    · have e2: ¬0≤I.getD k 0:=O
      simp only[e1,e2,if_true,decide_false,Bool.false_and,cond_false]
    · have e2:0≤I.getD k 0:=O
      by_cases e3:I.getD k 0≥R
      · have e4: ¬I.getD k 0<R:=O
        simp only[e1,e2,e3,e4,if_true,if_false,decide_false,decide_true,Bool.false_and,Bool.true_and,cond_false]
      · have e4:I.getD k 0<R:=O
        simp only[e1,e2,e3,e4,if_false,decide_true,Bool.true_and]
        by_cases e5:(k:Int)>S.getD j 0
        · have e6:(S.getD j 0).toNat<k:=O
          have e7:(0:Int)≤((k-1:Nat):Int)∧((k-1:Nat):Int)<(I.length:Int):=O
          simp only[e5,e6,if_true,decide_true,Bool.not_true,Bool.false_or,wpred (show k<4611686018427387904 by omega) (show 0<k by omega),e7,and_self,Int.toNat_natCast]
          by_cases e8:I.getD k 0≤I.getD (k-1) 0
          · have e9: ¬I.getD (k-1) 0<I.getD k 0:=O
            simp only[e8,e9,if_true,decide_false,Bool.false_and,cond_false]
          · have e9:I.getD (k-1) 0<I.getD k 0:=O
            simp only[e8,e9,if_false,decide_true,Bool.true_and]
        · have e6: ¬(S.getD j 0).toNat<k:=O
          simp only[e5,e6,if_false,decide_false,Bool.not_false,Bool.true_or,Bool.true_and]
  · have h1: ¬((k:Int)<S.getD (j+1) 0):=O
    simp only[h1,if_false]
    rw[X3 hk];rfl
theorem q4b (m:Nat) (R C:Int) (c:Nat) (S I V:List Int) (hC:C=(c:Int)) (hok:StartOK c S I) (hc:c<4611686018427387904) (hb:I.length<4611686018427387904) (hm:I.length<m): ∀(n k:Nat),c-k<n→k≤c→
 g45_L1 m n R C S I V (k:Int)=some (bif Q7 (fun j=>q1b R S I j) k c then .inr (.inl ((R,C,S,I,V,()),()))else .inl (1,()))
 |0,k,h,_=>O
 |n+1,k,h,h0=>by
  rw[g45_L1]
  subst hC
  have hl:=hok.len
  by_cases hk:k<c
  · have h1:((k:Int)<(c:Int)):=O
    have h2:((k:Int)<(S.length:Int)):=O
    have a:=hok.rng (j:=k) O
    have b:=hok.rng (j:=k+1) O
    have e:=q3n m R (c:Int) c k S I V rfl hok hk hc hb m (S.getD k 0).toNat O (Nat.le_refl _)
    rw[show(((S.getD k 0).toNat:Nat):Int)=S.getD k 0 by omega]at e
    simp only[bif_decide,h1,h2,if_true,Int.toNat_natCast,Int.natCast_nonneg,and_self]
    rw[e,Qr hk]
    show _=some (bif (q1b R S I k&&_)then _ else _)
    rw[q1b]
    cases Q7 (entOK R S I k) (S.getD k 0).toNat (S.getD (k+1) 0).toNat
    · rfl
    · simp only[cond_true,Bool.true_and,Option.bind_some,wsucc (show k<4611686018427387904 by omega)]
      exact q4b m R (c:Int) c S I V rfl hok hc hb hm n (k+1) O O
  · have h1: ¬((k:Int)<(c:Int)):=O
    simp only[bif_decide,h1,if_false]
    rw[X3 hk];rfl
theorem X4 {m:Nat} {R C:Int} {S I V:List Int} (hV:V.length<m) (hm:11000<m) (hv:V.length<4611686018427387904):
 g45 m R C S I V=some (chk R C S I V,(),()):=by
 rw[g45,chk]
 by_cases h1:0≤R
 · have h1': ¬R<0:=O
   by_cases h2:R≤200
   · have h2': ¬R>200:=O
     by_cases h3:0≤C
     · have h3': ¬C<0:=O
       by_cases h4:C≤200
       · have h4': ¬C>200:=O
         by_cases h5:I.length≤10000
         · have h5': ¬(I.length:Int)>10000:=O
           obtain⟨c,rfl⟩: ∃c:Nat,C=(c:Int):=⟨C.toNat,O⟩
           simp only[bif_decide,h1,h1',h2,h2',h3,h3',h4,h4',h5,h5',if_false,decide_true,Bool.and_self,Bool.true_eq_false,strB,bif_ne,wi (show(-9223372036854775808:Int)≤(c:Int)+1 by omega) O,Int.toNat_natCast]
           by_cases g1:I.length=V.length
           · have g1':(V.length:Int)=(I.length:Int):=O
             simp only[g1',if_true]
             by_cases g2:(S.length:Int)=(c:Int)+1
             · have hl:S.length=c+1:=O
               have g3:(0:Int)≤0∧(0:Int)<(S.length:Int):=O
               simp only[g2,if_true]
               rw[←g2,if_pos g3]
               by_cases g4:S.getD 0 0=0
               · have g5:(True∧(c:Int)<(S.length:Int)):=⟨trivial,O⟩
                 simp only[g4,if_true]
                 rw[if_pos g5]
                 by_cases g6:S.getD c 0=(I.length:Int)
                 · simp only[g6,if_true]
                   have e0:=q59 m R (c:Int) c S I V rfl hl O m 0 O O
                   simp only[Int.cast_ofNat_Int,Int.natCast_zero,Int.ofNat_zero]at e0
                   rw[e0]
                   cases h7:Q7 (le2 S) 0 c
                   · simp
                   · have hok:StartOK c S I:=⟨hl,g4,fun j hj=>by
                      have:=Q8.1 h7 j O hj
                      simpa [-List.getD_eq_getElem?_getD,le2]using this,g6⟩
                     have e1:=q4b m R (c:Int) c S I V rfl hok O O O m 0 O O
                     simp only[Int.cast_ofNat_Int,Int.natCast_zero,Int.ofNat_zero]at e1
                     simp only[cond_true,Option.bind_some]
                     rw[e1]
                     cases h8:Q7 (fun j=>q1b R S I j) 0 c
                     · simp
                     · simp only[cond_true,Option.bind_some,q0u hV hv,bif_not]
                       cases finL V<;>simp[g1]
                 · simp[-List.getD_eq_getElem?_getD,g6]
               · simp[-List.getD_eq_getElem?_getD,g4]
             · simp[g2]
           · have g1': ¬(V.length:Int)=(I.length:Int):=O
             simp[g1,g1']
         · have h5':(I.length:Int)>10000:=O
           simp[h1',h2',h3',h4',h5,h5']
       · have h4':C>200:=O
         simp[h1',h2',h3',h4,h4']
     · have h3':C<0:=O
       simp[h1',h2',h3,h3']
   · have h2':R>200:=O
     simp[h1',h2,h2']
 · have h1':R<0:=O
   simp[h1,h1']
end
section
def qjs (R:Nat) (E:List (List Int)):Prop:= ∀j,∀i∈E.getD j [],0≤i∧i<(R:Int)
end
section
def J6 (C:Nat) (S I:List Int):List (List Int):=(List.range C).map (colOf S I)
theorem q0d {C:Nat} {S I:List Int} {j:Nat} (hj:j<C):(J6 C S I).getD j []=colOf S I j:=by
 simp[J6,List.getD,hj]
structure MatOK (R C:Nat) (S I:List Int):Prop where
 st:StartOK C S I
 ent: ∀j,j<C→q1b (R:Int) S I j=true
 sz:I.length≤10000
 cz:C≤200
 rz:R≤200
theorem MatOK.row {R C:Nat} {S I:List Int} (h:MatOK R C S I) {j:Nat} (hj:j<C) {k:Nat} (h1:(S.getD j 0).toNat≤k) (h2:k<(S.getD (j+1) 0).toNat):0≤I.getD k 0∧I.getD k 0<(R:Int):=by
 have:=Q8.1 (h.ent j hj) k h1 h2
 simp only[entOK,Bool.and_eq_true,decide_eq_true_eq]at this
 exact this.1
theorem MatOK.edge {R C:Nat} {S I:List Int} (h:MatOK R C S I):qjs R (J6 C S I):=by
 intro j i hi
 by_cases hj:j<C
 · rw[q0d hj]at hi
   obtain⟨k,hk,e⟩:=q0r (d:=0) hi
   rw[q9i h.st hj hk]at e
   rw[Zb h.st hj]at hk
   rw[←e];exact h.row hj O O
 · simp[J6,List.getD,hj]at hi
end
section
theorem qid {R C:Int} {S I V:List Int} (h:chk R C S I V=0): ∃r c:Nat,R=(r:Int)∧C=(c:Int)∧MatOK r c S I∧V.length=I.length∧finL V=true:=by
 unfold chk at h
 split at h
 · omega
 · rename_i h1
   split at h
   · omega
   · rename_i h2
     split at h
     · omega
     · rename_i h3
       simp only[Bool.not_eq_false,Bool.and_eq_true,decide_eq_true_eq]at h1 h2 h3
       obtain⟨⟨⟨⟨a1,a2⟩,a3⟩,a4⟩,a5⟩:=h1
       simp only[strB,Bool.and_eq_true,decide_eq_true_eq]at h2
       obtain⟨⟨⟨⟨⟨b1,b2⟩,b3⟩,b4⟩,b5⟩,b6⟩:=h2
       refine⟨R.toNat,C.toNat,O,O,⟨⟨O,b2,fun j hj=> ?_,b4⟩,fun j hj=> ?_,a5,O,O⟩,b5.symm,h3⟩
       · have:=Q8.1 b3 j O hj
         simpa [-List.getD_eq_getElem?_getD,le2]using this
       · have:=Q8.1 b6 j O hj
         rw[show((R.toNat:Nat):Int)=R by omega];exact this
end
section
theorem Qw {xs:List Int} {k:Nat} (h:k<xs.length):xs.getD k 0∈xs:=by simp[List.getD,h]
section
variable {E:List (List Int)} {R C:Nat}
end
end
section
theorem qas {R C:Nat} {S I:List Int} (h:MatOK R C S I) {j:Nat} (hj:j<C):colOf S I j=(List.range' (S.getD j 0).toNat ((S.getD (j+1) 0).toNat-(S.getD j 0).toNat)).map fun t=>I.getD t 0:=by
 refine qgx 0 (by rw[Zb h.st hj];simp) fun k hk=> ?_
 rw[q9i h.st hj hk]
 rw[Zb h.st hj]at hk
 have e: ∀s n,k<n→(List.range' s n)[k]? =some (s+k):=fun s n h=>by rw[List.getElem?_range' h,Nat.one_mul]
 have e2: ∀l:List Nat,(l.map fun t=>I.getD t 0).getD k 0=((l[k]?).map fun t=>I.getD t 0).getD 0:=fun l=>by rw[List.getD,List.getElem?_map]
 rw[e2,e _ _ hk];rfl
section
variable {R C:Nat} {S I V:List Int}
def Xl (S I V:List Int) (j k e:Nat):List (Int×Int×Int):=(List.range' k (e-k)).map fun t=>(I.getD t 0,(j:Int),V.getD t 0)
def ents (S I V:List Int):Nat→Nat→List (Int×Int×Int)
 |0,_=>[]
 |d+1,k=>Xl S I V k (S.getD k 0).toNat (S.getD (k+1) 0).toNat++ents S I V d (k+1)
theorem q2e {j k e:Nat}:(Xl S I V j k e).length=e-k:=by simp[Xl]
theorem q4x {j k e:Nat} (h:k<e):Xl S I V j k e=(I.getD k 0,(j:Int),V.getD k 0)::Xl S I V j (k+1) e:=by
 unfold Xl
 rw[show e-k=(e-(k+1))+1 by omega,List.range'_succ];rfl
theorem q69 (m:Nat) (hM:MatOK R C S I) (hV:V.length=I.length) {j:Nat} (hj:j<C): ∀(n k:Nat) (out:List (Int×Int×Int)),(S.getD (j+1) 0).toNat-k<n→out.length≤k→
 g48_L1 m n (R:Int) (C:Int) S I V out (j:Int) (k:Int)=some (.inl (((R:Int),(C:Int),S,I,V,()),out++Xl S I V j k (S.getD (j+1) 0).toNat,(j:Int),()))
 |0,k,out,h,_=>O
 |n+1,k,out,h,ho=>by
  have hl:=hM.st.len
  have hcz:=hM.cz
  have hiz:=hM.sz
  have b:=hM.st.rng (j:=j+1) O
  rw[g48_L1]
  simp only[wsucc (show j<4611686018427387904 by omega),Int.toNat_natCast,bif_decide]
  rw[if_pos O]
  by_cases hk:k<(S.getD (j+1) 0).toNat
  · rw[if_pos O,if_pos O,if_pos O,if_pos (by simp;omega),q4x hk]
    simp only[wsucc (show k<4611686018427387904 by omega)]
    rw[q69 m hM hV hj n (k+1) _ O (by simp;omega)]
    simp
  · rw[if_neg O]
    rw[Xl,show(S.getD (j+1) 0).toNat-k=0 by omega];simp
theorem q6c (m:Nat) (hm:20000<m) (hM:MatOK R C S I) (hV:V.length=I.length): ∀(d n k:Nat) (out:List (Int×Int×Int)),C-k=d→k≤C→d<n→out.length=(S.getD k 0).toNat→
 g48_L0 m n (R:Int) (C:Int) S I V out (k:Int)=some (.inl (out++ents S I V d k,()))
 |0,n,k,out,hd,hk0,hn,ho=>by
  obtain⟨n,rfl⟩: ∃n',n=n'+1:=⟨n-1,O⟩
  rw[g48_L0,bif_decide,if_neg O];simp[ents]
 |d+1,n,k,out,hd,hk0,hn,ho=>by
  have hl:=hM.st.len
  have hcz:=hM.cz
  have hiz:=hM.sz
  have hk:k<C:=O
  have a:=hM.st.rng (j:=k) O
  have b:=hM.st.rng (j:=k+1) O
  have dd:=hM.st.mono k hk
  obtain⟨n,rfl⟩: ∃n',n=n'+1:=⟨n-1,O⟩
  have e:=q69 (V:=V) m hM hV hk m (S.getD k 0).toNat out O O
  rw[show(((S.getD k 0).toNat:Nat):Int)=S.getD k 0 by omega]at e
  rw[g48_L0,bif_decide,if_pos O,if_pos O]
  simp only[Int.toNat_natCast]
  rw[e]
  simp only[Option.bind_some,wsucc (show k<4611686018427387904 by omega)]
  rw[q6c m hm hM hV d n (k+1) _ O O O (by rw[List.length_append,q2e];omega),ents]
  simp
theorem q6l {m:Nat} (hm:20000<m) (hM:MatOK R C S I) (hV:V.length=I.length) (hc:chk (R:Int) (C:Int) S I V=0):g48 m (R:Int) (C:Int) S I V=some (ents S I V C 0,(),()):=by
 have hiz:=hM.sz
 rw[g48,X4 O O O,hc]
 have:=q6c (V:=V) m hm hM hV C m 0 [] O O (by have:=hM.cz;omega) (by rw[hM.st.s0];rfl)
 simp only[Int.cast_ofNat_Int,Int.natCast_zero,Int.ofNat_zero,List.nil_append]at this
 simp only[Option.bind_some,bif_ne,if_true,this]
theorem qdd {p:Int→Int→Bool} (hM:MatOK R C S I) {j:Nat} (hj:j<C):(Xl S I V j (S.getD j 0).toNat (S.getD (j+1) 0).toNat).all (fun e=>p e.1 e.2.1)=(colOf S I j).all (fun i=>p i (j:Int)):=by
 rw[qas hM hj,Xl,List.all_map,List.all_map];rfl
theorem qcl {p:Int→Int→Bool} (hM:MatOK R C S I): ∀(d k:Nat),C-k=d→k≤C→(ents S I V d k).all (fun e=>p e.1 e.2.1)=Q7 (fun j=>((J6 C S I).getD j []).all (fun i=>p i (j:Int))) k C
 |0,k,hd,hk=>by rw[X3 O];rfl
 |d+1,k,hd,hk=>by
  rw[ents,List.all_append,qdd hM (by omega:k<C),qcl hM d (k+1) O O,Qr (by omega:k<C),q0d O]
theorem qcs (hM:MatOK R C S I): ∀(d k:Nat),C-k=d→k≤C→(ents S I V d k).length=(S.getD C 0).toNat-(S.getD k 0).toNat
 |0,k,hd,hk=>by
  have:k=C:=O
  subst this;simp[ents]
 |d+1,k,hd,hk=>by
  have a:=hM.st.rng (j:=k) O
  have b:=hM.st.rng (j:=k+1) O
  have c:=hM.st.rng (j:=C) O
  have dd:=hM.st.mono k O
  have e:=hM.st.le (i:=k+1) (j:=C) O O
  rw[ents,List.length_append,q2e,qcs hM d (k+1) O O];omega
end
end
section
end
section
abbrev Ent:=Int×Int×Int
def qkp (r c:Nat) (es:List Ent):Prop:= ∀k,k<es.length→
 (0≤(es.getD k (0,(0,0))).1∧(es.getD k (0,(0,0))).1<(r:Int))∧(0≤(es.getD k (0,(0,0))).2.1∧(es.getD k (0,(0,0))).2.1<(c:Int))∧finB (es.getD k (0,(0,0))).2.2=true
theorem cell {r c i j:Nat} (hi:i<r) (hj:j<c):j*r+i<r*c:=by
 have h1:(j+1)*r≤c*r:=Nat.mul_le_mul_right r hj
 have h2:=Nat.succ_mul j r
 have h3:=Nat.mul_comm r c
 simp only[Nat.succ_eq_add_one]at h2
 omega
variable {es:List Ent} {r c:Nat}
end
section
variable {es:List Ent} {r c:Nat}
end
section
theorem qcw {S I V:List Int} {R C:Nat} (hM:MatOK R C S I) {e:Ent}: ∀(d k:Nat),C-k=d→k≤C→e∈ents S I V d k→ ∃t,t<I.length∧e.2.2=V.getD t 0
 |0,k,hd,hk,h=>by simp[ents]at h
 |d+1,k,hd,hk,h=>by
  rw[ents,List.mem_append]at h
  rcases h with h|h
  · obtain⟨t,h1,h2⟩:=List.mem_map.1 h
    have h3:=List.mem_range'_1.1 h1
    have b:=hM.st.rng (j:=k+1) O
    have a:=hM.st.rng (j:=k) O
    exact⟨t,O,by rw[←h2]⟩
  · exact qcw hM d (k+1) O O h
theorem qio {S I V:List Int} {R C:Nat} (hM:MatOK R C S I) (hV:V.length=I.length) (hf:finL V=true):qkp R C (ents S I V C 0):=by
 intro k hk
 have hm:(ents S I V C 0).getD k (0,(0,0))∈ents S I V C 0:=by simp[List.getD,hk]
 have h:=qcl (V:=V) (p:=fun a b=>decide (0≤a)&&decide (a<(R:Int))&&decide (0≤b)&&decide (b<(C:Int))) hM C 0 O O
 have h4:Q7 (fun j'=>((J6 C S I).getD j' []).all (fun a=>decide (0≤a)&&decide (a<(R:Int))&&decide (0≤(j':Int))&&decide ((j':Int)<(C:Int)))) 0 C=true:=by
  refine Q8.2 fun j' _ hj'=>List.all_eq_true.2 fun i hi=> ?_
  have:=hM.edge j' i hi
  simp only[Bool.and_eq_true,decide_eq_true_eq];omega
 rw[h4]at h
 have h5:=List.all_eq_true.1 h _ hm
 simp only[Bool.and_eq_true,decide_eq_true_eq]at h5
 obtain⟨t,ht,ev⟩:=qcw hM C 0 O O hm
 refine⟨⟨h5.1.1.1,h5.1.1.2⟩,⟨h5.1.2,h5.2⟩,?_⟩
 rw[ev];exact Q8.1 hf t (Nat.zero_le _) O
end
section
abbrev zE:Ent:=(0,(0,0))
def ltE (x y:Ent):Bool:=decide (x.2.1<y.2.1)||(decide (x.2.1=y.2.1)&&decide (x.1<y.1))
def leE (x y:Ent):Prop:=ltE y x=false
theorem qjn {x y z:Ent} (h1:leE x y) (h2:leE y z):leE x z:=by
 unfold leE ltE at*
 simp only[Bool.or_eq_false_iff,decide_eq_false_iff_not,Bool.and_eq_false_iff]at*
 omega
end
section
end
section
theorem qlb {i j:Nat} (h:i+j<4611686018427387904):w_i64 (shr_ .u64 (w_u64 (w_i64 ((i:Int)+(j:Int)))) 1)=(((i+j)/2:Nat):Int):=by
 rw[w_i64_eq,w_i64_eq,wi (n:=(i:Int)+(j:Int)) O O]
 show IntKind.wrap .i64 (shr_ .u64 (IntKind.wrap .u64 ((i:Int)+(j:Int))) 1)=_
 rw[wu O O]
 unfold shr_
 rw[show((i:Int)+(j:Int)).fdiv (2^(min (1:Int).toNat IntKind.u64.bits))=(((i+j)/2:Nat):Int) by
  rw[show(2:Int)^(min (1:Int).toNat IntKind.u64.bits)=2 by decide,show((i:Int)+(j:Int))=((i+j:Nat):Int) by omega,Int.fdiv_eq_ediv_of_nonneg _ (by decide)];omega]
 rw[wi O O]
section
variable (self:(List (Int×Int×Int))→Int→Int→Int→Option (Unit×(List (Int×Int×Int))×Unit×Unit×Unit×Unit×Unit)) (m:Nat) (hm:2<m)
end
theorem q0r {l:List Ent} {x:Ent} (h:x∈l): ∃i,i<l.length∧l.getD i zE=x:=by
 obtain⟨i,hi,rfl⟩:=List.getElem_of_mem h
 exact⟨i,hi,by simp[List.getD,hi]⟩
end
section
end
section
end
section
end
section
def DistE (es:List Ent):Prop:= ∀k k',k<es.length→k'<es.length→(es.getD k zE).1=(es.getD k' zE).1→(es.getD k zE).2.1=(es.getD k' zE).2.1→k=k'
section
variable {es:List Ent} {r c:Nat}
end
end
section
section
variable {R C:Nat} {S I V:List Int}
theorem q52 (m:Nat) (hM:MatOK R C S I) (hV:V.length=I.length) (t7 t8:Int) {j:Nat} (hj:j<C): ∀(n k:Nat) (out:List Ent),(S.getD (j+1) 0).toNat-k<n→out.length≤k→
 g73_L1 m n (R:Int) (C:Int) S I V out (j:Int) (k:Int) t7 t8=some (.inl (((R:Int),(C:Int),S,I,V,()),out++Xl S I V j k (S.getD (j+1) 0).toNat,t7,t8,()))
 |0,k,out,h,_=>O
 |n+1,k,out,h,ho=>by
  have hl:=hM.st.len
  have hcz:=hM.cz
  have hiz:=hM.sz
  have b:=hM.st.rng (j:=j+1) O
  rw[g73_L1]
  simp only[w_i64_eq,wsucc (show j<4611686018427387904 by omega),Int.toNat_natCast,bif_decide]
  rw[if_pos O]
  by_cases hk:k<(S.getD (j+1) 0).toNat
  · rw[if_pos O,if_pos O,if_pos O,if_pos (by simp;omega),q4x hk]
    simp only[wsucc (show k<4611686018427387904 by omega)]
    rw[q52 m hM hV t7 t8 hj n (k+1) _ O (by simp;omega)]
    simp
  · rw[if_neg O]
    rw[Xl,show(S.getD (j+1) 0).toNat-k=0 by omega];simp
theorem q49 (m:Nat) (hm:20000<m) (hM:MatOK R C S I) (hV:V.length=I.length): ∀(d n k:Nat) (out:List Ent),C-k=d→k≤C→d<n→out.length=(S.getD k 0).toNat→
 g73_L0 m n (R:Int) (C:Int) S I V out (C:Int) (k:Int)=some (.inl (out++ents S I V d k,()))
 |0,n,k,out,hd,hk0,hn,ho=>by
  obtain⟨n,rfl⟩: ∃n',n=n'+1:=⟨n-1,O⟩
  rw[g73_L0,bif_decide,if_neg O];simp[ents]
 |d+1,n,k,out,hd,hk0,hn,ho=>by
  have hl:=hM.st.len
  have hcz:=hM.cz
  have hiz:=hM.sz
  have hk:k<C:=O
  have a:=hM.st.rng (j:=k) O
  have b:=hM.st.rng (j:=k+1) O
  have dd:=hM.st.mono k hk
  obtain⟨n,rfl⟩: ∃n',n=n'+1:=⟨n-1,O⟩
  have e:=q52 (V:=V) m hM hV (C:Int) (k:Int) hk m (S.getD k 0).toNat out O O
  rw[show(((S.getD k 0).toNat:Nat):Int)=S.getD k 0 by omega]at e
  rw[g73_L0,bif_decide,if_pos O,if_pos O]
  simp only[Int.toNat_natCast]
  rw[e]
  simp only[Option.bind_some,w_i64_eq,wsucc (show k<4611686018427387904 by omega)]
  rw[q49 m hm hM hV d n (k+1) _ O O O (by rw[List.length_append,q2e];omega),ents]
  simp
theorem q54 {m:Nat} (hm:20000<m) (hM:MatOK R C S I) (hV:V.length=I.length):g73 m (R:Int) (C:Int) S I V=some (ents S I V C 0,(),()):=by
 have hcz:=hM.cz
 have h:=q49 (V:=V) m hm hM hV C m 0 [] O O O (by rw[hM.st.s0];rfl)
 rw[g73,show(0:Int)=((0:Nat):Int)from rfl,h];rfl
theorem MatOK.asc (hM:MatOK R C S I) {j:Nat} (hj:j<C): ∀(d t:Nat),(S.getD j 0).toNat≤t→t+(d+1)<(S.getD (j+1) 0).toNat→I.getD t 0<I.getD (t+(d+1)) 0
 |0,t,h1,h2=>by
  have:=Q8.1 (hM.ent j hj) (t+1) O h2
  simp only[entOK,Bool.and_eq_true,Bool.or_eq_true,decide_eq_true_eq]at this
  have h:=this.2
  simp only[Nat.add_sub_cancel]at h
  simp only[Nat.zero_add]
  rcases h with h|h
  · simp only[Bool.not_eq_true',decide_eq_false_iff_not]at h;omega
  · exact h
 |d+1,t,h1,h2=>by
  have h3:=hM.asc hj d t h1 O
  have h4:=hM.asc hj 0 (t+(d+1)) O O
  simp only[Nat.zero_add]at h4
  rw[show t+(d+1+1)=t+(d+1)+1 by omega];omega
theorem qbe (hM:MatOK R C S I) {j:Nat} (hj:j<C):(Xl S I V j (S.getD j 0).toNat (S.getD (j+1) 0).toNat).Pairwise (fun a b=>ltE a b=true):=by
 unfold Xl
 rw[List.pairwise_map]
 refine List.Pairwise.imp_of_mem ?_ (List.pairwise_lt_range' (s:=(S.getD j 0).toNat) (n:=(S.getD (j+1) 0).toNat-(S.getD j 0).toNat) (step:=1) O)
 intro a b ha hb hab
 rw[List.mem_range'_1]at ha hb
 have:=hM.asc hj (b-a-1) a ha.1 O
 rw[show a+(b-a-1+1)=b by omega]at this
 unfold ltE;simp[-List.getD_eq_getElem?_getD,this]
theorem qbs {x:Ent}: ∀{d k:Nat},x∈ents S I V d k→ ∃j t,k≤j∧j<k+d∧(S.getD j 0).toNat≤t∧t<(S.getD (j+1) 0).toNat∧x=(I.getD t 0,(j:Int),V.getD t 0)
 |0,k,h=>by simp[ents]at h
 |d+1,k,h=>by
  rw[ents,List.mem_append]at h
  rcases h with h|h
  · unfold Xl at h
    obtain⟨t,ht,rfl⟩:=List.mem_map.1 h
    rw[List.mem_range'_1]at ht
    exact⟨k,t,Nat.le_refl _,O,ht.1,O,rfl⟩
  · obtain⟨j,t,h1,h2,h3⟩:=qbs h
    exact⟨j,t,O,O,h3⟩
theorem q8d (hM:MatOK R C S I): ∀(d k:Nat),k+d=C→(ents S I V d k).Pairwise (fun a b=>ltE a b=true)
 |0,k,h=>by simp[ents]
 |d+1,k,h=>by
  rw[ents,List.pairwise_append]
  refine⟨qbe hM O,q8d hM d (k+1) O,fun a ha b hb=> ?_⟩
  unfold Xl at ha
  obtain⟨t,ht,rfl⟩:=List.mem_map.1 ha
  obtain⟨j,t',h1,h2,h3,h4,rfl⟩:=qbs hb
  unfold ltE;simp[-List.getD_eq_getElem?_getD];omega
theorem q9q {es:List Ent} (h:es.Pairwise (fun a b=>ltE a b=true)):DistE es:=by
 intro k k' hk hk' h1 h2
 rw[List.pairwise_iff_getElem]at h
 have hg: ∀i (hi:i<es.length),es.getD i zE=es[i]:=fun i hi=>by simp[List.getD,hi]
 rcases Nat.lt_trichotomy k k' with e|e|e
 · have:=h k k' hk hk' e
   rw[←hg k hk,←hg k' hk']at this
   unfold ltE at this;simp[-List.getD_eq_getElem?_getD]at this;omega
 · exact e
 · have:=h k' k hk' hk e
   rw[←hg k hk,←hg k' hk']at this
   unfold ltE at this;simp[-List.getD_eq_getElem?_getD]at this;omega
end
end
section
end
section
theorem Xq {α:Type} {L:List α} {i:Nat} {d:α} (h:L.length≤i):L.getD i d=d:=by
 rw[List.getD,List.getElem?_eq_none h];rfl
end
section
end
section
theorem Jm {α:Type} {L:List α} {k j:Nat} {x d:α} (h:k<L.length):(L.set k x).getD j d=if j=k then x else L.getD j d:=by
 by_cases e:k=j
 · subst e;rw[q0f h,if_pos rfl]
 · rw[getD_set_ne e,if_neg (Ne.symm e)]
end
section
variable {S I V:List Int} {N:Nat}
end
end Go.Vs.F
