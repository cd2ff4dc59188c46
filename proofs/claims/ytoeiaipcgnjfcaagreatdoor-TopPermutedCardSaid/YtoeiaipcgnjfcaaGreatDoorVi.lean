import Derived.Test.YtoeiaipcgnjfcaaGreatDoorVc
import Derived.Test.YtoeiaipcgnjfcaaGreatDoorVu
set_option linter.unusedVariables false
set_option linter.unusedSimpArgs false
set_option linter.unusedSectionVars false
set_option linter.defProp false
namespace Go.Vs
open Go.Proofs
def qer {xss:List LI} {i:Nat} (hlen:(xss.getD i []).length<=1073741824):
 Xc Tryz.prog 350 [.iptr (some 351) (.sl false (.int .i64)) xss i 0] (.sl (.nm 0) (.int .i64) (xss.getD i [])) [.dead]:=by
 refine⟨⟨_,Tryz.func350,rfl,by kernel_rfl⟩,λβ who w cargs hsz hrel hnd h99 hnr hw hgl=> ?_⟩
 have hr:=hrel 0 (by simp)
 obtain⟨b,o,hv,hi,hwb,hbl,hE⟩:=(hr: ∃b o,cargs.getD 0 undef=n7 (some 351) (.pointer (some ⟨b,o+i*(Ty.sl false (.int .i64)).size+0,none⟩))/\i<xss.length/\who b=none/\b<w.heap.size/\aQ who w (.sl false (.int .i64)) xss b o)
 have hc1:cargs= #[.func (.func 351) #[] #[.pointer (some ⟨b,o+i,none⟩)]]:=by
  have h1:cargs.size=1:=hsz;apply zm2
  . simp[h1]
  . intro j hj hj';have:j=0:=O;subst this;have:cargs.getD 0 undef=cargs[0]:=by simp[Array.getD,hj]
    rw[<-this,hv];simp[n7,Ty.size]
 obtain⟨zs,hzs⟩: ∃zs,zs=xss[i]:=⟨_,rfl⟩;have hx:xss.getD i []=zs:=by rw[hzs];simp[List.getD,List.getElem?_eq_getElem hi]
 rw[hx]at hlen⊢;obtain⟨sv,hs1,hs2⟩:=hE i hi;rw[<-hzs]at hs2;have hcell:w.cell? ⟨b,o+i,none⟩=some sv:=by simpa [aD,Ty.size]using hs1
 have hI:It.Ints w.heap.size w sv zs:=by
  rcases hs2 with⟨h1,h2⟩|⟨b2,o2,cap,h1,h2,h3,h4,h5⟩
  . exact .inl ⟨h1,h2⟩
  . refine .inr ⟨b2,o2,cap,h1,h3,λj hj=> ?_⟩
    have:=h5 j hj;simp only[aL,aD,Ty.size,iw,zU]at this;rw[this];simp[hj]
 have hg:=It.values_gives Fence.wide 1 trivial rfl (zF _) b (o+i) sv zs O w hbl hcell hI;have hcall:=It.collect_in Fence.wide 3 trivial trivial rfl (zF _) 351 #[.pointer (some ⟨b,o+i,none⟩)] trivial (enters_of Tryz.func351 (by kernel_rfl) rfl) _ zs.length (by simp[maxLen];omega) O w hg
 rw[hc1];refine(callsIn_wide.1 hcall).mono ?_
 rintro e w' ⟨v,ss,rfl,rfl,hrow,hnil,hb⟩
 have hwho: ∀b n,who b=some n->n=FN:=λb n h=>by
  rcases(hw b n h).2 with h|h
  . cases h
  . exact h
 rcases hrow.2 with⟨hv0,h0⟩|⟨g,cap,cur,hv0,hbase,hgb,r1,r2,r3,r4⟩
 . refine⟨v,λx=>if x=0 then v else β x,who,rfl,rfl,⟨rfl,.inl ⟨hv0,HM h0⟩⟩,λj hj=> ?_,by simp[ab,qi,qc],λn hn=> ?_,rfl,rfl,λb' hb' _=>hb.block b' hb',λb' n h=> ?_,hb.size,λb' h=>h,hb.os,hb.output⟩
   . have:j=0:=by simp at hj;exact hj
     subst this;trivial
   . have:n=0:=by simpa [ab,qi,qc]using hn
     omega
   . exact⟨tL (hw b' n h).1 hb.size,.inl (by rw[h];simp)⟩
 . have hgl:g<w'.heap.size:=by grind
   refine⟨v,λx=>if x=0 then v else β x,λb'=>if b'=g then some 0 else who b',rfl,rfl,⟨rfl,.inr ⟨g,0,cap,cur,3,hv0,hgb,?_,r1,by simp,λj hj=> ?_⟩⟩,λj hj=> ?_,by simp[ab,qi,qc],λn hn=> ?_,rfl,rfl,λb' hb' _=>hb.block b' hb',λb' n h=> ?_,hb.size,λb' h=> ?_,hb.os,hb.output⟩
   . simp only[Ty.size];omega
   . show aD w' g (0+j*1) 0=some (.int .i64 ss[j])
     have h1:(cur.toList.take (ss.length*1))[j]? =some (.int .i64 ss[j]):=by rw[r4];simp[hj]
     rw[List.getElem?_take]at h1;simp only[iw,hj,if_true,Array.getElem?_toList]at h1;simp only[aD,World.cell?,hgb];simpa using h1
   . have:j=0:=by simp at hj;exact hj
     subst this;trivial
   . have:n=0:=by simpa [ab,qi,qc]using hn
     omega
   . by_cases e:b'=g
     . subst e;exact⟨hgl,.inr hbase⟩
     . simp only[e,if_false]at h;exact⟨tL (hw b' n h).1 hb.size,.inl (by rw[h];simp)⟩
   . have:b'≠g:=by rintro rfl;have:=(hw b' _ h).1;omega
     simp[this,h]
def qlg {F:cJ} (hF:F=⟨350,[.a (.c (.iptr (some 351) (.sl false (.int .i64)) 0))],.a (.c (.nm 0 (.int .i64))),[.a (.c .dead)],λx=>if(x.1.1.getD x.1.2 []).length<=1073741824 then some (x.1.1.getD x.1.2 [],((),()))else none⟩):bM Tryz.prog F:=by
 subst hF;intro x y hy;obtain⟨⟨xss,i⟩,u⟩:=x;simp only at hy;split at hy
 . rename_i hlen;cases hy;exact qer hlen
 . cases hy
end Go.Vs
