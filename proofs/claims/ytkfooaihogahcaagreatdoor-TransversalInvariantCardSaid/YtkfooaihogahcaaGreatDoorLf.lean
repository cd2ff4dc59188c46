/-Exact floats of dyads:program and document. Scaling a matrix:program and document. The exponent of a float,by both. Scale and Shift of a matrix:program and document agree. Shifting a matrix:program and document agree;the law MatrixScales. Numbers that floats have:rounding is exact. Made values,and shifting exactly. The law MatrixShifted. -/
import Derived.Test.YtkfooaihogahcaaGreatDoorLe
import Derived.Test.YtkfooaihogahcaaGreatDoorLb
set_option linter.unusedVariables false
set_option linter.unusedSimpArgs false
namespace Go.Vs.F
theorem q4f {neg:Bool} {f:Int} (h1:0≤f) (h2:f<9223372036854775808):U64 (sgnF neg f):=by
 unfold sgnF U64;cases neg<;>simp<;>omega
theorem qcd {neg:Bool} {mode:Int}:U64 (overF neg mode):=by
 unfold overF;split<;>exact q4f (by omega) (by omega)
theorem qk6 {neg:Bool} {n:Nat} {u mode:Int} (h1: -1074≤u) (hn:n≤9007199254740992):U64 (packF neg n u mode):=by
 unfold packF
 split
 · split
   · exact qcd
   · exact q4f (by omega) (by omega)
 · split
   · exact q4f (by omega) (by omega)
   · split
     · exact qcd
     · exact q4f (by omega) (by omega)
theorem qh5 {neg:Bool} {v:Nat} {e:Int} {more:Bool} {mode:Int}:U64 (q0t neg v e more mode):=qk6 (q9b v e) q99
theorem q0q {d:Bool×Bool×List Int×Int×Unit} {mode:Int}:U64 (Qv d mode):=by
 unfold Qv
 split
 · exact⟨by omega,by omega⟩
 · split
   · exact⟨by omega,by omega⟩
   · exact qh5
def exB (z e:Int):Bool:=decide (FinF (Qv (mkD z e) 0)∧OkD z e∧sc (ofZ (Qv (mkD z e) 0)) (ofE (Qv (mkD z e) 0)) (min (ofE (Qv (mkD z e) 0)) e)=sc z e (min (ofE (Qv (mkD z e) 0)) e))
theorem qbg {a b:Int}:cmpZ a b=0↔a=b:=by unfold cmpZ;repeat' split
                                         all_goals omega
theorem q7h {m:Nat} (hm:3000000<m) {z e:Int}:g32 m (mkD z e).1 (mkD z e).2.1 (mkD z e).2.2.1 (mkD z e).2.2.2.1=some ((Qv (mkD z e) 0,exB z e,()),(),())∧
 g110 m (mkD z e).1 (mkD z e).2.1 (mkD z e).2.2.1 (mkD z e).2.2.2.1=some ((Qv (mkD z e) 0,exB z e,()),(),()):=by
 have hU:=q0q (d:=mkD z e) (mode:=0)
 rw[g32,g110,q98 hm,qi5 hm,Option.bind_some,Option.bind_some]
 dsimp only
 rw[Of_eq hm hU,qhq hm hU,Option.bind_some,Option.bind_some]
 dsimp only
 unfold exB ofD
 generalize Qv (mkD z e) 0=f at*
 by_cases hf:FinF f
 · rw[if_pos hf]
   have e1:mkD (ofZ f) (ofE f)=mkD (sc (ofZ f) (ofE f) (min (ofE f) e)) (min (ofE f) e):=(q80 (by omega)).symm
   have e2:mkD z e=mkD (sc z e (min (ofE f) e)) (min (ofE f) e):=(q80 (by omega)).symm
   have o2:OkD z e↔OkD (sc z e (min (ofE f) e)) (min (ofE f) e):=by unfold OkD;rw[←e2]
   have o1:OkD (sc (ofZ f) (ofE f) (min (ofE f) e)) (min (ofE f) e):=by have:=qb3 hf;unfold OkD at*;rwa [←e1]
   rw[e1,e2,qj7 hm,qf7 hm,Option.bind_some]
   by_cases hz:OkD z e
   · have h2:=o2.1 hz
     rw[if_pos ⟨o1,h2⟩]
     dsimp only
     rw[cond_true]
     have:(cmpZ (sc (ofZ f) (ofE f) (min (ofE f) e)) (sc z e (min (ofE f) e))==0)=decide (FinF f∧OkD z e∧sc (ofZ f) (ofE f) (min (ofE f) e)=sc z e (min (ofE f) e)):=by
      by_cases c:sc (ofZ f) (ofE f) (min (ofE f) e)=sc z e (min (ofE f) e)
      · rw[qbg.2 c,decide_eq_true ⟨hf,hz,c⟩];rfl
      · rw[decide_eq_false (fun h=>c h.2.2)]
        have:=mt qbg.1 c
        simpa using this
     rw[this]
     exact⟨rfl,rfl⟩
   · rw[if_neg (fun h=>hz (o2.2 h.2)),decide_eq_false (fun h=>hz h.2.1)]
     exact⟨rfl,rfl⟩
 · rw[if_neg hf,decide_eq_false (fun h=>hf h.1)]
   have b0:((true,false,[],0,()):Bool×Bool×List Int×Int×Unit)=mkD 1 100000:=by
    rw[q27];rw[Xy];rintro (h|⟨h,_⟩)
    · omega
    · omega
   have hn: ¬OkD 1 100000:=by rw[Xy];rintro (h|⟨h,_⟩)<;>omega
   have e0:mkD 1 100000=mkD (sc 1 100000 (min 100000 e)) (min 100000 e):=(q80 (by omega)).symm
   have e2:mkD z e=mkD (sc z e (min 100000 e)) (min 100000 e):=(q80 (by omega)).symm
   have n2: ¬OkD (sc 1 100000 (min 100000 e)) (min 100000 e):=by unfold OkD at*;rwa [←e0]
   rw[b0,e0,e2,qj7 hm,qf7 hm,if_neg (fun h=>n2 h.1)]
   exact⟨rfl,rfl⟩
def satA (a b:Int):Int:=if a+b>9223372036854775807 then 9223372036854775807 else if a+b< -9223372036854775808 then-9223372036854775808 else a+b
def I64 (a:Int):Prop:= -9223372036854775808≤a∧a<9223372036854775808
theorem qnf {a b:Int}:w_i64 (a+b)=(a+b+9223372036854775808)%18446744073709551616-9223372036854775808:=by
 rw[w_i64_eq]
 unfold IntKind.wrap
 show(if(true&&decide ((a+b)%18446744073709551616≥9223372036854775808))=true then(a+b)%18446744073709551616-18446744073709551616 else(a+b)%18446744073709551616)=_
 rw[Bool.true_and]
 split
 · rename_i h;simp only[decide_eq_true_eq]at h;omega
 · rename_i h;simp only[decide_eq_true_eq]at h;omega
theorem qpc {m:Nat} {a b:Int} (ha:I64 a) (hb:I64 b):g35 m a b=some (satA a b,(),(),()):=by
 obtain⟨a1,a2⟩:=ha
 obtain⟨b1,b2⟩:=hb
 have hw:=qnf (a:=a) (b:=b)
 rw[g35]
 simp only[bif_decide]
 unfold satA
 generalize w_i64 (a+b)=s at*
 repeat' split
 all_goals first|(exfalso;omega)|(congr 2<;>omega)
def kindN (f:Int):Int:=if fexp f=2047 then(if ffrac f=0 then 2 else 3)else if fexp f=0∧ffrac f=0 then 0 else 1
theorem qeh {m:Nat} {f:Int} (h:U64 f):g31 m f=some (kindN f,(),())∧g55 m f=some (kindN f,(),()):=by
 have hl:=q56 f
 rw[g31,parts_eq h,Option.bind_some,g55,(qco h).1,(qco h).2]
 simp only[bif_eq,bif_ne]
 unfold kindN
 by_cases c:fexp f=2047
 · by_cases d:ffrac f=0
   · simp[c,d]
   · simp[c,d]
 · by_cases e:fexp f=0
   · by_cases d:ffrac f=0
     · simp[e,d]
     · simp[e,d]
   · simp[c,e]
theorem q4t {f:Int}:kindN f=0↔fexp f=0∧ffrac f=0:=by
 unfold kindN
 by_cases c:fexp f=2047
 · rw[if_pos c];split<;>omega
 · rw[if_neg c];split<;>simp_all
theorem q29 {f:Int}:ofZ f=0↔fexp f=0∧ffrac f=0:=by
 have h1:=q4c f
 unfold ofZ
 by_cases e:fexp f=0
 · rw[if_pos e]
   cases fneg f<;>simp<;>omega
 · rw[if_neg e]
   cases fneg f<;>simp<;>omega
theorem qdv {z e b:Int} (hz:z≠0) (h:b≤e):(blen (sc z e b).natAbs:Int)=e-b+(blen z.natAbs:Int):=by
 unfold sc
 rw[Y7,Zi (by omega)]
 omega
theorem EqD.log {z e w f:Int} (h:EqD z e w f) (hz:z≠0):e+(blen z.natAbs:Int)=f+(blen w.natAbs:Int):=by
 obtain⟨b,h1,h2,h3⟩:=h
 have hw:w≠0:=fun e0=>by
  subst e0
  have h4:=qdv hz h1
  unfold Vs.F.sc at h3
  rw[Int.zero_mul]at h3
  rcases Int.mul_eq_zero.1 h3 with h5|h5
  · exact hz h5
  · have:=q0l (e-b).toNat;omega
 have h4:=qdv hz h1
 have h5:=qdv hw h2
 rw[h3]at h4
 omega
def log2M (z e:Int):Int×Bool×Unit:=if OkD z e∧z≠0 then(e+(blen z.natAbs:Int)-1,true,())else(0,false,())
theorem qim {z e w f:Int} (k:NF z e w f) (h:OkD z e) (hz:z≠0):w_i64 (w_i64 (f+(blen w.natAbs:Int))-1)=e+(blen z.natAbs:Int)-1:=by
 have h1:=k.eq.symm.log hz
 have h2:=k.len
 have h3:=k.lo
 have h4:=k.hi
 have a1:=wi (n:=f+(blen w.natAbs:Int)) (by omega) (by omega)
 rw[w_i64_eq,w_i64_eq,a1,wi (by omega) (by omega)]
 omega
theorem qld {m:Nat} (hm:3000000<m) {z e:Int}:g136 m (mkD z e).1 (mkD z e).2.1 (mkD z e).2.2.1 (mkD z e).2.2.2.1=some (log2M z e,(),()):=by
 rw[g136,q5x hm]
 simp only[Option.bind_some]
 unfold log2M
 by_cases h:OkD z e
 · obtain⟨w,f,k,e1,e2,e3⟩:=Yh h
   rw[e1,e2,e3,q1b (m:=m) (by omega) k.Sz]
   simp only[h,decide_true,Bool.not_true,cond_false,Option.bind_some,zv_zB,bif_eq,true_and]
   by_cases hz:z=0
   · have hw:sgn w=0:=by rw[k.sgn,hz];rfl
     rw[if_pos hw,if_neg (fun c=>c hz)]
   · have hw: ¬sgn w=0:=by rw[k.sgn,Qs];exact hz
     rw[if_neg hw,if_pos hz,q1w (m:=m) (by omega) k.Sz]
     simp only[Option.bind_some,←Xh (neg:=(zB w).1),zv_zB]
     rw[qim k h hz]
 · simp only[h,decide_false,Bool.not_false,cond_true,false_and,if_false]
def expOf (v:Int):Int×Bool:=if ofZ v=0 then(0,false)else(ofE v+(blen (ofZ v).natAbs:Int)-1,true)
structure GoodV (v:Int):Prop where
 u:U64 v
 f:FinF v
theorem GoodV.lo {v:Int} (h:GoodV v): -1100≤(expOf v).1∧(expOf v).1≤1100:=by
 unfold expOf
 split
 · exact⟨by decide,by decide⟩
 · have:=qan (f:=v);have:=q5o v;simp only;omega
theorem GoodV.float {v:Int} (h:GoodV v) {m:Nat} (hm:3000000<m):g88 m v=some (((expOf v).1,(expOf v).2,()),(),()):=by
 rw[g88,Of_eq hm h.u]
 unfold ofD
 rw[if_pos h.f]
 simp only[Option.bind_some]
 rw[qld hm]
 unfold log2M expOf
 have hok:=qb3 h.f
 by_cases hz:ofZ v=0
 · rw[if_pos hz,if_neg (fun c=>c.2 hz)];rfl
 · rw[if_neg hz,if_pos ⟨hok,hz⟩];rfl
end Go.Vs.F
set_option maxRecDepth 100000
namespace Go.Vs.F
section
variable {R C:Nat} {S I V:List Int}
end
end Go.Vs.F
set_option maxRecDepth 100000
namespace Go.Vs.F
section
variable {R C:Nat} {S I V:List Int}
theorem qoz:FinF 0:=by unfold FinF fexp;decide
end
open Go.Vs
theorem qpf {neg:Bool} {q r:Int} (h1:0≤q) (h2:q<2048) (h3:0≤r) (h4:r<4503599627370496):
 fexp (sgnF neg (q*4503599627370496+r))=q∧ffrac (sgnF neg (q*4503599627370496+r))=r∧fneg (sgnF neg (q*4503599627370496+r))=neg:=by
 unfold fexp ffrac fneg sgnF
 cases neg<;>simp<;>omega
def Rep (z e:Int):Prop:=z=0∨ ∃w f,NF z e w f∧blen w.natAbs≤53∧ -1074≤f∧f+(blen w.natAbs:Int)≤1024
theorem qoi {z e:Int} (h:Rep z e) (mode:Int):U64 (Qv (mkD z e) mode)∧FinF (Qv (mkD z e) mode)∧EqD (ofZ (Qv (mkD z e) mode)) (ofE (Qv (mkD z e) mode)) z e:=by
 refine⟨q0q,?_⟩
 rcases h with rfl|⟨w,f,k,h1,h2,h3⟩
 · have:Qv (mkD 0 e) mode=0:=rfl
   rw[this]
   refine⟨qoz,?_⟩
   have:ofZ 0=0:=by unfold ofZ fexp ffrac fneg;decide
   rw[this];exact EqD.zero _ _
 · by_cases hw:w=0
   · subst hw
     have hz:z=0:=by
      have:=k.eq.sgn
      rw[show sgn 0=0 from rfl]at this
      exact Qs.1 this.symm
     subst hz
     have:Qv (mkD 0 e) mode=0:=rfl
     rw[this]
     refine⟨qoz,?_⟩
     have:ofZ 0=0:=by unfold ofZ fexp ffrac fneg;decide
     rw[this];exact EqD.zero _ _
   · have hv:w.natAbs≠0:=by omega
     have hr:Qv (mkD z e) mode=q0t (decide (w<0)) w.natAbs f false mode:=by
      rw[k.md];unfold Qv
      rw[if_neg (by simp),if_neg (fun h=>hv (Jl.1 h))]
      show q0t _ (vl (lim w.natAbs)) _ _ _=_
      rw[Q5]
     rw[hr]
     have hu:unitF w.natAbs f≤f:=by unfold unitF;omega
     have hmu:multF (decide (w<0)) w.natAbs f false mode=w.natAbs*2^(f-unitF w.natAbs f).toNat:=by unfold multF;rw[if_pos hu]
     have hbn:blen (w.natAbs*2^(f-unitF w.natAbs f).toNat)=(f-unitF w.natAbs f).toNat+blen w.natAbs:=by
      rw[Nat.mul_comm];exact Zi hv
     unfold q0t
     rw[hmu]
     have hEq:EqD (sg (decide (w<0)) (w.natAbs*2^(f-unitF w.natAbs f).toNat)) (unitF w.natAbs f) z e:=by
      refine EqD.trans ⟨unitF w.natAbs f,by omega,hu,?_⟩ k.eq
      rw[qjm]
      unfold sc sg
      rw[Int.natCast_mul,Int.natCast_pow]
      show(if decide (w<0)=true then-(((w.natAbs:Nat):Int)*2^(f-unitF w.natAbs f).toNat)else((w.natAbs:Nat):Int)*2^(f-unitF w.natAbs f).toNat)=w*2^(f-unitF w.natAbs f).toNat
      by_cases c:w<0
      · rw[if_pos (by simpa using c),←Int.neg_mul,show-((w.natAbs:Nat):Int)=w by omega]
      · rw[if_neg (by simpa using c),show((w.natAbs:Nat):Int)=w by omega]
     have hnpos:w.natAbs*2^(f-unitF w.natAbs f).toNat≠0:=Nat.mul_ne_zero hv (by have:=Nat.pow_pos (n:=(f-unitF w.natAbs f).toNat) (show 0<2 by omega);omega)
     have hlt:=q2y (w.natAbs*2^(f-unitF w.natAbs f).toNat)
     have hge:=qjj hnpos
     have hub:(unitF w.natAbs f=f+(blen w.natAbs:Int)-53∧ -1074≤f+(blen w.natAbs:Int)-53)∨(unitF w.natAbs f= -1074∧f+(blen w.natAbs:Int)-53< -1074):=by unfold unitF;omega
     generalize w.natAbs*2^(f-unitF w.natAbs f).toNat=n at*
     generalize unitF w.natAbs f=u at*
     generalize decide (w<0)=neg at*
     have hb1:1≤blen w.natAbs:=by rw[Qx hv];omega
     have c52:(2:Nat)^52=4503599627370496:=by decide
     have c53:(2:Nat)^53=9007199254740992:=by decide
     have hn53:n<9007199254740992:=by
      have:2^blen n≤2^53:=Nat.pow_le_pow_right (by omega) (by omega)
      omega
     unfold packF
     rw[if_neg (by omega)]
     by_cases c:n<4503599627370496
     · have hu2:u= -1074:=by
        rcases hub with⟨a,b⟩|⟨a,_⟩
        · have:2^52≤2^(blen n-1):=Nat.pow_le_pow_right (by omega) (by omega)
          omega
        · exact a
       rw[if_pos c]
       obtain⟨p1,p2,p3⟩:=qpf (neg:=neg) (q:=0) (r:=(n:Int)) (by omega) (by omega) (by omega) (by omega)
       rw[Int.zero_mul,Int.zero_add]at p1 p2 p3
       have o1:ofZ (sgnF neg (n:Int))=sg neg n:=by
        unfold ofZ;rw[p1,p2,p3,if_pos rfl];unfold sg;cases neg<;>simp
       have o2:ofE (sgnF neg (n:Int))=u:=by unfold ofE;rw[p1,if_pos rfl,hu2]
       refine⟨by unfold FinF;rw[p1];omega,?_⟩
       rw[o1,o2];exact hEq
     · have hu2:u+1075<2047:=by
        rcases hub with⟨a,b⟩|⟨a,b⟩<;>omega
       have hu3: -1074≤u:=by rcases hub with⟨a,b⟩|⟨a,b⟩<;>omega
       rw[if_neg c,if_neg (by omega)]
       obtain⟨p1,p2,p3⟩:=qpf (neg:=neg) (q:=u+1075) (r:=(n:Int)-4503599627370496) (by omega) (by omega) (by omega) (by omega)
       have o1:ofZ (sgnF neg ((u+1075)*4503599627370496+((n:Int)-4503599627370496)))=sg neg n:=by
        unfold ofZ;rw[p1,p2,p3,if_neg (show¬u+1075=0 by omega),show(n:Int)-4503599627370496+4503599627370496=(n:Int) by omega];unfold sg
        cases neg
        · simp
        · simp
       have o2:ofE (sgnF neg ((u+1075)*4503599627370496+((n:Int)-4503599627370496)))=u:=by unfold ofE;rw[p1,if_neg (by omega)];omega
       refine⟨by unfold FinF;rw[p1];omega,?_⟩
       rw[o1,o2];exact hEq
theorem qpj {z e:Int}:exB z e=true↔FinF (Qv (mkD z e) 0)∧OkD z e∧EqD (ofZ (Qv (mkD z e) 0)) (ofE (Qv (mkD z e) 0)) z e:=by
 unfold exB
 rw[decide_eq_true_eq]
 constructor
 · rintro ⟨h1,h2,h3⟩
   exact⟨h1,h2,⟨min (ofE (Qv (mkD z e) 0)) e,by omega,by omega,h3⟩⟩
 · rintro ⟨h1,h2,h3⟩
   exact⟨h1,h2,h3.low (by omega) (by omega)⟩
theorem Rep.ok {z e:Int} (h:Rep z e):OkD z e:=by
 rcases h with rfl|⟨w,f,k,_⟩
 · exact qow _
 · exact k.eq.ok.1 k.ok
theorem Rep.ex {z e:Int} (h:Rep z e):exB z e=true:=by
 obtain⟨h1,h2,h3⟩:=qoi h 0
 exact qpj.2 ⟨h2,h.ok,h3⟩
theorem Rep.of_mul {z e k g:Int} (h:EqD k g z e) (hk:blen k.natAbs≤53) (h1: -1074≤g) (h2:g≤900):Rep z e:=by
 by_cases hk0:k=0
 · subst hk0
   have:=h.sgn
   rw[show sgn 0=0 from rfl]at this
   exact .inl (Qs.1 this.symm)
 · have hok:OkD k g:=Xy.2 (.inr ⟨by omega,by have:=q0c (n:=k.natAbs);omega⟩)
   obtain⟨w,f,n⟩:=hok.nf
   have hn:k.natAbs≠0:=by omega
   have hmk:mkD k g=(false,decide (k<0),lim (k.natAbs/2^tz k.natAbs),g+(tz k.natAbs:Int),()):=by
    unfold mkD;rw[if_neg hk0,if_neg (by have:=Xy.1 hok;omega)]
   have hmd:=n.md
   rw[hmk]at hmd
   simp only[Prod.mk.injEq]at hmd
   have hf:f=g+(tz k.natAbs:Int):=hmd.2.2.2.1.symm
   have hwn:w.natAbs=k.natAbs/2^tz k.natAbs:=by rw[←Q5 w.natAbs,←hmd.2.2.1,Q5]
   have hbt:=q90 hn
   refine .inr ⟨w,f,⟨n.eq.trans h,by rw[←h.mk];exact n.md,n.zero,n.odd,n.lo,n.hi⟩,?_,by omega,?_⟩
   · rw[hwn];omega
   · rw[hwn];omega
end Go.Vs.F
set_option maxRecDepth 100000
namespace Go.Vs.F
theorem qp4 {m:Nat} (hm:3000000<m) {n:Int} (h:I64 n):g72 m n=some (mkD n 0,(),()):=by
 have hb:blen n.natAbs≤1000:=Nat.le_trans (X6 (k:=64) (by unfold I64 at h;omega)) (by omega)
 rw[g72,X4 (by omega) h.1 h.2,Option.bind_some]
 dsimp only
 rw[qgh hm (by omega) (by omega) (by omega)];rfl
structure SmV (v:Int):Prop where
 u:U64 v
 f:FinF v
 k: ∃k:Int,EqD (ofZ v) (ofE v) k (-6)∧ -32768≤k∧k≤32768
theorem SmV.fin {v:Int} (h:SmV v):finB v=true:=by rw[q5c h.u];exact decide_eq_true h.f
theorem qp8 {m:Nat} (hm:3000000<m) {a e:Int} (ha: -100≤a∧a≤100) (he: -6≤e∧e≤6):valC m a e=some (Qv (mkD a e) 0,(),()):=by
 have hok:OkD a 0:=by
  by_cases h:a=0
  · subst h;exact qow _
  · have hb:=X6 (n:=a.natAbs) (k:=7) (by omega)
    have:=q0c (n:=a.natAbs)
    exact Xy.2 (.inr ⟨by omega,by omega⟩)
 have hc:Qd e=e:=by unfold Qd;omega
 rw[valC,qp4 hm ⟨by omega,by omega⟩,Option.bind_some]
 dsimp only
 rw[qhk hm,if_pos hok,Option.bind_some,hc,Int.zero_add]
 dsimp only
 rw[qi5 hm,Option.bind_some]
theorem qp6 {a e:Int} (ha: -8≤a∧a≤8) (he: -6≤e∧e≤6):SmV (Qv (mkD a e) 0):=by
 have hr:Rep a e:=Rep.of_mul (EqD.refl a e) (Nat.le_trans (X6 (k:=4) (by omega)) (by omega)) (by omega) (by omega)
 obtain⟨h1,h2,h3⟩:=qoi hr 0
 refine⟨h1,h2,a*2^(e+6).toNat,h3.trans ⟨-6,by omega,by omega,?_⟩,?_⟩
 · rw[qjm];unfold sc;rw[show(e- -6).toNat=(e+6).toNat by omega]
 · have hp:(2:Int)^(e+6).toNat≤4096:=by
    have:(2:Int)^(e+6).toNat=((2^(e+6).toNat:Nat):Int):=by rw[Int.natCast_pow];rfl
    rw[this]
    have h2:2^(e+6).toNat≤2^12:=Nat.pow_le_pow_right (by omega) (by omega)
    have:(2:Nat)^12=4096:=by decide
    omega
   have hq:=q0l (e+6).toNat
   generalize (2:Int)^(e+6).toNat=P at*
   obtain⟨a1,a2⟩:=ha
   constructor
   · have: -8*P≤a*P:=Int.mul_le_mul_of_nonneg_right a1 (by omega)
     omega
   · have:a*P≤8*P:=Int.mul_le_mul_of_nonneg_right a2 (by omega)
     omega
theorem qov (n:Int): ∃v,SmV v∧ ∀m,3000000<m→g27 m n=some (v,(),()):=by
 obtain⟨k,hk,hp⟩:=qoh (a:=n) (n:=17) (by omega) (by omega)
 obtain⟨x,hx,hxl⟩:=qpg n
 have e17:Int.tdiv (x:Int) 17=((x/17:Nat):Int):=td x 17
 have e3:Int.tdiv ((x/17:Nat):Int) 3=((x/17/3:Nat):Int):=td _ 3
 have e13:Int.tmod ((x/17/3:Nat):Int) 13=((x/17/3%13:Nat):Int):=tm _ 13
 have l1:x/17<9223372036854775808:=by omega
 have l2:x/17/3%13<13:=by omega
 have key: ∀m,g27 m n=if Int.tmod ((x/17:Nat):Int) 3=0 then valC m ((k:Int)-8) (((x/17/3%13:Nat):Int)-6)else valC m ((k:Int)-8) 0:=by
  intro m
  rw[g27]
  rw[show g8 m n 17=some ((k:Int),(),(),())from hp m]
  simp only[Option.bind_some,w_u64,w_i64,hx,e17]
  rw[wu (by omega) (by omega),wi (n:=((x/17:Nat):Int)) (by omega) (by omega),wi (n:=(k:Int)-8) (by omega) (by omega),e3,wi (n:=((x/17/3:Nat):Int)) (by omega) (by omega),e13,wi (n:=((x/17/3%13:Nat):Int)-6) (by omega) (by omega),bif_eq]
  rfl
 by_cases h:Int.tmod ((x/17:Nat):Int) 3=0
 · exact⟨_,qp6 (a:=(k:Int)-8) (e:=((x/17/3%13:Nat):Int)-6) (by omega) (by omega),fun m hm=>by rw[key,if_pos h,qp8 hm (by omega) (by omega)]⟩
 · exact⟨_,qp6 (a:=(k:Int)-8) (e:=0) (by omega) (by omega),fun m hm=>by rw[key,if_neg h,qp8 hm (by omega) (by omega)]⟩
def negF (f:Int):Int:=if 9223372036854775808≤f then f-9223372036854775808 else f+9223372036854775808
theorem qpi {n:Nat} (h:n<18446744073709551616):qpa .u64 (n:Int) 9223372036854775808=negF (n:Int):=by
 unfold qpa
 show IntKind.wrap .u64 ((BitVec.ofInt 64 (n:Int)^^^BitVec.ofInt 64 ((9223372036854775808:Nat):Int)).toNat:Int)=_
 rw[BitVec.toNat_xor,ofInt64 h,ofInt64 (by omega)]
 have e:n^^^9223372036854775808=if 9223372036854775808≤n then n-9223372036854775808 else n+9223372036854775808:=by
  have hb:(9223372036854775808:Nat)=2^63*1:=by decide
  by_cases c:9223372036854775808≤n
  · rw[if_pos c]
    obtain⟨r,rfl⟩: ∃r,n=2^63*1+r:=⟨n-9223372036854775808,by omega⟩
    have hr:r<2^63:=by omega
    rw[Nat.two_pow_add_eq_or_of_lt hr,hb]
    apply Nat.eq_of_testBit_eq
    intro i
    simp only[Nat.testBit_xor,Nat.testBit_or,Nat.mul_one,Nat.testBit_two_pow]
    have:2^63+r-2^63=r:=by omega
    rw[←Nat.mul_one (2^63),←Nat.two_pow_add_eq_or_of_lt hr,Nat.mul_one,this]
    by_cases c2:63=i
    · subst c2
      rw[Nat.testBit_lt_two_pow hr];simp
    · simp[c2]
  · rw[if_neg c]
    have hr:n<2^63:=by omega
    rw[Nat.add_comm,hb,Nat.two_pow_add_eq_or_of_lt hr]
    apply Nat.eq_of_testBit_eq
    intro i
    simp only[Nat.testBit_xor,Nat.testBit_or,Nat.mul_one,Nat.testBit_two_pow]
    by_cases c2:63=i
    · subst c2
      rw[Nat.testBit_lt_two_pow hr];simp
    · simp[c2]
 rw[e]
 unfold negF
 by_cases c:9223372036854775808≤n
 · rw[if_pos c,if_pos (by omega),wu (by omega) (by omega)];omega
 · rw[if_neg c,if_neg (by omega),wu (by omega) (by omega)];omega
theorem qp3 {f:Int} (h:U64 f):U64 (negF f)∧fexp (negF f)=fexp f∧ffrac (negF f)=ffrac f∧fneg (negF f)= !fneg f:=by
 obtain⟨h1,h2⟩:=h
 unfold negF U64 fexp ffrac fneg
 split
 · refine⟨by omega,by omega,by omega,?_⟩
   rw[show decide (9223372036854775808≤f-9223372036854775808)=false by rw[decide_eq_false_iff_not];omega,show decide (9223372036854775808≤f)=true by rw[decide_eq_true_eq];omega];rfl
 · refine⟨by omega,by omega,by omega,?_⟩
   rw[show decide (9223372036854775808≤f+9223372036854775808)=true by rw[decide_eq_true_eq];omega,show decide (9223372036854775808≤f)=false by rw[decide_eq_false_iff_not];omega];rfl
section
variable {R C:Nat} {S I V:List Int}
end
end Go.Vs.F
set_option maxRecDepth 100000
namespace Go.Vs.F
theorem qoq {es:List Ent} {r c:Nat} {x:Int} (h:x∈packV es r c): ∃e∈es,e.2.2=x:=by
 rw[←can_V]at h
 obtain⟨e,he,rfl⟩:=List.mem_map.1 h
 obtain⟨i,j,_,_,hl,rfl⟩:=q9f.1 he
 exact⟨_,qp2 hl,rfl⟩
section
variable {R C:Nat} {S I V:List Int}
end
theorem qoo {N:Nat} (hn:N≤100) (l:List Int) (hl:l.length≤100000) (a0 a1:Int) (a2 a3 a4:List Int): ∀(d k:Nat) (es:List Ent),N-k≤d→k≤N→EntsOK N N es→(∀e∈es,SmV e.2.2)→es.length≤k→
 ∃es',EntsOK N N es'∧(∀e∈es',SmV e.2.2)∧es'.length≤N∧ ∀m n,3000000<m→d<n→g9_L0 m n (N:Int) l a0 a1 a2 a3 a4 es (k:Int)=some (.inl ((N:Int),l,(a0,a1,a2,a3,a4,()),es',()))
 |d,k,es,hd,hk,hE,hG,hk2=>by
  by_cases h:k<N
  · obtain⟨x,hx⟩:=qpm l k
    obtain⟨v,hv,ev⟩:=qov (w_i64 (x+1))
    cases d with
    |zero=>omega
    |succ d=>
     obtain⟨es',g1,g0,g2,g3⟩:=qoo hn l hl a0 a1 a2 a3 a4 d (k+1) (es++[((k:Int),((k:Int),v))]) (by omega) (by omega) (hE.snoc (by omega) (by omega) hv.fin) (fun e he=>by
      rcases List.mem_append.1 he with he|he
      · exact hG e he
      · rw[List.mem_singleton]at he;subst he;exact hv) (by simp;omega)
     refine⟨es',g1,g0,g2,fun m n hm hdn=> ?_⟩
     obtain⟨n,rfl⟩: ∃n',n=n'+1:=⟨n-1,by omega⟩
     rw[g9_L0,bif_decide,if_pos (by omega),hx m,Option.bind_some]
     dsimp only
     rw[ev m hm,Option.bind_some]
     dsimp only
     rw[if_pos (by simp;omega),show w_i64 ((k:Int)+1)=((k+1:Nat):Int)from wsucc (by omega)]
     exact g3 m n hm (by omega)
  · refine⟨es,hE,hG,by omega,fun m n hm hdn=> ?_⟩
    obtain⟨n,rfl⟩: ∃n',n=n'+1:=⟨n-1,by omega⟩
    rw[g9_L0,bif_decide,if_neg (by omega)]
theorem qor {N:Nat} (hn:N≤100) (l:List Int) (hl:l.length≤100000) (a0 a1:Int) (a2 a3 a4:List Int): ∀(d k:Nat) (es:List Ent),l.length-k≤d→k≤l.length+200→EntsOK N N es→(∀e∈es,SmV e.2.2)→es.length≤N+k→
 ∃es',EntsOK N N es'∧(∀e∈es',SmV e.2.2)∧es'.length≤N+l.length+200∧ ∀m n,3000000<m→d<n→ ∃z0 z1 z2 z3 z4,g9_L1 m n (N:Int) l a0 a1 a2 a3 a4 es (k:Int)=some (.inl ((N:Int),(z0,z1,z2,z3,z4,()),es',()))
 |d,k,es,hd,hk,hE,hG,hk2=>by
  have e2:w_i64 ((k:Int)+2)=((k+2:Nat):Int):=wi (by omega) (by omega)
  have e1:w_i64 ((k:Int)+1)=((k+1:Nat):Int):=wsucc (by omega)
  have e3:w_i64 ((k:Int)+3)=((k+3:Nat):Int):=wi (by omega) (by omega)
  by_cases h:k+2<l.length
  · by_cases h1:0<N
    · obtain⟨i,hi,ei⟩:=qoh (a:=l.getD k 0) (n:=N) h1 (by omega)
      obtain⟨j,hj,ej⟩:=qoh (a:=l.getD (k+1) 0) (n:=N) h1 (by omega)
      obtain⟨v,hv,ev⟩:=qov (l.getD (k+2) 0)
      cases d with
      |zero=>omega
      |succ d=>
       obtain⟨es',g1,g0,g2,g3⟩:=qor hn l hl a0 a1 a2 a3 a4 d (k+3) (es++[((i:Int),((j:Int),v))]) (by omega) (by omega) (hE.snoc (by omega) (by omega) hv.fin) (fun e he=>by
        rcases List.mem_append.1 he with he|he
        · exact hG e he
        · rw[List.mem_singleton]at he;subst he;exact hv) (by simp;omega)
       refine⟨es',g1,g0,g2,fun m n hm hdn=> ?_⟩
       obtain⟨n,rfl⟩: ∃n',n=n'+1:=⟨n-1,by omega⟩
       rw[g9_L1,bif_decide,e2,e1,e3,bif_decide]
       rw[if_pos (by omega),if_pos (by omega),if_pos (by omega),Int.toNat_natCast,Int.toNat_natCast,Int.toNat_natCast,ei,ej,ev m hm]
       simp only[Option.bind_some]
       rw[if_pos (by omega),if_pos (by omega),if_pos (by simp;omega)]
       exact g3 m n hm (by omega)
    · refine⟨es,hE,hG,by omega,fun m n hm hdn=> ?_⟩
      obtain⟨n,rfl⟩: ∃n',n=n'+1:=⟨n-1,by omega⟩
      rw[g9_L1,bif_decide,e2,e1,e3,bif_decide,if_pos (by omega),if_neg (by omega)]
      exact⟨_,_,_,_,_,rfl⟩
  · refine⟨es,hE,hG,by omega,fun m n hm hdn=> ?_⟩
    obtain⟨n,rfl⟩: ∃n',n=n'+1:=⟨n-1,by omega⟩
    rw[g9_L1,bif_decide,e2,e1,e3,bif_decide,if_neg (by omega)]
    exact⟨_,_,_,_,_,rfl⟩
theorem qot {N:Nat} (hn:N≤100) {l:List Int} (hl:l.length≤10000): ∃es,EntsOK N N es∧(∀e∈es,SmV e.2.2)∧ ∀m,3000000<m→
 g9 m (N:Int) l=some (((N:Int),(N:Int),packS es N N,packI es N N,packV es N N,()),(),(),()):=by
 obtain⟨es,h2,h0,h3,h1⟩:=qoo hn l (by omega) 0 0 [] [] [] N 0 [] (by omega) (by omega) (fun k hk=>absurd hk (Nat.not_lt_zero _)) (fun e he=>by cases he) (Nat.le_refl _)
 obtain⟨es',k2,k0,k3,k1⟩:=qor hn l (by omega) 0 0 [] [] [] l.length N es (by omega) (by omega) h2 h0 (by omega)
 refine⟨es',k2,k0,fun m hm=> ?_⟩
 have h1:=h1 m m hm (by omega)
 obtain⟨z0,z1,z2,z3,z4,k1⟩:=k1 m m hm (by omega)
 simp only[Int.natCast_zero]at h1
 rw[g9,h1]
 simp only[Option.bind_some]
 rw[k1]
 simp only[Option.bind_some]
 rw[qi3 k2 (by omega) (by omega) (by omega) (by omega)]
 rfl
end Go.Vs.F
