/-Exact floats of dyads:program and document. Scaling a matrix:program and document. The exponent of a float,by both. Scale and Shift of a matrix:program and document agree. Shifting a matrix:program and document agree;the law MatrixScales. Numbers that floats have:rounding is exact. Made values,and shifting exactly. The law MatrixShifted. -/
import Derived.Test.YtkfooaihogahcaaGreatDoorLe
import Derived.Test.YtkfooaihogahcaaGreatDoorLb
set_option linter.unusedVariables false
set_option linter.unusedSimpArgs false
namespace Go.Vs.F
theorem q4f {neg:Bool} {f:Int} (h1:0<=f) (h2:f<9223372036854775808):U64 (sgnF neg f):=by
 unfold sgnF U64;cases neg<;>simp<;>omega
theorem qcd {neg:Bool} {mode:Int}:U64 (overF neg mode):=by
 unfold overF;split<;>exact q4f O O
theorem qk6 {neg:Bool} {n:Nat} {u mode:Int} (h1: -1074<=u) (hn:n<=9007199254740992):U64 (packF neg n u mode):=by
 unfold packF;split
 . split
   . exact qcd
   . exact q4f O O
 . split
   . exact q4f O O
   . split
     . exact qcd
     . exact q4f O O
theorem qh5 {neg:Bool} {v:Nat} {e:Int} {more:Bool} {mode:Int}:U64 (q0t neg v e more mode):=qk6 (q9b v e) q99
theorem q0q {d:Bool×Bool×LI×Int×Unit} {mode:Int}:U64 (Qv d mode):=by
 unfold Qv;split
 . exact⟨O,O⟩
 . split
   . exact⟨O,O⟩
   . exact qh5
def exB (z e:Int):Bool:=decide (FinF (Qv (mkD z e) 0)/\OkD z e/\sc (ofZ (Qv (mkD z e) 0)) (ofE (Qv (mkD z e) 0)) (min (ofE (Qv (mkD z e) 0)) e)=sc z e (min (ofE (Qv (mkD z e) 0)) e))
theorem qbg {a b:Int}:cmpZ a b=0↔a=b:=by unfold cmpZ;repeat' split
                                         all_goals omega
theorem q7h {m:Nat} (hm:3000000<m) {z e:Int}:g32 m (mkD z e).1 (mkD z e).2.1 (mkD z e).2.2.1 (mkD z e).2.2.2.1=some ((Qv (mkD z e) 0,exB z e,()),(),())/\
 g110 m (mkD z e).1 (mkD z e).2.1 (mkD z e).2.2.1 (mkD z e).2.2.2.1=some ((Qv (mkD z e) 0,exB z e,()),(),()):=by
 have hU:=q0q (d:=mkD z e) (mode:=0);rw[g32,g110,q98 hm,qi5 hm,bS,bS];dsimp only;rw[Of_eq hm hU,qhq hm hU,bS,bS];dsimp only;unfold exB ofD;generalize Qv (mkD z e) 0=f at*;by_cases hf:FinF f
 . rw[iP hf];have e1:mkD (ofZ f) (ofE f)=mkD (sc (ofZ f) (ofE f) (min (ofE f) e)) (min (ofE f) e):=(q80 O).symm;have e2:mkD z e=mkD (sc z e (min (ofE f) e)) (min (ofE f) e):=(q80 O).symm;have o2:OkD z e↔OkD (sc z e (min (ofE f) e)) (min (ofE f) e):=by unfold OkD;rw[<-e2]
   have o1:OkD (sc (ofZ f) (ofE f) (min (ofE f) e)) (min (ofE f) e):=by have:=qb3 hf;unfold OkD at*;rwa [<-e1]
   rw[e1,e2,qj7 hm,qf7 hm,bS];by_cases hz:OkD z e
   . have h2:=o2.1 hz;rw[iP ⟨o1,h2⟩];dsimp only;rw[cond_true]
     have:(cmpZ (sc (ofZ f) (ofE f) (min (ofE f) e)) (sc z e (min (ofE f) e))==0)=decide (FinF f/\OkD z e/\sc (ofZ f) (ofE f) (min (ofE f) e)=sc z e (min (ofE f) e)):=by
      by_cases c:sc (ofZ f) (ofE f) (min (ofE f) e)=sc z e (min (ofE f) e)
      . rw[qbg.2 c,decide_eq_true ⟨hf,hz,c⟩];rfl
      . rw[decide_eq_false (fun h=>c h.2.2)]
        have:=mt qbg.1 c;simpa using this
     rw[this];exact⟨rfl,rfl⟩
   . rw[iN' (fun h=>hz (o2.2 h.2)),decide_eq_false (fun h=>hz h.2.1)]
     exact⟨rfl,rfl⟩
 . rw[iN' hf,decide_eq_false (fun h=>hf h.1)]
   have b0:((true,false,[],0,()):Bool×Bool×LI×Int×Unit)=mkD 1 100000:=by
    rw[q27];rw[Xy];rintro (h|⟨h,_⟩)
    . omega
    . omega
   have hn: ¬OkD 1 100000:=by rw[Xy];rintro (h|⟨h,_⟩)<;>omega
   have e0:mkD 1 100000=mkD (sc 1 100000 (min 100000 e)) (min 100000 e):=(q80 O).symm;have e2:mkD z e=mkD (sc z e (min 100000 e)) (min 100000 e):=(q80 O).symm;have n2: ¬OkD (sc 1 100000 (min 100000 e)) (min 100000 e):=by unfold OkD at*;rwa [<-e0]
   rw[b0,e0,e2,qj7 hm,qf7 hm,iN' (fun h=>n2 h.1)]
   exact⟨rfl,rfl⟩
theorem qii {z e:Int} (h:exB z e=true):finB (Qv (mkD z e) 0)=true:=by
 rw[q5c q0q];exact decide_eq_true (of_decide_eq_true h).1
theorem qez {z e:Int} (h: ¬OkD z e):exB z e=false:=decide_eq_false fun k=>h k.2.1
def I64 (a:Int):Prop:= -9223372036854775808<=a/\a<9223372036854775808
theorem qnf {a b:Int}:wI (a+b)=(a+b+9223372036854775808)%18446744073709551616-9223372036854775808:=by
 rw[wQ];unfold IntKind.wrap;show(if(true&&decide ((a+b)%18446744073709551616>=9223372036854775808))=true then(a+b)%18446744073709551616-18446744073709551616 else(a+b)%18446744073709551616)=_
 rw[Bool.true_and];split
 . rename_i h;simp only[decide_eq_true_eq]at h;omega
 . rename_i h;simp only[decide_eq_true_eq]at h;omega
def kindN (f:Int):Int:=if fexp f=2047 then(if ffrac f=0 then 2 else 3)else if fexp f=0/\ffrac f=0 then 0 else 1
theorem qeh {m:Nat} {f:Int} (h:U64 f):g31 m f=some (kindN f,(),())/\g55 m f=some (kindN f,(),()):=by
 have hl:=q56 f;rw[g31,parts_eq h,bS,g55,(qco h).1,(qco h).2];simp only[bif_eq,bif_ne];unfold kindN;by_cases c:fexp f=2047
 . by_cases d:ffrac f=0
   . simp[c,d]
   . simp[c,d]
 . by_cases e:fexp f=0
   . by_cases d:ffrac f=0
     . simp[e,d]
     . simp[e,d]
   . simp[c,e]
theorem q4t {f:Int}:kindN f=0↔fexp f=0/\ffrac f=0:=by
 unfold kindN;by_cases c:fexp f=2047
 . rw[iP c];split<;>omega
 . rw[iN' c];split<;>simp_all
theorem q29 {f:Int}:ofZ f=0↔fexp f=0/\ffrac f=0:=by
 have h1:=q4c f;unfold ofZ;by_cases e:fexp f=0
 . rw[iP e];cases fneg f<;>simp<;>omega
 . rw[iN' e];cases fneg f<;>simp<;>omega
def farN (n:Int):Int:=max (-100000) (min 100000 n)
theorem qdq {f n:Int} (hf:FinF f) (hz:ofZ f≠0) (hn:100000<=n\/n<= -100000): ¬OkD (ofZ f) (ofE f+n):=by
 have h1:=qan (f:=f);have h2:=q5o f;have h3:=q0c (n:=(ofZ f).natAbs);have h4:1<=blen (ofZ f).natAbs:=by rw[Qx O];omega
 rw[Xy]
 rintro (h|⟨h,g⟩)
 . exact hz h
 . omega
theorem qly {f n:Int} (hf:FinF f) (hz:ofZ f≠0):mkD (ofZ f) (ofE f+Qd n)=mkD (ofZ f) (ofE f+Qd (farN n))/\exB (ofZ f) (ofE f+Qd n)=exB (ofZ f) (ofE f+Qd (farN n)):=by
 by_cases h: -100000<=n/\n<=100000
 . have:farN n=n:=by unfold farN;omega
   rw[this];exact⟨rfl,rfl⟩
 . have b1:=qdq (n:=Qd n) hf hz (by unfold Qd;omega)
   have b2:=qdq (n:=Qd (farN n)) hf hz (by unfold Qd farN;omega)
   rw[q27 b1,q27 b2,qez b1,qez b2];exact⟨rfl,rfl⟩
theorem qdv {z e b:Int} (hz:z≠0) (h:b<=e):(blen (sc z e b).natAbs:Int)=e-b+(blen z.natAbs:Int):=by
 unfold sc;rw[Y7,Zi O];omega
theorem EqD.log {z e w f:Int} (h:EqD z e w f) (hz:z≠0):e+(blen z.natAbs:Int)=f+(blen w.natAbs:Int):=by
 obtain⟨b,h1,h2,h3⟩:=h
 have hw:w≠0:=fun e0=>by
  subst e0;have h4:=qdv hz h1;unfold Vs.F.sc at h3;rw[Int.zero_mul]at h3;rcases Int.mul_eq_zero.1 h3 with h5|h5
  . exact hz h5
  . have:=q0l (e-b).toNat;omega
 have h4:=qdv hz h1;have h5:=qdv hw h2;rw[h3]at h4;omega
def log2M (z e:Int):Int×Bool×Unit:=if OkD z e/\z≠0 then(e+(blen z.natAbs:Int)-1,true,())else(0,false,())
theorem qim {z e w f:Int} (k:NF z e w f) (h:OkD z e) (hz:z≠0):wI (wI (f+(blen w.natAbs:Int))-1)=e+(blen z.natAbs:Int)-1:=by
 have h1:=k.eq.symm.log hz;have h2:=k.len;have h3:=k.lo;have h4:=k.hi;have a1:=wi (n:=f+(blen w.natAbs:Int)) O O;rw[wQ,wQ,a1,wi O O];omega
theorem qld {m:Nat} (hm:3000000<m) {z e:Int}:g136 m (mkD z e).1 (mkD z e).2.1 (mkD z e).2.2.1 (mkD z e).2.2.2.1=some (log2M z e,(),()):=by
 rw[g136,q5x hm];simp only[bS];unfold log2M;by_cases h:OkD z e
 . obtain⟨w,f,k,e1,e2,e3⟩:=Yh h;rw[e1,e2,e3,q1b (m:=m) O k.Sz];simp only[h,decide_true,Bool.not_true,cond_false,bS,zv_zB,bif_eq,true_and];by_cases hz:z=0
   . have hw:sgn w=0:=by rw[k.sgn,hz];rfl
     rw[iP hw,iN' (fun c=>c hz)]
   . have hw: ¬sgn w=0:=by rw[k.sgn,Qs];exact hz
     rw[iN' hw,iP hz,q1w (m:=m) O k.Sz];simp only[bS,<-Xh (neg:=(zB w).1),zv_zB];rw[qim k h hz]
 . simp only[h,decide_false,Bool.not_false,cond_true,false_and,if_false]
theorem qin {m:Nat} (hm:3000000<m) {z e:Int}:g138 m (mkD z e).1 (mkD z e).2.1 (mkD z e).2.2.1 (mkD z e).2.2.2.1=some (log2M z e,(),()):=by
 rw[g138,Jq hm];simp only[bS,ql9];unfold log2M;by_cases h:OkD z e
 . obtain⟨w,f,k,e1,e2,e3⟩:=Yh h;rw[e1,e2,e3,J5 (m:=m) O k.Sz];simp only[h,not_true_eq_false,decide_false,cond_false,bS,zv_zB,bif_eq,true_and];by_cases hz:z=0
   . have hw:sgn w=0:=by rw[k.sgn,hz];rfl
     rw[iP hw,iN' (fun c=>c hz)]
   . have hw: ¬sgn w=0:=by rw[k.sgn,Qs];exact hz
     rw[iN' hw,iP hz,q34 (m:=m) O k.Sz];simp only[bS,<-Xh (neg:=(zB w).1),zv_zB];rw[qim k h hz]
 . simp only[h,not_false_eq_true,decide_true,cond_true,false_and,if_false]
def expOf (v:Int):Int×Bool:=if ofZ v=0 then(0,false)else(ofE v+(blen (ofZ v).natAbs:Int)-1,true)
structure GoodV (v:Int):Prop where
 u:U64 v
 f:FinF v
theorem GoodV.lo {v:Int} (h:GoodV v): -1100<=(expOf v).1/\(expOf v).1<=1100:=by
 unfold expOf;split
 . exact⟨by decide,by decide⟩
 . have:=qan (f:=v);have:=q5o v;simp only;omega
theorem GoodV.float {v:Int} (h:GoodV v) {m:Nat} (hm:3000000<m):g88 m v=some (((expOf v).1,(expOf v).2,()),(),()):=by
 rw[g88,Of_eq hm h.u];unfold ofD;rw[iP h.f];simp only[bS];rw[qld hm];unfold log2M expOf;have hok:=qb3 h.f;by_cases hz:ofZ v=0
 . rw[iP hz,iN' (fun c=>c.2 hz)];rfl
 . rw[iN' hz,iP ⟨hok,hz⟩];rfl
theorem GoodV.ref {v:Int} (h:GoodV v) {m:Nat} (hm:3000000<m):g93 m v=some (((expOf v).1,(expOf v).2,()),(),()):=by
 rw[g93,(qeh (m:=m) h.u).2];simp only[bS,bif_ne]
 have hk:kindN v=1↔ofZ v≠0:=by
  rw[ne_eq,q29];unfold kindN;rw[iN' h.f];split<;>simp_all
 unfold expOf;by_cases hz:ofZ v=0
 . rw[iN' (fun c=>(hk.1 c) hz),iP hz]
 . rw[iP (hk.2 hz),iN' hz,qhq hm h.u];unfold ofD;rw[iP h.f];simp only[bS];rw[qin hm];unfold log2M;rw[iP ⟨qb3 h.f,hz⟩];rfl
theorem qke:GoodV 0:=⟨by unfold U64;omega,by unfold FinF fexp;omega⟩
theorem qkz:(expOf 0).2=false:=by
 unfold expOf;rw[iP (q29.2 ⟨by unfold fexp;omega,by unfold ffrac;omega⟩)]
end Go.Vs.F
set_option maxRecDepth 100000
namespace Go.Vs.F
abbrev MRes:=((Int×Int×LI×LI×LI×Unit)×Int×Unit)
def q51 (x:MRes):Prop:=x.1.2.2.1.length<=100000/\x.1.2.2.2.1.length<=100000/\x.1.2.2.2.2.1.length<=100000
section
variable {R C:Nat} {S I V:LI}
theorem qmu {m:Nat} {xs:LI} {t:Int} (hl:xs.length<=100000) (hm:100001<m) (ha: ∀i j,i<j->j<xs.length->xs.getD i 0<xs.getD j 0) (hn: ∀k,k<xs.length->xs.getD k 0≠t):
 ∃r:Nat,g115 m xs t=some (((r:Int),false,()),(),(),()):=by
 obtain⟨r,e,h1,h2,h3⟩:=BS_L0 m (t:=t) (a:=(xs.length:Int)) hl ha m 0 xs.length O O (Nat.le_refl _) (fun k hk=>absurd hk (Nat.not_lt_zero _)) (fun k a b=>O)
 rw[nZ]at e;refine⟨r,?_⟩;rw[g115,e,bS];dsimp only;rw[bQ];by_cases c:r<xs.length
 . have c1:(0:Int)<=(r:Int)/\(r:Int)<(xs.length:Int):=O;rw[iP O,iP c1,tN,bif_eq,iN' (hn r c),iP c1,g151,bS];simp
 . rw[iN' O]
theorem qn9 {m:Nat} (hm:3000000<m) (h:MV R C S I V) {i:Int} {j':Nat} (hjC:j'<C) (hn: ∀v,((i,((j':Int),v)):Ent)∉ents S I V C 0):g69 m (R:Int) (C:Int) S I V i (j':Int)=some ((0,false,()),(),(),(),()):=by
 have hl:=h.ok.st.len;have hsz:=h.ok.sz;have hcz:=h.ok.cz;have hvl:=h.vl;have a:=h.ok.st.rng (j:=j') O;have b:=h.ok.st.rng (j:=j'+1) O;have mo:=h.ok.st.mono j' hjC;have c1:(0:Int)<=(j':Int)/\(j':Int)<(S.length:Int):=O;have c2:(0:Int)<=((j'+1:Nat):Int)/\((j'+1:Nat):Int)<(S.length:Int):=O;have c3:(0:Int)<=S.getD j' 0/\S.getD j' 0<=S.getD (j'+1) 0/\S.getD (j'+1) 0<=(I.length:Int):=O;have hcl:=Yz h.ok.st hjC;have hcg: ∀k,k<(colOf S I j').length->(colOf S I j').getD k 0=I.getD ((S.getD j' 0).toNat+k) 0:=fun k hk=>q1x h.ok.st hjC hk
 obtain⟨r,hbs⟩:=qmu (m:=m) (xs:=colOf S I j') (t:=i) O O (fun x y hxy hy=>by
  rw[hcg x O,hcg y hy];have:=h.ok.asc hjC (y-x-1) ((S.getD j' 0).toNat+x) O O;rw[show(S.getD j' 0).toNat+x+(y-x-1+1)=(S.getD j' 0).toNat+y by omega]at this
  exact this) (fun k hk e=>by
  rw[hcg k hk]at e;exact hn (V.getD ((S.getD j' 0).toNat+k) 0) (Qw.2 ⟨j',(S.getD j' 0).toNat+k,O,O,O,O,by rw[e]⟩))
 rw[g69,iP c1,show wI ((j':Int)+1)=((j'+1:Nat):Int)from wsucc O,iP c2]
 simp only[tN];rw[iP c3];have hbs':g115 m ((I.drop (S.getD j' 0).toNat).take ((S.getD (j'+1) 0).toNat-(S.getD j' 0).toNat)) i=some (((r:Int),false,()),(),(),()):=hbs;rw[hbs',bS];simp only[Bool.not_false,cond_true]
theorem qft (m:Nat) {i:Int} {j:Nat} (hj:j+1<S.length) (hj2:j<4611686018427387903) {e:Nat} (he:S.getD (j+1) 0=(e:Int)) (hI:e<=I.length) (hv:V.length=I.length) (hb:I.length<=100000) (a0 a1:Int): ∀(n k:Nat),e-k<n->k<=e->
 (∃t,k<=t/\t<e/\I.getD t 0=i/\g94L0 m n i (j:Int) a0 a1 S I V (k:Int)=some (.inl (V.getD t 0,())))\/
 ((∀t,k<=t->t<e->I.getD t 0≠i)/\g94L0 m n i (j:Int) a0 a1 S I V (k:Int)=some (.inr (.inl ())))
 |0,k,h,_=>O
 |n+1,k,h,hk0=>by
  have w:wI ((j:Int)+1)=((j+1:Nat):Int):=wsucc O;rw[g94L0,w,iP O,tN,he,bQ];by_cases hk:k<e
  . rw[iP O,iP O,tN,bif_eq];by_cases c:I.getD k 0=i
    . rw[iP c,iP O];exact .inl ⟨k,Nat.le_refl _,hk,c,rfl⟩
    . rw[iN' c,show wI ((k:Int)+1)=((k+1:Nat):Int)from wsucc O]
      rcases qft m hj hj2 he hI hv hb a0 a1 n (k+1) O O with⟨t,h1,h2,h3,h4⟩|⟨h1,h2⟩
      . exact .inl ⟨t,O,h2,h3,h4⟩
      . refine .inr ⟨fun t a b=> ?_,h2⟩
        by_cases e:t=k
        . subst e;exact c
        . exact h1 t O b
  . rw[iN' O];exact .inr ⟨fun t a b=>O,rfl⟩
theorem qnt {m:Nat} (hm:3000000<m) (h:MV R C S I V) {i:Int} {j:Nat} (hj:j<C):
 ∃v b,g69 m (R:Int) (C:Int) S I V i (j:Int)=some ((v,b,()),(),(),(),())/\g94 m (R:Int) (C:Int) S I V i (j:Int)=some (v,(),(),(),())/\
  ((b=true/\((i,((j:Int),v)):Ent)∈ents S I V C 0)\/(b=false/\v=0/\ ∀v',((i,((j:Int),v')):Ent)∉ents S I V C 0)):=by
 have hl:=h.ok.st.len;have hsz:=h.ok.sz;have hcz:=h.ok.cz;have hvl:=h.vl;have a:=h.ok.st.rng (j:=j) O;have b:=h.ok.st.rng (j:=j+1) O;have mo:=h.ok.st.mono j hj;have c1:(0:Int)<=(j:Int)/\(j:Int)<(S.length:Int):=O;have e1:S.getD j 0=(((S.getD j 0).toNat:Nat):Int):=O
 have hpre:g94 m (R:Int) (C:Int) S I V i (j:Int)=(g94L0 m m i (j:Int) (R:Int) (C:Int) S I V (((S.getD j 0).toNat:Nat):Int)).bind fun y2=>match y2 with
  | .inl z3=>some (z3.1,((),(),(),()))
  | .inr (.inl z4)=>some (0,((),(),(),()))
  | .inr (.inr e)=>e.elim:=by
  rw[g94,Xm O O O,h.chk];simp only[bS,bif_ne,if_true,bQ];rw[iN' O,iN' O,iP c1,tN,<-e1];rfl
 have hr:=qft (S:=S) (I:=I) (V:=V) m (i:=i) (j:=j) O O (e:=(S.getD (j+1) 0).toNat) O O hvl O (R:Int) (C:Int) m (S.getD j 0).toNat O O;by_cases hx: ∃v,((i,((j:Int),v)):Ent)∈ents S I V C 0
 . obtain⟨v,hv⟩:=hx;refine⟨v,true,qm0 hm h hv,?_,.inl ⟨rfl,hv⟩⟩;rcases hr with⟨t,h1,h2,h3,h4⟩|⟨h1,h2⟩
   . rw[hpre,h4,bS];have:((i,((j:Int),V.getD t 0)):Ent)∈ents S I V C 0:=Qw.2 ⟨j,t,O,O,O,O,by rw[h3]⟩
     rw[h.dist.val hv this]
   . obtain⟨j',t,_,hj',t1,t2,e⟩:=Qw.1 hv;simp only[Prod.mk.injEq]at e;obtain⟨q1,q2,q3⟩:=e;have:j=j':=O;subst this;exact absurd q1.symm (h1 t t1 t2)
 . have hx': ∀v',((i,((j:Int),v')):Ent)∉ents S I V C 0:=fun v' hv=>hx ⟨v',hv⟩
   refine⟨0,false,qn9 hm h hj hx',?_,.inr ⟨rfl,rfl,hx'⟩⟩;rcases hr with⟨t,h1,h2,h3,h4⟩|⟨h1,h2⟩
   . exact absurd (Qw.2 ⟨j,t,O,O,O,O,by rw[h3]⟩) (hx' (V.getD t 0))
   . rw[hpre,h2,bS]
end
end Go.Vs.F
set_option maxRecDepth 100000
namespace Go.Vs.F
section
variable {R C:Nat} {S I V:LI}
end
open Go.Vs
theorem wf64 {x:Int} (h:(Lit.int .i64 x).wf=true):I64 x:=by
 simp only[Lit.wf,Bool.and_eq_true,decide_eq_true_eq]at h;exact⟨h.1,by have h2:x<=9223372036854775807:=h.2;omega⟩
theorem wfu64 {x:Int} (h:(Lit.int .u64 x).wf=true):U64 x:=by
 simp only[Lit.wf,Bool.and_eq_true,decide_eq_true_eq]at h;exact⟨h.1,by have h2:x<=18446744073709551615:=h.2;omega⟩
theorem wfI {xs:LI} (h:wfC (.imm (.int .i64)) xs): ∀x∈xs,I64 x:=fun x hx=>wf64 (h.1 x hx)
theorem wfU {xs:LI} (h:wfC (.imm (.int .u64)) xs): ∀x∈xs,U64 x:=fun x hx=>wfu64 (h.1 x hx)
end Go.Vs.F
set_option maxRecDepth 100000
namespace Go.Vs.F
section
variable {R C:Nat} {S I V:LI}
end
end Go.Vs.F
set_option maxRecDepth 100000
namespace Go.Vs.F
section
variable {R C:Nat} {S I V:LI}
end
end Go.Vs.F
