/-Exact floats of dyads:program and document. Scaling a matrix:program and document. The exponent of a float,by both. Scale and Shift of a matrix:program and document agree. Shifting a matrix:program and document agree;the law MatrixScales. Numbers that floats have:rounding is exact. Made values,and shifting exactly. The law MatrixShifted. -/
import Derived.Test.YtkfooaihogahcaaGreatDoorLe
import Derived.Test.YtkfooaihogahcaaGreatDoorLb
set_option linter.unusedVariables false
set_option linter.unusedSimpArgs false
namespace Go.Vs.F
theorem q4f {neg:Bool} {f:Int} (h1:0<=f) (h2:f<9223372036854775808):U64 (sgnF neg f):=by
 unfold sgnF U64;cases neg<;>simp<;>omega
theorem qcd {neg:Bool} {mode:Int}:U64 (overF neg mode):=by
 unfold overF;split<;>exact q4f O O
theorem qk6 {neg:Bool} {n:Nat} {u mode:Int} (h1: -1074<=u) (hn:n<=9007199254740992):U64 (packF neg n u mode):=by
 unfold packF;split
 . split
   . exact qcd
   . exact q4f O O
 . split
   . exact q4f O O
   . split
     . exact qcd
     . exact q4f O O
theorem qh5 {neg:Bool} {v:Nat} {e:Int} {more:Bool} {mode:Int}:U64 (q0t neg v e more mode):=qk6 (q9b v e) q99
theorem q0q {d:Bool×Bool×LI×Int×Unit} {mode:Int}:U64 (Qv d mode):=by
 unfold Qv;split
 . exact⟨O,O⟩
 . split
   . exact⟨O,O⟩
   . exact qh5
def exB (z e:Int):Bool:=decide (FinF (Qv (mkD z e) 0)/\OkD z e/\sc (ofZ (Qv (mkD z e) 0)) (ofE (Qv (mkD z e) 0)) (min (ofE (Qv (mkD z e) 0)) e)=sc z e (min (ofE (Qv (mkD z e) 0)) e))
theorem qbg {a b:Int}:cmpZ a b=0↔a=b:=by unfold cmpZ;repeat' split
                                         all_goals omega
theorem q7h {m:Nat} (hm:3000000<m) {z e:Int}:g32 m (mkD z e).1 (mkD z e).2.1 (mkD z e).2.2.1 (mkD z e).2.2.2.1=some ((Qv (mkD z e) 0,exB z e,()),(),())/\
 g110 m (mkD z e).1 (mkD z e).2.1 (mkD z e).2.2.1 (mkD z e).2.2.2.1=some ((Qv (mkD z e) 0,exB z e,()),(),()):=by
 have hU:=q0q (d:=mkD z e) (mode:=0);rw[g32,g110,q98 hm,qi5 hm,bS,bS];dsimp only;rw[Of_eq hm hU,qhq hm hU,bS,bS];dsimp only;unfold exB ofD;generalize Qv (mkD z e) 0=f at*;by_cases hf:FinF f
 . rw[iP hf];have e1:mkD (ofZ f) (ofE f)=mkD (sc (ofZ f) (ofE f) (min (ofE f) e)) (min (ofE f) e):=(q80 O).symm;have e2:mkD z e=mkD (sc z e (min (ofE f) e)) (min (ofE f) e):=(q80 O).symm;have o2:OkD z e↔OkD (sc z e (min (ofE f) e)) (min (ofE f) e):=by unfold OkD;rw[<-e2]
   have o1:OkD (sc (ofZ f) (ofE f) (min (ofE f) e)) (min (ofE f) e):=by have:=qb3 hf;unfold OkD at*;rwa [<-e1]
   rw[e1,e2,qj7 hm,qf7 hm,bS];by_cases hz:OkD z e
   . have h2:=o2.1 hz;rw[iP ⟨o1,h2⟩];dsimp only;rw[cond_true]
     have:(cmpZ (sc (ofZ f) (ofE f) (min (ofE f) e)) (sc z e (min (ofE f) e))==0)=decide (FinF f/\OkD z e/\sc (ofZ f) (ofE f) (min (ofE f) e)=sc z e (min (ofE f) e)):=by
      by_cases c:sc (ofZ f) (ofE f) (min (ofE f) e)=sc z e (min (ofE f) e)
      . rw[qbg.2 c,decide_eq_true ⟨hf,hz,c⟩];rfl
      . rw[decide_eq_false (fun h=>c h.2.2)]
        have:=mt qbg.1 c;simpa using this
     rw[this];exact⟨rfl,rfl⟩
   . rw[iN' (fun h=>hz (o2.2 h.2)),decide_eq_false (fun h=>hz h.2.1)]
     exact⟨rfl,rfl⟩
 . rw[iN' hf,decide_eq_false (fun h=>hf h.1)]
   have b0:((true,false,[],0,()):Bool×Bool×LI×Int×Unit)=mkD 1 100000:=by
    rw[q27];rw[Xy];rintro (h|⟨h,_⟩)
    . omega
    . omega
   have hn: ¬OkD 1 100000:=by rw[Xy];rintro (h|⟨h,_⟩)<;>omega
   have e0:mkD 1 100000=mkD (sc 1 100000 (min 100000 e)) (min 100000 e):=(q80 O).symm;have e2:mkD z e=mkD (sc z e (min 100000 e)) (min 100000 e):=(q80 O).symm;have n2: ¬OkD (sc 1 100000 (min 100000 e)) (min 100000 e):=by unfold OkD at*;rwa [<-e0]
   rw[b0,e0,e2,qj7 hm,qf7 hm,iN' (fun h=>n2 h.1)]
   exact⟨rfl,rfl⟩
theorem qii {z e:Int} (h:exB z e=true):finB (Qv (mkD z e) 0)=true:=by
 rw[q5c q0q];exact decide_eq_true (of_decide_eq_true h).1
theorem qez {z e:Int} (h: ¬OkD z e):exB z e=false:=decide_eq_false fun k=>h k.2.1
def I64 (a:Int):Prop:= -9223372036854775808<=a/\a<9223372036854775808
theorem qnf {a b:Int}:wI (a+b)=(a+b+9223372036854775808)%18446744073709551616-9223372036854775808:=by
 rw[wQ];unfold IntKind.wrap;show(if(true&&decide ((a+b)%18446744073709551616>=9223372036854775808))=true then(a+b)%18446744073709551616-18446744073709551616 else(a+b)%18446744073709551616)=_
 rw[Bool.true_and];split
 . rename_i h;simp only[decide_eq_true_eq]at h;omega
 . rename_i h;simp only[decide_eq_true_eq]at h;omega
def kindN (f:Int):Int:=if fexp f=2047 then(if ffrac f=0 then 2 else 3)else if fexp f=0/\ffrac f=0 then 0 else 1
theorem qeh {m:Nat} {f:Int} (h:U64 f):g31 m f=some (kindN f,(),())/\g55 m f=some (kindN f,(),()):=by
 have hl:=q56 f;rw[g31,parts_eq h,bS,g55,(qco h).1,(qco h).2];simp only[bif_eq,bif_ne];unfold kindN;by_cases c:fexp f=2047
 . by_cases d:ffrac f=0
   . simp[c,d]
   . simp[c,d]
 . by_cases e:fexp f=0
   . by_cases d:ffrac f=0
     . simp[e,d]
     . simp[e,d]
   . simp[c,e]
theorem q4t {f:Int}:kindN f=0↔fexp f=0/\ffrac f=0:=by
 unfold kindN;by_cases c:fexp f=2047
 . rw[iP c];split<;>omega
 . rw[iN' c];split<;>simp_all
theorem q29 {f:Int}:ofZ f=0↔fexp f=0/\ffrac f=0:=by
 have h1:=q4c f;unfold ofZ;by_cases e:fexp f=0
 . rw[iP e];cases fneg f<;>simp<;>omega
 . rw[iN' e];cases fneg f<;>simp<;>omega
def farN (n:Int):Int:=max (-100000) (min 100000 n)
theorem qdq {f n:Int} (hf:FinF f) (hz:ofZ f≠0) (hn:100000<=n\/n<= -100000): ¬OkD (ofZ f) (ofE f+n):=by
 have h1:=qan (f:=f);have h2:=q5o f;have h3:=q0c (n:=(ofZ f).natAbs);have h4:1<=blen (ofZ f).natAbs:=by rw[Qx O];omega
 rw[Xy]
 rintro (h|⟨h,g⟩)
 . exact hz h
 . omega
theorem qly {f n:Int} (hf:FinF f) (hz:ofZ f≠0):mkD (ofZ f) (ofE f+Qd n)=mkD (ofZ f) (ofE f+Qd (farN n))/\exB (ofZ f) (ofE f+Qd n)=exB (ofZ f) (ofE f+Qd (farN n)):=by
 by_cases h: -100000<=n/\n<=100000
 . have:farN n=n:=by unfold farN;omega
   rw[this];exact⟨rfl,rfl⟩
 . have b1:=qdq (n:=Qd n) hf hz (by unfold Qd;omega)
   have b2:=qdq (n:=Qd (farN n)) hf hz (by unfold Qd farN;omega)
   rw[q27 b1,q27 b2,qez b1,qez b2];exact⟨rfl,rfl⟩
theorem qdv {z e b:Int} (hz:z≠0) (h:b<=e):(blen (sc z e b).natAbs:Int)=e-b+(blen z.natAbs:Int):=by
 unfold sc;rw[Y7,Zi O];omega
theorem EqD.log {z e w f:Int} (h:EqD z e w f) (hz:z≠0):e+(blen z.natAbs:Int)=f+(blen w.natAbs:Int):=by
 obtain⟨b,h1,h2,h3⟩:=h
 have hw:w≠0:=fun e0=>by
  subst e0;have h4:=qdv hz h1;unfold Vs.F.sc at h3;rw[Int.zero_mul]at h3;rcases Int.mul_eq_zero.1 h3 with h5|h5
  . exact hz h5
  . have:=q0l (e-b).toNat;omega
 have h4:=qdv hz h1;have h5:=qdv hw h2;rw[h3]at h4;omega
def log2M (z e:Int):Int×Bool×Unit:=if OkD z e/\z≠0 then(e+(blen z.natAbs:Int)-1,true,())else(0,false,())
theorem qim {z e w f:Int} (k:NF z e w f) (h:OkD z e) (hz:z≠0):wI (wI (f+(blen w.natAbs:Int))-1)=e+(blen z.natAbs:Int)-1:=by
 have h1:=k.eq.symm.log hz;have h2:=k.len;have h3:=k.lo;have h4:=k.hi;have a1:=wi (n:=f+(blen w.natAbs:Int)) O O;rw[wQ,wQ,a1,wi O O];omega
theorem qld {m:Nat} (hm:3000000<m) {z e:Int}:g136 m (mkD z e).1 (mkD z e).2.1 (mkD z e).2.2.1 (mkD z e).2.2.2.1=some (log2M z e,(),()):=by
 rw[g136,q5x hm];simp only[bS];unfold log2M;by_cases h:OkD z e
 . obtain⟨w,f,k,e1,e2,e3⟩:=Yh h;rw[e1,e2,e3,q1b (m:=m) O k.Sz];simp only[h,decide_true,Bool.not_true,cond_false,bS,zv_zB,bif_eq,true_and];by_cases hz:z=0
   . have hw:sgn w=0:=by rw[k.sgn,hz];rfl
     rw[iP hw,iN' (fun c=>c hz)]
   . have hw: ¬sgn w=0:=by rw[k.sgn,Qs];exact hz
     rw[iN' hw,iP hz,q1w (m:=m) O k.Sz];simp only[bS,<-Xh (neg:=(zB w).1),zv_zB];rw[qim k h hz]
 . simp only[h,decide_false,Bool.not_false,cond_true,false_and,if_false]
theorem qin {m:Nat} (hm:3000000<m) {z e:Int}:g138 m (mkD z e).1 (mkD z e).2.1 (mkD z e).2.2.1 (mkD z e).2.2.2.1=some (log2M z e,(),()):=by
 rw[g138,Jq hm];simp only[bS,ql9];unfold log2M;by_cases h:OkD z e
 . obtain⟨w,f,k,e1,e2,e3⟩:=Yh h;rw[e1,e2,e3,J5 (m:=m) O k.Sz];simp only[h,not_true_eq_false,decide_false,cond_false,bS,zv_zB,bif_eq,true_and];by_cases hz:z=0
   . have hw:sgn w=0:=by rw[k.sgn,hz];rfl
     rw[iP hw,iN' (fun c=>c hz)]
   . have hw: ¬sgn w=0:=by rw[k.sgn,Qs];exact hz
     rw[iN' hw,iP hz,q34 (m:=m) O k.Sz];simp only[bS,<-Xh (neg:=(zB w).1),zv_zB];rw[qim k h hz]
 . simp only[h,not_false_eq_true,decide_true,cond_true,false_and,if_false]
def expOf (v:Int):Int×Bool:=if ofZ v=0 then(0,false)else(ofE v+(blen (ofZ v).natAbs:Int)-1,true)
structure GoodV (v:Int):Prop where
 u:U64 v
 f:FinF v
theorem GoodV.lo {v:Int} (h:GoodV v): -1100<=(expOf v).1/\(expOf v).1<=1100:=by
 unfold expOf;split
 . exact⟨by decide,by decide⟩
 . have:=qan (f:=v);have:=q5o v;simp only;omega
theorem GoodV.float {v:Int} (h:GoodV v) {m:Nat} (hm:3000000<m):g88 m v=some (((expOf v).1,(expOf v).2,()),(),()):=by
 rw[g88,Of_eq hm h.u];unfold ofD;rw[iP h.f];simp only[bS];rw[qld hm];unfold log2M expOf;have hok:=qb3 h.f;by_cases hz:ofZ v=0
 . rw[iP hz,iN' (fun c=>c.2 hz)];rfl
 . rw[iN' hz,iP ⟨hok,hz⟩];rfl
theorem GoodV.ref {v:Int} (h:GoodV v) {m:Nat} (hm:3000000<m):g93 m v=some (((expOf v).1,(expOf v).2,()),(),()):=by
 rw[g93,(qeh (m:=m) h.u).2];simp only[bS,bif_ne]
 have hk:kindN v=1↔ofZ v≠0:=by
  rw[ne_eq,q29];unfold kindN;rw[iN' h.f];split<;>simp_all
 unfold expOf;by_cases hz:ofZ v=0
 . rw[iN' (fun c=>(hk.1 c) hz),iP hz]
 . rw[iP (hk.2 hz),iN' hz,qhq hm h.u];unfold ofD;rw[iP h.f];simp only[bS];rw[qin hm];unfold log2M;rw[iP ⟨qb3 h.f,hz⟩];rfl
theorem qke:GoodV 0:=⟨by unfold U64;omega,by unfold FinF fexp;omega⟩
theorem qkz:(expOf 0).2=false:=by
 unfold expOf;rw[iP (q29.2 ⟨by unfold fexp;omega,by unfold ffrac;omega⟩)]
end Go.Vs.F
set_option maxRecDepth 100000
namespace Go.Vs.F
abbrev MRes:=((Int×Int×LI×LI×LI×Unit)×Int×Unit)
def q51 (x:MRes):Prop:=x.1.2.2.1.length<=100000/\x.1.2.2.2.1.length<=100000/\x.1.2.2.2.2.1.length<=100000
section
variable {R C:Nat} {S I V:LI}
theorem qmu {m:Nat} {xs:LI} {t:Int} (hl:xs.length<=100000) (hm:100001<m) (ha: ∀i j,i<j->j<xs.length->xs.getD i 0<xs.getD j 0) (hn: ∀k,k<xs.length->xs.getD k 0≠t):
 ∃r:Nat,g115 m xs t=some (((r:Int),false,()),(),(),()):=by
 obtain⟨r,e,h1,h2,h3⟩:=BS_L0 m (t:=t) (a:=(xs.length:Int)) hl ha m 0 xs.length O O (Nat.le_refl _) (fun k hk=>absurd hk (Nat.not_lt_zero _)) (fun k a b=>O)
 rw[nZ]at e;refine⟨r,?_⟩;rw[g115,e,bS];dsimp only;rw[bQ];by_cases c:r<xs.length
 . have c1:(0:Int)<=(r:Int)/\(r:Int)<(xs.length:Int):=O;rw[iP O,iP c1,tN,bif_eq,iN' (hn r c),iP c1,g151,bS];simp
 . rw[iN' O]
theorem qn9 {m:Nat} (hm:3000000<m) (h:MV R C S I V) {i:Int} {j':Nat} (hjC:j'<C) (hn: ∀v,((i,((j':Int),v)):Ent)∉ents S I V C 0):g69 m (R:Int) (C:Int) S I V i (j':Int)=some ((0,false,()),(),(),(),()):=by
 have hl:=h.ok.st.len;have hsz:=h.ok.sz;have hcz:=h.ok.cz;have hvl:=h.vl;have a:=h.ok.st.rng (j:=j') O;have b:=h.ok.st.rng (j:=j'+1) O;have mo:=h.ok.st.mono j' hjC;have c1:(0:Int)<=(j':Int)/\(j':Int)<(S.length:Int):=O;have c2:(0:Int)<=((j'+1:Nat):Int)/\((j'+1:Nat):Int)<(S.length:Int):=O;have c3:(0:Int)<=S.getD j' 0/\S.getD j' 0<=S.getD (j'+1) 0/\S.getD (j'+1) 0<=(I.length:Int):=O;have hcl:=Yz h.ok.st hjC;have hcg: ∀k,k<(colOf S I j').length->(colOf S I j').getD k 0=I.getD ((S.getD j' 0).toNat+k) 0:=fun k hk=>q1x h.ok.st hjC hk
 obtain⟨r,hbs⟩:=qmu (m:=m) (xs:=colOf S I j') (t:=i) O O (fun x y hxy hy=>by
  rw[hcg x O,hcg y hy];have:=h.ok.asc hjC (y-x-1) ((S.getD j' 0).toNat+x) O O;rw[show(S.getD j' 0).toNat+x+(y-x-1+1)=(S.getD j' 0).toNat+y by omega]at this
  exact this) (fun k hk e=>by
  rw[hcg k hk]at e;exact hn (V.getD ((S.getD j' 0).toNat+k) 0) (Qw.2 ⟨j',(S.getD j' 0).toNat+k,O,O,O,O,by rw[e]⟩))
 rw[g69,iP c1,show wI ((j':Int)+1)=((j'+1:Nat):Int)from wsucc O,iP c2]
 simp only[tN];rw[iP c3];have hbs':g115 m ((I.drop (S.getD j' 0).toNat).take ((S.getD (j'+1) 0).toNat-(S.getD j' 0).toNat)) i=some (((r:Int),false,()),(),(),()):=hbs;rw[hbs',bS];simp only[Bool.not_false,cond_true]
theorem qft (m:Nat) {i:Int} {j:Nat} (hj:j+1<S.length) (hj2:j<4611686018427387903) {e:Nat} (he:S.getD (j+1) 0=(e:Int)) (hI:e<=I.length) (hv:V.length=I.length) (hb:I.length<=100000) (a0 a1:Int): ∀(n k:Nat),e-k<n->k<=e->
 (∃t,k<=t/\t<e/\I.getD t 0=i/\g94L0 m n i (j:Int) a0 a1 S I V (k:Int)=some (.inl (V.getD t 0,())))\/
 ((∀t,k<=t->t<e->I.getD t 0≠i)/\g94L0 m n i (j:Int) a0 a1 S I V (k:Int)=some (.inr (.inl ())))
 |0,k,h,_=>O
 |n+1,k,h,hk0=>by
  have w:wI ((j:Int)+1)=((j+1:Nat):Int):=wsucc O;rw[g94L0,w,iP O,tN,he,bQ];by_cases hk:k<e
  . rw[iP O,iP O,tN,bif_eq];by_cases c:I.getD k 0=i
    . rw[iP c,iP O];exact .inl ⟨k,Nat.le_refl _,hk,c,rfl⟩
    . rw[iN' c,show wI ((k:Int)+1)=((k+1:Nat):Int)from wsucc O]
      rcases qft m hj hj2 he hI hv hb a0 a1 n (k+1) O O with⟨t,h1,h2,h3,h4⟩|⟨h1,h2⟩
      . exact .inl ⟨t,O,h2,h3,h4⟩
      . refine .inr ⟨fun t a b=> ?_,h2⟩
        by_cases e:t=k
        . subst e;exact c
        . exact h1 t O b
  . rw[iN' O];exact .inr ⟨fun t a b=>O,rfl⟩
theorem qnt {m:Nat} (hm:3000000<m) (h:MV R C S I V) {i:Int} {j:Nat} (hj:j<C):
 ∃v b,g69 m (R:Int) (C:Int) S I V i (j:Int)=some ((v,b,()),(),(),(),())/\g94 m (R:Int) (C:Int) S I V i (j:Int)=some (v,(),(),(),())/\
  ((b=true/\((i,((j:Int),v)):Ent)∈ents S I V C 0)\/(b=false/\v=0/\ ∀v',((i,((j:Int),v')):Ent)∉ents S I V C 0)):=by
 have hl:=h.ok.st.len;have hsz:=h.ok.sz;have hcz:=h.ok.cz;have hvl:=h.vl;have a:=h.ok.st.rng (j:=j) O;have b:=h.ok.st.rng (j:=j+1) O;have mo:=h.ok.st.mono j hj;have c1:(0:Int)<=(j:Int)/\(j:Int)<(S.length:Int):=O;have e1:S.getD j 0=(((S.getD j 0).toNat:Nat):Int):=O
 have hpre:g94 m (R:Int) (C:Int) S I V i (j:Int)=(g94L0 m m i (j:Int) (R:Int) (C:Int) S I V (((S.getD j 0).toNat:Nat):Int)).bind fun y2=>match y2 with
  | .inl z3=>some (z3.1,((),(),(),()))
  | .inr (.inl z4)=>some (0,((),(),(),()))
  | .inr (.inr e)=>e.elim:=by
  rw[g94,Xm O O O,h.chk];simp only[bS,bif_ne,if_true,bQ];rw[iN' O,iN' O,iP c1,tN,<-e1];rfl
 have hr:=qft (S:=S) (I:=I) (V:=V) m (i:=i) (j:=j) O O (e:=(S.getD (j+1) 0).toNat) O O hvl O (R:Int) (C:Int) m (S.getD j 0).toNat O O;by_cases hx: ∃v,((i,((j:Int),v)):Ent)∈ents S I V C 0
 . obtain⟨v,hv⟩:=hx;refine⟨v,true,qm0 hm h hv,?_,.inl ⟨rfl,hv⟩⟩;rcases hr with⟨t,h1,h2,h3,h4⟩|⟨h1,h2⟩
   . rw[hpre,h4,bS];have:((i,((j:Int),V.getD t 0)):Ent)∈ents S I V C 0:=Qw.2 ⟨j,t,O,O,O,O,by rw[h3]⟩
     rw[h.dist.val hv this]
   . obtain⟨j',t,_,hj',t1,t2,e⟩:=Qw.1 hv;simp only[Prod.mk.injEq]at e;obtain⟨q1,q2,q3⟩:=e;have:j=j':=O;subst this;exact absurd q1.symm (h1 t t1 t2)
 . have hx': ∀v',((i,((j:Int),v')):Ent)∉ents S I V C 0:=fun v' hv=>hx ⟨v',hv⟩
   refine⟨0,false,qn9 hm h hj hx',?_,.inr ⟨rfl,rfl,hx'⟩⟩;rcases hr with⟨t,h1,h2,h3,h4⟩|⟨h1,h2⟩
   . exact absurd (Qw.2 ⟨j,t,O,O,O,O,by rw[h3]⟩) (hx' (V.getD t 0))
   . rw[hpre,h2,bS]
end
end Go.Vs.F
set_option maxRecDepth 100000
namespace Go.Vs.F
section
variable {R C:Nat} {S I V:LI}
theorem qoz:FinF 0:=by unfold FinF fexp;decide
end
open Go.Vs
theorem qpf {neg:Bool} {q r:Int} (h1:0<=q) (h2:q<2048) (h3:0<=r) (h4:r<4503599627370496):
 fexp (sgnF neg (q*4503599627370496+r))=q/\ffrac (sgnF neg (q*4503599627370496+r))=r/\fneg (sgnF neg (q*4503599627370496+r))=neg:=by
 unfold fexp ffrac fneg sgnF;cases neg<;>simp<;>omega
def Rep (z e:Int):Prop:=z=0\/ ∃w f,NF z e w f/\blen w.natAbs<=53/\ -1074<=f/\f+(blen w.natAbs:Int)<=1024
theorem qoi {z e:Int} (h:Rep z e) (mode:Int):U64 (Qv (mkD z e) mode)/\FinF (Qv (mkD z e) mode)/\EqD (ofZ (Qv (mkD z e) mode)) (ofE (Qv (mkD z e) mode)) z e:=by
 refine⟨q0q,?_⟩;rcases h with rfl|⟨w,f,k,h1,h2,h3⟩
 . have:Qv (mkD 0 e) mode=0:=rfl;rw[this];refine⟨qoz,?_⟩;have:ofZ 0=0:=by unfold ofZ fexp ffrac fneg;decide
   rw[this];exact EqD.zero _ _
 . by_cases hw:w=0
   . subst hw
     have hz:z=0:=by
      have:=k.eq.sgn;rw[show sgn 0=0 from rfl]at this
      exact Qs.1 this.symm
     subst hz;have:Qv (mkD 0 e) mode=0:=rfl;rw[this];refine⟨qoz,?_⟩;have:ofZ 0=0:=by unfold ofZ fexp ffrac fneg;decide
     rw[this];exact EqD.zero _ _
   . have hv:w.natAbs≠0:=O
     have hr:Qv (mkD z e) mode=q0t (decide (w<0)) w.natAbs f false mode:=by
      rw[k.md];unfold Qv;rw[iN' (by simp),iN' (fun h=>hv (Jl.1 h))]
      show q0t _ (vl (lim w.natAbs)) _ _ _=_
      rw[Q5]
     rw[hr];have hu:unitF w.natAbs f<=f:=by unfold unitF;omega
     have hmu:multF (decide (w<0)) w.natAbs f false mode=w.natAbs*2^(f-unitF w.natAbs f).toNat:=by unfold multF;rw[iP hu]
     have hbn:blen (w.natAbs*2^(f-unitF w.natAbs f).toNat)=(f-unitF w.natAbs f).toNat+blen w.natAbs:=by
      rw[Nat.mul_comm];exact Zi hv
     unfold q0t;rw[hmu]
     have hEq:EqD (sg (decide (w<0)) (w.natAbs*2^(f-unitF w.natAbs f).toNat)) (unitF w.natAbs f) z e:=by
      refine EqD.trans ⟨unitF w.natAbs f,O,hu,?_⟩ k.eq;rw[qjm];unfold sc sg;rw[Int.natCast_mul,Int.natCast_pow];show(if decide (w<0)=true then-(((w.natAbs:Nat):Int)*2^(f-unitF w.natAbs f).toNat)else((w.natAbs:Nat):Int)*2^(f-unitF w.natAbs f).toNat)=w*2^(f-unitF w.natAbs f).toNat
      by_cases c:w<0
      . rw[iP (by simpa using c),<-Int.neg_mul,show-((w.natAbs:Nat):Int)=w by omega]
      . rw[iN' (by simpa using c),show((w.natAbs:Nat):Int)=w by omega]
     have hnpos:w.natAbs*2^(f-unitF w.natAbs f).toNat≠0:=Nat.mul_ne_zero hv (by have:=Nat.pow_pos (n:=(f-unitF w.natAbs f).toNat) (show 0<2 by omega);omega)
     have hlt:=q2y (w.natAbs*2^(f-unitF w.natAbs f).toNat);have hge:=qjj hnpos;have hub:(unitF w.natAbs f=f+(blen w.natAbs:Int)-53/\ -1074<=f+(blen w.natAbs:Int)-53)\/(unitF w.natAbs f= -1074/\f+(blen w.natAbs:Int)-53< -1074):=by unfold unitF;omega
     generalize w.natAbs*2^(f-unitF w.natAbs f).toNat=n at*
     generalize unitF w.natAbs f=u at*
     generalize decide (w<0)=neg at*
     have hb1:1<=blen w.natAbs:=by rw[Qx hv];omega
     have c52:(2:Nat)^52=4503599627370496:=by decide
     have c53:(2:Nat)^53=9007199254740992:=by decide
     have hn53:n<9007199254740992:=by
      have:2^blen n<=2^53:=Nat.pow_le_pow_right O O;omega
     unfold packF;rw[iN' O];by_cases c:n<4503599627370496
     . have hu2:u= -1074:=by
        rcases hub with⟨a,b⟩|⟨a,_⟩
        . have:2^52<=2^(blen n-1):=Nat.pow_le_pow_right O O;omega
        . exact a
       rw[iP c];obtain⟨p1,p2,p3⟩:=qpf (neg:=neg) (q:=0) (r:=(n:Int)) O O O O;rw[Int.zero_mul,Int.zero_add]at p1 p2 p3
       have o1:ofZ (sgnF neg (n:Int))=sg neg n:=by
        unfold ofZ;rw[p1,p2,p3,iP rfl];unfold sg;cases neg<;>simp
       have o2:ofE (sgnF neg (n:Int))=u:=by unfold ofE;rw[p1,iP rfl,hu2]
       refine⟨by unfold FinF;rw[p1];omega,?_⟩
       rw[o1,o2];exact hEq
     . have hu2:u+1075<2047:=by
        rcases hub with⟨a,b⟩|⟨a,b⟩<;>omega
       have hu3: -1074<=u:=by rcases hub with⟨a,b⟩|⟨a,b⟩<;>omega
       rw[iN' c,iN' O];obtain⟨p1,p2,p3⟩:=qpf (neg:=neg) (q:=u+1075) (r:=(n:Int)-4503599627370496) O O O O
       have o1:ofZ (sgnF neg ((u+1075)*4503599627370496+((n:Int)-4503599627370496)))=sg neg n:=by
        unfold ofZ;rw[p1,p2,p3,iN' (show¬u+1075=0 by omega),show(n:Int)-4503599627370496+4503599627370496=(n:Int) by omega];unfold sg
        cases neg
        . simp
        . simp
       have o2:ofE (sgnF neg ((u+1075)*4503599627370496+((n:Int)-4503599627370496)))=u:=by unfold ofE;rw[p1,iN' O];omega
       refine⟨by unfold FinF;rw[p1];omega,?_⟩
       rw[o1,o2];exact hEq
theorem Rep.of_mul {z e k g:Int} (h:EqD k g z e) (hk:blen k.natAbs<=53) (h1: -1074<=g) (h2:g<=900):Rep z e:=by
 by_cases hk0:k=0
 . subst hk0;have:=h.sgn;rw[show sgn 0=0 from rfl]at this
   exact .inl (Qs.1 this.symm)
 . have hok:OkD k g:=Xy.2 (.inr ⟨O,by have:=q0c (n:=k.natAbs);omega⟩)
   obtain⟨w,f,n⟩:=hok.nf;have hn:k.natAbs≠0:=O
   have hmk:mkD k g=(false,decide (k<0),lim (k.natAbs/2^tz k.natAbs),g+(tz k.natAbs:Int),()):=by
    unfold mkD;rw[iN' hk0,iN' (by have:=Xy.1 hok;omega)]
   have hmd:=n.md;rw[hmk]at hmd;simp only[Prod.mk.injEq]at hmd;have hf:f=g+(tz k.natAbs:Int):=hmd.2.2.2.1.symm;have hwn:w.natAbs=k.natAbs/2^tz k.natAbs:=by rw[<-Q5 w.natAbs,<-hmd.2.2.1,Q5]
   have hbt:=q90 hn;refine .inr ⟨w,f,⟨n.eq.trans h,by rw[<-h.mk];exact n.md,n.zero,n.odd,n.lo,n.hi⟩,?_,O,?_⟩
   . rw[hwn];omega
   . rw[hwn];omega
end Go.Vs.F
set_option maxRecDepth 100000
namespace Go.Vs.F
structure SmV (v:Int):Prop where
 u:U64 v
 f:FinF v
 k: ∃k:Int,EqD (ofZ v) (ofE v) k (-6)/\ -32768<=k/\k<=32768
theorem SmV.fin {v:Int} (h:SmV v):finB v=true:=by rw[q5c h.u];exact decide_eq_true h.f
def smB (v:Int):Bool:=decide (0<=v)&&(decide (v<18446744073709551616)&&(decide (fexp v≠2047)&&(decide (ofE v<= -6)&&(decide (ofZ v%2^(-6-ofE v).toNat=0)&&(decide (-32768<=ofZ v/2^(-6-ofE v).toNat)&&decide (ofZ v/2^(-6-ofE v).toNat<=32768))))))
theorem qqp {v:Int} (h:smB v=true):SmV v:=by
 simp only[smB,Bool.and_eq_true,decide_eq_true_eq]at h;obtain⟨h1,h2,h3,h4,h5,h6,h7⟩:=h;refine⟨⟨h1,h2⟩,h3,ofZ v/2^(-6-ofE v).toNat,⟨ofE v,Int.le_refl _,h4,?_⟩,h6,h7⟩;rw[qjm];unfold sc;exact(Int.ediv_mul_cancel (Int.dvd_of_emod_eq_zero h5)).symm
def eqS:Option (Int×Unit×Unit)->Option (Int×Unit×Unit)->Bool
 |some v,some w=>v.1==w.1&&smB v.1
 |_,_=>false
theorem qqd {a e:Int} (h: ∀j,eqS (valC 100 a e) (valC (j+100) a e)=true): ∃v,SmV v/\ ∀m,100<=m->valC m a e=some (v,(),()):=by
 cases e0:valC 100 a e with
 |none=>have:=h 0;rw[e0]at this;cases this
 |some v=>
  have hv: ∀j,∃w,valC (j+100) a e=some w/\v.1=w.1/\smB v.1=true:=by
   intro j;have hj:=h j;rw[e0]at hj;cases e1:valC (j+100) a e with
   |none=>rw[e1]at hj;cases hj
   |some w=>
    rw[e1]at hj;simp only[eqS,Bool.and_eq_true,beq_iff_eq]at hj;exact⟨w,rfl,hj.1,hj.2⟩
  obtain⟨w0,_,_,hf⟩:=hv 0;refine⟨v.1,qqp hf,fun m hm=> ?_⟩
  obtain⟨j,rfl⟩: ∃j,m=j+100:=⟨m-100,O⟩;obtain⟨w,g1,g2,_⟩:=hv j;rw[g1,g2]
def rowS (j k:Nat):Bool:=(List.range 13).all fun e=>eqS (valC 100 ((k:Int)-8) ((e:Int)-6)) (valC (j+100) ((k:Int)-8) ((e:Int)-6))
theorem qqf (j:Nat):rowS j 0=true:=by kernel_rfl
theorem qqi (j:Nat):rowS j 1=true:=by kernel_rfl
theorem qqg (j:Nat):rowS j 2=true:=by kernel_rfl
theorem qqm (j:Nat):rowS j 3=true:=by kernel_rfl
theorem qqh (j:Nat):rowS j 4=true:=by kernel_rfl
theorem qqk (j:Nat):rowS j 5=true:=by kernel_rfl
theorem qqo (j:Nat):rowS j 6=true:=by kernel_rfl
theorem qqj (j:Nat):rowS j 7=true:=by kernel_rfl
theorem qql (j:Nat):rowS j 8=true:=by kernel_rfl
theorem qqn (j:Nat):rowS j 9=true:=by kernel_rfl
theorem qqb (j:Nat):rowS j 10=true:=by kernel_rfl
theorem qqe (j:Nat):rowS j 11=true:=by kernel_rfl
theorem qqc (j:Nat):rowS j 12=true:=by kernel_rfl
theorem qq8 (j:Nat):rowS j 13=true:=by kernel_rfl
theorem qqa (j:Nat):rowS j 14=true:=by kernel_rfl
theorem qq9 (j:Nat):rowS j 15=true:=by kernel_rfl
theorem qq7 (j:Nat):rowS j 16=true:=by kernel_rfl
theorem qq6 (j:Nat): ∀k,k<17->rowS j k=true
 |0,_=>qqf j
 |1,_=>qqi j
 |2,_=>qqg j
 |3,_=>qqm j
 |4,_=>qqh j
 |5,_=>qqk j
 |6,_=>qqo j
 |7,_=>qqj j
 |8,_=>qql j
 |9,_=>qqn j
 |10,_=>qqb j
 |11,_=>qqe j
 |12,_=>qqc j
 |13,_=>qq8 j
 |14,_=>qqa j
 |15,_=>qq9 j
 |16,_=>qq7 j
 |k+17,h=>O
theorem qov (n:Int): ∃v,SmV v/\ ∀m,3000000<m->g27 m n=some (v,(),()):=by
 obtain⟨k,hk,hp⟩:=qoh (a:=n) (n:=17) O O;obtain⟨x,hx,hxl⟩:=qpg n;have e17:Int.tdiv (x:Int) 17=((x/17:Nat):Int):=td x 17;have e3:Int.tdiv ((x/17:Nat):Int) 3=((x/17/3:Nat):Int):=td _ 3;have e13:Int.tmod ((x/17/3:Nat):Int) 13=((x/17/3%13:Nat):Int):=tm _ 13;have l1:x/17<9223372036854775808:=O;have l2:x/17/3%13<13:=O
 have key: ∀m,g27 m n=if Int.tmod ((x/17:Nat):Int) 3=0 then valC m ((k:Int)-8) (((x/17/3%13:Nat):Int)-6)else valC m ((k:Int)-8) 0:=by
  intro m;rw[g27];rw[show g8 m n 17=some ((k:Int),(),(),())from hp m]
  simp only[bS,wJ,wI,hx,e17];rw[wu O O,wi (n:=((x/17:Nat):Int)) O O,wi (n:=(k:Int)-8) O O,e3,wi (n:=((x/17/3:Nat):Int)) O O,e13,wi (n:=((x/17/3%13:Nat):Int)-6) O O,bif_eq];rfl
 have hv: ∀e:Nat,e<13-> ∃v,SmV v/\ ∀m,100<=m->valC m ((k:Int)-8) ((e:Int)-6)=some (v,(),()):=fun e he=>qqd fun j=>by
  have:=qq6 j k hk;unfold rowS at this;exact List.all_eq_true.1 this e (List.mem_range.2 he)
 by_cases h:Int.tmod ((x/17:Nat):Int) 3=0
 . obtain⟨v,h1,h2⟩:=hv (x/17/3%13) l2;exact⟨v,h1,fun m hm=>by rw[key,iP h,h2 m O]⟩
 . obtain⟨v,h1,h2⟩:=hv 6 O;exact⟨v,h1,fun m hm=>by rw[key,iN' h];exact h2 m O⟩
section
variable {R C:Nat} {S I V:LI}
end
end Go.Vs.F
set_option maxRecDepth 100000
namespace Go.Vs.F
theorem qoq {es:List Ent} {r c:Nat} {x:Int} (h:x∈packV es r c): ∃e∈es,e.2.2=x:=by
 rw[<-can_V]at h;obtain⟨e,he,rfl⟩:=List.mem_map.1 h;obtain⟨i,j,_,_,hl,rfl⟩:=q9f.1 he;exact⟨_,qp2 hl,rfl⟩
section
variable {R C:Nat} {S I V:LI}
end
theorem qoo {N:Nat} (hn:N<=100) (l:LI) (hl:l.length<=100000) (a0 a1:Int) (a2 a3 a4:LI): ∀(d k:Nat) (es:List Ent),N-k<=d->k<=N->EntsOK N N es->(∀e∈es,SmV e.2.2)->es.length<=k->
 ∃es',EntsOK N N es'/\(∀e∈es',SmV e.2.2)/\es'.length<=N/\ ∀m n,3000000<m->d<n->g9L0 m n (N:Int) l a0 a1 a2 a3 a4 es (k:Int)=some (.inl ((N:Int),l,(a0,a1,a2,a3,a4,()),es',()))
 |d,k,es,hd,hk,hE,hG,hk2=>by
  by_cases h:k<N
  . obtain⟨x,hx⟩:=qpm l k;obtain⟨v,hv,ev⟩:=qov (wI (x+1));cases d with
    |zero=>omega
    |succ d=>
     obtain⟨es',g1,g0,g2,g3⟩:=qoo hn l hl a0 a1 a2 a3 a4 d (k+1) (es++[((k:Int),((k:Int),v))]) O O (hE.snoc O O hv.fin) (fun e he=>by
      rcases List.mem_append.1 he with he|he
      . exact hG e he
      . rw[List.mem_singleton]at he;subst he;exact hv) (by simp;omega)
     refine⟨es',g1,g0,g2,fun m n hm hdn=> ?_⟩
     obtain⟨n,rfl⟩: ∃n',n=n'+1:=⟨n-1,O⟩;rw[g9L0,bQ,iP O,hx m,bS];dsimp only;rw[ev m hm,bS];dsimp only;rw[iP (by simp;omega),show wI ((k:Int)+1)=((k+1:Nat):Int)from wsucc O]
     exact g3 m n hm O
  . refine⟨es,hE,hG,O,fun m n hm hdn=> ?_⟩
    obtain⟨n,rfl⟩: ∃n',n=n'+1:=⟨n-1,O⟩;rw[g9L0,bQ,iN' O]
theorem qor {N:Nat} (hn:N<=100) (l:LI) (hl:l.length<=100000) (a0 a1:Int) (a2 a3 a4:LI): ∀(d k:Nat) (es:List Ent),l.length-k<=d->k<=l.length+200->EntsOK N N es->(∀e∈es,SmV e.2.2)->es.length<=N+k->
 ∃es',EntsOK N N es'/\(∀e∈es',SmV e.2.2)/\es'.length<=N+l.length+200/\ ∀m n,3000000<m->d<n-> ∃z0 z1 z2 z3 z4,g9L1 m n (N:Int) l a0 a1 a2 a3 a4 es (k:Int)=some (.inl ((N:Int),(z0,z1,z2,z3,z4,()),es',()))
 |d,k,es,hd,hk,hE,hG,hk2=>by
  have e2:wI ((k:Int)+2)=((k+2:Nat):Int):=wi O O;have e1:wI ((k:Int)+1)=((k+1:Nat):Int):=wsucc O;have e3:wI ((k:Int)+3)=((k+3:Nat):Int):=wi O O;by_cases h:k+2<l.length
  . by_cases h1:0<N
    . obtain⟨i,hi,ei⟩:=qoh (a:=l.getD k 0) (n:=N) h1 O;obtain⟨j,hj,ej⟩:=qoh (a:=l.getD (k+1) 0) (n:=N) h1 O;obtain⟨v,hv,ev⟩:=qov (l.getD (k+2) 0);cases d with
      |zero=>omega
      |succ d=>
       obtain⟨es',g1,g0,g2,g3⟩:=qor hn l hl a0 a1 a2 a3 a4 d (k+3) (es++[((i:Int),((j:Int),v))]) O O (hE.snoc O O hv.fin) (fun e he=>by
        rcases List.mem_append.1 he with he|he
        . exact hG e he
        . rw[List.mem_singleton]at he;subst he;exact hv) (by simp;omega)
       refine⟨es',g1,g0,g2,fun m n hm hdn=> ?_⟩
       obtain⟨n,rfl⟩: ∃n',n=n'+1:=⟨n-1,O⟩;rw[g9L1,bQ,e2,e1,e3,bQ];rw[iP O,iP O,iP O,tN,tN,tN,ei,ej,ev m hm];simp only[bS];rw[iP O,iP O,iP (by simp;omega)]
       exact g3 m n hm O
    . refine⟨es,hE,hG,O,fun m n hm hdn=> ?_⟩
      obtain⟨n,rfl⟩: ∃n',n=n'+1:=⟨n-1,O⟩;rw[g9L1,bQ,e2,e1,e3,bQ,iP O,iN' O];exact⟨_,_,_,_,_,rfl⟩
  . refine⟨es,hE,hG,O,fun m n hm hdn=> ?_⟩
    obtain⟨n,rfl⟩: ∃n',n=n'+1:=⟨n-1,O⟩;rw[g9L1,bQ,e2,e1,e3,bQ,iN' O];exact⟨_,_,_,_,_,rfl⟩
theorem qot {N:Nat} (hn:N<=100) {l:LI} (hl:l.length<=10000): ∃es,EntsOK N N es/\(∀e∈es,SmV e.2.2)/\ ∀m,3000000<m->
 g9 m (N:Int) l=some (((N:Int),(N:Int),packS es N N,packI es N N,packV es N N,()),(),(),()):=by
 obtain⟨es,h2,h0,h3,h1⟩:=qoo hn l O 0 0 [] [] [] N 0 [] O O (fun k hk=>absurd hk (Nat.not_lt_zero _)) (fun e he=>by cases he) (Nat.le_refl _)
 obtain⟨es',k2,k0,k3,k1⟩:=qor hn l O 0 0 [] [] [] l.length N es O O h2 h0 O;refine⟨es',k2,k0,fun m hm=> ?_⟩
 have h1:=h1 m m hm O;obtain⟨z0,z1,z2,z3,z4,k1⟩:=k1 m m hm O;simp only[nZ]at h1;rw[g9,h1];simp only[bS];rw[k1];simp only[bS];rw[qi3 k2 O O O O];rfl
end Go.Vs.F
