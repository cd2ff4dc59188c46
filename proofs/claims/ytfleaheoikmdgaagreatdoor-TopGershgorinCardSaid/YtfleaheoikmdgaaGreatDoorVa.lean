import Derived.Calls
import Derived.Laws.Sem
import Derived.Laws.Entries
import Derived.Laws.Rows
import Derived.Laws.CopyRow
import Derived.Laws.StructEq
import Derived.IntWalk
import Derived.Laws.MakeOwn
set_option linter.unusedVariables false
set_option linter.unusedSimpArgs false
set_option linter.unusedSectionVars false
set_option linter.defProp false
namespace Go.Vs
abbrev zA:=@List.mem_singleton
abbrev zC:=@List.mem_flatMap
abbrev zD:=@Nat.le_refl
abbrev zF:=@Bool.and_eq_true
abbrev zG:=@List.nodup_append
abbrev zH:=@Option.some.injEq
abbrev zI:=@List.getElem_mem
abbrev zJ:=@List.mem_cons
abbrev zK:=@Nat.zero_add
abbrev zL:=@List.mem_append
abbrev zM:=@List.mem_map
abbrev zN:=@Nat.mul_le_mul_right
abbrev zO:=@List.length_append
abbrev zQ:=@List.mem_append_left
abbrev zS:=@List.not_mem_nil
abbrev zT:=@Nat.le_trans
abbrev zU:=@List.nodup_cons
abbrev zV:=@Nat.add_zero
abbrev zW:=@Nat.not_lt_zero
abbrev zX:=@List.all_eq_true
abbrev zY:=@List.length_set
abbrev zZ:=@Nat.pow_le_pow_right
abbrev zf:=@List.mem_append_right
abbrev zh:=@Nat.mul_comm
abbrev zi:=@List.getElem_of_mem
abbrev zk:=@Nat.mul_assoc
abbrev zn:=@Nat.pow_pos
abbrev zq:=@Nat.lt_or_ge
abbrev zu:=@Nat.mul_add
abbrev zx:=@Classical.byContradiction
abbrev zy:=@Rat.mul_pos
abbrev zA1:=@List.getElem_map
abbrev zB1:=@List.contains_iff_mem
abbrev zC1:=@List.getElem_append_left
abbrev zD1:=@Nat.pow_succ
abbrev zE1:=@List.mem_of_mem_take
abbrev zF1:=@List.getElem_set_self
abbrev zG1:=@List.append_assoc
abbrev zH1:=@List.length_take
abbrev zI1:=@Bool.not_eq_true
abbrev zJ1:=@Nat.and_two_pow_sub_one_eq_mod
abbrev zK1:=@Int.natAbs_natCast
abbrev zL1:=@List.append_nil
abbrev zM1:=@Nat.add_assoc
abbrev zN1:=@List.set_eq_take_append_cons_drop
abbrev zO1:=@List.mem_range
abbrev zP1:=@Nat.add_mul
abbrev zQ1:=@List.take_append_drop
abbrev zR1:=@List.mem_filter
abbrev zS1:=@List.getElem_set_ne
abbrev zT1:=@Nat.two_pow_add_eq_or_of_lt
abbrev zU1:=@Nat.mod_eq_of_lt
abbrev zV1:=@Int.natCast_pow
abbrev zW1:=@Nat.pow_add
abbrev zX1:=@List.map_cons
abbrev zY1:=@Array.length_toList
abbrev zZ1:=@List.getElem_append_right
abbrev za1:=@List.length_cons
abbrev zb1:=@Rat.mul_nonneg
abbrev zc1:=@Nat.zero_le
abbrev zd1:=@Nat.testBit_two_pow
abbrev ze1:=@List.flatMap_append
abbrev zf1:=@Option.map_some
abbrev zg1:=@List.flatMap_nil
abbrev zh1:=@List.length_map
abbrev zi1:=@Int.natCast_mul
abbrev zj1:=@Int.le_refl
abbrev zk1:=@Nat.mul_one
abbrev zl1:=@List.singleton_append
abbrev zm1:=@List.length_replicate
abbrev zn1:=@Nat.lt_of_le_of_lt
abbrev zo1:=@Nat.mod_two_eq_zero_or_one
abbrev zp1:=@Bool.false_eq_true
abbrev zq1:=@List.mem_of_mem_drop
abbrev zr1:=@List.filter_cons
abbrev zt1:=@Nat.mul_zero
abbrev zu1:=@Option.getD_some
abbrev zv1:=@List.getElem_cons_zero
abbrev zw1:=@Nat.mul_le_mul_left
abbrev zx1:=@List.map_congr_left
abbrev zy1:=@List.set_getElem_self
abbrev zz1:=@Bool.true_and
abbrev z01:=@List.nodup_nil
abbrev z81:=@Int.natCast_nonneg
abbrev zA2:=@Nat.lt_of_lt_of_le
abbrev zB2:=@List.cons_append
abbrev zC2:=@Nat.le_of_not_lt
abbrev zD2:=@Nat.mul_le_mul
abbrev zE2:=@Rat.intCast_le_intCast
abbrev zF2:=@Nat.div_lt_iff_lt_mul
abbrev zG2:=@Int.cast_ofNat_Int
abbrev zH2:=@Array.eq_empty_of_size_eq_zero
abbrev zI2:=@List.drop_zero
abbrev zJ2:=@List.eq_nil_of_length_eq_zero
abbrev zK2:=@Classical.not_not
abbrev zL2:=@List.length_eq_zero_iff
abbrev zM2:=@Bool.or_eq_true
abbrev zN2:=@Nat.mod_lt
abbrev zO2:=@Option.map_eq_some_iff
abbrev zP2:=@Bool.not_true
abbrev zQ2:=@List.all_cons
abbrev zR2:=@Array.ext
abbrev zS2:=@Nat.add_mul_mod_self_left
abbrev zT2:=@List.nil_append
abbrev zU2:=@Int.natCast_add
abbrev zV2:=@Nat.testBit_and
abbrev zW2:=@List.mem_range'_1
abbrev zX2:=@List.getElem_take
abbrev zY2:=@Nat.eq_of_testBit_eq
abbrev zZ2:=@List.nodup_range
abbrev za2:=@Int.ofNat_zero
abbrev zb2:=@Int.natAbs_neg
abbrev zc2:=@List.getElem_set
abbrev zd2:=@List.flatMap_map
abbrev ze2:=@Nat.mod_mod
abbrev zf2:=@Nat.add_sub_cancel
abbrev zg2:=@Nat.pos_of_ne_zero
abbrev zh2:=@List.getElem_cons_succ
abbrev zi2:=@List.map_append
abbrev zj2:=@Nat.div_le_self
abbrev zk2:=@Rat.intCast_add
abbrev zl2:=@List.cons.injEq
abbrev zm2:=@List.length_range
abbrev zn2:=@Bool.false_and
abbrev zo2:=@Nat.one_mul
abbrev zp2:=@List.drop_drop
abbrev zq2:=@List.length_drop
abbrev zr2:=@List.range'_succ
abbrev zt2:=@Nat.pow_zero
abbrev zv2:=@Nat.le_of_lt
abbrev zw2:=@Nat.sub_self
abbrev zx2:=@Nat.div_eq_of_lt
abbrev zy2:=@Int.zero_mul
abbrev zz2:=@Rat.intCast_zero
abbrev z02:=@Option.getD_none
abbrev z92:=@List.filter_sublist
abbrev zA3:=@Bool.and_true
abbrev zB3:=@Int.mul_assoc
abbrev zC3:=@Prod.mk.injEq
abbrev zD3:=@Option.some.inj
abbrev zE3:=@Nat.mod_add_div
abbrev zF3:=@List.mem_replicate
abbrev zG3:=@Int.sub_eq_add_neg
abbrev zH3:=@Option.isSome_none
abbrev zI3:=@List.zip_cons_cons
abbrev zJ3:=@Nat.log2_lt
abbrev zK3:=@Int.le_trans
abbrev zL3:=@Bool.not_false
abbrev zM3:=@Nat.lt_trichotomy
abbrev zN3:=@Nat.add_comm
abbrev zO3:=@Nat.zero_mul
abbrev zP3:=@Int.natAbs_mul
abbrev zQ3:=@Bool.or_true
abbrev zR3:=@Array.toList_push
abbrev zS3:=@List.ext_getElem
abbrev zT3:=@Array.toList_map
abbrev zU3:=@Rat.mul_eq_zero
abbrev zV3:=@Nat.div_lt_self
abbrev zW3:=@Nat.and_le_left
abbrev zX3:=@Nat.div_add_mod
abbrev zY3:=@Nat.min_eq_left
abbrev zZ3:=@Rat.mul_comm
abbrev za3:=@Nat.testBit_or
abbrev zb3:=@List.mapM_cons
abbrev zc3:=@Nat.or_comm
abbrev zd3:=@Nat.pow_mul
abbrev ze3:=@Int.mul_one
abbrev zf3:=@Bool.and_self
abbrev zg3:=@Rat.le_total
abbrev zh3:=@Bool.true_or
abbrev zi3:=@Nat.succ_mul
abbrev zj3:=@List.map_map
abbrev zk3:=@Int.le_of_lt
abbrev zl3:=@Int.add_zero
abbrev zm3:=@Nat.sub_zero
abbrev zn3:=@Int.neg_mul
abbrev zo3:=@Int.one_mul
def bS{α β}{a:α}{f:α->Option β}:(some a).bind f=f a:=rfl
def tN(n:Nat):(n:Int).toNat=n:=rfl
def nZ:((0:Nat):Int)=0:=rfl
def iP{c:Prop}{h:Decidable c}(hc:c){α:Sort _}{t e:α}:ite c t e=t:=if_pos hc
def iN'{c:Prop}{h:Decidable c}(hc:¬c){α:Sort _}{t e:α}:ite c t e=e:=if_neg hc
def fC{α β}{x:α}{xs:List α}{f:α->List β}:(x::xs).flatMap f=f x++xs.flatMap f:=List.flatMap_cons
def mS{α}{a:α}{l:List α}:a∈a::l:=List.mem_cons_self
def mT{α}{a:α}{l:List α}{y:α}(h:a∈l):a∈y::l:=List.mem_cons_of_mem y h
def mC{α}{a b:α}{l:List α}(h:a∈b::l):a=b\/a∈l:=zJ.1 h
abbrev LI:=List Int
def O{p:Prop}(h:p:=by omega):p:=h
inductive Ty where
 |int (k:IntKind)
 |bool
 |sl (inn:Bool) (t:Ty)
 |pr (a b:Ty)
 |opq
 deriving DecidableEq
@[reducible] def Den:Ty->Type
  | .int _=>Int
  | .bool=>Bool
  | .sl _ t=>List (Den t)
  | .pr a b=>Den a×Den b
  | .opq=>Unit
def Ty.size:Ty->Nat
 | .int _| .bool| .sl _ _| .opq=>1
 | .pr a b=>a.size+b.size
def Ty.zero:(t:Ty)->Den t
 | .int _=>(0:Int)
 | .bool=>false
 | .sl _ _=>[]
 | .pr a b=>(a.zero,b.zero)
 | .opq=>()
def isSlT:Ty->Bool
 | .sl _ _=>true
 |_=>false
inductive Own where
 |imm
 |nm (n:Nat)
 |nl
 |inn
 deriving DecidableEq
inductive DK where
 |whole
 |cell (i:Nat)
 |row (i:Nat)
 |elem (sz i j k:Nat)
 |lenw (l:Nat)
 |mlen (l:Nat)
 |mcell (i:Nat)
 |mrow (j i:Nat)
 |mown
 deriving DecidableEq
def DK.strip:DK->DK
 | .lenw _=> .whole
 |k=>k
inductive AV where
 |dead
 |bool (b:Bool)
 |int (k:IntKind) (n:Int)
 |lit (v:Value)
 |sl (o:Own) (t:Ty) (xs:List (Den t))
 |bx (o:Own) (cells:List AV)
 |agg (cells:List AV)
 |tup (vs:List AV)
 |ref (s n sz:Nat) (win:Option (Nat×Nat))
 |ptr (s n sz i j:Nat)
 |iptr (g:Option Nat) (t:Ty) (xs:List (Den t)) (i j:Nat)
 |dp (n:Nat) (t:Ty) (xs:List (List (Den t))) (h:Option Nat)
 |dr (s n:Nat) (k:DK)
 |wn (n:Nat) (t:Ty) (xs:List (Den t))
 |dq (n:Nat) (t:Ty) (xs:List (Den t)) (h:Option Nat)
 |fd (n:Nat) (t:Ty) (xs:List (List (Den t))) (h:Option Nat)
 |mm (n:Nat) (t:Ty) (xs:List (Option (List (Int×Den t)))) (o:Bool)
def mGet {α:Type}:List (Int×α)->Int->Option α
 |[],_=>none
 |(k',x)::r,k=>if k'=k then some x else mGet r k
def mPut {α:Type}:List (Int×α)->Int->α->List (Int×α)
 |[],k,x=>[(k,x)]
 |(k',y)::r,k,x=>if k'=k then(k,x)::r else(k',y)::mPut r k x
def mAt {α:Type}:List (Int×α)->Int->Nat
 |[],_=>0
 |(k',_)::r,k=>if k'=k then 0 else mAt r k+1
abbrev Slots:=List (Nat×AV)
def Slots.get:Slots->Nat->AV
 |[],_=> .dead
 |(k,v)::r,s=>if k=s then v else Slots.get r s
def Slots.set:Slots->Nat->AV->Slots
 |[],s,v=>[(s,v)]
 |(k,u)::r,s,v=>if k=s then(k,v)::r else(k,u)::Slots.set r s v
def Qr (s:Nat):AV->AV
 | .sl (.nm n) t _=> .ref s n t.size none
 | .dp n _ xs _=> .dr s n (.lenw xs.length)
 | .fd n _ xs _=> .dr s n (.lenw xs.length)
 | .mm n _ xs false=> .dr s n (.mlen xs.length)
 | .mm n _ _ true=> .dr s n .mown
 | .dr _ _ (.mlen _)=> .dead
 | .wn n t _=> .ref s n t.size none
 | .dq _ _ _ _=> .dead
 |v=>v
def alias (s:Nat):AV->Option AV
 | .dead=>some .dead
 | .fd _ _ _ _=>none
 | .mm _ _ _ _=>none
 | .tup _=>none
 | .dq n t _ _=>some (.ref s n t.size none)
 | .bx (.nm n) _=>some (.ptr s n 1 0 0)
 | .bx _ _=>none
 | .agg cells=>some (.agg (cells.map (Qr s)))
 | .sl (.nm n) t _=>some (.ref s n t.size none)
 | .dp n _ _ _=>some (.dr s n .whole)
 | .wn n t _=>some (.ref s n t.size none)
 |v=>some v
def cellV (s j:Nat):AV->Option AV
 | .bx (.nm _) cells=>(cells[j]?).map (Qr s)
 | .tup vs=>vs[j]?
 | .dp n _ xs _=>if j=0 then some (.dr xs.length n .whole)else none
 |_=>none
def vwf (s:Nat):Nat->AV->Option AV
 |0,a=>some a
 |1,a=>alias s a
 |j+2,a=>if j<15 then cellV s j a else none
inductive M (α:Type) where
 |ret (a:α)
 |fail
 |get (s:Nat) (k:AV->M α)
 |set (s:Nat) (v:AV) (k:M α)
 |ask (p:Prop) (d:Decidable p) (k:M α)
 |know (s:Nat) (k:Bool->M α)
 |view (s j:Nat) (k:Option AV->M α)
 |upd (s:Nat) (W:List Nat) (f:AV->Option AV) (hf: ∀a b,f a=some b-> ∀j,j∉W->vwf s j b=vwf s j a) (k:M α)
 |call (f:Nat) (args:List AV) (k:AV->List AV->M α)
def M.bind {α β:Type}:M α->(α->M β)->M β
 | .ret a,f=>f a
 | .fail,_=> .fail
 | .get s k,f=> .get s λv=>(k v).bind f
 | .set s v k,f=> .set s v (k.bind f)
 | .ask p d k,f=> .ask p d (k.bind f)
 | .know s k,f=> .know s λb=>(k b).bind f
 | .view s j k,f=> .view s j λb=>(k b).bind f
 | .upd s W g h k,f=> .upd s W g h (k.bind f)
 | .call g as k,f=> .call g as λr os=>(k r os).bind f
instance:Monad M where
 pure:=M.ret
 bind:=M.bind
def mget (s:Nat):M AV:= .get s .ret
def mset (s:Nat) (v:AV):M Unit:= .set s v (.ret ())
def mask (p:Prop) [d:Decidable p]:M Unit:= .ask p d (.ret ())
def mknow (s:Nat):M Bool:= .know s .ret
def mview (s j:Nat):M (Option AV):= .view s j .ret
def mupd (s:Nat) (W:List Nat) (f:AV->Option AV) (hf: ∀a b,f a=some b-> ∀j,j∉W->vwf s j b=vwf s j a):M Unit:= .upd s W f hf (.ret ())
def mcall (f:Nat) (args:List AV):M (AV×List AV):= .call f args λr os=> .ret (r,os)
def mopt {α:Type}:Option α->M α
 |some a=> .ret a
 |none=> .fail
inductive ZC where
 |int (k:IntKind)
 |bool
 |mnil
 |nil (t:Ty)
 |other
 deriving DecidableEq
inductive TD where
 |int (k:IntKind)
 |bool
 |slice (e:Nat) (t:Ty)
 |struct (fs:List (Nat×Nat))
 |array (n:Nat) (esz:Nat)
 |ptr (e:Nat)
 |string
 |mslice (e:Nat) (t:Ty)
 |map (e:Nat) (t:Ty)
 |tab (g:Nat) (k:IntKind) (xs:LI)
 |other
structure TI where
 desc:TD
 cells:List ZC
abbrev TT:=List (Option TI)
def TT.at (T:TT) (t:Nat):Option TI:=match T[t]? with|some x=>x|none=>none
def qc:AV->List Nat
 | .sl (.nm n) _ _=>[n]
 | .dp n _ _ _=>[n]
 | .wn n _ _=>[n]
 | .dq n _ _ _=>[n]
 | .fd n _ _ _=>[n]
 | .mm n _ _ _=>[n]
 |_=>[]
def qi:AV->List Nat
 | .bx (.nm n) cells=>n::cells.flatMap qc
 | .bx _ cells=>cells.flatMap qc
 | .agg cells=>cells.flatMap qc
 |v=>qc v
def names:AV->List Nat
 | .tup vs=>vs.flatMap qi
 |v=>qi v
def unpack:(t:Ty)->Den t->List AV
 | .int k,x=>[.int k x]
 | .bool,x=>[.bool x]
 | .sl b t,x=>[.sl (if b then .inn else .imm) t x]
 | .pr a b,x=>unpack a x.1++unpack b x.2
 | .opq,_=>[.dead]
def Zt:(t:Ty)->List AV->Option (Den t×List AV)
 | .int k,.int k' x::r=>if k'=k then some (x,r)else none
 | .bool,.bool x::r=>some (x,r)
 | .sl b t,.sl o t' xs::r=>
   if h:t'=t then
    (match b,o with
     |true,.nm _|true,.nl|true,.inn=>some (h▸xs,r)
     |false,.imm|false,.nl|false,.nm _=>some (h▸xs,r)
     |_,_=>none)
   else none
 | .pr a b,cs=>
   match Zt a cs with
   |some (x,r)=>match Zt b r with
    |some (y,r')=>some ((x,y),r')
    |none=>none
   |none=>none
 |_,_=>none
def Qd {α:Type}:List α->Nat->List α->List α
 |l,_,[]=>l
 |[],_,_=>[]
 |_::l,0,c::cs=>c::Qd l 0 cs
 |x::l,j+1,cs=>x::Qd l j cs
def Ye:AV->AV
 | .sl (.nm _) t xs=> .sl .imm t xs
 | .dp _ t xs none=> .sl .imm (.sl false t) xs
 | .dp _ _ _ (some _)=> .dead
 | .wn _ _ _=> .dead
 | .dq _ t xs none=> .sl .imm t xs
 | .dq _ _ _ (some _)=> .dead
 | .fd _ _ _ _=> .dead
 | .mm _ _ _ _=> .dead
 |v=>v
def freeze:AV->AV
 | .sl (.nm _) t xs=> .sl .imm t xs
 | .dp _ t xs none=> .sl .imm (.sl false t) xs
 | .dp _ _ _ (some _)=> .dead
 | .wn _ _ _=> .dead
 | .dq _ t xs none=> .sl .imm t xs
 | .dq _ _ _ (some _)=> .dead
 | .fd _ _ _ _=> .dead
 | .mm _ _ _ _=> .dead
 | .agg cells=> .agg (cells.map Ye)
 |v=>v
def q5m:Value->AV
 | .bool b=> .bool b
 | .int k n=> .int k n
 | .agg _=> .dead
 | .tuple _=> .dead
 |v=> .lit v
def rd:Operand->M AV
 | .tmp t=>do let a<-mview t 1;mopt a
 | .const v=>pure (q5m v)
 | .func f=>pure (.lit (.func (.func f) #[] #[]))
 | .global _=> .fail
def q3m (a:AV):Bool:= !(names a).isEmpty
def rdT:Operand->M AV
 | .tmp t=>do
   let a<-mget t
   match a with
   | .tup vs=>do mset t .dead;pure (.tup vs)
   |a=>if q3m a then do mset t .dead;pure a else pure a
 |x=>rd x
def rdF:Operand->M AV
 | .tmp t=>do
   let a<-mget t
   match a with
   | .tup _| .bx _ _| .dp _ _ _ (some _)| .dq _ _ _ (some _)| .wn _ _ _| .fd _ _ _ _| .mm _ _ _ _=> .fail
   |a=>if q3m a then do mset t (freeze a);pure (freeze a)else pure a
 |x=>rd x
def isNm (n:Nat):AV->Bool
 | .sl (.nm m) _ _=>Nat.beq m n
 |_=>false
def cellOf (n:Nat):List AV->Nat->Option Nat
 |[],_=>none
 |c::cs,k=>match isNm n c with
  |true=>some k
  |false=>cellOf n cs (k+1)
def qa6 (j:Nat):AV->Option AV
 | .bx (.nm m) cells=>some (.bx (.nm m) (cells.set j .dead))
 |_=>none
def q7p {s j:Nat} (a b:AV) (h:qa6 j a=some b): ∀i,i∉[0,j+2]->vwf s i b=vwf s i a:=by
 intro i hi;simp only[zJ,zS,or_false,not_or]at hi;unfold qa6 at h;split at h
 . cases h
   match i,hi with
   |0,hi=>exact absurd rfl hi.1
   |1,_=>rfl
   |k+2,hi=>
    simp only[vwf,cellV]
    grind
 . cases h
def qat (i:Nat):AV->Option AV
 | .tup vs=>some (.tup (vs.set i .dead))
 |_=>none
def q7h {s j:Nat} (a b:AV) (h:qat j a=some b): ∀i,i∉[0,j+2]->vwf s i b=vwf s i a:=by
 intro i hi;simp only[zJ,zS,or_false,not_or]at hi;unfold qat at h;split at h
 . cases h
   match i,hi with
   |0,hi=>exact absurd rfl hi.1
   |1,_=>rfl
   |k+2,hi=>
    simp only[vwf,cellV]
    grind
 . cases h
def claim:Operand->M AV
 | .tmp t=>do
   let a<-mview t 1
   match a with
   |some (.ref s n _ none)=>do
    let b<-mget s
    match b with
    | .sl (.nm m) ty xs=>if m=n then do mset s .dead;pure (.sl (.nm m) ty xs)else .fail
    | .bx (.nm _) cells=>match cellOf n cells 0 with
      |some j=>do
       mupd s [0,j+2] (qa6 j) q7p
       pure (cells.getD j .dead)
      |none=> .fail
    |_=> .fail
   |_=> .fail
 |_=> .fail
def rdC (mode:Nat) (x:Operand):M AV:=
 match mode with
 |3=>claim x
 |_=>rdT x
def rdm (mode:Nat) (x:Operand):M AV:=
 match mode with
 |0=>rd x
 |1=>rdT x
 |3=>claim x
 |_=>rdF x
def rdQ (mode:Nat) (x:Operand):M AV:=
 match mode with
 |2=>rdF x
 |_=>rdT x
def immNl:AV->AV
 | .sl .nl t xs=> .sl .imm t xs
 |v=>v
def dpNl:AV->AV
 | .sl .nl (.sl _ t) xs=> .sl .nl (.sl true t) xs
 |v=>v
def nlI (mode:Nat) (v:AV):AV:=
 match mode with
 |6=>(match v with
  | .agg cells=> .agg (cells.map dpNl)
  |v=>v)
 |2=>(match v with
  | .agg cells=> .agg (cells.map immNl)
  |v=>immNl v)
 |_=>v
def Yy (T:TT) (ty:Nat):AV->AV
 | .lit (.slice none 0 0)=>match T.at ty with
   |some {desc:= .slice _ t,.. }=> .sl .nl t []
   |_=> .lit (.slice none 0 0)
 |v=>v
def fresh (idx k:Nat):Nat:=100+idx*16+k
def nlOwn (n:Nat):(t:Ty)->List (Den t)->AV
 | .sl true t,xs=> .dp n t xs none
 |t,xs=> .sl (.nm n) t xs
def Qq (n:Nat):AV->Option AV
 | .bool b=>some (.bool b)
 | .int k x=>some (.int k x)
 | .lit v=>some (.lit v)
 | .sl .imm t xs=>some (.sl .imm t xs)
 | .sl (.nm m) t xs=>some (.sl (.nm m) t xs)
 | .sl .nl t xs=>some (nlOwn n t xs)
 | .dp m t xs none=>some (.dp m t xs none)
 | .mm m t xs o=>some (.mm m t xs o)
 |_=>none
def Xy (idx:Nat):Nat->List AV->Option (List AV)
 |_,[]=>some []
 |k,c::cs=>if k<15 then
   match Qq (fresh idx k) c,Xy idx (k+1) cs with
   |some c',some cs'=>some (c'::cs')
   |_,_=>none
  else none
def cellsOf:AV->List AV
 | .agg cs=>cs
 |v=>[v]
def zeroCell (n:Nat):ZC->Option AV
 | .int k=>some (.int k 0)
 | .bool=>some (.bool false)
 | .nil t=>some (.sl (.nm n) t [])
 | .mnil=>some (.lit (.map none))
 | .other=>none
def qkv:ZC->Option AV
 | .int k=>some (.int k 0)
 | .bool=>some (.bool false)
 | .nil t=>some (.sl .nl t [])
 | .mnil=>some (.lit (.map none))
 | .other=>none
def Q5:TD->Bool
 | .struct _| .array _ _| .tab _ _ _=>true
 |_=>false
def asOne (agg:Bool) (cs:List AV):Option AV:=
 if agg then some (.agg cs)else match cs with
  |[c]=>some c
  |_=>none
def findC (n:Nat):AV->Option (Sigma λt:Ty=>List (Den t))
 | .sl (.nm m) t xs=>if m=n then some ⟨t,xs⟩else none
 | .wn m t xs=>if m=n then some ⟨t,xs⟩else none
 |_=>none
def findL (n:Nat):List AV->Option (Sigma λt:Ty=>List (Den t))
 |[]=>none
 |c::cs=>match findC n c with
  |some x=>some x
  |none=>findL n cs
def findN (n:Nat):AV->Option (Sigma λt:Ty=>List (Den t))
 | .bx _ cells=>findL n cells
 | .agg cells=>findL n cells
 |v=>findC n v
def putC (n:Nat) (f:(t:Ty)->List (Den t)->Option (List (Den t))):AV->Option AV
 | .sl (.nm m) t xs=>if m=n then(match f t xs with|some ys=>some (.sl (.nm m) t ys)|none=>none)else some (.sl (.nm m) t xs)
 | .dp m t xs h=>if m=n then none else some (.dp m t xs h)
 | .dq m t xs h=>if m=n then none else some (.dq m t xs h)
 | .fd m t xs h=>if m=n then none else some (.fd m t xs h)
 | .mm m t xs o=>if m=n then none else some (.mm m t xs o)
 | .wn m t xs=>if m=n then(match f t xs with|some ys=>some (.wn m t ys)|none=>none)else some (.wn m t xs)
 |v=>some v
def putL (n:Nat) (f:(t:Ty)->List (Den t)->Option (List (Den t))):List AV->Option (List AV)
 |[]=>some []
 |c::cs=>match putC n f c,putL n f cs with
  |some c',some cs'=>some (c'::cs')
  |_,_=>none
def putN (n:Nat) (f:(t:Ty)->List (Den t)->Option (List (Den t))):AV->Option AV
 | .bx o cells=>match putL n f cells with|some cs=>some (.bx o cs)|none=>none
 | .agg cells=>match putL n f cells with|some cs=>some (.agg cs)|none=>none
 |v=>putC n f v
def window {α:Type} (xs:List α):Option (Nat×Nat)->List α
 |none=>xs
 |some (off,len)=>(xs.drop off).take len
def Zp:Option (Nat×Nat)->Nat
 |none=>0
 |some (o,_)=>o
def nodeOf (s n sz:Nat):M (Sigma λt:Ty=>List (Den t)):=do
 let a<-mget s
 match findN n a with
 |some ⟨t,xs⟩=>if sz=t.size then pure ⟨t,xs⟩else .fail
 |none=> .fail
def shown:AV->M (Sigma λt:Ty=>List (Den t))
 | .sl .imm t xs=>pure ⟨t,xs⟩
 | .sl .nl t xs=>pure ⟨t,xs⟩
 | .sl (.nm _) t xs=>pure ⟨t,xs⟩
 | .ref s n sz win=>do
   let x<-nodeOf s n sz
   pure ⟨x.1,window x.2 win⟩
 |_=> .fail
def immC:AV->AV
 | .sl _ t xs=> .sl .imm t xs
 |v=>v
def M.ofOpt {α β:Type} (x:Option α) (f:α->M β):M β:=match x with
 |some a=>f a
 |none=> .fail
def bitsOf (op:BinOp) (k:IntKind) (x y:Int):Option Int:=
 match op with
 | .and=>some (k.wrap (BitVec.ofInt k.bits x&&&BitVec.ofInt k.bits y).toNat)
 | .or=>some (k.wrap (BitVec.ofInt k.bits x|||BitVec.ofInt k.bits y).toNat)
 | .xor=>some (k.wrap (BitVec.ofInt k.bits x^^^BitVec.ofInt k.bits y).toNat)
 | .andNot=>some (k.wrap (BitVec.ofInt k.bits x&&& ~~~(BitVec.ofInt k.bits y)).toNat)
 |_=>none
def qls (op:BinOp) (k:IntKind) (x y:Int):M AV:=
 match op with
 | .add=>pure (.int k (k.wrap (x+y)))
 | .sub=>pure (.int k (k.wrap (x-y)))
 | .mul=>pure (.int k (k.wrap (x*y)))
 | .quo=>do mask (y≠0);pure (.int k (k.wrap (x.tdiv y)))
 | .rem=>do mask (y≠0);pure (.int k (x.tmod y))
 | .eql=>pure (.bool (x==y))
 | .neq=>pure (.bool (x !=y))
 | .lss=>pure (.bool (x<y))
 | .leq=>pure (.bool (x<=y))
 | .gtr=>pure (.bool (x>y))
 | .geq=>pure (.bool (x>=y))
 |op=>match bitsOf op k x y with
  |some r=>pure (.int k r)
  |none=> .fail
def q3j:List AV->List AV->Option Bool
 |[],[]=>some true
 | .int k a::xs,.int k' b::ys=>if k=k' then(match q3j xs ys with
   |some r=>some ((a==b)&&r)
   |none=>none)else none
 |_,_=>none
def intZ:ZC->Bool
 | .int _=>true
 |_=>false
def eqTI (ti:TI):Bool:=ti.cells.all intZ&&(match ti.desc with
 | .struct fs=>decide (fs.length=ti.cells.length)
 |_=>false)
def binAV (T:TT) (op:BinOp) (ty:Nat) (x y:AV):M AV:=
 match x,y with
 | .int k a,.int k' b=>
   match op with
   | .shl=>do mask (0<=b);pure (.int k (k.wrap (a*2^(min b.toNat k.bits))))
   | .shr=>do mask (0<=b);pure (.int k (a.fdiv (2^(min b.toNat k.bits))))
   |op=>if k=k' then qls op k a b else .fail
 | .bool a,.bool b=>
   match T.at ty with
   |some {desc:= .bool,.. }=>
    match op with
    | .eql=>pure (.bool (a==b))
    | .neq=>pure (.bool (!(a==b)))
    |_=> .fail
   |_=> .fail
 | .agg xs,.agg ys=>
   match T.at ty with
   |some ti=>if eqTI ti=true/\xs.length=ti.cells.length then
     match q3j xs ys with
     |some r=>(match op with
      | .eql=>pure (.bool r)
      | .neq=>pure (.bool (!r))
      |_=> .fail)
     |none=> .fail
    else .fail
   |none=> .fail
 |_,_=> .fail
def unAV (op:UnOp) (x:AV):M AV:=
 match op,x with
 | .neg,.int k n=>pure (.int k (k.wrap (0-n)))
 | .xor,.int k n=>pure (.int k (k.wrap (BitVec.ofInt k.bits (if k.signed then-1 else k.max)^^^BitVec.ofInt k.bits n).toNat))
 | .not,.bool b=>pure (.bool !b)
 |_,_=> .fail
def qjh (T:TT) (src dst:Nat) (x:AV):M AV:=
 match T.at src,T.at dst,x with
 |some _,some {desc:= .int k,.. },.int _ n=>pure (.int k (k.wrap n))
 |_,_,_=> .fail
def lenAV (T:TT) (ty:Nat) (x:AV):M AV:=
 match T.at ty with
 |some {desc:= .slice _ _,.. }=>do
  let y<-shown x
  pure (.int .i64 y.2.length)
 |_=> .fail
def qku (T:TT) (idx ty:Nat) (l c:AV):M AV:=
 match T.at ty,l,c with
 |some {desc:= .slice _ t,.. },.int .i64 l,.int .i64 c=>do
  mask (0<=l/\l<=c/\c<=1073741824)
  pure (.sl (.nm (fresh idx 15)) t (List.replicate l.toNat t.zero))
 |_,_,_=> .fail
def q9h (T:TT) (idx:Nat) (tys:Array TypeId) (x y:AV):M AV:=
 match tys[0]?,tys[1]? with
 |some t0,some t1=>
  match T.at t0,T.at t1 with
  |some {desc:= .slice _ et,.. },some {desc:= .slice _ _,.. }=>do
   let y<-shown y
   match x with
   | .sl (.nm _) t xs=>
     if h:y.1=t/\et.size=t.size then do
      mask (xs.length+y.2.length<=1073741824)
      pure (.sl (.nm (fresh idx 15)) t (xs++(h.1▸y.2)))
     else .fail
   | .sl .nl t _=>
     if h:y.1=t/\et.size=t.size then do
      mask (y.2.length<=1073741824)
      pure (.sl (.nm (fresh idx 15)) t (h.1▸y.2))
     else .fail
   |_=> .fail
  |_,_=> .fail
 |_,_=> .fail
def q40 (T:TT) (idx:Nat) (tys:Array TypeId) (x y:AV):M AV:=
 match tys[0]?,tys[1]? with
 |some t0,some t1=>
  match T.at t0,T.at t1 with
  |some {desc:= .slice _ et,.. },some {desc:= .slice _ _,.. }=>do
   let y<-shown y
   match x with
   | .ref s n sz (some (off,len))=>do
     let a<-mget s
     match a with
     | .sl (.nm m) t xs=>
       if h:y.1=t/\et.size=t.size/\m=n/\sz=t.size then do
        mask (off=0/\len<=xs.length/\0<xs.length/\len+y.2.length<=1073741824)
        mset s .dead
        pure (.sl (.nm (fresh idx 15)) t (xs.take len++(h.1▸y.2)))
       else .fail
     |_=> .fail
   |_=> .fail
  |_,_=> .fail
 |_,_=> .fail
def qj8 (T:TT) (idx:Nat) (tys:Array TypeId) (x y:AV):M AV:=
 match tys[0]? with
 |some t0=>
  match T.at t0 with
  |some {desc:= .slice _ et,.. }=>do
   let y<-shown y
   match x with
   | .ref s n sz none=>do
     let a<-mget s
     match a with
     | .sl (.nm m) t xs=>
       if h:y.1=t/\et.size=t.size/\m=n then do
        mask (0<y.2.length/\0<xs.length)
        mset s (.sl (.nm (fresh idx 15)) t ((h.1▸y.2:List (Den t)).take xs.length++xs.drop y.2.length))
        pure (.int .i64 (min y.2.length xs.length:Nat))
       else .fail
     |_=> .fail
   |_=> .fail
  |_=> .fail
 |_=> .fail
def qrq (dflt:Int):Option AV->Option Int
 |none=>some dflt
 |some (.int .i64 n)=>some n
 |some _=>none
def q9w {α:Type} (xs:List α) (lo hi:Option Int):List α:=
 match lo,hi with
 |none,none=>xs
 |some l,none=>xs.drop l.toNat
 |none,some h=>xs.take h.toNat
 |some l,some h=>(xs.drop l.toNat).take (h.toNat-l.toNat)
def intOf? :Option AV->Option (Option Int)
 |none=>some none
 |some (.int .i64 n)=>some (some n)
 |some _=>none
def qe4 (T:TT) (idx ty:Nat) (x:AV) (lo hi:Option AV):M AV:=
 match T.at ty,intOf? lo,intOf? hi with
 |some {desc:= .slice _ et,.. },some lo,some hi=>
  match x with
  | .sl .imm t xs=>if et.size=t.size then do
     mask (0<=lo.getD 0/\lo.getD 0<=hi.getD xs.length/\hi.getD xs.length<=xs.length)
     pure (.sl .imm t (q9w xs lo hi))
    else .fail
  | .sl (.nm _) t xs=>if et.size=t.size then do
     mask (0<=lo.getD 0/\lo.getD 0<=hi.getD xs.length/\hi.getD xs.length<=xs.length)
     pure (.sl (.nm (fresh idx 15)) t (q9w xs lo hi))
    else .fail
  | .ref s n sz win=>if et.size=sz then do
     let x<-nodeOf s n sz
     mask (0<=lo.getD 0/\lo.getD 0<=hi.getD (window x.2 win).length/\hi.getD (window x.2 win).length<=(window x.2 win).length)
     pure (.ref s n sz (some (Zp win+(lo.getD 0).toNat,(hi.getD ((window x.2 win).length:Int)).toNat-(lo.getD 0).toNat)))
    else .fail
  |_=> .fail
 |_,_,_=> .fail
def q1q (T:TT) (ty:Nat) (x i:AV):M AV:=
 match T.at ty,i with
 |some {desc:= .slice _ et,.. },.int _ i=>
  match x with
  | .sl .imm t xs=>if et.size=t.size then do
     mask (0<=i/\i<xs.length)
     pure (.iptr none t xs i.toNat 0)
    else .fail
  | .ref s n sz win=>if et.size=sz then do
     let x<-nodeOf s n sz
     mask (0<=i/\i<(window x.2 win).length)
     pure (.ptr s n sz (Zp win+i.toNat) 0)
    else .fail
  |_=> .fail
 |_,_=> .fail
def tabAV (T:TT) (t g:Nat) (i:AV):M AV:=
 match T.at t,i with
 |some {desc:= .tab g' k xs,.. },.int _ i=>
  if g'=g then do
   mask (0<=i/\i<xs.length)
   pure (.iptr none (.int k) xs i.toNat 0)
  else .fail
 |_,_=> .fail
def bytesOf (s:ByteArray):LI:=s.data.toList.map λb=>(b.toNat:Int)
def qf8 (T:TT) (t:Nat) (x i:AV):M AV:=
 match T.at t,x,i with
 |some {desc:= .string,.. },.lit (.string s),.int _ i=>do
  mask (0<=i/\i<(bytesOf s).length)
  pure (.int .u8 ((bytesOf s).getD i.toNat 0))
 |_,_,_=> .fail
def q1m (T:TT) (ty:Nat) (x:AV) (f:Nat):M AV:=
 match T.at ty with
 |some {desc:= .struct fs,.. }=>
  match fs[f]? with
  |some (off,fsz)=>
   if fsz=0 then .fail else
   match x with
   | .ptr s n sz i j=>pure (.ptr s n sz i (j+off))
   | .iptr none t xs i j=>pure (.iptr none t xs i (j+off))
   | .dr s n (.elem sz i j k)=>pure (.dr s n (.elem sz i j (k+off)))
   |_=> .fail
  |none=> .fail
 |_=> .fail
def partOf (size:Nat) (agg:Bool) (cells:List AV) (off:Nat):Option AV:=
 if off+size<=cells.length then asOne agg ((cells.drop off).take size)else none
def isG:ZC->Bool
 | .nil (.pr .bool (.pr .bool .bool))=>true
 |_=>false
def notG (zs:List ZC) (off:Nat):Bool:=match zs[off]? with
 |some z=> !isG z
 |none=>false
def qf9 (T:TT) (ty:Nat) (x:AV) (f:Nat):M AV:=
 match T.at ty,x with
 |some {desc:= .struct fs,cells:=zs},.agg cells=>
  match fs[f]? with
  |some (off,fsz)=>
   if fsz=1/\notG zs off=true then
    match cells[off]? with
    |some (.int k v)=>pure (.int k v)
    |some (.bool b)=>pure (.bool b)
    |some (.sl .imm t xs)=>pure (.sl .imm t xs)
    |_=> .fail
   else .fail
  |none=> .fail
 |_,_=> .fail
def Yt (cells:List AV) (j size:Nat):List AV:=Qd cells j (List.replicate size .dead)
def Jv (size:Nat) (agg:Bool) (n sz i j:Nat) (a:AV):Option AV:=
 match findN n a with
 |some ⟨t,xs⟩=>if sz=t.size then partOf size agg ((unpack t (xs.getD i t.zero)).map immC) j else none
 |none=>none
def q2v (size:Nat) (agg:Bool) (mode s n sz i j:Nat) (a:AV):Option (AV×Option AV):=
 match a with
 | .bx (.nm m) cells=>
   if m=n then
    if mode=1 then(partOf size agg cells j).map λv=>(v,some (.bx (.nm m) (Yt cells j size)))
    else(partOf size agg (cells.map (Qr s)) j).map λv=>(v,none)
   else(Jv size agg n sz i j (.bx (.nm m) cells)).map λv=>(v,none)
 |a=>(Jv size agg n sz i j a).map λv=>(v,none)
def boxNm:Option AV->Option Nat
 |some (.ptr _ m _ _ _)=>some m
 |_=>none
def q5b (s:Nat):Nat->Nat->M (List AV)
 |_,0=>pure []
 |j,n+1=>do
  let c<-mview s (j+2)
  match c with
  |some c=>do
   let cs<-q5b s (j+1) n
   pure (c::cs)
  |none=> .fail
def qac (mode:Nat) (ti:TI) (s n sz i j:Nat):M AV:=do
 let a<-mget s
 match q2v ti.cells.length (Q5 ti.desc) mode s n sz i j a with
 |some (v,none)=>pure v
 |some (v,some a')=>do mset s a';pure v
 |none=> .fail
def qgc (T:TT) (mode ty:Nat) (p:AV):M AV:=
 match T.at ty with
 |none=> .fail
 |some ti=>
  match p with
  | .iptr none t xs i j=>mopt (partOf ti.cells.length (Q5 ti.desc) ((unpack t (xs.getD i t.zero)).map immC) j)
  | .ptr s n sz i j=>
    match mode with
    |1=>qac 1 ti s n sz i j
    |mode=>do
     let al<-mview s 1
     match boxNm al with
     |some m=>
      if m=n/\0<ti.cells.length then do
       let cs<-q5b s j ti.cells.length
       mopt (asOne (Q5 ti.desc) cs)
      else qac mode ti s n sz i j
     |none=>qac mode ti s n sz i j
  |_=> .fail
def frzBx (p:AV):M Unit:=
 match p with
 | .ptr s n _ _ _=>do
   let a<-mget s
   match a with
   | .bx (.nm m) cells=>if m=n then mset s (.bx (.nm m) (cells.map Ye))else .fail
   |_=> .fail
 |_=> .fail
def Zk (t:Ty) (x:Den t) (j:Nat) (cs:List AV):Option (Den t):=
 if j+cs.length<=t.size then
  match Zt t (Qd (unpack t x) j cs)with
  |some (y,[])=>some y
  |_=>none
 else none
def plainCell:AV->Bool
 | .bool _| .int _ _| .sl .imm _ _| .sl .nl _ _=>true
 |_=>false
def Ya (n sz i j:Nat) (cs:List AV) (a:AV):Option AV:=
 if cs.all plainCell&&(findN n a).isSome then putN n (λt xs=>if sz=t.size then(Zk t (xs.getD i t.zero) j cs).map (xs.set i)else none) a else none
def Je (idx n sz i j:Nat) (cs:List AV) (a:AV):Option AV:=
 match a with
 | .bx (.nm m) cells=>
   if m=n then
    match Xy idx 0 cs with
    |some cs'=>if j+cs.length<=cells.length then some (.bx (.nm m) (Qd cells j cs'))else none
    |none=>none
   else Ya n sz i j cs (.bx (.nm m) cells)
 |a=>Ya n sz i j cs a
def qik {n s:Nat} {f:(t:Ty)->List (Den t)->Option (List (Den t))} {c c':AV} (h:putC n f c=some c'):Qr s c'=Qr s c:=by
 unfold putC at h;split at h
 . rename_i m t xs;split at h
   . split at h
     . cases h;rfl
     . cases h
   . cases h;rfl
 . grind
 . grind
 . grind
 . grind
 . split at h
   . split at h
     . cases h;rfl
     . cases h
   . cases h;rfl
 . cases h;rfl
def q3p {n s:Nat} {f:(t:Ty)->List (Den t)->Option (List (Den t))}: ∀{cs cs':List AV},putL n f cs=some cs'->cs'.map (Qr s)=cs.map (Qr s)
 |[],cs',h=>by cases h;rfl
 |c::cs,cs',h=>by
  unfold putL at h;split at h
  . rename_i d ds h1 h2;cases h;simp only[zX1,qik h1,q3p h2]
  . cases h
def qii {n s:Nat} {f:(t:Ty)->List (Den t)->Option (List (Den t))} {a b:AV} (h:putN n f a=some b): ∀j,j∉[0]->vwf s j b=vwf s j a:=by
 intro j hj
 match j,hj with
 |0,hj=>grind
 |1,_=>
  show alias s b=alias s a
  unfold putN at h;split at h
  . rename_i o cells;split at h
    . cases h
      cases o<;>rfl
    . cases h
  . split at h
    . rename_i hcs;cases h;show some (AV.agg _)=some (AV.agg _);rw[q3p hcs]
    . cases h
  . unfold putC at h;split at h
    . split at h
      . split at h
        . cases h;rfl
        . cases h
      . cases h;rfl
    . grind
    . grind
    . grind
    . grind
    . split at h
      . split at h
        . cases h;rfl
        . cases h
      . cases h;rfl
    . cases h;rfl
 |j+2,_=>
  simp only[vwf];split
  . unfold putN at h;split at h
    . rename_i o cells;split at h
      . rename_i hcs;cases h;cases o with
        |nm m=>
         have:=congrArg (λl=>l[j]?) (q3p (s:=s) hcs)
         simpa only[cellV,List.getElem?_map]using this
        |_=>rfl
      . cases h
    . split at h
      . cases h;rfl
      . cases h
    . unfold putC at h;split at h
      . split at h
        . split at h
          . cases h;rfl
          . cases h
        . cases h;rfl
      . grind
      . grind
      . grind
      . grind
      . split at h
        . split at h
          . cases h;rfl
          . cases h
        . cases h;rfl
      . cases h;rfl
  . rfl
def q0u {n sz i j s:Nat} {cs:List AV} (a b:AV) (h:Ya n sz i j cs a=some b): ∀k,k∉[0]->vwf s k b=vwf s k a:=by
 unfold Ya at h;split at h
 . exact qii h
 . cases h
def q2w (idx n j:Nat) (cs:List AV) (a:AV):Option AV:=
 match a with
 | .bx (.nm m) cells=>
   if m=n then
    match Xy idx 0 cs with
    |some cs'=>if j+cs.length<=cells.length then some (.bx (.nm m) (Qd cells j cs'))else none
    |none=>none
   else none
 |_=>none
def q4e {idx:Nat}: ∀{k:Nat} {cs cs':List AV},Xy idx k cs=some cs'->cs'.length=cs.length
 |_,[],cs',h=>by cases h;rfl
 |k,c::cs,cs',h=>by
  unfold Xy at h;split at h
  . split at h
    . rename_i h1 h2;cases h;simp[q4e h2]
    . cases h
  . cases h
def J4 {α:Type}: ∀(l:List α) (j:Nat) (cs:List α) (i:Nat),(i<j\/j+cs.length<=i)->(Qd l j cs)[i]? =l[i]?
 |l,j,[],i,h=>by cases l<;>rfl
 |[],j,c::cs,i,h=>rfl
 |x::l,0,c::cs,0,h=>by simp at h
 |x::l,0,c::cs,i+1,h=>by
  simp only[Qd,List.getElem?_cons_succ];exact J4 l 0 cs i (.inr (by simp at h⊢;omega))
 |x::l,j+1,c::cs,0,h=>rfl
 |x::l,j+1,c::cs,i+1,h=>by
  simp only[Qd,List.getElem?_cons_succ];exact J4 l j (c::cs) i (by simp at h⊢;omega)
def keysB:Nat->Nat->List Nat
 |_,0=>[]
 |j,n+1=>(j+2)::keysB (j+1) n
def qcc: ∀{j n i:Nat},j<=i->i<j+n->i+2∈keysB j n
 |j,0,i,h1,h2=>O
 |j,n+1,i,h1,h2=>by
  simp only[keysB,zJ];rcases Nat.eq_or_lt_of_le h1 with rfl|h
  . exact .inl rfl
  . exact .inr (qcc h O)
def q7m {idx n j s:Nat} {cs:List AV} (a b:AV) (h:q2w idx n j cs a=some b): ∀k,k∉(0::keysB j cs.length)->vwf s k b=vwf s k a:=by
 intro k hk;simp only[zJ,not_or]at hk;unfold q2w at h;split at h
 . split at h
   . split at h
     . rename_i cs' hcs;split at h
       . cases h
         match k,hk with
         |0,hk=>exact absurd rfl hk.1
         |1,_=>rfl
         |k+2,hk=>
          simp only[vwf,cellV];split
          . rw[J4];rcases zq k j with h1|h1
            . exact .inl h1
            . rcases zq k (j+cs.length)with h2|h2
              . exact absurd (qcc h1 h2) hk.2
              . exact .inr (by rw[q4e hcs];exact h2)
          . rfl
       . cases h
     . cases h
   . cases h
 . cases h
def q9g {idx n sz i j:Nat} {cs:List AV} {a b:AV} (h:q2w idx n j cs a=some b):Je idx n sz i j cs a=some b:=by
 unfold q2w at h;split at h
 . unfold Je
   grind
 . cases h
def q1f {idx n sz i j:Nat} {cs:List AV} {a b:AV} (h:Ya n sz i j cs a=some b) (hn: ∀c,a≠ .bx (.nm n) c):Je idx n sz i j cs a=some b:=by
 unfold Je
 grind
def qeu (T:TT) (idx ty:Nat) (p v:AV):M Unit:=
 match T.at ty with
 |none=> .fail
 |some ti=>
  if(cellsOf v).length≠ti.cells.length then .fail else
  match p with
  | .ptr s n sz i j=>do
    let al<-mview s 1
    match boxNm al with
    |some m=>
     if m=n then mupd s (0::keysB j (cellsOf v).length) (q2w idx n j (cellsOf v)) q7m
     else mupd s [0] (Ya n sz i j (cellsOf v)) q0u
    |none=>mupd s [0] (Ya n sz i j (cellsOf v)) q0u
  |_=> .fail
def boxAV (T:TT) (idx ty:Nat) (v:AV):M AV:=
 match T.at ty with
 |none=> .fail
 |some ti=>
  if(cellsOf v).length≠ti.cells.length then .fail else
  M.ofOpt (Xy idx 0 (cellsOf v)) λcs=>pure (.bx (.nm (fresh idx 15)) cs)
def q6u:List ZC->Option (List AV)
 |[]=>some []
 |c::cs=>match qkv c,q6u cs with
  |some v,some vs=>some (v::vs)
  |_,_=>none
def unlit:AV->AV
 | .lit (.map none)=> .dead
 |v=>v
def ql4 (T:TT) (idx ty:Nat) (v:AV):M AV:=
 match T.at ty,v with
 |some {desc:=_,cells:=[_]},.ptr s n sz i j=>pure (.bx (.nm (fresh idx 15)) [.ptr s n sz i j])
 |_,_=> .fail
def qeo (T:TT) (idx mode ty:Nat):M AV:=
 match T.at ty with
 |none=> .fail
 |some ti=>M.ofOpt (q6u ti.cells) λzs=>M.ofOpt (Xy idx 0 (cellsOf (nlI mode (.agg zs)))) λcs=>pure (.bx (.nm (fresh idx 15)) (cs.map unlit))
def qnh:AV->Bool
 | .dead| .tup _| .bx _ _| .wn _ _ _=>false
 |_=>true
def qfm (fs:List (Nat×Nat)) (cells:List AV):List (Nat×AV)->Option (List AV)
 |[]=>some cells
 |(f,v)::r=>
  match fs[f]? with
  |some (off,fsz)=>
   if(cellsOf v).length=fsz/\off+fsz<=cells.length/\qnh v=true then qfm fs (Qd cells off (cellsOf v)) r else none
  |none=>none
def rdParts (T:TT):List (Nat×Operand)->M (List (Nat×AV))
 |[]=>pure []
 |(f,x)::r=>do
  let v<-rdT x
  let vs<-rdParts T r
  pure ((f,v)::vs)
def qep (T:TT) (ty:Nat) (parts:List (Nat×AV)):M AV:=
 match T.at ty with
 |some {desc:= .struct fs,cells}=>
  M.ofOpt (q6u cells) λzs=>M.ofOpt (qfm fs zs parts) λcs=>pure (.agg cs)
 |_=> .fail
def q4v (t:Ty) (xs:List (Den t)):List (Nat×AV)->Option (List (Den t))
 |[]=>some xs
 |(i,v)::r=>
  if i<xs.length/\(cellsOf v).length=t.size/\(cellsOf v).all plainCell then
   match Zt t (cellsOf v)with
   |some (y,[])=>q4v t (xs.set i y) r
   |_=>none
  else none
def q0f (T:TT) (idx ty len:Nat) (parts:List (Nat×AV)):M AV:=
 match T.at ty with
 |some {desc:= .slice _ t,.. }=>
  if len*t.size<=65536 then
   M.ofOpt (q4v t (List.replicate len t.zero) parts) λxs=>pure (.sl (.nm (fresh idx 15)) t xs)
  else .fail
 |_=> .fail
def q3w:AV->M AV
 | .ptr s n sz i j=>pure (.ptr s n sz i j)
 | .iptr g t xs i j=>pure (.iptr g t xs i j)
 | .lit (.func (.func f) as bs)=>pure (.lit (.func (.func f) as bs))
 |_=> .fail
def q9j (x:Operand) (i:Nat):M AV:=
 match x with
 | .tmp t=>do
   let al<-mview t 1
   match al with
   |some _=> .fail
   |none=>do
    let c<-mview t (i+2)
    match c with
    |some v=>
     if q3m v then do
      mupd t [0,i+2] (qat i) q7h
      pure v
     else pure v
    |none=> .fail
 |_=> .fail
def renC (f:Nat->Nat):AV->AV
 | .dp n t xs h=> .dp (f n) t xs h
 | .sl (.nm n) t xs=> .sl (.nm (f n)) t xs
 | .wn n t xs=> .wn (f n) t xs
 | .dq n t xs h=> .dq (f n) t xs h
 | .fd n t xs h=> .fd (f n) t xs h
 | .mm n t xs o=> .mm (f n) t xs o
 |v=>v
def renO (f:Nat->Nat):Own->Own
 | .nm n=> .nm (f n)
 |o=>o
def renA (f:Nat->Nat):AV->AV
 | .bx o cells=> .bx (renO f o) (cells.map (renC f))
 | .agg cells=> .agg (cells.map (renC f))
 |v=>renC f v
def ren (f:Nat->Nat):AV->AV
 | .tup vs=> .tup (vs.map (renA f))
 |v=>renA f v
def idxIn:List Nat->Nat->Nat
 |[],_=>0
 |m::ms,n=>if m=n then 0 else idxIn ms n+1
def undp:AV->AV
 | .fd n t xs h=> .dp n t xs h
 |v=>v
def refd (c d:AV):AV:=match c,d with
 | .fd _ _ _ _,.dp n t xs h=> .fd n t xs h
 |_,d=>d
def qhp {s:Nat} {c:AV}:Qr s (undp c)=Qr s c:=by cases c<;>rfl
def qhk {s:Nat} {c d:AV}:Qr s (refd c d)=Qr s d:=by
 unfold refd;split<;>rfl
def isDp (n:Nat):AV->Bool
 | .dp m _ _ _=>Nat.beq m n
 | .fd m _ _ _=>Nat.beq m n
 |_=>false
def qgu (n:Nat):List AV->Nat->Option Nat
 |[],_=>none
 |c::cs,k=>match isDp n c with
  |true=>some k
  |false=>qgu n cs (k+1)
def dpAt (n:Nat):AV->Option (AV×Option Nat)
 | .dp m t xs h=>if m=n then some (.dp m t xs h,none)else none
 | .bx (.nm _) cells=>match qgu n cells 0 with
   |some j=>some (undp (cells.getD j .dead),some j)
   |none=>none
 |_=>none
def qj3 (h:Option Nat) (i:Nat):M Unit:=match h with
 |some k=>mask (k=i)
 |none=>pure ()
def q57 (h:Option Nat) (i:Nat):M Unit:=match h with
 |some k=>mask (k≠i)
 |none=>pure ()
def passW (s n:Nat):M AV:=do
 let a<-mget s
 match dpAt n a with
 |some (.dp _ t xs none,_)=>pure (.sl .imm (.sl false t) xs)
 |_=> .fail
def passC (c:AV):M AV:=
 match c with
 | .bool b=>pure (.bool b)
 | .int k x=>pure (.int k x)
 | .lit v=>pure (.lit v)
 | .sl .imm t xs=>pure (.sl .imm t xs)
 | .sl .nl t xs=>pure (.sl .imm t xs)
 | .ref s n sz win=>do
   let y<-shown (.ref s n sz win)
   pure (.sl .imm y.1 y.2)
 | .dr s n (.row i)=>do
   let a<-mget s
   match dpAt n a with
   |some (.dp _ t xs h,_)=>do
     q57 h i
     pure (.sl .imm t (xs.getD i []))
   |_=> .fail
 | .dr s n .whole=>passW s n
 | .dr s n (.lenw _)=>passW s n
 | .iptr g t xs i j=>pure (.iptr g t xs i j)
 | .dead=>pure .dead
 |_=> .fail
def passL:List AV->M (List AV)
 |[]=>pure []
 |c::cs=>do
  let c'<-passC c
  let cs'<-passL cs
  pure (c'::cs')
def Yd:AV->Bool
 | .ref _ _ _ _=>false
 | .dr _ _ _=>false
 | .ptr _ _ _ _ _=>false
 | .wn _ _ _=>false
 | .fd _ _ _ _=>false
 |_=>true
def q4a:AV->Bool
 | .bx _ cells=>cells.all Yd
 | .agg cells=>cells.all Yd
 |v=>Yd v
def noRef:AV->Bool
 | .tup vs=>vs.all q4a
 |v=>q4a v
def isWn:AV->Bool
 | .wn _ _ _=>true
 | .bx (.nm _) (.fd _ _ _ _::cells)=>cells.all Yd
 |_=>false
def okOut (v:AV):Bool:=noRef v||isWn v
def rdP:Operand->M AV
 | .tmp t=>do
   let a<-mget t
   match a with
   | .bx (.nm n) _=>pure (.ptr t n 1 0 0)
   |_=>rdF (.tmp t)
 |x=>rdF x
def refC:AV->List Nat
 | .ref _ n _ _=>[n]
 | .dr _ n _=>[n]
 |_=>[]
def passA (ty:Nat) (T:TT) (x:Operand):M (AV×Option Nat×List Nat):=do
 let v<-rdP x
 match Yy T ty v with
 | .agg cells=>do
   let cs<-passL cells
   pure (.agg cs,none,cells.flatMap refC)
 | .ptr s n _ 0 0=>do
   let a<-mget s
   match a with
   | .bx (.nm m) cells=>
     if m=n/\noRef a=true/\(names a).length<=16 then pure (ren (idxIn (names a)) (.bx (.nm m) cells),some s,[])else .fail
   |_=> .fail
 |v=>do
  let c<-passC v
  pure (c,none,refC v)
def Zn:AV->Option Nat
 | .bx (.nm m) _=>some m
 | .sl (.nm m) _ _=>some m
 | .dp m _ _ none=>some m
 |_=>none
def lendA (x:Operand):M (AV×Option Nat×List Nat):=do
 let v<-rd x
 match v with
 | .ref s n _ none=>do
   let a<-mget s
   match a with
   | .sl (.nm m) t xs=>if m=n then pure (ren (idxIn (names (.sl (.nm m) t xs))) (.sl (.nm m) t xs),some s,[])else .fail
   |_=> .fail
 | .dr s n .whole=>do
   let a<-mget s
   match a with
   | .dp m t xs none=>if m=n then pure (ren (idxIn (names (.dp m t xs none))) (.dp m t xs none),some s,[])else .fail
   |_=> .fail
 |_=> .fail
def passN (ty:Nat) (T:TT) (x:Operand):M (AV×Option Nat×List Nat):=do
 let v<-rd x
 match Yy T ty v with
 | .sl .nl t xs=>pure (.sl .nl t xs,none,[])
 |_=> .fail
def passX (T:TT) (k ty:Nat) (x:Operand):M (AV×Option Nat×List Nat):=
 if Nat.beq k 101 then passN ty T x else
 match k with
 |1=>lendA x
 |_=>passA ty T x
def passAll (T:TT):Nat->List Operand->List TypeId->M (List (AV×Option Nat×List Nat))
 |k,x::xs,ty::tys=>do
  let a<-passX T k ty x
  let as<-passAll T (k-1) xs tys
  pure (a::as)
 |_,[],_=>pure []
 |_,_,[]=> .fail
def X7:Ty->Bool
 | .int _=>false
 | .bool=>false
 | .sl _ _=>true
 | .pr a b=>X7 a||X7 b
 | .opq=>false
def Zh:AV->Bool
 | .sl .imm _ _=>true
 | .sl _ t _=>X7 t
 | .iptr _ _ _ _ _=>true
 | .dp _ t _ _=>X7 t
 | .fd _ t _ _=>X7 t
 | .mm _ t _ _=>X7 t
 | .wn _ t _=>X7 t
 | .dq _ _ _ _=>true
 |_=>false
def Qs:AV->Bool
 | .bx _ cells=>cells.any Zh
 | .agg cells=>cells.any Zh
 | .tup vs=>vs.any λv=>match v with
   | .bx _ cells=>cells.any Zh
   | .agg cells=>cells.any Zh
   |v=>Zh v
 |v=>Zh v
def Y8:List (AV×Option Nat×List Nat)->List Nat
 |[]=>[]
 |(_,some s,_)::r=>s::Y8 r
 |_::r=>Y8 r
def outAt (outs:List AV):List (AV×Option Nat×List Nat)->Nat->Option AV
 |[],_=>none
 |(_,some _,_)::_,i=>outs[i]?
 |_::r,i=>outAt outs r (i+1)
def q08 (k s:Nat) (p:AV×Option Nat×List Nat):AV:=
 match p.2.1 with
 |some s'=>if s'=s then ren (λn=>n+k) p.1 else p.1
 |none=>p.1
def outOf (s:Nat) (outs:List AV):List (AV×Option Nat×List Nat)->Nat->Option AV
 |[],_=>none
 |(_,some s',_)::r,i=>if s'=s then outs[i]? else outOf s outs r (i+1)
 |_::r,i=>outOf s outs r (i+1)
def qlo (T:TT) (idx mode f:Nat) (args:List Operand) (tys:List TypeId):M AV:=do
 let ps<-passAll T (mode-10) args tys
 match Y8 ps with
 |[]=>do
  let (r,_)<-mcall f (ps.map (·.1))
  if !(ps.flatMap (·.2.2)).isEmpty&&Qs r then .fail else pure (ren (fresh idx) r)
 |[s]=>do
  let a<-mget s
  if(Zn a).isNone||(ps.flatMap (·.2.2)).any λn=>(names a).contains n then .fail else do
   let (r,outs)<-mcall f (ps.map (·.1))
   match outAt outs ps 0 with
   |some o=>if(!(ps.flatMap (·.2.2)).isEmpty&&(Qs r||Qs o))||isWn o then .fail else do
     mset s (ren (fresh idx) o)
     pure (ren (fresh idx) r)
   |none=> .fail
 |[s,t]=>do
  let a<-mget s
  let b<-mget t
  if Nat.beq s t||(Zn a).isNone||(Zn b).isNone||Nat.blt 16 ((names a).length+(names b).length)||(ps.flatMap (·.2.2)).any λn=>(names a++names b).contains n then .fail else do
   let (r,outs)<-mcall f (ps.map (q08 (names a).length t))
   match outOf s outs ps 0,outOf t outs ps 0 with
   |some o,some q=>if(!(ps.flatMap (·.2.2)).isEmpty&&(Qs r||Qs o||Qs q))||(isWn o||isWn q)then .fail else do
     mset s (ren (fresh idx) o)
     mset t (ren (fresh idx) q)
     pure (ren (fresh idx) r)
   |_,_=> .fail
 |_=> .fail
def winAV (T:TT) (idx f:Nat) (args:List Operand) (tys:List TypeId):M AV:=
 match args,tys with
 |x::rest,_::tys=>do
  let ps<-passAll T 0 rest tys
  match Y8 ps with
  |[]=>do
   let a<-rd x
   match a with
   | .ref s n sz (some (off,len))=>do
     let b<-mget s
     match b with
     | .sl (.nm m) t xs=>
       if m=n/\sz=t.size/\X7 t=false/\(ps.flatMap (·.2.2)).contains n=false then do
        mask (0<len)
        let (r,outs)<-mcall f (.wn 0 t ((xs.drop off).take len)::ps.map (·.1))
        match r,outs with
        | .int k z,.wn 0 t' ys::_=>
          if h:t'=t then do
           mset s (.sl (.nm (fresh idx 0)) t (xs.take off++((h▸ys:List (Den t))++xs.drop (off+len))))
           pure (.int k z)
          else .fail
        |_,_=> .fail
       else .fail
     |_=> .fail
   |_=> .fail
  |_=> .fail
 |_,_=> .fail
def rowAV (T:TT) (idx f:Nat) (args:List Operand) (tys:List TypeId):M AV:=
 match args,tys with
 |x::rest,_::tys=>do
  let ps<-passAll T 0 rest tys
  match Y8 ps with
  |[]=>do
   let a<-rd x
   match a with
   | .dr s n (.row i)=>do
     let b<-mget s
     match b with
     | .dp m t xs none=>
       if m=n/\(ps.flatMap (·.2.2)).contains n=false/\(ps.flatMap (·.2.2)).contains (fresh idx 15)=false then do
        let (r,outs)<-mcall f (.sl (.nm 0) t (xs.getD i [])::ps.map (·.1))
        match outs with
        | .sl (.nm _) t' ys::_=>
          if h:t'=t then
           if !(ps.flatMap (·.2.2)).isEmpty&&(Qs r||X7 t)then .fail else do
            mset s (.dp m t (xs.set i (h▸ys)) none)
            pure (ren (fresh idx) r)
          else .fail
        |_=> .fail
       else .fail
     |_=> .fail
   |_=> .fail
  |_=> .fail
 |_,_=> .fail
def callW (T:TT) (idx mode f:Nat) (args:List Operand) (tys:List TypeId):M AV:=
 if Nat.beq mode 300 then winAV T idx f args tys else if Nat.beq mode 301 then rowAV T idx f args tys else qlo T idx mode f args tys
def cloAV (T:TT) (idx f:Nat) (args:List Operand) (tys:List TypeId) (ex:AV):M AV:=do
 let ps<-passAll T 0 args tys
 match Y8 ps with
 |[]=>do
  let (r,_)<-mcall f (ps.map (·.1)++[ex])
  if !(ps.flatMap (·.2.2)).isEmpty&&Qs r then .fail else pure (ren (fresh idx) r)
 |_=> .fail
def qbm:AV->Option (Sigma Den)
 | .int k x=>some ⟨.int k,x⟩
 | .bool b=>some ⟨.bool,b⟩
 | .sl .imm t xs=>some ⟨.sl false t,xs⟩
 |_=>none
def q9a:List AV->Option (Sigma Den)
 |[]=>none
 |[c]=>qbm c
 |c::cs=>match qbm c,q9a cs with
  |some x,some y=>some ⟨.pr x.1 y.1,(x.2,y.2)⟩
  |_,_=>none
def q3f (f:Nat) (first cap:List Operand):M AV:=
 match first,cap with
 |[],[.tmp s]=>do
  let v<-mget s
  match v with
  | .bx (.nm _) [.int k x]=>do
    mset s (.iptr none (.int k) [x] 0 0)
    pure (.iptr (some f) (.int k) [x] 0 0)
  | .bx (.nm _) [.sl .imm ty xs]=>do
    mset s (.iptr none (.sl false ty) [xs] 0 0)
    pure (.iptr (some f) (.sl false ty) [xs] 0 0)
  | .iptr none t xs i j=>pure (.iptr (some f) t xs i j)
  | .bx (.nm _) cells=>
    match q9a cells with
    |some ⟨t,x⟩=>do
     mset s (.iptr none t [x] 0 0)
     pure (.iptr (some f) t [x] 0 0)
    |none=> .fail
  |_=> .fail
 |_,_=> .fail
def maxAV (a b:AV):M AV:=
 match a,b with
 | .int k x,.int _ y=>pure (.int k (if y>x then y else x))
 |_,_=> .fail
def minAV (a b:AV):M AV:=
 match a,b with
 | .int k x,.int _ y=>pure (.int k (if y<x then y else x))
 |_,_=> .fail
def qko (T:TT) (idx ty:Nat) (l c:AV):M AV:=
 match T.at ty,l,c with
 |some {desc:= .slice _ (.sl _ t),.. },.int .i64 l,.int .i64 c=>do
  mask (0<=l/\l<=c/\c<=1073741824)
  pure (.dp (fresh idx 15) t (List.replicate l.toNat []) none)
 |_,_,_=> .fail
def dpLoc (W:List Nat):Option Nat->List Nat
 |none=>W
 |some j=>[0,j+2]
def atLoc (f:AV->Option AV):Option Nat->AV->Option AV
 |none,a=>f a
 |some j,.bx (.nm m) cells=>match f (undp (cells.getD j .dead))with
  |some d=>some (.bx (.nm m) (cells.set j (refd (cells.getD j .dead) d)))
  |none=>none
 |_,_=>none
def q6c {s:Nat} {f:AV->Option AV} {W:List Nat} (hf: ∀a b,f a=some b-> ∀j,j∉W->vwf s j b=vwf s j a) (loc:Option Nat):
 ∀a b,atLoc f loc a=some b-> ∀j,j∉dpLoc W loc->vwf s j b=vwf s j a:=by
 intro a b h j hj;cases loc with
 |none=>exact hf a b h j hj
 |some k=>
  simp only[dpLoc,zJ,zS,or_false,not_or]at hj;unfold atLoc at h;split at h
  . rename_i e;cases e
  . rename_i e;cases e;split at h
    . cases h
      match j,hj with
      |0,hj=>exact absurd rfl hj.1
      |1,_=>rfl
      |j+2,hj=>
       simp only[vwf,cellV]
       grind
    . cases h
  . cases h
def q4f {s:Nat} {f:AV->Option AV} (hf: ∀a b,f a=some b-> ∀j,j∉[0]->vwf s j b=vwf s j a) (hn: ∀a b,f a=some b->Qr s b=Qr s a) (loc:Option Nat):
 ∀a b,atLoc f loc a=some b-> ∀j,j∉[0]->vwf s j b=vwf s j a:=by
 intro a b h j hj;cases loc with
 |none=>exact hf a b h j hj
 |some k=>
  unfold atLoc at h;split at h
  . rename_i e;cases e
  . rename_i cells e;cases e;split at h
    . rename_i d hd;cases h
      match j,hj with
      |0,hj=>grind
      |1,_=>rfl
      |j+2,hj=>
       have hq:=hn _ _ hd;rw[qhp]at hq;have hr:=qhk (s:=s) (c:=cells.getD k .dead) (d:=d);simp only[vwf,cellV]
       grind
    . cases h
  . cases h
def dpLen (s n:Nat):M Nat:=do
 let b<-mview s 1
 match b with
 |some (.dr _ m .whole)=>do
  let a<-mview s 2
  match a with
  |some (.dr l _ .whole)=>if m=n then pure l else .fail
  |_=> .fail
 |some (.ptr _ _ _ _ _)=>do
  let a<-mget s
  match dpAt n a with
  |some (.dp _ _ xs _,_)=>pure xs.length
  |_=> .fail
 |_=> .fail
def lenDr (T:TT) (ty:Nat) (s n:Nat) (k:DK):M AV:=
 match T.at ty with
 |some {desc:= .slice _ _,.. }=>
  match k with
  | .whole=>do
    let l<-dpLen s n
    pure (.int .i64 l)
  | .lenw l=>pure (.int .i64 l)
  | .row i=>do
    let a<-mget s
    match dpAt n a with
    |some (.dp _ _ xs h,_)=>do
      q57 h i
      pure (.int .i64 (xs.getD i []).length)
    |_=> .fail
  |_=> .fail
 |_=> .fail
def qe6 (T:TT) (ty:Nat) (s n:Nat) (k:DK) (i:AV):M AV:=
 match T.at ty,i with
 |some {desc:= .slice _ et,.. },.int _ i=>
  match k with
  | .whole=>
    if et.size=1 then do
     let l<-dpLen s n
     mask (0<=i/\i<l)
     pure (.dr s n (.cell i.toNat))
    else .fail
  | .lenw l=>
    if et.size=1 then do
     mask (0<=i/\i<l)
     pure (.dr s n (.cell i.toNat))
    else .fail
  | .row r=>do
    let a<-mget s
    match dpAt n a with
    |some (.dp _ t xs h,_)=>
     if et.size=t.size then do
      q57 h r
      mask (0<=i/\i<(xs.getD r []).length)
      pure (.dr s n (.elem t.size r i.toNat 0))
     else .fail
    |_=> .fail
  |_=> .fail
 |_,_=> .fail
def qcm (i:Nat):AV->Option AV
 | .dp n t xs none=>some (.dp n t xs (some i))
 |_=>none
def qaw {s i:Nat} (a b:AV) (h:qcm i a=some b): ∀j,j∉[0]->vwf s j b=vwf s j a:=by
 intro j hj;unfold qcm at h;split at h
 . cases h
   match j,hj with
   |0,hj=>grind
   |1,_=>rfl
   |j+2,_=>rfl
 . cases h
def qcg {s i:Nat} (a b:AV) (h:qcm i a=some b):Qr s b=Qr s a:=by
 unfold qcm at h;split at h
 . cases h;rfl
 . cases h
def qki (T:TT) (idx mode ty:Nat) (s n:Nat) (k:DK):M AV:=
 match T.at ty with
 |none=> .fail
 |some ti=>
  match k with
  | .cell i=>match ti with
    |{desc:= .slice _ et,cells:=[_]}=>
     match mode with
     |4=>do
      let a<-mget s
      match dpAt n a with
      |some (.dp _ t xs none,loc)=>
       if et.size=t.size then do
        mupd s [0] (atLoc (qcm i) loc) (q4f qaw qcg loc)
        pure (.sl (.nm (fresh idx 15)) t (xs.getD i []))
       else .fail
      |_=> .fail
     |_=>do
      let a<-mget s
      match dpAt n a with
      |some (.dp _ _ _ h,_)=>do
        q57 h i
        pure (.dr s n (.row i))
      |_=> .fail
    |_=> .fail
  | .elem sz i j c=>do
    let a<-mget s
    match dpAt n a with
    |some (.dp _ t xs h,_)=>
     if sz=t.size then do
      q57 h i
      mopt (partOf ti.cells.length (Q5 ti.desc) ((unpack t ((xs.getD i []).getD j t.zero)).map immC) c)
     else .fail
    |_=> .fail
  |_=> .fail
def putDp (i m:Nat) (t:Ty) (ys:List (Den t)):AV->Option AV
 | .dp _ t' xs _=>if h:t'=t then some (.dp m t' (xs.set i (h▸ys)) none)else none
 |_=>none
def setDp (i j c:Nat) (vs:List AV):AV->Option AV
 | .dp m t xs h=>match Zk t ((xs.getD i []).getD j t.zero) c vs with
   |some x=>some (.dp m t (xs.set i ((xs.getD i []).set j x)) h)
   |none=>none
 |_=>none
def qej {s i j c:Nat} {vs:List AV} (a b:AV) (h:setDp i j c vs a=some b): ∀k,k∉[0]->vwf s k b=vwf s k a:=by
 intro k hk;unfold setDp at h;split at h
 . split at h
   . cases h
     match k,hk with
     |0,hk=>grind
     |1,_=>rfl
     |k+2,_=>simp only[vwf,cellV,zY]
   . cases h
 . cases h
def qeq {s i j c:Nat} {vs:List AV} (a b:AV) (h:setDp i j c vs a=some b):Qr s b=Qr s a:=by
 unfold setDp at h;split at h
 . split at h
   . cases h;simp[Qr]
   . cases h
 . cases h
def qdr {s i m:Nat} {t:Ty} {ys:List (Den t)} (a b:AV) (h:putDp i m t ys a=some b): ∀j,j∉[0,1,2]->vwf s j b=vwf s j a:=by
 intro j hj;unfold putDp at h;split at h
 . split at h
   . cases h
     match j,hj with
     |0,hj=>exact absurd (by simp) hj
     |1,hj=>exact absurd (by simp) hj
     |2,hj=>exact absurd (by simp) hj
     |j+3,_=>simp[vwf,cellV]
   . cases h
 . cases h
def qak (T:TT) (idx ty:Nat) (s n:Nat) (k:DK) (v:AV):M Unit:=
 match T.at ty with
 |none=> .fail
 |some ti=>
  match k with
  | .cell i=>match ti,v with
    |{cells:=[_],.. },.sl (.nm _) t ys=>do
     let a<-mget s
     match dpAt n a with
     |some (.dp _ t' _ h,loc)=>
      if t'=t then do
       qj3 h i
       mupd s (dpLoc [0,1,2] loc) (atLoc (putDp i (fresh idx 15) t ys) loc) (q6c qdr loc)
      else .fail
     |_=> .fail
    |_,_=> .fail
  | .elem sz i j c=>
    if(cellsOf v).length=ti.cells.length/\(cellsOf v).all plainCell=true then do
     let a<-mget s
     match dpAt n a with
     |some (.dp _ t _ h,loc)=>
      if sz=t.size then do
       q57 h i
       mupd s [0] (atLoc (setDp i j c (cellsOf v)) loc) (q4f qej qeq loc)
      else .fail
     |_=> .fail
    else .fail
  |_=> .fail
def nilAV (idx mode:Nat) (t:Ty) (xs:List (Den t)):M AV:=
 match mode with
 |6=>match t with
  | .sl _ ty=>pure (.dp (fresh idx 0) ty [] none)
  |_=> .fail
 |_=>pure (.sl (.nm (fresh idx 0)) t xs)
def buildDp (T:TT) (idx ty:Nat) (v:AV):M AV:=
 match T.at ty,v with
 |some {desc:= .slice _ (.sl _ t),.. },.sl (.nm _) t' ys=>if t'=t then pure (.dp (fresh idx 15) t' [ys] none)else .fail
 |some {desc:= .slice _ (.sl _ t),.. },.lit (.slice none 0 0)=>pure (.dp (fresh idx 15) t [[]] none)
 |_,_=> .fail
def q5t (T:TT) (idx ty n:Nat):List (Nat×Operand)->M AV
 |[(0,x)]=>if n=1 then do let v<-rdT x;buildDp T idx ty v else .fail
 |_=> .fail
def q9i (T:TT) (idx:Nat) (tys:Array TypeId) (x y:AV):M AV:=
 match tys[0]?,tys[1]? with
 |some t0,some t1=>
  match T.at t0,T.at t1 with
  |some {desc:= .slice _ (.sl _ _),.. },some {desc:= .slice _ _,.. }=>
   match x,y with
   | .dp _ t xs none,.dp _ t' ys none=>
     if h:t'=t then do
      mask (0<ys.length/\xs.length+ys.length<=1073741824)
      pure (.dp (fresh idx 15) t (xs++(h▸ys)) none)
     else .fail
   |_,_=> .fail
  |_,_=> .fail
 |_,_=> .fail
def qbe (T:TT) (idx mode:Nat) (b:Builtin) (args:List Operand) (tys:Array TypeId):M AV:=
 match b,args with
 | .len,[x]=>match tys[0]? with
   |some t=>do
    let v<-rd x
    match v with
    | .dr s n k=>lenDr T t s n k
    |v=>lenAV T t (Yy T t v)
   |none=> .fail
 | .append,[x,y]=>
   match mode with
   |5=>do
    let u<-rd x
    let v<-rd y
    q40 T idx tys u v
   |6=>do
    let u<-rdT x
    let v<-rdT y
    q9i T idx tys u v
   |mode=>do
    let u<-rdC mode x
    let v<-rdT y
    q9h T idx tys (Yy T (tys.getD 0 0) u) v
 | .copy,[x,y]=>do
   let u<-rd x
   let v<-rd y
   qj8 T idx tys u v
 | .max,[x,y]=>do let a<-rd x;let b<-rd y;maxAV a b
 | .min,[x,y]=>do let a<-rd x;let b<-rd y;minAV a b
 |_,_=> .fail
def opAV (T:TT) (idx mode:Nat) (o:Oper):M AV:=
 match o.op with
 | .move x=>do
   let v<-rdm mode x
   pure (Yy T o.type v)
 | .assign x=>do
   let v<-rdm (if mode=0 then 1 else mode) x
   match nlI mode (Yy T o.type v)with
   | .sl .nl t xs=>nilAV idx mode t xs
   |v=>pure v
 | .pick c a b=>match c with
   | .tmp t=>do
     let y<-mknow t
     if y then rd a else rd b
   |_=> .fail
 | .alloc e=>qeo T idx mode e
 | .box e x=>match mode with
   |8=>do let v<-rd x;ql4 T idx e v
   |_=>do let v<-rdQ mode x;boxAV T idx e (nlI mode (Yy T e v))
 | .build t ps=>do let vs<-rdParts T ps.toList;qep T t vs
 | .buildSlice t n ps=>match mode with
   |6=>q5t T idx t n ps.toList
   |_=>do let vs<-rdParts T ps.toList;q0f T idx t n vs
 | .load t p=>do
   let a<-rd p
   match a with
   | .dr s n k=>qki T idx mode t s n k
   |a=>match mode with
    |7=>do
     frzBx a
     qgc T 0 t a
    |mode=>qgc T mode t a
 | .store t p x=>
   match mode with
   |4=>do
    let v<-rdT x
    let a<-rd p
    match a with
    | .dr s n k=>do
      qak T idx t s n k v
      pure .dead
    |_=> .fail
   |mode=>do
   let v<-rdQ mode x
   let a<-rd p
   match a with
   | .dr s n k=>do
     qak T idx t s n k (nlI mode (Yy T t v))
     pure .dead
   |a=>do
    qeu T idx t a (nlI mode (Yy T t v))
    pure .dead
 | .nilCheck x=>do let v<-rd x;q3w v
 | .binOp op t x y _=>do let a<-rd x;let b<-rd y;binAV T op t a b
 | .unOp op _ x=>do let a<-rd x;unAV op a
 | .convert s d x=>do let a<-rd x;qjh T s d a
 | .makeSlice t l c=>
   match mode with
   |4=>do let a<-rd l;let b<-rd c;qko T idx t a b
   |_=>do let a<-rd l;let b<-rd c;qku T idx t a b
 | .slice t x lo hi none=>do
   let v<-rdC mode x
   let l<-(match lo with|some l=>do let a<-rd l;pure (some a)|none=>pure none)
   let h<-(match hi with|some h=>do let a<-rd h;pure (some a)|none=>pure none)
   qe4 T idx t v l h
 | .fieldAddr t x f=>do let a<-rd x;q1m T t a f
 | .field t x f=>do let a<-rd x;qf9 T t a f
 | .indexAddr t x i=>match x with
   | .global g=>do let b<-rd i;tabAV T t g b
   |x=>
    do
    let a<-rd x
    let b<-rd i
    match a with
    | .dr s n k=>qe6 T t s n k b
    |a=>q1q T t a b
 | .index t x i=>do let a<-rd x;let b<-rd i;qf8 T t a b
 | .extract x i=>q9j x i
 | .call c=>match c.callee with
   | .builtin b=>qbe T idx mode b c.args.toList c.argTypes
   | .value (.func f)=>callW T idx mode f c.args.toList c.argTypes.toList
   | .value (.tmp t)=>do
     let a<-mget t
     match a with
     | .lit (.func (.func f) as bs)=>if as.size=0/\bs.size=0 then qlo T idx mode f c.args.toList c.argTypes.toList else .fail
     | .iptr (some f) t xs i j=>cloAV T idx f c.args.toList c.argTypes.toList (.iptr none t xs i j)
     |_=> .fail
   |_=> .fail
 | .makeFunc (.func f) first cap=>match mode with
   |9=>pure .dead
   |_=>q3f f first.toList cap.toList
 |_=> .fail
end Go.Vs
namespace Go.Vs
def lenDq (T:TT) (ty n:Nat) (a:AV):M AV:=
 match T.at ty,a with
 |some {desc:= .slice _ _,.. },.dq m _ xs _=>if m=n then pure (.int .i64 xs.length)else .fail
 |_,_=> .fail
def qpp (T:TT) (ty s n:Nat) (a i:AV):M AV:=
 match T.at ty,a,i with
 |some {desc:= .slice _ et,.. },.dq m t xs _,.int _ i=>
  if m=n/\et.size=t.size then do
   mask (0<=i/\i<xs.length)
   pure (.ptr s n t.size i.toNat 0)
  else .fail
 |_,_,_=> .fail
def qrf:AV->AV
 | .sl _ _ _=> .dead
 |v=>v
def qrg (ti:TI) (n sz i j:Nat) (a:AV):M AV:=
 match a with
 | .dq m t xs _=>if m=n/\sz=t.size then mopt (partOf ti.cells.length (Q5 ti.desc) ((unpack t (xs.getD i t.zero)).map qrf) j)else .fail
 |_=> .fail
def qr1 (idx:Nat) (ti:TI) (s n sz i j:Nat) (a:AV):M AV:=
 match a with
 | .dq m t xs none=>
   if m=n/\sz=t.size/\ti.cells.length=1/\Q5 ti.desc=false then
    match(unpack t (xs.getD i t.zero))[j]? with
    |some (.sl _ u ys)=>do
     mset s (.dq m t xs (some (i*t.size+j)))
     pure (.sl (.nm (fresh idx 15)) u ys)
    |_=> .fail
   else .fail
 |_=> .fail
def qmj:AV->Bool
 | .bool _| .int _ _=>true
 |_=>false
def qp5 (ti:TI) (s n sz i j:Nat) (v a:AV):M Unit:=
 match a with
 | .dq m t xs h=>
   if m=n/\sz=t.size/\(cellsOf v).length=ti.cells.length/\(cellsOf v).all qmj=true then
    M.ofOpt (Zk t (xs.getD i t.zero) j (cellsOf v)) λx=>mset s (.dq m t (xs.set i x) h)
   else .fail
 |_=> .fail
def qr2 (ti:TI) (s n sz i j:Nat) (v a:AV):M Unit:=
 match a,v with
 | .dq m t xs (some q),.sl (.nm k) u ys=>
   if m=n/\sz=t.size/\ti.cells.length=1 then do
    mask (q=i*t.size+j)
    M.ofOpt (Zk t (xs.getD i t.zero) j [.sl (.nm k) u ys]) λx=>mset s (.dq m t (xs.set i x) none)
   else .fail
 |_,_=> .fail
def qqg:AV->Bool
 | .bool _| .int _ _| .sl .nl _ _=>true
 |_=>false
def qof (T:TT) (idx ty:Nat) (v:AV):M AV:=
 match T.at ty,v with
 |some {desc:= .slice _ t,.. },.agg cells=>
  if cells.all qqg=true/\0<t.size/\t.size<=64 then
   match Zt t cells with
   |some (y,[])=>pure (.dq (fresh idx 15) t [y] none)
   |_=> .fail
  else .fail
 |_,_=> .fail
def qnd (T:TT) (idx:Nat) (tys:Array TypeId) (x y:AV):M AV:=
 match tys[0]?,tys[1]? with
 |some t0,some t1=>
  match T.at t0,T.at t1 with
  |some {desc:= .slice _ et,.. },some {desc:= .slice _ _,.. }=>
   match x,y with
   | .dq _ t xs none,.dq _ t' ys none=>
     if h:t'=t/\et.size=t.size then do
      mask (0<ys.length/\xs.length+ys.length<=1073741824)
      pure (.dq (fresh idx 15) t (xs++(h.1▸ys)) none)
     else .fail
   |_,_=> .fail
  |_,_=> .fail
 |_,_=> .fail
def q0d:Nat->List AV->List Nat
 |_,[]=>[]
 |k,c::cs=>if(qc c).isEmpty then q0d (k+1) cs else k::q0d (k+1) cs
def qli (c:AV):AV:=if(qc c).isEmpty then c else .dead
def qj5 (L:List Nat) (a:AV):Option AV:=
 match a with
 | .bx (.nm m) cells=>if q0d 0 cells=L then some (.bx (.nm m) (cells.map qli))else none
 |_=>none
def q6d: ∀{cells:List AV} {k j:Nat} (h:j<cells.length),(qc cells[j]).isEmpty=false->k+j∈q0d k cells
 |c::cs,k,0,h,hn=>by
  have hn':(qc c).isEmpty=false:=hn;simp[q0d,hn']
 |c::cs,k,j+1,h,hn=>by
  have:=q6d (cells:=cs) (k:=k+1) (j:=j) (by simpa using h) (by simpa using hn)
  rw[show k+(j+1)=k+1+j by omega]
  unfold q0d;split
  . exact this
  . exact mT this
def qci {s:Nat} {L:List Nat} (a b:AV) (h:qj5 L a=some b): ∀j,j∉0::L.map (· +2)->vwf s j b=vwf s j a:=by
 intro j hj;unfold qj5 at h;split at h
 . split at h
   . rename_i cells hL;cases h;subst hL;simp only[zJ,not_or]at hj
     match j,hj with
     |0,hj=>exact absurd rfl hj.1
     |1,_=>rfl
     |j+2,hj=>
      simp only[vwf,cellV,List.getElem?_map];split
      . by_cases hlt:j<cells.length
        . have hne:(qc cells[j]).isEmpty=true:=by
           cases hc:(qc cells[j]).isEmpty with
           |true=>rfl
           |false=>
            have:=q6d (k:=0) hlt hc;rw[zK]at this;exact absurd (zM.2 ⟨j,this,rfl⟩) hj.2
          rw[List.getElem?_eq_getElem hlt];simp[qli,hne]
        . rw[List.getElem?_eq_none O];rfl
      . rfl
   . cases h
 . cases h
def qqx (ti:TI) (s n:Nat) (a:AV):M AV:=
 match a with
 | .bx (.nm m) cells=>
   if m=n/\cells.length=ti.cells.length then do
    mupd s (0::(q0d 0 cells).map (· +2)) (qj5 (q0d 0 cells)) qci
    mopt (asOne (Q5 ti.desc) cells)
   else .fail
 |_=> .fail
def opDq (T:TT) (idx mode:Nat) (o:Oper):M AV:=
 match o.op with
 | .assign (.const c)=>match Yy T o.type (q5m c)with
   | .sl .nl t _=>pure (.dq (fresh idx 0) t [] none)
   |_=> .fail
 | .buildSlice t n ps=>match ps.toList with
   |[(0,x)]=>if n=1 then do let v<-rdT x;qof T idx t v else .fail
   |_=> .fail
 | .load t p=>do
   let a<-rd p
   match T.at t,a with
   |some ti,.ptr s n sz i j=>do
    let b<-mget s
    match Nat.beq mode 5001 with
    |true=>qr1 idx ti s n sz i j b
    |false=>match Nat.beq mode 5002 with
     |true=>if i=0/\j=0 then qqx ti s n b else .fail
     |false=>qrg ti n sz i j b
   |_,_=> .fail
 | .store t p x=>do
   let v<-rdT x
   let a<-rd p
   match T.at t,a with
   |some ti,.ptr s n sz i j=>do
    let b<-mget s
    match Nat.beq mode 5001 with
    |true=>qr2 ti s n sz i j v b
    |false=>qp5 ti s n sz i j v b
    pure .dead
   |_,_=> .fail
 | .indexAddr t x i=>do
   let v<-rd x
   let b<-rd i
   match v with
   | .ref s n _ none=>do
     let a<-mget s
     qpp T t s n a b
   |_=> .fail
 | .call c=>match c.callee with
   | .builtin .len=>match c.args.toList,c.argTypes[0]? with
     |[x],some t=>do
      let v<-rd x
      match v with
      | .ref s n _ none=>do
        let a<-mget s
        lenDq T t n a
      |_=> .fail
     |_,_=> .fail
   | .builtin .append=>match c.args.toList with
     |[x,y]=>do
      let u<-rdT x
      let v<-rdT y
      qnd T idx c.argTypes u v
     |_=> .fail
   |_=> .fail
 |_=> .fail
def qk9 (i j m:Nat):AV->Option AV
 | .dp _ t xs none=>some (.dp m t (xs.set i (xs.getD j [])) (some j))
 |_=>none
def qc7 {s i j m:Nat} (a b:AV) (h:qk9 i j m a=some b): ∀k,k∉[0,1,2]->vwf s k b=vwf s k a:=by
 intro k hk;unfold qk9 at h;split at h
 . cases h
   match k,hk with
   |0,hk=>exact absurd (by simp) hk
   |1,hk=>exact absurd (by simp) hk
   |2,hk=>exact absurd (by simp) hk
   |k+3,_=>simp[vwf,cellV]
 . cases h
def isWh:DK->Bool
 | .whole=>true
 | .lenw _=>true
 |_=>false
def swapM (T:TT) (idx p q:Nat) (o:Oper):M AV:=
 match o.op with
 | .store t (.tmp x) (.tmp y)=>do
   let a<-mget x
   let b<-mget y
   let c<-mget p
   let d<-mget q
   match T.at t,a,b,c,d with
   |some {cells:=[_],.. },.dr s n (.cell i),.dr s1 n1 (.row j),.dr s2 n2 (.row i2),.dr s3 n3 kd=>
    if s1=s/\n1=n/\s2=s/\n2=n/\s3=s/\n3=n/\isWh kd=true then do
     let e<-mget s
     match dpAt n e with
     |some (.dp _ ty xs none,loc)=>do
      mask (i2=i/\i≠j)
      mupd s (dpLoc [0,1,2] loc) (atLoc (qk9 i j (fresh idx 15)) loc) (q6c qc7 loc)
      mset p (.sl (.nm (fresh idx 14)) ty (xs.getD i []))
      mset q (.dr s (fresh idx 15) .whole)
      pure .dead
     |_=> .fail
    else .fail
   |_,_,_,_,_=> .fail
 |_=> .fail
def q8f {α:Type}:List (Int×α)->Nat->α->List (Int×α)
 |[],_,_=>[]
 |(k,_)::r,0,y=>(k,y)::r
 |p::r,i+1,y=>p::q8f r i y
def qka (T:TT) (idx ty:Nat) (l c:AV):M AV:=
 match T.at ty,l,c with
 |some {desc:= .mslice _ t,.. },.int .i64 l,.int .i64 c=>do
  mask (0<=l/\l<=c/\c<=1073741824)
  pure (.mm (fresh idx 15) t (List.replicate l.toNat none) false)
 |_,_,_=> .fail
def q6n (T:TT) (idx ty:Nat):M AV:=
 match T.at ty with
 |some {desc:= .map _ t,.. }=>pure (.mm (fresh idx 15) t [some []] true)
 |_=> .fail
def lenMm (T:TT) (ty:Nat) (a:AV):M AV:=
 match T.at ty,a with
 |some {desc:= .mslice _ _,.. },.dr _ _ (.mlen l)=>pure (.int .i64 l)
 |_,_=> .fail
def qlm (T:TT) (ty:Nat) (a i:AV):M AV:=
 match T.at ty,a,i with
 |some {desc:= .mslice _ _,.. },.dr s n (.mlen l),.int _ i=>do
  mask (0<=i/\i<l)
  pure (.dr s n (.mcell i.toNat))
 |_,_,_=> .fail
def qit (T:TT) (j ty:Nat) (p:AV):M AV:=
 match T.at ty,p with
 |some {desc:= .map _ _,cells:=[_]},.dr s n (.mcell i)=>do
  let b<-mview s 1
  let c<-mview s (j+2)
  match b,c with
  |some (.ptr _ _ _ _ _),some (.dr _ m (.mlen _))=>if m=n then pure (.dr s n (.mrow j i))else .fail
  |_,_=> .fail
 |_,_=> .fail
def fillMm (j i m n:Nat) (t:Ty) (y:Option (List (Int×Den t))):AV->Option AV
 | .bx (.nm b) cells=>match cells[j]? with
   |some (.mm n' t' xs false)=>if h:t'=t then(if n'=n then some (.bx (.nm b) (cells.set j (.mm m t' (xs.set i (h▸y)) false)))else none)else none
   |_=>none
 |_=>none
def qcb {s j i m n:Nat} {t:Ty} {y:Option (List (Int×Den t))} (a b:AV) (h:fillMm j i m n t y a=some b): ∀k,k∉[0,j+2]->vwf s k b=vwf s k a:=by
 intro k hk;simp only[zJ,zS,or_false,not_or]at hk;unfold fillMm at h;split at h
 . split at h
   . split at h
     . split at h
       . cases h
         match k,hk with
         |0,hk=>exact absurd rfl hk.1
         |1,_=>rfl
         |k+2,hk=>
          simp only[vwf,cellV]
          grind
       . cases h
     . cases h
   . cases h
 . cases h
def q9d {s j i n:Nat} {t:Ty} {y:Option (List (Int×Den t))} (a b:AV) (h:fillMm j i n n t y a=some b): ∀k,k∉[0]->vwf s k b=vwf s k a:=by
 intro k hk;simp only[zJ,zS,or_false]at hk;unfold fillMm at h;split at h
 . split at h
   . rename_i cells _ n' t' xs hc;split at h
     . split at h
       . rename_i e;subst e;cases h
         match k,hk with
         |0,hk=>exact absurd rfl hk
         |1,_=>rfl
         |k+2,hk=>
          simp only[vwf,cellV];by_cases e:k=j
          . subst e;have hlt:k<cells.length:=by grind
            simp[hlt,Qr]
            grind [Qr]
          . grind
       . cases h
     . cases h
   . cases h
 . cases h
def qdh (T:TT) (idx j ty:Nat) (p v:AV):M Unit:=
 match T.at ty,p,v with
 |some {desc:= .map _ _,cells:=[_]},.dr s n (.mcell i),.mm _ t [some ys] true=>
  mupd s [0,j+2] (fillMm j i (fresh idx 15) n t (some ys)) qcb
 |_,_,_=> .fail
def isMo (n:Nat):AV->Bool
 | .mm m _ [some _] true=>Nat.beq m n
 |_=>false
def q5o (n:Nat):List AV->Nat->Option Nat
 |[],_=>none
 |c::cs,k=>match isMo n c with
  |true=>some k
  |false=>q5o n cs (k+1)
def moAt (n:Nat):AV->Option (Sigma λt:Ty=>List (Int×Den t))
 | .bx (.nm _) cells=>match q5o n cells 0 with
   |some j=>match cells.getD j .dead with
    | .mm m t [some ys] true=>if m=n then some ⟨t,ys⟩else none
    |_=>none
   |none=>none
 |_=>none
def qcs (n:Nat) (t:Ty) (y:List (Int×Den t)):AV->Option AV
 | .bx (.nm b) cells=>match q5o n cells 0 with
   |some j=>match cells[j]? with
    |some (.mm m t' [some _] true)=>if h:t'=t then(if m=n then some (.bx (.nm b) (cells.set j (.mm n t [some y] true)))else none)else none
    |_=>none
   |none=>none
 |_=>none
def qc0 {s n:Nat} {t:Ty} {y:List (Int×Den t)} (a b:AV) (h:qcs n t y a=some b): ∀k,k∉[0]->vwf s k b=vwf s k a:=by
 intro k hk;simp only[zJ,zS,or_false]at hk;unfold qcs at h;split at h
 . split at h
   . rename_i cells _ j _;split at h
     . rename_i m t' ys hc;split at h
       . split at h
         . rename_i e;subst e;cases h
           match k,hk with
           |0,hk=>exact absurd rfl hk
           |1,_=>rfl
           |k+2,hk=>
            simp only[vwf,cellV];by_cases e:k=j
            . subst e;have hlt:k<cells.length:=by grind
              simp[hlt,Qr]
              grind [Qr]
            . grind
         . cases h
       . cases h
     . cases h
   . cases h
 . cases h
def mmAt (n j:Nat):AV->Option (Sigma λt:Ty=>List (Option (List (Int×Den t))))
 | .bx (.nm _) cells=>match cells[j]? with
   |some (.mm m t xs false)=>if m=n then some ⟨t,xs⟩else none
   |_=>none
 |_=>none
def qpy (need b:Bool):M Unit:=match need with
 |true=>mask (b=true)
 |false=>pure ()
def q87 (need:Bool) (x:Operand):M (Sigma λt:Ty=>List (Int×Den t)):=
 match x with
 | .tmp s=>do
   let a<-mget s
   match a with
   | .mm _ t [some ys] true=>pure ⟨t,ys⟩
   | .dr s' n (.mrow j i)=>do
     let b<-mget s'
     match mmAt n j b with
     |some ⟨t,xs⟩=>do
      qpy need (xs.getD i none).isSome
      pure ⟨t,(xs.getD i none).getD []⟩
     |none=> .fail
   | .dr s' n .mown=>do
     let b<-mget s'
     match moAt n b with
     |some e=>pure e
     |none=> .fail
   |_=> .fail
 |_=> .fail
def q52 (x:Operand) (t:Ty) (ys:List (Int×Den t)):M Unit:=
 match x with
 | .tmp s=>do
   let a<-mget s
   match a with
   | .mm n _ [some _] true=>mset s (.mm n t [some ys] true)
   | .dr s' n (.mrow j i)=>mupd s' [0] (fillMm j i n n t (some ys)) q9d
   | .dr s' n .mown=>mupd s' [0] (qcs n t ys) qc0
   |_=> .fail
 |_=> .fail
def mapElem (T:TT) (ty:Nat) (t:Ty):Bool:=match T.at ty with
 |some {desc:= .map _ t',.. }=>decide (t'=t)
 |_=>false
def Z8 (t:Ty) (x:Den t):AV:=match isSlT t with
 |true=>((unpack t x).map immC).getD 0 .dead
 |false=> .agg ((unpack t x).map immC)
def mArg (t:Ty):AV->Option (List AV)
 | .agg cells=>match isSlT t with
   |true=>none
   |false=>some cells
 |v=>match isSlT t with
  |true=>some [v]
  |false=>none
def q4t (T:TT) (ty:Nat) (m k x:Operand):M AV:=do
 let v<-rdF x
 let kv<-rd k
 let e<-q87 true m
 match kv,mArg e.1 v with
 | .int .i64 k,some cells=>
   if mapElem T ty e.1=true/\cells.all plainCell=true then
    match Zt e.1 cells with
    |some (y,[])=>do
     q52 m e.1 (mPut e.2 k y)
     pure .dead
    |_=> .fail
   else .fail
 |_,_=> .fail
def qlg (T:TT) (ty:Nat) (x k:Operand) (ok:Bool):M AV:=do
 let e<-q87 false x
 let kv<-rd k
 match kv with
 | .int .i64 k=>
   if mapElem T ty e.1=true then
    match ok with
    |true=>pure (.tup [Z8 e.1 ((mGet e.2 k).getD e.1.zero),.bool (mGet e.2 k).isSome])
    |false=>pure (Z8 e.1 ((mGet e.2 k).getD e.1.zero))
   else .fail
 |_=> .fail
def qe8 (T:TT) (ty:Nat) (m k:Operand):M AV:=do
 let e<-q87 true m
 let kv<-rd k
 match kv with
 | .int .i64 k=>
   if mapElem T ty e.1=true then do
    q52 m e.1 (mPut e.2 k ((mGet e.2 k).getD e.1.zero))
    pure (.tup [Z8 e.1 ((mGet e.2 k).getD e.1.zero),.int .i64 (mAt e.2 k:Nat)])
   else .fail
 |_=> .fail
def q3h (T:TT) (ty:Nat) (m z x:Operand):M AV:=do
 let v<-rdF x
 let zv<-rd z
 let e<-q87 true m
 match zv,mArg e.1 v with
 | .int .i64 z,some cells=>
   if mapElem T ty e.1=true/\cells.all plainCell=true then
    match Zt e.1 cells with
    |some (y,[])=>do
     mask (0<=z/\z<e.2.length)
     q52 m e.1 (q8f e.2 z.toNat y)
     pure .dead
    |_=> .fail
   else .fail
 |_,_=> .fail
def opqAV (T:TT) (idx ty:Nat) (v:AV):M AV:=
 match T.at ty,v with
 |some {desc:= .slice _ .opq,.. },.mm _ _ [some _] true=>pure (.sl (.nm (fresh idx 15)) .opq [()])
 |_,_=> .fail
def opMm (T:TT) (idx j:Nat) (o:Oper):M AV:=
 match o.op with
 | .buildSlice t n ps=>match n,ps.toList with
   |1,[(0,x)]=>do let v<-rdT x;opqAV T idx t v
   |_,_=> .fail
 | .makeSlice t l c=>do let a<-rd l;let b<-rd c;qka T idx t a b
 | .makeMap t none=>q6n T idx t
 | .call c=>match c.callee,c.args.toList,c.argTypes[0]? with
   | .builtin .len,[x],some t=>do let a<-rd x;lenMm T t a
   |_,_,_=> .fail
 | .indexAddr t x i=>do let a<-rd x;let b<-rd i;qlm T t a b
 | .load t p=>do let a<-rd p;qit T j t a
 | .store t p x=>do
   let v<-rdT x
   let a<-rd p
   qdh T idx j t a v
   pure .dead
 | .mapUpdate t m k x=>q4t T t m k x
 | .insert t m k x=>q4t T t m k x
 | .lookup t x k ok=>qlg T t x k ok
 | .mapEntry t m k=>qe8 T t m k
 | .entryStore t m z x=>q3h T t m z x
 |_=> .fail
abbrev Log:=List Nat×List Nat
def keysR:Nat->Nat->List Nat->List Nat
 |_,0,r=>r
 |b,n+1,r=>b::keysR (b+1) n r
def keysS (s:Nat) (r:List Nat):List Nat:=keysR (32*s) 17 r
def keysV (s:Nat):List Nat->List Nat->List Nat
 |[],r=>r
 |j::js,r=>(32*s+j)::keysV s js r
def runK {R α:Type} (C:Nat->List AV->(AV->List AV->Option R)->Option R):M α->Slots->Log->(α->Slots->Log->Option R)->Option R
 | .ret a,U,L,K=>K a U L
 | .fail,_,_,_=>none
 | .get s k,U,L,K=>runK C (k (U.get s)) U ((32*s)::L.1,L.2) K
 | .view s j k,U,L,K=>runK C (k (vwf s j (U.get s))) U ((32*s+j)::L.1,L.2) K
 | .set s v k,U,L,K=>runK C k (U.set s v) (keysS s L.1,keysS s L.2) K
 | .upd s W f _ k,U,L,K=>match f (U.get s)with
   |some v=>runK C k (U.set s v) ((32*s)::keysV s W L.1,keysV s W L.2) K
   |none=>none
 | .ask p d k,U,L,K=> @ite _ p d (runK C k U L K) none
 | .know s k,U,L,K=>match U.get s with
   | .bool b=>cond b (runK C (k true) (U.set s (.bool true)) ((32*s)::L.1,L.2) K) (runK C (k false) (U.set s (.bool false)) ((32*s)::L.1,L.2) K)
   |_=>none
 | .call f as k,U,L,K=>C f as λr os=>runK C (k r os) U L K
structure Hint where
 mode:List (Nat×Nat)
 keep:List Nat
structure Hints where
 regs:List Hint
 heads:List (Nat×List Nat)
 exits:List (Nat×List Nat)
 rets:List Nat
 pins:List Nat
 spec:List (List Bool)
def lookD (l:List (Nat×Nat)) (i:Nat):Nat:=match l with
 |[]=>0
 |(j,m)::r=>if j=i then m else lookD r i
def lookK (l:List (Nat×List Nat)) (i:Nat):Option (List Nat):=match l with
 |[]=>none
 |(j,m)::r=>if j=i then some m else lookK r i
def opG (T:TT) (idx mode:Nat) (o:Oper):M AV:=
 match Nat.ble 1000 mode with
 |true=>match Nat.ble 600000 mode with
  |true=>opMm T idx (mode-600000) o
  |false=>
  match Nat.ble 3000 mode with
  |true=>do
   let a<-mget (mode-3000)
   match a with
   | .bx (.nm m) _=>do
     frzBx (.ptr (mode-3000) m 0 0 0)
     opAV T idx 0 o
   |_=> .fail
  |false=>do
   let _<-rdF (.tmp (mode-1000))
   opAV T idx 0 o
 |false=>opAV T idx mode o
def q5p (N:Nat) (pins:List Nat) (dst:Option Tmp) (v:AV):M Unit:=
 match dst with
 |none=>pure ()
 |some d=>if d<N/\ ¬d∈pins then mset d v else .fail
def guardOf (ops:Array Oper) (j:Nat):Option Tmp:=(ops[j]?).bind (·.dst)
def qfc:AV->Bool
 | .tup []=>true
 |_=>false
def fullM (T:TT) (N:Nat) (pins:List Nat) (ops:Array Oper) (idx mode:Nat) (o:Oper):M Unit:=
 match o.guard with
 |none=>do let v<-opG T idx mode o;q5p N pins o.dst v
 |some (j,want)=>
  match guardOf ops j with
  |none=> .fail
  |some g=>do
   let a<-mget g
   match qfc a with
   |true=>q5p N pins o.dst (.tup [])
   |false=>do
    let b<-mknow g
    if b==want then do let v<-opG T idx mode o;q5p N pins o.dst v
    else q5p N pins o.dst (.tup [])
def opsK {R:Type} (C:Nat->List AV->(AV->List AV->Option R)->Option R) (T:TT) (N:Nat) (pins:List Nat) (ops:Array Oper) (md:List (Nat×Nat)):
    List Oper->Nat->Slots->List Log->(Slots->List Log->Option R)->Option R
 |[],_,U,Ls,K=>K U Ls
 |o::r,i,U,Ls,K=>runK C (fullM T N pins ops i (lookD md i) o) U ([],[]) λ_ U' L=>opsK C T N pins ops md r (i+1) U' (Ls++[L]) K
def preds (o:Oper) (i:Nat):List Nat:=(o.after.toList.filter λe=>Region.binds .any e&&decide (e.on<i)).map (·.on)
def ancs:List Oper->Nat->List (List Nat)->List (List Nat)
 |[],_,acc=>acc
 |o::r,i,acc=>ancs r (i+1) (acc++[(preds o i).flatMap λj=>j::acc.getD j []])
def disj (a b:List Nat):Bool:=a.all λx=> !b.contains x
def qkt (anc:List (List Nat)) (Ls:List Log) (i j:Nat):Bool:=
 (anc.getD j []).contains i||(disj (Ls.getD i ([],[])).1 (Ls.getD j ([],[])).2&&disj (Ls.getD j ([],[])).1 (Ls.getD i ([],[])).2)
def q5e:List Oper->Nat->Bool
 |[],_=>true
 |o::r,i=>(o.after.toList.all λe=> !Region.binds .any e||decide (e.on<i))&&q5e r (i+1)
def qde (ops:List Oper) (Ls:List Log):Bool:=
 q5e ops 0&&(let anc:=ancs ops 0 []
 (List.range ops.length).all λj=>(List.range j).all λi=>qkt anc Ls i j)
def mskL:List Nat->Nat
 |[]=>0
 |s::r=>Nat.lor (Nat.pow 2 s) (mskL r)
def predM:List Nat->List Nat->Nat
 |[],_=>0
 |k::ks,acc=>Nat.lor (Nat.lor (Nat.pow 2 k) (acc.getD k 0)) (predM ks acc)
def ancM:List Oper->Nat->List Nat->List Nat
 |[],_,acc=>acc
 |o::r,i,acc=>ancM r (i+1) (acc++[predM (preds o i) acc])
def qfv (A R W:Nat):List (Nat×Nat)->Nat->Bool
 |[],_=>true
 |_::_,0=>true
 |p::r,k+1=>(Nat.beq (Nat.land (Nat.shiftRight A k) 1) 1||(Nat.beq (Nat.land p.1 W) 0&&Nat.beq (Nat.land R p.2) 0))&&qfv A R W r k
def logsM:List Log->List Nat->List (Nat×Nat)->Nat->Bool
 |[],_,_,_=>true
 |_::_,[],_,_=>false
 |L::Ls,A::As,done,j=>qfv A (mskL L.1) (mskL L.2) done j&&logsM Ls As ((mskL L.1,mskL L.2)::done) (j+1)
def qdk (ops:List Oper) (Ls:List Log):Bool:=q5e ops 0&&logsM Ls (ancM ops 0 []) [] 0
def finC (ns:List Nat):AV->AV
 | .dp n t xs h=> .dp (idxIn ns n) t xs h
 | .fd n t xs h=> .fd (idxIn ns n) t xs h
 | .mm n t xs o=> .mm (idxIn ns n) t xs o
 | .sl (.nm n) t xs=> .sl (.nm (idxIn ns n)) t xs
 | .wn n t xs=> .wn (idxIn ns n) t xs
 | .dq n t xs h=> .dq (idxIn ns n) t xs h
 | .ref s n sz w=>if ns.contains n then .ref s (idxIn ns n) sz w else .dead
 | .ptr s n sz i j=>if ns.contains n then .ptr s (idxIn ns n) sz i j else .dead
 | .dr s n k=>if ns.contains n then .dr s (idxIn ns n) k.strip else .dead
 |v=>v
def finA (ns:List Nat):AV->AV
 | .bx (.nm n) cells=> .bx (.nm (idxIn ns n)) (cells.map (finC ns))
 | .bx o cells=> .bx o (cells.map (finC ns))
 | .agg cells=> .agg (cells.map (finC ns))
 |v=>finC ns v
def fin (ns:List Nat):AV->AV
 | .tup vs=> .tup (vs.map (finA ns))
 |v=>finA ns v
def pickS (keep:List Nat) (U:Slots):Slots:=keep.map λs=>(s,U.get s)
def q8r (U:Slots):List Nat:=U.flatMap λx=>names x.2
def normal (keep:List Nat) (U:Slots):Option Slots:=
 let U1:=pickS keep U
 let ns:=q8r U1
 if ns.length<=98 then some (U1.map λx=>(x.1,fin ns x.2))else none
def Slots.drop1 (U:Slots) (t:Nat):Slots:=U.filter λx=> !(x.1==t)
inductive Ex where
 |normal
 |exit (id:Nat)
 |ret
 deriving DecidableEq
def rid:Code->Nat
 | .region id _ _=>id
 | .seq a _=>rid a
 |_=>100000
def jkey (c:Code):Nat:=1000+rid c
def evK {R:Type} (C:Nat->List AV->(AV->List AV->Option R)->Option R) (Lp:Nat->Slots->(Ex->Slots->Option R)->Option R)
    (T:TT) (N:Nat) (H:Hints):Code->Nat->Slots->(Ex->Slots->Option R)->Option R
 | .skip,_,U,K=>K .normal U
 | .region id ops draw,_,U,K=>
   match H.regs[id]? with
   |none=>none
   |some h=>opsK C T N H.pins ops h.mode ops.toList 0 U [] λU' Ls=>
    if draw&& !qdk ops.toList Ls then none else
    match normal h.keep U' with
    |some U''=>K .normal U''
    |none=>none
 | .seq a b,blk,U,K=>evK C Lp T N H a blk U λe U'=>match e with
   | .normal=>match lookK H.heads (jkey b)with
     |none=>evK C Lp T N H b blk U' K
     |some keep=>match normal keep U' with
      |some U''=>Lp (jkey b) U'' K
      |none=>none
   | .exit i=>K (.exit i) U'
   | .ret=>K .ret U'
 | .cond (.tmp t) x y,blk,U,K=>match U.get t with
   | .bool b=>cond b (evK C Lp T N H x blk (U.drop1 t) K) (evK C Lp T N H y blk (U.drop1 t) K)
   |_=>none
 | .cond (.const (.bool b)) x y,blk,U,K=>cond b (evK C Lp T N H x blk U K) (evK C Lp T N H y blk U K)
 | .scope c,blk,U,K=>evK C Lp T N H c blk U K
 | .label _,_,U,K=>K .normal U
 | .block id c,_,U,K=>evK C Lp T N H c id U λe U'=>match e with
   | .normal=>K .normal U'
   | .exit i=>if i=id then K .normal U' else K (.exit i) U'
   | .ret=>K .ret U'
 | .loop _,blk,U,K=>match lookK H.heads blk with
   |some keep=>match normal keep U with
    |some U'=>Lp blk U' K
    |none=>none
   |none=>none
 | .exit id,_,U,K=>match lookK H.exits id with
   |some keep=>match normal keep U with
    |some U'=>K (.exit id) U'
    |none=>none
   |none=>none
 | .ret,_,U,K=>match normal H.rets U with
   |some U'=>K .ret U'
   |none=>none
 |_,_,_,_=>none
def q86 {R:Type} (C:Nat->List AV->(AV->List AV->Option R)->Option R) (Lp:Nat->Slots->(Ex->Slots->Option R)->Option R)
    (T:TT) (N:Nat) (H:Hints) (body:Code) (blk:Nat) (U:Slots) (K:Ex->Slots->Option R):Option R:=
 evK C Lp T N H body blk U λe U'=>match e with
  | .normal=>match lookK H.heads blk with
    |some keep=>match normal keep U' with
     |some U''=>K .normal U''
     |none=>none
    |none=>none
  | .exit i=>K (.exit i) U'
  | .ret=>K .ret U'
def q9e (n:Nat) (own:Bool):AV->Option AV
 | .sl .nl t xs=>some (if own then .sl (.nm n) t xs else .sl .imm t xs)
 | .sl (.nm m) t xs=>some (if own then .sl (.nm m) t xs else .sl .imm t xs)
 | .sl .imm t xs=>if own then none else some (.sl .imm t xs)
 | .bool b=>some (.bool b)
 | .int k x=>some (.int k x)
 | .lit v=>some (.lit v)
 | .dp m t xs none=>if own then some (.dp m t xs none)else some (.sl .imm (.sl false t) xs)
 | .dq _ t xs none=>if own then none else some (.sl .imm t xs)
 | .mm m t xs o=>if own then some (.mm m t xs o)else none
 | .iptr g t xs i j=>some (.iptr g t xs i j)
 |_=>none
def q68 (n:Nat):List Bool->List AV->Option (List AV)
 |o::os,c::cs=>match q9e n o c,q68 (n+1) os cs with
  |some c',some cs'=>some (c'::cs')
  |_,_=>none
 |[],[]=>some []
 |_,_=>none
def q1t (n:Nat) (sp:List Bool):AV->Option AV
 | .agg cells=>(q68 n sp cells).map .agg
 | .bx (.nm m) cells=>(q68 n sp cells).map (.bx (.nm m))
 | .lit v=>some (.lit v)
 |v=>match sp with
  |[o]=>q9e n o v
  |_=>none
def resAV (T:TT) (U:Slots) (n:Nat) (sp:List Bool):ResultVar->Option AV
 | .tmp t=>q1t n sp (U.get t)
 | .cell t ty=>match T.at ty,U.get t with
   |some ti,.bx (.nm _) cells=>if cells.length=ti.cells.length then
     (match asOne (Q5 ti.desc) cells with
      |some v=>q1t n sp v
      |none=>none)else none
   |_,_=>none
def resL (T:TT) (U:Slots):Nat->List (List Bool)->List ResultVar->Option (List AV)
 |n,sp::sps,r::rs=>match resAV T U n sp r,resL T U (n+16) sps rs with
  |some v,some vs=>some (v::vs)
  |_,_=>none
 |_,[],[]=>some []
 |_,_,_=>none
def frozC (own:Bool):AV->List Nat
 | .dp m _ _ _=>if own then []else [m]
 | .dq m _ _ _=>if own then []else [m]
 | .mm m _ _ _=>if own then []else [m]
 | .sl (.nm m) _ _=>if own then []else [m]
 |_=>[]
def frozL:List Bool->List AV->List Nat
 |o::os,c::cs=>frozC o c++frozL os cs
 |_,_=>[]
def frozA (sp:List Bool):AV->List Nat
 | .agg cells=>frozL sp cells
 | .bx _ cells=>frozL sp cells
 |v=>frozL sp [v]
def frozR (T:TT) (U:Slots) (sp:List Bool):ResultVar->List Nat
 | .tmp t=>frozA sp (U.get t)
 | .cell t ty=>match T.at ty,U.get t with
   |some ti,.bx _ cells=>(match asOne (Q5 ti.desc) cells with
    |some v=>frozA sp v
    |none=>[])
   |_,_=>[]
def qbl (T:TT) (U:Slots):List (List Bool)->List ResultVar->List Nat
 |sp::sps,r::rs=>frozR T U sp r++qbl T U sps rs
 |_,_=>[]
def oneOf:List AV->AV
 |[v]=>v
 |vs=> .tup vs
def qc9:AV->Bool
 | .bx _ _=>true
 | .sl (.nm _) _ _=>true
 | .wn _ _ _=>true
 | .dp _ _ _ _=>true
 | .dq _ _ _ _=>true
 |_=>false
def Yq (U:Slots):Nat->List AV->List AV
 |_,[]=>[]
 |i,a::as=>(match qc9 a with
  |true=>U.get i
  |false=> .dead)::Yq U (i+1) as
def Zv:Nat->List AV->Slots
 |_,[]=>[]
 |i,a::as=>(i,a)::Zv (i+1) as
def pinned (pins:List Nat):Nat->List AV->Bool
 |_,[]=>true
 |i,a::as=>(match qc9 a with
  |true=>pins.contains i
  |false=>true)&&pinned pins (i+1) as
def ndup:List Nat->Bool
 |[]=>true
 |x::r=> !r.contains x&&ndup r
def q3i {R:Type} (T:TT) (H:Hints) (fn:Func) (args:List AV) (Kf:AV->List AV->Option R) (U:Slots):Option R:=
 match resL T U 200 H.spec fn.results.toList with
 |none=>none
 |some rs=>
  let outs:=Yq U 0 args
  let ns:=rs.flatMap names++outs.flatMap names
  if ns.length<=16/\ndup ns=true/\ns.contains 99=false/\disj (qbl T U H.spec fn.results.toList) ns=true/\rs.all noRef=true/\outs.all okOut=true then Kf (ren (idxIn ns) (oneOf rs)) (outs.map (ren (idxIn ns)))else none
def fnK {R:Type} (C:Nat->List AV->(AV->List AV->Option R)->Option R) (Lp:Nat->Slots->(Ex->Slots->Option R)->Option R)
    (T:TT) (H:Hints) (fn:Func) (args:List AV) (Kf:AV->List AV->Option R):Option R:=
 match fn.body with
 |none=>none
 |some c=>
  if args.length<=fn.ntmps/\pinned H.pins 0 args then
   evK C Lp T fn.ntmps H c 0 (Zv 0 args) λe U=>match e with
    | .normal=>q3i T H fn args Kf U
    | .ret=>q3i T H fn args Kf U
    | .exit _=>none
  else none
abbrev Beta:=Nat->Value
abbrev Who:=Nat->Option Nat
def cellAt (w:World) (b o:Nat) (j:Nat):Option Value:=w.cell? ⟨b,o+j,none⟩
def RelI (who:Who) (w:World):(t:Ty)->Den t->(Nat->Option Value)->Nat->Prop
 | .int k,x,g,j=>g j=some (.int k x)
 | .bool,x,g,j=>g j=some (.bool x)
 | .pr a b,x,g,j=>RelI who w a x.1 g j/\RelI who w b x.2 g (j+a.size)
 | .opq,_,g,j=> ∃v,g j=some v/\v.oneCell'=true
 | .sl _ t,xs,g,j=> ∃v,g j=some v/\
   ((v= .slice none 0 0/\xs=[])\/
    ∃b o cap,v= .slice (some ⟨b,o,none⟩) xs.length cap/\who b=none/\b<w.heap.size/\xs.length<=cap/\
     ∀i (h:i<xs.length),RelI who w t xs[i] (cellAt w b (o+i*t.size)) 0)
def Elems (who:Who) (w:World) (t:Ty) (xs:List (Den t)) (b o:Nat):Prop:=
 ∀i (h:i<xs.length),RelI who w t xs[i] (cellAt w b (o+i*t.size)) 0
def SlI (who:Who) (w:World) (t:Ty) (xs:List (Den t)) (v:Value):Prop:=
 (v= .slice none 0 0/\xs=[])\/
 ∃b o cap,v= .slice (some ⟨b,o,none⟩) xs.length cap/\who b=none/\b<w.heap.size/\xs.length<=cap/\Elems who w t xs b o
def RelN (β:Beta) (who:Who) (w:World) (n:Nat) (t:Ty) (xs:List (Den t)) (v:Value):Prop:=
 v=β n/\((v= .slice none 0 0/\xs=[])\/
 ∃b o cap arr el,v= .slice (some ⟨b,o,none⟩) xs.length cap/\w.heap[b]? =some (.cells arr el (0,0))/\o+cap*t.size<=arr.size/\
  xs.length<=cap/\who b=some n/\Elems who w t xs b o)
def q03 (base:Value) (sz:Nat) (win:Option (Nat×Nat)) (v:Value):Prop:=
 match win with
 |none=>v=base/\ ∃a L cap,base= .slice a L cap
 |some (off,len)=> ∃a L cap a',base= .slice a L cap/\off+len<=L/\v= .slice a' len (cap-off)/\
  (off<cap->a'=a.map (λx=>x.add (off*sz)))/\a'.map (λx=>(x.block,x.spot))=a.map (λx=>(x.block,x.spot))/\
  (∀b o,a=some ⟨b,o,none⟩-> ∃o',a'=some ⟨b,o',none⟩/\o'<=o+cap*sz)
def qbw (base:Value) (sz i j:Nat) (v:Value):Prop:=
 (∃b o L cap,base= .slice (some ⟨b,o,none⟩) L cap/\i<L/\v= .pointer (some ⟨b,o+i*sz+j,none⟩))\/
 (∃b,base= .pointer (some ⟨b,0,none⟩)/\i=0/\v= .pointer (some ⟨b,j,none⟩))
def dpv (v:Value) (j:Nat):Value:=match v with
 | .tuple arr=>arr.getD j undef
 |v=>v
def InnO (who:Who) (w:World) (n:Nat) (t:Ty) (ys:List (Den t)) (v:Value) (b:Nat):Prop:=
 (v= .slice none 0 0/\ys=[])\/
 ∃bi oi ci arr el,v= .slice (some ⟨bi,oi,none⟩) ys.length ci/\w.heap[bi]? =some (.cells arr el (0,0))/\oi+ci*t.size<=arr.size/\ys.length<=ci/\who bi=some n/\bi≠b/\Elems who w t ys bi oi
def RelDp (β:Beta) (who:Who) (w:World) (n:Nat) (t:Ty) (xs:List (List (Den t))) (h:Option Nat) (v:Value):Prop:=
 v=dpv (β n) 0/\((v= .slice none 0 0/\xs=[])\/ ∃b o cap arr el,v= .slice (some ⟨b,o,none⟩) xs.length cap/\w.heap[b]? =some (.cells arr el (0,0))/\o+cap<=arr.size/\xs.length<=cap/\who b=some n/\
  (∀i (hi:i<xs.length),h≠some i->cellAt w b o i=some (dpv (β n) (i+1))/\InnO who w n t xs[i] (dpv (β n) (i+1)) b)/\
  ∀i j ai aj li lj ci cj,i<xs.length->j<xs.length->h≠some i->h≠some j->dpv (β n) (i+1)= .slice (some ai) li ci->dpv (β n) (j+1)= .slice (some aj) lj cj->ai.block=aj.block->i=j)
def RelDp.pos {β:Beta} {who:Who} {w:World} {n:Nat} {t:Ty} {xs:List (List (Den t))} {h:Option Nat} {v:Value} (hr:RelDp β who w n t xs h v) (hx:v≠ .slice none 0 0\/xs≠[]):
 v=dpv (β n) 0/\ ∃b o cap arr el,v= .slice (some ⟨b,o,none⟩) xs.length cap/\w.heap[b]? =some (.cells arr el (0,0))/\o+cap<=arr.size/\xs.length<=cap/\who b=some n/\
 (∀i (hi:i<xs.length),h≠some i->cellAt w b o i=some (dpv (β n) (i+1))/\InnO who w n t xs[i] (dpv (β n) (i+1)) b)/\
 ∀i j ai aj li lj ci cj,i<xs.length->j<xs.length->h≠some i->h≠some j->dpv (β n) (i+1)= .slice (some ai) li ci->dpv (β n) (j+1)= .slice (some aj) lj cj->ai.block=aj.block->i=j:=by
 refine⟨hr.1,?_⟩;rcases hr.2 with⟨h1,h2⟩|h1
 . grind
 . exact h1
def Ql {α:Type} {xs:List α} {i:Nat} (h:i<xs.length):xs≠[]:=by rintro rfl;simp at h
def DrVal (base:Value):DK->Value->Prop
 | .whole,v=>v=dpv base 0/\ ∃a L cap,dpv base 0= .slice a L cap
 | .lenw l,v=>v=dpv base 0/\((v= .slice none 0 0/\l=0)\/ ∃b o cap,v= .slice (some ⟨b,o,none⟩) l cap)
 | .cell i,v=> ∃b o L cap,dpv base 0= .slice (some ⟨b,o,none⟩) L cap/\i<L/\v= .pointer (some ⟨b,o+i,none⟩)
 | .mlen l,v=>v=dpv base 0/\ ∃b o cap,v= .slice (some ⟨b,o,none⟩) l cap
 | .mcell i,v=> ∃b o L cap,dpv base 0= .slice (some ⟨b,o,none⟩) L cap/\i<L/\v= .pointer (some ⟨b,o+i,none⟩)
 | .mown,v=>v=base/\ ∃b,v= .map b
 | .mrow _ i,v=>v=dpv base (i+1)/\(∃b,v= .map b)/\ ∃a L cap,dpv base 0= .slice a L cap/\i<L
 | .row i,v=>v=dpv base (i+1)/\(∃a L cap,dpv base (i+1)= .slice a L cap)/\ ∃a L cap,dpv base 0= .slice a L cap/\i<L
 | .elem sz i j k,v=> ∃b o L cap,dpv base (i+1)= .slice (some ⟨b,o,none⟩) L cap/\j<L/\v= .pointer (some ⟨b,o+j*sz+k,none⟩)/\ ∃a L cap,dpv base 0= .slice a L cap/\i<L
def RelQ (who:Who) (w:World) (n b:Nat) (h:Option Nat):(t:Ty)->Den t->(Nat->Option Value)->Nat->Prop
 | .int k,x,g,p=>g p=some (.int k x)
 | .bool,x,g,p=>g p=some (.bool x)
 | .pr s t,x,g,p=>RelQ who w n b h s x.1 g p/\RelQ who w n b h t x.2 g (p+s.size)
 | .sl _ t,xs,g,p=>h=some p\/ ∃v,g p=some v/\InnO who w n t xs v b
 | .opq,_,_,_=>False
def RelDq (β:Beta) (who:Who) (w:World) (n:Nat) (t:Ty) (xs:List (Den t)) (h:Option Nat) (v:Value):Prop:=
 v=β n/\((v= .slice none 0 0/\xs=[])\/ ∃b o cap arr el,v= .slice (some ⟨b,o,none⟩) xs.length cap/\w.heap[b]? =some (.cells arr el (0,0))/\o+cap*t.size<=arr.size/\xs.length<=cap/\who b=some n/\
  (∀i (hi:i<xs.length),RelQ who w n b h t xs[i] (cellAt w b o) (i*t.size))/\
  ∀p q a a' l l' c c',p<xs.length*t.size->q<xs.length*t.size->h≠some p->h≠some q->cellAt w b o p=some (.slice (some a) l c)->cellAt w b o q=some (.slice (some a') l' c')->a.block=a'.block->p=q)
def wrapP:Option Nat->Value->Value
 |none,v=>v
 |some f,v=> .func (.func f) #[] #[v]
@[simp] def wrapP_none (v:Value):wrapP none v=v:=rfl
def RelW (base:Value) (w:World) (sz:Nat) (v:Value):Prop:= ∃arr0,base= .agg arr0/\ ∀b o L cap arr el,v= .slice (some ⟨b,o,none⟩) L cap->w.heap[b]? =some (.cells arr el (0,0))->
 arr.size=arr0.size/\ ∀j,(j<o\/o+L*sz<=j)->arr[j]? =arr0[j]?
def mval (t:Ty) (arr:Array Value):Value:=match isSlT t with
 |true=>arr.getD 0 undef
 |false=> .agg arr
def Ents (who:Who) (w:World) (t:Ty) (ys:List (Int×Den t)) (es:List MapEntry):Prop:=
 es.length=ys.length/\ ∀i (h:i<ys.length),∃arr,es[i]? =some ⟨.int .i64 ys[i].1,mval t arr,i⟩/\arr.size=t.size/\RelI who w t ys[i].2 (λj=>arr[j]?) 0
def MapV (who:Who) (w:World) (n:Nat) (t:Ty) (ys:List (Int×Den t)) (v:Value) (B:Nat->Prop):Prop:=
 ∃b es,v= .map (some b)/\w.heap[b]? =some (.map es ys.length)/\who b=some n/\B b/\Ents who w t ys es.toList
def InnM (who:Who) (w:World) (n:Nat) (t:Ty) (ys:Option (List (Int×Den t))) (v:Value) (b:Nat):Prop:=
 match ys with
 |none=>v= .map none
 |some ys=>MapV who w n t ys v (· ≠b)
def RelMm (β:Beta) (who:Who) (w:World) (n:Nat) (t:Ty) (xs:List (Option (List (Int×Den t)))):Bool->Value->Prop
 |false,v=>v=dpv (β n) 0/\ ∃b o cap arr el,v= .slice (some ⟨b,o,none⟩) xs.length cap/\w.heap[b]? =some (.cells arr el (0,0))/\o+cap<=arr.size/\xs.length<=cap/\who b=some n/\
  (∀i (hi:i<xs.length),cellAt w b o i=some (dpv (β n) (i+1))/\InnM who w n t xs[i] (dpv (β n) (i+1)) b)/\
  ∀i j bi,i<xs.length->j<xs.length->dpv (β n) (i+1)= .map (some bi)->dpv (β n) (j+1)= .map (some bi)->i=j
 |true,v=> ∃ys,xs=[some ys]/\v=β n/\MapV who w n t ys v (λ_=>True)
def RelC (β:Beta) (who:Who) (w:World):AV->Value->Prop
 | .dead,_=>True
 | .bool b,v=>v= .bool b
 | .int k x,v=>v= .int k x
 | .lit u,v=>v=u/\u.oneCell'=true
 | .sl .imm t xs,v=>SlI who w t xs v
 | .sl .nl _ xs,v=>v= .slice none 0 0/\xs=[]
 | .sl (.nm n) t xs,v=>RelN β who w n t xs v
 | .sl .inn _ _,_=>False
 | .ref _ n sz win,v=>q03 (β n) sz win v
 | .ptr _ n sz i j,v=>qbw (β n) sz i j v
 | .dp n t xs h,v=>RelDp β who w n t xs h v
 | .dr _ n k,v=>DrVal (β n) k v
 | .wn n t xs,v=>RelN β who w n t xs v/\RelW (β 98) w t.size v
 | .dq n t xs h,v=>RelDq β who w n t xs h v
 | .fd n t xs h,v=>RelDp β who w n t xs h v/\v=β 98
 | .mm n t xs o,v=>RelMm β who w n t xs o v
 | .iptr g t xs i j,v=> ∃b o,v=wrapP g (.pointer (some ⟨b,o+i*t.size+j,none⟩))/\i<xs.length/\who b=none/\b<w.heap.size/\Elems who w t xs b o
 |_,_=>False
def CellsRel (β:Beta) (who:Who) (w:World) (cells:List AV) (arr:Array Value):Prop:=
 arr.size=cells.length/\ ∀j (h:j<cells.length),RelC β who w cells[j] (arr.getD j undef)
def RelA (β:Beta) (who:Who) (w:World):AV->Value->Prop
 | .bx (.nm n) cells,v=>v=β n/\ ∃b arr el,v= .pointer (some ⟨b,0,none⟩)/\w.heap[b]? =some (.cells arr el (0,0))/\who b=some n/\
    CellsRel β who w cells arr
 | .agg cells,v=> ∃arr,v= .agg arr/\CellsRel β who w cells arr
 |av,v=>RelC β who w av v
def Rel (β:Beta) (who:Who) (w:World):AV->Value->Prop
 | .tup vs,v=> ∃arr:Array Value,v= .tuple arr/\arr.size=vs.length/\ ∀j (h:j<vs.length),RelA β who w vs[j] (arr.getD j undef)
 |av,v=>RelA β who w av v
def occC:AV->List Nat
 | .sl (.nm n) _ _=>[n]
 | .dp n _ _ _=>[n]
 | .wn n _ _=>[n,98]
 | .dq n _ _ _=>[n]
 | .fd n _ _ _=>[n,98]
 | .mm n _ _ _=>[n]
 | .dr _ n _=>[n]
 | .ref _ n _ _=>[n]
 | .ptr _ n _ _ _=>[n]
 |_=>[]
def occA:AV->List Nat
 | .bx (.nm n) cells=>n::cells.flatMap occC
 | .bx _ cells=>cells.flatMap occC
 | .agg cells=>cells.flatMap occC
 |v=>occC v
def occ:AV->List Nat
 | .tup vs=>vs.flatMap occA
 |v=>occA v
structure Keeps (β:Beta) (who:Who) (w:World) (β':Beta) (who':Who) (w':World) (ns os:List Nat):Prop where
 beta: ∀n∈os,β' n=β n
 own: ∀n∈ns,∀b,who b=some n->who' b=some n/\w'.heap[b]? =w.heap[b]?
 imm: ∀b,who b=none->b<w.heap.size->who' b=none/\w'.heap[b]? =w.heap[b]?
 size:w.heap.size<=w'.heap.size
def Yn {w w':World} {b o j:Nat} (h:w'.heap[b]? =w.heap[b]?):cellAt w' b o j=cellAt w b o j:=by
 unfold cellAt World.cell?;rw[h]
def RelI.ext {who:Who} {w:World}: ∀{t:Ty} {x:Den t} {g g':Nat->Option Value} {j:Nat},
 (∀j,g' j=g j)->RelI who w t x g j->RelI who w t x g' j
 | .int _,_,_,_,_,hg,h=>by simp only[RelI]at*;rw[hg];exact h
 | .bool,_,_,_,_,hg,h=>by simp only[RelI]at*;rw[hg];exact h
 | .pr _ _,_,_,_,_,hg,h=>⟨RelI.ext hg h.1,RelI.ext hg h.2⟩
 | .opq,_,_,_,_,hg,⟨v,h,h'⟩=>⟨v,by rw[hg];exact h,h'⟩
 | .sl _ _,_,_,_,_,hg,h=>by
   obtain⟨v,h1,h2⟩:=h;exact⟨v,by rw[hg];exact h1,h2⟩
def RelI.keep {who who':Who} {w w':World} (himm: ∀b,who b=none->b<w.heap.size->who' b=none/\w'.heap[b]? =w.heap[b]?)
 (hsz:w.heap.size<=w'.heap.size): ∀{t:Ty} {x:Den t} {g:Nat->Option Value} {j:Nat},RelI who w t x g j->RelI who' w' t x g j
 | .int _,_,_,_,h=>h
 | .bool,_,_,_,h=>h
 | .pr _ _,_,_,_,h=>⟨RelI.keep himm hsz h.1,RelI.keep himm hsz h.2⟩
 | .opq,_,_,_,h=>h
 | .sl _ t,xs,g,j,h=>by
   obtain⟨v,h1,h2⟩:=h;refine⟨v,h1,?_⟩;rcases h2 with h2|⟨b,o,cap,e1,e2,e3,e4,e5⟩
   . exact .inl h2
   . exact .inr ⟨b,o,cap,e1,(himm b e2 e3).1,O,e4,λi hi=>
      RelI.ext (λj=>Yn (himm b e2 e3).2) (RelI.keep himm hsz (e5 i hi))⟩
def Elems.keep {who who':Who} {w w':World} {t:Ty} {xs:List (Den t)} {b o:Nat}
 (himm: ∀b,who b=none->b<w.heap.size->who' b=none/\w'.heap[b]? =w.heap[b]?) (hsz:w.heap.size<=w'.heap.size)
 (hb:w'.heap[b]? =w.heap[b]?) (h:Elems who w t xs b o):Elems who' w' t xs b o:=
 λi hi=>RelI.ext (λ_=>Yn hb) (RelI.keep himm hsz (h i hi))
def SlI.keep {who who':Who} {w w':World} {t:Ty} {xs:List (Den t)} {v:Value}
 (himm: ∀b,who b=none->b<w.heap.size->who' b=none/\w'.heap[b]? =w.heap[b]?) (hsz:w.heap.size<=w'.heap.size)
 (h:SlI who w t xs v):SlI who' w' t xs v:=by
 rcases h with h|⟨b,o,cap,e1,e2,e3,e4,e5⟩
 . exact .inl h
 . exact .inr ⟨b,o,cap,e1,(himm b e2 e3).1,O,e4,Elems.keep himm hsz (himm b e2 e3).2 e5⟩
def RelDp.map {β β':Beta} {who who':Who} {w w':World} {n n':Nat} {t:Ty} {xs:List (List (Den t))} {h:Option Nat} {v:Value} (hb:β' n'=β n)
 (ho: ∀b,who b=some n->who' b=some n'/\w'.heap[b]? =w.heap[b]?)
 (he: ∀(ys:List (Den t)) b o,w'.heap[b]? =w.heap[b]? ->Elems who w t ys b o->Elems who' w' t ys b o) (hr:RelDp β who w n t xs h v):RelDp β' who' w' n' t xs h v:=by
 obtain⟨h1,h2⟩:=hr;rcases h2 with h2|⟨b,o,cap,arr,el,e1,e2,e3,e4,e5,e6,e7⟩
 . exact⟨by rw[hb];exact h1,.inl h2⟩
 obtain⟨g1,g2⟩:=ho b e5;refine⟨by rw[hb];exact h1,.inr ⟨b,o,cap,arr,el,e1,by rw[g2];exact e2,e3,e4,g1,λi hi hh=> ?_,by rw[hb];exact e7⟩⟩
 obtain⟨f1,f2⟩:=e6 i hi hh;rw[hb];refine⟨by rw[Yn g2];exact f1,?_⟩
 rcases f2 with f2|⟨bi,oi,ci,ar,l,k1,k2,k3,k4,k5,k6,k7⟩
 . exact .inl f2
 . obtain⟨m1,m2⟩:=ho bi k5;exact .inr ⟨bi,oi,ci,ar,l,k1,by rw[m2];exact k2,k3,k4,m1,k6,he _ _ _ m2 k7⟩
def InnO.map {who who':Who} {w w':World} {n n':Nat} {t:Ty} {ys:List (Den t)} {v:Value} {b:Nat}
 (ho: ∀b,who b=some n->who' b=some n'/\w'.heap[b]? =w.heap[b]?)
 (he: ∀(t:Ty) (ys:List (Den t)) b o,w'.heap[b]? =w.heap[b]? ->Elems who w t ys b o->Elems who' w' t ys b o) (h:InnO who w n t ys v b):InnO who' w' n' t ys v b:=by
 rcases h with h|⟨bi,oi,ci,ar,l,k1,k2,k3,k4,k5,k6,k7⟩
 . exact .inl h
 . obtain⟨m1,m2⟩:=ho bi k5;exact .inr ⟨bi,oi,ci,ar,l,k1,by rw[m2];exact k2,k3,k4,m1,k6,he _ _ _ _ m2 k7⟩
def Ents.map {who who':Who} {w w':World} {t:Ty} {ys:List (Int×Den t)} {es:List MapEntry}
 (hi: ∀(x:Den t) g j,RelI who w t x g j->RelI who' w' t x g j) (h:Ents who w t ys es):Ents who' w' t ys es:=
 ⟨h.1,λi hl=>let ⟨arr,h1,h2,h3⟩:=h.2 i hl;⟨arr,h1,h2,hi _ _ _ h3⟩⟩
def MapV.map {who who':Who} {w w':World} {n n':Nat} {t:Ty} {ys:List (Int×Den t)} {v:Value} {B B':Nat->Prop} (hB: ∀b,B b->B' b)
 (ho: ∀b,who b=some n->who' b=some n'/\w'.heap[b]? =w.heap[b]?)
 (hi: ∀(x:Den t) g j,RelI who w t x g j->RelI who' w' t x g j) (h:MapV who w n t ys v B):MapV who' w' n' t ys v B':=by
 obtain⟨b,es,k1,k2,k3,k4,k5⟩:=h;obtain⟨m1,m2⟩:=ho b k3;exact⟨b,es,k1,by rw[m2];exact k2,m1,hB b k4,k5.map hi⟩
def InnM.map {who who':Who} {w w':World} {n n':Nat} {t:Ty} {ys:Option (List (Int×Den t))} {v:Value} {b:Nat}
 (ho: ∀b,who b=some n->who' b=some n'/\w'.heap[b]? =w.heap[b]?)
 (hi: ∀(x:Den t) g j,RelI who w t x g j->RelI who' w' t x g j) (h:InnM who w n t ys v b):InnM who' w' n' t ys v b:=by
 cases ys with
 |none=>exact h
 |some ys=>exact MapV.map (λ_ h=>h) ho hi h
def RelMm.map {β β':Beta} {who who':Who} {w w':World} {n n':Nat} {t:Ty} {xs:List (Option (List (Int×Den t)))} {o:Bool} {v:Value} (hb:β' n'=β n)
 (ho: ∀b,who b=some n->who' b=some n'/\w'.heap[b]? =w.heap[b]?)
 (hi: ∀(x:Den t) g j,RelI who w t x g j->RelI who' w' t x g j) (hr:RelMm β who w n t xs o v):RelMm β' who' w' n' t xs o v:=by
 cases o with
 |false=>
  obtain⟨h1,b,o,cap,arr,el,e1,e2,e3,e4,e5,e6,e7⟩:=hr;obtain⟨g1,g2⟩:=ho b e5;refine⟨by rw[hb];exact h1,b,o,cap,arr,el,e1,by rw[g2];exact e2,e3,e4,g1,λi hl=> ?_,by rw[hb];exact e7⟩
  obtain⟨f1,f2⟩:=e6 i hl;rw[hb];exact⟨by rw[Yn g2];exact f1,f2.map ho hi⟩
 |true=>
  obtain⟨ys,h0,h1,h2⟩:=hr;exact⟨ys,h0,by rw[hb];exact h1,h2.map (λ_ h=>h) ho hi⟩
def RelQ.imp {who who':Who} {w w':World} {n n' b b':Nat} {h h':Option Nat} {g g':Nat->Option Value} {d:Nat}: ∀{t:Ty} {x:Den t} {p:Nat},
 (∀j,j<t.size->g' (p+d+j)=g (p+j)\/(h'=some (p+d+j)/\ ∃v,g (p+j)=some v/\ ∀k z,v≠ .int k z/\ ∀y,v≠ .bool y))->
 (∀j,j<t.size->h=some (p+j)->h'=some (p+d+j))->
 (∀(u:Ty) (ys:List (Den u)) v j,j<t.size->g (p+j)=some v->InnO who w n u ys v b->h'≠some (p+d+j)->InnO who' w' n' u ys v b')->RelQ who w n b h t x g p->RelQ who' w' n' b' h' t x g' (p+d)
 | .int k,x,p,hg,hh,hi,hr=>by
   have h1:=hg 0 (by simp[Ty.size])
   simp only[zV]at h1;rcases h1 with h1|⟨_,v,h2,h3⟩
   . simp only[RelQ]at hr⊢;rw[h1];exact hr
   . simp only[RelQ]at hr;rw[hr]at h2;injection h2 with h2;exact absurd h2.symm (h3 k x).1
 | .bool,x,p,hg,hh,hi,hr=>by
   have h1:=hg 0 (by simp[Ty.size])
   simp only[zV]at h1;rcases h1 with h1|⟨_,v,h2,h3⟩
   . simp only[RelQ]at hr⊢;rw[h1];exact hr
   . simp only[RelQ]at hr;rw[hr]at h2;injection h2 with h2;exact absurd h2.symm ((h3 .i64 0).2 x)
 | .pr s t,x,p,hg,hh,hi,hr=>by
   have e1: ∀j,p+(s.size+j)=p+s.size+j:=λj=>O
   have e2: ∀j,p+d+(s.size+j)=p+s.size+d+j:=λj=>O
   refine⟨RelQ.imp (λj hj=>hg j (by simp only[Ty.size];omega)) (λj hj=>hh j (by simp only[Ty.size];omega)) (λu ys v j hj=>hi u ys v j (by simp only[Ty.size];omega)) hr.1,?_⟩
   have:=RelQ.imp (t:=t) (x:=x.2) (p:=p+s.size) (d:=d) (g:=g) (g':=g') (h:=h) (h':=h') (who:=who) (who':=who') (w:=w) (w':=w') (n:=n) (n':=n') (b:=b) (b':=b')
    (λj hj=>by have:=hg (s.size+j) (by simp only[Ty.size];omega);rw[e1,e2]at this;exact this)
    (λj hj=>by have:=hh (s.size+j) (by simp only[Ty.size];omega);rw[e1,e2]at this;exact this)
    (λu ys v j hj=>by have:=hi u ys v (s.size+j) (by simp only[Ty.size];omega);rw[e1,e2]at this;exact this) hr.2
   rw[show p+s.size+d=p+d+s.size by omega]at this
   exact this
 | .sl _ t,xs,p,hg,hh,hi,hr=>by
   simp only[RelQ]at hr⊢;have h1:=hg 0 (by simp[Ty.size])
   have h2:=hh 0 (by simp[Ty.size])
   simp only[zV]at h1 h2;rcases hr with hr|⟨v,q1,q2⟩
   . exact .inl (h2 hr)
   . rcases h1 with h1|⟨h1,_⟩
     . by_cases e:h'=some (p+d)
       . exact .inl e
       . exact .inr ⟨v,by rw[h1];exact q1,hi t xs v 0 (by simp[Ty.size]) (by simpa using q1) q2 (by simpa using e)⟩
     . exact .inl h1
def RelQ.map {who who':Who} {w w':World} {n n' b:Nat} {h:Option Nat} {g g':Nat->Option Value} {t:Ty} {x:Den t} {p:Nat} (hg: ∀j,g' j=g j)
 (ho: ∀b,who b=some n->who' b=some n'/\w'.heap[b]? =w.heap[b]?)
 (he: ∀(t:Ty) (ys:List (Den t)) b o,w'.heap[b]? =w.heap[b]? ->Elems who w t ys b o->Elems who' w' t ys b o) (hr:RelQ who w n b h t x g p):RelQ who' w' n' b h t x g' p:=
 RelQ.imp (d:=0) (λj _=> .inl (hg _)) (λj _ e=>e) (λu ys v j _ _ hi _=>hi.map ho he) hr
def RelDq.map {β β':Beta} {who who':Who} {w w':World} {n n':Nat} {t:Ty} {xs:List (Den t)} {h:Option Nat} {v:Value} (hb:β' n'=β n)
 (ho: ∀b,who b=some n->who' b=some n'/\w'.heap[b]? =w.heap[b]?)
 (he: ∀(t:Ty) (ys:List (Den t)) b o,w'.heap[b]? =w.heap[b]? ->Elems who w t ys b o->Elems who' w' t ys b o) (hr:RelDq β who w n t xs h v):RelDq β' who' w' n' t xs h v:=by
 obtain⟨h1,h2⟩:=hr;refine⟨by rw[hb];exact h1,?_⟩
 rcases h2 with h2|⟨b,o,cap,arr,el,e1,e2,e3,e4,e5,e6,e7⟩
 . exact .inl h2
 obtain⟨g1,g2⟩:=ho b e5;have hc: ∀j,cellAt w' b o j=cellAt w b o j:=λj=>Yn g2
 exact .inr ⟨b,o,cap,arr,el,e1,by rw[g2];exact e2,e3,e4,g1,λi hi=>(e6 i hi).map hc ho he,λp q a a' l l' c c' p1 p2 p3 p4 p5 p6=>e7 p q a a' l l' c c' p1 p2 p3 p4 (by rw[<-hc];exact p5) (by rw[<-hc];exact p6)⟩
section
variable {β β':Beta} {who who':Who} {w w':World}
def RelC.keep {av:AV} {v:Value} (k:Keeps β who w β' who' w' (qc av) (occC av)) (h:RelC β who w av v):RelC β' who' w' av v:=by
 cases av with
 |sl o t xs=>
  cases o with
  |imm=>exact SlI.keep k.imm k.size h
  |nl=>exact h
  |inn=>exact h
  |nm n=>
   obtain⟨h1,h2⟩:=h;refine⟨by rw[k.beta n (by simp[occC])];exact h1,?_⟩
   rcases h2 with h2|⟨b,o,cap,arr,el,e1,e2,e3,e4,e5,e6⟩
   . exact .inl h2
   . have hk:=k.own n (by simp[qc]) b e5
     exact .inr ⟨b,o,cap,arr,el,e1,by rw[hk.2];exact e2,e3,e4,hk.1,Elems.keep k.imm k.size hk.2 e6⟩
 |ref s n sz win=>
  simp only[RelC]at*;rw[k.beta n (by simp[occC])];exact h
 |ptr s n sz i j=>
  simp only[RelC]at*;rw[k.beta n (by simp[occC])];exact h
 |dr s n kk=>
  simp only[RelC]at*;rw[k.beta n (by simp[occC])];exact h
 |iptr g t xs i j=>
  obtain⟨b,o,e1,e2,e3,e4,e5⟩:=h;exact⟨b,o,e1,e2,(k.imm b e3 e4).1,by have:=k.size;omega,Elems.keep k.imm k.size (k.imm b e3 e4).2 e5⟩
 |dp n t xs hh=>exact RelDp.map (k.beta n (by simp[occC])) (λb hb=>k.own n (by simp[qc]) b hb) (λ_ _ _ hb he=>he.keep k.imm k.size hb) h
 |dq n t xs hh=>exact RelDq.map (k.beta n (by simp[occC])) (λb hb=>k.own n (by simp[qc]) b hb) (λ_ _ _ _ hb he=>he.keep k.imm k.size hb) h
 |mm n t xs o=>exact RelMm.map (k.beta n (by simp[occC])) (λb hb=>k.own n (by simp[qc]) b hb) (λ_ _ _ he=>RelI.keep k.imm k.size he) h
 |fd n t xs hh=>exact⟨RelDp.map (k.beta n (by simp[occC])) (λb hb=>k.own n (by simp[qc]) b hb) (λ_ _ _ hb he=>he.keep k.imm k.size hb) h.1,by rw[k.beta 98 (by simp[occC])];exact h.2⟩
 |wn n t xs=>
  obtain⟨⟨h1,h2⟩,arr0,g1,g2⟩:=h;rcases h2 with⟨h2,h2'⟩|⟨b,o,cap,arr,el,e1,e2,e3,e4,e5,e6⟩
  . refine⟨⟨by rw[k.beta n (by simp[occC])];exact h1,.inl ⟨h2,h2'⟩⟩,arr0,by rw[k.beta 98 (by simp[occC])];exact g1,λb o L cap arr el q1 _=> ?_⟩
    rw[h2]at q1;cases q1
  . have hk:=k.own n (by simp[qc]) b e5
    refine⟨⟨by rw[k.beta n (by simp[occC])];exact h1,.inr ⟨b,o,cap,arr,el,e1,by rw[hk.2];exact e2,e3,e4,hk.1,Elems.keep k.imm k.size hk.2 e6⟩⟩,arr0,by rw[k.beta 98 (by simp[occC])];exact g1,λb' o' L' cap' arr' el' q1 q2=> ?_⟩
    grind
 |_=>exact h
def Keeps.mono {ns os ns' os':List Nat} (k:Keeps β who w β' who' w' ns os) (hn: ∀n∈ns',n∈ns) (ho: ∀n∈os',n∈os):
 Keeps β who w β' who' w' ns' os':=
 ⟨λn h=>k.beta n (ho n h),λn h=>k.own n (hn n h),k.imm,k.size⟩
def CellsRel.keep {cells:List AV} {arr:Array Value} (k:Keeps β who w β' who' w' (cells.flatMap qc) (cells.flatMap occC))
 (h:CellsRel β who w cells arr):CellsRel β' who' w' cells arr:=
 ⟨h.1,λj hj=>RelC.keep (k.mono (λn hn=>zC.2 ⟨_,zI hj,hn⟩) (λn hn=>zC.2 ⟨_,zI hj,hn⟩)) (h.2 j hj)⟩
def RelA.keep {av:AV} {v:Value} (k:Keeps β who w β' who' w' (qi av) (occA av)) (h:RelA β who w av v):RelA β' who' w' av v:=by
 cases av with
 |bx o cells=>
  cases o with
  |nm n=>
   obtain⟨h0,b,arr,el,e1,e2,e3,e4⟩:=h;have hk:=k.own n (by simp[qi]) b e3
   exact⟨by rw[k.beta n (by simp[occA])];exact h0,b,arr,el,e1,by rw[hk.2];exact e2,hk.1,
    CellsRel.keep (k.mono (λn hn=>by simp only[qi];grind) (λn hn=>by simp only[occA];grind)) e4⟩
  |_=>exact h
 |agg cells=>
  obtain⟨arr,e1,e2⟩:=h;exact⟨arr,e1,CellsRel.keep k e2⟩
 |dead=>trivial
 |bool b=>exact RelC.keep (av:= .bool b) k h
 |int x n=>exact RelC.keep (av:= .int x n) k h
 |lit u=>exact RelC.keep (av:= .lit u) k h
 |sl o t xs=>exact RelC.keep (av:= .sl o t xs) k h
 |tup vs=>exact h.elim
 |ref s n sz win=>exact RelC.keep (av:= .ref s n sz win) k h
 |ptr s n sz i j=>exact RelC.keep (av:= .ptr s n sz i j) k h
 |iptr g t xs i j=>exact RelC.keep (av:= .iptr g t xs i j) k h
 |dp n t xs hh=>exact RelC.keep (av:= .dp n t xs hh) k h
 |dr s n kk=>exact RelC.keep (av:= .dr s n kk) k h
 |wn n t xs=>exact RelC.keep (av:= .wn n t xs) k h
 |dq n t xs hh=>exact RelC.keep (av:= .dq n t xs hh) k h
 |fd n t xs hh=>exact RelC.keep (av:= .fd n t xs hh) k h
 |mm n t xs o=>exact RelC.keep (av:= .mm n t xs o) k h
def Rel.keep {av:AV} {v:Value} (k:Keeps β who w β' who' w' (names av) (occ av)) (h:Rel β who w av v):Rel β' who' w' av v:=by
 cases av with
 |tup vs=>
  obtain⟨arr,e1,e2,e3⟩:=h;exact⟨arr,e1,e2,λj hj=>RelA.keep (k.mono (λn hn=>zC.2 ⟨_,zI hj,hn⟩) (λn hn=>zC.2 ⟨_,zI hj,hn⟩)) (e3 j hj)⟩
 |dead=>trivial
 |bool b=>exact RelA.keep (av:= .bool b) k h
 |int x n=>exact RelA.keep (av:= .int x n) k h
 |lit u=>exact RelA.keep (av:= .lit u) k h
 |sl o t xs=>exact RelA.keep (av:= .sl o t xs) k h
 |bx o cells=>exact RelA.keep (av:= .bx o cells) k h
 |agg cells=>exact RelA.keep (av:= .agg cells) k h
 |ref s n sz win=>exact RelA.keep (av:= .ref s n sz win) k h
 |ptr s n sz i j=>exact RelA.keep (av:= .ptr s n sz i j) k h
 |iptr g t xs i j=>exact RelA.keep (av:= .iptr g t xs i j) k h
 |dp n t xs hh=>exact RelA.keep (av:= .dp n t xs hh) k h
 |dr s n kk=>exact RelA.keep (av:= .dr s n kk) k h
 |wn n t xs=>exact RelA.keep (av:= .wn n t xs) k h
 |dq n t xs hh=>exact RelA.keep (av:= .dq n t xs hh) k h
 |fd n t xs hh=>exact RelA.keep (av:= .fd n t xs hh) k h
 |mm n t xs o=>exact RelA.keep (av:= .mm n t xs o) k h
end
def qh (U:Slots) (s:Nat) (v:AV):(U.set s v).get s=v:=by
 induction U with
 |nil=>simp[Slots.set,Slots.get]
 |cons x r ih=>
  obtain⟨k,u⟩:=x;by_cases h:k=s<;>simp[Slots.set,Slots.get,h,ih]
def qg (U:Slots) {s t:Nat} (v:AV) (hne:t≠s):(U.set s v).get t=U.get t:=by
 induction U with
 |nil=>simp[Slots.set,Slots.get];omega
 |cons x r ih=>
  obtain⟨k,u⟩:=x;by_cases h:k=s
  . subst h;simp[Slots.set,Slots.get]
    grind
  . simp only[Slots.set,h,if_false,Slots.get]
    grind
def FN:Nat:=99
def q6y:List (Nat×Operand)->List (IntKind×Int)
 |[]=>[]
 |(_,.const (.int k n))::r=>(k,n)::q6y r
 |_::r=>q6y r
def q9s:List Oper->Tmp->List (IntKind×Int)
 |[],_=>[]
 |o::r,t=>match o.dst,o.op with
  |some d,.build _ ps=>if d=t then q6y ps.toList else q9s r t
  |_,_=>q9s r t
def qdm (all:List Oper):List Oper->List (Nat×IntKind×LI)
 |[]=>[]
 |o::r=>match o.op with
  | .store _ (.global g) (.tmp t)=>(match q9s all t with
    |(k,n)::l=>[(g,k,n::l.map (·.2))]
    |[]=>[])++qdm all r
  |_=>qdm all r
def qaf:Code->List Oper
 | .region _ ops _=>ops.toList
 | .seq a b=>qaf a++qaf b
 |_=>[]
def qg9 (P:Program):List (Nat×IntKind×LI):=
 match P.funcs.toList.find? λf=>f.name== "gosem.cut.vars" with
 |some f=>(match f.body with
  |some c=>qdm (qaf c) (qaf c)
  |none=>[])
 |none=>[]
def GlobOK (P:Program) (who:Who) (w:World):Prop:= ∀x∈qg9 P,who x.1=none/\x.1<w.heap.size/\ ∀i (h:i<x.2.2.length),w.cell? ⟨x.1,i,none⟩=some (.int x.2.1 x.2.2[i])
structure Entry where
 prog:Program
 w0:World
 who0:Who
 pins:List (Nat×Value)
 N:Nat
 gok:GlobOK prog who0 w0
 fr:Value
structure Sim (E:Entry) (D:Nat->Prop) (β:Beta) (who:Who) (U:Slots) (hd:List (AV×Value)) (a:Act) (w:World):Prop where
 rel: ∀s,Rel β who w (U.get s) (a.tmps.getD s undef)
 nod: ∀s,(names (U.get s)).Nodup
 dis: ∀s s' n,n∈names (U.get s)->n∈names (U.get s')->s=s'
 occ: ∀s n,n∈Vs.occ (U.get s)->D n
 hrel: ∀x∈hd,Rel β who w x.1 x.2
 hnod:(hd.flatMap λx=>names x.1).Nodup
 hdis: ∀x∈hd,∀n∈names x.1,∀s,n∉names (U.get s)
 hocc: ∀x∈hd,∀n∈Vs.occ x.1,D n
 wsz: ∀b n,who b=some n->b<w.heap.size
 fr0: ∀b,b<E.w0.heap.size->E.who0 b=none\/E.who0 b=some FN->w.heap[b]? =E.w0.heap[b]?
 fr1: ∀b n,who b=some n->E.who0 b≠none\/E.w0.heap.size<=b
 fr2:E.w0.heap.size<=w.heap.size
 fr3: ∀b,E.who0 b=some FN->who b=some FN
 fr4:w.os=E.w0.os/\w.output=E.w0.output
 dfn: ¬D FN
 dfr:a.defers=[]
 tsz:a.tmps.size=E.N
 pin: ∀p∈E.pins,a.tmps.getD p.1 undef=p.2
 frm:β 98=E.fr
 d98:D 98
def Xf {av:AV} {n:Nat} (h:n∈qc av):n∈occC av:=by
 cases av with
 |sl o t xs=>cases o<;>simp[qc,occC]at* ;exact h
 |dp m t xs hh=>exact h
 |dq m t xs hh=>exact h
 |wn m t xs=>simp only[qc,occC,zJ,zS,or_false]at*;exact .inl h
 |mm m t xs o=>exact h
 |fd m t xs hh=>simp only[qc,occC,zJ,zS,or_false]at*;exact .inl h
 |_=>simp[qc]at h
def Js {cells:List AV} {n:Nat} {f g:AV->List Nat} (hfg: ∀c,n∈f c->n∈g c) (h:n∈cells.flatMap f):n∈cells.flatMap g:=by
 grind
def Xg {av:AV} {n:Nat} (h:n∈qi av):n∈occA av:=by
 cases av with
 |bx o cells=>
  cases o with
  |nm m=>
   simp only[qi,occA,zJ]at*;exact h.imp id (Js λc=>Xf)
  |_=>exact Js (λc=>Xf) h
 |agg cells=>exact Js (λc=>Xf) h
 |sl o t xs=>exact Xf (av:= .sl o t xs) h
 |dp m t xs hh=>exact h
 |dq m t xs hh=>exact h
 |wn m t xs=>exact Xf (av:= .wn m t xs) h
 |fd m t xs hh=>exact Xf (av:= .fd m t xs hh) h
 |mm m t xs o=>exact h
 |_=>simp[qi,qc]at h
def qj {av:AV} {n:Nat} (h:n∈names av):n∈Vs.occ av:=by
 cases av with
 |tup vs=>exact Js (λc=>Xg) h
 |sl o t xs=>exact Xg (av:= .sl o t xs) h
 |dp m t xs hh=>exact h
 |dq m t xs hh=>exact h
 |wn m t xs=>exact Xg (av:= .wn m t xs) h
 |fd m t xs hh=>exact Xg (av:= .fd m t xs hh) h
 |mm m t xs o=>exact h
 |bx o cells=>exact Xg (av:= .bx o cells) h
 |agg cells=>exact Xg (av:= .agg cells) h
 |_=>simp[names,qi,qc]at h
section
variable {E:Entry} {D:Nat->Prop} {β:Beta} {who:Who} {U:Slots} {hd:List (AV×Value)} {a:Act} {w:World}
def Sim.mono (S:Sim E D β who U hd a w) {D':Nat->Prop} (h: ∀n,D n->D' n) (hF: ¬D' FN):Sim E D' β who U hd a w:=
 {S with occ:=λs n hn=>h n (S.occ s n hn),hocc:=λx hx n hn=>h n (S.hocc x hx n hn),dfn:=hF,d98:=h 98 S.d98}
def Sim.ext (S:Sim E D β who U hd a w) {U':Slots} (h: ∀s,U'.get s=U.get s):Sim E D β who U' hd a w:=
 {S with rel:=λs=>by rw[h];exact S.rel s,nod:=λs=>by rw[h];exact S.nod s,
         dis:=λs s' n h1 h2=>S.dis s s' n (by rw[<-h];exact h1) (by rw[<-h];exact h2),
         occ:=λs n hn=>S.occ s n (by rw[<-h];exact hn),
         hdis:=λx hx n hn s=>by rw[h];exact S.hdis x hx n hn s}
def Sim.drop (S:Sim E D β who U hd a w) {x:AV×Value} {hd':List (AV×Value)} (h:hd=x::hd'):Sim E D β who U hd' a w:=by
 subst h
 exact{S with hrel:=λy hy=>S.hrel y (mT hy),hnod:=(zG.1 (by simpa using S.hnod)).2.1,
              hdis:=λy hy=>S.hdis y (mT hy),hocc:=λy hy=>S.hocc y (mT hy)}
def Sim.take0 (S:Sim E D β who U hd a w) {v:AV} {c:Value} (hv:Rel β who w v c) (h0:names v=[]) (ho: ∀n∈Vs.occ v,D n):
 Sim E D β who U ((v,c)::hd) a w:=
 {S with
  hrel:=λy hy=>by rcases mC hy with rfl|hy;exact hv;exact S.hrel y hy
  hnod:=by simpa [h0]using S.hnod
  hdis:=λy hy=>by
   rcases mC hy with rfl|hy
   . intro n hn;simp[h0]at hn
   . exact S.hdis y hy
  hocc:=λy hy=>by rcases mC hy with rfl|hy;exact ho;exact S.hocc y hy}
def Sim.abs (S:Sim E D β who U hd a w) {s:Nat} {v:AV} (hv:Rel β who w v (a.tmps.getD s undef)) (hn: ∀n∈names v,n∈names (U.get s))
 (hnd:(names v).Nodup) (ho: ∀n∈Vs.occ v,D n):Sim E D β who (U.set s v) hd a w:=
 {S with
  rel:=λt=>by
   by_cases h:t=s
   . subst h;rw[qh];exact hv
   . rw[qg _ _ h];exact S.rel t
  nod:=λt=>by
   by_cases h:t=s
   . subst h;rw[qh];exact hnd
   . rw[qg _ _ h];exact S.nod t
  dis:=λt t' n h1 h2=>by
   have g: ∀t,n∈names ((U.set s v).get t)->n∈names (U.get t):=λt ht=>by
    by_cases h:t=s
    . subst h;rw[qh]at ht;exact hn n ht
    . rw[qg _ _ h]at ht;exact ht
   exact S.dis t t' n (g t h1) (g t' h2)
  occ:=λt n h1=>by
   by_cases h:t=s
   . subst h;rw[qh]at h1;exact ho n h1
   . rw[qg _ _ h]at h1;exact S.occ t n h1
  hdis:=λx hx n h1 t=>by
   by_cases h:t=s
   . subst h;rw[qh];exact λh2=>S.hdis x hx n h1 t (hn n h2)
   . rw[qg _ _ h];exact S.hdis x hx n h1 t}
def Sim.takeAll (S:Sim E D β who U hd a w) (s:Nat):Sim E D β who (U.set s .dead) ((U.get s,a.tmps.getD s undef)::hd) a w:=by
 have S':=S.abs (s:=s) (v:= .dead) trivial (λn h=>by simp[names,qi,qc]at h) (by simp[names,qi,qc]) (λn h=>by simp[Vs.occ,occA,occC]at h)
 exact{S' with
  hrel:=λy hy=>by rcases mC hy with rfl|hy;exact S.rel s;exact S.hrel y hy
  hnod:=by
   simp only[fC];refine zG.2 ⟨S.nod s,S.hnod,λn h1 m h2=> ?_⟩
   rintro rfl
   obtain⟨x,hx,hn⟩:=zC.1 h2;exact S.hdis x hx n hn s h1
  hdis:=λy hy=>by
   rcases mC hy with rfl|hy
   . intro n h1 t h2;by_cases h:t=s
     . subst h;rw[qh]at h2;simp[names,qi,qc]at h2
     . rw[qg _ _ h]at h2;exact h (S.dis t s n h2 h1)
   . exact S'.hdis y hy
  hocc:=λy hy=>by rcases mC hy with rfl|hy;exact S.occ s;exact S.hocc y hy}
def Sim.put {v:AV} {c:Value} (S:Sim E D β who U ((v,c)::hd) a w) {d:Nat} (hd1:d<E.N) (hp: ∀p∈E.pins,p.1≠d):
 Sim E D β who (U.set d v) hd (a.put (some d) c) w:=by
 have hsz:d<a.tmps.size:=by rw[S.tsz];exact hd1
 have hget: ∀t,(a.put (some d) c).tmps.getD t undef=if t=d then c else a.tmps.getD t undef:=λt=>by
  simp only[Act.put,Array.getD_eq_getD_getElem?,Array.getElem?_setIfInBounds]
  grind
 have hv:=S.hrel _ mS;have hin: ∀t,t≠d->(a.put (some d) c).tmps.getD t undef=a.tmps.getD t undef:=λt h=>by rw[hget,iN' h]
 exact{
  rel:=λt=>by
   by_cases h:t=d
   . subst h;rw[qh,hget,iP rfl];exact hv
   . rw[qg _ _ h,hin t h];exact S.rel t
  nod:=λt=>by
   by_cases h:t=d
   . subst h;rw[qh];exact(zG.1 (by simpa using S.hnod)).1
   . rw[qg _ _ h];exact S.nod t
  dis:=λt t' n h1 h2=>by
   by_cases h:t=d<;>by_cases h':t'=d
   . rw[h,h']
   . subst h;rw[qh]at h1;rw[qg _ _ h']at h2;exact absurd h2 (S.hdis _ mS n h1 t')
   . subst h';rw[qh]at h2;rw[qg _ _ h]at h1;exact absurd h1 (S.hdis _ mS n h2 t)
   . rw[qg _ _ h]at h1;rw[qg _ _ h']at h2;exact S.dis t t' n h1 h2
  occ:=λt n h1=>by
   by_cases h:t=d
   . subst h;rw[qh]at h1;exact S.hocc _ mS n h1
   . rw[qg _ _ h]at h1;exact S.occ t n h1
  hrel:=λy hy=>S.hrel y (mT hy)
  hnod:=(zG.1 (by simpa using S.hnod)).2.1
  hdis:=λy hy n h1 t=>by
   by_cases h:t=d
   . subst h;rw[qh];have:=(zG.1 (by simpa using S.hnod:(names v++hd.flatMap λx=>names x.1).Nodup)).2.2
     grind
   . rw[qg _ _ h];exact S.hdis y (mT hy) n h1 t
  hocc:=λy hy=>S.hocc y (mT hy)
  wsz:=S.wsz,fr0:=S.fr0,fr1:=S.fr1,fr2:=S.fr2,fr3:=S.fr3,fr4:=S.fr4,dfn:=S.dfn
  dfr:=S.dfr
  tsz:=by simp[Act.put,S.tsz]
  pin:=λp hp'=>by rw[hin p.1 (hp p hp')];exact S.pin p hp'
  frm:=S.frm
  d98:=S.d98}
def Sim.putNone {v:AV} {c:Value} (S:Sim E D β who U ((v,c)::hd) a w):Sim E D β who U hd (a.put none c) w:=by
 have:=S.drop rfl;simpa [Act.put]using this
def Sim.glob (S:Sim E D β who U hd a w):GlobOK E.prog who w:=λx hx=>by
 obtain⟨h1,h2,h3⟩:=E.gok x hx;have hb:=S.fr0 x.1 h2 (.inl h1);refine⟨?_,zA2 h2 S.fr2,λi hi=> ?_⟩
 . cases hw:who x.1 with
   |none=>rfl
   |some n=>
    rcases S.fr1 _ n hw with h|h
    . exact absurd h1 h
    . omega
 . have:=h3 i hi;rw[<-this];unfold World.cell?;simp only[hb]
def Sim.world (S:Sim E D β who U hd a w) {β':Beta} {who':Who} {w':World}
 (hrel: ∀s,Rel β' who' w' (U.get s) (a.tmps.getD s undef)) (hhrel: ∀x∈hd,Rel β' who' w' x.1 x.2)
 (hw: ∀b n,who' b=some n->b<w'.heap.size) (hsz:w.heap.size<=w'.heap.size)
 (h0: ∀b,b<E.w0.heap.size->E.who0 b=none\/E.who0 b=some FN->w'.heap[b]? =w.heap[b]?)
 (h1: ∀b n,who' b=some n->E.who0 b≠none\/E.w0.heap.size<=b) (h3: ∀b,E.who0 b=some FN->who' b=some FN) (h4:w'.os=w.os/\w'.output=w.output:=by exact⟨rfl,rfl⟩) (h98:β' 98=β 98:=by exact rfl):Sim E D β' who' U hd a w':=
 {S with frm:=h98.trans S.frm,rel:=hrel,hrel:=hhrel,wsz:=hw,fr0:=λb hb hn=>by rw[h0 b hb hn];exact S.fr0 b hb hn,fr1:=h1,fr2:=zT S.fr2 hsz,fr3:=h3,fr4:=⟨h4.1.trans S.fr4.1,h4.2.trans S.fr4.2⟩}
def Sim.keep (S:Sim E D β who U hd a w) {β':Beta} {who':Who} {w':World}
 (hβ: ∀n,D n->β' n=β n) (hown: ∀b n,who b=some n->who' b=some n) (hheap: ∀b,b<w.heap.size->w'.heap[b]? =w.heap[b]?)
 (himm: ∀b,who b=none->b<w.heap.size->who' b=none) (hw: ∀b n,who' b=some n->b<w'.heap.size)
 (hsz:w.heap.size<=w'.heap.size) (h4:w'.os=w.os/\w'.output=w.output:=by exact⟨rfl,rfl⟩):Sim E D β' who' U hd a w':=by
 have k: ∀ns os,(∀n∈os,D n)->Keeps β who w β' who' w' ns os:=λns os ho=>
  ⟨λn hn=>hβ n (ho n hn),λn _ b hb=>⟨hown b n hb,hheap b (S.wsz b n hb)⟩,λb hb hlt=>⟨himm b hb hlt,hheap b hlt⟩,hsz⟩
 refine S.world (λs=>(S.rel s).keep (k _ _ (S.occ s))) (λx hx=>(S.hrel x hx).keep (k _ _ (S.hocc x hx))) hw hsz
  (λb hb _=>hheap b (zA2 hb S.fr2)) (λb n hb=> ?_) (λb hb=>hown b FN (S.fr3 b hb)) h4 (hβ 98 S.d98)
 by_cases hlt:b<w.heap.size
 . cases hwb:who b with
   |none=>grind
   |some m=>exact S.fr1 b m hwb
 . exact .inr (by have:=S.fr2;omega)
end
abbrev qx:=Nat->List AV->AV->List AV->Prop
def vw (U:Slots) (G:Nat):Option AV:=vwf (G/32) (G%32) (U.get (G/32))
def qae {s j:Nat} (h:17<=j) (a:AV):vwf s j a=none:=by
 match j,h with
 |j+2,h=>simp only[vwf];rw[iN' O]
def vw_k (U:Slots) {s j:Nat} (h:j<32):vw U (32*s+j)=vwf s j (U.get s):=by
 unfold vw
 grind
def vw_c (U:Slots) (s:Nat):vw U (32*s)=some (U.get s):=by
 have:=vw_k U (s:=s) (j:=0) O;simpa [vwf]using this
def qau {U τ:Slots} {G:Nat} (h:τ.get (G/32)=U.get (G/32)):vw τ G=vw U G:=by unfold vw;rw[h]
def qcu: ∀{b n G:Nat} {r:List Nat},G∈keysR b n r↔(b<=G/\G<b+n)\/G∈r
 |b,0,G,r=>by simp only[keysR];grind
 |b,n+1,G,r=>by
  simp only[keysR,zJ,qcu (b:=b+1) (n:=n)]
  grind
def Xu {s G:Nat} {r:List Nat}:G∈keysS s r↔(G/32=s/\G%32<17)\/G∈r:=by
 unfold keysS;rw[qcu]
 grind
def Xd {s G:Nat} {W r:List Nat}:G∈keysV s W r↔(∃j∈W,G=32*s+j)\/G∈r:=by
 induction W with
 |nil=>simp[keysV]
 |cons j js ih=>
  simp only[keysV,zJ,ih]
  grind
def qkj (U:Slots) {s G:Nat} (v:AV) (h: ¬(G/32=s/\G%32<17)):vw (U.set s v) G=vw U G:=by
 by_cases e:G/32=s
 . unfold vw;rw[qae O,qae O]
 . exact qau (qg _ _ e)
def qqq (U:Slots) {s G:Nat} {v:AV} {W:List Nat} (h: ∀j,j∉W->vwf s j v=vwf s j (U.get s)) (h1: ∀j∈W,G≠32*s+j):vw (U.set s v) G=vw U G:=by
 by_cases e:G/32=s
 . subst e;unfold vw;rw[qh]
   grind
 . exact qau (qg _ _ e)
def qjb (U τ:Slots) {s G:Nat} (v:AV) (h:G/32≠s->vw τ G=vw U G):vw (τ.set s v) G=vw (U.set s v) G:=by
 by_cases e:G/32=s
 . subst e;exact qau (by rw[qh,qh])
 . have h':=h e;unfold vw at h'⊢;rw[qg _ _ e,qg _ _ e];exact h'
inductive Run (CO:qx) {α:Type}:M α->Slots->α->Slots->List Nat->List Nat->Prop where
 |ret {a:α} {U:Slots}:Run CO (.ret a) U a U [] []
 |get {s:Nat} {k:AV->M α} {U U':Slots} {a:α} {R W:List Nat}:Run CO (k (U.get s)) U a U' R W->Run CO (.get s k) U a U' ((32*s)::R) W
 |view {s j:Nat} {k:Option AV->M α} {U U':Slots} {a:α} {R W:List Nat}:Run CO (k (vwf s j (U.get s))) U a U' R W->Run CO (.view s j k) U a U' ((32*s+j)::R) W
 |set {s:Nat} {v:AV} {k:M α} {U U':Slots} {a:α} {R W:List Nat}:Run CO k (U.set s v) a U' R W->Run CO (.set s v k) U a U' (keysS s R) (keysS s W)
 |upd {s:Nat} {V:List Nat} {f:AV->Option AV} {hf: ∀a b,f a=some b-> ∀j,j∉V->vwf s j b=vwf s j a} {v:AV} {k:M α} {U U':Slots} {a:α} {R W:List Nat}:f (U.get s)=some v->Run CO k (U.set s v) a U' R W->Run CO (.upd s V f hf k) U a U' ((32*s)::keysV s V R) (keysV s V W)
 |ask {p:Prop} {d:Decidable p} {k:M α} {U U':Slots} {a:α} {R W:List Nat}:p->Run CO k U a U' R W->Run CO (.ask p d k) U a U' R W
 |know {s:Nat} {b:Bool} {k:Bool->M α} {U U':Slots} {a:α} {R W:List Nat}:U.get s= .bool b->Run CO (k b) U a U' R W->Run CO (.know s k) U a U' ((32*s)::R) W
 |call {f:Nat} {as:List AV} {k:AV->List AV->M α} {r:AV} {os:List AV} {U U':Slots} {a:α} {R W:List Nat}:
   CO f as r os->Run CO (k r os) U a U' R W->Run CO (.call f as k) U a U' R W
def qbf: ∀(k n:Nat) (a b:List Nat),keysR k n (a++b)=keysR k n a++b
 |_,0,_,_=>rfl
 |k,n+1,a,b=>by simp only[keysR,qbf (k+1) n a b,zB2]
def qda (s:Nat) (a b:List Nat):keysS s (a++b)=keysS s a++b:=qbf _ _ _ _
def qdf (s:Nat) (V a b:List Nat):keysV s V (a++b)=keysV s V a++b:=by
 induction V with
 |nil=>rfl
 |cons j js ih=>simp[keysV,ih]
def SEq (U τ:Slots):Prop:= ∀s,τ.get s=U.get s
section
variable {CO:qx} {α β:Type}
def Run.bind {m:M α} {f:α->M β} {U U1:Slots} {b:β} {R W:List Nat} (h:Run CO (m.bind f) U b U1 R W):
 ∃a U' R1 W1 R2 W2,Run CO m U a U' R1 W1/\Run CO (f a) U' b U1 R2 W2/\R=R1++R2/\W=W1++W2:=by
 induction m generalizing U R W with
 |ret a=>exact⟨a,U,[],[],R,W,.ret,h,rfl,rfl⟩
 |fail=>cases h
 |get s k ih=>
  cases h with
  |get h=>
   obtain⟨a,U',R1,W1,R2,W2,h1,h2,e1,e2⟩:=ih _ h;exact⟨a,U',_,_,R2,W2,.get h1,h2,by simp[e1],e2⟩
 |view s j k ih=>
  cases h with
  |view h=>
   obtain⟨a,U',R1,W1,R2,W2,h1,h2,e1,e2⟩:=ih _ h;exact⟨a,U',_,_,R2,W2,.view h1,h2,by simp[e1],e2⟩
 |set s v k ih=>
  cases h with
  |set h=>
   obtain⟨a,U',R1,W1,R2,W2,h1,h2,e1,e2⟩:=ih h;exact⟨a,U',_,_,R2,W2,.set h1,h2,by rw[e1,qda],by rw[e2,qda]⟩
 |upd s V g hg k ih=>
  cases h with
  |upd hv h=>
   obtain⟨a,U',R1,W1,R2,W2,h1,h2,e1,e2⟩:=ih h;exact⟨a,U',_,_,R2,W2,.upd hv h1,h2,by rw[e1,qdf];rfl,by rw[e2,qdf]⟩
 |ask p d k ih=>
  cases h with
  |ask hp h=>
   obtain⟨a,U',R1,W1,R2,W2,h1,h2,e1,e2⟩:=ih h;exact⟨a,U',_,_,R2,W2,.ask hp h1,h2,e1,e2⟩
 |know s k ih=>
  cases h with
  |know hb h=>
   obtain⟨a,U',R1,W1,R2,W2,h1,h2,e1,e2⟩:=ih _ h;exact⟨a,U',_,_,R2,W2,.know hb h1,h2,by simp[e1],e2⟩
 |call g as k ih=>
  cases h with
  |call hc h=>
   obtain⟨a,U',R1,W1,R2,W2,h1,h2,e1,e2⟩:=ih _ _ h;exact⟨a,U',_,_,R2,W2,.call hc h1,h2,e1,e2⟩
def Run.frame {m:M α} {U U':Slots} {a:α} {R W:List Nat} (h:Run CO m U a U' R W): ∀s,s∉W->vw U' s=vw U s:=by
 induction h with
 |ret=>exact λ_ _=>rfl
 |get _ ih=>exact ih
 |view _ ih=>exact ih
 | @set s v k U U' a R W _ ih=>
   intro t ht;rw[Xu,not_or]at ht;rw[ih t ht.2,qkj _ _ ht.1]
 | @upd s V f hf v k U U' a R W hv _ ih=>
   intro t ht;rw[Xd,not_or]at ht;rw[ih t ht.2,qqq _ (hf _ _ hv) (λj hj e=>ht.1 ⟨j,hj,e⟩)]
 |ask _ _ ih=>exact ih
 |know _ _ ih=>exact ih
 |call _ _ ih=>exact ih
def Run.subW {m:M α} {U U':Slots} {a:α} {R W:List Nat} (h:Run CO m U a U' R W): ∀s∈W,s∈R:=by
 induction h with
 |ret=>intro s h;exact h
 |get _ ih=>grind
 |view _ ih=>grind
 |set _ ih=>
  intro t ht;rw[Xu]at ht⊢;exact ht.imp id (ih t)
 |upd _ _ ih=>
  intro t ht;rw[Xd]at ht;exact mT (Xd.2 (ht.imp id (ih t)))
 |ask _ _ ih=>exact ih
 |know _ _ ih=>grind
 |call _ _ ih=>exact ih
def Run.local {m:M α} {U U':Slots} {a:α} {R W:List Nat} (h:Run CO m U a U' R W): ∀(τ:Slots) (X:Nat->Prop),
 (∀s,(s∈R\/X s)->vw τ s=vw U s)-> ∃τ',Run CO m τ a τ' R W/\(∀s,(s∈R\/X s)->vw τ' s=vw U' s):=by
 have getc: ∀{τ U:Slots} {s:Nat},vw τ (32*s)=vw U (32*s)->τ.get s=U.get s:=λh=>by
  rw[vw_c,vw_c]at h;injection h
 have one: ∀{G:Nat} {R:List Nat} {X:Nat->Prop} {τ U:Slots},(∀s,(s∈G::R\/X s)->vw τ s=vw U s)-> ∀s,(s∈R\/(X s\/s=G))->vw τ s=vw U s:=λh s hs=>by
  grind
 have two: ∀{G:Nat} {R:List Nat} {X:Nat->Prop} {s:Nat},(s∈G::R\/X s)->(s∈R\/(X s\/s=G)):=λhs=>by
  grind
 induction h with
 |ret=>exact λτ X h=>⟨τ,.ret,h⟩
 | @get s k U U' a R W _ ih=>
   intro τ X h;obtain⟨τ',h1,h2⟩:=ih τ (λt=>X t\/t=32*s) (one h)
   exact⟨τ',.get (by grind),λt ht=>h2 t (two ht)⟩
 | @view s j k U U' a R W _ ih=>
   intro τ X h;obtain⟨τ',h1,h2⟩:=ih τ (λt=>X t\/t=32*s+j) (one h)
   have e:vwf s j (τ.get s)=vwf s j (U.get s):=by
    rcases zq j 32 with hj|hj
    . have:=h (32*s+j) (.inl mS)
      rwa [vw_k _ hj,vw_k _ hj]at this
    . rw[qae O,qae O]
   exact⟨τ',.view (by rw[e];exact h1),λt ht=>h2 t (two ht)⟩
 | @set s v k U U' a R W _ ih=>
   intro τ X h
   obtain⟨τ',h1,h2⟩:=ih (τ.set s v) (λt=>X t\/(t/32=s/\t%32<17)) (λt ht=>qjb _ _ _ λe1=>h t (by
    rcases ht with ht|ht|ht
    . exact .inl (Xu.2 (.inr ht))
    . exact .inr ht
    . exact absurd ht.1 e1))
   refine⟨τ',.set h1,λt ht=>h2 t ?_⟩
   rcases ht with ht|ht
   . rcases Xu.1 ht with ht|ht
     . exact .inr (.inr ht)
     . exact .inl ht
   . exact .inr (.inl ht)
 | @upd s V f hf v k U U' a R W hv _ ih=>
   intro τ X h;have hg:=getc (h _ (.inl mS))
   obtain⟨τ',h1,h2⟩:=ih (τ.set s v) (λt=>X t\/t/32=s\/ ∃j∈V,t=32*s+j) (λt ht=>qjb _ _ _ λe1=>by
    rcases ht with ht|ht|ht|ht
    . exact h t (.inl (mT (Xd.2 (.inr ht))))
    . exact h t (.inr ht)
    . exact absurd ht e1
    . exact h t (.inl (mT (Xd.2 (.inl ht)))))
   refine⟨τ',.upd (by rw[hg];exact hv) h1,λt ht=>h2 t ?_⟩
   rcases ht with ht|ht
   . rcases mC ht with rfl|ht
     . omega
     . rcases Xd.1 ht with ht|ht
       . exact .inr (.inr (.inr ht))
       . exact .inl ht
   . exact .inr (.inl ht)
 |ask hp _ ih=>
  intro τ X h;obtain⟨τ',h1,h2⟩:=ih τ X h;exact⟨τ',.ask hp h1,h2⟩
 | @know s b k U U' a R W hb _ ih=>
   intro τ X h;obtain⟨τ',h1,h2⟩:=ih τ (λt=>X t\/t=32*s) (one h)
   exact⟨τ',.know (by grind) h1,λt ht=>h2 t (two ht)⟩
 |call hc _ ih=>
  intro τ X h;obtain⟨τ',h1,h2⟩:=ih τ X h;exact⟨τ',.call hc h1,h2⟩
def SEq.vw {U τ:Slots} (h:SEq U τ) (G:Nat):vw τ G=vw U G:=qau (h _)
def qiv {U τ:Slots} (h: ∀G,vw τ G=vw U G):SEq U τ:=λs=>by
 have:=h (32*s);rw[vw_c,vw_c]at this;injection this
def Run.seq {m:M α} {U U' τ:Slots} {a:α} {R W:List Nat} (h:Run CO m U a U' R W) (e:SEq U τ): ∃τ',Run CO m τ a τ' R W/\SEq U' τ':=by
 obtain⟨τ',h1,h2⟩:=h.local τ (λ_=>True) (λs _=>e.vw s)
 exact⟨τ',h1,qiv λs=>h2 s (.inr trivial)⟩
def qmb {ρT:Type} {C:Nat->List AV->(AV->List AV->Option ρT)->Option ρT} {ρ:ρT}
 (hC: ∀f as k,C f as k=some ρ-> ∃r os,CO f as r os/\k r os=some ρ) (m:M α): ∀(U:Slots) (L:Log) (K:α->Slots->Log->Option ρT),
 runK C m U L K=some ρ-> ∃a U' R W,Run CO m U a U' R W/\ ∃U'' L',SEq U' U''/\(∀s,(s∈R\/s∈L.1)->s∈L'.1)/\(∀s,(s∈W\/s∈L.2)->s∈L'.2)/\K a U'' L'=some ρ:=by
 induction m with
 |ret a=>exact λU L K h=>⟨a,U,[],[],.ret,U,L,λ_=>rfl,λs h=>by simpa using h,λs h=>by simpa using h,h⟩
 |fail=>exact λU L K h=>by cases h
 |get s k ih=>
  intro U L K h;obtain⟨a,U',R,W,h1,U'',L',e1,e2,e3,e4⟩:=ih _ U _ K h;exact⟨a,U',_,W,.get h1,U'',L',e1,λt ht=>e2 t (by grind),λt ht=>e3 t ht,e4⟩
 |view s j k ih=>
  intro U L K h;obtain⟨a,U',R,W,h1,U'',L',e1,e2,e3,e4⟩:=ih _ U _ K h;exact⟨a,U',_,W,.view h1,U'',L',e1,λt ht=>e2 t (by grind),λt ht=>e3 t ht,e4⟩
 |set s v k ih=>
  intro U L K h;obtain⟨a,U',R,W,h1,U'',L',e1,e2,e3,e4⟩:=ih _ _ K h
  exact⟨a,U',_,_,.set h1,U'',L',e1,λt ht=>e2 t (by
   rcases ht with ht|ht
   . exact(Xu.1 ht).elim (λh=> .inr (Xu.2 (.inl h))) .inl
   . exact .inr (Xu.2 (.inr ht))),
   fun t ht=>e3 t (by
    rcases ht with ht|ht
    . exact(Xu.1 ht).elim (λh=> .inr (Xu.2 (.inl h))) .inl
    . exact .inr (Xu.2 (.inr ht))),e4⟩
 |upd s V g hg k ih=>
  intro U L K h;simp only[runK]at h;split at h
  . rename_i v hv;obtain⟨a,U',R,W,h1,U'',L',e1,e2,e3,e4⟩:=ih _ _ K h
    exact⟨a,U',_,_,.upd hv h1,U'',L',e1,λt ht=>e2 t (by
     rcases ht with ht|ht
     . rcases mC ht with rfl|ht
       . grind
       . exact(Xd.1 ht).elim (λh=> .inr (mT (Xd.2 (.inl h)))) .inl
     . exact .inr (mT (Xd.2 (.inr ht)))),
     fun t ht=>e3 t (by
      rcases ht with ht|ht
      . exact(Xd.1 ht).elim (λh=> .inr (Xd.2 (.inl h))) .inl
      . exact .inr (Xd.2 (.inr ht))),e4⟩
  . cases h
 |ask p d k ih=>
  intro U L K h;by_cases hp:p
  . rw[runK,iP hp]at h;obtain⟨a,U',R,W,h1,rest⟩:=ih _ _ K h;exact⟨a,U',R,W,.ask hp h1,rest⟩
  . rw[runK,iN' hp]at h;cases h
 |know s k ih=>
  intro U L K h;simp only[runK]at h;split at h
  . rename_i b hb;have hh:runK C (k b) (U.set s (.bool b)) ((32*s)::L.1,L.2) K=some ρ:=by cases b<;>exact h
    obtain⟨a,U',R,W,h1,U'',L',e1,e2,e3,e4⟩:=ih _ _ _ K hh
    have hs:SEq (U.set s (.bool b)) U:=λt=>by
     by_cases e:t=s
     . subst e;rw[qh,hb]
     . rw[qg _ _ e]
    obtain⟨τ',g1,g2⟩:=h1.seq hs;exact⟨a,τ',_,W,.know hb g1,U'',L',λt=>by rw[g2 t];exact e1 t,λt ht=>e2 t (by grind),λt ht=>e3 t ht,e4⟩
  . cases h
 |call f as k ih=>
  intro U L K h;obtain⟨r,os,hco,h⟩:=hC _ _ _ h;obtain⟨a,U',R,W,h1,rest⟩:=ih _ _ _ _ K h;exact⟨a,U',R,W,.call hco h1,rest⟩
end
section
variable {CO:qx} {α β':Type} {U U':Slots} {R W:List Nat}
def Run.bind' {m:M α} {f:α->M β'} {b:β'} (h:Run CO (m>>=f) U b U' R W):
 ∃a U1 R1 W1 R2 W2,Run CO m U a U1 R1 W1/\Run CO (f a) U1 b U' R2 W2:=by
 obtain⟨a,U1,R1,W1,R2,W2,h1,h2,_,_⟩:=Run.bind (m:=m) (f:=f) h
 grind
abbrev kA:=@Run.bind'
def Run.pure' {a b:α} (h:Run CO (Pure.pure a:M α) U b U' R W):b=a/\U'=U:=by cases h;exact⟨rfl,rfl⟩
abbrev kB:=@Run.pure'
def Run.mget' {s:Nat} {v:AV} (h:Run CO (mget s) U v U' R W):v=U.get s/\U'=U:=by
 cases h with
 |get h=>cases h;exact⟨rfl,rfl⟩
abbrev kD:=@Run.mget'
def Run.mview' {s j:Nat} {v:Option AV} (h:Run CO (mview s j) U v U' R W):v=vwf s j (U.get s)/\U'=U:=by
 cases h with
 |view h=>cases h;exact⟨rfl,rfl⟩
abbrev kF:=@Run.mview'
def Run.mupd' {s:Nat} {V:List Nat} {f:AV->Option AV} {hf: ∀a b,f a=some b-> ∀j,j∉V->vwf s j b=vwf s j a} {u:Unit} (h:Run CO (mupd s V f hf) U u U' R W): ∃v,f (U.get s)=some v/\U'=U.set s v:=by
 cases h with
 |upd hv h=>cases h;exact⟨_,hv,rfl⟩
abbrev kH:=@Run.mupd'
def Run.mset' {s:Nat} {v:AV} {u:Unit} (h:Run CO (mset s v) U u U' R W):U'=U.set s v:=by
 cases h with
 |set h=>cases h;rfl
abbrev kE:=@Run.mset'
def Run.mask' {p:Prop} [Decidable p] {u:Unit} (h:Run CO (mask p) U u U' R W):p/\U'=U:=by
 cases h with
 |ask hp h=>cases h;exact⟨hp,rfl⟩
abbrev kG:=@Run.mask'
def Run.mknow' {s:Nat} {b:Bool} (h:Run CO (mknow s) U b U' R W):U.get s= .bool b/\U'=U:=by
 cases h with
 |know hb h=>cases h;exact⟨hb,rfl⟩
def Run.mopt' {x:Option α} {v:α} (h:Run CO (mopt x) U v U' R W):x=some v/\U'=U:=by
 cases x with
 |none=>cases h
 |some y=>cases h;exact⟨rfl,rfl⟩
def Run.ofOpt' {x:Option α} {f:α->M β'} {b:β'} (h:Run CO (M.ofOpt x f) U b U' R W): ∃y,x=some y/\Run CO (f y) U b U' R W:=by
 cases x with
 |none=>cases h
 |some y=>exact⟨y,rfl,h⟩
def Run.fail' {a:α} (h:Run CO M.fail U a U' R W):False:=by cases h
abbrev kC:=@Run.fail'
def Run.mcall' {f:Nat} {as:List AV} {x:AV×List AV} (h:Run CO (mcall f as) U x U' R W):CO f as x.1 x.2/\U'=U:=by
 cases h with
 |call hc h=>cases h;exact⟨hc,rfl⟩
end
def CellsRel.map {β:Beta} {who:Who} {w:World} {cells:List AV} {arr:Array Value} (f:AV->AV)
 (hf: ∀c∈cells,∀v,RelC β who w c v->RelC β who w (f c) v) (h:CellsRel β who w cells arr):CellsRel β who w (cells.map f) arr:=
 ⟨by simp[h.1],λj hj=>by
   have hj':j<cells.length:=by simpa using hj
   simp only[zA1];exact hf _ (zI hj') _ (h.2 j hj')⟩
section
variable {β:Beta} {who:Who} {w:World}
def RelN.ref {n:Nat} {t:Ty} {xs:List (Den t)} {v:Value} {sz:Nat} (h:RelN β who w n t xs v):q03 (β n) sz none v:=by
 obtain⟨h1,h2⟩:=h;refine⟨h1,?_⟩
 grind
def RelDp.ref {n:Nat} {t:Ty} {xs:List (List (Den t))} {h:Option Nat} {v:Value} (hr:RelDp β who w n t xs h v):DrVal (β n) .whole v:=by
 obtain⟨h1,h2⟩:=hr;rcases h2 with⟨e1,_⟩|⟨b,o,cap,arr,el,e1,_⟩<;>exact⟨h1,by rw[<-h1,e1];exact⟨_,_,_,rfl⟩⟩
def RelDp.refl' {n:Nat} {t:Ty} {xs:List (List (Den t))} {h:Option Nat} {v:Value} (hr:RelDp β who w n t xs h v):DrVal (β n) (.lenw xs.length) v:=by
 obtain⟨h1,h2⟩:=hr;rcases h2 with⟨e1,rfl⟩|⟨b,o,cap,arr,el,e1,_⟩<;>first|exact⟨h1,.inl ⟨e1,rfl⟩⟩|exact⟨h1,.inr ⟨b,o,cap,e1⟩⟩
def RelDq.ref {n sz:Nat} {t:Ty} {xs:List (Den t)} {h:Option Nat} {v:Value} (hr:RelDq β who w n t xs h v):q03 (β n) sz none v:=by
 obtain⟨h1,h2⟩:=hr;rcases h2 with⟨e1,_⟩|⟨b,o,cap,arr,el,e1,_⟩<;>exact⟨h1,by rw[<-h1,e1];exact⟨_,_,_,rfl⟩⟩
def q91 {s:Nat} {c:AV} {v:Value} (h:RelC β who w c v):RelC β who w (Qr s c) v:=by
 cases c with
 |sl o t xs=>
  cases o with
  |nm n=>exact RelN.ref (sz:=t.size) h
  |_=>exact h
 |dp n t xs hh=>exact RelDp.refl' h
 |dq n t xs hh=>trivial
 |fd n t xs hh=>exact RelDp.refl' h.1
 |mm n t xs o=>cases o with
  |false=>obtain⟨h1,b,o,cap,arr,el,e1,_⟩:=h;exact⟨h1,b,o,cap,e1⟩
  |true=>obtain⟨ys,_,h1,b,es,h2,_⟩:=h;exact⟨h1,some b,h2⟩
 |dr s n k=>cases k<;>first|exact h|trivial
 |wn n t xs=>exact RelN.ref (sz:=t.size) h.1
 |_=>exact h
def q36 {s:Nat} {c:AV}:qc (Qr s c)=[]:=by
 cases c with
 |sl o t xs=>cases o<;>rfl
 |mm n t xs o=>cases o<;>rfl
 |dr s n k=>cases k<;>rfl
 |_=>rfl
def q8d {s:Nat} {c:AV}: ∀n∈occC (Qr s c),n∈occC c:=by
 intro n hn;cases c with
 |sl o t xs=>cases o<;>exact hn
 |wn m t xs=>exact zJ.2 (.inl (zA.1 hn))
 |dq m t xs hh=>cases hn
 |fd m t xs hh=>exact zJ.2 (.inl (zA.1 hn))
 |mm m t xs o=>cases o<;>first|exact hn|cases hn
 |dr s m k=>cases k<;>first|exact hn|cases hn
 |_=>exact hn
def Q9 {cells:List AV} {f:AV->List Nat} (h: ∀c∈cells,f c=[]):cells.flatMap f=[]:=by
 simp_all
def q61 {s:Nat} {av v:AV} {c:Value} (hal:alias s av=some v) (h:Rel β who w av c):
 Rel β who w v c/\names v=[]/\ ∀n∈occ v,n∈occ av:=by
 cases av with
 |dead=>simp only[alias,zH]at hal;subst hal;exact⟨h,rfl,λm hm=>hm⟩
 |tup vs=>cases hal
 |fd n t xs hh=>cases hal
 |mm n t xs o=>cases hal
 |dq n t xs hh=>simp only[alias,zH]at hal;subst hal;exact⟨RelDq.ref (sz:=t.size) h,rfl,λm hm=>hm⟩
 |bx o cells=>
  cases o with
  |nm n=>
   simp only[alias,zH]at hal;subst hal;obtain⟨h0,b,arr,el,e1,_⟩:=h;refine⟨.inr ⟨b,?_,rfl,?_⟩,rfl,?_⟩
   . rw[<-h0];exact e1
   . exact e1
   . intro m hm;simp only[occ,occA,occC,zA]at hm;subst hm;simp[occ,occA]
  |_=>cases hal
 |agg cells=>
  simp only[alias,zH]at hal;subst hal;obtain⟨arr,e1,e2⟩:=h;refine⟨⟨arr,e1,e2.map _ (λc _ v hv=>q91 hv)⟩,?_,?_⟩
  . simp only[names,qi];exact Q9 λc hc=>by obtain⟨d,_,rfl⟩:=zM.1 hc;exact q36
  . intro n hn;simp only[occ,occA,zC,zM]at hn⊢;obtain⟨c,⟨d,hd,rfl⟩,hn⟩:=hn;exact⟨d,hd,q8d n hn⟩
 |sl o t xs=>
  cases o with
  |nm n=>
   simp only[alias,zH]at hal;subst hal;exact⟨RelN.ref (sz:=t.size) h,rfl,λm hm=>hm⟩
  |imm=>simp only[alias,zH]at hal;subst hal;exact⟨h,rfl,λm hm=>hm⟩
  |nl=>simp only[alias,zH]at hal;subst hal;exact⟨h,rfl,λm hm=>hm⟩
  |inn=>simp only[alias,zH]at hal;subst hal;exact⟨h,rfl,λm hm=>hm⟩
 |dp n t xs hh=>simp only[alias,zH]at hal;subst hal;exact⟨RelDp.ref h,rfl,λm hm=>hm⟩
 |wn n t xs=>
  simp only[alias,zH]at hal;subst hal;exact⟨RelN.ref (sz:=t.size) h.1,rfl,λm hm=>zJ.2 (.inl (zA.1 hm))⟩
 |_=>simp only[alias,zH]at hal;subst hal;exact⟨h,rfl,λm hm=>hm⟩
def q1x (v:Value):Rel β who w (q5m v) v/\names (q5m v)=[]/\occ (q5m v)=[]:=by
 cases v<;>first|exact⟨rfl,rfl,rfl⟩|exact⟨⟨rfl,rfl⟩,rfl,rfl⟩|exact⟨trivial,rfl,rfl⟩
end
section
variable {CO:qx} {E:Entry} {D:Nat->Prop} {β:Beta} {who:Who} {U U':Slots} {hd:List (AV×Value)} {a:Act} {w:World} {R W:List Nat}
def Run.rd {x:Operand} {v:AV} (h:Run CO (rd x) U v U' R W) (S:Sim E D β who U hd a w):U'=U/\Sim E D β who U ((v,a.eval x)::hd) a w:=by
 cases x with
 |tmp t=>
  obtain⟨av,U1,_,_,_,_,h1,h2⟩:=kA h;obtain⟨rfl,rfl⟩:=kF h1;obtain⟨e,rfl⟩:=Run.mopt' h2;obtain⟨g1,g2,g3⟩:=q61 e (S.rel t);exact⟨rfl,S.take0 g1 g2 (λn hn=>S.occ t n (g3 n hn))⟩
 |const u=>
  obtain⟨rfl,rfl⟩:=kB h;obtain⟨g1,g2,g3⟩:=q1x (β:=β) (who:=who) (w:=w) u;exact⟨rfl,S.take0 g1 g2 (λn hn=>by rw[g3]at hn;cases hn)⟩
 |global g=>exact(kC h).elim
 |func f=>
  obtain⟨rfl,rfl⟩:=kB h;exact⟨rfl,S.take0 (v:= .lit (.func (.func f) #[] #[])) ⟨rfl,rfl⟩ rfl (λn hn=>by cases hn)⟩
def Qw {v:AV} (h: ¬q3m v=true):names v=[]:=by
 unfold q3m at h
 grind
def Run.rdT {x:Operand} {v:AV} (h:Run CO (rdT x) U v U' R W) (S:Sim E D β who U hd a w):Sim E D β who U' ((v,a.eval x)::hd) a w:=by
 cases x with
 |tmp t=>
  obtain⟨av,U1,_,_,_,_,h1,h2⟩:=kA h;obtain⟨rfl,rfl⟩:=kD h1
  have key: ∀{R W:List Nat},Run CO (if q3m (U1.get t)then(do mset t .dead;Pure.pure (U1.get t))else Pure.pure (U1.get t):M AV) U1 v U' R W->Sim E D β who U' ((v,a.eval (.tmp t))::hd) a w:=by
   intro R W h2;split at h2
   . obtain⟨_,U2,_,_,_,_,h3,h4⟩:=kA h2;have:=kE h3;subst this;obtain⟨rfl,rfl⟩:=kB h4;exact S.takeAll t
   . rename_i hno;obtain⟨rfl,rfl⟩:=kB h2;exact S.take0 (S.rel t) (Qw hno) (S.occ t)
  split at h2
  . rename_i vs hvs;obtain⟨_,U2,_,_,_,_,h3,h4⟩:=kA h2;have:=kE h3;subst this;obtain⟨rfl,rfl⟩:=kB h4;have:=S.takeAll t;rw[hvs]at this;exact this
  . exact key h2
 |const u=>obtain⟨rfl,g⟩:=Run.rd (x:= .const u) h S;exact g
 |global g=>exact(kC h).elim
 |func f=>obtain⟨rfl,g⟩:=Run.rd (x:= .func f) h S;exact g
end
def unown (who:Who) (ns:List Nat):Who:=λb=>match who b with
 |some n=>if n∈ns then none else some n
 |none=>none
def Xq {who:Who} {ns:List Nat} {b:Nat} (h:who b=none):unown who ns b=none:=by simp[unown,h]
def Jq {who:Who} {ns:List Nat} {b n:Nat} (h:who b=some n) (hn:n∈ns):unown who ns b=none:=by simp[unown,h,hn]
def Zq {who:Who} {ns:List Nat} {b n:Nat} (h:who b=some n) (hn:n∉ns):unown who ns b=some n:=by simp[unown,h,hn]
def Y3 {who:Who} {ns:List Nat} {b n:Nat} (h:unown who ns b=some n):who b=some n:=by
 unfold unown at h
 grind
section
variable {β:Beta} {who:Who} {w:World}
def Keeps.unown {ns:List Nat} {as os:List Nat} (h: ∀n∈as,n∉ns):Keeps β who w β (unown who ns) w as os:=
 ⟨λ_ _=>rfl,λn hn b hb=>⟨Zq hb (h n hn),rfl⟩,λb hb _=>⟨Xq hb,rfl⟩,zD _⟩
def RelN.freeze {ns:List Nat} {n:Nat} {t:Ty} {xs:List (Den t)} {v:Value} (h:RelN β who w n t xs v) (hn:n∈ns):SlI (unown who ns) w t xs v:=by
 obtain⟨_,h⟩:=h;rcases h with h|⟨b,o,cap,arr,el,e1,e2,e3,e4,e5,e6⟩
 . exact .inl h
 . have hlt:b<w.heap.size:=by
    rcases zq b w.heap.size with h|h
    . exact h
    . grind
   exact .inr ⟨b,o,cap,e1,Jq e5 hn,hlt,e4,Elems.keep (λb hb _=>⟨Xq hb,rfl⟩) (zD _) rfl e6⟩
def RelDp.freeze {ns:List Nat} {n:Nat} {t:Ty} {xs:List (List (Den t))} {v:Value} (h:RelDp β who w n t xs none v) (hn:n∈ns):SlI (unown who ns) w (.sl false t) xs v:=by
 obtain⟨_,h2⟩:=h;rcases h2 with h2|⟨b,o,cap,arr,el,e1,e2,e3,e4,e5,e6,_⟩
 . exact .inl h2
 have lt: ∀{b:Nat} {arr:Array Value} {el:TypeId},w.heap[b]? =some (.cells arr el (0,0))->b<w.heap.size:=λ{b} _ _ h=>by
  grind
 refine .inr ⟨b,o,cap,e1,Jq e5 hn,lt e2,e4,λi hi=> ?_⟩
 obtain⟨f1,f2⟩:=e6 i hi (by simp)
 refine⟨dpv (β n) (i+1),?_,?_⟩
 . show cellAt w b (o+i*1) 0=some (dpv (β n) (i+1))
   rw[<-f1];simp[cellAt]
 . rcases f2 with⟨k1,k2⟩|⟨bi,oi,ci,ar,l,k1,k2,k3,k4,k5,k6,k7⟩
   . exact .inl ⟨k1,k2⟩
   . exact .inr ⟨bi,oi,ci,k1,Jq k5 hn,lt k2,k4,Elems.keep (λb hb _=>⟨Xq hb,rfl⟩) (zD _) rfl k7⟩
def RelQ.imm {who':Who} {n b d:Nat} {g g':Nat->Option Value} (h0: ∀b,who b=none->who' b=none) (hn: ∀b,who b=some n->who' b=none) (hg: ∀k,g' k=g (d+k)): ∀{t:Ty} {x:Den t} {j:Nat},
 RelQ who w n b none t x g (d+j)->RelI who' w t x g' j
 | .int k,x,j,h=>by simp only[RelI,RelQ]at*;rw[hg];exact h
 | .bool,x,j,h=>by simp only[RelI,RelQ]at*;rw[hg];exact h
 | .pr s t,x,j,h=>⟨RelQ.imm h0 hn hg h.1,RelQ.imm h0 hn hg (by rw[<-Nat.add_assoc];exact h.2)⟩
 | .sl _ t,xs,j,h=>by
   simp only[RelQ]at h;rcases h with h|⟨v,q1,q2⟩
   . cases h
   refine⟨v,by rw[hg];exact q1,?_⟩
   rcases q2 with q2|⟨bi,oi,ci,ar,l,k1,k2,k3,k4,k5,k6,k7⟩
   . exact .inl q2
   . exact .inr ⟨bi,oi,ci,k1,hn bi k5,by grind,k4,λi hi=>RelI.keep (λb hb _=>⟨h0 b hb,rfl⟩) (zD _) (k7 i hi)⟩
def RelDq.slI {who':Who} {n:Nat} {t:Ty} {xs:List (Den t)} {v:Value} (h:RelDq β who w n t xs none v) (h0: ∀b,who b=none->who' b=none) (hn: ∀b,who b=some n->who' b=none):SlI who' w t xs v:=by
 obtain⟨_,h2⟩:=h;rcases h2 with h2|⟨b,o,cap,arr,el,e1,e2,e3,e4,e5,e6,_⟩
 . exact .inl h2
 refine .inr ⟨b,o,cap,e1,hn b e5,by grind,e4,λi hi=> ?_⟩
 exact RelQ.imm (d:=i*t.size) (g:=cellAt w b o) h0 hn (λk=>by simp only[cellAt,zM1]) (e6 i hi)
def q72 {ns:List Nat} {c:AV} {v:Value} (h:RelC β who w c v) (hn: ∀n∈qc c,n∈ns):RelC β (unown who ns) w (Ye c) v:=by
 cases c with
 |sl o t xs=>
  cases o with
  |nm n=>exact RelN.freeze h (hn n (by simp[qc]))
  |imm=>exact SlI.keep (λb hb _=>⟨Xq hb,rfl⟩) (zD _) h
  |nl=>exact h
  |inn=>exact h
 |dead=>trivial
 |ref s n sz win=>exact h
 |ptr s n sz i j=>exact h
 |iptr g t xs i j=>exact RelC.keep (β:=β) (β':=β) (av:= .iptr g t xs i j) (Keeps.unown (λn h=>by simp[qc]at h)) h
 |dp n t xs hh=>
  cases hh with
  |none=>exact RelDp.freeze h (hn n (by simp[qc]))
  |some k=>trivial
 |dq n t xs hh=>
  cases hh with
  |none=>exact RelDq.slI h (λb hb=>Xq hb) (λb hb=>Jq hb (hn n (by simp[qc])))
  |some k=>trivial
 |wn n t xs=>trivial
 |fd n t xs hh=>trivial
 |mm n t xs o=>trivial
 |_=>exact h
def q2l {c:AV}:qc (Ye c)=[]:=by
 cases c with
 |sl o t xs=>cases o<;>rfl
 |dp n t xs hh=>cases hh<;>rfl
 |dq n t xs hh=>cases hh<;>rfl
 |_=>rfl
def q6e {c:AV} {n:Nat} (h:n∈occC (Ye c)):n∈occC c:=by
 cases c with
 |sl o t xs=>cases o<;>first|exact h|(simp[Ye,occC]at h)
 |dp m t xs hh=>cases hh<;>simp[Ye,occC]at h
 |dq m t xs hh=>cases hh<;>simp[Ye,occC]at h
 |wn n t xs=>cases h
 |fd n t xs hh=>cases h
 |mm n t xs o=>cases h
 |_=>exact h
def q7t {ns:List Nat} {av:AV} {v:Value} (h:Rel β who w av v) (hn: ∀n∈names av,n∈ns) (hb: ∀o cs,av≠ .bx o cs) (ht: ∀vs,av≠ .tup vs):
 Rel β (unown who ns) w (freeze av) v:=by
 cases av with
 |tup vs=>exact absurd rfl (ht vs)
 |bx o cs=>exact absurd rfl (hb o cs)
 |agg cells=>
  obtain⟨arr,e1,e2⟩:=h;refine⟨arr,e1,by simp[e2.1],λj hj=> ?_⟩
  have hj':j<cells.length:=by simpa using hj
  simp only[zA1];exact q72 (e2.2 j hj') (λn hm=>hn n (zC.2 ⟨_,zI hj',hm⟩))
 |sl o t xs=>
  cases o with
  |nm n=>exact RelN.freeze h (hn n (by simp[names,qi,qc]))
  |imm=>exact SlI.keep (λb hb _=>⟨Xq hb,rfl⟩) (zD _) h
  |nl=>exact h
  |inn=>exact h
 |dead=>trivial
 |iptr g t xs i j=>exact RelC.keep (β:=β) (β':=β) (av:= .iptr g t xs i j) (Keeps.unown (λn h=>by simp[qc]at h)) h
 |dp n t xs hh=>
  cases hh with
  |none=>exact RelDp.freeze h (hn n (by simp[names,qi,qc]))
  |some k=>trivial
 |dq n t xs hh=>
  cases hh with
  |none=>exact RelDq.slI h (λb hb=>Xq hb) (λb hb=>Jq hb (hn n (by simp[names,qi,qc])))
  |some k=>trivial
 |wn n t xs=>trivial
 |fd n t xs hh=>trivial
 |mm n t xs o=>trivial
 |_=>exact h
def Yw {av:AV} (hb: ∀o cs,av≠ .bx o cs) (ht: ∀vs,av≠ .tup vs):names (freeze av)=[]:=by
 cases av with
 |tup vs=>exact absurd rfl (ht vs)
 |bx o cs=>exact absurd rfl (hb o cs)
 |agg cells=>exact Q9 λc hc=>by obtain⟨d,_,rfl⟩:=zM.1 hc;exact q2l
 |sl o t xs=>cases o<;>rfl
 |dp n t xs hh=>cases hh<;>rfl
 |dq n t xs hh=>cases hh<;>rfl
 |_=>rfl
def q14 {av:AV} {n:Nat} (h:n∈occ (freeze av)):n∈occ av:=by
 cases av with
 |agg cells=>
  simp only[freeze,occ,occA,zC,zM]at h⊢;obtain⟨c,⟨d,hd,rfl⟩,hn⟩:=h;exact⟨d,hd,q6e hn⟩
 |sl o t xs=>cases o<;>first|exact h|(simp[freeze,occ,occA,occC]at h)
 |dp m t xs hh=>cases hh<;>simp[freeze,occ,occA,occC]at h
 |dq m t xs hh=>cases hh<;>simp[freeze,occ,occA,occC]at h
 |wn n t xs=>cases h
 |fd n t xs hh=>cases h
 |mm n t xs o=>cases h
 |_=>exact h
end
section
variable {CO:qx} {E:Entry} {D:Nat->Prop} {β:Beta} {who:Who} {U U':Slots} {hd:List (AV×Value)} {a:Act} {w:World} {R W:List Nat}
def Sim.freeze (S:Sim E D β who U hd a w) (t:Nat) (hb: ∀o cs,U.get t≠ .bx o cs) (ht: ∀vs,U.get t≠ .tup vs):
 ∃who',Sim E D β who' (U.set t (freeze (U.get t))) ((freeze (U.get t),a.tmps.getD t undef)::hd) a w:=by
 refine⟨unown who (names (U.get t)),?_⟩;have hf:=q7t (ns:=names (U.get t)) (S.rel t) (λn h=>h) hb ht
 have hn:=Yw hb ht
 have S1:Sim E D β (unown who (names (U.get t))) (U.set t .dead) hd a w:=by
  have S0:=(S.takeAll t).drop rfl
  refine S0.world (λs=> ?_) (λx hx=> ?_) (λb n hb=>S.wsz b n (Y3 hb)) (zD _) (λ_ _ _=>rfl) (λb n hb=>S.fr1 b n (Y3 hb))
   (λb hb=>Zq (S.fr3 b hb) (λh=>S.dfn (S.occ t _ (qj h))))
  . refine(S0.rel s).keep (Keeps.unown λn h h'=> ?_)
    by_cases e:s=t
    . subst e;rw[qh]at h;simp[names,qi,qc]at h
    . rw[qg _ _ e]at h;exact e (S.dis s t n h h')
  . exact(S0.hrel x hx).keep (Keeps.unown λn h h'=>S.hdis x hx n h t h')
 have S2:=S1.abs (s:=t) (v:=Vs.freeze (U.get t)) hf (λn h=>by rw[hn]at h;cases h) (by grind) (λn h=>S.occ t n (q14 h))
 have S3:=S2.take0 hf hn (λn h=>S.occ t n (q14 h))
 refine S3.ext λs=> ?_
 by_cases e:s=t
 . subst e;rw[qh,qh]
 . rw[qg _ _ e,qg _ _ e,qg _ _ e]
def Sim.frzCells (S:Sim E D β who U hd a w) (t:Nat) {n:Nat} {cells:List AV} (hc:U.get t= .bx (.nm n) cells):
 ∃who',Sim E D β who' (U.set t (.bx (.nm n) (cells.map Ye))) hd a w:=by
 have hr:Rel β who w (.bx (.nm n) cells) (a.tmps.getD t undef):=hc▸S.rel t;obtain⟨e0,b,arr,el,e1,e2,e3,e4⟩:=hr;have hnm:names (U.get t)=n::cells.flatMap qc:=by rw[hc];rfl
 have hnot:n∉cells.flatMap qc:=by
  have:=S.nod t;rw[hnm]at this;exact(zU.1 this).1
 have hocc:D n:=S.occ t n (by rw[hc];exact mS)
 have hdd:(cells.map λ_=>AV.dead).flatMap qc=[]:=Q9 λc hc=>by obtain⟨d,_,rfl⟩:=zM.1 hc;rfl
 have hdo:(cells.map λ_=>AV.dead).flatMap occC=[]:=Q9 λc hc=>by obtain⟨d,_,rfl⟩:=zM.1 hc;rfl
 have hff:(cells.map Ye).flatMap qc=[]:=Q9 λc hc=>by obtain⟨d,_,rfl⟩:=zM.1 hc;exact q2l
 have S0:=S.abs (s:=t) (v:= .bx (.nm n) (cells.map λ_=>AV.dead)) ⟨e0,b,arr,el,e1,e2,e3,by rw[e4.1,zh1],λj hj=>by rw[zA1];trivial⟩
  (fun k hk=>by
    have hk':k∈n::(cells.map λ_=>AV.dead).flatMap qc:=hk
    rw[hdd]at hk';rw[hnm,zA.1 hk'];exact mS)
  (by show(n::(cells.map λ_=>AV.dead).flatMap qc).Nodup;rw[hdd];simp)
  (fun k hk=>by
    have hk':k∈n::(cells.map λ_=>AV.dead).flatMap occC:=hk
    rw[hdo]at hk';rw[zA.1 hk'];exact hocc)
 have hn0:names ((U.set t (.bx (.nm n) (cells.map λ_=>AV.dead))).get t)=[n]:=by
  rw[qh];show n::(cells.map λ_=>AV.dead).flatMap qc=[n]
  rw[hdd]
 have S1:Sim E D β (unown who (cells.flatMap qc)) (U.set t (.bx (.nm n) (cells.map λ_=>AV.dead))) hd a w:=by
  refine S0.world (λs=> ?_) (λx hx=> ?_) (λb n hb=>S.wsz b n (Y3 hb)) (zD _) (λ_ _ _=>rfl) (λb n hb=>S.fr1 b n (Y3 hb))
   (λb hb=>Zq (S.fr3 b hb) (λh=>S.dfn (S.occ t _ (qj (by rw[hnm];exact mT h)))))
  . refine(S0.rel s).keep (Keeps.unown λk h h'=> ?_)
    by_cases e:s=t
    . subst e;rw[hn0,zA]at h;exact hnot (h▸h')
    . rw[qg _ _ e]at h;exact e (S.dis s t k h (by rw[hnm];exact mT h'))
  . exact(S0.hrel x hx).keep (Keeps.unown λk h h'=>S.hdis x hx k h t (by rw[hnm];exact mT h'))
 refine⟨_,(S1.abs (s:=t) (v:= .bx (.nm n) (cells.map Ye)) ⟨e0,b,arr,el,e1,e2,Zq e3 hnot,by rw[e4.1,zh1],λj hj=> ?_⟩ (λk hk=> ?_) ?_ (λk hk=> ?_)).ext λs=> ?_⟩
 . rw[zA1];rw[zh1]at hj;exact q72 (e4.2 j hj) (λk hm=>zC.2 ⟨_,zI hj,hm⟩)
 . have hk':k∈n::(cells.map Ye).flatMap qc:=hk;rw[hff]at hk';rw[hn0];exact hk'
 . show(n::(cells.map Ye).flatMap qc).Nodup
   rw[hff];simp
 . have hk':k∈n::(cells.map Ye).flatMap occC:=hk;rcases mC hk' with e|e
   . rw[e];exact hocc
   . obtain⟨c,h1,h2⟩:=zC.1 e;obtain⟨d,h3,rfl⟩:=zM.1 h1;exact S.occ t k (by rw[hc];exact mT (zC.2 ⟨d,h3,q6e h2⟩))
 . by_cases e:s=t
   . subst e;rw[qh,qh]
   . rw[qg _ _ e,qg _ _ e,qg _ _ e]
def q6r {p:AV} {x:Unit} (h:Run CO (frzBx p) U x U' R W) (S:Sim E D β who U hd a w): ∃who',Sim E D β who' U' hd a w:=by
 unfold frzBx at h;split at h
 . rename_i s n _ _ _;obtain⟨av,U1,_,_,_,_,h1,h2⟩:=kA h;obtain⟨rfl,rfl⟩:=kD h1;split at h2
   . rename_i m cells hg;split at h2
     . have:=kE h2;subst this;exact S.frzCells s hg
     . exact(kC h2).elim
   . exact(kC h2).elim
 . exact(kC h).elim
def Run.rdF {x:Operand} {v:AV} (h:Run CO (rdF x) U v U' R W) (S:Sim E D β who U hd a w):names v=[]/\(∀o cs,v≠ .bx o cs)/\ ∃who',Sim E D β who' U' ((v,a.eval x)::hd) a w:=by
 cases x with
 |tmp t=>
  obtain⟨av,U1,_,_,_,_,h1,h2⟩:=kA h;obtain⟨rfl,rfl⟩:=kD h1;split at h2
  . exact(kC h2).elim
  . exact(kC h2).elim
  . exact(kC h2).elim
  . exact(kC h2).elim
  . exact(kC h2).elim
  . exact(kC h2).elim
  . exact(kC h2).elim
  . rename_i g2 g3 g4 g5 g6 g7 g8;split at h2
    . obtain⟨_,U2,_,_,_,_,h3,h4⟩:=kA h2;have:=kE h3;subst this;obtain⟨rfl,rfl⟩:=kB h4;have hb: ∀o cs,U1.get t≠ .bx o cs:=λo cs e=>g3 o cs e
      refine⟨Yw hb g2,?_,S.freeze t hb g2⟩;intro o cs e;have hb':=hb;cases hav:U1.get t with
      |bx o' cs'=>exact hb o' cs' hav
      |sl o' t' xs=>rw[hav]at e;cases o'<;>cases e
      |agg cells=>rw[hav]at e;cases e
      |dp n t xs hh=>rw[hav]at e;cases hh<;>cases e
      |dq n t xs hh=>rw[hav]at e;cases hh<;>cases e
      |_=>rw[hav]at e;cases e
    . rename_i hno;obtain⟨rfl,rfl⟩:=kB h2;exact⟨Qw hno,g3,who,S.take0 (S.rel t) (Qw hno) (S.occ t)⟩
 |const u=>
  obtain⟨rfl,rfl⟩:=kB h;obtain⟨g1,g2,g3⟩:=q1x (β:=β) (who:=who) (w:=w) u;refine⟨g2,?_,who,S.take0 g1 g2 (λn hn=>by rw[g3]at hn;cases hn)⟩
  intro o cs e;cases u<;>cases e
 |global g=>exact(kC h).elim
 |func f=>
  obtain⟨rfl,rfl⟩:=kB h;exact⟨rfl,(λo cs e=>by cases e),who,S.take0 (v:= .lit (.func (.func f) #[] #[])) ⟨rfl,rfl⟩ rfl (λn hn=>by cases hn)⟩
def q60 {n:Nat}: ∀{cells:List AV} {k j:Nat},cellOf n cells k=some j->k<=j/\j-k<cells.length/\ ∃t xs,cells.getD (j-k) .dead= .sl (.nm n) t xs
 |c::cs,k,j,h=>by
  simp only[cellOf]at h;split at h
  . rename_i hc;cases h;refine⟨zD _,by simp,?_⟩
    unfold isNm at hc;split at hc
    . simp_all
    . cases hc
  . obtain⟨h1,h2,t,xs,h3⟩:=q60 h
    grind
def Sim.takeCell (S:Sim E D β who U hd a w) {s m n j:Nat} {cells:List AV} {t:Ty} {xs:List (Den t)} (hb:U.get s= .bx (.nm m) cells) (hj:j<cells.length)
 (hc:cells.getD j .dead= .sl (.nm n) t xs) {c:Value} (hv:c=β n):
 Sim E D β who (U.set s (.bx (.nm m) (cells.set j .dead))) ((.sl (.nm n) t xs,c)::hd) a w:=by
 have hcj:cells[j]= .sl (.nm n) t xs:=by simpa [List.getD,hj]using hc
 have hr:=S.rel s;rw[hb]at hr;obtain⟨hβ,b,arr,el,e1,e2,e3,e4⟩:=hr
 have hset:cells.set j .dead=cells.take j++[.dead]++cells.drop (j+1):=by
  rw[zN1,iP hj];simp
 have hsp:cells=cells.take j++[.sl (.nm n) t xs]++cells.drop (j+1):=by
  conv=>lhs;rw[<-List.take_append_drop j cells,List.drop_eq_getElem_cons hj,hcj]
  simp
 have hn1:names (.bx (.nm m) cells)=m::(cells.take j).flatMap qc++n::(cells.drop (j+1)).flatMap qc:=by
  conv=>lhs;rw[hsp]
  simp[names,qi,qc]
 have hn2:names (.bx (.nm m) (cells.set j .dead))=m::(cells.take j).flatMap qc++(cells.drop (j+1)).flatMap qc:=by
  rw[hset];simp[names,qi,qc]
 have hNod:=S.nod s;rw[hb,hn1]at hNod;have hcell:=e4.2 j hj;rw[hcj]at hcell
 have hsub: ∀x,x∈names (.bx (.nm m) (cells.set j .dead))->x∈names (.bx (.nm m) cells):=λx hx=>by
  grind
 have S1:=S.abs (s:=s) (v:= .bx (.nm m) (cells.set j .dead)) ⟨hβ,b,arr,el,e1,e2,e3,by rw[e4.1];simp,λk hk=>by
  have hk':k<cells.length:=by simpa using hk
  by_cases e:k=j
  . subst e;simp;trivial
  . rw[zS1 O];exact e4.2 k hk'⟩
  (by rw[hb];exact hsub)
  (by
    grind)
  (by
    intro x hx;refine S.occ s x ?_;rw[hb];rw[hset]at hx;rw[hsp];simp only[Vs.occ,occA,ze1,zJ,zL]at hx⊢;rcases hx with hx|(hx|hx)|hx
    . exact .inl hx
    . exact .inr (.inl (.inl hx))
    . simp[occC]at hx
    . exact .inr (.inr hx))
 have hin:n∈names (U.get s):=by rw[hb,hn1];simp
 exact{S1 with
  hrel:=λy hy=>by
   rcases mC hy with rfl|hy
   . have:RelN β who w n t xs (arr.getD j undef):=hcell;rw[hv,<-this.1];exact this
   . exact S1.hrel y hy
  hnod:=by
   simp only[fC];refine zG.2 ⟨by simp[names,qi,qc],S.hnod,λx h1 y h2=> ?_⟩
   rintro rfl
   obtain⟨z,hz,hxz⟩:=zC.1 h2;simp[names,qi,qc]at h1;subst h1;exact S.hdis z hz _ hxz s hin
  hdis:=λy hy=>by
   rcases mC hy with rfl|hy
   . intro x hx t' ht;simp[names,qi,qc]at hx;subst hx;by_cases e:t'=s
     . subst e;rw[qh,hn2]at ht
       grind
     . rw[qg _ _ e]at ht;exact e (S.dis t' s _ ht hin)
   . exact S1.hdis y hy
  hocc:=λy hy=>by
   rcases mC hy with rfl|hy
   . intro x hx;simp[Vs.occ,occA,occC]at hx;subst hx;exact S.occ s _ (qj hin)
   . exact S1.hocc y hy}
def Run.claim {x:Operand} {v:AV} (h:Run CO (claim x) U v U' R W) (S:Sim E D β who U hd a w):Sim E D β who U' ((v,a.eval x)::hd) a w:=by
 cases x with
 |tmp t=>
  obtain⟨av,U1,_,_,_,_,h1,h2⟩:=kA h;obtain⟨hav,rfl⟩:=kF h1;split at h2
  . rename_i s n sz;obtain⟨bv,U2,_,_,_,_,h3,h4⟩:=kA h2;obtain⟨rfl,rfl⟩:=kD h3
    have hval:a.eval (.tmp t)=β n:=by
     obtain⟨g1,_,_⟩:=q61 (β:=β) (who:=who) (w:=w) (show alias t (U2.get t)=some _ from hav.symm) (S.rel t)
     exact(show q03 (β n) sz none (a.tmps.getD t undef)from g1).1
    split at h4
    . rename_i m ty xs hbv;split at h4
      . rename_i hmn;subst hmn;obtain⟨_,U3,_,_,_,_,h5,h6⟩:=kA h4;have:=kE h5;subst this;obtain⟨rfl,rfl⟩:=kB h6;have h7:=S.takeAll s;rw[hbv]at h7
        have e:a.eval (.tmp t)=a.eval (.tmp s):=by
         have r2:=S.rel s;rw[hbv]at r2;exact hval.trans r2.1.symm
        rw[e];exact h7
      . exact(kC h4).elim
    . rename_i m cells hbv;split at h4
      . rename_i j hj;obtain⟨_,hjl,ty,xs,hce⟩:=q60 hj;simp only[zm3]at hjl hce;obtain⟨_,U3,_,_,_,_,h5,h6⟩:=kA h4;obtain⟨v',hk,this⟩:=kH h5;subst this;obtain⟨rfl,rfl⟩:=kB h6;rw[hbv]at hk;cases hk;rw[hce];exact S.takeCell hbv hjl hce hval
      . exact(kC h4).elim
    . exact(kC h4).elim
  . exact(kC h2).elim
 |const u=>exact(kC h).elim
 |global g=>exact(kC h).elim
 |func f=>exact(kC h).elim
def Run.rdQ {m:Nat} {x:Operand} {v:AV} (h:Run CO (rdQ m x) U v U' R W) (S:Sim E D β who U hd a w): ∃who',Sim E D β who' U' ((v,a.eval x)::hd) a w:=by
 unfold Vs.rdQ at h;split at h
 . exact(Run.rdF h S).2.2
 . exact⟨who,Run.rdT h S⟩
def Run.rdC {m:Nat} {x:Operand} {v:AV} (h:Run CO (rdC m x) U v U' R W) (S:Sim E D β who U hd a w):Sim E D β who U' ((v,a.eval x)::hd) a w:=by
 unfold Vs.rdC at h;split at h
 . exact Run.claim h S
 . exact Run.rdT h S
def Run.rdm {m:Nat} {x:Operand} {v:AV} (h:Run CO (rdm m x) U v U' R W) (S:Sim E D β who U hd a w): ∃who',Sim E D β who' U' ((v,a.eval x)::hd) a w:=by
 match m with
 |0=>obtain⟨rfl,g⟩:=Run.rd h S;exact⟨who,g⟩
 |1=>exact⟨who,Run.rdT h S⟩
 |2=>exact(Run.rdF h S).2.2
 |3=>exact⟨who,Run.claim h S⟩
 |m+4=>exact(Run.rdF h S).2.2
end
def zcVal:ZC->Option Value
 | .int k=>some (.int k 0)
 | .bool=>some (.bool false)
 | .nil _=>some (.slice none 0 0)
 | .mnil=>some (.map none)
 | .other=>none
def Qb:Ty->List Value
 | .int k=>[.int k 0]
 | .bool=>[.bool false]
 | .sl _ _=>[.slice none 0 0]
 | .pr a b=>Qb a++Qb b
 | .opq=>[.map none]
structure EOK (P:Program) (e:Nat) (t:Ty):Prop where
 ok: ∃i z,P.info? e=some i/\i.size=t.size/\i.bytes<=4096/\i.bytes≠0/\i.zero=some z/\z.cells.toList=Qb t
def NoAgg (P:Program) (t:Nat):Prop:= ∃d,P.underlying t=some d/\(match d with| .struct _| .array _ _=>False|_=>True)
def q06 (P:Program) (t:Nat):TD->Prop
 | .int k=>P.underlying t=some (.int k)
 | .bool=>P.underlying t=some .bool
 | .slice e ty=>P.underlying t=some (.slice e)/\EOK P e ty
 | .mslice e _=>P.underlying t=some (.slice e)/\ ∃i,P.info? e=some i/\i.size=1/\i.bytes<=4096/\i.bytes≠0/\i.zero=some (.map none)
 | .map e ty=> ∃kt i arr,P.underlying t=some (.map kt e)/\P.underlying kt=some (.int .i64)/\P.info? e=some i/\i.zero=some (mval ty arr)/\arr.toList=Qb ty
 | .struct fs=> ∃fields:Array Field,P.underlying t=some (.struct fields)/\fields.size=fs.length/\
    ∀j (h:j<fs.length),∃f,fields[j]? =some f/\f.offset=fs[j].1/\ ∃i,P.info? f.type=some i/\i.size=fs[j].2/\(fs[j].2=1->True)
 | .array n _=> ∃e,P.underlying t=some (.array n e)
 | .ptr e=>P.underlying t=some (.pointer e)
 | .string=>P.underlying t=some .string
 | .tab g k xs=>(∃e i,P.underlying t=some (.array xs.length e)/\P.info? e=some i/\i.size=1)/\(g,k,xs)∈qg9 P
 | .other=> ∃d,P.underlying t=some d/\(match d with| .struct _| .array _ _=>False|_=>True)
def EqOK (P:Program) (t n:Nat):Prop:= ∃fields,P.underlying t=some (.struct fields)/\P.stoodInHeld t=false/\P.eqGuardType P.depth t=false/\fields.size=n/\
 ∀j (h:j<fields.toList.length),(fields.toList[j]).name≠ "_" ∧(fields.toList[j]).offset=j∧ ∃k,P.underlying (fields.toList[j]).type=some (.int k)
structure TIok (P:Program) (t:Nat) (ti:TI):Prop where
 info: ∃i,P.info? t=some i/\i.size=ti.cells.length/\ ∀vs,(ti.cells.mapM zcVal)=some vs-> ∃z,i.zero=some z/\z.cells.toList=vs/\((∃arr,z= .agg arr)↔Q5 ti.desc=true)
 desc:q06 P t ti.desc
 eqs:eqTI ti=true->EqOK P t ti.cells.length
 nag: ∀fs fields,ti.desc= .struct fs->P.underlying t=some (.struct fields)-> ∀j (h:j<fs.length) f,fields[j]? =some f->fs[j].2=1->notG ti.cells fs[j].1=true->NoAgg P f.type
def TTok (P:Program) (T:TT):Prop:= ∀t ti,T.at t=some ti->TIok P t ti
def TIok.isAgg {P:Program} {t:Nat} {ti:TI} (h:TIok P t ti) (w:World):(isAgg t).run P w= .ok (Q5 ti.desc) w:=by
 have hd:=h.desc;unfold Go.isAgg;cases hti:ti.desc with
 |int k=>rw[hti]at hd;simp only[q06]at hd;simp[run_underlying hd w,Q5]
 |bool=>rw[hti]at hd;simp only[q06]at hd;simp[run_underlying hd w,Q5]
 |slice e ty=>rw[hti]at hd;simp only[q06]at hd;simp[run_underlying hd.1 w,Q5]
 |struct fs=>rw[hti]at hd;obtain⟨f,hd,_⟩:=hd;simp[run_underlying hd w,Q5]
 |mslice e ty=>rw[hti]at hd;simp only[q06]at hd;simp[run_underlying hd.1 w,Q5]
 |map e ty=>rw[hti]at hd;obtain⟨_,_,_,hd,_⟩:=hd;simp[run_underlying hd w,Q5]
 |array n e=>rw[hti]at hd;obtain⟨f,hd⟩:=hd;simp[run_underlying hd w,Q5]
 |ptr e=>rw[hti]at hd;simp only[q06]at hd;simp[run_underlying hd w,Q5]
 |string=>rw[hti]at hd;simp only[q06]at hd;simp[run_underlying hd w,Q5]
 |tab g k xs=>rw[hti]at hd;obtain⟨⟨e,i,hd,_⟩,_⟩:=hd;simp[run_underlying hd w,Q5]
 |other=>
  rw[hti]at hd;obtain⟨d,hd,h2⟩:=hd;cases d<;>simp_all[run_underlying hd w,Q5]
def qa5 {P:Program} {t:Nat} {i:TypeInfo} (h:P.info? t=some i) (w:World):(typeInfo t).run P w= .ok i w:=by
 simp[typeInfo,h]
def Xj {P:Program} {t:Nat} {i:TypeInfo} (h:P.info? t=some i) (w:World):(sizeOf t).run P w= .ok i.size w:=by
 simp[sizeOf,qa5 h]
def Zr {P:Program} {t:Nat} {i:TypeInfo} {z:Value} (h:P.info? t=some i) (hz:i.zero=some z) (w:World):(zeroValue t).run P w= .ok z w:=by
 simp[zeroValue,qa5 h,hz]
section
variable {P:Program} {CO:qx} {T:TT} {β:Beta} {who:Who} {U U':Slots} {w:World} {R W:List Nat}
def qfd (op:BinOp) (t:Nat) (x y:Operand) (k k':IntKind) (a b:Int) (w:World):
 (eqGuard op t x y (.int k a) (.int k' b)).run P w= .ok () w:=by
 unfold eqGuard;cases op<;>rfl
def qcw (op:BinOp) (t:Nat) (x y:Operand) (a b:Bool) (w:World):
 (eqGuard op t x y (.bool a) (.bool b)).run P w= .ok () w:=by
 unfold eqGuard;cases op<;>rfl
def qdg (w:World) (d:Nat) {t:Nat} (a b:Bool) (hu:P.underlying t=some .bool):
 (Op.equalIn (d+1) t (.bool a) (.bool b)).run P w= .ok (a==b) w:=by
 simp[Op.equalIn,run_underlying hu]
def qbs {op:BinOp} {k:IntKind} {a b:Int} {v:AV} (t:Nat) (h:Run CO (qls op k a b) U v U' R W) (hs:op≠ .shl) (hs':op≠ .shr):
 U'=U/\names v=[]/\occ v=[]/\ ∃c,(binOp op t (.int k a) (.int k b)).run P w= .ok c w/\ ∀β who w,Rel β who w v c:=by
 cases op<;>first
  |exact absurd rfl hs
  |exact absurd rfl hs'
  |(obtain⟨rfl,rfl⟩:=kB h
    exact⟨rfl,rfl,rfl,_,by simp only[binOp,ne_eq,not_true_eq_false,if_false];rfl,λ_ _ _=>rfl⟩)
  |(obtain⟨_,U1,_,_,_,_,h1,h2⟩:=kA h
    obtain⟨hb,rfl⟩:=kG h1;obtain⟨rfl,rfl⟩:=kB h2;refine⟨rfl,rfl,rfl,_,?_,λ_ _ _=>rfl⟩
    simp only[binOp,ne_eq,not_true_eq_false,if_false,Op.intDiv,hb];rfl)
  |(simp only[qls,bitsOf]at h
    obtain⟨rfl,rfl⟩:=kB h;refine⟨rfl,rfl,rfl,_,?_,λ_ _ _=>rfl⟩
    simp only[binOp,ne_eq,not_true_eq_false,if_false,Op.intBits];rfl)
def q2s {ax ay:Array Value} {d:Nat}: ∀(fs:List Field) (k0:Nat) (xs ys:List AV) (r:Bool),(∀j (h:j<fs.length),fs[j].name≠ "_" ∧fs[j].offset=k0+j∧ ∃k,P.underlying fs[j].type=some (.int k))→
 xs.length=fs.length->q3j xs ys=some r->(∀j (h:j<xs.length),RelC β who w xs[j] (ax.getD (k0+j) undef))->(∀j (h:j<ys.length),RelC β who w ys[j] (ay.getD (k0+j) undef))->k0+xs.length<=ax.size->k0+ys.length<=ay.size->
 (Op.eqFields (d+1) ax ay fs).run P w= .ok r w
 |[],k0,xs,ys,r,_,hl,he,_,_,_,_=>by
  have:xs=[]:=zJ2 hl;subst this;cases ys with
  |nil=>simp only[q3j,zH]at he;subst he;rfl
  |cons y ys=>simp[q3j]at he
 |f::fs,k0,xs,ys,r,hf,hl,he,hx,hy,hxs,hys=>by
  obtain⟨n1,n2,k1,n3⟩:=hf 0 (Nat.zero_lt_succ _);simp only[zv1,zV]at n1 n2 n3;unfold q3j at he;split at he
  . simp at hl
  . rename_i k a xs' k' b ys';split at he
    . rename_i hk;subst hk;split at he
      . rename_i r' hr;cases he;have h1:=hx 0 (by simp)
        have h2:=hy 0 (by simp)
        have h1':ax.getD k0 undef= .int k a:=h1;have h2':ay.getD k0 undef= .int k b:=h2;have s1:k0<ax.size:=by simp at hxs;omega
        have s2:k0<ay.size:=by simp at hys;omega
        have e1:ax[k0]? =some (.int k a):=by rw[<-h1'];simp[Array.getD,s1]
        have e2:ay[k0]? =some (.int k b):=by rw[<-h2'];simp[Array.getD,s2]
        have ih:=q2s (d:=d) fs (k0+1) xs' ys' r' (λj h=>by
         have:=hf (j+1) (by simpa using h)
         grind) (by simpa using hl) hr (λj h=>by
         have:=hx (j+1) (by simpa using h)
         simpa [zM1,zN3 1]using this) (λj h=>by
         have:=hy (j+1) (by simpa using h)
         simpa [zM1,zN3 1]using this) (by simp at hxs;omega) (by simp at hys;omega)
        have p1:(part f.type ax f.offset).run P w= .ok (.int k a) w:=by
         simp[part,Go.isAgg,run_underlying n3,n2,e1]
        have p2:(part f.type ay f.offset).run P w= .ok (.int k b) w:=by
         simp[part,Go.isAgg,run_underlying n3,n2,e2]
        simp only[Op.eqFields,n1,ne_eq,not_false_eq_true,if_true,Sem.run_bind,p1,p2,Result.andThen_ok,run_equalIn_int w d f.type k k1 a b n3];cases hab:(a==b)
        . simp
        . simp[ih]
      . cases he
    . cases he
  . cases he
def qdz (op:BinOp) (t:Nat) (x y:Operand) (a b:Array Value) (w:World) (h:P.eqGuardType P.depth t=false):
 (eqGuard op t x y (.agg a) (.agg b)).run P w= .ok () w:=by
 unfold eqGuard;cases op<;>simp[h]
def ql3 (hT:TTok P T) {op:BinOp} {t:Nat} {x y v:AV} {cx cy:Value} {ox oy:Operand} (h:Run CO (binAV T op t x y) U v U' R W)
 (hx:Rel β who w x cx) (hy:Rel β who w y cy):
 U'=U/\names v=[]/\occ v=[]/\ ∃c,(do eqGuard op t ox oy cx cy;binOp op t cx cy:Sem Value).run P w= .ok c w/\Rel β who w v c:=by
 unfold binAV at h;split at h
 . rename_i k a k' b;have hx':cx= .int k a:=hx;have hy':cy= .int k' b:=hy;subst hx';subst hy';simp only[Sem.run_bind,qfd,Result.andThen_ok];split at h
   . obtain⟨_,U1,_,_,_,_,h1,h2⟩:=kA h;obtain⟨hb,rfl⟩:=kG h1;obtain⟨rfl,rfl⟩:=kB h2;have hb': ¬b<0:=O;exact⟨rfl,rfl,rfl,_,by simp only[binOp,Op.shift,hb',if_false];rfl,rfl⟩
   . obtain⟨_,U1,_,_,_,_,h1,h2⟩:=kA h;obtain⟨hb,rfl⟩:=kG h1;obtain⟨rfl,rfl⟩:=kB h2;have hb': ¬b<0:=O;exact⟨rfl,rfl,rfl,_,by simp only[binOp,Op.shift,hb',if_false];rfl,rfl⟩
   . split at h
     . rename_i g1 g2 hk;subst hk;obtain⟨e1,e2,e3,c,e4,e5⟩:=qbs (P:=P) (w:=w) t h g1 g2
       grind
     . exact(kC h).elim
 . rename_i a b;have hx':cx= .bool a:=hx;have hy':cy= .bool b:=hy;subst hx';subst hy';simp only[Sem.run_bind,qcw,Result.andThen_ok];split at h
   . rename_i cells ht;have hu:P.underlying t=some .bool:=(hT t _ ht).desc
     have he:(Op.equal t (.bool a) (.bool b)).run P w= .ok (a==b) w:=by
      exact qdg (P:=P) w 9999 a b hu
     split at h
     . obtain⟨rfl,rfl⟩:=kB h;exact⟨rfl,rfl,rfl,_,by simp[binOp,he],rfl⟩
     . obtain⟨rfl,rfl⟩:=kB h;exact⟨rfl,rfl,rfl,_,by simp[binOp,he],rfl⟩
     . exact(kC h).elim
   . exact(kC h).elim
 . rename_i xs ys;obtain⟨ax,rfl,hx1,hx2⟩: ∃arr,cx= .agg arr/\CellsRel β who w xs arr:=hx;obtain⟨ay,rfl,hy1,hy2⟩: ∃arr,cy= .agg arr/\CellsRel β who w ys arr:=hy;split at h
   . rename_i ti ht;split at h
     . rename_i hc;obtain⟨fields,f1,f2,f3,f4,f5⟩:=(hT t _ ht).eqs hc.1;split at h
       . rename_i r hr
         have he:(Op.equal t (.agg ax) (.agg ay)).run P w= .ok r w:=by
          have hfo:P.fieldsOf t=fields:=by simp[Program.fieldsOf,f1]
          show(Op.equalIn (9999+1) t (.agg ax) (.agg ay)).run P w=_
          rw[run_equalIn_struct w 9999 t ax ay (by rw[hfo];exact f1) f2,hfo]
          exact q2s (d:=9998) fields.toList 0 xs ys r (λj h=>by simpa using f5 j h) (by rw[hc.2,<-f4];simp) hr (λj h=>by simpa using hx2 j h) (λj h=>by simpa using hy2 j h) O O
         simp only[Sem.run_bind,qdz _ _ _ _ _ _ _ f3,Result.andThen_ok];split at h
         . obtain⟨rfl,rfl⟩:=kB h;exact⟨rfl,rfl,rfl,_,by simp[binOp,he],rfl⟩
         . obtain⟨rfl,rfl⟩:=kB h;exact⟨rfl,rfl,rfl,_,by simp[binOp,he],rfl⟩
         . exact(kC h).elim
       . exact(kC h).elim
     . exact(kC h).elim
   . exact(kC h).elim
 . exact(kC h).elim
def qn4 {op:UnOp} {x v:AV} {cx:Value} (h:Run CO (unAV op x) U v U' R W) (hx:Rel β who w x cx):
 U'=U/\names v=[]/\occ v=[]/\ ∃c,(Op.unary op cx).run P w= .ok c w/\Rel β who w v c:=by
 unfold unAV at h;split at h
 . obtain⟨rfl,rfl⟩:=kB h;have hx':cx= .int _ _:=hx;subst hx';exact⟨rfl,rfl,rfl,_,by simp only[Op.unary,Op.intArith];rfl,rfl⟩
 . obtain⟨rfl,rfl⟩:=kB h;have hx':cx= .int _ _:=hx;subst hx';exact⟨rfl,rfl,rfl,_,by simp only[Op.unary,Op.intBits];rfl,rfl⟩
 . obtain⟨rfl,rfl⟩:=kB h;have hx':cx= .bool _:=hx;subst hx';exact⟨rfl,rfl,rfl,_,by simp only[Op.unary];rfl,rfl⟩
 . exact(kC h).elim
def qi3 {t:Nat} {ti:TI} (h:TIok P t ti): ∃d,P.underlying t=some d:=by
 have hd:=h.desc;cases hti:ti.desc with
 |int k=>rw[hti]at hd;exact⟨_,hd⟩
 |bool=>rw[hti]at hd;exact⟨_,hd⟩
 |slice e ty=>rw[hti]at hd;exact⟨_,hd.1⟩
 |mslice e ty=>rw[hti]at hd;exact⟨_,hd.1⟩
 |map e ty=>rw[hti]at hd;obtain⟨_,_,_,hd,_⟩:=hd;exact⟨_,hd⟩
 |struct fs=>rw[hti]at hd;obtain⟨f,hd,_⟩:=hd;exact⟨_,hd⟩
 |array n e=>rw[hti]at hd;obtain⟨f,hd⟩:=hd;exact⟨_,hd⟩
 |ptr e=>rw[hti]at hd;exact⟨_,hd⟩
 |string=>rw[hti]at hd;exact⟨_,hd⟩
 |tab g k xs=>rw[hti]at hd;obtain⟨⟨e,i,hd,_⟩,_⟩:=hd;exact⟨_,hd⟩
 |other=>rw[hti]at hd;obtain⟨d,hd,_⟩:=hd;exact⟨_,hd⟩
def qi7 (hT:TTok P T) {s d:Nat} {x v:AV} {cx:Value} (h:Run CO (qjh T s d x) U v U' R W) (hx:Rel β who w x cx):
 U'=U/\names v=[]/\occ v=[]/\ ∃c,(convert s d cx).run P w= .ok c w/\Rel β who w v c:=by
 unfold qjh at h;split at h
 . rename_i ti k cells k' n h1 h2;obtain⟨rfl,rfl⟩:=kB h;have hx':cx= .int k' n:=hx;subst hx';have hu:P.underlying d=some (.int k):=(hT d _ h2).desc;obtain⟨u,hs⟩:=qi3 (hT s _ h1);exact⟨rfl,rfl,rfl,.int k (k.wrap n),by simp[convert,run_underlying hu,run_underlying hs,Conv.intToInt],rfl⟩
 . exact(kC h).elim
end
def add_plain (b o n:Nat):(⟨b,o,none⟩:Addr).add n=⟨b,o+n,none⟩:=by
 unfold Addr.add;split<;>simp_all
def SlS (who:Who) (w:World) (t:Ty) (xs:List (Den t)) (v:Value):Prop:=
 (v= .slice none 0 0/\xs=[])\/
 ∃b o cap,v= .slice (some ⟨b,o,none⟩) xs.length cap/\b<w.heap.size/\xs.length<=cap/\Elems who w t xs b o
section
variable {P:Program} {CO:qx} {T:TT} {β:Beta} {who:Who} {U U':Slots} {w:World} {R W:List Nat}
def Yh {b:Nat} {o:Obj} (h:w.heap[b]? =some o):b<w.heap.size:=by
 grind
def RelN.sls {n:Nat} {t:Ty} {xs:List (Den t)} {v:Value} (h:RelN β who w n t xs v):SlS who w t xs v:=by
 obtain⟨_,h⟩:=h;rcases h with h|⟨b,o,cap,arr,el,e1,e2,e3,e4,e5,e6⟩
 . exact .inl h
 . exact .inr ⟨b,o,cap,e1,Yh e2,e4,e6⟩
def SlI.sls {t:Ty} {xs:List (Den t)} {v:Value} (h:SlI who w t xs v):SlS who w t xs v:=by
 rcases h with h|⟨b,o,cap,e1,e2,e3,e4,e5⟩
 . exact .inl h
 . exact .inr ⟨b,o,cap,e1,e3,e4,e5⟩
def SlS.window {t:Ty} {xs:List (Den t)} {base v:Value} {win:Option (Nat×Nat)} (h:SlS who w t xs base) (hv:q03 base t.size win v):
 SlS who w t (window xs win) v/\(∀o l,win=some (o,l)->o+l<=xs.length/\(Vs.window xs win).length=l):=by
 cases win with
 |none=>obtain⟨hv,_⟩:=hv;subst hv;exact⟨h,λo l e=>by cases e⟩
 |some ol=>
  obtain⟨off,len⟩:=ol;obtain⟨a,L,cap,a',e1,e2,e3,e4,e5⟩:=hv;subst e3;rcases h with⟨h,hx⟩|⟨b,o,cap',h1,h2,h3,h4⟩
  . rw[h]at e1;injection e1 with g1 g2 g3
    subst g1 g2 g3;have h0:off=0:=O;have h1:len=0:=O;subst h0 h1 hx;refine⟨.inl ⟨?_,by simp[Vs.window]⟩,λo l e=>by injection e with e;injection e with e' e'';subst e' e'';simp[Vs.window]⟩
    cases a' with
    |none=>rfl
    |some x=>simp at e5
  . rw[h1]at e1;injection e1 with g1 g2 g3
    subst g1 g2 g3;have hl:(Vs.window xs (some (off,len))).length=len:=by simp[Vs.window];omega
    have key: ∃o',a'=some ⟨b,o',none⟩/\(len≠0->o'=o+off*t.size):=by
     by_cases h0:len=0
     . cases a' with
       |none=>simp at e5
       |some x=>
        obtain⟨xb,xo,xs'⟩:=x
        grind
     . have:=e4 O;simp only[zf1,add_plain]at this
       grind
    obtain⟨o',ha',ho'⟩:=key;subst ha';refine⟨.inr ⟨b,o',cap'-off,by rw[hl],h2,by rw[hl];omega,?_⟩,λo l e=>by grind⟩
    intro i hi;rw[hl]at hi;have hne:len≠0:=O;have hx:(Vs.window xs (some (off,len)))[i]'(by rw[hl];exact hi)=xs[off+i]'(O):=by simp[Vs.window]
    rw[hx];have:=h4 (off+i) O;rw[ho' hne];have hadr:o+off*t.size+i*t.size=o+(off+i)*t.size:=by rw[zP1];omega
    rw[hadr];exact this
def q63 {n:Nat} {c:AV} {v:Value} {t:Ty} {xs:List (Den t)} (h:RelC β who w c v) (hf:findC n c=some ⟨t,xs⟩):RelN β who w n t xs (β n)/\n∈qc c:=by
 cases c with
 |sl o t' xs'=>
  cases o with
  |nm m=>
   simp only[findC]at hf;split at hf
   . rename_i e;subst e;injection hf with hf
     cases hf
     obtain⟨h1,h2⟩:=h;exact⟨⟨rfl,by rw[<-h1];exact h2⟩,by simp[qc]⟩
   . cases hf
  |_=>cases hf
 |wn m t' xs'=>
  simp only[findC]at hf;split at hf
  . rename_i e;subst e;injection hf with hf
    cases hf
    obtain⟨h1,h2⟩:=h.1;exact⟨⟨rfl,by rw[<-h1];exact h2⟩,by simp[qc]⟩
  . cases hf
 |_=>cases hf
def qax {n:Nat} {cells:List AV} {arr:Array Value} {t:Ty} {xs:List (Den t)} (h: ∀j (h:j<cells.length),RelC β who w cells[j] (arr.getD j undef))
 (hf:findL n cells=some ⟨t,xs⟩):RelN β who w n t xs (β n)/\n∈cells.flatMap qc:=by
 have: ∀(cells:List AV),(∀c∈cells,∃v,RelC β who w c v)->findL n cells=some ⟨t,xs⟩->RelN β who w n t xs (β n)/\n∈cells.flatMap qc:=by
  intro cells;induction cells with
  |nil=>intro _ h;cases h
  |cons c cs ih=>
   intro h hf;simp only[findL]at hf;split at hf
   . rename_i x hx;injection hf with hf
     subst hf;obtain⟨v,hv⟩:=h c (by simp)
     obtain⟨g1,g2⟩:=q63 hv hx;exact⟨g1,by simp[g2]⟩
   grind
 refine this cells (λc hc=> ?_) hf
 obtain⟨j,hj,rfl⟩:=zi hc;exact⟨_,h j hj⟩
def q6o {n:Nat} {av:AV} {v:Value} {t:Ty} {xs:List (Den t)} (h:Rel β who w av v) (hf:findN n av=some ⟨t,xs⟩):RelN β who w n t xs (β n)/\n∈names av:=by
 cases av with
 |bx o cells=>
  cases o with
  |nm m=>
   obtain⟨_,b,arr,el,_,_,_,e4⟩:=h;obtain⟨g1,g2⟩:=qax e4.2 hf;exact⟨g1,by simp only[names,qi];grind⟩
  |_=>exact h.elim
 |agg cells=>
  obtain⟨arr,_,e4⟩:=h;exact qax e4.2 hf
 |tup vs=>simp[findN,findC]at hf
 |sl o t' xs'=>exact q63 (c:= .sl o t' xs') h hf
 |wn m t' xs'=>exact q63 (c:= .wn m t' xs') h hf
 |_=>simp[findN,findC]at hf
end
section
variable {P:Program} {CO:qx} {T:TT} {E:Entry} {D:Nat->Prop} {β:Beta} {who:Who} {U U':Slots} {hd:List (AV×Value)} {a:Act} {w:World} {R W:List Nat}
def Run.nodeOf {s n sz:Nat} {x:Sigma λt:Ty=>List (Den t)} (h:Run CO (nodeOf s n sz) U x U' R W) (S:Sim E D β who U hd a w):
 U'=U/\sz=x.1.size/\RelN β who w n x.1 x.2 (β n)/\n∈names (U.get s):=by
 obtain⟨av,U1,_,_,_,_,h1,h2⟩:=kA h;obtain⟨rfl,rfl⟩:=kD h1;split at h2
 . rename_i t xs hf;split at h2
   . rename_i hsz;obtain⟨rfl,rfl⟩:=kB h2;obtain⟨g1,g2⟩:=q6o (S.rel s) hf
     grind
   . exact(kC h2).elim
 . exact(kC h2).elim
def Run.shown {x:AV} {c:Value} {y:Sigma λt:Ty=>List (Den t)} (h:Run CO (shown x) U y U' R W) (S:Sim E D β who U hd a w) (hx:Rel β who w x c):
 U'=U/\SlS who w y.1 y.2 c:=by
 unfold Vs.shown at h;split at h
 . obtain⟨rfl,rfl⟩:=kB h;exact⟨rfl,SlI.sls hx⟩
 . obtain⟨rfl,rfl⟩:=kB h;exact⟨rfl,.inl hx⟩
 . obtain⟨rfl,rfl⟩:=kB h;exact⟨rfl,RelN.sls hx⟩
 . obtain⟨y,U1,_,_,_,_,h1,h2⟩:=kA h;obtain⟨rfl,hsz,g1,g2⟩:=Run.nodeOf h1 S;obtain⟨rfl,rfl⟩:=kB h2;subst hsz;exact⟨rfl,(SlS.window g1.sls hx).1⟩
 . exact(kC h).elim
def SlS.shape {t:Ty} {xs:List (Den t)} {v:Value} (h:SlS who w t xs v): ∃ad cap,v= .slice ad xs.length cap:=by
 rcases h with⟨h,hx⟩|⟨b,o,cap,h,_⟩
 . grind
 . exact⟨_,_,h⟩
def qjq (hT:TTok P T) {t:Nat} {tys:Array TypeId} {rt:TypeId} {x v:AV} {c:Value} (h:Run CO (lenAV T t x) U v U' R W) (ht:tys[0]? =some t) (S:Sim E D β who U hd a w) (hx:Rel β who w x c):
 U'=U/\names v=[]/\occ v=[]/\ ∃r,(Builtin.len_ tys rt #[c]).run P w= .ok r w/\Rel β who w v r:=by
 unfold lenAV at h;split at h
 . rename_i e ty cells hti;obtain⟨y,U1,_,_,_,_,h1,h2⟩:=kA h;obtain⟨rfl,hs⟩:=Run.shown h1 S hx;obtain⟨rfl,rfl⟩:=kB h2;have hu:=(hT t _ hti).desc.1;obtain⟨ad,cap,rfl⟩:=hs.shape;exact⟨rfl,rfl,rfl,.int .i64 y.2.length,by simp[Builtin.len_,ht,run_underlying hu,goInt],rfl⟩
 . exact(kC h).elim
def q7j {x v:AV} {c:Value} {op:Operand} {o:Oper} (h:Run CO (q3w x) U v U' R W) (ho:o.op= .nilCheck op) (hc:a.eval op=c) (hx:Rel β who w x c):
 U'=U/\v=x/\(execOp a.eval o).run P w= .ok (.value c) w:=by
 unfold q3w at h;split at h
 . obtain⟨rfl,rfl⟩:=kB h;refine⟨rfl,rfl,?_⟩;rcases hx with⟨b,o',L,cap,_,_,e⟩|⟨b,_,_,e⟩<;>(unfold execOp;simp only[ho,hc,e];rfl)
 . rename_i g _ _ _ _;obtain⟨rfl,rfl⟩:=kB h;refine⟨rfl,rfl,?_⟩;obtain⟨b,o',e,_⟩:=hx;cases g<;>(unfold execOp;simp only[ho,hc,e];rfl)
 . obtain⟨rfl,rfl⟩:=kB h;have e:c=_:=hx.1;refine⟨rfl,rfl,?_⟩;unfold execOp;simp only[ho,hc,e];rfl
 . exact(kC h).elim
def qea {t:Ty} {xs:List (Den t)} {base c:Value} {win:Option (Nat×Nat)} {l h:Nat} (hs:SlS who w t xs base) (hr:q03 base t.size win c) (hl:l<=h) (hh:h<=(window xs win).length):
 ∃ad cap,c= .slice ad (window xs win).length cap/\(window xs win).length<=cap/\
  q03 base t.size (some (Zp win+l,h-l)) (.slice (if cap=l then ad else ad.map (·.add (l*t.size))) (h-l) (cap-l)):=by
 obtain⟨hw,hlen⟩:=SlS.window hs hr;cases win with
 |none=>
  obtain⟨hr,_⟩:=hr;subst hr;rcases hs with⟨e,hx⟩|⟨b,o,cap,e,e1,e2,e3⟩
  . subst hx;have h0:h=0:=by simpa [window]using hh
    have l0:l=0:=O;subst h0 l0;exact⟨none,0,by rw[e];rfl,by simp[window],none,0,0,none,e,by simp[Zp],by simp,by simp,by simp⟩
  . refine⟨_,cap,e,e2,some ⟨b,o,none⟩,xs.length,cap,(if cap=l then some ⟨b,o,none⟩else(some ⟨b,o,none⟩:Option Addr).map (·.add (l*t.size))),e,by simp only[window,Zp]at hh⊢;omega,?_,?_,?_⟩
    . simp only[Zp,zK]
    . intro hne;simp only[Zp,zK]at hne;rw[iN' O,Zp,zK]
    . have hl':l*t.size<=cap*t.size:=zN _ (by simp only[window]at hh;omega)
      split<;>simp[add_plain,hl']
 |some ol=>
  obtain⟨off,len⟩:=ol;obtain⟨h1,h2⟩:=hlen off len rfl;rw[h2]at hh⊢;obtain⟨ad,L,cap,ad',e1,e2,e3,e4,e5⟩:=hr
  have hcap:len<=cap-off:=by
   have:=hw;rw[e3]at this;rcases this with⟨e,hx⟩|⟨b,o,cap',e,_,g,_⟩
   . grind
   . grind
  refine⟨ad',cap-off,e3,hcap,ad,L,cap,(if cap-off=l then ad' else ad'.map (·.add (l*t.size))),e1,by simp only[Zp];omega,by simp only[Nat.sub_sub,Zp],?_,?_⟩
  . intro hne;simp only[Zp]at hne;rw[iN' O,e4 O,Option.map_map];congr 1
    funext x
    simp only[Function.comp,Addr.add]
    have: ∀(x:Addr),(x.add (off*t.size)).add (l*t.size)=x.add ((off+l)*t.size):=by
     intro x;unfold Addr.add;rw[zP1];by_cases h1:off*t.size=0<;>by_cases h2:l*t.size=0
     . simp[h1,h2]
     . simp[h1,h2]
     . simp[h1,h2]
     . grind
    exact this x
  . have e5': ∀x y:Option Addr,x.map (λz=>(z.block,z.spot))=y.map (λz=>(z.block,z.spot))->True:=λ_ _ _=>trivial
    obtain⟨e5,e6⟩:=e5;rcases hs with⟨e,hx⟩|⟨b,o,cap',e,_⟩
    . grind
    . rw[e]at e1;injection e1 with g1 _ _
      subst g1;cases ad' with
      |none=>simp at e5
      |some z=>
       obtain⟨o',q1,q2⟩:=e6 b o rfl;injection q1 with q1
       subst q1;split
       . simp;exact q2
       . rename_i hne;have hlt:off<cap:=O;have q3:=e4 hlt;simp[add_plain]at q3;have hm:(off+l)*t.size<=cap*t.size:=zN _ O;rw[zP1]at hm;simp[add_plain];omega
end
def qd6 (β:Beta) (who:Who) (w:World):Option AV->Option Value->Prop
 |none,none=>True
 |some v,some u=>Rel β who w v u
 |_,_=>False
def q28 (lo:Option Int):Option Value:=lo.map (Value.int .i64)
section
variable {P:Program} {CO:qx} {T:TT} {E:Entry} {D:Nat->Prop} {β:Beta} {who:Who} {U U':Slots} {hd:List (AV×Value)} {a:Act} {w:World} {R W:List Nat}
def q6h (len cap:Nat) (lo hi:Option Int) (h0:0<=lo.getD 0) (h1:lo.getD 0<=hi.getD len) (h2:hi.getD len<=len) (h3:len<=cap) (w:World):
 (Instr.sliceBounds true len cap (q28 lo) (q28 hi) none).run P w= .ok ((lo.getD 0).toNat,(hi.getD (len:Int)).toNat,cap) w:=by
 have hb: ∀(n:Int) (y:Nat) (c:BoundsCode),0<=n->n<=y->(Instr.sliceBound (.int .i64 n) y c).run P w= .ok n.toNat w:=by
  intro n y c h1 h2;unfold Instr.sliceBound;simp[asIntOf,h1,h2]
 unfold Instr.sliceBounds;cases lo with
 |none=>
  cases hi with
  |none=>simp[q28]
  |some h=>
   simp only[zu1,z02]at*;simp[q28,hb h cap .sliceAcap h1 O]
 |some l=>
  cases hi with
  |none=>
   simp only[zu1,z02]at*;simp[q28,hb l len .sliceB h0 O]
  |some h=>
   simp only[zu1]at*;simp[q28,hb h cap .sliceAcap O O,hb l h.toNat .sliceB h0 O]
def q7u {α:Type} (xs:List α) (lo hi:Option Int) (h0:0<=lo.getD 0) (h1:lo.getD 0<=hi.getD xs.length) (h2:hi.getD xs.length<=xs.length):
 q9w xs lo hi=(xs.drop (lo.getD 0).toNat).take ((hi.getD (xs.length:Int)).toNat-(lo.getD 0).toNat):=by
 unfold q9w;cases lo with
 |none=>
  cases hi with
  |none=>simp
  |some h=>simp
 |some l=>
  cases hi with
  |none=>simp only[zu1,z02]at*;rw[List.take_of_length_le (by simp)]
  |some h=>rfl
def q0l {e:Nat} {i:TypeInfo} {t:Nat} (hu:P.underlying t=some (.slice e)) (hi:P.info? e=some i) (ad:Option Addr) (len cap:Nat) (lo hi':Option Int)
 (h0:0<=lo.getD 0) (h1:lo.getD 0<=hi'.getD len) (h2:hi'.getD len<=len) (h3:len<=cap) (w:World):
 (Instr.sliceAt t (.slice ad len cap) (q28 lo) (q28 hi') none).run P w=
   .ok (.slice (if cap=(lo.getD 0).toNat then ad else ad.map (·.add ((lo.getD 0).toNat*i.size))) ((hi'.getD (len:Int)).toNat-(lo.getD 0).toNat) (cap-(lo.getD 0).toNat)) w:=by
 simp[Instr.sliceAt,Instr.slice,run_underlying hu,q6h len cap lo hi' h0 h1 h2 h3,Xj hi]
def qd7 {x:Option AV} {lo:Option Int} {c:Option Value} (h:intOf? x=some lo) (hr:qd6 β who w x c):c=q28 lo:=by
 cases x with
 |none=>cases h;cases c with
  |none=>rfl
  |some u=>exact hr.elim
 |some v=>
  cases c with
  |none=>exact hr.elim
  |some u=>
   cases v with
   |int k n=>cases k<;>first|(cases h;have:u=_:=hr;subst this;rfl)|cases h
   |_=>cases h
def qjo {t:Ty} {xs:List (Den t)} {v:Value} {n:Nat} (h:RelN β who w n t xs v):
 (v= .slice none 0 0/\xs=[])\/ ∃b o cap arr el,v= .slice (some ⟨b,o,none⟩) xs.length cap/\w.heap[b]? =some (.cells arr el (0,0))/\o+cap*t.size<=arr.size/\
 xs.length<=cap/\who b=some n/\Elems who w t xs b o:=h.2
def Sim.rename1 {n m:Nat} {t:Ty} {xs ys:List (Den t)} {c c':Value} {D':Nat->Prop} (S:Sim E D β who U ((.sl (.nm n) t xs,c)::hd) a w)
 (hm: ¬D m) (hD: ∀x,D x->D' x) (hDm:D' m) (hDF: ¬D' FN)
 (hr: ∀β' who',β' m=c'->(∀b,who b=some n->who' b=some m)->(∀b,who b=none->who' b=none)->RelN β' who' w m t ys c'):
 ∃β' who',Sim E D' β' who' U ((.sl (.nm m) t ys,c')::hd) a w:=by
 let β':Beta:=λx=>if x=m then c' else β x
 let who':Who:=λb=>if who b=some n then some m else who b
 have hnin: ∀s,n∉names (U.get s):=λs=>S.hdis _ mS n (by simp[names,qi,qc]) s
 have hnhd: ∀x∈hd,n∉names x.1:=by
  intro x hx hn;have:=S.hnod;simp only[fC,names,qi,qc,zl1,zU]at this;exact this.1 (zC.2 ⟨x,hx,hn⟩)
 have hb: ∀x,D x->β' x=β x:=λx hx=>by grind
 have k: ∀av,(∀x∈Vs.occ av,D x)->n∉names av->Keeps β who w β' who' w (names av) (Vs.occ av):=λav ho hn=>
  ⟨λx hx=>hb x (ho x hx),λx hx b hw=>⟨by grind,rfl⟩,
   λb hb' _=>⟨by simp[who',hb'],rfl⟩,zD _⟩
 have hws: ∀b x,who' b=some x-> ∃y,who b=some y:=λb x h=>by
  grind
 have hnew:Rel β' who' w (.sl (.nm m) t ys) c':=hr β' who' (by simp[β']) (λb h=>by simp[who',h]) (λb h=>by simp[who',h])
 refine⟨β',who',?_⟩
 have S0:=(S.drop rfl).world (h98:=hb 98 S.d98) (β':=β') (who':=who') (w':=w) (λs=>(S.rel s).keep (k _ (S.occ s) (hnin s)))
  (λx hx=>(S.hrel x (mT hx)).keep (k _ (S.hocc x (mT hx)) (hnhd x hx)))
  (λb x h=>by obtain⟨y,hy⟩:=hws b x h;exact S.wsz b y hy) (zD _) (λ_ _ _=>rfl) (λb x h=>by obtain⟨y,hy⟩:=hws b x h;exact S.fr1 b y hy)
  (fun b hb=>by
    have h:=S.fr3 b hb;simp only[who'];rw[iN']
    . exact h
    . rw[h];intro e;injection e with e
      exact S.dfn (S.hocc _ mS FN (by rw[e];simp[Vs.occ,occA,occC])))
 have S1:=S0.mono hD hDF
 exact{S1 with
  hrel:=λy hy=>by rcases mC hy with rfl|hy;exact hnew;exact S1.hrel y hy
  hnod:=by
   simp only[fC,names,qi,qc,zl1,zU];refine⟨λh=> ?_,S0.hnod⟩
   obtain⟨x,hx,hn⟩:=zC.1 h;exact hm (S.hocc x (mT hx) m (qj hn))
  hdis:=λy hy=>by
   rcases mC hy with rfl|hy
   . intro x hx s hs;simp only[names,qi,qc,zA]at hx;subst hx;exact hm (S.occ s x (qj hs))
   . exact S1.hdis y hy
  hocc:=λy hy=>by
   rcases mC hy with rfl|hy
   . intro x hx;simp only[Vs.occ,occA,occC,zA]at hx;subst hx;exact hDm
   . exact S1.hocc y hy}
def Elems.window {t:Ty} {xs:List (Den t)} {b o:Nat} (h:Elems who w t xs b o) (off len:Nat) (hl:off+len<=xs.length):
 Elems who w t ((xs.drop off).take len) b (o+off*t.size):=by
 intro i hi;have hi':i<len:=by simp at hi;omega
 have hx:((xs.drop off).take len)[i]=xs[off+i]'(O):=by simp
 rw[hx];have:=h (off+i) O
 grind
def qex (hT:TTok P T) {idx t:Nat} {x v:AV} {lo hi:Option AV} {c:Value} {cl ch:Option Value} {D':Nat->Prop} (h:Run CO (qe4 T idx t x lo hi) U v U' R W)
 (S:Sim E D β who U ((x,c)::hd) a w)
 (hl:qd6 β who w lo cl)
 (hh:qd6 β who w hi ch)
 (hf: ¬D (fresh idx 15)) (hD: ∀x,D x->D' x) (hD15:D' (fresh idx 15)) (hDF: ¬D' FN):
 ∃r β' who',(Instr.sliceAt t c cl ch none).run P w= .ok r w/\Sim E D' β' who' U' ((v,r)::hd) a w:=by
 have hx:=S.hrel _ mS;unfold qe4 at h;split at h
 . rename_i e ety cells lo hi hti g1 g2;have hcl:=qd7 g1 hl;have hch:=qd7 g2 hh;subst hcl;subst hch;obtain⟨hu,⟨ei,ez,he,hes,_⟩⟩:=(hT t _ hti).desc;split at h
   . rename_i ty' xs;split at h
     . rename_i hsz;obtain⟨_,U1,_,_,_,_,h1,h2⟩:=kA h;obtain⟨⟨m0,m1,m2⟩,rfl⟩:=kG h1;obtain⟨rfl,rfl⟩:=kB h2;have hx':SlI who w ty' xs c:=hx;have hlt:=SlI.sls hx';rw[q7u xs lo hi m0 m1 m2];rcases hx' with⟨rfl,rfl⟩|⟨b,o,cap,rfl,q1,q2,q3,q4⟩
       . have e0:((([]:List (Den ty')).length:Nat):Int)=0:=rfl;rw[e0]at m1 m2;have hlo:lo.getD 0=0:=O;have hhi:hi.getD 0=0:=O;refine⟨_,β,who,q0l hu he none 0 0 lo hi m0 (by simpa using m1) (by simpa using m2) (zD _) w,?_⟩
         refine Sim.mono ((S.drop rfl).take0 ?_ rfl (λn hn=>by cases hn)) hD hDF
         grind
       . refine⟨_,β,who,q0l hu he (some ⟨b,o,none⟩) xs.length cap lo hi m0 m1 m2 q3 w,?_⟩;refine Sim.mono ((S.drop rfl).take0 ?_ rfl (λn hn=>by cases hn)) hD hDF
         have hlen:((xs.drop (lo.getD 0).toNat).take ((hi.getD (xs.length:Int)).toNat-(lo.getD 0).toNat)).length=(hi.getD (xs.length:Int)).toNat-(lo.getD 0).toNat:=by simp;omega
         by_cases hc:cap=(lo.getD 0).toNat
         . rw[iP hc];refine .inr ⟨b,o,cap-(lo.getD 0).toNat,by rw[hlen],q1,q2,by rw[hlen];omega,?_⟩
           intro i hi';rw[hlen]at hi';omega
         . rw[iN' hc];refine .inr ⟨b,o+(lo.getD 0).toNat*ei.size,cap-(lo.getD 0).toNat,by rw[hlen];simp[add_plain],q1,q2,by rw[hlen];omega,?_⟩
           rw[hes,hsz];exact q4.window _ _ O
     . exact(kC h).elim
   . rename_i n ty' xs;split at h
     . rename_i hsz;obtain⟨_,U1,_,_,_,_,h1,h2⟩:=kA h;obtain⟨⟨m0,m1,m2⟩,rfl⟩:=kG h1;obtain⟨rfl,rfl⟩:=kB h2;rw[q7u xs lo hi m0 m1 m2];rcases(qjo hx)with⟨rfl,rfl⟩|⟨b,o,cap,arr,el,rfl,q0,q1,q2,q3,q4⟩
       . have e0:((([]:List (Den ty')).length:Nat):Int)=0:=rfl;rw[e0]at m1 m2;have hlo:lo.getD 0=0:=O;have hhi:hi.getD 0=0:=O;have:hi.getD ((0:Nat):Int)=0:=by simpa using hhi
         obtain⟨β',who',S'⟩:=Sim.rename1 (m:=fresh idx 15) (ys:=[]) (c':= .slice none 0 0) S hf hD hD15 hDF (λβ' who' e _ _=>⟨e.symm,.inl ⟨rfl,rfl⟩⟩)
         refine⟨_,β',who',q0l hu he none 0 0 lo hi m0 (by simpa using m1) (by simpa using m2) (zD _) w,?_⟩
         rw[hlo,this];simpa using S'
       . have hlen:((xs.drop (lo.getD 0).toNat).take ((hi.getD (xs.length:Int)).toNat-(lo.getD 0).toNat)).length=(hi.getD (xs.length:Int)).toNat-(lo.getD 0).toNat:=by simp;omega
         obtain⟨β',who',S'⟩:=Sim.rename1 (m:=fresh idx 15) (ys:=(xs.drop (lo.getD 0).toNat).take ((hi.getD (xs.length:Int)).toNat-(lo.getD 0).toNat))
          (c':= .slice (if cap=(lo.getD 0).toNat then some ⟨b,o,none⟩else(some ⟨b,o,none⟩:Option Addr).map (·.add ((lo.getD 0).toNat*ei.size))) ((hi.getD (xs.length:Int)).toNat-(lo.getD 0).toNat) (cap-(lo.getD 0).toNat)) S hf hD hD15 hDF
          (fun β' who' e g1 g2=>by
            refine⟨e.symm,.inr ?_⟩;by_cases hc:cap=(lo.getD 0).toNat
            . rw[iP hc];refine⟨b,o,cap-(lo.getD 0).toNat,arr,el,by rw[hlen],q0,by grind,by rw[hlen];omega,g1 b q3,?_⟩
              intro i hi';rw[hlen]at hi';omega
            . rw[iN' hc];refine⟨b,o+(lo.getD 0).toNat*ei.size,cap-(lo.getD 0).toNat,arr,el,by rw[hlen];simp[add_plain],q0,?_,by rw[hlen];omega,g1 b q3,?_⟩
              . rw[hes,hsz,Nat.sub_mul];have:(lo.getD 0).toNat*ty'.size<=cap*ty'.size:=zN _ O;omega
              . rw[hes,hsz];exact Elems.keep (λb hb _=>⟨g2 b hb,rfl⟩) (zD _) rfl (q4.window _ _ O))
         exact⟨_,β',who',q0l hu he (some ⟨b,o,none⟩) xs.length cap lo hi m0 m1 m2 q2 w,S'⟩
     . exact(kC h).elim
   . rename_i s n sz win;split at h
     . rename_i hsz;obtain⟨y,U1,_,_,_,_,h1,h2⟩:=kA h;obtain⟨rfl,hsz',g1,g2⟩:=Run.nodeOf h1 S;obtain⟨_,U2,_,_,_,_,h3,h4⟩:=kA h2;obtain⟨⟨m0,m1,m2⟩,rfl⟩:=kG h3;obtain⟨rfl,rfl⟩:=kB h4;subst hsz';obtain⟨ad,cap,rfl,hcap,hrv⟩:=qea (l:=(lo.getD 0).toNat) (h:=(hi.getD ((window y.2 win).length:Int)).toNat) g1.sls hx O O;refine⟨_,β,who,q0l hu he ad (window y.2 win).length cap lo hi m0 m1 m2 hcap w,?_⟩;refine Sim.mono ((S.drop rfl).take0 ?_ rfl ?_) hD hDF
       . rw[hes,hsz];exact hrv
       . intro n' hn';exact S.hocc _ mS n' hn'
     . exact(kC h).elim
   . exact(kC h).elim
 . exact(kC h).elim
end
section
variable {P:Program} {CO:qx} {T:TT} {E:Entry} {D:Nat->Prop} {β:Beta} {who:Who} {U U':Slots} {hd:List (AV×Value)} {a:Act} {w:World} {R W:List Nat}
def run_indexAt {e t:Nat} {i:TypeInfo} (hu:P.underlying t=some (.slice e)) (hi:P.info? e=some i) (b o len cap:Nat) (k:IntKind) (n:Int) (h0:0<=n) (h1:n<len) (w:World):
 (Instr.indexAt t (.slice (some ⟨b,o,none⟩) len cap) (.int k n)).run P w= .ok (.pointer (some ⟨b,o+n.toNat*i.size,none⟩)) w:=by
 simp[Instr.indexAt,asIntOf,run_underlying hu,h0,h1,Xj hi,add_plain]
def qf5 (hT:TTok P T) {t:Nat} {x i v:AV} {c ci:Value} (h:Run CO (qf8 T t x i) U v U' R W)
 (hx:Rel β who w x c) (hi:Rel β who w i ci):
 U'=U/\names v=[]/\occ v=[]/\ ∃r,(Instr.index t c ci).run P w= .ok r w/\Rel β who w v r:=by
 unfold qf8 at h;split at h
 . rename_i cells s k i' hti;have hci:ci= .int k i':=hi;subst hci;have hc:c= .string s:=hx.1;subst hc;have hu:P.underlying t=some .string:=(hT t _ hti).desc;obtain⟨_,U1,_,_,_,_,h1,h2⟩:=kA h;obtain⟨⟨m0,m1⟩,rfl⟩:=kG h1;obtain⟨rfl,rfl⟩:=kB h2;refine⟨rfl,rfl,rfl,.int .u8 ((bytesOf s).getD i'.toNat 0),?_,rfl⟩;have hlen:(bytesOf s).length=s.size:=by unfold bytesOf;rw[zh1,zY1];rfl
   have hlt:i'.toNat<s.size:=O;have e:s[i'.toNat]? =some s[i'.toNat]:=getElem?_pos s i'.toNat hlt
   have e2:((bytesOf s).getD i'.toNat 0)=(s[i'.toNat].toNat:Int):=by
    simp only[bytesOf,List.getD,List.getElem?_map]
    have:s.data.toList[i'.toNat]? =some s[i'.toNat]:=by
     rw[Array.getElem?_toList];exact Array.getElem?_eq_getElem hlt
    rw[this];rfl
   rw[e2];simp[Instr.index,run_underlying hu,asIntOf,m0,e]
 . exact(kC h).elim
def qjl (hT:TTok P T) {t g:Nat} {i v:AV} {ci:Value} (h:Run CO (tabAV T t g i) U v U' R W) (hG:GlobOK P who w) (hi:Rel β who w i ci):
 U'=U/\names v=[]/\occ v=[]/\ ∃r,(Instr.indexAt t (.pointer (some ⟨g,0,none⟩)) ci).run P w= .ok r w/\Rel β who w v r:=by
 unfold tabAV at h;split at h
 . rename_i g' k xs cells k' i' hti;have hci:ci= .int k' i':=hi;subst hci;obtain⟨⟨e,ei,hu,he,hes⟩,hmem⟩:=(hT t _ hti).desc;split at h
   . rename_i hg;subst hg;obtain⟨_,U1,_,_,_,_,h1,h2⟩:=kA h;obtain⟨⟨m0,m1⟩,rfl⟩:=kG h1;obtain⟨rfl,rfl⟩:=kB h2;obtain⟨q1,q2,q3⟩:=hG _ hmem;have hen:P.elem t=e:=by simp[Program.elem,hu]
     have hal:P.arrayLen t=xs.length:=by simp[Program.arrayLen,hu]
     refine⟨rfl,rfl,rfl,.pointer (some ⟨g',i'.toNat,none⟩),?_,g',0,?_,O,q1,q2,λj hj=> ?_⟩
     . rw[run_indexAt_array w t ⟨g',0,none⟩ k' i' (by rw[hal,hen];exact hu),iP (by rw[hal];exact⟨m0,m1⟩),hen,Xj he]
       show Result.ok _ _=_
       rw[hes,zk1];congr 3;unfold Addr.add
       grind
     . simp[Ty.size]
     . show cellAt w g' (0+j*1) 0=some (.int k xs[j])
       have:=q3 j hj;simpa [cellAt]using this
   . exact(kC h).elim
 . exact(kC h).elim
def q58 (hT:TTok P T) {t:Nat} {x i v:AV} {c ci:Value} (h:Run CO (q1q T t x i) U v U' R W) (S:Sim E D β who U hd a w)
 (hx:Rel β who w x c) (hi:Rel β who w i ci):
 U'=U/\names v=[]/\(∀n∈occ v,n∈occ x)/\ ∃r,(Instr.indexAt t c ci).run P w= .ok r w/\Rel β who w v r:=by
 unfold q1q at h;split at h
 . rename_i e ety cells k i' hti;have hci:ci= .int k i':=hi;subst hci;obtain⟨hu,⟨ei,ez,he,hes,_⟩⟩:=(hT t _ hti).desc;split at h
   . rename_i t' xs;split at h
     . rename_i hsz;obtain⟨_,U1,_,_,_,_,h1,h2⟩:=kA h;obtain⟨⟨m0,m1⟩,rfl⟩:=kG h1;obtain⟨rfl,rfl⟩:=kB h2;have hx':SlI who w t' xs c:=hx;rcases hx' with⟨_,rfl⟩|⟨b,o,cap,rfl,q1,q2,q3,q4⟩
       . simp at m1;omega
       . refine⟨rfl,rfl,(λn hn=>by cases hn),_,run_indexAt hu he b o xs.length cap k i' m0 m1 w,b,o,?_,O,q1,q2,q4⟩
         simp_all
     . exact(kC h).elim
   . rename_i s n sz win;split at h
     . rename_i hsz;obtain⟨y,U1,_,_,_,_,h1,h2⟩:=kA h;obtain⟨rfl,hsz',g1,g2⟩:=Run.nodeOf h1 S;obtain⟨_,U2,_,_,_,_,h3,h4⟩:=kA h2;obtain⟨⟨m0,m1⟩,rfl⟩:=kG h3;obtain⟨rfl,rfl⟩:=kB h4;subst hsz';refine⟨rfl,rfl,λn hn=>hn,?_⟩
       have hrv:q03 (β n) y.1.size win c:=hx;obtain⟨hw,hl⟩:=SlS.window g1.sls hrv;rcases g1.2 with⟨e1,e2⟩|⟨b,o,cap,arr,el,e1,e2,e3,e4,e5,e6⟩
       . exfalso;cases win with
         |none=>simp[window,e2]at m1;omega
         |some ol=>grind
       . cases win with
         |none=>
          obtain⟨hrv,_⟩:=hrv;subst hrv;rw[e1];simp only[window]at m1;refine⟨_,run_indexAt hu he b o y.2.length cap k i' m0 m1 w,.inl ⟨b,o,y.2.length,cap,e1,by simp only[Zp];omega,?_⟩⟩
          rw[hes,hsz,Zp,zK,zV]
         |some ol=>
          obtain⟨off,len⟩:=ol;obtain⟨l1,l2⟩:=hl off len rfl;obtain⟨ad,L,cap',ad',f1,f2,f3,f4,f5⟩:=hrv;rw[e1]at f1;injection f1 with f1 fL fcap
          subst f1 fL fcap;rw[l2]at m1;have:=f4 O;subst this;subst f3;simp only[zf1,add_plain];refine⟨_,run_indexAt hu he b (o+off*y.1.size) len (cap-off) k i' m0 m1 w,.inl ⟨b,o,y.2.length,cap,e1,by simp only[Zp];omega,?_⟩⟩
          rw[hes,hsz,Zp,zV,zP1,zM1]
     . exact(kC h).elim
   . exact(kC h).elim
 . exact(kC h).elim
def NoAgg.run {t:Nat} (h:NoAgg P t) (w:World):(Go.isAgg t).run P w= .ok false w:=by
 obtain⟨d,hd,h2⟩:=h;unfold Go.isAgg;cases d<;>simp_all[run_underlying hd w]
def qei (hT:TTok P T) {t f:Nat} {x v:AV} {c:Value} (h:Run CO (qf9 T t x f) U v U' R W) (hx:Rel β who w x c):
 U'=U/\names v=[]/\occ v=[]/\ ∃r,(Instr.field t c f).run P w= .ok r w/\Rel β who w v r:=by
 unfold qf9 at h;split at h
 . rename_i fs cells0 cells hti;obtain⟨fields,hu,hsz,hfs⟩:=(hT t _ hti).desc;obtain⟨arr,rfl,hc1,hc2⟩:=hx;split at h
   . rename_i off fsz hf;split at h
     . rename_i hone
       have hlt:f<fs.length:=by
        rcases zq f fs.length with h|h
        . exact h
        . grind
       obtain⟨fl,e1,e2,i,e3,e4,e5⟩:=hfs f hlt;rw[List.getElem?_eq_getElem hlt]at hf;injection hf with hf
       have e6:=(hT t _ hti).nag fs fields rfl hu f hlt fl e1;rw[hf]at e2 e4 e6;simp only at e2 e4 e6;have hag:=(e6 hone.1 hone.2).run w
       have key: ∀u:AV,cells[off]? =some u->(Instr.field t (.agg arr) f).run P w= .ok (arr.getD off undef) w/\RelC β who w u (arr.getD off undef):=by
        intro u hu';obtain⟨ho,rfl⟩:=List.getElem?_eq_some_iff.1 hu';refine⟨?_,hc2 off ho⟩;have hoa:off<arr.size:=O;have hg:arr[off]? =some arr[off]:=Array.getElem?_eq_getElem hoa;rw[show arr.getD off undef=arr[off] by simp[Array.getD,hoa]]
        simp[Instr.field,run_underlying hu,e1,asAgg,part,hag,e2,hg]
       split at h
       . rename_i k u hu';obtain⟨rfl,rfl⟩:=kB h;obtain⟨g1,g2⟩:=key _ hu';exact⟨rfl,rfl,rfl,_,g1,g2⟩
       . rename_i u hu';obtain⟨rfl,rfl⟩:=kB h;obtain⟨g1,g2⟩:=key _ hu';exact⟨rfl,rfl,rfl,_,g1,g2⟩
       . rename_i t' u hu';obtain⟨rfl,rfl⟩:=kB h;obtain⟨g1,g2⟩:=key _ hu';exact⟨rfl,rfl,rfl,_,g1,g2⟩
       . exact(kC h).elim
     . exact(kC h).elim
   . exact(kC h).elim
 . exact(kC h).elim
def q62 (hT:TTok P T) {t f:Nat} {x v:AV} {c:Value} (h:Run CO (q1m T t x f) U v U' R W) (hx:Rel β who w x c):
 U'=U/\names v=[]/\(∀n∈occ v,n∈occ x)/\ ∃r,(Instr.fieldAt t c f).run P w= .ok r w/\Rel β who w v r:=by
 unfold q1m at h;split at h
 . rename_i fs cells hti;obtain⟨fields,hu,hsz,hfs⟩:=(hT t _ hti).desc;split at h
   . rename_i off fsz hf;split at h
     . exact(kC h).elim
     . rename_i hne
       have hlt:f<fs.length:=by
        rcases zq f fs.length with h|h
        . exact h
        . grind
       obtain⟨fl,e1,e2,i,e3,e4,-⟩:=hfs f hlt;rw[List.getElem?_eq_getElem hlt]at hf;injection hf with hf
       rw[hf]at e2 e4;simp only at e2 e4
       have key: ∀b o,(Instr.fieldAt t (.pointer (some ⟨b,o,none⟩)) f).run P w= .ok (.pointer (some ⟨b,o+off,none⟩)) w:=by
        intro b o;have hi0: ¬i.size=0:=O;simp[Instr.fieldAt,run_underlying hu,e1,Instr.sureAddr,fieldPlace,Xj e3,hi0,add_plain,e2]
       split at h
       . obtain⟨rfl,rfl⟩:=kB h;refine⟨rfl,rfl,λn hn=>hn,?_⟩
         rcases hx with⟨b,o,L,cap,q1,q2,rfl⟩|⟨b,q1,rfl,rfl⟩
         . exact⟨_,key _ _,.inl ⟨b,o,L,cap,q1,q2,by simp only[zM1]⟩⟩
         . exact⟨_,key _ _,.inr ⟨b,q1,rfl,rfl⟩⟩
       . obtain⟨rfl,rfl⟩:=kB h;refine⟨rfl,rfl,(λn hn=>by cases hn),?_⟩
         obtain⟨b,o,rfl,q2,q3,q4,q5⟩:=hx;exact⟨_,key _ _,b,o,by simp only[zM1,wrapP_none],q2,q3,q4,q5⟩
       . obtain⟨rfl,rfl⟩:=kB h;refine⟨rfl,rfl,λn hn=>hn,?_⟩
         obtain⟨b,o,L,cap,q1,q2,rfl,q3⟩:=hx;exact⟨_,key _ _,b,o,L,cap,q1,q2,by simp only[zM1],q3⟩
       . exact(kC h).elim
   . exact(kC h).elim
 . exact(kC h).elim
def qaa {size off:Nat} {agg:Bool} {cells:List AV} {v:AV} {f:Nat->Value} (h:partOf size agg cells off=some v)
 (hr: ∀j (hj:j<cells.length),RelC β who w cells[j] (f j)):
 off+size<=cells.length/\Rel β who w v (if agg then .agg ((List.range size).map λj=>f (off+j)).toArray else f off)/\(agg=false->size=1)/\
 names v=((cells.drop off).take size).flatMap qc/\occ v=((cells.drop off).take size).flatMap occC:=by
 have hnb: ∀c∈cells,∀vs,c≠ .tup vs:=λc hc vs e=>by
  obtain⟨j,hj,rfl⟩:=zi hc;have:=hr j hj;rw[e]at this;exact this
 have hnb': ∀c∈cells,∀o vs,c≠ .bx o vs:=λc hc o vs e=>by
  obtain⟨j,hj,rfl⟩:=zi hc;have:=hr j hj;rw[e]at this;exact this
 have hna: ∀c∈cells,∀vs,c≠ .agg vs:=λc hc vs e=>by
  obtain⟨j,hj,rfl⟩:=zi hc;have:=hr j hj;rw[e]at this;exact this
 unfold partOf at h;split at h
 . rename_i hle;refine⟨hle,?_⟩;unfold asOne at h;split at h
   . rename_i hagg;injection h with h
     subst h;simp only[hagg,if_true];refine⟨⟨_,rfl,by simp;omega,λj hj=> ?_⟩,by simp,rfl,rfl⟩
     have hj':j<size:=by simp at hj;omega
     simp_all
   . rename_i hagg;simp only[zI1]at hagg;simp only[hagg,zp1,if_false];split at h
     . rename_i c hc;injection h with h
       subst h;have hlen:((cells.drop off).take size).length=1:=by rw[hc];rfl
       have hs1:size=1:=by simp at hlen;omega
       have hlt:off<cells.length:=O
       have hce:cells[off]=c:=by
        have:((cells.drop off).take size)[0]'(O)=c:=by simp[hc]
        simpa using this
       have hmem:c∈cells:=hce▸zI hlt;have hrc:RelC β who w c (f off):=hce▸hr off hlt;rw[hc];refine⟨?_,λ_=>hs1,?_,?_⟩
       . cases c with
         |tup vs=>grind
         |bx o vs=>grind
         |agg vs=>grind
         |_=>exact hrc
       . cases c with
         |tup vs=>grind
         |bx o vs=>grind
         |agg vs=>grind
         |_=>simp[names,qi]
       . cases c with
         |tup vs=>grind
         |bx o vs=>grind
         |agg vs=>grind
         |_=>simp[occ,occA]
     . cases h
 . cases h
def Jo: ∀{t:Ty} {x:Den t} {g:Nat->Option Value} {j0:Nat},RelI who w t x g j0->
 (unpack t x).length=t.size/\ ∀j (hj:j<(unpack t x).length),∃v,g (j0+j)=some v/\RelC β who w (immC (unpack t x)[j]) v
 | .int k,x,g,j0,h=>by
   refine⟨rfl,λj hj=> ?_⟩
   have:j=0:=by simp[unpack]at hj;exact hj
   subst this;exact⟨_,h,rfl⟩
 | .bool,x,g,j0,h=>by
   refine⟨rfl,λj hj=> ?_⟩
   have:j=0:=by simp[unpack]at hj;exact hj
   subst this;exact⟨_,h,rfl⟩
 | .sl b t,xs,g,j0,h=>by
   refine⟨rfl,λj hj=> ?_⟩
   have:j=0:=by simp[unpack]at hj;exact hj
   subst this;obtain⟨v,h1,h2⟩:=h;exact⟨v,h1,h2⟩
 | .opq,_,g,j0,h=>by
   refine⟨rfl,λj hj=> ?_⟩
   have:j=0:=by simp[unpack]at hj;exact hj
   subst this;obtain⟨v,h1,_⟩:=h;exact⟨v,h1,trivial⟩
 | .pr a b,x,g,j0,h=>by
   obtain⟨l1,r1⟩:=Jo h.1;obtain⟨l2,r2⟩:=Jo h.2;refine⟨by simp[unpack,l1,l2,Ty.size],λj hj=> ?_⟩
   by_cases hlt:j<(unpack a x.1).length
   . obtain⟨v,e1,e2⟩:=r1 j hlt;refine⟨v,e1,?_⟩;have:(unpack (.pr a b) x)[j]=(unpack a x.1)[j]:=by simp only[unpack];exact zC1 hlt
     rw[this];exact e2
   . have hj2:j-(unpack a x.1).length<(unpack b x.2).length:=by simp[unpack]at hj;omega
     obtain⟨v,e1,e2⟩:=r2 _ hj2;refine⟨v,by grind,?_⟩
     have:(unpack (.pr a b) x)[j]=(unpack b x.2)[j-(unpack a x.1).length]:=by simp only[unpack];exact zZ1 O
     rw[this];exact e2
def q0a: ∀{t:Ty} {x:Den t} {c:AV},c∈unpack t x->(∃k n,c= .int k n)\/(∃b,c= .bool b)\/(∃o t' xs,c= .sl o t' xs/\ ∀n,o≠ .nm n)\/c= .dead
 | .int k,x,c,h=> .inl ⟨k,x,by simpa [unpack]using h⟩
 | .bool,x,c,h=> .inr (.inl ⟨x,by simpa [unpack]using h⟩)
 | .sl b t,xs,c,h=> .inr (.inr (.inl ⟨_,t,xs,by simpa [unpack]using h,by grind⟩))
 | .opq,_,c,h=> .inr (.inr (.inr (by simpa [unpack]using h)))
 | .pr a b,x,c,h=>by
   simp only[unpack,zL]at h;rcases h with h|h
   . exact q0a h
   . exact q0a h
def Jd {t:Ty} {x:Den t} {c:AV} (h:c∈(unpack t x).map immC):qc c=[]/\occC c=[]/\(∀vs,c≠ .tup vs)/\(∀o vs,c≠ .bx o vs)/\(∀vs,c≠ .agg vs):=by
 obtain⟨d,hd,rfl⟩:=zM.1 h;rcases q0a hd with⟨k,n,rfl⟩|⟨b,rfl⟩|⟨o,t',xs,rfl,_⟩|rfl
 . exact⟨rfl,rfl,by simp[immC],by simp[immC],by simp[immC]⟩
 . exact⟨rfl,rfl,by simp[immC],by simp[immC],by simp[immC]⟩
 . exact⟨rfl,rfl,by simp[immC],by simp[immC],by simp[immC]⟩
 . exact⟨rfl,rfl,by simp[immC],by simp[immC],by simp[immC]⟩
def Y0 {t:Nat} {ti:TI} (hti:TIok P t ti) {b o:Nat} {f:Nat->Value} (w:World) (hc: ∀j,j<ti.cells.length->w.cell? ⟨b,o+j,none⟩=some (f j))
 (h1:Q5 ti.desc=false->ti.cells.length=1):
 (Instr.loadAt t (.pointer (some ⟨b,o,none⟩))).run P w= .ok (if Q5 ti.desc then .agg ((List.range ti.cells.length).map f).toArray else f 0) w:=by
 obtain⟨i,hi,his,_⟩:=hti.info;simp only[Instr.loadAt,Instr.sureAddr,Sem.run_bind,Sem.run_pure,Result.andThen_ok,loadVar,hti.isAgg w];cases hagg:Q5 ti.desc with
 |true=>
  simp only[if_true,Sem.run_bind,Xj hi,Result.andThen_ok,his];rw[run_loadCells w ⟨b,o,none⟩ ti.cells.length f (λj hj=>by rw[add_plain];exact hc j hj)]
  simp
 |false=>
  simp_all
end
def Qo {α:Type}: ∀(l:List α) (j:Nat) (cs:List α),j+cs.length<=l.length->Qd l j cs=l.take j++cs++l.drop (j+cs.length)
 |l,j,[],_=>by cases l<;>simp[Qd]
 |[],j,c::cs,h=>by simp at h
 |x::l,0,c::cs,h=>by
  have:=Qo l 0 cs (by simp at h⊢;omega)
  simp only[Qd,this];simp
 |x::l,j+1,c::cs,h=>by
  have:=Qo l j (c::cs) (by simp at h⊢;omega)
  simp only[Qd,this]
  grind
section
variable {P:Program} {CO:qx} {T:TT} {E:Entry} {D:Nat->Prop} {β:Beta} {who:Who} {U U':Slots} {hd:List (AV×Value)} {a:Act} {w:World} {R W:List Nat}
def q6a {t:Nat} {ti:TI} (hti:TIok P t ti) {ty:Ty} {xs:List (Den ty)} {b o i j:Nat} {v:AV} (hE:Elems who w ty xs b o) (hi:i<xs.length)
 (h:partOf ti.cells.length (Q5 ti.desc) ((unpack ty (xs.getD i ty.zero)).map immC) j=some v):
 ∃r,(Instr.loadAt t (.pointer (some ⟨b,o+i*ty.size+j,none⟩))).run P w= .ok r w/\Rel β who w v r/\names v=[]/\occ v=[]:=by
 have hx:xs.getD i ty.zero=xs[i]:=by simp[List.getD,List.getElem?_eq_getElem hi]
 rw[hx]at h;obtain⟨hl,hu⟩:=Jo (β:=β) (hE i hi)
 let f:Nat->Value:=λj'=>(cellAt w b (o+i*ty.size) j').getD undef
 have hf: ∀j',j'<ty.size->cellAt w b (o+i*ty.size) j'=some (f j'):=λj' hj'=>by
  grind
 obtain⟨p1,p2,p3,p4,p5⟩:=qaa (β:=β) (who:=who) (w:=w) (f:=f) h (λj' hj'=>by
  grind)
 simp only[zh1,hl]at p1
 have hrun:=Y0 hti (b:=b) (o:=o+i*ty.size+j) (f:=λj'=>f (j+j')) w (λj' hj'=>by
  have:=hf (j+j') O;simp only[cellAt]at this
  grind) p3
 refine⟨_,hrun,by simpa using p2,?_,?_⟩
 . rw[p4];exact Q9 λc hc=>(Jd (zq1 (zE1 hc))).1
 . rw[p5];exact Q9 λc hc=>(Jd (zq1 (zE1 hc))).2.1
def q7i {t:Nat} {ti:TI} (hti:TIok P t ti) {s n sz i j:Nat} {v:AV} {c:Value} (S:Sim E D β who U hd a w) (hx:qbw (β n) sz i j c)
 (h:Jv ti.cells.length (Q5 ti.desc) n sz i j (U.get s)=some v):
 ∃r,(Instr.loadAt t c).run P w= .ok r w/\Rel β who w v r/\names v=[]/\occ v=[]:=by
 unfold Jv at h;split at h
 . rename_i ty xs hf;split at h
   . rename_i hsz;subst hsz;obtain⟨g1,g2⟩:=q6o (S.rel s) hf;rcases hx with⟨b,o,L,cap,e1,e2,rfl⟩|⟨b,e1,_,_⟩
     . rcases g1.2 with⟨e3,_⟩|⟨b',o',cap',arr,el,e3,e4,e5,e6,e7,e8⟩
       . rw[e3]at e1;cases e1
       . rw[e3]at e1;injection e1 with q1 q2 q3
         injection q1 with q1;injection q1 with q1 q1' _
         subst q1 q1' q2 q3;exact q6a hti e8 e2 h
     . rcases g1.2 with⟨e3,_⟩|⟨b',o',cap',arr,el,e3,_⟩<;>(rw[e3]at e1;cases e1)
   . cases h
 . cases h
def Ze {mode t:Nat} {ti:TI} {s n sz i j:Nat} {v:AV} {c:Value} (hti:TIok P t ti) (S0:Sim E D β who U hd a w) (hx:qbw (β n) sz i j c)
 (h:Run CO (qac mode ti s n sz i j) U v U' R W): ∃r,(Instr.loadAt t c).run P w= .ok r w/\Sim E D β who U' ((v,r)::hd) a w:=by
 obtain⟨av,U1,_,_,_,_,h1,h2⟩:=kA h;obtain⟨rfl,rfl⟩:=kD h1
 have node: ∀v',Jv ti.cells.length (Q5 ti.desc) n sz i j (U1.get s)=some v'-> ∃r,(Instr.loadAt t c).run P w= .ok r w/\Sim E D β who U1 ((v',r)::hd) a w:=by
  intro v' hv';obtain⟨r,g1,g2,g3,g4⟩:=q7i hti S0 hx hv';exact⟨r,g1,S0.take0 g2 g3 (λn hn=>by rw[g4]at hn;cases hn)⟩
 have key: ∀x,q2v ti.cells.length (Q5 ti.desc) mode s n sz i j (U1.get s)=some x->
  ∃r,(Instr.loadAt t c).run P w= .ok r w/\Sim E D β who (match x.2 with|none=>U1|some a'=>U1.set s a') ((x.1,r)::hd) a w:=by
  intro x hx';unfold q2v at hx';split at hx'
  . rename_i m cells hav;split at hx'
    . rename_i hmn;subst hmn;have hb:=S0.rel s;rw[hav]at hb;obtain⟨hβ,b,arr,el,e1,e2,e3,e4⟩:=hb
      have hc:c= .pointer (some ⟨b,j,none⟩):=by
       rcases hx with⟨b',o',L,cap,q1,_,_⟩|⟨b',q1,_,q3⟩
       . grind
       . grind
      subst hc
      have hmem: ∀j',j'<arr.size->w.cell? ⟨b,j',none⟩=some (arr.getD j' undef):=λj' hj'=>by
       simp[World.cell?,e2,hj',Array.getD]
      split at hx'
      . rename_i hmode;cases hp:partOf ti.cells.length (Q5 ti.desc) cells j with
        |none=>simp[hp]at hx'
        |some v'=>
         simp only[hp,zf1,zH]at hx';subst hx';obtain⟨p1,p2,p3,p4,p5⟩:=qaa (β:=β) (who:=who) (w:=w) (f:=λj'=>arr.getD j' undef) hp e4.2
         have hrun:=Y0 hti (b:=b) (o:=j) (f:=λj'=>arr.getD (j+j') undef) w (λj' hj'=>hmem _ (by rw[e4.1];omega)) p3
         refine⟨_,hrun,?_⟩;simp only
         have hdr:Yt cells j ti.cells.length=cells.take j++List.replicate ti.cells.length .dead++cells.drop (j+ti.cells.length):=by
          unfold Yt;rw[Qo _ _ _ (by simpa using p1)];simp
         have hsplit:cells=cells.take j++(cells.drop j).take ti.cells.length++cells.drop (j+ti.cells.length):=by
          rw[zG1,<-List.drop_drop,zQ1,zQ1]
         have hnn:names (.bx (.nm m) cells)=m::(cells.take j).flatMap qc++((cells.drop j).take ti.cells.length).flatMap qc++(cells.drop (j+ti.cells.length)).flatMap qc:=by
          conv=>lhs;rw[hsplit]
          simp[names,qi]
         have hnd:names (.bx (.nm m) (Yt cells j ti.cells.length))=m::(cells.take j).flatMap qc++(cells.drop (j+ti.cells.length)).flatMap qc:=by
          rw[hdr];have:(List.replicate ti.cells.length AV.dead).flatMap qc=[]:=Q9 λc hc=>by rw[(zF3.1 hc).2];rfl
          simp[names,qi,this]
         have hNod:=S0.nod s;rw[hav,hnn]at hNod;have hlen:(Yt cells j ti.cells.length).length=cells.length:=by rw[hdr];simp;omega
         have S1:=S0.abs (s:=s) (v:= .bx (.nm m) (Yt cells j ti.cells.length)) ⟨hβ,b,arr,el,e1,e2,e3,by rw[e4.1,hlen],λj' hj'=>by
          have hj'':j'<cells.length:=by rw[<-hlen];exact hj'
          by_cases hin:j<=j'/\j'<j+ti.cells.length
          . have:(Yt cells j ti.cells.length)[j']= .dead:=by
             simp only[hdr];rw[zC1 (by simp;omega),zZ1 (by simp;omega)]
             simp
            rw[this];trivial
          . have:(Yt cells j ti.cells.length)[j']=cells[j']:=by
             simp only[hdr];by_cases hlt:j'<j
             . grind
             . grind
            rw[this];exact e4.2 j' hj''⟩
          (by grind)
          (by
            grind)
          (by
            intro n hn;refine S0.occ s n ?_;rw[hav];simp only[Vs.occ,occA,zJ]at hn⊢;rcases hn with hn|hn
            . exact .inl hn
            . refine .inr ?_;rw[hdr]at hn;have hr0:(List.replicate ti.cells.length AV.dead).flatMap occC=[]:=Q9 λc hc=>by rw[(zF3.1 hc).2];rfl
              grind)
         have hpn: ∀x∈names v',x∈names (U1.get s):=by
          rw[p4,hav,hnn];intro x hx;simp[hx]
         exact{S1 with
          hrel:=λy hy=>by rcases mC hy with rfl|hy;simpa using p2;exact S1.hrel y hy
          hnod:=by
           simp only[fC];refine zG.2 ⟨?_,S0.hnod,λn h1 m' h2=> ?_⟩
           . grind
           . rintro rfl
             obtain⟨y,hy,hn⟩:=zC.1 h2;exact S0.hdis y hy n hn s (hpn n h1)
          hdis:=λy hy=>by
           rcases mC hy with rfl|hy
           . intro x hx0 t ht;have hxn:x∈names v':=hx0;by_cases e:t=s
             . subst e;rw[qh,hnd]at ht
               grind
             . rw[qg _ _ e]at ht;exact e (S0.dis t s x ht (hpn x hx0))
           . exact S1.hdis y hy
          hocc:=λy hy=>by
           rcases mC hy with rfl|hy
           . intro x hx;refine S0.occ s x ?_;rw[hav];simp only[p5]at hx;simp only[Vs.occ,occA,zJ]
             grind
           . exact S1.hocc y hy}
      . cases hp:partOf ti.cells.length (Q5 ti.desc) (cells.map (Qr s)) j with
        |none=>simp[hp]at hx'
        |some v'=>
         simp only[hp,zf1,zH]at hx';subst hx';have e4':=e4.map (Qr s) (λc _ v hv=>q91 hv)
         obtain⟨p1,p2,p3,p4,p5⟩:=qaa (β:=β) (who:=who) (w:=w) (f:=λj'=>arr.getD j' undef) hp e4'.2
         simp only[zh1]at p1;have hrun:=Y0 hti (b:=b) (o:=j) (f:=λj'=>arr.getD (j+j') undef) w (λj' hj'=>hmem _ (by rw[e4.1];omega)) p3
         refine⟨_,hrun,S0.take0 (by simpa using p2) ?_ ?_⟩
         . rw[p4];exact Q9 λc hc=>by
            obtain⟨d,_,rfl⟩:=zM.1 (zq1 (zE1 hc));exact q36
         . intro x hx;rw[p5]at hx;obtain⟨c,hc,hx⟩:=zC.1 hx;obtain⟨d,hd',rfl⟩:=zM.1 (zq1 (zE1 hc));have hx:=q8d _ hx;refine S0.occ s x ?_;rw[hav];simp only[Vs.occ,occA,zJ];exact .inr (zC.2 ⟨d,hd',hx⟩)
    . rw[<-hav]at hx';cases hn:Jv ti.cells.length (Q5 ti.desc) n sz i j (U1.get s)with
      |none=>simp[hn]at hx'
      |some v'=>
       grind
  . cases hn:Jv ti.cells.length (Q5 ti.desc) n sz i j (U1.get s)with
    |none=>simp[hn]at hx'
    |some v'=>
     grind
 split at h2
 . rename_i v' hls;obtain⟨rfl,rfl⟩:=kB h2;exact key _ hls
 . rename_i v' a' hls;obtain⟨_,U2,_,_,_,_,h3,h4⟩:=kA h2;have:=kE h3;subst this;obtain⟨rfl,rfl⟩:=kB h4;exact key _ hls
 . exact(kC h2).elim
def q1e {s:Nat}: ∀{size j:Nat} {cs:List AV} {R W:List Nat} {U U':Slots},Run CO (q5b s j size) U cs U' R W->(∀vs,U.get s≠ .tup vs)->(∀n t xs h,U.get s≠ .dp n t xs h)->U'=U/\cs.length=size/\
 (0<size-> ∃m cells,U.get s= .bx (.nm m) cells/\j+size<=cells.length/\cs=((cells.map (Qr s)).drop j).take size)
 |0,j,cs,R,W,U,U',h,_,_=>by
  obtain⟨rfl,rfl⟩:=kB h
  grind
 |size+1,j,cs,R,W,U,U',h,hnt,hnd=>by
  obtain⟨av,U1,_,_,_,_,h1,h2⟩:=kA h;obtain⟨hav,rfl⟩:=kF h1;split at h2
  . rename_i c;obtain⟨cs',U2,_,_,_,_,h3,h4⟩:=kA h2;obtain⟨rfl,hl,hc⟩:=q1e h3 hnt hnd;obtain⟨rfl,rfl⟩:=kB h4;refine⟨rfl,by simp[hl],λ_=> ?_⟩
    simp only[vwf]at hav;split at hav
    . unfold cellV at hav;split at hav
      . rename_i m cells hb;cases hcj:cells[j]? with
        |none=>rw[hcj]at hav;cases hav
        |some c0=>
         rw[hcj]at hav;simp only[zf1,zH]at hav;obtain⟨hj,e0⟩:=List.getElem?_eq_some_iff.1 hcj;subst e0
         have hd:(cells.map (Qr s)).drop j=Qr s cells[j]::(cells.map (Qr s)).drop (j+1):=by
          rw[List.drop_eq_getElem_cons (by simpa using hj)];simp
         grind
      . grind
      . grind
      . cases hav
    . cases hav
  . exact(kC h2).elim
def q8e (hT:TTok P T) {mode t:Nat} {p v:AV} {c:Value} (h:Run CO (qgc T mode t p) U v U' R W) (S:Sim E D β who U ((p,c)::hd) a w):
 ∃r,(Instr.loadAt t c).run P w= .ok r w/\Sim E D β who U' ((v,r)::hd) a w:=by
 have hx:=S.hrel _ mS;have S0:=S.drop rfl;unfold qgc at h;split at h
 . exact(kC h).elim
 . rename_i ti hti';have hti:=hT t _ hti';split at h
   . rename_i ty xs i j;obtain⟨e,rfl⟩:=Run.mopt' h;obtain⟨b,o,rfl,hi,q1,q2,q3⟩:=hx;obtain⟨r,h1,h2,h3,h4⟩:=q6a (β:=β) hti q3 hi e;exact⟨r,h1,S0.take0 h2 h3 (λn hn=>by rw[h4]at hn;cases hn)⟩
   . rename_i s n sz i j;split at h
     . exact Ze hti S0 hx h
     . rename_i mode hmode;obtain⟨al,U1,_,_,_,_,h1,h2⟩:=kA h;obtain⟨hal,rfl⟩:=kF h1;split at h2
       . rename_i m hbn;split at h2
         . rename_i hm;obtain⟨hmn,hpos⟩:=hm;subst hmn;obtain⟨cs,U2,_,_,_,_,h3,h4⟩:=kA h2
           obtain⟨rfl,hl,hc⟩:=q1e h3 (λvs e=>by
            rw[e]at hal;subst hal;cases hbn) (λn t xs h e=>by
            rw[e]at hal;subst hal;cases hbn)
           obtain⟨m',cells,hb,hle,rfl⟩:=hc hpos;obtain⟨ha,rfl⟩:=Run.mopt' h4
           have hm':m'=m:=by
            rw[hb]at hal;subst hal;simp only[vwf,alias,boxNm,zH]at hbn;exact hbn
           subst hm'
           have hp:partOf ti.cells.length (Q5 ti.desc) (cells.map (Qr s)) j=some v:=by
            unfold partOf;rw[iP (by simpa using hle)];exact ha
           refine Ze (CO:=CO) (mode:=0) (R:=[32*s]) (W:=[]) (sz:=sz) (i:=i) (j:=j) (s:=s) hti S0 hx (.get ?_)
           have:q2v ti.cells.length (Q5 ti.desc) 0 s m' sz i j (U'.get s)=some (v,none):=by
            rw[hb];unfold q2v;simp only[if_true];rw[iN' (by decide)]
            rw[hp];rfl
           simp only[M.bind,this];exact .ret
         . exact Ze hti S0 hx h2
       . exact Ze hti S0 hx h2
   . exact(kC h).elim
end
def Dn (D:Nat->Prop) (idx:Nat):Nat->Prop:=λn=>D n\/ ∃k,k<16/\n=fresh idx k
def Dn_fn {D:Nat->Prop} {idx:Nat} (h: ¬D FN): ¬Dn D idx FN:=by
 rintro (h'|⟨k,hk,e⟩)
 . exact h h'
 . simp only[FN,fresh]at e;omega
def nilS:Value:= .slice none 0 0
section
variable {P:Program} {CO:qx} {T:TT} {E:Entry} {D:Nat->Prop} {β:Beta} {who:Who} {U U':Slots} {hd:List (AV×Value)} {a:Act} {w w':World} {R W:List Nat}
def Sim.make {idx:Nat} {v0 v:AV} {c0 c c1:Value} {o:Obj} (S:Sim E D β who U ((v0,c0)::hd) a w) (hf: ∀k,k<16-> ¬D (fresh idx k))
 (hw:w'.heap=w.heap.push o)
 (hv: ∀β' who',(∀k,k<15->β' (fresh idx k)=nilS)->β' (fresh idx 15)=c1->who' w.heap.size=some (fresh idx 15)->
   (∀b,who b=none->b<w.heap.size->who' b=none)->Rel β' who' w' v0 c0->Rel β' who' w' v c)
 (hn: ∀n∈names v,n∈names v0\/ ∃k,k<16/\n=fresh idx k) (hnd:(names v).Nodup) (ho: ∀n∈Vs.occ v,Dn D idx n) (h4:w'.os=w.os/\w'.output=w.output:=by exact⟨rfl,rfl⟩):
 ∃β' who',Sim E (Dn D idx) β' who' U ((v,c)::hd) a w':=by
 let β':Beta:=λx=>if x=fresh idx 15 then c1 else if fresh idx 0<=x/\x<fresh idx 15 then nilS else β x
 let who':Who:=λb=>if b=w.heap.size then some (fresh idx 15)else who b
 have hsz:w'.heap.size=w.heap.size+1:=by rw[hw];simp
 have hβ: ∀n,D n->β' n=β n:=λn hdn=>by
  simp only[β'];rw[iN' (by grind),iN']
  rintro ⟨h1,h2⟩
  refine hf (n-fresh idx 0) (by simp only[fresh]at*;omega) ?_
  rwa [show fresh idx (n-fresh idx 0)=n by simp only[fresh]at*;omega]
 have hwn:who w.heap.size=none:=by
  cases h:who w.heap.size with
  |none=>rfl
  |some n=>exact absurd (S.wsz _ _ h) (Nat.lt_irrefl _)
 have S':=S.keep (β':=β') (who':=who') (w':=w') hβ
  (λb n hb=>by grind)
  (λb hb=>by grind)
  (λb hb hlt=>by grind)
  (fun b n hb=>by
    simp only[who']at hb;split at hb
    . omega
    . have:=S.wsz b n hb;omega)
  O h4
 have hvr:=hv β' who' (λk hk=>by
  simp only[β'];rw[iN' (by simp only[fresh];omega),iP (by simp only[fresh];omega)]) (by simp[β']) (by simp[who'])
  (λb hb hlt=>by grind) (S'.hrel _ mS)
 have hfr: ∀k,k<16-> ∀s,fresh idx k∉names (U.get s):=λk hk s h=>hf k hk (S.occ s _ (qj h))
 have hfh: ∀k,k<16-> ∀x∈hd,fresh idx k∉names x.1:=λk hk x hx h=>hf k hk (S.hocc x (mT hx) _ (qj h))
 refine⟨β',who',?_⟩;have S1:=(S'.drop rfl).mono (D':=Dn D idx) (λn h=> .inl h) (Dn_fn S.dfn)
 have hno:=S.hnod;simp only[fC]at hno
 exact{S1 with
  hrel:=λy hy=>by rcases mC hy with rfl|hy;exact hvr;exact S1.hrel y hy
  hnod:=by
   grind
  hdis:=λy hy=>by
   rcases mC hy with rfl|hy
   . intro n h1 s h2;rcases hn n h1 with h|⟨k,hk,rfl⟩
     . exact S.hdis _ mS n h s h2
     . exact hfr k hk s h2
   . exact S1.hdis y hy
  hocc:=λy hy=>by rcases mC hy with rfl|hy;exact ho;exact S1.hocc y hy}
def Sim.take_dead (S:Sim E D β who U hd a w):Sim E D β who U ((.dead,undef)::hd) a w:=
 S.take0 (v:= .dead) trivial rfl (λn hn=>by cases hn)
def Qj: ∀t:Ty,(Qb t).length=t.size
 | .int _=>rfl
 | .bool=>rfl
 | .sl _ _=>rfl
 | .opq=>rfl
 | .pr a b=>by simp[Qb,Ty.size,Qj a,Qj b]
def q0e: ∀(t:Ty) (g:Nat->Option Value) (j0:Nat),(∀j (h:j<(Qb t).length),g (j0+j)=some ((Qb t)[j]))->RelI who w t t.zero g j0
 | .int k,g,j0,h=>by have:=h 0 (by simp[Qb]);simpa [Qb,RelI,Ty.zero]using this
 | .bool,g,j0,h=>by have:=h 0 (by simp[Qb]);simpa [Qb,RelI,Ty.zero]using this
 | .sl b t,g,j0,h=>by
   have:=h 0 (by simp[Qb])
   exact⟨.slice none 0 0,by simpa [Qb]using this,.inl ⟨rfl,rfl⟩⟩
 | .opq,g,j0,h=>by
   have:=h 0 (by simp[Qb])
   exact⟨.map none,by simpa [Qb]using this,rfl⟩
 | .pr a b,g,j0,h=>by
   refine⟨q0e a g j0 λj hj=> ?_,q0e b g (j0+a.size) λj hj=> ?_⟩
   . rw[h j (by simp[Qb];omega)]
     simp only[Qb];grind
   . have e:j0+a.size+j=j0+((Qb a).length+j):=by rw[Qj];omega
     rw[e,h ((Qb a).length+j) (by simp[Qb];omega)]
     simp only[Qb];grind
def Ty.size_pos: ∀t:Ty,0<t.size
 | .int _=>Nat.one_pos
 | .bool=>Nat.one_pos
 | .sl _ _=>Nat.one_pos
 | .opq=>Nat.one_pos
 | .pr a b=>by have:=Ty.size_pos a;simp only[Ty.size];omega
def q7d {t:Ty} {zs:Array Value} {b n m:Nat} {el:TypeId} (hz:zs.toList=Qb t) (hb:w.heap[b]? =some (.cells ((Array.range (m*t.size)).map λi=>zs[i%zs.size]!) el (0,0))) (hnm:n<=m):
 Elems who w t (List.replicate n t.zero) b 0:=by
 intro i hi;have hi':i<n:=by simpa using hi
 have hzs:zs.size=t.size:=by rw[<-Array.length_toList,hz,Qj]
 have hp:=Ty.size_pos t;simp only[List.getElem_replicate];refine q0e t _ 0 λj hj=> ?_
 have hj':j<t.size:=by rw[<-Qj];exact hj
 have hlt:i*t.size+j<m*t.size:=by
  have:(i+1)*t.size<=m*t.size:=zN _ O;rw[zP1]at this;omega
 have hmod:(i*t.size+j)%t.size=j:=by rw[zh,Nat.mul_add_mod,zU1 hj']
 have hg:zs[j]! =(Qb t)[j]:=by
  have:j<zs.size:=O;rw[getElem!_pos zs j this];simp only[<-hz,Array.getElem_toList]
 simp only[cellAt,World.cell?,hb,zK];simp[hlt,hzs,hmod,hg]
def qi6 (hT:TTok P T) {idx t:Nat} {l c v:AV} {cl cc:Value} (h:Run CO (qku T idx t l c) U v U' R W) (S:Sim E D β who U hd a w)
 (hl:Rel β who w l cl) (hc:Rel β who w c cc) (hf: ∀k,k<16-> ¬D (fresh idx k)):
 ∃r w' β' who',(Instr.makeSlice t cl cc).run P w= .ok r w'/\Sim E (Dn D idx) β' who' U' ((v,r)::hd) a w':=by
 unfold qku at h;split at h
 . rename_i e ty cells l c hti;have hl':cl= .int .i64 l:=hl;have hc':cc= .int .i64 c:=hc;subst hl' hc';obtain⟨_,U1,_,_,_,_,h1,h2⟩:=kA h;obtain⟨⟨m0,m1,m2⟩,rfl⟩:=kG h1;obtain⟨rfl,rfl⟩:=kB h2;obtain⟨hu,⟨ei,ez,he,hes,hb,hb0,hz,hzc⟩⟩:=(hT t _ hti).desc
   have hbb:(ei.bytes:Int)*c<=4096*1073741824:=by
    have h1:(ei.bytes:Int)<=4096:=O
    calc (ei.bytes:Int)*c<=(ei.bytes:Int)*1073741824:=Int.mul_le_mul_of_nonneg_left m2 O
     _<=4096*1073741824:=Int.mul_le_mul_of_nonneg_right h1 O
   have hbl:(ei.bytes:Int)*c<=281474976710656:=O;have hrun:=run_make (P:=P) w t e ei ez hu he hz .i64 .i64 l c m0 m1 O O
   obtain⟨β',who',S'⟩:=Sim.make (idx:=idx) (v:= .sl (.nm (fresh idx 15)) ty (List.replicate l.toNat ty.zero)) (c:= .slice (some ⟨w.heap.size,0,none⟩) l.toNat c.toNat)
    (c1:= .slice (some ⟨w.heap.size,0,none⟩) l.toNat c.toNat)
    (w':=w.alloc (.cells (madeCells ez.cells (c.toNat*ei.size)) e)) S.take_dead hf rfl
    (fun β' who' g1 g2 g3 g4 _=>by
      refine⟨g2.symm,.inr ⟨w.heap.size,0,c.toNat,madeCells ez.cells (c.toNat*ei.size),e,by simp,heap_alloc_new w _,by simp[size_madeCells,hes],by simp;omega,g3,?_⟩⟩
      exact q7d (zs:=ez.cells) (m:=c.toNat) (el:=e) hzc (by rw[<-hes];exact heap_alloc_new w _) O)
    (λn hn=> .inr ⟨15,O,by simpa [names,qi,qc]using hn⟩) (by simp[names,qi,qc])
    (λn hn=> .inr ⟨15,O,by simpa [Vs.occ,occA,occC]using hn⟩)
   exact⟨_,_,β',who',hrun,S'⟩
 . exact(kC h).elim
def qjy {β:Beta} {who:Who} {w:World} {v:AV} {c:Value} (h:RelC β who w v c):RelC β who w (immNl v) c:=by
 unfold immNl;split
 . obtain⟨h1,h2⟩:=h;exact .inl ⟨h1,h2⟩
 . exact h
def q53 {v:AV}:qc (immNl v)=qc v/\occC (immNl v)=occC v:=by
 unfold immNl;split<;>exact⟨rfl,rfl⟩
def qmw {β:Beta} {who:Who} {w:World} {v:AV} {c:Value} (h:RelC β who w v c):RelC β who w (dpNl v) c:=by
 unfold dpNl;split<;>exact h
def q8z {v:AV}:qc (dpNl v)=qc v/\occC (dpNl v)=occC v:=by
 unfold dpNl;split<;>exact⟨rfl,rfl⟩
def qop {β:Beta} {who:Who} {w:World} {m:Nat} {v:AV} {c:Value} (h:Rel β who w v c):Rel β who w (nlI m v) c/\names (nlI m v)=names v/\Vs.occ (nlI m v)=Vs.occ v:=by
 unfold nlI;split
 . split
   . rename_i cells;obtain⟨arr,e1,e2⟩:=h;refine⟨⟨arr,e1,e2.map _ (λc _ v hv=>qmw hv)⟩,?_,?_⟩
     . simp only[names,qi,zd2];congr 1;funext c;exact q8z.1
     . simp only[Vs.occ,occA,zd2];congr 1;funext c;exact q8z.2
   . exact⟨h,rfl,rfl⟩
 . split
   . rename_i cells;obtain⟨arr,e1,e2⟩:=h;refine⟨⟨arr,e1,e2.map _ (λc _ v hv=>qjy hv)⟩,?_,?_⟩
     . simp only[names,qi,zd2];congr 1;funext c;exact q53.1
     . simp only[Vs.occ,occA,zd2];congr 1;funext c;exact q53.2
   . unfold immNl;split
     . obtain⟨h1,h2⟩:=h;exact⟨.inl ⟨h1,h2⟩,rfl,rfl⟩
     . exact⟨h,rfl,rfl⟩
 . exact⟨h,rfl,rfl⟩
def Sim.nlI {m:Nat} {v:AV} {c:Value} (S:Sim E D β who U ((v,c)::hd) a w):Sim E D β who U ((Vs.nlI m v,c)::hd) a w:=by
 obtain⟨h1,h2,h3⟩:=qop (m:=m) (S.hrel _ mS)
 exact{S with
  hrel:=λy hy=>by rcases mC hy with rfl|hy;exact h1;exact S.hrel y (mT hy)
  hnod:=by have:=S.hnod;grind
  hdis:=λy hy=>by
   rcases mC hy with rfl|hy
   . simp only[h2];exact S.hdis _ mS
   . exact S.hdis y (mT hy)
  hocc:=λy hy=>by
   rcases mC hy with rfl|hy
   . exact λn hn=>S.hocc _ mS n (h3▸hn)
   . exact S.hocc y (mT hy)}
end
def Yu {idx j k:Nat} (h:fresh idx j=fresh idx k):j=k:=by simp only[fresh]at h;omega
def Za {β:Beta} {who:Who} {w:World} {c:AV} {v:Value} (h:RelC β who w c v) (hd:c≠ .dead):v.oneCell'=true:=by
 cases c with
 |dead=>exact absurd rfl hd
 |bool b=>cases h;rfl
 |int k n=>cases h;rfl
 |lit u=>obtain⟨rfl,h⟩:=h;exact h
 |sl o t xs=>
  cases o with
  |imm=>rcases h with⟨rfl,_⟩|⟨b,o,cap,rfl,_⟩<;>rfl
  |nl=>obtain⟨rfl,_⟩:=h;rfl
  |nm n=>obtain⟨_,h⟩:=h;rcases h with⟨rfl,_⟩|⟨b,o,cap,_,_,rfl,_⟩<;>rfl
  |inn=>exact h.elim
 |bx o cs=>exact h.elim
 |agg cs=>exact h.elim
 |tup vs=>exact h.elim
 |ref s n sz win=>
  cases win with
  |none=>obtain⟨rfl,a,L,cap,e⟩:=h;rw[e];rfl
  |some ol=>obtain⟨a,L,cap,a',_,_,rfl,_⟩:=h;rfl
 |ptr s n sz i j=>rcases h with⟨_,_,_,_,_,_,rfl⟩|⟨_,_,_,rfl⟩<;>rfl
 |iptr g t xs i j=>obtain⟨_,_,rfl,_⟩:=h;cases g<;>rfl
 |dp n t xs hh=>obtain⟨_,h⟩:=h;rcases h with⟨rfl,_⟩|⟨b,o,cap,arr,el,rfl,_⟩<;>rfl
 |wn n t xs=>rcases h.1.2 with⟨e,_⟩|⟨b,o,cap,arr,el,e,_⟩<;>(rw[e];rfl)
 |mm n t xs o=>cases o with
  |false=>obtain⟨_,b,o,cap,arr,el,rfl,_⟩:=h;rfl
  |true=>obtain⟨ys,rfl,_,b,es,rfl,_⟩:=h;rfl
 |fd n t xs hh=>rcases h.1.2 with⟨e,_⟩|⟨b,o,cap,arr,el,e,_⟩<;>(rw[e];rfl)
 |dq n t xs hh=>obtain⟨_,h⟩:=h;rcases h with⟨rfl,_⟩|⟨b,o,cap,arr,el,rfl,_⟩<;>rfl
 |dr s n k=>
  cases k with
  |whole=>obtain⟨rfl,_,_,_,e⟩:=h;rw[e];rfl
  |lenw l=>rcases h.2 with⟨e,_⟩|⟨_,_,_,e⟩<;>(rw[e];rfl)
  |row i=>obtain⟨rfl,⟨_,_,_,e⟩,_⟩:=h;rw[e];rfl
  |cell i=>obtain⟨_,_,_,_,_,_,rfl⟩:=h;rfl
  |mrow j i=>obtain⟨_,⟨b,rfl⟩,_⟩:=h;cases b<;>rfl
  |mlen l=>obtain⟨_,_,_,_,rfl⟩:=h;rfl
  |mown=>obtain⟨_,b,rfl⟩:=h;cases b<;>rfl
  |mcell i=>obtain⟨_,_,_,_,_,_,rfl⟩:=h;rfl
  |elem sz i j k=>obtain⟨_,_,_,_,_,_,rfl,_⟩:=h;rfl
def q56 {β:Beta} {who:Who} {w:World} {n:Nat} {c c':AV} {v:Value} (h:Qq n c=some c') (hr:RelC β who w c v):v.oneCell'=true:=by
 cases c with
 |ref s n sz win=>cases h
 |dead=>cases h
 |_=>exact Za hr (by simp)
def q7a {β:Beta} {who:Who} {w:World} {n:Nat} {c c':AV} {v:Value} (h:Qq n c=some c') (hr:RelC β who w c v) (hβ:β n=nilS):RelC β who w c' v:=by
 cases c with
 |sl o t xs=>
  cases o with
  |nl=>
   simp only[Qq,zH]at h;subst h;obtain⟨rfl,rfl⟩:=hr;unfold nlOwn;split
   . exact⟨by rw[hβ];rfl,.inl ⟨rfl,rfl⟩⟩
   . exact⟨hβ.symm,.inl ⟨rfl,rfl⟩⟩
  |imm=>simp only[Qq,zH]at h;subst h;exact hr
  |nm m=>simp only[Qq,zH]at h;subst h;exact hr
  |inn=>cases h
 |bool b=>simp only[Qq,zH]at h;subst h;exact hr
 |int k x=>simp only[Qq,zH]at h;subst h;exact hr
 |lit u=>simp only[Qq,zH]at h;subst h;exact hr
 |dp m t xs hh=>
  cases hh with
  |none=>simp only[Qq,zH]at h;subst h;exact hr
  |some k=>cases h
 |mm m t xs o=>
  cases o with
  |false=>simp only[Qq,zH]at h;subst h;exact hr
  |true=>simp only[Qq,zH]at h;subst h;exact hr
 |_=>cases h
def qad {n:Nat} {c c':AV} (h:Qq n c=some c'):(qc c'=qc c/\occC c'=qc c)\/(qc c=[]/\qc c'=[n]/\occC c'=[n]):=by
 cases c with
 |sl o t xs=>
  cases o with
  |nl=>simp only[Qq,zH]at h;subst h;unfold nlOwn;split<;>exact .inr ⟨rfl,rfl,rfl⟩
  |imm=>simp only[Qq,zH]at h;subst h;exact .inl ⟨rfl,rfl⟩
  |nm m=>simp only[Qq,zH]at h;subst h;exact .inl ⟨rfl,rfl⟩
  |inn=>cases h
 |bool b=>simp only[Qq,zH]at h;subst h;exact .inl ⟨rfl,rfl⟩
 |int k x=>simp only[Qq,zH]at h;subst h;exact .inl ⟨rfl,rfl⟩
 |lit u=>simp only[Qq,zH]at h;subst h;exact .inl ⟨rfl,rfl⟩
 |dp m t xs hh=>
  cases hh with
  |none=>simp only[Qq,zH]at h;subst h;exact .inl ⟨rfl,rfl⟩
  |some k=>cases h
 |mm m t xs o=>
  cases o with
  |false=>simp only[Qq,zH]at h;subst h;exact .inl ⟨rfl,rfl⟩
  |true=>simp only[Qq,zH]at h;subst h;exact .inl ⟨rfl,rfl⟩
 |_=>cases h
def Zd {idx:Nat}: ∀{k:Nat} {cs cs':List AV},Xy idx k cs=some cs'->
 cs'.length=cs.length/\(∀j (h:j<cs.length) (h':j<cs'.length),k+j<15/\Qq (fresh idx (k+j)) cs[j]=some cs'[j])/\
 (∀n∈cs'.flatMap qc,n∈cs.flatMap qc\/ ∃j,k<=j/\j<15/\n=fresh idx j)/\
 (∀n∈cs'.flatMap occC,n∈cs'.flatMap qc)/\
 ((cs.flatMap qc).Nodup->(∀n∈cs.flatMap qc,∀j,j<15->n≠fresh idx j)->(cs'.flatMap qc).Nodup)
 |k,[],cs',h=>by
  simp only[Xy,zH]at h
  grind
 |k,c::cs,cs',h=>by
  simp only[Xy]at h;split at h
  . rename_i hk;split at h
    . rename_i c1 cs1 h1 h2;injection h with h
      subst h;obtain⟨i1,i2,i3,i4,i5⟩:=Zd h2;have hc:=qad h1;refine⟨by simp[i1],?_,?_,?_,?_⟩
      . intro j hj hj';cases j with
        |zero=>grind
        |succ j=>
         grind
      . grind
      . grind
      . intro hnd hfr;simp only[fC]at hnd hfr⊢;have hnd':=zG.1 hnd;have ih:=i5 hnd'.2.1 (λn hn j hj=>hfr n (by simp[hn]) j hj)
        refine zG.2 ⟨?_,ih,?_⟩
        . grind
        . intro n h1 m h2
          rintro rfl
          rcases hc with⟨e,_⟩|⟨e,e',_⟩
          . grind
          . rw[e']at h1;simp only[zA]at h1;subst h1;rcases i3 _ h2 with h|⟨j,a,b,c⟩
            . grind
            . have:=Yu c;omega
    . cases h
  . cases h
section
variable {P:Program} {CO:qx} {T:TT} {E:Entry} {D:Nat->Prop} {β:Beta} {who:Who} {U U':Slots} {hd:List (AV×Value)} {a:Act} {w w':World} {R W:List Nat}
def Xb {v:Value} (h:v.oneCell'=true):v.cells= #[v]:=by cases v<;>first|rfl|cases h
def q3c {v:AV} {c:Value} (h:Rel β who w v c) {idx:Nat} {cs':List AV} (ho:Xy idx 0 (cellsOf v)=some cs'):
 CellsRel β who w (cellsOf v) c.cells/\names v=(cellsOf v).flatMap qc/\(∀x∈c.cells.toList,x.oneCell'=true):=by
 obtain⟨l1,l2,_⟩:=Zd ho;cases v with
 |agg cells=>
  obtain⟨arr,rfl,h2⟩:=h;refine⟨h2,rfl,?_⟩;intro x hx;obtain⟨j,hj,rfl⟩:=zi hx;have hj':j<cells.length:=by rw[<-h2.1];simpa [Value.cells]using hj
  have:=l2 j hj' (by rw[l1];exact hj')
  have hr:=h2.2 j hj';have e:arr.getD j undef=(Value.agg arr).cells.toList[j]:=by simp[Value.cells,Array.getD,h2.1,hj']
  rw[e]at hr;exact q56 this.2 hr
 |tup vs=>
  have:=(l2 0 (by simp[cellsOf]) (by rw[l1];simp[cellsOf])).2
  simp[cellsOf,Qq]at this
 |bx o cs=>
  have:=(l2 0 (by simp[cellsOf]) (by rw[l1];simp[cellsOf])).2
  simp[cellsOf,Qq]at this
 |_=>
  have h0:=(l2 0 (by simp[cellsOf]) (by rw[l1];simp[cellsOf])).2
  simp only[cellsOf,zv1]at h0;have h1:=q56 (β:=β) (who:=who) (w:=w) (v:=c) h0 h;rw[Xb h1];refine⟨⟨rfl,λj hj=> ?_⟩,by simp[names,qi,cellsOf],λx hx=>by simp at hx;subst hx;exact h1⟩
  have:j=0:=by simp[cellsOf]at hj;exact hj
  subst this;exact h
def Sim.box {idx t:Nat} {v:AV} {c:Value} {cs':List AV} (S:Sim E D β who U ((v,c)::hd) a w) (hf: ∀k,k<16-> ¬D (fresh idx k))
 (ho:Xy idx 0 (cellsOf v)=some cs'):
 ∃β' who',Sim E (Dn D idx) β' who' U ((.bx (.nm (fresh idx 15)) cs',.pointer (some ⟨w.heap.size,0,none⟩))::hd) a (w.alloc (.cells c.cells t)):=by
 have hv:=S.hrel _ mS;obtain⟨g1,g2,g3⟩:=q3c hv ho;obtain⟨l1,l2,l3,l4,l5⟩:=Zd ho;have hnn:=S.hnod;simp only[fC]at hnn;have hvn:=(zG.1 hnn).1;rw[g2]at hvn
 have hfresh: ∀n∈(cellsOf v).flatMap qc,∀j,j<16->n≠fresh idx j:=by
  intro n hn j hj e;rw[<-g2]at hn;exact hf j hj (e▸S.hocc _ mS n (qj hn))
 exact Sim.make (idx:=idx) (v:= .bx (.nm (fresh idx 15)) cs') (c:= .pointer (some ⟨w.heap.size,0,none⟩)) (c1:= .pointer (some ⟨w.heap.size,0,none⟩))
  (w':=w.alloc (.cells c.cells t)) S hf rfl
  (fun β' who' q1 q2 q3 q4 q5=>by
    obtain⟨g1',_,_⟩:=q3c q5 ho;refine⟨q2.symm,w.heap.size,c.cells,t,rfl,heap_alloc_new w _,q3,by rw[g1'.1,l1],λj hj=> ?_⟩
    have hj':j<(cellsOf v).length:=by rw[<-l1];exact hj
    obtain⟨k1,k2⟩:=l2 j hj' hj;exact q7a k2 (g1'.2 j hj') (q1 _ k1))
  (fun n hn=>by
    simp only[names,qi,zJ]at hn
    grind)
  (by
    simp only[names,qi,zU];refine⟨λhn=> ?_,l5 hvn (λn hn j hj=>hfresh n hn j O)⟩
    rcases l3 _ hn with h|⟨j,_,hj,e⟩
    . grind
    . have:=Yu e;omega)
  (fun n hn=>by
    simp only[Vs.occ,occA,zJ]at hn;rcases hn with rfl|hn
    . exact .inr ⟨15,O,rfl⟩
    . rcases l3 n (l4 n hn)with h|⟨j,_,hj,e⟩
      . rw[<-g2]at h;exact .inl (S.hocc _ mS n (qj h))
      . exact .inr ⟨j,O,e⟩)
def qju {idx t:Nat} {v r:AV} {c:Value} (h:Run CO (boxAV T idx t v) U r U' R W) (S:Sim E D β who U ((v,c)::hd) a w)
 (hf: ∀k,k<16-> ¬D (fresh idx k)):
 ∃rv w' β' who',(Instr.box t c).run P w= .ok rv w'/\Sim E (Dn D idx) β' who' U' ((r,rv)::hd) a w':=by
 unfold boxAV at h;split at h
 . exact(kC h).elim
 . split at h
   . exact(kC h).elim
   . obtain⟨cs',ho,h⟩:=Run.ofOpt' h;obtain⟨rfl,rfl⟩:=kB h;obtain⟨β',who',S'⟩:=S.box (t:=t) hf ho;exact⟨_,_,β',who',by simp[Instr.box,newVar,newRow],S'⟩
def q5d: ∀{zs:List ZC} {vs:List AV},q6u zs=some vs->
 ∃us,zs.mapM zcVal=some us/\us.length=zs.length/\vs.length=zs.length/\(∀c∈vs,qc c=[]/\occC c=[])/\
  ∀j (h:j<vs.length) (h':j<us.length),RelC β who w vs[j] us[j]
 |[],vs,h=>by
  simp only[q6u,zH]at h;simp_all
 |z::zs,vs,h=>by
  simp only[q6u]at h;split at h
  . rename_i c cs h1 h2;injection h with h
    subst h;obtain⟨us,e1,e2,e3,e4,e5⟩:=q5d h2
    have hz: ∃u,zcVal z=some u/\RelC β who w c u/\qc c=[]/\occC c=[]:=by
     cases z with
     |other=>cases h1
     |int k=>injection h1 with h1;subst h1;exact⟨_,rfl,rfl,rfl,rfl⟩
     |bool=>injection h1 with h1;subst h1;exact⟨_,rfl,rfl,rfl,rfl⟩
     |nil t=>injection h1 with h1;subst h1;exact⟨_,rfl,⟨rfl,rfl⟩,rfl,rfl⟩
     |mnil=>injection h1 with h1;subst h1;exact⟨_,rfl,⟨rfl,rfl⟩,rfl,rfl⟩
    obtain⟨u,f1,f2,f3⟩:=hz;refine⟨u::us,by grind,by simp[e2],by simp[e3],?_,?_⟩
    . grind
    . grind
  . cases h
def qbj {t:Nat} {ti:TI} (hti:TIok P t ti) {zs:List AV} (hz:q6u ti.cells=some zs):
 ∃z,(zeroValue t).run P w= .ok z w/\CellsRel β who w zs z.cells/\names (.agg zs)=[]/\Vs.occ (.agg zs)=[]/\((∃arr,z= .agg arr)↔Q5 ti.desc=true)/\z.cells.size=ti.cells.length:=by
 obtain⟨us,e1,e2,e3,e4,e5⟩:=q5d (β:=β) (who:=who) (w:=w) hz;obtain⟨i,hi,his,hzz⟩:=hti.info;obtain⟨z,h1,h2,h3⟩:=hzz us e1;have hsz:z.cells.size=us.length:=by rw[<-h2];simp
 refine⟨z,Zr hi h1 w,⟨by rw[hsz,e2,e3],λj hj=> ?_⟩,Q9 λc hc=>(e4 c hc).1,Q9 λc hc=>(e4 c hc).2,h3,by rw[hsz,e2]⟩
 have hj':j<us.length:=by rw[e2,<-e3];exact hj
 have:=e5 j hj hj'
 have e:z.cells.getD j undef=us[j]:=by
  have hlt:j<z.cells.size:=by rw[hsz];exact hj'
  simp only[Array.getD,hlt,dif_pos,<-h2,Array.getInternal_eq_getElem,Array.getElem_toList]
 rw[e];exact this
def Sim.head {v v':AV} {c:Value} (S:Sim E D β who U ((v,c)::hd) a w) (hr:Rel β who w v' c) (hn:names v'=names v) (ho: ∀n∈Vs.occ v',n∈Vs.occ v):Sim E D β who U ((v',c)::hd) a w:=
 {S with
  hrel:=λy hy=>by rcases mC hy with rfl|hy;exact hr;exact S.hrel y (mT hy)
  hnod:=by have:=S.hnod;simpa only[fC,hn]using this
  hdis:=λy hy=>by
   rcases mC hy with rfl|hy
   . simp only[hn];exact S.hdis _ mS
   . exact S.hdis y (mT hy)
  hocc:=λy hy=>by
   rcases mC hy with rfl|hy
   . exact λn h=>S.hocc _ mS n (ho n h)
   . exact S.hocc y (mT hy)}
def qk1 {c:AV} {v:Value} (h:RelC β who w c v):RelC β who w (unlit c) v:=by
 unfold unlit;split
 . trivial
 . exact h
def q6w {c:AV}:qc (unlit c)=qc c/\occC (unlit c)=occC c:=by
 unfold unlit;split
 . exact⟨rfl,rfl⟩
 . exact⟨rfl,rfl⟩
def qca {n:Nat} {cs:List AV}:names (.bx (.nm n) (cs.map unlit))=names (.bx (.nm n) cs)/\ ∀k∈Vs.occ (.bx (.nm n) (cs.map unlit)),k∈Vs.occ (.bx (.nm n) cs):=by
 have e1:(cs.map unlit).flatMap qc=cs.flatMap qc:=by
  rw[zd2];congr 1;funext c;exact q6w.1
 have e2:(cs.map unlit).flatMap occC=cs.flatMap occC:=by
  rw[zd2];congr 1;funext c;exact q6w.2
 exact⟨show n::_=n::_ by rw[e1],λk hk=>by
  have hk:k∈n::(cs.map unlit).flatMap occC:=hk;rw[e2]at hk;exact hk⟩
def qf7 (hT:TTok P T) {idx mode t:Nat} {r:AV} (h:Run CO (qeo T idx mode t) U r U' R W) (S:Sim E D β who U hd a w)
 (hf: ∀k,k<16-> ¬D (fresh idx k)):
 ∃rv w' β' who',(Instr.alloc t true (.tuple #[])).run P w= .ok rv w'/\Sim E (Dn D idx) β' who' U' ((r,rv)::hd) a w':=by
 unfold qeo at h;split at h
 . exact(kC h).elim
 . rename_i ti hti;obtain⟨zs,hz,h⟩:=Run.ofOpt' h;obtain⟨cs,ho,h⟩:=Run.ofOpt' h;obtain⟨rfl,rfl⟩:=kB h;obtain⟨z,g1,g2,g3,g4,g5,g6⟩:=qbj (β:=β) (who:=who) (w:=w) (hT t ti hti) hz;have S1:=S.take0 (v:= .agg zs) (c:= .agg z.cells) ⟨z.cells,rfl,g2⟩ g3 (λn hn=>by rw[g4]at hn;cases hn)
   obtain⟨β',who',S'⟩:=(S1.nlI (m:=mode)).box (t:=t) hf ho;refine⟨_,_,β',who',by simp[Instr.alloc,g1,newVar,newRow];rfl,S'.head ?_ (qca (cs:=cs)).1 (qca (cs:=cs)).2⟩
   obtain⟨q1,b,arr,el,q2,q3,q4,q5,q6⟩:=S'.hrel _ mS;exact⟨q1,b,arr,el,q2,q3,q4,by rw[q5,zh1],λj hj=>by rw[zA1];exact qk1 (q6 j (by simpa using hj))⟩
def qaz (hT:TTok P T) {idx t:Nat} {v r:AV} {c:Value} (h:Run CO (ql4 T idx t v) U r U' R W) (S:Sim E D β who U ((v,c)::hd) a w)
 (hf: ∀k,k<16-> ¬D (fresh idx k)):
 ∃rv w' β' who',(Instr.box t c).run P w= .ok rv w'/\Sim E (Dn D idx) β' who' U' ((r,rv)::hd) a w':=by
 unfold ql4 at h;split at h
 case h_2=>exact(kC h).elim
 rename_i d z0 s n sz i j hti;obtain⟨rfl,rfl⟩:=kB h;have hv:qbw (β n) sz i j c:=S.hrel _ mS;have hDn:D n:=S.hocc _ mS n (by simp[Vs.occ,occA,occC])
 have h1:c.oneCell'=true:=by rcases hv with⟨_,_,_,_,_,_,rfl⟩|⟨_,_,_,rfl⟩<;>rfl
 obtain⟨β',who',S'⟩:=Sim.make (idx:=idx) (v:= .bx (.nm (fresh idx 15)) [.ptr s n sz i j]) (c:= .pointer (some ⟨w.heap.size,0,none⟩)) (c1:= .pointer (some ⟨w.heap.size,0,none⟩))
  (w':=w.alloc (.cells c.cells t)) S hf rfl
  (fun β' who' g1 g2 g3 g4 g5=>by
    refine⟨g2.symm,w.heap.size,c.cells,t,rfl,heap_alloc_new w _,g3,by rw[Xb h1];rfl,λk hk=> ?_⟩
    have:k=0:=by simp at hk;exact hk
    subst this;rw[Xb h1];exact g5)
  (λm hm=> .inr ⟨15,O,by simpa [names,qi,qc]using hm⟩) (by simp[names,qi,qc])
  (fun m hm=>by
    have hm':m∈[fresh idx 15,n]:=hm;simp only[zJ,zS,or_false]at hm';rcases hm' with rfl|rfl
    . exact .inr ⟨15,O,rfl⟩
    . exact .inl hDn)
 exact⟨_,_,β',who',by simp[Instr.box,newVar,newRow],S'⟩
end
section
variable {P:Program} {CO:qx} {T:TT} {E:Entry} {D:Nat->Prop} {β:Beta} {who:Who} {U U':Slots} {hd:List (AV×Value)} {a:Act} {w w':World} {R W:List Nat}
def RelI.ext': ∀{t:Ty} {x:Den t} {g g':Nat->Option Value} {j:Nat},(∀i,i<t.size->g' (j+i)=g (j+i))->RelI who w t x g j->RelI who w t x g' j
 | .int _,x,g,g',j,hg,h=>by have:=hg 0 (by simp[Ty.size]);simp only[RelI,zV]at*;rw[this];exact h
 | .bool,x,g,g',j,hg,h=>by have:=hg 0 (by simp[Ty.size]);simp only[RelI,zV]at*;rw[this];exact h
 | .sl _ t,x,g,g',j,hg,h=>by
   have:=hg 0 (by simp[Ty.size])
   obtain⟨v,h1,h2⟩:=h;exact⟨v,by grind,h2⟩
 | .opq,x,g,g',j,hg,h=>by
   have:=hg 0 (by simp[Ty.size])
   obtain⟨v,h1,h2⟩:=h;exact⟨v,by grind,h2⟩
 | .pr a b,x,g,g',j,hg,h=>
   ⟨RelI.ext' (λi hi=>hg i (by simp only[Ty.size];omega)) h.1,
    RelI.ext' (λi hi=>by have:=hg (a.size+i) (by simp only[Ty.size];omega);grind) h.2⟩
def q33: ∀{t:Ty} {cells r:List AV} {x:Den t} {f:Nat->Value} {g:Nat->Option Value} {j:Nat},Zt t cells=some (x,r)->
 (∀i (h:i<cells.length),RelC β who w (immC cells[i]) (f i))->(∀i,i<t.size->g (j+i)=some (f i))->
 RelI who w t x g j/\r=cells.drop t.size/\t.size<=cells.length
 | .int k,cells,r,x,f,g,j,h,hr,hg=>by
   cases cells with
   |nil=>cases h
   |cons c cs=>
    cases c with
    |int k' n=>
     simp only[Zt]at h;split at h
     . rename_i e;subst e;injection h with h;injection h with h1 h2
       subst h1 h2;have h0:=hr 0 (by simp)
       have:f 0= .int k' n:=h0;have hg0:=hg 0 (by simp[Ty.size])
       exact⟨by simp only[RelI];grind,rfl,by simp[Ty.size]⟩
     . cases h
    |_=>cases h
 | .bool,cells,r,x,f,g,j,h,hr,hg=>by
   cases cells with
   |nil=>cases h
   |cons c cs=>
    cases c with
    |bool b=>
     simp only[Zt,zH,zC3]at h;obtain⟨h1,h2⟩:=h;subst h1 h2;have h0:=hr 0 (by simp)
     have:f 0= .bool b:=h0;have hg0:=hg 0 (by simp[Ty.size])
     exact⟨by simp only[RelI];grind,rfl,by simp[Ty.size]⟩
    |_=>cases h
 | .sl b t,cells,r,x,f,g,j,h,hr,hg=>by
   cases cells with
   |nil=>cases h
   |cons c cs=>
    cases c with
    |sl o t' xs=>
     have key: ∀(e:t'=t),x=e▸xs->r=cs->RelI who w (.sl b t) x g j/\r=(AV.sl o t' xs::cs).drop (Ty.sl b t).size/\(Ty.sl b t).size<=(AV.sl o t' xs::cs).length:=by
      intro e hx hc;subst e;simp only at hx;subst hx hc;have h0:SlI who w t' x (f 0):=hr 0 (by simp)
      have hg0:=hg 0 (by simp[Ty.size])
      exact⟨⟨f 0,by simpa using hg0,h0⟩,rfl,by simp[Ty.size]⟩
     simp only[Zt]at h
     grind
    |_=>cases h
 | .pr a b,cells,r,x,f,g,j,h,hr,hg=>by
   simp only[Zt]at h;split at h
   . rename_i x1 r1 h1;split at h
     . rename_i y r2 h2;injection h with h;injection h with h3 h4
       subst h3 h4;obtain⟨i1,i2,i3⟩:=q33 (f:=f) (g:=g) (j:=j) h1 hr (λi hi=>hg i (by simp only[Ty.size];omega))
       subst i2
       obtain⟨k1,k2,k3⟩:=q33 (f:=λi=>f (a.size+i)) (g:=g) (j:=j+a.size) h2
        (fun i hi=>by
          grind)
        (λi hi=>by have:=hg (a.size+i) (by simp only[Ty.size];omega);grind)
       refine⟨⟨i1,k1⟩,?_,?_⟩
       . rw[k2,zp2];rfl
       . simp at k3;simp only[Ty.size];omega
     . cases h
   . cases h
def q2a {c:AV} {v:Value} (h:plainCell c=true) (hr:RelC β who w c v):RelC β who w (immC c) v:=by
 cases c with
 |sl o t xs=>
  cases o with
  |imm=>exact hr
  |nl=>obtain⟨rfl,rfl⟩:=hr;exact .inl ⟨rfl,rfl⟩
  |_=>cases h
 |bool b=>exact hr
 |int k n=>exact hr
 |_=>cases h
def q1l {c:AV} (h:plainCell c=true):qc c=[]/\occC c=[]:=by
 cases c with
 |sl o t xs=>cases o<;>first|exact⟨rfl,rfl⟩|cases h
 |bool b=>exact⟨rfl,rfl⟩
 |int k n=>exact⟨rfl,rfl⟩
 |_=>cases h
def Xe {α:Type} {l:List α} {j:Nat} {cs:List α} (h:j+cs.length<=l.length):(Qd l j cs).length=l.length:=by
 rw[Qo l j cs h];simp;omega
def Jz {α:Type} {l:List α} {j:Nat} {cs:List α} (h:j+cs.length<=l.length) {i:Nat} (hi:i<l.length):
 (Qd l j cs)[i]'(by rw[Xe h];exact hi)=if hc:j<=i/\i<j+cs.length then cs[i-j]'(O)else l[i]:=by
 simp only[Qo l j cs h];split
 . grind
 . rename_i hc;by_cases hlt:i<j
   . grind
   . rw[zZ1 (by simp;omega)]
     grind
def ql (cur:Array Value) (o:Nat) (vs:List Value):Array Value:=(cur.toList.take o++vs++cur.toList.drop (o+vs.length)).toArray
def Qm {cur:Array Value} {o:Nat} {vs:List Value} (h:o+vs.length<=cur.size):(ql cur o vs).size=cur.size:=by
 simp[ql];omega
def Qk {cur:Array Value} {o:Nat} {vs:List Value} (h:o+vs.length<=cur.size) (i:Nat):
 (ql cur o vs)[i]? =if o<=i/\i<o+vs.length then vs[i-o]? else cur[i]? :=by
 have e:(ql cur o vs)[i]? =(cur.toList.take o++vs++cur.toList.drop (o+vs.length))[i]? :=by simp[ql]
 rw[e];have hc:cur.toList.length=cur.size:=by simp
 split
 . grind
 . rename_i hc';by_cases hlt:i<o
   . grind
   . rw[List.getElem?_append_right (by simp;omega),List.getElem?_drop]
     simp;congr 1;omega
def Sim.write {idx s n g:Nat} {v av':AV} {c:Value} {row:Array Value} (S:Sim E D β who U ((v,c)::hd) a w) (hf: ∀k,k<16-> ¬D (fresh idx k))
 (hg:who g=some n) (hn:n∈names (U.get s))
 (hv: ∀β',(∀k,k<15->β' (fresh idx k)=nilS)->(∀m,D m->β' m=β m)->
   (∀av x,(∀m∈Vs.occ av,D m)->n∉names av->Rel β who w av x->Rel β' who (w.setRow g row) av x)->
   (∀b,who b=none->(w.setRow g row).heap[b]? =w.heap[b]?)->Rel β' who (w.setRow g row) av' (a.tmps.getD s undef))
 (hns: ∀m∈names av',m∈names (U.get s)\/m∈names v\/ ∃k,k<16/\m=fresh idx k) (hnd:(names av').Nodup) (ho: ∀m∈Vs.occ av',Dn D idx m):
 ∃β',Sim E (Dn D idx) β' who (U.set s av') hd a (w.setRow g row):=by
 let β':Beta:=λx=>if fresh idx 0<=x/\x<fresh idx 15 then nilS else β x
 have hβ: ∀m,D m->β' m=β m:=λm hdm=>by
  simp only[β'];rw[iN']
  rintro ⟨h1,h2⟩
  refine hf (m-fresh idx 0) (by simp only[fresh]at*;omega) ?_
  rwa [show fresh idx (m-fresh idx 0)=m by simp only[fresh]at*;omega]
 have hoth: ∀b,b≠g->(w.setRow g row).heap[b]? =w.heap[b]? :=λb hb=>setRow_other w g b row hb
 have hgn: ∀b,who b=none->b≠g:=λb hb e=>by grind
 have kp: ∀av x,(∀m∈Vs.occ av,D m)->n∉names av->Rel β who w av x->Rel β' who (w.setRow g row) av x:=λav x h1 h2 h3=>
  h3.keep ⟨λm hm=>hβ m (h1 m hm),λm hm b hb=>⟨hb,hoth b (by grind)⟩,λb hb _=>⟨hb,hoth b (hgn b hb)⟩,by simp⟩
 have hnv:n∉names v:=λh=>S.hdis _ mS n h s hn
 have hfr: ∀k,k<16-> ∀t,fresh idx k∉names (U.get t):=λk hk t h=>hf k hk (S.occ t _ (qj h))
 have hfh: ∀k,k<16-> ∀x∈hd,fresh idx k∉names x.1:=λk hk x hx h=>hf k hk (S.hocc x (mT hx) _ (qj h))
 have hno:=S.hnod;simp only[fC]at hno;have hrel':=hv β' (λk hk=>by simp only[β'];rw[iP];simp only[fresh];omega) hβ kp (λb hb=>hoth b (hgn b hb))
 refine⟨β',?_⟩
 exact{
  rel:=λt=>by
   by_cases e:t=s
   . subst e;rw[qh];exact hrel'
   . rw[qg _ _ e];exact kp _ _ (S.occ t) (λh=>e (S.dis t s n h hn)) (S.rel t)
  nod:=λt=>by
   by_cases e:t=s
   . subst e;rw[qh];exact hnd
   . rw[qg _ _ e];exact S.nod t
  dis:=λt t' m h1 h2=>by
   have key: ∀t,t≠s->m∈names (U.get t)->m∉names av':=λt e h h'=>by
    rcases hns m h' with h3|h3|⟨k,hk,rfl⟩
    . exact e (S.dis t s m h h3)
    . exact S.hdis _ mS m h3 t h
    . exact hfr k hk t h
   by_cases e:t=s<;>by_cases e':t'=s
   . rw[e,e']
   . subst e;rw[qh]at h1;rw[qg _ _ e']at h2;grind
   . subst e';rw[qh]at h2;rw[qg _ _ e]at h1;grind
   . rw[qg _ _ e]at h1;rw[qg _ _ e']at h2;exact S.dis t t' m h1 h2
  occ:=λt m h=>by
   by_cases e:t=s
   . subst e;rw[qh]at h;exact ho m h
   . rw[qg _ _ e]at h;exact .inl (S.occ t m h)
  hrel:=λx hx=>kp _ _ (S.hocc x (mT hx)) (λh=>S.hdis x (mT hx) n h s hn) (S.hrel x (mT hx))
  hnod:=(zG.1 hno).2.1
  hdis:=λx hx m h t=>by
   by_cases e:t=s
   . subst e;rw[qh];intro h';rcases hns m h' with h3|h3|⟨k,hk,rfl⟩
     . exact S.hdis x (mT hx) m h t h3
     . grind
     . exact hfh k hk x hx h
   . rw[qg _ _ e];exact S.hdis x (mT hx) m h t
  hocc:=λx hx m h=> .inl (S.hocc x (mT hx) m h)
  wsz:=λb m h=>by simp only[setRow_size];exact S.wsz b m h
  fr0:=λb hb h0=>by
   rw[hoth b (by
    rintro rfl
    rcases h0 with h0|h0
    . rcases S.fr1 b n hg with h|h
      . exact h h0
      . omega
    . rw[S.fr3 b h0]at hg;injection hg with hg;exact S.dfn (hg▸S.occ s n (qj hn)))]
   exact S.fr0 b hb h0
  fr1:=S.fr1,fr2:=by simp only[setRow_size];exact S.fr2,fr3:=S.fr3,fr4:=S.fr4,dfn:=Dn_fn S.dfn,dfr:=S.dfr,tsz:=S.tsz,pin:=S.pin,frm:=(hβ 98 S.d98).trans S.frm,d98:= .inl S.d98}
end
section
variable {P:Program} {CO:qx} {T:TT} {E:Entry} {D:Nat->Prop} {β:Beta} {who:Who} {U U':Slots} {hd:List (AV×Value)} {a:Act} {w w':World} {R W:List Nat}
def q1r {c:AV} {v:Value} (h:RelC β who w c v):Rel β who w c v/\names c=qc c/\Vs.occ c=occC c/\ ∀β' who' w' v',Rel β' who' w' c v'->RelC β' who' w' c v':=by
 cases c with
 |bx o cs=>exact h.elim
 |agg cs=>exact h.elim
 |tup vs=>exact h.elim
 |_=>exact⟨h,rfl,rfl,λ_ _ _ _ h=>h⟩
def qi2 (hT:TTok P T) {t:Nat} {v:AV} {c:Value} (h:Rel β who w v c):Rel β who w (Yy T t v) c/\names (Yy T t v)=names v/\ ∀n∈Vs.occ (Yy T t v),n∈Vs.occ v:=by
 unfold Yy;split
 . split
   . have hc:c= .slice none 0 0:=h.1;exact⟨⟨hc,rfl⟩,rfl,λn hn=>by cases hn⟩
   . exact⟨h,rfl,λn hn=>hn⟩
 grind
def Sim.fix (hT:TTok P T) {t:Nat} {v:AV} {c:Value} (S:Sim E D β who U ((v,c)::hd) a w):Sim E D β who U ((Yy T t v,c)::hd) a w:=by
 obtain⟨h1,h2,h3⟩:=qi2 (t:=t) hT (S.hrel _ mS)
 exact{S with
  hrel:=λy hy=>by rcases mC hy with rfl|hy;exact h1;exact S.hrel y (mT hy)
  hnod:=by have:=S.hnod;grind
  hdis:=λy hy=>by
   rcases mC hy with rfl|hy
   . simp only[h2];exact S.hdis _ mS
   . exact S.hdis y (mT hy)
  hocc:=λy hy=>by
   rcases mC hy with rfl|hy
   . exact λn hn=>S.hocc _ mS n (h3 n hn)
   . exact S.hocc y (mT hy)}
def Sim.swap {x y:AV×Value} (S:Sim E D β who U (x::y::hd) a w):Sim E D β who U (y::x::hd) a w:=by
 have hp:(x::y::hd).Perm (y::x::hd):=List.Perm.swap y x hd
 exact{S with
  hrel:=λz hz=>S.hrel z (hp.mem_iff.2 hz)
  hnod:=((hp.flatMap_right _).nodup_iff).1 S.hnod
  hdis:=λz hz=>S.hdis z (hp.mem_iff.2 hz)
  hocc:=λz hz=>S.hocc z (hp.mem_iff.2 hz)}
def Zj {t:Nat} {ti:TI} (hti:TIok P t ti) {b o:Nat} {c:Value} {arr:Array Value} {el:TypeId} (hb:w.heap[b]? =some (.cells arr el (0,0)))
 (hsz:c.cells.size=ti.cells.length) (hl:o+c.cells.size<=arr.size) (h1: ∀x∈c.cells.toList,x.oneCell'=true):
 (Instr.storeAt t (.pointer (some ⟨b,o,none⟩)) c).run P w= .ok () (w.setRow b (ql arr o c.cells.toList)):=by
 obtain⟨i,hi,his,_⟩:=hti.info;have:=run_storeCells_at P b o el c.cells.toList 0 arr w hb (by simpa using hl) h1
 simp only[zV]at this;simp only[Instr.storeAt,Instr.sureAddr,Sem.run_bind,Sem.run_pure,Result.andThen_ok,storeVar,Xj hi,his,hsz,ne_eq,not_true_eq_false,if_false,this];rfl
def Z4 {n:Nat} {f:(t:Ty)->List (Den t)->Option (List (Den t))} {c c':AV} (h:putC n f c=some c'):
 (∃t xs ys,c= .sl (.nm n) t xs/\f t xs=some ys/\c'= .sl (.nm n) t ys)\/(∃t xs ys,c= .wn n t xs/\f t xs=some ys/\c'= .wn n t ys)\/(n∉qc c/\c'=c):=by
 cases c with
 |sl o t xs=>
  cases o with
  |nm m=>
   simp only[putC]at h;split at h
   . grind
   . rename_i e;injection h with h
     subst h;exact .inr (.inr ⟨by simp only[qc,zA];exact λh=>e h.symm,rfl⟩)
  |_=>injection h with h;subst h;exact .inr (.inr ⟨by simp[qc],rfl⟩)
 |dp m t xs hh=>
  simp only[putC]at h;split at h
  . cases h
  . rename_i e;injection h with h
    subst h;exact .inr (.inr ⟨by simp only[qc,zA];exact λh=>e h.symm,rfl⟩)
 |dq m t xs hh=>
  simp only[putC]at h;split at h
  . cases h
  . rename_i e;injection h with h
    subst h;exact .inr (.inr ⟨by simp only[qc,zA];exact λh=>e h.symm,rfl⟩)
 |fd m t xs hh=>
  simp only[putC]at h;split at h
  . cases h
  . rename_i e;injection h with h
    subst h;exact .inr (.inr ⟨by simp only[qc,zA];exact λh=>e h.symm,rfl⟩)
 |mm m t xs o=>
  simp only[putC]at h;split at h
  . cases h
  . rename_i e;injection h with h
    subst h;exact .inr (.inr ⟨by simp only[qc,zA];exact λh=>e h.symm,rfl⟩)
 |wn m t xs=>
  simp only[putC]at h;split at h
  . grind
  . rename_i e;injection h with h
    subst h;exact .inr (.inr ⟨by simp only[qc,zA];exact λh=>e h.symm,rfl⟩)
 |_=>injection h with h;subst h;exact .inr (.inr ⟨by simp[qc],rfl⟩)
def J7 {n:Nat} {f:(t:Ty)->List (Den t)->Option (List (Den t))} {c c':AV} (h:putC n f c=some c'):qc c'=qc c/\occC c'=occC c:=by
 rcases Z4 h with⟨t,xs,ys,rfl,_,rfl⟩|⟨t,xs,ys,rfl,_,rfl⟩|⟨_,rfl⟩<;>exact⟨rfl,rfl⟩
def Jh {n:Nat} {f:(t:Ty)->List (Den t)->Option (List (Den t))}: ∀{cs cs':List AV},putL n f cs=some cs'->
 cs'.length=cs.length/\cs'.flatMap qc=cs.flatMap qc/\cs'.flatMap occC=cs.flatMap occC/\ ∀j (h:j<cs.length) (h':j<cs'.length),putC n f cs[j]=some cs'[j]
 |[],cs',h=>by injection h with h;grind
 |c::cs,cs',h=>by
  simp only[putL]at h;split at h
  . rename_i c1 cs1 h1 h2;injection h with h
    subst h;obtain⟨i1,i2,i3,i4⟩:=Jh h2;obtain⟨k1,k2⟩:=J7 h1
    grind
  . cases h
def Elems.store {t:Ty} {xs:List (Den t)} {b o i j:Nat} {arr:Array Value} {el:TypeId} {cs:List AV} {vs:List Value} {x':Den t}
 (hb:w.heap[b]? =some (.cells arr el (0,0))) (hE:Elems who w t xs b o) (hi:i<xs.length) (hlen:vs.length=cs.length) (hfit:o+xs.length*t.size<=arr.size)
 (hs:Zk t (xs.getD i t.zero) j cs=some x') (hw: ∀k (h:k<cs.length),RelC β who (w.setRow b (ql arr (o+i*t.size+j) vs)) (immC cs[k]) (vs.getD k undef))
 (himm: ∀b',who b'=none->(w.setRow b (ql arr (o+i*t.size+j) vs)).heap[b']? =w.heap[b']?):
 Elems who (w.setRow b (ql arr (o+i*t.size+j) vs)) t (xs.set i x') b o:=by
 have hx:xs.getD i t.zero=xs[i]:=by simp[List.getD,List.getElem?_eq_getElem hi]
 rw[hx]at hs;unfold Zk at hs;split at hs
 . rename_i hjl;split at hs
   . rename_i y hy;injection hs with hs
     subst hs;have hp:=Ty.size_pos t
     have hrange:o+i*t.size+t.size<=arr.size:=by
      have:(i+1)*t.size<=xs.length*t.size:=zN _ O;rw[zP1]at this;omega
     have hrow:o+i*t.size+j+vs.length<=arr.size:=O;have hheap:(w.setRow b (ql arr (o+i*t.size+j) vs)).heap[b]? =some (.cells (ql arr (o+i*t.size+j) vs) el (0,0)):=setRow_heap w b arr _ el _ hb
     have hcell: ∀k,(w.setRow b (ql arr (o+i*t.size+j) vs)).cell? ⟨b,k,none⟩=if o+i*t.size+j<=k/\k<o+i*t.size+j+vs.length then vs[k-(o+i*t.size+j)]? else arr[k]? :=by
      intro k;simp only[World.cell?,hheap];simpa using Qk hrow k
     have hold: ∀k,w.cell? ⟨b,k,none⟩=arr[k]? :=λk=>by simp[World.cell?,hb]
     have hsz:w.heap.size<=(w.setRow b (ql arr (o+i*t.size+j) vs)).heap.size:=by simp
     intro i' hi';have hi'':i'<xs.length:=by simpa using hi'
     by_cases e:i'=i
     . subst e;rw[zF1];obtain⟨hul,hu⟩:=Jo (β:=β) (hE i' hi)
       let f:Nat->Value:=λk=>if j<=k/\k<j+vs.length then vs.getD (k-j) undef else arr.getD (o+i'*t.size+k) undef
       refine(q33 (β:=β) (who:=who) (w:=w.setRow b (ql arr (o+i'*t.size+j) vs)) (f:=f) hy ?_ ?_).1
       . intro k hk;have hrl:j+cs.length<=(unpack t xs[i']).length:=by rw[hul];exact hjl
         have hk':k<(unpack t xs[i']).length:=by rw[<-Xe hrl];exact hk
         rw[Jz hrl hk'];simp only[f];split
         . grind
         . rename_i hc;rw[iN' O];obtain⟨v,e1,e2⟩:=hu k hk';rw[zK]at e1;simp only[cellAt,hold]at e1
           have:arr.getD (o+i'*t.size+k) undef=v:=by
            rw[Array.getD_eq_getD_getElem?,e1];rfl
           rw[this];have hnn:=(Jd (c:=immC (unpack t xs[i'])[k]) (zM.2 ⟨_,zI hk',rfl⟩)).1;exact RelC.keep (β:=β) (β':=β) ⟨λ_ _=>rfl,(λm hm=>by rw[hnn]at hm;cases hm),λb' hb' _=>⟨hb',himm b' hb'⟩,hsz⟩ e2
       . intro k hk;simp only[cellAt,hcell,zK,f];by_cases hc:j<=k/\k<j+vs.length
         . grind
         . rw[iN' O,iN' hc];rw[Array.getD_eq_getD_getElem?,Array.getElem?_eq_getElem O];rfl
     . rw[zS1 (λh=>e h.symm)]
       refine RelI.ext' (g:=cellAt w b (o+i'*t.size)) (λk hk=> ?_) (RelI.keep (λb' hb' _=>⟨hb',himm b' hb'⟩) hsz (hE i' hi''))
       simp only[cellAt,hcell,hold,zK];rw[iN']
       rintro ⟨q1,q2⟩
       rcases Nat.lt_or_gt_of_ne e with h|h
       . have:(i'+1)*t.size<=i*t.size:=zN _ h
         grind
       . have:(i+1)*t.size<=i'*t.size:=zN _ h
         grind
   . cases hs
 . cases hs
end
end Go.Vs
