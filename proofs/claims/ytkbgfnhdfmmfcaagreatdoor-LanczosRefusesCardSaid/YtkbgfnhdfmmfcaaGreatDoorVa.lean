import Derived.Calls
import Derived.Laws.Sem
import Derived.Laws.Entries
import Derived.Laws.Rows
import Derived.Laws.CopyRow
import Derived.Laws.StructEq
import Derived.IntWalk
import Derived.Laws.MakeOwn
set_option linter.unusedSimpArgs false
set_option linter.unusedVariables false
set_option linter.defProp false
namespace Go.Vs
abbrev zA:=@Nat.not_lt_zero
abbrev zC:=@List.mem_singleton
abbrev zG:=@List.length_append
abbrev zH:=@Nat.zero_add
abbrev zI:=@List.length_replicate
abbrev zJ:=@Nat.le_refl
abbrev zK:=@Nat.mul_add
abbrev zL:=@List.length_singleton
abbrev zM:=@Bool.and_eq_true
abbrev zN:=@List.mem_flatMap
abbrev zO:=@Nat.mul_le_mul_right
abbrev zQ:=@Nat.add_zero
abbrev zS:=@List.nodup_append
abbrev zT:=@List.length_set
abbrev zU:=@List.length_take
abbrev zV:=@Nat.mul_assoc
abbrev zW:=@List.getElem_mem
abbrev zX:=@List.mem_append
abbrev zY:=@Nat.mul_comm
abbrev zZ:=@Option.some.injEq
abbrev zf:=@Nat.le_trans
abbrev zh:=@List.length_map
abbrev zi:=@Nat.mul_le_mul_left
abbrev zk:=@List.mem_map
abbrev zn:=@List.all_eq_true
abbrev zq:=@List.mem_cons
abbrev zu:=@Nat.pow_le_pow_right
abbrev zx:=@Nat.mul_zero
abbrev zy:=@Int.natAbs_natCast
abbrev ld:=@List.mem_append_left
abbrev ix:=@List.length_drop
abbrev iY:=@Nat.mod_eq_of_lt
abbrev vD:=@List.take_append_drop
abbrev eQ:=@Nat.pow_pos
abbrev nB:=@List.mem_of_mem_take
abbrev nz:=@List.getElem_of_mem
abbrev gJ:=@Nat.pow_succ
abbrev fT:=@Nat.add_mul
abbrev fS:=@Nat.lt_or_ge
abbrev iX:=@List.drop_zero
abbrev AX:=@Nat.add_assoc
abbrev IL:=@Nat.two_pow_add_eq_or_of_lt
abbrev ur:=@List.getElem_append_right
abbrev ls:=@List.append_nil
abbrev sH:=@Nat.pow_add
abbrev vC:=@Array.length_toList
abbrev nA:=@List.not_mem_nil
abbrev sG:=@Int.natCast_mul
abbrev ny:=@List.nodup_cons
abbrev py:=@List.append_assoc
abbrev uo:=@List.take_of_length_le
abbrev iW:=@Nat.mul_one
abbrev lr:=@Bool.true_and
abbrev sF:=@List.map_append
abbrev vB:=@List.mem_append_right
abbrev xf:=@List.getElem_append_left
abbrev iV:=@Nat.mod_lt
abbrev pH:=@List.getElem_map
abbrev px:=@Int.natCast_pow
abbrev vA:=@List.mem_of_mem_drop
abbrev wS:=@List.contains_iff_mem
abbrev EX:=@Nat.and_two_pow_sub_one_eq_mod
abbrev xd:=@Int.natCast_add
abbrev pw:=@Nat.mul_le_mul
abbrev uj:=@Nat.mul_left_comm
abbrev xc:=@List.singleton_append
abbrev sE:=@Nat.div_le_self
abbrev wR:=@Nat.lt_of_le_of_lt
abbrev sC:=@List.take_zero
abbrev xa:=@List.flatMap_append
abbrev EV:=@List.drop_eq_getElem_cons
abbrev zq1:=@Bool.not_eq_true
abbrev ui:=@Nat.div_add_mod
abbrev vz:=@Nat.div_eq_of_lt
abbrev Bf:=@List.drop_eq_nil_of_le
abbrev wY:=@List.length_range
abbrev wX:=@Nat.lt_of_lt_of_le
abbrev oX:=@Nat.zero_le
abbrev Bd:=@Nat.div_lt_iff_lt_mul
abbrev pG:=@Nat.add_comm
abbrev AZ:=@List.map_congr_left
abbrev vE:=@List.nil_append
abbrev ux:=@List.mem_range
abbrev sP:=@List.map_cons
abbrev MM:=@List.set_eq_take_append_cons_drop
abbrev xk:=@Nat.le_of_not_lt
abbrev uw:=@Bool.not_true
abbrev xj:=@Option.getD_some
abbrev MK:=@List.take_succ_eq_append_getElem
abbrev LJ:=@List.length_eq_zero_iff
abbrev xi:=@Option.map_some
abbrev AY:=@List.cons_append
abbrev uu:=@Nat.le_of_lt
abbrev LD:=@Nat.lt_of_mul_lt_mul_left
abbrev LC:=@Nat.add_mul_mod_self_left
abbrev E2:=@Nat.testBit_two_pow
abbrev E1:=@List.getD_cons_zero
abbrev IJ:=@List.getElem_set_self
abbrev xh:=@Bool.false_and
abbrev xg:=@Int.natAbs_neg
abbrev LA:=@List.drop_drop
abbrev AW:=@List.range_succ
abbrev EZ:=@Nat.eq_zero_or_pos
abbrev Bk:=@List.flatMap_nil
abbrev II:=@List.getElem_set_ne
abbrev Ly:=@Nat.le_div_iff_mul_le
abbrev IH:=@Nat.pos_of_ne_zero
abbrev EY:=@List.take_length
abbrev IG:=@Bool.false_eq_true
abbrev RM:=@Array.eq_empty_of_size_eq_zero
abbrev xe:=@Nat.sub_self
abbrev AU:=@List.all_cons
abbrev Bj:=@Bool.not_false
abbrev Lx:=@Nat.div_lt_of_lt_mul
abbrev Bi:=@List.nodup_nil
abbrev IE:=@List.getElem_take
abbrev ID:=@List.getElem_drop
abbrev EW:=@Bool.or_eq_true
abbrev AT:=@Nat.pow_zero
abbrev AS:=@Bool.or_true
abbrev RG:=@Nat.mul_lt_mul_of_pos_right
abbrev MD:=@Option.map_eq_some_iff
abbrev wZ:=@Nat.one_mul
abbrev Bh:=@Bool.and_true
abbrev zq2:=@Int.sub_eq_add_neg
abbrev MC:=@List.length_filter_le
abbrev IC:=@List.mem_filter
abbrev Be:=@Nat.zero_mul
abbrev My:=@Nat.eq_of_testBit_eq
abbrev Mx:=@Nat.div_mul_le_self
abbrev Lv:=@List.filter_cons
abbrev Lu:=@List.length_cons
abbrev MN:=@Int.natCast_ediv
abbrev LL:=@List.any_eq_true
abbrev Bm:=@Nat.mod_mod
abbrev Bl:=@Nat.log2_lt
abbrev ML:=@List.mem_replicate
abbrev E5:=@Int.zero_mul
abbrev E4:=@List.map_nil
abbrev RV:=@List.getElem_cons_zero
abbrev LK:=@Nat.mod_add_div
abbrev LH:=@Nat.min_eq_left
abbrev LG:=@List.length_nil
abbrev zJ3:=@Array.ext
abbrev E3:=@Int.le_refl
abbrev RT:=@Bool.or_eq_false_iff
abbrev LB:=@Int.toNat_zero
abbrev IK:=@Int.neg_mul
abbrev E0:=@Nat.mul_pos
abbrev MJ:=@List.range'_succ
abbrev MI:=@Nat.succ_mul
abbrev MH:=@Option.getD_none
abbrev RS:=@List.take_succ_cons
abbrev RR:=@List.length_pos_iff
abbrev RQ:=@List.getD_cons_succ
abbrev zV3:=@List.mem_of_getElem
abbrev Lz:=@Bool.or_false
abbrev MG:=@Nat.testBit_and
abbrev RP:=@Nat.add_sub_cancel
abbrev RO:=@Int.natCast_nonneg
abbrev RN:=@Int.cast_ofNat_Int
abbrev RL:=@Option.isSome_none
abbrev RK:=@List.zip_cons_cons
abbrev IF:=@Nat.or_comm
abbrev ze3:=@Nat.pow_mul
abbrev RJ:=@List.take_add_one
abbrev ME:=@Nat.testBit_or
abbrev Lw:=@Int.sub_zero
abbrev RI:=@Classical.not_not
abbrev RH:=@List.flatMap_map
abbrev Ys:=@Array.toList_map
abbrev T7:=@Int.add_assoc
abbrev RF:=@Nat.div_lt_self
abbrev RE:=@Nat.mul_add_div
abbrev RD:=@Nat.mul_add_mod
abbrev RC:=@Nat.mul_eq_zero
abbrev RB:=@Int.natCast_inj
abbrev MB:=@Int.mul_comm
abbrev MA:=@Bool.true_or
abbrev Mz:=@Nat.sub_zero
abbrev RA:=@Int.natAbs_mul
abbrev Rz:=@Int.ofNat_zero
abbrev Ry:=@List.mapM_cons
abbrev Rx:=@Nat.lt_irrefl
abbrev Rw:=@Int.mul_assoc
abbrev Rv:=@Prod.mk.injEq
abbrev R4:=@Bool.and_self
abbrev R3:=@Int.zero_add
abbrev RZ:=@Nat.zero_div
abbrev RY:=@Int.add_zero
abbrev RX:=@Int.mul_neg
abbrev RW:=@Int.one_mul
abbrev RU:=@Nat.mod_le
def bS{α β}{a:α}{f:α->Option β}:(some a).bind f=f a:=rfl
def tN(n:Nat):(n:Int).toNat=n:=rfl
def nZ:((0:Nat):Int)=0:=rfl
def iP{c:Prop}{h:Decidable c}(u:c){α:Sort _}{t e:α}:ite c t e=t:=if_pos u
def af{c:Prop}{h:Decidable c}(u:¬c){α:Sort _}{t e:α}:ite c t e=e:=if_neg u
def fC{α β}{x:α}{xs:List α}{f:α->List β}:(x::xs).flatMap f=f x++xs.flatMap f:=List.flatMap_cons
def mS{α}{a:α}{l:List α}:a∈a::l:=List.mem_cons_self
def mT{α}{a:α}{l:List α}{y:α}(h:a∈l):a∈y::l:=List.mem_cons_of_mem y h
def mC{α}{a b:α}{l:List α}(h:a∈b::l):a=b\/a∈l:=zq.1 h
abbrev LI:=List Int
def O{p:Prop}(h:p:=by omega):p:=h
inductive Ty where
 |int (k:IntKind)
 |bool
 |sl (inn:Bool) (t:Ty)
 |pr (a b:Ty)
 deriving DecidableEq
@[reducible] def aX:Ty->Type
  | .int _=>Int
  | .bool=>Bool
  | .sl _ t=>List (aX t)
  | .pr a b=>aX a×aX b
def Ty.size:Ty->Nat
 | .int _| .bool| .sl _ _=>1
 | .pr a b=>a.size+b.size
def Ty.zero:(t:Ty)->aX t
 | .int _=>(0:Int)
 | .bool=>false
 | .sl _ _=>[]
 | .pr a b=>(a.zero,b.zero)
inductive Rr where
 |imm
 |nm (n:Nat)
 |nl
 |inn
 deriving DecidableEq
inductive DK where
 |whole
 |cell (i:Nat)
 |row (i:Nat)
 |elem (sz i j k:Nat)
 |lenw (l:Nat)
 deriving DecidableEq
def DK.strip:DK->DK
 | .lenw _=> .whole
 |k=>k
inductive AV where
 |dead
 |bool (b:Bool)
 |int (k:IntKind) (n:Int)
 |lit (v:Value)
 |sl (o:Rr) (t:Ty) (xs:List (aX t))
 |bx (o:Rr) (cells:List AV)
 |agg (cells:List AV)
 |tup (vs:List AV)
 |ref (s n sz:Nat) (win:Option (Nat×Nat))
 |ptr (s n sz i j:Nat)
 |iptr (g:Option Nat) (t:Ty) (xs:List (aX t)) (i j:Nat)
 |dp (n:Nat) (t:Ty) (xs:List (List (aX t))) (h:Option Nat)
 |dr (s n:Nat) (k:DK)
 |wn (n:Nat) (t:Ty) (xs:List (aX t))
 |dq (n:Nat) (t:Ty) (xs:List (aX t)) (h:Option Nat)
abbrev ao:=List (Nat×AV)
def ao.get:ao->Nat->AV
 |[],_=> .dead
 |(k,v)::r,s=>if k=s then v else ao.get r s
def ao.set:ao->Nat->AV->ao
 |[],s,v=>[(s,v)]
 |(k,u)::r,s,v=>if k=s then(k,v)::r else(k,u)::ao.set r s v
def Xw (s:Nat):AV->AV
 | .sl (.nm n) t _=> .ref s n t.size none
 | .dp n _ xs _=> .dr s n (.lenw xs.length)
 | .wn n t _=> .ref s n t.size none
 | .dq _ _ _ _=> .dead
 |v=>v
def dh (s:Nat):AV->Option AV
 | .dead=>none
 | .tup _=>none
 | .dq n t _ _=>some (.ref s n t.size none)
 | .bx (.nm n) _=>some (.ptr s n 1 0 0)
 | .bx _ _=>none
 | .agg cells=>some (.agg (cells.map (Xw s)))
 | .sl (.nm n) t _=>some (.ref s n t.size none)
 | .dp n _ _ _=>some (.dr s n .whole)
 | .wn n t _=>some (.ref s n t.size none)
 |v=>some v
def eP (s j:Nat):AV->Option AV
 | .bx (.nm _) cells=>(cells[j]?).map (Xw s)
 | .tup vs=>vs[j]?
 | .dp n _ xs _=>if j=0 then some (.dr xs.length n .whole)else none
 |_=>none
def cZ (s:Nat):Nat->AV->Option AV
 |0,a=>some a
 |1,a=>dh s a
 |j+2,a=>if j<15 then eP s j a else none
inductive M (α:Type) where
 |ret (a:α)
 |fail
 |get (s:Nat) (k:AV->M α)
 |set (s:Nat) (v:AV) (k:M α)
 |ask (p:Prop) (d:Decidable p) (k:M α)
 |know (s:Nat) (k:Bool->M α)
 |view (s j:Nat) (k:Option AV->M α)
 |upd (s:Nat) (W:List Nat) (f:AV->Option AV) (hf: ∀a b,f a=some b-> ∀j,j∉W->cZ s j b=cZ s j a) (k:M α)
 |call (f:Nat) (args:List AV) (k:AV->List AV->M α)
def M.bind {α β:Type}:M α->(α->M β)->M β
 | .ret a,f=>f a
 | .fail,_=> .fail
 | .get s k,f=> .get s λv=>(k v).bind f
 | .set s v k,f=> .set s v (k.bind f)
 | .ask p d k,f=> .ask p d (k.bind f)
 | .know s k,f=> .know s λb=>(k b).bind f
 | .view s j k,f=> .view s j λb=>(k b).bind f
 | .upd s W g h k,f=> .upd s W g h (k.bind f)
 | .call g as k,f=> .call g as λr os=>(k r os).bind f
instance:Monad M where
 pure:=M.ret
 bind:=M.bind
def cG (s:Nat):M AV:= .get s .ret
def fJ (s:Nat) (v:AV):M Unit:= .set s v (.ret ())
def dB (p:Prop) [d:Decidable p]:M Unit:= .ask p d (.ret ())
def xM (s:Nat):M Bool:= .know s .ret
def hH (s j:Nat):M (Option AV):= .view s j .ret
def lK (s:Nat) (W:List Nat) (f:AV->Option AV) (u: ∀a b,f a=some b-> ∀j,j∉W->cZ s j b=cZ s j a):M Unit:= .upd s W f u (.ret ())
def n9 (f:Nat) (args:List AV):M (AV×List AV):= .call f args λr os=> .ret (r,os)
def sZ {α:Type}:Option α->M α
 |some a=> .ret a
 |none=> .fail
inductive ZC where
 |int (k:IntKind)
 |bool
 |nil (t:Ty)
 |other
 deriving DecidableEq
inductive TD where
 |int (k:IntKind)
 |bool
 |slice (e:Nat) (t:Ty)
 |struct (fs:List (Nat×Nat))
 |array (n:Nat) (esz:Nat)
 |ptr (e:Nat)
 |string
 |tab (g:Nat) (k:IntKind) (xs:LI)
 |other
structure TI where
 desc:TD
 cells:List ZC
abbrev TT:=List (Option TI)
def TT.at (T:TT) (t:Nat):Option TI:=match T[t]? with|some x=>x|none=>none
def qc:AV->List Nat
 | .sl (.nm n) _ _=>[n]
 | .dp n _ _ _=>[n]
 | .wn n _ _=>[n]
 | .dq n _ _ _=>[n]
 |_=>[]
def qi:AV->List Nat
 | .bx (.nm n) cells=>n::cells.flatMap qc
 | .bx _ cells=>cells.flatMap qc
 | .agg cells=>cells.flatMap qc
 |v=>qc v
def ab:AV->List Nat
 | .tup vs=>vs.flatMap qi
 |v=>qi v
def aD:(t:Ty)->aX t->List AV
 | .int k,x=>[.int k x]
 | .bool,x=>[.bool x]
 | .sl b t,x=>[.sl (if b then .inn else .imm) t x]
 | .pr a b,x=>aD a x.1++aD b x.2
def J7:(t:Ty)->List AV->Option (aX t×List AV)
 | .int k,.int G x::r=>if G=k then some (x,r)else none
 | .bool,.bool x::r=>some (x,r)
 | .sl b t,.sl o t' xs::r=>
   if h:t'=t then
    (match b,o with
     |true,.nm _|true,.nl|true,.inn=>some (h▸xs,r)
     |false,.imm|false,.nl|false,.nm _=>some (h▸xs,r)
     |_,_=>none)
   else none
 | .pr a b,cs=>
   match J7 a cs with
   |some (x,r)=>match J7 b r with
    |some (y,u)=>some ((x,y),u)
    |none=>none
   |none=>none
 |_,_=>none
def Qg {α:Type}:List α->Nat->List α->List α
 |l,_,[]=>l
 |[],_,_=>[]
 |_::l,0,c::cs=>c::Qg l 0 cs
 |x::l,j+1,cs=>x::Qg l j cs
def Yy:AV->AV
 | .sl (.nm _) t xs=> .sl .imm t xs
 | .dp _ t xs none=> .sl .imm (.sl false t) xs
 | .dp _ _ _ (some _)=> .dead
 | .wn _ _ _=> .dead
 | .dq _ t xs none=> .sl .imm t xs
 | .dq _ _ _ (some _)=> .dead
 |v=>v
def freeze:AV->AV
 | .sl (.nm _) t xs=> .sl .imm t xs
 | .dp _ t xs none=> .sl .imm (.sl false t) xs
 | .dp _ _ _ (some _)=> .dead
 | .wn _ _ _=> .dead
 | .dq _ t xs none=> .sl .imm t xs
 | .dq _ _ _ (some _)=> .dead
 | .agg cells=> .agg (cells.map Yy)
 |v=>v
def NC:Value->AV
 | .bool b=> .bool b
 | .int k n=> .int k n
 | .agg _=> .dead
 | .tuple _=> .dead
 |v=> .lit v
def rd:Operand->M AV
 | .tmp t=>do let a<-hH t 1;sZ a
 | .const v=>pure (NC v)
 | .func f=>pure (.lit (.func (.func f) #[] #[]))
 | .global _=> .fail
def L3 (a:AV):Bool:= !(ab a).isEmpty
def rdT:Operand->M AV
 | .tmp t=>do
   let a<-cG t
   match a with
   | .dead=> .fail
   | .tup vs=>do fJ t .dead;pure (.tup vs)
   |a=>if L3 a then do fJ t .dead;pure a else pure a
 |x=>rd x
def rdF:Operand->M AV
 | .tmp t=>do
   let a<-cG t
   match a with
   | .dead| .tup _| .bx _ _| .dp _ _ _ (some _)| .dq _ _ _ (some _)| .wn _ _ _=> .fail
   |a=>if L3 a then do fJ t (freeze a);pure (freeze a)else pure a
 |x=>rd x
def Om (n:Nat):AV->Bool
 | .sl (.nm m) _ _=>Nat.beq m n
 |_=>false
def pq (n:Nat):List AV->Nat->Option Nat
 |[],_=>none
 |c::cs,k=>match Om n c with
  |true=>some k
  |false=>pq n cs (k+1)
def VA (j:Nat):AV->Option AV
 | .bx (.nm m) cells=>some (.bx (.nm m) (cells.set j .dead))
 |_=>none
def q8i {s j:Nat} (a b:AV) (h:VA j a=some b): ∀i,i∉[0,j+2]->cZ s i b=cZ s i a:=by
 intro i u;simp only[zq,nA,or_false,not_or]at u;unfold VA at h;split at h
 . cases h
   match i,u with
   |0,u=>exact absurd rfl u.1
   |1,_=>rfl
   |k+2,u=>
    simp only[cZ,eP]
    grind
 . cases h
def VB (i:Nat):AV->Option AV
 | .tup vs=>some (.tup (vs.set i .dead))
 |_=>none
def q8f {s j:Nat} (a b:AV) (h:VB j a=some b): ∀i,i∉[0,j+2]->cZ s i b=cZ s i a:=by
 intro i u;simp only[zq,nA,or_false,not_or]at u;unfold VB at h;split at h
 . cases h
   match i,u with
   |0,u=>exact absurd rfl u.1
   |1,_=>rfl
   |k+2,u=>
    simp only[cZ,eP]
    grind
 . cases h
def claim:Operand->M AV
 | .tmp t=>do
   let a<-hH t 1
   match a with
   |some (.ref s n _ none)=>do
    let b<-cG s
    match b with
    | .sl (.nm m) ty xs=>if m=n then do fJ s .dead;pure (.sl (.nm m) ty xs)else .fail
    | .bx (.nm _) cells=>match pq n cells 0 with
      |some j=>do
       lK s [0,j+2] (VA j) q8i
       pure (cells.getD j .dead)
      |none=> .fail
    |_=> .fail
   |_=> .fail
 |_=> .fail
def rdC (mode:Nat) (x:Operand):M AV:=
 match mode with
 |3=>claim x
 |_=>rdT x
def rdm (mode:Nat) (x:Operand):M AV:=
 match mode with
 |0=>rd x
 |1=>rdT x
 |3=>claim x
 |_=>rdF x
def rdQ (mode:Nat) (x:Operand):M AV:=
 match mode with
 |2=>rdF x
 |_=>rdT x
def kL:AV->AV
 | .sl .nl t xs=> .sl .imm t xs
 |v=>v
def wM:AV->AV
 | .sl .nl (.sl _ t) xs=> .sl .nl (.sl true t) xs
 |v=>v
def nlI (mode:Nat) (v:AV):AV:=
 match mode with
 |6=>(match v with
  | .agg cells=> .agg (cells.map wM)
  |v=>v)
 |2=>(match v with
  | .agg cells=> .agg (cells.map kL)
  |v=>kL v)
 |_=>v
def Jm (T:TT) (ty:Nat):AV->AV
 | .lit (.slice none 0 0)=>match T.at ty with
   |some {desc:= .slice _ t,.. }=> .sl .nl t []
   |_=> .lit (.slice none 0 0)
 |v=>v
def fresh (idx k:Nat):Nat:=100+idx*16+k
def xK (n:Nat):(t:Ty)->List (aX t)->AV
 | .sl true t,xs=> .dp n t xs none
 |t,xs=> .sl (.nm n) t xs
def Xh (n:Nat):AV->Option AV
 | .bool b=>some (.bool b)
 | .int k x=>some (.int k x)
 | .lit v=>some (.lit v)
 | .sl .imm t xs=>some (.sl .imm t xs)
 | .sl (.nm m) t xs=>some (.sl (.nm m) t xs)
 | .sl .nl t xs=>some (xK n t xs)
 | .dp m t xs none=>some (.dp m t xs none)
 |_=>none
def Yl (idx:Nat):Nat->List AV->Option (List AV)
 |_,[]=>some []
 |k,c::cs=>if k<15 then
   match Xh (fresh idx k) c,Yl idx (k+1) cs with
   |some c',some cs'=>some (c'::cs')
   |_,_=>none
  else none
def cellsOf:AV->List AV
 | .agg cs=>cs
 |v=>[v]
def MF (n:Nat):ZC->Option AV
 | .int k=>some (.int k 0)
 | .bool=>some (.bool false)
 | .nil t=>some (.sl (.nm n) t [])
 | .other=>none
def qm7:ZC->Option AV
 | .int k=>some (.int k 0)
 | .bool=>some (.bool false)
 | .nil t=>some (.sl .nl t [])
 | .other=>none
def Qb:TD->Bool
 | .struct _| .array _ _| .tab _ _ _=>true
 |_=>false
def kZ (agg:Bool) (cs:List AV):Option AV:=
 if agg then some (.agg cs)else match cs with
  |[c]=>some c
  |_=>none
def fG (n:Nat):AV->Option (Sigma λt:Ty=>List (aX t))
 | .sl (.nm m) t xs=>if m=n then some ⟨t,xs⟩else none
 | .wn m t xs=>if m=n then some ⟨t,xs⟩else none
 |_=>none
def kY (n:Nat):List AV->Option (Sigma λt:Ty=>List (aX t))
 |[]=>none
 |c::cs=>match fG n c with
  |some x=>some x
  |none=>kY n cs
def iv (n:Nat):AV->Option (Sigma λt:Ty=>List (aX t))
 | .bx _ cells=>kY n cells
 | .agg cells=>kY n cells
 |v=>fG n v
def eS (n:Nat) (f:(t:Ty)->List (aX t)->Option (List (aX t))):AV->Option AV
 | .sl (.nm m) t xs=>if m=n then(match f t xs with|some ys=>some (.sl (.nm m) t ys)|none=>none)else some (.sl (.nm m) t xs)
 | .dp m t xs h=>if m=n then none else some (.dp m t xs h)
 | .dq m t xs h=>if m=n then none else some (.dq m t xs h)
 | .wn m t xs=>if m=n then(match f t xs with|some ys=>some (.wn m t ys)|none=>none)else some (.wn m t xs)
 |v=>some v
def nF (n:Nat) (f:(t:Ty)->List (aX t)->Option (List (aX t))):List AV->Option (List AV)
 |[]=>some []
 |c::cs=>match eS n f c,nF n f cs with
  |some c',some cs'=>some (c'::cs')
  |_,_=>none
def eX (n:Nat) (f:(t:Ty)->List (aX t)->Option (List (aX t))):AV->Option AV
 | .bx o cells=>match nF n f cells with|some cs=>some (.bx o cs)|none=>none
 | .agg cells=>match nF n f cells with|some cs=>some (.agg cs)|none=>none
 |v=>eS n f v
def window {α:Type} (xs:List α):Option (Nat×Nat)->List α
 |none=>xs
 |some (off,len)=>(xs.drop off).take len
def Jq:Option (Nat×Nat)->Nat
 |none=>0
 |some (o,_)=>o
def nodeOf (s n sz:Nat):M (Sigma λt:Ty=>List (aX t)):=do
 let a<-cG s
 match iv n a with
 |some ⟨t,xs⟩=>if sz=t.size then pure ⟨t,xs⟩else .fail
 |none=> .fail
def shown:AV->M (Sigma λt:Ty=>List (aX t))
 | .sl .imm t xs=>pure ⟨t,xs⟩
 | .sl .nl t xs=>pure ⟨t,xs⟩
 | .sl (.nm _) t xs=>pure ⟨t,xs⟩
 | .ref s n sz u=>do
   let x<-nodeOf s n sz
   pure ⟨x.1,window x.2 u⟩
 |_=> .fail
def fq:AV->AV
 | .sl _ t xs=> .sl .imm t xs
 |v=>v
def M.ofOpt {α β:Type} (x:Option α) (f:α->M β):M β:=match x with
 |some a=>f a
 |none=> .fail
def AF (op:BinOp) (k:IntKind) (x y:Int):Option Int:=
 match op with
 | .and=>some (k.wrap (BitVec.ofInt k.bits x&&&BitVec.ofInt k.bits y).toNat)
 | .or=>some (k.wrap (BitVec.ofInt k.bits x|||BitVec.ofInt k.bits y).toNat)
 | .xor=>some (k.wrap (BitVec.ofInt k.bits x^^^BitVec.ofInt k.bits y).toNat)
 | .andNot=>some (k.wrap (BitVec.ofInt k.bits x&&& ~~~(BitVec.ofInt k.bits y)).toNat)
 |_=>none
def Uj (op:BinOp) (k:IntKind) (x y:Int):M AV:=
 match op with
 | .add=>pure (.int k (k.wrap (x+y)))
 | .sub=>pure (.int k (k.wrap (x-y)))
 | .mul=>pure (.int k (k.wrap (x*y)))
 | .quo=>do dB (y≠0);pure (.int k (k.wrap (x.tdiv y)))
 | .rem=>do dB (y≠0);pure (.int k (x.tmod y))
 | .eql=>pure (.bool (x==y))
 | .neq=>pure (.bool (x !=y))
 | .lss=>pure (.bool (x<y))
 | .leq=>pure (.bool (x<=y))
 | .gtr=>pure (.bool (x>y))
 | .geq=>pure (.bool (x>=y))
 |op=>match AF op k x y with
  |some r=>pure (.int k r)
  |none=> .fail
def AG (T:TT) (op:BinOp) (ty:Nat) (x y:AV):M AV:=
 match x,y with
 | .int k a,.int u b=>
   match op with
   | .shl=>do dB (0<=b);pure (.int k (k.wrap (a*2^(min b.toNat k.bits))))
   | .shr=>do dB (0<=b);pure (.int k (a.fdiv (2^(min b.toNat k.bits))))
   |op=>if k=u then Uj op k a b else .fail
 | .bool a,.bool b=>
   match T.at ty with
   |some {desc:= .bool,.. }=>
    match op with
    | .eql=>pure (.bool (a==b))
    | .neq=>pure (.bool (!(a==b)))
    |_=> .fail
   |_=> .fail
 |_,_=> .fail
def IQ (op:UnOp) (x:AV):M AV:=
 match op,x with
 | .neg,.int k n=>pure (.int k (k.wrap (0-n)))
 | .xor,.int k n=>pure (.int k (k.wrap (BitVec.ofInt k.bits (if k.signed then-1 else k.max)^^^BitVec.ofInt k.bits n).toNat))
 | .not,.bool b=>pure (.bool !b)
 |_,_=> .fail
def Uh (T:TT) (src dst:Nat) (x:AV):M AV:=
 match T.at src,T.at dst,x with
 |some _,some {desc:= .int k,.. },.int _ n=>pure (.int k (k.wrap n))
 |_,_,_=> .fail
def xP (T:TT) (ty:Nat) (x:AV):M AV:=
 match T.at ty with
 |some {desc:= .slice _ _,.. }=>do
  let y<-shown x
  pure (.int .i64 y.2.length)
 |_=> .fail
def Uv (T:TT) (idx ty:Nat) (l c:AV):M AV:=
 match T.at ty,l,c with
 |some {desc:= .slice _ t,.. },.int .i64 l,.int .i64 c=>do
  dB (0<=l/\l<=c/\c<=1073741824)
  pure (.sl (.nm (fresh idx 15)) t (List.replicate l.toNat t.zero))
 |_,_,_=> .fail
def Vp (T:TT) (idx:Nat) (u:Array TypeId) (x y:AV):M AV:=
 match u[0]?,u[1]? with
 |some K,some J=>
  match T.at K,T.at J with
  |some {desc:= .slice _ G,.. },some {desc:= .slice _ _,.. }=>do
   let y<-shown y
   match x with
   | .sl (.nm _) t xs=>
     if h:y.1=t/\G.size=t.size then do
      dB (xs.length+y.2.length<=1073741824)
      pure (.sl (.nm (fresh idx 15)) t (xs++(h.1▸y.2)))
     else .fail
   | .sl .nl t _=>
     if h:y.1=t/\G.size=t.size then do
      dB (y.2.length<=1073741824)
      pure (.sl (.nm (fresh idx 15)) t (h.1▸y.2))
     else .fail
   |_=> .fail
  |_,_=> .fail
 |_,_=> .fail
def UB (T:TT) (idx:Nat) (u:Array TypeId) (x y:AV):M AV:=
 match u[0]? with
 |some G=>
  match T.at G with
  |some {desc:= .slice _ J,.. }=>do
   let y<-shown y
   match x with
   | .ref s n sz none=>do
     let a<-cG s
     match a with
     | .sl (.nm m) t xs=>
       if h:y.1=t/\J.size=t.size/\m=n then do
        dB (0<y.2.length/\0<xs.length)
        fJ s (.sl (.nm (fresh idx 15)) t ((h.1▸y.2:List (aX t)).take xs.length++xs.drop y.2.length))
        pure (.int .i64 (min y.2.length xs.length:Nat))
       else .fail
     |_=> .fail
   |_=> .fail
  |_=> .fail
 |_=> .fail
def qvr (u:Int):Option AV->Option Int
 |none=>some u
 |some (.int .i64 n)=>some n
 |some _=>none
def SI {α:Type} (xs:List α) (lo u:Option Int):List α:=
 match lo,u with
 |none,none=>xs
 |some l,none=>xs.drop l.toNat
 |none,some h=>xs.take h.toNat
 |some l,some h=>(xs.drop l.toNat).take (h.toNat-l.toNat)
def s5 :Option AV->Option (Option Int)
 |none=>some none
 |some (.int .i64 n)=>some (some n)
 |some _=>none
def U7 (T:TT) (idx ty:Nat) (x:AV) (lo G:Option AV):M AV:=
 match T.at ty,s5 lo,s5 G with
 |some {desc:= .slice _ J,.. },some lo,some G=>
  match x with
  | .sl .imm t xs=>if J.size=t.size then do
     dB (0<=lo.getD 0/\lo.getD 0<=G.getD xs.length/\G.getD xs.length<=xs.length)
     pure (.sl .imm t (SI xs lo G))
    else .fail
  | .sl (.nm _) t xs=>if J.size=t.size then do
     dB (0<=lo.getD 0/\lo.getD 0<=G.getD xs.length/\G.getD xs.length<=xs.length)
     pure (.sl (.nm (fresh idx 15)) t (SI xs lo G))
    else .fail
  | .ref s n sz u=>if J.size=sz then do
     let x<-nodeOf s n sz
     dB (0<=lo.getD 0/\lo.getD 0<=G.getD (window x.2 u).length/\G.getD (window x.2 u).length<=(window x.2 u).length)
     pure (.ref s n sz (some (Jq u+(lo.getD 0).toNat,(G.getD ((window x.2 u).length:Int)).toNat-(lo.getD 0).toNat)))
    else .fail
  |_=> .fail
 |_,_,_=> .fail
def WN (T:TT) (ty:Nat) (x i:AV):M AV:=
 match T.at ty,i with
 |some {desc:= .slice _ G,.. },.int _ i=>
  match x with
  | .sl .imm t xs=>if G.size=t.size then do
     dB (0<=i/\i<xs.length)
     pure (.iptr none t xs i.toNat 0)
    else .fail
  | .ref s n sz u=>if G.size=sz then do
     let x<-nodeOf s n sz
     dB (0<=i/\i<(window x.2 u).length)
     pure (.ptr s n sz (Jq u+i.toNat) 0)
    else .fail
  |_=> .fail
 |_,_=> .fail
def xp (T:TT) (t g:Nat) (i:AV):M AV:=
 match T.at t,i with
 |some {desc:= .tab g' k xs,.. },.int _ i=>
  if g'=g then do
   dB (0<=i/\i<xs.length)
   pure (.iptr none (.int k) xs i.toNat 0)
  else .fail
 |_,_=> .fail
def fx (s:ByteArray):LI:=s.data.toList.map λb=>(b.toNat:Int)
def Vh (T:TT) (t:Nat) (x i:AV):M AV:=
 match T.at t,x,i with
 |some {desc:= .string,.. },.lit (.string s),.int _ i=>do
  dB (0<=i/\i<(fx s).length)
  pure (.int .u8 ((fx s).getD i.toNat 0))
 |_,_,_=> .fail
def WD (T:TT) (ty:Nat) (x:AV) (f:Nat):M AV:=
 match T.at ty with
 |some {desc:= .struct fs,.. }=>
  match fs[f]? with
  |some (off,u)=>
   if u=0 then .fail else
   match x with
   | .ptr s n sz i j=>pure (.ptr s n sz i (j+off))
   | .iptr none t xs i j=>pure (.iptr none t xs i (j+off))
   | .dr s n (.elem sz i j k)=>pure (.dr s n (.elem sz i j (k+off)))
   |_=> .fail
  |none=> .fail
 |_=> .fail
def c8 (size:Nat) (agg:Bool) (cells:List AV) (off:Nat):Option AV:=
 if off+size<=cells.length then kZ agg ((cells.drop off).take size)else none
def Y1 (cells:List AV) (j size:Nat):List AV:=Qg cells j (List.replicate size .dead)
def I8 (size:Nat) (agg:Bool) (n sz i j:Nat) (a:AV):Option AV:=
 match iv n a with
 |some ⟨t,xs⟩=>if sz=t.size then c8 size agg ((aD t (xs.getD i t.zero)).map fq) j else none
 |none=>none
def Jv (size:Nat) (agg:Bool) (mode s n sz i j:Nat) (a:AV):Option (AV×Option AV):=
 match a with
 | .bx (.nm m) cells=>
   if m=n then
    if mode=1 then(c8 size agg cells j).map λv=>(v,some (.bx (.nm m) (Y1 cells j size)))
    else(c8 size agg (cells.map (Xw s)) j).map λv=>(v,none)
   else(I8 size agg n sz i j (.bx (.nm m) cells)).map λv=>(v,none)
 |a=>(I8 size agg n sz i j a).map λv=>(v,none)
def vr:Option AV->Option Nat
 |some (.ptr _ m _ _ _)=>some m
 |_=>none
def Wj (s:Nat):Nat->Nat->M (List AV)
 |_,0=>pure []
 |j,n+1=>do
  let c<-hH s (j+2)
  match c with
  |some c=>do
   let cs<-Wj s (j+1) n
   pure (c::cs)
  |none=> .fail
def LX (mode:Nat) (u:TI) (s n sz i j:Nat):M AV:=do
 let a<-cG s
 match Jv u.cells.length (Qb u.desc) mode s n sz i j a with
 |some (v,none)=>pure v
 |some (v,some G)=>do fJ s G;pure v
 |none=> .fail
def Su (T:TT) (mode ty:Nat) (p:AV):M AV:=
 match T.at ty with
 |none=> .fail
 |some u=>
  match p with
  | .iptr none t xs i j=>sZ (c8 u.cells.length (Qb u.desc) ((aD t (xs.getD i t.zero)).map fq) j)
  | .ptr s n sz i j=>
    match mode with
    |1=>LX 1 u s n sz i j
    |mode=>do
     let G<-hH s 1
     match vr G with
     |some m=>
      if m=n/\0<u.cells.length then do
       let cs<-Wj s j u.cells.length
       sZ (kZ (Qb u.desc) cs)
      else LX mode u s n sz i j
     |none=>LX mode u s n sz i j
  |_=> .fail
def vq (p:AV):M Unit:=
 match p with
 | .ptr s n _ _ _=>do
   let a<-cG s
   match a with
   | .bx (.nm m) cells=>if m=n then fJ s (.bx (.nm m) (cells.map Yy))else .fail
   |_=> .fail
 |_=> .fail
def Za (t:Ty) (x:aX t) (j:Nat) (cs:List AV):Option (aX t):=
 if j+cs.length<=t.size then
  match J7 t (Qg (aD t x) j cs)with
  |some (y,[])=>some y
  |_=>none
 else none
def ck:AV->Bool
 | .bool _| .int _ _| .sl .imm _ _| .sl .nl _ _=>true
 |_=>false
def Z7 (n sz i j:Nat) (cs:List AV) (a:AV):Option AV:=
 if cs.all ck&&(iv n a).isSome then eX n (λt xs=>if sz=t.size then(Za t (xs.getD i t.zero) j cs).map (xs.set i)else none) a else none
def Mf (idx n sz i j:Nat) (cs:List AV) (a:AV):Option AV:=
 match a with
 | .bx (.nm m) cells=>
   if m=n then
    match Yl idx 0 cs with
    |some cs'=>if j+cs.length<=cells.length then some (.bx (.nm m) (Qg cells j cs'))else none
    |none=>none
   else Z7 n sz i j cs (.bx (.nm m) cells)
 |a=>Z7 n sz i j cs a
def qko {n s:Nat} {f:(t:Ty)->List (aX t)->Option (List (aX t))} {c c':AV} (h:eS n f c=some c'):Xw s c'=Xw s c:=by unfold eS at h;split at h;{rename_i m t xs;split at h;{split at h;{cases h;rfl};{cases h}};{cases h;rfl}};{grind};{grind};{split at h;{split at h;{cases h;rfl};{cases h}};{cases h;rfl}};{cases h;rfl}
def Wu {n s:Nat} {f:(t:Ty)->List (aX t)->Option (List (aX t))}: ∀{cs cs':List AV},nF n f cs=some cs'->cs'.map (Xw s)=cs.map (Xw s)
 |[],cs',h=>by cases h;rfl
 |c::cs,cs',h=>by unfold nF at h;split at h;{rename_i d G u h2;cases h;simp only[sP,qko u,Wu h2]};{cases h}
def q8m {n s:Nat} {f:(t:Ty)->List (aX t)->Option (List (aX t))} {a b:AV} (h:eX n f a=some b): ∀j,j∉[0]->cZ s j b=cZ s j a:=by
 intro j hj
 match j,hj with
 |0,hj=>grind
 |1,_=>
  show dh s b=dh s a
  unfold eX at h;split at h
  . rename_i o cells;split at h
    . cases h
      cases o<;>rfl
    . cases h
  . split at h
    . rename_i hcs;cases h;show some (AV.agg _)=some (AV.agg _);rw[Wu hcs]
    . cases h
  . unfold eS at h;split at h
    . split at h
      . split at h
        . cases h;rfl
        . cases h
      . cases h;rfl
    . grind
    . grind
    . split at h
      . split at h
        . cases h;rfl
        . cases h
      . cases h;rfl
    . cases h;rfl
 |j+2,_=>
  simp only[cZ];split
  . unfold eX at h;split at h
    . rename_i o cells;split at h
      . rename_i hcs;cases h;cases o with
        |nm m=>
         have:=congrArg (λl=>l[j]?) (Wu (s:=s) hcs)
         simpa only[eP,List.getElem?_map]using this
        |_=>rfl
      . cases h
    . split at h
      . cases h;rfl
      . cases h
    . unfold eS at h;split at h
      . split at h
        . split at h
          . cases h;rfl
          . cases h
        . cases h;rfl
      . grind
      . grind
      . split at h
        . split at h
          . cases h;rfl
          . cases h
        . cases h;rfl
      . cases h;rfl
  . rfl
def q1p {n sz i j s:Nat} {cs:List AV} (a b:AV) (h:Z7 n sz i j cs a=some b): ∀k,k∉[0]->cZ s k b=cZ s k a:=by unfold Z7 at h;split at h;{exact q8m h};{cases h}
def NL (idx n j:Nat) (cs:List AV) (a:AV):Option AV:=
 match a with
 | .bx (.nm m) cells=>
   if m=n then
    match Yl idx 0 cs with
    |some cs'=>if j+cs.length<=cells.length then some (.bx (.nm m) (Qg cells j cs'))else none
    |none=>none
   else none
 |_=>none
def q5f {idx:Nat}: ∀{k:Nat} {cs cs':List AV},Yl idx k cs=some cs'->cs'.length=cs.length
 |_,[],cs',h=>by cases h;rfl
 |k,c::cs,cs',h=>by unfold Yl at h;split at h;{split at h;{rename_i u h2;cases h;simp[q5f h2]};{cases h}};{cases h}
def WY {α:Type}: ∀(l:List α) (j:Nat) (cs:List α) (i:Nat),(i<j\/j+cs.length<=i)->(Qg l j cs)[i]? =l[i]?
 |l,j,[],i,h=>by cases l<;>rfl
 |[],j,c::cs,i,h=>rfl
 |x::l,0,c::cs,0,h=>by simp at h
 |x::l,0,c::cs,i+1,h=>by{simp only[Qg,List.getElem?_cons_succ];exact WY l 0 cs i (.inr (by simp at h⊢;omega))}
 |x::l,j+1,c::cs,0,h=>rfl
 |x::l,j+1,c::cs,i+1,h=>by simp only[Qg,List.getElem?_cons_succ];exact WY l j (c::cs) i (by simp at h⊢;omega)
def pS:Nat->Nat->List Nat
 |_,0=>[]
 |j,n+1=>(j+2)::pS (j+1) n
def qer: ∀{j n i:Nat},j<=i->i<j+n->i+2∈pS j n
 |j,0,i,u,h2=>O
 |j,n+1,i,u,h2=>by simp only[pS,zq];rcases Nat.eq_or_lt_of_le u with rfl|h;{exact .inl rfl};{exact .inr (qer h O)}
def q8g {idx n j s:Nat} {cs:List AV} (a b:AV) (h:NL idx n j cs a=some b): ∀k,k∉(0::pS j cs.length)->cZ s k b=cZ s k a:=by
 intro k u;simp only[zq,not_or]at u;unfold NL at h;split at h
 . split at h
   . split at h
     . rename_i cs' G;split at h
       . cases h
         match k,u with
         |0,u=>exact absurd rfl u.1
         |1,_=>rfl
         |k+2,u=>
          simp only[cZ,eP];split
          . rw[WY];rcases fS k j with J|J
            . exact .inl J
            . rcases fS k (j+cs.length)with h2|h2
              . exact absurd (qer J h2) u.2
              . exact .inr (by rw[q5f G];exact h2)
          . rfl
       . cases h
     . cases h
   . cases h
 . cases h
def qbp {idx n sz i j:Nat} {cs:List AV} {a b:AV} (h:NL idx n j cs a=some b):Mf idx n sz i j cs a=some b:=by unfold NL at h;split at h;{unfold Mf;grind};{cases h}
def q2t {idx n sz i j:Nat} {cs:List AV} {a b:AV} (h:Z7 n sz i j cs a=some b) (u: ∀c,a≠ .bx (.nm n) c):Mf idx n sz i j cs a=some b:=by unfold Mf;grind
def Vk (T:TT) (idx ty:Nat) (p v:AV):M Unit:=
 match T.at ty with
 |none=> .fail
 |some u=>
  if(cellsOf v).length≠u.cells.length then .fail else
  match p with
  | .ptr s n sz i j=>do
    let G<-hH s 1
    match vr G with
    |some m=>
     if m=n then lK s (0::pS j (cellsOf v).length) (NL idx n j (cellsOf v)) q8g
     else lK s [0] (Z7 n sz i j (cellsOf v)) q1p
    |none=>lK s [0] (Z7 n sz i j (cellsOf v)) q1p
  |_=> .fail
def AE (T:TT) (idx ty:Nat) (v:AV):M AV:=
 match T.at ty with
 |none=> .fail
 |some u=>
  if(cellsOf v).length≠u.cells.length then .fail else
  M.ofOpt (Yl idx 0 (cellsOf v)) λcs=>pure (.bx (.nm (fresh idx 15)) cs)
def I0:List ZC->Option (List AV)
 |[]=>some []
 |c::cs=>match qm7 c,I0 cs with
  |some v,some vs=>some (v::vs)
  |_,_=>none
def UR (T:TT) (idx mode ty:Nat):M AV:=
 match T.at ty with
 |none=> .fail
 |some u=>M.ofOpt (I0 u.cells) λzs=>M.ofOpt (Yl idx 0 (cellsOf (nlI mode (.agg zs)))) λcs=>pure (.bx (.nm (fresh idx 15)) cs)
def qr9:AV->Bool
 | .dead| .tup _| .bx _ _| .wn _ _ _=>false
 |_=>true
def Sk (fs:List (Nat×Nat)) (cells:List AV):List (Nat×AV)->Option (List AV)
 |[]=>some cells
 |(f,v)::r=>
  match fs[f]? with
  |some (off,u)=>
   if(cellsOf v).length=u/\off+u<=cells.length/\qr9 v=true then Sk fs (Qg cells off (cellsOf v)) r else none
  |none=>none
def rdParts (T:TT):List (Nat×Operand)->M (List (Nat×AV))
 |[]=>pure []
 |(f,x)::r=>do
  let v<-rdT x
  let vs<-rdParts T r
  pure ((f,v)::vs)
def Vb (T:TT) (ty:Nat) (parts:List (Nat×AV)):M AV:=
 match T.at ty with
 |some {desc:= .struct fs,cells}=>
  M.ofOpt (I0 cells) λzs=>M.ofOpt (Sk fs zs parts) λcs=>pure (.agg cs)
 |_=> .fail
def SY (t:Ty) (xs:List (aX t)):List (Nat×AV)->Option (List (aX t))
 |[]=>some xs
 |(i,v)::r=>
  if i<xs.length/\(cellsOf v).length=t.size/\(cellsOf v).all ck then
   match J7 t (cellsOf v)with
   |some (y,[])=>SY t (xs.set i y) r
   |_=>none
  else none
def WR (T:TT) (idx ty len:Nat) (parts:List (Nat×AV)):M AV:=
 match T.at ty with
 |some {desc:= .slice _ t,.. }=>
  if len*t.size<=65536 then
   M.ofOpt (SY t (List.replicate len t.zero) parts) λxs=>pure (.sl (.nm (fresh idx 15)) t xs)
  else .fail
 |_=> .fail
def Wv:AV->M AV
 | .ptr s n sz i j=>pure (.ptr s n sz i j)
 | .iptr g t xs i j=>pure (.iptr g t xs i j)
 | .lit (.func (.func f) as u)=>pure (.lit (.func (.func f) as u))
 |_=> .fail
def VS (x:Operand) (i:Nat):M AV:=
 match x with
 | .tmp t=>do
   let u<-hH t 1
   match u with
   |some _=> .fail
   |none=>do
    let c<-hH t (i+2)
    match c with
    |some v=>
     if L3 v then do
      lK t [0,i+2] (VB i) q8f
      pure v
     else pure v
    |none=> .fail
 |_=> .fail
def d9 (f:Nat->Nat):AV->AV
 | .dp n t xs h=> .dp (f n) t xs h
 | .sl (.nm n) t xs=> .sl (.nm (f n)) t xs
 | .wn n t xs=> .wn (f n) t xs
 | .dq n t xs h=> .dq (f n) t xs h
 |v=>v
def renO (f:Nat->Nat):Rr->Rr
 | .nm n=> .nm (f n)
 |o=>o
def gN (f:Nat->Nat):AV->AV
 | .bx o cells=> .bx (renO f o) (cells.map (d9 f))
 | .agg cells=> .agg (cells.map (d9 f))
 |v=>d9 f v
def ren (f:Nat->Nat):AV->AV
 | .tup vs=> .tup (vs.map (gN f))
 |v=>gN f v
def aY:List Nat->Nat->Nat
 |[],_=>0
 |m::ms,n=>if m=n then 0 else aY ms n+1
def W6 (n:Nat):AV->Bool
 | .dp m _ _ _=>Nat.beq m n
 |_=>false
def Sb (n:Nat):List AV->Nat->Option Nat
 |[],_=>none
 |c::cs,k=>match W6 n c with
  |true=>some k
  |false=>Sb n cs (k+1)
def gP (n:Nat):AV->Option (AV×Option Nat)
 | .dp m t xs h=>if m=n then some (.dp m t xs h,none)else none
 | .bx (.nm _) cells=>match Sb n cells 0 with
   |some j=>some (cells.getD j .dead,some j)
   |none=>none
 |_=>none
def qmq (h:Option Nat) (i:Nat):M Unit:=match h with
 |some k=>dB (k=i)
 |none=>pure ()
def I2 (h:Option Nat) (i:Nat):M Unit:=match h with
 |some k=>dB (k≠i)
 |none=>pure ()
def xB (s n:Nat):M AV:=do
 let a<-cG s
 match gP n a with
 |some (.dp _ t xs none,_)=>pure (.sl .imm (.sl false t) xs)
 |_=> .fail
def passC (c:AV):M AV:=
 match c with
 | .bool b=>pure (.bool b)
 | .int k x=>pure (.int k x)
 | .lit v=>pure (.lit v)
 | .sl .imm t xs=>pure (.sl .imm t xs)
 | .sl .nl t xs=>pure (.sl .imm t xs)
 | .ref s n sz u=>do
   let y<-shown (.ref s n sz u)
   pure (.sl .imm y.1 y.2)
 | .dr s n (.row i)=>do
   let a<-cG s
   match gP n a with
   |some (.dp _ t xs h,_)=>do
     I2 h i
     pure (.sl .imm t (xs.getD i []))
   |_=> .fail
 | .dr s n .whole=>xB s n
 | .dr s n (.lenw _)=>xB s n
 | .iptr g t xs i j=>pure (.iptr g t xs i j)
 |_=> .fail
def passL:List AV->M (List AV)
 |[]=>pure []
 |c::cs=>do
  let c'<-passC c
  let cs'<-passL cs
  pure (c'::cs')
def J4:AV->Bool
 | .ref _ _ _ _=>false
 | .dr _ _ _=>false
 | .ptr _ _ _ _ _=>false
 | .wn _ _ _=>false
 |_=>true
def IY:AV->Bool
 | .bx _ cells=>cells.all J4
 | .agg cells=>cells.all J4
 |v=>J4 v
def bR:AV->Bool
 | .tup vs=>vs.all IY
 |v=>IY v
def iE:AV->Bool
 | .wn _ _ _=>true
 |_=>false
def eI (v:AV):Bool:=bR v||iE v
def rdP:Operand->M AV
 | .tmp t=>do
   let a<-cG t
   match a with
   | .bx (.nm n) _=>pure (.ptr t n 1 0 0)
   |_=>rdF (.tmp t)
 |x=>rdF x
def jI:AV->List Nat
 | .ref _ n _ _=>[n]
 | .dr _ n _=>[n]
 |_=>[]
def passA (ty:Nat) (T:TT) (x:Operand):M (AV×Option Nat×List Nat):=do
 let v<-rdP x
 match Jm T ty v with
 | .agg cells=>do
   let cs<-passL cells
   pure (.agg cs,none,cells.flatMap jI)
 | .ptr s n _ 0 0=>do
   let a<-cG s
   match a with
   | .bx (.nm m) cells=>
     if m=n/\bR a=true/\(ab a).length<=16 then pure (ren (aY (ab a)) (.bx (.nm m) cells),some s,[])else .fail
   |_=> .fail
 |v=>do
  let c<-passC v
  pure (c,none,jI v)
def Jk:AV->Option Nat
 | .bx (.nm m) _=>some m
 | .sl (.nm m) _ _=>some m
 | .dp m _ _ none=>some m
 |_=>none
def lendA (x:Operand):M (AV×Option Nat×List Nat):=do
 let v<-rd x
 match v with
 | .ref s n _ none=>do
   let a<-cG s
   match a with
   | .sl (.nm m) t xs=>if m=n then pure (ren (aY (ab (.sl (.nm m) t xs))) (.sl (.nm m) t xs),some s,[])else .fail
   |_=> .fail
 | .dr s n .whole=>do
   let a<-cG s
   match a with
   | .dp m t xs none=>if m=n then pure (ren (aY (ab (.dp m t xs none))) (.dp m t xs none),some s,[])else .fail
   |_=> .fail
 |_=> .fail
def passX (T:TT) (k ty:Nat) (x:Operand):M (AV×Option Nat×List Nat):=
 match k with
 |1=>lendA x
 |_=>passA ty T x
def passAll (T:TT):Nat->List Operand->List TypeId->M (List (AV×Option Nat×List Nat))
 |k,x::xs,ty::u=>do
  let a<-passX T k ty x
  let as<-passAll T (k-1) xs u
  pure (a::as)
 |_,[],_=>pure []
 |_,_,[]=> .fail
def Yd:Ty->Bool
 | .int _=>false
 | .bool=>false
 | .sl _ _=>true
 | .pr a b=>Yd a||Yd b
def Jo:AV->Bool
 | .sl .imm _ _=>true
 | .sl _ t _=>Yd t
 | .iptr _ _ _ _ _=>true
 | .dp _ t _ _=>Yd t
 | .wn _ t _=>Yd t
 | .dq _ _ _ _=>true
 |_=>false
def X4:AV->Bool
 | .bx _ cells=>cells.any Jo
 | .agg cells=>cells.any Jo
 | .tup vs=>vs.any λv=>match v with
   | .bx _ cells=>cells.any Jo
   | .agg cells=>cells.any Jo
   |v=>Jo v
 |v=>Jo v
def Z8:List (AV×Option Nat×List Nat)->List Nat
 |[]=>[]
 |(_,some s,_)::r=>s::Z8 r
 |_::r=>Z8 r
def xC (outs:List AV):List (AV×Option Nat×List Nat)->Nat->Option AV
 |[],_=>none
 |(_,some _,_)::_,i=>outs[i]?
 |_::r,i=>xC outs r (i+1)
def xA (k s:Nat) (p:AV×Option Nat×List Nat):AV:=
 match p.2.1 with
 |some u=>if u=s then ren (λn=>n+k) p.1 else p.1
 |none=>p.1
def nW (s:Nat) (outs:List AV):List (AV×Option Nat×List Nat)->Nat->Option AV
 |[],_=>none
 |(_,some u,_)::r,i=>if u=s then outs[i]? else nW s outs r (i+1)
 |_::r,i=>nW s outs r (i+1)
def Ur (T:TT) (idx mode f:Nat) (args:List Operand) (u:List TypeId):M AV:=do
 let ps<-passAll T (mode-10) args u
 match Z8 ps with
 |[]=>do
  let (r,_)<-n9 f (ps.map (·.1))
  if !(ps.flatMap (·.2.2)).isEmpty&&X4 r then .fail else pure (ren (fresh idx) r)
 |[s]=>do
  let a<-cG s
  if(Jk a).isNone||(ps.flatMap (·.2.2)).any λn=>(ab a).contains n then .fail else do
   let (r,outs)<-n9 f (ps.map (·.1))
   match xC outs ps 0 with
   |some o=>if(!(ps.flatMap (·.2.2)).isEmpty&&(X4 r||X4 o))||iE o then .fail else do
     fJ s (ren (fresh idx) o)
     pure (ren (fresh idx) r)
   |none=> .fail
 |[s,t]=>do
  let a<-cG s
  let b<-cG t
  if Nat.beq s t||(Jk a).isNone||(Jk b).isNone||Nat.blt 16 ((ab a).length+(ab b).length)||(ps.flatMap (·.2.2)).any λn=>(ab a++ab b).contains n then .fail else do
   let (r,outs)<-n9 f (ps.map (xA (ab a).length t))
   match nW s outs ps 0,nW t outs ps 0 with
   |some o,some q=>if(!(ps.flatMap (·.2.2)).isEmpty&&(X4 r||X4 o||X4 q))||(iE o||iE q)then .fail else do
     fJ s (ren (fresh idx) o)
     fJ t (ren (fresh idx) q)
     pure (ren (fresh idx) r)
   |_,_=> .fail
 |_=> .fail
def xv (T:TT) (idx f:Nat) (args:List Operand) (u:List TypeId):M AV:=
 match args,u with
 |x::rest,_::u=>do
  let ps<-passAll T 0 rest u
  match Z8 ps with
  |[]=>do
   let a<-rd x
   match a with
   | .dr s n (.row i)=>do
     let b<-cG s
     match b with
     | .dp m t xs none=>
       if m=n/\(ps.flatMap (·.2.2)).contains n=false/\(ps.flatMap (·.2.2)).contains (fresh idx 15)=false then do
        let (r,outs)<-n9 f (.sl (.nm 0) t (xs.getD i [])::ps.map (·.1))
        match outs with
        | .sl (.nm _) t' ys::_=>
          if h:t'=t then
           if !(ps.flatMap (·.2.2)).isEmpty&&(X4 r||Yd t)then .fail else do
            fJ s (.dp m t (xs.set i (h▸ys)) none)
            pure (ren (fresh idx) r)
          else .fail
        |_=> .fail
       else .fail
     |_=> .fail
   |_=> .fail
  |_=> .fail
 |_,_=> .fail
def Un (T:TT) (idx u f:Nat) (args:List Operand) (G:List TypeId):M AV:=
 match args[u]? with
 |some x=>do
  let ps<-passAll T 0 (args.take u++args.drop (u+1)) (G.take u++G.drop (u+1))
  match Z8 ps with
  |[]=>do
   let a<-rd x
   match a with
   | .ref s n sz (some (off,len))=>do
     let b<-cG s
     match b with
     | .sl (.nm m) t xs=>
       if m=n/\sz=t.size/\Yd t=false/\(ps.flatMap (·.2.2)).contains n=false then do
        dB (0<xs.length)
        let (r,outs)<-n9 f ((ps.map (·.1)).take u++ .wn 0 t ((xs.drop off).take len)::(ps.map (·.1)).drop u)
        match outs[u]? with
        |some (.wn 0 t' ys)=>
         if h:t'=t then
          if !(ps.flatMap (·.2.2)).isEmpty&&X4 r then .fail else do
          lK s [0] (eX n λJ _=>if h2:J=t then some (h2▸(xs.take off++((h▸ys:List (aX t))++xs.drop (off+len))))else none) (λ_ _ h=>q8m h)
          pure (ren (fresh idx) r)
         else .fail
        |_=> .fail
       else .fail
     |_=> .fail
   |_=> .fail
  |_=> .fail
 |none=> .fail
def Ik (T:TT) (idx mode f:Nat) (args:List Operand) (u:List TypeId):M AV:=
 if Nat.beq mode 301 then xv T idx f args u else if Nat.ble 310 mode then Un T idx (mode-310) f args u else Ur T idx mode f args u
def FM (a b:AV):M AV:=
 match a,b with
 | .int k x,.int _ y=>pure (.int k (if y>x then y else x))
 |_,_=> .fail
def FL (a b:AV):M AV:=
 match a,b with
 | .int k x,.int _ y=>pure (.int k (if y<x then y else x))
 |_,_=> .fail
def Ui (T:TT) (idx ty:Nat) (l c:AV):M AV:=
 match T.at ty,l,c with
 |some {desc:= .slice _ (.sl _ t),.. },.int .i64 l,.int .i64 c=>do
  dB (0<=l/\l<=c/\c<=1073741824)
  pure (.dp (fresh idx 15) t (List.replicate l.toNat []) none)
 |_,_,_=> .fail
def AB (W:List Nat):Option Nat->List Nat
 |none=>W
 |some j=>[0,j+2]
def jz (f:AV->Option AV):Option Nat->AV->Option AV
 |none,a=>f a
 |some j,.bx (.nm m) cells=>match f (cells.getD j .dead)with
  |some d=>some (.bx (.nm m) (cells.set j d))
  |none=>none
 |_,_=>none
def qgt {s:Nat} {f:AV->Option AV} {W:List Nat} (G: ∀a b,f a=some b-> ∀j,j∉W->cZ s j b=cZ s j a) (loc:Option Nat):
 ∀a b,jz f loc a=some b-> ∀j,j∉AB W loc->cZ s j b=cZ s j a:=by
 intro a b h j u;cases loc with
 |none=>exact G a b h j u
 |some k=>
  simp only[AB,zq,nA,or_false,not_or]at u;unfold jz at h;split at h
  . rename_i e;cases e
  . rename_i e;cases e;split at h
    . cases h
      match j,u with
      |0,u=>exact absurd rfl u.1
      |1,_=>rfl
      |j+2,u=>
       simp only[cZ,eP]
       grind
    . cases h
  . cases h
def q57 {s:Nat} {f:AV->Option AV} (G: ∀a b,f a=some b-> ∀j,j∉[0]->cZ s j b=cZ s j a) (J: ∀a b,f a=some b->Xw s b=Xw s a) (loc:Option Nat):
 ∀a b,jz f loc a=some b-> ∀j,j∉[0]->cZ s j b=cZ s j a:=by
 intro a b h j u;cases loc with
 |none=>exact G a b h j u
 |some k=>
  unfold jz at h;split at h
  . rename_i e;cases e
  . rename_i cells e;cases e;split at h
    . rename_i d hd;cases h
      match j,u with
      |0,u=>grind
      |1,_=>rfl
      |j+2,u=>
       simp only[cZ,eP]
       grind
    . cases h
  . cases h
def dpLen (s n:Nat):M Nat:=do
 let b<-hH s 1
 match b with
 |some (.dr _ m .whole)=>do
  let a<-hH s 2
  match a with
  |some (.dr l _ .whole)=>if m=n then pure l else .fail
  |_=> .fail
 |some (.ptr _ _ _ _ _)=>do
  let a<-cG s
  match gP n a with
  |some (.dp _ _ xs _,_)=>pure xs.length
  |_=> .fail
 |_=> .fail
def xO (T:TT) (ty:Nat) (s n:Nat) (k:DK):M AV:=
 match T.at ty with
 |some {desc:= .slice _ _,.. }=>
  match k with
  | .whole=>do
    let l<-dpLen s n
    pure (.int .i64 l)
  | .lenw l=>pure (.int .i64 l)
  | .row i=>do
    let a<-cG s
    match gP n a with
    |some (.dp _ _ xs h,_)=>do
      I2 h i
      pure (.int .i64 (xs.getD i []).length)
    |_=> .fail
  |_=> .fail
 |_=> .fail
def Vc (T:TT) (ty:Nat) (s n:Nat) (k:DK) (i:AV):M AV:=
 match T.at ty,i with
 |some {desc:= .slice _ u,.. },.int _ i=>
  match k with
  | .whole=>
    if u.size=1 then do
     let l<-dpLen s n
     dB (0<=i/\i<l)
     pure (.dr s n (.cell i.toNat))
    else .fail
  | .lenw l=>
    if u.size=1 then do
     dB (0<=i/\i<l)
     pure (.dr s n (.cell i.toNat))
    else .fail
  | .row r=>do
    let a<-cG s
    match gP n a with
    |some (.dp _ t xs h,_)=>
     if u.size=t.size then do
      I2 h r
      dB (0<=i/\i<(xs.getD r []).length)
      pure (.dr s n (.elem t.size r i.toNat 0))
     else .fail
    |_=> .fail
  |_=> .fail
 |_,_=> .fail
def Nm (i:Nat):AV->Option AV
 | .dp n t xs none=>some (.dp n t xs (some i))
 |_=>none
def qej {s i:Nat} (a b:AV) (h:Nm i a=some b): ∀j,j∉[0]->cZ s j b=cZ s j a:=by
 intro j u;unfold Nm at h;split at h
 . cases h
   match j,u with
   |0,u=>grind
   |1,_=>rfl
   |j+2,_=>rfl
 . cases h
def qct {s i:Nat} (a b:AV) (h:Nm i a=some b):Xw s b=Xw s a:=by unfold Nm at h;split at h;{cases h;rfl};{cases h}
def Us (T:TT) (idx mode ty:Nat) (s n:Nat) (k:DK):M AV:=
 match T.at ty with
 |none=> .fail
 |some u=>
  match k with
  | .cell i=>match u with
    |{desc:= .slice _ G,cells:=[_]}=>
     match mode with
     |4=>do
      let a<-cG s
      match gP n a with
      |some (.dp _ t xs none,loc)=>
       if G.size=t.size then do
        lK s [0] (jz (Nm i) loc) (q57 qej qct loc)
        pure (.sl (.nm (fresh idx 15)) t (xs.getD i []))
       else .fail
      |_=> .fail
     |_=>do
      let a<-cG s
      match gP n a with
      |some (.dp _ _ _ h,_)=>do
        I2 h i
        pure (.dr s n (.row i))
      |_=> .fail
    |_=> .fail
  | .elem sz i j c=>do
    let a<-cG s
    match gP n a with
    |some (.dp _ t xs h,_)=>
     if sz=t.size then do
      I2 h i
      sZ (c8 u.cells.length (Qb u.desc) ((aD t ((xs.getD i []).getD j t.zero)).map fq) c)
     else .fail
    |_=> .fail
  |_=> .fail
def uI (i m:Nat) (t:Ty) (ys:List (aX t)):AV->Option AV
 | .dp _ t' xs _=>if h:t'=t then some (.dp m t' (xs.set i (h▸ys)) none)else none
 |_=>none
def setDp (i j c:Nat) (vs:List AV):AV->Option AV
 | .dp m t xs h=>match Za t ((xs.getD i []).getD j t.zero) c vs with
   |some x=>some (.dp m t (xs.set i ((xs.getD i []).set j x)) h)
   |none=>none
 |_=>none
def qfk {s i j c:Nat} {vs:List AV} (a b:AV) (h:setDp i j c vs a=some b): ∀k,k∉[0]->cZ s k b=cZ s k a:=by
 intro k u;unfold setDp at h;split at h
 . split at h
   . cases h
     match k,u with
     |0,u=>grind
     |1,_=>rfl
     |k+2,_=>simp only[cZ,eP,zT]
   . cases h
 . cases h
def qgz {s i j c:Nat} {vs:List AV} (a b:AV) (h:setDp i j c vs a=some b):Xw s b=Xw s a:=by unfold setDp at h;split at h;{split at h;{cases h;simp[Xw]};{cases h}};{cases h}
def qfp {s i m:Nat} {t:Ty} {ys:List (aX t)} (a b:AV) (h:uI i m t ys a=some b): ∀j,j∉[0,1,2]->cZ s j b=cZ s j a:=by
 intro j u;unfold uI at h;split at h
 . split at h
   . cases h
     match j,u with
     |0,u=>exact absurd (by simp) u
     |1,u=>exact absurd (by simp) u
     |2,u=>exact absurd (by simp) u
     |j+3,_=>simp[cZ,eP]
   . cases h
 . cases h
def SR (T:TT) (idx ty:Nat) (s n:Nat) (k:DK) (v:AV):M Unit:=
 match T.at ty with
 |none=> .fail
 |some u=>
  match k with
  | .cell i=>match u,v with
    |{cells:=[_],.. },.sl (.nm _) t ys=>do
     let a<-cG s
     match gP n a with
     |some (.dp _ t' _ h,loc)=>
      if t'=t then do
       qmq h i
       lK s (AB [0,1,2] loc) (jz (uI i (fresh idx 15) t ys) loc) (qgt qfp loc)
      else .fail
     |_=> .fail
    |_,_=> .fail
  | .elem sz i j c=>
    if(cellsOf v).length=u.cells.length/\(cellsOf v).all ck=true then do
     let a<-cG s
     match gP n a with
     |some (.dp _ t _ h,loc)=>
      if sz=t.size then do
       I2 h i
       lK s [0] (jz (setDp i j c (cellsOf v)) loc) (q57 qfk qgz loc)
      else .fail
     |_=> .fail
    else .fail
  |_=> .fail
def FK (idx mode:Nat) (t:Ty) (xs:List (aX t)):M AV:=
 match mode with
 |6=>match t with
  | .sl _ ty=>pure (.dp (fresh idx 0) ty [] none)
  |_=> .fail
 |_=>pure (.sl (.nm (fresh idx 0)) t xs)
def buildDp (T:TT) (idx ty:Nat) (v:AV):M AV:=
 match T.at ty,v with
 |some {desc:= .slice _ (.sl _ t),.. },.sl (.nm _) t' ys=>if t'=t then pure (.dp (fresh idx 15) t' [ys] none)else .fail
 |some {desc:= .slice _ (.sl _ t),.. },.lit (.slice none 0 0)=>pure (.dp (fresh idx 15) t [[]] none)
 |_,_=> .fail
def Wc (T:TT) (idx ty n:Nat):List (Nat×Operand)->M AV
 |[(0,x)]=>if n=1 then do let v<-rdT x;buildDp T idx ty v else .fail
 |_=> .fail
def VQ (T:TT) (idx:Nat) (u:Array TypeId) (x y:AV):M AV:=
 match u[0]?,u[1]? with
 |some J,some G=>
  match T.at J,T.at G with
  |some {desc:= .slice _ (.sl _ _),.. },some {desc:= .slice _ _,.. }=>
   match x,y with
   | .dp _ t xs none,.dp _ t' ys none=>
     if h:t'=t then do
      dB (0<ys.length/\xs.length+ys.length<=1073741824)
      pure (.dp (fresh idx 15) t (xs++(h▸ys)) none)
     else .fail
   |_,_=> .fail
  |_,_=> .fail
 |_,_=> .fail
def qcg (T:TT) (idx mode:Nat) (b:Builtin) (args:List Operand) (G:Array TypeId):M AV:=
 match b,args with
 | .len,[x]=>match G[0]? with
   |some t=>do
    let v<-rd x
    match v with
    | .dr s n k=>xO T t s n k
    |v=>xP T t (Jm T t v)
   |none=> .fail
 | .append,[x,y]=>
   match mode with
   |6=>do
    let u<-rdT x
    let v<-rdT y
    VQ T idx G u v
   |mode=>do
    let u<-rdC mode x
    let v<-rdT y
    Vp T idx G (Jm T (G.getD 0 0) u) v
 | .copy,[x,y]=>do
   let u<-rd x
   let v<-rd y
   UB T idx G u v
 | .max,[x,y]=>do let a<-rd x;let b<-rd y;FM a b
 | .min,[x,y]=>do let a<-rd x;let b<-rd y;FL a b
 |_,_=> .fail
def sX (T:TT) (idx mode:Nat) (o:Oper):M AV:=
 match o.op with
 | .move x=>do
   let v<-rdm mode x
   pure (Jm T o.type v)
 | .assign x=>do
   let v<-rdm (if mode=0 then 1 else mode) x
   match nlI mode (Jm T o.type v)with
   | .sl .nl t xs=>FK idx mode t xs
   |v=>pure v
 | .pick c a b=>match c with
   | .tmp t=>do
     let y<-xM t
     if y then rd a else rd b
   |_=> .fail
 | .alloc e=>UR T idx mode e
 | .box e x=>do let v<-rdQ mode x;AE T idx e (nlI mode (Jm T e v))
 | .build t ps=>do let vs<-rdParts T ps.toList;Vb T t vs
 | .buildSlice t n ps=>match mode with
   |6=>Wc T idx t n ps.toList
   |_=>do let vs<-rdParts T ps.toList;WR T idx t n vs
 | .load t p=>do
   let a<-rd p
   match a with
   | .dr s n k=>Us T idx mode t s n k
   |a=>match mode with
    |7=>do
     vq a
     Su T 0 t a
    |mode=>Su T mode t a
 | .store t p x=>
   match mode with
   |4=>do
    let v<-rdT x
    let a<-rd p
    match a with
    | .dr s n k=>do
      SR T idx t s n k v
      pure .dead
    |_=> .fail
   |mode=>do
   let v<-rdQ mode x
   let a<-rd p
   match a with
   | .dr s n k=>do
     SR T idx t s n k (nlI mode (Jm T t v))
     pure .dead
   |a=>do
    Vk T idx t a (nlI mode (Jm T t v))
    pure .dead
 | .nilCheck x=>do let v<-rd x;Wv v
 | .binOp op t x y _=>do let a<-rd x;let b<-rd y;AG T op t a b
 | .unOp op _ x=>do let a<-rd x;IQ op a
 | .convert s d x=>do let a<-rd x;Uh T s d a
 | .makeSlice t l c=>
   match mode with
   |4=>do let a<-rd l;let b<-rd c;Ui T idx t a b
   |_=>do let a<-rd l;let b<-rd c;Uv T idx t a b
 | .slice t x lo u none=>do
   let v<-rdC mode x
   let l<-(match lo with|some l=>do let a<-rd l;pure (some a)|none=>pure none)
   let h<-(match u with|some h=>do let a<-rd h;pure (some a)|none=>pure none)
   U7 T idx t v l h
 | .fieldAddr t x f=>do let a<-rd x;WD T t a f
 | .indexAddr t x i=>match x with
   | .global g=>do let b<-rd i;xp T t g b
   |x=>
    do
    let a<-rd x
    let b<-rd i
    match a with
    | .dr s n k=>Vc T t s n k b
    |a=>WN T t a b
 | .index t x i=>do let a<-rd x;let b<-rd i;Vh T t a b
 | .extract x i=>VS x i
 | .call c=>match c.callee with
   | .builtin b=>qcg T idx mode b c.args.toList c.argTypes
   | .value (.func f)=>Ik T idx mode f c.args.toList c.argTypes.toList
   | .value (.tmp t)=>do
     let a<-cG t
     match a with
     | .lit (.func (.func f) as G)=>if as.size=0/\G.size=0 then Ur T idx mode f c.args.toList c.argTypes.toList else .fail
     |_=> .fail
   |_=> .fail
 |_=> .fail
end Go.Vs
set_option linter.unusedVariables false
namespace Go.Vs
def FQ (T:TT) (ty n:Nat) (a:AV):M AV:=
 match T.at ty,a with
 |some {desc:= .slice _ _,.. },.dq m _ xs _=>if m=n then pure (.int .i64 xs.length)else .fail
 |_,_=> .fail
def qnm (T:TT) (ty s n:Nat) (a i:AV):M AV:=
 match T.at ty,a,i with
 |some {desc:= .slice _ u,.. },.dq m t xs _,.int _ i=>
  if m=n/\u.size=t.size then do
   dB (0<=i/\i<xs.length)
   pure (.ptr s n t.size i.toNat 0)
  else .fail
 |_,_,_=> .fail
def Z2:AV->AV
 | .sl _ _ _=> .dead
 |v=>v
def Uo (u:TI) (n sz i j:Nat) (a:AV):M AV:=
 match a with
 | .dq m t xs _=>if m=n/\sz=t.size then sZ (c8 u.cells.length (Qb u.desc) ((aD t (xs.getD i t.zero)).map Z2) j)else .fail
 |_=> .fail
def takeDq (idx:Nat) (G:TI) (s n sz i j:Nat) (a:AV):M AV:=
 match a with
 | .dq m t xs none=>
   if m=n/\sz=t.size/\G.cells.length=1/\Qb G.desc=false then
    match(aD t (xs.getD i t.zero))[j]? with
    |some (.sl _ u ys)=>do
     fJ s (.dq m t xs (some (i*t.size+j)))
     pure (.sl (.nm (fresh idx 15)) u ys)
    |_=> .fail
   else .fail
 |_=> .fail
def qie:AV->Bool
 | .bool _| .int _ _=>true
 |_=>false
def UQ (u:TI) (s n sz i j:Nat) (v a:AV):M Unit:=
 match a with
 | .dq m t xs h=>
   if m=n/\sz=t.size/\(cellsOf v).length=u.cells.length/\(cellsOf v).all qie=true then
    M.ofOpt (Za t (xs.getD i t.zero) j (cellsOf v)) λx=>fJ s (.dq m t (xs.set i x) h)
   else .fail
 |_=> .fail
def Uz (G:TI) (s n sz i j:Nat) (v a:AV):M Unit:=
 match a,v with
 | .dq m t xs (some q),.sl (.nm k) u ys=>
   if m=n/\sz=t.size/\G.cells.length=1 then do
    dB (q=i*t.size+j)
    M.ofOpt (Za t (xs.getD i t.zero) j [.sl (.nm k) u ys]) λx=>fJ s (.dq m t (xs.set i x) none)
   else .fail
 |_,_=> .fail
def UP:AV->Bool
 | .bool _| .int _ _| .sl .nl _ _=>true
 |_=>false
def qo3 (T:TT) (idx ty:Nat) (v:AV):M AV:=
 match T.at ty,v with
 |some {desc:= .slice _ t,.. },.agg cells=>
  if cells.all UP=true/\0<t.size/\t.size<=64 then
   match J7 t cells with
   |some (y,[])=>pure (.dq (fresh idx 15) t [y] none)
   |_=> .fail
  else .fail
 |_,_=> .fail
def qh1 (T:TT) (idx:Nat) (u:Array TypeId) (x y:AV):M AV:=
 match u[0]?,u[1]? with
 |some J,some G=>
  match T.at J,T.at G with
  |some {desc:= .slice _ K,.. },some {desc:= .slice _ _,.. }=>
   match x,y with
   | .dq _ t xs none,.dq _ t' ys none=>
     if h:t'=t/\K.size=t.size then do
      dB (0<ys.length/\xs.length+ys.length<=1073741824)
      pure (.dq (fresh idx 15) t (xs++(h.1▸ys)) none)
     else .fail
   |_,_=> .fail
  |_,_=> .fail
 |_,_=> .fail
def Fj:Nat->List AV->List Nat
 |_,[]=>[]
 |k,c::cs=>if(qc c).isEmpty then Fj (k+1) cs else k::Fj (k+1) cs
def By (c:AV):AV:=if(qc c).isEmpty then c else .dead
def Sc (L:List Nat) (a:AV):Option AV:=
 match a with
 | .bx (.nm m) cells=>if Fj 0 cells=L then some (.bx (.nm m) (cells.map By))else none
 |_=>none
def q6g: ∀{cells:List AV} {k j:Nat} (h:j<cells.length),(qc cells[j]).isEmpty=false->k+j∈Fj k cells
 |c::cs,k,0,h,G=>by{have u:(qc c).isEmpty=false:=G;simp[Fj,u]}
 |c::cs,k,j+1,h,G=>by have:=q6g (cells:=cs) (k:=k+1) (j:=j) (by simpa using h) (by simpa using G);rw[show k+(j+1)=k+1+j by omega];unfold Fj;split;{exact this};{exact mT this}
def qbz {s:Nat} {L:List Nat} (a b:AV) (h:Sc L a=some b): ∀j,j∉0::L.map (· +2)->cZ s j b=cZ s j a:=by
 intro j u;unfold Sc at h;split at h
 . split at h
   . rename_i cells Q;cases h;subst Q;simp only[zq,not_or]at u
     match j,u with
     |0,u=>exact absurd rfl u.1
     |1,_=>rfl
     |j+2,u=>
      simp only[cZ,eP,List.getElem?_map];split
      . by_cases G:j<cells.length
        . have J:(qc cells[j]).isEmpty=true:=by
           cases K:(qc cells[j]).isEmpty with
           |true=>rfl
           |false=>
            have:=q6g (k:=0) G K;rw[zH]at this;exact absurd (zk.2 ⟨j,this,rfl⟩) u.2
          rw[List.getElem?_eq_getElem G];simp[By,J]
        . rw[List.getElem?_eq_none O];rfl
      . rfl
   . cases h
 . cases h
def UG (u:TI) (s n:Nat) (a:AV):M AV:=
 match a with
 | .bx (.nm m) cells=>
   if m=n/\cells.length=u.cells.length then do
    lK s (0::(Fj 0 cells).map (· +2)) (Sc (Fj 0 cells)) qbz
    sZ (kZ (Qb u.desc) cells)
   else .fail
 |_=> .fail
def I9 (T:TT) (idx mode:Nat) (o:Oper):M AV:=
 match o.op with
 | .assign (.const c)=>match Jm T o.type (NC c)with
   | .sl .nl t _=>pure (.dq (fresh idx 0) t [] none)
   |_=> .fail
 | .buildSlice t n ps=>match ps.toList with
   |[(0,x)]=>if n=1 then do let v<-rdT x;qo3 T idx t v else .fail
   |_=> .fail
 | .load t p=>do
   let a<-rd p
   match T.at t,a with
   |some G,.ptr s n sz i j=>do
    let b<-cG s
    match Nat.beq mode 5001 with
    |true=>takeDq idx G s n sz i j b
    |false=>match Nat.beq mode 5002 with
     |true=>if i=0/\j=0 then UG G s n b else .fail
     |false=>Uo G n sz i j b
   |_,_=> .fail
 | .store t p x=>do
   let v<-rdT x
   let a<-rd p
   match T.at t,a with
   |some G,.ptr s n sz i j=>do
    let b<-cG s
    match Nat.beq mode 5001 with
    |true=>Uz G s n sz i j v b
    |false=>UQ G s n sz i j v b
    pure .dead
   |_,_=> .fail
 | .indexAddr t x i=>do
   let v<-rd x
   let b<-rd i
   match v with
   | .ref s n _ none=>do
     let a<-cG s
     qnm T t s n a b
   |_=> .fail
 | .call c=>match c.callee with
   | .builtin .len=>match c.args.toList,c.argTypes[0]? with
     |[x],some t=>do
      let v<-rd x
      match v with
      | .ref s n _ none=>do
        let a<-cG s
        FQ T t n a
      |_=> .fail
     |_,_=> .fail
   | .builtin .append=>match c.args.toList with
     |[x,y]=>do
      let u<-rdT x
      let v<-rdT y
      qh1 T idx c.argTypes u v
     |_=> .fail
   |_=> .fail
 |_=> .fail
abbrev sw:=List Nat×List Nat
def kK:Nat->Nat->List Nat->List Nat
 |_,0,r=>r
 |b,n+1,r=>b::kK (b+1) n r
def kJ (s:Nat) (r:List Nat):List Nat:=kK (32*s) 17 r
def fX (s:Nat):List Nat->List Nat->List Nat
 |[],r=>r
 |j::u,r=>(32*s+j)::fX s u r
def iB {R α:Type} (C:Nat->List AV->(AV->List AV->Option R)->Option R):M α->ao->sw->(α->ao->sw->Option R)->Option R
 | .ret a,U,L,K=>K a U L
 | .fail,_,_,_=>none
 | .get s k,U,L,K=>iB C (k (U.get s)) U ((32*s)::L.1,L.2) K
 | .view s j k,U,L,K=>iB C (k (cZ s j (U.get s))) U ((32*s+j)::L.1,L.2) K
 | .set s v k,U,L,K=>iB C k (U.set s v) (kJ s L.1,kJ s L.2) K
 | .upd s W f _ k,U,L,K=>match f (U.get s)with
   |some v=>iB C k (U.set s v) ((32*s)::fX s W L.1,fX s W L.2) K
   |none=>none
 | .ask p d k,U,L,K=> @ite _ p d (iB C k U L K) none
 | .know s k,U,L,K=>match U.get s with
   | .bool b=>cond b (iB C (k true) (U.set s (.bool true)) ((32*s)::L.1,L.2) K) (iB C (k false) (U.set s (.bool false)) ((32*s)::L.1,L.2) K)
   |_=>none
 | .call f as k,U,L,K=>C f as λr os=>iB C (k r os) U L K
structure pv where
 mode:List (Nat×Nat)
 keep:List Nat
structure eF where
 regs:List pv
 heads:List (Nat×List Nat)
 exits:List (Nat×List Nat)
 rets:List Nat
 pins:List Nat
 spec:List (List Bool)
def ob (l:List (Nat×Nat)) (i:Nat):Nat:=match l with
 |[]=>0
 |(j,m)::r=>if j=i then m else ob r i
def oa (l:List (Nat×List Nat)) (i:Nat):Option (List Nat):=match l with
 |[]=>none
 |(j,m)::r=>if j=i then some m else oa r i
def TP (T:TT) (idx mode:Nat) (o:Oper):M AV:=
 match Nat.ble 1000 mode with
 |true=>match Nat.ble 5000 mode with
  |true=>I9 T idx mode o
  |false=>
  match Nat.ble 3000 mode with
  |true=>do
   let a<-cG (mode-3000)
   match a with
   | .bx (.nm m) _=>do
     vq (.ptr (mode-3000) m 0 0 0)
     sX T idx 0 o
   |_=> .fail
  |false=>do
   let _<-rdF (.tmp (mode-1000))
   sX T idx 0 o
 |false=>sX T idx mode o
def IV (N:Nat) (pins:List Nat) (dst:Option Tmp) (v:AV):M Unit:=
 match dst with
 |none=>pure ()
 |some d=>if d<N/\ ¬d∈pins then fJ d v else .fail
def lz (ops:Array Oper) (j:Nat):Option Tmp:=(ops[j]?).bind (·.dst)
def Vn:AV->Bool
 | .tup []=>true
 |_=>false
def oR (T:TT) (N:Nat) (pins:List Nat) (ops:Array Oper) (idx mode:Nat) (o:Oper):M Unit:=
 match o.guard with
 |none=>do let v<-TP T idx mode o;IV N pins o.dst v
 |some (j,want)=>
  match lz ops j with
  |none=> .fail
  |some g=>do
   let a<-cG g
   match Vn a with
   |true=>IV N pins o.dst (.tup [])
   |false=>do
    let b<-xM g
    if b==want then do let v<-TP T idx mode o;IV N pins o.dst v
    else IV N pins o.dst (.tup [])
def xD {R:Type} (C:Nat->List AV->(AV->List AV->Option R)->Option R) (T:TT) (N:Nat) (pins:List Nat) (ops:Array Oper) (G:List (Nat×Nat)):
    List Oper->Nat->ao->List sw->(ao->List sw->Option R)->Option R
 |[],_,U,u,K=>K U u
 |o::r,i,U,u,K=>iB C (oR T N pins ops i (ob G i) o) U ([],[]) λ_ U' L=>xD C T N pins ops G r (i+1) U' (u++[L]) K
def iZ (o:Oper) (i:Nat):List Nat:=(o.after.toList.filter λe=>Region.binds .any e&&decide (e.on<i)).map (·.on)
def ug:List Oper->Nat->List (List Nat)->List (List Nat)
 |[],_,acc=>acc
 |o::r,i,acc=>ug r (i+1) (acc++[(iZ o i).flatMap λj=>j::acc.getD j []])
def ub (a b:List Nat):Bool:=a.all λx=> !b.contains x
def UF (G:List (List Nat)) (u:List sw) (i j:Nat):Bool:=
 (G.getD j []).contains i||(ub (u.getD i ([],[])).1 (u.getD j ([],[])).2&&ub (u.getD j ([],[])).1 (u.getD i ([],[])).2)
def Nz:List Oper->Nat->Bool
 |[],_=>true
 |o::r,i=>(o.after.toList.all λe=> !Region.binds .any e||decide (e.on<i))&&Nz r (i+1)
def Ng (ops:List Oper) (G:List sw):Bool:=
 Nz ops 0&&(let u:=ug ops 0 []
 (List.range ops.length).all λj=>(List.range j).all λi=>UF u G i j)
def eZ:List Nat->Nat
 |[]=>0
 |s::r=>Nat.lor (Nat.pow 2 s) (eZ r)
def lF:List Nat->List Nat->Nat
 |[],_=>0
 |k::u,acc=>Nat.lor (Nat.lor (Nat.pow 2 k) (acc.getD k 0)) (lF u acc)
def EO:List Oper->Nat->List Nat->List Nat
 |[],_,acc=>acc
 |o::r,i,acc=>EO r (i+1) (acc++[lF (iZ o i) acc])
def Se (A R W:Nat):List (Nat×Nat)->Nat->Bool
 |[],_=>true
 |_::_,0=>true
 |p::r,k+1=>(Nat.beq (Nat.land (Nat.shiftRight A k) 1) 1||(Nat.beq (Nat.land p.1 W) 0&&Nat.beq (Nat.land R p.2) 0))&&Se A R W r k
def pP:List sw->List Nat->List (Nat×Nat)->Nat->Bool
 |[],_,_,_=>true
 |_::_,[],_,_=>false
 |L::u,A::G,done,j=>Se A (eZ L.1) (eZ L.2) done j&&pP u G ((eZ L.1,eZ L.2)::done) (j+1)
def UM (ops:List Oper) (u:List sw):Bool:=Nz ops 0&&pP u (EO ops 0 []) [] 0
def cm (ns:List Nat):AV->AV
 | .dp n t xs h=> .dp (aY ns n) t xs h
 | .sl (.nm n) t xs=> .sl (.nm (aY ns n)) t xs
 | .wn n t xs=> .wn (aY ns n) t xs
 | .dq n t xs h=> .dq (aY ns n) t xs h
 | .ref s n sz w=>if ns.contains n then .ref s (aY ns n) sz w else .dead
 | .ptr s n sz i j=>if ns.contains n then .ptr s (aY ns n) sz i j else .dead
 | .dr s n k=>if ns.contains n then .dr s (aY ns n) k.strip else .dead
 |v=>v
def bq (ns:List Nat):AV->AV
 | .bx (.nm n) cells=> .bx (.nm (aY ns n)) (cells.map (cm ns))
 | .bx o cells=> .bx o (cells.map (cm ns))
 | .agg cells=> .agg (cells.map (cm ns))
 |v=>cm ns v
def fin (ns:List Nat):AV->AV
 | .tup vs=> .tup (vs.map (bq ns))
 |v=>bq ns v
def fB (keep:List Nat) (U:ao):ao:=keep.map λs=>(s,U.get s)
def LO (U:ao):List Nat:=U.flatMap λx=>ab x.2
def normal (keep:List Nat) (U:ao):Option ao:=
 let u:=fB keep U
 let ns:=LO u
 if ns.length<=98 then some (u.map λx=>(x.1,fin ns x.2))else none
def ao.drop1 (U:ao) (t:Nat):ao:=U.filter λx=> !(x.1==t)
inductive Ex where
 |normal
 |exit (id:Nat)
 |ret
 deriving DecidableEq
def nu {R:Type} (C:Nat->List AV->(AV->List AV->Option R)->Option R) (G:Nat->ao->(Ex->ao->Option R)->Option R)
    (T:TT) (N:Nat) (H:eF):Code->Nat->ao->(Ex->ao->Option R)->Option R
 | .skip,_,U,K=>K .normal U
 | .region id ops draw,_,U,K=>
   match H.regs[id]? with
   |none=>none
   |some h=>xD C T N H.pins ops h.mode ops.toList 0 U [] λU' O=>
    if draw&& !UM ops.toList O then none else
    match normal h.keep U' with
    |some J=>K .normal J
    |none=>none
 | .seq a b,u,U,K=>nu C G T N H a u U λe U'=>match e with
   | .normal=>nu C G T N H b u U' K
   | .exit i=>K (.exit i) U'
   | .ret=>K .ret U'
 | .cond (.tmp t) x y,u,U,K=>match U.get t with
   | .bool b=>cond b (nu C G T N H x u (U.drop1 t) K) (nu C G T N H y u (U.drop1 t) K)
   |_=>none
 | .cond (.const (.bool b)) x y,u,U,K=>cond b (nu C G T N H x u U K) (nu C G T N H y u U K)
 | .scope c,u,U,K=>nu C G T N H c u U K
 | .label _,_,U,K=>K .normal U
 | .block id c,_,U,K=>nu C G T N H c id U λe U'=>match e with
   | .normal=>K .normal U'
   | .exit i=>if i=id then K .normal U' else K (.exit i) U'
   | .ret=>K .ret U'
 | .loop _,u,U,K=>match oa H.heads u with
   |some keep=>match normal keep U with
    |some U'=>G u U' K
    |none=>none
   |none=>none
 | .exit id,_,U,K=>match oa H.exits id with
   |some keep=>match normal keep U with
    |some U'=>K (.exit id) U'
    |none=>none
   |none=>none
 | .ret,_,U,K=>match normal H.rets U with
   |some U'=>K .ret U'
   |none=>none
 |_,_,_,_=>none
def Ni {R:Type} (C:Nat->List AV->(AV->List AV->Option R)->Option R) (J:Nat->ao->(Ex->ao->Option R)->Option R)
    (T:TT) (N:Nat) (H:eF) (body:Code) (u:Nat) (U:ao) (K:Ex->ao->Option R):Option R:=
 nu C J T N H body u U λe U'=>match e with
  | .normal=>match oa H.heads u with
    |some keep=>match normal keep U' with
     |some G=>K .normal G
     |none=>none
    |none=>none
  | .exit i=>K (.exit i) U'
  | .ret=>K .ret U'
def SV (n:Nat) (own:Bool):AV->Option AV
 | .sl .nl t xs=>some (if own then .sl (.nm n) t xs else .sl .imm t xs)
 | .sl (.nm m) t xs=>some (if own then .sl (.nm m) t xs else .sl .imm t xs)
 | .sl .imm t xs=>if own then none else some (.sl .imm t xs)
 | .bool b=>some (.bool b)
 | .int k x=>some (.int k x)
 | .lit v=>some (.lit v)
 | .dp m t xs none=>if own then some (.dp m t xs none)else some (.sl .imm (.sl false t) xs)
 | .dq _ t xs none=>if own then none else some (.sl .imm t xs)
 |_=>none
def NG (n:Nat):List Bool->List AV->Option (List AV)
 |o::os,c::cs=>match SV n o c,NG (n+1) os cs with
  |some c',some cs'=>some (c'::cs')
  |_,_=>none
 |[],[]=>some []
 |_,_=>none
def I4 (n:Nat) (sp:List Bool):AV->Option AV
 | .agg cells=>(NG n sp cells).map .agg
 | .bx (.nm m) cells=>(NG n sp cells).map (.bx (.nm m))
 | .lit v=>some (.lit v)
 |v=>match sp with
  |[o]=>SV n o v
  |_=>none
def xx (T:TT) (U:ao) (n:Nat) (sp:List Bool):ResultVar->Option AV
 | .tmp t=>I4 n sp (U.get t)
 | .cell t ty=>match T.at ty,U.get t with
   |some u,.bx (.nm _) cells=>if cells.length=u.cells.length then
     (match kZ (Qb u.desc) cells with
      |some v=>I4 n sp v
      |none=>none)else none
   |_,_=>none
def Bs (T:TT) (U:ao):Nat->List (List Bool)->List ResultVar->Option (List AV)
 |n,sp::u,r::G=>match xx T U n sp r,Bs T U (n+16) u G with
  |some v,some vs=>some (v::vs)
  |_,_=>none
 |_,[],[]=>some []
 |_,_,_=>none
def oS (own:Bool):AV->List Nat
 | .dp m _ _ _=>if own then []else [m]
 | .dq m _ _ _=>if own then []else [m]
 | .sl (.nm m) _ _=>if own then []else [m]
 |_=>[]
def kX:List Bool->List AV->List Nat
 |o::os,c::cs=>oS o c++kX os cs
 |_,_=>[]
def oT (sp:List Bool):AV->List Nat
 | .agg cells=>kX sp cells
 | .bx _ cells=>kX sp cells
 |v=>kX sp [v]
def At (T:TT) (U:ao) (sp:List Bool):ResultVar->List Nat
 | .tmp t=>oT sp (U.get t)
 | .cell t ty=>match T.at ty,U.get t with
   |some u,.bx _ cells=>(match kZ (Qb u.desc) cells with
    |some v=>oT sp v
    |none=>[])
   |_,_=>[]
def Nb (T:TT) (U:ao):List (List Bool)->List ResultVar->List Nat
 |sp::u,r::G=>At T U sp r++Nb T U u G
 |_,_=>[]
def ku:List AV->AV
 |[v]=>v
 |vs=> .tup vs
def No:AV->Bool
 | .bx _ _=>true
 | .sl (.nm _) _ _=>true
 | .wn _ _ _=>true
 | .dp _ _ _ _=>true
 | .dq _ _ _ _=>true
 |_=>false
def Zp (U:ao):Nat->List AV->List AV
 |_,[]=>[]
 |i,a::as=>(match No a with
  |true=>U.get i
  |false=> .dead)::Zp U (i+1) as
def Js:Nat->List AV->ao
 |_,[]=>[]
 |i,a::as=>(i,a)::Js (i+1) as
def pinned (pins:List Nat):Nat->List AV->Bool
 |_,[]=>true
 |i,a::as=>(match No a with
  |true=>pins.contains i
  |false=>true)&&pinned pins (i+1) as
def BG:List Nat->Bool
 |[]=>true
 |x::r=> !r.contains x&&BG r
def LW {R:Type} (T:TT) (H:eF) (fn:Func) (args:List AV) (G:AV->List AV->Option R) (U:ao):Option R:=
 match Bs T U 200 H.spec fn.results.toList with
 |none=>none
 |some u=>
  let outs:=Zp U 0 args
  let ns:=u.flatMap ab++outs.flatMap ab
  if ns.length<=16/\BG ns=true/\ns.contains 99=false/\ub (Nb T U H.spec fn.results.toList) ns=true/\u.all bR=true/\outs.all eI=true then G (ren (aY ns) (ku u)) (outs.map (ren (aY ns)))else none
def Rm {R:Type} (C:Nat->List AV->(AV->List AV->Option R)->Option R) (G:Nat->ao->(Ex->ao->Option R)->Option R)
    (T:TT) (H:eF) (fn:Func) (args:List AV) (u:AV->List AV->Option R):Option R:=
 match fn.body with
 |none=>none
 |some c=>
  if args.length<=fn.ntmps/\pinned H.pins 0 args then
   nu C G T fn.ntmps H c 0 (Js 0 args) λe U=>match e with
    | .normal=>LW T H fn args u U
    | .ret=>LW T H fn args u U
    | .exit _=>none
  else none
abbrev aR:=Nat->Value
abbrev bh:=Nat->Option Nat
def ay (w:World) (b o:Nat) (j:Nat):Option Value:=w.cell? ⟨b,o+j,none⟩
def ba (who:bh) (w:World):(t:Ty)->aX t->(Nat->Option Value)->Nat->Prop
 | .int k,x,g,j=>g j=some (.int k x)
 | .bool,x,g,j=>g j=some (.bool x)
 | .pr a b,x,g,j=>ba who w a x.1 g j/\ba who w b x.2 g (j+a.size)
 | .sl _ t,xs,g,j=> ∃v,g j=some v/\
   ((v= .slice none 0 0/\xs=[])\/
    ∃b o cap,v= .slice (some ⟨b,o,none⟩) xs.length cap/\who b=none/\b<w.heap.size/\xs.length<=cap/\
     ∀i (h:i<xs.length),ba who w t xs[i] (ay w b (o+i*t.size)) 0)
def aT (who:bh) (w:World) (t:Ty) (xs:List (aX t)) (b o:Nat):Prop:=
 ∀i (h:i<xs.length),ba who w t xs[i] (ay w b (o+i*t.size)) 0
def gE (who:bh) (w:World) (t:Ty) (xs:List (aX t)) (v:Value):Prop:=
 (v= .slice none 0 0/\xs=[])\/
 ∃b o cap,v= .slice (some ⟨b,o,none⟩) xs.length cap/\who b=none/\b<w.heap.size/\xs.length<=cap/\aT who w t xs b o
def cr (β:aR) (who:bh) (w:World) (n:Nat) (t:Ty) (xs:List (aX t)) (v:Value):Prop:=
 v=β n/\((v= .slice none 0 0/\xs=[])\/
 ∃b o cap arr el,v= .slice (some ⟨b,o,none⟩) xs.length cap/\w.heap[b]? =some (.cells arr el (0,0))/\o+cap*t.size<=arr.size/\
  xs.length<=cap/\who b=some n/\aT who w t xs b o)
def wV (base:Value) (sz:Nat) (G:Option (Nat×Nat)) (v:Value):Prop:=
 match G with
 |none=>v=base/\ ∃a L cap,base= .slice a L cap
 |some (off,len)=> ∃a L cap u,base= .slice a L cap/\off+len<=L/\v= .slice u len (cap-off)/\
  (off<cap->u=a.map (λx=>x.add (off*sz)))/\u.map (λx=>(x.block,x.spot))=a.map (λx=>(x.block,x.spot))/\
  (∀b o,a=some ⟨b,o,none⟩-> ∃J,u=some ⟨b,J,none⟩/\J<=o+cap*sz)
def dE (base:Value) (sz i j:Nat) (v:Value):Prop:=
 (∃b o L cap,base= .slice (some ⟨b,o,none⟩) L cap/\i<L/\v= .pointer (some ⟨b,o+i*sz+j,none⟩))\/
 (∃b,base= .pointer (some ⟨b,0,none⟩)/\i=0/\v= .pointer (some ⟨b,j,none⟩))
def c9 (v:Value) (j:Nat):Value:=match v with
 | .tuple arr=>arr.getD j undef
 |v=>v
def fO (who:bh) (w:World) (n:Nat) (t:Ty) (ys:List (aX t)) (v:Value) (b:Nat):Prop:=
 (v= .slice none 0 0/\ys=[])\/
 ∃bi u ci arr el,v= .slice (some ⟨bi,u,none⟩) ys.length ci/\w.heap[bi]? =some (.cells arr el (0,0))/\u+ci*t.size<=arr.size/\ys.length<=ci/\who bi=some n/\bi≠b/\aT who w t ys bi u
def br (β:aR) (who:bh) (w:World) (n:Nat) (t:Ty) (xs:List (List (aX t))) (h:Option Nat) (v:Value):Prop:=
 v=c9 (β n) 0/\((v= .slice none 0 0/\xs=[])\/ ∃b o cap arr el,v= .slice (some ⟨b,o,none⟩) xs.length cap/\w.heap[b]? =some (.cells arr el (0,0))/\o+cap<=arr.size/\xs.length<=cap/\who b=some n/\
  (∀i (O:i<xs.length),h≠some i->ay w b o i=some (c9 (β n) (i+1))/\fO who w n t xs[i] (c9 (β n) (i+1)) b)/\
  ∀i j G u li J ci K,i<xs.length->j<xs.length->h≠some i->h≠some j->c9 (β n) (i+1)= .slice (some G) li ci->c9 (β n) (j+1)= .slice (some u) J K->G.block=u.block->i=j)
def br.pos {β:aR} {who:bh} {w:World} {n:Nat} {t:Ty} {xs:List (List (aX t))} {h:Option Nat} {v:Value} (u:br β who w n t xs h v) (hx:v≠ .slice none 0 0\/xs≠[]):
 v=c9 (β n) 0/\ ∃b o cap arr el,v= .slice (some ⟨b,o,none⟩) xs.length cap/\w.heap[b]? =some (.cells arr el (0,0))/\o+cap<=arr.size/\xs.length<=cap/\who b=some n/\
 (∀i (hi:i<xs.length),h≠some i->ay w b o i=some (c9 (β n) (i+1))/\fO who w n t xs[i] (c9 (β n) (i+1)) b)/\
 ∀i j K J li O ci Q,i<xs.length->j<xs.length->h≠some i->h≠some j->c9 (β n) (i+1)= .slice (some K) li ci->c9 (β n) (j+1)= .slice (some J) O Q->K.block=J.block->i=j:=by refine⟨u.1,?_⟩;rcases u.2 with⟨G,h2⟩|G;{grind};{exact G}
def Qe {α:Type} {xs:List α} {i:Nat} (h:i<xs.length):xs≠[]:=by rintro rfl;simp at h
def jF (base:Value):DK->Value->Prop
 | .whole,v=>v=c9 base 0/\ ∃a L cap,c9 base 0= .slice a L cap
 | .lenw l,v=>v=c9 base 0/\((v= .slice none 0 0/\l=0)\/ ∃b o cap,v= .slice (some ⟨b,o,none⟩) l cap)
 | .cell i,v=> ∃b o L cap,c9 base 0= .slice (some ⟨b,o,none⟩) L cap/\i<L/\v= .pointer (some ⟨b,o+i,none⟩)
 | .row i,v=>v=c9 base (i+1)/\(∃a L cap,c9 base (i+1)= .slice a L cap)/\ ∃a L cap,c9 base 0= .slice a L cap/\i<L
 | .elem sz i j k,v=> ∃b o L cap,c9 base (i+1)= .slice (some ⟨b,o,none⟩) L cap/\j<L/\v= .pointer (some ⟨b,o+j*sz+k,none⟩)/\ ∃a L cap,c9 base 0= .slice a L cap/\i<L
def cw (who:bh) (w:World) (n b:Nat) (h:Option Nat):(t:Ty)->aX t->(Nat->Option Value)->Nat->Prop
 | .int k,x,g,p=>g p=some (.int k x)
 | .bool,x,g,p=>g p=some (.bool x)
 | .pr s t,x,g,p=>cw who w n b h s x.1 g p/\cw who w n b h t x.2 g (p+s.size)
 | .sl _ t,xs,g,p=>h=some p\/ ∃v,g p=some v/\fO who w n t xs v b
def bU (β:aR) (who:bh) (w:World) (n:Nat) (t:Ty) (xs:List (aX t)) (h:Option Nat) (v:Value):Prop:=
 v=β n/\((v= .slice none 0 0/\xs=[])\/ ∃b o cap arr el,v= .slice (some ⟨b,o,none⟩) xs.length cap/\w.heap[b]? =some (.cells arr el (0,0))/\o+cap*t.size<=arr.size/\xs.length<=cap/\who b=some n/\
  (∀i (J:i<xs.length),cw who w n b h t xs[i] (ay w b o) (i*t.size))/\
  ∀p q a u l G c c',p<xs.length*t.size->q<xs.length*t.size->h≠some p->h≠some q->ay w b o p=some (.slice (some a) l c)->ay w b o q=some (.slice (some u) G c')->a.block=u.block->p=q)
def E6:Option Nat->Value->Value
 |none,v=>v
 |some f,v=> .func (.func f) #[] #[v]
@[simp] def sQ (v:Value):E6 none v=v:=rfl
def ET (base:Value) (w:World) (sz:Nat) (v:Value):Prop:= ∃u,base= .agg u/\ ∀b o L cap arr el,v= .slice (some ⟨b,o,none⟩) L cap->w.heap[b]? =some (.cells arr el (0,0))->
 arr.size=u.size/\ ∀j,(j<o\/o+L*sz<=j)->arr[j]? =u[j]?
def aW (β:aR) (who:bh) (w:World):AV->Value->Prop
 | .dead,_=>True
 | .bool b,v=>v= .bool b
 | .int k x,v=>v= .int k x
 | .lit u,v=>v=u/\u.oneCell'=true
 | .sl .imm t xs,v=>gE who w t xs v
 | .sl .nl _ xs,v=>v= .slice none 0 0/\xs=[]
 | .sl (.nm n) t xs,v=>cr β who w n t xs v
 | .sl .inn _ _,_=>False
 | .ref _ n sz G,v=>wV (β n) sz G v
 | .ptr _ n sz i j,v=>dE (β n) sz i j v
 | .dp n t xs h,v=>br β who w n t xs h v
 | .dr _ n k,v=>jF (β n) k v
 | .wn n t xs,v=>cr β who w n t xs v/\ET (β 98) w t.size v
 | .dq n t xs h,v=>bU β who w n t xs h v
 | .iptr g t xs i j,v=> ∃b o,v=E6 g (.pointer (some ⟨b,o+i*t.size+j,none⟩))/\i<xs.length/\who b=none/\b<w.heap.size/\aT who w t xs b o
 |_,_=>False
def be (β:aR) (who:bh) (w:World) (cells:List AV) (arr:Array Value):Prop:=
 arr.size=cells.length/\ ∀j (h:j<cells.length),aW β who w cells[j] (arr.getD j undef)
def bA (β:aR) (who:bh) (w:World):AV->Value->Prop
 | .bx (.nm n) cells,v=>v=β n/\ ∃b arr el,v= .pointer (some ⟨b,0,none⟩)/\w.heap[b]? =some (.cells arr el (0,0))/\who b=some n/\
    be β who w cells arr
 | .agg cells,v=> ∃arr,v= .agg arr/\be β who w cells arr
 |av,v=>aW β who w av v
def bo (β:aR) (who:bh) (w:World):AV->Value->Prop
 | .tup vs,v=> ∃arr:Array Value,v= .tuple arr/\arr.size=vs.length/\ ∀j (h:j<vs.length),bA β who w vs[j] (arr.getD j undef)
 |av,v=>bA β who w av v
def aL:AV->List Nat
 | .sl (.nm n) _ _=>[n]
 | .dp n _ _ _=>[n]
 | .wn n _ _=>[n,98]
 | .dq n _ _ _=>[n]
 | .dr _ n _=>[n]
 | .ref _ n _ _=>[n]
 | .ptr _ n _ _ _=>[n]
 |_=>[]
def aZ:AV->List Nat
 | .bx (.nm n) cells=>n::cells.flatMap aL
 | .bx _ cells=>cells.flatMap aL
 | .agg cells=>cells.flatMap aL
 |v=>aL v
def occ:AV->List Nat
 | .tup vs=>vs.flatMap aZ
 |v=>aZ v
structure cR (β:aR) (who:bh) (w:World) (β':aR) (who':bh) (w':World) (ns os:List Nat):Prop where
 beta: ∀n∈os,β' n=β n
 own: ∀n∈ns,∀b,who b=some n->who' b=some n/\w'.heap[b]? =w.heap[b]?
 imm: ∀b,who b=none->b<w.heap.size->who' b=none/\w'.heap[b]? =w.heap[b]?
 size:w.heap.size<=w'.heap.size
def Mk {w w':World} {b o j:Nat} (h:w'.heap[b]? =w.heap[b]?):ay w' b o j=ay w b o j:=by unfold ay World.cell?;rw[h]
def ba.ext {who:bh} {w:World}: ∀{t:Ty} {x:aX t} {g g':Nat->Option Value} {j:Nat},
 (∀j,g' j=g j)->ba who w t x g j->ba who w t x g' j
 | .int _,_,_,_,_,u,h=>by simp only[ba]at*;rw[u];exact h
 | .bool,_,_,_,_,u,h=>by simp only[ba]at*;rw[u];exact h
 | .pr _ _,_,_,_,_,u,h=>⟨ba.ext u h.1,ba.ext u h.2⟩
 | .sl _ _,_,_,_,_,u,h=>by obtain⟨v,G,h2⟩:=h;exact⟨v,by rw[u];exact G,h2⟩
def ba.keep {who who':bh} {w w':World} (u: ∀b,who b=none->b<w.heap.size->who' b=none/\w'.heap[b]? =w.heap[b]?)
 (G:w.heap.size<=w'.heap.size): ∀{t:Ty} {x:aX t} {g:Nat->Option Value} {j:Nat},ba who w t x g j->ba who' w' t x g j
 | .int _,_,_,_,h=>h
 | .bool,_,_,_,h=>h
 | .pr _ _,_,_,_,h=>⟨ba.keep u G h.1,ba.keep u G h.2⟩
 | .sl _ t,xs,g,j,h=>by obtain⟨v,h1,h2⟩:=h;refine⟨v,h1,?_⟩;rcases h2 with h2|⟨b,o,cap,e1,K,J,e4,e5⟩;{exact .inl h2};{exact .inr ⟨b,o,cap,e1,(u b K J).1,O,e4,λi Q=> ba.ext (λj=>Mk (u b K J).2) (ba.keep u G (e5 i Q))⟩}
def aT.keep {who who':bh} {w w':World} {t:Ty} {xs:List (aX t)} {b o:Nat}
 (u: ∀b,who b=none->b<w.heap.size->who' b=none/\w'.heap[b]? =w.heap[b]?) (G:w.heap.size<=w'.heap.size)
 (K:w'.heap[b]? =w.heap[b]?) (h:aT who w t xs b o):aT who' w' t xs b o:=
 λi J=>ba.ext (λ_=>Mk K) (ba.keep u G (h i J))
def gE.keep {who who':bh} {w w':World} {t:Ty} {xs:List (aX t)} {v:Value}
 (u: ∀b,who b=none->b<w.heap.size->who' b=none/\w'.heap[b]? =w.heap[b]?) (G:w.heap.size<=w'.heap.size)
 (h:gE who w t xs v):gE who' w' t xs v:=by rcases h with h|⟨b,o,cap,e1,K,J,e4,Q⟩;{exact .inl h};{exact .inr ⟨b,o,cap,e1,(u b K J).1,O,e4,aT.keep u G (u b K J).2 Q⟩}
def br.map {β β':aR} {who who':bh} {w w':World} {n n':Nat} {t:Ty} {xs:List (List (aX t))} {h:Option Nat} {v:Value} (u:β' n'=β n)
 (K: ∀b,who b=some n->who' b=some n'/\w'.heap[b]? =w.heap[b]?)
 (he: ∀(ys:List (aX t)) b o,w'.heap[b]? =w.heap[b]? ->aT who w t ys b o->aT who' w' t ys b o) (hr:br β who w n t xs h v):br β' who' w' n' t xs h v:=by obtain⟨O,h2⟩:=hr;rcases h2 with h2|⟨b,o,cap,arr,el,e1,e2,e3,e4,e5,e6,e7⟩;{exact⟨by rw[u];exact O,.inl h2⟩};obtain⟨g1,Q⟩:=K b e5;refine⟨by rw[u];exact O,.inr ⟨b,o,cap,arr,el,e1,by rw[Q];exact e2,e3,e4,g1,λi hi hh=> ?_,by rw[u];exact e7⟩⟩;obtain⟨f1,G⟩:=e6 i hi hh;rw[u];refine⟨by rw[Mk Q];exact f1,?_⟩;rcases G with G|⟨bi,oi,ci,ar,l,k1,k2,k3,k4,k5,k6,k7⟩;{exact .inl G};{obtain⟨m1,J⟩:=K bi k5;exact .inr ⟨bi,oi,ci,ar,l,k1,by rw[J];exact k2,k3,k4,m1,k6,he _ _ _ J k7⟩}
def fO.map {who who':bh} {w w':World} {n n':Nat} {t:Ty} {ys:List (aX t)} {v:Value} {b:Nat}
 (ho: ∀b,who b=some n->who' b=some n'/\w'.heap[b]? =w.heap[b]?)
 (he: ∀(t:Ty) (ys:List (aX t)) b o,w'.heap[b]? =w.heap[b]? ->aT who w t ys b o->aT who' w' t ys b o) (h:fO who w n t ys v b):fO who' w' n' t ys v b:=by rcases h with h|⟨bi,G,ci,ar,l,k1,k2,k3,k4,Q,O,K⟩;{exact .inl h};{obtain⟨J,u⟩:=ho bi Q;exact .inr ⟨bi,G,ci,ar,l,k1,by rw[u];exact k2,k3,k4,J,O,he _ _ _ _ u K⟩}
def cw.imp {who who':bh} {w w':World} {n n' b b':Nat} {h h':Option Nat} {g g':Nat->Option Value} {d:Nat}: ∀{t:Ty} {x:aX t} {p:Nat},
 (∀j,j<t.size->g' (p+d+j)=g (p+j)\/(h'=some (p+d+j)/\ ∃v,g (p+j)=some v/\ ∀k z,v≠ .int k z/\ ∀y,v≠ .bool y))->
 (∀j,j<t.size->h=some (p+j)->h'=some (p+d+j))->
 (∀(u:Ty) (ys:List (aX u)) v j,j<t.size->g (p+j)=some v->fO who w n u ys v b->h'≠some (p+d+j)->fO who' w' n' u ys v b')->cw who w n b h t x g p->cw who' w' n' b' h' t x g' (p+d)
 | .int k,x,p,K,hh,Q,G=>by{have J:=K 0 (by simp[Ty.size]);simp only[zQ]at J;rcases J with J|⟨_,v,h2,h3⟩;{simp only[cw]at G⊢;rw[J];exact G};{simp only[cw]at G;rw[G]at h2;injection h2 with h2;exact absurd h2.symm (h3 k x).1}}
 | .bool,x,p,K,hh,Q,G=>by{have J:=K 0 (by simp[Ty.size]);simp only[zQ]at J;rcases J with J|⟨_,v,h2,h3⟩;{simp only[cw]at G⊢;rw[J];exact G};{simp only[cw]at G;rw[G]at h2;injection h2 with h2;exact absurd h2.symm ((h3 .i64 0).2 x)}}
 | .pr s t,x,p,K,hh,Q,G=>by{have e1: ∀j,p+(s.size+j)=p+s.size+j:=λj=>O;have e2: ∀j,p+d+(s.size+j)=p+s.size+d+j:=λj=>O;refine⟨cw.imp (λj hj=>K j (by simp only[Ty.size];omega)) (λj hj=>hh j (by simp only[Ty.size];omega)) (λu ys v j hj=>Q u ys v j (by simp only[Ty.size];omega)) G.1,?_⟩;have:=cw.imp (t:=t) (x:=x.2) (p:=p+s.size) (d:=d) (g:=g) (g':=g') (h:=h) (h':=h') (who:=who) (who':=who') (w:=w) (w':=w') (n:=n) (n':=n') (b:=b) (b':=b') (λj hj=>by have:=K (s.size+j) (by simp only[Ty.size];omega);rw[e1,e2]at this;exact this) (λj hj=>by have:=hh (s.size+j) (by simp only[Ty.size];omega);rw[e1,e2]at this;exact this) (λu ys v j hj=>by have:=Q u ys v (s.size+j) (by simp only[Ty.size];omega);rw[e1,e2]at this;exact this) G.2;rw[show p+s.size+d=p+d+s.size by omega]at this;exact this}
 | .sl _ t,xs,p,K,hh,Q,G=>by simp only[cw]at G⊢;have J:=K 0 (by simp[Ty.size]);have h2:=hh 0 (by simp[Ty.size]);simp only[zQ]at J h2;rcases G with G|⟨v,q1,q2⟩;{exact .inl (h2 G)};{rcases J with J|⟨J,_⟩;{by_cases e:h'=some (p+d);{exact .inl e};{exact .inr ⟨v,by rw[J];exact q1,Q t xs v 0 (by simp[Ty.size]) (by simpa using q1) q2 (by simpa using e)⟩}};{exact .inl J}}
def cw.map {who who':bh} {w w':World} {n n' b:Nat} {h:Option Nat} {g g':Nat->Option Value} {t:Ty} {x:aX t} {p:Nat} (O: ∀j,g' j=g j)
 (J: ∀b,who b=some n->who' b=some n'/\w'.heap[b]? =w.heap[b]?)
 (he: ∀(t:Ty) (ys:List (aX t)) b o,w'.heap[b]? =w.heap[b]? ->aT who w t ys b o->aT who' w' t ys b o) (G:cw who w n b h t x g p):cw who' w' n' b h t x g' p:=
 cw.imp (d:=0) (λj _=> .inl (O _)) (λj _ e=>e) (λu ys v j _ _ K _=>K.map J he) G
def bU.map {β β':aR} {who who':bh} {w w':World} {n n':Nat} {t:Ty} {xs:List (aX t)} {h:Option Nat} {v:Value} (hb:β' n'=β n)
 (G: ∀b,who b=some n->who' b=some n'/\w'.heap[b]? =w.heap[b]?)
 (he: ∀(t:Ty) (ys:List (aX t)) b o,w'.heap[b]? =w.heap[b]? ->aT who w t ys b o->aT who' w' t ys b o) (hr:bU β who w n t xs h v):bU β' who' w' n' t xs h v:=by obtain⟨h1,h2⟩:=hr;refine⟨by rw[hb];exact h1,?_⟩;rcases h2 with h2|⟨b,o,cap,arr,el,e1,e2,e3,e4,e5,e6,e7⟩;{exact .inl h2};obtain⟨g1,J⟩:=G b e5;have u: ∀j,ay w' b o j=ay w b o j:=λj=>Mk J;exact .inr ⟨b,o,cap,arr,el,e1,by rw[J];exact e2,e3,e4,g1,λi hi=>(e6 i hi).map u G he,λp q a a' l l' c c' p1 p2 p3 Q O K=>e7 p q a a' l l' c c' p1 p2 p3 Q (by rw[<-u];exact O) (by rw[<-u];exact K)⟩
section
variable {β β':aR} {who who':bh} {w w':World}
def aW.keep {av:AV} {v:Value} (k:cR β who w β' who' w' (qc av) (aL av)) (h:aW β who w av v):aW β' who' w' av v:=by cases av with|sl o t xs=>{cases o with|imm=>exact gE.keep k.imm k.size h|nl=>exact h|inn=>exact h|nm n=>{obtain⟨h1,h2⟩:=h;refine⟨by rw[k.beta n (by simp[aL])];exact h1,?_⟩;rcases h2 with h2|⟨b,o,cap,arr,el,e1,e2,e3,e4,e5,e6⟩;{exact .inl h2};{have hk:=k.own n (by simp[qc]) b e5;exact .inr ⟨b,o,cap,arr,el,e1,by rw[hk.2];exact e2,e3,e4,hk.1,aT.keep k.imm k.size hk.2 e6⟩}}}|ref s n sz win=>{simp only[aW]at*;rw[k.beta n (by simp[aL])];exact h}|ptr s n sz i j=>{simp only[aW]at*;rw[k.beta n (by simp[aL])];exact h}|dr s n kk=>{simp only[aW]at*;rw[k.beta n (by simp[aL])];exact h}|iptr g t xs i j=>{obtain⟨b,o,e1,e2,e3,e4,e5⟩:=h;exact⟨b,o,e1,e2,(k.imm b e3 e4).1,by have:=k.size;omega,aT.keep k.imm k.size (k.imm b e3 e4).2 e5⟩}|dp n t xs hh=>exact br.map (k.beta n (by simp[aL])) (λb hb=>k.own n (by simp[qc]) b hb) (λ_ _ _ hb he=>he.keep k.imm k.size hb) h|dq n t xs hh=>exact bU.map (k.beta n (by simp[aL])) (λb hb=>k.own n (by simp[qc]) b hb) (λ_ _ _ _ hb he=>he.keep k.imm k.size hb) h|wn n t xs=>{obtain⟨⟨h1,h2⟩,arr0,g1,g2⟩:=h;rcases h2 with⟨h2,h2'⟩|⟨b,o,cap,arr,el,e1,e2,e3,e4,e5,e6⟩;{refine⟨⟨by rw[k.beta n (by simp[aL])];exact h1,.inl ⟨h2,h2'⟩⟩,arr0,by rw[k.beta 98 (by simp[aL])];exact g1,λb o L cap arr el q1 _=> ?_⟩;rw[h2]at q1;cases q1};{have hk:=k.own n (by simp[qc]) b e5;refine⟨⟨by rw[k.beta n (by simp[aL])];exact h1,.inr ⟨b,o,cap,arr,el,e1,by rw[hk.2];exact e2,e3,e4,hk.1,aT.keep k.imm k.size hk.2 e6⟩⟩,arr0,by rw[k.beta 98 (by simp[aL])];exact g1,λb' o' L' cap' arr' el' q1 q2=> ?_⟩;grind}}|_=>exact h
def cR.mono {ns os G u:List Nat} (k:cR β who w β' who' w' ns os) (K: ∀n∈G,n∈ns) (J: ∀n∈u,n∈os):
 cR β who w β' who' w' G u:=
 ⟨λn h=>k.beta n (J n h),λn h=>k.own n (K n h),k.imm,k.size⟩
def be.keep {cells:List AV} {arr:Array Value} (k:cR β who w β' who' w' (cells.flatMap qc) (cells.flatMap aL))
 (h:be β who w cells arr):be β' who' w' cells arr:=
 ⟨h.1,λj G=>aW.keep (k.mono (λn u=>zN.2 ⟨_,zW G,u⟩) (λn u=>zN.2 ⟨_,zW G,u⟩)) (h.2 j G)⟩
def bA.keep {av:AV} {v:Value} (k:cR β who w β' who' w' (qi av) (aZ av)) (h:bA β who w av v):bA β' who' w' av v:=by cases av with|bx o cells=>{cases o with|nm n=>{obtain⟨h0,b,arr,el,e1,e2,e3,e4⟩:=h;have hk:=k.own n (by simp[qi]) b e3;exact⟨by rw[k.beta n (by simp[aZ])];exact h0,b,arr,el,e1,by rw[hk.2];exact e2,hk.1,be.keep (k.mono (λn hn=>by simp only[qi];grind) (λn hn=>by simp only[aZ];grind)) e4⟩}|_=>exact h}|agg cells=>{obtain⟨arr,e1,e2⟩:=h;exact⟨arr,e1,be.keep k e2⟩}|dead=>trivial|bool b=>exact aW.keep (av:= .bool b) k h|int x n=>exact aW.keep (av:= .int x n) k h|lit u=>exact aW.keep (av:= .lit u) k h|sl o t xs=>exact aW.keep (av:= .sl o t xs) k h|tup vs=>exact h.elim|ref s n sz win=>exact aW.keep (av:= .ref s n sz win) k h|ptr s n sz i j=>exact aW.keep (av:= .ptr s n sz i j) k h|iptr g t xs i j=>exact aW.keep (av:= .iptr g t xs i j) k h|dp n t xs hh=>exact aW.keep (av:= .dp n t xs hh) k h|dr s n kk=>exact aW.keep (av:= .dr s n kk) k h|wn n t xs=>exact aW.keep (av:= .wn n t xs) k h|dq n t xs hh=>exact aW.keep (av:= .dq n t xs hh) k h
def bo.keep {av:AV} {v:Value} (k:cR β who w β' who' w' (ab av) (occ av)) (h:bo β who w av v):bo β' who' w' av v:=by cases av with|tup vs=>{obtain⟨arr,e1,e2,e3⟩:=h;exact⟨arr,e1,e2,λj hj=>bA.keep (k.mono (λn hn=>zN.2 ⟨_,zW hj,hn⟩) (λn hn=>zN.2 ⟨_,zW hj,hn⟩)) (e3 j hj)⟩}|dead=>trivial|bool b=>exact bA.keep (av:= .bool b) k h|int x n=>exact bA.keep (av:= .int x n) k h|lit u=>exact bA.keep (av:= .lit u) k h|sl o t xs=>exact bA.keep (av:= .sl o t xs) k h|bx o cells=>exact bA.keep (av:= .bx o cells) k h|agg cells=>exact bA.keep (av:= .agg cells) k h|ref s n sz win=>exact bA.keep (av:= .ref s n sz win) k h|ptr s n sz i j=>exact bA.keep (av:= .ptr s n sz i j) k h|iptr g t xs i j=>exact bA.keep (av:= .iptr g t xs i j) k h|dp n t xs hh=>exact bA.keep (av:= .dp n t xs hh) k h|dr s n kk=>exact bA.keep (av:= .dr s n kk) k h|wn n t xs=>exact bA.keep (av:= .wn n t xs) k h|dq n t xs hh=>exact bA.keep (av:= .dq n t xs hh) k h
end
def qh (U:ao) (s:Nat) (v:AV):(U.set s v).get s=v:=by induction U with|nil=>simp[ao.set,ao.get]|cons x r G=>{obtain⟨k,u⟩:=x;by_cases h:k=s<;>simp[ao.set,ao.get,h,G]}
def qg (U:ao) {s t:Nat} (v:AV) (G:t≠s):(U.set s v).get t=U.get t:=by induction U with|nil=>{simp[ao.set,ao.get];omega}|cons x r J=>{obtain⟨k,u⟩:=x;by_cases h:k=s;{subst h;simp[ao.set,ao.get];grind};{simp only[ao.set,h,if_false,ao.get];grind}}
def FN:Nat:=99
def Wr:List (Nat×Operand)->List (IntKind×Int)
 |[]=>[]
 |(_,.const (.int k n))::r=>(k,n)::Wr r
 |_::r=>Wr r
def VE:List Oper->Tmp->List (IntKind×Int)
 |[],_=>[]
 |o::r,t=>match o.dst,o.op with
  |some d,.build _ ps=>if d=t then Wr ps.toList else VE r t
  |_,_=>VE r t
def Vg (all:List Oper):List Oper->List (Nat×IntKind×LI)
 |[]=>[]
 |o::r=>match o.op with
  | .store _ (.global g) (.tmp t)=>(match VE all t with
    |(k,n)::l=>[(g,k,n::l.map (·.2))]
    |[]=>[])++Vg all r
  |_=>Vg all r
def SK:Code->List Oper
 | .region _ ops _=>ops.toList
 | .seq a b=>SK a++SK b
 |_=>[]
def Sd (P:Program):List (Nat×IntKind×LI):=
 match P.funcs.toList.find? λf=>f.name== "gosem.cut.vars" with
 |some f=>(match f.body with
  |some c=>Vg (SK c) (SK c)
  |none=>[])
 |none=>[]
def cE (P:Program) (who:bh) (w:World):Prop:= ∀x∈Sd P,who x.1=none/\x.1<w.heap.size/\ ∀i (h:i<x.2.2.length),w.cell? ⟨x.1,i,none⟩=some (.int x.2.1 x.2.2[i])
structure a8 where
 prog:Program
 w0:World
 who0:bh
 pins:List (Nat×Value)
 N:Nat
 gok:cE prog who0 w0
 fr:Value
structure aC (E:a8) (D:Nat->Prop) (β:aR) (who:bh) (U:ao) (hd:List (AV×Value)) (a:Act) (w:World):Prop where
 rel: ∀s,bo β who w (U.get s) (a.tmps.getD s undef)
 nod: ∀s,(ab (U.get s)).Nodup
 dis: ∀s s' n,n∈ab (U.get s)->n∈ab (U.get s')->s=s'
 occ: ∀s n,n∈Vs.occ (U.get s)->D n
 hrel: ∀x∈hd,bo β who w x.1 x.2
 hnod:(hd.flatMap λx=>ab x.1).Nodup
 hdis: ∀x∈hd,∀n∈ab x.1,∀s,n∉ab (U.get s)
 hocc: ∀x∈hd,∀n∈Vs.occ x.1,D n
 wsz: ∀b n,who b=some n->b<w.heap.size
 fr0: ∀b,b<E.w0.heap.size->E.who0 b=none\/E.who0 b=some FN->w.heap[b]? =E.w0.heap[b]?
 fr1: ∀b n,who b=some n->E.who0 b≠none\/E.w0.heap.size<=b
 fr2:E.w0.heap.size<=w.heap.size
 fr3: ∀b,E.who0 b=some FN->who b=some FN
 fr4:w.os=E.w0.os/\w.output=E.w0.output
 dfn: ¬D FN
 dfr:a.defers=[]
 tsz:a.tmps.size=E.N
 pin: ∀p∈E.pins,a.tmps.getD p.1 undef=p.2
 frm:β 98=E.fr
 d98:D 98
def Yh {av:AV} {n:Nat} (h:n∈qc av):n∈aL av:=by cases av with|sl o t xs=>{cases o<;>simp[qc,aL]at* ;exact h}|dp m t xs hh=>exact h|dq m t xs hh=>exact h|wn m t xs=>{simp only[qc,aL,zq,nA,or_false]at*;exact .inl h}|_=>simp[qc]at h
def TM {cells:List AV} {n:Nat} {f g:AV->List Nat} (u: ∀c,n∈f c->n∈g c) (h:n∈cells.flatMap f):n∈cells.flatMap g:=by grind
def Yg {av:AV} {n:Nat} (h:n∈qi av):n∈aZ av:=by cases av with|bx o cells=>{cases o with|nm m=>{simp only[qi,aZ,zq]at*;exact h.imp id (TM λc=>Yh)}|_=>exact TM (λc=>Yh) h}|agg cells=>exact TM (λc=>Yh) h|sl o t xs=>exact Yh (av:= .sl o t xs) h|dp m t xs hh=>exact h|dq m t xs hh=>exact h|wn m t xs=>exact Yh (av:= .wn m t xs) h|_=>simp[qi,qc]at h
def qj {av:AV} {n:Nat} (h:n∈ab av):n∈Vs.occ av:=by cases av with|tup vs=>exact TM (λc=>Yg) h|sl o t xs=>exact Yg (av:= .sl o t xs) h|dp m t xs hh=>exact h|dq m t xs hh=>exact h|wn m t xs=>exact Yg (av:= .wn m t xs) h|bx o cells=>exact Yg (av:= .bx o cells) h|agg cells=>exact Yg (av:= .agg cells) h|_=>simp[ab,qi,qc]at h
section
variable {E:a8} {D:Nat->Prop} {β:aR} {who:bh} {U:ao} {hd:List (AV×Value)} {a:Act} {w:World}
def aC.mono (S:aC E D β who U hd a w) {D':Nat->Prop} (h: ∀n,D n->D' n) (hF: ¬D' FN):aC E D' β who U hd a w:=
 {S with occ:=λs n hn=>h n (S.occ s n hn),hocc:=λx hx n hn=>h n (S.hocc x hx n hn),dfn:=hF,d98:=h 98 S.d98}
def aC.ext (S:aC E D β who U hd a w) {U':ao} (h: ∀s,U'.get s=U.get s):aC E D β who U' hd a w:=
 {S with rel:=λs=>by rw[h];exact S.rel s,nod:=λs=>by rw[h];exact S.nod s,
         dis:=λs s' n h1 h2=>S.dis s s' n (by rw[<-h];exact h1) (by rw[<-h];exact h2),
         occ:=λs n hn=>S.occ s n (by rw[<-h];exact hn),
         hdis:=λx hx n hn s=>by rw[h];exact S.hdis x hx n hn s}
def aC.drop (S:aC E D β who U hd a w) {x:AV×Value} {hd':List (AV×Value)} (h:hd=x::hd'):aC E D β who U hd' a w:=by
 subst h
 exact{S with hrel:=λy hy=>S.hrel y (mT hy),hnod:=(zS.1 (by simpa using S.hnod)).2.1,
              hdis:=λy hy=>S.hdis y (mT hy),hocc:=λy hy=>S.hocc y (mT hy)}
def aC.take0 (S:aC E D β who U hd a w) {v:AV} {c:Value} (hv:bo β who w v c) (h0:ab v=[]) (ho: ∀n∈Vs.occ v,D n):
 aC E D β who U ((v,c)::hd) a w:=
 {S with
  hrel:=λy hy=>by rcases mC hy with rfl|hy;exact hv;exact S.hrel y hy
  hnod:=by simpa [h0]using S.hnod
  hdis:=λy hy=>by
   rcases mC hy with rfl|hy
   . intro n hn;simp[h0]at hn
   . exact S.hdis y hy
  hocc:=λy hy=>by rcases mC hy with rfl|hy;exact ho;exact S.hocc y hy}
def aC.abs (S:aC E D β who U hd a w) {s:Nat} {v:AV} (hv:bo β who w v (a.tmps.getD s undef)) (hn: ∀n∈ab v,n∈ab (U.get s))
 (hnd:(ab v).Nodup) (ho: ∀n∈Vs.occ v,D n):aC E D β who (U.set s v) hd a w:=
 {S with
  rel:=λt=>by
   by_cases h:t=s
   . subst h;rw[qh];exact hv
   . rw[qg _ _ h];exact S.rel t
  nod:=λt=>by
   by_cases h:t=s
   . subst h;rw[qh];exact hnd
   . rw[qg _ _ h];exact S.nod t
  dis:=λt t' n h1 h2=>by
   have g: ∀t,n∈ab ((U.set s v).get t)->n∈ab (U.get t):=λt ht=>by
    by_cases h:t=s
    . subst h;rw[qh]at ht;exact hn n ht
    . rw[qg _ _ h]at ht;exact ht
   exact S.dis t t' n (g t h1) (g t' h2)
  occ:=λt n h1=>by
   by_cases h:t=s
   . subst h;rw[qh]at h1;exact ho n h1
   . rw[qg _ _ h]at h1;exact S.occ t n h1
  hdis:=λx hx n h1 t=>by
   by_cases h:t=s
   . subst h;rw[qh];exact λh2=>S.hdis x hx n h1 t (hn n h2)
   . rw[qg _ _ h];exact S.hdis x hx n h1 t}
def aC.takeAll (S:aC E D β who U hd a w) (s:Nat):aC E D β who (U.set s .dead) ((U.get s,a.tmps.getD s undef)::hd) a w:=by
 have S':=S.abs (s:=s) (v:= .dead) trivial (λn h=>by simp[ab,qi,qc]at h) (by simp[ab,qi,qc]) (λn h=>by simp[Vs.occ,aZ,aL]at h)
 exact{S' with
  hrel:=λy hy=>by rcases mC hy with rfl|hy;exact S.rel s;exact S.hrel y hy
  hnod:=by
   simp only[fC];refine zS.2 ⟨S.nod s,S.hnod,λn h1 m h2=> ?_⟩
   rintro rfl
   obtain⟨x,hx,hn⟩:=zN.1 h2;exact S.hdis x hx n hn s h1
  hdis:=λy hy=>by
   rcases mC hy with rfl|hy
   . intro n h1 t h2;by_cases h:t=s
     . subst h;rw[qh]at h2;simp[ab,qi,qc]at h2
     . rw[qg _ _ h]at h2;exact h (S.dis t s n h2 h1)
   . exact S'.hdis y hy
  hocc:=λy hy=>by rcases mC hy with rfl|hy;exact S.occ s;exact S.hocc y hy}
def aC.put {v:AV} {c:Value} (S:aC E D β who U ((v,c)::hd) a w) {d:Nat} (hd1:d<E.N) (hp: ∀p∈E.pins,p.1≠d):
 aC E D β who (U.set d v) hd (a.put (some d) c) w:=by
 have hsz:d<a.tmps.size:=by rw[S.tsz];exact hd1
 have hget: ∀t,(a.put (some d) c).tmps.getD t undef=if t=d then c else a.tmps.getD t undef:=λt=>by
  simp only[Act.put,Array.getD_eq_getD_getElem?,Array.getElem?_setIfInBounds]
  grind
 have hv:=S.hrel _ mS;have hin: ∀t,t≠d->(a.put (some d) c).tmps.getD t undef=a.tmps.getD t undef:=λt h=>by rw[hget,af h]
 exact{
  rel:=λt=>by
   by_cases h:t=d
   . subst h;rw[qh,hget,iP rfl];exact hv
   . rw[qg _ _ h,hin t h];exact S.rel t
  nod:=λt=>by
   by_cases h:t=d
   . subst h;rw[qh];exact(zS.1 (by simpa using S.hnod)).1
   . rw[qg _ _ h];exact S.nod t
  dis:=λt t' n h1 h2=>by
   by_cases h:t=d<;>by_cases h':t'=d
   . rw[h,h']
   . subst h;rw[qh]at h1;rw[qg _ _ h']at h2;exact absurd h2 (S.hdis _ mS n h1 t')
   . subst h';rw[qh]at h2;rw[qg _ _ h]at h1;exact absurd h1 (S.hdis _ mS n h2 t)
   . rw[qg _ _ h]at h1;rw[qg _ _ h']at h2;exact S.dis t t' n h1 h2
  occ:=λt n h1=>by
   by_cases h:t=d
   . subst h;rw[qh]at h1;exact S.hocc _ mS n h1
   . rw[qg _ _ h]at h1;exact S.occ t n h1
  hrel:=λy hy=>S.hrel y (mT hy)
  hnod:=(zS.1 (by simpa using S.hnod)).2.1
  hdis:=λy hy n h1 t=>by
   by_cases h:t=d
   . subst h;rw[qh];have:=(zS.1 (by simpa using S.hnod:(ab v++hd.flatMap λx=>ab x.1).Nodup)).2.2
     grind
   . rw[qg _ _ h];exact S.hdis y (mT hy) n h1 t
  hocc:=λy hy=>S.hocc y (mT hy)
  wsz:=S.wsz,fr0:=S.fr0,fr1:=S.fr1,fr2:=S.fr2,fr3:=S.fr3,fr4:=S.fr4,dfn:=S.dfn
  dfr:=S.dfr
  tsz:=by simp[Act.put,S.tsz]
  pin:=λp hp'=>by rw[hin p.1 (hp p hp')];exact S.pin p hp'
  frm:=S.frm
  d98:=S.d98}
def aC.putNone {v:AV} {c:Value} (S:aC E D β who U ((v,c)::hd) a w):aC E D β who U hd (a.put none c) w:=by have:=S.drop rfl;simpa [Act.put]using this
def aC.glob (S:aC E D β who U hd a w):cE E.prog who w:=λx G=>by obtain⟨u,h2,O⟩:=E.gok x G;have K:=S.fr0 x.1 h2 (.inl u);refine⟨?_,wX h2 S.fr2,λi J=> ?_⟩;{cases hw:who x.1 with|none=>rfl|some n=>{rcases S.fr1 _ n hw with h|h;{exact absurd u h};{omega}}};{have:=O i J;rw[<-this];unfold World.cell?;simp only[K]}
def aC.world (S:aC E D β who U hd a w) {β':aR} {who':bh} {w':World}
 (hrel: ∀s,bo β' who' w' (U.get s) (a.tmps.getD s undef)) (hhrel: ∀x∈hd,bo β' who' w' x.1 x.2)
 (hw: ∀b n,who' b=some n->b<w'.heap.size) (hsz:w.heap.size<=w'.heap.size)
 (h0: ∀b,b<E.w0.heap.size->E.who0 b=none\/E.who0 b=some FN->w'.heap[b]? =w.heap[b]?)
 (h1: ∀b n,who' b=some n->E.who0 b≠none\/E.w0.heap.size<=b) (h3: ∀b,E.who0 b=some FN->who' b=some FN) (h4:w'.os=w.os/\w'.output=w.output:=by exact⟨rfl,rfl⟩) (h98:β' 98=β 98:=by exact rfl):aC E D β' who' U hd a w':=
 {S with frm:=h98.trans S.frm,rel:=hrel,hrel:=hhrel,wsz:=hw,fr0:=λb hb hn=>by rw[h0 b hb hn];exact S.fr0 b hb hn,fr1:=h1,fr2:=zf S.fr2 hsz,fr3:=h3,fr4:=⟨h4.1.trans S.fr4.1,h4.2.trans S.fr4.2⟩}
def aC.keep (S:aC E D β who U hd a w) {β':aR} {who':bh} {w':World}
 (hβ: ∀n,D n->β' n=β n) (G: ∀b n,who b=some n->who' b=some n) (hheap: ∀b,b<w.heap.size->w'.heap[b]? =w.heap[b]?)
 (O: ∀b,who b=none->b<w.heap.size->who' b=none) (hw: ∀b n,who' b=some n->b<w'.heap.size)
 (K:w.heap.size<=w'.heap.size) (h4:w'.os=w.os/\w'.output=w.output:=by exact⟨rfl,rfl⟩):aC E D β' who' U hd a w':=by have k: ∀ns os,(∀n∈os,D n)->cR β who w β' who' w' ns os:=λns os ho=> ⟨λn hn=>hβ n (ho n hn),λn _ b u=>⟨G b n u,hheap b (S.wsz b n u)⟩,λb u J=>⟨O b u J,hheap b J⟩,K⟩;refine S.world (λs=>(S.rel s).keep (k _ _ (S.occ s))) (λx hx=>(S.hrel x hx).keep (k _ _ (S.hocc x hx))) hw K (λb u _=>hheap b (wX u S.fr2)) (λb n u=> ?_) (λb u=>G b FN (S.fr3 b u)) h4 (hβ 98 S.d98);by_cases J:b<w.heap.size;{cases Q:who b with|none=>grind|some m=>exact S.fr1 b m Q};{exact .inr (by have:=S.fr2;omega)}
end
abbrev Q8:=Nat->List AV->AV->List AV->Prop
def vw (U:ao) (G:Nat):Option AV:=cZ (G/32) (G%32) (U.get (G/32))
def SG {s j:Nat} (h:17<=j) (a:AV):cZ s j a=none:=by
 match j,h with
 |j+2,h=>simp only[cZ];rw[af O]
def IP (U:ao) {s j:Nat} (h:j<32):vw U (32*s+j)=cZ s j (U.get s):=by unfold vw;grind
def vG (U:ao) (s:Nat):vw U (32*s)=some (U.get s):=by have:=IP U (s:=s) (j:=0) O;simpa [cZ]using this
def SP {U τ:ao} {G:Nat} (h:τ.get (G/32)=U.get (G/32)):vw τ G=vw U G:=by unfold vw;rw[h]
def qek: ∀{b n G:Nat} {r:List Nat},G∈kK b n r↔(b<=G/\G<b+n)\/G∈r
 |b,0,G,r=>by simp only[kK];grind
 |b,n+1,G,r=>by simp only[kK,zq,qek (b:=b+1) (n:=n)];grind
def Yk {s G:Nat} {r:List Nat}:G∈kJ s r↔(G/32=s/\G%32<17)\/G∈r:=by unfold kJ;rw[qek];grind
def Xq {s G:Nat} {W r:List Nat}:G∈fX s W r↔(∃j∈W,G=32*s+j)\/G∈r:=by induction W with|nil=>simp[fX]|cons j J u=>{simp only[fX,zq,u];grind}
def qnx (U:ao) {s G:Nat} (v:AV) (h: ¬(G/32=s/\G%32<17)):vw (U.set s v) G=vw U G:=by by_cases e:G/32=s;{unfold vw;rw[SG O,SG O]};{exact SP (qg _ _ e)}
def quu (U:ao) {s G:Nat} {v:AV} {W:List Nat} (h: ∀j,j∉W->cZ s j v=cZ s j (U.get s)) (u: ∀j∈W,G≠32*s+j):vw (U.set s v) G=vw U G:=by by_cases e:G/32=s;{subst e;unfold vw;rw[qh];grind};{exact SP (qg _ _ e)}
def qmn (U τ:ao) {s G:Nat} (v:AV) (h:G/32≠s->vw τ G=vw U G):vw (τ.set s v) G=vw (U.set s v) G:=by by_cases e:G/32=s;{subst e;exact SP (by rw[qh,qh])};{have h':=h e;unfold vw at h'⊢;rw[qg _ _ e,qg _ _ e];exact h'}
inductive aw (CO:Q8) {α:Type}:M α->ao->α->ao->List Nat->List Nat->Prop where
 |ret {a:α} {U:ao}:aw CO (.ret a) U a U [] []
 |get {s:Nat} {k:AV->M α} {U U':ao} {a:α} {R W:List Nat}:aw CO (k (U.get s)) U a U' R W->aw CO (.get s k) U a U' ((32*s)::R) W
 |view {s j:Nat} {k:Option AV->M α} {U U':ao} {a:α} {R W:List Nat}:aw CO (k (cZ s j (U.get s))) U a U' R W->aw CO (.view s j k) U a U' ((32*s+j)::R) W
 |set {s:Nat} {v:AV} {k:M α} {U U':ao} {a:α} {R W:List Nat}:aw CO k (U.set s v) a U' R W->aw CO (.set s v k) U a U' (kJ s R) (kJ s W)
 |upd {s:Nat} {V:List Nat} {f:AV->Option AV} {hf: ∀a b,f a=some b-> ∀j,j∉V->cZ s j b=cZ s j a} {v:AV} {k:M α} {U U':ao} {a:α} {R W:List Nat}:f (U.get s)=some v->aw CO k (U.set s v) a U' R W->aw CO (.upd s V f hf k) U a U' ((32*s)::fX s V R) (fX s V W)
 |ask {p:Prop} {d:Decidable p} {k:M α} {U U':ao} {a:α} {R W:List Nat}:p->aw CO k U a U' R W->aw CO (.ask p d k) U a U' R W
 |know {s:Nat} {b:Bool} {k:Bool->M α} {U U':ao} {a:α} {R W:List Nat}:U.get s= .bool b->aw CO (k b) U a U' R W->aw CO (.know s k) U a U' ((32*s)::R) W
 |call {f:Nat} {as:List AV} {k:AV->List AV->M α} {r:AV} {os:List AV} {U U':ao} {a:α} {R W:List Nat}:
   CO f as r os->aw CO (k r os) U a U' R W->aw CO (.call f as k) U a U' R W
def qco: ∀(k n:Nat) (a b:List Nat),kK k n (a++b)=kK k n a++b
 |_,0,_,_=>rfl
 |k,n+1,a,b=>by simp only[kK,qco (k+1) n a b,AY]
def qcz (s:Nat) (a b:List Nat):kJ s (a++b)=kJ s a++b:=qco _ _ _ _
def qe8 (s:Nat) (V a b:List Nat):fX s V (a++b)=fX s V a++b:=by induction V with|nil=>rfl|cons j G u=>simp[fX,u]
def sv (U τ:ao):Prop:= ∀s,τ.get s=U.get s
section
variable {CO:Q8} {α β:Type}
def aw.bind {m:M α} {f:α->M β} {U U1:ao} {b:β} {R W:List Nat} (h:aw CO (m.bind f) U b U1 R W):
 ∃a U' R1 W1 R2 W2,aw CO m U a U' R1 W1/\aw CO (f a) U' b U1 R2 W2/\R=R1++R2/\W=W1++W2:=by induction m generalizing U R W with|ret a=>exact⟨a,U,[],[],R,W,.ret,h,rfl,rfl⟩|fail=>cases h|get s k ih=>{cases h with|get h=>{obtain⟨a,U',R1,W1,R2,W2,h1,h2,e1,e2⟩:=ih _ h;exact⟨a,U',_,_,R2,W2,.get h1,h2,by simp[e1],e2⟩}}|view s j k ih=>{cases h with|view h=>{obtain⟨a,U',R1,W1,R2,W2,h1,h2,e1,e2⟩:=ih _ h;exact⟨a,U',_,_,R2,W2,.view h1,h2,by simp[e1],e2⟩}}|set s v k ih=>{cases h with|set h=>{obtain⟨a,U',R1,W1,R2,W2,h1,h2,e1,e2⟩:=ih h;exact⟨a,U',_,_,R2,W2,.set h1,h2,by rw[e1,qcz],by rw[e2,qcz]⟩}}|upd s V g hg k ih=>{cases h with|upd hv h=>{obtain⟨a,U',R1,W1,R2,W2,h1,h2,e1,e2⟩:=ih h;exact⟨a,U',_,_,R2,W2,.upd hv h1,h2,by rw[e1,qe8];rfl,by rw[e2,qe8]⟩}}|ask p d k ih=>{cases h with|ask hp h=>{obtain⟨a,U',R1,W1,R2,W2,h1,h2,e1,e2⟩:=ih h;exact⟨a,U',_,_,R2,W2,.ask hp h1,h2,e1,e2⟩}}|know s k ih=>{cases h with|know hb h=>{obtain⟨a,U',R1,W1,R2,W2,h1,h2,e1,e2⟩:=ih _ h;exact⟨a,U',_,_,R2,W2,.know hb h1,h2,by simp[e1],e2⟩}}|call g as k ih=>{cases h with|call hc h=>{obtain⟨a,U',R1,W1,R2,W2,h1,h2,e1,e2⟩:=ih _ _ h;exact⟨a,U',_,_,R2,W2,.call hc h1,h2,e1,e2⟩}}
def aw.frame {m:M α} {U U':ao} {a:α} {R W:List Nat} (h:aw CO m U a U' R W): ∀s,s∉W->vw U' s=vw U s:=by induction h with|ret=>exact λ_ _=>rfl|get _ ih=>exact ih|view _ ih=>exact ih| @set s v k U U' a R W _ ih=>{intro t ht;rw[Yk,not_or]at ht;rw[ih t ht.2,qnx _ _ ht.1]}| @upd s V f hf v k U U' a R W hv _ ih=>{intro t ht;rw[Xq,not_or]at ht;rw[ih t ht.2,quu _ (hf _ _ hv) (λj hj e=>ht.1 ⟨j,hj,e⟩)]}|ask _ _ ih=>exact ih|know _ _ ih=>exact ih|call _ _ ih=>exact ih
def aw.subW {m:M α} {U U':ao} {a:α} {R W:List Nat} (h:aw CO m U a U' R W): ∀s∈W,s∈R:=by induction h with|ret=>{intro s h;exact h}|get _ ih=>grind|view _ ih=>grind|set _ ih=>{intro t ht;rw[Yk]at ht⊢;exact ht.imp id (ih t)}|upd _ _ ih=>{intro t ht;rw[Xq]at ht;exact mT (Xq.2 (ht.imp id (ih t)))}|ask _ _ ih=>exact ih|know _ _ ih=>grind|call _ _ ih=>exact ih
def aw.local {m:M α} {U U':ao} {a:α} {R W:List Nat} (h:aw CO m U a U' R W): ∀(τ:ao) (X:Nat->Prop),
 (∀s,(s∈R\/X s)->vw τ s=vw U s)-> ∃τ',aw CO m τ a τ' R W/\(∀s,(s∈R\/X s)->vw τ' s=vw U' s):=by have getc: ∀{τ U:ao} {s:Nat},vw τ (32*s)=vw U (32*s)->τ.get s=U.get s:=λh=>by{rw[vG,vG]at h;injection h};have one: ∀{G:Nat} {R:List Nat} {X:Nat->Prop} {τ U:ao},(∀s,(s∈G::R\/X s)->vw τ s=vw U s)-> ∀s,(s∈R\/(X s\/s=G))->vw τ s=vw U s:=λh s hs=>by{grind};have two: ∀{G:Nat} {R:List Nat} {X:Nat->Prop} {s:Nat},(s∈G::R\/X s)->(s∈R\/(X s\/s=G)):=λhs=>by{grind};induction h with|ret=>exact λτ X h=>⟨τ,.ret,h⟩| @get s k U U' a R W _ ih=>{intro τ X h;obtain⟨τ',h1,h2⟩:=ih τ (λt=>X t\/t=32*s) (one h);exact⟨τ',.get (by grind),λt ht=>h2 t (two ht)⟩}| @view s j k U U' a R W _ ih=>{intro τ X h;obtain⟨τ',h1,h2⟩:=ih τ (λt=>X t\/t=32*s+j) (one h);have e:cZ s j (τ.get s)=cZ s j (U.get s):=by{rcases fS j 32 with hj|hj;{have:=h (32*s+j) (.inl mS);rwa [IP _ hj,IP _ hj]at this};{rw[SG O,SG O]}};exact⟨τ',.view (by rw[e];exact h1),λt ht=>h2 t (two ht)⟩}| @set s v k U U' a R W _ ih=>{intro τ X h;obtain⟨τ',h1,h2⟩:=ih (τ.set s v) (λt=>X t\/(t/32=s/\t%32<17)) (λt ht=>qmn _ _ _ λe1=>h t (by{rcases ht with ht|ht|ht;{exact .inl (Yk.2 (.inr ht))};{exact .inr ht};{exact absurd ht.1 e1}}));refine⟨τ',.set h1,λt ht=>h2 t ?_⟩;rcases ht with ht|ht;{rcases Yk.1 ht with ht|ht;{exact .inr (.inr ht)};{exact .inl ht}};{exact .inr (.inl ht)}}| @upd s V f hf v k U U' a R W hv _ ih=>{intro τ X h;have hg:=getc (h _ (.inl mS));obtain⟨τ',h1,h2⟩:=ih (τ.set s v) (λt=>X t\/t/32=s\/ ∃j∈V,t=32*s+j) (λt ht=>qmn _ _ _ λe1=>by{rcases ht with ht|ht|ht|ht;{exact h t (.inl (mT (Xq.2 (.inr ht))))};{exact h t (.inr ht)};{exact absurd ht e1};{exact h t (.inl (mT (Xq.2 (.inl ht))))}});refine⟨τ',.upd (by rw[hg];exact hv) h1,λt ht=>h2 t ?_⟩;rcases ht with ht|ht;{rcases mC ht with rfl|ht;{omega};{rcases Xq.1 ht with ht|ht;{exact .inr (.inr (.inr ht))};{exact .inl ht}}};{exact .inr (.inl ht)}}|ask hp _ ih=>{intro τ X h;obtain⟨τ',h1,h2⟩:=ih τ X h;exact⟨τ',.ask hp h1,h2⟩}| @know s b k U U' a R W hb _ ih=>{intro τ X h;obtain⟨τ',h1,h2⟩:=ih τ (λt=>X t\/t=32*s) (one h);exact⟨τ',.know (by grind) h1,λt ht=>h2 t (two ht)⟩}|call hc _ ih=>{intro τ X h;obtain⟨τ',h1,h2⟩:=ih τ X h;exact⟨τ',.call hc h1,h2⟩}
def sv.vw {U τ:ao} (h:sv U τ) (G:Nat):vw τ G=vw U G:=SP (h _)
def qop {U τ:ao} (h: ∀G,vw τ G=vw U G):sv U τ:=λs=>by have:=h (32*s);rw[vG,vG]at this;injection this
def aw.seq {m:M α} {U U' τ:ao} {a:α} {R W:List Nat} (h:aw CO m U a U' R W) (e:sv U τ): ∃τ',aw CO m τ a τ' R W/\sv U' τ':=by obtain⟨τ',u,h2⟩:=h.local τ (λ_=>True) (λs _=>e.vw s);exact⟨τ',u,qop λs=>h2 s (.inr trivial)⟩
def qpe {ρT:Type} {C:Nat->List AV->(AV->List AV->Option ρT)->Option ρT} {ρ:ρT}
 (hC: ∀f as k,C f as k=some ρ-> ∃r os,CO f as r os/\k r os=some ρ) (m:M α): ∀(U:ao) (L:sw) (K:α->ao->sw->Option ρT),
 iB C m U L K=some ρ-> ∃a U' R W,aw CO m U a U' R W/\ ∃U'' L',sv U' U''/\(∀s,(s∈R\/s∈L.1)->s∈L'.1)/\(∀s,(s∈W\/s∈L.2)->s∈L'.2)/\K a U'' L'=some ρ:=by induction m with|ret a=>exact λU L K h=>⟨a,U,[],[],.ret,U,L,λ_=>rfl,λs h=>by simpa using h,λs h=>by simpa using h,h⟩|fail=>{exact λU L K h=>by cases h}|get s k ih=>{intro U L K h;obtain⟨a,U',R,W,h1,U'',L',e1,e2,e3,e4⟩:=ih _ U _ K h;exact⟨a,U',_,W,.get h1,U'',L',e1,λt ht=>e2 t (by grind),λt ht=>e3 t ht,e4⟩}|view s j k ih=>{intro U L K h;obtain⟨a,U',R,W,h1,U'',L',e1,e2,e3,e4⟩:=ih _ U _ K h;exact⟨a,U',_,W,.view h1,U'',L',e1,λt ht=>e2 t (by grind),λt ht=>e3 t ht,e4⟩}|set s v k ih=>{intro U L K h;obtain⟨a,U',R,W,h1,U'',L',e1,e2,e3,e4⟩:=ih _ _ K h;exact⟨a,U',_,_,.set h1,U'',L',e1,λt ht=>e2 t (by{rcases ht with ht|ht;{exact(Yk.1 ht).elim (λh=> .inr (Yk.2 (.inl h))) .inl};{exact .inr (Yk.2 (.inr ht))}}),fun t ht=>e3 t (by{rcases ht with ht|ht;{exact(Yk.1 ht).elim (λh=> .inr (Yk.2 (.inl h))) .inl};{exact .inr (Yk.2 (.inr ht))}}),e4⟩}|upd s V g hg k ih=>{intro U L K h;simp only[iB]at h;split at h;{rename_i v hv;obtain⟨a,U',R,W,h1,U'',L',e1,e2,e3,e4⟩:=ih _ _ K h;exact⟨a,U',_,_,.upd hv h1,U'',L',e1,λt ht=>e2 t (by{rcases ht with ht|ht;{rcases mC ht with rfl|ht;{grind};{exact(Xq.1 ht).elim (λh=> .inr (mT (Xq.2 (.inl h)))) .inl}};{exact .inr (mT (Xq.2 (.inr ht)))}}),fun t ht=>e3 t (by{rcases ht with ht|ht;{exact(Xq.1 ht).elim (λh=> .inr (Xq.2 (.inl h))) .inl};{exact .inr (Xq.2 (.inr ht))}}),e4⟩};{cases h}}|ask p d k ih=>{intro U L K h;by_cases hp:p;{rw[iB,iP hp]at h;obtain⟨a,U',R,W,h1,rest⟩:=ih _ _ K h;exact⟨a,U',R,W,.ask hp h1,rest⟩};{rw[iB,af hp]at h;cases h}}|know s k ih=>{intro U L K h;simp only[iB]at h;split at h;{rename_i b hb;have hh:iB C (k b) (U.set s (.bool b)) ((32*s)::L.1,L.2) K=some ρ:=by{cases b<;>exact h};obtain⟨a,U',R,W,h1,U'',L',e1,e2,e3,e4⟩:=ih _ _ _ K hh;have hs:sv (U.set s (.bool b)) U:=λt=>by{by_cases e:t=s;{subst e;rw[qh,hb]};{rw[qg _ _ e]}};obtain⟨τ',g1,g2⟩:=h1.seq hs;exact⟨a,τ',_,W,.know hb g1,U'',L',λt=>by rw[g2 t];exact e1 t,λt ht=>e2 t (by grind),λt ht=>e3 t ht,e4⟩};{cases h}}|call f as k ih=>{intro U L K h;obtain⟨r,os,hco,h⟩:=hC _ _ _ h;obtain⟨a,U',R,W,h1,rest⟩:=ih _ _ _ _ K h;exact⟨a,U',R,W,.call hco h1,rest⟩}
end
section
variable {CO:Q8} {α β':Type} {U U':ao} {R W:List Nat}
def aw.bind' {m:M α} {f:α->M β'} {b:β'} (h:aw CO (m>>=f) U b U' R W):
 ∃a u O J K G,aw CO m U a u O J/\aw CO (f a) u b U' K G:=by obtain⟨a,u,O,J,K,G,Q,h2,_,_⟩:=aw.bind (m:=m) (f:=f) h;grind
abbrev kA:=@aw.bind'
def aw.pure' {a b:α} (h:aw CO (Pure.pure a:M α) U b U' R W):b=a/\U'=U:=by cases h;exact⟨rfl,rfl⟩
abbrev kB:=@aw.pure'
def aw.mget' {s:Nat} {v:AV} (h:aw CO (cG s) U v U' R W):v=U.get s/\U'=U:=by cases h with|get h=>{cases h;exact⟨rfl,rfl⟩}
abbrev kD:=@aw.mget'
def aw.mview' {s j:Nat} {v:Option AV} (h:aw CO (hH s j) U v U' R W):v=cZ s j (U.get s)/\U'=U:=by cases h with|view h=>{cases h;exact⟨rfl,rfl⟩}
abbrev kF:=@aw.mview'
def aw.mupd' {s:Nat} {V:List Nat} {f:AV->Option AV} {hf: ∀a b,f a=some b-> ∀j,j∉V->cZ s j b=cZ s j a} {u:Unit} (h:aw CO (lK s V f hf) U u U' R W): ∃v,f (U.get s)=some v/\U'=U.set s v:=by cases h with|upd hv h=>{cases h;exact⟨_,hv,rfl⟩}
abbrev kI:=@aw.mupd'
def aw.mset' {s:Nat} {v:AV} {u:Unit} (h:aw CO (fJ s v) U u U' R W):U'=U.set s v:=by cases h with|set h=>{cases h;rfl}
abbrev kE:=@aw.mset'
def aw.mask' {p:Prop} [Decidable p] {u:Unit} (h:aw CO (dB p) U u U' R W):p/\U'=U:=by cases h with|ask G h=>{cases h;exact⟨G,rfl⟩}
abbrev kG:=@aw.mask'
def aw.mknow' {s:Nat} {b:Bool} (h:aw CO (xM s) U b U' R W):U.get s= .bool b/\U'=U:=by cases h with|know hb h=>{cases h;exact⟨hb,rfl⟩}
def aw.mopt' {x:Option α} {v:α} (h:aw CO (sZ x) U v U' R W):x=some v/\U'=U:=by cases x with|none=>cases h|some y=>{cases h;exact⟨rfl,rfl⟩}
def aw.ofOpt' {x:Option α} {f:α->M β'} {b:β'} (h:aw CO (M.ofOpt x f) U b U' R W): ∃y,x=some y/\aw CO (f y) U b U' R W:=by cases x with|none=>cases h|some y=>exact⟨y,rfl,h⟩
abbrev kH:=@aw.ofOpt'
def aw.fail' {a:α} (h:aw CO M.fail U a U' R W):False:=by cases h
abbrev kC:=@aw.fail'
def aw.mcall' {f:Nat} {as:List AV} {x:AV×List AV} (h:aw CO (n9 f as) U x U' R W):CO f as x.1 x.2/\U'=U:=by cases h with|call u h=>{cases h;exact⟨u,rfl⟩}
end
def be.map {β:aR} {who:bh} {w:World} {cells:List AV} {arr:Array Value} (f:AV->AV)
 (J: ∀c∈cells,∀v,aW β who w c v->aW β who w (f c) v) (h:be β who w cells arr):be β who w (cells.map f) arr:=
 ⟨by simp[h.1],λj G=>by{have u:j<cells.length:=by{simpa using G};simp only[pH];exact J _ (zW u) _ (h.2 j u)}⟩
section
variable {β:aR} {who:bh} {w:World}
def cr.ref {n:Nat} {t:Ty} {xs:List (aX t)} {v:Value} {sz:Nat} (h:cr β who w n t xs v):wV (β n) sz none v:=by obtain⟨u,h2⟩:=h;refine⟨u,?_⟩;grind
def br.ref {n:Nat} {t:Ty} {xs:List (List (aX t))} {h:Option Nat} {v:Value} (J:br β who w n t xs h v):jF (β n) .whole v:=by obtain⟨u,h2⟩:=J;rcases h2 with⟨G,_⟩|⟨b,o,cap,arr,el,G,_⟩<;>exact⟨u,by rw[<-u,G];exact⟨_,_,_,rfl⟩⟩
def br.refl' {n:Nat} {t:Ty} {xs:List (List (aX t))} {h:Option Nat} {v:Value} (J:br β who w n t xs h v):jF (β n) (.lenw xs.length) v:=by obtain⟨G,h2⟩:=J;rcases h2 with⟨u,rfl⟩|⟨b,o,cap,arr,el,u,_⟩<;>first|exact⟨G,.inl ⟨u,rfl⟩⟩|exact⟨G,.inr ⟨b,o,cap,u⟩⟩
def bU.ref {n sz:Nat} {t:Ty} {xs:List (aX t)} {h:Option Nat} {v:Value} (J:bU β who w n t xs h v):wV (β n) sz none v:=by obtain⟨u,h2⟩:=J;rcases h2 with⟨G,_⟩|⟨b,o,cap,arr,el,G,_⟩<;>exact⟨u,by rw[<-u,G];exact⟨_,_,_,rfl⟩⟩
def q8k {s:Nat} {c:AV} {v:Value} (h:aW β who w c v):aW β who w (Xw s c) v:=by cases c with|sl o t xs=>{cases o with|nm n=>exact cr.ref (sz:=t.size) h|_=>exact h}|dp n t xs hh=>exact br.refl' h|dq n t xs hh=>trivial|wn n t xs=>exact cr.ref (sz:=t.size) h.1|_=>exact h
def q49 {s:Nat} {c:AV}:qc (Xw s c)=[]:=by cases c with|sl o t xs=>{cases o<;>rfl}|_=>rfl
def q9c {s:Nat} {c:AV}: ∀n∈aL (Xw s c),n∈aL c:=by intro n hn;cases c with|sl o t xs=>{cases o<;>exact hn}|wn m t xs=>exact zq.2 (.inl (zC.1 hn))|dq m t xs hh=>cases hn|_=>exact hn
def Qc {cells:List AV} {f:AV->List Nat} (h: ∀c∈cells,f c=[]):cells.flatMap f=[]:=by simp_all
def V7 {s:Nat} {av v:AV} {c:Value} (hal:dh s av=some v) (h:bo β who w av c):
 bo β who w v c/\ab v=[]/\ ∀n∈occ v,n∈occ av:=by cases av with|dead=>cases hal|tup vs=>cases hal|dq n t xs hh=>{simp only[dh,zZ]at hal;subst hal;exact⟨bU.ref (sz:=t.size) h,rfl,λm hm=>hm⟩}|bx o cells=>{cases o with|nm n=>{simp only[dh,zZ]at hal;subst hal;obtain⟨h0,b,arr,el,e1,_⟩:=h;refine⟨.inr ⟨b,?_,rfl,?_⟩,rfl,?_⟩;{rw[<-h0];exact e1};{exact e1};{intro m hm;simp only[occ,aZ,aL,zC]at hm;subst hm;simp[occ,aZ]}}|_=>cases hal}|agg cells=>{simp only[dh,zZ]at hal;subst hal;obtain⟨arr,e1,e2⟩:=h;refine⟨⟨arr,e1,e2.map _ (λc _ v hv=>q8k hv)⟩,?_,?_⟩;{simp only[ab,qi];exact Qc λc hc=>by obtain⟨d,_,rfl⟩:=zk.1 hc;exact q49};{intro n hn;simp only[occ,aZ,zN,zk]at hn⊢;obtain⟨c,⟨d,hd,rfl⟩,hn⟩:=hn;exact⟨d,hd,q9c n hn⟩}}|sl o t xs=>{cases o with|nm n=>{simp only[dh,zZ]at hal;subst hal;exact⟨cr.ref (sz:=t.size) h,rfl,λm hm=>hm⟩}|imm=>{simp only[dh,zZ]at hal;subst hal;exact⟨h,rfl,λm hm=>hm⟩}|nl=>{simp only[dh,zZ]at hal;subst hal;exact⟨h,rfl,λm hm=>hm⟩}|inn=>{simp only[dh,zZ]at hal;subst hal;exact⟨h,rfl,λm hm=>hm⟩}}|dp n t xs hh=>{simp only[dh,zZ]at hal;subst hal;exact⟨br.ref h,rfl,λm hm=>hm⟩}|wn n t xs=>{simp only[dh,zZ]at hal;subst hal;exact⟨cr.ref (sz:=t.size) h.1,rfl,λm hm=>zq.2 (.inl (zC.1 hm))⟩}|_=>{simp only[dh,zZ]at hal;subst hal;exact⟨h,rfl,λm hm=>hm⟩}
def TN (v:Value):bo β who w (NC v) v/\ab (NC v)=[]/\occ (NC v)=[]:=by cases v<;>first|exact⟨rfl,rfl,rfl⟩|exact⟨⟨rfl,rfl⟩,rfl,rfl⟩|exact⟨trivial,rfl,rfl⟩
end
section
variable {CO:Q8} {E:a8} {D:Nat->Prop} {β:aR} {who:bh} {U U':ao} {hd:List (AV×Value)} {a:Act} {w:World} {R W:List Nat}
def aw.rd {x:Operand} {v:AV} (h:aw CO (rd x) U v U' R W) (S:aC E D β who U hd a w):U'=U/\aC E D β who U ((v,a.eval x)::hd) a w:=by cases x with|tmp t=>{obtain⟨av,U1,_,_,_,_,Q,h2⟩:=kA h;obtain⟨rfl,rfl⟩:=kF Q;obtain⟨e,rfl⟩:=aw.mopt' h2;obtain⟨O,K,J⟩:=V7 e (S.rel t);exact⟨rfl,S.take0 O K (λn G=>S.occ t n (J n G))⟩}|const u=>{obtain⟨rfl,rfl⟩:=kB h;obtain⟨O,K,J⟩:=TN (β:=β) (who:=who) (w:=w) u;exact⟨rfl,S.take0 O K (λn G=>by rw[J]at G;cases G)⟩}|global g=>exact(kC h).elim|func f=>{obtain⟨rfl,rfl⟩:=kB h;exact⟨rfl,S.take0 (v:= .lit (.func (.func f) #[] #[])) ⟨rfl,rfl⟩ rfl (λn G=>by cases G)⟩}
def Xc {v:AV} (h: ¬L3 v=true):ab v=[]:=by unfold L3 at h;grind
def aw.rdT {x:Operand} {v:AV} (h:aw CO (rdT x) U v U' R W) (S:aC E D β who U hd a w):aC E D β who U' ((v,a.eval x)::hd) a w:=by
 cases x with
 |tmp t=>
  obtain⟨av,G,_,_,_,_,h1,h2⟩:=kA h;obtain⟨rfl,rfl⟩:=kD h1
  have key: ∀{R W:List Nat},aw CO (if L3 (G.get t)then(do fJ t .dead;Pure.pure (G.get t))else Pure.pure (G.get t):M AV) G v U' R W->aC E D β who U' ((v,a.eval (.tmp t))::hd) a w:=by
   intro R W h2;split at h2
   . obtain⟨_,U2,_,_,_,_,Q,O⟩:=kA h2;have:=kE Q;subst this;obtain⟨rfl,rfl⟩:=kB O;exact S.takeAll t
   . rename_i K;obtain⟨rfl,rfl⟩:=kB h2;exact S.take0 (S.rel t) (Xc K) (S.occ t)
  split at h2
  . exact(kC h2).elim
  . rename_i vs J;obtain⟨_,U2,_,_,_,_,Q,O⟩:=kA h2;have:=kE Q;subst this;obtain⟨rfl,rfl⟩:=kB O;have:=S.takeAll t;rw[J]at this;exact this
  . exact key h2
 |const u=>obtain⟨rfl,g⟩:=aw.rd (x:= .const u) h S;exact g
 |global g=>exact(kC h).elim
 |func f=>obtain⟨rfl,g⟩:=aw.rd (x:= .func f) h S;exact g
end
def unown (who:bh) (ns:List Nat):bh:=λb=>match who b with
 |some n=>if n∈ns then none else some n
 |none=>none
def Yn {who:bh} {ns:List Nat} {b:Nat} (h:who b=none):unown who ns b=none:=by simp[unown,h]
def L6 {who:bh} {ns:List Nat} {b n:Nat} (h:who b=some n) (u:n∈ns):unown who ns b=none:=by simp[unown,h,u]
def Me {who:bh} {ns:List Nat} {b n:Nat} (h:who b=some n) (u:n∉ns):unown who ns b=some n:=by simp[unown,h,u]
def Jf {who:bh} {ns:List Nat} {b n:Nat} (h:unown who ns b=some n):who b=some n:=by unfold unown at h;grind
section
variable {β:aR} {who:bh} {w:World}
def cR.unown {ns:List Nat} {as os:List Nat} (h: ∀n∈as,n∉ns):cR β who w β (unown who ns) w as os:=
 ⟨λ_ _=>rfl,λn G b u=>⟨Me u (h n G),rfl⟩,λb u _=>⟨Yn u,rfl⟩,zJ _⟩
def cr.freeze {ns:List Nat} {n:Nat} {t:Ty} {xs:List (aX t)} {v:Value} (h:cr β who w n t xs v) (G:n∈ns):gE (unown who ns) w t xs v:=by obtain⟨_,h⟩:=h;rcases h with h|⟨b,o,cap,arr,el,e1,e2,e3,Q,O,K⟩;{exact .inl h};{have u:b<w.heap.size:=by{rcases fS b w.heap.size with h|h;{exact h};{grind}};exact .inr ⟨b,o,cap,e1,L6 O G,u,Q,aT.keep (λb J _=>⟨Yn J,rfl⟩) (zJ _) rfl K⟩}
def br.freeze {ns:List Nat} {n:Nat} {t:Ty} {xs:List (List (aX t))} {v:Value} (h:br β who w n t xs none v) (J:n∈ns):gE (unown who ns) w (.sl false t) xs v:=by obtain⟨_,h2⟩:=h;rcases h2 with h2|⟨b,o,cap,arr,el,e1,e2,e3,e4,e5,e6,_⟩;{exact .inl h2};have lt: ∀{b:Nat} {arr:Array Value} {el:TypeId},w.heap[b]? =some (.cells arr el (0,0))->b<w.heap.size:=λ{b} _ _ h=>by{grind};refine .inr ⟨b,o,cap,e1,L6 e5 J,lt e2,e4,λi hi=> ?_⟩;obtain⟨f1,f2⟩:=e6 i hi (by simp);refine⟨c9 (β n) (i+1),?_,?_⟩;{show ay w b (o+i*1) 0=some (c9 (β n) (i+1));rw[<-f1];simp[ay]};{rcases f2 with⟨G,u⟩|⟨bi,K,ci,ar,l,G,u,k3,k4,Q,k6,O⟩;{exact .inl ⟨G,u⟩};{exact .inr ⟨bi,K,ci,G,L6 Q J,lt u,k4,aT.keep (λb hb _=>⟨Yn hb,rfl⟩) (zJ _) rfl O⟩}}
def cw.imm {who':bh} {n b d:Nat} {g g':Nat->Option Value} (K: ∀b,who b=none->who' b=none) (J: ∀b,who b=some n->who' b=none) (u: ∀k,g' k=g (d+k)): ∀{t:Ty} {x:aX t} {j:Nat},
 cw who w n b none t x g (d+j)->ba who' w t x g' j
 | .int k,x,j,h=>by simp only[ba,cw]at*;rw[u];exact h
 | .bool,x,j,h=>by simp only[ba,cw]at*;rw[u];exact h
 | .pr s t,x,j,h=>⟨cw.imm K J u h.1,cw.imm K J u (by rw[<-Nat.add_assoc];exact h.2)⟩
 | .sl _ t,xs,j,h=>by simp only[cw]at h;rcases h with h|⟨v,O,G⟩;{cases h};refine⟨v,by rw[u];exact O,?_⟩;rcases G with G|⟨bi,Q,ci,ar,l,k1,k2,k3,k4,k5,k6,k7⟩;{exact .inl G};{exact .inr ⟨bi,Q,ci,k1,J bi k5,by grind,k4,λi hi=>ba.keep (λb hb _=>⟨K b hb,rfl⟩) (zJ _) (k7 i hi)⟩}
def bU.slI {who':bh} {n:Nat} {t:Ty} {xs:List (aX t)} {v:Value} (h:bU β who w n t xs none v) (J: ∀b,who b=none->who' b=none) (u: ∀b,who b=some n->who' b=none):gE who' w t xs v:=by obtain⟨_,h2⟩:=h;rcases h2 with h2|⟨b,o,cap,arr,el,e1,e2,e3,Q,O,K,_⟩;{exact .inl h2};refine .inr ⟨b,o,cap,e1,u b O,by grind,Q,λi G=> ?_⟩;exact cw.imm (d:=i*t.size) (g:=ay w b o) J u (λk=>by simp only[ay,AX]) (K i G)
def q7p {ns:List Nat} {c:AV} {v:Value} (h:aW β who w c v) (hn: ∀n∈qc c,n∈ns):aW β (unown who ns) w (Yy c) v:=by cases c with|sl o t xs=>{cases o with|nm n=>exact cr.freeze h (hn n (by simp[qc]))|imm=>exact gE.keep (λb hb _=>⟨Yn hb,rfl⟩) (zJ _) h|nl=>exact h|inn=>exact h}|dead=>trivial|ref s n sz win=>exact h|ptr s n sz i j=>exact h|iptr g t xs i j=>exact aW.keep (β:=β) (β':=β) (av:= .iptr g t xs i j) (cR.unown (λn h=>by simp[qc]at h)) h|dp n t xs hh=>{cases hh with|none=>exact br.freeze h (hn n (by simp[qc]))|some k=>trivial}|dq n t xs hh=>{cases hh with|none=>exact bU.slI h (λb hb=>Yn hb) (λb hb=>L6 hb (hn n (by simp[qc])))|some k=>trivial}|wn n t xs=>trivial|_=>exact h
def q3w {c:AV}:qc (Yy c)=[]:=by cases c with|sl o t xs=>{cases o<;>rfl}|dp n t xs hh=>{cases hh<;>rfl}|dq n t xs hh=>{cases hh<;>rfl}|_=>rfl
def q7d {c:AV} {n:Nat} (h:n∈aL (Yy c)):n∈aL c:=by cases c with|sl o t xs=>{cases o<;>first|exact h|(simp[Yy,aL]at h)}|dp m t xs hh=>{cases hh<;>simp[Yy,aL]at h}|dq m t xs hh=>{cases hh<;>simp[Yy,aL]at h}|wn n t xs=>cases h|_=>exact h
def q96 {ns:List Nat} {av:AV} {v:Value} (h:bo β who w av v) (hn: ∀n∈ab av,n∈ns) (hb: ∀o cs,av≠ .bx o cs) (ht: ∀vs,av≠ .tup vs):
 bo β (unown who ns) w (freeze av) v:=by cases av with|tup vs=>exact absurd rfl (ht vs)|bx o cs=>exact absurd rfl (hb o cs)|agg cells=>{obtain⟨arr,e1,e2⟩:=h;refine⟨arr,e1,by simp[e2.1],λj hj=> ?_⟩;have hj':j<cells.length:=by{simpa using hj};simp only[pH];exact q7p (e2.2 j hj') (λn hm=>hn n (zN.2 ⟨_,zW hj',hm⟩))}|sl o t xs=>{cases o with|nm n=>exact cr.freeze h (hn n (by simp[ab,qi,qc]))|imm=>exact gE.keep (λb hb _=>⟨Yn hb,rfl⟩) (zJ _) h|nl=>exact h|inn=>exact h}|dead=>trivial|iptr g t xs i j=>exact aW.keep (β:=β) (β':=β) (av:= .iptr g t xs i j) (cR.unown (λn h=>by simp[qc]at h)) h|dp n t xs hh=>{cases hh with|none=>exact br.freeze h (hn n (by simp[ab,qi,qc]))|some k=>trivial}|dq n t xs hh=>{cases hh with|none=>exact bU.slI h (λb hb=>Yn hb) (λb hb=>L6 hb (hn n (by simp[ab,qi,qc])))|some k=>trivial}|wn n t xs=>trivial|_=>exact h
def Zn {av:AV} (hb: ∀o cs,av≠ .bx o cs) (ht: ∀vs,av≠ .tup vs):ab (freeze av)=[]:=by cases av with|tup vs=>exact absurd rfl (ht vs)|bx o cs=>exact absurd rfl (hb o cs)|agg cells=>{exact Qc λc hc=>by obtain⟨d,_,rfl⟩:=zk.1 hc;exact q3w}|sl o t xs=>{cases o<;>rfl}|dp n t xs hh=>{cases hh<;>rfl}|dq n t xs hh=>{cases hh<;>rfl}|_=>rfl
def TJ {av:AV} {n:Nat} (h:n∈occ (freeze av)):n∈occ av:=by cases av with|agg cells=>{simp only[freeze,occ,aZ,zN,zk]at h⊢;obtain⟨c,⟨d,hd,rfl⟩,hn⟩:=h;exact⟨d,hd,q7d hn⟩}|sl o t xs=>{cases o<;>first|exact h|(simp[freeze,occ,aZ,aL]at h)}|dp m t xs hh=>{cases hh<;>simp[freeze,occ,aZ,aL]at h}|dq m t xs hh=>{cases hh<;>simp[freeze,occ,aZ,aL]at h}|wn n t xs=>cases h|_=>exact h
end
section
variable {CO:Q8} {E:a8} {D:Nat->Prop} {β:aR} {who:bh} {U U':ao} {hd:List (AV×Value)} {a:Act} {w:World} {R W:List Nat}
def aC.freeze (S:aC E D β who U hd a w) (t:Nat) (u: ∀o cs,U.get t≠ .bx o cs) (K: ∀vs,U.get t≠ .tup vs):
 ∃who',aC E D β who' (U.set t (freeze (U.get t))) ((freeze (U.get t),a.tmps.getD t undef)::hd) a w:=by refine⟨unown who (ab (U.get t)),?_⟩;have Q:=q96 (ns:=ab (U.get t)) (S.rel t) (λn h=>h) u K;have O:=Zn u K;have S1:aC E D β (unown who (ab (U.get t))) (U.set t .dead) hd a w:=by{have G:=(S.takeAll t).drop rfl;refine G.world (λs=> ?_) (λx J=> ?_) (λb n u=>S.wsz b n (Jf u)) (zJ _) (λ_ _ _=>rfl) (λb n u=>S.fr1 b n (Jf u)) (λb u=>Me (S.fr3 b u) (λh=>S.dfn (S.occ t _ (qj h))));{refine(G.rel s).keep (cR.unown λn h h'=> ?_);by_cases e:s=t;{subst e;rw[qh]at h;simp[ab,qi,qc]at h};{rw[qg _ _ e]at h;exact e (S.dis s t n h h')}};{exact(G.hrel x J).keep (cR.unown λn h h'=>S.hdis x J n h t h')}};have S2:=S1.abs (s:=t) (v:=Vs.freeze (U.get t)) Q (λn h=>by rw[O]at h;cases h) (by grind) (λn h=>S.occ t n (TJ h));have S3:=S2.take0 Q O (λn h=>S.occ t n (TJ h));refine S3.ext λs=> ?_;by_cases e:s=t;{subst e;rw[qh,qh]};{rw[qg _ _ e,qg _ _ e,qg _ _ e]}
def aC.frzCells (S:aC E D β who U hd a w) (t:Nat) {n:Nat} {cells:List AV} (J:U.get t= .bx (.nm n) cells):
 ∃who',aC E D β who' (U.set t (.bx (.nm n) (cells.map Yy))) hd a w:=by have hr:bo β who w (.bx (.nm n) cells) (a.tmps.getD t undef):=J▸S.rel t;obtain⟨e0,b,arr,el,e1,e2,e3,e4⟩:=hr;have G:ab (U.get t)=n::cells.flatMap qc:=by{rw[J];rfl};have O:n∉cells.flatMap qc:=by{have:=S.nod t;rw[G]at this;exact(ny.1 this).1};have K:D n:=S.occ t n (by rw[J];exact mS);have a0:(cells.map λ_=>AV.dead).flatMap qc=[]:=Qc λc J=>by{obtain⟨d,_,rfl⟩:=zk.1 J;rfl};have d0:(cells.map λ_=>AV.dead).flatMap aL=[]:=Qc λc J=>by{obtain⟨d,_,rfl⟩:=zk.1 J;rfl};have c0:(cells.map Yy).flatMap qc=[]:=Qc λc J=>by{obtain⟨d,_,rfl⟩:=zk.1 J;exact q3w};have S0:=S.abs (s:=t) (v:= .bx (.nm n) (cells.map λ_=>AV.dead)) ⟨e0,b,arr,el,e1,e2,e3,by rw[e4.1,zh],λj hj=>by rw[pH];trivial⟩ (fun k Q=>by{have u:k∈n::(cells.map λ_=>AV.dead).flatMap qc:=Q;rw[a0]at u;rw[G,zC.1 u];exact mS}) (by show(n::(cells.map λ_=>AV.dead).flatMap qc).Nodup;rw[a0];simp) (fun k Q=>by{have u:k∈n::(cells.map λ_=>AV.dead).flatMap aL:=Q;rw[d0]at u;rw[zC.1 u];exact K});have b0:ab ((U.set t (.bx (.nm n) (cells.map λ_=>AV.dead))).get t)=[n]:=by{rw[qh];show n::(cells.map λ_=>AV.dead).flatMap qc=[n];rw[a0]};have S1:aC E D β (unown who (cells.flatMap qc)) (U.set t (.bx (.nm n) (cells.map λ_=>AV.dead))) hd a w:=by{refine S0.world (λs=> ?_) (λx hx=> ?_) (λb n hb=>S.wsz b n (Jf hb)) (zJ _) (λ_ _ _=>rfl) (λb n hb=>S.fr1 b n (Jf hb)) (λb hb=>Me (S.fr3 b hb) (λh=>S.dfn (S.occ t _ (qj (by rw[G];exact mT h)))));{refine(S0.rel s).keep (cR.unown λk h h'=> ?_);by_cases e:s=t;{subst e;rw[b0,zC]at h;exact O (h▸h')};{rw[qg _ _ e]at h;exact e (S.dis s t k h (by rw[G];exact mT h'))}};{exact(S0.hrel x hx).keep (cR.unown λk h h'=>S.hdis x hx k h t (by rw[G];exact mT h'))}};refine⟨_,(S1.abs (s:=t) (v:= .bx (.nm n) (cells.map Yy)) ⟨e0,b,arr,el,e1,e2,Me e3 O,by rw[e4.1,zh],λj hj=> ?_⟩ (λk Q=> ?_) ?_ (λk Q=> ?_)).ext λs=> ?_⟩;{rw[pH];rw[zh]at hj;exact q7p (e4.2 j hj) (λk hm=>zN.2 ⟨_,zW hj,hm⟩)};{have u:k∈n::(cells.map Yy).flatMap qc:=Q;rw[c0]at u;rw[b0];exact u};{show(n::(cells.map Yy).flatMap qc).Nodup;rw[c0];simp};{have u:k∈n::(cells.map Yy).flatMap aL:=Q;rcases mC u with e|e;{rw[e];exact K};{obtain⟨c,h1,h2⟩:=zN.1 e;obtain⟨d,h3,rfl⟩:=zk.1 h1;exact S.occ t k (by rw[J];exact mT (zN.2 ⟨d,h3,q7d h2⟩))}};{by_cases e:s=t;{subst e;rw[qh,qh]};{rw[qg _ _ e,qg _ _ e,qg _ _ e]}}
def q67 {p:AV} {x:Unit} (h:aw CO (vq p) U x U' R W) (S:aC E D β who U hd a w): ∃who',aC E D β who' U' hd a w:=by unfold vq at h;split at h;{rename_i s n _ _ _;obtain⟨av,J,_,_,_,_,G,h2⟩:=kA h;obtain⟨rfl,rfl⟩:=kD G;split at h2;{rename_i m cells u;split at h2;{have:=kE h2;subst this;exact S.frzCells s u};{exact(kC h2).elim}};{exact(kC h2).elim}};{exact(kC h).elim}
def aw.rdF {x:Operand} {v:AV} (h:aw CO (rdF x) U v U' R W) (S:aC E D β who U hd a w):ab v=[]/\(∀o cs,v≠ .bx o cs)/\ ∃who',aC E D β who' U' ((v,a.eval x)::hd) a w:=by cases x with|tmp t=>{obtain⟨av,U1,_,_,_,_,h1,h2⟩:=kA h;obtain⟨rfl,rfl⟩:=kD h1;split at h2;{exact(kC h2).elim};{exact(kC h2).elim};{exact(kC h2).elim};{exact(kC h2).elim};{exact(kC h2).elim};{exact(kC h2).elim};{rename_i g1 K g3 g4 g5 g6;split at h2;{obtain⟨_,U2,_,_,_,_,h3,h4⟩:=kA h2;have:=kE h3;subst this;obtain⟨rfl,rfl⟩:=kB h4;have Q: ∀o cs,U1.get t≠ .bx o cs:=λo cs e=>g3 o cs e;refine⟨Zn Q K,?_,S.freeze t Q K⟩;intro o cs e;have a0:=Q;cases G:U1.get t with|bx o' cs'=>exact Q o' cs' G|sl o' t' xs=>{rw[G]at e;cases o'<;>cases e}|agg cells=>{rw[G]at e;cases e}|dp n t xs hh=>{rw[G]at e;cases hh<;>cases e}|dq n t xs hh=>{rw[G]at e;cases hh<;>cases e}|_=>{rw[G]at e;cases e}};{rename_i J;obtain⟨rfl,rfl⟩:=kB h2;exact⟨Xc J,g3,who,S.take0 (S.rel t) (Xc J) (S.occ t)⟩}}}|const u=>{obtain⟨rfl,rfl⟩:=kB h;obtain⟨g1,K,g3⟩:=TN (β:=β) (who:=who) (w:=w) u;refine⟨K,?_,who,S.take0 g1 K (λn O=>by rw[g3]at O;cases O)⟩;intro o cs e;cases u<;>cases e}|global g=>exact(kC h).elim|func f=>{obtain⟨rfl,rfl⟩:=kB h;exact⟨rfl,(λo cs e=>by cases e),who,S.take0 (v:= .lit (.func (.func f) #[] #[])) ⟨rfl,rfl⟩ rfl (λn O=>by cases O)⟩}
def q73 {n:Nat}: ∀{cells:List AV} {k j:Nat},pq n cells k=some j->k<=j/\j-k<cells.length/\ ∃t xs,cells.getD (j-k) .dead= .sl (.nm n) t xs
 |c::cs,k,j,h=>by simp only[pq]at h;split at h;{rename_i u;cases h;refine⟨zJ _,by simp,?_⟩;unfold Om at u;split at u;{simp_all};{cases u}};{obtain⟨J,h2,t,xs,G⟩:=q73 h;grind}
def aC.takeCell (S:aC E D β who U hd a w) {s m n j:Nat} {cells:List AV} {t:Ty} {xs:List (aX t)} (hb:U.get s= .bx (.nm m) cells) (hj:j<cells.length)
 (hc:cells.getD j .dead= .sl (.nm n) t xs) {c:Value} (hv:c=β n):
 aC E D β who (U.set s (.bx (.nm m) (cells.set j .dead))) ((.sl (.nm n) t xs,c)::hd) a w:=by
 have hcj:cells[j]= .sl (.nm n) t xs:=by simpa [List.getD,hj]using hc
 have hr:=S.rel s;rw[hb]at hr;obtain⟨hβ,b,arr,el,e1,e2,e3,e4⟩:=hr
 have hset:cells.set j .dead=cells.take j++[.dead]++cells.drop (j+1):=by
  rw[MM,iP hj];simp
 have hsp:cells=cells.take j++[.sl (.nm n) t xs]++cells.drop (j+1):=by
  conv=>lhs;rw[<-List.take_append_drop j cells,EV hj,hcj]
  simp
 have hn1:ab (.bx (.nm m) cells)=m::(cells.take j).flatMap qc++n::(cells.drop (j+1)).flatMap qc:=by
  conv=>lhs;rw[hsp]
  simp[ab,qi,qc]
 have hn2:ab (.bx (.nm m) (cells.set j .dead))=m::(cells.take j).flatMap qc++(cells.drop (j+1)).flatMap qc:=by
  rw[hset];simp[ab,qi,qc]
 have hNod:=S.nod s;rw[hb,hn1]at hNod;have hcell:=e4.2 j hj;rw[hcj]at hcell
 have hsub: ∀x,x∈ab (.bx (.nm m) (cells.set j .dead))->x∈ab (.bx (.nm m) cells):=λx hx=>by
  grind
 have S1:=S.abs (s:=s) (v:= .bx (.nm m) (cells.set j .dead)) ⟨hβ,b,arr,el,e1,e2,e3,by rw[e4.1];simp,λk hk=>by
  have hk':k<cells.length:=by simpa using hk
  by_cases e:k=j
  . subst e;simp;trivial
  . rw[II O];exact e4.2 k hk'⟩
  (by rw[hb];exact hsub)
  (by
    grind)
  (by
    intro x hx;refine S.occ s x ?_;rw[hb];rw[hset]at hx;rw[hsp];simp only[Vs.occ,aZ,xa,zq,zX]at hx⊢;rcases hx with hx|(hx|hx)|hx
    . exact .inl hx
    . exact .inr (.inl (.inl hx))
    . simp[aL]at hx
    . exact .inr (.inr hx))
 have hin:n∈ab (U.get s):=by rw[hb,hn1];simp
 exact{S1 with
  hrel:=λy hy=>by
   rcases mC hy with rfl|hy
   . have:cr β who w n t xs (arr.getD j undef):=hcell;rw[hv,<-this.1];exact this
   . exact S1.hrel y hy
  hnod:=by
   simp only[fC];refine zS.2 ⟨by simp[ab,qi,qc],S.hnod,λx h1 y h2=> ?_⟩
   rintro rfl
   obtain⟨z,hz,hxz⟩:=zN.1 h2;simp[ab,qi,qc]at h1;subst h1;exact S.hdis z hz _ hxz s hin
  hdis:=λy hy=>by
   rcases mC hy with rfl|hy
   . intro x hx t' ht;simp[ab,qi,qc]at hx;subst hx;by_cases e:t'=s
     . subst e;rw[qh,hn2]at ht
       grind
     . rw[qg _ _ e]at ht;exact e (S.dis t' s _ ht hin)
   . exact S1.hdis y hy
  hocc:=λy hy=>by
   rcases mC hy with rfl|hy
   . intro x hx;simp[Vs.occ,aZ,aL]at hx;subst hx;exact S.occ s _ (qj hin)
   . exact S1.hocc y hy}
def aw.claim {x:Operand} {v:AV} (h:aw CO (claim x) U v U' R W) (S:aC E D β who U hd a w):aC E D β who U' ((v,a.eval x)::hd) a w:=by cases x with|tmp t=>{obtain⟨av,U1,_,_,_,_,h1,h2⟩:=kA h;obtain⟨b0,rfl⟩:=kF h1;split at h2;{rename_i s n sz;obtain⟨bv,U2,_,_,_,_,h3,K⟩:=kA h2;obtain⟨rfl,rfl⟩:=kD h3;have J:a.eval (.tmp t)=β n:=by{obtain⟨g1,_,_⟩:=V7 (β:=β) (who:=who) (w:=w) (show dh t (U2.get t)=some _ from b0.symm) (S.rel t);exact(show wV (β n) sz none (a.tmps.getD t undef)from g1).1};split at K;{rename_i m ty xs G;split at K;{rename_i a0;subst a0;obtain⟨_,U3,_,_,_,_,h5,h6⟩:=kA K;have:=kE h5;subst this;obtain⟨rfl,rfl⟩:=kB h6;have h7:=S.takeAll s;rw[G]at h7;have e:a.eval (.tmp t)=a.eval (.tmp s):=by{have r2:=S.rel s;rw[G]at r2;exact J.trans r2.1.symm};rw[e];exact h7};{exact(kC K).elim}};{rename_i m cells G;split at K;{rename_i j hj;obtain⟨_,Q,ty,xs,O⟩:=q73 hj;simp only[Mz]at Q O;obtain⟨_,U3,_,_,_,_,h5,h6⟩:=kA K;obtain⟨v',hk,this⟩:=kI h5;subst this;obtain⟨rfl,rfl⟩:=kB h6;rw[G]at hk;cases hk;rw[O];exact S.takeCell G Q O J};{exact(kC K).elim}};{exact(kC K).elim}};{exact(kC h2).elim}}|const u=>exact(kC h).elim|global g=>exact(kC h).elim|func f=>exact(kC h).elim
def aw.rdQ {m:Nat} {x:Operand} {v:AV} (h:aw CO (rdQ m x) U v U' R W) (S:aC E D β who U hd a w): ∃who',aC E D β who' U' ((v,a.eval x)::hd) a w:=by unfold Vs.rdQ at h;split at h;{exact(aw.rdF h S).2.2};{exact⟨who,aw.rdT h S⟩}
def aw.rdC {m:Nat} {x:Operand} {v:AV} (h:aw CO (rdC m x) U v U' R W) (S:aC E D β who U hd a w):aC E D β who U' ((v,a.eval x)::hd) a w:=by unfold Vs.rdC at h;split at h;{exact aw.claim h S};{exact aw.rdT h S}
def aw.rdm {m:Nat} {x:Operand} {v:AV} (h:aw CO (rdm m x) U v U' R W) (S:aC E D β who U hd a w): ∃who',aC E D β who' U' ((v,a.eval x)::hd) a w:=by match m with|0=>{obtain⟨rfl,g⟩:=aw.rd h S;exact⟨who,g⟩}|1=>exact⟨who,aw.rdT h S⟩|2=>exact(aw.rdF h S).2.2|3=>exact⟨who,aw.claim h S⟩|m+4=>exact(aw.rdF h S).2.2
end
def uk:ZC->Option Value
 | .int k=>some (.int k 0)
 | .bool=>some (.bool false)
 | .nil _=>some (.slice none 0 0)
 | .other=>none
def Qn:Ty->List Value
 | .int k=>[.int k 0]
 | .bool=>[.bool false]
 | .sl _ _=>[.slice none 0 0]
 | .pr a b=>Qn a++Qn b
structure EOK (P:Program) (e:Nat) (t:Ty):Prop where
 ok: ∃i z,P.info? e=some i/\i.size=t.size/\i.bytes<=4096/\i.bytes≠0/\i.zero=some z/\z.cells.toList=Qn t
def AO (P:Program) (t:Nat):Prop:= ∃d,P.underlying t=some d/\(match d with| .struct _| .array _ _=>False|_=>True)
def xz (P:Program) (t:Nat):TD->Prop
 | .int k=>P.underlying t=some (.int k)
 | .bool=>P.underlying t=some .bool
 | .slice e ty=>P.underlying t=some (.slice e)/\EOK P e ty
 | .struct fs=> ∃fields:Array Field,P.underlying t=some (.struct fields)/\fields.size=fs.length/\
    ∀j (h:j<fs.length),∃f,fields[j]? =some f/\f.offset=fs[j].1/\ ∃i,P.info? f.type=some i/\i.size=fs[j].2/\(fs[j].2=1->AO P f.type)
 | .array n _=> ∃e,P.underlying t=some (.array n e)
 | .ptr e=>P.underlying t=some (.pointer e)
 | .string=>P.underlying t=some .string
 | .tab g k xs=>(∃e i,P.underlying t=some (.array xs.length e)/\P.info? e=some i/\i.size=1)/\(g,k,xs)∈Sd P
 | .other=> ∃d,P.underlying t=some d/\(match d with| .struct _| .array _ _=>False|_=>True)
structure gC (P:Program) (t:Nat) (ti:TI):Prop where
 info: ∃i,P.info? t=some i/\i.size=ti.cells.length/\ ∀vs,(ti.cells.mapM uk)=some vs-> ∃z,i.zero=some z/\z.cells.toList=vs/\((∃arr,z= .agg arr)↔Qb ti.desc=true)
 desc:xz P t ti.desc
def bG (P:Program) (T:TT):Prop:= ∀t u,T.at t=some u->gC P t u
def gC.isAgg {P:Program} {t:Nat} {ti:TI} (h:gC P t ti) (w:World):(isAgg t).run P w= .ok (Qb ti.desc) w:=by have hd:=h.desc;unfold Go.isAgg;cases hti:ti.desc with|int k=>{rw[hti]at hd;simp only[xz]at hd;simp[run_underlying hd w,Qb]}|bool=>{rw[hti]at hd;simp only[xz]at hd;simp[run_underlying hd w,Qb]}|slice e ty=>{rw[hti]at hd;simp only[xz]at hd;simp[run_underlying hd.1 w,Qb]}|struct fs=>{rw[hti]at hd;obtain⟨f,hd,_⟩:=hd;simp[run_underlying hd w,Qb]}|array n e=>{rw[hti]at hd;obtain⟨f,hd⟩:=hd;simp[run_underlying hd w,Qb]}|ptr e=>{rw[hti]at hd;simp only[xz]at hd;simp[run_underlying hd w,Qb]}|string=>{rw[hti]at hd;simp only[xz]at hd;simp[run_underlying hd w,Qb]}|tab g k xs=>{rw[hti]at hd;obtain⟨⟨e,i,hd,_⟩,_⟩:=hd;simp[run_underlying hd w,Qb]}|other=>{rw[hti]at hd;obtain⟨d,hd,h2⟩:=hd;cases d<;>simp_all[run_underlying hd w,Qb]}
def Vz {P:Program} {t:Nat} {i:TypeInfo} (h:P.info? t=some i) (w:World):(typeInfo t).run P w= .ok i w:=by simp[typeInfo,h]
def Xy {P:Program} {t:Nat} {i:TypeInfo} (h:P.info? t=some i) (w:World):(sizeOf t).run P w= .ok i.size w:=by simp[sizeOf,Vz h]
def NN {P:Program} {t:Nat} {i:TypeInfo} {z:Value} (h:P.info? t=some i) (u:i.zero=some z) (w:World):(zeroValue t).run P w= .ok z w:=by simp[zeroValue,Vz h,u]
section
variable {P:Program} {CO:Q8} {T:TT} {β:aR} {who:bh} {U U':ao} {w:World} {R W:List Nat}
def qf2 (op:BinOp) (t:Nat) (x y:Operand) (k u:IntKind) (a b:Int) (w:World):
 (eqGuard op t x y (.int k a) (.int u b)).run P w= .ok () w:=by unfold eqGuard;cases op<;>rfl
def qdu (op:BinOp) (t:Nat) (x y:Operand) (a b:Bool) (w:World):
 (eqGuard op t x y (.bool a) (.bool b)).run P w= .ok () w:=by unfold eqGuard;cases op<;>rfl
def qc7 (w:World) (d:Nat) {t:Nat} (a b:Bool) (hu:P.underlying t=some .bool):
 (Op.equalIn (d+1) t (.bool a) (.bool b)).run P w= .ok (a==b) w:=by simp[Op.equalIn,run_underlying hu]
def qd2 {op:BinOp} {k:IntKind} {a b:Int} {v:AV} (t:Nat) (h:aw CO (Uj op k a b) U v U' R W) (hs:op≠ .shl) (u:op≠ .shr):
 U'=U/\ab v=[]/\occ v=[]/\ ∃c,(binOp op t (.int k a) (.int k b)).run P w= .ok c w/\ ∀β who w,bo β who w v c:=by
 cases op<;>first
  |exact absurd rfl hs
  |exact absurd rfl u
  |(obtain⟨rfl,rfl⟩:=kB h
    exact⟨rfl,rfl,rfl,_,by simp only[binOp,ne_eq,not_true_eq_false,if_false];rfl,λ_ _ _=>rfl⟩)
  |(obtain⟨_,K,_,_,_,_,J,h2⟩:=kA h
    obtain⟨G,rfl⟩:=kG J;obtain⟨rfl,rfl⟩:=kB h2;refine⟨rfl,rfl,rfl,_,?_,λ_ _ _=>rfl⟩
    simp only[binOp,ne_eq,not_true_eq_false,if_false,Op.intDiv,G];rfl)
  |(simp only[Uj,AF]at h
    obtain⟨rfl,rfl⟩:=kB h;refine⟨rfl,rfl,rfl,_,?_,λ_ _ _=>rfl⟩
    simp only[binOp,ne_eq,not_true_eq_false,if_false,Op.intBits];rfl)
def qn1 (hT:bG P T) {op:BinOp} {t:Nat} {x y v:AV} {Q K:Value} {ox oy:Operand} (h:aw CO (AG T op t x y) U v U' R W)
 (hx:bo β who w x Q) (hy:bo β who w y K):
 U'=U/\ab v=[]/\occ v=[]/\ ∃c,(do eqGuard op t ox oy Q K;binOp op t Q K:Sem Value).run P w= .ok c w/\bo β who w v c:=by
 unfold AG at h;split at h
 . rename_i k a k' b;have G:Q= .int k a:=hx;have u:K= .int k' b:=hy;subst G;subst u;simp only[Sem.run_bind,qf2,Result.andThen_ok];split at h
   . obtain⟨_,U1,_,_,_,_,h1,h2⟩:=kA h;obtain⟨hb,rfl⟩:=kG h1;obtain⟨rfl,rfl⟩:=kB h2;have J: ¬b<0:=O;exact⟨rfl,rfl,rfl,_,by simp only[binOp,Op.shift,J,if_false];rfl,rfl⟩
   . obtain⟨_,U1,_,_,_,_,h1,h2⟩:=kA h;obtain⟨hb,rfl⟩:=kG h1;obtain⟨rfl,rfl⟩:=kB h2;have J: ¬b<0:=O;exact⟨rfl,rfl,rfl,_,by simp only[binOp,Op.shift,J,if_false];rfl,rfl⟩
   . split at h
     . rename_i g1 g2 hk;subst hk;obtain⟨e1,e2,e3,c,e4,e5⟩:=qd2 (P:=P) (w:=w) t h g1 g2
       grind
     . exact(kC h).elim
 . rename_i a b;have G:Q= .bool a:=hx;have u:K= .bool b:=hy;subst G;subst u;simp only[Sem.run_bind,qdu,Result.andThen_ok];split at h
   . rename_i cells ht;have hu:P.underlying t=some .bool:=(hT t _ ht).desc
     have he:(Op.equal t (.bool a) (.bool b)).run P w= .ok (a==b) w:=by
      exact qc7 (P:=P) w 9999 a b hu
     split at h
     . obtain⟨rfl,rfl⟩:=kB h;exact⟨rfl,rfl,rfl,_,by simp[binOp,he],rfl⟩
     . obtain⟨rfl,rfl⟩:=kB h;exact⟨rfl,rfl,rfl,_,by simp[binOp,he],rfl⟩
     . exact(kC h).elim
   . exact(kC h).elim
 . exact(kC h).elim
def qpc {op:UnOp} {x v:AV} {G:Value} (h:aw CO (IQ op x) U v U' R W) (J:bo β who w x G):
 U'=U/\ab v=[]/\occ v=[]/\ ∃c,(Op.unary op G).run P w= .ok c w/\bo β who w v c:=by unfold IQ at h;split at h;{obtain⟨rfl,rfl⟩:=kB h;have u:G= .int _ _:=J;subst u;exact⟨rfl,rfl,rfl,_,by simp only[Op.unary,Op.intArith];rfl,rfl⟩};{obtain⟨rfl,rfl⟩:=kB h;have u:G= .int _ _:=J;subst u;exact⟨rfl,rfl,rfl,_,by simp only[Op.unary,Op.intBits];rfl,rfl⟩};{obtain⟨rfl,rfl⟩:=kB h;have u:G= .bool _:=J;subst u;exact⟨rfl,rfl,rfl,_,by simp only[Op.unary];rfl,rfl⟩};{exact(kC h).elim}
def qkb {t:Nat} {ti:TI} (h:gC P t ti): ∃d,P.underlying t=some d:=by have hd:=h.desc;cases hti:ti.desc with|int k=>{rw[hti]at hd;exact⟨_,hd⟩}|bool=>{rw[hti]at hd;exact⟨_,hd⟩}|slice e ty=>{rw[hti]at hd;exact⟨_,hd.1⟩}|struct fs=>{rw[hti]at hd;obtain⟨f,hd,_⟩:=hd;exact⟨_,hd⟩}|array n e=>{rw[hti]at hd;obtain⟨f,hd⟩:=hd;exact⟨_,hd⟩}|ptr e=>{rw[hti]at hd;exact⟨_,hd⟩}|string=>{rw[hti]at hd;exact⟨_,hd⟩}|tab g k xs=>{rw[hti]at hd;obtain⟨⟨e,i,hd,_⟩,_⟩:=hd;exact⟨_,hd⟩}|other=>{rw[hti]at hd;obtain⟨d,hd,_⟩:=hd;exact⟨_,hd⟩}
def qkd (hT:bG P T) {s d:Nat} {x v:AV} {cx:Value} (h:aw CO (Uh T s d x) U v U' R W) (hx:bo β who w x cx):
 U'=U/\ab v=[]/\occ v=[]/\ ∃c,(convert s d cx).run P w= .ok c w/\bo β who w v c:=by unfold Uh at h;split at h;{rename_i ti k cells k' n h1 h2;obtain⟨rfl,rfl⟩:=kB h;have hx':cx= .int k' n:=hx;subst hx';have hu:P.underlying d=some (.int k):=(hT d _ h2).desc;obtain⟨u,hs⟩:=qkb (hT s _ h1);exact⟨rfl,rfl,rfl,.int k (k.wrap n),by simp[convert,run_underlying hu,run_underlying hs,Conv.intToInt],rfl⟩};{exact(kC h).elim}
end
def bH (b o n:Nat):(⟨b,o,none⟩:Addr).add n=⟨b,o+n,none⟩:=by unfold Addr.add;split<;>simp_all
def nT (who:bh) (w:World) (t:Ty) (xs:List (aX t)) (v:Value):Prop:=
 (v= .slice none 0 0/\xs=[])\/
 ∃b o cap,v= .slice (some ⟨b,o,none⟩) xs.length cap/\b<w.heap.size/\xs.length<=cap/\aT who w t xs b o
section
variable {P:Program} {CO:Q8} {T:TT} {β:aR} {who:bh} {U U':ao} {w:World} {R W:List Nat}
def Zc {b:Nat} {o:Obj} (h:w.heap[b]? =some o):b<w.heap.size:=by grind
def cr.sls {n:Nat} {t:Ty} {xs:List (aX t)} {v:Value} (h:cr β who w n t xs v):nT who w t xs v:=by obtain⟨_,h⟩:=h;rcases h with h|⟨b,o,cap,arr,el,K,J,Q,G,O,u⟩;{exact .inl h};{exact .inr ⟨b,o,cap,K,Zc J,G,u⟩}
def gE.sls {t:Ty} {xs:List (aX t)} {v:Value} (h:gE who w t xs v):nT who w t xs v:=by rcases h with h|⟨b,o,cap,K,O,J,G,u⟩;{exact .inl h};{exact .inr ⟨b,o,cap,K,J,G,u⟩}
def nT.window {t:Ty} {xs:List (aX t)} {base v:Value} {win:Option (Nat×Nat)} (h:nT who w t xs base) (hv:wV base t.size win v):
 nT who w t (window xs win) v/\(∀o l,win=some (o,l)->o+l<=xs.length/\(Vs.window xs win).length=l):=by cases win with|none=>{obtain⟨hv,_⟩:=hv;subst hv;exact⟨h,λo l e=>by cases e⟩}|some ol=>{obtain⟨off,len⟩:=ol;obtain⟨a,L,cap,a',e1,e2,e3,e4,e5⟩:=hv;subst e3;rcases h with⟨h,hx⟩|⟨b,o,cap',h1,h2,h3,h4⟩;{rw[h]at e1;injection e1 with g1 g2 g3;subst g1 g2 g3;have h0:off=0:=O;have h1:len=0:=O;subst h0 h1 hx;refine⟨.inl ⟨?_,by simp[Vs.window]⟩,λo l e=>by injection e with e;injection e with e' e'';subst e' e'';simp[Vs.window]⟩;cases a' with|none=>rfl|some x=>simp at e5};{rw[h1]at e1;injection e1 with g1 g2 g3;subst g1 g2 g3;have hl:(Vs.window xs (some (off,len))).length=len:=by{simp[Vs.window];omega};have key: ∃o',a'=some ⟨b,o',none⟩/\(len≠0->o'=o+off*t.size):=by{by_cases h0:len=0;{cases a' with|none=>simp at e5|some x=>{obtain⟨xb,xo,xs'⟩:=x;grind}};{have:=e4 O;simp only[xi,bH]at this;grind}};obtain⟨o',ha',ho'⟩:=key;subst ha';refine⟨.inr ⟨b,o',cap'-off,by rw[hl],h2,by rw[hl];omega,?_⟩,λo l e=>by grind⟩;intro i hi;rw[hl]at hi;have hne:len≠0:=O;have hx:(Vs.window xs (some (off,len)))[i]'(by rw[hl];exact hi)=xs[off+i]'(O):=by{simp[Vs.window]};rw[hx];have:=h4 (off+i) O;rw[ho' hne];have hadr:o+off*t.size+i*t.size=o+(off+i)*t.size:=by{rw[fT];omega};rw[hadr];exact this}}
def V9 {n:Nat} {c:AV} {v:Value} {t:Ty} {xs:List (aX t)} (h:aW β who w c v) (hf:fG n c=some ⟨t,xs⟩):cr β who w n t xs (β n)/\n∈qc c:=by cases c with|sl o t' xs'=>{cases o with|nm m=>{simp only[fG]at hf;split at hf;{rename_i e;subst e;injection hf with hf;cases hf;obtain⟨h1,h2⟩:=h;exact⟨⟨rfl,by rw[<-h1];exact h2⟩,by simp[qc]⟩};{cases hf}}|_=>cases hf}|wn m t' xs'=>{simp only[fG]at hf;split at hf;{rename_i e;subst e;injection hf with hf;cases hf;obtain⟨h1,h2⟩:=h.1;exact⟨⟨rfl,by rw[<-h1];exact h2⟩,by simp[qc]⟩};{cases hf}}|_=>cases hf
def qbx {n:Nat} {cells:List AV} {arr:Array Value} {t:Ty} {xs:List (aX t)} (h: ∀j (h:j<cells.length),aW β who w cells[j] (arr.getD j undef))
 (u:kY n cells=some ⟨t,xs⟩):cr β who w n t xs (β n)/\n∈cells.flatMap qc:=by have: ∀(cells:List AV),(∀c∈cells,∃v,aW β who w c v)->kY n cells=some ⟨t,xs⟩->cr β who w n t xs (β n)/\n∈cells.flatMap qc:=by{intro cells;induction cells with|nil=>{intro _ h;cases h}|cons c cs ih=>{intro h u;simp only[kY]at u;split at u;{rename_i x G;injection u with u;subst u;obtain⟨v,J⟩:=h c (by simp);obtain⟨g1,Q⟩:=V9 J G;exact⟨g1,by simp[Q]⟩};grind}};refine this cells (λc O=> ?_) u;obtain⟨j,K,rfl⟩:=nz O;exact⟨_,h j K⟩
def Wf {n:Nat} {av:AV} {v:Value} {t:Ty} {xs:List (aX t)} (h:bo β who w av v) (hf:iv n av=some ⟨t,xs⟩):cr β who w n t xs (β n)/\n∈ab av:=by cases av with|bx o cells=>{cases o with|nm m=>{obtain⟨_,b,arr,el,_,_,_,e4⟩:=h;obtain⟨g1,g2⟩:=qbx e4.2 hf;exact⟨g1,by simp only[ab,qi];grind⟩}|_=>exact h.elim}|agg cells=>{obtain⟨arr,_,e4⟩:=h;exact qbx e4.2 hf}|tup vs=>simp[iv,fG]at hf|sl o t' xs'=>exact V9 (c:= .sl o t' xs') h hf|wn m t' xs'=>exact V9 (c:= .wn m t' xs') h hf|_=>simp[iv,fG]at hf
end
section
variable {P:Program} {CO:Q8} {T:TT} {E:a8} {D:Nat->Prop} {β:aR} {who:bh} {U U':ao} {hd:List (AV×Value)} {a:Act} {w:World} {R W:List Nat}
def aw.nodeOf {s n sz:Nat} {x:Sigma λt:Ty=>List (aX t)} (h:aw CO (nodeOf s n sz) U x U' R W) (S:aC E D β who U hd a w):
 U'=U/\sz=x.1.size/\cr β who w n x.1 x.2 (β n)/\n∈ab (U.get s):=by obtain⟨av,Q,_,_,_,_,J,h2⟩:=kA h;obtain⟨rfl,rfl⟩:=kD J;split at h2;{rename_i t xs G;split at h2;{rename_i u;obtain⟨rfl,rfl⟩:=kB h2;obtain⟨O,K⟩:=Wf (S.rel s) G;grind};{exact(kC h2).elim}};{exact(kC h2).elim}
def aw.shown {x:AV} {c:Value} {y:Sigma λt:Ty=>List (aX t)} (h:aw CO (shown x) U y U' R W) (S:aC E D β who U hd a w) (hx:bo β who w x c):
 U'=U/\nT who w y.1 y.2 c:=by unfold Vs.shown at h;split at h;{obtain⟨rfl,rfl⟩:=kB h;exact⟨rfl,gE.sls hx⟩};{obtain⟨rfl,rfl⟩:=kB h;exact⟨rfl,.inl hx⟩};{obtain⟨rfl,rfl⟩:=kB h;exact⟨rfl,cr.sls hx⟩};{obtain⟨y,U1,_,_,_,_,h1,h2⟩:=kA h;obtain⟨rfl,hsz,g1,g2⟩:=aw.nodeOf h1 S;obtain⟨rfl,rfl⟩:=kB h2;subst hsz;exact⟨rfl,(nT.window g1.sls hx).1⟩};{exact(kC h).elim}
def nT.shape {t:Ty} {xs:List (aX t)} {v:Value} (h:nT who w t xs v): ∃ad cap,v= .slice ad xs.length cap:=by rcases h with⟨h,u⟩|⟨b,o,cap,h,_⟩;{grind};{exact⟨_,_,h⟩}
def qm8 (O:bG P T) {t:Nat} {u:Array TypeId} {rt:TypeId} {x v:AV} {c:Value} (h:aw CO (xP T t x) U v U' R W) (K:u[0]? =some t) (S:aC E D β who U hd a w) (J:bo β who w x c):
 U'=U/\ab v=[]/\occ v=[]/\ ∃r,(Builtin.len_ u rt #[c]).run P w= .ok r w/\bo β who w v r:=by unfold xP at h;split at h;{rename_i e ty cells G;obtain⟨y,U1,_,_,_,_,Q,h2⟩:=kA h;obtain⟨rfl,hs⟩:=aw.shown Q S J;obtain⟨rfl,rfl⟩:=kB h2;have hu:=(O t _ G).desc.1;obtain⟨ad,cap,rfl⟩:=hs.shape;exact⟨rfl,rfl,rfl,.int .i64 y.2.length,by simp[Builtin.len_,K,run_underlying hu,goInt],rfl⟩};{exact(kC h).elim}
def q8h {x v:AV} {c:Value} {op:Operand} {o:Oper} (h:aw CO (Wv x) U v U' R W) (G:o.op= .nilCheck op) (J:a.eval op=c) (u:bo β who w x c):
 U'=U/\v=x/\(execOp a.eval o).run P w= .ok (.value c) w:=by unfold Wv at h;split at h;{obtain⟨rfl,rfl⟩:=kB h;refine⟨rfl,rfl,?_⟩;rcases u with⟨b,K,L,cap,_,_,e⟩|⟨b,_,_,e⟩<;>(unfold execOp;simp only[G,J,e];rfl)};{rename_i g _ _ _ _;obtain⟨rfl,rfl⟩:=kB h;refine⟨rfl,rfl,?_⟩;obtain⟨b,K,e,_⟩:=u;cases g<;>(unfold execOp;simp only[G,J,e];rfl)};{obtain⟨rfl,rfl⟩:=kB h;have e:c=_:=u.1;refine⟨rfl,rfl,?_⟩;unfold execOp;simp only[G,J,e];rfl};{exact(kC h).elim}
def qg2 {t:Ty} {xs:List (aX t)} {base c:Value} {u:Option (Nat×Nat)} {l h:Nat} (hs:nT who w t xs base) (K:wV base t.size u c) (hl:l<=h) (hh:h<=(window xs u).length):
 ∃ad cap,c= .slice ad (window xs u).length cap/\(window xs u).length<=cap/\
  wV base t.size (some (Jq u+l,h-l)) (.slice (if cap=l then ad else ad.map (·.add (l*t.size))) (h-l) (cap-l)):=by obtain⟨hw,hlen⟩:=nT.window hs K;cases u with|none=>{obtain⟨K,_⟩:=K;subst K;rcases hs with⟨e,hx⟩|⟨b,o,cap,e,e1,e2,e3⟩;{subst hx;have h0:h=0:=by{simpa [window]using hh};have l0:l=0:=O;subst h0 l0;exact⟨none,0,by rw[e];rfl,by simp[window],none,0,0,none,e,by simp[Jq],by simp,by simp,by simp⟩};{refine⟨_,cap,e,e2,some ⟨b,o,none⟩,xs.length,cap,(if cap=l then some ⟨b,o,none⟩else(some ⟨b,o,none⟩:Option Addr).map (·.add (l*t.size))),e,by simp only[window,Jq]at hh⊢;omega,?_,?_,?_⟩;{simp only[Jq,zH]};{intro G;simp only[Jq,zH]at G;rw[af O,Jq,zH]};{have c0:l*t.size<=cap*t.size:=zO _ (by simp only[window]at hh;omega);split<;>simp[bH,c0]}}}|some ol=>{obtain⟨off,len⟩:=ol;obtain⟨h1,h2⟩:=hlen off len rfl;rw[h2]at hh⊢;obtain⟨ad,L,cap,J,e1,e2,e3,e4,e5⟩:=K;have Q:len<=cap-off:=by{have:=hw;rw[e3]at this;rcases this with⟨e,hx⟩|⟨b,o,a0,e,_,g,_⟩;{grind};{grind}};refine⟨J,cap-off,e3,Q,ad,L,cap,(if cap-off=l then J else J.map (·.add (l*t.size))),e1,by simp only[Jq];omega,by simp only[Nat.sub_sub,Jq],?_,?_⟩;{intro G;simp only[Jq]at G;rw[af O,e4 O,Option.map_map];congr 1;funext x;simp only[Function.comp,Addr.add];have: ∀(x:Addr),(x.add (off*t.size)).add (l*t.size)=x.add ((off+l)*t.size):=by{intro x;unfold Addr.add;rw[fT];by_cases h1:off*t.size=0<;>by_cases h2:l*t.size=0;{simp[h1,h2]};{simp[h1,h2]};{simp[h1,h2]};{grind}};exact this x};{have d0: ∀x y:Option Addr,x.map (λz=>(z.block,z.spot))=y.map (λz=>(z.block,z.spot))->True:=λ_ _ _=>trivial;obtain⟨e5,e6⟩:=e5;rcases hs with⟨e,hx⟩|⟨b,o,a0,e,_⟩;{grind};{rw[e]at e1;injection e1 with g1 _ _;subst g1;cases J with|none=>simp at e5|some z=>{obtain⟨o',q1,q2⟩:=e6 b o rfl;injection q1 with q1;subst q1;split;{simp;exact q2};{rename_i G;have b0:off<cap:=O;have q3:=e4 b0;simp[bH]at q3;have hm:(off+l)*t.size<=cap*t.size:=zO _ O;rw[fT]at hm;simp[bH];omega}}}}}
end
def Na (β:aR) (who:bh) (w:World):Option AV->Option Value->Prop
 |none,none=>True
 |some v,some u=>bo β who w v u
 |_,_=>False
def Bu (lo:Option Int):Option Value:=lo.map (Value.int .i64)
section
variable {P:Program} {CO:Q8} {T:TT} {E:a8} {D:Nat->Prop} {β:aR} {who:bh} {U U':ao} {hd:List (AV×Value)} {a:Act} {w:World} {R W:List Nat}
def q8b (len cap:Nat) (lo u:Option Int) (K:0<=lo.getD 0) (J:lo.getD 0<=u.getD len) (h2:u.getD len<=len) (Q:len<=cap) (w:World):
 (Instr.sliceBounds true len cap (Bu lo) (Bu u) none).run P w= .ok ((lo.getD 0).toNat,(u.getD (len:Int)).toNat,cap) w:=by have G: ∀(n:Int) (y:Nat) (c:BoundsCode),0<=n->n<=y->(Instr.sliceBound (.int .i64 n) y c).run P w= .ok n.toNat w:=by{intro n y c J h2;unfold Instr.sliceBound;simp[asIntOf,J,h2]};unfold Instr.sliceBounds;cases lo with|none=>{cases u with|none=>simp[Bu]|some h=>{simp only[xj,MH]at*;simp[Bu,G h cap .sliceAcap J O]}}|some l=>{cases u with|none=>{simp only[xj,MH]at*;simp[Bu,G l len .sliceB K O]}|some h=>{simp only[xj]at*;simp[Bu,G h cap .sliceAcap O O,G l h.toNat .sliceB K O]}}
def q9q {α:Type} (xs:List α) (lo u:Option Int) (J:0<=lo.getD 0) (G:lo.getD 0<=u.getD xs.length) (h2:u.getD xs.length<=xs.length):
 SI xs lo u=(xs.drop (lo.getD 0).toNat).take ((u.getD (xs.length:Int)).toNat-(lo.getD 0).toNat):=by unfold SI;cases lo with|none=>{cases u with|none=>simp|some h=>simp}|some l=>{cases u with|none=>{simp only[xj,MH]at*;rw[uo (by simp)]}|some h=>rfl}
def N4 {e:Nat} {i:TypeInfo} {t:Nat} (hu:P.underlying t=some (.slice e)) (G:P.info? e=some i) (ad:Option Addr) (len cap:Nat) (lo u:Option Int)
 (O:0<=lo.getD 0) (K:lo.getD 0<=u.getD len) (h2:u.getD len<=len) (J:len<=cap) (w:World):
 (Instr.sliceAt t (.slice ad len cap) (Bu lo) (Bu u) none).run P w=
   .ok (.slice (if cap=(lo.getD 0).toNat then ad else ad.map (·.add ((lo.getD 0).toNat*i.size))) ((u.getD (len:Int)).toNat-(lo.getD 0).toNat) (cap-(lo.getD 0).toNat)) w:=by simp[Instr.sliceAt,Instr.slice,run_underlying hu,q8b len cap lo u O K h2 J,Xy G]
def qel {x:Option AV} {lo:Option Int} {c:Option Value} (h:s5 x=some lo) (G:Na β who w x c):c=Bu lo:=by
 cases x with
 |none=>cases h;cases c with
  |none=>rfl
  |some u=>exact G.elim
 |some v=>
  cases c with
  |none=>exact G.elim
  |some u=>
   cases v with
   |int k n=>cases k<;>first|(cases h;have:u=_:=G;subst this;rfl)|cases h
   |_=>cases h
def qnb {t:Ty} {xs:List (aX t)} {v:Value} {n:Nat} (h:cr β who w n t xs v):
 (v= .slice none 0 0/\xs=[])\/ ∃b o cap arr el,v= .slice (some ⟨b,o,none⟩) xs.length cap/\w.heap[b]? =some (.cells arr el (0,0))/\o+cap*t.size<=arr.size/\
 xs.length<=cap/\who b=some n/\aT who w t xs b o:=h.2
def aC.rename1 {n m:Nat} {t:Ty} {xs ys:List (aX t)} {c c':Value} {D':Nat->Prop} (S:aC E D β who U ((.sl (.nm n) t xs,c)::hd) a w)
 (hm: ¬D m) (hD: ∀x,D x->D' x) (hDm:D' m) (hDF: ¬D' FN)
 (hr: ∀β' who',β' m=c'->(∀b,who b=some n->who' b=some m)->(∀b,who b=none->who' b=none)->cr β' who' w m t ys c'):
 ∃β' who',aC E D' β' who' U ((.sl (.nm m) t ys,c')::hd) a w:=by
 let β':aR:=λx=>if x=m then c' else β x
 let who':bh:=λb=>if who b=some n then some m else who b
 have hnin: ∀s,n∉ab (U.get s):=λs=>S.hdis _ mS n (by simp[ab,qi,qc]) s
 have hnhd: ∀x∈hd,n∉ab x.1:=by
  intro x hx hn;have:=S.hnod;simp only[fC,ab,qi,qc,xc,ny]at this;exact this.1 (zN.2 ⟨x,hx,hn⟩)
 have hb: ∀x,D x->β' x=β x:=λx hx=>by grind
 have k: ∀av,(∀x∈Vs.occ av,D x)->n∉ab av->cR β who w β' who' w (ab av) (Vs.occ av):=λav ho hn=>
  ⟨λx hx=>hb x (ho x hx),λx hx b hw=>⟨by grind,rfl⟩,
   λb hb' _=>⟨by simp[who',hb'],rfl⟩,zJ _⟩
 have hws: ∀b x,who' b=some x-> ∃y,who b=some y:=λb x h=>by
  grind
 have hnew:bo β' who' w (.sl (.nm m) t ys) c':=hr β' who' (by simp[β']) (λb h=>by simp[who',h]) (λb h=>by simp[who',h])
 refine⟨β',who',?_⟩
 have S0:=(S.drop rfl).world (h98:=hb 98 S.d98) (β':=β') (who':=who') (w':=w) (λs=>(S.rel s).keep (k _ (S.occ s) (hnin s)))
  (λx hx=>(S.hrel x (mT hx)).keep (k _ (S.hocc x (mT hx)) (hnhd x hx)))
  (λb x h=>by obtain⟨y,hy⟩:=hws b x h;exact S.wsz b y hy) (zJ _) (λ_ _ _=>rfl) (λb x h=>by obtain⟨y,hy⟩:=hws b x h;exact S.fr1 b y hy)
  (fun b hb=>by
    have h:=S.fr3 b hb;simp only[who'];rw[af]
    . exact h
    . rw[h];intro e;injection e with e
      exact S.dfn (S.hocc _ mS FN (by rw[e];simp[Vs.occ,aZ,aL])))
 have S1:=S0.mono hD hDF
 exact{S1 with
  hrel:=λy hy=>by rcases mC hy with rfl|hy;exact hnew;exact S1.hrel y hy
  hnod:=by
   simp only[fC,ab,qi,qc,xc,ny];refine⟨λh=> ?_,S0.hnod⟩
   obtain⟨x,hx,hn⟩:=zN.1 h;exact hm (S.hocc x (mT hx) m (qj hn))
  hdis:=λy hy=>by
   rcases mC hy with rfl|hy
   . intro x hx s hs;simp only[ab,qi,qc,zC]at hx;subst hx;exact hm (S.occ s x (qj hs))
   . exact S1.hdis y hy
  hocc:=λy hy=>by
   rcases mC hy with rfl|hy
   . intro x hx;simp only[Vs.occ,aZ,aL,zC]at hx;subst hx;exact hDm
   . exact S1.hocc y hy}
def aT.window {t:Ty} {xs:List (aX t)} {b o:Nat} (h:aT who w t xs b o) (off len:Nat) (K:off+len<=xs.length):
 aT who w t ((xs.drop off).take len) b (o+off*t.size):=by intro i J;have G:i<len:=by{simp at J;omega};have u:((xs.drop off).take len)[i]=xs[off+i]'(O):=by{simp};rw[u];have:=h (off+i) O;grind
def qfw (hT:bG P T) {idx t:Nat} {x v:AV} {lo u:Option AV} {c:Value} {cl ch:Option Value} {D':Nat->Prop} (h:aw CO (U7 T idx t x lo u) U v U' R W)
 (S:aC E D β who U ((x,c)::hd) a w)
 (hl:Na β who w lo cl)
 (hh:Na β who w u ch)
 (hf: ¬D (fresh idx 15)) (hD: ∀x,D x->D' x) (c0:D' (fresh idx 15)) (a0: ¬D' FN):
 ∃r β' who',(Instr.sliceAt t c cl ch none).run P w= .ok r w/\aC E D' β' who' U' ((v,r)::hd) a w:=by have hx:=S.hrel _ mS;unfold U7 at h;split at h;{rename_i e x0 cells lo u r0 g1 g2;have u0:=qel g1 hl;have v0:=qel g2 hh;subst u0;subst v0;obtain⟨hu,⟨ei,ez,he,b0,_⟩⟩:=(hT t _ r0).desc;split at h;{rename_i G xs;split at h;{rename_i J;obtain⟨_,U1,_,_,_,_,h1,h2⟩:=kA h;obtain⟨⟨m0,Q,K⟩,rfl⟩:=kG h1;obtain⟨rfl,rfl⟩:=kB h2;have h0:gE who w G xs c:=hx;have w0:=gE.sls h0;rw[q9q xs lo u m0 Q K];rcases h0 with⟨rfl,rfl⟩|⟨b,o,cap,rfl,q1,q2,q3,q4⟩;{have e0:((([]:List (aX G)).length:Nat):Int)=0:=rfl;rw[e0]at Q K;have j0:lo.getD 0=0:=O;have k0:u.getD 0=0:=O;refine⟨_,β,who,N4 hu he none 0 0 lo u m0 (by simpa using Q) (by simpa using K) (zJ _) w,?_⟩;refine aC.mono ((S.drop rfl).take0 ?_ rfl (λn hn=>by cases hn)) hD a0;grind};{refine⟨_,β,who,N4 hu he (some ⟨b,o,none⟩) xs.length cap lo u m0 Q K q3 w,?_⟩;refine aC.mono ((S.drop rfl).take0 ?_ rfl (λn hn=>by cases hn)) hD a0;have hlen:((xs.drop (lo.getD 0).toNat).take ((u.getD (xs.length:Int)).toNat-(lo.getD 0).toNat)).length=(u.getD (xs.length:Int)).toNat-(lo.getD 0).toNat:=by{simp;omega};by_cases hc:cap=(lo.getD 0).toNat;{rw[iP hc];refine .inr ⟨b,o,cap-(lo.getD 0).toNat,by rw[hlen],q1,q2,by rw[hlen];omega,?_⟩;intro i d0;rw[hlen]at d0;omega};{rw[af hc];refine .inr ⟨b,o+(lo.getD 0).toNat*ei.size,cap-(lo.getD 0).toNat,by rw[hlen];simp[bH],q1,q2,by rw[hlen];omega,?_⟩;rw[b0,J];exact q4.window _ _ O}}};{exact(kC h).elim}};{rename_i n G xs;split at h;{rename_i J;obtain⟨_,U1,_,_,_,_,h1,h2⟩:=kA h;obtain⟨⟨m0,Q,K⟩,rfl⟩:=kG h1;obtain⟨rfl,rfl⟩:=kB h2;rw[q9q xs lo u m0 Q K];rcases(qnb hx)with⟨rfl,rfl⟩|⟨b,o,cap,arr,el,rfl,q0,q1,q2,q3,q4⟩;{have e0:((([]:List (aX G)).length:Nat):Int)=0:=rfl;rw[e0]at Q K;have j0:lo.getD 0=0:=O;have k0:u.getD 0=0:=O;have:u.getD ((0:Nat):Int)=0:=by{simpa using k0};obtain⟨β',who',S'⟩:=aC.rename1 (m:=fresh idx 15) (ys:=[]) (c':= .slice none 0 0) S hf hD c0 a0 (λβ' who' e _ _=>⟨e.symm,.inl ⟨rfl,rfl⟩⟩);refine⟨_,β',who',N4 hu he none 0 0 lo u m0 (by simpa using Q) (by simpa using K) (zJ _) w,?_⟩;rw[j0,this];simpa using S'};{have hlen:((xs.drop (lo.getD 0).toNat).take ((u.getD (xs.length:Int)).toNat-(lo.getD 0).toNat)).length=(u.getD (xs.length:Int)).toNat-(lo.getD 0).toNat:=by{simp;omega};obtain⟨β',who',S'⟩:=aC.rename1 (m:=fresh idx 15) (ys:=(xs.drop (lo.getD 0).toNat).take ((u.getD (xs.length:Int)).toNat-(lo.getD 0).toNat)) (c':= .slice (if cap=(lo.getD 0).toNat then some ⟨b,o,none⟩else(some ⟨b,o,none⟩:Option Addr).map (·.add ((lo.getD 0).toNat*ei.size))) ((u.getD (xs.length:Int)).toNat-(lo.getD 0).toNat) (cap-(lo.getD 0).toNat)) S hf hD c0 a0 (fun β' who' e g1 g2=>by{refine⟨e.symm,.inr ?_⟩;by_cases hc:cap=(lo.getD 0).toNat;{rw[iP hc];refine⟨b,o,cap-(lo.getD 0).toNat,arr,el,by rw[hlen],q0,by grind,by rw[hlen];omega,g1 b q3,?_⟩;intro i d0;rw[hlen]at d0;omega};{rw[af hc];refine⟨b,o+(lo.getD 0).toNat*ei.size,cap-(lo.getD 0).toNat,arr,el,by rw[hlen];simp[bH],q0,?_,by rw[hlen];omega,g1 b q3,?_⟩;{rw[b0,J,Nat.sub_mul];have:(lo.getD 0).toNat*G.size<=cap*G.size:=zO _ O;omega};{rw[b0,J];exact aT.keep (λb hb _=>⟨g2 b hb,rfl⟩) (zJ _) rfl (q4.window _ _ O)}}});exact⟨_,β',who',N4 hu he (some ⟨b,o,none⟩) xs.length cap lo u m0 Q K q2 w,S'⟩}};{exact(kC h).elim}};{rename_i s n sz g0;split at h;{rename_i J;obtain⟨y,U1,_,_,_,_,h1,h2⟩:=kA h;obtain⟨rfl,i0,g1,g2⟩:=aw.nodeOf h1 S;obtain⟨_,U2,_,_,_,_,h3,h4⟩:=kA h2;obtain⟨⟨m0,Q,K⟩,rfl⟩:=kG h3;obtain⟨rfl,rfl⟩:=kB h4;subst i0;obtain⟨ad,cap,rfl,l0,s0⟩:=qg2 (l:=(lo.getD 0).toNat) (h:=(u.getD ((window y.2 g0).length:Int)).toNat) g1.sls hx O O;refine⟨_,β,who,N4 hu he ad (window y.2 g0).length cap lo u m0 Q K l0 w,?_⟩;refine aC.mono ((S.drop rfl).take0 ?_ rfl ?_) hD a0;{rw[b0,J];exact s0};{intro n' t0;exact S.hocc _ mS n' t0}};{exact(kC h).elim}};{exact(kC h).elim}};{exact(kC h).elim}
end
section
variable {P:Program} {CO:Q8} {T:TT} {E:a8} {D:Nat->Prop} {β:aR} {who:bh} {U U':ao} {hd:List (AV×Value)} {a:Act} {w:World} {R W:List Nat}
def cA {e t:Nat} {i:TypeInfo} (hu:P.underlying t=some (.slice e)) (u:P.info? e=some i) (b o len cap:Nat) (k:IntKind) (n:Int) (J:0<=n) (G:n<len) (w:World):
 (Instr.indexAt t (.slice (some ⟨b,o,none⟩) len cap) (.int k n)).run P w= .ok (.pointer (some ⟨b,o+n.toNat*i.size,none⟩)) w:=by simp[Instr.indexAt,asIntOf,run_underlying hu,J,G,Xy u,bH]
def qfe (hT:bG P T) {t:Nat} {x i v:AV} {c ci:Value} (h:aw CO (Vh T t x i) U v U' R W)
 (Q:bo β who w x c) (hi:bo β who w i ci):
 U'=U/\ab v=[]/\occ v=[]/\ ∃r,(Instr.index t c ci).run P w= .ok r w/\bo β who w v r:=by unfold Vh at h;split at h;{rename_i cells s k i' G;have J:ci= .int k i':=hi;subst J;have hc:c= .string s:=Q.1;subst hc;have hu:P.underlying t=some .string:=(hT t _ G).desc;obtain⟨_,U1,_,_,_,_,h1,h2⟩:=kA h;obtain⟨⟨K,m1⟩,rfl⟩:=kG h1;obtain⟨rfl,rfl⟩:=kB h2;refine⟨rfl,rfl,rfl,.int .u8 ((fx s).getD i'.toNat 0),?_,rfl⟩;have hlen:(fx s).length=s.size:=by{unfold fx;rw[zh,vC];rfl};have u:i'.toNat<s.size:=O;have e:s[i'.toNat]? =some s[i'.toNat]:=getElem?_pos s i'.toNat u;have e2:((fx s).getD i'.toNat 0)=(s[i'.toNat].toNat:Int):=by{simp only[fx,List.getD,List.getElem?_map];have:s.data.toList[i'.toNat]? =some s[i'.toNat]:=by{rw[Array.getElem?_toList];exact Array.getElem?_eq_getElem u};rw[this];rfl};rw[e2];simp[Instr.index,run_underlying hu,asIntOf,K,e]};{exact(kC h).elim}
def qmp (hT:bG P T) {t g:Nat} {i v:AV} {ci:Value} (h:aw CO (xp T t g i) U v U' R W) (hG:cE P who w) (hi:bo β who w i ci):
 U'=U/\ab v=[]/\occ v=[]/\ ∃r,(Instr.indexAt t (.pointer (some ⟨g,0,none⟩)) ci).run P w= .ok r w/\bo β who w v r:=by unfold xp at h;split at h;{rename_i g' k xs cells k' i' K;have a0:ci= .int k' i':=hi;subst a0;obtain⟨⟨e,ei,hu,he,Q⟩,u⟩:=(hT t _ K).desc;split at h;{rename_i hg;subst hg;obtain⟨_,U1,_,_,_,_,h1,h2⟩:=kA h;obtain⟨⟨m0,m1⟩,rfl⟩:=kG h1;obtain⟨rfl,rfl⟩:=kB h2;obtain⟨q1,q2,q3⟩:=hG _ u;have G:P.elem t=e:=by{simp[Program.elem,hu]};have J:P.arrayLen t=xs.length:=by{simp[Program.arrayLen,hu]};refine⟨rfl,rfl,rfl,.pointer (some ⟨g',i'.toNat,none⟩),?_,g',0,?_,O,q1,q2,λj hj=> ?_⟩;{rw[run_indexAt_array w t ⟨g',0,none⟩ k' i' (by rw[J,G];exact hu),iP (by rw[J];exact⟨m0,m1⟩),G,Xy he];show Result.ok _ _=_;rw[Q,iW];congr 3;unfold Addr.add;grind};{simp[Ty.size]};{show ay w g' (0+j*1) 0=some (.int k xs[j]);have:=q3 j hj;simpa [ay]using this}};{exact(kC h).elim}};{exact(kC h).elim}
def q7c (hT:bG P T) {t:Nat} {x i v:AV} {c ci:Value} (h:aw CO (WN T t x i) U v U' R W) (S:aC E D β who U hd a w)
 (hx:bo β who w x c) (hi:bo β who w i ci):
 U'=U/\ab v=[]/\(∀n∈occ v,n∈occ x)/\ ∃r,(Instr.indexAt t c ci).run P w= .ok r w/\bo β who w v r:=by unfold WN at h;split at h;{rename_i e h0 cells k i' d0;have e0:ci= .int k i':=hi;subst e0;obtain⟨hu,⟨ei,ez,he,a0,_⟩⟩:=(hT t _ d0).desc;split at h;{rename_i t' xs;split at h;{rename_i K;obtain⟨_,U1,_,_,_,_,h1,h2⟩:=kA h;obtain⟨⟨m0,G⟩,rfl⟩:=kG h1;obtain⟨rfl,rfl⟩:=kB h2;have c0:gE who w t' xs c:=hx;rcases c0 with⟨_,rfl⟩|⟨b,o,cap,rfl,q1,q2,q3,q4⟩;{simp at G;omega};{refine⟨rfl,rfl,(λn hn=>by cases hn),_,cA hu he b o xs.length cap k i' m0 G w,b,o,?_,O,q1,q2,q4⟩;simp_all}};{exact(kC h).elim}};{rename_i s n sz J;split at h;{rename_i K;obtain⟨y,U1,_,_,_,_,h1,h2⟩:=kA h;obtain⟨rfl,Q,g1,g2⟩:=aw.nodeOf h1 S;obtain⟨_,U2,_,_,_,_,h3,h4⟩:=kA h2;obtain⟨⟨m0,G⟩,rfl⟩:=kG h3;obtain⟨rfl,rfl⟩:=kB h4;subst Q;refine⟨rfl,rfl,λn hn=>hn,?_⟩;have u:wV (β n) y.1.size J c:=hx;obtain⟨hw,hl⟩:=nT.window g1.sls u;rcases g1.2 with⟨e1,e2⟩|⟨b,o,cap,arr,el,e1,e2,e3,e4,e5,e6⟩;{exfalso;cases J with|none=>{simp[window,e2]at G;omega}|some ol=>grind};{cases J with|none=>{obtain⟨u,_⟩:=u;subst u;rw[e1];simp only[window]at G;refine⟨_,cA hu he b o y.2.length cap k i' m0 G w,.inl ⟨b,o,y.2.length,cap,e1,by simp only[Jq];omega,?_⟩⟩;rw[a0,K,Jq,zH,zQ]}|some ol=>{obtain⟨off,len⟩:=ol;obtain⟨l1,l2⟩:=hl off len rfl;obtain⟨ad,L,g0,i0,f1,f2,f3,f4,f5⟩:=u;rw[e1]at f1;injection f1 with f1 fL b0;subst f1 fL b0;rw[l2]at G;have:=f4 O;subst this;subst f3;simp only[xi,bH];refine⟨_,cA hu he b (o+off*y.1.size) len (cap-off) k i' m0 G w,.inl ⟨b,o,y.2.length,cap,e1,by simp only[Jq];omega,?_⟩⟩;rw[a0,K,Jq,zQ,fT,AX]}}};{exact(kC h).elim}};{exact(kC h).elim}};{exact(kC h).elim}
def q86 (hT:bG P T) {t f:Nat} {x v:AV} {c:Value} (h:aw CO (WD T t x f) U v U' R W) (hx:bo β who w x c):
 U'=U/\ab v=[]/\(∀n∈occ v,n∈occ x)/\ ∃r,(Instr.fieldAt t c f).run P w= .ok r w/\bo β who w v r:=by unfold WD at h;split at h;{rename_i fs cells a0;obtain⟨fields,hu,d0,c0⟩:=(hT t _ a0).desc;split at h;{rename_i off g0 Q;split at h;{exact(kC h).elim};{rename_i e0;have K:f<fs.length:=by{rcases fS f fs.length with h|h;{exact h};{grind}};obtain⟨fl,e1,e2,i,e3,e4,-⟩:=c0 f K;rw[List.getElem?_eq_getElem K]at Q;injection Q with Q;rw[Q]at e2 e4;simp only at e2 e4;have key: ∀b o,(Instr.fieldAt t (.pointer (some ⟨b,o,none⟩)) f).run P w= .ok (.pointer (some ⟨b,o+off,none⟩)) w:=by{intro b o;have b0: ¬i.size=0:=O;simp[Instr.fieldAt,run_underlying hu,e1,Instr.sureAddr,fieldPlace,Xy e3,b0,bH,e2]};split at h;{obtain⟨rfl,rfl⟩:=kB h;refine⟨rfl,rfl,λn J=>J,?_⟩;rcases hx with⟨b,o,L,cap,G,u,rfl⟩|⟨b,G,rfl,rfl⟩;{exact⟨_,key _ _,.inl ⟨b,o,L,cap,G,u,by simp only[AX]⟩⟩};{exact⟨_,key _ _,.inr ⟨b,G,rfl,rfl⟩⟩}};{obtain⟨rfl,rfl⟩:=kB h;refine⟨rfl,rfl,(λn J=>by cases J),?_⟩;obtain⟨b,o,rfl,u,q3,q4,q5⟩:=hx;exact⟨_,key _ _,b,o,by simp only[AX,sQ],u,q3,q4,q5⟩};{obtain⟨rfl,rfl⟩:=kB h;refine⟨rfl,rfl,λn J=>J,?_⟩;obtain⟨b,o,L,cap,G,u,rfl,q3⟩:=hx;exact⟨_,key _ _,b,o,L,cap,G,u,by simp only[AX],q3⟩};{exact(kC h).elim}}};{exact(kC h).elim}};{exact(kC h).elim}
def Tg {size off:Nat} {agg:Bool} {cells:List AV} {v:AV} {f:Nat->Value} (h:c8 size agg cells off=some v)
 (hr: ∀j (hj:j<cells.length),aW β who w cells[j] (f j)):
 off+size<=cells.length/\bo β who w v (if agg then .agg ((List.range size).map λj=>f (off+j)).toArray else f off)/\(agg=false->size=1)/\
 ab v=((cells.drop off).take size).flatMap qc/\occ v=((cells.drop off).take size).flatMap aL:=by have hnb: ∀c∈cells,∀vs,c≠ .tup vs:=λc hc vs e=>by{obtain⟨j,hj,rfl⟩:=nz hc;have:=hr j hj;rw[e]at this;exact this};have hnb': ∀c∈cells,∀o vs,c≠ .bx o vs:=λc hc o vs e=>by{obtain⟨j,hj,rfl⟩:=nz hc;have:=hr j hj;rw[e]at this;exact this};have hna: ∀c∈cells,∀vs,c≠ .agg vs:=λc hc vs e=>by{obtain⟨j,hj,rfl⟩:=nz hc;have:=hr j hj;rw[e]at this;exact this};unfold c8 at h;split at h;{rename_i hle;refine⟨hle,?_⟩;unfold kZ at h;split at h;{rename_i hagg;injection h with h;subst h;simp only[hagg,if_true];refine⟨⟨_,rfl,by simp;omega,λj hj=> ?_⟩,by simp,rfl,rfl⟩;have hj':j<size:=by{simp at hj;omega};simp_all};{rename_i hagg;simp only[zq1]at hagg;simp only[hagg,IG,if_false];split at h;{rename_i c hc;injection h with h;subst h;have hlen:((cells.drop off).take size).length=1:=by{rw[hc];rfl};have hs1:size=1:=by{simp at hlen;omega};have hlt:off<cells.length:=O;have hce:cells[off]=c:=by{have:((cells.drop off).take size)[0]'(O)=c:=by{simp[hc]};simpa using this};have hmem:c∈cells:=hce▸zW hlt;have hrc:aW β who w c (f off):=hce▸hr off hlt;rw[hc];refine⟨?_,λ_=>hs1,?_,?_⟩;{cases c with|tup vs=>grind|bx o vs=>grind|agg vs=>grind|_=>exact hrc};{cases c with|tup vs=>grind|bx o vs=>grind|agg vs=>grind|_=>simp[ab,qi]};{cases c with|tup vs=>grind|bx o vs=>grind|agg vs=>grind|_=>simp[occ,aZ]}};{cases h}}};{cases h}
def TA: ∀{t:Ty} {x:aX t} {g:Nat->Option Value} {G:Nat},ba who w t x g G->
 (aD t x).length=t.size/\ ∀j (u:j<(aD t x).length),∃v,g (G+j)=some v/\aW β who w (fq (aD t x)[j]) v
 | .int k,x,g,G,h=>by{refine⟨rfl,λj u=> ?_⟩;have:j=0:=by{simp[aD]at u;exact u};subst this;exact⟨_,h,rfl⟩}
 | .bool,x,g,G,h=>by{refine⟨rfl,λj u=> ?_⟩;have:j=0:=by{simp[aD]at u;exact u};subst this;exact⟨_,h,rfl⟩}
 | .sl b t,xs,g,G,h=>by{refine⟨rfl,λj u=> ?_⟩;have:j=0:=by{simp[aD]at u;exact u};subst this;obtain⟨v,h1,h2⟩:=h;exact⟨v,h1,h2⟩}
 | .pr a b,x,g,G,h=>by obtain⟨l1,r1⟩:=TA h.1;obtain⟨l2,r2⟩:=TA h.2;refine⟨by simp[aD,l1,l2,Ty.size],λj u=> ?_⟩;by_cases J:j<(aD a x.1).length;{obtain⟨v,e1,Q⟩:=r1 j J;refine⟨v,e1,?_⟩;have:(aD (.pr a b) x)[j]=(aD a x.1)[j]:=by{simp only[aD];exact xf J};rw[this];exact Q};{have K:j-(aD a x.1).length<(aD b x.2).length:=by{simp[aD]at u;omega};obtain⟨v,e1,Q⟩:=r2 _ K;refine⟨v,by grind,?_⟩;have:(aD (.pr a b) x)[j]=(aD b x.2)[j-(aD a x.1).length]:=by{simp only[aD];exact ur O};rw[this];exact Q}
def TO: ∀{t:Ty} {x:aX t} {c:AV},c∈aD t x->(∃k n,c= .int k n)\/(∃b,c= .bool b)\/ ∃o t' xs,c= .sl o t' xs/\ ∀n,o≠ .nm n
 | .int k,x,c,h=> .inl ⟨k,x,by simpa [aD]using h⟩
 | .bool,x,c,h=> .inr (.inl ⟨x,by simpa [aD]using h⟩)
 | .sl b t,xs,c,h=> .inr (.inr ⟨_,t,xs,by simpa [aD]using h,by grind⟩)
 | .pr a b,x,c,h=>by simp only[aD,zX]at h;rcases h with h|h;{exact TO h};{exact TO h}
def Ws {t:Ty} {x:aX t} {c:AV} (h:c∈(aD t x).map fq):qc c=[]/\aL c=[]/\(∀vs,c≠ .tup vs)/\(∀o vs,c≠ .bx o vs)/\(∀vs,c≠ .agg vs):=by obtain⟨d,hd,rfl⟩:=zk.1 h;rcases TO hd with⟨k,n,rfl⟩|⟨b,rfl⟩|⟨o,t',xs,rfl,_⟩;{exact⟨rfl,rfl,by simp[fq],by simp[fq],by simp[fq]⟩};{exact⟨rfl,rfl,by simp[fq],by simp[fq],by simp[fq]⟩};{exact⟨rfl,rfl,by simp[fq],by simp[fq],by simp[fq]⟩}
def Y0 {t:Nat} {u:TI} (G:gC P t u) {b o:Nat} {f:Nat->Value} (w:World) (hc: ∀j,j<u.cells.length->w.cell? ⟨b,o+j,none⟩=some (f j))
 (h1:Qb u.desc=false->u.cells.length=1):
 (Instr.loadAt t (.pointer (some ⟨b,o,none⟩))).run P w= .ok (if Qb u.desc then .agg ((List.range u.cells.length).map f).toArray else f 0) w:=by obtain⟨i,Q,J,_⟩:=G.info;simp only[Instr.loadAt,Instr.sureAddr,Sem.run_bind,Sem.run_pure,Result.andThen_ok,loadVar,G.isAgg w];cases K:Qb u.desc with|true=>{simp only[if_true,Sem.run_bind,Xy Q,Result.andThen_ok,J];rw[run_loadCells w ⟨b,o,none⟩ u.cells.length f (λj O=>by rw[bH];exact hc j O)];simp}|false=>{simp_all}
end
def Qy {α:Type}: ∀(l:List α) (j:Nat) (cs:List α),j+cs.length<=l.length->Qg l j cs=l.take j++cs++l.drop (j+cs.length)
 |l,j,[],_=>by cases l<;>simp[Qg]
 |[],j,c::cs,h=>by simp at h
 |x::l,0,c::cs,h=>by{have:=Qy l 0 cs (by simp at h⊢;omega);simp only[Qg,this];simp}
 |x::l,j+1,c::cs,h=>by have:=Qy l j (c::cs) (by simp at h⊢;omega);simp only[Qg,this];grind
section
variable {P:Program} {CO:Q8} {T:TT} {E:a8} {D:Nat->Prop} {β:aR} {who:bh} {U U':ao} {hd:List (AV×Value)} {a:Act} {w:World} {R W:List Nat}
def Wa {t:Nat} {J:TI} (K:gC P t J) {ty:Ty} {xs:List (aX ty)} {b o i j:Nat} {v:AV} (hE:aT who w ty xs b o) (hi:i<xs.length)
 (h:c8 J.cells.length (Qb J.desc) ((aD ty (xs.getD i ty.zero)).map fq) j=some v):
 ∃r,(Instr.loadAt t (.pointer (some ⟨b,o+i*ty.size+j,none⟩))).run P w= .ok r w/\bo β who w v r/\ab v=[]/\occ v=[]:=by have hx:xs.getD i ty.zero=xs[i]:=by{simp[List.getD,List.getElem?_eq_getElem hi]};rw[hx]at h;obtain⟨hl,hu⟩:=TA (β:=β) (hE i hi);let f:Nat->Value:=λj'=>(ay w b (o+i*ty.size) j').getD undef;have hf: ∀j',j'<ty.size->ay w b (o+i*ty.size) j'=some (f j'):=λj' G=>by{grind};obtain⟨p1,p2,p3,p4,p5⟩:=Tg (β:=β) (who:=who) (w:=w) (f:=f) h (λj' G=>by{grind});simp only[zh,hl]at p1;have u:=Y0 K (b:=b) (o:=o+i*ty.size+j) (f:=λj'=>f (j+j')) w (λj' G=>by{have:=hf (j+j') O;simp only[ay]at this;grind}) p3;refine⟨_,u,by simpa using p2,?_,?_⟩;{rw[p4];exact Qc λc Q=>(Ws (vA (nB Q))).1};{rw[p5];exact Qc λc Q=>(Ws (vA (nB Q))).2.1}
def q8j {t:Nat} {O:TI} (a0:gC P t O) {s n sz i j:Nat} {v:AV} {c:Value} (S:aC E D β who U hd a w) (hx:dE (β n) sz i j c)
 (h:I8 O.cells.length (Qb O.desc) n sz i j (U.get s)=some v):
 ∃r,(Instr.loadAt t c).run P w= .ok r w/\bo β who w v r/\ab v=[]/\occ v=[]:=by unfold I8 at h;split at h;{rename_i ty xs hf;split at h;{rename_i b0;subst b0;obtain⟨g1,g2⟩:=Wf (S.rel s) hf;rcases hx with⟨b,o,L,cap,u,e2,rfl⟩|⟨b,u,_,_⟩;{rcases g1.2 with⟨G,_⟩|⟨b',o',K,arr,el,G,e4,e5,e6,e7,e8⟩;{rw[G]at u;cases u};{rw[G]at u;injection u with J q2 q3;injection J with J;injection J with J Q _;subst J Q q2 q3;exact Wa a0 e8 e2 h}};{rcases g1.2 with⟨G,_⟩|⟨b',o',K,arr,el,G,_⟩<;>(rw[G]at u;cases u)}};{cases h}};{cases h}
def Yv {mode t:Nat} {ti:TI} {s n sz i j:Nat} {v:AV} {c:Value} (hti:gC P t ti) (S0:aC E D β who U hd a w) (hx:dE (β n) sz i j c)
 (h:aw CO (LX mode ti s n sz i j) U v U' R W): ∃r,(Instr.loadAt t c).run P w= .ok r w/\aC E D β who U' ((v,r)::hd) a w:=by
 obtain⟨av,U1,_,_,_,_,h1,h2⟩:=kA h;obtain⟨rfl,rfl⟩:=kD h1
 have node: ∀v',I8 ti.cells.length (Qb ti.desc) n sz i j (U1.get s)=some v'-> ∃r,(Instr.loadAt t c).run P w= .ok r w/\aC E D β who U1 ((v',r)::hd) a w:=by
  intro v' hv';obtain⟨r,g1,g2,g3,g4⟩:=q8j hti S0 hx hv';exact⟨r,g1,S0.take0 g2 g3 (λn hn=>by rw[g4]at hn;cases hn)⟩
 have key: ∀x,Jv ti.cells.length (Qb ti.desc) mode s n sz i j (U1.get s)=some x->
  ∃r,(Instr.loadAt t c).run P w= .ok r w/\aC E D β who (match x.2 with|none=>U1|some a'=>U1.set s a') ((x.1,r)::hd) a w:=by
  intro x hx';unfold Jv at hx';split at hx'
  . rename_i m cells hav;split at hx'
    . rename_i hmn;subst hmn;have hb:=S0.rel s;rw[hav]at hb;obtain⟨hβ,b,arr,el,e1,e2,e3,e4⟩:=hb
      have hc:c= .pointer (some ⟨b,j,none⟩):=by
       rcases hx with⟨b',o',L,cap,q1,_,_⟩|⟨b',q1,_,q3⟩
       . grind
       . grind
      subst hc
      have hmem: ∀j',j'<arr.size->w.cell? ⟨b,j',none⟩=some (arr.getD j' undef):=λj' hj'=>by
       simp[World.cell?,e2,hj',Array.getD]
      split at hx'
      . rename_i hmode;cases hp:c8 ti.cells.length (Qb ti.desc) cells j with
        |none=>simp[hp]at hx'
        |some v'=>
         simp only[hp,xi,zZ]at hx';subst hx';obtain⟨p1,p2,p3,p4,p5⟩:=Tg (β:=β) (who:=who) (w:=w) (f:=λj'=>arr.getD j' undef) hp e4.2
         have hrun:=Y0 hti (b:=b) (o:=j) (f:=λj'=>arr.getD (j+j') undef) w (λj' hj'=>hmem _ (by rw[e4.1];omega)) p3
         refine⟨_,hrun,?_⟩;simp only
         have hdr:Y1 cells j ti.cells.length=cells.take j++List.replicate ti.cells.length .dead++cells.drop (j+ti.cells.length):=by
          unfold Y1;rw[Qy _ _ _ (by simpa using p1)];simp
         have hsplit:cells=cells.take j++(cells.drop j).take ti.cells.length++cells.drop (j+ti.cells.length):=by
          rw[py,<-List.drop_drop,vD,vD]
         have hnn:ab (.bx (.nm m) cells)=m::(cells.take j).flatMap qc++((cells.drop j).take ti.cells.length).flatMap qc++(cells.drop (j+ti.cells.length)).flatMap qc:=by
          conv=>lhs;rw[hsplit]
          simp[ab,qi]
         have hnd:ab (.bx (.nm m) (Y1 cells j ti.cells.length))=m::(cells.take j).flatMap qc++(cells.drop (j+ti.cells.length)).flatMap qc:=by
          rw[hdr];have:(List.replicate ti.cells.length AV.dead).flatMap qc=[]:=Qc λc hc=>by rw[(ML.1 hc).2];rfl
          simp[ab,qi,this]
         have hNod:=S0.nod s;rw[hav,hnn]at hNod;have hlen:(Y1 cells j ti.cells.length).length=cells.length:=by rw[hdr];simp;omega
         have S1:=S0.abs (s:=s) (v:= .bx (.nm m) (Y1 cells j ti.cells.length)) ⟨hβ,b,arr,el,e1,e2,e3,by rw[e4.1,hlen],λj' hj'=>by
          have hj'':j'<cells.length:=by rw[<-hlen];exact hj'
          by_cases hin:j<=j'/\j'<j+ti.cells.length
          . have:(Y1 cells j ti.cells.length)[j']= .dead:=by
             simp only[hdr];rw[xf (by simp;omega),ur (by simp;omega)]
             simp
            rw[this];trivial
          . have:(Y1 cells j ti.cells.length)[j']=cells[j']:=by
             simp only[hdr];by_cases hlt:j'<j
             . grind
             . grind
            rw[this];exact e4.2 j' hj''⟩
          (by grind)
          (by
            grind)
          (by
            intro n hn;refine S0.occ s n ?_;rw[hav];simp only[Vs.occ,aZ,zq]at hn⊢;rcases hn with hn|hn
            . exact .inl hn
            . refine .inr ?_;rw[hdr]at hn;have hr0:(List.replicate ti.cells.length AV.dead).flatMap aL=[]:=Qc λc hc=>by rw[(ML.1 hc).2];rfl
              grind)
         have hpn: ∀x∈ab v',x∈ab (U1.get s):=by
          rw[p4,hav,hnn];intro x hx;simp[hx]
         exact{S1 with
          hrel:=λy hy=>by rcases mC hy with rfl|hy;simpa using p2;exact S1.hrel y hy
          hnod:=by
           simp only[fC];refine zS.2 ⟨?_,S0.hnod,λn h1 m' h2=> ?_⟩
           . grind
           . rintro rfl
             obtain⟨y,hy,hn⟩:=zN.1 h2;exact S0.hdis y hy n hn s (hpn n h1)
          hdis:=λy hy=>by
           rcases mC hy with rfl|hy
           . intro x hx0 t ht;have hxn:x∈ab v':=hx0;by_cases e:t=s
             . subst e;rw[qh,hnd]at ht
               grind
             . rw[qg _ _ e]at ht;exact e (S0.dis t s x ht (hpn x hx0))
           . exact S1.hdis y hy
          hocc:=λy hy=>by
           rcases mC hy with rfl|hy
           . intro x hx;refine S0.occ s x ?_;rw[hav];simp only[p5]at hx;simp only[Vs.occ,aZ,zq]
             grind
           . exact S1.hocc y hy}
      . cases hp:c8 ti.cells.length (Qb ti.desc) (cells.map (Xw s)) j with
        |none=>simp[hp]at hx'
        |some v'=>
         simp only[hp,xi,zZ]at hx';subst hx';have e4':=e4.map (Xw s) (λc _ v hv=>q8k hv)
         obtain⟨p1,p2,p3,p4,p5⟩:=Tg (β:=β) (who:=who) (w:=w) (f:=λj'=>arr.getD j' undef) hp e4'.2
         simp only[zh]at p1;have hrun:=Y0 hti (b:=b) (o:=j) (f:=λj'=>arr.getD (j+j') undef) w (λj' hj'=>hmem _ (by rw[e4.1];omega)) p3
         refine⟨_,hrun,S0.take0 (by simpa using p2) ?_ ?_⟩
         . rw[p4];exact Qc λc hc=>by
            obtain⟨d,_,rfl⟩:=zk.1 (vA (nB hc));exact q49
         . intro x hx;rw[p5]at hx;obtain⟨c,hc,hx⟩:=zN.1 hx;obtain⟨d,hd',rfl⟩:=zk.1 (vA (nB hc));have hx:=q9c _ hx;refine S0.occ s x ?_;rw[hav];simp only[Vs.occ,aZ,zq];exact .inr (zN.2 ⟨d,hd',hx⟩)
    . rw[<-hav]at hx';cases hn:I8 ti.cells.length (Qb ti.desc) n sz i j (U1.get s)with
      |none=>simp[hn]at hx'
      |some v'=>
       grind
  . cases hn:I8 ti.cells.length (Qb ti.desc) n sz i j (U1.get s)with
    |none=>simp[hn]at hx'
    |some v'=>
     grind
 split at h2
 . rename_i v' hls;obtain⟨rfl,rfl⟩:=kB h2;exact key _ hls
 . rename_i v' a' hls;obtain⟨_,U2,_,_,_,_,h3,h4⟩:=kA h2;have:=kE h3;subst this;obtain⟨rfl,rfl⟩:=kB h4;exact key _ hls
 . exact(kC h2).elim
def q2w {s:Nat}: ∀{size j:Nat} {cs:List AV} {R W:List Nat} {U U':ao},aw CO (Wj s j size) U cs U' R W->(∀vs,U.get s≠ .tup vs)->(∀n t xs h,U.get s≠ .dp n t xs h)->U'=U/\cs.length=size/\
 (0<size-> ∃m cells,U.get s= .bx (.nm m) cells/\j+size<=cells.length/\cs=((cells.map (Xw s)).drop j).take size)
 |0,j,cs,R,W,U,U',h,_,_=>by{obtain⟨rfl,rfl⟩:=kB h;grind}
 |size+1,j,cs,R,W,U,U',h,J,K=>by obtain⟨av,U1,_,_,_,_,h1,h2⟩:=kA h;obtain⟨u,rfl⟩:=kF h1;split at h2;{rename_i c;obtain⟨cs',U2,_,_,_,_,h3,h4⟩:=kA h2;obtain⟨rfl,O,hc⟩:=q2w h3 J K;obtain⟨rfl,rfl⟩:=kB h4;refine⟨rfl,by simp[O],λ_=> ?_⟩;simp only[cZ]at u;split at u;{unfold eP at u;split at u;{rename_i m cells hb;cases G:cells[j]? with|none=>{rw[G]at u;cases u}|some c0=>{rw[G]at u;simp only[xi,zZ]at u;obtain⟨Q,e0⟩:=List.getElem?_eq_some_iff.1 G;subst e0;have hd:(cells.map (Xw s)).drop j=Xw s cells[j]::(cells.map (Xw s)).drop (j+1):=by{rw[EV (by simpa using Q)];simp};grind}};{grind};{grind};{cases u}};{cases u}};{exact(kC h2).elim}
def q92 (hT:bG P T) {mode t:Nat} {p v:AV} {c:Value} (h:aw CO (Su T mode t p) U v U' R W) (S:aC E D β who U ((p,c)::hd) a w):
 ∃r,(Instr.loadAt t c).run P w= .ok r w/\aC E D β who U' ((v,r)::hd) a w:=by have K:=S.hrel _ mS;have S0:=S.drop rfl;unfold Su at h;split at h;{exact(kC h).elim};{rename_i ti O;have G:=hT t _ O;split at h;{rename_i ty xs i j;obtain⟨e,rfl⟩:=aw.mopt' h;obtain⟨b,o,rfl,hi,q1,q2,q3⟩:=K;obtain⟨r,h1,h2,h3,h4⟩:=Wa (β:=β) G q3 hi e;exact⟨r,h1,S0.take0 h2 h3 (λn hn=>by rw[h4]at hn;cases hn)⟩};{rename_i s n sz i j;split at h;{exact Yv G S0 K h};{rename_i mode hmode;obtain⟨al,U1,_,_,_,_,h1,h2⟩:=kA h;obtain⟨u,rfl⟩:=kF h1;split at h2;{rename_i m J;split at h2;{rename_i hm;obtain⟨a0,Q⟩:=hm;subst a0;obtain⟨cs,U2,_,_,_,_,h3,h4⟩:=kA h2;obtain⟨rfl,hl,hc⟩:=q2w h3 (λvs e=>by{rw[e]at u;subst u;cases J}) (λn t xs h e=>by{rw[e]at u;subst u;cases J});obtain⟨m',cells,hb,hle,rfl⟩:=hc Q;obtain⟨ha,rfl⟩:=aw.mopt' h4;have b0:m'=m:=by{rw[hb]at u;subst u;simp only[cZ,dh,vr,zZ]at J;exact J};subst b0;have hp:c8 ti.cells.length (Qb ti.desc) (cells.map (Xw s)) j=some v:=by{unfold c8;rw[iP (by simpa using hle)];exact ha};refine Yv (CO:=CO) (mode:=0) (R:=[32*s]) (W:=[]) (sz:=sz) (i:=i) (j:=j) (s:=s) G S0 K (.get ?_);have:Jv ti.cells.length (Qb ti.desc) 0 s m' sz i j (U'.get s)=some (v,none):=by{rw[hb];unfold Jv;simp only[if_true];rw[af (by decide)];rw[hp];rfl};simp only[M.bind,this];exact .ret};{exact Yv G S0 K h2}};{exact Yv G S0 K h2}}};{exact(kC h).elim}}
end
def Dn (D:Nat->Prop) (idx:Nat):Nat->Prop:=λn=>D n\/ ∃k,k<16/\n=fresh idx k
def dk {D:Nat->Prop} {idx:Nat} (h: ¬D FN): ¬Dn D idx FN:=by rintro (h'|⟨k,u,e⟩);{exact h h'};{simp only[FN,fresh]at e;omega}
def dG:Value:= .slice none 0 0
section
variable {P:Program} {CO:Q8} {T:TT} {E:a8} {D:Nat->Prop} {β:aR} {who:bh} {U U':ao} {hd:List (AV×Value)} {a:Act} {w w':World} {R W:List Nat}
def aC.make {idx:Nat} {v0 v:AV} {c0 c c1:Value} {o:Obj} (S:aC E D β who U ((v0,c0)::hd) a w) (hf: ∀k,k<16-> ¬D (fresh idx k))
 (hw:w'.heap=w.heap.push o)
 (hv: ∀β' who',(∀k,k<15->β' (fresh idx k)=dG)->β' (fresh idx 15)=c1->who' w.heap.size=some (fresh idx 15)->
   (∀b,who b=none->b<w.heap.size->who' b=none)->bo β' who' w' v0 c0->bo β' who' w' v c)
 (hn: ∀n∈ab v,n∈ab v0\/ ∃k,k<16/\n=fresh idx k) (hnd:(ab v).Nodup) (ho: ∀n∈Vs.occ v,Dn D idx n) (h4:w'.os=w.os/\w'.output=w.output:=by exact⟨rfl,rfl⟩):
 ∃β' who',aC E (Dn D idx) β' who' U ((v,c)::hd) a w':=by
 let β':aR:=λx=>if x=fresh idx 15 then c1 else if fresh idx 0<=x/\x<fresh idx 15 then dG else β x
 let who':bh:=λb=>if b=w.heap.size then some (fresh idx 15)else who b
 have hsz:w'.heap.size=w.heap.size+1:=by rw[hw];simp
 have hβ: ∀n,D n->β' n=β n:=λn hdn=>by
  simp only[β'];rw[af (by grind),af]
  rintro ⟨h1,h2⟩
  refine hf (n-fresh idx 0) (by simp only[fresh]at*;omega) ?_
  rwa [show fresh idx (n-fresh idx 0)=n by simp only[fresh]at*;omega]
 have hwn:who w.heap.size=none:=by
  cases h:who w.heap.size with
  |none=>rfl
  |some n=>exact absurd (S.wsz _ _ h) (Rx _)
 have S':=S.keep (β':=β') (who':=who') (w':=w') hβ
  (λb n hb=>by grind)
  (λb hb=>by grind)
  (λb hb hlt=>by grind)
  (fun b n hb=>by
    simp only[who']at hb;split at hb
    . omega
    . have:=S.wsz b n hb;omega)
  O h4
 have hvr:=hv β' who' (λk hk=>by
  simp only[β'];rw[af (by simp only[fresh];omega),iP (by simp only[fresh];omega)]) (by simp[β']) (by simp[who'])
  (λb hb hlt=>by grind) (S'.hrel _ mS)
 have hfr: ∀k,k<16-> ∀s,fresh idx k∉ab (U.get s):=λk hk s h=>hf k hk (S.occ s _ (qj h))
 have hfh: ∀k,k<16-> ∀x∈hd,fresh idx k∉ab x.1:=λk hk x hx h=>hf k hk (S.hocc x (mT hx) _ (qj h))
 refine⟨β',who',?_⟩;have S1:=(S'.drop rfl).mono (D':=Dn D idx) (λn h=> .inl h) (dk S.dfn)
 have hno:=S.hnod;simp only[fC]at hno
 exact{S1 with
  hrel:=λy hy=>by rcases mC hy with rfl|hy;exact hvr;exact S1.hrel y hy
  hnod:=by
   grind
  hdis:=λy hy=>by
   rcases mC hy with rfl|hy
   . intro n h1 s h2;rcases hn n h1 with h|⟨k,hk,rfl⟩
     . exact S.hdis _ mS n h s h2
     . exact hfr k hk s h2
   . exact S1.hdis y hy
  hocc:=λy hy=>by rcases mC hy with rfl|hy;exact ho;exact S1.hocc y hy}
def aC.take_dead (S:aC E D β who U hd a w):aC E D β who U ((.dead,undef)::hd) a w:=
 S.take0 (v:= .dead) trivial rfl (λn u=>by cases u)
def Qm: ∀t:Ty,(Qn t).length=t.size
 | .int _=>rfl
 | .bool=>rfl
 | .sl _ _=>rfl
 | .pr a b=>by simp[Qn,Ty.size,Qm a,Qm b]
def Tn: ∀(t:Ty) (g:Nat->Option Value) (u:Nat),(∀j (h:j<(Qn t).length),g (u+j)=some ((Qn t)[j]))->ba who w t t.zero g u
 | .int k,g,u,h=>by have:=h 0 (by simp[Qn]);simpa [Qn,ba,Ty.zero]using this
 | .bool,g,u,h=>by have:=h 0 (by simp[Qn]);simpa [Qn,ba,Ty.zero]using this
 | .sl b t,g,u,h=>by{have:=h 0 (by simp[Qn]);exact⟨.slice none 0 0,by simpa [Qn]using this,.inl ⟨rfl,rfl⟩⟩}
 | .pr a b,g,u,h=>by refine⟨Tn a g u λj G=> ?_,Tn b g (u+a.size) λj G=> ?_⟩;{rw[h j (by simp[Qn];omega)];simp only[Qn];grind};{have e:u+a.size+j=u+((Qn a).length+j):=by{rw[Qm];omega};rw[e,h ((Qn a).length+j) (by simp[Qn];omega)];simp only[Qn];grind}
def Ty.size_pos: ∀t:Ty,0<t.size
 | .int _=>Nat.one_pos
 | .bool=>Nat.one_pos
 | .sl _ _=>Nat.one_pos
 | .pr a b=>by have:=Ty.size_pos a;simp only[Ty.size];omega
def q80 {t:Ty} {zs:Array Value} {b n m:Nat} {el:TypeId} (Q:zs.toList=Qn t) (hb:w.heap[b]? =some (.cells ((Array.range (m*t.size)).map λi=>zs[i%zs.size]!) el (0,0))) (a0:n<=m):
 aT who w t (List.replicate n t.zero) b 0:=by intro i hi;have b0:i<n:=by{simpa using hi};have G:zs.size=t.size:=by{rw[<-Array.length_toList,Q,Qm]};have hp:=Ty.size_pos t;simp only[List.getElem_replicate];refine Tn t _ 0 λj hj=> ?_;have K:j<t.size:=by{rw[<-Qm];exact hj};have J:i*t.size+j<m*t.size:=by{have:(i+1)*t.size<=m*t.size:=zO _ O;rw[fT]at this;omega};have u:(i*t.size+j)%t.size=j:=by{rw[zY,RD,iY K]};have hg:zs[j]! =(Qn t)[j]:=by{have:j<zs.size:=O;rw[getElem!_pos zs j this];simp only[<-Q,Array.getElem_toList]};simp only[ay,World.cell?,hb,zH];simp[J,G,u,hg]
def qkp (hT:bG P T) {idx t:Nat} {l c v:AV} {cl cc:Value} (h:aw CO (Uv T idx t l c) U v U' R W) (S:aC E D β who U hd a w)
 (hl:bo β who w l cl) (hc:bo β who w c cc) (hf: ∀k,k<16-> ¬D (fresh idx k)):
 ∃r w' β' who',(Instr.makeSlice t cl cc).run P w= .ok r w'/\aC E (Dn D idx) β' who' U' ((v,r)::hd) a w':=by
 unfold Uv at h;split at h
 . rename_i e ty cells l c a0;have b0:cl= .int .i64 l:=hl;have c0:cc= .int .i64 c:=hc;subst b0 c0;obtain⟨_,U1,_,_,_,_,h1,h2⟩:=kA h;obtain⟨⟨m0,m1,m2⟩,rfl⟩:=kG h1;obtain⟨rfl,rfl⟩:=kB h2;obtain⟨hu,⟨u,K,he,J,hb,g0,hz,Q⟩⟩:=(hT t _ a0).desc
   have e0:(u.bytes:Int)*c<=4096*1073741824:=by
    have h1:(u.bytes:Int)<=4096:=O
    calc (u.bytes:Int)*c<=(u.bytes:Int)*1073741824:=Int.mul_le_mul_of_nonneg_left m2 O
     _<=4096*1073741824:=Int.mul_le_mul_of_nonneg_right h1 O
   have d0:(u.bytes:Int)*c<=281474976710656:=O;have G:=run_make (P:=P) w t e u K hu he hz .i64 .i64 l c m0 m1 O O
   obtain⟨β',who',S'⟩:=aC.make (idx:=idx) (v:= .sl (.nm (fresh idx 15)) ty (List.replicate l.toNat ty.zero)) (c:= .slice (some ⟨w.heap.size,0,none⟩) l.toNat c.toNat)
    (c1:= .slice (some ⟨w.heap.size,0,none⟩) l.toNat c.toNat)
    (w':=w.alloc (.cells (madeCells K.cells (c.toNat*u.size)) e)) S.take_dead hf rfl
    (fun β' who' g1 g2 g3 g4 _=>by
      refine⟨g2.symm,.inr ⟨w.heap.size,0,c.toNat,madeCells K.cells (c.toNat*u.size),e,by simp,heap_alloc_new w _,by simp[size_madeCells,J],by simp;omega,g3,?_⟩⟩
      exact q80 (zs:=K.cells) (m:=c.toNat) (el:=e) Q (by rw[<-J];exact heap_alloc_new w _) O)
    (λn hn=> .inr ⟨15,O,by simpa [ab,qi,qc]using hn⟩) (by simp[ab,qi,qc])
    (λn hn=> .inr ⟨15,O,by simpa [Vs.occ,aZ,aL]using hn⟩)
   exact⟨_,_,β',who',G,S'⟩
 . exact(kC h).elim
def qm1 {β:aR} {who:bh} {w:World} {v:AV} {c:Value} (h:aW β who w v c):aW β who w (kL v) c:=by unfold kL;split;{obtain⟨u,h2⟩:=h;exact .inl ⟨u,h2⟩};{exact h}
def q6c {v:AV}:qc (kL v)=qc v/\aL (kL v)=aL v:=by unfold kL;split<;>exact⟨rfl,rfl⟩
def qpt {β:aR} {who:bh} {w:World} {v:AV} {c:Value} (h:aW β who w v c):aW β who w (wM v) c:=by unfold wM;split<;>exact h
def q91 {v:AV}:qc (wM v)=qc v/\aL (wM v)=aL v:=by unfold wM;split<;>exact⟨rfl,rfl⟩
def quk {β:aR} {who:bh} {w:World} {m:Nat} {v:AV} {c:Value} (h:bo β who w v c):bo β who w (nlI m v) c/\ab (nlI m v)=ab v/\Vs.occ (nlI m v)=Vs.occ v:=by unfold nlI;split;{split;{rename_i cells;obtain⟨arr,e1,e2⟩:=h;refine⟨⟨arr,e1,e2.map _ (λc _ v hv=>qpt hv)⟩,?_,?_⟩;{simp only[ab,qi,RH];congr 1;funext c;exact q91.1};{simp only[Vs.occ,aZ,RH];congr 1;funext c;exact q91.2}};{exact⟨h,rfl,rfl⟩}};{split;{rename_i cells;obtain⟨arr,e1,e2⟩:=h;refine⟨⟨arr,e1,e2.map _ (λc _ v hv=>qm1 hv)⟩,?_,?_⟩;{simp only[ab,qi,RH];congr 1;funext c;exact q6c.1};{simp only[Vs.occ,aZ,RH];congr 1;funext c;exact q6c.2}};{unfold kL;split;{obtain⟨h1,h2⟩:=h;exact⟨.inl ⟨h1,h2⟩,rfl,rfl⟩};{exact⟨h,rfl,rfl⟩}}};{exact⟨h,rfl,rfl⟩}
def aC.nlI {m:Nat} {v:AV} {c:Value} (S:aC E D β who U ((v,c)::hd) a w):aC E D β who U ((Vs.nlI m v,c)::hd) a w:=by
 obtain⟨h1,h2,h3⟩:=quk (m:=m) (S.hrel _ mS)
 exact{S with
  hrel:=λy hy=>by rcases mC hy with rfl|hy;exact h1;exact S.hrel y (mT hy)
  hnod:=by have:=S.hnod;grind
  hdis:=λy hy=>by
   rcases mC hy with rfl|hy
   . simp only[h2];exact S.hdis _ mS
   . exact S.hdis y (mT hy)
  hocc:=λy hy=>by
   rcases mC hy with rfl|hy
   . exact λn hn=>S.hocc _ mS n (h3▸hn)
   . exact S.hocc y (mT hy)}
end
def Yu {idx j k:Nat} (h:fresh idx j=fresh idx k):j=k:=by simp only[fresh]at h;omega
def Jd {β:aR} {who:bh} {w:World} {c:AV} {v:Value} (h:aW β who w c v) (hd:c≠ .dead):v.oneCell'=true:=by cases c with|dead=>exact absurd rfl hd|bool b=>{cases h;rfl}|int k n=>{cases h;rfl}|lit u=>{obtain⟨rfl,h⟩:=h;exact h}|sl o t xs=>{cases o with|imm=>{rcases h with⟨rfl,_⟩|⟨b,o,cap,rfl,_⟩<;>rfl}|nl=>{obtain⟨rfl,_⟩:=h;rfl}|nm n=>{obtain⟨_,h⟩:=h;rcases h with⟨rfl,_⟩|⟨b,o,cap,_,_,rfl,_⟩<;>rfl}|inn=>exact h.elim}|bx o cs=>exact h.elim|agg cs=>exact h.elim|tup vs=>exact h.elim|ref s n sz win=>{cases win with|none=>{obtain⟨rfl,a,L,cap,e⟩:=h;rw[e];rfl}|some ol=>{obtain⟨a,L,cap,a',_,_,rfl,_⟩:=h;rfl}}|ptr s n sz i j=>{rcases h with⟨_,_,_,_,_,_,rfl⟩|⟨_,_,_,rfl⟩<;>rfl}|iptr g t xs i j=>{obtain⟨_,_,rfl,_⟩:=h;cases g<;>rfl}|dp n t xs hh=>{obtain⟨_,h⟩:=h;rcases h with⟨rfl,_⟩|⟨b,o,cap,arr,el,rfl,_⟩<;>rfl}|wn n t xs=>{rcases h.1.2 with⟨e,_⟩|⟨b,o,cap,arr,el,e,_⟩<;>(rw[e];rfl)}|dq n t xs hh=>{obtain⟨_,h⟩:=h;rcases h with⟨rfl,_⟩|⟨b,o,cap,arr,el,rfl,_⟩<;>rfl}|dr s n k=>{cases k with|whole=>{obtain⟨rfl,_,_,_,e⟩:=h;rw[e];rfl}|lenw l=>{rcases h.2 with⟨e,_⟩|⟨_,_,_,e⟩<;>(rw[e];rfl)}|row i=>{obtain⟨rfl,⟨_,_,_,e⟩,_⟩:=h;rw[e];rfl}|cell i=>{obtain⟨_,_,_,_,_,_,rfl⟩:=h;rfl}|elem sz i j k=>{obtain⟨_,_,_,_,_,_,rfl,_⟩:=h;rfl}}
def q7m {β:aR} {who:bh} {w:World} {n:Nat} {c c':AV} {v:Value} (h:Xh n c=some c') (G:aW β who w c v):v.oneCell'=true:=by cases c with|ref s n sz u=>cases h|dead=>cases h|_=>exact Jd G (by simp)
def q70 {β:aR} {who:bh} {w:World} {n:Nat} {c c':AV} {v:Value} (h:Xh n c=some c') (hr:aW β who w c v) (hβ:β n=dG):aW β who w c' v:=by cases c with|sl o t xs=>{cases o with|nl=>{simp only[Xh,zZ]at h;subst h;obtain⟨rfl,rfl⟩:=hr;unfold xK;split;{exact⟨by rw[hβ];rfl,.inl ⟨rfl,rfl⟩⟩};{exact⟨hβ.symm,.inl ⟨rfl,rfl⟩⟩}}|imm=>{simp only[Xh,zZ]at h;subst h;exact hr}|nm m=>{simp only[Xh,zZ]at h;subst h;exact hr}|inn=>cases h}|bool b=>{simp only[Xh,zZ]at h;subst h;exact hr}|int k x=>{simp only[Xh,zZ]at h;subst h;exact hr}|lit u=>{simp only[Xh,zZ]at h;subst h;exact hr}|dp m t xs hh=>{cases hh with|none=>{simp only[Xh,zZ]at h;subst h;exact hr}|some k=>cases h}|_=>cases h
def qa9 {n:Nat} {c c':AV} (h:Xh n c=some c'):(qc c'=qc c/\aL c'=qc c)\/(qc c=[]/\qc c'=[n]/\aL c'=[n]):=by cases c with|sl o t xs=>{cases o with|nl=>{simp only[Xh,zZ]at h;subst h;unfold xK;split<;>exact .inr ⟨rfl,rfl,rfl⟩}|imm=>{simp only[Xh,zZ]at h;subst h;exact .inl ⟨rfl,rfl⟩}|nm m=>{simp only[Xh,zZ]at h;subst h;exact .inl ⟨rfl,rfl⟩}|inn=>cases h}|bool b=>{simp only[Xh,zZ]at h;subst h;exact .inl ⟨rfl,rfl⟩}|int k x=>{simp only[Xh,zZ]at h;subst h;exact .inl ⟨rfl,rfl⟩}|lit u=>{simp only[Xh,zZ]at h;subst h;exact .inl ⟨rfl,rfl⟩}|dp m t xs hh=>{cases hh with|none=>{simp only[Xh,zZ]at h;subst h;exact .inl ⟨rfl,rfl⟩}|some k=>cases h}|_=>cases h
def Ja {idx:Nat}: ∀{k:Nat} {cs cs':List AV},Yl idx k cs=some cs'->
 cs'.length=cs.length/\(∀j (h:j<cs.length) (h':j<cs'.length),k+j<15/\Xh (fresh idx (k+j)) cs[j]=some cs'[j])/\
 (∀n∈cs'.flatMap qc,n∈cs.flatMap qc\/ ∃j,k<=j/\j<15/\n=fresh idx j)/\
 (∀n∈cs'.flatMap aL,n∈cs'.flatMap qc)/\
 ((cs.flatMap qc).Nodup->(∀n∈cs.flatMap qc,∀j,j<15->n≠fresh idx j)->(cs'.flatMap qc).Nodup)
 |k,[],cs',h=>by{simp only[Yl,zZ]at h;grind}
 |k,c::cs,cs',h=>by simp only[Yl]at h;split at h;{rename_i hk;split at h;{rename_i c1 b0 K h2;injection h with h;subst h;obtain⟨i1,i2,i3,i4,i5⟩:=Ja h2;have hc:=qa9 K;refine⟨by simp[i1],?_,?_,?_,?_⟩;{intro j O a0;cases j with|zero=>grind|succ j=>{grind}};{grind};{grind};{intro G J;simp only[fC]at G J⊢;have u:=zS.1 G;have Q:=i5 u.2.1 (λn hn j O=>J n (by simp[hn]) j O);refine zS.2 ⟨?_,Q,?_⟩;{grind};{intro n K m h2;rintro rfl;rcases hc with⟨e,_⟩|⟨e,e',_⟩;{grind};{rw[e']at K;simp only[zC]at K;subst K;rcases i3 _ h2 with h|⟨j,a,b,c⟩;{grind};{have:=Yu c;omega}}}}};{cases h}};{cases h}
section
variable {P:Program} {CO:Q8} {T:TT} {E:a8} {D:Nat->Prop} {β:aR} {who:bh} {U U':ao} {hd:List (AV×Value)} {a:Act} {w w':World} {R W:List Nat}
def Yt {v:Value} (h:v.oneCell'=true):v.cells= #[v]:=by cases v<;>first|rfl|cases h
def Ts {v:AV} {c:Value} (h:bo β who w v c) {idx:Nat} {cs':List AV} (ho:Yl idx 0 (cellsOf v)=some cs'):
 be β who w (cellsOf v) c.cells/\ab v=(cellsOf v).flatMap qc/\(∀x∈c.cells.toList,x.oneCell'=true):=by obtain⟨l1,l2,_⟩:=Ja ho;cases v with|agg cells=>{obtain⟨arr,rfl,h2⟩:=h;refine⟨h2,rfl,?_⟩;intro x hx;obtain⟨j,hj,rfl⟩:=nz hx;have hj':j<cells.length:=by{rw[<-h2.1];simpa [Value.cells]using hj};have:=l2 j hj' (by rw[l1];exact hj');have hr:=h2.2 j hj';have e:arr.getD j undef=(Value.agg arr).cells.toList[j]:=by{simp[Value.cells,Array.getD,h2.1,hj']};rw[e]at hr;exact q7m this.2 hr}|tup vs=>{have:=(l2 0 (by simp[cellsOf]) (by rw[l1];simp[cellsOf])).2;simp[cellsOf,Xh]at this}|bx o cs=>{have:=(l2 0 (by simp[cellsOf]) (by rw[l1];simp[cellsOf])).2;simp[cellsOf,Xh]at this}|_=>{have h0:=(l2 0 (by simp[cellsOf]) (by rw[l1];simp[cellsOf])).2;simp only[cellsOf,RV]at h0;have h1:=q7m (β:=β) (who:=who) (w:=w) (v:=c) h0 h;rw[Yt h1];refine⟨⟨rfl,λj hj=> ?_⟩,by simp[ab,qi,cellsOf],λx hx=>by simp at hx;subst hx;exact h1⟩;have:j=0:=by{simp[cellsOf]at hj;exact hj};subst this;exact h}
def aC.box {idx t:Nat} {v:AV} {c:Value} {cs':List AV} (S:aC E D β who U ((v,c)::hd) a w) (hf: ∀k,k<16-> ¬D (fresh idx k))
 (ho:Yl idx 0 (cellsOf v)=some cs'):
 ∃β' who',aC E (Dn D idx) β' who' U ((.bx (.nm (fresh idx 15)) cs',.pointer (some ⟨w.heap.size,0,none⟩))::hd) a (w.alloc (.cells c.cells t)):=by have hv:=S.hrel _ mS;obtain⟨g1,g2,g3⟩:=Ts hv ho;obtain⟨l1,l2,l3,l4,l5⟩:=Ja ho;have K:=S.hnod;simp only[fC]at K;have J:=(zS.1 K).1;rw[g2]at J;have hfresh: ∀n∈(cellsOf v).flatMap qc,∀j,j<16->n≠fresh idx j:=by{intro n u j G e;rw[<-g2]at u;exact hf j G (e▸S.hocc _ mS n (qj u))};exact aC.make (idx:=idx) (v:= .bx (.nm (fresh idx 15)) cs') (c:= .pointer (some ⟨w.heap.size,0,none⟩)) (c1:= .pointer (some ⟨w.heap.size,0,none⟩)) (w':=w.alloc (.cells c.cells t)) S hf rfl (fun β' who' q1 q2 q3 q4 q5=>by{obtain⟨a0,_,_⟩:=Ts q5 ho;refine⟨q2.symm,w.heap.size,c.cells,t,rfl,heap_alloc_new w _,q3,by rw[a0.1,l1],λj G=> ?_⟩;have Q:j<(cellsOf v).length:=by{rw[<-l1];exact G};obtain⟨k1,k2⟩:=l2 j Q G;exact q70 k2 (a0.2 j Q) (q1 _ k1)}) (fun n u=>by{simp only[ab,qi,zq]at u;grind}) (by{simp only[ab,qi,ny];refine⟨λu=> ?_,l5 J (λn u j G=>hfresh n u j O)⟩;rcases l3 _ u with h|⟨j,_,G,e⟩;{grind};{have:=Yu e;omega}}) (fun n u=>by{simp only[Vs.occ,aZ,zq]at u;rcases u with rfl|u;{exact .inr ⟨15,O,rfl⟩};{rcases l3 n (l4 n u)with h|⟨j,_,G,e⟩;{rw[<-g2]at h;exact .inl (S.hocc _ mS n (qj h))};{exact .inr ⟨j,O,e⟩}}})
def qmf {idx t:Nat} {v r:AV} {c:Value} (h:aw CO (AE T idx t v) U r U' R W) (S:aC E D β who U ((v,c)::hd) a w)
 (J: ∀k,k<16-> ¬D (fresh idx k)):
 ∃u w' β' who',(Instr.box t c).run P w= .ok u w'/\aC E (Dn D idx) β' who' U' ((r,u)::hd) a w':=by unfold AE at h;split at h;{exact(kC h).elim};{split at h;{exact(kC h).elim};{obtain⟨cs',G,h⟩:=kH h;obtain⟨rfl,rfl⟩:=kB h;obtain⟨β',who',K⟩:=S.box (t:=t) J G;exact⟨_,_,β',who',by simp[Instr.box,newVar,newRow],K⟩}}
def q6k: ∀{zs:List ZC} {vs:List AV},I0 zs=some vs->
 ∃us,zs.mapM uk=some us/\us.length=zs.length/\vs.length=zs.length/\(∀c∈vs,qc c=[]/\aL c=[])/\
  ∀j (h:j<vs.length) (h':j<us.length),aW β who w vs[j] us[j]
 |[],vs,h=>by{simp only[I0,zZ]at h;simp_all}
 |z::zs,vs,h=>by simp only[I0]at h;split at h;{rename_i c cs G h2;injection h with h;subst h;obtain⟨us,e1,O,K,e4,e5⟩:=q6k h2;have J: ∃u,uk z=some u/\aW β who w c u/\qc c=[]/\aL c=[]:=by{cases z with|other=>cases G|int k=>{injection G with G;subst G;exact⟨_,rfl,rfl,rfl,rfl⟩}|bool=>{injection G with G;subst G;exact⟨_,rfl,rfl,rfl,rfl⟩}|nil t=>{injection G with G;subst G;exact⟨_,rfl,⟨rfl,rfl⟩,rfl,rfl⟩}};obtain⟨u,f1,f2,Q⟩:=J;refine⟨u::us,by grind,by simp[O],by simp[K],?_,?_⟩;{grind};{grind}};{cases h}
def qcd {t:Nat} {J:TI} (O:gC P t J) {zs:List AV} (hz:I0 J.cells=some zs):
 ∃z,(zeroValue t).run P w= .ok z w/\be β who w zs z.cells/\ab (.agg zs)=[]/\Vs.occ (.agg zs)=[]/\((∃arr,z= .agg arr)↔Qb J.desc=true)/\z.cells.size=J.cells.length:=by obtain⟨us,e1,e2,e3,e4,e5⟩:=q6k (β:=β) (who:=who) (w:=w) hz;obtain⟨i,hi,a0,K⟩:=O.info;obtain⟨z,h1,h2,h3⟩:=K us e1;have u:z.cells.size=us.length:=by{rw[<-h2];simp};refine⟨z,NN hi h1 w,⟨by rw[u,e2,e3],λj hj=> ?_⟩,Qc λc hc=>(e4 c hc).1,Qc λc hc=>(e4 c hc).2,h3,by rw[u,e2]⟩;have G:j<us.length:=by{rw[e2,<-e3];exact hj};have:=e5 j hj G;have e:z.cells.getD j undef=us[j]:=by{have Q:j<z.cells.size:=by{rw[u];exact G};simp only[Array.getD,Q,dif_pos,<-h2,Array.getInternal_eq_getElem,Array.getElem_toList]};rw[e];exact this
def qgh (hT:bG P T) {idx mode t:Nat} {r:AV} (h:aw CO (UR T idx mode t) U r U' R W) (S:aC E D β who U hd a w)
 (hf: ∀k,k<16-> ¬D (fresh idx k)):
 ∃G w' β' who',(Instr.alloc t true (.tuple #[])).run P w= .ok G w'/\aC E (Dn D idx) β' who' U' ((r,G)::hd) a w':=by unfold UR at h;split at h;{exact(kC h).elim};{rename_i K u;obtain⟨zs,O,h⟩:=kH h;obtain⟨cs,Q,h⟩:=kH h;obtain⟨rfl,rfl⟩:=kB h;obtain⟨z,g1,g2,g3,g4,g5,g6⟩:=qcd (β:=β) (who:=who) (w:=w) (hT t K u) O;have S1:=S.take0 (v:= .agg zs) (c:= .agg z.cells) ⟨z.cells,rfl,g2⟩ g3 (λn J=>by rw[g4]at J;cases J);obtain⟨β',who',S'⟩:=(S1.nlI (m:=mode)).box (t:=t) hf Q;exact⟨_,_,β',who',by simp[Instr.alloc,g1,newVar,newRow];rfl,S'⟩}
end
section
variable {P:Program} {CO:Q8} {T:TT} {E:a8} {D:Nat->Prop} {β:aR} {who:bh} {U U':ao} {hd:List (AV×Value)} {a:Act} {w w':World} {R W:List Nat}
def ba.ext': ∀{t:Ty} {x:aX t} {g g':Nat->Option Value} {j:Nat},(∀i,i<t.size->g' (j+i)=g (j+i))->ba who w t x g j->ba who w t x g' j
 | .int _,x,g,g',j,u,h=>by have:=u 0 (by simp[Ty.size]);simp only[ba,zQ]at*;rw[this];exact h
 | .bool,x,g,g',j,u,h=>by have:=u 0 (by simp[Ty.size]);simp only[ba,zQ]at*;rw[this];exact h
 | .sl _ t,x,g,g',j,u,h=>by{have:=u 0 (by simp[Ty.size]);obtain⟨v,J,h2⟩:=h;exact⟨v,by grind,h2⟩}
 | .pr a b,x,g,g',j,u,h=>
   ⟨ba.ext' (λi G=>u i (by simp only[Ty.size];omega)) h.1,
    ba.ext' (λi G=>by have:=u (a.size+i) (by simp only[Ty.size];omega);grind) h.2⟩
def NO: ∀{t:Ty} {cells r:List AV} {x:aX t} {f:Nat->Value} {g:Nat->Option Value} {j:Nat},J7 t cells=some (x,r)->
 (∀i (h:i<cells.length),aW β who w (fq cells[i]) (f i))->(∀i,i<t.size->g (j+i)=some (f i))->
 ba who w t x g j/\r=cells.drop t.size/\t.size<=cells.length
 | .int k,cells,r,x,f,g,j,h,G,u=>by{cases cells with|nil=>cases h|cons c cs=>{cases c with|int k' n=>{simp only[J7]at h;split at h;{rename_i e;subst e;injection h with h;injection h with K h2;subst K h2;have O:=G 0 (by simp);have:f 0= .int k' n:=O;have J:=u 0 (by simp[Ty.size]);exact⟨by simp only[ba];grind,rfl,by simp[Ty.size]⟩};{cases h}}|_=>cases h}}
 | .bool,cells,r,x,f,g,j,h,G,u=>by{cases cells with|nil=>cases h|cons c cs=>{cases c with|bool b=>{simp only[J7,zZ,Rv]at h;obtain⟨K,h2⟩:=h;subst K h2;have O:=G 0 (by simp);have:f 0= .bool b:=O;have J:=u 0 (by simp[Ty.size]);exact⟨by simp only[ba];grind,rfl,by simp[Ty.size]⟩}|_=>cases h}}
 | .sl b t,cells,r,x,f,g,j,h,G,u=>by{cases cells with|nil=>cases h|cons c cs=>{cases c with|sl o t' xs=>{have key: ∀(e:t'=t),x=e▸xs->r=cs->ba who w (.sl b t) x g j/\r=(AV.sl o t' xs::cs).drop (Ty.sl b t).size/\(Ty.sl b t).size<=(AV.sl o t' xs::cs).length:=by{intro e Q hc;subst e;simp only at Q;subst Q hc;have O:gE who w t' x (f 0):=G 0 (by simp);have J:=u 0 (by simp[Ty.size]);exact⟨⟨f 0,by simpa using J,O⟩,rfl,by simp[Ty.size]⟩};simp only[J7]at h;grind}|_=>cases h}}
 | .pr a b,cells,r,x,f,g,j,h,G,u=>by simp only[J7]at h;split at h;{rename_i x1 r1 K;split at h;{rename_i y r2 h2;injection h with h;injection h with h3 h4;subst h3 h4;obtain⟨i1,i2,i3⟩:=NO (f:=f) (g:=g) (j:=j) K G (λi hi=>u i (by simp only[Ty.size];omega));subst i2;obtain⟨k1,k2,k3⟩:=NO (f:=λi=>f (a.size+i)) (g:=g) (j:=j+a.size) h2 (fun i hi=>by{grind}) (λi hi=>by have:=u (a.size+i) (by simp only[Ty.size];omega);grind);refine⟨⟨i1,k1⟩,?_,?_⟩;{rw[k2,LA];rfl};{simp at k3;simp only[Ty.size];omega}};{cases h}};{cases h}
def Tl {c:AV} {v:Value} (h:ck c=true) (hr:aW β who w c v):aW β who w (fq c) v:=by cases c with|sl o t xs=>{cases o with|imm=>exact hr|nl=>{obtain⟨rfl,rfl⟩:=hr;exact .inl ⟨rfl,rfl⟩}|_=>cases h}|bool b=>exact hr|int k n=>exact hr|_=>cases h
def WH {c:AV} (h:ck c=true):qc c=[]/\aL c=[]:=by cases c with|sl o t xs=>{cases o<;>first|exact⟨rfl,rfl⟩|cases h}|bool b=>exact⟨rfl,rfl⟩|int k n=>exact⟨rfl,rfl⟩|_=>cases h
def Xd {α:Type} {l:List α} {j:Nat} {cs:List α} (h:j+cs.length<=l.length):(Qg l j cs).length=l.length:=by rw[Qy l j cs h];simp;omega
def Jb {α:Type} {l:List α} {j:Nat} {cs:List α} (h:j+cs.length<=l.length) {i:Nat} (G:i<l.length):
 (Qg l j cs)[i]'(by rw[Xd h];exact G)=if J:j<=i/\i<j+cs.length then cs[i-j]'(O)else l[i]:=by simp only[Qy l j cs h];split;{grind};{rename_i J;by_cases u:i<j;{grind};{rw[ur (by simp;omega)];grind}}
def qm (cur:Array Value) (o:Nat) (vs:List Value):Array Value:=(cur.toList.take o++vs++cur.toList.drop (o+vs.length)).toArray
def Ql {cur:Array Value} {o:Nat} {vs:List Value} (h:o+vs.length<=cur.size):(qm cur o vs).size=cur.size:=by simp[qm];omega
def Qk {cur:Array Value} {o:Nat} {vs:List Value} (h:o+vs.length<=cur.size) (i:Nat):
 (qm cur o vs)[i]? =if o<=i/\i<o+vs.length then vs[i-o]? else cur[i]? :=by have e:(qm cur o vs)[i]? =(cur.toList.take o++vs++cur.toList.drop (o+vs.length))[i]? :=by{simp[qm]};rw[e];have J:cur.toList.length=cur.size:=by{simp};split;{grind};{rename_i G;by_cases u:i<o;{grind};{rw[List.getElem?_append_right (by simp;omega),List.getElem?_drop];simp;congr 1;omega}}
def aC.write {idx s n g:Nat} {v av':AV} {c:Value} {row:Array Value} (S:aC E D β who U ((v,c)::hd) a w) (hf: ∀k,k<16-> ¬D (fresh idx k))
 (hg:who g=some n) (hn:n∈ab (U.get s))
 (hv: ∀β',(∀k,k<15->β' (fresh idx k)=dG)->(∀m,D m->β' m=β m)->
   (∀av x,(∀m∈Vs.occ av,D m)->n∉ab av->bo β who w av x->bo β' who (w.setRow g row) av x)->
   (∀b,who b=none->(w.setRow g row).heap[b]? =w.heap[b]?)->bo β' who (w.setRow g row) av' (a.tmps.getD s undef))
 (hns: ∀m∈ab av',m∈ab (U.get s)\/m∈ab v\/ ∃k,k<16/\m=fresh idx k) (hnd:(ab av').Nodup) (ho: ∀m∈Vs.occ av',Dn D idx m):
 ∃β',aC E (Dn D idx) β' who (U.set s av') hd a (w.setRow g row):=by
 let β':aR:=λx=>if fresh idx 0<=x/\x<fresh idx 15 then dG else β x
 have hβ: ∀m,D m->β' m=β m:=λm hdm=>by
  simp only[β'];rw[af]
  rintro ⟨h1,h2⟩
  refine hf (m-fresh idx 0) (by simp only[fresh]at*;omega) ?_
  rwa [show fresh idx (m-fresh idx 0)=m by simp only[fresh]at*;omega]
 have hoth: ∀b,b≠g->(w.setRow g row).heap[b]? =w.heap[b]? :=λb hb=>setRow_other w g b row hb
 have hgn: ∀b,who b=none->b≠g:=λb hb e=>by grind
 have kp: ∀av x,(∀m∈Vs.occ av,D m)->n∉ab av->bo β who w av x->bo β' who (w.setRow g row) av x:=λav x h1 h2 h3=>
  h3.keep ⟨λm hm=>hβ m (h1 m hm),λm hm b hb=>⟨hb,hoth b (by grind)⟩,λb hb _=>⟨hb,hoth b (hgn b hb)⟩,by simp⟩
 have hnv:n∉ab v:=λh=>S.hdis _ mS n h s hn
 have hfr: ∀k,k<16-> ∀t,fresh idx k∉ab (U.get t):=λk hk t h=>hf k hk (S.occ t _ (qj h))
 have hfh: ∀k,k<16-> ∀x∈hd,fresh idx k∉ab x.1:=λk hk x hx h=>hf k hk (S.hocc x (mT hx) _ (qj h))
 have hno:=S.hnod;simp only[fC]at hno;have hrel':=hv β' (λk hk=>by simp only[β'];rw[iP];simp only[fresh];omega) hβ kp (λb hb=>hoth b (hgn b hb))
 refine⟨β',?_⟩
 exact{
  rel:=λt=>by
   by_cases e:t=s
   . subst e;rw[qh];exact hrel'
   . rw[qg _ _ e];exact kp _ _ (S.occ t) (λh=>e (S.dis t s n h hn)) (S.rel t)
  nod:=λt=>by
   by_cases e:t=s
   . subst e;rw[qh];exact hnd
   . rw[qg _ _ e];exact S.nod t
  dis:=λt t' m h1 h2=>by
   have key: ∀t,t≠s->m∈ab (U.get t)->m∉ab av':=λt e h h'=>by
    rcases hns m h' with h3|h3|⟨k,hk,rfl⟩
    . exact e (S.dis t s m h h3)
    . exact S.hdis _ mS m h3 t h
    . exact hfr k hk t h
   by_cases e:t=s<;>by_cases e':t'=s
   . rw[e,e']
   . subst e;rw[qh]at h1;rw[qg _ _ e']at h2;grind
   . subst e';rw[qh]at h2;rw[qg _ _ e]at h1;grind
   . rw[qg _ _ e]at h1;rw[qg _ _ e']at h2;exact S.dis t t' m h1 h2
  occ:=λt m h=>by
   by_cases e:t=s
   . subst e;rw[qh]at h;exact ho m h
   . rw[qg _ _ e]at h;exact .inl (S.occ t m h)
  hrel:=λx hx=>kp _ _ (S.hocc x (mT hx)) (λh=>S.hdis x (mT hx) n h s hn) (S.hrel x (mT hx))
  hnod:=(zS.1 hno).2.1
  hdis:=λx hx m h t=>by
   by_cases e:t=s
   . subst e;rw[qh];intro h';rcases hns m h' with h3|h3|⟨k,hk,rfl⟩
     . exact S.hdis x (mT hx) m h t h3
     . grind
     . exact hfh k hk x hx h
   . rw[qg _ _ e];exact S.hdis x (mT hx) m h t
  hocc:=λx hx m h=> .inl (S.hocc x (mT hx) m h)
  wsz:=λb m h=>by simp only[setRow_size];exact S.wsz b m h
  fr0:=λb hb h0=>by
   rw[hoth b (by
    rintro rfl
    rcases h0 with h0|h0
    . rcases S.fr1 b n hg with h|h
      . exact h h0
      . omega
    . rw[S.fr3 b h0]at hg;injection hg with hg;exact S.dfn (hg▸S.occ s n (qj hn)))]
   exact S.fr0 b hb h0
  fr1:=S.fr1,fr2:=by simp only[setRow_size];exact S.fr2,fr3:=S.fr3,fr4:=S.fr4,dfn:=dk S.dfn,dfr:=S.dfr,tsz:=S.tsz,pin:=S.pin,frm:=(hβ 98 S.d98).trans S.frm,d98:= .inl S.d98}
end
section
variable {P:Program} {CO:Q8} {T:TT} {E:a8} {D:Nat->Prop} {β:aR} {who:bh} {U U':ao} {hd:List (AV×Value)} {a:Act} {w w':World} {R W:List Nat}
def WG {c:AV} {v:Value} (h:aW β who w c v):bo β who w c v/\ab c=qc c/\Vs.occ c=aL c/\ ∀β' who' w' v',bo β' who' w' c v'->aW β' who' w' c v':=by cases c with|bx o cs=>exact h.elim|agg cs=>exact h.elim|tup vs=>exact h.elim|_=>exact⟨h,rfl,rfl,λ_ _ _ _ h=>h⟩
def qkk (hT:bG P T) {t:Nat} {v:AV} {c:Value} (h:bo β who w v c):bo β who w (Jm T t v) c/\ab (Jm T t v)=ab v/\ ∀n∈Vs.occ (Jm T t v),n∈Vs.occ v:=by unfold Jm;split;{split;{have hc:c= .slice none 0 0:=h.1;exact⟨⟨hc,rfl⟩,rfl,λn hn=>by cases hn⟩};{exact⟨h,rfl,λn hn=>hn⟩}};grind
def aC.fix (hT:bG P T) {t:Nat} {v:AV} {c:Value} (S:aC E D β who U ((v,c)::hd) a w):aC E D β who U ((Jm T t v,c)::hd) a w:=by
 obtain⟨h1,h2,h3⟩:=qkk (t:=t) hT (S.hrel _ mS)
 exact{S with
  hrel:=λy hy=>by rcases mC hy with rfl|hy;exact h1;exact S.hrel y (mT hy)
  hnod:=by have:=S.hnod;grind
  hdis:=λy hy=>by
   rcases mC hy with rfl|hy
   . simp only[h2];exact S.hdis _ mS
   . exact S.hdis y (mT hy)
  hocc:=λy hy=>by
   rcases mC hy with rfl|hy
   . exact λn hn=>S.hocc _ mS n (h3 n hn)
   . exact S.hocc y (mT hy)}
def aC.swap {x y:AV×Value} (S:aC E D β who U (x::y::hd) a w):aC E D β who U (y::x::hd) a w:=by
 have hp:(x::y::hd).Perm (y::x::hd):=List.Perm.swap y x hd
 exact{S with
  hrel:=λz hz=>S.hrel z (hp.mem_iff.2 hz)
  hnod:=((hp.flatMap_right _).nodup_iff).1 S.hnod
  hdis:=λz hz=>S.hdis z (hp.mem_iff.2 hz)
  hocc:=λz hz=>S.hocc z (hp.mem_iff.2 hz)}
def Zf {t:Nat} {K:TI} (u:gC P t K) {b o:Nat} {c:Value} {arr:Array Value} {el:TypeId} (hb:w.heap[b]? =some (.cells arr el (0,0)))
 (G:c.cells.size=K.cells.length) (O:o+c.cells.size<=arr.size) (h1: ∀x∈c.cells.toList,x.oneCell'=true):
 (Instr.storeAt t (.pointer (some ⟨b,o,none⟩)) c).run P w= .ok () (w.setRow b (qm arr o c.cells.toList)):=by obtain⟨i,Q,J,_⟩:=u.info;have:=run_storeCells_at P b o el c.cells.toList 0 arr w hb (by simpa using O) h1;simp only[zQ]at this;simp only[Instr.storeAt,Instr.sureAddr,Sem.run_bind,Sem.run_pure,Result.andThen_ok,storeVar,Xy Q,J,G,ne_eq,not_true_eq_false,if_false,this];rfl
def Zq {n:Nat} {f:(t:Ty)->List (aX t)->Option (List (aX t))} {c c':AV} (h:eS n f c=some c'):
 (∃t xs ys,c= .sl (.nm n) t xs/\f t xs=some ys/\c'= .sl (.nm n) t ys)\/(∃t xs ys,c= .wn n t xs/\f t xs=some ys/\c'= .wn n t ys)\/(n∉qc c/\c'=c):=by cases c with|sl o t xs=>{cases o with|nm m=>{simp only[eS]at h;split at h;{grind};{rename_i e;injection h with h;subst h;exact .inr (.inr ⟨by simp only[qc,zC];exact λh=>e h.symm,rfl⟩)}}|_=>{injection h with h;subst h;exact .inr (.inr ⟨by simp[qc],rfl⟩)}}|dp m t xs hh=>{simp only[eS]at h;split at h;{cases h};{rename_i e;injection h with h;subst h;exact .inr (.inr ⟨by simp only[qc,zC];exact λh=>e h.symm,rfl⟩)}}|dq m t xs hh=>{simp only[eS]at h;split at h;{cases h};{rename_i e;injection h with h;subst h;exact .inr (.inr ⟨by simp only[qc,zC];exact λh=>e h.symm,rfl⟩)}}|wn m t xs=>{simp only[eS]at h;split at h;{grind};{rename_i e;injection h with h;subst h;exact .inr (.inr ⟨by simp only[qc,zC];exact λh=>e h.symm,rfl⟩)}}|_=>{injection h with h;subst h;exact .inr (.inr ⟨by simp[qc],rfl⟩)}
def N9 {n:Nat} {f:(t:Ty)->List (aX t)->Option (List (aX t))} {c c':AV} (h:eS n f c=some c'):qc c'=qc c/\aL c'=aL c:=by rcases Zq h with⟨t,xs,ys,rfl,_,rfl⟩|⟨t,xs,ys,rfl,_,rfl⟩|⟨_,rfl⟩<;>exact⟨rfl,rfl⟩
def Mc {n:Nat} {f:(t:Ty)->List (aX t)->Option (List (aX t))}: ∀{cs cs':List AV},nF n f cs=some cs'->
 cs'.length=cs.length/\cs'.flatMap qc=cs.flatMap qc/\cs'.flatMap aL=cs.flatMap aL/\ ∀j (h:j<cs.length) (h':j<cs'.length),eS n f cs[j]=some cs'[j]
 |[],cs',h=>by injection h with h;grind
 |c::cs,cs',h=>by simp only[nF]at h;split at h;{rename_i c1 G u h2;injection h with h;subst h;obtain⟨i1,i2,Q,O⟩:=Mc h2;obtain⟨K,J⟩:=N9 u;grind};{cases h}
def aT.store {t:Ty} {xs:List (aX t)} {b o i j:Nat} {arr:Array Value} {el:TypeId} {cs:List AV} {vs:List Value} {x':aX t}
 (hb:w.heap[b]? =some (.cells arr el (0,0))) (hE:aT who w t xs b o) (hi:i<xs.length) (hlen:vs.length=cs.length) (h0:o+xs.length*t.size<=arr.size)
 (hs:Za t (xs.getD i t.zero) j cs=some x') (hw: ∀k (h:k<cs.length),aW β who (w.setRow b (qm arr (o+i*t.size+j) vs)) (fq cs[k]) (vs.getD k undef))
 (G: ∀b',who b'=none->(w.setRow b (qm arr (o+i*t.size+j) vs)).heap[b']? =w.heap[b']?):
 aT who (w.setRow b (qm arr (o+i*t.size+j) vs)) t (xs.set i x') b o:=by have hx:xs.getD i t.zero=xs[i]:=by{simp[List.getD,List.getElem?_eq_getElem hi]};rw[hx]at hs;unfold Za at hs;split at hs;{rename_i e0;split at hs;{rename_i y hy;injection hs with hs;subst hs;have hp:=Ty.size_pos t;have hrange:o+i*t.size+t.size<=arr.size:=by{have:(i+1)*t.size<=xs.length*t.size:=zO _ O;rw[fT]at this;omega};have Q:o+i*t.size+j+vs.length<=arr.size:=O;have hheap:(w.setRow b (qm arr (o+i*t.size+j) vs)).heap[b]? =some (.cells (qm arr (o+i*t.size+j) vs) el (0,0)):=setRow_heap w b arr _ el _ hb;have hcell: ∀k,(w.setRow b (qm arr (o+i*t.size+j) vs)).cell? ⟨b,k,none⟩=if o+i*t.size+j<=k/\k<o+i*t.size+j+vs.length then vs[k-(o+i*t.size+j)]? else arr[k]? :=by{intro k;simp only[World.cell?,hheap];simpa using Qk Q k};have hold: ∀k,w.cell? ⟨b,k,none⟩=arr[k]? :=λk=>by{simp[World.cell?,hb]};have K:w.heap.size<=(w.setRow b (qm arr (o+i*t.size+j) vs)).heap.size:=by{simp};intro i' g0;have b0:i'<xs.length:=by{simpa using g0};by_cases e:i'=i;{subst e;rw[IJ];obtain⟨c0,hu⟩:=TA (β:=β) (hE i' hi);let f:Nat->Value:=λk=>if j<=k/\k<j+vs.length then vs.getD (k-j) undef else arr.getD (o+i'*t.size+k) undef;refine(NO (β:=β) (who:=who) (w:=w.setRow b (qm arr (o+i'*t.size+j) vs)) (f:=f) hy ?_ ?_).1;{intro k hk;have a0:j+cs.length<=(aD t xs[i']).length:=by{rw[c0];exact e0};have J:k<(aD t xs[i']).length:=by{rw[<-Xd a0];exact hk};rw[Jb a0 J];simp only[f];split;{grind};{rename_i hc;rw[af O];obtain⟨v,e1,e2⟩:=hu k J;rw[zH]at e1;simp only[ay,hold]at e1;have:arr.getD (o+i'*t.size+k) undef=v:=by{rw[Array.getD_eq_getD_getElem?,e1];rfl};rw[this];have d0:=(Ws (c:=fq (aD t xs[i'])[k]) (zk.2 ⟨_,zW J,rfl⟩)).1;exact aW.keep (β:=β) (β':=β) ⟨λ_ _=>rfl,(λm hm=>by rw[d0]at hm;cases hm),λb' u _=>⟨u,G b' u⟩,K⟩ e2}};{intro k hk;simp only[ay,hcell,zH,f];by_cases hc:j<=k/\k<j+vs.length;{grind};{rw[af O,af hc];rw[Array.getD_eq_getD_getElem?,Array.getElem?_eq_getElem O];rfl}}};{rw[II (λh=>e h.symm)];refine ba.ext' (g:=ay w b (o+i'*t.size)) (λk hk=> ?_) (ba.keep (λb' u _=>⟨u,G b' u⟩) K (hE i' b0));simp only[ay,hcell,hold,zH];rw[af];rintro ⟨q1,q2⟩;rcases Nat.lt_or_gt_of_ne e with h|h;{have:(i'+1)*t.size<=i*t.size:=zO _ h;grind};{have:(i+1)*t.size<=i'*t.size:=zO _ h;grind}}};{cases hs}};{cases hs}
end
end Go.Vs
