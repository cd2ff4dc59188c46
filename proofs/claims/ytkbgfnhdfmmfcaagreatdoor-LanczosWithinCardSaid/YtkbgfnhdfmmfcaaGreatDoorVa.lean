import Derived.Calls
import Derived.Laws.Sem
import Derived.Laws.Entries
import Derived.Laws.Rows
import Derived.Laws.CopyRow
import Derived.Laws.StructEq
import Derived.IntWalk
import Derived.Laws.MakeOwn
set_option linter.unusedVariables false
set_option linter.unusedSimpArgs false
set_option linter.unusedSectionVars false
set_option linter.defProp false
namespace Go.Vs
abbrev zA:=@List.mem_singleton
abbrev zC:=@Nat.not_lt_zero
abbrev zG:=@List.length_append
abbrev zH:=@Nat.zero_add
abbrev zI:=@Nat.le_refl
abbrev zJ:=@Nat.mul_add
abbrev zK:=@Bool.and_eq_true
abbrev zL:=@List.mem_flatMap
abbrev zM:=@List.length_replicate
abbrev zN:=@List.length_singleton
abbrev zO:=@Nat.mul_le_mul_right
abbrev zQ:=@Nat.le_trans
abbrev zS:=@Nat.add_zero
abbrev zT:=@List.nodup_append
abbrev zU:=@List.length_set
abbrev zV:=@Nat.mul_assoc
abbrev zW:=@List.getElem_mem
abbrev zX:=@List.length_take
abbrev zY:=@Nat.mul_comm
abbrev zZ:=@List.mem_append
abbrev zf:=@Option.some.injEq
abbrev zh:=@Nat.pow_le_pow_right
abbrev zi:=@List.length_map
abbrev zk:=@List.mem_map
abbrev zn:=@Nat.mul_le_mul_left
abbrev zq:=@List.all_eq_true
abbrev zu:=@List.mem_cons
abbrev zx:=@List.mem_append_left
abbrev zy:=@Nat.mul_zero
abbrev jy:=@Int.natAbs_natCast
abbrev dU:=@Nat.pow_pos
abbrev ml:=@List.getElem_of_mem
abbrev gx:=@Nat.pow_succ
abbrev oK:=@List.mem_of_mem_take
abbrev kl:=@Nat.mod_eq_of_lt
abbrev gr:=@Nat.add_mul
abbrev yp:=@List.take_append_drop
abbrev gq:=@Nat.lt_or_ge
abbrev yb:=@Nat.add_assoc
abbrev qM:=@Nat.pow_add
abbrev oZ:=@Int.natCast_mul
abbrev mA:=@List.length_drop
abbrev vF:=@List.getElem_append_right
abbrev lN:=@List.drop_zero
abbrev ym:=@Nat.and_two_pow_sub_one_eq_mod
abbrev oG:=@List.not_mem_nil
abbrev xf:=@Array.length_toList
abbrev mz:=@List.append_nil
abbrev oF:=@List.nodup_cons
abbrev Nw:=@Nat.two_pow_add_eq_or_of_lt
abbrev oJ:=@Int.natCast_pow
abbrev qT:=@List.append_assoc
abbrev ya:=@List.getElem_append_left
abbrev jF:=@Nat.mul_one
abbrev xd:=@List.take_of_length_le
abbrev tR:=@List.map_append
abbrev qL:=@List.getElem_map
abbrev xc:=@List.mem_append_right
abbrev lM:=@Nat.zero_le
abbrev xa:=@List.mem_of_mem_drop
abbrev x8:=@List.contains_iff_mem
abbrev vD:=@Nat.lt_of_le_of_lt
abbrev kh:=@Nat.mod_lt
abbrev qK:=@Nat.mul_le_mul
abbrev vC:=@Nat.mul_left_comm
abbrev ue:=@Nat.le_of_not_lt
abbrev yh:=@List.singleton_append
abbrev yg:=@Int.natCast_add
abbrev x6:=@List.flatMap_append
abbrev zo1:=@Bool.not_eq_true
abbrev x5:=@Nat.lt_of_lt_of_le
abbrev Cp:=@Nat.div_lt_iff_lt_mul
abbrev qS:=@Bool.not_true
abbrev GE:=@List.drop_eq_getElem_cons
abbrev vB:=@Nat.div_add_mod
abbrev vA:=@Nat.div_le_self
abbrev wZ:=@Nat.div_eq_of_lt
abbrev yf:=@List.length_range
abbrev Co:=@Nat.testBit_two_pow
abbrev Cm:=@List.map_congr_left
abbrev vH:=@List.mem_range
abbrev ui:=@List.map_cons
abbrev tS:=@Nat.add_comm
abbrev xh:=@List.take_zero
abbrev xg:=@Int.natAbs_neg
abbrev OL:=@List.set_eq_take_append_cons_drop
abbrev vG:=@Bool.true_and
abbrev yq:=@Option.getD_some
abbrev uh:=@Nat.le_of_lt
abbrev OJ:=@List.take_succ_eq_append_getElem
abbrev NG:=@Nat.mul_lt_mul_of_pos_right
abbrev ND:=@List.length_eq_zero_iff
abbrev NB:=@Nat.mod_two_eq_zero_or_one
abbrev yo:=@Option.map_some
abbrev yn:=@List.nil_append
abbrev Ct:=@List.cons_append
abbrev Cs:=@List.flatMap_nil
abbrev NA:=@Nat.lt_of_mul_lt_mul_left
abbrev Nz:=@Nat.add_mul_mod_self_left
abbrev ug:=@Int.le_refl
abbrev K5:=@Nat.le_div_iff_mul_le
abbrev K4:=@List.getElem_set_self
abbrev Nv:=@List.drop_drop
abbrev yk:=@List.nodup_nil
abbrev Cr:=@List.range_succ
abbrev xe:=@Int.zero_mul
abbrev zY2:=@Int.sub_eq_add_neg
abbrev GJ:=@Nat.eq_zero_or_pos
abbrev GH:=@Bool.false_eq_true
abbrev Nu:=@List.drop_eq_nil_of_le
abbrev x9:=@Nat.sub_self
abbrev K0:=@List.getElem_set_ne
abbrev KZ:=@Nat.pos_of_ne_zero
abbrev GG:=@List.take_length
abbrev Uq:=@Array.eq_empty_of_size_eq_zero
abbrev yj:=@Nat.pow_zero
abbrev yi:=@Nat.zero_mul
abbrev Cq:=@List.all_cons
abbrev x7:=@Nat.one_mul
abbrev CL:=@Bool.false_and
abbrev CK:=@Bool.not_false
abbrev Ns:=@Nat.div_lt_of_lt_mul
abbrev KX:=@List.getElem_take
abbrev KW:=@List.getElem_drop
abbrev OB:=@Nat.le_mul_of_pos_right
abbrev GF:=@Bool.or_eq_true
abbrev Nq:=@Nat.div_mul_le_self
abbrev No:=@List.getD_cons_zero
abbrev Oz:=@Option.map_eq_some_iff
abbrev KV:=@List.length_cons
abbrev zy2:=@Array.ext
abbrev Nm:=@Nat.add_sub_cancel
abbrev OP:=@List.length_filter_le
abbrev Lb:=@List.mem_filter
abbrev La:=@Nat.testBit_and
abbrev K9:=@Nat.min_eq_left
abbrev ON:=@Nat.eq_of_testBit_eq
abbrev CP:=@Bool.or_true
abbrev GM:=@Bool.and_true
abbrev NH:=@List.filter_cons
abbrev K7:=@Int.toNat_zero
abbrev K6:=@Int.natAbs_mul
abbrev UG:=@Nat.mul_div_cancel_left
abbrev NC:=@List.any_eq_true
abbrev CN:=@Nat.mod_mod
abbrev CM:=@Nat.log2_lt
abbrev OI:=@List.mem_replicate
abbrev GL:=@Int.zero_add
abbrev GK:=@List.map_nil
abbrev Uy:=@List.getElem_cons_zero
abbrev Ny:=@Nat.mod_add_div
abbrev Nx:=@List.length_nil
abbrev Uu:=@Nat.mul_div_mul_right
abbrev Ut:=@Bool.or_eq_false_iff
abbrev OH:=@List.range'_succ
abbrev OG:=@Nat.succ_mul
abbrev K3:=@Int.le_of_lt
abbrev OF:=@Int.natCast_ediv
abbrev K2:=@Int.mul_comm
abbrev K1:=@Int.add_zero
abbrev OE:=@Option.getD_none
abbrev Us:=@List.length_pos_iff
abbrev zc3:=@List.mem_of_getElem
abbrev OD:=@Int.mul_assoc
abbrev Nt:=@Bool.or_false
abbrev Ur:=@Nat.mul_div_cancel
abbrev Up:=@Int.natCast_nonneg
abbrev Uo:=@Int.cast_ofNat_Int
abbrev Un:=@Option.isSome_none
abbrev Um:=@List.zip_cons_cons
abbrev KY:=@Nat.or_comm
abbrev Ul:=@List.take_add_one
abbrev Uk:=@Classical.not_not
abbrev Uj:=@List.ext_getElem
abbrev Ui:=@List.flatMap_map
abbrev zp3:=@Array.toList_map
abbrev WU:=@Int.add_assoc
abbrev Nr:=@Int.pow_pos
abbrev OA:=@Int.neg_mul
abbrev zt3:=@Nat.pow_mul
abbrev Np:=@Nat.mul_pos
abbrev Nn:=@Int.mul_one
abbrev Uh:=@List.all_append
abbrev Ug:=@Nat.div_lt_self
abbrev Uf:=@Nat.and_le_left
abbrev Ue:=@Nat.mul_add_div
abbrev UN:=@Nat.mul_add_mod
abbrev UM:=@Nat.mul_eq_zero
abbrev OO:=@Int.le_trans
abbrev OM:=@Nat.sub_zero
abbrev OK:=@Int.sub_zero
abbrev UK:=@Nat.testBit_or
abbrev UJ:=@Int.ofNat_zero
abbrev UI:=@List.mapM_cons
abbrev UH:=@Nat.lt_irrefl
abbrev UF:=@Prod.mk.injEq
abbrev UE:=@Bool.and_self
abbrev UD:=@Nat.zero_div
abbrev UC:=@Int.pow_zero
abbrev UB:=@Bool.true_or
abbrev UA:=@Bool.or_comm
abbrev Uz:=@Int.mul_neg
abbrev Ux:=@Int.one_mul
abbrev Uw:=@Nat.pow_one
abbrev Uv:=@Nat.mod_le
def bS{α β}{a:α}{f:α->Option β}:(some a).bind f=f a:=rfl
def tN(n:Nat):(n:Int).toNat=n:=rfl
def nZ:((0:Nat):Int)=0:=rfl
def iP{c:Prop}{h:Decidable c}(u:c){α:Sort _}{t e:α}:ite c t e=t:=if_pos u
def ae{c:Prop}{h:Decidable c}(u:¬c){α:Sort _}{t e:α}:ite c t e=e:=if_neg u
def fC{α β}{x:α}{xs:List α}{f:α->List β}:(x::xs).flatMap f=f x++xs.flatMap f:=List.flatMap_cons
def mS{α}{a:α}{l:List α}:a∈a::l:=List.mem_cons_self
def mT{α}{a:α}{l:List α}{y:α}(h:a∈l):a∈y::l:=List.mem_cons_of_mem y h
def mC{α}{a b:α}{l:List α}(h:a∈b::l):a=b\/a∈l:=zu.1 h
abbrev LI:=List Int
def O{p:Prop}(h:p:=by omega):p:=h
inductive Ty where
 |int (k:IntKind)
 |bool
 |sl (inn:Bool) (t:Ty)
 |pr (a b:Ty)
 deriving DecidableEq
@[reducible] def aX:Ty->Type
  | .int _=>Int
  | .bool=>Bool
  | .sl _ t=>List (aX t)
  | .pr a b=>aX a×aX b
def Ty.size:Ty->Nat
 | .int _| .bool| .sl _ _=>1
 | .pr a b=>a.size+b.size
def Ty.zero:(t:Ty)->aX t
 | .int _=>(0:Int)
 | .bool=>false
 | .sl _ _=>[]
 | .pr a b=>(a.zero,b.zero)
inductive Ub where
 |imm
 |nm (n:Nat)
 |nl
 |inn
 deriving DecidableEq
inductive DK where
 |whole
 |cell (i:Nat)
 |row (i:Nat)
 |elem (sz i j k:Nat)
 |lenw (l:Nat)
 deriving DecidableEq
def DK.strip:DK->DK
 | .lenw _=> .whole
 |k=>k
inductive AV where
 |dead
 |bool (b:Bool)
 |int (k:IntKind) (n:Int)
 |lit (v:Value)
 |sl (o:Ub) (t:Ty) (xs:List (aX t))
 |bx (o:Ub) (cells:List AV)
 |agg (cells:List AV)
 |tup (vs:List AV)
 |ref (s n sz:Nat) (win:Option (Nat×Nat))
 |ptr (s n sz i j:Nat)
 |iptr (g:Option Nat) (t:Ty) (xs:List (aX t)) (i j:Nat)
 |dp (n:Nat) (t:Ty) (xs:List (List (aX t))) (h:Option Nat)
 |dr (s n:Nat) (k:DK)
 |wn (n:Nat) (t:Ty) (xs:List (aX t))
 |dq (n:Nat) (t:Ty) (xs:List (aX t)) (h:Option Nat)
abbrev ao:=List (Nat×AV)
def ao.get:ao->Nat->AV
 |[],_=> .dead
 |(k,v)::r,s=>if k=s then v else ao.get r s
def ao.set:ao->Nat->AV->ao
 |[],s,v=>[(s,v)]
 |(k,u)::r,s,v=>if k=s then(k,v)::r else(k,u)::ao.set r s v
def Xt (s:Nat):AV->AV
 | .sl (.nm n) t _=> .ref s n t.size none
 | .dp n _ xs _=> .dr s n (.lenw xs.length)
 | .wn n t _=> .ref s n t.size none
 | .dq _ _ _ _=> .dead
 |v=>v
def dw (s:Nat):AV->Option AV
 | .dead=>none
 | .tup _=>none
 | .dq n t _ _=>some (.ref s n t.size none)
 | .bx (.nm n) _=>some (.ptr s n 1 0 0)
 | .bx _ _=>none
 | .agg cells=>some (.agg (cells.map (Xt s)))
 | .sl (.nm n) t _=>some (.ref s n t.size none)
 | .dp n _ _ _=>some (.dr s n .whole)
 | .wn n t _=>some (.ref s n t.size none)
 |v=>some v
def fm (s j:Nat):AV->Option AV
 | .bx (.nm _) cells=>(cells[j]?).map (Xt s)
 | .tup vs=>vs[j]?
 | .dp n _ xs _=>if j=0 then some (.dr xs.length n .whole)else none
 |_=>none
def dh (s:Nat):Nat->AV->Option AV
 |0,a=>some a
 |1,a=>dw s a
 |j+2,a=>if j<15 then fm s j a else none
inductive M (α:Type) where
 |ret (a:α)
 |fail
 |get (s:Nat) (k:AV->M α)
 |set (s:Nat) (v:AV) (k:M α)
 |ask (p:Prop) (d:Decidable p) (k:M α)
 |know (s:Nat) (k:Bool->M α)
 |view (s j:Nat) (k:Option AV->M α)
 |upd (s:Nat) (W:List Nat) (f:AV->Option AV) (hf: ∀a b,f a=some b-> ∀j,j∉W->dh s j b=dh s j a) (k:M α)
 |call (f:Nat) (args:List AV) (k:AV->List AV->M α)
def M.bind {α β:Type}:M α->(α->M β)->M β
 | .ret a,f=>f a
 | .fail,_=> .fail
 | .get s k,f=> .get s λv=>(k v).bind f
 | .set s v k,f=> .set s v (k.bind f)
 | .ask p d k,f=> .ask p d (k.bind f)
 | .know s k,f=> .know s λb=>(k b).bind f
 | .view s j k,f=> .view s j λb=>(k b).bind f
 | .upd s W g h k,f=> .upd s W g h (k.bind f)
 | .call g as k,f=> .call g as λr os=>(k r os).bind f
instance:Monad M where
 pure:=M.ret
 bind:=M.bind
def cM (s:Nat):M AV:= .get s .ret
def fI (s:Nat) (v:AV):M Unit:= .set s v (.ret ())
def dJ (p:Prop) [d:Decidable p]:M Unit:= .ask p d (.ret ())
def yX (s:Nat):M Bool:= .know s .ret
def iM (s j:Nat):M (Option AV):= .view s j .ret
def mJ (s:Nat) (W:List Nat) (f:AV->Option AV) (u: ∀a b,f a=some b-> ∀j,j∉W->dh s j b=dh s j a):M Unit:= .upd s W f u (.ret ())
def mK (f:Nat) (args:List AV):M (AV×List AV):= .call f args λr os=> .ret (r,os)
def ux {α:Type}:Option α->M α
 |some a=> .ret a
 |none=> .fail
inductive ZC where
 |int (k:IntKind)
 |bool
 |nil (t:Ty)
 |other
 deriving DecidableEq
inductive TD where
 |int (k:IntKind)
 |bool
 |slice (e:Nat) (t:Ty)
 |struct (fs:List (Nat×Nat))
 |array (n:Nat) (esz:Nat)
 |ptr (e:Nat)
 |string
 |tab (g:Nat) (k:IntKind) (xs:LI)
 |other
structure TI where
 desc:TD
 cells:List ZC
abbrev TT:=List (Option TI)
def TT.at (T:TT) (t:Nat):Option TI:=match T[t]? with|some x=>x|none=>none
def qc:AV->List Nat
 | .sl (.nm n) _ _=>[n]
 | .dp n _ _ _=>[n]
 | .wn n _ _=>[n]
 | .dq n _ _ _=>[n]
 |_=>[]
def qh:AV->List Nat
 | .bx (.nm n) cells=>n::cells.flatMap qc
 | .bx _ cells=>cells.flatMap qc
 | .agg cells=>cells.flatMap qc
 |v=>qc v
def ab:AV->List Nat
 | .tup vs=>vs.flatMap qh
 |v=>qh v
def aF:(t:Ty)->aX t->List AV
 | .int k,x=>[.int k x]
 | .bool,x=>[.bool x]
 | .sl b t,x=>[.sl (if b then .inn else .imm) t x]
 | .pr a b,x=>aF a x.1++aF b x.2
def J4:(t:Ty)->List AV->Option (aX t×List AV)
 | .int k,.int G x::r=>if G=k then some (x,r)else none
 | .bool,.bool x::r=>some (x,r)
 | .sl b t,.sl o t' xs::r=>
   if h:t'=t then
    (match b,o with
     |true,.nm _|true,.nl|true,.inn=>some (h▸xs,r)
     |false,.imm|false,.nl|false,.nm _=>some (h▸xs,r)
     |_,_=>none)
   else none
 | .pr a b,cs=>
   match J4 a cs with
   |some (x,r)=>match J4 b r with
    |some (y,u)=>some ((x,y),u)
    |none=>none
   |none=>none
 |_,_=>none
def Qh {α:Type}:List α->Nat->List α->List α
 |l,_,[]=>l
 |[],_,_=>[]
 |_::l,0,c::cs=>c::Qh l 0 cs
 |x::l,j+1,cs=>x::Qh l j cs
def Yy:AV->AV
 | .sl (.nm _) t xs=> .sl .imm t xs
 | .dp _ t xs none=> .sl .imm (.sl false t) xs
 | .dp _ _ _ (some _)=> .dead
 | .wn _ _ _=> .dead
 | .dq _ t xs none=> .sl .imm t xs
 | .dq _ _ _ (some _)=> .dead
 |v=>v
def freeze:AV->AV
 | .sl (.nm _) t xs=> .sl .imm t xs
 | .dp _ t xs none=> .sl .imm (.sl false t) xs
 | .dp _ _ _ (some _)=> .dead
 | .wn _ _ _=> .dead
 | .dq _ t xs none=> .sl .imm t xs
 | .dq _ _ _ (some _)=> .dead
 | .agg cells=> .agg (cells.map Yy)
 |v=>v
def PJ:Value->AV
 | .bool b=> .bool b
 | .int k n=> .int k n
 | .agg _=> .dead
 | .tuple _=> .dead
 |v=> .lit v
def rd:Operand->M AV
 | .tmp t=>do let a<-iM t 1;ux a
 | .const v=>pure (PJ v)
 | .func f=>pure (.lit (.func (.func f) #[] #[]))
 | .global _=> .fail
def NY (a:AV):Bool:= !(ab a).isEmpty
def rdT:Operand->M AV
 | .tmp t=>do
   let a<-cM t
   match a with
   | .dead=> .fail
   | .tup vs=>do fI t .dead;pure (.tup vs)
   |a=>if NY a then do fI t .dead;pure a else pure a
 |x=>rd x
def rdF:Operand->M AV
 | .tmp t=>do
   let a<-cM t
   match a with
   | .dead| .tup _| .bx _ _| .dp _ _ _ (some _)| .dq _ _ _ (some _)| .wn _ _ _=> .fail
   |a=>if NY a then do fI t (freeze a);pure (freeze a)else pure a
 |x=>rd x
def Q1 (n:Nat):AV->Bool
 | .sl (.nm m) _ _=>Nat.beq m n
 |_=>false
def qG (n:Nat):List AV->Nat->Option Nat
 |[],_=>none
 |c::cs,k=>match Q1 n c with
  |true=>some k
  |false=>qG n cs (k+1)
def ZQ (j:Nat):AV->Option AV
 | .bx (.nm m) cells=>some (.bx (.nm m) (cells.set j .dead))
 |_=>none
def q94 {s j:Nat} (a b:AV) (h:ZQ j a=some b): ∀i,i∉[0,j+2]->dh s i b=dh s i a:=by
 intro i u;simp only[zu,oG,or_false,not_or]at u;unfold ZQ at h;split at h
 . cases h
   match i,u with
   |0,u=>exact absurd rfl u.1
   |1,_=>rfl
   |k+2,u=>
    simp only[dh,fm]
    grind
 . cases h
def qap (i:Nat):AV->Option AV
 | .tup vs=>some (.tup (vs.set i .dead))
 |_=>none
def q96 {s j:Nat} (a b:AV) (h:qap j a=some b): ∀i,i∉[0,j+2]->dh s i b=dh s i a:=by
 intro i u;simp only[zu,oG,or_false,not_or]at u;unfold qap at h;split at h
 . cases h
   match i,u with
   |0,u=>exact absurd rfl u.1
   |1,_=>rfl
   |k+2,u=>
    simp only[dh,fm]
    grind
 . cases h
def claim:Operand->M AV
 | .tmp t=>do
   let a<-iM t 1
   match a with
   |some (.ref s n _ none)=>do
    let b<-cM s
    match b with
    | .sl (.nm m) ty xs=>if m=n then do fI s .dead;pure (.sl (.nm m) ty xs)else .fail
    | .bx (.nm _) cells=>match qG n cells 0 with
      |some j=>do
       mJ s [0,j+2] (ZQ j) q94
       pure (cells.getD j .dead)
      |none=> .fail
    |_=> .fail
   |_=> .fail
 |_=> .fail
def rdC (mode:Nat) (x:Operand):M AV:=
 match mode with
 |3=>claim x
 |_=>rdT x
def rdm (mode:Nat) (x:Operand):M AV:=
 match mode with
 |0=>rd x
 |1=>rdT x
 |3=>claim x
 |_=>rdF x
def rdQ (mode:Nat) (x:Operand):M AV:=
 match mode with
 |2=>rdF x
 |_=>rdT x
def lV:AV->AV
 | .sl .nl t xs=> .sl .imm t xs
 |v=>v
def xZ:AV->AV
 | .sl .nl (.sl _ t) xs=> .sl .nl (.sl true t) xs
 |v=>v
def nlI (mode:Nat) (v:AV):AV:=
 match mode with
 |6=>(match v with
  | .agg cells=> .agg (cells.map xZ)
  |v=>v)
 |2=>(match v with
  | .agg cells=> .agg (cells.map lV)
  |v=>lV v)
 |_=>v
def Jl (T:TT) (ty:Nat):AV->AV
 | .lit (.slice none 0 0)=>match T.at ty with
   |some {desc:= .slice _ t,.. }=> .sl .nl t []
   |_=> .lit (.slice none 0 0)
 |v=>v
def fresh (idx k:Nat):Nat:=100+idx*16+k
def yU (n:Nat):(t:Ty)->List (aX t)->AV
 | .sl true t,xs=> .dp n t xs none
 |t,xs=> .sl (.nm n) t xs
def Xh (n:Nat):AV->Option AV
 | .bool b=>some (.bool b)
 | .int k x=>some (.int k x)
 | .lit v=>some (.lit v)
 | .sl .imm t xs=>some (.sl .imm t xs)
 | .sl (.nm m) t xs=>some (.sl (.nm m) t xs)
 | .sl .nl t xs=>some (yU n t xs)
 | .dp m t xs none=>some (.dp m t xs none)
 |_=>none
def Yi (idx:Nat):Nat->List AV->Option (List AV)
 |_,[]=>some []
 |k,c::cs=>if k<15 then
   match Xh (fresh idx k) c,Yi idx (k+1) cs with
   |some c',some cs'=>some (c'::cs')
   |_,_=>none
  else none
def cellsOf:AV->List AV
 | .agg cs=>cs
 |v=>[v]
def OC (n:Nat):ZC->Option AV
 | .int k=>some (.int k 0)
 | .bool=>some (.bool false)
 | .nil t=>some (.sl (.nm n) t [])
 | .other=>none
def qpa:ZC->Option AV
 | .int k=>some (.int k 0)
 | .bool=>some (.bool false)
 | .nil t=>some (.sl .nl t [])
 | .other=>none
def Q9:TD->Bool
 | .struct _| .array _ _| .tab _ _ _=>true
 |_=>false
def me (agg:Bool) (cs:List AV):Option AV:=
 if agg then some (.agg cs)else match cs with
  |[c]=>some c
  |_=>none
def fY (n:Nat):AV->Option (Sigma λt:Ty=>List (aX t))
 | .sl (.nm m) t xs=>if m=n then some ⟨t,xs⟩else none
 | .wn m t xs=>if m=n then some ⟨t,xs⟩else none
 |_=>none
def mc (n:Nat):List AV->Option (Sigma λt:Ty=>List (aX t))
 |[]=>none
 |c::cs=>match fY n c with
  |some x=>some x
  |none=>mc n cs
def iX (n:Nat):AV->Option (Sigma λt:Ty=>List (aX t))
 | .bx _ cells=>mc n cells
 | .agg cells=>mc n cells
 |v=>fY n v
def fp (n:Nat) (f:(t:Ty)->List (aX t)->Option (List (aX t))):AV->Option AV
 | .sl (.nm m) t xs=>if m=n then(match f t xs with|some ys=>some (.sl (.nm m) t ys)|none=>none)else some (.sl (.nm m) t xs)
 | .dp m t xs h=>if m=n then none else some (.dp m t xs h)
 | .dq m t xs h=>if m=n then none else some (.dq m t xs h)
 | .wn m t xs=>if m=n then(match f t xs with|some ys=>some (.wn m t ys)|none=>none)else some (.wn m t xs)
 |v=>some v
def oN (n:Nat) (f:(t:Ty)->List (aX t)->Option (List (aX t))):List AV->Option (List AV)
 |[]=>some []
 |c::cs=>match fp n f c,oN n f cs with
  |some c',some cs'=>some (c'::cs')
  |_,_=>none
def fz (n:Nat) (f:(t:Ty)->List (aX t)->Option (List (aX t))):AV->Option AV
 | .bx o cells=>match oN n f cells with|some cs=>some (.bx o cs)|none=>none
 | .agg cells=>match oN n f cells with|some cs=>some (.agg cs)|none=>none
 |v=>fp n f v
def window {α:Type} (xs:List α):Option (Nat×Nat)->List α
 |none=>xs
 |some (off,len)=>(xs.drop off).take len
def Jp:Option (Nat×Nat)->Nat
 |none=>0
 |some (o,_)=>o
def nodeOf (s n sz:Nat):M (Sigma λt:Ty=>List (aX t)):=do
 let a<-cM s
 match iX n a with
 |some ⟨t,xs⟩=>if sz=t.size then pure ⟨t,xs⟩else .fail
 |none=> .fail
def shown:AV->M (Sigma λt:Ty=>List (aX t))
 | .sl .imm t xs=>pure ⟨t,xs⟩
 | .sl .nl t xs=>pure ⟨t,xs⟩
 | .sl (.nm _) t xs=>pure ⟨t,xs⟩
 | .ref s n sz u=>do
   let x<-nodeOf s n sz
   pure ⟨x.1,window x.2 u⟩
 |_=> .fail
def fJ:AV->AV
 | .sl _ t xs=> .sl .imm t xs
 |v=>v
def M.ofOpt {α β:Type} (x:Option α) (f:α->M β):M β:=match x with
 |some a=>f a
 |none=> .fail
def Ca (op:BinOp) (k:IntKind) (x y:Int):Option Int:=
 match op with
 | .and=>some (k.wrap (BitVec.ofInt k.bits x&&&BitVec.ofInt k.bits y).toNat)
 | .or=>some (k.wrap (BitVec.ofInt k.bits x|||BitVec.ofInt k.bits y).toNat)
 | .xor=>some (k.wrap (BitVec.ofInt k.bits x^^^BitVec.ofInt k.bits y).toNat)
 | .andNot=>some (k.wrap (BitVec.ofInt k.bits x&&& ~~~(BitVec.ofInt k.bits y)).toNat)
 |_=>none
def YC (op:BinOp) (k:IntKind) (x y:Int):M AV:=
 match op with
 | .add=>pure (.int k (k.wrap (x+y)))
 | .sub=>pure (.int k (k.wrap (x-y)))
 | .mul=>pure (.int k (k.wrap (x*y)))
 | .quo=>do dJ (y≠0);pure (.int k (k.wrap (x.tdiv y)))
 | .rem=>do dJ (y≠0);pure (.int k (x.tmod y))
 | .eql=>pure (.bool (x==y))
 | .neq=>pure (.bool (x !=y))
 | .lss=>pure (.bool (x<y))
 | .leq=>pure (.bool (x<=y))
 | .gtr=>pure (.bool (x>y))
 | .geq=>pure (.bool (x>=y))
 |op=>match Ca op k x y with
  |some r=>pure (.int k r)
  |none=> .fail
def Cb (T:TT) (op:BinOp) (ty:Nat) (x y:AV):M AV:=
 match x,y with
 | .int k a,.int u b=>
   match op with
   | .shl=>do dJ (0<=b);pure (.int k (k.wrap (a*2^(min b.toNat k.bits))))
   | .shr=>do dJ (0<=b);pure (.int k (a.fdiv (2^(min b.toNat k.bits))))
   |op=>if k=u then YC op k a b else .fail
 | .bool a,.bool b=>
   match T.at ty with
   |some {desc:= .bool,.. }=>
    match op with
    | .eql=>pure (.bool (a==b))
    | .neq=>pure (.bool (!(a==b)))
    |_=> .fail
   |_=> .fail
 |_,_=> .fail
def Le (op:UnOp) (x:AV):M AV:=
 match op,x with
 | .neg,.int k n=>pure (.int k (k.wrap (0-n)))
 | .xor,.int k n=>pure (.int k (k.wrap (BitVec.ofInt k.bits (if k.signed then-1 else k.max)^^^BitVec.ofInt k.bits n).toNat))
 | .not,.bool b=>pure (.bool !b)
 |_,_=> .fail
def YG (T:TT) (src dst:Nat) (x:AV):M AV:=
 match T.at src,T.at dst,x with
 |some _,some {desc:= .int k,.. },.int _ n=>pure (.int k (k.wrap n))
 |_,_,_=> .fail
def zc (T:TT) (ty:Nat) (x:AV):M AV:=
 match T.at ty with
 |some {desc:= .slice _ _,.. }=>do
  let y<-shown x
  pure (.int .i64 y.2.length)
 |_=> .fail
def XH (T:TT) (idx ty:Nat) (l c:AV):M AV:=
 match T.at ty,l,c with
 |some {desc:= .slice _ t,.. },.int .i64 l,.int .i64 c=>do
  dJ (0<=l/\l<=c/\c<=1073741824)
  pure (.sl (.nm (fresh idx 15)) t (List.replicate l.toNat t.zero))
 |_,_,_=> .fail
def qbk (T:TT) (idx:Nat) (u:Array TypeId) (x y:AV):M AV:=
 match u[0]?,u[1]? with
 |some K,some J=>
  match T.at K,T.at J with
  |some {desc:= .slice _ G,.. },some {desc:= .slice _ _,.. }=>do
   let y<-shown y
   match x with
   | .sl (.nm _) t xs=>
     if h:y.1=t/\G.size=t.size then do
      dJ (xs.length+y.2.length<=1073741824)
      pure (.sl (.nm (fresh idx 15)) t (xs++(h.1▸y.2)))
     else .fail
   | .sl .nl t _=>
     if h:y.1=t/\G.size=t.size then do
      dJ (y.2.length<=1073741824)
      pure (.sl (.nm (fresh idx 15)) t (h.1▸y.2))
     else .fail
   |_=> .fail
  |_,_=> .fail
 |_,_=> .fail
def XL (T:TT) (idx:Nat) (u:Array TypeId) (x y:AV):M AV:=
 match u[0]? with
 |some G=>
  match T.at G with
  |some {desc:= .slice _ J,.. }=>do
   let y<-shown y
   match x with
   | .ref s n sz none=>do
     let a<-cM s
     match a with
     | .sl (.nm m) t xs=>
       if h:y.1=t/\J.size=t.size/\m=n then do
        dJ (0<y.2.length/\0<xs.length)
        fI s (.sl (.nm (fresh idx 15)) t ((h.1▸y.2:List (aX t)).take xs.length++xs.drop y.2.length))
        pure (.int .i64 (min y.2.length xs.length:Nat))
       else .fail
     |_=> .fail
   |_=> .fail
  |_=> .fail
 |_=> .fail
def qyi (u:Int):Option AV->Option Int
 |none=>some u
 |some (.int .i64 n)=>some n
 |some _=>none
def VC {α:Type} (xs:List α) (lo u:Option Int):List α:=
 match lo,u with
 |none,none=>xs
 |some l,none=>xs.drop l.toNat
 |none,some h=>xs.take h.toNat
 |some l,some h=>(xs.drop l.toNat).take (h.toNat-l.toNat)
def uz :Option AV->Option (Option Int)
 |none=>some none
 |some (.int .i64 n)=>some (some n)
 |some _=>none
def ZB (T:TT) (idx ty:Nat) (x:AV) (lo G:Option AV):M AV:=
 match T.at ty,uz lo,uz G with
 |some {desc:= .slice _ J,.. },some lo,some G=>
  match x with
  | .sl .imm t xs=>if J.size=t.size then do
     dJ (0<=lo.getD 0/\lo.getD 0<=G.getD xs.length/\G.getD xs.length<=xs.length)
     pure (.sl .imm t (VC xs lo G))
    else .fail
  | .sl (.nm _) t xs=>if J.size=t.size then do
     dJ (0<=lo.getD 0/\lo.getD 0<=G.getD xs.length/\G.getD xs.length<=xs.length)
     pure (.sl (.nm (fresh idx 15)) t (VC xs lo G))
    else .fail
  | .ref s n sz u=>if J.size=sz then do
     let x<-nodeOf s n sz
     dJ (0<=lo.getD 0/\lo.getD 0<=G.getD (window x.2 u).length/\G.getD (window x.2 u).length<=(window x.2 u).length)
     pure (.ref s n sz (some (Jp u+(lo.getD 0).toNat,(G.getD ((window x.2 u).length:Int)).toNat-(lo.getD 0).toNat)))
    else .fail
  |_=> .fail
 |_,_,_=> .fail
def q3a (T:TT) (ty:Nat) (x i:AV):M AV:=
 match T.at ty,i with
 |some {desc:= .slice _ G,.. },.int _ i=>
  match x with
  | .sl .imm t xs=>if G.size=t.size then do
     dJ (0<=i/\i<xs.length)
     pure (.iptr none t xs i.toNat 0)
    else .fail
  | .ref s n sz u=>if G.size=sz then do
     let x<-nodeOf s n sz
     dJ (0<=i/\i<(window x.2 u).length)
     pure (.ptr s n sz (Jp u+i.toNat) 0)
    else .fail
  |_=> .fail
 |_,_=> .fail
def yx (T:TT) (t g:Nat) (i:AV):M AV:=
 match T.at t,i with
 |some {desc:= .tab g' k xs,.. },.int _ i=>
  if g'=g then do
   dJ (0<=i/\i<xs.length)
   pure (.iptr none (.int k) xs i.toNat 0)
  else .fail
 |_,_=> .fail
def fP (s:ByteArray):LI:=s.data.toList.map λb=>(b.toNat:Int)
def ZI (T:TT) (t:Nat) (x i:AV):M AV:=
 match T.at t,x,i with
 |some {desc:= .string,.. },.lit (.string s),.int _ i=>do
  dJ (0<=i/\i<(fP s).length)
  pure (.int .u8 ((fP s).getD i.toNat 0))
 |_,_,_=> .fail
def q3h (T:TT) (ty:Nat) (x:AV) (f:Nat):M AV:=
 match T.at ty with
 |some {desc:= .struct fs,.. }=>
  match fs[f]? with
  |some (off,u)=>
   if u=0 then .fail else
   match x with
   | .ptr s n sz i j=>pure (.ptr s n sz i (j+off))
   | .iptr none t xs i j=>pure (.iptr none t xs i (j+off))
   | .dr s n (.elem sz i j k)=>pure (.dr s n (.elem sz i j (k+off)))
   |_=> .fail
  |none=> .fail
 |_=> .fail
def di (size:Nat) (agg:Bool) (cells:List AV) (off:Nat):Option AV:=
 if off+size<=cells.length then me agg ((cells.drop off).take size)else none
def Y5 (cells:List AV) (j size:Nat):List AV:=Qh cells j (List.replicate size .dead)
def LC (size:Nat) (agg:Bool) (n sz i j:Nat) (a:AV):Option AV:=
 match iX n a with
 |some ⟨t,xs⟩=>if sz=t.size then di size agg ((aF t (xs.getD i t.zero)).map fJ) j else none
 |none=>none
def Jz (size:Nat) (agg:Bool) (mode s n sz i j:Nat) (a:AV):Option (AV×Option AV):=
 match a with
 | .bx (.nm m) cells=>
   if m=n then
    if mode=1 then(di size agg cells j).map λv=>(v,some (.bx (.nm m) (Y5 cells j size)))
    else(di size agg (cells.map (Xt s)) j).map λv=>(v,none)
   else(LC size agg n sz i j (.bx (.nm m) cells)).map λv=>(v,none)
 |a=>(LC size agg n sz i j a).map λv=>(v,none)
def wW:Option AV->Option Nat
 |some (.ptr _ m _ _ _)=>some m
 |_=>none
def q7q (s:Nat):Nat->Nat->M (List AV)
 |_,0=>pure []
 |j,n+1=>do
  let c<-iM s (j+2)
  match c with
  |some c=>do
   let cs<-q7q s (j+1) n
   pure (c::cs)
  |none=> .fail
def N5 (mode:Nat) (u:TI) (s n sz i j:Nat):M AV:=do
 let a<-cM s
 match Jz u.cells.length (Q9 u.desc) mode s n sz i j a with
 |some (v,none)=>pure v
 |some (v,some G)=>do fI s G;pure v
 |none=> .fail
def Vj (T:TT) (mode ty:Nat) (p:AV):M AV:=
 match T.at ty with
 |none=> .fail
 |some u=>
  match p with
  | .iptr none t xs i j=>ux (di u.cells.length (Q9 u.desc) ((aF t (xs.getD i t.zero)).map fJ) j)
  | .ptr s n sz i j=>
    match mode with
    |1=>N5 1 u s n sz i j
    |mode=>do
     let G<-iM s 1
     match wW G with
     |some m=>
      if m=n/\0<u.cells.length then do
       let cs<-q7q s j u.cells.length
       ux (me (Q9 u.desc) cs)
      else N5 mode u s n sz i j
     |none=>N5 mode u s n sz i j
  |_=> .fail
def wV (p:AV):M Unit:=
 match p with
 | .ptr s n _ _ _=>do
   let a<-cM s
   match a with
   | .bx (.nm m) cells=>if m=n then fI s (.bx (.nm m) (cells.map Yy))else .fail
   |_=> .fail
 |_=> .fail
def Z8 (t:Ty) (x:aX t) (j:Nat) (cs:List AV):Option (aX t):=
 if j+cs.length<=t.size then
  match J4 t (Qh (aF t x) j cs)with
  |some (y,[])=>some y
  |_=>none
 else none
def cr:AV->Bool
 | .bool _| .int _ _| .sl .imm _ _| .sl .nl _ _=>true
 |_=>false
def Yr (n sz i j:Nat) (cs:List AV) (a:AV):Option AV:=
 if cs.all cr&&(iX n a).isSome then fz n (λt xs=>if sz=t.size then(Z8 t (xs.getD i t.zero) j cs).map (xs.set i)else none) a else none
def On (idx n sz i j:Nat) (cs:List AV) (a:AV):Option AV:=
 match a with
 | .bx (.nm m) cells=>
   if m=n then
    match Yi idx 0 cs with
    |some cs'=>if j+cs.length<=cells.length then some (.bx (.nm m) (Qh cells j cs'))else none
    |none=>none
   else Yr n sz i j cs (.bx (.nm m) cells)
 |a=>Yr n sz i j cs a
def qki {n s:Nat} {f:(t:Ty)->List (aX t)->Option (List (aX t))} {c c':AV} (h:fp n f c=some c'):Xt s c'=Xt s c:=by unfold fp at h;split at h;{rename_i m t xs;split at h;{split at h;{cases h;rfl};{cases h}};{cases h;rfl}};{grind};{grind};{split at h;{split at h;{cases h;rfl};{cases h}};{cases h;rfl}};{cases h;rfl}
def q56 {n s:Nat} {f:(t:Ty)->List (aX t)->Option (List (aX t))}: ∀{cs cs':List AV},oN n f cs=some cs'->cs'.map (Xt s)=cs.map (Xt s)
 |[],cs',h=>by cases h;rfl
 |c::cs,cs',h=>by unfold oN at h;split at h;{rename_i d G u h2;cases h;simp only[ui,qki u,q56 h2]};{cases h}
def q9o {n s:Nat} {f:(t:Ty)->List (aX t)->Option (List (aX t))} {a b:AV} (h:fz n f a=some b): ∀j,j∉[0]->dh s j b=dh s j a:=by
 intro j hj
 match j,hj with
 |0,hj=>grind
 |1,_=>
  show dw s b=dw s a
  unfold fz at h;split at h
  . rename_i o cells;split at h
    . cases h
      cases o<;>rfl
    . cases h
  . split at h
    . rename_i hcs;cases h;show some (AV.agg _)=some (AV.agg _);rw[q56 hcs]
    . cases h
  . unfold fp at h;split at h
    . split at h
      . split at h
        . cases h;rfl
        . cases h
      . cases h;rfl
    . grind
    . grind
    . split at h
      . split at h
        . cases h;rfl
        . cases h
      . cases h;rfl
    . cases h;rfl
 |j+2,_=>
  simp only[dh];split
  . unfold fz at h;split at h
    . rename_i o cells;split at h
      . rename_i hcs;cases h;cases o with
        |nm m=>
         have:=congrArg (λl=>l[j]?) (q56 (s:=s) hcs)
         simpa only[fm,List.getElem?_map]using this
        |_=>rfl
      . cases h
    . split at h
      . cases h;rfl
      . cases h
    . unfold fp at h;split at h
      . split at h
        . split at h
          . cases h;rfl
          . cases h
        . cases h;rfl
      . grind
      . grind
      . split at h
        . split at h
          . cases h;rfl
          . cases h
        . cases h;rfl
      . cases h;rfl
  . rfl
def q1s {n sz i j s:Nat} {cs:List AV} (a b:AV) (h:Yr n sz i j cs a=some b): ∀k,k∉[0]->dh s k b=dh s k a:=by unfold Yr at h;split at h;{exact q9o h};{cases h}
def P1 (idx n j:Nat) (cs:List AV) (a:AV):Option AV:=
 match a with
 | .bx (.nm m) cells=>
   if m=n then
    match Yi idx 0 cs with
    |some cs'=>if j+cs.length<=cells.length then some (.bx (.nm m) (Qh cells j cs'))else none
    |none=>none
   else none
 |_=>none
def q5r {idx:Nat}: ∀{k:Nat} {cs cs':List AV},Yi idx k cs=some cs'->cs'.length=cs.length
 |_,[],cs',h=>by cases h;rfl
 |k,c::cs,cs',h=>by unfold Yi at h;split at h;{split at h;{rename_i u h2;cases h;simp[q5r h2]};{cases h}};{cases h}
def q0a {α:Type}: ∀(l:List α) (j:Nat) (cs:List α) (i:Nat),(i<j\/j+cs.length<=i)->(Qh l j cs)[i]? =l[i]?
 |l,j,[],i,h=>by cases l<;>rfl
 |[],j,c::cs,i,h=>rfl
 |x::l,0,c::cs,0,h=>by simp at h
 |x::l,0,c::cs,i+1,h=>by{simp only[Qh,List.getElem?_cons_succ];exact q0a l 0 cs i (.inr (by simp at h⊢;omega))}
 |x::l,j+1,c::cs,0,h=>rfl
 |x::l,j+1,c::cs,i+1,h=>by simp only[Qh,List.getElem?_cons_succ];exact q0a l j (c::cs) i (by simp at h⊢;omega)
def rC:Nat->Nat->List Nat
 |_,0=>[]
 |j,n+1=>(j+2)::rC (j+1) n
def qeu: ∀{j n i:Nat},j<=i->i<j+n->i+2∈rC j n
 |j,0,i,u,h2=>O
 |j,n+1,i,u,h2=>by simp only[rC,zu];rcases Nat.eq_or_lt_of_le u with rfl|h;{exact .inl rfl};{exact .inr (qeu h O)}
def q95 {idx n j s:Nat} {cs:List AV} (a b:AV) (h:P1 idx n j cs a=some b): ∀k,k∉(0::rC j cs.length)->dh s k b=dh s k a:=by
 intro k u;simp only[zu,not_or]at u;unfold P1 at h;split at h
 . split at h
   . split at h
     . rename_i cs' G;split at h
       . cases h
         match k,u with
         |0,u=>exact absurd rfl u.1
         |1,_=>rfl
         |k+2,u=>
          simp only[dh,fm];split
          . rw[q0a];rcases gq k j with J|J
            . exact .inl J
            . rcases gq k (j+cs.length)with h2|h2
              . exact absurd (qeu J h2) u.2
              . exact .inr (by rw[q5r G];exact h2)
          . rfl
       . cases h
     . cases h
   . cases h
 . cases h
def qcc {idx n sz i j:Nat} {cs:List AV} {a b:AV} (h:P1 idx n j cs a=some b):On idx n sz i j cs a=some b:=by unfold P1 at h;split at h;{unfold On;grind};{cases h}
def q31 {idx n sz i j:Nat} {cs:List AV} {a b:AV} (h:Yr n sz i j cs a=some b) (u: ∀c,a≠ .bx (.nm n) c):On idx n sz i j cs a=some b:=by unfold On;grind
def Zs (T:TT) (idx ty:Nat) (p v:AV):M Unit:=
 match T.at ty with
 |none=> .fail
 |some u=>
  if(cellsOf v).length≠u.cells.length then .fail else
  match p with
  | .ptr s n sz i j=>do
    let G<-iM s 1
    match wW G with
    |some m=>
     if m=n then mJ s (0::rC j (cellsOf v).length) (P1 idx n j (cellsOf v)) q95
     else mJ s [0] (Yr n sz i j (cellsOf v)) q1s
    |none=>mJ s [0] (Yr n sz i j (cellsOf v)) q1s
  |_=> .fail
def B9 (T:TT) (idx ty:Nat) (v:AV):M AV:=
 match T.at ty with
 |none=> .fail
 |some u=>
  if(cellsOf v).length≠u.cells.length then .fail else
  M.ofOpt (Yi idx 0 (cellsOf v)) λcs=>pure (.bx (.nm (fresh idx 15)) cs)
def Lr:List ZC->Option (List AV)
 |[]=>some []
 |c::cs=>match qpa c,Lr cs with
  |some v,some vs=>some (v::vs)
  |_,_=>none
def ZN (T:TT) (idx mode ty:Nat):M AV:=
 match T.at ty with
 |none=> .fail
 |some u=>M.ofOpt (Lr u.cells) λzs=>M.ofOpt (Yi idx 0 (cellsOf (nlI mode (.agg zs)))) λcs=>pure (.bx (.nm (fresh idx 15)) cs)
def qu4:AV->Bool
 | .dead| .tup _| .bx _ _| .wn _ _ _=>false
 |_=>true
def Vm (fs:List (Nat×Nat)) (cells:List AV):List (Nat×AV)->Option (List AV)
 |[]=>some cells
 |(f,v)::r=>
  match fs[f]? with
  |some (off,u)=>
   if(cellsOf v).length=u/\off+u<=cells.length/\qu4 v=true then Vm fs (Qh cells off (cellsOf v)) r else none
  |none=>none
def rdParts (T:TT):List (Nat×Operand)->M (List (Nat×AV))
 |[]=>pure []
 |(f,x)::r=>do
  let v<-rdT x
  let vs<-rdParts T r
  pure ((f,v)::vs)
def ZD (T:TT) (ty:Nat) (parts:List (Nat×AV)):M AV:=
 match T.at ty with
 |some {desc:= .struct fs,cells}=>
  M.ofOpt (Lr cells) λzs=>M.ofOpt (Vm fs zs parts) λcs=>pure (.agg cs)
 |_=> .fail
def VZ (t:Ty) (xs:List (aX t)):List (Nat×AV)->Option (List (aX t))
 |[]=>some xs
 |(i,v)::r=>
  if i<xs.length/\(cellsOf v).length=t.size/\(cellsOf v).all cr then
   match J4 t (cellsOf v)with
   |some (y,[])=>VZ t (xs.set i y) r
   |_=>none
  else none
def q1q (T:TT) (idx ty len:Nat) (parts:List (Nat×AV)):M AV:=
 match T.at ty with
 |some {desc:= .slice _ t,.. }=>
  if len*t.size<=65536 then
   M.ofOpt (VZ t (List.replicate len t.zero) parts) λxs=>pure (.sl (.nm (fresh idx 15)) t xs)
  else .fail
 |_=> .fail
def q4n:AV->M AV
 | .ptr s n sz i j=>pure (.ptr s n sz i j)
 | .iptr g t xs i j=>pure (.iptr g t xs i j)
 | .lit (.func (.func f) as u)=>pure (.lit (.func (.func f) as u))
 |_=> .fail
def ZV (x:Operand) (i:Nat):M AV:=
 match x with
 | .tmp t=>do
   let u<-iM t 1
   match u with
   |some _=> .fail
   |none=>do
    let c<-iM t (i+2)
    match c with
    |some v=>
     if NY v then do
      mJ t [0,i+2] (qap i) q96
      pure v
     else pure v
    |none=> .fail
 |_=> .fail
def eK (f:Nat->Nat):AV->AV
 | .dp n t xs h=> .dp (f n) t xs h
 | .sl (.nm n) t xs=> .sl (.nm (f n)) t xs
 | .wn n t xs=> .wn (f n) t xs
 | .dq n t xs h=> .dq (f n) t xs h
 |v=>v
def renO (f:Nat->Nat):Ub->Ub
 | .nm n=> .nm (f n)
 |o=>o
def iw (f:Nat->Nat):AV->AV
 | .bx o cells=> .bx (renO f o) (cells.map (eK f))
 | .agg cells=> .agg (cells.map (eK f))
 |v=>eK f v
def ren (f:Nat->Nat):AV->AV
 | .tup vs=> .tup (vs.map (iw f))
 |v=>iw f v
def a8:List Nat->Nat->Nat
 |[],_=>0
 |m::ms,n=>if m=n then 0 else a8 ms n+1
def isDp (n:Nat):AV->Bool
 | .dp m _ _ _=>Nat.beq m n
 |_=>false
def UR (n:Nat):List AV->Nat->Option Nat
 |[],_=>none
 |c::cs,k=>match isDp n c with
  |true=>some k
  |false=>UR n cs (k+1)
def iE (n:Nat):AV->Option (AV×Option Nat)
 | .dp m t xs h=>if m=n then some (.dp m t xs h,none)else none
 | .bx (.nm _) cells=>match UR n cells 0 with
   |some j=>some (cells.getD j .dead,some j)
   |none=>none
 |_=>none
def qp3 (h:Option Nat) (i:Nat):M Unit:=match h with
 |some k=>dJ (k=i)
 |none=>pure ()
def Lu (h:Option Nat) (i:Nat):M Unit:=match h with
 |some k=>dJ (k≠i)
 |none=>pure ()
def yK (s n:Nat):M AV:=do
 let a<-cM s
 match iE n a with
 |some (.dp _ t xs none,_)=>pure (.sl .imm (.sl false t) xs)
 |_=> .fail
def passC (c:AV):M AV:=
 match c with
 | .bool b=>pure (.bool b)
 | .int k x=>pure (.int k x)
 | .lit v=>pure (.lit v)
 | .sl .imm t xs=>pure (.sl .imm t xs)
 | .sl .nl t xs=>pure (.sl .imm t xs)
 | .ref s n sz u=>do
   let y<-shown (.ref s n sz u)
   pure (.sl .imm y.1 y.2)
 | .dr s n (.row i)=>do
   let a<-cM s
   match iE n a with
   |some (.dp _ t xs h,_)=>do
     Lu h i
     pure (.sl .imm t (xs.getD i []))
   |_=> .fail
 | .dr s n .whole=>yK s n
 | .dr s n (.lenw _)=>yK s n
 | .iptr g t xs i j=>pure (.iptr g t xs i j)
 |_=> .fail
def passL:List AV->M (List AV)
 |[]=>pure []
 |c::cs=>do
  let c'<-passC c
  let cs'<-passL cs
  pure (c'::cs')
def Zz:AV->Bool
 | .ref _ _ _ _=>false
 | .dr _ _ _=>false
 | .ptr _ _ _ _ _=>false
 | .wn _ _ _=>false
 |_=>true
def Lh:AV->Bool
 | .bx _ cells=>cells.all Zz
 | .agg cells=>cells.all Zz
 |v=>Zz v
def bV:AV->Bool
 | .tup vs=>vs.all Lh
 |v=>Lh v
def je:AV->Bool
 | .wn _ _ _=>true
 |_=>false
def fe (v:AV):Bool:=bV v||je v
def rdP:Operand->M AV
 | .tmp t=>do
   let a<-cM t
   match a with
   | .bx (.nm n) _=>pure (.ptr t n 1 0 0)
   |_=>rdF (.tmp t)
 |x=>rdF x
def km:AV->List Nat
 | .ref _ n _ _=>[n]
 | .dr _ n _=>[n]
 |_=>[]
def passA (ty:Nat) (T:TT) (x:Operand):M (AV×Option Nat×List Nat):=do
 let v<-rdP x
 match Jl T ty v with
 | .agg cells=>do
   let cs<-passL cells
   pure (.agg cs,none,cells.flatMap km)
 | .ptr s n _ 0 0=>do
   let a<-cM s
   match a with
   | .bx (.nm m) cells=>
     if m=n/\bV a=true/\(ab a).length<=16 then pure (ren (a8 (ab a)) (.bx (.nm m) cells),some s,[])else .fail
   |_=> .fail
 |v=>do
  let c<-passC v
  pure (c,none,km v)
def Jg:AV->Option Nat
 | .bx (.nm m) _=>some m
 | .sl (.nm m) _ _=>some m
 | .dp m _ _ none=>some m
 |_=>none
def lendA (x:Operand):M (AV×Option Nat×List Nat):=do
 let v<-rd x
 match v with
 | .ref s n _ none=>do
   let a<-cM s
   match a with
   | .sl (.nm m) t xs=>if m=n then pure (ren (a8 (ab (.sl (.nm m) t xs))) (.sl (.nm m) t xs),some s,[])else .fail
   |_=> .fail
 | .dr s n .whole=>do
   let a<-cM s
   match a with
   | .dp m t xs none=>if m=n then pure (ren (a8 (ab (.dp m t xs none))) (.dp m t xs none),some s,[])else .fail
   |_=> .fail
 |_=> .fail
def passX (T:TT) (k ty:Nat) (x:Operand):M (AV×Option Nat×List Nat):=
 match k with
 |1=>lendA x
 |_=>passA ty T x
def passAll (T:TT):Nat->List Operand->List TypeId->M (List (AV×Option Nat×List Nat))
 |k,x::xs,ty::u=>do
  let a<-passX T k ty x
  let as<-passAll T (k-1) xs u
  pure (a::as)
 |_,[],_=>pure []
 |_,_,[]=> .fail
def Ya:Ty->Bool
 | .int _=>false
 | .bool=>false
 | .sl _ _=>true
 | .pr a b=>Ya a||Ya b
def Ji:AV->Bool
 | .sl .imm _ _=>true
 | .sl _ t _=>Ya t
 | .iptr _ _ _ _ _=>true
 | .dp _ t _ _=>Ya t
 | .wn _ t _=>Ya t
 | .dq _ _ _ _=>true
 |_=>false
def Qu:AV->Bool
 | .bx _ cells=>cells.any Ji
 | .agg cells=>cells.any Ji
 | .tup vs=>vs.any λv=>match v with
   | .bx _ cells=>cells.any Ji
   | .agg cells=>cells.any Ji
   |v=>Ji v
 |v=>Ji v
def Ym:List (AV×Option Nat×List Nat)->List Nat
 |[]=>[]
 |(_,some s,_)::r=>s::Ym r
 |_::r=>Ym r
def yL (outs:List AV):List (AV×Option Nat×List Nat)->Nat->Option AV
 |[],_=>none
 |(_,some _,_)::_,i=>outs[i]?
 |_::r,i=>yL outs r (i+1)
def yH (k s:Nat) (p:AV×Option Nat×List Nat):AV:=
 match p.2.1 with
 |some u=>if u=s then ren (λn=>n+k) p.1 else p.1
 |none=>p.1
def o8 (s:Nat) (outs:List AV):List (AV×Option Nat×List Nat)->Nat->Option AV
 |[],_=>none
 |(_,some u,_)::r,i=>if u=s then outs[i]? else o8 s outs r (i+1)
 |_::r,i=>o8 s outs r (i+1)
def XE (T:TT) (idx mode f:Nat) (args:List Operand) (u:List TypeId):M AV:=do
 let ps<-passAll T (mode-10) args u
 match Ym ps with
 |[]=>do
  let (r,_)<-mK f (ps.map (·.1))
  if !(ps.flatMap (·.2.2)).isEmpty&&Qu r then .fail else pure (ren (fresh idx) r)
 |[s]=>do
  let a<-cM s
  if(Jg a).isNone||(ps.flatMap (·.2.2)).any λn=>(ab a).contains n then .fail else do
   let (r,outs)<-mK f (ps.map (·.1))
   match yL outs ps 0 with
   |some o=>if(!(ps.flatMap (·.2.2)).isEmpty&&(Qu r||Qu o))||je o then .fail else do
     fI s (ren (fresh idx) o)
     pure (ren (fresh idx) r)
   |none=> .fail
 |[s,t]=>do
  let a<-cM s
  let b<-cM t
  if Nat.beq s t||(Jg a).isNone||(Jg b).isNone||Nat.blt 16 ((ab a).length+(ab b).length)||(ps.flatMap (·.2.2)).any λn=>(ab a++ab b).contains n then .fail else do
   let (r,outs)<-mK f (ps.map (yH (ab a).length t))
   match o8 s outs ps 0,o8 t outs ps 0 with
   |some o,some q=>if(!(ps.flatMap (·.2.2)).isEmpty&&(Qu r||Qu o||Qu q))||(je o||je q)then .fail else do
     fI s (ren (fresh idx) o)
     fI t (ren (fresh idx) q)
     pure (ren (fresh idx) r)
   |_,_=> .fail
 |_=> .fail
def yC (T:TT) (idx f:Nat) (args:List Operand) (u:List TypeId):M AV:=
 match args,u with
 |x::rest,_::u=>do
  let ps<-passAll T 0 rest u
  match Ym ps with
  |[]=>do
   let a<-rd x
   match a with
   | .dr s n (.row i)=>do
     let b<-cM s
     match b with
     | .dp m t xs none=>
       if m=n/\(ps.flatMap (·.2.2)).contains n=false/\(ps.flatMap (·.2.2)).contains (fresh idx 15)=false then do
        let (r,outs)<-mK f (.sl (.nm 0) t (xs.getD i [])::ps.map (·.1))
        match outs with
        | .sl (.nm _) t' ys::_=>
          if h:t'=t then
           if !(ps.flatMap (·.2.2)).isEmpty&&(Qu r||Ya t)then .fail else do
            fI s (.dp m t (xs.set i (h▸ys)) none)
            pure (ren (fresh idx) r)
          else .fail
        |_=> .fail
       else .fail
     |_=> .fail
   |_=> .fail
  |_=> .fail
 |_,_=> .fail
def YL (T:TT) (idx u f:Nat) (args:List Operand) (G:List TypeId):M AV:=
 match args[u]? with
 |some x=>do
  let ps<-passAll T 0 (args.take u++args.drop (u+1)) (G.take u++G.drop (u+1))
  match Ym ps with
  |[]=>do
   let a<-rd x
   match a with
   | .ref s n sz (some (off,len))=>do
     let b<-cM s
     match b with
     | .sl (.nm m) t xs=>
       if m=n/\sz=t.size/\Ya t=false/\(ps.flatMap (·.2.2)).contains n=false then do
        dJ (0<xs.length)
        let (r,outs)<-mK f ((ps.map (·.1)).take u++ .wn 0 t ((xs.drop off).take len)::(ps.map (·.1)).drop u)
        match outs[u]? with
        |some (.wn 0 t' ys)=>
         if h:t'=t then
          if !(ps.flatMap (·.2.2)).isEmpty&&Qu r then .fail else do
          mJ s [0] (fz n λJ _=>if h2:J=t then some (h2▸(xs.take off++((h▸ys:List (aX t))++xs.drop (off+len))))else none) (λ_ _ h=>q9o h)
          pure (ren (fresh idx) r)
         else .fail
        |_=> .fail
       else .fail
     |_=> .fail
   |_=> .fail
  |_=> .fail
 |none=> .fail
def KB (T:TT) (idx mode f:Nat) (args:List Operand) (u:List TypeId):M AV:=
 if Nat.beq mode 301 then yC T idx f args u else if Nat.ble 310 mode then YL T idx (mode-310) f args u else XE T idx mode f args u
def KA (T:TT) (idx f:Nat) (args:List Operand) (u:List TypeId) (ex:AV):M AV:=do
 let ps<-passAll T 0 args u
 match Ym ps with
 |[]=>do
  let (r,_)<-mK f (ps.map (·.1)++[ex])
  if !(ps.flatMap (·.2.2)).isEmpty&&Qu r then .fail else pure (ren (fresh idx) r)
 |_=> .fail
def q4w (f:Nat) (first cap:List Operand):M AV:=
 match first,cap with
 |[],[.tmp s]=>do
  let v<-cM s
  match v with
  | .bx (.nm _) [.int k x]=>do
    fI s (.iptr none (.int k) [x] 0 0)
    pure (.iptr (some f) (.int k) [x] 0 0)
  | .iptr none t xs i j=>pure (.iptr (some f) t xs i j)
  |_=> .fail
 |_,_=> .fail
def Hs (a b:AV):M AV:=
 match a,b with
 | .int k x,.int _ y=>pure (.int k (if y>x then y else x))
 |_,_=> .fail
def Hr (a b:AV):M AV:=
 match a,b with
 | .int k x,.int _ y=>pure (.int k (if y<x then y else x))
 |_,_=> .fail
def YF (T:TT) (idx ty:Nat) (l c:AV):M AV:=
 match T.at ty,l,c with
 |some {desc:= .slice _ (.sl _ t),.. },.int .i64 l,.int .i64 c=>do
  dJ (0<=l/\l<=c/\c<=1073741824)
  pure (.dp (fresh idx 15) t (List.replicate l.toNat []) none)
 |_,_,_=> .fail
def B4 (W:List Nat):Option Nat->List Nat
 |none=>W
 |some j=>[0,j+2]
def kd (f:AV->Option AV):Option Nat->AV->Option AV
 |none,a=>f a
 |some j,.bx (.nm m) cells=>match f (cells.getD j .dead)with
  |some d=>some (.bx (.nm m) (cells.set j d))
  |none=>none
 |_,_=>none
def qge {s:Nat} {f:AV->Option AV} {W:List Nat} (G: ∀a b,f a=some b-> ∀j,j∉W->dh s j b=dh s j a) (loc:Option Nat):
 ∀a b,kd f loc a=some b-> ∀j,j∉B4 W loc->dh s j b=dh s j a:=by
 intro a b h j u;cases loc with
 |none=>exact G a b h j u
 |some k=>
  simp only[B4,zu,oG,or_false,not_or]at u;unfold kd at h;split at h
  . rename_i e;cases e
  . rename_i e;cases e;split at h
    . cases h
      match j,u with
      |0,u=>exact absurd rfl u.1
      |1,_=>rfl
      |j+2,u=>
       simp only[dh,fm]
       grind
    . cases h
  . cases h
def q5g {s:Nat} {f:AV->Option AV} (G: ∀a b,f a=some b-> ∀j,j∉[0]->dh s j b=dh s j a) (J: ∀a b,f a=some b->Xt s b=Xt s a) (loc:Option Nat):
 ∀a b,kd f loc a=some b-> ∀j,j∉[0]->dh s j b=dh s j a:=by
 intro a b h j u;cases loc with
 |none=>exact G a b h j u
 |some k=>
  unfold kd at h;split at h
  . rename_i e;cases e
  . rename_i cells e;cases e;split at h
    . rename_i d hd;cases h
      match j,u with
      |0,u=>grind
      |1,_=>rfl
      |j+2,u=>
       simp only[dh,fm]
       grind
    . cases h
  . cases h
def dpLen (s n:Nat):M Nat:=do
 let b<-iM s 1
 match b with
 |some (.dr _ m .whole)=>do
  let a<-iM s 2
  match a with
  |some (.dr l _ .whole)=>if m=n then pure l else .fail
  |_=> .fail
 |some (.ptr _ _ _ _ _)=>do
  let a<-cM s
  match iE n a with
  |some (.dp _ _ xs _,_)=>pure xs.length
  |_=> .fail
 |_=> .fail
def za (T:TT) (ty:Nat) (s n:Nat) (k:DK):M AV:=
 match T.at ty with
 |some {desc:= .slice _ _,.. }=>
  match k with
  | .whole=>do
    let l<-dpLen s n
    pure (.int .i64 l)
  | .lenw l=>pure (.int .i64 l)
  | .row i=>do
    let a<-cM s
    match iE n a with
    |some (.dp _ _ xs h,_)=>do
      Lu h i
      pure (.int .i64 (xs.getD i []).length)
    |_=> .fail
  |_=> .fail
 |_=> .fail
def ZH (T:TT) (ty:Nat) (s n:Nat) (k:DK) (i:AV):M AV:=
 match T.at ty,i with
 |some {desc:= .slice _ u,.. },.int _ i=>
  match k with
  | .whole=>
    if u.size=1 then do
     let l<-dpLen s n
     dJ (0<=i/\i<l)
     pure (.dr s n (.cell i.toNat))
    else .fail
  | .lenw l=>
    if u.size=1 then do
     dJ (0<=i/\i<l)
     pure (.dr s n (.cell i.toNat))
    else .fail
  | .row r=>do
    let a<-cM s
    match iE n a with
    |some (.dp _ t xs h,_)=>
     if u.size=t.size then do
      Lu h r
      dJ (0<=i/\i<(xs.getD r []).length)
      pure (.dr s n (.elem t.size r i.toNat 0))
     else .fail
    |_=> .fail
  |_=> .fail
 |_,_=> .fail
def Pw (i:Nat):AV->Option AV
 | .dp n t xs none=>some (.dp n t xs (some i))
 |_=>none
def qe6 {s i:Nat} (a b:AV) (h:Pw i a=some b): ∀j,j∉[0]->dh s j b=dh s j a:=by
 intro j u;unfold Pw at h;split at h
 . cases h
   match j,u with
   |0,u=>grind
   |1,_=>rfl
   |j+2,_=>rfl
 . cases h
def qcy {s i:Nat} (a b:AV) (h:Pw i a=some b):Xt s b=Xt s a:=by unfold Pw at h;split at h;{cases h;rfl};{cases h}
def YB (T:TT) (idx mode ty:Nat) (s n:Nat) (k:DK):M AV:=
 match T.at ty with
 |none=> .fail
 |some u=>
  match k with
  | .cell i=>match u with
    |{desc:= .slice _ G,cells:=[_]}=>
     match mode with
     |4=>do
      let a<-cM s
      match iE n a with
      |some (.dp _ t xs none,loc)=>
       if G.size=t.size then do
        mJ s [0] (kd (Pw i) loc) (q5g qe6 qcy loc)
        pure (.sl (.nm (fresh idx 15)) t (xs.getD i []))
       else .fail
      |_=> .fail
     |_=>do
      let a<-cM s
      match iE n a with
      |some (.dp _ _ _ h,_)=>do
        Lu h i
        pure (.dr s n (.row i))
      |_=> .fail
    |_=> .fail
  | .elem sz i j c=>do
    let a<-cM s
    match iE n a with
    |some (.dp _ t xs h,_)=>
     if sz=t.size then do
      Lu h i
      ux (di u.cells.length (Q9 u.desc) ((aF t ((xs.getD i []).getD j t.zero)).map fJ) c)
     else .fail
    |_=> .fail
  |_=> .fail
def vP (i m:Nat) (t:Ty) (ys:List (aX t)):AV->Option AV
 | .dp _ t' xs _=>if h:t'=t then some (.dp m t' (xs.set i (h▸ys)) none)else none
 |_=>none
def setDp (i j c:Nat) (vs:List AV):AV->Option AV
 | .dp m t xs h=>match Z8 t ((xs.getD i []).getD j t.zero) c vs with
   |some x=>some (.dp m t (xs.set i ((xs.getD i []).set j x)) h)
   |none=>none
 |_=>none
def qgi {s i j c:Nat} {vs:List AV} (a b:AV) (h:setDp i j c vs a=some b): ∀k,k∉[0]->dh s k b=dh s k a:=by
 intro k u;unfold setDp at h;split at h
 . split at h
   . cases h
     match k,u with
     |0,u=>grind
     |1,_=>rfl
     |k+2,_=>simp only[dh,fm,zU]
   . cases h
 . cases h
def qfr {s i j c:Nat} {vs:List AV} (a b:AV) (h:setDp i j c vs a=some b):Xt s b=Xt s a:=by unfold setDp at h;split at h;{split at h;{cases h;simp[Xt]};{cases h}};{cases h}
def qgc {s i m:Nat} {t:Ty} {ys:List (aX t)} (a b:AV) (h:vP i m t ys a=some b): ∀j,j∉[0,1,2]->dh s j b=dh s j a:=by
 intro j u;unfold vP at h;split at h
 . split at h
   . cases h
     match j,u with
     |0,u=>exact absurd (by simp) u
     |1,u=>exact absurd (by simp) u
     |2,u=>exact absurd (by simp) u
     |j+3,_=>simp[dh,fm]
   . cases h
 . cases h
def Vv (T:TT) (idx ty:Nat) (s n:Nat) (k:DK) (v:AV):M Unit:=
 match T.at ty with
 |none=> .fail
 |some u=>
  match k with
  | .cell i=>match u,v with
    |{cells:=[_],.. },.sl (.nm _) t ys=>do
     let a<-cM s
     match iE n a with
     |some (.dp _ t' _ h,loc)=>
      if t'=t then do
       qp3 h i
       mJ s (B4 [0,1,2] loc) (kd (vP i (fresh idx 15) t ys) loc) (qge qgc loc)
      else .fail
     |_=> .fail
    |_,_=> .fail
  | .elem sz i j c=>
    if(cellsOf v).length=u.cells.length/\(cellsOf v).all cr=true then do
     let a<-cM s
     match iE n a with
     |some (.dp _ t _ h,loc)=>
      if sz=t.size then do
       Lu h i
       mJ s [0] (kd (setDp i j c (cellsOf v)) loc) (q5g qgi qfr loc)
      else .fail
     |_=> .fail
    else .fail
  |_=> .fail
def Hn (idx mode:Nat) (t:Ty) (xs:List (aX t)):M AV:=
 match mode with
 |6=>match t with
  | .sl _ ty=>pure (.dp (fresh idx 0) ty [] none)
  |_=> .fail
 |_=>pure (.sl (.nm (fresh idx 0)) t xs)
def buildDp (T:TT) (idx ty:Nat) (v:AV):M AV:=
 match T.at ty,v with
 |some {desc:= .slice _ (.sl _ t),.. },.sl (.nm _) t' ys=>if t'=t then pure (.dp (fresh idx 15) t' [ys] none)else .fail
 |some {desc:= .slice _ (.sl _ t),.. },.lit (.slice none 0 0)=>pure (.dp (fresh idx 15) t [[]] none)
 |_,_=> .fail
def q8e (T:TT) (idx ty n:Nat):List (Nat×Operand)->M AV
 |[(0,x)]=>if n=1 then do let v<-rdT x;buildDp T idx ty v else .fail
 |_=> .fail
def ZS (T:TT) (idx:Nat) (u:Array TypeId) (x y:AV):M AV:=
 match u[0]?,u[1]? with
 |some J,some G=>
  match T.at J,T.at G with
  |some {desc:= .slice _ (.sl _ _),.. },some {desc:= .slice _ _,.. }=>
   match x,y with
   | .dp _ t xs none,.dp _ t' ys none=>
     if h:t'=t then do
      dJ (0<ys.length/\xs.length+ys.length<=1073741824)
      pure (.dp (fresh idx 15) t (xs++(h▸ys)) none)
     else .fail
   |_,_=> .fail
  |_,_=> .fail
 |_,_=> .fail
def qdx (T:TT) (idx mode:Nat) (b:Builtin) (args:List Operand) (G:Array TypeId):M AV:=
 match b,args with
 | .len,[x]=>match G[0]? with
   |some t=>do
    let v<-rd x
    match v with
    | .dr s n k=>za T t s n k
    |v=>zc T t (Jl T t v)
   |none=> .fail
 | .append,[x,y]=>
   match mode with
   |6=>do
    let u<-rdT x
    let v<-rdT y
    ZS T idx G u v
   |mode=>do
    let u<-rdC mode x
    let v<-rdT y
    qbk T idx G (Jl T (G.getD 0 0) u) v
 | .copy,[x,y]=>do
   let u<-rd x
   let v<-rd y
   XL T idx G u v
 | .max,[x,y]=>do let a<-rd x;let b<-rd y;Hs a b
 | .min,[x,y]=>do let a<-rd x;let b<-rd y;Hr a b
 |_,_=> .fail
def uw (T:TT) (idx mode:Nat) (o:Oper):M AV:=
 match o.op with
 | .move x=>do
   let v<-rdm mode x
   pure (Jl T o.type v)
 | .assign x=>do
   let v<-rdm (if mode=0 then 1 else mode) x
   match nlI mode (Jl T o.type v)with
   | .sl .nl t xs=>Hn idx mode t xs
   |v=>pure v
 | .pick c a b=>match c with
   | .tmp t=>do
     let y<-yX t
     if y then rd a else rd b
   |_=> .fail
 | .alloc e=>ZN T idx mode e
 | .box e x=>do let v<-rdQ mode x;B9 T idx e (nlI mode (Jl T e v))
 | .build t ps=>do let vs<-rdParts T ps.toList;ZD T t vs
 | .buildSlice t n ps=>match mode with
   |6=>q8e T idx t n ps.toList
   |_=>do let vs<-rdParts T ps.toList;q1q T idx t n vs
 | .load t p=>do
   let a<-rd p
   match a with
   | .dr s n k=>YB T idx mode t s n k
   |a=>match mode with
    |7=>do
     wV a
     Vj T 0 t a
    |mode=>Vj T mode t a
 | .store t p x=>
   match mode with
   |4=>do
    let v<-rdT x
    let a<-rd p
    match a with
    | .dr s n k=>do
      Vv T idx t s n k v
      pure .dead
    |_=> .fail
   |mode=>do
   let v<-rdQ mode x
   let a<-rd p
   match a with
   | .dr s n k=>do
     Vv T idx t s n k (nlI mode (Jl T t v))
     pure .dead
   |a=>do
    Zs T idx t a (nlI mode (Jl T t v))
    pure .dead
 | .nilCheck x=>do let v<-rd x;q4n v
 | .binOp op t x y _=>do let a<-rd x;let b<-rd y;Cb T op t a b
 | .unOp op _ x=>do let a<-rd x;Le op a
 | .convert s d x=>do let a<-rd x;YG T s d a
 | .makeSlice t l c=>
   match mode with
   |4=>do let a<-rd l;let b<-rd c;YF T idx t a b
   |_=>do let a<-rd l;let b<-rd c;XH T idx t a b
 | .slice t x lo u none=>do
   let v<-rdC mode x
   let l<-(match lo with|some l=>do let a<-rd l;pure (some a)|none=>pure none)
   let h<-(match u with|some h=>do let a<-rd h;pure (some a)|none=>pure none)
   ZB T idx t v l h
 | .fieldAddr t x f=>do let a<-rd x;q3h T t a f
 | .indexAddr t x i=>match x with
   | .global g=>do let b<-rd i;yx T t g b
   |x=>
    do
    let a<-rd x
    let b<-rd i
    match a with
    | .dr s n k=>ZH T t s n k b
    |a=>q3a T t a b
 | .index t x i=>do let a<-rd x;let b<-rd i;ZI T t a b
 | .extract x i=>ZV x i
 | .call c=>match c.callee with
   | .builtin b=>qdx T idx mode b c.args.toList c.argTypes
   | .value (.func f)=>KB T idx mode f c.args.toList c.argTypes.toList
   | .value (.tmp t)=>do
     let a<-cM t
     match a with
     | .lit (.func (.func f) as G)=>if as.size=0/\G.size=0 then XE T idx mode f c.args.toList c.argTypes.toList else .fail
     | .iptr (some f) t xs i j=>KA T idx f c.args.toList c.argTypes.toList (.iptr none t xs i j)
     |_=> .fail
   |_=> .fail
 | .makeFunc (.func f) first cap=>q4w f first.toList cap.toList
 |_=> .fail
end Go.Vs
namespace Go.Vs
def Hv (T:TT) (ty n:Nat) (a:AV):M AV:=
 match T.at ty,a with
 |some {desc:= .slice _ _,.. },.dq m _ xs _=>if m=n then pure (.int .i64 xs.length)else .fail
 |_,_=> .fail
def qna (T:TT) (ty s n:Nat) (a i:AV):M AV:=
 match T.at ty,a,i with
 |some {desc:= .slice _ u,.. },.dq m t xs _,.int _ i=>
  if m=n/\u.size=t.size then do
   dJ (0<=i/\i<xs.length)
   pure (.ptr s n t.size i.toNat 0)
  else .fail
 |_,_,_=> .fail
def qt8:AV->AV
 | .sl _ _ _=> .dead
 |v=>v
def XQ (u:TI) (n sz i j:Nat) (a:AV):M AV:=
 match a with
 | .dq m t xs _=>if m=n/\sz=t.size then ux (di u.cells.length (Q9 u.desc) ((aF t (xs.getD i t.zero)).map qt8) j)else .fail
 |_=> .fail
def takeDq (idx:Nat) (G:TI) (s n sz i j:Nat) (a:AV):M AV:=
 match a with
 | .dq m t xs none=>
   if m=n/\sz=t.size/\G.cells.length=1/\Q9 G.desc=false then
    match(aF t (xs.getD i t.zero))[j]? with
    |some (.sl _ u ys)=>do
     fI s (.dq m t xs (some (i*t.size+j)))
     pure (.sl (.nm (fresh idx 15)) u ys)
    |_=> .fail
   else .fail
 |_=> .fail
def qi8:AV->Bool
 | .bool _| .int _ _=>true
 |_=>false
def YR (u:TI) (s n sz i j:Nat) (v a:AV):M Unit:=
 match a with
 | .dq m t xs h=>
   if m=n/\sz=t.size/\(cellsOf v).length=u.cells.length/\(cellsOf v).all qi8=true then
    M.ofOpt (Z8 t (xs.getD i t.zero) j (cellsOf v)) λx=>fI s (.dq m t (xs.set i x) h)
   else .fail
 |_=> .fail
def XY (G:TI) (s n sz i j:Nat) (v a:AV):M Unit:=
 match a,v with
 | .dq m t xs (some q),.sl (.nm k) u ys=>
   if m=n/\sz=t.size/\G.cells.length=1 then do
    dJ (q=i*t.size+j)
    M.ofOpt (Z8 t (xs.getD i t.zero) j [.sl (.nm k) u ys]) λx=>fI s (.dq m t (xs.set i x) none)
   else .fail
 |_,_=> .fail
def ZL:AV->Bool
 | .bool _| .int _ _| .sl .nl _ _=>true
 |_=>false
def qne (T:TT) (idx ty:Nat) (v:AV):M AV:=
 match T.at ty,v with
 |some {desc:= .slice _ t,.. },.agg cells=>
  if cells.all ZL=true/\0<t.size/\t.size<=64 then
   match J4 t cells with
   |some (y,[])=>pure (.dq (fresh idx 15) t [y] none)
   |_=> .fail
  else .fail
 |_,_=> .fail
def qiw (T:TT) (idx:Nat) (u:Array TypeId) (x y:AV):M AV:=
 match u[0]?,u[1]? with
 |some J,some G=>
  match T.at J,T.at G with
  |some {desc:= .slice _ K,.. },some {desc:= .slice _ _,.. }=>
   match x,y with
   | .dq _ t xs none,.dq _ t' ys none=>
     if h:t'=t/\K.size=t.size then do
      dJ (0<ys.length/\xs.length+ys.length<=1073741824)
      pure (.dq (fresh idx 15) t (xs++(h.1▸ys)) none)
     else .fail
   |_,_=> .fail
  |_,_=> .fail
 |_,_=> .fail
def GX:Nat->List AV->List Nat
 |_,[]=>[]
 |k,c::cs=>if(qc c).isEmpty then GX (k+1) cs else k::GX (k+1) cs
def C5 (c:AV):AV:=if(qc c).isEmpty then c else .dead
def UX (L:List Nat) (a:AV):Option AV:=
 match a with
 | .bx (.nm m) cells=>if GX 0 cells=L then some (.bx (.nm m) (cells.map C5))else none
 |_=>none
def q6y: ∀{cells:List AV} {k j:Nat} (h:j<cells.length),(qc cells[j]).isEmpty=false->k+j∈GX k cells
 |c::cs,k,0,h,G=>by{have u:(qc c).isEmpty=false:=G;simp[GX,u]}
 |c::cs,k,j+1,h,G=>by have:=q6y (cells:=cs) (k:=k+1) (j:=j) (by simpa using h) (by simpa using G);rw[show k+(j+1)=k+1+j by omega];unfold GX;split;{exact this};{exact mT this}
def qdp {s:Nat} {L:List Nat} (a b:AV) (h:UX L a=some b): ∀j,j∉0::L.map (· +2)->dh s j b=dh s j a:=by
 intro j u;unfold UX at h;split at h
 . split at h
   . rename_i cells hL;cases h;subst hL;simp only[zu,not_or]at u
     match j,u with
     |0,u=>exact absurd rfl u.1
     |1,_=>rfl
     |j+2,u=>
      simp only[dh,fm,List.getElem?_map];split
      . by_cases G:j<cells.length
        . have J:(qc cells[j]).isEmpty=true:=by
           cases K:(qc cells[j]).isEmpty with
           |true=>rfl
           |false=>
            have:=q6y (k:=0) G K;rw[zH]at this;exact absurd (zk.2 ⟨j,this,rfl⟩) u.2
          rw[List.getElem?_eq_getElem G];simp[C5,J]
        . rw[List.getElem?_eq_none O];rfl
      . rfl
   . cases h
 . cases h
def YK (u:TI) (s n:Nat) (a:AV):M AV:=
 match a with
 | .bx (.nm m) cells=>
   if m=n/\cells.length=u.cells.length then do
    mJ s (0::(GX 0 cells).map (· +2)) (UX (GX 0 cells)) qdp
    ux (me (Q9 u.desc) cells)
   else .fail
 |_=> .fail
def LJ (T:TT) (idx mode:Nat) (o:Oper):M AV:=
 match o.op with
 | .assign (.const c)=>match Jl T o.type (PJ c)with
   | .sl .nl t _=>pure (.dq (fresh idx 0) t [] none)
   |_=> .fail
 | .buildSlice t n ps=>match ps.toList with
   |[(0,x)]=>if n=1 then do let v<-rdT x;qne T idx t v else .fail
   |_=> .fail
 | .load t p=>do
   let a<-rd p
   match T.at t,a with
   |some G,.ptr s n sz i j=>do
    let b<-cM s
    match Nat.beq mode 5001 with
    |true=>takeDq idx G s n sz i j b
    |false=>match Nat.beq mode 5002 with
     |true=>if i=0/\j=0 then YK G s n b else .fail
     |false=>XQ G n sz i j b
   |_,_=> .fail
 | .store t p x=>do
   let v<-rdT x
   let a<-rd p
   match T.at t,a with
   |some G,.ptr s n sz i j=>do
    let b<-cM s
    match Nat.beq mode 5001 with
    |true=>XY G s n sz i j v b
    |false=>YR G s n sz i j v b
    pure .dead
   |_,_=> .fail
 | .indexAddr t x i=>do
   let v<-rd x
   let b<-rd i
   match v with
   | .ref s n _ none=>do
     let a<-cM s
     qna T t s n a b
   |_=> .fail
 | .call c=>match c.callee with
   | .builtin .len=>match c.args.toList,c.argTypes[0]? with
     |[x],some t=>do
      let v<-rd x
      match v with
      | .ref s n _ none=>do
        let a<-cM s
        Hv T t n a
      |_=> .fail
     |_,_=> .fail
   | .builtin .append=>match c.args.toList with
     |[x,y]=>do
      let u<-rdT x
      let v<-rdT y
      qiw T idx c.argTypes u v
     |_=> .fail
   |_=> .fail
 |_=> .fail
abbrev tM:=List Nat×List Nat
def lU:Nat->Nat->List Nat->List Nat
 |_,0,r=>r
 |b,n+1,r=>b::lU (b+1) n r
def lT (s:Nat) (r:List Nat):List Nat:=lU (32*s) 17 r
def gG (s:Nat):List Nat->List Nat->List Nat
 |[],r=>r
 |j::u,r=>(32*s+j)::gG s u r
def ja {R α:Type} (C:Nat->List AV->(AV->List AV->Option R)->Option R):M α->ao->tM->(α->ao->tM->Option R)->Option R
 | .ret a,U,L,K=>K a U L
 | .fail,_,_,_=>none
 | .get s k,U,L,K=>ja C (k (U.get s)) U ((32*s)::L.1,L.2) K
 | .view s j k,U,L,K=>ja C (k (dh s j (U.get s))) U ((32*s+j)::L.1,L.2) K
 | .set s v k,U,L,K=>ja C k (U.set s v) (lT s L.1,lT s L.2) K
 | .upd s W f _ k,U,L,K=>match f (U.get s)with
   |some v=>ja C k (U.set s v) ((32*s)::gG s W L.1,gG s W L.2) K
   |none=>none
 | .ask p d k,U,L,K=> @ite _ p d (ja C k U L K) none
 | .know s k,U,L,K=>match U.get s with
   | .bool b=>cond b (ja C (k true) (U.set s (.bool true)) ((32*s)::L.1,L.2) K) (ja C (k false) (U.set s (.bool false)) ((32*s)::L.1,L.2) K)
   |_=>none
 | .call f as k,U,L,K=>C f as λr os=>ja C (k r os) U L K
structure qJ where
 mode:List (Nat×Nat)
 keep:List Nat
structure eY where
 regs:List qJ
 heads:List (Nat×List Nat)
 exits:List (Nat×List Nat)
 rets:List Nat
 pins:List Nat
 spec:List (List Bool)
def pd (l:List (Nat×Nat)) (i:Nat):Nat:=match l with
 |[]=>0
 |(j,m)::r=>if j=i then m else pd r i
def pc (l:List (Nat×List Nat)) (i:Nat):Option (List Nat):=match l with
 |[]=>none
 |(j,m)::r=>if j=i then some m else pc r i
def Wx (T:TT) (idx mode:Nat) (o:Oper):M AV:=
 match Nat.ble 1000 mode with
 |true=>match Nat.ble 5000 mode with
  |true=>LJ T idx mode o
  |false=>
  match Nat.ble 3000 mode with
  |true=>do
   let a<-cM (mode-3000)
   match a with
   | .bx (.nm m) _=>do
     wV (.ptr (mode-3000) m 0 0 0)
     uw T idx 0 o
   |_=> .fail
  |false=>do
   let _<-rdF (.tmp (mode-1000))
   uw T idx 0 o
 |false=>uw T idx mode o
def Lj (N:Nat) (pins:List Nat) (dst:Option Tmp) (v:AV):M Unit:=
 match dst with
 |none=>pure ()
 |some d=>if d<N/\ ¬d∈pins then fI d v else .fail
def mw (ops:Array Oper) (j:Nat):Option Tmp:=(ops[j]?).bind (·.dst)
def YP:AV->Bool
 | .tup []=>true
 |_=>false
def pL (T:TT) (N:Nat) (pins:List Nat) (ops:Array Oper) (idx mode:Nat) (o:Oper):M Unit:=
 match o.guard with
 |none=>do let v<-Wx T idx mode o;Lj N pins o.dst v
 |some (j,want)=>
  match mw ops j with
  |none=> .fail
  |some g=>do
   let a<-cM g
   match YP a with
   |true=>Lj N pins o.dst (.tup [])
   |false=>do
    let b<-yX g
    if b==want then do let v<-Wx T idx mode o;Lj N pins o.dst v
    else Lj N pins o.dst (.tup [])
def yM {R:Type} (C:Nat->List AV->(AV->List AV->Option R)->Option R) (T:TT) (N:Nat) (pins:List Nat) (ops:Array Oper) (G:List (Nat×Nat)):
    List Oper->Nat->ao->List tM->(ao->List tM->Option R)->Option R
 |[],_,U,u,K=>K U u
 |o::r,i,U,u,K=>ja C (pL T N pins ops i (pd G i) o) U ([],[]) λ_ U' L=>yM C T N pins ops G r (i+1) U' (u++[L]) K
def jH (o:Oper) (i:Nat):List Nat:=(o.after.toList.filter λe=>Region.binds .any e&&decide (e.on<i)).map (·.on)
def vu:List Oper->Nat->List (List Nat)->List (List Nat)
 |[],_,acc=>acc
 |o::r,i,acc=>vu r (i+1) (acc++[(jH o i).flatMap λj=>j::acc.getD j []])
def vn (a b:List Nat):Bool:=a.all λx=> !b.contains x
def XR (G:List (List Nat)) (u:List tM) (i j:Nat):Bool:=
 (G.getD j []).contains i||(vn (u.getD i ([],[])).1 (u.getD j ([],[])).2&&vn (u.getD j ([],[])).1 (u.getD i ([],[])).2)
def PQ:List Oper->Nat->Bool
 |[],_=>true
 |o::r,i=>(o.after.toList.all λe=> !Region.binds .any e||decide (e.on<i))&&PQ r (i+1)
def Pe (ops:List Oper) (G:List tM):Bool:=
 PQ ops 0&&(let u:=vu ops 0 []
 (List.range ops.length).all λj=>(List.range j).all λi=>XR u G i j)
def fB:List Nat->Nat
 |[]=>0
 |s::r=>Nat.lor (Nat.pow 2 s) (fB r)
def mF:List Nat->List Nat->Nat
 |[],_=>0
 |k::u,acc=>Nat.lor (Nat.lor (Nat.pow 2 k) (acc.getD k 0)) (mF u acc)
def Gy:List Oper->Nat->List Nat->List Nat
 |[],_,acc=>acc
 |o::r,i,acc=>Gy r (i+1) (acc++[mF (jH o i) acc])
def UT (A R W:Nat):List (Nat×Nat)->Nat->Bool
 |[],_=>true
 |_::_,0=>true
 |p::r,k+1=>(Nat.beq (Nat.land (Nat.shiftRight A k) 1) 1||(Nat.beq (Nat.land p.1 W) 0&&Nat.beq (Nat.land R p.2) 0))&&UT A R W r k
def rA:List tM->List Nat->List (Nat×Nat)->Nat->Bool
 |[],_,_,_=>true
 |_::_,[],_,_=>false
 |L::u,A::G,done,j=>UT A (fB L.1) (fB L.2) done j&&rA u G ((fB L.1,fB L.2)::done) (j+1)
def ZF (ops:List Oper) (u:List tM):Bool:=PQ ops 0&&rA u (Gy ops 0 []) [] 0
def ct (ns:List Nat):AV->AV
 | .dp n t xs h=> .dp (a8 ns n) t xs h
 | .sl (.nm n) t xs=> .sl (.nm (a8 ns n)) t xs
 | .wn n t xs=> .wn (a8 ns n) t xs
 | .dq n t xs h=> .dq (a8 ns n) t xs h
 | .ref s n sz w=>if ns.contains n then .ref s (a8 ns n) sz w else .dead
 | .ptr s n sz i j=>if ns.contains n then .ptr s (a8 ns n) sz i j else .dead
 | .dr s n k=>if ns.contains n then .dr s (a8 ns n) k.strip else .dead
 |v=>v
def bJ (ns:List Nat):AV->AV
 | .bx (.nm n) cells=> .bx (.nm (a8 ns n)) (cells.map (ct ns))
 | .bx o cells=> .bx o (cells.map (ct ns))
 | .agg cells=> .agg (cells.map (ct ns))
 |v=>ct ns v
def fin (ns:List Nat):AV->AV
 | .tup vs=> .tup (vs.map (bJ ns))
 |v=>bJ ns v
def fS (keep:List Nat) (U:ao):ao:=keep.map λs=>(s,U.get s)
def NT (U:ao):List Nat:=U.flatMap λx=>ab x.2
def normal (keep:List Nat) (U:ao):Option ao:=
 let u:=fS keep U
 let ns:=NT u
 if ns.length<=98 then some (u.map λx=>(x.1,fin ns x.2))else none
def ao.drop1 (U:ao) (t:Nat):ao:=U.filter λx=> !(x.1==t)
inductive Ex where
 |normal
 |exit (id:Nat)
 |ret
 deriving DecidableEq
def oC {R:Type} (C:Nat->List AV->(AV->List AV->Option R)->Option R) (G:Nat->ao->(Ex->ao->Option R)->Option R)
    (T:TT) (N:Nat) (H:eY):Code->Nat->ao->(Ex->ao->Option R)->Option R
 | .skip,_,U,K=>K .normal U
 | .region id ops draw,_,U,K=>
   match H.regs[id]? with
   |none=>none
   |some h=>yM C T N H.pins ops h.mode ops.toList 0 U [] λU' O=>
    if draw&& !ZF ops.toList O then none else
    match normal h.keep U' with
    |some J=>K .normal J
    |none=>none
 | .seq a b,u,U,K=>oC C G T N H a u U λe U'=>match e with
   | .normal=>oC C G T N H b u U' K
   | .exit i=>K (.exit i) U'
   | .ret=>K .ret U'
 | .cond (.tmp t) x y,u,U,K=>match U.get t with
   | .bool b=>cond b (oC C G T N H x u (U.drop1 t) K) (oC C G T N H y u (U.drop1 t) K)
   |_=>none
 | .cond (.const (.bool b)) x y,u,U,K=>cond b (oC C G T N H x u U K) (oC C G T N H y u U K)
 | .scope c,u,U,K=>oC C G T N H c u U K
 | .label _,_,U,K=>K .normal U
 | .block id c,_,U,K=>oC C G T N H c id U λe U'=>match e with
   | .normal=>K .normal U'
   | .exit i=>if i=id then K .normal U' else K (.exit i) U'
   | .ret=>K .ret U'
 | .loop _,u,U,K=>match pc H.heads u with
   |some keep=>match normal keep U with
    |some U'=>G u U' K
    |none=>none
   |none=>none
 | .exit id,_,U,K=>match pc H.exits id with
   |some keep=>match normal keep U with
    |some U'=>K (.exit id) U'
    |none=>none
   |none=>none
 | .ret,_,U,K=>match normal H.rets U with
   |some U'=>K .ret U'
   |none=>none
 |_,_,_,_=>none
def Pd {R:Type} (C:Nat->List AV->(AV->List AV->Option R)->Option R) (J:Nat->ao->(Ex->ao->Option R)->Option R)
    (T:TT) (N:Nat) (H:eY) (body:Code) (u:Nat) (U:ao) (K:Ex->ao->Option R):Option R:=
 oC C J T N H body u U λe U'=>match e with
  | .normal=>match pc H.heads u with
    |some keep=>match normal keep U' with
     |some G=>K .normal G
     |none=>none
    |none=>none
  | .exit i=>K (.exit i) U'
  | .ret=>K .ret U'
def VG (n:Nat) (own:Bool):AV->Option AV
 | .sl .nl t xs=>some (if own then .sl (.nm n) t xs else .sl .imm t xs)
 | .sl (.nm m) t xs=>some (if own then .sl (.nm m) t xs else .sl .imm t xs)
 | .sl .imm t xs=>if own then none else some (.sl .imm t xs)
 | .bool b=>some (.bool b)
 | .int k x=>some (.int k x)
 | .lit v=>some (.lit v)
 | .dp m t xs none=>if own then some (.dp m t xs none)else some (.sl .imm (.sl false t) xs)
 | .dq _ t xs none=>if own then none else some (.sl .imm t xs)
 |_=>none
def PD (n:Nat):List Bool->List AV->Option (List AV)
 |o::os,c::cs=>match VG n o c,PD (n+1) os cs with
  |some c',some cs'=>some (c'::cs')
  |_,_=>none
 |[],[]=>some []
 |_,_=>none
def Lv (n:Nat) (sp:List Bool):AV->Option AV
 | .agg cells=>(PD n sp cells).map .agg
 | .bx (.nm m) cells=>(PD n sp cells).map (.bx (.nm m))
 | .lit v=>some (.lit v)
 |v=>match sp with
  |[o]=>VG n o v
  |_=>none
def yE (T:TT) (U:ao) (n:Nat) (sp:List Bool):ResultVar->Option AV
 | .tmp t=>Lv n sp (U.get t)
 | .cell t ty=>match T.at ty,U.get t with
   |some u,.bx (.nm _) cells=>if cells.length=u.cells.length then
     (match me (Q9 u.desc) cells with
      |some v=>Lv n sp v
      |none=>none)else none
   |_,_=>none
def CV (T:TT) (U:ao):Nat->List (List Bool)->List ResultVar->Option (List AV)
 |n,sp::u,r::G=>match yE T U n sp r,CV T U (n+16) u G with
  |some v,some vs=>some (v::vs)
  |_,_=>none
 |_,[],[]=>some []
 |_,_,_=>none
def pM (own:Bool):AV->List Nat
 | .dp m _ _ _=>if own then []else [m]
 | .dq m _ _ _=>if own then []else [m]
 | .sl (.nm m) _ _=>if own then []else [m]
 |_=>[]
def mb:List Bool->List AV->List Nat
 |o::os,c::cs=>pM o c++mb os cs
 |_,_=>[]
def pN (sp:List Bool):AV->List Nat
 | .agg cells=>mb sp cells
 | .bx _ cells=>mb sp cells
 |v=>mb sp [v]
def BT (T:TT) (U:ao) (sp:List Bool):ResultVar->List Nat
 | .tmp t=>pN sp (U.get t)
 | .cell t ty=>match T.at ty,U.get t with
   |some u,.bx _ cells=>(match me (Q9 u.desc) cells with
    |some v=>pN sp v
    |none=>[])
   |_,_=>[]
def Pq (T:TT) (U:ao):List (List Bool)->List ResultVar->List Nat
 |sp::u,r::G=>BT T U sp r++Pq T U u G
 |_,_=>[]
def lP:List AV->AV
 |[v]=>v
 |vs=> .tup vs
def Ph:AV->Bool
 | .bx _ _=>true
 | .sl (.nm _) _ _=>true
 | .wn _ _ _=>true
 | .dp _ _ _ _=>true
 | .dq _ _ _ _=>true
 |_=>false
def Zn (U:ao):Nat->List AV->List AV
 |_,[]=>[]
 |i,a::as=>(match Ph a with
  |true=>U.get i
  |false=> .dead)::Zn U (i+1) as
def Ju:Nat->List AV->ao
 |_,[]=>[]
 |i,a::as=>(i,a)::Ju (i+1) as
def pinned (pins:List Nat):Nat->List AV->Bool
 |_,[]=>true
 |i,a::as=>(match Ph a with
  |true=>pins.contains i
  |false=>true)&&pinned pins (i+1) as
def Dc:List Nat->Bool
 |[]=>true
 |x::r=> !r.contains x&&Dc r
def N1 {R:Type} (T:TT) (H:eY) (fn:Func) (args:List AV) (G:AV->List AV->Option R) (U:ao):Option R:=
 match CV T U 200 H.spec fn.results.toList with
 |none=>none
 |some u=>
  let outs:=Zn U 0 args
  let ns:=u.flatMap ab++outs.flatMap ab
  if ns.length<=16/\Dc ns=true/\ns.contains 99=false/\vn (Pq T U H.spec fn.results.toList) ns=true/\u.all bV=true/\outs.all fe=true then G (ren (a8 ns) (lP u)) (outs.map (ren (a8 ns)))else none
def T4 {R:Type} (C:Nat->List AV->(AV->List AV->Option R)->Option R) (G:Nat->ao->(Ex->ao->Option R)->Option R)
    (T:TT) (H:eY) (fn:Func) (args:List AV) (u:AV->List AV->Option R):Option R:=
 match fn.body with
 |none=>none
 |some c=>
  if args.length<=fn.ntmps/\pinned H.pins 0 args then
   oC C G T fn.ntmps H c 0 (Ju 0 args) λe U=>match e with
    | .normal=>N1 T H fn args u U
    | .ret=>N1 T H fn args u U
    | .exit _=>none
  else none
abbrev aU:=Nat->Value
abbrev bp:=Nat->Option Nat
def az (w:World) (b o:Nat) (j:Nat):Option Value:=w.cell? ⟨b,o+j,none⟩
def be (who:bp) (w:World):(t:Ty)->aX t->(Nat->Option Value)->Nat->Prop
 | .int k,x,g,j=>g j=some (.int k x)
 | .bool,x,g,j=>g j=some (.bool x)
 | .pr a b,x,g,j=>be who w a x.1 g j/\be who w b x.2 g (j+a.size)
 | .sl _ t,xs,g,j=> ∃v,g j=some v/\
   ((v= .slice none 0 0/\xs=[])\/
    ∃b o cap,v= .slice (some ⟨b,o,none⟩) xs.length cap/\who b=none/\b<w.heap.size/\xs.length<=cap/\
     ∀i (h:i<xs.length),be who w t xs[i] (az w b (o+i*t.size)) 0)
def aT (who:bp) (w:World) (t:Ty) (xs:List (aX t)) (b o:Nat):Prop:=
 ∀i (h:i<xs.length),be who w t xs[i] (az w b (o+i*t.size)) 0
def hO (who:bp) (w:World) (t:Ty) (xs:List (aX t)) (v:Value):Prop:=
 (v= .slice none 0 0/\xs=[])\/
 ∃b o cap,v= .slice (some ⟨b,o,none⟩) xs.length cap/\who b=none/\b<w.heap.size/\xs.length<=cap/\aT who w t xs b o
def cE (β:aU) (who:bp) (w:World) (n:Nat) (t:Ty) (xs:List (aX t)) (v:Value):Prop:=
 v=β n/\((v= .slice none 0 0/\xs=[])\/
 ∃b o cap arr el,v= .slice (some ⟨b,o,none⟩) xs.length cap/\w.heap[b]? =some (.cells arr el (0,0))/\o+cap*t.size<=arr.size/\
  xs.length<=cap/\who b=some n/\aT who w t xs b o)
def yd (base:Value) (sz:Nat) (G:Option (Nat×Nat)) (v:Value):Prop:=
 match G with
 |none=>v=base/\ ∃a L cap,base= .slice a L cap
 |some (off,len)=> ∃a L cap u,base= .slice a L cap/\off+len<=L/\v= .slice u len (cap-off)/\
  (off<cap->u=a.map (λx=>x.add (off*sz)))/\u.map (λx=>(x.block,x.spot))=a.map (λx=>(x.block,x.spot))/\
  (∀b o,a=some ⟨b,o,none⟩-> ∃J,u=some ⟨b,J,none⟩/\J<=o+cap*sz)
def dL (base:Value) (sz i j:Nat) (v:Value):Prop:=
 (∃b o L cap,base= .slice (some ⟨b,o,none⟩) L cap/\i<L/\v= .pointer (some ⟨b,o+i*sz+j,none⟩))\/
 (∃b,base= .pointer (some ⟨b,0,none⟩)/\i=0/\v= .pointer (some ⟨b,j,none⟩))
def dj (v:Value) (j:Nat):Value:=match v with
 | .tuple arr=>arr.getD j undef
 |v=>v
def gp (who:bp) (w:World) (n:Nat) (t:Ty) (ys:List (aX t)) (v:Value) (b:Nat):Prop:=
 (v= .slice none 0 0/\ys=[])\/
 ∃bi u ci arr el,v= .slice (some ⟨bi,u,none⟩) ys.length ci/\w.heap[bi]? =some (.cells arr el (0,0))/\u+ci*t.size<=arr.size/\ys.length<=ci/\who bi=some n/\bi≠b/\aT who w t ys bi u
def bu (β:aU) (who:bp) (w:World) (n:Nat) (t:Ty) (xs:List (List (aX t))) (h:Option Nat) (v:Value):Prop:=
 v=dj (β n) 0/\((v= .slice none 0 0/\xs=[])\/ ∃b o cap arr el,v= .slice (some ⟨b,o,none⟩) xs.length cap/\w.heap[b]? =some (.cells arr el (0,0))/\o+cap<=arr.size/\xs.length<=cap/\who b=some n/\
  (∀i (O:i<xs.length),h≠some i->az w b o i=some (dj (β n) (i+1))/\gp who w n t xs[i] (dj (β n) (i+1)) b)/\
  ∀i j G u li J ci K,i<xs.length->j<xs.length->h≠some i->h≠some j->dj (β n) (i+1)= .slice (some G) li ci->dj (β n) (j+1)= .slice (some u) J K->G.block=u.block->i=j)
def bu.pos {β:aU} {who:bp} {w:World} {n:Nat} {t:Ty} {xs:List (List (aX t))} {h:Option Nat} {v:Value} (u:bu β who w n t xs h v) (hx:v≠ .slice none 0 0\/xs≠[]):
 v=dj (β n) 0/\ ∃b o cap arr el,v= .slice (some ⟨b,o,none⟩) xs.length cap/\w.heap[b]? =some (.cells arr el (0,0))/\o+cap<=arr.size/\xs.length<=cap/\who b=some n/\
 (∀i (hi:i<xs.length),h≠some i->az w b o i=some (dj (β n) (i+1))/\gp who w n t xs[i] (dj (β n) (i+1)) b)/\
 ∀i j K J li O ci cj,i<xs.length->j<xs.length->h≠some i->h≠some j->dj (β n) (i+1)= .slice (some K) li ci->dj (β n) (j+1)= .slice (some J) O cj->K.block=J.block->i=j:=by refine⟨u.1,?_⟩;rcases u.2 with⟨G,h2⟩|G;{grind};{exact G}
def Qc {α:Type} {xs:List α} {i:Nat} (h:i<xs.length):xs≠[]:=by rintro rfl;simp at h
def kf (base:Value):DK->Value->Prop
 | .whole,v=>v=dj base 0/\ ∃a L cap,dj base 0= .slice a L cap
 | .lenw l,v=>v=dj base 0/\((v= .slice none 0 0/\l=0)\/ ∃b o cap,v= .slice (some ⟨b,o,none⟩) l cap)
 | .cell i,v=> ∃b o L cap,dj base 0= .slice (some ⟨b,o,none⟩) L cap/\i<L/\v= .pointer (some ⟨b,o+i,none⟩)
 | .row i,v=>v=dj base (i+1)/\(∃a L cap,dj base (i+1)= .slice a L cap)/\ ∃a L cap,dj base 0= .slice a L cap/\i<L
 | .elem sz i j k,v=> ∃b o L cap,dj base (i+1)= .slice (some ⟨b,o,none⟩) L cap/\j<L/\v= .pointer (some ⟨b,o+j*sz+k,none⟩)/\ ∃a L cap,dj base 0= .slice a L cap/\i<L
def cJ (who:bp) (w:World) (n b:Nat) (h:Option Nat):(t:Ty)->aX t->(Nat->Option Value)->Nat->Prop
 | .int k,x,g,p=>g p=some (.int k x)
 | .bool,x,g,p=>g p=some (.bool x)
 | .pr s t,x,g,p=>cJ who w n b h s x.1 g p/\cJ who w n b h t x.2 g (p+s.size)
 | .sl _ t,xs,g,p=>h=some p\/ ∃v,g p=some v/\gp who w n t xs v b
def b9 (β:aU) (who:bp) (w:World) (n:Nat) (t:Ty) (xs:List (aX t)) (h:Option Nat) (v:Value):Prop:=
 v=β n/\((v= .slice none 0 0/\xs=[])\/ ∃b o cap arr el,v= .slice (some ⟨b,o,none⟩) xs.length cap/\w.heap[b]? =some (.cells arr el (0,0))/\o+cap*t.size<=arr.size/\xs.length<=cap/\who b=some n/\
  (∀i (J:i<xs.length),cJ who w n b h t xs[i] (az w b o) (i*t.size))/\
  ∀p q a u l G c c',p<xs.length*t.size->q<xs.length*t.size->h≠some p->h≠some q->az w b o p=some (.slice (some a) l c)->az w b o q=some (.slice (some u) G c')->a.block=u.block->p=q)
def yu:Option Nat->Value->Value
 |none,v=>v
 |some f,v=> .func (.func f) #[] #[v]
@[simp] def uj (v:Value):yu none v=v:=rfl
def GB (base:Value) (w:World) (sz:Nat) (v:Value):Prop:= ∃u,base= .agg u/\ ∀b o L cap arr el,v= .slice (some ⟨b,o,none⟩) L cap->w.heap[b]? =some (.cells arr el (0,0))->
 arr.size=u.size/\ ∀j,(j<o\/o+L*sz<=j)->arr[j]? =u[j]?
def aW (β:aU) (who:bp) (w:World):AV->Value->Prop
 | .dead,_=>True
 | .bool b,v=>v= .bool b
 | .int k x,v=>v= .int k x
 | .lit u,v=>v=u/\u.oneCell'=true
 | .sl .imm t xs,v=>hO who w t xs v
 | .sl .nl _ xs,v=>v= .slice none 0 0/\xs=[]
 | .sl (.nm n) t xs,v=>cE β who w n t xs v
 | .sl .inn _ _,_=>False
 | .ref _ n sz G,v=>yd (β n) sz G v
 | .ptr _ n sz i j,v=>dL (β n) sz i j v
 | .dp n t xs h,v=>bu β who w n t xs h v
 | .dr _ n k,v=>kf (β n) k v
 | .wn n t xs,v=>cE β who w n t xs v/\GB (β 98) w t.size v
 | .dq n t xs h,v=>b9 β who w n t xs h v
 | .iptr g t xs i j,v=> ∃b o,v=yu g (.pointer (some ⟨b,o+i*t.size+j,none⟩))/\i<xs.length/\who b=none/\b<w.heap.size/\aT who w t xs b o
 |_,_=>False
def bg (β:aU) (who:bp) (w:World) (cells:List AV) (arr:Array Value):Prop:=
 arr.size=cells.length/\ ∀j (h:j<cells.length),aW β who w cells[j] (arr.getD j undef)
def bG (β:aU) (who:bp) (w:World):AV->Value->Prop
 | .bx (.nm n) cells,v=>v=β n/\ ∃b arr el,v= .pointer (some ⟨b,0,none⟩)/\w.heap[b]? =some (.cells arr el (0,0))/\who b=some n/\
    bg β who w cells arr
 | .agg cells,v=> ∃arr,v= .agg arr/\bg β who w cells arr
 |av,v=>aW β who w av v
def br (β:aU) (who:bp) (w:World):AV->Value->Prop
 | .tup vs,v=> ∃arr:Array Value,v= .tuple arr/\arr.size=vs.length/\ ∀j (h:j<vs.length),bG β who w vs[j] (arr.getD j undef)
 |av,v=>bG β who w av v
def aK:AV->List Nat
 | .sl (.nm n) _ _=>[n]
 | .dp n _ _ _=>[n]
 | .wn n _ _=>[n,98]
 | .dq n _ _ _=>[n]
 | .dr _ n _=>[n]
 | .ref _ n _ _=>[n]
 | .ptr _ n _ _ _=>[n]
 |_=>[]
def a9:AV->List Nat
 | .bx (.nm n) cells=>n::cells.flatMap aK
 | .bx _ cells=>cells.flatMap aK
 | .agg cells=>cells.flatMap aK
 |v=>aK v
def occ:AV->List Nat
 | .tup vs=>vs.flatMap a9
 |v=>a9 v
structure cO (β:aU) (who:bp) (w:World) (β':aU) (who':bp) (w':World) (ns os:List Nat):Prop where
 beta: ∀n∈os,β' n=β n
 own: ∀n∈ns,∀b,who b=some n->who' b=some n/\w'.heap[b]? =w.heap[b]?
 imm: ∀b,who b=none->b<w.heap.size->who' b=none/\w'.heap[b]? =w.heap[b]?
 size:w.heap.size<=w'.heap.size
def Ok {w w':World} {b o j:Nat} (h:w'.heap[b]? =w.heap[b]?):az w' b o j=az w b o j:=by unfold az World.cell?;rw[h]
def be.ext {who:bp} {w:World}: ∀{t:Ty} {x:aX t} {g g':Nat->Option Value} {j:Nat},
 (∀j,g' j=g j)->be who w t x g j->be who w t x g' j
 | .int _,_,_,_,_,u,h=>by simp only[be]at*;rw[u];exact h
 | .bool,_,_,_,_,u,h=>by simp only[be]at*;rw[u];exact h
 | .pr _ _,_,_,_,_,u,h=>⟨be.ext u h.1,be.ext u h.2⟩
 | .sl _ _,_,_,_,_,u,h=>by obtain⟨v,G,h2⟩:=h;exact⟨v,by rw[u];exact G,h2⟩
def be.keep {who who':bp} {w w':World} (u: ∀b,who b=none->b<w.heap.size->who' b=none/\w'.heap[b]? =w.heap[b]?)
 (G:w.heap.size<=w'.heap.size): ∀{t:Ty} {x:aX t} {g:Nat->Option Value} {j:Nat},be who w t x g j->be who' w' t x g j
 | .int _,_,_,_,h=>h
 | .bool,_,_,_,h=>h
 | .pr _ _,_,_,_,h=>⟨be.keep u G h.1,be.keep u G h.2⟩
 | .sl _ t,xs,g,j,h=>by obtain⟨v,h1,h2⟩:=h;refine⟨v,h1,?_⟩;rcases h2 with h2|⟨b,o,cap,e1,e2,J,e4,e5⟩;{exact .inl h2};{exact .inr ⟨b,o,cap,e1,(u b e2 J).1,O,e4,λi K=> be.ext (λj=>Ok (u b e2 J).2) (be.keep u G (e5 i K))⟩}
def aT.keep {who who':bp} {w w':World} {t:Ty} {xs:List (aX t)} {b o:Nat}
 (u: ∀b,who b=none->b<w.heap.size->who' b=none/\w'.heap[b]? =w.heap[b]?) (G:w.heap.size<=w'.heap.size)
 (K:w'.heap[b]? =w.heap[b]?) (h:aT who w t xs b o):aT who' w' t xs b o:=
 λi J=>be.ext (λ_=>Ok K) (be.keep u G (h i J))
def hO.keep {who who':bp} {w w':World} {t:Ty} {xs:List (aX t)} {v:Value}
 (u: ∀b,who b=none->b<w.heap.size->who' b=none/\w'.heap[b]? =w.heap[b]?) (G:w.heap.size<=w'.heap.size)
 (h:hO who w t xs v):hO who' w' t xs v:=by rcases h with h|⟨b,o,cap,e1,e2,J,e4,K⟩;{exact .inl h};{exact .inr ⟨b,o,cap,e1,(u b e2 J).1,O,e4,aT.keep u G (u b e2 J).2 K⟩}
def bu.map {β β':aU} {who who':bp} {w w':World} {n n':Nat} {t:Ty} {xs:List (List (aX t))} {h:Option Nat} {v:Value} (u:β' n'=β n)
 (K: ∀b,who b=some n->who' b=some n'/\w'.heap[b]? =w.heap[b]?)
 (he: ∀(ys:List (aX t)) b o,w'.heap[b]? =w.heap[b]? ->aT who w t ys b o->aT who' w' t ys b o) (hr:bu β who w n t xs h v):bu β' who' w' n' t xs h v:=by obtain⟨O,h2⟩:=hr;rcases h2 with h2|⟨b,o,cap,arr,el,e1,e2,e3,e4,e5,e6,e7⟩;{exact⟨by rw[u];exact O,.inl h2⟩};obtain⟨g1,g2⟩:=K b e5;refine⟨by rw[u];exact O,.inr ⟨b,o,cap,arr,el,e1,by rw[g2];exact e2,e3,e4,g1,λi hi hh=> ?_,by rw[u];exact e7⟩⟩;obtain⟨f1,G⟩:=e6 i hi hh;rw[u];refine⟨by rw[Ok g2];exact f1,?_⟩;rcases G with G|⟨bi,oi,ci,ar,l,k1,k2,k3,k4,k5,k6,k7⟩;{exact .inl G};{obtain⟨m1,J⟩:=K bi k5;exact .inr ⟨bi,oi,ci,ar,l,k1,by rw[J];exact k2,k3,k4,m1,k6,he _ _ _ J k7⟩}
def gp.map {who who':bp} {w w':World} {n n':Nat} {t:Ty} {ys:List (aX t)} {v:Value} {b:Nat}
 (ho: ∀b,who b=some n->who' b=some n'/\w'.heap[b]? =w.heap[b]?)
 (he: ∀(t:Ty) (ys:List (aX t)) b o,w'.heap[b]? =w.heap[b]? ->aT who w t ys b o->aT who' w' t ys b o) (h:gp who w n t ys v b):gp who' w' n' t ys v b:=by rcases h with h|⟨bi,G,ci,ar,l,k1,k2,k3,k4,k5,O,K⟩;{exact .inl h};{obtain⟨J,u⟩:=ho bi k5;exact .inr ⟨bi,G,ci,ar,l,k1,by rw[u];exact k2,k3,k4,J,O,he _ _ _ _ u K⟩}
def cJ.imp {who who':bp} {w w':World} {n n' b b':Nat} {h h':Option Nat} {g g':Nat->Option Value} {d:Nat}: ∀{t:Ty} {x:aX t} {p:Nat},
 (∀j,j<t.size->g' (p+d+j)=g (p+j)\/(h'=some (p+d+j)/\ ∃v,g (p+j)=some v/\ ∀k z,v≠ .int k z/\ ∀y,v≠ .bool y))->
 (∀j,j<t.size->h=some (p+j)->h'=some (p+d+j))->
 (∀(u:Ty) (ys:List (aX u)) v j,j<t.size->g (p+j)=some v->gp who w n u ys v b->h'≠some (p+d+j)->gp who' w' n' u ys v b')->cJ who w n b h t x g p->cJ who' w' n' b' h' t x g' (p+d)
 | .int k,x,p,K,hh,hi,G=>by{have J:=K 0 (by simp[Ty.size]);simp only[zS]at J;rcases J with J|⟨_,v,h2,h3⟩;{simp only[cJ]at G⊢;rw[J];exact G};{simp only[cJ]at G;rw[G]at h2;injection h2 with h2;exact absurd h2.symm (h3 k x).1}}
 | .bool,x,p,K,hh,hi,G=>by{have J:=K 0 (by simp[Ty.size]);simp only[zS]at J;rcases J with J|⟨_,v,h2,h3⟩;{simp only[cJ]at G⊢;rw[J];exact G};{simp only[cJ]at G;rw[G]at h2;injection h2 with h2;exact absurd h2.symm ((h3 .i64 0).2 x)}}
 | .pr s t,x,p,K,hh,hi,G=>by{have e1: ∀j,p+(s.size+j)=p+s.size+j:=λj=>O;have e2: ∀j,p+d+(s.size+j)=p+s.size+d+j:=λj=>O;refine⟨cJ.imp (λj hj=>K j (by simp only[Ty.size];omega)) (λj hj=>hh j (by simp only[Ty.size];omega)) (λu ys v j hj=>hi u ys v j (by simp only[Ty.size];omega)) G.1,?_⟩;have:=cJ.imp (t:=t) (x:=x.2) (p:=p+s.size) (d:=d) (g:=g) (g':=g') (h:=h) (h':=h') (who:=who) (who':=who') (w:=w) (w':=w') (n:=n) (n':=n') (b:=b) (b':=b') (λj hj=>by have:=K (s.size+j) (by simp only[Ty.size];omega);rw[e1,e2]at this;exact this) (λj hj=>by have:=hh (s.size+j) (by simp only[Ty.size];omega);rw[e1,e2]at this;exact this) (λu ys v j hj=>by have:=hi u ys v (s.size+j) (by simp only[Ty.size];omega);rw[e1,e2]at this;exact this) G.2;rw[show p+s.size+d=p+d+s.size by omega]at this;exact this}
 | .sl _ t,xs,p,K,hh,hi,G=>by simp only[cJ]at G⊢;have J:=K 0 (by simp[Ty.size]);have h2:=hh 0 (by simp[Ty.size]);simp only[zS]at J h2;rcases G with G|⟨v,q1,q2⟩;{exact .inl (h2 G)};{rcases J with J|⟨J,_⟩;{by_cases e:h'=some (p+d);{exact .inl e};{exact .inr ⟨v,by rw[J];exact q1,hi t xs v 0 (by simp[Ty.size]) (by simpa using q1) q2 (by simpa using e)⟩}};{exact .inl J}}
def cJ.map {who who':bp} {w w':World} {n n' b:Nat} {h:Option Nat} {g g':Nat->Option Value} {t:Ty} {x:aX t} {p:Nat} (O: ∀j,g' j=g j)
 (J: ∀b,who b=some n->who' b=some n'/\w'.heap[b]? =w.heap[b]?)
 (he: ∀(t:Ty) (ys:List (aX t)) b o,w'.heap[b]? =w.heap[b]? ->aT who w t ys b o->aT who' w' t ys b o) (G:cJ who w n b h t x g p):cJ who' w' n' b h t x g' p:=
 cJ.imp (d:=0) (λj _=> .inl (O _)) (λj _ e=>e) (λu ys v j _ _ K _=>K.map J he) G
def b9.map {β β':aU} {who who':bp} {w w':World} {n n':Nat} {t:Ty} {xs:List (aX t)} {h:Option Nat} {v:Value} (hb:β' n'=β n)
 (G: ∀b,who b=some n->who' b=some n'/\w'.heap[b]? =w.heap[b]?)
 (he: ∀(t:Ty) (ys:List (aX t)) b o,w'.heap[b]? =w.heap[b]? ->aT who w t ys b o->aT who' w' t ys b o) (hr:b9 β who w n t xs h v):b9 β' who' w' n' t xs h v:=by obtain⟨h1,h2⟩:=hr;refine⟨by rw[hb];exact h1,?_⟩;rcases h2 with h2|⟨b,o,cap,arr,el,e1,e2,e3,e4,e5,e6,e7⟩;{exact .inl h2};obtain⟨g1,J⟩:=G b e5;have u: ∀j,az w' b o j=az w b o j:=λj=>Ok J;exact .inr ⟨b,o,cap,arr,el,e1,by rw[J];exact e2,e3,e4,g1,λi hi=>(e6 i hi).map u G he,λp q a a' l l' c c' p1 p2 p3 p4 O K=>e7 p q a a' l l' c c' p1 p2 p3 p4 (by rw[<-u];exact O) (by rw[<-u];exact K)⟩
section
variable {β β':aU} {who who':bp} {w w':World}
def aW.keep {av:AV} {v:Value} (k:cO β who w β' who' w' (qc av) (aK av)) (h:aW β who w av v):aW β' who' w' av v:=by cases av with|sl o t xs=>{cases o with|imm=>exact hO.keep k.imm k.size h|nl=>exact h|inn=>exact h|nm n=>{obtain⟨h1,h2⟩:=h;refine⟨by rw[k.beta n (by simp[aK])];exact h1,?_⟩;rcases h2 with h2|⟨b,o,cap,arr,el,e1,e2,e3,e4,e5,e6⟩;{exact .inl h2};{have hk:=k.own n (by simp[qc]) b e5;exact .inr ⟨b,o,cap,arr,el,e1,by rw[hk.2];exact e2,e3,e4,hk.1,aT.keep k.imm k.size hk.2 e6⟩}}}|ref s n sz win=>{simp only[aW]at*;rw[k.beta n (by simp[aK])];exact h}|ptr s n sz i j=>{simp only[aW]at*;rw[k.beta n (by simp[aK])];exact h}|dr s n kk=>{simp only[aW]at*;rw[k.beta n (by simp[aK])];exact h}|iptr g t xs i j=>{obtain⟨b,o,e1,e2,e3,e4,e5⟩:=h;exact⟨b,o,e1,e2,(k.imm b e3 e4).1,by have:=k.size;omega,aT.keep k.imm k.size (k.imm b e3 e4).2 e5⟩}|dp n t xs hh=>exact bu.map (k.beta n (by simp[aK])) (λb hb=>k.own n (by simp[qc]) b hb) (λ_ _ _ hb he=>he.keep k.imm k.size hb) h|dq n t xs hh=>exact b9.map (k.beta n (by simp[aK])) (λb hb=>k.own n (by simp[qc]) b hb) (λ_ _ _ _ hb he=>he.keep k.imm k.size hb) h|wn n t xs=>{obtain⟨⟨h1,h2⟩,arr0,g1,g2⟩:=h;rcases h2 with⟨h2,h2'⟩|⟨b,o,cap,arr,el,e1,e2,e3,e4,e5,e6⟩;{refine⟨⟨by rw[k.beta n (by simp[aK])];exact h1,.inl ⟨h2,h2'⟩⟩,arr0,by rw[k.beta 98 (by simp[aK])];exact g1,λb o L cap arr el q1 _=> ?_⟩;rw[h2]at q1;cases q1};{have hk:=k.own n (by simp[qc]) b e5;refine⟨⟨by rw[k.beta n (by simp[aK])];exact h1,.inr ⟨b,o,cap,arr,el,e1,by rw[hk.2];exact e2,e3,e4,hk.1,aT.keep k.imm k.size hk.2 e6⟩⟩,arr0,by rw[k.beta 98 (by simp[aK])];exact g1,λb' o' L' cap' arr' el' q1 q2=> ?_⟩;grind}}|_=>exact h
def cO.mono {ns os G u:List Nat} (k:cO β who w β' who' w' ns os) (K: ∀n∈G,n∈ns) (J: ∀n∈u,n∈os):
 cO β who w β' who' w' G u:=
 ⟨λn h=>k.beta n (J n h),λn h=>k.own n (K n h),k.imm,k.size⟩
def bg.keep {cells:List AV} {arr:Array Value} (k:cO β who w β' who' w' (cells.flatMap qc) (cells.flatMap aK))
 (h:bg β who w cells arr):bg β' who' w' cells arr:=
 ⟨h.1,λj G=>aW.keep (k.mono (λn u=>zL.2 ⟨_,zW G,u⟩) (λn u=>zL.2 ⟨_,zW G,u⟩)) (h.2 j G)⟩
def bG.keep {av:AV} {v:Value} (k:cO β who w β' who' w' (qh av) (a9 av)) (h:bG β who w av v):bG β' who' w' av v:=by cases av with|bx o cells=>{cases o with|nm n=>{obtain⟨h0,b,arr,el,e1,e2,e3,e4⟩:=h;have hk:=k.own n (by simp[qh]) b e3;exact⟨by rw[k.beta n (by simp[a9])];exact h0,b,arr,el,e1,by rw[hk.2];exact e2,hk.1,bg.keep (k.mono (λn hn=>by simp only[qh];grind) (λn hn=>by simp only[a9];grind)) e4⟩}|_=>exact h}|agg cells=>{obtain⟨arr,e1,e2⟩:=h;exact⟨arr,e1,bg.keep k e2⟩}|dead=>trivial|bool b=>exact aW.keep (av:= .bool b) k h|int x n=>exact aW.keep (av:= .int x n) k h|lit u=>exact aW.keep (av:= .lit u) k h|sl o t xs=>exact aW.keep (av:= .sl o t xs) k h|tup vs=>exact h.elim|ref s n sz win=>exact aW.keep (av:= .ref s n sz win) k h|ptr s n sz i j=>exact aW.keep (av:= .ptr s n sz i j) k h|iptr g t xs i j=>exact aW.keep (av:= .iptr g t xs i j) k h|dp n t xs hh=>exact aW.keep (av:= .dp n t xs hh) k h|dr s n kk=>exact aW.keep (av:= .dr s n kk) k h|wn n t xs=>exact aW.keep (av:= .wn n t xs) k h|dq n t xs hh=>exact aW.keep (av:= .dq n t xs hh) k h
def br.keep {av:AV} {v:Value} (k:cO β who w β' who' w' (ab av) (occ av)) (h:br β who w av v):br β' who' w' av v:=by cases av with|tup vs=>{obtain⟨arr,e1,e2,e3⟩:=h;exact⟨arr,e1,e2,λj hj=>bG.keep (k.mono (λn hn=>zL.2 ⟨_,zW hj,hn⟩) (λn hn=>zL.2 ⟨_,zW hj,hn⟩)) (e3 j hj)⟩}|dead=>trivial|bool b=>exact bG.keep (av:= .bool b) k h|int x n=>exact bG.keep (av:= .int x n) k h|lit u=>exact bG.keep (av:= .lit u) k h|sl o t xs=>exact bG.keep (av:= .sl o t xs) k h|bx o cells=>exact bG.keep (av:= .bx o cells) k h|agg cells=>exact bG.keep (av:= .agg cells) k h|ref s n sz win=>exact bG.keep (av:= .ref s n sz win) k h|ptr s n sz i j=>exact bG.keep (av:= .ptr s n sz i j) k h|iptr g t xs i j=>exact bG.keep (av:= .iptr g t xs i j) k h|dp n t xs hh=>exact bG.keep (av:= .dp n t xs hh) k h|dr s n kk=>exact bG.keep (av:= .dr s n kk) k h|wn n t xs=>exact bG.keep (av:= .wn n t xs) k h|dq n t xs hh=>exact bG.keep (av:= .dq n t xs hh) k h
end
def qg (U:ao) (s:Nat) (v:AV):(U.set s v).get s=v:=by induction U with|nil=>simp[ao.set,ao.get]|cons x r G=>{obtain⟨k,u⟩:=x;by_cases h:k=s<;>simp[ao.set,ao.get,h,G]}
def qf (U:ao) {s t:Nat} (v:AV) (G:t≠s):(U.set s v).get t=U.get t:=by induction U with|nil=>{simp[ao.set,ao.get];omega}|cons x r J=>{obtain⟨k,u⟩:=x;by_cases h:k=s;{subst h;simp[ao.set,ao.get];grind};{simp only[ao.set,h,if_false,ao.get];grind}}
def FN:Nat:=99
def q7b:List (Nat×Operand)->List (IntKind×Int)
 |[]=>[]
 |(_,.const (.int k n))::r=>(k,n)::q7b r
 |_::r=>q7b r
def qat:List Oper->Tmp->List (IntKind×Int)
 |[],_=>[]
 |o::r,t=>match o.dst,o.op with
  |some d,.build _ ps=>if d=t then q7b ps.toList else qat r t
  |_,_=>qat r t
def YT (all:List Oper):List Oper->List (Nat×IntKind×LI)
 |[]=>[]
 |o::r=>match o.op with
  | .store _ (.global g) (.tmp t)=>(match qat all t with
    |(k,n)::l=>[(g,k,n::l.map (·.2))]
    |[]=>[])++YT all r
  |_=>YT all r
def VF:Code->List Oper
 | .region _ ops _=>ops.toList
 | .seq a b=>VF a++VF b
 |_=>[]
def U7 (P:Program):List (Nat×IntKind×LI):=
 match P.funcs.toList.find? λf=>f.name== "gosem.cut.vars" with
 |some f=>(match f.body with
  |some c=>YT (VF c) (VF c)
  |none=>[])
 |none=>[]
def cG (P:Program) (who:bp) (w:World):Prop:= ∀x∈U7 P,who x.1=none/\x.1<w.heap.size/\ ∀i (h:i<x.2.2.length),w.cell? ⟨x.1,i,none⟩=some (.int x.2.1 x.2.2[i])
structure ba where
 prog:Program
 w0:World
 who0:bp
 pins:List (Nat×Value)
 N:Nat
 gok:cG prog who0 w0
 fr:Value
structure aC (E:ba) (D:Nat->Prop) (β:aU) (who:bp) (U:ao) (hd:List (AV×Value)) (a:Act) (w:World):Prop where
 rel: ∀s,br β who w (U.get s) (a.tmps.getD s undef)
 nod: ∀s,(ab (U.get s)).Nodup
 dis: ∀s s' n,n∈ab (U.get s)->n∈ab (U.get s')->s=s'
 occ: ∀s n,n∈Vs.occ (U.get s)->D n
 hrel: ∀x∈hd,br β who w x.1 x.2
 hnod:(hd.flatMap λx=>ab x.1).Nodup
 hdis: ∀x∈hd,∀n∈ab x.1,∀s,n∉ab (U.get s)
 hocc: ∀x∈hd,∀n∈Vs.occ x.1,D n
 wsz: ∀b n,who b=some n->b<w.heap.size
 fr0: ∀b,b<E.w0.heap.size->E.who0 b=none\/E.who0 b=some FN->w.heap[b]? =E.w0.heap[b]?
 fr1: ∀b n,who b=some n->E.who0 b≠none\/E.w0.heap.size<=b
 fr2:E.w0.heap.size<=w.heap.size
 fr3: ∀b,E.who0 b=some FN->who b=some FN
 fr4:w.os=E.w0.os/\w.output=E.w0.output
 dfn: ¬D FN
 dfr:a.defers=[]
 tsz:a.tmps.size=E.N
 pin: ∀p∈E.pins,a.tmps.getD p.1 undef=p.2
 frm:β 98=E.fr
 d98:D 98
def Yg {av:AV} {n:Nat} (h:n∈qc av):n∈aK av:=by cases av with|sl o t xs=>{cases o<;>simp[qc,aK]at* ;exact h}|dp m t xs hh=>exact h|dq m t xs hh=>exact h|wn m t xs=>{simp only[qc,aK,zu,oG,or_false]at*;exact .inl h}|_=>simp[qc]at h
def Wv {cells:List AV} {n:Nat} {f g:AV->List Nat} (u: ∀c,n∈f c->n∈g c) (h:n∈cells.flatMap f):n∈cells.flatMap g:=by grind
def Yf {av:AV} {n:Nat} (h:n∈qh av):n∈a9 av:=by cases av with|bx o cells=>{cases o with|nm m=>{simp only[qh,a9,zu]at*;exact h.imp id (Wv λc=>Yg)}|_=>exact Wv (λc=>Yg) h}|agg cells=>exact Wv (λc=>Yg) h|sl o t xs=>exact Yg (av:= .sl o t xs) h|dp m t xs hh=>exact h|dq m t xs hh=>exact h|wn m t xs=>exact Yg (av:= .wn m t xs) h|_=>simp[qh,qc]at h
def qi {av:AV} {n:Nat} (h:n∈ab av):n∈Vs.occ av:=by cases av with|tup vs=>exact Wv (λc=>Yf) h|sl o t xs=>exact Yf (av:= .sl o t xs) h|dp m t xs hh=>exact h|dq m t xs hh=>exact h|wn m t xs=>exact Yf (av:= .wn m t xs) h|bx o cells=>exact Yf (av:= .bx o cells) h|agg cells=>exact Yf (av:= .agg cells) h|_=>simp[ab,qh,qc]at h
section
variable {E:ba} {D:Nat->Prop} {β:aU} {who:bp} {U:ao} {hd:List (AV×Value)} {a:Act} {w:World}
def aC.mono (S:aC E D β who U hd a w) {D':Nat->Prop} (h: ∀n,D n->D' n) (hF: ¬D' FN):aC E D' β who U hd a w:=
 {S with occ:=λs n hn=>h n (S.occ s n hn),hocc:=λx hx n hn=>h n (S.hocc x hx n hn),dfn:=hF,d98:=h 98 S.d98}
def aC.ext (S:aC E D β who U hd a w) {U':ao} (h: ∀s,U'.get s=U.get s):aC E D β who U' hd a w:=
 {S with rel:=λs=>by rw[h];exact S.rel s,nod:=λs=>by rw[h];exact S.nod s,
         dis:=λs s' n h1 h2=>S.dis s s' n (by rw[<-h];exact h1) (by rw[<-h];exact h2),
         occ:=λs n hn=>S.occ s n (by rw[<-h];exact hn),
         hdis:=λx hx n hn s=>by rw[h];exact S.hdis x hx n hn s}
def aC.drop (S:aC E D β who U hd a w) {x:AV×Value} {hd':List (AV×Value)} (h:hd=x::hd'):aC E D β who U hd' a w:=by
 subst h
 exact{S with hrel:=λy hy=>S.hrel y (mT hy),hnod:=(zT.1 (by simpa using S.hnod)).2.1,
              hdis:=λy hy=>S.hdis y (mT hy),hocc:=λy hy=>S.hocc y (mT hy)}
def aC.take0 (S:aC E D β who U hd a w) {v:AV} {c:Value} (hv:br β who w v c) (h0:ab v=[]) (ho: ∀n∈Vs.occ v,D n):
 aC E D β who U ((v,c)::hd) a w:=
 {S with
  hrel:=λy hy=>by rcases mC hy with rfl|hy;exact hv;exact S.hrel y hy
  hnod:=by simpa [h0]using S.hnod
  hdis:=λy hy=>by
   rcases mC hy with rfl|hy
   . intro n hn;simp[h0]at hn
   . exact S.hdis y hy
  hocc:=λy hy=>by rcases mC hy with rfl|hy;exact ho;exact S.hocc y hy}
def aC.abs (S:aC E D β who U hd a w) {s:Nat} {v:AV} (hv:br β who w v (a.tmps.getD s undef)) (hn: ∀n∈ab v,n∈ab (U.get s))
 (hnd:(ab v).Nodup) (ho: ∀n∈Vs.occ v,D n):aC E D β who (U.set s v) hd a w:=
 {S with
  rel:=λt=>by
   by_cases h:t=s
   . subst h;rw[qg];exact hv
   . rw[qf _ _ h];exact S.rel t
  nod:=λt=>by
   by_cases h:t=s
   . subst h;rw[qg];exact hnd
   . rw[qf _ _ h];exact S.nod t
  dis:=λt t' n h1 h2=>by
   have g: ∀t,n∈ab ((U.set s v).get t)->n∈ab (U.get t):=λt ht=>by
    by_cases h:t=s
    . subst h;rw[qg]at ht;exact hn n ht
    . rw[qf _ _ h]at ht;exact ht
   exact S.dis t t' n (g t h1) (g t' h2)
  occ:=λt n h1=>by
   by_cases h:t=s
   . subst h;rw[qg]at h1;exact ho n h1
   . rw[qf _ _ h]at h1;exact S.occ t n h1
  hdis:=λx hx n h1 t=>by
   by_cases h:t=s
   . subst h;rw[qg];exact λh2=>S.hdis x hx n h1 t (hn n h2)
   . rw[qf _ _ h];exact S.hdis x hx n h1 t}
def aC.takeAll (S:aC E D β who U hd a w) (s:Nat):aC E D β who (U.set s .dead) ((U.get s,a.tmps.getD s undef)::hd) a w:=by
 have S':=S.abs (s:=s) (v:= .dead) trivial (λn h=>by simp[ab,qh,qc]at h) (by simp[ab,qh,qc]) (λn h=>by simp[Vs.occ,a9,aK]at h)
 exact{S' with
  hrel:=λy hy=>by rcases mC hy with rfl|hy;exact S.rel s;exact S.hrel y hy
  hnod:=by
   simp only[fC];refine zT.2 ⟨S.nod s,S.hnod,λn h1 m h2=> ?_⟩
   rintro rfl
   obtain⟨x,hx,hn⟩:=zL.1 h2;exact S.hdis x hx n hn s h1
  hdis:=λy hy=>by
   rcases mC hy with rfl|hy
   . intro n h1 t h2;by_cases h:t=s
     . subst h;rw[qg]at h2;simp[ab,qh,qc]at h2
     . rw[qf _ _ h]at h2;exact h (S.dis t s n h2 h1)
   . exact S'.hdis y hy
  hocc:=λy hy=>by rcases mC hy with rfl|hy;exact S.occ s;exact S.hocc y hy}
def aC.put {v:AV} {c:Value} (S:aC E D β who U ((v,c)::hd) a w) {d:Nat} (hd1:d<E.N) (hp: ∀p∈E.pins,p.1≠d):
 aC E D β who (U.set d v) hd (a.put (some d) c) w:=by
 have hsz:d<a.tmps.size:=by rw[S.tsz];exact hd1
 have hget: ∀t,(a.put (some d) c).tmps.getD t undef=if t=d then c else a.tmps.getD t undef:=λt=>by
  simp only[Act.put,Array.getD_eq_getD_getElem?,Array.getElem?_setIfInBounds]
  grind
 have hv:=S.hrel _ mS;have hin: ∀t,t≠d->(a.put (some d) c).tmps.getD t undef=a.tmps.getD t undef:=λt h=>by rw[hget,ae h]
 exact{
  rel:=λt=>by
   by_cases h:t=d
   . subst h;rw[qg,hget,iP rfl];exact hv
   . rw[qf _ _ h,hin t h];exact S.rel t
  nod:=λt=>by
   by_cases h:t=d
   . subst h;rw[qg];exact(zT.1 (by simpa using S.hnod)).1
   . rw[qf _ _ h];exact S.nod t
  dis:=λt t' n h1 h2=>by
   by_cases h:t=d<;>by_cases h':t'=d
   . rw[h,h']
   . subst h;rw[qg]at h1;rw[qf _ _ h']at h2;exact absurd h2 (S.hdis _ mS n h1 t')
   . subst h';rw[qg]at h2;rw[qf _ _ h]at h1;exact absurd h1 (S.hdis _ mS n h2 t)
   . rw[qf _ _ h]at h1;rw[qf _ _ h']at h2;exact S.dis t t' n h1 h2
  occ:=λt n h1=>by
   by_cases h:t=d
   . subst h;rw[qg]at h1;exact S.hocc _ mS n h1
   . rw[qf _ _ h]at h1;exact S.occ t n h1
  hrel:=λy hy=>S.hrel y (mT hy)
  hnod:=(zT.1 (by simpa using S.hnod)).2.1
  hdis:=λy hy n h1 t=>by
   by_cases h:t=d
   . subst h;rw[qg];have:=(zT.1 (by simpa using S.hnod:(ab v++hd.flatMap λx=>ab x.1).Nodup)).2.2
     grind
   . rw[qf _ _ h];exact S.hdis y (mT hy) n h1 t
  hocc:=λy hy=>S.hocc y (mT hy)
  wsz:=S.wsz,fr0:=S.fr0,fr1:=S.fr1,fr2:=S.fr2,fr3:=S.fr3,fr4:=S.fr4,dfn:=S.dfn
  dfr:=S.dfr
  tsz:=by simp[Act.put,S.tsz]
  pin:=λp hp'=>by rw[hin p.1 (hp p hp')];exact S.pin p hp'
  frm:=S.frm
  d98:=S.d98}
def aC.putNone {v:AV} {c:Value} (S:aC E D β who U ((v,c)::hd) a w):aC E D β who U hd (a.put none c) w:=by have:=S.drop rfl;simpa [Act.put]using this
def aC.glob (S:aC E D β who U hd a w):cG E.prog who w:=λx G=>by obtain⟨u,h2,O⟩:=E.gok x G;have K:=S.fr0 x.1 h2 (.inl u);refine⟨?_,x5 h2 S.fr2,λi J=> ?_⟩;{cases hw:who x.1 with|none=>rfl|some n=>{rcases S.fr1 _ n hw with h|h;{exact absurd u h};{omega}}};{have:=O i J;rw[<-this];unfold World.cell?;simp only[K]}
def aC.world (S:aC E D β who U hd a w) {β':aU} {who':bp} {w':World}
 (hrel: ∀s,br β' who' w' (U.get s) (a.tmps.getD s undef)) (hhrel: ∀x∈hd,br β' who' w' x.1 x.2)
 (hw: ∀b n,who' b=some n->b<w'.heap.size) (hsz:w.heap.size<=w'.heap.size)
 (h0: ∀b,b<E.w0.heap.size->E.who0 b=none\/E.who0 b=some FN->w'.heap[b]? =w.heap[b]?)
 (h1: ∀b n,who' b=some n->E.who0 b≠none\/E.w0.heap.size<=b) (h3: ∀b,E.who0 b=some FN->who' b=some FN) (h4:w'.os=w.os/\w'.output=w.output:=by exact⟨rfl,rfl⟩) (h98:β' 98=β 98:=by exact rfl):aC E D β' who' U hd a w':=
 {S with frm:=h98.trans S.frm,rel:=hrel,hrel:=hhrel,wsz:=hw,fr0:=λb hb hn=>by rw[h0 b hb hn];exact S.fr0 b hb hn,fr1:=h1,fr2:=zQ S.fr2 hsz,fr3:=h3,fr4:=⟨h4.1.trans S.fr4.1,h4.2.trans S.fr4.2⟩}
def aC.keep (S:aC E D β who U hd a w) {β':aU} {who':bp} {w':World}
 (hβ: ∀n,D n->β' n=β n) (G: ∀b n,who b=some n->who' b=some n) (hheap: ∀b,b<w.heap.size->w'.heap[b]? =w.heap[b]?)
 (O: ∀b,who b=none->b<w.heap.size->who' b=none) (hw: ∀b n,who' b=some n->b<w'.heap.size)
 (K:w.heap.size<=w'.heap.size) (h4:w'.os=w.os/\w'.output=w.output:=by exact⟨rfl,rfl⟩):aC E D β' who' U hd a w':=by have k: ∀ns os,(∀n∈os,D n)->cO β who w β' who' w' ns os:=λns os ho=> ⟨λn hn=>hβ n (ho n hn),λn _ b u=>⟨G b n u,hheap b (S.wsz b n u)⟩,λb u J=>⟨O b u J,hheap b J⟩,K⟩;refine S.world (λs=>(S.rel s).keep (k _ _ (S.occ s))) (λx hx=>(S.hrel x hx).keep (k _ _ (S.hocc x hx))) hw K (λb u _=>hheap b (x5 u S.fr2)) (λb n u=> ?_) (λb u=>G b FN (S.fr3 b u)) h4 (hβ 98 S.d98);by_cases J:b<w.heap.size;{cases a0:who b with|none=>grind|some m=>exact S.fr1 b m a0};{exact .inr (by have:=S.fr2;omega)}
end
abbrev Q7:=Nat->List AV->AV->List AV->Prop
def vw (U:ao) (G:Nat):Option AV:=dh (G/32) (G%32) (U.get (G/32))
def Vw {s j:Nat} (h:17<=j) (a:AV):dh s j a=none:=by
 match j,h with
 |j+2,h=>simp only[dh];rw[ae O]
def Ld (U:ao) {s j:Nat} (h:j<32):vw U (32*s+j)=dh s j (U.get s):=by unfold vw;grind
def xj (U:ao) (s:Nat):vw U (32*s)=some (U.get s):=by have:=Ld U (s:=s) (j:=0) O;simpa [dh]using this
def VE {U τ:ao} {G:Nat} (h:τ.get (G/32)=U.get (G/32)):vw τ G=vw U G:=by unfold vw;rw[h]
def qef: ∀{b n G:Nat} {r:List Nat},G∈lU b n r↔(b<=G/\G<b+n)\/G∈r
 |b,0,G,r=>by simp only[lU];grind
 |b,n+1,G,r=>by simp only[lU,zu,qef (b:=b+1) (n:=n)];grind
def Yh {s G:Nat} {r:List Nat}:G∈lT s r↔(G/32=s/\G%32<17)\/G∈r:=by unfold lT;rw[qef];grind
def Xq {s G:Nat} {W r:List Nat}:G∈gG s W r↔(∃j∈W,G=32*s+j)\/G∈r:=by induction W with|nil=>simp[gG]|cons j J u=>{simp only[gG,zu,u];grind}
def qqa (U:ao) {s G:Nat} (v:AV) (h: ¬(G/32=s/\G%32<17)):vw (U.set s v) G=vw U G:=by by_cases e:G/32=s;{unfold vw;rw[Vw O,Vw O]};{exact VE (qf _ _ e)}
def qxm (U:ao) {s G:Nat} {v:AV} {W:List Nat} (h: ∀j,j∉W->dh s j v=dh s j (U.get s)) (u: ∀j∈W,G≠32*s+j):vw (U.set s v) G=vw U G:=by by_cases e:G/32=s;{subst e;unfold vw;rw[qg];grind};{exact VE (qf _ _ e)}
def qpj (U τ:ao) {s G:Nat} (v:AV) (h:G/32≠s->vw τ G=vw U G):vw (τ.set s v) G=vw (U.set s v) G:=by by_cases e:G/32=s;{subst e;exact VE (by rw[qg,qg])};{have h':=h e;unfold vw at h'⊢;rw[qf _ _ e,qf _ _ e];exact h'}
inductive aw (CO:Q7) {α:Type}:M α->ao->α->ao->List Nat->List Nat->Prop where
 |ret {a:α} {U:ao}:aw CO (.ret a) U a U [] []
 |get {s:Nat} {k:AV->M α} {U U':ao} {a:α} {R W:List Nat}:aw CO (k (U.get s)) U a U' R W->aw CO (.get s k) U a U' ((32*s)::R) W
 |view {s j:Nat} {k:Option AV->M α} {U U':ao} {a:α} {R W:List Nat}:aw CO (k (dh s j (U.get s))) U a U' R W->aw CO (.view s j k) U a U' ((32*s+j)::R) W
 |set {s:Nat} {v:AV} {k:M α} {U U':ao} {a:α} {R W:List Nat}:aw CO k (U.set s v) a U' R W->aw CO (.set s v k) U a U' (lT s R) (lT s W)
 |upd {s:Nat} {V:List Nat} {f:AV->Option AV} {hf: ∀a b,f a=some b-> ∀j,j∉V->dh s j b=dh s j a} {v:AV} {k:M α} {U U':ao} {a:α} {R W:List Nat}:f (U.get s)=some v->aw CO k (U.set s v) a U' R W->aw CO (.upd s V f hf k) U a U' ((32*s)::gG s V R) (gG s V W)
 |ask {p:Prop} {d:Decidable p} {k:M α} {U U':ao} {a:α} {R W:List Nat}:p->aw CO k U a U' R W->aw CO (.ask p d k) U a U' R W
 |know {s:Nat} {b:Bool} {k:Bool->M α} {U U':ao} {a:α} {R W:List Nat}:U.get s= .bool b->aw CO (k b) U a U' R W->aw CO (.know s k) U a U' ((32*s)::R) W
 |call {f:Nat} {as:List AV} {k:AV->List AV->M α} {r:AV} {os:List AV} {U U':ao} {a:α} {R W:List Nat}:
   CO f as r os->aw CO (k r os) U a U' R W->aw CO (.call f as k) U a U' R W
def qdy: ∀(k n:Nat) (a b:List Nat),lU k n (a++b)=lU k n a++b
 |_,0,_,_=>rfl
 |k,n+1,a,b=>by simp only[lU,qdy (k+1) n a b,Ct]
def qez (s:Nat) (a b:List Nat):lT s (a++b)=lT s a++b:=qdy _ _ _ _
def qff (s:Nat) (V a b:List Nat):gG s V (a++b)=gG s V a++b:=by induction V with|nil=>rfl|cons j G u=>simp[gG,u]
def tI (U τ:ao):Prop:= ∀s,τ.get s=U.get s
section
variable {CO:Q7} {α β:Type}
def aw.bind {m:M α} {f:α->M β} {U U1:ao} {b:β} {R W:List Nat} (h:aw CO (m.bind f) U b U1 R W):
 ∃a U' R1 W1 R2 W2,aw CO m U a U' R1 W1/\aw CO (f a) U' b U1 R2 W2/\R=R1++R2/\W=W1++W2:=by induction m generalizing U R W with|ret a=>exact⟨a,U,[],[],R,W,.ret,h,rfl,rfl⟩|fail=>cases h|get s k ih=>{cases h with|get h=>{obtain⟨a,U',R1,W1,R2,W2,h1,h2,e1,e2⟩:=ih _ h;exact⟨a,U',_,_,R2,W2,.get h1,h2,by simp[e1],e2⟩}}|view s j k ih=>{cases h with|view h=>{obtain⟨a,U',R1,W1,R2,W2,h1,h2,e1,e2⟩:=ih _ h;exact⟨a,U',_,_,R2,W2,.view h1,h2,by simp[e1],e2⟩}}|set s v k ih=>{cases h with|set h=>{obtain⟨a,U',R1,W1,R2,W2,h1,h2,e1,e2⟩:=ih h;exact⟨a,U',_,_,R2,W2,.set h1,h2,by rw[e1,qez],by rw[e2,qez]⟩}}|upd s V g hg k ih=>{cases h with|upd hv h=>{obtain⟨a,U',R1,W1,R2,W2,h1,h2,e1,e2⟩:=ih h;exact⟨a,U',_,_,R2,W2,.upd hv h1,h2,by rw[e1,qff];rfl,by rw[e2,qff]⟩}}|ask p d k ih=>{cases h with|ask hp h=>{obtain⟨a,U',R1,W1,R2,W2,h1,h2,e1,e2⟩:=ih h;exact⟨a,U',_,_,R2,W2,.ask hp h1,h2,e1,e2⟩}}|know s k ih=>{cases h with|know hb h=>{obtain⟨a,U',R1,W1,R2,W2,h1,h2,e1,e2⟩:=ih _ h;exact⟨a,U',_,_,R2,W2,.know hb h1,h2,by simp[e1],e2⟩}}|call g as k ih=>{cases h with|call hc h=>{obtain⟨a,U',R1,W1,R2,W2,h1,h2,e1,e2⟩:=ih _ _ h;exact⟨a,U',_,_,R2,W2,.call hc h1,h2,e1,e2⟩}}
def aw.frame {m:M α} {U U':ao} {a:α} {R W:List Nat} (h:aw CO m U a U' R W): ∀s,s∉W->vw U' s=vw U s:=by induction h with|ret=>exact λ_ _=>rfl|get _ ih=>exact ih|view _ ih=>exact ih| @set s v k U U' a R W _ ih=>{intro t ht;rw[Yh,not_or]at ht;rw[ih t ht.2,qqa _ _ ht.1]}| @upd s V f hf v k U U' a R W hv _ ih=>{intro t ht;rw[Xq,not_or]at ht;rw[ih t ht.2,qxm _ (hf _ _ hv) (λj hj e=>ht.1 ⟨j,hj,e⟩)]}|ask _ _ ih=>exact ih|know _ _ ih=>exact ih|call _ _ ih=>exact ih
def aw.subW {m:M α} {U U':ao} {a:α} {R W:List Nat} (h:aw CO m U a U' R W): ∀s∈W,s∈R:=by induction h with|ret=>{intro s h;exact h}|get _ ih=>grind|view _ ih=>grind|set _ ih=>{intro t ht;rw[Yh]at ht⊢;exact ht.imp id (ih t)}|upd _ _ ih=>{intro t ht;rw[Xq]at ht;exact mT (Xq.2 (ht.imp id (ih t)))}|ask _ _ ih=>exact ih|know _ _ ih=>grind|call _ _ ih=>exact ih
def aw.local {m:M α} {U U':ao} {a:α} {R W:List Nat} (h:aw CO m U a U' R W): ∀(τ:ao) (X:Nat->Prop),
 (∀s,(s∈R\/X s)->vw τ s=vw U s)-> ∃τ',aw CO m τ a τ' R W/\(∀s,(s∈R\/X s)->vw τ' s=vw U' s):=by have getc: ∀{τ U:ao} {s:Nat},vw τ (32*s)=vw U (32*s)->τ.get s=U.get s:=λh=>by{rw[xj,xj]at h;injection h};have one: ∀{G:Nat} {R:List Nat} {X:Nat->Prop} {τ U:ao},(∀s,(s∈G::R\/X s)->vw τ s=vw U s)-> ∀s,(s∈R\/(X s\/s=G))->vw τ s=vw U s:=λh s hs=>by{grind};have two: ∀{G:Nat} {R:List Nat} {X:Nat->Prop} {s:Nat},(s∈G::R\/X s)->(s∈R\/(X s\/s=G)):=λhs=>by{grind};induction h with|ret=>exact λτ X h=>⟨τ,.ret,h⟩| @get s k U U' a R W _ ih=>{intro τ X h;obtain⟨τ',h1,h2⟩:=ih τ (λt=>X t\/t=32*s) (one h);exact⟨τ',.get (by grind),λt ht=>h2 t (two ht)⟩}| @view s j k U U' a R W _ ih=>{intro τ X h;obtain⟨τ',h1,h2⟩:=ih τ (λt=>X t\/t=32*s+j) (one h);have e:dh s j (τ.get s)=dh s j (U.get s):=by{rcases gq j 32 with hj|hj;{have:=h (32*s+j) (.inl mS);rwa [Ld _ hj,Ld _ hj]at this};{rw[Vw O,Vw O]}};exact⟨τ',.view (by rw[e];exact h1),λt ht=>h2 t (two ht)⟩}| @set s v k U U' a R W _ ih=>{intro τ X h;obtain⟨τ',h1,h2⟩:=ih (τ.set s v) (λt=>X t\/(t/32=s/\t%32<17)) (λt ht=>qpj _ _ _ λe1=>h t (by{rcases ht with ht|ht|ht;{exact .inl (Yh.2 (.inr ht))};{exact .inr ht};{exact absurd ht.1 e1}}));refine⟨τ',.set h1,λt ht=>h2 t ?_⟩;rcases ht with ht|ht;{rcases Yh.1 ht with ht|ht;{exact .inr (.inr ht)};{exact .inl ht}};{exact .inr (.inl ht)}}| @upd s V f hf v k U U' a R W hv _ ih=>{intro τ X h;have hg:=getc (h _ (.inl mS));obtain⟨τ',h1,h2⟩:=ih (τ.set s v) (λt=>X t\/t/32=s\/ ∃j∈V,t=32*s+j) (λt ht=>qpj _ _ _ λe1=>by{rcases ht with ht|ht|ht|ht;{exact h t (.inl (mT (Xq.2 (.inr ht))))};{exact h t (.inr ht)};{exact absurd ht e1};{exact h t (.inl (mT (Xq.2 (.inl ht))))}});refine⟨τ',.upd (by rw[hg];exact hv) h1,λt ht=>h2 t ?_⟩;rcases ht with ht|ht;{rcases mC ht with rfl|ht;{omega};{rcases Xq.1 ht with ht|ht;{exact .inr (.inr (.inr ht))};{exact .inl ht}}};{exact .inr (.inl ht)}}|ask hp _ ih=>{intro τ X h;obtain⟨τ',h1,h2⟩:=ih τ X h;exact⟨τ',.ask hp h1,h2⟩}| @know s b k U U' a R W hb _ ih=>{intro τ X h;obtain⟨τ',h1,h2⟩:=ih τ (λt=>X t\/t=32*s) (one h);exact⟨τ',.know (by grind) h1,λt ht=>h2 t (two ht)⟩}|call hc _ ih=>{intro τ X h;obtain⟨τ',h1,h2⟩:=ih τ X h;exact⟨τ',.call hc h1,h2⟩}
def tI.vw {U τ:ao} (h:tI U τ) (G:Nat):vw τ G=vw U G:=VE (h _)
def qn8 {U τ:ao} (h: ∀G,vw τ G=vw U G):tI U τ:=λs=>by have:=h (32*s);rw[xj,xj]at this;injection this
def aw.seq {m:M α} {U U' τ:ao} {a:α} {R W:List Nat} (h:aw CO m U a U' R W) (e:tI U τ): ∃τ',aw CO m τ a τ' R W/\tI U' τ':=by obtain⟨τ',u,h2⟩:=h.local τ (λ_=>True) (λs _=>e.vw s);exact⟨τ',u,qn8 λs=>h2 s (.inr trivial)⟩
def qsf {ρT:Type} {C:Nat->List AV->(AV->List AV->Option ρT)->Option ρT} {ρ:ρT}
 (hC: ∀f as k,C f as k=some ρ-> ∃r os,CO f as r os/\k r os=some ρ) (m:M α): ∀(U:ao) (L:tM) (K:α->ao->tM->Option ρT),
 ja C m U L K=some ρ-> ∃a U' R W,aw CO m U a U' R W/\ ∃U'' L',tI U' U''/\(∀s,(s∈R\/s∈L.1)->s∈L'.1)/\(∀s,(s∈W\/s∈L.2)->s∈L'.2)/\K a U'' L'=some ρ:=by induction m with|ret a=>exact λU L K h=>⟨a,U,[],[],.ret,U,L,λ_=>rfl,λs h=>by simpa using h,λs h=>by simpa using h,h⟩|fail=>{exact λU L K h=>by cases h}|get s k ih=>{intro U L K h;obtain⟨a,U',R,W,h1,U'',L',e1,e2,e3,e4⟩:=ih _ U _ K h;exact⟨a,U',_,W,.get h1,U'',L',e1,λt ht=>e2 t (by grind),λt ht=>e3 t ht,e4⟩}|view s j k ih=>{intro U L K h;obtain⟨a,U',R,W,h1,U'',L',e1,e2,e3,e4⟩:=ih _ U _ K h;exact⟨a,U',_,W,.view h1,U'',L',e1,λt ht=>e2 t (by grind),λt ht=>e3 t ht,e4⟩}|set s v k ih=>{intro U L K h;obtain⟨a,U',R,W,h1,U'',L',e1,e2,e3,e4⟩:=ih _ _ K h;exact⟨a,U',_,_,.set h1,U'',L',e1,λt ht=>e2 t (by{rcases ht with ht|ht;{exact(Yh.1 ht).elim (λh=> .inr (Yh.2 (.inl h))) .inl};{exact .inr (Yh.2 (.inr ht))}}),fun t ht=>e3 t (by{rcases ht with ht|ht;{exact(Yh.1 ht).elim (λh=> .inr (Yh.2 (.inl h))) .inl};{exact .inr (Yh.2 (.inr ht))}}),e4⟩}|upd s V g hg k ih=>{intro U L K h;simp only[ja]at h;split at h;{rename_i v hv;obtain⟨a,U',R,W,h1,U'',L',e1,e2,e3,e4⟩:=ih _ _ K h;exact⟨a,U',_,_,.upd hv h1,U'',L',e1,λt ht=>e2 t (by{rcases ht with ht|ht;{rcases mC ht with rfl|ht;{grind};{exact(Xq.1 ht).elim (λh=> .inr (mT (Xq.2 (.inl h)))) .inl}};{exact .inr (mT (Xq.2 (.inr ht)))}}),fun t ht=>e3 t (by{rcases ht with ht|ht;{exact(Xq.1 ht).elim (λh=> .inr (Xq.2 (.inl h))) .inl};{exact .inr (Xq.2 (.inr ht))}}),e4⟩};{cases h}}|ask p d k ih=>{intro U L K h;by_cases hp:p;{rw[ja,iP hp]at h;obtain⟨a,U',R,W,h1,rest⟩:=ih _ _ K h;exact⟨a,U',R,W,.ask hp h1,rest⟩};{rw[ja,ae hp]at h;cases h}}|know s k ih=>{intro U L K h;simp only[ja]at h;split at h;{rename_i b hb;have hh:ja C (k b) (U.set s (.bool b)) ((32*s)::L.1,L.2) K=some ρ:=by{cases b<;>exact h};obtain⟨a,U',R,W,h1,U'',L',e1,e2,e3,e4⟩:=ih _ _ _ K hh;have hs:tI (U.set s (.bool b)) U:=λt=>by{by_cases e:t=s;{subst e;rw[qg,hb]};{rw[qf _ _ e]}};obtain⟨τ',g1,g2⟩:=h1.seq hs;exact⟨a,τ',_,W,.know hb g1,U'',L',λt=>by rw[g2 t];exact e1 t,λt ht=>e2 t (by grind),λt ht=>e3 t ht,e4⟩};{cases h}}|call f as k ih=>{intro U L K h;obtain⟨r,os,hco,h⟩:=hC _ _ _ h;obtain⟨a,U',R,W,h1,rest⟩:=ih _ _ _ _ K h;exact⟨a,U',R,W,.call hco h1,rest⟩}
end
section
variable {CO:Q7} {α β':Type} {U U':ao} {R W:List Nat}
def aw.bind' {m:M α} {f:α->M β'} {b:β'} (h:aw CO (m>>=f) U b U' R W):
 ∃a u O J K G,aw CO m U a u O J/\aw CO (f a) u b U' K G:=by obtain⟨a,u,O,J,K,G,h1,h2,_,_⟩:=aw.bind (m:=m) (f:=f) h;grind
abbrev kA:=@aw.bind'
def aw.pure' {a b:α} (h:aw CO (Pure.pure a:M α) U b U' R W):b=a/\U'=U:=by cases h;exact⟨rfl,rfl⟩
abbrev kB:=@aw.pure'
def aw.mget' {s:Nat} {v:AV} (h:aw CO (cM s) U v U' R W):v=U.get s/\U'=U:=by cases h with|get h=>{cases h;exact⟨rfl,rfl⟩}
abbrev kD:=@aw.mget'
def aw.mview' {s j:Nat} {v:Option AV} (h:aw CO (iM s j) U v U' R W):v=dh s j (U.get s)/\U'=U:=by cases h with|view h=>{cases h;exact⟨rfl,rfl⟩}
abbrev kF:=@aw.mview'
def aw.mupd' {s:Nat} {V:List Nat} {f:AV->Option AV} {hf: ∀a b,f a=some b-> ∀j,j∉V->dh s j b=dh s j a} {u:Unit} (h:aw CO (mJ s V f hf) U u U' R W): ∃v,f (U.get s)=some v/\U'=U.set s v:=by cases h with|upd hv h=>{cases h;exact⟨_,hv,rfl⟩}
abbrev kI:=@aw.mupd'
def aw.mset' {s:Nat} {v:AV} {u:Unit} (h:aw CO (fI s v) U u U' R W):U'=U.set s v:=by cases h with|set h=>{cases h;rfl}
abbrev kE:=@aw.mset'
def aw.mask' {p:Prop} [Decidable p] {u:Unit} (h:aw CO (dJ p) U u U' R W):p/\U'=U:=by cases h with|ask G h=>{cases h;exact⟨G,rfl⟩}
abbrev kG:=@aw.mask'
def aw.mknow' {s:Nat} {b:Bool} (h:aw CO (yX s) U b U' R W):U.get s= .bool b/\U'=U:=by cases h with|know hb h=>{cases h;exact⟨hb,rfl⟩}
def aw.mopt' {x:Option α} {v:α} (h:aw CO (ux x) U v U' R W):x=some v/\U'=U:=by cases x with|none=>cases h|some y=>{cases h;exact⟨rfl,rfl⟩}
def aw.ofOpt' {x:Option α} {f:α->M β'} {b:β'} (h:aw CO (M.ofOpt x f) U b U' R W): ∃y,x=some y/\aw CO (f y) U b U' R W:=by cases x with|none=>cases h|some y=>exact⟨y,rfl,h⟩
abbrev kH:=@aw.ofOpt'
def aw.fail' {a:α} (h:aw CO M.fail U a U' R W):False:=by cases h
abbrev kC:=@aw.fail'
def aw.mcall' {f:Nat} {as:List AV} {x:AV×List AV} (h:aw CO (mK f as) U x U' R W):CO f as x.1 x.2/\U'=U:=by cases h with|call u h=>{cases h;exact⟨u,rfl⟩}
end
def bg.map {β:aU} {who:bp} {w:World} {cells:List AV} {arr:Array Value} (f:AV->AV)
 (J: ∀c∈cells,∀v,aW β who w c v->aW β who w (f c) v) (h:bg β who w cells arr):bg β who w (cells.map f) arr:=
 ⟨by simp[h.1],λj G=>by{have u:j<cells.length:=by{simpa using G};simp only[qL];exact J _ (zW u) _ (h.2 j u)}⟩
section
variable {β:aU} {who:bp} {w:World}
def cE.ref {n:Nat} {t:Ty} {xs:List (aX t)} {v:Value} {sz:Nat} (h:cE β who w n t xs v):yd (β n) sz none v:=by obtain⟨u,h2⟩:=h;refine⟨u,?_⟩;grind
def bu.ref {n:Nat} {t:Ty} {xs:List (List (aX t))} {h:Option Nat} {v:Value} (J:bu β who w n t xs h v):kf (β n) .whole v:=by obtain⟨u,h2⟩:=J;rcases h2 with⟨G,_⟩|⟨b,o,cap,arr,el,G,_⟩<;>exact⟨u,by rw[<-u,G];exact⟨_,_,_,rfl⟩⟩
def bu.refl' {n:Nat} {t:Ty} {xs:List (List (aX t))} {h:Option Nat} {v:Value} (J:bu β who w n t xs h v):kf (β n) (.lenw xs.length) v:=by obtain⟨G,h2⟩:=J;rcases h2 with⟨u,rfl⟩|⟨b,o,cap,arr,el,u,_⟩<;>first|exact⟨G,.inl ⟨u,rfl⟩⟩|exact⟨G,.inr ⟨b,o,cap,u⟩⟩
def b9.ref {n sz:Nat} {t:Ty} {xs:List (aX t)} {h:Option Nat} {v:Value} (J:b9 β who w n t xs h v):yd (β n) sz none v:=by obtain⟨u,h2⟩:=J;rcases h2 with⟨G,_⟩|⟨b,o,cap,arr,el,G,_⟩<;>exact⟨u,by rw[<-u,G];exact⟨_,_,_,rfl⟩⟩
def q9t {s:Nat} {c:AV} {v:Value} (h:aW β who w c v):aW β who w (Xt s c) v:=by cases c with|sl o t xs=>{cases o with|nm n=>exact cE.ref (sz:=t.size) h|_=>exact h}|dp n t xs hh=>exact bu.refl' h|dq n t xs hh=>trivial|wn n t xs=>exact cE.ref (sz:=t.size) h.1|_=>exact h
def q3u {s:Nat} {c:AV}:qc (Xt s c)=[]:=by cases c with|sl o t xs=>{cases o<;>rfl}|_=>rfl
def qa5 {s:Nat} {c:AV}: ∀n∈aK (Xt s c),n∈aK c:=by intro n hn;cases c with|sl o t xs=>{cases o<;>exact hn}|wn m t xs=>exact zu.2 (.inl (zA.1 hn))|dq m t xs hh=>cases hn|_=>exact hn
def Qa {cells:List AV} {f:AV->List Nat} (h: ∀c∈cells,f c=[]):cells.flatMap f=[]:=by simp_all
def q8t {s:Nat} {av v:AV} {c:Value} (hal:dw s av=some v) (h:br β who w av c):
 br β who w v c/\ab v=[]/\ ∀n∈occ v,n∈occ av:=by cases av with|dead=>cases hal|tup vs=>cases hal|dq n t xs hh=>{simp only[dw,zf]at hal;subst hal;exact⟨b9.ref (sz:=t.size) h,rfl,λm hm=>hm⟩}|bx o cells=>{cases o with|nm n=>{simp only[dw,zf]at hal;subst hal;obtain⟨h0,b,arr,el,e1,_⟩:=h;refine⟨.inr ⟨b,?_,rfl,?_⟩,rfl,?_⟩;{rw[<-h0];exact e1};{exact e1};{intro m hm;simp only[occ,a9,aK,zA]at hm;subst hm;simp[occ,a9]}}|_=>cases hal}|agg cells=>{simp only[dw,zf]at hal;subst hal;obtain⟨arr,e1,e2⟩:=h;refine⟨⟨arr,e1,e2.map _ (λc _ v hv=>q9t hv)⟩,?_,?_⟩;{simp only[ab,qh];exact Qa λc hc=>by obtain⟨d,_,rfl⟩:=zk.1 hc;exact q3u};{intro n hn;simp only[occ,a9,zL,zk]at hn⊢;obtain⟨c,⟨d,hd,rfl⟩,hn⟩:=hn;exact⟨d,hd,qa5 n hn⟩}}|sl o t xs=>{cases o with|nm n=>{simp only[dw,zf]at hal;subst hal;exact⟨cE.ref (sz:=t.size) h,rfl,λm hm=>hm⟩}|imm=>{simp only[dw,zf]at hal;subst hal;exact⟨h,rfl,λm hm=>hm⟩}|nl=>{simp only[dw,zf]at hal;subst hal;exact⟨h,rfl,λm hm=>hm⟩}|inn=>{simp only[dw,zf]at hal;subst hal;exact⟨h,rfl,λm hm=>hm⟩}}|dp n t xs hh=>{simp only[dw,zf]at hal;subst hal;exact⟨bu.ref h,rfl,λm hm=>hm⟩}|wn n t xs=>{simp only[dw,zf]at hal;subst hal;exact⟨cE.ref (sz:=t.size) h.1,rfl,λm hm=>zu.2 (.inl (zA.1 hm))⟩}|_=>{simp only[dw,zf]at hal;subst hal;exact⟨h,rfl,λm hm=>hm⟩}
def Ws (v:Value):br β who w (PJ v) v/\ab (PJ v)=[]/\occ (PJ v)=[]:=by cases v<;>first|exact⟨rfl,rfl,rfl⟩|exact⟨⟨rfl,rfl⟩,rfl,rfl⟩|exact⟨trivial,rfl,rfl⟩
end
section
variable {CO:Q7} {E:ba} {D:Nat->Prop} {β:aU} {who:bp} {U U':ao} {hd:List (AV×Value)} {a:Act} {w:World} {R W:List Nat}
def aw.rd {x:Operand} {v:AV} (h:aw CO (rd x) U v U' R W) (S:aC E D β who U hd a w):U'=U/\aC E D β who U ((v,a.eval x)::hd) a w:=by cases x with|tmp t=>{obtain⟨av,U1,_,_,_,_,h1,h2⟩:=kA h;obtain⟨rfl,rfl⟩:=kF h1;obtain⟨e,rfl⟩:=aw.mopt' h2;obtain⟨O,K,J⟩:=q8t e (S.rel t);exact⟨rfl,S.take0 O K (λn G=>S.occ t n (J n G))⟩}|const u=>{obtain⟨rfl,rfl⟩:=kB h;obtain⟨O,K,J⟩:=Ws (β:=β) (who:=who) (w:=w) u;exact⟨rfl,S.take0 O K (λn G=>by rw[J]at G;cases G)⟩}|global g=>exact(kC h).elim|func f=>{obtain⟨rfl,rfl⟩:=kB h;exact⟨rfl,S.take0 (v:= .lit (.func (.func f) #[] #[])) ⟨rfl,rfl⟩ rfl (λn G=>by cases G)⟩}
def Xb {v:AV} (h: ¬NY v=true):ab v=[]:=by unfold NY at h;grind
def aw.rdT {x:Operand} {v:AV} (h:aw CO (rdT x) U v U' R W) (S:aC E D β who U hd a w):aC E D β who U' ((v,a.eval x)::hd) a w:=by
 cases x with
 |tmp t=>
  obtain⟨av,G,_,_,_,_,h1,h2⟩:=kA h;obtain⟨rfl,rfl⟩:=kD h1
  have key: ∀{R W:List Nat},aw CO (if NY (G.get t)then(do fI t .dead;Pure.pure (G.get t))else Pure.pure (G.get t):M AV) G v U' R W->aC E D β who U' ((v,a.eval (.tmp t))::hd) a w:=by
   intro R W h2;split at h2
   . obtain⟨_,U2,_,_,_,_,h3,O⟩:=kA h2;have:=kE h3;subst this;obtain⟨rfl,rfl⟩:=kB O;exact S.takeAll t
   . rename_i K;obtain⟨rfl,rfl⟩:=kB h2;exact S.take0 (S.rel t) (Xb K) (S.occ t)
  split at h2
  . exact(kC h2).elim
  . rename_i vs J;obtain⟨_,U2,_,_,_,_,h3,O⟩:=kA h2;have:=kE h3;subst this;obtain⟨rfl,rfl⟩:=kB O;have:=S.takeAll t;rw[J]at this;exact this
  . exact key h2
 |const u=>obtain⟨rfl,g⟩:=aw.rd (x:= .const u) h S;exact g
 |global g=>exact(kC h).elim
 |func f=>obtain⟨rfl,g⟩:=aw.rd (x:= .func f) h S;exact g
end
def unown (who:bp) (ns:List Nat):bp:=λb=>match who b with
 |some n=>if n∈ns then none else some n
 |none=>none
def Yn {who:bp} {ns:List Nat} {b:Nat} (h:who b=none):unown who ns b=none:=by simp[unown,h]
def LB {who:bp} {ns:List Nat} {b n:Nat} (h:who b=some n) (u:n∈ns):unown who ns b=none:=by simp[unown,h,u]
def Jm {who:bp} {ns:List Nat} {b n:Nat} (h:who b=some n) (u:n∉ns):unown who ns b=some n:=by simp[unown,h,u]
def Yo {who:bp} {ns:List Nat} {b n:Nat} (h:unown who ns b=some n):who b=some n:=by unfold unown at h;grind
section
variable {β:aU} {who:bp} {w:World}
def cO.unown {ns:List Nat} {as os:List Nat} (h: ∀n∈as,n∉ns):cO β who w β (unown who ns) w as os:=
 ⟨λ_ _=>rfl,λn G b u=>⟨Jm u (h n G),rfl⟩,λb u _=>⟨Yn u,rfl⟩,zI _⟩
def cE.freeze {ns:List Nat} {n:Nat} {t:Ty} {xs:List (aX t)} {v:Value} (h:cE β who w n t xs v) (G:n∈ns):hO (unown who ns) w t xs v:=by obtain⟨_,h⟩:=h;rcases h with h|⟨b,o,cap,arr,el,e1,e2,e3,e4,O,K⟩;{exact .inl h};{have u:b<w.heap.size:=by{rcases gq b w.heap.size with h|h;{exact h};{grind}};exact .inr ⟨b,o,cap,e1,LB O G,u,e4,aT.keep (λb J _=>⟨Yn J,rfl⟩) (zI _) rfl K⟩}
def bu.freeze {ns:List Nat} {n:Nat} {t:Ty} {xs:List (List (aX t))} {v:Value} (h:bu β who w n t xs none v) (J:n∈ns):hO (unown who ns) w (.sl false t) xs v:=by obtain⟨_,h2⟩:=h;rcases h2 with h2|⟨b,o,cap,arr,el,e1,e2,e3,e4,e5,e6,_⟩;{exact .inl h2};have lt: ∀{b:Nat} {arr:Array Value} {el:TypeId},w.heap[b]? =some (.cells arr el (0,0))->b<w.heap.size:=λ{b} _ _ h=>by{grind};refine .inr ⟨b,o,cap,e1,LB e5 J,lt e2,e4,λi hi=> ?_⟩;obtain⟨f1,f2⟩:=e6 i hi (by simp);refine⟨dj (β n) (i+1),?_,?_⟩;{show az w b (o+i*1) 0=some (dj (β n) (i+1));rw[<-f1];simp[az]};{rcases f2 with⟨G,u⟩|⟨bi,K,ci,ar,l,G,u,k3,k4,k5,k6,O⟩;{exact .inl ⟨G,u⟩};{exact .inr ⟨bi,K,ci,G,LB k5 J,lt u,k4,aT.keep (λb hb _=>⟨Yn hb,rfl⟩) (zI _) rfl O⟩}}
def cJ.imm {who':bp} {n b d:Nat} {g g':Nat->Option Value} (K: ∀b,who b=none->who' b=none) (J: ∀b,who b=some n->who' b=none) (u: ∀k,g' k=g (d+k)): ∀{t:Ty} {x:aX t} {j:Nat},
 cJ who w n b none t x g (d+j)->be who' w t x g' j
 | .int k,x,j,h=>by simp only[be,cJ]at*;rw[u];exact h
 | .bool,x,j,h=>by simp only[be,cJ]at*;rw[u];exact h
 | .pr s t,x,j,h=>⟨cJ.imm K J u h.1,cJ.imm K J u (by rw[<-Nat.add_assoc];exact h.2)⟩
 | .sl _ t,xs,j,h=>by simp only[cJ]at h;rcases h with h|⟨v,O,G⟩;{cases h};refine⟨v,by rw[u];exact O,?_⟩;rcases G with G|⟨bi,oi,ci,ar,l,k1,k2,k3,k4,k5,k6,k7⟩;{exact .inl G};{exact .inr ⟨bi,oi,ci,k1,J bi k5,by grind,k4,λi hi=>be.keep (λb hb _=>⟨K b hb,rfl⟩) (zI _) (k7 i hi)⟩}
def b9.slI {who':bp} {n:Nat} {t:Ty} {xs:List (aX t)} {v:Value} (h:b9 β who w n t xs none v) (J: ∀b,who b=none->who' b=none) (u: ∀b,who b=some n->who' b=none):hO who' w t xs v:=by obtain⟨_,h2⟩:=h;rcases h2 with h2|⟨b,o,cap,arr,el,e1,e2,e3,e4,O,K,_⟩;{exact .inl h2};refine .inr ⟨b,o,cap,e1,u b O,by grind,e4,λi G=> ?_⟩;exact cJ.imm (d:=i*t.size) (g:=az w b o) J u (λk=>by simp only[az,yb]) (K i G)
def q8b {ns:List Nat} {c:AV} {v:Value} (h:aW β who w c v) (hn: ∀n∈qc c,n∈ns):aW β (unown who ns) w (Yy c) v:=by cases c with|sl o t xs=>{cases o with|nm n=>exact cE.freeze h (hn n (by simp[qc]))|imm=>exact hO.keep (λb hb _=>⟨Yn hb,rfl⟩) (zI _) h|nl=>exact h|inn=>exact h}|dead=>trivial|ref s n sz win=>exact h|ptr s n sz i j=>exact h|iptr g t xs i j=>exact aW.keep (β:=β) (β':=β) (av:= .iptr g t xs i j) (cO.unown (λn h=>by simp[qc]at h)) h|dp n t xs hh=>{cases hh with|none=>exact bu.freeze h (hn n (by simp[qc]))|some k=>trivial}|dq n t xs hh=>{cases hh with|none=>exact b9.slI h (λb hb=>Yn hb) (λb hb=>LB hb (hn n (by simp[qc])))|some k=>trivial}|wn n t xs=>trivial|_=>exact h
def q3t {c:AV}:qc (Yy c)=[]:=by cases c with|sl o t xs=>{cases o<;>rfl}|dp n t xs hh=>{cases hh<;>rfl}|dq n t xs hh=>{cases hh<;>rfl}|_=>rfl
def q80 {c:AV} {n:Nat} (h:n∈aK (Yy c)):n∈aK c:=by cases c with|sl o t xs=>{cases o<;>first|exact h|(simp[Yy,aK]at h)}|dp m t xs hh=>{cases hh<;>simp[Yy,aK]at h}|dq m t xs hh=>{cases hh<;>simp[Yy,aK]at h}|wn n t xs=>cases h|_=>exact h
def qa3 {ns:List Nat} {av:AV} {v:Value} (h:br β who w av v) (hn: ∀n∈ab av,n∈ns) (hb: ∀o cs,av≠ .bx o cs) (ht: ∀vs,av≠ .tup vs):
 br β (unown who ns) w (freeze av) v:=by cases av with|tup vs=>exact absurd rfl (ht vs)|bx o cs=>exact absurd rfl (hb o cs)|agg cells=>{obtain⟨arr,e1,e2⟩:=h;refine⟨arr,e1,by simp[e2.1],λj hj=> ?_⟩;have hj':j<cells.length:=by{simpa using hj};simp only[qL];exact q8b (e2.2 j hj') (λn hm=>hn n (zL.2 ⟨_,zW hj',hm⟩))}|sl o t xs=>{cases o with|nm n=>exact cE.freeze h (hn n (by simp[ab,qh,qc]))|imm=>exact hO.keep (λb hb _=>⟨Yn hb,rfl⟩) (zI _) h|nl=>exact h|inn=>exact h}|dead=>trivial|iptr g t xs i j=>exact aW.keep (β:=β) (β':=β) (av:= .iptr g t xs i j) (cO.unown (λn h=>by simp[qc]at h)) h|dp n t xs hh=>{cases hh with|none=>exact bu.freeze h (hn n (by simp[ab,qh,qc]))|some k=>trivial}|dq n t xs hh=>{cases hh with|none=>exact b9.slI h (λb hb=>Yn hb) (λb hb=>LB hb (hn n (by simp[ab,qh,qc])))|some k=>trivial}|wn n t xs=>trivial|_=>exact h
def Zm {av:AV} (hb: ∀o cs,av≠ .bx o cs) (ht: ∀vs,av≠ .tup vs):ab (freeze av)=[]:=by cases av with|tup vs=>exact absurd rfl (ht vs)|bx o cs=>exact absurd rfl (hb o cs)|agg cells=>{exact Qa λc hc=>by obtain⟨d,_,rfl⟩:=zk.1 hc;exact q3t}|sl o t xs=>{cases o<;>rfl}|dp n t xs hh=>{cases hh<;>rfl}|dq n t xs hh=>{cases hh<;>rfl}|_=>rfl
def Wn {av:AV} {n:Nat} (h:n∈occ (freeze av)):n∈occ av:=by cases av with|agg cells=>{simp only[freeze,occ,a9,zL,zk]at h⊢;obtain⟨c,⟨d,hd,rfl⟩,hn⟩:=h;exact⟨d,hd,q80 hn⟩}|sl o t xs=>{cases o<;>first|exact h|(simp[freeze,occ,a9,aK]at h)}|dp m t xs hh=>{cases hh<;>simp[freeze,occ,a9,aK]at h}|dq m t xs hh=>{cases hh<;>simp[freeze,occ,a9,aK]at h}|wn n t xs=>cases h|_=>exact h
end
section
variable {CO:Q7} {E:ba} {D:Nat->Prop} {β:aU} {who:bp} {U U':ao} {hd:List (AV×Value)} {a:Act} {w:World} {R W:List Nat}
def aC.freeze (S:aC E D β who U hd a w) (t:Nat) (u: ∀o cs,U.get t≠ .bx o cs) (K: ∀vs,U.get t≠ .tup vs):
 ∃who',aC E D β who' (U.set t (freeze (U.get t))) ((freeze (U.get t),a.tmps.getD t undef)::hd) a w:=by refine⟨unown who (ab (U.get t)),?_⟩;have hf:=qa3 (ns:=ab (U.get t)) (S.rel t) (λn h=>h) u K;have O:=Zm u K;have S1:aC E D β (unown who (ab (U.get t))) (U.set t .dead) hd a w:=by{have G:=(S.takeAll t).drop rfl;refine G.world (λs=> ?_) (λx J=> ?_) (λb n u=>S.wsz b n (Yo u)) (zI _) (λ_ _ _=>rfl) (λb n u=>S.fr1 b n (Yo u)) (λb u=>Jm (S.fr3 b u) (λh=>S.dfn (S.occ t _ (qi h))));{refine(G.rel s).keep (cO.unown λn h h'=> ?_);by_cases e:s=t;{subst e;rw[qg]at h;simp[ab,qh,qc]at h};{rw[qf _ _ e]at h;exact e (S.dis s t n h h')}};{exact(G.hrel x J).keep (cO.unown λn h h'=>S.hdis x J n h t h')}};have S2:=S1.abs (s:=t) (v:=Vs.freeze (U.get t)) hf (λn h=>by rw[O]at h;cases h) (by grind) (λn h=>S.occ t n (Wn h));have S3:=S2.take0 hf O (λn h=>S.occ t n (Wn h));refine S3.ext λs=> ?_;by_cases e:s=t;{subst e;rw[qg,qg]};{rw[qf _ _ e,qf _ _ e,qf _ _ e]}
def aC.frzCells (S:aC E D β who U hd a w) (t:Nat) {n:Nat} {cells:List AV} (J:U.get t= .bx (.nm n) cells):
 ∃who',aC E D β who' (U.set t (.bx (.nm n) (cells.map Yy))) hd a w:=by have hr:br β who w (.bx (.nm n) cells) (a.tmps.getD t undef):=J▸S.rel t;obtain⟨e0,b,arr,el,e1,e2,e3,e4⟩:=hr;have G:ab (U.get t)=n::cells.flatMap qc:=by{rw[J];rfl};have O:n∉cells.flatMap qc:=by{have:=S.nod t;rw[G]at this;exact(oF.1 this).1};have K:D n:=S.occ t n (by rw[J];exact mS);have a0:(cells.map λ_=>AV.dead).flatMap qc=[]:=Qa λc J=>by{obtain⟨d,_,rfl⟩:=zk.1 J;rfl};have d0:(cells.map λ_=>AV.dead).flatMap aK=[]:=Qa λc J=>by{obtain⟨d,_,rfl⟩:=zk.1 J;rfl};have c0:(cells.map Yy).flatMap qc=[]:=Qa λc J=>by{obtain⟨d,_,rfl⟩:=zk.1 J;exact q3t};have S0:=S.abs (s:=t) (v:= .bx (.nm n) (cells.map λ_=>AV.dead)) ⟨e0,b,arr,el,e1,e2,e3,by rw[e4.1,zi],λj hj=>by rw[qL];trivial⟩ (fun k hk=>by{have u:k∈n::(cells.map λ_=>AV.dead).flatMap qc:=hk;rw[a0]at u;rw[G,zA.1 u];exact mS}) (by show(n::(cells.map λ_=>AV.dead).flatMap qc).Nodup;rw[a0];simp) (fun k hk=>by{have u:k∈n::(cells.map λ_=>AV.dead).flatMap aK:=hk;rw[d0]at u;rw[zA.1 u];exact K});have b0:ab ((U.set t (.bx (.nm n) (cells.map λ_=>AV.dead))).get t)=[n]:=by{rw[qg];show n::(cells.map λ_=>AV.dead).flatMap qc=[n];rw[a0]};have S1:aC E D β (unown who (cells.flatMap qc)) (U.set t (.bx (.nm n) (cells.map λ_=>AV.dead))) hd a w:=by{refine S0.world (λs=> ?_) (λx hx=> ?_) (λb n hb=>S.wsz b n (Yo hb)) (zI _) (λ_ _ _=>rfl) (λb n hb=>S.fr1 b n (Yo hb)) (λb hb=>Jm (S.fr3 b hb) (λh=>S.dfn (S.occ t _ (qi (by rw[G];exact mT h)))));{refine(S0.rel s).keep (cO.unown λk h h'=> ?_);by_cases e:s=t;{subst e;rw[b0,zA]at h;exact O (h▸h')};{rw[qf _ _ e]at h;exact e (S.dis s t k h (by rw[G];exact mT h'))}};{exact(S0.hrel x hx).keep (cO.unown λk h h'=>S.hdis x hx k h t (by rw[G];exact mT h'))}};refine⟨_,(S1.abs (s:=t) (v:= .bx (.nm n) (cells.map Yy)) ⟨e0,b,arr,el,e1,e2,Jm e3 O,by rw[e4.1,zi],λj hj=> ?_⟩ (λk hk=> ?_) ?_ (λk hk=> ?_)).ext λs=> ?_⟩;{rw[qL];rw[zi]at hj;exact q8b (e4.2 j hj) (λk hm=>zL.2 ⟨_,zW hj,hm⟩)};{have u:k∈n::(cells.map Yy).flatMap qc:=hk;rw[c0]at u;rw[b0];exact u};{show(n::(cells.map Yy).flatMap qc).Nodup;rw[c0];simp};{have u:k∈n::(cells.map Yy).flatMap aK:=hk;rcases mC u with e|e;{rw[e];exact K};{obtain⟨c,h1,h2⟩:=zL.1 e;obtain⟨d,h3,rfl⟩:=zk.1 h1;exact S.occ t k (by rw[J];exact mT (zL.2 ⟨d,h3,q80 h2⟩))}};{by_cases e:s=t;{subst e;rw[qg,qg]};{rw[qf _ _ e,qf _ _ e,qf _ _ e]}}
def q8l {p:AV} {x:Unit} (h:aw CO (wV p) U x U' R W) (S:aC E D β who U hd a w): ∃who',aC E D β who' U' hd a w:=by unfold wV at h;split at h;{rename_i s n _ _ _;obtain⟨av,J,_,_,_,_,G,h2⟩:=kA h;obtain⟨rfl,rfl⟩:=kD G;split at h2;{rename_i m cells u;split at h2;{have:=kE h2;subst this;exact S.frzCells s u};{exact(kC h2).elim}};{exact(kC h2).elim}};{exact(kC h).elim}
def aw.rdF {x:Operand} {v:AV} (h:aw CO (rdF x) U v U' R W) (S:aC E D β who U hd a w):ab v=[]/\(∀o cs,v≠ .bx o cs)/\ ∃who',aC E D β who' U' ((v,a.eval x)::hd) a w:=by cases x with|tmp t=>{obtain⟨av,U1,_,_,_,_,h1,h2⟩:=kA h;obtain⟨rfl,rfl⟩:=kD h1;split at h2;{exact(kC h2).elim};{exact(kC h2).elim};{exact(kC h2).elim};{exact(kC h2).elim};{exact(kC h2).elim};{exact(kC h2).elim};{rename_i g1 K g3 g4 g5 g6;split at h2;{obtain⟨_,U2,_,_,_,_,h3,h4⟩:=kA h2;have:=kE h3;subst this;obtain⟨rfl,rfl⟩:=kB h4;have hb: ∀o cs,U1.get t≠ .bx o cs:=λo cs e=>g3 o cs e;refine⟨Zm hb K,?_,S.freeze t hb K⟩;intro o cs e;have a0:=hb;cases G:U1.get t with|bx o' cs'=>exact hb o' cs' G|sl o' t' xs=>{rw[G]at e;cases o'<;>cases e}|agg cells=>{rw[G]at e;cases e}|dp n t xs hh=>{rw[G]at e;cases hh<;>cases e}|dq n t xs hh=>{rw[G]at e;cases hh<;>cases e}|_=>{rw[G]at e;cases e}};{rename_i J;obtain⟨rfl,rfl⟩:=kB h2;exact⟨Xb J,g3,who,S.take0 (S.rel t) (Xb J) (S.occ t)⟩}}}|const u=>{obtain⟨rfl,rfl⟩:=kB h;obtain⟨g1,K,g3⟩:=Ws (β:=β) (who:=who) (w:=w) u;refine⟨K,?_,who,S.take0 g1 K (λn O=>by rw[g3]at O;cases O)⟩;intro o cs e;cases u<;>cases e}|global g=>exact(kC h).elim|func f=>{obtain⟨rfl,rfl⟩:=kB h;exact⟨rfl,(λo cs e=>by cases e),who,S.take0 (v:= .lit (.func (.func f) #[] #[])) ⟨rfl,rfl⟩ rfl (λn O=>by cases O)⟩}
def q79 {n:Nat}: ∀{cells:List AV} {k j:Nat},qG n cells k=some j->k<=j/\j-k<cells.length/\ ∃t xs,cells.getD (j-k) .dead= .sl (.nm n) t xs
 |c::cs,k,j,h=>by simp only[qG]at h;split at h;{rename_i u;cases h;refine⟨zI _,by simp,?_⟩;unfold Q1 at u;split at u;{simp_all};{cases u}};{obtain⟨J,h2,t,xs,G⟩:=q79 h;grind}
def aC.takeCell (S:aC E D β who U hd a w) {s m n j:Nat} {cells:List AV} {t:Ty} {xs:List (aX t)} (hb:U.get s= .bx (.nm m) cells) (hj:j<cells.length)
 (hc:cells.getD j .dead= .sl (.nm n) t xs) {c:Value} (hv:c=β n):
 aC E D β who (U.set s (.bx (.nm m) (cells.set j .dead))) ((.sl (.nm n) t xs,c)::hd) a w:=by
 have hcj:cells[j]= .sl (.nm n) t xs:=by simpa [List.getD,hj]using hc
 have hr:=S.rel s;rw[hb]at hr;obtain⟨hβ,b,arr,el,e1,e2,e3,e4⟩:=hr
 have hset:cells.set j .dead=cells.take j++[.dead]++cells.drop (j+1):=by
  rw[OL,iP hj];simp
 have hsp:cells=cells.take j++[.sl (.nm n) t xs]++cells.drop (j+1):=by
  conv=>lhs;rw[<-List.take_append_drop j cells,GE hj,hcj]
  simp
 have hn1:ab (.bx (.nm m) cells)=m::(cells.take j).flatMap qc++n::(cells.drop (j+1)).flatMap qc:=by
  conv=>lhs;rw[hsp]
  simp[ab,qh,qc]
 have hn2:ab (.bx (.nm m) (cells.set j .dead))=m::(cells.take j).flatMap qc++(cells.drop (j+1)).flatMap qc:=by
  rw[hset];simp[ab,qh,qc]
 have hNod:=S.nod s;rw[hb,hn1]at hNod;have hcell:=e4.2 j hj;rw[hcj]at hcell
 have hsub: ∀x,x∈ab (.bx (.nm m) (cells.set j .dead))->x∈ab (.bx (.nm m) cells):=λx hx=>by
  grind
 have S1:=S.abs (s:=s) (v:= .bx (.nm m) (cells.set j .dead)) ⟨hβ,b,arr,el,e1,e2,e3,by rw[e4.1];simp,λk hk=>by
  have hk':k<cells.length:=by simpa using hk
  by_cases e:k=j
  . subst e;simp;trivial
  . rw[K0 O];exact e4.2 k hk'⟩
  (by rw[hb];exact hsub)
  (by
    grind)
  (by
    intro x hx;refine S.occ s x ?_;rw[hb];rw[hset]at hx;rw[hsp];simp only[Vs.occ,a9,x6,zu,zZ]at hx⊢;rcases hx with hx|(hx|hx)|hx
    . exact .inl hx
    . exact .inr (.inl (.inl hx))
    . simp[aK]at hx
    . exact .inr (.inr hx))
 have hin:n∈ab (U.get s):=by rw[hb,hn1];simp
 exact{S1 with
  hrel:=λy hy=>by
   rcases mC hy with rfl|hy
   . have:cE β who w n t xs (arr.getD j undef):=hcell;rw[hv,<-this.1];exact this
   . exact S1.hrel y hy
  hnod:=by
   simp only[fC];refine zT.2 ⟨by simp[ab,qh,qc],S.hnod,λx h1 y h2=> ?_⟩
   rintro rfl
   obtain⟨z,hz,hxz⟩:=zL.1 h2;simp[ab,qh,qc]at h1;subst h1;exact S.hdis z hz _ hxz s hin
  hdis:=λy hy=>by
   rcases mC hy with rfl|hy
   . intro x hx t' ht;simp[ab,qh,qc]at hx;subst hx;by_cases e:t'=s
     . subst e;rw[qg,hn2]at ht
       grind
     . rw[qf _ _ e]at ht;exact e (S.dis t' s _ ht hin)
   . exact S1.hdis y hy
  hocc:=λy hy=>by
   rcases mC hy with rfl|hy
   . intro x hx;simp[Vs.occ,a9,aK]at hx;subst hx;exact S.occ s _ (qi hin)
   . exact S1.hocc y hy}
def aw.claim {x:Operand} {v:AV} (h:aw CO (claim x) U v U' R W) (S:aC E D β who U hd a w):aC E D β who U' ((v,a.eval x)::hd) a w:=by cases x with|tmp t=>{obtain⟨av,U1,_,_,_,_,h1,h2⟩:=kA h;obtain⟨c0,rfl⟩:=kF h1;split at h2;{rename_i s n sz;obtain⟨bv,U2,_,_,_,_,h3,K⟩:=kA h2;obtain⟨rfl,rfl⟩:=kD h3;have J:a.eval (.tmp t)=β n:=by{obtain⟨g1,_,_⟩:=q8t (β:=β) (who:=who) (w:=w) (show dw t (U2.get t)=some _ from c0.symm) (S.rel t);exact(show yd (β n) sz none (a.tmps.getD t undef)from g1).1};split at K;{rename_i m ty xs G;split at K;{rename_i b0;subst b0;obtain⟨_,U3,_,_,_,_,h5,h6⟩:=kA K;have:=kE h5;subst this;obtain⟨rfl,rfl⟩:=kB h6;have h7:=S.takeAll s;rw[G]at h7;have e:a.eval (.tmp t)=a.eval (.tmp s):=by{have r2:=S.rel s;rw[G]at r2;exact J.trans r2.1.symm};rw[e];exact h7};{exact(kC K).elim}};{rename_i m cells G;split at K;{rename_i j hj;obtain⟨_,a0,ty,xs,O⟩:=q79 hj;simp only[OM]at a0 O;obtain⟨_,U3,_,_,_,_,h5,h6⟩:=kA K;obtain⟨v',hk,this⟩:=kI h5;subst this;obtain⟨rfl,rfl⟩:=kB h6;rw[G]at hk;cases hk;rw[O];exact S.takeCell G a0 O J};{exact(kC K).elim}};{exact(kC K).elim}};{exact(kC h2).elim}}|const u=>exact(kC h).elim|global g=>exact(kC h).elim|func f=>exact(kC h).elim
def aw.rdQ {m:Nat} {x:Operand} {v:AV} (h:aw CO (rdQ m x) U v U' R W) (S:aC E D β who U hd a w): ∃who',aC E D β who' U' ((v,a.eval x)::hd) a w:=by unfold Vs.rdQ at h;split at h;{exact(aw.rdF h S).2.2};{exact⟨who,aw.rdT h S⟩}
def aw.rdC {m:Nat} {x:Operand} {v:AV} (h:aw CO (rdC m x) U v U' R W) (S:aC E D β who U hd a w):aC E D β who U' ((v,a.eval x)::hd) a w:=by unfold Vs.rdC at h;split at h;{exact aw.claim h S};{exact aw.rdT h S}
def aw.rdm {m:Nat} {x:Operand} {v:AV} (h:aw CO (rdm m x) U v U' R W) (S:aC E D β who U hd a w): ∃who',aC E D β who' U' ((v,a.eval x)::hd) a w:=by match m with|0=>{obtain⟨rfl,g⟩:=aw.rd h S;exact⟨who,g⟩}|1=>exact⟨who,aw.rdT h S⟩|2=>exact(aw.rdF h S).2.2|3=>exact⟨who,aw.claim h S⟩|m+4=>exact(aw.rdF h S).2.2
end
def vE:ZC->Option Value
 | .int k=>some (.int k 0)
 | .bool=>some (.bool false)
 | .nil _=>some (.slice none 0 0)
 | .other=>none
def Qp:Ty->List Value
 | .int k=>[.int k 0]
 | .bool=>[.bool false]
 | .sl _ _=>[.slice none 0 0]
 | .pr a b=>Qp a++Qp b
structure EOK (P:Program) (e:Nat) (t:Ty):Prop where
 ok: ∃i z,P.info? e=some i/\i.size=t.size/\i.bytes<=4096/\i.bytes≠0/\i.zero=some z/\z.cells.toList=Qp t
def Cj (P:Program) (t:Nat):Prop:= ∃d,P.underlying t=some d/\(match d with| .struct _| .array _ _=>False|_=>True)
def yJ (P:Program) (t:Nat):TD->Prop
 | .int k=>P.underlying t=some (.int k)
 | .bool=>P.underlying t=some .bool
 | .slice e ty=>P.underlying t=some (.slice e)/\EOK P e ty
 | .struct fs=> ∃cu:Array Field,P.underlying t=some (.struct cu)/\cu.size=fs.length/\
    ∀j (h:j<fs.length),∃f,cu[j]? =some f/\f.offset=fs[j].1/\ ∃i,P.info? f.type=some i/\i.size=fs[j].2/\(fs[j].2=1->Cj P f.type)
 | .array n _=> ∃e,P.underlying t=some (.array n e)
 | .ptr e=>P.underlying t=some (.pointer e)
 | .string=>P.underlying t=some .string
 | .tab g k xs=>(∃e i,P.underlying t=some (.array xs.length e)/\P.info? e=some i/\i.size=1)/\(g,k,xs)∈U7 P
 | .other=> ∃d,P.underlying t=some d/\(match d with| .struct _| .array _ _=>False|_=>True)
structure gZ (P:Program) (t:Nat) (ti:TI):Prop where
 info: ∃i,P.info? t=some i/\i.size=ti.cells.length/\ ∀vs,(ti.cells.mapM vE)=some vs-> ∃z,i.zero=some z/\z.cells.toList=vs/\((∃arr,z= .agg arr)↔Q9 ti.desc=true)
 desc:yJ P t ti.desc
def bL (P:Program) (T:TT):Prop:= ∀t u,T.at t=some u->gZ P t u
def gZ.isAgg {P:Program} {t:Nat} {ti:TI} (h:gZ P t ti) (w:World):(isAgg t).run P w= .ok (Q9 ti.desc) w:=by have hd:=h.desc;unfold Go.isAgg;cases hti:ti.desc with|int k=>{rw[hti]at hd;simp only[yJ]at hd;simp[run_underlying hd w,Q9]}|bool=>{rw[hti]at hd;simp only[yJ]at hd;simp[run_underlying hd w,Q9]}|slice e ty=>{rw[hti]at hd;simp only[yJ]at hd;simp[run_underlying hd.1 w,Q9]}|struct fs=>{rw[hti]at hd;obtain⟨f,hd,_⟩:=hd;simp[run_underlying hd w,Q9]}|array n e=>{rw[hti]at hd;obtain⟨f,hd⟩:=hd;simp[run_underlying hd w,Q9]}|ptr e=>{rw[hti]at hd;simp only[yJ]at hd;simp[run_underlying hd w,Q9]}|string=>{rw[hti]at hd;simp only[yJ]at hd;simp[run_underlying hd w,Q9]}|tab g k xs=>{rw[hti]at hd;obtain⟨⟨e,i,hd,_⟩,_⟩:=hd;simp[run_underlying hd w,Q9]}|other=>{rw[hti]at hd;obtain⟨d,hd,h2⟩:=hd;cases d<;>simp_all[run_underlying hd w,Q9]}
def qas {P:Program} {t:Nat} {i:TypeInfo} (h:P.info? t=some i) (w:World):(typeInfo t).run P w= .ok i w:=by simp[typeInfo,h]
def Xv {P:Program} {t:Nat} {i:TypeInfo} (h:P.info? t=some i) (w:World):(sizeOf t).run P w= .ok i.size w:=by simp[sizeOf,qas h]
def P2 {P:Program} {t:Nat} {i:TypeInfo} {z:Value} (h:P.info? t=some i) (u:i.zero=some z) (w:World):(zeroValue t).run P w= .ok z w:=by simp[zeroValue,qas h,u]
section
variable {P:Program} {CO:Q7} {T:TT} {β:aU} {who:bp} {U U':ao} {w:World} {R W:List Nat}
def qfp (op:BinOp) (t:Nat) (x y:Operand) (k u:IntKind) (a b:Int) (w:World):
 (eqGuard op t x y (.int k a) (.int u b)).run P w= .ok () w:=by unfold eqGuard;cases op<;>rfl
def qel (op:BinOp) (t:Nat) (x y:Operand) (a b:Bool) (w:World):
 (eqGuard op t x y (.bool a) (.bool b)).run P w= .ok () w:=by unfold eqGuard;cases op<;>rfl
def qfe (w:World) (d:Nat) {t:Nat} (a b:Bool) (hu:P.underlying t=some .bool):
 (Op.equalIn (d+1) t (.bool a) (.bool b)).run P w= .ok (a==b) w:=by simp[Op.equalIn,run_underlying hu]
def qf3 {op:BinOp} {k:IntKind} {a b:Int} {v:AV} (t:Nat) (h:aw CO (YC op k a b) U v U' R W) (hs:op≠ .shl) (u:op≠ .shr):
 U'=U/\ab v=[]/\occ v=[]/\ ∃c,(binOp op t (.int k a) (.int k b)).run P w= .ok c w/\ ∀β who w,br β who w v c:=by
 cases op<;>first
  |exact absurd rfl hs
  |exact absurd rfl u
  |(obtain⟨rfl,rfl⟩:=kB h
    exact⟨rfl,rfl,rfl,_,by simp only[binOp,ne_eq,not_true_eq_false,if_false];rfl,λ_ _ _=>rfl⟩)
  |(obtain⟨_,K,_,_,_,_,J,h2⟩:=kA h
    obtain⟨G,rfl⟩:=kG J;obtain⟨rfl,rfl⟩:=kB h2;refine⟨rfl,rfl,rfl,_,?_,λ_ _ _=>rfl⟩
    simp only[binOp,ne_eq,not_true_eq_false,if_false,Op.intDiv,G];rfl)
  |(simp only[YC,Ca]at h
    obtain⟨rfl,rfl⟩:=kB h;refine⟨rfl,rfl,rfl,_,?_,λ_ _ _=>rfl⟩
    simp only[binOp,ne_eq,not_true_eq_false,if_false,Op.intBits];rfl)
def qpg (hT:bL P T) {op:BinOp} {t:Nat} {x y v:AV} {cx K:Value} {ox oy:Operand} (h:aw CO (Cb T op t x y) U v U' R W)
 (hx:br β who w x cx) (hy:br β who w y K):
 U'=U/\ab v=[]/\occ v=[]/\ ∃c,(do eqGuard op t ox oy cx K;binOp op t cx K:Sem Value).run P w= .ok c w/\br β who w v c:=by
 unfold Cb at h;split at h
 . rename_i k a k' b;have G:cx= .int k a:=hx;have u:K= .int k' b:=hy;subst G;subst u;simp only[Sem.run_bind,qfp,Result.andThen_ok];split at h
   . obtain⟨_,U1,_,_,_,_,h1,h2⟩:=kA h;obtain⟨hb,rfl⟩:=kG h1;obtain⟨rfl,rfl⟩:=kB h2;have J: ¬b<0:=O;exact⟨rfl,rfl,rfl,_,by simp only[binOp,Op.shift,J,if_false];rfl,rfl⟩
   . obtain⟨_,U1,_,_,_,_,h1,h2⟩:=kA h;obtain⟨hb,rfl⟩:=kG h1;obtain⟨rfl,rfl⟩:=kB h2;have J: ¬b<0:=O;exact⟨rfl,rfl,rfl,_,by simp only[binOp,Op.shift,J,if_false];rfl,rfl⟩
   . split at h
     . rename_i g1 g2 hk;subst hk;obtain⟨e1,e2,e3,c,e4,e5⟩:=qf3 (P:=P) (w:=w) t h g1 g2
       grind
     . exact(kC h).elim
 . rename_i a b;have G:cx= .bool a:=hx;have u:K= .bool b:=hy;subst G;subst u;simp only[Sem.run_bind,qel,Result.andThen_ok];split at h
   . rename_i cells ht;have hu:P.underlying t=some .bool:=(hT t _ ht).desc
     have he:(Op.equal t (.bool a) (.bool b)).run P w= .ok (a==b) w:=by
      exact qfe (P:=P) w 9999 a b hu
     split at h
     . obtain⟨rfl,rfl⟩:=kB h;exact⟨rfl,rfl,rfl,_,by simp[binOp,he],rfl⟩
     . obtain⟨rfl,rfl⟩:=kB h;exact⟨rfl,rfl,rfl,_,by simp[binOp,he],rfl⟩
     . exact(kC h).elim
   . exact(kC h).elim
 . exact(kC h).elim
def qro {op:UnOp} {x v:AV} {G:Value} (h:aw CO (Le op x) U v U' R W) (J:br β who w x G):
 U'=U/\ab v=[]/\occ v=[]/\ ∃c,(Op.unary op G).run P w= .ok c w/\br β who w v c:=by unfold Le at h;split at h;{obtain⟨rfl,rfl⟩:=kB h;have u:G= .int _ _:=J;subst u;exact⟨rfl,rfl,rfl,_,by simp only[Op.unary,Op.intArith];rfl,rfl⟩};{obtain⟨rfl,rfl⟩:=kB h;have u:G= .int _ _:=J;subst u;exact⟨rfl,rfl,rfl,_,by simp only[Op.unary,Op.intBits];rfl,rfl⟩};{obtain⟨rfl,rfl⟩:=kB h;have u:G= .bool _:=J;subst u;exact⟨rfl,rfl,rfl,_,by simp only[Op.unary];rfl,rfl⟩};{exact(kC h).elim}
def qlo {t:Nat} {ti:TI} (h:gZ P t ti): ∃d,P.underlying t=some d:=by have hd:=h.desc;cases hti:ti.desc with|int k=>{rw[hti]at hd;exact⟨_,hd⟩}|bool=>{rw[hti]at hd;exact⟨_,hd⟩}|slice e ty=>{rw[hti]at hd;exact⟨_,hd.1⟩}|struct fs=>{rw[hti]at hd;obtain⟨f,hd,_⟩:=hd;exact⟨_,hd⟩}|array n e=>{rw[hti]at hd;obtain⟨f,hd⟩:=hd;exact⟨_,hd⟩}|ptr e=>{rw[hti]at hd;exact⟨_,hd⟩}|string=>{rw[hti]at hd;exact⟨_,hd⟩}|tab g k xs=>{rw[hti]at hd;obtain⟨⟨e,i,hd,_⟩,_⟩:=hd;exact⟨_,hd⟩}|other=>{rw[hti]at hd;obtain⟨d,hd,_⟩:=hd;exact⟨_,hd⟩}
def qkr (hT:bL P T) {s d:Nat} {x v:AV} {cx:Value} (h:aw CO (YG T s d x) U v U' R W) (hx:br β who w x cx):
 U'=U/\ab v=[]/\occ v=[]/\ ∃c,(convert s d cx).run P w= .ok c w/\br β who w v c:=by unfold YG at h;split at h;{rename_i ti k cells k' n h1 h2;obtain⟨rfl,rfl⟩:=kB h;have hx':cx= .int k' n:=hx;subst hx';have hu:P.underlying d=some (.int k):=(hT d _ h2).desc;obtain⟨u,hs⟩:=qlo (hT s _ h1);exact⟨rfl,rfl,rfl,.int k (k.wrap n),by simp[convert,run_underlying hu,run_underlying hs,Conv.intToInt],rfl⟩};{exact(kC h).elim}
end
def bN (b o n:Nat):(⟨b,o,none⟩:Addr).add n=⟨b,o+n,none⟩:=by unfold Addr.add;split<;>simp_all
def oY (who:bp) (w:World) (t:Ty) (xs:List (aX t)) (v:Value):Prop:=
 (v= .slice none 0 0/\xs=[])\/
 ∃b o cap,v= .slice (some ⟨b,o,none⟩) xs.length cap/\b<w.heap.size/\xs.length<=cap/\aT who w t xs b o
section
variable {P:Program} {CO:Q7} {T:TT} {β:aU} {who:bp} {U U':ao} {w:World} {R W:List Nat}
def Zd {b:Nat} {o:Obj} (h:w.heap[b]? =some o):b<w.heap.size:=by grind
def cE.sls {n:Nat} {t:Ty} {xs:List (aX t)} {v:Value} (h:cE β who w n t xs v):oY who w t xs v:=by obtain⟨_,h⟩:=h;rcases h with h|⟨b,o,cap,arr,el,J,e2,O,G,K,u⟩;{exact .inl h};{exact .inr ⟨b,o,cap,J,Zd e2,G,u⟩}
def hO.sls {t:Ty} {xs:List (aX t)} {v:Value} (h:hO who w t xs v):oY who w t xs v:=by rcases h with h|⟨b,o,cap,K,e2,J,G,u⟩;{exact .inl h};{exact .inr ⟨b,o,cap,K,J,G,u⟩}
def oY.window {t:Ty} {xs:List (aX t)} {base v:Value} {win:Option (Nat×Nat)} (h:oY who w t xs base) (hv:yd base t.size win v):
 oY who w t (window xs win) v/\(∀o l,win=some (o,l)->o+l<=xs.length/\(Vs.window xs win).length=l):=by cases win with|none=>{obtain⟨hv,_⟩:=hv;subst hv;exact⟨h,λo l e=>by cases e⟩}|some ol=>{obtain⟨off,len⟩:=ol;obtain⟨a,L,cap,a',e1,e2,e3,e4,e5⟩:=hv;subst e3;rcases h with⟨h,hx⟩|⟨b,o,cap',h1,h2,h3,h4⟩;{rw[h]at e1;injection e1 with g1 g2 g3;subst g1 g2 g3;have h0:off=0:=O;have h1:len=0:=O;subst h0 h1 hx;refine⟨.inl ⟨?_,by simp[Vs.window]⟩,λo l e=>by injection e with e;injection e with e' e'';subst e' e'';simp[Vs.window]⟩;cases a' with|none=>rfl|some x=>simp at e5};{rw[h1]at e1;injection e1 with g1 g2 g3;subst g1 g2 g3;have hl:(Vs.window xs (some (off,len))).length=len:=by{simp[Vs.window];omega};have key: ∃o',a'=some ⟨b,o',none⟩/\(len≠0->o'=o+off*t.size):=by{by_cases h0:len=0;{cases a' with|none=>simp at e5|some x=>{obtain⟨xb,xo,xs'⟩:=x;grind}};{have:=e4 O;simp only[yo,bN]at this;grind}};obtain⟨o',ha',ho'⟩:=key;subst ha';refine⟨.inr ⟨b,o',cap'-off,by rw[hl],h2,by rw[hl];omega,?_⟩,λo l e=>by grind⟩;intro i hi;rw[hl]at hi;have hne:len≠0:=O;have hx:(Vs.window xs (some (off,len)))[i]'(by rw[hl];exact hi)=xs[off+i]'(O):=by{simp[Vs.window]};rw[hx];have:=h4 (off+i) O;rw[ho' hne];have hadr:o+off*t.size+i*t.size=o+(off+i)*t.size:=by{rw[gr];omega};rw[hadr];exact this}}
def q72 {n:Nat} {c:AV} {v:Value} {t:Ty} {xs:List (aX t)} (h:aW β who w c v) (hf:fY n c=some ⟨t,xs⟩):cE β who w n t xs (β n)/\n∈qc c:=by cases c with|sl o t' xs'=>{cases o with|nm m=>{simp only[fY]at hf;split at hf;{rename_i e;subst e;injection hf with hf;cases hf;obtain⟨h1,h2⟩:=h;exact⟨⟨rfl,by rw[<-h1];exact h2⟩,by simp[qc]⟩};{cases hf}}|_=>cases hf}|wn m t' xs'=>{simp only[fY]at hf;split at hf;{rename_i e;subst e;injection hf with hf;cases hf;obtain⟨h1,h2⟩:=h.1;exact⟨⟨rfl,by rw[<-h1];exact h2⟩,by simp[qc]⟩};{cases hf}}|_=>cases hf
def qd0 {n:Nat} {cells:List AV} {arr:Array Value} {t:Ty} {xs:List (aX t)} (h: ∀j (h:j<cells.length),aW β who w cells[j] (arr.getD j undef))
 (u:mc n cells=some ⟨t,xs⟩):cE β who w n t xs (β n)/\n∈cells.flatMap qc:=by have: ∀(cells:List AV),(∀c∈cells,∃v,aW β who w c v)->mc n cells=some ⟨t,xs⟩->cE β who w n t xs (β n)/\n∈cells.flatMap qc:=by{intro cells;induction cells with|nil=>{intro _ h;cases h}|cons c cs ih=>{intro h u;simp only[mc]at u;split at u;{rename_i x G;injection u with u;subst u;obtain⟨v,J⟩:=h c (by simp);obtain⟨g1,g2⟩:=q72 J G;exact⟨g1,by simp[g2]⟩};grind}};refine this cells (λc O=> ?_) u;obtain⟨j,K,rfl⟩:=ml O;exact⟨_,h j K⟩
def q75 {n:Nat} {av:AV} {v:Value} {t:Ty} {xs:List (aX t)} (h:br β who w av v) (hf:iX n av=some ⟨t,xs⟩):cE β who w n t xs (β n)/\n∈ab av:=by cases av with|bx o cells=>{cases o with|nm m=>{obtain⟨_,b,arr,el,_,_,_,e4⟩:=h;obtain⟨g1,g2⟩:=qd0 e4.2 hf;exact⟨g1,by simp only[ab,qh];grind⟩}|_=>exact h.elim}|agg cells=>{obtain⟨arr,_,e4⟩:=h;exact qd0 e4.2 hf}|tup vs=>simp[iX,fY]at hf|sl o t' xs'=>exact q72 (c:= .sl o t' xs') h hf|wn m t' xs'=>exact q72 (c:= .wn m t' xs') h hf|_=>simp[iX,fY]at hf
end
section
variable {P:Program} {CO:Q7} {T:TT} {E:ba} {D:Nat->Prop} {β:aU} {who:bp} {U U':ao} {hd:List (AV×Value)} {a:Act} {w:World} {R W:List Nat}
def aw.nodeOf {s n sz:Nat} {x:Sigma λt:Ty=>List (aX t)} (h:aw CO (nodeOf s n sz) U x U' R W) (S:aC E D β who U hd a w):
 U'=U/\sz=x.1.size/\cE β who w n x.1 x.2 (β n)/\n∈ab (U.get s):=by obtain⟨av,U1,_,_,_,_,J,h2⟩:=kA h;obtain⟨rfl,rfl⟩:=kD J;split at h2;{rename_i t xs G;split at h2;{rename_i u;obtain⟨rfl,rfl⟩:=kB h2;obtain⟨O,K⟩:=q75 (S.rel s) G;grind};{exact(kC h2).elim}};{exact(kC h2).elim}
def aw.shown {x:AV} {c:Value} {y:Sigma λt:Ty=>List (aX t)} (h:aw CO (shown x) U y U' R W) (S:aC E D β who U hd a w) (u:br β who w x c):
 U'=U/\oY who w y.1 y.2 c:=by unfold Vs.shown at h;split at h;{obtain⟨rfl,rfl⟩:=kB h;exact⟨rfl,hO.sls u⟩};{obtain⟨rfl,rfl⟩:=kB h;exact⟨rfl,.inl u⟩};{obtain⟨rfl,rfl⟩:=kB h;exact⟨rfl,cE.sls u⟩};{obtain⟨y,U1,_,_,_,_,J,h2⟩:=kA h;obtain⟨rfl,G,K,O⟩:=aw.nodeOf J S;obtain⟨rfl,rfl⟩:=kB h2;subst G;exact⟨rfl,(oY.window K.sls u).1⟩};{exact(kC h).elim}
def oY.shape {t:Ty} {xs:List (aX t)} {v:Value} (h:oY who w t xs v): ∃ad cap,v= .slice ad xs.length cap:=by rcases h with⟨h,u⟩|⟨b,o,cap,h,_⟩;{grind};{exact⟨_,_,h⟩}
def qoe (O:bL P T) {t:Nat} {u:Array TypeId} {rt:TypeId} {x v:AV} {c:Value} (h:aw CO (zc T t x) U v U' R W) (K:u[0]? =some t) (S:aC E D β who U hd a w) (J:br β who w x c):
 U'=U/\ab v=[]/\occ v=[]/\ ∃r,(Builtin.len_ u rt #[c]).run P w= .ok r w/\br β who w v r:=by unfold zc at h;split at h;{rename_i e ty cells G;obtain⟨y,U1,_,_,_,_,h1,h2⟩:=kA h;obtain⟨rfl,hs⟩:=aw.shown h1 S J;obtain⟨rfl,rfl⟩:=kB h2;have hu:=(O t _ G).desc.1;obtain⟨ad,cap,rfl⟩:=hs.shape;exact⟨rfl,rfl,rfl,.int .i64 y.2.length,by simp[Builtin.len_,K,run_underlying hu,goInt],rfl⟩};{exact(kC h).elim}
def q91 {x v:AV} {c:Value} {op:Operand} {o:Oper} (h:aw CO (q4n x) U v U' R W) (G:o.op= .nilCheck op) (J:a.eval op=c) (u:br β who w x c):
 U'=U/\v=x/\(execOp a.eval o).run P w= .ok (.value c) w:=by unfold q4n at h;split at h;{obtain⟨rfl,rfl⟩:=kB h;refine⟨rfl,rfl,?_⟩;rcases u with⟨b,K,L,cap,_,_,e⟩|⟨b,_,_,e⟩<;>(unfold execOp;simp only[G,J,e];rfl)};{rename_i g _ _ _ _;obtain⟨rfl,rfl⟩:=kB h;refine⟨rfl,rfl,?_⟩;obtain⟨b,K,e,_⟩:=u;cases g<;>(unfold execOp;simp only[G,J,e];rfl)};{obtain⟨rfl,rfl⟩:=kB h;have e:c=_:=u.1;refine⟨rfl,rfl,?_⟩;unfold execOp;simp only[G,J,e];rfl};{exact(kC h).elim}
def qh0 {t:Ty} {xs:List (aX t)} {base c:Value} {u:Option (Nat×Nat)} {l h:Nat} (hs:oY who w t xs base) (K:yd base t.size u c) (hl:l<=h) (hh:h<=(window xs u).length):
 ∃ad cap,c= .slice ad (window xs u).length cap/\(window xs u).length<=cap/\
  yd base t.size (some (Jp u+l,h-l)) (.slice (if cap=l then ad else ad.map (·.add (l*t.size))) (h-l) (cap-l)):=by obtain⟨hw,hlen⟩:=oY.window hs K;cases u with|none=>{obtain⟨K,_⟩:=K;subst K;rcases hs with⟨e,hx⟩|⟨b,o,cap,e,e1,e2,e3⟩;{subst hx;have h0:h=0:=by{simpa [window]using hh};have l0:l=0:=O;subst h0 l0;exact⟨none,0,by rw[e];rfl,by simp[window],none,0,0,none,e,by simp[Jp],by simp,by simp,by simp⟩};{refine⟨_,cap,e,e2,some ⟨b,o,none⟩,xs.length,cap,(if cap=l then some ⟨b,o,none⟩else(some ⟨b,o,none⟩:Option Addr).map (·.add (l*t.size))),e,by simp only[window,Jp]at hh⊢;omega,?_,?_,?_⟩;{simp only[Jp,zH]};{intro G;simp only[Jp,zH]at G;rw[ae O,Jp,zH]};{have d0:l*t.size<=cap*t.size:=zO _ (by simp only[window]at hh;omega);split<;>simp[bN,d0]}}}|some ol=>{obtain⟨off,len⟩:=ol;obtain⟨h1,h2⟩:=hlen off len rfl;rw[h2]at hh⊢;obtain⟨ad,L,cap,J,e1,e2,e3,e4,e5⟩:=K;have a0:len<=cap-off:=by{have:=hw;rw[e3]at this;rcases this with⟨e,hx⟩|⟨b,o,b0,e,_,g,_⟩;{grind};{grind}};refine⟨J,cap-off,e3,a0,ad,L,cap,(if cap-off=l then J else J.map (·.add (l*t.size))),e1,by simp only[Jp];omega,by simp only[Nat.sub_sub,Jp],?_,?_⟩;{intro G;simp only[Jp]at G;rw[ae O,e4 O,Option.map_map];congr 1;funext x;simp only[Function.comp,Addr.add];have: ∀(x:Addr),(x.add (off*t.size)).add (l*t.size)=x.add ((off+l)*t.size):=by{intro x;unfold Addr.add;rw[gr];by_cases h1:off*t.size=0<;>by_cases h2:l*t.size=0;{simp[h1,h2]};{simp[h1,h2]};{simp[h1,h2]};{grind}};exact this x};{have e0: ∀x y:Option Addr,x.map (λz=>(z.block,z.spot))=y.map (λz=>(z.block,z.spot))->True:=λ_ _ _=>trivial;obtain⟨e5,e6⟩:=e5;rcases hs with⟨e,hx⟩|⟨b,o,b0,e,_⟩;{grind};{rw[e]at e1;injection e1 with g1 _ _;subst g1;cases J with|none=>simp at e5|some z=>{obtain⟨o',q1,q2⟩:=e6 b o rfl;injection q1 with q1;subst q1;split;{simp;exact q2};{rename_i G;have c0:off<cap:=O;have q3:=e4 c0;simp[bN]at q3;have hm:(off+l)*t.size<=cap*t.size:=zO _ O;rw[gr]at hm;simp[bN];omega}}}}}
end
def Pt (β:aU) (who:bp) (w:World):Option AV->Option Value->Prop
 |none,none=>True
 |some v,some u=>br β who w v u
 |_,_=>False
def C1 (lo:Option Int):Option Value:=lo.map (Value.int .i64)
section
variable {P:Program} {CO:Q7} {T:TT} {E:ba} {D:Nat->Prop} {β:aU} {who:bp} {U U':ao} {hd:List (AV×Value)} {a:Act} {w:World} {R W:List Nat}
def q73 (len cap:Nat) (lo u:Option Int) (K:0<=lo.getD 0) (J:lo.getD 0<=u.getD len) (h2:u.getD len<=len) (h3:len<=cap) (w:World):
 (Instr.sliceBounds true len cap (C1 lo) (C1 u) none).run P w= .ok ((lo.getD 0).toNat,(u.getD (len:Int)).toNat,cap) w:=by have G: ∀(n:Int) (y:Nat) (c:BoundsCode),0<=n->n<=y->(Instr.sliceBound (.int .i64 n) y c).run P w= .ok n.toNat w:=by{intro n y c J h2;unfold Instr.sliceBound;simp[asIntOf,J,h2]};unfold Instr.sliceBounds;cases lo with|none=>{cases u with|none=>simp[C1]|some h=>{simp only[yq,OE]at*;simp[C1,G h cap .sliceAcap J O]}}|some l=>{cases u with|none=>{simp only[yq,OE]at*;simp[C1,G l len .sliceB K O]}|some h=>{simp only[yq]at*;simp[C1,G h cap .sliceAcap O O,G l h.toNat .sliceB K O]}}
def qaf {α:Type} (xs:List α) (lo u:Option Int) (J:0<=lo.getD 0) (G:lo.getD 0<=u.getD xs.length) (h2:u.getD xs.length<=xs.length):
 VC xs lo u=(xs.drop (lo.getD 0).toNat).take ((u.getD (xs.length:Int)).toNat-(lo.getD 0).toNat):=by unfold VC;cases lo with|none=>{cases u with|none=>simp|some h=>simp}|some l=>{cases u with|none=>{simp only[yq,OE]at*;rw[xd (by simp)]}|some h=>rfl}
def QA {e:Nat} {i:TypeInfo} {t:Nat} (hu:P.underlying t=some (.slice e)) (G:P.info? e=some i) (ad:Option Addr) (len cap:Nat) (lo u:Option Int)
 (O:0<=lo.getD 0) (K:lo.getD 0<=u.getD len) (h2:u.getD len<=len) (J:len<=cap) (w:World):
 (Instr.sliceAt t (.slice ad len cap) (C1 lo) (C1 u) none).run P w=
   .ok (.slice (if cap=(lo.getD 0).toNat then ad else ad.map (·.add ((lo.getD 0).toNat*i.size))) ((u.getD (len:Int)).toNat-(lo.getD 0).toNat) (cap-(lo.getD 0).toNat)) w:=by simp[Instr.sliceAt,Instr.slice,run_underlying hu,q73 len cap lo u O K h2 J,Xv G]
def qdr {x:Option AV} {lo:Option Int} {c:Option Value} (h:uz x=some lo) (G:Pt β who w x c):c=C1 lo:=by
 cases x with
 |none=>cases h;cases c with
  |none=>rfl
  |some u=>exact G.elim
 |some v=>
  cases c with
  |none=>exact G.elim
  |some u=>
   cases v with
   |int k n=>cases k<;>first|(cases h;have:u=_:=G;subst this;rfl)|cases h
   |_=>cases h
def qpb {t:Ty} {xs:List (aX t)} {v:Value} {n:Nat} (h:cE β who w n t xs v):
 (v= .slice none 0 0/\xs=[])\/ ∃b o cap arr el,v= .slice (some ⟨b,o,none⟩) xs.length cap/\w.heap[b]? =some (.cells arr el (0,0))/\o+cap*t.size<=arr.size/\
 xs.length<=cap/\who b=some n/\aT who w t xs b o:=h.2
def aC.rename1 {n m:Nat} {t:Ty} {xs ys:List (aX t)} {c c':Value} {D':Nat->Prop} (S:aC E D β who U ((.sl (.nm n) t xs,c)::hd) a w)
 (hm: ¬D m) (hD: ∀x,D x->D' x) (hDm:D' m) (hDF: ¬D' FN)
 (hr: ∀β' who',β' m=c'->(∀b,who b=some n->who' b=some m)->(∀b,who b=none->who' b=none)->cE β' who' w m t ys c'):
 ∃β' who',aC E D' β' who' U ((.sl (.nm m) t ys,c')::hd) a w:=by
 let β':aU:=λx=>if x=m then c' else β x
 let who':bp:=λb=>if who b=some n then some m else who b
 have hnin: ∀s,n∉ab (U.get s):=λs=>S.hdis _ mS n (by simp[ab,qh,qc]) s
 have hnhd: ∀x∈hd,n∉ab x.1:=by
  intro x hx hn;have:=S.hnod;simp only[fC,ab,qh,qc,yh,oF]at this;exact this.1 (zL.2 ⟨x,hx,hn⟩)
 have hb: ∀x,D x->β' x=β x:=λx hx=>by grind
 have k: ∀av,(∀x∈Vs.occ av,D x)->n∉ab av->cO β who w β' who' w (ab av) (Vs.occ av):=λav ho hn=>
  ⟨λx hx=>hb x (ho x hx),λx hx b hw=>⟨by grind,rfl⟩,
   λb hb' _=>⟨by simp[who',hb'],rfl⟩,zI _⟩
 have hws: ∀b x,who' b=some x-> ∃y,who b=some y:=λb x h=>by
  grind
 have hnew:br β' who' w (.sl (.nm m) t ys) c':=hr β' who' (by simp[β']) (λb h=>by simp[who',h]) (λb h=>by simp[who',h])
 refine⟨β',who',?_⟩
 have S0:=(S.drop rfl).world (h98:=hb 98 S.d98) (β':=β') (who':=who') (w':=w) (λs=>(S.rel s).keep (k _ (S.occ s) (hnin s)))
  (λx hx=>(S.hrel x (mT hx)).keep (k _ (S.hocc x (mT hx)) (hnhd x hx)))
  (λb x h=>by obtain⟨y,hy⟩:=hws b x h;exact S.wsz b y hy) (zI _) (λ_ _ _=>rfl) (λb x h=>by obtain⟨y,hy⟩:=hws b x h;exact S.fr1 b y hy)
  (fun b hb=>by
    have h:=S.fr3 b hb;simp only[who'];rw[ae]
    . exact h
    . rw[h];intro e;injection e with e
      exact S.dfn (S.hocc _ mS FN (by rw[e];simp[Vs.occ,a9,aK])))
 have S1:=S0.mono hD hDF
 exact{S1 with
  hrel:=λy hy=>by rcases mC hy with rfl|hy;exact hnew;exact S1.hrel y hy
  hnod:=by
   simp only[fC,ab,qh,qc,yh,oF];refine⟨λh=> ?_,S0.hnod⟩
   obtain⟨x,hx,hn⟩:=zL.1 h;exact hm (S.hocc x (mT hx) m (qi hn))
  hdis:=λy hy=>by
   rcases mC hy with rfl|hy
   . intro x hx s hs;simp only[ab,qh,qc,zA]at hx;subst hx;exact hm (S.occ s x (qi hs))
   . exact S1.hdis y hy
  hocc:=λy hy=>by
   rcases mC hy with rfl|hy
   . intro x hx;simp only[Vs.occ,a9,aK,zA]at hx;subst hx;exact hDm
   . exact S1.hocc y hy}
def aT.window {t:Ty} {xs:List (aX t)} {b o:Nat} (h:aT who w t xs b o) (off len:Nat) (K:off+len<=xs.length):
 aT who w t ((xs.drop off).take len) b (o+off*t.size):=by intro i J;have G:i<len:=by{simp at J;omega};have u:((xs.drop off).take len)[i]=xs[off+i]'(O):=by{simp};rw[u];have:=h (off+i) O;grind
def qgz (hT:bL P T) {idx t:Nat} {x v:AV} {lo u:Option AV} {c:Value} {cl ch:Option Value} {D':Nat->Prop} (h:aw CO (ZB T idx t x lo u) U v U' R W)
 (S:aC E D β who U ((x,c)::hd) a w)
 (hl:Pt β who w lo cl)
 (hh:Pt β who w u ch)
 (hf: ¬D (fresh idx 15)) (hD: ∀x,D x->D' x) (c0:D' (fresh idx 15)) (a0: ¬D' FN):
 ∃r β' who',(Instr.sliceAt t c cl ch none).run P w= .ok r w/\aC E D' β' who' U' ((v,r)::hd) a w:=by have hx:=S.hrel _ mS;unfold ZB at h;split at h;{rename_i e x0 cells lo u r0 g1 g2;have u0:=qdr g1 hl;have v0:=qdr g2 hh;subst u0;subst v0;obtain⟨hu,⟨ei,ez,he,b0,_⟩⟩:=(hT t _ r0).desc;split at h;{rename_i G xs;split at h;{rename_i J;obtain⟨_,U1,_,_,_,_,h1,h2⟩:=kA h;obtain⟨⟨m0,m1,K⟩,rfl⟩:=kG h1;obtain⟨rfl,rfl⟩:=kB h2;have h0:hO who w G xs c:=hx;have w0:=hO.sls h0;rw[qaf xs lo u m0 m1 K];rcases h0 with⟨rfl,rfl⟩|⟨b,o,cap,rfl,q1,q2,q3,q4⟩;{have e0:((([]:List (aX G)).length:Nat):Int)=0:=rfl;rw[e0]at m1 K;have j0:lo.getD 0=0:=O;have k0:u.getD 0=0:=O;refine⟨_,β,who,QA hu he none 0 0 lo u m0 (by simpa using m1) (by simpa using K) (zI _) w,?_⟩;refine aC.mono ((S.drop rfl).take0 ?_ rfl (λn hn=>by cases hn)) hD a0;grind};{refine⟨_,β,who,QA hu he (some ⟨b,o,none⟩) xs.length cap lo u m0 m1 K q3 w,?_⟩;refine aC.mono ((S.drop rfl).take0 ?_ rfl (λn hn=>by cases hn)) hD a0;have hlen:((xs.drop (lo.getD 0).toNat).take ((u.getD (xs.length:Int)).toNat-(lo.getD 0).toNat)).length=(u.getD (xs.length:Int)).toNat-(lo.getD 0).toNat:=by{simp;omega};by_cases hc:cap=(lo.getD 0).toNat;{rw[iP hc];refine .inr ⟨b,o,cap-(lo.getD 0).toNat,by rw[hlen],q1,q2,by rw[hlen];omega,?_⟩;intro i d0;rw[hlen]at d0;omega};{rw[ae hc];refine .inr ⟨b,o+(lo.getD 0).toNat*ei.size,cap-(lo.getD 0).toNat,by rw[hlen];simp[bN],q1,q2,by rw[hlen];omega,?_⟩;rw[b0,J];exact q4.window _ _ O}}};{exact(kC h).elim}};{rename_i n G xs;split at h;{rename_i J;obtain⟨_,U1,_,_,_,_,h1,h2⟩:=kA h;obtain⟨⟨m0,m1,K⟩,rfl⟩:=kG h1;obtain⟨rfl,rfl⟩:=kB h2;rw[qaf xs lo u m0 m1 K];rcases(qpb hx)with⟨rfl,rfl⟩|⟨b,o,cap,arr,el,rfl,q0,q1,q2,q3,q4⟩;{have e0:((([]:List (aX G)).length:Nat):Int)=0:=rfl;rw[e0]at m1 K;have j0:lo.getD 0=0:=O;have k0:u.getD 0=0:=O;have:u.getD ((0:Nat):Int)=0:=by{simpa using k0};obtain⟨β',who',S'⟩:=aC.rename1 (m:=fresh idx 15) (ys:=[]) (c':= .slice none 0 0) S hf hD c0 a0 (λβ' who' e _ _=>⟨e.symm,.inl ⟨rfl,rfl⟩⟩);refine⟨_,β',who',QA hu he none 0 0 lo u m0 (by simpa using m1) (by simpa using K) (zI _) w,?_⟩;rw[j0,this];simpa using S'};{have hlen:((xs.drop (lo.getD 0).toNat).take ((u.getD (xs.length:Int)).toNat-(lo.getD 0).toNat)).length=(u.getD (xs.length:Int)).toNat-(lo.getD 0).toNat:=by{simp;omega};obtain⟨β',who',S'⟩:=aC.rename1 (m:=fresh idx 15) (ys:=(xs.drop (lo.getD 0).toNat).take ((u.getD (xs.length:Int)).toNat-(lo.getD 0).toNat)) (c':= .slice (if cap=(lo.getD 0).toNat then some ⟨b,o,none⟩else(some ⟨b,o,none⟩:Option Addr).map (·.add ((lo.getD 0).toNat*ei.size))) ((u.getD (xs.length:Int)).toNat-(lo.getD 0).toNat) (cap-(lo.getD 0).toNat)) S hf hD c0 a0 (fun β' who' e g1 g2=>by{refine⟨e.symm,.inr ?_⟩;by_cases hc:cap=(lo.getD 0).toNat;{rw[iP hc];refine⟨b,o,cap-(lo.getD 0).toNat,arr,el,by rw[hlen],q0,by grind,by rw[hlen];omega,g1 b q3,?_⟩;intro i d0;rw[hlen]at d0;omega};{rw[ae hc];refine⟨b,o+(lo.getD 0).toNat*ei.size,cap-(lo.getD 0).toNat,arr,el,by rw[hlen];simp[bN],q0,?_,by rw[hlen];omega,g1 b q3,?_⟩;{rw[b0,J,Nat.sub_mul];have:(lo.getD 0).toNat*G.size<=cap*G.size:=zO _ O;omega};{rw[b0,J];exact aT.keep (λb hb _=>⟨g2 b hb,rfl⟩) (zI _) rfl (q4.window _ _ O)}}});exact⟨_,β',who',QA hu he (some ⟨b,o,none⟩) xs.length cap lo u m0 m1 K q2 w,S'⟩}};{exact(kC h).elim}};{rename_i s n sz g0;split at h;{rename_i J;obtain⟨y,U1,_,_,_,_,h1,h2⟩:=kA h;obtain⟨rfl,i0,g1,g2⟩:=aw.nodeOf h1 S;obtain⟨_,U2,_,_,_,_,h3,h4⟩:=kA h2;obtain⟨⟨m0,m1,K⟩,rfl⟩:=kG h3;obtain⟨rfl,rfl⟩:=kB h4;subst i0;obtain⟨ad,cap,rfl,l0,s0⟩:=qh0 (l:=(lo.getD 0).toNat) (h:=(u.getD ((window y.2 g0).length:Int)).toNat) g1.sls hx O O;refine⟨_,β,who,QA hu he ad (window y.2 g0).length cap lo u m0 m1 K l0 w,?_⟩;refine aC.mono ((S.drop rfl).take0 ?_ rfl ?_) hD a0;{rw[b0,J];exact s0};{intro n' t0;exact S.hocc _ mS n' t0}};{exact(kC h).elim}};{exact(kC h).elim}};{exact(kC h).elim}
end
section
variable {P:Program} {CO:Q7} {T:TT} {E:ba} {D:Nat->Prop} {β:aU} {who:bp} {U U':ao} {hd:List (AV×Value)} {a:Act} {w:World} {R W:List Nat}
def cK {e t:Nat} {i:TypeInfo} (hu:P.underlying t=some (.slice e)) (u:P.info? e=some i) (b o len cap:Nat) (k:IntKind) (n:Int) (J:0<=n) (G:n<len) (w:World):
 (Instr.indexAt t (.slice (some ⟨b,o,none⟩) len cap) (.int k n)).run P w= .ok (.pointer (some ⟨b,o+n.toNat*i.size,none⟩)) w:=by simp[Instr.indexAt,asIntOf,run_underlying hu,J,G,Xv u,bN]
def qh9 (hT:bL P T) {t:Nat} {x i v:AV} {c ci:Value} (h:aw CO (ZI T t x i) U v U' R W)
 (hx:br β who w x c) (hi:br β who w i ci):
 U'=U/\ab v=[]/\occ v=[]/\ ∃r,(Instr.index t c ci).run P w= .ok r w/\br β who w v r:=by unfold ZI at h;split at h;{rename_i cells s k i' G;have J:ci= .int k i':=hi;subst J;have hc:c= .string s:=hx.1;subst hc;have hu:P.underlying t=some .string:=(hT t _ G).desc;obtain⟨_,U1,_,_,_,_,h1,h2⟩:=kA h;obtain⟨⟨K,m1⟩,rfl⟩:=kG h1;obtain⟨rfl,rfl⟩:=kB h2;refine⟨rfl,rfl,rfl,.int .u8 ((fP s).getD i'.toNat 0),?_,rfl⟩;have hlen:(fP s).length=s.size:=by{unfold fP;rw[zi,xf];rfl};have u:i'.toNat<s.size:=O;have e:s[i'.toNat]? =some s[i'.toNat]:=getElem?_pos s i'.toNat u;have e2:((fP s).getD i'.toNat 0)=(s[i'.toNat].toNat:Int):=by{simp only[fP,List.getD,List.getElem?_map];have:s.data.toList[i'.toNat]? =some s[i'.toNat]:=by{rw[Array.getElem?_toList];exact Array.getElem?_eq_getElem u};rw[this];rfl};rw[e2];simp[Instr.index,run_underlying hu,asIntOf,K,e]};{exact(kC h).elim}
def qox (hT:bL P T) {t g:Nat} {i v:AV} {ci:Value} (h:aw CO (yx T t g i) U v U' R W) (hG:cG P who w) (hi:br β who w i ci):
 U'=U/\ab v=[]/\occ v=[]/\ ∃r,(Instr.indexAt t (.pointer (some ⟨g,0,none⟩)) ci).run P w= .ok r w/\br β who w v r:=by unfold yx at h;split at h;{rename_i g' k xs cells k' i' K;have b0:ci= .int k' i':=hi;subst b0;obtain⟨⟨e,ei,hu,he,a0⟩,u⟩:=(hT t _ K).desc;split at h;{rename_i hg;subst hg;obtain⟨_,U1,_,_,_,_,h1,h2⟩:=kA h;obtain⟨⟨m0,m1⟩,rfl⟩:=kG h1;obtain⟨rfl,rfl⟩:=kB h2;obtain⟨q1,q2,q3⟩:=hG _ u;have G:P.elem t=e:=by{simp[Program.elem,hu]};have J:P.arrayLen t=xs.length:=by{simp[Program.arrayLen,hu]};refine⟨rfl,rfl,rfl,.pointer (some ⟨g',i'.toNat,none⟩),?_,g',0,?_,O,q1,q2,λj hj=> ?_⟩;{rw[run_indexAt_array w t ⟨g',0,none⟩ k' i' (by rw[J,G];exact hu),iP (by rw[J];exact⟨m0,m1⟩),G,Xv he];show Result.ok _ _=_;rw[a0,jF];congr 3;unfold Addr.add;grind};{simp[Ty.size]};{show az w g' (0+j*1) 0=some (.int k xs[j]);have:=q3 j hj;simpa [az]using this}};{exact(kC h).elim}};{exact(kC h).elim}
def q8j (hT:bL P T) {t:Nat} {x i v:AV} {c ci:Value} (h:aw CO (q3a T t x i) U v U' R W) (S:aC E D β who U hd a w)
 (hx:br β who w x c) (hi:br β who w i ci):
 U'=U/\ab v=[]/\(∀n∈occ v,n∈occ x)/\ ∃r,(Instr.indexAt t c ci).run P w= .ok r w/\br β who w v r:=by unfold q3a at h;split at h;{rename_i e i0 cells k i' e0;have g0:ci= .int k i':=hi;subst g0;obtain⟨hu,⟨ei,ez,he,b0,_⟩⟩:=(hT t _ e0).desc;split at h;{rename_i t' xs;split at h;{rename_i K;obtain⟨_,U1,_,_,_,_,h1,h2⟩:=kA h;obtain⟨⟨m0,G⟩,rfl⟩:=kG h1;obtain⟨rfl,rfl⟩:=kB h2;have d0:hO who w t' xs c:=hx;rcases d0 with⟨_,rfl⟩|⟨b,o,cap,rfl,q1,q2,q3,q4⟩;{simp at G;omega};{refine⟨rfl,rfl,(λn hn=>by cases hn),_,cK hu he b o xs.length cap k i' m0 G w,b,o,?_,O,q1,q2,q4⟩;simp_all}};{exact(kC h).elim}};{rename_i s n sz J;split at h;{rename_i K;obtain⟨y,U1,_,_,_,_,h1,h2⟩:=kA h;obtain⟨rfl,a0,g1,g2⟩:=aw.nodeOf h1 S;obtain⟨_,U2,_,_,_,_,h3,h4⟩:=kA h2;obtain⟨⟨m0,G⟩,rfl⟩:=kG h3;obtain⟨rfl,rfl⟩:=kB h4;subst a0;refine⟨rfl,rfl,λn hn=>hn,?_⟩;have u:yd (β n) y.1.size J c:=hx;obtain⟨hw,hl⟩:=oY.window g1.sls u;rcases g1.2 with⟨e1,e2⟩|⟨b,o,cap,arr,el,e1,e2,e3,e4,e5,e6⟩;{exfalso;cases J with|none=>{simp[window,e2]at G;omega}|some ol=>grind};{cases J with|none=>{obtain⟨u,_⟩:=u;subst u;rw[e1];simp only[window]at G;refine⟨_,cK hu he b o y.2.length cap k i' m0 G w,.inl ⟨b,o,y.2.length,cap,e1,by simp only[Jp];omega,?_⟩⟩;rw[b0,K,Jp,zH,zS]}|some ol=>{obtain⟨off,len⟩:=ol;obtain⟨l1,l2⟩:=hl off len rfl;obtain⟨ad,L,h0,j0,f1,f2,f3,f4,f5⟩:=u;rw[e1]at f1;injection f1 with f1 fL c0;subst f1 fL c0;rw[l2]at G;have:=f4 O;subst this;subst f3;simp only[yo,bN];refine⟨_,cK hu he b (o+off*y.1.size) len (cap-off) k i' m0 G w,.inl ⟨b,o,y.2.length,cap,e1,by simp only[Jp];omega,?_⟩⟩;rw[b0,K,Jp,zS,gr,yb]}}};{exact(kC h).elim}};{exact(kC h).elim}};{exact(kC h).elim}
def q6u (hT:bL P T) {t f:Nat} {x v:AV} {c:Value} (h:aw CO (q3h T t x f) U v U' R W) (hx:br β who w x c):
 U'=U/\ab v=[]/\(∀n∈occ v,n∈occ x)/\ ∃r,(Instr.fieldAt t c f).run P w= .ok r w/\br β who w v r:=by unfold q3h at h;split at h;{rename_i fs cells a0;obtain⟨cu,hu,d0,c0⟩:=(hT t _ a0).desc;split at h;{rename_i off g0 hf;split at h;{exact(kC h).elim};{rename_i e0;have K:f<fs.length:=by{rcases gq f fs.length with h|h;{exact h};{grind}};obtain⟨fl,e1,e2,i,e3,e4,-⟩:=c0 f K;rw[List.getElem?_eq_getElem K]at hf;injection hf with hf;rw[hf]at e2 e4;simp only at e2 e4;have key: ∀b o,(Instr.fieldAt t (.pointer (some ⟨b,o,none⟩)) f).run P w= .ok (.pointer (some ⟨b,o+off,none⟩)) w:=by{intro b o;have b0: ¬i.size=0:=O;simp[Instr.fieldAt,run_underlying hu,e1,Instr.sureAddr,fieldPlace,Xv e3,b0,bN,e2]};split at h;{obtain⟨rfl,rfl⟩:=kB h;refine⟨rfl,rfl,λn J=>J,?_⟩;rcases hx with⟨b,o,L,cap,G,u,rfl⟩|⟨b,G,rfl,rfl⟩;{exact⟨_,key _ _,.inl ⟨b,o,L,cap,G,u,by simp only[yb]⟩⟩};{exact⟨_,key _ _,.inr ⟨b,G,rfl,rfl⟩⟩}};{obtain⟨rfl,rfl⟩:=kB h;refine⟨rfl,rfl,(λn J=>by cases J),?_⟩;obtain⟨b,o,rfl,u,q3,q4,q5⟩:=hx;exact⟨_,key _ _,b,o,by simp only[yb,uj],u,q3,q4,q5⟩};{obtain⟨rfl,rfl⟩:=kB h;refine⟨rfl,rfl,λn J=>J,?_⟩;obtain⟨b,o,L,cap,G,u,rfl,q3⟩:=hx;exact⟨_,key _ _,b,o,L,cap,G,u,by simp only[yb],q3⟩};{exact(kC h).elim}}};{exact(kC h).elim}};{exact(kC h).elim}
def VL {size off:Nat} {agg:Bool} {cells:List AV} {v:AV} {f:Nat->Value} (h:di size agg cells off=some v)
 (hr: ∀j (hj:j<cells.length),aW β who w cells[j] (f j)):
 off+size<=cells.length/\br β who w v (if agg then .agg ((List.range size).map λj=>f (off+j)).toArray else f off)/\(agg=false->size=1)/\
 ab v=((cells.drop off).take size).flatMap qc/\occ v=((cells.drop off).take size).flatMap aK:=by have hnb: ∀c∈cells,∀vs,c≠ .tup vs:=λc hc vs e=>by{obtain⟨j,hj,rfl⟩:=ml hc;have:=hr j hj;rw[e]at this;exact this};have hnb': ∀c∈cells,∀o vs,c≠ .bx o vs:=λc hc o vs e=>by{obtain⟨j,hj,rfl⟩:=ml hc;have:=hr j hj;rw[e]at this;exact this};have hna: ∀c∈cells,∀vs,c≠ .agg vs:=λc hc vs e=>by{obtain⟨j,hj,rfl⟩:=ml hc;have:=hr j hj;rw[e]at this;exact this};unfold di at h;split at h;{rename_i hle;refine⟨hle,?_⟩;unfold me at h;split at h;{rename_i hagg;injection h with h;subst h;simp only[hagg,if_true];refine⟨⟨_,rfl,by simp;omega,λj hj=> ?_⟩,by simp,rfl,rfl⟩;have hj':j<size:=by{simp at hj;omega};simp_all};{rename_i hagg;simp only[zo1]at hagg;simp only[hagg,GH,if_false];split at h;{rename_i c hc;injection h with h;subst h;have hlen:((cells.drop off).take size).length=1:=by{rw[hc];rfl};have hs1:size=1:=by{simp at hlen;omega};have hlt:off<cells.length:=O;have hce:cells[off]=c:=by{have:((cells.drop off).take size)[0]'(O)=c:=by{simp[hc]};simpa using this};have hmem:c∈cells:=hce▸zW hlt;have hrc:aW β who w c (f off):=hce▸hr off hlt;rw[hc];refine⟨?_,λ_=>hs1,?_,?_⟩;{cases c with|tup vs=>grind|bx o vs=>grind|agg vs=>grind|_=>exact hrc};{cases c with|tup vs=>grind|bx o vs=>grind|agg vs=>grind|_=>simp[ab,qh]};{cases c with|tup vs=>grind|bx o vs=>grind|agg vs=>grind|_=>simp[occ,a9]}};{cases h}}};{cases h}
def Wo: ∀{t:Ty} {x:aX t} {g:Nat->Option Value} {G:Nat},be who w t x g G->
 (aF t x).length=t.size/\ ∀j (u:j<(aF t x).length),∃v,g (G+j)=some v/\aW β who w (fJ (aF t x)[j]) v
 | .int k,x,g,G,h=>by{refine⟨rfl,λj u=> ?_⟩;have:j=0:=by{simp[aF]at u;exact u};subst this;exact⟨_,h,rfl⟩}
 | .bool,x,g,G,h=>by{refine⟨rfl,λj u=> ?_⟩;have:j=0:=by{simp[aF]at u;exact u};subst this;exact⟨_,h,rfl⟩}
 | .sl b t,xs,g,G,h=>by{refine⟨rfl,λj u=> ?_⟩;have:j=0:=by{simp[aF]at u;exact u};subst this;obtain⟨v,h1,h2⟩:=h;exact⟨v,h1,h2⟩}
 | .pr a b,x,g,G,h=>by obtain⟨l1,r1⟩:=Wo h.1;obtain⟨l2,r2⟩:=Wo h.2;refine⟨by simp[aF,l1,l2,Ty.size],λj u=> ?_⟩;by_cases J:j<(aF a x.1).length;{obtain⟨v,e1,e2⟩:=r1 j J;refine⟨v,e1,?_⟩;have:(aF (.pr a b) x)[j]=(aF a x.1)[j]:=by{simp only[aF];exact ya J};rw[this];exact e2};{have K:j-(aF a x.1).length<(aF b x.2).length:=by{simp[aF]at u;omega};obtain⟨v,e1,e2⟩:=r2 _ K;refine⟨v,by grind,?_⟩;have:(aF (.pr a b) x)[j]=(aF b x.2)[j-(aF a x.1).length]:=by{simp only[aF];exact vF O};rw[this];exact e2}
def Jr: ∀{t:Ty} {x:aX t} {c:AV},c∈aF t x->(∃k n,c= .int k n)\/(∃b,c= .bool b)\/ ∃o t' xs,c= .sl o t' xs/\ ∀n,o≠ .nm n
 | .int k,x,c,h=> .inl ⟨k,x,by simpa [aF]using h⟩
 | .bool,x,c,h=> .inr (.inl ⟨x,by simpa [aF]using h⟩)
 | .sl b t,xs,c,h=> .inr (.inr ⟨_,t,xs,by simpa [aF]using h,by grind⟩)
 | .pr a b,x,c,h=>by simp only[aF,zZ]at h;rcases h with h|h;{exact Jr h};{exact Jr h}
def q50 {t:Ty} {x:aX t} {c:AV} (h:c∈(aF t x).map fJ):qc c=[]/\aK c=[]/\(∀vs,c≠ .tup vs)/\(∀o vs,c≠ .bx o vs)/\(∀vs,c≠ .agg vs):=by obtain⟨d,hd,rfl⟩:=zk.1 h;rcases Jr hd with⟨k,n,rfl⟩|⟨b,rfl⟩|⟨o,t',xs,rfl,_⟩;{exact⟨rfl,rfl,by simp[fJ],by simp[fJ],by simp[fJ]⟩};{exact⟨rfl,rfl,by simp[fJ],by simp[fJ],by simp[fJ]⟩};{exact⟨rfl,rfl,by simp[fJ],by simp[fJ],by simp[fJ]⟩}
def Xx {t:Nat} {u:TI} (G:gZ P t u) {b o:Nat} {f:Nat->Value} (w:World) (hc: ∀j,j<u.cells.length->w.cell? ⟨b,o+j,none⟩=some (f j))
 (h1:Q9 u.desc=false->u.cells.length=1):
 (Instr.loadAt t (.pointer (some ⟨b,o,none⟩))).run P w= .ok (if Q9 u.desc then .agg ((List.range u.cells.length).map f).toArray else f 0) w:=by obtain⟨i,hi,J,_⟩:=G.info;simp only[Instr.loadAt,Instr.sureAddr,Sem.run_bind,Sem.run_pure,Result.andThen_ok,loadVar,G.isAgg w];cases K:Q9 u.desc with|true=>{simp only[if_true,Sem.run_bind,Xv hi,Result.andThen_ok,J];rw[run_loadCells w ⟨b,o,none⟩ u.cells.length f (λj O=>by rw[bN];exact hc j O)];simp}|false=>{simp_all}
end
def Qx {α:Type}: ∀(l:List α) (j:Nat) (cs:List α),j+cs.length<=l.length->Qh l j cs=l.take j++cs++l.drop (j+cs.length)
 |l,j,[],_=>by cases l<;>simp[Qh]
 |[],j,c::cs,h=>by simp at h
 |x::l,0,c::cs,h=>by{have:=Qx l 0 cs (by simp at h⊢;omega);simp only[Qh,this];simp}
 |x::l,j+1,c::cs,h=>by have:=Qx l j (c::cs) (by simp at h⊢;omega);simp only[Qh,this];grind
section
variable {P:Program} {CO:Q7} {T:TT} {E:ba} {D:Nat->Prop} {β:aU} {who:bp} {U U':ao} {hd:List (AV×Value)} {a:Act} {w:World} {R W:List Nat}
def q6p {t:Nat} {J:TI} (K:gZ P t J) {ty:Ty} {xs:List (aX ty)} {b o i j:Nat} {v:AV} (hE:aT who w ty xs b o) (hi:i<xs.length)
 (h:di J.cells.length (Q9 J.desc) ((aF ty (xs.getD i ty.zero)).map fJ) j=some v):
 ∃r,(Instr.loadAt t (.pointer (some ⟨b,o+i*ty.size+j,none⟩))).run P w= .ok r w/\br β who w v r/\ab v=[]/\occ v=[]:=by have hx:xs.getD i ty.zero=xs[i]:=by{simp[List.getD,List.getElem?_eq_getElem hi]};rw[hx]at h;obtain⟨hl,hu⟩:=Wo (β:=β) (hE i hi);let f:Nat->Value:=λj'=>(az w b (o+i*ty.size) j').getD undef;have hf: ∀j',j'<ty.size->az w b (o+i*ty.size) j'=some (f j'):=λj' G=>by{grind};obtain⟨p1,p2,p3,p4,p5⟩:=VL (β:=β) (who:=who) (w:=w) (f:=f) h (λj' G=>by{grind});simp only[zi,hl]at p1;have u:=Xx K (b:=b) (o:=o+i*ty.size+j) (f:=λj'=>f (j+j')) w (λj' G=>by{have:=hf (j+j') O;simp only[az]at this;grind}) p3;refine⟨_,u,by simpa using p2,?_,?_⟩;{rw[p4];exact Qa λc hc=>(q50 (xa (oK hc))).1};{rw[p5];exact Qa λc hc=>(q50 (xa (oK hc))).2.1}
def q93 {t:Nat} {O:TI} (b0:gZ P t O) {s n sz i j:Nat} {v:AV} {c:Value} (S:aC E D β who U hd a w) (hx:dL (β n) sz i j c)
 (h:LC O.cells.length (Q9 O.desc) n sz i j (U.get s)=some v):
 ∃r,(Instr.loadAt t c).run P w= .ok r w/\br β who w v r/\ab v=[]/\occ v=[]:=by unfold LC at h;split at h;{rename_i ty xs hf;split at h;{rename_i c0;subst c0;obtain⟨g1,g2⟩:=q75 (S.rel s) hf;rcases hx with⟨b,o,L,cap,u,e2,rfl⟩|⟨b,u,_,_⟩;{rcases g1.2 with⟨G,_⟩|⟨b',o',K,arr,el,G,e4,e5,e6,e7,e8⟩;{rw[G]at u;cases u};{rw[G]at u;injection u with J q2 q3;injection J with J;injection J with J a0 _;subst J a0 q2 q3;exact q6p b0 e8 e2 h}};{rcases g1.2 with⟨G,_⟩|⟨b',o',K,arr,el,G,_⟩<;>(rw[G]at u;cases u)}};{cases h}};{cases h}
def Yq {mode t:Nat} {ti:TI} {s n sz i j:Nat} {v:AV} {c:Value} (hti:gZ P t ti) (S0:aC E D β who U hd a w) (hx:dL (β n) sz i j c)
 (h:aw CO (N5 mode ti s n sz i j) U v U' R W): ∃r,(Instr.loadAt t c).run P w= .ok r w/\aC E D β who U' ((v,r)::hd) a w:=by
 obtain⟨av,U1,_,_,_,_,h1,h2⟩:=kA h;obtain⟨rfl,rfl⟩:=kD h1
 have node: ∀v',LC ti.cells.length (Q9 ti.desc) n sz i j (U1.get s)=some v'-> ∃r,(Instr.loadAt t c).run P w= .ok r w/\aC E D β who U1 ((v',r)::hd) a w:=by
  intro v' hv';obtain⟨r,g1,g2,g3,g4⟩:=q93 hti S0 hx hv';exact⟨r,g1,S0.take0 g2 g3 (λn hn=>by rw[g4]at hn;cases hn)⟩
 have key: ∀x,Jz ti.cells.length (Q9 ti.desc) mode s n sz i j (U1.get s)=some x->
  ∃r,(Instr.loadAt t c).run P w= .ok r w/\aC E D β who (match x.2 with|none=>U1|some a'=>U1.set s a') ((x.1,r)::hd) a w:=by
  intro x hx';unfold Jz at hx';split at hx'
  . rename_i m cells hav;split at hx'
    . rename_i hmn;subst hmn;have hb:=S0.rel s;rw[hav]at hb;obtain⟨hβ,b,arr,el,e1,e2,e3,e4⟩:=hb
      have hc:c= .pointer (some ⟨b,j,none⟩):=by
       rcases hx with⟨b',o',L,cap,q1,_,_⟩|⟨b',q1,_,q3⟩
       . grind
       . grind
      subst hc
      have hmem: ∀j',j'<arr.size->w.cell? ⟨b,j',none⟩=some (arr.getD j' undef):=λj' hj'=>by
       simp[World.cell?,e2,hj',Array.getD]
      split at hx'
      . rename_i hmode;cases hp:di ti.cells.length (Q9 ti.desc) cells j with
        |none=>simp[hp]at hx'
        |some v'=>
         simp only[hp,yo,zf]at hx';subst hx';obtain⟨p1,p2,p3,p4,p5⟩:=VL (β:=β) (who:=who) (w:=w) (f:=λj'=>arr.getD j' undef) hp e4.2
         have hrun:=Xx hti (b:=b) (o:=j) (f:=λj'=>arr.getD (j+j') undef) w (λj' hj'=>hmem _ (by rw[e4.1];omega)) p3
         refine⟨_,hrun,?_⟩;simp only
         have hdr:Y5 cells j ti.cells.length=cells.take j++List.replicate ti.cells.length .dead++cells.drop (j+ti.cells.length):=by
          unfold Y5;rw[Qx _ _ _ (by simpa using p1)];simp
         have hsplit:cells=cells.take j++(cells.drop j).take ti.cells.length++cells.drop (j+ti.cells.length):=by
          rw[qT,<-List.drop_drop,yp,yp]
         have hnn:ab (.bx (.nm m) cells)=m::(cells.take j).flatMap qc++((cells.drop j).take ti.cells.length).flatMap qc++(cells.drop (j+ti.cells.length)).flatMap qc:=by
          conv=>lhs;rw[hsplit]
          simp[ab,qh]
         have hnd:ab (.bx (.nm m) (Y5 cells j ti.cells.length))=m::(cells.take j).flatMap qc++(cells.drop (j+ti.cells.length)).flatMap qc:=by
          rw[hdr];have:(List.replicate ti.cells.length AV.dead).flatMap qc=[]:=Qa λc hc=>by rw[(OI.1 hc).2];rfl
          simp[ab,qh,this]
         have hNod:=S0.nod s;rw[hav,hnn]at hNod;have hlen:(Y5 cells j ti.cells.length).length=cells.length:=by rw[hdr];simp;omega
         have S1:=S0.abs (s:=s) (v:= .bx (.nm m) (Y5 cells j ti.cells.length)) ⟨hβ,b,arr,el,e1,e2,e3,by rw[e4.1,hlen],λj' hj'=>by
          have hj'':j'<cells.length:=by rw[<-hlen];exact hj'
          by_cases hin:j<=j'/\j'<j+ti.cells.length
          . have:(Y5 cells j ti.cells.length)[j']= .dead:=by
             simp only[hdr];rw[ya (by simp;omega),vF (by simp;omega)]
             simp
            rw[this];trivial
          . have:(Y5 cells j ti.cells.length)[j']=cells[j']:=by
             simp only[hdr];by_cases hlt:j'<j
             . grind
             . grind
            rw[this];exact e4.2 j' hj''⟩
          (by grind)
          (by
            grind)
          (by
            intro n hn;refine S0.occ s n ?_;rw[hav];simp only[Vs.occ,a9,zu]at hn⊢;rcases hn with hn|hn
            . exact .inl hn
            . refine .inr ?_;rw[hdr]at hn;have hr0:(List.replicate ti.cells.length AV.dead).flatMap aK=[]:=Qa λc hc=>by rw[(OI.1 hc).2];rfl
              grind)
         have hpn: ∀x∈ab v',x∈ab (U1.get s):=by
          rw[p4,hav,hnn];intro x hx;simp[hx]
         exact{S1 with
          hrel:=λy hy=>by rcases mC hy with rfl|hy;simpa using p2;exact S1.hrel y hy
          hnod:=by
           simp only[fC];refine zT.2 ⟨?_,S0.hnod,λn h1 m' h2=> ?_⟩
           . grind
           . rintro rfl
             obtain⟨y,hy,hn⟩:=zL.1 h2;exact S0.hdis y hy n hn s (hpn n h1)
          hdis:=λy hy=>by
           rcases mC hy with rfl|hy
           . intro x hx0 t ht;have hxn:x∈ab v':=hx0;by_cases e:t=s
             . subst e;rw[qg,hnd]at ht
               grind
             . rw[qf _ _ e]at ht;exact e (S0.dis t s x ht (hpn x hx0))
           . exact S1.hdis y hy
          hocc:=λy hy=>by
           rcases mC hy with rfl|hy
           . intro x hx;refine S0.occ s x ?_;rw[hav];simp only[p5]at hx;simp only[Vs.occ,a9,zu]
             grind
           . exact S1.hocc y hy}
      . cases hp:di ti.cells.length (Q9 ti.desc) (cells.map (Xt s)) j with
        |none=>simp[hp]at hx'
        |some v'=>
         simp only[hp,yo,zf]at hx';subst hx';have e4':=e4.map (Xt s) (λc _ v hv=>q9t hv)
         obtain⟨p1,p2,p3,p4,p5⟩:=VL (β:=β) (who:=who) (w:=w) (f:=λj'=>arr.getD j' undef) hp e4'.2
         simp only[zi]at p1;have hrun:=Xx hti (b:=b) (o:=j) (f:=λj'=>arr.getD (j+j') undef) w (λj' hj'=>hmem _ (by rw[e4.1];omega)) p3
         refine⟨_,hrun,S0.take0 (by simpa using p2) ?_ ?_⟩
         . rw[p4];exact Qa λc hc=>by
            obtain⟨d,_,rfl⟩:=zk.1 (xa (oK hc));exact q3u
         . intro x hx;rw[p5]at hx;obtain⟨c,hc,hx⟩:=zL.1 hx;obtain⟨d,hd',rfl⟩:=zk.1 (xa (oK hc));have hx:=qa5 _ hx;refine S0.occ s x ?_;rw[hav];simp only[Vs.occ,a9,zu];exact .inr (zL.2 ⟨d,hd',hx⟩)
    . rw[<-hav]at hx';cases hn:LC ti.cells.length (Q9 ti.desc) n sz i j (U1.get s)with
      |none=>simp[hn]at hx'
      |some v'=>
       grind
  . cases hn:LC ti.cells.length (Q9 ti.desc) n sz i j (U1.get s)with
    |none=>simp[hn]at hx'
    |some v'=>
     grind
 split at h2
 . rename_i v' hls;obtain⟨rfl,rfl⟩:=kB h2;exact key _ hls
 . rename_i v' a' hls;obtain⟨_,U2,_,_,_,_,h3,h4⟩:=kA h2;have:=kE h3;subst this;obtain⟨rfl,rfl⟩:=kB h4;exact key _ hls
 . exact(kC h2).elim
def q33 {s:Nat}: ∀{size j:Nat} {cs:List AV} {R W:List Nat} {U U':ao},aw CO (q7q s j size) U cs U' R W->(∀vs,U.get s≠ .tup vs)->(∀n t xs h,U.get s≠ .dp n t xs h)->U'=U/\cs.length=size/\
 (0<size-> ∃m cells,U.get s= .bx (.nm m) cells/\j+size<=cells.length/\cs=((cells.map (Xt s)).drop j).take size)
 |0,j,cs,R,W,U,U',h,_,_=>by{obtain⟨rfl,rfl⟩:=kB h;grind}
 |size+1,j,cs,R,W,U,U',h,J,K=>by obtain⟨av,U1,_,_,_,_,h1,h2⟩:=kA h;obtain⟨u,rfl⟩:=kF h1;split at h2;{rename_i c;obtain⟨cs',U2,_,_,_,_,h3,h4⟩:=kA h2;obtain⟨rfl,O,hc⟩:=q33 h3 J K;obtain⟨rfl,rfl⟩:=kB h4;refine⟨rfl,by simp[O],λ_=> ?_⟩;simp only[dh]at u;split at u;{unfold fm at u;split at u;{rename_i m cells hb;cases G:cells[j]? with|none=>{rw[G]at u;cases u}|some c0=>{rw[G]at u;simp only[yo,zf]at u;obtain⟨hj,e0⟩:=List.getElem?_eq_some_iff.1 G;subst e0;have hd:(cells.map (Xt s)).drop j=Xt s cells[j]::(cells.map (Xt s)).drop (j+1):=by{rw[GE (by simpa using hj)];simp};grind}};{grind};{grind};{cases u}};{cases u}};{exact(kC h2).elim}
def q9i (hT:bL P T) {mode t:Nat} {p v:AV} {c:Value} (h:aw CO (Vj T mode t p) U v U' R W) (S:aC E D β who U ((p,c)::hd) a w):
 ∃r,(Instr.loadAt t c).run P w= .ok r w/\aC E D β who U' ((v,r)::hd) a w:=by have K:=S.hrel _ mS;have S0:=S.drop rfl;unfold Vj at h;split at h;{exact(kC h).elim};{rename_i ti O;have G:=hT t _ O;split at h;{rename_i ty xs i j;obtain⟨e,rfl⟩:=aw.mopt' h;obtain⟨b,o,rfl,hi,q1,q2,q3⟩:=K;obtain⟨r,h1,h2,h3,h4⟩:=q6p (β:=β) G q3 hi e;exact⟨r,h1,S0.take0 h2 h3 (λn hn=>by rw[h4]at hn;cases hn)⟩};{rename_i s n sz i j;split at h;{exact Yq G S0 K h};{rename_i mode hmode;obtain⟨al,U1,_,_,_,_,h1,h2⟩:=kA h;obtain⟨u,rfl⟩:=kF h1;split at h2;{rename_i m J;split at h2;{rename_i hm;obtain⟨b0,a0⟩:=hm;subst b0;obtain⟨cs,U2,_,_,_,_,h3,h4⟩:=kA h2;obtain⟨rfl,hl,hc⟩:=q33 h3 (λvs e=>by{rw[e]at u;subst u;cases J}) (λn t xs h e=>by{rw[e]at u;subst u;cases J});obtain⟨m',cells,hb,hle,rfl⟩:=hc a0;obtain⟨ha,rfl⟩:=aw.mopt' h4;have c0:m'=m:=by{rw[hb]at u;subst u;simp only[dh,dw,wW,zf]at J;exact J};subst c0;have hp:di ti.cells.length (Q9 ti.desc) (cells.map (Xt s)) j=some v:=by{unfold di;rw[iP (by simpa using hle)];exact ha};refine Yq (CO:=CO) (mode:=0) (R:=[32*s]) (W:=[]) (sz:=sz) (i:=i) (j:=j) (s:=s) G S0 K (.get ?_);have:Jz ti.cells.length (Q9 ti.desc) 0 s m' sz i j (U'.get s)=some (v,none):=by{rw[hb];unfold Jz;simp only[if_true];rw[ae (by decide)];rw[hp];rfl};simp only[M.bind,this];exact .ret};{exact Yq G S0 K h2}};{exact Yq G S0 K h2}}};{exact(kC h).elim}}
end
def Dn (D:Nat->Prop) (idx:Nat):Nat->Prop:=λn=>D n\/ ∃k,k<16/\n=fresh idx k
def dz {D:Nat->Prop} {idx:Nat} (h: ¬D FN): ¬Dn D idx FN:=by rintro (h'|⟨k,u,e⟩);{exact h h'};{simp only[FN,fresh]at e;omega}
def dO:Value:= .slice none 0 0
section
variable {P:Program} {CO:Q7} {T:TT} {E:ba} {D:Nat->Prop} {β:aU} {who:bp} {U U':ao} {hd:List (AV×Value)} {a:Act} {w w':World} {R W:List Nat}
def aC.make {idx:Nat} {v0 v:AV} {c0 c c1:Value} {o:Obj} (S:aC E D β who U ((v0,c0)::hd) a w) (hf: ∀k,k<16-> ¬D (fresh idx k))
 (hw:w'.heap=w.heap.push o)
 (hv: ∀β' who',(∀k,k<15->β' (fresh idx k)=dO)->β' (fresh idx 15)=c1->who' w.heap.size=some (fresh idx 15)->
   (∀b,who b=none->b<w.heap.size->who' b=none)->br β' who' w' v0 c0->br β' who' w' v c)
 (hn: ∀n∈ab v,n∈ab v0\/ ∃k,k<16/\n=fresh idx k) (hnd:(ab v).Nodup) (ho: ∀n∈Vs.occ v,Dn D idx n) (h4:w'.os=w.os/\w'.output=w.output:=by exact⟨rfl,rfl⟩):
 ∃β' who',aC E (Dn D idx) β' who' U ((v,c)::hd) a w':=by
 let β':aU:=λx=>if x=fresh idx 15 then c1 else if fresh idx 0<=x/\x<fresh idx 15 then dO else β x
 let who':bp:=λb=>if b=w.heap.size then some (fresh idx 15)else who b
 have hsz:w'.heap.size=w.heap.size+1:=by rw[hw];simp
 have hβ: ∀n,D n->β' n=β n:=λn hdn=>by
  simp only[β'];rw[ae (by grind),ae]
  rintro ⟨h1,h2⟩
  refine hf (n-fresh idx 0) (by simp only[fresh]at*;omega) ?_
  rwa [show fresh idx (n-fresh idx 0)=n by simp only[fresh]at*;omega]
 have hwn:who w.heap.size=none:=by
  cases h:who w.heap.size with
  |none=>rfl
  |some n=>exact absurd (S.wsz _ _ h) (UH _)
 have S':=S.keep (β':=β') (who':=who') (w':=w') hβ
  (λb n hb=>by grind)
  (λb hb=>by grind)
  (λb hb hlt=>by grind)
  (fun b n hb=>by
    simp only[who']at hb;split at hb
    . omega
    . have:=S.wsz b n hb;omega)
  O h4
 have hvr:=hv β' who' (λk hk=>by
  simp only[β'];rw[ae (by simp only[fresh];omega),iP (by simp only[fresh];omega)]) (by simp[β']) (by simp[who'])
  (λb hb hlt=>by grind) (S'.hrel _ mS)
 have hfr: ∀k,k<16-> ∀s,fresh idx k∉ab (U.get s):=λk hk s h=>hf k hk (S.occ s _ (qi h))
 have hfh: ∀k,k<16-> ∀x∈hd,fresh idx k∉ab x.1:=λk hk x hx h=>hf k hk (S.hocc x (mT hx) _ (qi h))
 refine⟨β',who',?_⟩;have S1:=(S'.drop rfl).mono (D':=Dn D idx) (λn h=> .inl h) (dz S.dfn)
 have hno:=S.hnod;simp only[fC]at hno
 exact{S1 with
  hrel:=λy hy=>by rcases mC hy with rfl|hy;exact hvr;exact S1.hrel y hy
  hnod:=by
   grind
  hdis:=λy hy=>by
   rcases mC hy with rfl|hy
   . intro n h1 s h2;rcases hn n h1 with h|⟨k,hk,rfl⟩
     . exact S.hdis _ mS n h s h2
     . exact hfr k hk s h2
   . exact S1.hdis y hy
  hocc:=λy hy=>by rcases mC hy with rfl|hy;exact ho;exact S1.hocc y hy}
def aC.take_dead (S:aC E D β who U hd a w):aC E D β who U ((.dead,undef)::hd) a w:=
 S.take0 (v:= .dead) trivial rfl (λn u=>by cases u)
def Qn: ∀t:Ty,(Qp t).length=t.size
 | .int _=>rfl
 | .bool=>rfl
 | .sl _ _=>rfl
 | .pr a b=>by simp[Qp,Ty.size,Qn a,Qn b]
def V9: ∀(t:Ty) (g:Nat->Option Value) (u:Nat),(∀j (h:j<(Qp t).length),g (u+j)=some ((Qp t)[j]))->be who w t t.zero g u
 | .int k,g,u,h=>by have:=h 0 (by simp[Qp]);simpa [Qp,be,Ty.zero]using this
 | .bool,g,u,h=>by have:=h 0 (by simp[Qp]);simpa [Qp,be,Ty.zero]using this
 | .sl b t,g,u,h=>by{have:=h 0 (by simp[Qp]);exact⟨.slice none 0 0,by simpa [Qp]using this,.inl ⟨rfl,rfl⟩⟩}
 | .pr a b,g,u,h=>by refine⟨V9 a g u λj G=> ?_,V9 b g (u+a.size) λj G=> ?_⟩;{rw[h j (by simp[Qp];omega)];simp only[Qp];grind};{have e:u+a.size+j=u+((Qp a).length+j):=by{rw[Qn];omega};rw[e,h ((Qp a).length+j) (by simp[Qp];omega)];simp only[Qp];grind}
def Ty.size_pos: ∀t:Ty,0<t.size
 | .int _=>Nat.one_pos
 | .bool=>Nat.one_pos
 | .sl _ _=>Nat.one_pos
 | .pr a b=>by have:=Ty.size_pos a;simp only[Ty.size];omega
def q7p {t:Ty} {zs:Array Value} {b n m:Nat} {el:TypeId} (hz:zs.toList=Qp t) (hb:w.heap[b]? =some (.cells ((Array.range (m*t.size)).map λi=>zs[i%zs.size]!) el (0,0))) (a0:n<=m):
 aT who w t (List.replicate n t.zero) b 0:=by intro i hi;have b0:i<n:=by{simpa using hi};have G:zs.size=t.size:=by{rw[<-Array.length_toList,hz,Qn]};have hp:=Ty.size_pos t;simp only[List.getElem_replicate];refine V9 t _ 0 λj hj=> ?_;have K:j<t.size:=by{rw[<-Qn];exact hj};have J:i*t.size+j<m*t.size:=by{have:(i+1)*t.size<=m*t.size:=zO _ O;rw[gr]at this;omega};have u:(i*t.size+j)%t.size=j:=by{rw[zY,UN,kl K]};have hg:zs[j]! =(Qp t)[j]:=by{have:j<zs.size:=O;rw[getElem!_pos zs j this];simp only[<-hz,Array.getElem_toList]};simp only[az,World.cell?,hb,zH];simp[J,G,u,hg]
def qlc (hT:bL P T) {idx t:Nat} {l c v:AV} {cl cc:Value} (h:aw CO (XH T idx t l c) U v U' R W) (S:aC E D β who U hd a w)
 (hl:br β who w l cl) (hc:br β who w c cc) (hf: ∀k,k<16-> ¬D (fresh idx k)):
 ∃r w' β' who',(Instr.makeSlice t cl cc).run P w= .ok r w'/\aC E (Dn D idx) β' who' U' ((v,r)::hd) a w':=by
 unfold XH at h;split at h
 . rename_i e ty cells l c b0;have c0:cl= .int .i64 l:=hl;have d0:cc= .int .i64 c:=hc;subst c0 d0;obtain⟨_,U1,_,_,_,_,h1,h2⟩:=kA h;obtain⟨⟨m0,m1,m2⟩,rfl⟩:=kG h1;obtain⟨rfl,rfl⟩:=kB h2;obtain⟨hu,⟨u,K,he,J,hb,h0,hz,a0⟩⟩:=(hT t _ b0).desc
   have g0:(u.bytes:Int)*c<=4096*1073741824:=by
    have h1:(u.bytes:Int)<=4096:=O
    calc (u.bytes:Int)*c<=(u.bytes:Int)*1073741824:=Int.mul_le_mul_of_nonneg_left m2 O
     _<=4096*1073741824:=Int.mul_le_mul_of_nonneg_right h1 O
   have e0:(u.bytes:Int)*c<=281474976710656:=O;have G:=run_make (P:=P) w t e u K hu he hz .i64 .i64 l c m0 m1 O O
   obtain⟨β',who',S'⟩:=aC.make (idx:=idx) (v:= .sl (.nm (fresh idx 15)) ty (List.replicate l.toNat ty.zero)) (c:= .slice (some ⟨w.heap.size,0,none⟩) l.toNat c.toNat)
    (c1:= .slice (some ⟨w.heap.size,0,none⟩) l.toNat c.toNat)
    (w':=w.alloc (.cells (madeCells K.cells (c.toNat*u.size)) e)) S.take_dead hf rfl
    (fun β' who' g1 g2 g3 g4 _=>by
      refine⟨g2.symm,.inr ⟨w.heap.size,0,c.toNat,madeCells K.cells (c.toNat*u.size),e,by simp,heap_alloc_new w _,by simp[size_madeCells,J],by simp;omega,g3,?_⟩⟩
      exact q7p (zs:=K.cells) (m:=c.toNat) (el:=e) a0 (by rw[<-J];exact heap_alloc_new w _) O)
    (λn hn=> .inr ⟨15,O,by simpa [ab,qh,qc]using hn⟩) (by simp[ab,qh,qc])
    (λn hn=> .inr ⟨15,O,by simpa [Vs.occ,a9,aK]using hn⟩)
   exact⟨_,_,β',who',G,S'⟩
 . exact(kC h).elim
def qo7 {β:aU} {who:bp} {w:World} {v:AV} {c:Value} (h:aW β who w v c):aW β who w (lV v) c:=by unfold lV;split;{obtain⟨u,h2⟩:=h;exact .inl ⟨u,h2⟩};{exact h}
def q89 {v:AV}:qc (lV v)=qc v/\aK (lV v)=aK v:=by unfold lV;split<;>exact⟨rfl,rfl⟩
def qsg {β:aU} {who:bp} {w:World} {v:AV} {c:Value} (h:aW β who w v c):aW β who w (xZ v) c:=by unfold xZ;split<;>exact h
def qa9 {v:AV}:qc (xZ v)=qc v/\aK (xZ v)=aK v:=by unfold xZ;split<;>exact⟨rfl,rfl⟩
def qwp {β:aU} {who:bp} {w:World} {m:Nat} {v:AV} {c:Value} (h:br β who w v c):br β who w (nlI m v) c/\ab (nlI m v)=ab v/\Vs.occ (nlI m v)=Vs.occ v:=by unfold nlI;split;{split;{rename_i cells;obtain⟨arr,e1,e2⟩:=h;refine⟨⟨arr,e1,e2.map _ (λc _ v hv=>qsg hv)⟩,?_,?_⟩;{simp only[ab,qh,Ui];congr 1;funext c;exact qa9.1};{simp only[Vs.occ,a9,Ui];congr 1;funext c;exact qa9.2}};{exact⟨h,rfl,rfl⟩}};{split;{rename_i cells;obtain⟨arr,e1,e2⟩:=h;refine⟨⟨arr,e1,e2.map _ (λc _ v hv=>qo7 hv)⟩,?_,?_⟩;{simp only[ab,qh,Ui];congr 1;funext c;exact q89.1};{simp only[Vs.occ,a9,Ui];congr 1;funext c;exact q89.2}};{unfold lV;split;{obtain⟨h1,h2⟩:=h;exact⟨.inl ⟨h1,h2⟩,rfl,rfl⟩};{exact⟨h,rfl,rfl⟩}}};{exact⟨h,rfl,rfl⟩}
def aC.nlI {m:Nat} {v:AV} {c:Value} (S:aC E D β who U ((v,c)::hd) a w):aC E D β who U ((Vs.nlI m v,c)::hd) a w:=by
 obtain⟨h1,h2,h3⟩:=qwp (m:=m) (S.hrel _ mS)
 exact{S with
  hrel:=λy hy=>by rcases mC hy with rfl|hy;exact h1;exact S.hrel y (mT hy)
  hnod:=by have:=S.hnod;grind
  hdis:=λy hy=>by
   rcases mC hy with rfl|hy
   . simp only[h2];exact S.hdis _ mS
   . exact S.hdis y (mT hy)
  hocc:=λy hy=>by
   rcases mC hy with rfl|hy
   . exact λn hn=>S.hocc _ mS n (h3▸hn)
   . exact S.hocc y (mT hy)}
end
def Yd {idx j k:Nat} (h:fresh idx j=fresh idx k):j=k:=by simp only[fresh]at h;omega
def J7 {β:aU} {who:bp} {w:World} {c:AV} {v:Value} (h:aW β who w c v) (hd:c≠ .dead):v.oneCell'=true:=by cases c with|dead=>exact absurd rfl hd|bool b=>{cases h;rfl}|int k n=>{cases h;rfl}|lit u=>{obtain⟨rfl,h⟩:=h;exact h}|sl o t xs=>{cases o with|imm=>{rcases h with⟨rfl,_⟩|⟨b,o,cap,rfl,_⟩<;>rfl}|nl=>{obtain⟨rfl,_⟩:=h;rfl}|nm n=>{obtain⟨_,h⟩:=h;rcases h with⟨rfl,_⟩|⟨b,o,cap,_,_,rfl,_⟩<;>rfl}|inn=>exact h.elim}|bx o cs=>exact h.elim|agg cs=>exact h.elim|tup vs=>exact h.elim|ref s n sz win=>{cases win with|none=>{obtain⟨rfl,a,L,cap,e⟩:=h;rw[e];rfl}|some ol=>{obtain⟨a,L,cap,a',_,_,rfl,_⟩:=h;rfl}}|ptr s n sz i j=>{rcases h with⟨_,_,_,_,_,_,rfl⟩|⟨_,_,_,rfl⟩<;>rfl}|iptr g t xs i j=>{obtain⟨_,_,rfl,_⟩:=h;cases g<;>rfl}|dp n t xs hh=>{obtain⟨_,h⟩:=h;rcases h with⟨rfl,_⟩|⟨b,o,cap,arr,el,rfl,_⟩<;>rfl}|wn n t xs=>{rcases h.1.2 with⟨e,_⟩|⟨b,o,cap,arr,el,e,_⟩<;>(rw[e];rfl)}|dq n t xs hh=>{obtain⟨_,h⟩:=h;rcases h with⟨rfl,_⟩|⟨b,o,cap,arr,el,rfl,_⟩<;>rfl}|dr s n k=>{cases k with|whole=>{obtain⟨rfl,_,_,_,e⟩:=h;rw[e];rfl}|lenw l=>{rcases h.2 with⟨e,_⟩|⟨_,_,_,e⟩<;>(rw[e];rfl)}|row i=>{obtain⟨rfl,⟨_,_,_,e⟩,_⟩:=h;rw[e];rfl}|cell i=>{obtain⟨_,_,_,_,_,_,rfl⟩:=h;rfl}|elem sz i j k=>{obtain⟨_,_,_,_,_,_,rfl,_⟩:=h;rfl}}
def q6w {β:aU} {who:bp} {w:World} {n:Nat} {c c':AV} {v:Value} (h:Xh n c=some c') (G:aW β who w c v):v.oneCell'=true:=by cases c with|ref s n sz u=>cases h|dead=>cases h|_=>exact J7 G (by simp)
def q7e {β:aU} {who:bp} {w:World} {n:Nat} {c c':AV} {v:Value} (h:Xh n c=some c') (hr:aW β who w c v) (hβ:β n=dO):aW β who w c' v:=by cases c with|sl o t xs=>{cases o with|nl=>{simp only[Xh,zf]at h;subst h;obtain⟨rfl,rfl⟩:=hr;unfold yU;split;{exact⟨by rw[hβ];rfl,.inl ⟨rfl,rfl⟩⟩};{exact⟨hβ.symm,.inl ⟨rfl,rfl⟩⟩}}|imm=>{simp only[Xh,zf]at h;subst h;exact hr}|nm m=>{simp only[Xh,zf]at h;subst h;exact hr}|inn=>cases h}|bool b=>{simp only[Xh,zf]at h;subst h;exact hr}|int k x=>{simp only[Xh,zf]at h;subst h;exact hr}|lit u=>{simp only[Xh,zf]at h;subst h;exact hr}|dp m t xs hh=>{cases hh with|none=>{simp only[Xh,zf]at h;subst h;exact hr}|some k=>cases h}|_=>cases h
def qck {n:Nat} {c c':AV} (h:Xh n c=some c'):(qc c'=qc c/\aK c'=qc c)\/(qc c=[]/\qc c'=[n]/\aK c'=[n]):=by cases c with|sl o t xs=>{cases o with|nl=>{simp only[Xh,zf]at h;subst h;unfold yU;split<;>exact .inr ⟨rfl,rfl,rfl⟩}|imm=>{simp only[Xh,zf]at h;subst h;exact .inl ⟨rfl,rfl⟩}|nm m=>{simp only[Xh,zf]at h;subst h;exact .inl ⟨rfl,rfl⟩}|inn=>cases h}|bool b=>{simp only[Xh,zf]at h;subst h;exact .inl ⟨rfl,rfl⟩}|int k x=>{simp only[Xh,zf]at h;subst h;exact .inl ⟨rfl,rfl⟩}|lit u=>{simp only[Xh,zf]at h;subst h;exact .inl ⟨rfl,rfl⟩}|dp m t xs hh=>{cases hh with|none=>{simp only[Xh,zf]at h;subst h;exact .inl ⟨rfl,rfl⟩}|some k=>cases h}|_=>cases h
def J9 {idx:Nat}: ∀{k:Nat} {cs cs':List AV},Yi idx k cs=some cs'->
 cs'.length=cs.length/\(∀j (h:j<cs.length) (h':j<cs'.length),k+j<15/\Xh (fresh idx (k+j)) cs[j]=some cs'[j])/\
 (∀n∈cs'.flatMap qc,n∈cs.flatMap qc\/ ∃j,k<=j/\j<15/\n=fresh idx j)/\
 (∀n∈cs'.flatMap aK,n∈cs'.flatMap qc)/\
 ((cs.flatMap qc).Nodup->(∀n∈cs.flatMap qc,∀j,j<15->n≠fresh idx j)->(cs'.flatMap qc).Nodup)
 |k,[],cs',h=>by{simp only[Yi,zf]at h;grind}
 |k,c::cs,cs',h=>by simp only[Yi]at h;split at h;{rename_i hk;split at h;{rename_i c1 b0 K h2;injection h with h;subst h;obtain⟨i1,i2,i3,i4,i5⟩:=J9 h2;have hc:=qck K;refine⟨by simp[i1],?_,?_,?_,?_⟩;{intro j O a0;cases j with|zero=>grind|succ j=>{grind}};{grind};{grind};{intro G J;simp only[fC]at G J⊢;have u:=zT.1 G;have ih:=i5 u.2.1 (λn hn j O=>J n (by simp[hn]) j O);refine zT.2 ⟨?_,ih,?_⟩;{grind};{intro n K m h2;rintro rfl;rcases hc with⟨e,_⟩|⟨e,e',_⟩;{grind};{rw[e']at K;simp only[zA]at K;subst K;rcases i3 _ h2 with h|⟨j,a,b,c⟩;{grind};{have:=Yd c;omega}}}}};{cases h}};{cases h}
section
variable {P:Program} {CO:Q7} {T:TT} {E:ba} {D:Nat->Prop} {β:aU} {who:bp} {U U':ao} {hd:List (AV×Value)} {a:Act} {w w':World} {R W:List Nat}
def Yt {v:Value} (h:v.oneCell'=true):v.cells= #[v]:=by cases v<;>first|rfl|cases h
def Wd {v:AV} {c:Value} (h:br β who w v c) {idx:Nat} {cs':List AV} (ho:Yi idx 0 (cellsOf v)=some cs'):
 bg β who w (cellsOf v) c.cells/\ab v=(cellsOf v).flatMap qc/\(∀x∈c.cells.toList,x.oneCell'=true):=by obtain⟨l1,l2,_⟩:=J9 ho;cases v with|agg cells=>{obtain⟨arr,rfl,h2⟩:=h;refine⟨h2,rfl,?_⟩;intro x hx;obtain⟨j,hj,rfl⟩:=ml hx;have hj':j<cells.length:=by{rw[<-h2.1];simpa [Value.cells]using hj};have:=l2 j hj' (by rw[l1];exact hj');have hr:=h2.2 j hj';have e:arr.getD j undef=(Value.agg arr).cells.toList[j]:=by{simp[Value.cells,Array.getD,h2.1,hj']};rw[e]at hr;exact q6w this.2 hr}|tup vs=>{have:=(l2 0 (by simp[cellsOf]) (by rw[l1];simp[cellsOf])).2;simp[cellsOf,Xh]at this}|bx o cs=>{have:=(l2 0 (by simp[cellsOf]) (by rw[l1];simp[cellsOf])).2;simp[cellsOf,Xh]at this}|_=>{have h0:=(l2 0 (by simp[cellsOf]) (by rw[l1];simp[cellsOf])).2;simp only[cellsOf,Uy]at h0;have h1:=q6w (β:=β) (who:=who) (w:=w) (v:=c) h0 h;rw[Yt h1];refine⟨⟨rfl,λj hj=> ?_⟩,by simp[ab,qh,cellsOf],λx hx=>by simp at hx;subst hx;exact h1⟩;have:j=0:=by{simp[cellsOf]at hj;exact hj};subst this;exact h}
def aC.box {idx t:Nat} {v:AV} {c:Value} {cs':List AV} (S:aC E D β who U ((v,c)::hd) a w) (hf: ∀k,k<16-> ¬D (fresh idx k))
 (ho:Yi idx 0 (cellsOf v)=some cs'):
 ∃β' who',aC E (Dn D idx) β' who' U ((.bx (.nm (fresh idx 15)) cs',.pointer (some ⟨w.heap.size,0,none⟩))::hd) a (w.alloc (.cells c.cells t)):=by have hv:=S.hrel _ mS;obtain⟨g1,g2,g3⟩:=Wd hv ho;obtain⟨l1,l2,l3,l4,l5⟩:=J9 ho;have K:=S.hnod;simp only[fC]at K;have J:=(zT.1 K).1;rw[g2]at J;have hfresh: ∀n∈(cellsOf v).flatMap qc,∀j,j<16->n≠fresh idx j:=by{intro n u j G e;rw[<-g2]at u;exact hf j G (e▸S.hocc _ mS n (qi u))};exact aC.make (idx:=idx) (v:= .bx (.nm (fresh idx 15)) cs') (c:= .pointer (some ⟨w.heap.size,0,none⟩)) (c1:= .pointer (some ⟨w.heap.size,0,none⟩)) (w':=w.alloc (.cells c.cells t)) S hf rfl (fun β' who' q1 q2 q3 q4 q5=>by{obtain⟨b0,_,_⟩:=Wd q5 ho;refine⟨q2.symm,w.heap.size,c.cells,t,rfl,heap_alloc_new w _,q3,by rw[b0.1,l1],λj G=> ?_⟩;have a0:j<(cellsOf v).length:=by{rw[<-l1];exact G};obtain⟨k1,k2⟩:=l2 j a0 G;exact q7e k2 (b0.2 j a0) (q1 _ k1)}) (fun n u=>by{simp only[ab,qh,zu]at u;grind}) (by{simp only[ab,qh,oF];refine⟨λu=> ?_,l5 J (λn u j G=>hfresh n u j O)⟩;rcases l3 _ u with h|⟨j,_,G,e⟩;{grind};{have:=Yd e;omega}}) (fun n u=>by{simp only[Vs.occ,a9,zu]at u;rcases u with rfl|u;{exact .inr ⟨15,O,rfl⟩};{rcases l3 n (l4 n u)with h|⟨j,_,G,e⟩;{rw[<-g2]at h;exact .inl (S.hocc _ mS n (qi h))};{exact .inr ⟨j,O,e⟩}}})
def qpl {idx t:Nat} {v r:AV} {c:Value} (h:aw CO (B9 T idx t v) U r U' R W) (S:aC E D β who U ((v,c)::hd) a w)
 (J: ∀k,k<16-> ¬D (fresh idx k)):
 ∃u w' β' who',(Instr.box t c).run P w= .ok u w'/\aC E (Dn D idx) β' who' U' ((r,u)::hd) a w':=by unfold B9 at h;split at h;{exact(kC h).elim};{split at h;{exact(kC h).elim};{obtain⟨cs',G,h⟩:=kH h;obtain⟨rfl,rfl⟩:=kB h;obtain⟨β',who',K⟩:=S.box (t:=t) J G;exact⟨_,_,β',who',by simp[Instr.box,newVar,newRow],K⟩}}
def q88: ∀{zs:List ZC} {vs:List AV},Lr zs=some vs->
 ∃us,zs.mapM vE=some us/\us.length=zs.length/\vs.length=zs.length/\(∀c∈vs,qc c=[]/\aK c=[])/\
  ∀j (h:j<vs.length) (h':j<us.length),aW β who w vs[j] us[j]
 |[],vs,h=>by{simp only[Lr,zf]at h;simp_all}
 |z::zs,vs,h=>by simp only[Lr]at h;split at h;{rename_i c cs G h2;injection h with h;subst h;obtain⟨us,e1,e2,K,e4,e5⟩:=q88 h2;have J: ∃u,vE z=some u/\aW β who w c u/\qc c=[]/\aK c=[]:=by{cases z with|other=>cases G|int k=>{injection G with G;subst G;exact⟨_,rfl,rfl,rfl,rfl⟩}|bool=>{injection G with G;subst G;exact⟨_,rfl,rfl,rfl,rfl⟩}|nil t=>{injection G with G;subst G;exact⟨_,rfl,⟨rfl,rfl⟩,rfl,rfl⟩}};obtain⟨u,f1,f2,O⟩:=J;refine⟨u::us,by grind,by simp[e2],by simp[K],?_,?_⟩;{grind};{grind}};{cases h}
def qdf {t:Nat} {J:TI} (O:gZ P t J) {zs:List AV} (hz:Lr J.cells=some zs):
 ∃z,(zeroValue t).run P w= .ok z w/\bg β who w zs z.cells/\ab (.agg zs)=[]/\Vs.occ (.agg zs)=[]/\((∃arr,z= .agg arr)↔Q9 J.desc=true)/\z.cells.size=J.cells.length:=by obtain⟨us,e1,e2,e3,e4,e5⟩:=q88 (β:=β) (who:=who) (w:=w) hz;obtain⟨i,hi,b0,K⟩:=O.info;obtain⟨z,h1,h2,h3⟩:=K us e1;have u:z.cells.size=us.length:=by{rw[<-h2];simp};refine⟨z,P2 hi h1 w,⟨by rw[u,e2,e3],λj hj=> ?_⟩,Qa λc hc=>(e4 c hc).1,Qa λc hc=>(e4 c hc).2,h3,by rw[u,e2]⟩;have G:j<us.length:=by{rw[e2,<-e3];exact hj};have:=e5 j hj G;have e:z.cells.getD j undef=us[j]:=by{have a0:j<z.cells.size:=by{rw[u];exact G};simp only[Array.getD,a0,dif_pos,<-h2,Array.getInternal_eq_getElem,Array.getElem_toList]};rw[e];exact this
def qhc (hT:bL P T) {idx mode t:Nat} {r:AV} (h:aw CO (ZN T idx mode t) U r U' R W) (S:aC E D β who U hd a w)
 (hf: ∀k,k<16-> ¬D (fresh idx k)):
 ∃G w' β' who',(Instr.alloc t true (.tuple #[])).run P w= .ok G w'/\aC E (Dn D idx) β' who' U' ((r,G)::hd) a w':=by unfold ZN at h;split at h;{exact(kC h).elim};{rename_i K u;obtain⟨zs,O,h⟩:=kH h;obtain⟨cs,ho,h⟩:=kH h;obtain⟨rfl,rfl⟩:=kB h;obtain⟨z,g1,g2,g3,g4,g5,g6⟩:=qdf (β:=β) (who:=who) (w:=w) (hT t K u) O;have S1:=S.take0 (v:= .agg zs) (c:= .agg z.cells) ⟨z.cells,rfl,g2⟩ g3 (λn J=>by rw[g4]at J;cases J);obtain⟨β',who',S'⟩:=(S1.nlI (m:=mode)).box (t:=t) hf ho;exact⟨_,_,β',who',by simp[Instr.alloc,g1,newVar,newRow];rfl,S'⟩}
end
section
variable {P:Program} {CO:Q7} {T:TT} {E:ba} {D:Nat->Prop} {β:aU} {who:bp} {U U':ao} {hd:List (AV×Value)} {a:Act} {w w':World} {R W:List Nat}
def be.ext': ∀{t:Ty} {x:aX t} {g g':Nat->Option Value} {j:Nat},(∀i,i<t.size->g' (j+i)=g (j+i))->be who w t x g j->be who w t x g' j
 | .int _,x,g,g',j,u,h=>by have:=u 0 (by simp[Ty.size]);simp only[be,zS]at*;rw[this];exact h
 | .bool,x,g,g',j,u,h=>by have:=u 0 (by simp[Ty.size]);simp only[be,zS]at*;rw[this];exact h
 | .sl _ t,x,g,g',j,u,h=>by{have:=u 0 (by simp[Ty.size]);obtain⟨v,J,h2⟩:=h;exact⟨v,by grind,h2⟩}
 | .pr a b,x,g,g',j,u,h=>
   ⟨be.ext' (λi G=>u i (by simp only[Ty.size];omega)) h.1,
    be.ext' (λi G=>by have:=u (a.size+i) (by simp only[Ty.size];omega);grind) h.2⟩
def P4: ∀{t:Ty} {cells r:List AV} {x:aX t} {f:Nat->Value} {g:Nat->Option Value} {j:Nat},J4 t cells=some (x,r)->
 (∀i (h:i<cells.length),aW β who w (fJ cells[i]) (f i))->(∀i,i<t.size->g (j+i)=some (f i))->
 be who w t x g j/\r=cells.drop t.size/\t.size<=cells.length
 | .int k,cells,r,x,f,g,j,h,G,u=>by{cases cells with|nil=>cases h|cons c cs=>{cases c with|int k' n=>{simp only[J4]at h;split at h;{rename_i e;subst e;injection h with h;injection h with K h2;subst K h2;have O:=G 0 (by simp);have:f 0= .int k' n:=O;have J:=u 0 (by simp[Ty.size]);exact⟨by simp only[be];grind,rfl,by simp[Ty.size]⟩};{cases h}}|_=>cases h}}
 | .bool,cells,r,x,f,g,j,h,G,u=>by{cases cells with|nil=>cases h|cons c cs=>{cases c with|bool b=>{simp only[J4,zf,UF]at h;obtain⟨K,h2⟩:=h;subst K h2;have O:=G 0 (by simp);have:f 0= .bool b:=O;have J:=u 0 (by simp[Ty.size]);exact⟨by simp only[be];grind,rfl,by simp[Ty.size]⟩}|_=>cases h}}
 | .sl b t,cells,r,x,f,g,j,h,G,u=>by{cases cells with|nil=>cases h|cons c cs=>{cases c with|sl o t' xs=>{have key: ∀(e:t'=t),x=e▸xs->r=cs->be who w (.sl b t) x g j/\r=(AV.sl o t' xs::cs).drop (Ty.sl b t).size/\(Ty.sl b t).size<=(AV.sl o t' xs::cs).length:=by{intro e hx hc;subst e;simp only at hx;subst hx hc;have O:hO who w t' x (f 0):=G 0 (by simp);have J:=u 0 (by simp[Ty.size]);exact⟨⟨f 0,by simpa using J,O⟩,rfl,by simp[Ty.size]⟩};simp only[J4]at h;grind}|_=>cases h}}
 | .pr a b,cells,r,x,f,g,j,h,G,u=>by simp only[J4]at h;split at h;{rename_i x1 r1 K;split at h;{rename_i y r2 h2;injection h with h;injection h with h3 h4;subst h3 h4;obtain⟨i1,i2,i3⟩:=P4 (f:=f) (g:=g) (j:=j) K G (λi hi=>u i (by simp only[Ty.size];omega));subst i2;obtain⟨k1,k2,k3⟩:=P4 (f:=λi=>f (a.size+i)) (g:=g) (j:=j+a.size) h2 (fun i hi=>by{grind}) (λi hi=>by have:=u (a.size+i) (by simp only[Ty.size];omega);grind);refine⟨⟨i1,k1⟩,?_,?_⟩;{rw[k2,Nv];rfl};{simp at k3;simp only[Ty.size];omega}};{cases h}};{cases h}
def V6 {c:AV} {v:Value} (h:cr c=true) (hr:aW β who w c v):aW β who w (fJ c) v:=by cases c with|sl o t xs=>{cases o with|imm=>exact hr|nl=>{obtain⟨rfl,rfl⟩:=hr;exact .inl ⟨rfl,rfl⟩}|_=>cases h}|bool b=>exact hr|int k n=>exact hr|_=>cases h
def q3j {c:AV} (h:cr c=true):qc c=[]/\aK c=[]:=by cases c with|sl o t xs=>{cases o<;>first|exact⟨rfl,rfl⟩|cases h}|bool b=>exact⟨rfl,rfl⟩|int k n=>exact⟨rfl,rfl⟩|_=>cases h
def Xc {α:Type} {l:List α} {j:Nat} {cs:List α} (h:j+cs.length<=l.length):(Qh l j cs).length=l.length:=by rw[Qx l j cs h];simp;omega
def J8 {α:Type} {l:List α} {j:Nat} {cs:List α} (h:j+cs.length<=l.length) {i:Nat} (G:i<l.length):
 (Qh l j cs)[i]'(by rw[Xc h];exact G)=if J:j<=i/\i<j+cs.length then cs[i-j]'(O)else l[i]:=by simp only[Qx l j cs h];split;{grind};{rename_i J;by_cases u:i<j;{grind};{rw[vF (by simp;omega)];grind}}
def qj (cur:Array Value) (o:Nat) (vs:List Value):Array Value:=(cur.toList.take o++vs++cur.toList.drop (o+vs.length)).toArray
def Qm {cur:Array Value} {o:Nat} {vs:List Value} (h:o+vs.length<=cur.size):(qj cur o vs).size=cur.size:=by simp[qj];omega
def Ql {cur:Array Value} {o:Nat} {vs:List Value} (h:o+vs.length<=cur.size) (i:Nat):
 (qj cur o vs)[i]? =if o<=i/\i<o+vs.length then vs[i-o]? else cur[i]? :=by have e:(qj cur o vs)[i]? =(cur.toList.take o++vs++cur.toList.drop (o+vs.length))[i]? :=by{simp[qj]};rw[e];have J:cur.toList.length=cur.size:=by{simp};split;{grind};{rename_i G;by_cases u:i<o;{grind};{rw[List.getElem?_append_right (by simp;omega),List.getElem?_drop];simp;congr 1;omega}}
def aC.write {idx s n g:Nat} {v av':AV} {c:Value} {row:Array Value} (S:aC E D β who U ((v,c)::hd) a w) (hf: ∀k,k<16-> ¬D (fresh idx k))
 (hg:who g=some n) (hn:n∈ab (U.get s))
 (hv: ∀β',(∀k,k<15->β' (fresh idx k)=dO)->(∀m,D m->β' m=β m)->
   (∀av x,(∀m∈Vs.occ av,D m)->n∉ab av->br β who w av x->br β' who (w.setRow g row) av x)->
   (∀b,who b=none->(w.setRow g row).heap[b]? =w.heap[b]?)->br β' who (w.setRow g row) av' (a.tmps.getD s undef))
 (hns: ∀m∈ab av',m∈ab (U.get s)\/m∈ab v\/ ∃k,k<16/\m=fresh idx k) (hnd:(ab av').Nodup) (ho: ∀m∈Vs.occ av',Dn D idx m):
 ∃β',aC E (Dn D idx) β' who (U.set s av') hd a (w.setRow g row):=by
 let β':aU:=λx=>if fresh idx 0<=x/\x<fresh idx 15 then dO else β x
 have hβ: ∀m,D m->β' m=β m:=λm hdm=>by
  simp only[β'];rw[ae]
  rintro ⟨h1,h2⟩
  refine hf (m-fresh idx 0) (by simp only[fresh]at*;omega) ?_
  rwa [show fresh idx (m-fresh idx 0)=m by simp only[fresh]at*;omega]
 have hoth: ∀b,b≠g->(w.setRow g row).heap[b]? =w.heap[b]? :=λb hb=>setRow_other w g b row hb
 have hgn: ∀b,who b=none->b≠g:=λb hb e=>by grind
 have kp: ∀av x,(∀m∈Vs.occ av,D m)->n∉ab av->br β who w av x->br β' who (w.setRow g row) av x:=λav x h1 h2 h3=>
  h3.keep ⟨λm hm=>hβ m (h1 m hm),λm hm b hb=>⟨hb,hoth b (by grind)⟩,λb hb _=>⟨hb,hoth b (hgn b hb)⟩,by simp⟩
 have hnv:n∉ab v:=λh=>S.hdis _ mS n h s hn
 have hfr: ∀k,k<16-> ∀t,fresh idx k∉ab (U.get t):=λk hk t h=>hf k hk (S.occ t _ (qi h))
 have hfh: ∀k,k<16-> ∀x∈hd,fresh idx k∉ab x.1:=λk hk x hx h=>hf k hk (S.hocc x (mT hx) _ (qi h))
 have hno:=S.hnod;simp only[fC]at hno;have hrel':=hv β' (λk hk=>by simp only[β'];rw[iP];simp only[fresh];omega) hβ kp (λb hb=>hoth b (hgn b hb))
 refine⟨β',?_⟩
 exact{
  rel:=λt=>by
   by_cases e:t=s
   . subst e;rw[qg];exact hrel'
   . rw[qf _ _ e];exact kp _ _ (S.occ t) (λh=>e (S.dis t s n h hn)) (S.rel t)
  nod:=λt=>by
   by_cases e:t=s
   . subst e;rw[qg];exact hnd
   . rw[qf _ _ e];exact S.nod t
  dis:=λt t' m h1 h2=>by
   have key: ∀t,t≠s->m∈ab (U.get t)->m∉ab av':=λt e h h'=>by
    rcases hns m h' with h3|h3|⟨k,hk,rfl⟩
    . exact e (S.dis t s m h h3)
    . exact S.hdis _ mS m h3 t h
    . exact hfr k hk t h
   by_cases e:t=s<;>by_cases e':t'=s
   . rw[e,e']
   . subst e;rw[qg]at h1;rw[qf _ _ e']at h2;grind
   . subst e';rw[qg]at h2;rw[qf _ _ e]at h1;grind
   . rw[qf _ _ e]at h1;rw[qf _ _ e']at h2;exact S.dis t t' m h1 h2
  occ:=λt m h=>by
   by_cases e:t=s
   . subst e;rw[qg]at h;exact ho m h
   . rw[qf _ _ e]at h;exact .inl (S.occ t m h)
  hrel:=λx hx=>kp _ _ (S.hocc x (mT hx)) (λh=>S.hdis x (mT hx) n h s hn) (S.hrel x (mT hx))
  hnod:=(zT.1 hno).2.1
  hdis:=λx hx m h t=>by
   by_cases e:t=s
   . subst e;rw[qg];intro h';rcases hns m h' with h3|h3|⟨k,hk,rfl⟩
     . exact S.hdis x (mT hx) m h t h3
     . grind
     . exact hfh k hk x hx h
   . rw[qf _ _ e];exact S.hdis x (mT hx) m h t
  hocc:=λx hx m h=> .inl (S.hocc x (mT hx) m h)
  wsz:=λb m h=>by simp only[setRow_size];exact S.wsz b m h
  fr0:=λb hb h0=>by
   rw[hoth b (by
    rintro rfl
    rcases h0 with h0|h0
    . rcases S.fr1 b n hg with h|h
      . exact h h0
      . omega
    . rw[S.fr3 b h0]at hg;injection hg with hg;exact S.dfn (hg▸S.occ s n (qi hn)))]
   exact S.fr0 b hb h0
  fr1:=S.fr1,fr2:=by simp only[setRow_size];exact S.fr2,fr3:=S.fr3,fr4:=S.fr4,dfn:=dz S.dfn,dfr:=S.dfr,tsz:=S.tsz,pin:=S.pin,frm:=(hβ 98 S.d98).trans S.frm,d98:= .inl S.d98}
end
section
variable {P:Program} {CO:Q7} {T:TT} {E:ba} {D:Nat->Prop} {β:aU} {who:bp} {U U':ao} {hd:List (AV×Value)} {a:Act} {w w':World} {R W:List Nat}
def q3f {c:AV} {v:Value} (h:aW β who w c v):br β who w c v/\ab c=qc c/\Vs.occ c=aK c/\ ∀β' who' w' v',br β' who' w' c v'->aW β' who' w' c v':=by cases c with|bx o cs=>exact h.elim|agg cs=>exact h.elim|tup vs=>exact h.elim|_=>exact⟨h,rfl,rfl,λ_ _ _ _ h=>h⟩
def qlr (hT:bL P T) {t:Nat} {v:AV} {c:Value} (h:br β who w v c):br β who w (Jl T t v) c/\ab (Jl T t v)=ab v/\ ∀n∈Vs.occ (Jl T t v),n∈Vs.occ v:=by unfold Jl;split;{split;{have hc:c= .slice none 0 0:=h.1;exact⟨⟨hc,rfl⟩,rfl,λn hn=>by cases hn⟩};{exact⟨h,rfl,λn hn=>hn⟩}};grind
def aC.fix (hT:bL P T) {t:Nat} {v:AV} {c:Value} (S:aC E D β who U ((v,c)::hd) a w):aC E D β who U ((Jl T t v,c)::hd) a w:=by
 obtain⟨h1,h2,h3⟩:=qlr (t:=t) hT (S.hrel _ mS)
 exact{S with
  hrel:=λy hy=>by rcases mC hy with rfl|hy;exact h1;exact S.hrel y (mT hy)
  hnod:=by have:=S.hnod;grind
  hdis:=λy hy=>by
   rcases mC hy with rfl|hy
   . simp only[h2];exact S.hdis _ mS
   . exact S.hdis y (mT hy)
  hocc:=λy hy=>by
   rcases mC hy with rfl|hy
   . exact λn hn=>S.hocc _ mS n (h3 n hn)
   . exact S.hocc y (mT hy)}
def aC.swap {x y:AV×Value} (S:aC E D β who U (x::y::hd) a w):aC E D β who U (y::x::hd) a w:=by
 have hp:(x::y::hd).Perm (y::x::hd):=List.Perm.swap y x hd
 exact{S with
  hrel:=λz hz=>S.hrel z (hp.mem_iff.2 hz)
  hnod:=((hp.flatMap_right _).nodup_iff).1 S.hnod
  hdis:=λz hz=>S.hdis z (hp.mem_iff.2 hz)
  hocc:=λz hz=>S.hocc z (hp.mem_iff.2 hz)}
def Za {t:Nat} {K:TI} (u:gZ P t K) {b o:Nat} {c:Value} {arr:Array Value} {el:TypeId} (hb:w.heap[b]? =some (.cells arr el (0,0)))
 (G:c.cells.size=K.cells.length) (O:o+c.cells.size<=arr.size) (h1: ∀x∈c.cells.toList,x.oneCell'=true):
 (Instr.storeAt t (.pointer (some ⟨b,o,none⟩)) c).run P w= .ok () (w.setRow b (qj arr o c.cells.toList)):=by obtain⟨i,hi,J,_⟩:=u.info;have:=run_storeCells_at P b o el c.cells.toList 0 arr w hb (by simpa using O) h1;simp only[zS]at this;simp only[Instr.storeAt,Instr.sureAddr,Sem.run_bind,Sem.run_pure,Result.andThen_ok,storeVar,Xv hi,J,G,ne_eq,not_true_eq_false,if_false,this];rfl
def Zi {n:Nat} {f:(t:Ty)->List (aX t)->Option (List (aX t))} {c c':AV} (h:fp n f c=some c'):
 (∃t xs ys,c= .sl (.nm n) t xs/\f t xs=some ys/\c'= .sl (.nm n) t ys)\/(∃t xs ys,c= .wn n t xs/\f t xs=some ys/\c'= .wn n t ys)\/(n∉qc c/\c'=c):=by cases c with|sl o t xs=>{cases o with|nm m=>{simp only[fp]at h;split at h;{grind};{rename_i e;injection h with h;subst h;exact .inr (.inr ⟨by simp only[qc,zA];exact λh=>e h.symm,rfl⟩)}}|_=>{injection h with h;subst h;exact .inr (.inr ⟨by simp[qc],rfl⟩)}}|dp m t xs hh=>{simp only[fp]at h;split at h;{cases h};{rename_i e;injection h with h;subst h;exact .inr (.inr ⟨by simp only[qc,zA];exact λh=>e h.symm,rfl⟩)}}|dq m t xs hh=>{simp only[fp]at h;split at h;{cases h};{rename_i e;injection h with h;subst h;exact .inr (.inr ⟨by simp only[qc,zA];exact λh=>e h.symm,rfl⟩)}}|wn m t xs=>{simp only[fp]at h;split at h;{grind};{rename_i e;injection h with h;subst h;exact .inr (.inr ⟨by simp only[qc,zA];exact λh=>e h.symm,rfl⟩)}}|_=>{injection h with h;subst h;exact .inr (.inr ⟨by simp[qc],rfl⟩)}
def QI {n:Nat} {f:(t:Ty)->List (aX t)->Option (List (aX t))} {c c':AV} (h:fp n f c=some c'):qc c'=qc c/\aK c'=aK c:=by rcases Zi h with⟨t,xs,ys,rfl,_,rfl⟩|⟨t,xs,ys,rfl,_,rfl⟩|⟨_,rfl⟩<;>exact⟨rfl,rfl⟩
def Oj {n:Nat} {f:(t:Ty)->List (aX t)->Option (List (aX t))}: ∀{cs cs':List AV},oN n f cs=some cs'->
 cs'.length=cs.length/\cs'.flatMap qc=cs.flatMap qc/\cs'.flatMap aK=cs.flatMap aK/\ ∀j (h:j<cs.length) (h':j<cs'.length),fp n f cs[j]=some cs'[j]
 |[],cs',h=>by injection h with h;grind
 |c::cs,cs',h=>by simp only[oN]at h;split at h;{rename_i c1 G u h2;injection h with h;subst h;obtain⟨i1,i2,i3,O⟩:=Oj h2;obtain⟨K,J⟩:=QI u;grind};{cases h}
def aT.store {t:Ty} {xs:List (aX t)} {b o i j:Nat} {arr:Array Value} {el:TypeId} {cs:List AV} {vs:List Value} {x':aX t}
 (hb:w.heap[b]? =some (.cells arr el (0,0))) (hE:aT who w t xs b o) (hi:i<xs.length) (hlen:vs.length=cs.length) (i0:o+xs.length*t.size<=arr.size)
 (hs:Z8 t (xs.getD i t.zero) j cs=some x') (hw: ∀k (h:k<cs.length),aW β who (w.setRow b (qj arr (o+i*t.size+j) vs)) (fJ cs[k]) (vs.getD k undef))
 (G: ∀b',who b'=none->(w.setRow b (qj arr (o+i*t.size+j) vs)).heap[b']? =w.heap[b']?):
 aT who (w.setRow b (qj arr (o+i*t.size+j) vs)) t (xs.set i x') b o:=by have hx:xs.getD i t.zero=xs[i]:=by{simp[List.getD,List.getElem?_eq_getElem hi]};rw[hx]at hs;unfold Z8 at hs;split at hs;{rename_i g0;split at hs;{rename_i y hy;injection hs with hs;subst hs;have hp:=Ty.size_pos t;have hrange:o+i*t.size+t.size<=arr.size:=by{have:(i+1)*t.size<=xs.length*t.size:=zO _ O;rw[gr]at this;omega};have a0:o+i*t.size+j+vs.length<=arr.size:=O;have hheap:(w.setRow b (qj arr (o+i*t.size+j) vs)).heap[b]? =some (.cells (qj arr (o+i*t.size+j) vs) el (0,0)):=setRow_heap w b arr _ el _ hb;have hcell: ∀k,(w.setRow b (qj arr (o+i*t.size+j) vs)).cell? ⟨b,k,none⟩=if o+i*t.size+j<=k/\k<o+i*t.size+j+vs.length then vs[k-(o+i*t.size+j)]? else arr[k]? :=by{intro k;simp only[World.cell?,hheap];simpa using Ql a0 k};have hold: ∀k,w.cell? ⟨b,k,none⟩=arr[k]? :=λk=>by{simp[World.cell?,hb]};have K:w.heap.size<=(w.setRow b (qj arr (o+i*t.size+j) vs)).heap.size:=by{simp};intro i' h0;have c0:i'<xs.length:=by{simpa using h0};by_cases e:i'=i;{subst e;rw[K4];obtain⟨d0,hu⟩:=Wo (β:=β) (hE i' hi);let f:Nat->Value:=λk=>if j<=k/\k<j+vs.length then vs.getD (k-j) undef else arr.getD (o+i'*t.size+k) undef;refine(P4 (β:=β) (who:=who) (w:=w.setRow b (qj arr (o+i'*t.size+j) vs)) (f:=f) hy ?_ ?_).1;{intro k hk;have b0:j+cs.length<=(aF t xs[i']).length:=by{rw[d0];exact g0};have J:k<(aF t xs[i']).length:=by{rw[<-Xc b0];exact hk};rw[J8 b0 J];simp only[f];split;{grind};{rename_i hc;rw[ae O];obtain⟨v,e1,e2⟩:=hu k J;rw[zH]at e1;simp only[az,hold]at e1;have:arr.getD (o+i'*t.size+k) undef=v:=by{rw[Array.getD_eq_getD_getElem?,e1];rfl};rw[this];have e0:=(q50 (c:=fJ (aF t xs[i'])[k]) (zk.2 ⟨_,zW J,rfl⟩)).1;exact aW.keep (β:=β) (β':=β) ⟨λ_ _=>rfl,(λm hm=>by rw[e0]at hm;cases hm),λb' u _=>⟨u,G b' u⟩,K⟩ e2}};{intro k hk;simp only[az,hcell,zH,f];by_cases hc:j<=k/\k<j+vs.length;{grind};{rw[ae O,ae hc];rw[Array.getD_eq_getD_getElem?,Array.getElem?_eq_getElem O];rfl}}};{rw[K0 (λh=>e h.symm)];refine be.ext' (g:=az w b (o+i'*t.size)) (λk hk=> ?_) (be.keep (λb' u _=>⟨u,G b' u⟩) K (hE i' c0));simp only[az,hcell,hold,zH];rw[ae];rintro ⟨q1,q2⟩;rcases Nat.lt_or_gt_of_ne e with h|h;{have:(i'+1)*t.size<=i*t.size:=zO _ h;grind};{have:(i+1)*t.size<=i'*t.size:=zO _ h;grind}}};{cases hs}};{cases hs}
end
end Go.Vs
