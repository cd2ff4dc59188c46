import Derived.Calls
import Derived.Laws.Sem
import Derived.Laws.Entries
import Derived.Laws.Rows
import Derived.Laws.CopyRow
import Derived.Laws.StructEq
import Derived.IntWalk
import Derived.Laws.MakeOwn
set_option linter.unusedVariables false
set_option linter.unusedSimpArgs false
set_option linter.unusedSectionVars false
set_option linter.defProp false
namespace Go.Vs
abbrev zA:=@Nat.not_lt_zero
abbrev zC:=@List.mem_singleton
abbrev zF:=@Nat.le_refl
abbrev zG:=@Nat.zero_add
abbrev zH:=@List.mem_flatMap
abbrev zI:=@Bool.and_eq_true
abbrev zJ:=@List.length_append
abbrev zK:=@List.nodup_append
abbrev zL:=@Nat.mul_add
abbrev zM:=@Option.some.injEq
abbrev zN:=@List.getElem_mem
abbrev zO:=@Nat.mul_le_mul_right
abbrev zQ:=@List.mem_append
abbrev zS:=@List.length_set
abbrev zT:=@List.mem_cons
abbrev zU:=@Nat.add_zero
abbrev zV:=@List.mem_map
abbrev zW:=@Nat.pow_le_pow_right
abbrev zX:=@Nat.mul_assoc
abbrev zY:=@List.mem_append_left
abbrev zZ:=@List.not_mem_nil
abbrev zf:=@Nat.le_trans
abbrev zh:=@Nat.mul_comm
abbrev zi:=@Nat.mul_le_mul_left
abbrev zk:=@List.length_take
abbrev zn:=@List.take_append_drop
abbrev zq:=@Nat.lt_or_ge
abbrev zu:=@List.append_assoc
abbrev zx:=@List.all_eq_true
abbrev zy:=@List.length_map
abbrev ny:=@List.length_singleton
abbrev pK:=@List.length_eq_zero_iff
abbrev l9:=@List.getElem_of_mem
abbrev nX:=@List.length_replicate
abbrev jg:=@List.append_nil
abbrev gd:=@Nat.mul_zero
abbrev jN:=@List.nodup_cons
abbrev n6:=@List.mem_append_right
abbrev j8:=@List.length_cons
abbrev j7:=@Nat.mod_eq_of_lt
abbrev nx:=@Int.natAbs_natCast
abbrev gV:=@Nat.pow_succ
abbrev f9:=@Nat.pow_pos
abbrev pJ:=@List.mem_of_mem_take
abbrev ir:=@Nat.add_mul
abbrev jM:=@Bool.not_true
abbrev nw:=@List.getElem_map
abbrev sj:=@List.take_of_length_le
abbrev IE:=@Nat.two_pow_add_eq_or_of_lt
abbrev qZ:=@Int.natCast_mul
abbrev si:=@List.contains_iff_mem
abbrev iw:=@Nat.mul_one
abbrev tO:=@List.getElem_append_left
abbrev xt:=@Nat.pow_add
abbrev tr:=@List.getElem_set_self
abbrev pI:=@List.length_drop
abbrev B3:=@Nat.and_two_pow_sub_one_eq_mod
abbrev n5:=@List.nil_append
abbrev nY:=@Int.natCast_pow
abbrev tn:=@Nat.add_assoc
abbrev nW:=@List.drop_zero
abbrev pP:=@Option.getD_some
abbrev zg1:=@Bool.not_eq_true
abbrev pH:=@List.mem_filter
abbrev tl:=@List.map_congr_left
abbrev tk:=@List.getElem_set_ne
abbrev nV:=@List.map_cons
abbrev qX:=@List.cons_append
abbrev xq:=@List.singleton_append
abbrev l8:=@Nat.zero_le
abbrev HG:=@Array.length_toList
abbrev HE:=@List.set_eq_take_append_cons_drop
abbrev BX:=@List.pairwise_iff_getElem
abbrev BV:=@List.getElem_append_right
abbrev xp:=@List.map_append
abbrev pN:=@Nat.mul_le_mul
abbrev xn:=@List.mem_of_mem_drop
abbrev pM:=@List.mem_range
abbrev tM:=@Bool.false_eq_true
abbrev l6:=@Nat.mod_lt
abbrev tL:=@Nat.lt_of_lt_of_le
abbrev xy:=@List.flatMap_append
abbrev sm:=@Option.map_some
abbrev q9:=@Bool.not_false
abbrev tw:=@List.flatMap_nil
abbrev pR:=@Bool.true_and
abbrev HM:=@List.eq_nil_of_length_eq_zero
abbrev xx:=@Int.natCast_nonneg
abbrev tv:=@Bool.or_eq_true
abbrev sk:=@List.take_zero
abbrev FC:=@Int.natCast_add
abbrev tR:=@List.filter_cons
abbrev B7:=@Nat.div_lt_iff_lt_mul
abbrev xw:=@Nat.mul_left_comm
abbrev xP:=@Nat.lt_of_le_of_lt
abbrev tQ:=@Nat.div_le_self
abbrev xv:=@List.ext_getElem
abbrev xu:=@Nat.le_of_not_lt
abbrev FB:=@Option.map_eq_some_iff
abbrev FA:=@List.getElem_cons_zero
abbrev Fz:=@List.length_filter_le
abbrev Fy:=@List.set_getElem_self
abbrev tP:=@List.nodup_nil
abbrev B6:=@Int.cast_ofNat_Int
abbrev B5:=@Nat.eq_zero_or_pos
abbrev B4:=@Nat.pos_of_ne_zero
abbrev Fx:=@List.pairwise_append
abbrev tp:=@Nat.le_of_lt
abbrev xO:=@Bool.eq_iff_iff
abbrev xN:=@List.length_nil
abbrev xM:=@Nat.div_add_mod
abbrev Iz:=@Nat.lt_of_mul_lt_mul_left
abbrev Iy:=@Nat.add_mul_mod_self_left
abbrev Ix:=@List.drop_eq_getElem_cons
abbrev HI:=@Nat.le_div_iff_mul_le
abbrev B0:=@Nat.div_eq_of_lt
abbrev Nj:=@Array.eq_empty_of_size_eq_zero
abbrev BZ:=@List.filter_nil
abbrev HH:=@Nat.testBit_two_pow
abbrev xr:=@Nat.add_comm
abbrev xL:=@List.all_cons
abbrev zm2:=@Array.ext
abbrev BY:=@Int.ofNat_zero
abbrev HF:=@List.pairwise_cons
abbrev HD:=@Nat.add_sub_cancel
abbrev BW:=@Int.natAbs_neg
abbrev Pr:=@List.drop_drop
abbrev Fv:=@List.cons.injEq
abbrev Fu:=@List.range_succ
abbrev HB:=@List.mem_range'_1
abbrev Ip:=@Bool.or_eq_false_iff
abbrev Io:=@Bool.and_eq_true_iff
abbrev HA:=@List.getElem_take
abbrev xU:=@Nat.pow_zero
abbrev xT:=@List.map_nil
abbrev IK:=@List.mem_iff_getElem
abbrev HN:=@List.size_toArray
abbrev NC:=@Option.isSome_iff_exists
abbrev FD:=@Bool.false_and
abbrev HK:=@List.getElem_set
abbrev xS:=@Nat.one_mul
abbrev xR:=@Nat.mod_mod
abbrev xQ:=@Nat.log2_lt
abbrev B8:=@Bool.or_true
abbrev Nv:=@Bool.and_eq_false_iff
abbrev IJ:=@Nat.lt_trichotomy
abbrev Nu:=@Nat.div_lt_of_lt_mul
abbrev Nt:=@Array.replicate_succ
abbrev Ns:=@Array.replicate_zero
abbrev II:=@List.range'_succ
abbrev IH:=@Nat.succ_mul
abbrev IG:=@List.perm_middle
abbrev IF:=@Int.natCast_ediv
abbrev ID:=@List.take_length
abbrev IC:=@Option.getD_none
abbrev Nr:=@Nat.div_mul_le_self
abbrev Nq:=@List.append_toArray
abbrev HJ:=@Bool.and_true
abbrev IB:=@Nat.mod_add_div
abbrev IA:=@Nat.testBit_and
abbrev Pt:=@List.getElem_range
abbrev Np:=@List.mem_replicate
abbrev No:=@Option.isSome_none
abbrev Nn:=@List.zip_cons_cons
abbrev Fw:=@Nat.or_comm
abbrev Nm:=@List.take_add_one
abbrev Nl:=@List.getElem_drop
abbrev Nk:=@Array.toList_push
abbrev Ni:=@List.push_toArray
abbrev Nh:=@List.countP_cons
abbrev Ng:=@List.any_eq_true
abbrev Nf:=@List.flatMap_map
abbrev T3:=@Array.toList_map
abbrev Iv:=@Bool.and_self
abbrev Ps:=@Int.add_assoc
abbrev Iu:=@Prod.mk.injEq
abbrev zp3:=@Nat.pow_mul
abbrev Nd:=@Nat.div_lt_self
abbrev Nc:=@Option.some.inj
abbrev Nb:=@Nat.mul_add_mod
abbrev Is:=@List.map_map
abbrev Ir:=@Nat.sub_self
abbrev Iq:=@Int.mul_comm
abbrev Na:=@Int.natAbs_mul
abbrev M9:=@List.mapM_cons
abbrev M8:=@Int.neg_mul
abbrev M7:=@Int.mul_assoc
abbrev NH:=@Bool.or_false
abbrev NG:=@Bool.true_or
abbrev ND:=@Nat.zero_mul
abbrev NB:=@Nat.zero_div
abbrev NA:=@Int.add_zero
abbrev Nz:=@Nat.sub_zero
abbrev Ny:=@Int.le_refl
abbrev Nx:=@Nat.mul_pos
abbrev Nw:=@Nat.mod_one
def bS{α β}{a:α}{f:α->Option β}:(some a).bind f=f a:=rfl
def tN(n:Nat):(n:Int).toNat=n:=rfl
def nZ:((0:Nat):Int)=0:=rfl
def iP{c:Prop}{h:Decidable c}(hc:c){α:Sort _}{t e:α}:ite c t e=t:=if_pos hc
def ao{c:Prop}{h:Decidable c}(hc:¬c){α:Sort _}{t e:α}:ite c t e=e:=if_neg hc
def fC{α β}{x:α}{xs:List α}{f:α->List β}:(x::xs).flatMap f=f x++xs.flatMap f:=List.flatMap_cons
def mS{α}{a:α}{l:List α}:a∈a::l:=List.mem_cons_self
def mT{α}{a:α}{l:List α}{y:α}(h:a∈l):a∈y::l:=List.mem_cons_of_mem y h
def mC{α}{a b:α}{l:List α}(h:a∈b::l):a=b\/a∈l:=zT.1 h
abbrev LI:=List Int
def O{p:Prop}(h:p:=by omega):p:=h
inductive Ty where
 |int (k:IntKind)
 |bool
 |sl (inn:Bool) (t:Ty)
 |pr (a b:Ty)
 deriving DecidableEq
@[reducible] def aM:Ty->Type
  | .int _=>Int
  | .bool=>Bool
  | .sl _ t=>List (aM t)
  | .pr a b=>aM a×aM b
def Ty.size:Ty->Nat
 | .int _| .bool| .sl _ _=>1
 | .pr a b=>a.size+b.size
def Ty.zero:(t:Ty)->aM t
 | .int _=>(0:Int)
 | .bool=>false
 | .sl _ _=>[]
 | .pr a b=>(a.zero,b.zero)
inductive M2 where
 |imm
 |nm (n:Nat)
 |nl
 |inn
 deriving DecidableEq
inductive DK where
 |whole
 |cell (i:Nat)
 |row (i:Nat)
 |elem (sz i j k:Nat)
 |lenw (l:Nat)
 |mlen (l:Nat)
 |mcell (i:Nat)
 |mrow (j i:Nat)
 deriving DecidableEq
def DK.strip:DK->DK
 | .lenw _=> .whole
 |k=>k
inductive AV where
 |dead
 |bool (b:Bool)
 |int (k:IntKind) (n:Int)
 |lit (v:Value)
 |sl (o:M2) (t:Ty) (xs:List (aM t))
 |bx (o:M2) (cells:List AV)
 |agg (cells:List AV)
 |tup (vs:List AV)
 |ref (s n sz:Nat) (win:Option (Nat×Nat))
 |ptr (s n sz i j:Nat)
 |iptr (g:Option Nat) (t:Ty) (xs:List (aM t)) (i j:Nat)
 |dp (n:Nat) (t:Ty) (xs:List (List (aM t))) (h:Option Nat)
 |dr (s n:Nat) (k:DK)
 |wn (n:Nat) (t:Ty) (xs:List (aM t))
 |dq (n:Nat) (t:Ty) (xs:List (aM t)) (h:Option Nat)
 |fd (n:Nat) (t:Ty) (xs:List (List (aM t))) (h:Option Nat)
 |mm (n:Nat) (t:Ty) (xs:List (Option (List (Int×aM t)))) (o:Bool)
def aZ {α:Type}:List (Int×α)->Int->Option α
 |[],_=>none
 |(k',x)::r,k=>if k'=k then some x else aZ r k
def bY {α:Type}:List (Int×α)->Int->α->List (Int×α)
 |[],k,x=>[(k,x)]
 |(k',y)::r,k,x=>if k'=k then(k,x)::r else(k',y)::bY r k x
def eO {α:Type}:List (Int×α)->Int->Nat
 |[],_=>0
 |(k',_)::r,k=>if k'=k then 0 else eO r k+1
abbrev ag:=List (Nat×AV)
def ag.get:ag->Nat->AV
 |[],_=> .dead
 |(k,v)::r,s=>if k=s then v else ag.get r s
def ag.set:ag->Nat->AV->ag
 |[],s,v=>[(s,v)]
 |(k,u)::r,s,v=>if k=s then(k,v)::r else(k,u)::ag.set r s v
def Qv (s:Nat):AV->AV
 | .sl (.nm n) t _=> .ref s n t.size none
 | .dp n _ xs _=> .dr s n (.lenw xs.length)
 | .fd n _ xs _=> .dr s n (.lenw xs.length)
 | .mm n _ xs false=> .dr s n (.mlen xs.length)
 | .mm _ _ _ true=> .dead
 | .dr _ _ (.mlen _)=> .dead
 | .wn n t _=> .ref s n t.size none
 | .dq _ _ _ _=> .dead
 |v=>v
def cY (s:Nat):AV->Option AV
 | .dead=>none
 | .fd _ _ _ _=>none
 | .mm _ _ _ _=>none
 | .tup _=>none
 | .dq n t _ _=>some (.ref s n t.size none)
 | .bx (.nm n) _=>some (.ptr s n 1 0 0)
 | .bx _ _=>none
 | .agg cells=>some (.agg (cells.map (Qv s)))
 | .sl (.nm n) t _=>some (.ref s n t.size none)
 | .dp n _ _ _=>some (.dr s n .whole)
 | .wn n t _=>some (.ref s n t.size none)
 |v=>some v
def df (s j:Nat):AV->Option AV
 | .bx (.nm _) cells=>(cells[j]?).map (Qv s)
 | .tup vs=>vs[j]?
 | .dp n _ xs _=>if j=0 then some (.dr xs.length n .whole)else none
 |_=>none
def cr (s:Nat):Nat->AV->Option AV
 |0,a=>some a
 |1,a=>cY s a
 |j+2,a=>if j<15 then df s j a else none
inductive M (α:Type) where
 |ret (a:α)
 |fail
 |get (s:Nat) (k:AV->M α)
 |set (s:Nat) (v:AV) (k:M α)
 |ask (p:Prop) (d:Decidable p) (k:M α)
 |know (s:Nat) (k:Bool->M α)
 |view (s j:Nat) (k:Option AV->M α)
 |upd (s:Nat) (W:List Nat) (f:AV->Option AV) (hf: ∀a b,f a=some b-> ∀j,j∉W->cr s j b=cr s j a) (k:M α)
 |call (f:Nat) (args:List AV) (k:AV->List AV->M α)
def M.bind {α β:Type}:M α->(α->M β)->M β
 | .ret a,f=>f a
 | .fail,_=> .fail
 | .get s k,f=> .get s λv=>(k v).bind f
 | .set s v k,f=> .set s v (k.bind f)
 | .ask p d k,f=> .ask p d (k.bind f)
 | .know s k,f=> .know s λb=>(k b).bind f
 | .view s j k,f=> .view s j λb=>(k b).bind f
 | .upd s W g h k,f=> .upd s W g h (k.bind f)
 | .call g as k,f=> .call g as λr os=>(k r os).bind f
instance:Monad M where
 pure:=M.ret
 bind:=M.bind
def bT (s:Nat):M AV:= .get s .ret
def dP (s:Nat) (v:AV):M Unit:= .set s v (.ret ())
def cH (p:Prop) [d:Decidable p]:M Unit:= .ask p d (.ret ())
def uN (s:Nat):M Bool:= .know s .ret
def fm (s j:Nat):M (Option AV):= .view s j .ret
def iA (s:Nat) (W:List Nat) (f:AV->Option AV) (hf: ∀a b,f a=some b-> ∀j,j∉W->cr s j b=cr s j a):M Unit:= .upd s W f hf (.ret ())
def kq (f:Nat) (args:List AV):M (AV×List AV):= .call f args λr os=> .ret (r,os)
def pZ {α:Type}:Option α->M α
 |some a=> .ret a
 |none=> .fail
inductive ZC where
 |int (k:IntKind)
 |bool
 |nil (t:Ty)
 |other
 deriving DecidableEq
inductive TD where
 |int (k:IntKind)
 |bool
 |slice (e:Nat) (t:Ty)
 |struct (fs:List (Nat×Nat))
 |array (n:Nat) (esz:Nat)
 |ptr (e:Nat)
 |string
 |mslice (e:Nat) (t:Ty)
 |map (e:Nat) (t:Ty)
 |tab (g:Nat) (k:IntKind) (xs:LI)
 |other
structure TI where
 desc:TD
 cells:List ZC
abbrev TT:=List (Option TI)
def TT.at (T:TT) (t:Nat):Option TI:=match T[t]? with|some x=>x|none=>none
def qc:AV->List Nat
 | .sl (.nm n) _ _=>[n]
 | .dp n _ _ _=>[n]
 | .wn n _ _=>[n]
 | .dq n _ _ _=>[n]
 | .fd n _ _ _=>[n]
 | .mm n _ _ _=>[n]
 |_=>[]
def qi:AV->List Nat
 | .bx (.nm n) cells=>n::cells.flatMap qc
 | .bx _ cells=>cells.flatMap qc
 | .agg cells=>cells.flatMap qc
 |v=>qc v
def ab:AV->List Nat
 | .tup vs=>vs.flatMap qi
 |v=>qi v
def bf:(t:Ty)->aM t->List AV
 | .int k,x=>[.int k x]
 | .bool,x=>[.bool x]
 | .sl b t,x=>[.sl (if b then .inn else .imm) t x]
 | .pr a b,x=>bf a x.1++bf b x.2
def Yr:(t:Ty)->List AV->Option (aM t×List AV)
 | .int k,.int k' x::r=>if k'=k then some (x,r)else none
 | .bool,.bool x::r=>some (x,r)
 | .sl b t,.sl o t' xs::r=>
   if h:t'=t then
    (match b,o with
     |true,.nm _|true,.nl|true,.inn=>some (h▸xs,r)
     |false,.imm|false,.nl|false,.nm _=>some (h▸xs,r)
     |_,_=>none)
   else none
 | .pr a b,cs=>
   match Yr a cs with
   |some (x,r)=>match Yr b r with
    |some (y,r')=>some ((x,y),r')
    |none=>none
   |none=>none
 |_,_=>none
def Qk {α:Type}:List α->Nat->List α->List α
 |l,_,[]=>l
 |[],_,_=>[]
 |_::l,0,c::cs=>c::Qk l 0 cs
 |x::l,j+1,cs=>x::Qk l j cs
def Yx:AV->AV
 | .sl (.nm _) t xs=> .sl .imm t xs
 | .dp _ t xs none=> .sl .imm (.sl false t) xs
 | .dp _ _ _ (some _)=> .dead
 | .wn _ _ _=> .dead
 | .dq _ t xs none=> .sl .imm t xs
 | .dq _ _ _ (some _)=> .dead
 | .fd _ _ _ _=> .dead
 | .mm _ _ _ _=> .dead
 |v=>v
def freeze:AV->AV
 | .sl (.nm _) t xs=> .sl .imm t xs
 | .dp _ t xs none=> .sl .imm (.sl false t) xs
 | .dp _ _ _ (some _)=> .dead
 | .wn _ _ _=> .dead
 | .dq _ t xs none=> .sl .imm t xs
 | .dq _ _ _ (some _)=> .dead
 | .fd _ _ _ _=> .dead
 | .mm _ _ _ _=> .dead
 | .agg cells=> .agg (cells.map Yx)
 |v=>v
def Jv:Value->AV
 | .bool b=> .bool b
 | .int k n=> .int k n
 | .agg _=> .dead
 | .tuple _=> .dead
 |v=> .lit v
def rd:Operand->M AV
 | .tmp t=>do let a<-fm t 1;pZ a
 | .const v=>pure (Jv v)
 | .func f=>pure (.lit (.func (.func f) #[] #[]))
 | .global _=> .fail
def H1 (a:AV):Bool:= !(ab a).isEmpty
def rdT:Operand->M AV
 | .tmp t=>do
   let a<-bT t
   match a with
   | .dead=> .fail
   | .tup vs=>do dP t .dead;pure (.tup vs)
   |a=>if H1 a then do dP t .dead;pure a else pure a
 |x=>rd x
def rdF:Operand->M AV
 | .tmp t=>do
   let a<-bT t
   match a with
   | .dead| .tup _| .bx _ _| .dp _ _ _ (some _)| .dq _ _ _ (some _)| .wn _ _ _| .fd _ _ _ _| .mm _ _ _ _=> .fail
   |a=>if H1 a then do dP t (freeze a);pure (freeze a)else pure a
 |x=>rd x
def Kn (n:Nat):AV->Bool
 | .sl (.nm m) _ _=>Nat.beq m n
 |_=>false
def nR (n:Nat):List AV->Nat->Option Nat
 |[],_=>none
 |c::cs,k=>match Kn n c with
  |true=>some k
  |false=>nR n cs (k+1)
def Q4 (j:Nat):AV->Option AV
 | .bx (.nm m) cells=>some (.bx (.nm m) (cells.set j .dead))
 |_=>none
def q8v {s j:Nat} (a b:AV) (h:Q4 j a=some b): ∀i,i∉[0,j+2]->cr s i b=cr s i a:=by
 intro i hi;simp only[zT,zZ,or_false,not_or]at hi;unfold Q4 at h;split at h
 . cases h
   match i,hi with
   |0,hi=>exact absurd rfl hi.1
   |1,_=>rfl
   |k+2,hi=>
    simp only[cr,df]
    grind
 . cases h
def Ra (i:Nat):AV->Option AV
 | .tup vs=>some (.tup (vs.set i .dead))
 |_=>none
def q8u {s j:Nat} (a b:AV) (h:Ra j a=some b): ∀i,i∉[0,j+2]->cr s i b=cr s i a:=by
 intro i hi;simp only[zT,zZ,or_false,not_or]at hi;unfold Ra at h;split at h
 . cases h
   match i,hi with
   |0,hi=>exact absurd rfl hi.1
   |1,_=>rfl
   |k+2,hi=>
    simp only[cr,df]
    grind
 . cases h
def claim:Operand->M AV
 | .tmp t=>do
   let a<-fm t 1
   match a with
   |some (.ref s n _ none)=>do
    let b<-bT s
    match b with
    | .sl (.nm m) ty xs=>if m=n then do dP s .dead;pure (.sl (.nm m) ty xs)else .fail
    | .bx (.nm _) cells=>match nR n cells 0 with
      |some j=>do
       iA s [0,j+2] (Q4 j) q8v
       pure (cells.getD j .dead)
      |none=> .fail
    |_=> .fail
   |_=> .fail
 |_=> .fail
def rdC (mode:Nat) (x:Operand):M AV:=
 match mode with
 |3=>claim x
 |_=>rdT x
def rdm (mode:Nat) (x:Operand):M AV:=
 match mode with
 |0=>rd x
 |1=>rdT x
 |3=>claim x
 |_=>rdF x
def rdQ (mode:Nat) (x:Operand):M AV:=
 match mode with
 |2=>rdF x
 |_=>rdT x
def ju:AV->AV
 | .sl .nl t xs=> .sl .imm t xs
 |v=>v
def te:AV->AV
 | .sl .nl (.sl _ t) xs=> .sl .nl (.sl true t) xs
 |v=>v
def nlI (mode:Nat) (v:AV):AV:=
 match mode with
 |6=>(match v with
  | .agg cells=> .agg (cells.map te)
  |v=>v)
 |2=>(match v with
  | .agg cells=> .agg (cells.map ju)
  |v=>ju v)
 |_=>v
def Zn (T:TT) (ty:Nat):AV->AV
 | .lit (.slice none 0 0)=>match T.at ty with
   |some {desc:= .slice _ t,.. }=> .sl .nl t []
   |_=> .lit (.slice none 0 0)
 |v=>v
def ae (idx k:Nat):Nat:=100+idx*16+k
def uJ (n:Nat):(t:Ty)->List (aM t)->AV
 | .sl true t,xs=> .dp n t xs none
 |t,xs=> .sl (.nm n) t xs
def X0 (n:Nat):AV->Option AV
 | .bool b=>some (.bool b)
 | .int k x=>some (.int k x)
 | .lit v=>some (.lit v)
 | .sl .imm t xs=>some (.sl .imm t xs)
 | .sl (.nm m) t xs=>some (.sl (.nm m) t xs)
 | .sl .nl t xs=>some (uJ n t xs)
 | .dp m t xs none=>some (.dp m t xs none)
 | .mm m t xs false=>some (.mm m t xs false)
 |_=>none
def Yk (idx:Nat):Nat->List AV->Option (List AV)
 |_,[]=>some []
 |k,c::cs=>if k<15 then
   match X0 (ae idx k) c,Yk idx (k+1) cs with
   |some c',some cs'=>some (c'::cs')
   |_,_=>none
  else none
def cellsOf:AV->List AV
 | .agg cs=>cs
 |v=>[v]
def Iw (n:Nat):ZC->Option AV
 | .int k=>some (.int k 0)
 | .bool=>some (.bool false)
 | .nil t=>some (.sl (.nm n) t [])
 | .other=>none
def qm3:ZC->Option AV
 | .int k=>some (.int k 0)
 | .bool=>some (.bool false)
 | .nil t=>some (.sl .nl t [])
 | .other=>none
def Q8:TD->Bool
 | .struct _| .array _ _| .tab _ _ _=>true
 |_=>false
def jL (agg:Bool) (cs:List AV):Option AV:=
 if agg then some (.agg cs)else match cs with
  |[c]=>some c
  |_=>none
def fq (n:Nat):AV->Option (Sigma λt:Ty=>List (aM t))
 | .sl (.nm m) t xs=>if m=n then some ⟨t,xs⟩else none
 | .wn m t xs=>if m=n then some ⟨t,xs⟩else none
 |_=>none
def jJ (n:Nat):List AV->Option (Sigma λt:Ty=>List (aM t))
 |[]=>none
 |c::cs=>match fq n c with
  |some x=>some x
  |none=>jJ n cs
def gv (n:Nat):AV->Option (Sigma λt:Ty=>List (aM t))
 | .bx _ cells=>jJ n cells
 | .agg cells=>jJ n cells
 |v=>fq n v
def dw (n:Nat) (f:(t:Ty)->List (aM t)->Option (List (aM t))):AV->Option AV
 | .sl (.nm m) t xs=>if m=n then(match f t xs with|some ys=>some (.sl (.nm m) t ys)|none=>none)else some (.sl (.nm m) t xs)
 | .dp m t xs h=>if m=n then none else some (.dp m t xs h)
 | .dq m t xs h=>if m=n then none else some (.dq m t xs h)
 | .fd m t xs h=>if m=n then none else some (.fd m t xs h)
 | .mm m t xs o=>if m=n then none else some (.mm m t xs o)
 | .wn m t xs=>if m=n then(match f t xs with|some ys=>some (.wn m t ys)|none=>none)else some (.wn m t xs)
 |v=>some v
def mg (n:Nat) (f:(t:Ty)->List (aM t)->Option (List (aM t))):List AV->Option (List AV)
 |[]=>some []
 |c::cs=>match dw n f c,mg n f cs with
  |some c',some cs'=>some (c'::cs')
  |_,_=>none
def d8 (n:Nat) (f:(t:Ty)->List (aM t)->Option (List (aM t))):AV->Option AV
 | .bx o cells=>match mg n f cells with|some cs=>some (.bx o cs)|none=>none
 | .agg cells=>match mg n f cells with|some cs=>some (.agg cs)|none=>none
 |v=>dw n f v
def window {α:Type} (xs:List α):Option (Nat×Nat)->List α
 |none=>xs
 |some (off,len)=>(xs.drop off).take len
def Jh:Option (Nat×Nat)->Nat
 |none=>0
 |some (o,_)=>o
def nodeOf (s n sz:Nat):M (Sigma λt:Ty=>List (aM t)):=do
 let a<-bT s
 match gv n a with
 |some ⟨t,xs⟩=>if sz=t.size then pure ⟨t,xs⟩else .fail
 |none=> .fail
def shown:AV->M (Sigma λt:Ty=>List (aM t))
 | .sl .imm t xs=>pure ⟨t,xs⟩
 | .sl .nl t xs=>pure ⟨t,xs⟩
 | .sl (.nm _) t xs=>pure ⟨t,xs⟩
 | .ref s n sz win=>do
   let x<-nodeOf s n sz
   pure ⟨x.1,window x.2 win⟩
 |_=> .fail
def eU:AV->AV
 | .sl _ t xs=> .sl .imm t xs
 |v=>v
def M.ofOpt {α β:Type} (x:Option α) (f:α->M β):M β:=match x with
 |some a=>f a
 |none=> .fail
def xi (op:BinOp) (k:IntKind) (x y:Int):Option Int:=
 match op with
 | .and=>some (k.wrap (BitVec.ofInt k.bits x&&&BitVec.ofInt k.bits y).toNat)
 | .or=>some (k.wrap (BitVec.ofInt k.bits x|||BitVec.ofInt k.bits y).toNat)
 | .xor=>some (k.wrap (BitVec.ofInt k.bits x^^^BitVec.ofInt k.bits y).toNat)
 | .andNot=>some (k.wrap (BitVec.ofInt k.bits x&&& ~~~(BitVec.ofInt k.bits y)).toNat)
 |_=>none
def PX (op:BinOp) (k:IntKind) (x y:Int):M AV:=
 match op with
 | .add=>pure (.int k (k.wrap (x+y)))
 | .sub=>pure (.int k (k.wrap (x-y)))
 | .mul=>pure (.int k (k.wrap (x*y)))
 | .quo=>do cH (y≠0);pure (.int k (k.wrap (x.tdiv y)))
 | .rem=>do cH (y≠0);pure (.int k (x.tmod y))
 | .eql=>pure (.bool (x==y))
 | .neq=>pure (.bool (x !=y))
 | .lss=>pure (.bool (x<y))
 | .leq=>pure (.bool (x<=y))
 | .gtr=>pure (.bool (x>y))
 | .geq=>pure (.bool (x>=y))
 |op=>match xi op k x y with
  |some r=>pure (.int k r)
  |none=> .fail
def H2:List AV->List AV->Option Bool
 |[],[]=>some true
 | .int k a::xs,.int k' b::ys=>if k=k' then(match H2 xs ys with
   |some r=>some ((a==b)&&r)
   |none=>none)else none
 |_,_=>none
def Td:ZC->Bool
 | .int _=>true
 |_=>false
def Hw (ti:TI):Bool:=ti.cells.all Td&&(match ti.desc with
 | .struct fs=>decide (fs.length=ti.cells.length)
 |_=>false)
def xj (T:TT) (op:BinOp) (ty:Nat) (x y:AV):M AV:=
 match x,y with
 | .int k a,.int k' b=>
   match op with
   | .shl=>do cH (0<=b);pure (.int k (k.wrap (a*2^(min b.toNat k.bits))))
   | .shr=>do cH (0<=b);pure (.int k (a.fdiv (2^(min b.toNat k.bits))))
   |op=>if k=k' then PX op k a b else .fail
 | .bool a,.bool b=>
   match T.at ty with
   |some {desc:= .bool,.. }=>
    match op with
    | .eql=>pure (.bool (a==b))
    | .neq=>pure (.bool (!(a==b)))
    |_=> .fail
   |_=> .fail
 | .agg xs,.agg ys=>
   match T.at ty with
   |some ti=>if Hw ti=true/\xs.length=ti.cells.length then
     match H2 xs ys with
     |some r=>(match op with
      | .eql=>pure (.bool r)
      | .neq=>pure (.bool (!r))
      |_=> .fail)
     |none=> .fail
    else .fail
   |none=> .fail
 |_,_=> .fail
def FH (op:UnOp) (x:AV):M AV:=
 match op,x with
 | .neg,.int k n=>pure (.int k (k.wrap (0-n)))
 | .xor,.int k n=>pure (.int k (k.wrap (BitVec.ofInt k.bits (if k.signed then-1 else k.max)^^^BitVec.ofInt k.bits n).toNat))
 | .not,.bool b=>pure (.bool !b)
 |_,_=> .fail
def P5 (T:TT) (src dst:Nat) (x:AV):M AV:=
 match T.at src,T.at dst,x with
 |some _,some {desc:= .int k,.. },.int _ n=>pure (.int k (k.wrap n))
 |_,_,_=> .fail
def uQ (T:TT) (ty:Nat) (x:AV):M AV:=
 match T.at ty with
 |some {desc:= .slice _ _,.. }=>do
  let y<-shown x
  pure (.int .i64 y.2.length)
 |_=> .fail
def PS (T:TT) (idx ty:Nat) (l c:AV):M AV:=
 match T.at ty,l,c with
 |some {desc:= .slice _ t,.. },.int .i64 l,.int .i64 c=>do
  cH (0<=l/\l<=c/\c<=1073741824)
  pure (.sl (.nm (ae idx 15)) t (List.replicate l.toNat t.zero))
 |_,_,_=> .fail
def RA (T:TT) (idx:Nat) (tys:Array TypeId) (x y:AV):M AV:=
 match tys[0]?,tys[1]? with
 |some t0,some t1=>
  match T.at t0,T.at t1 with
  |some {desc:= .slice _ et,.. },some {desc:= .slice _ _,.. }=>do
   let y<-shown y
   match x with
   | .sl (.nm _) t xs=>
     if h:y.1=t/\et.size=t.size then do
      cH (xs.length+y.2.length<=1073741824)
      pure (.sl (.nm (ae idx 15)) t (xs++(h.1▸y.2)))
     else .fail
   | .sl .nl t _=>
     if h:y.1=t/\et.size=t.size then do
      cH (y.2.length<=1073741824)
      pure (.sl (.nm (ae idx 15)) t (h.1▸y.2))
     else .fail
   |_=> .fail
  |_,_=> .fail
 |_,_=> .fail
def Sf (T:TT) (idx:Nat) (tys:Array TypeId) (x y:AV):M AV:=
 match tys[0]?,tys[1]? with
 |some t0,some t1=>
  match T.at t0,T.at t1 with
  |some {desc:= .slice _ et,.. },some {desc:= .slice _ _,.. }=>do
   let y<-shown y
   match x with
   | .ref s n sz (some (off,len))=>do
     let a<-bT s
     match a with
     | .sl (.nm m) t xs=>
       if h:y.1=t/\et.size=t.size/\m=n/\sz=t.size then do
        cH (off=0/\len<=xs.length/\0<xs.length/\len+y.2.length<=1073741824)
        dP s .dead
        pure (.sl (.nm (ae idx 15)) t (xs.take len++(h.1▸y.2)))
       else .fail
     |_=> .fail
   |_=> .fail
  |_,_=> .fail
 |_,_=> .fail
def P4 (T:TT) (idx:Nat) (tys:Array TypeId) (x y:AV):M AV:=
 match tys[0]? with
 |some t0=>
  match T.at t0 with
  |some {desc:= .slice _ et,.. }=>do
   let y<-shown y
   match x with
   | .ref s n sz none=>do
     let a<-bT s
     match a with
     | .sl (.nm m) t xs=>
       if h:y.1=t/\et.size=t.size/\m=n then do
        cH (0<y.2.length/\0<xs.length)
        dP s (.sl (.nm (ae idx 15)) t ((h.1▸y.2:List (aM t)).take xs.length++xs.drop y.2.length))
        pure (.int .i64 (min y.2.length xs.length:Nat))
       else .fail
     |_=> .fail
   |_=> .fail
  |_=> .fail
 |_=> .fail
def qve (dflt:Int):Option AV->Option Int
 |none=>some dflt
 |some (.int .i64 n)=>some n
 |some _=>none
def Oc {α:Type} (xs:List α) (lo hi:Option Int):List α:=
 match lo,hi with
 |none,none=>xs
 |some l,none=>xs.drop l.toNat
 |none,some h=>xs.take h.toNat
 |some l,some h=>(xs.drop l.toNat).take (h.toNat-l.toNat)
def qa :Option AV->Option (Option Int)
 |none=>some none
 |some (.int .i64 n)=>some (some n)
 |some _=>none
def QL (T:TT) (idx ty:Nat) (x:AV) (lo hi:Option AV):M AV:=
 match T.at ty,qa lo,qa hi with
 |some {desc:= .slice _ et,.. },some lo,some hi=>
  match x with
  | .sl .imm t xs=>if et.size=t.size then do
     cH (0<=lo.getD 0/\lo.getD 0<=hi.getD xs.length/\hi.getD xs.length<=xs.length)
     pure (.sl .imm t (Oc xs lo hi))
    else .fail
  | .sl (.nm _) t xs=>if et.size=t.size then do
     cH (0<=lo.getD 0/\lo.getD 0<=hi.getD xs.length/\hi.getD xs.length<=xs.length)
     pure (.sl (.nm (ae idx 15)) t (Oc xs lo hi))
    else .fail
  | .ref s n sz win=>if et.size=sz then do
     let x<-nodeOf s n sz
     cH (0<=lo.getD 0/\lo.getD 0<=hi.getD (window x.2 win).length/\hi.getD (window x.2 win).length<=(window x.2 win).length)
     pure (.ref s n sz (some (Jh win+(lo.getD 0).toNat,(hi.getD ((window x.2 win).length:Int)).toNat-(lo.getD 0).toNat)))
    else .fail
  |_=> .fail
 |_,_,_=> .fail
def Sx (T:TT) (ty:Nat) (x i:AV):M AV:=
 match T.at ty,i with
 |some {desc:= .slice _ et,.. },.int _ i=>
  match x with
  | .sl .imm t xs=>if et.size=t.size then do
     cH (0<=i/\i<xs.length)
     pure (.iptr none t xs i.toNat 0)
    else .fail
  | .ref s n sz win=>if et.size=sz then do
     let x<-nodeOf s n sz
     cH (0<=i/\i<(window x.2 win).length)
     pure (.ptr s n sz (Jh win+i.toNat) 0)
    else .fail
  |_=> .fail
 |_,_=> .fail
def uc (T:TT) (t g:Nat) (i:AV):M AV:=
 match T.at t,i with
 |some {desc:= .tab g' k xs,.. },.int _ i=>
  if g'=g then do
   cH (0<=i/\i<xs.length)
   pure (.iptr none (.int k) xs i.toNat 0)
  else .fail
 |_,_=> .fail
def fi (s:ByteArray):LI:=s.data.toList.map λb=>(b.toNat:Int)
def QM (T:TT) (t:Nat) (x i:AV):M AV:=
 match T.at t,x,i with
 |some {desc:= .string,.. },.lit (.string s),.int _ i=>do
  cH (0<=i/\i<(fi s).length)
  pure (.int .u8 ((fi s).getD i.toNat 0))
 |_,_,_=> .fail
def SA (T:TT) (ty:Nat) (x:AV) (f:Nat):M AV:=
 match T.at ty with
 |some {desc:= .struct fs,.. }=>
  match fs[f]? with
  |some (off,fsz)=>
   if fsz=0 then .fail else
   match x with
   | .ptr s n sz i j=>pure (.ptr s n sz i (j+off))
   | .iptr none t xs i j=>pure (.iptr none t xs i (j+off))
   | .dr s n (.elem sz i j k)=>pure (.dr s n (.elem sz i j (k+off)))
   |_=> .fail
  |none=> .fail
 |_=> .fail
def dj (size:Nat) (agg:Bool) (cells:List AV) (off:Nat):Option AV:=
 if off+size<=cells.length then jL agg ((cells.drop off).take size)else none
def isG:ZC->Bool
 | .nil (.pr .bool (.pr .bool .bool))=>true
 |_=>false
def yd (zs:List ZC) (off:Nat):Bool:=match zs[off]? with
 |some z=> !isG z
 |none=>false
def QC (T:TT) (ty:Nat) (x:AV) (f:Nat):M AV:=
 match T.at ty,x with
 |some {desc:= .struct fs,cells:=zs},.agg cells=>
  match fs[f]? with
  |some (off,fsz)=>
   if fsz=1/\yd zs off=true then
    match cells[off]? with
    |some (.int k v)=>pure (.int k v)
    |some (.bool b)=>pure (.bool b)
    |some (.sl .imm t xs)=>pure (.sl .imm t xs)
    |_=> .fail
   else .fail
  |none=> .fail
 |_,_=> .fail
def Xw (cells:List AV) (j size:Nat):List AV:=Qk cells j (List.replicate size .dead)
def FV (size:Nat) (agg:Bool) (n sz i j:Nat) (a:AV):Option AV:=
 match gv n a with
 |some ⟨t,xs⟩=>if sz=t.size then dj size agg ((bf t (xs.getD i t.zero)).map eU) j else none
 |none=>none
def Jm (size:Nat) (agg:Bool) (mode s n sz i j:Nat) (a:AV):Option (AV×Option AV):=
 match a with
 | .bx (.nm m) cells=>
   if m=n then
    if mode=1 then(dj size agg cells j).map λv=>(v,some (.bx (.nm m) (Xw cells j size)))
    else(dj size agg (cells.map (Qv s)) j).map λv=>(v,none)
   else(FV size agg n sz i j (.bx (.nm m) cells)).map λv=>(v,none)
 |a=>(FV size agg n sz i j a).map λv=>(v,none)
def r9:Option AV->Option Nat
 |some (.ptr _ m _ _ _)=>some m
 |_=>none
def RH (s:Nat):Nat->Nat->M (List AV)
 |_,0=>pure []
 |j,n+1=>do
  let c<-fm s (j+2)
  match c with
  |some c=>do
   let cs<-RH s (j+1) n
   pure (c::cs)
  |none=> .fail
def OF (mode:Nat) (ti:TI) (s n sz i j:Nat):M AV:=do
 let a<-bT s
 match Jm ti.cells.length (Q8 ti.desc) mode s n sz i j a with
 |some (v,none)=>pure v
 |some (v,some a')=>do dP s a';pure v
 |none=> .fail
def NT (T:TT) (mode ty:Nat) (p:AV):M AV:=
 match T.at ty with
 |none=> .fail
 |some ti=>
  match p with
  | .iptr none t xs i j=>pZ (dj ti.cells.length (Q8 ti.desc) ((bf t (xs.getD i t.zero)).map eU) j)
  | .ptr s n sz i j=>
    match mode with
    |1=>OF 1 ti s n sz i j
    |mode=>do
     let al<-fm s 1
     match r9 al with
     |some m=>
      if m=n/\0<ti.cells.length then do
       let cs<-RH s j ti.cells.length
       pZ (jL (Q8 ti.desc) cs)
      else OF mode ti s n sz i j
     |none=>OF mode ti s n sz i j
  |_=> .fail
def rZ (p:AV):M Unit:=
 match p with
 | .ptr s n _ _ _=>do
   let a<-bT s
   match a with
   | .bx (.nm m) cells=>if m=n then dP s (.bx (.nm m) (cells.map Yx))else .fail
   |_=> .fail
 |_=> .fail
def Zb (t:Ty) (x:aM t) (j:Nat) (cs:List AV):Option (aM t):=
 if j+cs.length<=t.size then
  match Yr t (Qk (bf t x) j cs)with
  |some (y,[])=>some y
  |_=>none
 else none
def bC:AV->Bool
 | .bool _| .int _ _| .sl .imm _ _| .sl .nl _ _=>true
 |_=>false
def Z5 (n sz i j:Nat) (cs:List AV) (a:AV):Option AV:=
 if cs.all bC&&(gv n a).isSome then d8 n (λt xs=>if sz=t.size then(Zb t (xs.getD i t.zero) j cs).map (xs.set i)else none) a else none
def Ib (idx n sz i j:Nat) (cs:List AV) (a:AV):Option AV:=
 match a with
 | .bx (.nm m) cells=>
   if m=n then
    match Yk idx 0 cs with
    |some cs'=>if j+cs.length<=cells.length then some (.bx (.nm m) (Qk cells j cs'))else none
    |none=>none
   else Z5 n sz i j cs (.bx (.nm m) cells)
 |a=>Z5 n sz i j cs a
def qkq {n s:Nat} {f:(t:Ty)->List (aM t)->Option (List (aM t))} {c c':AV} (h:dw n f c=some c'):Qv s c'=Qv s c:=by
 unfold dw at h;split at h
 . rename_i m t xs;split at h
   . split at h
     . cases h;rfl
     . cases h
   . cases h;rfl
 . grind
 . grind
 . grind
 . grind
 . split at h
   . split at h
     . cases h;rfl
     . cases h
   . cases h;rfl
 . cases h;rfl
def Sk {n s:Nat} {f:(t:Ty)->List (aM t)->Option (List (aM t))}: ∀{cs cs':List AV},mg n f cs=some cs'->cs'.map (Qv s)=cs.map (Qv s)
 |[],cs',h=>by cases h;rfl
 |c::cs,cs',h=>by
  unfold mg at h;split at h
  . rename_i d ds h1 h2;cases h;simp only[nV,qkq h1,Sk h2]
  . cases h
def qa8 {n s:Nat} {f:(t:Ty)->List (aM t)->Option (List (aM t))} {a b:AV} (h:d8 n f a=some b): ∀j,j∉[0]->cr s j b=cr s j a:=by
 intro j hj
 match j,hj with
 |0,hj=>grind
 |1,_=>
  show cY s b=cY s a
  unfold d8 at h;split at h
  . rename_i o cells;split at h
    . cases h
      cases o<;>rfl
    . cases h
  . split at h
    . rename_i hcs;cases h;show some (AV.agg _)=some (AV.agg _);rw[Sk hcs]
    . cases h
  . unfold dw at h;split at h
    . split at h
      . split at h
        . cases h;rfl
        . cases h
      . cases h;rfl
    . grind
    . grind
    . grind
    . grind
    . split at h
      . split at h
        . cases h;rfl
        . cases h
      . cases h;rfl
    . cases h;rfl
 |j+2,_=>
  simp only[cr];split
  . unfold d8 at h;split at h
    . rename_i o cells;split at h
      . rename_i hcs;cases h;cases o with
        |nm m=>
         have:=congrArg (λl=>l[j]?) (Sk (s:=s) hcs)
         simpa only[df,List.getElem?_map]using this
        |_=>rfl
      . cases h
    . split at h
      . cases h;rfl
      . cases h
    . unfold dw at h;split at h
      . split at h
        . split at h
          . cases h;rfl
          . cases h
        . cases h;rfl
      . grind
      . grind
      . grind
      . grind
      . split at h
        . split at h
          . cases h;rfl
          . cases h
        . cases h;rfl
      . cases h;rfl
  . rfl
def q1f {n sz i j s:Nat} {cs:List AV} (a b:AV) (h:Z5 n sz i j cs a=some b): ∀k,k∉[0]->cr s k b=cr s k a:=by
 unfold Z5 at h;split at h
 . exact qa8 h
 . cases h
def JM (idx n j:Nat) (cs:List AV) (a:AV):Option AV:=
 match a with
 | .bx (.nm m) cells=>
   if m=n then
    match Yk idx 0 cs with
    |some cs'=>if j+cs.length<=cells.length then some (.bx (.nm m) (Qk cells j cs'))else none
    |none=>none
   else none
 |_=>none
def q58 {idx:Nat}: ∀{k:Nat} {cs cs':List AV},Yk idx k cs=some cs'->cs'.length=cs.length
 |_,[],cs',h=>by cases h;rfl
 |k,c::cs,cs',h=>by
  unfold Yk at h;split at h
  . split at h
    . rename_i h1 h2;cases h;simp[q58 h2]
    . cases h
  . cases h
def SZ {α:Type}: ∀(l:List α) (j:Nat) (cs:List α) (i:Nat),(i<j\/j+cs.length<=i)->(Qk l j cs)[i]? =l[i]?
 |l,j,[],i,h=>by cases l<;>rfl
 |[],j,c::cs,i,h=>rfl
 |x::l,0,c::cs,0,h=>by simp at h
 |x::l,0,c::cs,i+1,h=>by
  simp only[Qk,List.getElem?_cons_succ];exact SZ l 0 cs i (.inr (by simp at h⊢;omega))
 |x::l,j+1,c::cs,0,h=>rfl
 |x::l,j+1,c::cs,i+1,h=>by
  simp only[Qk,List.getElem?_cons_succ];exact SZ l j (c::cs) i (by simp at h⊢;omega)
def oo:Nat->Nat->List Nat
 |_,0=>[]
 |j,n+1=>(j+2)::oo (j+1) n
def YP: ∀{j n i:Nat},j<=i->i<j+n->i+2∈oo j n
 |j,0,i,h1,h2=>O
 |j,n+1,i,h1,h2=>by
  simp only[oo,zT];rcases Nat.eq_or_lt_of_le h1 with rfl|h
  . exact .inl rfl
  . exact .inr (YP h O)
def q8r {idx n j s:Nat} {cs:List AV} (a b:AV) (h:JM idx n j cs a=some b): ∀k,k∉(0::oo j cs.length)->cr s k b=cr s k a:=by
 intro k hk;simp only[zT,not_or]at hk;unfold JM at h;split at h
 . split at h
   . split at h
     . rename_i cs' hcs;split at h
       . cases h
         match k,hk with
         |0,hk=>exact absurd rfl hk.1
         |1,_=>rfl
         |k+2,hk=>
          simp only[cr,df];split
          . rw[SZ];rcases zq k j with h1|h1
            . exact .inl h1
            . rcases zq k (j+cs.length)with h2|h2
              . exact absurd (YP h1 h2) hk.2
              . exact .inr (by rw[q58 hcs];exact h2)
          . rfl
       . cases h
     . cases h
   . cases h
 . cases h
def qak {idx n sz i j:Nat} {cs:List AV} {a b:AV} (h:JM idx n j cs a=some b):Ib idx n sz i j cs a=some b:=by
 unfold JM at h;split at h
 . unfold Ib
   grind
 . cases h
def q2i {idx n sz i j:Nat} {cs:List AV} {a b:AV} (h:Z5 n sz i j cs a=some b) (hn: ∀c,a≠ .bx (.nm n) c):Ib idx n sz i j cs a=some b:=by
 unfold Ib
 grind
def QA (T:TT) (idx ty:Nat) (p v:AV):M Unit:=
 match T.at ty with
 |none=> .fail
 |some ti=>
  if(cellsOf v).length≠ti.cells.length then .fail else
  match p with
  | .ptr s n sz i j=>do
    let al<-fm s 1
    match r9 al with
    |some m=>
     if m=n then iA s (0::oo j (cellsOf v).length) (JM idx n j (cellsOf v)) q8r
     else iA s [0] (Z5 n sz i j (cellsOf v)) q1f
    |none=>iA s [0] (Z5 n sz i j (cellsOf v)) q1f
  |_=> .fail
def xh (T:TT) (idx ty:Nat) (v:AV):M AV:=
 match T.at ty with
 |none=> .fail
 |some ti=>
  if(cellsOf v).length≠ti.cells.length then .fail else
  M.ofOpt (Yk idx 0 (cellsOf v)) λcs=>pure (.bx (.nm (ae idx 15)) cs)
def FM:List ZC->Option (List AV)
 |[]=>some []
 |c::cs=>match qm3 c,FM cs with
  |some v,some vs=>some (v::vs)
  |_,_=>none
def QZ (T:TT) (idx mode ty:Nat):M AV:=
 match T.at ty with
 |none=> .fail
 |some ti=>M.ofOpt (FM ti.cells) λzs=>M.ofOpt (Yk idx 0 (cellsOf (nlI mode (.agg zs)))) λcs=>pure (.bx (.nm (ae idx 15)) cs)
def Uv:AV->Bool
 | .dead| .tup _| .bx _ _| .wn _ _ _=>false
 |_=>true
def N5 (fs:List (Nat×Nat)) (cells:List AV):List (Nat×AV)->Option (List AV)
 |[]=>some cells
 |(f,v)::r=>
  match fs[f]? with
  |some (off,fsz)=>
   if(cellsOf v).length=fsz/\off+fsz<=cells.length/\Uv v=true then N5 fs (Qk cells off (cellsOf v)) r else none
  |none=>none
def rdParts (T:TT):List (Nat×Operand)->M (List (Nat×AV))
 |[]=>pure []
 |(f,x)::r=>do
  let v<-rdT x
  let vs<-rdParts T r
  pure ((f,v)::vs)
def QS (T:TT) (ty:Nat) (parts:List (Nat×AV)):M AV:=
 match T.at ty with
 |some {desc:= .struct fs,cells}=>
  M.ofOpt (FM cells) λzs=>M.ofOpt (N5 fs zs parts) λcs=>pure (.agg cs)
 |_=> .fail
def OA (t:Ty) (xs:List (aM t)):List (Nat×AV)->Option (List (aM t))
 |[]=>some xs
 |(i,v)::r=>
  if i<xs.length/\(cellsOf v).length=t.size/\(cellsOf v).all bC then
   match Yr t (cellsOf v)with
   |some (y,[])=>OA t (xs.set i y) r
   |_=>none
  else none
def SO (T:TT) (idx ty len:Nat) (parts:List (Nat×AV)):M AV:=
 match T.at ty with
 |some {desc:= .slice _ t,.. }=>
  if len*t.size<=65536 then
   M.ofOpt (OA t (List.replicate len t.zero) parts) λxs=>pure (.sl (.nm (ae idx 15)) t xs)
  else .fail
 |_=> .fail
def So:AV->M AV
 | .ptr s n sz i j=>pure (.ptr s n sz i j)
 | .iptr g t xs i j=>pure (.iptr g t xs i j)
 | .lit (.func (.func f) as bs)=>pure (.lit (.func (.func f) as bs))
 |_=> .fail
def Rn (x:Operand) (i:Nat):M AV:=
 match x with
 | .tmp t=>do
   let al<-fm t 1
   match al with
   |some _=> .fail
   |none=>do
    let c<-fm t (i+2)
    match c with
    |some v=>
     if H1 v then do
      iA t [0,i+2] (Ra i) q8u
      pure v
     else pure v
    |none=> .fail
 |_=> .fail
def du (f:Nat->Nat):AV->AV
 | .dp n t xs h=> .dp (f n) t xs h
 | .sl (.nm n) t xs=> .sl (.nm (f n)) t xs
 | .wn n t xs=> .wn (f n) t xs
 | .dq n t xs h=> .dq (f n) t xs h
 | .fd n t xs h=> .fd (f n) t xs h
 | .mm n t xs o=> .mm (f n) t xs o
 |v=>v
def renO (f:Nat->Nat):M2->M2
 | .nm n=> .nm (f n)
 |o=>o
def fv (f:Nat->Nat):AV->AV
 | .bx o cells=> .bx (renO f o) (cells.map (du f))
 | .agg cells=> .agg (cells.map (du f))
 |v=>du f v
def ren (f:Nat->Nat):AV->AV
 | .tup vs=> .tup (vs.map (fv f))
 |v=>fv f v
def aT:List Nat->Nat->Nat
 |[],_=>0
 |m::ms,n=>if m=n then 0 else aT ms n+1
def su:AV->AV
 | .fd n t xs h=> .dp n t xs h
 |v=>v
def sE (c d:AV):AV:=match c,d with
 | .fd _ _ _ _,.dp n t xs h=> .fd n t xs h
 |_,d=>d
def qk0 {s:Nat} {c:AV}:Qv s (su c)=Qv s c:=by cases c<;>rfl
def qld {s:Nat} {c d:AV}:Qv s (sE c d)=Qv s d:=by
 unfold sE;split<;>rfl
def Tc (n:Nat):AV->Bool
 | .dp m _ _ _=>Nat.beq m n
 | .fd m _ _ _=>Nat.beq m n
 |_=>false
def N6 (n:Nat):List AV->Nat->Option Nat
 |[],_=>none
 |c::cs,k=>match Tc n c with
  |true=>some k
  |false=>N6 n cs (k+1)
def fz (n:Nat):AV->Option (AV×Option Nat)
 | .dp m t xs h=>if m=n then some (.dp m t xs h,none)else none
 | .bx (.nm _) cells=>match N6 n cells 0 with
   |some j=>some (su (cells.getD j .dead),some j)
   |none=>none
 |_=>none
def VX (h:Option Nat) (i:Nat):M Unit:=match h with
 |some k=>cH (k=i)
 |none=>pure ()
def FL (h:Option Nat) (i:Nat):M Unit:=match h with
 |some k=>cH (k≠i)
 |none=>pure ()
def uy (s n:Nat):M AV:=do
 let a<-bT s
 match fz n a with
 |some (.dp _ t xs none,_)=>pure (.sl .imm (.sl false t) xs)
 |_=> .fail
def passC (c:AV):M AV:=
 match c with
 | .bool b=>pure (.bool b)
 | .int k x=>pure (.int k x)
 | .lit v=>pure (.lit v)
 | .sl .imm t xs=>pure (.sl .imm t xs)
 | .sl .nl t xs=>pure (.sl .imm t xs)
 | .ref s n sz win=>do
   let y<-shown (.ref s n sz win)
   pure (.sl .imm y.1 y.2)
 | .dr s n (.row i)=>do
   let a<-bT s
   match fz n a with
   |some (.dp _ t xs h,_)=>do
     FL h i
     pure (.sl .imm t (xs.getD i []))
   |_=> .fail
 | .dr s n .whole=>uy s n
 | .dr s n (.lenw _)=>uy s n
 | .iptr g t xs i j=>pure (.iptr g t xs i j)
 |_=> .fail
def passL:List AV->M (List AV)
 |[]=>pure []
 |c::cs=>do
  let c'<-passC c
  let cs'<-passL cs
  pure (c'::cs')
def Xv:AV->Bool
 | .ref _ _ _ _=>false
 | .dr _ _ _=>false
 | .ptr _ _ _ _ _=>false
 | .wn _ _ _=>false
 | .fd _ _ _ _=>false
 |_=>true
def Cp:AV->Bool
 | .bx _ cells=>cells.all Xv
 | .agg cells=>cells.all Xv
 |v=>Xv v
def bK:AV->Bool
 | .tup vs=>vs.all Cp
 |v=>Cp v
def fH:AV->Bool
 | .wn _ _ _=>true
 | .bx (.nm _) (.fd _ _ _ _::cells)=>cells.all Xv
 |_=>false
def eh (v:AV):Bool:=bK v||fH v
def rdP:Operand->M AV
 | .tmp t=>do
   let a<-bT t
   match a with
   | .bx (.nm n) _=>pure (.ptr t n 1 0 0)
   |_=>rdF (.tmp t)
 |x=>rdF x
def ix:AV->List Nat
 | .ref _ n _ _=>[n]
 | .dr _ n _=>[n]
 |_=>[]
def passA (ty:Nat) (T:TT) (x:Operand):M (AV×Option Nat×List Nat):=do
 let v<-rdP x
 match Zn T ty v with
 | .agg cells=>do
   let cs<-passL cells
   pure (.agg cs,none,cells.flatMap ix)
 | .ptr s n _ 0 0=>do
   let a<-bT s
   match a with
   | .bx (.nm m) cells=>
     if m=n/\bK a=true/\(ab a).length<=16 then pure (ren (aT (ab a)) (.bx (.nm m) cells),some s,[])else .fail
   |_=> .fail
 |v=>do
  let c<-passC v
  pure (c,none,ix v)
def Jj:AV->Option Nat
 | .bx (.nm m) _=>some m
 | .sl (.nm m) _ _=>some m
 | .dp m _ _ none=>some m
 |_=>none
def lendA (x:Operand):M (AV×Option Nat×List Nat):=do
 let v<-rd x
 match v with
 | .ref s n _ none=>do
   let a<-bT s
   match a with
   | .sl (.nm m) t xs=>if m=n then pure (ren (aT (ab (.sl (.nm m) t xs))) (.sl (.nm m) t xs),some s,[])else .fail
   |_=> .fail
 | .dr s n .whole=>do
   let a<-bT s
   match a with
   | .dp m t xs none=>if m=n then pure (ren (aT (ab (.dp m t xs none))) (.dp m t xs none),some s,[])else .fail
   |_=> .fail
 |_=> .fail
def passN (ty:Nat) (T:TT) (x:Operand):M (AV×Option Nat×List Nat):=do
 let v<-rd x
 match Zn T ty v with
 | .sl .nl t xs=>pure (.sl .nl t xs,none,[])
 |_=> .fail
def passX (T:TT) (k ty:Nat) (x:Operand):M (AV×Option Nat×List Nat):=
 if Nat.beq k 101 then passN ty T x else
 match k with
 |1=>lendA x
 |_=>passA ty T x
def passAll (T:TT):Nat->List Operand->List TypeId->M (List (AV×Option Nat×List Nat))
 |k,x::xs,ty::tys=>do
  let a<-passX T k ty x
  let as<-passAll T (k-1) xs tys
  pure (a::as)
 |_,[],_=>pure []
 |_,_,[]=> .fail
def Xa:Ty->Bool
 | .int _=>false
 | .bool=>false
 | .sl _ _=>true
 | .pr a b=>Xa a||Xa b
def Je:AV->Bool
 | .sl .imm _ _=>true
 | .sl _ t _=>Xa t
 | .iptr _ _ _ _ _=>true
 | .dp _ t _ _=>Xa t
 | .fd _ t _ _=>Xa t
 | .mm _ t _ _=>Xa t
 | .wn _ t _=>Xa t
 | .dq _ _ _ _=>true
 |_=>false
def Qp:AV->Bool
 | .bx _ cells=>cells.any Je
 | .agg cells=>cells.any Je
 | .tup vs=>vs.any λv=>match v with
   | .bx _ cells=>cells.any Je
   | .agg cells=>cells.any Je
   |v=>Je v
 |v=>Je v
def Xr:List (AV×Option Nat×List Nat)->List Nat
 |[]=>[]
 |(_,some s,_)::r=>s::Xr r
 |_::r=>Xr r
def uA (outs:List AV):List (AV×Option Nat×List Nat)->Nat->Option AV
 |[],_=>none
 |(_,some _,_)::_,i=>outs[i]?
 |_::r,i=>uA outs r (i+1)
def uu (k s:Nat) (p:AV×Option Nat×List Nat):AV:=
 match p.2.1 with
 |some s'=>if s'=s then ren (λn=>n+k) p.1 else p.1
 |none=>p.1
def mv (s:Nat) (outs:List AV):List (AV×Option Nat×List Nat)->Nat->Option AV
 |[],_=>none
 |(_,some s',_)::r,i=>if s'=s then outs[i]? else mv s outs r (i+1)
 |_::r,i=>mv s outs r (i+1)
def P8 (T:TT) (idx mode f:Nat) (args:List Operand) (tys:List TypeId):M AV:=do
 let ps<-passAll T (mode-10) args tys
 match Xr ps with
 |[]=>do
  let (r,_)<-kq f (ps.map (·.1))
  if !(ps.flatMap (·.2.2)).isEmpty&&Qp r then .fail else pure (ren (ae idx) r)
 |[s]=>do
  let a<-bT s
  if(Jj a).isNone||(ps.flatMap (·.2.2)).any λn=>(ab a).contains n then .fail else do
   let (r,outs)<-kq f (ps.map (·.1))
   match uA outs ps 0 with
   |some o=>if(!(ps.flatMap (·.2.2)).isEmpty&&(Qp r||Qp o))||fH o then .fail else do
     dP s (ren (ae idx) o)
     pure (ren (ae idx) r)
   |none=> .fail
 |[s,t]=>do
  let a<-bT s
  let b<-bT t
  if Nat.beq s t||(Jj a).isNone||(Jj b).isNone||Nat.blt 16 ((ab a).length+(ab b).length)||(ps.flatMap (·.2.2)).any λn=>(ab a++ab b).contains n then .fail else do
   let (r,outs)<-kq f (ps.map (uu (ab a).length t))
   match mv s outs ps 0,mv t outs ps 0 with
   |some o,some q=>if(!(ps.flatMap (·.2.2)).isEmpty&&(Qp r||Qp o||Qp q))||(fH o||fH q)then .fail else do
     dP s (ren (ae idx) o)
     dP t (ren (ae idx) q)
     pure (ren (ae idx) r)
   |_,_=> .fail
 |_=> .fail
def tT (T:TT) (idx f:Nat) (args:List Operand) (tys:List TypeId):M AV:=
 match args,tys with
 |x::rest,_::tys=>do
  let ps<-passAll T 0 rest tys
  match Xr ps with
  |[]=>do
   let a<-rd x
   match a with
   | .ref s n sz (some (off,len))=>do
     let b<-bT s
     match b with
     | .sl (.nm m) t xs=>
       if m=n/\sz=t.size/\Xa t=false/\(ps.flatMap (·.2.2)).contains n=false then do
        cH (0<len)
        let (r,outs)<-kq f (.wn 0 t ((xs.drop off).take len)::ps.map (·.1))
        match r,outs with
        | .int k z,.wn 0 t' ys::_=>
          if h:t'=t then do
           dP s (.sl (.nm (ae idx 0)) t (xs.take off++((h▸ys:List (aM t))++xs.drop (off+len))))
           pure (.int k z)
          else .fail
        |_,_=> .fail
       else .fail
     |_=> .fail
   |_=> .fail
  |_=> .fail
 |_,_=> .fail
def uk (T:TT) (idx f:Nat) (args:List Operand) (tys:List TypeId):M AV:=
 match args,tys with
 |x::rest,_::tys=>do
  let ps<-passAll T 0 rest tys
  match Xr ps with
  |[]=>do
   let a<-rd x
   match a with
   | .dr s n (.row i)=>do
     let b<-bT s
     match b with
     | .dp m t xs none=>
       if m=n/\(ps.flatMap (·.2.2)).contains n=false/\(ps.flatMap (·.2.2)).contains (ae idx 15)=false then do
        let (r,outs)<-kq f (.sl (.nm 0) t (xs.getD i [])::ps.map (·.1))
        match outs with
        | .sl (.nm _) t' ys::_=>
          if h:t'=t then
           if !(ps.flatMap (·.2.2)).isEmpty&&(Qp r||Xa t)then .fail else do
            dP s (.dp m t (xs.set i (h▸ys)) none)
            pure (ren (ae idx) r)
          else .fail
        |_=> .fail
       else .fail
     |_=> .fail
   |_=> .fail
  |_=> .fail
 |_,_=> .fail
def Fe (T:TT) (idx mode f:Nat) (args:List Operand) (tys:List TypeId):M AV:=
 if Nat.beq mode 300 then tT T idx f args tys else if Nat.beq mode 301 then uk T idx f args tys else P8 T idx mode f args tys
def Fc (T:TT) (idx f:Nat) (args:List Operand) (tys:List TypeId) (ex:AV):M AV:=do
 let ps<-passAll T 0 args tys
 match Xr ps with
 |[]=>do
  let (r,_)<-kq f (ps.map (·.1)++[ex])
  if !(ps.flatMap (·.2.2)).isEmpty&&Qp r then .fail else pure (ren (ae idx) r)
 |_=> .fail
def Sg (f:Nat) (first cap:List Operand):M AV:=
 match first,cap with
 |[],[.tmp s]=>do
  let v<-bT s
  match v with
  | .bx (.nm _) [.int k x]=>do
    dP s (.iptr none (.int k) [x] 0 0)
    pure (.iptr (some f) (.int k) [x] 0 0)
  | .bx (.nm _) [.sl .imm ty xs]=>do
    dP s (.iptr none (.sl false ty) [xs] 0 0)
    pure (.iptr (some f) (.sl false ty) [xs] 0 0)
  | .iptr none t xs i j=>pure (.iptr (some f) t xs i j)
  |_=> .fail
 |_,_=> .fail
def CK (a b:AV):M AV:=
 match a,b with
 | .int k x,.int _ y=>pure (.int k (if y>x then y else x))
 |_,_=> .fail
def CJ (a b:AV):M AV:=
 match a,b with
 | .int k x,.int _ y=>pure (.int k (if y<x then y else x))
 |_,_=> .fail
def P3 (T:TT) (idx ty:Nat) (l c:AV):M AV:=
 match T.at ty,l,c with
 |some {desc:= .slice _ (.sl _ t),.. },.int .i64 l,.int .i64 c=>do
  cH (0<=l/\l<=c/\c<=1073741824)
  pure (.dp (ae idx 15) t (List.replicate l.toNat []) none)
 |_,_,_=> .fail
def r8 (W:List Nat):Option Nat->List Nat
 |none=>W
 |some j=>[0,j+2]
def gz (f:AV->Option AV):Option Nat->AV->Option AV
 |none,a=>f a
 |some j,.bx (.nm m) cells=>match f (su (cells.getD j .dead))with
  |some d=>some (.bx (.nm m) (cells.set j (sE (cells.getD j .dead) d)))
  |none=>none
 |_,_=>none
def q6e {s:Nat} {f:AV->Option AV} {W:List Nat} (hf: ∀a b,f a=some b-> ∀j,j∉W->cr s j b=cr s j a) (loc:Option Nat):
 ∀a b,gz f loc a=some b-> ∀j,j∉r8 W loc->cr s j b=cr s j a:=by
 intro a b h j hj;cases loc with
 |none=>exact hf a b h j hj
 |some k=>
  simp only[r8,zT,zZ,or_false,not_or]at hj;unfold gz at h;split at h
  . rename_i e;cases e
  . rename_i e;cases e;split at h
    . cases h
      match j,hj with
      |0,hj=>exact absurd rfl hj.1
      |1,_=>rfl
      |j+2,hj=>
       simp only[cr,df]
       grind
    . cases h
  . cases h
def q18 {s:Nat} {f:AV->Option AV} (hf: ∀a b,f a=some b-> ∀j,j∉[0]->cr s j b=cr s j a) (hn: ∀a b,f a=some b->Qv s b=Qv s a) (loc:Option Nat):
 ∀a b,gz f loc a=some b-> ∀j,j∉[0]->cr s j b=cr s j a:=by
 intro a b h j hj;cases loc with
 |none=>exact hf a b h j hj
 |some k=>
  unfold gz at h;split at h
  . rename_i e;cases e
  . rename_i cells e;cases e;split at h
    . rename_i d hd;cases h
      match j,hj with
      |0,hj=>grind
      |1,_=>rfl
      |j+2,hj=>
       have hq:=hn _ _ hd;rw[qk0]at hq;have hr:=qld (s:=s) (c:=cells.getD k .dead) (d:=d);simp only[cr,df]
       grind
    . cases h
  . cases h
def dpLen (s n:Nat):M Nat:=do
 let b<-fm s 1
 match b with
 |some (.dr _ m .whole)=>do
  let a<-fm s 2
  match a with
  |some (.dr l _ .whole)=>if m=n then pure l else .fail
  |_=> .fail
 |some (.ptr _ _ _ _ _)=>do
  let a<-bT s
  match fz n a with
  |some (.dp _ _ xs _,_)=>pure xs.length
  |_=> .fail
 |_=> .fail
def uP (T:TT) (ty:Nat) (s n:Nat) (k:DK):M AV:=
 match T.at ty with
 |some {desc:= .slice _ _,.. }=>
  match k with
  | .whole=>do
    let l<-dpLen s n
    pure (.int .i64 l)
  | .lenw l=>pure (.int .i64 l)
  | .row i=>do
    let a<-bT s
    match fz n a with
    |some (.dp _ _ xs h,_)=>do
      FL h i
      pure (.int .i64 (xs.getD i []).length)
    |_=> .fail
  |_=> .fail
 |_=> .fail
def QD (T:TT) (ty:Nat) (s n:Nat) (k:DK) (i:AV):M AV:=
 match T.at ty,i with
 |some {desc:= .slice _ et,.. },.int _ i=>
  match k with
  | .whole=>
    if et.size=1 then do
     let l<-dpLen s n
     cH (0<=i/\i<l)
     pure (.dr s n (.cell i.toNat))
    else .fail
  | .lenw l=>
    if et.size=1 then do
     cH (0<=i/\i<l)
     pure (.dr s n (.cell i.toNat))
    else .fail
  | .row r=>do
    let a<-bT s
    match fz n a with
    |some (.dp _ t xs h,_)=>
     if et.size=t.size then do
      FL h r
      cH (0<=i/\i<(xs.getD r []).length)
      pure (.dr s n (.elem t.size r i.toNat 0))
     else .fail
    |_=> .fail
  |_=> .fail
 |_,_=> .fail
def IX (i:Nat):AV->Option AV
 | .dp n t xs none=>some (.dp n t xs (some i))
 |_=>none
def qf9 {s i:Nat} (a b:AV) (h:IX i a=some b): ∀j,j∉[0]->cr s j b=cr s j a:=by
 intro j hj;unfold IX at h;split at h
 . cases h
   match j,hj with
   |0,hj=>grind
   |1,_=>rfl
   |j+2,_=>rfl
 . cases h
def qdx {s i:Nat} (a b:AV) (h:IX i a=some b):Qv s b=Qv s a:=by
 unfold IX at h;split at h
 . cases h;rfl
 . cases h
def PY (T:TT) (idx mode ty:Nat) (s n:Nat) (k:DK):M AV:=
 match T.at ty with
 |none=> .fail
 |some ti=>
  match k with
  | .cell i=>match ti with
    |{desc:= .slice _ et,cells:=[_]}=>
     match mode with
     |4=>do
      let a<-bT s
      match fz n a with
      |some (.dp _ t xs none,loc)=>
       if et.size=t.size then do
        iA s [0] (gz (IX i) loc) (q18 qf9 qdx loc)
        pure (.sl (.nm (ae idx 15)) t (xs.getD i []))
       else .fail
      |_=> .fail
     |_=>do
      let a<-bT s
      match fz n a with
      |some (.dp _ _ _ h,_)=>do
        FL h i
        pure (.dr s n (.row i))
      |_=> .fail
    |_=> .fail
  | .elem sz i j c=>do
    let a<-bT s
    match fz n a with
    |some (.dp _ t xs h,_)=>
     if sz=t.size then do
      FL h i
      pZ (dj ti.cells.length (Q8 ti.desc) ((bf t ((xs.getD i []).getD j t.zero)).map eU) c)
     else .fail
    |_=> .fail
  |_=> .fail
def ri (i m:Nat) (t:Ty) (ys:List (aM t)):AV->Option AV
 | .dp _ t' xs _=>if h:t'=t then some (.dp m t' (xs.set i (h▸ys)) none)else none
 |_=>none
def setDp (i j c:Nat) (vs:List AV):AV->Option AV
 | .dp m t xs h=>match Zb t ((xs.getD i []).getD j t.zero) c vs with
   |some x=>some (.dp m t (xs.set i ((xs.getD i []).set j x)) h)
   |none=>none
 |_=>none
def qga {s i j c:Nat} {vs:List AV} (a b:AV) (h:setDp i j c vs a=some b): ∀k,k∉[0]->cr s k b=cr s k a:=by
 intro k hk;unfold setDp at h;split at h
 . split at h
   . cases h
     match k,hk with
     |0,hk=>grind
     |1,_=>rfl
     |k+2,_=>simp only[cr,df,zS]
   . cases h
 . cases h
def qfy {s i j c:Nat} {vs:List AV} (a b:AV) (h:setDp i j c vs a=some b):Qv s b=Qv s a:=by
 unfold setDp at h;split at h
 . split at h
   . cases h;simp[Qv]
   . cases h
 . cases h
def qh2 {s i m:Nat} {t:Ty} {ys:List (aM t)} (a b:AV) (h:ri i m t ys a=some b): ∀j,j∉[0,1,2]->cr s j b=cr s j a:=by
 intro j hj;unfold ri at h;split at h
 . split at h
   . cases h
     match j,hj with
     |0,hj=>exact absurd (by simp) hj
     |1,hj=>exact absurd (by simp) hj
     |2,hj=>exact absurd (by simp) hj
     |j+3,_=>simp[cr,df]
   . cases h
 . cases h
def Od (T:TT) (idx ty:Nat) (s n:Nat) (k:DK) (v:AV):M Unit:=
 match T.at ty with
 |none=> .fail
 |some ti=>
  match k with
  | .cell i=>match ti,v with
    |{cells:=[_],.. },.sl (.nm _) t ys=>do
     let a<-bT s
     match fz n a with
     |some (.dp _ t' _ h,loc)=>
      if t'=t then do
       VX h i
       iA s (r8 [0,1,2] loc) (gz (ri i (ae idx 15) t ys) loc) (q6e qh2 loc)
      else .fail
     |_=> .fail
    |_,_=> .fail
  | .elem sz i j c=>
    if(cellsOf v).length=ti.cells.length/\(cellsOf v).all bC=true then do
     let a<-bT s
     match fz n a with
     |some (.dp _ t _ h,loc)=>
      if sz=t.size then do
       FL h i
       iA s [0] (gz (setDp i j c (cellsOf v)) loc) (q18 qga qfy loc)
      else .fail
     |_=> .fail
    else .fail
  |_=> .fail
def CH (idx mode:Nat) (t:Ty) (xs:List (aM t)):M AV:=
 match mode with
 |6=>match t with
  | .sl _ ty=>pure (.dp (ae idx 0) ty [] none)
  |_=> .fail
 |_=>pure (.sl (.nm (ae idx 0)) t xs)
def buildDp (T:TT) (idx ty:Nat) (v:AV):M AV:=
 match T.at ty,v with
 |some {desc:= .slice _ (.sl _ t),.. },.sl (.nm _) t' ys=>if t'=t then pure (.dp (ae idx 15) t' [ys] none)else .fail
 |some {desc:= .slice _ (.sl _ t),.. },.lit (.slice none 0 0)=>pure (.dp (ae idx 15) t [[]] none)
 |_,_=> .fail
def R0 (T:TT) (idx ty n:Nat):List (Nat×Operand)->M AV
 |[(0,x)]=>if n=1 then do let v<-rdT x;buildDp T idx ty v else .fail
 |_=> .fail
def Rk (T:TT) (idx:Nat) (tys:Array TypeId) (x y:AV):M AV:=
 match tys[0]?,tys[1]? with
 |some t0,some t1=>
  match T.at t0,T.at t1 with
  |some {desc:= .slice _ (.sl _ _),.. },some {desc:= .slice _ _,.. }=>
   match x,y with
   | .dp _ t xs none,.dp _ t' ys none=>
     if h:t'=t then do
      cH (0<ys.length/\xs.length+ys.length<=1073741824)
      pure (.dp (ae idx 15) t (xs++(h▸ys)) none)
     else .fail
   |_,_=> .fail
  |_,_=> .fail
 |_,_=> .fail
def XV (T:TT) (idx mode:Nat) (b:Builtin) (args:List Operand) (tys:Array TypeId):M AV:=
 match b,args with
 | .len,[x]=>match tys[0]? with
   |some t=>do
    let v<-rd x
    match v with
    | .dr s n k=>uP T t s n k
    |v=>uQ T t (Zn T t v)
   |none=> .fail
 | .append,[x,y]=>
   match mode with
   |5=>do
    let u<-rd x
    let v<-rd y
    Sf T idx tys u v
   |6=>do
    let u<-rdT x
    let v<-rdT y
    Rk T idx tys u v
   |mode=>do
    let u<-rdC mode x
    let v<-rdT y
    RA T idx tys (Zn T (tys.getD 0 0) u) v
 | .copy,[x,y]=>do
   let u<-rd x
   let v<-rd y
   P4 T idx tys u v
 | .max,[x,y]=>do let a<-rd x;let b<-rd y;CK a b
 | .min,[x,y]=>do let a<-rd x;let b<-rd y;CJ a b
 |_,_=> .fail
def pW (T:TT) (idx mode:Nat) (o:Oper):M AV:=
 match o.op with
 | .move x=>do
   let v<-rdm mode x
   pure (Zn T o.type v)
 | .assign x=>do
   let v<-rdm (if mode=0 then 1 else mode) x
   match nlI mode (Zn T o.type v)with
   | .sl .nl t xs=>CH idx mode t xs
   |v=>pure v
 | .pick c a b=>match c with
   | .tmp t=>do
     let y<-uN t
     if y then rd a else rd b
   |_=> .fail
 | .alloc e=>QZ T idx mode e
 | .box e x=>do let v<-rdQ mode x;xh T idx e (nlI mode (Zn T e v))
 | .build t ps=>do let vs<-rdParts T ps.toList;QS T t vs
 | .buildSlice t n ps=>match mode with
   |6=>R0 T idx t n ps.toList
   |_=>do let vs<-rdParts T ps.toList;SO T idx t n vs
 | .load t p=>do
   let a<-rd p
   match a with
   | .dr s n k=>PY T idx mode t s n k
   |a=>match mode with
    |7=>do
     rZ a
     NT T 0 t a
    |mode=>NT T mode t a
 | .store t p x=>
   match mode with
   |4=>do
    let v<-rdT x
    let a<-rd p
    match a with
    | .dr s n k=>do
      Od T idx t s n k v
      pure .dead
    |_=> .fail
   |mode=>do
   let v<-rdQ mode x
   let a<-rd p
   match a with
   | .dr s n k=>do
     Od T idx t s n k (nlI mode (Zn T t v))
     pure .dead
   |a=>do
    QA T idx t a (nlI mode (Zn T t v))
    pure .dead
 | .nilCheck x=>do let v<-rd x;So v
 | .binOp op t x y _=>do let a<-rd x;let b<-rd y;xj T op t a b
 | .unOp op _ x=>do let a<-rd x;FH op a
 | .convert s d x=>do let a<-rd x;P5 T s d a
 | .makeSlice t l c=>
   match mode with
   |4=>do let a<-rd l;let b<-rd c;P3 T idx t a b
   |_=>do let a<-rd l;let b<-rd c;PS T idx t a b
 | .slice t x lo hi none=>do
   let v<-rdC mode x
   let l<-(match lo with|some l=>do let a<-rd l;pure (some a)|none=>pure none)
   let h<-(match hi with|some h=>do let a<-rd h;pure (some a)|none=>pure none)
   QL T idx t v l h
 | .fieldAddr t x f=>do let a<-rd x;SA T t a f
 | .field t x f=>do let a<-rd x;QC T t a f
 | .indexAddr t x i=>match x with
   | .global g=>do let b<-rd i;uc T t g b
   |x=>
    do
    let a<-rd x
    let b<-rd i
    match a with
    | .dr s n k=>QD T t s n k b
    |a=>Sx T t a b
 | .index t x i=>do let a<-rd x;let b<-rd i;QM T t a b
 | .extract x i=>Rn x i
 | .call c=>match c.callee with
   | .builtin b=>XV T idx mode b c.args.toList c.argTypes
   | .value (.func f)=>Fe T idx mode f c.args.toList c.argTypes.toList
   | .value (.tmp t)=>do
     let a<-bT t
     match a with
     | .lit (.func (.func f) as bs)=>if as.size=0/\bs.size=0 then P8 T idx mode f c.args.toList c.argTypes.toList else .fail
     | .iptr (some f) t xs i j=>Fc T idx f c.args.toList c.argTypes.toList (.iptr none t xs i j)
     |_=> .fail
   |_=> .fail
 | .makeFunc (.func f) first cap=>Sg f first.toList cap.toList
 |_=> .fail
end Go.Vs
namespace Go.Vs
def Km (T:TT) (ty n:Nat) (a:AV):M AV:=
 match T.at ty,a with
 |some {desc:= .slice _ _,.. },.dq m _ xs _=>if m=n then pure (.int .i64 xs.length)else .fail
 |_,_=> .fail
def qma (T:TT) (ty s n:Nat) (a i:AV):M AV:=
 match T.at ty,a,i with
 |some {desc:= .slice _ et,.. },.dq m t xs _,.int _ i=>
  if m=n/\et.size=t.size then do
   cH (0<=i/\i<xs.length)
   pure (.ptr s n t.size i.toNat 0)
  else .fail
 |_,_,_=> .fail
def qrn:AV->AV
 | .sl _ _ _=> .dead
 |v=>v
def qlt (ti:TI) (n sz i j:Nat) (a:AV):M AV:=
 match a with
 | .dq m t xs _=>if m=n/\sz=t.size then pZ (dj ti.cells.length (Q8 ti.desc) ((bf t (xs.getD i t.zero)).map qrn) j)else .fail
 |_=> .fail
def qvh (idx:Nat) (ti:TI) (s n sz i j:Nat) (a:AV):M AV:=
 match a with
 | .dq m t xs none=>
   if m=n/\sz=t.size/\ti.cells.length=1/\Q8 ti.desc=false then
    match(bf t (xs.getD i t.zero))[j]? with
    |some (.sl _ u ys)=>do
     dP s (.dq m t xs (some (i*t.size+j)))
     pure (.sl (.nm (ae idx 15)) u ys)
    |_=> .fail
   else .fail
 |_=> .fail
def qj5:AV->Bool
 | .bool _| .int _ _=>true
 |_=>false
def qgg (ti:TI) (s n sz i j:Nat) (v a:AV):M Unit:=
 match a with
 | .dq m t xs h=>
   if m=n/\sz=t.size/\(cellsOf v).length=ti.cells.length/\(cellsOf v).all qj5=true then
    M.ofOpt (Zb t (xs.getD i t.zero) j (cellsOf v)) λx=>dP s (.dq m t (xs.set i x) h)
   else .fail
 |_=> .fail
def qmr (ti:TI) (s n sz i j:Nat) (v a:AV):M Unit:=
 match a,v with
 | .dq m t xs (some q),.sl (.nm k) u ys=>
   if m=n/\sz=t.size/\ti.cells.length=1 then do
    cH (q=i*t.size+j)
    M.ofOpt (Zb t (xs.getD i t.zero) j [.sl (.nm k) u ys]) λx=>dP s (.dq m t (xs.set i x) none)
   else .fail
 |_,_=> .fail
def qfv:AV->Bool
 | .bool _| .int _ _| .sl .nl _ _=>true
 |_=>false
def qoj (T:TT) (idx ty:Nat) (v:AV):M AV:=
 match T.at ty,v with
 |some {desc:= .slice _ t,.. },.agg cells=>
  if cells.all qfv=true/\0<t.size/\t.size<=64 then
   match Yr t cells with
   |some (y,[])=>pure (.dq (ae idx 15) t [y] none)
   |_=> .fail
  else .fail
 |_,_=> .fail
def qj4 (T:TT) (idx:Nat) (tys:Array TypeId) (x y:AV):M AV:=
 match tys[0]?,tys[1]? with
 |some t0,some t1=>
  match T.at t0,T.at t1 with
  |some {desc:= .slice _ et,.. },some {desc:= .slice _ _,.. }=>
   match x,y with
   | .dq _ t xs none,.dq _ t' ys none=>
     if h:t'=t/\et.size=t.size then do
      cH (0<ys.length/\xs.length+ys.length<=1073741824)
      pure (.dq (ae idx 15) t (xs++(h.1▸ys)) none)
     else .fail
   |_,_=> .fail
  |_,_=> .fail
 |_,_=> .fail
def Co:Nat->List AV->List Nat
 |_,[]=>[]
 |k,c::cs=>if(qc c).isEmpty then Co (k+1) cs else k::Co (k+1) cs
def q0v (c:AV):AV:=if(qc c).isEmpty then c else .dead
def Qf (L:List Nat) (a:AV):Option AV:=
 match a with
 | .bx (.nm m) cells=>if Co 0 cells=L then some (.bx (.nm m) (cells.map q0v))else none
 |_=>none
def q7q: ∀{cells:List AV} {k j:Nat} (h:j<cells.length),(qc cells[j]).isEmpty=false->k+j∈Co k cells
 |c::cs,k,0,h,hn=>by
  have hn':(qc c).isEmpty=false:=hn;simp[Co,hn']
 |c::cs,k,j+1,h,hn=>by
  have:=q7q (cells:=cs) (k:=k+1) (j:=j) (by simpa using h) (by simpa using hn)
  rw[show k+(j+1)=k+1+j by omega]
  unfold Co;split
  . exact this
  . exact mT this
def qct {s:Nat} {L:List Nat} (a b:AV) (h:Qf L a=some b): ∀j,j∉0::L.map (· +2)->cr s j b=cr s j a:=by
 intro j hj;unfold Qf at h;split at h
 . split at h
   . rename_i cells hL;cases h;subst hL;simp only[zT,not_or]at hj
     match j,hj with
     |0,hj=>exact absurd rfl hj.1
     |1,_=>rfl
     |j+2,hj=>
      simp only[cr,df,List.getElem?_map];split
      . by_cases hlt:j<cells.length
        . have hne:(qc cells[j]).isEmpty=true:=by
           cases hc:(qc cells[j]).isEmpty with
           |true=>rfl
           |false=>
            have:=q7q (k:=0) hlt hc;rw[zG]at this;exact absurd (zV.2 ⟨j,this,rfl⟩) hj.2
          rw[List.getElem?_eq_getElem hlt];simp[q0v,hne]
        . rw[List.getElem?_eq_none O];rfl
      . rfl
   . cases h
 . cases h
def qmm (ti:TI) (s n:Nat) (a:AV):M AV:=
 match a with
 | .bx (.nm m) cells=>
   if m=n/\cells.length=ti.cells.length then do
    iA s (0::(Co 0 cells).map (· +2)) (Qf (Co 0 cells)) qct
    pZ (jL (Q8 ti.desc) cells)
   else .fail
 |_=> .fail
def opDq (T:TT) (idx mode:Nat) (o:Oper):M AV:=
 match o.op with
 | .assign (.const c)=>match Zn T o.type (Jv c)with
   | .sl .nl t _=>pure (.dq (ae idx 0) t [] none)
   |_=> .fail
 | .buildSlice t n ps=>match ps.toList with
   |[(0,x)]=>if n=1 then do let v<-rdT x;qoj T idx t v else .fail
   |_=> .fail
 | .load t p=>do
   let a<-rd p
   match T.at t,a with
   |some ti,.ptr s n sz i j=>do
    let b<-bT s
    match Nat.beq mode 5001 with
    |true=>qvh idx ti s n sz i j b
    |false=>match Nat.beq mode 5002 with
     |true=>if i=0/\j=0 then qmm ti s n b else .fail
     |false=>qlt ti n sz i j b
   |_,_=> .fail
 | .store t p x=>do
   let v<-rdT x
   let a<-rd p
   match T.at t,a with
   |some ti,.ptr s n sz i j=>do
    let b<-bT s
    match Nat.beq mode 5001 with
    |true=>qmr ti s n sz i j v b
    |false=>qgg ti s n sz i j v b
    pure .dead
   |_,_=> .fail
 | .indexAddr t x i=>do
   let v<-rd x
   let b<-rd i
   match v with
   | .ref s n _ none=>do
     let a<-bT s
     qma T t s n a b
   |_=> .fail
 | .call c=>match c.callee with
   | .builtin .len=>match c.args.toList,c.argTypes[0]? with
     |[x],some t=>do
      let v<-rd x
      match v with
      | .ref s n _ none=>do
        let a<-bT s
        Km T t n a
      |_=> .fail
     |_,_=> .fail
   | .builtin .append=>match c.args.toList with
     |[x,y]=>do
      let u<-rdT x
      let v<-rdT y
      qj4 T idx c.argTypes u v
     |_=> .fail
   |_=> .fail
 |_=> .fail
def PE (i j m:Nat):AV->Option AV
 | .dp _ t xs none=>some (.dp m t (xs.set i (xs.getD j [])) (some j))
 |_=>none
def qda {s i j m:Nat} (a b:AV) (h:PE i j m a=some b): ∀k,k∉[0,1,2]->cr s k b=cr s k a:=by
 intro k hk;unfold PE at h;split at h
 . cases h
   match k,hk with
   |0,hk=>exact absurd (by simp) hk
   |1,hk=>exact absurd (by simp) hk
   |2,hk=>exact absurd (by simp) hk
   |k+3,_=>simp[cr,df]
 . cases h
def Tb:DK->Bool
 | .whole=>true
 | .lenw _=>true
 |_=>false
def Ue (T:TT) (idx p q:Nat) (o:Oper):M AV:=
 match o.op with
 | .store t (.tmp x) (.tmp y)=>do
   let a<-bT x
   let b<-bT y
   let c<-bT p
   let d<-bT q
   match T.at t,a,b,c,d with
   |some {cells:=[_],.. },.dr s n (.cell i),.dr s1 n1 (.row j),.dr s2 n2 (.row i2),.dr s3 n3 kd=>
    if s1=s/\n1=n/\s2=s/\n2=n/\s3=s/\n3=n/\Tb kd=true then do
     let e<-bT s
     match fz n e with
     |some (.dp _ ty xs none,loc)=>do
      cH (i2=i/\i≠j)
      iA s (r8 [0,1,2] loc) (gz (PE i j (ae idx 15)) loc) (q6e qda loc)
      dP p (.sl (.nm (ae idx 14)) ty (xs.getD i []))
      dP q (.dr s (ae idx 15) .whole)
      pure .dead
     |_=> .fail
    else .fail
   |_,_,_,_,_=> .fail
 |_=> .fail
def xI {α:Type}:List (Int×α)->Nat->α->List (Int×α)
 |[],_,_=>[]
 |(k,_)::r,0,y=>(k,y)::r
 |p::r,i+1,y=>p::xI r i y
def PV (T:TT) (idx ty:Nat) (l c:AV):M AV:=
 match T.at ty,l,c with
 |some {desc:= .mslice _ t,.. },.int .i64 l,.int .i64 c=>do
  cH (0<=l/\l<=c/\c<=1073741824)
  pure (.mm (ae idx 15) t (List.replicate l.toNat none) false)
 |_,_,_=> .fail
def RO (T:TT) (idx ty:Nat):M AV:=
 match T.at ty with
 |some {desc:= .map _ t,.. }=>pure (.mm (ae idx 15) t [some []] true)
 |_=> .fail
def CN (T:TT) (ty:Nat) (a:AV):M AV:=
 match T.at ty,a with
 |some {desc:= .mslice _ _,.. },.dr _ _ (.mlen l)=>pure (.int .i64 l)
 |_,_=> .fail
def VT (T:TT) (ty:Nat) (a i:AV):M AV:=
 match T.at ty,a,i with
 |some {desc:= .mslice _ _,.. },.dr s n (.mlen l),.int _ i=>do
  cH (0<=i/\i<l)
  pure (.dr s n (.mcell i.toNat))
 |_,_,_=> .fail
def PN (T:TT) (j ty:Nat) (p:AV):M AV:=
 match T.at ty,p with
 |some {desc:= .map _ _,cells:=[_]},.dr s n (.mcell i)=>do
  let b<-fm s 1
  let c<-fm s (j+2)
  match b,c with
  |some (.ptr _ _ _ _ _),some (.dr _ m (.mlen _))=>if m=n then pure (.dr s n (.mrow j i))else .fail
  |_,_=> .fail
 |_,_=> .fail
def fillMm (j i m n:Nat) (t:Ty) (y:Option (List (Int×aM t))):AV->Option AV
 | .bx (.nm b) cells=>match cells[j]? with
   |some (.mm n' t' xs false)=>if h:t'=t then(if n'=n then some (.bx (.nm b) (cells.set j (.mm m t' (xs.set i (h▸y)) false)))else none)else none
   |_=>none
 |_=>none
def qes {s j i m n:Nat} {t:Ty} {y:Option (List (Int×aM t))} (a b:AV) (h:fillMm j i m n t y a=some b): ∀k,k∉[0,j+2]->cr s k b=cr s k a:=by
 intro k hk;simp only[zT,zZ,or_false,not_or]at hk;unfold fillMm at h;split at h
 . split at h
   . split at h
     . split at h
       . cases h
         match k,hk with
         |0,hk=>exact absurd rfl hk.1
         |1,_=>rfl
         |k+2,hk=>
          simp only[cr,df]
          grind
       . cases h
     . cases h
   . cases h
 . cases h
def qap {s j i n:Nat} {t:Ty} {y:Option (List (Int×aM t))} (a b:AV) (h:fillMm j i n n t y a=some b): ∀k,k∉[0]->cr s k b=cr s k a:=by
 intro k hk;simp only[zT,zZ,or_false]at hk;unfold fillMm at h;split at h
 . split at h
   . rename_i cells _ n' t' xs hc;split at h
     . split at h
       . rename_i e;subst e;cases h
         match k,hk with
         |0,hk=>exact absurd rfl hk
         |1,_=>rfl
         |k+2,hk=>
          simp only[cr,df];by_cases e:k=j
          . subst e;have hlt:k<cells.length:=by grind
            simp[hlt,Qv]
            grind [Qv]
          . grind
       . cases h
     . cases h
   . cases h
 . cases h
def QI (T:TT) (idx j ty:Nat) (p v:AV):M Unit:=
 match T.at ty,p,v with
 |some {desc:= .map _ _,cells:=[_]},.dr s n (.mcell i),.mm _ t [some ys] true=>
  iA s [0,j+2] (fillMm j i (ae idx 15) n t (some ys)) qes
 |_,_,_=> .fail
def FY (n j:Nat):AV->Option (Sigma λt:Ty=>List (Option (List (Int×aM t))))
 | .bx (.nm _) cells=>match cells[j]? with
   |some (.mm m t xs false)=>if m=n then some ⟨t,xs⟩else none
   |_=>none
 |_=>none
def qtu (need b:Bool):M Unit:=match need with
 |true=>cH (b=true)
 |false=>pure ()
def HT (need:Bool) (x:Operand):M (Sigma λt:Ty=>List (Int×aM t)):=
 match x with
 | .tmp s=>do
   let a<-bT s
   match a with
   | .mm _ t [some ys] true=>pure ⟨t,ys⟩
   | .dr s' n (.mrow j i)=>do
     let b<-bT s'
     match FY n j b with
     |some ⟨t,xs⟩=>do
      qtu need (xs.getD i none).isSome
      pure ⟨t,(xs.getD i none).getD []⟩
     |none=> .fail
   |_=> .fail
 |_=> .fail
def HU (x:Operand) (t:Ty) (ys:List (Int×aM t)):M Unit:=
 match x with
 | .tmp s=>do
   let a<-bT s
   match a with
   | .mm n _ [some _] true=>dP s (.mm n t [some ys] true)
   | .dr s' n (.mrow j i)=>iA s' [0] (fillMm j i n n t (some ys)) qap
   |_=> .fail
 |_=> .fail
def f7 (T:TT) (ty:Nat) (t:Ty):Bool:=match T.at ty with
 |some {desc:= .map _ t',.. }=>decide (t'=t)
 |_=>false
def tB (t:Ty) (x:aM t):AV:= .agg ((bf t x).map eU)
def OD (T:TT) (ty:Nat) (m k x:Operand):M AV:=do
 let v<-rdF x
 let kv<-rd k
 let e<-HT true m
 match kv,v with
 | .int .i64 k,.agg cells=>
   if f7 T ty e.1=true/\cells.all bC=true then
    match Yr e.1 cells with
    |some (y,[])=>do
     HU m e.1 (bY e.2 k y)
     pure .dead
    |_=> .fail
   else .fail
 |_,_=> .fail
def P9 (T:TT) (ty:Nat) (x k:Operand) (ok:Bool):M AV:=do
 let e<-HT false x
 let kv<-rd k
 match kv with
 | .int .i64 k=>
   if f7 T ty e.1=true then
    match ok with
    |true=>pure (.tup [tB e.1 ((aZ e.2 k).getD e.1.zero),.bool (aZ e.2 k).isSome])
    |false=>pure (tB e.1 ((aZ e.2 k).getD e.1.zero))
   else .fail
 |_=> .fail
def QY (T:TT) (ty:Nat) (m k:Operand):M AV:=do
 let e<-HT true m
 let kv<-rd k
 match kv with
 | .int .i64 k=>
   if f7 T ty e.1=true then do
    HU m e.1 (bY e.2 k ((aZ e.2 k).getD e.1.zero))
    pure (.tup [tB e.1 ((aZ e.2 k).getD e.1.zero),.int .i64 (eO e.2 k:Nat)])
   else .fail
 |_=> .fail
def Si (T:TT) (ty:Nat) (m z x:Operand):M AV:=do
 let v<-rdF x
 let zv<-rd z
 let e<-HT true m
 match zv,v with
 | .int .i64 z,.agg cells=>
   if f7 T ty e.1=true/\cells.all bC=true then
    match Yr e.1 cells with
    |some (y,[])=>do
     cH (0<=z/\z<e.2.length)
     HU m e.1 (xI e.2 z.toNat y)
     pure .dead
    |_=> .fail
   else .fail
 |_,_=> .fail
def FW (T:TT) (idx j:Nat) (o:Oper):M AV:=
 match o.op with
 | .makeSlice t l c=>do let a<-rd l;let b<-rd c;PV T idx t a b
 | .makeMap t none=>RO T idx t
 | .call c=>match c.callee,c.args.toList,c.argTypes[0]? with
   | .builtin .len,[x],some t=>do let a<-rd x;CN T t a
   |_,_,_=> .fail
 | .indexAddr t x i=>do let a<-rd x;let b<-rd i;VT T t a b
 | .load t p=>do let a<-rd p;PN T j t a
 | .store t p x=>do
   let v<-rdT x
   let a<-rd p
   QI T idx j t a v
   pure .dead
 | .mapUpdate t m k x=>OD T t m k x
 | .insert t m k x=>OD T t m k x
 | .lookup t x k ok=>P9 T t x k ok
 | .mapEntry t m k=>QY T t m k
 | .entryStore t m z x=>Si T t m z x
 |_=> .fail
abbrev pD:=List Nat×List Nat
def jt:Nat->Nat->List Nat->List Nat
 |_,0,r=>r
 |b,n+1,r=>b::jt (b+1) n r
def jr (s:Nat) (r:List Nat):List Nat:=jt (32*s) 17 r
def fG (s:Nat):List Nat->List Nat->List Nat
 |[],r=>r
 |j::js,r=>(32*s+j)::fG s js r
def gE {R α:Type} (C:Nat->List AV->(AV->List AV->Option R)->Option R):M α->ag->pD->(α->ag->pD->Option R)->Option R
 | .ret a,U,L,K=>K a U L
 | .fail,_,_,_=>none
 | .get s k,U,L,K=>gE C (k (U.get s)) U ((32*s)::L.1,L.2) K
 | .view s j k,U,L,K=>gE C (k (cr s j (U.get s))) U ((32*s+j)::L.1,L.2) K
 | .set s v k,U,L,K=>gE C k (U.set s v) (jr s L.1,jr s L.2) K
 | .upd s W f _ k,U,L,K=>match f (U.get s)with
   |some v=>gE C k (U.set s v) ((32*s)::fG s W L.1,fG s W L.2) K
   |none=>none
 | .ask p d k,U,L,K=> @ite _ p d (gE C k U L K) none
 | .know s k,U,L,K=>match U.get s with
   | .bool b=>cond b (gE C (k true) (U.set s (.bool true)) ((32*s)::L.1,L.2) K) (gE C (k false) (U.set s (.bool false)) ((32*s)::L.1,L.2) K)
   |_=>none
 | .call f as k,U,L,K=>C f as λr os=>gE C (k r os) U L K
structure nU where
 mode:List (Nat×Nat)
 keep:List Nat
structure cR where
 regs:List nU
 heads:List (Nat×List Nat)
 exits:List (Nat×List Nat)
 rets:List Nat
 pins:List Nat
 spec:List (List Bool)
def mD (l:List (Nat×Nat)) (i:Nat):Nat:=match l with
 |[]=>0
 |(j,m)::r=>if j=i then m else mD r i
def kr (l:List (Nat×List Nat)) (i:Nat):Option (List Nat):=match l with
 |[]=>none
 |(j,m)::r=>if j=i then some m else kr r i
def O4 (T:TT) (idx mode:Nat) (o:Oper):M AV:=
 match Nat.ble 1000 mode with
 |true=>match Nat.ble 600000 mode with
  |true=>FW T idx (mode-600000) o
  |false=>
  match Nat.ble 3000 mode with
  |true=>do
   let a<-bT (mode-3000)
   match a with
   | .bx (.nm m) _=>do
     rZ (.ptr (mode-3000) m 0 0 0)
     pW T idx 0 o
   |_=> .fail
  |false=>do
   let _<-rdF (.tmp (mode-1000))
   pW T idx 0 o
 |false=>pW T idx mode o
def FO (N:Nat) (pins:List Nat) (dst:Option Tmp) (v:AV):M Unit:=
 match dst with
 |none=>pure ()
 |some d=>if d<N/\ ¬d∈pins then dP d v else .fail
def j4 (ops:Array Oper) (j:Nat):Option Tmp:=(ops[j]?).bind (·.dst)
def Qt:AV->Bool
 | .tup []=>true
 |_=>false
def nq (T:TT) (N:Nat) (pins:List Nat) (ops:Array Oper) (idx mode:Nat) (o:Oper):M Unit:=
 match o.guard with
 |none=>do let v<-O4 T idx mode o;FO N pins o.dst v
 |some (j,want)=>
  match j4 ops j with
  |none=> .fail
  |some g=>do
   let a<-bT g
   match Qt a with
   |true=>FO N pins o.dst (.tup [])
   |false=>do
    let b<-uN g
    if b==want then do let v<-O4 T idx mode o;FO N pins o.dst v
    else FO N pins o.dst (.tup [])
def uB {R:Type} (C:Nat->List AV->(AV->List AV->Option R)->Option R) (T:TT) (N:Nat) (pins:List Nat) (ops:Array Oper) (md:List (Nat×Nat)):
    List Oper->Nat->ag->List pD->(ag->List pD->Option R)->Option R
 |[],_,U,Ls,K=>K U Ls
 |o::r,i,U,Ls,K=>gE C (nq T N pins ops i (mD md i) o) U ([],[]) λ_ U' L=>uB C T N pins ops md r (i+1) U' (Ls++[L]) K
def gW (o:Oper) (i:Nat):List Nat:=(o.after.toList.filter λe=>Region.binds .any e&&decide (e.on<i)).map (·.on)
def qT:List Oper->Nat->List (List Nat)->List (List Nat)
 |[],_,acc=>acc
 |o::r,i,acc=>qT r (i+1) (acc++[(gW o i).flatMap λj=>j::acc.getD j []])
def qO (a b:List Nat):Bool:=a.all λx=> !b.contains x
def PW (anc:List (List Nat)) (Ls:List pD) (i j:Nat):Bool:=
 (anc.getD j []).contains i||(qO (Ls.getD i ([],[])).1 (Ls.getD j ([],[])).2&&qO (Ls.getD j ([],[])).1 (Ls.getD i ([],[])).2)
def I9:List Oper->Nat->Bool
 |[],_=>true
 |o::r,i=>(o.after.toList.all λe=> !Region.binds .any e||decide (e.on<i))&&I9 r (i+1)
def I3 (ops:List Oper) (Ls:List pD):Bool:=
 I9 ops 0&&(let anc:=qT ops 0 []
 (List.range ops.length).all λj=>(List.range j).all λi=>PW anc Ls i j)
def eS:List Nat->Nat
 |[]=>0
 |s::r=>Nat.lor (Nat.pow 2 s) (eS r)
def kf:List Nat->List Nat->Nat
 |[],_=>0
 |k::ks,acc=>Nat.lor (Nat.lor (Nat.pow 2 k) (acc.getD k 0)) (kf ks acc)
def BP:List Oper->Nat->List Nat->List Nat
 |[],_,acc=>acc
 |o::r,i,acc=>BP r (i+1) (acc++[kf (gW o i) acc])
def N9 (A R W:Nat):List (Nat×Nat)->Nat->Bool
 |[],_=>true
 |_::_,0=>true
 |p::r,k+1=>(Nat.beq (Nat.land (Nat.shiftRight A k) 1) 1||(Nat.beq (Nat.land p.1 W) 0&&Nat.beq (Nat.land R p.2) 0))&&N9 A R W r k
def om:List pD->List Nat->List (Nat×Nat)->Nat->Bool
 |[],_,_,_=>true
 |_::_,[],_,_=>false
 |L::Ls,A::As,done,j=>N9 A (eS L.1) (eS L.2) done j&&om Ls As ((eS L.1,eS L.2)::done) (j+1)
def QV (ops:List Oper) (Ls:List pD):Bool:=I9 ops 0&&om Ls (BP ops 0 []) [] 0
def bW (ns:List Nat):AV->AV
 | .dp n t xs h=> .dp (aT ns n) t xs h
 | .fd n t xs h=> .fd (aT ns n) t xs h
 | .mm n t xs o=> .mm (aT ns n) t xs o
 | .sl (.nm n) t xs=> .sl (.nm (aT ns n)) t xs
 | .wn n t xs=> .wn (aT ns n) t xs
 | .dq n t xs h=> .dq (aT ns n) t xs h
 | .ref s n sz w=>if ns.contains n then .ref s (aT ns n) sz w else .dead
 | .ptr s n sz i j=>if ns.contains n then .ptr s (aT ns n) sz i j else .dead
 | .dr s n k=>if ns.contains n then .dr s (aT ns n) k.strip else .dead
 |v=>v
def dC (ns:List Nat):AV->AV
 | .bx (.nm n) cells=> .bx (.nm (aT ns n)) (cells.map (bW ns))
 | .bx o cells=> .bx o (cells.map (bW ns))
 | .agg cells=> .agg (cells.map (bW ns))
 |v=>bW ns v
def fin (ns:List Nat):AV->AV
 | .tup vs=> .tup (vs.map (dC ns))
 |v=>dC ns v
def fk (keep:List Nat) (U:ag):ag:=keep.map λs=>(s,U.get s)
def HR (U:ag):List Nat:=U.flatMap λx=>ab x.2
def normal (keep:List Nat) (U:ag):Option ag:=
 let U1:=fk keep U
 let ns:=HR U1
 if ns.length<=98 then some (U1.map λx=>(x.1,fin ns x.2))else none
def ag.drop1 (U:ag) (t:Nat):ag:=U.filter λx=> !(x.1==t)
inductive Ex where
 |normal
 |exit (id:Nat)
 |ret
 deriving DecidableEq
def Uf:Code->Nat
 | .region id _ _=>id
 | .seq a _=>Uf a
 |_=>100000
def sG (c:Code):Nat:=1000+Uf c
def lW {R:Type} (C:Nat->List AV->(AV->List AV->Option R)->Option R) (Lp:Nat->ag->(Ex->ag->Option R)->Option R)
    (T:TT) (N:Nat) (H:cR):Code->Nat->ag->(Ex->ag->Option R)->Option R
 | .skip,_,U,K=>K .normal U
 | .region id ops draw,_,U,K=>
   match H.regs[id]? with
   |none=>none
   |some h=>uB C T N H.pins ops h.mode ops.toList 0 U [] λU' Ls=>
    if draw&& !QV ops.toList Ls then none else
    match normal h.keep U' with
    |some U''=>K .normal U''
    |none=>none
 | .seq a b,blk,U,K=>lW C Lp T N H a blk U λe U'=>match e with
   | .normal=>match kr H.heads (sG b)with
     |none=>lW C Lp T N H b blk U' K
     |some keep=>match normal keep U' with
      |some U''=>Lp (sG b) U'' K
      |none=>none
   | .exit i=>K (.exit i) U'
   | .ret=>K .ret U'
 | .cond (.tmp t) x y,blk,U,K=>match U.get t with
   | .bool b=>cond b (lW C Lp T N H x blk (U.drop1 t) K) (lW C Lp T N H y blk (U.drop1 t) K)
   |_=>none
 | .cond (.const (.bool b)) x y,blk,U,K=>cond b (lW C Lp T N H x blk U K) (lW C Lp T N H y blk U K)
 | .scope c,blk,U,K=>lW C Lp T N H c blk U K
 | .label _,_,U,K=>K .normal U
 | .block id c,_,U,K=>lW C Lp T N H c id U λe U'=>match e with
   | .normal=>K .normal U'
   | .exit i=>if i=id then K .normal U' else K (.exit i) U'
   | .ret=>K .ret U'
 | .loop _,blk,U,K=>match kr H.heads blk with
   |some keep=>match normal keep U with
    |some U'=>Lp blk U' K
    |none=>none
   |none=>none
 | .exit id,_,U,K=>match kr H.exits id with
   |some keep=>match normal keep U with
    |some U'=>K (.exit id) U'
    |none=>none
   |none=>none
 | .ret,_,U,K=>match normal H.rets U with
   |some U'=>K .ret U'
   |none=>none
 |_,_,_,_=>none
def HP {R:Type} (C:Nat->List AV->(AV->List AV->Option R)->Option R) (Lp:Nat->ag->(Ex->ag->Option R)->Option R)
    (T:TT) (N:Nat) (H:cR) (body:Code) (blk:Nat) (U:ag) (K:Ex->ag->Option R):Option R:=
 lW C Lp T N H body blk U λe U'=>match e with
  | .normal=>match kr H.heads blk with
    |some keep=>match normal keep U' with
     |some U''=>K .normal U''
     |none=>none
    |none=>none
  | .exit i=>K (.exit i) U'
  | .ret=>K .ret U'
def Om (n:Nat) (own:Bool):AV->Option AV
 | .sl .nl t xs=>some (if own then .sl (.nm n) t xs else .sl .imm t xs)
 | .sl (.nm m) t xs=>some (if own then .sl (.nm m) t xs else .sl .imm t xs)
 | .sl .imm t xs=>if own then none else some (.sl .imm t xs)
 | .bool b=>some (.bool b)
 | .int k x=>some (.int k x)
 | .lit v=>some (.lit v)
 | .dp m t xs none=>if own then some (.dp m t xs none)else some (.sl .imm (.sl false t) xs)
 | .dq _ t xs none=>if own then none else some (.sl .imm t xs)
 | .mm m t xs o=>if own then some (.mm m t xs o)else none
 | .iptr g t xs i j=>some (.iptr g t xs i j)
 |_=>none
def JC (n:Nat):List Bool->List AV->Option (List AV)
 |o::os,c::cs=>match Om n o c,JC (n+1) os cs with
  |some c',some cs'=>some (c'::cs')
  |_,_=>none
 |[],[]=>some []
 |_,_=>none
def FP (n:Nat) (sp:List Bool):AV->Option AV
 | .agg cells=>(JC n sp cells).map .agg
 | .bx (.nm m) cells=>(JC n sp cells).map (.bx (.nm m))
 | .lit v=>some (.lit v)
 |v=>match sp with
  |[o]=>Om n o v
  |_=>none
def ur (T:TT) (U:ag) (n:Nat) (sp:List Bool):ResultVar->Option AV
 | .tmp t=>FP n sp (U.get t)
 | .cell t ty=>match T.at ty,U.get t with
   |some ti,.bx (.nm _) cells=>if cells.length=ti.cells.length then
     (match jL (Q8 ti.desc) cells with
      |some v=>FP n sp v
      |none=>none)else none
   |_,_=>none
def xX (T:TT) (U:ag):Nat->List (List Bool)->List ResultVar->Option (List AV)
 |n,sp::sps,r::rs=>match ur T U n sp r,xX T U (n+16) sps rs with
  |some v,some vs=>some (v::vs)
  |_,_=>none
 |_,[],[]=>some []
 |_,_,_=>none
def nr (own:Bool):AV->List Nat
 | .dp m _ _ _=>if own then []else [m]
 | .dq m _ _ _=>if own then []else [m]
 | .mm m _ _ _=>if own then []else [m]
 | .sl (.nm m) _ _=>if own then []else [m]
 |_=>[]
def jI:List Bool->List AV->List Nat
 |o::os,c::cs=>nr o c++jI os cs
 |_,_=>[]
def nt (sp:List Bool):AV->List Nat
 | .agg cells=>jI sp cells
 | .bx _ cells=>jI sp cells
 |v=>jI sp [v]
def wZ (T:TT) (U:ag) (sp:List Bool):ResultVar->List Nat
 | .tmp t=>nt sp (U.get t)
 | .cell t ty=>match T.at ty,U.get t with
   |some ti,.bx _ cells=>(match jL (Q8 ti.desc) cells with
    |some v=>nt sp v
    |none=>[])
   |_,_=>[]
def IT (T:TT) (U:ag):List (List Bool)->List ResultVar->List Nat
 |sp::sps,r::rs=>wZ T U sp r++IT T U sps rs
 |_,_=>[]
def ji:List AV->AV
 |[v]=>v
 |vs=> .tup vs
def IY:AV->Bool
 | .bx _ _=>true
 | .sl (.nm _) _ _=>true
 | .wn _ _ _=>true
 | .dp _ _ _ _=>true
 | .dq _ _ _ _=>true
 |_=>false
def Zq (U:ag):Nat->List AV->List AV
 |_,[]=>[]
 |i,a::as=>(match IY a with
  |true=>U.get i
  |false=> .dead)::Zq U (i+1) as
def Jp:Nat->List AV->ag
 |_,[]=>[]
 |i,a::as=>(i,a)::Jp (i+1) as
def pinned (pins:List Nat):Nat->List AV->Bool
 |_,[]=>true
 |i,a::as=>(match IY a with
  |true=>pins.contains i
  |false=>true)&&pinned pins (i+1) as
def yg:List Nat->Bool
 |[]=>true
 |x::r=> !r.contains x&&yg r
def H0 {R:Type} (T:TT) (H:cR) (fn:Func) (args:List AV) (Kf:AV->List AV->Option R) (U:ag):Option R:=
 match xX T U 200 H.spec fn.results.toList with
 |none=>none
 |some rs=>
  let outs:=Zq U 0 args
  let ns:=rs.flatMap ab++outs.flatMap ab
  if ns.length<=16/\yg ns=true/\ns.contains 99=false/\qO (IT T U H.spec fn.results.toList) ns=true/\rs.all bK=true/\outs.all eh=true then Kf (ren (aT ns) (ji rs)) (outs.map (ren (aT ns)))else none
def Ik {R:Type} (C:Nat->List AV->(AV->List AV->Option R)->Option R) (Lp:Nat->ag->(Ex->ag->Option R)->Option R)
    (T:TT) (H:cR) (fn:Func) (args:List AV) (Kf:AV->List AV->Option R):Option R:=
 match fn.body with
 |none=>none
 |some c=>
  if args.length<=fn.ntmps/\pinned H.pins 0 args then
   lW C Lp T fn.ntmps H c 0 (Jp 0 args) λe U=>match e with
    | .normal=>H0 T H fn args Kf U
    | .ret=>H0 T H fn args Kf U
    | .exit _=>none
  else none
abbrev aP:=Nat->Value
abbrev bg:=Nat->Option Nat
def aD (w:World) (b o:Nat) (j:Nat):Option Value:=w.cell? ⟨b,o+j,none⟩
def aL (who:bg) (w:World):(t:Ty)->aM t->(Nat->Option Value)->Nat->Prop
 | .int k,x,g,j=>g j=some (.int k x)
 | .bool,x,g,j=>g j=some (.bool x)
 | .pr a b,x,g,j=>aL who w a x.1 g j/\aL who w b x.2 g (j+a.size)
 | .sl _ t,xs,g,j=> ∃v,g j=some v/\
   ((v= .slice none 0 0/\xs=[])\/
    ∃b o cap,v= .slice (some ⟨b,o,none⟩) xs.length cap/\who b=none/\b<w.heap.size/\xs.length<=cap/\
     ∀i (h:i<xs.length),aL who w t xs[i] (aD w b (o+i*t.size)) 0)
def aQ (who:bg) (w:World) (t:Ty) (xs:List (aM t)) (b o:Nat):Prop:=
 ∀i (h:i<xs.length),aL who w t xs[i] (aD w b (o+i*t.size)) 0
def fB (who:bg) (w:World) (t:Ty) (xs:List (aM t)) (v:Value):Prop:=
 (v= .slice none 0 0/\xs=[])\/
 ∃b o cap,v= .slice (some ⟨b,o,none⟩) xs.length cap/\who b=none/\b<w.heap.size/\xs.length<=cap/\aQ who w t xs b o
def cu (β:aP) (who:bg) (w:World) (n:Nat) (t:Ty) (xs:List (aM t)) (v:Value):Prop:=
 v=β n/\((v= .slice none 0 0/\xs=[])\/
 ∃b o cap arr el,v= .slice (some ⟨b,o,none⟩) xs.length cap/\w.heap[b]? =some (.cells arr el (0,0))/\o+cap*t.size<=arr.size/\
  xs.length<=cap/\who b=some n/\aQ who w t xs b o)
def tE (base:Value) (sz:Nat) (win:Option (Nat×Nat)) (v:Value):Prop:=
 match win with
 |none=>v=base/\ ∃a L cap,base= .slice a L cap
 |some (off,len)=> ∃a L cap a',base= .slice a L cap/\off+len<=L/\v= .slice a' len (cap-off)/\
  (off<cap->a'=a.map (λx=>x.add (off*sz)))/\a'.map (λx=>(x.block,x.spot))=a.map (λx=>(x.block,x.spot))/\
  (∀b o,a=some ⟨b,o,none⟩-> ∃o',a'=some ⟨b,o',none⟩/\o'<=o+cap*sz)
def NO (base:Value) (sz i j:Nat) (v:Value):Prop:=
 (∃b o L cap,base= .slice (some ⟨b,o,none⟩) L cap/\i<L/\v= .pointer (some ⟨b,o+i*sz+j,none⟩))\/
 (∃b,base= .pointer (some ⟨b,0,none⟩)/\i=0/\v= .pointer (some ⟨b,j,none⟩))
def bX (v:Value) (j:Nat):Value:=match v with
 | .tuple arr=>arr.getD j undef
 |v=>v
def jW (who:bg) (w:World) (n:Nat) (t:Ty) (ys:List (aM t)) (v:Value) (b:Nat):Prop:=
 (v= .slice none 0 0/\ys=[])\/
 ∃bi oi ci arr el,v= .slice (some ⟨bi,oi,none⟩) ys.length ci/\w.heap[bi]? =some (.cells arr el (0,0))/\oi+ci*t.size<=arr.size/\ys.length<=ci/\who bi=some n/\bi≠b/\aQ who w t ys bi oi
def bh (β:aP) (who:bg) (w:World) (n:Nat) (t:Ty) (xs:List (List (aM t))) (h:Option Nat) (v:Value):Prop:=
 v=bX (β n) 0/\((v= .slice none 0 0/\xs=[])\/ ∃b o cap arr el,v= .slice (some ⟨b,o,none⟩) xs.length cap/\w.heap[b]? =some (.cells arr el (0,0))/\o+cap<=arr.size/\xs.length<=cap/\who b=some n/\
  (∀i (hi:i<xs.length),h≠some i->aD w b o i=some (bX (β n) (i+1))/\jW who w n t xs[i] (bX (β n) (i+1)) b)/\
  ∀i j ai aj li lj ci cj,i<xs.length->j<xs.length->h≠some i->h≠some j->bX (β n) (i+1)= .slice (some ai) li ci->bX (β n) (j+1)= .slice (some aj) lj cj->ai.block=aj.block->i=j)
def bh.pos {β:aP} {who:bg} {w:World} {n:Nat} {t:Ty} {xs:List (List (aM t))} {h:Option Nat} {v:Value} (hr:bh β who w n t xs h v) (hx:v≠ .slice none 0 0\/xs≠[]):
 v=bX (β n) 0/\ ∃b o cap arr el,v= .slice (some ⟨b,o,none⟩) xs.length cap/\w.heap[b]? =some (.cells arr el (0,0))/\o+cap<=arr.size/\xs.length<=cap/\who b=some n/\
 (∀i (hi:i<xs.length),h≠some i->aD w b o i=some (bX (β n) (i+1))/\jW who w n t xs[i] (bX (β n) (i+1)) b)/\
 ∀i j ai aj li lj ci cj,i<xs.length->j<xs.length->h≠some i->h≠some j->bX (β n) (i+1)= .slice (some ai) li ci->bX (β n) (j+1)= .slice (some aj) lj cj->ai.block=aj.block->i=j:=by
 refine⟨hr.1,?_⟩;rcases hr.2 with⟨h1,h2⟩|h1
 . grind
 . exact h1
def Qa {α:Type} {xs:List α} {i:Nat} (h:i<xs.length):xs≠[]:=by rintro rfl;simp at h
def eE (base:Value):DK->Value->Prop
 | .whole,v=>v=bX base 0/\ ∃a L cap,bX base 0= .slice a L cap
 | .lenw l,v=>v=bX base 0/\((v= .slice none 0 0/\l=0)\/ ∃b o cap,v= .slice (some ⟨b,o,none⟩) l cap)
 | .cell i,v=> ∃b o L cap,bX base 0= .slice (some ⟨b,o,none⟩) L cap/\i<L/\v= .pointer (some ⟨b,o+i,none⟩)
 | .mlen l,v=>v=bX base 0/\ ∃b o cap,v= .slice (some ⟨b,o,none⟩) l cap
 | .mcell i,v=> ∃b o L cap,bX base 0= .slice (some ⟨b,o,none⟩) L cap/\i<L/\v= .pointer (some ⟨b,o+i,none⟩)
 | .mrow _ i,v=>v=bX base (i+1)/\(∃b,v= .map b)/\ ∃a L cap,bX base 0= .slice a L cap/\i<L
 | .row i,v=>v=bX base (i+1)/\(∃a L cap,bX base (i+1)= .slice a L cap)/\ ∃a L cap,bX base 0= .slice a L cap/\i<L
 | .elem sz i j k,v=> ∃b o L cap,bX base (i+1)= .slice (some ⟨b,o,none⟩) L cap/\j<L/\v= .pointer (some ⟨b,o+j*sz+k,none⟩)/\ ∃a L cap,bX base 0= .slice a L cap/\i<L
def dI (who:bg) (w:World) (n b:Nat) (h:Option Nat):(t:Ty)->aM t->(Nat->Option Value)->Nat->Prop
 | .int k,x,g,p=>g p=some (.int k x)
 | .bool,x,g,p=>g p=some (.bool x)
 | .pr s t,x,g,p=>dI who w n b h s x.1 g p/\dI who w n b h t x.2 g (p+s.size)
 | .sl _ t,xs,g,p=>h=some p\/ ∃v,g p=some v/\jW who w n t xs v b
def dZ (β:aP) (who:bg) (w:World) (n:Nat) (t:Ty) (xs:List (aM t)) (h:Option Nat) (v:Value):Prop:=
 v=β n/\((v= .slice none 0 0/\xs=[])\/ ∃b o cap arr el,v= .slice (some ⟨b,o,none⟩) xs.length cap/\w.heap[b]? =some (.cells arr el (0,0))/\o+cap*t.size<=arr.size/\xs.length<=cap/\who b=some n/\
  (∀i (hi:i<xs.length),dI who w n b h t xs[i] (aD w b o) (i*t.size))/\
  ∀p q a a' l l' c c',p<xs.length*t.size->q<xs.length*t.size->h≠some p->h≠some q->aD w b o p=some (.slice (some a) l c)->aD w b o q=some (.slice (some a') l' c')->a.block=a'.block->p=q)
def n7:Option Nat->Value->Value
 |none,v=>v
 |some f,v=> .func (.func f) #[] #[v]
@[simp] def pS (v:Value):n7 none v=v:=rfl
def BR (base:Value) (w:World) (sz:Nat) (v:Value):Prop:= ∃arr0,base= .agg arr0/\ ∀b o L cap arr el,v= .slice (some ⟨b,o,none⟩) L cap->w.heap[b]? =some (.cells arr el (0,0))->
 arr.size=arr0.size/\ ∀j,(j<o\/o+L*sz<=j)->arr[j]? =arr0[j]?
def gh (who:bg) (w:World) (t:Ty) (ys:List (Int×aM t)) (es:List MapEntry):Prop:=
 es.length=ys.length/\ ∀i (h:i<ys.length),∃arr,es[i]? =some ⟨.int .i64 ys[i].1,.agg arr,i⟩/\arr.size=t.size/\aL who w t ys[i].2 (λj=>arr[j]?) 0
def tg (who:bg) (w:World) (n:Nat) (t:Ty) (ys:List (Int×aM t)) (v:Value) (B:Nat->Prop):Prop:=
 ∃b es,v= .map (some b)/\w.heap[b]? =some (.map es ys.length)/\who b=some n/\B b/\gh who w t ys es.toList
def BU (who:bg) (w:World) (n:Nat) (t:Ty) (ys:Option (List (Int×aM t))) (v:Value) (b:Nat):Prop:=
 match ys with
 |none=>v= .map none
 |some ys=>tg who w n t ys v (· ≠b)
def dY (β:aP) (who:bg) (w:World) (n:Nat) (t:Ty) (xs:List (Option (List (Int×aM t)))):Bool->Value->Prop
 |false,v=>v=bX (β n) 0/\ ∃b o cap arr el,v= .slice (some ⟨b,o,none⟩) xs.length cap/\w.heap[b]? =some (.cells arr el (0,0))/\o+cap<=arr.size/\xs.length<=cap/\who b=some n/\
  (∀i (hi:i<xs.length),aD w b o i=some (bX (β n) (i+1))/\BU who w n t xs[i] (bX (β n) (i+1)) b)/\
  ∀i j bi,i<xs.length->j<xs.length->bX (β n) (i+1)= .map (some bi)->bX (β n) (j+1)= .map (some bi)->i=j
 |true,v=> ∃ys,xs=[some ys]/\v=β n/\tg who w n t ys v (λ_=>True)
def aO (β:aP) (who:bg) (w:World):AV->Value->Prop
 | .dead,_=>True
 | .bool b,v=>v= .bool b
 | .int k x,v=>v= .int k x
 | .lit u,v=>v=u/\u.oneCell'=true
 | .sl .imm t xs,v=>fB who w t xs v
 | .sl .nl _ xs,v=>v= .slice none 0 0/\xs=[]
 | .sl (.nm n) t xs,v=>cu β who w n t xs v
 | .sl .inn _ _,_=>False
 | .ref _ n sz win,v=>tE (β n) sz win v
 | .ptr _ n sz i j,v=>NO (β n) sz i j v
 | .dp n t xs h,v=>bh β who w n t xs h v
 | .dr _ n k,v=>eE (β n) k v
 | .wn n t xs,v=>cu β who w n t xs v/\BR (β 98) w t.size v
 | .dq n t xs h,v=>dZ β who w n t xs h v
 | .fd n t xs h,v=>bh β who w n t xs h v/\v=β 98
 | .mm n t xs o,v=>dY β who w n t xs o v
 | .iptr g t xs i j,v=> ∃b o,v=n7 g (.pointer (some ⟨b,o+i*t.size+j,none⟩))/\i<xs.length/\who b=none/\b<w.heap.size/\aQ who w t xs b o
 |_,_=>False
def a8 (β:aP) (who:bg) (w:World) (cells:List AV) (arr:Array Value):Prop:=
 arr.size=cells.length/\ ∀j (h:j<cells.length),aO β who w cells[j] (arr.getD j undef)
def bp (β:aP) (who:bg) (w:World):AV->Value->Prop
 | .bx (.nm n) cells,v=>v=β n/\ ∃b arr el,v= .pointer (some ⟨b,0,none⟩)/\w.heap[b]? =some (.cells arr el (0,0))/\who b=some n/\
    a8 β who w cells arr
 | .agg cells,v=> ∃arr,v= .agg arr/\a8 β who w cells arr
 |av,v=>aO β who w av v
def be (β:aP) (who:bg) (w:World):AV->Value->Prop
 | .tup vs,v=> ∃arr:Array Value,v= .tuple arr/\arr.size=vs.length/\ ∀j (h:j<vs.length),bp β who w vs[j] (arr.getD j undef)
 |av,v=>bp β who w av v
def aI:AV->List Nat
 | .sl (.nm n) _ _=>[n]
 | .dp n _ _ _=>[n]
 | .wn n _ _=>[n,98]
 | .dq n _ _ _=>[n]
 | .fd n _ _ _=>[n,98]
 | .mm n _ _ _=>[n]
 | .dr _ n _=>[n]
 | .ref _ n _ _=>[n]
 | .ptr _ n _ _ _=>[n]
 |_=>[]
def aX:AV->List Nat
 | .bx (.nm n) cells=>n::cells.flatMap aI
 | .bx _ cells=>cells.flatMap aI
 | .agg cells=>cells.flatMap aI
 |v=>aI v
def occ:AV->List Nat
 | .tup vs=>vs.flatMap aX
 |v=>aX v
structure cB (β:aP) (who:bg) (w:World) (β':aP) (who':bg) (w':World) (ns os:List Nat):Prop where
 beta: ∀n∈os,β' n=β n
 own: ∀n∈ns,∀b,who b=some n->who' b=some n/\w'.heap[b]? =w.heap[b]?
 imm: ∀b,who b=none->b<w.heap.size->who' b=none/\w'.heap[b]? =w.heap[b]?
 size:w.heap.size<=w'.heap.size
def Yw {w w':World} {b o j:Nat} (h:w'.heap[b]? =w.heap[b]?):aD w' b o j=aD w b o j:=by
 unfold aD World.cell?;rw[h]
def aL.ext {who:bg} {w:World}: ∀{t:Ty} {x:aM t} {g g':Nat->Option Value} {j:Nat},
 (∀j,g' j=g j)->aL who w t x g j->aL who w t x g' j
 | .int _,_,_,_,_,hg,h=>by simp only[aL]at*;rw[hg];exact h
 | .bool,_,_,_,_,hg,h=>by simp only[aL]at*;rw[hg];exact h
 | .pr _ _,_,_,_,_,hg,h=>⟨aL.ext hg h.1,aL.ext hg h.2⟩
 | .sl _ _,_,_,_,_,hg,h=>by
   obtain⟨v,h1,h2⟩:=h;exact⟨v,by rw[hg];exact h1,h2⟩
def aL.keep {who who':bg} {w w':World} (himm: ∀b,who b=none->b<w.heap.size->who' b=none/\w'.heap[b]? =w.heap[b]?)
 (hsz:w.heap.size<=w'.heap.size): ∀{t:Ty} {x:aM t} {g:Nat->Option Value} {j:Nat},aL who w t x g j->aL who' w' t x g j
 | .int _,_,_,_,h=>h
 | .bool,_,_,_,h=>h
 | .pr _ _,_,_,_,h=>⟨aL.keep himm hsz h.1,aL.keep himm hsz h.2⟩
 | .sl _ t,xs,g,j,h=>by
   obtain⟨v,h1,h2⟩:=h;refine⟨v,h1,?_⟩;rcases h2 with h2|⟨b,o,cap,e1,e2,e3,e4,e5⟩
   . exact .inl h2
   . exact .inr ⟨b,o,cap,e1,(himm b e2 e3).1,O,e4,λi hi=>
      aL.ext (λj=>Yw (himm b e2 e3).2) (aL.keep himm hsz (e5 i hi))⟩
def aQ.keep {who who':bg} {w w':World} {t:Ty} {xs:List (aM t)} {b o:Nat}
 (himm: ∀b,who b=none->b<w.heap.size->who' b=none/\w'.heap[b]? =w.heap[b]?) (hsz:w.heap.size<=w'.heap.size)
 (hb:w'.heap[b]? =w.heap[b]?) (h:aQ who w t xs b o):aQ who' w' t xs b o:=
 λi hi=>aL.ext (λ_=>Yw hb) (aL.keep himm hsz (h i hi))
def fB.keep {who who':bg} {w w':World} {t:Ty} {xs:List (aM t)} {v:Value}
 (himm: ∀b,who b=none->b<w.heap.size->who' b=none/\w'.heap[b]? =w.heap[b]?) (hsz:w.heap.size<=w'.heap.size)
 (h:fB who w t xs v):fB who' w' t xs v:=by
 rcases h with h|⟨b,o,cap,e1,e2,e3,e4,e5⟩
 . exact .inl h
 . exact .inr ⟨b,o,cap,e1,(himm b e2 e3).1,O,e4,aQ.keep himm hsz (himm b e2 e3).2 e5⟩
def bh.map {β β':aP} {who who':bg} {w w':World} {n n':Nat} {t:Ty} {xs:List (List (aM t))} {h:Option Nat} {v:Value} (hb:β' n'=β n)
 (ho: ∀b,who b=some n->who' b=some n'/\w'.heap[b]? =w.heap[b]?)
 (he: ∀(ys:List (aM t)) b o,w'.heap[b]? =w.heap[b]? ->aQ who w t ys b o->aQ who' w' t ys b o) (hr:bh β who w n t xs h v):bh β' who' w' n' t xs h v:=by
 obtain⟨h1,h2⟩:=hr;rcases h2 with h2|⟨b,o,cap,arr,el,e1,e2,e3,e4,e5,e6,e7⟩
 . exact⟨by rw[hb];exact h1,.inl h2⟩
 obtain⟨g1,g2⟩:=ho b e5;refine⟨by rw[hb];exact h1,.inr ⟨b,o,cap,arr,el,e1,by rw[g2];exact e2,e3,e4,g1,λi hi hh=> ?_,by rw[hb];exact e7⟩⟩
 obtain⟨f1,f2⟩:=e6 i hi hh;rw[hb];refine⟨by rw[Yw g2];exact f1,?_⟩
 rcases f2 with f2|⟨bi,oi,ci,ar,l,k1,k2,k3,k4,k5,k6,k7⟩
 . exact .inl f2
 . obtain⟨m1,m2⟩:=ho bi k5;exact .inr ⟨bi,oi,ci,ar,l,k1,by rw[m2];exact k2,k3,k4,m1,k6,he _ _ _ m2 k7⟩
def jW.map {who who':bg} {w w':World} {n n':Nat} {t:Ty} {ys:List (aM t)} {v:Value} {b:Nat}
 (ho: ∀b,who b=some n->who' b=some n'/\w'.heap[b]? =w.heap[b]?)
 (he: ∀(t:Ty) (ys:List (aM t)) b o,w'.heap[b]? =w.heap[b]? ->aQ who w t ys b o->aQ who' w' t ys b o) (h:jW who w n t ys v b):jW who' w' n' t ys v b:=by
 rcases h with h|⟨bi,oi,ci,ar,l,k1,k2,k3,k4,k5,k6,k7⟩
 . exact .inl h
 . obtain⟨m1,m2⟩:=ho bi k5;exact .inr ⟨bi,oi,ci,ar,l,k1,by rw[m2];exact k2,k3,k4,m1,k6,he _ _ _ _ m2 k7⟩
def gh.map {who who':bg} {w w':World} {t:Ty} {ys:List (Int×aM t)} {es:List MapEntry}
 (hi: ∀(x:aM t) g j,aL who w t x g j->aL who' w' t x g j) (h:gh who w t ys es):gh who' w' t ys es:=
 ⟨h.1,λi hl=>let ⟨arr,h1,h2,h3⟩:=h.2 i hl;⟨arr,h1,h2,hi _ _ _ h3⟩⟩
def tg.map {who who':bg} {w w':World} {n n':Nat} {t:Ty} {ys:List (Int×aM t)} {v:Value} {B B':Nat->Prop} (hB: ∀b,B b->B' b)
 (ho: ∀b,who b=some n->who' b=some n'/\w'.heap[b]? =w.heap[b]?)
 (hi: ∀(x:aM t) g j,aL who w t x g j->aL who' w' t x g j) (h:tg who w n t ys v B):tg who' w' n' t ys v B':=by
 obtain⟨b,es,k1,k2,k3,k4,k5⟩:=h;obtain⟨m1,m2⟩:=ho b k3;exact⟨b,es,k1,by rw[m2];exact k2,m1,hB b k4,k5.map hi⟩
def BU.map {who who':bg} {w w':World} {n n':Nat} {t:Ty} {ys:Option (List (Int×aM t))} {v:Value} {b:Nat}
 (ho: ∀b,who b=some n->who' b=some n'/\w'.heap[b]? =w.heap[b]?)
 (hi: ∀(x:aM t) g j,aL who w t x g j->aL who' w' t x g j) (h:BU who w n t ys v b):BU who' w' n' t ys v b:=by
 cases ys with
 |none=>exact h
 |some ys=>exact tg.map (λ_ h=>h) ho hi h
def dY.map {β β':aP} {who who':bg} {w w':World} {n n':Nat} {t:Ty} {xs:List (Option (List (Int×aM t)))} {o:Bool} {v:Value} (hb:β' n'=β n)
 (ho: ∀b,who b=some n->who' b=some n'/\w'.heap[b]? =w.heap[b]?)
 (hi: ∀(x:aM t) g j,aL who w t x g j->aL who' w' t x g j) (hr:dY β who w n t xs o v):dY β' who' w' n' t xs o v:=by
 cases o with
 |false=>
  obtain⟨h1,b,o,cap,arr,el,e1,e2,e3,e4,e5,e6,e7⟩:=hr;obtain⟨g1,g2⟩:=ho b e5;refine⟨by rw[hb];exact h1,b,o,cap,arr,el,e1,by rw[g2];exact e2,e3,e4,g1,λi hl=> ?_,by rw[hb];exact e7⟩
  obtain⟨f1,f2⟩:=e6 i hl;rw[hb];exact⟨by rw[Yw g2];exact f1,f2.map ho hi⟩
 |true=>
  obtain⟨ys,h0,h1,h2⟩:=hr;exact⟨ys,h0,by rw[hb];exact h1,h2.map (λ_ h=>h) ho hi⟩
def dI.imp {who who':bg} {w w':World} {n n' b b':Nat} {h h':Option Nat} {g g':Nat->Option Value} {d:Nat}: ∀{t:Ty} {x:aM t} {p:Nat},
 (∀j,j<t.size->g' (p+d+j)=g (p+j)\/(h'=some (p+d+j)/\ ∃v,g (p+j)=some v/\ ∀k z,v≠ .int k z/\ ∀y,v≠ .bool y))->
 (∀j,j<t.size->h=some (p+j)->h'=some (p+d+j))->
 (∀(u:Ty) (ys:List (aM u)) v j,j<t.size->g (p+j)=some v->jW who w n u ys v b->h'≠some (p+d+j)->jW who' w' n' u ys v b')->dI who w n b h t x g p->dI who' w' n' b' h' t x g' (p+d)
 | .int k,x,p,hg,hh,hi,hr=>by
   have h1:=hg 0 (by simp[Ty.size])
   simp only[zU]at h1;rcases h1 with h1|⟨_,v,h2,h3⟩
   . simp only[dI]at hr⊢;rw[h1];exact hr
   . simp only[dI]at hr;rw[hr]at h2;injection h2 with h2;exact absurd h2.symm (h3 k x).1
 | .bool,x,p,hg,hh,hi,hr=>by
   have h1:=hg 0 (by simp[Ty.size])
   simp only[zU]at h1;rcases h1 with h1|⟨_,v,h2,h3⟩
   . simp only[dI]at hr⊢;rw[h1];exact hr
   . simp only[dI]at hr;rw[hr]at h2;injection h2 with h2;exact absurd h2.symm ((h3 .i64 0).2 x)
 | .pr s t,x,p,hg,hh,hi,hr=>by
   have e1: ∀j,p+(s.size+j)=p+s.size+j:=λj=>O
   have e2: ∀j,p+d+(s.size+j)=p+s.size+d+j:=λj=>O
   refine⟨dI.imp (λj hj=>hg j (by simp only[Ty.size];omega)) (λj hj=>hh j (by simp only[Ty.size];omega)) (λu ys v j hj=>hi u ys v j (by simp only[Ty.size];omega)) hr.1,?_⟩
   have:=dI.imp (t:=t) (x:=x.2) (p:=p+s.size) (d:=d) (g:=g) (g':=g') (h:=h) (h':=h') (who:=who) (who':=who') (w:=w) (w':=w') (n:=n) (n':=n') (b:=b) (b':=b')
    (λj hj=>by have:=hg (s.size+j) (by simp only[Ty.size];omega);rw[e1,e2]at this;exact this)
    (λj hj=>by have:=hh (s.size+j) (by simp only[Ty.size];omega);rw[e1,e2]at this;exact this)
    (λu ys v j hj=>by have:=hi u ys v (s.size+j) (by simp only[Ty.size];omega);rw[e1,e2]at this;exact this) hr.2
   rw[show p+s.size+d=p+d+s.size by omega]at this
   exact this
 | .sl _ t,xs,p,hg,hh,hi,hr=>by
   simp only[dI]at hr⊢;have h1:=hg 0 (by simp[Ty.size])
   have h2:=hh 0 (by simp[Ty.size])
   simp only[zU]at h1 h2;rcases hr with hr|⟨v,q1,q2⟩
   . exact .inl (h2 hr)
   . rcases h1 with h1|⟨h1,_⟩
     . by_cases e:h'=some (p+d)
       . exact .inl e
       . exact .inr ⟨v,by rw[h1];exact q1,hi t xs v 0 (by simp[Ty.size]) (by simpa using q1) q2 (by simpa using e)⟩
     . exact .inl h1
def dI.map {who who':bg} {w w':World} {n n' b:Nat} {h:Option Nat} {g g':Nat->Option Value} {t:Ty} {x:aM t} {p:Nat} (hg: ∀j,g' j=g j)
 (ho: ∀b,who b=some n->who' b=some n'/\w'.heap[b]? =w.heap[b]?)
 (he: ∀(t:Ty) (ys:List (aM t)) b o,w'.heap[b]? =w.heap[b]? ->aQ who w t ys b o->aQ who' w' t ys b o) (hr:dI who w n b h t x g p):dI who' w' n' b h t x g' p:=
 dI.imp (d:=0) (λj _=> .inl (hg _)) (λj _ e=>e) (λu ys v j _ _ hi _=>hi.map ho he) hr
def dZ.map {β β':aP} {who who':bg} {w w':World} {n n':Nat} {t:Ty} {xs:List (aM t)} {h:Option Nat} {v:Value} (hb:β' n'=β n)
 (ho: ∀b,who b=some n->who' b=some n'/\w'.heap[b]? =w.heap[b]?)
 (he: ∀(t:Ty) (ys:List (aM t)) b o,w'.heap[b]? =w.heap[b]? ->aQ who w t ys b o->aQ who' w' t ys b o) (hr:dZ β who w n t xs h v):dZ β' who' w' n' t xs h v:=by
 obtain⟨h1,h2⟩:=hr;refine⟨by rw[hb];exact h1,?_⟩
 rcases h2 with h2|⟨b,o,cap,arr,el,e1,e2,e3,e4,e5,e6,e7⟩
 . exact .inl h2
 obtain⟨g1,g2⟩:=ho b e5;have hc: ∀j,aD w' b o j=aD w b o j:=λj=>Yw g2
 exact .inr ⟨b,o,cap,arr,el,e1,by rw[g2];exact e2,e3,e4,g1,λi hi=>(e6 i hi).map hc ho he,λp q a a' l l' c c' p1 p2 p3 p4 p5 p6=>e7 p q a a' l l' c c' p1 p2 p3 p4 (by rw[<-hc];exact p5) (by rw[<-hc];exact p6)⟩
section
variable {β β':aP} {who who':bg} {w w':World}
def aO.keep {av:AV} {v:Value} (k:cB β who w β' who' w' (qc av) (aI av)) (h:aO β who w av v):aO β' who' w' av v:=by
 cases av with
 |sl o t xs=>
  cases o with
  |imm=>exact fB.keep k.imm k.size h
  |nl=>exact h
  |inn=>exact h
  |nm n=>
   obtain⟨h1,h2⟩:=h;refine⟨by rw[k.beta n (by simp[aI])];exact h1,?_⟩
   rcases h2 with h2|⟨b,o,cap,arr,el,e1,e2,e3,e4,e5,e6⟩
   . exact .inl h2
   . have hk:=k.own n (by simp[qc]) b e5
     exact .inr ⟨b,o,cap,arr,el,e1,by rw[hk.2];exact e2,e3,e4,hk.1,aQ.keep k.imm k.size hk.2 e6⟩
 |ref s n sz win=>
  simp only[aO]at*;rw[k.beta n (by simp[aI])];exact h
 |ptr s n sz i j=>
  simp only[aO]at*;rw[k.beta n (by simp[aI])];exact h
 |dr s n kk=>
  simp only[aO]at*;rw[k.beta n (by simp[aI])];exact h
 |iptr g t xs i j=>
  obtain⟨b,o,e1,e2,e3,e4,e5⟩:=h;exact⟨b,o,e1,e2,(k.imm b e3 e4).1,by have:=k.size;omega,aQ.keep k.imm k.size (k.imm b e3 e4).2 e5⟩
 |dp n t xs hh=>exact bh.map (k.beta n (by simp[aI])) (λb hb=>k.own n (by simp[qc]) b hb) (λ_ _ _ hb he=>he.keep k.imm k.size hb) h
 |dq n t xs hh=>exact dZ.map (k.beta n (by simp[aI])) (λb hb=>k.own n (by simp[qc]) b hb) (λ_ _ _ _ hb he=>he.keep k.imm k.size hb) h
 |mm n t xs o=>exact dY.map (k.beta n (by simp[aI])) (λb hb=>k.own n (by simp[qc]) b hb) (λ_ _ _ he=>aL.keep k.imm k.size he) h
 |fd n t xs hh=>exact⟨bh.map (k.beta n (by simp[aI])) (λb hb=>k.own n (by simp[qc]) b hb) (λ_ _ _ hb he=>he.keep k.imm k.size hb) h.1,by rw[k.beta 98 (by simp[aI])];exact h.2⟩
 |wn n t xs=>
  obtain⟨⟨h1,h2⟩,arr0,g1,g2⟩:=h;rcases h2 with⟨h2,h2'⟩|⟨b,o,cap,arr,el,e1,e2,e3,e4,e5,e6⟩
  . refine⟨⟨by rw[k.beta n (by simp[aI])];exact h1,.inl ⟨h2,h2'⟩⟩,arr0,by rw[k.beta 98 (by simp[aI])];exact g1,λb o L cap arr el q1 _=> ?_⟩
    rw[h2]at q1;cases q1
  . have hk:=k.own n (by simp[qc]) b e5
    refine⟨⟨by rw[k.beta n (by simp[aI])];exact h1,.inr ⟨b,o,cap,arr,el,e1,by rw[hk.2];exact e2,e3,e4,hk.1,aQ.keep k.imm k.size hk.2 e6⟩⟩,arr0,by rw[k.beta 98 (by simp[aI])];exact g1,λb' o' L' cap' arr' el' q1 q2=> ?_⟩
    grind
 |_=>exact h
def cB.mono {ns os ns' os':List Nat} (k:cB β who w β' who' w' ns os) (hn: ∀n∈ns',n∈ns) (ho: ∀n∈os',n∈os):
 cB β who w β' who' w' ns' os':=
 ⟨λn h=>k.beta n (ho n h),λn h=>k.own n (hn n h),k.imm,k.size⟩
def a8.keep {cells:List AV} {arr:Array Value} (k:cB β who w β' who' w' (cells.flatMap qc) (cells.flatMap aI))
 (h:a8 β who w cells arr):a8 β' who' w' cells arr:=
 ⟨h.1,λj hj=>aO.keep (k.mono (λn hn=>zH.2 ⟨_,zN hj,hn⟩) (λn hn=>zH.2 ⟨_,zN hj,hn⟩)) (h.2 j hj)⟩
def bp.keep {av:AV} {v:Value} (k:cB β who w β' who' w' (qi av) (aX av)) (h:bp β who w av v):bp β' who' w' av v:=by
 cases av with
 |bx o cells=>
  cases o with
  |nm n=>
   obtain⟨h0,b,arr,el,e1,e2,e3,e4⟩:=h;have hk:=k.own n (by simp[qi]) b e3
   exact⟨by rw[k.beta n (by simp[aX])];exact h0,b,arr,el,e1,by rw[hk.2];exact e2,hk.1,
    a8.keep (k.mono (λn hn=>by simp only[qi];grind) (λn hn=>by simp only[aX];grind)) e4⟩
  |_=>exact h
 |agg cells=>
  obtain⟨arr,e1,e2⟩:=h;exact⟨arr,e1,a8.keep k e2⟩
 |dead=>trivial
 |bool b=>exact aO.keep (av:= .bool b) k h
 |int x n=>exact aO.keep (av:= .int x n) k h
 |lit u=>exact aO.keep (av:= .lit u) k h
 |sl o t xs=>exact aO.keep (av:= .sl o t xs) k h
 |tup vs=>exact h.elim
 |ref s n sz win=>exact aO.keep (av:= .ref s n sz win) k h
 |ptr s n sz i j=>exact aO.keep (av:= .ptr s n sz i j) k h
 |iptr g t xs i j=>exact aO.keep (av:= .iptr g t xs i j) k h
 |dp n t xs hh=>exact aO.keep (av:= .dp n t xs hh) k h
 |dr s n kk=>exact aO.keep (av:= .dr s n kk) k h
 |wn n t xs=>exact aO.keep (av:= .wn n t xs) k h
 |dq n t xs hh=>exact aO.keep (av:= .dq n t xs hh) k h
 |fd n t xs hh=>exact aO.keep (av:= .fd n t xs hh) k h
 |mm n t xs o=>exact aO.keep (av:= .mm n t xs o) k h
def be.keep {av:AV} {v:Value} (k:cB β who w β' who' w' (ab av) (occ av)) (h:be β who w av v):be β' who' w' av v:=by
 cases av with
 |tup vs=>
  obtain⟨arr,e1,e2,e3⟩:=h;exact⟨arr,e1,e2,λj hj=>bp.keep (k.mono (λn hn=>zH.2 ⟨_,zN hj,hn⟩) (λn hn=>zH.2 ⟨_,zN hj,hn⟩)) (e3 j hj)⟩
 |dead=>trivial
 |bool b=>exact bp.keep (av:= .bool b) k h
 |int x n=>exact bp.keep (av:= .int x n) k h
 |lit u=>exact bp.keep (av:= .lit u) k h
 |sl o t xs=>exact bp.keep (av:= .sl o t xs) k h
 |bx o cells=>exact bp.keep (av:= .bx o cells) k h
 |agg cells=>exact bp.keep (av:= .agg cells) k h
 |ref s n sz win=>exact bp.keep (av:= .ref s n sz win) k h
 |ptr s n sz i j=>exact bp.keep (av:= .ptr s n sz i j) k h
 |iptr g t xs i j=>exact bp.keep (av:= .iptr g t xs i j) k h
 |dp n t xs hh=>exact bp.keep (av:= .dp n t xs hh) k h
 |dr s n kk=>exact bp.keep (av:= .dr s n kk) k h
 |wn n t xs=>exact bp.keep (av:= .wn n t xs) k h
 |dq n t xs hh=>exact bp.keep (av:= .dq n t xs hh) k h
 |fd n t xs hh=>exact bp.keep (av:= .fd n t xs hh) k h
 |mm n t xs o=>exact bp.keep (av:= .mm n t xs o) k h
end
def qg (U:ag) (s:Nat) (v:AV):(U.set s v).get s=v:=by
 induction U with
 |nil=>simp[ag.set,ag.get]
 |cons x r ih=>
  obtain⟨k,u⟩:=x;by_cases h:k=s<;>simp[ag.set,ag.get,h,ih]
def qf (U:ag) {s t:Nat} (v:AV) (hne:t≠s):(U.set s v).get t=U.get t:=by
 induction U with
 |nil=>simp[ag.set,ag.get];omega
 |cons x r ih=>
  obtain⟨k,u⟩:=x;by_cases h:k=s
  . subst h;simp[ag.set,ag.get]
    grind
  . simp only[ag.set,h,if_false,ag.get]
    grind
def FN:Nat:=99
def RS:List (Nat×Operand)->List (IntKind×Int)
 |[]=>[]
 |(_,.const (.int k n))::r=>(k,n)::RS r
 |_::r=>RS r
def Rf:List Oper->Tmp->List (IntKind×Int)
 |[],_=>[]
 |o::r,t=>match o.dst,o.op with
  |some d,.build _ ps=>if d=t then RS ps.toList else Rf r t
  |_,_=>Rf r t
def QB (all:List Oper):List Oper->List (Nat×IntKind×LI)
 |[]=>[]
 |o::r=>match o.op with
  | .store _ (.global g) (.tmp t)=>(match Rf all t with
    |(k,n)::l=>[(g,k,n::l.map (·.2))]
    |[]=>[])++QB all r
  |_=>QB all r
def Og:Code->List Oper
 | .region _ ops _=>ops.toList
 | .seq a b=>Og a++Og b
 |_=>[]
def N4 (P:Program):List (Nat×IntKind×LI):=
 match P.funcs.toList.find? λf=>f.name== "gosem.cut.vars" with
 |some f=>(match f.body with
  |some c=>QB (Og c) (Og c)
  |none=>[])
 |none=>[]
def ct (P:Program) (who:bg) (w:World):Prop:= ∀x∈N4 P,who x.1=none/\x.1<w.heap.size/\ ∀i (h:i<x.2.2.length),w.cell? ⟨x.1,i,none⟩=some (.int x.2.1 x.2.2[i])
structure aN where
 prog:Program
 w0:World
 who0:bg
 pins:List (Nat×Value)
 N:Nat
 gok:ct prog who0 w0
 fr:Value
structure aC (E:aN) (D:Nat->Prop) (β:aP) (who:bg) (U:ag) (hd:List (AV×Value)) (a:Act) (w:World):Prop where
 rel: ∀s,be β who w (U.get s) (a.tmps.getD s undef)
 nod: ∀s,(ab (U.get s)).Nodup
 dis: ∀s s' n,n∈ab (U.get s)->n∈ab (U.get s')->s=s'
 occ: ∀s n,n∈Vs.occ (U.get s)->D n
 hrel: ∀x∈hd,be β who w x.1 x.2
 hnod:(hd.flatMap λx=>ab x.1).Nodup
 hdis: ∀x∈hd,∀n∈ab x.1,∀s,n∉ab (U.get s)
 hocc: ∀x∈hd,∀n∈Vs.occ x.1,D n
 wsz: ∀b n,who b=some n->b<w.heap.size
 fr0: ∀b,b<E.w0.heap.size->E.who0 b=none\/E.who0 b=some FN->w.heap[b]? =E.w0.heap[b]?
 fr1: ∀b n,who b=some n->E.who0 b≠none\/E.w0.heap.size<=b
 fr2:E.w0.heap.size<=w.heap.size
 fr3: ∀b,E.who0 b=some FN->who b=some FN
 fr4:w.os=E.w0.os/\w.output=E.w0.output
 dfn: ¬D FN
 dfr:a.defers=[]
 tsz:a.tmps.size=E.N
 pin: ∀p∈E.pins,a.tmps.getD p.1 undef=p.2
 frm:β 98=E.fr
 d98:D 98
def Xn {av:AV} {n:Nat} (h:n∈qc av):n∈aI av:=by
 cases av with
 |sl o t xs=>cases o<;>simp[qc,aI]at* ;exact h
 |dp m t xs hh=>exact h
 |dq m t xs hh=>exact h
 |wn m t xs=>simp only[qc,aI,zT,zZ,or_false]at*;exact .inl h
 |mm m t xs o=>exact h
 |fd m t xs hh=>simp only[qc,aI,zT,zZ,or_false]at*;exact .inl h
 |_=>simp[qc]at h
def O3 {cells:List AV} {n:Nat} {f g:AV->List Nat} (hfg: ∀c,n∈f c->n∈g c) (h:n∈cells.flatMap f):n∈cells.flatMap g:=by
 grind
def Xm {av:AV} {n:Nat} (h:n∈qi av):n∈aX av:=by
 cases av with
 |bx o cells=>
  cases o with
  |nm m=>
   simp only[qi,aX,zT]at*;exact h.imp id (O3 λc=>Xn)
  |_=>exact O3 (λc=>Xn) h
 |agg cells=>exact O3 (λc=>Xn) h
 |sl o t xs=>exact Xn (av:= .sl o t xs) h
 |dp m t xs hh=>exact h
 |dq m t xs hh=>exact h
 |wn m t xs=>exact Xn (av:= .wn m t xs) h
 |fd m t xs hh=>exact Xn (av:= .fd m t xs hh) h
 |mm m t xs o=>exact h
 |_=>simp[qi,qc]at h
def qj {av:AV} {n:Nat} (h:n∈ab av):n∈Vs.occ av:=by
 cases av with
 |tup vs=>exact O3 (λc=>Xm) h
 |sl o t xs=>exact Xm (av:= .sl o t xs) h
 |dp m t xs hh=>exact h
 |dq m t xs hh=>exact h
 |wn m t xs=>exact Xm (av:= .wn m t xs) h
 |fd m t xs hh=>exact Xm (av:= .fd m t xs hh) h
 |mm m t xs o=>exact h
 |bx o cells=>exact Xm (av:= .bx o cells) h
 |agg cells=>exact Xm (av:= .agg cells) h
 |_=>simp[ab,qi,qc]at h
section
variable {E:aN} {D:Nat->Prop} {β:aP} {who:bg} {U:ag} {hd:List (AV×Value)} {a:Act} {w:World}
def aC.mono (S:aC E D β who U hd a w) {D':Nat->Prop} (h: ∀n,D n->D' n) (hF: ¬D' FN):aC E D' β who U hd a w:=
 {S with occ:=λs n hn=>h n (S.occ s n hn),hocc:=λx hx n hn=>h n (S.hocc x hx n hn),dfn:=hF,d98:=h 98 S.d98}
def aC.ext (S:aC E D β who U hd a w) {U':ag} (h: ∀s,U'.get s=U.get s):aC E D β who U' hd a w:=
 {S with rel:=λs=>by rw[h];exact S.rel s,nod:=λs=>by rw[h];exact S.nod s,
         dis:=λs s' n h1 h2=>S.dis s s' n (by rw[<-h];exact h1) (by rw[<-h];exact h2),
         occ:=λs n hn=>S.occ s n (by rw[<-h];exact hn),
         hdis:=λx hx n hn s=>by rw[h];exact S.hdis x hx n hn s}
def aC.drop (S:aC E D β who U hd a w) {x:AV×Value} {hd':List (AV×Value)} (h:hd=x::hd'):aC E D β who U hd' a w:=by
 subst h
 exact{S with hrel:=λy hy=>S.hrel y (mT hy),hnod:=(zK.1 (by simpa using S.hnod)).2.1,
              hdis:=λy hy=>S.hdis y (mT hy),hocc:=λy hy=>S.hocc y (mT hy)}
def aC.take0 (S:aC E D β who U hd a w) {v:AV} {c:Value} (hv:be β who w v c) (h0:ab v=[]) (ho: ∀n∈Vs.occ v,D n):
 aC E D β who U ((v,c)::hd) a w:=
 {S with
  hrel:=λy hy=>by rcases mC hy with rfl|hy;exact hv;exact S.hrel y hy
  hnod:=by simpa [h0]using S.hnod
  hdis:=λy hy=>by
   rcases mC hy with rfl|hy
   . intro n hn;simp[h0]at hn
   . exact S.hdis y hy
  hocc:=λy hy=>by rcases mC hy with rfl|hy;exact ho;exact S.hocc y hy}
def aC.abs (S:aC E D β who U hd a w) {s:Nat} {v:AV} (hv:be β who w v (a.tmps.getD s undef)) (hn: ∀n∈ab v,n∈ab (U.get s))
 (hnd:(ab v).Nodup) (ho: ∀n∈Vs.occ v,D n):aC E D β who (U.set s v) hd a w:=
 {S with
  rel:=λt=>by
   by_cases h:t=s
   . subst h;rw[qg];exact hv
   . rw[qf _ _ h];exact S.rel t
  nod:=λt=>by
   by_cases h:t=s
   . subst h;rw[qg];exact hnd
   . rw[qf _ _ h];exact S.nod t
  dis:=λt t' n h1 h2=>by
   have g: ∀t,n∈ab ((U.set s v).get t)->n∈ab (U.get t):=λt ht=>by
    by_cases h:t=s
    . subst h;rw[qg]at ht;exact hn n ht
    . rw[qf _ _ h]at ht;exact ht
   exact S.dis t t' n (g t h1) (g t' h2)
  occ:=λt n h1=>by
   by_cases h:t=s
   . subst h;rw[qg]at h1;exact ho n h1
   . rw[qf _ _ h]at h1;exact S.occ t n h1
  hdis:=λx hx n h1 t=>by
   by_cases h:t=s
   . subst h;rw[qg];exact λh2=>S.hdis x hx n h1 t (hn n h2)
   . rw[qf _ _ h];exact S.hdis x hx n h1 t}
def aC.takeAll (S:aC E D β who U hd a w) (s:Nat):aC E D β who (U.set s .dead) ((U.get s,a.tmps.getD s undef)::hd) a w:=by
 have S':=S.abs (s:=s) (v:= .dead) trivial (λn h=>by simp[ab,qi,qc]at h) (by simp[ab,qi,qc]) (λn h=>by simp[Vs.occ,aX,aI]at h)
 exact{S' with
  hrel:=λy hy=>by rcases mC hy with rfl|hy;exact S.rel s;exact S.hrel y hy
  hnod:=by
   simp only[fC];refine zK.2 ⟨S.nod s,S.hnod,λn h1 m h2=> ?_⟩
   rintro rfl
   obtain⟨x,hx,hn⟩:=zH.1 h2;exact S.hdis x hx n hn s h1
  hdis:=λy hy=>by
   rcases mC hy with rfl|hy
   . intro n h1 t h2;by_cases h:t=s
     . subst h;rw[qg]at h2;simp[ab,qi,qc]at h2
     . rw[qf _ _ h]at h2;exact h (S.dis t s n h2 h1)
   . exact S'.hdis y hy
  hocc:=λy hy=>by rcases mC hy with rfl|hy;exact S.occ s;exact S.hocc y hy}
def aC.put {v:AV} {c:Value} (S:aC E D β who U ((v,c)::hd) a w) {d:Nat} (hd1:d<E.N) (hp: ∀p∈E.pins,p.1≠d):
 aC E D β who (U.set d v) hd (a.put (some d) c) w:=by
 have hsz:d<a.tmps.size:=by rw[S.tsz];exact hd1
 have hget: ∀t,(a.put (some d) c).tmps.getD t undef=if t=d then c else a.tmps.getD t undef:=λt=>by
  simp only[Act.put,Array.getD_eq_getD_getElem?,Array.getElem?_setIfInBounds]
  grind
 have hv:=S.hrel _ mS;have hin: ∀t,t≠d->(a.put (some d) c).tmps.getD t undef=a.tmps.getD t undef:=λt h=>by rw[hget,ao h]
 exact{
  rel:=λt=>by
   by_cases h:t=d
   . subst h;rw[qg,hget,iP rfl];exact hv
   . rw[qf _ _ h,hin t h];exact S.rel t
  nod:=λt=>by
   by_cases h:t=d
   . subst h;rw[qg];exact(zK.1 (by simpa using S.hnod)).1
   . rw[qf _ _ h];exact S.nod t
  dis:=λt t' n h1 h2=>by
   by_cases h:t=d<;>by_cases h':t'=d
   . rw[h,h']
   . subst h;rw[qg]at h1;rw[qf _ _ h']at h2;exact absurd h2 (S.hdis _ mS n h1 t')
   . subst h';rw[qg]at h2;rw[qf _ _ h]at h1;exact absurd h1 (S.hdis _ mS n h2 t)
   . rw[qf _ _ h]at h1;rw[qf _ _ h']at h2;exact S.dis t t' n h1 h2
  occ:=λt n h1=>by
   by_cases h:t=d
   . subst h;rw[qg]at h1;exact S.hocc _ mS n h1
   . rw[qf _ _ h]at h1;exact S.occ t n h1
  hrel:=λy hy=>S.hrel y (mT hy)
  hnod:=(zK.1 (by simpa using S.hnod)).2.1
  hdis:=λy hy n h1 t=>by
   by_cases h:t=d
   . subst h;rw[qg];have:=(zK.1 (by simpa using S.hnod:(ab v++hd.flatMap λx=>ab x.1).Nodup)).2.2
     grind
   . rw[qf _ _ h];exact S.hdis y (mT hy) n h1 t
  hocc:=λy hy=>S.hocc y (mT hy)
  wsz:=S.wsz,fr0:=S.fr0,fr1:=S.fr1,fr2:=S.fr2,fr3:=S.fr3,fr4:=S.fr4,dfn:=S.dfn
  dfr:=S.dfr
  tsz:=by simp[Act.put,S.tsz]
  pin:=λp hp'=>by rw[hin p.1 (hp p hp')];exact S.pin p hp'
  frm:=S.frm
  d98:=S.d98}
def aC.putNone {v:AV} {c:Value} (S:aC E D β who U ((v,c)::hd) a w):aC E D β who U hd (a.put none c) w:=by
 have:=S.drop rfl;simpa [Act.put]using this
def aC.glob (S:aC E D β who U hd a w):ct E.prog who w:=λx hx=>by
 obtain⟨h1,h2,h3⟩:=E.gok x hx;have hb:=S.fr0 x.1 h2 (.inl h1);refine⟨?_,tL h2 S.fr2,λi hi=> ?_⟩
 . cases hw:who x.1 with
   |none=>rfl
   |some n=>
    rcases S.fr1 _ n hw with h|h
    . exact absurd h1 h
    . omega
 . have:=h3 i hi;rw[<-this];unfold World.cell?;simp only[hb]
def aC.world (S:aC E D β who U hd a w) {β':aP} {who':bg} {w':World}
 (hrel: ∀s,be β' who' w' (U.get s) (a.tmps.getD s undef)) (hhrel: ∀x∈hd,be β' who' w' x.1 x.2)
 (hw: ∀b n,who' b=some n->b<w'.heap.size) (hsz:w.heap.size<=w'.heap.size)
 (h0: ∀b,b<E.w0.heap.size->E.who0 b=none\/E.who0 b=some FN->w'.heap[b]? =w.heap[b]?)
 (h1: ∀b n,who' b=some n->E.who0 b≠none\/E.w0.heap.size<=b) (h3: ∀b,E.who0 b=some FN->who' b=some FN) (h4:w'.os=w.os/\w'.output=w.output:=by exact⟨rfl,rfl⟩) (h98:β' 98=β 98:=by exact rfl):aC E D β' who' U hd a w':=
 {S with frm:=h98.trans S.frm,rel:=hrel,hrel:=hhrel,wsz:=hw,fr0:=λb hb hn=>by rw[h0 b hb hn];exact S.fr0 b hb hn,fr1:=h1,fr2:=zf S.fr2 hsz,fr3:=h3,fr4:=⟨h4.1.trans S.fr4.1,h4.2.trans S.fr4.2⟩}
def aC.keep (S:aC E D β who U hd a w) {β':aP} {who':bg} {w':World}
 (hβ: ∀n,D n->β' n=β n) (hown: ∀b n,who b=some n->who' b=some n) (hheap: ∀b,b<w.heap.size->w'.heap[b]? =w.heap[b]?)
 (himm: ∀b,who b=none->b<w.heap.size->who' b=none) (hw: ∀b n,who' b=some n->b<w'.heap.size)
 (hsz:w.heap.size<=w'.heap.size) (h4:w'.os=w.os/\w'.output=w.output:=by exact⟨rfl,rfl⟩):aC E D β' who' U hd a w':=by
 have k: ∀ns os,(∀n∈os,D n)->cB β who w β' who' w' ns os:=λns os ho=>
  ⟨λn hn=>hβ n (ho n hn),λn _ b hb=>⟨hown b n hb,hheap b (S.wsz b n hb)⟩,λb hb hlt=>⟨himm b hb hlt,hheap b hlt⟩,hsz⟩
 refine S.world (λs=>(S.rel s).keep (k _ _ (S.occ s))) (λx hx=>(S.hrel x hx).keep (k _ _ (S.hocc x hx))) hw hsz
  (λb hb _=>hheap b (tL hb S.fr2)) (λb n hb=> ?_) (λb hb=>hown b FN (S.fr3 b hb)) h4 (hβ 98 S.d98)
 by_cases hlt:b<w.heap.size
 . cases hwb:who b with
   |none=>grind
   |some m=>exact S.fr1 b m hwb
 . exact .inr (by have:=S.fr2;omega)
end
abbrev Q5:=Nat->List AV->AV->List AV->Prop
def vw (U:ag) (G:Nat):Option AV:=cr (G/32) (G%32) (U.get (G/32))
def Ol {s j:Nat} (h:17<=j) (a:AV):cr s j a=none:=by
 match j,h with
 |j+2,h=>simp only[cr];rw[ao O]
def FG (U:ag) {s j:Nat} (h:j<32):vw U (32*s+j)=cr s j (U.get s):=by
 unfold vw
 grind
def sq (U:ag) (s:Nat):vw U (32*s)=some (U.get s):=by
 have:=FG U (s:=s) (j:=0) O;simpa [cr]using this
def Oh {U τ:ag} {G:Nat} (h:τ.get (G/32)=U.get (G/32)):vw τ G=vw U G:=by unfold vw;rw[h]
def YI: ∀{b n G:Nat} {r:List Nat},G∈jt b n r↔(b<=G/\G<b+n)\/G∈r
 |b,0,G,r=>by simp only[jt];grind
 |b,n+1,G,r=>by
  simp only[jt,zT,YI (b:=b+1) (n:=n)]
  grind
def Yf {s G:Nat} {r:List Nat}:G∈jr s r↔(G/32=s/\G%32<17)\/G∈r:=by
 unfold jr;rw[YI]
 grind
def Xi {s G:Nat} {W r:List Nat}:G∈fG s W r↔(∃j∈W,G=32*s+j)\/G∈r:=by
 induction W with
 |nil=>simp[fG]
 |cons j js ih=>
  simp only[fG,zT,ih]
  grind
def qme (U:ag) {s G:Nat} (v:AV) (h: ¬(G/32=s/\G%32<17)):vw (U.set s v) G=vw U G:=by
 by_cases e:G/32=s
 . unfold vw;rw[Ol O,Ol O]
 . exact Oh (qf _ _ e)
def qv7 (U:ag) {s G:Nat} {v:AV} {W:List Nat} (h: ∀j,j∉W->cr s j v=cr s j (U.get s)) (h1: ∀j∈W,G≠32*s+j):vw (U.set s v) G=vw U G:=by
 by_cases e:G/32=s
 . subst e;unfold vw;rw[qg]
   grind
 . exact Oh (qf _ _ e)
def VN (U τ:ag) {s G:Nat} (v:AV) (h:G/32≠s->vw τ G=vw U G):vw (τ.set s v) G=vw (U.set s v) G:=by
 by_cases e:G/32=s
 . subst e;exact Oh (by rw[qg,qg])
 . have h':=h e;unfold vw at h'⊢;rw[qf _ _ e,qf _ _ e];exact h'
inductive aq (CO:Q5) {α:Type}:M α->ag->α->ag->List Nat->List Nat->Prop where
 |ret {a:α} {U:ag}:aq CO (.ret a) U a U [] []
 |get {s:Nat} {k:AV->M α} {U U':ag} {a:α} {R W:List Nat}:aq CO (k (U.get s)) U a U' R W->aq CO (.get s k) U a U' ((32*s)::R) W
 |view {s j:Nat} {k:Option AV->M α} {U U':ag} {a:α} {R W:List Nat}:aq CO (k (cr s j (U.get s))) U a U' R W->aq CO (.view s j k) U a U' ((32*s+j)::R) W
 |set {s:Nat} {v:AV} {k:M α} {U U':ag} {a:α} {R W:List Nat}:aq CO k (U.set s v) a U' R W->aq CO (.set s v k) U a U' (jr s R) (jr s W)
 |upd {s:Nat} {V:List Nat} {f:AV->Option AV} {hf: ∀a b,f a=some b-> ∀j,j∉V->cr s j b=cr s j a} {v:AV} {k:M α} {U U':ag} {a:α} {R W:List Nat}:f (U.get s)=some v->aq CO k (U.set s v) a U' R W->aq CO (.upd s V f hf k) U a U' ((32*s)::fG s V R) (fG s V W)
 |ask {p:Prop} {d:Decidable p} {k:M α} {U U':ag} {a:α} {R W:List Nat}:p->aq CO k U a U' R W->aq CO (.ask p d k) U a U' R W
 |know {s:Nat} {b:Bool} {k:Bool->M α} {U U':ag} {a:α} {R W:List Nat}:U.get s= .bool b->aq CO (k b) U a U' R W->aq CO (.know s k) U a U' ((32*s)::R) W
 |call {f:Nat} {as:List AV} {k:AV->List AV->M α} {r:AV} {os:List AV} {U U':ag} {a:α} {R W:List Nat}:
   CO f as r os->aq CO (k r os) U a U' R W->aq CO (.call f as k) U a U' R W
def XL: ∀(k n:Nat) (a b:List Nat),jt k n (a++b)=jt k n a++b
 |_,0,_,_=>rfl
 |k,n+1,a,b=>by simp only[jt,XL (k+1) n a b,qX]
def XP (s:Nat) (a b:List Nat):jr s (a++b)=jr s a++b:=XL _ _ _ _
def XE (s:Nat) (V a b:List Nat):fG s V (a++b)=fG s V a++b:=by
 induction V with
 |nil=>rfl
 |cons j js ih=>simp[fG,ih]
def pz (U τ:ag):Prop:= ∀s,τ.get s=U.get s
section
variable {CO:Q5} {α β:Type}
def aq.bind {m:M α} {f:α->M β} {U U1:ag} {b:β} {R W:List Nat} (h:aq CO (m.bind f) U b U1 R W):
 ∃a U' R1 W1 R2 W2,aq CO m U a U' R1 W1/\aq CO (f a) U' b U1 R2 W2/\R=R1++R2/\W=W1++W2:=by
 induction m generalizing U R W with
 |ret a=>exact⟨a,U,[],[],R,W,.ret,h,rfl,rfl⟩
 |fail=>cases h
 |get s k ih=>
  cases h with
  |get h=>
   obtain⟨a,U',R1,W1,R2,W2,h1,h2,e1,e2⟩:=ih _ h;exact⟨a,U',_,_,R2,W2,.get h1,h2,by simp[e1],e2⟩
 |view s j k ih=>
  cases h with
  |view h=>
   obtain⟨a,U',R1,W1,R2,W2,h1,h2,e1,e2⟩:=ih _ h;exact⟨a,U',_,_,R2,W2,.view h1,h2,by simp[e1],e2⟩
 |set s v k ih=>
  cases h with
  |set h=>
   obtain⟨a,U',R1,W1,R2,W2,h1,h2,e1,e2⟩:=ih h;exact⟨a,U',_,_,R2,W2,.set h1,h2,by rw[e1,XP],by rw[e2,XP]⟩
 |upd s V g hg k ih=>
  cases h with
  |upd hv h=>
   obtain⟨a,U',R1,W1,R2,W2,h1,h2,e1,e2⟩:=ih h;exact⟨a,U',_,_,R2,W2,.upd hv h1,h2,by rw[e1,XE];rfl,by rw[e2,XE]⟩
 |ask p d k ih=>
  cases h with
  |ask hp h=>
   obtain⟨a,U',R1,W1,R2,W2,h1,h2,e1,e2⟩:=ih h;exact⟨a,U',_,_,R2,W2,.ask hp h1,h2,e1,e2⟩
 |know s k ih=>
  cases h with
  |know hb h=>
   obtain⟨a,U',R1,W1,R2,W2,h1,h2,e1,e2⟩:=ih _ h;exact⟨a,U',_,_,R2,W2,.know hb h1,h2,by simp[e1],e2⟩
 |call g as k ih=>
  cases h with
  |call hc h=>
   obtain⟨a,U',R1,W1,R2,W2,h1,h2,e1,e2⟩:=ih _ _ h;exact⟨a,U',_,_,R2,W2,.call hc h1,h2,e1,e2⟩
def aq.frame {m:M α} {U U':ag} {a:α} {R W:List Nat} (h:aq CO m U a U' R W): ∀s,s∉W->vw U' s=vw U s:=by
 induction h with
 |ret=>exact λ_ _=>rfl
 |get _ ih=>exact ih
 |view _ ih=>exact ih
 | @set s v k U U' a R W _ ih=>
   intro t ht;rw[Yf,not_or]at ht;rw[ih t ht.2,qme _ _ ht.1]
 | @upd s V f hf v k U U' a R W hv _ ih=>
   intro t ht;rw[Xi,not_or]at ht;rw[ih t ht.2,qv7 _ (hf _ _ hv) (λj hj e=>ht.1 ⟨j,hj,e⟩)]
 |ask _ _ ih=>exact ih
 |know _ _ ih=>exact ih
 |call _ _ ih=>exact ih
def aq.subW {m:M α} {U U':ag} {a:α} {R W:List Nat} (h:aq CO m U a U' R W): ∀s∈W,s∈R:=by
 induction h with
 |ret=>intro s h;exact h
 |get _ ih=>grind
 |view _ ih=>grind
 |set _ ih=>
  intro t ht;rw[Yf]at ht⊢;exact ht.imp id (ih t)
 |upd _ _ ih=>
  intro t ht;rw[Xi]at ht;exact mT (Xi.2 (ht.imp id (ih t)))
 |ask _ _ ih=>exact ih
 |know _ _ ih=>grind
 |call _ _ ih=>exact ih
def aq.local {m:M α} {U U':ag} {a:α} {R W:List Nat} (h:aq CO m U a U' R W): ∀(τ:ag) (X:Nat->Prop),
 (∀s,(s∈R\/X s)->vw τ s=vw U s)-> ∃τ',aq CO m τ a τ' R W/\(∀s,(s∈R\/X s)->vw τ' s=vw U' s):=by
 have getc: ∀{τ U:ag} {s:Nat},vw τ (32*s)=vw U (32*s)->τ.get s=U.get s:=λh=>by
  rw[sq,sq]at h;injection h
 have one: ∀{G:Nat} {R:List Nat} {X:Nat->Prop} {τ U:ag},(∀s,(s∈G::R\/X s)->vw τ s=vw U s)-> ∀s,(s∈R\/(X s\/s=G))->vw τ s=vw U s:=λh s hs=>by
  grind
 have two: ∀{G:Nat} {R:List Nat} {X:Nat->Prop} {s:Nat},(s∈G::R\/X s)->(s∈R\/(X s\/s=G)):=λhs=>by
  grind
 induction h with
 |ret=>exact λτ X h=>⟨τ,.ret,h⟩
 | @get s k U U' a R W _ ih=>
   intro τ X h;obtain⟨τ',h1,h2⟩:=ih τ (λt=>X t\/t=32*s) (one h)
   exact⟨τ',.get (by grind),λt ht=>h2 t (two ht)⟩
 | @view s j k U U' a R W _ ih=>
   intro τ X h;obtain⟨τ',h1,h2⟩:=ih τ (λt=>X t\/t=32*s+j) (one h)
   have e:cr s j (τ.get s)=cr s j (U.get s):=by
    rcases zq j 32 with hj|hj
    . have:=h (32*s+j) (.inl mS)
      rwa [FG _ hj,FG _ hj]at this
    . rw[Ol O,Ol O]
   exact⟨τ',.view (by rw[e];exact h1),λt ht=>h2 t (two ht)⟩
 | @set s v k U U' a R W _ ih=>
   intro τ X h
   obtain⟨τ',h1,h2⟩:=ih (τ.set s v) (λt=>X t\/(t/32=s/\t%32<17)) (λt ht=>VN _ _ _ λe1=>h t (by
    rcases ht with ht|ht|ht
    . exact .inl (Yf.2 (.inr ht))
    . exact .inr ht
    . exact absurd ht.1 e1))
   refine⟨τ',.set h1,λt ht=>h2 t ?_⟩
   rcases ht with ht|ht
   . rcases Yf.1 ht with ht|ht
     . exact .inr (.inr ht)
     . exact .inl ht
   . exact .inr (.inl ht)
 | @upd s V f hf v k U U' a R W hv _ ih=>
   intro τ X h;have hg:=getc (h _ (.inl mS))
   obtain⟨τ',h1,h2⟩:=ih (τ.set s v) (λt=>X t\/t/32=s\/ ∃j∈V,t=32*s+j) (λt ht=>VN _ _ _ λe1=>by
    rcases ht with ht|ht|ht|ht
    . exact h t (.inl (mT (Xi.2 (.inr ht))))
    . exact h t (.inr ht)
    . exact absurd ht e1
    . exact h t (.inl (mT (Xi.2 (.inl ht)))))
   refine⟨τ',.upd (by rw[hg];exact hv) h1,λt ht=>h2 t ?_⟩
   rcases ht with ht|ht
   . rcases mC ht with rfl|ht
     . omega
     . rcases Xi.1 ht with ht|ht
       . exact .inr (.inr (.inr ht))
       . exact .inl ht
   . exact .inr (.inl ht)
 |ask hp _ ih=>
  intro τ X h;obtain⟨τ',h1,h2⟩:=ih τ X h;exact⟨τ',.ask hp h1,h2⟩
 | @know s b k U U' a R W hb _ ih=>
   intro τ X h;obtain⟨τ',h1,h2⟩:=ih τ (λt=>X t\/t=32*s) (one h)
   exact⟨τ',.know (by grind) h1,λt ht=>h2 t (two ht)⟩
 |call hc _ ih=>
  intro τ X h;obtain⟨τ',h1,h2⟩:=ih τ X h;exact⟨τ',.call hc h1,h2⟩
def pz.vw {U τ:ag} (h:pz U τ) (G:Nat):vw τ G=vw U G:=Oh (h _)
def qp9 {U τ:ag} (h: ∀G,vw τ G=vw U G):pz U τ:=λs=>by
 have:=h (32*s);rw[sq,sq]at this;injection this
def aq.seq {m:M α} {U U' τ:ag} {a:α} {R W:List Nat} (h:aq CO m U a U' R W) (e:pz U τ): ∃τ',aq CO m τ a τ' R W/\pz U' τ':=by
 obtain⟨τ',h1,h2⟩:=h.local τ (λ_=>True) (λs _=>e.vw s)
 exact⟨τ',h1,qp9 λs=>h2 s (.inr trivial)⟩
def qr1 {ρT:Type} {C:Nat->List AV->(AV->List AV->Option ρT)->Option ρT} {ρ:ρT}
 (hC: ∀f as k,C f as k=some ρ-> ∃r os,CO f as r os/\k r os=some ρ) (m:M α): ∀(U:ag) (L:pD) (K:α->ag->pD->Option ρT),
 gE C m U L K=some ρ-> ∃a U' R W,aq CO m U a U' R W/\ ∃U'' L',pz U' U''/\(∀s,(s∈R\/s∈L.1)->s∈L'.1)/\(∀s,(s∈W\/s∈L.2)->s∈L'.2)/\K a U'' L'=some ρ:=by
 induction m with
 |ret a=>exact λU L K h=>⟨a,U,[],[],.ret,U,L,λ_=>rfl,λs h=>by simpa using h,λs h=>by simpa using h,h⟩
 |fail=>exact λU L K h=>by cases h
 |get s k ih=>
  intro U L K h;obtain⟨a,U',R,W,h1,U'',L',e1,e2,e3,e4⟩:=ih _ U _ K h;exact⟨a,U',_,W,.get h1,U'',L',e1,λt ht=>e2 t (by grind),λt ht=>e3 t ht,e4⟩
 |view s j k ih=>
  intro U L K h;obtain⟨a,U',R,W,h1,U'',L',e1,e2,e3,e4⟩:=ih _ U _ K h;exact⟨a,U',_,W,.view h1,U'',L',e1,λt ht=>e2 t (by grind),λt ht=>e3 t ht,e4⟩
 |set s v k ih=>
  intro U L K h;obtain⟨a,U',R,W,h1,U'',L',e1,e2,e3,e4⟩:=ih _ _ K h
  exact⟨a,U',_,_,.set h1,U'',L',e1,λt ht=>e2 t (by
   rcases ht with ht|ht
   . exact(Yf.1 ht).elim (λh=> .inr (Yf.2 (.inl h))) .inl
   . exact .inr (Yf.2 (.inr ht))),
   fun t ht=>e3 t (by
    rcases ht with ht|ht
    . exact(Yf.1 ht).elim (λh=> .inr (Yf.2 (.inl h))) .inl
    . exact .inr (Yf.2 (.inr ht))),e4⟩
 |upd s V g hg k ih=>
  intro U L K h;simp only[gE]at h;split at h
  . rename_i v hv;obtain⟨a,U',R,W,h1,U'',L',e1,e2,e3,e4⟩:=ih _ _ K h
    exact⟨a,U',_,_,.upd hv h1,U'',L',e1,λt ht=>e2 t (by
     rcases ht with ht|ht
     . rcases mC ht with rfl|ht
       . grind
       . exact(Xi.1 ht).elim (λh=> .inr (mT (Xi.2 (.inl h)))) .inl
     . exact .inr (mT (Xi.2 (.inr ht)))),
     fun t ht=>e3 t (by
      rcases ht with ht|ht
      . exact(Xi.1 ht).elim (λh=> .inr (Xi.2 (.inl h))) .inl
      . exact .inr (Xi.2 (.inr ht))),e4⟩
  . cases h
 |ask p d k ih=>
  intro U L K h;by_cases hp:p
  . rw[gE,iP hp]at h;obtain⟨a,U',R,W,h1,rest⟩:=ih _ _ K h;exact⟨a,U',R,W,.ask hp h1,rest⟩
  . rw[gE,ao hp]at h;cases h
 |know s k ih=>
  intro U L K h;simp only[gE]at h;split at h
  . rename_i b hb;have hh:gE C (k b) (U.set s (.bool b)) ((32*s)::L.1,L.2) K=some ρ:=by cases b<;>exact h
    obtain⟨a,U',R,W,h1,U'',L',e1,e2,e3,e4⟩:=ih _ _ _ K hh
    have hs:pz (U.set s (.bool b)) U:=λt=>by
     by_cases e:t=s
     . subst e;rw[qg,hb]
     . rw[qf _ _ e]
    obtain⟨τ',g1,g2⟩:=h1.seq hs;exact⟨a,τ',_,W,.know hb g1,U'',L',λt=>by rw[g2 t];exact e1 t,λt ht=>e2 t (by grind),λt ht=>e3 t ht,e4⟩
  . cases h
 |call f as k ih=>
  intro U L K h;obtain⟨r,os,hco,h⟩:=hC _ _ _ h;obtain⟨a,U',R,W,h1,rest⟩:=ih _ _ _ _ K h;exact⟨a,U',R,W,.call hco h1,rest⟩
end
section
variable {CO:Q5} {α β':Type} {U U':ag} {R W:List Nat}
def aq.bind' {m:M α} {f:α->M β'} {b:β'} (h:aq CO (m>>=f) U b U' R W):
 ∃a U1 R1 W1 R2 W2,aq CO m U a U1 R1 W1/\aq CO (f a) U1 b U' R2 W2:=by
 obtain⟨a,U1,R1,W1,R2,W2,h1,h2,_,_⟩:=aq.bind (m:=m) (f:=f) h
 grind
abbrev kA:=@aq.bind'
def aq.pure' {a b:α} (h:aq CO (Pure.pure a:M α) U b U' R W):b=a/\U'=U:=by cases h;exact⟨rfl,rfl⟩
abbrev kB:=@aq.pure'
def aq.mget' {s:Nat} {v:AV} (h:aq CO (bT s) U v U' R W):v=U.get s/\U'=U:=by
 cases h with
 |get h=>cases h;exact⟨rfl,rfl⟩
abbrev kD:=@aq.mget'
def aq.mview' {s j:Nat} {v:Option AV} (h:aq CO (fm s j) U v U' R W):v=cr s j (U.get s)/\U'=U:=by
 cases h with
 |view h=>cases h;exact⟨rfl,rfl⟩
abbrev kF:=@aq.mview'
def aq.mupd' {s:Nat} {V:List Nat} {f:AV->Option AV} {hf: ∀a b,f a=some b-> ∀j,j∉V->cr s j b=cr s j a} {u:Unit} (h:aq CO (iA s V f hf) U u U' R W): ∃v,f (U.get s)=some v/\U'=U.set s v:=by
 cases h with
 |upd hv h=>cases h;exact⟨_,hv,rfl⟩
abbrev kH:=@aq.mupd'
def aq.mset' {s:Nat} {v:AV} {u:Unit} (h:aq CO (dP s v) U u U' R W):U'=U.set s v:=by
 cases h with
 |set h=>cases h;rfl
abbrev kE:=@aq.mset'
def aq.mask' {p:Prop} [Decidable p] {u:Unit} (h:aq CO (cH p) U u U' R W):p/\U'=U:=by
 cases h with
 |ask hp h=>cases h;exact⟨hp,rfl⟩
abbrev kG:=@aq.mask'
def aq.mknow' {s:Nat} {b:Bool} (h:aq CO (uN s) U b U' R W):U.get s= .bool b/\U'=U:=by
 cases h with
 |know hb h=>cases h;exact⟨hb,rfl⟩
def aq.mopt' {x:Option α} {v:α} (h:aq CO (pZ x) U v U' R W):x=some v/\U'=U:=by
 cases x with
 |none=>cases h
 |some y=>cases h;exact⟨rfl,rfl⟩
def aq.ofOpt' {x:Option α} {f:α->M β'} {b:β'} (h:aq CO (M.ofOpt x f) U b U' R W): ∃y,x=some y/\aq CO (f y) U b U' R W:=by
 cases x with
 |none=>cases h
 |some y=>exact⟨y,rfl,h⟩
def aq.fail' {a:α} (h:aq CO M.fail U a U' R W):False:=by cases h
abbrev kC:=@aq.fail'
def aq.mcall' {f:Nat} {as:List AV} {x:AV×List AV} (h:aq CO (kq f as) U x U' R W):CO f as x.1 x.2/\U'=U:=by
 cases h with
 |call hc h=>cases h;exact⟨hc,rfl⟩
end
def a8.map {β:aP} {who:bg} {w:World} {cells:List AV} {arr:Array Value} (f:AV->AV)
 (hf: ∀c∈cells,∀v,aO β who w c v->aO β who w (f c) v) (h:a8 β who w cells arr):a8 β who w (cells.map f) arr:=
 ⟨by simp[h.1],λj hj=>by
   have hj':j<cells.length:=by simpa using hj
   simp only[nw];exact hf _ (zN hj') _ (h.2 j hj')⟩
section
variable {β:aP} {who:bg} {w:World}
def cu.ref {n:Nat} {t:Ty} {xs:List (aM t)} {v:Value} {sz:Nat} (h:cu β who w n t xs v):tE (β n) sz none v:=by
 obtain⟨h1,h2⟩:=h;refine⟨h1,?_⟩
 grind
def bh.ref {n:Nat} {t:Ty} {xs:List (List (aM t))} {h:Option Nat} {v:Value} (hr:bh β who w n t xs h v):eE (β n) .whole v:=by
 obtain⟨h1,h2⟩:=hr;rcases h2 with⟨e1,_⟩|⟨b,o,cap,arr,el,e1,_⟩<;>exact⟨h1,by rw[<-h1,e1];exact⟨_,_,_,rfl⟩⟩
def bh.refl' {n:Nat} {t:Ty} {xs:List (List (aM t))} {h:Option Nat} {v:Value} (hr:bh β who w n t xs h v):eE (β n) (.lenw xs.length) v:=by
 obtain⟨h1,h2⟩:=hr;rcases h2 with⟨e1,rfl⟩|⟨b,o,cap,arr,el,e1,_⟩<;>first|exact⟨h1,.inl ⟨e1,rfl⟩⟩|exact⟨h1,.inr ⟨b,o,cap,e1⟩⟩
def dZ.ref {n sz:Nat} {t:Ty} {xs:List (aM t)} {h:Option Nat} {v:Value} (hr:dZ β who w n t xs h v):tE (β n) sz none v:=by
 obtain⟨h1,h2⟩:=hr;rcases h2 with⟨e1,_⟩|⟨b,o,cap,arr,el,e1,_⟩<;>exact⟨h1,by rw[<-h1,e1];exact⟨_,_,_,rfl⟩⟩
def ZT {s:Nat} {c:AV} {v:Value} (h:aO β who w c v):aO β who w (Qv s c) v:=by
 cases c with
 |sl o t xs=>
  cases o with
  |nm n=>exact cu.ref (sz:=t.size) h
  |_=>exact h
 |dp n t xs hh=>exact bh.refl' h
 |dq n t xs hh=>trivial
 |fd n t xs hh=>exact bh.refl' h.1
 |mm n t xs o=>cases o with
  |false=>obtain⟨h1,b,o,cap,arr,el,e1,_⟩:=h;exact⟨h1,b,o,cap,e1⟩
  |true=>trivial
 |dr s n k=>cases k<;>first|exact h|trivial
 |wn n t xs=>exact cu.ref (sz:=t.size) h.1
 |_=>exact h
def q46 {s:Nat} {c:AV}:qc (Qv s c)=[]:=by
 cases c with
 |sl o t xs=>cases o<;>rfl
 |mm n t xs o=>cases o<;>rfl
 |dr s n k=>cases k<;>rfl
 |_=>rfl
def q96 {s:Nat} {c:AV}: ∀n∈aI (Qv s c),n∈aI c:=by
 intro n hn;cases c with
 |sl o t xs=>cases o<;>exact hn
 |wn m t xs=>exact zT.2 (.inl (zC.1 hn))
 |dq m t xs hh=>cases hn
 |fd m t xs hh=>exact zT.2 (.inl (zC.1 hn))
 |mm m t xs o=>cases o<;>first|exact hn|cases hn
 |dr s m k=>cases k<;>first|exact hn|cases hn
 |_=>exact hn
def Q7 {cells:List AV} {f:AV->List Nat} (h: ∀c∈cells,f c=[]):cells.flatMap f=[]:=by
 simp_all
def RW {s:Nat} {av v:AV} {c:Value} (hal:cY s av=some v) (h:be β who w av c):
 be β who w v c/\ab v=[]/\ ∀n∈occ v,n∈occ av:=by
 cases av with
 |dead=>cases hal
 |tup vs=>cases hal
 |fd n t xs hh=>cases hal
 |mm n t xs o=>cases hal
 |dq n t xs hh=>simp only[cY,zM]at hal;subst hal;exact⟨dZ.ref (sz:=t.size) h,rfl,λm hm=>hm⟩
 |bx o cells=>
  cases o with
  |nm n=>
   simp only[cY,zM]at hal;subst hal;obtain⟨h0,b,arr,el,e1,_⟩:=h;refine⟨.inr ⟨b,?_,rfl,?_⟩,rfl,?_⟩
   . rw[<-h0];exact e1
   . exact e1
   . intro m hm;simp only[occ,aX,aI,zC]at hm;subst hm;simp[occ,aX]
  |_=>cases hal
 |agg cells=>
  simp only[cY,zM]at hal;subst hal;obtain⟨arr,e1,e2⟩:=h;refine⟨⟨arr,e1,e2.map _ (λc _ v hv=>ZT hv)⟩,?_,?_⟩
  . simp only[ab,qi];exact Q7 λc hc=>by obtain⟨d,_,rfl⟩:=zV.1 hc;exact q46
  . intro n hn;simp only[occ,aX,zH,zV]at hn⊢;obtain⟨c,⟨d,hd,rfl⟩,hn⟩:=hn;exact⟨d,hd,q96 n hn⟩
 |sl o t xs=>
  cases o with
  |nm n=>
   simp only[cY,zM]at hal;subst hal;exact⟨cu.ref (sz:=t.size) h,rfl,λm hm=>hm⟩
  |imm=>simp only[cY,zM]at hal;subst hal;exact⟨h,rfl,λm hm=>hm⟩
  |nl=>simp only[cY,zM]at hal;subst hal;exact⟨h,rfl,λm hm=>hm⟩
  |inn=>simp only[cY,zM]at hal;subst hal;exact⟨h,rfl,λm hm=>hm⟩
 |dp n t xs hh=>simp only[cY,zM]at hal;subst hal;exact⟨bh.ref h,rfl,λm hm=>hm⟩
 |wn n t xs=>
  simp only[cY,zM]at hal;subst hal;exact⟨cu.ref (sz:=t.size) h.1,rfl,λm hm=>zT.2 (.inl (zC.1 hm))⟩
 |_=>simp only[cY,zM]at hal;subst hal;exact⟨h,rfl,λm hm=>hm⟩
def SY (v:Value):be β who w (Jv v) v/\ab (Jv v)=[]/\occ (Jv v)=[]:=by
 cases v<;>first|exact⟨rfl,rfl,rfl⟩|exact⟨⟨rfl,rfl⟩,rfl,rfl⟩|exact⟨trivial,rfl,rfl⟩
end
section
variable {CO:Q5} {E:aN} {D:Nat->Prop} {β:aP} {who:bg} {U U':ag} {hd:List (AV×Value)} {a:Act} {w:World} {R W:List Nat}
def aq.rd {x:Operand} {v:AV} (h:aq CO (rd x) U v U' R W) (S:aC E D β who U hd a w):U'=U/\aC E D β who U ((v,a.eval x)::hd) a w:=by
 cases x with
 |tmp t=>
  obtain⟨av,U1,_,_,_,_,h1,h2⟩:=kA h;obtain⟨rfl,rfl⟩:=kF h1;obtain⟨e,rfl⟩:=aq.mopt' h2;obtain⟨g1,g2,g3⟩:=RW e (S.rel t);exact⟨rfl,S.take0 g1 g2 (λn hn=>S.occ t n (g3 n hn))⟩
 |const u=>
  obtain⟨rfl,rfl⟩:=kB h;obtain⟨g1,g2,g3⟩:=SY (β:=β) (who:=who) (w:=w) u;exact⟨rfl,S.take0 g1 g2 (λn hn=>by rw[g3]at hn;cases hn)⟩
 |global g=>exact(kC h).elim
 |func f=>
  obtain⟨rfl,rfl⟩:=kB h;exact⟨rfl,S.take0 (v:= .lit (.func (.func f) #[] #[])) ⟨rfl,rfl⟩ rfl (λn hn=>by cases hn)⟩
def X5 {v:AV} (h: ¬H1 v=true):ab v=[]:=by
 unfold H1 at h
 grind
def aq.rdT {x:Operand} {v:AV} (h:aq CO (rdT x) U v U' R W) (S:aC E D β who U hd a w):aC E D β who U' ((v,a.eval x)::hd) a w:=by
 cases x with
 |tmp t=>
  obtain⟨av,U1,_,_,_,_,h1,h2⟩:=kA h;obtain⟨rfl,rfl⟩:=kD h1
  have key: ∀{R W:List Nat},aq CO (if H1 (U1.get t)then(do dP t .dead;Pure.pure (U1.get t))else Pure.pure (U1.get t):M AV) U1 v U' R W->aC E D β who U' ((v,a.eval (.tmp t))::hd) a w:=by
   intro R W h2;split at h2
   . obtain⟨_,U2,_,_,_,_,h3,h4⟩:=kA h2;have:=kE h3;subst this;obtain⟨rfl,rfl⟩:=kB h4;exact S.takeAll t
   . rename_i hno;obtain⟨rfl,rfl⟩:=kB h2;exact S.take0 (S.rel t) (X5 hno) (S.occ t)
  split at h2
  . exact(kC h2).elim
  . rename_i vs hvs;obtain⟨_,U2,_,_,_,_,h3,h4⟩:=kA h2;have:=kE h3;subst this;obtain⟨rfl,rfl⟩:=kB h4;have:=S.takeAll t;rw[hvs]at this;exact this
  . exact key h2
 |const u=>obtain⟨rfl,g⟩:=aq.rd (x:= .const u) h S;exact g
 |global g=>exact(kC h).elim
 |func f=>obtain⟨rfl,g⟩:=aq.rd (x:= .func f) h S;exact g
end
def unown (who:bg) (ns:List Nat):bg:=λb=>match who b with
 |some n=>if n∈ns then none else some n
 |none=>none
def Xz {who:bg} {ns:List Nat} {b:Nat} (h:who b=none):unown who ns b=none:=by simp[unown,h]
def FU {who:bg} {ns:List Nat} {b n:Nat} (h:who b=some n) (hn:n∈ns):unown who ns b=none:=by simp[unown,h,hn]
def Jk {who:bg} {ns:List Nat} {b n:Nat} (h:who b=some n) (hn:n∉ns):unown who ns b=some n:=by simp[unown,h,hn]
def Yq {who:bg} {ns:List Nat} {b n:Nat} (h:unown who ns b=some n):who b=some n:=by
 unfold unown at h
 grind
section
variable {β:aP} {who:bg} {w:World}
def cB.unown {ns:List Nat} {as os:List Nat} (h: ∀n∈as,n∉ns):cB β who w β (unown who ns) w as os:=
 ⟨λ_ _=>rfl,λn hn b hb=>⟨Jk hb (h n hn),rfl⟩,λb hb _=>⟨Xz hb,rfl⟩,zF _⟩
def cu.freeze {ns:List Nat} {n:Nat} {t:Ty} {xs:List (aM t)} {v:Value} (h:cu β who w n t xs v) (hn:n∈ns):fB (unown who ns) w t xs v:=by
 obtain⟨_,h⟩:=h;rcases h with h|⟨b,o,cap,arr,el,e1,e2,e3,e4,e5,e6⟩
 . exact .inl h
 . have hlt:b<w.heap.size:=by
    rcases zq b w.heap.size with h|h
    . exact h
    . grind
   exact .inr ⟨b,o,cap,e1,FU e5 hn,hlt,e4,aQ.keep (λb hb _=>⟨Xz hb,rfl⟩) (zF _) rfl e6⟩
def bh.freeze {ns:List Nat} {n:Nat} {t:Ty} {xs:List (List (aM t))} {v:Value} (h:bh β who w n t xs none v) (hn:n∈ns):fB (unown who ns) w (.sl false t) xs v:=by
 obtain⟨_,h2⟩:=h;rcases h2 with h2|⟨b,o,cap,arr,el,e1,e2,e3,e4,e5,e6,_⟩
 . exact .inl h2
 have lt: ∀{b:Nat} {arr:Array Value} {el:TypeId},w.heap[b]? =some (.cells arr el (0,0))->b<w.heap.size:=λ{b} _ _ h=>by
  grind
 refine .inr ⟨b,o,cap,e1,FU e5 hn,lt e2,e4,λi hi=> ?_⟩
 obtain⟨f1,f2⟩:=e6 i hi (by simp)
 refine⟨bX (β n) (i+1),?_,?_⟩
 . show aD w b (o+i*1) 0=some (bX (β n) (i+1))
   rw[<-f1];simp[aD]
 . rcases f2 with⟨k1,k2⟩|⟨bi,oi,ci,ar,l,k1,k2,k3,k4,k5,k6,k7⟩
   . exact .inl ⟨k1,k2⟩
   . exact .inr ⟨bi,oi,ci,k1,FU k5 hn,lt k2,k4,aQ.keep (λb hb _=>⟨Xz hb,rfl⟩) (zF _) rfl k7⟩
def dI.imm {who':bg} {n b d:Nat} {g g':Nat->Option Value} (h0: ∀b,who b=none->who' b=none) (hn: ∀b,who b=some n->who' b=none) (hg: ∀k,g' k=g (d+k)): ∀{t:Ty} {x:aM t} {j:Nat},
 dI who w n b none t x g (d+j)->aL who' w t x g' j
 | .int k,x,j,h=>by simp only[aL,dI]at*;rw[hg];exact h
 | .bool,x,j,h=>by simp only[aL,dI]at*;rw[hg];exact h
 | .pr s t,x,j,h=>⟨dI.imm h0 hn hg h.1,dI.imm h0 hn hg (by rw[<-Nat.add_assoc];exact h.2)⟩
 | .sl _ t,xs,j,h=>by
   simp only[dI]at h;rcases h with h|⟨v,q1,q2⟩
   . cases h
   refine⟨v,by rw[hg];exact q1,?_⟩
   rcases q2 with q2|⟨bi,oi,ci,ar,l,k1,k2,k3,k4,k5,k6,k7⟩
   . exact .inl q2
   . exact .inr ⟨bi,oi,ci,k1,hn bi k5,by grind,k4,λi hi=>aL.keep (λb hb _=>⟨h0 b hb,rfl⟩) (zF _) (k7 i hi)⟩
def dZ.slI {who':bg} {n:Nat} {t:Ty} {xs:List (aM t)} {v:Value} (h:dZ β who w n t xs none v) (h0: ∀b,who b=none->who' b=none) (hn: ∀b,who b=some n->who' b=none):fB who' w t xs v:=by
 obtain⟨_,h2⟩:=h;rcases h2 with h2|⟨b,o,cap,arr,el,e1,e2,e3,e4,e5,e6,_⟩
 . exact .inl h2
 refine .inr ⟨b,o,cap,e1,hn b e5,by grind,e4,λi hi=> ?_⟩
 exact dI.imm (d:=i*t.size) (g:=aD w b o) h0 hn (λk=>by simp only[aD,tn]) (e6 i hi)
def q72 {ns:List Nat} {c:AV} {v:Value} (h:aO β who w c v) (hn: ∀n∈qc c,n∈ns):aO β (unown who ns) w (Yx c) v:=by
 cases c with
 |sl o t xs=>
  cases o with
  |nm n=>exact cu.freeze h (hn n (by simp[qc]))
  |imm=>exact fB.keep (λb hb _=>⟨Xz hb,rfl⟩) (zF _) h
  |nl=>exact h
  |inn=>exact h
 |dead=>trivial
 |ref s n sz win=>exact h
 |ptr s n sz i j=>exact h
 |iptr g t xs i j=>exact aO.keep (β:=β) (β':=β) (av:= .iptr g t xs i j) (cB.unown (λn h=>by simp[qc]at h)) h
 |dp n t xs hh=>
  cases hh with
  |none=>exact bh.freeze h (hn n (by simp[qc]))
  |some k=>trivial
 |dq n t xs hh=>
  cases hh with
  |none=>exact dZ.slI h (λb hb=>Xz hb) (λb hb=>FU hb (hn n (by simp[qc])))
  |some k=>trivial
 |wn n t xs=>trivial
 |fd n t xs hh=>trivial
 |mm n t xs o=>trivial
 |_=>exact h
def q3k {c:AV}:qc (Yx c)=[]:=by
 cases c with
 |sl o t xs=>cases o<;>rfl
 |dp n t xs hh=>cases hh<;>rfl
 |dq n t xs hh=>cases hh<;>rfl
 |_=>rfl
def q7k {c:AV} {n:Nat} (h:n∈aI (Yx c)):n∈aI c:=by
 cases c with
 |sl o t xs=>cases o<;>first|exact h|(simp[Yx,aI]at h)
 |dp m t xs hh=>cases hh<;>simp[Yx,aI]at h
 |dq m t xs hh=>cases hh<;>simp[Yx,aI]at h
 |wn n t xs=>cases h
 |fd n t xs hh=>cases h
 |mm n t xs o=>cases h
 |_=>exact h
def Z2 {ns:List Nat} {av:AV} {v:Value} (h:be β who w av v) (hn: ∀n∈ab av,n∈ns) (hb: ∀o cs,av≠ .bx o cs) (ht: ∀vs,av≠ .tup vs):
 be β (unown who ns) w (freeze av) v:=by
 cases av with
 |tup vs=>exact absurd rfl (ht vs)
 |bx o cs=>exact absurd rfl (hb o cs)
 |agg cells=>
  obtain⟨arr,e1,e2⟩:=h;refine⟨arr,e1,by simp[e2.1],λj hj=> ?_⟩
  have hj':j<cells.length:=by simpa using hj
  simp only[nw];exact q72 (e2.2 j hj') (λn hm=>hn n (zH.2 ⟨_,zN hj',hm⟩))
 |sl o t xs=>
  cases o with
  |nm n=>exact cu.freeze h (hn n (by simp[ab,qi,qc]))
  |imm=>exact fB.keep (λb hb _=>⟨Xz hb,rfl⟩) (zF _) h
  |nl=>exact h
  |inn=>exact h
 |dead=>trivial
 |iptr g t xs i j=>exact aO.keep (β:=β) (β':=β) (av:= .iptr g t xs i j) (cB.unown (λn h=>by simp[qc]at h)) h
 |dp n t xs hh=>
  cases hh with
  |none=>exact bh.freeze h (hn n (by simp[ab,qi,qc]))
  |some k=>trivial
 |dq n t xs hh=>
  cases hh with
  |none=>exact dZ.slI h (λb hb=>Xz hb) (λb hb=>FU hb (hn n (by simp[ab,qi,qc])))
  |some k=>trivial
 |wn n t xs=>trivial
 |fd n t xs hh=>trivial
 |mm n t xs o=>trivial
 |_=>exact h
def Zk {av:AV} (hb: ∀o cs,av≠ .bx o cs) (ht: ∀vs,av≠ .tup vs):ab (freeze av)=[]:=by
 cases av with
 |tup vs=>exact absurd rfl (ht vs)
 |bx o cs=>exact absurd rfl (hb o cs)
 |agg cells=>exact Q7 λc hc=>by obtain⟨d,_,rfl⟩:=zV.1 hc;exact q3k
 |sl o t xs=>cases o<;>rfl
 |dp n t xs hh=>cases hh<;>rfl
 |dq n t xs hh=>cases hh<;>rfl
 |_=>rfl
def OX {av:AV} {n:Nat} (h:n∈occ (freeze av)):n∈occ av:=by
 cases av with
 |agg cells=>
  simp only[freeze,occ,aX,zH,zV]at h⊢;obtain⟨c,⟨d,hd,rfl⟩,hn⟩:=h;exact⟨d,hd,q7k hn⟩
 |sl o t xs=>cases o<;>first|exact h|(simp[freeze,occ,aX,aI]at h)
 |dp m t xs hh=>cases hh<;>simp[freeze,occ,aX,aI]at h
 |dq m t xs hh=>cases hh<;>simp[freeze,occ,aX,aI]at h
 |wn n t xs=>cases h
 |fd n t xs hh=>cases h
 |mm n t xs o=>cases h
 |_=>exact h
end
section
variable {CO:Q5} {E:aN} {D:Nat->Prop} {β:aP} {who:bg} {U U':ag} {hd:List (AV×Value)} {a:Act} {w:World} {R W:List Nat}
def aC.freeze (S:aC E D β who U hd a w) (t:Nat) (hb: ∀o cs,U.get t≠ .bx o cs) (ht: ∀vs,U.get t≠ .tup vs):
 ∃who',aC E D β who' (U.set t (freeze (U.get t))) ((freeze (U.get t),a.tmps.getD t undef)::hd) a w:=by
 refine⟨unown who (ab (U.get t)),?_⟩;have hf:=Z2 (ns:=ab (U.get t)) (S.rel t) (λn h=>h) hb ht
 have hn:=Zk hb ht
 have S1:aC E D β (unown who (ab (U.get t))) (U.set t .dead) hd a w:=by
  have S0:=(S.takeAll t).drop rfl
  refine S0.world (λs=> ?_) (λx hx=> ?_) (λb n hb=>S.wsz b n (Yq hb)) (zF _) (λ_ _ _=>rfl) (λb n hb=>S.fr1 b n (Yq hb))
   (λb hb=>Jk (S.fr3 b hb) (λh=>S.dfn (S.occ t _ (qj h))))
  . refine(S0.rel s).keep (cB.unown λn h h'=> ?_)
    by_cases e:s=t
    . subst e;rw[qg]at h;simp[ab,qi,qc]at h
    . rw[qf _ _ e]at h;exact e (S.dis s t n h h')
  . exact(S0.hrel x hx).keep (cB.unown λn h h'=>S.hdis x hx n h t h')
 have S2:=S1.abs (s:=t) (v:=Vs.freeze (U.get t)) hf (λn h=>by rw[hn]at h;cases h) (by grind) (λn h=>S.occ t n (OX h))
 have S3:=S2.take0 hf hn (λn h=>S.occ t n (OX h))
 refine S3.ext λs=> ?_
 by_cases e:s=t
 . subst e;rw[qg,qg]
 . rw[qf _ _ e,qf _ _ e,qf _ _ e]
def aC.frzCells (S:aC E D β who U hd a w) (t:Nat) {n:Nat} {cells:List AV} (hc:U.get t= .bx (.nm n) cells):
 ∃who',aC E D β who' (U.set t (.bx (.nm n) (cells.map Yx))) hd a w:=by
 have hr:be β who w (.bx (.nm n) cells) (a.tmps.getD t undef):=hc▸S.rel t;obtain⟨e0,b,arr,el,e1,e2,e3,e4⟩:=hr;have hnm:ab (U.get t)=n::cells.flatMap qc:=by rw[hc];rfl
 have hnot:n∉cells.flatMap qc:=by
  have:=S.nod t;rw[hnm]at this;exact(jN.1 this).1
 have hocc:D n:=S.occ t n (by rw[hc];exact mS)
 have hdd:(cells.map λ_=>AV.dead).flatMap qc=[]:=Q7 λc hc=>by obtain⟨d,_,rfl⟩:=zV.1 hc;rfl
 have hdo:(cells.map λ_=>AV.dead).flatMap aI=[]:=Q7 λc hc=>by obtain⟨d,_,rfl⟩:=zV.1 hc;rfl
 have hff:(cells.map Yx).flatMap qc=[]:=Q7 λc hc=>by obtain⟨d,_,rfl⟩:=zV.1 hc;exact q3k
 have S0:=S.abs (s:=t) (v:= .bx (.nm n) (cells.map λ_=>AV.dead)) ⟨e0,b,arr,el,e1,e2,e3,by rw[e4.1,zy],λj hj=>by rw[nw];trivial⟩
  (fun k hk=>by
    have hk':k∈n::(cells.map λ_=>AV.dead).flatMap qc:=hk
    rw[hdd]at hk';rw[hnm,zC.1 hk'];exact mS)
  (by show(n::(cells.map λ_=>AV.dead).flatMap qc).Nodup;rw[hdd];simp)
  (fun k hk=>by
    have hk':k∈n::(cells.map λ_=>AV.dead).flatMap aI:=hk
    rw[hdo]at hk';rw[zC.1 hk'];exact hocc)
 have hn0:ab ((U.set t (.bx (.nm n) (cells.map λ_=>AV.dead))).get t)=[n]:=by
  rw[qg];show n::(cells.map λ_=>AV.dead).flatMap qc=[n]
  rw[hdd]
 have S1:aC E D β (unown who (cells.flatMap qc)) (U.set t (.bx (.nm n) (cells.map λ_=>AV.dead))) hd a w:=by
  refine S0.world (λs=> ?_) (λx hx=> ?_) (λb n hb=>S.wsz b n (Yq hb)) (zF _) (λ_ _ _=>rfl) (λb n hb=>S.fr1 b n (Yq hb))
   (λb hb=>Jk (S.fr3 b hb) (λh=>S.dfn (S.occ t _ (qj (by rw[hnm];exact mT h)))))
  . refine(S0.rel s).keep (cB.unown λk h h'=> ?_)
    by_cases e:s=t
    . subst e;rw[hn0,zC]at h;exact hnot (h▸h')
    . rw[qf _ _ e]at h;exact e (S.dis s t k h (by rw[hnm];exact mT h'))
  . exact(S0.hrel x hx).keep (cB.unown λk h h'=>S.hdis x hx k h t (by rw[hnm];exact mT h'))
 refine⟨_,(S1.abs (s:=t) (v:= .bx (.nm n) (cells.map Yx)) ⟨e0,b,arr,el,e1,e2,Jk e3 hnot,by rw[e4.1,zy],λj hj=> ?_⟩ (λk hk=> ?_) ?_ (λk hk=> ?_)).ext λs=> ?_⟩
 . rw[nw];rw[zy]at hj;exact q72 (e4.2 j hj) (λk hm=>zH.2 ⟨_,zN hj,hm⟩)
 . have hk':k∈n::(cells.map Yx).flatMap qc:=hk;rw[hff]at hk';rw[hn0];exact hk'
 . show(n::(cells.map Yx).flatMap qc).Nodup
   rw[hff];simp
 . have hk':k∈n::(cells.map Yx).flatMap aI:=hk;rcases mC hk' with e|e
   . rw[e];exact hocc
   . obtain⟨c,h1,h2⟩:=zH.1 e;obtain⟨d,h3,rfl⟩:=zV.1 h1;exact S.occ t k (by rw[hc];exact mT (zH.2 ⟨d,h3,q7k h2⟩))
 . by_cases e:s=t
   . subst e;rw[qg,qg]
   . rw[qf _ _ e,qf _ _ e,qf _ _ e]
def q65 {p:AV} {x:Unit} (h:aq CO (rZ p) U x U' R W) (S:aC E D β who U hd a w): ∃who',aC E D β who' U' hd a w:=by
 unfold rZ at h;split at h
 . rename_i s n _ _ _;obtain⟨av,U1,_,_,_,_,h1,h2⟩:=kA h;obtain⟨rfl,rfl⟩:=kD h1;split at h2
   . rename_i m cells hg;split at h2
     . have:=kE h2;subst this;exact S.frzCells s hg
     . exact(kC h2).elim
   . exact(kC h2).elim
 . exact(kC h).elim
def aq.rdF {x:Operand} {v:AV} (h:aq CO (rdF x) U v U' R W) (S:aC E D β who U hd a w):ab v=[]/\(∀o cs,v≠ .bx o cs)/\ ∃who',aC E D β who' U' ((v,a.eval x)::hd) a w:=by
 cases x with
 |tmp t=>
  obtain⟨av,U1,_,_,_,_,h1,h2⟩:=kA h;obtain⟨rfl,rfl⟩:=kD h1;split at h2
  . exact(kC h2).elim
  . exact(kC h2).elim
  . exact(kC h2).elim
  . exact(kC h2).elim
  . exact(kC h2).elim
  . exact(kC h2).elim
  . exact(kC h2).elim
  . exact(kC h2).elim
  . rename_i g1 g2 g3 g4 g5 g6 g7 g8;split at h2
    . obtain⟨_,U2,_,_,_,_,h3,h4⟩:=kA h2;have:=kE h3;subst this;obtain⟨rfl,rfl⟩:=kB h4;have hb: ∀o cs,U1.get t≠ .bx o cs:=λo cs e=>g3 o cs e
      refine⟨Zk hb g2,?_,S.freeze t hb g2⟩;intro o cs e;have hb':=hb;cases hav:U1.get t with
      |bx o' cs'=>exact hb o' cs' hav
      |sl o' t' xs=>rw[hav]at e;cases o'<;>cases e
      |agg cells=>rw[hav]at e;cases e
      |dp n t xs hh=>rw[hav]at e;cases hh<;>cases e
      |dq n t xs hh=>rw[hav]at e;cases hh<;>cases e
      |_=>rw[hav]at e;cases e
    . rename_i hno;obtain⟨rfl,rfl⟩:=kB h2;exact⟨X5 hno,g3,who,S.take0 (S.rel t) (X5 hno) (S.occ t)⟩
 |const u=>
  obtain⟨rfl,rfl⟩:=kB h;obtain⟨g1,g2,g3⟩:=SY (β:=β) (who:=who) (w:=w) u;refine⟨g2,?_,who,S.take0 g1 g2 (λn hn=>by rw[g3]at hn;cases hn)⟩
  intro o cs e;cases u<;>cases e
 |global g=>exact(kC h).elim
 |func f=>
  obtain⟨rfl,rfl⟩:=kB h;exact⟨rfl,(λo cs e=>by cases e),who,S.take0 (v:= .lit (.func (.func f) #[] #[])) ⟨rfl,rfl⟩ rfl (λn hn=>by cases hn)⟩
def q7p {n:Nat}: ∀{cells:List AV} {k j:Nat},nR n cells k=some j->k<=j/\j-k<cells.length/\ ∃t xs,cells.getD (j-k) .dead= .sl (.nm n) t xs
 |c::cs,k,j,h=>by
  simp only[nR]at h;split at h
  . rename_i hc;cases h;refine⟨zF _,by simp,?_⟩
    unfold Kn at hc;split at hc
    . simp_all
    . cases hc
  . obtain⟨h1,h2,t,xs,h3⟩:=q7p h
    grind
def aC.takeCell (S:aC E D β who U hd a w) {s m n j:Nat} {cells:List AV} {t:Ty} {xs:List (aM t)} (hb:U.get s= .bx (.nm m) cells) (hj:j<cells.length)
 (hc:cells.getD j .dead= .sl (.nm n) t xs) {c:Value} (hv:c=β n):
 aC E D β who (U.set s (.bx (.nm m) (cells.set j .dead))) ((.sl (.nm n) t xs,c)::hd) a w:=by
 have hcj:cells[j]= .sl (.nm n) t xs:=by simpa [List.getD,hj]using hc
 have hr:=S.rel s;rw[hb]at hr;obtain⟨hβ,b,arr,el,e1,e2,e3,e4⟩:=hr
 have hset:cells.set j .dead=cells.take j++[.dead]++cells.drop (j+1):=by
  rw[HE,iP hj];simp
 have hsp:cells=cells.take j++[.sl (.nm n) t xs]++cells.drop (j+1):=by
  conv=>lhs;rw[<-List.take_append_drop j cells,Ix hj,hcj]
  simp
 have hn1:ab (.bx (.nm m) cells)=m::(cells.take j).flatMap qc++n::(cells.drop (j+1)).flatMap qc:=by
  conv=>lhs;rw[hsp]
  simp[ab,qi,qc]
 have hn2:ab (.bx (.nm m) (cells.set j .dead))=m::(cells.take j).flatMap qc++(cells.drop (j+1)).flatMap qc:=by
  rw[hset];simp[ab,qi,qc]
 have hNod:=S.nod s;rw[hb,hn1]at hNod;have hcell:=e4.2 j hj;rw[hcj]at hcell
 have hsub: ∀x,x∈ab (.bx (.nm m) (cells.set j .dead))->x∈ab (.bx (.nm m) cells):=λx hx=>by
  grind
 have S1:=S.abs (s:=s) (v:= .bx (.nm m) (cells.set j .dead)) ⟨hβ,b,arr,el,e1,e2,e3,by rw[e4.1];simp,λk hk=>by
  have hk':k<cells.length:=by simpa using hk
  by_cases e:k=j
  . subst e;simp;trivial
  . rw[tk O];exact e4.2 k hk'⟩
  (by rw[hb];exact hsub)
  (by
    grind)
  (by
    intro x hx;refine S.occ s x ?_;rw[hb];rw[hset]at hx;rw[hsp];simp only[Vs.occ,aX,xy,zT,zQ]at hx⊢;rcases hx with hx|(hx|hx)|hx
    . exact .inl hx
    . exact .inr (.inl (.inl hx))
    . simp[aI]at hx
    . exact .inr (.inr hx))
 have hin:n∈ab (U.get s):=by rw[hb,hn1];simp
 exact{S1 with
  hrel:=λy hy=>by
   rcases mC hy with rfl|hy
   . have:cu β who w n t xs (arr.getD j undef):=hcell;rw[hv,<-this.1];exact this
   . exact S1.hrel y hy
  hnod:=by
   simp only[fC];refine zK.2 ⟨by simp[ab,qi,qc],S.hnod,λx h1 y h2=> ?_⟩
   rintro rfl
   obtain⟨z,hz,hxz⟩:=zH.1 h2;simp[ab,qi,qc]at h1;subst h1;exact S.hdis z hz _ hxz s hin
  hdis:=λy hy=>by
   rcases mC hy with rfl|hy
   . intro x hx t' ht;simp[ab,qi,qc]at hx;subst hx;by_cases e:t'=s
     . subst e;rw[qg,hn2]at ht
       grind
     . rw[qf _ _ e]at ht;exact e (S.dis t' s _ ht hin)
   . exact S1.hdis y hy
  hocc:=λy hy=>by
   rcases mC hy with rfl|hy
   . intro x hx;simp[Vs.occ,aX,aI]at hx;subst hx;exact S.occ s _ (qj hin)
   . exact S1.hocc y hy}
def aq.claim {x:Operand} {v:AV} (h:aq CO (claim x) U v U' R W) (S:aC E D β who U hd a w):aC E D β who U' ((v,a.eval x)::hd) a w:=by
 cases x with
 |tmp t=>
  obtain⟨av,U1,_,_,_,_,h1,h2⟩:=kA h;obtain⟨hav,rfl⟩:=kF h1;split at h2
  . rename_i s n sz;obtain⟨bv,U2,_,_,_,_,h3,h4⟩:=kA h2;obtain⟨rfl,rfl⟩:=kD h3
    have hval:a.eval (.tmp t)=β n:=by
     obtain⟨g1,_,_⟩:=RW (β:=β) (who:=who) (w:=w) (show cY t (U2.get t)=some _ from hav.symm) (S.rel t)
     exact(show tE (β n) sz none (a.tmps.getD t undef)from g1).1
    split at h4
    . rename_i m ty xs hbv;split at h4
      . rename_i hmn;subst hmn;obtain⟨_,U3,_,_,_,_,h5,h6⟩:=kA h4;have:=kE h5;subst this;obtain⟨rfl,rfl⟩:=kB h6;have h7:=S.takeAll s;rw[hbv]at h7
        have e:a.eval (.tmp t)=a.eval (.tmp s):=by
         have r2:=S.rel s;rw[hbv]at r2;exact hval.trans r2.1.symm
        rw[e];exact h7
      . exact(kC h4).elim
    . rename_i m cells hbv;split at h4
      . rename_i j hj;obtain⟨_,hjl,ty,xs,hce⟩:=q7p hj;simp only[Nz]at hjl hce;obtain⟨_,U3,_,_,_,_,h5,h6⟩:=kA h4;obtain⟨v',hk,this⟩:=kH h5;subst this;obtain⟨rfl,rfl⟩:=kB h6;rw[hbv]at hk;cases hk;rw[hce];exact S.takeCell hbv hjl hce hval
      . exact(kC h4).elim
    . exact(kC h4).elim
  . exact(kC h2).elim
 |const u=>exact(kC h).elim
 |global g=>exact(kC h).elim
 |func f=>exact(kC h).elim
def aq.rdQ {m:Nat} {x:Operand} {v:AV} (h:aq CO (rdQ m x) U v U' R W) (S:aC E D β who U hd a w): ∃who',aC E D β who' U' ((v,a.eval x)::hd) a w:=by
 unfold Vs.rdQ at h;split at h
 . exact(aq.rdF h S).2.2
 . exact⟨who,aq.rdT h S⟩
def aq.rdC {m:Nat} {x:Operand} {v:AV} (h:aq CO (rdC m x) U v U' R W) (S:aC E D β who U hd a w):aC E D β who U' ((v,a.eval x)::hd) a w:=by
 unfold Vs.rdC at h;split at h
 . exact aq.claim h S
 . exact aq.rdT h S
def aq.rdm {m:Nat} {x:Operand} {v:AV} (h:aq CO (rdm m x) U v U' R W) (S:aC E D β who U hd a w): ∃who',aC E D β who' U' ((v,a.eval x)::hd) a w:=by
 match m with
 |0=>obtain⟨rfl,g⟩:=aq.rd h S;exact⟨who,g⟩
 |1=>exact⟨who,aq.rdT h S⟩
 |2=>exact(aq.rdF h S).2.2
 |3=>exact⟨who,aq.claim h S⟩
 |m+4=>exact(aq.rdF h S).2.2
end
def qY:ZC->Option Value
 | .int k=>some (.int k 0)
 | .bool=>some (.bool false)
 | .nil _=>some (.slice none 0 0)
 | .other=>none
def Qm:Ty->List Value
 | .int k=>[.int k 0]
 | .bool=>[.bool false]
 | .sl _ _=>[.slice none 0 0]
 | .pr a b=>Qm a++Qm b
structure EOK (P:Program) (e:Nat) (t:Ty):Prop where
 ok: ∃i z,P.info? e=some i/\i.size=t.size/\i.bytes<=4096/\i.bytes≠0/\i.zero=some z/\z.cells.toList=Qm t
def pC (P:Program) (t:Nat):Prop:= ∃d,P.underlying t=some d/\(match d with| .struct _| .array _ _=>False|_=>True)
def tA (P:Program) (t:Nat):TD->Prop
 | .int k=>P.underlying t=some (.int k)
 | .bool=>P.underlying t=some .bool
 | .slice e ty=>P.underlying t=some (.slice e)/\EOK P e ty
 | .mslice e _=>P.underlying t=some (.slice e)/\ ∃i,P.info? e=some i/\i.size=1/\i.bytes<=4096/\i.bytes≠0/\i.zero=some (.map none)
 | .map e ty=> ∃kt i arr,P.underlying t=some (.map kt e)/\P.underlying kt=some (.int .i64)/\P.info? e=some i/\i.zero=some (.agg arr)/\arr.toList=Qm ty
 | .struct fs=> ∃fields:Array Field,P.underlying t=some (.struct fields)/\fields.size=fs.length/\
    ∀j (h:j<fs.length),∃f,fields[j]? =some f/\f.offset=fs[j].1/\ ∃i,P.info? f.type=some i/\i.size=fs[j].2/\(fs[j].2=1->True)
 | .array n _=> ∃e,P.underlying t=some (.array n e)
 | .ptr e=>P.underlying t=some (.pointer e)
 | .string=>P.underlying t=some .string
 | .tab g k xs=>(∃e i,P.underlying t=some (.array xs.length e)/\P.info? e=some i/\i.size=1)/\(g,k,xs)∈N4 P
 | .other=> ∃d,P.underlying t=some d/\(match d with| .struct _| .array _ _=>False|_=>True)
def M5 (P:Program) (t n:Nat):Prop:= ∃fields,P.underlying t=some (.struct fields)/\P.stoodInHeld t=false/\P.eqGuardType P.depth t=false/\fields.size=n/\
 ∀j (h:j<fields.toList.length),(fields.toList[j]).name≠ "_" ∧(fields.toList[j]).offset=j∧ ∃k,P.underlying (fields.toList[j]).type=some (.int k)
structure jV (P:Program) (t:Nat) (ti:TI):Prop where
 info: ∃i,P.info? t=some i/\i.size=ti.cells.length/\ ∀vs,(ti.cells.mapM qY)=some vs-> ∃z,i.zero=some z/\z.cells.toList=vs/\((∃arr,z= .agg arr)↔Q8 ti.desc=true)
 desc:tA P t ti.desc
 eqs:Hw ti=true->M5 P t ti.cells.length
 nag: ∀fs fields,ti.desc= .struct fs->P.underlying t=some (.struct fields)-> ∀j (h:j<fs.length) f,fields[j]? =some f->fs[j].2=1->yd ti.cells fs[j].1=true->pC P f.type
def bm (P:Program) (T:TT):Prop:= ∀t ti,T.at t=some ti->jV P t ti
def jV.isAgg {P:Program} {t:Nat} {ti:TI} (h:jV P t ti) (w:World):(isAgg t).run P w= .ok (Q8 ti.desc) w:=by
 have hd:=h.desc;unfold Go.isAgg;cases hti:ti.desc with
 |int k=>rw[hti]at hd;simp only[tA]at hd;simp[run_underlying hd w,Q8]
 |bool=>rw[hti]at hd;simp only[tA]at hd;simp[run_underlying hd w,Q8]
 |slice e ty=>rw[hti]at hd;simp only[tA]at hd;simp[run_underlying hd.1 w,Q8]
 |struct fs=>rw[hti]at hd;obtain⟨f,hd,_⟩:=hd;simp[run_underlying hd w,Q8]
 |mslice e ty=>rw[hti]at hd;simp only[tA]at hd;simp[run_underlying hd.1 w,Q8]
 |map e ty=>rw[hti]at hd;obtain⟨_,_,_,hd,_⟩:=hd;simp[run_underlying hd w,Q8]
 |array n e=>rw[hti]at hd;obtain⟨f,hd⟩:=hd;simp[run_underlying hd w,Q8]
 |ptr e=>rw[hti]at hd;simp only[tA]at hd;simp[run_underlying hd w,Q8]
 |string=>rw[hti]at hd;simp only[tA]at hd;simp[run_underlying hd w,Q8]
 |tab g k xs=>rw[hti]at hd;obtain⟨⟨e,i,hd,_⟩,_⟩:=hd;simp[run_underlying hd w,Q8]
 |other=>
  rw[hti]at hd;obtain⟨d,hd,h2⟩:=hd;cases d<;>simp_all[run_underlying hd w,Q8]
def RB {P:Program} {t:Nat} {i:TypeInfo} (h:P.info? t=some i) (w:World):(typeInfo t).run P w= .ok i w:=by
 simp[typeInfo,h]
def Xp {P:Program} {t:Nat} {i:TypeInfo} (h:P.info? t=some i) (w:World):(sizeOf t).run P w= .ok i.size w:=by
 simp[sizeOf,RB h]
def H6 {P:Program} {t:Nat} {i:TypeInfo} {z:Value} (h:P.info? t=some i) (hz:i.zero=some z) (w:World):(zeroValue t).run P w= .ok z w:=by
 simp[zeroValue,RB h,hz]
section
variable {P:Program} {CO:Q5} {T:TT} {β:aP} {who:bg} {U U':ag} {w:World} {R W:List Nat}
def qh8 (op:BinOp) (t:Nat) (x y:Operand) (k k':IntKind) (a b:Int) (w:World):
 (eqGuard op t x y (.int k a) (.int k' b)).run P w= .ok () w:=by
 unfold eqGuard;cases op<;>rfl
def qec (op:BinOp) (t:Nat) (x y:Operand) (a b:Bool) (w:World):
 (eqGuard op t x y (.bool a) (.bool b)).run P w= .ok () w:=by
 unfold eqGuard;cases op<;>rfl
def qcp (w:World) (d:Nat) {t:Nat} (a b:Bool) (hu:P.underlying t=some .bool):
 (Op.equalIn (d+1) t (.bool a) (.bool b)).run P w= .ok (a==b) w:=by
 simp[Op.equalIn,run_underlying hu]
def qfo {op:BinOp} {k:IntKind} {a b:Int} {v:AV} (t:Nat) (h:aq CO (PX op k a b) U v U' R W) (hs:op≠ .shl) (hs':op≠ .shr):
 U'=U/\ab v=[]/\occ v=[]/\ ∃c,(binOp op t (.int k a) (.int k b)).run P w= .ok c w/\ ∀β who w,be β who w v c:=by
 cases op<;>first
  |exact absurd rfl hs
  |exact absurd rfl hs'
  |(obtain⟨rfl,rfl⟩:=kB h
    exact⟨rfl,rfl,rfl,_,by simp only[binOp,ne_eq,not_true_eq_false,if_false];rfl,λ_ _ _=>rfl⟩)
  |(obtain⟨_,U1,_,_,_,_,h1,h2⟩:=kA h
    obtain⟨hb,rfl⟩:=kG h1;obtain⟨rfl,rfl⟩:=kB h2;refine⟨rfl,rfl,rfl,_,?_,λ_ _ _=>rfl⟩
    simp only[binOp,ne_eq,not_true_eq_false,if_false,Op.intDiv,hb];rfl)
  |(simp only[PX,xi]at h
    obtain⟨rfl,rfl⟩:=kB h;refine⟨rfl,rfl,rfl,_,?_,λ_ _ _=>rfl⟩
    simp only[binOp,ne_eq,not_true_eq_false,if_false,Op.intBits];rfl)
def q3e {ax ay:Array Value} {d:Nat}: ∀(fs:List Field) (k0:Nat) (xs ys:List AV) (r:Bool),(∀j (h:j<fs.length),fs[j].name≠ "_" ∧fs[j].offset=k0+j∧ ∃k,P.underlying fs[j].type=some (.int k))→
 xs.length=fs.length->H2 xs ys=some r->(∀j (h:j<xs.length),aO β who w xs[j] (ax.getD (k0+j) undef))->(∀j (h:j<ys.length),aO β who w ys[j] (ay.getD (k0+j) undef))->k0+xs.length<=ax.size->k0+ys.length<=ay.size->
 (Op.eqFields (d+1) ax ay fs).run P w= .ok r w
 |[],k0,xs,ys,r,_,hl,he,_,_,_,_=>by
  have:xs=[]:=HM hl;subst this;cases ys with
  |nil=>simp only[H2,zM]at he;subst he;rfl
  |cons y ys=>simp[H2]at he
 |f::fs,k0,xs,ys,r,hf,hl,he,hx,hy,hxs,hys=>by
  obtain⟨n1,n2,k1,n3⟩:=hf 0 (Nat.zero_lt_succ _);simp only[FA,zU]at n1 n2 n3;unfold H2 at he;split at he
  . simp at hl
  . rename_i k a xs' k' b ys';split at he
    . rename_i hk;subst hk;split at he
      . rename_i r' hr;cases he;have h1:=hx 0 (by simp)
        have h2:=hy 0 (by simp)
        have h1':ax.getD k0 undef= .int k a:=h1;have h2':ay.getD k0 undef= .int k b:=h2;have s1:k0<ax.size:=by simp at hxs;omega
        have s2:k0<ay.size:=by simp at hys;omega
        have e1:ax[k0]? =some (.int k a):=by rw[<-h1'];simp[Array.getD,s1]
        have e2:ay[k0]? =some (.int k b):=by rw[<-h2'];simp[Array.getD,s2]
        have ih:=q3e (d:=d) fs (k0+1) xs' ys' r' (λj h=>by
         have:=hf (j+1) (by simpa using h)
         grind) (by simpa using hl) hr (λj h=>by
         have:=hx (j+1) (by simpa using h)
         simpa [tn,xr 1]using this) (λj h=>by
         have:=hy (j+1) (by simpa using h)
         simpa [tn,xr 1]using this) (by simp at hxs;omega) (by simp at hys;omega)
        have p1:(part f.type ax f.offset).run P w= .ok (.int k a) w:=by
         simp[part,Go.isAgg,run_underlying n3,n2,e1]
        have p2:(part f.type ay f.offset).run P w= .ok (.int k b) w:=by
         simp[part,Go.isAgg,run_underlying n3,n2,e2]
        simp only[Op.eqFields,n1,ne_eq,not_false_eq_true,if_true,Sem.run_bind,p1,p2,Result.andThen_ok,run_equalIn_int w d f.type k k1 a b n3];cases hab:(a==b)
        . simp
        . simp[ih]
      . cases he
    . cases he
  . cases he
def qgn (op:BinOp) (t:Nat) (x y:Operand) (a b:Array Value) (w:World) (h:P.eqGuardType P.depth t=false):
 (eqGuard op t x y (.agg a) (.agg b)).run P w= .ok () w:=by
 unfold eqGuard;cases op<;>simp[h]
def qo6 (hT:bm P T) {op:BinOp} {t:Nat} {x y v:AV} {cx cy:Value} {ox oy:Operand} (h:aq CO (xj T op t x y) U v U' R W)
 (hx:be β who w x cx) (hy:be β who w y cy):
 U'=U/\ab v=[]/\occ v=[]/\ ∃c,(do eqGuard op t ox oy cx cy;binOp op t cx cy:Sem Value).run P w= .ok c w/\be β who w v c:=by
 unfold xj at h;split at h
 . rename_i k a k' b;have hx':cx= .int k a:=hx;have hy':cy= .int k' b:=hy;subst hx';subst hy';simp only[Sem.run_bind,qh8,Result.andThen_ok];split at h
   . obtain⟨_,U1,_,_,_,_,h1,h2⟩:=kA h;obtain⟨hb,rfl⟩:=kG h1;obtain⟨rfl,rfl⟩:=kB h2;have hb': ¬b<0:=O;exact⟨rfl,rfl,rfl,_,by simp only[binOp,Op.shift,hb',if_false];rfl,rfl⟩
   . obtain⟨_,U1,_,_,_,_,h1,h2⟩:=kA h;obtain⟨hb,rfl⟩:=kG h1;obtain⟨rfl,rfl⟩:=kB h2;have hb': ¬b<0:=O;exact⟨rfl,rfl,rfl,_,by simp only[binOp,Op.shift,hb',if_false];rfl,rfl⟩
   . split at h
     . rename_i g1 g2 hk;subst hk;obtain⟨e1,e2,e3,c,e4,e5⟩:=qfo (P:=P) (w:=w) t h g1 g2
       grind
     . exact(kC h).elim
 . rename_i a b;have hx':cx= .bool a:=hx;have hy':cy= .bool b:=hy;subst hx';subst hy';simp only[Sem.run_bind,qec,Result.andThen_ok];split at h
   . rename_i cells ht;have hu:P.underlying t=some .bool:=(hT t _ ht).desc
     have he:(Op.equal t (.bool a) (.bool b)).run P w= .ok (a==b) w:=by
      exact qcp (P:=P) w 9999 a b hu
     split at h
     . obtain⟨rfl,rfl⟩:=kB h;exact⟨rfl,rfl,rfl,_,by simp[binOp,he],rfl⟩
     . obtain⟨rfl,rfl⟩:=kB h;exact⟨rfl,rfl,rfl,_,by simp[binOp,he],rfl⟩
     . exact(kC h).elim
   . exact(kC h).elim
 . rename_i xs ys;obtain⟨ax,rfl,hx1,hx2⟩: ∃arr,cx= .agg arr/\a8 β who w xs arr:=hx;obtain⟨ay,rfl,hy1,hy2⟩: ∃arr,cy= .agg arr/\a8 β who w ys arr:=hy;split at h
   . rename_i ti ht;split at h
     . rename_i hc;obtain⟨fields,f1,f2,f3,f4,f5⟩:=(hT t _ ht).eqs hc.1;split at h
       . rename_i r hr
         have he:(Op.equal t (.agg ax) (.agg ay)).run P w= .ok r w:=by
          have hfo:P.fieldsOf t=fields:=by simp[Program.fieldsOf,f1]
          show(Op.equalIn (9999+1) t (.agg ax) (.agg ay)).run P w=_
          rw[run_equalIn_struct w 9999 t ax ay (by rw[hfo];exact f1) f2,hfo]
          exact q3e (d:=9998) fields.toList 0 xs ys r (λj h=>by simpa using f5 j h) (by rw[hc.2,<-f4];simp) hr (λj h=>by simpa using hx2 j h) (λj h=>by simpa using hy2 j h) O O
         simp only[Sem.run_bind,qgn _ _ _ _ _ _ _ f3,Result.andThen_ok];split at h
         . obtain⟨rfl,rfl⟩:=kB h;exact⟨rfl,rfl,rfl,_,by simp[binOp,he],rfl⟩
         . obtain⟨rfl,rfl⟩:=kB h;exact⟨rfl,rfl,rfl,_,by simp[binOp,he],rfl⟩
         . exact(kC h).elim
       . exact(kC h).elim
     . exact(kC h).elim
   . exact(kC h).elim
 . exact(kC h).elim
def qpn {op:UnOp} {x v:AV} {cx:Value} (h:aq CO (FH op x) U v U' R W) (hx:be β who w x cx):
 U'=U/\ab v=[]/\occ v=[]/\ ∃c,(Op.unary op cx).run P w= .ok c w/\be β who w v c:=by
 unfold FH at h;split at h
 . obtain⟨rfl,rfl⟩:=kB h;have hx':cx= .int _ _:=hx;subst hx';exact⟨rfl,rfl,rfl,_,by simp only[Op.unary,Op.intArith];rfl,rfl⟩
 . obtain⟨rfl,rfl⟩:=kB h;have hx':cx= .int _ _:=hx;subst hx';exact⟨rfl,rfl,rfl,_,by simp only[Op.unary,Op.intBits];rfl,rfl⟩
 . obtain⟨rfl,rfl⟩:=kB h;have hx':cx= .bool _:=hx;subst hx';exact⟨rfl,rfl,rfl,_,by simp only[Op.unary];rfl,rfl⟩
 . exact(kC h).elim
def qkg {t:Nat} {ti:TI} (h:jV P t ti): ∃d,P.underlying t=some d:=by
 have hd:=h.desc;cases hti:ti.desc with
 |int k=>rw[hti]at hd;exact⟨_,hd⟩
 |bool=>rw[hti]at hd;exact⟨_,hd⟩
 |slice e ty=>rw[hti]at hd;exact⟨_,hd.1⟩
 |mslice e ty=>rw[hti]at hd;exact⟨_,hd.1⟩
 |map e ty=>rw[hti]at hd;obtain⟨_,_,_,hd,_⟩:=hd;exact⟨_,hd⟩
 |struct fs=>rw[hti]at hd;obtain⟨f,hd,_⟩:=hd;exact⟨_,hd⟩
 |array n e=>rw[hti]at hd;obtain⟨f,hd⟩:=hd;exact⟨_,hd⟩
 |ptr e=>rw[hti]at hd;exact⟨_,hd⟩
 |string=>rw[hti]at hd;exact⟨_,hd⟩
 |tab g k xs=>rw[hti]at hd;obtain⟨⟨e,i,hd,_⟩,_⟩:=hd;exact⟨_,hd⟩
 |other=>rw[hti]at hd;obtain⟨d,hd,_⟩:=hd;exact⟨_,hd⟩
def qk7 (hT:bm P T) {s d:Nat} {x v:AV} {cx:Value} (h:aq CO (P5 T s d x) U v U' R W) (hx:be β who w x cx):
 U'=U/\ab v=[]/\occ v=[]/\ ∃c,(convert s d cx).run P w= .ok c w/\be β who w v c:=by
 unfold P5 at h;split at h
 . rename_i ti k cells k' n h1 h2;obtain⟨rfl,rfl⟩:=kB h;have hx':cx= .int k' n:=hx;subst hx';have hu:P.underlying d=some (.int k):=(hT d _ h2).desc;obtain⟨u,hs⟩:=qkg (hT s _ h1);exact⟨rfl,rfl,rfl,.int k (k.wrap n),by simp[convert,run_underlying hu,run_underlying hs,Conv.intToInt],rfl⟩
 . exact(kC h).elim
end
def bI (b o n:Nat):(⟨b,o,none⟩:Addr).add n=⟨b,o+n,none⟩:=by
 unfold Addr.add;split<;>simp_all
def mq (who:bg) (w:World) (t:Ty) (xs:List (aM t)) (v:Value):Prop:=
 (v= .slice none 0 0/\xs=[])\/
 ∃b o cap,v= .slice (some ⟨b,o,none⟩) xs.length cap/\b<w.heap.size/\xs.length<=cap/\aQ who w t xs b o
section
variable {P:Program} {CO:Q5} {T:TT} {β:aP} {who:bg} {U U':ag} {w:World} {R W:List Nat}
def Ze {b:Nat} {o:Obj} (h:w.heap[b]? =some o):b<w.heap.size:=by
 grind
def cu.sls {n:Nat} {t:Ty} {xs:List (aM t)} {v:Value} (h:cu β who w n t xs v):mq who w t xs v:=by
 obtain⟨_,h⟩:=h;rcases h with h|⟨b,o,cap,arr,el,e1,e2,e3,e4,e5,e6⟩
 . exact .inl h
 . exact .inr ⟨b,o,cap,e1,Ze e2,e4,e6⟩
def fB.sls {t:Ty} {xs:List (aM t)} {v:Value} (h:fB who w t xs v):mq who w t xs v:=by
 rcases h with h|⟨b,o,cap,e1,e2,e3,e4,e5⟩
 . exact .inl h
 . exact .inr ⟨b,o,cap,e1,e3,e4,e5⟩
def mq.window {t:Ty} {xs:List (aM t)} {base v:Value} {win:Option (Nat×Nat)} (h:mq who w t xs base) (hv:tE base t.size win v):
 mq who w t (window xs win) v/\(∀o l,win=some (o,l)->o+l<=xs.length/\(Vs.window xs win).length=l):=by
 cases win with
 |none=>obtain⟨hv,_⟩:=hv;subst hv;exact⟨h,λo l e=>by cases e⟩
 |some ol=>
  obtain⟨off,len⟩:=ol;obtain⟨a,L,cap,a',e1,e2,e3,e4,e5⟩:=hv;subst e3;rcases h with⟨h,hx⟩|⟨b,o,cap',h1,h2,h3,h4⟩
  . rw[h]at e1;injection e1 with g1 g2 g3
    subst g1 g2 g3;have h0:off=0:=O;have h1:len=0:=O;subst h0 h1 hx;refine⟨.inl ⟨?_,by simp[Vs.window]⟩,λo l e=>by injection e with e;injection e with e' e'';subst e' e'';simp[Vs.window]⟩
    cases a' with
    |none=>rfl
    |some x=>simp at e5
  . rw[h1]at e1;injection e1 with g1 g2 g3
    subst g1 g2 g3;have hl:(Vs.window xs (some (off,len))).length=len:=by simp[Vs.window];omega
    have key: ∃o',a'=some ⟨b,o',none⟩/\(len≠0->o'=o+off*t.size):=by
     by_cases h0:len=0
     . cases a' with
       |none=>simp at e5
       |some x=>
        obtain⟨xb,xo,xs'⟩:=x
        grind
     . have:=e4 O;simp only[sm,bI]at this
       grind
    obtain⟨o',ha',ho'⟩:=key;subst ha';refine⟨.inr ⟨b,o',cap'-off,by rw[hl],h2,by rw[hl];omega,?_⟩,λo l e=>by grind⟩
    intro i hi;rw[hl]at hi;have hne:len≠0:=O;have hx:(Vs.window xs (some (off,len)))[i]'(by rw[hl];exact hi)=xs[off+i]'(O):=by simp[Vs.window]
    rw[hx];have:=h4 (off+i) O;rw[ho' hne];have hadr:o+off*t.size+i*t.size=o+(off+i)*t.size:=by rw[ir];omega
    rw[hadr];exact this
def RX {n:Nat} {c:AV} {v:Value} {t:Ty} {xs:List (aM t)} (h:aO β who w c v) (hf:fq n c=some ⟨t,xs⟩):cu β who w n t xs (β n)/\n∈qc c:=by
 cases c with
 |sl o t' xs'=>
  cases o with
  |nm m=>
   simp only[fq]at hf;split at hf
   . rename_i e;subst e;injection hf with hf
     cases hf
     obtain⟨h1,h2⟩:=h;exact⟨⟨rfl,by rw[<-h1];exact h2⟩,by simp[qc]⟩
   . cases hf
  |_=>cases hf
 |wn m t' xs'=>
  simp only[fq]at hf;split at hf
  . rename_i e;subst e;injection hf with hf
    cases hf
    obtain⟨h1,h2⟩:=h.1;exact⟨⟨rfl,by rw[<-h1];exact h2⟩,by simp[qc]⟩
  . cases hf
 |_=>cases hf
def YA {n:Nat} {cells:List AV} {arr:Array Value} {t:Ty} {xs:List (aM t)} (h: ∀j (h:j<cells.length),aO β who w cells[j] (arr.getD j undef))
 (hf:jJ n cells=some ⟨t,xs⟩):cu β who w n t xs (β n)/\n∈cells.flatMap qc:=by
 have: ∀(cells:List AV),(∀c∈cells,∃v,aO β who w c v)->jJ n cells=some ⟨t,xs⟩->cu β who w n t xs (β n)/\n∈cells.flatMap qc:=by
  intro cells;induction cells with
  |nil=>intro _ h;cases h
  |cons c cs ih=>
   intro h hf;simp only[jJ]at hf;split at hf
   . rename_i x hx;injection hf with hf
     subst hf;obtain⟨v,hv⟩:=h c (by simp)
     obtain⟨g1,g2⟩:=RX hv hx;exact⟨g1,by simp[g2]⟩
   grind
 refine this cells (λc hc=> ?_) hf
 obtain⟨j,hj,rfl⟩:=l9 hc;exact⟨_,h j hj⟩
def RV {n:Nat} {av:AV} {v:Value} {t:Ty} {xs:List (aM t)} (h:be β who w av v) (hf:gv n av=some ⟨t,xs⟩):cu β who w n t xs (β n)/\n∈ab av:=by
 cases av with
 |bx o cells=>
  cases o with
  |nm m=>
   obtain⟨_,b,arr,el,_,_,_,e4⟩:=h;obtain⟨g1,g2⟩:=YA e4.2 hf;exact⟨g1,by simp only[ab,qi];grind⟩
  |_=>exact h.elim
 |agg cells=>
  obtain⟨arr,_,e4⟩:=h;exact YA e4.2 hf
 |tup vs=>simp[gv,fq]at hf
 |sl o t' xs'=>exact RX (c:= .sl o t' xs') h hf
 |wn m t' xs'=>exact RX (c:= .wn m t' xs') h hf
 |_=>simp[gv,fq]at hf
end
section
variable {P:Program} {CO:Q5} {T:TT} {E:aN} {D:Nat->Prop} {β:aP} {who:bg} {U U':ag} {hd:List (AV×Value)} {a:Act} {w:World} {R W:List Nat}
def aq.nodeOf {s n sz:Nat} {x:Sigma λt:Ty=>List (aM t)} (h:aq CO (nodeOf s n sz) U x U' R W) (S:aC E D β who U hd a w):
 U'=U/\sz=x.1.size/\cu β who w n x.1 x.2 (β n)/\n∈ab (U.get s):=by
 obtain⟨av,U1,_,_,_,_,h1,h2⟩:=kA h;obtain⟨rfl,rfl⟩:=kD h1;split at h2
 . rename_i t xs hf;split at h2
   . rename_i hsz;obtain⟨rfl,rfl⟩:=kB h2;obtain⟨g1,g2⟩:=RV (S.rel s) hf
     grind
   . exact(kC h2).elim
 . exact(kC h2).elim
def aq.shown {x:AV} {c:Value} {y:Sigma λt:Ty=>List (aM t)} (h:aq CO (shown x) U y U' R W) (S:aC E D β who U hd a w) (hx:be β who w x c):
 U'=U/\mq who w y.1 y.2 c:=by
 unfold Vs.shown at h;split at h
 . obtain⟨rfl,rfl⟩:=kB h;exact⟨rfl,fB.sls hx⟩
 . obtain⟨rfl,rfl⟩:=kB h;exact⟨rfl,.inl hx⟩
 . obtain⟨rfl,rfl⟩:=kB h;exact⟨rfl,cu.sls hx⟩
 . obtain⟨y,U1,_,_,_,_,h1,h2⟩:=kA h;obtain⟨rfl,hsz,g1,g2⟩:=aq.nodeOf h1 S;obtain⟨rfl,rfl⟩:=kB h2;subst hsz;exact⟨rfl,(mq.window g1.sls hx).1⟩
 . exact(kC h).elim
def mq.shape {t:Ty} {xs:List (aM t)} {v:Value} (h:mq who w t xs v): ∃ad cap,v= .slice ad xs.length cap:=by
 rcases h with⟨h,hx⟩|⟨b,o,cap,h,_⟩
 . grind
 . exact⟨_,_,h⟩
def qnm (hT:bm P T) {t:Nat} {tys:Array TypeId} {rt:TypeId} {x v:AV} {c:Value} (h:aq CO (uQ T t x) U v U' R W) (ht:tys[0]? =some t) (S:aC E D β who U hd a w) (hx:be β who w x c):
 U'=U/\ab v=[]/\occ v=[]/\ ∃r,(Builtin.len_ tys rt #[c]).run P w= .ok r w/\be β who w v r:=by
 unfold uQ at h;split at h
 . rename_i e ty cells hti;obtain⟨y,U1,_,_,_,_,h1,h2⟩:=kA h;obtain⟨rfl,hs⟩:=aq.shown h1 S hx;obtain⟨rfl,rfl⟩:=kB h2;have hu:=(hT t _ hti).desc.1;obtain⟨ad,cap,rfl⟩:=hs.shape;exact⟨rfl,rfl,rfl,.int .i64 y.2.length,by simp[Builtin.len_,ht,run_underlying hu,goInt],rfl⟩
 . exact(kC h).elim
def q8o {x v:AV} {c:Value} {op:Operand} {o:Oper} (h:aq CO (So x) U v U' R W) (ho:o.op= .nilCheck op) (hc:a.eval op=c) (hx:be β who w x c):
 U'=U/\v=x/\(execOp a.eval o).run P w= .ok (.value c) w:=by
 unfold So at h;split at h
 . obtain⟨rfl,rfl⟩:=kB h;refine⟨rfl,rfl,?_⟩;rcases hx with⟨b,o',L,cap,_,_,e⟩|⟨b,_,_,e⟩<;>(unfold execOp;simp only[ho,hc,e];rfl)
 . rename_i g _ _ _ _;obtain⟨rfl,rfl⟩:=kB h;refine⟨rfl,rfl,?_⟩;obtain⟨b,o',e,_⟩:=hx;cases g<;>(unfold execOp;simp only[ho,hc,e];rfl)
 . obtain⟨rfl,rfl⟩:=kB h;have e:c=_:=hx.1;refine⟨rfl,rfl,?_⟩;unfold execOp;simp only[ho,hc,e];rfl
 . exact(kC h).elim
def qg5 {t:Ty} {xs:List (aM t)} {base c:Value} {win:Option (Nat×Nat)} {l h:Nat} (hs:mq who w t xs base) (hr:tE base t.size win c) (hl:l<=h) (hh:h<=(window xs win).length):
 ∃ad cap,c= .slice ad (window xs win).length cap/\(window xs win).length<=cap/\
  tE base t.size (some (Jh win+l,h-l)) (.slice (if cap=l then ad else ad.map (·.add (l*t.size))) (h-l) (cap-l)):=by
 obtain⟨hw,hlen⟩:=mq.window hs hr;cases win with
 |none=>
  obtain⟨hr,_⟩:=hr;subst hr;rcases hs with⟨e,hx⟩|⟨b,o,cap,e,e1,e2,e3⟩
  . subst hx;have h0:h=0:=by simpa [window]using hh
    have l0:l=0:=O;subst h0 l0;exact⟨none,0,by rw[e];rfl,by simp[window],none,0,0,none,e,by simp[Jh],by simp,by simp,by simp⟩
  . refine⟨_,cap,e,e2,some ⟨b,o,none⟩,xs.length,cap,(if cap=l then some ⟨b,o,none⟩else(some ⟨b,o,none⟩:Option Addr).map (·.add (l*t.size))),e,by simp only[window,Jh]at hh⊢;omega,?_,?_,?_⟩
    . simp only[Jh,zG]
    . intro hne;simp only[Jh,zG]at hne;rw[ao O,Jh,zG]
    . have hl':l*t.size<=cap*t.size:=zO _ (by simp only[window]at hh;omega)
      split<;>simp[bI,hl']
 |some ol=>
  obtain⟨off,len⟩:=ol;obtain⟨h1,h2⟩:=hlen off len rfl;rw[h2]at hh⊢;obtain⟨ad,L,cap,ad',e1,e2,e3,e4,e5⟩:=hr
  have hcap:len<=cap-off:=by
   have:=hw;rw[e3]at this;rcases this with⟨e,hx⟩|⟨b,o,cap',e,_,g,_⟩
   . grind
   . grind
  refine⟨ad',cap-off,e3,hcap,ad,L,cap,(if cap-off=l then ad' else ad'.map (·.add (l*t.size))),e1,by simp only[Jh];omega,by simp only[Nat.sub_sub,Jh],?_,?_⟩
  . intro hne;simp only[Jh]at hne;rw[ao O,e4 O,Option.map_map];congr 1
    funext x
    simp only[Function.comp,Addr.add]
    have: ∀(x:Addr),(x.add (off*t.size)).add (l*t.size)=x.add ((off+l)*t.size):=by
     intro x;unfold Addr.add;rw[ir];by_cases h1:off*t.size=0<;>by_cases h2:l*t.size=0
     . simp[h1,h2]
     . simp[h1,h2]
     . simp[h1,h2]
     . grind
    exact this x
  . have e5': ∀x y:Option Addr,x.map (λz=>(z.block,z.spot))=y.map (λz=>(z.block,z.spot))->True:=λ_ _ _=>trivial
    obtain⟨e5,e6⟩:=e5;rcases hs with⟨e,hx⟩|⟨b,o,cap',e,_⟩
    . grind
    . rw[e]at e1;injection e1 with g1 _ _
      subst g1;cases ad' with
      |none=>simp at e5
      |some z=>
       obtain⟨o',q1,q2⟩:=e6 b o rfl;injection q1 with q1
       subst q1;split
       . simp;exact q2
       . rename_i hne;have hlt:off<cap:=O;have q3:=e4 hlt;simp[bI]at q3;have hm:(off+l)*t.size<=cap*t.size:=zO _ O;rw[ir]at hm;simp[bI];omega
end
def I2 (β:aP) (who:bg) (w:World):Option AV->Option Value->Prop
 |none,none=>True
 |some v,some u=>be β who w v u
 |_,_=>False
def xY (lo:Option Int):Option Value:=lo.map (Value.int .i64)
section
variable {P:Program} {CO:Q5} {T:TT} {E:aN} {D:Nat->Prop} {β:aP} {who:bg} {U U':ag} {hd:List (AV×Value)} {a:Act} {w:World} {R W:List Nat}
def q7r (len cap:Nat) (lo hi:Option Int) (h0:0<=lo.getD 0) (h1:lo.getD 0<=hi.getD len) (h2:hi.getD len<=len) (h3:len<=cap) (w:World):
 (Instr.sliceBounds true len cap (xY lo) (xY hi) none).run P w= .ok ((lo.getD 0).toNat,(hi.getD (len:Int)).toNat,cap) w:=by
 have hb: ∀(n:Int) (y:Nat) (c:BoundsCode),0<=n->n<=y->(Instr.sliceBound (.int .i64 n) y c).run P w= .ok n.toNat w:=by
  intro n y c h1 h2;unfold Instr.sliceBound;simp[asIntOf,h1,h2]
 unfold Instr.sliceBounds;cases lo with
 |none=>
  cases hi with
  |none=>simp[xY]
  |some h=>
   simp only[pP,IC]at*;simp[xY,hb h cap .sliceAcap h1 O]
 |some l=>
  cases hi with
  |none=>
   simp only[pP,IC]at*;simp[xY,hb l len .sliceB h0 O]
  |some h=>
   simp only[pP]at*;simp[xY,hb h cap .sliceAcap O O,hb l h.toNat .sliceB h0 O]
def ZE {α:Type} (xs:List α) (lo hi:Option Int) (h0:0<=lo.getD 0) (h1:lo.getD 0<=hi.getD xs.length) (h2:hi.getD xs.length<=xs.length):
 Oc xs lo hi=(xs.drop (lo.getD 0).toNat).take ((hi.getD (xs.length:Int)).toNat-(lo.getD 0).toNat):=by
 unfold Oc;cases lo with
 |none=>
  cases hi with
  |none=>simp
  |some h=>simp
 |some l=>
  cases hi with
  |none=>simp only[pP,IC]at*;rw[sj (by simp)]
  |some h=>rfl
def JU {e:Nat} {i:TypeInfo} {t:Nat} (hu:P.underlying t=some (.slice e)) (hi:P.info? e=some i) (ad:Option Addr) (len cap:Nat) (lo hi':Option Int)
 (h0:0<=lo.getD 0) (h1:lo.getD 0<=hi'.getD len) (h2:hi'.getD len<=len) (h3:len<=cap) (w:World):
 (Instr.sliceAt t (.slice ad len cap) (xY lo) (xY hi') none).run P w=
   .ok (.slice (if cap=(lo.getD 0).toNat then ad else ad.map (·.add ((lo.getD 0).toNat*i.size))) ((hi'.getD (len:Int)).toNat-(lo.getD 0).toNat) (cap-(lo.getD 0).toNat)) w:=by
 simp[Instr.sliceAt,Instr.slice,run_underlying hu,q7r len cap lo hi' h0 h1 h2 h3,Xp hi]
def XH {x:Option AV} {lo:Option Int} {c:Option Value} (h:qa x=some lo) (hr:I2 β who w x c):c=xY lo:=by
 cases x with
 |none=>cases h;cases c with
  |none=>rfl
  |some u=>exact hr.elim
 |some v=>
  cases c with
  |none=>exact hr.elim
  |some u=>
   cases v with
   |int k n=>cases k<;>first|(cases h;have:u=_:=hr;subst this;rfl)|cases h
   |_=>cases h
def VD {t:Ty} {xs:List (aM t)} {v:Value} {n:Nat} (h:cu β who w n t xs v):
 (v= .slice none 0 0/\xs=[])\/ ∃b o cap arr el,v= .slice (some ⟨b,o,none⟩) xs.length cap/\w.heap[b]? =some (.cells arr el (0,0))/\o+cap*t.size<=arr.size/\
 xs.length<=cap/\who b=some n/\aQ who w t xs b o:=h.2
def aC.rename1 {n m:Nat} {t:Ty} {xs ys:List (aM t)} {c c':Value} {D':Nat->Prop} (S:aC E D β who U ((.sl (.nm n) t xs,c)::hd) a w)
 (hm: ¬D m) (hD: ∀x,D x->D' x) (hDm:D' m) (hDF: ¬D' FN)
 (hr: ∀β' who',β' m=c'->(∀b,who b=some n->who' b=some m)->(∀b,who b=none->who' b=none)->cu β' who' w m t ys c'):
 ∃β' who',aC E D' β' who' U ((.sl (.nm m) t ys,c')::hd) a w:=by
 let β':aP:=λx=>if x=m then c' else β x
 let who':bg:=λb=>if who b=some n then some m else who b
 have hnin: ∀s,n∉ab (U.get s):=λs=>S.hdis _ mS n (by simp[ab,qi,qc]) s
 have hnhd: ∀x∈hd,n∉ab x.1:=by
  intro x hx hn;have:=S.hnod;simp only[fC,ab,qi,qc,xq,jN]at this;exact this.1 (zH.2 ⟨x,hx,hn⟩)
 have hb: ∀x,D x->β' x=β x:=λx hx=>by grind
 have k: ∀av,(∀x∈Vs.occ av,D x)->n∉ab av->cB β who w β' who' w (ab av) (Vs.occ av):=λav ho hn=>
  ⟨λx hx=>hb x (ho x hx),λx hx b hw=>⟨by grind,rfl⟩,
   λb hb' _=>⟨by simp[who',hb'],rfl⟩,zF _⟩
 have hws: ∀b x,who' b=some x-> ∃y,who b=some y:=λb x h=>by
  grind
 have hnew:be β' who' w (.sl (.nm m) t ys) c':=hr β' who' (by simp[β']) (λb h=>by simp[who',h]) (λb h=>by simp[who',h])
 refine⟨β',who',?_⟩
 have S0:=(S.drop rfl).world (h98:=hb 98 S.d98) (β':=β') (who':=who') (w':=w) (λs=>(S.rel s).keep (k _ (S.occ s) (hnin s)))
  (λx hx=>(S.hrel x (mT hx)).keep (k _ (S.hocc x (mT hx)) (hnhd x hx)))
  (λb x h=>by obtain⟨y,hy⟩:=hws b x h;exact S.wsz b y hy) (zF _) (λ_ _ _=>rfl) (λb x h=>by obtain⟨y,hy⟩:=hws b x h;exact S.fr1 b y hy)
  (fun b hb=>by
    have h:=S.fr3 b hb;simp only[who'];rw[ao]
    . exact h
    . rw[h];intro e;injection e with e
      exact S.dfn (S.hocc _ mS FN (by rw[e];simp[Vs.occ,aX,aI])))
 have S1:=S0.mono hD hDF
 exact{S1 with
  hrel:=λy hy=>by rcases mC hy with rfl|hy;exact hnew;exact S1.hrel y hy
  hnod:=by
   simp only[fC,ab,qi,qc,xq,jN];refine⟨λh=> ?_,S0.hnod⟩
   obtain⟨x,hx,hn⟩:=zH.1 h;exact hm (S.hocc x (mT hx) m (qj hn))
  hdis:=λy hy=>by
   rcases mC hy with rfl|hy
   . intro x hx s hs;simp only[ab,qi,qc,zC]at hx;subst hx;exact hm (S.occ s x (qj hs))
   . exact S1.hdis y hy
  hocc:=λy hy=>by
   rcases mC hy with rfl|hy
   . intro x hx;simp only[Vs.occ,aX,aI,zC]at hx;subst hx;exact hDm
   . exact S1.hocc y hy}
def aQ.window {t:Ty} {xs:List (aM t)} {b o:Nat} (h:aQ who w t xs b o) (off len:Nat) (hl:off+len<=xs.length):
 aQ who w t ((xs.drop off).take len) b (o+off*t.size):=by
 intro i hi;have hi':i<len:=by simp at hi;omega
 have hx:((xs.drop off).take len)[i]=xs[off+i]'(O):=by simp
 rw[hx];have:=h (off+i) O
 grind
def qgz (hT:bm P T) {idx t:Nat} {x v:AV} {lo hi:Option AV} {c:Value} {cl ch:Option Value} {D':Nat->Prop} (h:aq CO (QL T idx t x lo hi) U v U' R W)
 (S:aC E D β who U ((x,c)::hd) a w)
 (hl:I2 β who w lo cl)
 (hh:I2 β who w hi ch)
 (hf: ¬D (ae idx 15)) (hD: ∀x,D x->D' x) (hD15:D' (ae idx 15)) (hDF: ¬D' FN):
 ∃r β' who',(Instr.sliceAt t c cl ch none).run P w= .ok r w/\aC E D' β' who' U' ((v,r)::hd) a w:=by
 have hx:=S.hrel _ mS;unfold QL at h;split at h
 . rename_i e ety cells lo hi hti g1 g2;have hcl:=XH g1 hl;have hch:=XH g2 hh;subst hcl;subst hch;obtain⟨hu,⟨ei,ez,he,hes,_⟩⟩:=(hT t _ hti).desc;split at h
   . rename_i ty' xs;split at h
     . rename_i hsz;obtain⟨_,U1,_,_,_,_,h1,h2⟩:=kA h;obtain⟨⟨m0,m1,m2⟩,rfl⟩:=kG h1;obtain⟨rfl,rfl⟩:=kB h2;have hx':fB who w ty' xs c:=hx;have hlt:=fB.sls hx';rw[ZE xs lo hi m0 m1 m2];rcases hx' with⟨rfl,rfl⟩|⟨b,o,cap,rfl,q1,q2,q3,q4⟩
       . have e0:((([]:List (aM ty')).length:Nat):Int)=0:=rfl;rw[e0]at m1 m2;have hlo:lo.getD 0=0:=O;have hhi:hi.getD 0=0:=O;refine⟨_,β,who,JU hu he none 0 0 lo hi m0 (by simpa using m1) (by simpa using m2) (zF _) w,?_⟩
         refine aC.mono ((S.drop rfl).take0 ?_ rfl (λn hn=>by cases hn)) hD hDF
         grind
       . refine⟨_,β,who,JU hu he (some ⟨b,o,none⟩) xs.length cap lo hi m0 m1 m2 q3 w,?_⟩;refine aC.mono ((S.drop rfl).take0 ?_ rfl (λn hn=>by cases hn)) hD hDF
         have hlen:((xs.drop (lo.getD 0).toNat).take ((hi.getD (xs.length:Int)).toNat-(lo.getD 0).toNat)).length=(hi.getD (xs.length:Int)).toNat-(lo.getD 0).toNat:=by simp;omega
         by_cases hc:cap=(lo.getD 0).toNat
         . rw[iP hc];refine .inr ⟨b,o,cap-(lo.getD 0).toNat,by rw[hlen],q1,q2,by rw[hlen];omega,?_⟩
           intro i hi';rw[hlen]at hi';omega
         . rw[ao hc];refine .inr ⟨b,o+(lo.getD 0).toNat*ei.size,cap-(lo.getD 0).toNat,by rw[hlen];simp[bI],q1,q2,by rw[hlen];omega,?_⟩
           rw[hes,hsz];exact q4.window _ _ O
     . exact(kC h).elim
   . rename_i n ty' xs;split at h
     . rename_i hsz;obtain⟨_,U1,_,_,_,_,h1,h2⟩:=kA h;obtain⟨⟨m0,m1,m2⟩,rfl⟩:=kG h1;obtain⟨rfl,rfl⟩:=kB h2;rw[ZE xs lo hi m0 m1 m2];rcases(VD hx)with⟨rfl,rfl⟩|⟨b,o,cap,arr,el,rfl,q0,q1,q2,q3,q4⟩
       . have e0:((([]:List (aM ty')).length:Nat):Int)=0:=rfl;rw[e0]at m1 m2;have hlo:lo.getD 0=0:=O;have hhi:hi.getD 0=0:=O;have:hi.getD ((0:Nat):Int)=0:=by simpa using hhi
         obtain⟨β',who',S'⟩:=aC.rename1 (m:=ae idx 15) (ys:=[]) (c':= .slice none 0 0) S hf hD hD15 hDF (λβ' who' e _ _=>⟨e.symm,.inl ⟨rfl,rfl⟩⟩)
         refine⟨_,β',who',JU hu he none 0 0 lo hi m0 (by simpa using m1) (by simpa using m2) (zF _) w,?_⟩
         rw[hlo,this];simpa using S'
       . have hlen:((xs.drop (lo.getD 0).toNat).take ((hi.getD (xs.length:Int)).toNat-(lo.getD 0).toNat)).length=(hi.getD (xs.length:Int)).toNat-(lo.getD 0).toNat:=by simp;omega
         obtain⟨β',who',S'⟩:=aC.rename1 (m:=ae idx 15) (ys:=(xs.drop (lo.getD 0).toNat).take ((hi.getD (xs.length:Int)).toNat-(lo.getD 0).toNat))
          (c':= .slice (if cap=(lo.getD 0).toNat then some ⟨b,o,none⟩else(some ⟨b,o,none⟩:Option Addr).map (·.add ((lo.getD 0).toNat*ei.size))) ((hi.getD (xs.length:Int)).toNat-(lo.getD 0).toNat) (cap-(lo.getD 0).toNat)) S hf hD hD15 hDF
          (fun β' who' e g1 g2=>by
            refine⟨e.symm,.inr ?_⟩;by_cases hc:cap=(lo.getD 0).toNat
            . rw[iP hc];refine⟨b,o,cap-(lo.getD 0).toNat,arr,el,by rw[hlen],q0,by grind,by rw[hlen];omega,g1 b q3,?_⟩
              intro i hi';rw[hlen]at hi';omega
            . rw[ao hc];refine⟨b,o+(lo.getD 0).toNat*ei.size,cap-(lo.getD 0).toNat,arr,el,by rw[hlen];simp[bI],q0,?_,by rw[hlen];omega,g1 b q3,?_⟩
              . rw[hes,hsz,Nat.sub_mul];have:(lo.getD 0).toNat*ty'.size<=cap*ty'.size:=zO _ O;omega
              . rw[hes,hsz];exact aQ.keep (λb hb _=>⟨g2 b hb,rfl⟩) (zF _) rfl (q4.window _ _ O))
         exact⟨_,β',who',JU hu he (some ⟨b,o,none⟩) xs.length cap lo hi m0 m1 m2 q2 w,S'⟩
     . exact(kC h).elim
   . rename_i s n sz win;split at h
     . rename_i hsz;obtain⟨y,U1,_,_,_,_,h1,h2⟩:=kA h;obtain⟨rfl,hsz',g1,g2⟩:=aq.nodeOf h1 S;obtain⟨_,U2,_,_,_,_,h3,h4⟩:=kA h2;obtain⟨⟨m0,m1,m2⟩,rfl⟩:=kG h3;obtain⟨rfl,rfl⟩:=kB h4;subst hsz';obtain⟨ad,cap,rfl,hcap,hrv⟩:=qg5 (l:=(lo.getD 0).toNat) (h:=(hi.getD ((window y.2 win).length:Int)).toNat) g1.sls hx O O;refine⟨_,β,who,JU hu he ad (window y.2 win).length cap lo hi m0 m1 m2 hcap w,?_⟩;refine aC.mono ((S.drop rfl).take0 ?_ rfl ?_) hD hDF
       . rw[hes,hsz];exact hrv
       . intro n' hn';exact S.hocc _ mS n' hn'
     . exact(kC h).elim
   . exact(kC h).elim
 . exact(kC h).elim
end
section
variable {P:Program} {CO:Q5} {T:TT} {E:aN} {D:Nat->Prop} {β:aP} {who:bg} {U U':ag} {hd:List (AV×Value)} {a:Act} {w:World} {R W:List Nat}
def cw {e t:Nat} {i:TypeInfo} (hu:P.underlying t=some (.slice e)) (hi:P.info? e=some i) (b o len cap:Nat) (k:IntKind) (n:Int) (h0:0<=n) (h1:n<len) (w:World):
 (Instr.indexAt t (.slice (some ⟨b,o,none⟩) len cap) (.int k n)).run P w= .ok (.pointer (some ⟨b,o+n.toNat*i.size,none⟩)) w:=by
 simp[Instr.indexAt,asIntOf,run_underlying hu,h0,h1,Xp hi,bI]
def qgf (hT:bm P T) {t:Nat} {x i v:AV} {c ci:Value} (h:aq CO (QM T t x i) U v U' R W)
 (hx:be β who w x c) (hi:be β who w i ci):
 U'=U/\ab v=[]/\occ v=[]/\ ∃r,(Instr.index t c ci).run P w= .ok r w/\be β who w v r:=by
 unfold QM at h;split at h
 . rename_i cells s k i' hti;have hci:ci= .int k i':=hi;subst hci;have hc:c= .string s:=hx.1;subst hc;have hu:P.underlying t=some .string:=(hT t _ hti).desc;obtain⟨_,U1,_,_,_,_,h1,h2⟩:=kA h;obtain⟨⟨m0,m1⟩,rfl⟩:=kG h1;obtain⟨rfl,rfl⟩:=kB h2;refine⟨rfl,rfl,rfl,.int .u8 ((fi s).getD i'.toNat 0),?_,rfl⟩;have hlen:(fi s).length=s.size:=by unfold fi;rw[zy,HG];rfl
   have hlt:i'.toNat<s.size:=O;have e:s[i'.toNat]? =some s[i'.toNat]:=getElem?_pos s i'.toNat hlt
   have e2:((fi s).getD i'.toNat 0)=(s[i'.toNat].toNat:Int):=by
    simp only[fi,List.getD,List.getElem?_map]
    have:s.data.toList[i'.toNat]? =some s[i'.toNat]:=by
     rw[Array.getElem?_toList];exact Array.getElem?_eq_getElem hlt
    rw[this];rfl
   rw[e2];simp[Instr.index,run_underlying hu,asIntOf,m0,e]
 . exact(kC h).elim
def qm6 (hT:bm P T) {t g:Nat} {i v:AV} {ci:Value} (h:aq CO (uc T t g i) U v U' R W) (hG:ct P who w) (hi:be β who w i ci):
 U'=U/\ab v=[]/\occ v=[]/\ ∃r,(Instr.indexAt t (.pointer (some ⟨g,0,none⟩)) ci).run P w= .ok r w/\be β who w v r:=by
 unfold uc at h;split at h
 . rename_i g' k xs cells k' i' hti;have hci:ci= .int k' i':=hi;subst hci;obtain⟨⟨e,ei,hu,he,hes⟩,hmem⟩:=(hT t _ hti).desc;split at h
   . rename_i hg;subst hg;obtain⟨_,U1,_,_,_,_,h1,h2⟩:=kA h;obtain⟨⟨m0,m1⟩,rfl⟩:=kG h1;obtain⟨rfl,rfl⟩:=kB h2;obtain⟨q1,q2,q3⟩:=hG _ hmem;have hen:P.elem t=e:=by simp[Program.elem,hu]
     have hal:P.arrayLen t=xs.length:=by simp[Program.arrayLen,hu]
     refine⟨rfl,rfl,rfl,.pointer (some ⟨g',i'.toNat,none⟩),?_,g',0,?_,O,q1,q2,λj hj=> ?_⟩
     . rw[run_indexAt_array w t ⟨g',0,none⟩ k' i' (by rw[hal,hen];exact hu),iP (by rw[hal];exact⟨m0,m1⟩),hen,Xp he]
       show Result.ok _ _=_
       rw[hes,iw];congr 3;unfold Addr.add
       grind
     . simp[Ty.size]
     . show aD w g' (0+j*1) 0=some (.int k xs[j])
       have:=q3 j hj;simpa [aD]using this
   . exact(kC h).elim
 . exact(kC h).elim
def q80 (hT:bm P T) {t:Nat} {x i v:AV} {c ci:Value} (h:aq CO (Sx T t x i) U v U' R W) (S:aC E D β who U hd a w)
 (hx:be β who w x c) (hi:be β who w i ci):
 U'=U/\ab v=[]/\(∀n∈occ v,n∈occ x)/\ ∃r,(Instr.indexAt t c ci).run P w= .ok r w/\be β who w v r:=by
 unfold Sx at h;split at h
 . rename_i e ety cells k i' hti;have hci:ci= .int k i':=hi;subst hci;obtain⟨hu,⟨ei,ez,he,hes,_⟩⟩:=(hT t _ hti).desc;split at h
   . rename_i t' xs;split at h
     . rename_i hsz;obtain⟨_,U1,_,_,_,_,h1,h2⟩:=kA h;obtain⟨⟨m0,m1⟩,rfl⟩:=kG h1;obtain⟨rfl,rfl⟩:=kB h2;have hx':fB who w t' xs c:=hx;rcases hx' with⟨_,rfl⟩|⟨b,o,cap,rfl,q1,q2,q3,q4⟩
       . simp at m1;omega
       . refine⟨rfl,rfl,(λn hn=>by cases hn),_,cw hu he b o xs.length cap k i' m0 m1 w,b,o,?_,O,q1,q2,q4⟩
         simp_all
     . exact(kC h).elim
   . rename_i s n sz win;split at h
     . rename_i hsz;obtain⟨y,U1,_,_,_,_,h1,h2⟩:=kA h;obtain⟨rfl,hsz',g1,g2⟩:=aq.nodeOf h1 S;obtain⟨_,U2,_,_,_,_,h3,h4⟩:=kA h2;obtain⟨⟨m0,m1⟩,rfl⟩:=kG h3;obtain⟨rfl,rfl⟩:=kB h4;subst hsz';refine⟨rfl,rfl,λn hn=>hn,?_⟩
       have hrv:tE (β n) y.1.size win c:=hx;obtain⟨hw,hl⟩:=mq.window g1.sls hrv;rcases g1.2 with⟨e1,e2⟩|⟨b,o,cap,arr,el,e1,e2,e3,e4,e5,e6⟩
       . exfalso;cases win with
         |none=>simp[window,e2]at m1;omega
         |some ol=>grind
       . cases win with
         |none=>
          obtain⟨hrv,_⟩:=hrv;subst hrv;rw[e1];simp only[window]at m1;refine⟨_,cw hu he b o y.2.length cap k i' m0 m1 w,.inl ⟨b,o,y.2.length,cap,e1,by simp only[Jh];omega,?_⟩⟩
          rw[hes,hsz,Jh,zG,zU]
         |some ol=>
          obtain⟨off,len⟩:=ol;obtain⟨l1,l2⟩:=hl off len rfl;obtain⟨ad,L,cap',ad',f1,f2,f3,f4,f5⟩:=hrv;rw[e1]at f1;injection f1 with f1 fL fcap
          subst f1 fL fcap;rw[l2]at m1;have:=f4 O;subst this;subst f3;simp only[sm,bI];refine⟨_,cw hu he b (o+off*y.1.size) len (cap-off) k i' m0 m1 w,.inl ⟨b,o,y.2.length,cap,e1,by simp only[Jh];omega,?_⟩⟩
          rw[hes,hsz,Jh,zU,ir,tn]
     . exact(kC h).elim
   . exact(kC h).elim
 . exact(kC h).elim
def pC.run {t:Nat} (h:pC P t) (w:World):(Go.isAgg t).run P w= .ok false w:=by
 obtain⟨d,hd,h2⟩:=h;unfold Go.isAgg;cases d<;>simp_all[run_underlying hd w]
def qhg (hT:bm P T) {t f:Nat} {x v:AV} {c:Value} (h:aq CO (QC T t x f) U v U' R W) (hx:be β who w x c):
 U'=U/\ab v=[]/\occ v=[]/\ ∃r,(Instr.field t c f).run P w= .ok r w/\be β who w v r:=by
 unfold QC at h;split at h
 . rename_i fs cells0 cells hti;obtain⟨fields,hu,hsz,hfs⟩:=(hT t _ hti).desc;obtain⟨arr,rfl,hc1,hc2⟩:=hx;split at h
   . rename_i off fsz hf;split at h
     . rename_i hone
       have hlt:f<fs.length:=by
        rcases zq f fs.length with h|h
        . exact h
        . grind
       obtain⟨fl,e1,e2,i,e3,e4,e5⟩:=hfs f hlt;rw[List.getElem?_eq_getElem hlt]at hf;injection hf with hf
       have e6:=(hT t _ hti).nag fs fields rfl hu f hlt fl e1;rw[hf]at e2 e4 e6;simp only at e2 e4 e6;have hag:=(e6 hone.1 hone.2).run w
       have key: ∀u:AV,cells[off]? =some u->(Instr.field t (.agg arr) f).run P w= .ok (arr.getD off undef) w/\aO β who w u (arr.getD off undef):=by
        intro u hu';obtain⟨ho,rfl⟩:=List.getElem?_eq_some_iff.1 hu';refine⟨?_,hc2 off ho⟩;have hoa:off<arr.size:=O;have hg:arr[off]? =some arr[off]:=Array.getElem?_eq_getElem hoa;rw[show arr.getD off undef=arr[off] by simp[Array.getD,hoa]]
        simp[Instr.field,run_underlying hu,e1,asAgg,part,hag,e2,hg]
       split at h
       . rename_i k u hu';obtain⟨rfl,rfl⟩:=kB h;obtain⟨g1,g2⟩:=key _ hu';exact⟨rfl,rfl,rfl,_,g1,g2⟩
       . rename_i u hu';obtain⟨rfl,rfl⟩:=kB h;obtain⟨g1,g2⟩:=key _ hu';exact⟨rfl,rfl,rfl,_,g1,g2⟩
       . rename_i t' u hu';obtain⟨rfl,rfl⟩:=kB h;obtain⟨g1,g2⟩:=key _ hu';exact⟨rfl,rfl,rfl,_,g1,g2⟩
       . exact(kC h).elim
     . exact(kC h).elim
   . exact(kC h).elim
 . exact(kC h).elim
def q8f (hT:bm P T) {t f:Nat} {x v:AV} {c:Value} (h:aq CO (SA T t x f) U v U' R W) (hx:be β who w x c):
 U'=U/\ab v=[]/\(∀n∈occ v,n∈occ x)/\ ∃r,(Instr.fieldAt t c f).run P w= .ok r w/\be β who w v r:=by
 unfold SA at h;split at h
 . rename_i fs cells hti;obtain⟨fields,hu,hsz,hfs⟩:=(hT t _ hti).desc;split at h
   . rename_i off fsz hf;split at h
     . exact(kC h).elim
     . rename_i hne
       have hlt:f<fs.length:=by
        rcases zq f fs.length with h|h
        . exact h
        . grind
       obtain⟨fl,e1,e2,i,e3,e4,-⟩:=hfs f hlt;rw[List.getElem?_eq_getElem hlt]at hf;injection hf with hf
       rw[hf]at e2 e4;simp only at e2 e4
       have key: ∀b o,(Instr.fieldAt t (.pointer (some ⟨b,o,none⟩)) f).run P w= .ok (.pointer (some ⟨b,o+off,none⟩)) w:=by
        intro b o;have hi0: ¬i.size=0:=O;simp[Instr.fieldAt,run_underlying hu,e1,Instr.sureAddr,fieldPlace,Xp e3,hi0,bI,e2]
       split at h
       . obtain⟨rfl,rfl⟩:=kB h;refine⟨rfl,rfl,λn hn=>hn,?_⟩
         rcases hx with⟨b,o,L,cap,q1,q2,rfl⟩|⟨b,q1,rfl,rfl⟩
         . exact⟨_,key _ _,.inl ⟨b,o,L,cap,q1,q2,by simp only[tn]⟩⟩
         . exact⟨_,key _ _,.inr ⟨b,q1,rfl,rfl⟩⟩
       . obtain⟨rfl,rfl⟩:=kB h;refine⟨rfl,rfl,(λn hn=>by cases hn),?_⟩
         obtain⟨b,o,rfl,q2,q3,q4,q5⟩:=hx;exact⟨_,key _ _,b,o,by simp only[tn,pS],q2,q3,q4,q5⟩
       . obtain⟨rfl,rfl⟩:=kB h;refine⟨rfl,rfl,λn hn=>hn,?_⟩
         obtain⟨b,o,L,cap,q1,q2,rfl,q3⟩:=hx;exact⟨_,key _ _,b,o,L,cap,q1,q2,by simp only[tn],q3⟩
       . exact(kC h).elim
   . exact(kC h).elim
 . exact(kC h).elim
def Sb {size off:Nat} {agg:Bool} {cells:List AV} {v:AV} {f:Nat->Value} (h:dj size agg cells off=some v)
 (hr: ∀j (hj:j<cells.length),aO β who w cells[j] (f j)):
 off+size<=cells.length/\be β who w v (if agg then .agg ((List.range size).map λj=>f (off+j)).toArray else f off)/\(agg=false->size=1)/\
 ab v=((cells.drop off).take size).flatMap qc/\occ v=((cells.drop off).take size).flatMap aI:=by
 have hnb: ∀c∈cells,∀vs,c≠ .tup vs:=λc hc vs e=>by
  obtain⟨j,hj,rfl⟩:=l9 hc;have:=hr j hj;rw[e]at this;exact this
 have hnb': ∀c∈cells,∀o vs,c≠ .bx o vs:=λc hc o vs e=>by
  obtain⟨j,hj,rfl⟩:=l9 hc;have:=hr j hj;rw[e]at this;exact this
 have hna: ∀c∈cells,∀vs,c≠ .agg vs:=λc hc vs e=>by
  obtain⟨j,hj,rfl⟩:=l9 hc;have:=hr j hj;rw[e]at this;exact this
 unfold dj at h;split at h
 . rename_i hle;refine⟨hle,?_⟩;unfold jL at h;split at h
   . rename_i hagg;injection h with h
     subst h;simp only[hagg,if_true];refine⟨⟨_,rfl,by simp;omega,λj hj=> ?_⟩,by simp,rfl,rfl⟩
     have hj':j<size:=by simp at hj;omega
     simp_all
   . rename_i hagg;simp only[zg1]at hagg;simp only[hagg,tM,if_false];split at h
     . rename_i c hc;injection h with h
       subst h;have hlen:((cells.drop off).take size).length=1:=by rw[hc];rfl
       have hs1:size=1:=by simp at hlen;omega
       have hlt:off<cells.length:=O
       have hce:cells[off]=c:=by
        have:((cells.drop off).take size)[0]'(O)=c:=by simp[hc]
        simpa using this
       have hmem:c∈cells:=hce▸zN hlt;have hrc:aO β who w c (f off):=hce▸hr off hlt;rw[hc];refine⟨?_,λ_=>hs1,?_,?_⟩
       . cases c with
         |tup vs=>grind
         |bx o vs=>grind
         |agg vs=>grind
         |_=>exact hrc
       . cases c with
         |tup vs=>grind
         |bx o vs=>grind
         |agg vs=>grind
         |_=>simp[ab,qi]
       . cases c with
         |tup vs=>grind
         |bx o vs=>grind
         |agg vs=>grind
         |_=>simp[occ,aX]
     . cases h
 . cases h
def J0: ∀{t:Ty} {x:aM t} {g:Nat->Option Value} {j0:Nat},aL who w t x g j0->
 (bf t x).length=t.size/\ ∀j (hj:j<(bf t x).length),∃v,g (j0+j)=some v/\aO β who w (eU (bf t x)[j]) v
 | .int k,x,g,j0,h=>by
   refine⟨rfl,λj hj=> ?_⟩
   have:j=0:=by simp[bf]at hj;exact hj
   subst this;exact⟨_,h,rfl⟩
 | .bool,x,g,j0,h=>by
   refine⟨rfl,λj hj=> ?_⟩
   have:j=0:=by simp[bf]at hj;exact hj
   subst this;exact⟨_,h,rfl⟩
 | .sl b t,xs,g,j0,h=>by
   refine⟨rfl,λj hj=> ?_⟩
   have:j=0:=by simp[bf]at hj;exact hj
   subst this;obtain⟨v,h1,h2⟩:=h;exact⟨v,h1,h2⟩
 | .pr a b,x,g,j0,h=>by
   obtain⟨l1,r1⟩:=J0 h.1;obtain⟨l2,r2⟩:=J0 h.2;refine⟨by simp[bf,l1,l2,Ty.size],λj hj=> ?_⟩
   by_cases hlt:j<(bf a x.1).length
   . obtain⟨v,e1,e2⟩:=r1 j hlt;refine⟨v,e1,?_⟩;have:(bf (.pr a b) x)[j]=(bf a x.1)[j]:=by simp only[bf];exact tO hlt
     rw[this];exact e2
   . have hj2:j-(bf a x.1).length<(bf b x.2).length:=by simp[bf]at hj;omega
     obtain⟨v,e1,e2⟩:=r2 _ hj2;refine⟨v,by grind,?_⟩
     have:(bf (.pr a b) x)[j]=(bf b x.2)[j-(bf a x.1).length]:=by simp only[bf];exact BV O
     rw[this];exact e2
def Jo: ∀{t:Ty} {x:aM t} {c:AV},c∈bf t x->(∃k n,c= .int k n)\/(∃b,c= .bool b)\/ ∃o t' xs,c= .sl o t' xs/\ ∀n,o≠ .nm n
 | .int k,x,c,h=> .inl ⟨k,x,by simpa [bf]using h⟩
 | .bool,x,c,h=> .inr (.inl ⟨x,by simpa [bf]using h⟩)
 | .sl b t,xs,c,h=> .inr (.inr ⟨_,t,xs,by simpa [bf]using h,by grind⟩)
 | .pr a b,x,c,h=>by
   simp only[bf,zQ]at h;rcases h with h|h
   . exact Jo h
   . exact Jo h
def J1 {t:Ty} {x:aM t} {c:AV} (h:c∈(bf t x).map eU):qc c=[]/\aI c=[]/\(∀vs,c≠ .tup vs)/\(∀o vs,c≠ .bx o vs)/\(∀vs,c≠ .agg vs):=by
 obtain⟨d,hd,rfl⟩:=zV.1 h;rcases Jo hd with⟨k,n,rfl⟩|⟨b,rfl⟩|⟨o,t',xs,rfl,_⟩
 . exact⟨rfl,rfl,by simp[eU],by simp[eU],by simp[eU]⟩
 . exact⟨rfl,rfl,by simp[eU],by simp[eU],by simp[eU]⟩
 . exact⟨rfl,rfl,by simp[eU],by simp[eU],by simp[eU]⟩
def Xh {t:Nat} {ti:TI} (hti:jV P t ti) {b o:Nat} {f:Nat->Value} (w:World) (hc: ∀j,j<ti.cells.length->w.cell? ⟨b,o+j,none⟩=some (f j))
 (h1:Q8 ti.desc=false->ti.cells.length=1):
 (Instr.loadAt t (.pointer (some ⟨b,o,none⟩))).run P w= .ok (if Q8 ti.desc then .agg ((List.range ti.cells.length).map f).toArray else f 0) w:=by
 obtain⟨i,hi,his,_⟩:=hti.info;simp only[Instr.loadAt,Instr.sureAddr,Sem.run_bind,Sem.run_pure,Result.andThen_ok,loadVar,hti.isAgg w];cases hagg:Q8 ti.desc with
 |true=>
  simp only[if_true,Sem.run_bind,Xp hi,Result.andThen_ok,his];rw[run_loadCells w ⟨b,o,none⟩ ti.cells.length f (λj hj=>by rw[bI];exact hc j hj)]
  simp
 |false=>
  simp_all
end
def Qs {α:Type}: ∀(l:List α) (j:Nat) (cs:List α),j+cs.length<=l.length->Qk l j cs=l.take j++cs++l.drop (j+cs.length)
 |l,j,[],_=>by cases l<;>simp[Qk]
 |[],j,c::cs,h=>by simp at h
 |x::l,0,c::cs,h=>by
  have:=Qs l 0 cs (by simp at h⊢;omega)
  simp only[Qk,this];simp
 |x::l,j+1,c::cs,h=>by
  have:=Qs l j (c::cs) (by simp at h⊢;omega)
  simp only[Qk,this]
  grind
section
variable {P:Program} {CO:Q5} {T:TT} {E:aN} {D:Nat->Prop} {β:aP} {who:bg} {U U':ag} {hd:List (AV×Value)} {a:Act} {w:World} {R W:List Nat}
def RR {t:Nat} {ti:TI} (hti:jV P t ti) {ty:Ty} {xs:List (aM ty)} {b o i j:Nat} {v:AV} (hE:aQ who w ty xs b o) (hi:i<xs.length)
 (h:dj ti.cells.length (Q8 ti.desc) ((bf ty (xs.getD i ty.zero)).map eU) j=some v):
 ∃r,(Instr.loadAt t (.pointer (some ⟨b,o+i*ty.size+j,none⟩))).run P w= .ok r w/\be β who w v r/\ab v=[]/\occ v=[]:=by
 have hx:xs.getD i ty.zero=xs[i]:=by simp[List.getD,List.getElem?_eq_getElem hi]
 rw[hx]at h;obtain⟨hl,hu⟩:=J0 (β:=β) (hE i hi)
 let f:Nat->Value:=λj'=>(aD w b (o+i*ty.size) j').getD undef
 have hf: ∀j',j'<ty.size->aD w b (o+i*ty.size) j'=some (f j'):=λj' hj'=>by
  grind
 obtain⟨p1,p2,p3,p4,p5⟩:=Sb (β:=β) (who:=who) (w:=w) (f:=f) h (λj' hj'=>by
  grind)
 simp only[zy,hl]at p1
 have hrun:=Xh hti (b:=b) (o:=o+i*ty.size+j) (f:=λj'=>f (j+j')) w (λj' hj'=>by
  have:=hf (j+j') O;simp only[aD]at this
  grind) p3
 refine⟨_,hrun,by simpa using p2,?_,?_⟩
 . rw[p4];exact Q7 λc hc=>(J1 (xn (pJ hc))).1
 . rw[p5];exact Q7 λc hc=>(J1 (xn (pJ hc))).2.1
def q8s {t:Nat} {ti:TI} (hti:jV P t ti) {s n sz i j:Nat} {v:AV} {c:Value} (S:aC E D β who U hd a w) (hx:NO (β n) sz i j c)
 (h:FV ti.cells.length (Q8 ti.desc) n sz i j (U.get s)=some v):
 ∃r,(Instr.loadAt t c).run P w= .ok r w/\be β who w v r/\ab v=[]/\occ v=[]:=by
 unfold FV at h;split at h
 . rename_i ty xs hf;split at h
   . rename_i hsz;subst hsz;obtain⟨g1,g2⟩:=RV (S.rel s) hf;rcases hx with⟨b,o,L,cap,e1,e2,rfl⟩|⟨b,e1,_,_⟩
     . rcases g1.2 with⟨e3,_⟩|⟨b',o',cap',arr,el,e3,e4,e5,e6,e7,e8⟩
       . rw[e3]at e1;cases e1
       . rw[e3]at e1;injection e1 with q1 q2 q3
         injection q1 with q1;injection q1 with q1 q1' _
         subst q1 q1' q2 q3;exact RR hti e8 e2 h
     . rcases g1.2 with⟨e3,_⟩|⟨b',o',cap',arr,el,e3,_⟩<;>(rw[e3]at e1;cases e1)
   . cases h
 . cases h
def Z8 {mode t:Nat} {ti:TI} {s n sz i j:Nat} {v:AV} {c:Value} (hti:jV P t ti) (S0:aC E D β who U hd a w) (hx:NO (β n) sz i j c)
 (h:aq CO (OF mode ti s n sz i j) U v U' R W): ∃r,(Instr.loadAt t c).run P w= .ok r w/\aC E D β who U' ((v,r)::hd) a w:=by
 obtain⟨av,U1,_,_,_,_,h1,h2⟩:=kA h;obtain⟨rfl,rfl⟩:=kD h1
 have node: ∀v',FV ti.cells.length (Q8 ti.desc) n sz i j (U1.get s)=some v'-> ∃r,(Instr.loadAt t c).run P w= .ok r w/\aC E D β who U1 ((v',r)::hd) a w:=by
  intro v' hv';obtain⟨r,g1,g2,g3,g4⟩:=q8s hti S0 hx hv';exact⟨r,g1,S0.take0 g2 g3 (λn hn=>by rw[g4]at hn;cases hn)⟩
 have key: ∀x,Jm ti.cells.length (Q8 ti.desc) mode s n sz i j (U1.get s)=some x->
  ∃r,(Instr.loadAt t c).run P w= .ok r w/\aC E D β who (match x.2 with|none=>U1|some a'=>U1.set s a') ((x.1,r)::hd) a w:=by
  intro x hx';unfold Jm at hx';split at hx'
  . rename_i m cells hav;split at hx'
    . rename_i hmn;subst hmn;have hb:=S0.rel s;rw[hav]at hb;obtain⟨hβ,b,arr,el,e1,e2,e3,e4⟩:=hb
      have hc:c= .pointer (some ⟨b,j,none⟩):=by
       rcases hx with⟨b',o',L,cap,q1,_,_⟩|⟨b',q1,_,q3⟩
       . grind
       . grind
      subst hc
      have hmem: ∀j',j'<arr.size->w.cell? ⟨b,j',none⟩=some (arr.getD j' undef):=λj' hj'=>by
       simp[World.cell?,e2,hj',Array.getD]
      split at hx'
      . rename_i hmode;cases hp:dj ti.cells.length (Q8 ti.desc) cells j with
        |none=>simp[hp]at hx'
        |some v'=>
         simp only[hp,sm,zM]at hx';subst hx';obtain⟨p1,p2,p3,p4,p5⟩:=Sb (β:=β) (who:=who) (w:=w) (f:=λj'=>arr.getD j' undef) hp e4.2
         have hrun:=Xh hti (b:=b) (o:=j) (f:=λj'=>arr.getD (j+j') undef) w (λj' hj'=>hmem _ (by rw[e4.1];omega)) p3
         refine⟨_,hrun,?_⟩;simp only
         have hdr:Xw cells j ti.cells.length=cells.take j++List.replicate ti.cells.length .dead++cells.drop (j+ti.cells.length):=by
          unfold Xw;rw[Qs _ _ _ (by simpa using p1)];simp
         have hsplit:cells=cells.take j++(cells.drop j).take ti.cells.length++cells.drop (j+ti.cells.length):=by
          rw[zu,<-List.drop_drop,zn,zn]
         have hnn:ab (.bx (.nm m) cells)=m::(cells.take j).flatMap qc++((cells.drop j).take ti.cells.length).flatMap qc++(cells.drop (j+ti.cells.length)).flatMap qc:=by
          conv=>lhs;rw[hsplit]
          simp[ab,qi]
         have hnd:ab (.bx (.nm m) (Xw cells j ti.cells.length))=m::(cells.take j).flatMap qc++(cells.drop (j+ti.cells.length)).flatMap qc:=by
          rw[hdr];have:(List.replicate ti.cells.length AV.dead).flatMap qc=[]:=Q7 λc hc=>by rw[(Np.1 hc).2];rfl
          simp[ab,qi,this]
         have hNod:=S0.nod s;rw[hav,hnn]at hNod;have hlen:(Xw cells j ti.cells.length).length=cells.length:=by rw[hdr];simp;omega
         have S1:=S0.abs (s:=s) (v:= .bx (.nm m) (Xw cells j ti.cells.length)) ⟨hβ,b,arr,el,e1,e2,e3,by rw[e4.1,hlen],λj' hj'=>by
          have hj'':j'<cells.length:=by rw[<-hlen];exact hj'
          by_cases hin:j<=j'/\j'<j+ti.cells.length
          . have:(Xw cells j ti.cells.length)[j']= .dead:=by
             simp only[hdr];rw[tO (by simp;omega),BV (by simp;omega)]
             simp
            rw[this];trivial
          . have:(Xw cells j ti.cells.length)[j']=cells[j']:=by
             simp only[hdr];by_cases hlt:j'<j
             . grind
             . grind
            rw[this];exact e4.2 j' hj''⟩
          (by grind)
          (by
            grind)
          (by
            intro n hn;refine S0.occ s n ?_;rw[hav];simp only[Vs.occ,aX,zT]at hn⊢;rcases hn with hn|hn
            . exact .inl hn
            . refine .inr ?_;rw[hdr]at hn;have hr0:(List.replicate ti.cells.length AV.dead).flatMap aI=[]:=Q7 λc hc=>by rw[(Np.1 hc).2];rfl
              grind)
         have hpn: ∀x∈ab v',x∈ab (U1.get s):=by
          rw[p4,hav,hnn];intro x hx;simp[hx]
         exact{S1 with
          hrel:=λy hy=>by rcases mC hy with rfl|hy;simpa using p2;exact S1.hrel y hy
          hnod:=by
           simp only[fC];refine zK.2 ⟨?_,S0.hnod,λn h1 m' h2=> ?_⟩
           . grind
           . rintro rfl
             obtain⟨y,hy,hn⟩:=zH.1 h2;exact S0.hdis y hy n hn s (hpn n h1)
          hdis:=λy hy=>by
           rcases mC hy with rfl|hy
           . intro x hx0 t ht;have hxn:x∈ab v':=hx0;by_cases e:t=s
             . subst e;rw[qg,hnd]at ht
               grind
             . rw[qf _ _ e]at ht;exact e (S0.dis t s x ht (hpn x hx0))
           . exact S1.hdis y hy
          hocc:=λy hy=>by
           rcases mC hy with rfl|hy
           . intro x hx;refine S0.occ s x ?_;rw[hav];simp only[p5]at hx;simp only[Vs.occ,aX,zT]
             grind
           . exact S1.hocc y hy}
      . cases hp:dj ti.cells.length (Q8 ti.desc) (cells.map (Qv s)) j with
        |none=>simp[hp]at hx'
        |some v'=>
         simp only[hp,sm,zM]at hx';subst hx';have e4':=e4.map (Qv s) (λc _ v hv=>ZT hv)
         obtain⟨p1,p2,p3,p4,p5⟩:=Sb (β:=β) (who:=who) (w:=w) (f:=λj'=>arr.getD j' undef) hp e4'.2
         simp only[zy]at p1;have hrun:=Xh hti (b:=b) (o:=j) (f:=λj'=>arr.getD (j+j') undef) w (λj' hj'=>hmem _ (by rw[e4.1];omega)) p3
         refine⟨_,hrun,S0.take0 (by simpa using p2) ?_ ?_⟩
         . rw[p4];exact Q7 λc hc=>by
            obtain⟨d,_,rfl⟩:=zV.1 (xn (pJ hc));exact q46
         . intro x hx;rw[p5]at hx;obtain⟨c,hc,hx⟩:=zH.1 hx;obtain⟨d,hd',rfl⟩:=zV.1 (xn (pJ hc));have hx:=q96 _ hx;refine S0.occ s x ?_;rw[hav];simp only[Vs.occ,aX,zT];exact .inr (zH.2 ⟨d,hd',hx⟩)
    . rw[<-hav]at hx';cases hn:FV ti.cells.length (Q8 ti.desc) n sz i j (U1.get s)with
      |none=>simp[hn]at hx'
      |some v'=>
       grind
  . cases hn:FV ti.cells.length (Q8 ti.desc) n sz i j (U1.get s)with
    |none=>simp[hn]at hx'
    |some v'=>
     grind
 split at h2
 . rename_i v' hls;obtain⟨rfl,rfl⟩:=kB h2;exact key _ hls
 . rename_i v' a' hls;obtain⟨_,U2,_,_,_,_,h3,h4⟩:=kA h2;have:=kE h3;subst this;obtain⟨rfl,rfl⟩:=kB h4;exact key _ hls
 . exact(kC h2).elim
def q2l {s:Nat}: ∀{size j:Nat} {cs:List AV} {R W:List Nat} {U U':ag},aq CO (RH s j size) U cs U' R W->(∀vs,U.get s≠ .tup vs)->(∀n t xs h,U.get s≠ .dp n t xs h)->U'=U/\cs.length=size/\
 (0<size-> ∃m cells,U.get s= .bx (.nm m) cells/\j+size<=cells.length/\cs=((cells.map (Qv s)).drop j).take size)
 |0,j,cs,R,W,U,U',h,_,_=>by
  obtain⟨rfl,rfl⟩:=kB h
  grind
 |size+1,j,cs,R,W,U,U',h,hnt,hnd=>by
  obtain⟨av,U1,_,_,_,_,h1,h2⟩:=kA h;obtain⟨hav,rfl⟩:=kF h1;split at h2
  . rename_i c;obtain⟨cs',U2,_,_,_,_,h3,h4⟩:=kA h2;obtain⟨rfl,hl,hc⟩:=q2l h3 hnt hnd;obtain⟨rfl,rfl⟩:=kB h4;refine⟨rfl,by simp[hl],λ_=> ?_⟩
    simp only[cr]at hav;split at hav
    . unfold df at hav;split at hav
      . rename_i m cells hb;cases hcj:cells[j]? with
        |none=>rw[hcj]at hav;cases hav
        |some c0=>
         rw[hcj]at hav;simp only[sm,zM]at hav;obtain⟨hj,e0⟩:=List.getElem?_eq_some_iff.1 hcj;subst e0
         have hd:(cells.map (Qv s)).drop j=Qv s cells[j]::(cells.map (Qv s)).drop (j+1):=by
          rw[Ix (by simpa using hj)];simp
         grind
      . grind
      . grind
      . cases hav
    . cases hav
  . exact(kC h2).elim
def ZW (hT:bm P T) {mode t:Nat} {p v:AV} {c:Value} (h:aq CO (NT T mode t p) U v U' R W) (S:aC E D β who U ((p,c)::hd) a w):
 ∃r,(Instr.loadAt t c).run P w= .ok r w/\aC E D β who U' ((v,r)::hd) a w:=by
 have hx:=S.hrel _ mS;have S0:=S.drop rfl;unfold NT at h;split at h
 . exact(kC h).elim
 . rename_i ti hti';have hti:=hT t _ hti';split at h
   . rename_i ty xs i j;obtain⟨e,rfl⟩:=aq.mopt' h;obtain⟨b,o,rfl,hi,q1,q2,q3⟩:=hx;obtain⟨r,h1,h2,h3,h4⟩:=RR (β:=β) hti q3 hi e;exact⟨r,h1,S0.take0 h2 h3 (λn hn=>by rw[h4]at hn;cases hn)⟩
   . rename_i s n sz i j;split at h
     . exact Z8 hti S0 hx h
     . rename_i mode hmode;obtain⟨al,U1,_,_,_,_,h1,h2⟩:=kA h;obtain⟨hal,rfl⟩:=kF h1;split at h2
       . rename_i m hbn;split at h2
         . rename_i hm;obtain⟨hmn,hpos⟩:=hm;subst hmn;obtain⟨cs,U2,_,_,_,_,h3,h4⟩:=kA h2
           obtain⟨rfl,hl,hc⟩:=q2l h3 (λvs e=>by
            rw[e]at hal;subst hal;cases hbn) (λn t xs h e=>by
            rw[e]at hal;subst hal;cases hbn)
           obtain⟨m',cells,hb,hle,rfl⟩:=hc hpos;obtain⟨ha,rfl⟩:=aq.mopt' h4
           have hm':m'=m:=by
            rw[hb]at hal;subst hal;simp only[cr,cY,r9,zM]at hbn;exact hbn
           subst hm'
           have hp:dj ti.cells.length (Q8 ti.desc) (cells.map (Qv s)) j=some v:=by
            unfold dj;rw[iP (by simpa using hle)];exact ha
           refine Z8 (CO:=CO) (mode:=0) (R:=[32*s]) (W:=[]) (sz:=sz) (i:=i) (j:=j) (s:=s) hti S0 hx (.get ?_)
           have:Jm ti.cells.length (Q8 ti.desc) 0 s m' sz i j (U'.get s)=some (v,none):=by
            rw[hb];unfold Jm;simp only[if_true];rw[ao (by decide)]
            rw[hp];rfl
           simp only[M.bind,this];exact .ret
         . exact Z8 hti S0 hx h2
       . exact Z8 hti S0 hx h2
   . exact(kC h).elim
end
def Dn (D:Nat->Prop) (idx:Nat):Nat->Prop:=λn=>D n\/ ∃k,k<16/\n=ae idx k
def dh {D:Nat->Prop} {idx:Nat} (h: ¬D FN): ¬Dn D idx FN:=by
 rintro (h'|⟨k,hk,e⟩)
 . exact h h'
 . simp only[FN,ae]at e;omega
def dT:Value:= .slice none 0 0
section
variable {P:Program} {CO:Q5} {T:TT} {E:aN} {D:Nat->Prop} {β:aP} {who:bg} {U U':ag} {hd:List (AV×Value)} {a:Act} {w w':World} {R W:List Nat}
def aC.make {idx:Nat} {v0 v:AV} {c0 c c1:Value} {o:Obj} (S:aC E D β who U ((v0,c0)::hd) a w) (hf: ∀k,k<16-> ¬D (ae idx k))
 (hw:w'.heap=w.heap.push o)
 (hv: ∀β' who',(∀k,k<15->β' (ae idx k)=dT)->β' (ae idx 15)=c1->who' w.heap.size=some (ae idx 15)->
   (∀b,who b=none->b<w.heap.size->who' b=none)->be β' who' w' v0 c0->be β' who' w' v c)
 (hn: ∀n∈ab v,n∈ab v0\/ ∃k,k<16/\n=ae idx k) (hnd:(ab v).Nodup) (ho: ∀n∈Vs.occ v,Dn D idx n) (h4:w'.os=w.os/\w'.output=w.output:=by exact⟨rfl,rfl⟩):
 ∃β' who',aC E (Dn D idx) β' who' U ((v,c)::hd) a w':=by
 let β':aP:=λx=>if x=ae idx 15 then c1 else if ae idx 0<=x/\x<ae idx 15 then dT else β x
 let who':bg:=λb=>if b=w.heap.size then some (ae idx 15)else who b
 have hsz:w'.heap.size=w.heap.size+1:=by rw[hw];simp
 have hβ: ∀n,D n->β' n=β n:=λn hdn=>by
  simp only[β'];rw[ao (by grind),ao]
  rintro ⟨h1,h2⟩
  refine hf (n-ae idx 0) (by simp only[ae]at*;omega) ?_
  rwa [show ae idx (n-ae idx 0)=n by simp only[ae]at*;omega]
 have hwn:who w.heap.size=none:=by
  cases h:who w.heap.size with
  |none=>rfl
  |some n=>exact absurd (S.wsz _ _ h) (Nat.lt_irrefl _)
 have S':=S.keep (β':=β') (who':=who') (w':=w') hβ
  (λb n hb=>by grind)
  (λb hb=>by grind)
  (λb hb hlt=>by grind)
  (fun b n hb=>by
    simp only[who']at hb;split at hb
    . omega
    . have:=S.wsz b n hb;omega)
  O h4
 have hvr:=hv β' who' (λk hk=>by
  simp only[β'];rw[ao (by simp only[ae];omega),iP (by simp only[ae];omega)]) (by simp[β']) (by simp[who'])
  (λb hb hlt=>by grind) (S'.hrel _ mS)
 have hfr: ∀k,k<16-> ∀s,ae idx k∉ab (U.get s):=λk hk s h=>hf k hk (S.occ s _ (qj h))
 have hfh: ∀k,k<16-> ∀x∈hd,ae idx k∉ab x.1:=λk hk x hx h=>hf k hk (S.hocc x (mT hx) _ (qj h))
 refine⟨β',who',?_⟩;have S1:=(S'.drop rfl).mono (D':=Dn D idx) (λn h=> .inl h) (dh S.dfn)
 have hno:=S.hnod;simp only[fC]at hno
 exact{S1 with
  hrel:=λy hy=>by rcases mC hy with rfl|hy;exact hvr;exact S1.hrel y hy
  hnod:=by
   grind
  hdis:=λy hy=>by
   rcases mC hy with rfl|hy
   . intro n h1 s h2;rcases hn n h1 with h|⟨k,hk,rfl⟩
     . exact S.hdis _ mS n h s h2
     . exact hfr k hk s h2
   . exact S1.hdis y hy
  hocc:=λy hy=>by rcases mC hy with rfl|hy;exact ho;exact S1.hocc y hy}
def aC.take_dead (S:aC E D β who U hd a w):aC E D β who U ((.dead,undef)::hd) a w:=
 S.take0 (v:= .dead) trivial rfl (λn hn=>by cases hn)
def Ql: ∀t:Ty,(Qm t).length=t.size
 | .int _=>rfl
 | .bool=>rfl
 | .sl _ _=>rfl
 | .pr a b=>by simp[Qm,Ty.size,Ql a,Ql b]
def JX: ∀(t:Ty) (g:Nat->Option Value) (j0:Nat),(∀j (h:j<(Qm t).length),g (j0+j)=some ((Qm t)[j]))->aL who w t t.zero g j0
 | .int k,g,j0,h=>by have:=h 0 (by simp[Qm]);simpa [Qm,aL,Ty.zero]using this
 | .bool,g,j0,h=>by have:=h 0 (by simp[Qm]);simpa [Qm,aL,Ty.zero]using this
 | .sl b t,g,j0,h=>by
   have:=h 0 (by simp[Qm])
   exact⟨.slice none 0 0,by simpa [Qm]using this,.inl ⟨rfl,rfl⟩⟩
 | .pr a b,g,j0,h=>by
   refine⟨JX a g j0 λj hj=> ?_,JX b g (j0+a.size) λj hj=> ?_⟩
   . rw[h j (by simp[Qm];omega)]
     simp only[Qm];grind
   . have e:j0+a.size+j=j0+((Qm a).length+j):=by rw[Ql];omega
     rw[e,h ((Qm a).length+j) (by simp[Qm];omega)]
     simp only[Qm];grind
def Ty.size_pos: ∀t:Ty,0<t.size
 | .int _=>Nat.one_pos
 | .bool=>Nat.one_pos
 | .sl _ _=>Nat.one_pos
 | .pr a b=>by have:=Ty.size_pos a;simp only[Ty.size];omega
def q7g {t:Ty} {zs:Array Value} {b n m:Nat} {el:TypeId} (hz:zs.toList=Qm t) (hb:w.heap[b]? =some (.cells ((Array.range (m*t.size)).map λi=>zs[i%zs.size]!) el (0,0))) (hnm:n<=m):
 aQ who w t (List.replicate n t.zero) b 0:=by
 intro i hi;have hi':i<n:=by simpa using hi
 have hzs:zs.size=t.size:=by rw[<-Array.length_toList,hz,Ql]
 have hp:=Ty.size_pos t;simp only[List.getElem_replicate];refine JX t _ 0 λj hj=> ?_
 have hj':j<t.size:=by rw[<-Ql];exact hj
 have hlt:i*t.size+j<m*t.size:=by
  have:(i+1)*t.size<=m*t.size:=zO _ O;rw[ir]at this;omega
 have hmod:(i*t.size+j)%t.size=j:=by rw[zh,Nb,j7 hj']
 have hg:zs[j]! =(Qm t)[j]:=by
  have:j<zs.size:=O;rw[getElem!_pos zs j this];simp only[<-hz,Array.getElem_toList]
 simp only[aD,World.cell?,hb,zG];simp[hlt,hzs,hmod,hg]
def qk4 (hT:bm P T) {idx t:Nat} {l c v:AV} {cl cc:Value} (h:aq CO (PS T idx t l c) U v U' R W) (S:aC E D β who U hd a w)
 (hl:be β who w l cl) (hc:be β who w c cc) (hf: ∀k,k<16-> ¬D (ae idx k)):
 ∃r w' β' who',(Instr.makeSlice t cl cc).run P w= .ok r w'/\aC E (Dn D idx) β' who' U' ((v,r)::hd) a w':=by
 unfold PS at h;split at h
 . rename_i e ty cells l c hti;have hl':cl= .int .i64 l:=hl;have hc':cc= .int .i64 c:=hc;subst hl' hc';obtain⟨_,U1,_,_,_,_,h1,h2⟩:=kA h;obtain⟨⟨m0,m1,m2⟩,rfl⟩:=kG h1;obtain⟨rfl,rfl⟩:=kB h2;obtain⟨hu,⟨ei,ez,he,hes,hb,hb0,hz,hzc⟩⟩:=(hT t _ hti).desc
   have hbb:(ei.bytes:Int)*c<=4096*1073741824:=by
    have h1:(ei.bytes:Int)<=4096:=O
    calc (ei.bytes:Int)*c<=(ei.bytes:Int)*1073741824:=Int.mul_le_mul_of_nonneg_left m2 O
     _<=4096*1073741824:=Int.mul_le_mul_of_nonneg_right h1 O
   have hbl:(ei.bytes:Int)*c<=281474976710656:=O;have hrun:=run_make (P:=P) w t e ei ez hu he hz .i64 .i64 l c m0 m1 O O
   obtain⟨β',who',S'⟩:=aC.make (idx:=idx) (v:= .sl (.nm (ae idx 15)) ty (List.replicate l.toNat ty.zero)) (c:= .slice (some ⟨w.heap.size,0,none⟩) l.toNat c.toNat)
    (c1:= .slice (some ⟨w.heap.size,0,none⟩) l.toNat c.toNat)
    (w':=w.alloc (.cells (madeCells ez.cells (c.toNat*ei.size)) e)) S.take_dead hf rfl
    (fun β' who' g1 g2 g3 g4 _=>by
      refine⟨g2.symm,.inr ⟨w.heap.size,0,c.toNat,madeCells ez.cells (c.toNat*ei.size),e,by simp,heap_alloc_new w _,by simp[size_madeCells,hes],by simp;omega,g3,?_⟩⟩
      exact q7g (zs:=ez.cells) (m:=c.toNat) (el:=e) hzc (by rw[<-hes];exact heap_alloc_new w _) O)
    (λn hn=> .inr ⟨15,O,by simpa [ab,qi,qc]using hn⟩) (by simp[ab,qi,qc])
    (λn hn=> .inr ⟨15,O,by simpa [Vs.occ,aX,aI]using hn⟩)
   exact⟨_,_,β',who',hrun,S'⟩
 . exact(kC h).elim
def qoa {β:aP} {who:bg} {w:World} {v:AV} {c:Value} (h:aO β who w v c):aO β who w (ju v) c:=by
 unfold ju;split
 . obtain⟨h1,h2⟩:=h;exact .inl ⟨h1,h2⟩
 . exact h
def q8b {v:AV}:qc (ju v)=qc v/\aI (ju v)=aI v:=by
 unfold ju;split<;>exact⟨rfl,rfl⟩
def qpk {β:aP} {who:bg} {w:World} {v:AV} {c:Value} (h:aO β who w v c):aO β who w (te v) c:=by
 unfold te;split<;>exact h
def q98 {v:AV}:qc (te v)=qc v/\aI (te v)=aI v:=by
 unfold te;split<;>exact⟨rfl,rfl⟩
def qu9 {β:aP} {who:bg} {w:World} {m:Nat} {v:AV} {c:Value} (h:be β who w v c):be β who w (nlI m v) c/\ab (nlI m v)=ab v/\Vs.occ (nlI m v)=Vs.occ v:=by
 unfold nlI;split
 . split
   . rename_i cells;obtain⟨arr,e1,e2⟩:=h;refine⟨⟨arr,e1,e2.map _ (λc _ v hv=>qpk hv)⟩,?_,?_⟩
     . simp only[ab,qi,Nf];congr 1;funext c;exact q98.1
     . simp only[Vs.occ,aX,Nf];congr 1;funext c;exact q98.2
   . exact⟨h,rfl,rfl⟩
 . split
   . rename_i cells;obtain⟨arr,e1,e2⟩:=h;refine⟨⟨arr,e1,e2.map _ (λc _ v hv=>qoa hv)⟩,?_,?_⟩
     . simp only[ab,qi,Nf];congr 1;funext c;exact q8b.1
     . simp only[Vs.occ,aX,Nf];congr 1;funext c;exact q8b.2
   . unfold ju;split
     . obtain⟨h1,h2⟩:=h;exact⟨.inl ⟨h1,h2⟩,rfl,rfl⟩
     . exact⟨h,rfl,rfl⟩
 . exact⟨h,rfl,rfl⟩
def aC.nlI {m:Nat} {v:AV} {c:Value} (S:aC E D β who U ((v,c)::hd) a w):aC E D β who U ((Vs.nlI m v,c)::hd) a w:=by
 obtain⟨h1,h2,h3⟩:=qu9 (m:=m) (S.hrel _ mS)
 exact{S with
  hrel:=λy hy=>by rcases mC hy with rfl|hy;exact h1;exact S.hrel y (mT hy)
  hnod:=by have:=S.hnod;grind
  hdis:=λy hy=>by
   rcases mC hy with rfl|hy
   . simp only[h2];exact S.hdis _ mS
   . exact S.hdis y (mT hy)
  hocc:=λy hy=>by
   rcases mC hy with rfl|hy
   . exact λn hn=>S.hocc _ mS n (h3▸hn)
   . exact S.hocc y (mT hy)}
end
def X6 {idx j k:Nat} (h:ae idx j=ae idx k):j=k:=by simp only[ae]at h;omega
def Zj {β:aP} {who:bg} {w:World} {c:AV} {v:Value} (h:aO β who w c v) (hd:c≠ .dead):v.oneCell'=true:=by
 cases c with
 |dead=>exact absurd rfl hd
 |bool b=>cases h;rfl
 |int k n=>cases h;rfl
 |lit u=>obtain⟨rfl,h⟩:=h;exact h
 |sl o t xs=>
  cases o with
  |imm=>rcases h with⟨rfl,_⟩|⟨b,o,cap,rfl,_⟩<;>rfl
  |nl=>obtain⟨rfl,_⟩:=h;rfl
  |nm n=>obtain⟨_,h⟩:=h;rcases h with⟨rfl,_⟩|⟨b,o,cap,_,_,rfl,_⟩<;>rfl
  |inn=>exact h.elim
 |bx o cs=>exact h.elim
 |agg cs=>exact h.elim
 |tup vs=>exact h.elim
 |ref s n sz win=>
  cases win with
  |none=>obtain⟨rfl,a,L,cap,e⟩:=h;rw[e];rfl
  |some ol=>obtain⟨a,L,cap,a',_,_,rfl,_⟩:=h;rfl
 |ptr s n sz i j=>rcases h with⟨_,_,_,_,_,_,rfl⟩|⟨_,_,_,rfl⟩<;>rfl
 |iptr g t xs i j=>obtain⟨_,_,rfl,_⟩:=h;cases g<;>rfl
 |dp n t xs hh=>obtain⟨_,h⟩:=h;rcases h with⟨rfl,_⟩|⟨b,o,cap,arr,el,rfl,_⟩<;>rfl
 |wn n t xs=>rcases h.1.2 with⟨e,_⟩|⟨b,o,cap,arr,el,e,_⟩<;>(rw[e];rfl)
 |mm n t xs o=>cases o with
  |false=>obtain⟨_,b,o,cap,arr,el,rfl,_⟩:=h;rfl
  |true=>obtain⟨ys,rfl,_,b,es,rfl,_⟩:=h;rfl
 |fd n t xs hh=>rcases h.1.2 with⟨e,_⟩|⟨b,o,cap,arr,el,e,_⟩<;>(rw[e];rfl)
 |dq n t xs hh=>obtain⟨_,h⟩:=h;rcases h with⟨rfl,_⟩|⟨b,o,cap,arr,el,rfl,_⟩<;>rfl
 |dr s n k=>
  cases k with
  |whole=>obtain⟨rfl,_,_,_,e⟩:=h;rw[e];rfl
  |lenw l=>rcases h.2 with⟨e,_⟩|⟨_,_,_,e⟩<;>(rw[e];rfl)
  |row i=>obtain⟨rfl,⟨_,_,_,e⟩,_⟩:=h;rw[e];rfl
  |cell i=>obtain⟨_,_,_,_,_,_,rfl⟩:=h;rfl
  |mrow j i=>obtain⟨_,⟨b,rfl⟩,_⟩:=h;cases b<;>rfl
  |mlen l=>obtain⟨_,_,_,_,rfl⟩:=h;rfl
  |mcell i=>obtain⟨_,_,_,_,_,_,rfl⟩:=h;rfl
  |elem sz i j k=>obtain⟨_,_,_,_,_,_,rfl,_⟩:=h;rfl
def q6q {β:aP} {who:bg} {w:World} {n:Nat} {c c':AV} {v:Value} (h:X0 n c=some c') (hr:aO β who w c v):v.oneCell'=true:=by
 cases c with
 |ref s n sz win=>cases h
 |dead=>cases h
 |_=>exact Zj hr (by simp)
def q7l {β:aP} {who:bg} {w:World} {n:Nat} {c c':AV} {v:Value} (h:X0 n c=some c') (hr:aO β who w c v) (hβ:β n=dT):aO β who w c' v:=by
 cases c with
 |sl o t xs=>
  cases o with
  |nl=>
   simp only[X0,zM]at h;subst h;obtain⟨rfl,rfl⟩:=hr;unfold uJ;split
   . exact⟨by rw[hβ];rfl,.inl ⟨rfl,rfl⟩⟩
   . exact⟨hβ.symm,.inl ⟨rfl,rfl⟩⟩
  |imm=>simp only[X0,zM]at h;subst h;exact hr
  |nm m=>simp only[X0,zM]at h;subst h;exact hr
  |inn=>cases h
 |bool b=>simp only[X0,zM]at h;subst h;exact hr
 |int k x=>simp only[X0,zM]at h;subst h;exact hr
 |lit u=>simp only[X0,zM]at h;subst h;exact hr
 |dp m t xs hh=>
  cases hh with
  |none=>simp only[X0,zM]at h;subst h;exact hr
  |some k=>cases h
 |mm m t xs o=>
  cases o with
  |false=>simp only[X0,zM]at h;subst h;exact hr
  |true=>cases h
 |_=>cases h
def qb3 {n:Nat} {c c':AV} (h:X0 n c=some c'):(qc c'=qc c/\aI c'=qc c)\/(qc c=[]/\qc c'=[n]/\aI c'=[n]):=by
 cases c with
 |sl o t xs=>
  cases o with
  |nl=>simp only[X0,zM]at h;subst h;unfold uJ;split<;>exact .inr ⟨rfl,rfl,rfl⟩
  |imm=>simp only[X0,zM]at h;subst h;exact .inl ⟨rfl,rfl⟩
  |nm m=>simp only[X0,zM]at h;subst h;exact .inl ⟨rfl,rfl⟩
  |inn=>cases h
 |bool b=>simp only[X0,zM]at h;subst h;exact .inl ⟨rfl,rfl⟩
 |int k x=>simp only[X0,zM]at h;subst h;exact .inl ⟨rfl,rfl⟩
 |lit u=>simp only[X0,zM]at h;subst h;exact .inl ⟨rfl,rfl⟩
 |dp m t xs hh=>
  cases hh with
  |none=>simp only[X0,zM]at h;subst h;exact .inl ⟨rfl,rfl⟩
  |some k=>cases h
 |mm m t xs o=>
  cases o with
  |false=>simp only[X0,zM]at h;subst h;exact .inl ⟨rfl,rfl⟩
  |true=>cases h
 |_=>cases h
def J6 {idx:Nat}: ∀{k:Nat} {cs cs':List AV},Yk idx k cs=some cs'->
 cs'.length=cs.length/\(∀j (h:j<cs.length) (h':j<cs'.length),k+j<15/\X0 (ae idx (k+j)) cs[j]=some cs'[j])/\
 (∀n∈cs'.flatMap qc,n∈cs.flatMap qc\/ ∃j,k<=j/\j<15/\n=ae idx j)/\
 (∀n∈cs'.flatMap aI,n∈cs'.flatMap qc)/\
 ((cs.flatMap qc).Nodup->(∀n∈cs.flatMap qc,∀j,j<15->n≠ae idx j)->(cs'.flatMap qc).Nodup)
 |k,[],cs',h=>by
  simp only[Yk,zM]at h
  grind
 |k,c::cs,cs',h=>by
  simp only[Yk]at h;split at h
  . rename_i hk;split at h
    . rename_i c1 cs1 h1 h2;injection h with h
      subst h;obtain⟨i1,i2,i3,i4,i5⟩:=J6 h2;have hc:=qb3 h1;refine⟨by simp[i1],?_,?_,?_,?_⟩
      . intro j hj hj';cases j with
        |zero=>grind
        |succ j=>
         grind
      . grind
      . grind
      . intro hnd hfr;simp only[fC]at hnd hfr⊢;have hnd':=zK.1 hnd;have ih:=i5 hnd'.2.1 (λn hn j hj=>hfr n (by simp[hn]) j hj)
        refine zK.2 ⟨?_,ih,?_⟩
        . grind
        . intro n h1 m h2
          rintro rfl
          rcases hc with⟨e,_⟩|⟨e,e',_⟩
          . grind
          . rw[e']at h1;simp only[zC]at h1;subst h1;rcases i3 _ h2 with h|⟨j,a,b,c⟩
            . grind
            . have:=X6 c;omega
    . cases h
  . cases h
section
variable {P:Program} {CO:Q5} {T:TT} {E:aN} {D:Nat->Prop} {β:aP} {who:bg} {U U':ag} {hd:List (AV×Value)} {a:Act} {w w':World} {R W:List Nat}
def Xb {v:Value} (h:v.oneCell'=true):v.cells= #[v]:=by cases v<;>first|rfl|cases h
def OI {v:AV} {c:Value} (h:be β who w v c) {idx:Nat} {cs':List AV} (ho:Yk idx 0 (cellsOf v)=some cs'):
 a8 β who w (cellsOf v) c.cells/\ab v=(cellsOf v).flatMap qc/\(∀x∈c.cells.toList,x.oneCell'=true):=by
 obtain⟨l1,l2,_⟩:=J6 ho;cases v with
 |agg cells=>
  obtain⟨arr,rfl,h2⟩:=h;refine⟨h2,rfl,?_⟩;intro x hx;obtain⟨j,hj,rfl⟩:=l9 hx;have hj':j<cells.length:=by rw[<-h2.1];simpa [Value.cells]using hj
  have:=l2 j hj' (by rw[l1];exact hj')
  have hr:=h2.2 j hj';have e:arr.getD j undef=(Value.agg arr).cells.toList[j]:=by simp[Value.cells,Array.getD,h2.1,hj']
  rw[e]at hr;exact q6q this.2 hr
 |tup vs=>
  have:=(l2 0 (by simp[cellsOf]) (by rw[l1];simp[cellsOf])).2
  simp[cellsOf,X0]at this
 |bx o cs=>
  have:=(l2 0 (by simp[cellsOf]) (by rw[l1];simp[cellsOf])).2
  simp[cellsOf,X0]at this
 |_=>
  have h0:=(l2 0 (by simp[cellsOf]) (by rw[l1];simp[cellsOf])).2
  simp only[cellsOf,FA]at h0;have h1:=q6q (β:=β) (who:=who) (w:=w) (v:=c) h0 h;rw[Xb h1];refine⟨⟨rfl,λj hj=> ?_⟩,by simp[ab,qi,cellsOf],λx hx=>by simp at hx;subst hx;exact h1⟩
  have:j=0:=by simp[cellsOf]at hj;exact hj
  subst this;exact h
def aC.box {idx t:Nat} {v:AV} {c:Value} {cs':List AV} (S:aC E D β who U ((v,c)::hd) a w) (hf: ∀k,k<16-> ¬D (ae idx k))
 (ho:Yk idx 0 (cellsOf v)=some cs'):
 ∃β' who',aC E (Dn D idx) β' who' U ((.bx (.nm (ae idx 15)) cs',.pointer (some ⟨w.heap.size,0,none⟩))::hd) a (w.alloc (.cells c.cells t)):=by
 have hv:=S.hrel _ mS;obtain⟨g1,g2,g3⟩:=OI hv ho;obtain⟨l1,l2,l3,l4,l5⟩:=J6 ho;have hnn:=S.hnod;simp only[fC]at hnn;have hvn:=(zK.1 hnn).1;rw[g2]at hvn
 have hfresh: ∀n∈(cellsOf v).flatMap qc,∀j,j<16->n≠ae idx j:=by
  intro n hn j hj e;rw[<-g2]at hn;exact hf j hj (e▸S.hocc _ mS n (qj hn))
 exact aC.make (idx:=idx) (v:= .bx (.nm (ae idx 15)) cs') (c:= .pointer (some ⟨w.heap.size,0,none⟩)) (c1:= .pointer (some ⟨w.heap.size,0,none⟩))
  (w':=w.alloc (.cells c.cells t)) S hf rfl
  (fun β' who' q1 q2 q3 q4 q5=>by
    obtain⟨g1',_,_⟩:=OI q5 ho;refine⟨q2.symm,w.heap.size,c.cells,t,rfl,heap_alloc_new w _,q3,by rw[g1'.1,l1],λj hj=> ?_⟩
    have hj':j<(cellsOf v).length:=by rw[<-l1];exact hj
    obtain⟨k1,k2⟩:=l2 j hj' hj;exact q7l k2 (g1'.2 j hj') (q1 _ k1))
  (fun n hn=>by
    simp only[ab,qi,zT]at hn
    grind)
  (by
    simp only[ab,qi,jN];refine⟨λhn=> ?_,l5 hvn (λn hn j hj=>hfresh n hn j O)⟩
    rcases l3 _ hn with h|⟨j,_,hj,e⟩
    . grind
    . have:=X6 e;omega)
  (fun n hn=>by
    simp only[Vs.occ,aX,zT]at hn;rcases hn with rfl|hn
    . exact .inr ⟨15,O,rfl⟩
    . rcases l3 n (l4 n hn)with h|⟨j,_,hj,e⟩
      . rw[<-g2]at h;exact .inl (S.hocc _ mS n (qj h))
      . exact .inr ⟨j,O,e⟩)
def qmq {idx t:Nat} {v r:AV} {c:Value} (h:aq CO (xh T idx t v) U r U' R W) (S:aC E D β who U ((v,c)::hd) a w)
 (hf: ∀k,k<16-> ¬D (ae idx k)):
 ∃rv w' β' who',(Instr.box t c).run P w= .ok rv w'/\aC E (Dn D idx) β' who' U' ((r,rv)::hd) a w':=by
 unfold xh at h;split at h
 . exact(kC h).elim
 . split at h
   . exact(kC h).elim
   . obtain⟨cs',ho,h⟩:=aq.ofOpt' h;obtain⟨rfl,rfl⟩:=kB h;obtain⟨β',who',S'⟩:=S.box (t:=t) hf ho;exact⟨_,_,β',who',by simp[Instr.box,newVar,newRow],S'⟩
def q70: ∀{zs:List ZC} {vs:List AV},FM zs=some vs->
 ∃us,zs.mapM qY=some us/\us.length=zs.length/\vs.length=zs.length/\(∀c∈vs,qc c=[]/\aI c=[])/\
  ∀j (h:j<vs.length) (h':j<us.length),aO β who w vs[j] us[j]
 |[],vs,h=>by
  simp only[FM,zM]at h;simp_all
 |z::zs,vs,h=>by
  simp only[FM]at h;split at h
  . rename_i c cs h1 h2;injection h with h
    subst h;obtain⟨us,e1,e2,e3,e4,e5⟩:=q70 h2
    have hz: ∃u,qY z=some u/\aO β who w c u/\qc c=[]/\aI c=[]:=by
     cases z with
     |other=>cases h1
     |int k=>injection h1 with h1;subst h1;exact⟨_,rfl,rfl,rfl,rfl⟩
     |bool=>injection h1 with h1;subst h1;exact⟨_,rfl,rfl,rfl,rfl⟩
     |nil t=>injection h1 with h1;subst h1;exact⟨_,rfl,⟨rfl,rfl⟩,rfl,rfl⟩
    obtain⟨u,f1,f2,f3⟩:=hz;refine⟨u::us,by grind,by simp[e2],by simp[e3],?_,?_⟩
    . grind
    . grind
  . cases h
def YT {t:Nat} {ti:TI} (hti:jV P t ti) {zs:List AV} (hz:FM ti.cells=some zs):
 ∃z,(zeroValue t).run P w= .ok z w/\a8 β who w zs z.cells/\ab (.agg zs)=[]/\Vs.occ (.agg zs)=[]/\((∃arr,z= .agg arr)↔Q8 ti.desc=true)/\z.cells.size=ti.cells.length:=by
 obtain⟨us,e1,e2,e3,e4,e5⟩:=q70 (β:=β) (who:=who) (w:=w) hz;obtain⟨i,hi,his,hzz⟩:=hti.info;obtain⟨z,h1,h2,h3⟩:=hzz us e1;have hsz:z.cells.size=us.length:=by rw[<-h2];simp
 refine⟨z,H6 hi h1 w,⟨by rw[hsz,e2,e3],λj hj=> ?_⟩,Q7 λc hc=>(e4 c hc).1,Q7 λc hc=>(e4 c hc).2,h3,by rw[hsz,e2]⟩
 have hj':j<us.length:=by rw[e2,<-e3];exact hj
 have:=e5 j hj hj'
 have e:z.cells.getD j undef=us[j]:=by
  have hlt:j<z.cells.size:=by rw[hsz];exact hj'
  simp only[Array.getD,hlt,dif_pos,<-h2,Array.getInternal_eq_getElem,Array.getElem_toList]
 rw[e];exact this
def qgy (hT:bm P T) {idx mode t:Nat} {r:AV} (h:aq CO (QZ T idx mode t) U r U' R W) (S:aC E D β who U hd a w)
 (hf: ∀k,k<16-> ¬D (ae idx k)):
 ∃rv w' β' who',(Instr.alloc t true (.tuple #[])).run P w= .ok rv w'/\aC E (Dn D idx) β' who' U' ((r,rv)::hd) a w':=by
 unfold QZ at h;split at h
 . exact(kC h).elim
 . rename_i ti hti;obtain⟨zs,hz,h⟩:=aq.ofOpt' h;obtain⟨cs,ho,h⟩:=aq.ofOpt' h;obtain⟨rfl,rfl⟩:=kB h;obtain⟨z,g1,g2,g3,g4,g5,g6⟩:=YT (β:=β) (who:=who) (w:=w) (hT t ti hti) hz;have S1:=S.take0 (v:= .agg zs) (c:= .agg z.cells) ⟨z.cells,rfl,g2⟩ g3 (λn hn=>by rw[g4]at hn;cases hn)
   obtain⟨β',who',S'⟩:=(S1.nlI (m:=mode)).box (t:=t) hf ho;exact⟨_,_,β',who',by simp[Instr.alloc,g1,newVar,newRow];rfl,S'⟩
end
section
variable {P:Program} {CO:Q5} {T:TT} {E:aN} {D:Nat->Prop} {β:aP} {who:bg} {U U':ag} {hd:List (AV×Value)} {a:Act} {w w':World} {R W:List Nat}
def aL.ext': ∀{t:Ty} {x:aM t} {g g':Nat->Option Value} {j:Nat},(∀i,i<t.size->g' (j+i)=g (j+i))->aL who w t x g j->aL who w t x g' j
 | .int _,x,g,g',j,hg,h=>by have:=hg 0 (by simp[Ty.size]);simp only[aL,zU]at*;rw[this];exact h
 | .bool,x,g,g',j,hg,h=>by have:=hg 0 (by simp[Ty.size]);simp only[aL,zU]at*;rw[this];exact h
 | .sl _ t,x,g,g',j,hg,h=>by
   have:=hg 0 (by simp[Ty.size])
   obtain⟨v,h1,h2⟩:=h;exact⟨v,by grind,h2⟩
 | .pr a b,x,g,g',j,hg,h=>
   ⟨aL.ext' (λi hi=>hg i (by simp only[Ty.size];omega)) h.1,
    aL.ext' (λi hi=>by have:=hg (a.size+i) (by simp only[Ty.size];omega);grind) h.2⟩
def JP: ∀{t:Ty} {cells r:List AV} {x:aM t} {f:Nat->Value} {g:Nat->Option Value} {j:Nat},Yr t cells=some (x,r)->
 (∀i (h:i<cells.length),aO β who w (eU cells[i]) (f i))->(∀i,i<t.size->g (j+i)=some (f i))->
 aL who w t x g j/\r=cells.drop t.size/\t.size<=cells.length
 | .int k,cells,r,x,f,g,j,h,hr,hg=>by
   cases cells with
   |nil=>cases h
   |cons c cs=>
    cases c with
    |int k' n=>
     simp only[Yr]at h;split at h
     . rename_i e;subst e;injection h with h;injection h with h1 h2
       subst h1 h2;have h0:=hr 0 (by simp)
       have:f 0= .int k' n:=h0;have hg0:=hg 0 (by simp[Ty.size])
       exact⟨by simp only[aL];grind,rfl,by simp[Ty.size]⟩
     . cases h
    |_=>cases h
 | .bool,cells,r,x,f,g,j,h,hr,hg=>by
   cases cells with
   |nil=>cases h
   |cons c cs=>
    cases c with
    |bool b=>
     simp only[Yr,zM,Iu]at h;obtain⟨h1,h2⟩:=h;subst h1 h2;have h0:=hr 0 (by simp)
     have:f 0= .bool b:=h0;have hg0:=hg 0 (by simp[Ty.size])
     exact⟨by simp only[aL];grind,rfl,by simp[Ty.size]⟩
    |_=>cases h
 | .sl b t,cells,r,x,f,g,j,h,hr,hg=>by
   cases cells with
   |nil=>cases h
   |cons c cs=>
    cases c with
    |sl o t' xs=>
     have key: ∀(e:t'=t),x=e▸xs->r=cs->aL who w (.sl b t) x g j/\r=(AV.sl o t' xs::cs).drop (Ty.sl b t).size/\(Ty.sl b t).size<=(AV.sl o t' xs::cs).length:=by
      intro e hx hc;subst e;simp only at hx;subst hx hc;have h0:fB who w t' x (f 0):=hr 0 (by simp)
      have hg0:=hg 0 (by simp[Ty.size])
      exact⟨⟨f 0,by simpa using hg0,h0⟩,rfl,by simp[Ty.size]⟩
     simp only[Yr]at h
     grind
    |_=>cases h
 | .pr a b,cells,r,x,f,g,j,h,hr,hg=>by
   simp only[Yr]at h;split at h
   . rename_i x1 r1 h1;split at h
     . rename_i y r2 h2;injection h with h;injection h with h3 h4
       subst h3 h4;obtain⟨i1,i2,i3⟩:=JP (f:=f) (g:=g) (j:=j) h1 hr (λi hi=>hg i (by simp only[Ty.size];omega))
       subst i2
       obtain⟨k1,k2,k3⟩:=JP (f:=λi=>f (a.size+i)) (g:=g) (j:=j+a.size) h2
        (fun i hi=>by
          grind)
        (λi hi=>by have:=hg (a.size+i) (by simp only[Ty.size];omega);grind)
       refine⟨⟨i1,k1⟩,?_,?_⟩
       . rw[k2,Pr];rfl
       . simp at k3;simp only[Ty.size];omega
     . cases h
   . cases h
def O0 {c:AV} {v:Value} (h:bC c=true) (hr:aO β who w c v):aO β who w (eU c) v:=by
 cases c with
 |sl o t xs=>
  cases o with
  |imm=>exact hr
  |nl=>obtain⟨rfl,rfl⟩:=hr;exact .inl ⟨rfl,rfl⟩
  |_=>cases h
 |bool b=>exact hr
 |int k n=>exact hr
 |_=>cases h
def Sy {c:AV} (h:bC c=true):qc c=[]/\aI c=[]:=by
 cases c with
 |sl o t xs=>cases o<;>first|exact⟨rfl,rfl⟩|cases h
 |bool b=>exact⟨rfl,rfl⟩
 |int k n=>exact⟨rfl,rfl⟩
 |_=>cases h
def X4 {α:Type} {l:List α} {j:Nat} {cs:List α} (h:j+cs.length<=l.length):(Qk l j cs).length=l.length:=by
 rw[Qs l j cs h];simp;omega
def J9 {α:Type} {l:List α} {j:Nat} {cs:List α} (h:j+cs.length<=l.length) {i:Nat} (hi:i<l.length):
 (Qk l j cs)[i]'(by rw[X4 h];exact hi)=if hc:j<=i/\i<j+cs.length then cs[i-j]'(O)else l[i]:=by
 simp only[Qs l j cs h];split
 . grind
 . rename_i hc;by_cases hlt:i<j
   . grind
   . rw[BV (by simp;omega)]
     grind
def qm (cur:Array Value) (o:Nat) (vs:List Value):Array Value:=(cur.toList.take o++vs++cur.toList.drop (o+vs.length)).toArray
def Qg {cur:Array Value} {o:Nat} {vs:List Value} (h:o+vs.length<=cur.size):(qm cur o vs).size=cur.size:=by
 simp[qm];omega
def Qh {cur:Array Value} {o:Nat} {vs:List Value} (h:o+vs.length<=cur.size) (i:Nat):
 (qm cur o vs)[i]? =if o<=i/\i<o+vs.length then vs[i-o]? else cur[i]? :=by
 have e:(qm cur o vs)[i]? =(cur.toList.take o++vs++cur.toList.drop (o+vs.length))[i]? :=by simp[qm]
 rw[e];have hc:cur.toList.length=cur.size:=by simp
 split
 . grind
 . rename_i hc';by_cases hlt:i<o
   . grind
   . rw[List.getElem?_append_right (by simp;omega),List.getElem?_drop]
     simp;congr 1;omega
def aC.write {idx s n g:Nat} {v av':AV} {c:Value} {row:Array Value} (S:aC E D β who U ((v,c)::hd) a w) (hf: ∀k,k<16-> ¬D (ae idx k))
 (hg:who g=some n) (hn:n∈ab (U.get s))
 (hv: ∀β',(∀k,k<15->β' (ae idx k)=dT)->(∀m,D m->β' m=β m)->
   (∀av x,(∀m∈Vs.occ av,D m)->n∉ab av->be β who w av x->be β' who (w.setRow g row) av x)->
   (∀b,who b=none->(w.setRow g row).heap[b]? =w.heap[b]?)->be β' who (w.setRow g row) av' (a.tmps.getD s undef))
 (hns: ∀m∈ab av',m∈ab (U.get s)\/m∈ab v\/ ∃k,k<16/\m=ae idx k) (hnd:(ab av').Nodup) (ho: ∀m∈Vs.occ av',Dn D idx m):
 ∃β',aC E (Dn D idx) β' who (U.set s av') hd a (w.setRow g row):=by
 let β':aP:=λx=>if ae idx 0<=x/\x<ae idx 15 then dT else β x
 have hβ: ∀m,D m->β' m=β m:=λm hdm=>by
  simp only[β'];rw[ao]
  rintro ⟨h1,h2⟩
  refine hf (m-ae idx 0) (by simp only[ae]at*;omega) ?_
  rwa [show ae idx (m-ae idx 0)=m by simp only[ae]at*;omega]
 have hoth: ∀b,b≠g->(w.setRow g row).heap[b]? =w.heap[b]? :=λb hb=>setRow_other w g b row hb
 have hgn: ∀b,who b=none->b≠g:=λb hb e=>by grind
 have kp: ∀av x,(∀m∈Vs.occ av,D m)->n∉ab av->be β who w av x->be β' who (w.setRow g row) av x:=λav x h1 h2 h3=>
  h3.keep ⟨λm hm=>hβ m (h1 m hm),λm hm b hb=>⟨hb,hoth b (by grind)⟩,λb hb _=>⟨hb,hoth b (hgn b hb)⟩,by simp⟩
 have hnv:n∉ab v:=λh=>S.hdis _ mS n h s hn
 have hfr: ∀k,k<16-> ∀t,ae idx k∉ab (U.get t):=λk hk t h=>hf k hk (S.occ t _ (qj h))
 have hfh: ∀k,k<16-> ∀x∈hd,ae idx k∉ab x.1:=λk hk x hx h=>hf k hk (S.hocc x (mT hx) _ (qj h))
 have hno:=S.hnod;simp only[fC]at hno;have hrel':=hv β' (λk hk=>by simp only[β'];rw[iP];simp only[ae];omega) hβ kp (λb hb=>hoth b (hgn b hb))
 refine⟨β',?_⟩
 exact{
  rel:=λt=>by
   by_cases e:t=s
   . subst e;rw[qg];exact hrel'
   . rw[qf _ _ e];exact kp _ _ (S.occ t) (λh=>e (S.dis t s n h hn)) (S.rel t)
  nod:=λt=>by
   by_cases e:t=s
   . subst e;rw[qg];exact hnd
   . rw[qf _ _ e];exact S.nod t
  dis:=λt t' m h1 h2=>by
   have key: ∀t,t≠s->m∈ab (U.get t)->m∉ab av':=λt e h h'=>by
    rcases hns m h' with h3|h3|⟨k,hk,rfl⟩
    . exact e (S.dis t s m h h3)
    . exact S.hdis _ mS m h3 t h
    . exact hfr k hk t h
   by_cases e:t=s<;>by_cases e':t'=s
   . rw[e,e']
   . subst e;rw[qg]at h1;rw[qf _ _ e']at h2;grind
   . subst e';rw[qg]at h2;rw[qf _ _ e]at h1;grind
   . rw[qf _ _ e]at h1;rw[qf _ _ e']at h2;exact S.dis t t' m h1 h2
  occ:=λt m h=>by
   by_cases e:t=s
   . subst e;rw[qg]at h;exact ho m h
   . rw[qf _ _ e]at h;exact .inl (S.occ t m h)
  hrel:=λx hx=>kp _ _ (S.hocc x (mT hx)) (λh=>S.hdis x (mT hx) n h s hn) (S.hrel x (mT hx))
  hnod:=(zK.1 hno).2.1
  hdis:=λx hx m h t=>by
   by_cases e:t=s
   . subst e;rw[qg];intro h';rcases hns m h' with h3|h3|⟨k,hk,rfl⟩
     . exact S.hdis x (mT hx) m h t h3
     . grind
     . exact hfh k hk x hx h
   . rw[qf _ _ e];exact S.hdis x (mT hx) m h t
  hocc:=λx hx m h=> .inl (S.hocc x (mT hx) m h)
  wsz:=λb m h=>by simp only[setRow_size];exact S.wsz b m h
  fr0:=λb hb h0=>by
   rw[hoth b (by
    rintro rfl
    rcases h0 with h0|h0
    . rcases S.fr1 b n hg with h|h
      . exact h h0
      . omega
    . rw[S.fr3 b h0]at hg;injection hg with hg;exact S.dfn (hg▸S.occ s n (qj hn)))]
   exact S.fr0 b hb h0
  fr1:=S.fr1,fr2:=by simp only[setRow_size];exact S.fr2,fr3:=S.fr3,fr4:=S.fr4,dfn:=dh S.dfn,dfr:=S.dfr,tsz:=S.tsz,pin:=S.pin,frm:=(hβ 98 S.d98).trans S.frm,d98:= .inl S.d98}
end
section
variable {P:Program} {CO:Q5} {T:TT} {E:aN} {D:Nat->Prop} {β:aP} {who:bg} {U U':ag} {hd:List (AV×Value)} {a:Act} {w w':World} {R W:List Nat}
def SG {c:AV} {v:Value} (h:aO β who w c v):be β who w c v/\ab c=qc c/\Vs.occ c=aI c/\ ∀β' who' w' v',be β' who' w' c v'->aO β' who' w' c v':=by
 cases c with
 |bx o cs=>exact h.elim
 |agg cs=>exact h.elim
 |tup vs=>exact h.elim
 |_=>exact⟨h,rfl,rfl,λ_ _ _ _ h=>h⟩
def qlk (hT:bm P T) {t:Nat} {v:AV} {c:Value} (h:be β who w v c):be β who w (Zn T t v) c/\ab (Zn T t v)=ab v/\ ∀n∈Vs.occ (Zn T t v),n∈Vs.occ v:=by
 unfold Zn;split
 . split
   . have hc:c= .slice none 0 0:=h.1;exact⟨⟨hc,rfl⟩,rfl,λn hn=>by cases hn⟩
   . exact⟨h,rfl,λn hn=>hn⟩
 grind
def aC.fix (hT:bm P T) {t:Nat} {v:AV} {c:Value} (S:aC E D β who U ((v,c)::hd) a w):aC E D β who U ((Zn T t v,c)::hd) a w:=by
 obtain⟨h1,h2,h3⟩:=qlk (t:=t) hT (S.hrel _ mS)
 exact{S with
  hrel:=λy hy=>by rcases mC hy with rfl|hy;exact h1;exact S.hrel y (mT hy)
  hnod:=by have:=S.hnod;grind
  hdis:=λy hy=>by
   rcases mC hy with rfl|hy
   . simp only[h2];exact S.hdis _ mS
   . exact S.hdis y (mT hy)
  hocc:=λy hy=>by
   rcases mC hy with rfl|hy
   . exact λn hn=>S.hocc _ mS n (h3 n hn)
   . exact S.hocc y (mT hy)}
def aC.swap {x y:AV×Value} (S:aC E D β who U (x::y::hd) a w):aC E D β who U (y::x::hd) a w:=by
 have hp:(x::y::hd).Perm (y::x::hd):=List.Perm.swap y x hd
 exact{S with
  hrel:=λz hz=>S.hrel z (hp.mem_iff.2 hz)
  hnod:=((hp.flatMap_right _).nodup_iff).1 S.hnod
  hdis:=λz hz=>S.hdis z (hp.mem_iff.2 hz)
  hocc:=λz hz=>S.hocc z (hp.mem_iff.2 hz)}
def Xu {t:Nat} {ti:TI} (hti:jV P t ti) {b o:Nat} {c:Value} {arr:Array Value} {el:TypeId} (hb:w.heap[b]? =some (.cells arr el (0,0)))
 (hsz:c.cells.size=ti.cells.length) (hl:o+c.cells.size<=arr.size) (h1: ∀x∈c.cells.toList,x.oneCell'=true):
 (Instr.storeAt t (.pointer (some ⟨b,o,none⟩)) c).run P w= .ok () (w.setRow b (qm arr o c.cells.toList)):=by
 obtain⟨i,hi,his,_⟩:=hti.info;have:=run_storeCells_at P b o el c.cells.toList 0 arr w hb (by simpa using hl) h1
 simp only[zU]at this;simp only[Instr.storeAt,Instr.sureAddr,Sem.run_bind,Sem.run_pure,Result.andThen_ok,storeVar,Xp hi,his,hsz,ne_eq,not_true_eq_false,if_false,this];rfl
def Zu {n:Nat} {f:(t:Ty)->List (aM t)->Option (List (aM t))} {c c':AV} (h:dw n f c=some c'):
 (∃t xs ys,c= .sl (.nm n) t xs/\f t xs=some ys/\c'= .sl (.nm n) t ys)\/(∃t xs ys,c= .wn n t xs/\f t xs=some ys/\c'= .wn n t ys)\/(n∉qc c/\c'=c):=by
 cases c with
 |sl o t xs=>
  cases o with
  |nm m=>
   simp only[dw]at h;split at h
   . grind
   . rename_i e;injection h with h
     subst h;exact .inr (.inr ⟨by simp only[qc,zC];exact λh=>e h.symm,rfl⟩)
  |_=>injection h with h;subst h;exact .inr (.inr ⟨by simp[qc],rfl⟩)
 |dp m t xs hh=>
  simp only[dw]at h;split at h
  . cases h
  . rename_i e;injection h with h
    subst h;exact .inr (.inr ⟨by simp only[qc,zC];exact λh=>e h.symm,rfl⟩)
 |dq m t xs hh=>
  simp only[dw]at h;split at h
  . cases h
  . rename_i e;injection h with h
    subst h;exact .inr (.inr ⟨by simp only[qc,zC];exact λh=>e h.symm,rfl⟩)
 |fd m t xs hh=>
  simp only[dw]at h;split at h
  . cases h
  . rename_i e;injection h with h
    subst h;exact .inr (.inr ⟨by simp only[qc,zC];exact λh=>e h.symm,rfl⟩)
 |mm m t xs o=>
  simp only[dw]at h;split at h
  . cases h
  . rename_i e;injection h with h
    subst h;exact .inr (.inr ⟨by simp only[qc,zC];exact λh=>e h.symm,rfl⟩)
 |wn m t xs=>
  simp only[dw]at h;split at h
  . grind
  . rename_i e;injection h with h
    subst h;exact .inr (.inr ⟨by simp only[qc,zC];exact λh=>e h.symm,rfl⟩)
 |_=>injection h with h;subst h;exact .inr (.inr ⟨by simp[qc],rfl⟩)
def JY {n:Nat} {f:(t:Ty)->List (aM t)->Option (List (aM t))} {c c':AV} (h:dw n f c=some c'):qc c'=qc c/\aI c'=aI c:=by
 rcases Zu h with⟨t,xs,ys,rfl,_,rfl⟩|⟨t,xs,ys,rfl,_,rfl⟩|⟨_,rfl⟩<;>exact⟨rfl,rfl⟩
def H8 {n:Nat} {f:(t:Ty)->List (aM t)->Option (List (aM t))}: ∀{cs cs':List AV},mg n f cs=some cs'->
 cs'.length=cs.length/\cs'.flatMap qc=cs.flatMap qc/\cs'.flatMap aI=cs.flatMap aI/\ ∀j (h:j<cs.length) (h':j<cs'.length),dw n f cs[j]=some cs'[j]
 |[],cs',h=>by injection h with h;grind
 |c::cs,cs',h=>by
  simp only[mg]at h;split at h
  . rename_i c1 cs1 h1 h2;injection h with h
    subst h;obtain⟨i1,i2,i3,i4⟩:=H8 h2;obtain⟨k1,k2⟩:=JY h1
    grind
  . cases h
def aQ.store {t:Ty} {xs:List (aM t)} {b o i j:Nat} {arr:Array Value} {el:TypeId} {cs:List AV} {vs:List Value} {x':aM t}
 (hb:w.heap[b]? =some (.cells arr el (0,0))) (hE:aQ who w t xs b o) (hi:i<xs.length) (hlen:vs.length=cs.length) (hfit:o+xs.length*t.size<=arr.size)
 (hs:Zb t (xs.getD i t.zero) j cs=some x') (hw: ∀k (h:k<cs.length),aO β who (w.setRow b (qm arr (o+i*t.size+j) vs)) (eU cs[k]) (vs.getD k undef))
 (himm: ∀b',who b'=none->(w.setRow b (qm arr (o+i*t.size+j) vs)).heap[b']? =w.heap[b']?):
 aQ who (w.setRow b (qm arr (o+i*t.size+j) vs)) t (xs.set i x') b o:=by
 have hx:xs.getD i t.zero=xs[i]:=by simp[List.getD,List.getElem?_eq_getElem hi]
 rw[hx]at hs;unfold Zb at hs;split at hs
 . rename_i hjl;split at hs
   . rename_i y hy;injection hs with hs
     subst hs;have hp:=Ty.size_pos t
     have hrange:o+i*t.size+t.size<=arr.size:=by
      have:(i+1)*t.size<=xs.length*t.size:=zO _ O;rw[ir]at this;omega
     have hrow:o+i*t.size+j+vs.length<=arr.size:=O;have hheap:(w.setRow b (qm arr (o+i*t.size+j) vs)).heap[b]? =some (.cells (qm arr (o+i*t.size+j) vs) el (0,0)):=setRow_heap w b arr _ el _ hb
     have hcell: ∀k,(w.setRow b (qm arr (o+i*t.size+j) vs)).cell? ⟨b,k,none⟩=if o+i*t.size+j<=k/\k<o+i*t.size+j+vs.length then vs[k-(o+i*t.size+j)]? else arr[k]? :=by
      intro k;simp only[World.cell?,hheap];simpa using Qh hrow k
     have hold: ∀k,w.cell? ⟨b,k,none⟩=arr[k]? :=λk=>by simp[World.cell?,hb]
     have hsz:w.heap.size<=(w.setRow b (qm arr (o+i*t.size+j) vs)).heap.size:=by simp
     intro i' hi';have hi'':i'<xs.length:=by simpa using hi'
     by_cases e:i'=i
     . subst e;rw[tr];obtain⟨hul,hu⟩:=J0 (β:=β) (hE i' hi)
       let f:Nat->Value:=λk=>if j<=k/\k<j+vs.length then vs.getD (k-j) undef else arr.getD (o+i'*t.size+k) undef
       refine(JP (β:=β) (who:=who) (w:=w.setRow b (qm arr (o+i'*t.size+j) vs)) (f:=f) hy ?_ ?_).1
       . intro k hk;have hrl:j+cs.length<=(bf t xs[i']).length:=by rw[hul];exact hjl
         have hk':k<(bf t xs[i']).length:=by rw[<-X4 hrl];exact hk
         rw[J9 hrl hk'];simp only[f];split
         . grind
         . rename_i hc;rw[ao O];obtain⟨v,e1,e2⟩:=hu k hk';rw[zG]at e1;simp only[aD,hold]at e1
           have:arr.getD (o+i'*t.size+k) undef=v:=by
            rw[Array.getD_eq_getD_getElem?,e1];rfl
           rw[this];have hnn:=(J1 (c:=eU (bf t xs[i'])[k]) (zV.2 ⟨_,zN hk',rfl⟩)).1;exact aO.keep (β:=β) (β':=β) ⟨λ_ _=>rfl,(λm hm=>by rw[hnn]at hm;cases hm),λb' hb' _=>⟨hb',himm b' hb'⟩,hsz⟩ e2
       . intro k hk;simp only[aD,hcell,zG,f];by_cases hc:j<=k/\k<j+vs.length
         . grind
         . rw[ao O,ao hc];rw[Array.getD_eq_getD_getElem?,Array.getElem?_eq_getElem O];rfl
     . rw[tk (λh=>e h.symm)]
       refine aL.ext' (g:=aD w b (o+i'*t.size)) (λk hk=> ?_) (aL.keep (λb' hb' _=>⟨hb',himm b' hb'⟩) hsz (hE i' hi''))
       simp only[aD,hcell,hold,zG];rw[ao]
       rintro ⟨q1,q2⟩
       rcases Nat.lt_or_gt_of_ne e with h|h
       . have:(i'+1)*t.size<=i*t.size:=zO _ h
         grind
       . have:(i+1)*t.size<=i'*t.size:=zO _ h
         grind
   . cases hs
 . cases hs
end
end Go.Vs
