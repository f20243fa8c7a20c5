import GoSem.Dispatch
import Derived.Laws.AppendOwn
import Derived.Laws.MakeOwn
import Derived.Laws.CopyRow
import Derived.Laws.Entries
import Derived.Calls
set_option linter.unusedVariables false
set_option linter.unusedSimpArgs false
abbrev Qa0:=@List.getElem?_append_left
abbrev Qa1:=@List.getElem?_eq_getElem
abbrev Qa2:=@List.mem_of_getElem?
abbrev Qb0:=@List.length_append
abbrev Qb1:=@List.getElem?_map
abbrev Qb2:=@List.getElem?_set_ne
abbrev Qc0:=@List.getElem?_append_right
abbrev Qc1:=@Nat.le_trans
abbrev Qc2:=@List.map_nil
abbrev Qd0:=@Bool.and_eq_true
abbrev Qd1:=@List.getElem?_set_self
abbrev Qd2:=@Nat.le_refl
abbrev Qe0:=@Option.some.injEq
abbrev Qe1:=@List.take_of_length_le
abbrev Qe2:=@List.map_cons
abbrev Qf0:=@Nat.mul_le_mul_right
abbrev Qf1:=@Option.map_eq_some_iff
abbrev Qf2:=@List.length_cons
abbrev Qg0:=@Nat.lt_or_ge
abbrev Qg1:=@List.mem_map
abbrev Qg2:=@List.mem_cons_of_mem
abbrev Qh0:=@Array.getElem?_eq_getElem
abbrev Qh1:=@Bool.false_eq_true
abbrev Qh2:=@List.all_eq_true
abbrev Qi0:=@List.getElem_mem
abbrev Qi1:=@List.mem_cons
abbrev Qi2:=@List.mem_cons_self
abbrev Qj0:=@List.getD_eq_getElem?_getD
abbrev Qj1:=@List.length_map
abbrev Qj2:=@List.drop_eq_getElem_cons
abbrev Qk0:=@List.take_length
abbrev Qk1:=@Nat.lt_of_lt_of_le
abbrev Qk2:=@Nat.mul_comm
abbrev Ql0:=@Nat.eq_of_beq_eq_true
abbrev Ql1:=@List.foldl_cons
abbrev Ql2:=@Int.fdiv_eq_ediv_of_nonneg
abbrev Qm0:=@Prod.mk.injEq
abbrev Qm1:=@Int.emod_lt_of_pos
abbrev Qm2:=@List.append_assoc
abbrev Qn0:=@List.map_append
abbrev Qn1:=@List.mem_of_mem_take
abbrev Qn2:=@Nat.pow_succ
abbrev Qo0:=@List.pairwise_cons
abbrev Qo1:=@List.eq_nil_of_length_eq_zero
abbrev Qo2:=@Int.emod_nonneg
abbrev Qp0:=@List.getElem?_take
abbrev Qp1:=@List.getElem?_eq_none
abbrev Qp2:=@List.take_succ_eq_append_getElem
abbrev Qq0:=@List.length_take
abbrev Qq1:=@Nat.add_mul
abbrev Qq2:=@List.set_append_left
abbrev Qr0:=@Nat.add_assoc
abbrev Qr1:=@Nat.zero_le
abbrev Qr2:=@Nat.eq_zero_or_pos
abbrev Qs0:=@List.length_nil
abbrev Qs1:=@Bool.true_and
abbrev Qs2:=@Array.getD_eq_getD_getElem?
abbrev Qt0:=@Array.getElem?_toList
abbrev Qt1:=@Bool.not_eq_true'
abbrev Qt2:=@Nat.pow_pos
abbrev Qu0:=@Nat.div_lt_iff_lt_mul
abbrev Qu1:=@Nat.mod_lt
abbrev Qu2:=@List.findIdx?_eq_some_iff_getElem
abbrev Qv0:=@Nat.pow_le_pow_right
abbrev Qv1:=@List.drop_length
abbrev Qv2:=@List.nil_append
abbrev Qw0:=@List.mem_append
abbrev Qw1:=@List.getElem?_cons_zero
abbrev Qw2:=@Nat.add_sub_cancel
abbrev Qx0:=@List.mem_singleton
abbrev Qx1:=@Nat.mod_eq_of_lt
abbrev Qx2:=@List.getElem?_drop
abbrev Qy0:=@Option.some.inj
abbrev Qy1:=@List.getElem?_eq_some_iff
abbrev Qy2:=@Nat.le_max_right
abbrev Qz0:=@List.take_add_one
abbrev Qz1:=@Nat.pow_add
abbrev Qz2:=@Nat.zero_add
abbrev Q00:=@List.set_append_right
abbrev Q01:=@Nat.le_max_left
abbrev Q02:=@Nat.div_div_eq_div_mul
abbrev Q10:=@List.append_nil
abbrev Q11:=@Option.map_some
abbrev Q12:=@Option.getD_some
abbrev Q2:=@List.map_map
abbrev Q20:=@List.length_eq_zero_iff
abbrev Q21:=@Nat.mul_assoc
abbrev Q22:=@Nat.mul_le_mul
abbrev Q30:=@Int.sign_eq_neg_one_of_neg
abbrev Q31:=@List.mem_filter
abbrev Q32:=@List.mem_of_mem_drop
abbrev Q40:=@Array.ext'
abbrev Q41:=@List.mem_or_eq_of_mem_set
abbrev Q42:=@List.mergeSort_perm
abbrev Q50:=@List.concat_eq_append
abbrev Q51:=@List.map_set
abbrev Q52:=@Nat.add_zero
abbrev Q60:=@Bool.false_and
abbrev Q61:=@List.length_replicate
abbrev Q62:=@Option.isSome_iff_exists
abbrev Q70:=@Nat.mul_lt_mul_of_pos_right
abbrev Q71:=@Nat.eq_or_lt_of_le
abbrev Q72:=@Int.tdiv_eq_ediv_of_nonneg
abbrev Q80:=@Array.getElem?_eq_some_iff
abbrev Q81:=@Int.sign_eq_one_of_pos
abbrev Q82:=@Int.lt_trichotomy
abbrev Q90:=@Nat.mul_le_mul_left
abbrev Q91:=@Int.sign_eq_zero_iff_zero
abbrev Q92:=@List.eq_nil_or_concat
abbrev Xa0:=@Array.getElem?_modify
abbrev Xa1:=@Nat.div_eq_of_lt
abbrev Xa2:=@Nat.lt_of_le_of_lt
abbrev Xb0:=@List.cons_append
abbrev Xb1:=@List.length_drop
abbrev Xb2:=@Nat.mul_add
abbrev Xc0:=@Nat.mul_pos
abbrev Xc1:=@Bool.false_or
abbrev Xc2:=@List.flatMap_cons
abbrev Xd0:=@List.getElem_of_mem
abbrev Xd1:=@Array.length_toList
abbrev Xd2:=@Int.tmod_eq_emod_of_nonneg
abbrev Xe0:=@List.nodup_iff_pairwise_ne
abbrev Xe1:=@List.any_eq_true
abbrev Xe2:=@List.take_append_drop
abbrev Xf0:=@List.getElem?_toArray
abbrev Xf1:=@List.getElem?_zip_eq_some
abbrev Xf2:=@List.eq_of_mem_replicate
abbrev Xg0:=@List.length_set
abbrev Xg1:=@Bool.not_true
abbrev Xg2:=@List.filter_cons_of_neg
abbrev Xh0:=@List.filter_cons_of_pos
abbrev Xh1:=@List.getElem?_replicate
abbrev Xh2:=@List.length_pos_iff
abbrev Xi0:=@Nat.sub_self
abbrev Xi1:=@List.mem_iff_getElem?
abbrev Xi2:=@List.length_singleton
abbrev Xj0:=@Array.getElem?_append_left
abbrev Xj1:=@List.findIdx?_eq_none_iff
abbrev Xj2:=@Nat.div_one
abbrev Xk0:=@List.mem_flatMap
abbrev Xk1:=@List.replicate_succ
abbrev Xk2:=@List.map_congr_left
abbrev Xl0:=@Nat.le_mul_of_pos_right
abbrev Xl1:=@List.getElem?_cons_succ
abbrev Xl2:=@Nat.mul_add_div
abbrev Xm0:=@Nat.div_le_self
abbrev Xm1:=@Bool.or_eq_true
abbrev Xm2:=@Option.isSome_none
abbrev Xn0:=@List.drop_of_length_le
abbrev Xn1:=@Array.getElem?_extract
abbrev Xn2:=@List.drop_eq_nil_of_le
abbrev Xo0:=@Nat.shiftLeft_add_eq_or_of_lt
abbrev Xo1:=@Bool.eq_false_iff
abbrev Xo2:=@List.pairwise_map
abbrev Xp0:=@Function.comp_def
abbrev Xp1:=@List.ext_getElem?
abbrev Xp2:=@Nat.add_comm
abbrev Xq0:=@List.length_filter_le
abbrev Xq1:=@List.drop_drop
abbrev Xq2:=@List.mem_zipIdx_iff_getElem?
abbrev Xr0:=@List.not_mem_nil
abbrev Xr1:=@List.map_eq_nil_iff
abbrev Xr2:=@List.flatMap_append
abbrev Xs0:=@List.getElem?_range
abbrev Xs1:=@Nat.div_add_mod
abbrev Xs2:=@Nat.min_eq_left
abbrev Xt0:=@List.cons.injEq
abbrev Xt1:=@List.range_succ
abbrev Xt2:=@Nat.gcd_comm
abbrev Xu0:=@Int.natAbs_eq_zero
abbrev Xu1:=@Nat.gcd_pos_of_pos_right
abbrev Xu2:=@List.Nodup.sublist
abbrev Xv0:=@List.findIdx?_cons
abbrev Xv1:=@List.mem_replicate
abbrev Xv2:=@List.drop_zero
abbrev Xw0:=@List.mem_range
abbrev Xw1:=@List.pairwise_mergeSort
abbrev Xw2:=@Nat.gcd_dvd_right
abbrev Xx0:=@List.foldl_append
abbrev Xx1:=@List.getElem?_set
abbrev Xx2:=@List.length_range
abbrev Xy0:=@List.size_toArray
abbrev Xy1:=@Nat.div_pos
abbrev Xy2:=@Nat.mul_one
abbrev Xz0:=@Nat.sub_mul
abbrev Xz1:=@Int.le_refl
abbrev Xz2:=@Array.getElem?_eq_none
abbrev X00:=@Nat.le_of_dvd
abbrev X01:=@Bool.and_true
abbrev X02:=@Int.natCast_ediv
abbrev X1:=@Bool.not_eq_true
abbrev X10:=@Nat.lt_succ_self
abbrev X11:=@Nat.le_div_iff_mul_le
abbrev X12:=@List.set_getElem_self
abbrev X2:=@Nat.mul_add_mod
abbrev X20:=@Nat.add_mul_div_left
abbrev X21:=@Nat.sub_zero
abbrev X22:=@Nat.pow_lt_pow_right
abbrev X30:=@Option.map_none
abbrev X31:=@List.nodup_cons
abbrev X32:=@Nat.add_le_add_right
abbrev X40:=@List.mem_iff_getElem
abbrev X41:=@List.getElem?_zipIdx
abbrev X42:=@List.getElem?_of_mem
abbrev X50:=@Nat.div_mul_le_self
abbrev X51:=@List.filter_eq_self
abbrev X52:=@Nat.pow_mul
abbrev X60:=@List.map_inj_right
abbrev X61:=@List.filter_append
theorem ae {p : Prop} (h : p := by omega) : p := h
theorem aC {p : Prop} (h : p := by simp) : p := h
theorem bS {p : Prop} (h : p := by decide) : p := h
namespace Fi
open Go
theorem aT {α:Type}{l:List α}{i:Nat}{x:α}(h:l[i]?=some x):i<l.length:=(Qy1.1 h).1
inductive D where
 | v (x:Value)
 | fn (g:Nat)
 | n (sz:Nat)
 | i
 | s (sz:Nat) (es:List D)
 | a (cs:List D)
 | t (vs:List D)
 deriving Inhabited
inductive Ref where
 | loc (i:Nat)
 | old (i:Nat)
 deriving DecidableEq,Inhabited
def Ref.abs (n:Nat):Ref->Nat
 | .loc i=>n+i
 | .old i=>i
inductive FV where
 | u
 | d (x:D)
 | r (p:Ref) (off:Nat)
 | e (p:Ref) (av sz i off:Nat)
 | rc (x:D)
 | ls (p:Ref) (av sz off n:Nat)
 | f (g:Nat) (first captured:List FV)
 | a (cs:List FV)
 | t (vs:List FV)
 | m (p:Ref)
 | z (sz:Nat)
 deriving Inhabited
inductive ah where
 | box (cs:List FV)
 | row (av sz:Nat) (es:List D)
 | h_ (av sz:Nat) (es:List D)
 | map (es:List (D × D))
 deriving Inhabited
def D.cells:D->List D
 | .a cs=>cs
 | x=>[x]
def FV.cells:FV->List FV
 | .a cs=>cs
 | .d (.a cs)=>cs.map .d
 | x=>[x]
def jN:List FV->Option (List D)
 | []=>some []
 | .d x::r=>match jN r with
  | some ds=>some (x::ds)
  | none=>none
 | _=>none
def Qr (cs:List FV):FV :=
 match jN cs with
 | some ds=>.d (.a ds)
 | none=>.a cs
def rH (cs:List FV):FV :=
 match jN cs with
 | some ds=>.d (.t ds)
 | none=>.t cs
def D.di:D->D
 | .n sz=>.s sz []
 | x=>x
def D.norm:D->D
 | .n sz=>.s sz []
 | .a cs=>.a (cs.map D.di)
 | .t cs=>.t (cs.map D.di)
 | x=>x
def uW:Value->Bool
 | .agg _ | .tuple _=>false
 | _=>true
def D.one:D->Bool
 | .v x=>uW x
 | .a _ | .t _=>false
 | _=>true
def FV.one:FV->Bool
 | .d x=>x.one
 | .r _ _ | .e _ _ _ _ _ | .rc _ | .ls _ _ _ _ _ | .f _ _ _ | .m _ | .z _=>true
 | .u | .a _ | .t _=>false
def iI (cs:List D)(agg:Bool)(off n:Nat):Option D :=
 if agg then(if off+n<=cs.length then some (.a ((cs.drop off).take n)) else none) else cs[off]?
def rY (cs:List FV)(agg:Bool)(off n:Nat):Option FV :=
 if agg then(if off+n<=cs.length then some (Qr ((cs.drop off).take n)) else none) else cs[off]?
def splice {α:Type}(cs:List α)(off:Nat)(xs:List α):List α:=cs.take off++xs++cs.drop (off+xs.length)
mutual
def FV.az (n:Nat):FV->FV
 | .r (.loc i) off=>.r (.old (n+i)) off
 | .e (.loc i) av sz j off=>.e (.old (n+i)) av sz j off
 | .ls (.loc i) av sz off len=>.ls (.old (n+i)) av sz off len
 | .m (.loc i)=>.m (.old (n+i))
 | .f g first captured=>.f g (FV.aP n first) (FV.aP n captured)
 | .a cs=>.a (FV.aP n cs)
 | .t cs=>.t (FV.aP n cs)
 | x=>x
def FV.aP (n:Nat):List FV->List FV
 | []=>[]
 | x::xs=>FV.az n x::FV.aP n xs
end
def ah.az (n:Nat):ah->ah
 | .box cs=>.box (FV.aP n cs)
 | o=>o
mutual
def FV.shift (m:Nat):FV->FV
 | .r (.old i) off=>.r (.loc (m+i)) off
 | .r (.loc i) off=>.r (.loc (m+i)) off
 | .e (.old i) av sz j off=>.e (.loc (m+i)) av sz j off
 | .e (.loc i) av sz j off=>.e (.loc (m+i)) av sz j off
 | .ls (.old i) av sz off len=>.ls (.loc (m+i)) av sz off len
 | .ls (.loc i) av sz off len=>.ls (.loc (m+i)) av sz off len
 | .m (.old i)=>.m (.loc (m+i))
 | .m (.loc i)=>.m (.loc (m+i))
 | .f g first captured=>.f g (FV.gD m first) (FV.gD m captured)
 | .a cs=>.a (FV.gD m cs)
 | .t cs=>.t (FV.gD m cs)
 | x=>x
def FV.gD (m:Nat):List FV->List FV
 | []=>[]
 | x::xs=>FV.shift m x::FV.gD m xs
end
def ah.shift (m:Nat):ah->ah
 | .box cs=>.box (FV.gD m cs)
 | o=>o
structure St where
 vars:List FV
 base:List ah
 loc:List ah
 aX:Bool
def St.heap (st:St):Ref->Option ah
 | .loc i=>st.loc[i]?
 | .old i=>(st.base++st.loc)[i]?
def St.bq (st:St)(p:Ref)(o:ah):St :=
 match p with
 | .loc i=>{st with loc:=st.loc.set i o}
 | .old i =>
  {st with base := if i < st.base.length then st.base.set i o else st.base,
            loc := if i < st.base.length then st.loc else st.loc.set (i - st.base.length) o, aX := true }
def ah.view (av sz off n:Nat):ah->Option (List D)
 | .row jO fE es | .h_ jO fE es=>if av=jO/\sz=fE/\off+n<=es.length then some ((es.drop off).take n) else none
 | _=>none
def elems (st:St)(sz:Nat):FV->Option (List D)
 | .d (.n fE)=>if sz=fE then some [] else none
 | .d (.s fE es)=>if sz=fE then some es else none
 | .z fE=>if sz=fE then some [] else none
 | .ls p av fE off n=>if sz=fE then(match st.heap p with | some o=>o.view av sz off n | none=>none) else none
 | _=>none
def leave1 (st:St):FV->Option FV
 | .d x=>some (.d x.di)
 | .z sz=>some (.d (.s sz []))
 | .ls p av sz off n=>match elems st sz (.ls p av sz off n) with
  | some es=>some (.d (.s sz es))
  | none=>none
 | x=>some x
def yL (st:St):List FV->Option (List FV)
 | []=>some []
 | x::r=>match leave1 st x,yL st r with
  | some y,some s=>some (y::s)
  | _,_=>none
def leaves (st:St):FV->Option FV
 | .d x=>some (.d x.norm)
 | .a cs=>match yL st cs with
  | some ds=>some (Qr ds)
  | none=>none
 | x=>leave1 st x
def gN (st:St):List FV->Option (List FV)
 | []=>some []
 | x::r=>match leaves st x,gN st r with
  | some y,some s=>some (y::s)
  | _,_=>none
def FV.om:FV->List Ref
 | .ls p _ _ _ _=>[p]
 | _=>[]
def FV.rows:FV->List Ref
 | .a cs=>cs.flatMap FV.om
 | .t cs=>cs.flatMap FV.om
 | x=>x.om
def ah.freeze:ah->ah
 | .row av sz es=>.h_ av sz es
 | o=>o
def aK (st:St):List Ref->St
 | []=>st
 | p::r=>match st.heap p with
  | some (.row av sz es)=>aK (st.bq p (.h_ av sz es)) r
  | _=>aK st r
def D.isV:D->Bool
 | .v _=>true
 | _=>false
def scalar:FV->Bool
 | .d (.v _)=>true
 | .d (.t vs)=>vs.all D.isV
 | _=>false
inductive Arg where
 | var (i:Nat)
 | loc (j:Nat)
 | c (x:D)
 | g (k:Nat)
 deriving Inhabited
inductive K where
 | Bh (x:Arg)
 | pick (c a b:Arg)
 | bin (op:BinOp) (x y:Arg)
 | beq (neg:Bool) (x y:Arg)
 | aeq (neg:Bool) (len:Nat) (x y:Arg)
 | x_ (kind:Nat) (neg:Bool) (x:Arg)
 | un (op:UnOp) (x:Arg)
 | conv (k:IntKind) (x:Arg)
 | box (x:Arg)
 | new (z:List D)
 | load (agg:Bool) (n:Nat) (p:Arg)
 | store (n:Nat) (p x:Arg)
 | Lf (off:Nat) (agg:Bool) (n:Nat) (p:Arg)
 | field (off:Nat) (agg:Bool) (n:Nat) (x:Arg)
 | Qd (sz:Nat) (x i:Arg)
 | Qe (len sz:Nat) (agg:Bool) (x i:Arg)
 | index (len sz:Nat) (agg:Bool) (x i:Arg)
 | vO (x i:Arg)
 | build (z:List D) (parts:List (Nat × Nat × Arg))
 | lit (sz:Nat) (agg:Bool) (z:List D) (len:Nat) (parts:List (Nat × Arg))
 | Yc (sz:Nat) (agg:Bool) (z:List D) (len:Nat) (parts:List (Nat × Arg))
 | len (x:Arg)
 | abS (x:Arg)
 | cap (x:Arg)
 | maxi (x y:Arg)
 | abT (x y:Arg)
 | app (sz bytes:Nat) (x y:Arg)
 | slice (sz:Nat) (x:Arg) (lo hi:Option Arg)
 | IJ (x:Arg) (lo hi:Option Arg)
 | mk (sz bytes:Nat) (agg:Bool) (z:List D) (len cap:Arg)
 | ext (x:Arg) (i:Nat)
 | clo (g:Nat) (first captured:List Arg)
 | call (g:Nat) (args:List Arg)
 | mE (f:Arg) (args:List Arg)
 | rJ (g:Nat) (args:List Arg)
 | mF (f:Arg) (args ps:List Arg)
 | jL (agg:Bool) (n:Nat) (p:Arg)
 | stop
 | Yd (sz bytes:Nat) (agg:Bool) (z:List D) (x n:Arg)
 | Lg
 | Ye (ok:Bool) (kind:Nat) (z:D) (m k:Arg)
 | Oh (kind:Nat) (m k x:Arg)
 | clr (sz:Nat) (agg:Bool) (z:List D) (x:Arg)
 | jl (n:Nat) (p x:Arg) (ps:List Arg)
 | nO (agg:Bool) (n:Nat) (p:Arg) (ps:List Arg)
 deriving Inhabited
def K.loud (q:Bool):K->Bool
 | .app _ _ (.c (.n _)) _=>false
 | .store .. | .app .. | .Oh .. | .mF .. | .clr .. | .jl ..=>true
 | .call .. | .mE .. | .rJ .. => !q
 | _=>false
def K.mem:K->Bool
 | .lit _ _ _ nn _=>nn==0
 | .Yc ..=>true
 | .store .. | .app .. | .call .. | .mE .. | .rJ .. | .mF .. | .jL .. | .nO .. | .load .. | .box .. | .new .. | .mk .. | .Yd .. | .Lg | .Ye .. | .Oh .. | .clr .. | .jl ..=>true
 | _=>false
structure jE where
 q:Bool
 guard:Option (Nat × Bool)
 k:K
 deriving Inhabited
inductive aF where
 | skip
 | region (ops:List jE) (outs apart:List (Nat × Nat))
 | seq (a b:aF)
 | cond (c:Arg) (a b:aF)
 | block (id:Nat) (b:aF)
 | loop (b:aF)
 | exit (id:Nat)
 | ret
 | kill (js:List Nat)
 deriving Inhabited
inductive Res where
 | var (j:Nat)
 | cell (j:Nat) (agg:Bool) (n:Nat)
 deriving Inhabited
structure bO where
 np:Nat
 nv:Nat
 ref:Bool
 res:List Res
 body:aF
 deriving Inhabited
abbrev bJ:=Option (FV × Option (List ah))
structure Env where
 fn:Nat->Option bO
 eG:Nat->Option D
 jq:Nat->Option (List D->Option D)
 iO:Nat->Option (List FV->List ah->bJ)
 mn:Prop:=False
 deq:(a b:List ah)->Decidable (a=b):=fun a b=>Classical.propDecidable (a=b)
def dw (E:Env)(st:St)(env:List FV):Arg->Option FV
 | .var i=>st.vars[i]?
 | .loc j=>env[j]?
 | .c x=>some (.d x)
 | .g k=>match E.eG k with
  | some x=>some (.rc x)
  | none=>none
def fF (E:Env)(st:St)(env:List FV):List Arg->Option (List FV)
 | []=>some []
 | x::r=>match dw E st env x,fF E st env r with
  | some y,some s=>some (y::s)
  | _,_=>none
def iB (op:BinOp)(x y:Value):Option Value :=
 match x,y with
 | .int k a,.int k' b =>
  match op with
  | .shl=>if b<0 then none else some (.int k (k.wrap (a*2 ^ (min b.toNat k.bits))))
  | .shr=>if b<0 then none else some (.int k (a.fdiv (2 ^ (min b.toNat k.bits))))
  | op =>
   if k=k' then
    match op with
    | .add=>some (.int k (k.wrap (a+b)))
    | .sub=>some (.int k (k.wrap (a-b)))
    | .mul=>some (.int k (k.wrap (a*b)))
    | .quo=>if b=0 then none else some (.int k (k.wrap (a.tdiv b)))
    | .rem=>if b=0 then none else some (.int k (a.tmod b))
    | .and=>some (.int k (k.wrap (BitVec.ofInt k.bits a &&& BitVec.ofInt k.bits b).toNat))
    | .or=>some (.int k (k.wrap (BitVec.ofInt k.bits a ||| BitVec.ofInt k.bits b).toNat))
    | .xor=>some (.int k (k.wrap (BitVec.ofInt k.bits a ^^^ BitVec.ofInt k.bits b).toNat))
    | .andNot=>some (.int k (k.wrap (BitVec.ofInt k.bits a &&& ~~~ BitVec.ofInt k.bits b).toNat))
    | .eql=>some (.bool (a==b))
    | .neq=>some (.bool (a != b))
    | .lss=>some (.bool (a<b))
    | .leq=>some (.bool (a<=b))
    | .gtr=>some (.bool (a > b))
    | .geq=>some (.bool (a ≥ b))
    | _=>none
   else none
 | .string a,.string b =>
  match op with
  | .add=>if ((a.size+b.size:Nat):Int) > IntKind.i64.max then none else some (.string (a++b))
  | .eql=>some (.bool (a.toList==b.toList))
  | .neq=>some (.bool !(a.toList==b.toList))
  | .lss=>some (.bool (Op.bytesLess a.toList b.toList))
  | .leq=>some (.bool (Op.bytesLess a.toList b.toList||a.toList==b.toList))
  | .gtr=>some (.bool !(Op.bytesLess a.toList b.toList||a.toList==b.toList))
  | .geq=>some (.bool !(Op.bytesLess a.toList b.toList))
  | _=>none
 | _,_=>none
def unV (op:UnOp)(x:Value):Option Value :=
 match op,x with
 | .neg,.int k n=>some (.int k (k.wrap (0-n)))
 | .xor,.int k n=>some (.int k (k.wrap (BitVec.ofInt k.bits (if k.signed then -1 else k.max) ^^^ BitVec.ofInt k.bits n).toNat))
 | .not,.bool b=>some (.bool !b)
 | _,_=>none
def dL:List D->List D->Option Bool
 | [],[]=>some true
 | .v (.int k a)::r,.v (.int k' b)::s=>if k=k' then(match dL r s with | some t=>some (a==b&&t) | none=>none) else none
 | _,_=>none
def lM:Nat->D->D->Option Bool
 | 0,.v (.int k a),.v (.int k' b)=>if k=k' then some (a==b) else none
 | 1,.v (.string a),.v (.string b)=>some (a==b)
 | n+2,.a p,.a q=>if p.length=n then dL p q else none
 | _,_,_=>none
def mr:Nat->D->Bool
 | 0,.v (.int _ _)=>true
 | 1,.v (.string _)=>true
 | n+2,.a p=>p.length==n&&(dL p p).isSome
 | _,_=>false
def Ac (kind:Nat)(k:D):List (D × D)->Option (Option D)
 | []=>some none
 | e::r=>match lM kind k e.1 with
  | some true=>some (some e.2)
  | some false=>Ac kind k r
  | none=>none
def JW (kind:Nat)(k x:D):List (D × D)->Option (List (D × D))
 | []=>some [(k,x)]
 | e::r=>match lM kind k e.1 with
  | some true=>some ((k,x)::r)
  | some false=>match JW kind k x r with
   | some s=>some (e::s)
   | none=>none
  | none=>none
def BN (cells:List FV):List (Nat × Nat × FV)->Option (List FV)
 | []=>some cells
 | (off,size,x)::r =>
  if x.cells.length=size/\off+size<=cells.length/\x.cells.all FV.one then BN (splice cells off x.cells) r else none
def jP (agg:Bool)(sz:Nat)(x:FV):Option D :=
 match x with
 | .d y=>match y.norm with
  | .a cs=>if agg/\cs.length=sz/\cs.all D.one then some (.a cs) else none
  | z=>if !agg/\sz=1/\z.one then some z else none
 | _=>none
def m_ (es:List D):List (Nat × D)->Option (List D)
 | []=>some es
 | (i,x)::r=>if i<es.length then m_ (es.set i x) r else none
def most:Nat:=2 ^ 40
def G5:FV->Option Int
 | .d (.v (.int _ n))=>some n
 | _=>none
def St.push (st:St)(o:ah):St:={st with loc:=st.loc++[o]}
def eT (rec:Nat->List FV->List ah->bJ)(draw:Bool)(st:St)(g:Nat)(xs:List FV)(rows:List Ref):Option (FV × St) :=
 match rec g xs [] with
 | some (v,none)=>if scalar v\/rows=[] then some (v,st) else if draw then none else some (v,aK st rows)
 | some (v,some B)=>if rows=[] then some (v.shift st.loc.length,{st with loc:=st.loc++B.map (ah.shift st.loc.length)})
  else if draw then none else some (v.shift st.loc.length,{aK st rows with loc:=(aK st rows).loc++B.map (ah.shift st.loc.length)})
 | none=>none
def BM (n:Nat):FV->FV
 | .ls (.old i) av sz off len=>if n<=i then .ls (.loc (i-n)) av sz off len else .ls (.old i) av sz off len
 | v=>v
def dE (rec:Nat->List FV->List ah->bJ)(draw:Bool)(st:St)(g:Nat)(xs:List FV)(rows:List Ref):Option (FV × St) :=
 match rec g (FV.aP st.base.length xs) (((aK st rows).base++(aK st rows).loc).map (ah.az st.base.length)) with
 | some (v,none)=>if scalar v\/rows=[] then some (v,st) else if draw then none else some (v,aK st rows)
 | some (v,some B)=>if draw then none else some (BM st.base.length v,{st with base:=B.take st.base.length,loc:=B.drop st.base.length,aX:=st.aX||decide (0<st.base.length)})
 | none=>none
def gz (rec:Nat->List FV->List ah->bJ)(draw:Bool)(st:St)(g:Nat)(args:List FV):Option (FV × St) :=
 match gN st args with
 | none=>none
 | some xs=>if (jN xs).isSome then eT rec draw st g xs (args.flatMap FV.rows) else dE rec draw st g xs (args.flatMap FV.rows)
def eB (E:Env)(rec:Nat->List FV->List ah->bJ)(st:St)(g:Nat)(args:List FV):Option (FV × St) :=
 match gN st args with
 | none=>none
 | some xs=>if (args.flatMap FV.rows).isEmpty then(if (jN xs).isSome then eT rec true st g xs [] else
  match rec g (FV.aP st.base.length xs) ((st.base++st.loc).map (ah.az st.base.length)) with
  | some (v,none)=>some (v,st)
  | some (v,some B)=>@ite _ ((B.drop st.base.length).take st.loc.length=st.loc.map (ah.az st.base.length)) (E.deq _ _)
    (some (BM st.base.length v,{st with base:=B.take st.base.length,loc:=st.loc++B.drop (st.base.length+st.loc.length),aX:=st.aX||decide (0<st.base.length)})) none
  | none=>none) else none
def ic (E:Env)(st:St)(env:List FV):List Arg->Bool
 | []=>true
 | a::r=>(match dw E st env a with
  | some (.r (.loc _) _)=>true
  | _=>false)&&ic E st env r
def kJ:FV->Bool
 | .d _=>true
 | _=>false
def kL (x:Option Arg)(dflt:Int)(get:Arg->Option FV):Option Int :=
 match x with
 | none=>some dflt
 | some a=>match get a with
  | some v=>G5 v
  | none=>none
def Dt (st:St):FV->Bool
 | .d _=>true
 | .r p _ | .ls p _ _ _ _ | .m p=>decide (p.abs st.base.length<st.base.length+st.loc.length)
 | _=>false
def mJ (E:Env)(draw:Bool)(st:St)(env:List FV)(agg:Bool)(n:Nat)(p:Arg):Option (FV × St) :=
 match dw E st env p with
  | some (.r q off)=>match st.heap q with
   | some (.box cs)=>match rY cs agg off n with
    | some v=>if draw && !kJ v then none else some (v,st)
    | none=>none
   | _=>none
  | some (.e q av sz i off)=>match st.heap q with
   | some (.row jO fE es)=>if av=jO/\sz=fE then(match es[i]? with
     | some x=>match iI x.cells agg off n with
      | some v=>some (.d v,st)
      | none=>none
     | none=>none) else none
   | some (.h_ jO fE es)=>if av=jO/\sz=fE then(match es[i]? with
     | some x=>match iI x.cells agg off n with
      | some v=>some (.d v,st)
      | none=>none
     | none=>none) else none
   | _=>none
  | some (.rc x)=>match iI x.cells agg 0 n with
   | some v=>some (.d v,st)
   | none=>none
  | _=>none
def checked (st:St):Option (FV × St)->Option (FV × St)
 | some (v,s)=>if Dt st v then some (v,s) else none
 | none=>none
def BL (E:Env)(st:St)(env:List FV)(n:Nat)(p x:Arg):Option (FV × St) :=
 match dw E st env p,dw E st env x with
  | some (.r q off),some v=>match st.heap q with
   | some (.box cs) =>
    if v.cells.length=n/\off+n<=cs.length/\v.cells.all FV.one then some (.d (.t []),st.bq q (.box (splice cs off v.cells))) else none
   | _=>none
  | some (.e q av sz i off),some (.d v)=>match st.heap q with
   | some (.row jO fE es) =>
    if av=jO/\sz=fE then(match es[i]? with
     | some (.a cs)=>if v.norm.cells.length=n/\off+n<=cs.length/\v.norm.cells.all D.one then
       some (.d (.t []),st.bq q (.row av sz (es.set i (.a (splice cs off v.norm.cells))))) else none
     | some _=>if n=1/\off=0/\v.norm.one then some (.d (.t []),st.bq q (.row av sz (es.set i v.norm))) else none
     | none=>none) else none
   | _=>none
  | _,_=>none
def FV.target:FV->Option Ref
 | .r q _=>some q
 | .e q _ _ _ _=>some q
 | _=>none
def mi (E:Env)(st:St)(env:List FV)(p:Arg):List Arg->Bool
 | []=>true
 | b::r=>(match dw E st env p,dw E st env b with
  | some x,some y=>(match x.target,y.target with
   | some q,some q'=>q.abs st.base.length != q'.abs st.base.length
   | some _,none=>true
   | _,_=>false)
  | _,_=>false)&&mi E st env p r
def mR (E:Env)(st:St)(env:List FV)(p:Arg):List Arg->Bool
 | []=>true
 | b::r=>(match dw E st env p,dw E st env b with
  | some x,some (.ls q _ _ _ _)=>(match x.target with
   | some q'=>q.abs st.base.length != q'.abs st.base.length
   | none=>true)
  | some _,some (.d _)=>true
  | _,_=>false)&&mR E st env p r
def runK (E:Env)(rec:Nat->List FV->List ah->bJ)(draw:Bool)(st:St)(env:List FV)(k:K):Option (FV × St) :=
 let A:=dw E st env
 match k with
 | .Bh x=>match A x with
  | some v=>some (v,st)
  | none=>none
 | .pick c a b=>match A c with
  | some (.d (.v (.bool t)))=>match A (if t then a else b) with
   | some v=>some (v,st)
   | none=>none
  | _=>none
 | .bin op x y=>match A x,A y with
  | some (.d (.v p)),some (.d (.v q))=>match iB op p q with
   | some v=>some (.d (.v v),st)
   | none=>none
  | _,_=>none
 | .beq neg x y=>match A x,A y with
  | some (.d (.v (.bool p))),some (.d (.v (.bool q)))=>some (.d (.v (.bool (if neg then !(p==q) else p==q))),st)
  | _,_=>none
 | .aeq neg len x y=>match A x,A y with
  | some (.d (.a p)),some (.d (.a q))=>if p.length=len then(match dL p q with
   | some t=>some (.d (.v (.bool (if neg then !t else t))),st)
   | none=>none) else none
  | _,_=>none
 | .x_ kind neg x=>match kind,A x with
  | 0,some (.d (.n _))=>some (.d (.v (.bool (!neg))),st)
  | 0,some (.d (.s _ (_::_)))=>some (.d (.v (.bool neg)),st)
  | 0,some (.z _)=>some (.d (.v (.bool neg)),st)
  | 1,some (.d (.v .nilIface))=>some (.d (.v (.bool (!neg))),st)
  | 1,some (.d .i)=>some (.d (.v (.bool neg)),st)
  | _,_=>none
 | .un op x=>match A x with
  | some (.d (.v p))=>match unV op p with
   | some v=>some (.d (.v v),st)
   | none=>none
  | _=>none
 | .conv k x=>match A x with
  | some (.d (.v (.int _ n)))=>some (.d (.v (.int k (k.wrap n))),st)
  | _=>none
 | .box x=>match A x with
  | some v=>if v.cells.all FV.one then some (.r (.loc st.loc.length) 0,st.push (.box v.cells)) else none
  | none=>none
 | .new z=>some (.r (.loc st.loc.length) 0,st.push (.box (z.map .d)))
 | .load agg n p=>match A p with
  | some (.r q off)=>match st.heap q with
   | some (.box cs)=>match rY cs agg off n with
    | some v=>if draw && !kJ v then none else some (v,st)
    | none=>none
   | _=>none
  | some (.e q av sz i off)=>match st.heap q with
   | some (.row jO fE es)=>if av=jO/\sz=fE then(match es[i]? with
     | some x=>match iI x.cells agg off n with
      | some v=>some (.d v,st)
      | none=>none
     | none=>none) else none
   | some (.h_ jO fE es)=>if av=jO/\sz=fE then(match es[i]? with
     | some x=>match iI x.cells agg off n with
      | some v=>some (.d v,st)
      | none=>none
     | none=>none) else none
   | _=>none
  | some (.rc x)=>match iI x.cells agg 0 n with
   | some v=>some (.d v,st)
   | none=>none
  | _=>none
 | .store n p x=>match A p,A x with
  | some (.r q off),some v=>match st.heap q with
   | some (.box cs) =>
    if v.cells.length=n/\off+n<=cs.length/\v.cells.all FV.one then some (.d (.t []),st.bq q (.box (splice cs off v.cells))) else none
   | _=>none
  | some (.e q av sz i off),some (.d v)=>match st.heap q with
   | some (.row jO fE es) =>
    if av=jO/\sz=fE then(match es[i]? with
     | some (.a cs)=>if v.norm.cells.length=n/\off+n<=cs.length/\v.norm.cells.all D.one then
       some (.d (.t []),st.bq q (.row av sz (es.set i (.a (splice cs off v.norm.cells))))) else none
     | some _=>if n=1/\off=0/\v.norm.one then some (.d (.t []),st.bq q (.row av sz (es.set i v.norm))) else none
     | none=>none) else none
   | _=>none
  | _,_=>none
 | .Lf off agg n p=>match A p with
  | some (.r q o)=>some (.r q (o+off),st)
  | some (.e q av sz i o)=>some (.e q av sz i (o+off),st)
  | some (.rc x)=>match iI x.cells agg off n with
   | some v=>some (.rc v,st)
   | none=>none
  | _=>none
 | .field off agg n x=>match A x with
  | some (.a cs)=>match rY cs agg off n with
   | some v=>some (v,st)
   | none=>none
  | some (.d (.a cs))=>match iI cs agg off n with
   | some v=>some (.d v,st)
   | none=>none
  | _=>none
 | .Qd sz x i=>match A x,A i with
  | some (.ls q av fE off n),some (.d (.v (.int _ j)))=>if sz=fE/\0<=j/\j<n then some (.e q av sz (off+j.toNat) 0,st) else none
  | some (.d (.s fE es)),some (.d (.v (.int _ j)))=>if sz=fE/\0<=j then(match es[j.toNat]? with
    | some x=>some (.rc x,st)
    | none=>none) else none
  | _,_=>none
 | .Qe len sz agg x i=>match A x,A i with
  | some (.r q o),some (.d (.v (.int _ j)))=>if 0<=j/\j<len then some (.r q (o+j.toNat*sz),st) else none
  | some (.e q av s m o),some (.d (.v (.int _ j)))=>if 0<=j/\j<len then some (.e q av s m (o+j.toNat*sz),st) else none
  | some (.rc x),some (.d (.v (.int _ j)))=>if 0<=j/\j<len then(match iI x.cells agg (j.toNat*sz) sz with
    | some v=>some (.rc v,st)
    | none=>none) else none
  | _,_=>none
 | .index len sz agg x i=>match A x,A i with
  | some (.d (.a cs)),some (.d (.v (.int _ j)))=>if 0<=j/\j<len then(match iI cs agg (j.toNat*sz) sz with
    | some v=>some (.d v,st)
    | none=>none) else none
  | _,_=>none
 | .vO x i=>match A x,A i with
  | some (.d (.v (.string s))),some (.d (.v (.int _ j)))=>if 0<=j then(match s[j.toNat]? with
    | some b=>some (.d (.v (.int .u8 b.toNat)),st)
    | none=>none) else none
  | _,_=>none
 | .build z parts=>match fF E st env (parts.map (·.2.2)) with
  | some xs=>match BN (z.map .d) (((parts.map (·.1)).zip ((parts.map (·.2.1)).zip xs))) with
   | some cs=>some (Qr cs,st)
   | none=>none
  | none=>none
 | .lit sz agg z len parts=>match fF E st env (parts.map (·.2)) with
  | some xs=>match xs.mapM (jP agg sz) with
   | some ys=>match m_ (List.replicate len (if agg then .a z else z.headD (.t []))) ((parts.map (·.1)).zip ys) with
    | some es=>if len=0 then some (.ls (.loc st.loc.length) 0 sz 0 0,st.push (.row 0 sz [])) else some (.d (.s sz es),st)
    | none=>none
   | none=>none
  | none=>none
 | .Yc sz agg z len parts=>match fF E st env (parts.map (·.2)) with
  | some xs=>match xs.mapM (jP agg sz) with
   | some ys=>match m_ (List.replicate len (if agg then .a z else z.headD (.t []))) ((parts.map (·.1)).zip ys) with
    | some es=>some (.ls (.loc st.loc.length) 0 sz 0 len,st.push (.row 0 sz es))
    | none=>none
   | none=>none
  | none=>none
 | .len x=>match A x with
  | some (.d (.n _))=>some (.d (.v (.int .i64 0)),st)
  | some (.d (.s _ es))=>some (.d (.v (.int .i64 es.length)),st)
  | some (.ls _ _ _ _ n)=>some (.d (.v (.int .i64 n)),st)
  | _=>none
 | .abS x=>match A x with
  | some (.d (.v (.string s)))=>some (.d (.v (.int .i64 s.size)),st)
  | _=>none
 | .cap x=>match A x with
  | some (.d (.n _))=>some (.d (.v (.int .i64 0)),st)
  | _=>none
 | .stop=>none
 | .Yd sz bytes agg z x n=>match A x,A n with
  | some (.d (.n fE)),some (.d (.v (.int _ l))) =>
   if sz=fE/\0<l/\l*bytes<=most/\l<=most then
    some (.ls (.loc st.loc.length) 0 sz 0 l.toNat,st.push (.row 0 sz (List.replicate l.toNat (if agg then .a z else z.headD (.t []))))) else none
  | _,_=>none
 | .maxi x y=>match A x,A y with
  | some (.d (.v (.int k a))),some (.d (.v (.int _ b)))=>some (.d (.v (.int k (if b > a then b else a))),st)
  | _,_=>none
 | .abT x y=>match A x,A y with
  | some (.d (.v (.int k a))),some (.d (.v (.int _ b)))=>some (.d (.v (.int k (if b<a then b else a))),st)
  | _,_=>none
 | .app sz bytes x y=>match A x,A y with
  | some v,some w=>match elems st sz w with
   | none=>none
   | some ys=>match v with
    | .d (.n fE)=>if sz=fE/\ys.length*bytes<=most/\ys.length<=most then
      (if ys.isEmpty then some (.d (.n sz),st) else some (.ls (.loc st.loc.length) 0 sz 0 ys.length,st.push (.row 0 sz ys))) else none
    | .ls q av fE off n=>match st.heap q with
     | some (.row jO Yf es)=>if sz=fE/\sz=Yf/\av=jO/\off+n<=es.length/\(n+ys.length)*bytes<=most/\n+ys.length<=most then
       some (.ls q (av+1) sz 0 (n+ys.length),st.bq q (.row (av+1) sz ((es.drop off).take n++ys))) else none
     | _=>none
    | _=>none
  | _,_=>none
 | .slice sz x lo hi=>match A x with
  | some (.d (.s fE es))=>match kL lo 0 A,kL hi es.length A with
   | some l,some h=>if sz=fE/\0<=l/\l<=h/\h<=es.length then some (.d (.s sz ((es.drop l.toNat).take (h.toNat-l.toNat))),st) else none
   | _,_=>none
  | some (.d (.n fE))=>match kL lo 0 A,kL hi 0 A with
   | some l,some h=>if sz=fE/\l=0/\h=0 then some (.d (.n sz),st) else none
   | _,_=>none
  | some (.ls q av fE off n)=>match kL lo 0 A,kL hi n A with
   | some l,some h=>if sz=fE/\0<=l/\l<=h/\h<=n then some (.ls q av sz (off+l.toNat) (h.toNat-l.toNat),st) else none
   | _,_=>none
  | _=>none
 | .IJ x lo hi=>match A x with
  | some (.d (.v (.string s)))=>match kL lo 0 A,kL hi s.size A with
   | some l,some h=>if 0<=l/\l<=h/\h<=s.size then some (.d (.v (.string (s.extract l.toNat h.toNat))),st) else none
   | _,_=>none
  | _=>none
 | .mk sz bytes agg z len cap=>match A len,A cap with
  | some (.d (.v (.int _ l))),some (.d (.v (.int _ c))) =>
   if 0<=l/\l<=c/\c*bytes<=most/\c<=most then
    some (.ls (.loc st.loc.length) 0 sz 0 l.toNat,st.push (.row 0 sz (List.replicate l.toNat (if agg then .a z else z.headD (.t []))))) else none
  | _,_=>none
 | .ext x i=>match A x with
  | some (.d (.t vs))=>match vs[i]? with
   | some v=>some (.d v,st)
   | none=>none
  | some (.t vs)=>match vs[i]? with
   | some v=>some (v,st)
   | none=>none
  | _=>none
 | .clo g first captured=>match fF E st env first,fF E st env captured with
  | some fs,some cs=>if fs.isEmpty/\cs.isEmpty then some (.d (.fn g),st) else some (.f g fs cs,st)
  | _,_=>none
 | .call g args=>match fF E st env args with
  | some xs=>gz rec draw st g xs
  | none=>none
 | .mE f args=>match A f,fF E st env args with
  | some (.d (.fn g)),some xs=>gz rec draw st g xs
  | some (.f g first captured),some xs=>gz rec draw st g (first++xs++captured)
  | _,_=>none
 | .rJ g args=>match fF E st env args with
  | some xs=>dE rec draw st g xs []
  | none=>none
 | .jL agg n p=>checked st (mJ E draw st env agg n p)
 | .nO agg n p ps=>if mR E st env p ps then checked st (mJ E draw st env agg n p) else none
 | .mF f args ps=>if ic E st env ps then(match A f,fF E st env args with
  | some (.d (.fn g)),some xs=>eB E rec st g xs
  | some (.f g first captured),some xs=>eB E rec st g (first++xs++captured)
  | _,_=>none) else none
 | .Lg=>some (.m (.loc st.loc.length),st.push (.map []))
 | .Ye ok kind z m k=>match A m,A k with
  | some (.m q),some (.d kd)=>if mr kind kd then(match st.heap q with
   | some (.map es)=>match Ac kind kd es with
    | some (some x)=>some (.d (if ok then .t [x,.v (.bool true)] else x),st)
    | some none=>some (.d (if ok then .t [z,.v (.bool false)] else z),st)
    | none=>none
   | _=>none) else none
  | _,_=>none
 | .Oh kind m k x=>match A m,A k,A x with
  | some (.m q),some (.d kd),some (.d v)=>if mr kind kd then(match st.heap q with
   | some (.map es)=>match JW kind kd v es with
    | some es'=>some (.d (.t []),st.bq q (.map es'))
    | none=>none
   | _=>none) else none
  | _,_,_=>none
 | .jl n p x ps=>if mi E st env p ps then BL E st env n p x else none
 | .clr sz agg z x=>match A x with
  | some (.d (.n fE))=>if sz=fE then some (.d (.t []),st) else none
  | some (.ls q av fE off n)=>if n=0 then some (.d (.t []),st) else(match st.heap q with
   | some (.row jO Yf es)=>if sz=fE/\sz=Yf/\av=jO/\off+n<=es.length then
     some (.d (.t []),st.bq q (.row av sz (splice es off (List.replicate n (if agg then .a z else z.headD (.t [])))))) else none
   | _=>none)
  | _=>none
def mh (env:List FV):Option (Nat × Bool)->Option Bool
 | none=>some true
 | some (j,want)=>match env[j]? with
  | some (.d (.v (.bool b)))=>some (b==want)
  | some (.d (.t []))=>some false
  | _=>none
def eu (E:Env)(rec:Nat->List FV->List ah->bJ):List jE->St->List FV->Option (St × List FV)
 | [],st,env=>some (st,env)
 | o::rest,st,env =>
  match mh env o.guard with
  | none=>none
  | some false=>eu E rec rest st (env++[.d (.t [])])
  | some true=>match runK E rec o.q st env o.k with
   | none=>none
   | some (v,st')=>eu E rec rest st' (env++[v])
def jC (vars:List FV)(env:List FV):List (Nat × Nat)->List FV
 | []=>vars
 | (i,j)::r=>jC (vars.set i (env.getD j .u)) env r
def mZ (vars:List FV):List Nat->List FV
 | []=>vars
 | i::r=>mZ (vars.set i .u) r
def lD (st:St):List (Nat × Nat)->Bool
 | []=>true
 | (i,j)::r=>(match st.vars[i]?,st.vars[j]? with
  | some (.r p _),some (.r q _)=>p.abs st.base.length != q.abs st.base.length
  | _,_=>false)&&lD st r
inductive Out where
 | norm
 | exit (id:Nat)
 | ret
 deriving DecidableEq,Inhabited
def GY (st:St):Res->Option FV
 | .var j=>st.vars[j]?
 | .cell j agg n=>match st.vars[j]? with
  | some (.r q off)=>match st.heap q with
   | some (.box cs)=>rY cs agg off n
   | _=>none
  | _=>none
def mo (st:St):List Res->Option (List FV)
 | []=>some []
 | x::r=>match GY st x,mo st r with
  | some y,some s=>some (y::s)
  | _,_=>none
def oneOf:List FV->FV
 | [y]=>y
 | ys=>rH ys
def fD (y:FV)(st:St):FV × Option (List ah) :=
 if kJ y && !st.aX then(y,none)
 else(y.az st.base.length,some ((st.base++st.loc).map (ah.az st.base.length)))
def finish (F:bO)(st:St):bJ :=
 match mo st F.res with
 | none=>none
 | some xs=>if F.ref then some (fD (oneOf xs) st) else match gN st xs with
  | none=>none
  | some ys=>some (fD (oneOf ys) (aK st (xs.flatMap FV.rows)))
def enter (E:Env)(g:Nat)(args:List FV)(B:List ah)(run:aF->St->Option (Out × St)):bJ :=
 match E.jq g with
 | some p=>match B,jN args with
  | [],some ds=>match p ds with
   | some v=>some (.d v,none)
   | none=>none
  | _,_=>none
 | none=>match E.fn g with
  | none=>match E.iO g with
   | some p=>match p args B with
    | some (v,some B')=>if B.length<=B'.length then some (v,some B') else none
    | r=>r
   | none=>none
  | some F =>
   if args.length=F.np then
    match run F.body {vars:=args++List.replicate (F.nv-F.np) .u,base:=B,loc:=[],aX:=false} with
    | some (.exit _,_)=>none
    | some (_,st')=>finish F st'
    | none=>none
   else none
def exec (E:Env):Nat->aF->St->Option (Out × St)
 | 0,_,_=>none
 | n+1,c,st =>
  let ak7:Nat->List FV->List ah->bJ:=fun g args B=>enter E g args B fun F st'=>exec E n F st'
  match c with
  | .skip=>some (.norm,st)
  | .region ops outs apart=>if lD st apart then(match eu E ak7 ops st [] with
   | some (st',env)=>some (.norm,{st' with vars:=jC st'.vars env outs})
   | none=>none) else none
  | .seq a b=>match exec E n a st with
   | some (.norm,st')=>exec E n b st'
   | r=>r
  | .cond x a b=>match dw E st [] x with
   | some (.d (.v (.bool t)))=>exec E n (if t then a else b) st
   | _=>none
  | .block id b=>match exec E n b st with
   | some (.exit id',st')=>if id'=id then some (.norm,st') else some (.exit id',st')
   | r=>r
  | .loop b=>match exec E n b st with
   | some (.norm,st')=>exec E n (.loop b) st'
   | r=>r
  | .exit id=>some (.exit id,st)
  | .ret=>some (.ret,st)
  | .kill js=>some (.norm,{st with vars:=mZ st.vars js})
def cz (E:Env)(n:Nat)(g:Nat)(args:List FV)(B:List ah):bJ:=enter E g args B (exec E n)
def aZ (P:Program)(t:TypeId):Option Nat :=
 match P.info? t with
 | some i=>some i.size
 | none=>none
def nP (P:Program)(t:TypeId):Option Nat :=
 match P.info? t with
 | some i=>some i.bytes
 | none=>none
def kV (P:Program)(t:TypeId):Option Bool :=
 match P.underlying t with
 | some (.struct _)=>some true
 | some (.array _ _)=>some true
 | some _=>some false
 | none=>none
def hints (P:Program):Nat->TypeId->List Nat
 | 0,_=>[]
 | d+1,t =>
  match P.underlying t with
  | some (.slice e)=>[(aZ P e).getD 0]
  | some (.struct fs)=>fs.toList.flatMap fun f=>hints P d f.type
  | some (.array n e)=>(List.replicate n (hints P d e)).flatten
  | _=>[0]
structure Cx where
 gid:FuncId->Option Nat
 vars:List Tmp
 kills:Nat->List Nat
 ntmps:Nat
 vD:FuncId->Bool:=fun _=>false
 isRef:Bool:=false
 Yg:Bool:=false
 far:Bool:=false
 lits:Bool:=false
def zL (cx:Cx)(hint:Nat):Value->Option D
 | .slice none 0 0=>some (.n hint)
 | .func (.func f) first captured=>if first.size=0/\captured.size=0 then(match cx.gid f with
  | some g=>some (.fn g)
  | none=>none) else none
 | .func _ _ _=>none
 | .tuple _=>none
 | .agg _=>none
 | x=>some (.v x)
def uQ (cx:Cx):List Nat->List Value->Option (List D)
 | _,[]=>some []
 | hs,x::r=>match zL cx (hs.headD 0) x,uQ cx hs.tail r with
  | some y,some s=>some (y::s)
  | _,_=>none
def IK (cx:Cx)(hs:List Nat):Value->Option D
 | .agg cs=>match uQ cx hs cs.toList with
  | some ds=>some (.a ds)
  | none=>none
 | x=>zL cx (hs.headD 0) x
def kg (cx:Cx)(P:Program)(t:TypeId):Option (List D) :=
 match P.info? t with
 | some i=>match i.zero with
  | some z=>uQ cx (hints P 8 t) z.cells.toList
  | none=>none
 | none=>none
def gu (aL:List (Option Tmp))(t:Tmp):Option Nat :=
 match aL.reverse.idxOf? (some t) with
 | some i=>some (aL.length-1-i)
 | none=>none
def jb (P:Program)(cx:Cx)(aL:List (Option Tmp))(ty:TypeId):Operand->Option Arg
 | .tmp t=>match gu aL t with
  | some j=>some (.loc j)
  | none=>match cx.vars.idxOf? t with
   | some j=>some (.var j)
   | none=>none
 | .const v=>match IK cx (hints P 8 ty) v with
  | some x=>some (.c x)
  | none=>none
 | .func f=>match cx.gid f with
  | some g=>some (.c (.fn g))
  | none=>none
 | .global k=>some (.g k)
def iC (P:Program)(cx:Cx)(aL:List (Option Tmp)):List TypeId->List Operand->Option (List Arg)
 | _,[]=>some []
 | yg,x::r=>match jb P cx aL (yg.headD 0) x,iC P cx aL yg.tail r with
  | some y,some s=>some (y::s)
  | _,_=>none
def wE (P:Program)(cx:Cx)(aL:List (Option Tmp)):Option Operand->Option (Option Arg)
 | none=>some none
 | some x=>match jb P cx aL 0 x with
  | some y=>some (some y)
  | none=>none
def qW (P:Program)(cx:Cx)(aL:List (Option Tmp))(place:Nat->Option (Nat × TypeId)):List (Nat × Operand)->Option (List (Nat × Nat × Arg))
 | []=>some []
 | (i,x)::r=>match place i with
  | none=>none
  | some (off,ty)=>match aZ P ty,jb P cx aL ty x,qW P cx aL place r with
   | some n,some y,some s=>some ((off,n,y)::s)
   | _,_,_=>none
def Qf (P:Program)(cx:Cx)(aL:List (Option Tmp))(op:BinOp)(xType:TypeId)(x y:Operand)(yType:TypeId):Option K :=
 match jb P cx aL xType x,jb P cx aL yType y with
 | some a,some b=>match P.underlying xType with
  | some (.int _)=>some (.bin op a b)
  | some .string=>some (.bin op a b)
  | some .bool=>match op with
   | .eql=>some (.beq false a b)
   | .neq=>some (.beq true a b)
   | _=>none
  | some (.array len e)=>match op,P.underlying e,aZ P e with
   | .eql,some (.int _),some 1=>if P.eqGuardType P.depth xType then none else some (.aeq false len a b)
   | .neq,some (.int _),some 1=>if P.eqGuardType P.depth xType then none else some (.aeq true len a b)
   | _,_,_=>none
  | some (.slice _)=>match y,op with
   | .const (.slice none 0 0),.eql=>some (.x_ 0 false a)
   | .const (.slice none 0 0),.neq=>some (.x_ 0 true a)
   | _,_=>none
  | some (.interface _)=>match y,op with
   | .const .nilIface,.eql=>some (.x_ 1 false a)
   | .const .nilIface,.neq=>some (.x_ 1 true a)
   | _,_=>none
  | _=>none
 | _,_=>none
def Lh (P:Program)(k:TypeId):Option Nat :=
 match P.underlying k with
 | some (.int _)=>some 0
 | some .string=>some 1
 | some (.array n e)=>match P.underlying e,aZ P e with
  | some (.int _),some 1=>some (n+2)
  | _,_=>none
 | _=>none
def zeroV (cx:Cx)(P:Program)(e:TypeId):Option D :=
 match P.info? e with
 | some i=>match i.zero with
  | some z=>IK cx (hints P 8 e) z
  | none=>none
 | none=>none
def aY (P:Program)(cx:Cx)(aL:List (Option Tmp))(o:Oper):Option K :=
 let A:=jb P cx aL
 match o.op with
 | .move x | .assign x=>match A o.type x with
  | some a=>some (.Bh a)
  | none=>none
 | .pick c a b=>match A 0 c,A o.type a,A o.type b with
  | some c,some a,some b=>some (.pick c a b)
  | _,_,_=>none
 | .alloc e=>match kg cx P e with
  | some z=>some (.new z)
  | none=>none
 | .box e x=>match A e x with
  | some a=>some (.box a)
  | none=>none
 | .load t x=>match A 0 x,kV P t,aZ P t with
  | some a,some g,some n=>some (.load g n a)
  | _,_,_=>none
 | .store t x y=>match A 0 x,A t y,aZ P t with
  | some a,some b,some n=>some (.store n a b)
  | _,_,_=>none
 | .nilCheck x=>match A 0 x with
  | some a=>some (.Lf 0 false 1 a)
  | none=>none
 | .fieldAddr s x i=>match P.underlying s with
  | some (.struct fs)=>match fs[i]? with
   | some f=>match A 0 x,kV P f.type,aZ P f.type with
    | some a,some g,some n=>if n=0 then none else some (.Lf f.offset g n a)
    | _,_,_=>none
   | none=>none
  | _=>none
 | .field s x i=>match P.underlying s with
  | some (.struct fs)=>match fs[i]? with
   | some f=>match A s x,kV P f.type,aZ P f.type with
    | some a,some g,some n=>some (.field f.offset g n a)
    | _,_,_=>none
   | none=>none
  | _=>none
 | .indexAddr t x ix=>match P.underlying t with
  | some (.slice e)=>match A t x,A 0 ix,aZ P e with
   | some a,some b,some n=>some (.Qd n a b)
   | _,_,_=>none
  | some (.array len e)=>match A 0 x,A 0 ix,aZ P e,kV P e with
   | some a,some b,some n,some g=>some (.Qe len n g a b)
   | _,_,_,_=>none
  | _=>none
 | .index t x ix=>match P.underlying t with
  | some (.array len e)=>match A t x,A 0 ix,aZ P e,kV P e with
   | some a,some b,some n,some g=>some (.index len n g a b)
   | _,_,_,_=>none
  | some .string=>match A t x,A 0 ix with
   | some a,some b=>some (.vO a b)
   | _,_=>none
  | _=>none
 | .build t parts=>match P.underlying t,kg cx P t with
  | some (.struct fs),some z=>if fs.toList.any (fun f=>(aZ P f.type).isNone) then none else match qW P cx aL (fun i=>match fs[i]? with | some f=>some (f.offset,f.type) | none=>none) parts.toList with
   | some ps=>some (.build z ps)
   | none=>none
  | some (.array _ e),some z=>match aZ P e with
   | some n=>match qW P cx aL (fun i=>some (i*n,e)) parts.toList with
    | some ps=>some (.build z ps)
    | none=>none
   | none=>none
  | _,_=>none
 | .buildSlice t len parts=>match P.underlying t with
  | some (.slice e)=>match aZ P e,kV P e,kg cx P e,iC P cx aL (parts.toList.map fun _=>e) (parts.toList.map (·.2)) with
   | some n,some g,some z,some as=>if n=0\/len > 1000\/n > 1000\/z.length≠n\/(g=false/\n≠1) then none else some (bif cx.lits then .Yc n g (z.map D.di) len ((parts.toList.map (·.1)).zip as) else .lit n g (z.map D.di) len ((parts.toList.map (·.1)).zip as))
   | _,_,_,_=>none
  | _=>none
 | .makeSlice t l c=>match P.underlying t with
  | some (.slice e)=>match aZ P e,nP P e,kV P e,kg cx P e,A 0 l,A 0 c with
   | some n,some b,some g,some z,some a,some a'=>if n=0\/z.length≠n\/(g=false/\n≠1) then none else some (.mk n b g (z.map D.di) a a')
   | _,_,_,_,_,_=>none
  | _=>none
 | .slice t x lo hi none=>match P.underlying t with
  | some (.slice e)=>match aZ P e,A t x,wE P cx aL lo,wE P cx aL hi with
   | some n,some a,some l,some h=>if n=0 then none else some (.slice n a l h)
   | _,_,_,_=>none
  | some .string=>match A t x,wE P cx aL lo,wE P cx aL hi with
   | some a,some l,some h=>some (.IJ a l h)
   | _,_,_=>none
  | _=>none
 | .extract x i=>match A 0 x with
  | some a=>some (.ext a i)
  | none=>none
 | .makeFunc (.func f) first captured=>match cx.gid f,iC P cx aL [] first.toList,iC P cx aL [] captured.toList with
  | some g,some fs,some cs=>some (.clo g fs cs)
  | _,_,_=>none
 | .binOp op xType x y yType=>Qf P cx aL op xType x y yType
 | .unOp op t x=>match A t x with
  | some a=>some (.un op a)
  | none=>none
 | .convert src dst x=>match P.underlying src,P.underlying dst with
  | some (.int _),some (.int k)=>match A src x with
   | some a=>some (.conv k a)
   | none=>none
  | _,_=>none
 | .panic _=>some .stop
 | .makeInterface _ _=>some .stop
 | .makeMap t none=>match P.underlying t with
  | some (.map _ _)=>some .Lg
  | _=>none
 | .lookup t x ix ok=>match P.underlying t with
  | some (.map k e)=>match A t x,A k ix,zeroV cx P e,Lh P k with
   | some a,some b,some z,some kind=>some (.Ye ok kind z a b)
   | _,_,_,_=>none
  | _=>none
 | .mapUpdate t m k x=>match P.underlying t with
  | some (.map kt e)=>match A t m,A kt k,A e x,Lh P kt with
   | some a,some b,some c,some kind=>some (.Oh kind a b c)
   | _,_,_,_=>none
  | _=>none
 | .call c=>match c.callee with
  | .value (.func f)=>match cx.gid f,iC P cx aL c.argTypes.toList c.args.toList with
   | some g,some as=>some (if cx.vD f then .rJ g as else if cx.Yg&&cx.far then .mE (.c (.fn g)) as else .call g as)
   | _,_=>none
  | .value x=>match A 0 x,iC P cx aL c.argTypes.toList c.args.toList with
   | some f,some as=>some (.mE f as)
   | _,_=>none
  | .builtin b=>match b,c.argTypes.toList,c.args.toList with
   | .len,[t],[x]=>match P.underlying t with
    | some (.slice _)=>(A t x).map .len
    | some .string=>(A t x).map .abS
    | _=>none
   | .cap,[t],[x]=>match P.underlying t with
    | some (.slice _)=>(A t x).map .cap
    | _=>none
   | .clear,[t],[x]=>match P.underlying t with
    | some (.slice e)=>match aZ P e,kV P e,kg cx P e,A t x with
     | some n,some g,some z,some a=>if n=0\/z.length≠n\/(g=false/\n≠1) then none else some (.clr n g (z.map D.di) a)
     | _,_,_,_=>none
    | _=>none
   | .max,[t,u],[x,y]=>match P.underlying t,A t x,A u y with
    | some (.int _),some a,some b=>some (.maxi a b)
    | _,_,_=>none
   | .min,[t,u],[x,y]=>match P.underlying t,A t x,A u y with
    | some (.int _),some a,some b=>some (.abT a b)
    | _,_,_=>none
   | .append,[t,u],[x,y]=>match P.underlying t,P.underlying u with
    | some (.slice e),some (.int _)=>(match aZ P e,nP P e,kV P e,kg cx P e,A t x,A u y with
     | some n,some b,some g,some z,some a,some a'=>if n=0\/z.length≠n\/(g=false/\n≠1) then none else some (.Yd n b g (z.map D.di) a a')
     | _,_,_,_,_,_=>none)
    | some (.slice e),some (.slice e')=>if e=e' then(match aZ P e,nP P e,kg cx P e,A t x,A u y with
     | some n,some b,some z,some a,some a'=>if n=0\/z.length≠n then none else some (.app n b a a')
     | _,_,_,_,_=>none) else none
    | _,_=>none
   | _,_,_=>none
  | _=>none
 | _=>none
def qX (aL:List (Option Tmp)):Option (Nat × Bool)->Bool
 | none=>true
 | some (j,_)=>match aL[j]? with
  | some (some t)=>gu aL t==some j
  | _=>false
def xR (cx:Cx):Option Tmp->Bool
 | none=>true
 | some t=>decide (t<cx.ntmps)
def Oi (ms:List Nat)(o:Oper):Nat :=
 o.after.toList.foldl (fun s e=>if Region.binds .any e then s ||| (2 ^ e.on ||| ms.getD e.on 0) else s) 0
def masks:List Oper->List Nat->List Nat
 | [],ms=>ms
 | o::r,ms=>masks r (ms++[Oi ms o])
def comparable (ms:List Nat)(i j:Nat):Bool :=
 if i<j then(ms.getD j 0).testBit i else(ms.getD i 0).testBit j
def mP (P:Program)(cx:Cx):List Oper->List (Option Tmp)->Option (List jE)
 | [],_=>some []
 | o::r,aL=>if qX aL o.guard&&xR cx o.dst then(match aY P cx aL o,mP P cx r (aL++[o.dst]) with
  | some k,some ks=>some (⟨false,o.guard,k⟩::ks)
  | _,_=>none) else none
def K.afj:K->Bool
 | .call .. | .mE .. | .rJ ..=>true
 | _=>false
def K.isLoad:K->Bool
 | .load ..=>true
 | _=>false
def K.abU:K->Bool
 | .store ..=>true
 | _=>false
def mU (ms:List Nat)(ks:List jE):List jE :=
 ks.zipIdx.map fun x=>{x.1 with q:=ks.zipIdx.any fun y=>y.2 != x.2&&(x.1.k.afj&&y.1.k.mem||x.1.k.isLoad&&y.1.k.abU) && !comparable ms x.2 y.2}
def K.IL:K->K
 | .mF f as _=>.mE f as
 | .jl n p x _=>.store n p x
 | .jL g m a=>.load g m a
 | .nO g m a _=>.load g m a
 | k=>k
def K.Oj:K->Bool
 | .mF .. | .jL .. | .jl .. | .nO ..=>false
 | _=>true
def uR:Arg->Arg->Bool
 | .var i,.var j=>i==j
 | .loc i,.loc j=>i==j
 | _,_=>false
def passes (x y:jE)(i j:Nat):Bool :=
 match x.k,y.k with
 | .mF _ _ ps,.jL _ _ a=>ps.any (uR a)
 | .jl _ _ _ ps,.jL _ _ a=>decide (j<i)&&ps.any (uR a)
 | .app _ _ s _,.nO _ _ _ ps=>decide (i<j)&&ps.any (uR s)
 | .jl _ _ _ ps,.nO _ _ a _=>decide (j<i)&&ps.any (uR a)
 | _,_=>false
def zM (ms:List Nat)(ks:List jE):List jE :=
 ks.zipIdx.map fun x=>match x.1.k with
  | .mE f as=>match ks.zipIdx.filterMap fun y=>if y.2 != x.2&&y.1.k.mem && !comparable ms x.2 y.2 then(match y.1.k with
    | .load _ _ a=>some a
    | _=>some (.g 0)) else none with
   | []=>x.1
   | ps=>{x.1 with k:=.mF f as ps}
  | .load g m a=>if ks.zipIdx.any fun y=>(match y.1.k with
    | .mE _ _=>true
    | _=>false) && !comparable ms x.2 y.2 then {x.1 with k:=.jL g m a} else x.1
  | _=>x.1
def Gv (ms:List Nat)(ks:List jE):List jE :=
 ks.zipIdx.map fun x=>match x.1.k with
  | .store n p v=>match ks.zipIdx.filterMap fun y=>if y.2 != x.2 && !comparable ms x.2 y.2 then(match y.1.k with
    | .load _ _ a=>some a
    | _=>none) else none with
   | []=>x.1
   | ps=>{x.1 with k:=.jl n p v ps}
  | .load g m a=>match ks.zipIdx.filterMap fun y=>if decide (y.2<x.2) && !comparable ms x.2 y.2 then(match y.1.k with
    | .app _ _ s _=>some s
    | _=>none) else none with
   | []=>if ks.zipIdx.any fun y=>(match y.1.k with
    | .store _ _ _=>true
    | _=>false) && !comparable ms x.2 y.2 then {x.1 with k:=.jL g m a} else x.1
   | ps=>{x.1 with k:=.nO g m a ps}
  | _=>x.1
def tmpsOf (o:Oper):List Tmp:=o.op.operands.toList.filterMap fun|.tmp t=>some t|_=>none
def Li:K->K->Option (Nat × Nat)
 | .store _ (.var b) _,.load _ _ (.var a)=>some (a,b)
 | _,_=>none
def Qg (ms:List Nat)(ks:List jE):List (Nat × Nat) :=
 ks.zipIdx.flatMap fun x=>ks.zipIdx.filterMap fun y=>if x.2==y.2||comparable ms x.2 y.2 then none else Li x.1.k y.1.k
def IM (ops:List Oper)(ms:List Nat)(ks:List jE)(apart:List (Nat × Nat)):Bool :=
 (ops.zipIdx.all fun x=>x.1.after.toList.all fun e => !Region.binds .any e||decide (e.on<x.2)) &&
 (ops.zipIdx.all fun x=>match x.1.dst with
  | none=>true
  | some t=>ops.zipIdx.all fun y=>(x.2==y.2)||(y.1.dst != some t&&(!(tmpsOf y.1).contains t||comparable ms x.2 y.2))) &&
 (ops.zipIdx.all fun x=>match x.1.guard with
  | none=>true
  | some (g,_)=>(ms.getD x.2 0).testBit g) &&
 (ks.zipIdx.all fun x => !x.1.k.loud x.1.q||ks.zipIdx.all fun y=>(x.2==y.2) || !y.1.k.mem||comparable ms x.2 y.2 ||
  (y.1.q&&match Li x.1.k y.1.k with
  | some p=>apart.contains p
  | none=>false)||passes x.1 y.1 x.2 y.2)
def kW (P:Program)(cx:Cx)(ops:List Oper)(draw:Bool):Option (List jE × List (Nat × Nat)) :=
 match mP P cx ops [] with
 | none=>none
 | some TN =>
  if draw then
   let ks:=bif cx.Yg then zM (masks ops []) TN else bif cx.far then Gv (masks ops []) TN else TN
   (if (TN.all fun x=>x.k.Oj)&&IM ops (masks ops []) (mU (masks ops []) ks) (Qg (masks ops []) (mU (masks ops []) ks))
   then some (mU (masks ops []) ks,Qg (masks ops []) (mU (masks ops []) ks)) else none)
  else some (TN,[])
def nM (aL:List (Option Tmp)):List Tmp->Nat->List (Nat × Nat)
 | [],_=>[]
 | t::r,i=>match gu aL t with
  | some j=>(i,j)::nM aL r (i+1)
  | none=>nM aL r (i+1)
def comp (P:Program)(cx:Cx):Code->Option aF
 | .skip=>some .skip
 | .region id ops draw=>match kW P cx ops.toList draw with
  | some (ks,ap) =>
   match cx.kills id with
   | []=>some (.region ks (nM (ops.toList.map (·.dst)) cx.vars 0) ap)
   | js=>some (.seq (.region ks (nM (ops.toList.map (·.dst)) cx.vars 0) ap) (.kill js))
  | none=>none
 | .seq a b=>match comp P cx a,comp P cx b with
  | some x,some y=>some (.seq x y)
  | _,_=>none
 | .cond c a b=>match jb P cx [] 0 c,comp P cx a,comp P cx b with
  | some t,some x,some y=>some (.cond t x y)
  | _,_,_=>none
 | .block id b=>match comp P cx b with
  | some x=>some (.block id x)
  | none=>none
 | .loop b=>match comp P cx b with
  | some x=>some (.loop x)
  | none=>none
 | .exit id=>some (.exit id)
 | .ret=>some .ret
 | _=>none
def oF (P:Program)(cx:Cx):List ResultVar->Option (List Res)
 | []=>some []
 | .tmp t::r=>match cx.vars.idxOf? t,oF P cx r with
  | some j,some s=>some (.var j::s)
  | _,_=>none
 | .cell t ty::r=>match cx.vars.idxOf? t,kV P ty,aZ P ty,oF P cx r with
  | some j,some g,some n,some s=>some (.cell j g n::s)
  | _,_,_,_=>none
def iU (P:Program)(cx:Cx)(F:Func):Option bO :=
 match F.body with
 | none=>none
 | some c=>match comp P cx c,oF P cx F.results.toList with
  | some b,some rs =>
   let np:=F.params.size+F.nfree
   if cx.vars.take np=List.range np/\cx.vars.Nodup/\cx.ntmps=F.ntmps/\cx.vars.all (·<cx.ntmps) then some {np:=np,nv:=cx.vars.length,ref:=cx.isRef,res:=rs,body:=b} else none
  | _,_=>none
section
variable {mn:Prop}
abbrev Map:=Nat->Nat->Option (Nat × Nat × Nat)
inductive bE (σ:Nat->Option FuncId)(I:Nat->Prop)(w:World):D->Value->Prop
 | v (x:Value):bE σ I w (.v x) x
 | fn {g:Nat} {f:FuncId} (h:σ g=some f):bE σ I w (.fn g) (.func (.func f) #[] #[])
 | n (sz:Nat):bE σ I w (.n sz) (.slice none 0 0)
 | i (t:TypeId) (x:Value):bE σ I w .i (.iface t x)
 | s0 (sz:Nat):bE σ I w (.s sz []) (.slice none 0 0)
 | s1 (sz:Nat) (a:Addr) (cap:Nat):bE σ I w (.s sz []) (.slice (some a) 0 cap)
 | s {sz:Nat} {es:List D} {b off cap:Nat} (u:Nat->Nat->Value) (hb:I b) (hc:es.length<=cap) (hsz:∀ e ∈ es,e.cells.length=sz)
   (hone:∀ e ∈ es,∀ c ∈ e.cells,c.one=true)
   (hcell:∀ (i:Nat) (e:D) (j:Nat) (c:D),es[i]?=some e->e.cells[j]?=some c->w.cell? ⟨b,off+i*sz+j,none⟩=some (u i j))
   (hrep:∀ (i:Nat) (e:D) (j:Nat) (c:D),es[i]?=some e->e.cells[j]?=some c->bE σ I w c (u i j)):bE σ I w (.s sz es) (.slice (some ⟨b,off,none⟩) es.length cap)
 | a {cs:List D} {vs:Array Value} (hl:vs.size=cs.length) (h:∀ (i:Nat) (c:D) (x:Value),cs[i]?=some c->vs[i]?=some x->bE σ I w c x):bE σ I w (.a cs) (.agg vs)
 | t {cs:List D} {vs:Array Value} (hl:vs.size=cs.length) (h:∀ (i:Nat) (c:D) (x:Value),cs[i]?=some c->vs[i]?=some x->bE σ I w c x):bE σ I w (.t cs) (.tuple vs)
def AtD (σ:Nat->Option FuncId)(I:Nat->Prop)(w:World)(b off:Nat)(cs:List D):Prop :=
 ∀ (j:Nat) (c:D),cs[j]?=some c->∃ x,w.cell? ⟨b,off+j,none⟩=some x/\bE σ I w c x
inductive aI (σ:Nat->Option FuncId)(β:Map)(I:Nat->Prop)(w:World)(n:Nat):FV->Value->Prop
 | u (x:Value):aI σ β I w n .u x
 | d {y:D} {x:Value} (h:bE σ I w y x):aI σ β I w n (.d y) x
 | r {p:Ref} {off b bo cap:Nat} (h:β (p.abs n) 0=some (b,bo,cap)):aI σ β I w n (.r p off) (.pointer (some ⟨b,bo+off,none⟩))
 | e {p:Ref} {av sz i off b bo cap:Nat} (h:β (p.abs n) av=some (b,bo,cap)):aI σ β I w n (.e p av sz i off) (.pointer (some ⟨b,bo+i*sz+off,none⟩))
 | rc {y:D} {b off:Nat} (hb:I b) (ho:∀ c ∈ y.cells,c.one=true) (h:AtD σ I w b off y.cells):aI σ β I w n (.rc y) (.pointer (some ⟨b,off,none⟩))
 | ls {p:Ref} {av sz off len b bo cap o:Nat} (h:β (p.abs n) av=some (b,bo,cap)) (hl:off+len<=cap) (ho:off<cap->o=bo+off*sz) :
   aI σ β I w n (.ls p av sz off len) (.slice (some ⟨b,o,none⟩) len (cap-off))
 | f {g:Nat} {k:FuncId} {first captured:List FV} {vs us:Array Value} (h:σ g=some k) (h1:vs.size=first.length) (h2:us.size=captured.length)
   (hv:∀ (i:Nat) (c:FV) (x:Value),first[i]?=some c->vs[i]?=some x->aI σ β I w n c x) (hu:∀ (i:Nat) (c:FV) (x:Value),captured[i]?=some c->us[i]?=some x->aI σ β I w n c x) :
   aI σ β I w n (.f g first captured) (.func (.func k) vs us)
 | m {p:Ref} {b bo cap:Nat} (h:β (p.abs n) 0=some (b,bo,cap)):aI σ β I w n (.m p) (.map (some b))
 | z {sz c:Nat} {a:Addr}:aI σ β I w n (.z sz) (.slice (some a) 0 c)
 | a {cs:List FV} {vs:Array Value} (hl:vs.size=cs.length) (h:∀ (i:Nat) (c:FV) (x:Value),cs[i]?=some c->vs[i]?=some x->aI σ β I w n c x):aI σ β I w n (.a cs) (.agg vs)
 | t {cs:List FV} {vs:Array Value} (hl:vs.size=cs.length) (h:∀ (i:Nat) (c:FV) (x:Value),cs[i]?=some c->vs[i]?=some x->aI σ β I w n c x):aI σ β I w n (.t cs) (.tuple vs)
theorem cell_of_block {w w':World}{b o:Nat}(h:w'.heap[b]?=w.heap[b]?):w'.cell? ⟨b,o,none⟩=w.cell? ⟨b,o,none⟩:=by simp[World.cell?,h]
section mono
variable {σ:Nat->Option FuncId} {I I':Nat->Prop} {w w':World} {β β':Map} {n:Nat}
theorem bE.mono (hi:∀ b,I b->I' b)(hk:∀ b,I b->w'.heap[b]?=w.heap[b]?){y:D}{x:Value}(h:bE σ I w y x):bE σ I' w' y x:=by
 induction h with
 | v x=>exact .v x
 | fn h=>exact .fn h
 | n sz=>exact .n sz
 | i t x=>exact .i t x
 | s0 sz=>exact .s0 sz
 | s1 sz a cap=>exact .s1 sz a cap
 | s u hb hc hsz hone hcell _ ih=>exact .s u (hi _ hb) hc hsz hone (fun i e j c h1 h2=>by rw[cell_of_block (hk _ hb)];exact hcell i e j c h1 h2) ih
 | a hl _ ih=>exact .a hl ih
 | t hl _ ih=>exact .t hl ih
theorem AtD.mono (hi:∀ b,I b->I' b)(hk:∀ b,I b->w'.heap[b]?=w.heap[b]?){b off:Nat}{cs:List D}(hb:w'.heap[b]?=w.heap[b]?)(h:AtD σ I w b off cs):AtD σ I' w' b off cs:=fun j c hc=>by
 obtain⟨x,h1,h2⟩:=h j c hc;exact⟨x,by rw[cell_of_block hb];exact h1,h2.mono hi hk⟩
theorem aI.mono (hm:∀ k v x,β k v=some x->β' k v=some x)(hi:∀ b,I b->I' b)(hk:∀ b,I b->w'.heap[b]?=w.heap[b]?){y:FV}{x:Value}(h:aI σ β I w n y x) :
  aI σ β' I' w' n y x:=by
 induction h with
 | u x=>exact .u x
 | d h=>exact .d (h.mono hi hk)
 | r h=>exact .r (hm _ _ _ h)
 | e h=>exact .e (hm _ _ _ h)
 | rc hb ho h=>exact .rc (hi _ hb) ho (h.mono hi hk (hk _ hb))
 | ls h hl ho=>exact .ls (hm _ _ _ h) hl ho
 | m h=>exact .m (hm _ _ _ h)
 | z=>exact .z
 | f h h1 h2 _ _ ih1 ih2=>exact .f h h1 h2 ih1 ih2
 | a hl _ ih=>exact .a hl ih
 | t hl _ ih=>exact .t hl ih
end mono
def ah.live (β:Map)(k:Nat):ah->Option (Nat × Nat × Nat)
 | .box _=>β k 0
 | .row av _ _=>β k av
 | .h_ _ _ _=>none
 | .map _=>β k 0
structure jk (σ:Nat->Option FuncId)(I:Nat->Prop)(w:World)(b bo cap sz:Nat)(es:List D):Prop where
 pos:0<sz
 fit:es.length<=cap
 wide:∀ e ∈ es,e.cells.length=sz
 one:∀ e ∈ es,∀ c ∈ e.cells,c.one=true
 at_:∀ (i:Nat) (e:D),es[i]?=some e->AtD σ I w b (bo+i*sz) e.cells
structure xQ (σ:Nat->Option FuncId)(I:Nat->Prop)(w:World)(es:List (D × D))(ms:Array MapEntry)(clock:Nat):Prop where
 len:ms.size=es.length
 key:∀ (i:Nat) (e:D × D) (m:MapEntry),es[i]?=some e->ms[i]?=some m->bE σ I w e.1 m.key
 val:∀ (i:Nat) (e:D × D) (m:MapEntry),es[i]?=some e->ms[i]?=some m->bE σ I w e.2 m.val
 old:∀ m ∈ ms.toList,m.born<clock
 once:(ms.toList.map (·.born)).Nodup
structure bf (σ:Nat->Option FuncId)(n:Nat)(β:Map)(I Wr:Nat->Prop)(wd:Nat->Prop)(H:List ah)(w:World):Prop where
 mf:∀ b,I b->b<w.heap.size
 blt:∀ k v b bo cap,β k v=some (b,bo,cap)->b<w.heap.size
 kG:∀ b,w.heap.size<=b->Wr b
 dom:∀ k v x,β k v=some x->k<H.length
 mO:∀ (k:Nat) av sz es v x,H[k]?=some (.row av sz es)->β k v=some x->v<=av
 wr:∀ (k:Nat) (o:ah) b bo cap,H[k]?=some o->o.live β k=some (b,bo,cap)->(wd k->Wr b)/\¬ I b
 box:∀ (k:Nat) cs b bo cap,H[k]?=some (.box cs)->β k 0=some (b,bo,cap)->bo=0 /\
  ∃ c e,w.heap[b]?=some (.cells c e (0,0))/\c.size=cs.length/\∀ (j:Nat) (f:FV) (x:Value),cs[j]?=some f->c[j]?=some x->aI σ β I w n f x
 row:∀ (k:Nat) av sz es b bo cap,H[k]?=some (.row av sz es)->β k av=some (b,bo,cap)->jk σ I w b bo cap sz es /\
  ∃ c e,w.heap[b]?=some (.cells c e (0,0))/\c.size=bo+cap*sz
 h_:∀ (k:Nat) av sz es b bo cap,H[k]?=some (.h_ av sz es)->β k av=some (b,bo,cap)->jk σ I w b bo cap sz es/\I b
 inj:∀ (k k':Nat) (o o':ah) b bo cap wF cap',H[k]?=some o->H[k']?=some o'->o.live β k=some (b,bo,cap)->o'.live β k'=some (b,wF,cap')->k=k'
 map:∀ (k:Nat) es b bo cap,H[k]?=some (.map es)->β k 0=some (b,bo,cap)->∃ ms clock,w.heap[b]?=some (.map ms clock)/\xQ σ I w es ms clock
structure Ext (mn:Prop)(β β':Map)(I I' Wr:Nat->Prop)(w w':World):Prop where
 bm:∀ k v x,β k v=some x->β' k v=some x
 im:∀ b,I b->I' b
 iH:∀ b,I' b->I b\/Wr b
 size:w.heap.size<=w'.heap.size
 fO:∀ b,I b->w'.heap[b]?=w.heap[b]?
 keepW:∀ b,b<w.heap.size->¬ Wr b->w'.heap[b]?=w.heap[b]?
 os:w'.os=w.os
 tape:w'.tape=w.tape
 output:w'.output=w.output
 drawn:mn->w.drawn<=w'.drawn
theorem Ext.refl (β:Map)(I Wr:Nat->Prop)(w:World):Ext mn β β I I Wr w w :=
 ⟨fun _ _ _ h=>h,fun _ h=>h,fun _ h=>.inl h,Qd2 _,fun _ _=>rfl,fun _ _ _=>rfl,rfl,rfl,rfl,fun _=>Qd2 _⟩
theorem Ext.trans {β β' β'':Map}{I I' I'' Wr:Nat->Prop}{w w' w'':World}(h:Ext mn β β' I I' Wr w w')(k:Ext mn β' β'' I' I'' Wr w' w''):Ext mn β β'' I I'' Wr w w'' :=
 ⟨fun a v x e=>k.bm _ _ _ (h.bm _ _ _ e),fun b e=>k.im _ (h.im _ e),fun b e=>(k.iH b e).elim (fun e=>h.iH b e) .inr,Qc1 h.size k.size,
 fun b e=>(k.fO b (h.im _ e)).trans (h.fO b e),fun b e1 e2=>(k.keepW b (Qk1 e1 h.size) e2).trans (h.keepW b e1 e2),
 k.os.trans h.os,k.tape.trans h.tape,k.output.trans h.output,fun m=>Qc1 (h.drawn m) (k.drawn m)⟩
section ext
variable {σ:Nat->Option FuncId} {I I' Wr:Nat->Prop} {wd:Nat->Prop} {w w':World} {β β':Map} {n:Nat}
theorem Ext.abV (h:Ext mn β β' I I' Wr w w'){y:FV}{x:Value}(hr:aI σ β I w n y x):aI σ β' I' w' n y x:=hr.mono h.bm h.im h.fO
theorem jk.mono {b bo cap sz:Nat}{es:List D}(h:jk σ I w b bo cap sz es)(hi:∀ b,I b->I' b)(hk:∀ b,I b->w'.heap[b]?=w.heap[b]?)(hb:w'.heap[b]?=w.heap[b]?) :
  jk σ I' w' b bo cap sz es :=
 ⟨h.pos,h.fit,h.wide,h.one,fun i e he=>(h.at_ i e he).mono hi hk hb⟩
theorem xQ.mono {es:List (D × D)}{ms:Array MapEntry}{clock:Nat}(h:xQ σ I w es ms clock)(hi:∀ b,I b->I' b)(hk:∀ b,I b->w'.heap[b]?=w.heap[b]?):xQ σ I' w' es ms clock :=
 ⟨h.len,fun i e m h1 h2=>(h.key i e m h1 h2).mono hi hk,fun i e m h1 h2=>(h.val i e m h1 h2).mono hi hk,h.old,h.once⟩
theorem bf.grow {H:List ah}(h:bf σ n β I Wr wd H w)(hs:w.heap.size<=w'.heap.size)(hk:∀ b,b<w.heap.size->w'.heap[b]?=w.heap[b]?):bf σ n β I Wr wd H w':=by
 have hI:∀ b,I b->w'.heap[b]?=w.heap[b]?:=fun b hb=>hk b (h.mf b hb)
 refine⟨fun b hb=>Qk1 (h.mf b hb) hs,fun k v b bo cap e=>Qk1 (h.blt k v b bo cap e) hs,fun b hb=>h.kG b (Qc1 hs hb),h.dom,h.mO,h.wr,?_,?_,?_,h.inj,?_⟩
 ·intro k cs b bo cap h1 h2;obtain⟨a0,c,e,a1,a2,a3⟩:=h.box k cs b bo cap h1 h2;exact⟨a0,c,e,by rw[hk b (h.blt _ _ _ _ _ h2)];exact a1,a2,fun j f x e1 e2=>(a3 j f x e1 e2).mono (fun _ _ _ e=>e) (fun _ e=>e) hI⟩
 ·intro k av sz es b bo cap h1 h2;obtain⟨a0,c,e,a1,a2⟩:=h.row k av sz es b bo cap h1 h2;exact⟨a0.mono (fun _ e=>e) hI (hk b (h.blt _ _ _ _ _ h2)),c,e,by rw[hk b (h.blt _ _ _ _ _ h2)];exact a1,a2⟩
 ·intro k av sz es b bo cap h1 h2;obtain⟨a0,a1⟩:=h.h_ k av sz es b bo cap h1 h2;exact⟨a0.mono (fun _ e=>e) hI (hI b a1),a1⟩
 ·intro k es b bo cap h1 h2;obtain⟨ms,clock,a1,a2⟩:=h.map k es b bo cap h1 h2;exact⟨ms,clock,by rw[hk b (h.blt _ _ _ _ _ h2)];exact a1,a2.mono (fun _ e=>e) hI⟩
end ext
def Map.put (β:Map)(k v:Nat)(x:Nat × Nat × Nat):Map:=fun k' v'=>if k'=k/\v'=v then some x else β k' v'
theorem Map.dQ (β:Map)(k v:Nat)(x:Nat × Nat × Nat):β.put k v x k v=some x:=by simp[Map.put]
theorem Map.iF (β:Map)(k v:Nat)(x:Nat × Nat × Nat){k' v':Nat}(h:¬ (k'=k/\v'=v)):β.put k v x k' v'=β k' v':=by simp[Map.put,h]
theorem nQ {β:Map}{m v:Nat}{x:Nat × Nat × Nat}{wd:Nat->Prop}:∀ k u,k<m->¬ wd k->(β.put m v x) k u=β k u:=fun k u h _=>Map.iF _ _ _ _ ae
theorem kX {β:Map}{m k0 v:Nat}{x:Nat × Nat × Nat}{wd:Nat->Prop}(hw:wd k0):∀ k u,k<m->¬ wd k->(β.put k0 v x) k u=β k u:=fun k u _ hn=>Map.iF _ _ _ _ (fun h=>hn (h.1 ▸ hw))
theorem alloc_old (w:World)(o:Obj){b:Nat}(h:b<w.heap.size):(w.alloc o).heap[b]?=w.heap[b]?:=by
 show(w.heap.push o)[b]?=_;rw[Array.getElem?_push,if_neg ae]
theorem pY (w:World)(o:Obj):(w.alloc o).heap[w.heap.size]?=some o:=by
 show(w.heap.push o)[w.heap.size]?=_;simp
section push
variable {σ:Nat->Option FuncId} {I Wr:Nat->Prop} {wd:Nat->Prop} {w:World} {β:Map} {n:Nat} {H:List ah}
theorem bf.push (h:bf σ n β I Wr wd H w)(c:Array Value)(e:TypeId)(o:ah)(v cap:Nat)
  (ho:(∃ cs,o=.box cs/\v=0/\c.size=cs.length/\∀ (j:Nat) (f:FV) (x:Value),cs[j]?=some f->c[j]?=some x->aI σ β I w n f x) \/
   (∃ sz es,o=.row v sz es/\0<sz/\es.length<=cap/\(∀ e ∈ es,e.cells.length=sz)/\(∀ e ∈ es,∀ c ∈ e.cells,c.one=true)/\c.size=cap*sz /\
    ∀ (i:Nat) (e:D) (j:Nat) (d:D),es[i]?=some e->e.cells[j]?=some d->∃ x:Value,c[i*sz+j]?=some x/\bE σ I w d x)) :
  let β':=β.put H.length v (w.heap.size,0,cap)
  Ext mn β β' I I Wr w (w.alloc (.cells c e))/\bf σ n β' I Wr wd (H++[o]) (w.alloc (.cells c e)):=by
 intro β';have hdom:∀ k v' x,β k v'=some x->β' k v'=some x:=fun k v' x e=>by
  have:=h.dom k v' x e;exact(Map.iF _ _ _ _ ae).trans e
 have hI:∀ b,I b->(w.alloc (.cells c e)).heap[b]?=w.heap[b]?:=fun b hb=>alloc_old _ _ (h.mf b hb)
 have hget:∀ (k:Nat) (o':ah),(H++[o])[k]?=some o'->(k<H.length/\H[k]?=some o')\/(k=H.length/\o'=o):=by
  intro k o' hk;rcases Qg0 k H.length with hl|hl
  ·rw[Qa0 hl]at hk;exact .inl ⟨hl,hk⟩
  ·rw[Qc0 hl]at hk;rcases Q71 hl with he|he
   ·subst he;simp at hk;exact .inr ⟨rfl,hk.symm⟩
   ·have:k-H.length=(k-H.length-1)+1:=ae;rw[this]at hk;simp at hk
 have hother:∀ k v',k<H.length->β' k v'=β k v':=fun k v' hk=>Map.iF _ _ _ _ ae
 have hnew:∀ v',β' H.length v'=if v'=v then some (w.heap.size,0,cap) else none:=by
  intro v'
  by_cases hv:v'=v
  ·subst hv;simp[β',Map.put]
  ·simp only[hv,if_false];refine(Map.iF _ _ _ _ (by simp[hv])).trans ?_;cases hb:β H.length v' with
   | none=>rfl
   | some x=>have:=h.dom _ _ _ hb;omega
 have hlive:∀ (k:Nat) (o':ah),k<H.length->o'.live β' k=o'.live β k:=fun k o' hk=>by cases o'<;>simp[ah.live,hother _ _ hk]
 have hlv:o.live β' H.length=some (w.heap.size,0,cap):=by
  rcases ho with ⟨cs,rfl,rfl,_⟩|⟨sz,es,rfl,_⟩<;>simp[ah.live,hnew]
 have hblt:∀ k v b bo cap',β' k v=some (b,bo,cap')->b<(w.alloc (.cells c e)).heap.size:=by
  intro k v' b bo cap' hk;simp only[β',Map.put]at hk;split at hk
  ·cases hk;simp
  ·have:=h.blt _ _ _ _ _ hk;simp;omega
 refine⟨⟨hdom,fun _ h=>h,fun _ h=>.inl h,aC,hI,fun b hb _=>alloc_old _ _ hb,rfl,rfl,rfl,fun _=>Qd2 _⟩,?_⟩;have acV:∀ (k:Nat) (o':ah) b bo cap',k<H.length->H[k]?=some o'->o'.live β k=some (b,bo,cap')->b<w.heap.size:=by
  intro k o' b bo cap' _ _ hl;cases o' with
  | box cs=>exact h.blt _ _ _ _ _ hl
  | row av sz es=>exact h.blt _ _ _ _ _ hl
  | h_ av sz es=>cases hl
  | map es=>exact h.blt _ _ _ _ _ hl
 constructor
 ·exact fun b hb=>by have:=h.mf b hb;simp;omega
 ·exact hblt
 ·exact fun b hb=>h.kG b (by simp at hb;omega)
 ·intro k v' x hk;simp only[β',Map.put]at hk;split at hk
  ·rename_i hh;simp[hh.1]
  ·have:=h.dom _ _ _ hk;simp;omega
 ·intro k av sz es v' x hk hb;rcases hget k _ hk with ⟨hl,hk2⟩|⟨rfl,hk2⟩
  ·rw[hother _ _ hl]at hb;exact h.mO k av sz es v' x hk2 hb
  ·rw[hnew]at hb;rcases ho with ⟨cs,rfl,_⟩|⟨sz,es,rfl,_⟩
   ·cases hk2
   ·cases hk2;split at hb
    ·rename_i hh;omega
    ·cases hb
 ·intro k o' b bo cap' hk hl;rcases hget k _ hk with ⟨hlt,hk2⟩|⟨rfl,rfl⟩
  ·rw[hlive _ _ hlt]at hl;exact h.wr k o' b bo cap' hk2 hl
  ·rw[hlv]at hl;cases hl;exact⟨fun _=>h.kG _ (Qd2 _),fun hI'=>by have:=h.mf _ hI';omega⟩
 ·intro k cs b bo cap' hk hb;rcases hget k _ hk with ⟨hlt,hk2⟩|⟨rfl,hk2⟩
  ·rw[hother _ _ hlt]at hb;obtain⟨a0,c',e',a1,a2,a3⟩:=h.box k cs b bo cap' hk2 hb;exact⟨a0,c',e',by rw[alloc_old _ _ (h.blt _ _ _ _ _ hb)];exact a1,a2,fun j f x e1 e2=>(a3 j f x e1 e2).mono hdom (fun _ e=>e) hI⟩
  ·rcases ho with ⟨cs',rfl,rfl,h2,h3⟩|⟨sz,es,rfl,_⟩
   ·cases hk2;rw[hnew]at hb;simp at hb;obtain⟨rfl,rfl,rfl⟩:=hb;exact⟨rfl,c,e,pY _ _,h2,fun j f x e1 e2=>(h3 j f x e1 e2).mono hdom (fun _ e=>e) hI⟩
   ·cases hk2
 ·intro k av sz es b bo cap' hk hb;rcases hget k _ hk with ⟨hlt,hk2⟩|⟨rfl,hk2⟩
  ·rw[hother _ _ hlt]at hb;obtain⟨a0,c',e',a1,a2⟩:=h.row k av sz es b bo cap' hk2 hb;exact⟨a0.mono (fun _ e=>e) hI (alloc_old _ _ (h.blt _ _ _ _ _ hb)),c',e',by rw[alloc_old _ _ (h.blt _ _ _ _ _ hb)];exact a1,a2⟩
  ·rcases ho with ⟨cs',rfl,rfl,h2,h3⟩|⟨fE,es',rfl,h1,h2,h3,h4,h5,h6⟩
   ·cases hk2
   ·cases hk2;rw[hnew]at hb;simp at hb;obtain⟨rfl,rfl,rfl⟩:=hb;refine⟨⟨h1,h2,h3,h4,?_⟩,c,e,pY _ _,by simpa using h5⟩;intro i e1 he1 j d hd;obtain⟨x,hx1,hx2⟩:=h6 i e1 j d he1 hd;have hc1:(w.alloc (.cells c e)).cell? ⟨w.heap.size,i*sz+j,none⟩=some x:=by rw[World.cell?_alloc_new];exact hx1
    exact⟨x,by simpa using hc1,hx2.mono (fun _ e=>e) hI⟩
 ·intro k av sz es b bo cap' hk hb;rcases hget k _ hk with ⟨hlt,hk2⟩|⟨rfl,hk2⟩
  ·rw[hother _ _ hlt]at hb;obtain⟨a0,a1⟩:=h.h_ k av sz es b bo cap' hk2 hb;exact⟨a0.mono (fun _ e=>e) hI (hI b a1),a1⟩
  ·rcases ho with ⟨cs',rfl,_⟩|⟨fE,es',rfl,_⟩<;>cases hk2
 ·intro k k' o1 o2 b bo mV wF cap2 hk hk' hl hl';rcases hget k _ hk with ⟨hlt,hk2⟩|⟨e1,e2⟩<;>rcases hget k' _ hk' with ⟨hlt',hk3⟩|⟨e3,e4⟩
  ·rw[hlive _ _ hlt]at hl;rw[hlive _ _ hlt']at hl';exact h.inj k k' o1 o2 b bo mV wF cap2 hk2 hk3 hl hl'
  ·rw[hlive _ _ hlt]at hl;have:=acV _ _ _ _ _ hlt hk2 hl;rw[e3,e4,hlv]at hl';cases hl';omega
  ·rw[hlive _ _ hlt']at hl';have:=acV _ _ _ _ _ hlt' hk3 hl';rw[e1,e2,hlv]at hl;cases hl;omega
  ·exact e1.trans e3.symm
 ·intro k es b bo cap' hk hb;rcases hget k _ hk with ⟨hlt,hk2⟩|⟨rfl,hk2⟩
  ·rw[hother _ _ hlt]at hb;obtain⟨ms,clock,a1,a2⟩:=h.map k es b bo cap' hk2 hb;exact⟨ms,clock,by rw[alloc_old _ _ (h.blt _ _ _ _ _ hb)];exact a1,a2.mono (fun _ e=>e) hI⟩
  ·rcases ho with ⟨cs',rfl,_⟩|⟨fE,es',rfl,_⟩<;>cases hk2
end push
end
section
variable {mn:Prop}
section upd
variable {σ:Nat->Option FuncId} {I Wr:Nat->Prop} {wd:Nat->Prop} {w w':World} {β:Map} {n:Nat} {H:List ah}
theorem bf.upd (h:bf σ n β I Wr wd H w){k:Nat}(hkw:wd k){o:ah}{b bo cap:Nat}(hk:H[k]?=some o)(hl:o.live β k=some (b,bo,cap))
  (o':ah) (v' b2 TQ cap2:Nat) (hsz:w.heap.size<=w'.heap.size) (hoth:∀ x,x<w.heap.size->x≠b->w'.heap[x]?=w.heap[x]?)
  (hb2:b2=b\/w.heap.size<=b2) (hb3:b2<w'.heap.size) (ak8:∀ x,β k v'=some x->x=(b2,TQ,cap2))
  (hos:w'.os=w.os) (aik:w'.tape=w.tape) (hout:w'.output=w.output) (hdr:mn->w.drawn<=w'.drawn)
  (ho:(∃ cs c e,o'=.box cs/\v'=0/\TQ=0/\w'.heap[b2]?=some (.cells c e (0,0))/\c.size=cs.length/\∀ (j:Nat) (f:FV) (x:Value),cs[j]?=some f->c[j]?=some x->aI σ β I w' n f x) \/
   (∃ sz es c e,o'=.row v' sz es/\(∀ v x,β k v=some x->v<=v')/\w'.heap[b2]?=some (.cells c e (0,0))/\c.size=TQ+cap2*sz/\jk σ I w' b2 TQ cap2 sz es) \/
   (∃ es ms clock,o'=.map es/\v'=0/\w'.heap[b2]?=some (.map ms clock)/\xQ σ I w' es ms clock)) :
  Ext mn β (β.put k v' (b2,TQ,cap2)) I I Wr w w'/\bf σ n (β.put k v' (b2,TQ,cap2)) I Wr wd (H.set k o') w':=by
 have hkl:k<H.length:=by
  rcases Qg0 k H.length with h'|h'
  ·exact h'
  ·rw[Qp1 h']at hk;cases hk
 obtain⟨ak9,hnI⟩:=h.wr k o b bo cap hk hl;have hwr:=ak9 hkw;have hbl:b<w.heap.size:=by
  cases o with
  | box cs=>exact h.blt _ _ _ _ _ hl
  | row av sz es=>exact h.blt _ _ _ _ _ hl
  | h_ av sz es=>cases hl
  | map es=>exact h.blt _ _ _ _ _ hl
 have NM:∀ k1 v1 x,β k1 v1=some x->(β.put k v' (b2,TQ,cap2)) k1 v1=some x:=by
  intro k1 v1 x e
  by_cases hc:k1=k/\v1=v'
  ·obtain⟨rfl,rfl⟩:=hc;rw[Map.dQ,ak8 x e]
  ·exact(Map.iF _ _ _ _ hc).trans e
 have hI:∀ x,I x->w'.heap[x]?=w.heap[x]?:=fun x hx=>hoth x (h.mf x hx) (fun e=>hnI (e ▸ hx))
 have Ol:Ext mn β (β.put k v' (b2,TQ,cap2)) I I Wr w w' :=
  ⟨NM,fun _ h=>h,fun _ h=>.inl h,hsz,hI,fun x hx hnx=>hoth x hx (fun e=>hnx (e ▸ hwr)),hos,aik,hout,hdr⟩
 refine⟨Ol,?_⟩;have hget:∀ (k1:Nat) (o1:ah),(H.set k o')[k1]?=some o1->(k1≠k/\H[k1]?=some o1)\/(k1=k/\o1=o'):=by
  intro k1 o1 h1
  by_cases hc:k1=k
  ·subst hc;rw[Qd1 hkl]at h1;exact .inr ⟨rfl,by simpa using h1.symm⟩
  ·rw[Qb2 (Ne.symm hc)]at h1;exact .inl ⟨hc,h1⟩
 have hother:∀ k1 v1,k1≠k->(β.put k v' (b2,TQ,cap2)) k1 v1=β k1 v1:=fun k1 v1 hc=>Map.iF _ _ _ _ (by simp[hc])
 have hlive:∀ (k1:Nat) (o1:ah),k1≠k->o1.live (β.put k v' (b2,TQ,cap2)) k1=o1.live β k1:=fun k1 o1 hc=>by cases o1<;>simp[ah.live,hother _ _ hc]
 have hlv:o'.live (β.put k v' (b2,TQ,cap2)) k=some (b2,TQ,cap2):=by
  rcases ho with ⟨cs,c,e,rfl,rfl,_⟩|⟨sz,es,c,e,rfl,_⟩|⟨es,ms,clock,rfl,rfl,_⟩<;>simp[ah.live,Map.dQ]
 have hne:∀ (k1:Nat) (o1:ah) b1 Gw mV,k1≠k->H[k1]?=some o1->o1.live β k1=some (b1,Gw,mV)->b1≠b/\b1<w.heap.size:=by
  intro k1 o1 b1 Gw mV hc h1 h2;refine⟨fun e=>hc (h.inj k1 k o1 o b Gw mV bo cap h1 hk (e ▸ h2) hl),?_⟩;cases o1 with
  | box cs=>exact h.blt _ _ _ _ _ h2
  | row av sz es=>exact h.blt _ _ _ _ _ h2
  | h_ av sz es=>cases h2
  | map es=>exact h.blt _ _ _ _ _ h2
 constructor
 ·exact fun x hx=>Qk1 (h.mf x hx) hsz
 ·intro k1 v1 b1 Gw mV h1;simp only[Map.put]at h1;split at h1
  ·cases h1;exact hb3
  ·exact Qk1 (h.blt _ _ _ _ _ h1) hsz
 ·exact fun x hx=>h.kG x (Qc1 hsz hx)
 ·intro k1 v1 x h1;simp only[Map.put]at h1;split at h1
  ·rename_i hh;rw[Xg0,hh.1];exact hkl
  ·rw[Xg0];exact h.dom _ _ _ h1
 ·intro k1 av sz es v1 x h1 h2;rcases hget k1 _ h1 with ⟨hc,h3⟩|⟨rfl,h3⟩
  ·rw[hother _ _ hc]at h2;exact h.mO k1 av sz es v1 x h3 h2
  ·rcases ho with ⟨cs,c,e,rfl,_⟩|⟨fE,es',c,e,rfl,hvd,_⟩|⟨_,_,_,rfl,_⟩
   rotate_right
   ·cases h3
   ·cases h3
   ·cases h3;simp only[Map.put]at h2;split at h2
    ·rename_i hh;omega
    ·exact hvd _ _ h2
 ·intro k1 o1 b1 Gw mV h1 h2;rcases hget k1 _ h1 with ⟨hc,h3⟩|⟨rfl,rfl⟩
  ·rw[hlive _ _ hc]at h2;exact h.wr k1 o1 b1 Gw mV h3 h2
  ·rw[hlv]at h2;cases h2;rcases hb2 with rfl|hb2
   ·exact⟨fun _=>hwr,hnI⟩
   ·exact⟨fun _=>h.kG _ hb2,fun hx=>by have:=h.mf _ hx;omega⟩
 ·intro k1 cs b1 Gw mV h1 h2;rcases hget k1 _ h1 with ⟨hc,h3⟩|⟨rfl,h3⟩
  ·rw[hother _ _ hc]at h2;obtain⟨a0,c,e,a1,a2,a3⟩:=h.box k1 cs b1 Gw mV h3 h2;obtain⟨d1,d2⟩:=hne k1 _ b1 Gw mV hc h3 h2;exact⟨a0,c,e,by rw[hoth _ d2 d1];exact a1,a2,fun j f x e1 e2=>Ol.abV (a3 j f x e1 e2)⟩
  ·rcases ho with ⟨cs',c,e,rfl,rfl,rfl,g1,g2,g3⟩|⟨fE,es',c,e,rfl,_⟩|⟨_,_,_,rfl,_⟩
   rotate_right
   ·cases h3
   ·cases h3;rw[Map.dQ]at h2;cases h2;exact⟨rfl,c,e,g1,g2,fun j f x e1 e2=>(g3 j f x e1 e2).mono NM (fun _ e=>e) (fun _ _=>rfl)⟩
   ·cases h3
 ·intro k1 av sz es b1 Gw mV h1 h2;rcases hget k1 _ h1 with ⟨hc,h3⟩|⟨rfl,h3⟩
  ·rw[hother _ _ hc]at h2;obtain⟨a0,c,e,a1,a2⟩:=h.row k1 av sz es b1 Gw mV h3 h2;obtain⟨d1,d2⟩:=hne k1 _ b1 Gw mV hc h3 h2;exact⟨a0.mono (fun _ e=>e) hI (hoth _ d2 d1),c,e,by rw[hoth _ d2 d1];exact a1,a2⟩
  ·rcases ho with ⟨cs',c,e,rfl,_⟩|⟨fE,es',c,e,rfl,_,g1,g2,g3⟩|⟨_,_,_,rfl,_⟩
   rotate_right
   ·cases h3
   ·cases h3
   ·cases h3;rw[Map.dQ]at h2;cases h2;exact⟨g3,c,e,g1,g2⟩
 ·intro k1 av sz es b1 Gw mV h1 h2;rcases hget k1 _ h1 with ⟨hc,h3⟩|⟨rfl,h3⟩
  ·rw[hother _ _ hc]at h2;obtain⟨a0,a1⟩:=h.h_ k1 av sz es b1 Gw mV h3 h2;exact⟨a0.mono (fun _ e=>e) hI (hI b1 a1),a1⟩
  ·rcases ho with ⟨cs',c,e,rfl,_⟩|⟨fE,es',c,e,rfl,_⟩|⟨_,_,_,rfl,_⟩<;>cases h3
 ·intro k1 k2 o1 o2 b1 Gw mV ail acW h1 h2 h3 h4;rcases hget k1 _ h1 with ⟨hc,h5⟩|⟨e1,e2⟩<;>rcases hget k2 _ h2 with ⟨hc',h6⟩|⟨e3,e4⟩
  ·rw[hlive _ _ hc]at h3;rw[hlive _ _ hc']at h4;exact h.inj k1 k2 o1 o2 b1 Gw mV ail acW h5 h6 h3 h4
  ·rw[hlive _ _ hc]at h3;obtain⟨d1,d2⟩:=hne k1 _ b1 Gw mV hc h5 h3;rw[e3,e4,hlv]at h4;cases h4;rcases hb2 with hb2|hb2
   ·exact absurd hb2 d1
   ·omega
  ·rw[hlive _ _ hc']at h4;obtain⟨d1,d2⟩:=hne k2 _ b1 ail acW hc' h6 h4;rw[e1,e2,hlv]at h3;cases h3;rcases hb2 with hb2|hb2
   ·exact absurd hb2 d1
   ·omega
  ·exact e1.trans e3.symm
 ·intro k1 es b1 Gw mV h1 h2;rcases hget k1 _ h1 with ⟨hc,h3⟩|⟨rfl,h3⟩
  ·rw[hother _ _ hc]at h2;obtain⟨ms,clock,a1,a2⟩:=h.map k1 es b1 Gw mV h3 h2;obtain⟨d1,d2⟩:=hne k1 _ b1 Gw mV hc h3 h2;exact⟨ms,clock,by rw[hoth _ d2 d1];exact a1,a2.mono (fun _ e=>e) hI⟩
  ·rcases ho with ⟨cs',c,e,rfl,_⟩|⟨fE,es',c,e,rfl,_⟩|⟨es',ms,clock,rfl,rfl,g1,g2⟩
   ·cases h3
   ·cases h3
   ·cases h3;rw[Map.dQ]at h2;cases h2;exact⟨ms,clock,g1,g2⟩
end upd
theorem St.fP (st:St)(p:Ref):st.heap p=(st.base++st.loc)[p.abs st.base.length]?:=by
 cases p with
 | loc i=>simp[St.heap,Ref.abs,Qc0]
 | old i=>simp[St.heap,Ref.abs]
theorem St.dJ (st:St)(p:Ref)(o:ah):(st.bq p o).base++(st.bq p o).loc=(st.base++st.loc).set (p.abs st.base.length) o:=by
 cases p with
 | loc i=>simp[St.bq,Ref.abs,Q00]
 | old i =>
  simp only[St.bq,Ref.abs];split
  ·rename_i hi;rw[Qq2 _ _ hi]
  ·rename_i hi;rw[Q00 _ _ ae]
def jm (n:Nat)(st':St)(wd:Nat->Prop):Prop:=(∀ k,n<=k->wd k)/\(st'.aX=true->∀ k,wd k)
theorem St.bK (st:St)(p:Ref)(o:ah){wd:Nat->Prop}(h:jm st.base.length (st.bq p o) wd):wd (p.abs st.base.length):=by
 cases p with
 | loc i=>exact h.1 _ (Nat.le_add_right _ _)
 | old i=>exact h.2 rfl _
theorem St.kr (st:St)(p:Ref)(o:ah):(st.bq p o).base.length=st.base.length:=by
 cases p with
 | loc i=>rfl
 | old i=>simp only[St.bq];split<;>simp
theorem St.yh (st:St)(p:Ref)(o:ah):(st.bq p o).vars=st.vars:=by cases p<;>rfl
theorem St.oG (st:St)(o:ah):(st.push o).base++(st.push o).loc=(st.base++st.loc)++[o]:=by simp[St.push]
end
theorem kr (st:St)(p:Ref)(o:ah):(st.bq p o).base.length=st.base.length:=by
 cases p with
 | loc i=>rfl
 | old i=>simp only[St.bq];split<;>simp
theorem oH (st:St)(p:Ref)(o:ah):(st.bq p o).loc.length=st.loc.length:=by
 cases p with
 | loc i=>simp[St.bq]
 | old i=>simp only[St.bq];split<;>simp
theorem yh (st:St)(p:Ref)(o:ah):(st.bq p o).vars=st.vars:=by cases p<;>rfl
theorem bK (st:St)(p:Ref)(o:ah)(h:st.aX=true):(st.bq p o).aX=true:=by
 cases p with
 | loc i=>exact h
 | old i=>rfl
structure Kept (st st':St):Prop where
 base:st'.base.length=st.base.length
 vars:st'.vars=st.vars
 aX:st.aX=true->st'.aX=true
theorem Kept.refl (st:St):Kept st st:=⟨rfl,rfl,fun h=>h⟩
theorem Kept.trans {a b c:St}(h:Kept a b)(k:Kept b c):Kept a c:=⟨k.base.trans h.base,k.vars.trans h.vars,fun x=>k.aX (h.aX x)⟩
theorem Kept.bq (st:St)(p:Ref)(o:ah):Kept st (st.bq p o):=⟨kr st p o,yh st p o,bK st p o⟩
theorem Kept.push (st:St)(o:ah):Kept st (st.push o):=⟨rfl,rfl,fun h=>h⟩
theorem Kept.aK:∀ (rs:List Ref) (st:St),Kept st (Fi.aK st rs)
 | [],st=>.refl st
 | p::r,st=>by
  simp only[Fi.aK];split
  ·exact(Kept.bq st p _).trans (Kept.aK r _)
  ·exact Kept.aK r st
theorem o9:∀ (rs:List Ref) (st:St),(Fi.aK st rs).loc.length=st.loc.length
 | [],st=>rfl
 | p::r,st=>by
  simp only[Fi.aK];split
  ·rw[o9 r,oH]
  ·exact o9 r st
def fC (rec:Nat->List FV->List ah->bJ):Prop:=∀ g args B v B',rec g args B=some (v,some B')->B.length<=B'.length
theorem Fq {rec:Nat->List FV->List ah->bJ}{draw:Bool}{st st':St}{g:Nat}{xs:List FV}{rows:List Ref}{v:FV}(h:eT rec draw st g xs rows=some (v,st')):Kept st st':=by
 unfold eT at h;split at h
 ·split at h
  ·cases h;exact .refl _
  ·split at h
   ·cases h
   ·cases h;exact Kept.aK _ _
 ·split at h
  ·cases h;exact⟨rfl,rfl,fun h=>h⟩
  ·split at h
   ·cases h
   ·cases h;have hk:=Kept.aK rows st;exact⟨hk.base,hk.vars,hk.aX⟩
 ·cases h
theorem vE {rec:Nat->List FV->List ah->bJ}(hr:fC rec){draw:Bool}{st st':St}{g:Nat}{xs:List FV}{rows:List Ref}{v:FV}(h:dE rec draw st g xs rows=some (v,st')):Kept st st':=by
 unfold dE at h;split at h
 ·split at h
  ·cases h;exact .refl _
  ·split at h
   ·cases h
   ·cases h;exact Kept.aK _ _
 ·rename_i B hB;split at h
  ·cases h
  ·cases h;have hk:=Kept.aK rows st;have hl:=hr _ _ _ _ _ hB;refine⟨?_,rfl,fun h=>by simp[h]⟩;simp only[Qb0,Qj1,Qq0]at hl ⊢;rw[hk.base]at hl;omega
 ·cases h
theorem lW {rec:Nat->List FV->List ah->bJ}(hr:fC rec){draw:Bool}{st st':St}{g:Nat}{args:List FV}{v:FV}(h:gz rec draw st g args=some (v,st')):Kept st st':=by
 unfold gz at h;split at h
 ·cases h
 ·split at h
  ·exact Fq h
  ·exact vE hr h
theorem lH {E:Env}{rec:Nat->List FV->List ah->bJ}{st st':St}{g:Nat}{args:List FV}{v:FV}(h:eB E rec st g args=some (v,st')) :
  ∃ st1,gz rec false st g args=some (v,st1)/\((st'=st1/\st'.base=st.base/\∃ new,st'.loc=st.loc++new)\/(st1.loc.take st.loc.length=st.loc.map (ah.az st.base.length)/\st'={st1 with loc:=st.loc++st1.loc.drop st.loc.length})):=by
 unfold eB at h;unfold gz;split at h
 ·cases h
 ·rename_i xs hl;split at h
  ·rename_i hr;have hr':args.flatMap FV.rows=[]:=by simpa using hr
   rw[hr'];split at h
   ·rename_i hd;rw[if_pos hd];refine⟨st',?_,.inl ⟨rfl,?_⟩⟩
    ·unfold eT at h ⊢;split at h<;>simp_all
    ·unfold eT at h;split at h
     ·split at h
      ·cases h;exact⟨rfl,[],aC⟩
      ·cases h
     ·split at h
      ·cases h;exact⟨rfl,_,rfl⟩
      ·rename_i hne;exact absurd rfl hne
     ·cases h
   ·rename_i hd;rw[if_neg hd];unfold dE;simp only[aK];split at h
    ·cases h;exact⟨st,aC,.inl ⟨rfl,rfl,[],aC⟩⟩
    ·rename_i v' B hc;split at h
     ·rename_i he;cases h;exact⟨_,rfl,.inr ⟨he,by simp[Xq1]⟩⟩
     ·cases h
    ·cases h
  ·cases h
theorem vF {E:Env}{rec:Nat->List FV->List ah->bJ}(hr:fC rec){st st':St}{g:Nat}{args:List FV}{v:FV}(h:eB E rec st g args=some (v,st')):Kept st st':=by
 obtain⟨st1,h1,h2⟩:=lH h;have hk:=lW hr h1;rcases h2 with ⟨rfl,_⟩|⟨_,rfl⟩
 ·exact hk
 ·exact⟨hk.base,hk.vars,hk.aX⟩
theorem oI {E:Env}{rec:Nat->List FV->List ah->bJ}{q:Bool}{st st':St}{env:List FV}{n:Nat}{p x:Arg}{ps:List Arg}{v:FV}(h:runK E rec q st env (.jl n p x ps)=some (v,st')) :
  mi E st env p ps=true/\runK E rec q st env (.store n p x)=some (v,st'):=by
 have e:runK E rec q st env (.jl n p x ps)=if mi E st env p ps then runK E rec q st env (.store n p x) else none:=rfl
 rw[e]at h;split at h
 ·exact⟨by assumption,h⟩
 ·cases h
theorem kY {E:Env}{rec:Nat->List FV->List ah->bJ}{q:Bool}{st st':St}{env:List FV}{agg:Bool}{n:Nat}{p:Arg}{ps:List Arg}{v:FV}(h:runK E rec q st env (.nO agg n p ps)=some (v,st')) :
  mR E st env p ps=true/\runK E rec q st env (.load agg n p)=some (v,st')/\Dt st v=true:=by
 have e:runK E rec q st env (.nO agg n p ps)=if mR E st env p ps then checked st (runK E rec q st env (.load agg n p)) else none:=rfl
 rw[e]at h;split at h
 ·rename_i hf;unfold checked at h;split at h
  ·rename_i heq;split at h
   ·rename_i hb;cases h;exact⟨hf,heq,hb⟩
   ·cases h
  ·cases h
 ·cases h
theorem qf {E:Env}{rec:Nat->List FV->List ah->bJ}(hr:fC rec){draw:Bool}{st st':St}{env:List FV}{k:K}{v:FV}(h:runK E rec draw st env k=some (v,st')):Kept st st':=by
 have hs:∀ {x y:FV} {a b:St},some (x,a)=some (y,b)->a=b:=fun h=>by cases h;rfl
 cases k
 case call g args =>
  simp only[runK]at h;split at h
  ·exact lW hr h
  ·cases h
 case mE f args =>
  simp only[runK]at h;split at h
  ·exact lW hr h
  ·exact lW hr h
  ·cases h
 case rJ g args =>
  simp only[runK]at h;split at h
  ·exact vE hr h
  ·cases h
 case jL agg n p =>
  obtain⟨h,_⟩:runK E rec draw st env (.load agg n p)=some (v,st')/\True:=by
   have e:runK E rec draw st env (.jL agg n p)=checked st (runK E rec draw st env (.load agg n p)):=rfl;rw[e]at h;unfold checked at h;split at h
   ·rename_i heq;split at h
    ·cases h;exact⟨heq,trivial⟩
    ·cases h
   ·cases h
  simp only[runK]at h
  (repeat' split at h)<;>first
   | (cases h;done)
   | (cases hs h;exact .refl _)
 case mF f args ps =>
  simp only[runK]at h;split at h
  ·split at h
   ·exact vF hr h
   ·exact vF hr h
   ·cases h
  ·cases h
 case nO agg n p ps =>
  replace h:=(kY h).2.1;simp only[runK]at h
  (repeat' split at h)<;>first
   | (cases h;done)
   | (cases hs h;exact .refl _)
 case jl n p x ps =>
  replace h:=(oI h).2;simp only[runK]at h
  (repeat' split at h)<;>first
   | (cases h;done)
   | (cases hs h;exact .bq _ _ _)
 all_goals
  simp only[runK]at h
  (repeat' split at h)<;>first
   | (cases h;done)
   | (cases hs h;exact .refl _)
   | (cases hs h;exact .push _ _)
   | (cases hs h;exact .bq _ _ _)
theorem nR {E:Env}{rec:Nat->List FV->List ah->bJ}{q:Bool}{st st':St}{env:List FV}{agg:Bool}{n:Nat}{p:Arg}{v:FV}(h:runK E rec q st env (.jL agg n p)=some (v,st')) :
  runK E rec q st env (.load agg n p)=some (v,st')/\Dt st v=true:=by
 have e:runK E rec q st env (.jL agg n p)=checked st (runK E rec q st env (.load agg n p)):=rfl;rw[e]at h;unfold checked at h;split at h
 ·rename_i heq;split at h
  ·rename_i hb;cases h;exact⟨heq,hb⟩
  ·cases h
 ·cases h
theorem Gx {E:Env}{rec:Nat->List FV->List ah->bJ}{q:Bool}{st st':St}{env:List FV}{f:Arg}{as ps:List Arg}{v:FV}(h:runK E rec q st env (.mF f as ps)=some (v,st')) :
  ic E st env ps=true/\∃ st1,runK E rec false st env (.mE f as)=some (v,st1)/\((st'=st1/\st'.base=st.base/\∃ new,st'.loc=st.loc++new)\/(st1.loc.take st.loc.length=st.loc.map (ah.az st.base.length)/\st'={st1 with loc:=st.loc++st1.loc.drop st.loc.length})):=by
 simp only[runK]at h;split at h
 ·rename_i hp;refine⟨hp,?_⟩;split at h
  ·rename_i h1 h2;simp only[runK,h1,h2];exact lH h
  ·rename_i h1 h2;simp only[runK,h1,h2];exact lH h
  ·cases h
 ·cases h
theorem lY {E:Env}{rec:Nat->List FV->List ah->bJ}(hr:fC rec):∀ (ops:List jE) {st st':St} {env env':List FV},eu E rec ops st env=some (st',env')->Kept st st'
 | [],st,st',env,env',h=>by simp[eu]at h;rw[h.1];exact .refl _
 | o::ops,st,st',env,env',h=>by
  simp only[eu]at h;split at h
  ·cases h
  ·exact lY hr ops h
  ·split at h
   ·cases h
   ·rename_i h1;exact(qf hr h1).trans (lY hr ops h)
structure acX (st st':St):Prop where
 base:st'.base.length=st.base.length
 aX:st.aX=true->st'.aX=true
theorem Om {F:bO}{st:St}{v:FV}{B:List ah}(h:finish F st=some (v,some B)):st.base.length<=B.length:=by
 unfold finish at h;split at h
 ·cases h
 ·split at h
  ·simp only[fD,Qe0]at h;split at h
   ·cases h
   ·simp only[Qe0,Qm0]at h;rw[<-h.2,Qj1,Qb0];omega
  ·split at h
   ·cases h
   ·simp only[fD,Qe0]at h;split at h
    ·cases h
    ·simp only[Qe0,Qm0]at h;rw[<-h.2,Qj1,Qb0,(Kept.aK _ st).base];omega
theorem Gy {E:Env}{run:aF->St->Option (Out × St)}(hrun:∀ s st o st',run s st=some (o,st')->acX st st'):fC (fun g args B=>enter E g args B run):=by
 intro g args B v B' h
 change enter E g args B run=some (v,some B') at h
 unfold enter at h;split at h
 ·split at h
  ·split at h
   ·cases h
   ·cases h
  ·cases h
 ·split at h
  ·split at h
   ·split at h
    ·split at h
     ·cases h;assumption
     ·cases h
    ·rename_i hn;exact absurd h (hn v B')
   ·cases h
  ·split at h
   ·split at h
    ·cases h
    ·rename_i h1;have:=Om h;rw[(hrun _ _ _ _ h1).base]at this;exact this
    ·cases h
   ·cases h
theorem d9 (E:Env):∀ (n:Nat) (s:aF) (st:St) (o:Out) (st':St),exec E n s st=some (o,st')->acX st st'
 | 0,s,st,o,st',h=>by simp[exec]at h
 | n+1,s,st,o,st',h=>by
  have ih:=d9 E n;have hr:fC (fun g args B=>enter E g args B fun F st'=>exec E n F st'):=Gy (fun s st o st' h=>ih s st o st' h);cases s<;>simp only[exec]at h
  case skip=>cases h;exact⟨rfl,fun h=>h⟩
  case region ops outs apart =>
   split at h
   ·split at h
    ·rename_i h1;cases h;have:=lY hr _ h1;exact⟨this.base,this.aX⟩
    ·cases h
   ·cases h
  case seq a b =>
   split at h
   ·rename_i h1;have k1:=ih _ _ _ _ h1;have k2:=ih _ _ _ _ h;exact⟨k2.base.trans k1.base,fun x=>k2.aX (k1.aX x)⟩
   ·exact ih _ _ _ _ h
  case cond x a b =>
   split at h
   ·exact ih _ _ _ _ h
   ·cases h
  case block id b =>
   split at h
   ·rename_i h1;have k1:=ih _ _ _ _ h1;split at h<;>cases h<;>exact k1
   ·exact ih _ _ _ _ h
  case loop b =>
   split at h
   ·rename_i h1;have k1:=ih _ _ _ _ h1;have k2:=ih _ _ _ _ h;exact⟨k2.base.trans k1.base,fun x=>k2.aX (k1.aX x)⟩
   ·exact ih _ _ _ _ h
  case exit id=>cases h;exact⟨rfl,fun h=>h⟩
  case ret=>cases h;exact⟨rfl,fun h=>h⟩
  case kill js=>cases h;exact⟨rfl,fun h=>h⟩
theorem Qh (E:Env)(n:Nat):fC (fun g args B=>enter E g args B fun F st'=>exec E n F st'):=Gy (fun s st o st' h=>d9 E n s st o st' h)
abbrev fQ (σ : Nat -> Option FuncId) (β : Map) (I Wr : Nat -> Prop) (wd : Nat -> Prop) (w : World) (st : St) := bf σ st.base.length β I Wr wd (st.base ++ st.loc) w
end Fi
