import GoSem.Dispatch
import Derived.Laws.AppendOwn
import Derived.Laws.MakeOwn
import Derived.Laws.CopyRow
import Derived.Laws.Entries
import Derived.Calls
set_option linter.unusedVariables false
set_option linter.unusedSimpArgs false
abbrev Qa0:=@List.getElem?_append_left
abbrev Qa1:=@List.getElem?_eq_getElem
abbrev Qa2:=@List.mem_of_getElem?
abbrev Qb0:=@List.length_append
abbrev Qb1:=@Bool.and_eq_true
abbrev Qb2:=@List.getElem?_map
abbrev Qc0:=@List.getElem?_append_right
abbrev Qc1:=@List.map_nil
abbrev Qc2:=@Nat.le_trans
abbrev Qd0:=@List.getElem?_set_ne
abbrev Qd1:=@Nat.le_refl
abbrev Qd2:=@Option.some.injEq
abbrev Qe0:=@Nat.mul_le_mul_right
abbrev Qe1:=@List.take_of_length_le
abbrev Qe2:=@List.map_cons
abbrev Qf0:=@List.getElem?_set_self
abbrev Qf1:=@List.mem_cons_of_mem
abbrev Qf2:=@Option.map_eq_some_iff
abbrev Qg0:=@List.length_cons
abbrev Qg1:=@Nat.lt_or_ge
abbrev Qg2:=@Nat.eq_of_beq_eq_true
abbrev Qh0:=@Array.getElem?_eq_getElem
abbrev Qh1:=@Bool.false_eq_true
abbrev Qh2:=@List.all_eq_true
abbrev Qi0:=@List.getElem_mem
abbrev Qi1:=@List.mem_map
abbrev Qi2:=@List.mem_cons
abbrev Qj0:=@List.mem_cons_self
abbrev Qj1:=@List.take_succ_eq_append_getElem
abbrev Qj2:=@List.foldl_cons
abbrev Qk0:=@Nat.lt_of_lt_of_le
abbrev Qk1:=@List.drop_eq_getElem_cons
abbrev Qk2:=@List.getD_eq_getElem?_getD
abbrev Ql0:=@List.length_map
abbrev Ql1:=@Nat.mul_comm
abbrev Ql2:=@Int.emod_lt_of_pos
abbrev Qm0:=@Int.fdiv_eq_ediv_of_nonneg
abbrev Qm1:=@Nat.pow_succ
abbrev Qm2:=@Prod.mk.injEq
abbrev Qn0:=@List.take_length
abbrev Qn1:=@List.mem_of_mem_take
abbrev Qn2:=@List.getElem?_eq_none
abbrev Qo0:=@List.eq_nil_of_length_eq_zero
abbrev Qo1:=@Int.emod_nonneg
abbrev Qo2:=@List.getElem?_take
abbrev Qp0:=@List.append_assoc
abbrev Qp1:=@Nat.add_mul
abbrev Qp2:=@List.map_append
abbrev Qq0:=@Nat.eq_zero_or_pos
abbrev Qq1:=@List.pairwise_cons
abbrev Qq2:=@Nat.pow_pos
abbrev Qr0:=@List.length_take
abbrev Qr1:=@List.length_nil
abbrev Qr2:=@Bool.true_and
abbrev Qs0:=@List.findIdx?_eq_some_iff_getElem
abbrev Qs1:=@Array.getD_eq_getD_getElem?
abbrev Qs2:=@Bool.not_eq_true'
abbrev Qt0:=@Nat.pow_le_pow_right
abbrev Qt1:=@Nat.div_lt_iff_lt_mul
abbrev Qt2:=@Array.getElem?_toList
abbrev Qu0:=@Nat.mod_lt
abbrev Qu1:=@Nat.add_assoc
abbrev Qu2:=@List.drop_length
abbrev Qv0:=@List.mem_append
abbrev Qv1:=@List.getElem?_cons_zero
abbrev Qv2:=@Nat.mod_eq_of_lt
abbrev Qw0:=@List.nil_append
abbrev Qw1:=@Option.some.inj
abbrev Qw2:=@List.getElem?_eq_some_iff
abbrev Qx0:=@Nat.pow_add
abbrev Qx1:=@Nat.zero_add
abbrev Qx2:=@List.getElem?_drop
abbrev Qy0:=@Nat.mul_le_mul_left
abbrev Qy1:=@Nat.zero_le
abbrev Qy2:=@Nat.div_div_eq_div_mul
abbrev Qz0:=@List.mem_singleton
abbrev Qz1:=@List.mem_filter
abbrev Qz2:=@Nat.le_max_right
abbrev Q00:=@Int.sign_eq_neg_one_of_neg
abbrev Q01:=@Nat.le_max_left
abbrev Q02:=@Nat.add_sub_cancel
abbrev Q10:=@List.append_nil
abbrev Q11:=@Option.map_some
abbrev Q12:=@List.mem_of_mem_drop
abbrev Q2:=@Array.ext'
abbrev Q20:=@List.mem_or_eq_of_mem_set
abbrev Q21:=@List.mergeSort_perm
abbrev Q22:=@List.concat_eq_append
abbrev Q30:=@List.set_append_right
abbrev Q31:=@Bool.false_and
abbrev Q32:=@Option.isSome_iff_exists
abbrev Q40:=@Nat.mul_lt_mul_of_pos_right
abbrev Q41:=@Nat.eq_or_lt_of_le
abbrev Q42:=@List.getElem?_replicate
abbrev Q50:=@List.set_append_left
abbrev Q51:=@Option.getD_some
abbrev Q52:=@Nat.mul_assoc
abbrev Q60:=@Int.tdiv_eq_ediv_of_nonneg
abbrev Q61:=@Int.tmod_eq_emod_of_nonneg
abbrev Q62:=@List.map_set
abbrev Q70:=@Nat.add_zero
abbrev Q71:=@Array.getElem?_eq_some_iff
abbrev Q72:=@Nat.mul_le_mul
abbrev Q80:=@Int.sign_eq_one_of_pos
abbrev Q81:=@Int.lt_trichotomy
abbrev Q82:=@List.take_add_one
abbrev Q90:=@Int.sign_eq_zero_iff_zero
abbrev Q91:=@List.eq_nil_or_concat
abbrev Q92:=@Array.getElem?_modify
abbrev Xa0:=@Nat.div_eq_of_lt
abbrev Xa1:=@Nat.lt_of_le_of_lt
abbrev Xa2:=@List.cons_append
abbrev Xb0:=@Nat.mul_add
abbrev Xb1:=@List.filter_cons_of_neg
abbrev Xb2:=@List.filter_cons_of_pos
abbrev Xc0:=@List.flatMap_cons
abbrev Xc1:=@Nat.mul_pos
abbrev Xc2:=@Bool.false_or
abbrev Xd0:=@List.nodup_iff_pairwise_ne
abbrev Xd1:=@List.length_drop
abbrev Xd2:=@List.any_eq_true
abbrev Xe0:=@List.take_append_drop
abbrev Xe1:=@List.length_singleton
abbrev Xe2:=@List.getElem?_toArray
abbrev Xf0:=@List.findIdx?_eq_none_iff
abbrev Xf1:=@List.eq_of_mem_replicate
abbrev Xf2:=@List.length_eq_zero_iff
abbrev Xg0:=@List.replicate_succ
abbrev Xg1:=@List.length_pos_iff
abbrev Xg2:=@Array.length_toList
abbrev Xh0:=@List.map_map
abbrev Xh1:=@List.length_filter_le
abbrev Xh2:=@List.mem_iff_getElem?
abbrev Xi0:=@List.length_set
abbrev Xi1:=@List.length_replicate
abbrev Xi2:=@Bool.not_true
abbrev Xj0:=@Array.getElem?_append_left
abbrev Xj1:=@List.foldl_append
abbrev Xj2:=@List.ext_getElem?
abbrev Xk0:=@Nat.div_one
abbrev Xk1:=@List.getElem_of_mem
abbrev Xk2:=@Nat.le_mul_of_pos_right
abbrev Xl0:=@Nat.mul_add_div
abbrev Xl1:=@Nat.div_le_self
abbrev Xl2:=@Bool.or_eq_true
abbrev Xm0:=@Option.isSome_none
abbrev Xm1:=@Array.getElem?_extract
abbrev Xm2:=@List.drop_eq_nil_of_le
abbrev Xn0:=@Nat.shiftLeft_add_eq_or_of_lt
abbrev Xn1:=@Bool.eq_false_iff
abbrev Xn2:=@List.pairwise_map
abbrev Xo0:=@Function.comp_def
abbrev Xo1:=@Nat.sub_self
abbrev Xo2:=@Nat.add_comm
abbrev Xp0:=@List.drop_drop
abbrev Xp1:=@List.mem_zipIdx_iff_getElem?
abbrev Xp2:=@List.not_mem_nil
abbrev Xq0:=@List.map_eq_nil_iff
abbrev Xq1:=@List.map_congr_left
abbrev Xq2:=@List.getElem?_range
abbrev Xr0:=@Nat.div_add_mod
abbrev Xr1:=@Nat.min_eq_left
abbrev Xr2:=@List.cons.injEq
abbrev Xs0:=@List.getElem?_zip_eq_some
abbrev Xs1:=@Nat.gcd_comm
abbrev Xs2:=@Int.natAbs_eq_zero
abbrev Xt0:=@Nat.gcd_pos_of_pos_right
abbrev Xt1:=@List.Nodup.sublist
abbrev Xt2:=@List.findIdx?_cons
abbrev Xu0:=@List.mem_replicate
abbrev Xu1:=@List.drop_zero
abbrev Xu2:=@List.mem_range
abbrev Xv0:=@List.pairwise_mergeSort
abbrev Xv1:=@Nat.gcd_dvd_right
abbrev Xv2:=@List.getElem?_set
abbrev Xw0:=@List.size_toArray
abbrev Xw1:=@Nat.div_pos
abbrev Xw2:=@Nat.mul_one
abbrev Xx0:=@List.drop_of_length_le
abbrev Xx1:=@Nat.sub_mul
abbrev Xx2:=@Int.le_refl
abbrev Xy0:=@Array.getElem?_eq_none
abbrev Xy1:=@Nat.le_of_dvd
abbrev Xy2:=@Int.natCast_ediv
abbrev Xz0:=@Bool.not_eq_true
abbrev Xz1:=@List.mem_flatMap
abbrev Xz2:=@Nat.lt_succ_self
abbrev X00:=@Nat.le_div_iff_mul_le
abbrev X01:=@Nat.mul_add_mod
abbrev X02:=@Nat.add_mul_div_left
abbrev X1:=@Nat.sub_zero
abbrev X10:=@Nat.pow_lt_pow_right
abbrev X11:=@Nat.add_le_add_right
abbrev X12:=@List.mem_iff_getElem
abbrev X2:=@List.getElem?_zipIdx
abbrev X20:=@List.getElem?_of_mem
abbrev X21:=@Nat.div_mul_le_self
abbrev X22:=@List.filter_eq_self
abbrev X30:=@List.flatMap_append
abbrev X31:=@Nat.pow_mul
abbrev X32:=@List.map_inj_right
abbrev X40:=@List.zip_cons_cons
abbrev X41:=@Bool.and_true
abbrev X42:=@List.all_cons
theorem ae {p : Prop} (h : p := by omega) : p := h
theorem aA {p : Prop} (h : p := by simp) : p := h
theorem cK {p : Prop} (h : p := by decide) : p := h
namespace Fi
open Go
theorem bq {α:Type}{l:List α}{i:Nat}{x:α}(h:l[i]?=some x):i<l.length:=(Qw2.1 h).1
inductive D where
 | v (x:Value)
 | fn (g:Nat)
 | n (sz:Nat)
 | i
 | s (sz:Nat) (es:List D)
 | a (cs:List D)
 | t (vs:List D)
 deriving Inhabited
inductive Ref where
 | loc (i:Nat)
 | old (i:Nat)
 deriving DecidableEq,Inhabited
def Ref.abs (n:Nat):Ref->Nat
 | .loc i=>n+i
 | .old i=>i
inductive FV where
 | u
 | d (x:D)
 | r (p:Ref) (off:Nat)
 | e (p:Ref) (ak sz i off:Nat)
 | rc (x:D)
 | ls (p:Ref) (ak sz off n:Nat)
 | f (g:Nat) (first captured:List FV)
 | a (cs:List FV)
 | t (vs:List FV)
 | m (p:Ref)
 | z (sz:Nat)
 deriving Inhabited
inductive ah where
 | box (cs:List FV)
 | row (ak sz:Nat) (es:List D)
 | gK (ak sz:Nat) (es:List D)
 | map (es:List (D × D))
 deriving Inhabited
def D.cells:D->List D
 | .a cs=>cs
 | x=>[x]
def FV.cells:FV->List FV
 | .a cs=>cs
 | .d (.a cs)=>cs.map .d
 | x=>[x]
def jU:List FV->Option (List D)
 | []=>some []
 | .d x::r=>match jU r with
  | some ds=>some (x::ds)
  | none=>none
 | _=>none
def Sq (cs:List FV):FV :=
 match jU cs with
 | some ds=>.d (.a ds)
 | none=>.a cs
def uz (cs:List FV):FV :=
 match jU cs with
 | some ds=>.d (.t ds)
 | none=>.t cs
def D.dz:D->D
 | .n sz=>.s sz []
 | x=>x
def D.norm:D->D
 | .n sz=>.s sz []
 | .a cs=>.a (cs.map D.dz)
 | .t cs=>.t (cs.map D.dz)
 | x=>x
def uj:Value->Bool
 | .agg _ | .tuple _=>false
 | _=>true
def D.one:D->Bool
 | .v x=>uj x
 | .a _ | .t _=>false
 | _=>true
def FV.one:FV->Bool
 | .d x=>x.one
 | .r _ _ | .e _ _ _ _ _ | .rc _ | .ls _ _ _ _ _ | .f _ _ _ | .m _ | .z _=>true
 | .u | .a _ | .t _=>false
def iq (cs:List D)(agg:Bool)(off n:Nat):Option D :=
 if agg then(if off+n<=cs.length then some (.a ((cs.drop off).take n)) else none) else cs[off]?
def qV (cs:List FV)(agg:Bool)(off n:Nat):Option FV :=
 if agg then(if off+n<=cs.length then some (Sq ((cs.drop off).take n)) else none) else cs[off]?
def splice {α:Type}(cs:List α)(off:Nat)(xs:List α):List α:=cs.take off++xs++cs.drop (off+xs.length)
mutual
def FV.az (n:Nat):FV->FV
 | .r (.loc i) off=>.r (.old (n+i)) off
 | .e (.loc i) ak sz j off=>.e (.old (n+i)) ak sz j off
 | .ls (.loc i) ak sz off len=>.ls (.old (n+i)) ak sz off len
 | .m (.loc i)=>.m (.old (n+i))
 | .f g first captured=>.f g (FV.aP n first) (FV.aP n captured)
 | .a cs=>.a (FV.aP n cs)
 | .t cs=>.t (FV.aP n cs)
 | x=>x
def FV.aP (n:Nat):List FV->List FV
 | []=>[]
 | x::xs=>FV.az n x::FV.aP n xs
end
def ah.az (n:Nat):ah->ah
 | .box cs=>.box (FV.aP n cs)
 | o=>o
mutual
def FV.shift (m:Nat):FV->FV
 | .r (.old i) off=>.r (.loc (m+i)) off
 | .r (.loc i) off=>.r (.loc (m+i)) off
 | .e (.old i) ak sz j off=>.e (.loc (m+i)) ak sz j off
 | .e (.loc i) ak sz j off=>.e (.loc (m+i)) ak sz j off
 | .ls (.old i) ak sz off len=>.ls (.loc (m+i)) ak sz off len
 | .ls (.loc i) ak sz off len=>.ls (.loc (m+i)) ak sz off len
 | .m (.old i)=>.m (.loc (m+i))
 | .m (.loc i)=>.m (.loc (m+i))
 | .f g first captured=>.f g (FV.f_ m first) (FV.f_ m captured)
 | .a cs=>.a (FV.f_ m cs)
 | .t cs=>.t (FV.f_ m cs)
 | x=>x
def FV.f_ (m:Nat):List FV->List FV
 | []=>[]
 | x::xs=>FV.shift m x::FV.f_ m xs
end
def ah.shift (m:Nat):ah->ah
 | .box cs=>.box (FV.f_ m cs)
 | o=>o
structure St where
 vars:List FV
 base:List ah
 loc:List ah
 aS:Bool
def St.heap (st:St):Ref->Option ah
 | .loc i=>st.loc[i]?
 | .old i=>(st.base++st.loc)[i]?
def St.bu (st:St)(p:Ref)(o:ah):St :=
 match p with
 | .loc i=>{st with loc:=st.loc.set i o}
 | .old i =>
  {st with base := if i < st.base.length then st.base.set i o else st.base,
            loc := if i < st.base.length then st.loc else st.loc.set (i - st.base.length) o, aS := true }
def ah.view (ak sz off n:Nat):ah->Option (List D)
 | .row jE eQ es | .gK jE eQ es=>if ak=jE/\sz=eQ/\off+n<=es.length then some ((es.drop off).take n) else none
 | _=>none
def elems (st:St)(sz:Nat):FV->Option (List D)
 | .d (.n eQ)=>if sz=eQ then some [] else none
 | .d (.s eQ es)=>if sz=eQ then some es else none
 | .z eQ=>if sz=eQ then some [] else none
 | .ls p ak eQ off n=>if sz=eQ then(match st.heap p with | some o=>o.view ak sz off n | none=>none) else none
 | _=>none
def leave1 (st:St):FV->Option FV
 | .d x=>some (.d x.dz)
 | .z sz=>some (.d (.s sz []))
 | .ls p ak sz off n=>match elems st sz (.ls p ak sz off n) with
  | some es=>some (.d (.s sz es))
  | none=>none
 | x=>some x
def xU (st:St):List FV->Option (List FV)
 | []=>some []
 | x::r=>match leave1 st x,xU st r with
  | some y,some s=>some (y::s)
  | _,_=>none
def leaves (st:St):FV->Option FV
 | .d x=>some (.d x.norm)
 | .a cs=>match xU st cs with
  | some ds=>some (Sq ds)
  | none=>none
 | x=>leave1 st x
def fZ (st:St):List FV->Option (List FV)
 | []=>some []
 | x::r=>match leaves st x,fZ st r with
  | some y,some s=>some (y::s)
  | _,_=>none
def FV.nD:FV->List Ref
 | .ls p _ _ _ _=>[p]
 | _=>[]
def FV.rows:FV->List Ref
 | .a cs=>cs.flatMap FV.nD
 | .t cs=>cs.flatMap FV.nD
 | x=>x.nD
def ah.freeze:ah->ah
 | .row ak sz es=>.gK ak sz es
 | o=>o
def aJ (st:St):List Ref->St
 | []=>st
 | p::r=>match st.heap p with
  | some (.row ak sz es)=>aJ (st.bu p (.gK ak sz es)) r
  | _=>aJ st r
def D.isV:D->Bool
 | .v _=>true
 | _=>false
def scalar:FV->Bool
 | .d (.v _)=>true
 | .d (.t vs)=>vs.all D.isV
 | _=>false
inductive Arg where
 | var (i:Nat)
 | loc (j:Nat)
 | c (x:D)
 | g (k:Nat)
 deriving Inhabited
inductive K where
 | Ak (x:Arg)
 | pick (c a b:Arg)
 | bin (op:BinOp) (x y:Arg)
 | beq (neg:Bool) (x y:Arg)
 | aeq (neg:Bool) (len:Nat) (x y:Arg)
 | xA (kind:Nat) (neg:Bool) (x:Arg)
 | un (op:UnOp) (x:Arg)
 | conv (k:IntKind) (x:Arg)
 | box (x:Arg)
 | new (z:List D)
 | load (agg:Bool) (n:Nat) (p:Arg)
 | store (n:Nat) (p x:Arg)
 | Kb (off:Nat) (agg:Bool) (n:Nat) (p:Arg)
 | field (off:Nat) (agg:Bool) (n:Nat) (x:Arg)
 | OT (sz:Nat) (x i:Arg)
 | OU (len sz:Nat) (agg:Bool) (x i:Arg)
 | index (len sz:Nat) (agg:Bool) (x i:Arg)
 | uO (x i:Arg)
 | build (z:List D) (parts:List (Nat × Nat × Arg))
 | lit (sz:Nat) (agg:Bool) (z:List D) (len:Nat) (parts:List (Nat × Arg))
 | len (x:Arg)
 | Z7 (x:Arg)
 | cap (x:Arg)
 | maxi (x y:Arg)
 | Z8 (x y:Arg)
 | app (sz bytes:Nat) (x y:Arg)
 | slice (sz:Nat) (x:Arg) (lo hi:Option Arg)
 | G8 (x:Arg) (lo hi:Option Arg)
 | mk (sz bytes:Nat) (agg:Bool) (z:List D) (len cap:Arg)
 | ext (x:Arg) (i:Nat)
 | clo (g:Nat) (first captured:List Arg)
 | call (g:Nat) (args:List Arg)
 | lQ (f:Arg) (args:List Arg)
 | qJ (g:Nat) (args:List Arg)
 | lS (f:Arg) (args ps:List Arg)
 | jB (agg:Bool) (n:Nat) (p:Arg)
 | stop
 | Wy (sz bytes:Nat) (agg:Bool) (z:List D) (x n:Arg)
 | Kc
 | Wz (ok:Bool) (kind:Nat) (z:D) (m k:Arg)
 | M4 (kind:Nat) (m k x:Arg)
 | clr (sz:Nat) (agg:Bool) (z:List D) (x:Arg)
 | ja (n:Nat) (p x:Arg) (ps:List Arg)
 | mY (agg:Bool) (n:Nat) (p:Arg) (ps:List Arg)
 deriving Inhabited
def K.loud (q:Bool):K->Bool
 | .app _ _ (.c (.n _)) _=>false
 | .store .. | .app .. | .M4 .. | .lS .. | .clr .. | .ja ..=>true
 | .call .. | .lQ .. | .qJ .. => !q
 | _=>false
def K.mem:K->Bool
 | .lit _ _ _ nn _=>nn==0
 | .store .. | .app .. | .call .. | .lQ .. | .qJ .. | .lS .. | .jB .. | .mY .. | .load .. | .box .. | .new .. | .mk .. | .Wy .. | .Kc | .Wz .. | .M4 .. | .clr .. | .ja ..=>true
 | _=>false
structure jm where
 q:Bool
 guard:Option (Nat × Bool)
 k:K
 deriving Inhabited
inductive aF where
 | skip
 | region (ops:List jm) (outs apart:List (Nat × Nat))
 | seq (a b:aF)
 | cond (c:Arg) (a b:aF)
 | block (id:Nat) (b:aF)
 | loop (b:aF)
 | exit (id:Nat)
 | ret
 | kill (js:List Nat)
 deriving Inhabited
inductive Res where
 | var (j:Nat)
 | cell (j:Nat) (agg:Bool) (n:Nat)
 deriving Inhabited
structure bK where
 np:Nat
 nv:Nat
 ref:Bool
 res:List Res
 body:aF
 deriving Inhabited
abbrev bF:=Option (FV × Option (List ah))
structure Env where
 fn:Nat->Option bK
 d9:Nat->Option D
 iV:Nat->Option (List D->Option D)
 iH:Nat->Option (List FV->List ah->bF)
 mn:Prop:=False
 deq:(a b:List ah)->Decidable (a=b):=fun a b=>Classical.propDecidable (a=b)
def di (E:Env)(st:St)(env:List FV):Arg->Option FV
 | .var i=>st.vars[i]?
 | .loc j=>env[j]?
 | .c x=>some (.d x)
 | .g k=>match E.d9 k with
  | some x=>some (.rc x)
  | none=>none
def eZ (E:Env)(st:St)(env:List FV):List Arg->Option (List FV)
 | []=>some []
 | x::r=>match di E st env x,eZ E st env r with
  | some y,some s=>some (y::s)
  | _,_=>none
def gU (op:BinOp)(x y:Value):Option Value :=
 match x,y with
 | .int k a,.int k' b =>
  match op with
  | .shl=>if b<0 then none else some (.int k (k.wrap (a*2 ^ (min b.toNat k.bits))))
  | .shr=>if b<0 then none else some (.int k (a.fdiv (2 ^ (min b.toNat k.bits))))
  | op =>
   if k=k' then
    match op with
    | .add=>some (.int k (k.wrap (a+b)))
    | .sub=>some (.int k (k.wrap (a-b)))
    | .mul=>some (.int k (k.wrap (a*b)))
    | .quo=>if b=0 then none else some (.int k (k.wrap (a.tdiv b)))
    | .rem=>if b=0 then none else some (.int k (a.tmod b))
    | .and=>some (.int k (k.wrap (BitVec.ofInt k.bits a &&& BitVec.ofInt k.bits b).toNat))
    | .or=>some (.int k (k.wrap (BitVec.ofInt k.bits a ||| BitVec.ofInt k.bits b).toNat))
    | .xor=>some (.int k (k.wrap (BitVec.ofInt k.bits a ^^^ BitVec.ofInt k.bits b).toNat))
    | .andNot=>some (.int k (k.wrap (BitVec.ofInt k.bits a &&& ~~~ BitVec.ofInt k.bits b).toNat))
    | .eql=>some (.bool (a==b))
    | .neq=>some (.bool (a != b))
    | .lss=>some (.bool (a<b))
    | .leq=>some (.bool (a<=b))
    | .gtr=>some (.bool (a > b))
    | .geq=>some (.bool (a ≥ b))
    | _=>none
   else none
 | .string a,.string b =>
  match op with
  | .add=>if ((a.size+b.size:Nat):Int) > IntKind.i64.max then none else some (.string (a++b))
  | .eql=>some (.bool (a.toList==b.toList))
  | .neq=>some (.bool !(a.toList==b.toList))
  | .lss=>some (.bool (Op.bytesLess a.toList b.toList))
  | .leq=>some (.bool (Op.bytesLess a.toList b.toList||a.toList==b.toList))
  | .gtr=>some (.bool !(Op.bytesLess a.toList b.toList||a.toList==b.toList))
  | .geq=>some (.bool !(Op.bytesLess a.toList b.toList))
  | _=>none
 | _,_=>none
def unV (op:UnOp)(x:Value):Option Value :=
 match op,x with
 | .neg,.int k n=>some (.int k (k.wrap (0-n)))
 | .xor,.int k n=>some (.int k (k.wrap (BitVec.ofInt k.bits (if k.signed then -1 else k.max) ^^^ BitVec.ofInt k.bits n).toNat))
 | .not,.bool b=>some (.bool !b)
 | _,_=>none
def dG:List D->List D->Option Bool
 | [],[]=>some true
 | .v (.int k a)::r,.v (.int k' b)::s=>if k=k' then(match dG r s with | some t=>some (a==b&&t) | none=>none) else none
 | _,_=>none
def kV:Nat->D->D->Option Bool
 | 0,.v (.int k a),.v (.int k' b)=>if k=k' then some (a==b) else none
 | 1,.v (.string a),.v (.string b)=>some (a==b)
 | n+2,.a p,.a q=>if p.length=n then dG p q else none
 | _,_,_=>none
def lN:Nat->D->Bool
 | 0,.v (.int _ _)=>true
 | 1,.v (.string _)=>true
 | n+2,.a p=>p.length==n&&(dG p p).isSome
 | _,_=>false
def zo (kind:Nat)(k:D):List (D × D)->Option (Option D)
 | []=>some none
 | e::r=>match kV kind k e.1 with
  | some true=>some (some e.2)
  | some false=>zo kind k r
  | none=>none
def IZ (kind:Nat)(k x:D):List (D × D)->Option (List (D × D))
 | []=>some [(k,x)]
 | e::r=>match kV kind k e.1 with
  | some true=>some ((k,x)::r)
  | some false=>match IZ kind k x r with
   | some s=>some (e::s)
   | none=>none
  | none=>none
def AY (cells:List FV):List (Nat × Nat × FV)->Option (List FV)
 | []=>some cells
 | (off,size,x)::r =>
  if x.cells.length=size/\off+size<=cells.length/\x.cells.all FV.one then AY (splice cells off x.cells) r else none
def kR (agg:Bool)(sz:Nat)(x:FV):Option D :=
 match x with
 | .d y=>match y.norm with
  | .a cs=>if agg/\cs.length=sz/\cs.all D.one then some (.a cs) else none
  | z=>if !agg/\sz=1/\z.one then some z else none
 | _=>none
def uw (es:List D):List (Nat × D)->Option (List D)
 | []=>some es
 | (i,x)::r=>if i<es.length then uw (es.set i x) r else none
def most:Nat:=2 ^ 40
def F8:FV->Option Int
 | .d (.v (.int _ n))=>some n
 | _=>none
def St.push (st:St)(o:ah):St:={st with loc:=st.loc++[o]}
def eD (rec:Nat->List FV->List ah->bF)(draw:Bool)(st:St)(g:Nat)(xs:List FV)(rows:List Ref):Option (FV × St) :=
 match rec g xs [] with
 | some (v,none)=>if scalar v\/rows=[] then some (v,st) else if draw then none else some (v,aJ st rows)
 | some (v,some B)=>if rows=[] then some (v.shift st.loc.length,{st with loc:=st.loc++B.map (ah.shift st.loc.length)})
  else if draw then none else some (v.shift st.loc.length,{aJ st rows with loc:=(aJ st rows).loc++B.map (ah.shift st.loc.length)})
 | none=>none
def AX (n:Nat):FV->FV
 | .ls (.old i) ak sz off len=>if n<=i then .ls (.loc (i-n)) ak sz off len else .ls (.old i) ak sz off len
 | v=>v
def dx (rec:Nat->List FV->List ah->bF)(draw:Bool)(st:St)(g:Nat)(xs:List FV)(rows:List Ref):Option (FV × St) :=
 match rec g (FV.aP st.base.length xs) (((aJ st rows).base++(aJ st rows).loc).map (ah.az st.base.length)) with
 | some (v,none)=>if scalar v\/rows=[] then some (v,st) else if draw then none else some (v,aJ st rows)
 | some (v,some B)=>if draw then none else some (AX st.base.length v,{st with base:=B.take st.base.length,loc:=B.drop st.base.length,aS:=st.aS||decide (0<st.base.length)})
 | none=>none
def fK (rec:Nat->List FV->List ah->bF)(draw:Bool)(st:St)(g:Nat)(args:List FV):Option (FV × St) :=
 match fZ st args with
 | none=>none
 | some xs=>if (jU xs).isSome then eD rec draw st g xs (args.flatMap FV.rows) else dx rec draw st g xs (args.flatMap FV.rows)
def dV (E:Env)(rec:Nat->List FV->List ah->bF)(st:St)(g:Nat)(args:List FV):Option (FV × St) :=
 match fZ st args with
 | none=>none
 | some xs=>if (args.flatMap FV.rows).isEmpty then(if (jU xs).isSome then eD rec true st g xs [] else
  match rec g (FV.aP st.base.length xs) ((st.base++st.loc).map (ah.az st.base.length)) with
  | some (v,none)=>some (v,st)
  | some (v,some B)=>@ite _ ((B.drop st.base.length).take st.loc.length=st.loc.map (ah.az st.base.length)) (E.deq _ _)
    (some (AX st.base.length v,{st with base:=B.take st.base.length,loc:=st.loc++B.drop (st.base.length+st.loc.length),aS:=st.aS||decide (0<st.base.length)})) none
  | none=>none) else none
def gQ (E:Env)(st:St)(env:List FV):List Arg->Bool
 | []=>true
 | a::r=>(match di E st env a with
  | some (.r (.loc _) _)=>true
  | _=>false)&&gQ E st env r
def jY:FV->Bool
 | .d _=>true
 | _=>false
def j4 (x:Option Arg)(dflt:Int)(get:Arg->Option FV):Option Int :=
 match x with
 | none=>some dflt
 | some a=>match get a with
  | some v=>F8 v
  | none=>none
def GD (st:St):FV->Bool
 | .d _=>true
 | .r p _ | .ls p _ _ _ _ | .m p=>decide (p.abs st.base.length<st.base.length+st.loc.length)
 | _=>false
def pQ (E:Env)(draw:Bool)(st:St)(env:List FV)(agg:Bool)(n:Nat)(p:Arg):Option (FV × St) :=
 match di E st env p with
  | some (.r q off)=>match st.heap q with
   | some (.box cs)=>match qV cs agg off n with
    | some v=>if draw && !jY v then none else some (v,st)
    | none=>none
   | _=>none
  | some (.e q ak sz i off)=>match st.heap q with
   | some (.row jE eQ es)=>if ak=jE/\sz=eQ then(match es[i]? with
     | some x=>match iq x.cells agg off n with
      | some v=>some (.d v,st)
      | none=>none
     | none=>none) else none
   | some (.gK jE eQ es)=>if ak=jE/\sz=eQ then(match es[i]? with
     | some x=>match iq x.cells agg off n with
      | some v=>some (.d v,st)
      | none=>none
     | none=>none) else none
   | _=>none
  | some (.rc x)=>match iq x.cells agg 0 n with
   | some v=>some (.d v,st)
   | none=>none
  | _=>none
def checked (st:St):Option (FV × St)->Option (FV × St)
 | some (v,s)=>if GD st v then some (v,s) else none
 | none=>none
def AV (E:Env)(st:St)(env:List FV)(n:Nat)(p x:Arg):Option (FV × St) :=
 match di E st env p,di E st env x with
  | some (.r q off),some v=>match st.heap q with
   | some (.box cs) =>
    if v.cells.length=n/\off+n<=cs.length/\v.cells.all FV.one then some (.d (.t []),st.bu q (.box (splice cs off v.cells))) else none
   | _=>none
  | some (.e q ak sz i off),some (.d v)=>match st.heap q with
   | some (.row jE eQ es) =>
    if ak=jE/\sz=eQ then(match es[i]? with
     | some (.a cs)=>if v.norm.cells.length=n/\off+n<=cs.length/\v.norm.cells.all D.one then
       some (.d (.t []),st.bu q (.row ak sz (es.set i (.a (splice cs off v.norm.cells))))) else none
     | some _=>if n=1/\off=0/\v.norm.one then some (.d (.t []),st.bu q (.row ak sz (es.set i v.norm))) else none
     | none=>none) else none
   | _=>none
  | _,_=>none
def FV.target:FV->Option Ref
 | .r q _=>some q
 | .e q _ _ _ _=>some q
 | _=>none
def nS (E:Env)(st:St)(env:List FV)(p:Arg):List Arg->Bool
 | []=>true
 | b::r=>(match di E st env p,di E st env b with
  | some x,some y=>(match x.target,y.target with
   | some q,some q'=>q.abs st.base.length != q'.abs st.base.length
   | _,_=>false)
  | _,_=>false)&&nS E st env p r
def mi (E:Env)(st:St)(env:List FV)(p:Arg):List Arg->Bool
 | []=>true
 | b::r=>(match di E st env p,di E st env b with
  | some x,some (.ls q _ _ _ _)=>(match x.target with
   | some q'=>q.abs st.base.length != q'.abs st.base.length
   | none=>true)
  | some _,some (.d _)=>true
  | _,_=>false)&&mi E st env p r
def runK (E:Env)(rec:Nat->List FV->List ah->bF)(draw:Bool)(st:St)(env:List FV)(k:K):Option (FV × St) :=
 let A:=di E st env
 match k with
 | .Ak x=>match A x with
  | some v=>some (v,st)
  | none=>none
 | .pick c a b=>match A c with
  | some (.d (.v (.bool t)))=>match A (if t then a else b) with
   | some v=>some (v,st)
   | none=>none
  | _=>none
 | .bin op x y=>match A x,A y with
  | some (.d (.v p)),some (.d (.v q))=>match gU op p q with
   | some v=>some (.d (.v v),st)
   | none=>none
  | _,_=>none
 | .beq neg x y=>match A x,A y with
  | some (.d (.v (.bool p))),some (.d (.v (.bool q)))=>some (.d (.v (.bool (if neg then !(p==q) else p==q))),st)
  | _,_=>none
 | .aeq neg len x y=>match A x,A y with
  | some (.d (.a p)),some (.d (.a q))=>if p.length=len then(match dG p q with
   | some t=>some (.d (.v (.bool (if neg then !t else t))),st)
   | none=>none) else none
  | _,_=>none
 | .xA kind neg x=>match kind,A x with
  | 0,some (.d (.n _))=>some (.d (.v (.bool (!neg))),st)
  | 0,some (.d (.s _ (_::_)))=>some (.d (.v (.bool neg)),st)
  | 0,some (.z _)=>some (.d (.v (.bool neg)),st)
  | 1,some (.d (.v .nilIface))=>some (.d (.v (.bool (!neg))),st)
  | 1,some (.d .i)=>some (.d (.v (.bool neg)),st)
  | _,_=>none
 | .un op x=>match A x with
  | some (.d (.v p))=>match unV op p with
   | some v=>some (.d (.v v),st)
   | none=>none
  | _=>none
 | .conv k x=>match A x with
  | some (.d (.v (.int _ n)))=>some (.d (.v (.int k (k.wrap n))),st)
  | _=>none
 | .box x=>match A x with
  | some v=>if v.cells.all FV.one then some (.r (.loc st.loc.length) 0,st.push (.box v.cells)) else none
  | none=>none
 | .new z=>some (.r (.loc st.loc.length) 0,st.push (.box (z.map .d)))
 | .load agg n p=>match A p with
  | some (.r q off)=>match st.heap q with
   | some (.box cs)=>match qV cs agg off n with
    | some v=>if draw && !jY v then none else some (v,st)
    | none=>none
   | _=>none
  | some (.e q ak sz i off)=>match st.heap q with
   | some (.row jE eQ es)=>if ak=jE/\sz=eQ then(match es[i]? with
     | some x=>match iq x.cells agg off n with
      | some v=>some (.d v,st)
      | none=>none
     | none=>none) else none
   | some (.gK jE eQ es)=>if ak=jE/\sz=eQ then(match es[i]? with
     | some x=>match iq x.cells agg off n with
      | some v=>some (.d v,st)
      | none=>none
     | none=>none) else none
   | _=>none
  | some (.rc x)=>match iq x.cells agg 0 n with
   | some v=>some (.d v,st)
   | none=>none
  | _=>none
 | .store n p x=>match A p,A x with
  | some (.r q off),some v=>match st.heap q with
   | some (.box cs) =>
    if v.cells.length=n/\off+n<=cs.length/\v.cells.all FV.one then some (.d (.t []),st.bu q (.box (splice cs off v.cells))) else none
   | _=>none
  | some (.e q ak sz i off),some (.d v)=>match st.heap q with
   | some (.row jE eQ es) =>
    if ak=jE/\sz=eQ then(match es[i]? with
     | some (.a cs)=>if v.norm.cells.length=n/\off+n<=cs.length/\v.norm.cells.all D.one then
       some (.d (.t []),st.bu q (.row ak sz (es.set i (.a (splice cs off v.norm.cells))))) else none
     | some _=>if n=1/\off=0/\v.norm.one then some (.d (.t []),st.bu q (.row ak sz (es.set i v.norm))) else none
     | none=>none) else none
   | _=>none
  | _,_=>none
 | .Kb off agg n p=>match A p with
  | some (.r q o)=>some (.r q (o+off),st)
  | some (.e q ak sz i o)=>some (.e q ak sz i (o+off),st)
  | some (.rc x)=>match iq x.cells agg off n with
   | some v=>some (.rc v,st)
   | none=>none
  | _=>none
 | .field off agg n x=>match A x with
  | some (.a cs)=>match qV cs agg off n with
   | some v=>some (v,st)
   | none=>none
  | some (.d (.a cs))=>match iq cs agg off n with
   | some v=>some (.d v,st)
   | none=>none
  | _=>none
 | .OT sz x i=>match A x,A i with
  | some (.ls q ak eQ off n),some (.d (.v (.int _ j)))=>if sz=eQ/\0<=j/\j<n then some (.e q ak sz (off+j.toNat) 0,st) else none
  | some (.d (.s eQ es)),some (.d (.v (.int _ j)))=>if sz=eQ/\0<=j then(match es[j.toNat]? with
    | some x=>some (.rc x,st)
    | none=>none) else none
  | _,_=>none
 | .OU len sz agg x i=>match A x,A i with
  | some (.r q o),some (.d (.v (.int _ j)))=>if 0<=j/\j<len then some (.r q (o+j.toNat*sz),st) else none
  | some (.e q ak s m o),some (.d (.v (.int _ j)))=>if 0<=j/\j<len then some (.e q ak s m (o+j.toNat*sz),st) else none
  | some (.rc x),some (.d (.v (.int _ j)))=>if 0<=j/\j<len then(match iq x.cells agg (j.toNat*sz) sz with
    | some v=>some (.rc v,st)
    | none=>none) else none
  | _,_=>none
 | .index len sz agg x i=>match A x,A i with
  | some (.d (.a cs)),some (.d (.v (.int _ j)))=>if 0<=j/\j<len then(match iq cs agg (j.toNat*sz) sz with
    | some v=>some (.d v,st)
    | none=>none) else none
  | _,_=>none
 | .uO x i=>match A x,A i with
  | some (.d (.v (.string s))),some (.d (.v (.int _ j)))=>if 0<=j then(match s[j.toNat]? with
    | some b=>some (.d (.v (.int .u8 b.toNat)),st)
    | none=>none) else none
  | _,_=>none
 | .build z parts=>match eZ E st env (parts.map (·.2.2)) with
  | some xs=>match AY (z.map .d) (((parts.map (·.1)).zip ((parts.map (·.2.1)).zip xs))) with
   | some cs=>some (Sq cs,st)
   | none=>none
  | none=>none
 | .lit sz agg z len parts=>match eZ E st env (parts.map (·.2)) with
  | some xs=>match xs.mapM (kR agg sz) with
   | some ys=>match uw (List.replicate len (if agg then .a z else z.headD (.t []))) ((parts.map (·.1)).zip ys) with
    | some es=>if len=0 then some (.ls (.loc st.loc.length) 0 sz 0 0,st.push (.row 0 sz [])) else some (.d (.s sz es),st)
    | none=>none
   | none=>none
  | none=>none
 | .len x=>match A x with
  | some (.d (.n _))=>some (.d (.v (.int .i64 0)),st)
  | some (.d (.s _ es))=>some (.d (.v (.int .i64 es.length)),st)
  | some (.ls _ _ _ _ n)=>some (.d (.v (.int .i64 n)),st)
  | _=>none
 | .Z7 x=>match A x with
  | some (.d (.v (.string s)))=>some (.d (.v (.int .i64 s.size)),st)
  | _=>none
 | .cap x=>match A x with
  | some (.d (.n _))=>some (.d (.v (.int .i64 0)),st)
  | _=>none
 | .stop=>none
 | .Wy sz bytes agg z x n=>match A x,A n with
  | some (.d (.n eQ)),some (.d (.v (.int _ l))) =>
   if sz=eQ/\0<l/\l*bytes<=most/\l<=most then
    some (.ls (.loc st.loc.length) 0 sz 0 l.toNat,st.push (.row 0 sz (List.replicate l.toNat (if agg then .a z else z.headD (.t []))))) else none
  | _,_=>none
 | .maxi x y=>match A x,A y with
  | some (.d (.v (.int k a))),some (.d (.v (.int _ b)))=>some (.d (.v (.int k (if b > a then b else a))),st)
  | _,_=>none
 | .Z8 x y=>match A x,A y with
  | some (.d (.v (.int k a))),some (.d (.v (.int _ b)))=>some (.d (.v (.int k (if b<a then b else a))),st)
  | _,_=>none
 | .app sz bytes x y=>match A x,A y with
  | some v,some w=>match elems st sz w with
   | none=>none
   | some ys=>match v with
    | .d (.n eQ)=>if sz=eQ/\ys.length*bytes<=most/\ys.length<=most then
      (if ys.isEmpty then some (.d (.n sz),st) else some (.ls (.loc st.loc.length) 0 sz 0 ys.length,st.push (.row 0 sz ys))) else none
    | .ls q ak eQ off n=>match st.heap q with
     | some (.row jE WA es)=>if sz=eQ/\sz=WA/\ak=jE/\off+n<=es.length/\(n+ys.length)*bytes<=most/\n+ys.length<=most then
       some (.ls q (ak+1) sz 0 (n+ys.length),st.bu q (.row (ak+1) sz ((es.drop off).take n++ys))) else none
     | _=>none
    | _=>none
  | _,_=>none
 | .slice sz x lo hi=>match A x with
  | some (.d (.s eQ es))=>match j4 lo 0 A,j4 hi es.length A with
   | some l,some h=>if sz=eQ/\0<=l/\l<=h/\h<=es.length then some (.d (.s sz ((es.drop l.toNat).take (h.toNat-l.toNat))),st) else none
   | _,_=>none
  | some (.d (.n eQ))=>match j4 lo 0 A,j4 hi 0 A with
   | some l,some h=>if sz=eQ/\l=0/\h=0 then some (.d (.n sz),st) else none
   | _,_=>none
  | some (.ls q ak eQ off n)=>match j4 lo 0 A,j4 hi n A with
   | some l,some h=>if sz=eQ/\0<=l/\l<=h/\h<=n then some (.ls q ak sz (off+l.toNat) (h.toNat-l.toNat),st) else none
   | _,_=>none
  | _=>none
 | .G8 x lo hi=>match A x with
  | some (.d (.v (.string s)))=>match j4 lo 0 A,j4 hi s.size A with
   | some l,some h=>if 0<=l/\l<=h/\h<=s.size then some (.d (.v (.string (s.extract l.toNat h.toNat))),st) else none
   | _,_=>none
  | _=>none
 | .mk sz bytes agg z len cap=>match A len,A cap with
  | some (.d (.v (.int _ l))),some (.d (.v (.int _ c))) =>
   if 0<=l/\l<=c/\c*bytes<=most/\c<=most then
    some (.ls (.loc st.loc.length) 0 sz 0 l.toNat,st.push (.row 0 sz (List.replicate l.toNat (if agg then .a z else z.headD (.t []))))) else none
  | _,_=>none
 | .ext x i=>match A x with
  | some (.d (.t vs))=>match vs[i]? with
   | some v=>some (.d v,st)
   | none=>none
  | some (.t vs)=>match vs[i]? with
   | some v=>some (v,st)
   | none=>none
  | _=>none
 | .clo g first captured=>match eZ E st env first,eZ E st env captured with
  | some fs,some cs=>if fs.isEmpty/\cs.isEmpty then some (.d (.fn g),st) else some (.f g fs cs,st)
  | _,_=>none
 | .call g args=>match eZ E st env args with
  | some xs=>fK rec draw st g xs
  | none=>none
 | .lQ f args=>match A f,eZ E st env args with
  | some (.d (.fn g)),some xs=>fK rec draw st g xs
  | some (.f g first captured),some xs=>fK rec draw st g (first++xs++captured)
  | _,_=>none
 | .qJ g args=>match eZ E st env args with
  | some xs=>dx rec draw st g xs []
  | none=>none
 | .jB agg n p=>checked st (pQ E draw st env agg n p)
 | .mY agg n p ps=>if mi E st env p ps then checked st (pQ E draw st env agg n p) else none
 | .lS f args ps=>if gQ E st env ps then(match A f,eZ E st env args with
  | some (.d (.fn g)),some xs=>dV E rec st g xs
  | some (.f g first captured),some xs=>dV E rec st g (first++xs++captured)
  | _,_=>none) else none
 | .Kc=>some (.m (.loc st.loc.length),st.push (.map []))
 | .Wz ok kind z m k=>match A m,A k with
  | some (.m q),some (.d kd)=>if lN kind kd then(match st.heap q with
   | some (.map es)=>match zo kind kd es with
    | some (some x)=>some (.d (if ok then .t [x,.v (.bool true)] else x),st)
    | some none=>some (.d (if ok then .t [z,.v (.bool false)] else z),st)
    | none=>none
   | _=>none) else none
  | _,_=>none
 | .M4 kind m k x=>match A m,A k,A x with
  | some (.m q),some (.d kd),some (.d v)=>if lN kind kd then(match st.heap q with
   | some (.map es)=>match IZ kind kd v es with
    | some es'=>some (.d (.t []),st.bu q (.map es'))
    | none=>none
   | _=>none) else none
  | _,_,_=>none
 | .ja n p x ps=>if nS E st env p ps then AV E st env n p x else none
 | .clr sz agg z x=>match A x with
  | some (.d (.n eQ))=>if sz=eQ then some (.d (.t []),st) else none
  | some (.ls q ak eQ off n)=>if n=0 then some (.d (.t []),st) else(match st.heap q with
   | some (.row jE WA es)=>if sz=eQ/\sz=WA/\ak=jE/\off+n<=es.length then
     some (.d (.t []),st.bu q (.row ak sz (splice es off (List.replicate n (if agg then .a z else z.headD (.t [])))))) else none
   | _=>none)
  | _=>none
def lJ (env:List FV):Option (Nat × Bool)->Option Bool
 | none=>some true
 | some (j,want)=>match env[j]? with
  | some (.d (.v (.bool b)))=>some (b==want)
  | some (.d (.t []))=>some false
  | _=>none
def dU (E:Env)(rec:Nat->List FV->List ah->bF):List jm->St->List FV->Option (St × List FV)
 | [],st,env=>some (st,env)
 | o::rest,st,env =>
  match lJ env o.guard with
  | none=>none
  | some false=>dU E rec rest st (env++[.d (.t [])])
  | some true=>match runK E rec o.q st env o.k with
   | none=>none
   | some (v,st')=>dU E rec rest st' (env++[v])
def jk (vars:List FV)(env:List FV):List (Nat × Nat)->List FV
 | []=>vars
 | (i,j)::r=>jk (vars.set i (env.getD j .u)) env r
def mI (vars:List FV):List Nat->List FV
 | []=>vars
 | i::r=>mI (vars.set i .u) r
def kJ (st:St):List (Nat × Nat)->Bool
 | []=>true
 | (i,j)::r=>(match st.vars[i]?,st.vars[j]? with
  | some (.r p _),some (.r q _)=>p.abs st.base.length != q.abs st.base.length
  | _,_=>false)&&kJ st r
inductive Out where
 | norm
 | exit (id:Nat)
 | ret
 deriving DecidableEq,Inhabited
def F6 (st:St):Res->Option FV
 | .var j=>st.vars[j]?
 | .cell j agg n=>match st.vars[j]? with
  | some (.r q off)=>match st.heap q with
   | some (.box cs)=>qV cs agg off n
   | _=>none
  | _=>none
def lL (st:St):List Res->Option (List FV)
 | []=>some []
 | x::r=>match F6 st x,lL st r with
  | some y,some s=>some (y::s)
  | _,_=>none
def oneOf:List FV->FV
 | [y]=>y
 | ys=>uz ys
def fI (y:FV)(st:St):FV × Option (List ah) :=
 if jY y && !st.aS then(y,none)
 else(y.az st.base.length,some ((st.base++st.loc).map (ah.az st.base.length)))
def finish (F:bK)(st:St):bF :=
 match lL st F.res with
 | none=>none
 | some xs=>if F.ref then some (fI (oneOf xs) st) else match fZ st xs with
  | none=>none
  | some ys=>some (fI (oneOf ys) (aJ st (xs.flatMap FV.rows)))
def enter (E:Env)(g:Nat)(args:List FV)(B:List ah)(run:aF->St->Option (Out × St)):bF :=
 match E.iV g with
 | some p=>match B,jU args with
  | [],some ds=>match p ds with
   | some v=>some (.d v,none)
   | none=>none
  | _,_=>none
 | none=>match E.fn g with
  | none=>match E.iH g with
   | some p=>match p args B with
    | some (v,some B')=>if B.length<=B'.length then some (v,some B') else none
    | r=>r
   | none=>none
  | some F =>
   if args.length=F.np then
    match run F.body {vars:=args++List.replicate (F.nv-F.np) .u,base:=B,loc:=[],aS:=false} with
    | some (.exit _,_)=>none
    | some (_,st')=>finish F st'
    | none=>none
   else none
def exec (E:Env):Nat->aF->St->Option (Out × St)
 | 0,_,_=>none
 | n+1,c,st =>
  let ai':Nat->List FV->List ah->bF:=fun g args B=>enter E g args B fun F st'=>exec E n F st'
  match c with
  | .skip=>some (.norm,st)
  | .region ops outs apart=>if kJ st apart then(match dU E ai' ops st [] with
   | some (st',env)=>some (.norm,{st' with vars:=jk st'.vars env outs})
   | none=>none) else none
  | .seq a b=>match exec E n a st with
   | some (.norm,st')=>exec E n b st'
   | r=>r
  | .cond x a b=>match di E st [] x with
   | some (.d (.v (.bool t)))=>exec E n (if t then a else b) st
   | _=>none
  | .block id b=>match exec E n b st with
   | some (.exit id',st')=>if id'=id then some (.norm,st') else some (.exit id',st')
   | r=>r
  | .loop b=>match exec E n b st with
   | some (.norm,st')=>exec E n (.loop b) st'
   | r=>r
  | .exit id=>some (.exit id,st)
  | .ret=>some (.ret,st)
  | .kill js=>some (.norm,{st with vars:=mI st.vars js})
def cu (E:Env)(n:Nat)(g:Nat)(args:List FV)(B:List ah):bF:=enter E g args B (exec E n)
def aX (P:Program)(t:TypeId):Option Nat :=
 match P.info? t with
 | some i=>some i.size
 | none=>none
def mZ (P:Program)(t:TypeId):Option Nat :=
 match P.info? t with
 | some i=>some i.bytes
 | none=>none
def kC (P:Program)(t:TypeId):Option Bool :=
 match P.underlying t with
 | some (.struct _)=>some true
 | some (.array _ _)=>some true
 | some _=>some false
 | none=>none
def hints (P:Program):Nat->TypeId->List Nat
 | 0,_=>[]
 | d+1,t =>
  match P.underlying t with
  | some (.slice e)=>[(aX P e).getD 0]
  | some (.struct fs)=>fs.toList.flatMap fun f=>hints P d f.type
  | some (.array n e)=>(List.replicate n (hints P d e)).flatten
  | _=>[0]
structure Cx where
 gid:FuncId->Option Nat
 vars:List Tmp
 kills:Nat->List Nat
 ntmps:Nat
 uF:FuncId->Bool:=fun _=>false
 isRef:Bool:=false
 WB:Bool:=false
 far:Bool:=false
def yU (cx:Cx)(hint:Nat):Value->Option D
 | .slice none 0 0=>some (.n hint)
 | .func (.func f) first captured=>if first.size=0/\captured.size=0 then(match cx.gid f with
  | some g=>some (.fn g)
  | none=>none) else none
 | .func _ _ _=>none
 | .tuple _=>none
 | .agg _=>none
 | x=>some (.v x)
def tZ (cx:Cx):List Nat->List Value->Option (List D)
 | _,[]=>some []
 | hs,x::r=>match yU cx (hs.headD 0) x,tZ cx hs.tail r with
  | some y,some s=>some (y::s)
  | _,_=>none
def G9 (cx:Cx)(hs:List Nat):Value->Option D
 | .agg cs=>match tZ cx hs cs.toList with
  | some ds=>some (.a ds)
  | none=>none
 | x=>yU cx (hs.headD 0) x
def jX (cx:Cx)(P:Program)(t:TypeId):Option (List D) :=
 match P.info? t with
 | some i=>match i.zero with
  | some z=>tZ cx (hints P 8 t) z.cells.toList
  | none=>none
 | none=>none
def fJ (aL:List (Option Tmp))(t:Tmp):Option Nat :=
 match aL.reverse.idxOf? (some t) with
 | some i=>some (aL.length-1-i)
 | none=>none
def iT (P:Program)(cx:Cx)(aL:List (Option Tmp))(ty:TypeId):Operand->Option Arg
 | .tmp t=>match fJ aL t with
  | some j=>some (.loc j)
  | none=>match cx.vars.idxOf? t with
   | some j=>some (.var j)
   | none=>none
 | .const v=>match G9 cx (hints P 8 ty) v with
  | some x=>some (.c x)
  | none=>none
 | .func f=>match cx.gid f with
  | some g=>some (.c (.fn g))
  | none=>none
 | .global k=>some (.g k)
def gV (P:Program)(cx:Cx)(aL:List (Option Tmp)):List TypeId->List Operand->Option (List Arg)
 | _,[]=>some []
 | vk,x::r=>match iT P cx aL (vk.headD 0) x,gV P cx aL vk.tail r with
  | some y,some s=>some (y::s)
  | _,_=>none
def vz (P:Program)(cx:Cx)(aL:List (Option Tmp)):Option Operand->Option (Option Arg)
 | none=>some none
 | some x=>match iT P cx aL 0 x with
  | some y=>some (some y)
  | none=>none
def p8 (P:Program)(cx:Cx)(aL:List (Option Tmp))(place:Nat->Option (Nat × TypeId)):List (Nat × Operand)->Option (List (Nat × Nat × Arg))
 | []=>some []
 | (i,x)::r=>match place i with
  | none=>none
  | some (off,ty)=>match aX P ty,iT P cx aL ty x,p8 P cx aL place r with
   | some n,some y,some s=>some ((off,n,y)::s)
   | _,_,_=>none
def OV (P:Program)(cx:Cx)(aL:List (Option Tmp))(op:BinOp)(xType:TypeId)(x y:Operand)(yType:TypeId):Option K :=
 match iT P cx aL xType x,iT P cx aL yType y with
 | some a,some b=>match P.underlying xType with
  | some (.int _)=>some (.bin op a b)
  | some .string=>some (.bin op a b)
  | some .bool=>match op with
   | .eql=>some (.beq false a b)
   | .neq=>some (.beq true a b)
   | _=>none
  | some (.array len e)=>match op,P.underlying e,aX P e with
   | .eql,some (.int _),some 1=>if P.eqGuardType P.depth xType then none else some (.aeq false len a b)
   | .neq,some (.int _),some 1=>if P.eqGuardType P.depth xType then none else some (.aeq true len a b)
   | _,_,_=>none
  | some (.slice _)=>match y,op with
   | .const (.slice none 0 0),.eql=>some (.xA 0 false a)
   | .const (.slice none 0 0),.neq=>some (.xA 0 true a)
   | _,_=>none
  | some (.interface _)=>match y,op with
   | .const .nilIface,.eql=>some (.xA 1 false a)
   | .const .nilIface,.neq=>some (.xA 1 true a)
   | _,_=>none
  | _=>none
 | _,_=>none
def Ke (P:Program)(k:TypeId):Option Nat :=
 match P.underlying k with
 | some (.int _)=>some 0
 | some .string=>some 1
 | some (.array n e)=>match P.underlying e,aX P e with
  | some (.int _),some 1=>some (n+2)
  | _,_=>none
 | _=>none
def zeroV (cx:Cx)(P:Program)(e:TypeId):Option D :=
 match P.info? e with
 | some i=>match i.zero with
  | some z=>G9 cx (hints P 8 e) z
  | none=>none
 | none=>none
def aV (P:Program)(cx:Cx)(aL:List (Option Tmp))(o:Oper):Option K :=
 let A:=iT P cx aL
 match o.op with
 | .move x | .assign x=>match A o.type x with
  | some a=>some (.Ak a)
  | none=>none
 | .pick c a b=>match A 0 c,A o.type a,A o.type b with
  | some c,some a,some b=>some (.pick c a b)
  | _,_,_=>none
 | .alloc e=>match jX cx P e with
  | some z=>some (.new z)
  | none=>none
 | .box e x=>match A e x with
  | some a=>some (.box a)
  | none=>none
 | .load t x=>match A 0 x,kC P t,aX P t with
  | some a,some g,some n=>some (.load g n a)
  | _,_,_=>none
 | .store t x y=>match A 0 x,A t y,aX P t with
  | some a,some b,some n=>some (.store n a b)
  | _,_,_=>none
 | .nilCheck x=>match A 0 x with
  | some a=>some (.Kb 0 false 1 a)
  | none=>none
 | .fieldAddr s x i=>match P.underlying s with
  | some (.struct fs)=>match fs[i]? with
   | some f=>match A 0 x,kC P f.type,aX P f.type with
    | some a,some g,some n=>if n=0 then none else some (.Kb f.offset g n a)
    | _,_,_=>none
   | none=>none
  | _=>none
 | .field s x i=>match P.underlying s with
  | some (.struct fs)=>match fs[i]? with
   | some f=>match A s x,kC P f.type,aX P f.type with
    | some a,some g,some n=>some (.field f.offset g n a)
    | _,_,_=>none
   | none=>none
  | _=>none
 | .indexAddr t x ix=>match P.underlying t with
  | some (.slice e)=>match A t x,A 0 ix,aX P e with
   | some a,some b,some n=>some (.OT n a b)
   | _,_,_=>none
  | some (.array len e)=>match A 0 x,A 0 ix,aX P e,kC P e with
   | some a,some b,some n,some g=>some (.OU len n g a b)
   | _,_,_,_=>none
  | _=>none
 | .index t x ix=>match P.underlying t with
  | some (.array len e)=>match A t x,A 0 ix,aX P e,kC P e with
   | some a,some b,some n,some g=>some (.index len n g a b)
   | _,_,_,_=>none
  | some .string=>match A t x,A 0 ix with
   | some a,some b=>some (.uO a b)
   | _,_=>none
  | _=>none
 | .build t parts=>match P.underlying t,jX cx P t with
  | some (.struct fs),some z=>if fs.toList.any (fun f=>(aX P f.type).isNone) then none else match p8 P cx aL (fun i=>match fs[i]? with | some f=>some (f.offset,f.type) | none=>none) parts.toList with
   | some ps=>some (.build z ps)
   | none=>none
  | some (.array _ e),some z=>match aX P e with
   | some n=>match p8 P cx aL (fun i=>some (i*n,e)) parts.toList with
    | some ps=>some (.build z ps)
    | none=>none
   | none=>none
  | _,_=>none
 | .buildSlice t len parts=>match P.underlying t with
  | some (.slice e)=>match aX P e,kC P e,jX cx P e,gV P cx aL (parts.toList.map fun _=>e) (parts.toList.map (·.2)) with
   | some n,some g,some z,some as=>if n=0\/len > 1000\/n > 1000\/z.length≠n\/(g=false/\n≠1) then none else some (.lit n g (z.map D.dz) len ((parts.toList.map (·.1)).zip as))
   | _,_,_,_=>none
  | _=>none
 | .makeSlice t l c=>match P.underlying t with
  | some (.slice e)=>match aX P e,mZ P e,kC P e,jX cx P e,A 0 l,A 0 c with
   | some n,some b,some g,some z,some a,some a'=>if n=0\/z.length≠n\/(g=false/\n≠1) then none else some (.mk n b g (z.map D.dz) a a')
   | _,_,_,_,_,_=>none
  | _=>none
 | .slice t x lo hi none=>match P.underlying t with
  | some (.slice e)=>match aX P e,A t x,vz P cx aL lo,vz P cx aL hi with
   | some n,some a,some l,some h=>if n=0 then none else some (.slice n a l h)
   | _,_,_,_=>none
  | some .string=>match A t x,vz P cx aL lo,vz P cx aL hi with
   | some a,some l,some h=>some (.G8 a l h)
   | _,_,_=>none
  | _=>none
 | .extract x i=>match A 0 x with
  | some a=>some (.ext a i)
  | none=>none
 | .makeFunc (.func f) first captured=>match cx.gid f,gV P cx aL [] first.toList,gV P cx aL [] captured.toList with
  | some g,some fs,some cs=>some (.clo g fs cs)
  | _,_,_=>none
 | .binOp op xType x y yType=>OV P cx aL op xType x y yType
 | .unOp op t x=>match A t x with
  | some a=>some (.un op a)
  | none=>none
 | .convert src dst x=>match P.underlying src,P.underlying dst with
  | some (.int _),some (.int k)=>match A src x with
   | some a=>some (.conv k a)
   | none=>none
  | _,_=>none
 | .panic _=>some .stop
 | .makeInterface _ _=>some .stop
 | .makeMap t none=>match P.underlying t with
  | some (.map _ _)=>some .Kc
  | _=>none
 | .lookup t x ix ok=>match P.underlying t with
  | some (.map k e)=>match A t x,A k ix,zeroV cx P e,Ke P k with
   | some a,some b,some z,some kind=>some (.Wz ok kind z a b)
   | _,_,_,_=>none
  | _=>none
 | .mapUpdate t m k x=>match P.underlying t with
  | some (.map kt e)=>match A t m,A kt k,A e x,Ke P kt with
   | some a,some b,some c,some kind=>some (.M4 kind a b c)
   | _,_,_,_=>none
  | _=>none
 | .call c=>match c.callee with
  | .value (.func f)=>match cx.gid f,gV P cx aL c.argTypes.toList c.args.toList with
   | some g,some as=>some (if cx.uF f then .qJ g as else if cx.WB&&cx.far then .lQ (.c (.fn g)) as else .call g as)
   | _,_=>none
  | .value x=>match A 0 x,gV P cx aL c.argTypes.toList c.args.toList with
   | some f,some as=>some (.lQ f as)
   | _,_=>none
  | .builtin b=>match b,c.argTypes.toList,c.args.toList with
   | .len,[t],[x]=>match P.underlying t with
    | some (.slice _)=>(A t x).map .len
    | some .string=>(A t x).map .Z7
    | _=>none
   | .cap,[t],[x]=>match P.underlying t with
    | some (.slice _)=>(A t x).map .cap
    | _=>none
   | .clear,[t],[x]=>match P.underlying t with
    | some (.slice e)=>match aX P e,kC P e,jX cx P e,A t x with
     | some n,some g,some z,some a=>if n=0\/z.length≠n\/(g=false/\n≠1) then none else some (.clr n g (z.map D.dz) a)
     | _,_,_,_=>none
    | _=>none
   | .max,[t,u],[x,y]=>match P.underlying t,A t x,A u y with
    | some (.int _),some a,some b=>some (.maxi a b)
    | _,_,_=>none
   | .min,[t,u],[x,y]=>match P.underlying t,A t x,A u y with
    | some (.int _),some a,some b=>some (.Z8 a b)
    | _,_,_=>none
   | .append,[t,u],[x,y]=>match P.underlying t,P.underlying u with
    | some (.slice e),some (.int _)=>(match aX P e,mZ P e,kC P e,jX cx P e,A t x,A u y with
     | some n,some b,some g,some z,some a,some a'=>if n=0\/z.length≠n\/(g=false/\n≠1) then none else some (.Wy n b g (z.map D.dz) a a')
     | _,_,_,_,_,_=>none)
    | some (.slice e),some (.slice e')=>if e=e' then(match aX P e,mZ P e,jX cx P e,A t x,A u y with
     | some n,some b,some z,some a,some a'=>if n=0\/z.length≠n then none else some (.app n b a a')
     | _,_,_,_,_=>none) else none
    | _,_=>none
   | _,_,_=>none
  | _=>none
 | _=>none
def p9 (aL:List (Option Tmp)):Option (Nat × Bool)->Bool
 | none=>true
 | some (j,_)=>match aL[j]? with
  | some (some t)=>fJ aL t==some j
  | _=>false
def xg (cx:Cx):Option Tmp->Bool
 | none=>true
 | some t=>decide (t<cx.ntmps)
def M5 (ms:List Nat)(o:Oper):Nat :=
 o.after.toList.foldl (fun s e=>if Region.binds .any e then s ||| (2 ^ e.on ||| ms.getD e.on 0) else s) 0
def masks:List Oper->List Nat->List Nat
 | [],ms=>ms
 | o::r,ms=>masks r (ms++[M5 ms o])
def comparable (ms:List Nat)(i j:Nat):Bool :=
 if i<j then(ms.getD j 0).testBit i else(ms.getD i 0).testBit j
def ma (P:Program)(cx:Cx):List Oper->List (Option Tmp)->Option (List jm)
 | [],_=>some []
 | o::r,aL=>if p9 aL o.guard&&xg cx o.dst then(match aV P cx aL o,ma P cx r (aL++[o.dst]) with
  | some k,some ks=>some (⟨false,o.guard,k⟩::ks)
  | _,_=>none) else none
def K.adx:K->Bool
 | .call .. | .lQ .. | .qJ ..=>true
 | _=>false
def K.isLoad:K->Bool
 | .load ..=>true
 | _=>false
def K.Z9:K->Bool
 | .store ..=>true
 | _=>false
def mo (ms:List Nat)(ks:List jm):List jm :=
 ks.zipIdx.map fun x=>{x.1 with q:=ks.zipIdx.any fun y=>y.2 != x.2&&(x.1.k.adx&&y.1.k.mem||x.1.k.isLoad&&y.1.k.Z9) && !comparable ms x.2 y.2}
def K.G_:K->K
 | .lS f as _=>.lQ f as
 | .ja n p x _=>.store n p x
 | .jB g m a=>.load g m a
 | .mY g m a _=>.load g m a
 | k=>k
def K.M6:K->Bool
 | .lS .. | .jB .. | .ja .. | .mY ..=>false
 | _=>true
def t_:Arg->Arg->Bool
 | .var i,.var j=>i==j
 | .loc i,.loc j=>i==j
 | _,_=>false
def passes (x y:jm)(i j:Nat):Bool :=
 match x.k,y.k with
 | .lS _ _ ps,.jB _ _ a=>ps.any (t_ a)
 | .ja _ _ _ ps,.jB _ _ a=>decide (j<i)&&ps.any (t_ a)
 | .app _ _ s _,.mY _ _ _ ps=>decide (i<j)&&ps.any (t_ s)
 | _,_=>false
def yV (ms:List Nat)(ks:List jm):List jm :=
 ks.zipIdx.map fun x=>match x.1.k with
  | .lQ f as=>match ks.zipIdx.filterMap fun y=>if y.2 != x.2&&y.1.k.mem && !comparable ms x.2 y.2 then(match y.1.k with
    | .load _ _ a=>some a
    | _=>some (.g 0)) else none with
   | []=>x.1
   | ps=>{x.1 with k:=.lS f as ps}
  | .load g m a=>if ks.zipIdx.any fun y=>(match y.1.k with
    | .lQ _ _=>true
    | _=>false) && !comparable ms x.2 y.2 then {x.1 with k:=.jB g m a} else x.1
  | _=>x.1
def FH (ms:List Nat)(ks:List jm):List jm :=
 ks.zipIdx.map fun x=>match x.1.k with
  | .store n p v=>match ks.zipIdx.filterMap fun y=>if y.2 != x.2 && !comparable ms x.2 y.2 then(match y.1.k with
    | .load _ _ a=>some a
    | _=>none) else none with
   | []=>x.1
   | ps=>{x.1 with k:=.ja n p v ps}
  | .load g m a=>if ks.zipIdx.any fun y=>(match y.1.k with
    | .store _ _ _=>true
    | _=>false) && !comparable ms x.2 y.2 then {x.1 with k:=.jB g m a} else(match ks.zipIdx.filterMap fun y=>if decide (y.2<x.2) && !comparable ms x.2 y.2 then(match y.1.k with
    | .app _ _ s _=>some s
    | _=>none) else none with
   | []=>x.1
   | ps=>{x.1 with k:=.mY g m a ps})
  | _=>x.1
def tmpsOf (o:Oper):List Tmp:=o.op.operands.toList.filterMap fun|.tmp t=>some t|_=>none
def Kg:K->K->Option (Nat × Nat)
 | .store _ (.var b) _,.load _ _ (.var a)=>some (a,b)
 | _,_=>none
def OW (ms:List Nat)(ks:List jm):List (Nat × Nat) :=
 ks.zipIdx.flatMap fun x=>ks.zipIdx.filterMap fun y=>if x.2==y.2||comparable ms x.2 y.2 then none else Kg x.1.k y.1.k
def Ha (ops:List Oper)(ms:List Nat)(ks:List jm)(apart:List (Nat × Nat)):Bool :=
 (ops.zipIdx.all fun x=>x.1.after.toList.all fun e => !Region.binds .any e||decide (e.on<x.2)) &&
 (ops.zipIdx.all fun x=>match x.1.dst with
  | none=>true
  | some t=>ops.zipIdx.all fun y=>(x.2==y.2)||(y.1.dst != some t&&(!(tmpsOf y.1).contains t||comparable ms x.2 y.2))) &&
 (ops.zipIdx.all fun x=>match x.1.guard with
  | none=>true
  | some (g,_)=>(ms.getD x.2 0).testBit g) &&
 (ks.zipIdx.all fun x => !x.1.k.loud x.1.q||ks.zipIdx.all fun y=>(x.2==y.2) || !y.1.k.mem||comparable ms x.2 y.2 ||
  (y.1.q&&match Kg x.1.k y.1.k with
  | some p=>apart.contains p
  | none=>false)||passes x.1 y.1 x.2 y.2)
def kD (P:Program)(cx:Cx)(ops:List Oper)(draw:Bool):Option (List jm × List (Nat × Nat)) :=
 match ma P cx ops [] with
 | none=>none
 | some RZ =>
  if draw then
   let ks:=bif cx.WB then yV (masks ops []) RZ else bif cx.far then FH (masks ops []) RZ else RZ
   (if (RZ.all fun x=>x.k.M6)&&Ha ops (masks ops []) (mo (masks ops []) ks) (OW (masks ops []) (mo (masks ops []) ks))
   then some (mo (masks ops []) ks,OW (masks ops []) (mo (masks ops []) ks)) else none)
  else some (RZ,[])
def mV (aL:List (Option Tmp)):List Tmp->Nat->List (Nat × Nat)
 | [],_=>[]
 | t::r,i=>match fJ aL t with
  | some j=>(i,j)::mV aL r (i+1)
  | none=>mV aL r (i+1)
def comp (P:Program)(cx:Cx):Code->Option aF
 | .skip=>some .skip
 | .region id ops draw=>match kD P cx ops.toList draw with
  | some (ks,ap) =>
   match cx.kills id with
   | []=>some (.region ks (mV (ops.toList.map (·.dst)) cx.vars 0) ap)
   | js=>some (.seq (.region ks (mV (ops.toList.map (·.dst)) cx.vars 0) ap) (.kill js))
  | none=>none
 | .seq a b=>match comp P cx a,comp P cx b with
  | some x,some y=>some (.seq x y)
  | _,_=>none
 | .cond c a b=>match iT P cx [] 0 c,comp P cx a,comp P cx b with
  | some t,some x,some y=>some (.cond t x y)
  | _,_,_=>none
 | .block id b=>match comp P cx b with
  | some x=>some (.block id x)
  | none=>none
 | .loop b=>match comp P cx b with
  | some x=>some (.loop x)
  | none=>none
 | .exit id=>some (.exit id)
 | .ret=>some .ret
 | _=>none
def nM (P:Program)(cx:Cx):List ResultVar->Option (List Res)
 | []=>some []
 | .tmp t::r=>match cx.vars.idxOf? t,nM P cx r with
  | some j,some s=>some (.var j::s)
  | _,_=>none
 | .cell t ty::r=>match cx.vars.idxOf? t,kC P ty,aX P ty,nM P cx r with
  | some j,some g,some n,some s=>some (.cell j g n::s)
  | _,_,_,_=>none
def fP (P:Program)(cx:Cx)(F:Func):Option bK :=
 match F.body with
 | none=>none
 | some c=>match comp P cx c,nM P cx F.results.toList with
  | some b,some rs =>
   let np:=F.params.size+F.nfree
   if cx.vars.take np=List.range np/\cx.vars.Nodup/\cx.ntmps=F.ntmps/\cx.vars.all (·<cx.ntmps) then some {np:=np,nv:=cx.vars.length,ref:=cx.isRef,res:=rs,body:=b} else none
  | _,_=>none
section
variable {mn:Prop}
abbrev Map:=Nat->Nat->Option (Nat × Nat × Nat)
inductive bD (σ:Nat->Option FuncId)(I:Nat->Prop)(w:World):D->Value->Prop
 | v (x:Value):bD σ I w (.v x) x
 | fn {g:Nat} {f:FuncId} (h:σ g=some f):bD σ I w (.fn g) (.func (.func f) #[] #[])
 | n (sz:Nat):bD σ I w (.n sz) (.slice none 0 0)
 | i (t:TypeId) (x:Value):bD σ I w .i (.iface t x)
 | s0 (sz:Nat):bD σ I w (.s sz []) (.slice none 0 0)
 | s1 (sz:Nat) (a:Addr) (cap:Nat):bD σ I w (.s sz []) (.slice (some a) 0 cap)
 | s {sz:Nat} {es:List D} {b off cap:Nat} (u:Nat->Nat->Value) (hb:I b) (hc:es.length<=cap) (hsz:∀ e ∈ es,e.cells.length=sz)
   (hone:∀ e ∈ es,∀ c ∈ e.cells,c.one=true)
   (hcell:∀ (i:Nat) (e:D) (j:Nat) (c:D),es[i]?=some e->e.cells[j]?=some c->w.cell? ⟨b,off+i*sz+j,none⟩=some (u i j))
   (hrep:∀ (i:Nat) (e:D) (j:Nat) (c:D),es[i]?=some e->e.cells[j]?=some c->bD σ I w c (u i j)):bD σ I w (.s sz es) (.slice (some ⟨b,off,none⟩) es.length cap)
 | a {cs:List D} {vs:Array Value} (hl:vs.size=cs.length) (h:∀ (i:Nat) (c:D) (x:Value),cs[i]?=some c->vs[i]?=some x->bD σ I w c x):bD σ I w (.a cs) (.agg vs)
 | t {cs:List D} {vs:Array Value} (hl:vs.size=cs.length) (h:∀ (i:Nat) (c:D) (x:Value),cs[i]?=some c->vs[i]?=some x->bD σ I w c x):bD σ I w (.t cs) (.tuple vs)
def AtD (σ:Nat->Option FuncId)(I:Nat->Prop)(w:World)(b off:Nat)(cs:List D):Prop :=
 ∀ (j:Nat) (c:D),cs[j]?=some c->∃ x,w.cell? ⟨b,off+j,none⟩=some x/\bD σ I w c x
inductive aH (σ:Nat->Option FuncId)(β:Map)(I:Nat->Prop)(w:World)(n:Nat):FV->Value->Prop
 | u (x:Value):aH σ β I w n .u x
 | d {y:D} {x:Value} (h:bD σ I w y x):aH σ β I w n (.d y) x
 | r {p:Ref} {off b bo cap:Nat} (h:β (p.abs n) 0=some (b,bo,cap)):aH σ β I w n (.r p off) (.pointer (some ⟨b,bo+off,none⟩))
 | e {p:Ref} {ak sz i off b bo cap:Nat} (h:β (p.abs n) ak=some (b,bo,cap)):aH σ β I w n (.e p ak sz i off) (.pointer (some ⟨b,bo+i*sz+off,none⟩))
 | rc {y:D} {b off:Nat} (hb:I b) (ho:∀ c ∈ y.cells,c.one=true) (h:AtD σ I w b off y.cells):aH σ β I w n (.rc y) (.pointer (some ⟨b,off,none⟩))
 | ls {p:Ref} {ak sz off len b bo cap o:Nat} (h:β (p.abs n) ak=some (b,bo,cap)) (hl:off+len<=cap) (ho:off<cap->o=bo+off*sz) :
   aH σ β I w n (.ls p ak sz off len) (.slice (some ⟨b,o,none⟩) len (cap-off))
 | f {g:Nat} {k:FuncId} {first captured:List FV} {vs us:Array Value} (h:σ g=some k) (h1:vs.size=first.length) (h2:us.size=captured.length)
   (hv:∀ (i:Nat) (c:FV) (x:Value),first[i]?=some c->vs[i]?=some x->aH σ β I w n c x) (hu:∀ (i:Nat) (c:FV) (x:Value),captured[i]?=some c->us[i]?=some x->aH σ β I w n c x) :
   aH σ β I w n (.f g first captured) (.func (.func k) vs us)
 | m {p:Ref} {b bo cap:Nat} (h:β (p.abs n) 0=some (b,bo,cap)):aH σ β I w n (.m p) (.map (some b))
 | z {sz c:Nat} {a:Addr}:aH σ β I w n (.z sz) (.slice (some a) 0 c)
 | a {cs:List FV} {vs:Array Value} (hl:vs.size=cs.length) (h:∀ (i:Nat) (c:FV) (x:Value),cs[i]?=some c->vs[i]?=some x->aH σ β I w n c x):aH σ β I w n (.a cs) (.agg vs)
 | t {cs:List FV} {vs:Array Value} (hl:vs.size=cs.length) (h:∀ (i:Nat) (c:FV) (x:Value),cs[i]?=some c->vs[i]?=some x->aH σ β I w n c x):aH σ β I w n (.t cs) (.tuple vs)
theorem cell_of_block {w w':World}{b o:Nat}(h:w'.heap[b]?=w.heap[b]?):w'.cell? ⟨b,o,none⟩=w.cell? ⟨b,o,none⟩:=by simp[World.cell?,h]
section mono
variable {σ:Nat->Option FuncId} {I I':Nat->Prop} {w w':World} {β β':Map} {n:Nat}
theorem bD.mono (hi:∀ b,I b->I' b)(hk:∀ b,I b->w'.heap[b]?=w.heap[b]?){y:D}{x:Value}(h:bD σ I w y x):bD σ I' w' y x:=by
 induction h with
 | v x=>exact .v x
 | fn h=>exact .fn h
 | n sz=>exact .n sz
 | i t x=>exact .i t x
 | s0 sz=>exact .s0 sz
 | s1 sz a cap=>exact .s1 sz a cap
 | s u hb hc hsz hone hcell _ ih=>exact .s u (hi _ hb) hc hsz hone (fun i e j c h1 h2=>by rw[cell_of_block (hk _ hb)];exact hcell i e j c h1 h2) ih
 | a hl _ ih=>exact .a hl ih
 | t hl _ ih=>exact .t hl ih
theorem AtD.mono (hi:∀ b,I b->I' b)(hk:∀ b,I b->w'.heap[b]?=w.heap[b]?){b off:Nat}{cs:List D}(hb:w'.heap[b]?=w.heap[b]?)(h:AtD σ I w b off cs):AtD σ I' w' b off cs:=fun j c hc=>by
 obtain⟨x,h1,h2⟩:=h j c hc;exact⟨x,by rw[cell_of_block hb];exact h1,h2.mono hi hk⟩
theorem aH.mono (hm:∀ k v x,β k v=some x->β' k v=some x)(hi:∀ b,I b->I' b)(hk:∀ b,I b->w'.heap[b]?=w.heap[b]?){y:FV}{x:Value}(h:aH σ β I w n y x) :
  aH σ β' I' w' n y x:=by
 induction h with
 | u x=>exact .u x
 | d h=>exact .d (h.mono hi hk)
 | r h=>exact .r (hm _ _ _ h)
 | e h=>exact .e (hm _ _ _ h)
 | rc hb ho h=>exact .rc (hi _ hb) ho (h.mono hi hk (hk _ hb))
 | ls h hl ho=>exact .ls (hm _ _ _ h) hl ho
 | m h=>exact .m (hm _ _ _ h)
 | z=>exact .z
 | f h h1 h2 _ _ ih1 ih2=>exact .f h h1 h2 ih1 ih2
 | a hl _ ih=>exact .a hl ih
 | t hl _ ih=>exact .t hl ih
end mono
def ah.live (β:Map)(k:Nat):ah->Option (Nat × Nat × Nat)
 | .box _=>β k 0
 | .row ak _ _=>β k ak
 | .gK _ _ _=>none
 | .map _=>β k 0
structure iY (σ:Nat->Option FuncId)(I:Nat->Prop)(w:World)(b bo cap sz:Nat)(es:List D):Prop where
 pos:0<sz
 fit:es.length<=cap
 wide:∀ e ∈ es,e.cells.length=sz
 one:∀ e ∈ es,∀ c ∈ e.cells,c.one=true
 at_:∀ (i:Nat) (e:D),es[i]?=some e->AtD σ I w b (bo+i*sz) e.cells
structure xe (σ:Nat->Option FuncId)(I:Nat->Prop)(w:World)(es:List (D × D))(ms:Array MapEntry)(clock:Nat):Prop where
 len:ms.size=es.length
 key:∀ (i:Nat) (e:D × D) (m:MapEntry),es[i]?=some e->ms[i]?=some m->bD σ I w e.1 m.key
 val:∀ (i:Nat) (e:D × D) (m:MapEntry),es[i]?=some e->ms[i]?=some m->bD σ I w e.2 m.val
 old:∀ m ∈ ms.toList,m.born<clock
 once:(ms.toList.map (·.born)).Nodup
structure aY (σ:Nat->Option FuncId)(n:Nat)(β:Map)(I Wr:Nat->Prop)(wd:Nat->Prop)(H:List ah)(w:World):Prop where
 lH:∀ b,I b->b<w.heap.size
 blt:∀ k v b bo cap,β k v=some (b,bo,cap)->b<w.heap.size
 jW:∀ b,w.heap.size<=b->Wr b
 dom:∀ k v x,β k v=some x->k<H.length
 l_:∀ (k:Nat) ak sz es v x,H[k]?=some (.row ak sz es)->β k v=some x->v<=ak
 wr:∀ (k:Nat) (o:ah) b bo cap,H[k]?=some o->o.live β k=some (b,bo,cap)->(wd k->Wr b)/\¬ I b
 box:∀ (k:Nat) cs b bo cap,H[k]?=some (.box cs)->β k 0=some (b,bo,cap)->bo=0 /\
  ∃ c e,w.heap[b]?=some (.cells c e (0,0))/\c.size=cs.length/\∀ (j:Nat) (f:FV) (x:Value),cs[j]?=some f->c[j]?=some x->aH σ β I w n f x
 row:∀ (k:Nat) ak sz es b bo cap,H[k]?=some (.row ak sz es)->β k ak=some (b,bo,cap)->iY σ I w b bo cap sz es /\
  ∃ c e,w.heap[b]?=some (.cells c e (0,0))/\c.size=bo+cap*sz
 gK:∀ (k:Nat) ak sz es b bo cap,H[k]?=some (.gK ak sz es)->β k ak=some (b,bo,cap)->iY σ I w b bo cap sz es/\I b
 inj:∀ (k k':Nat) (o o':ah) b bo cap vC cap',H[k]?=some o->H[k']?=some o'->o.live β k=some (b,bo,cap)->o'.live β k'=some (b,vC,cap')->k=k'
 map:∀ (k:Nat) es b bo cap,H[k]?=some (.map es)->β k 0=some (b,bo,cap)->∃ ms clock,w.heap[b]?=some (.map ms clock)/\xe σ I w es ms clock
structure Ext (mn:Prop)(β β':Map)(I I' Wr:Nat->Prop)(w w':World):Prop where
 bm:∀ k v x,β k v=some x->β' k v=some x
 im:∀ b,I b->I' b
 ik:∀ b,I' b->I b\/Wr b
 size:w.heap.size<=w'.heap.size
 fo:∀ b,I b->w'.heap[b]?=w.heap[b]?
 keepW:∀ b,b<w.heap.size->¬ Wr b->w'.heap[b]?=w.heap[b]?
 os:w'.os=w.os
 tape:w'.tape=w.tape
 output:w'.output=w.output
 drawn:mn->w.drawn<=w'.drawn
theorem Ext.refl (β:Map)(I Wr:Nat->Prop)(w:World):Ext mn β β I I Wr w w :=
 ⟨fun _ _ _ h=>h,fun _ h=>h,fun _ h=>.inl h,Qd1 _,fun _ _=>rfl,fun _ _ _=>rfl,rfl,rfl,rfl,fun _=>Qd1 _⟩
theorem Ext.trans {β β' β'':Map}{I I' I'' Wr:Nat->Prop}{w w' w'':World}(h:Ext mn β β' I I' Wr w w')(k:Ext mn β' β'' I' I'' Wr w' w''):Ext mn β β'' I I'' Wr w w'' :=
 ⟨fun a v x e=>k.bm _ _ _ (h.bm _ _ _ e),fun b e=>k.im _ (h.im _ e),fun b e=>(k.ik b e).elim (fun e=>h.ik b e) .inr,Qc2 h.size k.size,
 fun b e=>(k.fo b (h.im _ e)).trans (h.fo b e),fun b e1 e2=>(k.keepW b (Qk0 e1 h.size) e2).trans (h.keepW b e1 e2),
 k.os.trans h.os,k.tape.trans h.tape,k.output.trans h.output,fun m=>Qc2 (h.drawn m) (k.drawn m)⟩
section ext
variable {σ:Nat->Option FuncId} {I I' Wr:Nat->Prop} {wd:Nat->Prop} {w w':World} {β β':Map} {n:Nat}
theorem Ext.Z_ (h:Ext mn β β' I I' Wr w w'){y:FV}{x:Value}(hr:aH σ β I w n y x):aH σ β' I' w' n y x:=hr.mono h.bm h.im h.fo
theorem iY.mono {b bo cap sz:Nat}{es:List D}(h:iY σ I w b bo cap sz es)(hi:∀ b,I b->I' b)(hk:∀ b,I b->w'.heap[b]?=w.heap[b]?)(hb:w'.heap[b]?=w.heap[b]?) :
  iY σ I' w' b bo cap sz es :=
 ⟨h.pos,h.fit,h.wide,h.one,fun i e he=>(h.at_ i e he).mono hi hk hb⟩
theorem xe.mono {es:List (D × D)}{ms:Array MapEntry}{clock:Nat}(h:xe σ I w es ms clock)(hi:∀ b,I b->I' b)(hk:∀ b,I b->w'.heap[b]?=w.heap[b]?):xe σ I' w' es ms clock :=
 ⟨h.len,fun i e m h1 h2=>(h.key i e m h1 h2).mono hi hk,fun i e m h1 h2=>(h.val i e m h1 h2).mono hi hk,h.old,h.once⟩
theorem aY.grow {H:List ah}(h:aY σ n β I Wr wd H w)(hs:w.heap.size<=w'.heap.size)(hk:∀ b,b<w.heap.size->w'.heap[b]?=w.heap[b]?):aY σ n β I Wr wd H w':=by
 have hI:∀ b,I b->w'.heap[b]?=w.heap[b]?:=fun b hb=>hk b (h.lH b hb)
 refine⟨fun b hb=>Qk0 (h.lH b hb) hs,fun k v b bo cap e=>Qk0 (h.blt k v b bo cap e) hs,fun b hb=>h.jW b (Qc2 hs hb),h.dom,h.l_,h.wr,?_,?_,?_,h.inj,?_⟩
 ·intro k cs b bo cap h1 h2;obtain⟨a0,c,e,a1,a2,a3⟩:=h.box k cs b bo cap h1 h2;exact⟨a0,c,e,by rw[hk b (h.blt _ _ _ _ _ h2)];exact a1,a2,fun j f x e1 e2=>(a3 j f x e1 e2).mono (fun _ _ _ e=>e) (fun _ e=>e) hI⟩
 ·intro k ak sz es b bo cap h1 h2;obtain⟨a0,c,e,a1,a2⟩:=h.row k ak sz es b bo cap h1 h2;exact⟨a0.mono (fun _ e=>e) hI (hk b (h.blt _ _ _ _ _ h2)),c,e,by rw[hk b (h.blt _ _ _ _ _ h2)];exact a1,a2⟩
 ·intro k ak sz es b bo cap h1 h2;obtain⟨a0,a1⟩:=h.gK k ak sz es b bo cap h1 h2;exact⟨a0.mono (fun _ e=>e) hI (hI b a1),a1⟩
 ·intro k es b bo cap h1 h2;obtain⟨ms,clock,a1,a2⟩:=h.map k es b bo cap h1 h2;exact⟨ms,clock,by rw[hk b (h.blt _ _ _ _ _ h2)];exact a1,a2.mono (fun _ e=>e) hI⟩
end ext
def Map.put (β:Map)(k v:Nat)(x:Nat × Nat × Nat):Map:=fun k' v'=>if k'=k/\v'=v then some x else β k' v'
theorem Map.dN (β:Map)(k v:Nat)(x:Nat × Nat × Nat):β.put k v x k v=some x:=by simp[Map.put]
theorem Map.g_ (β:Map)(k v:Nat)(x:Nat × Nat × Nat){k' v':Nat}(h:¬ (k'=k/\v'=v)):β.put k v x k' v'=β k' v':=by simp[Map.put,h]
theorem oM {β:Map}{m v:Nat}{x:Nat × Nat × Nat}{wd:Nat->Prop}:∀ k u,k<m->¬ wd k->(β.put m v x) k u=β k u:=fun k u h _=>Map.g_ _ _ _ _ ae
theorem kE {β:Map}{m k0 v:Nat}{x:Nat × Nat × Nat}{wd:Nat->Prop}(hw:wd k0):∀ k u,k<m->¬ wd k->(β.put k0 v x) k u=β k u:=fun k u _ hn=>Map.g_ _ _ _ _ (fun h=>hn (h.1 ▸ hw))
theorem alloc_old (w:World)(o:Obj){b:Nat}(h:b<w.heap.size):(w.alloc o).heap[b]?=w.heap[b]?:=by
 show(w.heap.push o)[b]?=_;rw[Array.getElem?_push,if_neg ae]
theorem oJ (w:World)(o:Obj):(w.alloc o).heap[w.heap.size]?=some o:=by
 show(w.heap.push o)[w.heap.size]?=_;simp
section push
variable {σ:Nat->Option FuncId} {I Wr:Nat->Prop} {wd:Nat->Prop} {w:World} {β:Map} {n:Nat} {H:List ah}
theorem aY.push (h:aY σ n β I Wr wd H w)(c:Array Value)(e:TypeId)(o:ah)(v cap:Nat)
  (ho:(∃ cs,o=.box cs/\v=0/\c.size=cs.length/\∀ (j:Nat) (f:FV) (x:Value),cs[j]?=some f->c[j]?=some x->aH σ β I w n f x) \/
   (∃ sz es,o=.row v sz es/\0<sz/\es.length<=cap/\(∀ e ∈ es,e.cells.length=sz)/\(∀ e ∈ es,∀ c ∈ e.cells,c.one=true)/\c.size=cap*sz /\
    ∀ (i:Nat) (e:D) (j:Nat) (d:D),es[i]?=some e->e.cells[j]?=some d->∃ x:Value,c[i*sz+j]?=some x/\bD σ I w d x)) :
  let β':=β.put H.length v (w.heap.size,0,cap)
  Ext mn β β' I I Wr w (w.alloc (.cells c e))/\aY σ n β' I Wr wd (H++[o]) (w.alloc (.cells c e)):=by
 intro β';have hdom:∀ k v' x,β k v'=some x->β' k v'=some x:=fun k v' x e=>by
  have:=h.dom k v' x e;exact(Map.g_ _ _ _ _ ae).trans e
 have hI:∀ b,I b->(w.alloc (.cells c e)).heap[b]?=w.heap[b]?:=fun b hb=>alloc_old _ _ (h.lH b hb)
 have hget:∀ (k:Nat) (o':ah),(H++[o])[k]?=some o'->(k<H.length/\H[k]?=some o')\/(k=H.length/\o'=o):=by
  intro k o' hk;rcases Qg1 k H.length with hl|hl
  ·rw[Qa0 hl]at hk;exact .inl ⟨hl,hk⟩
  ·rw[Qc0 hl]at hk;rcases Q41 hl with he|he
   ·subst he;simp at hk;exact .inr ⟨rfl,hk.symm⟩
   ·have:k-H.length=(k-H.length-1)+1:=ae;rw[this]at hk;simp at hk
 have hother:∀ k v',k<H.length->β' k v'=β k v':=fun k v' hk=>Map.g_ _ _ _ _ ae
 have hnew:∀ v',β' H.length v'=if v'=v then some (w.heap.size,0,cap) else none:=by
  intro v'
  by_cases hv:v'=v
  ·subst hv;simp[β',Map.put]
  ·simp only[hv,if_false];refine(Map.g_ _ _ _ _ (by simp[hv])).trans ?_;cases hb:β H.length v' with
   | none=>rfl
   | some x=>have:=h.dom _ _ _ hb;omega
 have hlive:∀ (k:Nat) (o':ah),k<H.length->o'.live β' k=o'.live β k:=fun k o' hk=>by cases o'<;>simp[ah.live,hother _ _ hk]
 have hlv:o.live β' H.length=some (w.heap.size,0,cap):=by
  rcases ho with ⟨cs,rfl,rfl,_⟩|⟨sz,es,rfl,_⟩<;>simp[ah.live,hnew]
 have hblt:∀ k v b bo cap',β' k v=some (b,bo,cap')->b<(w.alloc (.cells c e)).heap.size:=by
  intro k v' b bo cap' hk;simp only[β',Map.put]at hk;split at hk
  ·cases hk;simp
  ·have:=h.blt _ _ _ _ _ hk;simp;omega
 refine⟨⟨hdom,fun _ h=>h,fun _ h=>.inl h,aA,hI,fun b hb _=>alloc_old _ _ hb,rfl,rfl,rfl,fun _=>Qd1 _⟩,?_⟩;have aa1:∀ (k:Nat) (o':ah) b bo cap',k<H.length->H[k]?=some o'->o'.live β k=some (b,bo,cap')->b<w.heap.size:=by
  intro k o' b bo cap' _ _ hl;cases o' with
  | box cs=>exact h.blt _ _ _ _ _ hl
  | row ak sz es=>exact h.blt _ _ _ _ _ hl
  | gK ak sz es=>cases hl
  | map es=>exact h.blt _ _ _ _ _ hl
 constructor
 ·exact fun b hb=>by have:=h.lH b hb;simp;omega
 ·exact hblt
 ·exact fun b hb=>h.jW b (by simp at hb;omega)
 ·intro k v' x hk;simp only[β',Map.put]at hk;split at hk
  ·rename_i hh;simp[hh.1]
  ·have:=h.dom _ _ _ hk;simp;omega
 ·intro k ak sz es v' x hk hb;rcases hget k _ hk with ⟨hl,hk2⟩|⟨rfl,hk2⟩
  ·rw[hother _ _ hl]at hb;exact h.l_ k ak sz es v' x hk2 hb
  ·rw[hnew]at hb;rcases ho with ⟨cs,rfl,_⟩|⟨sz,es,rfl,_⟩
   ·cases hk2
   ·cases hk2;split at hb
    ·rename_i hh;omega
    ·cases hb
 ·intro k o' b bo cap' hk hl;rcases hget k _ hk with ⟨hlt,hk2⟩|⟨rfl,rfl⟩
  ·rw[hlive _ _ hlt]at hl;exact h.wr k o' b bo cap' hk2 hl
  ·rw[hlv]at hl;cases hl;exact⟨fun _=>h.jW _ (Qd1 _),fun hI'=>by have:=h.lH _ hI';omega⟩
 ·intro k cs b bo cap' hk hb;rcases hget k _ hk with ⟨hlt,hk2⟩|⟨rfl,hk2⟩
  ·rw[hother _ _ hlt]at hb;obtain⟨a0,c',e',a1,a2,a3⟩:=h.box k cs b bo cap' hk2 hb;exact⟨a0,c',e',by rw[alloc_old _ _ (h.blt _ _ _ _ _ hb)];exact a1,a2,fun j f x e1 e2=>(a3 j f x e1 e2).mono hdom (fun _ e=>e) hI⟩
  ·rcases ho with ⟨cs',rfl,rfl,h2,h3⟩|⟨sz,es,rfl,_⟩
   ·cases hk2;rw[hnew]at hb;simp at hb;obtain⟨rfl,rfl,rfl⟩:=hb;exact⟨rfl,c,e,oJ _ _,h2,fun j f x e1 e2=>(h3 j f x e1 e2).mono hdom (fun _ e=>e) hI⟩
   ·cases hk2
 ·intro k ak sz es b bo cap' hk hb;rcases hget k _ hk with ⟨hlt,hk2⟩|⟨rfl,hk2⟩
  ·rw[hother _ _ hlt]at hb;obtain⟨a0,c',e',a1,a2⟩:=h.row k ak sz es b bo cap' hk2 hb;exact⟨a0.mono (fun _ e=>e) hI (alloc_old _ _ (h.blt _ _ _ _ _ hb)),c',e',by rw[alloc_old _ _ (h.blt _ _ _ _ _ hb)];exact a1,a2⟩
  ·rcases ho with ⟨cs',rfl,rfl,h2,h3⟩|⟨eQ,es',rfl,h1,h2,h3,h4,h5,h6⟩
   ·cases hk2
   ·cases hk2;rw[hnew]at hb;simp at hb;obtain⟨rfl,rfl,rfl⟩:=hb;refine⟨⟨h1,h2,h3,h4,?_⟩,c,e,oJ _ _,by simpa using h5⟩;intro i e1 he1 j d hd;obtain⟨x,hx1,hx2⟩:=h6 i e1 j d he1 hd;have hc1:(w.alloc (.cells c e)).cell? ⟨w.heap.size,i*sz+j,none⟩=some x:=by rw[World.cell?_alloc_new];exact hx1
    exact⟨x,by simpa using hc1,hx2.mono (fun _ e=>e) hI⟩
 ·intro k ak sz es b bo cap' hk hb;rcases hget k _ hk with ⟨hlt,hk2⟩|⟨rfl,hk2⟩
  ·rw[hother _ _ hlt]at hb;obtain⟨a0,a1⟩:=h.gK k ak sz es b bo cap' hk2 hb;exact⟨a0.mono (fun _ e=>e) hI (hI b a1),a1⟩
  ·rcases ho with ⟨cs',rfl,_⟩|⟨eQ,es',rfl,_⟩<;>cases hk2
 ·intro k k' o1 o2 b bo mq vC cap2 hk hk' hl hl';rcases hget k _ hk with ⟨hlt,hk2⟩|⟨e1,e2⟩<;>rcases hget k' _ hk' with ⟨hlt',hk3⟩|⟨e3,e4⟩
  ·rw[hlive _ _ hlt]at hl;rw[hlive _ _ hlt']at hl';exact h.inj k k' o1 o2 b bo mq vC cap2 hk2 hk3 hl hl'
  ·rw[hlive _ _ hlt]at hl;have:=aa1 _ _ _ _ _ hlt hk2 hl;rw[e3,e4,hlv]at hl';cases hl';omega
  ·rw[hlive _ _ hlt']at hl';have:=aa1 _ _ _ _ _ hlt' hk3 hl';rw[e1,e2,hlv]at hl;cases hl;omega
  ·exact e1.trans e3.symm
 ·intro k es b bo cap' hk hb;rcases hget k _ hk with ⟨hlt,hk2⟩|⟨rfl,hk2⟩
  ·rw[hother _ _ hlt]at hb;obtain⟨ms,clock,a1,a2⟩:=h.map k es b bo cap' hk2 hb;exact⟨ms,clock,by rw[alloc_old _ _ (h.blt _ _ _ _ _ hb)];exact a1,a2.mono (fun _ e=>e) hI⟩
  ·rcases ho with ⟨cs',rfl,_⟩|⟨eQ,es',rfl,_⟩<;>cases hk2
end push
end
section
variable {mn:Prop}
section upd
variable {σ:Nat->Option FuncId} {I Wr:Nat->Prop} {wd:Nat->Prop} {w w':World} {β:Map} {n:Nat} {H:List ah}
theorem aY.upd (h:aY σ n β I Wr wd H w){k:Nat}(ZH:wd k){o:ah}{b bo cap:Nat}(hk:H[k]?=some o)(hl:o.live β k=some (b,bo,cap))
  (o':ah) (v' b2 R3 cap2:Nat) (hsz:w.heap.size<=w'.heap.size) (hoth:∀ x,x<w.heap.size->x≠b->w'.heap[x]?=w.heap[x]?)
  (hb2:b2=b\/w.heap.size<=b2) (hb3:b2<w'.heap.size) (aja:∀ x,β k v'=some x->x=(b2,R3,cap2))
  (hos:w'.os=w.os) (agn:w'.tape=w.tape) (hout:w'.output=w.output) (hdr:mn->w.drawn<=w'.drawn)
  (ho:(∃ cs c e,o'=.box cs/\v'=0/\R3=0/\w'.heap[b2]?=some (.cells c e (0,0))/\c.size=cs.length/\∀ (j:Nat) (f:FV) (x:Value),cs[j]?=some f->c[j]?=some x->aH σ β I w' n f x) \/
   (∃ sz es c e,o'=.row v' sz es/\(∀ v x,β k v=some x->v<=v')/\w'.heap[b2]?=some (.cells c e (0,0))/\c.size=R3+cap2*sz/\iY σ I w' b2 R3 cap2 sz es) \/
   (∃ es ms clock,o'=.map es/\v'=0/\w'.heap[b2]?=some (.map ms clock)/\xe σ I w' es ms clock)) :
  Ext mn β (β.put k v' (b2,R3,cap2)) I I Wr w w'/\aY σ n (β.put k v' (b2,R3,cap2)) I Wr wd (H.set k o') w':=by
 have hkl:k<H.length:=by
  rcases Qg1 k H.length with h'|h'
  ·exact h'
  ·rw[Qn2 h']at hk;cases hk
 obtain⟨ajb,hnI⟩:=h.wr k o b bo cap hk hl;have hwr:=ajb ZH;have hbl:b<w.heap.size:=by
  cases o with
  | box cs=>exact h.blt _ _ _ _ _ hl
  | row ak sz es=>exact h.blt _ _ _ _ _ hl
  | gK ak sz es=>cases hl
  | map es=>exact h.blt _ _ _ _ _ hl
 have MO:∀ k1 v1 x,β k1 v1=some x->(β.put k v' (b2,R3,cap2)) k1 v1=some x:=by
  intro k1 v1 x e
  by_cases hc:k1=k/\v1=v'
  ·obtain⟨rfl,rfl⟩:=hc;rw[Map.dN,aja x e]
  ·exact(Map.g_ _ _ _ _ hc).trans e
 have hI:∀ x,I x->w'.heap[x]?=w.heap[x]?:=fun x hx=>hoth x (h.lH x hx) (fun e=>hnI (e ▸ hx))
 have M7:Ext mn β (β.put k v' (b2,R3,cap2)) I I Wr w w' :=
  ⟨MO,fun _ h=>h,fun _ h=>.inl h,hsz,hI,fun x hx hnx=>hoth x hx (fun e=>hnx (e ▸ hwr)),hos,agn,hout,hdr⟩
 refine⟨M7,?_⟩;have hget:∀ (k1:Nat) (o1:ah),(H.set k o')[k1]?=some o1->(k1≠k/\H[k1]?=some o1)\/(k1=k/\o1=o'):=by
  intro k1 o1 h1
  by_cases hc:k1=k
  ·subst hc;rw[Qf0 hkl]at h1;exact .inr ⟨rfl,by simpa using h1.symm⟩
  ·rw[Qd0 (Ne.symm hc)]at h1;exact .inl ⟨hc,h1⟩
 have hother:∀ k1 v1,k1≠k->(β.put k v' (b2,R3,cap2)) k1 v1=β k1 v1:=fun k1 v1 hc=>Map.g_ _ _ _ _ (by simp[hc])
 have hlive:∀ (k1:Nat) (o1:ah),k1≠k->o1.live (β.put k v' (b2,R3,cap2)) k1=o1.live β k1:=fun k1 o1 hc=>by cases o1<;>simp[ah.live,hother _ _ hc]
 have hlv:o'.live (β.put k v' (b2,R3,cap2)) k=some (b2,R3,cap2):=by
  rcases ho with ⟨cs,c,e,rfl,rfl,_⟩|⟨sz,es,c,e,rfl,_⟩|⟨es,ms,clock,rfl,rfl,_⟩<;>simp[ah.live,Map.dN]
 have hne:∀ (k1:Nat) (o1:ah) b1 FI mq,k1≠k->H[k1]?=some o1->o1.live β k1=some (b1,FI,mq)->b1≠b/\b1<w.heap.size:=by
  intro k1 o1 b1 FI mq hc h1 h2;refine⟨fun e=>hc (h.inj k1 k o1 o b FI mq bo cap h1 hk (e ▸ h2) hl),?_⟩;cases o1 with
  | box cs=>exact h.blt _ _ _ _ _ h2
  | row ak sz es=>exact h.blt _ _ _ _ _ h2
  | gK ak sz es=>cases h2
  | map es=>exact h.blt _ _ _ _ _ h2
 constructor
 ·exact fun x hx=>Qk0 (h.lH x hx) hsz
 ·intro k1 v1 b1 FI mq h1;simp only[Map.put]at h1;split at h1
  ·cases h1;exact hb3
  ·exact Qk0 (h.blt _ _ _ _ _ h1) hsz
 ·exact fun x hx=>h.jW x (Qc2 hsz hx)
 ·intro k1 v1 x h1;simp only[Map.put]at h1;split at h1
  ·rename_i hh;rw[Xi0,hh.1];exact hkl
  ·rw[Xi0];exact h.dom _ _ _ h1
 ·intro k1 ak sz es v1 x h1 h2;rcases hget k1 _ h1 with ⟨hc,h3⟩|⟨rfl,h3⟩
  ·rw[hother _ _ hc]at h2;exact h.l_ k1 ak sz es v1 x h3 h2
  ·rcases ho with ⟨cs,c,e,rfl,_⟩|⟨eQ,es',c,e,rfl,hvd,_⟩|⟨_,_,_,rfl,_⟩
   rotate_right
   ·cases h3
   ·cases h3
   ·cases h3;simp only[Map.put]at h2;split at h2
    ·rename_i hh;omega
    ·exact hvd _ _ h2
 ·intro k1 o1 b1 FI mq h1 h2;rcases hget k1 _ h1 with ⟨hc,h3⟩|⟨rfl,rfl⟩
  ·rw[hlive _ _ hc]at h2;exact h.wr k1 o1 b1 FI mq h3 h2
  ·rw[hlv]at h2;cases h2;rcases hb2 with rfl|hb2
   ·exact⟨fun _=>hwr,hnI⟩
   ·exact⟨fun _=>h.jW _ hb2,fun hx=>by have:=h.lH _ hx;omega⟩
 ·intro k1 cs b1 FI mq h1 h2;rcases hget k1 _ h1 with ⟨hc,h3⟩|⟨rfl,h3⟩
  ·rw[hother _ _ hc]at h2;obtain⟨a0,c,e,a1,a2,a3⟩:=h.box k1 cs b1 FI mq h3 h2;obtain⟨d1,d2⟩:=hne k1 _ b1 FI mq hc h3 h2;exact⟨a0,c,e,by rw[hoth _ d2 d1];exact a1,a2,fun j f x e1 e2=>M7.Z_ (a3 j f x e1 e2)⟩
  ·rcases ho with ⟨cs',c,e,rfl,rfl,rfl,g1,g2,g3⟩|⟨eQ,es',c,e,rfl,_⟩|⟨_,_,_,rfl,_⟩
   rotate_right
   ·cases h3
   ·cases h3;rw[Map.dN]at h2;cases h2;exact⟨rfl,c,e,g1,g2,fun j f x e1 e2=>(g3 j f x e1 e2).mono MO (fun _ e=>e) (fun _ _=>rfl)⟩
   ·cases h3
 ·intro k1 ak sz es b1 FI mq h1 h2;rcases hget k1 _ h1 with ⟨hc,h3⟩|⟨rfl,h3⟩
  ·rw[hother _ _ hc]at h2;obtain⟨a0,c,e,a1,a2⟩:=h.row k1 ak sz es b1 FI mq h3 h2;obtain⟨d1,d2⟩:=hne k1 _ b1 FI mq hc h3 h2;exact⟨a0.mono (fun _ e=>e) hI (hoth _ d2 d1),c,e,by rw[hoth _ d2 d1];exact a1,a2⟩
  ·rcases ho with ⟨cs',c,e,rfl,_⟩|⟨eQ,es',c,e,rfl,_,g1,g2,g3⟩|⟨_,_,_,rfl,_⟩
   rotate_right
   ·cases h3
   ·cases h3
   ·cases h3;rw[Map.dN]at h2;cases h2;exact⟨g3,c,e,g1,g2⟩
 ·intro k1 ak sz es b1 FI mq h1 h2;rcases hget k1 _ h1 with ⟨hc,h3⟩|⟨rfl,h3⟩
  ·rw[hother _ _ hc]at h2;obtain⟨a0,a1⟩:=h.gK k1 ak sz es b1 FI mq h3 h2;exact⟨a0.mono (fun _ e=>e) hI (hI b1 a1),a1⟩
  ·rcases ho with ⟨cs',c,e,rfl,_⟩|⟨eQ,es',c,e,rfl,_⟩|⟨_,_,_,rfl,_⟩<;>cases h3
 ·intro k1 k2 o1 o2 b1 FI mq agp aa2 h1 h2 h3 h4;rcases hget k1 _ h1 with ⟨hc,h5⟩|⟨e1,e2⟩<;>rcases hget k2 _ h2 with ⟨hc',h6⟩|⟨e3,e4⟩
  ·rw[hlive _ _ hc]at h3;rw[hlive _ _ hc']at h4;exact h.inj k1 k2 o1 o2 b1 FI mq agp aa2 h5 h6 h3 h4
  ·rw[hlive _ _ hc]at h3;obtain⟨d1,d2⟩:=hne k1 _ b1 FI mq hc h5 h3;rw[e3,e4,hlv]at h4;cases h4;rcases hb2 with hb2|hb2
   ·exact absurd hb2 d1
   ·omega
  ·rw[hlive _ _ hc']at h4;obtain⟨d1,d2⟩:=hne k2 _ b1 agp aa2 hc' h6 h4;rw[e1,e2,hlv]at h3;cases h3;rcases hb2 with hb2|hb2
   ·exact absurd hb2 d1
   ·omega
  ·exact e1.trans e3.symm
 ·intro k1 es b1 FI mq h1 h2;rcases hget k1 _ h1 with ⟨hc,h3⟩|⟨rfl,h3⟩
  ·rw[hother _ _ hc]at h2;obtain⟨ms,clock,a1,a2⟩:=h.map k1 es b1 FI mq h3 h2;obtain⟨d1,d2⟩:=hne k1 _ b1 FI mq hc h3 h2;exact⟨ms,clock,by rw[hoth _ d2 d1];exact a1,a2.mono (fun _ e=>e) hI⟩
  ·rcases ho with ⟨cs',c,e,rfl,_⟩|⟨eQ,es',c,e,rfl,_⟩|⟨es',ms,clock,rfl,rfl,g1,g2⟩
   ·cases h3
   ·cases h3
   ·cases h3;rw[Map.dN]at h2;cases h2;exact⟨ms,clock,g1,g2⟩
end upd
theorem St.fu (st:St)(p:Ref):st.heap p=(st.base++st.loc)[p.abs st.base.length]?:=by
 cases p with
 | loc i=>simp[St.heap,Ref.abs,Qc0]
 | old i=>simp[St.heap,Ref.abs]
theorem St.dE (st:St)(p:Ref)(o:ah):(st.bu p o).base++(st.bu p o).loc=(st.base++st.loc).set (p.abs st.base.length) o:=by
 cases p with
 | loc i=>simp[St.bu,Ref.abs,Q30]
 | old i =>
  simp only[St.bu,Ref.abs];split
  ·rename_i hi;rw[Q50 _ _ hi]
  ·rename_i hi;rw[Q30 _ _ ae]
def jb (n:Nat)(st':St)(wd:Nat->Prop):Prop:=(∀ k,n<=k->wd k)/\(st'.aS=true->∀ k,wd k)
theorem St.bG (st:St)(p:Ref)(o:ah){wd:Nat->Prop}(h:jb st.base.length (st.bu p o) wd):wd (p.abs st.base.length):=by
 cases p with
 | loc i=>exact h.1 _ (Nat.le_add_right _ _)
 | old i=>exact h.2 rfl _
theorem St.jO (st:St)(p:Ref)(o:ah):(st.bu p o).base.length=st.base.length:=by
 cases p with
 | loc i=>rfl
 | old i=>simp only[St.bu];split<;>simp
theorem St.xB (st:St)(p:Ref)(o:ah):(st.bu p o).vars=st.vars:=by cases p<;>rfl
theorem St.p_ (st:St)(o:ah):(st.push o).base++(st.push o).loc=(st.base++st.loc)++[o]:=by simp[St.push]
end
theorem jO (st:St)(p:Ref)(o:ah):(st.bu p o).base.length=st.base.length:=by
 cases p with
 | loc i=>rfl
 | old i=>simp only[St.bu];split<;>simp
theorem nO (st:St)(p:Ref)(o:ah):(st.bu p o).loc.length=st.loc.length:=by
 cases p with
 | loc i=>simp[St.bu]
 | old i=>simp only[St.bu];split<;>simp
theorem xB (st:St)(p:Ref)(o:ah):(st.bu p o).vars=st.vars:=by cases p<;>rfl
theorem bG (st:St)(p:Ref)(o:ah)(h:st.aS=true):(st.bu p o).aS=true:=by
 cases p with
 | loc i=>exact h
 | old i=>rfl
structure Kept (st st':St):Prop where
 base:st'.base.length=st.base.length
 vars:st'.vars=st.vars
 aS:st.aS=true->st'.aS=true
theorem Kept.refl (st:St):Kept st st:=⟨rfl,rfl,fun h=>h⟩
theorem Kept.trans {a b c:St}(h:Kept a b)(k:Kept b c):Kept a c:=⟨k.base.trans h.base,k.vars.trans h.vars,fun x=>k.aS (h.aS x)⟩
theorem Kept.bu (st:St)(p:Ref)(o:ah):Kept st (st.bu p o):=⟨jO st p o,xB st p o,bG st p o⟩
theorem Kept.push (st:St)(o:ah):Kept st (st.push o):=⟨rfl,rfl,fun h=>h⟩
theorem Kept.aJ:∀ (rs:List Ref) (st:St),Kept st (Fi.aJ st rs)
 | [],st=>.refl st
 | p::r,st=>by
  simp only[Fi.aJ];split
  ·exact(Kept.bu st p _).trans (Kept.aJ r _)
  ·exact Kept.aJ r st
theorem nZ:∀ (rs:List Ref) (st:St),(Fi.aJ st rs).loc.length=st.loc.length
 | [],st=>rfl
 | p::r,st=>by
  simp only[Fi.aJ];split
  ·rw[nZ r,nO]
  ·exact nZ r st
def eP (rec:Nat->List FV->List ah->bF):Prop:=∀ g args B v B',rec g args B=some (v,some B')->B.length<=B'.length
theorem Em {rec:Nat->List FV->List ah->bF}{draw:Bool}{st st':St}{g:Nat}{xs:List FV}{rows:List Ref}{v:FV}(h:eD rec draw st g xs rows=some (v,st')):Kept st st':=by
 unfold eD at h;split at h
 ·split at h
  ·cases h;exact .refl _
  ·split at h
   ·cases h
   ·cases h;exact Kept.aJ _ _
 ·split at h
  ·cases h;exact⟨rfl,rfl,fun h=>h⟩
  ·split at h
   ·cases h
   ·cases h;have hk:=Kept.aJ rows st;exact⟨hk.base,hk.vars,hk.aS⟩
 ·cases h
theorem uG {rec:Nat->List FV->List ah->bF}(hr:eP rec){draw:Bool}{st st':St}{g:Nat}{xs:List FV}{rows:List Ref}{v:FV}(h:dx rec draw st g xs rows=some (v,st')):Kept st st':=by
 unfold dx at h;split at h
 ·split at h
  ·cases h;exact .refl _
  ·split at h
   ·cases h
   ·cases h;exact Kept.aJ _ _
 ·rename_i B hB;split at h
  ·cases h
  ·cases h;have hk:=Kept.aJ rows st;have hl:=hr _ _ _ _ _ hB;refine⟨?_,rfl,fun h=>by simp[h]⟩;simp only[Qb0,Ql0,Qr0]at hl ⊢;rw[hk.base]at hl;omega
 ·cases h
theorem lh {rec:Nat->List FV->List ah->bF}(hr:eP rec){draw:Bool}{st st':St}{g:Nat}{args:List FV}{v:FV}(h:fK rec draw st g args=some (v,st')):Kept st st':=by
 unfold fK at h;split at h
 ·cases h
 ·split at h
  ·exact Em h
  ·exact uG hr h
theorem kP {E:Env}{rec:Nat->List FV->List ah->bF}{st st':St}{g:Nat}{args:List FV}{v:FV}(h:dV E rec st g args=some (v,st')) :
  ∃ st1,fK rec false st g args=some (v,st1)/\((st'=st1/\st'.base=st.base/\∃ new,st'.loc=st.loc++new)\/(st1.loc.take st.loc.length=st.loc.map (ah.az st.base.length)/\st'={st1 with loc:=st.loc++st1.loc.drop st.loc.length})):=by
 unfold dV at h;unfold fK;split at h
 ·cases h
 ·rename_i xs hl;split at h
  ·rename_i hr;have hr':args.flatMap FV.rows=[]:=by simpa using hr
   rw[hr'];split at h
   ·rename_i hd;rw[if_pos hd];refine⟨st',?_,.inl ⟨rfl,?_⟩⟩
    ·unfold eD at h ⊢;split at h<;>simp_all
    ·unfold eD at h;split at h
     ·split at h
      ·cases h;exact⟨rfl,[],aA⟩
      ·cases h
     ·split at h
      ·cases h;exact⟨rfl,_,rfl⟩
      ·rename_i hne;exact absurd rfl hne
     ·cases h
   ·rename_i hd;rw[if_neg hd];unfold dx;simp only[aJ];split at h
    ·cases h;exact⟨st,aA,.inl ⟨rfl,rfl,[],aA⟩⟩
    ·rename_i v' B hc;split at h
     ·rename_i he;cases h;exact⟨_,rfl,.inr ⟨he,by simp[Xp0]⟩⟩
     ·cases h
    ·cases h
  ·cases h
theorem uH {E:Env}{rec:Nat->List FV->List ah->bF}(hr:eP rec){st st':St}{g:Nat}{args:List FV}{v:FV}(h:dV E rec st g args=some (v,st')):Kept st st':=by
 obtain⟨st1,h1,h2⟩:=kP h;have hk:=lh hr h1;rcases h2 with ⟨rfl,_⟩|⟨_,rfl⟩
 ·exact hk
 ·exact⟨hk.base,hk.vars,hk.aS⟩
theorem nP {E:Env}{rec:Nat->List FV->List ah->bF}{q:Bool}{st st':St}{env:List FV}{n:Nat}{p x:Arg}{ps:List Arg}{v:FV}(h:runK E rec q st env (.ja n p x ps)=some (v,st')) :
  nS E st env p ps=true/\runK E rec q st env (.store n p x)=some (v,st'):=by
 have e:runK E rec q st env (.ja n p x ps)=if nS E st env p ps then runK E rec q st env (.store n p x) else none:=rfl
 rw[e]at h;split at h
 ·exact⟨by assumption,h⟩
 ·cases h
theorem kF {E:Env}{rec:Nat->List FV->List ah->bF}{q:Bool}{st st':St}{env:List FV}{agg:Bool}{n:Nat}{p:Arg}{ps:List Arg}{v:FV}(h:runK E rec q st env (.mY agg n p ps)=some (v,st')) :
  mi E st env p ps=true/\runK E rec q st env (.load agg n p)=some (v,st')/\GD st v=true:=by
 have e:runK E rec q st env (.mY agg n p ps)=if mi E st env p ps then checked st (runK E rec q st env (.load agg n p)) else none:=rfl
 rw[e]at h;split at h
 ·rename_i hf;unfold checked at h;split at h
  ·rename_i heq;split at h
   ·rename_i hb;cases h;exact⟨hf,heq,hb⟩
   ·cases h
  ·cases h
 ·cases h
theorem oN {E:Env}{rec:Nat->List FV->List ah->bF}(hr:eP rec){draw:Bool}{st st':St}{env:List FV}{k:K}{v:FV}(h:runK E rec draw st env k=some (v,st')):Kept st st':=by
 have hs:∀ {x y:FV} {a b:St},some (x,a)=some (y,b)->a=b:=fun h=>by cases h;rfl
 cases k
 case call g args =>
  simp only[runK]at h;split at h
  ·exact lh hr h
  ·cases h
 case lQ f args =>
  simp only[runK]at h;split at h
  ·exact lh hr h
  ·exact lh hr h
  ·cases h
 case qJ g args =>
  simp only[runK]at h;split at h
  ·exact uG hr h
  ·cases h
 case jB agg n p =>
  obtain⟨h,_⟩:runK E rec draw st env (.load agg n p)=some (v,st')/\True:=by
   have e:runK E rec draw st env (.jB agg n p)=checked st (runK E rec draw st env (.load agg n p)):=rfl;rw[e]at h;unfold checked at h;split at h
   ·rename_i heq;split at h
    ·cases h;exact⟨heq,trivial⟩
    ·cases h
   ·cases h
  simp only[runK]at h
  (repeat' split at h)<;>first
   | (cases h;done)
   | (cases hs h;exact .refl _)
 case lS f args ps =>
  simp only[runK]at h;split at h
  ·split at h
   ·exact uH hr h
   ·exact uH hr h
   ·cases h
  ·cases h
 case mY agg n p ps =>
  replace h:=(kF h).2.1;simp only[runK]at h
  (repeat' split at h)<;>first
   | (cases h;done)
   | (cases hs h;exact .refl _)
 case ja n p x ps =>
  replace h:=(nP h).2;simp only[runK]at h
  (repeat' split at h)<;>first
   | (cases h;done)
   | (cases hs h;exact .bu _ _ _)
 all_goals
  simp only[runK]at h
  (repeat' split at h)<;>first
   | (cases h;done)
   | (cases hs h;exact .refl _)
   | (cases hs h;exact .push _ _)
   | (cases hs h;exact .bu _ _ _)
theorem m_ {E:Env}{rec:Nat->List FV->List ah->bF}{q:Bool}{st st':St}{env:List FV}{agg:Bool}{n:Nat}{p:Arg}{v:FV}(h:runK E rec q st env (.jB agg n p)=some (v,st')) :
  runK E rec q st env (.load agg n p)=some (v,st')/\GD st v=true:=by
 have e:runK E rec q st env (.jB agg n p)=checked st (runK E rec q st env (.load agg n p)):=rfl;rw[e]at h;unfold checked at h;split at h
 ·rename_i heq;split at h
  ·rename_i hb;cases h;exact⟨heq,hb⟩
  ·cases h
 ·cases h
theorem FJ {E:Env}{rec:Nat->List FV->List ah->bF}{q:Bool}{st st':St}{env:List FV}{f:Arg}{as ps:List Arg}{v:FV}(h:runK E rec q st env (.lS f as ps)=some (v,st')) :
  gQ E st env ps=true/\∃ st1,runK E rec false st env (.lQ f as)=some (v,st1)/\((st'=st1/\st'.base=st.base/\∃ new,st'.loc=st.loc++new)\/(st1.loc.take st.loc.length=st.loc.map (ah.az st.base.length)/\st'={st1 with loc:=st.loc++st1.loc.drop st.loc.length})):=by
 simp only[runK]at h;split at h
 ·rename_i hp;refine⟨hp,?_⟩;split at h
  ·rename_i h1 h2;simp only[runK,h1,h2];exact kP h
  ·rename_i h1 h2;simp only[runK,h1,h2];exact kP h
  ·cases h
 ·cases h
theorem ll {E:Env}{rec:Nat->List FV->List ah->bF}(hr:eP rec):∀ (ops:List jm) {st st':St} {env env':List FV},dU E rec ops st env=some (st',env')->Kept st st'
 | [],st,st',env,env',h=>by simp[dU]at h;rw[h.1];exact .refl _
 | o::ops,st,st',env,env',h=>by
  simp only[dU]at h;split at h
  ·cases h
  ·exact ll hr ops h
  ·split at h
   ·cases h
   ·rename_i h1;exact(oN hr h1).trans (ll hr ops h)
structure aa3 (st st':St):Prop where
 base:st'.base.length=st.base.length
 aS:st.aS=true->st'.aS=true
theorem M8 {F:bK}{st:St}{v:FV}{B:List ah}(h:finish F st=some (v,some B)):st.base.length<=B.length:=by
 unfold finish at h;split at h
 ·cases h
 ·split at h
  ·simp only[fI,Qd2]at h;split at h
   ·cases h
   ·simp only[Qd2,Qm2]at h;rw[<-h.2,Ql0,Qb0];omega
  ·split at h
   ·cases h
   ·simp only[fI,Qd2]at h;split at h
    ·cases h
    ·simp only[Qd2,Qm2]at h;rw[<-h.2,Ql0,Qb0,(Kept.aJ _ st).base];omega
theorem FK {E:Env}{run:aF->St->Option (Out × St)}(hrun:∀ s st o st',run s st=some (o,st')->aa3 st st'):eP (fun g args B=>enter E g args B run):=by
 intro g args B v B' h
 change enter E g args B run=some (v,some B') at h
 unfold enter at h;split at h
 ·split at h
  ·split at h
   ·cases h
   ·cases h
  ·cases h
 ·split at h
  ·split at h
   ·split at h
    ·split at h
     ·cases h;assumption
     ·cases h
    ·rename_i hn;exact absurd h (hn v B')
   ·cases h
  ·split at h
   ·split at h
    ·cases h
    ·rename_i h1;have:=M8 h;rw[(hrun _ _ _ _ h1).base]at this;exact this
    ·cases h
   ·cases h
theorem dQ (E:Env):∀ (n:Nat) (s:aF) (st:St) (o:Out) (st':St),exec E n s st=some (o,st')->aa3 st st'
 | 0,s,st,o,st',h=>by simp[exec]at h
 | n+1,s,st,o,st',h=>by
  have ih:=dQ E n;have hr:eP (fun g args B=>enter E g args B fun F st'=>exec E n F st'):=FK (fun s st o st' h=>ih s st o st' h);cases s<;>simp only[exec]at h
  case skip=>cases h;exact⟨rfl,fun h=>h⟩
  case region ops outs apart =>
   split at h
   ·split at h
    ·rename_i h1;cases h;have:=ll hr _ h1;exact⟨this.base,this.aS⟩
    ·cases h
   ·cases h
  case seq a b =>
   split at h
   ·rename_i h1;have k1:=ih _ _ _ _ h1;have k2:=ih _ _ _ _ h;exact⟨k2.base.trans k1.base,fun x=>k2.aS (k1.aS x)⟩
   ·exact ih _ _ _ _ h
  case cond x a b =>
   split at h
   ·exact ih _ _ _ _ h
   ·cases h
  case block id b =>
   split at h
   ·rename_i h1;have k1:=ih _ _ _ _ h1;split at h<;>cases h<;>exact k1
   ·exact ih _ _ _ _ h
  case loop b =>
   split at h
   ·rename_i h1;have k1:=ih _ _ _ _ h1;have k2:=ih _ _ _ _ h;exact⟨k2.base.trans k1.base,fun x=>k2.aS (k1.aS x)⟩
   ·exact ih _ _ _ _ h
  case exit id=>cases h;exact⟨rfl,fun h=>h⟩
  case ret=>cases h;exact⟨rfl,fun h=>h⟩
  case kill js=>cases h;exact⟨rfl,fun h=>h⟩
theorem OX (E:Env)(n:Nat):eP (fun g args B=>enter E g args B fun F st'=>exec E n F st'):=FK (fun s st o st' h=>dQ E n s st o st' h)
abbrev fB (σ : Nat -> Option FuncId) (β : Map) (I Wr : Nat -> Prop) (wd : Nat -> Prop) (w : World) (st : St) := aY σ st.base.length β I Wr wd (st.base ++ st.loc) w
end Fi
